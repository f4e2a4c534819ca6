/-
  The statement BoundLinear holds of the given program: its card, with the tied table of bits.TrailingZeros32; no further conditions. Part A2.
-/
import Derived.Orders
import Derived.LoopN
import Derived.Test.YtlfcbamejofhkaaGreatDoorA1
namespace Go.Ab
open Go
structure Inv where
 p:World→(Nat→Prop)→Prop
 stab:∀ {w w':World} {X:Nat→Prop},p w X→(∀ b,X b→w'.heap[b]?=w.heap[b]?)→p w' X
 more:∀ {w:World} {X X':Nat→Prop},p w X→(∀ b,X b→X' b)→p w X'
structure Far (nm:Bool) (w:World) (ρ:bd) (h:ac) (w':World) (ρ':bd) (h':ac):Prop where
 os:w'.os=w.os
 tape:w'.tape=w.tape
 output:w'.output=w.output
 size:w.heap.size≤w'.heap.size
 old:∀ b,b < w.heap.size → ¬ j5 h ρ b→w'.heap[b]?=w.heap[b]?
 fresh:∀ b,j5 h' ρ' b→j5 h ρ b∨w.heap.size≤b
 stay:∀ id,aQ id=true→h' id ≠ .dead→h id ≠ .dead∧ρ' id none=ρ id none
 keep:nm=true→∀ id p,aQ id=true→h' id ≠ .dead→bA h id (some p)→bA h' id (some p)∧ρ' id (some p)=ρ id (some p)
theorem R6 {nm:Bool} {ks:K} (h:pX nm ks=true) (hn:nm=true) {id:Nat} (hp:aQ id=true) (s:Option Nat):fh ks id s=false:=by
 subst hn
 simp only [pX,Bool.not_true,Bool.false_or,List.all_eq_true,Bool.not_eq_true'] at h
 simp only [fh,List.any_eq_false,Bool.and_eq_true,beq_iff_eq,not_and]
 intro p hm e
 subst e
 rw [h p hm] at hp
 cases hp
theorem Evo.far {nm:Bool} {w w':World} {ρ ρ':bd} {h h':ac} {ks:K} (e:Evo w ρ h w' ρ' h' ks) (hn:pX nm ks=true):Far nm w ρ h w' ρ' h' :=
 ⟨e.os,e.tape,e.output,e.size,e.old,e.fresh,e.stay,fun h1 id p hp _ h2=>e.keep id (some p) h2 (R6 hn h1 hp _)⟩
theorem ku (nm:Bool):pX nm []=true:=by cases nm <;> rfl
theorem Far.refl (nm:Bool) (w:World) (ρ:bd) (h:ac):Far nm w ρ h w ρ h:=(Evo.refl w ρ h).far (ku nm)
theorem Far.trans {nm:Bool} {w w' w'':World} {ρ ρ' ρ'':bd} {h h' h'':ac} (a:Far nm w ρ h w' ρ' h') (b:Far nm w' ρ' h' w'' ρ'' h''):Far nm w ρ h w'' ρ'' h'' :=
 ⟨b.os.trans a.os,b.tape.trans a.tape,b.output.trans a.output,Nat.le_trans a.size b.size,
  fun x hx ho=>(b.old x (Nat.lt_of_lt_of_le hx a.size) (fun o=>by rcases a.fresh x o with o | o; exact ho o; omega)).trans (a.old x hx ho),
  fun x o=>by
   rcases b.fresh x o with o | o
   ·exact a.fresh x o
   ·exact .inr (Nat.le_trans a.size o),
  fun id hp hd=>by
   obtain ⟨h1,h2⟩:=b.stay id hp hd
   obtain ⟨h3,h4⟩:=a.stay id hp h1
   exact ⟨h3,h2.trans h4⟩,
  fun hn id p hp hd h1=>by
   obtain ⟨h2,h3⟩:=a.keep hn id p hp (b.stay id hp hd).1 h1
   obtain ⟨h4,h5⟩:=b.keep hn id p hp hd h2
   exact ⟨h4,h5.trans h3⟩⟩
theorem Far.inv {I:Inv} {nm:Bool} {w w':World} {X:Nat→Prop} {ρ ρ':bd} {h h':ac} (f:Far nm w ρ h w' ρ' h') (r:Rel w X ρ h) (hi:I.p w X):I.p w' X :=
 I.stab hi fun b hb=>f.old b (r.xl b hb) fun ⟨id,sub,hl,e⟩=>r.nx id sub hl (e ▸ hb)
theorem Evo.inv {I:Inv} {w w':World} {X:Nat→Prop} {ρ ρ':bd} {h h':ac} {ks:K} (f:Evo w ρ h w' ρ' h' ks) (r:Rel w X ρ h) (hi:I.p w X):I.p w' X:=(f.far (nm:=false) rfl).inv r hi
def Enters (P:Program) (f:FuncId) (vals:Array Value) (w:World) (R:Value→World→Prop):Prop :=
 match (callFunc f vals).run P w with
 | .ok (.value v) w'=>R v w'
 | .ok (.enter g args) w'=>Calls P g args w' fun e w''=>match e with | .returned v=>R v w'' | _=>False
 | .ok (.row row args) w'=>Rows P row args w' R
 | _=>False
theorem Enters.mono {P:Program} {f:FuncId} {vals:Array Value} {w:World} {R R':Value→World→Prop} (h:Enters P f vals w R) (hr:∀ v w',R v w'→R' v w'):Enters P f vals w R':=by
 unfold Enters at *
 split at h
 ·exact hr _ _ h
 ·exact Calls.mono h fun e w' he=>by cases e <;> first | exact hr _ _ he | exact he
 ·exact Rows.mono h hr
 ·exact h.elim
def iQ (P:Program) (I:Inv) (call:er) (md:Mode):Prop :=
 ∀ {w:World} {X:Nat→Prop} {ρ:bd} {h h':ac} {d:Nat} {f z:AV} {as:List AV} {ks:K} {uf:Value} {us:Array Value},d < 1000→I.p w X→Rel w X ρ h→RV w (aE w X h ρ) ρ h f uf→us.size=as.length →
  (∀ (i:Nat) (c:AV) (u:Value),as[i]?=some c→us[i]?=some u→RV w (aE w X h ρ) ρ h c u)→dP call md h d as f=some (z,h',ks) →
  ∃ g first cap,uf = .func (.func g) first cap∧Enters P g (first++us++cap) w fun v w'=>Got w X ρ h w' h' ks z v
section
variable {P:Program} {w:World} {X:Nat→Prop} {ρ:bd} {h:ac} {s:aj} {a:Act} {call:er} {md:Mode} {N:Nat} {ops:Array Oper} {Q:Exit→Act→World→Prop} {I:Inv}
structure Ok (I:Inv) (N:Nat) (w:World) (X:Nat→Prop) (ρ:bd) (h:ac) (s:aj) (a:Act):Prop where
 rel:Rel w X ρ h
 rs:RS w (aE w X h ρ) ρ h s a.tmps
 size:N≤a.tmps.size
 defers:a.defers=[]
 inv:I.p w X
theorem Ok.put {w':World} {ρ':bd} {h':ac} {ks:K} {z:AV} {v:Value} (ok:Ok I N w X ρ h s a) (r:Rel w' X ρ' h') (e:Evo w ρ h w' ρ' h' ks) (hv:RV w' (aE w' X h' ρ') ρ' h' z v) {d:Option Nat} (hd:d.getD 0 < N) :
  Ok I N w' X ρ' h' (dy (nq ks s) d z) (a.put d v):=by
 have h1:=e.rs (X:=X) ok.rs
 cases d with
 | none=>exact ⟨r,h1,ok.size,ok.defers,e.inv ok.rel ok.inv⟩
 | some d=>exact ⟨r,h1.upd (Nat.lt_of_lt_of_le hd ok.size) hv,by simpa [Act.put] using ok.size,ok.defers,e.inv ok.rel ok.inv⟩
theorem Po {d:Nat} (hd:d < 1000):aQ d=false:=by simp only [aQ,decide_eq_false_iff_not]; omega
theorem ZD (hcall:iQ P I call md) (hN:N≤1000) {o:Oper} {aop:AOp} (hc:W9 P o.op=some aop) (hd:o.dst.getD 0 < N) (ok:Ok I N w X ρ h s a) {z:AV} {h':ac} {ks:K} (hz:step call md (o.dst.getD 0) aop s h=some (z,h',ks)) (hnm:pX md.nm ks=true)
  {K':Act→World→Prop} (hK:∀ a' w' ρ',Ok I N w' X ρ' h' (dy (nq ks s) o.dst z) a'→Far md.nm w ρ h w' ρ' h'→K' a' w'):o.wp P a w K' Q:=by
 have hdp:aQ (o.dst.getD 0)=false:=Po (Nat.lt_of_lt_of_le hd hN)
 replace hc:we P o.op=some aop:=by
  simp only [W9,Option.some.injEq] at hc
  cases h0:we P o.op with
  | none=>rw [h0] at hc; simp only [Option.getD_none] at hc; subst hc; cases hz
  | some q=>rw [h0] at hc; simp only [Option.getD_some] at hc; rw [hc]
 by_cases hcl:∃ f as,aop = .call f as
 ·obtain ⟨f,as,rfl⟩:=hcl
  have hop:∃ c fo,o.op = .call c∧c.callee = .value fo∧bE fo=some f∧mq c.args.toList=some as:=by
   cases ho:o.op <;> rw [ho] at hc <;> simp only [we] at hc
   case call c =>
    unfold G1 at hc
    split at hc
    ·exfalso
     unfold tY at hc
     split at hc
     ·obtain ⟨p,hp⟩:=bJ (fun _ h=>ir h) hc; cases hp
     ·obtain ⟨p,hp⟩:=bJ (fun _ h=>ir h) hc; cases hp
     ·obtain ⟨p,hp⟩:=bJ (fun _ h=>ir h) hc; cases hp
     ·obtain ⟨p,hp⟩:=bJ (fun _ h=>ir h) hc; cases hp
     ·unfold MN at hc
      split at hc
      ·simp only [Option.bind_eq_some_iff] at hc
       obtain ⟨_,_,_,_,_,_,_,_,_,_,_,_,hc⟩:=hc
       split at hc <;> cases hc
      ·cases hc
     ·unfold G0 at hc
      split at hc
      ·simp only [Option.bind_eq_some_iff] at hc
       obtain ⟨_,_,_,_,_,_,_,_,hc⟩:=hc
       split at hc <;> cases hc
      ·cases hc
     ·cases hc
    ·rename_i fo hfo
     simp only [Option.bind_eq_some_iff,Option.map_eq_some_iff] at hc
     obtain ⟨f',h1,l,h2,h3⟩:=hc
     cases h3
     exact ⟨c,fo,rfl,hfo,h1,h2⟩
    ·cases hc
   case makeFunc fn _ _ =>
    cases fn
    ·obtain ⟨p,hp⟩:=bJ (fun _ h=>ir h) hc; cases hp
    all_goals cases hc
   case alloc=>simp [Option.map_eq_some_iff] at hc
   case box=>simp [Option.bind_eq_some_iff] at hc
   case buildSlice =>
    simp only [xQ,Option.bind_eq_some_iff] at hc
    obtain ⟨_,_,_,_,hc⟩:=hc
    split at hc
    ·simp [Option.bind_eq_some_iff] at hc
    ·cases hc
   case makeSlice =>
    simp only [GZ,Option.bind_eq_some_iff] at hc
    obtain ⟨_,_,_,_,_,_,_,_,_,_,hc⟩:=hc
    split at hc
    ·simp at hc
    ·cases hc
   case load =>
    simp only [Option.bind_eq_some_iff] at hc
    obtain ⟨_,_,_,_,_,_,hc⟩:=hc
    split at hc <;> cases hc
   case store=>simp [Option.bind_eq_some_iff] at hc
   all_goals first
    | (cases hc; done)
    | (obtain ⟨p,hp⟩:=ir hc; cases hp; done)
    | (obtain ⟨p,hp⟩:=bJ (fun _ h=>ir h) hc; cases hp; done)
    | (obtain ⟨p,hp⟩:=bJ (fun _ h=>bJ (fun _ h=>ir h) h) hc; cases hp; done)
    | (obtain ⟨p,hp⟩:=bJ (fun _ h=>bJ (fun _ h=>bJ (fun _ h=>ir h) h) h) hc; cases hp; done)
    | (obtain ⟨p,hp⟩:=bJ (fun _ h=>bJ (fun _ h=>bJ (fun _ h=>bJ (fun _ h=>ir h) h) h) h) hc; cases hp; done)
    | (obtain ⟨p,hp⟩:=bJ (fun _ h=>bJ (fun _ h=>bJ (fun _ h=>Xc h) h) h) hc; cases hp; done)
  obtain ⟨c,fo,ho,hfo,h1,h2⟩:=hop
  obtain ⟨l1,l2⟩:=mY ok.rs h2
  obtain ⟨g,first,cap,e1,e2⟩:=hcall (us:=c.args.map a.eval) (Nat.lt_of_lt_of_le hd hN) ok.inv ok.rel (aM h1 ok.rs) (by simp [l1]) (fun i c' u hc' hu=>by
   simp only [List.getElem?_map,Option.map_eq_some_iff] at hc'
   obtain ⟨p,hp,rfl⟩:=hc'
   simp only [Array.getElem?_map,Option.map_eq_some_iff] at hu
   obtain ⟨q,hq,rfl⟩:=hu
   exact l2 i q p (by simpa using hq) hp) hz
  have hrun:(execOp a.eval o).run P w=(callFunc g (first++c.args.map a.eval++cap)).run P w:=by
   simp only [execOp,ho,resolve,hfo,e1,Deferred.ofValue,invoke,Sem.run_bind,Sem.run_pure,Result.andThen]
  unfold Oper.wp
  rw [hrun]
  have fin:∀ v w',Got w X ρ h w' h' ks z v→K' (a.put o.dst v) w':=fun v w' ⟨ρ',g1,g2,g3⟩=>hK _ _ ρ' (ok.put g1 g2 g3 hd) (g2.far hnm)
  unfold Enters at e2
  generalize (callFunc g (first++c.args.map a.eval++cap)).run P w=res at e2
  cases res with
  | ok n w' =>
   cases n <;> simp only at e2
   case value v=>exact fin _ _ e2
   case enter g' args' =>
    show Calls P g' args' w' _
    exact Calls.mono e2 fun e w'' he=>by cases e <;> first | exact fin _ _ he | exact he.elim
   case row row args'=>exact Rows.mono e2 fin
  | halt x w'=>cases e2
 ·obtain ⟨nx,v,w',g1,g2,ρ',g3,g4,g5⟩:=R5 hc (fun f as e=>hcl ⟨f,as,e⟩) ok.rel ok.rs hdp hz o rfl
  unfold Oper.wp
  rw [g1]
  rcases g2 with rfl | ⟨rfl,rfl⟩
  ·exact hK _ _ ρ' (ok.put g3 g4 g5 hd) (g4.far hnm)
  ·exact hK _ _ ρ' (ok.put g3 g4 g5 hd) (g4.far hnm)
end
section
variable {P:Program} {w w':World} {X:Nat→Prop} {ρ ρ':bd} {h h':ac} {s:aj} {a:Act} {call:er} {md:Mode} {N:Nat} {ops:Array Oper} {Q:Exit→Act→World→Prop} {A A':Nat→Prop} {I:Inv}
theorem Ok.undef (ok:Ok I N w X ρ h s a) {d:Option Nat} (hd:d.getD 0 < N):Ok I N w X ρ h (dy s d .und) (a.put d undef) :=
 ok.put (ks:=[]) ok.rel (.refl _ _ _) .und hd
theorem UL {u:Value} (hv:RV w A ρ h .und u):u=undef:=by
 cases hv with
 | und=>rfl
 | dat hd=>cases hd
theorem R7 {nm:Bool} {d:Option Nat} {r:Option R3} {t:St} (hz:cE nm s d r=some t):∃ z h' ks,r=some (z,h',ks)∧pX nm ks=true∧t=⟨dy (nq ks s) d z,h'⟩:=by
 unfold cE at hz
 split at hz
 ·split at hz
  ·cases hz; exact ⟨_,_,_,rfl,by assumption,rfl⟩
  ·cases hz
 ·cases hz
theorem Bj (hcall:iQ P I call md) (hN:N≤1000) {i:Nat} {o:Oper} {co:COp} (hget:ops[i]?=some o) (hc:A9 P N ops o=some co) (ok:Ok I N w X ρ h s a) {t:St} (hz:kW call md co s h=some t)
  {K':Act→World→Prop} (hK:∀ a' w' ρ',Ok I N w' X ρ' t.h t.s a'→Far md.nm w ρ h w' ρ' t.h→K' a' w'):wpOp P ops Q i K' a w:=by
 simp only [A9,Option.bind_eq_some_iff] at hc
 obtain ⟨g,e1,op,e2,hc⟩:=hc
 split at hc
 ·rename_i hcond
  cases hc
  simp only [Bool.and_eq_true,decide_eq_true_eq] at hcond
  have hd:=hcond.2
  have run:cE md.nm s o.dst (step call md (o.dst.getD 0) op s h)=some t→o.wp P a w K' Q:=by
   intro hf
   obtain ⟨z,h',ks,f1,f2,rfl⟩:=R7 hf
   exact ZD hcall hN e2 hd ok f1 f2 hK
  have skip:some (⟨dy s o.dst .und,h⟩:St)=some t→K' (a.put o.dst undef) w:=by
   intro hf
   cases hf
   exact hK _ _ ρ (ok.undef hd) (.refl _ _ _ _)
  unfold wpOp
  rw [hget]
  cases hg:o.guard with
  | none =>
   rw [hg] at e1
   simp only [Ho,Option.some.injEq] at e1
   subst e1
   simp only [kW] at hz
   simp only [Region.wanted,hg,if_true]
   exact .inl (run hz)
  | some jb =>
   obtain ⟨j,b⟩:=jb
   rw [hg] at e1
   simp only [Ho,Option.map_eq_some_iff] at e1
   obtain ⟨d,e3,rfl⟩:=e1
   simp only [kW,fW] at hz
   have hv:=ok.rs d
   simp only [Region.wanted,hg,yielded,e3,Option.bind_some]
   have cell:∀ v,a.tmps.getD d Go.undef=v→v ≠ Go.undef→a.tmps[d]?=some v:=by
    intro v hv hne
    rw [Array.getD_eq_getD_getElem?] at hv
    cases hq:a.tmps[d]? with
    | none=>rw [hq] at hv; exact absurd hv.symm hne
    | some v'=>rw [hq] at hv; simp at hv; rw [hv]
   split at hz
   ·rename_i b' hb'
    rw [hb'] at hv
    rw [cell _ hv.v_inv.1 (by simp [Go.undef])]
    split at hz
    ·rename_i hbb
     subst hbb
     simp only [beq_self_eq_true,if_true]
     exact .inl (run hz)
    ·rename_i hbb
     simp only [beq_iff_eq,Option.some.injEq,hbb,if_false]
     exact skip hz
   ·rename_i hb'
    rw [hb'] at hv
    have hu:=UL hv
    rw [Array.getD_eq_getD_getElem?] at hu
    cases hq:a.tmps[d]? with
    | none=>simpa using skip hz
    | some v'=>rw [hq] at hu; simp at hu; subst hu; simpa [Go.undef] using skip hz
   ·cases hz
 ·cases hc
theorem EL (hcall:iQ P I call md) (hN:N≤1000):∀ (rest:List Oper) (cl:List COp) (i:Nat) {w:World} {ρ:bd} {h:ac} {s:aj} {a:Act} {t:St},(∀ (j:Nat) (o:Oper),rest[j]?=some o→ops[i+j]?=some o)→kt P N ops rest=some cl→Ok I N w X ρ h s a →
  aG call md cl s h=some t→(∀ a' w' ρ',Ok I N w' X ρ' t.h t.s a'→Far md.nm w ρ h w' ρ' t.h→Q .normal a' w')→wpOps P ops Q (List.range' i rest.length) a w
 | [],cl,i,w,ρ,h,s,a,t,_,hc,ok,hz,hQ=>by
  simp only [kt,Option.some.injEq] at hc
  subst hc
  cases hz
  exact hQ _ _ ρ ok (.refl _ _ _ _)
 | o::rest,cl,i,w,ρ,h,s,a,t,hg,hc,ok,hz,hQ=>by
  simp only [kt,Option.bind_eq_some_iff] at hc
  obtain ⟨co,e1,q,e2,e3⟩:=hc
  cases e3
  simp only [aG,aW] at hz
  rw [List.length_cons,List.range'_succ,wpOps_cons]
  split at hz
  ·cases hz
  ·rename_i t1 ht1
   exact Bj hcall hN (by simpa using hg 0 o rfl) e1 ok ht1 fun a' w' ρ' ok' far =>
    EL hcall hN rest q (i+1) (fun j o' hj=>by rw [show i+1+j=i+(j+1) from by omega]; exact hg (j+1) o' (by simpa using hj)) e2 ok' hz fun a'' w'' ρ'' ok'' far'=>hQ _ _ ρ'' ok'' (far.trans far')
theorem xU {α:Type} (d:α) (f:Nat→α):∀ (l:List Nat) (i:Nat),mk d f l i=if i ∈ l then f i else d
 | [],i=>by simp [mk]
 | j::l,i=>by
  simp only [mk,upd,xU d f l i,List.mem_cons]
  by_cases e:i=j
  ·subst e; simp
  ·simp [e]
theorem RS.some (hs:RS w A ρ h s a.tmps) {s':aj} (he:∀ i,s' i=s i∨s' i = .any):RS w A ρ h s' a.tmps:=fun i=>by
 rcases he i with e | e
 ·rw [e]; exact hs i
 ·rw [e]; exact .anyv _
theorem Ok.some (ok:Ok I N w X ρ h s a) {s':aj} (he:∀ i,s' i=s i∨s' i = .any):Ok I N w X ρ h s' a:=⟨ok.rel,ok.rs.some he,ok.size,ok.defers,ok.inv⟩
theorem RV.knownL {l:List Nat} {c:AV} {u:Value} (hv:RV w A ρ h c u) (hA:∀ b,A b→A' b∧w'.heap[b]?=w.heap[b]?) (hk:∀ id sub,bA h id sub→l.contains id=true→bA h' id sub∧ρ' id sub=ρ id sub) (hm:knownL l c=true):RV w' A' ρ' h' c u:=by
 cases hv with
 | anyv u=>exact .anyv u
 | und=>exact .und
 | dat hd=>exact .dat (hd.mono hA)
 | ref id sub k i j hp =>
  obtain ⟨h1,h2⟩:=hk id sub hp hm
  rw [← h2]; exact .ref id sub k i j h1
 | rsl id sub k lo n cap a hp hn hb ha =>
  obtain ⟨h1,h2⟩:=hk id sub hp hm
  exact .rsl id sub k lo n cap a h1 hn (by rw [h2]; exact hb) (by rw [h2]; exact ha)
 | ipt cs ad vals hA' hs hv hl hr =>
  exact .ipt cs ad vals (hA _ hA').1 hs (fun j c hc=>by rw [gL (w:=w) (w':=w') (by rw [iP]; exact (hA _ hA').2)]; exact hv j c hc) hl (fun j c hc=>(hr j c hc).mono hA)
 | agg cs us hs h1 hr=>simp [Ab.knownL] at hm
 | tup vs us hs hr=>simp [Ab.knownL] at hm
 | fn f x y us ts hs ht hx hy =>
  simp [Ab.knownL] at hm
  obtain ⟨rfl,rfl⟩:=hm
  exact .fn f [] [] us ts hs ht (fun i c u hc=>by simp at hc) (fun i c u hc=>by simp at hc)
theorem RV.knownA {l:List Nat} {c:AV} {u:Value} (hv:RV w A ρ h c u) (hA:∀ b,A b→A' b∧w'.heap[b]?=w.heap[b]?) (hk:∀ id sub,bA h id sub→l.contains id=true→bA h' id sub∧ρ' id sub=ρ id sub) (hm:knownA l c=true):RV w' A' ρ' h' c u:=by
 cases c with
 | agg cs =>
  simp only [Ab.knownA,List.all_eq_true] at hm
  cases hv with
  | dat hd=>exact .dat (hd.mono hA)
  | agg _ us hs h1 hr=>exact .agg cs us hs h1 fun i c u hc hu=>(hr i c u hc hu).knownL hA hk (hm c (List.mem_of_getElem? hc))
 | fn f x y =>
  simp only [Ab.knownA,Bool.and_eq_true,List.all_eq_true] at hm
  cases hv with
  | dat hd=>exact .dat (hd.mono hA)
  | fn _ _ _ us ts hs ht hx hy=>exact .fn f x y us ts hs ht (fun i c u hc hu=>(hx i c u hc hu).knownL hA hk (hm.1 c (List.mem_of_getElem? hc))) (fun i c u hc hu=>(hy i c u hc hu).knownL hA hk (hm.2 c (List.mem_of_getElem? hc)))
 | _=>exact hv.knownL hA hk hm
theorem mr {l:List Nat} {c:AV} (hc:bc l c=true):knownL l c=true:=by
 cases c <;> simp [bc,knownL] at hc ⊢ <;> first | exact hc.1 | exact hc
theorem FH {l:List Nat} {c:AV} (hc:aU l c=true):knownA l c=true:=by
 cases c with
 | agg cs =>
  simp only [aU,knownA,List.all_eq_true] at hc ⊢
  exact fun c h=>mr (hc c h)
 | fn f x y =>
  simp only [aU,knownA,Bool.and_eq_true,List.all_eq_true] at hc ⊢
  exact ⟨fun c h=>mr (hc.1 c h),fun c h=>mr (hc.2 c h)⟩
 | _ =>
  simp only [aU,knownA] at hc ⊢
  exact mr hc
theorem Hu (nm:Bool) (r:Rel w X ρ h) {hs:List Nat} (hcl:∀ id,id ∈ hs→bq hs (h id)=true):Rel w X ρ (mk .dead h hs)∧Far nm w ρ h w ρ (mk .dead h hs) ∧
  ∀ {c:AV} {u:Value},RV w (aE w X h ρ) ρ h c u→knownA hs c=true→RV w (aE w X (mk .dead h hs) ρ) ρ (mk .dead h hs) c u:=by
 have at_:∀ id,id ∈ hs→mk .dead h hs id=h id:=fun id hi=>by rw [xU,if_pos hi]
 have not_:∀ id,id ∉ hs→mk .dead h hs id = .dead:=fun id hi=>by rw [xU,if_neg hi]
 have hl:∀ id sub,live (mk .dead h hs) id sub→id ∈ hs∧live h id sub:=by
  intro id sub h1
  by_cases hi:id ∈ hs
  ·exact ⟨hi,(bN (at_ id hi)).1 h1⟩
  ·exfalso
   have:=not_ id hi
   cases sub <;> simp [live,this] at h1
 have hA:∀ b,aE w X h ρ b→aE w X (mk .dead h hs) ρ b∧w.heap[b]?=w.heap[b]?:=fun b hb=>⟨⟨hb.1,hb.2.1,fun ⟨id,sub,h1,h2⟩=>hb.2.2 ⟨id,sub,(hl id sub h1).2,h2⟩⟩,rfl⟩
 have hk:∀ id sub,bA h id sub→hs.contains id=true→bA (mk .dead h hs) id sub∧ρ id sub=ρ id sub:=fun id sub hp hi=>⟨(c9 (at_ id (by simpa using hi))).2 hp,rfl⟩
 have far:Far nm w ρ h w ρ (mk .dead h hs):=by
  refine ⟨rfl,rfl,rfl,Nat.le_refl _,fun _ _ _=>rfl,fun b ⟨id,sub,h1,h2⟩ => .inl ⟨id,sub,(hl id sub h1).2,h2⟩,fun id _ hd=>⟨fun e => ?_,rfl⟩,fun _ id p _ hd hp=>⟨?_,rfl⟩⟩
  ·by_cases hi:id ∈ hs
   ·rw [at_ id hi] at hd; exact hd e
   ·exact hd (not_ id hi)
  ·by_cases hi:id ∈ hs
   ·exact (c9 (at_ id hi)).2 hp
   ·exact absurd (not_ id hi) hd
 refine ⟨⟨fun a b c d h1 h2=>r.inj a b c d (hl a b h1).2 (hl c d h2).2,fun a b h1=>r.nx a b (hl a b h1).2,fun id => ?_,r.xl⟩,far,fun hv hc=>hv.knownA hA hk hc⟩
 by_cases hi:id ∈ hs
 ·have ho:=r.ob id
  have hc:=hcl id hi
  rw [at_ id hi]
  cases e:h id with
  | dead=>trivial
  | bx cs =>
   rw [e] at ho hc
   obtain ⟨us,t,h1,h2,h3,h4⟩:=ho
   refine ⟨us,t,h1,h2,h3,fun p c hcp => ?_⟩
   obtain ⟨u,h5,h6⟩:=h4 p c hcp
   refine ⟨u,h5,?_⟩
   simp only [bq,List.all_eq_true] at hc
   have hcc:=hc c (List.mem_of_getElem? hcp)
   cases hO:aO c with
   | true =>
    cases c <;> simp [aO] at hO
    obtain ⟨a,cap,us',t',g1,g2,g3,g4,g5,g6,g7⟩:=h6
    exact ⟨a,cap,us',t',g1,g2,g3,g4,g5,g6,g7.mono hA⟩
   | false =>
    rw [kr hO] at h6 ⊢
    have hca:aU hs c=true:=by simpa [cZ,hO] using hcc
    refine ⟨h6.1.knownA hA hk (FH hca),h6.2.1,?_⟩
    have h7:=h6.2.2
    cases c <;> try exact h7
    rename_i id' sub' _ _ _
    cases sub' with
    | none =>
     have hm:id' ∈ hs:=by simpa [aU,bc] using hca
     simp only [gi] at h7 ⊢
     rw [at_ id' hm]; exact h7
    | some p=>exact h7
  | ar k rows =>
   rw [e] at ho
   obtain ⟨us,t,h1,h2,h3,h4⟩:=ho
   exact ⟨us,t,h1,h2,h3,h4.mono hA⟩
  | fz k rows =>
   rw [e] at ho
   obtain ⟨h0,us,t,fr,h1,h2,h3,h4⟩:=ho
   exact ⟨(hA _ h0).1,us,t,fr,h1,h2,h3,h4.mono hA⟩
 ·rw [not_ id hi]
  trivial
end
def TY:Ex→Exit
 | .normal => .normal
 | .exit id => .exit id
 | .ret => .ret
def EM (P:Program) (I:Inv) (call:er) (md:Mode) (N:Nat):Prop :=
 ∀ {id:Nat} {ops:Array Oper} {cl:List COp} {w:World} {X:Nat→Prop} {ρ:bd} {h:ac} {s:aj} {a:Act} {t:St} {ps:List (Nat × Nat)} {Q:Exit→Act→World→Prop},kt P N ops ops.toList=some cl→O6 ops.toList cl ps=true→Ok I N w X ρ h s a→pf call md cl ps s h=some t →
  (∀ a' w' ρ',Ok I N w' X ρ' t.h t.s a'→Far md.nm w ρ h w' ρ' t.h→Q .normal a' w')→(Code.region id ops true).wp P Q a w
section
variable {P:Program} {X:Nat→Prop} {call:er} {md:Mode} {N:Nat} {I:Inv} {nm:Bool}
theorem wn (s:aj) (ks:List Nat) (i:Nat):mk .any s ks i=s i∨mk .any s ks i = .any:=by
 rw [xU]
 split
 ·exact .inl rfl
 ·exact .inr rfl
theorem Na (hs:List Nat) (a:AV):(eK hs a=a∧knownA hs a=true)∨eK hs a = .any:=by
 unfold eK
 split
 ·exact .inl ⟨rfl,by assumption⟩
 ·exact .inr rfl
theorem Pp {w:World} {ρ:bd} {h:ac} {s:aj} {a:Act} (ok:Ok I N w X ρ h s a) {ks hs:List Nat} (hcl:(hs.all fun a=>bq hs (h a))=true) :
  Ok I N w X ρ (mk .dead h hs) (mk .any (fun i=>eK hs (s i)) ks) a∧Far nm w ρ h w ρ (mk .dead h hs):=by
 obtain ⟨h1,h2,h3⟩:=Hu nm ok.rel (hs:=hs) (fun id hi=>List.all_eq_true.1 hcl id hi)
 refine ⟨⟨h1,fun i => ?_,ok.size,ok.defers,ok.inv⟩,h2⟩
 rcases wn (fun i=>eK hs (s i)) ks i with e | e
 ·rw [e]
  rcases Na hs (s i) with ⟨e2,e3⟩ | e2
  ·rw [e2]; exact h3 (ok.rs i) e3
  ·rw [e2]; exact .anyv _
 ·rw [e]; exact .anyv _
def EN (P:Program) (I:Inv) (nm:Bool) (X:Nat→Prop) (N:Nat) (f:aj→ac→Option (Ex × St)) (c:Code):Prop :=
 ∀ {s:aj} {h:ac} {e:Ex} {t:St} {w:World} {ρ:bd} {a:Act} {Q:Exit→Act→World→Prop},f s h=some (e,t)→Ok I N w X ρ h s a→(∀ a' w' ρ',Ok I N w' X ρ' t.h t.s a'→Far nm w ρ h w' ρ' t.h→Q (TY e) a' w')→c.wp P Q a w
theorem Bk {body:aj→ac→Option (Ex × St)} {c:Code} (hb:EN P I nm X N body c) {ks hs:List Nat}:∀ (n:Nat) {s:aj} {h:ac} {e:Ex} {t:St} {w:World} {ρ:bd} {a:Act} {Q:Exit→Act→World→Prop},
  jU body ks hs n s h=some (e,t)→Ok I N w X ρ h s a→(∀ a' w' ρ',Ok I N w' X ρ' t.h t.s a'→Far nm w ρ h w' ρ' t.h→Q (TY e) a' w')→Code.rounds P c Q n a w
 | 0,s,h,e,t,w,ρ,a,Q,hz,_,_=>by simp [jU] at hz
 | n+1,s,h,e,t,w,ρ,a,Q,hz,ok,hQ=>by
  simp only [jU] at hz
  split at hz
  ·rename_i hcl
   obtain ⟨ok1,far1⟩:=Pp ok (ks:=ks) hcl
   rw [rounds_succ]
   split at hz
   ·rename_i t1 ht1
    exact hb ht1 ok1 fun a' w' ρ' ok2 far2=>Bk hb n hz ok2 fun a'' w'' ρ'' ok3 far3=>hQ _ _ ρ'' ok3 (far1.trans (far2.trans far3))
   ·rename_i r hne
    refine hb hz ok1 fun a' w' ρ' ok2 far2 => ?_
    have:=hQ a' w' ρ' ok2 (far1.trans far2)
    cases e with
    | normal=>exact absurd hz (hne t)
    | exit id=>exact this
    | ret=>exact this
  ·cases hz
theorem Nb {i:Nat} {w:World} {ρ:bd} {h:ac} {s:aj} {a:Act} {r:aj × ac × K} (ok:Ok I N w X ρ h s a) (hz:RW i s h (s i)=some r) (hnm:pX nm r.2.2=true) :
  Ok I N w X ρ r.2.1 r.1 a∧Far nm w ρ h w ρ r.2.1:=by
 have hv:=ok.rs i
 cases hi:s i <;> rw [hi] at hz hv <;> simp only [RW] at hz <;> try (cases hz; done)
 case rsl id sub k lo n =>
  simp only [Option.map_eq_some_iff] at hz
  obtain ⟨q,e1,rfl⟩:=hz
  obtain ⟨x,h',ks⟩:=q
  have h1:(a.tmps.getD i undef).oneCell'=true:=by
   obtain ⟨_,_,e,_⟩:=hv.rsl_inv
   rw [e]; rfl
  obtain ⟨g1,g2,g3,g4⟩:=ug ok.rel hv (fun b hb=>hb) h1 e1
  refine ⟨⟨g1,fun j => ?_,ok.size,ok.defers,g2.inv ok.rel ok.inv⟩,g2.far hnm⟩
  show RV w (aE w X h' ρ) ρ h' (upd (nq ks s) i x j) _
  rw [cY]
  split
  ·rename_i hj; subst hj; exact .dat g3
  ·exact g2.rs ok.rs j
 case ref id sub k j l =>
  cases sub with
  | some p=>cases hz
  | none =>
   simp only at hz
   cases ho:h id <;> rw [ho] at hz <;> simp only at hz <;> try (cases hz; done)
   cases hz
   rename_i cs
   obtain ⟨g1,g2⟩:=wh (ds:=cs.map hF) ok.rel ho (by simp) fun p c hc=>by
    cases hq:aO c with
    | true=>exact .inr ⟨rfl,by simp [hc]⟩
    | false=>exact .inl (by simp [hc,LE hq])
   exact ⟨⟨g1,g2.rs ok.rs,ok.size,ok.defers,g2.inv ok.rel ok.inv⟩,g2.far hnm⟩
theorem Bl:∀ (is:List Nat) {w:World} {ρ:bd} {h:ac} {s:aj} {a:Act} {t:St},Ok I N w X ρ h s a→CU nm is s h=some t→Ok I N w X ρ t.h t.s a∧Far nm w ρ h w ρ t.h
 | [],w,ρ,h,s,a,t,ok,hz=>by cases hz; exact ⟨ok,.refl _ _ _ _⟩
 | i::l,w,ρ,h,s,a,t,ok,hz=>by
  simp only [CU,Option.bind_eq_some_iff] at hz
  obtain ⟨r,e1,e2⟩:=hz
  split at e2
  ·rename_i hn
   obtain ⟨g1,g2⟩:=Nb ok e1 hn
   obtain ⟨f1,f2⟩:=Bl l g1 e2
   exact ⟨f1,g2.trans f2⟩
  ·cases e2
theorem Nc (hcall:iQ P I call md) (hN:N≤1000) (hD:EM P I call md N) (lf:Nat):∀ (cmd:Cmd) (c:Code),dX P N c cmd=some cmd→EN P I md.nm X N (bg call md lf cmd) c:=by
 intro cmd
 induction cmd with
 | skip =>
  intro c hc s h e t w ρ a Q hz ok hQ
  cases c <;> (try simp only [dX] at hc) <;> (try (cases hc; done))
  ·simp only [bg,Option.some.injEq,Prod.mk.injEq] at hz
   obtain ⟨rfl,rfl⟩:=hz
   exact wp_skip (hQ _ _ ρ ok (.refl _ _ _ _))
  all_goals (exfalso; revert hc; simp [Option.bind_eq_some_iff])
 | ops ks l =>
  intro c hc s h e t w ρ a Q hz ok hQ
  cases c <;> (try simp only [dX] at hc) <;> (try (cases hc; done))
  rename_i id ops dr
  cases dr <;> (try simp only [dX] at hc) <;> (try (cases hc; done))
  simp only [Option.map_eq_some_iff] at hc
  obtain ⟨l',h1,h2⟩:=hc
  cases h2
  simp only [bg,aW] at hz
  split at hz
  ·cases hz
  ·rename_i t1 ht1
   simp only [Option.some.injEq,Prod.mk.injEq] at hz
   obtain ⟨rfl,rfl⟩:=hz
   refine wp_region ?_
   rw [List.range_eq_range',show ops.size=ops.toList.length from Array.length_toList.symm]
   exact EL hcall hN ops.toList l 0 (fun j o hj=>by simpa using hj) h1 ok ht1 fun a' w' ρ' ok' far=>hQ _ _ ρ' (ok'.some (wn _ _)) far
 | dops ks l ps =>
  intro c hc s h e t w ρ a Q hz ok hQ
  cases c <;> (try simp only [dX] at hc) <;> (try (cases hc; done))
  rename_i id ops dr
  cases dr <;> (try simp only [dX] at hc) <;> (try (cases hc; done))
  simp only [Option.bind_eq_some_iff] at hc
  obtain ⟨l',h1,h2⟩:=hc
  split at h2
  ·rename_i hps
   cases h2
   simp only [bg,aW] at hz
   split at hz
   ·cases hz
   ·rename_i t1 ht1
    simp only [Option.some.injEq,Prod.mk.injEq] at hz
    obtain ⟨rfl,rfl⟩:=hz
    exact hD h1 hps ok ht1 fun a' w' ρ' ok' far=>hQ _ _ ρ' (ok'.some (wn _ _)) far
  ·cases h2
 | seq x y ihx ihy =>
  intro c hc s h e t w ρ a Q hz ok hQ
  cases c <;> (try simp only [dX] at hc) <;> (try (cases hc; done))
  simp only [Option.bind_eq_some_iff,Option.map_eq_some_iff] at hc
  obtain ⟨c1,h1,c2,h2,h3⟩:=hc
  cases h3
  simp only [bg,bm] at hz
  refine wp_seq ?_
  split at hz
  ·cases hz
  ·rename_i t1 ht1
   exact ihx _ h1 ht1 ok fun a' w' ρ' ok1 far1=>ihy _ h2 hz ok1 fun a'' w'' ρ'' ok2 far2=>hQ _ _ ρ'' ok2 (far1.trans far2)
  ·rename_i i t1 ht1
   cases hz
   exact ihx _ h1 ht1 ok fun a' w' ρ' ok1 far1=>hQ a' w' ρ' ok1 far1
  ·rename_i t1 ht1
   cases hz
   exact ihx _ h1 ht1 ok fun a' w' ρ' ok1 far1=>hQ a' w' ρ' ok1 far1
 | cond b x y ihx ihy =>
  intro c hc s h e t w ρ a Q hz ok hQ
  cases c <;> (try simp only [dX] at hc) <;> (try (cases hc; done))
  simp only [Option.bind_eq_some_iff,Option.map_eq_some_iff] at hc
  obtain ⟨b',h0,c1,h1,c2,h2,h3⟩:=hc
  cases h3
  simp only [bg] at hz
  have hv:=aM h0 ok.rs
  unfold iX at hz
  split at hz
  ·rename_i tt htt
   rw [htt] at hv
   refine wp_cond hv.v_inv.1 ?_
   cases tt with
   | true=>exact ihx _ h1 hz ok hQ
   | false=>exact ihy _ h2 hz ok hQ
  ·cases hz
 | block id ks x ih =>
  intro c hc s h e t w ρ a Q hz ok hQ
  cases c <;> (try simp only [dX] at hc) <;> (try (cases hc; done))
  simp only [Option.map_eq_some_iff] at hc
  obtain ⟨c1,h1,h3⟩:=hc
  cases h3
  simp only [bg] at hz
  refine wp_block ?_
  unfold au at hz
  split at hz
  ·cases hz
  ·rename_i t1 ht1
   cases hz
   exact ih _ h1 ht1 ok fun a' w' ρ' ok1 far1=>hQ a' w' ρ' (ok1.some (wn _ _)) far1
  ·rename_i i t1 ht1
   refine ih _ h1 ht1 ok fun a' w' ρ' ok1 far1 => ?_
   split at hz
   ·rename_i hi
    cases hz
    have:=hQ a' w' ρ' (ok1.some (wn _ _)) far1
    simpa [TY,Exit.inBlock,hi] using this
   ·rename_i hi
    cases hz
    have:=hQ a' w' ρ' ok1 far1
    simpa [TY,Exit.inBlock,hi] using this
  ·rename_i t1 ht1
   cases hz
   exact ih _ h1 ht1 ok fun a' w' ρ' ok1 far1=>hQ a' w' ρ' ok1 far1
 | loop ks hs x ih =>
  intro c hc s h e t w ρ a Q hz ok hQ
  cases c <;> (try simp only [dX] at hc) <;> (try (cases hc; done))
  simp only [Option.map_eq_some_iff] at hc
  obtain ⟨c1,h1,h3⟩:=hc
  cases h3
  simp only [bg] at hz
  exact wp_loop_rounds lf (Bk (ih _ h1) lf hz ok hQ)
 | exit id =>
  intro c hc s h e t w ρ a Q hz ok hQ
  cases c <;> (try simp only [dX] at hc) <;> (try (cases hc; done))
  cases hc
  simp only [bg,Option.some.injEq,Prod.mk.injEq] at hz
  obtain ⟨rfl,rfl⟩:=hz
  exact wp_exit (hQ _ _ ρ ok (.refl _ _ _ _))
 | ret =>
  intro c hc s h e t w ρ a Q hz ok hQ
  cases c <;> (try simp only [dX] at hc) <;> (try (cases hc; done))
  simp only [bg,Option.some.injEq,Prod.mk.injEq] at hz
  obtain ⟨rfl,rfl⟩:=hz
  exact wp_ret (hQ _ _ ρ ok (.refl _ _ _ _))
 | frz is x ih =>
  intro c hc s h e t w ρ a Q hz ok hQ
  have hc':(dX P N c x).map (Cmd.frz is)=some (.frz is x):=by
   cases c <;> simpa only [dX] using hc
  simp only [Option.map_eq_some_iff] at hc'
  obtain ⟨c1,h1,h3⟩:=hc'
  cases h3
  simp only [bg,aW] at hz
  split at hz
  ·cases hz
  ·rename_i t1 ht1
   obtain ⟨ok1,far1⟩:=Bl is ok ht1
   exact ih _ h1 hz ok1 fun a' w' ρ' ok2 far2=>hQ a' w' ρ' ok2 (far1.trans far2)
end
def ui (P:Program) (I:Inv) (kp:Bool) (f:FuncId) (g:List AV→List Ob→Option (AV × List Ob)):Prop :=
 ∀ {args:List AV} {obs obs':List Ob} {res:AV} {w:World} {X:Nat→Prop} {ρ:bd} {vals:Array Value} {n:Nat},g args obs=some (res,obs')→2000≤n→I.p w X→Rel w X ρ (ax obs)→vals.size=args.length →
  (∀ (i:Nat) (c:AV) (u:Value),args[i]?=some c→vals[i]?=some u→RV w (aE w X (ax obs) ρ) ρ (ax obs) c u) →
  Enters P f vals w fun v w'=>∃ ρ',Rel w' X ρ' (mat n (ax obs') res).2∧Far kp w ρ (ax obs) w' ρ' (mat n (ax obs') res).2∧RV w' (aE w' X (mat n (ax obs') res).2 ρ') ρ' (mat n (ax obs') res).2 (mat n (ax obs') res).1 v
def py (tmps:Array Value):ResultVar→Sem Value
 | .tmp t=>pure (tmps.getD t Go.undef)
 | .cell c t=>do loadVar t (← asAddr (tmps.getD c Go.undef))
section
variable {P:Program} {w w':World} {X:Nat→Prop} {ρ ρ':bd} {h h':ac} {s:aj} {a:Act} {call:er} {md:Mode} {N:Nat}
theorem yK:∀ (rs:List ResultVar) (l:List Rv) {h h':ac} {s:aj} {vs:List AV} {ks:K},ub P rs=some l→Rel w X ρ h→RS w (aE w X h ρ) ρ h s a.tmps→ns s h l=some (vs,h',ks) →
  ∃ us:List Value,(rs.mapM (py a.tmps)).run P w = .ok us w∧us.length=vs.length∧Rel w X ρ h'∧Evo w ρ h w ρ h' ks ∧
   ∀ (i:Nat) (c:AV) (u:Value),vs[i]?=some c→us[i]?=some u→RV w (aE w X h' ρ) ρ h' c u
 | [],l,h,h',s,vs,ks,hc,r,hs,hz=>by
  simp only [ub,Option.some.injEq] at hc
  subst hc
  simp only [ns,Option.some.injEq,Prod.mk.injEq] at hz
  obtain ⟨rfl,rfl,rfl⟩:=hz
  exact ⟨[],rfl,rfl,r,.refl _ _ _,fun i c u hc=>by simp at hc⟩
 | x::rs,l,h,h',s,vs,ks,hc,r,hs,hz=>by
  have step1:∃ rv l',l=rv::l'∧ub P rs=some l'∧∀ {z:AV} {h1:ac} {k1:K},RY s h rv=some (z,h1,k1)→∃ v,(py a.tmps x).run P w = .ok v w ∧
    Rel w X ρ h1∧Evo w ρ h w ρ h1 k1∧RV w (aE w X h1 ρ) ρ h1 z v:=by
   cases x with
   | tmp t =>
    simp only [ub,Option.map_eq_some_iff] at hc
    obtain ⟨l',h1,rfl⟩:=hc
    refine ⟨_,l',rfl,h1,fun {z h1 k1} e => ?_⟩
    simp only [RY,Option.some.injEq,Prod.mk.injEq] at e
    obtain ⟨rfl,rfl,rfl⟩:=e
    exact ⟨_,rfl,r,.refl _ _ _,hs t⟩
   | cell c t =>
    simp only [ub,Option.bind_eq_some_iff] at hc
    obtain ⟨g,g1,k,g2,hc⟩:=hc
    split at hc
    ·simp only [Option.map_eq_some_iff] at hc
     obtain ⟨l',h1,rfl⟩:=hc
     refine ⟨_,l',rfl,h1,fun {z h1 k1} e => ?_⟩
     obtain ⟨ad,v,q1,q2,q3,q4,q5⟩:=yG (P:=P) r g1 g2 (hs c) e
     refine ⟨v,?_,q3,q4,q5⟩
     simp only [py]
     rw [q1]
     exact q2
    ·cases hc
  obtain ⟨rv,l',rfl,hc',key⟩:=step1
  simp only [ns,Option.bind_eq_some_iff] at hz
  obtain ⟨⟨z,h1,k1⟩,e1,⟨vs',h2,k2⟩,e2,e3⟩:=hz
  cases e3
  obtain ⟨v,f1,f2,f3,f4⟩:=key e1
  obtain ⟨us,g1,g2,g3,g4,g5⟩:=yK rs l' hc' f2 (f3.rs hs) e2
  refine ⟨v::us,by rw [List.mapM_cons,Sem.run_bind,f1]; simp only [Result.andThen]; rw [Sem.run_bind,g1]; rfl,by simp [g2],g3,f3.trans g4,fun i c u hc hu => ?_⟩
  cases i with
  | zero =>
   simp only [List.getElem?_cons_zero,Option.some.injEq] at hc hu
   subst hc hu
   cases k2 with
   | nil=>exact g4.rv f4
   | cons p k2 =>
    simp only [Hl,lZ]
    split
    ·exact .anyv _
    ·rename_i hm
     exact g4.rvk f4 (.inr (by simpa using hm))
  | succ i=>exact g5 i c u (by simpa using hc) (by simpa using hu)
end
structure Emb (L:List Nat) (f g:Nat→Nat) (h' h2:ac):Prop where
 back:∀ id,L.contains id=true→g (f id)=id∧h2 (f id)=dx f (h' id)
 obj:∀ i,h2 i ≠ .dead→h2 i=dx f (h' (g i))∧bq L (h' (g i))=true
 inj:∀ i j,h2 i ≠ .dead→h2 j ≠ .dead→g i=g j→i=j
section
variable {w:World} {X:Nat→Prop} {ρ:bd} {h' h2:ac} {A A2:Nat→Prop} {L:List Nat} {f g:Nat→Nat}
theorem wo {o:Ob}:dx f o = .dead↔o = .dead:=by cases o <;> simp [dx]
theorem LG (o:Ob):bf (dx f o)=bf o:=by cases o <;> rfl
theorem R8 {c:AV} {k:Nat} {rows:List (List AV)}:eQ f c = .osl k rows↔c = .osl k rows:=by cases c <;> simp [eQ,mH]
theorem Pq (c:AV):aO (eQ f c)=aO c:=by cases c <;> rfl
theorem RV.embL (em:Emb L f g h' h2) {c:AV} {u:Value} (hv:RV w A ρ h' c u) (hA:∀ b,A b→A2 b) (hm:bc L c=true):RV w A2 (fun i s=>ρ (g i) s) h2 (mH f c) u:=by
 cases hv with
 | anyv u=>exact .anyv u
 | und=>exact .und
 | dat hd =>
  have:mH f c=c:=by cases hd <;> rfl
  rw [this]
  exact .dat (hd.mono fun b hb=>⟨hA b hb,rfl⟩)
 | ref id sub k i j hp =>
  simp only [bc,Bool.and_eq_true] at hm
  obtain ⟨h1,h3⟩:=em.back id hm.1
  cases sub with
  | some p=>simp at hm
  | none =>
   have:=RV.ref (w:=w) (A:=A2) (ρ:=fun i s=>ρ (g i) s) (h:=h2) (f id) none k i j (by simp only [bA,h3,ne_eq,wo]; exact hp)
   simp only [h1] at this
   exact this
 | rsl id sub k lo n cap a hp hn hb ha =>
  simp only [bc,Bool.and_eq_true] at hm
  obtain ⟨h1,h3⟩:=em.back id hm.1
  cases sub with
  | some p=>simp at hm
  | none=>exact .rsl (f id) none k lo n cap a (by simp only [bA,h3,ne_eq,wo]; exact hp) hn (by simp only [h1]; exact hb) (by simp only [h1]; exact ha)
 | ipt cs ad vals hA' hs hv hl hr=>exact .ipt cs ad vals (hA _ hA') hs hv hl (fun j c hc=>(hr j c hc).mono fun b hb=>⟨hA b hb,rfl⟩)
 | agg cs us hs h1 hr=>simp [bc] at hm
 | tup vs us hs hr=>simp [bc] at hm
 | fn ff x y us ts hs ht hx hy =>
  simp [bc] at hm
  obtain ⟨rfl,rfl⟩:=hm
  exact .fn ff [] [] us ts hs ht (fun i c u hc=>by simp at hc) (fun i c u hc=>by simp at hc)
theorem RV.embA (em:Emb L f g h' h2) {c:AV} {u:Value} (hv:RV w A ρ h' c u) (hA:∀ b,A b→A2 b) (hm:aU L c=true):RV w A2 (fun i s=>ρ (g i) s) h2 (eQ f c) u:=by
 cases c with
 | agg cs =>
  simp only [aU,List.all_eq_true] at hm
  obtain ⟨us,rfl,hs,h1,hr⟩:=hv.agg_inv
  refine .agg _ us (by simpa using hs) h1 fun i c u hc hu => ?_
  simp only [List.getElem?_map,Option.map_eq_some_iff] at hc
  obtain ⟨c',hc',rfl⟩:=hc
  exact (hr i c' u hc' hu).embL em hA (hm c' (List.mem_of_getElem? hc'))
 | fn ff x y =>
  simp only [aU,Bool.and_eq_true,List.all_eq_true] at hm
  obtain ⟨us,ts,rfl,hs,ht,hx,hy⟩:=hv.fn_inv
  refine .fn ff _ _ us ts (by simpa using hs) (by simpa using ht) (fun i c u hc hu => ?_) (fun i c u hc hu => ?_)
  ·simp only [List.getElem?_map,Option.map_eq_some_iff] at hc
   obtain ⟨c',hc',rfl⟩:=hc
   exact (hx i c' u hc' hu).embL em hA (hm.1 c' (List.mem_of_getElem? hc'))
  ·simp only [List.getElem?_map,Option.map_eq_some_iff] at hc
   obtain ⟨c',hc',rfl⟩:=hc
   exact (hy i c' u hc' hu).embL em hA (hm.2 c' (List.mem_of_getElem? hc'))
 | _ =>
  simp only [aU,eQ] at hm ⊢
  exact hv.embL em hA hm
theorem Emb.live (em:Emb L f g h' h2) {i:Nat} {s:Option Nat} (hl:live h2 i s):live h' (g i) s∧h2 i ≠ .dead:=by
 have hd:h2 i ≠ .dead:=O4 hl |> fun hp=>by
  cases s with
  | none=>exact hp
  | some p=>obtain ⟨_,_,_,e,_⟩:=hp; rw [e]; exact fun e=>by cases e
 obtain ⟨e,_⟩:=em.obj i hd
 refine ⟨?_,hd⟩
 cases s with
 | none =>
  simp only [Ab.live,e] at hl
  simp only [Ab.live]
  cases e2:h' (g i) <;> rw [e2] at hl <;> simp [dx] at hl ⊢
 | some p =>
  obtain ⟨cs,k,rows,e1,e2⟩:=hl
  rw [e] at e1
  cases e3:h' (g i) <;> rw [e3] at e1 <;> simp only [dx] at e1 <;> try (cases e1; done)
  rename_i cs'
  cases e1
  simp only [List.getElem?_map,Option.map_eq_some_iff] at e2
  obtain ⟨c,e4,e5⟩:=e2
  exact ⟨cs',k,rows,e3,by rw [e4,R8.1 e5]⟩
theorem Rel.emb (em:Emb L f g h' h2) (r:Rel w X ρ h') {X2:Nat→Prop} (hX:∀ b,X2 b→b < w.heap.size) (hnx:∀ i s,live h2 i s → ¬ X2 (ρ (g i) s).1) (hA:∀ b,aE w X h' ρ b→aE w X2 h2 (fun i s=>ρ (g i) s) b) :
  Rel w X2 (fun i s=>ρ (g i) s) h2:=by
 refine ⟨fun i s j t h1 h3 h4 => ?_,hnx,fun i => ?_,hX⟩
 ·obtain ⟨f1,f2⟩:=em.live h1
  obtain ⟨f3,f4⟩:=em.live h3
  obtain ⟨e1,e2⟩:=r.inj (g i) s (g j) t f1 f3 h4
  exact ⟨em.inj i j f2 f4 e1,e2⟩
 ·by_cases hd:h2 i = .dead
  ·rw [hd]; trivial
  ·obtain ⟨e,hc⟩:=em.obj i hd
   have ho:=r.ob (g i)
   rw [e]
   cases e2:h' (g i) with
   | dead=>trivial
   | bx cs =>
    rw [e2] at ho hc
    obtain ⟨us,t,h1,h3,h4,h5⟩:=ho
    refine ⟨us,t,h1,h3,by rw [List.length_map]; exact h4,fun p c hp => ?_⟩
    simp only [List.getElem?_map,Option.map_eq_some_iff] at hp
    obtain ⟨c',hp',rfl⟩:=hp
    obtain ⟨u,h6,h7⟩:=h5 p c' hp'
    refine ⟨u,h6,?_⟩
    simp only [bq,List.all_eq_true] at hc
    have hcc:=hc c' (List.mem_of_getElem? hp')
    cases hO:aO c' with
    | true =>
     cases c' <;> simp [aO] at hO
     obtain ⟨a,cap,us',t',g1,g2,g3,g4,g5,g6,g7⟩:=h7
     exact ⟨a,cap,us',t',g1,g2,g3,g4,g5,g6,g7.mono fun b hb=>⟨hA b hb,rfl⟩⟩
    | false =>
     have hca:aU L c'=true:=by simpa [cZ,hO] using hcc
     rw [kr hO] at h7
     rw [kr (by rw [Pq]; exact hO)]
     refine ⟨h7.1.embA em hA hca,h7.2.1,?_⟩
     have h8:=h7.2.2
     cases c' <;> first | exact h8.elim | trivial | skip
     ·rename_i id sub _ _ _
      cases sub with
      | some p=>exact h8.elim
      | none =>
       simp only [aU,bc,Bool.and_eq_true] at hca
       obtain ⟨_,e3⟩:=em.back id hca.1
       simp only [eQ,mH,gi] at h8 ⊢
       rw [e3,LG]
       exact h8
     ·rename_i ff x y
      simp only [gi,Bool.and_eq_true,List.all_eq_true] at h8
      simp only [eQ,gi,Bool.and_eq_true,List.all_eq_true,List.mem_map]
      have key:∀ c,aA c=true→aA (mH f c)=true:=fun c hd=>by cases c <;> simp [aA,mH] at hd ⊢ <;> exact hd
      exact ⟨fun c ⟨c0,h9,h10⟩=>h10 ▸ key c0 (h8.1 c0 h9),fun c ⟨c0,h9,h10⟩=>h10 ▸ key c0 (h8.2 c0 h9)⟩
   | ar k rows =>
    rw [e2] at ho
    obtain ⟨us,t,h1,h3,h4,h5⟩:=ho
    exact ⟨us,t,h1,h3,h4,h5.mono fun b hb=>⟨hA b hb,rfl⟩⟩
   | fz k rows =>
    rw [e2] at ho
    obtain ⟨h0,us,t,fr,h1,h3,h4,h5⟩:=ho
    exact ⟨hA _ h0,us,t,fr,h1,h3,h4,h5.mono fun b hb=>⟨hA b hb,rfl⟩⟩
end
theorem UM (c:AV):mH (fun i=>i) c=c:=by cases c <;> rfl
theorem Hv {α:Type} {f:α→α} (hf:∀ a,f a=a) (l:List α):l.map f=l:=by
 rw [show f=id from funext hf,List.map_id]
theorem UN (c:AV):eQ (fun i=>i) c=c:=by
 cases c <;> simp [eQ,mH,Hv UM]
theorem CY (o:Ob):dx (fun i=>i) o=o:=by
 cases o <;> simp [dx,Hv UN]
section
variable {L:List Nat} {g:Nat→Nat} {h' h2:ac}
theorem Emb.add (em:Emb L (fun i=>i) g h' h2) {m id:Nat} (hm:h2 m = .dead) (hL:L.contains m=false) (hid:∀ i,h2 i ≠ .dead→g i ≠ id) (hcl:bq L (h' id)=true):Emb L (fun i=>i) (upd g m id) h' (upd h2 m (h' id)):=by
 refine ⟨fun i hi => ?_,fun i hi => ?_,fun i j hi hj hg => ?_⟩
 ·have hne:i ≠ m:=by rintro rfl; rw [hL] at hi; cases hi
  rw [aF _ _ hne,aF _ _ hne]
  exact em.back i hi
 ·by_cases e:i=m
  ·subst e; rw [av,av,CY]; exact ⟨rfl,hcl⟩
  ·rw [aF _ _ e] at hi ⊢
   rw [aF _ _ e]
   exact em.obj i hi
 ·by_cases e:i=m <;> by_cases e':j=m
  ·rw [e,e']
  ·subst e
   rw [av,aF _ _ e'] at hg
   rw [aF _ _ e'] at hj
   exact absurd hg.symm (hid j hj)
  ·subst e'
   rw [av,aF _ _ e] at hg
   rw [aF _ _ e] at hi
   exact absurd hg (hid i hi)
  ·rw [aF _ _ e] at hi
   rw [aF _ _ e'] at hj
   rw [aF _ _ e,aF _ _ e'] at hg
   exact em.inj i j hi hj hg
theorem gj {n i:Nat}:(b7 n).contains i=true↔1000≤i∧i < 1000+n:=by
 simp [b7,List.mem_range']
 exact ⟨fun ⟨j,h1,h2⟩=>by omega,fun ⟨h1,h2⟩=>⟨i - 1000,by omega,by omega⟩⟩
theorem jG (h':ac) (n i:Nat):ax ((b7 n).map h') i=if 1000≤i∧i < 1000+n then h' i else .dead:=by
 unfold ax
 by_cases h1:1000≤i
 ·rw [if_pos h1]
  by_cases h2:i < 1000+n
  ·rw [if_pos ⟨h1,h2⟩]
   have:(b7 n)[i - 1000]?=some i:=by
    unfold b7
    rw [List.getElem?_range' (show i - 1000 < n from by omega)]
    exact congrArg some (by omega)
   rw [List.getElem?_map,this]
   rfl
  ·rw [if_neg (by omega),List.getElem?_map,List.getElem?_eq_none (by simp [b7]; omega)]
   rfl
 ·rw [if_neg h1,if_neg (by omega)]
theorem Emb.base {n:Nat} (hcl:((b7 n).all fun i=>bq (b7 n) (h' i))=true):Emb (b7 n) (fun i=>i) (fun i=>i) h' (ax ((b7 n).map h')):=by
 refine ⟨fun i hi=>⟨rfl,?_⟩,fun i hi => ?_,fun i j _ _ hg=>hg⟩
 ·rw [jG,if_pos (gj.1 hi),CY]
 ·rw [jG] at hi ⊢
  split at hi
  ·rename_i h1
   rw [if_pos h1,CY]
   exact ⟨rfl,List.all_eq_true.1 hcl i (by simpa using gj.2 h1)⟩
  ·exact absurd rfl hi
end
section
variable {w:World} {X:Nat→Prop} {ρ:bd} {h' h2:ac} {A A2:Nat→Prop}
theorem xV {b k lo n cap:Nat} {us:Array Value} {e:TypeId} {fr:Nat × Nat} {rows:List (List AV)} {a:Option Addr} (hb:w.heap[b]?=some (.cells us e fr)) (hA2:A2 b) (hA:∀ b,A b→A2 b) (hr:bI w A k rows us)
  (hle:lo+n≤rows.length) (hn:n≤cap) (ha:cap=0∨a=some ⟨b,lo*k,none⟩):RD w A2 (jT k lo n rows) (.slice a n cap) :=
 nv hb hA2 (hr.mono fun b hb=>⟨hA b hb,rfl⟩) hle hn ha
def TZ (w:World) (A:Nat→Prop) (ρ:bd) (h':ac) (a b:AV) (u:Value):Prop :=
 (∃ id k rows,b = .osl k rows∧a = .rsl id none k 0 rows.length∧h' id = .ar k rows∧aQ id=false) ∨
 (∃ id cs,b = .obx cs∧a = .ref id none 0 0 0∧h' id = .bx cs∧cs.all gA=true∧aQ id=false) ∨
 (b=a∧∃ id k i j,a = .ref id none k i j∧aQ id=true) ∨
 (b=a∧aA a=true) ∨
 (aA b=true∧∀ A2:Nat→Prop,(∀ b,A b→A2 b)→(∀ id sub,fJ a=[id]→live h' id sub→A2 (ρ id sub).1)→RD w A2 b u)
theorem qx (r:Rel w X ρ h') {a b:AV} {u:Value} (hv:RV w (aE w X h' ρ) ρ h' a u) (he:gB h' a=some b):TZ w (aE w X h' ρ) ρ h' a b u:=by
 have dl:aA a=true→gB h' a=some a→TZ w (aE w X h' ρ) ρ h' a b u:=fun hd hq=>by
  rw [hq] at he
  cases he
  exact .inr (.inr (.inr (.inl ⟨rfl,hd⟩)))
 cases a with
 | rsl id sub k lo n =>
  obtain ⟨a,cap,rfl,hp,hn,hb,ha⟩:=hv.rsl_inv
  cases sub with
  | none =>
   simp only [gB] at he
   split at he
   ·cases he
   ·rename_i hps
    have ho:=r.ob id
    cases e:h' id with
    | dead=>rw [e] at he; cases he
    | ar k' rows =>
     rw [e] at he ho
     simp only [sy] at he
     split at he
     ·rename_i hc
      obtain ⟨rfl,hle⟩:=hc
      split at he
      ·rename_i hw
       obtain ⟨rfl,rfl⟩:=hw
       cases he
       exact .inl ⟨id,k',rows,rfl,rfl,e,by simpa using hps⟩
      ·cases he
       obtain ⟨us,t,h1,h3,h4,h5⟩:=ho
       exact .inr (.inr (.inr (.inr ⟨rfl,fun A2 hA hl=>xV h1 (hl id none rfl (by simp [live,e])) hA h5 hle hn ha⟩)))
     ·cases he
    | fz k' rows =>
     rw [e] at he ho
     simp only [sy] at he
     split at he
     ·rename_i hc
      obtain ⟨rfl,hle⟩:=hc
      cases he
      obtain ⟨h0,us,t,fr,h1,h3,h4,h5⟩:=ho
      exact .inr (.inr (.inr (.inr ⟨rfl,fun A2 hA hl=>xV h1 (hA _ h0) hA h5 hle hn ha⟩)))
     ·cases he
    | bx cs =>
     rw [e] at he
     simp only [sy] at he
     split at he
     ·rename_i hc
      obtain ⟨rfl,hle,hd⟩:=hc
      cases he
      obtain ⟨us,t,h1,h3,h4,h5⟩:=r.cell e
      refine .inr (.inr (.inr (.inr ⟨rfl,fun A2 hA hl=>nv h1 (hl id none rfl (by simp [live,e])) (fun i row hi => ?_) (by simpa [kT] using hle) hn ha⟩)))
      simp only [kT,List.getElem?_map,Option.map_eq_some_iff] at hi
      obtain ⟨c,hc,rfl⟩:=hi
      refine ⟨rfl,fun j d hj => ?_⟩
      cases j with
      | succ j=>simp at hj
      | zero =>
       simp at hj
       subst hj
       obtain ⟨u,h6,h7⟩:=h5 i c hc
       have hdc:=List.all_eq_true.1 hd c (List.mem_of_getElem? hc)
       exact ⟨u,by simpa using h6,zq h7 hdc hA (fun k rows ec=>by subst ec; exact hl id (some i) rfl ⟨cs,k,rows,e,hc⟩),ue hdc⟩
     ·cases he
  | some p =>
   simp only [gB] at he
   split at he
   ·cases he
   ·cases e:h' id with
    | bx cs =>
     rw [e] at he
     simp only [oI] at he
     cases ec:cs[p]? with
     | none=>rw [ec] at he; cases he
     | some c =>
      rw [ec] at he
      cases c <;> simp only [tR,W4] at he <;> try (cases he; done)
      split at he
      ·rename_i hc
       obtain ⟨rfl,hle⟩:=hc
       cases he
       obtain ⟨us,t,h1,h3,h4,h5⟩:=r.cell e
       obtain ⟨u,_,a',cap',us',t',_,_,_,q4,q5,q6,q7⟩:=h5 p _ ec
       exact .inr (.inr (.inr (.inr ⟨rfl,fun A2 hA hl=>xV q4 (hl id (some p) rfl ⟨cs,_,_,e,ec⟩) hA q7 hle hn ha⟩)))
      ·cases he
    | _=>rw [e] at he; cases he
 | ref id sub k i j =>
  cases sub with
  | some p=>simp [gB,aA] at he
  | none =>
   simp only [gB] at he
   split at he
   ·rename_i hps
    cases he
    exact .inr (.inr (.inl ⟨rfl,id,k,i,j,rfl,hps⟩))
   ·rename_i hps
    split at he
    ·rename_i hc
     obtain ⟨rfl,rfl,rfl⟩:=hc
     cases e:h' id <;> rw [e] at he <;> simp only [RX] at he <;> try (cases he; done)
     split at he
     ·rename_i hd
      cases he
      exact .inr (.inl ⟨id,_,rfl,rfl,e,hd,by simpa using hps⟩)
     ·cases he
    ·cases he
 | fn f x y =>
  simp only [gB] at he
  split at he
  ·rename_i hd; exact dl hd (by simp [gB,hd])
  ·cases he
 | any=>exact dl rfl rfl
 | v x=>exact dl rfl rfl
 | emp=>exact dl rfl rfl
 | sl k rows=>exact dl rfl rfl
 | _=>simp [gB,aA] at he
theorem Hw {b c:AV} (hdl:aA b=true) (hd:pZ b=some c):c=b:=by
 unfold pZ at hd
 split at hd
 ·simp [aA] at hdl
 ·rw [if_pos hdl] at hd
  cases hd
  rfl
theorem Bm (r:Rel w X ρ h') {a b c:AV} {u:Value} (hv:RV w (aE w X h' ρ) ρ h' a u) (h1:u.oneCell'=true) (he:gB h' a=some b) (hd:pZ b=some c) :
  aA c=true∧∀ A2:Nat→Prop,(∀ b,aE w X h' ρ b→A2 b)→(∀ id sub,fJ a=[id]→live h' id sub→A2 (ρ id sub).1)→RD w A2 c u:=by
 rcases qx r hv he with ⟨id,k,rows,rfl,rfl,e,_⟩ | ⟨id,cs,rfl,_⟩ | ⟨rfl,id,k,i,j,rfl,_⟩ | ⟨rfl,hdl⟩ | ⟨hdl,hr⟩
 ·simp only [pZ,Option.some.injEq] at hd
  subst hd
  refine ⟨rfl,fun A2 hA hl => ?_⟩
  obtain ⟨a,cap,rfl,hp,hn,hb,ha⟩:=hv.rsl_inv
  have ho:=r.ob id
  rw [e] at ho
  obtain ⟨us,t,g1,g2,g3,g4⟩:=ho
  have:=xV (w:=w) (A2:=A2) (lo:=0) g1 (hl id none rfl (by simp [live,e])) hA g4 (by omega) hn ha
  simpa [jT] using this
 ·simp [pZ,aA] at hd
 ·simp [pZ,aA] at hd
 ·have:c=b:=Hw hdl hd
  subst this
  exact ⟨hdl,fun A2 hA _=>(hv.toD hdl h1).mono fun b hb=>⟨hA b hb,rfl⟩⟩
 ·have:c=b:=Hw hdl hd
  subst this
  exact ⟨hdl,hr⟩
theorem yL (r:Rel w X ρ h'):∀ (cs ds:List AV),fN h' cs=some ds→ds.length=cs.length∧∀ (i:Nat) (a c:AV) (u:Value),cs[i]?=some a→ds[i]?=some c→RV w (aE w X h' ρ) ρ h' a u→u.oneCell'=true →
  aA c=true∧∀ A2:Nat→Prop,(∀ b,aE w X h' ρ b→A2 b)→(∀ id sub,fJ a=[id]→live h' id sub→A2 (ρ id sub).1)→RD w A2 c u
 | [],ds,he=>by simp [fN] at he; subst he; exact ⟨rfl,fun i a c u hc=>by simp at hc⟩
 | a::cs,ds,he=>by
  simp only [fN,Option.bind_eq_some_iff] at he
  obtain ⟨b,e1,c,e2,q,e3,e4⟩:=he
  cases e4
  obtain ⟨g1,g2⟩:=yL r cs q e3
  refine ⟨by simp [g1],fun i a' c' u hc hd hv h1 => ?_⟩
  cases i with
  | zero =>
   simp only [List.getElem?_cons_zero,Option.some.injEq] at hc hd
   subst hc hd
   exact Bm r hv h1 e1 e2
  | succ i=>exact g2 i a' c' u (by simpa using hc) (by simpa using hd) hv h1
end
def tl (f:ac→Option R3) (p:ac→ac→Fp) (h:ac) (x:AV) (h':ac) (r w:List Nat):Prop :=
 ∀ g:ac,(∀ i,bZ i ∈ r∨bZ i ∈ w→g i=h i)→∃ g',f g=some (x,g',[])∧p g g'=some (r,w)∧(∀ i,bZ i ∈ w→g' i=h' i)∧(∀ i,bZ i ∉ w→g' i=g i)
section
variable {h h' g:ac} {x:AV} {r w:List Nat}
theorem sC {f:ac→Option R3} {p:ac→ac→Fp} (hw:w=[]) (hp:∀ g g',p g g'=some (r,w)) (hf:∀ g:ac,(∀ i,bZ i ∈ r→g i=h i)→f g=some (x,g,[])):tl f p h x h' r w:=fun g hg=>by
 subst hw
 exact ⟨g,hf g fun i hi=>hg i (.inl hi),hp g g,fun i hi=>by simp at hi,fun _ _=>rfl⟩
theorem i8 {f:ac→Option R3} {p:ac→ac→Fp} {d:Nat} {o:Ob} (hd:bZ d ∈ w) (hh:h'=upd h d o) (hp:∀ g g',p g g'=some (r,w)) (hf:∀ g:ac,g d=h d→f g=some (x,upd g d o,[])):tl f p h x h' r w:=fun g hg=>by
 refine ⟨upd g d o,hf g (hg d (.inr hd)),hp g _,fun i hi => ?_,fun i hi => ?_⟩
 ·subst hh
  unfold upd
  split
  ·rfl
  ·exact hg i (.inr hi)
 ·unfold upd
  split
  ·rename_i e; subst e; exact absurd hd hi
  ·rfl
theorem R9 {a:AV} (hd:aA a=true) (h:ac):eP h a=some (a,h,[]):=by
 cases a <;> simp [aA] at hd <;> simp [eP,aA,hd]
theorem gN:∀ {xs:List AV},xs.all aA=true→∀ h:ac,dC h xs=some (xs,h,[])
 | [],_,h=>rfl
 | a::l,hd,h=>by
  simp only [List.all_cons,Bool.and_eq_true] at hd
  simp only [dC,R9 hd.1 h,gN hd.2 h,Option.bind_some,List.append_nil]
theorem qy {a:AV} {xs:List AV} (hd:dat a=true) (hc:dv a=some xs):xs.all aA=true:=by
 cases a <;> simp only [dat,aA,dv,Option.some.injEq] at hd hc <;> first | (cases hc; done) | (cases hd; done) | skip
 all_goals subst hc
 all_goals first | exact hd | simp [aA] | skip
 simp [] at hd ⊢
 exact hd
theorem wq {k:Nat}:∀ {ps:List (Nat × AV)} {rows rows':List (List AV)} {h h':ac} {ks:K},(ps.all fun p=>dat p.2)=true→cM k h rows ps=some (rows',h',ks)→h'=h∧ks=[]∧∀ g:ac,cM k g rows ps=some (rows',g,[])
 | [],rows,rows',h,h',ks,_,hz=>by
  simp only [cM,Option.some.injEq,Prod.mk.injEq] at hz
  obtain ⟨rfl,rfl,rfl⟩:=hz
  exact ⟨rfl,rfl,fun g=>rfl⟩
 | (i,a)::ps,rows,rows',h,h',ks,hd,hz=>by
  simp only [List.all_cons,Bool.and_eq_true] at hd
  simp only [cM,Option.bind_eq_some_iff] at hz
  obtain ⟨cs,e1,hz⟩:=hz
  split at hz
  ·rename_i hc
   have hcs:=qy hd.1 e1
   simp only [gN hcs h,Option.bind_some,Option.bind_eq_some_iff] at hz
   obtain ⟨⟨r1,r2,r3⟩,e2,e3⟩:=hz
   simp only [List.nil_append,Option.some.injEq,Prod.mk.injEq] at e3
   obtain ⟨rfl,rfl,rfl⟩:=e3
   obtain ⟨q1,q2,q3⟩:=wq hd.2 e2
   refine ⟨q1,q2,fun g => ?_⟩
   simp only [cM,e1,Option.bind_some,if_pos hc,gN hcs g,q3 g,List.nil_append]
  ·cases hz
theorem pz {k k0 i j:Nat} {agg:Bool} {o:Option (Nat × List (List AV))} {ks:K} (hz:j4 h k agg k0 i j o=some (x,h',ks)):h'=h∧ks=[]∧∀ g:ac,j4 g k agg k0 i j o=some (x,g,[]):=by
 cases o with
 | none=>cases hz
 | some q =>
  obtain ⟨k',rows⟩:=q
  simp only [j4] at hz
  split at hz
  ·rename_i hk
   simp only [Option.bind_eq_some_iff,Option.map_eq_some_iff] at hz
   obtain ⟨row,e1,a,e2,e3⟩:=hz
   cases e3
   refine ⟨rfl,rfl,fun g => ?_⟩
   simp only [j4,if_pos hk,e1,Option.bind_some,e2,Option.map_some]
  ·cases hz
theorem Pr {k id k0 i j:Nat} {agg:Bool} {o:Ob} (hz:pc h k agg id k0 i j o=some (x,h',[])):h'=h∧∀ g:ac,pc g k agg id k0 i j o=some (x,g,[]):=by
 cases o with
 | dead=>cases hz
 | bx cs =>
  simp only [pc,tS] at hz ⊢
  cases agg with
  | true =>
   simp only [if_true] at hz ⊢
   split at hz
   ·rename_i hc
    simp only [if_pos hc]
    split at hz
    ·cases hz
    ·rename_i hn
     simp only [if_neg hn]
     cases hz
     exact ⟨rfl,fun g=>rfl⟩
   ·cases hz
  | false =>
   simp only [Bool.false_eq_true,if_false,Option.map_eq_some_iff] at hz ⊢
   obtain ⟨c,e1,e2⟩:=hz
   cases e2
   exact ⟨rfl,fun g=>⟨c,e1,rfl⟩⟩
 | ar k' rows =>
  simp only [pc] at hz ⊢
  exact ⟨(pz hz).1,(pz hz).2.2⟩
 | fz k' rows =>
  simp only [pc] at hz ⊢
  exact ⟨(pz hz).1,(pz hz).2.2⟩
theorem Nd {k:Nat} {agg:Bool} {a:AV} (hz:dU h k agg a=some (x,h',[])) (hp:ko a=some (r,w)):tl (fun g=>dU g k agg a) (fun _ _=>ko a) h x h' r w:=by
 cases a <;> simp only [ko] at hp <;> try (cases hp; done)
 case ipt cs =>
  cases hp
  refine sC rfl (fun _ _=>rfl) fun g _ => ?_
  simp only [dU,Option.map_eq_some_iff] at hz ⊢
  obtain ⟨_,e1,e2⟩:=hz
  cases e2
  exact ⟨_,e1,rfl⟩
 case ref id sub k0 i j =>
  cases hp
  refine sC rfl (fun _ _=>rfl) fun g hg => ?_
  have hid:g id=h id:=hg id (by simp)
  cases sub with
  | none =>
   simp only [dU] at hz ⊢
   rw [hid]
   exact (Pr hz).2 g
  | some p =>
   simp only [dU] at hz ⊢
   rw [hid]
   exact (pz hz).2.2 g
theorem KD {k:Nat} {a y:AV} (hz:fD h k a y=some (x,h',[])) (hp:pe y a=some (r,w)):tl (fun g=>fD g k a y) (fun _ _=>pe y a) h x h' r w:=by
 cases a <;> simp only [pe] at hp <;> try (cases hp; done)
 rename_i id sub k0 i j
 split at hp
 ·rename_i hd
  cases hp
  simp only [fD,Option.bind_eq_some_iff] at hz
  obtain ⟨xs,e1,hz⟩:=hz
  have hxs:=qy hd e1
  split at hz
  ·rename_i hk
   cases sub with
   | none =>
    simp only at hz
    cases eo:h id with
    | bx cs =>
     rw [eo] at hz
     simp only [sx,CR] at hz
     split at hz
     ·rename_i hc
      simp only [Option.some.injEq,Prod.mk.injEq] at hz
      obtain ⟨rfl,rfl,e3⟩:=hz
      refine i8 (by simp) rfl (fun _ _=>by simp only [pe,if_pos hd]) fun g hg => ?_
      simp only [fD,e1,Option.bind_some,if_pos hk,hg,eo,sx,CR,if_pos hc,hxs,if_true,e3]
     ·cases hz
    | ar k' rows =>
     rw [eo] at hz
     simp only [sx,gN hxs h,Option.bind_some,eo,CS,Option.map_eq_some_iff] at hz
     obtain ⟨q,e2,e3⟩:=hz
     cases e3
     refine i8 (by simp) rfl (fun _ _=>by simp only [pe,if_pos hd]) fun g hg => ?_
     simp only [fD,e1,Option.bind_some,if_pos hk,hg,eo,sx,gN hxs g,CS,e2,Option.map_some]
    | _=>rw [eo] at hz; cases hz
   | some p =>
    simp only [gN hxs h,Option.bind_some] at hz
    cases eo:h id with
    | bx cs =>
     rw [eo] at hz
     simp only [A8] at hz
     cases ec:cs[p]? with
     | none=>rw [ec] at hz; cases hz
     | some c =>
      rw [ec] at hz
      cases c <;> simp only [ML] at hz <;> try (cases hz; done)
      simp only [Option.map_eq_some_iff] at hz
      obtain ⟨q,e2,e3⟩:=hz
      cases e3
      refine i8 (by simp) rfl (fun _ _=>by simp only [pe,if_pos hd]) fun g hg => ?_
      simp only [fD,e1,Option.bind_some,if_pos hk,hg,eo,A8,gN hxs g,ML,ec,e2,Option.map_some]
    | _=>rw [eo] at hz; cases hz
  ·cases hz
 ·cases hp
end
theorem Xd {a b:Value} (h:W1 a b=true):a=b:=by
 cases a <;> cases b <;> simp only [W1] at h <;> try (cases h; done)
 case int.int=>simp only [Bool.and_eq_true,decide_eq_true_eq] at h; rw [h.1,h.2]
 case bool.bool=>simp at h; rw [h]
 case string.string x y =>
  simp only [decide_eq_true_eq] at h
  obtain ⟨⟨x⟩⟩:=x
  obtain ⟨⟨y⟩⟩:=y
  simp at h
  rw [h]
 case pointer.pointer x y=>cases x <;> cases y <;> first | rfl | cases h
 case nilFunc.nilFunc=>rfl
mutual
theorem Xe:∀ {a b:AV},W2 a b=true→a=b
 | a,b,h=>by
  cases a <;> cases b <;> simp only [W2] at h <;> try (first | rfl | (cases h; done))
  case v.v=>rw [Xd h]
  case sl.sl=>simp only [Bool.and_eq_true,decide_eq_true_eq] at h; rw [h.1,wr h.2]
  case osl.osl=>simp only [Bool.and_eq_true,decide_eq_true_eq] at h; rw [h.1,wr h.2]
  case obx.obx=>rw [nz h]
  case agg.agg=>rw [nz h]
  case ref.ref=>simp only [decide_eq_true_eq] at h; obtain ⟨rfl,rfl,rfl,rfl,rfl⟩:=h; rfl
  case rsl.rsl=>simp only [decide_eq_true_eq] at h; obtain ⟨rfl,rfl,rfl,rfl,rfl⟩:=h; rfl
  case ipt.ipt=>rw [nz h]
  case fn.fn=>simp only [Bool.and_eq_true,decide_eq_true_eq] at h; rw [h.1,nz h.2.1,nz h.2.2]
theorem nz:∀ {a b:List AV},v8 a b=true→a=b
 | [],[],_=>rfl
 | [],_::_,h=>by cases h
 | _::_,[],h=>by cases h
 | a::l,b::r,h=>by
  simp only [v8,Bool.and_eq_true] at h
  rw [Xe h.1,nz h.2]
theorem wr:∀ {a b:List (List AV)},Hj a b=true→a=b
 | [],[],_=>rfl
 | [],_::_,h=>by cases h
 | _::_,[],h=>by cases h
 | a::l,b::r,h=>by
  simp only [Hj,Bool.and_eq_true] at h
  rw [nz h.1,wr h.2]
end
theorem Sa {a b:Ob} (h:GY a b=true):a=b:=by
 cases a <;> cases b <;> simp only [GY] at h <;> try (first | rfl | (cases h; done))
 case bx.bx=>rw [nz h]
 case ar.ar=>simp only [Bool.and_eq_true,decide_eq_true_eq] at h; rw [h.1,wr h.2]
 case fz.fz=>simp only [Bool.and_eq_true,decide_eq_true_eq] at h; rw [h.1,wr h.2]
theorem Ps {g h g' h':ac} {ids:List Nat} (e:∀ i,i ∈ ids→g i=h i) (e':∀ i,i ∈ ids→g' i=h' i):ED g g' ids=ED h h' ids:=by
 unfold ED
 refine List.filter_congr fun i hi => ?_
 rw [e i hi,e' i hi]
theorem Sb {h h':ac} {ids:List Nat} {i:Nat} (hi:i ∈ ids) (hn:bZ i ∉ (ED h h' ids).map bZ):h' i=h i:=by
 by_cases hs:GY (h i) (h' i)=true
 ·exact (Sa hs).symm
 ·refine absurd (List.mem_map.2 ⟨i,?_,rfl⟩) hn
  simp only [ED,List.mem_filter]
  exact ⟨hi,by simpa using hs⟩
theorem uj {a:Nat}:∀ {r l:List Nat},a ∈ l→a ∈ dW l r
 | [],l,h=>h
 | b::r,l,h=>by
  unfold dW
  apply uj
  split
  ·exact h
  ·simp [h]
theorem ri:∀ {r l:List Nat},l.Nodup→(dW l r).Nodup
 | [],l,h=>h
 | b::r,l,h=>by
  unfold dW
  apply ri
  split
  ·exact h
  ·rename_i hc
   rw [List.nodup_append]
   refine ⟨h,by simp,fun a ha c hc' => ?_⟩
   simp only [List.mem_singleton] at hc'
   subst hc'
   rintro rfl
   exact hc (by simpa using ha)
theorem EO {h:ac} {a:Nat}:∀ {n:Nat} {l:List Nat} {i:Nat},a ∈ l→a ∈ el h n l i
 | 0,l,i,hm=>hm
 | n+1,l,i,hm=>by
  unfold el
  split
  ·exact hm
  ·exact EO (uj hm)
theorem yM {h:ac}:∀ {n:Nat} {l:List Nat} {i:Nat},l.Nodup→(el h n l i).Nodup
 | 0,l,i,hm=>hm
 | n+1,l,i,hm=>by
  unfold el
  split
  ·exact hm
  ·exact yM (ri hm)
theorem sD {g h:ac}:∀ {n:Nat} {l:List Nat} {i:Nat},(∀ a,a ∈ el h n l i→g a=h a)→el g n l i=el h n l i
 | 0,l,i,_=>rfl
 | n+1,l,i,hg=>by
  unfold el at hg ⊢
  split
  ·rfl
  ·rename_i a ha
   rw [ha] at hg
   simp only at hg
   rw [hg a (EO (uj (List.mem_of_getElem? ha)))]
   exact sD hg
theorem EP (h:ac) (n:Nat):el h n [] 0=[]:=by cases n <;> simp [el]
theorem Hx {a:AV} (h:aA a=true):fJ a=[]:=by cases a <;> simp [aA] at h <;> rfl
theorem Hy {a:AV} (h:dat a=true):bY a=[]:=by
 cases a <;> simp only [dat] at h <;> try exact Hx h
 case agg cs =>
  simp only [bY,List.flatMap_eq_nil_iff]
  exact fun c hc=>Hx (List.all_eq_true.1 h c hc)
 case fn f x y =>
  simp only [aA,Bool.and_eq_true,List.isEmpty_iff] at h
  simp [bY,h.1,h.2]
theorem Pt {a:AV} (h:dat a=true):pd a=true:=by
 have key:∀ c,aA c=true→l4 c=true:=fun c hc=>by cases c <;> simp [aA] at hc <;> rfl
 cases a <;> simp only [dat] at h <;> try exact key _ h
 case agg cs =>
  simp only [pd,List.all_eq_true] at h ⊢
  exact fun c hc=>key c (h c hc)
 case fn f x y =>
  simp only [aA,Bool.and_eq_true,List.isEmpty_iff] at h
  simp [pd,h.1,h.2]
section
variable {h h' g:ac} {x:AV}
theorem yN:∀ {cs:List AV} {q:List AV × ac × K},cs.all l4=true→dC h cs=some q→q=(cs,h,[])∧∀ g:ac,dC g cs=some (cs,g,[])
 | [],q,_,hz=>by cases hz; exact ⟨rfl,fun g=>rfl⟩
 | c::cs,q,hd,hz=>by
  simp only [List.all_cons,Bool.and_eq_true] at hd
  simp only [dC,Option.bind_eq_some_iff] at hz
  obtain ⟨p,e1,q',e2,e3⟩:=hz
  have hc:p=(c,h,[])∧∀ g:ac,eP g c=some (c,g,[]):=by
   cases c <;> simp only [l4] at hd <;> simp only [eP] at e1 ⊢ <;> first | (cases hd.1; done) | skip
   all_goals
    split at e1
    ·rename_i hdl
     simp only [if_pos hdl]
     cases e1
     exact ⟨rfl,fun g=>by first | trivial | rfl⟩
    ·cases e1
  obtain ⟨rfl,hc2⟩:=hc
  obtain ⟨rfl,q2⟩:=yN hd.2 e2
  cases e3
  refine ⟨rfl,fun g => ?_⟩
  simp only [dC,hc2 g,Option.bind_some,q2 g,List.append_nil]
theorem KE {m:Nat} {a:AV} {q:R3} (hd:pd a=true) (hz:cJ h m a=some q):q=(a,h,[])∧∀ g:ac,cJ g m a=some (a,g,[]):=by
 have key:∀ c:AV,(∀ cs,c ≠ .agg cs)→l4 c=true→qY h c=some q→q=(c,h,[])∧∀ g:ac,qY g c=some (c,g,[]):=by
  intro c hna hc hz
  have e1:∀ g:ac,qY g c=if aA c then some (c,g,[]) else none:=by
   intro g
   cases c <;> simp only [l4] at hc <;> first | (cases hc; done) | (exact absurd rfl (hna _)) | rfl
  rw [e1] at hz
  split at hz
  ·rename_i hdl
   cases hz
   exact ⟨rfl,fun g=>by rw [e1,if_pos hdl]⟩
  ·cases hz
 cases a with
 | agg cs =>
  simp only [pd] at hd
  simp only [cJ,qY,Option.bind_eq_some_iff] at hz ⊢
  obtain ⟨p,e1,e2⟩:=hz
  obtain ⟨rfl,q2⟩:=yN hd e1
  cases e2
  exact ⟨rfl,fun g=>⟨_,q2 g,rfl⟩⟩
 | rsl=>simp [pd,l4] at hd
 | ref id sub k i j =>
  cases sub with
  | none =>
   simp only [cJ,Option.some.injEq] at hz ⊢
   subst hz
   exact ⟨rfl,fun g=>by first | trivial | rfl⟩
  | some p=>exact key _ (fun cs=>by simp) rfl hz
 | ipt cs =>
  simp only [cJ,Option.some.injEq] at hz ⊢
  subst hz
  exact ⟨rfl,fun g=>by first | trivial | rfl⟩
 | fn f u v =>
  simp only [cJ,Option.some.injEq] at hz ⊢
  subst hz
  exact ⟨rfl,fun g=>by first | trivial | rfl⟩
 | _=>exact key _ (fun cs=>by simp) rfl hz
theorem ws:∀ {l:List AV} {ms:List Nat} {q:List AV × ac × K},l.all pd=true→dV h ms l=some q→q=(l,h,[])∧∀ g:ac,dV g ms l=some (l,g,[])
 | [],ms,q,_,hz=>by cases hz; exact ⟨rfl,fun g=>rfl⟩
 | a::l,ms,q,hd,hz=>by
  simp only [List.all_cons,Bool.and_eq_true] at hd
  simp only [dV,Option.bind_eq_some_iff] at hz
  obtain ⟨p,e1,q',e2,e3⟩:=hz
  obtain ⟨rfl,p2⟩:=KE hd.1 e1
  obtain ⟨rfl,q2⟩:=ws hd.2 e2
  cases e3
  refine ⟨rfl,fun g => ?_⟩
  simp only [dV,p2 g,Option.bind_some,q2 g,List.append_nil]
theorem Hz {ids:List Nat} {i:Nat}:∀ {l:List Nat} {os:List Ob} {g h:ac},g i=h i→dO g ids l os i=dO h ids l os i
 | [],os,g,h,e=>by simpa [dO] using e
 | a::l,[],g,h,e=>by simpa [dO] using e
 | a::l,o::os,g,h,e=>by
  simp only [dO]
  apply Hz
  unfold upd
  split
  ·rfl
  ·exact e
theorem m6 {ids:List Nat} {i:Nat}:∀ {l:List Nat} {os:List Ob} {g:ac},i ∉ l→dO g ids l os i=g i
 | [],os,g,_=>rfl
 | a::l,[],g,_=>rfl
 | a::l,o::os,g,hn=>by
  simp only [List.mem_cons,not_or] at hn
  simp only [dO]
  rw [m6 hn.2]
  exact aF _ _ hn.1
theorem zt (n:Nat) (g h:ac) (c:AV):(cD n g c).1=(cD n h c).1:=by cases c <;> rfl
theorem LH {n i:Nat} {g h:ac} {c:AV} (e:g i=h i):(cD n g c).2 i=(cD n h c).2 i:=by
 cases c <;> simp only [cD] <;> first | exact e | (unfold upd; split; rfl; exact e)
theorem HA {n i:Nat} {g:ac} {c:AV} (hn:i ≠ n):(cD n g c).2 i=g i:=by
 cases c <;> simp only [cD] <;> first | rfl | exact aF _ _ hn
theorem HB:∀ (l:List AV) (n:Nat) (g h:ac),(br n g l).1=(br n h l).1
 | [],n,g,h=>rfl
 | c::l,n,g,h=>by simp only [br]; rw [zt n g h,HB l (n+1) _ (cD n h c).2]
theorem LI {i:Nat}:∀ {l:List AV} {n:Nat} {g h:ac},g i=h i→(br n g l).2 i=(br n h l).2 i
 | [],n,g,h,e=>e
 | c::l,n,g,h,e=>by simp only [br]; exact LI (LH e)
theorem HC {i:Nat}:∀ {l:List AV} {n:Nat} {g:ac},¬ (n≤i∧i < n+l.length)→(br n g l).2 i=g i
 | [],n,g,hn=>rfl
 | c::l,n,g,hn=>by
  simp only [br]
  simp only [List.length_cons] at hn
  rw [HC (by omega),HA (by omega)]
theorem LJ (n:Nat) (g h:ac) (c:AV):(mat n g c).1=(mat n h c).1:=by
 cases c <;> simp only [mat] <;> first | exact zt _ _ _ _ | rw [HB]
theorem Pu {n i:Nat} {g h:ac} {c:AV} (e:g i=h i):(mat n g c).2 i=(mat n h c).2 i:=by
 cases c <;> simp only [mat] <;> first | exact LH e | exact LI e
theorem oK {n i:Nat} {g:ac} {c:AV} (hn : ¬ (n≤i∧i < n+dH c)):(mat n g c).2 i=g i:=by
 cases c <;> simp only [mat] <;> simp only [dH] at hn <;> first | exact HA (by omega) | exact HC hn
theorem yO {g h:ac}:∀ {m n:Nat},(∀ i,n≤i→i < n+m→g i=h i)→fK g n m=fK h n m
 | 0,n,_=>rfl
 | m+1,n,hg=>by
  simp only [fK]
  rw [hg n (by omega) (by omega),yO fun i h1 h2=>hg i (by omega) (by omega)]
theorem u6 {g h:ac} {gv:K}:∀ {l:List Nat} {os:List Ob},(∀ a,a ∈ l→g a=h a)→kU g gv l os=kU h gv l os
 | [],os,_=>rfl
 | a::l,[],_=>rfl
 | a::l,o::os,hg=>by
  simp only [kU]
  rw [hg a (by simp),u6 fun b hb=>hg b (by simp [hb])]
theorem wt {d i:Nat} (h1:2000+8*d≤i) (h2:i < 2000+8*d+8):bZ i=2000+8*d:=by
 unfold bZ
 rw [if_neg (by omega)]
 omega
theorem FI {kp:Bool} {d:Nat} {ids:List Nat} {gv:K} {r:AV × List Ob} (hz:kV kp h d ids [] gv r=some (x,h',[])) (hg:∀ i,bZ i ∈ ids.map bZ++[2000+8*d]→g i=h i) :
  ∃ g',kV kp g d ids [] gv r=some (x,g',[])∧(∀ i,bZ i ∈ ids.map bZ++[2000+8*d]→g' i=h' i)∧(∀ i,bZ i ∉ ids.map bZ++[2000+8*d]→g' i=g i)∧∀ i,i ∉ ids→bZ i ≠ 2000+8*d→h' i=h i:=by
 unfold kV at hz ⊢
 split at hz
 ·rename_i hc
  simp only [Option.some.injEq,Prod.mk.injEq,List.nil_append,List.append_eq_nil_iff] at hz
  obtain ⟨rfl,rfl,hk,rfl⟩:=hz
  obtain ⟨c1,c0,c2,c3,c4,c5⟩:=hc
  have hid:∀ a,a ∈ ids→g a=h a:=fun a ha=>hg a (by simp; exact .inl ⟨a,ha,rfl⟩)
  have hfr:fK g (2000+8*d) (dH r.1)=true:=by
   rw [yO (h:=h) fun i h1 h2=>hg i (by rw [wt h1 (by omega)]; simp)]; exact c3
  have hst:kU g [] ids r.2=true:=by rw [u6 (h:=h) hid]; exact c4
  refine ⟨(mat (2000+8*d) (dO g ids ids r.2) r.1).2,?_,fun i hi => ?_,fun i hi => ?_,fun i hi hi2 => ?_⟩
  ·rw [if_pos ⟨c1,c0,c2,hfr,hst,c5⟩,hk]
   simp only [gz,List.append_nil]
   rw [LJ _ (dO g ids ids r.2) (dO h ids ids r.2)]
  ·simp only [gz]
   exact Pu (Hz (hg i hi))
  ·rw [oK (fun hh=>hi (by rw [wt hh.1 (by omega)]; simp)),m6 (fun hh=>hi (by simp; exact .inl ⟨i,hh,rfl⟩))]
  ·simp only [gz]
   rw [oK (fun hh=>hi2 (wt hh.1 (by omega))),m6 hi]
 ·cases hz
theorem Nf {call:er} {md:Mode} {d:Nat} {f:AV} {as:List AV} {r w:List Nat} (hz:dP call md h d as f=some (x,h',[])) (hp:jt h d (pt as f) h'=some (r,w)) :
  tl (fun g=>dP call md g d as f) (fun g=>jt g d (pt as f)) h x h' r w:=by
 cases f <;> simp only [dP] at hz <;> try (cases hz; done)
 rename_i fid a b
 simp only [pt] at hp
 simp only [Option.bind_eq_some_iff] at hz
 obtain ⟨p,e1,e2⟩:=hz
 have hno:(a++as++b).all pd=true:=by
  unfold jt at hp
  split at hp
  ·rename_i hd
   rw [List.all_eq_true] at hd ⊢
   exact fun c hc=>Pt (hd c hc)
  ·split at hp
   ·assumption
   ·cases hp
 obtain ⟨rfl,e3⟩:=ws hno e1
 simp only at e2
 generalize hI:el h 40 (dW [] ((a++as++b).flatMap bY)) 0=ids at *
 have hids:(∀ i,i ∈ ids→bZ i ∈ r)∧w=(ED h h' ids).map bZ++[2000+8*d] ∧
   (∀ g g':ac,(∀ i,i ∈ ids→g i=h i)→(∀ i,i ∈ ids→g' i=h' i)→jt g d (a++as++b) g'=some (r,w)):=by
  unfold jt at hp
  split at hp
  ·rename_i hd
   cases hp
   have:(a++as++b).flatMap bY=[]:=by
    rw [List.flatMap_eq_nil_iff]
    exact fun c hc=>Hy (List.all_eq_true.1 hd c hc)
   rw [this] at hI
   simp only [dW,EP] at hI
   subst hI
   refine ⟨fun i hi=>by simp at hi,rfl,fun g g' _ _ => ?_⟩
   unfold jt
   rw [if_pos hd]
  ·rename_i hd
   rw [hI] at hp
   cases hp
   refine ⟨fun i hi=>List.mem_map.2 ⟨i,hi,rfl⟩,rfl,fun g g' hg hg' => ?_⟩
   unfold jt
   have hre:el g 40 (dW [] ((a++as++b).flatMap bY)) 0=ids:=by
    rw [← hI]
    exact sD fun i hi=>hg i (by rw [← hI]; exact hi)
   rw [if_neg hd,if_pos hno,hre,Ps hg hg']
 obtain ⟨hi1,hi2,hi3⟩:=hids
 intro g hg
 have hat:∀ i,i ∈ ids→g i=h i:=fun i hi=>hg i (.inl (hi1 i hi))
 have hre:el g 40 (dW [] ((a++as++b).flatMap bY)) 0=ids:=by
  rw [← hI]
  exact sD fun i hi=>hat i (by rw [← hI]; exact hi)
 unfold rY at e2
 split at e2
 ·rename_i hc
  simp only [Option.bind_eq_some_iff] at e2
  obtain ⟨res,e4,e5⟩:=e2
  have hgl:∀ i,bZ i ∈ ids.map bZ++[2000+8*d]→g i=h i:=fun i hi=>by
   rcases List.mem_append.1 hi with hi | hi
   ·obtain ⟨a,ha,hae⟩:=List.mem_map.1 hi
    exact hg i (.inl (by rw [← hae]; exact hi1 a ha))
   ·exact hg i (.inr (by rw [hi2]; exact List.mem_append_right _ hi))
  obtain ⟨g',g1,g2,g3,g4⟩:=FI e5 (g:=g) hgl
  have hat':∀ i,i ∈ ids→g' i=h' i:=fun i hi=>g2 i (List.mem_append_left _ (List.mem_map.2 ⟨i,hi,rfl⟩))
  refine ⟨g',?_,hi3 g g' hat hat',fun i hi=>g2 i ?_,fun i hi => ?_⟩
  ·simp only [dP,e3 g,Option.bind_some,hre]
   unfold rY
   have hmap:ids.map (fun a=>dx (bo ids) (g a))=ids.map fun a=>dx (bo ids) (h a):=List.map_congr_left fun i hi=>by rw [hat i hi]
   have hall:(ids.all fun a=>bq ids (g a) && !nr (g a))=ids.all fun a=>bq ids (h a) && !nr (h a):=by
    rw [Bool.eq_iff_iff,List.all_eq_true,List.all_eq_true]
    exact ⟨fun hh i hi=>by rw [← hat i hi]; exact hh i hi,fun hh i hi=>by rw [hat i hi]; exact hh i hi⟩
   rw [hall,if_pos hc,hmap,e4]
   exact g1
  ·rw [hi2] at hi
   rcases List.mem_append.1 hi with hi | hi
   ·refine List.mem_append_left _ ?_
    obtain ⟨a,ha,hae⟩:=List.mem_map.1 hi
    exact List.mem_map.2 ⟨a,(List.mem_filter.1 ha).1,hae⟩
   ·exact List.mem_append_right _ hi
  ·by_cases hin:bZ i ∈ ids.map bZ++[2000+8*d]
   ·have hn2:bZ i ≠ 2000+8*d:=fun e=>hi (by rw [hi2,e]; simp)
    rw [g2 i hin,hgl i hin]
    by_cases hii:i ∈ ids
    ·exact Sb hii fun hh=>hi (by rw [hi2]; exact List.mem_append_left _ hh)
    ·exact g4 i hii hn2
   ·exact g3 i hin
 ·cases e2
theorem uk {call:er} {md:Mode} {d:Nat} {op:AOp} {s:aj} {r w:List Nat} (hz:step call md d op s h=some (x,h',[])) (hp:dQ d op s h h'=some (r,w)) :
  tl (fun g=>step call md d op s g) (fun g=>dQ d op s g) h x h' r w:=by
 cases op with
 | p op =>
  simp only [dQ,Option.some.injEq,Prod.mk.injEq] at hp
  obtain ⟨rfl,rfl⟩:=hp
  simp only [step,tV,Option.map_eq_some_iff] at hz
  obtain ⟨a,e1,e2⟩:=hz
  cases e2
  exact sC rfl (fun _ _=>rfl) fun g _=>by simp only [step,tV,e1,Option.map_some]
 | alloc z =>
  simp only [dQ,Option.some.injEq,Prod.mk.injEq] at hp
  obtain ⟨rfl,rfl⟩:=hp
  simp only [step,fE] at hz
  obtain ⟨h1,rfl,rfl,_⟩:=i7 hz
  exact i8 (by simp) rfl (fun _ _=>rfl) fun g hg=>by simp only [step,fE,hg,h1,qZ]
 | box k y =>
  simp only [dQ] at hp
  split at hp
  ·rename_i hd
   cases hp
   simp only [step,q8,Option.bind_eq_some_iff] at hz
   obtain ⟨xs,e1,hz⟩:=hz
   split at hz
   ·rename_i hk
    simp only [qy hd e1,if_true,fE] at hz
    obtain ⟨h1,rfl,rfl,_⟩:=i7 hz
    refine i8 (by simp) rfl (fun _ _=>by simp only [dQ,if_pos hd]) fun g hg => ?_
    simp only [step,q8,e1,Option.bind_some,if_pos hk,qy hd e1,if_true,fE,hg,h1,qZ]
   ·cases hz
  ·cases hp
 | buildSl k z n ps =>
  simp only [dQ] at hp
  split at hp
  ·rename_i hd
   cases hp
   simp only [step,Option.bind_eq_some_iff] at hz
   obtain ⟨q,e1,hz⟩:=hz
   have hd':((ps.map fun p=>(p.1,ev s p.2)).all fun p=>dat p.2)=true:=by
    rw [List.all_map]; exact hd
   obtain ⟨e2,e3,e4⟩:=wq hd' e1
   obtain ⟨q1,q2,q3⟩:=q
   simp only at e2 e3 e4 hz
   subst e2 e3
   simp only [dt] at hz
   obtain ⟨h1,rfl,rfl,_⟩:=i7 hz
   refine i8 (by simp) rfl (fun _ _=>by simp only [dQ,if_pos hd]) fun g hg => ?_
   simp only [step,e4 g,Option.bind_some,dt,hg,h1,qZ]
  ·cases hp
 | mkSl k z b l c =>
  simp only [dQ,Option.some.injEq,Prod.mk.injEq] at hp
  obtain ⟨rfl,rfl⟩:=hp
  simp only [step,Option.bind_eq_some_iff] at hz
  obtain ⟨q,e1,hz⟩:=hz
  split at hz
  ·rename_i hb
   simp only [dt] at hz
   obtain ⟨h1,rfl,rfl,_⟩:=i7 hz
   refine i8 (by simp) rfl (fun _ _=>rfl) fun g hg => ?_
   simp only [step,e1,Option.bind_some,if_pos hb,dt,hg,h1,qZ]
  ·cases hz
 | load k g y=>exact Nd hz hp
 | store k a y=>exact KD hz hp
 | app k b a y=>cases hp
 | cpy k x y=>cases hp
 | call f as=>exact Nf hz hp
 | bad=>cases hz
end
section
variable {call:er} {md:Mode} {s:aj} {h:ac}
theorem bB {s s':aj} {o:Opd} (hs:∀ i,i ∈ ft o→s' i=s i):ev s' o=ev s o:=by
 cases o with
 | t n=>exact hs n (by simp [ft])
 | c a=>rfl
theorem pA {s s':aj} {o:Option Opd} (hs:∀ i,i ∈ kX o.toList→s' i=s i):evo s' o=evo s o:=by
 cases o with
 | none=>rfl
 | some o=>simp only [evo]; rw [bB fun i hi=>hs i (by simpa [kX] using hi)]
theorem r6 {s s':aj} {l:List Opd} (hs:∀ i,i ∈ kX l→s' i=s i):l.map (ev s')=l.map (ev s) :=
 List.map_congr_left fun o ho=>bB fun i hi=>hs i (by simp only [kX,List.mem_flatMap]; exact ⟨o,ho,hi⟩)
theorem Pv {s s':aj} {op:POp} (hs:∀ i,i ∈ Hh op→s' i=s i):dw s' op=dw s op:=by
 cases op <;> simp only [Hh,List.mem_append] at hs <;> simp only [dw]
 case build z ps =>
  have:(ps.map fun p=>(p.1,p.2.1,ev s' p.2.2))=ps.map fun p=>(p.1,p.2.1,ev s p.2.2) :=
   List.map_congr_left fun p hp=>by rw [bB fun i hi=>hs i (by rw [List.mem_flatMap]; exact ⟨p,hp,hi⟩)]
  rw [this]
 case mnx m x ys=>rw [bB fun i hi=>hs i (.inl hi),r6 fun i hi=>hs i (.inr hi)]
 case mkF f a b=>rw [r6 fun i hi=>hs i (.inl hi),r6 fun i hi=>hs i (.inr hi)]
 case pick c a b=>rw [bB fun i hi=>hs i (.inl hi),bB fun i hi=>hs i (.inr (.inl hi)),bB fun i hi=>hs i (.inr (.inr hi))]
 case slc k x lo hi mx=>rw [bB fun i hi=>hs i (.inl hi),pA fun i hi=>hs i (.inr (.inl hi)),pA fun i hi=>hs i (.inr (.inr (.inl hi))),pA fun i hi=>hs i (.inr (.inr (.inr hi)))]
 case slcS x lo hi=>rw [bB fun i hi=>hs i (.inl hi),pA fun i hi=>hs i (.inr (.inl hi)),pA fun i hi=>hs i (.inr (.inr hi))]
 all_goals first
  | rw [bB hs]
  | rw [bB fun i hi=>hs i (.inl hi),bB fun i hi=>hs i (.inr hi)]
theorem qz {s s':aj} {d:Nat} {op:AOp} (hs:∀ i,i ∈ Hi op→s' i=s i):step call md d op s' h=step call md d op s h∧∀ h',dQ d op s' h h'=dQ d op s h h':=by
 cases op <;> simp only [Hi,List.mem_append] at hs <;> simp only [step,dQ]
 case p op=>rw [Pv hs]; exact ⟨rfl,fun _=>trivial⟩
 case alloc z=>exact ⟨trivial,fun _=>trivial⟩
 case box k x=>rw [bB hs]; exact ⟨rfl,fun _=>rfl⟩
 case buildSl k z n ps =>
  have:(ps.map fun p=>(p.1,ev s' p.2))=ps.map fun p=>(p.1,ev s p.2) :=
   List.map_congr_left fun p hp=>by rw [bB fun i hi=>hs i (by rw [List.mem_flatMap]; exact ⟨p,hp,hi⟩)]
  rw [this]
  have h2:(ps.all fun p=>dat (ev s' p.2))=ps.all fun p=>dat (ev s p.2):=by
   rw [show (ps.all fun p=>dat (ev s' p.2))=((ps.map fun p=>(p.1,ev s' p.2)).all fun p=>dat p.2) from by rw [List.all_map]; rfl,this,List.all_map]; rfl
  rw [h2]
  exact ⟨rfl,fun _=>rfl⟩
 case mkSl k z b l c=>rw [bB fun i hi=>hs i (.inl hi),bB fun i hi=>hs i (.inr hi)]; exact ⟨rfl,fun _=>trivial⟩
 case load k g x=>rw [bB hs]; exact ⟨rfl,fun _=>rfl⟩
 case store k x y=>rw [bB fun i hi=>hs i (.inl hi),bB fun i hi=>hs i (.inr hi)]; exact ⟨rfl,fun _=>rfl⟩
 case app k b x y=>rw [bB fun i hi=>hs i (.inl hi),bB fun i hi=>hs i (.inr hi)]; exact ⟨rfl,fun _=>trivial⟩
 case cpy k x y=>rw [bB fun i hi=>hs i (.inl hi),bB fun i hi=>hs i (.inr hi)]; exact ⟨rfl,fun _=>trivial⟩
 case call f as=>rw [bB fun i hi=>hs i (.inl hi),r6 fun i hi=>hs i (.inr hi)]; exact ⟨rfl,fun _=>rfl⟩
 case bad=>exact ⟨trivial,fun _=>trivial⟩
theorem wu {d:Option Nat} {f:ac→Fp} {f':Fp} {r:Option R3} {t:St} (hz:fL s d f r=some (t,f')):∃ x h',r=some (x,h',[])∧t=⟨dy s d x,h'⟩∧f'=f h':=by
 unfold fL at hz
 split at hz
 ·cases hz; exact ⟨_,_,rfl,rfl,rfl⟩
 ·cases hz
theorem r7 {o:COp} {t:St} {f:Fp} (hz:cr call md o s h=some (t,f)) :
  ∃ x h',t=⟨dy s o.d x,h'⟩∧((∀ s':aj,∀ g:ac,(∀ i,i ∈ js o→s' i=s i)→cr call md o s' g=some (⟨dy s' o.d x,g⟩,some ([],[])))∧h'=h∧f=some ([],[]) ∨
   (step call md (o.d.getD 0) o.op s h=some (x,h',[])∧f=dQ (o.d.getD 0) o.op s h h' ∧
    ∀ s':aj,∀ g:ac,(∀ i,i ∈ js o→s' i=s i)→cr call md o s' g=fL s' o.d (dQ (o.d.getD 0) o.op s g) (step call md (o.d.getD 0) o.op s g))):=by
 unfold cr at hz
 cases hg:o.g with
 | none =>
  rw [hg] at hz
  simp only at hz
  obtain ⟨x,h',e1,e2,e3⟩:=wu hz
  refine ⟨x,h',e2,.inr ⟨e1,e3,fun s' g hs => ?_⟩⟩
  simp only [js,hg,List.nil_append] at hs
  unfold cr
  rw [hg]
  simp only
  rw [(qz (h:=g) hs).1,funext (qz (call:=call) (md:=md) (h:=g) hs).2]
 | some jb =>
  obtain ⟨j,b⟩:=jb
  rw [hg] at hz
  simp only at hz
  have hj:∀ s':aj,(∀ i,i ∈ js o→s' i=s i)→s' j=s j:=fun s' hs=>hs j (by simp [js,hg])
  unfold iW at hz
  split at hz
  ·rename_i bb hb
   split at hz
   ·rename_i hbb
    obtain ⟨x,h',e1,e2,e3⟩:=wu hz
    refine ⟨x,h',e2,.inr ⟨e1,e3,fun s' g hs => ?_⟩⟩
    unfold cr
    rw [hg]
    simp only
    rw [hj s' hs,hb]
    simp only [iW,if_pos hbb]
    simp only [js,hg,List.mem_append] at hs
    rw [(qz (h:=g) fun i hi=>hs i (.inr hi)).1,funext (qz (call:=call) (md:=md) (h:=g) fun i hi=>hs i (.inr hi)).2]
   ·rename_i hbb
    cases hz
    refine ⟨.und,h,rfl,.inl ⟨fun s' g hs => ?_,rfl,rfl⟩⟩
    unfold cr
    rw [hg]
    simp only
    rw [hj s' hs,hb]
    simp only [iW,if_neg hbb]
  ·rename_i hb
   cases hz
   refine ⟨.und,h,rfl,.inl ⟨fun s' g hs => ?_,rfl,rfl⟩⟩
   unfold cr
   rw [hg]
   simp only
   rw [hj s' hs,hb]
   simp only [iW]
  ·cases hz
theorem LK {d:Option Nat} {x:AV} {i:Nat} (hn:∀ e,d=some e→i ≠ e):dy s d x i=s i:=by
 cases d with
 | none=>rfl
 | some e=>exact aF _ _ (hn e rfl)
theorem Pw {a b:Option Nat} (x y:AV) (hn:∀ i j,a=some i→b=some j→i ≠ j):dy (dy s a x) b y=dy (dy s b y) a x:=by
 cases a with
 | none=>rfl
 | some i =>
  cases b with
  | none=>rfl
  | some j =>
   have:=hn i j rfl rfl
   funext k
   simp only [dy,upd]
   by_cases h1:k=j <;> by_cases h2:k=i
   ·omega
   ·subst h1; simp [h2]
   ·subst h2; simp [h1]
   ·simp [h1,h2]
theorem Ng {a b:COp} (hi:xO a b=true):(∀ i d,i ∈ js b→a.d=some d→i ≠ d)∧(∀ i d,i ∈ js a→b.d=some d→i ≠ d)∧∀ i j,a.d=some i→b.d=some j→i ≠ j:=by
 simp only [xO,Bool.and_eq_true] at hi
 obtain ⟨⟨h1,h2⟩,h3⟩:=hi
 refine ⟨fun i d hm hd => ?_,fun i d hm hd => ?_,fun i j e1 e2 => ?_⟩
 ·rw [hd] at h1
  rintro rfl
  simp at h1
  exact h1 hm
 ·rw [hd] at h2
  rintro rfl
  simp at h2
  exact h2 hm
 ·rw [e1,e2] at h3
  simpa using h3
def kv (f g:Fp):Prop:=gD f g=true
theorem EQ {a b:List Nat} (h:pY a b=true) {i:Nat} (ha:i ∈ a):i ∉ b:=by
 simp only [pY,List.all_eq_true,Bool.not_eq_true',List.contains_eq_mem,decide_eq_false_iff_not] at h
 exact h i ha
theorem qA {α:Type} {l:List α} (h:l.isEmpty=true):l=[]:=by cases l <;> simp at h ⊢
theorem ZE {a b:COp} {t1 t2:St} {fa fb:Fp} (ha:cr call md a s h=some (t1,fa)) (hb:cr call md b t1.s t1.h=some (t2,fb)) (hi:xO a b=true) (hf:kv fa fb) :
  ∃ t,cr call md b s h=some (t,fb)∧cr call md a t.s t.h=some (t2,fa):=by
 obtain ⟨i1,i2,i3⟩:=Ng hi
 obtain ⟨xa,ha',rfl,ca⟩:=r7 ha
 simp only at hb
 obtain ⟨xb,hb',rfl,cb⟩:=r7 hb
 have sb:∀ i,i ∈ js b→s i=dy s a.d xa i:=fun i hm=>(LK fun e he=>i1 i e hm he).symm
 have sa:∀ i,i ∈ js a→dy s b.d xb i=s i:=fun i hm=>LK fun e he=>i2 i e hm he
 have sc:=Pw (s:=s) xa xb i3
 rcases ca with ⟨ca,rfl,rfl⟩ | ⟨ea,rfl,ca⟩
 ·
  rcases cb with ⟨cb,rfl,rfl⟩ | ⟨eb,rfl,cb⟩
  ·exact ⟨_,cb s _ sb,by rw [ca _ _ sa,← sc]⟩
  ·refine ⟨⟨dy s b.d xb,hb'⟩,?_,by rw [ca _ _ sa,← sc]⟩
   rw [cb s _ sb,eb]
   rfl
 ·rcases cb with ⟨cb,rfl,rfl⟩ | ⟨eb,rfl,cb⟩
  ·refine ⟨_,cb s _ sb,?_⟩
   rw [ca _ _ sa,ea]
   simp only [fL,← sc]
  ·
   unfold kv at hf
   cases efa:dQ (a.d.getD 0) a.op s h ha' with
   | none =>
    rw [efa] at hf
    cases efb:dQ (b.d.getD 0) b.op (dy s a.d xa) ha' hb' with
    | none=>rw [efb] at hf; cases hf
    | some q =>
     obtain ⟨r,w⟩:=q
     rw [efb] at hf
     simp only [gD,Bool.and_eq_true] at hf
     have hr:=qA hf.1
     have hw:=qA hf.2
     subst hr hw
     have fb:=uk eb efb
     obtain ⟨g1,p1,p2,p3,p4⟩:=fb h (fun i hi=>by simp at hi)
     obtain ⟨g2,q1,q2,q3,q4⟩:=fb ha' (fun i hi=>rfl)
     have e1:g1=h:=funext fun i=>p4 i (by simp)
     have e2:hb'=ha':=by
      have:g2=hb':=by dsimp only at q1; rw [eb] at q1; simpa using q1.symm
      rw [← this]
      exact funext fun i=>q4 i (by simp)
     subst e1 e2
     refine ⟨⟨dy s b.d xb,g1⟩,?_,?_⟩
     ·rw [cb s _ sb]
      dsimp only at p1 p2
      rw [p1]
      simp only [fL,p2]
     ·rw [ca _ _ sa,ea]
      simp only [fL,efa,← sc]
   | some p =>
    obtain ⟨ra,wa⟩:=p
    rw [efa] at hf
    have fra:=uk ea efa
    cases efb:dQ (b.d.getD 0) b.op (dy s a.d xa) ha' hb' with
    | none =>
     rw [efb] at hf
     simp only [gD,Bool.and_eq_true] at hf
     have hr:=qA hf.1
     have hw:=qA hf.2
     subst hr hw
     obtain ⟨g1,p1,p2,p3,p4⟩:=fra h (fun i hi=>rfl)
     have e1:ha'=h:=by
      have:g1=ha':=by dsimp only at p1; rw [ea] at p1; simpa using p1.symm
      rw [← this]
      exact funext fun i=>p4 i (by simp)
     subst e1
     obtain ⟨g2,q1,q2,q3,q4⟩:=fra hb' (fun i hi=>by simp at hi)
     have e2:g2=hb':=funext fun i=>q4 i (by simp)
     subst e2
     refine ⟨⟨dy s b.d xb,g2⟩,?_,?_⟩
     ·rw [cb s _ sb,eb]
      simp only [fL,efb]
     ·rw [ca _ _ sa]
      dsimp only at q1 q2
      rw [q1]
      simp only [fL,q2,← sc]
    | some q =>
     obtain ⟨rb,wb⟩:=q
     rw [efb] at hf
     simp only [gD,Bool.and_eq_true] at hf
     obtain ⟨d1,d2⟩:=hf
     have frb:=uk eb efb
     have hout:∀ i,bZ i ∉ wa→ha' i=h i:=by
      obtain ⟨g1,p1,p2,p3,p4⟩:=fra h (fun i hi=>rfl)
      have:g1=ha':=by dsimp only at p1; rw [ea] at p1; simpa using p1.symm
      subst this
      exact p4
     have hout2:∀ i,bZ i ∉ wb→hb' i=ha' i:=by
      obtain ⟨g1,p1,p2,p3,p4⟩:=frb ha' (fun i hi=>rfl)
      have:g1=hb':=by dsimp only at p1; rw [eb] at p1; simpa using p1.symm
      subst this
      exact p4
     have nwa:∀ i,bZ i ∈ rb∨bZ i ∈ wb→bZ i ∉ wa:=fun i hi hw=>EQ d1 hw (by simpa using hi)
     obtain ⟨g1,p1,p2,p3,p4⟩:=frb h (fun i hi=>(hout i (nwa i hi)).symm)
     have agr:∀ i,bZ i ∈ ra∨bZ i ∈ wa→g1 i=h i:=fun i hi=>p4 i fun hw=>by
      rcases hi with hi | hi
      ·exact EQ d2 hw hi
      ·exact nwa i (.inr hw) hi
     obtain ⟨g2,q1,q2,q3,q4⟩:=fra g1 agr
     have e2:g2=hb':=funext fun i=>by
      by_cases hwa:bZ i ∈ wa
      ·rw [q3 i hwa]
       exact (hout2 i fun hw=>nwa i (.inr hw) hwa).symm
      ·rw [q4 i hwa]
       by_cases hwb:bZ i ∈ wb
       ·exact p3 i hwb
       ·rw [p4 i hwb,hout2 i hwb,hout i hwa]
     subst e2
     refine ⟨⟨dy s b.d xb,g1⟩,?_,?_⟩
     ·rw [cb s _ sb]
      dsimp only at p1 p2
      rw [p1]
      simp only [fL,p2]
     ·rw [ca _ _ sa]
      dsimp only at q1 q2
      rw [q1]
      simp only [fL,q2,← sc]
theorem HD {o:COp} {post:List COp}:∀ {pre:List COp} {s:aj} {h:ac} {t:St} {Fs:List Fp},fM call md (pre++o::post) s h=some (t,Fs) →
  ∃ Fpre f Fpost,Fs=Fpre++f::Fpost∧Fpre.length=pre.length∧((∀ (j:Nat) (a:COp) (fa:Fp),pre[j]?=some a→Fpre[j]?=some fa→xO a o=true∧kv fa f) →
   ∃ t1,cr call md o s h=some (t1,f)∧fM call md (pre++post) t1.s t1.h=some (t,Fpre++Fpost))
 | [],s,h,t,Fs,hz=>by
  simp only [List.nil_append,fM,Option.bind_eq_some_iff] at hz
  obtain ⟨⟨t1,f⟩,e1,⟨t2,F2⟩,e2,e3⟩:=hz
  cases e3
  exact ⟨[],f,F2,rfl,rfl,fun _=>⟨t1,e1,e2⟩⟩
 | a::pre,s,h,t,Fs,hz=>by
  simp only [List.cons_append,fM,Option.bind_eq_some_iff] at hz
  obtain ⟨⟨t1,fa⟩,e1,⟨t2,F2⟩,e2,e3⟩:=hz
  cases e3
  obtain ⟨Fpre,f,Fpost,rfl,hl,hh⟩:=HD e2
  refine ⟨fa::Fpre,f,Fpost,rfl,by simp [hl],fun hc => ?_⟩
  obtain ⟨t3,g1,g2⟩:=hh fun j a' fa' h1 h2=>hc (j+1) a' fa' (by simpa using h1) (by simpa using h2)
  obtain ⟨c1,c2⟩:=hc 0 a fa rfl rfl
  obtain ⟨t4,k1,k2⟩:=ZE e1 g1 c1 c2
  refine ⟨t4,k1,?_⟩
  simp only [List.cons_append,fM,k2,Option.bind_some,g2]
end
section
variable {P:Program} {I:Inv} {call:er} {md:Mode} {N:Nat} {ops:Array Oper}
theorem KF {o:COp} {s:aj} {h:ac} {t:St} {f:Fp} (hz:cr call md o s h=some (t,f)):kW call md o s h=some t:=by
 have fin:∀ (F:ac→Fp) (r:Option R3),fL s o.d F r=some (t,f)→cE md.nm s o.d r=some t:=by
  intro F r hz
  obtain ⟨x,h',e1,e2,_⟩:=wu hz
  subst e1 e2
  simp only [cE,ku,if_true]
  rfl
 unfold cr at hz
 unfold kW
 cases hg:o.g with
 | none =>
  rw [hg] at hz
  exact fin _ _ hz
 | some jb =>
  obtain ⟨j,b⟩:=jb
  rw [hg] at hz
  simp only at hz ⊢
  unfold iW at hz
  unfold fW
  split at hz
  ·rename_i bb hb
   split at hz
   ·rename_i hbb
    rw [if_pos hbb]
    exact fin _ _ hz
   ·rename_i hbb
    rw [if_neg hbb]
    cases hz
    rfl
  ·cases hz
   simp only
  ·cases hz
theorem qB:∀ {l:List Oper} {cl:List COp},kt P N ops l=some cl→cl.length=l.length∧∀ (j:Nat) (o:Oper) (c:COp),l[j]?=some o→cl[j]?=some c→A9 P N ops o=some c
 | [],cl,hc=>by simp only [kt,Option.some.injEq] at hc; subst hc; exact ⟨rfl,fun j o c h1=>by simp at h1⟩
 | o::l,cl,hc=>by
  simp only [kt,Option.bind_eq_some_iff] at hc
  obtain ⟨c,e1,q,e2,e3⟩:=hc
  cases e3
  obtain ⟨g1,g2⟩:=qB e2
  refine ⟨by simp [g1],fun j o' c' h1 h2 => ?_⟩
  cases j with
  | zero=>simp at h1 h2; subst h1 h2; exact e1
  | succ j=>exact g2 j o' c' (by simpa using h1) (by simpa using h2)
theorem HE:∀ {l:List COp} {s:aj} {h:ac} {t:St} {Fs:List Fp},fM call md l s h=some (t,Fs)→Fs.length=l.length∧∀ (j:Nat) (a:COp) (f:Fp),l[j]?=some a→Fs[j]?=some f→∃ s' h' t',cr call md a s' h'=some (t',f)
 | [],s,h,t,Fs,hz=>by simp only [fM,Option.some.injEq,Prod.mk.injEq] at hz; obtain ⟨_,rfl⟩:=hz; exact ⟨rfl,fun j a f h1=>by simp at h1⟩
 | o::l,s,h,t,Fs,hz=>by
  simp only [fM,Option.bind_eq_some_iff] at hz
  obtain ⟨⟨t1,f1⟩,e1,⟨t2,F2⟩,e2,e3⟩:=hz
  cases e3
  obtain ⟨g1,g2⟩:=HE e2
  refine ⟨by simp [g1],fun j a f h1 h2 => ?_⟩
  cases j with
  | zero=>simp at h1 h2; subst h1 h2; exact ⟨s,h,t1,e1⟩
  | succ j=>exact g2 j a f (by simpa using h1) (by simpa using h2)
theorem zu:∀ (l:List Oper) (acc:List (List Nat)),∃ r,jV l acc=acc++r∧r.length=l.length
 | [],acc=>⟨[],by simp [jV],rfl⟩
 | o::l,acc=>by
  obtain ⟨r,e1,e2⟩:=zu l (acc++[en o++(en o).flatMap fun d=>acc.getD d []])
  exact ⟨(en o++(en o).flatMap fun d=>acc.getD d [])::r,by rw [jV,e1,List.append_assoc]; rfl,by simp [e2]⟩
theorem HF:∀ (l:List Oper) (acc:List (List Nat)) (j:Nat) (o:Oper),l[j]?=some o→∃ pre,(jV l acc)[acc.length+j]?=some (en o++(en o).flatMap fun d=>pre.getD d []) ∧
  pre.length=acc.length+j∧∃ r,jV l acc=pre++r
 | [],acc,j,o,h=>by simp at h
 | o::l,acc,0,o',h=>by
  simp at h
  subst h
  obtain ⟨r,e1,e2⟩:=zu l (acc++[en o++(en o).flatMap fun d=>acc.getD d []])
  refine ⟨acc,?_,rfl,⟨_,by rw [jV,e1,List.append_assoc]⟩⟩
  rw [jV,e1,List.append_assoc]
  simp
 | o::l,acc,j+1,o',h=>by
  obtain ⟨pre,e1,e2,e3⟩:=HF l (acc++[en o++(en o).flatMap fun d=>acc.getD d []]) j o' (by simpa using h)
  refine ⟨pre,?_,by simp [e2]; omega,e3⟩
  rw [jV,← e1]
  congr 1
  simp
  omega
theorem wv {ps:List (Nat × Nat)} {j:Nat} {b:COp} {bf:List Nat}:∀ {l:List COp} {i0:Nat},xR ps j b bf i0 l=true→∀ (i:Nat) (a:COp),l[i]?=some a→(i0+i) ∈ bf∨G2 ps (i0+i) j a b=true
 | [],i0,_,i,a,h=>by simp at h
 | c::l,i0,hd,i,a,h=>by
  simp only [xR,Bool.and_eq_true,Bool.or_eq_true] at hd
  cases i with
  | zero=>simp at h; subst h; simpa using hd.1
  | succ i =>
   have:=wv hd.2 i a (by simpa using h)
   rwa [show i0+1+i=i0+(i+1) from by omega] at this
theorem u7 {ps:List (Nat × Nat)}:∀ {l:List COp} {bs:List (List Nat)} {j0:Nat} {done:List COp},done.length=j0→tZ ps j0 done l bs=true→∀ (j:Nat) (b:COp) (bf:List Nat),l[j]?=some b→bs[j]?=some bf →
  (∀ i ∈ bf,i < j0+j)∧∀ (i:Nat) (a:COp),i < j0+j→(done++l)[i]?=some a→i ∈ bf∨G2 ps i (j0+j) a b=true
 | [],bs,j0,done,hl,hd,j,b,bf,h1,h2=>by simp at h1
 | c::l,[],j0,done,hl,hd,j,b,bf,h1,h2=>by simp at h2
 | c::l,b0::bs,j0,done,hl,hd,j,b,bf,h1,h2=>by
  simp only [tZ,Bool.and_eq_true,List.all_eq_true,decide_eq_true_eq] at hd
  cases j with
  | zero =>
   simp at h1 h2
   subst h1 h2
   refine ⟨hd.1,fun i a hi ha => ?_⟩
   rw [List.getElem?_append_left (by omega)] at ha
   simpa using wv hd.2.1 i a ha
  | succ j =>
   obtain ⟨g1,g2⟩:=u7 (by simp [hl]) hd.2.2 j b bf (by simpa using h1) (by simpa using h2)
   refine ⟨fun i hi=>by have:=g1 i hi; omega,fun i a hi ha => ?_⟩
   have:=g2 i a (by omega) (by rw [List.append_assoc]; exact ha)
   rwa [show j0+1+j=j0+(j+1) from by omega] at this
theorem ER (f:Fp):kv (some ([],[])) f:=by
 unfold kv
 cases f <;> simp [gD,pY]
theorem kv.symm {f g:Fp} (h:kv f g):kv g f:=by
 unfold kv at *
 cases f <;> cases g <;> simp only [gD] at h ⊢ <;> try exact h
 rename_i p q
 simp only [Bool.and_eq_true,pY,List.all_eq_true,Bool.not_eq_true',List.contains_eq_mem,decide_eq_false_iff_not,List.mem_append] at h ⊢
 exact ⟨fun x hx hy=>by
  rcases hy with hy | hy
  ·exact h.2 x hx hy
  ·exact h.1 x hy (.inr hx),fun x hx hy=>h.1 x hx (.inl hy)⟩
theorem LL {o:COp} {s:aj} {h:ac} {t:St} {f:Fp} (hz:cr call md o s h=some (t,f)) (hp:W3 o.op=true):f=some ([],[]):=by
 obtain ⟨x,h',e,⟨_,_,rfl⟩ | ⟨_,rfl,_⟩⟩:=r7 hz
 ·rfl
 ·cases ho:o.op <;> rw [ho] at hp <;> first | rfl | cases hp
theorem Bn {o:COp} {s:aj} {h:ac} {t:St} {f:Fp} (hz:cr call md o s h=some (t,f)) (hp:Hk o.op=true):∃ r,f=some (r,[]):=by
 obtain ⟨x,h',e,⟨_,_,rfl⟩ | ⟨e2,rfl,_⟩⟩:=r7 hz
 ·exact ⟨[],rfl⟩
 ·cases ho:o.op <;> rw [ho] at hp <;> try (cases hp; done)
  rename_i k g y
  rw [ho] at e2
  simp only [step] at e2
  simp only [dQ]
  cases hy:ev s y <;> rw [hy] at e2 <;> simp only [dU] at e2 <;> first | (cases e2; done) | exact ⟨_,rfl⟩
abbrev T0:=List (Nat × COp × Fp)
structure Rest (ops:Array Oper) (cl:List COp) (bf:Nat→List Nat) (listed:Array Bool) (L:T0):Prop where
 size:listed.size=ops.size
 op:∀ x ∈ L,cl[x.1]?=some x.2.1∧listed.getD x.1 true=false
 all:∀ j,j < ops.size→listed.getD j true=false→∃ x ∈ L,x.1=j
 pw:L.Pairwise fun x y=>x.1 < y.1∧(x.1 ∈ bf y.1∨(xO x.2.1 y.2.1=true∧kv x.2.2 y.2.2))
 cls:∀ k,k < ops.size→listed.getD k true=true→∀ i ∈ bf k,listed.getD i true=true
theorem ES (hcall:iQ P I call md) (hN:N≤1000) {cl:List COp} (hc:kt P N ops ops.toList=some cl) {bf:Nat→List Nat}
  (hlt:∀ j,j < ops.size→∀ i ∈ bf j,i < j) (hdep:∀ (j:Nat) (o:Oper),ops[j]?=some o→(∀ d ∈ en o,d ∈ bf j)∧∀ i ∈ bf j,i ∈ en o∨∃ d ∈ en o,i ∈ bf d) :
  ∀ (fuel:Nat) {L:T0} {listed:Array Bool} {w:World} {X:Nat→Prop} {ρ:bd} {h:ac} {s:aj} {a:Act} {t:St} {Q:Exit→Act→World→Prop},L.length=fuel→Rest ops cl bf listed L →
   fM call md (L.map (·.2.1)) s h=some (t,L.map (·.2.2))→Ok I N w X ρ h s a→(∀ a' w' ρ',Ok I N w' X ρ' t.h t.s a'→Far md.nm w ρ h w' ρ' t.h→Q .normal a' w')→wpAny P .any ops Q fuel listed a w
 | 0,L,listed,w,X,ρ,h,s,a,t,Q,hl,hr,hz,ok,hQ=>by
  have:L=[]:=by simpa using hl
  subst this
  simp only [List.map_nil,fM,Option.some.injEq,Prod.mk.injEq] at hz
  obtain ⟨rfl,_⟩:=hz
  refine ⟨?_,hQ _ _ ρ ok (.refl _ _ _ _)⟩
  rw [List.eq_nil_iff_forall_not_mem]
  intro j hj
  obtain ⟨h1,o,h2,_⟩:=mem_ready.1 hj
  obtain ⟨x,hx,_⟩:=hr.all j (Array.getElem?_eq_some_iff.1 h2).1 h1
  simp at hx
 | fuel+1,L,listed,w,X,ρ,h,s,a,t,Q,hl,hr,hz,ok,hQ=>by
  have tf:∀ d,d < ops.size→listed.getD d true=listed.getD d false:=fun d hd=>by
   have:d < listed.size:=by rw [hr.size]; exact hd
   simp [this]
  have lenc:=(qB hc).1
  refine ⟨fun hnil => ?_,fun i hi => ?_⟩
  ·exfalso
   cases L with
   | nil=>simp at hl
   | cons x L' =>
    obtain ⟨h1,h2⟩:=hr.op x (by simp)
    have hx:x.1 < ops.size:=by
     have:=(List.getElem?_eq_some_iff.1 h1).1
     rw [lenc] at this
     simpa using this
    have hox:ops[x.1]?=some ops[x.1]:=by simp [hx]
    have:x.1 ∈ Region.ready .any ops listed:=by
     refine mem_ready.2 ⟨h2,ops[x.1],hox,fun e he hb => ?_⟩
     have hd:e.on ∈ en ops[x.1]:=by
      simp only [en,List.mem_map,List.mem_filter]
      exact ⟨e,⟨by simpa using he,hb⟩,rfl⟩
     have hlt':=hlt x.1 hx _ ((hdep x.1 _ hox).1 _ hd)
     rw [← tf e.on (by omega)]
     cases hq:listed.getD e.on true with
     | true=>rfl
     | false =>
      obtain ⟨y,hy,hye⟩:=hr.all e.on (by omega) hq
      rcases List.mem_cons.1 hy with rfl | hy'
      ·omega
      ·have:=(List.pairwise_cons.1 hr.pw).1 y hy'
       omega
    rw [hnil] at this
    cases this
  ·obtain ⟨h1,o,h2,h3⟩:=mem_ready.1 hi
   have hisz:i < ops.size:=(Array.getElem?_eq_some_iff.1 h2).1
   obtain ⟨x,hx,rfl⟩:=hr.all i hisz h1
   obtain ⟨L1,L2,rfl⟩:=List.append_of_mem hx
   have hbl:∀ k ∈ bf x.1,listed.getD k true=true:=by
    intro k hk
    have dl:∀ d ∈ en o,listed.getD d true=true:=by
     intro d hd
     have hdl:d < ops.size:=Nat.lt_trans (hlt x.1 hisz d ((hdep x.1 o h2).1 d hd)) hisz
     simp only [en,List.mem_map,List.mem_filter] at hd
     obtain ⟨e,⟨he,hb⟩,rfl⟩:=hd
     rw [tf _ hdl]
     exact h3 e (by simpa using he) hb
    rcases (hdep x.1 o h2).2 k hk with hd | ⟨d,hd,hkd⟩
    ·exact dl k hd
    ·exact hr.cls d (Nat.lt_trans (hlt x.1 hisz d ((hdep x.1 o h2).1 d hd)) hisz) (dl d hd) k hkd
   have hpw:=hr.pw
   rw [List.pairwise_append] at hpw
   obtain ⟨pw1,pw2,pw3⟩:=hpw
   rw [List.pairwise_cons] at pw2
   simp only [List.map_append,List.map_cons] at hz
   obtain ⟨Fpre,f,Fpost,e1,e2,e3⟩:=HD hz
   have e4:Fpre=L1.map (·.2.2)∧f=x.2.2∧Fpost=L2.map (·.2.2):=by
    have:=List.append_inj e1.symm (by simpa using e2)
    simp only [List.cons.injEq] at this
    exact ⟨this.1,this.2.1,this.2.2⟩
   obtain ⟨rfl,rfl,rfl⟩:=e4
   obtain ⟨t1,g1,g2⟩:=e3 fun j c fc hj1 hj2=>by
    simp only [List.getElem?_map,Option.map_eq_some_iff] at hj1 hj2
    obtain ⟨y,hy,rfl⟩:=hj1
    obtain ⟨y',hy',rfl⟩:=hj2
    rw [hy] at hy'
    cases hy'
    have hyL:=List.mem_of_getElem? hy
    rcases (pw3 y hyL x (by simp)).2 with hin | hh
    ·have:=hbl _ hin
     rw [(hr.op y (by simp [hyL])).2] at this
     cases this
    ·exact hh
   obtain ⟨c1,_⟩:=hr.op x (by simp)
   have hco:A9 P N ops o=some x.2.1:=(qB hc).2 x.1 o x.2.1 (by simpa using h2) c1
   have nx:∀ y,y ∈ L1++L2→y.1 ≠ x.1:=by
    intro y hy
    rcases List.mem_append.1 hy with hy | hy
    ·have:=(pw3 y hy x (by simp)).1; omega
    ·have:=(pw2.1 y hy).1; omega
   refine Bj hcall hN h2 hco ok (KF g1) fun a' w' ρ' ok' far => ?_
   have set_ne:∀ k,k ≠ x.1→(listed.setIfInBounds x.1 true).getD k true=listed.getD k true:=fun k hk=>getD_set_ne true (Ne.symm hk)
   have set_same:(listed.setIfInBounds x.1 true).getD x.1 true=true:=by
    have:x.1 < listed.size:=by rw [hr.size]; exact hisz
    simp [this]
   refine ES hcall hN hc hlt hdep fuel (L:=L1++L2) (by simp at hl ⊢; omega) ⟨by simpa using hr.size,fun y hy => ?_,fun j hj hjl => ?_,?_,fun k hk hkl k' hk' => ?_⟩ (by simpa [List.map_append] using g2) ok' fun a'' w'' ρ'' ok'' far'=>hQ _ _ ρ'' ok'' (far.trans far')
   ·obtain ⟨q1,q2⟩:=hr.op y (by rcases List.mem_append.1 hy with hy | hy <;> simp [hy])
    exact ⟨q1,by rw [set_ne _ (nx y hy)]; exact q2⟩
   ·have hne:j ≠ x.1:=by rintro rfl; rw [set_same] at hjl; cases hjl
    rw [set_ne _ hne] at hjl
    obtain ⟨y,hy,rfl⟩:=hr.all j hj hjl
    refine ⟨y,?_,rfl⟩
    simp only [List.mem_append,List.mem_cons] at hy ⊢
    rcases hy with hy | rfl | hy
    ·exact .inl hy
    ·exact absurd rfl hne
    ·exact .inr hy
   ·rw [List.pairwise_append]
    exact ⟨pw1,pw2.2,fun y hy z hz=>pw3 y hy z (by simp [hz])⟩
   ·have old:listed.getD k' true=true:=by
     by_cases hkx:k=x.1
     ·subst hkx; exact hbl k' hk'
     ·rw [set_ne _ hkx] at hkl
      exact hr.cls k hk hkl k' hk'
    by_cases hk'x:k'=x.1
    ·rw [hk'x]; exact set_same
    ·rw [set_ne _ hk'x]; exact old
theorem Ok.draws {w:World} {X:Nat→Prop} {ρ:bd} {h:ac} {s:aj} {a:Act} (ok:Ok I N w X ρ h s a):Ok I N { w with drawn:=w.drawn+1 } X ρ h s a∧Far md.nm w ρ h { w with drawn:=w.drawn+1 } ρ h:=by
 have e:Evo w ρ h { w with drawn:=w.drawn+1 } ρ h []:=⟨rfl,rfl,rfl,Nat.le_refl _,fun _ _ _=>rfl,fun _ _ hp _=>⟨hp,rfl⟩,fun _ ho => .inl ho,fun _ hb=>⟨hb,rfl⟩,fun _ _ hd=>⟨hd,rfl⟩⟩
 exact ⟨⟨ok.rel.step e (fun _=>False) (fun _ _=>⟨rfl,fun _=>rfl,fun _ _=>rfl⟩) ok.rel.inj ok.rel.nx (fun _ hf=>hf.elim),e.rs ok.rs,ok.size,ok.defers,e.inv ok.rel ok.inv⟩,e.far (ku _)⟩
theorem Nh (hm:P.follows .mixedOrders=true) (hcall:iQ P I call md) (hN:N≤1000):EM P I call md N:=by
 intro id ops cl w X ρ h s a t ps Q hc hd ok hz hQ
 simp only [pf,Option.bind_eq_some_iff] at hz
 obtain ⟨⟨t',Fs⟩,e1,e2⟩:=hz
 split at e2
 ·rename_i hps
  cases e2
  refine wp_region_any hm ?_
  obtain ⟨ok',far'⟩:=ok.draws (md:=md)
  obtain ⟨lf,gf⟩:=HE e1
  obtain ⟨lc,gc⟩:=qB hc
  have lc':cl.length=ops.size:=by simpa using lc
  have hsp:=u7 (done:=[]) (j0:=0) rfl hd
  have lb:(jV ops.toList []).length=ops.size:=by
   obtain ⟨r,q1,q2⟩:=zu ops.toList []
   rw [q1]
   simpa using q2
  have bget:∀ j,j < ops.size→(jV ops.toList [])[j]?=some ((jV ops.toList []).getD j []):=fun j hj=>by
   rw [List.getD_eq_getElem?_getD]
   simp [List.getElem?_eq_getElem (show j < (jV ops.toList []).length from by omega)]
  have hlt:∀ j,j < ops.size→∀ i ∈ (jV ops.toList []).getD j [],i < j:=fun j hj i hi=>by
   have:=(hsp j cl[j] _ (by simp) (bget j hj)).1 i hi
   omega
  refine ES hcall hN hc (bf:=fun j=>(jV ops.toList []).getD j []) hlt (fun j o hj => ?_) ops.size (L:=(List.range ops.size).zip (cl.zip Fs)) (by simp [lc',lf]) ⟨by simp,fun x hx => ?_,fun j hj _ => ?_,?_,fun k hk hkl => ?_⟩ ?_ ok' fun a'' w'' ρ'' ok'' far''=>hQ _ _ ρ'' ok'' (far'.trans far'')
  ·have hjs:j < ops.size:=(Array.getElem?_eq_some_iff.1 hj).1
   obtain ⟨pre,q1,q2,r,q3⟩:=HF ops.toList [] j o (by simpa using hj)
   simp only [List.length_nil,Nat.zero_add] at q1 q2
   have hrow:(jV ops.toList []).getD j []=en o++(en o).flatMap fun d=>pre.getD d []:=by
    rw [List.getD_eq_getElem?_getD,q1]; rfl
   have hpre:∀ d ∈ en o,pre.getD d []=(jV ops.toList []).getD d []:=fun d hd=>by
    have hdj:d < j:=hlt j hjs d (by rw [hrow]; simp [hd])
    rw [List.getD_eq_getElem?_getD,List.getD_eq_getElem?_getD,q3,List.getElem?_append_left (by omega)]
   refine ⟨fun d hd=>by rw [hrow]; simp [hd],fun i hi => ?_⟩
   rw [hrow] at hi
   rcases List.mem_append.1 hi with hi | hi
   ·exact .inl hi
   ·obtain ⟨d,hd,hid⟩:=List.mem_flatMap.1 hi
    rw [hpre d hd] at hid
    exact .inr ⟨d,hd,hid⟩
  ·obtain ⟨n,hn⟩:=List.getElem?_of_mem hx
   rw [List.getElem?_zip_eq_some,List.getElem?_zip_eq_some] at hn
   obtain ⟨q1,q2,q3⟩:=hn
   have:n < ops.size:=by
    have:=(List.getElem?_eq_some_iff.1 q1).1
    simpa using this
   rw [List.getElem?_range this] at q1
   cases q1
   exact ⟨q2,by simp [*]⟩
  ·refine ⟨(j,cl[j],Fs[j]),?_,rfl⟩
   refine List.mem_of_getElem? (i:=j) ?_
   rw [List.getElem?_zip_eq_some,List.getElem?_zip_eq_some]
   exact ⟨List.getElem?_range hj,by simp,by simp⟩
  ·rw [List.pairwise_iff_getElem]
   intro i j hi hj hij
   have hjs:j < ops.size:=by simp [lc',lf] at hj; exact hj
   simp only [List.getElem_zip,List.getElem_range]
   refine ⟨hij,?_⟩
   rcases (hsp j cl[j] _ (by simp) (bget j hjs)).2 i cl[i] (by omega) (by simp) with hb | hb
   ·exact .inl hb
   ·refine .inr ?_
    simp only [G2,Bool.and_eq_true,Bool.or_eq_true,Nat.zero_add] at hb
    obtain ⟨hb1,hb2⟩:=hb
    refine ⟨hb1,?_⟩
    obtain ⟨s1,h1,t1,st1⟩:=gf i cl[i] Fs[i] (by simp) (by simp)
    obtain ⟨s2,h2,t2,st2⟩:=gf j cl[j] Fs[j] (by simp) (by simp)
    rcases hb2 with ((hb2 | hb2) | hb2) | hb2
    ·rw [LL st1 hb2]; exact ER _
    ·rw [LL st2 hb2]; exact (ER _).symm
    ·obtain ⟨r1,k1⟩:=Bn st1 hb2.1
     obtain ⟨r2,k2⟩:=Bn st2 hb2.2
     rw [k1,k2]
     simp [kv,gD,pY]
    ·have:=List.all_eq_true.1 hps (i,j) (by simpa using hb2)
     simp only [qS] at this
     rw [List.getElem?_eq_getElem (show i < Fs.length from by omega),List.getElem?_eq_getElem (show j < Fs.length from by omega)] at this
     exact this
  ·simp [hk] at hkl
  ·have m1:((List.range ops.size).zip (cl.zip Fs)).map (·.2.1)=cl:=by
    rw [show (fun x:Nat × COp × Fp=>x.2.1)=Prod.fst ∘ Prod.snd from rfl,← List.map_map,List.map_snd_zip (by simp [lc',lf]),List.map_fst_zip (by omega)]
   have m2:((List.range ops.size).zip (cl.zip Fs)).map (·.2.2)=Fs:=by
    rw [show (fun x:Nat × COp × Fp=>x.2.2)=Prod.snd ∘ Prod.snd from rfl,← List.map_map,List.map_snd_zip (by simp [lc',lf]),List.map_snd_zip (by omega)]
   rw [m1,m2]
   exact e1
 ·cases e2
end
theorem ph:∀ (ss:List Sh) (l:List AV),(b9 ss l).length=l.length
 | [],l=>by cases l <;> simp [b9]
 | s::ss,[]=>by simp [b9]
 | s::ss,a::l=>by simp [b9,ph ss l]
theorem rj:∀ (ss:List Sh) (l:List AV) (j:Nat) (c:AV),(b9 ss l)[j]?=some c→∃ c0,l[j]?=some c0∧(c=c0∨∃ s,c=nrmL s c0)
 | [],l,j,c,h=>⟨c,by simpa [b9] using h,.inl rfl⟩
 | s::ss,[],j,c,h=>by simp [b9] at h
 | s::ss,a::l,0,c,h=>by simp [b9] at h; exact ⟨a,rfl,.inr ⟨s,h.symm⟩⟩
 | s::ss,a::l,j+1,c,h=>by
  simp [b9] at h
  simpa using rj ss l j c h
theorem rk {s:Sh} {c:AV} (hd:aA c=true):aA (nrmL s c)=true:=by
 obtain ⟨k,cs⟩:=s
 cases k with
 | zero=>simpa [nrmL] using hd
 | succ k=>cases c <;> simp [aA] at hd <;> simp [nrmL,aA,hd]
theorem dI (s:Sh) {c:AV} (h1:∀ k r,c ≠ .sl k r) (h2:c ≠ .emp) (h3:∀ k r,c ≠ .osl k r):nrmL s c=c:=by
 obtain ⟨k,cs⟩:=s
 cases k with
 | zero=>simp [nrmL]
 | succ k=>cases c <;> first | rfl | exact absurd rfl (h1 _ _) | exact absurd rfl h2 | exact absurd rfl (h3 _ _)
section
variable {w:World} {A:Nat→Prop} {ρ:bd} {h:ac}
theorem RD.nrmL {c:AV} {u:Value} (hd:RD w A c u):∀ s:Sh,RD w A (nrmL s c) u:=by
 induction hd with
 | any u h=>intro s; rw [dI s (by simp) (by simp) (by simp)]; exact .any u h
 | v x h=>intro s; rw [dI s (by simp) (by simp) (by simp)]; exact .v x h
 | emp a =>
  intro s
  obtain ⟨k,cs⟩:=s
  cases k with
  | zero=>simp only [Ab.nrmL]; exact .emp a
  | succ k =>
   simp only [Ab.nrmL]
   exact .sl k [] a 0 ⟨0,0,none⟩ (fun _ _=>undef) (Nat.le_refl 0) (fun h=>absurd rfl h) (fun _ h=>by simp at h) (fun i row j c h=>by simp at h) (fun _ h=>by simp at h) (fun i row j c h=>by simp at h)
 | sl k rows a cap ad vals hc ha hk hv hl hr ih =>
  intro s
  obtain ⟨k',cs⟩:=s
  cases k' with
  | zero=>simp only [Ab.nrmL]; exact .sl k rows a cap ad vals hc ha hk hv hl hr
  | succ k' =>
   simp only [Ab.nrmL]
   have key:∀ (i:Nat) (row:List AV) (j:Nat) (c:AV),(rows.map (b9 cs))[i]?=some row→row[j]?=some c→∃ row0 c0,rows[i]?=some row0∧row0[j]?=some c0∧(c=c0∨∃ s,c=Ab.nrmL s c0):=by
    intro i row j c h1 h2
    simp only [List.getElem?_map,Option.map_eq_some_iff] at h1
    obtain ⟨row0,h3,rfl⟩:=h1
    obtain ⟨c0,h4,h5⟩:=rj cs row0 j c h2
    exact ⟨row0,c0,h3,h4,h5⟩
   have:=RD.sl (w:=w) (A:=A) k (rows.map (b9 cs)) a cap ad vals (by simpa using hc) (fun hne=>ha (by simpa using hne)) (fun row hm=>by
     simp only [List.mem_map] at hm
     obtain ⟨row0,hm,rfl⟩:=hm
     rw [ph]
     exact hk row0 hm) (fun i row j c h1 h2=>by
     obtain ⟨row0,c0,h3,h4,_⟩:=key i row j c h1 h2
     exact hv i row0 j c0 h3 h4) (fun row hm c hc=>by
     obtain ⟨i,hi⟩:=List.getElem?_of_mem hm
     obtain ⟨j,hj⟩:=List.getElem?_of_mem hc
     obtain ⟨row0,c0,h3,h4,h5⟩:=key i row j c hi hj
     have hd:=hl row0 (List.mem_of_getElem? h3) c0 (List.mem_of_getElem? h4)
     rcases h5 with rfl | ⟨s,rfl⟩
     ·exact hd
     ·exact rk hd) (fun i row j c h1 h2=>by
     obtain ⟨row0,c0,h3,h4,h5⟩:=key i row j c h1 h2
     rcases h5 with rfl | ⟨s,rfl⟩
     ·exact hr i row0 j _ h3 h4
     ·exact ih i row0 j c0 h3 h4 s)
   simpa using this
 | agg cs us hs h1 hr ih=>intro s; rw [dI s (by simp) (by simp) (by simp)]; exact .agg cs us hs h1 hr
 | fn f=>intro s; rw [dI s (by simp) (by simp) (by simp)]; exact .fn f
theorem RV.nrmL {c:AV} {u:Value} (hv:RV w A ρ h c u) (s:Sh):RV w A ρ h (nrmL s c) u:=by
 cases hv with
 | dat hd=>exact .dat (hd.nrmL s)
 | anyv u=>rw [dI s (by simp) (by simp) (by simp)]; exact .anyv u
 | und=>rw [dI s (by simp) (by simp) (by simp)]; exact .und
 | ref id sub k i j hp=>rw [dI s (by simp) (by simp) (by simp)]; exact .ref id sub k i j hp
 | rsl id sub k lo n cap a hp hn hb ha=>rw [dI s (by simp) (by simp) (by simp)]; exact .rsl id sub k lo n cap a hp hn hb ha
 | ipt cs ad vals hA hs hv hl hr=>rw [dI s (by simp) (by simp) (by simp)]; exact .ipt cs ad vals hA hs hv hl hr
 | agg cs us hs h1 hr=>rw [dI s (by simp) (by simp) (by simp)]; exact .agg cs us hs h1 hr
 | tup vs us hs hr=>rw [dI s (by simp) (by simp) (by simp)]; exact .tup vs us hs hr
 | fn f x y us ts hs ht hx hy=>rw [dI s (by simp) (by simp) (by simp)]; exact .fn f x y us ts hs ht hx hy
theorem RV.nrmV {c:AV} {u:Value} (hv:RV w A ρ h c u) (ss:List Sh):RV w A ρ h (nrmV ss c) u:=by
 cases c with
 | agg cs =>
  simp only [Ab.nrmV]
  obtain ⟨us,rfl,hs,h1,hr⟩:=hv.agg_inv
  refine .agg _ us (by rw [ph]; exact hs) h1 fun i c u hc hu => ?_
  obtain ⟨c0,h2,h3⟩:=rj ss cs i c hc
  rcases h3 with rfl | ⟨s,rfl⟩
  ·exact hr i _ u h2 hu
  ·exact (hr i c0 u h2 hu).nrmL s
 | _=>exact hv.nrmL _
theorem rl:∀ (ss:List (List Sh)) (l:List AV),(bi ss l).length=l.length
 | [],l=>by cases l <;> simp [bi]
 | s::ss,[]=>by simp [bi]
 | s::ss,a::l=>by simp [bi,rl ss l]
theorem pB:∀ (ss:List (List Sh)) (l:List AV) (j:Nat) (c:AV),(bi ss l)[j]?=some c→∃ c0,l[j]?=some c0∧(c=c0∨∃ s,c=Ab.nrmV s c0)
 | [],l,j,c,h=>⟨c,by simpa [bi] using h,.inl rfl⟩
 | s::ss,[],j,c,h=>by simp [bi] at h
 | s::ss,a::l,0,c,h=>by simp [bi] at h; exact ⟨a,rfl,.inr ⟨s,h.symm⟩⟩
 | s::ss,a::l,j+1,c,h=>by
  simp [bi] at h
  simpa using pB ss l j c h
end
def kw:AV→Bool
 | .osl _ _ | .obx _=>true
 | _=>false
def HG (L:List Nat) (h':ac) (a c:AV):Prop :=
 ∃ id,bY a=[id]∧aQ id=false∧bq L (h' id)=true ∧
  ((∃ k rows,c = .osl k rows∧a = .rsl id none k 0 rows.length∧h' id = .ar k rows)∨(∃ xs,c = .obx xs∧a = .ref id none 0 0 0∧h' id = .bx xs))
theorem ET {m:Nat} {h:ac} {c:AV} (hc:kw c=false):cD m h c=(c,h):=by
 cases c <;> simp [kw] at hc <;> rfl
theorem HG.mat {L:List Nat} {h':ac} {a c:AV} (hm:HG L h' a c) (m:Nat) (h2:ac):∃ id,bY a=[id]∧aQ id=false∧bq L (h' id)=true∧h' id ≠ .dead∧(cD m h2 c).2=upd h2 m (h' id):=by
 obtain ⟨id,h1,h3,h4,⟨k,rows,rfl,rfl,h5⟩ | ⟨xs,rfl,rfl,h5⟩⟩:=hm
 ·exact ⟨id,h1,h3,h4,by rw [h5]; simp,by rw [h5]; rfl⟩
 ·exact ⟨id,h1,h3,h4,by rw [h5]; simp,by rw [h5]; rfl⟩
theorem KG {x:Nat} {l:List Nat} (h:iq (x::l)=true):x ∉ l∧iq l=true:=by
 simp only [iq,Bool.and_eq_true,Bool.not_eq_true',List.contains_eq_mem,decide_eq_false_iff_not] at h
 exact h
theorem Bo {l l':List Nat}:iq (l++l')=true→iq l'=true∧∀ x,x ∈ l→x ∉ l':=by
 induction l with
 | nil=>intro h; exact ⟨h,fun x hx=>by simp at hx⟩
 | cons y l ih =>
  intro h
  obtain ⟨h1,h2⟩:=KG h
  obtain ⟨h3,h4⟩:=ih h2
  refine ⟨h3,fun x hx => ?_⟩
  rcases List.mem_cons.1 hx with rfl | hx
  ·exact fun hh=>h1 (by simp [hh])
  ·exact h4 x hx
section
variable {h':ac} {L:List Nat}
theorem uo (hL:∀ i,2000≤i→L.contains i=false):∀ (as cs:List AV) (m:Nat) (h2:ac) (g:Nat→Nat),2000≤m→as.length=cs.length →
  (∀ (j:Nat) (a c:AV),as[j]?=some a→cs[j]?=some c→kw c=true→HG L h' a c)→iq ((as.flatMap bY).filter fun i => !aQ i)=true→Emb L (fun i=>i) g h' h2→(∀ i,m≤i→h2 i = .dead) →
  (∀ i,h2 i ≠ .dead→∀ id,id ∈ as.flatMap bY→aQ id=false→g i ≠ id) →
  ∃ gm,Emb L (fun i=>i) gm h' (br m h2 cs).2∧(∀ i,i < m→(br m h2 cs).2 i=h2 i∧gm i=g i) ∧
   (∀ i,(br m h2 cs).2 i ≠ .dead→(h2 i ≠ .dead∧gm i=g i)∨∃ (j:Nat) (a c:AV),as[j]?=some a∧cs[j]?=some c∧kw c=true∧bY a=[gm i]) ∧
   (∀ (j:Nat) (a c:AV) (id:Nat),as[j]?=some a→cs[j]?=some c→kw c=true→bY a=[id]→gm (m+j)=id∧(br m h2 cs).2 (m+j)=h' id∧h' id ≠ .dead)
 | [],[],m,h2,g,hm,_,_,_,em,_,_=>⟨g,em,fun _ _=>⟨rfl,rfl⟩,fun _ hi => .inl ⟨hi,rfl⟩,fun j a c id h1=>by simp at h1⟩
 | [],c::cs,m,h2,g,_,hl,_,_,_,_,_=>by simp at hl
 | a::as,[],m,h2,g,_,hl,_,_,_,_,_=>by simp at hl
 | a::as,c::cs,m,h2,g,hm,hl,hmv,hnd,em,hfree,hid=>by
  simp only [List.flatMap_cons,List.filter_append] at hnd
  obtain ⟨nd2,nd3⟩:=Bo hnd
  have hmv':∀ (j:Nat) (a c:AV),as[j]?=some a→cs[j]?=some c→kw c=true→HG L h' a c:=fun j a' c' h1 h3=>hmv (j+1) a' c' (by simpa using h1) (by simpa using h3)
  have hl':as.length=cs.length:=by simpa using hl
  cases hc:kw c with
  | false =>
   simp only [br,ET hc]
   obtain ⟨gm,e1,e2,e3,e4⟩:=uo hL as cs (m+1) h2 g (by omega) hl' hmv' nd2 em (fun i hi=>hfree i (by omega)) (fun i hi id hm'=>hid i hi id (by simp only [List.flatMap_cons,List.mem_append]; exact .inr hm'))
   refine ⟨gm,e1,fun i hi=>e2 i (by omega),fun i hi => ?_,fun j a' c' id h1 h3 h4 h5 => ?_⟩
   ·rcases e3 i hi with hh | ⟨j,a',c',h1,h3,h4,h5⟩
    ·exact .inl hh
    ·exact .inr ⟨j+1,a',c',by simpa using h1,by simpa using h3,h4,h5⟩
   ·cases j with
    | zero =>
     simp at h3
     subst h3
     rw [hc] at h4
     cases h4
    | succ j =>
     have:=e4 j a' c' id (by simpa using h1) (by simpa using h3) h4 h5
     rwa [show m+(j+1)=m+1+j from by omega]
  | true =>
   obtain ⟨id,i1,i2,i3,i4,i5⟩:=(hmv 0 a c rfl rfl hc).mat m h2
   simp only [br,i5]
   have hida:id ∈ (a::as).flatMap bY:=by simp [i1]
   have em1:=em.add (m:=m) (id:=id) (hfree m (Nat.le_refl _)) (hL m hm) (fun i hi=>hid i hi id hida i2) i3
   have nin:∀ id',id' ∈ as.flatMap bY→aQ id'=false→id' ≠ id:=by
    rintro id' h1 h3 rfl
    exact nd3 id' (by simp [i1,i2]) (List.mem_filter.2 ⟨h1,by simp [h3]⟩)
   obtain ⟨gm,e1,e2,e3,e4⟩:=uo hL as cs (m+1) (upd h2 m (h' id)) (upd g m id) (by omega) hl' hmv' nd2 em1 (fun i hi=>by rw [aF _ _ (by omega)]; exact hfree i (by omega)) (fun i hi id' hm' hp'=>by
    by_cases e:i=m
    ·subst e
     rw [av]
     exact fun ee=>nin id' hm' hp' ee.symm
    ·rw [aF _ _ e] at hi ⊢
     exact hid i hi id' (by simp only [List.flatMap_cons,List.mem_append]; exact .inr hm') hp')
   have atm:=e2 m (by omega)
   rw [av,av] at atm
   refine ⟨gm,e1,fun i hi => ?_,fun i hi => ?_,fun j a' c' id' h1 h3 h4 h5 => ?_⟩
   ·have:=e2 i (by omega)
    rwa [aF _ _ (by omega),aF _ _ (by omega)] at this
   ·rcases e3 i hi with ⟨h1,h3⟩ | ⟨j,a',c',h1,h3,h4,h5⟩
    ·by_cases e:i=m
     ·subst e
      exact .inr ⟨0,a,c,rfl,rfl,hc,by rw [atm.2]; exact i1⟩
     ·rw [aF _ _ e] at h1 h3
      exact .inl ⟨h1,h3⟩
    ·exact .inr ⟨j+1,a',c',by simpa using h1,by simpa using h3,h4,h5⟩
   ·cases j with
    | zero =>
     simp at h1
     subst h1
     rw [i1] at h5
     cases h5
     exact ⟨atm.2,atm.1,i4⟩
    | succ j =>
     have:=e4 j a' c' id' (by simpa using h1) (by simpa using h3) h4 h5
     rwa [show m+(j+1)=m+1+j from by omega]
theorem HH:∀ (l:List AV) (m:Nat) (h:ac) (j:Nat) (z:AV),(br m h l).1[j]?=some z→∃ c,l[j]?=some c∧z=(cD (m+j) h c).1
 | [],m,h,j,z,hz=>by simp [br] at hz
 | c::l,m,h,0,z,hz=>by
  simp [br] at hz
  exact ⟨c,rfl,hz.symm⟩
 | c::l,m,h,j+1,z,hz=>by
  simp only [br,List.getElem?_cons_succ] at hz
  obtain ⟨c',h1,h2⟩:=HH l (m+1) _ j z hz
  refine ⟨c',by simpa using h1,?_⟩
  rw [h2,zt _ _ h,show m+1+j=m+(j+1) from by omega]
theorem yP:∀ (l:List AV) (m:Nat) (h:ac),(br m h l).1.length=l.length
 | [],m,h=>rfl
 | c::l,m,h=>by simp [br,yP l]
end
section
variable {w:World} {X:Nat→Prop} {ρ:bd} {h':ac} {L:List Nat}
structure Seen (w:World) (X:Nat→Prop) (ρ:bd) (h':ac) (a:AV) (A2:Nat→Prop) (ρ2:bd) (h2:ac):Prop where
 mono:∀ b,aE w X h' ρ b→A2 b
 ids:∀ id,id ∈ bY a→aQ id=false→∀ sub,live h' id sub→A2 (ρ id sub).1
 pas:∀ id,aQ id=true→h' id ≠ .dead→h2 id ≠ .dead∧ρ2 id none=ρ id none
def Sc (w:World) (X:Nat→Prop) (ρ:bd) (h':ac) (L:List Nat) (a c:AV) (u:Value):Prop :=
 (kw c=true→HG L h' a c)∧(kw c=false→∀ A2 ρ2 h2,Seen w X ρ h' a A2 ρ2 h2→RV w A2 ρ2 h2 c u)
theorem yQ {c:AV} (hd:gA c=true):cZ L c=true:=by
 simp only [gA,Bool.or_eq_true] at hd
 simp only [cZ,Bool.or_eq_true]
 rcases hd with hd | hd
 ·exact .inl hd
 ·right
  cases c <;> simp [aA] at hd <;> simp [aU,bc,hd]
theorem yR {a b:AV} (he:gB h' a=some b) (hd:aA b=true∨∃ k r,b = .osl k r) {id:Nat} (hi:fJ a=[id]):aQ id=false:=by
 cases a <;> simp only [fJ] at hi <;> try (cases hi; done)
 case ref i sub k x y =>
  cases sub with
  | some p=>simp [gB,aA] at he
  | none =>
   simp only [gB] at he
   split at he
   ·cases he; rcases hd with hd | ⟨_,_,hd⟩ <;> simp [aA] at hd
   ·split at he
    ·cases e:h' i <;> rw [e] at he <;> simp only [RX] at he <;> try (cases he; done)
     split at he
     ·cases he; rcases hd with hd | ⟨_,_,hd⟩ <;> simp [aA] at hd
     ·cases he
    ·cases he
 case rsl i sub k x y =>
  have hi':i=id:=by simpa using hi
  subst hi'
  cases hp:aQ i with
  | false=>rfl
  | true=>cases sub <;> simp [gB,hp] at he
theorem UO {b c:AV} (hd:pZ b=some c):aA b=true∨∃ k r,b = .osl k r:=by
 unfold pZ at hd
 split at hd
 ·exact .inr ⟨_,_,rfl⟩
 ·split at hd
  ·exact .inl (by assumption)
  ·cases hd
theorem HI:∀ {cs ds:List AV},fN h' cs=some ds→∀ (i:Nat) (a:AV) (id:Nat),cs[i]?=some a→fJ a=[id]→aQ id=false
 | [],ds,_,i,a,id,h1,_=>by simp at h1
 | c::cs,ds,he,i,a,id,h1,h2=>by
  simp only [fN,Option.bind_eq_some_iff] at he
  obtain ⟨b,e1,c',e2,q,e3,e4⟩:=he
  cases i with
  | zero=>simp at h1; subst h1; exact yR e1 (UO e2) h2
  | succ i=>exact HI e3 i a id (by simpa using h1) h2
theorem EU {s:Sh} {b:AV} (h:kw (nrmL s b)=true):nrmL s b=b:=by
 obtain ⟨k,cs⟩:=s
 cases k with
 | zero=>simp [nrmL]
 | succ k=>cases b <;> simp [nrmL,kw] at h ⊢
theorem Px (ss:List Sh) {b:AV} (h:∀ cs,b ≠ .agg cs):nrmV ss b=nrmL (ss.headD (.o 0 [])) b:=by
 cases b <;> first | rfl | exact absurd rfl (h _)
theorem Sd (r:Rel w X ρ h') {a b:AV} {u:Value} (hv:RV w (aE w X h' ρ) ρ h' a u) (he:gB h' a=some b) (s:Sh):Sc w X ρ h' L a (nrmL s b) u:=by
 have data:∀ {b:AV},gB h' a=some b→aA b=true→(∀ A2:Nat→Prop,(∀ b,aE w X h' ρ b→A2 b)→(∀ id sub,fJ a=[id]→live h' id sub→A2 (ρ id sub).1)→RD w A2 b u) →
   ∀ A2 ρ2 h2,Seen w X ρ h' a A2 ρ2 h2→RV w A2 ρ2 h2 (nrmL s b) u:=by
  intro b he hd hr A2 ρ2 h2 hs
  exact .dat ((hr A2 hs.mono fun id sub hi hl=>hs.ids id (by
   have:bY a=fJ a:=by cases a <;> first | rfl | simp [fJ] at hi
   rw [this,hi]; simp) (yR he (.inl hd) hi) sub hl).nrmL s)
 rcases qx r hv he with ⟨id,k,rows,rfl,rfl,e,hp⟩ | ⟨id,cs,rfl,rfl,e,hd,hp⟩ | ⟨rfl,id,k,i,j,rfl,hp⟩ | ⟨rfl,hd⟩ | ⟨hd,hr⟩
 ·refine ⟨fun hm => ?_,fun hm A2 ρ2 h2 hs => ?_⟩
  ·rw [EU hm]
   exact ⟨id,rfl,hp,by rw [e]; rfl,.inl ⟨k,rows,rfl,rfl,e⟩⟩
  ·have hsl:nrmL s (.osl k rows)=nrmL s (.sl k rows):=by
    obtain ⟨k',cs⟩:=s
    cases k' with
    | zero=>simp [nrmL,kw] at hm
    | succ k'=>simp [nrmL]
   rw [hsl]
   obtain ⟨a',cap,rfl,_⟩:=hv.rsl_inv
   exact .dat (((Bm r hv rfl he rfl).2 A2 hs.mono fun id' sub hi hl=>hs.ids id' (by
    simp only [fJ] at hi; simp only [bY,fJ]; rw [hi]; simp) (by simp only [fJ] at hi; cases hi; exact hp) sub hl).nrmL s)
 ·refine ⟨fun hm => ?_,fun hm => ?_⟩
  ·rw [EU hm]
   refine ⟨id,rfl,hp,?_,.inr ⟨cs,rfl,rfl,e⟩⟩
   rw [e]
   simp only [bq,List.all_eq_true] at hd ⊢
   exact fun c hc=>yQ (hd c hc)
  ·rw [dI s (by simp) (by simp) (by simp)] at hm
   cases hm
 ·refine ⟨fun hm => ?_,fun hm A2 ρ2 h2 hs => ?_⟩
  ·rw [dI s (by simp) (by simp) (by simp)] at hm
   cases hm
  ·rw [dI s (by simp) (by simp) (by simp)]
   obtain ⟨rfl,hpr⟩:=hv.ref_inv
   obtain ⟨h1,h3⟩:=hs.pas id hp hpr
   have:=RV.ref (w:=w) (A:=A2) (ρ:=ρ2) (h:=h2) id none k i j h1
   rwa [h3] at this
 ·refine ⟨fun hm => ?_,fun hm A2 ρ2 h2 hs => ?_⟩
  ·have:=rk (s:=s) hd
   cases hq:nrmL s b <;> rw [hq] at hm this <;> simp [kw,aA] at hm this
  ·exact (hv.keepD hd fun b hb=>⟨hs.mono b hb,rfl⟩).nrmL s
 ·refine ⟨fun hm => ?_,fun hm=>data he hd hr⟩
  have:=rk (s:=s) hd
  cases hq:nrmL s b <;> rw [hq] at hm this <;> simp [kw,aA] at hm this
theorem UP (r:Rel w X ρ h') {a b:AV} {u:Value} (hv:RV w (aE w X h' ρ) ρ h' a u) (he:mI h' a=some b) {c:AV} (hc:c=b∨∃ ss,c=nrmV ss b):Sc w X ρ h' L a c u:=by
 have hc':∃ ss,c=nrmV ss b:=by
  rcases hc with rfl | hc
  ·refine ⟨[],?_⟩
   cases c <;> simp [nrmV,nrmL,b9]
  ·exact hc
 obtain ⟨ss,rfl⟩:=hc'
 by_cases hagg:∃ cs,a = .agg cs
 ·obtain ⟨cs,rfl⟩:=hagg
  simp only [mI,Option.map_eq_some_iff] at he
  obtain ⟨ds,e1,rfl⟩:=he
  refine ⟨fun hm=>by simp [nrmV,kw] at hm,fun _ A2 ρ2 h2 hs => ?_⟩
  obtain ⟨us,rfl,q1,q2,q3⟩:=hv.agg_inv
  obtain ⟨l1,l2⟩:=yL r cs ds e1
  refine .agg _ us (by rw [ph,l1]; exact q1) q2 fun i c u hc hu => ?_
  obtain ⟨c0,h1,h3⟩:=rj ss ds i c hc
  have hi:i < cs.length:=by rw [← l1]; exact (List.getElem?_eq_some_iff.1 h1).1
  have hci:cs[i]?=some cs[i]:=by simp [hi]
  obtain ⟨d1,d2⟩:=l2 i cs[i] c0 u hci h1 (q3 i _ u hci hu) (q2 i u hu)
  have hrd:=d2 A2 hs.mono fun id sub hii hl=>hs.ids id (by
   simp only [bY,List.mem_flatMap]
   exact ⟨cs[i],by simp,by rw [hii]; simp⟩) (HI e1 i _ id hci hii) sub hl
  rcases h3 with rfl | ⟨s,rfl⟩
  ·exact .dat hrd
  ·exact .dat (hrd.nrmL s)
 ·have hl:mI h' a=gB h' a:=by cases a <;> first | rfl | exact absurd ⟨_,rfl⟩ hagg
  rw [hl] at he
  have hb:∀ cs,b ≠ .agg cs:=by
   rintro cs rfl
   rcases qx r hv he with ⟨id,k,rows,h1,_⟩ | ⟨id,cs',h1,_⟩ | ⟨h1,id,k,i,j,h2,_⟩ | ⟨h1,hd⟩ | ⟨hd,hr⟩
   ·cases h1
   ·cases h1
   ·rw [h2] at h1; cases h1
   ·exact absurd ⟨_,h1.symm⟩ hagg
   ·simp [aA] at hd
  rw [Px ss hb]
  exact Sd r hv he _
theorem EV:∀ {as bs:List AV},qt h' as=some bs→bs.length=as.length∧∀ (j:Nat) (a b:AV),as[j]?=some a→bs[j]?=some b→mI h' a=some b
 | [],bs,he=>by simp only [qt,Option.some.injEq] at he; subst he; exact ⟨rfl,fun j a b h1=>by simp at h1⟩
 | a::as,bs,he=>by
  simp only [qt,Option.bind_eq_some_iff] at he
  obtain ⟨b,e1,q,e2,e3⟩:=he
  cases e3
  obtain ⟨g1,g2⟩:=EV e2
  refine ⟨by simp [g1],fun j a' b' h1 h2 => ?_⟩
  cases j with
  | zero=>simp at h1 h2; subst h1 h2; exact e1
  | succ j=>exact g2 j a' b' (by simpa using h1) (by simpa using h2)
def Bp (us:Array Value):Value:=if h:us.size=1 then us[0] else .tuple us
theorem Py {l:List AV} (hl:∀ c ∈ l,∀ vs,c ≠ .tup vs) (n:Nat) (h:ac):mat n h (tW l)=(tW (br n h l).1,(br n h l).2):=by
 match l with
 | []=>rfl
 | [c] =>
  have:∀ vs,c ≠ .tup vs:=hl c (by simp)
  cases c <;> first | rfl | exact absurd rfl (this _)
 | a::b::l=>rfl
end
section
variable {w:World} {X:Nat→Prop} {ρ:bd} {h':ac}
theorem LM {L:List Nat} {g:Nat→Nat} {h2:ac} (em:Emb L (fun i=>i) g h' h2) {b:Nat} (ho:j5 h2 (fun i s=>ρ (g i) s) b):j5 h' ρ b:=by
 obtain ⟨i,s,h1,h3⟩:=ho
 exact ⟨g i,s,(em.live h1).1,h3⟩
theorem Se {ss:List Sh} {b:AV} {vs:List AV} (h:nrmV ss b = .tup vs):∃ vs',b = .tup vs':=by
 cases b with
 | tup vs'=>exact ⟨vs',rfl⟩
 | agg cs=>simp [nrmV] at h
 | _ =>
  simp only [nrmV] at h
  generalize ss.headD (.o 0 [])=s at h
  obtain ⟨k,cs⟩:=s
  cases k <;> simp [nrmL] at h
theorem Ni (r:Rel w X ρ h') {a:AV} {u:Value} {vs:List AV} (hv:RV w (aE w X h' ρ) ρ h' a u) (he:mI h' a=some (.tup vs)):False:=by
 by_cases hagg:∃ cs,a = .agg cs
 ·obtain ⟨cs,rfl⟩:=hagg
  simp [mI] at he
 ·have hl:mI h' a=gB h' a:=by cases a <;> first | rfl | exact absurd ⟨_,rfl⟩ hagg
  rw [hl] at he
  rcases qx r hv he with ⟨id,k,rows,h1,_⟩ | ⟨id,cs',h1,_⟩ | ⟨h1,id,k,i,j,h2,_⟩ | ⟨h1,hd⟩ | ⟨hd,hr⟩
  ·cases h1
  ·cases h1
  ·rw [h2] at h1; cases h1
  ·simp only [← h1] at hd; simp [aA] at hd
  ·simp [aA] at hd
theorem Pz (r:Rel w X ρ h') {n0 n:Nat} (hn0:n0≤1000) (hn:2000≤n) (hpass:∀ id,aQ id=true→h' id ≠ .dead→(b7 n0).contains id=true) {as:List AV} {us:Array Value} (hs:us.size=as.length)
  (hv:∀ (i:Nat) (c:AV) (u:Value),as[i]?=some c→us[i]?=some u→RV w (aE w X h' ρ) ρ h' c u) {rs:List (List Sh)} {res:AV} {obs:List Ob} (hz:CV rs n0 h' as=some (res,obs)) :
  ∃ ρ2,Rel w X ρ2 (mat n (ax obs) res).2∧(∀ nm,Far nm w ρ h' w ρ2 (mat n (ax obs) res).2)∧RV w (aE w X (mat n (ax obs) res).2 ρ2) ρ2 (mat n (ax obs) res).2 (mat n (ax obs) res).1 (Bp us):=by
 unfold CV at hz
 split at hz
 ·rename_i hc
  simp only [Bool.and_eq_true] at hc
  obtain ⟨hc1,hc2⟩:=hc
  simp only [Option.map_eq_some_iff] at hz
  obtain ⟨bs,e1,e2⟩:=hz
  cases e2
  obtain ⟨l1,l2⟩:=EV e1
  have hLm:∀ i,(b7 n0).contains i=true→aQ i=true:=fun i hi=>by
   have:=gj.1 hi
   simp only [aQ,decide_eq_true_eq]
   omega
  have hL:∀ i,2000≤i→(b7 n0).contains i=false:=fun i hi=>by
   cases hq:(b7 n0).contains i with
   | false=>rfl
   | true=>have:=gj.1 hq; omega
  have hcl:(bi rs bs).length=as.length:=by rw [rl,l1]
  have out:∀ (j:Nat) (a c:AV) (u:Value),as[j]?=some a→(bi rs bs)[j]?=some c→us[j]?=some u→Sc w X ρ h' (b7 n0) a c u:=fun j a c u h1 h3 h4=>by
   obtain ⟨b,h5,h6⟩:=pB rs bs j c h3
   exact UP r (hv j a u h1 h4) (l2 j a b h1 h5) h6
  have uget:∀ (j:Nat) (a:AV),as[j]?=some a→∃ u,us[j]?=some u:=fun j a h1=>by
   have:j < us.size:=by rw [hs]; exact (List.getElem?_eq_some_iff.1 h1).1
   exact ⟨us[j],by simp [this]⟩
  have em:=Emb.base (h':=h') hc2
  have hlow:∀ i,ax ((b7 n0).map h') i ≠ .dead→(b7 n0).contains i=true:=fun i hi=>by
   rw [jG] at hi
   split at hi
   ·rename_i h1; exact gj.2 h1
   ·exact absurd rfl hi
  obtain ⟨gm,m1,m2,m3,m4⟩:=uo hL as (bi rs bs) n (ax ((b7 n0).map h')) (fun i=>i) hn hcl.symm (fun j a c h1 h3 h4=>by
    obtain ⟨u,hu⟩:=uget j a h1
    exact (out j a c u h1 h3 hu).1 h4) hc1 em (fun i hi=>by
    rw [jG,if_neg (by omega)]) (fun i hi id _ hp e=>by
    have:=hLm i (hlow i hi)
    rw [e] at this
    rw [this] at hp
    cases hp)
  have notup:∀ c ∈ bi rs bs,∀ vs,c ≠ .tup vs:=by
   rintro c hcm vs rfl
   obtain ⟨j,hj⟩:=List.getElem?_of_mem hcm
   have hja:j < as.length:=by rw [← hcl]; exact (List.getElem?_eq_some_iff.1 hj).1
   obtain ⟨u,hu⟩:=uget j as[j] (by simp [hja])
   obtain ⟨b,h5,h6⟩:=pB rs bs j _ hj
   have he:=l2 j as[j] b (by simp [hja]) h5
   obtain ⟨vs',rfl⟩:∃ vs',b = .tup vs':=by
    rcases h6 with h6 | ⟨ss,h6⟩
    ·exact ⟨vs,h6.symm⟩
    ·exact Se h6.symm
   exact Ni r (hv j as[j] u (by simp [hja]) hu) he
  rw [Py notup]
  simp only
  have hfar:∀ b,aE w X h' ρ b→aE w X (br n (ax ((b7 n0).map h')) (bi rs bs)).2 (fun i s=>ρ (gm i) s) b:=fun b hb=>⟨hb.1,hb.2.1,fun ho=>hb.2.2 (LM m1 ho)⟩
  have hps:∀ id,aQ id=true→(br n (ax ((b7 n0).map h')) (bi rs bs)).2 id=ax ((b7 n0).map h') id∧gm id=id:=fun id hp=>m2 id (by
   simp only [aQ,decide_eq_true_eq] at hp; omega)
  have hpd:∀ id,aQ id=true→h' id ≠ .dead→(br n (ax ((b7 n0).map h')) (bi rs bs)).2 id=h' id:=fun id hp hd=>by
   rw [(hps id hp).1,jG,if_pos (gj.1 (hpass id hp hd))]
  have rel2:Rel w X (fun i s=>ρ (gm i) s) (br n (ax ((b7 n0).map h')) (bi rs bs)).2:=Rel.emb m1 r r.xl (fun i s hl=>r.nx _ _ (m1.live hl).1) hfar
  refine ⟨fun i s=>ρ (gm i) s,rel2,fun nm=>⟨rfl,rfl,rfl,Nat.le_refl _,fun _ _ _=>rfl,fun b ho => .inl (LM m1 ho),fun id hp hd => ?_,fun _ id p hp hd hpr => ?_⟩,?_⟩
  ·have:=hps id hp
   refine ⟨fun e=>hd ?_,by simp only [this.2]⟩
   rw [this.1,jG]
   split
   ·exact e
   ·rfl
  ·have h1:h' id ≠ .dead:=by obtain ⟨_,_,_,e,_⟩:=hpr; rw [e]; simp
   refine ⟨(c9 (hpd id hp h1)).2 hpr,by simp only [(hps id hp).2]⟩
  ·
   have seen:∀ (j:Nat) (a c:AV),as[j]?=some a→(bi rs bs)[j]?=some c→kw c=false →
     Seen w X ρ h' a (aE w X (br n (ax ((b7 n0).map h')) (bi rs bs)).2 (fun i s=>ρ (gm i) s)) (fun i s=>ρ (gm i) s) (br n (ax ((b7 n0).map h')) (bi rs bs)).2:=by
    intro j a c h1 h3 h4
    refine ⟨hfar,fun id hid hp sub hl=>⟨?_,r.nx _ _ hl,fun ⟨i,s,ho1,ho2⟩ => ?_⟩,fun id hp hd=>⟨by rw [hpd id hp hd]; exact hd,by simp only [(hps id hp).2]⟩⟩
    ·cases sub with
     | none =>
      have ho:=r.ob id
      cases e:h' id with
      | bx cs=>rw [e] at ho; obtain ⟨us,t,g1,_⟩:=ho; exact (Array.getElem?_eq_some_iff.1 g1).1
      | ar k rows=>rw [e] at ho; obtain ⟨us,t,g1,_⟩:=ho; exact (Array.getElem?_eq_some_iff.1 g1).1
      | _=>simp [live,e] at hl
     | some p =>
      obtain ⟨cs,k,rows,e,ec⟩:=hl
      have ho:=r.ob id
      rw [e] at ho
      obtain ⟨us,t,g1,g2,g3,g4⟩:=ho
      obtain ⟨u,_,a',cap,us',t',_,_,_,q4,_⟩:=g4 p _ ec
      exact (Array.getElem?_eq_some_iff.1 q4).1
    ·obtain ⟨hl1,hdd⟩:=m1.live ho1
     obtain ⟨e1,_⟩:=r.inj _ _ _ _ hl1 hl ho2
     rcases m3 i hdd with ⟨q1,q2⟩ | ⟨j',a',c',q1,q2,q3,q4⟩
     ·have:=hLm i (hlow i q1)
      rw [← q2,e1] at this
      rw [this] at hp
      cases hp
     ·rw [e1] at q4
      have hne:j' ≠ j:=by
       rintro rfl
       rw [h3] at q2
       cases q2
       rw [h4] at q3
       cases q3
      exact two_names as j' j a' a id hne q1 h1 (by rw [q4]; simp) hid hp hc1
   have vals:∀ (j:Nat) (z:AV) (u:Value),(br n (ax ((b7 n0).map h')) (bi rs bs)).1[j]?=some z→us[j]?=some u →
     RV w (aE w X (br n (ax ((b7 n0).map h')) (bi rs bs)).2 (fun i s=>ρ (gm i) s)) (fun i s=>ρ (gm i) s) (br n (ax ((b7 n0).map h')) (bi rs bs)).2 z u:=by
    intro j z u hz hu
    obtain ⟨c,h1,rfl⟩:=HH _ _ _ _ _ hz
    have hja:j < as.length:=by rw [← hcl]; exact (List.getElem?_eq_some_iff.1 h1).1
    have ha:as[j]?=some as[j]:=by simp [hja]
    have o:=out j as[j] c u ha h1 hu
    cases hm:kw c with
    | false =>
     rw [ET hm]
     exact o.2 hm _ _ _ (seen j as[j] c ha h1 hm)
    | true =>
     obtain ⟨id,i1,i2,i3,⟨k,rows,rfl,i4,i5⟩ | ⟨xs,rfl,i4,i5⟩⟩:=o.1 hm
     ·obtain ⟨q1,q2,q3⟩:=m4 j as[j] _ id ha h1 hm i1
      have hva:=hv j as[j] u ha hu
      rw [i4] at hva
      obtain ⟨a',cap,rfl,hp,hnn,hb,hab⟩:=hva.rsl_inv
      simp only [cD]
      exact .rsl (n+j) none k 0 rows.length cap a' (by show _ ≠ _; rw [q2]; exact q3) hnn (by simp only [q1]; exact hb) (by simp only [q1]; exact hab)
     ·obtain ⟨q1,q2,q3⟩:=m4 j as[j] _ id ha h1 hm i1
      have hva:=hv j as[j] u ha hu
      rw [i4] at hva
      obtain ⟨rfl,hp⟩:=hva.ref_inv
      simp only [cD]
      have:=RV.ref (w:=w) (A:=aE w X (br n (ax ((b7 n0).map h')) (bi rs bs)).2 (fun i s=>ρ (gm i) s)) (ρ:=fun i s=>ρ (gm i) s) (h:=(br n (ax ((b7 n0).map h')) (bi rs bs)).2) (n+j) none 0 0 0 (by show _ ≠ _; rw [q2]; exact q3)
      simp only [q1] at this
      exact this
   have hzl:(br n (ax ((b7 n0).map h')) (bi rs bs)).1.length=us.size:=by rw [yP,hcl,hs]
   unfold Bp
   split
   ·rename_i h1
    match hq:(br n (ax ((b7 n0).map h')) (bi rs bs)).1 with
    | []=>rw [hq] at hzl; simp at hzl; omega
    | [z]=>exact vals 0 z us[0] (by rw [hq]; rfl) (by simp [h1])
    | a::b::l=>rw [hq] at hzl; simp at hzl; omega
   ·rename_i h1
    match hq:(br n (ax ((b7 n0).map h')) (bi rs bs)).1 with
    | []=>exact .tup [] us (by rw [hq] at hzl; simpa using hzl.symm) fun i c u hc=>by simp at hc
    | [z]=>rw [hq] at hzl; simp at hzl; omega
    | a::b::l =>
     rw [hq] at hzl
     exact .tup _ us hzl.symm fun i c u hc hu=>vals i c u (by rw [hq]; exact hc) hu
 ·cases hz
where
 two_names:∀ (as:List AV) (i j:Nat) (a b:AV) (id:Nat),i ≠ j→as[i]?=some a→as[j]?=some b→id ∈ bY a→id ∈ bY b→aQ id=false→iq ((as.flatMap bY).filter fun i => !aQ i)=true→False
 | [],i,j,a,b,id,_,h1,_,_,_,_,_=>by simp at h1
 | c::as,i,j,a,b,id,hne,h1,h2,h3,h4,hp,hnd=>by
  simp only [List.flatMap_cons,List.filter_append] at hnd
  obtain ⟨nd2,nd3⟩:=Bo hnd
  have mem:∀ (j:Nat) (b:AV),as[j]?=some b→id ∈ bY b→id ∈ (as.flatMap bY).filter fun i => !aQ i:=fun j b hb hi =>
   List.mem_filter.2 ⟨List.mem_flatMap.2 ⟨b,List.mem_of_getElem? hb,hi⟩,by simp [hp]⟩
  cases i with
  | zero =>
   simp at h1
   subst h1
   cases j with
   | zero=>exact hne rfl
   | succ j=>exact nd3 id (List.mem_filter.2 ⟨h3,by simp [hp]⟩) (mem j b (by simpa using h2) h4)
  | succ i =>
   cases j with
   | zero =>
    simp at h2
    subst h2
    exact nd3 id (List.mem_filter.2 ⟨h4,by simp [hp]⟩) (mem i a (by simpa using h1) h3)
   | succ j=>exact two_names as i j a b id (by omega) (by simpa using h1) (by simpa using h2) h3 h4 hp nd2
end
structure Text (P:Program) (f:FuncId) (fd:FD):Prop where
 text : ∃ fn code N, P.funcs[f]? = some fn ∧ fn.body = some code ∧ fn.ntmps = N ∧ N ≤ 1000 ∧ dX P N code fd.body = some fd.body ∧ ub P fn.results.toList = some fd.res ∧ (fn.name == "runtime.NumGoroutine") = false
theorem HJ (fn:Func) (tmps:Array Value):fn.results.mapM (py tmps)=(fun l=>l.toArray) <$> fn.results.toList.mapM (py tmps):=by
 rw [Array.mapM_eq_mapM_toList]
theorem KH {P:Program} {fn:Func} {tmps:Array Value} {w:World} {us:List Value} (h:(fn.results.toList.mapM (py tmps)).run P w = .ok us w):(results fn tmps).run P w = .ok (Bp us.toArray) w:=by
 have h1:(fn.results.mapM (py tmps)).run P w = .ok us.toArray w:=by
  rw [HJ,Sem.run_map,h]
  rfl
 have h2:results fn tmps=(fn.results.mapM (py tmps) >>= fun vs=>pure (Bp vs)):=by
  unfold results Bp
  congr 1
 rw [h2,Sem.run_bind,h1]
 rfl
section
variable {P:Program} {I:Inv} {call:er} {md:Mode}
theorem UQ (hm:P.follows .mixedOrders=true) (hcall:iQ P I call md) {f:FuncId} {fd:FD} {lf:Nat} (ht:Text P f fd):ui P I md.nm f (v9 call md lf fd):=by
 obtain ⟨fn,code,N,t1,t2,t3,t4,t5,t6,t7⟩:=ht.text
 intro args obs obs' res w X ρ vals n hz hn hi r hsz hv
 unfold v9 at hz
 split at hz
 ·rename_i hc
  obtain ⟨c1,c2⟩:=hc
  have he:(callFunc f vals).run P w = .ok (.enter f vals) w:=by
   unfold callFunc
   rw [Sem.run_bind,show program.run P w = .ok P w from rfl]
   simp only [Result.andThen,t1,t7,t2]
   rfl
  unfold Enters
  rw [he]
  simp only
  refine calls_of_wp t1 t2 ?_
  have hget:∀ i,(vals++Array.replicate (fn.ntmps - vals.size) undef).getD i undef=vals.getD i undef:=fun i=>by
   simp only [Array.getD_eq_getD_getElem?,Array.getElem?_append]
   split
   ·rfl
   ·rename_i hlt
    rw [Array.getElem?_eq_none (by omega:vals.size≤i)]
    simp only [Array.getElem?_replicate]
    split <;> rfl
  have ok:Ok I N w X ρ (ax obs) (re args) { tmps:=vals++Array.replicate (fn.ntmps - vals.size) undef,defers:=[] }:=by
   refine ⟨r,fun i => ?_,by simp; omega,rfl,hi⟩
   simp only [hget,re]
   by_cases h:i < args.length
   ·have:i < vals.size:=by omega
    rw [Array.getD_eq_getD_getElem?]
    simp only [this,Array.getElem?_eq_getElem,Option.getD_some,List.getElem?_eq_getElem h]
    exact hv i _ _ (by simp [h]) (by simp [this])
   ·rw [List.getElem?_eq_none (by omega)]
    exact .anyv _
  have fin:∀ {t:St} {a:Act} {w':World} {ρ':bd},Ok I N w' X ρ' t.h t.s a→Far md.nm w ρ (ax obs) w' ρ' t.h→q9 md.nm fd.rs fd.res obs.length t.s t.h=some (res,obs') →
    a.defers=[]∧∃ v,(results fn a.tmps).run P w' = .ok v w'∧∃ ρ'',Rel w' X ρ'' (mat n (ax obs') res).2∧Far md.nm w ρ (ax obs) w' ρ'' (mat n (ax obs') res).2 ∧
     RV w' (aE w' X (mat n (ax obs') res).2 ρ'') ρ'' (mat n (ax obs') res).2 (mat n (ax obs') res).1 v:=by
   intro t a w' ρ' ok' far hf
   refine ⟨ok'.defers,?_⟩
   simp only [q9,Option.bind_eq_some_iff] at hf
   obtain ⟨⟨vs,h',ks⟩,e1,e2⟩:=hf
   split at e2
   ·rename_i hnm
    obtain ⟨us,g1,g2,g3,g4,g5⟩:=yK (a:=a) fn.results.toList fd.res t6 ok'.rel ok'.rs e1
    refine ⟨_,KH g1,?_⟩
    have far2:=far.trans (g4.far hnm)
    obtain ⟨ρ2,q1,q2,q3⟩:=Pz (us:=us.toArray) g3 c2 hn (fun id hp hd=>by
     have:=(far2.stay id hp hd).1
     unfold ax at this
     refine gj.2 ?_
     simp only [aQ,decide_eq_true_eq] at hp
     refine ⟨hp.1,?_⟩
     rw [if_pos hp.1] at this
     by_cases hlt:id < 1000+obs.length
     ·exact hlt
     ·rw [List.getElem?_eq_none (by omega)] at this
      exact absurd rfl this) (by simpa using g2) (fun i c u hc hu=>g5 i c u hc (by simpa using hu)) e2
    exact ⟨ρ2,q1,far2.trans (q2 md.nm),q3⟩
   ·cases e2
  cases hx:bg call md lf fd.body (re args) (ax obs) with
  | none=>rw [hx] at hz; cases hz
  | some q =>
   obtain ⟨e,t⟩:=q
   rw [hx] at hz
   refine Nc (N:=N) hcall t4 (Nh hm hcall t4) lf fd.body code t5 hx ok fun a' w' ρ' ok' far => ?_
   cases e with
   | normal =>
    obtain ⟨d1,v,d2,d3⟩:=fin ok' far hz
    exact ⟨d1,v,d2,d3⟩
   | ret =>
    obtain ⟨d1,v,d2,d3⟩:=fin ok' far hz
    exact ⟨d1,v,d2,d3⟩
   | exit id=>cases hz
 ·cases hz
end
section
variable {w:World} {X:Nat→Prop} {ρ:bd} {h h':ac}
theorem EW {a c:AV} {ks:K} (hz:eP h a=some (c,h',ks)):∀ p ∈ ks,p.2=true:=by
 intro p hp
 unfold eP at hz
 split at hz
 ·unfold lP at hz
  repeat' split at hz
  all_goals first
   | (cases hz; done)
   | (simp only [Option.some.injEq,Prod.mk.injEq] at hz; obtain ⟨_,_,rfl⟩:=hz; simp at hp; done)
   | (simp only [Option.some.injEq,Prod.mk.injEq] at hz; obtain ⟨_,_,rfl⟩:=hz; simp only [List.mem_singleton] at hp; subst hp; rfl)
 ·unfold v6 RP at hz
  repeat' split at hz
  all_goals first
   | (cases hz; done)
   | (simp only [Option.some.injEq,Prod.mk.injEq] at hz; obtain ⟨_,_,rfl⟩:=hz; simp only [List.mem_singleton] at hp; subst hp; rfl)
 ·split at hz
  ·cases hz; simp at hp
  ·cases hz
theorem Bq:∀ {l cs:List AV} {h h':ac} {ks:K},dC h l=some (cs,h',ks)→∀ p ∈ ks,p.2=true
 | [],cs,h,h',ks,hz=>by simp only [dC,Option.some.injEq,Prod.mk.injEq] at hz; obtain ⟨_,_,rfl⟩:=hz; simp
 | a::l,cs,h,h',ks,hz=>by
  simp only [dC,Option.bind_eq_some_iff] at hz
  obtain ⟨⟨c,h1,k1⟩,e1,⟨q,h2,k2⟩,e2,e3⟩:=hz
  cases e3
  intro p hp
  rcases List.mem_append.1 hp with hp | hp
  ·exact EW e1 p hp
  ·exact Bq e2 p hp
theorem Sf {a c:AV} {ks:K} (hz:qY h a=some (c,h',ks)):∀ p ∈ ks,p.2=true:=by
 unfold qY at hz
 split at hz
 ·simp only [Option.bind_eq_some_iff] at hz
  obtain ⟨⟨q,h1,k1⟩,e1,e2⟩:=hz
  cases e2
  exact Bq e1
 ·exact EW hz
theorem PA {ks:K} (hk:∀ p ∈ ks,p.2=true) (id:Nat):fh ks id none=false:=by
 simp only [fh,List.any_eq_false]
 intro p hp
 simp [hk p hp]
theorem RV.clo {w':World} {A A':Nat→Prop} {ρ':bd} {l:List Nat} {c:AV} {u:Value} (hv:RV w A ρ h c u) (hA:∀ b,A b→A' b∧w'.heap[b]?=w.heap[b]?) (hk:∀ id,bA h id none→bA h' id none∧ρ' id none=ρ id none) (hm:aU l c=true):RV w' A' ρ' h' c u:=by
 have leaf:∀ {c:AV} {u:Value},RV w A ρ h c u→bc l c=true→RV w' A' ρ' h' c u:=by
  intro c u hv hm
  cases hv with
  | anyv u=>exact .anyv u
  | und=>exact .und
  | dat hd=>exact .dat (hd.mono hA)
  | ref id sub k i j hp =>
   cases sub with
   | some p=>simp [bc] at hm
   | none =>
    obtain ⟨h1,h2⟩:=hk id hp
    rw [← h2]; exact .ref id none k i j h1
  | rsl id sub k lo n cap a hp hn hb ha =>
   cases sub with
   | some p=>simp [bc] at hm
   | none =>
    obtain ⟨h1,h2⟩:=hk id hp
    exact .rsl id none k lo n cap a h1 hn (by rw [h2]; exact hb) (by rw [h2]; exact ha)
  | ipt cs ad vals hA' hs hv hl hr =>
   exact .ipt cs ad vals (hA _ hA').1 hs (fun j c hc=>by rw [gL (w:=w) (w':=w') (by rw [iP]; exact (hA _ hA').2)]; exact hv j c hc) hl (fun j c hc=>(hr j c hc).mono hA)
  | agg cs us hs h1 hr=>simp [bc] at hm
  | tup vs us hs hr=>simp [bc] at hm
  | fn f x y us ts hs ht hx hy =>
   simp [bc] at hm
   obtain ⟨rfl,rfl⟩:=hm
   exact .fn f [] [] us ts hs ht (fun i c u hc=>by simp at hc) (fun i c u hc=>by simp at hc)
 cases c with
 | agg cs =>
  simp only [aU,List.all_eq_true] at hm
  obtain ⟨us,rfl,hs,h1,hr⟩:=hv.agg_inv
  exact .agg cs us hs h1 fun i c u hc hu=>leaf (hr i c u hc hu) (hm c (List.mem_of_getElem? hc))
 | fn f x y =>
  simp only [aU,Bool.and_eq_true,List.all_eq_true] at hm
  obtain ⟨us,ts,rfl,hs,ht,hx,hy⟩:=hv.fn_inv
  exact .fn f x y us ts hs ht (fun i c u hc hu=>leaf (hx i c u hc hu) (hm.1 c (List.mem_of_getElem? hc))) (fun i c u hc hu=>leaf (hy i c u hc hu) (hm.2 c (List.mem_of_getElem? hc)))
 | _=>exact leaf hv hm
structure Way (w:World) (X:Nat→Prop) (ρ:bd) (h0 h:ac):Prop where
 evo:∃ ks:K,Evo w ρ h0 w ρ h ks∧∀ p ∈ ks,p.2=true
theorem Way.refl:Way w X ρ h h:=⟨[],.refl _ _ _,by simp⟩
theorem Way.trans {h1 h2:ac} (a:Way w X ρ h h1) (b:Way w X ρ h1 h2):Way w X ρ h h2:=by
 obtain ⟨k1,e1,f1⟩:=a.evo
 obtain ⟨k2,e2,f2⟩:=b.evo
 exact ⟨k1++k2,e1.trans e2,fun p hp=>by rcases List.mem_append.1 hp with hp | hp; exact f1 p hp; exact f2 p hp⟩
theorem Way.al {h0:ac} (a:Way w X ρ h0 h):∀ b,aE w X h0 ρ b→aE w X h ρ b:=by
 obtain ⟨k1,e1,_⟩:=a.evo
 exact fun b hb=>(e1.al hb).1
theorem KI {h0:ac} {m:Nat} {a z:AV} {u:Value} {ks:K} (r:Rel w X ρ h) (wy:Way w X ρ h0 h) (hv:RV w (aE w X h0 ρ) ρ h0 a u) (hz:cJ h m a=some (z,h',ks)) :
  Rel w X ρ h'∧Evo w ρ h w ρ h' ks∧(∀ p ∈ ks,p.2=true)∧∃ h1,Way w X ρ h1 h'∧RV w (aE w X h1 ρ) ρ h1 z u:=by
 have same:some (a,h,([]:K))=some (z,h',ks)→Rel w X ρ h'∧Evo w ρ h w ρ h' ks∧(∀ p ∈ ks,p.2=true)∧∃ h1,Way w X ρ h1 h'∧RV w (aE w X h1 ρ) ρ h1 z u:=by
  intro e
  cases e
  exact ⟨r,.refl _ _ _,by simp,h0,wy,hv⟩
 have data:qY h a=some (z,h',ks)→((∀ cs,a ≠ .agg cs)→u.oneCell'=true)→Rel w X ρ h'∧Evo w ρ h w ρ h' ks∧(∀ p ∈ ks,p.2=true)∧∃ h1,Way w X ρ h1 h'∧RV w (aE w X h1 ρ) ρ h1 z u:=by
  intro hz h1
  obtain ⟨g1,g2,g3,g4⟩:=Pf r hv wy.al hz h1
  exact ⟨g1,g2,Sf hz,h',.refl,.dat g3⟩
 cases a with
 | any =>
  have:cJ h m .any=some (.any,h,[]):=by simp [cJ,qY,eP,aA]
  rw [this] at hz
  exact same hz
 | rsl id sub k lo n =>
  obtain ⟨ad,cap,rfl,_⟩:=hv.rsl_inv
  cases sub with
  | none =>
   simp only [cJ] at hz
   split at hz
   ·exact data hz fun _=>rfl
   ·split at hz
    ·exact same hz
    ·cases hz
  | some p=>exact data hz fun _=>rfl
 | ref id sub k i j =>
  cases sub with
  | none=>exact same hz
  | some p=>simp [cJ,qY,eP,aA] at hz
 | ipt cs=>exact same hz
 | fn f x y=>exact same hz
 | agg cs=>exact data hz fun hh=>absurd rfl (hh cs)
 | v x=>exact data hz fun _=>by obtain ⟨rfl,hp⟩:=hv.v_inv; exact tX hp
 | emp =>
  refine data hz fun _ => ?_
  cases hv with
  | dat hd=>exact hd.one rfl
 | sl k rows =>
  refine data hz fun _ => ?_
  cases hv with
  | dat hd=>exact hd.one rfl
 | _=>simp [cJ,qY,eP,aA] at hz
theorem ww {h0:ac}:∀ (l:List AV) (ms:List Nat) (vals:List Value) {h h':ac} {zs:List AV} {ks:K},Rel w X ρ h→Way w X ρ h0 h→vals.length=l.length →
  (∀ (i:Nat) (c:AV) (u:Value),l[i]?=some c→vals[i]?=some u→RV w (aE w X h0 ρ) ρ h0 c u)→dV h ms l=some (zs,h',ks) →
  Rel w X ρ h'∧Evo w ρ h w ρ h' ks∧(∀ p ∈ ks,p.2=true)∧zs.length=l.length∧∀ (i:Nat) (z:AV) (u:Value),zs[i]?=some z→vals[i]?=some u→∃ h1,Way w X ρ h1 h'∧RV w (aE w X h1 ρ) ρ h1 z u
 | [],ms,vals,h,h',zs,ks,r,wy,hl,hv,hz=>by
  simp only [dV,Option.some.injEq,Prod.mk.injEq] at hz
  obtain ⟨rfl,rfl,rfl⟩:=hz
  exact ⟨r,.refl _ _ _,by simp,rfl,fun i z u h1=>by simp at h1⟩
 | a::l,ms,vals,h,h',zs,ks,r,wy,hl,hv,hz=>by
  simp only [dV,Option.bind_eq_some_iff] at hz
  obtain ⟨⟨z,h1,k1⟩,e1,⟨q,h2,k2⟩,e2,e3⟩:=hz
  cases e3
  cases vals with
  | nil=>simp at hl
  | cons u vals =>
   obtain ⟨g1,g2,g3,h3,g4,g5⟩:=KI r wy (hv 0 a u rfl rfl) e1
   obtain ⟨f1,f2,f3,f4,f5⟩:=ww l ms.tail vals g1 (wy.trans ⟨k1,g2,g3⟩) (by simpa using hl) (fun i c u' h4 h5=>hv (i+1) c u' (by simpa using h4) (by simpa using h5)) e2
   refine ⟨f1,g2.trans f2,fun p hp => ?_,by simp [f4],fun i z' u' h4 h5 => ?_⟩
   ·rcases List.mem_append.1 hp with hp | hp
    ·exact g3 p hp
    ·exact f3 p hp
   ·cases i with
    | zero =>
     simp at h4 h5
     subst h4 h5
     exact ⟨h3,g4.trans ⟨k2,f2,f3⟩,g5⟩
    | succ i=>exact f5 i z' u' (by simpa using h4) (by simpa using h5)
theorem PB {L:List Nat} {h1:ac} {z:AV} {u:Value} (wy:Way w X ρ h1 h) (hv:RV w (aE w X h1 ρ) ρ h1 z u) (hc:aU L z=true):RV w (aE w X h ρ) ρ h z u:=by
 obtain ⟨ks,e,f⟩:=wy.evo
 exact hv.clo (fun b hb=>e.al hb) (fun id hp=>e.keep id none hp (PA f id)) hc
theorem HK (r:Rel w X ρ h) {b:Nat} (ho:j5 h ρ b):b < w.heap.size:=by
 obtain ⟨id,sub,hl,rfl⟩:=ho
 cases sub with
 | none =>
  have ho:=r.ob id
  cases e:h id with
  | bx cs=>rw [e] at ho; obtain ⟨us,t,g1,_⟩:=ho; exact (Array.getElem?_eq_some_iff.1 g1).1
  | ar k rows=>rw [e] at ho; obtain ⟨us,t,g1,_⟩:=ho; exact (Array.getElem?_eq_some_iff.1 g1).1
  | _=>simp [live,e] at hl
 | some p =>
  obtain ⟨cs,k,rows,e,ec⟩:=hl
  have ho:=r.ob id
  rw [e] at ho
  obtain ⟨us,t,g1,g2,g3,g4⟩:=ho
  obtain ⟨u,_,a',cap,us',t',_,_,_,q4,_⟩:=g4 p _ ec
  exact (Array.getElem?_eq_some_iff.1 q4).1
section
variable {ids:List Nat}
theorem oL {a:Nat} (ha:a ∈ ids):1000≤bo ids a∧bo ids a < 1000+ids.length:=by
 unfold bo
 have:=List.idxOf_lt_length_of_mem ha
 omega
theorem m7 (hl:ids.length≤1000) {a:Nat} (ha:a ∈ ids):bW ids (bo ids a)=a:=by
 have:=oL ha
 unfold bW
 rw [if_pos (by omega)]
 unfold bo
 have hlt:=List.idxOf_lt_length_of_mem ha
 rw [List.getD_eq_getElem?_getD,show 1000+ids.idxOf a - 1000=ids.idxOf a from by omega,List.getElem?_eq_getElem hlt]
 simp
theorem rm (hl:ids.length≤1000) (hnd:ids.Nodup) {i:Nat} (h1:1000≤i) (h2:i < 1000+ids.length):bW ids i ∈ ids∧bo ids (bW ids i)=i:=by
 have hj:i - 1000 < ids.length:=by omega
 have e:bW ids i=ids[i - 1000]:=by
  unfold bW
  rw [if_pos (by omega),List.getD_eq_getElem?_getD,List.getElem?_eq_getElem hj]
  rfl
 refine ⟨by rw [e]; simp,?_⟩
 rw [e]
 unfold bo
 rw [hnd.idxOf_getElem (i - 1000) hj]
 omega
theorem Br {os:List Ob} {j:Nat} {o:Ob} (h:os[j]?=some o):ax os (1000+j)=o:=by
 unfold ax
 rw [if_pos (by omega),show 1000+j - 1000=j from by omega,h]
 rfl
theorem nA {os:List Ob} {i:Nat} (h:i < 1000∨1000+os.length≤i):ax os i = .dead:=by
 unfold ax
 split
 ·rw [List.getElem?_eq_none (by omega)]
  rfl
 ·rfl
theorem Emb.enter (hl:ids.length≤1000) (hnd:ids.Nodup) (hcl:∀ a ∈ ids,bq ids (h a)=true):Emb ids (bo ids) (bW ids) h (ax (ids.map fun a=>dx (bo ids) (h a))):=by
 have at_:∀ a ∈ ids,ax (ids.map fun a=>dx (bo ids) (h a)) (bo ids a)=dx (bo ids) (h a):=fun a ha=>by
  unfold bo
  refine Br ?_
  have hlt:=List.idxOf_lt_length_of_mem ha
  rw [List.getElem?_map,List.getElem?_eq_getElem hlt]
  simp
 have low:∀ i,ax (ids.map fun a=>dx (bo ids) (h a)) i ≠ .dead→1000≤i∧i < 1000+ids.length:=fun i hi=>by
  by_cases h1:1000≤i∧i < 1000+ids.length
  ·exact h1
  ·exact absurd (nA (by simp; omega)) hi
 refine ⟨fun a ha => ?_,fun i hi => ?_,fun i j hi hj e => ?_⟩
 ·have ha':a ∈ ids:=by simpa using ha
  exact ⟨m7 hl ha',at_ a ha'⟩
 ·obtain ⟨h1,h2⟩:=low i hi
  obtain ⟨h3,h4⟩:=rm hl hnd h1 h2
  have:=at_ _ h3
  rw [h4] at this
  exact ⟨this,hcl _ h3⟩
 ·obtain ⟨h1,h2⟩:=low i hi
  obtain ⟨h3,h4⟩:=low j hj
  rw [← (rm hl hnd h1 h2).2,← (rm hl hnd h3 h4).2,e]
end
end
theorem EX {gv:K} {id:Nat}:∀ {h:ac},(∀ p ∈ gv,p.1 ≠ id)→gz h gv id=h id:=by
 induction gv with
 | nil=>intro h _; rfl
 | cons p l ih =>
  intro h hn
  simp only [gz]
  rw [ih fun q hq=>hn q (by simp [hq])]
  exact aF _ _ (Ne.symm (hn p (by simp)))
theorem HL {gv:K} {id:Nat}:∀ {h:ac},((∃ p ∈ gv,p.1=id)∨h id = .dead)→gz h gv id = .dead:=by
 induction gv with
 | nil =>
  intro h hi
  rcases hi with ⟨p,hp,_⟩ | hi
  ·simp at hp
  ·exact hi
 | cons p l ih =>
  intro h hi
  simp only [gz]
  by_cases hl:∃ q ∈ l,q.1=id
  ·exact ih (.inl hl)
  ·refine ih (.inr ?_)
   rcases hi with ⟨q,hq,rfl⟩ | hi
   ·rcases List.mem_cons.1 hq with rfl | hq
    ·exact av _ _ _
    ·exact absurd ⟨q,hq,rfl⟩ hl
   ·unfold upd
    split
    ·rfl
    ·exact hi
theorem HM {ids:List Nat}:∀ {l:List Nat} {os:List Ob} {g:ac} {j a:Nat} {o:Ob},l.Nodup→l[j]?=some a→os[j]?=some o→dO g ids l os a=dx (bW ids) o
 | [],os,g,j,a,o,_,h1,_=>by simp at h1
 | b::l,[],g,j,a,o,_,_,h2=>by simp at h2
 | b::l,o'::os,g,j,a,o,hnd,h1,h2=>by
  obtain ⟨n1,n2⟩:=List.nodup_cons.1 hnd
  simp only [dO]
  cases j with
  | zero =>
   simp at h1 h2
   subst h1 h2
   rw [m6 n1,av]
  | succ j=>exact HM n2 (by simpa using h1) (by simpa using h2)
theorem Bs {h:ac}:∀ {m n:Nat},fK h n m=true→∀ i,n≤i→i < n+m→h i = .dead
 | 0,n,_,i,h1,h2=>by omega
 | m+1,n,hf,i,h1,h2=>by
  simp only [fK,Bool.and_eq_true] at hf
  by_cases e:i=n
  ·subst e
   cases q:h i <;> rw [q] at hf <;> simp [nr] at hf ⊢
  ·exact Bs hf.2 i (by omega) (by omega)
theorem rn {h:ac} {gv:K}:∀ {l:List Nat} {os:List Ob},kU h gv l os=true→∀ (j a:Nat) (o:Ob),l[j]?=some a→os[j]?=some o→(bf (h a)=true→bf o=true)∧((∀ p ∈ gv,p.1 ≠ a)→o ≠ .dead)
 | [],os,_,j,a,o,h1,_=>by simp at h1
 | b::l,[],_,j,a,o,_,h2=>by simp at h2
 | b::l,o'::os,hs,j,a,o,h1,h2=>by
  simp only [kU,Bool.and_eq_true,Bool.or_eq_true,Bool.not_eq_true'] at hs
  obtain ⟨⟨s1,s2⟩,s3⟩:=hs
  cases j with
  | zero =>
   simp at h1 h2
   subst h1 h2
   refine ⟨fun hb => ?_,fun hn e => ?_⟩
   ·rcases s1 with s1 | s1
    ·rw [hb] at s1; cases s1
    ·exact s1
   ·rcases s2 with s2 | s2
    ·simp only [List.any_eq_true,beq_iff_eq] at s2
     obtain ⟨p,hp,e2⟩:=s2
     exact hn p hp e2
    ·subst e; simp [nr] at s2
  | succ j=>exact rn s3 j a o (by simpa using h1) (by simpa using h2)
theorem nB {l l':List Nat} {c:AV} (hl:∀ i,l.contains i=true→l'.contains i=true) (hc:bc l c=true):bc l' c=true:=by
 cases c <;> simp only [bc] at hc ⊢ <;> first | exact hc | skip
 all_goals
  simp only [Bool.and_eq_true] at hc ⊢
  exact ⟨hl _ hc.1,hc.2⟩
theorem wx {l l':List Nat} {c:AV} (hl:∀ i,l.contains i=true→l'.contains i=true) (hc:aU l c=true):aU l' c=true:=by
 cases c with
 | agg cs =>
  simp only [aU,List.all_eq_true] at hc ⊢
  exact fun c h=>nB hl (hc c h)
 | fn f x y =>
  simp only [aU,Bool.and_eq_true,List.all_eq_true] at hc ⊢
  exact ⟨fun c h=>nB hl (hc.1 c h),fun c h=>nB hl (hc.2 c h)⟩
 | _ =>
  simp only [aU] at hc ⊢
  exact nB hl hc
theorem HN {l l':List Nat} {o:Ob} (hl:∀ i,l.contains i=true→l'.contains i=true) (hc:bq l o=true):bq l' o=true:=by
 cases o <;> simp only [bq] at hc ⊢
 simp only [List.all_eq_true,cZ,Bool.or_eq_true] at hc ⊢
 exact fun c h=>(hc c h).imp id (wx hl)
theorem HO {f:Nat→Nat} {c:AV} (hd:gA c=true):eQ f c=c:=by
 cases c <;> simp [gA,aO,aA] at hd <;> first | rfl | skip
 obtain ⟨rfl,rfl⟩:=hd
 rfl
theorem HP {l:List Nat} {n:Nat} {g:ac} {c:AV} (hr:eR l c=true) {i:Nat} (h:(cD n g c).2 i ≠ g i):(∃ k rows,(cD n g c).2 i = .ar k rows)∨∃ cs,(cD n g c).2 i = .bx cs∧cs.all gA=true:=by
 cases c <;> simp only [cD] at h ⊢ <;> first | exact absurd rfl h | skip
 case osl k rows =>
  unfold upd at h ⊢
  split
  ·exact .inl ⟨_,_,rfl⟩
  ·rename_i hn; rw [if_neg hn] at h; exact absurd rfl h
 case obx cs =>
  unfold upd at h ⊢
  split
  ·exact .inr ⟨_,rfl,hr⟩
  ·rename_i hn; rw [if_neg hn] at h; exact absurd rfl h
theorem HQ {l:List Nat} {i:Nat}:∀ {vs:List AV} {n:Nat} {g:ac},vs.all (eR l)=true→(br n g vs).2 i ≠ g i→(∃ k rows,(br n g vs).2 i = .ar k rows)∨∃ cs,(br n g vs).2 i = .bx cs∧cs.all gA=true
 | [],n,g,_,h=>absurd rfl h
 | c::vs,n,g,hr,h=>by
  simp only [List.all_cons,Bool.and_eq_true] at hr
  simp only [br] at h ⊢
  by_cases e:(br (n+1) (cD n g c).2 vs).2 i=(cD n g c).2 i
  ·rw [e] at h ⊢
   exact HP hr.1 h
  ·exact HQ hr.2 e
theorem UR {l:List Nat} {n:Nat} {g:ac} {c:AV} (hr:iV l c=true) {i:Nat} (h:(mat n g c).2 i ≠ g i):(∃ k rows,(mat n g c).2 i = .ar k rows)∨∃ cs,(mat n g c).2 i = .bx cs∧cs.all gA=true:=by
 cases c <;> simp only [mat] at h ⊢ <;> simp only [iV] at hr <;> first | exact HQ hr h | exact HP hr h
theorem yS {l l':List Nat} {n:Nat} {g:ac} {c:AV} (hr:eR l c=true) (hl:∀ i,l.contains i=true→l'.contains i=true) (hn:l'.contains n=true):aU l' (cD n g c).1=true:=by
 cases c <;> simp only [cD] <;> simp only [eR] at hr <;> first | exact wx hl hr | (simp only [aU,bc,hn]; rfl)
theorem yT {l l':List Nat} (hl:∀ i,l.contains i=true→l'.contains i=true):∀ {vs:List AV} {n:Nat} {g:ac},vs.all (eR l)=true→(∀ i,n≤i→i < n+vs.length→l'.contains i=true)→∀ z ∈ (br n g vs).1,aU l' z=true
 | [],n,g,_,_,z,hz=>by simp [br] at hz
 | c::vs,n,g,hr,hn,z,hz=>by
  simp only [List.all_cons,Bool.and_eq_true] at hr
  simp only [br,List.mem_cons] at hz
  rcases hz with rfl | hz
  ·exact yS hr.1 hl (hn n (Nat.le_refl _) (by simp))
  ·exact yT hl hr.2 (fun i h1 h2=>hn i (by omega) (by simp at h2 ⊢; omega)) z hz
def Nj (l:List Nat):AV→Prop
 | .tup vs=>∀ c ∈ vs,aU l c=true
 | c=>aU l c=true
theorem Nk {l l':List Nat} {n:Nat} {g:ac} {c:AV} (hr:eR l c=true) (hl:∀ i,l.contains i=true→l'.contains i=true) (hn:l'.contains n=true):Nj l' (cD n g c).1:=by
 have:=yS (n:=n) (g:=g) hr hl hn
 cases hq:(cD n g c).1 <;> rw [hq] at this <;> first | exact this | simp [aU,bc] at this
theorem PC {l l':List Nat} {n:Nat} {g:ac} {c:AV} (hr:iV l c=true) (hl:∀ i,l.contains i=true→l'.contains i=true) (hn:∀ i,n≤i→i < n+dH c→l'.contains i=true):Nj l' (mat n g c).1:=by
 cases c with
 | tup vs =>
  simp only [mat]
  simp only [iV] at hr
  exact yT hl hr hn
 | _=>exact Nk hr hl (hn n (Nat.le_refl _) (by simp [dH]))
section
variable {w:World} {X:Nat→Prop} {ρ:bd} {hc:ac} {ids:List Nat}
def yU (X:Nat→Prop) (hc:ac) (ρ:bd) (ids:List Nat) (b:Nat):Prop :=
 X b∨(j5 hc ρ b ∧ ¬ j5 (ax (ids.map fun a=>dx (bo ids) (hc a))) (fun i s=>ρ (bW ids i) s) b)
theorem PD (r:Rel w X ρ hc) (hl:ids.length≤1000) (hnd:ids.Nodup) (hcl:∀ a ∈ ids,bq ids (hc a)=true) :
  Rel w (yU X hc ρ ids) (fun i s=>ρ (bW ids i) s) (ax (ids.map fun a=>dx (bo ids) (hc a))) ∧
  (∀ b,aE w X hc ρ b→aE w (yU X hc ρ ids) (ax (ids.map fun a=>dx (bo ids) (hc a))) (fun i s=>ρ (bW ids i) s) b):=by
 have em:=Emb.enter (h:=hc) hl hnd hcl
 have hA:∀ b,aE w X hc ρ b→aE w (yU X hc ρ ids) (ax (ids.map fun a=>dx (bo ids) (hc a))) (fun i s=>ρ (bW ids i) s) b:=fun b hb =>
  ⟨hb.1,fun hx=>by rcases hx with hx | ⟨hx,_⟩; exact hb.2.1 hx; exact hb.2.2 hx,fun ⟨i,s,h1,h2⟩=>hb.2.2 ⟨_,s,(em.live h1).1,h2⟩⟩
 exact ⟨Rel.emb em r (fun b hb=>by rcases hb with hb | ⟨hb,_⟩; exact r.xl b hb; exact HK r hb) (fun i s hl hx=>by
  rcases hx with hx | ⟨_,hx⟩
  ·exact r.nx _ _ (em.live hl).1 hx
  ·exact hx ⟨i,s,hl,rfl⟩) hA,hA⟩
theorem wz (hl:ids.length≤1000) (hnd:ids.Nodup) (hcl:∀ a ∈ ids,bq ids (hc a)=true) {b:Nat} (ho:j5 (ax (ids.map fun a=>dx (bo ids) (hc a))) (fun i s=>ρ (bW ids i) s) b) :
  ∃ id sub,id ∈ ids∧live hc id sub∧(ρ id sub).1=b:=by
 obtain ⟨i,s,h1,h2⟩:=ho
 obtain ⟨h3,h4⟩:=(Emb.enter (h:=hc) hl hnd hcl).live h1
 have hi:1000≤i∧i < 1000+ids.length:=by
  by_cases hh:1000≤i∧i < 1000+ids.length
  ·exact hh
  ·exact absurd (nA (by simp; omega)) h4
 exact ⟨_,s,(rm hl hnd hi.1 hi.2).1,h3,h2⟩
theorem Nl {w':World} {ρ':bd} {kp:Bool} {d:Nat} {gv ks0 ks:K} {res:AV} {os:List Ob} {z:AV} {h':ac} {v:Value} (r:Rel w X ρ hc) (hnd:ids.Nodup) (hcl:∀ a ∈ ids,bq ids (hc a)=true) (hdead:∀ a ∈ ids,hc a ≠ .dead) (gvflag:∀ p ∈ gv,p.2=false)
  (hz:kV kp hc d ids ks0 gv (res,os)=some (z,h',ks)) (r':Rel w' (yU X hc ρ ids) ρ' (mat (2000+8*d) (ax os) res).2)
  (far:Far kp w (fun i s=>ρ (bW ids i) s) (ax (ids.map fun a=>dx (bo ids) (hc a))) w' ρ' (mat (2000+8*d) (ax os) res).2)
  (hv:RV w' (aE w' (yU X hc ρ ids) (mat (2000+8*d) (ax os) res).2 ρ') ρ' (mat (2000+8*d) (ax os) res).2 (mat (2000+8*d) (ax os) res).1 v) :
  ∃ ρ3 k1,ks=ks0++k1∧Rel w' X ρ3 h'∧Evo w ρ hc w' ρ3 h' k1∧RV w' (aE w' X h' ρ3) ρ3 h' z v:=by
 unfold kV at hz
 split at hz
 ·rename_i hcond
  obtain ⟨c1,hl,c2,c3,c4,c5⟩:=hcond
  simp only at c1 c2 c4
  simp only [Option.some.injEq,Prod.mk.injEq] at hz
  obtain ⟨rfl,rfl,rfl⟩:=hz
  simp only [MM,Bool.and_eq_true] at c5
  obtain ⟨c5,c6,c7⟩:=c5
  generalize hn:2000+8*d=n at *
  have n2:2000≤n:=by omega
  have em:=Emb.enter (h:=hc) hl hnd hcl
  have gdead:∀ i,n≤i→i < n+dH res→hc i = .dead:=Bs c3
  have gids:∀ i,n≤i→i < n+dH res→i ∉ ids:=fun i h1 h2 hi=>hdead i hi (gdead i h1 h2)
  have oget:∀ a ∈ ids,os[ids.idxOf a]?=some (ax os (bo ids a)):=fun a ha=>by
   have h1:=List.idxOf_lt_length_of_mem ha
   have h2:ids.idxOf a < os.length:=by omega
   unfold bo
   rw [List.getElem?_eq_getElem h2]
   exact congrArg some (Br (by rw [List.getElem?_eq_getElem h2])).symm
  have hm_ids:∀ a ∈ ids,(mat n (ax os) res).2 (bo ids a)=ax os (bo ids a):=fun a ha=>oK (by have:=oL ha; omega)
  have hm_out:∀ i,¬ (1000≤i∧i < 1000+ids.length) → ¬ (n≤i∧i < n+dH res)→(mat n (ax os) res).2 i = .dead:=fun i h1 h2=>by
   rw [oK (by omega)]
   exact nA (by omega)
  have w_ids:∀ a ∈ ids,dO hc ids ids os a=dx (bW ids) (ax os (bo ids a)):=fun a ha=>HM hnd (by
   have h1:=List.idxOf_lt_length_of_mem ha
   rw [List.getElem?_eq_getElem h1]; simp) (oget a ha)
  have h_grp:∀ i,n≤i→i < n+dH res→(mat n (gz (dO hc ids ids os) gv) res).2 i=(mat n (ax os) res).2 i:=fun i h1 h2=>Pu (by
   rw [HL (.inr (by rw [m6 (gids i h1 h2)]; exact gdead i h1 h2))]
   exact (nA (by omega)).symm)
  have h_ids:∀ a ∈ ids,(∀ p ∈ gv,p.1 ≠ a)→(mat n (gz (dO hc ids ids os) gv) res).2 a=dx (bW ids) ((mat n (ax os) res).2 (bo ids a)):=fun a ha hg=>by
   rw [oK (fun hh=>gids a hh.1 hh.2 ha),EX hg,w_ids a ha,hm_ids a ha]
  have h_gv:∀ a,¬ (n≤a∧a < n+dH res)→(∃ p ∈ gv,p.1=a)→(mat n (gz (dO hc ids ids os) gv) res).2 a = .dead:=fun a h1 hg=>by
   rw [oK (by omega),HL (.inl hg)]
  have h_out:∀ a,a ∉ ids → ¬ (n≤a∧a < n+dH res)→(∀ p ∈ gv,p.1 ≠ a)→(mat n (gz (dO hc ids ids os) gv) res).2 a=hc a:=fun a h1 h2 hg=>by
   rw [oK (by omega),EX hg,m6 h1]
  generalize hh':(mat n (gz (dO hc ids ids os) gv) res).2=h' at *
  have hzr':(mat n (ax os) res).1=(mat n (gz (dO hc ids ids os) gv) res).1:=LJ _ _ _ _
  generalize (mat n (gz (dO hc ids ids os) gv) res).1=zr at *
  have grp_obj:∀ i,n≤i→i < n+dH res→(mat n (ax os) res).2 i ≠ .dead→(∃ k rows,(mat n (ax os) res).2 i = .ar k rows)∨∃ cs,(mat n (ax os) res).2 i = .bx cs∧cs.all gA=true:=fun i h1 h2 hd =>
   UR c6 (by rw [nA (show i < 1000∨1000+os.length≤i from by omega)]; exact hd)
  rw [hzr'] at hv
  have zcl:∀ {l':List Nat},(∀ i,(yD ids gv).contains i=true→l'.contains i=true)→(∀ i,n≤i→i < n+dH res→l'.contains i=true)→Nj l' zr:=fun {l'} hl1 hl2=>hzr' ▸ PC c6 hl1 hl2
  generalize hhm:(mat n (ax os) res).2=hm at *
  have ok_spec:∀ i,(yD ids gv).contains i=true→1000≤i∧i < 1000+ids.length∧∀ p ∈ gv,p.1 ≠ bW ids i:=fun i hi=>by
   unfold yD at hi
   split at hi
   ·have:=gj.1 hi
    exact ⟨this.1,this.2,by simp⟩
   ·simp only [List.contains_eq_mem,List.mem_filter,decide_eq_true_eq,Bool.not_eq_true',List.any_eq_false,beq_iff_eq] at hi
    have:=gj.1 (show (b7 ids.length).contains i=true from by simpa using hi.1)
    exact ⟨this.1,this.2,fun p hp=>hi.2 p hp⟩
  have ok_mk:∀ a ∈ ids,(∀ p ∈ gv,p.1 ≠ a)→(yD ids gv).contains (bo ids a)=true:=fun a ha hg=>by
   have h1:=oL ha
   unfold yD
   split
   ·exact gj.2 h1
   ·simp only [List.contains_eq_mem,List.mem_filter,decide_eq_true_eq,Bool.not_eq_true',List.any_eq_false,beq_iff_eq]
    exact ⟨by simpa using gj.2 h1,fun p hp=>by rw [m7 hl ha]; exact hg p hp⟩
  let L3:List Nat:=yD ids gv++List.range' n (dH res)
  have l3a:∀ i,(yD ids gv).contains i=true→L3.contains i=true:=fun i hi=>by
   simp only [L3,List.contains_eq_mem,List.mem_append,decide_eq_true_eq] at hi ⊢; exact .inl hi
  have l3b:∀ i,n≤i→i < n+dH res→L3.contains i=true:=fun i h1 h2=>by
   simp only [L3,List.contains_eq_mem,List.mem_append,decide_eq_true_eq,List.mem_range'_1]; exact .inr ⟨h1,h2⟩
  let Cal:Nat→Prop:=fun i=>(i ∈ ids∧∀ p ∈ gv,p.1 ≠ i)∨(n≤i∧i < n+dH res)
  let nm:Nat→Nat:=fun i=>if i ∈ ids then bo ids i else i
  let h3:ac:=fun i=>open Classical in if Cal i then h' i else .dead
  have h3c:∀ i,Cal i→h3 i=h' i:=fun i hi=>by simp only [h3,if_pos hi]
  have h3n:∀ i,h3 i ≠ .dead→Cal i:=fun i hi=>by
   by_cases hC:Cal i
   ·exact hC
   ·simp only [h3,if_neg hC] at hi; exact absurd rfl hi
  have nmi:∀ i ∈ ids,nm i=bo ids i:=fun i hi=>by simp only [nm,if_pos hi]
  have nmg:∀ i,n≤i→i < n+dH res→nm i=i:=fun i h1 h2=>by simp only [nm,if_neg (gids i h1 h2)]
  have em3:Emb L3 (bW ids) nm hm h3:=by
   refine ⟨fun i hi => ?_,fun i hi => ?_,fun i j hi hj e => ?_⟩
   ·simp only [L3,List.contains_eq_mem,List.mem_append,decide_eq_true_eq,List.mem_range'_1] at hi
    rcases hi with hi | hi
    ·obtain ⟨q1,q2,q3⟩:=ok_spec i (by simpa using hi)
     obtain ⟨q4,q5⟩:=rm hl hnd q1 q2
     refine ⟨by rw [nmi _ q4,q5],?_⟩
     rw [h3c _ (.inl ⟨q4,q3⟩),h_ids _ q4 q3,q5]
    ·have e1:bW ids i=i:=by unfold bW; rw [if_neg (by omega)]
     rw [e1]
     refine ⟨nmg i hi.1 hi.2,?_⟩
     rw [h3c _ (.inr hi),h_grp i hi.1 hi.2]
     by_cases hd:hm i = .dead
     ·rw [hd]; rfl
     ·rcases grp_obj i hi.1 hi.2 hd with ⟨k,rows,e2⟩ | ⟨cs,e2,e3⟩
      ·rw [e2]; rfl
      ·rw [e2]
       simp only [dx,Ob.bx.injEq]
       exact ((List.map_congr_left (g:=fun c=>c) fun c hc=>HO (List.all_eq_true.1 e3 c hc)).trans (List.map_id' cs)).symm
   ·rcases h3n i hi with ⟨q1,q2⟩ | ⟨q1,q2⟩
    ·rw [h3c _ (.inl ⟨q1,q2⟩),nmi i q1]
     refine ⟨h_ids i q1 q2,?_⟩
     rw [hm_ids i q1]
     exact HN l3a (List.all_eq_true.1 c7 _ (List.mem_of_getElem? (oget i q1)))
    ·rw [nmg i q1 q2]
     have hd:hm i ≠ .dead:=by rw [h3c _ (.inr ⟨q1,q2⟩),h_grp i q1 q2] at hi; exact hi
     rw [h3c _ (.inr ⟨q1,q2⟩),h_grp i q1 q2]
     rcases grp_obj i q1 q2 hd with ⟨k,rows,e2⟩ | ⟨cs,e2,e3⟩
     ·rw [e2]; exact ⟨rfl,rfl⟩
     ·rw [e2]
      refine ⟨?_,?_⟩
      ·simp only [dx,Ob.bx.injEq]
       exact ((List.map_congr_left (g:=fun c=>c) fun c hc=>HO (List.all_eq_true.1 e3 c hc)).trans (List.map_id' cs)).symm
      ·simp only [bq,List.all_eq_true]
       exact fun c hc=>yQ (List.all_eq_true.1 e3 c hc)
   ·rcases h3n i hi with ⟨q1,q2⟩ | ⟨q1,q2⟩ <;> rcases h3n j hj with ⟨q3,q4⟩ | ⟨q3,q4⟩
    ·rw [nmi i q1,nmi j q3] at e
     rw [← m7 hl q1,← m7 hl q3,e]
    ·rw [nmi i q1,nmg j q3 q4] at e
     have:=oL q1
     omega
    ·rw [nmg i q1 q2,nmi j q3] at e
     have:=oL q3
     omega
    ·rwa [nmg i q1 q2,nmg j q3 q4] at e
  have own3:∀ {b},j5 h3 (fun i s=>ρ' (nm i) s) b→j5 hm ρ' b:=fun ⟨i,s,h1,h2⟩=>⟨nm i,s,(em3.live h1).1,h2⟩
  have r3:Rel w' (yU X hc ρ ids) (fun i s=>ρ' (nm i) s) h3:=Rel.emb em3 r' r'.xl (fun i s hl=>r'.nx _ _ (em3.live hl).1) fun b hb=>⟨hb.1,hb.2.1,fun ho=>hb.2.2 (own3 ho)⟩
  let ρ3:bd:=fun i s=>open Classical in if Cal i then ρ' (nm i) s else ρ i s
  have r3c:∀ i,Cal i→∀ s,ρ3 i s=ρ' (nm i) s:=fun i hi s=>by simp only [ρ3,if_pos hi]
  have r3n:∀ i,¬ Cal i→∀ s,ρ3 i s=ρ i s:=fun i hi s=>by simp only [ρ3,if_neg hi]
  have rest:∀ i,¬ Cal i→h' i ≠ .dead→i ∉ ids∧h' i=hc i:=fun i hi hd=>by
   have h1 : ¬ (n≤i∧i < n+dH res):=fun hh=>hi (.inr hh)
   have h2:∀ p ∈ gv,p.1 ≠ i:=fun p hp e=>hd (h_gv i h1 ⟨p,hp,e⟩)
   have h4:i ∉ ids:=fun hh=>hi (.inl ⟨hh,h2⟩)
   exact ⟨h4,h_out i h4 h1 h2⟩
  have xin:∀ {i s},i ∉ ids→live hc i s → ¬ j5 (ax (ids.map fun a=>dx (bo ids) (hc a))) (fun i s=>ρ (bW ids i) s) (ρ i s).1:=fun {i s} hi hl' ho=>by
   obtain ⟨id,sub,q1,q2,q3⟩:=wz hl hnd hcl ho
   obtain ⟨e,_⟩:=r.inj _ _ _ _ q2 hl' q3
   exact hi (e ▸ q1)
  have lcal:∀ {i s},live h' i s→Cal i→live h3 i s:=fun {i s} hl' hC=>(bN (h3c i hC)).2 hl'
  have lrest:∀ {i s},live h' i s → ¬ Cal i→i ∉ ids∧live hc i s:=fun {i s} hl' hC=>by
   have hd:h' i ≠ .dead:=by
    cases s with
    | none=>intro e; simp [live,e] at hl'
    | some p=>obtain ⟨_,_,_,e,_⟩:=hl'; rw [e]; simp
   obtain ⟨h1,h2⟩:=rest i hC hd
   exact ⟨h1,(bN h2).1 hl'⟩
  have fr3:∀ {b},j5 hm ρ' b→j5 (ax (ids.map fun a=>dx (bo ids) (hc a))) (fun i s=>ρ (bW ids i) s) b∨w.heap.size≤b:=fun ho=>far.fresh _ ho
  have parts:∀ {i s j t},live h3 i s→j ∉ ids→live hc j t→(ρ' (nm i) s).1 ≠ (ρ j t).1:=fun {i s j t} h1 h2 h4 e=>by
   rcases fr3 ⟨nm i,s,(em3.live h1).1,e⟩ with ho | ho
   ·exact xin h2 h4 ho
   ·have:=HK r ⟨j,t,h4,rfl⟩
    omega
  have ownc:∀ {b},j5 h' ρ3 b→j5 h3 (fun i s=>ρ' (nm i) s) b∨∃ id sub,id ∉ ids∧live hc id sub∧(ρ id sub).1=b:=fun {b} ⟨i,s,h1,h2⟩=>by
   by_cases hC:Cal i
   ·exact .inl ⟨i,s,lcal h1 hC,by rw [← h2,r3c i hC]⟩
   ·obtain ⟨h4,h5⟩:=lrest h1 hC
    exact .inr ⟨i,s,h4,h5,by rw [← h2,r3n i hC]⟩
  have hA3:∀ b,aE w' (yU X hc ρ ids) h3 (fun i s=>ρ' (nm i) s) b→aE w' X h' ρ3 b:=fun b hb=>⟨hb.1,fun hx=>hb.2.1 (.inl hx),fun ho=>by
   rcases ownc ho with ho | ⟨i,s,h1,h2,rfl⟩
   ·exact hb.2.2 ho
   ·exact hb.2.1 (.inr ⟨⟨i,s,h2,rfl⟩,xin h1 h2⟩)⟩
  have noE:∀ {b},¬ j5 hc ρ b → ¬ j5 (ax (ids.map fun a=>dx (bo ids) (hc a))) (fun i s=>ρ (bW ids i) s) b:=fun {b} hb ho=>by
   obtain ⟨id,sub,_,q2,q3⟩:=wz hl hnd hcl ho
   exact hb ⟨id,sub,q2,q3⟩
  have hAc:∀ b,aE w X hc ρ b→aE w' X h' ρ3 b∧w'.heap[b]?=w.heap[b]?:=fun b hb=>by
   refine ⟨⟨Nat.lt_of_lt_of_le hb.1 far.size,hb.2.1,fun ho => ?_⟩,far.old b hb.1 (noE hb.2.2)⟩
   rcases ownc ho with ho | ⟨i,s,h1,h2,rfl⟩
   ·rcases fr3 (own3 ho) with ho | ho
    ·exact noE hb.2.2 ho
    ·have:=hb.1; omega
   ·exact hb.2.2 ⟨i,s,h2,rfl⟩
  have pas:∀ a ∈ ids,aQ (bo ids a)=true:=fun a ha=>by
   have:=oL ha
   simp only [aQ,decide_eq_true_eq]
   omega
  have stayI:∀ a ∈ ids,(∀ p ∈ gv,p.1 ≠ a)→h' a ≠ .dead∧ρ3 a none=ρ a none∧hm (bo ids a) ≠ .dead:=fun a ha hg=>by
   have h1:=(rn c4 _ a _ (by have h1:=List.idxOf_lt_length_of_mem ha; rw [List.getElem?_eq_getElem h1]; simp) (oget a ha)).2 hg
   have h2:hm (bo ids a) ≠ .dead:=by rw [hm_ids a ha]; exact h1
   refine ⟨by rw [h_ids a ha hg,ne_eq,wo]; exact h2,?_,h2⟩
   rw [r3c a (.inl ⟨ha,hg⟩),nmi a ha,(far.stay _ (pas a ha) h2).2,m7 hl ha]
  have bfB:∀ id,bf (hc id)=true→bf (h' id)=true∧ρ3 id none=ρ id none:=fun id hb=>by
   have h1 : ¬ (n≤id∧id < n+dH res):=fun hh=>by rw [gdead id hh.1 hh.2] at hb; cases hb
   have h2:∀ p ∈ gv,p.1 ≠ id:=fun p hp e=>by
    have:=List.all_eq_true.1 c5 p hp
    rw [e,hb] at this
    cases this
   by_cases hi:id ∈ ids
   ·have h4:=(rn c4 _ id _ (by have h1:=List.idxOf_lt_length_of_mem hi; rw [List.getElem?_eq_getElem h1]; simp) (oget id hi)).1 hb
    exact ⟨by rw [h_ids id hi h2,LG,hm_ids id hi]; exact h4,(stayI id hi h2).2.1⟩
   ·exact ⟨by rw [h_out id hi h1 h2]; exact hb,r3n id (fun hC=>by rcases hC with hC | hC; exact hi hC.1; exact h1 hC) none⟩
  have rel:Rel w' X ρ3 h':=by
   refine ⟨fun i s j t h1 h2 e => ?_,fun i s h1 hx => ?_,fun id => ?_,fun b hb=>Nat.lt_of_lt_of_le (r.xl b hb) far.size⟩
   ·by_cases hi:Cal i <;> by_cases hj:Cal j
    ·rw [r3c i hi,r3c j hj] at e
     exact r3.inj _ _ _ _ (lcal h1 hi) (lcal h2 hj) e
    ·rw [r3c i hi,r3n j hj] at e
     obtain ⟨q1,q2⟩:=lrest h2 hj
     exact absurd e (parts (lcal h1 hi) q1 q2)
    ·rw [r3n i hi,r3c j hj] at e
     obtain ⟨q1,q2⟩:=lrest h1 hi
     exact absurd e.symm (parts (lcal h2 hj) q1 q2)
    ·rw [r3n i hi,r3n j hj] at e
     exact r.inj _ _ _ _ (lrest h1 hi).2 (lrest h2 hj).2 e
   ·by_cases hi:Cal i
    ·rw [r3c i hi] at hx
     exact r3.nx _ _ (lcal h1 hi) (.inl hx)
    ·rw [r3n i hi] at hx
     exact r.nx _ _ (lrest h1 hi).2 hx
   ·by_cases hi:Cal id
    ·have:=(r3.ob id).keep (w':=w') (A':=aE w' X h' ρ3) (ρ':=ρ3) (h':=h') (fun b hb=>⟨hA3 b hb,rfl⟩) (fun i hb=>by
      have hC:=h3n i (fun e=>by rw [e] at hb; cases hb)
      rw [h3c i hC] at hb
      exact ⟨hb,r3c i hC none⟩) (fun s=>r3c id hi s) (fun _ _=>rfl)
     rwa [h3c id hi] at this
    ·by_cases hd:h' id = .dead
     ·rw [hd]; trivial
     ·obtain ⟨q1,q2⟩:=rest id hi hd
      have:=(r.ob id).keep (w':=w') (A':=aE w' X h' ρ3) (ρ':=ρ3) (h':=h') hAc bfB (fun s=>r3n id hi s) (fun s hl'=>far.old _ (HK r ⟨id,s,hl',rfl⟩) (xin q1 hl'))
      rwa [← q2] at this
  have evo:Evo w ρ hc w' ρ3 h' ((if kp then [] else ids.map (·,true))++gv):=by
   refine ⟨far.os,far.tape,far.output,far.size,fun b hb ho=>far.old b hb (noE ho),fun id sub hp hk => ?_,fun b ho => ?_,bfB,fun id hp hd => ?_⟩
   ·rw [qu,Bool.or_eq_false_iff] at hk
    have h2:∀ p ∈ gv,p.1 ≠ id:=fun p hp' e=>by
     have hk2:=hk.2
     simp only [fh,List.any_eq_false,Bool.and_eq_true,beq_iff_eq,Bool.or_eq_true,Bool.not_eq_true',not_and] at hk2
     exact hk2 p hp' e (.inl (gvflag p hp'))
    have hnd':hc id ≠ .dead:=by
     cases sub with
     | none=>exact hp
     | some p=>obtain ⟨_,_,_,e,_⟩:=hp; rw [e]; simp
    have h1 : ¬ (n≤id∧id < n+dH res):=fun hh=>hnd' (gdead id hh.1 hh.2)
    by_cases hi:id ∈ ids
    ·cases sub with
     | none=>exact ⟨(stayI id hi h2).1,(stayI id hi h2).2.1⟩
     | some p =>
      cases kp with
      | false =>
       have hk1:=hk.1
       simp only [Bool.false_eq_true,if_false,fh,List.any_map,List.any_eq_false,Function.comp,Bool.and_eq_true,beq_iff_eq] at hk1
       exact absurd ⟨rfl,rfl⟩ (hk1 id hi)
      | true =>
       have hpe:bA (ax (ids.map fun a=>dx (bo ids) (hc a))) (bo ids id) (some p):=by
        obtain ⟨cs,k,rows,e1,e2⟩:=hp
        have:=(em.back id (by simpa using hi)).2
        rw [e1] at this
        refine ⟨cs.map (eQ (bo ids)),k,rows,this,?_⟩
        rw [List.getElem?_map,e2]
        rfl
       obtain ⟨q1,q2⟩:=far.keep rfl (bo ids id) p (pas id hi) (stayI id hi h2).2.2 hpe
       refine ⟨?_,?_⟩
       ·obtain ⟨cs,k,rows,e1,e2⟩:=q1
        refine ⟨cs.map (eQ (bW ids)),k,rows,?_,?_⟩
        ·rw [h_ids id hi h2,e1]; rfl
        ·rw [List.getElem?_map,e2]; rfl
       ·rw [r3c id (.inl ⟨hi,h2⟩),nmi id hi,q2,m7 hl hi]
    ·have hC : ¬ Cal id:=fun hC=>by rcases hC with hC | hC; exact hi hC.1; exact h1 hC
     exact ⟨(c9 (h_out id hi h1 h2)).2 hp,r3n id hC sub⟩
   ·rcases ownc ho with ho | ⟨i,s,h1,h2,rfl⟩
    ·rcases fr3 (own3 ho) with ho | ho
     ·obtain ⟨id,sub,_,q2,q3⟩:=wz hl hnd hcl ho
      exact .inl ⟨id,sub,q2,q3⟩
     ·exact .inr ho
    ·exact .inl ⟨i,s,h2,rfl⟩
   ·simp only [aQ,decide_eq_true_eq] at hp
    by_cases hi:id ∈ ids
    ·refine ⟨hdead id hi,?_⟩
     by_cases hg:∀ p ∈ gv,p.1 ≠ id
     ·exact (stayI id hi hg).2.1
     ·exfalso
      refine hd (h_gv id (by omega) ?_)
      have:=Classical.not_forall.1 hg
      obtain ⟨p,hp'⟩:=this
      obtain ⟨hp1,hp2⟩:=Classical.not_imp.1 hp'
      exact ⟨p,hp1,Classical.not_not.1 hp2⟩
    ·have hC : ¬ Cal id:=fun hC=>by rcases hC with hC | hC; exact hi hC.1; omega
     obtain ⟨_,q2⟩:=rest id hC hd
     exact ⟨q2 ▸ hd,r3n id hC none⟩
  refine ⟨ρ3,_,rfl,rel,evo,?_⟩
  have toV:∀ {c:AV} {u:Value},RV w' (aE w' (yU X hc ρ ids) hm ρ') ρ' hm c u→aU L3 c=true→RV w' (aE w' X h' ρ3) ρ3 h' (eQ (bW ids) c) u:=fun {c u} hv hcl'=>by
   have h1:=hv.embA (A2:=aE w' (yU X hc ρ ids) h3 (fun i s=>ρ' (nm i) s)) em3 (fun b hb=>⟨hb.1,hb.2.1,fun ho=>hb.2.2 (own3 ho)⟩) hcl'
   exact h1.keep (fun b hb=>⟨hA3 b hb,rfl⟩) fun i s hp=>by
    have hC:=h3n i (by
     cases s with
     | none=>exact hp
     | some p=>obtain ⟨_,_,_,e,_⟩:=hp; rw [e]; simp)
    exact ⟨(c9 (h3c i hC)).1 hp,r3c i hC s⟩
  have zc:=zcl l3a l3b
  cases zr with
  | tup vs =>
   cases hv with
   | dat hd=>cases hd
   | tup _ us hs hr =>
    refine .tup _ us (by simpa using hs) fun i c u hc' hu => ?_
    simp only [List.getElem?_map,Option.map_eq_some_iff] at hc'
    obtain ⟨c0,h1,rfl⟩:=hc'
    exact toV (hr i c0 u h1 hu) (zc c0 (List.mem_of_getElem? h1))
  | _=>exact toV hv zc
 ·cases hz
end
theorem Bt {R:AV→Value→Prop} {l1 l2:List AV} {v1 v2:List Value} (hl:v1.length=l1.length) (h1:∀ (i:Nat) (c:AV) (u:Value),l1[i]?=some c→v1[i]?=some u→R c u)
  (h2:∀ (i:Nat) (c:AV) (u:Value),l2[i]?=some c→v2[i]?=some u→R c u) (i:Nat) (c:AV) (u:Value) (hc:(l1++l2)[i]?=some c) (hu:(v1++v2)[i]?=some u):R c u:=by
 by_cases h:i < l1.length
 ·rw [List.getElem?_append_left h] at hc
  rw [List.getElem?_append_left (by omega)] at hu
  exact h1 i c u hc hu
 ·rw [List.getElem?_append_right (by omega)] at hc
  rw [List.getElem?_append_right (by omega),hl] at hu
  exact h2 _ c u hc hu
theorem Bu:∀ {l:List AV} {ms:List Nat},∀ p ∈ tU ms l,p.2=false
 | [],ms,p,hp=>by simp [tU] at hp
 | a::l,ms,p,hp=>by
  simp only [tU,List.mem_append] at hp
  rcases hp with hp | hp
  ·split at hp
   ·simp only [List.mem_map] at hp
    obtain ⟨i,_,rfl⟩:=hp
    rfl
   ·simp at hp
  ·exact Bu p hp
section
variable {P:Program} {I:Inv} {call:er} {md:Mode}
theorem Nm (hf:∀ f,ui P I (md.keep f) f (call f)):iQ P I call md:=by
 intro w X ρ h h' d f z as ks uf us hd hi r hvf hus hva hz
 cases f <;> simp only [dP] at hz <;> try (cases hz; done)
 rename_i fid a b
 obtain ⟨first,cap,rfl,s1,s2,va,vb⟩:=hvf.fn_inv
 refine ⟨fid,first,cap,rfl,?_⟩
 simp only [Option.bind_eq_some_iff] at hz
 obtain ⟨⟨zs,hc,ks0⟩,e1,e2⟩:=hz
 simp only at e2
 have hvals:(first++us++cap).toList=first.toList++us.toList++cap.toList:=by simp
 obtain ⟨r1,ev1,fl1,ln1,vv⟩:=ww (h0:=h) (a++as++b) (md.m fid) (first++us++cap).toList r .refl (by simp [s1,s2,hus]) (fun i c u h1 h2=>by
  rw [hvals] at h2
  refine Bt (by simp [s1,hus]) (fun i c u h1 h2=>Bt (by simp [s1]) (fun i c u h1 h2=>va i c u h1 (by simpa using h2)) (fun i c u h1 h2=>hva i c u h1 (by simpa using h2)) i c u h1 h2) (fun i c u h1 h2=>vb i c u h1 (by simpa using h2)) i c u h1 h2) e1
 have hnd:(el hc 40 (dW [] (zs.flatMap bY)) 0).Nodup:=yM (ri List.nodup_nil)
 generalize el hc 40 (dW [] (zs.flatMap bY)) 0=ids at *
 unfold rY at e2
 split at e2
 ·rename_i hck
  simp only [Bool.and_eq_true,List.all_eq_true,Bool.not_eq_true'] at hck
  obtain ⟨k1,k2⟩:=hck
  simp only [Option.bind_eq_some_iff] at e2
  obtain ⟨⟨res,os⟩,e3,e4⟩:=e2
  have hl:ids.length≤1000:=by
   unfold kV at e4
   split at e4
   ·rename_i hh; exact hh.2.1
   ·cases e4
  have hcl:∀ a ∈ ids,bq ids (hc a)=true:=fun a ha=>(k2 a ha).1
  have hdead:∀ a ∈ ids,hc a ≠ .dead:=fun a ha e=>by
   have:=(k2 a ha).2
   rw [e] at this
   cases this
  have em:=Emb.enter (h:=hc) hl hnd hcl
  obtain ⟨rE,hA⟩:=PD r1 hl hnd hcl
  have hi1:I.p w (yU X hc ρ ids):=I.more hi fun b hb => .inl hb
  have hlen:(first++us++cap).size=zs.length:=by rw [ln1]; simp [s1,s2,hus]
  refine (hf fid e3 (n:=2000+8*d) (by omega) hi1 rE (by rw [List.length_map,rl]; exact hlen) fun i c u hc' hu => ?_).mono fun v w' ⟨ρ',q1,q2,q3⟩ => ?_
  ·simp only [List.getElem?_map,Option.map_eq_some_iff] at hc'
   obtain ⟨c0,h1,rfl⟩:=hc'
   obtain ⟨c1,h2,h3⟩:=pB _ _ _ _ h1
   obtain ⟨h4,wy,hv⟩:=vv i c1 u h2 (by rw [Array.getElem?_toList]; exact hu)
   have hv':RV w (aE w X h4 ρ) ρ h4 c0 u:=by
    rcases h3 with rfl | ⟨ss,rfl⟩
    ·exact hv
    ·exact hv.nrmV ss
   have hcc:=k1 c0 (List.mem_of_getElem? h1)
   exact (PB wy hv' hcc).embA em hA hcc
  ·obtain ⟨ρ3,k3,rfl,g1,g2,g3⟩:=Nl r1 hnd hcl hdead Bu e4 q1 q2 q3
   exact ⟨ρ3,g1,ev1.trans g2,g3⟩
 ·cases e2
structure EnvOK (P:Program) (I:Inv) (e:Env):Prop where
 mixed:P.follows .mixedOrders=true
 ext:∀ f g,e.E f=some g→ui P I (e.md.keep f) f g
 text:∀ f fd,e.E f=none→e.C f=some fd→Text P f fd
theorem Bv (kp:Bool) (f:FuncId):ui P I kp f (fun _ _=>none):=by
 intro args obs obs' res w X ρ vals n hz
 cases hz
theorem PF {e:Env} (he:EnvOK P I e):∀ (n:Nat) (f:FuncId),ui P I (e.md.keep f) f (fO e n f)
 | 0,f=>Bv _ f
 | n+1,f=>by
  cases hE:e.E f with
  | some g =>
   have:fO e (n+1) f=g:=by funext args hs; simp only [fO,hE]
   rw [this]
   exact he.ext f g hE
  | none =>
   cases hC:e.C f with
   | none =>
    have:fO e (n+1) f=fun _ _=>none:=by funext args hs; simp only [fO,hE,hC]; rfl
    rw [this]
    exact Bv _ f
   | some fd =>
    have:fO e (n+1) f=v9 (fO e n) { e.md with nm:=e.md.keep f } n fd:=by funext args hs; simp only [fO,hE,hC]; rfl
    rw [this]
    exact UQ (md:={ e.md with nm:=e.md.keep f }) he.mixed (Nm (md:={ e.md with nm:=e.md.keep f }) fun g=>PF he n g) (he.text f fd hE hC)
end
def Ev (p:Nat→Prop):Prop:=∃ n,∀ k,n≤k→p k
theorem Ev.and {p q:Nat→Prop} (a:Ev p) (b:Ev q):Ev fun k=>p k∧q k:=by
 obtain ⟨n,hn⟩:=a
 obtain ⟨m,hm⟩:=b
 exact ⟨max n m,fun k hk=>⟨hn k (by omega),hm k (by omega)⟩⟩
theorem Ev.mono {p q:Nat→Prop} (a:Ev p) (h:∀ k,p k→q k):Ev q:=by
 obtain ⟨n,hn⟩:=a
 exact ⟨n,fun k hk=>h k (hn k hk)⟩
theorem Ev.all {p:Nat→Prop} (h:∀ k,p k):Ev p:=⟨0,fun k _=>h k⟩
open Classical in
noncomputable def r8 {α:Type} (f:Nat→Option α):Option α:=if h:∃ a,Ev fun k=>f k=some a then some (Classical.choose h) else none
theorem i9 {α:Type} {f:Nat→Option α} {a:α}:r8 f=some a↔Ev fun k=>f k=some a:=by
 unfold r8
 constructor
 ·intro h
  split at h
  ·rename_i hh
   have:=Classical.choose_spec hh
   cases h
   exact this
  ·cases h
 ·intro h
  have hh:∃ a,Ev fun k=>f k=some a:=⟨a,h⟩
  rw [dif_pos hh]
  obtain ⟨n,hn⟩:=Classical.choose_spec hh
  obtain ⟨m,hm⟩:=h
  have h1:=hn (max n m) (by omega)
  have h2:=hm (max n m) (by omega)
  exact h1.symm.trans h2
theorem US {α:Type} {f g:Nat→Option α} (h:∀ a,r8 f=some a↔r8 g=some a):r8 f=r8 g:=by
 cases hf:r8 f with
 | none =>
  cases hg:r8 g with
  | none=>rfl
  | some a=>rw [(h a).2 hg] at hf; cases hf
 | some a=>exact ((h a).1 hf).symm
theorem pC {α:Type} (a:Option α):r8 (fun _=>a)=a:=by
 cases a with
 | none =>
  cases h:r8 (fun _:Nat=>(none:Option α)) with
  | none=>rfl
  | some a =>
   obtain ⟨n,hn⟩:=i9.1 h
   exact absurd (hn n (Nat.le_refl _)) (by simp)
 | some a=>exact i9.2 (Ev.all fun _=>rfl)
theorem HR {α:Type} (f:Nat→Option α):r8 (fun n=>f (n+1))=r8 f:=US fun a=>by
 rw [i9,i9]
 constructor
 ·rintro ⟨n,hn⟩
  refine ⟨n+1,fun k hk => ?_⟩
  have:f (k - 1+1)=some a:=hn (k - 1) (by omega)
  rwa [show k - 1+1=k from by omega] at this
 ·rintro ⟨n,hn⟩
  exact ⟨n,fun k hk=>hn (k+1) (by omega)⟩
noncomputable def aq (body:aj→ac→Option (Ex × St)) (ks hs:List Nat) (s:aj) (h:ac):Option (Ex × St):=r8 fun n=>jU body ks hs n s h
def G3 (g:aj→ac→Option (Ex × St)):Option (Ex × St)→Option (Ex × St)
 | some (.normal,t)=>g t.s t.h
 | r=>r
theorem ao (body:aj→ac→Option (Ex × St)) (ks hs:List Nat) (s:aj) (h:ac) :
  aq body ks hs s h=if (hs.all fun a=>bq hs (h a))=true then G3 (aq body ks hs) (body (mk .any (fun i=>eK hs (s i)) ks) (mk .dead h hs)) else none:=by
 unfold aq
 rw [← HR]
 simp only [jU]
 split
 ·cases hb:body (mk .any (fun i=>eK hs (s i)) ks) (mk .dead h hs) with
  | none=>exact pC _
  | some r =>
   obtain ⟨e,t⟩:=r
   cases e with
   | normal=>rfl
   | exit id=>exact pC _
   | ret=>exact pC _
 ·exact pC _
noncomputable def ak (call:er) (md:Mode):Cmd→aj→ac→Option (Ex × St)
 | .skip,s,h=>some (.normal,⟨s,h⟩)
 | .ops ks l,s,h=>aW (aG call md l s h) fun s h=>some (.normal,⟨mk .any s ks,h⟩)
 | .dops ks l ps,s,h=>aW (pf call md l ps s h) fun s h=>some (.normal,⟨mk .any s ks,h⟩)
 | .seq a b,s,h=>bm (ak call md a s h) (ak call md b)
 | .cond c a b,s,h=>iX (ak call md a s h) (ak call md b s h) (ev s c)
 | .block id ks a,s,h=>au id ks (ak call md a s h)
 | .loop ks hs a,s,h=>aq (ak call md a) ks hs s h
 | .exit id,s,h=>some (.exit id,⟨s,h⟩)
 | .ret,s,h=>some (.ret,⟨s,h⟩)
 | .frz is a,s,h=>aW (CU md.nm is s h) (ak call md a)
noncomputable def dh (e:Env):er:=fun f args hs=>r8 fun n=>fO e n f args hs
noncomputable def Nn (call:er) (md:Mode) (fd:FD) (args:List AV) (hs:List Ob):Option (AV × List Ob) :=
 if args.length=fd.np∧hs.length≤1000 then iY md.nm fd.rs fd.res hs.length (ak call md fd.body (re args) (ax hs)) else none
section
variable {e:Env} {md:Mode}
theorem Sg {h:ac} {d:Nat} {as:List AV} {f:AV} {r:R3} (hz:dP (dh e) md h d as f=some r):Ev fun k=>dP (fO e k) md h d as f=some r:=by
 cases f <;> simp only [dP] at hz ⊢ <;> try (cases hz; done)
 simp only [Option.bind_eq_some_iff] at hz ⊢
 obtain ⟨p,e1,e2⟩:=hz
 unfold rY at e2 ⊢
 split at e2
 ·rename_i hc
  simp only [Option.bind_eq_some_iff] at e2
  obtain ⟨q,e3,e4⟩:=e2
  refine (i9.1 e3).mono fun k hk=>⟨p,e1,?_⟩
  rw [if_pos hc]
  simp only [Option.bind_eq_some_iff]
  exact ⟨q,hk,e4⟩
 ·cases e2
theorem LN {d:Nat} {op:AOp} {s:aj} {h:ac} {r:R3} (hz:step (dh e) md d op s h=some r):Ev fun k=>step (fO e k) md d op s h=some r:=by
 cases op with
 | call f as=>exact Sg hz
 | _=>exact Ev.all fun k=>hz
theorem LO {d:Option Nat} {op:AOp} {s:aj} {h:ac} {t:St} (hz:cE md.nm s d (step (dh e) md (d.getD 0) op s h)=some t):Ev fun k=>cE md.nm s d (step (fO e k) md (d.getD 0) op s h)=some t:=by
 cases hs:step (dh e) md (d.getD 0) op s h with
 | none=>rw [hs] at hz; cases hz
 | some r =>
  rw [hs] at hz
  exact (LN hs).mono fun k hk=>by rw [hk]; exact hz
theorem Si {o:COp} {s:aj} {h:ac} {t:St} (hz:kW (dh e) md o s h=some t):Ev fun k=>kW (fO e k) md o s h=some t:=by
 unfold kW at hz ⊢
 cases hg:o.g with
 | none=>rw [hg] at hz; exact LO hz
 | some g =>
  rw [hg] at hz
  simp only at hz ⊢
  unfold fW at hz ⊢
  split at hz
  ·split at hz
   ·rename_i hb
    simp only [if_pos hb]
    exact LO hz
   ·rename_i hb
    simp only [if_neg hb]
    exact Ev.all fun k=>hz
  ·exact Ev.all fun k=>hz
  ·cases hz
theorem Bw:∀ {l:List COp} {s:aj} {h:ac} {t:St},aG (dh e) md l s h=some t→Ev fun k=>aG (fO e k) md l s h=some t
 | [],s,h,t,hz=>Ev.all fun k=>hz
 | o::l,s,h,t,hz=>by
  simp only [aG,aW] at hz
  split at hz
  ·cases hz
  ·rename_i t1 ht1
   refine ((Si ht1).and (Bw hz)).mono fun k hk => ?_
   simp only [aG,aW,hk.1,hk.2]
theorem HS {d:Option Nat} {op:AOp} {s:aj} {h:ac} {f:ac→Fp} {t:St × Fp} (hz:fL s d f (step (dh e) md (d.getD 0) op s h)=some t):Ev fun k=>fL s d f (step (fO e k) md (d.getD 0) op s h)=some t:=by
 cases hs:step (dh e) md (d.getD 0) op s h with
 | none=>rw [hs] at hz; cases hz
 | some r =>
  rw [hs] at hz
  exact (LN hs).mono fun k hk=>by rw [hk]; exact hz
theorem Sj {o:COp} {s:aj} {h:ac} {t:St × Fp} (hz:cr (dh e) md o s h=some t):Ev fun k=>cr (fO e k) md o s h=some t:=by
 unfold cr at hz ⊢
 cases hg:o.g with
 | none=>rw [hg] at hz; exact HS hz
 | some g =>
  rw [hg] at hz
  simp only at hz ⊢
  unfold iW at hz ⊢
  split at hz
  ·split at hz
   ·rename_i hb
    simp only [if_pos hb]
    exact HS hz
   ·rename_i hb
    simp only [if_neg hb]
    exact Ev.all fun k=>hz
  ·exact Ev.all fun k=>hz
  ·cases hz
theorem LP:∀ {l:List COp} {s:aj} {h:ac} {t:St × List Fp},fM (dh e) md l s h=some t→Ev fun k=>fM (fO e k) md l s h=some t
 | [],s,h,t,hz=>Ev.all fun k=>hz
 | o::l,s,h,t,hz=>by
  simp only [fM,Option.bind_eq_some_iff] at hz
  obtain ⟨r,e1,q,e2,e3⟩:=hz
  refine ((Sj e1).and (LP e2)).mono fun k hk => ?_
  simp only [fM,hk.1,hk.2,Option.bind_some,e3]
theorem LQ {c:Cmd} {ks hs:List Nat} (ih:∀ {s:aj} {h:ac} {r:Ex × St},ak (dh e) md c s h=some r→Ev fun k=>bg (fO e k) md k c s h=some r) :
  ∀ (m:Nat) {s:aj} {h:ac} {r:Ex × St},jU (ak (dh e) md c) ks hs m s h=some r→∃ n,∀ k,n≤k→∀ j,n≤j→jU (bg (fO e k) md k c) ks hs j s h=some r
 | 0,s,h,r,hz=>by simp [jU] at hz
 | m+1,s,h,r,hz=>by
  simp only [jU] at hz
  split at hz
  ·rename_i hc
   cases hb:ak (dh e) md c (mk .any (fun i=>eK hs (s i)) ks) (mk .dead h hs) with
   | none=>rw [hb] at hz; cases hz
   | some q =>
    rw [hb] at hz
    obtain ⟨n1,h1⟩:=ih hb
    obtain ⟨ex,t⟩:=q
    cases ex with
    | normal =>
     obtain ⟨n2,h2⟩:=LQ ih m hz
     refine ⟨max n1 n2+1,fun k hk j hj => ?_⟩
     obtain ⟨j,rfl⟩:∃ j',j=j'+1:=⟨j - 1,by omega⟩
     simp only [jU,if_pos hc,h1 k (by omega)]
     exact h2 k (by omega) j (by omega)
    | exit id =>
     refine ⟨n1+1,fun k hk j hj => ?_⟩
     obtain ⟨j,rfl⟩:∃ j',j=j'+1:=⟨j - 1,by omega⟩
     simp only [jU,if_pos hc,h1 k (by omega)]
     exact hz
    | ret =>
     refine ⟨n1+1,fun k hk j hj => ?_⟩
     obtain ⟨j,rfl⟩:∃ j',j=j'+1:=⟨j - 1,by omega⟩
     simp only [jU,if_pos hc,h1 k (by omega)]
     exact hz
  ·cases hz
theorem fu:∀ (c:Cmd) {s:aj} {h:ac} {r:Ex × St},ak (dh e) md c s h=some r→Ev fun k=>bg (fO e k) md k c s h=some r
 | .skip,s,h,r,hz=>Ev.all fun k=>hz
 | .ops ks l,s,h,r,hz=>by
  simp only [ak,aW] at hz
  split at hz
  ·cases hz
  ·rename_i t1 ht1
   exact (Bw ht1).mono fun k hk=>by simp only [bg,hk,aW]; exact hz
 | .dops ks l ps,s,h,r,hz=>by
  simp only [ak,aW] at hz
  split at hz
  ·cases hz
  ·rename_i t1 ht1
   simp only [pf,Option.bind_eq_some_iff] at ht1
   obtain ⟨q,e1,e2⟩:=ht1
   refine (LP e1).mono fun k hk => ?_
   simp only [bg,pf,hk,Option.bind_some,e2,aW]
   exact hz
 | .seq a b,s,h,r,hz=>by
  simp only [ak,bm] at hz
  split at hz
  ·cases hz
  ·rename_i t1 ht1
   exact ((fu a ht1).and (fu b hz)).mono fun k hk=>by simp only [bg,bm,hk.1,hk.2]
  ·rename_i i t1 ht1
   exact (fu a ht1).mono fun k hk=>by simp only [bg,bm,hk]; exact hz
  ·rename_i t1 ht1
   exact (fu a ht1).mono fun k hk=>by simp only [bg,bm,hk]; exact hz
 | .cond c a b,s,h,r,hz=>by
  simp only [ak,iX] at hz
  split at hz
  ·rename_i t ht
   cases t with
   | true=>exact (fu a hz).mono fun k hk=>by simp only [bg,iX,ht,if_true,hk]
   | false=>exact (fu b hz).mono fun k hk=>by simp only [bg,iX,ht,Bool.false_eq_true,if_false,hk]
  ·cases hz
 | .block id ks a,s,h,r,hz=>by
  simp only [ak,au] at hz
  split at hz
  ·cases hz
  ·rename_i t1 ht1
   exact (fu a ht1).mono fun k hk=>by simp only [bg,au,hk]; exact hz
  ·rename_i i t1 ht1
   exact (fu a ht1).mono fun k hk=>by simp only [bg,au,hk]; exact hz
  ·rename_i t1 ht1
   exact (fu a ht1).mono fun k hk=>by simp only [bg,au,hk]; exact hz
 | .loop ks hs a,s,h,r,hz=>by
  simp only [ak,aq] at hz
  obtain ⟨m,hm⟩:=i9.1 hz
  obtain ⟨n,hn⟩:=LQ (fun hh=>fu a hh) m (hm m (Nat.le_refl _))
  exact ⟨n,fun k hk=>by simp only [bg]; exact hn k hk k hk⟩
 | .exit id,s,h,r,hz=>Ev.all fun k=>hz
 | .ret,s,h,r,hz=>Ev.all fun k=>hz
 | .frz is a,s,h,r,hz=>by
  simp only [ak,aW] at hz
  split at hz
  ·cases hz
  ·rename_i t1 ht1
   exact (fu a hz).mono fun k hk=>by simp only [bg,aW,ht1,hk]
theorem EY {f:FuncId} {fd:FD} {args:List AV} {hs:List Ob} {r:AV × List Ob} (hE:e.E f=none) (hC:e.C f=some fd) (hz:Nn (dh e) { e.md with nm:=e.md.keep f } fd args hs=some r):dh e f args hs=some r:=by
 unfold dh
 rw [i9]
 unfold Nn at hz
 split at hz
 ·rename_i hc
  cases hx:ak (dh e) { e.md with nm:=e.md.keep f } fd.body (re args) (ax hs) with
  | none=>rw [hx] at hz; cases hz
  | some q =>
   rw [hx] at hz
   obtain ⟨n,hn⟩:=fu fd.body hx
   refine ⟨n+1,fun k hk => ?_⟩
   obtain ⟨k,rfl⟩:∃ k',k=k'+1:=⟨k - 1,by omega⟩
   simp only [fO,hE,hC,Option.bind_some,v9,if_pos hc,hn k (by omega)]
   exact hz
 ·cases hz
theorem HT {f:FuncId} {g:List AV→List Ob→Option (AV × List Ob)} {args:List AV} {hs:List Ob} (hE:e.E f=some g):dh e f args hs=g args hs:=by
 unfold dh
 rw [← HR]
 have:(fun n=>fO e (n+1) f args hs)=fun _=>g args hs:=by funext n; simp only [fO,hE]
 rw [this,pC]
theorem UT {P:Program} {I:Inv} (he:EnvOK P I e) (f:FuncId):ui P I (e.md.keep f) f (dh e f):=by
 intro args obs obs' res w X ρ vals n hz
 obtain ⟨m,hm⟩:=i9.1 hz
 exact PF he m f (hm m (Nat.le_refl _))
end
section
variable {call:er} {md:Mode} {s:aj} {h:ac}
@[go_sem] theorem ai7:ak call md .skip s h=some (.normal,⟨s,h⟩):=_root_.id rfl
@[go_sem] theorem als (ks l):ak call md (.ops ks l) s h=aW (aG call md l s h) fun s h=>some (.normal,⟨mk .any s ks,h⟩):=_root_.id rfl
@[go_sem] theorem alt (is a):ak call md (.frz is a) s h=aW (CU md.nm is s h) (ak call md a):=_root_.id rfl
@[go_sem] theorem ai8 (ks l ps):ak call md (.dops ks l ps) s h=aW (pf call md l ps s h) fun s h=>some (.normal,⟨mk .any s ks,h⟩):=_root_.id rfl
@[go_sem] theorem ZF (a b):ak call md (.seq a b) s h=bm (ak call md a s h) (ak call md b):=_root_.id rfl
@[go_sem] theorem ai9 (c a b):ak call md (.cond c a b) s h=iX (ak call md a s h) (ak call md b s h) (ev s c):=_root_.id rfl
@[go_sem] theorem ahg (id ks a):ak call md (.block id ks a) s h=au id ks (ak call md a s h):=_root_.id rfl
@[go_sem] theorem aja (ks hs a):ak call md (.loop ks hs a) s h=aq (ak call md a) ks hs s h:=_root_.id rfl
@[go_sem] theorem ajb (i):ak call md (.exit i) s h=some (.exit i,⟨s,h⟩):=_root_.id rfl
@[go_sem] theorem alu:ak call md .ret s h=some (.ret,⟨s,h⟩):=_root_.id rfl
@[go_sem] theorem Xf (s h f):bm (some (.normal,⟨s,h⟩)) f=f s h:=_root_.id rfl
@[go_sem] theorem ZG (i t f):bm (some (.exit i,t)) f=some (.exit i,t):=_root_.id rfl
@[go_sem] theorem abr (t f):bm (some (.ret,t)) f=some (.ret,t):=_root_.id rfl
@[go_sem] theorem YS (id ks i t):au id ks (some (.exit i,t))=if i=id then some (.normal,⟨mk .any t.s ks,t.h⟩) else some (.exit i,t):=_root_.id rfl
@[go_sem] theorem Wq (id ks t):au id ks (some (.normal,t))=some (.normal,⟨mk .any t.s ks,t.h⟩):=_root_.id rfl
@[go_sem] theorem ZH (id ks t):au id ks (some (.ret,t))=some (.ret,t):=_root_.id rfl
@[go_sem] theorem ZI (a b):iX a b (.v (.bool true))=a:=_root_.id rfl
@[go_sem] theorem YT (a b):iX a b (.v (.bool false))=b:=_root_.id rfl
@[go_sem] theorem Xg (g t):G3 g (some (.normal,t))=g t.s t.h:=_root_.id rfl
@[go_sem] theorem ZJ (g i t):G3 g (some (.exit i,t))=some (.exit i,t):=_root_.id rfl
@[go_sem] theorem abt (g t):G3 g (some (.ret,t))=some (.ret,t):=_root_.id rfl
@[go_sem] theorem ZK {β:Type} (s h) (f:aj→ac→Option β):aW (some ⟨s,h⟩) f=f s h:=_root_.id rfl
@[go_sem] theorem abu {β:Type} (c:Prop) [Decidable c] (x y:Option St) (f:aj→ac→Option β):aW (if c then x else y) f=if c then aW x f else aW y f:=by split <;> rfl
@[go_sem] theorem abv (c:Prop) [Decidable c] (x y:Option (Ex × St)) (f:aj→ac→Option (Ex × St)):bm (if c then x else y) f=if c then bm x f else bm y f:=by split <;> rfl
@[go_sem] theorem ahh:aG call md [] s h=some ⟨s,h⟩:=_root_.id rfl
@[go_sem] theorem Bx (d op rest):aG call md (⟨some d,none,.p op⟩::rest) s h=(dw s op).bind fun a=>aG call md rest (upd s d a) h:=by
 simp only [aG,kW,step,tV]
 cases dw s op with
 | none=>rfl
 | some a=>simp only [Option.map_some,cE,ku,if_true]; rfl
def cm (d n:Nat):COp:=⟨some d,none,.p (.mv (.t n))⟩
def co (d:Nat) (op:POp):COp:=⟨some d,none,.p op⟩
def cg (d j:Nat) (w:Bool) (op:POp):COp:=⟨some d,some (j,w),.p op⟩
@[go_sem] theorem ajc (d n rest):aG call md (cm d n::rest) s h=aG call md rest (upd s d (s n)) h:=Bx d (.mv (.t n)) rest
@[go_sem] theorem ajd (d op rest):aG call md (co d op::rest) s h=(dw s op).bind fun a=>aG call md rest (upd s d a) h:=Bx d op rest
@[go_sem] theorem aje (d j w op rest):aG call md (cg d j w op::rest) s h=aW (fW (some d) w ((dw s op).map fun a=>⟨upd s d a,h⟩) s h (s j)) (aG call md rest):=by
 have:cE md.nm s (some d) (step call md d (.p op) s h)=(dw s op).map fun a=>⟨upd s d a,h⟩:=by
  simp only [step,tV]
  cases dw s op with
  | none=>rfl
  | some a=>simp only [Option.map_some,cE,ku,if_true]; rfl
 show aW (fW (some d) w (cE md.nm s (some d) (step call md d (.p op) s h)) s h (s j)) _=_
 rw [this]
def b2 (d:Nat) (op:BinOp) (a b:Nat):COp:=⟨some d,none,.p (.bin op (.t a) (.t b))⟩
def fa (d k a:Nat):COp:=⟨some d,none,.p (.fadr k (.t a))⟩
def nk (d a:Nat):COp:=⟨some d,none,.p (.nilck (.t a))⟩
def ld (d k a:Nat):COp:=⟨some d,none,.load k false (.t a)⟩
def la (d k a:Nat):COp:=⟨some d,none,.load k true (.t a)⟩
def ca (d f:Nat) (as:List Opd):COp:=⟨some d,none,.call (.c (.fn f [] [])) as⟩
def sr (k:Nat) (x y:Opd):COp:=⟨none,none,.store k x y⟩
def al (d:Nat) (z:List AV):COp:=⟨some d,none,.alloc z⟩
def bx (d k:Nat) (x:Opd):COp:=⟨some d,none,.box k x⟩
@[go_sem] theorem ajf (d op a b rest):aG call md (b2 d op a b::rest) s h=(cd op (s a) (s b)).bind fun a=>aG call md rest (upd s d a) h:=Bx d (.bin op (.t a) (.t b)) rest
@[go_sem] theorem ajg (d k a rest):aG call md (fa d k a::rest) s h=(o9 k (s a)).bind fun a=>aG call md rest (upd s d a) h:=Bx d (.fadr k (.t a)) rest
@[go_sem] theorem ajh (d a rest):aG call md (nk d a::rest) s h=(vY (s a)).bind fun a=>aG call md rest (upd s d a) h:=Bx d (.nilck (.t a)) rest
@[go_sem] theorem aji (d k a rest):aG call md (ld d k a::rest) s h=aW (cE md.nm s (some d) (dU h k false (s a))) (aG call md rest):=_root_.id rfl
@[go_sem] theorem ajj (d k a rest):aG call md (la d k a::rest) s h=aW (cE md.nm s (some d) (dU h k true (s a))) (aG call md rest):=_root_.id rfl
@[go_sem] theorem ajk (d f as rest):aG call md (ca d f as::rest) s h=aW (cE md.nm s (some d) (dP call md h d (as.map (ev s)) (.fn f [] []))) (aG call md rest):=_root_.id rfl
@[go_sem] theorem ajl (k x y rest):aG call md (sr k x y::rest) s h=aW (cE md.nm s none (fD h k (ev s x) (ev s y))) (aG call md rest):=_root_.id rfl
@[go_sem] theorem ajm (d z rest):aG call md (al d z::rest) s h=aW (cE md.nm s (some d) (fE h d z [])) (aG call md rest):=_root_.id rfl
@[go_sem] theorem ajn (d k x rest):aG call md (bx d k x::rest) s h=aW (cE md.nm s (some d) (q8 h d k (ev s x))) (aG call md rest):=_root_.id rfl
@[go_sem] theorem alv (d j w op rest):aG call md (⟨d,some (j,w),op⟩::rest) s h=aW (fW d w (cE md.nm s d (step call md (d.getD 0) op s h)) s h (s j)) (aG call md rest):=_root_.id rfl
@[go_sem] theorem abw (d z rest):aG call md (⟨some d,none,.alloc z⟩::rest) s h=aW (cE md.nm s (some d) (fE h d z [])) (aG call md rest):=_root_.id rfl
@[go_sem] theorem ahi (d k x rest):aG call md (⟨some d,none,.box k x⟩::rest) s h=aW (cE md.nm s (some d) (q8 h d k (ev s x))) (aG call md rest):=_root_.id rfl
@[go_sem] theorem YV (d k z n ps rest):aG call md (⟨some d,none,.buildSl k z n ps⟩::rest) s h=aW (cE md.nm s (some d) ((cM k h (List.replicate n z) (ps.map fun p=>(p.1,ev s p.2))).bind fun q=>dt q.2.1 d k q.1 n q.2.2)) (aG call md rest):=_root_.id rfl
@[go_sem] theorem ac3 (d k z b l c rest):aG call md (⟨some d,none,.mkSl k z b l c⟩::rest) s h=aW (cE md.nm s (some d) ((tT (ev s l) (ev s c)).bind fun p=>if p.2*b≤140737488355328 then dt h d k (List.replicate p.1 z) p.1 [] else none)) (aG call md rest):=_root_.id rfl
@[go_sem] theorem ac4 (d k g x rest):aG call md (⟨some d,none,.load k g x⟩::rest) s h=aW (cE md.nm s (some d) (dU h k g (ev s x))) (aG call md rest):=_root_.id rfl
@[go_sem] theorem abx (d k x y rest):aG call md (⟨d,none,.store k x y⟩::rest) s h=aW (cE md.nm s d (fD h k (ev s x) (ev s y))) (aG call md rest):=_root_.id rfl
@[go_sem] theorem ahj (d k b x y rest):aG call md (⟨some d,none,.app k b x y⟩::rest) s h=aW (cE md.nm s (some d) (Hg h d k b (ev s x) (ev s y))) (aG call md rest):=_root_.id rfl
@[go_sem] theorem ac5 (d f as rest):aG call md (⟨some d,none,.call f as⟩::rest) s h=aW (cE md.nm s (some d) (dP call md h d (as.map (ev s)) (ev s f))) (aG call md rest):=_root_.id rfl
@[go_sem] theorem aby (f as rest):aG call md (⟨none,none,.call f as⟩::rest) s h=aW (cE md.nm s none (dP call md h 0 (as.map (ev s)) (ev s f))) (aG call md rest):=_root_.id rfl
@[go_sem] theorem ac6 (nm:Bool) (s d x h):cE nm s (some d) (some (x,h,[]))=some ⟨upd s d x,h⟩:=by simp only [cE,ku,if_true]; rfl
@[go_sem] theorem abz (nm:Bool) (s x h):cE nm s none (some (x,h,[]))=some ⟨s,h⟩:=by simp only [cE,ku,if_true]; rfl
@[go_sem] theorem ajo (d op):step call md d (.p op) s h=tV h (dw s op):=_root_.id rfl
@[go_sem] theorem abA (d k g x):step call md d (.load k g x) s h=dU h k g (ev s x):=_root_.id rfl
@[go_sem] theorem abB (d f as):step call md d (.call f as) s h=dP call md h d (as.map (ev s)) (ev s f):=_root_.id rfl
@[go_sem] theorem ZL (d k x y):step call md d (.store k x y) s h=fD h k (ev s x) (ev s y):=_root_.id rfl
@[go_sem] theorem ZM (d z):step call md d (.alloc z) s h=fE h d z []:=_root_.id rfl
@[go_sem] theorem ac7 (d k x):step call md d (.box k x) s h=q8 h d k (ev s x):=_root_.id rfl
@[go_sem] theorem Xh (d k z n ps):step call md d (.buildSl k z n ps) s h=(cM k h (List.replicate n z) (ps.map fun p=>(p.1,ev s p.2))).bind fun q=>dt q.2.1 d k q.1 n q.2.2:=_root_.id rfl
@[go_sem] theorem abC (d k z b l c):step call md d (.mkSl k z b l c) s h=(tT (ev s l) (ev s c)).bind fun p=>if p.2*b≤140737488355328 then dt h d k (List.replicate p.1 z) p.1 [] else none:=_root_.id rfl
@[go_sem] theorem abD (h a):tV h (some a)=some (a,h,[]):=_root_.id rfl
@[go_sem] theorem ZN (d st s h):fW d true st s h (.v (.bool true))=st:=_root_.id rfl
@[go_sem] theorem ZO (d st s h):fW d false st s h (.v (.bool false))=st:=_root_.id rfl
@[go_sem] theorem ZP (d st s h):fW (some d) true st s h (.v (.bool false))=some ⟨upd s d .und,h⟩:=_root_.id rfl
@[go_sem] theorem ZQ (d st s h):fW (some d) false st s h (.v (.bool true))=some ⟨upd s d .und,h⟩:=_root_.id rfl
@[go_sem] theorem YW (d w st s h):fW (some d) w st s h .und=some ⟨upd s d .und,h⟩:=_root_.id rfl
@[go_sem] theorem alJ (s n):ev s (.t n)=s n:=_root_.id rfl
@[go_sem] theorem alK (s a):ev s (.c a)=a:=_root_.id rfl
@[go_sem] theorem ac8 (s):evo s none=none:=_root_.id rfl
@[go_sem] theorem ac9 (s x):evo s (some x)=some (ev s x):=_root_.id rfl
@[go_sem] theorem ajp {α:Type} (s:Nat→α) (d:Nat) (x:α) (i:Nat):upd s d x i=if i=d then x else s i:=_root_.id rfl
@[go_sem] theorem ajq {α:Type} (d:α) (f:Nat→α):mk d f []=fun _=>d:=_root_.id rfl
@[go_sem] theorem ahk {α:Type} (d:α) (f:Nat→α) (i l):mk d f (i::l)=upd (mk d f l) i (f i):=_root_.id rfl
@[go_sem] theorem alL (x):dw s (.mv x)=some (ev s x):=_root_.id rfl
@[go_sem] theorem ajr (c a b):dw s (.pick c a b)=xL (ev s c) (ev s a) (ev s b):=_root_.id rfl
@[go_sem] theorem ahl (x):dw s (.nilck x)=vY (ev s x):=_root_.id rfl
@[go_sem] theorem ajs (n x):dw s (.nilq n x)=A6 n (ev s x):=_root_.id rfl
@[go_sem] theorem alx (op x y):dw s (.bin op x y)=cd op (ev s x) (ev s y):=_root_.id rfl
@[go_sem] theorem alM (op x):dw s (.un op x)=Hc op (ev s x):=_root_.id rfl
@[go_sem] theorem alN (k x):dw s (.cv k x)=O2 k (ev s x):=_root_.id rfl
@[go_sem] theorem aly (x):dw s (.cv0 x)=MI (ev s x):=_root_.id rfl
@[go_sem] theorem alz (k x lo hi mx):dw s (.slc k x lo hi mx)=kn k (ev s x) (evo s lo) (evo s hi) (evo s mx):=_root_.id rfl
@[go_sem] theorem ajt (x lo hi):dw s (.slcS x lo hi)=GW (ev s x) (evo s lo) (evo s hi):=_root_.id rfl
@[go_sem] theorem aju (o x):dw s (.fadr o x)=o9 o (ev s x):=_root_.id rfl
@[go_sem] theorem alA (o k g x):dw s (.fld o k g x)=Hd o k g (ev s x):=_root_.id rfl
@[go_sem] theorem ahm (k x i):dw s (.iadrS k x i)=lY k (ev s x) (ev s i):=_root_.id rfl
@[go_sem] theorem ahn (n k x i):dw s (.iadrA n k x i)=sZ n k (ev s x) (ev s i):=_root_.id rfl
@[go_sem] theorem ajv (x i):dw s (.idxS x i)=xM (ev s x) (ev s i):=_root_.id rfl
@[go_sem] theorem ajw (n k g x i):dw s (.idxA n k g x i)=GX n k g (ev s x) (ev s i):=_root_.id rfl
@[go_sem] theorem alB (i x):dw s (.ext i x)=He i (ev s x):=_root_.id rfl
@[go_sem] theorem alC (m x):dw s (.len m x)=jR m (ev s x):=_root_.id rfl
@[go_sem] theorem alD (m t x y):dw s (.eqc m t x y)=Hb m t (ev s x) (ev s y):=_root_.id rfl
@[go_sem] theorem ajx (x):dw s (.capp x)=MJ (ev s x):=_root_.id rfl
@[go_sem] theorem alE (m x ys):dw s (.mnx m x ys)=sv m (ev s x) (ys.map (ev s)):=_root_.id rfl
@[go_sem] theorem aho (z ps):dw s (.build z ps)=(no z (ps.map fun p=>(p.1,p.2.1,ev s p.2.2))).map .agg:=_root_.id rfl
@[go_sem] theorem alF (f a b):dw s (.mkF f a b)=some (.fn f (a.map (ev s)) (b.map (ev s))):=_root_.id rfl
@[go_sem] theorem abE (a b):xL (.v (.bool true)) a b=some a:=_root_.id rfl
@[go_sem] theorem ZR (a b):xL (.v (.bool false)) a b=some b:=_root_.id rfl
@[go_sem] theorem ada (id sub k i j):vY (.ref id sub k i j)=some (.ref id sub k i j):=_root_.id rfl
@[go_sem] theorem adb (cs):vY (.ipt cs)=some (.ipt cs):=_root_.id rfl
@[go_sem] theorem ahp (f a b):vY (.fn f a b)=some (.fn f a b):=_root_.id rfl
theorem ii (op a b):cd op (.v a) (.v b)=(eO op a b).map .v:=_root_.id rfl
@[go_sem] theorem ahq (k a b):cd .add (.v (.int k a)) (.v (.int k b))=some (.v (.int k (k.wrap (a+b)))):=by simp [ii,eO,kl]
@[go_sem] theorem ahr (k a b):cd .sub (.v (.int k a)) (.v (.int k b))=some (.v (.int k (k.wrap (a - b)))):=by simp [ii,eO,kl]
@[go_sem] theorem ahs (k a b):cd .mul (.v (.int k a)) (.v (.int k b))=some (.v (.int k (k.wrap (a*b)))):=by simp [ii,eO,kl]
@[go_sem] theorem UU (k a b):cd .quo (.v (.int k a)) (.v (.int k b))=if b=0 then none else some (.v (.int k (k.wrap (a.tdiv b)))):=by simp only [ii,eO,kl,if_true]; split <;> rfl
@[go_sem] theorem LR (k a b):cd .rem (.v (.int k a)) (.v (.int k b))=if b=0 then none else some (.v (.int k (a.tmod b))):=by simp only [ii,eO,kl,if_true]; split <;> rfl
@[go_sem] theorem LS (k a b):cd .and (.v (.int k a)) (.v (.int k b))=some (.v (.int k (k.wrap ((BitVec.ofInt k.bits a &&& BitVec.ofInt k.bits b).toNat)))):=by simp [ii,eO,kl]
@[go_sem] theorem PG (k a b):cd .or (.v (.int k a)) (.v (.int k b))=some (.v (.int k (k.wrap ((BitVec.ofInt k.bits a ||| BitVec.ofInt k.bits b).toNat)))):=by simp [ii,eO,kl]
@[go_sem] theorem UV (k k' a b):cd .shl (.v (.int k a)) (.v (.int k' b))=if b < 0 then none else some (.v (.int k (k.wrap (a*2 ^ (min b.toNat k.bits))))):=by simp only [ii,eO,RM]; split <;> rfl
@[go_sem] theorem CZ (k k' a b):cd .shr (.v (.int k a)) (.v (.int k' b))=if b < 0 then none else some (.v (.int k (a.fdiv (2 ^ (min b.toNat k.bits))))):=by simp only [ii,eO,RN]; split <;> rfl
@[go_sem] theorem aht (k a b):cd .lss (.v (.int k a)) (.v (.int k b))=some (B (decide (a < b))):=by simp [ii,eO,kl]
@[go_sem] theorem ahu (k a b):cd .leq (.v (.int k a)) (.v (.int k b))=some (B (decide (a≤b))):=by simp [ii,eO,kl]
@[go_sem] theorem ahv (k a b):cd .gtr (.v (.int k a)) (.v (.int k b))=some (B (decide (b < a))):=by simp [ii,eO,kl]
@[go_sem] theorem ahw (k a b):cd .geq (.v (.int k a)) (.v (.int k b))=some (B (decide (b≤a))):=by simp [ii,eO,kl]
@[go_sem] theorem ahx (k a b):cd .eql (.v (.int k a)) (.v (.int k b))=some (B (decide (a=b))):=by simp [ii,eO,kl]; rfl
@[go_sem] theorem ahy (k a b):cd .neq (.v (.int k a)) (.v (.int k b))=some (B (!decide (a=b))):=by simp [ii,eO,kl,bne]; rfl
@[go_sem] theorem ajy (k a):Hc .neg (.v (.int k a))=some (.v (.int k (k.wrap (0 - a)))):=_root_.id rfl
@[go_sem] theorem ajz (k a):Hc .xor (.v (.int k a))=some (.v (.int k (k.wrap ((BitVec.ofInt k.bits (if k.signed then -1 else k.max) ^^^ BitVec.ofInt k.bits a).toNat)))):=_root_.id rfl
@[go_sem] theorem ahz (k a b):cd .xor (.v (.int k a)) (.v (.int k b))=some (.v (.int k (k.wrap ((BitVec.ofInt k.bits a ^^^ BitVec.ofInt k.bits b).toNat)))):=by simp [ii,eO,kl]
@[go_sem] theorem ajA (b):Hc .not (.v (.bool b))=some (B (!b)):=_root_.id rfl
@[go_sem] theorem ajB (k k' n):O2 k (.v (.int k' n))=some (.v (.int k (k.wrap n))):=_root_.id rfl
@[go_sem] theorem adc (o id sub k i j):o9 o (.ref id sub k i j)=some (.ref id sub k i (j+o)):=_root_.id rfl
@[go_sem] theorem ade (o cs):o9 o (.ipt cs)=some (.ipt (cs.drop o)):=_root_.id rfl
@[go_sem] theorem ahA (o k g cs):Hd o k g (.agg cs)=ig k g cs o:=_root_.id rfl
@[go_sem] theorem abF (k cs o):ig k false cs o=cs[o]?:=_root_.id rfl
@[go_sem] theorem adf (k cs o):ig k true cs o=if o+k≤cs.length then some (.agg ((cs.drop o).take k)) else none:=_root_.id rfl
@[go_sem] theorem ahB (k rows k' i):lY k (.sl k rows) (.v (.int k' i))=aN rows i:=by simp [lY]
@[go_sem] theorem adg (k id sub lo n k' i):lY k (.rsl id sub k lo n) (.v (.int k' i))=if 0≤i∧i < n then some (.ref id sub k (lo+i.toNat) 0) else none:=by simp [lY]
@[go_sem] theorem abG (n k id sub k' a j kk i):sZ n k (.ref id sub k' a j) (.v (.int kk i))=if 0≤i∧i < n then some (.ref id sub k' a (j+i.toNat*k)) else none:=_root_.id rfl
@[go_sem] theorem abH (n k cs kk i):sZ n k (.ipt cs) (.v (.int kk i))=if 0≤i∧i < n then some (.ipt (cs.drop (i.toNat*k))) else none:=_root_.id rfl
@[go_sem] theorem ahC (i vs):He i (.tup vs)=vs[i]?:=_root_.id rfl
@[go_sem] theorem ajC (k rows):jR false (.sl k rows)=some (I rows.length):=_root_.id rfl
@[go_sem] theorem ahD:jR false .emp=some (I 0):=_root_.id rfl
@[go_sem] theorem ahE (a b c d n):jR false (.rsl a b c d n)=some (I n):=_root_.id rfl
@[go_sem] theorem ahF (x):jR true (.v (.string x))=some (I x.size):=_root_.id rfl
@[go_sem] theorem adh (m a):sv m a []=some a:=_root_.id rfl
@[go_sem] theorem abI (m a b l):sv m a (b::l)=(CQ m a b).bind fun c=>sv m c l:=_root_.id rfl
@[go_sem] theorem ahG (k k' x y):CQ true (.v (.int k x)) (.v (.int k' y))=some (.v (.int k (if y < x then y else x))):=_root_.id rfl
@[go_sem] theorem ahH (k k' x y):CQ false (.v (.int k x)) (.v (.int k' y))=some (.v (.int k (if x < y then y else x))):=_root_.id rfl
@[go_sem] theorem adi (m a b):Hb m 0 (.v (.bool a)) (.v (.bool b))=some (B (m != (a == b))):=_root_.id rfl
@[go_sem] theorem abJ (z):no z []=some z:=_root_.id rfl
@[go_sem] theorem ZS (z o k a ps):no z ((o,k,a)::ps)=(dv a).bind fun cs=>if cs.length=k∧o+k≤z.length then no (setRow z o cs) ps else none:=_root_.id rfl
@[go_sem] theorem abK (cs):dv (.agg cs)=some cs:=_root_.id rfl
@[go_sem] theorem ahI (x):dv (.v x)=some [.v x]:=_root_.id rfl
@[go_sem] theorem abL:dv .emp=some [.emp]:=_root_.id rfl
@[go_sem] theorem adj (k r):dv (.sl k r)=some [.sl k r]:=_root_.id rfl
@[go_sem] theorem abM (a b c d e):dv (.rsl a b c d e)=some [.rsl a b c d e]:=_root_.id rfl
@[go_sem] theorem abN (a b c d e):dv (.ref a b c d e)=some [.ref a b c d e]:=_root_.id rfl
@[go_sem] theorem adk (f a b):dv (.fn f a b)=some [.fn f a b]:=_root_.id rfl
@[go_sem] theorem ZT (r j):setRow r j []=r:=_root_.id rfl
@[go_sem] theorem YX (r j c cs):setRow r j (c::cs)=setRow (r.set j c) (j+1) cs:=_root_.id rfl
@[go_sem] theorem adl (h k g cs):dU h k g (.ipt cs)=(ig k g cs 0).map fun a=>(a,h,[]):=_root_.id rfl
@[go_sem] theorem adm (h k g id k0 i j):dU h k g (.ref id none k0 i j)=pc h k g id k0 i j (h id):=_root_.id rfl
@[go_sem] theorem adn (h k g id p k0 i j):dU h k g (.ref id (some p) k0 i j)=j4 h k g k0 i j (oI p (h id)):=_root_.id rfl
@[go_sem] theorem ado (h k g id k0 i j cs):pc h k g id k0 i j (.bx cs)=tS h id (i*k0+j) k g cs:=_root_.id rfl
@[go_sem] theorem adp (h k g id k0 i j k' rows):pc h k g id k0 i j (.ar k' rows)=j4 h k g k0 i j (some (k',rows)):=_root_.id rfl
@[go_sem] theorem adq (h k g id k0 i j k' rows):pc h k g id k0 i j (.fz k' rows)=j4 h k g k0 i j (some (k',rows)):=_root_.id rfl
@[go_sem] theorem ZU (h id p k cs):tS h id p k false cs=(cs[p]?).map fun c=>(pb id p c,h,[]):=_root_.id rfl
@[go_sem] theorem abO (h id p k cs):tS h id p k true cs=if p+k≤cs.length then (if ((cs.drop p).take k).any aO then some (.agg (((cs.map hF).drop p).take k),upd h id (.bx (cs.map hF)),[(id,true)]) else some (.agg ((cs.drop p).take k),h,[])) else none:=_root_.id rfl
@[go_sem] theorem ahJ (id p x):pb id p (.v x) = .v x:=_root_.id rfl
@[go_sem] theorem abP (id p):pb id p .emp = .emp:=_root_.id rfl
@[go_sem] theorem adr (id p k r):pb id p (.sl k r) = .sl k r:=_root_.id rfl
@[go_sem] theorem abQ (id p a b c d e):pb id p (.ref a b c d e) = .ref a b c d e:=_root_.id rfl
@[go_sem] theorem ads (id p f a b):pb id p (.fn f a b) = .fn f a b:=_root_.id rfl
@[go_sem] theorem abR (id p k r):pb id p (.osl k r) = .rsl id (some p) k 0 r.length:=_root_.id rfl
@[go_sem] theorem ZV (h k g i j k' rows):j4 h k g k' i j (some (k',rows))=(rows[i]?).bind fun row=>(ig k g row j).map fun a=>(a,h,[]):=by simp [j4]
@[go_sem] theorem ahK (x):aO (.v x)=false:=_root_.id rfl
@[go_sem] theorem abS:aO .emp=false:=_root_.id rfl
@[go_sem] theorem adt (k r):aO (.sl k r)=false:=_root_.id rfl
@[go_sem] theorem abT (k r):aO (.osl k r)=true:=_root_.id rfl
@[go_sem] theorem abU (a b c d e):aO (.ref a b c d e)=false:=_root_.id rfl
@[go_sem] theorem adu (f a b):aO (.fn f a b)=false:=_root_.id rfl
@[go_sem] theorem ajD (x):aA (.v x)=true:=_root_.id rfl
@[go_sem] theorem adv:aA .emp=true:=_root_.id rfl
@[go_sem] theorem ahL (k r):aA (.sl k r)=true:=_root_.id rfl
@[go_sem] theorem adw (a b c d e):aA (.rsl a b c d e)=false:=_root_.id rfl
@[go_sem] theorem adx (a b c d e):aA (.ref a b c d e)=false:=_root_.id rfl
@[go_sem] theorem ady (f):aA (.fn f [] [])=true:=_root_.id rfl
@[go_sem] theorem ahM (cs):dat (.agg cs)=cs.all aA:=_root_.id rfl
@[go_sem] theorem alG (x):dat (.v x)=true:=_root_.id rfl
@[go_sem] theorem ahN:dat .emp=true:=_root_.id rfl
@[go_sem] theorem ajE (k r):dat (.sl k r)=true:=_root_.id rfl
@[go_sem] theorem ahO (a b c d e):dat (.rsl a b c d e)=false:=_root_.id rfl
@[go_sem] theorem ahP (a b c d e):dat (.ref a b c d e)=false:=_root_.id rfl
@[go_sem] theorem ahQ (f):dat (.fn f [] [])=true:=_root_.id rfl
@[go_sem] theorem adz (h d cs ks):fE h d cs ks=qZ h d (.ref d none 0 0 0) (.bx cs) ks (h d):=_root_.id rfl
@[go_sem] theorem abV (h d a o ks):qZ h d a o ks .dead=some (a,upd h d o,ks):=_root_.id rfl
@[go_sem] theorem ZW (h d k rows n ks):dt h d k rows n ks=qZ h d (.rsl d none k 0 n) (.ar k rows) ks (h d):=_root_.id rfl
@[go_sem] theorem ajF (h d k x):q8 h d k x=(dv x).bind fun xs=>if xs.length=k then (if xs.all aA then fE h d xs [] else (fE h d (List.replicate k .any) []).bind (RQ d 0 xs)) else none:=_root_.id rfl
@[go_sem] theorem Xi (k h rows):cM k h rows []=some (rows,h,[]):=_root_.id rfl
@[go_sem] theorem Wr (k h rows i a ps):cM k h rows ((i,a)::ps)=(dv a).bind fun cs=>if cs.length=k∧i < rows.length then (dC h cs).bind fun q=>(cM k q.2.1 (rows.set i q.1) ps).bind fun r=>some (r.1,r.2.1,q.2.2++r.2.2) else none:=_root_.id rfl
@[go_sem] theorem abW (h):dC h []=some ([],h,[]):=_root_.id rfl
@[go_sem] theorem ZX (h a l):dC h (a::l)=(eP h a).bind fun p=>(dC p.2.1 l).bind fun q=>some (p.1::q.1,q.2.1,p.2.2++q.2.2):=_root_.id rfl
@[go_sem] theorem ajG (h x):eP h (.v x)=some (.v x,h,[]):=_root_.id rfl
@[go_sem] theorem adA (h):eP h .emp=some (.emp,h,[]):=_root_.id rfl
@[go_sem] theorem ahR (h k r):eP h (.sl k r)=some (.sl k r,h,[]):=_root_.id rfl
@[go_sem] theorem ahS (h f):eP h (.fn f [] [])=some (.fn f [] [],h,[]):=_root_.id rfl
@[go_sem] theorem adB (h id k lo n):eP h (.rsl id none k lo n)=lP h id k lo n (h id):=_root_.id rfl
@[go_sem] theorem abX (h id p k lo n):eP h (.rsl id (some p) k lo n)=v6 h id p k lo n (h id):=_root_.id rfl
@[go_sem] theorem ahT (h id k lo n rows):lP h id k lo n (.ar k rows)=if lo+n≤rows.length then some (jT k lo n rows,upd h id (.fz k rows),[]) else none:=by simp [lP]
@[go_sem] theorem ahU (h id k lo n rows):lP h id k lo n (.fz k rows)=if lo+n≤rows.length then some (jT k lo n rows,h,[]) else none:=by simp [lP]
@[go_sem] theorem ahV (k lo n rows):jT k lo n rows = .sl k ((rows.drop lo).take n):=_root_.id rfl
@[go_sem] theorem abY (h k id k0 i j x):fD h k (.ref id none k0 i j) x=(dv x).bind fun xs=>if xs.length=k then sx h k id k0 i j xs (h id) else none:=_root_.id rfl
@[go_sem] theorem abZ (h k id p k0 i j x):fD h k (.ref id (some p) k0 i j) x=(dv x).bind fun xs=>if xs.length=k then (dC h xs).bind fun q=>A8 q.2.1 k id p k0 i j q.1 q.2.2 (q.2.1 id) else none:=_root_.id rfl
@[go_sem] theorem ahW (h k id k0 i j xs cs):sx h k id k0 i j xs (.bx cs)=CR h id (i*k0+j) k xs cs:=_root_.id rfl
@[go_sem] theorem ahX (h k id k0 i j xs k' rows):sx h k id k0 i j xs (.ar k' rows)=(dC h xs).bind fun q=>CS q.2.1 id k k0 i j q.1 q.2.2 (q.2.1 id):=_root_.id rfl
@[go_sem] theorem ahY (h id k k0 i j xs ks k' rows):CS h id k k0 i j xs ks (.ar k' rows)=(zo k k0 i j xs k' rows).map fun q=>(.und,upd h id (.ar k' q),ks):=_root_.id rfl
@[go_sem] theorem ahZ (k k0 i j cs rows):zo k k0 i j cs k0 rows=(rows[i]?).bind fun row=>if j+k≤row.length then some (rows.set i (setRow row j cs)) else none:=by simp [zo]
@[go_sem] theorem ah0 (h id p k xs cs):CR h id p k xs cs=if p+k≤cs.length then (if xs.all aA then some (.und,upd h id (.bx (setRow cs p xs)),if ((cs.drop p).take k).any aO then [(id,true)] else []) else (pq h id p xs.length xs).map fun q=>(.und,q.1,q.2)) else none:=_root_.id rfl
@[go_sem] theorem ah1 (hs x):eK hs (.v x) = .v x:=_root_.id rfl
@[go_sem] theorem ab0 (hs):eK hs .emp = .emp:=_root_.id rfl
@[go_sem] theorem adC (hs k r):eK hs (.sl k r) = .sl k r:=_root_.id rfl
@[go_sem] theorem ab1 (hs):eK hs .any = .any:=_root_.id rfl
@[go_sem] theorem ab2 (hs cs):eK hs (.ipt cs) = .ipt cs:=_root_.id rfl
@[go_sem] theorem ab3 (hs id sub k lo n):eK hs (.rsl id sub k lo n)=if hs.contains id then .rsl id sub k lo n else .any:=_root_.id rfl
@[go_sem] theorem ab4 (hs id sub k lo n):eK hs (.ref id sub k lo n)=if hs.contains id then .ref id sub k lo n else .any:=_root_.id rfl
@[go_sem] theorem ab5 (hs cs):eK hs (.agg cs)=if cs.all (knownL hs) then .agg cs else .any:=_root_.id rfl
@[go_sem] theorem ab6 (hs f):eK hs (.fn f [] []) = .fn f [] []:=_root_.id rfl
@[go_sem] theorem adD (hs f a b):eK hs (.fn f a b)=if a.all (knownL hs) && b.all (knownL hs) then .fn f a b else .any:=_root_.id rfl
@[go_sem] theorem adE (hs x):knownL hs (.v x)=true:=_root_.id rfl
@[go_sem] theorem ZY (hs):knownL hs .emp=true:=_root_.id rfl
@[go_sem] theorem ab7 (hs k r):knownL hs (.sl k r)=true:=_root_.id rfl
@[go_sem] theorem ZZ (hs id a b c d):knownL hs (.ref id a b c d)=hs.contains id:=_root_.id rfl
@[go_sem] theorem Xj (hs):bq hs .dead=true:=_root_.id rfl
@[go_sem] theorem Z0 (hs k r):bq hs (.ar k r)=true:=_root_.id rfl
@[go_sem] theorem Z3 (hs k r):bq hs (.fz k r)=true:=_root_.id rfl
@[go_sem] theorem Z4 (hs cs):bq hs (.bx cs)=cs.all (cZ hs):=_root_.id rfl
@[go_sem] theorem ab8 (hs x):cZ hs (.v x)=true:=_root_.id rfl
@[go_sem] theorem YY (hs):cZ hs .emp=true:=_root_.id rfl
@[go_sem] theorem Z5 (hs k r):cZ hs (.sl k r)=true:=_root_.id rfl
@[go_sem] theorem YZ (hs k r):cZ hs (.osl k r)=true:=_root_.id rfl
@[go_sem] theorem Y0 (hs id a b c):cZ hs (.ref id none a b c)=hs.contains id:=by simp [cZ,aO,aU,bc]
@[go_sem] theorem Y3 (hs f):cZ hs (.fn f [] [])=true:=_root_.id rfl
@[go_sem] theorem Z6 {α β:Type} (f:α→β) (a):Option.map f (some a)=some (f a):=_root_.id rfl
@[go_sem] theorem Z7 {α β:Type} (f:α→β):Option.map f none=none:=_root_.id rfl
@[go_sem] theorem Y4 {α β:Type} (f:α→Option β) (a):(some a).bind f=f a:=_root_.id rfl
@[go_sem] theorem Y5 {α β:Type} (f:α→Option β):(none:Option α).bind f=none:=_root_.id rfl
@[go_sem] theorem Y6 {α:Type} (a b:α):(some a).getD b=a:=_root_.id rfl
@[go_sem] theorem ab9 {α:Type} (p:α→Bool):[].all p=true:=_root_.id rfl
@[go_sem] theorem Z8 {α:Type} (p:α→Bool) (a l):(a::l).all p=(p a && l.all p):=_root_.id rfl
@[go_sem] theorem aca {α:Type} (p:α→Bool):[].any p=false:=_root_.id rfl
@[go_sem] theorem Z9 {α:Type} (p:α→Bool) (a l):(a::l).any p=(p a || l.any p):=_root_.id rfl
@[go_sem] theorem aaa {α:Type} (a:α) (l):(a::l)[0]?=some a:=_root_.id rfl
@[go_sem] theorem aab {α:Type} (a:α) (l) (n:Nat):(a::l)[n+1]?=l[n]?:=_root_.id rfl
@[go_sem] theorem acb {α β:Type} (f:α→β):[].map f=[]:=_root_.id rfl
@[go_sem] theorem aac {α β:Type} (f:α→β) (a l):(a::l).map f=f a::l.map f:=_root_.id rfl
@[go_sem] theorem adF {α β:Type} (f:α→List β):[].flatMap f=[]:=_root_.id rfl
@[go_sem] theorem acd {α β:Type} (f:α→List β) (a l):(a::l).flatMap f=f a++l.flatMap f:=_root_.id rfl
@[go_sem] theorem ace {α:Type} (l:List α):l++[]=l:=List.append_nil l
@[go_sem] theorem acf {α:Type} (l:List α):[]++l=l:=_root_.id rfl
@[go_sem] theorem aad {α:Type} (a:α) (l r):(a::l)++r=a::(l++r):=_root_.id rfl
@[go_sem] theorem acg {α:Type}:([]:List α).length=0:=_root_.id rfl
@[go_sem] theorem aae {α:Type} (a:α) (l):(a::l).length=l.length+1:=_root_.id rfl
@[go_sem] theorem Y7 {α:Type} (l:List α):l.drop 0=l:=_root_.id rfl
@[go_sem] theorem Y8 {α:Type} (a:α) (l) (n:Nat):(a::l).drop (n+1)=l.drop n:=_root_.id rfl
@[go_sem] theorem Y9 {α:Type} (l:List α):l.take 0=[]:=_root_.id rfl
@[go_sem] theorem Za {α:Type} (a:α) (l) (n:Nat):(a::l).take (n+1)=a::l.take n:=_root_.id rfl
@[go_sem] theorem Xk {α:Type} (p:α→Bool):[].filter p=[]:=_root_.id rfl
@[go_sem] theorem aaf {α:Type} (a b:α) (l):(a::l).set 0 b=b::l:=_root_.id rfl
@[go_sem] theorem aag {α:Type} (a b:α) (l) (n:Nat):(a::l).set (n+1) b=a::l.set n b:=_root_.id rfl
@[go_sem] theorem ajH {α:Type} (a:α):List.replicate 0 a=[]:=_root_.id rfl
@[go_sem] theorem ajI {α:Type} (a:α):List.replicate 1 a=[a]:=_root_.id rfl
@[go_sem] theorem ajJ {α:Type} (a:α):List.replicate 2 a=[a,a]:=_root_.id rfl
@[go_sem] theorem ajK {α:Type} (a:α):List.replicate 3 a=[a,a,a]:=_root_.id rfl
@[go_sem] theorem ajL {α:Type} (a:α):List.replicate 4 a=[a,a,a,a]:=_root_.id rfl
@[go_sem] theorem ajM {α:Type} (a:α):List.replicate 5 a=[a,a,a,a,a]:=_root_.id rfl
@[go_sem] theorem alO:decide True=true:=_root_.id rfl
@[go_sem] theorem alP:decide False=false:=_root_.id rfl
@[go_sem] theorem ah2 (b:Bool):(true && b)=b:=_root_.id rfl
@[go_sem] theorem ah3 (b:Bool):(false && b)=false:=_root_.id rfl
@[go_sem] theorem ajN (b:Bool):(true || b)=true:=_root_.id rfl
@[go_sem] theorem ajO (b:Bool):(false || b)=b:=_root_.id rfl
@[go_sem] theorem ah4:(!true)=false:=_root_.id rfl
@[go_sem] theorem ah5:(!false)=true:=_root_.id rfl
@[go_sem] theorem ah6 (b:Bool):(b && true)=b:=Bool.and_true b
@[go_sem] theorem alQ:(false=true)=False:=by simp
@[go_sem] theorem alH {α:Type} (a:α):(a=a)=True:=by simp
@[go_sem] theorem ajP (p:Prop):(True∧p)=p:=by simp
@[go_sem] theorem ah7 (p:Prop):(p∧True)=p:=by simp
@[go_sem] theorem ajQ (p:Prop):(False∧p)=False:=by simp
@[go_sem] theorem ajR:(¬ False)=True:=by simp
@[go_sem] theorem ajS:(¬ True)=False:=by simp
@[go_sem] theorem adG (nm rs res n t):iY nm rs res n (some (.ret,t))=q9 nm rs res n t.s t.h:=_root_.id rfl
@[go_sem] theorem Zb (nm rs res n t):iY nm rs res n (some (.normal,t))=q9 nm rs res n t.s t.h:=_root_.id rfl
@[go_sem] theorem ach (nm rs res n s h):q9 nm rs res n s h=(ns s h res).bind fun q=>if pX nm q.2.2 then CV rs n q.2.1 q.1 else none:=_root_.id rfl
@[go_sem] theorem ajT (nm:Bool):pX nm []=true:=ku nm
@[go_sem] theorem aci (s h):ns s h []=some ([],h,[]):=_root_.id rfl
@[go_sem] theorem ah8 (s h n l):ns s h (.t n::l)=(ns s h l).bind fun q=>some (Hl q.2.2 (s n)::q.1,q.2.1,q.2.2):=_root_.id rfl
@[go_sem] theorem aah (s h n k g l):ns s h (.cell n k g::l)=(dU h k g (s n)).bind fun p=>(ns (nq p.2.2 s) p.2.1 l).bind fun q=>some (Hl q.2.2 p.1::q.1,q.2.1,p.2.2++q.2.2):=_root_.id rfl
@[go_sem] theorem adH (a):Hl [] a=a:=_root_.id rfl
@[go_sem] theorem acj (s):nq [] s=s:=_root_.id rfl
@[go_sem] theorem ajU (rs h vs):CV rs 0 h vs=if iq ((vs.flatMap bY).filter fun i => !aQ i) then (qt h vs).map fun us=>(tW (bi rs us),[]) else none:=by simp [CV,b7]
@[go_sem] theorem ack (h):qt h []=some []:=_root_.id rfl
@[go_sem] theorem aai (h a l):qt h (a::l)=(mI h a).bind fun b=>(qt h l).bind fun q=>some (b::q):=_root_.id rfl
@[go_sem] theorem ajV (h x):mI h (.v x)=some (.v x):=_root_.id rfl
@[go_sem] theorem adI (h):mI h .emp=some .emp:=_root_.id rfl
@[go_sem] theorem ah9 (h k r):mI h (.sl k r)=some (.sl k r):=_root_.id rfl
@[go_sem] theorem adJ (h cs):mI h (.agg cs)=(fN h cs).map .agg:=_root_.id rfl
@[go_sem] theorem adK (h id k lo n):mI h (.rsl id none k lo n)=if aQ id then none else sy k lo n (h id):=_root_.id rfl
@[go_sem] theorem aia (k lo n rows):sy k lo n (.ar k rows)=if lo+n≤rows.length then (if lo=0∧n=rows.length then some (.osl k rows) else some (jT k lo n rows)) else none:=by simp [sy]
@[go_sem] theorem aib (k lo n rows):sy k lo n (.fz k rows)=if lo+n≤rows.length then some (jT k lo n rows) else none:=by simp [sy]
@[go_sem] theorem acl (h):fN h []=some []:=_root_.id rfl
@[go_sem] theorem aic (h x l):fN h (.v x::l)=(fN h l).bind fun q=>some (.v x::q):=_root_.id rfl
@[go_sem] theorem acm (h l):fN h (.emp::l)=(fN h l).bind fun q=>some (.emp::q):=_root_.id rfl
@[go_sem] theorem adL (h k r l):fN h (.sl k r::l)=(fN h l).bind fun q=>some (.sl k r::q):=_root_.id rfl
@[go_sem] theorem acn (h id k lo n l):fN h (.rsl id none k lo n::l)=(gB h (.rsl id none k lo n)).bind fun b=>(pZ b).bind fun c=>(fN h l).bind fun q=>some (c::q):=_root_.id rfl
@[go_sem] theorem adM (h id k lo n):gB h (.rsl id none k lo n)=if aQ id then none else sy k lo n (h id):=_root_.id rfl
@[go_sem] theorem adN (k r):pZ (.osl k r)=some (.sl k r):=_root_.id rfl
@[go_sem] theorem aid (k r):pZ (.sl k r)=some (.sl k r):=_root_.id rfl
@[go_sem] theorem aie (a):tW [a]=a:=_root_.id rfl
@[go_sem] theorem aif (a b l):tW (a::b::l) = .tup (a::b::l):=_root_.id rfl
@[go_sem] theorem aig:tW [] = .tup []:=_root_.id rfl
@[go_sem] theorem aco (l):bi [] l=l:=by cases l <;> simp [bi]
@[go_sem] theorem aaj (s):bi s []=[]:=by cases s <;> simp [bi]
@[go_sem] theorem aak (s ss a l):bi (s::ss) (a::l)=nrmV s a::bi ss l:=_root_.id rfl
@[go_sem] theorem Sk (a):nrmV [] a=a:=by cases a <;> simp [nrmV,nrmL,b9]
@[go_sem] theorem adO (ss cs):nrmV ss (.agg cs) = .agg (b9 ss cs):=_root_.id rfl
@[go_sem] theorem ajW (ss x):nrmV ss (.v x) = .v x:=by
 show nrmL _ _=_
 generalize ss.headD (.o 0 [])=s
 obtain ⟨k,cs⟩:=s
 cases k <;> simp [nrmL]
@[go_sem] theorem adP (k cs ss):nrmV (.o (k+1) cs::ss) .emp = .sl k []:=by simp [nrmV,nrmL]
@[go_sem] theorem aih (k cs ss k' rows):nrmV (.o (k+1) cs::ss) (.sl k' rows) = .sl k' (rows.map (b9 cs)):=by simp [nrmV,nrmL]
@[go_sem] theorem adQ (k cs ss k' rows):nrmV (.o (k+1) cs::ss) (.osl k' rows) = .sl k' (rows.map (b9 cs)):=by simp [nrmV,nrmL]
@[go_sem] theorem Sl (l):b9 [] l=l:=by cases l <;> simp [b9]
@[go_sem] theorem acp (l):b9 l []=[]:=by cases l <;> simp [b9]
@[go_sem] theorem acq (s ss a l):b9 (s::ss) (a::l)=nrmL s a::b9 ss l:=by simp [b9]
@[go_sem] theorem ajX (cs a):nrmL (.o 0 cs) a=a:=by simp [nrmL]
@[go_sem] theorem adR (k cs):nrmL (.o (k+1) cs) .emp = .sl k []:=by simp [nrmL]
@[go_sem] theorem aii (k cs k' rows):nrmL (.o (k+1) cs) (.sl k' rows) = .sl k' (rows.map (b9 cs)):=by simp [nrmL]
@[go_sem] theorem ajY (k cs x):nrmL (.o k cs) (.v x) = .v x:=by cases k <;> simp [nrmL]
@[go_sem] theorem ajZ (x):bY (.v x)=[]:=_root_.id rfl
@[go_sem] theorem adS:bY .emp=[]:=_root_.id rfl
@[go_sem] theorem aij (k r):bY (.sl k r)=[]:=_root_.id rfl
@[go_sem] theorem adT (cs):bY (.agg cs)=cs.flatMap fJ:=_root_.id rfl
@[go_sem] theorem adU (a b c d e):bY (.rsl a b c d e)=[a]:=_root_.id rfl
@[go_sem] theorem aj0 (x):fJ (.v x)=[]:=_root_.id rfl
@[go_sem] theorem adV:fJ .emp=[]:=_root_.id rfl
@[go_sem] theorem aik (k r):fJ (.sl k r)=[]:=_root_.id rfl
@[go_sem] theorem adW (a b c d e):fJ (.rsl a b c d e)=[a]:=_root_.id rfl
@[go_sem] theorem aal:iq []=true:=_root_.id rfl
@[go_sem] theorem aam (a):iq [a]=true:=_root_.id rfl
@[go_sem] theorem ail (args i):re args i=(args[i]?).getD .any:=_root_.id rfl
@[go_sem] theorem No:ax []=fun _ => .dead:=by funext i; simp [ax]
@[go_sem] theorem acr (i):aQ i=decide (1000≤i∧i < 2000):=_root_.id rfl
def ja (h:ac) (d:Nat):Option (AV × List Ob)→Option R3
 | some (r,[])=>if dH r≤8∧fK h (2000+8*d) (dH r)=true∧iV [] r=true then some ((mat (2000+8*d) h r).1,(mat (2000+8*d) h r).2,[]) else none
 | _=>none
theorem fj {c:AV} {ids:List Nat} {n:Nat} (hn:2000≤n) (hc:bc [] c=true∨(∃ k lo m,c = .rsl n none k lo m)∨∃ k i j,c = .ref n none k i j):mH (bW ids) c=c:=by
 have hb:bW ids n=n:=by unfold bW; rw [if_neg (by omega)]
 rcases hc with hc | ⟨k,lo,m,rfl⟩ | ⟨k,i,j,rfl⟩
 ·cases c <;> simp [bc] at hc <;> rfl
 ·simp [mH,hb]
 ·simp [mH,hb]
theorem EZ {r:AV} {n:Nat} (hn:2000≤n) (h:ac) (ids:List Nat) (hr:eR [] r=true):eQ (bW ids) (cD n h r).1=(cD n h r).1:=by
 cases r <;> simp only [eR] at hr <;> simp only [cD]
 case osl=>simp only [eQ]; exact fj hn (.inr (.inl ⟨_,_,_,rfl⟩))
 case obx=>simp only [eQ]; exact fj hn (.inr (.inr ⟨_,_,_,rfl⟩))
 case agg cs =>
  simp only [aU,List.all_eq_true] at hr
  simp only [eQ,AV.agg.injEq]
  exact (List.map_congr_left (g:=fun c=>c) fun c hc=>fj hn (.inl (hr c hc))).trans (List.map_id' cs)
 case fn f x y =>
  simp only [aU,Bool.and_eq_true,List.all_eq_true] at hr
  simp only [eQ,AV.fn.injEq,true_and]
  exact ⟨(List.map_congr_left (g:=fun c=>c) fun c hc=>fj hn (.inl (hr.1 c hc))).trans (List.map_id' x),(List.map_congr_left (g:=fun c=>c) fun c hc=>fj hn (.inl (hr.2 c hc))).trans (List.map_id' y)⟩
 all_goals
  simp only [eQ]
  exact fj hn (.inl hr)
theorem E2 (ids:List Nat):∀ {l:List AV} {n:Nat} {h:ac},2000≤n→l.all (eR [])=true→(br n h l).1.map (eQ (bW ids))=(br n h l).1
 | [],n,h,_,_=>rfl
 | c::l,n,h,hn,hr=>by
  simp only [List.all_cons,Bool.and_eq_true] at hr
  simp only [br,List.map_cons]
  rw [EZ hn h ids hr.1,E2 ids (by omega) hr.2]
theorem Sm {r:AV} {n:Nat} (hn:2000≤n) (h:ac) (ids:List Nat) (hr:iV [] r=true):RU (bW ids) (mat n h r).1=(mat n h r).1:=by
 cases r with
 | tup vs =>
  simp only [iV] at hr
  simp only [mat,RU,AV.tup.injEq]
  exact E2 ids hn hr
 | _ =>
  simp only [iV] at hr
  have:=EZ hn h ids hr
  simp only [mat]
  simp only [cD] at this ⊢
  exact this
theorem E3:∀ l:List AV,tU [] l=[]
 | []=>rfl
 | a::l=>by simp [tU,E3 l]
theorem r9 {f:FuncId} {args:List AV} (d:Nat) (hm:md.m f=[]) (hd:args.all dat=true):dP call md h d args (.fn f [] [])=ja h d (call f (bi (md.sh f) args) []):=by
 have hin:dV h [] args=some (args,h,[]):=by
  have:∀ (l:List AV),l.all dat=true→dV h [] l=some (l,h,[]):=by
   intro l
   induction l with
   | nil=>intro _; rfl
   | cons a l ih =>
    intro hd
    simp only [List.all_cons,Bool.and_eq_true] at hd
    have ha:cJ h 0 a=some (a,h,[]):=by
     have h1:=hd.1
     by_cases hagg:∃ cs,a = .agg cs
     ·obtain ⟨cs,rfl⟩:=hagg
      simp only [dat] at h1
      simp only [cJ,qY]
      rw [gN h1 h]
      rfl
     ·have h2:aA a=true:=by cases a <;> first | exact h1 | exact absurd ⟨_,rfl⟩ hagg
      cases a <;> first | (simp [aA] at h2; done) | rfl | skip
    simp only [dV,List.headD_nil,ha,Option.bind_some,List.tail_nil,ih hd.2,List.append_nil]
  exact this args hd
 have hids:args.flatMap bY=[]:=by
  rw [List.flatMap_eq_nil_iff]
  exact fun c hc=>Hy (List.all_eq_true.1 hd c hc)
 have hren:(bi (md.sh f) args).map (eQ (bo []))=bi (md.sh f) args∧(bi (md.sh f) args).all (aU [])=true:=by
  have key:∀ c ∈ bi (md.sh f) args,dat c=true:=by
   intro c hc
   obtain ⟨i,hi⟩:=List.getElem?_of_mem hc
   obtain ⟨c0,h1,h2⟩:=pB _ _ _ _ hi
   have h0:=List.all_eq_true.1 hd c0 (List.mem_of_getElem? h1)
   rcases h2 with rfl | ⟨ss,rfl⟩
   ·exact h0
   ·cases c0 <;> simp only [dat] at h0 <;> simp only [nrmV,dat] <;> try (have:=rk (s:=ss.headD (.o 0 [])) h0; revert this; generalize nrmL _ _=q; intro this; cases q <;> first | exact this | simp [aA] at this)
    rename_i cs
    rw [List.all_eq_true]
    intro c hc
    obtain ⟨i,hi⟩:=List.getElem?_of_mem hc
    obtain ⟨c0,h1,h2⟩:=rj _ _ _ _ hi
    have h3:=List.all_eq_true.1 h0 c0 (List.mem_of_getElem? h1)
    rcases h2 with rfl | ⟨s,rfl⟩
    ·exact h3
    ·exact rk h3
  refine ⟨(List.map_congr_left (g:=fun c=>c) fun c hc => ?_).trans (List.map_id' _),?_⟩
  ·have:=key c hc
   cases c <;> simp only [dat] at this <;> first | rfl | skip
   all_goals first
    | (simp [aA] at this; done)
    | skip
   ·rename_i cs
    simp only [eQ,AV.agg.injEq]
    refine (List.map_congr_left (g:=fun c=>c) fun c hc => ?_).trans (List.map_id' cs)
    have h3:=List.all_eq_true.1 this c hc
    cases c <;> simp [aA] at h3 <;> rfl
   ·rename_i g x y
    simp [aA] at this
    obtain ⟨rfl,rfl⟩:=this
    rfl
  ·rw [List.all_eq_true]
   intro c hc
   have:=key c hc
   cases c <;> simp only [dat] at this <;> first | rfl | skip
   all_goals first
    | (simp [aA] at this; done)
    | skip
   ·rename_i cs
    simp only [aU,List.all_eq_true]
    intro c hc
    have h3:=List.all_eq_true.1 this c hc
    cases c <;> simp [aA] at h3 <;> simp [bc,h3]
   ·rename_i g x y
    simp [aA] at this
    obtain ⟨rfl,rfl⟩:=this
    rfl
 simp only [dP,hm,List.nil_append,List.append_nil,hin,Option.bind_some,hids,dW,EP,rY,hren.2,List.all_nil,Bool.and_self,if_true,hren.1,List.map_nil,E3]
 cases hr:call f (bi (md.sh f) args) [] with
 | none=>rfl
 | some q =>
  obtain ⟨r,os⟩:=q
  cases os with
  | cons o os=>simp only [Option.bind_some,kV,ja]; simp
  | nil =>
   simp only [Option.bind_some,kV,ja,List.length_nil,Nat.zero_le,true_and,kU,MM,W0,List.all_nil,Bool.true_and,Bool.and_true,yD,b7,List.range'_zero,dO,gz]
   by_cases hc:dH r≤8∧fK h (2000+8*d) (dH r)=true∧iV [] r=true
   ·rw [if_pos hc,if_pos hc,Sm (by omega) h [] hc.2.2]
    simp
   ·rw [if_neg hc,if_neg hc]
def Np (call:er) (md:Mode) (d:Nat) (f:FuncId) (p:List AV × ac × K):Option R3 :=
 rY call md p.2.1 d f (el p.2.1 40 (dW [] (p.1.flatMap bY)) 0) (bi (md.sh f) p.1) p.2.2
theorem HU {f:FuncId} {args:List AV} (d:Nat) (hm:md.m f=[]):dP call md h d args (.fn f [] [])=(dV h [] args).bind (Np call md d f):=by
 simp only [dP,hm,List.nil_append,List.append_nil]
 rfl
@[go_sem] theorem acs {f:FuncId} {zs:List AV} (d:Nat) (hm:md.m f=[]) (hd:zs.all dat=true):Np call md d f (zs,h,[])=ja h d (call f (bi (md.sh f) zs) []):=by
 rw [← r9 d hm hd,HU d hm]
 have hin:∀ (l:List AV),l.all dat=true→dV h [] l=some (l,h,[]):=by
  intro l
  induction l with
  | nil=>intro _; rfl
  | cons a l ih =>
   intro hd
   simp only [List.all_cons,Bool.and_eq_true] at hd
   have ha:cJ h 0 a=some (a,h,[]):=by
    have h1:=hd.1
    by_cases hagg:∃ cs,a = .agg cs
    ·obtain ⟨cs,rfl⟩:=hagg
     simp only [dat] at h1
     simp only [cJ,qY]
     rw [gN h1 h]
     rfl
    ·have h2:aA a=true:=by cases a <;> first | exact h1 | exact absurd ⟨_,rfl⟩ hagg
     cases a <;> first | (simp [aA] at h2; done) | rfl | skip
   simp only [dV,List.headD_nil,ha,Option.bind_some,List.tail_nil,ih hd.2,List.append_nil]
 rw [hin zs hd]
 rfl
@[go_sem] theorem aan (h):dV h [] []=some ([],h,[]):=_root_.id rfl
@[go_sem] theorem Zc (h a l):dV h [] (a::l)=(cJ h 0 a).bind fun p=>(dV p.2.1 [] l).bind fun q=>some (p.1::q.1,q.2.1,p.2.2++q.2.2):=_root_.id rfl
@[go_sem] theorem aim (h x):cJ h 0 (.v x)=some (.v x,h,[]):=_root_.id rfl
@[go_sem] theorem act (h):cJ h 0 .emp=some (.emp,h,[]):=_root_.id rfl
@[go_sem] theorem adX (h k r):cJ h 0 (.sl k r)=some (.sl k r,h,[]):=_root_.id rfl
@[go_sem] theorem adY (h f a b):cJ h 0 (.fn f a b)=some (.fn f a b,h,[]):=_root_.id rfl
@[go_sem] theorem acu (h a b c d):cJ h 0 (.ref a none b c d)=some (.ref a none b c d,h,[]):=_root_.id rfl
@[go_sem] theorem acv (h cs):cJ h 0 (.ipt cs)=some (.ipt cs,h,[]):=_root_.id rfl
@[go_sem] theorem acw (h id k lo n):cJ h 0 (.rsl id none k lo n)=lP h id k lo n (h id):=_root_.id rfl
@[go_sem] theorem aao (h id p k lo n):cJ h 0 (.rsl id (some p) k lo n)=v6 h id p k lo n (h id):=_root_.id rfl
@[go_sem] theorem acx (h cs):cJ h 0 (.agg cs)=(dC h cs).bind fun p=>some (.agg p.1,p.2):=_root_.id rfl
@[go_sem] theorem ain (h d x):ja h d (some (.v x,[]))=if fK h (2000+8*d) 1=true then some (.v x,h,[]) else none:=by
 simp [ja,dH,iV,eR,aU,bc,mat,cD]
@[go_sem] theorem Sn (h d k r):ja h d (some (.sl k r,[]))=if fK h (2000+8*d) 1=true then some (.sl k r,h,[]) else none:=by
 simp [ja,dH,iV,eR,aU,bc,mat,cD]
@[go_sem] theorem acy (h d cs) (hd:cs.all aA=true):ja h d (some (.agg cs,[]))=if fK h (2000+8*d) 1=true then some (.agg cs,h,[]) else none:=by
 have:cs.all (bc [])=true:=by
  rw [List.all_eq_true] at hd ⊢
  intro c hc
  have:=hd c hc
  cases c <;> simp [aA] at this <;> simp [bc,this]
 simp only [ja,dH,iV,eR,aU,mat,cD,this,and_true]
 simp
@[go_sem] theorem acz (h d vs) (h8:vs.length≤8) (hd:vs.all dat=true):ja h d (some (.tup vs,[]))=if fK h (2000+8*d) vs.length=true then some (.tup vs,h,[]) else none:=by
 have h1:vs.all (eR [])=true:=by
  rw [List.all_eq_true] at hd ⊢
  intro c hc
  have:=hd c hc
  cases c <;> simp only [dat] at this <;> simp only [eR,aU] <;> try (simp [aA] at this <;> simp [bc,this]; done)
  rename_i cs
  rw [List.all_eq_true] at this ⊢
  intro c hc
  have:=this c hc
  cases c <;> simp [aA] at this <;> simp [bc,this]
 have h2:∀ (l:List AV) (n:Nat) (g:ac),l.all dat=true→br n g l=(l,g):=by
  intro l
  induction l with
  | nil=>intro n g _; rfl
  | cons c l ih =>
   intro n g hd
   simp only [List.all_cons,Bool.and_eq_true] at hd
   have hc:cD n g c=(c,g):=by
    have:=hd.1
    cases c <;> simp only [dat,aA] at this <;> first | rfl | (cases this; done)
   simp only [br,hc,ih _ _ hd.2]
 simp only [ja,dH,iV,h1,mat,h2 vs _ _ hd,h8,true_and,and_true]
@[go_sem] theorem acA (h d k r):ja h d (some (.osl k r,[]))=if fK h (2000+8*d) 1=true then some (.rsl (2000+8*d) none k 0 r.length,upd h (2000+8*d) (.ar k r),[]) else none:=by
 simp [ja,dH,iV,eR,mat,cD]
@[go_sem] theorem aap (h n):fK h n 0=true:=_root_.id rfl
@[go_sem] theorem aaq (h n m):fK h n (m+1)=(nr (h n) && fK h (n+1) m):=_root_.id rfl
@[go_sem] theorem Zd:nr .dead=true:=_root_.id rfl
def bP (call:er) (md:Mode) (ps:List (Nat × Nat)):List Fp→List COp→aj→ac→Option St
 | acc,[],s,h=>if ps.all (qS acc)=true then some ⟨s,h⟩ else none
 | acc,o::rest,s,h=>(cr call md o s h).bind fun r=>bP call md ps (acc++[r.2]) rest r.1.s r.1.h
theorem LT (ps:List (Nat × Nat)):∀ (l:List COp) (acc:List Fp) (s:aj) (h:ac),bP call md ps acc l s h=(fM call md l s h).bind fun r=>if ps.all (qS (acc++r.2))=true then some r.1 else none
 | [],acc,s,h=>by simp only [bP,fM,Option.bind_some,List.append_nil]
 | o::l,acc,s,h=>by
  simp only [bP,fM]
  cases cr call md o s h with
  | none=>rfl
  | some r =>
   simp only [Option.bind_some]
   rw [LT ps l]
   cases fM call md l r.1.s r.1.h with
   | none=>rfl
   | some q=>simp only [Option.bind_some,List.append_assoc,List.singleton_append]
@[go_sem] theorem adZ (l ps):pf call md l ps s h=bP call md ps [] l s h:=by
 rw [LT]
 rfl
def fP (call:er) (md:Mode) (ps:List (Nat × Nat)) (acc:List Fp) (rest:List COp) (s:aj) (d:Option Nat) (f:ac→Fp):Option R3→Option St
 | some (x,h,[])=>bP call md ps (acc++[f h]) rest (dy s d x) h
 | _=>none
theorem dM (ps acc) (o:COp) (rest) (hg:o.g=none):bP call md ps acc (o::rest) s h=fP call md ps acc rest s o.d (dQ (o.d.getD 0) o.op s h) (step call md (o.d.getD 0) o.op s h):=by
 simp only [bP,cr,hg,fL]
 cases step call md (o.d.getD 0) o.op s h with
 | none=>rfl
 | some r =>
  obtain ⟨x,h',ks⟩:=r
  cases ks <;> rfl
@[go_sem] theorem ad0 (ps acc):bP call md ps acc [] s h=if ps.all (qS acc)=true then some ⟨s,h⟩ else none:=_root_.id rfl
@[go_sem] theorem xW (ps acc d op rest):bP call md ps acc (co d op::rest) s h=(dw s op).bind fun a=>bP call md ps (acc++[some ([],[])]) rest (upd s d a) h:=by
 rw [dM _ _ _ _ rfl]
 simp only [co,step,tV]
 cases dw s op <;> rfl
@[go_sem] theorem aio (ps acc d n rest):bP call md ps acc (cm d n::rest) s h=bP call md ps (acc++[some ([],[])]) rest (upd s d (s n)) h:=xW ps acc d (.mv (.t n)) rest
@[go_sem] theorem acB (ps acc d k g x rest):bP call md ps acc (⟨some d,none,.load k g x⟩::rest) s h=fP call md ps acc rest s (some d) (fun _=>ko (ev s x)) (dU h k g (ev s x)):=dM _ _ _ _ rfl
@[go_sem] theorem aar (ps acc d k x y rest):bP call md ps acc (⟨d,none,.store k x y⟩::rest) s h=fP call md ps acc rest s d (fun _=>pe (ev s y) (ev s x)) (fD h k (ev s x) (ev s y)):=dM _ _ _ _ rfl
@[go_sem] theorem acC (ps acc d f as rest):bP call md ps acc (⟨some d,none,.call f as⟩::rest) s h=fP call md ps acc rest s (some d) (jt h d (pt (as.map (ev s)) (ev s f))) (dP call md h d (as.map (ev s)) (ev s f)):=dM _ _ _ _ rfl
@[go_sem] theorem aas (ps acc d z rest):bP call md ps acc (⟨some d,none,.alloc z⟩::rest) s h=fP call md ps acc rest s (some d) (fun _=>some ([],[bZ d])) (fE h d z []):=dM _ _ _ _ rfl
@[go_sem] theorem ad1 (ps acc d k x rest):bP call md ps acc (⟨some d,none,.box k x⟩::rest) s h=fP call md ps acc rest s (some d) (fun _=>if dat (ev s x)=true then some ([],[bZ d]) else none) (q8 h d k (ev s x)):=dM _ _ _ _ rfl
@[go_sem] theorem Xl (ps acc d k z n qs rest):bP call md ps acc (⟨some d,none,.buildSl k z n qs⟩::rest) s h=fP call md ps acc rest s (some d) (fun _=>if (qs.all fun p=>dat (ev s p.2))=true then some ([],[bZ d]) else none) ((cM k h (List.replicate n z) (qs.map fun p=>(p.1,ev s p.2))).bind fun q=>dt q.2.1 d k q.1 n q.2.2):=dM _ _ _ _ rfl
@[go_sem] theorem aip (ps acc d op a b rest):bP call md ps acc (b2 d op a b::rest) s h=(cd op (s a) (s b)).bind fun a=>bP call md ps (acc++[some ([],[])]) rest (upd s d a) h:=xW ps acc d (.bin op (.t a) (.t b)) rest
@[go_sem] theorem aiq (ps acc d k a rest):bP call md ps acc (fa d k a::rest) s h=(o9 k (s a)).bind fun a=>bP call md ps (acc++[some ([],[])]) rest (upd s d a) h:=xW ps acc d (.fadr k (.t a)) rest
@[go_sem] theorem air (ps acc d a rest):bP call md ps acc (nk d a::rest) s h=(vY (s a)).bind fun a=>bP call md ps (acc++[some ([],[])]) rest (upd s d a) h:=xW ps acc d (.nilck (.t a)) rest
@[go_sem] theorem ais (ps acc d k a rest):bP call md ps acc (ld d k a::rest) s h=fP call md ps acc rest s (some d) (fun _=>ko (s a)) (dU h k false (s a)):=dM _ _ _ _ rfl
@[go_sem] theorem ait (ps acc d k a rest):bP call md ps acc (la d k a::rest) s h=fP call md ps acc rest s (some d) (fun _=>ko (s a)) (dU h k true (s a)):=dM _ _ _ _ rfl
@[go_sem] theorem aiu (ps acc d f as rest):bP call md ps acc (ca d f as::rest) s h=fP call md ps acc rest s (some d) (jt h d (pt (as.map (ev s)) (.fn f [] []))) (dP call md h d (as.map (ev s)) (.fn f [] [])):=dM _ _ _ _ rfl
@[go_sem] theorem aiv (ps acc k x y rest):bP call md ps acc (sr k x y::rest) s h=fP call md ps acc rest s none (fun _=>pe (ev s y) (ev s x)) (fD h k (ev s x) (ev s y)):=dM _ _ _ _ rfl
@[go_sem] theorem aiw (ps acc d z rest):bP call md ps acc (al d z::rest) s h=fP call md ps acc rest s (some d) (fun _=>some ([],[bZ d])) (fE h d z []):=dM _ _ _ _ rfl
@[go_sem] theorem aix (ps acc d k x rest):bP call md ps acc (bx d k x::rest) s h=fP call md ps acc rest s (some d) (fun _=>if dat (ev s x)=true then some ([],[bZ d]) else none) (q8 h d k (ev s x)):=dM _ _ _ _ rfl
@[go_sem] theorem acD (ps acc rest s d f x h):fP call md ps acc rest s (some d) f (some (x,h,[]))=bP call md ps (acc++[f h]) rest (upd s d x) h:=_root_.id rfl
@[go_sem] theorem aat (ps acc rest s f x h):fP call md ps acc rest s none f (some (x,h,[]))=bP call md ps (acc++[f h]) rest s h:=_root_.id rfl
theorem Xm (ps acc) (o:COp) (j w rest) (hg:o.g=some (j,w)) {b:Bool} (hb:s j = .v (.bool b)):bP call md ps acc (o::rest) s h =
  if b=w then fP call md ps acc rest s o.d (dQ (o.d.getD 0) o.op s h) (step call md (o.d.getD 0) o.op s h) else bP call md ps (acc++[some ([],[])]) rest (dy s o.d .und) h:=by
 simp only [bP,cr,hg,hb,iW]
 split
 ·simp only [fL]
  cases step call md (o.d.getD 0) o.op s h with
  | none=>rfl
  | some r =>
   obtain ⟨x,h',ks⟩:=r
   cases ks <;> rfl
 ·rfl
def HV (call:er) (md:Mode) (ps:List (Nat × Nat)) (acc:List Fp) (rest:List COp) (s:aj) (h:ac) (d:Option Nat) (w:Bool) (op:AOp):AV→Option St
 | .v (.bool b)=>if b=w then fP call md ps acc rest s d (dQ (d.getD 0) op s h) (step call md (d.getD 0) op s h) else bP call md ps (acc++[some ([],[])]) rest (dy s d .und) h
 | .und=>bP call md ps (acc++[some ([],[])]) rest (dy s d .und) h
 | _=>none
@[go_sem] theorem UW (ps acc d j w op rest):bP call md ps acc (⟨d,some (j,w),op⟩::rest) s h=HV call md ps acc rest s h d w op (s j):=by
 by_cases hb:∃ b,s j = .v (.bool b)
 ·obtain ⟨b,hb⟩:=hb
  rw [Xm ps acc ⟨d,some (j,w),op⟩ j w rest rfl hb,hb]
  rfl
 ·simp only [bP,cr]
  cases hq:s j <;> first | rfl | skip
  rename_i x
  cases x <;> first | rfl | exact absurd ⟨_,hq⟩ hb
@[go_sem] theorem aiy (ps acc d j w op rest):bP call md ps acc (cg d j w op::rest) s h=HV call md ps acc rest s h (some d) w (.p op) (s j):=UW ps acc (some d) j w (.p op) rest
@[go_sem] theorem aj1 (ps acc rest s h d op):HV call md ps acc rest s h (some d) true op (.v (.bool true))=fP call md ps acc rest s (some d) (dQ d op s h) (step call md d op s h):=_root_.id rfl
@[go_sem] theorem aj2 (ps acc rest s h d op):HV call md ps acc rest s h (some d) false op (.v (.bool false))=fP call md ps acc rest s (some d) (dQ d op s h) (step call md d op s h):=_root_.id rfl
@[go_sem] theorem aj3 (ps acc rest s h d op):HV call md ps acc rest s h (some d) true op (.v (.bool false))=bP call md ps (acc++[some ([],[])]) rest (upd s d .und) h:=_root_.id rfl
@[go_sem] theorem aj4 (ps acc rest s h d op):HV call md ps acc rest s h (some d) false op (.v (.bool true))=bP call md ps (acc++[some ([],[])]) rest (upd s d .und) h:=_root_.id rfl
@[go_sem] theorem aiz (ps acc rest s h d w op):HV call md ps acc rest s h (some d) w op .und=bP call md ps (acc++[some ([],[])]) rest (upd s d .und) h:=_root_.id rfl
@[go_sem] theorem alR (d op h'):dQ d (.p op) s h h'=some ([],[]):=_root_.id rfl
@[go_sem] theorem aiA (d k g x h'):dQ d (.load k g x) s h h'=ko (ev s x):=_root_.id rfl
@[go_sem] theorem aiB (d f as h'):dQ d (.call f as) s h h'=jt h d (pt (as.map (ev s)) (ev s f)) h':=_root_.id rfl
@[go_sem] theorem ad2 (d z h'):dQ d (.alloc z) s h h'=some ([],[bZ d]):=_root_.id rfl
@[go_sem] theorem aj5 (d k x h'):dQ d (.box k x) s h h'=if dat (ev s x)=true then some ([],[bZ d]) else none:=_root_.id rfl
@[go_sem] theorem aau (cs):ko (.ipt cs)=some ([],[]):=_root_.id rfl
@[go_sem] theorem Ze (id k i j):ko (.ref id none k i j)=some ([bZ id],[]):=_root_.id rfl
@[go_sem] theorem Zf (id p k i j):ko (.ref id (some p) k i j)=some ([bZ id],[]):=_root_.id rfl
@[go_sem] theorem acE (y id sub k i j):pe y (.ref id sub k i j)=if dat y=true then some ([bZ id],[bZ id]) else none:=_root_.id rfl
@[go_sem] theorem aj6 (i):bZ i=if i < 2000 then i else i - i % 8:=_root_.id rfl
@[go_sem] theorem acF (l f a b):pt l (.fn f a b)=a++l++b:=_root_.id rfl
@[go_sem] theorem acG (h d l h'):jt h d l h'=if l.all dat=true then some ([],[2000+8*d]) else if l.all pd=true then some ((el h 40 (dW [] (l.flatMap bY)) 0).map bZ,(ED h h' (el h 40 (dW [] (l.flatMap bY)) 0)).map bZ++[2000+8*d]) else none:=_root_.id rfl
@[go_sem] theorem aav (l i j):qS l (i,j)=(match l[i]?,l[j]? with | some a,some b=>gD a b | _,_=>false):=_root_.id rfl
@[go_sem] theorem ad3 (a b):gD (some a) (some b)=(pY a.2 (b.1++b.2) && pY b.2 a.1):=_root_.id rfl
@[go_sem] theorem ad4 (b):gD none (some b)=(b.1.isEmpty && b.2.isEmpty):=_root_.id rfl
@[go_sem] theorem ad5 (a):gD (some a) none=(a.1.isEmpty && a.2.isEmpty):=_root_.id rfl
@[go_sem] theorem ad6 (b):pY [] b=true:=_root_.id rfl
@[go_sem] theorem acH (a l b):pY (a::l) b=(!b.contains a && pY l b):=_root_.id rfl
@[go_sem] theorem aaw (a:Nat):[].contains a=false:=_root_.id rfl
@[go_sem] theorem Zg (a b:Nat) (l:List Nat):(b::l).contains a=(a == b || l.contains a):=by rw [List.contains_cons]
@[go_sem] theorem ad7 (s d x h p l):cE false s (some d) (some (x,h,p::l))=some ⟨upd (nq (p::l) s) d x,h⟩:=_root_.id rfl
@[go_sem] theorem acI (s x h p l):cE false s none (some (x,h,p::l))=some ⟨nq (p::l) s,h⟩:=_root_.id rfl
@[go_sem] theorem aiC (p l s) (i:Nat):nq (p::l) s i=lZ (p::l) (s i):=_root_.id rfl
@[go_sem] theorem alI (ks x):lZ ks (.v x) = .v x:=_root_.id rfl
@[go_sem] theorem aiD (ks):lZ ks .any = .any:=_root_.id rfl
@[go_sem] theorem aiE (ks):lZ ks .und = .und:=_root_.id rfl
@[go_sem] theorem aiF (ks):lZ ks .emp = .emp:=_root_.id rfl
@[go_sem] theorem aj7 (ks k r):lZ ks (.sl k r) = .sl k r:=_root_.id rfl
@[go_sem] theorem aiG (ks cs):lZ ks (.ipt cs) = .ipt cs:=_root_.id rfl
@[go_sem] theorem aiH (ks f):lZ ks (.fn f [] []) = .fn f [] []:=_root_.id rfl
@[go_sem] theorem aiI (ks id sub k lo n):lZ ks (.rsl id sub k lo n)=if fh ks id sub=true then .any else .rsl id sub k lo n:=_root_.id rfl
@[go_sem] theorem aiJ (ks id sub k lo n):lZ ks (.ref id sub k lo n)=if fh ks id sub=true then .any else .ref id sub k lo n:=_root_.id rfl
@[go_sem] theorem aiK (ks cs):lZ ks (.agg cs)=if cs.any (jS ks)=true then .any else .agg cs:=_root_.id rfl
@[go_sem] theorem aj8 (ks f a b):lZ ks (.fn f a b)=if (a.any (jS ks) || b.any (jS ks))=true then .any else .fn f a b:=_root_.id rfl
@[go_sem] theorem aiL (ks vs):lZ ks (.tup vs)=if vs.any (sw ks)=true then .any else .tup vs:=_root_.id rfl
@[go_sem] theorem aj9 (ks x):sw ks (.v x)=false:=_root_.id rfl
@[go_sem] theorem aiM (ks k r):sw ks (.sl k r)=false:=_root_.id rfl
@[go_sem] theorem aka (ks x):jS ks (.v x)=false:=_root_.id rfl
@[go_sem] theorem ad8 (ks):jS ks .emp=false:=_root_.id rfl
@[go_sem] theorem aiN (ks k r):jS ks (.sl k r)=false:=_root_.id rfl
@[go_sem] theorem ad9 (ks id sub k i j):jS ks (.ref id sub k i j)=fh ks id sub:=_root_.id rfl
@[go_sem] theorem aea (id sub):fh [] id sub=false:=_root_.id rfl
@[go_sem] theorem aeb (a:Nat) (b:Bool) (l:K) (id:Nat) (sub:Option Nat):fh ((a,b)::l) id sub=((a == id && (!b || sub.isSome)) || fh l id sub):=by simp [fh]
@[go_sem] theorem Xn {α:Type}:(none:Option α).isSome=false:=_root_.id rfl
@[go_sem] theorem Xo {α:Type} (a:α):(some a).isSome=true:=_root_.id rfl
@[go_sem] theorem akb (h d k b x y):Hg h d k b x y=(mp h k y).bind fun ys=>match x with
 | .emp=>if ys.length*b≤140737488355328 then CT h d k ys else none
 | .rsl id none k' lo n=>Hf h k b id k' lo n ys (h id)
 | .rsl id (some p) k' lo n=>RR h d k b id p k' lo n ys (h id)
 | _=>none:=_root_.id rfl
@[go_sem] theorem acJ (h k):mp h k .emp=some []:=_root_.id rfl
@[go_sem] theorem So (h k r):mp h k (.sl k r)=some r:=by simp [mp]
@[go_sem] theorem acK (h k id sub lo n):mp h k (.rsl id sub k lo n)=qR k lo n (v7 h id sub):=by simp [mp]
@[go_sem] theorem Zh (h id):v7 h id none=s6 (h id):=_root_.id rfl
@[go_sem] theorem acL (k r):s6 (.ar k r)=some (k,r):=_root_.id rfl
@[go_sem] theorem acM (k r):s6 (.fz k r)=some (k,r):=_root_.id rfl
@[go_sem] theorem Xp (k lo n r):qR k lo n (some (k,r))=if lo+n≤r.length then some ((r.drop lo).take n) else none:=by simp [qR]
@[go_sem] theorem aiO (h k b id lo n ys r):Hf h k b id k lo n ys (.ar k r)=if lo=0∧n=r.length∧(id < 1000∨2000≤id)∧(n+ys.length)*b≤140737488355328 then
   some (.rsl id none k 0 (n+ys.length),upd h id (.ar k (r++ys)),[(id,false)]) else none:=by simp [Hf]
@[go_sem] theorem aec (h d k):CT h d k []=some (.emp,h,[]):=_root_.id rfl
@[go_sem] theorem acN (h d k y ys):CT h d k (y::ys)=dt h d k (y::ys) (ys.length+1) []:=_root_.id rfl
end
def yV (c1 c2:er):Prop:=∀ f a hs r,c1 f a hs=some r→c2 f a hs=some r
section
variable {c1 c2:er} {md:Mode}
theorem Nq (hc:yV c1 c2) {h:ac} {d:Nat} {as:List AV} {f:AV} {r:R3} (hz:dP c1 md h d as f=some r):dP c2 md h d as f=some r:=by
 cases f <;> simp only [dP] at hz ⊢ <;> try (cases hz; done)
 simp only [Option.bind_eq_some_iff] at hz ⊢
 obtain ⟨p,e1,e2⟩:=hz
 unfold rY at e2 ⊢
 split at e2
 ·rename_i hcc
  simp only [Option.bind_eq_some_iff] at e2
  obtain ⟨q,e3,e4⟩:=e2
  refine ⟨p,e1,?_⟩
  rw [if_pos hcc]
  simp only [Option.bind_eq_some_iff]
  exact ⟨q,hc _ _ _ _ e3,e4⟩
 ·cases e2
theorem E4 (hc:yV c1 c2) {d:Nat} {op:AOp} {s:aj} {h:ac} {r:R3} (hz:step c1 md d op s h=some r):step c2 md d op s h=some r:=by
 cases op with
 | call f as=>exact Nq hc hz
 | _=>exact hz
theorem E5 (hc:yV c1 c2) {d:Option Nat} {op:AOp} {s:aj} {h:ac} {t:St} (hz:cE md.nm s d (step c1 md (d.getD 0) op s h)=some t):cE md.nm s d (step c2 md (d.getD 0) op s h)=some t:=by
 cases hs:step c1 md (d.getD 0) op s h with
 | none=>rw [hs] at hz; cases hz
 | some r =>
  rw [hs] at hz
  rw [E4 hc hs]
  exact hz
theorem Nr (hc:yV c1 c2) {o:COp} {s:aj} {h:ac} {t:St} (hz:kW c1 md o s h=some t):kW c2 md o s h=some t:=by
 unfold kW at hz ⊢
 cases hg:o.g with
 | none=>rw [hg] at hz; exact E5 hc hz
 | some g =>
  rw [hg] at hz
  simp only at hz ⊢
  unfold fW at hz ⊢
  split at hz
  ·split at hz
   ·rename_i hb
    simp only [if_pos hb]
    exact E5 hc hz
   ·rename_i hb
    simp only [if_neg hb]
    exact hz
  ·exact hz
  ·cases hz
theorem wA (hc:yV c1 c2):∀ {l:List COp} {s:aj} {h:ac} {t:St},aG c1 md l s h=some t→aG c2 md l s h=some t
 | [],s,h,t,hz=>hz
 | o::l,s,h,t,hz=>by
  simp only [aG,aW] at hz
  split at hz
  ·cases hz
  ·rename_i t1 ht1
   simp only [aG,aW,Nr hc ht1,wA hc hz]
theorem By (hc:yV c1 c2) {d:Option Nat} {op:AOp} {s:aj} {h:ac} {f:ac→Fp} {t:St × Fp} (hz:fL s d f (step c1 md (d.getD 0) op s h)=some t):fL s d f (step c2 md (d.getD 0) op s h)=some t:=by
 cases hs:step c1 md (d.getD 0) op s h with
 | none=>rw [hs] at hz; cases hz
 | some r =>
  rw [hs] at hz
  rw [E4 hc hs]
  exact hz
theorem Ns (hc:yV c1 c2) {o:COp} {s:aj} {h:ac} {t:St × Fp} (hz:cr c1 md o s h=some t):cr c2 md o s h=some t:=by
 unfold cr at hz ⊢
 cases hg:o.g with
 | none=>rw [hg] at hz; exact By hc hz
 | some g =>
  rw [hg] at hz
  simp only at hz ⊢
  unfold iW at hz ⊢
  split at hz
  ·split at hz
   ·rename_i hb
    simp only [if_pos hb]
    exact By hc hz
   ·rename_i hb
    simp only [if_neg hb]
    exact hz
  ·exact hz
  ·cases hz
theorem E6 (hc:yV c1 c2):∀ {l:List COp} {s:aj} {h:ac} {t:St × List Fp},fM c1 md l s h=some t→fM c2 md l s h=some t
 | [],s,h,t,hz=>hz
 | o::l,s,h,t,hz=>by
  simp only [fM,Option.bind_eq_some_iff] at hz
  obtain ⟨r,e1,q,e2,e3⟩:=hz
  simp only [fM,Ns hc e1,E6 hc e2,Option.bind_some,e3]
theorem wB {b1 b2:aj→ac→Option (Ex × St)} {ks hs:List Nat} (ih:∀ {s:aj} {h:ac} {r:Ex × St},b1 s h=some r→b2 s h=some r) :
  ∀ (m:Nat) {j:Nat},m≤j→∀ {s:aj} {h:ac} {r:Ex × St},jU b1 ks hs m s h=some r→jU b2 ks hs j s h=some r
 | 0,j,hj,s,h,r,hz=>by simp [jU] at hz
 | m+1,j,hj,s,h,r,hz=>by
  obtain ⟨j,rfl⟩:∃ j',j=j'+1:=⟨j - 1,by omega⟩
  simp only [jU] at hz ⊢
  split at hz
  ·rename_i hc
   rw [if_pos hc]
   cases hb:b1 (mk .any (fun i=>eK hs (s i)) ks) (mk .dead h hs) with
   | none=>rw [hb] at hz; cases hz
   | some q =>
    rw [hb] at hz
    rw [ih hb]
    obtain ⟨ex,t⟩:=q
    cases ex with
    | normal=>exact wB ih m (by omega) hz
    | exit id=>exact hz
    | ret=>exact hz
  ·cases hz
theorem ed (hc:yV c1 c2) {lf lf':Nat} (hl:lf≤lf'):∀ (c:Cmd) {s:aj} {h:ac} {r:Ex × St},bg c1 md lf c s h=some r→bg c2 md lf' c s h=some r
 | .skip,s,h,r,hz=>hz
 | .ops ks l,s,h,r,hz=>by
  simp only [bg,aW] at hz
  split at hz
  ·cases hz
  ·rename_i t1 ht1
   simp only [bg,wA hc ht1,aW]
   exact hz
 | .dops ks l ps,s,h,r,hz=>by
  simp only [bg,aW] at hz
  split at hz
  ·cases hz
  ·rename_i t1 ht1
   simp only [pf,Option.bind_eq_some_iff] at ht1
   obtain ⟨q,e1,e2⟩:=ht1
   simp only [bg,pf,E6 hc e1,Option.bind_some,e2,aW]
   exact hz
 | .seq a b,s,h,r,hz=>by
  simp only [bg,bm] at hz
  split at hz
  ·cases hz
  ·rename_i t1 ht1
   simp only [bg,bm,ed hc hl a ht1,ed hc hl b hz]
  ·rename_i i t1 ht1
   simp only [bg,bm,ed hc hl a ht1]
   exact hz
  ·rename_i t1 ht1
   simp only [bg,bm,ed hc hl a ht1]
   exact hz
 | .cond c a b,s,h,r,hz=>by
  simp only [bg,iX] at hz
  split at hz
  ·rename_i t ht
   cases t with
   | true=>simp only [bg,iX,ht,if_true]; exact ed hc hl a hz
   | false=>simp only [bg,iX,ht,Bool.false_eq_true,if_false]; exact ed hc hl b hz
  ·cases hz
 | .block id ks a,s,h,r,hz=>by
  simp only [bg,au] at hz
  split at hz
  ·cases hz
  ·rename_i t1 ht1
   simp only [bg,au,ed hc hl a ht1]
   exact hz
  ·rename_i i t1 ht1
   simp only [bg,au,ed hc hl a ht1]
   exact hz
  ·rename_i t1 ht1
   simp only [bg,au,ed hc hl a ht1]
   exact hz
 | .loop ks hs a,s,h,r,hz=>by
  simp only [bg] at hz ⊢
  exact wB (fun hh=>ed hc hl a hh) lf hl hz
 | .exit id,s,h,r,hz=>hz
 | .ret,s,h,r,hz=>hz
 | .frz is a,s,h,r,hz=>by
  simp only [bg,aW] at hz
  split at hz
  ·cases hz
  ·rename_i t1 ht1
   simp only [bg,aW,ht1]
   exact ed hc hl a hz
end
abbrev zw:=List (Nat × List AV × AV)
def HW:zw→FuncId→List AV→Option AV
 | [],_,_=>none
 | x::l,f,args=>if x.1=f then (if v8 x.2.1 args=true then some x.2.2 else HW l f args) else HW l f args
def LU (a:Option AV) (hs:List Ob) (b:Option (AV × List Ob)):Option (AV × List Ob):=match a,hs with
 | some r,[]=>some (r,[])
 | _,_=>b
def C0 (e:Env) (T:zw):Nat→er
 | 0=>fun _ _ _=>none
 | n+1=>fun f args hs=>LU (HW T f args) hs (match e.E f with
  | some g=>g args hs
  | none=>(e.C f).bind fun fd=>v9 (C0 e T n) { e.md with nm:=e.md.keep f } n fd args hs)
theorem C1 {e:Env}:∀ {T:zw} {f:FuncId} {args:List AV} {r:AV},(∀ x ∈ T,dh e x.1 x.2.1 []=some (x.2.2,[]))→HW T f args=some r→dh e f args []=some (r,[])
 | [],f,args,r,_,h=>by cases h
 | x::l,f,args,r,ht,h=>by
  unfold HW at h
  split at h
  ·rename_i h1
   split at h
   ·rename_i h2
    cases h
    have:=ht x (by simp)
    rw [h1,nz h2] at this
    exact this
   ·exact C1 (fun y hy=>ht y (by simp [hy])) h
  ·exact C1 (fun y hy=>ht y (by simp [hy])) h
theorem ju {call:er} {md:Mode} {lf:Nat}:∀ (c:Cmd) {s:aj} {h:ac} {r:Ex × St},bg call md lf c s h=some r→ak call md c s h=some r
 | .skip,s,h,r,hz=>hz
 | .ops ks l,s,h,r,hz=>hz
 | .dops ks l ps,s,h,r,hz=>hz
 | .seq a b,s,h,r,hz=>by
  simp only [bg,bm] at hz
  split at hz
  ·cases hz
  ·rename_i t1 ht1
   simp only [ak,bm,ju a ht1,ju b hz]
  ·rename_i i t1 ht1
   simp only [ak,bm,ju a ht1]
   exact hz
  ·rename_i t1 ht1
   simp only [ak,bm,ju a ht1]
   exact hz
 | .cond c a b,s,h,r,hz=>by
  simp only [bg,iX] at hz
  split at hz
  ·rename_i t ht
   cases t with
   | true=>simp only [ak,iX,ht,if_true]; exact ju a hz
   | false=>simp only [ak,iX,ht,Bool.false_eq_true,if_false]; exact ju b hz
  ·cases hz
 | .block id ks a,s,h,r,hz=>by
  simp only [bg,au] at hz
  split at hz
  ·cases hz
  ·rename_i t1 ht1
   simp only [ak,au,ju a ht1]
   exact hz
  ·rename_i i t1 ht1
   simp only [ak,au,ju a ht1]
   exact hz
  ·rename_i t1 ht1
   simp only [ak,au,ju a ht1]
   exact hz
 | .loop ks hs a,s,h,r,hz=>by
  simp only [bg] at hz
  simp only [ak,aq]
  rw [i9]
  exact ⟨lf,fun k hk=>wB (fun hh=>ju a hh) lf hk hz⟩
 | .exit id,s,h,r,hz=>hz
 | .ret,s,h,r,hz=>hz
 | .frz is a,s,h,r,hz=>by
  simp only [bg,aW] at hz
  split at hz
  ·cases hz
  ·rename_i t1 ht1
   simp only [ak,aW,ht1]
   exact ju a hz
theorem LV {e:Env} {T:zw} (ht:∀ x ∈ T,dh e x.1 x.2.1 []=some (x.2.2,[])):∀ n,yV (C0 e T n) (dh e)
 | 0=>fun f a hs r hz=>by cases hz
 | n+1=>fun f a hs r hz=>by
  have old:(match e.E f with | some g=>g a hs | none=>(e.C f).bind fun fd=>v9 (C0 e T n) { e.md with nm:=e.md.keep f } n fd a hs)=some r→dh e f a hs=some r:=by
   intro hz
   split at hz
   ·rename_i g hE
    rw [HT hE]
    exact hz
   ·rename_i hE
    simp only [Option.bind_eq_some_iff] at hz
    obtain ⟨fd,hC,hz⟩:=hz
    refine EY hE hC ?_
    unfold v9 at hz
    unfold Nn
    split at hz
    ·rename_i hcc
     rw [if_pos hcc]
     cases hx:bg (C0 e T n) { e.md with nm:=e.md.keep f } n fd.body (re a) (ax hs) with
     | none=>rw [hx] at hz; cases hz
     | some q =>
      rw [hx] at hz
      rw [ju fd.body (ed (LV ht n) (Nat.le_refl n) fd.body hx)]
      exact hz
    ·cases hz
  unfold C0 at hz
  unfold LU at hz
  split at hz
  ·rename_i r' hl
   cases hz
   exact C1 ht hl
  ·exact old hz
theorem ag {e:Env}:∀ x ∈ ([]:zw),dh e x.1 x.2.1 []=some (x.2.2,[]):=fun _ h=>by cases h
theorem aa {e:Env} {x:Nat × List AV × AV} {T:zw} (h1:dh e x.1 x.2.1 []=some (x.2.2,[])) (h2:∀ x ∈ T,dh e x.1 x.2.1 []=some (x.2.2,[])):∀ y ∈ x::T,dh e y.1 y.2.1 []=some (y.2.2,[]):=fun y hy=>by
 rcases List.mem_cons.1 hy with rfl | hy
 ·exact h1
 ·exact h2 y hy
theorem az {e:Env} (T:zw) (n:Nat) (x:Nat × List AV × AV) (ht:∀ x ∈ T,dh e x.1 x.2.1 []=some (x.2.2,[])) (h:C0 e T n x.1 x.2.1 []=some (x.2.2,[])):dh e x.1 x.2.1 []=some (x.2.2,[]):=LV ht n _ _ _ _ h
end Go.Ab
