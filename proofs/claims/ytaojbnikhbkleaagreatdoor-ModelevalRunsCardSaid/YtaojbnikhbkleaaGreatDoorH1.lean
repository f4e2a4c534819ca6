/-
  A law of tapes on models holds at every input that the statement speaks of, under the conditions that its card names. Part H1.
-/
import Derived.Shelf.RegionOpenPlain
import Derived.WalkKit
import Derived.Lib.Walk
import Derived.Lib.SliceRun
import Derived.Test.YtaojbnikhbkleaaGreatDoorProg
import Derived.Shelf.Spec.TrailingZeros
import Derived.Test.YtaojbnikhbkleaaGreatDoorRows
import Derived.Deep.Strs
import Derived.ProofKit
import Derived.LaidMore
import Derived.OpenShut
import Derived.Carry
import Derived.Test.YtaojbnikhbkleaaGreatDoorG1
open Nat renaming le_refl → aET, le_trans → aEX, mul_le_mul_right → aE4, zero_add → aES, zero_le → aE9
open Int renaming toNat_natCast → aEY
open Bool renaming and_eq_true → aEV
open List renaming getElem?_eq_getElem → aE1, getElem?_map → aFw, getElem?_of_mem → aFL, length_cons → aFk, length_map → aFh, length_nil → aFs, mem_map → aFN, nil_append → aE5
open Option renaming bind_eq_some_iff → aEQ, map_eq_some_iff → aEU
set_option linter.all false
namespace Go.Ab
open Go Go.Proofs Go.Shelf Go.RowKit Go.Lib Go.ChangeShapes Go.WideShapes Go.Deep
set_option maxRecDepth 100000
set_option maxHeartbeats 4000000
variable{cs:List Value}{n:Nat}{us:Array Value}
theorem afJ{P:Program}{I:Inv}{f:FuncId}{g:List AV->List Ob->Option (AV×List Ob)}{k:Nat}{E:AV}{q:Nat->Prop}(he:∀a w,(callFunc f a).run P w=.ok (.enter f a) w)
  (hW:∀a c w,Calls P f #[.slice a 0 c] w fun e w'=>(∃b d,e=.returned (.slice b 0 d)/\q d)/\Below w.heap.size w w') (hE:E=.sl k []\/E=.emp/\∀d,q d->d=0)
  (hm:∀args obs r,g args obs=some r->(args=[.sl k []]/\obs=[]/\r=(E,[]))\/R0 f args obs=some r) (hR:rK P I false f (R0 f)):rK P I false f g:=by
 intro args obs obs' res w X ρ vals n hz hn hi hr hs hv;rcases hm _ _ _ hz with⟨rfl,rfl,h⟩|h
 ·cases h;obtain⟨u0,h0⟩:=Ir hs (i:=0) rfl;have d0:=(hv 0 _ _ rfl h0).sl_inv;obtain rfl:=aui hs h0;cases d0 with
  |sl _ _ a cap ad vs hc ha hk hv2 hl hr2=>
   unfold Enters;rw[he];refine Calls.mono (hW a cap w) fun e w' hw=>?_;obtain⟨⟨b,c,rfl,hq⟩,hb⟩:=hw;rcases hE with rfl| ⟨rfl,h0⟩
   ·exact⟨ρ,(CM hr hb).1,(CM hr hb).2,.dat (.sl k [] b c ad vs (aE9 _) (fun h=>absurd rfl h) (fun _ h=>by cases h) (fun i row j c h=>by simp at h) (fun _ h=>by cases h) (fun i row j c h=>by simp at h))⟩
   ·obtain rfl:=h0 _ hq;exact⟨ρ,(CM hr hb).1,(CM hr hb).2,.dat (.emp b)⟩
 ·exact hR h hn hi hr hs hv
theorem alC{r:List AV}{rs:List (List AV)}(h:(rs.length+1)*4<=140737488355328):R0 189 [.sl 1 (r::rs)] []=some (.sl 1 (r::rs),[]):=by
 refine ES (fd:=iF) κ κ κ rfl δ ?_;have e1:((rs.length+1)*4<=140737488355328)=True:=eq_true h;have e2:Gy false (.sl 1 (r::rs))=some (B false):=rfl;simp only[iF,go_sem,e1,e2,aFk,aFs,aES,aE9,aET,true_and,true_or,aE5]
theorem alD{r:List AV}{rs:List (List AV)}(h:(rs.length+1)*120<=140737488355328):R0 22 [.sl 9 (r::rs)] []=some (.osl 9 (r::rs),[]):=by
 refine ES (fd:=fO) κ κ κ rfl δ ?_;have e1:((rs.length+1)*120<=140737488355328)=True:=eq_true h;have e2:Gy false (.sl 9 (r::rs))=some (B false):=rfl;simp only[fO,go_sem,e1,e2,aFk,aFs,aES,aE9,aET,true_and,true_or,aE5]
theorem aww(args:List AV)(obs:List Ob)(r:AV×List Ob)(h:clU args obs=some r):(args=[.sl 1 []]/\obs=[]/\r=(.sl 1 [],[]))\/R0 189 args obs=some r:=by
 unfold clU at h;split at h
 ·cases h;exact .inl ⟨rfl,rfl,rfl⟩
 ·split at h
  ·rename_i hb;cases h;exact .inr (alC hb)
  ·cases h
 ·cases h
theorem awx(args:List AV)(obs:List Ob)(r:AV×List Ob)(h:clM args obs=some r):(args=[.sl 9 []]/\obs=[]/\r=(.emp,[]))\/R0 22 args obs=some r:=by
 unfold clM at h;split at h
 ·cases h;exact .inl ⟨rfl,rfl,rfl⟩
 ·split at h
  ·rename_i hb;cases h;exact .inr (alD hb)
  ·cases h
 ·cases h
theorem aov(a:Option Addr)(c:Nat)(w:World):Calls Tryz.prog 189 #[.slice a 0 c] w fun e w'=>(∃b d,e=.returned (.slice b 0 d)/\d=0)/\Below w.heap.size w w':=by
 have q:∀ (w:World) (a:Option Addr) (n c n' c':Nat),(binOp .eql 28 (.slice a n c) (.slice none n' c')).run Tryz.prog w=.ok (.bool a.isNone) w:=fun w a n c n' c'=>Lib.run_eql_slice_nil w _ _ a n c n' c' Tryz.underlying28;cases a with
 |none=>
  go_enter Tryz.func189,Tryz.ntmps189
  go_wp2
  go_ret
  exact⟨⟨_,_,rfl,rfl⟩,Below.refl _ _⟩
 |some a=>
  go_enter Tryz.func189,Tryz.ntmps189
  go_wp2
  go_ret
  exact⟨⟨_,_,rfl,rfl⟩,(Below.refl _ w).alloc (aET _) _⟩
theorem aow(a:Option Addr)(c:Nat)(w:World):Calls Tryz.prog 22 #[.slice a 0 c] w fun e w'=>(∃b d,e=.returned (.slice b 0 d)/\d=0)/\Below w.heap.size w w':=by
 have q:∀ (w:World) (a:Option Addr) (n c n' c':Nat),(binOp .eql 47 (.slice a n c) (.slice none n' c')).run Tryz.prog w=.ok (.bool a.isNone) w:=fun w a n c n' c'=>Lib.run_eql_slice_nil w _ _ a n c n' c' Tryz.underlying47;cases a with
 |none=>
  go_enter Tryz.func22,Tryz.ntmps22
  go_wp2
  go_ret
  exact⟨⟨_,_,rfl,rfl⟩,Below.refl _ _⟩
 |some a=>
  go_enter Tryz.func22,Tryz.ntmps22
  go_wp2
  go_ret
  exact⟨⟨_,_,rfl,rfl⟩,(Below.refl _ w).alloc (aET _) _⟩
def apl:Ren:=⟨fun|28=>263|n=>n,fun|25=>109|27=>108|53=>233|n=>n,fun n=>n⟩
theorem alE:Lays7.n28 Tryz.prog apl where
 mixed:=by kernel_rfl
 f28:=by kernel_rfl
 t0:=by kernel_rfl
 a0:=Tryz.isAgg0
 z0:=Tryz.sizeOf0
 v0:=Tryz.zeroValue0
 i0:=by kernel_rfl
 t3:=by kernel_rfl
 a3:=Tryz.isAgg3
 z3:=Tryz.sizeOf3
 v3:=Tryz.zeroValue3
 i3:=by kernel_rfl
 t4:=by kernel_rfl
 a4:=Tryz.isAgg4
 z4:=Tryz.sizeOf4
 v4:=Tryz.zeroValue4
 i4:=by kernel_rfl
 t5:=by kernel_rfl
 a5:=Tryz.isAgg5
 z5:=Tryz.sizeOf5
 v5:=Tryz.zeroValue5
 i5:=by kernel_rfl
 t25:=by kernel_rfl
 a25:=Tryz.isAgg109
 z25:=Tryz.sizeOf109
 v25:=Tryz.zeroValue109
 i25:=by kernel_rfl
 t27:=by kernel_rfl
 a27:=Tryz.isAgg108
 z27:=Tryz.sizeOf108
 v27:=Tryz.zeroValue108
 i27:=by kernel_rfl
 t53:=by kernel_rfl
 a53:=Tryz.isAgg233
 z53:=Tryz.sizeOf233
 v53:=Tryz.zeroValue233
 i53:=by kernel_rfl
 g0:=by kernel_rfl
def JA:Inv where
 p w _:=TabAt 0 Lib.deBruijn32tab w
 stab:=fun{w w' X} h hs j hj=>by rw[sH (hs 0 (.inr rfl))];exact h j hj
 more:=fun h _=>h
theorem afK:∀ (k x:Nat),Lib.ctzFrom k x=WE k x
 |0,x=>rfl
 |k+1,x=>by
  unfold Lib.ctzFrom WE;rw[afK k (x/2),Nat.add_comm]
set_option maxRecDepth 100000 in
theorem apm:rK Tryz.prog JA false 263 tzF:=by
 intro args obs obs' res w X ρ vals n hz hn hi hr hs hv;unfold tzF at hz;split at hz
 ·rename_i x;by_cases hc:0<x/\x<4294967296/\obs=[]
  ·rw[if_pos hc]at hz;obtain⟨h0,h1,rfl⟩:=hc;simp only[Option.some.injEq,Prod.mk.injEq]at hz;obtain⟨rfl,rfl⟩:=hz;have hv0:=hv 0 (.v (.int .u32 x)) (vals.getD 0 undef) rfl (by simp at hs;simp[Array.getD_eq_getD_getElem?,hs]);have e0:vals=#[.int .u32 x]:=by
    simp only[aFk,aFs]at hs;have:=hv0.v_inv.1;apply Array.ext
    ·simpa using hs
    ·intro i h2 h3;have:i=0:=by simp at h3;exact h3
     subst this;simpa [Array.getD_eq_getD_getElem?,hs]using this
   subst e0;obtain⟨m,rfl⟩:∃m:Nat,x=m:=⟨x.toNat,by omega⟩;have key:=Any7.bits_TrailingZeros32 alE m ω w fun _=>hi;have he:(callFunc 263 #[.int .u32 (m:Int)]).run Tryz.prog w=.ok (.enter 263 #[.int .u32 (m:Int)]) w:=(enters_of (alE.f28) κ rfl:Proofs.Enters Tryz.prog (apl.f 28)) _ _;unfold Enters;rw[he];refine Calls.mono key fun e w' hw=>?_;obtain⟨rfl,rfl⟩:=hw;refine⟨ρ,hr,.refl _ _ _ _,?_⟩;refine .dat ?_;have:Lib.ctz 32 m=WE 32 m:=by
    unfold Lib.ctz;rw[if_neg ω,afK]
   simp only[this,aEY,mat,eS];exact .v _ rfl
  ·rw[if_neg hc]at hz;cases hz
 ·cases hz
section
variable {H:Type} {enc:TypeId × Value→H} {w:World}
def Mm(w:World)(b:Nat):Prop:=b<w.heap.size
def Gh(w:World):Prop:=∀o v,w.cell? ⟨0,o,none⟩=some v->∃n,v=.int .u8 n
def EU(u:Value):Prop:=u=u
theorem aum(_:Gh w){a:Addr}{u:Value}(h:w.cell? a=some u)(_:EU u):Mm w a.block/\a.spot=none:=by
 have h1:a.spot=none:=by
  unfold World.cell? at h;split at h
  ·split at h
   ·cases h
   ·rename_i hs;simpa using hs
  ·cases h
 refine⟨?_,h1⟩;unfold World.cell? at h;split at h
 ·rename_i hb;exact(Array.getElem?_eq_some_iff.1 hb).1
 ·cases h
def lD(w:World)(fs:List AV)(cs:List Value):Prop:=
 fs.length=cs.length/\∀ (j:Nat) (c:AV) (u:Value),fs[j]?=some c->cs[j]?=some u->RD w (Mm w) c u/\aI c=true/\u.oneCell'=true
theorem lD.app{fa fb:List AV}{ca cb:List Value}(ha:lD w fa ca)(hb:lD w fb cb):lD w (fa++fb) (ca++cb):=by
 refine⟨by simp[ha.1,hb.1],fun j c u h1 h2=>?_⟩;by_cases hj:j<fa.length
 ·rw[List.getElem?_append_left hj]at h1;rw[List.getElem?_append_left (by rw[←ha.1];exact hj)]at h2;exact ha.2 j c u h1 h2
 ·rw[List.getElem?_append_right ω]at h1;rw[List.getElem?_append_right (by rw[←ha.1];omega),←ha.1]at h2;exact hb.2 _ c u h1 h2
theorem lD.one{c:AV}{u:Value}(h:RD w (Mm w) c u)(hd:aI c=true)(h1:u.oneCell'=true):lD w [c] [u]:=by
 refine⟨rfl,fun j c' u' hc hu=>?_⟩;cases j with
 |zero=>simp at hc hu;subst hc hu;exact⟨h,hd,h1⟩
 |succ j=>simp at hc
noncomputable abbrev Tr (w:World) (enc:TypeId×Value->H) (n:Nat) (t:TypeId) (cs:List Value):Option (DataW H×List MemPlace):=DataW.trod enc Tryz.prog w 0 (fun _=>true) true n t cs
def tH(t:TypeId)(d:DataW H):Prop:=∀m∈DataW.weights Tryz.prog t d,m<=reachBytes
theorem aun{e:TypeId}:∀ {l:List (DataW H)} {d:DataW H} {m:Nat},d∈l->m∈DataW.weights Tryz.prog e d->m∈DataW.weightsAll Tryz.prog e l
 |[],d,m,h,_=>by simp at h
 |a::l,d,m,h,hm=>by
  simp only[DataW.weightsAll,List.mem_append];rcases List.mem_cons.1 h with rfl|h
  ·exact .inl hm
  ·exact .inr (aun h hm)
theorem afL{α:Type}{p:Nat->α->Prop}:∀ (n:Nat),(∀i,i<n->∃r,p i r)->∃l:List α,l.length=n/\∀ (i:Nat) (r:α),l[i]?=some r->p i r
 |0,_=>⟨[],rfl,fun i r h=>by simp at h⟩
 |n+1,h=>by
  obtain⟨l,h1,h2⟩:=afL n fun i hi=>h i ω;obtain⟨r,hr⟩:=h n ω;refine⟨l++[r],by simp[h1],fun i r' hi=>?_⟩;by_cases hin:i<n
  ·rw[List.getElem?_append_left ω]at hi;exact h2 i r' hi
  ·rw[List.getElem?_append_right ω]at hi;have:i=n:=by
    have:=(List.getElem?_eq_some_iff.1 hi).1;simp at this;omega
   subst this;simp[h1]at hi;subst hi;exact hr
theorem G8{α:Type}{t e:TypeId}{k bs:Nat}(ht:Tryz.prog.underlying t=some (.slice e))(hk:Tryz.prog.cellsOf e=k)(h0:0<k)(hbs:Tryz.prog.bytesOf e=bs)(F:α->List AV)(Q:α->Prop)(hT:Gh w)
  (hrow:∀n cs' x,Tr w enc n e cs'=some x->tH e x.1->∃r,Q r/\lD w (F r) cs'/\∃u,cs'[0]?=some u/\EU u) {fuel:Nat} {x:DataW H×List MemPlace}
  (h:Tr w enc fuel t cs=some x) (hw:tH t x.1):∃ (l:List α) (v:Value),cs=[v]/\(∀r∈l,Q r)/\l.length*bs<=reachBytes/\RD w (Mm w) (.sl k (l.map F)) v/\v.oneCell'=true/\EU v:=by
 rcases open_slice ht h with⟨rfl,_⟩| ⟨a,len,cap,m,n,D,Pl,rfl,hb,hl,hm,hmm,rfl,hx⟩
 ·exact⟨[],_,rfl,fun r hr=>by simp at hr,by simp,.sl k [] none 0 ⟨0,0,none⟩ (fun _ _=>undef) σ (fun h=>absurd rfl h) (fun r hr=>by simp at hr) (fun i r j c hr=>by simp at hr) (fun r hr=>by simp at hr) (fun i r j c hr=>by simp at hr),rfl,rfl⟩
 ·have hlm:len<=m:=by rw[hmm];split<;>omega
  have hwe:∀i,i<len->tH e (D i):=fun i hi q hq=>by
   refine hw q ?_;simp only[DataW.weights,ht,List.mem_cons,List.mem_append];exact .inr (.inl (aun (List.mem_map.2 ⟨i,List.mem_range.2 hi,rfl⟩) hq))
  have hbn:len*bs<=reachBytes:=by
   have:=hw ((((List.range len).map D).length+((List.range (m-len)).map fun j=>D (len+j)).length)*Tryz.prog.bytesOf e) (by simp[DataW.weights,ht]);simp only[aFh,List.length_range,hbs]at this;exact aEX (aE4 _ ω) this
  obtain⟨l,l1,l2⟩:=afL (p:=fun i r=>Q r/\∃cs',w.cells? 0 (a.add (i*k)) k=some cs'/\lD w (F r) cs'/\∃u,cs'[0]?=some u/\EU u) len fun i hi=>by
   obtain⟨cs',h1,h2⟩:=hx i ω;obtain⟨r,g1,g2,g3⟩:=hrow _ _ _ h2 (hwe i hi);rw[hk]at h1;exact⟨r,g1,cs',h1,g2,g3⟩
  have cell:∀ (i:Nat) (row:List AV) (j:Nat) (c:AV),(l.map F)[i]?=some row->row[j]?=some c->∃u,w.cell? (a.add (i*k+j))=some u/\RD w (Mm w) c u/\aI c=true:=fun i row j c hi hj=>by
   simp only[aFw,aEU]at hi;obtain⟨r,hr,rfl⟩:=hi;obtain⟨_,cs',c1,c2,_⟩:=l2 i r hr;obtain⟨_,c3,c4⟩:=World.cells?_some c1;have hjk:j<k:=by
    have:=(List.getElem?_eq_some_iff.1 hj).1;rw[c2.1,c3]at this;exact this
   have:=c4 j hjk;rw[Hd]at this;obtain⟨u,hu⟩:∃u,cs'[j]?=some u:=⟨cs'[j]'(by omega),by simp⟩;exact⟨u,by rw[this,hu],(c2.2 j c u hj hu).1,(c2.2 j c u hj hu).2.1⟩
  refine⟨l,_,rfl,fun r hr=>?_,by rw[l1];exact hbn,?_,rfl,rfl⟩
  ·obtain⟨i,hi⟩:=aFL hr;exact(l2 i r hi).1
  ·have:=RD.sl (w:=w) (A:=Mm w) k (l.map F) (some a) cap a (fun i j=>(w.cell? (a.add (i*k+j))).getD undef) (by simp[l1,hl]) (fun hne=>?_) (fun row hr=>?_) (fun i row j c hi hj=>?_) (fun row hr c hc=>?_) (fun i row j c hi hj=>?_)
   ·simpa [l1]using this
   ·have hlen:0<l.length:=List.length_pos_iff.2 fun e=>hne (by simp[e]);obtain⟨_,cs',c1,c2,u,c3,c4⟩:=l2 0 l[0] σ;have:=(World.cells?_some c1).2.2 0 h0;rw[c3,Nat.zero_mul,IA,IA]at this;obtain⟨q1,q2⟩:=aum hT this c4;exact⟨rfl,q1,q2⟩
   ·simp only[aFN]at hr;obtain⟨r,hr,rfl⟩:=hr;obtain⟨i,hi⟩:=aFL hr;obtain⟨_,cs',c1,c2,_⟩:=l2 i r hi;rw[c2.1];exact(World.cells?_some c1).2.1
   ·obtain⟨u,q1,_⟩:=cell i row j c hi hj;rw[q1];rfl
   ·obtain⟨i,hi⟩:=aFL hr;obtain⟨j,hj⟩:=aFL hc;obtain⟨u,_,_,q⟩:=cell i row j c hi hj;exact q
   ·obtain⟨u,q1,q2,_⟩:=cell i row j c hi hj;rw[q1];exact q2
theorem arV{x:DataW H×List MemPlace}(h:Tr w enc n 108 cs=some x)(_:tH 108 x.1):∃r:Nat,r<4294967296/\lD w [U (r:Int)] cs/\∃u,cs[0]?=some u/\EU u:=by
 obtain⟨z,rfl,rfl,hw⟩:=DataW.trod_int Tryz.underlying108 h;simp only[Lit.wf,aEV,decide_eq_true_eq]at hw;have h1:(0:Int)<=z:=hw.1;have h2:z<=4294967295:=hw.2;obtain⟨m,rfl⟩:∃m:Nat,z=m:=⟨z.toNat,by omega⟩;exact⟨m,by omega,.one (.v _ rfl) Z Z,_,rfl,rfl⟩
theorem arW{x:DataW H×List MemPlace}(h:Tr w enc n 3 cs=some x)(_:tH 3 x.1):∃r:Int,True/\lD w [I r] cs/\∃u,cs[0]?=some u/\EU u:=by
 obtain⟨z,rfl,rfl,hw⟩:=DataW.trod_int Tryz.underlying3 h;exact⟨z,trivial,.one (.v _ rfl) Z Z,_,rfl,rfl⟩
theorem alF(hT:Gh w){x:DataW H×List MemPlace}(h:Tr w enc n 28 cs=some x)(hw:tH 28 x.1):∃m:List Nat,(Lb m/\m.length<4611686018427387904)/\lD w [lm m] cs/\∃u,cs[0]?=some u/\EU u:=by
 obtain⟨l,v,rfl,h1,h2,h3,h4,h5⟩:=G8 (k:=1) (bs:=4) Tryz.underlying28 κ δ κ (fun(r:Nat)=>[U (r:Int)]) (fun r=>r<4294967296) hT (fun n cs' x=>arV) h hw;refine⟨l,⟨h1,?_⟩,.one h3 rfl h4,_,rfl,h5⟩;unfold reachBytes at h2;omega
theorem acn(hT:Gh w){x:DataW H×List MemPlace}(h:Tr w enc n 44 cs=some x)(hw:tH 44 x.1):∃m:List Int,True/\lD w [.sl 1 (aY m)] cs/\∃u,cs[0]?=some u/\EU u:=by
 obtain⟨l,v,rfl,h1,h2,h3,h4,h5⟩:=G8 (k:=1) (bs:=8) Tryz.underlying44 κ δ κ (fun(r:Int)=>[I r]) (fun r=>True) hT (fun n cs' x=>arW) h hw;exact⟨l,trivial,.one h3 rfl h4,_,rfl,h5⟩
theorem aco(hT:Gh w){x:DataW H×List MemPlace}(h:Tr w enc n 30 cs=some x)(hw:tH 30 x.1):∃d:Rd,Ok0 d/\lD w (ak d) cs/\∃u,cs[0]?=some u/\EU u:=by
 obtain⟨y0,y1,y2,m,rfl,hl,h0,h1,h2⟩:=trod_struct3 Tryz.underlying30 h;have hl3:cs.length=3:=hl.trans κ
 match cs,hl3 with
 |[a,b,c],_=>
  have k0:Tr w enc m 4 [a]=some y0:=h0;have k1:Tr w enc m 28 [b]=some y1:=h1;have k2:Tr w enc m 3 [c]=some y2:=h2;have w1:tH 28 y1.1:=fun q hq=>hw q (by simp[DataW.weights,DataW.weightsEach,Tryz.underlying30];exact .inr (.inl hq));obtain⟨bb,e0,e1⟩:=DataW.trod_bool Tryz.underlying4 k0;simp only[List.cons.injEq,and_true]at e0;subst e0;obtain⟨l,⟨q1,q2⟩,q3,_⟩:=alF hT k1 w1;obtain⟨z,e2,e3,_⟩:=DataW.trod_int Tryz.underlying3 k2;simp only[List.cons.injEq,and_true]at e2;subst e2;exact⟨⟨bb,l,z⟩,⟨q1,q2⟩,(lD.one (.v _ rfl) Z Z).app (q3.app (.one (.v _ rfl) Z Z)),_,rfl,rfl⟩
theorem aox(hT:Gh w){x:DataW H×List MemPlace}(h:Tr w enc n 72 cs=some x)(hw:tH 72 x.1):∃d:Rt,Ok0 d.c/\lD w (dE d) cs/\∃u,cs[0]?=some u/\EU u:=by
 obtain⟨y0,y1,m,rfl,hl,h0,h1⟩:=trod_struct2 Tryz.underlying72 h;have hl3:cs.length=4:=hl.trans κ
 match cs,hl3 with
 |[a,b,c,d],_=>
  have k0:Tr w enc m 44 [a]=some y0:=h0;have k1:Tr w enc m 30 [b,c,d]=some y1:=h1;have w0:tH 44 y0.1:=fun q hq=>hw q (by simp[DataW.weights,DataW.weightsEach,Tryz.underlying72];exact .inl hq);have w1:tH 30 y1.1:=fun q hq=>hw q (by simp[DataW.weights,DataW.weightsEach,Tryz.underlying72];exact .inr hq);obtain⟨l,_,q3,q4⟩:=acn hT k0 w0;obtain⟨d,d1,d2,_⟩:=aco hT k1 w1;exact⟨⟨l,d⟩,d1,q3.app d2,q4⟩
theorem alG(hT:Gh w){x:DataW H×List MemPlace}(h:Tr w enc n 32 cs=some x)(hw:tH 32 x.1):∃d:Ri,OkI d/\lD w (ah d) cs/\∃u,cs[0]?=some u/\EU u:=by
 obtain⟨y0,y1,y2,m,rfl,hl,h0,h1,h2⟩:=trod_struct3 Tryz.underlying32 h;have hl3:cs.length=7:=hl.trans κ
 match cs,hl3 with
 |[a,b,c,d,e,f,g],_=>
  have k0:Tr w enc m 30 [a,b,c]=some y0:=h0;have k1:Tr w enc m 30 [d,e,f]=some y1:=h1;have k2:Tr w enc m 4 [g]=some y2:=h2;have w0:tH 30 y0.1:=fun q hq=>hw q (by simp[DataW.weights,DataW.weightsEach,Tryz.underlying32];exact .inl hq);have w1:tH 30 y1.1:=fun q hq=>hw q (by simp[DataW.weights,DataW.weightsEach,Tryz.underlying32];exact .inr (.inl hq));obtain⟨d0,p1,p2,p3⟩:=aco hT k0 w0;obtain⟨d1,q1,q2,_⟩:=aco hT k1 w1;obtain⟨bb,e0,e1⟩:=DataW.trod_bool Tryz.underlying4 k2;simp only[List.cons.injEq,and_true]at e0;subst e0;exact⟨⟨d0,d1,bb⟩,⟨p1,q1⟩,p2.app (q2.app (.one (.v _ rfl) Z Z)),p3⟩
theorem afM{fs:List AV}(rc:lD w fs us.toList):RD w (Mm w) (.agg fs) (.agg us):=by
 refine .agg _ _ (by have:=rc.1;simpa using this.symm) (fun i u hu=>?_) fun i c u hc hu=>(rc.2 i c u hc (by simpa using hu)).1;have hu':us.toList[i]?=some u:=by simpa using hu
 obtain⟨c,hc⟩:∃c,fs[i]?=some c:=⟨_,aE1 (by rw[rc.1];exact(List.getElem?_eq_some_iff.1 hu').1)⟩;exact(rc.2 i c u hc hu').2.2
theorem alH(hT:Gh w){x:DataW H×List MemPlace}(h:Tr w enc n 24 us.toList=some x)(hw:tH 24 x.1):∃s:Rs,OkS s/\RD w (Mm w) (ej s) (.agg us):=by
 obtain⟨y0,y1,y2,m,rfl,hl,h0,h1,h2⟩:=trod_struct3 Tryz.underlying24 h;have hl3:us.toList.length=3:=hl.trans κ;obtain⟨cs⟩:=us;simp only at hl3 h0 h1 h2
 match cs,hl3 with
 |[a,b,c],_=>
  have k0:Tr w enc m 22 [a]=some y0:=h0;have k1:Tr w enc m 3 [b]=some y1:=h1;have k2:Tr w enc m 3 [c]=some y2:=h2;have w0:tH 22 y0.1:=fun q hq=>hw q (by simp[DataW.weights,DataW.weightsEach,Tryz.underlying24];exact .inl hq);obtain⟨z1,e2,e3,_⟩:=DataW.trod_int Tryz.underlying3 k1;obtain⟨z2,e4,e5,_⟩:=DataW.trod_int Tryz.underlying3 k2;simp only[List.cons.injEq,and_true]at e2 e4;subst e2 e4;obtain⟨l,v,e4,q1,q2,q3,q4,q5⟩:=G8 (k:=7) (bs:=88) Tryz.underlying22 κ δ κ ah OkI hT (fun n cs' x=>alG hT) k0 w0;simp only[List.cons.injEq,and_true]at e4;subst e4;exact⟨⟨l,z1,z2⟩,⟨q1,by show l.length<_;unfold reachBytes at q2;omega⟩,afM ((lD.one q3 rfl q4).app ((lD.one (.v _ rfl) Z Z).app (.one (.v _ rfl) Z Z)))⟩
theorem arX(hT:Gh w){x:DataW H×List MemPlace}(h:Tr w enc n 34 cs=some x)(hw:tH 34 x.1):∃s:Rm,OkM s/\lD w (uj s) cs/\∃u,cs[0]?=some u/\EU u:=by
 obtain⟨y0,y1,m,rfl,hl,h0,h1⟩:=trod_struct2 Tryz.underlying34 h;have hl3:cs.length=9:=hl.trans κ
 match cs,hl3 with
 |[a,b,c1,c2,c3,c4,c5,c6,c7],_=>
  have k0:Tr w enc m 27 [a,b]=some y0:=h0;have k1:Tr w enc m 32 [c1,c2,c3,c4,c5,c6,c7]=some y1:=h1;have w0:tH 27 y0.1:=fun q hq=>hw q (by simp[DataW.weights,DataW.weightsEach,Tryz.underlying34];exact .inl hq);have w1:tH 32 y1.1:=fun q hq=>hw q (by simp[DataW.weights,DataW.weightsEach,Tryz.underlying34];exact .inr hq);obtain⟨d,d1,d2,_⟩:=alG hT k1 w1;obtain⟨u0,u1,m2,rfl,hl,h0,h1⟩:=trod_struct2 Tryz.underlying27 k0;have k2:Tr w enc m2 3 [a]=some u0:=h0;have k3:Tr w enc m2 25 [b]=some u1:=h1;have w2:tH 25 u1.1:=fun q hq=>w0 q (by simp[DataW.weights,DataW.weightsEach,Tryz.underlying27];exact .inr hq);obtain⟨z,e2,e3,_⟩:=DataW.trod_int Tryz.underlying3 k2;simp only[List.cons.injEq,and_true]at e2;subst e2;obtain⟨l,v,e4,q1,q2,q3,q4,q5⟩:=G8 (k:=4) (bs:=64) Tryz.underlying25 κ δ κ dE (fun t=>Ok0 t.c) hT (fun n cs' x=>aox hT) k3 w2;simp only[List.cons.injEq,and_true]at e4;subst e4;exact⟨⟨⟨z,l⟩,d⟩,⟨q1,d1,by show l.length<_;unfold reachBytes at q2;omega⟩,(lD.one (.v _ rfl) Z Z).app ((lD.one q3 rfl q4).app d2),_,rfl,rfl⟩
theorem arY(hT:Gh w){v:Value}{x:DataW H×List MemPlace}(h:Tr w enc n 47 [v]=some x)(hw:tH 47 x.1):∃l:List Rm,((∀m∈l,OkM m)/\l.length<4611686018427387904)/\RD w (Mm w) (.sl 9 (gh l)) v:=by
 obtain⟨l,v',e4,q1,q2,q3,q4,q5⟩:=G8 (k:=9) (bs:=120) Tryz.underlying47 κ δ κ (fun m:Rm=>uj m) OkM hT (fun n cs' x=>arX hT) h hw;simp only[List.cons.injEq,and_true]at e4;subst e4;exact⟨l,⟨q1,by unfold reachBytes at q2;omega⟩,q3⟩
theorem RX{a:Value}{y:DataW H×List MemPlace}(h:Tr w enc n 3 [a]=some y):∃z:Int,a=.int .i64 z:=by
 obtain⟨z,e,_,_⟩:=DataW.trod_int Tryz.underlying3 h;simp only[List.cons.injEq,and_true]at e;exact⟨z,e⟩
theorem auo{x:DataW H×List MemPlace}(h:Tr w enc n 56 cs=some x)(_:tH 56 x.1):∃o:To,True/\lD w (zO o) cs/\∃u,cs[0]?=some u/\EU u:=by
 obtain⟨xs,m,_,rfl,hl,hlen,hf⟩:=DataW.trod_struct Tryz.underlying56 h;have hl6:cs.length=6:=hl.trans κ
 match cs,hl6,xs,hlen with
 |[a,b,c,d,e,f],_,[y0,y1,y2,y3,y4],_=>
  have c3:Tryz.prog.cellsOf 3=1:=by kernel_rfl
  have c4:Tryz.prog.cellsOf 54=2:=by kernel_rfl
  have k0:Tr w enc m 3 [a]=some y0:=by simpa [c3]using hf 0 _ rfl
  have k1:Tr w enc m 3 [b]=some y1:=by simpa [c3]using hf 1 _ rfl
  have k2:Tr w enc m 3 [c]=some y2:=by simpa [c3]using hf 2 _ rfl
  have k3:Tr w enc m 3 [d]=some y3:=by simpa [c3]using hf 3 _ rfl
  have k4:Tr w enc m 54 [e,f]=some y4:=by simpa [c4]using hf 4 _ rfl
  obtain⟨y5,y6,m2,rfl,_,h5,h6⟩:=trod_struct2 Tryz.underlying54 k4;have k5:Tr w enc m2 3 [e]=some y5:=h5;have k6:Tr w enc m2 3 [f]=some y6:=h6;obtain⟨z0,rfl⟩:=RX k0;obtain⟨z1,rfl⟩:=RX k1;obtain⟨z2,rfl⟩:=RX k2;obtain⟨z3,rfl⟩:=RX k3;obtain⟨z5,rfl⟩:=RX k5;obtain⟨z6,rfl⟩:=RX k6;exact⟨⟨z0,z1,z2,z3,z5,z6⟩,trivial,(lD.one (.v _ rfl) Z Z).app ((lD.one (.v _ rfl) Z Z).app ((lD.one (.v _ rfl) Z Z).app ((lD.one (.v _ rfl) Z Z).app ((lD.one (.v _ rfl) Z Z).app (.one (.v _ rfl) Z Z))))),_,rfl,rfl⟩
theorem aoy(hT:Gh w){x:DataW H×List MemPlace}(h:Tr w enc n 46 us.toList=some x)(hw:tH 46 x.1):∃a:Int×List To×List Int,True/\RD w (Mm w) (Ug a.1 a.2.1 a.2.2) (.agg us):=by
 obtain⟨y0,y1,y2,m,rfl,hl,h0,h1,h2⟩:=trod_struct3 Tryz.underlying46 h;have hl3:us.toList.length=3:=hl.trans κ;obtain⟨cs⟩:=us;simp only at hl3 h0 h1 h2
 match cs,hl3 with
 |[a,b,c],_=>
  have k0:Tr w enc m 3 [a]=some y0:=h0;have k1:Tr w enc m 43 [b]=some y1:=h1;have k2:Tr w enc m 44 [c]=some y2:=h2;have w1:tH 43 y1.1:=fun q hq=>hw q (by simp[DataW.weights,DataW.weightsEach,Tryz.underlying46];exact .inr (.inl hq));have w2:tH 44 y2.1:=fun q hq=>hw q (by simp[DataW.weights,DataW.weightsEach,Tryz.underlying46];exact .inr (.inr hq));obtain⟨z1,rfl⟩:=RX k0;obtain⟨l,v,e4,q1,q2,q3,q4,q5⟩:=G8 (k:=6) (bs:=48) Tryz.underlying43 κ δ κ zO (fun _=>True) hT (fun n cs' x=>auo) k1 w1;simp only[List.cons.injEq,and_true]at e4;subst e4;obtain⟨o,_,r3,_⟩:=acn hT k2 w2;exact⟨(z1,l,o),trivial,afM ((lD.one (.v _ rfl) Z Z).app ((lD.one q3 rfl q4).app r3))⟩
end
abbrev TX(f:Nat)(fd:FD):Prop:=Text Go.Proofs.Tryz.prog f fd
noncomputable def txF (f:Nat) (fd:FD):Option (Option Cmd×Option (List Rv)×Bool×Bool):= (Go.Proofs.Tryz.prog.funcs[f]?).map fun fn=> (fn.body.bind fun c=>jR Go.Proofs.Tryz.prog fn.ntmps c fd.body,KG Go.Proofs.Tryz.prog fn.results.toList,decide (fn.ntmps<=1000),fn.name== "runtime.NumGoroutine")
theorem txQ{f:Nat}{fd:FD}(h:txF f fd=some (some fd.body,some fd.res,true,false)):TX f fd:=by
 unfold txF at h;obtain⟨fn,h,h2⟩:=Option.map_eq_some_iff.1 h;simp only[Prod.mk.injEq,aEQ,decide_eq_true_eq]at h2;obtain⟨⟨c,h3,h4⟩,h5,h6,h7⟩:=h2;exact⟨⟨fn,c,_,h,h3,rfl,h6,h4,h5,h7⟩⟩
set_option maxRecDepth 100000 in
theorem acp:∀p∈aoI,TX p.1 p.2:=fun p hp=>txQ (List.map_inj_left.1 (by kernel_rfl:aoI.map (fun p=>txF p.1 p.2)=aoI.map fun p=>some (some p.2.body,some p.2.res,true,false)) p hp)
end Go.Ab
