/-
  A law of tapes on models holds at every input that the statement speaks of, under the conditions that its card names. Part H1.
-/
import Derived.Test.YtighajjmobfadaaGreatDoorRows
import Derived.Deep.Strs
import Derived.ProofKit
import Derived.LaidMore
import Derived.OpenShut
import Derived.Carry
import Derived.Lib.Overlaps
import Derived.Laws.Externs
import Derived.Shelf.Slices.Clone
import Derived.Test.YtighajjmobfadaaGreatDoorProg
import Derived.Test.YtighajjmobfadaaGreatDoorG1
open Nat renaming le_refl → aCJ, le_trans → aCP, lt_of_lt_of_le → aDF, mul_le_mul_right → aCS, zero_le → aC7
open Int renaming eq_ofNat_of_zero_le → aDG, toNat_natCast → aCQ
open Bool renaming and_eq_true → aCK
open List renaming drop_eq_nil_of_le → aC3, mem_append → aEj, mem_map → aDz, take_of_length_le → aCX
open Option renaming bind_eq_some_iff → aCH, map_eq_some_iff → aCL
set_option linter.all false
namespace Go.Ab
open Go Go.Proofs Go.ChangeShapes Go.WideShapes Go.Deep Go.RowKit Go.Shelf Go.Proofs.Tryz
set_option maxRecDepth 100000
variable{P:Program}{a:Addr}{cs:List Value}{e:TypeId}{n:Nat}{us vals:Array Value}
section
variable {H:Type} {enc:TypeId × Value→H} {w:World}
def KB(w:World)(b:Nat):Prop:=b<w.heap.size
def GB(w:World):Prop:=∀o v,w.cell? ⟨0,o,none⟩=some v->∃n,v=.int .u8 n
def ED(u:Value):Prop:=u=u
theorem arW(_:GB w){u:Value}(h:w.cell? a=some u)(_:ED u):KB w a.block/\a.spot=none:=by
 have h1:a.spot=none:=by
  unfold World.cell? at h;split at h
  ·split at h
   ·cases h
   ·rename_i hs;simpa using hs
  ·cases h
 refine⟨?_,h1⟩;unfold World.cell? at h;split at h
 ·rename_i hb;exact(Array.getElem?_eq_some_iff.1 hb).1
 ·cases h
def qQ(w:World)(fs:List AV)(cs:List Value):Prop:=
 fs.length=cs.length/\∀ (j:Nat) (c:AV) (u:Value),fs[j]?=some c->cs[j]?=some u->RD w (KB w) c u/\aJ c=true/\u.oneCell'=true
theorem qQ.app{fa fb:List AV}{ca cb:List Value}(ha:qQ w fa ca)(hb:qQ w fb cb):qQ w (fa++fb) (ca++cb):=by
 refine⟨by simp[ha.1,hb.1],fun j c u h1 h2=>?_⟩;by_cases hj:j<fa.length
 ·rw[List.getElem?_append_left hj]at h1;rw[List.getElem?_append_left (by rw[←ha.1];exact hj)]at h2;exact ha.2 j c u h1 h2
 ·rw[List.getElem?_append_right ω]at h1;rw[List.getElem?_append_right (by rw[←ha.1];omega),←ha.1]at h2;exact hb.2 _ c u h1 h2
theorem qQ.one{c:AV}{u:Value}(h:RD w (KB w) c u)(hd:aJ c=true)(h1:u.oneCell'=true):qQ w [c] [u]:=by
 refine⟨rfl,fun j c' u' hc hu=>?_⟩;cases j with
 |zero=>simp at hc hu;subst hc hu;exact⟨h,hd,h1⟩
 |succ j=>simp at hc
noncomputable abbrev Tr (w:World) (enc:TypeId×Value->H) (n:Nat) (t:TypeId) (cs:List Value):Option (DataW H×List MemPlace):=DataW.trod enc Tryz.prog w 0 (fun _=>true) true n t cs
def tV(t:TypeId)(d:DataW H):Prop:=∀m∈DataW.weights Tryz.prog t d,m<=reachBytes
theorem arX{e:TypeId}:∀ {l:List (DataW H)} {d:DataW H} {m:Nat},d∈l->m∈DataW.weights Tryz.prog e d->m∈DataW.weightsAll Tryz.prog e l
 |[],d,m,h,_=>by simp at h
 |a::l,d,m,h,hm=>by
  simp only[DataW.weightsAll,aEj];rcases List.mem_cons.1 h with rfl|h
  ·exact .inl hm
  ·exact .inr (arX h hm)
theorem adi{α:Type}{p:Nat->α->Prop}:∀ (n:Nat),(∀i,i<n->∃r,p i r)->∃l:List α,l.length=n/\∀ (i:Nat) (r:α),l[i]?=some r->p i r
 |0,_=>⟨[],rfl,fun i r h=>by simp at h⟩
 |n+1,h=>by
  obtain⟨l,h1,h2⟩:=adi n fun i hi=>h i ω;obtain⟨r,hr⟩:=h n ω;refine⟨l++[r],by simp[h1],fun i r' hi=>?_⟩;by_cases hin:i<n
  ·rw[List.getElem?_append_left ω]at hi;exact h2 i r' hi
  ·rw[List.getElem?_append_right ω]at hi;have:i=n:=by
    have:=(List.getElem?_eq_some_iff.1 hi).1;simp at this;omega
   subst this;simp[h1]at hi;subst hi;exact hr
theorem IS{α:Type}{t:TypeId}{k bs:Nat}(ht:Tryz.prog.underlying t=some (.slice e))(hk:Tryz.prog.cellsOf e=k)(h0:0<k)(hbs:Tryz.prog.bytesOf e=bs)(F:α->List AV)(Q:α->Prop)(hT:GB w)
  (hrow:∀n cs' x,Tr w enc n e cs'=some x->tV e x.1->∃r,Q r/\qQ w (F r) cs'/\∃u,cs'[0]?=some u/\ED u) {fuel:Nat} {x:DataW H×List MemPlace}
  (h:Tr w enc fuel t cs=some x) (hw:tV t x.1):∃ (l:List α) (v:Value),cs=[v]/\(∀r∈l,Q r)/\l.length*bs<=reachBytes/\RD w (KB w) (.sl k (l.map F)) v/\v.oneCell'=true/\ED v:=by
 rcases open_slice ht h with⟨rfl,_⟩| ⟨a,len,cap,m,n,D,Pl,rfl,hb,hl,hm,hmm,rfl,hx⟩
 ·exact⟨[],_,rfl,fun r hr=>by simp at hr,by simp,.sl k [] none 0 ⟨0,0,none⟩ (fun _ _=>undef) σ (fun h=>absurd rfl h) (fun r hr=>by simp at hr) (fun i r j c hr=>by simp at hr) (fun r hr=>by simp at hr) (fun i r j c hr=>by simp at hr),rfl,rfl⟩
 ·have hlm:len<=m:=by rw[hmm];split<;>omega
  have hwe:∀i,i<len->tV e (D i):=fun i hi q hq=>by
   refine hw q ?_;simp only[DataW.weights,ht,List.mem_cons,aEj];exact .inr (.inl (arX (List.mem_map.2 ⟨i,List.mem_range.2 hi,rfl⟩) hq))
  have hbn:len*bs<=reachBytes:=by
   have:=hw ((((List.range len).map D).length+((List.range (m-len)).map fun j=>D (len+j)).length)*Tryz.prog.bytesOf e) (by simp[DataW.weights,ht]);simp only[List.length_map,List.length_range,hbs]at this;exact aCP (aCS _ ω) this
  obtain⟨l,l1,l2⟩:=adi (p:=fun i r=>Q r/\∃cs',w.cells? 0 (a.add (i*k)) k=some cs'/\qQ w (F r) cs'/\∃u,cs'[0]?=some u/\ED u) len fun i hi=>by
   obtain⟨cs',h1,h2⟩:=hx i ω;obtain⟨r,g1,g2,g3⟩:=hrow _ _ _ h2 (hwe i hi);rw[hk]at h1;exact⟨r,g1,cs',h1,g2,g3⟩
  have cell:∀ (i:Nat) (row:List AV) (j:Nat) (c:AV),(l.map F)[i]?=some row->row[j]?=some c->∃u,w.cell? (a.add (i*k+j))=some u/\RD w (KB w) c u/\aJ c=true:=fun i row j c hi hj=>by
   simp only[List.getElem?_map,aCL]at hi;obtain⟨r,hr,rfl⟩:=hi;obtain⟨_,cs',c1,c2,_⟩:=l2 i r hr;obtain⟨_,c3,c4⟩:=World.cells?_some c1;have hjk:j<k:=by
    have:=(List.getElem?_eq_some_iff.1 hj).1;rw[c2.1,c3]at this;exact this
   have:=c4 j hjk;rw[Fu]at this;obtain⟨u,hu⟩:∃u,cs'[j]?=some u:=⟨cs'[j]'(by omega),by simp⟩;exact⟨u,by rw[this,hu],(c2.2 j c u hj hu).1,(c2.2 j c u hj hu).2.1⟩
  refine⟨l,_,rfl,fun r hr=>?_,by rw[l1];exact hbn,?_,rfl,rfl⟩
  ·obtain⟨i,hi⟩:=List.getElem?_of_mem hr;exact(l2 i r hi).1
  ·have:=RD.sl (w:=w) (A:=KB w) k (l.map F) (some a) cap a (fun i j=>(w.cell? (a.add (i*k+j))).getD undef) (by simp[l1,hl]) (fun hne=>?_) (fun row hr=>?_) (fun i row j c hi hj=>?_) (fun row hr c hc=>?_) (fun i row j c hi hj=>?_)
   ·simpa [l1]using this
   ·have hlen:0<l.length:=List.length_pos_iff.2 fun e=>hne (by simp[e]);obtain⟨_,cs',c1,c2,u,c3,c4⟩:=l2 0 l[0] σ;have:=(World.cells?_some c1).2.2 0 h0;rw[c3,Nat.zero_mul,GL,GL]at this;obtain⟨q1,q2⟩:=arW hT this c4;exact⟨rfl,q1,q2⟩
   ·simp only[aDz]at hr;obtain⟨r,hr,rfl⟩:=hr;obtain⟨i,hi⟩:=List.getElem?_of_mem hr;obtain⟨_,cs',c1,c2,_⟩:=l2 i r hi;rw[c2.1];exact(World.cells?_some c1).2.1
   ·obtain⟨u,q1,_⟩:=cell i row j c hi hj;rw[q1];rfl
   ·obtain⟨i,hi⟩:=List.getElem?_of_mem hr;obtain⟨j,hj⟩:=List.getElem?_of_mem hc;obtain⟨u,_,_,q⟩:=cell i row j c hi hj;exact q
   ·obtain⟨u,q1,q2,_⟩:=cell i row j c hi hj;rw[q1];exact q2
theorem apo{x:DataW H×List MemPlace}(h:Tr w enc n 109 cs=some x)(_:tV 109 x.1):∃r:Nat,r<4294967296/\qQ w [U (r:Int)] cs/\∃u,cs[0]?=some u/\ED u:=by
 obtain⟨z,rfl,rfl,hw⟩:=DataW.trod_int Tryz.underlying109 h;simp only[Lit.wf,aCK,decide_eq_true_eq]at hw;have h1:(0:Int)<=z:=hw.1;have h2:z<=4294967295:=hw.2;obtain⟨m,rfl⟩:∃m:Nat,z=m:=⟨z.toNat,by omega⟩;exact⟨m,by omega,.one (.v _ rfl) rfl rfl,_,rfl,rfl⟩
theorem apq{x:DataW H×List MemPlace}(h:Tr w enc n 3 cs=some x)(_:tV 3 x.1):∃r:Int,True/\qQ w [I r] cs/\∃u,cs[0]?=some u/\ED u:=by
 obtain⟨z,rfl,rfl,hw⟩:=DataW.trod_int Tryz.underlying3 h;exact⟨z,trivial,.one (.v _ rfl) rfl rfl,_,rfl,rfl⟩
theorem ajk(hT:GB w){x:DataW H×List MemPlace}(h:Tr w enc n 28 cs=some x)(hw:tV 28 x.1):∃m:List Nat,(Lb m/\m.length<4611686018427387904)/\qQ w [lm m] cs/\∃u,cs[0]?=some u/\ED u:=by
 obtain⟨l,v,rfl,h1,h2,h3,h4,h5⟩:=IS (k:=1) (bs:=4) Tryz.underlying28 κ δ κ (fun(r:Nat)=>[U (r:Int)]) (fun r=>r<4294967296) hT (fun n cs' x=>apo) h hw;refine⟨l,⟨h1,?_⟩,.one h3 rfl h4,_,rfl,h5⟩;unfold reachBytes at h2;omega
theorem alZ(hT:GB w){x:DataW H×List MemPlace}(h:Tr w enc n 59 cs=some x)(hw:tV 59 x.1):∃m:List Int,True/\qQ w [.sl 1 (aV m)] cs/\∃u,cs[0]?=some u/\ED u:=by
 obtain⟨l,v,rfl,h1,h2,h3,h4,h5⟩:=IS (k:=1) (bs:=8) Tryz.underlying59 κ δ κ (fun(r:Int)=>[I r]) (fun r=>True) hT (fun n cs' x=>apq) h hw;exact⟨l,trivial,.one h3 rfl h4,_,rfl,h5⟩
theorem Z6(hT:GB w){x:DataW H×List MemPlace}(h:Tr w enc n 30 cs=some x)(hw:tV 30 x.1):∃d:Rd,Ok0 d/\qQ w (ai d) cs/\∃u,cs[0]?=some u/\ED u:=by
 obtain⟨y0,y1,y2,m,rfl,hl,h0,h1,h2⟩:=trod_struct3 Tryz.underlying30 h;have hl3:cs.length=3:=hl.trans κ
 match cs,hl3 with
 |[a,b,c],_=>
  have k0:Tr w enc m 4 [a]=some y0:=h0;have k1:Tr w enc m 28 [b]=some y1:=h1;have k2:Tr w enc m 3 [c]=some y2:=h2;have w1:tV 28 y1.1:=fun q hq=>hw q (by simp[DataW.weights,DataW.weightsEach,Tryz.underlying30];exact .inr (.inl hq));obtain⟨bb,e0,e1⟩:=DataW.trod_bool Tryz.underlying4 k0;simp only[List.cons.injEq,and_true]at e0;subst e0;obtain⟨l,⟨q1,q2⟩,q3,_⟩:=ajk hT k1 w1;obtain⟨z,e2,e3,_⟩:=DataW.trod_int Tryz.underlying3 k2;simp only[List.cons.injEq,and_true]at e2;subst e2;exact⟨⟨bb,l,z⟩,⟨q1,q2⟩,(qQ.one (.v _ rfl) rfl rfl).app (q3.app (.one (.v _ rfl) rfl rfl)),_,rfl,rfl⟩
theorem al0(hT:GB w){x:DataW H×List MemPlace}(h:Tr w enc n 72 cs=some x)(hw:tV 72 x.1):∃d:Rt,Ok0 d.c/\qQ w (ce d) cs/\∃u,cs[0]?=some u/\ED u:=by
 obtain⟨y0,y1,m,rfl,hl,h0,h1⟩:=trod_struct2 Tryz.underlying72 h;have hl3:cs.length=4:=hl.trans κ
 match cs,hl3 with
 |[a,b,c,d],_=>
  have k0:Tr w enc m 59 [a]=some y0:=h0;have k1:Tr w enc m 30 [b,c,d]=some y1:=h1;have w0:tV 59 y0.1:=fun q hq=>hw q (by simp[DataW.weights,DataW.weightsEach,Tryz.underlying72];exact .inl hq);have w1:tV 30 y1.1:=fun q hq=>hw q (by simp[DataW.weights,DataW.weightsEach,Tryz.underlying72];exact .inr hq);obtain⟨l,_,q3,q4⟩:=alZ hT k0 w0;obtain⟨d,d1,d2,_⟩:=Z6 hT k1 w1;exact⟨⟨l,d⟩,d1,q3.app d2,q4⟩
theorem ajl(hT:GB w){x:DataW H×List MemPlace}(h:Tr w enc n 32 cs=some x)(hw:tV 32 x.1):∃d:Ri,OkI d/\qQ w (ao d) cs/\∃u,cs[0]?=some u/\ED u:=by
 obtain⟨y0,y1,y2,m,rfl,hl,h0,h1,h2⟩:=trod_struct3 Tryz.underlying32 h;have hl3:cs.length=7:=hl.trans κ
 match cs,hl3 with
 |[a,b,c,d,e,f,g],_=>
  have k0:Tr w enc m 30 [a,b,c]=some y0:=h0;have k1:Tr w enc m 30 [d,e,f]=some y1:=h1;have k2:Tr w enc m 4 [g]=some y2:=h2;have w0:tV 30 y0.1:=fun q hq=>hw q (by simp[DataW.weights,DataW.weightsEach,Tryz.underlying32];exact .inl hq);have w1:tV 30 y1.1:=fun q hq=>hw q (by simp[DataW.weights,DataW.weightsEach,Tryz.underlying32];exact .inr (.inl hq));obtain⟨d0,p1,p2,p3⟩:=Z6 hT k0 w0;obtain⟨d1,q1,q2,_⟩:=Z6 hT k1 w1;obtain⟨bb,e0,e1⟩:=DataW.trod_bool Tryz.underlying4 k2;simp only[List.cons.injEq,and_true]at e0;subst e0;exact⟨⟨d0,d1,bb⟩,⟨p1,q1⟩,p2.app (q2.app (.one (.v _ rfl) rfl rfl)),p3⟩
theorem arY{x:DataW H×List MemPlace}(h:Tr w enc n 5 cs=some x)(_:tV 5 x.1):∃r:Nat,True/\qQ w [.v (.int .u8 (r:Int))] cs/\∃u,cs[0]?=some u/\ED u:=by
 obtain⟨z,rfl,rfl,hw⟩:=DataW.trod_int Tryz.underlying5 h;simp only[Lit.wf,aCK,decide_eq_true_eq]at hw;have h1:(0:Int)<=z:=hw.1;obtain⟨r,rfl⟩:∃m:Nat,z=m:=⟨z.toNat,by omega⟩;exact⟨r,trivial,.one (.v _ rfl) rfl rfl,_,rfl,rfl⟩
theorem apr(hT:GB w){v:Value}{x:DataW H×List MemPlace}(h:Tr w enc n 35 [v]=some x)(hw:tV 35 x.1):∃l:List Nat,True/\RD w (KB w) (.sl 1 (Og l)) v:=by
 obtain⟨l,v',e4,q1,q2,q3,q4,q5⟩:=IS (k:=1) (bs:=1) Tryz.underlying35 κ δ κ (fun(r:Nat)=>[.v (.int .u8 (r:Int))]) (fun _=>True) hT (fun n cs' x=>arY) h hw;simp only[List.cons.injEq,and_true]at e4;subst e4;exact⟨l,trivial,q3⟩
theorem adj{fs:List AV}(rc:qQ w fs us.toList):RD w (KB w) (.agg fs) (.agg us):=by
 refine .agg _ _ (by have:=rc.1;simpa using this.symm) (fun i u hu=>?_) fun i c u hc hu=>(rc.2 i c u hc (by simpa using hu)).1;have hu':us.toList[i]?=some u:=by simpa using hu
 obtain⟨c,hc⟩:∃c,fs[i]?=some c:=⟨_,List.getElem?_eq_getElem (by rw[rc.1];exact(List.getElem?_eq_some_iff.1 hu').1)⟩;exact(rc.2 i c u hc hu').2.2
theorem ajm(hT:GB w){x:DataW H×List MemPlace}(h:Tr w enc n 24 us.toList=some x)(hw:tV 24 x.1):∃s:Rs,OkS s/\RD w (KB w) (oj s) (.agg us):=by
 obtain⟨y0,y1,y2,m,rfl,hl,h0,h1,h2⟩:=trod_struct3 Tryz.underlying24 h;have hl3:us.toList.length=3:=hl.trans κ;obtain⟨cs⟩:=us;simp only at hl3 h0 h1 h2
 match cs,hl3 with
 |[a,b,c],_=>
  have k0:Tr w enc m 22 [a]=some y0:=h0;have k1:Tr w enc m 3 [b]=some y1:=h1;have k2:Tr w enc m 3 [c]=some y2:=h2;have w0:tV 22 y0.1:=fun q hq=>hw q (by simp[DataW.weights,DataW.weightsEach,Tryz.underlying24];exact .inl hq);obtain⟨z1,e2,e3,_⟩:=DataW.trod_int Tryz.underlying3 k1;obtain⟨z2,e4,e5,_⟩:=DataW.trod_int Tryz.underlying3 k2;simp only[List.cons.injEq,and_true]at e2 e4;subst e2 e4;obtain⟨l,v,e4,q1,q2,q3,q4,q5⟩:=IS (k:=7) (bs:=88) Tryz.underlying22 κ δ κ ao OkI hT (fun n cs' x=>ajl hT) k0 w0;simp only[List.cons.injEq,and_true]at e4;subst e4;exact⟨⟨l,z1,z2⟩,⟨q1,by show l.length<_;unfold reachBytes at q2;omega⟩,adj ((qQ.one q3 rfl q4).app ((qQ.one (.v _ rfl) rfl rfl).app (.one (.v _ rfl) rfl rfl)))⟩
theorem ajn(hT:GB w){x:DataW H×List MemPlace}(h:Tr w enc n 34 us.toList=some x)(hw:tV 34 x.1):∃s:Rm,OkM s/\RD w (KB w) (fS s) (.agg us):=by
 obtain⟨y0,y1,m,rfl,hl,h0,h1⟩:=trod_struct2 Tryz.underlying34 h;have hl3:us.toList.length=9:=hl.trans κ;obtain⟨cs⟩:=us;simp only at hl3 h0 h1
 match cs,hl3 with
 |[a,b,c1,c2,c3,c4,c5,c6,c7],_=>
  have k0:Tr w enc m 27 [a,b]=some y0:=h0;have k1:Tr w enc m 32 [c1,c2,c3,c4,c5,c6,c7]=some y1:=h1;have w0:tV 27 y0.1:=fun q hq=>hw q (by simp[DataW.weights,DataW.weightsEach,Tryz.underlying34];exact .inl hq);have w1:tV 32 y1.1:=fun q hq=>hw q (by simp[DataW.weights,DataW.weightsEach,Tryz.underlying34];exact .inr hq);obtain⟨d,d1,d2,_⟩:=ajl hT k1 w1;obtain⟨u0,u1,m2,rfl,hl,h0,h1⟩:=trod_struct2 Tryz.underlying27 k0;have k2:Tr w enc m2 3 [a]=some u0:=h0;have k3:Tr w enc m2 25 [b]=some u1:=h1;have w2:tV 25 u1.1:=fun q hq=>w0 q (by simp[DataW.weights,DataW.weightsEach,Tryz.underlying27];exact .inr hq);obtain⟨z,e2,e3,_⟩:=DataW.trod_int Tryz.underlying3 k2;simp only[List.cons.injEq,and_true]at e2;subst e2;obtain⟨l,v,e4,q1,q2,q3,q4,q5⟩:=IS (k:=4) (bs:=64) Tryz.underlying25 κ δ κ ce (fun t=>Ok0 t.c) hT (fun n cs' x=>al0 hT) k3 w2;simp only[List.cons.injEq,and_true]at e4;subst e4;exact⟨⟨⟨z,l⟩,d⟩,⟨q1,d1,by show l.length<_;unfold reachBytes at q2;omega⟩,adj ((qQ.one (.v _ rfl) rfl rfl).app ((qQ.one q3 rfl q4).app d2))⟩
end
theorem J6{args:List AV}(h:vals.size=args.length){i:Nat}{c:AV}(hc:args[i]?=some c):∃u,vals[i]?=some u:=by
 have:i<args.length:=(List.getElem?_eq_some_iff.1 hc).1;exact⟨vals[i]'(by omega),by simp[h,this]⟩
theorem ayr{a:Value}(h:vals.size=1)(h0:vals[0]?=some a):vals=#[a]:=by
 apply Array.ext_getElem?;intro i
 match i with
 |0=>simpa using h0
 |i+1=>simp[h]
theorem ays{a b:Value}(h:vals.size=2)(h0:vals[0]?=some a)(h1:vals[1]?=some b):vals=#[a,b]:=by
 apply Array.ext_getElem?;intro i
 match i with
 |0=>simpa using h0
 |1=>simpa using h1
 |i+2=>simp[h]
theorem Va{w:World}(h:w.heap[a.block]?=some (.cells us e (0,0))):w.frozen? a=false:=by
 simp[World.frozen?,h]
theorem aps(w:World)(tS tR e:TypeId)(ht:P.underlying tS=some (.slice e))(size:Nat)(hz:∀w,(Go.sizeOf e).run P w=.ok size w)(a:Addr)(b:Option Addr)(la ca cb:Nat):
  (Extern.SlicesOverlaps.overlaps #[tS,tS] #[tR] #[.slice (some a) la ca,.slice b 0 cb]).run P w=.ok (.bool false) w:=by
 change Sem.run P (α:=Value) (do
  let some t:= (#[tS,tS]:Array TypeId)[0]?|stuck "slices.overlaps: no parameter types"
  let .slice elem←underlying t|stuck "slices.overlaps: slice type expected"
  let size←sizeOf elem
  match (some a:Option Addr),b with
  |some a,some b=>
   if la=0\/0=0\/size=0 then pure (Value.bool false)
   else if a.block !=b.block&& (←frozen a)&& (←frozen b)then unsupported .addressObserved
   else do
    if a.block !=b.block then do
     noView a;noView b
     if←mayBeOne a b then return Value.bool ((←choose (.extern "sameAddr.stringBytes" 2))==1)
    pure (Value.bool (a.block==b.block&&a.off<b.off+0*size&&b.off<a.off+la*size))
  |_,_=>pure (Value.bool false)) w=_
 cases b<;>simp[run_underlying ht,hz]
theorem arZ(w:World)(tS tR e:TypeId)(ht:P.underlying tS=some (.slice e))(size:Nat)(hz:∀w,(Go.sizeOf e).run P w=.ok size w)
  (a b:Addr) (la ca lb cb:Nat) (hne:a.block≠b.block) (tA:TypeId) (kA:Nat) {tB:TypeId}
  (hkA:kA≠0) (hsa:w.shape? a.block=some (tA,kA)) (hb:w.heap[b.block]?=some (.cells us tB (0,0))) (hu:us.size≠0):
  (Extern.SlicesOverlaps.overlaps #[tS,tS] #[tR] #[.slice (some a) la ca,.slice (some b) lb cb]).run P w=.ok (.bool false) w:=by
 have hnb:(a.block !=b.block)=true:=by simpa using hne
 have hnb':(a.block==b.block)=false:=by simpa using hne
 have hsb:w.shape? b.block=some (tB,us.size):=by simp[World.shape?,hb]
 have hfb:w.frozen? b=false:=Va hb;have hfe:w.frozen? {block:=b.block,off:=us.size}=false:=Va (a:=⟨b.block,us.size,none⟩) hb;change Sem.run P (α:=Value) (do
  let some t:= (#[tS,tS]:Array TypeId)[0]?|stuck "slices.overlaps: no parameter types"
  let .slice elem←underlying t|stuck "slices.overlaps: slice type expected"
  let size←sizeOf elem
  match (some a:Option Addr),(some b:Option Addr)with
  |some a,some b=>
   if la=0\/lb=0\/size=0 then pure (Value.bool false)
   else if a.block !=b.block&& (←frozen a)&& (←frozen b)then unsupported .addressObserved
   else do
    if a.block !=b.block then do
     noView a;noView b
     if←mayBeOne a b then return Value.bool ((←choose (.extern "sameAddr.stringBytes" 2))==1)
    pure (Value.bool (a.block==b.block&&a.off<b.off+lb*size&&b.off<a.off+la*size))
  |_,_=>pure (Value.bool false)) w=_
 by_cases h0:la=0\/lb=0\/size=0
 ·simp[run_underlying ht,hz,h0]
 ·obtain⟨n,hn⟩:∃n,us.size=n+1:=⟨us.size-1,by omega⟩;rw[hn]at hsb hfe;obtain⟨kA,rfl⟩:∃k,kA=k+1:=⟨kA-1,by omega⟩;cases hfa:w.frozen? a<;>cases hfa2:w.frozen? {block:=a.block,off:=kA+1}<;>
   simp[run_underlying ht,hz,h0,hnb,hnb',frozen,noView,viewAt,mayBeOne,stringish,shape,Sem.run,hsa,hsb,hfa,hfa2,hfb,hfe]
theorem afN{w:World}{v:Value}(h:w.cell? a=some v):∃t k,k≠0/\w.shape? a.block=some (t,k):=by
 unfold World.cell? at h;split at h
 ·rename_i cs t fr hb;refine⟨t,cs.size,fun h0=>?_,by unfold World.shape?;rw[hb]⟩;split at h
  ·cases h
  ·have:=(Array.getElem?_eq_some_iff.1 h).1;omega
 ·cases h
theorem ar0{I:Inv}{f:FuncId}{fn:Func}{tS tR:TypeId}{size:Nat}(hf:P.funcs[f]?=some fn)(hname: (fn.name== "runtime.NumGoroutine")=false)(hb:fn.body.isNone=true)(hn:Extern.findNext fn=none)
  (he:Extern.find fn=some (Extern.SlicesOverlaps.overlaps #[tS,tS] #[tR])) (ht:P.underlying tS=some (.slice e)) (hz:∀w,(Go.sizeOf e).run P w=.ok size w):si P I false f (ovF 4):=by
 intro args obs obs' res w X ρ vals n hz' hn' hi hr hs hv;unfold ovF at hz';split at hz'
 ·rename_i k0 row rows k1 lo m k2 rows2;split at hz'
  ·rename_i hk;obtain⟨rfl,rfl,rfl⟩:=hk;cases hz';obtain⟨u0,h0⟩:=J6 hs (i:=0) rfl;obtain⟨u1,h1⟩:=J6 hs (i:=1) rfl;have e0:=hv 0 _ _ rfl h0;have e1:=hv 1 _ _ rfl h1;obtain rfl:=ays hs h0 h1;have d0:=e0.sl_inv;obtain⟨a1,cap1,rfl,hp,hn1,hb1,ha1⟩:=e1.rsl_inv;have ho:RO w (aQ w X (ax [.ar 4 rows2]) ρ) ρ (ax [.ar 4 rows2]) 1000 (.ar 4 rows2):=hr.ob 1000;obtain⟨us,tB,g1,g2,g3,g4⟩:=ho;have hlive:live (ax [.ar 4 rows2]) 1000 none:=trivial;cases d0 with
   |sl _ _ a cap ad vs hc ha hk hv2 hl hr2=>
    obtain⟨rfl,hA,hsp⟩:=ha σ;have hlen:=hk row σ;obtain⟨c,hrow⟩:∃c,row[0]?=some c:=⟨row[0]'(by omega),by simp⟩;have hcell:=hv2 0 row 0 c rfl hrow;obtain⟨tA,kA,hkA,hsh⟩:=afN hcell;rw[qZ]at hsh;have run:(callFunc f #[.slice (some ad) (row::rows).length cap,.slice a1 m cap1]).run P w=.ok (.value (.bool false)) w:=by
     rw[run_callFunc_extern hf hname hb hn he];by_cases hm:m=0
     ·subst hm;rw[aps w tS tR e ht size hz];rfl
     ·rcases ha1 with h|rfl
      ·omega
      ·rw[arZ w tS tR e ht size hz ad ⟨(ρ 1000 none).1,lo*4,none⟩ _ cap m cap1 (fun hh=>hA.2.2 ⟨1000,none,hlive,hh.symm⟩) tA kA hkA hsh g1 ω];rfl
    unfold Enters;rw[run];exact⟨ρ,hr,.refl _ _ _ _,.dat (.v _ rfl)⟩
  ·cases hz'
 ·cases hz'
theorem apt{I:Inv}(hR:si P I false feq (R0 feq)):si P I false feq (XF 4 64):=by
 intro args obs obs' res w X ρ vals n hz hn hi hr hs hv;unfold XF at hz;split at hz
 ·rename_i k0 r;split at hz
  ·rename_i hk;subst hk;cases hz;exact hR apk hn hi hr hs hv
  ·cases hz
 ·rename_i k1 m i k0 r k2 rows;split at hz
  ·rename_i hk;obtain⟨rfl,rfl,rfl,rfl,hi0,hi1,hb⟩:=hk;cases hz;obtain⟨i,rfl⟩:=aDG hi0;rw[aCQ];by_cases hend:i=rows.length
   ·subst hend;have:=hR (ajh (r:=r) rfl hb) hn hi hr hs hv;rw[aCX (aCJ _),aC3 (aCJ _)];exact this
   ·have hlt:i<rows.length:=ω
    obtain⟨u0,h0⟩:=J6 hs (i:=0) rfl;obtain⟨a,cap,rfl,hp,hn1,hb1,ha⟩:=(hv 0 _ _ rfl h0).rsl_inv;have hv':∀ (j:Nat) (c:AV) (u:Value),[AV.rsc 1000 4 0 rows.length cap,.v (.int .i64 i),.sl 4 [r]][j]?=some c->vals[j]?=some u->RV w (aQ w X (ax [.ar 4 rows]) ρ) ρ (ax [.ar 4 rows]) c u:=by
     intro j c u hc hu
     match j,hc with
     |0,hc=>
      cases hc;rw[h0]at hu;cases hu;exact .rsc 1000 4 0 _ cap a hp hn1 hb1 ha
     |j+1,hc=>exact hv (j+1) c u hc hu
    rcases Nat.lt_or_ge rows.length cap with hc|hc
    ·exact hR (apn rfl hlt hc hb) hn hi hr hs hv'
    ·obtain rfl:cap=rows.length:=ω
     refine(hR (apm rfl hlt hb) hn hi hr hs hv').mono fun v w' ⟨ρ',q1,q2,q3⟩=>?_;generalize rows.take i++r::rows.drop i=L at q1 q2 q3⊢;have hd:=P8 q1 (id:=1000) (k:=4) (rows:=rows) (by
      show(if 1000=n then _ else _)=_;rw[if_neg ω];rfl)
     have eq:upd (mat n (ax [.ar 4 rows]) (.osl 4 L)).2 1000 .dead=(mat n (ax [.dead]) (.osl 4 L)).2:=by
      show upd (upd (ax [.ar 4 rows]) n (.ar 4 L)) 1000 .dead=upd (ax [.dead]) n (.ar 4 L);rw[Cu,Cu];funext j;unfold upd;by_cases h1:j=1000
      ·rw[if_pos h1,if_neg ω,if_pos h1]
      ·rw[if_neg h1,if_neg h1,if_neg h1]
     rw[eq]at hd;refine⟨ρ',hd.1,q2.trans (hd.2.far rfl),hd.2.rvk q3 (.inr ?_)⟩;show kq [(1000,false)] n none=false;simp[kq];omega
  ·cases hz
 ·cases hz
theorem Vb{w w':World}{X:Nat->Prop}{ρ:eZ}(hr:Rel w X ρ (ax []))(hb:Below w.heap.size w w'):Rel w' X ρ (ax [])/\Far false w ρ (ax []) w' ρ (ax []):=by
 have hl:∀id sub,¬live (ax []) id sub:=fun id sub=>by
  have hd:ax [] id=.dead:=by
   unfold ax;split<;>simp
  cases sub with
  |none=>simp[live,hd]
  |some p=>simp[live,hd]
 refine⟨⟨fun id sub _ _ h=>(hl id sub h).elim,fun id sub h=>(hl id sub h).elim,fun id=>?_,fun b hb'=>aDF (hr.xl b hb') hb.size⟩,hb.os,hb.tape,hb.output,hb.size,fun b h1 _=>hb.block b h1,fun b ⟨id,sub,h,_⟩=>(hl id sub h).elim,fun id _ h=>?_,fun h=>by cases h⟩
 ·have hd:ax [] id=.dead:=by
   unfold ax;split<;>simp
  rw[hd];trivial
 ·exfalso;apply h;unfold ax;split<;>simp
theorem ar1{I:Inv}{ρ0:Ren}(L:Lays2.n15 P ρ0)(hf:ρ0.f 15=fd8)(he:∀a w,(callFunc fd8 a).run P w=.ok (.enter fd8 a) w)
  (hR:si P I false fd8 (R0 fd8)):si P I false fd8 clF:=by
 intro args obs obs' res w X ρ vals n hz hn hi hr hs hv;unfold clF at hz;split at hz
 ·cases hz;obtain⟨u0,h0⟩:=J6 hs (i:=0) rfl;have d0:=(hv 0 _ _ rfl h0).sl_inv;obtain rfl:=ayr hs h0;cases d0 with
  |sl _ _ a cap ad vs hc ha hk hv2 hl hr2=>
   unfold Enters;rw[he];have fin:∀ (w':World) (b:Option Addr) (c:Nat),Below w.heap.size w w'->∃ρ',Rel w' X ρ' (mat n (ax []) (.sl 1 [])).2/\Far false w ρ (ax []) w' ρ' (mat n (ax []) (.sl 1 [])).2/\
     RV w' (aQ w' X (mat n (ax []) (.sl 1 [])).2 ρ') ρ' (mat n (ax []) (.sl 1 [])).2 (mat n (ax []) (.sl 1 [])).1 (.slice b 0 c):=fun w' b c hb=>
    ⟨ρ,(Vb hr hb).1,(Vb hr hb).2,.dat (.sl 1 [] b c ad vs (aC7 _) (fun h=>absurd rfl h) (fun _ h=>by cases h) (fun i row j c h=>by simp at h) (fun _ h=>by cases h) (fun i row j c h=>by simp at h))⟩
   cases a with
   |none=>
    have key:=Any.slices_Clone_int_nil L 0 cap w;rw[hf]at key;refine Calls.mono key fun e w' hw=>?_;obtain⟨rfl,rfl⟩:=hw;exact fin _ _ _ (Below.refl _ _)
   |some a0=>
    have key:=Any.slices_Clone_int_zero L a0 cap w;rw[hf]at key;refine Calls.mono key fun e w' hw=>?_;obtain⟨v',rfl,⟨_,hown⟩,_,hb⟩:=hw;rcases hown with⟨rfl,_⟩| ⟨g,c2,Kx,rfl,_⟩
    ·exact fin _ _ _ hb
    ·exact fin _ _ _ hb
 ·rename_i r rs;split at hz
  ·rename_i hb;cases hz;exact hR (alX hb) hn hi hr hs hv
  ·cases hz
 ·cases hz
abbrev TX(f:Nat)(fd:FD):Prop:=Text Go.Proofs.Tryz.prog f fd
theorem tx{f:Nat}{fd:FD}{fn:Func}(h:Go.Proofs.Tryz.prog.funcs[f]?=some fn)(h2: (fn.body.bind fun c=>ju Go.Proofs.Tryz.prog fn.ntmps c fd.body,I0 Go.Proofs.Tryz.prog fn.results.toList,decide (fn.ntmps<=1000),fn.name== "runtime.NumGoroutine")= (some fd.body,some fd.res,true,false)):TX f fd:=by
 simp only[Prod.mk.injEq,aCH,decide_eq_true_eq]at h2;obtain⟨⟨c,h3,h4⟩,h5,h6,h7⟩:=h2;exact⟨⟨fn,c,_,h,h3,rfl,h6,h4,h5,h7⟩⟩
theorem tn:∀p∈ ([]:List (Nat×FD)),TX p.1 p.2:=fun _ h=>by cases h
theorem tc{f:Nat}{fd:FD}{l:List (Nat×FD)}(h1:TX f fd)(h2:∀p∈l,TX p.1 p.2):∀p∈ (f,fd)::l,TX p.1 p.2:=fun p hp=>by
 rcases List.mem_cons.1 hp with rfl|hp
 ·exact h1
 ·exact h2 p hp
set_option maxRecDepth 100000 in
theorem Z7:∀p∈ama,TX p.1 p.2:=tc (tx func270 κ) (tc (tx func305 κ) (tc (tx func307 κ) (tc (tx func310 κ) (tc (tx func316 κ) (tc (tx func317 κ) (tc (tx func318 κ) (tc (tx func319 κ) (tc (tx func171 κ) (tc (tx func194 κ) (tc (tx func224 κ) (tc (tx func227 κ) (tc (tx func231 κ) (tc (tx func232 κ) (tc (tx func233 κ) (tc (tx func234 κ) (tc (tx func251 κ) (tc (tx func258 κ) (tc (tx func269 κ) (tc (tx func273 κ) (tc (tx func274 κ) (tc (tx func277 κ) (tc (tx func289 κ) (tc (tx func290 κ) (tc (tx func300 κ) (tc (tx func301 κ) (tc (tx func306 κ) (tc (tx func308 κ) (tc (tx func309 κ) (tc (tx func320 κ) (tc (tx func164 κ) (tc (tx func226 κ) (tc (tx func34 κ) (tc (tx func36 κ) (tc (tx func38 κ) (tc (tx func87 κ) (tc (tx func95 κ) (tc (tx func96 κ) (tc (tx func97 κ) (tc (tx func100 κ) (tc (tx func115 κ) (tc (tx func163 κ) (tc (tx func165 κ) (tc (tx func172 κ) (tc (tx func174 κ) (tc (tx func177 κ) (tc (tx func192 κ) (tc (tx func225 κ) (tc (tx func250 κ) (tc (tx func276 κ) (tc (tx func280 κ) (tc (tx func281 κ) (tc (tx func288 κ) (tc (tx func303 κ) (tc (tx func64 κ) (tc (tx func65 κ) (tc (tx func98 κ) (tc (tx func106 κ) (tc (tx func110 κ) (tc (tx func114 κ) (tc (tx func123 κ) (tc (tx func133 κ) (tc (tx func134 κ) (tc (tx func135 κ) (tc (tx func162 κ) (tc (tx func167 κ) (tc (tx func169 κ) (tc (tx func170 κ) (tc (tx func176 κ) (tc (tx func193 κ) (tc (tx func195 κ) (tc (tx func215 κ) (tc (tx func222 κ) (tc (tx func223 κ) (tc (tx func237 κ) (tc (tx func249 κ) (tc (tx func302 κ) (tc (tx func45 κ) (tc (tx func105 κ) (tc (tx func109 κ) (tc (tx func121 κ) (tc (tx func122 κ) (tc (tx func130 κ) (tc (tx func131 κ) (tc (tx func158 κ) (tc (tx func166 κ) (tc (tx func168 κ) (tc (tx func185 κ) (tc (tx func189 κ) (tc (tx func228 κ) (tc (tx func229 κ) (tc (tx func230 κ) (tc (tx func248 κ) (tc (tx func252 κ) (tc (tx func256 κ) (tc (tx func257 κ) (tc (tx func271 κ) (tc (tx func272 κ) (tc (tx func275 κ) (tc (tx func13 κ) (tc (tx func43 κ) (tc (tx func47 κ) (tc (tx func54 κ) (tc (tx func56 κ) (tc (tx func60 κ) (tc (tx func63 κ) (tc (tx func88 κ) (tc (tx func89 κ) (tc (tx func90 κ) (tc (tx func104 κ) (tc (tx func107 κ) (tc (tx func108 κ) (tc (tx func120 κ) (tc (tx func124 κ) (tc (tx func127 κ) (tc (tx func132 κ) (tc (tx func159 κ) (tc (tx func180 κ) (tc (tx func188 κ) (tc (tx func190 κ) (tc (tx func191 κ) (tc (tx func213 κ) (tc (tx func218 κ) (tc (tx func239 κ) (tc (tx func240 κ) (tc (tx func247 κ) (tc (tx func253 κ) (tc (tx func254 κ) (tc (tx func255 κ) (tc (tx func267 κ) (tc (tx func118 κ) (tc (tx func178 κ) (tc (tx func179 κ) (tc (tx func181 κ) (tc (tx func182 κ) (tc (tx func238 κ) (tc (tx func241 κ) (tc (tx func242 κ) (tc (tx func243 κ) (tc (tx func244 κ) (tc (tx func245 κ) (tc (tx func246 κ) (tc (tx func279 κ) (tc (tx func282 κ) (tc (tx func283 κ) (tc (tx func284 κ) (tc (tx func285 κ) (tc (tx func286 κ) (tc (tx func287 κ) (tc (tx func41 κ) (tc (tx func42 κ) (tc (tx func50 κ) (tc (tx func74 κ) (tc (tx func101 κ) (tc (tx func102 κ) (tc (tx func103 κ) (tc (tx func112 κ) (tc (tx func113 κ) (tc (tx func116 κ) (tc (tx func117 κ) (tc (tx func143 κ) (tc (tx func173 κ) (tc (tx func175 κ) (tc (tx func183 κ) (tc (tx func184 κ) (tc (tx func186 κ) (tc (tx func187 κ) (tc (tx func8 κ) (tc (tx func10 κ) (tc (tx func23 κ) (tc (tx func31 κ) (tc (tx func40 κ) (tc (tx func44 κ) (tc (tx func48 κ) (tc (tx func49 κ) (tc (tx func51 κ) (tc (tx func52 κ) (tc (tx func53 κ) (tc (tx func55 κ) (tc (tx func72 κ) (tc (tx func75 κ) (tc (tx func99 κ) (tc (tx func111 κ) (tc (tx func119 κ) (tc (tx func125 κ) (tc (tx func126 κ) (tc (tx func128 κ) (tc (tx func15 κ) (tc (tx func17 κ) (tc (tx func18 κ) (tc (tx func20 κ) (tc (tx func67 κ) (tc (tx func69 κ) (tc (tx func70 κ) (tc (tx func71 κ) (tc (tx func136 κ) (tc (tx func137 κ) (tc (tx func138 κ) (tc (tx func141 κ) (tc (tx func142 κ) (tc (tx func153 κ) (tc (tx func161 κ) (tc (tx func197 κ) (tc (tx func198 κ) (tc (tx func199 κ) (tc (tx func200 κ) (tc (tx func201 κ) (tc (tx func214 κ) (tc (tx func220 κ) (tc (tx func221 κ) (tc (tx func66 κ) (tc (tx func91 κ) (tc (tx func92 κ) (tc (tx func93 κ) (tc (tx func160 κ) (tc (tx func16 κ) (tc (tx func32 κ) (tc (tx func68 κ) (tc (tx func76 κ) (tc (tx func83 κ) (tc (tx func94 κ) (tc (tx func139 κ) (tc (tx func140 κ) (tc (tx func144 κ) (tc (tx func196 κ) (tc (tx func3 κ) (tc (tx func6 κ) (tc (tx func7 κ) (tc (tx func9 κ) (tc (tx func14 κ) (tc (tx func29 κ) (tc (tx func33 κ) (tc (tx func35 κ) (tc (tx func37 κ) (tc (tx func39 κ) (tc (tx func46 κ) (tc (tx func11 κ) (tc (tx func12 κ) (tc (tx func30 κ) (tc (tx func57 κ) (tc (tx func58 κ) (tc (tx func59 κ) (tc (tx func61 κ) (tc (tx func62 κ) (tc (tx func84 κ) (tc (tx func85 κ) (tc (tx func86 κ) (tc (tx func129 κ) (tc (tx func154 κ) (tc (tx func155 κ) (tc (tx func156 κ) (tc (tx func157 κ) (tc (tx func216 κ) (tc (tx func217 κ) (tc (tx func219 κ) (tc (tx func266 κ) (tc (tx func291 κ) (tc (tx func292 κ) (tc (tx func294 κ) (tc (tx func298 κ) (tc (tx func299 κ) (tn)))))))))))))))))))))))))))))))))))))))))))))))))))))))))))))))))))))))))))))))))))))))))))))))))))))))))))))))))))))))))))))))))))))))))))))))))))))))))))))))))))))))))))))))))))))))))))))))))))))))))))))))))))))))))))))))))))))))))))))))))))))))))))))))))))))
end Go.Ab
