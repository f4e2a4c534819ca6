/-
  A law of ranges holds at every input that the statement speaks of, under the conditions that its card names. Part G1.
-/
import Derived.Test.YtfdhicohflnjnaaGreatDoorRows
import Derived.Deep.Strs
import Derived.ProofKit
import Derived.LaidMore
import Derived.OpenShut
import Derived.Carry
import Derived.Lib.Overlaps
import Derived.Laws.Externs
import Derived.Shelf.Slices.Clone
import Derived.Test.YtfdhicohflnjnaaGreatDoorProg
import Derived.Test.YtfdhicohflnjnaaGreatDoorF1
set_option linter.all false
namespace Go.Ab
open Go Go.Proofs Go.ChangeShapes Go.WideShapes Go.Deep Go.RowKit Go.Shelf Go.Proofs.Tryz
set_option maxRecDepth 100000
section
variable {H:Type} {enc:TypeId × Value→H} {w:World}
def D8(w:World)(b:Nat):Prop:=b<w.heap.size
def yK(w:World):Prop:=∀o v,w.cell? ⟨0,o,none⟩=some v->∃n,v=.int .u8 n
def wC(u:Value):Prop:=u=u
theorem aet(_:yK w){a:Addr}{u:Value}(h:w.cell? a=some u)(_:wC u):D8 w a.block/\a.spot=none:=by
 have h1:a.spot=none:=by
  unfold World.cell? at h;split at h
  ·split at h
   ·cases h
   ·rename_i hs;simpa using hs
  ·cases h
 refine⟨?_,h1⟩;unfold World.cell? at h;split at h
 ·rename_i hb;exact(Array.getElem?_eq_some_iff.1 hb).1
 ·cases h
def mT(w:World)(fs:List AV)(cs:List Value):Prop:=
 fs.length=cs.length/\∀ (j:Nat) (c:AV) (u:Value),fs[j]?=some c->cs[j]?=some u->RD w (D8 w) c u/\aB c=true/\u.oneCell'=true
theorem mT.app{fa fb:List AV}{ca cb:List Value}(ha:mT w fa ca)(hb:mT w fb cb):mT w (fa++fb) (ca++cb):=by
 refine⟨by simp[ha.1,hb.1],fun j c u h1 h2=>?_⟩;by_cases hj:j<fa.length
 ·rw[List.getElem?_append_left hj]at h1;rw[List.getElem?_append_left (by rw[←ha.1];exact hj)]at h2;exact ha.2 j c u h1 h2
 ·rw[List.getElem?_append_right (by omega)]at h1;rw[List.getElem?_append_right (by rw[←ha.1];omega),←ha.1]at h2;exact hb.2 _ c u h1 h2
theorem mT.one{c:AV}{u:Value}(h:RD w (D8 w) c u)(hd:aB c=true)(h1:u.oneCell'=true):mT w [c] [u]:=by
 refine⟨rfl,fun j c' u' hc hu=>?_⟩;cases j with
 |zero=>simp at hc hu;subst hc hu;exact⟨h,hd,h1⟩
 |succ j=>simp at hc
noncomputable abbrev Tr (w:World) (enc:TypeId×Value->H) (n:Nat) (t:TypeId) (cs:List Value):Option (DataW H×List MemPlace):=DataW.trod enc Tryz.prog w 0 (fun _=>true) true n t cs
def pB(t:TypeId)(d:DataW H):Prop:=∀m∈DataW.weights Tryz.prog t d,m<=reachBytes
theorem aeu{e:TypeId}:∀ {l:List (DataW H)} {d:DataW H} {m:Nat},d∈l->m∈DataW.weights Tryz.prog e d->m∈DataW.weightsAll Tryz.prog e l
 |[],d,m,h,_=>by simp at h
 |a::l,d,m,h,hm=>by
  simp only[DataW.weightsAll,List.mem_append];rcases List.mem_cons.1 h with rfl|h
  ·exact .inl hm
  ·exact .inr (aeu h hm)
theorem Tp{α:Type}{p:Nat->α->Prop}:∀ (n:Nat),(∀i,i<n->∃r,p i r)->∃l:List α,l.length=n/\∀ (i:Nat) (r:α),l[i]?=some r->p i r
 |0,_=>⟨[],rfl,fun i r h=>by simp at h⟩
 |n+1,h=>by
  obtain⟨l,h1,h2⟩:=Tp n fun i hi=>h i (by omega);obtain⟨r,hr⟩:=h n (by omega);refine⟨l++[r],by simp[h1],fun i r' hi=>?_⟩;by_cases hin:i<n
  ·rw[List.getElem?_append_left (by omega)]at hi;exact h2 i r' hi
  ·rw[List.getElem?_append_right (by omega)]at hi;have:i=n:=by
    have:=(List.getElem?_eq_some_iff.1 hi).1;simp at this;omega
   subst this;simp[h1]at hi;subst hi;exact hr
theorem Bh{α:Type}{t e:TypeId}{k bs:Nat}(ht:Tryz.prog.underlying t=some (.slice e))(hk:Tryz.prog.cellsOf e=k)(h0:0<k)(hbs:Tryz.prog.bytesOf e=bs)(F:α->List AV)(Q:α->Prop)(hT:yK w)
  (hrow:∀n cs' x,Tr w enc n e cs'=some x->pB e x.1->∃r,Q r/\mT w (F r) cs'/\∃u,cs'[0]?=some u/\wC u) {fuel:Nat} {cs:List Value} {x:DataW H×List MemPlace}
  (h:Tr w enc fuel t cs=some x) (hw:pB t x.1):∃ (l:List α) (v:Value),cs=[v]/\(∀r∈l,Q r)/\l.length*bs<=reachBytes/\RD w (D8 w) (.sl k (l.map F)) v/\v.oneCell'=true/\wC v:=by
 rcases open_slice ht h with⟨rfl,_⟩| ⟨a,len,cap,m,n,D,Pl,rfl,hb,hl,hm,hmm,rfl,hx⟩
 ·exact⟨[],_,rfl,fun r hr=>by simp at hr,by simp,.sl k [] none 0 ⟨0,0,none⟩ (fun _ _=>undef) (by simp) (fun h=>absurd rfl h) (fun r hr=>by simp at hr) (fun i r j c hr=>by simp at hr) (fun r hr=>by simp at hr) (fun i r j c hr=>by simp at hr),rfl,rfl⟩
 ·have hlm:len<=m:=by rw[hmm];split<;>omega
  have hwe:∀i,i<len->pB e (D i):=fun i hi q hq=>by
   refine hw q ?_;simp only[DataW.weights,ht,List.mem_cons,List.mem_append];exact .inr (.inl (aeu (List.mem_map.2 ⟨i,List.mem_range.2 hi,rfl⟩) hq))
  have hbn:len*bs<=reachBytes:=by
   have:=hw ((((List.range len).map D).length+((List.range (m-len)).map fun j=>D (len+j)).length)*Tryz.prog.bytesOf e) (by simp[DataW.weights,ht]);simp only[List.length_map,List.length_range,hbs]at this;exact Nat.le_trans (Nat.mul_le_mul_right _ (by omega)) this
  obtain⟨l,l1,l2⟩:=Tp (p:=fun i r=>Q r/\∃cs',w.cells? 0 (a.add (i*k)) k=some cs'/\mT w (F r) cs'/\∃u,cs'[0]?=some u/\wC u) len fun i hi=>by
   obtain⟨cs',h1,h2⟩:=hx i (by omega);obtain⟨r,g1,g2,g3⟩:=hrow _ _ _ h2 (hwe i hi);rw[hk]at h1;exact⟨r,g1,cs',h1,g2,g3⟩
  have cell:∀ (i:Nat) (row:List AV) (j:Nat) (c:AV),(l.map F)[i]?=some row->row[j]?=some c->∃u,w.cell? (a.add (i*k+j))=some u/\RD w (D8 w) c u/\aB c=true:=fun i row j c hi hj=>by
   simp only[List.getElem?_map,Option.map_eq_some_iff]at hi;obtain⟨r,hr,rfl⟩:=hi;obtain⟨_,cs',c1,c2,_⟩:=l2 i r hr;obtain⟨_,c3,c4⟩:=World.cells?_some c1;have hjk:j<k:=by
    have:=(List.getElem?_eq_some_iff.1 hj).1;rw[c2.1,c3]at this;exact this
   have:=c4 j hjk;rw[xC]at this;obtain⟨u,hu⟩:∃u,cs'[j]?=some u:=⟨cs'[j]'(by omega),by simp⟩;exact⟨u,by rw[this,hu],(c2.2 j c u hj hu).1,(c2.2 j c u hj hu).2.1⟩
  refine⟨l,_,rfl,fun r hr=>?_,by rw[l1];exact hbn,?_,rfl,rfl⟩
  ·obtain⟨i,hi⟩:=List.getElem?_of_mem hr;exact(l2 i r hi).1
  ·have:=RD.sl (w:=w) (A:=D8 w) k (l.map F) (some a) cap a (fun i j=>(w.cell? (a.add (i*k+j))).getD undef) (by simp[l1,hl]) (fun hne=>?_) (fun row hr=>?_) (fun i row j c hi hj=>?_) (fun row hr c hc=>?_) (fun i row j c hi hj=>?_)
   ·simpa [l1]using this
   ·have hlen:0<l.length:=List.length_pos_iff.2 fun e=>hne (by simp[e]);obtain⟨_,cs',c1,c2,u,c3,c4⟩:=l2 0 l[0] (by simp);have:=(World.cells?_some c1).2.2 0 h0;rw[c3,Nat.zero_mul,yR,yR]at this;obtain⟨q1,q2⟩:=aet hT this c4;exact⟨rfl,q1,q2⟩
   ·simp only[List.mem_map]at hr;obtain⟨r,hr,rfl⟩:=hr;obtain⟨i,hi⟩:=List.getElem?_of_mem hr;obtain⟨_,cs',c1,c2,_⟩:=l2 i r hi;rw[c2.1];exact(World.cells?_some c1).2.1
   ·obtain⟨u,q1,_⟩:=cell i row j c hi hj;rw[q1];rfl
   ·obtain⟨i,hi⟩:=List.getElem?_of_mem hr;obtain⟨j,hj⟩:=List.getElem?_of_mem hc;obtain⟨u,_,_,q⟩:=cell i row j c hi hj;exact q
   ·obtain⟨u,q1,q2,_⟩:=cell i row j c hi hj;rw[q1];exact q2
theorem acS{n:Nat}{cs:List Value}{x:DataW H×List MemPlace}(h:Tr w enc n 75 cs=some x)(_:pB 75 x.1):∃r:Nat,r<4294967296/\mT w [U (r:Int)] cs/\∃u,cs[0]?=some u/\wC u:=by
 obtain⟨z,rfl,rfl,hw⟩:=DataW.trod_int Tryz.underlying75 h;simp only[Lit.wf,Bool.and_eq_true,decide_eq_true_eq]at hw;have h1:(0:Int)<=z:=hw.1;have h2:z<=4294967295:=hw.2;obtain⟨m,rfl⟩:∃m:Nat,z=m:=⟨z.toNat,by omega⟩;exact⟨m,by omega,.one (.v _ rfl) rfl rfl,_,rfl,rfl⟩
theorem acT{n:Nat}{cs:List Value}{x:DataW H×List MemPlace}(h:Tr w enc n 3 cs=some x)(_:pB 3 x.1):∃r:Int,True/\mT w [I r] cs/\∃u,cs[0]?=some u/\wC u:=by
 obtain⟨z,rfl,rfl,hw⟩:=DataW.trod_int Tryz.underlying3 h;exact⟨z,trivial,.one (.v _ rfl) rfl rfl,_,rfl,rfl⟩
theorem Yr(hT:yK w){n:Nat}{cs:List Value}{x:DataW H×List MemPlace}(h:Tr w enc n 29 cs=some x)(hw:pB 29 x.1):∃m:List Nat,(Lb m/\m.length<4611686018427387904)/\mT w [lm m] cs/\∃u,cs[0]?=some u/\wC u:=by
 obtain⟨l,v,rfl,h1,h2,h3,h4,h5⟩:=Bh (k:=1) (bs:=4) Tryz.underlying29 (by kernel_rfl) (by decide) (by kernel_rfl) (fun(r:Nat)=>[U (r:Int)]) (fun r=>r<4294967296) hT (fun n cs' x=>acS) h hw;refine⟨l,⟨h1,?_⟩,.one h3 rfl h4,_,rfl,h5⟩;unfold reachBytes at h2;omega
theorem aao(hT:yK w){n:Nat}{cs:List Value}{x:DataW H×List MemPlace}(h:Tr w enc n 71 cs=some x)(hw:pB 71 x.1):∃m:List Int,True/\mT w [.sl 1 (bw m)] cs/\∃u,cs[0]?=some u/\wC u:=by
 obtain⟨l,v,rfl,h1,h2,h3,h4,h5⟩:=Bh (k:=1) (bs:=8) Tryz.underlying71 (by kernel_rfl) (by decide) (by kernel_rfl) (fun(r:Int)=>[I r]) (fun r=>True) hT (fun n cs' x=>acT) h hw;exact⟨l,trivial,.one h3 rfl h4,_,rfl,h5⟩
theorem P2(hT:yK w){n:Nat}{cs:List Value}{x:DataW H×List MemPlace}(h:Tr w enc n 31 cs=some x)(hw:pB 31 x.1):∃d:Rd,Ok0 d/\mT w (ak d) cs/\∃u,cs[0]?=some u/\wC u:=by
 obtain⟨y0,y1,y2,m,rfl,hl,h0,h1,h2⟩:=trod_struct3 Tryz.underlying31 h;have hl3:cs.length=3:=hl.trans (by kernel_rfl)
 match cs,hl3 with
 |[a,b,c],_=>
  have k0:Tr w enc m 4 [a]=some y0:=h0;have k1:Tr w enc m 29 [b]=some y1:=h1;have k2:Tr w enc m 3 [c]=some y2:=h2;have w1:pB 29 y1.1:=fun q hq=>hw q (by simp[DataW.weights,DataW.weightsEach,Tryz.underlying31];exact .inr (.inl hq));obtain⟨bb,e0,e1⟩:=DataW.trod_bool Tryz.underlying4 k0;simp only[List.cons.injEq,and_true]at e0;subst e0;obtain⟨l,⟨q1,q2⟩,q3,_⟩:=Yr hT k1 w1;obtain⟨z,e2,e3,_⟩:=DataW.trod_int Tryz.underlying3 k2;simp only[List.cons.injEq,and_true]at e2;subst e2;exact⟨⟨bb,l,z⟩,⟨q1,q2⟩,(mT.one (.v _ rfl) rfl rfl).app (q3.app (.one (.v _ rfl) rfl rfl)),_,rfl,rfl⟩
theorem aap(hT:yK w){n:Nat}{cs:List Value}{x:DataW H×List MemPlace}(h:Tr w enc n 74 cs=some x)(hw:pB 74 x.1):∃d:Rt,Ok0 d.c/\mT w (eU d) cs/\∃u,cs[0]?=some u/\wC u:=by
 obtain⟨y0,y1,m,rfl,hl,h0,h1⟩:=trod_struct2 Tryz.underlying74 h;have hl3:cs.length=4:=hl.trans (by kernel_rfl)
 match cs,hl3 with
 |[a,b,c,d],_=>
  have k0:Tr w enc m 71 [a]=some y0:=h0;have k1:Tr w enc m 31 [b,c,d]=some y1:=h1;have w0:pB 71 y0.1:=fun q hq=>hw q (by simp[DataW.weights,DataW.weightsEach,Tryz.underlying74];exact .inl hq);have w1:pB 31 y1.1:=fun q hq=>hw q (by simp[DataW.weights,DataW.weightsEach,Tryz.underlying74];exact .inr hq);obtain⟨l,_,q3,q4⟩:=aao hT k0 w0;obtain⟨d,d1,d2,_⟩:=P2 hT k1 w1;exact⟨⟨l,d⟩,d1,q3.app d2,q4⟩
theorem aev(hT:yK w){n:Nat}{cs:List Value}{x:DataW H×List MemPlace}(h:Tr w enc n 33 cs=some x)(hw:pB 33 x.1):∃d:Ri,OkI d/\mT w (az d) cs/\∃u,cs[0]?=some u/\wC u:=by
 obtain⟨y0,y1,y2,m,rfl,hl,h0,h1,h2⟩:=trod_struct3 Tryz.underlying33 h;have hl3:cs.length=7:=hl.trans (by kernel_rfl)
 match cs,hl3 with
 |[a,b,c,d,e,f,g],_=>
  have k0:Tr w enc m 31 [a,b,c]=some y0:=h0;have k1:Tr w enc m 31 [d,e,f]=some y1:=h1;have k2:Tr w enc m 4 [g]=some y2:=h2;have w0:pB 31 y0.1:=fun q hq=>hw q (by simp[DataW.weights,DataW.weightsEach,Tryz.underlying33];exact .inl hq);have w1:pB 31 y1.1:=fun q hq=>hw q (by simp[DataW.weights,DataW.weightsEach,Tryz.underlying33];exact .inr (.inl hq));obtain⟨d0,p1,p2,p3⟩:=P2 hT k0 w0;obtain⟨d1,q1,q2,_⟩:=P2 hT k1 w1;obtain⟨bb,e0,e1⟩:=DataW.trod_bool Tryz.underlying4 k2;simp only[List.cons.injEq,and_true]at e0;subst e0;exact⟨⟨d0,d1,bb⟩,⟨p1,q1⟩,p2.app (q2.app (.one (.v _ rfl) rfl rfl)),p3⟩
theorem aaq(hT:yK w){n:Nat}{us:Array Value}{x:DataW H×List MemPlace}(h:Tr w enc n 24 us.toList=some x)(hw:pB 24 x.1):∃a:Rp,((∀t∈a.terms,Ok0 t.c)/\a.terms.length<4611686018427387904)/\RD w (D8 w) (bH a) (.agg us):=by
 obtain⟨y0,y1,m,rfl,hl,h0,h1⟩:=trod_struct2 Tryz.underlying24 h;have hl3:us.toList.length=2:=hl.trans (by kernel_rfl);obtain⟨cs⟩:=us;simp only at hl3 h0 h1
 match cs,hl3 with
 |[a,b],_=>
  have k0:Tr w enc m 3 [a]=some y0:=h0;have k1:Tr w enc m 22 [b]=some y1:=h1;have w1:pB 22 y1.1:=fun q hq=>hw q (by simp[DataW.weights,DataW.weightsEach,Tryz.underlying24];exact .inr hq);obtain⟨z,e2,e3,_⟩:=DataW.trod_int Tryz.underlying3 k0;simp only[List.cons.injEq,and_true]at e2;subst e2;obtain⟨l,v,e4,q1,q2,q3,q4,q5⟩:=Bh (k:=4) (bs:=64) Tryz.underlying22 (by kernel_rfl) (by decide) (by kernel_rfl) eU (fun t=>Ok0 t.c) hT (fun n cs' x=>aap hT) k1 w1;simp only[List.cons.injEq,and_true]at e4;subst e4;refine⟨⟨z,l⟩,⟨q1,by show l.length<_;unfold reachBytes at q2;omega⟩,?_⟩;have rc:mT w [I z,.sl 4 (l.map eU)] [.int .i64 z,b]:=(mT.one (.v _ rfl) rfl rfl).app (.one q3 rfl q4);refine .agg _ _ rfl (fun i u hu=>?_) fun i c u hc hu=>?_
  ·have hu':[Value.int .i64 z,b][i]?=some u:=by simpa using hu
   obtain⟨c,hc⟩:∃c,[I z,AV.sl 4 (l.map eU)][i]?=some c:=⟨_,List.getElem?_eq_getElem (by have:=(List.getElem?_eq_some_iff.1 hu').1;simpa using this)⟩;exact(rc.2 i c u hc hu').2.2
  ·exact(rc.2 i c u hc (by simpa using hu)).1
theorem acU(hT:yK w){n:Nat}{v:Value}{x:DataW H×List MemPlace}(h:Tr w enc n 25 [v]=some x)(hw:pB 25 x.1):∃l:List Ri,(∀d∈l,OkI d)/\RD w (D8 w) (.sl 7 (aY l)) v:=by
 obtain⟨l,v',e4,q1,q2,q3,q4,q5⟩:=Bh (k:=7) (bs:=88) Tryz.underlying25 (by kernel_rfl) (by decide) (by kernel_rfl) az OkI hT (fun n cs' x=>aev hT) h hw;simp only[List.cons.injEq,and_true]at e4;subst e4;exact⟨l,q1,q3⟩
end
theorem aam{args:List AV}{vals:Array Value}(h:vals.size=args.length){i:Nat}{c:AV}(hc:args[i]?=some c):∃u,vals[i]?=some u:=by
 have:i<args.length:=(List.getElem?_eq_some_iff.1 hc).1;exact⟨vals[i]'(by omega),by simp[h,this]⟩
theorem akG{vals:Array Value}{a:Value}(h:vals.size=1)(h0:vals[0]?=some a):vals=#[a]:=by
 apply Array.ext_getElem?;intro i
 match i with
 |0=>simpa using h0
 |i+1=>simp[h]
theorem avk{vals:Array Value}{a b:Value}(h:vals.size=2)(h0:vals[0]?=some a)(h1:vals[1]?=some b):vals=#[a,b]:=by
 apply Array.ext_getElem?;intro i
 match i with
 |0=>simpa using h0
 |1=>simpa using h1
 |i+2=>simp[h]
theorem arW{w:World}{a:Addr}{us:Array Value}{e:TypeId}(h:w.heap[a.block]?=some (.cells us e (0,0))):w.frozen? a=false:=by
 simp[World.frozen?,h]
theorem auk{P:Program}(w:World)(tS tR e:TypeId)(ht:P.underlying tS=some (.slice e))(size:Nat)(hz:∀w,(Go.sizeOf e).run P w=.ok size w)(a:Addr)(b:Option Addr)(la ca cb:Nat):
  (Extern.SlicesOverlaps.overlaps #[tS,tS] #[tR] #[.slice (some a) la ca,.slice b 0 cb]).run P w=.ok (.bool false) w:=by
 change Sem.run P (α:=Value) (do
  let some t:= (#[tS,tS]:Array TypeId)[0]?|stuck "slices.overlaps: no parameter types"
  let .slice elem←underlying t|stuck "slices.overlaps: slice type expected"
  let size←sizeOf elem
  match (some a:Option Addr),b with
  |some a,some b=>
   if la=0\/0=0\/size=0 then pure (Value.bool false)
   else if a.block !=b.block&& (←frozen a)&& (←frozen b)then unsupported .addressObserved
   else do
    if a.block !=b.block then do
     noView a;noView b
     if←mayBeOne a b then return Value.bool ((←choose (.extern "sameAddr.stringBytes" 2))==1)
    pure (Value.bool (a.block==b.block&&a.off<b.off+0*size&&b.off<a.off+la*size))
  |_,_=>pure (Value.bool false)) w=_
 cases b<;>simp[run_underlying ht,hz]
theorem auG{P:Program}(w:World)(tS tR e:TypeId)(ht:P.underlying tS=some (.slice e))(size:Nat)(hz:∀w,(Go.sizeOf e).run P w=.ok size w)
  (a b:Addr) (la ca lb cb:Nat) (hne:a.block≠b.block) (tA:TypeId) (kA:Nat) {us:Array Value} {tB:TypeId}
  (hkA:kA≠0) (hsa:w.shape? a.block=some (tA,kA)) (hb:w.heap[b.block]?=some (.cells us tB (0,0))) (hu:us.size≠0):
  (Extern.SlicesOverlaps.overlaps #[tS,tS] #[tR] #[.slice (some a) la ca,.slice (some b) lb cb]).run P w=.ok (.bool false) w:=by
 have hnb:(a.block !=b.block)=true:=by simpa using hne
 have hnb':(a.block==b.block)=false:=by simpa using hne
 have hsb:w.shape? b.block=some (tB,us.size):=by simp[World.shape?,hb]
 have hfb:w.frozen? b=false:=arW hb;have hfe:w.frozen? {block:=b.block,off:=us.size}=false:=arW (a:=⟨b.block,us.size,none⟩) hb;change Sem.run P (α:=Value) (do
  let some t:= (#[tS,tS]:Array TypeId)[0]?|stuck "slices.overlaps: no parameter types"
  let .slice elem←underlying t|stuck "slices.overlaps: slice type expected"
  let size←sizeOf elem
  match (some a:Option Addr),(some b:Option Addr)with
  |some a,some b=>
   if la=0\/lb=0\/size=0 then pure (Value.bool false)
   else if a.block !=b.block&& (←frozen a)&& (←frozen b)then unsupported .addressObserved
   else do
    if a.block !=b.block then do
     noView a;noView b
     if←mayBeOne a b then return Value.bool ((←choose (.extern "sameAddr.stringBytes" 2))==1)
    pure (Value.bool (a.block==b.block&&a.off<b.off+lb*size&&b.off<a.off+la*size))
  |_,_=>pure (Value.bool false)) w=_
 by_cases h0:la=0\/lb=0\/size=0
 ·simp[run_underlying ht,hz,h0]
 ·obtain⟨n,hn⟩:∃n,us.size=n+1:=⟨us.size-1,by omega⟩;rw[hn]at hsb hfe;obtain⟨kA,rfl⟩:∃k,kA=k+1:=⟨kA-1,by omega⟩;cases hfa:w.frozen? a<;>cases hfa2:w.frozen? {block:=a.block,off:=kA+1}<;>
   simp[run_underlying ht,hz,h0,hnb,hnb',frozen,noView,viewAt,mayBeOne,stringish,shape,Sem.run,hsa,hsb,hfa,hfa2,hfb,hfe]
theorem as1{w:World}{a:Addr}{v:Value}(h:w.cell? a=some v):∃t k,k≠0/\w.shape? a.block=some (t,k):=by
 unfold World.cell? at h;split at h
 ·rename_i cs t fr hb;refine⟨t,cs.size,fun h0=>?_,by unfold World.shape?;rw[hb]⟩;split at h
  ·cases h
  ·have:=(Array.getElem?_eq_some_iff.1 h).1;omega
 ·cases h
theorem auH{P:Program}{I:Inv}{f:FuncId}{fn:Func}{tS tR e:TypeId}{size:Nat}(hf:P.funcs[f]?=some fn)(hname: (fn.name== "runtime.NumGoroutine")=false)(hb:fn.body.isNone=true)(hn:Extern.findNext fn=none)
  (he:Extern.find fn=some (Extern.SlicesOverlaps.overlaps #[tS,tS] #[tR])) (ht:P.underlying tS=some (.slice e)) (hz:∀w,(Go.sizeOf e).run P w=.ok size w):re P I false f (ovF 4):=by
 intro args obs obs' res w X ρ vals n hz' hn' hi hr hs hv;unfold ovF at hz';split at hz'
 ·rename_i k0 row rows k1 lo m k2 rows2;split at hz'
  ·rename_i hk;obtain⟨rfl,rfl,rfl⟩:=hk;cases hz';obtain⟨u0,h0⟩:=aam hs (i:=0) rfl;obtain⟨u1,h1⟩:=aam hs (i:=1) rfl;have e0:=hv 0 _ _ rfl h0;have e1:=hv 1 _ _ rfl h1;obtain rfl:=avk hs h0 h1;have d0:=e0.sl_inv;obtain⟨a1,cap1,rfl,hp,hn1,hb1,ha1⟩:=e1.rsl_inv;have ho:RO w (aF w X (ao [.ar 4 rows2]) ρ) ρ (ao [.ar 4 rows2]) 1000 (.ar 4 rows2):=hr.ob 1000;obtain⟨us,tB,g1,g2,g3,g4⟩:=ho;have hlive:live (ao [.ar 4 rows2]) 1000 none:=trivial;cases d0 with
   |sl _ _ a cap ad vs hc ha hk hv2 hl hr2=>
    obtain⟨rfl,hA,hsp⟩:=ha (by simp);have hlen:=hk row (by simp);obtain⟨c,hrow⟩:∃c,row[0]?=some c:=⟨row[0]'(by omega),by simp⟩;have hcell:=hv2 0 row 0 c rfl hrow;obtain⟨tA,kA,hkA,hsh⟩:=as1 hcell;rw[lY]at hsh;have run:(callFunc f #[.slice (some ad) (row::rows).length cap,.slice a1 m cap1]).run P w=.ok (.value (.bool false)) w:=by
     rw[run_callFunc_extern hf hname hb hn he];by_cases hm:m=0
     ·subst hm;rw[auk w tS tR e ht size hz];rfl
     ·rcases ha1 with h|rfl
      ·omega
      ·rw[auG w tS tR e ht size hz ad ⟨(ρ 1000 none).1,lo*4,none⟩ _ cap m cap1 (fun hh=>hA.2.2 ⟨1000,none,hlive,hh.symm⟩) tA kA hkA hsh g1 (by omega)];rfl
    unfold Enters;rw[run];exact⟨ρ,hr,.refl _ _ _ _,.dat (.v _ rfl)⟩
  ·cases hz'
 ·cases hz'
theorem aul{P:Program}{I:Inv}(hR:re P I false F.slices_Insert_api_Term_api_Term_ (R0 F.slices_Insert_api_Term_api_Term_)):re P I false F.slices_Insert_api_Term_api_Term_ (ar3 4 64):=by
 intro args obs obs' res w X ρ vals n hz hn hi hr hs hv;unfold ar3 at hz;split at hz
 ·rename_i k0 r;split at hz
  ·rename_i hk;subst hk;cases hz;exact hR aug hn hi hr hs hv
  ·cases hz
 ·rename_i k1 m i k0 r k2 rows;split at hz
  ·rename_i hk;obtain⟨rfl,rfl,rfl,rfl,hi0,hi1,hb⟩:=hk;cases hz;obtain⟨i,rfl⟩:=Int.eq_ofNat_of_zero_le hi0;rw[Int.toNat_natCast];by_cases hend:i=rows.length
   ·subst hend;have:=hR (atl (r:=r) rfl hb) hn hi hr hs hv;rw[List.take_of_length_le (Nat.le_refl _),List.drop_eq_nil_of_le (Nat.le_refl _)];exact this
   ·have hlt:i<rows.length:=by omega
    obtain⟨u0,h0⟩:=aam hs (i:=0) rfl;obtain⟨a,cap,rfl,hp,hn1,hb1,ha⟩:=(hv 0 _ _ rfl h0).rsl_inv;have hv':∀ (j:Nat) (c:AV) (u:Value),[AV.rsc 1000 4 0 rows.length cap,.v (.int .i64 i),.sl 4 [r]][j]?=some c->vals[j]?=some u->RV w (aF w X (ao [.ar 4 rows]) ρ) ρ (ao [.ar 4 rows]) c u:=by
     intro j c u hc hu
     match j,hc with
     |0,hc=>
      cases hc;rw[h0]at hu;cases hu;exact .rsc 1000 4 0 _ cap a hp hn1 hb1 ha
     |j+1,hc=>exact hv (j+1) c u hc hu
    rcases Nat.lt_or_ge rows.length cap with hc|hc
    ·exact hR (auj rfl hlt hc hb) hn hi hr hs hv'
    ·obtain rfl:cap=rows.length:=by omega
     refine(hR (aui rfl hlt hb) hn hi hr hs hv').mono fun v w' ⟨ρ',q1,q2,q3⟩=>?_;generalize rows.take i++r::rows.drop i=L at q1 q2 q3⊢;have hd:=TU q1 (id:=1000) (k:=4) (rows:=rows) (by
      show(if 1000=n then _ else _)=_;rw[if_neg (by omega)];rfl)
     have eq:upd (mat n (ao [.ar 4 rows]) (.osl 4 L)).2 1000 .dead=(mat n (ao [.dead]) (.osl 4 L)).2:=by
      show upd (upd (ao [.ar 4 rows]) n (.ar 4 L)) 1000 .dead=upd (ao [.dead]) n (.ar 4 L);rw[aqS,aqS];funext j;unfold upd;by_cases h1:j=1000
      ·rw[if_pos h1,if_neg (by omega),if_pos h1]
      ·rw[if_neg h1,if_neg h1,if_neg h1]
     rw[eq]at hd;refine⟨ρ',hd.1,q2.trans (hd.2.far rfl),hd.2.rvk q3 (.inr ?_)⟩;show gS [(1000,false)] n none=false;simp[gS];omega
  ·cases hz
 ·cases hz
theorem LX{w w':World}{X:Nat->Prop}{ρ:br}(hr:Rel w X ρ (ao []))(hb:Below w.heap.size w w'):Rel w' X ρ (ao [])/\Far false w ρ (ao []) w' ρ (ao []):=by
 have hl:∀id sub,¬live (ao []) id sub:=fun id sub=>by
  have hd:ao [] id=.dead:=by
   unfold ao;split<;>simp
  cases sub with
  |none=>simp[live,hd]
  |some p=>simp[live,hd]
 refine⟨⟨fun id sub _ _ h=>(hl id sub h).elim,fun id sub h=>(hl id sub h).elim,fun id=>?_,fun b hb'=>Nat.lt_of_lt_of_le (hr.xl b hb') hb.size⟩,hb.os,hb.tape,hb.output,hb.size,fun b h1 _=>hb.block b h1,fun b ⟨id,sub,h,_⟩=>(hl id sub h).elim,fun id _ h=>?_,fun h=>by cases h⟩
 ·have hd:ao [] id=.dead:=by
   unfold ao;split<;>simp
  rw[hd];trivial
 ·exfalso;apply h;unfold ao;split<;>simp
theorem auI{P:Program}{I:Inv}{ρ0:Ren}(L:Lays2.n15 P ρ0)(hf:ρ0.f 15=F.slices_Clone_int_int_)(he:∀a w,(callFunc F.slices_Clone_int_int_ a).run P w=.ok (.enter F.slices_Clone_int_int_ a) w)
  (hR:re P I false F.slices_Clone_int_int_ (R0 F.slices_Clone_int_int_)):re P I false F.slices_Clone_int_int_ clF:=by
 intro args obs obs' res w X ρ vals n hz hn hi hr hs hv;unfold clF at hz;split at hz
 ·cases hz;obtain⟨u0,h0⟩:=aam hs (i:=0) rfl;have d0:=(hv 0 _ _ rfl h0).sl_inv;obtain rfl:=akG hs h0;cases d0 with
  |sl _ _ a cap ad vs hc ha hk hv2 hl hr2=>
   unfold Enters;rw[he];have fin:∀ (w':World) (b:Option Addr) (c:Nat),Below w.heap.size w w'->∃ρ',Rel w' X ρ' (mat n (ao []) (.sl 1 [])).2/\Far false w ρ (ao []) w' ρ' (mat n (ao []) (.sl 1 [])).2/\
     RV w' (aF w' X (mat n (ao []) (.sl 1 [])).2 ρ') ρ' (mat n (ao []) (.sl 1 [])).2 (mat n (ao []) (.sl 1 [])).1 (.slice b 0 c):=fun w' b c hb=>
    ⟨ρ,(LX hr hb).1,(LX hr hb).2,.dat (.sl 1 [] b c ad vs (Nat.zero_le _) (fun h=>absurd rfl h) (fun _ h=>by cases h) (fun i row j c h=>by simp at h) (fun _ h=>by cases h) (fun i row j c h=>by simp at h))⟩
   cases a with
   |none=>
    have key:=Any.slices_Clone_int_nil L 0 cap w;rw[hf]at key;refine Calls.mono key fun e w' hw=>?_;obtain⟨rfl,rfl⟩:=hw;exact fin _ _ _ (Below.refl _ _)
   |some a0=>
    have key:=Any.slices_Clone_int_zero L a0 cap w;rw[hf]at key;refine Calls.mono key fun e w' hw=>?_;obtain⟨v',rfl,⟨_,hown⟩,_,hb⟩:=hw;rcases hown with⟨rfl,_⟩| ⟨g,c2,cur,rfl,_⟩
    ·exact fin _ _ _ hb
    ·exact fin _ _ _ hb
 ·rename_i r rs;split at hz
  ·rename_i hb;cases hz;exact hR (atM hb) hn hi hr hs hv
  ·cases hz
 ·cases hz
abbrev TX(f:Nat)(fd:FD):Prop:=Text Go.Proofs.Tryz.prog f fd
theorem tx{f:Nat}{fd:FD}{fn:Func}(h:Go.Proofs.Tryz.prog.funcs[f]?=some fn)(h2: (fn.body.bind fun c=>fX Go.Proofs.Tryz.prog fn.ntmps c fd.body,Bp Go.Proofs.Tryz.prog fn.results.toList,decide (fn.ntmps<=1000),fn.name== "runtime.NumGoroutine")= (some fd.body,some fd.res,true,false)):TX f fd:=by
 simp only[Prod.mk.injEq,Option.bind_eq_some_iff,decide_eq_true_eq]at h2;obtain⟨⟨c,h3,h4⟩,h5,h6,h7⟩:=h2;exact⟨⟨fn,c,_,h,h3,rfl,h6,h4,h5,h7⟩⟩
theorem tn:∀p∈ ([]:List (Nat×FD)),TX p.1 p.2:=fun _ h=>by cases h
theorem tc{f:Nat}{fd:FD}{l:List (Nat×FD)}(h1:TX f fd)(h2:∀p∈l,TX p.1 p.2):∀p∈ (f,fd)::l,TX p.1 p.2:=fun p hp=>by
 rcases List.mem_cons.1 hp with rfl|hp
 ·exact h1
 ·exact h2 p hp
set_option maxRecDepth 100000 in
theorem P3:∀p∈aaK,TX p.1 p.2:=tc (tx func8 (by kernel_rfl)) (tc (tx func9 (by kernel_rfl)) (tc (tx func10 (by kernel_rfl)) (tc (tx func11 (by kernel_rfl)) (tc (tx func12 (by kernel_rfl)) (tc (tx func13 (by kernel_rfl)) (tc (tx func14 (by kernel_rfl)) (tc (tx func15 (by kernel_rfl)) (tc (tx func18 (by kernel_rfl)) (tc (tx func22 (by kernel_rfl)) (tc (tx func23 (by kernel_rfl)) (tc (tx func24 (by kernel_rfl)) (tc (tx func26 (by kernel_rfl)) (tc (tx func28 (by kernel_rfl)) (tc (tx func32 (by kernel_rfl)) (tc (tx func34 (by kernel_rfl)) (tc (tx func35 (by kernel_rfl)) (tc (tx func38 (by kernel_rfl)) (tc (tx func40 (by kernel_rfl)) (tc (tx func41 (by kernel_rfl)) (tc (tx func42 (by kernel_rfl)) (tc (tx func43 (by kernel_rfl)) (tc (tx func44 (by kernel_rfl)) (tc (tx func45 (by kernel_rfl)) (tc (tx func46 (by kernel_rfl)) (tc (tx func47 (by kernel_rfl)) (tc (tx func48 (by kernel_rfl)) (tc (tx func49 (by kernel_rfl)) (tc (tx func50 (by kernel_rfl)) (tc (tx func51 (by kernel_rfl)) (tc (tx func52 (by kernel_rfl)) (tc (tx func53 (by kernel_rfl)) (tc (tx func54 (by kernel_rfl)) (tc (tx func55 (by kernel_rfl)) (tc (tx func56 (by kernel_rfl)) (tc (tx func57 (by kernel_rfl)) (tc (tx func58 (by kernel_rfl)) (tc (tx func59 (by kernel_rfl)) (tc (tx func60 (by kernel_rfl)) (tc (tx func61 (by kernel_rfl)) (tc (tx func64 (by kernel_rfl)) (tc (tx func65 (by kernel_rfl)) (tc (tx func69 (by kernel_rfl)) (tc (tx func70 (by kernel_rfl)) (tc (tx func71 (by kernel_rfl)) (tc (tx func72 (by kernel_rfl)) (tc (tx func73 (by kernel_rfl)) (tc (tx func74 (by kernel_rfl)) (tc (tx func75 (by kernel_rfl)) (tc (tx func76 (by kernel_rfl)) (tc (tx func77 (by kernel_rfl)) (tc (tx func78 (by kernel_rfl)) (tc (tx func79 (by kernel_rfl)) (tc (tx func82 (by kernel_rfl)) (tc (tx func83 (by kernel_rfl)) (tc (tx func84 (by kernel_rfl)) (tc (tx func85 (by kernel_rfl)) (tc (tx func86 (by kernel_rfl)) (tc (tx func87 (by kernel_rfl)) (tc (tx func88 (by kernel_rfl)) (tc (tx func89 (by kernel_rfl)) (tc (tx func90 (by kernel_rfl)) (tc (tx func91 (by kernel_rfl)) (tc (tx func92 (by kernel_rfl)) (tc (tx func93 (by kernel_rfl)) (tc (tx func94 (by kernel_rfl)) (tc (tx func95 (by kernel_rfl)) (tc (tx func96 (by kernel_rfl)) (tc (tx func97 (by kernel_rfl)) (tc (tx func98 (by kernel_rfl)) (tc (tx func99 (by kernel_rfl)) (tc (tx func100 (by kernel_rfl)) (tc (tx func101 (by kernel_rfl)) (tc (tx func102 (by kernel_rfl)) (tc (tx func103 (by kernel_rfl)) (tc (tx func104 (by kernel_rfl)) (tc (tx func105 (by kernel_rfl)) (tc (tx func106 (by kernel_rfl)) (tc (tx func107 (by kernel_rfl)) (tc (tx func108 (by kernel_rfl)) (tc (tx func109 (by kernel_rfl)) (tc (tx func110 (by kernel_rfl)) (tc (tx func111 (by kernel_rfl)) (tc (tx func112 (by kernel_rfl)) (tc (tx func113 (by kernel_rfl)) (tc (tx func114 (by kernel_rfl)) (tc (tx func115 (by kernel_rfl)) (tc (tx func116 (by kernel_rfl)) (tc (tx func117 (by kernel_rfl)) (tc (tx func118 (by kernel_rfl)) (tc (tx func119 (by kernel_rfl)) (tc (tx func120 (by kernel_rfl)) (tc (tx func121 (by kernel_rfl)) (tc (tx func122 (by kernel_rfl)) (tc (tx func123 (by kernel_rfl)) (tc (tx func126 (by kernel_rfl)) (tc (tx func127 (by kernel_rfl)) (tc (tx func128 (by kernel_rfl)) (tc (tx func129 (by kernel_rfl)) (tc (tx func130 (by kernel_rfl)) (tc (tx func131 (by kernel_rfl)) (tc (tx func132 (by kernel_rfl)) (tc (tx func133 (by kernel_rfl)) (tc (tx func134 (by kernel_rfl)) (tc (tx func135 (by kernel_rfl)) (tc (tx func136 (by kernel_rfl)) (tc (tx func137 (by kernel_rfl)) (tc (tx func139 (by kernel_rfl)) (tc (tx func140 (by kernel_rfl)) (tc (tx func141 (by kernel_rfl)) (tc (tx func142 (by kernel_rfl)) (tc (tx func143 (by kernel_rfl)) (tc (tx func144 (by kernel_rfl)) (tc (tx func145 (by kernel_rfl)) (tc (tx func146 (by kernel_rfl)) (tc (tx func147 (by kernel_rfl)) (tc (tx func148 (by kernel_rfl)) (tc (tx func149 (by kernel_rfl)) (tc (tx func150 (by kernel_rfl)) (tc (tx func151 (by kernel_rfl)) (tc (tx func152 (by kernel_rfl)) (tc (tx func153 (by kernel_rfl)) (tc (tx func154 (by kernel_rfl)) (tc (tx func155 (by kernel_rfl)) (tc (tx func156 (by kernel_rfl)) (tc (tx func157 (by kernel_rfl)) (tc (tx func158 (by kernel_rfl)) (tc (tx func159 (by kernel_rfl)) (tc (tx func160 (by kernel_rfl)) (tc (tx func161 (by kernel_rfl)) (tc (tx func162 (by kernel_rfl)) (tc (tx func163 (by kernel_rfl)) (tc (tx func164 (by kernel_rfl)) (tc (tx func165 (by kernel_rfl)) (tc (tx func166 (by kernel_rfl)) (tc (tx func167 (by kernel_rfl)) (tc (tx func168 (by kernel_rfl)) (tc (tx func169 (by kernel_rfl)) (tc (tx func170 (by kernel_rfl)) (tc (tx func171 (by kernel_rfl)) (tc (tx func172 (by kernel_rfl)) (tc (tx func173 (by kernel_rfl)) (tc (tx func177 (by kernel_rfl)) (tc (tx func178 (by kernel_rfl)) (tc (tx func179 (by kernel_rfl)) (tc (tx func180 (by kernel_rfl)) (tc (tx func181 (by kernel_rfl)) (tc (tx func182 (by kernel_rfl)) (tc (tx func183 (by kernel_rfl)) (tc (tx func184 (by kernel_rfl)) (tc (tx func185 (by kernel_rfl)) (tc (tx func186 (by kernel_rfl)) (tc (tx func187 (by kernel_rfl)) (tc (tx func188 (by kernel_rfl)) (tc (tx func189 (by kernel_rfl)) (tc (tx func190 (by kernel_rfl)) (tc (tx func191 (by kernel_rfl)) (tc (tx func192 (by kernel_rfl)) (tc (tx func194 (by kernel_rfl)) (tc (tx func195 (by kernel_rfl)) (tc (tx func196 (by kernel_rfl)) (tc (tx func197 (by kernel_rfl)) (tc (tx func198 (by kernel_rfl)) (tc (tx func199 (by kernel_rfl)) (tc (tx func202 (by kernel_rfl)) (tc (tx func203 (by kernel_rfl)) (tc (tx func204 (by kernel_rfl)) (tc (tx func205 (by kernel_rfl)) (tc (tx func206 (by kernel_rfl)) (tc (tx func207 (by kernel_rfl)) (tc (tx func208 (by kernel_rfl)) (tc (tx func210 (by kernel_rfl)) (tc (tx func211 (by kernel_rfl)) (tc (tx func212 (by kernel_rfl)) (tc (tx func213 (by kernel_rfl)) (tc (tx func214 (by kernel_rfl)) (tc (tx func215 (by kernel_rfl)) (tc (tx func218 (by kernel_rfl)) (tc (tx func219 (by kernel_rfl)) (tc (tx func220 (by kernel_rfl)) (tc (tx func221 (by kernel_rfl)) (tc (tx func222 (by kernel_rfl)) (tc (tx func223 (by kernel_rfl)) (tc (tx func224 (by kernel_rfl)) (tc (tx func225 (by kernel_rfl)) (tc (tx func226 (by kernel_rfl)) (tc (tx func227 (by kernel_rfl)) (tn)))))))))))))))))))))))))))))))))))))))))))))))))))))))))))))))))))))))))))))))))))))))))))))))))))))))))))))))))))))))))))))))))))))))))))))))))))))))))))))))))))))))))))))))))))))))))))
end Go.Ab
