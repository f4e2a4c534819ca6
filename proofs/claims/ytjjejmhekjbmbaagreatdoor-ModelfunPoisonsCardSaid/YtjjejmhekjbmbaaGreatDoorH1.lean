/-
  A law of tapes on models holds at every input that the statement speaks of, under the conditions that its card names. Part H1.
-/
import Derived.LaidMore
import Derived.Test.YtjjejmhekjbmbaaGreatDoorG1
open Nat renaming add_zero → aBR, le_refl → aBh
open List renaming getD_eq_getElem?_getD → aCl, getElem?_eq_getElem → aBp, getElem?_map → aBS, mem_of_getElem? → aBs
open Option renaming map_some → aBZ
set_option linter.all false
namespace Go.Ab
open Go Go.Proofs Go.Shelf Go.ChangeShapes Go.WideShapes Go.RowKit
set_option maxRecDepth 100000
variable{f:Nat}
theorem ED{α:Type}{l:List (Nat×α)}{x:α}(h:l.lookup f=some x):(f,x)∈l:=by
 induction l with
 |nil=>cases h
 |cons a l ih=>
  obtain⟨i,y⟩:=a;rw[List.lookup_cons]at h;split at h
  ·rename_i he;simp at he;cases h;subst he;simp
  ·exact List.mem_cons_of_mem _ (ih h)
def alm:Go.Shelf.Ren:=⟨fun|15=>132|n=>n,fun|22=>37|n=>n,fun n=>n⟩
theorem aqE:Lays2.n15 Tryz.prog alm where
 mixed:=by kernel_rfl
 f15:=by kernel_rfl
 t3:=by kernel_rfl
 a3:=Tryz.isAgg3
 z3:=Tryz.sizeOf3
 v3:=Tryz.zeroValue3
 t4:=by kernel_rfl
 a4:=Tryz.isAgg4
 z4:=Tryz.sizeOf4
 v4:=Tryz.zeroValue4
 t22:=by kernel_rfl
 a22:=Tryz.isAgg37
 z22:=Tryz.sizeOf37
 v22:=Tryz.zeroValue37
 i3:=by kernel_rfl
theorem aln:qt Tryz.prog Ho false 184 (ovF 4):=
 aqB Tryz.func184 κ κ κ (tS:=25) (tR:=4) (e:=39) κ κ Tryz.sizeOf39
theorem aqF:EnvOK Tryz.prog Ho Hn where
 mixed:=by kernel_rfl
 ext f g h:=by
  have:=ED h;simp only[VK,List.mem_cons,List.not_mem_nil,or_false,Prod.mk.injEq]at this;rcases this with⟨rfl,rfl⟩| ⟨rfl,rfl⟩
  ·have hk:Hn.md.keep 213=false:=by kernel_rfl
   rw[hk];exact @alk
  ·have hk:Hn.md.keep 184=false:=by kernel_rfl
   rw[hk];exact @aln
 text f fd _ h:=Zm _ (ED h)
theorem akw(f:FuncId)(hk:Hn.md.keep f=false):qt Tryz.prog Ho false f (R0 f):=by
 have h:qt Tryz.prog Ho (Hn.md.keep f) f (R0 f):=aaz aqF f;rw[hk]at h;exact @h
theorem asK:EnvOK Tryz.prog Ho cQ where
 mixed:=by kernel_rfl
 ext f g h:=by
  have:=ED h;simp only[aoH,VK,List.mem_cons,List.not_mem_nil,or_false,Prod.mk.injEq]at this;rcases this with⟨rfl,rfl⟩| ⟨rfl,rfl⟩| ⟨rfl,rfl⟩| ⟨rfl,rfl⟩| ⟨rfl,rfl⟩
  ·have hk:cQ.md.keep 164=false:=by kernel_rfl
   rw[hk];exact @an4 Tryz.prog Ho 164 clU 1 (.sl 1 []) _ (fun a w=>(enters_of Tryz.func164 κ rfl:Proofs.Enters Tryz.prog 164) a w) akt (.inl rfl) asJ (akw _ κ)
  ·have hk:cQ.md.keep 132=false:=by kernel_rfl
   rw[hk];exact @aqC Tryz.prog Ho alm aqE rfl (fun a w=>(enters_of Tryz.func132 κ rfl:Proofs.Enters Tryz.prog 132) a w) (akw _ κ)
  ·have hk:cQ.md.keep 136=false:=by kernel_rfl
   rw[hk];exact @an3 Tryz.prog Ho (akw _ κ)
  ·have hk:cQ.md.keep 213=false:=by kernel_rfl
   rw[hk];exact @alk
  ·have hk:cQ.md.keep 184=false:=by kernel_rfl
   rw[hk];exact @aln
 text f fd _ h:=Zm _ (ED h)
theorem awQ:Tryz.prog.globalNamed "math/bits.deBruijn32tab" =some 1:=by kernel_rfl
theorem awR:(Tryz.prog.globals[1]?).map (·.type)=some 206:=by kernel_rfl
theorem gKd:Tryz.prog.globalNamed "flowpipe/flowpipelaw26.kinds" =some 0:=by kernel_rfl
theorem tKd:(Tryz.prog.globals[0]?).map (·.type)=some 37:=by kernel_rfl
abbrev JI:List (String×DataW Unit):=[("math/bits.deBruijn32tab",YtjjejmhekjbmbaaGreatDoor.Rows.laid_math_bits_deBruijn32tab),("flowpipe/flowpipelaw26.kinds",YtjjejmhekjbmbaaGreatDoor.Rows.laid_flowpipe_flowpipelaw26_kinds)]
def KdW(W:World):Prop:=∃u,W.cell? ⟨0,0,none⟩=some u/\RD W (Il W) kdA u
theorem aqG{i:Nat}(h:i<7):([6,8,9,10,11,12,13]:List Int)[i]?=some (([6,8,9,10,11,12,13]:List Int).getD i 0):=by
 rw[aCl,aBp (show i< ([6,8,9,10,11,12,13]:List Int).length from h)];rfl
theorem asL{W:World}{cs:Array Value}{f:Nat}{p:List MemPlace}(hB:D8 W)(hv:W.var? Tryz.prog "flowpipe/flowpipelaw26.kinds" =some cs)(hd:DataW.trod (fun _=> ()) Tryz.prog W 0 (fun _=>true) false f 37 cs.toList=some (YtjjejmhekjbmbaaGreatDoor.Rows.laid_flowpipe_flowpipelaw26_kinds,p)):KdW W:=by
 have hD:(YtjjejmhekjbmbaaGreatDoor.Rows.laid_flowpipe_flowpipelaw26_kinds:DataW Unit)=.slice (([6,8,9,10,11,12,13]:List Int).map fun(k:Int)=>.lit (.int .i64 k)) []:=rfl;rw[hD]at hd;rcases Deep.open_slice1 Tryz.underlying37 κ hd with⟨_,h⟩| ⟨a,len,cap,m,n,V,D,Pl,hcs,hb,hl,hm,hmm,hx,hel⟩
 ·cases h
 have hlm:len<=m:=by rw[hmm];split<;>omega
 simp only[Prod.mk.injEq,DataW.slice.injEq]at hx;have h7:=congrArg List.length hx.1.1;rw[List.length_map,List.length_map,List.length_range]at h7;have h7:len=7:=h7.symm;have key:∀i,i<7->V i=.int .i64 (([6,8,9,10,11,12,13]:List Int).getD i 0):=fun i hi=>by
  obtain⟨z,e1,e2,_⟩:=DataW.trod_int Tryz.underlying3 (hel i ω).2;have e3:=congrArg (·[i]?) hx.1.1;simp only[aBS,aqG hi,List.getElem?_range (show i<len by omega),aBZ]at e3;rw[(Prod.mk.inj e2).1]at e3;simp only[Option.some.injEq,DataW.lit.injEq,Lit.int.injEq,true_and]at e3;rw[e3];simpa using e1
 refine⟨.slice (some a) len cap,?_,?_⟩
 ·rw[World.var?_cell gKd hv 0];have:=congrArg (·[0]?) hcs;simpa using this
 ·have h1:=(hel 0 ω).1;obtain⟨q1,q2⟩:=ahT hB h1 rfl;have:=RD.sl (w:=W) (A:=Il W) 1 [[I 6],[I 8],[I 9],[I 10],[I 11],[I 12],[I 13]] (some a) cap a (fun i _=>V i) (by show 7<=cap;omega) (fun _=>⟨rfl,q1,q2⟩) (fun row hr=>by
   simp only[List.mem_cons,List.not_mem_nil,or_false]at hr;rcases hr with rfl|rfl|rfl|rfl|rfl|rfl|rfl<;>rfl) (fun i row j c hi hj=>?_) (fun row hr c hc=>?_) (fun i row j c hi hj=>?_)
  ·rw[h7];exact this
  ·have hi7:i<7:=(List.getElem?_eq_some_iff.1 hi).1;have hj0:j=0:=by
    have hm':=aBs hi;simp only[List.mem_cons,List.not_mem_nil,or_false]at hm';rcases hm' with rfl|rfl|rfl|rfl|rfl|rfl|rfl<;> (have:=(List.getElem?_eq_some_iff.1 hj).1;simp at this;exact this)
   subst hj0;rw[Nat.mul_one,aBR];exact(hel i ω).1
  ·simp only[List.mem_cons,List.not_mem_nil,or_false]at hr;rcases hr with rfl|rfl|rfl|rfl|rfl|rfl|rfl<;> (rw[List.mem_singleton.1 hc];rfl)
  ·have hi7:i<7:=(List.getElem?_eq_some_iff.1 hi).1;have hk:=key i hi7;rw[hk]
   match i,hi7,hi with
   |0,_,hi|1,_,hi|2,_,hi|3,_,hi|4,_,hi|5,_,hi|6,_,hi=>
    cases hi;cases j with
    |zero=>cases hj;exact .v _ rfl
    |succ j=>cases hj
theorem ahX{W:World}(h:laidMetH Tryz.prog JI W):(TabAt 1 Lib.deBruijn32tab W/\KdW W)/\D8 W:=by
 rw[MakeChecks.laidMetH_plain _ _ _ κ]at h;obtain⟨ps,⟨g0,t0,cs0,f0,p0,q0,hg0,ht0,hv0,hd0,⟨g1,t1,cs1,f1,p1,q1,hg1,ht1,hv1,hd1,_,_⟩,_⟩,_,_⟩:=h;obtain rfl:=Option.some.inj (awQ.symm.trans hg0);obtain rfl:=Option.some.inj (awR.symm.trans ht0);obtain rfl:=Option.some.inj (gKd.symm.trans hg1);obtain rfl:=Option.some.inj (tKd.symm.trans ht1);obtain⟨xs,m1,rfl,hx1,hlen,hn3,hel⟩:=DataW.trod_array Tryz.underlying206 hd0;have c5:Tryz.prog.cellsOf 5=1:=by kernel_rfl
 have c155:Tryz.prog.cellsOf 206=32:=by kernel_rfl
 rw[c155]at hlen;simp only[Prod.mk.injEq]at hx1;have hD:(YtjjejmhekjbmbaaGreatDoor.Rows.laid_math_bits_deBruijn32tab:DataW Unit)=.agg (Lib.deBruijn32tab.map fun(k:Nat)=>.lit (.int .u8 (k:Int))):=rfl;have hmap:xs.map (·.1)=Lib.deBruijn32tab.map fun(k:Nat)=>(.lit (.int .u8 (k:Int)):DataW Unit):=by
  have:=hD.symm.trans hx1.1;simpa using this.symm
 have key:∀i,i<32->cs0[i]?=some (.int .u8 (Lib.deBruijn32tab.getD i 0:Nat)):=fun i hi=>by
  have h1:=hel i hi;rw[c5,Nat.mul_one]at h1;obtain⟨y,hy⟩:∃y,xs[i]?=some y:=⟨xs[i]'(by omega),by simp⟩;rw[hy]at h1;obtain⟨n,e1,e2,_⟩:=DataW.trod_int Tryz.underlying5 h1;have h2:(xs.map (·.1))[i]?=some y.1:=by simp[hy]
  rw[hmap,aBS]at h2;have h3:Lib.deBruijn32tab[i]?=some (Lib.deBruijn32tab.getD i 0):=by
   rw[aCl,aBp (show i<Lib.deBruijn32tab.length from hi)];rfl
  rw[h3,e2]at h2;simp only[aBZ,Option.some.injEq,DataW.lit.injEq,Lit.int.injEq,true_and]at h2;have h4:cs0.toList[i]?=some (.int .u8 n):=by
   have:=congrArg (·[0]?) e1;simpa [List.getElem?_take,List.getElem?_drop]using this
  rw[h2];simpa using h4
 have hB:D8 W:=by
  intro o v hv;rw[World.var?_cell hg0 hv0 o]at hv;have ho:o<32:=by
   have:=(Array.getElem?_eq_some_iff.1 hv).1;have h2:cs0.size=32:=by simpa using hlen
   omega
  rw[key o ho]at hv;exact⟨_,(Option.some.inj hv).symm⟩
 exact⟨⟨fun j hj=>by rw[World.var?_cell hg0 hv0 j];exact key j hj,asL hB hv1 hd1⟩,hB⟩
theorem JJ(id:Nat)(sub:Option Nat):¬live (au []) id sub:=by
 have hd:au [] id=.dead:=by
  unfold au;split<;>simp
 cases sub with
 |none=>simp[live,hd]
 |some p=>simp[live,hd]
def X0(n c:Nat):Prop:=c%2=1/\c/2<n
def akx:eS:=fun _ _=>(0,0)
theorem awS{W:World}:Rel W (X0 W.heap.size) akx (au []) where
 inj id sub id' sub' h:=(JJ id sub h).elim
 nx id sub h:=(JJ id sub h).elim
 ob id:=by
  have hd:au [] id=.dead:=by
   unfold au;split<;>simp
  rw[hd];trivial
 xl b hb:=by
  unfold XZ X0 at hb;omega
theorem awT{W:World}{b:Nat}(h:Il W b):aM W (X0 W.heap.size) (au []) akx b:=⟨h,fun hx=>by unfold X0 at hx;omega,fun⟨id,sub,hl,_⟩=>JJ id sub hl⟩
theorem aky(n:Nat)(h:ah)(b:Bool):mat n h (B b)=(B b,h):=rfl
theorem ahY{fn:Func}(_hf:Tryz.prog.funcs[f]?=some fn)(_hn: (fn.name== "runtime.NumGoroutine")=false)(_hb:fn.body.isSome=true){args:List AV}{vals:Array Value}{W:World}(hL:laidMetH Tryz.prog JI W)(hz:R f args []=some (B true,[]))(hs:vals.size=args.length)
  (hv:∀ (i:Nat) (c:AV) (u:Value),args[i]?=some c->vals[i]?=some u->RD W (Il W) c u) (he:(callFunc f vals).run Tryz.prog W=.ok (.enter f vals) W):
  Calls Tryz.prog f vals W fun e W'=>e=.returned (.bool true)/\Below W.heap.size W W':=by
 obtain⟨⟨h1,u,k1,k2⟩,h2⟩:=ahX hL;have hs0:1<W.heap.size:=by
  have:=h1 0 δ;unfold World.cell? at this;split at this
  ·rename_i hb;exact(Array.getElem?_eq_some_iff.1 hb).1
  ·cases this
 have hx:∀b,b<W.heap.size->X0 W.heap.size (2*b+1)/\¬X0 W.heap.size (2*b):=fun b hb=>by
  unfold X0;omega
 have hI:Ho.p W (X0 W.heap.size):=⟨⟨h1,(hx 1 hs0).1⟩,(hx 0 ω).1,(hx 0 ω).2,u,k1,k2.mono fun b hb=>⟨hx b hb,rfl⟩⟩;have key:=aaz asK f (args:=args) (obs:=[]) (obs':=[]) (res:=B true) (w:=W) (X:=X0 W.heap.size) (ρ:=akx) (vals:=vals) (n:=2000) hz (aBh _) hI awS hs fun i c u hc hu=>.dat ((hv i c u hc hu).mono fun b hb=>⟨awT hb,rfl⟩);unfold Enters at key;rw[he]at key;refine Calls.mono key fun e W' hw=>?_;cases e with
 |returned v=>
  obtain⟨ρ',r,far,rv⟩:=hw;rw[aky]at rv far;obtain⟨rfl,_⟩:=rv.v_inv;exact⟨rfl,far.os,far.tape,far.output,far.size,fun k hk=>far.old k hk fun⟨id,sub,hl,_⟩=>JJ id sub hl⟩
 |_=>exact hw.elim
end Go.Ab
