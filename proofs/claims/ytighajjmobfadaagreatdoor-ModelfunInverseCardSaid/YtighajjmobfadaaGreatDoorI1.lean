/-
  A law of tapes on models holds at every input that the statement speaks of, under the conditions that its card names. Part I1.
-/
import Derived.LaidMore
import Derived.Test.YtighajjmobfadaaGreatDoorH1
open Nat renaming le_refl → aCJ
open Option renaming map_some → aDt
set_option linter.all false
namespace Go.Ab
open Go Go.Proofs Go.Shelf Go.ChangeShapes Go.WideShapes Go.RowKit
set_option maxRecDepth 100000
theorem E8{α:Type}{l:List (Nat×α)}{f:Nat}{x:α}(h:l.lookup f=some x):(f,x)∈l:=by
 induction l with
 |nil=>cases h
 |cons a l ih=>
  obtain⟨i,y⟩:=a;rw[List.lookup_cons]at h;split at h
  ·rename_i he;simp at he;cases h;subst he;simp
  ·exact List.mem_cons_of_mem _ (ih h)
def amJ:Go.Shelf.Ren:=⟨fun|15=>115|n=>n,fun|22=>59|n=>n,fun n=>n⟩
theorem ar2:Lays2.n15 Tryz.prog amJ where
 mixed:=by kernel_rfl
 f15:=by kernel_rfl
 t3:=by kernel_rfl
 a3:=Tryz.isAgg3
 z3:=Tryz.sizeOf3
 v3:=Tryz.zeroValue3
 t4:=by kernel_rfl
 a4:=Tryz.isAgg4
 z4:=Tryz.sizeOf4
 v4:=Tryz.zeroValue4
 t22:=by kernel_rfl
 a22:=Tryz.isAgg59
 z22:=Tryz.sizeOf59
 v22:=Tryz.zeroValue59
 i3:=by kernel_rfl
theorem amK:si Tryz.prog Mo false fes (ovF 4):=
 ar0 Tryz.func235 κ κ κ (tS:=25) (tR:=4) (e:=72) κ κ Tryz.sizeOf72
theorem ar3:EnvOK Tryz.prog Mo HT where
 mixed:=by kernel_rfl
 ext f g h:=by
  have:=E8 h;simp only[Wi,List.mem_cons,List.not_mem_nil,or_false,Prod.mk.injEq]at this;rcases this with⟨rfl,rfl⟩| ⟨rfl,rfl⟩
  ·have hk:HT.md.keep fao=false:=by kernel_rfl
   rw[hk];exact @amI
  ·have hk:HT.md.keep fes=false:=by kernel_rfl
   rw[hk];exact @amK
 text f fd _ h:=Z7 _ (E8 h)
theorem ar4(f:FuncId)(hk:HT.md.keep f=false):si Tryz.prog Mo false f (R0 f):=by
 have h:si Tryz.prog Mo (HT.md.keep f) f (R0 f):=abz ar3 f;rw[hk]at h;exact @h
theorem aug:EnvOK Tryz.prog Mo cW where
 mixed:=by kernel_rfl
 ext f g h:=by
  have:=E8 h;simp only[ap3,Wi,List.mem_cons,List.not_mem_nil,or_false,Prod.mk.injEq]at this;rcases this with⟨rfl,rfl⟩| ⟨rfl,rfl⟩| ⟨rfl,rfl⟩| ⟨rfl,rfl⟩
  ·have hk:cW.md.keep fd8=false:=by kernel_rfl
   rw[hk];exact @ar1 Tryz.prog Mo amJ ar2 rfl (fun a w=>(enters_of Tryz.func115 κ rfl:Proofs.Enters Tryz.prog 115) a w) (ar4 _ κ)
  ·have hk:cW.md.keep feq=false:=by kernel_rfl
   rw[hk];exact @apt Tryz.prog Mo (ar4 _ κ)
  ·have hk:cW.md.keep fao=false:=by kernel_rfl
   rw[hk];exact @amI
  ·have hk:cW.md.keep fes=false:=by kernel_rfl
   rw[hk];exact @amK
 text f fd _ h:=Z7 _ (E8 h)
theorem ayt:Tryz.prog.globalNamed "math/bits.deBruijn32tab" =some 0:=by kernel_rfl
theorem ayu:(Tryz.prog.globals[0]?).map (·.type)=some 243:=by kernel_rfl
abbrev J7:List (String×DataW Unit):=[("math/bits.deBruijn32tab",YtighajjmobfadaaGreatDoor.Rows.laid_math_bits_deBruijn32tab)]
theorem ajo{W:World}(h:laidMetH Tryz.prog J7 W):TabAt 0 Lib.deBruijn32tab W/\GB W:=by
 rw[MakeChecks.laidMetH_plain _ _ _ κ]at h;obtain⟨ps,⟨g0,t0,cs0,f0,p0,q0,hg0,ht0,hv0,hd0,_,_⟩,_,_⟩:=h;obtain rfl:=Option.some.inj (ayt.symm.trans hg0);obtain rfl:=Option.some.inj (ayu.symm.trans ht0);obtain⟨xs,m1,rfl,hx1,hlen,hn3,hel⟩:=DataW.trod_array Tryz.underlying243 hd0;have c5:Tryz.prog.cellsOf 5=1:=by kernel_rfl
 have c155:Tryz.prog.cellsOf 243=32:=by kernel_rfl
 rw[c155]at hlen;simp only[Prod.mk.injEq]at hx1;have hD:(YtighajjmobfadaaGreatDoor.Rows.laid_math_bits_deBruijn32tab:DataW Unit)=.agg (Lib.deBruijn32tab.map fun(k:Nat)=>.lit (.int .u8 (k:Int))):=rfl;have hmap:xs.map (·.1)=Lib.deBruijn32tab.map fun(k:Nat)=>(.lit (.int .u8 (k:Int)):DataW Unit):=by
  have:=hD.symm.trans hx1.1;simpa using this.symm
 have key:∀i,i<32->cs0[i]?=some (.int .u8 (Lib.deBruijn32tab.getD i 0:Nat)):=fun i hi=>by
  have h1:=hel i hi;rw[c5,Nat.mul_one]at h1;obtain⟨y,hy⟩:∃y,xs[i]?=some y:=⟨xs[i]'(by omega),by simp⟩;rw[hy]at h1;obtain⟨n,e1,e2,_⟩:=DataW.trod_int Tryz.underlying5 h1;have h2:(xs.map (·.1))[i]?=some y.1:=by simp[hy]
  rw[hmap,List.getElem?_map]at h2;have h3:Lib.deBruijn32tab[i]?=some (Lib.deBruijn32tab.getD i 0):=by
   rw[List.getD_eq_getElem?_getD,List.getElem?_eq_getElem (show i<Lib.deBruijn32tab.length from hi)];rfl
  rw[h3,e2]at h2;simp only[aDt,Option.some.injEq,DataW.lit.injEq,Lit.int.injEq,true_and]at h2;have h4:cs0.toList[i]?=some (.int .u8 n):=by
   have:=congrArg (·[0]?) e1;simpa [List.getElem?_take,List.getElem?_drop]using this
  rw[h2];simpa using h4
 refine⟨fun j hj=>?_,fun o v hv=>?_⟩
 ·rw[World.var?_cell hg0 hv0 j];exact key j hj
 ·rw[World.var?_cell hg0 hv0 o]at hv;have ho:o<32:=by
   have:=(Array.getElem?_eq_some_iff.1 hv).1;have h2:cs0.size=32:=by simpa using hlen
   omega
  rw[key o ho]at hv;exact⟨_,(Option.some.inj hv).symm⟩
theorem J8(id:Nat)(sub:Option Nat):¬live (ax []) id sub:=by
 have hd:ax [] id=.dead:=by
  unfold ax;split<;>simp
 cases sub with
 |none=>simp[live,hd]
 |some p=>simp[live,hd]
def X0(_:Nat):Prop:=False
def al1:eZ:=fun _ _=>(0,0)
theorem ayv{W:World}(hs:0<W.heap.size):Rel W X0 al1 (ax []) where
 inj id sub id' sub' h:=(J8 id sub h).elim
 nx id sub h:=(J8 id sub h).elim
 ob id:=by
  have hd:ax [] id=.dead:=by
   unfold ax;split<;>simp
  rw[hd];trivial
 xl b hb:=by rcases hb with hb|rfl;exact hb.elim;exact hs
theorem ayw{W:World}{b:Nat}(h:KB W b):aQ W X0 (ax []) al1 b:=⟨h,fun hx=>hx,fun⟨id,sub,hl,_⟩=>J8 id sub hl⟩
theorem al2(n:Nat)(h:ae)(b:Bool):mat n h (B b)=(B b,h):=rfl
theorem ajp{f:Nat}{fn:Func}(_hf:Tryz.prog.funcs[f]?=some fn)(_hn: (fn.name== "runtime.NumGoroutine")=false)(_hb:fn.body.isSome=true){args:List AV}{vals:Array Value}{W:World}(hL:laidMetH Tryz.prog J7 W)(hz:R f args []=some (B true,[]))(hs:vals.size=args.length)
  (hv:∀ (i:Nat) (c:AV) (u:Value),args[i]?=some c->vals[i]?=some u->RD W (KB W) c u) (he:(callFunc f vals).run Tryz.prog W=.ok (.enter f vals) W):
  Calls Tryz.prog f vals W fun e W'=>e=.returned (.bool true)/\Below W.heap.size W W':=by
 obtain⟨h1,h2⟩:=ajo hL;have hs0:0<W.heap.size:=by
  have:=h1 0 δ;unfold World.cell? at this;split at this
  ·rename_i hb;exact(Array.getElem?_eq_some_iff.1 hb).1
  ·cases this
 have key:=abz aug f (args:=args) (obs:=[]) (obs':=[]) (res:=B true) (w:=W) (X:=X0) (ρ:=al1) (vals:=vals) (n:=2000) hz (aCJ _) h1 (ayv hs0) hs fun i c u hc hu=>.dat ((hv i c u hc hu).mono fun b hb=>⟨ayw hb,rfl⟩);unfold Enters at key;rw[he]at key;refine Calls.mono key fun e W' hw=>?_;cases e with
 |returned v=>
  obtain⟨ρ',r,far,rv⟩:=hw;rw[al2]at rv far;obtain⟨rfl,_⟩:=rv.v_inv;exact⟨rfl,far.os,far.tape,far.output,far.size,fun k hk=>far.old k hk fun⟨id,sub,hl,_⟩=>J8 id sub hl⟩
 |_=>exact hw.elim
end Go.Ab
