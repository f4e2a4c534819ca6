/-
  ModelfunApply holds at every input of its card. Part I1.
-/
import Derived.LaidMore
import Derived.Test.YtaojbnikhbkleaaGreatDoorH1
open Nat renaming le_refl → aET
open List renaming length → O, getD_eq_getElem?_getD → aF3, getElem?_eq_getElem → aE1, getElem?_map → aFw
open Option renaming map_some → aFK
set_option linter.all false
namespace Go.Ab
open Go Go.Proofs Go.Shelf Go.ChangeShapes Go.WideShapes Go.RowKit
set_option maxRecDepth 100000
def GT{α:Type}{l:List (Nat×α)}{f:Nat}{x:α}(h:l.lookup f=some x):(f,x)∈l:=by
 induction l with
 |nil=>cases h
 |cons a l ih=>
  obtain⟨i,y⟩:=a;rw[List.lookup_cons]at h;split at h
  ·rename_i he;simp at he;cases h;subst he;simp
  ·exact List.mem_cons_of_mem _ (ih h)
def apn:Go.Shelf.Ren:=⟨fun|15=>134|n=>n,fun|22=>44|n=>n,fun n=>n⟩
def aup:Lays2.n15 Tryz.prog apn where
 mixed:=by kernel_rfl
 f15:=by kernel_rfl
 t3:=by kernel_rfl
 a3:=Tryz.isAgg3
 z3:=Tryz.sizeOf3
 v3:=Tryz.zeroValue3
 t4:=by kernel_rfl
 a4:=Tryz.isAgg4
 z4:=Tryz.sizeOf4
 v4:=Tryz.zeroValue4
 t22:=by kernel_rfl
 a22:=Tryz.isAgg44
 z22:=Tryz.sizeOf44
 v22:=Tryz.zeroValue44
 i3:=by kernel_rfl
theorem apo:rK Tryz.prog JA false 240 (ovF 4):=
 auk Tryz.func240 κ κ κ (tS:=25) (tR:=4) (e:=72) κ κ Tryz.sizeOf72
def auq:EnvOK Tryz.prog JA Jz where
 mixed:=by kernel_rfl
 ext f g h:=by
  have:=GT h;simp only[YA,List.mem_cons,List.not_mem_nil,or_false,Prod.mk.injEq]at this;rcases this with⟨rfl,rfl⟩| ⟨rfl,rfl⟩
  ·have hk:Jz.md.keep 263=false:=by kernel_rfl
   rw[hk];exact @apm
  ·have hk:Jz.md.keep 240=false:=by kernel_rfl
   rw[hk];exact @apo
 text f fd _ h:=acp _ (GT h)
def aif(f:FuncId)(hk:Jz.md.keep f=false):rK Tryz.prog JA false f (R0 f):=by
 have h:rK Tryz.prog JA (Jz.md.keep f) f (R0 f):=adB auq f;rw[hk]at h;exact @h
def awy:EnvOK Tryz.prog JA cB where
 mixed:=by kernel_rfl
 ext f g h:=by
  have:=GT h;simp only[asy,YA,List.mem_cons,List.not_mem_nil,or_false,Prod.mk.injEq]at this;rcases this with⟨rfl,rfl⟩| ⟨rfl,rfl⟩| ⟨rfl,rfl⟩| ⟨rfl,rfl⟩| ⟨rfl,rfl⟩
  ·have hk:cB.md.keep 189=false:=by kernel_rfl
   rw[hk];exact @afJ Tryz.prog JA 189 clU 1 (.sl 1 []) _ (fun a w=>(enters_of Tryz.func189 κ rfl:Proofs.Enters Tryz.prog 189) a w) aov (.inl rfl) aww (aif _ κ)
  ·have hk:cB.md.keep 134=false:=by kernel_rfl
   rw[hk];exact @aul Tryz.prog JA apn aup rfl (fun a w=>(enters_of Tryz.func134 κ rfl:Proofs.Enters Tryz.prog 134) a w) (aif _ κ)
  ·have hk:cB.md.keep 182=false:=by kernel_rfl
   rw[hk];exact @arU Tryz.prog JA (aif _ κ)
  ·have hk:cB.md.keep 263=false:=by kernel_rfl
   rw[hk];exact @apm
  ·have hk:cB.md.keep 240=false:=by kernel_rfl
   rw[hk];exact @apo
 text f fd _ h:=acp _ (GT h)
def aAy:Tryz.prog.globalNamed "math/bits.deBruijn32tab" =some 0:=by kernel_rfl
def aAz:(Tryz.prog.globals[0]?).map (·.type)=some 233:=by kernel_rfl
abbrev LQ:List (String×DataW Unit):=[("math/bits.deBruijn32tab",YtaojbnikhbkleaaGreatDoor.Rows.laid_math_bits_deBruijn32tab)]
def alI{W:World}(h:laidMetH Tryz.prog LQ W):TabAt 0 Lib.deBruijn32tab W/\Gh W:=by
 rw[MakeChecks.laidMetH_plain _ _ _ κ]at h;obtain⟨ps,⟨g0,t0,cs0,f0,p0,q0,hg0,ht0,hv0,hd0,_,_⟩,_,_⟩:=h;obtain rfl:=Option.some.inj (aAy.symm.trans hg0);obtain rfl:=Option.some.inj (aAz.symm.trans ht0);obtain⟨xs,m1,rfl,hx1,hlen,hn3,hel⟩:=DataW.trod_array Tryz.underlying233 hd0;have c5:Tryz.prog.cellsOf 5=1:=by kernel_rfl
 have c155:Tryz.prog.cellsOf 233=32:=by kernel_rfl
 rw[c155]at hlen;simp only[Prod.mk.injEq]at hx1;have hD:(YtaojbnikhbkleaaGreatDoor.Rows.laid_math_bits_deBruijn32tab:DataW Unit)=.agg (Lib.deBruijn32tab.map fun(k:Nat)=>.lit (.int .u8 (k:Int))):=rfl;have hmap:xs.map (·.1)=Lib.deBruijn32tab.map fun(k:Nat)=>(.lit (.int .u8 (k:Int)):DataW Unit):=by
  have:=hD.symm.trans hx1.1;simpa using this.symm
 have key:∀i,i<32->cs0[i]?=some (.int .u8 (Lib.deBruijn32tab.getD i 0:Nat)):=fun i hi=>by
  have h1:=hel i hi;rw[c5,Nat.mul_one]at h1;obtain⟨y,hy⟩:∃y,xs[i]?=some y:=⟨xs[i]'(by omega),by simp⟩;rw[hy]at h1;obtain⟨n,e1,e2,_⟩:=DataW.trod_int Tryz.underlying5 h1;have h2:(xs.map (·.1))[i]?=some y.1:=by simp[hy]
  rw[hmap,aFw]at h2;have h3:Lib.deBruijn32tab[i]?=some (Lib.deBruijn32tab.getD i 0):=by
   rw[aF3,aE1 (show i<O Lib.deBruijn32tab from hi)];rfl
  rw[h3,e2]at h2;simp only[aFK,Option.some.injEq,DataW.lit.injEq,Lit.int.injEq,true_and]at h2;have h4:cs0.toList[i]?=some (.int .u8 n):=by
   have:=congrArg (·[0]?) e1;simpa [List.getElem?_take,List.getElem?_drop]using this
  rw[h2];simpa using h4
 refine⟨fun j hj=>?_,fun o v hv=>?_⟩
 ·rw[World.var?_cell hg0 hv0 j];exact key j hj
 ·rw[World.var?_cell hg0 hv0 o]at hv;have ho:o<32:=by
   have:=(Array.getElem?_eq_some_iff.1 hv).1;have h2:cs0.size=32:=by simpa using hlen
   omega
  rw[key o ho]at hv;exact⟨_,(Option.some.inj hv).symm⟩
def LR(id:Nat)(sub:Option Nat):¬live (az []) id sub:=by
 have hd:az [] id=.dead:=by
  unfold az;split<;>simp
 cases sub with
 |none=>simp[live,hd]
 |some p=>simp[live,hd]
def X0(_:Nat):Prop:=False
def aoz:fL:=fun _ _=>(0,0)
def aAA{W:World}(hs:0<W.heap.size):Rel W X0 aoz (az []) where
 inj id sub id' sub' h:=(LR id sub h).elim
 nx id sub h:=(LR id sub h).elim
 ob id:=by
  have hd:az [] id=.dead:=by
   unfold az;split<;>simp
  rw[hd];trivial
 xl b hb:=by rcases hb with hb|rfl;exact hb.elim;exact hs
def aAB{W:World}{b:Nat}(h:Mm W b):aN W X0 (az []) aoz b:=⟨h,fun hx=>hx,fun⟨id,sub,hl,_⟩=>LR id sub hl⟩
theorem aoA(n:Nat)(h:aj)(b:Bool):mat n h (B b)=(B b,h):=rfl
def alJ{f:Nat}{fn:Func}(_hf:Tryz.prog.funcs[f]?=some fn)(_hn: (fn.name== "runtime.NumGoroutine")=false)(_hb:fn.body.isSome=true){args:List AV}{vals:Array Value}{W:World}(hL:laidMetH Tryz.prog LQ W)(hz:R f args []=some (B true,[]))(hs:vals.size=O args)
  (hv:∀ (i:Nat) (c:AV) (u:Value),args[i]?=some c->vals[i]?=some u->RD W (Mm W) c u) (he:(callFunc f vals).run Tryz.prog W=.ok (.enter f vals) W):
  Calls Tryz.prog f vals W fun e W'=>e=.returned (.bool true)/\Below W.heap.size W W':=by
 obtain⟨h1,h2⟩:=alI hL;have hs0:0<W.heap.size:=by
  have:=h1 0 δ;unfold World.cell? at this;split at this
  ·rename_i hb;exact(Array.getElem?_eq_some_iff.1 hb).1
  ·cases this
 have key:=adB awy f (args:=args) (obs:=[]) (obs':=[]) (res:=B true) (w:=W) (X:=X0) (ρ:=aoz) (vals:=vals) (n:=2000) hz (aET _) h1 (aAA hs0) hs fun i c u hc hu=>.dat ((hv i c u hc hu).mono fun b hb=>⟨aAB hb,rfl⟩);unfold Enters at key;rw[he]at key;refine Calls.mono key fun e W' hw=>?_;cases e with
 |returned v=>
  obtain⟨ρ',r,far,rv⟩:=hw;rw[aoA]at rv far;obtain⟨rfl,_⟩:=rv.v_inv;exact⟨rfl,far.os,far.tape,far.output,far.size,fun k hk=>far.old k hk fun⟨id,sub,hl,_⟩=>LR id sub hl⟩
 |_=>exact hw.elim
end Go.Ab
