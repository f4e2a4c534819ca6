/-
  A law of tapes on models holds at every input that the statement speaks of, under the conditions that its card names. Part H1.
-/
import Derived.LaidMore
import Derived.Test.YtighajjmobfadaaGreatDoorG1
open Nat renaming le_refl → ayZ
open Option renaming map_some → azE
set_option linter.all false
namespace Go.Ab
open Go Go.Proofs Go.Shelf Go.ChangeShapes Go.WideShapes Go.RowKit
set_option maxRecDepth 100000
theorem D7{α:Type}{l:List (Nat×α)}{f:Nat}{x:α}(h:l.lookup f=some x):(f,x)∈l:=by
 induction l with
 |nil=>cases h
 |cons a l ih=>
  obtain⟨i,y⟩:=a;rw[List.lookup_cons]at h;split at h
  ·rename_i he;simp at he;cases h;subst he;simp
  ·exact List.mem_cons_of_mem _ (ih h)
def ajL:Go.Shelf.Ren:=⟨fun|15=>115|n=>n,fun|22=>59|n=>n,fun n=>n⟩
theorem aoH:Lays2.n15 Tryz.prog ajL where
 mixed:=by kernel_rfl
 f15:=by kernel_rfl
 t3:=by kernel_rfl
 a3:=Tryz.isAgg3
 z3:=Tryz.sizeOf3
 v3:=Tryz.zeroValue3
 t4:=by kernel_rfl
 a4:=Tryz.isAgg4
 z4:=Tryz.sizeOf4
 v4:=Tryz.zeroValue4
 t22:=by kernel_rfl
 a22:=Tryz.isAgg59
 z22:=Tryz.sizeOf59
 v22:=Tryz.zeroValue59
 i3:=by kernel_rfl
theorem ajM:qQ Tryz.prog LH false F.slices_overlaps_api_Term_ (ZW 4):=
 aoF Tryz.func235 κ κ κ (tS:=25) (tR:=4) (e:=72) κ κ Tryz.sizeOf72
theorem aoI:EnvOK Tryz.prog LH Hm where
 mixed:=by kernel_rfl
 ext f g h:=by
  have:=D7 h;simp only[UW,List.mem_cons,List.not_mem_nil,or_false,Prod.mk.injEq]at this;rcases this with⟨rfl,rfl⟩| ⟨rfl,rfl⟩
  ·have hk:Hm.md.keep F.bits_TrailingZeros32=false:=by kernel_rfl
   rw[hk];exact @ajK
  ·have hk:Hm.md.keep F.slices_overlaps_api_Term_=false:=by kernel_rfl
   rw[hk];exact @ajM
 text f fd _ h:=YI _ (D7 h)
theorem aoJ(f:FuncId)(hk:Hm.md.keep f=false):qQ Tryz.prog LH false f (R0 f):=by
 have h:qQ Tryz.prog LH (Hm.md.keep f) f (R0 f):=ZT aoI f;rw[hk]at h;exact @h
theorem aqS:EnvOK Tryz.prog LH cO where
 mixed:=by kernel_rfl
 ext f g h:=by
  have:=D7 h;simp only[amV,UW,List.mem_cons,List.not_mem_nil,or_false,Prod.mk.injEq]at this;rcases this with⟨rfl,rfl⟩| ⟨rfl,rfl⟩| ⟨rfl,rfl⟩| ⟨rfl,rfl⟩
  ·have hk:cO.md.keep F.slices_Clone_int_int_=false:=by kernel_rfl
   rw[hk];exact @aoG Tryz.prog LH ajL aoH rfl (fun a w=>(enters_of Tryz.func115 κ rfl:Proofs.Enters Tryz.prog 115) a w) (aoJ _ κ)
  ·have hk:cO.md.keep F.slices_Insert_api_Term_api_Term_=false:=by kernel_rfl
   rw[hk];exact @amk Tryz.prog LH (aoJ _ κ)
  ·have hk:cO.md.keep F.bits_TrailingZeros32=false:=by kernel_rfl
   rw[hk];exact @ajK
  ·have hk:cO.md.keep F.slices_overlaps_api_Term_=false:=by kernel_rfl
   rw[hk];exact @ajM
 text f fd _ h:=YI _ (D7 h)
theorem auI:Tryz.prog.globalNamed "math/bits.deBruijn32tab" =some 0:=by kernel_rfl
theorem auJ:(Tryz.prog.globals[0]?).map (·.type)=some 243:=by kernel_rfl
abbrev Ju:List (String×DataW Unit):=[("math/bits.deBruijn32tab",YtighajjmobfadaaGreatDoor.Rows.laid_math_bits_deBruijn32tab)]
theorem agH{W:World}(h:laidMetH Tryz.prog Ju W):TabAt 0 Lib.deBruijn32tab W/\adx W:=by
 rw[MakeChecks.laidMetH_plain _ _ _ κ]at h;obtain⟨ps,⟨g0,t0,cs0,f0,p0,q0,hg0,ht0,hv0,hd0,_,_⟩,_,_⟩:=h;obtain rfl:=Option.some.inj (auI.symm.trans hg0);obtain rfl:=Option.some.inj (auJ.symm.trans ht0);obtain⟨xs,m1,rfl,hx1,hlen,hn3,hel⟩:=DataW.trod_array Tryz.underlying243 hd0;have c5:Tryz.prog.cellsOf 5=1:=by kernel_rfl
 have c155:Tryz.prog.cellsOf 243=32:=by kernel_rfl
 rw[c155]at hlen;simp only[Prod.mk.injEq]at hx1;have hD:(YtighajjmobfadaaGreatDoor.Rows.laid_math_bits_deBruijn32tab:DataW Unit)=.agg (Lib.deBruijn32tab.map fun(k:Nat)=>.lit (.int .u8 (k:Int))):=rfl;have hmap:xs.map (·.1)=Lib.deBruijn32tab.map fun(k:Nat)=>(.lit (.int .u8 (k:Int)):DataW Unit):=by
  have:=hD.symm.trans hx1.1;simpa using this.symm
 have key:∀i,i<32->cs0[i]?=some (.int .u8 (Lib.deBruijn32tab.getD i 0:Nat)):=fun i hi=>by
  have h1:=hel i hi;rw[c5,Nat.mul_one]at h1;obtain⟨y,hy⟩:∃y,xs[i]?=some y:=⟨xs[i]'(by omega),by simp⟩;rw[hy]at h1;obtain⟨n,e1,e2,_⟩:=DataW.trod_int Tryz.underlying5 h1;have h2:(xs.map (·.1))[i]?=some y.1:=by simp[hy]
  rw[hmap,List.getElem?_map]at h2;have h3:Lib.deBruijn32tab[i]?=some (Lib.deBruijn32tab.getD i 0):=by
   rw[List.getD_eq_getElem?_getD,List.getElem?_eq_getElem (show i<Lib.deBruijn32tab.length from hi)];rfl
  rw[h3,e2]at h2;simp only[azE,Option.some.injEq,DataW.lit.injEq,Lit.int.injEq,true_and]at h2;have h4:cs0.toList[i]?=some (.int .u8 n):=by
   have:=congrArg (·[0]?) e1;simpa [List.getElem?_take,List.getElem?_drop]using this
  rw[h2];simpa using h4
 refine⟨fun j hj=>?_,fun o v hv=>?_⟩
 ·rw[World.var?_cell hg0 hv0 j];exact key j hj
 ·rw[World.var?_cell hg0 hv0 o]at hv;have ho:o<32:=by
   have:=(Array.getElem?_eq_some_iff.1 hv).1;have h2:cs0.size=32:=by simpa using hlen
   omega
  rw[key o ho]at hv;exact⟨_,(Option.some.inj hv).symm⟩
theorem Jv(id:Nat)(sub:Option Nat):¬live (am []) id sub:=by
 have hd:am [] id=.dead:=by
  unfold am;split<;>simp
 cases sub with
 |none=>simp[live,hd]
 |some p=>simp[live,hd]
def X0(_:Nat):Prop:=False
def ai7:eu:=fun _ _=>(0,0)
theorem auK{W:World}(hs:0<W.heap.size):Rel W X0 ai7 (am []) where
 inj id sub id' sub' h:=(Jv id sub h).elim
 nx id sub h:=(Jv id sub h).elim
 ob id:=by
  have hd:am [] id=.dead:=by
   unfold am;split<;>simp
  rw[hd];trivial
 xl b hb:=by rcases hb with hb|rfl;exact hb.elim;exact hs
theorem auL{W:World}{b:Nat}(h:QB W b):aJ W X0 (am []) ai7 b:=⟨h,fun hx=>hx,fun⟨id,sub,hl,_⟩=>Jv id sub hl⟩
theorem ai8(n:Nat)(h:ac)(b:Bool):mat n h (B b)=(B b,h):=rfl
theorem agI{f:Nat}{fn:Func}(_hf:Tryz.prog.funcs[f]?=some fn)(_hn: (fn.name== "runtime.NumGoroutine")=false)(_hb:fn.body.isSome=true){args:List AV}{vals:Array Value}{W:World}(hL:laidMetH Tryz.prog Ju W)(hz:R f args []=some (B true,[]))(hs:vals.size=args.length)
  (hv:∀ (i:Nat) (c:AV) (u:Value),args[i]?=some c->vals[i]?=some u->RD W (QB W) c u) (he:(callFunc f vals).run Tryz.prog W=.ok (.enter f vals) W):
  Calls Tryz.prog f vals W fun e W'=>e=.returned (.bool true)/\Below W.heap.size W W':=by
 obtain⟨h1,h2⟩:=agH hL;have hs0:0<W.heap.size:=by
  have:=h1 0 δ;unfold World.cell? at this;split at this
  ·rename_i hb;exact(Array.getElem?_eq_some_iff.1 hb).1
  ·cases this
 have key:=ZT aqS f (args:=args) (obs:=[]) (obs':=[]) (res:=B true) (w:=W) (X:=X0) (ρ:=ai7) (vals:=vals) (n:=2000) hz (ayZ _) h1 (auK hs0) hs fun i c u hc hu=>.dat ((hv i c u hc hu).mono fun b hb=>⟨auL hb,rfl⟩);unfold Enters at key;rw[he]at key;refine Calls.mono key fun e W' hw=>?_;cases e with
 |returned v=>
  obtain⟨ρ',r,far,rv⟩:=hw;rw[ai8]at rv far;obtain⟨rfl,_⟩:=rv.v_inv;exact⟨rfl,far.os,far.tape,far.output,far.size,fun k hk=>far.old k hk fun⟨id,sub,hl,_⟩=>Jv id sub hl⟩
 |_=>exact hw.elim
end Go.Ab
