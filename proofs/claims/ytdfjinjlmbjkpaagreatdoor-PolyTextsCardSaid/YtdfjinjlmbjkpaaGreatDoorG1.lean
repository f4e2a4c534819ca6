/-
  A law of polynomials' texts holds at every input that the statement speaks of, under the conditions that its card names. Part G1.
-/
import Derived.LaidMore
import Derived.Test.YtdfjinjlmbjkpaaGreatDoorF1
open Nat renaming le_refl → QK
open List renaming getElem?_eq_getElem → adW, getElem?_map → aeb
open Option renaming map_some → ad5
set_option linter.all false
namespace Go.Ab
open Go Go.Proofs Go.Shelf Go.ChangeShapes Go.WideShapes Go.RowKit
set_option maxRecDepth 100000
theorem SQ{α:Type}{l:List (Nat×α)}{f:Nat}{x:α}(h:l.lookup f=some x):(f,x)∈l:=by
 induction l with
 |nil=>cases h
 |cons a l ih=>
  obtain⟨i,y⟩:=a;rw[List.lookup_cons]at h;split at h
  ·rename_i he;simp at he;cases h;subst he;simp
  ·exact List.mem_cons_of_mem _ (ih h)
def abX:Go.Shelf.Ren:=⟨fun|15=>35|n=>n,fun|22=>42|n=>n,fun n=>n⟩
theorem ac0:Lays2.n15 Tryz.prog abX where
 mixed:=by kernel_rfl
 f15:=by kernel_rfl
 t3:=by kernel_rfl
 a3:=Tryz.isAgg3
 z3:=Tryz.sizeOf3
 v3:=Tryz.zeroValue3
 t4:=by kernel_rfl
 a4:=Tryz.isAgg4
 z4:=Tryz.sizeOf4
 v4:=Tryz.zeroValue4
 t22:=by kernel_rfl
 a22:=Tryz.isAgg42
 z22:=Tryz.sizeOf42
 v22:=Tryz.zeroValue42
 i3:=by kernel_rfl
theorem abY:GQ Tryz.prog RI false F.slices_overlaps_api_Term_ (PR 4):=
 acU Tryz.func91 (by kernel_rfl) (by kernel_rfl) (by kernel_rfl) (tS:=22) (tR:=4) (e:=47) (by kernel_rfl) (by kernel_rfl) Tryz.sizeOf47
theorem ac1:EnvOK Tryz.prog RI Tq where
 mixed:=by kernel_rfl
 ext f g h:=by
  have:=SQ h;simp only[HN,List.mem_cons,List.not_mem_nil,or_false,Prod.mk.injEq]at this;rcases this with⟨rfl,rfl⟩| ⟨rfl,rfl⟩
  ·have hk:Tq.md.keep F.bits_TrailingZeros32=false:=by kernel_rfl
   rw[hk];exact @abW
  ·have hk:Tq.md.keep F.slices_overlaps_api_Term_=false:=by kernel_rfl
   rw[hk];exact @abY
 text f fd _ h:=L9 _ (SQ h)
theorem abI(f:FuncId)(hk:Tq.md.keep f=false):GQ Tryz.prog RI false f (R0 f):=by
 have h:GQ Tryz.prog RI (Tq.md.keep f) f (R0 f):=Vr ac1 f;rw[hk]at h;exact @h
theorem Zs:EnvOK Tryz.prog RI cQ where
 mixed:=by kernel_rfl
 ext f g h:=by
  have:=SQ h;simp only[Lq,HN,List.mem_cons,List.not_mem_nil,or_false,Prod.mk.injEq]at this;rcases this with⟨rfl,rfl⟩| ⟨rfl,rfl⟩| ⟨rfl,rfl⟩| ⟨rfl,rfl⟩| ⟨rfl,rfl⟩| ⟨rfl,rfl⟩| ⟨rfl,rfl⟩| ⟨rfl,rfl⟩| ⟨rfl,rfl⟩| ⟨rfl,rfl⟩
  ·have hk:cQ.md.keep F.strconv_Itoa=false:=by kernel_rfl
   rw[hk];exact @adg
  ·have hk:cQ.md.keep F.strconv_FormatUint=false:=by kernel_rfl
   rw[hk];exact @adh
  ·have hk:cQ.md.keep F.strings_Repeat=false:=by kernel_rfl
   rw[hk];exact @adi
  ·have hk:cQ.md.keep F.strings_IndexByte=false:=by kernel_rfl
   rw[hk];exact @adj
  ·have hk:cQ.md.keep F.strings_Join=false:=by kernel_rfl
   rw[hk];exact @adk
  ·have hk:cQ.md.keep F.slices_Clone_uint32_uint32_=false:=by kernel_rfl
   rw[hk];exact @acr Tryz.prog RI F.slices_Clone_uint32_uint32_ Jq 1 (.sl 1 []) _ (fun a w=>(enters_of Tryz.func65 (by kernel_rfl) rfl:Proofs.Enters Tryz.prog 65) a w) abB (.inl rfl) adf (abI _ (by kernel_rfl))
  ·have hk:cQ.md.keep F.slices_Clone_int_int_=false:=by kernel_rfl
   rw[hk];exact @acV Tryz.prog RI abX ac0 rfl (fun a w=>(enters_of Tryz.func35 (by kernel_rfl) rfl:Proofs.Enters Tryz.prog 35) a w) (abI _ (by kernel_rfl))
  ·have hk:cQ.md.keep F.slices_Insert_api_Term_api_Term_=false:=by kernel_rfl
   rw[hk];exact @acq Tryz.prog RI (abI _ (by kernel_rfl))
  ·have hk:cQ.md.keep F.bits_TrailingZeros32=false:=by kernel_rfl
   rw[hk];exact @abW
  ·have hk:cQ.md.keep F.slices_overlaps_api_Term_=false:=by kernel_rfl
   rw[hk];exact @abY
 text f fd _ h:=L9 _ (SQ h)
theorem rOK(f:FuncId)(hk:cQ.md.keep f=false):GQ Tryz.prog RI false f (R f):=by
 have h:GQ Tryz.prog RI (cQ.md.keep f) f (R f):=Vr Zs f;rw[hk]at h;exact @h
theorem ac3:EnvOK Tryz.prog RI Uf where
 mixed:=by kernel_rfl
 ext f g h:=by
  have h:(if f=F.dyadic_Text then some TQ else cQ.E f)=some g:=h;split at h
  ·rename_i hf;subst hf;cases h;have hk:cQ.md.keep F.dyadic_Text=false:=by kernel_rfl
   show GQ Tryz.prog RI (cQ.md.keep F.dyadic_Text) F.dyadic_Text TQ;rw[hk];exact @adl RI (rOK _ (by kernel_rfl)) (rOK _ (by kernel_rfl)) (rOK _ (by kernel_rfl)) (fun a w=>(enters_of Tryz.func37 (by kernel_rfl) rfl:Proofs.Enters Tryz.prog 37) a w) (fun a w=>(enters_of Tryz.func47 (by kernel_rfl) rfl:Proofs.Enters Tryz.prog 47) a w) (fun a w=>(enters_of Tryz.func22 (by kernel_rfl) rfl:Proofs.Enters Tryz.prog 22) a w) (fun a w=>(enters_of Tryz.func21 (by kernel_rfl) rfl:Proofs.Enters Tryz.prog 21) a w)
  ·exact @EnvOK.ext _ _ _ Zs f g h
 text f fd h hc:=by
  have h:(if f=F.dyadic_Text then some TQ else cQ.E f)=none:=h;split at h
  ·cases h
  ·exact EnvOK.text Zs f fd h hc
theorem adr:Tryz.prog.globalNamed "math/bits.deBruijn32tab" =some 2:=by kernel_rfl
theorem ads:(Tryz.prog.globals[2]?).map (·.type)=some 161:=by kernel_rfl
theorem gPw:Tryz.prog.globalNamed "internal/strconv.uint64pow10" =some 1:=by kernel_rfl
theorem tPw:(Tryz.prog.globals[1]?).map (·.type)=some 157:=by kernel_rfl
abbrev TK:List (String×DataW Unit):=[("math/bits.deBruijn32tab",YtdfjinjlmbjkpaaGreatDoor.Rows.laid_math_bits_deBruijn32tab),("math/bits.deBruijn64tab",YtdfjinjlmbjkpaaGreatDoor.Rows.laid_math_bits_deBruijn64tab),("internal/strconv.uint64pow10",YtdfjinjlmbjkpaaGreatDoor.Rows.laid_internal_strconv_uint64pow10)]
theorem aay{W:World}(h:laidMetH Tryz.prog TK W): (TabAt 2 Lib.deBruijn32tab W/\Lib.TabIs Tryz.prog W "internal/strconv.uint64pow10" .u64 Lib.pow10Tab)/\TI W:=by
 rw[MakeChecks.laidMetH_plain _ _ _ (by kernel_rfl)]at h;obtain⟨ps,⟨g0,t0,cs0,f0,p0,q0,hg0,ht0,hv0,hd0,⟨g1,t1,cs1,f1,p1,q1,hg1,ht1,hv1,hd1,⟨g2,t2,cs2,f2,p2,q2,hg2,ht2,hv2,hd2,_,_⟩,_⟩,_⟩,_,_⟩:=h;obtain rfl:=Option.some.inj (adr.symm.trans hg0);obtain rfl:=Option.some.inj (ads.symm.trans ht0);obtain⟨xs,m1,rfl,hx1,hlen,hn3,hel⟩:=DataW.trod_array Tryz.underlying161 hd0;have c5:Tryz.prog.cellsOf 5=1:=by kernel_rfl
 have c155:Tryz.prog.cellsOf 161=32:=by kernel_rfl
 rw[c155]at hlen;simp only[Prod.mk.injEq]at hx1;have hD:(YtdfjinjlmbjkpaaGreatDoor.Rows.laid_math_bits_deBruijn32tab:DataW Unit)=.agg (Lib.deBruijn32tab.map fun(k:Nat)=>.lit (.int .u8 (k:Int))):=rfl;have hmap:xs.map (·.1)=Lib.deBruijn32tab.map fun(k:Nat)=>(.lit (.int .u8 (k:Int)):DataW Unit):=by
  have:=hD.symm.trans hx1.1;simpa using this.symm
 have key:∀i,i<32->cs0[i]?=some (.int .u8 (Lib.deBruijn32tab.getD i 0:Nat)):=fun i hi=>by
  have h1:=hel i hi;rw[c5,Nat.mul_one]at h1;obtain⟨y,hy⟩:∃y,xs[i]?=some y:=⟨xs[i]'(by omega),by simp⟩;rw[hy]at h1;obtain⟨n,e1,e2,_⟩:=DataW.trod_int Tryz.underlying5 h1;have h2:(xs.map (·.1))[i]?=some y.1:=by simp[hy]
  rw[hmap,aeb]at h2;have h3:Lib.deBruijn32tab[i]?=some (Lib.deBruijn32tab.getD i 0):=by
   rw[List.getD_eq_getElem?_getD,adW (show i<Lib.deBruijn32tab.length from hi)];rfl
  rw[h3,e2]at h2;simp only[ad5,Option.some.injEq,DataW.lit.injEq,Lit.int.injEq,true_and]at h2;have h4:cs0.toList[i]?=some (.int .u8 n):=by
   have:=congrArg (·[0]?) e1;simpa [List.getElem?_take,List.getElem?_drop]using this
  rw[h2];simpa using h4
 obtain rfl:=Option.some.inj (gPw.symm.trans hg2);obtain rfl:=Option.some.inj (tPw.symm.trans ht2);have hD2:(YtdfjinjlmbjkpaaGreatDoor.Rows.laid_internal_strconv_uint64pow10:DataW Unit)=Lib.tabData .u64 Lib.pow10Tab:=rfl;rw[hD2]at hd2;refine⟨⟨fun j hj=>?_,?_⟩,rfl⟩
 ·rw[World.var?_cell hg0 hv0 j];exact key j hj
 ·unfold Lib.TabIs;rw[hv2,←Lib.cells_of_tab (n:=20) Tryz.underlying157 (by kernel_rfl) (by kernel_rfl) (by kernel_rfl) hd2]
theorem TL(id:Nat)(sub:Option Nat):¬live (aO []) id sub:=by
 have hd:aO [] id=.dead:=by
  unfold aO;split<;>simp
 cases sub with
 |none=>simp[live,hd]
 |some p=>simp[live,hd]
def X0(_:Nat):Prop:=False
def abJ:bg:=fun _ _=>(0,0)
theorem adt{W:World}(hs:2<W.heap.size):Rel W X0 abJ (aO []) where
 inj id sub id' sub' h:=(TL id sub h).elim
 nx id sub h:=(TL id sub h).elim
 ob id:=by
  have hd:aO [] id=.dead:=by
   unfold aO;split<;>simp
  rw[hd];trivial
 xl b hb:=by rcases hb with hb|hb;exact hb.elim;omega
theorem adu{W:World}{b:Nat}(h:P9 W b):l6 W X0 (aO []) abJ b:=⟨h,fun hx=>hx,fun⟨id,sub,hl,_⟩=>TL id sub hl⟩
theorem abK(n:Nat)(h:ac)(b:Bool):mat n h (B b)=(B b,h):=rfl
theorem aaz{f:Nat}{fn:Func}(_hf:Tryz.prog.funcs[f]?=some fn)(_hn: (fn.name== "runtime.NumGoroutine")=false)(_hb:fn.body.isSome=true){args:List AV}{vals:Array Value}{W:World}(hL:laidMetH Tryz.prog TK W)(hz:R1 f args []=some (B true,[]))(hs:vals.size=args.length)
  (hv:∀ (i:Nat) (c:AV) (u:Value),args[i]?=some c->vals[i]?=some u->RD W (P9 W) c u) (he:(callFunc f vals).run Tryz.prog W=.ok (.enter f vals) W):
  Calls Tryz.prog f vals W fun e W'=>e=.returned (.bool true)/\Below W.heap.size W W':=by
 obtain⟨h1,h2⟩:=aay hL;have hs0:2<W.heap.size:=by
  have:=h1.1 0 (by decide);unfold World.cell? at this;split at this
  ·rename_i hb;exact(Array.getElem?_eq_some_iff.1 hb).1
  ·cases this
 have key:=Vr ac3 f (args:=args) (obs:=[]) (obs':=[]) (res:=B true) (w:=W) (X:=X0) (ρ:=abJ) (vals:=vals) (n:=2000) hz (QK _) h1 (adt hs0) hs fun i c u hc hu=>.dat ((hv i c u hc hu).mono fun b hb=>⟨adu hb,rfl⟩);unfold Enters at key;rw[he]at key;refine Calls.mono key fun e W' hw=>?_;cases e with
 |returned v=>
  obtain⟨ρ',r,far,rv⟩:=hw;rw[abK]at rv far;obtain⟨rfl,_⟩:=rv.v_inv;exact⟨rfl,far.os,far.tape,far.output,far.size,fun k hk=>far.old k hk fun⟨id,sub,hl,_⟩=>TL id sub hl⟩
 |_=>exact hw.elim
end Go.Ab
