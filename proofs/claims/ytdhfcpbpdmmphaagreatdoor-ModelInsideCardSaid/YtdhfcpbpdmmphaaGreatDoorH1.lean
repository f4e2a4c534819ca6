/-
  A law of models holds at every input that the statement speaks of, under the conditions that its card names. Part H1.
-/
import Derived.LaidMore
import Derived.Test.YtdhfcpbpdmmphaaGreatDoorG1
open Nat renaming le_refl → awQ, lt_of_le_of_lt → axF, zero_add → awP
open Bool renaming and_self → axm
open List renaming length_cons → axE, length_nil → axI, map_cons → axp, map_nil → axv
open Option renaming map_some → axH
set_option linter.all false
namespace Go.Ab
open Go Go.Proofs Go.Shelf Go.ChangeShapes Go.WideShapes Go.RowKit Go.IntWalk
set_option maxRecDepth 100000
set_option maxHeartbeats 8000000
theorem CM{α:Type}{l:List (Nat×α)}{f:Nat}{x:α}(h:l.lookup f=some x):(f,x)∈l:=by
 induction l with
 |nil=>cases h
 |cons a l ih=>
  obtain⟨i,y⟩:=a;rw[List.lookup_cons]at h;split at h
  ·rename_i he;simp at he;cases h;subst he;simp
  ·exact List.mem_cons_of_mem _ (ih h)
def ah3:Go.Shelf.Ren:=⟨fun|15=>37|n=>n,fun|22=>54|n=>n,fun n=>n⟩
theorem amr:Lays2.n15 Tryz.prog ah3 where
 mixed:=by kernel_rfl
 f15:=by kernel_rfl
 t3:=by kernel_rfl
 a3:=Tryz.isAgg3
 z3:=Tryz.sizeOf3
 v3:=Tryz.zeroValue3
 t4:=by kernel_rfl
 a4:=Tryz.isAgg4
 z4:=Tryz.sizeOf4
 v4:=Tryz.zeroValue4
 t22:=by kernel_rfl
 a22:=Tryz.isAgg54
 z22:=Tryz.sizeOf54
 v22:=Tryz.zeroValue54
 i3:=by kernel_rfl
theorem ah4:pF Tryz.prog J1 false F.slices_overlaps_api_Term_ (X9 4):=
 amp Tryz.func202 κ κ κ (tS:=25) (tR:=4) (e:=56) κ κ Tryz.sizeOf56
theorem ams:EnvOK Tryz.prog J1 FK where
 mixed:=by kernel_rfl
 ext f g h:=by
  have:=CM h;simp only[Tk,List.mem_cons,List.not_mem_nil,or_false,Prod.mk.injEq]at this;rcases this with⟨rfl,rfl⟩| ⟨rfl,rfl⟩
  ·have hk:FK.md.keep F.bits_TrailingZeros32=false:=by kernel_rfl
   rw[hk];exact @ah2
  ·have hk:FK.md.keep F.slices_overlaps_api_Term_=false:=by kernel_rfl
   rw[hk];exact @ah4
 text f fd _ h:=Wx _ (CM h)
theorem amt(f:FuncId)(hk:FK.md.keep f=false):pF Tryz.prog J1 false f (R0 f):=by
 have h:pF Tryz.prog J1 (FK.md.keep f) f (R0 f):=X5 ams f;rw[hk]at h;exact @h
theorem aoC:EnvOK Tryz.prog J1 cJ where
 mixed:=by kernel_rfl
 ext f g h:=by
  have:=CM h;simp only[ak0,Tk,List.mem_cons,List.not_mem_nil,or_false,Prod.mk.injEq]at this;rcases this with⟨rfl,rfl⟩| ⟨rfl,rfl⟩| ⟨rfl,rfl⟩| ⟨rfl,rfl⟩
  ·have hk:cJ.md.keep F.slices_Clone_int_int_=false:=by kernel_rfl
   rw[hk];exact @amq Tryz.prog J1 ah3 amr rfl (fun a w=>(enters_of Tryz.func37 κ rfl:Proofs.Enters Tryz.prog 37) a w) (amt _ κ)
  ·have hk:cJ.md.keep F.slices_Insert_api_Term_api_Term_=false:=by kernel_rfl
   rw[hk];exact @aj7 Tryz.prog J1 (amt _ κ)
  ·have hk:cJ.md.keep F.bits_TrailingZeros32=false:=by kernel_rfl
   rw[hk];exact @ah2
  ·have hk:cJ.md.keep F.slices_overlaps_api_Term_=false:=by kernel_rfl
   rw[hk];exact @ah4
 text f fd _ h:=Wx _ (CM h)
theorem asr:Tryz.prog.globalNamed "math/bits.deBruijn32tab" =some 0:=by kernel_rfl
theorem ass:(Tryz.prog.globals[0]?).map (·.type)=some 218:=by kernel_rfl
abbrev HN:List (String×DataW Unit):=[("math/bits.deBruijn32tab",YtdhfcpbpdmmphaaGreatDoor.Rows.laid_math_bits_deBruijn32tab)]
theorem aeV{W:World}(h:laidMetH Tryz.prog HN W):TabAt 0 Lib.deBruijn32tab W/\Eh W:=by
 rw[MakeChecks.laidMetH_plain _ _ _ κ]at h;obtain⟨ps,⟨g0,t0,cs0,f0,p0,q0,hg0,ht0,hv0,hd0,_,_⟩,_,_⟩:=h;obtain rfl:=Option.some.inj (asr.symm.trans hg0);obtain rfl:=Option.some.inj (ass.symm.trans ht0);obtain⟨xs,m1,rfl,hx1,hlen,hn3,hel⟩:=DataW.trod_array Tryz.underlying218 hd0;have c5:Tryz.prog.cellsOf 5=1:=by kernel_rfl
 have c155:Tryz.prog.cellsOf 218=32:=by kernel_rfl
 rw[c155]at hlen;simp only[Prod.mk.injEq]at hx1;have hD:(YtdhfcpbpdmmphaaGreatDoor.Rows.laid_math_bits_deBruijn32tab:DataW Unit)=.agg (Lib.deBruijn32tab.map fun(k:Nat)=>.lit (.int .u8 (k:Int))):=rfl;have hmap:xs.map (·.1)=Lib.deBruijn32tab.map fun(k:Nat)=>(.lit (.int .u8 (k:Int)):DataW Unit):=by
  have:=hD.symm.trans hx1.1;simpa using this.symm
 have key:∀i,i<32->cs0[i]?=some (.int .u8 (Lib.deBruijn32tab.getD i 0:Nat)):=fun i hi=>by
  have h1:=hel i hi;rw[c5,Nat.mul_one]at h1;obtain⟨y,hy⟩:∃y,xs[i]?=some y:=⟨xs[i]'(by omega),by simp⟩;rw[hy]at h1;obtain⟨n,e1,e2,_⟩:=DataW.trod_int Tryz.underlying5 h1;have h2:(xs.map (·.1))[i]?=some y.1:=by simp[hy]
  rw[hmap,List.getElem?_map]at h2;have h3:Lib.deBruijn32tab[i]?=some (Lib.deBruijn32tab.getD i 0):=by
   rw[List.getD_eq_getElem?_getD,List.getElem?_eq_getElem (show i<Lib.deBruijn32tab.length from hi)];rfl
  rw[h3,e2]at h2;simp only[axH,Option.some.injEq,DataW.lit.injEq,Lit.int.injEq,true_and]at h2;have h4:cs0.toList[i]?=some (.int .u8 n):=by
   have:=congrArg (·[0]?) e1;simpa [List.getElem?_take,List.getElem?_drop]using this
  rw[h2];simpa using h4
 refine⟨fun j hj=>?_,fun o v hv=>?_⟩
 ·rw[World.var?_cell hg0 hv0 j];exact key j hj
 ·rw[World.var?_cell hg0 hv0 o]at hv;have ho:o<32:=by
   have:=(Array.getElem?_eq_some_iff.1 hv).1;have h2:cs0.size=32:=by simpa using hlen
   omega
  rw[key o ho]at hv;exact⟨_,(Option.some.inj hv).symm⟩
theorem HO(id:Nat)(sub:Option Nat):¬live (ap []) id sub:=by
 have hd:ap [] id=.dead:=by
  unfold ap;split<;>simp
 cases sub with
 |none=>simp[live,hd]
 |some p=>simp[live,hd]
def X0(_:Nat):Prop:=False
def ahp:dX:=fun _ _=>(0,0)
theorem ast{W:World}(hs:0<W.heap.size):Rel W X0 ahp (ap []) where
 inj id sub id' sub' h:=(HO id sub h).elim
 nx id sub h:=(HO id sub h).elim
 ob id:=by
  have hd:ap [] id=.dead:=by
   unfold ap;split<;>simp
  rw[hd];trivial
 xl b hb:=by rcases hb with hb|rfl;exact hb.elim;exact hs
theorem asu{W:World}{b:Nat}(h:Ik W b):aJ W X0 (ap []) ahp b:=⟨h,fun hx=>hx,fun⟨id,sub,hl,_⟩=>HO id sub hl⟩
theorem ahq(n:Nat)(h:ac)(b:Bool):mat n h (B b)=(B b,h):=rfl
theorem aeW{f:Nat}{fn:Func}(_hf:Tryz.prog.funcs[f]?=some fn)(_hn: (fn.name== "runtime.NumGoroutine")=false)(_hb:fn.body.isSome=true){args:List AV}{vals:Array Value}{W:World}(hL:laidMetH Tryz.prog HN W)(hz:R f args []=some (B true,[]))(hs:vals.size=args.length)
  (hv:∀ (i:Nat) (c:AV) (u:Value),args[i]?=some c->vals[i]?=some u->RD W (Ik W) c u) (he:(callFunc f vals).run Tryz.prog W=.ok (.enter f vals) W):
  Calls Tryz.prog f vals W fun e W'=>e=.returned (.bool true)/\Below W.heap.size W W':=by
 obtain⟨h1,h2⟩:=aeV hL;have hs0:0<W.heap.size:=by
  have:=h1 0 (by decide);unfold World.cell? at this;split at this
  ·rename_i hb;exact(Array.getElem?_eq_some_iff.1 hb).1
  ·cases this
 have key:=X5 aoC f (args:=args) (obs:=[]) (obs':=[]) (res:=B true) (w:=W) (X:=X0) (ρ:=ahp) (vals:=vals) (n:=2000) hz (awQ _) h1 (ast hs0) hs fun i c u hc hu=>.dat ((hv i c u hc hu).mono fun b hb=>⟨asu hb,rfl⟩);unfold Enters at key;rw[he]at key;refine Calls.mono key fun e W' hw=>?_;cases e with
 |returned v=>
  obtain⟨ρ',r,far,rv⟩:=hw;rw[ahq]at rv far;obtain⟨rfl,_⟩:=rv.v_inv;exact⟨rfl,far.os,far.tape,far.output,far.size,fun k hk=>far.old k hk fun⟨id,sub,hl,_⟩=>HO id sub hl⟩
 |_=>exact hw.elim
theorem QG:OkI bU:=⟨aU.2,aU.2⟩
theorem QH{q:Rp}(h:Fit s0 q):OkM ⟨q,bU⟩:=⟨fun t ht=>(h.c.t t ht).c,QG,by have:=h.n;show q.terms.length<_;omega⟩
theorem asE:R F.l25_awake [] []=some (B true,[]):=by
 refine ax Xg rfl ?_;have h1:=Zt;have h2:=akk (i:=0) Sm;have h3:=QA Sm (QH Bg) (QH Bg);have h4:=ajX Sm (QH Bg) (QH O2);have h5:=QA Sm (QH O3) (QH O3);rw[asz]at h2;rw[asA]at h3;rw[asB]at h4;rw[asC]at h5;have h6:=ahW;have h7:=R2 QG QG;rw[Sa ((rR (m:=0)).i.elim fun _ h=>h.v),axm]at h7;have h8:=agT (x:=3) (by decide) (by decide);have k8:vd (intD 3)=true/\Ok0 (intD 3):=by
  unfold intD;exact⟨Gn (ML (by decide) (by decide) (by decide) (by decide)),⟨yc _ _ _,axF (AF (k:=128) (by decide)) (by decide)⟩⟩
 have h9:=aeD aid.ok k8.2;rw[ajM (by rw[akp (by decide) (by decide)];exact aid) k8.1]at h9;have ha:=aoM;generalize intD 3=d3 at h8 h9;generalize zR=z at h5 h9 ha;simp only[s0,xP,qP,yP,tX,uM,Ed,kO,OV,bL,am,ao,ae,ah,aH,bD,aS,axp,axv]at h1 h2 h3 h4 h5 h6 h7 h8 h9;rw[ha]at h5 h9;simp only[De,Ls,go_sem,h1,h2,h3,h4,h5,h6,h7,h8,h9,axE,axI,awP,adN,Int.cast_ofNat_Int,decide_true]
end Go.Ab
