/-
  A law of models holds at every input that the statement speaks of, under the conditions that its card names. Part H1.
-/
import Derived.LaidMore
import Derived.Test.YtdhfcpbpdmmphaaGreatDoorG1
open Nat renaming le_refl → ayd, lt_of_le_of_lt → ayS, zero_add → ayc
open Bool renaming and_self → ayK
open List renaming length_cons → ayL, length_nil → ayR, map_cons → ays, map_nil → ayu
open Option renaming map_some → ayT
set_option linter.all false
namespace Go.Ab
open Go Go.Proofs Go.Shelf Go.ChangeShapes Go.WideShapes Go.RowKit Go.IntWalk
set_option maxRecDepth 100000
set_option maxHeartbeats 8000000
theorem Dm{α:Type}{l:List (Nat×α)}{f:Nat}{x:α}(h:l.lookup f=some x):(f,x)∈l:=by
 induction l with
 |nil=>cases h
 |cons a l ih=>
  obtain⟨i,y⟩:=a;rw[List.lookup_cons]at h;split at h
  ·rename_i he;simp at he;cases h;subst he;simp
  ·exact List.mem_cons_of_mem _ (ih h)
def ajk:Go.Shelf.Ren:=⟨fun|15=>37|n=>n,fun|22=>54|n=>n,fun n=>n⟩
theorem anL:Lays2.n15 Tryz.prog ajk where
 mixed:=by kernel_rfl
 f15:=by kernel_rfl
 t3:=by kernel_rfl
 a3:=Tryz.isAgg3
 z3:=Tryz.sizeOf3
 v3:=Tryz.zeroValue3
 t4:=by kernel_rfl
 a4:=Tryz.isAgg4
 z4:=Tryz.sizeOf4
 v4:=Tryz.zeroValue4
 t22:=by kernel_rfl
 a22:=Tryz.isAgg54
 z22:=Tryz.sizeOf54
 v22:=Tryz.zeroValue54
 i3:=by kernel_rfl
theorem ajl:qh Tryz.prog KL false fdY (Zu 4):=
 anJ Tryz.func202 κ κ κ (tS:=25) (tR:=4) (e:=56) κ κ Tryz.sizeOf56
theorem anM:EnvOK Tryz.prog KL Gk where
 mixed:=by kernel_rfl
 ext f g h:=by
  have:=Dm h;simp only[Um,List.mem_cons,List.not_mem_nil,or_false,Prod.mk.injEq]at this;rcases this with⟨rfl,rfl⟩| ⟨rfl,rfl⟩
  ·have hk:Gk.md.keep fai=false:=by kernel_rfl
   rw[hk];exact @ajj
  ·have hk:Gk.md.keep fdY=false:=by kernel_rfl
   rw[hk];exact @ajl
 text f fd _ h:=X3 _ (Dm h)
theorem anN(f:FuncId)(hk:Gk.md.keep f=false):qh Tryz.prog KL false f (R0 f):=by
 have h:qh Tryz.prog KL (Gk.md.keep f) f (R0 f):=Zr anM f;rw[hk]at h;exact @h
theorem apU:EnvOK Tryz.prog KL cK where
 mixed:=by kernel_rfl
 ext f g h:=by
  have:=Dm h;simp only[amj,Um,List.mem_cons,List.not_mem_nil,or_false,Prod.mk.injEq]at this;rcases this with⟨rfl,rfl⟩| ⟨rfl,rfl⟩| ⟨rfl,rfl⟩| ⟨rfl,rfl⟩
  ·have hk:cK.md.keep fdF=false:=by kernel_rfl
   rw[hk];exact @anK Tryz.prog KL ajk anL rfl (fun a w=>(enters_of Tryz.func37 κ rfl:Proofs.Enters Tryz.prog 37) a w) (anN _ κ)
  ·have hk:cK.md.keep fdW=false:=by kernel_rfl
   rw[hk];exact @als Tryz.prog KL (anN _ κ)
  ·have hk:cK.md.keep fai=false:=by kernel_rfl
   rw[hk];exact @ajj
  ·have hk:cK.md.keep fdY=false:=by kernel_rfl
   rw[hk];exact @ajl
 text f fd _ h:=X3 _ (Dm h)
theorem atM:Tryz.prog.globalNamed "math/bits.deBruijn32tab" =some 0:=by kernel_rfl
theorem atN:(Tryz.prog.globals[0]?).map (·.type)=some 218:=by kernel_rfl
abbrev Is:List (String×DataW Unit):=[("math/bits.deBruijn32tab",YtdhfcpbpdmmphaaGreatDoor.Rows.laid_math_bits_deBruijn32tab)]
theorem agi{W:World}(h:laidMetH Tryz.prog Is W):TabAt 0 Lib.deBruijn32tab W/\EW W:=by
 rw[MakeChecks.laidMetH_plain _ _ _ κ]at h;obtain⟨ps,⟨g0,t0,cs0,f0,p0,q0,hg0,ht0,hv0,hd0,_,_⟩,_,_⟩:=h;obtain rfl:=Option.some.inj (atM.symm.trans hg0);obtain rfl:=Option.some.inj (atN.symm.trans ht0);obtain⟨xs,m1,rfl,hx1,hlen,hn3,hel⟩:=DataW.trod_array Tryz.underlying218 hd0;have c5:Tryz.prog.cellsOf 5=1:=by kernel_rfl
 have c155:Tryz.prog.cellsOf 218=32:=by kernel_rfl
 rw[c155]at hlen;simp only[Prod.mk.injEq]at hx1;have hD:(YtdhfcpbpdmmphaaGreatDoor.Rows.laid_math_bits_deBruijn32tab:DataW Unit)=.agg (Lib.deBruijn32tab.map fun(k:Nat)=>.lit (.int .u8 (k:Int))):=rfl;have hmap:xs.map (·.1)=Lib.deBruijn32tab.map fun(k:Nat)=>(.lit (.int .u8 (k:Int)):DataW Unit):=by
  have:=hD.symm.trans hx1.1;simpa using this.symm
 have key:∀i,i<32->cs0[i]?=some (.int .u8 (Lib.deBruijn32tab.getD i 0:Nat)):=fun i hi=>by
  have h1:=hel i hi;rw[c5,Nat.mul_one]at h1;obtain⟨y,hy⟩:∃y,xs[i]?=some y:=⟨xs[i]'(by omega),by simp⟩;rw[hy]at h1;obtain⟨n,e1,e2,_⟩:=DataW.trod_int Tryz.underlying5 h1;have h2:(xs.map (·.1))[i]?=some y.1:=by simp[hy]
  rw[hmap,List.getElem?_map]at h2;have h3:Lib.deBruijn32tab[i]?=some (Lib.deBruijn32tab.getD i 0):=by
   rw[List.getD_eq_getElem?_getD,List.getElem?_eq_getElem (show i<Lib.deBruijn32tab.length from hi)];rfl
  rw[h3,e2]at h2;simp only[ayT,Option.some.injEq,DataW.lit.injEq,Lit.int.injEq,true_and]at h2;have h4:cs0.toList[i]?=some (.int .u8 n):=by
   have:=congrArg (·[0]?) e1;simpa [List.getElem?_take,List.getElem?_drop]using this
  rw[h2];simpa using h4
 refine⟨fun j hj=>?_,fun o v hv=>?_⟩
 ·rw[World.var?_cell hg0 hv0 j];exact key j hj
 ·rw[World.var?_cell hg0 hv0 o]at hv;have ho:o<32:=by
   have:=(Array.getElem?_eq_some_iff.1 hv).1;have h2:cs0.size=32:=by simpa using hlen
   omega
  rw[key o ho]at hv;exact⟨_,(Option.some.inj hv).symm⟩
theorem It(id:Nat)(sub:Option Nat):¬live (aq []) id sub:=by
 have hd:aq [] id=.dead:=by
  unfold aq;split<;>simp
 cases sub with
 |none=>simp[live,hd]
 |some p=>simp[live,hd]
def X0(_:Nat):Prop:=False
def aiK:ey:=fun _ _=>(0,0)
theorem atO{W:World}(hs:0<W.heap.size):Rel W X0 aiK (aq []) where
 inj id sub id' sub' h:=(It id sub h).elim
 nx id sub h:=(It id sub h).elim
 ob id:=by
  have hd:aq [] id=.dead:=by
   unfold aq;split<;>simp
  rw[hd];trivial
 xl b hb:=by rcases hb with hb|rfl;exact hb.elim;exact hs
theorem atP{W:World}{b:Nat}(h:I2 W b):aI W X0 (aq []) aiK b:=⟨h,fun hx=>hx,fun⟨id,sub,hl,_⟩=>It id sub hl⟩
theorem aiL(n:Nat)(h:ac)(b:Bool):mat n h (B b)=(B b,h):=rfl
theorem agj{f:Nat}{fn:Func}(_hf:Tryz.prog.funcs[f]?=some fn)(_hn: (fn.name== "runtime.NumGoroutine")=false)(_hb:fn.body.isSome=true){args:List AV}{vals:Array Value}{W:World}(hL:laidMetH Tryz.prog Is W)(hz:R f args []=some (B true,[]))(hs:vals.size=args.length)
  (hv:∀ (i:Nat) (c:AV) (u:Value),args[i]?=some c->vals[i]?=some u->RD W (I2 W) c u) (he:(callFunc f vals).run Tryz.prog W=.ok (.enter f vals) W):
  Calls Tryz.prog f vals W fun e W'=>e=.returned (.bool true)/\Below W.heap.size W W':=by
 obtain⟨h1,h2⟩:=agi hL;have hs0:0<W.heap.size:=by
  have:=h1 0 δ;unfold World.cell? at this;split at this
  ·rename_i hb;exact(Array.getElem?_eq_some_iff.1 hb).1
  ·cases this
 have key:=Zr apU f (args:=args) (obs:=[]) (obs':=[]) (res:=B true) (w:=W) (X:=X0) (ρ:=aiK) (vals:=vals) (n:=2000) hz (ayd _) h1 (atO hs0) hs fun i c u hc hu=>.dat ((hv i c u hc hu).mono fun b hb=>⟨atP hb,rfl⟩);unfold Enters at key;rw[he]at key;refine Calls.mono key fun e W' hw=>?_;cases e with
 |returned v=>
  obtain⟨ρ',r,far,rv⟩:=hw;rw[aiL]at rv far;obtain⟨rfl,_⟩:=rv.v_inv;exact⟨rfl,far.os,far.tape,far.output,far.size,fun k hk=>far.old k hk fun⟨id,sub,hl,_⟩=>It id sub hl⟩
 |_=>exact hw.elim
theorem RK:OkI bN:=⟨aU.2,aU.2⟩
theorem RL{q:Rp}(h:Fit s0 q):OkM ⟨q,bN⟩:=⟨fun t ht=>(h.c.t t ht).c,RK,by have:=h.n;show q.terms.length<_;omega⟩
theorem atY:R fbw [] []=some (B true,[]):=by
 refine au YE rfl ?_;have h1:=aaI;have h2:=aaQ (i:=0) Tg;have h3:=aaL Tg (RL LL) (RL LL);have h4:=ale Tg (RL LL) (RL Uy);have h5:=aaL Tg (RL PR) (RL PR);rw[atT]at h2;rw[atU]at h3;rw[atV]at h4;rw[atW]at h5;have h6:=PJ;have h7:=S1 RK RK;rw[S6 ((so (m:=0)).i.elim fun _ h=>h.v),ayK]at h7;have h8:=aih (x:=3) δ δ;have k8:vd (intD 3)=true/\Ok0 (intD 3):=by
  unfold intD;exact⟨GY (NF δ δ δ δ),⟨yG _ _ _,ayS (Be (k:=128) δ) δ⟩⟩
 have h9:=afU ajt.ok k8.2;rw[ak2 (by rw[alI δ δ];exact ajt) k8.1]at h9;have ha:=ap3;generalize intD 3=d3 at h8 h9;generalize zR=z at h5 h9 ha;simp only[s0,xP,qP,yP,tX,mM,Cm,fh,Hc,bQ,am,ap,ae,ah,aJ,bL,aO,ays,ayu]at h1 h2 h3 h4 h5 h6 h7 h8 h9;rw[ha]at h5 h9;simp only[DP,Mj,go_sem,h1,h2,h3,h4,h5,h6,h7,h8,h9,ayL,ayR,ayc,ae3,Int.cast_ofNat_Int,decide_true]
end Go.Ab
