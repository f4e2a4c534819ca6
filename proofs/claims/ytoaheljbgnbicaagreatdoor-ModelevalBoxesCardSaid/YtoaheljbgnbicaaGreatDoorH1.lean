/-
  A law of tapes on models holds at every input that the statement speaks of, under the conditions that its card names. Part H1.
-/
import Derived.LaidMore
import Derived.Test.YtoaheljbgnbicaaGreatDoorG1
open Nat renaming le_refl → avt
open Bool renaming false_eq_true → awo
open List renaming append_nil → avE
open Option renaming bind_eq_some_iff → avq, bind_some → avw, map_some → av9
set_option linter.all false
namespace Go.Ab
open Go Go.Proofs Go.Shelf Go.ChangeShapes Go.WideShapes Go.RowKit Go.IntWalk
set_option maxRecDepth 100000
set_option maxHeartbeats 8000000
theorem C3{α:Type}{l:List (Nat×α)}{f:Nat}{x:α}(h:l.lookup f=some x):(f,x)∈l:=by
 induction l with
 |nil=>cases h
 |cons a l ih=>
  obtain⟨i,y⟩:=a;rw[List.lookup_cons]at h;split at h
  ·rename_i he;simp at he;cases h;subst he;simp
  ·exact List.mem_cons_of_mem _ (ih h)
def agK:Go.Shelf.Ren:=⟨fun|15=>126|n=>n,fun|22=>29|n=>n,fun n=>n⟩
theorem alm:Lays2.n15 Tryz.prog agK where
 mixed:=by kernel_rfl
 f15:=by kernel_rfl
 t3:=by kernel_rfl
 a3:=Tryz.isAgg3
 z3:=Tryz.sizeOf3
 v3:=Tryz.zeroValue3
 t4:=by kernel_rfl
 a4:=Tryz.isAgg4
 z4:=Tryz.sizeOf4
 v4:=Tryz.zeroValue4
 t22:=by kernel_rfl
 a22:=Tryz.isAgg29
 z22:=Tryz.sizeOf29
 v22:=Tryz.zeroValue29
 i3:=by kernel_rfl
theorem agL:pG Tryz.prog JI false F.slices_overlaps_api_Term_ (Xi 4):=
 alj Tryz.func193 κ κ κ (tS:=43) (tR:=4) (e:=67) κ κ Tryz.sizeOf67
theorem aln:EnvOK Tryz.prog JI FG where
 mixed:=by kernel_rfl
 ext f g h:=by
  have:=C3 h;simp only[SG,List.mem_cons,List.not_mem_nil,or_false,Prod.mk.injEq]at this;rcases this with⟨rfl,rfl⟩| ⟨rfl,rfl⟩
  ·have hk:FG.md.keep F.bits_TrailingZeros32=false:=by kernel_rfl
   rw[hk];exact @agJ
  ·have hk:FG.md.keep F.slices_overlaps_api_Term_=false:=by kernel_rfl
   rw[hk];exact @agL
 text f fd _ h:=V4 _ (C3 h)
theorem alp(f:FuncId)(hk:FG.md.keep f=false):pG Tryz.prog JI false f (R0 f):=by
 have h:pG Tryz.prog JI (FG.md.keep f) f (R0 f):=Xd aln f;rw[hk]at h;exact @h
theorem ans:EnvOK Tryz.prog JI cG where
 mixed:=by kernel_rfl
 ext f g h:=by
  have:=C3 h;simp only[ajK,SG,List.mem_cons,List.not_mem_nil,or_false,Prod.mk.injEq]at this;rcases this with⟨rfl,rfl⟩| ⟨rfl,rfl⟩| ⟨rfl,rfl⟩| ⟨rfl,rfl⟩
  ·have hk:cG.md.keep F.slices_Clone_int_int_=false:=by kernel_rfl
   rw[hk];exact @alk Tryz.prog JI agK alm rfl (fun a w=>(enters_of Tryz.func126 κ rfl:Proofs.Enters Tryz.prog 126) a w) (alp _ κ)
  ·have hk:cG.md.keep F.slices_Insert_api_Term_api_Term_=false:=by kernel_rfl
   rw[hk];exact @ai9 Tryz.prog JI (alp _ κ)
  ·have hk:cG.md.keep F.bits_TrailingZeros32=false:=by kernel_rfl
   rw[hk];exact @agJ
  ·have hk:cG.md.keep F.slices_overlaps_api_Term_=false:=by kernel_rfl
   rw[hk];exact @agL
 text f fd _ h:=V4 _ (C3 h)
theorem are:Tryz.prog.globalNamed "math/bits.deBruijn32tab" =some 0:=by kernel_rfl
theorem arf:(Tryz.prog.globals[0]?).map (·.type)=some 212:=by kernel_rfl
abbrev HA:List (String×DataW Unit):=[("math/bits.deBruijn32tab",YtoaheljbgnbicaaGreatDoor.Rows.laid_math_bits_deBruijn32tab)]
theorem adJ{W:World}(h:laidMetH Tryz.prog HA W):TabAt 0 Lib.deBruijn32tab W/\Cy W:=by
 rw[MakeChecks.laidMetH_plain _ _ _ κ]at h;obtain⟨ps,⟨g0,t0,cs0,f0,p0,q0,hg0,ht0,hv0,hd0,_,_⟩,_,_⟩:=h;obtain rfl:=Option.some.inj (are.symm.trans hg0);obtain rfl:=Option.some.inj (arf.symm.trans ht0);obtain⟨xs,m1,rfl,hx1,hlen,hn3,hel⟩:=DataW.trod_array Tryz.underlying212 hd0;have c5:Tryz.prog.cellsOf 5=1:=by kernel_rfl
 have c155:Tryz.prog.cellsOf 212=32:=by kernel_rfl
 rw[c155]at hlen;simp only[Prod.mk.injEq]at hx1;have hD:(YtoaheljbgnbicaaGreatDoor.Rows.laid_math_bits_deBruijn32tab:DataW Unit)=.agg (Lib.deBruijn32tab.map fun(k:Nat)=>.lit (.int .u8 (k:Int))):=rfl;have hmap:xs.map (·.1)=Lib.deBruijn32tab.map fun(k:Nat)=>(.lit (.int .u8 (k:Int)):DataW Unit):=by
  have:=hD.symm.trans hx1.1;simpa using this.symm
 have key:∀i,i<32->cs0[i]?=some (.int .u8 (Lib.deBruijn32tab.getD i 0:Nat)):=fun i hi=>by
  have h1:=hel i hi;rw[c5,Nat.mul_one]at h1;obtain⟨y,hy⟩:∃y,xs[i]?=some y:=⟨xs[i]'(by omega),by simp⟩;rw[hy]at h1;obtain⟨n,e1,e2,_⟩:=DataW.trod_int Tryz.underlying5 h1;have h2:(xs.map (·.1))[i]?=some y.1:=by simp[hy]
  rw[hmap,List.getElem?_map]at h2;have h3:Lib.deBruijn32tab[i]?=some (Lib.deBruijn32tab.getD i 0):=by
   rw[List.getD_eq_getElem?_getD,List.getElem?_eq_getElem (show i<Lib.deBruijn32tab.length from hi)];rfl
  rw[h3,e2]at h2;simp only[av9,Option.some.injEq,DataW.lit.injEq,Lit.int.injEq,true_and]at h2;have h4:cs0.toList[i]?=some (.int .u8 n):=by
   have:=congrArg (·[0]?) e1;simpa [List.getElem?_take,List.getElem?_drop]using this
  rw[h2];simpa using h4
 refine⟨fun j hj=>?_,fun o v hv=>?_⟩
 ·rw[World.var?_cell hg0 hv0 j];exact key j hj
 ·rw[World.var?_cell hg0 hv0 o]at hv;have ho:o<32:=by
   have:=(Array.getElem?_eq_some_iff.1 hv).1;have h2:cs0.size=32:=by simpa using hlen
   omega
  rw[key o ho]at hv;exact⟨_,(Option.some.inj hv).symm⟩
theorem HB(id:Nat)(sub:Option Nat):¬live (ao []) id sub:=by
 have hd:ao [] id=.dead:=by
  unfold ao;split<;>simp
 cases sub with
 |none=>simp[live,hd]
 |some p=>simp[live,hd]
def X0(_:Nat):Prop:=False
def af5:dZ:=fun _ _=>(0,0)
theorem arg{W:World}(hs:0<W.heap.size):Rel W X0 af5 (ao []) where
 inj id sub id' sub' h:=(HB id sub h).elim
 nx id sub h:=(HB id sub h).elim
 ob id:=by
  have hd:ao [] id=.dead:=by
   unfold ao;split<;>simp
  rw[hd];trivial
 xl b hb:=by rcases hb with hb|rfl;exact hb.elim;exact hs
theorem arh{W:World}{b:Nat}(h:H7 W b):aJ W X0 (ao []) af5 b:=⟨h,fun hx=>hx,fun⟨id,sub,hl,_⟩=>HB id sub hl⟩
theorem af6(n:Nat)(h:ac)(b:Bool):mat n h (B b)=(B b,h):=rfl
theorem adK{f:Nat}{fn:Func}(_hf:Tryz.prog.funcs[f]?=some fn)(_hn: (fn.name== "runtime.NumGoroutine")=false)(_hb:fn.body.isSome=true){args:List AV}{vals:Array Value}{W:World}(hL:laidMetH Tryz.prog HA W)(hz:R f args []=some (B true,[]))(hs:vals.size=args.length)
  (hv:∀ (i:Nat) (c:AV) (u:Value),args[i]?=some c->vals[i]?=some u->RD W (H7 W) c u) (he:(callFunc f vals).run Tryz.prog W=.ok (.enter f vals) W):
  Calls Tryz.prog f vals W fun e W'=>e=.returned (.bool true)/\Below W.heap.size W W':=by
 obtain⟨h1,h2⟩:=adJ hL;have hs0:0<W.heap.size:=by
  have:=h1 0 δ;unfold World.cell? at this;split at this
  ·rename_i hb;exact(Array.getElem?_eq_some_iff.1 hb).1
  ·cases this
 have key:=Xd ans f (args:=args) (obs:=[]) (obs':=[]) (res:=B true) (w:=W) (X:=X0) (ρ:=af5) (vals:=vals) (n:=2000) hz (avt _) h1 (arg hs0) hs fun i c u hc hu=>.dat ((hv i c u hc hu).mono fun b hb=>⟨arh hb,rfl⟩);unfold Enters at key;rw[he]at key;refine Calls.mono key fun e W' hw=>?_;cases e with
 |returned v=>
  obtain⟨ρ',r,far,rv⟩:=hw;rw[af6]at rv far;obtain⟨rfl,_⟩:=rv.v_inv;exact⟨rfl,far.os,far.tape,far.output,far.size,fun k hk=>far.old k hk fun⟨id,sub,hl,_⟩=>HB id sub hl⟩
 |_=>exact hw.elim
abbrev V5:=List (Nat×List AV×AV)
def V6:V5->FuncId->List AV->Option AV
 |[],_,_=>none
 |x::l,f,args=>if x.1=f then(if zV x.2.1 args=true then some x.2.2 else V6 l f args)else V6 l f args
def YK(a:Option AV)(hs:List Ob)(b:Option (AV×List Ob)):Option (AV×List Ob):=match a,hs with
 |some r,[]=>some (r,[])
 |_,_=>b
abbrev Lk:=FuncId->List AV->Option AV
def Qd(e:Env)(T:Lk):Nat->ic
 |0=>fun _ _ _=>none
 |n+1=>fun f args hs=>YK (T f args) hs (match e.E f with
  |some g=>g args hs
  |none=>(e.C f).bind fun fd=>Ii (Qd e T n) {e.md with nm:=e.md.keep f} n fd args hs)
def ari(e:Env)(T:Lk):Prop:=∀f args r,T f args=some r->fS e f args []=some (r,[])
theorem Qe{e:Env}:∀ {T:V5} {f:FuncId} {args:List AV} {r:AV},(∀x∈T,fS e x.1 x.2.1 []=some (x.2.2,[]))->V6 T f args=some r->fS e f args []=some (r,[])
 |[],f,args,r,_,h=>by cases h
 |x::l,f,args,r,ht,h=>by
  unfold V6 at h;split at h
  ·rename_i h1;split at h
   ·rename_i h2;cases h;have:=ht x σ;rw[h1,yF h2]at this;exact this
   ·exact Qe (fun y hy=>ht y (by simp[hy])) h
  ·exact Qe (fun y hy=>ht y (by simp[hy])) h
theorem sQ{call:ic}{md:Mode}{lf:Nat}:∀ (c:Cmd) {s:ak} {h:ac} {r:Ex×St},cI call md lf c s h=some r->ai call md c s h=some r
 | .skip,s,h,r,hz=>hz
 | .ops ks l,s,h,r,hz=>hz
 | .dops ks l ps,s,h,r,hz=>hz
 | .seq a b,s,h,r,hz=>by
  simp only[cI,cS]at hz;split at hz
  ·cases hz
  ·rename_i t1 ht1;simp only[ai,cS,sQ a ht1,sQ b hz]
  ·rename_i i t1 ht1;simp only[ai,cS,sQ a ht1];exact hz
  ·rename_i t1 ht1;simp only[ai,cS,sQ a ht1];exact hz
 | .cond c a b,s,h,r,hz=>by
  simp only[cI,rj]at hz;split at hz
  ·rename_i t ht;cases t with
   |true=>simp only[ai,rj,ht,if_true];exact sQ a hz
   |false=>simp only[ai,rj,ht,awo,if_false];exact sQ b hz
  ·cases hz
 | .block id ks a,s,h,r,hz=>by
  simp only[cI,ah]at hz;split at hz
  ·cases hz
  ·rename_i t1 ht1;simp only[ai,ah,sQ a ht1];exact hz
  ·rename_i i t1 ht1;simp only[ai,ah,sQ a ht1];exact hz
  ·rename_i t1 ht1;simp only[ai,ah,sQ a ht1];exact hz
 | .loop ks hs a,s,h,r,hz=>by
  simp only[cI]at hz;simp only[ai,av];rw[pu];exact⟨lf,fun k hk=>JD (fun hh=>sQ a hh) lf hk hz⟩
 | .exit id,s,h,r,hz=>hz
 | .ret,s,h,r,hz=>hz
 | .frz is a,s,h,r,hz=>by
  simp only[cI,bq]at hz;split at hz
  ·cases hz
  ·rename_i t1 ht1;simp only[ai,bq,ht1];exact sQ a hz
theorem YL{e:Env}{T:Lk}(ht:ari e T):∀n,H4 (Qd e T n) (fS e)
 |0=>fun f a hs r hz=>by cases hz
 |n+1=>fun f a hs r hz=>by
  have old:(match e.E f with|some g=>g a hs|none=>(e.C f).bind fun fd=>Ii (Qd e T n) {e.md with nm:=e.md.keep f} n fd a hs)=some r->fS e f a hs=some r:=by
   intro hz;split at hz
   ·rename_i g hE;rw[GT hE];exact hz
   ·rename_i hE;simp only[avq]at hz;obtain⟨fd,hC,hz⟩:=hz;refine IH hE hC ?_;unfold Ii at hz;unfold TK;split at hz
    ·rename_i hcc;rw[if_pos hcc];cases hx:cI (Qd e T n) {e.md with nm:=e.md.keep f} n fd.body (te a) (ao hs)with
     |none=>rw[hx]at hz;cases hz
     |some q=>
      rw[hx]at hz;rw[sQ fd.body (jU (YL ht n) (avt n) fd.body hx)];exact hz
    ·cases hz
  unfold Qd at hz;unfold YK at hz;split at hz
  ·rename_i r' hl;cases hz;exact ht _ _ _ hl
  ·exact old hz
theorem af7{e:Env}:∀x∈ ([]:V5),fS e x.1 x.2.1 []=some (x.2.2,[]):=fun _ h=>by cases h
theorem B3{e:Env}{x:Nat×List AV×AV}{T:V5}(h1:fS e x.1 x.2.1 []=some (x.2.2,[]))(h2:∀x∈T,fS e x.1 x.2.1 []=some (x.2.2,[])):∀y∈x::T,fS e y.1 y.2.1 []=some (y.2.2,[]):=fun y hy=>by
 rcases List.mem_cons.1 hy with rfl|hy
 ·exact h1
 ·exact h2 y hy
theorem arj{e:Env}(T:V5)(n:Nat)(x:Nat×List AV×AV)(ht:∀x∈T,fS e x.1 x.2.1 []=some (x.2.2,[]))(h:Qd e (V6 T) n x.1 x.2.1 []=some (x.2.2,[])):fS e x.1 x.2.1 []=some (x.2.2,[]):=YL (fun _ _ _ h=>Qe ht h) n _ _ _ _ h
def s2:Rs:=⟨[rT,rT],2,53⟩
abbrev tY(x y:Int)(c:Rd):Rt:=⟨[x,y],c⟩
def aP:Rp:=⟨2,[tY 1 0 one]⟩
def bP:Rp:=⟨2,[tY 0 1 one]⟩
def cP:Rp:=⟨2,[tY 1 1 one]⟩
def dP:Rp:=⟨2,[tY 1 0 Cw,tY 1 1 one]⟩
theorem Ot{x y:Int}{c:Rd}(hx:0<=x/\x<=2)(hy:0<=y/\y<=2)(h:vd c=true/\Ok0 c)(h0:c.m.length≠0):VT 2 (tY x y c):=⟨h.2,rfl,by decide,h.1,h0,fun e he=>by grind,by show x+(y+0)<=32;omega⟩
theorem aaQ{v:Int}{a:Rt}(h:VT v a):Cl v [a]:=Cl.mk' h (fun _ h=>nomatch h) (Cl.nil _)
theorem Ou:Fit s2 aP:=⟨rfl,by decide,aaQ (Ot δ δ eG δ),by decide+revert,fun t ht=>by rw[List.mem_singleton.1 ht];decide⟩
theorem aaR:Fit s2 bP:=⟨rfl,by decide,aaQ (Ot δ δ eG δ),by decide+revert,fun t ht=>by rw[List.mem_singleton.1 ht];decide⟩
theorem aaS:Fit s2 cP:=⟨rfl,by decide,aaQ (Ot δ δ eG δ),by decide+revert,fun t ht=>by rw[List.mem_singleton.1 ht];decide⟩
theorem ark:Cl 2 dP.terms:=Cl.mk' (Ot δ δ P4 δ) (by decide+revert) (aaQ (Ot δ δ eG δ))
theorem ant:Fit s2 dP:=⟨rfl,by decide,ark,by decide+revert,by decide+revert⟩
theorem Ov:kV s2=true:=by
 have h:=afT aiR rfl;unfold kV;simp[s2,h];rfl
theorem V7:OkS s2:=by
 refine⟨fun x hx=>?_,by decide⟩;have e:x=rT:=by simpa [s2]using hx
 rw[e];exact P5.1
theorem vm2{q:Rp}(h:Fit s2 q):Gs s2 ⟨q,cr⟩=true:=ano Ov h.c h.v h.n h.d ((xS (m:=0)).i.elim fun _ h=>h.v) h.r
theorem ev2{a b:Rp}(ha:Fit s2 a)(hb:Fit s2 b):E7 s2 [⟨a,cr⟩,⟨b,cr⟩]=true:=by
 grind[E7,Ov,vm2]
theorem alq:FE aP bP=(cP,0):=by
 unfold FE;simp only[aP,bP,tY,nu,pk,Kg,ak8,if_true,avw,av9,avE];rfl
theorem alr:Eg cP aP=(dP,0):=by rfl
theorem mz2{q:Rp}(h:Fit s2 q)(hl:∀t∈q.terms,t.c=one):iH (nR q s2.dom s2.p) cr s2.p=cr:=
 adA (ak7 (m:=0) V7 Ov h.ok (h.vp Ov) h.v (fun t ht=>by grind[VX]) (by have:=h.n;omega)).k rfl
theorem anu:aaH s2 ⟨aP,cr⟩ ⟨bP,cr⟩=⟨cP,cr⟩:=by
 unfold aaH;rw[if_pos (ev2 Ou aaR),alq,mz2 Ou (fun t ht=>by rw[List.mem_singleton.1 ht]),mz2 aaR (fun t ht=>by rw[List.mem_singleton.1 ht]),adA (xS (m:=0)).k (show bQ s2.p=true from rfl)];simp only[Bj,Gv (show bQ s2.p=true from rfl)];exact VZ Ov aaS
theorem aja:FF cr=cr:=by
 unfold FF;rw[(xS (m:=0)).k,if_pos rfl];have:hF aI=aI:=by unfold hF;exact if_pos (Or.inr rfl)
 show(⟨hF aI,hF aI,false⟩:Ri)=_;rw[this];rfl
theorem anv:aaG s2 ⟨cP,cr⟩ ⟨aP,cr⟩=⟨dP,cr⟩:=by
 unfold aaG;rw[if_pos (ev2 aaS Ou),alr];show ub s2 dP 0 (gJ cr (FF cr) s2.p)=_;rw[aja,Gv (show bQ s2.p=true from rfl)];exact VZ Ov ant
theorem anw:Qb s2 0=⟨aP,cr⟩:=by
 unfold Qb;rw[Ov];rfl
theorem anx:Qb s2 1=⟨bP,cr⟩:=by
 unfold Qb;rw[Ov];rfl
theorem aaT{q:Rp}(h:Fit s2 q):OkM ⟨q,cr⟩:=⟨fun t ht=>(h.c.t t ht).c,⟨bh.2,bh.2⟩,by have:=h.n;show q.terms.length<_;omega⟩
theorem arl:R F.l27_awake [] []=some (B true,[]):=by
 have h0:=iM V7.d V7.n;have h1:=YF (i:=0) V7;have h2:=YF (i:=1) V7;have h3:=ait V7 (aaT Ou) (aaT aaR);have h4:=aiv V7 (aaT aaS) (aaT Ou);rw[Ov]at h0;rw[anw]at h1;rw[anx]at h2;rw[anu]at h3;rw[anv]at h4;exact arj (e:=cG) [(F.model_ValidSpace,[lz s2],B true),(F.model_Var,[lz s2,I 0],iY ⟨aP,cr⟩),(F.model_Var,[lz s2,I 1],iY ⟨bP,cr⟩),(F.model_Mul,[lz s2,iY ⟨aP,cr⟩,iY ⟨bP,cr⟩],iY ⟨cP,cr⟩),(F.model_Sub,[lz s2,iY ⟨cP,cr⟩,iY ⟨aP,cr⟩],iY ⟨dP,cr⟩)] 100 (F.l27_awake,[],B true) (B3 h0 (B3 h1 (B3 h2 (B3 h3 (B3 h4 af7))))) κ
end Go.Ab
