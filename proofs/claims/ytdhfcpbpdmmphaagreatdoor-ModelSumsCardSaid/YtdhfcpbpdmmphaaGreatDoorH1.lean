/-
  A law of models holds at every input that the statement speaks of, under the conditions that its card names. Part H1.
-/
import Derived.LaidMore
import Derived.Test.YtdhfcpbpdmmphaaGreatDoorG1
open Nat renaming add_zero → axo, div_add_mod → axS, le_refl → awQ, le_trans → awX, lt_of_le_of_lt → axF, lt_of_lt_of_le → axX, mul_assoc → axn, mul_le_mul → aFW, mul_le_mul_right → awZ, pow_add → axa, pow_le_pow_right → axC, pow_succ → axO, two_pow_pos → axb, zero_add → awP, zero_le → axz
open Int renaming eq_ofNat_of_zero_le → ax5, natCast_mul → aFX, toNat_natCast → awY
open Bool renaming and_eq_true → awS, and_self → axm, false_eq_true → axV, false_ne_true → awW, false_or → axY, not_eq_true' → ax3, true_and → awT
open List renaming append_nil → axe, cons_append → axM, length_cons → axE, length_nil → axI, map_cons → axp, map_nil → axv, nil_append → axc, take_of_length_le → axg
open Option renaming bind_some → awV, map_some → axH
open Rat renaming intCast_mul → aFn, le_trans → aDM
set_option linter.all false
namespace Go.Ab
open Go Go.Proofs Go.Shelf Go.ChangeShapes Go.WideShapes Go.RowKit Go.IntWalk
set_option maxRecDepth 100000
set_option maxHeartbeats 8000000
theorem CM{α:Type}{l:List (Nat×α)}{f:Nat}{x:α}(h:l.lookup f=some x):(f,x)∈l:=by
 induction l with
 |nil=>cases h
 |cons a l ih=>
  obtain⟨i,y⟩:=a;rw[List.lookup_cons]at h;split at h
  ·rename_i he;simp at he;cases h;subst he;simp
  ·exact List.mem_cons_of_mem _ (ih h)
def ah3:Go.Shelf.Ren:=⟨fun|15=>37|n=>n,fun|22=>54|n=>n,fun n=>n⟩
theorem amr:Lays2.n15 Tryz.prog ah3 where
 mixed:=by kernel_rfl
 f15:=by kernel_rfl
 t3:=by kernel_rfl
 a3:=Tryz.isAgg3
 z3:=Tryz.sizeOf3
 v3:=Tryz.zeroValue3
 t4:=by kernel_rfl
 a4:=Tryz.isAgg4
 z4:=Tryz.sizeOf4
 v4:=Tryz.zeroValue4
 t22:=by kernel_rfl
 a22:=Tryz.isAgg54
 z22:=Tryz.sizeOf54
 v22:=Tryz.zeroValue54
 i3:=by kernel_rfl
theorem ah4:pF Tryz.prog J1 false F.slices_overlaps_api_Term_ (X9 4):=
 amp Tryz.func202 κ κ κ (tS:=25) (tR:=4) (e:=56) κ κ Tryz.sizeOf56
theorem ams:EnvOK Tryz.prog J1 FK where
 mixed:=by kernel_rfl
 ext f g h:=by
  have:=CM h;simp only[Tk,List.mem_cons,List.not_mem_nil,or_false,Prod.mk.injEq]at this;rcases this with⟨rfl,rfl⟩| ⟨rfl,rfl⟩
  ·have hk:FK.md.keep F.bits_TrailingZeros32=false:=by kernel_rfl
   rw[hk];exact @ah2
  ·have hk:FK.md.keep F.slices_overlaps_api_Term_=false:=by kernel_rfl
   rw[hk];exact @ah4
 text f fd _ h:=Wx _ (CM h)
theorem amt(f:FuncId)(hk:FK.md.keep f=false):pF Tryz.prog J1 false f (R0 f):=by
 have h:pF Tryz.prog J1 (FK.md.keep f) f (R0 f):=X5 ams f;rw[hk]at h;exact @h
theorem aoC:EnvOK Tryz.prog J1 cJ where
 mixed:=by kernel_rfl
 ext f g h:=by
  have:=CM h;simp only[ak0,Tk,List.mem_cons,List.not_mem_nil,or_false,Prod.mk.injEq]at this;rcases this with⟨rfl,rfl⟩| ⟨rfl,rfl⟩| ⟨rfl,rfl⟩| ⟨rfl,rfl⟩
  ·have hk:cJ.md.keep F.slices_Clone_int_int_=false:=by kernel_rfl
   rw[hk];exact @amq Tryz.prog J1 ah3 amr rfl (fun a w=>(enters_of Tryz.func37 κ rfl:Proofs.Enters Tryz.prog 37) a w) (amt _ κ)
  ·have hk:cJ.md.keep F.slices_Insert_api_Term_api_Term_=false:=by kernel_rfl
   rw[hk];exact @aj7 Tryz.prog J1 (amt _ κ)
  ·have hk:cJ.md.keep F.bits_TrailingZeros32=false:=by kernel_rfl
   rw[hk];exact @ah2
  ·have hk:cJ.md.keep F.slices_overlaps_api_Term_=false:=by kernel_rfl
   rw[hk];exact @ah4
 text f fd _ h:=Wx _ (CM h)
theorem asr:Tryz.prog.globalNamed "math/bits.deBruijn32tab" =some 0:=by kernel_rfl
theorem ass:(Tryz.prog.globals[0]?).map (·.type)=some 218:=by kernel_rfl
abbrev HN:List (String×DataW Unit):=[("math/bits.deBruijn32tab",YtdhfcpbpdmmphaaGreatDoor.Rows.laid_math_bits_deBruijn32tab)]
theorem aeV{W:World}(h:laidMetH Tryz.prog HN W):TabAt 0 Lib.deBruijn32tab W/\Eh W:=by
 rw[MakeChecks.laidMetH_plain _ _ _ κ]at h;obtain⟨ps,⟨g0,t0,cs0,f0,p0,q0,hg0,ht0,hv0,hd0,_,_⟩,_,_⟩:=h;obtain rfl:=Option.some.inj (asr.symm.trans hg0);obtain rfl:=Option.some.inj (ass.symm.trans ht0);obtain⟨xs,m1,rfl,hx1,hlen,hn3,hel⟩:=DataW.trod_array Tryz.underlying218 hd0;have c5:Tryz.prog.cellsOf 5=1:=by kernel_rfl
 have c155:Tryz.prog.cellsOf 218=32:=by kernel_rfl
 rw[c155]at hlen;simp only[Prod.mk.injEq]at hx1;have hD:(YtdhfcpbpdmmphaaGreatDoor.Rows.laid_math_bits_deBruijn32tab:DataW Unit)=.agg (Lib.deBruijn32tab.map fun(k:Nat)=>.lit (.int .u8 (k:Int))):=rfl;have hmap:xs.map (·.1)=Lib.deBruijn32tab.map fun(k:Nat)=>(.lit (.int .u8 (k:Int)):DataW Unit):=by
  have:=hD.symm.trans hx1.1;simpa using this.symm
 have key:∀i,i<32->cs0[i]?=some (.int .u8 (Lib.deBruijn32tab.getD i 0:Nat)):=fun i hi=>by
  have h1:=hel i hi;rw[c5,Nat.mul_one]at h1;obtain⟨y,hy⟩:∃y,xs[i]?=some y:=⟨xs[i]'(by omega),by simp⟩;rw[hy]at h1;obtain⟨n,e1,e2,_⟩:=DataW.trod_int Tryz.underlying5 h1;have h2:(xs.map (·.1))[i]?=some y.1:=by simp[hy]
  rw[hmap,List.getElem?_map]at h2;have h3:Lib.deBruijn32tab[i]?=some (Lib.deBruijn32tab.getD i 0):=by
   rw[List.getD_eq_getElem?_getD,List.getElem?_eq_getElem (show i<Lib.deBruijn32tab.length from hi)];rfl
  rw[h3,e2]at h2;simp only[axH,Option.some.injEq,DataW.lit.injEq,Lit.int.injEq,true_and]at h2;have h4:cs0.toList[i]?=some (.int .u8 n):=by
   have:=congrArg (·[0]?) e1;simpa [List.getElem?_take,List.getElem?_drop]using this
  rw[h2];simpa using h4
 refine⟨fun j hj=>?_,fun o v hv=>?_⟩
 ·rw[World.var?_cell hg0 hv0 j];exact key j hj
 ·rw[World.var?_cell hg0 hv0 o]at hv;have ho:o<32:=by
   have:=(Array.getElem?_eq_some_iff.1 hv).1;have h2:cs0.size=32:=by simpa using hlen
   omega
  rw[key o ho]at hv;exact⟨_,(Option.some.inj hv).symm⟩
theorem HO(id:Nat)(sub:Option Nat):¬live (ap []) id sub:=by
 have hd:ap [] id=.dead:=by
  unfold ap;split<;>simp
 cases sub with
 |none=>simp[live,hd]
 |some p=>simp[live,hd]
def X0(_:Nat):Prop:=False
def ahp:dX:=fun _ _=>(0,0)
theorem ast{W:World}(hs:0<W.heap.size):Rel W X0 ahp (ap []) where
 inj id sub id' sub' h:=(HO id sub h).elim
 nx id sub h:=(HO id sub h).elim
 ob id:=by
  have hd:ap [] id=.dead:=by
   unfold ap;split<;>simp
  rw[hd];trivial
 xl b hb:=by rcases hb with hb|rfl;exact hb.elim;exact hs
theorem asu{W:World}{b:Nat}(h:Ik W b):aJ W X0 (ap []) ahp b:=⟨h,fun hx=>hx,fun⟨id,sub,hl,_⟩=>HO id sub hl⟩
theorem ahq(n:Nat)(h:ac)(b:Bool):mat n h (B b)=(B b,h):=rfl
theorem aeW{f:Nat}{fn:Func}(_hf:Tryz.prog.funcs[f]?=some fn)(_hn: (fn.name== "runtime.NumGoroutine")=false)(_hb:fn.body.isSome=true){args:List AV}{vals:Array Value}{W:World}(hL:laidMetH Tryz.prog HN W)(hz:R f args []=some (B true,[]))(hs:vals.size=args.length)
  (hv:∀ (i:Nat) (c:AV) (u:Value),args[i]?=some c->vals[i]?=some u->RD W (Ik W) c u) (he:(callFunc f vals).run Tryz.prog W=.ok (.enter f vals) W):
  Calls Tryz.prog f vals W fun e W'=>e=.returned (.bool true)/\Below W.heap.size W W':=by
 obtain⟨h1,h2⟩:=aeV hL;have hs0:0<W.heap.size:=by
  have:=h1 0 (by decide);unfold World.cell? at this;split at this
  ·rename_i hb;exact(Array.getElem?_eq_some_iff.1 hb).1
  ·cases this
 have key:=X5 aoC f (args:=args) (obs:=[]) (obs':=[]) (res:=B true) (w:=W) (X:=X0) (ρ:=ahp) (vals:=vals) (n:=2000) hz (awQ _) h1 (ast hs0) hs fun i c u hc hu=>.dat ((hv i c u hc hu).mono fun b hb=>⟨asu hb,rfl⟩);unfold Enters at key;rw[he]at key;refine Calls.mono key fun e W' hw=>?_;cases e with
 |returned v=>
  obtain⟨ρ',r,far,rv⟩:=hw;rw[ahq]at rv far;obtain⟨rfl,_⟩:=rv.v_inv;exact⟨rfl,far.os,far.tape,far.output,far.size,fun k hk=>far.old k hk fun⟨id,sub,hl,_⟩=>HO id sub hl⟩
 |_=>exact hw.elim
def rq(w:Bool)(M d:Nat):Nat:=if w=true/\M%2^d≠0 then M/2^d+1 else M/2^d
def dR(M n j:Nat):Nat:=if af M<=n+j then j else af M-n
theorem aj8{w:Bool}{M M' d:Nat}(h:M<=M'):rq w M d<=rq w M' d:=by
 have h1:=axS M (2^d);have h3:=axS M' (2^d);have h5:M/2^d<=M'/2^d:=Nat.div_le_div_right h;grind[rq,Nat.eq_or_lt_of_le]
theorem aoE{w:Bool}{M d e:Nat}(h:M<2^ (d+e)):rq w M d<=2^e:=by
 have h1:M/2^d<2^e:=by
  rw[Nat.div_lt_iff_lt_mul (axb d),←axa,Nat.add_comm];omega
 grind[rq]
theorem ah5(M n j:Nat):j<=dR M n j/\af M<=n+dR M n j:=by
 grind[dR]
theorem ahr{M j n:Nat}{w:Bool}(hn:8<=n):cB M (-16384- (j:Int)) false (n:Int) w=th n w (rq w M (dR M n j)) ((dR M n j:Int)-j-16384):=by
 have hu:fk M (-16384- (j:Int)) (n:Int)=(dR M n j:Int)-j-16384:=by
  grind[fk,dR]
 unfold cB;have hq:qH M (-16384- (j:Int)) false ((dR M n j:Int)-j-16384)=(M/2^dR M n j,decide (M%2^dR M n j≠0)):=by
  unfold qH;generalize dR M n j=d;by_cases h:d=0
  ·subst h;grind
  grind
 grind[mh,rq]
theorem XM{q d T:Nat}(hq:q≠0):T<af q+d↔2^T<=q*2^d:=by
 by_cases h:d<=T
 ·rw[show T<af q+d↔T-d<af q by omega,jy]
  conv=>rhs;rw[show T=(T-d)+d by omega,axa]
  simp_all[Nat.mul_le_mul_right_iff,axb]
 ·refine⟨fun _=>?_,fun _=>by omega⟩;refine awX (axC (by decide) (by omega:T<=d)) ?_;exact Nat.le_mul_of_pos_left _ (by omega)
theorem amu{q n k:Nat}(h:q<=2^n)(hk:n<k):af q<=k:=bK.2 (axF h (Nat.pow_lt_pow_right (by decide) hk))
theorem aoF{w:Bool}{M n j:Nat}(hn:n<=512):af (rq w M (dR M n j))<=4096/\(w=false->rq w M (dR M n j)<2^n):=by
 have k:=ah5 M n j;have k5:M<2^af M:=bK.1 (awQ _);have k6:M<2^ (dR M n j+n):=axX k5 (axC (by decide) (by omega));have h1:=aoE (w:=w) k6;refine⟨amu h1 (by omega),?_⟩
 simp_all[rq,if_neg,Nat.div_lt_iff_lt_mul,axb,axa,Nat.add_comm]
theorem aj9{M j n:Nat}{w:Bool}(h0:M≠0)(hn:8<=n/\n<=512):
  (rq w M (dR M n j)*2^dR M n j<2^ (32768+j)->(cB M (-16384- (j:Int)) false (n:Int) w).2=0/\zI (cB M (-16384- (j:Int)) false (n:Int) w).1*2^j=((rq w M (dR M n j)*2^dR M n j:Nat):Int))/\
  (2^ (32768+j)<=rq w M (dR M n j)*2^dR M n j->(w=true->(cB M (-16384- (j:Int)) false (n:Int) w).2≠0)/\
   (w=false->(cB M (-16384- (j:Int)) false (n:Int) w).2=0/\zI (cB M (-16384- (j:Int)) false (n:Int) w).1=(((2^n-1)*2^ (32768-n):Nat):Int))):=by
 have k:=ah5 M n j;obtain⟨b1,_⟩:=aoF (w:=w) (M:=M) (j:=j) hn.2;rw[ahr hn.1];have hq0:rq w M (dR M n j)=0->¬32768+j<af (rq w M (dR M n j))+dR M n j:=fun h=>by
  rw[h,show af 0=0 from rfl];have hM:M<2^dR M n j:=by
   unfold rq at h;split at h
   all_goals simp_all
  have h3:af M<=dR M n j:=bK.2 hM;unfold dR at h3⊢;grind
 generalize hd:dR M n j=d at*
 generalize rq w M d=q at*
 have ov:16384< (af q:Int)+((d:Int)-j-16384)↔2^ (32768+j)<=q*2^d:=by
  by_cases hq:q=0
  ·subst hq;have h5:=axb (32768+j);constructor<;>intro h6<;>omega
  ·rw[←XM hq];omega
 unfold th;constructor
 ·intro h;have h1:¬16384< (af q:Int)+((d:Int)-j-16384):=fun hc=>by
   omega
  rw[if_neg h1];have hc:=DU (neg:=false) (M:=q) (e:=(d:Int)-j-16384) b1 (by omega) (by omega);have h2:(cH (bm false q ((d:Int)-j-16384))).2=0:=by rw[hc]
  refine⟨h2,?_⟩;rw[JE (by omega) h2,show((d:Int)-j-16384+16384).toNat=d-j by omega,show(2:Int)^j=((2^j:Nat):Int)by simp,←aFX,axn,←axa,show d-j+j=d by omega]
 ·intro h;have h1:=ov.2 h;rw[if_pos h1];constructor
  ·rintro rfl
   simp
  ·rintro rfl
   rw[if_neg (by simp)];have hp1:2^n-1<2^n:=by have:=axb n;omega
   have hb:af (2^n-1)<=n:=bK.2 hp1;have hc:=DU (neg:=false) (M:=2^n-1) (e:=16384- (n:Int)) (by omega) (by omega) (by omega);have h2:(cH (bm false (2^ ((n:Int)).toNat-1) (16384- (n:Int)))).2=0:=by rw[awY,hc]
   refine⟨h2,?_⟩;rw[JE (by omega) h2,awY,show(16384- (n:Int)+16384).toNat=32768-n by omega]
theorem amv{M j n:Nat}{w:Bool}(h0:M≠0)(hn:8<=n/\n<=512)(h:(cB M (-16384- (j:Int)) false (n:Int) w).2=0):0<=zI (cB M (-16384- (j:Int)) false (n:Int) w).1:=by
 obtain⟨k,h1,_⟩:=HB (s:=0) (t:=j) h0 (p:=n) (by omega) (by omega) (fun h=>absurd h awW) h;omega
theorem aka{z f p:Int}{up:Bool}(h:z<0):jj z f p up=gL true (cB z.natAbs f false p (!up)):=by
 unfold jj;rw[if_neg (by omega),decide_eq_true h]
 simp_all
theorem akb{z f p:Int}{up:Bool}(h:0<z):jj z f p up=cB z.natAbs f false p up:=by
 unfold jj;rw[if_neg (by omega),decide_eq_false (by omega)]
 simp_all[gL,if_neg]
theorem amw{M:Nat}{f p:Int}{w:Bool}:(gL true (cB M f false p w)).2=(cB M f false p w).2/\((cB M f false p w).2=0->zI (gL true (cB M f false p w)).1=-zI (cB M f false p w).1):=by
 unfold gL;by_cases h:(cB M f false p w).2=0
 all_goals simp_all[if_pos,vS,Qh,if_neg,absurd]
theorem ah6{f p:Int}{up:Bool}:jj 0 f p up=(aI,0):=by simp_all[jj,if_pos]
theorem Wy{a b:Rd}{p:Int}(va:vd a=true)(vb:vd b=true)(hp:bJ p=true):aY p [a,b]=0/\∃n:Nat,p=n/\8<=n/\n<=512:=by
 have hp2:8<=p/\p<=512:=by
  simp_all[bJ,awS,decide_eq_true_eq]
 refine⟨by grind[aY],p.toNat,by omega,by omega,by omega⟩
def Sb(x y:Ri):Prop:=(∃q,In q x)/\(y=dN\/x.all=false/\y.all=false/\(∃q,In q y)/\zI y.lo<=zI x.lo/\zI x.hi<=zI y.hi)
theorem Sb.ins{x y:Ri}(h:Sb x y):lF x y=true:=by
 obtain⟨⟨q,hx⟩,rfl| ⟨h1,h2,⟨r,hy⟩,h3,h4⟩⟩:=h
 ·unfold lF;have:=hx.v;split
  ·rfl
  ·rw[this];rfl
 ·unfold lF;rw[if_pos ⟨hx.v,hy.v,h1⟩];grind
theorem aoG{x:Ri}(h:∃q,In q x)(ha:x.all=false):kI x=true:=by
 obtain⟨q,h⟩:=h;unfold kI;rw[ha,h.v];rfl
theorem aeX{a b:List Nat}(h:lm a=lm b):a=b:=by
 unfold lm aB at h;grind[List.map_inj_right]
theorem akc{x y:Ri}(h:am x=am y):x=y:=by
 unfold am ao at h;simp only[AV.agg.injEq,List.cons.injEq,AV.v.injEq,Value.bool.injEq,Value.int.injEq,true_and,and_true]at h;obtain⟨h1,g2,h3,h4,g5,h6,h7⟩:=h;have h2:=aeX g2;have h5:=aeX g5;obtain⟨⟨a1,a2,a3⟩,⟨a4,a5,a6⟩,a7⟩:=x
 simp_all
theorem Wz{a:Rp}{dom:List Ri}{p:Int}(oa:OkP a)(od:∀x∈dom,OkI x)(h2:dom.length<=100000)(hd:ni a dom=true):∃b,JY a dom p=HH a dom p b/\∀xs ts:List Rat,tP dom xs ts->In (fv xs a.terms) b:=by
 obtain⟨b,hB,hbr,_⟩:=Wp oa od h2 (p:=p);have i2:=hbr _ _ (KR dom);have h3:=M6 oa od h2 (p:=p) (b:=b) i2.ok (fun _=>hB);grind[KT,akc]
theorem amx{a:Rp}{dom:List Ri}{p:Int}(oa:OkP a)(od:∀x∈dom,OkI x)(h2:dom.length<=100000)(hd:ni a dom=true){xs ts:List Rat}(hpt:tP dom xs ts):In (fv xs a.terms) (dH a dom p):=by
 unfold dH;split
 ·rename_i h0;have e:a.terms=[]:=List.length_eq_zero_iff.1 h0;rw[e];have:=rQ aU.1 aU.2;rwa[show qv aI=0 by unfold qv;rw[cF rfl];simp]at this
 ·obtain⟨b,hb,hbr⟩:=Wz (p:=p) oa od h2 hd;obtain⟨hv,hl,hk⟩:=OU od hd;rw[hb];unfold HH;split
  ·obtain⟨m1,m2⟩:=HE (JP (p:=p) oa (tP.inL hk hpt)) (hbr _ _ hpt);grind
  ·exact Or.inl rfl
theorem akd{a b:Rd}(va:vd a=true)(vb:vd b=true):zI a<=zI (kB a b):=by
 unfold kB;rw[P8 va vb];rcases nG (zI a) (zI b)with⟨g,e⟩| ⟨g,e⟩| ⟨g,e⟩<;>rw[e]<;>simp<;>omega
theorem ake{a b:Rd}(va:vd a=true)(vb:vd b=true):zI (aEw a b)<=zI a:=by
 grind[aEw,P8,nG,zI]
theorem akf{x y:Ri}(hx:x.all=false){q:Rat}(ix:In q x)(iy:In q y):Sb (tN x y).1 x:=by
 obtain⟨m1,m2⟩:=HE ix iy;refine⟨⟨q,m2⟩,Or.inr ?_⟩;have key:(tN x y).1.all=false/\zI x.lo<=zI (tN x y).1.lo/\zI (tN x y).1.hi<=zI x.hi:=by
  have vx:=ix.vi;have vy:=iy.vi;unfold tN at m1⊢;rw[ix.v,iy.v,axm,if_pos rfl,hx,if_neg awW]at m1⊢;split
  ·grind
  ·split
   ·exact⟨rfl,akd vx.1.1 vy.1.1,ake vx.2.1 vy.2.1⟩
   grind
 grind
theorem amy{a:Rp}{dom:List Ri}{p:Int}(oa:OkP a)(od:∀x∈dom,OkI x)(h2:dom.length<=100000)(hd:ni a dom=true)(hp:bJ p=true)(h0:a.terms.length≠0)(hn:(pg a dom p).all=false):Sb (dH a dom p) (pg a dom p):=by
 unfold dH;obtain⟨b,hb,hbr⟩:=Wz (p:=p) oa od h2 hd;obtain⟨hv,hl,hk⟩:=OU od hd;have i1:=JP (p:=p) oa (tP.inL hk (KR dom));have i2:=hbr _ _ (KR dom);rw[hb];unfold HH;rw[hd,hp,axm,if_pos rfl,if_pos (HE i1 i2).1];grind[akf]
theorem OY{a b:Rd}(va:vd a=true)(vb:vd b=true):(eP a b<0↔zI a<zI b)/\(0<eP a b↔zI b<zI a):=by
 rw[P8 va vb];unfold cp;split
 ·omega
 ·split<;>omega
section
variable {dn up:Rd→Rd→Rd × Int} {pr:Nat→Rd × Rd}
abbrev Fa(dn:Rd->Rd->Rd×Int)(pr:Nat->Rd×Rd)(j:Nat):Rd×Int:=dn (pr j).1 (pr j).2
theorem OZ(okd:∀a b,vd (dn a b).1=true)(oku:∀a b,vd (up a b).1=true):∀ (k i:Nat) (o:Rd×Rd),vd o.1=true->vd o.2=true->(∀j,i<=j->j<i+k->(Fa dn pr j).2=0/\(Fa up pr j).2=0)->
  ∃q,aDo dn up pr k i o=some q/\zI q.1<=zI o.1/\zI o.2<=zI q.2/\(∀j,i<=j->j<i+k->zI q.1<=zI (Fa dn pr j).1/\zI (Fa up pr j).1<=zI q.2)/\
   (q.1=o.1\/∃j,i<=j/\j<i+k/\q.1=(Fa dn pr j).1)/\(q.2=o.2\/∃j,i<=j/\j<i+k/\q.2=(Fa up pr j).1)
 |0,i,o,_,_,_=>⟨o,rfl,Int.le_refl _,Int.le_refl _,fun j h1 h2=>by omega,Or.inl rfl,Or.inl rfl⟩
 |k+1,i,o,v1,v2,h=>by
  have h0:=h i (awQ _) (by omega);unfold aDo;rw[if_pos h0];have c1:=(OY (okd (pr i).1 (pr i).2) v1).1;have c2:=(OY (oku (pr i).1 (pr i).2) v2).2;have w1:=okd (pr i).1 (pr i).2;have w2:=oku (pr i).1 (pr i).2;obtain⟨q,q0,q1,q2,q3,q4,q5⟩:=OZ okd oku k (i+1) (if eP (dn (pr i).1 (pr i).2).1 o.1<0 then(dn (pr i).1 (pr i).2).1 else o.1,if 0<eP (up (pr i).1 (pr i).2).1 o.2 then(up (pr i).1 (pr i).2).1 else o.2)
   (by simp only;split<;>assumption) (by simp only;split<;>assumption) fun j h1 h2=>h j (by omega) (by omega)
  have a1:zI q.1<=zI o.1/\zI q.1<=zI (Fa dn pr i).1:=by
   simp only at q1;split at q1
   ·rename_i hc;have:=c1.1 hc;exact⟨by omega,q1⟩
   ·rename_i hc;have:=mt c1.2 hc;exact⟨q1,by show zI q.1<=zI (dn (pr i).1 (pr i).2).1;omega⟩
  have a2:zI o.2<=zI q.2/\zI (Fa up pr i).1<=zI q.2:=by
   simp only at q2;split at q2
   ·rename_i hc;have:=c2.1 hc;exact⟨by omega,q2⟩
   ·rename_i hc;have:=mt c2.2 hc;exact⟨q2,by show zI (up (pr i).1 (pr i).2).1<=zI q.2;omega⟩
  refine⟨q,q0,a1.1,a2.1,fun j h1 h2=>?_,?_,?_⟩
  ·rcases Nat.eq_or_lt_of_le h1 with rfl|h3
   ·exact⟨a1.2,a2.2⟩
   ·exact q3 j h3 (by omega)
  ·rcases q4 with q4| ⟨j,h1,h2,h3⟩
   ·simp only at q4;split at q4
    ·exact Or.inr ⟨i,awQ _,by omega,q4⟩
    ·exact Or.inl q4
   ·exact Or.inr ⟨j,by omega,by omega,h3⟩
  ·rcases q5 with q5| ⟨j,h1,h2,h3⟩
   ·simp only at q5;split at q5
    ·exact Or.inr ⟨i,awQ _,by omega,q5⟩
    ·exact Or.inl q5
   ·exact Or.inr ⟨j,by omega,by omega,h3⟩
theorem abY(okd:∀a b,vd (dn a b).1=true)(oku:∀a b,vd (up a b).1=true)(h:∀j,j<4->(Fa dn pr j).2=0/\(Fa up pr j).2=0):
  ∃q,pS dn up pr=some q/\(∀j,j<4->zI q.1<=zI (Fa dn pr j).1/\zI (Fa up pr j).1<=zI q.2)/\(∃j,j<4/\q.1=(Fa dn pr j).1)/\∃j,j<4/\q.2=(Fa up pr j).1:=by
 obtain⟨q,q0,q1,q2,q3,q4,q5⟩:=OZ okd oku 3 1 ((dn (pr 0).1 (pr 0).2).1,(up (pr 0).1 (pr 0).2).1) (okd _ _) (oku _ _) fun j h1 h2=>h j (by omega);refine⟨q,?_,fun j hj=>?_,?_,?_⟩
 ·unfold pS;rw[if_pos (h 0 (by decide))];exact q0
 ·rcases Nat.eq_zero_or_pos j with rfl|h1
  ·exact⟨q1,q2⟩
  ·exact q3 j h1 (by omega)
 ·rcases q4 with q4| ⟨j,h1,h2,h3⟩
  ·exact⟨0,by decide,q4⟩
  ·exact⟨j,by omega,h3⟩
 ·rcases q5 with q5| ⟨j,h1,h2,h3⟩
  ·exact⟨0,by decide,q5⟩
  ·exact⟨j,by omega,h3⟩
end
theorem ah7{x:Ri}(h:∃q,In q x)(ha:x.all=false):zI x.lo<=zI x.hi:=by
 obtain⟨q,rfl| ⟨_,_,h1,h2⟩⟩:=h
 ·cases ha
 ·exact zM.1 (aDM h1 h2)
theorem aoH{x y:Ri}(hx:VI x)(hy:VI y)(i:Nat):vd (gb x y i).1=true/\vd (gb x y i).2=true:=by
 unfold gb;split
 ·exact⟨hx.1.1,hy.1.1⟩
 ·exact⟨hx.1.1,hy.2.1⟩
 ·exact⟨hx.2.1,hy.1.1⟩
 ·exact⟨hx.2.1,hy.2.1⟩
theorem asv{d:Rd}{p:Int}{n:Nat}{up:Bool}:vd (pw d n p up).1=true:=by
 unfold pw;exact(Tq _ _ JK).1
theorem O0{d:Rd}(v:vd d=true):vd (rM d)=true/\zI (rM d)=((zI d).natAbs:Int):=by
 unfold rM;by_cases h:d.m.length=0
 ·rw[if_pos (Or.inr h),cF h];exact⟨rfl,cF rfl⟩
 ·refine⟨?_,?_⟩
  ·simp_all[vd,if_neg]
  grind[zI,mg]
theorem ah8{d:Rd}(v:vd d=true):(0<cO d↔0<zI d)/\(cO d<0↔zI d<0):=by
 have h0:d.m.length=0->zI d=0:=cF;have hp:d.m.length≠0->0<mg d:=fun h=>by
  exact Nat.mul_pos (by grind[Gr]) (axb _)
 unfold cO;by_cases h:d.m.length=0
 ·omega
 ·grind[zI]
theorem aoI{x:Ri}(h:VI x)(hle:zI x.lo<=zI x.hi):vd (AJ x)=true/\zI (AJ x)=(if 0<zI x.lo then zI x.lo else if zI x.hi<0 then-zI x.hi else 0):=by
 obtain⟨a1,a2⟩:=O0 h.1.1;obtain⟨b1,b2⟩:=O0 h.2.1;obtain⟨s1,s2⟩:=ah8 h.1.1;obtain⟨t1,t2⟩:=ah8 h.2.1;have c:=OY a1 b1;unfold AJ Jt aEw;by_cases k1:0<zI x.lo
 ·grind
 ·rw[if_neg (mt s1.1 k1),if_neg k1];by_cases k2:zI x.hi<0
  ·grind
  ·rw[if_neg (mt t2.1 k2),if_pos rfl,if_neg k2];exact⟨rfl,cF rfl⟩
theorem aoJ{x:Ri}(h:VI x):vd (Hv x)=true/\zI (Hv x)=(if(zI x.lo).natAbs<=(zI x.hi).natAbs then((zI x.hi).natAbs:Int)else(zI x.lo).natAbs):=by
 obtain⟨a1,a2⟩:=O0 h.1.1;obtain⟨b1,b2⟩:=O0 h.2.1;have c:=OY a1 b1;grind[Hv,kB]
theorem asw{w:Bool}{T d:Nat}(h:d<=T):rq w (2^T) d=2^ (T-d):=by
 have e:2^T=2^ (T-d)*2^d:=by rw[←axa];grind
 simp_all[rq,if_neg,Nat.mul_mod_left,Nat.mul_div_cancel,axb]
theorem aeY{M j n m:Nat}{w:Bool}(h0:M≠0)(hn:8<=n/\n<=512)(hm:m<16384)(h:M<=2^ (16384+m+j)):
  (cB M (-16384- (j:Int)) false (n:Int) w).2=0/\0<=zI (cB M (-16384- (j:Int)) false (n:Int) w).1/\zI (cB M (-16384- (j:Int)) false (n:Int) w).1<=((2^ (16384+m):Nat):Int):=by
 have hd:dR M n j<=16384+m+j:=by
  have:=bK.2 (axF h (Nat.pow_lt_pow_right (by decide) (Nat.lt_succ_self _)));unfold dR;split<;>omega
 have h1:rq w M (dR M n j)*2^dR M n j<=2^ (16384+m+j):=by
  refine awX (awZ _ (aj8 h)) ?_;rw[asw hd,←axa];exact axC (by decide) (by omega)
 obtain⟨c1,c2⟩:=(aj9 (w:=w) (j:=j) h0 hn).1 (axF h1 (Nat.pow_lt_pow_right (by decide) (by omega)));have c3:=amv (w:=w) (j:=j) h0 hn c1;refine⟨c1,c3,?_⟩;have h2:zI (cB M (-16384- (j:Int)) false (n:Int) w).1*((2^j:Nat):Int)<=((2^ (16384+m):Nat):Int)*((2^j:Nat):Int):=by
  rw[←aFX,←axa];refine Int.le_trans (Int.le_of_eq ?_) (Int.ofNat_le.2 h1);rw[←c2];simp
 exact Int.le_of_mul_le_mul_right h2 (Int.ofNat_lt.2 (axb j))
theorem WA{z:Int}{j n m:Nat}{up:Bool}(hn:8<=n/\n<=512)(hm:m<16384)(h:z.natAbs<=2^ (16384+m+j)):
  (jj z (-16384- (j:Int)) n up).2=0/\(zI (jj z (-16384- (j:Int)) n up).1).natAbs<=2^ (16384+m):=by
 rcases Int.lt_trichotomy z 0 with a|rfl|a
 ·rw[aka a];obtain⟨s1,s2⟩:=amw (M:=z.natAbs) (f:=-16384- (j:Int)) (p:=n) (w:=!up);obtain⟨b1,b2,b3⟩:=aeY (w:=!up) (show z.natAbs≠0 by omega) hn hm h;omega
 ·simp_all[ah6,cF,aI,axz]
 ·rw[akb a];obtain⟨b1,b2,b3⟩:=aeY (w:=up) (show z.natAbs≠0 by omega) hn hm h;omega
def Ld(m:Nat)(d:Rd):Prop:=(zI d).natAbs<=2^ (16384+m)
theorem Ld.up{m k:Nat}{d:Rd}(h:Ld m d)(hk:m<=k):Ld k d:=awX h (axC (by decide) (by omega))
theorem Zz{a b:Rd}{p:Int}{m:Nat}{up:Bool}(va:vd a=true)(vb:vd b=true)(hp:bJ p=true)(hm:m+1<16384)(ha:Ld m a)(hb:Ld m b):(di a b p up).2=0/\Ld (m+1) (di a b p up).1:=by
 obtain⟨f1,n,rfl,hn⟩:=Wy va vb hp;unfold di;rw[if_pos f1];refine WA (j:=0) hn hm ?_;unfold Ld at ha hb;have e:2^ (16384+(m+1)+0)=2^ (16384+m)+2^ (16384+m):=by rw[axo,←Nat.add_assoc,axO];omega
 omega
theorem ZA{a b:Rd}{p:Int}{m k:Nat}{up:Bool}(va:vd a=true)(vb:vd b=true)(hp:bJ p=true)(hm:m+k<16384)(ha:Ld m a)(hb:Ld k b):(fF a b p up).2=0/\Ld (m+k) (fF a b p up).1:=by
 obtain⟨f1,n,rfl,hn⟩:=Wy va vb hp;unfold fF;rw[if_pos f1];refine WA (j:=16384) hn hm ?_;rw[Int.natAbs_mul,show 16384+(m+k)+16384=(16384+m)+(16384+k)by omega,axa];exact aFW ha hb
theorem akg{a:Rd}{p:Int}{m:Nat}{up:Bool}(va:vd a=true)(hp:bJ p=true)(hm:m<16384)(ha:Ld m a):(bZ a p up).2=0/\Ld m (bZ a p up).1:=by
 have hp2:=zN hp;unfold bZ;rw[if_pos (by grind[aY])];obtain⟨n,rfl⟩:∃n:Nat,p=n:=⟨p.toNat,by omega⟩;exact WA (j:=0) (by omega) hm ha
theorem aeZ{a:Rd}{p:Int}{up:Bool}(va:vd a=true)(hp:bJ p=true)(ha:Ld 0 a):∀ (k:Nat) (r:Rd×Int),vd r.1=true->r.2=0->Ld 0 r.1->(mq a p up k r).2=0/\Ld 0 (mq a p up k r).1
 |0,r,_,h1,h2=>⟨h1,h2⟩
 |k+1,r,vr,h1,h2=>by
  unfold mq;rw[if_pos h1];obtain⟨m1,m2⟩:=ZA (up:=up) vr va hp (by decide) h2 ha;exact aeZ va hp ha k _ JL.1 m1 m2
theorem ah9{a:Rd}{p:Int}{n:Nat}{up:Bool}(va:vd a=true)(hp:bJ p=true)(ha:Ld 0 a):(pw a n p up).2=0/\Ld 0 (pw a n p up).1:=by
 obtain⟨m1,m2⟩:=akg (up:=up) va hp (by decide) ha;exact aeZ va hp ha _ _ JK.1 m1 m2
theorem ZB{a:Rd}{p:Int}{n:Nat}{up:Bool}(va:vd a=true)(hp:bJ p=true)(ha:Ld 0 a):(qI a n p up).2=0/\Ld 0 (qI a n p up).1:=by
 grind[qI,ah9,Ld,gJ,g1,Int.natAbs_neg,vS,asv]
structure Bd (m:Nat) (x:Ri):Prop where
 i:∃q,In q x
 a:x.all=false
 l:Ld m x.lo
 h:Ld m x.hi
theorem Bd.up{m k:Nat}{x:Ri}(h:Bd m x)(hk:m<=k):Bd k x:=⟨h.i,h.a,h.l.up hk,h.h.up hk⟩
theorem Bd.v{m:Nat}{x:Ri}(h:Bd m x):VI x:=h.i.elim fun _ h=>h.vi
theorem Bd.k{m:Nat}{x:Ri}(h:Bd m x):kI x=true:=aoG h.i h.a
theorem QD{x y:Ri}{p:Int}{m:Nat}(hp:bJ p=true)(hm:m+1<16384)(hx:Bd m x)(hy:Bd m y):Bd (m+1) (cW x y p):=by
 obtain⟨q,ix⟩:=hx.i;obtain⟨r,iy⟩:=hy.i;have hi:=n7 (p:=p) ix iy;obtain⟨a1,a2⟩:=Zz (up:=false) ix.vi.1.1 iy.vi.1.1 hp hm hx.l hy.l;obtain⟨a3,a4⟩:=Zz (up:=true) ix.vi.2.1 iy.vi.2.1 hp hm hx.h hy.h;have e:cW x y p=⟨(di x.lo y.lo p false).1,(di x.hi y.hi p true).1,false⟩:=by
  unfold cW tL;rw[hx.k,hy.k,hp,axm,axm,if_pos rfl,if_pos ⟨a1,a3⟩]
 rw[e]at hi⊢;exact⟨⟨_,hi⟩,rfl,a2,a4⟩
theorem ZC{x y:Ri}{p:Int}{m k:Nat}(hp:bJ p=true)(hm:m+k<16384)(hx:Bd m x)(hy:Bd k y):Bd (m+k) (ce x y p):=by
 obtain⟨q,ix⟩:=hx.i;obtain⟨r,iy⟩:=hy.i;have hi:=n8 (p:=p) ix iy;have lx:∀i,Ld m (gb x y i).1:=fun i=>by unfold gb;split;exact hx.l;exact hx.l;exact hx.h;exact hx.h
 have ly:∀i,Ld k (gb x y i).2:=fun i=>by unfold gb;split;exact hy.l;exact hy.h;exact hy.l;exact hy.h
 have key:∀i up,(fF (gb x y i).1 (gb x y i).2 p up).2=0/\Ld (m+k) (fF (gb x y i).1 (gb x y i).2 p up).1:=fun i up=>by
  obtain⟨v1,v2⟩:=aoH ix.vi iy.vi i;grind[ZA]
 obtain⟨t,t0,_,⟨j,_,t1⟩,j',_,t2⟩:=abY (dn:=fun a b=>fF a b p false) (up:=fun a b=>fF a b p true) (pr:=gb x y) (fun a b=>JL.1) (fun a b=>JL.1) fun i _=>⟨(key i false).1,(key i true).1⟩;have e:ce x y p=⟨t.1,t.2,false⟩:=by
  unfold ce;rw[hx.k,hy.k,hp,axm,axm,if_pos rfl,t0];rfl
 rw[e]at hi⊢;refine⟨⟨_,hi⟩,rfl,?_,?_⟩
 all_goals grind
theorem FL{n:Bool}{k:Nat}:zI ⟨n,[1],(k:Int)⟩=bB n (2^ (16384+k)):=by
 have h1:zI ⟨n,[1],(k:Int)⟩=bB n (mg ⟨n,[1],(k:Int)⟩):=rfl;rw[h1];unfold mg;rw[show((k:Int)+16384).toNat=16384+k by omega]
 simp_all[ab,Nat.one_mul]
theorem akh{n:Bool}{a:Nat}:(bB n a).natAbs=a:=by
 grind[bB]
theorem amz{n:Bool}{k:Nat}:Ld k ⟨n,[1],(k:Int)⟩:=by
 simp_all[Ld,FL,akh,awQ]
theorem O1:Ld 0 one:=amz (k:=0)
theorem QF{x:Ri}{n:Nat}{p:Int}(hp:bJ p=true)(h16:n<=16)(hx:Bd 0 x):Bd 0 (DW x n p):=by
 obtain⟨q,ix⟩:=hx.i;have hi:=KJ (n:=n) (p:=p) ix;have e0:=hx.k;unfold DW at hi⊢;rw[if_pos (by rw[e0,hp];simp[h16])]at hi⊢;by_cases h0:n=0
 ·rw[if_pos h0]at hi⊢;exact⟨⟨_,hi⟩,rfl,O1,O1⟩
 ·rw[if_neg h0]at hi⊢;have hX:(vd (if n%2=0 then tj x else x).lo=true/\vd (if n%2=0 then tj x else x).hi=true)/\Ld 0 (if n%2=0 then tj x else x).lo/\Ld 0 (if n%2=0 then tj x else x).hi:=by
   have b1:=hx.l;have b2:=hx.h;split
   ·unfold tj;obtain⟨m1,m2⟩:=aoI ix.vi (ah7 hx.i hx.a);obtain⟨g1,g2⟩:=aoJ ix.vi;grind[Ld,b2,g1,zI,AJ,Hv]
   ·exact⟨⟨ix.vi.1.1,ix.vi.2.1⟩,b1,b2⟩
  obtain⟨⟨v1,v2⟩,l1,l2⟩:=hX;obtain⟨a1,a2⟩:=ZB (n:=n) (up:=false) v1 hp l1;obtain⟨a3,a4⟩:=ZB (n:=n) (up:=true) v2 hp l2;unfold tL at hi⊢;rw[if_pos ⟨a1,a3⟩]at hi⊢;exact⟨⟨_,hi⟩,rfl,a2,a4⟩
theorem aki{x:Ri}{n:Nat}{p:Int}(hp:bJ p=true)(h16:n<=32)(hx:Bd 0 x):Bd 0 (Cc x n p):=by
 unfold Cc;split
 ·grind[QF]
 ·exact ZC (m:=0) (k:=0) hp (by decide) (QF hp (by omega) hx) (QF hp (by omega) hx)
theorem ae0{p:Int}{m:Nat}(hp:bJ p=true)(hm:m<16384):∀ (ds:List Ri) (es:List Int) (x:Ri),(∀d∈ds,Bd 0 d)->(∀e∈es,e<=32)->Bd m x->Bd m (Ii p ds es x)
 |[],es,x,_,_,h=>by cases es<;>exact h
 |d::ds,[],x,_,_,h=>h
 |d::ds,e::es,x,hd,he,h=>by
  refine ae0 hp hm ds es _ (fun i hi=>hd i (by grind)) (fun i hi=>he i (by grind)) ?_;split
  ·have:=he e (by simp);exact ZC (m:=m) (k:=0) hp hm h (aki hp (by omega) (hd d (by simp)))
  omega
theorem ae1{p:Int}{ds:List Ri}{m:Nat}(hp:bJ p=true)(hd:∀d∈ds,Bd 0 d):∀ (l:List Rt) (k:Nat) (s:Ri),m+k+l.length<16384->(∀t∈l,vd t.c=true/\Ok0 t.c/\Ld m t.c/\∀e∈t.exps,e<=32)->Bd (m+k) s->Bd (m+k+l.length) (Ou p ds l s)
 |[],_,_,_,_,h=>h
 |t::l,k,s,hl,ht,h=>by
  show Bd _ (Ou p ds l (cW s (Ii p ds t.exps ⟨t.c,t.c,false⟩) p));obtain⟨c1,c2,c3,c4⟩:=ht t (by simp);have hl2:m+k+(l.length+1)<16384:=hl;have:=ae1 hp hd l (k+1) _ (by omega) (fun t ht'=>ht t (by grind)) (QD (m:=m+k) hp (by omega) h ((ae0 hp (by omega) ds t.exps _ hd c4 ⟨⟨_,rQ c1 c2⟩,rfl,c3,c3⟩).up (Nat.le_add_right m k)));grind
theorem rR{m:Nat}:Bd m bU:=by
 have h:Ld m aI:=by unfold Ld;rw[cF rfl];grind
 exact⟨⟨_,rQ aU.1 aU.2⟩,rfl,h,h⟩
theorem Sb.bd{m:Nat}{x y:Ri}(h:Sb x y)(hy:Bd m y):Bd m x:=by
 obtain⟨i,rfl| ⟨h1,h2,_,h3,h4⟩⟩:=h
 ·cases hy.a
 ·have:=ah7 i h1;have l1:=hy.l;have l2:=hy.h;unfold Ld at l1 l2;refine⟨i,h1,?_,?_⟩<;> (unfold Ld;generalize 2^ (16384+m)=T at*;omega)
inductive Mrg:List Rt->List Rt->List Rt->Prop
 |nil:Mrg [] [] []
 |left {A r1 r2:List Rt} {t:Rt}:Mrg A r1 r2->Mrg (t::A) (t::r1) r2
 |right {A r1 r2:List Rt} {t:Rt}:Mrg A r1 r2->Mrg (t::A) r1 (t::r2)
 |both {A r1 r2:List Rt} {t:Rt} {c d:Rd}:Mrg A r1 r2->iF c d=(t.c,0)->Mrg (t::A) (⟨t.exps,c⟩::r1) (⟨t.exps,d⟩::r2)
theorem Mrg.mem{A r1 r2:List Rt}(h:Mrg A r1 r2):(∀y∈r1,∃t∈A,y.exps=t.exps)/\∀y∈r2,∃t∈A,y.exps=t.exps:=by
 induction h with
 |nil=>grind
 |left h ih=>
  grind
 |right h ih=>
  grind
 |both h _ ih=>
  grind
def inc(l:List Int)(i:Nat):List Int:=l.set i (l.getD i 0+1)
theorem ZD(l:List Int)(i:Nat):(inc l i).length=l.length:=by simp[inc]
theorem amA{l:List Int}{i:Nat}(h:i<l.length):(inc l i).getD i 0=l.getD i 0+1:=by
 grind[inc]
theorem akj{l:List Int}{i:Nat}(h:i<l.length):dec (inc l i) i=l:=by
 simp_all[dec,amA,inc,List.set_set,Int.add_sub_cancel,List.set_getElem_self]
theorem ZE{l:List Int}{i:Nat}(h:i<l.length):bh (inc l i)=bh l+1:=by
 grind[Zh,inc,ZD,akj]
def ahs(x:List Int):Rt:=⟨x,one⟩
def asx(v:Int)(t:Rt)(i:Nat):Rp:=⟨v,[ahs (inc t.exps i)]⟩
structure VS (v:Int) (i:Nat) (t:Rt):Prop where
 vt:VT v t
 hd:bh t.exps<=16
 hi:i<t.exps.length
theorem ZF{l:List Int}{i:Nat}(h:∀e∈l,0<=e/\e<=32)(hi:i<l.length):0<=l.getD i 0/\l.getD i 0<=bh l:=by
 simp_all[Ky]
theorem VS.inc{v:Int}{i:Nat}{t:Rt}(h:VS v i t){d:Rd}(od:Ok0 d)(vdd:vd d=true)(nd:d.m.length≠0):VT v ⟨inc t.exps i,d⟩:=by
 obtain⟨x1,x2⟩:=ZF h.vt.b h.hi;have:=h.hd;refine⟨od,by rw[ZD];exact h.vt.len,h.vt.v8,vdd,nd,fun e he=>?_,by rw[ZE h.hi];omega⟩;rcases List.mem_or_eq_of_mem_set he with h2|rfl
 ·exact h.vt.b e h2
 omega
theorem VS.one{v:Int}{i:Nat}{t:Rt}(h:VS v i t):VT v (ahs (Go.Ab.inc t.exps i)):=h.inc eX.2 eX.1 (by decide)
theorem VS.oneC{v:Int}{i:Nat}{t:Rt}(h:VS v i t):Cl v [ahs (Go.Ab.inc t.exps i)]:=Cl.mk' h.one (fun _ h=>nomatch h) (Cl.nil _)
theorem VS.vp{v:Int}{i:Nat}{t:Rt}(h:VS v i t)(h0:0<=v):vp (asx v t i)=true:=CI h.oneC h0 h.vt.v8 (by grind)
theorem VS.intD{v:Int}{i:Nat}{t:Rt}(h:VS v i t):Ok0 (intD (t.exps.getD i 0+1))/\vd (intD (t.exps.getD i 0+1))=true:=by
 obtain⟨x1,x2⟩:=ZF h.vt.b h.hi;have:=h.hd;obtain⟨k1,k2,_⟩:=ajr (e:=t.exps.getD i 0+1) (by omega) (by omega);grind
def nC(v i:Nat):List Int:=(BH v).set i 1
def WB(v i:Nat):Rp:=⟨v,[⟨nC v i,one⟩]⟩
theorem Nc(v i:Nat):(nC v i).length=v:=by simp[nC,BH]
theorem aht{v i:Nat}(h:i<v):bh (nC v i)=1:=by
 have:=ZE (l:=BH v) (i:=i) (by grind[BH]);grind[Zi,inc,BH,nC]
theorem amB{v i:Nat}(h8:v<=8)(h:i<v):VT v ⟨nC v i,one⟩:=by
 refine⟨eX.2,by grind[nC,Nc],by omega,eX.1,(by show(1:Nat)≠0;decide),fun e he=>?_,by grind[aht]⟩;rcases List.mem_or_eq_of_mem_set he with h|rfl
 ·exact aou e h
 omega
theorem amC{v:Nat}{i:Int}:R F.poly_Var [I v,I i] []=some (if v<=8/\0<=i/\i<v then pV (WB v i.toNat,0)else pV (p0,2),[]):=by
 refine ax aaV rfl ?_;have e1:((v:Int)<0)=False:=ff;by_cases g:v<=8/\0<=i/\i<v
 ·rw[if_pos g];obtain⟨h8,g1,g2⟩:=g;obtain⟨n,rfl⟩:=ax5 g1;have hn:n<v:=by omega
  have e2:(8< (v:Int))=False:=ff;have e3:((n:Int)<0)=False:=ff;have e4:((v:Int)<=(n:Int))=False:=ff;have z1:qX (.v (.int .i64 (v:Int))) (.v (.int .i64 (v:Int)))=some (v,v):=by
   grind[qX]
  have z2:(v*8<=140737488355328)=True:=tt;have he:=AN (v:=v);have h1:=Ju;simp only[ae,ah]at h1;have ei:Int.toNat (n:Int)=n:=awY _;have k0:(aS (BH v)).set n [I 1]=aS (nC v n):=YT _ _ _;have k3:(aS (BH v))[n]?=some [I 0]:=by grind[aS,BH]
  have e7:(0<=(n:Int)/\(n:Int)< (v:Int))=True:=eq_true ⟨by omega,by omega⟩;simp only[sO,yL,go_sem,e1,e2,e3,e4,h1,he,qR,z1,z2,agZ,e7,ei,k0,k3,awP];have k1:(v<=(nC v n).length)=True:=eq_true (by simp_all[Nc,awQ]);have k2:(aS (nC v n)).take v=aS (nC v n):=axg (by simp_all[CT,Nc,awQ]);simp only[k1,k2,go_sem];have hadd:=dF (aD6.1.2.1 false) rfl (pj (d:=34) (id:=2240) (v:=v) (e:=0) (e':=0) (c:=.emp) (l:=[]) (x:=nC v n) (q:=one) (h:=upd (upd (upd (upd (upd (fun _=>.dead) 4 (.bx [I 0,.emp])) 25 (.ar 1 (aS (BH v)))) 25 (.ar 1 (aS (nC v n)))) 2240 (.bx [I v,.emp,I 0])) 25 (.fz 1 (aS (nC v n)))) rfl (.inr ⟨rfl,rfl⟩) (.inl rfl) (VP (amB h8 hn)));simp only[ae,ah,t3]at hadd;simp only[hadd,go_sem];obtain⟨o,hdn⟩:=E5 (v:=v) (e:=0) (c:=.osl 4 (aH [⟨nC v n,one⟩])) (l:=[⟨nC v n,one⟩]) (d:=36) (id:=2240) (h:=upd (upd (upd (upd (upd (upd (fun _=>.dead) 4 (.bx [I 0,.emp])) 25 (.ar 1 (aS (BH v)))) 25 (.ar 1 (aS (nC v n)))) 2240 (.bx [I v,.emp,I 0])) 25 (.fz 1 (aS (nC v n)))) 2240 (.bx [I v,.osl 4 (aH [⟨nC v n,one⟩]),I 0])) rfl (.inl rfl) rfl;have hd':=dF (bw.1.2.1 false) rfl hdn;rw[hd'];have e4:lE v (some [⟨nC v n,one⟩])=(WB v n,0):=rfl;have e5:=Kp [⟨nC v n,one⟩];rw[e4];simp only[pV,aO,e5,go_sem]
 ·rw[if_neg g];by_cases g1:v<=8
  ·have e2:(8< (v:Int))=False:=ff;by_cases g2:0<=i
   ·have e3:(i<0)=False:=ff;have e4:((v:Int)<=i)=True:=tt;simp only[sO,yL,go_sem,e1,e2,e3,e4];rfl
   ·have e3:(i<0)=True:=tt;simp only[sO,yL,go_sem,e1,e2,e3];rfl
  ·have e2:(8< (v:Int))=True:=tt;simp only[sO,yL,go_sem,e1,e2];rfl
noncomputable def abZ (s:Rs) (i:Int):Rm:=if(mr s&&decide (0<=i/\i<s.dom.length))=true then⟨WB s.dom.length i.toNat,bU⟩else fm s
theorem akk{s:Rs}{i:Int}(os:OkS s):R F.model_Var [uM s,I i] []=some (kO (abZ s i),[]):=by
 refine ax Xn rfl ?_;have h1:=Cf os.d os.n;have h2:=GC (s:=s);have h3:=amC (v:=s.dom.length) (i:=i);have h4:=R4;unfold abZ;by_cases g:s.dom.length<=8/\0<=i/\i<s.dom.length
 ·rw[if_pos g]at h3;rw[decide_eq_true g.2,Bool.and_true];simp only[pV,aO,am,ao]at h3 h4;cases g1:mr s with
  |false=>
   rw[g1]at h1;simp only[p8,wH,go_sem,h1,h2,h3]
  |true=>
   rw[g1]at h1;simp only[p8,wH,go_sem,h1,h3,h4]
 ·rw[if_neg g]at h3;have gf:(mr s&&decide (0<=i/\i<s.dom.length))=false:=by
   grind[g1,mr,decide_eq_false,n9]
  rw[gf,if_neg awW];simp only[pV,aO,p0]at h3;have f:((2:Int)=0)=False:=eq_false (by decide);cases g1:mr s with
  |false=>
   rw[g1]at h1;simp only[p8,wH,go_sem,h1,h2,h3]
  |true=>
   rw[g1]at h1;simp only[p8,wH,go_sem,h1,h2,h3,f]
theorem ahu{a:Rp}{o:Int}(ho:-1<=o)(h:∀t∈a.terms,bh t.exps<=o):ej a<=o:=by
 grind[ej]
theorem akl{s:Rs}(h:mr s=true):1<=s.dom.length/\1<=s.ord:=by
 simp_all[mr,awS,decide_eq_true_eq]
theorem aoK{s:Rs}{m:Rm}(hs:mr s=true)(c:Cl s.dom.length m.P.terms)(hv:m.P.vars=s.dom.length)(hl:m.P.terms.length<=500)(hd:∀t∈m.P.terms,bh t.exps<=s.ord)(hr:vi m.R=true)(hi:∀t∈m.P.terms,zZ t.c s.p=true):uN s m=true:=by
 unfold uN;have h8:=(n9 hs).1;have hp:vp m.P=true:=by
  have:m.P=⟨(s.dom.length:Int),m.P.terms⟩:=by rw[←hv]
  grind[CI]
 rw[hs,hp,decide_eq_true hv,decide_eq_true (ahu (by grind[akl]) hd),hr,awT,awT,awT,awT,awT,ax3,List.any_eq_false];grind
theorem akm{n:Bool}{a k:Nat}:bB n (a*2^k)=bB n a*2^k:=by
 grind[bB,aFX,Int.neg_mul]
theorem WC{c:Rd}{p:Int}{up:Bool}(ok:Ok0 c)(vc:vd c=true)(hp:bJ p=true)(hb:(af (ab c.m):Int)<=p):bZ c p up=(c,0):=by
 have hp2:=zN hp;by_cases h0:c.m.length=0
 ·grind[AD,Wk]
 have hi:(af (ab c.m):Int)+c.e<=16384∧-16384<=c.e:=by
  have h:=vc;unfold vd at h;rw[if_neg h0]at h;have o:=Gr vc h0;simp only[awS,decide_eq_true_eq]at h;have hi:=AE h.2.2.2 (by have:=(jy (n:=ab c.m) (k:=0)).2 (by omega);omega);omega
 unfold bZ;rw[if_pos (by grind[aY]),show zI c=bB c.neg (mg c)from rfl];unfold mg;rw[akm,Rl,show(-16384:Int)+((c.e+16384).toNat:Int)=c.e by omega,←Oo hp2];have hk:Js (ab c.m) c.e p=0:=by grind[Js]
 simp_all[DV,MM,ab,Nat.pow_zero,Nat.mod_one,Nat.div_one,AI,if_neg,Jx]
theorem ae2{c:Rd}{p:Int}(ok:Ok0 c)(vc:vd c=true)(hp:bJ p=true)(hb:(af (ab c.m):Int)<=p):pT c p=(c,0):=by
 simp_all[pT,WC,if_pos,OW,abU]
theorem ae3{c:Rd}(vc:vd c=true):l8 c c=(aI,0):=by
 unfold l8;rw[vc,axm,if_pos rfl,Int.sub_self];exact DZ rfl
theorem WD{p:Int}(hp:bJ p=true):∀ts:List Rt,(∀t∈ts,Ok0 t.c/\t.c.m.length≠0/\zZ t.c p=true)->Cg p ts=some (ts,[])
 |[],_=>rfl
 |t::ts,h=>by
  obtain⟨h1,h2,h3⟩:=h t (by simp);unfold zZ at h3;simp only[awS,decide_eq_true_eq]at h3;have hn:=ae2 h1 h3.2.1 hp h3.2.2;unfold Cg;rw[hn,if_pos rfl,ae3 h3.2.1,if_pos rfl,WD hp ts fun t ht=>h t (by simp[ht])];show some (ey t.exps t.c ts,ey t.exps aI [])=_;unfold ey;rw[if_neg h2,if_pos (show aI.m.length=0 from rfl)]
structure Fit (s:Rs) (q:Rp):Prop where
 v:q.vars=s.dom.length
 n:q.terms.length<=500
 c:Cl s.dom.length q.terms
 d:∀t∈q.terms,bh t.exps<=s.ord
 r:∀t∈q.terms,zZ t.c s.p=true
theorem Fit.ok{s:Rs}{q:Rp}(h:Fit s q):OkP q:=⟨fun t ht=>(h.c.t t ht).ok⟩
theorem Fit.vp{s:Rs}{q:Rp}(hs:mr s=true)(h:Fit s q):vp q=true:=by
 have:=h.v;obtain⟨v,l⟩:=q;subst this;exact CI h.c (by omega) (by have:=(n9 hs).1;omega) h.n
theorem ae4{s:Rs}{q:Rp}(hs:mr s=true)(h:Fit s q):cP q s.ord=(q,⟨q.vars,[]⟩):=by
 unfold cP;rw[if_pos (h.vp hs),List.filter_eq_self.2 fun t ht=>by exact decide_eq_true (h.d t ht),List.filter_eq_nil_iff.2 fun t ht=>by unfold JQ;rw[decide_eq_true (h.d t ht)];grind]
theorem Sl{s:Rs}{q:Rp}(hs:mr s=true)(h:Fit s q):eM q s.p=((q,⟨q.vars,[]⟩),0):=by
 have hp:=(n9 hs).2;have hp2:=zN hp;unfold eM;rw[if_pos (h.vp hs),if_neg (by omega),WD hp _ fun t ht=>⟨(h.c.t t ht).c,(h.c.t t ht).nz,h.r t ht⟩]
theorem KV{p:Int}(hp:bJ p=true):cW bU bU p=bU:=by
 unfold cW;rw[(rR (m:=0)).k,hp,axm,axm,if_pos rfl];show tL (di aI aI p false) (di aI aI p true)=_;rw[aes,aes,Wk hp,Wk hp];rfl
theorem ZG{v p:Int}{dom:List Ri}:dH ⟨v,[]⟩ dom p=bU:=by
 simp_all[dH,if_pos]
theorem akn{s:Rs}{q:Rp}(hs:mr s=true)(h:Fit s q):wF s q=((q,bU),true):=by
 unfold wF;simp only[ae4 hs h,Sl hs h,ZG,KV (n9 hs).2,←h.v];rfl
theorem WE{s:Rs}{q:Rp}(hs:mr s=true)(h:Fit s q):gr s q 0 bU=⟨q,bU⟩:=by
 simp_all[gr,akn,if_pos,KV,n9]
theorem ae5{r:Ri}{p:Int}(hk:kI r=true)(hp:bJ p=true):ce r bU p=bU:=by
 obtain⟨_,v1,v2⟩:=Tt hk;have e1:∀i,(gb r bU i).2=aI:=fun i=>by unfold gb;split<;>rfl
 have e2:∀i,vd (gb r bU i).1=true:=fun i=>by unfold gb;grind
 have e3:∀i up,fF (gb r bU i).1 (gb r bU i).2 p up=(aI,0):=fun i up=>by
  rw[e1];unfold fF;rw[if_pos (Wy (e2 i) Wj hp).1,cF (d:=aI) rfl,Int.mul_zero,ah6]
 unfold ce;rw[hk,hp,(rR (m:=0)).k,axm,axm,if_pos rfl];unfold pS;simp only[e3,and_self,if_true];have e4:∀k i,aDo (fun a b=>fF a b p false) (fun a b=>fF a b p true) (gb r bU) k i (aI,aI)=some (aI,aI):=fun k=>by
  induction k with
  |zero=>exact fun i=>rfl
  |succ k ih=>
   simp_all[aDo,and_self,if_true,ite_self]
 rw[e4];rfl
theorem ako{x:Ri}(hv:OkI x)(h:lF x lh=true):Bd 0 x:=by
 unfold lF at h;split at h
 ·rename_i g;obtain⟨g1,g2,g3⟩:=g;simp only[lh,axY,awS,decide_eq_true_eq]at h;have h5:zI tp<=zI x.lo:=of_decide_eq_true h.1;have h6:zI x.hi<=zI one:=of_decide_eq_true h.2;have k:kI x=true:=by grind[kI,g1]
  obtain⟨_,v1,v2⟩:=Tt k;have hl:zI x.lo<=zI x.hi:=by
   simp_all[vi,g1,if_neg,awS,decide_eq_true_eq]
  have e1:zI one=((2^ (16384+0):Nat):Int):=FL (n:=false) (k:=0);have e2:zI tp=-((2^ (16384+0):Nat):Int):=FL (n:=true) (k:=0);refine⟨⟨qv x.lo,Or.inr ⟨g3,⟨⟨v1,hv.1⟩,⟨v2,hv.2⟩⟩,Rat.le_refl,zM.2 hl⟩⟩,g3,?_,?_⟩<;> (unfold Ld;generalize 2^ (16384+0)=T at e1 e2⊢;omega)
 grind[lh]
theorem ae6{s:Rs}(os:OkS s)(hs:mr s=true):∀x∈s.dom,Bd 0 x:=fun x hx=>by
 unfold mr at hs;exact ako (os.d x hx) (by grind)
theorem ZH{s:Rs}(os:OkS s)(hs:mr s=true){q:Rp}(hv:vp q=true)(h:q.vars=s.dom.length):ni q s.dom=true:=by
 unfold ni;rw[hv,decide_eq_true h.symm,awT,awT,ax3,List.any_eq_false];exact fun x hx=>by rw[(ae6 os hs x hx).k];grind
theorem ae7{s:Rs}(os:OkS s)(hs:mr s=true){q:Rp}{m:Nat}(oq:OkP q)(hv:vp q=true)(h:q.vars=s.dom.length)(hc:∀t∈q.terms,Ld m t.c)(hm:m+q.terms.length<16384):Bd (m+q.terms.length) (dH q s.dom s.p):=by
 have hp:=(n9 hs).2;have hd:=ZH os hs hv h;have hcl:=(il oq hv).1;by_cases h0:q.terms.length=0
 ·simp_all[dH,if_pos,rR]
 ·have hb:Bd (m+q.terms.length) (pg q s.dom s.p):=by
   unfold pg;rw[hd,hp,axm,if_pos rfl];exact ae1 (k:=0) hp (ae6 os hs) q.terms _ hm (fun t ht=>⟨(hcl.t t ht).vc,(hcl.t t ht).c,hc t ht,fun e he=>((hcl.t t ht).b e he).2⟩) rR
  exact(amy oq os.d (by grind[n9]) hd hp h0 hb.a).bd hb
def Il(a b:Rat)(q:Rat->Rat->Rat):Prop:=∃C,0<=C/\∀x y,a<=x->x<=b->a<=y->y<=b→-C<=q x y/\q x y<=C
theorem Il.add{a b:Rat}{p q:Rat->Rat->Rat}(hp:Il a b p)(hq:Il a b q):Il a b fun x y=>p x y+q x y:=by
 obtain⟨C,c0,hc⟩:=hp;obtain⟨D,d0,hd⟩:=hq;refine⟨C+D,by grind,fun x y h1 h2 h3 h4=>?_⟩;have:=hc x y h1 h2 h3 h4;have:=hd x y h1 h2 h3 h4;grind
theorem Il.mul{a b:Rat}{p q:Rat->Rat->Rat}(hp:Il a b p)(hq:Il a b q):Il a b fun x y=>p x y*q x y:=by
 obtain⟨C,c0,hc⟩:=hp;obtain⟨D,d0,hd⟩:=hq;refine⟨C*D,Rat.mul_nonneg c0 d0,fun x y h1 h2 h3 h4=>?_⟩;obtain⟨u1,u2⟩:=hc x y h1 h2 h3 h4;obtain⟨v1,v2⟩:=hd x y h1 h2 h3 h4;show-(C*D)<=p x y*q x y/\p x y*q x y<=C*D;clear hc hd;generalize p x y=u at*
 generalize q x y=v at*
 have k1:=Rat.mul_nonneg (show 0<=C-u by grind) (show 0<=D-v by grind);have k2:=Rat.mul_nonneg (show 0<=C+u by grind) (show 0<=D+v by grind);have k3:=Rat.mul_nonneg (show 0<=C-u by grind) (show 0<=D+v by grind);have k4:=Rat.mul_nonneg (show 0<=C+u by grind) (show 0<=D-v by grind);constructor<;>grind
theorem Il.c{a b:Rat}(k:Rat):Il a b fun _ _=>k:=by
 rcases Rat.le_total (a:=0) (b:=k)with h|h
 ·exact⟨k,h,fun _ _ _ _ _ _=>by grind⟩
 ·exact⟨-k,by grind,fun _ _ _ _ _ _=>by grind⟩
def Smo(a b:Rat)(f g:Rat->Rat):Prop:=∃q,Il a b q/\∀x y,f y-f x-g x*(y-x)=(y-x)*(y-x)*q x y
theorem Smo.lin{a b c d:Rat}{f g f' g':Rat->Rat}(h1:Smo a b f g)(h2:Smo a b f' g')(hd:d=c):Smo a b (fun x=>c*f x+f' x) fun x=>d*g x+g' x:=by
 subst hd;obtain⟨q,hq,e⟩:=h1;obtain⟨q',hq',e'⟩:=h2;refine⟨fun x y=>d*q x y+q' x y,((Il.c _).mul hq).add hq',fun x y=>?_⟩;have:=e x y;have:=e' x y;grind
def u8R(l:List Nat):List (List AV):=l.map fun k=>[.v (.int .u8 (k:Nat))]
@[go_sem] theorem auU(l:List Nat):(u8R l).length=l.length:=by simp[u8R]
theorem amD{a b:Rd}(h:(iF a b).2=0):qv (iF a b).1=qv a+qv b:=by
 unfold qv;rw[P9 h,Rat.intCast_add,Rat.add_mul]
theorem akp{e:Int}(h1:1<=e)(h2:e<=32):qv (intD e)=(e:Rat):=by
 obtain⟨W,hW⟩:=amk;have h1:=hW e.natAbs (by omega);have h2:=hW 1 (by omega);have h3:bm false 1 0=one:=by grind[rK,one,iw,uA,av,qD,fj]
 have h5:((e.natAbs:Nat):Int)=e:=by omega
 rw[h3]at h2;rw[h5]at h1;have h4:=JO;unfold qv at h4⊢;unfold intD;rw[h1,aFn,Rat.mul_assoc];rw[h2,aFn]at h4;have h6:(((1:Nat):Int):Rat)=1:=rfl;rw[h6,Rat.one_mul]at h4;rw[h4,Rat.mul_one]
def FM:Rd:=⟨false,[1],1⟩
theorem KW:vd FM=true/\Ok0 FM:=⟨by decide,⟨fun x hx=>by rw[List.mem_singleton.1 hx];decide,by decide⟩⟩
theorem ae8:dt one one=(one,0):=by
 unfold dt;rw[eX.1,axm,if_pos rfl];have h:zI one=((2^ (16384+0):Nat):Int):=FL (n:=false) (k:=0);have h2:=ab0 (z:=zI one) (k:=16384+0) (e:=-32768);rw[←h]at h2;rw[h2,show(-32768:Int)+((16384+0:Nat):Int)=-16384 by omega,AL eX.2 eX.1,DZ eX.1]
theorem WF:iF one one=(FM,0):=by
 unfold iF;rw[eX.1,axm,if_pos rfl];have h:zI one=((2^ (16384+0):Nat):Int):=FL (n:=false) (k:=0);have h2:=FL (n:=false) (k:=0+1);have hp:∀a:Nat,2^ (a+(0+1))=2^ (a+0)*2:=fun a=>by rw[awP,axa,Nat.pow_one,axo]
 rw[hp 16384,show(⟨false,[1],((0+1:Nat):Int)⟩:Rd)=FM from rfl]at h2;unfold bB at h2;rw[if_neg awW]at h2;have e:zI one+zI one=zI FM:=by
  omega
 rw[e,AL KW.2 KW.1,DZ KW.1]
def s0:Rs:=⟨[lh],2,24⟩
abbrev tX(n:Int)(c:Rd):Rt:=⟨[n],c⟩
def xP:Rp:=⟨1,[tX 1 one]⟩
def qP:Rp:=⟨1,[tX 2 one]⟩
def yP:Rp:=⟨1,[tX 1 one,tX 2 one]⟩
def hP:Rp:=⟨1,[tX 3 FM,tX 4 one]⟩
def wP:Rp:=⟨1,[tX 2 one,tX 3 FM,tX 4 one]⟩
theorem aib{n:Int}{c:Rd}(hn:0<=n/\n<=32)(h:vd c=true/\Ok0 c)(h0:c.m.length≠0):VT 1 (tX n c):=⟨h.2,rfl,by decide,h.1,h0,fun e he=>by grind,by show n+0<=32;omega⟩
theorem cl1{a:Rt}(h:VT 1 a):Cl 1 [a]:=Cl.mk' h (fun _ h=>nomatch h) (Cl.nil _)
theorem cl2{a:Rt}{b:Rt}{l:List Rt}(h:VT 1 a)(hb:Cl 1 (b::l))(h1:∀t∈ (b::l),bO a.exps t.exps<0):Cl 1 (a::b::l):=Cl.mk' h h1 hb
theorem ZI{n:Int}(hn:0<=n/\n<=32):VT 1 (tX n one):=aib hn eX (by decide)
theorem v2_{n:Int}(hn:0<=n/\n<=32):VT 1 (tX n FM):=aib hn KW (by decide)
theorem ahv:Cl 1 yP.terms:=cl2 (ZI (by decide)) (cl1 (ZI (by decide))) (by decide+revert)
theorem ahw:Cl 1 hP.terms:=cl2 (v2_ (by decide)) (cl1 (ZI (by decide))) (by decide+revert)
theorem ahx:vp yP=true:=CI ahv (by decide) (by decide) (by decide)
theorem Bg:Fit s0 xP:=⟨rfl,by decide,cl1 (ZI (by decide)),by decide+revert,fun t ht=>by rw[List.mem_singleton.1 ht];decide⟩
theorem O2:Fit s0 qP:=⟨rfl,by decide,cl1 (ZI (by decide)),by decide+revert,fun t ht=>by rw[List.mem_singleton.1 ht];decide⟩
theorem O3:Fit s0 yP:=⟨rfl,by decide,ahv,by decide+revert,by decide+revert⟩
theorem akq:In (qv tp) lh:=Or.inr ⟨rfl,KP.2,Rat.le_refl,zM.2 (by
 rw[show zI tp=bB true (2^ (16384+0))from FL (k:=0),show zI lh.hi=bB false (2^ (16384+0))from FL (k:=0)];simp only[bB,if_true,axV,if_false];omega)⟩
theorem ahy{x:Ri}{q:Rat}(h:In q x)(ha:x.all=false):lF x x=true:=Sb.ins ⟨⟨_,h⟩,Or.inr ⟨ha,ha,⟨_,h⟩,Int.le_refl _,Int.le_refl _⟩⟩
theorem Ej:mr s0=true:=by
 have h:=ahy akq rfl;unfold mr;simp[s0,h];rfl
theorem Sm:OkS s0:=⟨fun x hx=>by rw[List.mem_singleton.1 hx];exact KP.1,by decide⟩
theorem vm0{q:Rp}(h:Fit s0 q):uN s0 ⟨q,bU⟩=true:=aoK Ej h.c h.v h.n h.d ((rR (m:=0)).i.elim fun _ h=>h.v) h.r
theorem ev0{a b:Rp}(ha:Fit s0 a)(hb:Fit s0 b):Ef s0 [⟨a,bU⟩,⟨b,bU⟩]=true:=by
 grind[Ef,Ej,vm0]
theorem amF:jJ xP xP=(qP,0):=by
 unfold jJ;simp only[xP,tX,jS,kN,CK,ae8,if_true,awV,axH,axe];rfl
theorem amG:Cd xP qP=(yP,0):=by
 rfl
theorem amH:jJ yP yP=(wP,0):=by
 unfold jJ;rw[if_pos (qQ.2 ⟨ahx,ahx,rfl⟩),if_neg (by rw[show ej yP=2 by rfl];omega)];simp only[yP,tX,jS,kN,CK,ae8,if_true,awV,axH,axe,axM,axc];have e:∀c:Rd,gM [] [tX 2 c,tX 3 c,tX 3 c,tX 4 c]=((if(iF c c).2=0 then some (if(iF c c).1.m.length=0 then []else [tX 3 (iF c c).1])else none).map (tX 2 c::·)).bind fun l=>gM l [tX 4 c]:=fun c=>rfl;show lE 1 (gM [] [tX 2 one,tX 3 one,tX 3 one,tX 4 one])=_;rw[e,WF];rfl
theorem aoL:cP wP 2=(qP,hP):=by
 rfl
theorem mz{q:Rp}(h:Fit s0 q)(hl:∀t∈q.terms,t.c=one):ce (dH q s0.dom s0.p) bU s0.p=bU:=
 ae5 (ae7 (m:=0) Sm Ej h.ok (h.vp Ej) h.v (fun t ht=>by grind[O1]) (by have:=h.n;omega)).k rfl
theorem z3:nv s0.p bU [bU,bU]=bU:=by
 simp only[nv,KV (show bJ s0.p=true from rfl)]
theorem amI{a b q:Rp}(ha:Fit s0 a)(hb:Fit s0 b)(la:∀t∈a.terms,t.c=one)(lb:∀t∈b.terms,t.c=one)(hm:jJ a b=(q,0)):Nb s0 ⟨a,bU⟩ ⟨b,bU⟩=gr s0 q 0 bU:=by
 unfold Nb;rw[if_pos (ev0 ha hb),hm,mz ha la,mz hb lb,ae5 (rR (m:=0)).k (show bJ s0.p=true from rfl),z3]
theorem c_x:∀t∈xP.terms,t.c=one:=fun t ht=>by rw[List.mem_singleton.1 ht]
theorem c_y:∀t∈yP.terms,t.c=one:=fun t ht=>by
 rcases List.mem_cons.1 ht with rfl|ht
 all_goals grind
theorem asz:abZ s0 0=⟨xP,bU⟩:=by
 unfold abZ;rw[Ej];rfl
theorem asA:Nb s0 ⟨xP,bU⟩ ⟨xP,bU⟩=⟨qP,bU⟩:=by
 rw[amI Bg Bg c_x c_x amF,WE Ej O2]
theorem asB:adM s0 ⟨xP,bU⟩ ⟨qP,bU⟩=⟨yP,bU⟩:=by
 unfold adM;rw[if_pos (ev0 Bg O2),amG,KV rfl,WE Ej O3]
noncomputable def zR:Ri:=cW bU (cW (dH hP s0.dom s0.p) bU s0.p) s0.p
theorem asC:Nb s0 ⟨yP,bU⟩ ⟨yP,bU⟩=⟨qP,zR⟩:=by
 rw[amI O3 O3 c_y c_y amH];have e:wF s0 wP=((qP,cW (dH hP s0.dom s0.p) bU s0.p),true):=by
  unfold wF;simp only[show cP wP s0.ord=(qP,hP)from aoL,Sl Ej O2,ZG];rfl
 unfold gr;rw[e,if_pos rfl,if_pos rfl];rfl
theorem amJ:OkP hP:=⟨fun t ht=>(ahw.t t ht).ok⟩
theorem amK:vp hP=true:=CI ahw (by decide) (by decide) (by decide)
theorem asD:Bd 3 (dH hP s0.dom s0.p):=ae7 (m:=1) Sm Ej amJ amK rfl (fun t ht=>by
 rcases List.mem_cons.1 ht with rfl|ht
 ·exact amz (k:=1)
 ·rw[List.mem_singleton.1 ht];exact O1.up (by decide)) (by decide)
theorem aoM:zR.all=false:=(QD (m:=4) rfl (by decide) rR (QD (m:=3) rfl (by decide) asD rR)).a
theorem aid:In 3 zR:=by
 have h1:=JO;have h2:qv FM=2:=by
  grind[amD,one,WF,qv,FM]
 have hp:tP s0.dom [1] [1]:=⟨by grind[lh],by decide,by decide,trivial⟩;have hi:=amx (p:=s0.p) amJ Sm.d (by decide) (ZH Sm Ej amK rfl) hp;have e:fv [1] hP.terms=3:=by
  simp[fv,hP,tX,JJ,D8,h1,h2];grind
 rw[e]at hi;have hz:In 0 bU:=by
  have:=rQ aU.1 aU.2;rwa[HC]at this
 have:=n7 (p:=s0.p) hz (n7 (p:=s0.p) hi hz);have e2:(0:Rat)+(3+0)=3:=by grind
 rwa[e2]at this
theorem QG:OkI bU:=⟨aU.2,aU.2⟩
theorem QH{q:Rp}(h:Fit s0 q):OkM ⟨q,bU⟩:=⟨fun t ht=>(h.c.t t ht).c,QG,by have:=h.n;show q.terms.length<_;omega⟩
theorem asE:R F.l25_awake [] []=some (B true,[]):=by
 refine ax Xg rfl ?_;have h1:=Zt;have h2:=akk (i:=0) Sm;have h3:=QA Sm (QH Bg) (QH Bg);have h4:=ajX Sm (QH Bg) (QH O2);have h5:=QA Sm (QH O3) (QH O3);rw[asz]at h2;rw[asA]at h3;rw[asB]at h4;rw[asC]at h5;have h6:=ahW;have h7:=R2 QG QG;rw[Sa ((rR (m:=0)).i.elim fun _ h=>h.v),axm]at h7;have h8:=agT (x:=3) (by decide) (by decide);have k8:vd (intD 3)=true/\Ok0 (intD 3):=by
  unfold intD;exact⟨Gn (ML (by decide) (by decide) (by decide) (by decide)),⟨yc _ _ _,axF (AF (k:=128) (by decide)) (by decide)⟩⟩
 have h9:=aeD aid.ok k8.2;rw[ajM (by rw[akp (by decide) (by decide)];exact aid) k8.1]at h9;have ha:=aoM;generalize intD 3=d3 at h8 h9;generalize zR=z at h5 h9 ha;simp only[s0,xP,qP,yP,tX,uM,Ed,kO,OV,bL,am,ao,ae,ah,aH,bD,aS,axp,axv]at h1 h2 h3 h4 h5 h6 h7 h8 h9;rw[ha]at h5 h9;simp only[De,Ls,go_sem,h1,h2,h3,h4,h5,h6,h7,h8,h9,axE,axI,awP,adN,Int.cast_ofNat_Int,decide_true]
end Go.Ab
