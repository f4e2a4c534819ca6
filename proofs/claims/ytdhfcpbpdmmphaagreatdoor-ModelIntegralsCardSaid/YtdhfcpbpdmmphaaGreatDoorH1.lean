/-
  A law of models holds at every input that the statement speaks of, under the conditions that its card names. Part H1.
-/
import Derived.LaidMore
import Derived.Test.YtdhfcpbpdmmphaaGreatDoorG1
open Nat renaming add_zero → ayF, div_add_mod → ay4, le_refl → ayd, le_trans → ayj, lt_of_le_of_lt → ayS, lt_of_lt_of_le → ay8, mul_assoc → ayD, mul_le_mul_right → aym, pow_add → ayn, pow_le_pow_right → ayP, pow_succ → ayZ, two_pow_pos → ayr, zero_add → ayc, zero_le → ayB
open Int renaming eq_ofNat_of_zero_le → aze, toNat_natCast → ayk
open Bool renaming and_eq_true → ayf, and_self → ayK, false_eq_true → aza, false_ne_true → ayl, not_eq_true' → azf, true_and → ayg
open List renaming append_nil → ayp, cons_append → ayW, length_cons → ayL, length_nil → ayR, map_cons → ays, map_nil → ayu, nil_append → ayq, take_of_length_le → ayt
open Option renaming bind_some → ayi, map_some → ayT
set_option linter.all false
namespace Go.Ab
open Go Go.Proofs Go.Shelf Go.ChangeShapes Go.WideShapes Go.RowKit Go.IntWalk
set_option maxRecDepth 100000
set_option maxHeartbeats 8000000
theorem Dm{α:Type}{l:List (Nat×α)}{f:Nat}{x:α}(h:l.lookup f=some x):(f,x)∈l:=by
 induction l with
 |nil=>cases h
 |cons a l ih=>
  obtain⟨i,y⟩:=a;rw[List.lookup_cons]at h;split at h
  ·rename_i he;simp at he;cases h;subst he;simp
  ·exact List.mem_cons_of_mem _ (ih h)
def ajk:Go.Shelf.Ren:=⟨fun|15=>37|n=>n,fun|22=>54|n=>n,fun n=>n⟩
theorem anL:Lays2.n15 Tryz.prog ajk where
 mixed:=by kernel_rfl
 f15:=by kernel_rfl
 t3:=by kernel_rfl
 a3:=Tryz.isAgg3
 z3:=Tryz.sizeOf3
 v3:=Tryz.zeroValue3
 t4:=by kernel_rfl
 a4:=Tryz.isAgg4
 z4:=Tryz.sizeOf4
 v4:=Tryz.zeroValue4
 t22:=by kernel_rfl
 a22:=Tryz.isAgg54
 z22:=Tryz.sizeOf54
 v22:=Tryz.zeroValue54
 i3:=by kernel_rfl
theorem ajl:qh Tryz.prog KL false F.slices_overlaps_api_Term_ (Zu 4):=
 anJ Tryz.func202 κ κ κ (tS:=25) (tR:=4) (e:=56) κ κ Tryz.sizeOf56
theorem anM:EnvOK Tryz.prog KL Gk where
 mixed:=by kernel_rfl
 ext f g h:=by
  have:=Dm h;simp only[Um,List.mem_cons,List.not_mem_nil,or_false,Prod.mk.injEq]at this;rcases this with⟨rfl,rfl⟩| ⟨rfl,rfl⟩
  ·have hk:Gk.md.keep F.bits_TrailingZeros32=false:=by kernel_rfl
   rw[hk];exact @ajj
  ·have hk:Gk.md.keep F.slices_overlaps_api_Term_=false:=by kernel_rfl
   rw[hk];exact @ajl
 text f fd _ h:=X3 _ (Dm h)
theorem anN(f:FuncId)(hk:Gk.md.keep f=false):qh Tryz.prog KL false f (R0 f):=by
 have h:qh Tryz.prog KL (Gk.md.keep f) f (R0 f):=Zr anM f;rw[hk]at h;exact @h
theorem apU:EnvOK Tryz.prog KL cK where
 mixed:=by kernel_rfl
 ext f g h:=by
  have:=Dm h;simp only[amj,Um,List.mem_cons,List.not_mem_nil,or_false,Prod.mk.injEq]at this;rcases this with⟨rfl,rfl⟩| ⟨rfl,rfl⟩| ⟨rfl,rfl⟩| ⟨rfl,rfl⟩
  ·have hk:cK.md.keep F.slices_Clone_int_int_=false:=by kernel_rfl
   rw[hk];exact @anK Tryz.prog KL ajk anL rfl (fun a w=>(enters_of Tryz.func37 κ rfl:Proofs.Enters Tryz.prog 37) a w) (anN _ κ)
  ·have hk:cK.md.keep F.slices_Insert_api_Term_api_Term_=false:=by kernel_rfl
   rw[hk];exact @als Tryz.prog KL (anN _ κ)
  ·have hk:cK.md.keep F.bits_TrailingZeros32=false:=by kernel_rfl
   rw[hk];exact @ajj
  ·have hk:cK.md.keep F.slices_overlaps_api_Term_=false:=by kernel_rfl
   rw[hk];exact @ajl
 text f fd _ h:=X3 _ (Dm h)
theorem atM:Tryz.prog.globalNamed "math/bits.deBruijn32tab" =some 0:=by kernel_rfl
theorem atN:(Tryz.prog.globals[0]?).map (·.type)=some 218:=by kernel_rfl
abbrev Is:List (String×DataW Unit):=[("math/bits.deBruijn32tab",YtdhfcpbpdmmphaaGreatDoor.Rows.laid_math_bits_deBruijn32tab)]
theorem agi{W:World}(h:laidMetH Tryz.prog Is W):TabAt 0 Lib.deBruijn32tab W/\EW W:=by
 rw[MakeChecks.laidMetH_plain _ _ _ κ]at h;obtain⟨ps,⟨g0,t0,cs0,f0,p0,q0,hg0,ht0,hv0,hd0,_,_⟩,_,_⟩:=h;obtain rfl:=Option.some.inj (atM.symm.trans hg0);obtain rfl:=Option.some.inj (atN.symm.trans ht0);obtain⟨xs,m1,rfl,hx1,hlen,hn3,hel⟩:=DataW.trod_array Tryz.underlying218 hd0;have c5:Tryz.prog.cellsOf 5=1:=by kernel_rfl
 have c155:Tryz.prog.cellsOf 218=32:=by kernel_rfl
 rw[c155]at hlen;simp only[Prod.mk.injEq]at hx1;have hD:(YtdhfcpbpdmmphaaGreatDoor.Rows.laid_math_bits_deBruijn32tab:DataW Unit)=.agg (Lib.deBruijn32tab.map fun(k:Nat)=>.lit (.int .u8 (k:Int))):=rfl;have hmap:xs.map (·.1)=Lib.deBruijn32tab.map fun(k:Nat)=>(.lit (.int .u8 (k:Int)):DataW Unit):=by
  have:=hD.symm.trans hx1.1;simpa using this.symm
 have key:∀i,i<32->cs0[i]?=some (.int .u8 (Lib.deBruijn32tab.getD i 0:Nat)):=fun i hi=>by
  have h1:=hel i hi;rw[c5,Nat.mul_one]at h1;obtain⟨y,hy⟩:∃y,xs[i]?=some y:=⟨xs[i]'(by omega),by simp⟩;rw[hy]at h1;obtain⟨n,e1,e2,_⟩:=DataW.trod_int Tryz.underlying5 h1;have h2:(xs.map (·.1))[i]?=some y.1:=by simp[hy]
  rw[hmap,List.getElem?_map]at h2;have h3:Lib.deBruijn32tab[i]?=some (Lib.deBruijn32tab.getD i 0):=by
   rw[List.getD_eq_getElem?_getD,List.getElem?_eq_getElem (show i<Lib.deBruijn32tab.length from hi)];rfl
  rw[h3,e2]at h2;simp only[ayT,Option.some.injEq,DataW.lit.injEq,Lit.int.injEq,true_and]at h2;have h4:cs0.toList[i]?=some (.int .u8 n):=by
   have:=congrArg (·[0]?) e1;simpa [List.getElem?_take,List.getElem?_drop]using this
  rw[h2];simpa using h4
 refine⟨fun j hj=>?_,fun o v hv=>?_⟩
 ·rw[World.var?_cell hg0 hv0 j];exact key j hj
 ·rw[World.var?_cell hg0 hv0 o]at hv;have ho:o<32:=by
   have:=(Array.getElem?_eq_some_iff.1 hv).1;have h2:cs0.size=32:=by simpa using hlen
   omega
  rw[key o ho]at hv;exact⟨_,(Option.some.inj hv).symm⟩
theorem It(id:Nat)(sub:Option Nat):¬live (aq []) id sub:=by
 have hd:aq [] id=.dead:=by
  unfold aq;split<;>simp
 cases sub with
 |none=>simp[live,hd]
 |some p=>simp[live,hd]
def X0(_:Nat):Prop:=False
def aiK:ey:=fun _ _=>(0,0)
theorem atO{W:World}(hs:0<W.heap.size):Rel W X0 aiK (aq []) where
 inj id sub id' sub' h:=(It id sub h).elim
 nx id sub h:=(It id sub h).elim
 ob id:=by
  have hd:aq [] id=.dead:=by
   unfold aq;split<;>simp
  rw[hd];trivial
 xl b hb:=by rcases hb with hb|rfl;exact hb.elim;exact hs
theorem atP{W:World}{b:Nat}(h:I2 W b):aI W X0 (aq []) aiK b:=⟨h,fun hx=>hx,fun⟨id,sub,hl,_⟩=>It id sub hl⟩
theorem aiL(n:Nat)(h:ac)(b:Bool):mat n h (B b)=(B b,h):=rfl
theorem agj{f:Nat}{fn:Func}(_hf:Tryz.prog.funcs[f]?=some fn)(_hn: (fn.name== "runtime.NumGoroutine")=false)(_hb:fn.body.isSome=true){args:List AV}{vals:Array Value}{W:World}(hL:laidMetH Tryz.prog Is W)(hz:R f args []=some (B true,[]))(hs:vals.size=args.length)
  (hv:∀ (i:Nat) (c:AV) (u:Value),args[i]?=some c->vals[i]?=some u->RD W (I2 W) c u) (he:(callFunc f vals).run Tryz.prog W=.ok (.enter f vals) W):
  Calls Tryz.prog f vals W fun e W'=>e=.returned (.bool true)/\Below W.heap.size W W':=by
 obtain⟨h1,h2⟩:=agi hL;have hs0:0<W.heap.size:=by
  have:=h1 0 δ;unfold World.cell? at this;split at this
  ·rename_i hb;exact(Array.getElem?_eq_some_iff.1 hb).1
  ·cases this
 have key:=Zr apU f (args:=args) (obs:=[]) (obs':=[]) (res:=B true) (w:=W) (X:=X0) (ρ:=aiK) (vals:=vals) (n:=2000) hz (ayd _) h1 (atO hs0) hs fun i c u hc hu=>.dat ((hv i c u hc hu).mono fun b hb=>⟨atP hb,rfl⟩);unfold Enters at key;rw[he]at key;refine Calls.mono key fun e W' hw=>?_;cases e with
 |returned v=>
  obtain⟨ρ',r,far,rv⟩:=hw;rw[aiL]at rv far;obtain⟨rfl,_⟩:=rv.v_inv;exact⟨rfl,far.os,far.tape,far.output,far.size,fun k hk=>far.old k hk fun⟨id,sub,hl,_⟩=>It id sub hl⟩
 |_=>exact hw.elim
def rq(w:Bool)(M d:Nat):Nat:=if w=true/\M%2^d≠0 then M/2^d+1 else M/2^d
def dR(M n j:Nat):Nat:=if af M<=n+j then j else af M-n
theorem alt{w:Bool}{M M' d:Nat}(h:M<=M'):rq w M d<=rq w M' d:=by
 have h1:=ay4 M (2^d);have h3:=ay4 M' (2^d);have h5:M/2^d<=M'/2^d:=Nat.div_le_div_right h;grind[rq,Nat.eq_or_lt_of_le]
theorem apV{w:Bool}{M d e:Nat}(h:M<2^ (d+e)):rq w M d<=2^e:=by
 have h1:M/2^d<2^e:=by
  rw[Nat.div_lt_iff_lt_mul (ayr d),←ayn,Nat.add_comm];omega
 grind[rq]
theorem ajm(M n j:Nat):j<=dR M n j/\af M<=n+dR M n j:=by
 grind[dR]
theorem aiM{M j n:Nat}{w:Bool}(hn:8<=n):cB M (-16384- (j:Int)) false (n:Int) w=sf n w (rq w M (dR M n j)) ((dR M n j:Int)-j-16384):=by
 have hu:ej M (-16384- (j:Int)) (n:Int)=(dR M n j:Int)-j-16384:=by
  grind[ej,dR]
 unfold cB;have hq:nO M (-16384- (j:Int)) false ((dR M n j:Int)-j-16384)=(M/2^dR M n j,decide (M%2^dR M n j≠0)):=by
  unfold nO;generalize dR M n j=d;by_cases h:d=0
  ·subst h;grind
  grind
 grind[lD,rq]
theorem Zb{q d T:Nat}(hq:q≠0):T<af q+d↔2^T<=q*2^d:=by
 by_cases h:d<=T
 ·rw[show T<af q+d↔T-d<af q by omega,jK]
  conv=>rhs;rw[show T=(T-d)+d by omega,ayn]
  simp_all[Nat.mul_le_mul_right_iff,ayr]
 ·refine⟨fun _=>?_,fun _=>by omega⟩;refine ayj (ayP δ (by omega:T<=d)) ?_;exact Nat.le_mul_of_pos_left _ ω
theorem anO{q n k:Nat}(h:q<=2^n)(hk:n<k):af q<=k:=bD.2 (ayS h (Nat.pow_lt_pow_right δ hk))
theorem apW{w:Bool}{M n j:Nat}(hn:n<=512):af (rq w M (dR M n j))<=4096/\(w=false->rq w M (dR M n j)<2^n):=by
 have k:=ajm M n j;have k5:M<2^af M:=bD.1 (ayd _);have k6:M<2^ (dR M n j+n):=ay8 k5 (ayP δ ω);have h1:=apV (w:=w) k6;refine⟨anO h1 ω,?_⟩
 simp_all[rq,if_neg,Nat.div_lt_iff_lt_mul,ayr,ayn,Nat.add_comm]
theorem alu{M j n:Nat}{w:Bool}(h0:M≠0)(hn:8<=n/\n<=512):
  (rq w M (dR M n j)*2^dR M n j<2^ (32768+j)->(cB M (-16384- (j:Int)) false (n:Int) w).2=0/\zI (cB M (-16384- (j:Int)) false (n:Int) w).1*2^j=((rq w M (dR M n j)*2^dR M n j:Nat):Int))/\
  (2^ (32768+j)<=rq w M (dR M n j)*2^dR M n j->(w=true->(cB M (-16384- (j:Int)) false (n:Int) w).2≠0)/\
   (w=false->(cB M (-16384- (j:Int)) false (n:Int) w).2=0/\zI (cB M (-16384- (j:Int)) false (n:Int) w).1=(((2^n-1)*2^ (32768-n):Nat):Int))):=by
 have k:=ajm M n j;obtain⟨b1,_⟩:=apW (w:=w) (M:=M) (j:=j) hn.2;rw[aiM hn.1];have hq0:rq w M (dR M n j)=0->¬32768+j<af (rq w M (dR M n j))+dR M n j:=fun h=>by
  rw[h,show af 0=0 from rfl];have hM:M<2^dR M n j:=by
   unfold rq at h;split at h
   all_goals simp_all
  have h3:af M<=dR M n j:=bD.2 hM;unfold dR at h3⊢;grind
 generalize hd:dR M n j=d at*
 generalize rq w M d=q at*
 have ov:16384< (af q:Int)+((d:Int)-j-16384)↔2^ (32768+j)<=q*2^d:=by
  by_cases hq:q=0
  ·subst hq;have h5:=ayr (32768+j);constructor<;>intro h6<;>omega
  ·rw[←Zb hq];omega
 unfold sf;constructor
 ·intro h;have h1:¬16384< (af q:Int)+((d:Int)-j-16384):=fun hc=>by
   omega
  rw[if_neg h1];have hc:=EC (neg:=false) (M:=q) (e:=(d:Int)-j-16384) b1 ω ω;have h2:(cH (bk false q ((d:Int)-j-16384))).2=0:=by rw[hc]
  refine⟨h2,?_⟩;rw[Kn ω h2,show((d:Int)-j-16384+16384).toNat=d-j by omega,show(2:Int)^j=((2^j:Nat):Int)by simp,←Int.natCast_mul,ayD,←ayn,show d-j+j=d by omega]
 ·intro h;have h1:=ov.2 h;rw[if_pos h1];constructor
  ·rintro rfl
   simp
  ·rintro rfl
   rw[if_neg σ];have hp1:2^n-1<2^n:=by have:=ayr n;omega
   have hb:af (2^n-1)<=n:=bD.2 hp1;have hc:=EC (neg:=false) (M:=2^n-1) (e:=16384- (n:Int)) ω ω ω;have h2:(cH (bk false (2^ ((n:Int)).toNat-1) (16384- (n:Int)))).2=0:=by rw[ayk,hc]
   refine⟨h2,?_⟩;rw[Kn ω h2,ayk,show(16384- (n:Int)+16384).toNat=32768-n by omega]
theorem anP{M j n:Nat}{w:Bool}(h0:M≠0)(hn:8<=n/\n<=512)(h:(cB M (-16384- (j:Int)) false (n:Int) w).2=0):0<=zI (cB M (-16384- (j:Int)) false (n:Int) w).1:=by
 obtain⟨k,h1,_⟩:=Ie (s:=0) (t:=j) h0 (p:=n) ω ω (fun h=>absurd h ayl) h;omega
theorem alv{z f p:Int}{up:Bool}(h:z<0):iV z f p up=gI true (cB z.natAbs f false p (!up)):=by
 unfold iV;rw[if_neg ω,decide_eq_true h]
 simp_all
theorem alx{z f p:Int}{up:Bool}(h:0<z):iV z f p up=cB z.natAbs f false p up:=by
 unfold iV;rw[if_neg ω,decide_eq_false ω]
 simp_all[gI,if_neg]
theorem anQ{M:Nat}{f p:Int}{w:Bool}:(gI true (cB M f false p w)).2=(cB M f false p w).2/\((cB M f false p w).2=0->zI (gI true (cB M f false p w)).1=-zI (cB M f false p w).1):=by
 unfold gI;by_cases h:(cB M f false p w).2=0
 all_goals simp_all[if_pos,yM,Rb,if_neg,absurd]
theorem ajn{f p:Int}{up:Bool}:iV 0 f p up=(aH,0):=by simp_all[iV,if_pos]
theorem X4{a b:Rd}{p:Int}(va:vd a=true)(vb:vd b=true)(hp:bG p=true):aZ p [a,b]=0/\∃n:Nat,p=n/\8<=n/\n<=512:=by
 have hp2:8<=p/\p<=512:=by
  simp_all[bG,ayf,decide_eq_true_eq]
 refine⟨by grind[aZ],p.toNat,by omega,by omega,by omega⟩
def Sb(x y:Ri):Prop:=(∃q,In q x)/\(y=dm\/x.all=false/\y.all=false/\(∃q,In q y)/\zI y.lo<=zI x.lo/\zI x.hi<=zI y.hi)
theorem Sb.ins{x y:Ri}(h:Sb x y):lS x y=true:=by
 obtain⟨⟨q,hx⟩,rfl| ⟨h1,h2,⟨r,hy⟩,h3,h4⟩⟩:=h
 ·unfold lS;have:=hx.v;split
  ·rfl
  ·rw[this];rfl
 ·unfold lS;rw[if_pos ⟨hx.v,hy.v,h1⟩];grind
theorem apX{x:Ri}(h:∃q,In q x)(ha:x.all=false):kI x=true:=by
 obtain⟨q,h⟩:=h;unfold kI;rw[ha,h.v];rfl
theorem agk{a b:List Nat}(h:lm a=lm b):a=b:=by
 unfold lm aB at h;grind[List.map_inj_right]
theorem aly{x y:Ri}(h:am x=am y):x=y:=by
 unfold am ap at h;simp only[AV.agg.injEq,List.cons.injEq,AV.v.injEq,Value.bool.injEq,Value.int.injEq,true_and,and_true]at h;obtain⟨h1,g2,h3,h4,g5,h6,h7⟩:=h;have h2:=agk g2;have h5:=agk g5;obtain⟨⟨a1,a2,a3⟩,⟨a4,a5,a6⟩,a7⟩:=x
 simp_all
theorem X5{a:Rp}{dom:List Ri}{p:Int}(oa:OkP a)(od:∀x∈dom,OkI x)(h2:dom.length<=100000)(hd:nP a dom=true):∃b,KG a dom p=Im a dom p b/\∀xs ts:List Rat,uq dom xs ts->In (fv xs a.terms) b:=by
 obtain⟨b,hB,hbr,_⟩:=XH oa od h2 (p:=p);have i2:=hbr _ _ (LC dom);have h3:=NV oa od h2 (p:=p) (b:=b) i2.ok (fun _=>hB);grind[LH,aly]
theorem anR{a:Rp}{dom:List Ri}{p:Int}(oa:OkP a)(od:∀x∈dom,OkI x)(h2:dom.length<=100000)(hd:nP a dom=true){xs ts:List Rat}(hpt:uq dom xs ts):In (fv xs a.terms) (iO a dom p):=by
 unfold iO;split
 ·rename_i h0;have e:a.terms=[]:=List.length_eq_zero_iff.1 h0;rw[e];have:=sn aU.1 aU.2;rwa[show qv aH=0 by unfold qv;rw[cO rfl];simp]at this
 ·obtain⟨b,hb,hbr⟩:=X5 (p:=p) oa od h2 hd;obtain⟨hv,hl,hk⟩:=PH od hd;rw[hb];unfold Im;split
  ·obtain⟨m1,m2⟩:=Ii (Ky (p:=p) oa (uq.inL hk hpt)) (hbr _ _ hpt);grind
  ·exact Or.inl rfl
theorem alz{a b:Rd}(va:vd a=true)(vb:vd b=true):zI a<=zI (kO a b):=by
 unfold kO;rw[Q1 va vb];rcases n8 (zI a) (zI b)with⟨g,e⟩| ⟨g,e⟩| ⟨g,e⟩<;>rw[e]<;>simp<;>omega
theorem alA{a b:Rd}(va:vd a=true)(vb:vd b=true):zI (kN a b)<=zI a:=by
 grind[kN,Q1,n8,zI]
theorem alB{x y:Ri}(hx:x.all=false){q:Rat}(ix:In q x)(iy:In q y):Sb (uk x y).1 x:=by
 obtain⟨m1,m2⟩:=Ii ix iy;refine⟨⟨q,m2⟩,Or.inr ?_⟩;have key:(uk x y).1.all=false/\zI x.lo<=zI (uk x y).1.lo/\zI (uk x y).1.hi<=zI x.hi:=by
  have vx:=ix.vi;have vy:=iy.vi;unfold uk at m1⊢;rw[ix.v,iy.v,ayK,if_pos rfl,hx,if_neg ayl]at m1⊢;split
  ·grind
  ·split
   ·exact⟨rfl,alz vx.1.1 vy.1.1,alA vx.2.1 vy.2.1⟩
   grind
 grind
theorem anS{a:Rp}{dom:List Ri}{p:Int}(oa:OkP a)(od:∀x∈dom,OkI x)(h2:dom.length<=100000)(hd:nP a dom=true)(hp:bG p=true)(h0:a.terms.length≠0)(hn:(pI a dom p).all=false):Sb (iO a dom p) (pI a dom p):=by
 unfold iO;obtain⟨b,hb,hbr⟩:=X5 (p:=p) oa od h2 hd;obtain⟨hv,hl,hk⟩:=PH od hd;have i1:=Ky (p:=p) oa (uq.inL hk (LC dom));have i2:=hbr _ _ (LC dom);rw[hb];unfold Im;rw[hd,hp,ayK,if_pos rfl,if_pos (Ii i1 i2).1];grind[alB]
theorem PN{a b:Rd}(va:vd a=true)(vb:vd b=true):(eW a b<0↔zI a<zI b)/\(0<eW a b↔zI b<zI a):=by
 rw[Q1 va vb];unfold cx;split
 ·omega
 ·split<;>omega
section
variable {dn up:Rd→Rd→Rd × Int} {pr:Nat→Rd × Rd}
abbrev FP(dn:Rd->Rd->Rd×Int)(pr:Nat->Rd×Rd)(j:Nat):Rd×Int:=dn (pr j).1 (pr j).2
theorem PO(okd:∀a b,vd (dn a b).1=true)(oku:∀a b,vd (up a b).1=true):∀ (k i:Nat) (o:Rd×Rd),vd o.1=true->vd o.2=true->(∀j,i<=j->j<i+k->(FP dn pr j).2=0/\(FP up pr j).2=0)->
  ∃q,wr dn up pr k i o=some q/\zI q.1<=zI o.1/\zI o.2<=zI q.2/\(∀j,i<=j->j<i+k->zI q.1<=zI (FP dn pr j).1/\zI (FP up pr j).1<=zI q.2)/\
   (q.1=o.1\/∃j,i<=j/\j<i+k/\q.1=(FP dn pr j).1)/\(q.2=o.2\/∃j,i<=j/\j<i+k/\q.2=(FP up pr j).1)
 |0,i,o,_,_,_=>⟨o,rfl,Int.le_refl _,Int.le_refl _,fun j h1 h2=>by omega,Or.inl rfl,Or.inl rfl⟩
 |k+1,i,o,v1,v2,h=>by
  have h0:=h i (ayd _) ω;unfold wr;rw[if_pos h0];have c1:=(PN (okd (pr i).1 (pr i).2) v1).1;have c2:=(PN (oku (pr i).1 (pr i).2) v2).2;have w1:=okd (pr i).1 (pr i).2;have w2:=oku (pr i).1 (pr i).2;obtain⟨q,q0,q1,q2,q3,q4,q5⟩:=PO okd oku k (i+1) (if eW (dn (pr i).1 (pr i).2).1 o.1<0 then(dn (pr i).1 (pr i).2).1 else o.1,if 0<eW (up (pr i).1 (pr i).2).1 o.2 then(up (pr i).1 (pr i).2).1 else o.2)
   (by simp only;split<;>assumption) (by simp only;split<;>assumption) fun j h1 h2=>h j ω ω
  have a1:zI q.1<=zI o.1/\zI q.1<=zI (FP dn pr i).1:=by
   simp only at q1;split at q1
   ·rename_i hc;have:=c1.1 hc;exact⟨by omega,q1⟩
   ·rename_i hc;have:=mt c1.2 hc;exact⟨q1,by show zI q.1<=zI (dn (pr i).1 (pr i).2).1;omega⟩
  have a2:zI o.2<=zI q.2/\zI (FP up pr i).1<=zI q.2:=by
   simp only at q2;split at q2
   ·rename_i hc;have:=c2.1 hc;exact⟨by omega,q2⟩
   ·rename_i hc;have:=mt c2.2 hc;exact⟨q2,by show zI (up (pr i).1 (pr i).2).1<=zI q.2;omega⟩
  refine⟨q,q0,a1.1,a2.1,fun j h1 h2=>?_,?_,?_⟩
  ·rcases Nat.eq_or_lt_of_le h1 with rfl|h3
   ·exact⟨a1.2,a2.2⟩
   ·exact q3 j h3 ω
  ·rcases q4 with q4| ⟨j,h1,h2,h3⟩
   ·simp only at q4;split at q4
    ·exact Or.inr ⟨i,ayd _,by omega,q4⟩
    ·exact Or.inl q4
   ·exact Or.inr ⟨j,by omega,by omega,h3⟩
  ·rcases q5 with q5| ⟨j,h1,h2,h3⟩
   ·simp only at q5;split at q5
    ·exact Or.inr ⟨i,ayd _,by omega,q5⟩
    ·exact Or.inl q5
   ·exact Or.inr ⟨j,by omega,by omega,h3⟩
theorem adh(okd:∀a b,vd (dn a b).1=true)(oku:∀a b,vd (up a b).1=true)(h:∀j,j<4->(FP dn pr j).2=0/\(FP up pr j).2=0):
  ∃q,qA dn up pr=some q/\(∀j,j<4->zI q.1<=zI (FP dn pr j).1/\zI (FP up pr j).1<=zI q.2)/\(∃j,j<4/\q.1=(FP dn pr j).1)/\∃j,j<4/\q.2=(FP up pr j).1:=by
 obtain⟨q,q0,q1,q2,q3,q4,q5⟩:=PO okd oku 3 1 ((dn (pr 0).1 (pr 0).2).1,(up (pr 0).1 (pr 0).2).1) (okd _ _) (oku _ _) fun j h1 h2=>h j ω;refine⟨q,?_,fun j hj=>?_,?_,?_⟩
 ·unfold qA;rw[if_pos (h 0 δ)];exact q0
 ·rcases Nat.eq_zero_or_pos j with rfl|h1
  ·exact⟨q1,q2⟩
  ·exact q3 j h1 ω
 ·rcases q4 with q4| ⟨j,h1,h2,h3⟩
  ·exact⟨0,by decide,q4⟩
  ·exact⟨j,by omega,h3⟩
 ·rcases q5 with q5| ⟨j,h1,h2,h3⟩
  ·exact⟨0,by decide,q5⟩
  ·exact⟨j,by omega,h3⟩
end
theorem ajo{x:Ri}(h:∃q,In q x)(ha:x.all=false):zI x.lo<=zI x.hi:=by
 obtain⟨q,rfl| ⟨_,_,h1,h2⟩⟩:=h
 ·cases ha
 ·exact Ao.1 (Rat.le_trans h1 h2)
theorem apY{x y:Ri}(hx:VI x)(hy:VI y)(i:Nat):vd (gw x y i).1=true/\vd (gw x y i).2=true:=by
 unfold gw;split
 ·exact⟨hx.1.1,hy.1.1⟩
 ·exact⟨hx.1.1,hy.2.1⟩
 ·exact⟨hx.2.1,hy.1.1⟩
 ·exact⟨hx.2.1,hy.2.1⟩
theorem atQ{d:Rd}{p:Int}{n:Nat}{up:Bool}:vd (pw d n p up).1=true:=by
 unfold pw;exact(Ut _ _ Kt).1
theorem PP{d:Rd}(v:vd d=true):vd (si d)=true/\zI (si d)=((zI d).natAbs:Int):=by
 unfold si;by_cases h:d.m.length=0
 ·rw[if_pos (Or.inr h),cO h];exact⟨rfl,cO rfl⟩
 ·refine⟨?_,?_⟩
  ·simp_all[vd,if_neg]
  grind[zI,mg]
theorem ajp{d:Rd}(v:vd d=true):(0<cQ d↔0<zI d)/\(cQ d<0↔zI d<0):=by
 have h0:d.m.length=0->zI d=0:=cO;have hp:d.m.length≠0->0<mg d:=fun h=>by
  exact Nat.mul_pos (by grind[G2]) (ayr _)
 unfold cQ;by_cases h:d.m.length=0
 ·omega
 ·grind[zI]
theorem apZ{x:Ri}(h:VI x)(hle:zI x.lo<=zI x.hi):vd (Bj x)=true/\zI (Bj x)=(if 0<zI x.lo then zI x.lo else if zI x.hi<0 then-zI x.hi else 0):=by
 obtain⟨a1,a2⟩:=PP h.1.1;obtain⟨b1,b2⟩:=PP h.2.1;obtain⟨s1,s2⟩:=ajp h.1.1;obtain⟨t1,t2⟩:=ajp h.2.1;have c:=PN a1 b1;unfold Bj Ka kN;by_cases k1:0<zI x.lo
 ·grind
 ·rw[if_neg (mt s1.1 k1),if_neg k1];by_cases k2:zI x.hi<0
  ·grind
  ·rw[if_neg (mt t2.1 k2),if_pos rfl,if_neg k2];exact⟨rfl,cO rfl⟩
theorem ap0{x:Ri}(h:VI x):vd (H6 x)=true/\zI (H6 x)=(if(zI x.lo).natAbs<=(zI x.hi).natAbs then((zI x.hi).natAbs:Int)else(zI x.lo).natAbs):=by
 obtain⟨a1,a2⟩:=PP h.1.1;obtain⟨b1,b2⟩:=PP h.2.1;have c:=PN a1 b1;grind[H6,kO]
theorem atS{w:Bool}{T d:Nat}(h:d<=T):rq w (2^T) d=2^ (T-d):=by
 have e:2^T=2^ (T-d)*2^d:=by rw[←ayn];grind
 simp_all[rq,if_neg,Nat.mul_mod_left,Nat.mul_div_cancel,ayr]
theorem agl{M j n m:Nat}{w:Bool}(h0:M≠0)(hn:8<=n/\n<=512)(hm:m<16384)(h:M<=2^ (16384+m+j)):
  (cB M (-16384- (j:Int)) false (n:Int) w).2=0/\0<=zI (cB M (-16384- (j:Int)) false (n:Int) w).1/\zI (cB M (-16384- (j:Int)) false (n:Int) w).1<=((2^ (16384+m):Nat):Int):=by
 have hd:dR M n j<=16384+m+j:=by
  have:=bD.2 (ayS h (Nat.pow_lt_pow_right δ (Nat.lt_succ_self _)));unfold dR;split<;>omega
 have h1:rq w M (dR M n j)*2^dR M n j<=2^ (16384+m+j):=by
  refine ayj (aym _ (alt h)) ?_;rw[atS hd,←ayn];exact ayP δ ω
 obtain⟨c1,c2⟩:=(alu (w:=w) (j:=j) h0 hn).1 (ayS h1 (Nat.pow_lt_pow_right δ ω));have c3:=anP (w:=w) (j:=j) h0 hn c1;refine⟨c1,c3,?_⟩;have h2:zI (cB M (-16384- (j:Int)) false (n:Int) w).1*((2^j:Nat):Int)<=((2^ (16384+m):Nat):Int)*((2^j:Nat):Int):=by
  rw[←Int.natCast_mul,←ayn];refine Int.le_trans (Int.le_of_eq ?_) (Int.ofNat_le.2 h1);rw[←c2];simp
 exact Int.le_of_mul_le_mul_right h2 (Int.ofNat_lt.2 (ayr j))
theorem X6{z:Int}{j n m:Nat}{up:Bool}(hn:8<=n/\n<=512)(hm:m<16384)(h:z.natAbs<=2^ (16384+m+j)):
  (iV z (-16384- (j:Int)) n up).2=0/\(zI (iV z (-16384- (j:Int)) n up).1).natAbs<=2^ (16384+m):=by
 rcases Int.lt_trichotomy z 0 with a|rfl|a
 ·rw[alv a];obtain⟨s1,s2⟩:=anQ (M:=z.natAbs) (f:=-16384- (j:Int)) (p:=n) (w:=!up);obtain⟨b1,b2,b3⟩:=agl (w:=!up) (show z.natAbs≠0 by omega) hn hm h;omega
 ·simp_all[ajn,cO,aH,ayB]
 ·rw[alx a];obtain⟨b1,b2,b3⟩:=agl (w:=up) (show z.natAbs≠0 by omega) hn hm h;omega
def Ld(m:Nat)(d:Rd):Prop:=(zI d).natAbs<=2^ (16384+m)
theorem Ld.up{m k:Nat}{d:Rd}(h:Ld m d)(hk:m<=k):Ld k d:=ayj h (ayP δ ω)
theorem aaV{a b:Rd}{p:Int}{m:Nat}{up:Bool}(va:vd a=true)(vb:vd b=true)(hp:bG p=true)(hm:m+1<16384)(ha:Ld m a)(hb:Ld m b):(du a b p up).2=0/\Ld (m+1) (du a b p up).1:=by
 obtain⟨f1,n,rfl,hn⟩:=X4 va vb hp;unfold du;rw[if_pos f1];refine X6 (j:=0) hn hm ?_;unfold Ld at ha hb;have e:2^ (16384+(m+1)+0)=2^ (16384+m)+2^ (16384+m):=by rw[ayF,←Nat.add_assoc,ayZ];omega
 omega
theorem aaW{a b:Rd}{p:Int}{m k:Nat}{up:Bool}(va:vd a=true)(vb:vd b=true)(hp:bG p=true)(hm:m+k<16384)(ha:Ld m a)(hb:Ld k b):(fJ a b p up).2=0/\Ld (m+k) (fJ a b p up).1:=by
 obtain⟨f1,n,rfl,hn⟩:=X4 va vb hp;unfold fJ;rw[if_pos f1];refine X6 (j:=16384) hn hm ?_;rw[Int.natAbs_mul,show 16384+(m+k)+16384=(16384+m)+(16384+k)by omega,ayn];exact Nat.mul_le_mul ha hb
theorem alC{a:Rd}{p:Int}{m:Nat}{up:Bool}(va:vd a=true)(hp:bG p=true)(hm:m<16384)(ha:Ld m a):(bZ a p up).2=0/\Ld m (bZ a p up).1:=by
 have hp2:=vo hp;unfold bZ;rw[if_pos (by grind[aZ])];obtain⟨n,rfl⟩:∃n:Nat,p=n:=⟨p.toNat,by omega⟩;exact X6 (j:=0) ω hm ha
theorem agm{a:Rd}{p:Int}{up:Bool}(va:vd a=true)(hp:bG p=true)(ha:Ld 0 a):∀ (k:Nat) (r:Rd×Int),vd r.1=true->r.2=0->Ld 0 r.1->(mL a p up k r).2=0/\Ld 0 (mL a p up k r).1
 |0,r,_,h1,h2=>⟨h1,h2⟩
 |k+1,r,vr,h1,h2=>by
  unfold mL;rw[if_pos h1];obtain⟨m1,m2⟩:=aaW (up:=up) vr va hp δ h2 ha;exact agm va hp ha k _ Ku.1 m1 m2
theorem ap1{a:Rd}{p:Int}{n:Nat}{up:Bool}(va:vd a=true)(hp:bG p=true)(ha:Ld 0 a):(pw a n p up).2=0/\Ld 0 (pw a n p up).1:=by
 obtain⟨m1,m2⟩:=alC (up:=up) va hp δ ha;exact agm va hp ha _ _ Kt.1 m1 m2
theorem aaX{a:Rd}{p:Int}{n:Nat}{up:Bool}(va:vd a=true)(hp:bG p=true)(ha:Ld 0 a):(rj a n p up).2=0/\Ld 0 (rj a n p up).1:=by
 grind[rj,ap1,Ld,gW,g1,Int.natAbs_neg,yM,atQ]
structure Bd (m:Nat) (x:Ri):Prop where
 i:∃q,In q x
 a:x.all=false
 l:Ld m x.lo
 h:Ld m x.hi
theorem Bd.up{m k:Nat}{x:Ri}(h:Bd m x)(hk:m<=k):Bd k x:=⟨h.i,h.a,h.l.up hk,h.h.up hk⟩
theorem Bd.v{m:Nat}{x:Ri}(h:Bd m x):VI x:=h.i.elim fun _ h=>h.vi
theorem Bd.k{m:Nat}{x:Ri}(h:Bd m x):kI x=true:=apX h.i h.a
theorem RI{x y:Ri}{p:Int}{m:Nat}(hp:bG p=true)(hm:m+1<16384)(hx:Bd m x)(hy:Bd m y):Bd (m+1) (eG x y p):=by
 obtain⟨q,ix⟩:=hx.i;obtain⟨r,iy⟩:=hy.i;have hi:=ww (p:=p) ix iy;obtain⟨a1,a2⟩:=aaV (up:=false) ix.vi.1.1 iy.vi.1.1 hp hm hx.l hy.l;obtain⟨a3,a4⟩:=aaV (up:=true) ix.vi.2.1 iy.vi.2.1 hp hm hx.h hy.h;have e:eG x y p=⟨(du x.lo y.lo p false).1,(du x.hi y.hi p true).1,false⟩:=by
  unfold eG ui;rw[hx.k,hy.k,hp,ayK,ayK,if_pos rfl,if_pos ⟨a1,a3⟩]
 rw[e]at hi⊢;exact⟨⟨_,hi⟩,rfl,a2,a4⟩
theorem aaY{x y:Ri}{p:Int}{m k:Nat}(hp:bG p=true)(hm:m+k<16384)(hx:Bd m x)(hy:Bd k y):Bd (m+k) (iu x y p):=by
 obtain⟨q,ix⟩:=hx.i;obtain⟨r,iy⟩:=hy.i;have hi:=Br (p:=p) ix iy;have lx:∀i,Ld m (gw x y i).1:=fun i=>by unfold gw;split;exact hx.l;exact hx.l;exact hx.h;exact hx.h
 have ly:∀i,Ld k (gw x y i).2:=fun i=>by unfold gw;split;exact hy.l;exact hy.h;exact hy.l;exact hy.h
 have key:∀i up,(fJ (gw x y i).1 (gw x y i).2 p up).2=0/\Ld (m+k) (fJ (gw x y i).1 (gw x y i).2 p up).1:=fun i up=>by
  obtain⟨v1,v2⟩:=apY ix.vi iy.vi i;grind[aaW]
 obtain⟨t,t0,_,⟨j,_,t1⟩,j',_,t2⟩:=adh (dn:=fun a b=>fJ a b p false) (up:=fun a b=>fJ a b p true) (pr:=gw x y) (fun a b=>Ku.1) (fun a b=>Ku.1) fun i _=>⟨(key i false).1,(key i true).1⟩;have e:iu x y p=⟨t.1,t.2,false⟩:=by
  unfold iu;rw[hx.k,hy.k,hp,ayK,ayK,if_pos rfl,t0];rfl
 rw[e]at hi⊢;refine⟨⟨_,hi⟩,rfl,?_,?_⟩
 all_goals grind
theorem KM{n:Bool}{k:Nat}:zI ⟨n,[1],(k:Int)⟩=bE n (2^ (16384+k)):=by
 have h1:zI ⟨n,[1],(k:Int)⟩=bE n (mg ⟨n,[1],(k:Int)⟩):=rfl;rw[h1];unfold mg;rw[show((k:Int)+16384).toNat=16384+k by omega]
 simp_all[ab,Nat.one_mul]
theorem alD{n:Bool}{a:Nat}:(bE n a).natAbs=a:=by
 grind[bE]
theorem anT{n:Bool}{k:Nat}:Ld k ⟨n,[1],(k:Int)⟩:=by
 simp_all[Ld,KM,alD,ayd]
theorem PQ:Ld 0 one:=anT (k:=0)
theorem RJ{x:Ri}{n:Nat}{p:Int}(hp:bG p=true)(h16:n<=16)(hx:Bd 0 x):Bd 0 (EE x n p):=by
 obtain⟨q,ix⟩:=hx.i;have hi:=Lw (n:=n) (p:=p) ix;have e0:=hx.k;unfold EE at hi⊢;rw[if_pos (by rw[e0,hp];simp[h16])]at hi⊢;by_cases h0:n=0
 ·rw[if_pos h0]at hi⊢;exact⟨⟨_,hi⟩,rfl,PQ,PQ⟩
 ·rw[if_neg h0]at hi⊢;have hX:(vd (if n%2=0 then vf x else x).lo=true/\vd (if n%2=0 then vf x else x).hi=true)/\Ld 0 (if n%2=0 then vf x else x).lo/\Ld 0 (if n%2=0 then vf x else x).hi:=by
   have b1:=hx.l;have b2:=hx.h;split
   ·unfold vf;obtain⟨m1,m2⟩:=apZ ix.vi (ajo hx.i hx.a);obtain⟨g1,g2⟩:=ap0 ix.vi;grind[Ld,b2,g1,zI,Bj,H6]
   ·exact⟨⟨ix.vi.1.1,ix.vi.2.1⟩,b1,b2⟩
  obtain⟨⟨v1,v2⟩,l1,l2⟩:=hX;obtain⟨a1,a2⟩:=aaX (n:=n) (up:=false) v1 hp l1;obtain⟨a3,a4⟩:=aaX (n:=n) (up:=true) v2 hp l2;unfold ui at hi⊢;rw[if_pos ⟨a1,a3⟩]at hi⊢;exact⟨⟨_,hi⟩,rfl,a2,a4⟩
theorem alE{x:Ri}{n:Nat}{p:Int}(hp:bG p=true)(h16:n<=32)(hx:Bd 0 x):Bd 0 (EF x n p):=by
 unfold EF;split
 ·grind[RJ]
 ·exact aaY (m:=0) (k:=0) hp δ (RJ hp ω hx) (RJ hp ω hx)
theorem agn{p:Int}{m:Nat}(hp:bG p=true)(hm:m<16384):∀ (ds:List Ri) (es:List Int) (x:Ri),(∀d∈ds,Bd 0 d)->(∀e∈es,e<=32)->Bd m x->Bd m (Kd p ds es x)
 |[],es,x,_,_,h=>by cases es<;>exact h
 |d::ds,[],x,_,_,h=>h
 |d::ds,e::es,x,hd,he,h=>by
  refine agn hp hm ds es _ (fun i hi=>hd i γ) (fun i hi=>he i γ) ?_;split
  ·have:=he e σ;exact aaY (m:=m) (k:=0) hp hm h (alE hp ω (hd d σ))
  omega
theorem ago{p:Int}{ds:List Ri}{m:Nat}(hp:bG p=true)(hd:∀d∈ds,Bd 0 d):∀ (l:List Rt) (k:Nat) (s:Ri),m+k+l.length<16384->(∀t∈l,vd t.c=true/\Ok0 t.c/\Ld m t.c/\∀e∈t.exps,e<=32)->Bd (m+k) s->Bd (m+k+l.length) (Pi p ds l s)
 |[],_,_,_,_,h=>h
 |t::l,k,s,hl,ht,h=>by
  show Bd _ (Pi p ds l (eG s (Kd p ds t.exps ⟨t.c,t.c,false⟩) p));obtain⟨c1,c2,c3,c4⟩:=ht t σ;have hl2:m+k+(l.length+1)<16384:=hl;have:=ago hp hd l (k+1) _ ω (fun t ht'=>ht t γ) (RI (m:=m+k) hp ω h ((agn hp ω ds t.exps _ hd c4 ⟨⟨_,sn c1 c2⟩,rfl,c3,c3⟩).up (Nat.le_add_right m k)));grind
theorem so{m:Nat}:Bd m bN:=by
 have h:Ld m aH:=by unfold Ld;rw[cO rfl];grind
 exact⟨⟨_,sn aU.1 aU.2⟩,rfl,h,h⟩
theorem Sb.bd{m:Nat}{x y:Ri}(h:Sb x y)(hy:Bd m y):Bd m x:=by
 obtain⟨i,rfl| ⟨h1,h2,_,h3,h4⟩⟩:=h
 ·cases hy.a
 ·have:=ajo i h1;have l1:=hy.l;have l2:=hy.h;unfold Ld at l1 l2;refine⟨i,h1,?_,?_⟩<;> (unfold Ld;generalize 2^ (16384+m)=T at*;omega)
inductive Mrg:List Rt->List Rt->List Rt->Prop
 |nil:Mrg [] [] []
 |left {A r1 r2:List Rt} {t:Rt}:Mrg A r1 r2->Mrg (t::A) (t::r1) r2
 |right {A r1 r2:List Rt} {t:Rt}:Mrg A r1 r2->Mrg (t::A) r1 (t::r2)
 |both {A r1 r2:List Rt} {t:Rt} {c d:Rd}:Mrg A r1 r2->je c d=(t.c,0)->Mrg (t::A) (⟨t.exps,c⟩::r1) (⟨t.exps,d⟩::r2)
theorem Mrg.mem{A r1 r2:List Rt}(h:Mrg A r1 r2):(∀y∈r1,∃t∈A,y.exps=t.exps)/\∀y∈r2,∃t∈A,y.exps=t.exps:=by
 induction h with
 |nil=>grind
 |left h ih=>
  grind
 |right h ih=>
  grind
 |both h _ ih=>
  grind
def nT(v i:Nat):List Int:=(lF v).set i 1
def RF(v i:Nat):Rp:=⟨v,[⟨nT v i,one⟩]⟩
theorem NZ(v i:Nat):(nT v i).length=v:=by simp[nT,lF]
theorem XQ{v i:Nat}(h:i<v):bj (nT v i)=1:=by
 have:=aaO (l:=lF v) (i:=i) (by grind[lF]);grind[Ru,inc,lF,nT]
theorem af4{v i:Nat}(h8:v<=8)(h:i<v):VT v ⟨nT v i,one⟩:=by
 refine⟨dN.2,by grind[nT,NZ],by omega,dN.1,(by show(1:Nat)≠0;decide),fun e he=>?_,by grind[XQ]⟩;rcases List.mem_or_eq_of_mem_set he with h|rfl
 ·exact ai8 e h
 omega
theorem af5{v:Nat}{i:Int}:R F.poly_Var [I v,I i] []=some (if v<=8/\0<=i/\i<v then pV (RF v i.toNat,0)else pV (p0,2),[]):=by
 refine au acg rfl ?_;have e1:((v:Int)<0)=False:=ff;by_cases g:v<=8/\0<=i/\i<v
 ·rw[if_pos g];obtain⟨h8,g1,g2⟩:=g;obtain⟨n,rfl⟩:=aze g1;have hn:n<v:=ω
  have e2:(8< (v:Int))=False:=ff;have e3:((n:Int)<0)=False:=ff;have e4:((v:Int)<=(n:Int))=False:=ff;have z1:nU (.v (.int .i64 (v:Int))) (.v (.int .i64 (v:Int)))=some (v,v):=by
   grind[nU]
  have z2:(v*8<=140737488355328)=True:=tt;have he:=Bp (v:=v);have h1:=Kb;simp only[ae,ah]at h1;have ei:Int.toNat (n:Int)=n:=ayk _;have k0:(aO (lF v)).set n [I 1]=aO (nT v n):=aag _ _ _;have k3:(aO (lF v))[n]?=some [I 0]:=by grind[aO,lF]
  have e7:(0<=(n:Int)/\(n:Int)< (v:Int))=True:=eq_true ⟨by omega,by omega⟩;simp only[tr,zz,go_sem,e1,e2,e3,e4,h1,he,pM,z1,z2,Xw,e7,ei,k0,k3,ayc];have k1:(v<=(nT v n).length)=True:=eq_true (by simp_all[NZ,ayd]);have k2:(aO (nT v n)).take v=aO (nT v n):=ayt (by simp_all[Dw,NZ,ayd]);simp only[k1,k2,go_sem];have hadd:=dy (aS.1.2.1 false) rfl (pK (d:=34) (id:=2240) (v:=v) (e:=0) (e':=0) (c:=.emp) (l:=[]) (x:=nT v n) (q:=one) (h:=upd (upd (upd (upd (upd (fun _=>.dead) 4 (.bx [I 0,.emp])) 25 (.ar 1 (aO (lF v)))) 25 (.ar 1 (aO (nT v n)))) 2240 (.bx [I v,.emp,I 0])) 25 (.fz 1 (aO (nT v n)))) rfl (.inr ⟨rfl,rfl⟩) (.inl rfl) (NM (af4 h8 hn)));simp only[ae,ah,t3]at hadd;simp only[hadd,go_sem];obtain⟨o,hdn⟩:=Cj (v:=v) (e:=0) (c:=.osl 4 (aJ [⟨nT v n,one⟩])) (l:=[⟨nT v n,one⟩]) (d:=36) (id:=2240) (h:=upd (upd (upd (upd (upd (upd (fun _=>.dead) 4 (.bx [I 0,.emp])) 25 (.ar 1 (aO (lF v)))) 25 (.ar 1 (aO (nT v n)))) 2240 (.bx [I v,.emp,I 0])) 25 (.fz 1 (aO (nT v n)))) 2240 (.bx [I v,.osl 4 (aJ [⟨nT v n,one⟩]),I 0])) rfl (.inl rfl) rfl;have hd':=dy (br.1.2.1 false) rfl hdn;rw[hd'];have e4:tL v (some [⟨nT v n,one⟩])=(RF v n,0):=rfl;have e5:=GZ [⟨nT v n,one⟩];rw[e4];simp only[pV,aT,e5,go_sem]
 ·rw[if_neg g];by_cases g1:v<=8
  ·have e2:(8< (v:Int))=False:=ff;by_cases g2:0<=i
   ·have e3:(i<0)=False:=ff;have e4:((v:Int)<=i)=True:=tt;simp only[tr,zz,go_sem,e1,e2,e3,e4];rfl
   ·have e3:(i<0)=True:=tt;simp only[tr,zz,go_sem,e1,e2,e3];rfl
  ·have e2:(8< (v:Int))=True:=tt;simp only[tr,zz,go_sem,e1,e2];rfl
noncomputable def yv (s:Rs) (i:Int):Rm:=if(j7 s&&decide (0<=i/\i<s.dom.length))=true then⟨RF s.dom.length i.toNat,bN⟩else bV s
theorem aaQ{s:Rs}{i:Int}(os:OkS s):R F.model_Var [mM s,I i] []=some (fh (yv s i),[]):=by
 refine au YK rfl ?_;have h1:=tj os.d os.n;have h2:=mY (s:=s);have h3:=af5 (v:=s.dom.length) (i:=i);have h4:=S2;unfold yv;by_cases g:s.dom.length<=8/\0<=i/\i<s.dom.length
 ·rw[if_pos g]at h3;rw[decide_eq_true g.2,Bool.and_true];simp only[pV,aT,am,ap]at h3 h4;cases g1:j7 s with
  |false=>
   rw[g1]at h1;simp only[qH,xd,go_sem,h1,h2,h3]
  |true=>
   rw[g1]at h1;simp only[qH,xd,go_sem,h1,h3,h4]
 ·rw[if_neg g]at h3;have gf:(j7 s&&decide (0<=i/\i<s.dom.length))=false:=by
   grind[g1,j7,decide_eq_false,iX]
  rw[gf,if_neg ayl];simp only[pV,aT,p0]at h3;have f:((2:Int)=0)=False:=eq_false δ;cases g1:j7 s with
  |false=>
   rw[g1]at h1;simp only[qH,xd,go_sem,h1,h2,h3]
  |true=>
   rw[g1]at h1;simp only[qH,xd,go_sem,h1,h2,h3,f]
theorem aiD{a:Rp}{o:Int}(ho:-1<=o)(h:∀t∈a.terms,bj t.exps<=o):eX a<=o:=by
 grind[eX]
theorem aaR{s:Rs}(h:j7 s=true):1<=s.dom.length/\1<=s.ord:=by
 simp_all[j7,ayf,decide_eq_true_eq]
theorem Ux{s:Rs}{m:Rm}(hs:j7 s=true)(c:Cl s.dom.length m.P.terms)(hv:m.P.vars=s.dom.length)(hl:m.P.terms.length<=500)(hd:∀t∈m.P.terms,bj t.exps<=s.ord)(hr:vi m.R=true)(hi:∀t∈m.P.terms,vA t.c s.p=true):tl s m=true:=by
 unfold tl;have h8:=(iX hs).1;have hp:vp m.P=true:=by
  have:m.P=⟨(s.dom.length:Int),m.P.terms⟩:=by rw[←hv]
  grind[Li]
 rw[hs,hp,decide_eq_true hv,decide_eq_true (aiD (by grind[aaR]) hd),hr,ayg,ayg,ayg,ayg,ayg,azf,List.any_eq_false];grind
theorem alF{n:Bool}{a k:Nat}:bE n (a*2^k)=bE n a*2^k:=by
 grind[bE,Int.natCast_mul,Int.neg_mul]
theorem aiN{c:Rd}{p:Int}{up:Bool}(ok:Ok0 c)(vc:vd c=true)(hp:bG p=true)(hb:(af (ab c.m):Int)<=p):bZ c p up=(c,0):=by
 have hp2:=vo hp;by_cases h0:c.m.length=0
 ·grind[Bb,XC]
 have hi:(af (ab c.m):Int)+c.e<=16384∧-16384<=c.e:=by
  have h:=vc;unfold vd at h;rw[if_neg h0]at h;have o:=G2 vc h0;simp only[ayf,decide_eq_true_eq]at h;have hi:=Bc h.2.2.2 (by have:=(jK (n:=ab c.m) (k:=0)).2 ω;omega);omega
 unfold bZ;rw[if_pos (by grind[aZ]),show zI c=bE c.neg (mg c)from rfl];unfold mg;rw[alF,Sw,show(-16384:Int)+((c.e+16384).toNat:Int)=c.e by omega,←Pf hp2];have hk:J9 (ab c.m) c.e p=0:=by grind[J9]
 simp_all[ED,QS,ab,Nat.pow_zero,Nat.mod_one,Nat.div_one,Bi,if_neg,Kg]
theorem agp{c:Rd}{p:Int}(ok:Ok0 c)(vc:vd c=true)(hp:bG p=true)(hb:(af (ab c.m):Int)<=p):mG c p=(c,0):=by
 simp_all[mG,aiN,if_pos,LD,XL]
theorem agq{c:Rd}(vc:vd c=true):mF c c=(aH,0):=by
 unfold mF;rw[vc,ayK,if_pos rfl,Int.sub_self];exact EI rfl
theorem X7{p:Int}(hp:bG p=true):∀ts:List Rt,(∀t∈ts,Ok0 t.c/\t.c.m.length≠0/\vA t.c p=true)->Ap p ts=some (ts,[])
 |[],_=>rfl
 |t::ts,h=>by
  obtain⟨h1,h2,h3⟩:=h t σ;unfold vA at h3;simp only[ayf,decide_eq_true_eq]at h3;have hn:=agp h1 h3.2.1 hp h3.2.2;unfold Ap;rw[hn,if_pos rfl,agq h3.2.1,if_pos rfl,X7 hp ts fun t ht=>h t (by simp[ht])];show some (eu t.exps t.c ts,eu t.exps aH [])=_;unfold eu;rw[if_neg h2,if_pos (show aH.m.length=0 from rfl)]
structure Fit (s:Rs) (q:Rp):Prop where
 v:q.vars=s.dom.length
 n:q.terms.length<=500
 c:Cl s.dom.length q.terms
 d:∀t∈q.terms,bj t.exps<=s.ord
 r:∀t∈q.terms,vA t.c s.p=true
theorem Fit.ok{s:Rs}{q:Rp}(h:Fit s q):OkP q:=⟨fun t ht=>(h.c.t t ht).ok⟩
theorem Fit.vp{s:Rs}{q:Rp}(hs:j7 s=true)(h:Fit s q):vp q=true:=by
 have:=h.v;obtain⟨v,l⟩:=q;subst this;exact Li h.c ω (by have:=(iX hs).1;omega) h.n
theorem ags{s:Rs}{q:Rp}(hs:j7 s=true)(h:Fit s q):cR q s.ord=(q,⟨q.vars,[]⟩):=by
 unfold cR;rw[if_pos (h.vp hs),List.filter_eq_self.2 fun t ht=>by exact decide_eq_true (h.d t ht),List.filter_eq_nil_iff.2 fun t ht=>by unfold PA;rw[decide_eq_true (h.d t ht)];grind]
theorem Tf{s:Rs}{q:Rp}(hs:j7 s=true)(h:Fit s q):dO q s.p=((q,⟨q.vars,[]⟩),0):=by
 have hp:=(iX hs).2;have hp2:=vo hp;unfold dO;rw[if_pos (h.vp hs),if_neg ω,X7 hp _ fun t ht=>⟨(h.c.t t ht).c,(h.c.t t ht).nz,h.r t ht⟩]
theorem LJ{p:Int}(hp:bG p=true):eG bN bN p=bN:=by
 unfold eG;rw[(so (m:=0)).k,hp,ayK,ayK,if_pos rfl];show ui (du aH aH p false) (du aH aH p true)=_;rw[afJ,afJ,XC hp,XC hp];rfl
theorem aaZ{v p:Int}{dom:List Ri}:iO ⟨v,[]⟩ dom p=bN:=by
 simp_all[iO,if_pos]
theorem alG{s:Rs}{q:Rp}(hs:j7 s=true)(h:Fit s q):vB s q=((q,bN),true):=by
 unfold vB;simp only[ags hs h,Tf hs h,aaZ,LJ (iX hs).2,←h.v];rfl
theorem X8{s:Rs}{q:Rp}(hs:j7 s=true)(h:Fit s q):jF s q 0 bN=⟨q,bN⟩:=by
 simp_all[jF,alG,if_pos,LJ,iX]
theorem agt{r:Ri}{p:Int}(hk:kI r=true)(hp:bG p=true):iu r bN p=bN:=by
 obtain⟨_,v1,v2⟩:=Uv hk;have e1:∀i,(gw r bN i).2=aH:=fun i=>by unfold gw;split<;>rfl
 have e2:∀i,vd (gw r bN i).1=true:=fun i=>by unfold gw;grind
 have e3:∀i up,fJ (gw r bN i).1 (gw r bN i).2 p up=(aH,0):=fun i up=>by
  rw[e1];unfold fJ;rw[if_pos (X4 (e2 i) XB hp).1,cO (d:=aH) rfl,Int.mul_zero,ajn]
 unfold iu;rw[hk,hp,(so (m:=0)).k,ayK,ayK,if_pos rfl];unfold qA;simp only[e3,and_self,if_true];have e4:∀k i,wr (fun a b=>fJ a b p false) (fun a b=>fJ a b p true) (gw r bN) k i (aH,aH)=some (aH,aH):=fun k=>by
  induction k with
  |zero=>exact fun i=>rfl
  |succ k ih=>
   simp_all[wr,and_self,if_true,ite_self]
 rw[e4];rfl
theorem alH{x:Ri}(hv:OkI x)(h:lS x lG=true):Bd 0 x:=by
 unfold lS at h;split at h
 ·rename_i g;obtain⟨g1,g2,g3⟩:=g;simp only[lG,Bool.false_or,ayf,decide_eq_true_eq]at h;have h5:zI yu<=zI x.lo:=of_decide_eq_true h.1;have h6:zI x.hi<=zI one:=of_decide_eq_true h.2;have k:kI x=true:=by grind[kI,g1]
  obtain⟨_,v1,v2⟩:=Uv k;have hl:zI x.lo<=zI x.hi:=by
   simp_all[vi,g1,if_neg,ayf,decide_eq_true_eq]
  have e1:zI one=((2^ (16384+0):Nat):Int):=KM (n:=false) (k:=0);have e2:zI yu=-((2^ (16384+0):Nat):Int):=KM (n:=true) (k:=0);refine⟨⟨qv x.lo,Or.inr ⟨g3,⟨⟨v1,hv.1⟩,⟨v2,hv.2⟩⟩,Rat.le_refl,Ao.2 hl⟩⟩,g3,?_,?_⟩<;> (unfold Ld;generalize 2^ (16384+0)=T at e1 e2⊢;omega)
 grind[lG]
theorem agu{s:Rs}(os:OkS s)(hs:j7 s=true):∀x∈s.dom,Bd 0 x:=fun x hx=>by
 unfold j7 at hs;exact alH (os.d x hx) γ
theorem aa0{s:Rs}(os:OkS s)(hs:j7 s=true){q:Rp}(hv:vp q=true)(h:q.vars=s.dom.length):nP q s.dom=true:=by
 unfold nP;rw[hv,decide_eq_true h.symm,ayg,ayg,azf,List.any_eq_false];exact fun x hx=>by rw[(agu os hs x hx).k];grind
theorem agv{s:Rs}(os:OkS s)(hs:j7 s=true){q:Rp}{m:Nat}(oq:OkP q)(hv:vp q=true)(h:q.vars=s.dom.length)(hc:∀t∈q.terms,Ld m t.c)(hm:m+q.terms.length<16384):Bd (m+q.terms.length) (iO q s.dom s.p):=by
 have hp:=(iX hs).2;have hd:=aa0 os hs hv h;have hcl:=(lE oq hv).1;by_cases h0:q.terms.length=0
 ·simp_all[iO,if_pos,so]
 ·have hb:Bd (m+q.terms.length) (pI q s.dom s.p):=by
   unfold pI;rw[hd,hp,ayK,if_pos rfl];exact ago (k:=0) hp (agu os hs) q.terms _ hm (fun t ht=>⟨(hcl.t t ht).vc,(hcl.t t ht).c,hc t ht,fun e he=>((hcl.t t ht).b e he).2⟩) so
  exact(anS oq os.d (by grind[iX]) hd hp h0 hb.a).bd hb
def I3(a b:Rat)(q:Rat->Rat->Rat):Prop:=∃C,0<=C/\∀x y,a<=x->x<=b->a<=y->y<=b→-C<=q x y/\q x y<=C
theorem I3.add{a b:Rat}{p q:Rat->Rat->Rat}(hp:I3 a b p)(hq:I3 a b q):I3 a b fun x y=>p x y+q x y:=by
 obtain⟨C,c0,hc⟩:=hp;obtain⟨D,d0,hd⟩:=hq;refine⟨C+D,by grind,fun x y h1 h2 h3 h4=>?_⟩;grind
theorem I3.mul{a b:Rat}{p q:Rat->Rat->Rat}(hp:I3 a b p)(hq:I3 a b q):I3 a b fun x y=>p x y*q x y:=by
 obtain⟨C,c0,hc⟩:=hp;obtain⟨D,d0,hd⟩:=hq;refine⟨C*D,Rat.mul_nonneg c0 d0,fun x y h1 h2 h3 h4=>?_⟩;obtain⟨u1,u2⟩:=hc x y h1 h2 h3 h4;obtain⟨v1,v2⟩:=hd x y h1 h2 h3 h4;show-(C*D)<=p x y*q x y/\p x y*q x y<=C*D;generalize p x y=u at*
 generalize q x y=v at*
 have k1:=Rat.mul_nonneg (show 0<=C-u by grind) (show 0<=D-v by grind);have k2:=Rat.mul_nonneg (show 0<=C+u by grind) (show 0<=D+v by grind);have k3:=Rat.mul_nonneg (show 0<=C-u by grind) (show 0<=D+v by grind);have k4:=Rat.mul_nonneg (show 0<=C+u by grind) (show 0<=D-v by grind);grind
theorem I3.c{a b:Rat}(k:Rat):I3 a b fun _ _=>k:=by
 rcases Rat.le_total (a:=0) (b:=k)with h|h
 ·exact⟨k,h,fun _ _ _ _ _ _=>by grind⟩
 ·exact⟨-k,by grind,fun _ _ _ _ _ _=>by grind⟩
def Smo(a b:Rat)(f g:Rat->Rat):Prop:=∃q,I3 a b q/\∀x y,f y-f x-g x*(y-x)=(y-x)*(y-x)*q x y
theorem Smo.lin{a b c d:Rat}{f g f' g':Rat->Rat}(h1:Smo a b f g)(h2:Smo a b f' g')(hd:d=c):Smo a b (fun x=>c*f x+f' x) fun x=>d*g x+g' x:=by
 obtain⟨q,hq,e⟩:=h1;obtain⟨q',hq',e'⟩:=h2;refine⟨fun x y=>d*q x y+q' x y,((I3.c _).mul hq).add hq',fun x y=>?_⟩;grind
def u8R(l:List Nat):List (List AV):=l.map fun k=>[.v (.int .u8 (k:Nat))]
@[go_sem] theorem awb(l:List Nat):(u8R l).length=l.length:=by simp[u8R]
theorem anU{a b:Rd}(h:(je a b).2=0):qv (je a b).1=qv a+qv b:=by
 simp_all[qv,ZZ,Rat.intCast_add,Rat.add_mul]
theorem alI{e:Int}(h1:1<=e)(h2:e<=32):qv (intD e)=(e:Rat):=by
 obtain⟨W,hW⟩:=anB;have h1:=hW e.natAbs ω;have h2:=hW 1 ω;have h3:bk false 1 0=one:=by grind[se,one,iN,xu,av,re,ft]
 have h5:((e.natAbs:Nat):Int)=e:=ω
 have h4:=Kx
 simp_all[qv,intD,Rat.intCast_mul,Rat.mul_assoc,Rat.one_mul,Rat.mul_one]
def Gl:Rd:=⟨false,[1],1⟩
theorem LK:vd Gl=true/\Ok0 Gl:=⟨by decide,⟨fun x hx=>by rw[List.mem_singleton.1 hx];decide,by decide⟩⟩
theorem agw:fS one one=(one,0):=by
 unfold fS;rw[dN.1,ayK,if_pos rfl];have h:zI one=((2^ (16384+0):Nat):Int):=KM (n:=false) (k:=0);have h2:=adi (z:=zI one) (k:=16384+0) (e:=-32768);rw[←h]at h2;rw[h2,show(-32768:Int)+((16384+0:Nat):Int)=-16384 by omega,Bm dN.2 dN.1,EI dN.1]
theorem agx:je one one=(Gl,0):=by
 unfold je;rw[dN.1,ayK,if_pos rfl];have h:zI one=((2^ (16384+0):Nat):Int):=KM (n:=false) (k:=0);have h2:=KM (n:=false) (k:=0+1);have hp:∀a:Nat,2^ (a+(0+1))=2^ (a+0)*2:=fun a=>by rw[ayc,ayn,Nat.pow_one,ayF]
 rw[hp 16384,show(⟨false,[1],((0+1:Nat):Int)⟩:Rd)=Gl from rfl]at h2;unfold bE at h2;rw[if_neg ayl]at h2;have e:zI one+zI one=zI Gl:=by
  omega
 rw[e,Bm LK.2 LK.1,EI LK.1]
def s0:Rs:=⟨[lG],2,24⟩
abbrev tX(n:Int)(c:Rd):Rt:=⟨[n],c⟩
def xP:Rp:=⟨1,[tX 1 one]⟩
def qP:Rp:=⟨1,[tX 2 one]⟩
def yP:Rp:=⟨1,[tX 1 one,tX 2 one]⟩
def hP:Rp:=⟨1,[tX 3 Gl,tX 4 one]⟩
def wP:Rp:=⟨1,[tX 2 one,tX 3 Gl,tX 4 one]⟩
theorem ajr{n:Int}{c:Rd}(hn:0<=n/\n<=32)(h:vd c=true/\Ok0 c)(h0:c.m.length≠0):VT 1 (tX n c):=⟨h.2,rfl,by decide,h.1,h0,fun e he=>by grind,by show n+0<=32;omega⟩
theorem cl1{a:Rt}(h:VT 1 a):Cl 1 [a]:=Cl.mk' h (fun _ h=>nomatch h) (Cl.nil _)
theorem cl2{a:Rt}{b:Rt}{l:List Rt}(h:VT 1 a)(hb:Cl 1 (b::l))(h1:∀t∈ (b::l),bU a.exps t.exps<0):Cl 1 (a::b::l):=Cl.mk' h h1 hb
theorem v1_{n:Int}(hn:0<=n/\n<=32):VT 1 (tX n one):=ajr hn dN δ
theorem v2_{n:Int}(hn:0<=n/\n<=32):VT 1 (tX n Gl):=ajr hn LK δ
theorem anV:Cl 1 yP.terms:=cl2 (v1_ δ) (cl1 (v1_ δ)) (by decide+revert)
theorem anW:Cl 1 hP.terms:=cl2 (v2_ δ) (cl1 (v1_ δ)) (by decide+revert)
theorem anX:vp yP=true:=Li anV δ δ δ
theorem LL:Fit s0 xP:=⟨rfl,by decide,cl1 (v1_ δ),by decide+revert,fun t ht=>by rw[List.mem_singleton.1 ht];decide⟩
theorem Uy:Fit s0 qP:=⟨rfl,by decide,cl1 (v1_ δ),by decide+revert,fun t ht=>by rw[List.mem_singleton.1 ht];decide⟩
theorem PR:Fit s0 yP:=⟨rfl,by decide,anV,by decide+revert,by decide+revert⟩
theorem alJ:In (qv yu) lG:=Or.inr ⟨rfl,LA.2,Rat.le_refl,Ao.2 (by
 rw[show zI yu=bE true (2^ (16384+0))from KM (k:=0),show zI lG.hi=bE false (2^ (16384+0))from KM (k:=0)];simp only[bE,if_true,aza,if_false];omega)⟩
theorem aiO{x:Ri}{q:Rat}(h:In q x)(ha:x.all=false):lS x x=true:=Sb.ins ⟨⟨_,h⟩,Or.inr ⟨ha,ha,⟨_,h⟩,Int.le_refl _,Int.le_refl _⟩⟩
theorem MN:j7 s0=true:=by
 have h:=aiO alJ rfl;unfold j7;simp[s0,h];rfl
theorem Tg:OkS s0:=⟨fun x hx=>by rw[List.mem_singleton.1 hx];exact LA.1,by decide⟩
theorem vm0{q:Rp}(h:Fit s0 q):tl s0 ⟨q,bN⟩=true:=Ux MN h.c h.v h.n h.d ((so (m:=0)).i.elim fun _ h=>h.v) h.r
theorem ev0{a b:Rp}(ha:Fit s0 a)(hb:Fit s0 b):pN s0 [⟨a,bN⟩,⟨b,bN⟩]=true:=by
 grind[pN,MN,vm0]
theorem anY:Bo xP xP=(qP,0):=by
 unfold Bo;simp only[xP,tX,mf,nQ,Ia,agw,if_true,ayi,ayT,ayp];rfl
theorem anZ:Kl xP qP=(yP,0):=by
 rfl
theorem an0:Bo yP yP=(wP,0):=by
 unfold Bo;rw[if_pos (Ci.2 ⟨anX,anX,rfl⟩),if_neg (by rw[show eX yP=2 by rfl];omega)];simp only[yP,tX,mf,nQ,Ia,agw,if_true,ayi,ayT,ayp,ayW,ayq];have e:∀c:Rd,oE [] [tX 2 c,tX 3 c,tX 3 c,tX 4 c]=((if(je c c).2=0 then some (if(je c c).1.m.length=0 then []else [tX 3 (je c c).1])else none).map (tX 2 c::·)).bind fun l=>oE l [tX 4 c]:=fun c=>rfl;show tL 1 (oE [] [tX 2 one,tX 3 one,tX 3 one,tX 4 one])=_;rw[e,agx];rfl
theorem ap2:cR wP 2=(qP,hP):=by
 rfl
theorem mz{q:Rp}(h:Fit s0 q)(hl:∀t∈q.terms,t.c=one):iu (iO q s0.dom s0.p) bN s0.p=bN:=
 agt (agv (m:=0) Tg MN h.ok (h.vp MN) h.v (fun t ht=>by grind[PQ]) (by have:=h.n;omega)).k rfl
theorem z3:tM s0.p bN [bN,bN]=bN:=by
 simp only[tM,LJ (show bG s0.p=true from rfl)]
theorem an1{a b q:Rp}(ha:Fit s0 a)(hb:Fit s0 b)(la:∀t∈a.terms,t.c=one)(lb:∀t∈b.terms,t.c=one)(hm:Bo a b=(q,0)):RE s0 ⟨a,bN⟩ ⟨b,bN⟩=jF s0 q 0 bN:=by
 unfold RE;rw[if_pos (ev0 ha hb),hm,mz ha la,mz hb lb,agt (so (m:=0)).k (show bG s0.p=true from rfl),z3]
theorem c_x:∀t∈xP.terms,t.c=one:=fun t ht=>by rw[List.mem_singleton.1 ht]
theorem c_y:∀t∈yP.terms,t.c=one:=fun t ht=>by
 rcases List.mem_cons.1 ht with rfl|ht
 all_goals grind
theorem atT:yv s0 0=⟨xP,bN⟩:=by
 unfold yv;rw[MN];rfl
theorem atU:RE s0 ⟨xP,bN⟩ ⟨xP,bN⟩=⟨qP,bN⟩:=by
 rw[an1 LL LL c_x c_x anY,X8 MN Uy]
theorem atV:adM s0 ⟨xP,bN⟩ ⟨qP,bN⟩=⟨yP,bN⟩:=by
 unfold adM;rw[if_pos (ev0 LL Uy),anZ,LJ rfl,X8 MN PR]
noncomputable def zR:Ri:=eG bN (eG (iO hP s0.dom s0.p) bN s0.p) s0.p
theorem atW:RE s0 ⟨yP,bN⟩ ⟨yP,bN⟩=⟨qP,zR⟩:=by
 rw[an1 PR PR c_y c_y an0];have e:vB s0 wP=((qP,eG (iO hP s0.dom s0.p) bN s0.p),true):=by
  unfold vB;simp only[show cR wP s0.ord=(qP,hP)from ap2,Tf MN Uy,aaZ];rfl
 unfold jF;rw[e,if_pos rfl,if_pos rfl];rfl
theorem an2:OkP hP:=⟨fun t ht=>(anW.t t ht).ok⟩
theorem an3:vp hP=true:=Li anW δ δ δ
theorem atX:Bd 3 (iO hP s0.dom s0.p):=agv (m:=1) Tg MN an2 an3 rfl (fun t ht=>by
 rcases List.mem_cons.1 ht with rfl|ht
 ·exact anT (k:=1)
 ·rw[List.mem_singleton.1 ht];exact PQ.up δ) δ
theorem ap3:zR.all=false:=(RI (m:=4) rfl δ so (RI (m:=3) rfl δ atX so)).a
theorem ajt:In 3 zR:=by
 have h1:=Kx;have h2:qv Gl=2:=by
  grind[anU,one,agx,qv,Gl]
 have hp:uq s0.dom [1] [1]:=⟨by grind[lG],by decide,by decide,trivial⟩;have hi:=anR (p:=s0.p) an2 Tg.d δ (aa0 Tg MN an3 rfl) hp;have e:fv [1] hP.terms=3:=by
  simp[fv,hP,tX,Ks,EP,h1,h2];grind
 rw[e]at hi;have hz:In 0 bN:=by
  have:=sn aU.1 aU.2;rwa[Ig]at this
 have:=ww (p:=s0.p) hz (ww (p:=s0.p) hi hz);have e2:(0:Rat)+(3+0)=3:=γ
 rwa[e2]at this
theorem RK:OkI bN:=⟨aU.2,aU.2⟩
theorem RL{q:Rp}(h:Fit s0 q):OkM ⟨q,bN⟩:=⟨fun t ht=>(h.c.t t ht).c,RK,by have:=h.n;show q.terms.length<_;omega⟩
theorem atY:R F.l25_awake [] []=some (B true,[]):=by
 refine au YE rfl ?_;have h1:=aaI;have h2:=aaQ (i:=0) Tg;have h3:=aaL Tg (RL LL) (RL LL);have h4:=ale Tg (RL LL) (RL Uy);have h5:=aaL Tg (RL PR) (RL PR);rw[atT]at h2;rw[atU]at h3;rw[atV]at h4;rw[atW]at h5;have h6:=PJ;have h7:=S1 RK RK;rw[S6 ((so (m:=0)).i.elim fun _ h=>h.v),ayK]at h7;have h8:=aih (x:=3) δ δ;have k8:vd (intD 3)=true/\Ok0 (intD 3):=by
  unfold intD;exact⟨GY (NF δ δ δ δ),⟨yG _ _ _,ayS (Be (k:=128) δ) δ⟩⟩
 have h9:=afU ajt.ok k8.2;rw[ak2 (by rw[alI δ δ];exact ajt) k8.1]at h9;have ha:=ap3;generalize intD 3=d3 at h8 h9;generalize zR=z at h5 h9 ha;simp only[s0,xP,qP,yP,tX,mM,Cm,fh,Hc,bQ,am,ap,ae,ah,aJ,bL,aO,ays,ayu]at h1 h2 h3 h4 h5 h6 h7 h8 h9;rw[ha]at h5 h9;simp only[DP,Mj,go_sem,h1,h2,h3,h4,h5,h6,h7,h8,h9,ayL,ayR,ayc,ae3,Int.cast_ofNat_Int,decide_true]
end Go.Ab
