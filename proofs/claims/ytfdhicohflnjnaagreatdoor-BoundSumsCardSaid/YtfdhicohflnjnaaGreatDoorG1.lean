/-
  A law of ranges holds at every input that the statement speaks of, under the conditions that its card names. Part G1.
-/
import Derived.Test.YtfdhicohflnjnaaGreatDoorProg
import Derived.Shelf.Spec.TrailingZeros
import Derived.Test.YtfdhicohflnjnaaGreatDoorRows
import Derived.Deep.Strs
import Derived.ProofKit
import Derived.LaidMore
import Derived.OpenShut
import Derived.Carry
import Derived.Lib.Overlaps
import Derived.Laws.Externs
import Derived.Shelf.Slices.Clone
import Derived.Test.YtfdhicohflnjnaaGreatDoorF1
open Nat renaming reduceAdd → apA, reduceMul → apB, reduceLeDiff → apC, reduceLT → apD, reduceBEq → apE
open Int renaming reduceEq → apI
set_option linter.all false
namespace Go.Ab
open Go Go.IntWalk Go.Proofs Go.Shelf Go.ChangeShapes Go.WideShapes Go.Deep Go.RowKit Go.Proofs.Tryz
set_option maxRecDepth 100000
set_option maxHeartbeats 4000000
theorem avj{a b y:Rat}(h1:a<=y)(h2:y<=b):∃t,y=a+(b-a)*t/\0<=t/\t<=1:=by
 by_cases he:b-a=0
 ·exact⟨0,by grind,Rat.le_refl,by decide⟩
 ·have hp:0<b-a:=by grind
  have hi:=E2 hp;have hm:(b-a)*(b-a)⁻¹=1:=Rat.mul_inv_cancel _ he;refine⟨(y-a)*(b-a)⁻¹,?_,Rat.mul_nonneg (by grind) (Rat.le_of_lt hi),?_⟩
  ·generalize(b-a)⁻¹=w at*
   grind
  ·have:=Rat.mul_nonneg (show 0<=b-y by grind) (Rat.le_of_lt hi);generalize(b-a)⁻¹=w at*
   grind
theorem atL{z:Ri}{f g:Rat->Rat}{lo hi:Rat}(hs:Smo lo hi f g)(hle:lo<=hi)(hz:∀y,lo<=y->y<=hi->In (g y) z):∃m,In m z/\m*(hi-lo)=f hi-f lo:=by
 by_cases he:hi-lo=0
 ·have e:hi=lo:=by grind
  subst e;exact⟨g hi,hz hi hle hle,by grind⟩
 have hp:0<hi-lo:=by grind
 have h1:=E2 hp;have hm:(hi-lo)*(hi-lo)⁻¹=1:=Rat.mul_inv_cancel _ he;refine⟨(f hi-f lo)*(hi-lo)⁻¹,?_,by rw[Rat.mul_assoc,Rat.mul_comm _ (hi-lo),hm,Rat.mul_one]⟩;rcases hz lo Rat.le_refl hle with h| ⟨ha,hv,_⟩
 ·exact Or.inl h
 ·obtain⟨m1,m2⟩:=mvt (L:=qv z.lo) (H:=qv z.hi) hs hle fun y h1 h2=>by
   rcases hz y h1 h2 with h| ⟨_,_,h⟩
   ·rw[h]at ha;cases ha
   ·exact h
  refine Or.inr ⟨ha,hv,?_,?_⟩
  ·have:=Rat.mul_nonneg (show 0<=(f hi-f lo)-qv z.lo*(hi-lo)by grind) (Rat.le_of_lt h1);generalize f hi-f lo=T at*
   generalize hi-lo=d at*
   generalize d⁻¹=w at*
   have:qv z.lo*d*w=qv z.lo:=by rw[Rat.mul_assoc,hm,Rat.mul_one]
   grind
  ·have:=Rat.mul_nonneg (show 0<=qv z.hi*(hi-lo)- (f hi-f lo)by grind) (Rat.le_of_lt h1);generalize f hi-f lo=T at*
   generalize hi-lo=d at*
   generalize d⁻¹=w at*
   have:qv z.hi*d*w=qv z.hi:=by rw[Rat.mul_assoc,hm,Rat.mul_one]
   grind
theorem arU{a:Rp}{xs:List Rd}(h:ars a xs=true):(apN a xs).2=0\/(apN a xs).2=9:=by
 unfold apN;rw[if_pos h]
 suffices∀ (l:List Rt) (s:Rd),(aqi xs l s).2=0\/(aqi xs l s).2=9 from this _ _
 intro l;induction l with
 |nil=>exact fun s=>Or.inl rfl
 |cons t l ih=>
  intro s;unfold aqi;split
  ·exact Or.inr rfl
  ·split
   ·exact ih _
   ·exact Or.inr rfl
theorem arp{a:Rp}{dom:List Ri}(oa:OkP a)(od:∀x∈dom,OkI x)(h2:dom.length<=100000)(hd:jh a dom=true){p:Int}:∃z,R F.bound_Best [bH a,.sl 7 (aY dom),I p] []=some (av z,[])/\(∀xs ts:List Rat,qx dom xs ts->In (fv xs a.terms) z):=by
 obtain⟨b,hB,hbr,_⟩:=PQ oa od h2 (p:=p);obtain⟨hv,hl,hk⟩:=Yg od hd;have i2:=hbr _ _ (aaX dom);refine⟨_,PS oa od h2 (p:=p) (b:=b) i2.ok (fun _=>hB),fun xs ts hpt=>?_⟩;unfold E7;split
 ·obtain⟨m1,m2⟩:=GX (LN (p:=p) oa (qx.inL hk hpt)) (hbr _ _ hpt);rw[if_pos m1];exact m2
 ·exact Or.inl rfl
theorem asq{a s:Rp}{dom:List Ri}(h:jh a dom=true)(hs:vp s=true)(hv:s.vars=a.vars):jh s dom=true:=by
 unfold jh at*
 rw[hs,hv];simp only[Bool.and_eq_true]at h;rw[h.2.1,h.2.2];rfl
theorem auf{a b:Rp}{dom:List Ri}(haw:R F.l24_awake [] []=some (B true,[]))(oca:∀t∈a.terms,Ok0 t.c)(ocb:∀t∈b.terms,Ok0 t.c)(od:∀x∈dom,OkI x):R F.l24_BoundSums [bH a,bH b,.sl 7 (aY dom)] []=some (B true,[]):=by
 refine aA arv rfl ?_;have hfa:=adQ (a:=a);have hfb:=adQ (a:=b);have hn:=abR (l:=dom);simp only[bH]at hfa hfb;cases h1:Va a with
 |false=>
  rw[h1]at hfa;simp only[aaM,adV,bH,go_sem,apB,apA,apC,apD,apE,haw,hfa]
 |true=>
 rw[h1]at hfa;cases h2:Va b with
 |false=>
  rw[h2]at hfb;simp only[aaM,adV,bH,go_sem,apB,apA,apC,apD,apE,haw,hfa,hfb]
 |true=>
 rw[h2]at hfb;cases h3:MY dom with
 |false=>
  rw[h3]at hn;simp only[aaM,adV,bH,go_sem,apB,apA,apC,apD,apE,haw,hfa,hfb,hn]
 |true=>
 rw[h3]at hn;by_cases hv:a.vars=b.vars
 case neg=>
  have e1:(a.vars=b.vars)=False:=eq_false hv;simp only[aaM,adV,bH,go_sem,apB,apA,apC,apD,apE,haw,hfa,hfb,hn,e1]
 have e1:(a.vars=b.vars)=True:=eq_true hv;have okp:∀ {a:Rp},Va a=true->(∀t∈a.terms,Ok0 t.c)->OkP a:=fun{a} h1 oc=>by
  unfold Va at h1;simp only[Bool.and_eq_true,decide_eq_true_eq,Bool.not_eq_true']at h1;exact⟨fun t ht=>⟨oc t ht,by
   have:=List.any_eq_false.1 h1.2.2 t ht;unfold BZ at this;simp only[Bool.or_eq_true,decide_eq_true_eq,not_or]at this;omega⟩⟩
 have oa:=okp h1 oca;have ob:=okp h2 ocb;have hl8:dom.length<=8:=by
  unfold MY at h3;simp only[Bool.and_eq_true,decide_eq_true_eq]at h3;exact h3.1
 have hda:=RK oa od (by omega);have hdb:=RK ob od (by omega);simp only[bH]at hda hdb;cases h4:jh a dom with
 |false=>
  rw[h4]at hda;simp only[aaM,adV,bH,go_sem,apB,apA,apC,apD,apE,haw,hfa,hfb,hn,e1,hda]
 |true=>
 rw[h4]at hda;cases h5:jh b dom with
 |false=>
  rw[h5]at hdb;simp only[aaM,adV,bH,go_sem,apB,apA,apC,apD,apE,haw,hfa,hfb,hn,e1,hda,hdb]
 |true=>
 rw[h5]at hdb;have had:=at9 oa ob;by_cases h6:(aqW a b).2=0
 case neg=>
  have e6:((aqW a b).2=0)=False:=eq_false h6;generalize aqW a b=s at*
  simp only[pV,bH]at had;simp only[aaM,adV,bH,go_sem,apB,apA,apC,apD,apE,haw,hfa,hfb,hn,e1,hda,hdb,had,e6]
 obtain⟨pa,pb,ps,_⟩:=asF oa ob h6;have h7:=asq h4 ps.p (ps.v.trans pa.v.symm);obtain⟨za,ba,ia⟩:=arp oa od (by omega) h4 (p:=60);obtain⟨zb,bb,ib⟩:=arp ob od (by omega) h5 (p:=60);obtain⟨zs,bs,is⟩:=arp ps.o od (by omega) h7 (p:=60);have hadd:=auC (xs:=dom.map (·.lo)) oa ob h6;have hp:=aaX dom;have jx:=xt (p:=60) (ia _ _ hp) (ib _ _ hp);have js:=is _ _ hp;rw[show dom.map (fun b=>qv b.lo)=(dom.map (·.lo)).map qv by rw[List.map_map];rfl]at jx js;rw[hadd]at js;have hx:=Ka (ia _ _ hp).ok (ib _ _ hp).ok (p:=60);have hm:=GV js.ok jx.ok;have hmt:=(GX js jx).1;clear hadd;obtain⟨hva,hla,hka⟩:=Yg od h4;have hder:=asX (i:=0) oa;have hcor:=asZ oa od (by omega);have hgen:∀r:Rp×Int,aqW a b=r->gM false aaM.rs aaM.res 0 (aj R (aH false) aaM.body (oO [bH a,bH b,.sl 7 (aY dom)]) fun _=>.dead)=some (B true,[]):=fun r hr=>by
  rw[hr]at had bs h6;obtain⟨s,e⟩:=r;simp only at h6 bs;subst h6;generalize j3 za zb 60=x at*
  generalize tK zs x=m at*
  rw[hmt]at hm;simp only[pV,bH,av,az]at had ba bb bs hx hm;by_cases hv1:a.vars=1
  case neg=>
   have f1:(a.vars=1)=False:=eq_false hv1;simp only[aaM,adV,bH,go_sem,apB,apA,apC,apD,apE,haw,hfa,hfb,hn,e1,hda,hdb,had,ba,bb,bs,hx,hm,f1]
  have f1:(a.vars=1)=True:=eq_true hv1;obtain⟨i,rfl⟩:∃i,dom=[i]:=List.length_eq_one_iff.1 (by omega);obtain⟨ki,vi'⟩:=hka i (by simp);have hle:=M4 ki;have hd2:aqM a 0=match ap4 0 a.terms with|none=>(p0,9)|some r=>(⟨a.vars,r⟩,0):=arR (j:=0) hva (by omega)
  have ev0:ars a [i.lo]=true:=by unfold ars;rw[hva,hv1];simp[vi'.1.1]
  have ev1:ars a [i.hi]=true:=by unfold ars;rw[hva,hv1];simp[vi'.2.1]
  have c0:crE a [i] 0=apN a [i.lo]:=rfl;have c1:crE a [i] 1=apN a [i.hi]:=rfl;have hcr:asY a [i]=if(apN a [i.lo]).2=0 then(if(apN a [i.hi]).2=0 then([(apN a [i.lo]).1,(apN a [i.hi]).1],0)else([],(apN a [i.hi]).2))else([],(apN a [i.lo]).2):=by
   unfold asY;rw[if_pos h4];show(if(crE a [i] 0).2=0 then(if(crE a [i] 1).2=0 then _ else _)else _)=_;rw[c0,c1];rfl
  rw[hcr]at hcor;rw[hd2]at hder;have er0:=arU ev0;have er1:=arU ev1;obtain⟨ov0,ok0⟩:=arS a [i.lo];obtain⟨ov1,ok1⟩:=arS a [i.hi];have q0:=fun h=>asM (a:=a) (xs:=[i.lo]) h;have q1:=fun h=>asM (a:=a) (xs:=[i.hi]) h;generalize apN a [i.lo]=v0 at*
  generalize apN a [i.hi]=v1 at*
  have bad:∀k:List Rd×Int,k=([],9)->R F.bound_Corners [bH a,.sl 7 (aY [i])] []=some (arl k,[])->gM false aaM.rs aaM.res 0 (aj R (aH false) aaM.body (oO [bH a,bH b,.sl 7 (aY [i])]) fun _=>.dead)=some (B true,[]):=fun k hk hcor=>by
   subst hk;cases hr:ap4 0 a.terms with
   |none=>
    rw[hr]at hder;simp only[pV,bH,p0,show cU []=[]from rfl]at hder;simp only[bH,arl,wL,zp,List.map_nil]at hcor;simp only[aaM,adV,bH,go_sem,apB,apA,apC,apD,apE,haw,hfa,hfb,hn,e1,hda,hdb,had,ba,bb,bs,hx,hm,f1,hder,hcor,apI,List.length_cons,List.length_nil,Int.cast_ofNat_Int]
   |some r=>
    rw[hr]at hder;simp only[pV,bH]at hder;simp only[bH,arl,wL,zp,List.map_nil]at hcor;simp only[aaM,adV,bH,go_sem,apB,apA,apC,apD,apE,haw,hfa,hfb,hn,e1,hda,hdb,had,ba,bb,bs,hx,hm,f1,hder,hcor,apI,List.length_cons,List.length_nil,Int.cast_ofNat_Int]
  by_cases g0:v0.2=0
  case neg=>exact bad _ (by rw[if_neg g0,er0.resolve_left g0]) hcor
  by_cases g1:v1.2=0
  case neg=>exact bad _ (by rw[if_pos g0,if_neg g1,er1.resolve_left g1]) hcor
  rw[if_pos g0,if_pos g1]at hcor;cases hr:ap4 0 a.terms with
  |none=>
   rw[hr]at hder;simp only[pV,bH,p0,show cU []=[]from rfl]at hder;simp only[bH,arl,wL,zp,List.map_nil,List.map_cons,ak]at hcor;simp only[aaM,adV,bH,go_sem,apB,apA,apC,apD,apE,haw,hfa,hfb,hn,e1,hda,hdb,had,ba,bb,bs,hx,hm,f1,hder,hcor,apI,List.length_cons,List.length_nil,Int.cast_ofNat_Int]
  |some r=>
   rw[hr]at hder;obtain⟨ca,a0,a8,al⟩:=Ve oa hva;obtain⟨k1,k2,_⟩:=aro (i:=0) (by omega) ca hr;have os:OkP ⟨a.vars,r⟩:=as5 k1;obtain⟨z,bz,iz⟩:=arp os od (by simp) (asq h4 (atU k1 a0 a8 (by omega)) rfl) (p:=60);have jc:=ach (p:=60) (rx ov1 ok1) (rx ov0 ok0);have jw:=ach (p:=60) (rx vi'.2.1 vi'.2.2) (rx vi'.1.1 vi'.1.2);obtain⟨m',im,em⟩:=atL (asN hle (fun t ht=>hv1▸ca.t t ht) hr) hle fun y h1 h2=>by
    obtain⟨t,ht⟩:=avj h1 h2;exact iz [y] [t] ⟨ht.1,ht.2.1,ht.2.2,trivial⟩
   have jm:=so (p:=60) im jw;rw[em,show fv [qv i.hi] a.terms=qv v1.1 from(q1 g1).symm,show fv [qv i.lo] a.terms=qv v0.1 from(q0 g0).symm]at jm;have w1:=iP ok1 ov1;have w0:=iP ok0 ov0;have w3:=iP vi'.2.2 vi'.2.1;have w2:=iP vi'.1.2 vi'.1.1;have s1:=ace (rx ov1 ok1).ok (rx ov0 ok0).ok (p:=60);have s2:=ace (rx vi'.2.1 vi'.2.2).ok (rx vi'.1.1 vi'.1.2).ok (p:=60);have hM:=Kd im.ok jw.ok (p:=60);have hm2:=GV jc.ok jm.ok;have hmt2:=(GX jc jm).1;generalize Z3 ⟨v1.1,v1.1,false⟩ ⟨v0.1,v0.1,false⟩ 60=y1 at*
   generalize Z3 ⟨i.hi,i.hi,false⟩ ⟨i.lo,i.lo,false⟩ 60=y2 at*
   generalize jM z y2 60=y3 at*
   generalize tK y1 y3=m2 at*
   rw[hmt2]at hm2;simp only[pV,bH,av,az,ag,ak]at hder bz w0 w1 w2 w3 s1 s2 hM hm2;simp only[bH,arl,wL,zp,List.map_nil,List.map_cons,ak]at hcor;have r0:∀ (x:List AV) l,aV (x::l) 0=some (.ipt x):=fun _ _=>rfl;have r1:∀ (x y:List AV) l,aV (x::y::l) 1=some (.ipt y):=fun _ _ _=>rfl;have rl:aY [i]=[[B i.lo.neg,lm i.lo.m,I i.lo.e,B i.hi.neg,lm i.hi.m,I i.hi.e,B i.all]]:=rfl;rw[rl]at hn hda hdb ba bb bs hcor bz;simp only[aaM,adV,bH,go_sem,apB,apA,apC,apD,apE,haw,hfa,hfb,hn,e1,hda,hdb,had,ba,bb,bs,hx,hm,f1,rl,hder,hcor,apI,List.length_cons,List.length_nil,Int.cast_ofNat_Int,bz,w0,w1,w2,w3,s1,s2,hM,hm2,r0,r1]
 exact hgen _ rfl
noncomputable def D7:Env:=⟨fun f=>MV.lookup f,dv.C,dv.md⟩
noncomputable def R0:ef:=dZ D7
theorem acQ{f:FuncId}{fd:FD}{args:List AV}{hs:List Ob}{r:AV×List Ob}(hE:D7.E f=none)(hC:D7.C f=some fd)(hk:D7.md.keep f=false)(h1:args.length=fd.np)(h2:hs.length<=1000)
  (hz:gM false fd.rs fd.res hs.length (aj R0 (aH false) fd.body (oO args) (ao hs))=some r):R0 f args hs=some r:=by
 refine Df hE hC ?_;unfold N2;rw[if_pos ⟨h1,h2⟩,hk];exact hz
theorem aqS(o:Ob):ao [o]=upd (fun _=>.dead) 1000 o:=by
 funext i;unfold ao upd;by_cases h:i=1000
 ·subst h;rfl
 ·rw[if_neg h];split
  ·rw[List.getElem?_eq_none (by simp;omega)];rfl
  ·rfl
theorem atM{r:List AV}{rs:List (List AV)}(h:(rs.length+1)*8<=140737488355328):R0 F.slices_Clone_int_int_ [.sl 1 (r::rs)] []=some (.osl 1 (r::rs),[]):=by
 refine acQ (fd:=aqc) (by kernel_rfl) (by kernel_rfl) (by kernel_rfl) rfl (by decide) ?_;have e1:((rs.length+1)*8<=140737488355328)=True:=eq_true h;have e2:Ek false (.sl 1 (r::rs))=some (B false):=rfl;simp only[aqc,aqA,go_sem,apC,apD,e1,e2,List.length_cons,List.length_nil,Nat.zero_add,Nat.zero_le,Nat.le_refl,true_and,true_or,List.nil_append]
theorem atN:gh 4 .emp (some (I 0)) none none=some .emp:=rfl
theorem aug{r:List AV}:R0 F.slices_Insert_api_Term_api_Term_ [.emp,I 0,.sl 4 [r]] []=some (.osl 4 [r],[]):=by
 refine acQ (fd:=aaF) (by kernel_rfl) (by kernel_rfl) (by kernel_rfl) rfl (by decide) ?_;have e1:((1:Int)=0)=False:=by decide
 simp only[aaF,aes,go_sem,apB,apA,apC,apD,atN,List.length_cons,List.length_nil,Int.natCast_one,e1,Nat.zero_add]
theorem aqX{n i:Nat}(h:i<=n):nO n (some (I i)) none none=some (i,n):=by
 simp only[nO,lB,Option.bind_some];rw[if_pos ⟨by omega,by omega⟩];rfl
theorem atk{id k l0 n i:Nat}(h:i<=n):gh k (.rsl id none k l0 n) (some (I i)) none none=some (.rsl id none k (l0+i) (n-i)):=by
 simp only[gh,if_true,aqX h,Option.map_some,Option.isNone_none]
theorem arG{h:ac}{j k n:Nat}{rows:List (List AV)}(hj:aQ j=false)(hh:h j=.ar k rows)(hn:n=rows.length)(hc:aO [1000] (h 1000)=true):zO [[]] 1 h [.rsl j none k 0 n]=some (.osl k rows,[h 1000]):=by
 subst hn;have hp:cu 1=[1000]:=rfl;unfold zO;rw[if_pos]
 ·simp[u9,oN,jZ,hj,hh,zN,yP,bv,nrmV,nrmL,hp]
 ·simp[hp,hc,kl,cj,iq,hj]
theorem atl{r:List AV}{rows:List (List AV)}{n:Nat}(hn:n=rows.length)(hb:(n+1)*64<=140737488355328):R0 F.slices_Insert_api_Term_api_Term_ [.rsl 1000 none 4 0 n,I n,.sl 4 [r]] [.ar 4 rows]=some (.osl 4 (rows++[r]),[.dead]):=by
 refine acQ (fd:=aaF) (by kernel_rfl) (by kernel_rfl) (by kernel_rfl) rfl (by simp) ?_;subst hn;rw[aqS];have e1:((1:Int)=0)=False:=by decide
 have e2:=atk (id:=1000) (k:=4) (l0:=0) (Nat.le_refl rows.length);have e3:((rows.length+1)*64<=140737488355328)=True:=eq_true hb;have e4:(rows.length+1<=rows.length)=False:=eq_false (by omega);have e5:∀h,Yz h 25 4 64 1000 4 0 rows.length [r] 4 rows=dA (upd h 1000 .dead) 25 4 (rows++[r]) (rows.length+1) [(1000,false)]:=fun h=>by
  simp only[Yz,List.length_singleton];rw[if_neg (by omega),if_pos ⟨trivial,trivial,trivial,trivial,hb⟩]
 simp only[aaF,aes,go_sem,apB,apA,apC,apD,List.length_cons,List.length_nil,Int.natCast_one,e1,e2,e3,e4,e5,Nat.zero_add,Nat.add_zero,Nat.sub_self,or_self,Nat.le_refl,List.length_append];exact arG rfl rfl (by simp) rfl
theorem auF{f:FuncId}{g:List AV->List Ob->Option (AV×List Ob)}{args:List AV}{hs:List Ob}(hE:D7.E f=some g):R0 f args hs=g args hs:=BC hE
theorem auh{h:ac}{d:Nat}{r:List AV}{rows:List (List AV)}{lo m:Nat}(hh:h 1000=.ar 4 rows)(hd:h (2000+8*d)=.dead):
  bI R0 (aH false) h d [.sl 4 [r],.rsl 1000 none 4 lo m] (.fn F.slices_overlaps_api_Term_ [] [])=some (B false,upd h 1000 (.ar 4 rows),[(1000,true)]):=by
 have hm:(aH false).m F.slices_overlaps_api_Term_=[0,1]:=by kernel_rfl
 have hs:(aH false).sh F.slices_overlaps_api_Term_=[]:=by kernel_rfl
 have hk:(aH false).keep F.slices_overlaps_api_Term_=false:=by kernel_rfl
 have hf:R0 F.slices_overlaps_api_Term_ [.sl 4 [r],.rsl 1000 none 4 lo m] [.ar 4 rows]=some (B false,[.ar 4 rows]):=by
  rw[auF (g:=ovF 4) (by kernel_rfl)];simp[ovF]
 have hb:sy (aH false) [.sl 4 [r],.rsl 1000 none 4 lo m] (.fn F.slices_overlaps_api_Term_ [] [])=false:=by
  simp[sy,hm]
 have hr:cq h 40 [1000] 0=[1000]:=by
  simp[cq,hh,mh,bV]
 have hn:cP (B false)=1:=rfl;unfold bI;rw[if_neg (by rw[hb];exact Bool.false_ne_true)];have h1:cr h [0,1] [.sl 4 [r],.rsl 1000 none 4 lo m]=some ([.sl 4 [r],.rsl 1000 none 4 lo m],h,[]):=by
  simp[cr,de,vA,gL,aB]
 have h2:bV [] ([AV.sl 4 [r],.rsl 1000 none 4 lo m].flatMap cj)=[1000]:=by
  simp[cj,iq,bV]
 have h3:bq [1000] 1000=1000:=rfl;simp only[eP,hm,List.nil_append,List.append_nil,h1,Option.bind_some,h2,hr,hs];simp[mj,bv,aZ,bm,hh,aO,cY,ey,lD,h3,dp,hf,gz,hn,dK,hd,fw,bf,yO,Nl,uX,iq,apL,gj,Hh,eM,mat,dq,aqL,hk,Nk,hm]
theorem arV{id k l0 n i:Nat}:gh k (.rsl id none k l0 n) (some (I i)) none none=(nO n (some (I i)) none none).map fun p=>.rsl id none k (l0+p.1) (p.2-p.1):=by
 simp only[gh,if_true,Option.isNone_none]
theorem atn{n c i:Nat}(h:i<=c):lB n c (some (I i))=some i:=by
 simp only[lB];rw[if_pos ⟨by omega,by omega⟩];rfl
theorem aui{r:List AV}{rows:List (List AV)}{n i:Nat}(hn:n=rows.length)(hi:i<n)(hb:(n+1)*64<=140737488355328):
  R0 F.slices_Insert_api_Term_api_Term_ [.rsc 1000 4 0 n n,I i,.sl 4 [r]] [.ar 4 rows]=some (.osl 4 (rows.take i++r::rows.drop i),[.ar 4 rows]):=by
 refine acQ (fd:=aaF) (by kernel_rfl) (by kernel_rfl) (by kernel_rfl) rfl (by simp) ?_;rw[aqS];have e1:((1:Int)=0)=False:=by decide
 have e2:((i:Int)=(n:Int))=False:=eq_false (by omega);have e3:IntKind.i64.wrap ((n:Int)+1)=((n+1:Nat):Int):=wi (by omega) (by omega);have e4:((n:Int)< ((n+1:Nat):Int))=True:=eq_true (by omega);have e5:IntKind.i64.wrap (((n+1:Nat):Int)- (i:Int))=((n+1-i:Nat):Int):=wi (by omega) (by omega);have e6:IntKind.i64.wrap ((i:Int)+1)=((i+1:Nat):Int):=wi (by omega) (by omega);have b1:=aqX (n:=n) (i:=i) (by omega);have b2:=atn (n:=n) (c:=n) (i:=i) (by omega);have b3:=aqX (n:=n+1) (i:=i) (by omega);have b4:=aqX (n:=n+1) (i:=i+1) (by omega);have f1:((0:Int)< ((n+1-i:Nat):Int))=True:=eq_true (by omega);have f2:(n<i+((n+1-i:Nat):Int).toNat)=True:=eq_true (by omega);have f3:i+((n+1-i:Nat):Int).toNat=n+1:=by omega
 have f4:(i<=rows.length)=True:=eq_true (by omega);have f5:((n+1)*64<=140737488355328)=True:=eq_true hb;have f6:(n<n+1)=True:=eq_true (by omega);obtain⟨A,hA⟩:∃A,rows.take i++List.replicate ((n+1-i:Nat):Int).toNat [AV.emp,B false,AV.emp,I 0]=A:=⟨_,rfl⟩;have a1:A.length=n+1:=by rw[←hA,List.length_append,List.length_take,List.length_replicate];omega
 have a2:A.take i=rows.take i:=by
  rw[←hA,List.take_append_of_le_length (by rw[List.length_take];omega),List.take_of_length_le (by rw[List.length_take];omega)]
 have a3:(i<=A.length)=True:=eq_true (by omega);obtain⟨D,hD⟩:∃D,A.take i++[r]++A.drop (i+1)=D:=⟨_,rfl⟩;have d1:D.length=n+1:=by
  rw[←hD,List.length_append,List.length_append,List.length_take,List.length_drop,List.length_singleton];omega
 have d2:D.take (i+1)=rows.take i++[r]:=by
  rw[←hD,a2,List.take_append_of_le_length (by rw[List.length_append,List.length_take,List.length_singleton];omega),List.take_of_length_le (by rw[List.length_append,List.length_take,List.length_singleton];omega)]
 have d3:(i+1<=D.length)=True:=eq_true (by omega);have t1:List.take (n+1-i) [r]=[r]:=List.take_of_length_le (by rw[List.length_singleton];omega);have t2:(rows.drop i).take (n-i)=rows.drop i:=List.take_of_length_le (by rw[List.length_drop];omega);have t3:(1=min 1 (n+1-i))=True:=eq_true (by omega);have t4:n+1- (i+1)=n-i:=by omega
 have t5:(i+(n-i)<=rows.length)=True:=eq_true (by omega);have t6:(rows.drop i).length=n-i:=by rw[List.length_drop];omega
 have t7:D.drop (i+1+(n-i))=[]:=List.drop_eq_nil_of_le (by omega);simp only[aaF,aes,go_sem,apB,apA,apC,apD,List.length_cons,List.length_nil,Int.natCast_one,e1,e2,e3,e4,e5,e6,b1,b2,b3,b4,f1,f2,f3,f4,f5,f6,hA,hD,a3,d3,t1,t2,t3,t4,t5,t6,t7,Nat.min_self,Nat.zero_add,Nat.add_zero,Nat.sub_self,or_self,Nat.le_refl,arV,and_self];rw[d2];have hfin:rows.take i++[r]++rows.drop i=rows.take i++r::rows.drop i:=by rw[List.append_assoc];rfl
 rw[hfin];exact arG rfl rfl (by rw[List.length_append,List.length_take,List.length_cons,List.length_drop];omega) rfl
theorem auj{r:List AV}{rows:List (List AV)}{n i c:Nat}(hn:n=rows.length)(hi:i<n)(hc:n+1<=c)(hb:(n+1)*64<=140737488355328):
  R0 F.slices_Insert_api_Term_api_Term_ [.rsc 1000 4 0 n c,I i,.sl 4 [r]] [.ar 4 rows]=some (.osl 4 (rows.take i++r::rows.drop i),[.dead]):=by
 refine acQ (fd:=aaF) (by kernel_rfl) (by kernel_rfl) (by kernel_rfl) rfl (by simp) ?_;rw[aqS];have e1:((1:Int)=0)=False:=by decide
 have e2:((i:Int)=(n:Int))=False:=eq_false (by omega);have e3:IntKind.i64.wrap ((n:Int)+1)=((n+1:Nat):Int):=wi (by omega) (by omega);have e4:((c:Int)< ((n+1:Nat):Int))=False:=eq_false (by omega);have e6:IntKind.i64.wrap ((i:Int)+1)=((i+1:Nat):Int):=wi (by omega) (by omega);have b1:=aqX (n:=n) (i:=i) (by omega);have b2:=atn (n:=n) (c:=c) (i:=n+1) hc;have b3:=aqX (n:=n+1) (i:=i) (by omega);have b4:=aqX (n:=n+1) (i:=i+1) (by omega);have o1:=fun(h:ac) (h0:h 1000=.ar 4 rows) (h1:h (2000+8*67)=.dead)=>auh (r:=r) (lo:=i+1) (m:=n-i) h0 h1;have t1:List.take (n+1-i) [r]=[r]:=List.take_of_length_le (by rw[List.length_singleton];omega);have t2:(rows.drop i).take (n-i)=rows.drop i:=List.take_of_length_le (by rw[List.length_drop];omega);have t3:(1=min 1 (n+1-i))=True:=eq_true (by omega);have t4:n+1- (i+1)=n-i:=by omega
 have t5:(i+(n-i)<=rows.length)=True:=eq_true (by omega);have t6:(rows.drop i).length=n-i:=by rw[List.length_drop];omega
 have t8:min (n-i) (n+1-i)=n-i:=by omega
 have t9:(n-i=min (n+1-i) (n-i))=True:=eq_true (by omega);have f4:(i+1<=rows.length)=True:=eq_true (by omega);have t7:rows.drop (i+1+(n-i))=[]:=List.drop_eq_nil_of_le (by omega);obtain⟨A,hA⟩:∃A,rows.take (i+1)++rows.drop i=A:=⟨_,rfl⟩;have a1:A.length=n+1:=by
  rw[←hA,List.length_append,List.length_take,List.length_drop];omega
 have a2:A.take i=rows.take i:=by
  rw[←hA,List.take_append_of_le_length (by rw[List.length_take];omega),List.take_take,Nat.min_eq_left (by omega)]
 have a4:A.drop (i+1)=rows.drop i:=by
  rw[←hA,List.drop_append_of_le_length (by rw[List.length_take];omega),List.drop_eq_nil_of_le (by rw[List.length_take];omega),List.nil_append]
 have a3:(i<=A.length)=True:=eq_true (by omega);simp only[aaF,aes,go_sem,apB,apA,apC,apD,List.length_cons,List.length_nil,Int.natCast_one,e1,e2,e3,e4,e6,b1,b2,b3,b4,t4,Nat.zero_add];rw[o1 _ rfl rfl];simp only[go_sem,apB,apA,apC,apD,apE,List.length_cons,List.length_nil,Int.natCast_one,e1,e2,e3,e4,e6,b1,b2,b3,b4,t1,t2,t3,t4,t5,t6,t7,t8,t9,f4,a3,hA,Nat.zero_add,Nat.add_zero,Nat.sub_self,or_self,Nat.le_refl,arV,and_self];rw[a2,a4,show rows.take i++[r]++rows.drop i=rows.take i++r::rows.drop i by rw[List.append_assoc];rfl];exact arG rfl rfl (by rw[List.length_append,List.length_take,List.length_cons,List.length_drop];omega) rfl
abbrev G4:=List (Nat×List AV×AV)
def P1:G4->FuncId->List AV->Option AV
 |[],_,_=>none
 |x::l,f,args=>if x.1=f then(if tM x.2.1 args=true then some x.2.2 else P1 l f args)else P1 l f args
def Tm(a:Option AV)(hs:List Ob)(b:Option (AV×List Ob)):Option (AV×List Ob):=match a,hs with
 |some r,[]=>some (r,[])
 |_,_=>b
def Kz(e:Env)(T:G4):Nat->ef
 |0=>fun _ _ _=>none
 |n+1=>fun f args hs=>Tm (P1 T f args) hs (match e.E f with
  |some g=>g args hs
  |none=>(e.C f).bind fun fd=>CQ (Kz e T n) {e.md with nm:=e.md.keep f} n fd args hs)
theorem KA{e:Env}:∀ {T:G4} {f:FuncId} {args:List AV} {r:AV},(∀x∈T,dZ e x.1 x.2.1 []=some (x.2.2,[]))->P1 T f args=some r->dZ e f args []=some (r,[])
 |[],f,args,r,_,h=>by cases h
 |x::l,f,args,r,ht,h=>by
  unfold P1 at h;split at h
  ·rename_i h1;split at h
   ·rename_i h2;cases h;have:=ht x (by simp);rw[h1,sD h2]at this;exact this
   ·exact KA (fun y hy=>ht y (by simp[hy])) h
  ·exact KA (fun y hy=>ht y (by simp[hy])) h
theorem nH{call:ef}{md:Mode}{lf:Nat}:∀ (c:Cmd) {s:af} {h:ac} {r:Ex×St},bF call md lf c s h=some r->aj call md c s h=some r
 | .skip,s,h,r,hz=>hz
 | .ops ks l,s,h,r,hz=>hz
 | .dops ks l ps,s,h,r,hz=>hz
 | .seq a b,s,h,r,hz=>by
  simp only[bF,bL]at hz;split at hz
  ·cases hz
  ·rename_i t1 ht1;simp only[aj,bL,nH a ht1,nH b hz]
  ·rename_i i t1 ht1;simp only[aj,bL,nH a ht1];exact hz
  ·rename_i t1 ht1;simp only[aj,bL,nH a ht1];exact hz
 | .cond c a b,s,h,r,hz=>by
  simp only[bF,mr]at hz;split at hz
  ·rename_i t ht;cases t with
   |true=>simp only[aj,mr,ht,if_true];exact nH a hz
   |false=>simp only[aj,mr,ht,Bool.false_eq_true,if_false];exact nH b hz
  ·cases hz
 | .block id ks a,s,h,r,hz=>by
  simp only[bF,am]at hz;split at hz
  ·cases hz
  ·rename_i t1 ht1;simp only[aj,am,nH a ht1];exact hz
  ·rename_i i t1 ht1;simp only[aj,am,nH a ht1];exact hz
  ·rename_i t1 ht1;simp only[aj,am,nH a ht1];exact hz
 | .loop ks hs a,s,h,r,hz=>by
  simp only[bF]at hz;simp only[aj,aD];rw[kS];exact⟨lf,fun k hk=>D0 (fun hh=>nH a hh) lf hk hz⟩
 | .exit id,s,h,r,hz=>hz
 | .ret,s,h,r,hz=>hz
 | .frz is a,s,h,r,hz=>by
  simp only[bF,aT]at hz;split at hz
  ·cases hz
  ·rename_i t1 ht1;simp only[aj,aT,ht1];exact nH a hz
theorem Tn{e:Env}{T:G4}(ht:∀x∈T,dZ e x.1 x.2.1 []=some (x.2.2,[])):∀n,CE (Kz e T n) (dZ e)
 |0=>fun f a hs r hz=>by cases hz
 |n+1=>fun f a hs r hz=>by
  have old:(match e.E f with|some g=>g a hs|none=>(e.C f).bind fun fd=>CQ (Kz e T n) {e.md with nm:=e.md.keep f} n fd a hs)=some r->dZ e f a hs=some r:=by
   intro hz;split at hz
   ·rename_i g hE;rw[BC hE];exact hz
   ·rename_i hE;simp only[Option.bind_eq_some_iff]at hz;obtain⟨fd,hC,hz⟩:=hz;refine Df hE hC ?_;unfold CQ at hz;unfold N2;split at hz
    ·rename_i hcc;rw[if_pos hcc];cases hx:bF (Kz e T n) {e.md with nm:=e.md.keep f} n fd.body (oO a) (ao hs)with
     |none=>rw[hx]at hz;cases hz
     |some q=>
      rw[hx]at hz;rw[nH fd.body (gI (Tn ht n) (Nat.le_refl n) fd.body hx)];exact hz
    ·cases hz
  unfold Kz at hz;unfold Tm at hz;split at hz
  ·rename_i r' hl;cases hz;exact KA ht hl
  ·exact old hz
theorem ah{e:Env}:∀x∈ ([]:G4),dZ e x.1 x.2.1 []=some (x.2.2,[]):=fun _ h=>by cases h
theorem ab{e:Env}{x:Nat×List AV×AV}{T:G4}(h1:dZ e x.1 x.2.1 []=some (x.2.2,[]))(h2:∀x∈T,dZ e x.1 x.2.1 []=some (x.2.2,[])):∀y∈x::T,dZ e y.1 y.2.1 []=some (y.2.2,[]):=fun y hy=>by
 rcases List.mem_cons.1 hy with rfl|hy
 ·exact h1
 ·exact h2 y hy
theorem aE{e:Env}(T:G4)(n:Nat)(x:Nat×List AV×AV)(ht:∀x∈T,dZ e x.1 x.2.1 []=some (x.2.2,[]))(h:Kz e T n x.1 x.2.1 []=some (x.2.2,[])):dZ e x.1 x.2.1 []=some (x.2.2,[]):=Tn ht n _ _ _ _ h
def aqq(e:Env)(T:G4):Prop:=∀x∈T,dZ e x.1 x.2.1 []=some (x.2.2,[])
def aqT:G4->G4->G4
 |T,[]=>T
 |T,x::l=>aqT (x::T) l
def as0(a:AV):Option (AV×List Ob)->Bool
 |some (r,[])=>tM (match r with| .tup l=>l|r=>[r]) (match a with| .tup l=>l|a=>[a])&& (match r,a with| .tup _,.tup _=>true| .tup _,_=>false|_,.tup _=>false|_,_=>true)
 |_=>false
theorem atO{a:AV}{q:Option (AV×List Ob)}(h:as0 a q=true):q=some (a,[]):=by
 unfold as0 at h;split at h
 ·rename_i r;rw[Bool.and_eq_true]at h;have e:=sD h.1;have h2:=h.2;cases r<;>cases a<;>simp_all
 ·cases h
def atP(e:Env)(n:Nat):G4->G4->Bool
 |_,[]=>true
 |T,x::l=>as0 x.2.2 (Kz e T n x.1 x.2.1 [])&&atP e n (x::T) l
theorem aqm{e:Env}{n:Nat}:∀ {l T:G4},aqq e T->atP e n T l=true->aqq e (aqT T l)
 |[],T,h,_=>h
 |x::l,T,h,hc=>by
  simp only[atP,Bool.and_eq_true]at hc;refine aqm (T:=x::T) (ab ?_ h) hc.2;exact Tn h n _ _ _ _ (atO hc.1)
def aa4:Ren:=⟨fun|28=>209|n=>n,fun|25=>132|27=>75|53=>190|n=>n,fun n=>n⟩
theorem Yq:Lays7.n28 Tryz.prog aa4 where
 mixed:=by kernel_rfl
 f28:=by kernel_rfl
 t0:=by kernel_rfl
 a0:=Tryz.isAgg0
 z0:=Tryz.sizeOf0
 v0:=Tryz.zeroValue0
 i0:=by kernel_rfl
 t3:=by kernel_rfl
 a3:=Tryz.isAgg3
 z3:=Tryz.sizeOf3
 v3:=Tryz.zeroValue3
 i3:=by kernel_rfl
 t4:=by kernel_rfl
 a4:=Tryz.isAgg4
 z4:=Tryz.sizeOf4
 v4:=Tryz.zeroValue4
 i4:=by kernel_rfl
 t5:=by kernel_rfl
 a5:=Tryz.isAgg5
 z5:=Tryz.sizeOf5
 v5:=Tryz.zeroValue5
 i5:=by kernel_rfl
 t25:=by kernel_rfl
 a25:=Tryz.isAgg132
 z25:=Tryz.sizeOf132
 v25:=Tryz.zeroValue132
 i25:=by kernel_rfl
 t27:=by kernel_rfl
 a27:=Tryz.isAgg75
 z27:=Tryz.sizeOf75
 v27:=Tryz.zeroValue75
 i27:=by kernel_rfl
 t53:=by kernel_rfl
 a53:=Tryz.isAgg190
 z53:=Tryz.sizeOf190
 v53:=Tryz.zeroValue190
 i53:=by kernel_rfl
 g0:=by kernel_rfl
def KB:Inv where
 p w _:=TabAt 0 Lib.deBruijn32tab w
 stab:=fun{w w' X} h hs j hj=>by rw[ko (hs 0 (.inr rfl))];exact h j hj
 more:=fun h _=>h
theorem To:∀ (k x:Nat),Lib.ctzFrom k x=Ly k x
 |0,x=>rfl
 |k+1,x=>by
  unfold Lib.ctzFrom Ly;rw[To k (x/2),Nat.add_comm]
set_option maxRecDepth 100000 in
theorem aa5:re Tryz.prog KB false F.bits_TrailingZeros32 tzF:=by
 intro args obs obs' res w X ρ vals n hz hn hi hr hs hv;unfold tzF at hz;split at hz
 ·rename_i x;by_cases hc:0<x/\x<4294967296/\obs=[]
  ·rw[if_pos hc]at hz;obtain⟨h0,h1,rfl⟩:=hc;simp only[Option.some.injEq,Prod.mk.injEq]at hz;obtain⟨rfl,rfl⟩:=hz;have hv0:=hv 0 (.v (.int .u32 x)) (vals.getD 0 undef) rfl (by simp at hs;simp[Array.getD_eq_getD_getElem?,hs]);have e0:vals=#[.int .u32 x]:=by
    simp only[List.length_cons,List.length_nil]at hs;have:=hv0.v_inv.1;apply Array.ext
    ·simpa using hs
    ·intro i h2 h3;have:i=0:=by simp at h3;exact h3
     subst this;simpa [Array.getD_eq_getD_getElem?,hs]using this
   subst e0;obtain⟨m,rfl⟩:∃m:Nat,x=m:=⟨x.toNat,by omega⟩;have key:=Any7.bits_TrailingZeros32 Yq m (by omega) w fun _=>hi;have he:(callFunc F.bits_TrailingZeros32 #[.int .u32 (m:Int)]).run Tryz.prog w=.ok (.enter F.bits_TrailingZeros32 #[.int .u32 (m:Int)]) w:=(enters_of (Yq.f28) (by kernel_rfl) rfl:Proofs.Enters Tryz.prog (aa4.f 28)) _ _;unfold Enters;rw[he];refine Calls.mono key fun e w' hw=>?_;obtain⟨rfl,rfl⟩:=hw;refine⟨ρ,hr,.refl _ _ _ _,?_⟩;refine .dat ?_;have:Lib.ctz 32 m=Ly 32 m:=by
    unfold Lib.ctz;rw[if_neg (by omega),To]
   simp only[this,Int.toNat_natCast,mat,dq];exact .v _ rfl
  ·rw[if_neg hc]at hz;cases hz
 ·cases hz
section
variable {H:Type} {enc:TypeId × Value→H} {w:World}
def D8(w:World)(b:Nat):Prop:=b<w.heap.size
def yK(w:World):Prop:=∀o v,w.cell? ⟨0,o,none⟩=some v->∃n,v=.int .u8 n
def wC(u:Value):Prop:=u=u
theorem aet(_:yK w){a:Addr}{u:Value}(h:w.cell? a=some u)(_:wC u):D8 w a.block/\a.spot=none:=by
 have h1:a.spot=none:=by
  unfold World.cell? at h;split at h
  ·split at h
   ·cases h
   ·rename_i hs;simpa using hs
  ·cases h
 refine⟨?_,h1⟩;unfold World.cell? at h;split at h
 ·rename_i hb;exact(Array.getElem?_eq_some_iff.1 hb).1
 ·cases h
def mT(w:World)(fs:List AV)(cs:List Value):Prop:=
 fs.length=cs.length/\∀ (j:Nat) (c:AV) (u:Value),fs[j]?=some c->cs[j]?=some u->RD w (D8 w) c u/\aB c=true/\u.oneCell'=true
theorem mT.app{fa fb:List AV}{ca cb:List Value}(ha:mT w fa ca)(hb:mT w fb cb):mT w (fa++fb) (ca++cb):=by
 refine⟨by simp[ha.1,hb.1],fun j c u h1 h2=>?_⟩;by_cases hj:j<fa.length
 ·rw[List.getElem?_append_left hj]at h1;rw[List.getElem?_append_left (by rw[←ha.1];exact hj)]at h2;exact ha.2 j c u h1 h2
 ·rw[List.getElem?_append_right (by omega)]at h1;rw[List.getElem?_append_right (by rw[←ha.1];omega),←ha.1]at h2;exact hb.2 _ c u h1 h2
theorem mT.one{c:AV}{u:Value}(h:RD w (D8 w) c u)(hd:aB c=true)(h1:u.oneCell'=true):mT w [c] [u]:=by
 refine⟨rfl,fun j c' u' hc hu=>?_⟩;cases j with
 |zero=>simp at hc hu;subst hc hu;exact⟨h,hd,h1⟩
 |succ j=>simp at hc
noncomputable abbrev Tr (w:World) (enc:TypeId×Value->H) (n:Nat) (t:TypeId) (cs:List Value):Option (DataW H×List MemPlace):=DataW.trod enc Tryz.prog w 0 (fun _=>true) true n t cs
def pB(t:TypeId)(d:DataW H):Prop:=∀m∈DataW.weights Tryz.prog t d,m<=reachBytes
theorem aeu{e:TypeId}:∀ {l:List (DataW H)} {d:DataW H} {m:Nat},d∈l->m∈DataW.weights Tryz.prog e d->m∈DataW.weightsAll Tryz.prog e l
 |[],d,m,h,_=>by simp at h
 |a::l,d,m,h,hm=>by
  simp only[DataW.weightsAll,List.mem_append];rcases List.mem_cons.1 h with rfl|h
  ·exact .inl hm
  ·exact .inr (aeu h hm)
theorem Tp{α:Type}{p:Nat->α->Prop}:∀ (n:Nat),(∀i,i<n->∃r,p i r)->∃l:List α,l.length=n/\∀ (i:Nat) (r:α),l[i]?=some r->p i r
 |0,_=>⟨[],rfl,fun i r h=>by simp at h⟩
 |n+1,h=>by
  obtain⟨l,h1,h2⟩:=Tp n fun i hi=>h i (by omega);obtain⟨r,hr⟩:=h n (by omega);refine⟨l++[r],by simp[h1],fun i r' hi=>?_⟩;by_cases hin:i<n
  ·rw[List.getElem?_append_left (by omega)]at hi;exact h2 i r' hi
  ·rw[List.getElem?_append_right (by omega)]at hi;have:i=n:=by
    have:=(List.getElem?_eq_some_iff.1 hi).1;simp at this;omega
   subst this;simp[h1]at hi;subst hi;exact hr
theorem Bh{α:Type}{t e:TypeId}{k bs:Nat}(ht:Tryz.prog.underlying t=some (.slice e))(hk:Tryz.prog.cellsOf e=k)(h0:0<k)(hbs:Tryz.prog.bytesOf e=bs)(F:α->List AV)(Q:α->Prop)(hT:yK w)
  (hrow:∀n cs' x,Tr w enc n e cs'=some x->pB e x.1->∃r,Q r/\mT w (F r) cs'/\∃u,cs'[0]?=some u/\wC u) {fuel:Nat} {cs:List Value} {x:DataW H×List MemPlace}
  (h:Tr w enc fuel t cs=some x) (hw:pB t x.1):∃ (l:List α) (v:Value),cs=[v]/\(∀r∈l,Q r)/\l.length*bs<=reachBytes/\RD w (D8 w) (.sl k (l.map F)) v/\v.oneCell'=true/\wC v:=by
 rcases open_slice ht h with⟨rfl,_⟩| ⟨a,len,cap,m,n,D,Pl,rfl,hb,hl,hm,hmm,rfl,hx⟩
 ·exact⟨[],_,rfl,fun r hr=>by simp at hr,by simp,.sl k [] none 0 ⟨0,0,none⟩ (fun _ _=>undef) (by simp) (fun h=>absurd rfl h) (fun r hr=>by simp at hr) (fun i r j c hr=>by simp at hr) (fun r hr=>by simp at hr) (fun i r j c hr=>by simp at hr),rfl,rfl⟩
 ·have hlm:len<=m:=by rw[hmm];split<;>omega
  have hwe:∀i,i<len->pB e (D i):=fun i hi q hq=>by
   refine hw q ?_;simp only[DataW.weights,ht,List.mem_cons,List.mem_append];exact .inr (.inl (aeu (List.mem_map.2 ⟨i,List.mem_range.2 hi,rfl⟩) hq))
  have hbn:len*bs<=reachBytes:=by
   have:=hw ((((List.range len).map D).length+((List.range (m-len)).map fun j=>D (len+j)).length)*Tryz.prog.bytesOf e) (by simp[DataW.weights,ht]);simp only[List.length_map,List.length_range,hbs]at this;exact Nat.le_trans (Nat.mul_le_mul_right _ (by omega)) this
  obtain⟨l,l1,l2⟩:=Tp (p:=fun i r=>Q r/\∃cs',w.cells? 0 (a.add (i*k)) k=some cs'/\mT w (F r) cs'/\∃u,cs'[0]?=some u/\wC u) len fun i hi=>by
   obtain⟨cs',h1,h2⟩:=hx i (by omega);obtain⟨r,g1,g2,g3⟩:=hrow _ _ _ h2 (hwe i hi);rw[hk]at h1;exact⟨r,g1,cs',h1,g2,g3⟩
  have cell:∀ (i:Nat) (row:List AV) (j:Nat) (c:AV),(l.map F)[i]?=some row->row[j]?=some c->∃u,w.cell? (a.add (i*k+j))=some u/\RD w (D8 w) c u/\aB c=true:=fun i row j c hi hj=>by
   simp only[List.getElem?_map,Option.map_eq_some_iff]at hi;obtain⟨r,hr,rfl⟩:=hi;obtain⟨_,cs',c1,c2,_⟩:=l2 i r hr;obtain⟨_,c3,c4⟩:=World.cells?_some c1;have hjk:j<k:=by
    have:=(List.getElem?_eq_some_iff.1 hj).1;rw[c2.1,c3]at this;exact this
   have:=c4 j hjk;rw[xC]at this;obtain⟨u,hu⟩:∃u,cs'[j]?=some u:=⟨cs'[j]'(by omega),by simp⟩;exact⟨u,by rw[this,hu],(c2.2 j c u hj hu).1,(c2.2 j c u hj hu).2.1⟩
  refine⟨l,_,rfl,fun r hr=>?_,by rw[l1];exact hbn,?_,rfl,rfl⟩
  ·obtain⟨i,hi⟩:=List.getElem?_of_mem hr;exact(l2 i r hi).1
  ·have:=RD.sl (w:=w) (A:=D8 w) k (l.map F) (some a) cap a (fun i j=>(w.cell? (a.add (i*k+j))).getD undef) (by simp[l1,hl]) (fun hne=>?_) (fun row hr=>?_) (fun i row j c hi hj=>?_) (fun row hr c hc=>?_) (fun i row j c hi hj=>?_)
   ·simpa [l1]using this
   ·have hlen:0<l.length:=List.length_pos_iff.2 fun e=>hne (by simp[e]);obtain⟨_,cs',c1,c2,u,c3,c4⟩:=l2 0 l[0] (by simp);have:=(World.cells?_some c1).2.2 0 h0;rw[c3,Nat.zero_mul,yR,yR]at this;obtain⟨q1,q2⟩:=aet hT this c4;exact⟨rfl,q1,q2⟩
   ·simp only[List.mem_map]at hr;obtain⟨r,hr,rfl⟩:=hr;obtain⟨i,hi⟩:=List.getElem?_of_mem hr;obtain⟨_,cs',c1,c2,_⟩:=l2 i r hi;rw[c2.1];exact(World.cells?_some c1).2.1
   ·obtain⟨u,q1,_⟩:=cell i row j c hi hj;rw[q1];rfl
   ·obtain⟨i,hi⟩:=List.getElem?_of_mem hr;obtain⟨j,hj⟩:=List.getElem?_of_mem hc;obtain⟨u,_,_,q⟩:=cell i row j c hi hj;exact q
   ·obtain⟨u,q1,q2,_⟩:=cell i row j c hi hj;rw[q1];exact q2
theorem acS{n:Nat}{cs:List Value}{x:DataW H×List MemPlace}(h:Tr w enc n 75 cs=some x)(_:pB 75 x.1):∃r:Nat,r<4294967296/\mT w [U (r:Int)] cs/\∃u,cs[0]?=some u/\wC u:=by
 obtain⟨z,rfl,rfl,hw⟩:=DataW.trod_int Tryz.underlying75 h;simp only[Lit.wf,Bool.and_eq_true,decide_eq_true_eq]at hw;have h1:(0:Int)<=z:=hw.1;have h2:z<=4294967295:=hw.2;obtain⟨m,rfl⟩:∃m:Nat,z=m:=⟨z.toNat,by omega⟩;exact⟨m,by omega,.one (.v _ rfl) rfl rfl,_,rfl,rfl⟩
theorem acT{n:Nat}{cs:List Value}{x:DataW H×List MemPlace}(h:Tr w enc n 3 cs=some x)(_:pB 3 x.1):∃r:Int,True/\mT w [I r] cs/\∃u,cs[0]?=some u/\wC u:=by
 obtain⟨z,rfl,rfl,hw⟩:=DataW.trod_int Tryz.underlying3 h;exact⟨z,trivial,.one (.v _ rfl) rfl rfl,_,rfl,rfl⟩
theorem Yr(hT:yK w){n:Nat}{cs:List Value}{x:DataW H×List MemPlace}(h:Tr w enc n 29 cs=some x)(hw:pB 29 x.1):∃m:List Nat,(Lb m/\m.length<4611686018427387904)/\mT w [lm m] cs/\∃u,cs[0]?=some u/\wC u:=by
 obtain⟨l,v,rfl,h1,h2,h3,h4,h5⟩:=Bh (k:=1) (bs:=4) Tryz.underlying29 (by kernel_rfl) (by decide) (by kernel_rfl) (fun(r:Nat)=>[U (r:Int)]) (fun r=>r<4294967296) hT (fun n cs' x=>acS) h hw;refine⟨l,⟨h1,?_⟩,.one h3 rfl h4,_,rfl,h5⟩;unfold reachBytes at h2;omega
theorem aao(hT:yK w){n:Nat}{cs:List Value}{x:DataW H×List MemPlace}(h:Tr w enc n 71 cs=some x)(hw:pB 71 x.1):∃m:List Int,True/\mT w [.sl 1 (bw m)] cs/\∃u,cs[0]?=some u/\wC u:=by
 obtain⟨l,v,rfl,h1,h2,h3,h4,h5⟩:=Bh (k:=1) (bs:=8) Tryz.underlying71 (by kernel_rfl) (by decide) (by kernel_rfl) (fun(r:Int)=>[I r]) (fun r=>True) hT (fun n cs' x=>acT) h hw;exact⟨l,trivial,.one h3 rfl h4,_,rfl,h5⟩
theorem P2(hT:yK w){n:Nat}{cs:List Value}{x:DataW H×List MemPlace}(h:Tr w enc n 31 cs=some x)(hw:pB 31 x.1):∃d:Rd,Ok0 d/\mT w (ak d) cs/\∃u,cs[0]?=some u/\wC u:=by
 obtain⟨y0,y1,y2,m,rfl,hl,h0,h1,h2⟩:=trod_struct3 Tryz.underlying31 h;have hl3:cs.length=3:=hl.trans (by kernel_rfl)
 match cs,hl3 with
 |[a,b,c],_=>
  have k0:Tr w enc m 4 [a]=some y0:=h0;have k1:Tr w enc m 29 [b]=some y1:=h1;have k2:Tr w enc m 3 [c]=some y2:=h2;have w1:pB 29 y1.1:=fun q hq=>hw q (by simp[DataW.weights,DataW.weightsEach,Tryz.underlying31];exact .inr (.inl hq));obtain⟨bb,e0,e1⟩:=DataW.trod_bool Tryz.underlying4 k0;simp only[List.cons.injEq,and_true]at e0;subst e0;obtain⟨l,⟨q1,q2⟩,q3,_⟩:=Yr hT k1 w1;obtain⟨z,e2,e3,_⟩:=DataW.trod_int Tryz.underlying3 k2;simp only[List.cons.injEq,and_true]at e2;subst e2;exact⟨⟨bb,l,z⟩,⟨q1,q2⟩,(mT.one (.v _ rfl) rfl rfl).app (q3.app (.one (.v _ rfl) rfl rfl)),_,rfl,rfl⟩
theorem aap(hT:yK w){n:Nat}{cs:List Value}{x:DataW H×List MemPlace}(h:Tr w enc n 74 cs=some x)(hw:pB 74 x.1):∃d:Rt,Ok0 d.c/\mT w (eU d) cs/\∃u,cs[0]?=some u/\wC u:=by
 obtain⟨y0,y1,m,rfl,hl,h0,h1⟩:=trod_struct2 Tryz.underlying74 h;have hl3:cs.length=4:=hl.trans (by kernel_rfl)
 match cs,hl3 with
 |[a,b,c,d],_=>
  have k0:Tr w enc m 71 [a]=some y0:=h0;have k1:Tr w enc m 31 [b,c,d]=some y1:=h1;have w0:pB 71 y0.1:=fun q hq=>hw q (by simp[DataW.weights,DataW.weightsEach,Tryz.underlying74];exact .inl hq);have w1:pB 31 y1.1:=fun q hq=>hw q (by simp[DataW.weights,DataW.weightsEach,Tryz.underlying74];exact .inr hq);obtain⟨l,_,q3,q4⟩:=aao hT k0 w0;obtain⟨d,d1,d2,_⟩:=P2 hT k1 w1;exact⟨⟨l,d⟩,d1,q3.app d2,q4⟩
theorem aev(hT:yK w){n:Nat}{cs:List Value}{x:DataW H×List MemPlace}(h:Tr w enc n 33 cs=some x)(hw:pB 33 x.1):∃d:Ri,OkI d/\mT w (az d) cs/\∃u,cs[0]?=some u/\wC u:=by
 obtain⟨y0,y1,y2,m,rfl,hl,h0,h1,h2⟩:=trod_struct3 Tryz.underlying33 h;have hl3:cs.length=7:=hl.trans (by kernel_rfl)
 match cs,hl3 with
 |[a,b,c,d,e,f,g],_=>
  have k0:Tr w enc m 31 [a,b,c]=some y0:=h0;have k1:Tr w enc m 31 [d,e,f]=some y1:=h1;have k2:Tr w enc m 4 [g]=some y2:=h2;have w0:pB 31 y0.1:=fun q hq=>hw q (by simp[DataW.weights,DataW.weightsEach,Tryz.underlying33];exact .inl hq);have w1:pB 31 y1.1:=fun q hq=>hw q (by simp[DataW.weights,DataW.weightsEach,Tryz.underlying33];exact .inr (.inl hq));obtain⟨d0,p1,p2,p3⟩:=P2 hT k0 w0;obtain⟨d1,q1,q2,_⟩:=P2 hT k1 w1;obtain⟨bb,e0,e1⟩:=DataW.trod_bool Tryz.underlying4 k2;simp only[List.cons.injEq,and_true]at e0;subst e0;exact⟨⟨d0,d1,bb⟩,⟨p1,q1⟩,p2.app (q2.app (.one (.v _ rfl) rfl rfl)),p3⟩
theorem aaq(hT:yK w){n:Nat}{us:Array Value}{x:DataW H×List MemPlace}(h:Tr w enc n 24 us.toList=some x)(hw:pB 24 x.1):∃a:Rp,((∀t∈a.terms,Ok0 t.c)/\a.terms.length<4611686018427387904)/\RD w (D8 w) (bH a) (.agg us):=by
 obtain⟨y0,y1,m,rfl,hl,h0,h1⟩:=trod_struct2 Tryz.underlying24 h;have hl3:us.toList.length=2:=hl.trans (by kernel_rfl);obtain⟨cs⟩:=us;simp only at hl3 h0 h1
 match cs,hl3 with
 |[a,b],_=>
  have k0:Tr w enc m 3 [a]=some y0:=h0;have k1:Tr w enc m 22 [b]=some y1:=h1;have w1:pB 22 y1.1:=fun q hq=>hw q (by simp[DataW.weights,DataW.weightsEach,Tryz.underlying24];exact .inr hq);obtain⟨z,e2,e3,_⟩:=DataW.trod_int Tryz.underlying3 k0;simp only[List.cons.injEq,and_true]at e2;subst e2;obtain⟨l,v,e4,q1,q2,q3,q4,q5⟩:=Bh (k:=4) (bs:=64) Tryz.underlying22 (by kernel_rfl) (by decide) (by kernel_rfl) eU (fun t=>Ok0 t.c) hT (fun n cs' x=>aap hT) k1 w1;simp only[List.cons.injEq,and_true]at e4;subst e4;refine⟨⟨z,l⟩,⟨q1,by show l.length<_;unfold reachBytes at q2;omega⟩,?_⟩;have rc:mT w [I z,.sl 4 (l.map eU)] [.int .i64 z,b]:=(mT.one (.v _ rfl) rfl rfl).app (.one q3 rfl q4);refine .agg _ _ rfl (fun i u hu=>?_) fun i c u hc hu=>?_
  ·have hu':[Value.int .i64 z,b][i]?=some u:=by simpa using hu
   obtain⟨c,hc⟩:∃c,[I z,AV.sl 4 (l.map eU)][i]?=some c:=⟨_,List.getElem?_eq_getElem (by have:=(List.getElem?_eq_some_iff.1 hu').1;simpa using this)⟩;exact(rc.2 i c u hc hu').2.2
  ·exact(rc.2 i c u hc (by simpa using hu)).1
theorem acU(hT:yK w){n:Nat}{v:Value}{x:DataW H×List MemPlace}(h:Tr w enc n 25 [v]=some x)(hw:pB 25 x.1):∃l:List Ri,(∀d∈l,OkI d)/\RD w (D8 w) (.sl 7 (aY l)) v:=by
 obtain⟨l,v',e4,q1,q2,q3,q4,q5⟩:=Bh (k:=7) (bs:=88) Tryz.underlying25 (by kernel_rfl) (by decide) (by kernel_rfl) az OkI hT (fun n cs' x=>aev hT) h hw;simp only[List.cons.injEq,and_true]at e4;subst e4;exact⟨l,q1,q3⟩
end
theorem aam{args:List AV}{vals:Array Value}(h:vals.size=args.length){i:Nat}{c:AV}(hc:args[i]?=some c):∃u,vals[i]?=some u:=by
 have:i<args.length:=(List.getElem?_eq_some_iff.1 hc).1;exact⟨vals[i]'(by omega),by simp[h,this]⟩
theorem akG{vals:Array Value}{a:Value}(h:vals.size=1)(h0:vals[0]?=some a):vals=#[a]:=by
 apply Array.ext_getElem?;intro i
 match i with
 |0=>simpa using h0
 |i+1=>simp[h]
theorem avk{vals:Array Value}{a b:Value}(h:vals.size=2)(h0:vals[0]?=some a)(h1:vals[1]?=some b):vals=#[a,b]:=by
 apply Array.ext_getElem?;intro i
 match i with
 |0=>simpa using h0
 |1=>simpa using h1
 |i+2=>simp[h]
theorem arW{w:World}{a:Addr}{us:Array Value}{e:TypeId}(h:w.heap[a.block]?=some (.cells us e (0,0))):w.frozen? a=false:=by
 simp[World.frozen?,h]
theorem auk{P:Program}(w:World)(tS tR e:TypeId)(ht:P.underlying tS=some (.slice e))(size:Nat)(hz:∀w,(Go.sizeOf e).run P w=.ok size w)(a:Addr)(b:Option Addr)(la ca cb:Nat):
  (Extern.SlicesOverlaps.overlaps #[tS,tS] #[tR] #[.slice (some a) la ca,.slice b 0 cb]).run P w=.ok (.bool false) w:=by
 change Sem.run P (α:=Value) (do
  let some t:= (#[tS,tS]:Array TypeId)[0]?|stuck "slices.overlaps: no parameter types"
  let .slice elem←underlying t|stuck "slices.overlaps: slice type expected"
  let size←sizeOf elem
  match (some a:Option Addr),b with
  |some a,some b=>
   if la=0\/0=0\/size=0 then pure (Value.bool false)
   else if a.block !=b.block&& (←frozen a)&& (←frozen b)then unsupported .addressObserved
   else do
    if a.block !=b.block then do
     noView a;noView b
     if←mayBeOne a b then return Value.bool ((←choose (.extern "sameAddr.stringBytes" 2))==1)
    pure (Value.bool (a.block==b.block&&a.off<b.off+0*size&&b.off<a.off+la*size))
  |_,_=>pure (Value.bool false)) w=_
 cases b<;>simp[run_underlying ht,hz]
theorem auG{P:Program}(w:World)(tS tR e:TypeId)(ht:P.underlying tS=some (.slice e))(size:Nat)(hz:∀w,(Go.sizeOf e).run P w=.ok size w)
  (a b:Addr) (la ca lb cb:Nat) (hne:a.block≠b.block) (tA:TypeId) (kA:Nat) {us:Array Value} {tB:TypeId}
  (hkA:kA≠0) (hsa:w.shape? a.block=some (tA,kA)) (hb:w.heap[b.block]?=some (.cells us tB (0,0))) (hu:us.size≠0):
  (Extern.SlicesOverlaps.overlaps #[tS,tS] #[tR] #[.slice (some a) la ca,.slice (some b) lb cb]).run P w=.ok (.bool false) w:=by
 have hnb:(a.block !=b.block)=true:=by simpa using hne
 have hnb':(a.block==b.block)=false:=by simpa using hne
 have hsb:w.shape? b.block=some (tB,us.size):=by simp[World.shape?,hb]
 have hfb:w.frozen? b=false:=arW hb;have hfe:w.frozen? {block:=b.block,off:=us.size}=false:=arW (a:=⟨b.block,us.size,none⟩) hb;change Sem.run P (α:=Value) (do
  let some t:= (#[tS,tS]:Array TypeId)[0]?|stuck "slices.overlaps: no parameter types"
  let .slice elem←underlying t|stuck "slices.overlaps: slice type expected"
  let size←sizeOf elem
  match (some a:Option Addr),(some b:Option Addr)with
  |some a,some b=>
   if la=0\/lb=0\/size=0 then pure (Value.bool false)
   else if a.block !=b.block&& (←frozen a)&& (←frozen b)then unsupported .addressObserved
   else do
    if a.block !=b.block then do
     noView a;noView b
     if←mayBeOne a b then return Value.bool ((←choose (.extern "sameAddr.stringBytes" 2))==1)
    pure (Value.bool (a.block==b.block&&a.off<b.off+lb*size&&b.off<a.off+la*size))
  |_,_=>pure (Value.bool false)) w=_
 by_cases h0:la=0\/lb=0\/size=0
 ·simp[run_underlying ht,hz,h0]
 ·obtain⟨n,hn⟩:∃n,us.size=n+1:=⟨us.size-1,by omega⟩;rw[hn]at hsb hfe;obtain⟨kA,rfl⟩:∃k,kA=k+1:=⟨kA-1,by omega⟩;cases hfa:w.frozen? a<;>cases hfa2:w.frozen? {block:=a.block,off:=kA+1}<;>
   simp[run_underlying ht,hz,h0,hnb,hnb',frozen,noView,viewAt,mayBeOne,stringish,shape,Sem.run,hsa,hsb,hfa,hfa2,hfb,hfe]
theorem as1{w:World}{a:Addr}{v:Value}(h:w.cell? a=some v):∃t k,k≠0/\w.shape? a.block=some (t,k):=by
 unfold World.cell? at h;split at h
 ·rename_i cs t fr hb;refine⟨t,cs.size,fun h0=>?_,by unfold World.shape?;rw[hb]⟩;split at h
  ·cases h
  ·have:=(Array.getElem?_eq_some_iff.1 h).1;omega
 ·cases h
theorem auH{P:Program}{I:Inv}{f:FuncId}{fn:Func}{tS tR e:TypeId}{size:Nat}(hf:P.funcs[f]?=some fn)(hname: (fn.name== "runtime.NumGoroutine")=false)(hb:fn.body.isNone=true)(hn:Extern.findNext fn=none)
  (he:Extern.find fn=some (Extern.SlicesOverlaps.overlaps #[tS,tS] #[tR])) (ht:P.underlying tS=some (.slice e)) (hz:∀w,(Go.sizeOf e).run P w=.ok size w):re P I false f (ovF 4):=by
 intro args obs obs' res w X ρ vals n hz' hn' hi hr hs hv;unfold ovF at hz';split at hz'
 ·rename_i k0 row rows k1 lo m k2 rows2;split at hz'
  ·rename_i hk;obtain⟨rfl,rfl,rfl⟩:=hk;cases hz';obtain⟨u0,h0⟩:=aam hs (i:=0) rfl;obtain⟨u1,h1⟩:=aam hs (i:=1) rfl;have e0:=hv 0 _ _ rfl h0;have e1:=hv 1 _ _ rfl h1;obtain rfl:=avk hs h0 h1;have d0:=e0.sl_inv;obtain⟨a1,cap1,rfl,hp,hn1,hb1,ha1⟩:=e1.rsl_inv;have ho:RO w (aF w X (ao [.ar 4 rows2]) ρ) ρ (ao [.ar 4 rows2]) 1000 (.ar 4 rows2):=hr.ob 1000;obtain⟨us,tB,g1,g2,g3,g4⟩:=ho;have hlive:live (ao [.ar 4 rows2]) 1000 none:=trivial;cases d0 with
   |sl _ _ a cap ad vs hc ha hk hv2 hl hr2=>
    obtain⟨rfl,hA,hsp⟩:=ha (by simp);have hlen:=hk row (by simp);obtain⟨c,hrow⟩:∃c,row[0]?=some c:=⟨row[0]'(by omega),by simp⟩;have hcell:=hv2 0 row 0 c rfl hrow;obtain⟨tA,kA,hkA,hsh⟩:=as1 hcell;rw[lY]at hsh;have run:(callFunc f #[.slice (some ad) (row::rows).length cap,.slice a1 m cap1]).run P w=.ok (.value (.bool false)) w:=by
     rw[run_callFunc_extern hf hname hb hn he];by_cases hm:m=0
     ·subst hm;rw[auk w tS tR e ht size hz];rfl
     ·rcases ha1 with h|rfl
      ·omega
      ·rw[auG w tS tR e ht size hz ad ⟨(ρ 1000 none).1,lo*4,none⟩ _ cap m cap1 (fun hh=>hA.2.2 ⟨1000,none,hlive,hh.symm⟩) tA kA hkA hsh g1 (by omega)];rfl
    unfold Enters;rw[run];exact⟨ρ,hr,.refl _ _ _ _,.dat (.v _ rfl)⟩
  ·cases hz'
 ·cases hz'
theorem aul{P:Program}{I:Inv}(hR:re P I false F.slices_Insert_api_Term_api_Term_ (R0 F.slices_Insert_api_Term_api_Term_)):re P I false F.slices_Insert_api_Term_api_Term_ (ar3 4 64):=by
 intro args obs obs' res w X ρ vals n hz hn hi hr hs hv;unfold ar3 at hz;split at hz
 ·rename_i k0 r;split at hz
  ·rename_i hk;subst hk;cases hz;exact hR aug hn hi hr hs hv
  ·cases hz
 ·rename_i k1 m i k0 r k2 rows;split at hz
  ·rename_i hk;obtain⟨rfl,rfl,rfl,rfl,hi0,hi1,hb⟩:=hk;cases hz;obtain⟨i,rfl⟩:=Int.eq_ofNat_of_zero_le hi0;rw[Int.toNat_natCast];by_cases hend:i=rows.length
   ·subst hend;have:=hR (atl (r:=r) rfl hb) hn hi hr hs hv;rw[List.take_of_length_le (Nat.le_refl _),List.drop_eq_nil_of_le (Nat.le_refl _)];exact this
   ·have hlt:i<rows.length:=by omega
    obtain⟨u0,h0⟩:=aam hs (i:=0) rfl;obtain⟨a,cap,rfl,hp,hn1,hb1,ha⟩:=(hv 0 _ _ rfl h0).rsl_inv;have hv':∀ (j:Nat) (c:AV) (u:Value),[AV.rsc 1000 4 0 rows.length cap,.v (.int .i64 i),.sl 4 [r]][j]?=some c->vals[j]?=some u->RV w (aF w X (ao [.ar 4 rows]) ρ) ρ (ao [.ar 4 rows]) c u:=by
     intro j c u hc hu
     match j,hc with
     |0,hc=>
      cases hc;rw[h0]at hu;cases hu;exact .rsc 1000 4 0 _ cap a hp hn1 hb1 ha
     |j+1,hc=>exact hv (j+1) c u hc hu
    rcases Nat.lt_or_ge rows.length cap with hc|hc
    ·exact hR (auj rfl hlt hc hb) hn hi hr hs hv'
    ·obtain rfl:cap=rows.length:=by omega
     refine(hR (aui rfl hlt hb) hn hi hr hs hv').mono fun v w' ⟨ρ',q1,q2,q3⟩=>?_;generalize rows.take i++r::rows.drop i=L at q1 q2 q3⊢;have hd:=TU q1 (id:=1000) (k:=4) (rows:=rows) (by
      show(if 1000=n then _ else _)=_;rw[if_neg (by omega)];rfl)
     have eq:upd (mat n (ao [.ar 4 rows]) (.osl 4 L)).2 1000 .dead=(mat n (ao [.dead]) (.osl 4 L)).2:=by
      show upd (upd (ao [.ar 4 rows]) n (.ar 4 L)) 1000 .dead=upd (ao [.dead]) n (.ar 4 L);rw[aqS,aqS];funext j;unfold upd;by_cases h1:j=1000
      ·rw[if_pos h1,if_neg (by omega),if_pos h1]
      ·rw[if_neg h1,if_neg h1,if_neg h1]
     rw[eq]at hd;refine⟨ρ',hd.1,q2.trans (hd.2.far rfl),hd.2.rvk q3 (.inr ?_)⟩;show gS [(1000,false)] n none=false;simp[gS];omega
  ·cases hz
 ·cases hz
theorem LX{w w':World}{X:Nat->Prop}{ρ:br}(hr:Rel w X ρ (ao []))(hb:Below w.heap.size w w'):Rel w' X ρ (ao [])/\Far false w ρ (ao []) w' ρ (ao []):=by
 have hl:∀id sub,¬live (ao []) id sub:=fun id sub=>by
  have hd:ao [] id=.dead:=by
   unfold ao;split<;>simp
  cases sub with
  |none=>simp[live,hd]
  |some p=>simp[live,hd]
 refine⟨⟨fun id sub _ _ h=>(hl id sub h).elim,fun id sub h=>(hl id sub h).elim,fun id=>?_,fun b hb'=>Nat.lt_of_lt_of_le (hr.xl b hb') hb.size⟩,hb.os,hb.tape,hb.output,hb.size,fun b h1 _=>hb.block b h1,fun b ⟨id,sub,h,_⟩=>(hl id sub h).elim,fun id _ h=>?_,fun h=>by cases h⟩
 ·have hd:ao [] id=.dead:=by
   unfold ao;split<;>simp
  rw[hd];trivial
 ·exfalso;apply h;unfold ao;split<;>simp
theorem auI{P:Program}{I:Inv}{ρ0:Ren}(L:Lays2.n15 P ρ0)(hf:ρ0.f 15=F.slices_Clone_int_int_)(he:∀a w,(callFunc F.slices_Clone_int_int_ a).run P w=.ok (.enter F.slices_Clone_int_int_ a) w)
  (hR:re P I false F.slices_Clone_int_int_ (R0 F.slices_Clone_int_int_)):re P I false F.slices_Clone_int_int_ clF:=by
 intro args obs obs' res w X ρ vals n hz hn hi hr hs hv;unfold clF at hz;split at hz
 ·cases hz;obtain⟨u0,h0⟩:=aam hs (i:=0) rfl;have d0:=(hv 0 _ _ rfl h0).sl_inv;obtain rfl:=akG hs h0;cases d0 with
  |sl _ _ a cap ad vs hc ha hk hv2 hl hr2=>
   unfold Enters;rw[he];have fin:∀ (w':World) (b:Option Addr) (c:Nat),Below w.heap.size w w'->∃ρ',Rel w' X ρ' (mat n (ao []) (.sl 1 [])).2/\Far false w ρ (ao []) w' ρ' (mat n (ao []) (.sl 1 [])).2/\
     RV w' (aF w' X (mat n (ao []) (.sl 1 [])).2 ρ') ρ' (mat n (ao []) (.sl 1 [])).2 (mat n (ao []) (.sl 1 [])).1 (.slice b 0 c):=fun w' b c hb=>
    ⟨ρ,(LX hr hb).1,(LX hr hb).2,.dat (.sl 1 [] b c ad vs (Nat.zero_le _) (fun h=>absurd rfl h) (fun _ h=>by cases h) (fun i row j c h=>by simp at h) (fun _ h=>by cases h) (fun i row j c h=>by simp at h))⟩
   cases a with
   |none=>
    have key:=Any.slices_Clone_int_nil L 0 cap w;rw[hf]at key;refine Calls.mono key fun e w' hw=>?_;obtain⟨rfl,rfl⟩:=hw;exact fin _ _ _ (Below.refl _ _)
   |some a0=>
    have key:=Any.slices_Clone_int_zero L a0 cap w;rw[hf]at key;refine Calls.mono key fun e w' hw=>?_;obtain⟨v',rfl,⟨_,hown⟩,_,hb⟩:=hw;rcases hown with⟨rfl,_⟩| ⟨g,c2,cur,rfl,_⟩
    ·exact fin _ _ _ hb
    ·exact fin _ _ _ hb
 ·rename_i r rs;split at hz
  ·rename_i hb;cases hz;exact hR (atM hb) hn hi hr hs hv
  ·cases hz
 ·cases hz
abbrev TX(f:Nat)(fd:FD):Prop:=Text Go.Proofs.Tryz.prog f fd
theorem tx{f:Nat}{fd:FD}{fn:Func}(h:Go.Proofs.Tryz.prog.funcs[f]?=some fn)(h2: (fn.body.bind fun c=>fX Go.Proofs.Tryz.prog fn.ntmps c fd.body,Bp Go.Proofs.Tryz.prog fn.results.toList,decide (fn.ntmps<=1000),fn.name== "runtime.NumGoroutine")= (some fd.body,some fd.res,true,false)):TX f fd:=by
 simp only[Prod.mk.injEq,Option.bind_eq_some_iff,decide_eq_true_eq]at h2;obtain⟨⟨c,h3,h4⟩,h5,h6,h7⟩:=h2;exact⟨⟨fn,c,_,h,h3,rfl,h6,h4,h5,h7⟩⟩
theorem tn:∀p∈ ([]:List (Nat×FD)),TX p.1 p.2:=fun _ h=>by cases h
theorem tc{f:Nat}{fd:FD}{l:List (Nat×FD)}(h1:TX f fd)(h2:∀p∈l,TX p.1 p.2):∀p∈ (f,fd)::l,TX p.1 p.2:=fun p hp=>by
 rcases List.mem_cons.1 hp with rfl|hp
 ·exact h1
 ·exact h2 p hp
set_option maxRecDepth 100000 in
theorem P3:∀p∈aaK,TX p.1 p.2:=tc (tx func8 (by kernel_rfl)) (tc (tx func9 (by kernel_rfl)) (tc (tx func10 (by kernel_rfl)) (tc (tx func11 (by kernel_rfl)) (tc (tx func12 (by kernel_rfl)) (tc (tx func13 (by kernel_rfl)) (tc (tx func14 (by kernel_rfl)) (tc (tx func15 (by kernel_rfl)) (tc (tx func18 (by kernel_rfl)) (tc (tx func22 (by kernel_rfl)) (tc (tx func23 (by kernel_rfl)) (tc (tx func24 (by kernel_rfl)) (tc (tx func26 (by kernel_rfl)) (tc (tx func28 (by kernel_rfl)) (tc (tx func32 (by kernel_rfl)) (tc (tx func34 (by kernel_rfl)) (tc (tx func35 (by kernel_rfl)) (tc (tx func38 (by kernel_rfl)) (tc (tx func40 (by kernel_rfl)) (tc (tx func41 (by kernel_rfl)) (tc (tx func42 (by kernel_rfl)) (tc (tx func43 (by kernel_rfl)) (tc (tx func44 (by kernel_rfl)) (tc (tx func45 (by kernel_rfl)) (tc (tx func46 (by kernel_rfl)) (tc (tx func47 (by kernel_rfl)) (tc (tx func48 (by kernel_rfl)) (tc (tx func49 (by kernel_rfl)) (tc (tx func50 (by kernel_rfl)) (tc (tx func51 (by kernel_rfl)) (tc (tx func52 (by kernel_rfl)) (tc (tx func53 (by kernel_rfl)) (tc (tx func54 (by kernel_rfl)) (tc (tx func55 (by kernel_rfl)) (tc (tx func56 (by kernel_rfl)) (tc (tx func57 (by kernel_rfl)) (tc (tx func58 (by kernel_rfl)) (tc (tx func59 (by kernel_rfl)) (tc (tx func60 (by kernel_rfl)) (tc (tx func61 (by kernel_rfl)) (tc (tx func64 (by kernel_rfl)) (tc (tx func65 (by kernel_rfl)) (tc (tx func69 (by kernel_rfl)) (tc (tx func70 (by kernel_rfl)) (tc (tx func71 (by kernel_rfl)) (tc (tx func72 (by kernel_rfl)) (tc (tx func73 (by kernel_rfl)) (tc (tx func74 (by kernel_rfl)) (tc (tx func75 (by kernel_rfl)) (tc (tx func76 (by kernel_rfl)) (tc (tx func77 (by kernel_rfl)) (tc (tx func78 (by kernel_rfl)) (tc (tx func79 (by kernel_rfl)) (tc (tx func82 (by kernel_rfl)) (tc (tx func83 (by kernel_rfl)) (tc (tx func84 (by kernel_rfl)) (tc (tx func85 (by kernel_rfl)) (tc (tx func86 (by kernel_rfl)) (tc (tx func87 (by kernel_rfl)) (tc (tx func88 (by kernel_rfl)) (tc (tx func89 (by kernel_rfl)) (tc (tx func90 (by kernel_rfl)) (tc (tx func91 (by kernel_rfl)) (tc (tx func92 (by kernel_rfl)) (tc (tx func93 (by kernel_rfl)) (tc (tx func94 (by kernel_rfl)) (tc (tx func95 (by kernel_rfl)) (tc (tx func96 (by kernel_rfl)) (tc (tx func97 (by kernel_rfl)) (tc (tx func98 (by kernel_rfl)) (tc (tx func99 (by kernel_rfl)) (tc (tx func100 (by kernel_rfl)) (tc (tx func101 (by kernel_rfl)) (tc (tx func102 (by kernel_rfl)) (tc (tx func103 (by kernel_rfl)) (tc (tx func104 (by kernel_rfl)) (tc (tx func105 (by kernel_rfl)) (tc (tx func106 (by kernel_rfl)) (tc (tx func107 (by kernel_rfl)) (tc (tx func108 (by kernel_rfl)) (tc (tx func109 (by kernel_rfl)) (tc (tx func110 (by kernel_rfl)) (tc (tx func111 (by kernel_rfl)) (tc (tx func112 (by kernel_rfl)) (tc (tx func113 (by kernel_rfl)) (tc (tx func114 (by kernel_rfl)) (tc (tx func115 (by kernel_rfl)) (tc (tx func116 (by kernel_rfl)) (tc (tx func117 (by kernel_rfl)) (tc (tx func118 (by kernel_rfl)) (tc (tx func119 (by kernel_rfl)) (tc (tx func120 (by kernel_rfl)) (tc (tx func121 (by kernel_rfl)) (tc (tx func122 (by kernel_rfl)) (tc (tx func123 (by kernel_rfl)) (tc (tx func126 (by kernel_rfl)) (tc (tx func127 (by kernel_rfl)) (tc (tx func128 (by kernel_rfl)) (tc (tx func129 (by kernel_rfl)) (tc (tx func130 (by kernel_rfl)) (tc (tx func131 (by kernel_rfl)) (tc (tx func132 (by kernel_rfl)) (tc (tx func133 (by kernel_rfl)) (tc (tx func134 (by kernel_rfl)) (tc (tx func135 (by kernel_rfl)) (tc (tx func136 (by kernel_rfl)) (tc (tx func137 (by kernel_rfl)) (tc (tx func139 (by kernel_rfl)) (tc (tx func140 (by kernel_rfl)) (tc (tx func141 (by kernel_rfl)) (tc (tx func142 (by kernel_rfl)) (tc (tx func143 (by kernel_rfl)) (tc (tx func144 (by kernel_rfl)) (tc (tx func145 (by kernel_rfl)) (tc (tx func146 (by kernel_rfl)) (tc (tx func147 (by kernel_rfl)) (tc (tx func148 (by kernel_rfl)) (tc (tx func149 (by kernel_rfl)) (tc (tx func150 (by kernel_rfl)) (tc (tx func151 (by kernel_rfl)) (tc (tx func152 (by kernel_rfl)) (tc (tx func153 (by kernel_rfl)) (tc (tx func154 (by kernel_rfl)) (tc (tx func155 (by kernel_rfl)) (tc (tx func156 (by kernel_rfl)) (tc (tx func157 (by kernel_rfl)) (tc (tx func158 (by kernel_rfl)) (tc (tx func159 (by kernel_rfl)) (tc (tx func160 (by kernel_rfl)) (tc (tx func161 (by kernel_rfl)) (tc (tx func162 (by kernel_rfl)) (tc (tx func163 (by kernel_rfl)) (tc (tx func164 (by kernel_rfl)) (tc (tx func165 (by kernel_rfl)) (tc (tx func166 (by kernel_rfl)) (tc (tx func167 (by kernel_rfl)) (tc (tx func168 (by kernel_rfl)) (tc (tx func169 (by kernel_rfl)) (tc (tx func170 (by kernel_rfl)) (tc (tx func171 (by kernel_rfl)) (tc (tx func172 (by kernel_rfl)) (tc (tx func173 (by kernel_rfl)) (tc (tx func177 (by kernel_rfl)) (tc (tx func178 (by kernel_rfl)) (tc (tx func179 (by kernel_rfl)) (tc (tx func180 (by kernel_rfl)) (tc (tx func181 (by kernel_rfl)) (tc (tx func182 (by kernel_rfl)) (tc (tx func183 (by kernel_rfl)) (tc (tx func184 (by kernel_rfl)) (tc (tx func185 (by kernel_rfl)) (tc (tx func186 (by kernel_rfl)) (tc (tx func187 (by kernel_rfl)) (tc (tx func188 (by kernel_rfl)) (tc (tx func189 (by kernel_rfl)) (tc (tx func190 (by kernel_rfl)) (tc (tx func191 (by kernel_rfl)) (tc (tx func192 (by kernel_rfl)) (tc (tx func194 (by kernel_rfl)) (tc (tx func195 (by kernel_rfl)) (tc (tx func196 (by kernel_rfl)) (tc (tx func197 (by kernel_rfl)) (tc (tx func198 (by kernel_rfl)) (tc (tx func199 (by kernel_rfl)) (tc (tx func202 (by kernel_rfl)) (tc (tx func203 (by kernel_rfl)) (tc (tx func204 (by kernel_rfl)) (tc (tx func205 (by kernel_rfl)) (tc (tx func206 (by kernel_rfl)) (tc (tx func207 (by kernel_rfl)) (tc (tx func208 (by kernel_rfl)) (tc (tx func210 (by kernel_rfl)) (tc (tx func211 (by kernel_rfl)) (tc (tx func212 (by kernel_rfl)) (tc (tx func213 (by kernel_rfl)) (tc (tx func214 (by kernel_rfl)) (tc (tx func215 (by kernel_rfl)) (tc (tx func218 (by kernel_rfl)) (tc (tx func219 (by kernel_rfl)) (tc (tx func220 (by kernel_rfl)) (tc (tx func221 (by kernel_rfl)) (tc (tx func222 (by kernel_rfl)) (tc (tx func223 (by kernel_rfl)) (tc (tx func224 (by kernel_rfl)) (tc (tx func225 (by kernel_rfl)) (tc (tx func226 (by kernel_rfl)) (tc (tx func227 (by kernel_rfl)) (tn)))))))))))))))))))))))))))))))))))))))))))))))))))))))))))))))))))))))))))))))))))))))))))))))))))))))))))))))))))))))))))))))))))))))))))))))))))))))))))))))))))))))))))))))))))))))))))
end Go.Ab
