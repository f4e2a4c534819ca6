/-
  A law of ranges holds at every input that the statement speaks of, under the conditions that its card names. Part F1.
-/
import Derived.Test.YtfdhicohflnjnaaGreatDoorProg
import Derived.Shelf.Spec.TrailingZeros
import Derived.Test.YtfdhicohflnjnaaGreatDoorRows
import Derived.Deep.Strs
import Derived.ProofKit
import Derived.LaidMore
import Derived.OpenShut
import Derived.Carry
import Derived.Lib.Overlaps
import Derived.Laws.Externs
import Derived.Shelf.Slices.Clone
import Derived.Test.YtfdhicohflnjnaaGreatDoorE1
open Nat renaming reduceAdd → am3, reduceMul → am4, reduceLeDiff → am5, reduceLT → am6, reduceBEq → am7
open Int renaming reduceLT → am8, reduceToNat → am9, reduceLE → ana, reduceEq → anb
set_option linter.all false
namespace Go.Ab
open Go Go.IntWalk Go.Proofs Go.Shelf Go.ChangeShapes Go.WideShapes Go.Deep Go.RowKit Go.Proofs.Tryz
set_option maxRecDepth 100000
set_option maxHeartbeats 4000000
theorem KA {a b:List Int} (h:dx a b < 0):b ≠ a:=by
 grind [Vy]
def p0:Rp:=⟨0,[]⟩
def abY (v:Int):Option (List Rt)→Rp × Int
 | none=>(p0,9)
 | some l=>if 500 < l.length then (p0,5) else (⟨v,l⟩,0)
def aia (a b:List Int):List Int:=List.zipWith (·+·) a b
structure Pv (v:Int) (a:Rp):Prop where
 v:a.vars=v
 p:vp a=true
 o:OkP a
theorem Pv.cl {v:Int} {a:Rp} (h:Pv v a):Cl v a.terms:=by
 have:=(To h.o h.p).1;rw [h.v] at this;omega
theorem N7 {a:AV} (h:aB a=true):fT a=[]:=by cases a <;> simp [aB] at h <;> rfl
theorem Re {a:AV} (h:aB a=true) (l:List Nat):bg l a=true:=by cases a <;> simp [aB] at h <;> simp [bg,h]
theorem N8 {a:AV} (h:aB a=true) (g:Nat→Nat):kB g a=a:=by cases a <;> simp [aB] at h <;> rfl
theorem Bg {α β:Type} {f:α→List β}:∀ {l:List α},(∀ x ∈ l,f x=[])→l.flatMap f=[]
 | [],_=>rfl
 | x::l,h=>by
  simp_all
theorem Rf {a:AV} (h:dat a=true):bT a=[]:=by
 cases a <;> simp only [dat] at h <;> first | exact N7 h | skip
 ·exact Bg fun x hx=>N7 (List.all_eq_true.1 h x hx)
 ·simp [aB] at h;obtain ⟨rfl,rfl⟩:=h;rfl
theorem VX {a:AV} (h:dat a=true) (l:List Nat):aV l a=true:=by
 cases a <;> simp only [dat] at h <;> first | exact Re h l | skip
 all_goals grind [aV,List.all_eq_true,Re,aB]
theorem Rg {a:AV} (h:dat a=true) (g:Nat→Nat):dM g a=a:=by
 cases a <;> simp only [dat] at h <;> first | exact N8 h g | skip
 ·rename_i cs;show AV.agg (cs.map (kB g))=_;rw [(List.map_congr_left (g:=fun c=>c) fun x hx=>N8 (List.all_eq_true.1 h x hx) g).trans (List.map_id' cs)]
 ·simp [aB] at h;obtain ⟨rfl,rfl⟩:=h;rfl
theorem abZ {a:AV} (h:dat a=true) (hp:ac):cR hp 0 a=some (a,hp,[]):=by
 by_cases hagg:∃ cs,a=.agg cs
 ·grind [dat,cR,sI,i7]
 ·have h2:aB a=true:=by cases a <;> first | exact h | exact absurd ⟨_,rfl⟩ hagg
  cases a <;> first | (simp [aB] at h2; done) | rfl | skip
theorem D5 (hp:ac):∀ {l:List AV},l.all dat=true→bZ hp [] l=some (l,hp,[])
 | [],_=>rfl
 | a::l,h=>by
  simp only [List.all_cons,Bool.and_eq_true] at h;simp only [bZ,List.headD_nil,abZ h.1,Option.bind_some,List.tail_nil,D5 hp h.2,List.append_nil]
structure OC (o:Ob):Prop where
 cl:∀ l,aM l o=true
 ids:lj o=[]
 ren:∀ g,cZ g o=o
 nd:cM o=false
structure RT (r:AV):Prop where
 ren:∀ g,H8 g r=r
 mat:∀ n h,mat n h r=(r,h)
 ok:∀ l,jH l r=true
theorem tO:∀ l:List AV,ru [] l=[]
 | []=>rfl
 | a::l=>by
  show (if (0:Nat)=2 then _ else [])++ru [] l=[];rw [tO l];rfl
theorem N9 {f:FuncId} {h:ac} {d id:Nat} {zas as':List AV} {o o':Ob} {res:AV} (hm:(aG false).m f=[]) (hk:(aG false).keep f=false) (hn:br ((aG false).sh f) (.ref id none 0 0 0::zas)=.ref id none 0 0 0::as') (hd:zas.all dat=true) (hd':as'.all dat=true)
  (hh:h id=o) (ho:OC o) (ho':OC o') (hb:bf o=true→bf o'=true) (hR:R f (.ref 1000 none 0 0 0::as') [o]=some (res,[o'])) (hr:RT res) (h8:cG res≤8) (hfr:dp h (2000+8*d) (cG res)=true) :
  bE R (aG false) h d (.ref id none 0 0 0::zas) (.fn f [] [])=some (res,upd h id o',[(id,true)]):=by
 have h1:bZ h [] (.ref id none 0 0 0::zas)=some (.ref id none 0 0 0::zas,h,[]):=by
  simp only [bZ,cR,Option.bind_some,List.tail_nil,D5 h hd,List.append_nil]
 have hp:bJ [] ((AV.ref id none 0 0 0::zas).flatMap bT)=[id]:=by
  rw [List.flatMap_cons,Bg fun x hx=>Rf (List.all_eq_true.1 hd x hx)];rfl
 have hre:cf h 40 [id] 0=[id]:=by
  simp [cf,hh,ho.ids,bJ]
 have h3:bo [id] id=1000:=by simp [bo]
 have hall:(AV.ref id none 0 0 0::as').all (aV [id])=true:=by
  grind [aV,bg,VX]
 have hmap:(AV.ref id none 0 0 0::as').map (dM (bo [id]))=.ref 1000 none 0 0 0::as':=by
  rw [List.map_cons,(List.map_congr_left (g:=fun c=>c) fun x hx=>Rg (List.all_eq_true.1 hd' x hx) _).trans (List.map_id' as')];grind [dM,kB]
 have hob:([id].map fun a=>cZ (bo [id]) (h a))=[o]:=by simp [hh,ho.ren]
 have hids:([id].all fun a=>aM [id] (h a) && !cM (h a))=true:=by simp [hh,ho.cl,ho.nd]
 unfold bE;rw [if_neg (by grind [pL])];simp only [dU,hm,List.nil_append,List.append_nil,h1,Option.bind_some,hp,hre,hn];unfold kR;rw [hall,hids,hmap,hob,hR,Bool.and_self,if_pos rfl,Option.bind_some,hk,hm,tO];unfold fF;have hbf:dz h [] [id] [o']=true:=by
  have:=ho'.nd;grind [bf,dz]
 have hend:vQ h [id] [] (res,[o'])=true:=by
  simp [vQ,H9,hr.ok,ho'.cl]
 rw [if_pos ⟨rfl,by simp,h8,hfr,hbf,hend⟩];simp [dS,gA,hr.mat,hr.ren,ho'.ren]
theorem oT {f:FuncId} {h:ac} {d id:Nat} {zas:List AV} {r:Option R3} (hm:(aG false).m f=[]) (hd:zas.all dat=true) (hc:bE R (aG false) h d (.ref id none 0 0 0::zas) (.fn f [] [])=r):AE R (aG false) d f (.ref id none 0 0 0::zas,h,[])=r:=by
 have h1:bZ h [] (.ref id none 0 0 0::zas)=some (.ref id none 0 0 0::zas,h,[]):=by
  simp only [bZ,cR,Option.bind_some,List.tail_nil,D5 h hd,List.append_nil]
 rw [AF d hm,h1] at hc;exact hc
theorem ab0:RT (.tup []):=⟨fun _=>rfl,fun _ _=>rfl,fun _=>rfl⟩
theorem Tx {h:ac} {o:Ob} {rs:List (List Sh)} {vs us:List AV} {r:AV} (h0:((vs.flatMap bT).filter fun i=>!aR i)=[]) (h1:h 1000=o) (ho:aM [1000] o=true) (h2:rA h vs=some us) (h3:vS (br rs us)=r):uS rs 1 h vs=some (r,[o]):=by
 have hp:cp 1=[1000]:=rfl;unfold uS;rw [h0,hp,h2,if_pos (by grind [jl])];grind
structure ColE (v:Int) (l ts:List Rt) (e:Int) (c':AV) (l':List Rt) (e':Int):Prop where
 c:YK c' l'
 r:(e'=0∧e=0∧Bb l ts=some l')∨(e'=9∧(e=0→Bb l ts=none))
theorem ColE.fin {v:Int} {ts:List Rt} {c':AV} {l':List Rt} {e':Int} (h:ColE v [] ts 0 c' l' e'):(if e'=0 then abY v (some l') else (p0,e'))=abY v (Bb [] ts):=by
 rcases h.r with ⟨h1,_,h2⟩ | ⟨h1,h2⟩
 ·rw [if_pos h1,h2]
 ·rw [h1,if_neg (by decide),h2 rfl];rfl
def t2 (v:Int) (c:AV):Ob:=.bx [I v,c]
theorem lmB (m:List Nat):(az m).map (fun r=>match r with | [.v (.int _ x)]=>x.toNat | _=>0)=m:=by
 grind [az,List.map_map,List.map_congr_left,List.map_id']
def plC (a:Rp):List AV:=[I a.vars,.sl 4 (df a.terms)]
def VY (l:List Rp):List (List AV):=l.map plC
@[go_sem] theorem ald (l:List Rp):(VY l).length=l.length:=by simp [VY]
@[go_sem] theorem aib (l:List Rt):(df l).map (cX [.o 2 [],.o 0 [],.o 0 [],.o 0 []])=df l:=by
 refine uK fun x hx=>?_;simp only [df,List.mem_map] at hx;obtain ⟨t,ht,rfl⟩:=hx;simp only [en,go_sem]
@[go_sem] theorem ale (l:List Rp):(VY l).map (cX [.o 0 [],.o 5 [.o 2 [],.o 0 [],.o 0 [],.o 0 []]])=VY l:=by
 refine uK fun x hx=>?_;simp only [VY,List.mem_map] at hx;obtain ⟨t,ht,rfl⟩:=hx;simp only [plC,go_sem]
structure Res (r:Rp × Int):Prop where
 cl:Cl r.1.vars r.1.terms
 len:r.1.terms.length≤100000
 z:r.2=0∨r.1=p0
def cur (a b:List Int) (i:Nat):List Int:=(aia a b).take i++a.drop i
theorem ColE.app {v:Int} {l r r2:List Rt} {e:Int} {c1:AV} {l1:List Rt} {e1:Int} {c':AV} {l':List Rt} {e':Int} (h1:ColE v l r e c1 l1 e1) (h2:ColE v l1 r2 e1 c' l' e'):ColE v l (r++r2) e c' l' e':=by
 refine ⟨h2.c,?_⟩;rw [NZ];rcases h1.r with ⟨a1,a2,a3⟩ | ⟨a1,a2⟩
 ·rw [a3];rcases h2.r with ⟨b1,b2,b3⟩ | ⟨b1,b2⟩
  ·exact .inl ⟨b1,a2,b3⟩
  ·exact .inr ⟨b1,fun _=>b2 a1⟩
 ·rcases h2.r with ⟨b1,b2,b3⟩ | ⟨b1,b2⟩
  ·omega
  ·exact .inr ⟨b1,fun h=>by rw [a2 h]; rfl⟩
theorem ColE.nx {v:Int} {l r:List Rt} {e:Int} {c1:AV} {l1:List Rt} {e1:Int} (h:ColE v l r e c1 l1 e1) (hC:e=0→Cl v l) (hr:∀ t ∈ r,VT v t):(e1=0∨e1=9)∧(e1=0→e=0∧Cl v l1∧l1.length≤l.length+r.length):=by
 rcases h.r with ⟨a1,a2,a3⟩ | ⟨a1,a2⟩
 ·exact ⟨.inl a1,fun _=>⟨a2,QZ (hC a2) hr a3⟩⟩
 ·exact ⟨.inr a1,fun h=>by omega⟩
def IsL (x:AV) (l:List Rt):Prop:=x=.sl 4 (df l)∨(x=.emp∧l=[])
theorem IsL.keep {x:AV} {l:List Rt} (h:IsL x l) (hs:List Nat):aaL hs x=x:=by
 rcases h with rfl | ⟨rfl,_⟩ <;> rfl
theorem Oa {f:FuncId} {fd:FD} {args:List AV} {o:Ob} {r:AV × List Ob} (hE:dK.E f=none) (hC:dK.C f=some fd) (hk:dK.md.keep f=true) (h1:args.length=fd.np)
  (hz:gx true fd.rs fd.res 1 (ak R (aG true) fd.body (n8 args) (upd (fun _=>.dead) 1000 o))=some r):R f args [o]=some r:=by
 refine GU true hE hC hk h1 (by simp) ?_;rw [N0];exact hz
theorem ColE.nil {v:Int} {l:List Rt} {c:AV} {e:Int} (hc:YK c l) (he:e=0∨e=9):ColE v l [] e c l e:=by
 refine ⟨hc,?_⟩;rcases he with rfl | rfl
 ·exact .inl ⟨rfl,rfl,rfl⟩
 ·exact .inr ⟨rfl,fun h=>by omega⟩
structure Bf (v:Int) (l A:List Rt):Prop where
 cl:Cl v l
 lt:∀ q ∈ l,∀ t ∈ A,dx q.exps t.exps < 0
theorem Bf.nil {v:Int} (A:List Rt):Bf v [] A:=⟨Cl.nil _,fun q h=>by grind⟩
theorem Bf.drop {v:Int} {l A:List Rt} {t:Rt} (h:Bf v l (t::A)):Bf v l A:=⟨h.cl,fun q hq x hx=>h.lt q hq x (by grind)⟩
theorem Cl.tail {v:Int} {l:List Rt} {t:Rt} (h:Cl v (t::l)):Cl v l:=⟨fun q hq=>h.t q (by grind),(List.pairwise_cons.1 h.s).2⟩
theorem Bf.push {v:Int} {l A:List Rt} {t:Rt} {d:Rd} (h:Bf v l (t::A)) (hA:Cl v (t::A)) (vt:VT v ⟨t.exps,d⟩):Bf v (l++[⟨t.exps,d⟩]) A:=by
 refine ⟨⟨fun q hq=>?_,?_⟩,fun q hq x hx=>?_⟩
 ·rcases List.mem_append.1 hq with h1 | h1
  ·exact h.cl.t q h1
  grind
 ·rw [List.pairwise_append];refine ⟨h.cl.s,List.pairwise_singleton _ _,fun q hq x hx=>?_⟩;rw [List.mem_singleton.1 hx];exact h.lt q hq t (by simp)
 ·rcases List.mem_append.1 hq with h1 | h1
  ·exact h.lt q h1 x (by grind)
  ·rw [List.mem_singleton.1 h1];exact (List.pairwise_cons.1 hA.s).1 x hx
def Jn (blk:Option (Ex × St)) (i1 i2:Nat) (S:ae) (v':Int) (l1 l2 r1 r2:List Rt):Prop :=
 ∃ hh c1 c2,blk=some (.normal,⟨S,hh⟩)∧hh 4=.bx [I 0,.emp]∧hh 5=.bx [I 0,.emp]∧hh i1=t3 v' c1 0∧hh i2=t3 v' c2 0∧YK c1 (l1++r1)∧YK c2 (l2++r2)
theorem Jn.p1 {blk:Option (Ex × St)} {i1 i2:Nat} {S:ae} {v':Int} {l1 l2 r1 r2:List Rt} {t:Rt} (h:Jn blk i1 i2 S v' (l1++[t]) l2 r1 r2):Jn blk i1 i2 S v' l1 l2 (t::r1) r2:=by
 obtain ⟨hh,c1,c2,h1,h2,h3,h4,h5,h6,h7⟩:=h;exact ⟨hh,c1,c2,h1,h2,h3,h4,h5,by rwa [List.append_cons],h7⟩
theorem Jn.p2 {blk:Option (Ex × St)} {i1 i2:Nat} {S:ae} {v':Int} {l1 l2 r1 r2:List Rt} {t:Rt} (h:Jn blk i1 i2 S v' l1 (l2++[t]) r1 r2):Jn blk i1 i2 S v' l1 l2 r1 (t::r2):=by
 obtain ⟨hh,c1,c2,h1,h2,h3,h4,h5,h6,h7⟩:=h;exact ⟨hh,c1,c2,h1,h2,h3,h4,h5,h6,by rwa [List.append_cons]⟩
def bd (ds:List Int) (cs:List Ri) (p:Int):Ob:=.bx [.osl 1 (bw ds),.osl 7 (bB cs),I p]
def FY:List Int→Int→Int
 | [],n=>n
 | d::l,n=>FY l (n*(d+1))
theorem lP (a b:AV) (k:Nat) (r:List (List AV)):jc 0 (.bx [.osl k r,a,b])=some (k,r):=rfl
theorem rl (h:ac) (n:Nat) (g:Bool) (i j:Nat) (r:List (List AV)):kQ h n g 1 i j (some (1,r))=(r[i]?).bind fun row=>(jG n g row j).map fun a=>(a,h,[]):=rfl
theorem XY {ds:List Int} {cs:List Ri} {p:Int} {m:Nat} (hm:m≤ds.length) (h8:m≤1000) (hb:∀ d ∈ ds,0≤d∧d≤32) :
  ∀ (k i:Nat),i+k=m→∀ (n:Int),0≤n→n*33 ^ k≤10000000000000→∀ (s:ae) (h:ac),s 5=I n→s 13=.rsl 1000 (some 0) 1 0 m→s 14=I m→s 15=I i→h 1000=bd ds cs p →
  ∃ hh,ap 0 [5] (aq (ak R (aG true) fZ) [5,13,14,15] [1000] s h)=some (.normal,⟨upd (fun _=>.any) 5 (I (FY ((ds.take m).drop i) n)),hh⟩)∧hh 1000=bd ds cs p:=by
 intro k;induction k with
 | zero =>
  intro i hi n h0 hn s h g5 g13 g14 g15 k1000;have e1:((i:Int) < (m:Int))=False:=ff (by omega);rw [List.drop_eq_nil_of_le (by grind),ai];refine ⟨?hh0,?_,?_⟩;rotate_left
  ·simp only [fZ,bd,go_sem,am7,g5,g13,g14,g15,k1000,e1];rfl
  ·rfl
 | succ k ih =>
  intro i hi n h0 hn s h g5 g13 g14 g15 k1000;have hlt2:i < (ds.take m).length:=by grind
  have e1:((i:Int) < (m:Int))=True:=tt (by omega);have e2:(bw ds)[i]?=some [I (ds.take m)[i]]:=by
   unfold bw;rw [List.getElem?_map,List.getElem_take,List.getElem?_eq_getElem (by omega)];rfl
  have e5:IntKind.i64.wrap ((i:Int)+1)=((i+1:Nat):Int):=wi (by omega) (by omega);rw [List.drop_eq_getElem_cons hlt2];have hd:=hb (ds.take m)[i] (List.mem_of_mem_take (List.getElem_mem hlt2));generalize (ds.take m)[i]=d at e2 hd ⊢;have e6:(0≤(i:Int))=True:=tt (by omega);have e3:IntKind.i64.wrap (d+1)=d+1:=i64_in _ ⟨by omega,by omega⟩;have hn2:n*(d+1)*33 ^ k≤n*33 ^ (k+1):=by
   rw [Int.pow_succ,Int.mul_comm _ 33,← Int.mul_assoc];exact Int.mul_le_mul_of_nonneg_right (Int.mul_le_mul_of_nonneg_left (by omega) h0) (Int.pow_nonneg (by decide))
  have hp1:(1:Int)≤33 ^ k:=by
   have:=Int.pow_pos (n:=33) (m:=k) (by decide);omega
  have hn0:0≤n*(d+1):=Int.mul_nonneg h0 (by omega);have hn3:n*(d+1)≤10000000000000:=by
   have:=Int.mul_le_mul_of_nonneg_left hp1 hn0;omega
  have e4:IntKind.i64.wrap (n*(d+1))=n*(d+1):=i64_in _ ⟨by omega,by omega⟩;have ih':=ih (i+1) (by omega) (n*(d+1)) hn0 (by omega);rw [ai];simp only [bd] at k1000;simp only [fZ,go_sem,am7,g5,g13,g14,g15,k1000,e1,e2,e3,e4,e5,e6,Int.toNat_natCast,Nat.zero_add,lP,rl];exact ih' _ _ rfl rfl rfl rfl rfl
theorem aee {ds:List Int} {cs:List Ri} {p:Int} {m:Nat} (hm:m≤ds.length) (h8:m≤8) (hb:∀ d ∈ ds,0≤d∧d≤32) (s:ae) (h:ac) (X:Option (Ex × St)) (hX:ap 0 [5] (aq (ak R (aG true) fZ) [5,13,14,15] [1000] s h)=X) (g5:s 5=I 1) (g13:s 13=.rsl 1000 (some 0) 1 0 m) (g14:s 14=I m) (g15:s 15=I 0) (k1000:h 1000=bd ds cs p) :
  ∃ hh,X=some (.normal,⟨upd (fun _=>.any) 5 (I (FY (ds.take m) 1)),hh⟩)∧hh 1000=bd ds cs p:=by
 subst hX;exact XY hm (by omega) hb m 0 (Nat.zero_add _) 1 (by decide) (by
  have:(33:Int) ^ m≤33 ^ 8:=by
   have h1:33 ^ m≤33 ^ 8:=Nat.pow_le_pow_right (by decide) h8;grind
  omega) s h g5 g13 g14 g15 k1000
theorem rm (ds:List Int):(bw ds).length=ds.length:=by simp [bw]
theorem aac {ds:List Int} {cs:List Ri} {p:Int} {m:Nat} (hm:m≤ds.length) (h8:m≤8) (hb:∀ d ∈ ds,0≤d∧d≤32):R F.bound_grid_step [.ref 1000 none 0 0 0,I m] [bd ds cs p]=some (I (FY (ds.take m) 1),[bd ds cs p]):=by
 refine Oa Ek Ej (sw false) rfl ?_;have hl:=aee (ds:=ds) (cs:=cs) (p:=p) hm h8 hb;have e1:eu 1 (.rsl 1000 (some 0) 1 0 ds.length) none (some (I (m:Int))) none=some (.rsl 1000 (some 0) 1 0 m):=by
  grind [eu,kw,jK]
 simp only [oC,vH,go_sem,am4,am3,bd,rm,e1];generalize hX:ap 0 [5] _=X;obtain ⟨hh,rfl,q⟩:=hl _ _ _ hX rfl rfl rfl rfl rfl;exact Tx rfl q rfl (by rfl) (by rfl)
def BM (c1 c2:dP):Prop:=∀ f a hs r,c1 f a hs=some r→c2 f a hs=some r
section
variable {c1 c2:dP} {md:Mode}
theorem P3 (hc:BM c1 c2) {h:ac} {d:Nat} {zas:List AV} {f:AV} {r:R3} (hz:dU c1 md h d zas f=some r):dU c2 md h d zas f=some r:=by
 cases f <;> simp only [dU] at hz ⊢ <;> try (cases hz; done)
 simp only [Option.bind_eq_some_iff] at hz ⊢;obtain ⟨p,e1,e2⟩:=hz;unfold kR at e2 ⊢;split at e2
 ·rename_i hcc;simp only [Option.bind_eq_some_iff] at e2;obtain ⟨q,e3,e4⟩:=e2;refine ⟨p,e1,?_⟩;rw [if_pos hcc];simp only [Option.bind_eq_some_iff];exact ⟨q,hc _ _ _ _ e3,e4⟩
 ·cases e2
theorem Hr (hc:BM c1 c2) {h:ac} {d:Nat} {zas:List AV} {f:AV} {r:R3} (hz:bE c1 md h d zas f=some r):bE c2 md h d zas f=some r:=by
 unfold bE at hz ⊢;split at hz
 ·rename_i hb;rw [if_pos hb];cases f <;> simp only [Ls] at hz ⊢ <;> try (cases hz; done)
  simp only [Option.bind_eq_some_iff] at hz ⊢;obtain ⟨p,e1,q,e3,e4⟩:=hz;exact ⟨p,e1,q,hc _ _ _ _ e3,e4⟩
 ·rename_i hb;rw [if_neg hb];exact P3 hc hz
theorem KB (hc:BM c1 c2) {d:Nat} {op:AOp} {s:ae} {h:ac} {r:R3} (hz:step c1 md d op s h=some r):step c2 md d op s h=some r:=by
 cases op with
 | call f zas=>exact Hr hc hz
 | callC f zas =>
  simp only [step,Option.bind_eq_some_iff] at hz ⊢;obtain ⟨q,e1,e2⟩:=hz;exact ⟨q,Hr hc e1,e2⟩
 | _=>exact hz
theorem KC (hc:BM c1 c2) {d:Option Nat} {op:AOp} {s:ae} {h:ac} {t:St} (hz:cA md.nm s d (step c1 md (d.getD 0) op s h)=some t):cA md.nm s d (step c2 md (d.getD 0) op s h)=some t:=by
 cases hs:step c1 md (d.getD 0) op s h with
 | none=>rw [hs] at hz; cases hz
 | some r =>
  rw [hs] at hz;rw [KB hc hs];exact hz
theorem Ty (hc:BM c1 c2) {o:COp} {s:ae} {h:ac} {t:St} (hz:iQ c1 md o s h=some t):iQ c2 md o s h=some t:=by
 unfold iQ at hz ⊢;cases hg:o.g with
 | none=>rw [hg] at hz; exact KC hc hz
 | some g =>
  rw [hg] at hz;simp only at hz ⊢;unfold ik at hz ⊢;split at hz
  ·split at hz
   ·rename_i hb;simp only [if_pos hb];exact KC hc hz
   ·rename_i hb;simp only [if_neg hb];exact hz
  ·exact hz
  ·cases hz
theorem xP (hc:BM c1 c2):∀ {l:List COp} {s:ae} {h:ac} {t:St},aC c1 md l s h=some t→aC c2 md l s h=some t
 | [],s,h,t,hz=>hz
 | o::l,s,h,t,hz=>by
  simp only [aC,aT] at hz;split at hz
  ·cases hz
  ·rename_i t1 ht1;simp only [aC,aT,Ty hc ht1,xP hc hz]
theorem Hs (hc:BM c1 c2) {d:Option Nat} {op:AOp} {s:ae} {h:ac} {f:ac→Fp} {t:St × Fp} (hz:jI s d f (step c1 md (d.getD 0) op s h)=some t):jI s d f (step c2 md (d.getD 0) op s h)=some t:=by
 cases hs:step c1 md (d.getD 0) op s h with
 | none=>rw [hs] at hz; cases hz
 | some r =>
  rw [hs] at hz;rw [KB hc hs];exact hz
theorem Tz (hc:BM c1 c2) {o:COp} {s:ae} {h:ac} {t:St × Fp} (hz:cU c1 md o s h=some t):cU c2 md o s h=some t:=by
 unfold cU at hz ⊢;cases hg:o.g with
 | none=>rw [hg] at hz; exact Hs hc hz
 | some g =>
  rw [hg] at hz;simp only at hz ⊢;unfold lT at hz ⊢;split at hz
  ·split at hz
   ·rename_i hb;simp only [if_pos hb];exact Hs hc hz
   ·rename_i hb;simp only [if_neg hb];exact hz
  ·exact hz
  ·cases hz
theorem C8 (hc:BM c1 c2):∀ {l:List COp} {s:ae} {h:ac} {t:St × List Fp},fg c1 md l s h=some t→fg c2 md l s h=some t
 | [],s,h,t,hz=>hz
 | o::l,s,h,t,hz=>by
  simp only [fg,Option.bind_eq_some_iff] at hz;obtain ⟨r,e1,q,e2,e3⟩:=hz;simp only [fg,Tz hc e1,C8 hc e2,Option.bind_some,e3]
theorem TA (hc:BM c1 c2) {l:List COp} {ps:List (Nat × Nat)} {s:ae} {h:ac} {t:St} (hz:lU c1 md l ps s h=some t):lU c2 md l ps s h=some t:=by
 unfold lU at hz ⊢;cases hb:tW ps with
 | none =>
  rw [hb] at hz;simp only [uo,Option.bind_eq_some_iff] at hz;obtain ⟨q,e1,e2⟩:=hz;simp only [uo,C8 hc e1,Option.bind_some,e2]
 | some b =>
  rw [hb] at hz;simp only [Ao,Option.bind_eq_some_iff] at hz;obtain ⟨q,e1,e2⟩:=hz;split at e2
  ·rename_i hps;simp only [aT] at e2;split at e2
   ·cases e2
   ·rename_i t1 ht1;simp only [Ao,C8 hc e1,Option.bind_some,if_pos hps,ht1,aT,xP hc e2]
  ·cases e2
theorem C9 {b1 b2:ae→ac→Option (Ex × St)} {ks hs:List Nat} (ih:∀ {s:ae} {h:ac} {r:Ex × St},b1 s h=some r→b2 s h=some r) :
  ∀ (m:Nat) {j:Nat},m≤j→∀ {s:ae} {h:ac} {r:Ex × St},ng b1 ks hs m s h=some r→ng b2 ks hs j s h=some r
 | 0,j,hj,s,h,r,hz=>by simp [ng] at hz
 | m+1,j,hj,s,h,r,hz=>by
  obtain ⟨j,rfl⟩:∃ j',j=j'+1:=⟨j - 1,by omega⟩;simp only [ng] at hz ⊢;split at hz
  ·rename_i hc;rw [if_pos hc];cases hb:b1 (mk .any (fun i=>aaL hs (s i)) ks) (mk .dead h hs) with
   | none=>rw [hb] at hz; cases hz
   | some q =>
    rw [hb] at hz;rw [ih hb];obtain ⟨ex,t⟩:=q;cases ex with
    | normal=>exact C9 ih m (by omega) hz
    | exit id=>exact hz
    | ret=>exact hz
  ·cases hz
theorem gw (hc:BM c1 c2) {lf lf':Nat} (hl:lf≤lf'):∀ (c:Cmd) {s:ae} {h:ac} {r:Ex × St},bF c1 md lf c s h=some r→bF c2 md lf' c s h=some r
 | .skip,s,h,r,hz=>hz
 | .ops ks l,s,h,r,hz=>by
  simp only [bF,aT] at hz;split at hz
  ·cases hz
  ·rename_i t1 ht1;simp only [bF,xP hc ht1,aT];exact hz
 | .dops ks l ps,s,h,r,hz=>by
  simp only [bF,aT] at hz;split at hz
  ·cases hz
  ·rename_i t1 ht1;simp only [bF,TA hc ht1,aT];exact hz
 | .seq a b,s,h,r,hz=>by
  simp only [bF,cj] at hz;split at hz
  ·cases hz
  ·rename_i t1 ht1;simp only [bF,cj,gw hc hl a ht1,gw hc hl b hz]
  ·rename_i i t1 ht1;simp only [bF,cj,gw hc hl a ht1];exact hz
  ·rename_i t1 ht1;simp only [bF,cj,gw hc hl a ht1];exact hz
 | .cond c a b,s,h,r,hz=>by
  simp only [bF,lV] at hz;split at hz
  ·rename_i t ht;cases t with
   | true=>simp only [bF,lV,ht,if_true]; exact gw hc hl a hz
   | false=>simp only [bF,lV,ht,Bool.false_eq_true,if_false]; exact gw hc hl b hz
  ·cases hz
 | .block id ks a,s,h,r,hz=>by
  simp only [bF,ap] at hz;split at hz
  ·cases hz
  ·rename_i t1 ht1;simp only [bF,ap,gw hc hl a ht1];exact hz
  ·rename_i i t1 ht1;simp only [bF,ap,gw hc hl a ht1];exact hz
  ·rename_i t1 ht1;simp only [bF,ap,gw hc hl a ht1];exact hz
 | .loop ks hs a,s,h,r,hz=>by
  simp only [bF] at hz ⊢;exact C9 (fun hh=>gw hc hl a hh) lf hl hz
 | .exit id,s,h,r,hz=>hz
 | .ret,s,h,r,hz=>hz
 | .frz is a,s,h,r,hz=>by
  simp only [bF,aT] at hz;split at hz
  ·cases hz
  ·rename_i t1 ht1;simp only [bF,aT,ht1];exact gw hc hl a hz
end
theorem ab1:Option.any aU (some AV.emp)=false:=rfl
theorem ab2 {h:ac} {id id2 k n:Nat} {rows:List (List AV)} {a:AV} {z:Int} (h1:h id2=.ar k rows) (hn:n=rows.length) (h2:h id=.bx [.any,.any,.any]) (hne:id ≠ id2) :
  Fa id 0 [.rsl id2 none k 0 n,.emp,I z] (a,h,[])=some (a,upd (upd (upd (upd h id2 .dead) id (.bx [.osl k rows,.any,.any])) id (.bx [.osl k rows,.emp,.any])) id (.bx [.osl k rows,.emp,I z]),[(id2,false)]):=by
 have h3:upd h id2 .dead id=.bx [.any,.any,.any]:=by
  simp_all [upd,if_neg]
 have e1:∀ (g:ac) o,upd g id o id=o:=fun g o=>by simp_all [upd,if_pos]
 have k1:∀ K,nD K .emp=.emp:=fun K=>rfl;have k2:∀ K,nD K (I z)=I z:=fun K=>rfl
 simp_all [aU,aB,I,Fa,mz,Bp,JS,E9,vP]
def wo:List Int→Int→Option Int
 | [],n=>some n
 | d::l,n=>if 400 < n*(d+1) then none else wo l (n*(d+1))
def Gr2 (blk:Option (Ex × St)) (o2 g:Ob):Option Int→Prop
 | some n=>∃ hh,blk=some (.normal,⟨upd (upd (upd (fun _=>.any) 11 (I n)) 6 (.ref 24 none 0 0 0)) 2 (.ref 2 none 0 0 0),hh⟩)∧hh 2=o2∧hh 24=g∧(∀ a,a ≠ 2→a ≠ 24→hh a=.dead)
 | none=>∃ hh,blk=some (.ret,⟨upd (upd (fun _=>.any) 5 (B false)) 4 (.v (.pointer none)),hh⟩)
theorem arR {ds:List Int} {p:Int} {m:Nat} (hm:m=ds.length) (h8:m≤1000) (hb:∀ d ∈ ds,0≤d∧d≤32) {o2:Ob} (c2:∀ l,aM l o2=true) :
  ∀ (k i:Nat),i+k=m→∀ (n:Int),0≤n→n≤400→∀ (s:ae) (h:ac),s 2=.ref 2 none 0 0 0→s 6=.ref 24 none 0 0 0→s 11=I n→s 60=.rsl 24 (some 0) 1 0 m→s 61=I m→s 62=I i→h 2=o2→h 21=.dead→h 24=.bx [.osl 1 (bw ds),.emp,I p]→h 2624=.dead →
  Gr2 (ap 4 [2,6,11] (aq (ak R (aG false) eJ) [2,6,11,60,61,62] [2,21,24,2624] s h)) o2 (.bx [.osl 1 (bw ds),.emp,I p]) (wo (ds.drop i) n):=by
 intro k;induction k with
 | zero =>
  intro i hi n h0 hn s h g2 g6 g11 g60 g61 g62 k2 k21 k24 k2624;have e1:((i:Int) < (m:Int))=False:=ff (by omega);have hc:=c2 [2,21,24,2624];rw [List.drop_eq_nil_of_le (by omega),ai];refine ⟨?hh0,?_,?_,?_,?_⟩;rotate_left
  ·simp only [eJ,go_sem,am7,g2,g6,g11,g60,g61,g62,k2,k21,k24,k2624,hc,e1];rfl
  all_goals simp_all [acj,if_false,ite_self]
 | succ k ih =>
  intro i hi n h0 hn s h g2 g6 g11 g60 g61 g62 k2 k21 k24 k2624;have hlt:i < ds.length:=by omega
  have e1:((i:Int) < (m:Int))=True:=tt (by omega);have e2:(bw ds)[i]?=some [I ds[i]]:=by
   grind [bw]
  have e5:IntKind.i64.wrap ((i:Int)+1)=((i+1:Nat):Int):=wi (by omega) (by omega);have hc:=c2 [2,21,24,2624];rw [List.drop_eq_getElem_cons hlt];have hd:=hb ds[i] (List.getElem_mem hlt);generalize ds[i]=d at e2 hd ⊢;have e6:(0≤(i:Int))=True:=tt (by omega);have e3:IntKind.i64.wrap (d+1)=d+1:=i64_in _ ⟨by omega,by omega⟩;have hn0:0≤n*(d+1):=Int.mul_nonneg h0 (by omega);have hn3:n*(d+1)≤400*33:=Int.mul_le_mul hn (by omega) (by omega) (by decide);have e4:IntKind.i64.wrap (n*(d+1))=n*(d+1):=i64_in _ ⟨by omega,by omega⟩;have ih':=ih (i+1) (by omega) (n*(d+1)) hn0;have hrow:wo (d::ds.drop (i+1)) n=if 400 < n*(d+1) then none else wo (ds.drop (i+1)) (n*(d+1)):=rfl
  rw [hrow,ai];by_cases hq:400 < n*(d+1)
  ·have e7:(400 < n*(d+1))=True:=eq_true hq;rw [if_pos hq];refine ⟨?hh1,?_⟩;rotate_left
   ·simp only [eJ,go_sem,am7,g2,g6,g11,g60,g61,g62,k2,k21,k24,k2624,hc,e1,e2,e3,e4,e6,e7,Int.toNat_natCast,Nat.zero_add,lP,rl];rfl
  ·have e7:(400 < n*(d+1))=False:=eq_false hq;simp only [eJ,go_sem,am7,g2,g6,g11,g60,g61,g62,k2,k21,k24,k2624,hc,e1,e2,e3,e4,e5,e6,e7,Int.toNat_natCast,Nat.zero_add,lP,rl];refine ih' (by omega) _ _ ?_ ?_ ?_ ?_ ?_ ?_ ?_ ?_ ?_ ?_
   all_goals first | rfl | assumption
theorem aef {ds:List Int} {p:Int} {m:Nat} (hm:m=ds.length) (h8:m≤1000) (hb:∀ d ∈ ds,0≤d∧d≤32) {o2:Ob} (c2:∀ l,aM l o2=true) (s:ae) (h:ac) (X:Option (Ex × St)) (hX:ap 4 [2,6,11] (aq (ak R (aG false) eJ) [2,6,11,60,61,62] [2,21,24,2624] s h)=X) (g2:s 2=.ref 2 none 0 0 0) (g6:s 6=.ref 24 none 0 0 0) (g11:s 11=I 1) (g60:s 60=.rsl 24 (some 0) 1 0 m) (g61:s 61=I m) (g62:s 62=I 0) (k2:h 2=o2) (k21:h 21=.dead) (k24:h 24=.bx [.osl 1 (bw ds),.emp,I p]) (k2624:h 2624=.dead) :
  Gr2 X o2 (.bx [.osl 1 (bw ds),.emp,I p]) (wo ds 1):=by
 subst hX;exact arR hm h8 hb c2 m 0 (Nat.zero_add _) 1 (by decide) (by decide) s h g2 g6 g11 g60 g61 g62 k2 k21 k24 k2624
theorem aad (h:ac) (i:Nat) (xs:List AV) (a b:AV) (r:List (List AV)):An h 1 24 0 1 i 0 xs [] (.bx [.osl 1 r,a,b])=(nc 1 1 i 0 xs 1 r).map fun q=>(.und,upd h 24 (.bx [.osl 1 q,a,b]),[]):=rfl
theorem Da {f:FuncId} {h:ac} {d id:Nat} {zas as':List AV} {o o':Ob} {res:AV} (hm:(aG false).m f=[]) (hk:(aG false).keep f=true) (hn:br ((aG false).sh f) (.ref id none 0 0 0::zas)=.ref id none 0 0 0::as') (hd:zas.all dat=true) (hd':as'.all dat=true)
  (hh:h id=o) (ho:OC o) (ho':OC o') (hb:bf o=true→bf o'=true) (hR:R f (.ref 1000 none 0 0 0::as') [o]=some (res,[o'])) (hr:RT res) (h8:cG res≤8) (hfr:dp h (2000+8*d) (cG res)=true) :
  bE R (aG false) h d (.ref id none 0 0 0::zas) (.fn f [] [])=some (res,upd h id o',[]):=by
 have h1:bZ h [] (.ref id none 0 0 0::zas)=some (.ref id none 0 0 0::zas,h,[]):=by
  simp only [bZ,cR,Option.bind_some,List.tail_nil,D5 h hd,List.append_nil]
 have hp:bJ [] ((AV.ref id none 0 0 0::zas).flatMap bT)=[id]:=by
  rw [List.flatMap_cons,Bg fun x hx=>Rf (List.all_eq_true.1 hd x hx)];rfl
 have hre:cf h 40 [id] 0=[id]:=by
  simp [cf,hh,ho.ids,bJ]
 have h3:bo [id] id=1000:=by simp [bo]
 have hall:(AV.ref id none 0 0 0::as').all (aV [id])=true:=by
  grind [aV,bg,VX]
 have hmap:(AV.ref id none 0 0 0::as').map (dM (bo [id]))=.ref 1000 none 0 0 0::as':=by
  rw [List.map_cons,(List.map_congr_left (g:=fun c=>c) fun x hx=>Rg (List.all_eq_true.1 hd' x hx) _).trans (List.map_id' as')];grind [dM,kB]
 have hob:([id].map fun a=>cZ (bo [id]) (h a))=[o]:=by simp [hh,ho.ren]
 have hids:([id].all fun a=>aM [id] (h a) && !cM (h a))=true:=by simp [hh,ho.cl,ho.nd]
 unfold bE;rw [if_neg (by grind [pL])];simp only [dU,hm,List.nil_append,List.append_nil,h1,Option.bind_some,hp,hre,hn];unfold kR;rw [hall,hids,hmap,hob,hR,Bool.and_self,if_pos rfl,Option.bind_some,hk,hm,tO];unfold fF;have hbf:dz h [] [id] [o']=true:=by
  have:=ho'.nd;grind [bf,dz]
 have hend:vQ h [id] [] (res,[o'])=true:=by
  simp [vQ,H9,hr.ok,ho'.cl]
 rw [if_pos ⟨rfl,by simp,h8,hfr,hbf,hend⟩];simp [dS,gA,hr.mat,hr.ren,ho'.ren]
theorem bu (ds:List Int) (cs:List Ri) (p:Int):OC (bd ds cs p):=⟨fun _=>rfl,rfl,fun _=>rfl,rfl⟩
theorem aic (z:Int):RT (I z):=⟨fun _=>rfl,fun _ _=>rfl,fun _=>rfl⟩
theorem Db {ds:List Int} {cs:List Ri} {p:Int} {m:Nat} (hm:m≤ds.length) (h8:m≤8) (hb:∀ d ∈ ds,0≤d∧d≤32) {h:ac} {d id:Nat} (hh:h id=bd ds cs p) (hd:h (2000+8*d)=.dead) :
  bE R (aG false) h d [.ref id none 0 0 0,I m] (.fn F.bound_grid_step [] [])=some (I (FY (ds.take m) 1),upd h id (bd ds cs p),[]) :=
 Da (iO false) (sw false) (as':=[I m]) (by simp only [go_sem]) rfl rfl hh (bu _ _ _) (bu _ _ _) (fun _=>rfl) (aac hm h8 hb) (aic _) (Nat.le_of_ble_eq_true rfl) (by grind [dp,cG,cM])
theorem rn (a b:AV) (k:Nat) (r:List (List AV)):jc 1 (.bx [a,.osl k r,b])=some (k,r):=rfl
theorem aeg {f:FuncId} {fd:FD} {args:List AV} {os:List Ob} {r:AV × List Ob} (hE:dK.E f=none) (hC:dK.C f=some fd) (hk:dK.md.keep f=false) (h1:args.length=fd.np) (h2:os.length≤1000)
  (hz:gx false fd.rs fd.res os.length (ak R (aG false) fd.body (n8 args) (aj os))=some r):R f args os=some r :=
 GU false hE hC hk h1 h2 hz
theorem Oc (a b c d e:Ob):aj [a,b,c,d,e]=upd (upd (upd (upd (upd (fun _=>.dead) 1004 e) 1003 d) 1002 c) 1001 b) 1000 a:=by
 funext i;unfold aj upd;by_cases h0:i=1000
 ·simp_all
 by_cases h1:i=1001
 ·simp_all
 by_cases h2:i=1002
 ·simp_all
 by_cases h3:i=1003
 ·simp_all
 by_cases h4:i=1004
 ·simp_all
 simp only [h0,h1,h2,h3,h4,if_false];by_cases h5:1000≤i
 ·rw [if_pos h5,List.getElem?_eq_none (by simp; omega)]; rfl
 grind
theorem Od (a b c:Ob):aj [a,b,c]=upd (upd (upd (fun _=>.dead) 1002 c) 1001 b) 1000 a:=by
 funext i;unfold aj upd;by_cases h0:i=1000
 ·simp_all
 by_cases h1:i=1001
 ·simp_all
 by_cases h2:i=1002
 ·simp_all
 simp only [h0,h1,h2,if_false];by_cases h5:1000≤i
 ·rw [if_pos h5,List.getElem?_eq_none (by grind)]; rfl
 grind
def dL (x:Ri):Ob:=.bx [B x.lo.neg,lm x.lo.m,I x.lo.e,B x.hi.neg,lm x.hi.m,I x.hi.e,B x.all]
theorem dy (x:Ri):OC (dL x):=⟨fun _=>rfl,rfl,fun _=>rfl,rfl⟩
theorem TB {l st n:Int} {lo w:Ri} {ds:List Int} {cs cs':List Ri} {p:Int} (hR:R F.bound_grid_unit_1 [I l,I st,.ref 1000 none 0 0 0,.ref 1001 none 0 0 0,.ref 1002 none 0 0 0,.ref 1003 none 0 0 0] [.bx [I n],.bx [.ref 1004 none 0 0 0],dL lo,dL w,bd ds cs p]=some (.tup [],[.bx [I n],.bx [.ref 1004 none 0 0 0],dL lo,dL w,bd ds cs' p])) {h:ac} {d:Nat} (h0:h 1000=bd ds cs p) (h1:h 1001=.bx [I n]) (h2:h 1002=.bx [.ref 1000 none 0 0 0]) (h3:h 1003=dL lo) (h4:h 1004=dL w) (hf:h (2000+8*d)=.dead) :
  bE R (aG false) h d [I l,I st] (.fn F.bound_grid_unit_1 [] [.ref 1001 none 0 0 0,.ref 1002 none 0 0 0,.ref 1003 none 0 0 0,.ref 1004 none 0 0 0])=some (.tup [],upd (upd (upd (upd (upd h 1001 (.bx [I n])) 1002 (.bx [.ref 1000 none 0 0 0])) 1003 (dL lo)) 1004 (dL w)) 1000 (bd ds cs' p),[(1001,true),(1002,true),(1003,true),(1004,true),(1000,true)]):=by
 have hre:cf h 40 [1001,1002,1003,1004] 0=[1001,1002,1003,1004,1000]:=by
  have i0:lj (bd ds cs p)=[]:=(bu ds cs p).ids;have i1:lj (.bx [I n])=[]:=rfl;have i2:lj (.bx [.ref 1000 none 0 0 0])=[1000]:=rfl;have i3:lj (dL lo)=[]:=(dy lo).ids;have i4:lj (dL w)=[]:=(dy w).ids
  simp_all [cf,bJ]
 unfold bE;rw [if_neg (by simp [pL,eX.1.2.1])];have hin:bZ h [] [I l,I st,.ref 1001 none 0 0 0,.ref 1002 none 0 0 0,.ref 1003 none 0 0 0,.ref 1004 none 0 0 0]=some ([I l,I st,.ref 1001 none 0 0 0,.ref 1002 none 0 0 0,.ref 1003 none 0 0 0,.ref 1004 none 0 0 0],h,[]):=rfl;have hids:bJ [] ([I l,I st,AV.ref 1001 none 0 0 0,.ref 1002 none 0 0 0,.ref 1003 none 0 0 0,.ref 1004 none 0 0 0].flatMap bT)=[1001,1002,1003,1004]:=rfl;simp only [dU,eX.1.2.1,List.nil_append,List.cons_append,hin,Option.bind_some,hids,hre,eX.1.1];have hn:br [] [I l,I st,AV.ref 1001 none 0 0 0,.ref 1002 none 0 0 0,.ref 1003 none 0 0 0,.ref 1004 none 0 0 0]=[I l,I st,AV.ref 1001 none 0 0 0,.ref 1002 none 0 0 0,.ref 1003 none 0 0 0,.ref 1004 none 0 0 0]:=rfl;rw [hn];unfold kR;have hob:([1001,1002,1003,1004,1000].map fun a=>cZ (bo [1001,1002,1003,1004,1000]) (h a))=[.bx [I n],.bx [.ref 1004 none 0 0 0],dL lo,dL w,bd ds cs p]:=by
  simp only [List.map,h0,h1,h2,h3,h4];rfl
 have hcl:([1001,1002,1003,1004,1000].all fun a=>aM [1001,1002,1003,1004,1000] (h a) && !cM (h a))=true:=by
  simp only [List.all_cons,List.all_nil,h0,h1,h2,h3,h4];rfl
 rw [hob,hcl,if_pos (by rfl)];rw [show [I l,I st,AV.ref 1001 none 0 0 0,.ref 1002 none 0 0 0,.ref 1003 none 0 0 0,.ref 1004 none 0 0 0].map (dM (bo [1001,1002,1003,1004,1000]))=[I l,I st,.ref 1000 none 0 0 0,.ref 1001 none 0 0 0,.ref 1002 none 0 0 0,.ref 1003 none 0 0 0] from rfl,hR,Option.bind_some,eX.1.2.2.2,eX.1.2.1,tO];unfold fF;rw [if_pos ⟨rfl,Nat.le_of_ble_eq_true rfl,Nat.le_of_ble_eq_true rfl,by simp [dp,cG],by grind [dz,dL,bd,bf,cM],rfl⟩];rfl
theorem TC {l st n:Int} {ds:List Int} {cs cs':List Ri} {p:Int} (hR:R F.bound_grid_bernstein_1 [I l,I st,.ref 1000 none 0 0 0,.ref 1001 none 0 0 0] [.bx [I n],.bx [.ref 1002 none 0 0 0],bd ds cs p]=some (.tup [],[.bx [I n],.bx [.ref 1002 none 0 0 0],bd ds cs' p])) {h:ac} {d:Nat} (h0:h 1000=bd ds cs p) (h1:h 1001=.bx [I n]) (h2:h 1002=.bx [.ref 1000 none 0 0 0]) (hf:h (2000+8*d)=.dead) :
  bE R (aG false) h d [I l,I st] (.fn F.bound_grid_bernstein_1 [] [.ref 1001 none 0 0 0,.ref 1002 none 0 0 0])=some (.tup [],upd (upd (upd h 1001 (.bx [I n])) 1002 (.bx [.ref 1000 none 0 0 0])) 1000 (bd ds cs' p),[(1001,true),(1002,true),(1000,true)]):=by
 have hre:cf h 40 [1001,1002] 0=[1001,1002,1000]:=by
  have i0:lj (bd ds cs p)=[]:=(bu ds cs p).ids;have i1:lj (.bx [I n])=[]:=rfl;have i2:lj (.bx [.ref 1000 none 0 0 0])=[1000]:=rfl
  simp_all [cf,bJ]
 unfold bE;rw [if_neg (by simp [pL,de.1.2.1])];have hin:bZ h [] [I l,I st,.ref 1001 none 0 0 0,.ref 1002 none 0 0 0]=some ([I l,I st,.ref 1001 none 0 0 0,.ref 1002 none 0 0 0],h,[]):=rfl;have hids:bJ [] ([I l,I st,AV.ref 1001 none 0 0 0,.ref 1002 none 0 0 0].flatMap bT)=[1001,1002]:=rfl;simp only [dU,de.1.2.1,List.nil_append,List.cons_append,hin,Option.bind_some,hids,hre,de.1.1];have hn:br [] [I l,I st,AV.ref 1001 none 0 0 0,.ref 1002 none 0 0 0]=[I l,I st,AV.ref 1001 none 0 0 0,.ref 1002 none 0 0 0]:=rfl;rw [hn];unfold kR;have hob:([1001,1002,1000].map fun a=>cZ (bo [1001,1002,1000]) (h a))=[.bx [I n],.bx [.ref 1002 none 0 0 0],bd ds cs p]:=by
  simp only [List.map,h0,h1,h2];rfl
 have hcl:([1001,1002,1000].all fun a=>aM [1001,1002,1000] (h a) && !cM (h a))=true:=by
  simp only [List.all_cons,List.all_nil,h0,h1,h2];rfl
 rw [hob,hcl,if_pos (by rfl)];rw [show [I l,I st,AV.ref 1001 none 0 0 0,.ref 1002 none 0 0 0].map (dM (bo [1001,1002,1000]))=[I l,I st,.ref 1000 none 0 0 0,.ref 1001 none 0 0 0] from rfl,hR,Option.bind_some,de.1.2.2.2,de.1.2.1,tO];unfold fF;rw [if_pos ⟨rfl,Nat.le_of_ble_eq_true rfl,Nat.le_of_ble_eq_true rfl,by simp [dp,cG],by grind [dz,bd,bf,cM],rfl⟩];rfl
theorem Oe {f:FuncId} {h:ac} {d:Nat} {zas as':List AV} {r:Option R3} (hm:(aG false).m f=[]) (hd:bZ h [] zas=some (as',h,[])) (hc:bE R (aG false) h d zas (.fn f [] [])=r):AE R (aG false) d f (as',h,[])=r:=by
 grind [AF]
theorem Ht {i:Nat} {m:Int} {lo w:Ri} {ds:List Int} {cs cs':List Ri} {p:Int} (hR:R F.bound_grid_lines [.ref 1000 none 0 0 0,I i,.fn F.bound_grid_unit_1 [] [.ref 1001 none 0 0 0,.ref 1002 none 0 0 0,.ref 1003 none 0 0 0,.ref 1004 none 0 0 0]] [bd ds cs p,.bx [I m],.bx [.ref 1000 none 0 0 0],dL lo,dL w]=some (.tup [],[bd ds cs' p,.bx [I m],.bx [.ref 1000 none 0 0 0],dL lo,dL w])) {h:ac} {d:Nat} (h0:h 1000=bd ds cs p) (h1:h 8=.bx [I m]) (h2:h 3=.bx [.ref 1000 none 0 0 0]) (h3:h 6=dL lo) (h4:h 7=dL w) (hf:h (2000+8*d)=.dead) :
  bE R (aG false) h d [.ref 1000 none 0 0 0,I i,.fn F.bound_grid_unit_1 [] [.ref 8 none 0 0 0,.ref 3 none 0 0 0,.ref 6 none 0 0 0,.ref 7 none 0 0 0]] (.fn F.bound_grid_lines [] [])=some (.tup [],upd (upd (upd (upd (upd h 1000 (bd ds cs' p)) 8 (.bx [I m])) 3 (.bx [.ref 1000 none 0 0 0])) 6 (dL lo)) 7 (dL w),[(1000,true),(8,true),(3,true),(6,true),(7,true)]):=by
 have hre:cf h 40 [1000,8,3,6,7] 0=[1000,8,3,6,7]:=by
  have i0:lj (bd ds cs p)=[]:=(bu _ _ p).ids;have i1:lj (.bx [I m])=[]:=rfl;have i2:lj (.bx [.ref 1000 none 0 0 0])=[1000]:=rfl;have i3:lj (dL lo)=[]:=(dy lo).ids;have i4:lj (dL w)=[]:=(dy w).ids
  simp_all [cf,bJ]
 unfold bE;rw [if_neg (by simp [pL,bA.1.2.1])];have hin:bZ h [] [.ref 1000 none 0 0 0,I i,.fn F.bound_grid_unit_1 [] [.ref 8 none 0 0 0,.ref 3 none 0 0 0,.ref 6 none 0 0 0,.ref 7 none 0 0 0]]=some ([.ref 1000 none 0 0 0,I i,.fn F.bound_grid_unit_1 [] [.ref 8 none 0 0 0,.ref 3 none 0 0 0,.ref 6 none 0 0 0,.ref 7 none 0 0 0]],h,[]):=rfl;have hids:bJ [] ([AV.ref 1000 none 0 0 0,I i,.fn F.bound_grid_unit_1 [] [.ref 8 none 0 0 0,.ref 3 none 0 0 0,.ref 6 none 0 0 0,.ref 7 none 0 0 0]].flatMap bT)=[1000,8,3,6,7]:=rfl;simp only [dU,bA.1.2.1,List.nil_append,List.append_nil,hin,Option.bind_some,hids,hre,bA.1.1];have hn:br [] [AV.ref 1000 none 0 0 0,I i,.fn F.bound_grid_unit_1 [] [.ref 8 none 0 0 0,.ref 3 none 0 0 0,.ref 6 none 0 0 0,.ref 7 none 0 0 0]]=[AV.ref 1000 none 0 0 0,I i,.fn F.bound_grid_unit_1 [] [.ref 8 none 0 0 0,.ref 3 none 0 0 0,.ref 6 none 0 0 0,.ref 7 none 0 0 0]]:=rfl;rw [hn];unfold kR;have hob:([1000,8,3,6,7].map fun a=>cZ (bo [1000,8,3,6,7]) (h a))=[bd ds cs p,.bx [I m],.bx [.ref 1000 none 0 0 0],dL lo,dL w]:=by
  simp only [List.map,h0,h1,h2,h3,h4];rfl
 have hcl:([1000,8,3,6,7].all fun a=>aM [1000,8,3,6,7] (h a) && !cM (h a))=true:=by
  simp only [List.all_cons,List.all_nil,h0,h1,h2,h3,h4];rfl
 rw [hob,hcl,if_pos (by rfl)];rw [show [AV.ref 1000 none 0 0 0,I i,.fn F.bound_grid_unit_1 [] [.ref 8 none 0 0 0,.ref 3 none 0 0 0,.ref 6 none 0 0 0,.ref 7 none 0 0 0]].map (dM (bo [1000,8,3,6,7]))=[.ref 1000 none 0 0 0,I i,.fn F.bound_grid_unit_1 [] [.ref 1001 none 0 0 0,.ref 1002 none 0 0 0,.ref 1003 none 0 0 0,.ref 1004 none 0 0 0]] from rfl,hR,Option.bind_some,bA.1.2.2.2,bA.1.2.1,tO];unfold fF;rw [if_pos ⟨rfl,Nat.le_of_ble_eq_true rfl,Nat.le_of_ble_eq_true rfl,by simp [dp,cG],by grind [dz,dL,bd,bf,cM],rfl⟩];rfl
theorem Hu {i:Nat} {m:Int} {ds:List Int} {cs cs':List Ri} {p:Int} (hR:R F.bound_grid_lines [.ref 1000 none 0 0 0,I i,.fn F.bound_grid_bernstein_1 [] [.ref 1001 none 0 0 0,.ref 1002 none 0 0 0]] [bd ds cs p,.bx [I m],.bx [.ref 1000 none 0 0 0]]=some (.tup [],[bd ds cs' p,.bx [I m],.bx [.ref 1000 none 0 0 0]])) {h:ac} {d:Nat} (h0:h 1000=bd ds cs p) (h1:h 4=.bx [I m]) (h2:h 2=.bx [.ref 1000 none 0 0 0]) (hf:h (2000+8*d)=.dead) :
  bE R (aG false) h d [.ref 1000 none 0 0 0,I i,.fn F.bound_grid_bernstein_1 [] [.ref 4 none 0 0 0,.ref 2 none 0 0 0]] (.fn F.bound_grid_lines [] [])=some (.tup [],upd (upd (upd h 1000 (bd ds cs' p)) 4 (.bx [I m])) 2 (.bx [.ref 1000 none 0 0 0]),[(1000,true),(4,true),(2,true)]):=by
 have hre:cf h 40 [1000,4,2] 0=[1000,4,2]:=by
  have i0:lj (bd ds cs p)=[]:=(bu _ _ p).ids;have i1:lj (.bx [I m])=[]:=rfl;have i2:lj (.bx [.ref 1000 none 0 0 0])=[1000]:=rfl
  simp_all [cf,bJ]
 unfold bE;rw [if_neg (by simp [pL,bA.1.2.1])];have hin:bZ h [] [.ref 1000 none 0 0 0,I i,.fn F.bound_grid_bernstein_1 [] [.ref 4 none 0 0 0,.ref 2 none 0 0 0]]=some ([.ref 1000 none 0 0 0,I i,.fn F.bound_grid_bernstein_1 [] [.ref 4 none 0 0 0,.ref 2 none 0 0 0]],h,[]):=rfl;have hids:bJ [] ([AV.ref 1000 none 0 0 0,I i,.fn F.bound_grid_bernstein_1 [] [.ref 4 none 0 0 0,.ref 2 none 0 0 0]].flatMap bT)=[1000,4,2]:=rfl;simp only [dU,bA.1.2.1,List.nil_append,List.append_nil,hin,Option.bind_some,hids,hre,bA.1.1];have hn:br [] [AV.ref 1000 none 0 0 0,I i,.fn F.bound_grid_bernstein_1 [] [.ref 4 none 0 0 0,.ref 2 none 0 0 0]]=[AV.ref 1000 none 0 0 0,I i,.fn F.bound_grid_bernstein_1 [] [.ref 4 none 0 0 0,.ref 2 none 0 0 0]]:=rfl;rw [hn];unfold kR;have hob:([1000,4,2].map fun a=>cZ (bo [1000,4,2]) (h a))=[bd ds cs p,.bx [I m],.bx [.ref 1000 none 0 0 0]]:=by
  simp only [List.map,h0,h1,h2];rfl
 have hcl:([1000,4,2].all fun a=>aM [1000,4,2] (h a) && !cM (h a))=true:=by
  simp only [List.all_cons,List.all_nil,h0,h1,h2];rfl
 rw [hob,hcl,if_pos (by rfl)];rw [show [AV.ref 1000 none 0 0 0,I i,.fn F.bound_grid_bernstein_1 [] [.ref 4 none 0 0 0,.ref 2 none 0 0 0]].map (dM (bo [1000,4,2]))=[.ref 1000 none 0 0 0,I i,.fn F.bound_grid_bernstein_1 [] [.ref 1001 none 0 0 0,.ref 1002 none 0 0 0]] from rfl,hR,Option.bind_some,bA.1.2.2.2,bA.1.2.1,tO];unfold fF;rw [if_pos ⟨rfl,Nat.le_of_ble_eq_true rfl,Nat.le_of_ble_eq_true rfl,by simp [dp,cG],by grind [dz,bd,bf,cM],rfl⟩];rfl
theorem VZ {h:ac} {id id2:Nat} {cs:List AV} {a:AV} (h1:h id2=.bx cs) (h2:h id=.bx [.any]):Fa id 0 [.ref id2 none 0 0 0] (a,h,[])=some (a,upd h id (.bx [.ref id2 none 0 0 0]),[]):=by
 simp_all [aU,Fa,mz,Bp,inP,E9,vP]
theorem TD (h:ac) (d:Nat) (r q:List (List AV)) (p:Int) (b:Bool):j6 h d (some (.tup [.obx [.osl 1 r,.osl 7 q,I p],B b],[]))=if cM (h (2000+8*d)) && cM (h (2000+8*d+1)) then some (.tup [.ref (2000+8*d) none 0 0 0,B b],upd h (2000+8*d) (.bx [.osl 1 r,.osl 7 q,I p]),[]) else none:=by
 simp [j6,cG,jH,fE,ji,aB,aU,aV,bg,dp,mat,bQ,da]
theorem wA (h:ac) (n:Nat) (g:Bool) (i j:Nat) (r:List (List AV)):kQ h n g 7 i j (some (7,r))=(r[i]?).bind fun row=>(jG n g row j).map fun a=>(a,h,[]):=rfl
theorem aae {ds:List Int} {cs:List Ri} {p:Int} {x y:Ri} (ox:OkI x) (oy:OkI y):R F.bound_grid_add [.ref 1000 none 0 0 0,ax x,ax y] [bd ds cs p]=some (ax (oP x y p),[bd ds cs p]):=by
 refine Oa anp ano (agm false) rfl ?_;have h:=IZ ox oy (p:=p);generalize oP x y p=z at *
 simp only [ax,aA] at h;simp only [vI,wY,ax,aA,bd,go_sem,am4,am3,am5,h];exact Tx rfl rfl rfl (by rfl) (by simp only [go_sem])
theorem aaf {ds:List Int} {cs:List Ri} {p:Int} {x y:Ri} (ox:OkI x) (oy:OkI y):R F.bound_grid_mul [.ref 1000 none 0 0 0,ax x,ax y] [bd ds cs p]=some (ax (nv x y p),[bd ds cs p]):=by
 refine Oa anr anq (ago false) rfl ?_;have h:=I3 ox oy (p:=p);generalize nv x y p=z at *
 simp only [ax,aA] at h;simp only [vJ,wZ,ax,aA,bd,go_sem,am4,am3,am5,h];exact Tx rfl rfl rfl (by rfl) (by simp only [go_sem])
theorem YP (x:Ri):RT (ax x):=⟨fun _=>rfl,fun _ _=>rfl,fun _=>rfl⟩
theorem KD {ds:List Int} {cs:List Ri} {p:Int} {x y:Ri} (ox:OkI x) (oy:OkI y) {h:ac} {d id:Nat} (hh:h id=bd ds cs p) (hd:h (2000+8*d)=.dead) :
  AE R (aG false) d F.bound_grid_add ([.ref id none 0 0 0,ax x,ax y],h,[])=some (ax (oP x y p),upd h id (bd ds cs p),[]) :=
 oT (agk false) rfl (Da (agk false) (agm false) (as':=[ax x,ax y]) (by rw [anm]; simp only [ax,aA,go_sem]) rfl rfl hh (bu _ _ _) (bu _ _ _) (fun _=>rfl) (aae ox oy) (YP _) (Nat.le_of_ble_eq_true rfl) (by simp [dp,ax,cG,hd,cM]))
theorem yD {ds:List Int} {cs:List Ri} {p:Int} {x y:Ri} (ox:OkI x) (oy:OkI y) {h:ac} {d id:Nat} (hh:h id=bd ds cs p) (hd:h (2000+8*d)=.dead) :
  AE R (aG false) d F.bound_grid_mul ([.ref id none 0 0 0,ax x,ax y],h,[])=some (ax (nv x y p),upd h id (bd ds cs p),[]) :=
 oT (agl false) rfl (Da (agl false) (ago false) (as':=[ax x,ax y]) (by rw [ann]; simp only [ax,aA,go_sem]) rfl rfl hh (bu _ _ _) (bu _ _ _) (fun _=>rfl) (aaf ox oy) (YP _) (Nat.le_of_ble_eq_true rfl) (by simp [dp,ax,cG,hd,cM]))
theorem D6 {α:Type} {f:α→List AV} (h:∀ x,sJ (f x) (f x)=true):∀ l:List α,Bq (l.map f) (l.map f)=true
 | []=>rfl
 | a::l=>by simp only [List.map,Bq,h,D6 h l,Bool.true_and]
theorem aeh (z:Int):sJ [I z] [I z]=true:=by simp [sJ,LY,LX]
theorem ab3 (x:Ri):sJ (aA x) (aA x)=true:=by
 have h:∀ m:List Nat,Bq (az m) (az m)=true:=D6 fun x=>by simp [sJ,LY,LX]
 simp [aA,sJ,LY,LX,lm,h]
theorem ab4 (ds:List Int) (cs:List Ri) (p:Int):Dw (bd ds cs p) (bd ds cs p)=true:=by
 have h1:Bq (bw ds) (bw ds)=true:=D6 aeh ds;have h2:Bq (bB cs) (bB cs)=true:=D6 ab3 cs;simp [bd,Dw,sJ,LY,LX,h1,h2]
theorem TE {h h':ac} {d id:Nat} {ds:List Int} {cs:List Ri} {p:Int} {x y:Ri} (hi:id < 2000) (hh:h id=bd ds cs p) (hh':h' id=bd ds cs p):fV h d [.ref id none 0 0 0,ax x,ax y] h'=some ([id],[2000+8*d]):=by
 have hre:cf h 40 [id] 0=[id]:=by simp [cf,hh,(bu ds cs p).ids,bJ]
 have hc:BU h h' [id]=[]:=by simp [BU,hh,hh',ab4]
 show (if _ then _ else if _ then some ((cf h 40 [id] 0).map cH,(BU h h' (cf h 40 [id] 0)).map cH++[2000+8*d]) else none)=_;rw [hre,hc,if_neg (by simp [dat,aB]),if_pos (by rfl)];simp [cH,hi]
def gh (N:Nat) (cs:List Ri) (g:G):Prop:=cs.length=N∧∀ k x,cs[k]?=some x→In (g k) x
theorem gh.get {N:Nat} {cs:List Ri} {g:G} (h:gh N cs g) {k:Nat} (hk:k < N):∃ x,cs[k]?=some x∧In (g k) x:=by
 have:k < cs.length:=by rw [h.1]; exact hk
 exact ⟨cs[k],List.getElem?_eq_getElem this,h.2 k _ (List.getElem?_eq_getElem this)⟩
theorem gh.set {N:Nat} {cs:List Ri} {g:G} (h:gh N cs g) {k:Nat} {x:Ri} {y:Rat} (hx:In y x):gh N (cs.set k x) (gs g k y):=by
 refine ⟨by rw [List.length_set]; exact h.1,fun j z hz=>?_⟩;rw [List.getElem?_set] at hz;unfold gs;by_cases hj:k=j
 ·subst hj;rw [if_pos rfl] at hz;rw [if_pos rfl];split at hz
  ·cases hz;exact hx
  ·exact nomatch hz
 ·rw [if_neg hj] at hz;rw [if_neg fun h=>hj h.symm];exact h.2 j z hz
def Rh (n:Nat) (lo w:Ri) (ds:List Int) (cs:List Ri) (p:Int) (h:ac):Prop:=h 1000=.bx [I n]∧h 1001=.bx [.ref 1004 none 0 0 0]∧h 1002=dL lo∧h 1003=dL w∧h 1004=bd ds cs p
theorem Aj (id:Nat) (h:ac) (i:Nat) (xs:List AV) (a b:AV) (r:List (List AV)):An h 7 id 1 7 i 0 xs [] (.bx [a,.osl 7 r,b])=(nc 7 7 i 0 xs 7 r).map fun q=>(.und,upd h id (.bx [a,.osl 7 q,b]),[]):=rfl
theorem Ak {cs:List Ri} {k:Nat} {u:Ri} (hk:k < cs.length):nc 7 7 k 0 (aA u) 7 (bB cs)=some (bB (cs.set k u)):=by
 have h1:(bB cs)[k]?=some (aA cs[k]):=by unfold bB; rw [List.getElem?_map,List.getElem?_eq_getElem hk]; rfl
 unfold nc;rw [if_pos rfl,h1];simp [setRow,aA,bB,List.map_set]
attribute [-go_sem] uA in
theorem aag {ds:List Int} {p:Int} {N f st i n:Nat} {lo w:Ri} {l:Rat} (hl:In l lo) (hN:f+n*st < N) (hN4:N≤400) (hn:n≤400):∀ (k:Nat),i+k≤n→∀ (cs:List Ri) (g:G),gh N cs g→∀ (s:ae) (h:ac) (X:Option (Ex × St)),ap 2 [0,1,2,3,4,5,13,14] (aq (ak R (aG false) fj) [0,1,2,3,4,5,8,9,13,14] [1000,1001,1002,1003,1004] s h)=X →
  s 0=I f→s 1=I st→s 2=.ref 1000 none 0 0 0→s 3=.ref 1001 none 0 0 0→s 4=.ref 1002 none 0 0 0→s 5=.ref 1003 none 0 0 0→s 8=I i→s 9=I ((i:Int)+k - 1)→s 13=I n→s 14=I i→Rh n lo w ds cs p h →
  ∃ hh cs',X=some (.normal,⟨upd (upd (upd (upd (upd (upd (upd (upd (fun _=>.any) 14 (I i)) 13 (I n)) 5 (.ref 1003 none 0 0 0)) 4 (.ref 1002 none 0 0 0)) 3 (.ref 1001 none 0 0 0)) 2 (.ref 1000 none 0 0 0)) 1 (I st)) 0 (I f),hh⟩)∧Rh n lo w ds cs' p hh∧gh N cs' (E4 l (fun j=>f+j*st) i k g):=by
 intro k;induction k with
 | zero =>
  intro hk cs g he s h X hX g0 g1 g2 g3 g4 g5 g8 g9 g13 g14 ho;subst hX;obtain ⟨k0,k1,k2,k3,k4⟩:=ho;have e1:((i:Int)≤(i:Int)+((0:Nat):Int) - 1)=False:=eq_false (by omega);have hg:=(bu ds cs p).cl [1000,1001,1002,1003,1004];have hlo:=(dy lo).cl [1000,1001,1002,1003,1004];have hw:=(dy w).cl [1000,1001,1002,1003,1004];rw [ai];refine ⟨?hh0,cs,?_,?_,he⟩;rotate_left
  ·simp only [fj,go_sem,am7,g0,g1,g2,g3,g4,g5,g8,g9,g13,g14,k0,k1,k2,k3,k4,hg,hlo,hw,e1];rfl
  ·exact ⟨rfl,rfl,rfl,rfl,rfl⟩
 | succ k ih =>
  intro hk cs g he s h X hX g0 g1 g2 g3 g4 g5 g8 g9 g13 g14 ho;subst hX;obtain ⟨k0,k1,k2,k3,k4⟩:=ho;have hm1:(i+k)*st≤n*st:=Nat.mul_le_mul_right _ (by omega);have hm2:(i+k+1)*st≤n*st:=Nat.mul_le_mul_right _ (by omega);have hs2:(i+k+1)*st=(i+k)*st+st:=by rw [Nat.add_mul,Nat.one_mul]
  have e1:((i:Int)≤(i:Int)+((k+1:Nat):Int) - 1)=True:=eq_true (by omega);have w1:IntKind.i64.wrap (((i:Int)+((k+1:Nat):Int) - 1)*st)=(((i+k)*st:Nat):Int):=by
   rw [show ((i:Int)+((k+1:Nat):Int) - 1)=((i+k:Nat):Int) by omega,← Int.natCast_mul];exact i64_in _ ⟨by omega,by omega⟩
  have w2:IntKind.i64.wrap ((f:Int)+(((i+k)*st:Nat):Int))=((f+(i+k)*st:Nat):Int):=wi (by omega) (by omega);have w3:IntKind.i64.wrap (((f+(i+k)*st:Nat):Int)+(st:Int))=((f+(i+k+1)*st:Nat):Int):=wi (by omega) (by omega);have w4:IntKind.i64.wrap ((i:Int)+((k+1:Nat):Int) - 1 - 1)=(i:Int)+(k:Int) - 1:=by rw [i64_in _ ⟨by omega,by omega⟩]; omega
  obtain ⟨x,x1,x2⟩:=he.get (k:=f+(i+k)*st) (by omega);obtain ⟨y,y1,y2⟩:=he.get (k:=f+(i+k+1)*st) (by omega);have hg:=(bu ds cs p).cl [1000,1001,1002,1003,1004];have hlo:=(dy lo).cl [1000,1001,1002,1003,1004];have hw:=(dy w).cl [1000,1001,1002,1003,1004];have cm:=fun (h:ac) (d:Nat) hh hd=>yD (ds:=ds) (cs:=cs) (p:=p) (h:=h) (d:=d) (id:=1004) hl.ok y2.ok hh hd;have pm:=wz (p:=p) hl y2;have ca:=fun (h:ac) (d:Nat) hh hd=>KD (ds:=ds) (cs:=cs) (p:=p) (h:=h) (d:=d) (id:=1004) x2.ok pm.ok hh hd;have pa:=DZ (p:=p) x2 pm;have q1:(bB cs)[f+(i+k)*st]?=some (aA x):=by unfold bB; rw [List.getElem?_map,x1]; rfl
  have q2:(bB cs)[f+(i+k+1)*st]?=some (aA y):=by unfold bB; rw [List.getElem?_map,y1]; rfl
  have i1:(0≤((f+(i+k)*st:Nat):Int))=True:=eq_true (by omega);have i2:(0≤((f+(i+k+1)*st:Nat):Int))=True:=eq_true (by omega);have i3:(((f+(i+k)*st:Nat):Int) < (cs.length:Int))=True:=eq_true (by rw [he.1]; omega);have i4:(((f+(i+k+1)*st:Nat):Int) < (cs.length:Int))=True:=eq_true (by rw [he.1]; omega);have sr1:∀ u:Ri,nc 7 7 (f+(i+k)*st) 0 (aA u) 7 (bB cs)=some (bB (cs.set (f+(i+k)*st) u)):=fun u=>Ak (by rw [he.1]; omega);have ih':=ih (by omega) _ _ (he.set (k:=f+(i+k)*st) pa);rw [ai];generalize aq _ _ _=L at ih' ⊢;generalize nv lo y p=z at *
  generalize oP x z p=u at *
  simp only [bd,ax,aA] at cm ca;simp only [aA] at q1 q2 sr1;simp only [bd] at k4 hg;simp only [dL] at k2 k3 hlo hw;simp only [fj,go_sem,am4,am3,am5,am6,am7,g0,g1,g2,g3,g4,g5,g8,g9,g13,g14,k0,k1,k2,k3,k4,hg,hlo,hw,e1,w1,w2,w3,w4,i1,i2,i3,i4,rn,wA,Int.toNat_natCast,Nat.zero_add,q1,q2];rw [cm _ _ rfl rfl];have fp:=fun (h h':ac) (d:Nat) (x y:Ri)=>TE (h:=h) (h':=h') (d:=d) (id:=1004) (ds:=ds) (cs:=cs) (p:=p) (x:=x) (y:=y) (by decide);simp only [bd,ax,aA] at fp;simp only [go_sem,am4,am3,fp];rw [ca _ _ rfl rfl];simp only [go_sem,am4,am3,am5,am6,am7,fp,i1,i3,Int.toNat_natCast,Nat.zero_add,Aj,sr1,w4];exact ih' _ _ _ rfl rfl rfl rfl rfl rfl rfl rfl rfl rfl rfl ⟨rfl,rfl,rfl,rfl,rfl⟩
theorem aah {ds:List Int} {p:Int} {N f st n:Nat} {lo w:Ri} {l:Rat} (hl:In l lo) (hN:f+n*st < N) (hN4:N≤400) (hn:n≤400):∀ (k i:Nat),i+k=n→∀ (cs:List Ri) (g:G),gh N cs g→∀ (s:ae) (h:ac) (X:Option (Ex × St)),ap 0 [0,1,2,3,5] (aq (ak R (aG false) gW) [0,1,2,3,4,5,13,14] [1000,1001,1002,1003,1004] s h)=X →
  s 0=I f→s 1=I st→s 2=.ref 1000 none 0 0 0→s 3=.ref 1001 none 0 0 0→s 4=.ref 1002 none 0 0 0→s 5=.ref 1003 none 0 0 0→s 13=I n→s 14=I i→Rh n lo w ds cs p h →
  ∃ hh cs',X=some (.normal,⟨upd (upd (upd (upd (upd (fun _=>.any) 5 (.ref 1003 none 0 0 0)) 3 (.ref 1001 none 0 0 0)) 2 (.ref 1000 none 0 0 0)) 1 (I st)) 0 (I f),hh⟩)∧Rh n lo w ds cs' p hh∧(∀ a,a ≠ 1000→a ≠ 1001→a ≠ 1002→a ≠ 1003→a ≠ 1004→hh a=.dead)∧gh N cs' (E5 l (fun j=>f+j*st) k i g):=by
 intro k;induction k with
 | zero =>
  intro i hk cs g he s h X hX g0 g1 g2 g3 g4 g5 g13 g14 ho;subst hX;obtain ⟨k0,k1,k2,k3,k4⟩:=ho;have e1:((i:Int) < n)=False:=eq_false (by omega);have hg:=(bu ds cs p).cl [1000,1001,1002,1003,1004];have hlo:=(dy lo).cl [1000,1001,1002,1003,1004];have hw:=(dy w).cl [1000,1001,1002,1003,1004];rw [ai];refine ⟨?hh0,cs,?_,?_,?_,he⟩;rotate_left
  ·simp only [gW,go_sem,am4,am3,am5,am6,am7,g0,g1,g2,g3,g4,g5,g13,g14,k0,k1,k2,k3,k4,hg,hlo,hw,e1];rfl
  ·exact ⟨rfl,rfl,rfl,rfl,rfl⟩
  ·intro a a1 a2 a3 a4 a5;simp only [acj,a1,a2,a3,a4,a5,if_false]
 | succ k ih =>
  intro i hk cs g he s h X hX g0 g1 g2 g3 g4 g5 g13 g14 ho;subst hX;have ho':=ho;obtain ⟨k0,k1,k2,k3,k4⟩:=ho;have e1:((i:Int) < n)=True:=eq_true (by omega);have w1:IntKind.i64.wrap ((n:Int) - 1)=(i:Int)+((k+1:Nat):Int) - 1:=by rw [i64_in _ ⟨by omega,by omega⟩]; omega
  have w2:IntKind.i64.wrap ((i:Int)+1)=((i+1:Nat):Int):=wi (by omega) (by omega);have hg:=(bu ds cs p).cl [1000,1001,1002,1003,1004];have hlo:=(dy lo).cl [1000,1001,1002,1003,1004];have hw:=(dy w).cl [1000,1001,1002,1003,1004];have hu:=aag (ds:=ds) (p:=p) (w:=w) hl hN hN4 hn (i:=i) (k+1) (by omega) cs g he;have ih':=ih (i+1) (by omega);rw [ai];generalize aq _ _ _=L at ih' ⊢;simp only [gW,go_sem,am4,am3,am5,am6,am7,g0,g1,g2,g3,g4,g5,g13,g14,k0,k1,k2,k3,k4,hg,hlo,hw,e1,w1];generalize hX:ap 2 _ _=X;obtain ⟨hh,cs',rfl,ho2,he2⟩:=hu _ _ _ hX rfl rfl rfl rfl rfl rfl rfl rfl rfl rfl ⟨rfl,rfl,rfl,rfl,rfl⟩;simp only [go_sem,am7,w2];exact ih' cs' _ he2 _ _ _ rfl rfl rfl rfl rfl rfl rfl rfl rfl ho2
attribute [-go_sem] uA in
theorem aai {ds:List Int} {p:Int} {N f st n:Nat} {lo w:Ri} {u:Rat} (hw:In u w) (hN:f+n*st < N) (hN4:N≤400) (hn:n≤400):∀ (k j:Nat),j+k=n+1→∀ (cs:List Ri) (g:G),gh N cs g→∀ (sc:Ri) (b:Rat),In b sc→∀ (s:ae) (h:ac) (X:Option (Ex × St)),ap 4 [] (aq (ak R (aG false) fh) [0,1,2,3,5,11,12] [11,1000,1001,1002,1003,1004] s h)=X →
  s 0=I f→s 1=I st→s 2=.ref 1000 none 0 0 0→s 3=.ref 1001 none 0 0 0→s 5=.ref 1003 none 0 0 0→s 11=.ref 11 none 0 0 0→s 12=I j→h 11=dL sc→Rh n lo w ds cs p h →
  ∃ hh cs',X=some (.normal,⟨fun _=>.any,hh⟩)∧Rh n lo w ds cs' p hh∧gh N cs' (Ky u (fun j=>f+j*st) k j b g):=by
 intro k;induction k with
 | zero =>
  intro j hk cs g he sc b hb s h X hX g0 g1 g2 g3 g5 g11 g12 k11 ho;subst hX;obtain ⟨k0,k1,k2,k3,k4⟩:=ho;have e1:((j:Int)≤n)=False:=eq_false (by omega);have hg:=(bu ds cs p).cl [11,1000,1001,1002,1003,1004];have hlo:=(dy lo).cl [11,1000,1001,1002,1003,1004];have hw:=(dy w).cl [11,1000,1001,1002,1003,1004];have hs:=(dy sc).cl [11,1000,1001,1002,1003,1004];rw [ai];refine ⟨?hh0,cs,?_,?_,he⟩;rotate_left
  ·simp only [fh,go_sem,am4,am3,am5,am6,am7,g0,g1,g2,g3,g5,g11,g12,k0,k1,k2,k3,k4,k11,hg,hlo,hw,hs,e1];rfl
  ·exact ⟨rfl,rfl,rfl,rfl,rfl⟩
 | succ k ih =>
  intro j hk cs g he sc b hb s h X hX g0 g1 g2 g3 g5 g11 g12 k11 ho;subst hX;obtain ⟨k0,k1,k2,k3,k4⟩:=ho;have hm1:j*st≤n*st:=Nat.mul_le_mul_right _ (by omega);have e1:((j:Int)≤n)=True:=eq_true (by omega);have w1:IntKind.i64.wrap ((j:Int)*st)=((j*st:Nat):Int):=wi (Int.natCast_mul ..).symm (by omega);have w2:IntKind.i64.wrap ((f:Int)+((j*st:Nat):Int))=((f+j*st:Nat):Int):=wi (by omega) (by omega);have w4:IntKind.i64.wrap ((j:Int)+1)=((j+1:Nat):Int):=wi (by omega) (by omega);obtain ⟨x,x1,x2⟩:=he.get (k:=f+j*st) (by omega);have hg:=(bu ds cs p).cl [11,1000,1001,1002,1003,1004];have hlo:=(dy lo).cl [11,1000,1001,1002,1003,1004];have hwo:=(dy w).cl [11,1000,1001,1002,1003,1004];have hs:=(dy sc).cl [11,1000,1001,1002,1003,1004];have cm:=fun (h:ac) (d:Nat) hh hd=>yD (ds:=ds) (cs:=cs) (p:=p) (h:=h) (d:=d) (id:=1004) hb.ok hw.ok hh hd;have pm:=wz (p:=p) hb hw;have ca:=fun (h:ac) (d:Nat) hh hd=>yD (ds:=ds) (cs:=cs) (p:=p) (h:=h) (d:=d) (id:=1004) x2.ok pm.ok hh hd;have pa:=wz (p:=p) x2 pm;have q1:(bB cs)[f+j*st]?=some (aA x):=by unfold bB; rw [List.getElem?_map,x1]; rfl
  have i1:(0≤((f+j*st:Nat):Int))=True:=eq_true (by omega);have i3:(((f+j*st:Nat):Int) < (cs.length:Int))=True:=eq_true (by rw [he.1]; omega);have sr1:∀ u:Ri,nc 7 7 (f+j*st) 0 (aA u) 7 (bB cs)=some (bB (cs.set (f+j*st) u)):=fun u=>Ak (by rw [he.1]; omega);have ih':=ih (j+1) (by omega) _ _ (he.set (k:=f+j*st) pa) _ _ pm;rw [ai];generalize aq _ _ _=L at ih' ⊢;generalize nv sc w p=z at *
  generalize nv x z p=v at *
  simp only [bd,ax,aA] at cm ca;simp only [aA] at q1 sr1;simp only [bd] at k4 hg;simp only [dL] at k2 k3 k11 hlo hwo hs;simp only [fh,go_sem,am4,am3,am5,am6,am7,g0,g1,g2,g3,g5,g11,g12,k0,k1,k2,k3,k4,k11,hg,hlo,hwo,hs,e1];rw [cm _ _ rfl rfl];have fp:=fun (h h':ac) (d:Nat) (x y:Ri)=>TE (h:=h) (h':=h') (d:=d) (id:=1004) (ds:=ds) (cs:=cs) (p:=p) (x:=x) (y:=y) (by decide);simp only [bd,ax,aA] at fp;simp only [go_sem,am4,am3,am5,am6,am7,w1,w2,i1,i3,rn,wA,Int.toNat_natCast,Nat.zero_add,q1];rw [ca _ _ rfl rfl];simp only [go_sem,am4,am3,am5,am6,am7,fp,i1,i3,Int.toNat_natCast,Nat.zero_add,Aj,sr1,w4];exact ih' _ _ _ rfl rfl rfl rfl rfl rfl rfl rfl rfl ⟨rfl,rfl,rfl,rfl,rfl⟩
theorem Hv {n:Nat} {h:ac} {os:List Ob} (hm:(cp n).map h=os) (hc:(os.all fun o=>aM (cp n) o)=true):uS [] n h []=some (.tup [],os):=by
 have h1:((cp n).all fun i=>aM (cp n) (h i))=true:=by
  rw [← hm,List.all_map] at hc;exact hc
 unfold uS;rw [h1,hm];rfl
theorem D7 {f:FuncId} {fd:FD} {args:List AV} {os:List Ob} {α:Type} {r:α→AV × List Ob} {P:α→Prop} (hE:dK.E f=none) (hC:dK.C f=some fd) (hk:dK.md.keep f=false) (h1:args.length=fd.np) (h2:os.length≤1000)
  (hz:∃ a,gx false fd.rs fd.res os.length (ak R (aG false) fd.body (n8 args) (aj os))=some (r a)∧P a):∃ a,R f args os=some (r a)∧P a:=by
 obtain ⟨a,h3,h4⟩:=hz;exact ⟨a,aeg hE hC hk h1 h2 h3,h4⟩
theorem X1 {ds:List Int} {cs:List Ri} {p:Int} {N f st n:Nat} {lo w:Ri} {l u:Rat} {g:G} (hl:In l lo) (hw:In u w) (he:gh N cs g) (hN:f+n*st < N) (hN4:N≤400) (hn:n≤400) :
  ∃ cs',R F.bound_grid_unit_1 [I f,I st,.ref 1000 none 0 0 0,.ref 1001 none 0 0 0,.ref 1002 none 0 0 0,.ref 1003 none 0 0 0] [.bx [I n],.bx [.ref 1004 none 0 0 0],dL lo,dL w,bd ds cs p]=some (.tup [],[.bx [I n],.bx [.ref 1004 none 0 0 0],dL lo,dL w,bd ds cs' p])∧gh N cs' (Hf l u n (fun j=>f+j*st) g):=by
 have h2:=aah (ds:=ds) (p:=p) (w:=w) hl hN hN4 hn n 0 (Nat.zero_add _) cs g he;have h3:=fun (cs:List Ri) (g:G) he=>aai (ds:=ds) (p:=p) (lo:=lo) (n:=n) (st:=st) (f:=f) hw hN hN4 hn n 1 (Nat.add_comm _ _) cs g he ⟨one,one,false⟩ 1 (by rw [← N6]; exact sE kv.1 kv.2);have hi:=Ny;have hp:=jC kv.2 kv.1;refine D7 eX.2.1 eX.2.2 (eX.1.2.2.2 false) rfl (Nat.le_of_ble_eq_true rfl) ?_;have hgo:=(bu ds cs p).cl [1000,1001,1002,1003,1004];have hlo:=(dy lo).cl [1000,1001,1002,1003,1004];have hwo:=(dy w).cl [1000,1001,1002,1003,1004];simp only [ag,am,ax,aA] at hi hp;simp only [rW,sL,Oc,go_sem,am4,am3,am5,am6,am7];generalize hX:ap 0 _ _=X;obtain ⟨hh,cs1,rfl,ho,hd,he1⟩:=h2 _ _ _ hX rfl rfl rfl rfl rfl rfl rfl rfl ⟨rfl,rfl,rfl,rfl,rfl⟩;obtain ⟨k0,k1,k2,k3,k4⟩:=ho;have d1:=hd 2456 (by decide) (by decide) (by decide) (by decide) (by decide);have d2:=hd 2464 (by decide) (by decide) (by decide) (by decide) (by decide);have d3:=hd 11 (by decide) (by decide) (by decide) (by decide) (by decide);simp only [go_sem,am4,am3,am5,am6,am7,hi,hp,d1,d2,d3];generalize hX:ap 4 _ _=X;obtain ⟨hh2,cs2,rfl,ho,he2⟩:=h3 cs1 _ he1 _ _ _ hX rfl rfl rfl rfl rfl rfl rfl rfl ⟨k0,k1,k2,k3,k4⟩;obtain ⟨k0,k1,k2,k3,k4⟩:=ho;refine ⟨cs2,?_,he2⟩;simp only [go_sem,am4,am3,am5,am6,am7];have hp5:cp 5=[1000,1001,1002,1003,1004]:=rfl;refine Hv (by rw [hp5]; simp only [List.map,k0,k1,k2,k3,k4]) ?_;simp only [hp5,List.all_cons,List.all_nil,(bu ds cs2 p).cl,hlo,hwo];rfl
def qS (n:Nat):Rd:=bG false n 0
theorem Rj {n:Nat} (hn:n≤1000):(vd (qS n)=true∧Ok0 (qS n))∧qv (qS n)=n:=by
 have hr:nQ (af (aa (qS n).m)) (qS n).e=true:=by
  unfold qS;by_cases h0:n=0
  ·subst h0;rfl
  ·obtain ⟨g1,g2,g3,g4⟩:=A3 (neg:=false) (e:=0) h0;have hb:af n≤10:=bv.2 (by omega);rw [g1,g2];unfold nQ;simp only [Bool.or_eq_true,Bool.and_eq_true,decide_eq_true_eq];omega
 have hv:vd (qS n)=true:=IW hr;have hb:Lb (qS n).m:=ww false n 0;refine ⟨⟨hv,hb,Nat.lt_of_le_of_lt (Ac hv hb) (by decide)⟩,?_⟩;have hc:gz (qS n)=(qS n,0):=by
  simp_all [gz,if_pos]
 have hz:zI (gz (qS n)).1=_:=NT (q:=n) (u:=0) (by decide) (by grind [gz,qS]);rw [hc] at hz;obtain ⟨N,hN⟩:∃ N:Nat,N=16384:=⟨_,rfl⟩;rw [show ((0:Int)+16384).toNat=N by omega] at hz;unfold qv EQ;rw [hz,← hN,show (((n*2 ^ N:Nat):Int):Rat)=n*pQ N by rw [Int.natCast_mul,Int.natCast_pow,Rat.intCast_mul]; rfl];grind [C1]
theorem V0 {n:Nat} (hn:n≤1000):R F.dyadic_Int [I n] []=some (ag (qS n),[]):=by
 have:=UW (n:=(n:Int)) (by grind [I64]);exact this
def Rk (n:Nat) (ds:List Int) (cs:List Ri) (p:Int) (h:ac):Prop:=h 1000=.bx [I n]∧h 1001=.bx [.ref 1002 none 0 0 0]∧h 1002=bd ds cs p∧h 1003=.dead
theorem ab5 {h h':ac} {d:Nat} {l:List AV} (hl:l.all dat=true):fV h d l h'=some ([],[2000+8*d]):=by
 rw [uA,if_pos hl]
attribute [-go_sem] uA in
theorem aaj {ds:List Int} {p:Int} {N f st n:Nat} (hN:f+n*st < N) (hN4:N≤400) (hn:n≤400):∀ (k j:Nat),j+k=n→∀ (cs:List Ri) (g:G),gh N cs g→∀ (sc:Ri) (b:Rat),In b sc→∀ (s:ae) (h:ac) (X:Option (Ex × St)),ap 0 [0,1,2,3] (aq (ak R (aG false) eP) [0,1,2,3,6,7] [6,1000,1001,1002,1003] s h)=X →
  s 0=I f→s 1=I st→s 2=.ref 1000 none 0 0 0→s 3=.ref 1001 none 0 0 0→s 6=.ref 6 none 0 0 0→s 7=I (j+1:Nat)→h 6=dL sc→Rk n ds cs p h →
  ∃ hh cs',X=some (.normal,⟨upd (upd (upd (upd (fun _=>.any) 3 (.ref 1001 none 0 0 0)) 2 (.ref 1000 none 0 0 0)) 1 (I st)) 0 (I f),hh⟩)∧Rk n ds cs' p hh∧gh N cs' (E6 n (fun j=>f+j*st) k (j+1) b g):=by
 intro k;induction k with
 | zero =>
  intro j hk cs g he sc b hb s h X hX g0 g1 g2 g3 g6 g7 k6 ho;subst hX;obtain ⟨k0,k1,k2,k3⟩:=ho;have e1:(((j+1:Nat):Int)≤n)=False:=eq_false (by omega);have hg:=(bu ds cs p).cl [6,1000,1001,1002,1003];have hs:=(dy sc).cl [6,1000,1001,1002,1003];rw [ai];refine ⟨?hh0,cs,?_,?_,he⟩;rotate_left
  ·simp only [eP,go_sem,am4,am3,am5,am6,am7,g0,g1,g2,g3,g6,g7,k0,k1,k2,k3,k6,hg,hs,e1];rfl
  ·exact ⟨rfl,rfl,rfl,rfl⟩
 | succ k ih =>
  intro j hk cs g he sc b hb s h X hX g0 g1 g2 g3 g6 g7 k6 ho;subst hX;obtain ⟨k0,k1,k2,k3⟩:=ho;have hm1:(j+1)*st≤n*st:=Nat.mul_le_mul_right _ (by omega);have e1:(((j+1:Nat):Int)≤n)=True:=eq_true (by omega);have w0:IntKind.i64.wrap ((n:Int) - ((j+1:Nat):Int))=(k:Int):=wi (by omega) (by omega);have w5:IntKind.i64.wrap ((k:Int)+1)=((k+1:Nat):Int):=wi (by omega) (by omega);have w1:IntKind.i64.wrap (((j+1:Nat):Int)*st)=(((j+1)*st:Nat):Int):=wi (Int.natCast_mul ..).symm (by omega);have w2:IntKind.i64.wrap ((f:Int)+(((j+1)*st:Nat):Int))=((f+(j+1)*st:Nat):Int):=wi (by omega) (by omega);have w4:IntKind.i64.wrap (((j+1:Nat):Int)+1)=((j+1+1:Nat):Int):=wi (by omega) (by omega);obtain ⟨x,x1,x2⟩:=he.get (k:=f+(j+1)*st) (by omega);have hg:=(bu ds cs p).cl [6,1000,1001,1002,1003];have hs:=(dy sc).cl [6,1000,1001,1002,1003];obtain ⟨t1,t2⟩:=Rj (n:=k+1) (by omega);obtain ⟨u1,u2⟩:=Rj (n:=j+1) (by omega);have ci1:=V0 (n:=k+1) (by omega);have ci2:=V0 (n:=j+1) (by omega);have cp1:=jC t1.2 t1.1;have cp2:=jC u1.2 u1.1;have ip1:=sE t1.1 t1.2;have ip2:=sE u1.1 u1.2;rw [t2] at ip1;rw [u2] at ip2;have cm:=fun (h:ac) (d:Nat) hh hd=>yD (ds:=ds) (cs:=cs) (p:=p) (h:=h) (d:=d) (id:=1002) hb.ok ip1.ok hh hd;have pm:=wz (p:=p) hb ip1;have cd:=Q2 pm.ok ip2.ok (p:=p);have pd:=Rb (p:=p) pm ip2;have cd2:=Q2 x2.ok pd.ok (p:=p);have pd2:=Rb (p:=p) x2 pd;have hbe:b*((n:Rat) - (j+1:Nat)+1) / (j+1:Nat)=b*((k+1:Nat):Rat) / ((j+1:Nat):Rat):=by
   have:(n:Rat)=(j+(k+1):Nat):=by rw [hk]
   grind
  have q1:(bB cs)[f+(j+1)*st]?=some (aA x):=by grind [bB]
  have i1:(0≤((f+(j+1)*st:Nat):Int))=True:=eq_true (by omega);have i3:(((f+(j+1)*st:Nat):Int) < (cs.length:Int))=True:=eq_true (by grind);have sr1:∀ u:Ri,nc 7 7 (f+(j+1)*st) 0 (aA u) 7 (bB cs)=some (bB (cs.set (f+(j+1)*st) u)):=fun u=>Ak (by grind);have ih':=ih (j+1) (by omega) _ _ (he.set (k:=f+(j+1)*st) pd2) _ _ pd;have hdv:E6 n (fun j=>f+j*st) (k+1) (j+1) b g=E6 n (fun j=>f+j*st) k (j+1+1) (b*((k+1:Nat):Rat) / ((j+1:Nat):Rat)) (gs g (f+(j+1)*st) (g (f+(j+1)*st) / (b*((k+1:Nat):Rat) / ((j+1:Nat):Rat)))):=by
   rw [← hbe];rfl
  rw [hdv,ai];generalize aq _ _ _=L at ih' ⊢;generalize qS (k+1)=c1 at *
  generalize qS (j+1)=c2 at *
  generalize nv sc ⟨c1,c1,false⟩ p=z at *
  generalize Ji z ⟨c2,c2,false⟩ p=v at *
  generalize Ji x v p=y at *
  simp only [bd,ax,aA] at cm;simp only [ag,am,ax,aA] at ci1 ci2 cp1 cp2 cd cd2;simp only [aA] at q1 sr1;simp only [bd] at k2 hg;simp only [dL] at k6 hs;simp only [eP,go_sem,am4,am3,am5,am6,am7,g0,g1,g2,g3,g6,g7,k0,k1,k2,k3,k6,hg,hs,e1,w0,w5,ci1,cp1];have fp:=fun (h h':ac) (d:Nat) (x y:Ri)=>TE (h:=h) (h':=h') (d:=d) (id:=1002) (ds:=ds) (cs:=cs) (p:=p) (x:=x) (y:=y) (by decide);simp only [bd,ax,aA] at fp;have fp1:=fun (h h':ac) (d:Nat)=>fp h h' d sc ⟨c1,c1,false⟩;rw [cm _ _ rfl rfl];simp only [go_sem,am4,am3,am5,am6,am7,fp1,ab5,ci2,cp2,cd,w1,w2,i1,i3,rn,wA,Int.toNat_natCast,Nat.zero_add,q1,cd2,Aj,sr1,w4];exact ih' _ _ _ rfl rfl rfl rfl rfl rfl rfl rfl ⟨rfl,rfl,rfl,rfl⟩
attribute [-go_sem] uA in
theorem aak {ds:List Int} {p:Int} {N f st n j:Nat} (hN:f+n*st < N) (hN4:N≤400) (hn:n≤400):∀ (k:Nat),j+k≤n→∀ (cs:List Ri) (g:G),gh N cs g→∀ (s:ae) (h:ac) (X:Option (Ex × St)),ap 4 [0,1,2,3,8] (aq (ak R (aG false) dj) [0,1,2,3,8,9] [1000,1001,1002,1003] s h)=X →
  s 0=I f→s 1=I st→s 2=.ref 1000 none 0 0 0→s 3=.ref 1001 none 0 0 0→s 8=I (j+1:Nat)→s 9=I (j+k:Nat)→Rk n ds cs p h →
  ∃ hh cs',X=some (.normal,⟨upd (upd (upd (upd (upd (fun _=>.any) 8 (I (j+1:Nat))) 3 (.ref 1001 none 0 0 0)) 2 (.ref 1000 none 0 0 0)) 1 (I st)) 0 (I f),hh⟩)∧Rk n ds cs' p hh∧gh N cs' (Hd (fun j=>f+j*st) j k g):=by
 intro k;induction k with
 | zero =>
  intro hk cs g he s h X hX g0 g1 g2 g3 g8 g9 ho;subst hX;obtain ⟨k0,k1,k2,k3⟩:=ho;have e1:(((j+1:Nat):Int)≤((j+0:Nat):Int))=False:=eq_false (by omega);have hg:=(bu ds cs p).cl [1000,1001,1002,1003];rw [ai];refine ⟨?hh0,cs,?_,?_,he⟩;rotate_left
  ·simp only [dj,go_sem,am4,am3,am5,am6,am7,g0,g1,g2,g3,g8,g9,k0,k1,k2,k3,hg,e1];rfl
  ·exact ⟨rfl,rfl,rfl,rfl⟩
 | succ k ih =>
  intro hk cs g he s h X hX g0 g1 g2 g3 g8 g9 ho;subst hX;obtain ⟨k0,k1,k2,k3⟩:=ho;have hm1:(j+k+1)*st≤n*st:=Nat.mul_le_mul_right _ (by omega);have hs2:(j+k+1)*st=(j+k)*st+st:=by grind
  have e1:(((j+1:Nat):Int)≤((j+(k+1):Nat):Int))=True:=eq_true (by omega);have w0:IntKind.i64.wrap (((j+(k+1):Nat):Int) - 1)=((j+k:Nat):Int):=wi (by omega) (by omega);have w1:IntKind.i64.wrap (((j+(k+1):Nat):Int)*st)=(((j+k+1)*st:Nat):Int):=wi (Int.natCast_mul ..).symm (by omega);have w2:IntKind.i64.wrap ((f:Int)+(((j+k+1)*st:Nat):Int))=((f+(j+k+1)*st:Nat):Int):=wi (by omega) (by omega);have w3:IntKind.i64.wrap (((j+k:Nat):Int)*st)=(((j+k)*st:Nat):Int):=wi (Int.natCast_mul ..).symm (by omega);have w4:IntKind.i64.wrap ((f:Int)+(((j+k)*st:Nat):Int))=((f+(j+k)*st:Nat):Int):=wi (by omega) (by omega);obtain ⟨x,x1,x2⟩:=he.get (k:=f+(j+k+1)*st) (by omega);obtain ⟨y,y1,y2⟩:=he.get (k:=f+(j+k)*st) (by omega);have hg:=(bu ds cs p).cl [1000,1001,1002,1003];have ca:=fun (h:ac) (d:Nat) hh hd=>KD (ds:=ds) (cs:=cs) (p:=p) (h:=h) (d:=d) (id:=1002) x2.ok y2.ok hh hd;have pa:=DZ (p:=p) x2 y2;have q1:(bB cs)[f+(j+k+1)*st]?=some (aA x):=by grind [bB]
  have q2:(bB cs)[f+(j+k)*st]?=some (aA y):=by grind [bB]
  have i1:(0≤((f+(j+k+1)*st:Nat):Int))=True:=eq_true (by omega);have i2:(0≤((f+(j+k)*st:Nat):Int))=True:=eq_true (by omega);have i3:(((f+(j+k+1)*st:Nat):Int) < (cs.length:Int))=True:=eq_true (by grind);have i4:(((f+(j+k)*st:Nat):Int) < (cs.length:Int))=True:=eq_true (by grind);have sr1:∀ u:Ri,nc 7 7 (f+(j+k+1)*st) 0 (aA u) 7 (bB cs)=some (bB (cs.set (f+(j+k+1)*st) u)):=fun u=>Ak (by grind);have ih':=ih (by omega) _ _ (he.set (k:=f+(j+k+1)*st) pa);have fp:=fun (h h':ac) (d:Nat) (x y:Ri)=>TE (h:=h) (h':=h') (d:=d) (id:=1002) (ds:=ds) (cs:=cs) (p:=p) (x:=x) (y:=y) (by decide);simp only [bd,ax,aA] at fp;rw [ai];generalize aq _ _ _=L at ih' ⊢;generalize oP x y p=z at *
  simp only [bd,ax,aA] at ca;simp only [aA] at q1 q2 sr1;simp only [bd] at k2 hg;simp only [dj,go_sem,am4,am3,am5,am6,am7,g0,g1,g2,g3,g8,g9,k0,k1,k2,k3,hg,e1,w0,w1,w2,w3,w4,i1,i2,i3,i4,rn,wA,Int.toNat_natCast,Nat.zero_add,q1,q2];rw [ca _ _ rfl rfl];simp only [go_sem,am4,am3,am5,am6,am7,fp,w0,i1,i3,Int.toNat_natCast,Nat.zero_add,Aj,sr1];exact ih' _ _ _ rfl rfl rfl rfl rfl rfl rfl ⟨rfl,rfl,rfl,rfl⟩
theorem aal {ds:List Int} {p:Int} {N f st n:Nat} (hN:f+n*st < N) (hN4:N≤400) (hn:n≤400):∀ (k j:Nat),j+k=n→∀ (cs:List Ri) (g:G),gh N cs g→∀ (s:ae) (h:ac) (X:Option (Ex × St)),ap 2 [] (aq (ak R (aG false) eO) [0,1,2,3,8] [1000,1001,1002,1003] s h)=X →
  s 0=I f→s 1=I st→s 2=.ref 1000 none 0 0 0→s 3=.ref 1001 none 0 0 0→s 8=I (j+1:Nat)→Rk n ds cs p h →
  ∃ hh cs',X=some (.normal,⟨fun _=>.any,hh⟩)∧Rk n ds cs' p hh∧gh N cs' (He (fun j=>f+j*st) k j g):=by
 intro k;induction k with
 | zero =>
  intro j hk cs g he s h X hX g0 g1 g2 g3 g8 ho;subst hX;obtain ⟨k0,k1,k2,k3⟩:=ho;have e1:(((j+1:Nat):Int)≤n)=False:=eq_false (by omega);have hg:=(bu ds cs p).cl [1000,1001,1002,1003];rw [ai];refine ⟨?hh0,cs,?_,?_,he⟩;rotate_left
  ·simp only [eO,go_sem,am4,am3,am5,am6,am7,g0,g1,g2,g3,g8,k0,k1,k2,k3,hg,e1];rfl
  ·exact ⟨rfl,rfl,rfl,rfl⟩
 | succ k ih =>
  intro j hk cs g he s h X hX g0 g1 g2 g3 g8 ho;subst hX;obtain ⟨k0,k1,k2,k3⟩:=ho;have e1:(((j+1:Nat):Int)≤n)=True:=eq_true (by omega);have w2:IntKind.i64.wrap (((j+1:Nat):Int)+1)=((j+1+1:Nat):Int):=wi (by omega) (by omega);have hg:=(bu ds cs p).cl [1000,1001,1002,1003];have hu:=aak (ds:=ds) (p:=p) hN hN4 hn (j:=j) (k+1) (by omega) cs g he;have ih':=ih (j+1) (by omega);rw [ai];simp only [eO,go_sem,am4,am3,am5,am6,am7,g0,g1,g2,g3,g8,k0,k1,k2,k3,hg,e1];generalize hX:ap 4 _ _=X;obtain ⟨hh,cs',rfl,ho2,he2⟩:=hu _ _ _ hX rfl rfl rfl rfl rfl (by rw [hk]; rfl) ⟨rfl,rfl,rfl,rfl⟩;simp only [go_sem,am4,am3,am5,am6,am7,w2];exact ih' cs' _ he2 _ _ _ rfl rfl rfl rfl rfl rfl ho2
theorem X3 {ds:List Int} {cs:List Ri} {p:Int} {N f st n:Nat} {g:G} (he:gh N cs g) (hN:f+n*st < N) (hN4:N≤400) (hn:n≤400) :
  ∃ cs',R F.bound_grid_bernstein_1 [I f,I st,.ref 1000 none 0 0 0,.ref 1001 none 0 0 0] [.bx [I n],.bx [.ref 1002 none 0 0 0],bd ds cs p]=some (.tup [],[.bx [I n],.bx [.ref 1002 none 0 0 0],bd ds cs' p])∧gh N cs' (Hg n (fun j=>f+j*st) g):=by
 have h2:=aaj (ds:=ds) (p:=p) hN hN4 hn n 0 (Nat.zero_add _) cs g he ⟨one,one,false⟩ 1 (by rw [← N6]; exact sE kv.1 kv.2);have h3:=fun (cs:List Ri) (g:G) he=>aal (ds:=ds) (p:=p) (n:=n) (st:=st) (f:=f) hN hN4 hn n 0 (Nat.zero_add _) cs g he;have hi:=Ny;have hp:=jC kv.2 kv.1;refine D7 de.2.1 de.2.2 (de.1.2.2.2 false) rfl (Nat.le_of_ble_eq_true rfl) ?_;simp only [ag,am,ax,aA] at hi hp;simp only [nI,oF,Od,go_sem,am4,am3,am5,am6,am7,hi,hp];generalize hX:ap 0 _ _=X;obtain ⟨hh,cs1,rfl,ho,he1⟩:=h2 _ _ _ hX rfl rfl rfl rfl rfl rfl rfl ⟨rfl,rfl,rfl,rfl⟩;obtain ⟨k0,k1,k2,k3⟩:=ho;simp only [go_sem,am4,am3,am5,am6,am7];generalize hX:ap 2 _ _=X;obtain ⟨hh2,cs2,rfl,ho,he2⟩:=h3 cs1 _ he1 _ _ _ hX rfl rfl rfl rfl rfl ⟨k0,k1,k2,k3⟩;obtain ⟨k0,k1,k2,k3⟩:=ho;refine ⟨cs2,?_,he2⟩;have hp3:cp 3=[1000,1001,1002]:=rfl;refine Hv (by grind) ?_;rfl
noncomputable def uO:Cmd:=.ops [0,1,2,6,15,16] [cm 32 2,cm 33 7,cm 34 6,⟨(some 35),none,.call (.t 32) [.t 33,.t 34]⟩]
theorem xQ:lz=.seq (.ops [0,1,2,6,15,16,17] [b2 17 .lss 16 15]) (.seq (.cond (.t 17) (.skip) (.exit 0)) (.seq (.block 1 [0,1,2,6,15,16] (.seq (.ops [0,1,2,6,7,15,16] [cm 18 16,cm 7 18]) (.seq (.dops [0,1,2,6,7,15,16,31] [cm 19 7,cm 20 6,b2 21 .quo 19 20,cm 22 0,nk 23 22,fa 24 0 23,ld 25 1 24,cm 26 1,co 27 (.iadrS 1 (.t 25) (.t 26)),ld 28 1 27,co 29 (.bin .add (.t 28) (.c (I 1))),b2 30 .rem 21 29,co 31 (.bin .eql (.t 30) (.c (I 0)))] []) (.cond (.t 31) uO (.skip))))) (.ops [0,1,2,6,15,16] [co 36 (.bin .add (.t 16) (.c (I 1))),cm 16 36]))):=rfl
structure LnO (cl:AV) (ds:List Int) (p:Int) (N k st n:Nat) (op:Nat→G→G) (o1 o2 o3 o4:Ob):Prop where
 c1:aM [1000,1001,1002,1003,1004] o1=true
 c2:aM [1000,1001,1002,1003,1004] o2=true
 c3:aM [1000,1001,1002,1003,1004] o3=true
 c4:aM [1000,1001,1002,1003,1004] o4=true
 c5:aaL [1000,1001,1002,1003,1004] cl=cl
 run:∀ (f:Nat) (cs:List Ri) (g:G),gh N cs g→f < N→f / st % (n+1)=0→∀ (s:ae) (h:ac) (X:Option (Ex × St)),ak R (aG false) uO s h=X→s 0=.ref 1000 none 0 0 0→s 1=I k→s 2=cl→s 6=I st→s 7=I f→s 15=I N→s 16=I f→h 1000=bd ds cs p→h 1001=o1→h 1002=o2→h 1003=o3→h 1004=o4→h 2280=.dead →
  ∃ cs' hh,X=some (.normal,⟨upd (upd (upd (upd (upd (upd (fun _=>.any) 16 (I f)) 15 (I N)) 6 (I st)) 2 cl) 1 (I k)) 0 (.ref 1000 none 0 0 0),hh⟩)∧hh 1000=bd ds cs' p∧hh 1001=o1∧hh 1002=o2∧hh 1003=o3∧hh 1004=o4∧gh N cs' (op f g)
theorem Hw {cl:AV} {ds:List Int} {p:Int} {N k st n:Nat} {op:Nat→G→G} {o1 o2 o3 o4:Ob} (L:LnO cl ds p N k st n op o1 o2 o3 o4) (hN4:N≤400) (hs:0 < st) (hst:st≤400) (hn:n≤400) (hk:ds[k]?=some (n:Int)) :
  ∀ (m i:Nat),i+m=N→∀ (cs:List Ri) (g:G),gh N cs g→∀ (s:ae) (h:ac) (X:Option (Ex × St)),ap 0 [] (aq (ak R (aG false) lz) [0,1,2,6,15,16] [1000,1001,1002,1003,1004] s h)=X →
  s 0=.ref 1000 none 0 0 0→s 1=I k→s 2=cl→s 6=I st→s 15=I N→s 16=I i→h 1000=bd ds cs p→h 1001=o1→h 1002=o2→h 1003=o3→h 1004=o4 →
  ∃ cs' hh,X=some (.normal,⟨fun _=>.any,hh⟩)∧hh 1000=bd ds cs' p∧hh 1001=o1∧hh 1002=o2∧hh 1003=o3∧hh 1004=o4∧gh N cs' (ps op st n m i g):=by
 obtain ⟨c1,c2,c3,c4,c5,lr⟩:=L;intro m;induction m with
 | zero =>
  intro i hm cs g he s h X hX g0 g1 g2 g6 g15 g16 k0 k1 k2 k3 k4;subst hX;have e1:((i:Int) < N)=False:=eq_false (by omega);have hg:=(bu ds cs p).cl [1000,1001,1002,1003,1004];rw [ai];refine ⟨cs,?hh0,?_,?_,?_,?_,?_,?_,he⟩;rotate_left
  ·simp only [xQ,go_sem,am4,am3,am5,am6,am7,g0,g1,g2,g6,g15,g16,k0,k1,k2,k3,k4,hg,c1,c2,c3,c4,c5,e1];rfl
  all_goals rfl
 | succ m ih =>
  intro i hm cs g he s h X hX g0 g1 g2 g6 g15 g16 k0 k1 k2 k3 k4;subst hX;have e1:((i:Int) < N)=True:=eq_true (by omega);have hg:=(bu ds cs p).cl [1000,1001,1002,1003,1004];have w1:IntKind.i64.wrap (Int.tdiv (i:Int) st)=((i / st:Nat):Int):=by
   have:=Nat.div_le_self i st;grind [wi]
  have w2:IntKind.i64.wrap ((n:Int)+1)=((n+1:Nat):Int):=wi (by omega) (by omega);have w4:IntKind.i64.wrap ((i:Int)+1)=((i+1:Nat):Int):=wi (by omega) (by omega);have d1:((st:Int)=0)=False:=eq_false (by omega);have d2:(((n+1:Nat):Int)=0)=False:=eq_false (by omega);have hr:=lr i cs g he (by omega);have ih':=ih (i+1) (by omega);have hps:ps op st n (m+1) i g=ps op st n m (i+1) (if i / st % (n+1)=0 then op i g else g):=rfl;rw [hps,ai];generalize aq _ _ _=L at ih' ⊢;have hkl:k < ds.length:=(List.getElem?_eq_some_iff.1 hk).1;have i1:(0≤(k:Int))=True:=eq_true (by omega);have i2:((k:Int) < (ds.length:Int))=True:=eq_true (by omega);have q1:(bw ds)[k]?=some [I n]:=by grind [bw]
  by_cases h0:i / st % (n+1)=0
  ·have e2:(Int.tmod ((i / st:Nat):Int) ((n+1:Nat):Int)=0)=True:=eq_true (by grind);rw [if_pos h0];have hr:=hr h0;simp only [bd] at k0 hg;simp only [xQ,go_sem,am4,am3,am5,am6,am7,g0,g1,g2,g6,g15,g16,k0,k1,k2,k3,k4,hg,c1,c2,c3,c4,c5,e1,e2,w1,w2,d1,d2,lP,rl,q1,i1,i2,Int.toNat_natCast,Nat.zero_add];generalize hX:ak R (aG false) uO _ _=X;obtain ⟨cs',hh,rfl,r0,r1,r2,r3,r4,he2⟩:=hr _ _ _ hX rfl rfl rfl rfl rfl rfl rfl rfl rfl rfl rfl rfl rfl;simp only [go_sem,am4,am3,am5,am6,am7,w4,c5];exact ih' cs' _ he2 _ _ _ rfl rfl rfl rfl rfl rfl rfl r0 r1 r2 r3 r4
  ·have e2:(Int.tmod ((i / st:Nat):Int) ((n+1:Nat):Int)=0)=False:=eq_false (by grind);rw [if_neg h0];simp only [bd] at k0 hg;simp only [xQ,go_sem,am4,am3,am5,am6,am7,g0,g1,g2,g6,g15,g16,k0,k1,k2,k3,k4,hg,c1,c2,c3,c4,c5,e1,e2,w1,w2,w4,d1,d2,lP,rl,q1,i1,i2,Int.toNat_natCast,Nat.zero_add];exact ih' cs g he _ _ _ rfl rfl rfl rfl rfl rfl rfl rfl rfl rfl rfl rfl
def dI (l:List Nat):List Int:=l.map Int.ofNat
def be:List Nat→Nat→Nat
 | [],n=>n
 | d::l,n=>be l (n*(d+1))
theorem D8:∀ (ds:List Nat) (n:Nat),FY (dI ds) (n:Int)=(be ds n:Nat)
 | [],_=>rfl
 | d::ds,n=>by
  show FY (dI ds) ((n:Int)*(Int.ofNat d+1))=(be ds (n*(d+1)):Nat);rw [← D8 ds (n*(d+1)),Int.natCast_mul];rfl
theorem jF:∀ (ds:List Nat) (n:Nat),0 < n→n≤be ds n
 | [],_,_=>Nat.le_refl _
 | d::ds,n,h=>Nat.le_trans (Nat.le_mul_of_pos_right n (Nat.succ_pos d)) (jF ds _ (Nat.mul_pos h (Nat.succ_pos d)))
theorem FZ:∀ (ds:List Nat) (n:Nat),be ds n=n*be ds 1
 | [],n=>(Nat.mul_one n).symm
 | d::ds,n=>by
  show be ds (n*(d+1))=n*be ds (1*(d+1));rw [FZ ds (n*(d+1)),FZ ds (1*(d+1)),Nat.one_mul,Nat.mul_assoc]
theorem Bh:∀ (ds:List Nat) (k n d:Nat),ds[k]?=some d→be ds n=be (ds.take k) n*(d+1)*be (ds.drop (k+1)) 1
 | d'::ds,0,n,d,h=>by
  have:d'=d:=by grind
  subst this;exact FZ ds _
 | d'::ds,k+1,n,d,h=>Bh ds k (n*(d'+1)) d (by grind)
 | [],_,_,_,h=>by grind
theorem Rl {N st n H f:Nat} (hN:N=st*(n+1)*H) (hs:0 < st) (hf:f < N) (h0:f / st % (n+1)=0):f+n*st < N:=by
 have h1:=Nat.div_add_mod f st;have h2:=Nat.mod_lt f hs;have h3:=Nat.div_add_mod (f / st) (n+1);rw [h0,Nat.add_zero] at h3;generalize f / st / (n+1)=q at *
 have h4:q < H:=by
  refine Nat.lt_of_mul_lt_mul_left (a:=st*(n+1)) ?_;rw [← hN,Nat.mul_assoc,h3];omega
 have h5:st*(n+1)*(q+1)≤N:=by
  rw [hN];exact Nat.mul_le_mul_left _ h4
 rw [← h3] at h1;grind
theorem V1 {dn:List Nat} {cs:List Ri} {p:Int} {k n:Nat} {lo w:Ri} {l u:Rat} {g:G} (hl:In l lo) (hw:In u w) (hk:dn[k]?=some n) (h8:dn.length≤8) (hb:∀ d ∈ dn,d≤32) (hN4:be dn 1≤400) (he:gh (be dn 1) cs g) :
  ∃ cs',R F.bound_grid_lines [.ref 1000 none 0 0 0,I k,.fn F.bound_grid_unit_1 [] [.ref 1001 none 0 0 0,.ref 1002 none 0 0 0,.ref 1003 none 0 0 0,.ref 1004 none 0 0 0]] [bd (dI dn) cs p,.bx [I n],.bx [.ref 1000 none 0 0 0],dL lo,dL w]=some (.tup [],[bd (dI dn) cs' p,.bx [I n],.bx [.ref 1000 none 0 0 0],dL lo,dL w]) ∧
   gh (be dn 1) cs' (ps (fun f=>Hf l u n (fun j=>f+j*be (dn.take k) 1)) (be (dn.take k) 1) n (be dn 1) 0 g):=by
 have hkl:k < dn.length:=(List.getElem?_eq_some_iff.1 hk).1;have hn:n≤32:=hb n (List.mem_of_getElem? hk);have hbI:∀ d ∈ dI dn,0≤d∧d≤32:=fun d hd=>by
  obtain ⟨x,hx,rfl⟩:=List.mem_map.1 hd;grind
 have hsp:=Bh dn k 1 n hk;have hs0:=jF (dn.take k) 1 (by decide);have hst:be (dn.take k) 1≤400:=by
  refine Nat.le_trans ?_ hN4;rw [hsp,Nat.mul_assoc];exact Nat.le_mul_of_pos_right _ (Nat.mul_pos (Nat.succ_pos n) (jF _ 1 (by decide)))
 have hstep:=fun (h:ac) (d:Nat) (hh:h 1000=bd (dI dn) cs p) (hd:h (2000+8*d)=.dead)=>oT (iO false) rfl (Db (m:=k) (by grind [dI]) (by omega) hbI (d:=d) hh hd);rw [show (dI dn).take k=dI (dn.take k) from (List.map_take ..).symm,show (1:Int)=((1:Nat):Int) from rfl,D8] at hstep;generalize be (dn.take k) 1=st at *
 generalize be dn 1=N at *
 have L:LnO (.fn F.bound_grid_unit_1 [] [.ref 1001 none 0 0 0,.ref 1002 none 0 0 0,.ref 1003 none 0 0 0,.ref 1004 none 0 0 0]) (dI dn) p N k st n (fun f=>Hf l u n (fun j=>f+j*st)) (.bx [I n]) (.bx [.ref 1000 none 0 0 0]) (dL lo) (dL w):=by
  refine ⟨rfl,rfl,(dy lo).cl _,(dy w).cl _,rfl,?_⟩;intro f cs g he hf h0 s h X hX g0 g1 g2 g6 g7 g15 g16 k0 k1 k2 k3 k4 kd;subst hX;obtain ⟨cs',hR,he'⟩:=X1 (ds:=dI dn) (p:=p) hl hw he (Rl hsp (by omega) hf h0) hN4 (by omega);have hc:=TB hR (d:=35) k0 k1 k2 k3 k4 kd;refine ⟨cs',?hh0,?_,?_,?_,?_,?_,?_,he'⟩;rotate_left
  ·simp only [uO,go_sem,am4,am3,am5,am6,am7,g0,g1,g2,g6,g7,g15,g16,hc];rfl
  all_goals rfl
 refine D7 bA.2.1 bA.2.2 (bA.1.2.2.2 false) rfl (Nat.le_of_ble_eq_true rfl) ?_;have hll:=Hw L hN4 (by omega) hst (by omega) (by grind [dI]) N 0 (Nat.zero_add _) cs g he;simp only [nn,oE,Oc,go_sem,am4,am3,am5,am6,am7];rw [hstep _ _ rfl rfl];have hlen:(cs.length:Int)=N:=by rw [he.1]
 have hgo:=(bu (dI dn) cs p).cl [1000,1001,1002,1003,1004];simp only [bd] at hgo ⊢;simp only [go_sem,am4,am3,am5,am6,am7,hlen,hgo,(dy lo).cl,(dy w).cl];generalize hX:ap 0 _ _=X;obtain ⟨cs',hh,rfl,k0,k1,k2,k3,k4,he2⟩:=hll _ _ _ hX rfl rfl rfl rfl rfl rfl rfl rfl rfl rfl rfl;refine ⟨cs',?_,he2⟩;have hp5:cp 5=[1000,1001,1002,1003,1004]:=rfl;refine Hv (by grind [List.map,bd]) ?_;rfl
theorem V3 {dn:List Nat} {cs:List Ri} {p:Int} {k n:Nat} {g:G} (hk:dn[k]?=some n) (h8:dn.length≤8) (hb:∀ d ∈ dn,d≤32) (hN4:be dn 1≤400) (he:gh (be dn 1) cs g) :
  ∃ cs',R F.bound_grid_lines [.ref 1000 none 0 0 0,I k,.fn F.bound_grid_bernstein_1 [] [.ref 1001 none 0 0 0,.ref 1002 none 0 0 0]] [bd (dI dn) cs p,.bx [I n],.bx [.ref 1000 none 0 0 0]]=some (.tup [],[bd (dI dn) cs' p,.bx [I n],.bx [.ref 1000 none 0 0 0]]) ∧
   gh (be dn 1) cs' (ps (fun f=>Hg n (fun j=>f+j*be (dn.take k) 1)) (be (dn.take k) 1) n (be dn 1) 0 g):=by
 have hkl:k < dn.length:=(List.getElem?_eq_some_iff.1 hk).1;have hn:n≤32:=hb n (List.mem_of_getElem? hk);have hbI:∀ d ∈ dI dn,0≤d∧d≤32:=fun d hd=>by
  obtain ⟨x,hx,rfl⟩:=List.mem_map.1 hd;grind
 have hsp:=Bh dn k 1 n hk;have hs0:=jF (dn.take k) 1 (by decide);have hst:be (dn.take k) 1≤400:=by
  refine Nat.le_trans ?_ hN4;rw [hsp,Nat.mul_assoc];exact Nat.le_mul_of_pos_right _ (Nat.mul_pos (Nat.succ_pos n) (jF _ 1 (by decide)))
 have hstep:=fun (h:ac) (d:Nat) (hh:h 1000=bd (dI dn) cs p) (hd:h (2000+8*d)=.dead)=>oT (iO false) rfl (Db (m:=k) (by grind [dI]) (by omega) hbI (d:=d) hh hd);rw [show (dI dn).take k=dI (dn.take k) from (List.map_take ..).symm,show (1:Int)=((1:Nat):Int) from rfl,D8] at hstep;generalize be (dn.take k) 1=st at *
 generalize be dn 1=N at *
 have L:LnO (.fn F.bound_grid_bernstein_1 [] [.ref 1001 none 0 0 0,.ref 1002 none 0 0 0]) (dI dn) p N k st n (fun f=>Hg n (fun j=>f+j*st)) (.bx [I n]) (.bx [.ref 1000 none 0 0 0]) .dead .dead:=by
  refine ⟨rfl,rfl,rfl,rfl,rfl,?_⟩;intro f cs g he hf h0 s h X hX g0 g1 g2 g6 g7 g15 g16 k0 k1 k2 k3 k4 kd;subst hX;obtain ⟨cs',hR,he'⟩:=X3 (ds:=dI dn) (p:=p) he (Rl hsp (by omega) hf h0) hN4 (by omega);have hc:=TC hR (d:=35) k0 k1 k2 kd;refine ⟨cs',?hh0,?_,?_,?_,?_,?_,?_,he'⟩;rotate_left
  ·simp only [uO,go_sem,am4,am3,am5,am6,am7,g0,g1,g2,g6,g7,g15,g16,hc];rfl
  all_goals first | rfl | assumption
 refine D7 bA.2.1 bA.2.2 (bA.1.2.2.2 false) rfl (Nat.le_of_ble_eq_true rfl) ?_;have hll:=Hw L hN4 (by omega) hst (by omega) (by grind [dI]) N 0 (Nat.zero_add _) cs g he;simp only [nn,oE,Od,go_sem,am4,am3,am5,am6,am7];rw [hstep _ _ rfl rfl];have hlen:(cs.length:Int)=N:=by rw [he.1]
 have hgo:=(bu (dI dn) cs p).cl [1000,1001,1002,1003,1004];simp only [bd] at hgo ⊢;simp only [go_sem,am4,am3,am5,am6,am7,hlen,hgo];generalize hX:ap 0 _ _=X;obtain ⟨cs',hh,rfl,k0,k1,k2,k3,k4,he2⟩:=hll _ _ _ hX rfl rfl rfl rfl rfl rfl rfl rfl rfl rfl rfl;refine ⟨cs',?_,he2⟩;have hp5:cp 3=[1000,1001,1002]:=rfl;refine Hv (by grind [List.map,bd]) ?_;rfl
theorem aam {dn:List Nat} {cs:List Ri} {p:Int} {k n:Nat} {g:G} (hk:dn[k]?=some n) (h8:dn.length≤8) (hb:∀ d ∈ dn,d≤32) (hN4:be dn 1≤400) (he:gh (be dn 1) cs g) :
  ∃ cs',R F.bound_grid_bernstein [.ref 1000 none 0 0 0,I k] [bd (dI dn) cs p]=some (.tup [],[bd (dI dn) cs' p])∧gh (be dn 1) cs' (ps (fun f=>Hg n (fun j=>f+j*be (dn.take k) 1)) (be (dn.take k) 1) n (be dn 1) 0 g):=by
 obtain ⟨cs',hR,he'⟩:=V3 (p:=p) hk h8 hb hN4 he;refine ⟨cs',Tp fk.2.1 fk.2.2 (fk.1.2.2.2 false) rfl ?_,he'⟩;have e3:(bw (dI dn))[k]?=some [I n]:=by grind [bw,dI]
 have e7:(0≤(k:Int))=True:=eq_true (by omega);have e8:((k:Int) < ((dI dn).length:Int))=True:=eq_true (by grind [dI]);have hl:=fun (h:ac) (d:Nat) h0 h1 h2 hf=>Oe (bA.1.2.1 false) rfl (Hu hR (h:=h) (d:=d) h0 h1 h2 hf);simp only [bd] at hl ⊢;simp only [pG,qg,go_sem,am4,am3,am5,am6,am7,Nat.zero_add];rw [VZ (cs:=[.osl 1 (bw (dI dn)),.osl 7 (bB cs),I p]) rfl rfl];simp only [go_sem,am4,am3,am5,am6,am7,e3,e7,e8,rm,Int.toNat_natCast,Nat.zero_add,lP,rl];rw [hl _ _ rfl rfl rfl rfl];rfl
theorem aan {dn:List Nat} {cs:List Ri} {p:Int} {k n:Nat} {b:Ri} {g:G} (vl:vd b.lo=true∧Ok0 b.lo) (vh:vd b.hi=true∧Ok0 b.hi) (hk:dn[k]?=some n) (h8:dn.length≤8) (hb:∀ d ∈ dn,d≤32) (hN4:be dn 1≤400) (he:gh (be dn 1) cs g) :
  ∃ cs',R F.bound_grid_unit [.ref 1000 none 0 0 0,I k,ax b] [bd (dI dn) cs p]=some (.tup [],[bd (dI dn) cs' p])∧gh (be dn 1) cs' (ps (fun f=>Hf (qv b.lo) (qv b.hi - qv b.lo) n (fun j=>f+j*be (dn.take k) 1)) (be (dn.take k) 1) n (be dn 1) 0 g):=by
 have i1:=sE vl.1 vl.2;have i2:=sE vh.1 vh.2;have i3:=Z7 (p:=p) i2 i1;obtain ⟨cs',hR,he'⟩:=V1 (p:=p) i1 i3 hk h8 hb hN4 he;refine ⟨cs',Tp iN.2.1 iN.2.2 (iN.1.2.2.2 false) rfl ?_,he'⟩;have e3:(bw (dI dn))[k]?=some [I n]:=by grind [bw,dI]
 have e7:(0≤(k:Int))=True:=eq_true (by omega);have e8:((k:Int) < ((dI dn).length:Int))=True:=eq_true (by grind [dI]);have hl:=fun (h:ac) (d:Nat) h0 h1 h2 h3 h4 hf=>Oe (bA.1.2.1 false) rfl (Ht hR (h:=h) (d:=d) h0 h1 h2 h3 h4 hf);have p1:=jC vl.2 vl.1;have p2:=jC vh.2 vh.1;have p3:=Z4 i2.ok i1.ok (p:=p);simp only [bd,dL] at hl ⊢;simp only [ag,am,ax,aA] at p1 p2 p3;simp only [uB,vF,ax,aA,go_sem,am4,am3,am5,am6,am7,Nat.zero_add];rw [VZ (cs:=[.osl 1 (bw (dI dn)),.osl 7 (bB cs),I p]) rfl rfl];simp only [go_sem,am4,am3,am5,am6,am7,e3,e7,e8,rm,Int.toNat_natCast,Nat.zero_add,lP,rl,p1,p2,p3];rw [hl _ _ rfl rfl rfl rfl rfl rfl];rfl
theorem X4 {n:Nat} (hn:n≤400):R F.bits_Mul64 [W 1,W n] []=some (.tup [W 0,W n],[]):=by
 refine aE anD rfl ?_;have a1:cK .and (W 1) (W 4294967295)=some (W 1):=rfl;have a2:cK .and (W n) (W 4294967295)=some (W n):=by
  rw [xK rfl (by omega),Nat.mod_eq_of_lt (by omega)]
 have s1:cK .shr (W 1) (W 32)=some (W 0):=rfl;have s2:cK .shr (W n) (W 32)=some (W 0):=(mr (i:=(n:Int)) (j:=32) (k:=32) rfl rfl (by decide)).trans (by grind);have s3:cK .shr (W 0) (W 32)=some (W 0):=rfl;have a3:cK .and (W 0) (W 4294967295)=some (W 0):=rfl;have w1:IntKind.u64.wrap (1*(n:Int))=n:=cI (by omega) (by omega);have w2:IntKind.u64.wrap (0*(n:Int))=0:=by rw [Int.zero_mul]; rfl
 have w3:IntKind.u64.wrap ((0:Int)+0)=0:=rfl;have w4:IntKind.u64.wrap ((1:Int)*0)=0:=rfl;have w5:IntKind.u64.wrap ((0:Int)*0)=0:=rfl;simp only [BF,Cy,go_sem,am4,am3,am5,am6,am7,a1,a2,a3,s1,s2,s3,w1,w2,w3,w4,w5]
theorem aao {n:Nat} (hn:n≤400):R F.bits_Mul [W 1,W n] []=some (.tup [W 0,W n],[]):=by
 refine aE anH rfl ?_;have h:=X4 hn;simp only [EM,GJ,go_sem,am4,am3,am5,am6,am7,h]
theorem X5 {X Z:List AV} {N:Nat} (hN:N≤400) (c:List Bool):∀ (k m:Nat),N - m≤k→1≤m→m≤N→∀ (s:ae) (h:ac) (Y:Option (Ex × St)),ap 0 [7] (aq (ak R (aG false) bP) [7,8] [30] s h)=Y →
  s 7=.rsl 30 none 7 0 N→s 8=I m→h 30=.ar 7 (List.replicate m X++List.replicate (N - m) Z) →
  ∃ hh,Y=some (.normal,⟨upd (fun _=>.any) 7 (.rsl 30 none 7 0 N),hh⟩)∧hh 30=.ar 7 (List.replicate N X):=by
 intro k;induction k with
 | zero =>
  intro m hk h1 hm s h Y hY g7 g8 k30;subst hY;have e:m=N:=by omega
  subst e;have e1:((m:Int) < m)=False:=eq_false (by omega);rw [Nat.sub_self,List.replicate_zero,List.append_nil] at k30;rw [ai];refine ⟨?hh0,?_,?_⟩;rotate_left
  ·simp only [bP,go_sem,am4,am3,am5,am6,am7,g7,g8,k30,e1];rfl
  ·rfl
 | succ k ih =>
  intro m hk h1 hm s h Y hY g7 g8 k30;by_cases hq:m=N
  ·exact ih m (by omega) h1 hm s h Y hY g7 g8 k30
  subst hY;have e1:((m:Int) < N)=True:=eq_true (by omega);have e2:eu 7 (.rsl 30 none 7 0 N) (some (I (m:Int))) none none=some (.rsl 30 none 7 m (N - m)):=by grind [eu,kw,jK]
  have e3:eu 7 (.rsl 30 none 7 0 N) none (some (I (m:Int))) none=some (.rsl 30 none 7 0 m):=by grind [eu,kw,jK]
  obtain ⟨q,hq2⟩:∃ q,min (N - m) m=q:=⟨_,rfl⟩;have hq3:min m (N - m)=q:=by omega
  have ih':=ih (m+q) (by omega) (by omega) (by omega);have hl:(List.replicate m X++List.replicate (N - m) Z).length=N:=by grind
  have t1:List.take q (List.replicate m X++List.replicate (N - m) Z)=List.replicate q X:=by
   grind
  have t2:List.take m (List.replicate m X++List.replicate (N - m) Z)=List.replicate m X:=by
   grind
  have t3:List.drop (m+q) (List.replicate m X++List.replicate (N - m) Z)=List.replicate (N - (m+q)) Z:=by
   rw [List.drop_append,List.drop_eq_nil_of_le (by simp),List.length_replicate,List.nil_append,List.drop_replicate];grind
  have t4:List.replicate m X++List.replicate q X=List.replicate (m+q) X:=List.replicate_append_replicate;have e4:(0+q≤N)=True:=eq_true (by omega);have e5:(m≤N)=True:=eq_true hm;have w1:IntKind.i64.wrap ((m:Int)+(q:Int))=((m+q:Nat):Int):=wi (by omega) (by omega);rw [ai];simp only [bP,go_sem,am4,am3,am5,am6,am7,g7,g8,k30,e1,e2,e3,hq2,hq3,hl,t1,t2,t3,t4,e4,e5,List.length_replicate,w1];exact ih' _ _ _ rfl rfl rfl rfl
theorem V4 {x:Ri} {n:Nat} (h1:1≤n) (hn:n≤400):R F.slices_Repeat_api_Interval_api_Interval_ [.sl 7 [aA x],I n] []=some (.osl 7 (bB (List.replicate n x)),[]):=by
 refine aE acm rfl ?_;have hm:=aao hn;have w1:IntKind.u64.wrap 1=1:=by decide
 have w2:((0+1:Nat):Int)=1:=rfl;have w3:IntKind.u64.wrap (n:Int)=n:=cI rfl (by omega);have w4:IntKind.i64.wrap (n:Int)=n:=wi rfl (by omega);have e1:((0:Int) < 0)=False:=ff (by decide);have e2:((n:Int) < 0)=False:=eq_false (by omega);have e3:(9223372036854775807 < (n:Int))=False:=eq_false (by omega);have z1:oW (.v (.int .i64 (n:Int))) (.v (.int .i64 (n:Int)))=some (n,n):=by
  simp only [oW];grind
 have z2:(n*88≤140737488355328)=True:=eq_true (by omega);have tk:∀ A:List AV,List.take n [A]=[A]:=fun A=>List.take_of_length_le (by omega);have hmin:min 1 n=1:=Nat.min_eq_left h1;have dr:List.drop 1 (List.replicate n [B false,.emp,I 0,B false,.emp,I 0,B false])=List.replicate (n - 1) [B false,.emp,I 0,B false,.emp,I 0,B false]:=List.drop_replicate;have hl:=X5 (X:=aA x) (Z:=[B false,.emp,I 0,B false,.emp,I 0,B false]) hn [] n 1 (by omega) (Nat.le_refl _) h1;simp only [fu,fG,aA,go_sem,am4,am3,am5,am6,am7,List.length_cons,List.length_nil,w1,w2,w3,w4,hm,e1,e2,e3,z1,z2,tk,hmin,dr,Nat.zero_le,List.length_replicate,true_and,Int.natCast_one];generalize hX:ap 0 _ _=X;obtain ⟨hh,rfl,q⟩:=hl _ _ _ hX rfl rfl rfl;simp only [go_sem,am4,am3,am5,am6,am7,q,List.length_replicate,Nat.zero_add,Nat.le_refl,if_true,Option.bind_some,Option.map_some];grind [bB,List.map_replicate]
theorem Of {l:List Nat} {i:Nat} (h:i < l.length):(dI l)[i]?=some ((l.getD i 0:Nat):Int):=by
 grind [dI]
theorem ab6 {l:List Nat} {i:Nat} (h:i < l.length):(bw (dI l))[i]?=some [I (l.getD i 0:Nat)]:=by
 grind [bw,Of]
theorem uP (l:List Nat):(dI l).length=l.length:=by simp [dI]
def Mx (dn dn' es:List Nat) (i:Nat):Prop:=dn'.length=dn.length∧(∀ d ∈ dn',d≤32)∧(∀ j,dn.getD j 0≤dn'.getD j 0)∧∀ j,i≤j→es.getD j 0≤dn'.getD j 0
theorem aap {v:Nat} {p:Int} (h8:v≤8) {es:List Nat} (hes:es.length=v) (he32:∀ e ∈ es,e≤32) {o2 o8:Ob} (c2:∀ l,aM l o2=true) (c8:∀ l,aM l o8=true) {A:List Rt} {nA iA:Int} :
  ∀ (k i:Nat),i+k=v→∀ dn:List Nat,dn.length=v→(∀ d ∈ dn,d≤32)→∀ (s:ae) (h:ac) (X:Option (Ex × St)),ap 2 [2,6,26,27,28] (aq (ak R (aG false) iJ) [2,6,26,27,28,33,34,35] [2,8,21,24,2624] s h)=X→s 2=.ref 2 none 0 0 0→s 6=.ref 24 none 0 0 0→s 26=.sl 4 (df A)→s 27=I nA→s 28=I iA→s 33=.sl 1 (bw (dI es))→s 34=I v→s 35=I i→h 2=o2→h 8=o8→h 21=.dead→h 24=.bx [.osl 1 (bw (dI dn)),.emp,I p]→h 2624=.dead →
  ∃ hh dn',X=some (.normal,⟨upd (upd (upd (upd (upd (fun _=>.any) 28 (I iA)) 27 (I nA)) 26 (.sl 4 (df A))) 6 (.ref 24 none 0 0 0)) 2 (.ref 2 none 0 0 0),hh⟩)∧hh 2=o2∧hh 24=.bx [.osl 1 (bw (dI dn')),.emp,I p]∧hh 21=.dead∧hh 2624=.dead∧Mx dn dn' es i:=by
 intro k;induction k with
 | zero =>
  intro i hi dn hd hb s h X hX g2 g6 g26 g27 g28 g33 g34 g35 k2 k8 k21 k24 k2624;subst hX;have e1:((i:Int) < (v:Int))=False:=ff (by omega);have hc:=c2 [2,8,21,24,2624];have hc8:=c8 [2,8,21,24,2624];rw [ai];refine ⟨?hh0,dn,?_,?_,?_,?_,?_,rfl,hb,fun _=>Nat.le_refl _,fun j hj=>?_⟩;rotate_left
  ·simp only [iJ,go_sem,am4,am3,am5,am6,am7,g2,g6,g26,g27,g28,g33,g34,g35,k2,k8,k21,k24,k2624,hc,hc8,e1];rfl
  ·rfl
  ·rfl
  ·rfl
  ·rfl
  grind
 | succ k ih =>
  intro i hi dn hd hb s h X hX g2 g6 g26 g27 g28 g33 g34 g35 k2 k8 k21 k24 k2624;subst hX;have hlt:i < v:=by omega
  have e1:((i:Int) < (v:Int))=True:=tt (by omega);have e2:=ab6 (l:=dn) (i:=i) (by omega);have e3:aZ (bw (dI es)) (i:Int)=some (.ipt [I (es.getD i 0:Nat)]):=lM rfl (Of (by omega));have e5:IntKind.i64.wrap ((i:Int)+1)=((i+1:Nat):Int):=wi (by omega) (by omega);have e6:(0≤(i:Int))=True:=tt (by omega);have e7:((i:Int) < ((dI dn).length:Int))=True:=eq_true (by grind [uP]);have hc:=c2 [2,8,21,24,2624];have hc8:=c8 [2,8,21,24,2624];obtain ⟨m,hm⟩:∃ m,max (dn.getD i 0) (es.getD i 0)=m:=⟨_,rfl⟩;have em:(if ((dn.getD i 0:Nat):Int) < ((es.getD i 0:Nat):Int) then ((es.getD i 0:Nat):Int) else ((dn.getD i 0:Nat):Int))=(m:Int):=by
   omega
  have e4:nc 1 1 i 0 [I (m:Int)] 1 (bw (dI dn))=some (bw (dI (dn.set i m))):=by
   simp_all [nc,if_pos,setRow,bw,dI,List.map_set]
  have hms:∀ d ∈ dn.set i m,d≤32:=fun d hd2=>by
   rcases List.mem_or_eq_of_mem_set hd2 with h | h
   ·exact hb d h
   ·subst h;have h1:dn.getD i 0≤32:=by
     rw [List.getD_eq_getElem?_getD,List.getElem?_eq_getElem (by omega)];exact hb _ (List.getElem_mem _)
    have h2:es.getD i 0≤32:=by
     rw [List.getD_eq_getElem?_getD,List.getElem?_eq_getElem (by omega)];exact he32 _ (List.getElem_mem _)
    omega
  have ih':=ih (i+1) (by omega) (dn.set i m) (by rw [List.length_set]; exact hd) hms;rw [ai];generalize aq _ _ _=L at ih' ⊢;simp only [iJ,go_sem,am4,am3,am5,am6,am7,g2,g6,g26,g27,g28,g33,g34,g35,k2,k8,k21,k24,k2624,hc,hc8,e1,e2,e3,e5,e6,e7,Int.toNat_natCast,Nat.zero_add,lP,rl,aad,em,e4];generalize hX:ap 2 _ _=X;obtain ⟨hh,dn',q1,q2,q3,q4,q5,m1,m2,m3,m4⟩:=ih' _ _ _ hX rfl rfl rfl rfl rfl rfl rfl rfl rfl rfl rfl rfl rfl;refine ⟨hh,dn',q1,q2,q3,q4,q5,by rw [m1,List.length_set],m2,fun j=>?_,fun j hj=>?_⟩
  all_goals grind
def Nt (v:Nat) (t:Rt) (es:List Nat):Prop:=t.exps=dI es∧es.length=v∧∀ e ∈ es,e≤32
theorem aaq {v:Nat} {p:Int} (h8:v≤8) {A:List Rt} {E:List (List Nat)} (hA:A.length=E.length) (h5:A.length≤500) (hn:∀ (i:Nat) (t:Rt) (es:List Nat),A[i]?=some t→E[i]?=some es→Nt v t es) {o2:Ob} (c2:∀ l,aM l o2=true) :
  ∀ (k i:Nat),i+k=A.length→∀ dn:List Nat,dn.length=v→(∀ d ∈ dn,d≤32)→∀ (s:ae) (h:ac) (X:Option (Ex × St)),ap 0 [2,6] (aq (ak R (aG false) kV) [2,6,26,27,28] [2,21,24,2624] s h)=X→s 2=.ref 2 none 0 0 0→s 6=.ref 24 none 0 0 0→s 26=.sl 4 (df A)→s 27=I A.length→s 28=I i→h 2=o2→h 21=.dead→h 24=.bx [.osl 1 (bw (dI dn)),.emp,I p]→h 2624=.dead →
  ∃ hh dn',X=some (.normal,⟨upd (upd (fun _=>.any) 6 (.ref 24 none 0 0 0)) 2 (.ref 2 none 0 0 0),hh⟩)∧hh 2=o2∧hh 24=.bx [.osl 1 (bw (dI dn')),.emp,I p]∧hh 21=.dead∧hh 2624=.dead∧dn'.length=v∧(∀ d ∈ dn',d≤32)∧(∀ j,dn.getD j 0≤dn'.getD j 0)∧∀ (a:Nat) (es:List Nat),i≤a→E[a]?=some es→∀ j,es.getD j 0≤dn'.getD j 0:=by
 intro k;induction k with
 | zero =>
  intro i hi dn hd hb s h X hX g2 g6 g26 g27 g28 k2 k21 k24 k2624;subst hX;have e1:((i:Int) < (A.length:Int))=False:=ff (by omega);have hc:=c2 [2,21,24,2624];rw [ai];refine ⟨?hh0,dn,?_,?_,?_,?_,?_,hd,hb,fun _=>Nat.le_refl _,fun a es ha he=>?_⟩;rotate_left
  ·simp only [kV,go_sem,am4,am3,am5,am6,am7,g2,g6,g26,g27,g28,k2,k21,k24,k2624,hc,e1];rfl
  ·rfl
  ·rfl
  ·rfl
  ·rfl
  grind
 | succ k ih =>
  intro i hi dn hd hb s h X hX g2 g6 g26 g27 g28 k2 k21 k24 k2624;subst hX;have e1:((i:Int) < (A.length:Int))=True:=tt (by omega);obtain ⟨t,ht⟩:∃ t,A[i]?=some t:=⟨_,List.getElem?_eq_getElem (by omega)⟩;obtain ⟨es,hes⟩:∃ es,E[i]?=some es:=⟨_,List.getElem?_eq_getElem (by omega)⟩;obtain ⟨n1,n2,n3⟩:=hn i t es ht hes;have e2:aZ (df A) (i:Int)=some (.ipt (en t)):=pE rfl ht;have e5:IntKind.i64.wrap ((i:Int)+1)=((i+1:Nat):Int):=wi (by omega) (by omega);have hc:=c2 [2,21,24,2624];have hg:=aap (p:=p) h8 n2 n3 c2 (o8:=.bx [.sl 1 (bw (dI es)),B t.c.neg,lm t.c.m,I t.c.e]) (fun _=>rfl) (A:=A) (nA:=A.length) (iA:=i) v 0 (Nat.zero_add _) dn hd hb;have e3:(bw (dI es)).length=v:=by rw [rm,uP,n2]
  rw [en,n1] at e2;have ih':=ih (i+1) (by omega);rw [ai];simp only [kV,go_sem,am4,am3,am5,am6,am7,g2,g6,g26,g27,g28,k2,k21,k24,k2624,hc,e1,e2,e3];generalize hX:ap 2 _ _=X;obtain ⟨hh,dn',rfl,q2,q24,q21,q2624,m1,m2,m3,m4⟩:=hg _ _ _ hX rfl rfl rfl rfl rfl rfl rfl rfl rfl rfl rfl rfl rfl;simp only [go_sem,am4,am3,am5,am6,am7,e5];generalize hX:ap 0 _ _=X;obtain ⟨hh2,dn2,r1,r2,r3,r4,r5,u1,u2,u3,u4⟩:=ih' dn' (by omega) m2 _ _ _ hX rfl rfl rfl rfl rfl q2 q21 q24 q2624;grind
theorem KE:∀ (l:List Nat) (d n:Nat),be (l++[d]) n=be l n*(d+1)
 | [],_,_=>rfl
 | a::l,d,n=>KE l d (n*(a+1))
theorem V5 {dn:List Nat} {i:Nat} (h:i < dn.length):be (dn.take (i+1)) 1=be (dn.take i) 1*(dn.getD i 0+1):=by
 grind [List.take_add_one,KE]
theorem X6 {dn es:List Nat} {i s:Nat} (h:i < dn.length) (h2:i < es.length):kP (dn.drop i) (es.drop i) s=es.getD i 0*s+kP (dn.drop (i+1)) (es.drop (i+1)) (s*(dn.getD i 0+1)):=by
 rw [List.drop_eq_getElem_cons h,List.drop_eq_getElem_cons h2,List.getD_eq_getElem?_getD,List.getD_eq_getElem?_getD,List.getElem?_eq_getElem h,List.getElem?_eq_getElem h2];rfl
theorem aar {dn es:List Nat} {cs:List Ri} {p:Int} {v:Nat} (h8:v≤8) (hd:dn.length=v) (hb:∀ d ∈ dn,d≤32) (hN4:be dn 1≤400) (hes:es.length=v) (he32:∀ e ∈ es,e≤32) {o2 o15:Ob} (c2:∀ l,aM l o2=true) (c15:∀ l,aM l o15=true) {A:List Rt} {nA iA:Int} :
  ∀ (k i:Nat),i+k=v→∀ (at_:Nat),at_+kP (dn.drop i) (es.drop i) (be (dn.take i) 1)≤400→∀ (s:ae) (h:ac) (X:Option (Ex × St)),ap 8 [6,15,16,82,83,84] (aq (ak R (aG false) gl) [6,15,16,82,83,84,89,90,91] [2,15,21,24,2624] s h)=X→s 6=.ref 24 none 0 0 0→s 15=.ref 15 none 0 0 0→s 16=I at_→s 82=.sl 4 (df A)→s 83=I nA→s 84=I iA→s 89=.sl 1 (bw (dI es))→s 90=I v→s 91=I i→h 2=o2→h 15=o15→h 21=.dead→h 24=bd (dI dn) cs p→h 2624=.dead →
  ∃ hh,X=some (.normal,⟨upd (upd (upd (upd (upd (upd (fun _=>.any) 84 (I iA)) 83 (I nA)) 82 (.sl 4 (df A))) 16 (I (at_+kP (dn.drop i) (es.drop i) (be (dn.take i) 1):Nat))) 15 (.ref 15 none 0 0 0)) 6 (.ref 24 none 0 0 0),hh⟩)∧hh 2=o2∧hh 15=o15∧hh 24=bd (dI dn) cs p∧(∀ a,a ≠ 2→a ≠ 15→a ≠ 24→hh a=.dead):=by
 intro k;induction k with
 | zero =>
  intro i hi at_ hat s h X hX g6 g15 g16 g82 g83 g84 g89 g90 g91 k2 k15 k21 k24 k2624;subst hX;have e1:((i:Int) < (v:Int))=False:=ff (by omega);have hc:=c2 [2,15,21,24,2624];have hc15:=c15 [2,15,21,24,2624];have hg:=(bu (dI dn) cs p).cl [2,15,21,24,2624];rw [List.drop_eq_nil_of_le (show dn.length≤i by omega)];have hp0:∀ s,kP [] (es.drop i) s=0:=fun s=>by grind [kP]
  rw [hp0,Nat.add_zero,ai];refine ⟨?hh0,?_,?_,?_,?_,?_⟩;rotate_left
  ·simp only [gl,go_sem,am4,am3,am5,am6,am7,g6,g15,g16,g82,g83,g84,g89,g90,g91,k2,k15,k21,k24,k2624,hc,hc15,hg,e1];rfl
  all_goals simp_all [acj,if_false,ite_self]
 | succ k ih =>
  intro i hi at_ hat s h X hX g6 g15 g16 g82 g83 g84 g89 g90 g91 k2 k15 k21 k24 k2624;subst hX;have e1:((i:Int) < (v:Int))=True:=tt (by omega);have e3:aZ (bw (dI es)) (i:Int)=some (.ipt [I (es.getD i 0:Nat)]):=lM rfl (Of (by omega));have e5:IntKind.i64.wrap ((i:Int)+1)=((i+1:Nat):Int):=wi (by omega) (by omega);have hbI:∀ d ∈ dI dn,0≤d∧d≤32:=fun d hd=>by
   obtain ⟨x,hx,rfl⟩:=List.mem_map.1 hd;grind
  have hst:=fun (h:ac) (d:Nat) (hh:h 24=bd (dI dn) cs p) (hd:h (2000+8*d)=.dead)=>oT (iO false) rfl (Db (m:=i) (by grind [uP]) (by omega) hbI (d:=d) hh hd);rw [show (dI dn).take i=dI (dn.take i) from (List.map_take ..).symm,show (1:Int)=((1:Nat):Int) from rfl,D8] at hst;rw [X6 (by omega) (by omega),← V5 (by omega),← Nat.add_assoc] at hat ⊢;have ih':=ih (i+1) (by omega) (at_+es.getD i 0*be (dn.take i) 1) hat;generalize be (dn.take i) 1=st at *
  generalize es.getD i 0=e at *
  have w1:IntKind.i64.wrap ((e:Int)*(st:Int))=((e*st:Nat):Int):=wi (Int.natCast_mul ..).symm (by omega);have w2:IntKind.i64.wrap ((at_:Int)+((e*st:Nat):Int))=((at_+e*st:Nat):Int):=wi (by omega) (by omega);have hc:=c2 [2,15,21,24,2624];have hc15:=c15 [2,15,21,24,2624];have hg:=(bu (dI dn) cs p).cl [2,15,21,24,2624];rw [ai];simp only [gl,go_sem,am4,am3,am5,am6,am7,g6,g15,g16,g82,g83,g84,g89,g90,g91,k2,k15,k21,k24,k2624,hc,hc15,hg,e1,e3];rw [hst _ _ rfl rfl];simp only [go_sem,am4,am3,am5,am6,am7,w1,w2,e5];exact ih' _ _ _ rfl rfl rfl rfl rfl rfl rfl rfl rfl rfl rfl rfl rfl rfl rfl
def gT (dn:List Nat):List Rt→List (List Nat)→G→G
 | t::l,es::r,g=>gT dn l r (gs g (kP dn es 1) (qv t.c))
 | _,_,g=>g
theorem aas {dn:List Nat} {p:Int} {v:Nat} (h8:v≤8) (hd:dn.length=v) (hb:∀ d ∈ dn,d≤32) (hN4:be dn 1≤400) {A:List Rt} {E:List (List Nat)} (hA:A.length=E.length) (h5:A.length≤500) (hn:∀ (i:Nat) (t:Rt) (es:List Nat),A[i]?=some t→E[i]?=some es→Nt v t es∧kP dn es 1 < be dn 1∧vd t.c=true∧Ok0 t.c) {o2:Ob} (c2:∀ l,aM l o2=true) :
  ∀ (k i:Nat),i+k=A.length→∀ (cs:List Ri) (g:G),gh (be dn 1) cs g→∀ (s:ae) (h:ac) (X:Option (Ex × St)),ap 6 [6] (aq (ak R (aG false) iI) [6,82,83,84] [2,21,24,2624] s h)=X→s 6=.ref 24 none 0 0 0→s 82=.sl 4 (df A)→s 83=I A.length→s 84=I i→h 2=o2→h 21=.dead→h 24=bd (dI dn) cs p→h 2624=.dead →
  ∃ hh cs',X=some (.normal,⟨upd (fun _=>.any) 6 (.ref 24 none 0 0 0),hh⟩)∧hh 24=bd (dI dn) cs' p∧gh (be dn 1) cs' (gT dn (A.drop i) (E.drop i) g):=by
 intro k;induction k with
 | zero =>
  intro i hi cs g he s h X hX g6 g82 g83 g84 k2 k21 k24 k2624;subst hX;have e1:((i:Int) < (A.length:Int))=False:=ff (by omega);have hc:=c2 [2,21,24,2624];have hg:=(bu (dI dn) cs p).cl [2,21,24,2624];rw [List.drop_eq_nil_of_le (show A.length≤i by omega),ai];refine ⟨?hh0,cs,?_,?_,he⟩;rotate_left
  ·simp only [iI,go_sem,am4,am3,am5,am6,am7,g6,g82,g83,g84,k2,k21,k24,k2624,hc,hg,e1];rfl
  ·rfl
 | succ k ih =>
  intro i hi cs g he s h X hX g6 g82 g83 g84 k2 k21 k24 k2624;subst hX;have hlt:i < A.length:=by omega
  have e1:((i:Int) < (A.length:Int))=True:=tt (by omega);obtain ⟨t,ht⟩:∃ t,A[i]?=some t:=⟨_,List.getElem?_eq_getElem hlt⟩;obtain ⟨es,hes⟩:∃ es,E[i]?=some es:=⟨_,List.getElem?_eq_getElem (by omega)⟩;obtain ⟨⟨n1,n2,n3⟩,n4,n5,n6⟩:=hn i t es ht hes;have hgT:gT dn (A.drop i) (E.drop i) g=gT dn (A.drop (i+1)) (E.drop (i+1)) (gs g (kP dn es 1) (qv t.c)):=by
   have h1:A[i]=t:=Option.some.inj (by rw [← ht,List.getElem?_eq_getElem hlt]);have h2:E[i]'(by omega)=es:=Option.some.inj (by rw [← hes,List.getElem?_eq_getElem (by omega)]);rw [List.drop_eq_getElem_cons hlt,List.drop_eq_getElem_cons (by omega:i < E.length),h1,h2];rfl
  have e2:aZ (df A) (i:Int)=some (.ipt (en t)):=pE rfl ht;have e5:IntKind.i64.wrap ((i:Int)+1)=((i+1:Nat):Int):=wi (by omega) (by omega);have e3:(bw (dI es)).length=v:=by rw [rm,uP,n2]
  rw [en,n1] at e2;have h0:=aar (cs:=cs) (p:=p) h8 hd hb hN4 n2 n3 c2 (o15:=.bx [.sl 1 (bw (dI es)),B t.c.neg,lm t.c.m,I t.c.e]) (fun _=>rfl) (A:=A) (nA:=A.length) (iA:=i) v 0 (Nat.zero_add _) 0 (by
   show 0+kP dn es 1≤400;omega)
  have hp0:0+kP (dn.drop 0) (es.drop 0) (be (dn.take 0) 1)=kP dn es 1:=Nat.zero_add _;rw [hp0] at h0;have hpt:=jC n6 n5;have ih':=ih (i+1) (by omega) _ _ (he.set (k:=kP dn es 1) (sE n5 n6));rw [hgT];generalize kP dn es 1=P at *
  have i1:(0≤(P:Int))=True:=eq_true (by omega);have i2:((P:Int) < (cs.length:Int))=True:=eq_true (by rw [he.1]; omega);have sr1:nc 7 7 P 0 (aA ⟨t.c,t.c,false⟩) 7 (bB cs)=some (bB (cs.set P ⟨t.c,t.c,false⟩)):=Ak (by grind);have hc:=c2 [2,21,24,2624];have hg:=(bu (dI dn) cs p).cl [2,21,24,2624];simp only [ag,am,ax,aA] at hpt;simp only [aA] at sr1;rw [ai];simp only [iI,go_sem,am4,am3,am5,am6,am7,g6,g82,g83,g84,k2,k21,k24,k2624,hc,hg,e1,e2,e3];generalize hX:ap 8 _ _=X;obtain ⟨hh,rfl,q2,q15,q24,qd⟩:=h0 _ _ _ hX rfl rfl rfl rfl rfl rfl rfl rfl rfl rfl rfl rfl rfl rfl;have b1:=qd 2888 (by decide) (by decide) (by decide);have b2:=qd 2624 (by decide) (by decide) (by decide);have b3:=qd 21 (by decide) (by decide) (by decide);simp only [bd] at q24;simp only [go_sem,am4,am3,am5,am6,am7,q15,q24,b1,hpt,i1,i2,Int.toNat_natCast,Nat.zero_add,Aj,sr1,e5];exact ih' _ _ _ rfl rfl rfl rfl rfl q2 b3 rfl b2
theorem V6:∀ (dn es:List Nat),dn.length=es.length→(∀ j,es.getD j 0≤dn.getD j 0)→Hn dn es
 | [],[],_,_=>trivial
 | d::dn,e::es,h,hj=>⟨hj 0,V6 dn es (by grind) fun j=>hj (j+1)⟩
 | [],_::_,h,_=>by grind
 | _::_,[],h,_=>by grind
theorem F0:∀ (dn:List Nat) (xs:List Rat),xs.length=dn.length→∀ n,sO (jO dn xs) n=be dn n
 | [],[],_,_=>rfl
 | d::dn,x::xs,h,n=>F0 dn xs (by grind) (n*(d+1))
 | [],_::_,h,_=>by grind
 | _::_,[],h,_=>by grind
theorem Rm:∀ (dn:List Nat) (n:Nat),n≤400→wo (dI dn) (n:Int)=none∨wo (dI dn) (n:Int)=some ((be dn n:Nat):Int)∧be dn n≤400
 | [],n,h=>Or.inr ⟨rfl,h⟩
 | d::dn,n,h=>by
  have e:wo (dI (d::dn)) (n:Int)=if 400 < (n:Int)*(Int.ofNat d+1) then none else wo (dI dn) ((n:Int)*(Int.ofNat d+1)):=rfl
  have e2:(n:Int)*(Int.ofNat d+1)=((n*(d+1):Nat):Int):=by rfl
  rw [e,e2];split
  ·exact Or.inl rfl
  ·exact Rm dn (n*(d+1)) (by omega)
def GP (v:Nat) (A:List Rt) (E:List (List Nat)) (p:Int) (r:AV × List Ob):Prop:=r=(.tup [.v (.pointer none),B false],[])∨∃ dn cs,r=(.tup [.obx [.osl 1 (bw (dI dn)),.osl 7 (bB cs),I p],B true],[])∧dn.length=v∧(∀ d ∈ dn,d≤32)∧(∀ es ∈ E,Hn dn es)∧be dn 1≤400∧gh (be dn 1) cs (gT dn A E fun _=>0)
theorem V7 {v:Nat} {p:Int} (h8:v≤8) {A:List Rt} {E:List (List Nat)} (hA:A.length=E.length) (h5:A.length≤500) (hn:∀ (i:Nat) (t:Rt) (es:List Nat),A[i]?=some t→E[i]?=some es→Nt v t es∧vd t.c=true∧Ok0 t.c) :
  ∃ r,R F.bound_gridOf [.agg [I v,.sl 4 (df A)],I p] []=some r∧GP v A E p r:=by
 have z1:oW (.v (.int .i64 (v:Int))) (.v (.int .i64 (v:Int)))=some (v,v):=by
  simp only [oW];grind
 have z2:(v*8≤140737488355328)=True:=eq_true (by omega);have zr:List.replicate v [I 0]=bw (dI (List.replicate v 0)):=by grind [bw,dI,List.map_replicate]
 have hl:(bw (dI (List.replicate v 0))).length=v:=by grind
 have h4:=aaq (p:=p) h8 hA h5 (fun i t es h1 h2=>(hn i t es h1 h2).1) (o2:=.bx [I v,.sl 4 (df A)]) (fun _=>rfl) A.length 0 (Nat.zero_add _) (List.replicate v 0) (by simp) (fun d hd=>by grind);have hrl:=QG A;refine D7 (r:=fun a=>a) Iv.2.1 Iv.2.2 (Iv.1.2.2.2 false) rfl (Nat.le_of_ble_eq_true rfl) ?_;have hh0:aj []=fun _=>.dead:=by funext i; simp [aj]
 simp only [yb,zA,hh0,go_sem,am4,am3,am5,am6,am7,List.length_nil,z1,z2,zr];rw [ab2 (k:=1) (rows:=bw (dI (List.replicate v 0))) rfl hl.symm rfl (by decide)];simp only [go_sem,am4,am3,am5,am6,am7];generalize hX:ap 0 _ _=X;obtain ⟨hh,dn,rfl,q2,q24,q21,q2624,d1,d2,d3,d4⟩:=h4 _ _ _ hX rfl rfl rfl rfl rfl rfl rfl rfl rfl;have hdl:(dI dn).length=v:=by rw [uP,d1]
 have hbI:∀ d ∈ dI dn,0≤d∧d≤32:=fun d hd=>by
  obtain ⟨x,hx,rfl⟩:=List.mem_map.1 hd;grind
 simp only [go_sem,am4,am3,am5,am6,am7,q2,q24,q21,q2624,hdl,rm];generalize hX:ap 4 _ _=X;have hM:=aef (ds:=dI dn) (p:=p) hdl.symm (by omega) hbI (o2:=.bx [I v,.sl 4 (df A)]) (fun _=>rfl) _ _ _ hX rfl rfl rfl rfl rfl rfl q2 q21 q24 q2624;rcases Rm dn 1 (by decide) with hm | ⟨hm,h4⟩
 ·rw [show (1:Int)=((1:Nat):Int) from rfl,hm] at hM;obtain ⟨hh2,rfl⟩:=hM;refine ⟨_,?_,Or.inl rfl⟩;simp only [go_sem,am4,am3,am5,am6,am7]
 rw [show (1:Int)=((1:Nat):Int) from rfl,hm] at hM;obtain ⟨hh,rfl,q2,q24,qd⟩:=hM;have hle:∀ es ∈ E,Hn dn es:=fun es he=>by
  obtain ⟨i,hi⟩:=List.getElem?_of_mem he;have hiE:=(List.getElem?_eq_some_iff.1 hi).1;have:=(hn i _ es (List.getElem?_eq_getElem (by omega)) hi).1.2.1;exact V6 dn es (by omega) (d4 i es (Nat.zero_le _) hi)
 have hpt:=jC bm.2 bm.1;have hrp:=V4 (x:=E3) (jF dn 1 (by decide)) h4;have h1:=aas (p:=p) h8 d1 d2 h4 hA h5 (fun i t es h1 h2=>by
  obtain ⟨a,b,c⟩:=hn i t es h1 h2;refine ⟨a,?_,b,c⟩;have hL:=hle es (List.mem_of_getElem? h2);have:=VM dn es (List.replicate dn.length 0) hL (by simp) 1 0 (by decide)
  simp_all [F0,Nat.zero_add]) (o2:=.bx [I v,.sl 4 (df A)]) (fun _=>rfl) A.length 0 (Nat.zero_add _) (List.replicate (be dn 1) E3) (fun _=>0) ⟨by simp,fun k x hx=>by
   rw [List.getElem?_replicate] at hx;split at hx
   ·cases hx;rw [← C2];exact sE bm.1 bm.2
   grind⟩
 generalize List.replicate (be dn 1) E3=cs0 at hrp h1;have b1:=qd 2600 (by decide) (by decide);have b2:=qd 76 (by decide) (by decide);have b3:=qd 2624 (by decide) (by decide);have b4:=qd 21 (by decide) (by decide);simp only [ag,am,ax,aA,aP,E3] at hpt hrp;simp only [aA,go_sem,am4,am3,am5,am6,am7,q24,b1,b2,b3,hpt,hrp];rw [Tq (h:=upd (upd (upd hh 76 _) 76 _) 2624 (.ar 7 (bB cs0))) (id:=24) (p:=1) (id2:=2624) (k:=7) (n:=cs0.length) rfl (IY _).symm q24 (by decide) (by grind)];simp only [go_sem,am4,am3,am5,am6,am7,ab1,Bool.false_eq_true,q2,hrl];generalize hX:ap 6 _ _=X;obtain ⟨hh2,cs2,rfl,r24,he2⟩:=h1 _ _ _ hX rfl rfl rfl rfl q2 b4 rfl rfl;refine ⟨_,?_,Or.inr ⟨dn,cs2,rfl,d1,d2,hle,h4,he2⟩⟩;simp only [bd] at r24;simp only [go_sem,am4,am3,am5,am6,am7,r24];rw [if_pos (by rfl)];have e:ni hh2 (.ref 24 none 0 0 0)=some (.obx [.osl 1 (bw (dI dn)),.osl 7 (bB cs2),I p]):=by
  have hp:aR 24=false:=rfl;simp [ni,jk,RF,r24,hp];exact ⟨rfl,rfl,rfl⟩
 rw [e];rfl
def lQ:List Nat→List Rat→List (Nat × LF)
 | d::ds,t::ts=>(d,fun v=>dc t v d 0)::lQ ds ts
 | _,_=>[]
theorem V8:∀ (ds:List Nat) (ts:List Rat),Hm (lQ ds ts)
 | d::ds,t::ts=>fun p hp=>by
  rcases List.mem_cons.1 hp with rfl | hp
  ·simp_all [Hl]
  ·exact V8 ds ts p hp
 | [],_=>fun _ h=>by grind [lQ]
 | _::_,[]=>fun _ h=>by grind [lQ]
theorem Jo:∀ (dn:List Nat) (ts:List Rat),ts.length=dn.length→∀ n,sO (lQ dn ts) n=be dn n
 | [],[],_,_=>rfl
 | d::dn,x::xs,h,n=>Jo dn xs (by grind) (n*(d+1))
 | [],_::_,h,_=>by grind
 | _::_,[],h,_=>by grind
theorem Oh:∀ (dn:List Nat) (ts:List Rat),ts.length=dn.length→∀ d t,lQ (dn++[d]) (ts++[t])=lQ dn ts++[(d,fun v=>dc t v d 0)]
 | [],[],_,_,_=>rfl
 | d::dn,x::xs,h,d',t'=>by
  show _::lQ (dn++[d']) (xs++[t'])=_::(lQ dn xs++_);rw [Oh dn xs (by simpa using h)]
 | [],_::_,h,_,_=>by grind
 | _::_,[],h,_,_=>by grind
theorem Oi:∀ (a b:List Nat) (n:Nat),be (a++b) n=be b (be a n)
 | [],_,_=>rfl
 | d::a,b,n=>Oi a b (n*(d+1))
theorem X7 {dn1 dn2:List Nat} {n N:Nat} {xs2 ts1:List Rat} (h1:ts1.length=dn1.length) (h2:xs2.length=dn2.length) (hN:N=be (dn1++n::dn2) 1) {x t lo w:Rat} (hx:x=lo+w*t) (g:G) :
  eR (lQ dn1 ts1++(n,fun v=>pl x v 0 (n+1))::jO dn2 xs2) 1 0 g =
   eR (lQ dn1 ts1++(n,fun v=>dc t v n 0)::jO dn2 xs2) 1 0 (ps (fun f=>Hg n (fun j=>f+j*be dn1 1)) (be dn1 1) n N 0 (ps (fun f=>Hf lo w n (fun j=>f+j*be dn1 1)) (be dn1 1) n N 0 g)):=by
 have hs:=jF dn1 1 (by decide);have ht1:=Jo dn1 ts1 h1 1;have ht2:=F0 dn2 xs2 h2;rw [Oi] at hN;have hN:N=be dn2 (be dn1 1*(n+1)):=hN;generalize be dn1 1=s at *
 have hi:∀ f a b:Nat,f+a*s=f+b*s↔a=b:=fun f a b=>⟨fun h=>Nat.eq_of_mul_eq_mul_right (by omega) (Nat.add_left_cancel h),fun h=>by rw [h]⟩;have c1:kO (n+1) fun v=>pl x v 0 (n+1):=C4 _ _ (by simp);have c2:kO (n+1) fun v=>pl t v 0 (n+1):=C4 _ _ (by simp);have c3:kO (n+1) fun v=>dc t v n 0:=Hl _ _ (by simp);have key:∀ (L L':LF) (op:Nat→G→G) (g:G),kO (n+1) L→kO (n+1) L'→(∀ f g,(∀ a,(∀ m,m≤n→a ≠ f+m*s)→op f g a=g a)∧L (fun m=>g (f+m*s))=L' (fun m=>op f g (f+m*s))) →
   eR (lQ dn1 ts1++(n,L)::jO dn2 xs2) 1 0 g=eR (lQ dn1 ts1++(n,L')::jO dn2 xs2) 1 0 (ps op s n N 0 g):=fun L L' op g hL hL' hop=>by
  refine N4 hL hL' (D4 dn2 xs2) (lQ dn1 ts1) (V8 dn1 ts1) 1 0 (by decide) fun i0 q hi0 hq=>?_;rw [ht1] at hi0 hq ⊢;refine (aed (by omega) hL hL' hop N 0 g).2 _ (Nat.zero_le _) ?_ ?_
  ·grind
  ·have e:i0+q*(s*(n+1))=i0+q*(n+1)*s:=by grind
   rw [e,Nat.add_mul_div_right _ _ (by omega),Nat.div_eq_of_lt hi0,Nat.zero_add,Nat.mul_mod_left]
 rw [key _ _ (fun f=>Hf lo w n (fun j=>f+j*s)) g c1 c2 fun f g=>abR hx (hi f) n g];exact key _ _ (fun f=>Hg n (fun j=>f+j*s)) _ c2 c3 fun f g=>abS (hi f) n g
theorem V9 {dn:List Nat} {xs:List Rat} (hx:xs.length=dn.length):∀ (A:List Rt) (E:List (List Nat)) (g:G),A.length=E.length→(∀ es ∈ E,Hn dn es)→E.Nodup→(∀ es ∈ E,g (kP dn es 1)=0)→(∀ (i:Nat) (t:Rt) (es:List Nat),A[i]?=some t→E[i]?=some es→t.exps=dI es) →
  eR (jO dn xs) 1 0 (gT dn A E g)=eR (jO dn xs) 1 0 g+fv xs A
 | [],[],g,_,_,_,_,_=>by
  show _=_+0;rw [Rat.add_zero];rfl
 | t::A,es::E,g,hA,hle,hnd,h0,hE=>by
  obtain ⟨hn1,hn2⟩:=List.nodup_cons.1 hnd;have hes:=hE 0 t es rfl rfl;have hxn:yC t.exps=es:=by
   rw [hes];unfold yC dI;rw [List.map_map];exact (List.map_congr_left (g:=fun c=>c) fun x _=>by simp).trans (List.map_id' _)
  show eR (jO dn xs) 1 0 (gT dn A E (gs g (kP dn es 1) (qv t.c)))=_;rw [V9 hx A E _ (by grind) (fun e he=>hle e (by grind)) hn2 (fun e he=>by
   unfold gs;rw [if_neg fun hq=>?_]
   ·grind
   ·have:=(Q9 dn e es (hle e (by grind)) (hle es (by simp)) 1 0 0 (by decide) (by decide) (by omega)).2;grind) fun i u e h1 h2=>hE (i+1) u e h1 h2]
  rw [abT (D4 dn xs),h0 es (by simp)];have hm:=Q8 dn es xs (hle es (by simp)) hx 1 0 0 (by decide) (by decide);grind [qv,C5,yC,fv]
 | [],_::_,_,h,_,_,_,_=>by grind
 | _::_,[],_,h,_,_,_,_=>by grind
theorem X8 {ls:List (Nat × LF)} (ok:Hm ls) (s i:Nat):eR ls s i (fun _=>0)=0:=by
 have:=Jk (a:=0) (c:=0) (g:=fun _=>0) (h:=fun _=>0) ls ok s i;grind
theorem ab7 {lo hi:Rat} {g:G} {dn:List Nat} {ts:List Rat} (hl:ts.length=dn.length) (ht:∀ t ∈ ts,0≤t∧t≤1) (h:∀ k,k < be dn 1→lo≤g k∧g k≤hi):lo≤eR (lQ dn ts) 1 0 g∧eR (lQ dn ts) 1 0 g≤hi:=by
 refine Q7 (lQ dn ts) ?_ 1 0 fun q hq=>?_
 ·have:∀ (dn:List Nat) (ts:List Rat),(∀ t ∈ ts,0≤t∧t≤1)→∀ p ∈ lQ dn ts,∀ v:G,(∀ j,j≤p.1→lo≤v j∧v j≤hi)→lo≤p.2 v∧p.2 v≤hi:=by
   intro dn;induction dn with
   | nil=>grind [lQ]
   | cons d dn ih =>
    intro ts ht p hp v hv;cases ts with
    | nil=>grind [lQ]
    | cons t ts =>
     rcases List.mem_cons.1 hp with rfl | hp
     all_goals grind [N3]
  exact this dn ts ht
 grind [Jo]
theorem Oj {l:List Int} (h:∀ e ∈ l,0≤e):l=dI (yC l):=by
 grind [dI,yC,List.map_map,List.map_congr_left,Int.toNat_of_nonneg,List.map_id']
def Dc (l:List Rt):List (List Nat):=l.map fun t=>yC t.exps
theorem X9 {v:Int} {l:List Rt} (c:Cl v l):(Dc l).Nodup:=by
 have h1:l.Pairwise fun a b=>a.exps ≠ b.exps:=c.s.imp fun h=>(KA h).symm;unfold Dc;rw [List.nodup_iff_pairwise_ne,List.pairwise_map];refine List.Pairwise.imp_of_mem (fun {a b} ha hb h he=>h ?_) h1;rw [Oj fun e hx=>((c.t a ha).b e hx).1,Oj fun e hx=>((c.t b hb).b e hx).1,he]
theorem YQ {v:Nat} {l:List Rt} (c:Cl v l) (i:Nat) (t:Rt) (es:List Nat) (h1:l[i]?=some t) (h2:(Dc l)[i]?=some es):Nt v t es∧vd t.c=true∧Ok0 t.c:=by
 have hm:=c.t t (List.mem_of_getElem? h1);unfold Dc at h2;rw [List.getElem?_map,h1] at h2;have h2:yC t.exps=es:=Option.some.inj h2;subst h2;refine ⟨⟨Oj fun e hx=>(hm.b e hx).1,?_,fun e he=>?_⟩,hm.vc,hm.c⟩
 ·have:=hm.len;grind [yC,List.length_map]
 ·obtain ⟨z,hz,rfl⟩:=List.mem_map.1 he;have:=hm.b z hz;omega
def qo (o:Option Rd):Rat:=qv (o.getD aP)
theorem Jp {x:Rat}:∀ (l:List Rt) (o0 o1:Option Rd),(∀ t ∈ l,t.exps=[0]∧o0=none∨t.exps=[1]∧o1=none)→l.Pairwise (fun a b=>a.exps ≠ b.exps)→∃ p0 p1,tM l [o0,o1]=[p0,p1]∧qo p0+qo p1*x=qo o0+qo o1*x+fv [x] l
 | [],o0,o1,_,_=>⟨o0,o1,rfl,by show _=_+0; grind⟩
 | t::l,o0,o1,h,hp=>by
  obtain ⟨p1,p2⟩:=List.pairwise_cons.1 hp;have q0:qo none=0:=C2;unfold tM;rcases h t (by simp) with ⟨he,rfl⟩ | ⟨he,rfl⟩
  ·have hs:[none,o1].set (pZ 1 t.exps 0+1).toNat (some t.c)=[some t.c,o1]:=by rw [he]; rfl
   rw [hs];obtain ⟨a,b,e1,e2⟩:=Jp (x:=x) l (some t.c) o1 (fun u hu=>by
    grind) p2
   refine ⟨a,b,e1,?_⟩;rw [e2];show qv t.c+_+_=_+(qv t.c*C5 [x] (yC t.exps)+fv [x] l);rw [he,q0];show _=_+(qv t.c*(x ^ 0*1)+_);grind
  ·have hs:[o0,none].set (pZ 1 t.exps 0+1).toNat (some t.c)=[o0,some t.c]:=by rw [he]; rfl
   rw [hs];obtain ⟨a,b,e1,e2⟩:=Jp (x:=x) l o0 (some t.c) (fun u hu=>by
    grind) p2
   refine ⟨a,b,e1,?_⟩;rw [e2];show _+qv t.c*x+_=_+(qv t.c*C5 [x] (yC t.exps)+fv [x] l);rw [he,q0];show _=_+(qv t.c*(x ^ 1*1)+_);grind
theorem Wa {a:Rp} (oa:OkP a) (hl:yA a=true) (h1:a.vars=1) (x:Rat):∃ c m,A8 a=[c,m]∧fv [x] a.terms=qv c+qv m*x:=by
 obtain ⟨hv,hd⟩:=ZT hl;obtain ⟨cl,_⟩:=To oa hv;obtain ⟨p0,p1,e1,e2⟩:=Jp (x:=x) a.terms none none (fun t ht=>by
  obtain ⟨s1,s2,s3,s4,s5⟩:=DT hv ht;obtain ⟨e,he⟩:=ZU (s2.trans h1);have h3:=s1.2 e (by grind);grind [bH]) (cl.s.imp fun h=>(KA h).symm)
 refine ⟨p0.getD aP,p1.getD aP,?_,?_⟩
 ·simp_all [A8,QK,tM]
 grind [qo,C2,p0]
theorem Ya {c m:Rd} {b:Ri} {x:Rat} {p:Int} (vc:vd c=true∧Ok0 c) (vm:vd m=true∧Ok0 m) (hp:di p=true) (hb:In x b) (hk:kI b=true):In (qv c+qv m*x) (A9 c m b p):=by
 rcases hb.k with ⟨rfl,h1⟩ | ⟨_,x1,x2⟩
 ·grind
 have hq:∀ {y:Rd},(jE m y).2=0→qv (jE m y).1=qv m*qv y:=fun {y} h=>by
  have h1:=ZS h;have h2:=(Hj (z:=zI m*zI y) (r:=zI (jE m y).1) 16384).1 (Int.le_of_eq h1.symm);have h3:=(Hj (z:=zI m*zI y) (r:=zI (jE m y).1) 16384).2 (Int.le_of_eq h1);unfold qv EQ;grind
 unfold A9 Tm;split
 ·next h =>
  have v1:=DU m (Ku m b);have v2:=DU m (Kv m b);have ok:∀ {a b:Rd} {up:Bool},vd (eM a b p up).1=true∧Ok0 (eM a b p up).1:=fun {a b up}=>by
   grind [eM,sz,bm]
  have hm:qv m*qv (Ku m b)≤qv m*x∧qv m*x≤qv m*qv (Kv m b):=by
   unfold Ku Kv;by_cases hs:bY m < 0
   ·have h0:=(Be vm.1).2.1 hs;have a:=Rat.mul_le_mul_of_nonneg_left x1 (show 0≤-qv m by grind);have b:=Rat.mul_le_mul_of_nonneg_left x2 (show 0≤-qv m by grind);grind
   ·have h0:0≤qv m:=Rat.not_lt.1 fun h=>hs ((Be vm.1).2.2 h);grind [Rat.mul_le_mul_of_nonneg_left]
  refine LH ok ok (fun h=>?_) (fun h=>?_)
  all_goals grind [Hi]
 ·exact Or.inl rfl
def sF:List Ri→List Rat→List Rat→Prop
 | b::dom,x::xs,t::ts=>x=qv b.lo+(qv b.hi - qv b.lo)*t∧0≤t∧t≤1∧sF dom xs ts
 | [],[],[]=>True
 | _,_,_=>False
theorem sF.len:∀ {dom:List Ri} {xs ts:List Rat},sF dom xs ts→xs.length=dom.length∧ts.length=dom.length
 | _::_,_::_,_::_,h=>by
  obtain ⟨a,b⟩:=sF.len h.2.2.2;grind
 | [],[],[],_=>⟨rfl,rfl⟩
 | [],_::_,_,h=>h.elim
 | [],[],_::_,h=>h.elim
 | _::_,[],_,h=>h.elim
 | _::_,_::_,[],h=>h.elim
theorem sF.get:∀ {dom:List Ri} {xs ts:List Rat},sF dom xs ts→∀ {i:Nat} {b:Ri},dom[i]?=some b→∃ x t,xs[i]?=some x∧ts[i]?=some t∧x=qv b.lo+(qv b.hi - qv b.lo)*t
 | b::_,x::_,t::_,h,0,b',hb=>by
  have:b=b':=by grind
  subst this;exact ⟨x,t,rfl,rfl,h.1⟩
 | _::_,_::_,_::_,h,i+1,b,hb=>sF.get h.2.2.2 (i:=i) (by grind)
 | [],_,_,_,_,_,hb=>by grind
 | _::_,[],_,h,_,_,_=>h.elim
 | _::_,_::_,[],h,_,_,_=>h.elim
theorem sF.t01:∀ {dom:List Ri} {xs ts:List Rat},sF dom xs ts→∀ t ∈ ts,0≤t∧t≤1
 | _::_,_::_,_::_,h,t,ht=>by
  rcases List.mem_cons.1 ht with rfl | ht
  ·exact ⟨h.2.1,h.2.2.1⟩
  ·exact sF.t01 h.2.2.2 t ht
 | [],[],[],_,t,ht=>by grind
 | [],_::_,_,h,_,_=>h.elim
 | [],[],_::_,h,_,_=>h.elim
 | _::_,[],_,h,_,_=>h.elim
 | _::_,_::_,[],h,_,_=>h.elim
theorem Yb {dn:List Nat} {i n:Nat} (h:dn[i]?=some n):dn.take i++n::dn.drop (i+1)=dn∧dn.drop i=n::dn.drop (i+1)∧dn.take (i+1)=dn.take i++[n]:=by
 grind [List.take_append_drop,List.take_add_one]
theorem aat {dom:List Ri} {dn:List Nat} {p:Int} {v:Nat} (h8:v≤8) (hd:dn.length=v) (hdl:dom.length=v) (hb:∀ d ∈ dn,d≤32) (hN4:be dn 1≤400) (od:∀ b ∈ dom,VI b) {c6:List AV} (hc6:aM [6,2368] (.bx c6)=true) :
  ∀ (k i:Nat),i+k=v→∀ (cs:List Ri) (g:G),gh (be dn 1) cs g→∀ (s:ae) (h:ac) (X:Option (Ex × St)),ap 0 [6,9] (aq (ak R (aG false) iV) [1,6,9,56,57] [6,2368] s h)=X→s 1=.sl 7 (bB dom)→s 6=.ref 6 none 0 0 0→s 9=.ref 2368 none 0 0 0→s 56=I v→s 57=I i→h 6=.bx c6→h 2368=bd (dI dn) cs p →
  ∃ hh cs' g',X=some (.normal,⟨upd (upd (fun _=>.any) 9 (.ref 2368 none 0 0 0)) 6 (.ref 6 none 0 0 0),hh⟩)∧hh 6=.bx c6∧hh 2368=bd (dI dn) cs' p∧(∀ a,a ≠ 6→a ≠ 2368→hh a=.dead)∧gh (be dn 1) cs' g' ∧
   ∀ xs ts:List Rat,sF dom xs ts→eR (lQ (dn.take i) (ts.take i)++jO (dn.drop i) (xs.drop i)) 1 0 g=eR (lQ dn ts) 1 0 g':=by
 intro k;induction k with
 | zero =>
  intro i hi cs g he s h X hX g1 g6 g9 g56 g57 k6 k2368;subst hX;have e1:((i:Int) < (v:Int))=False:=ff (by omega);have hg:=(bu (dI dn) cs p).cl [6,2368];rw [ai];refine ⟨?hh0,cs,g,?_,?_,?_,?_,he,fun xs ts hp=>?_⟩;rotate_left
  ·simp only [iV,go_sem,am4,am3,am5,am6,am7,g1,g6,g9,g56,g57,k6,k2368,hc6,hg,e1];rfl
  ·rfl
  ·rfl
  ·simp_all [acj,if_false]
  ·obtain ⟨l1,l2⟩:=hp.len;rw [List.take_of_length_le (by omega),List.take_of_length_le (by omega),List.drop_eq_nil_of_le (by omega)];show eR (lQ dn ts++[]) 1 0 g=_;grind
 | succ k ih =>
  intro i hi cs g he s h X hX g1 g6 g9 g56 g57 k6 k2368;subst hX;have hlt:i < v:=by omega
  have e1:((i:Int) < (v:Int))=True:=tt (by omega);obtain ⟨b,hb0⟩:∃ b,dom[i]?=some b:=⟨_,List.getElem?_eq_getElem (by omega)⟩;obtain ⟨n,hn⟩:∃ n,dn[i]?=some n:=⟨_,List.getElem?_eq_getElem (by omega)⟩;have e2:aZ (bB dom) (i:Int)=some (.ipt (aA b)):=DO rfl hb0;have e5:IntKind.i64.wrap ((i:Int)+1)=((i+1:Nat):Int):=wi (by omega) (by omega);have vb:=od b (List.mem_of_getElem? hb0);have hg:=(bu (dI dn) cs p).cl [6,2368];obtain ⟨cs1,hR1,he1⟩:=aan (p:=p) vb.1 vb.2 hn (by omega) hb hN4 he;obtain ⟨cs2,hR2,he2⟩:=aam (p:=p) hn (by omega) hb hN4 he1;have hu:=fun (h:ac) (d:Nat) (hh:h 2368=bd (dI dn) cs p) (hd:h (2000+8*d)=.dead)=>oT (iN.1.2.1 false) (by rfl) (N9 (iN.1.2.1 false) (iN.1.2.2.2 false) (zas:=[I i,ax b]) (as':=[I i,ax b]) (by rw [iN.1.1]; simp only [ax,aA,go_sem]) rfl rfl hh (bu _ _ _) (bu _ _ _) (fun _=>rfl) hR1 ab0 (d:=d) (by decide) rfl);have hbn:=fun (h:ac) (d:Nat) (hh:h 2368=bd (dI dn) cs1 p) (hd:h (2000+8*d)=.dead)=>oT (fk.1.2.1 false) (by rfl) (N9 (fk.1.2.1 false) (fk.1.2.2.2 false) (zas:=[I i]) (as':=[I i]) (by rw [fk.1.1]; rfl) rfl rfl hh (bu _ _ _) (bu _ _ _) (fun _=>rfl) hR2 ab0 (d:=d) (by decide) rfl);have ih':=ih (i+1) (by omega) _ _ he2;rw [ai];generalize aq _ _ _=L at ih' ⊢;simp only [ax,aA] at e2 hu;simp only [iV,go_sem,am4,am3,am5,am6,am7,g1,g6,g9,g56,g57,k6,k2368,hc6,hg,e1,e2];rw [hu _ _ rfl rfl];simp only [go_sem,am4,am3,am5,am6,am7];rw [hbn _ _ rfl rfl];simp only [go_sem,am4,am3,am5,am6,am7,e5];generalize hX:ap 0 _ _=X;obtain ⟨hh,cs',g',q1,q2,q3,q4,q5,q6⟩:=ih' _ _ _ hX rfl rfl rfl rfl rfl rfl rfl;refine ⟨hh,cs',g',q1,q2,q3,q4,q5,fun xs ts hp=>?_⟩;obtain ⟨l1,l2⟩:=hp.len;obtain ⟨x,t,hx,ht,hxt⟩:=hp.get hb0;rw [← q6 xs ts hp];obtain ⟨d1,d2,d3⟩:=Yb hn;have hxd:xs.drop i=x::xs.drop (i+1):=by
   grind [List.drop_eq_getElem_cons]
  have htd:ts.take (i+1)=ts.take i++[t]:=by
   grind [List.take_add_one]
  rw [d2,d3,hxd,htd,Oh _ _ (by grind),List.append_assoc];exact X7 (by grind) (by grind) (by rw [d1]) hxt g
theorem aau {ds:List Int} {p:Int} {N:Nat} (hN:N≤400) {cs:List Ri} {g:G} (he:gh N cs g) {c6:List AV} (hc6:aM [6,12,2368] (.bx c6)=true):∀ (k i:Nat),i+k=N→∀ out:Ri,OkI out→(∀ j,j < i→In (g j) out)→(∃ q,In q out)→∀ (s:ae) (h:ac) (X:Option (Ex × St)),ap 2 [6,12] (aq (ak R (aG false) iU) [6,12,80,81,82] [6,12,2368] s h)=X →
  s 6=.ref 6 none 0 0 0→s 12=.ref 12 none 0 0 0→s 80=.rsl 2368 (some 1) 7 0 N→s 81=I N→s 82=I i→h 6=.bx c6→h 12=dL out→h 2368=bd ds cs p →
  ∃ hh out',X=some (.normal,⟨upd (upd (fun _=>.any) 12 (.ref 12 none 0 0 0)) 6 (.ref 6 none 0 0 0),hh⟩)∧hh 6=.bx c6∧hh 12=dL out'∧OkI out'∧(∀ j,j < N→In (g j) out'):=by
 intro k;induction k with
 | zero =>
  intro i hi out oo ho hq s h X hX g6 g12 g80 g81 g82 k6 k12 k2368;subst hX;have e1:((i:Int) < (N:Int))=False:=ff (by omega);have hg:=(bu ds cs p).cl [6,12,2368];have hoc:=(dy out).cl [6,12,2368];rw [ai];refine ⟨?hh0,out,?_,?_,?_,oo,fun j hj=>ho j (by omega)⟩;rotate_left
  ·simp only [iU,go_sem,am4,am3,am5,am6,am7,g6,g12,g80,g81,g82,k6,k12,k2368,hc6,hg,hoc,e1];rfl
  ·rfl
  ·rfl
 | succ k ih =>
  intro i hi out oo ho hq s h X hX g6 g12 g80 g81 g82 k6 k12 k2368;subst hX;have e1:((i:Int) < (N:Int))=True:=tt (by omega);have e5:IntKind.i64.wrap ((i:Int)+1)=((i+1:Nat):Int):=wi (by omega) (by omega);obtain ⟨x,x1,x2⟩:=he.get (k:=i) (by omega);have q1:(bB cs)[i]?=some (aA x):=by grind [bB]
  have i1:(0≤(i:Int))=True:=eq_true (by omega);have hg:=(bu ds cs p).cl [6,12,2368];have hoc:=(dy out).cl [6,12,2368];have ch:=XU oo x2.ok;have ih':=ih (i+1) (by omega) (Bc out x) (by
   obtain ⟨q,hq⟩:=hq;exact (Bd hq x2).1.ok) (fun j hj=>by
   obtain ⟨q,hq⟩:=hq;by_cases hji:j=i
   ·subst hji;exact (Bd hq x2).2
   ·exact (Bd (ho j (by omega)) x2).1) ⟨_,(Bd hq.choose_spec x2).1⟩
  rw [ai];simp only [ax,aA] at ch;simp only [aA] at q1;simp only [bd] at k2368 hg;simp only [dL] at k12 hoc;simp only [iU,go_sem,am4,am3,am5,am6,am7,g6,g12,g80,g81,g82,k6,k12,k2368,hc6,hg,hoc,e1,i1,rn,wA,Int.toNat_natCast,Nat.zero_add,q1,ch,e5];exact ih' _ _ _ rfl rfl rfl rfl rfl rfl rfl rfl rfl
def BrG (a:Rp) (dom:List Ri) (p:Int) (b:Ri):Prop:=(∀ xs ts:List Rat,sF dom xs ts→In (fv xs a.terms) b)∧((kJ a dom && di p)=false→b=cQ)
theorem sF.inL:∀ {dom:List Ri} {xs ts:List Rat},(∀ b ∈ dom,kI b=true∧VI b)→sF dom xs ts→VS xs dom
 | b::_,x::_,t::_,hk,h=>by
  obtain ⟨h1,h2,h3,h4⟩:=h;obtain ⟨k1,k2⟩:=hk b (by simp);refine ⟨Or.inr ⟨?_,k2,?_⟩,sF.inL (fun b hb=>hk b (by grind)) h4⟩
  ·unfold kI at k1;grind
  ·have hle:qv b.lo≤qv b.hi:=by
    rw [DY];unfold kI vi at k1;grind
   have a:=Rat.mul_nonneg (show 0≤qv b.hi - qv b.lo by grind) h2;have b:=Rat.mul_nonneg (show 0≤qv b.hi - qv b.lo by grind) (show 0≤1 - t by grind);grind
 | [],[],[],_,_=>trivial
 | [],_::_,_,_,h=>h.elim
 | [],[],_::_,_,h=>h.elim
 | _::_,[],_,_,h=>h.elim
 | _::_,_::_,[],_,h=>h.elim
theorem Wb {a:Rp} {dom:List Ri} (od:∀ x ∈ dom,OkI x) (hd:kJ a dom=true):vp a=true∧(dom.length:Int)=a.vars∧∀ b ∈ dom,kI b=true∧VI b:=by
 unfold kJ at hd;simp only [Bool.and_eq_true,decide_eq_true_eq,Bool.not_eq_true',List.any_eq_false] at hd;refine ⟨hd.1,hd.2.1,fun b hb=>?_⟩;have h1:kI b=true:=by
  grind
 have h2:=h1;unfold kI vi at h2;cases ha:b.all with
 | true=>grind
 | false =>
  rw [ha] at h2;simp at h2;have:=od b hb;exact ⟨h1,⟨h2.1,this.lo⟩,⟨h2.2.1,this.hi⟩⟩
theorem Yc {a:Rp} {dom:List Ri} (oa:OkP a) (od:∀ x ∈ dom,OkI x) (h2:dom.length≤100000) {p:Int}:∃ b,R F.bound_Bernstein [bL a,.sl 7 (bB dom),I p] []=some (ax b,[])∧BrG a dom p b:=by
 have hf:=DQ oa od h2 (p:=p);have hw:=A5;cases hq:(kJ a dom && di p) with
 | false =>
  rw [hq] at hf;refine ⟨cQ,?_,fun _ _ _=>Or.inl rfl,fun _=>rfl⟩;refine aE go rfl ?_;simp only [bL,ax,aA,cQ,aP] at hf hw;simp only [dX,gk,bL,ax,aA,cQ,aP,go_sem,am4,am3,am5,am6,am7,hf,hw]
 | true =>
  rw [hq] at hf;have hdp:=hq;rw [Bool.and_eq_true] at hdp;obtain ⟨hd,hp⟩:=hdp;obtain ⟨hv,hl,hk⟩:=Wb od hd;obtain ⟨cl,v0,v8,h5⟩:=To oa hv;have nf:(kJ a dom && di p)=false→∀ b:Ri,b=cQ:=fun h=>by grind
  by_cases hlin:yA a=true∧a.vars=1
  ·obtain ⟨x,rfl⟩:∃ x,dom=[x]:=List.length_eq_one_iff.1 (by omega);obtain ⟨c,m,e1,_⟩:=Wa oa hlin.1 hlin.2 0;have hx:=hk x (by simp);obtain ⟨k1,_⟩:=QQ oa hv;rw [e1] at k1;refine ⟨A9 c m x p,XJ oa od (by omega) hlin.1 hlin.2 e1 rfl,fun xs ts hpt=>?_,fun h=>nf h _⟩;obtain ⟨l1,l2⟩:=hpt.len;obtain ⟨y,rfl⟩:∃ y,xs=[y]:=List.length_eq_one_iff.1 l1;have hin:=sF.inL (fun b hb=>hk b hb) hpt;obtain ⟨c',m',e3,e2⟩:=Wa oa hlin.1 hlin.2 y;rw [e1] at e3;injection e3 with g1 g2
   injection g2 with g2
   subst g1;subst g2;rw [e2];exact Ya (k1 c (by simp)) (k1 m (by simp)) hp hin.1 hx.1
  ·obtain ⟨v,hvv⟩:=Int.eq_ofNat_of_zero_le v0;have hL:=Kt oa;obtain ⟨r,hg,hgp⟩:=V7 (v:=v) (p:=p) (by omega) (A:=a.terms) (E:=Dc a.terms) (by simp [Dc]) h5 (fun i t es h1 h2=>YQ (hvv ▸ cl) i t es h1 h2);have hcc:∃ L b,NR a=.tup [vO L,B b]∧(b=true→¬a.vars=1):=by
    grind [NR,absurd]
   obtain ⟨L,bl,e1,e2⟩:=hcc;rw [e1] at hL;have hVI:∀ b ∈ dom,VI b:=fun b hb=>(hk b hb).2;rcases hgp with rfl | ⟨dn,cs,rfl,d1,d2,d3,d4,he⟩
   ·refine ⟨cQ,?_,fun _ _ _=>Or.inl rfl,fun _=>rfl⟩;refine aE go rfl ?_;rw [← hvv] at hg;simp only [bL,ax,aA,cQ,aP,vO] at hf hw hL;cases bl with
    | true =>
     have e3:(a.vars=1)=False:=eq_false (e2 rfl);simp only [dX,gk,bL,ax,aA,cQ,aP,go_sem,am4,am3,am5,am6,am7,hf,hw,hL,e3,hg]
    | false =>
     simp only [dX,gk,bL,ax,aA,cQ,aP,go_sem,am4,am3,am5,am6,am7,hf,hw,hL,hg]
   ·have hdl:dom.length=v:=by omega
    have hbg:=aat (p:=p) (c6:=[B false,.emp,I 0,B false,.emp,I 0,B false]) (by omega) d1 hdl d2 d4 hVI rfl v 0 (Nat.zero_add _) cs _ he;rw [← hvv] at hg;have hval:∀ xs:List Rat,xs.length=dn.length→eR (jO dn xs) 1 0 (gT dn a.terms (Dc a.terms) fun _=>0)=fv xs a.terms:=fun xs hx=>by
     rw [V9 hx a.terms (Dc a.terms) (fun _=>0) (by simp [Dc]) d3 (X9 cl) (fun _ _=>rfl) fun i t es h1 h2=>(YQ (hvv ▸ cl) i t es h1 h2).1.1,X8 (D4 dn xs),Rat.zero_add]
    have hfin:∀ (b:Ri) (g':G),(∀ xs ts:List Rat,sF dom xs ts→eR (lQ (dn.take 0) (ts.take 0)++jO (dn.drop 0) (xs.drop 0)) 1 0 (gT dn a.terms (Dc a.terms) fun _=>0)=eR (lQ dn ts) 1 0 g')→(∀ j,j < be dn 1→In (g' j) b)→BrG a dom p b:=fun b g' h1 h2=>by
     refine ⟨fun xs ts hpt=>?_,fun h=>nf h _⟩;obtain ⟨l1,l2⟩:=hpt.len;have h3:=h1 xs ts hpt;have h4:eR (jO dn xs) 1 0 (gT dn a.terms (Dc a.terms) fun _=>0)=eR (lQ dn ts) 1 0 g':=h3;rw [hval xs (by omega)] at h4;rw [h4];rcases (h2 0 (jF dn 1 (by decide))).k with ⟨hW,_⟩ | ⟨hkb,_⟩
     ·exact Or.inl hW
     ·have h5:∀ j,j < be dn 1→qv b.lo≤g' j∧g' j≤qv b.hi:=fun j hj=>by
       rcases (h2 j hj).k with ⟨rfl,hn⟩ | ⟨_,h6⟩
       all_goals grind
      have h6:=ab7 (by omega) hpt.t01 h5;refine Or.inr ⟨?_,(h2 0 (jF dn 1 (by decide))).vi,h6.1,h6.2⟩;grind [kI]
    have hh0:aj []=fun _=>.dead:=by funext i; simp [aj]
    refine D7 (r:=fun b=>(ax b,[])) go.2.1 go.2.2 (go.1.2.2.2 false) rfl (Nat.le_of_ble_eq_true rfl) ?_;simp only [bL,ax,aA,vO] at hf hL;have e3:bl=true→(a.vars=1)=False:=fun h=>eq_false (e2 h);have e4:(0:Int) < (be dn 1:Nat):=by grind [jF]
    cases bl
    all_goals
     simp only [dX,gk,bL,ax,aA,hh0,go_sem,am4,am3,am5,am6,am7,hf,hL,e3,hg,TD];generalize hX:ap 0 _ _=X;obtain ⟨hh,cs',g',rfl,q6,q2368,qd,he',hv'⟩:=hbg _ _ _ hX rfl rfl rfl (by rw [uP,d1]; rfl) rfl rfl rfl;obtain ⟨x,x1,x2⟩:=he'.get (k:=0) (jF dn 1 (by decide));have hhl:=aau (ds:=dI dn) (p:=p) d4 he' (c6:=[B false,.emp,I 0,B false,.emp,I 0,B false]) rfl (be dn 1) 0 (Nat.zero_add _) x x2.ok (fun j hj=>absurd hj (Nat.not_lt_zero j)) ⟨_,x2⟩;have q1:(bB cs')[0]?=some (aA x):=by unfold bB; rw [List.getElem?_map,x1]; rfl
     have i2:(0 < (cs'.length:Int))=True:=eq_true (by rw [he'.1]; exact e4);have d12:=qd 12 (by decide) (by decide);have hgo:=(bu (dI dn) cs' p).cl [6,12,2368];simp only [bd] at q2368 hgo;simp only [aA] at q1;simp only [go_sem,am4,am3,am5,am6,am7,q6,q2368,d12,i2,Int.le_refl,Int.toNat_zero,rn,wA,q1];generalize hX:ap 2 _ _=X;obtain ⟨hh2,out,rfl,r6,r12,oo,hin⟩:=hhl _ _ _ hX rfl rfl (by rw [he'.1]; rfl) (by rw [he'.1]; rfl) rfl q6 rfl q2368;refine ⟨out,?_,hfin out g' hv' hin⟩;simp only [dL] at r12;simp only [go_sem,am4,am3,am5,am6,am7,r6,r12]
theorem ao5 {k:Int}:R F.r02_exponent [I k] []=some (B (decide (-32768≤k) && decide (k≤32768)),[]):=by
 refine aE aoR rfl ?_;by_cases h:-32768≤k
 ·simp only [aog,aor,go_sem,am4,am3,am5,am6,am7,h]
 ·simp only [aog,aor,go_sem,am4,am3,am5,am6,am7,h]
def hlE (s:Rd):Rd × Int:=gz (gU (zI s) (-16384 - (1:Nat)))
theorem api {s:Rd} (ok:Ok0 s) (v:vd s=true):bG s.neg (aa s.m) (s.e+-1)=gU (zI s) (-16384 - (1:Nat)):=by
 obtain ⟨_,h1,h2,_⟩:=ey v ok.lb;have:zI s=bO s.neg (mg s):=rfl;rw [this,← Jb];unfold mg;rw [wn];congr 1;omega
theorem apO {s:Rd} (ok:Ok0 s) (v:vd s=true):R F.r02_Scale [ag s,I (-1)] []=some (rV (hlE s),[]):=by
 refine aE apd rfl ?_;obtain ⟨h0,h1,h2,h3⟩:=ey v ok.lb;have hv:=CW ok;rw [v] at hv;have hx:=ao5 (k:=-1);have ho:=NK (neg:=s.neg) (m:=s.m) (e:=s.e+-1) ok.lb (by omega) (by omega);rw [api ok v] at ho;have hl:Ok0 (gU (zI s) (-16384 - (1:Nat))):=by
  rw [← api ok v];exact ⟨ww _ _ _,Nat.lt_of_le_of_lt (FM (k:=128) (by omega)) (by decide)⟩
 have hc:=aoI hl;rw [ao2] at hc;have ew:IntKind.i64.wrap (s.e+-1)=s.e+-1:=by rw [i64_in] <;> omega
 unfold hlE;generalize gU (zI s) (-16384 - (1:Nat))=c at ho hc ⊢;generalize gz c=r at hc ⊢;simp only [ag,am,rV] at hv ho hc;simp only [aox,aoH,rV,ag,am,go_sem,am4,am3,am5,am6,am7,hv,hx,ho,hc,ew,show decide ((-32768:Int)≤-1)=true from rfl,show decide ((-1:Int)≤32768)=true from rfl]
def hfR (a b:Rd):Rd:=if (Jc a b).2=0 then (if (hlE (Jc a b).1).2=0 then (hlE (Jc a b).1).1 else a) else a
theorem apn {a b:Rd} (oa:Ok0 a) (ob:Ok0 b):R F.l24_between_1 [ag a,ag b] []=some (ag (hfR a b),[]):=by
 refine aE aoK rfl ?_;have ha:=apL oa ob;have hh:=apO (ZP a b).2 (ZP a b).1;unfold hfR;generalize hlE (Jc a b).1=r at hh ⊢;generalize Jc a b=s at ha hh ⊢;simp only [ag,am,rV] at ha hh;by_cases h1:s.2=0
 ·rw [if_pos h1];by_cases h2:r.2=0
  ·rw [if_pos h2];simp only [an2,aof,ag,am,go_sem,am4,am3,am5,am6,am7,ha,hh,h1,h2]
  ·rw [if_neg h2];simp only [an2,aof,ag,am,go_sem,am4,am3,am5,am6,am7,ha,hh,h1,h2]
 ·rw [if_neg h1];simp only [an2,aof,ag,am,go_sem,am4,am3,am5,am6,am7,ha,h1]
theorem aoN {a b:Rd} (va:vd a=true∧Ok0 a):vd (hfR a b)=true∧Ok0 (hfR a b):=by
 unfold hfR;split
 ·split
  ·exact Jd
  ·exact va
 ·exact va
theorem apo {a b:Rd} (h:qv a≤qv b):qv a≤qv (hfR a b)∧qv (hfR a b)≤qv b:=by
 unfold hfR;split
 ·rename_i h1;split
  ·rename_i h2;have e1:=apf h1;have e2:=QR (z:=zI (Jc a b).1) (j:=1) h2;have e3:zI (hlE (Jc a b).1).1*2 ^ 1=zI a+zI b:=by rw [← e1]; exact e2
   rw [DY] at h ⊢;rw [DY];omega
  ·exact ⟨Rat.le_refl,h⟩
 ·exact ⟨Rat.le_refl,h⟩
def btR (x:Ri) (k:Nat):Rd:=match k % 5 with
 | 0=>x.lo
 | 1=>x.hi
 | 2=>hfR x.lo x.hi
 | 3=>hfR x.lo (hfR x.lo x.hi)
 | _=>hfR (hfR x.lo x.hi) x.hi
theorem apq {x:Ri} {k:Nat} (h1:vd x.lo=true∧Ok0 x.lo) (h2:vd x.hi=true∧Ok0 x.hi):R F.l24_between [ax x,.v (.int .u8 (k:Nat))] []=some (ag (btR x k),[]):=by
 refine aE aoW rfl ?_;have a1:=apn h1.2 h2.2;have m:=aoN (b:=x.hi) h1;have a2:=apn h1.2 m.2;have a3:=apn m.2 h2.2;have e1:((k:Int).tmod 5)=((k % 5:Nat):Int):=by rw [Int.tmod_eq_emod_of_nonneg (by omega)]; rfl
 have e2:k % 5 < 5:=Nat.mod_lt _ (by decide);unfold btR;generalize hfR x.lo (hfR x.lo x.hi)=r2 at a2 ⊢;generalize hfR (hfR x.lo x.hi) x.hi=r3 at a3 ⊢;generalize hfR x.lo x.hi=r1 at a1 a2 a3 ⊢;simp only [ag,am] at a1 a2 a3;generalize k % 5=j at e1 e2 ⊢;have hj:j=0∨j=1∨j=2∨j=3∨j=4:=by omega
 rcases hj with rfl | rfl | rfl | rfl | rfl <;> simp only [aoo,aoA,ax,aA,ag,am,go_sem,am4,am3,am5,am6,am7,a1,a2,a3,e1,anb,am8,ana,am9,Int.natCast_zero,Int.natCast_one,Int.cast_ofNat_Int]
def aoJ (x:Ri) (d:Rd):Bool:=vi x && vd d && (x.all || decide (zI x.lo≤zI d) && decide (zI d≤zI x.hi))
theorem ao6 {x:Ri} {d:Rd} (ox:OkI x) (od:Ok0 d):R F.interval_Has [ax x,ag d] []=some (B (aoJ x d),[]):=by
 refine aE aoQ rfl ?_;have v1:=yx ox;have v2:=gg od;have c1:=wv ox.lo od;have c2:=wv od ox.hi;unfold aoJ;cases h1:vi x with
 | false =>
  rw [h1] at v1;simp only [ax,aA,ag,am] at v1 v2;simp only [anW,an1,ax,aA,ag,am,go_sem,am4,am3,am5,am6,am7,v1,v2]
 | true =>
  rw [h1] at v1;cases h2:vd d with
  | false =>
   rw [h2] at v2;simp only [ax,aA,ag,am] at v1 v2;simp only [anW,an1,ax,aA,ag,am,go_sem,am4,am3,am5,am6,am7,v1,v2]
  | true =>
   rw [h2] at v2;cases h3:x.all with
   | true =>
    simp only [ax,aA,ag,am,h3] at v1 v2;simp only [anW,an1,ax,aA,ag,am,go_sem,am4,am3,am5,am6,am7,v1,v2,h3]
   | false =>
    have hl:vd x.lo=true∧vd x.hi=true:=by
     unfold vi at h1;rw [h3] at h1;simp at h1;exact ⟨h1.1,h1.2.1⟩
    rw [if_pos ⟨hl.1,h2⟩] at c1;rw [if_pos ⟨h2,hl.2⟩] at c2;have e1:=@QA (zI x.lo) (zI d);have e2:=@QA (zI d) (zI x.hi);generalize bI (zI x.lo) (zI d)=q1 at c1 e1;generalize bI (zI d) (zI x.hi)=q2 at c2 e2;simp only [ax,aA,ag,am,h3] at v1 v2 c1 c2;by_cases h4:zI x.lo≤zI d
    ·simp only [anW,an1,ax,aA,ag,am,go_sem,am4,am3,am5,am6,am7,v1,v2,h3,c1,c2,e1,e2,h4]
    ·simp only [anW,an1,ax,aA,ag,am,go_sem,am4,am3,am5,am6,am7,v1,v2,h3,c1,e1,h4]
theorem aoS {x:Ri} {d:Rd} (h:In (qv d) x) (hd:vd d=true):aoJ x d=true:=by
 unfold aoJ;rw [h.v,hd];rcases h with rfl | ⟨h1,_,h3,h4⟩
 ·rfl
 ·rw [DY] at h3 h4;simp [h3,h4]
def u8R (l:List Nat):List (List AV):=l.map fun k=>[.v (.int .u8 (k:Nat))]
@[go_sem] theorem aqq (l:List Nat):(u8R l).length=l.length:=by simp [u8R]
theorem apP {l:List Nat} {i:Int} {n:Nat} (hi:i=n) (h:n < l.length):aZ (u8R l) i=some (.ipt [.v (.int .u8 (l.getD n 0:Nat))]):=by
 subst hi;simp [aZ,u8R,h]
def apr (d:Nat) (out:List Rd) (x:AV) (o:Ob):Prop:=(out=[]∧x=.emp∧o=.dead)∨(0 < out.length∧x=.rsl d none 3 0 out.length∧o=.ar 3 (yu out))
def ptN (dom:List Ri) (zt:List Nat) (i:Nat):List Rd:=(List.range i).map fun j=>btR (dom.getD j cQ) (zt.getD j 0)
theorem apj {dom zt i}:(ptN dom zt i).length=i:=by simp [ptN]
theorem apz {dom zt i}:ptN dom zt (i+1)=ptN dom zt i++[btR (dom.getD i cQ) (zt.getD i 0)]:=by simp [ptN,List.range_succ]
theorem apA {a:Rp} {dom:List Ri} {zt:List Nat} {p:Int} (hv:∀ b ∈ dom,VI b) (h1:dom.length≤100000):∀ (k i:Nat),i+k=dom.length→∀ (s:ae) (h:ac),s 1=.sl 7 (bB dom)→s 2=.sl 1 (u8R zt)→s 3=I p→s 4=.ref 4 none 0 0 0 →
  s 35=.sl 7 (bB dom)→s 36=I dom.length→s 37=I i→h 4=.bx [I a.vars,.sl 4 (df a.terms)]→apr 55 (ptN dom zt i) (s 9) (h 55) →
  ∃ x hh,ap 0 [1,3,4,9] (aq (ak R (aG false) anM) [1,2,3,4,9,35,36,37] [4,55] s h) =
   some (.normal,⟨upd (upd (upd (upd (fun _=>.any) 9 x) 4 (.ref 4 none 0 0 0)) 3 (I p)) 1 (.sl 7 (bB dom)),hh⟩)∧apr 55 (ptN dom zt dom.length) x (hh 55)∧hh 4=.bx [I a.vars,.sl 4 (df a.terms)]∧∀ a,a ≠ 4→a ≠ 55→hh a=.dead:=by
 intro k;induction k with
 | zero =>
  intro i hi s h k1 k2 k3 k4 k35 k36 k37 hh hacc;have:i=dom.length:=by omega
  subst this;rw [ai];rcases hacc with ⟨g2,h5,hh5⟩ | ⟨g2,h5,hh5⟩
  ·refine ⟨.emp,?hh0,?_,Or.inl ⟨g2,rfl,?_⟩,?_,?_⟩;rotate_left
   ·simp only [anM,go_sem,am4,am3,am5,am6,am7,k1,k2,k3,k4,k35,k36,k37,h5,hh,hh5,Int.lt_irrefl];rfl
   ·rfl
   ·rfl
   ·intro b hb hb';simp only [acj,hb,hb',if_false]
  ·refine ⟨.rsl 55 none 3 0 (ptN dom zt dom.length).length,?hh1,?_,Or.inr ⟨g2,rfl,?_⟩,?_,?_⟩;rotate_left
   ·simp only [anM,go_sem,am4,am3,am5,am6,am7,k1,k2,k3,k4,k35,k36,k37,h5,hh,hh5,Int.lt_irrefl];rfl
   ·rfl
   ·rfl
   ·intro b hb hb';simp only [acj,hb,hb',if_false]
 | succ k ih =>
  intro i hi s h k1 k2 k3 k4 k35 k36 k37 hh hacc;have ih':=ih (i+1) (by omega);have hlt:i < dom.length:=by omega
  have e1:((i:Int) < (dom.length:Int))=True:=tt (by omega);have e2:aZ (bB dom) (i:Int)=some (.ipt (aA dom[i])):=DO rfl (List.getElem?_eq_getElem hlt);have e3:IntKind.i64.wrap ((i:Int)+1)=((i+1:Nat):Int):=wi (by omega) (by omega);have vx:=hv dom[i] (List.getElem_mem hlt);have eg:dom.getD i cQ=dom[i]:=by simp [hlt]
  have q1:((ptN dom zt i).length+1)*40≤140737488355328:=by rw [apj]; omega
  have f3:=tt q1;rw [ai];rw [apz,eg] at ih';generalize aq _ _ _=L at ih' ⊢;have hb:∀ k:Nat,R F.l24_between [ax dom[i],.v (.int .u8 (k:Nat))] []=some (ag (btR dom[i] k),[]):=fun k=>apq vx.1 vx.2;generalize dom[i]=x at e2 hb ih';generalize ptN dom zt i=out at hacc q1 f3 ih' ⊢;by_cases hl:i < zt.length
  ·have f1:((i:Int) < (zt.length:Int))=True:=tt (by omega);have f2:=apP (i:=(i:Int)) rfl hl;have hb':=hb (zt.getD i 0);generalize btR x (zt.getD i 0)=r at hb' ih';simp only [ax,aA,ag,am] at e2 hb';rcases hacc with ⟨rfl,h5,hh5⟩ | ⟨g2,h5,hh5⟩
   ·simp only [anM,go_sem,am4,am3,am5,am6,am7,k1,k2,k3,k4,k35,k36,k37,h5,hh,hh5,e1,e2,e3,f1,f2,hb'];exact ih' _ _ rfl rfl rfl rfl rfl rfl rfl rfl (Or.inr ⟨by simp,rfl,rfl⟩)
   ·simp only [anM,go_sem,am4,am3,am5,am6,am7,k1,k2,k3,k4,k35,k36,k37,h5,hh,hh5,e1,e2,e3,f1,f2,hb',f3,true_or,Nat.zero_add,Nat.le_refl];refine ih' _ _ rfl rfl rfl rfl rfl rfl rfl rfl (Or.inr ⟨by simp,?_,?_⟩) <;> simp [acj,yu,am]
  ·have f1:((i:Int) < (zt.length:Int))=False:=ff (by omega);have hb':=hb 0;rw [show zt.getD i 0=0 by simp [List.getD_eq_getElem?_getD,List.getElem?_eq_none (show zt.length≤i by omega)]] at ih';generalize btR x 0=r at hb' ih';simp only [ax,aA,ag,am,Int.natCast_zero] at e2 hb';rcases hacc with ⟨rfl,h5,hh5⟩ | ⟨g2,h5,hh5⟩
   ·simp only [anM,go_sem,am4,am3,am5,am6,am7,k1,k2,k3,k4,k35,k36,k37,h5,hh,hh5,e1,e2,e3,f1,hb'];exact ih' _ _ rfl rfl rfl rfl rfl rfl rfl rfl (Or.inr ⟨by simp,rfl,rfl⟩)
   ·simp only [anM,go_sem,am4,am3,am5,am6,am7,k1,k2,k3,k4,k35,k36,k37,h5,hh,hh5,e1,e2,e3,f1,hb',f3,true_or,Nat.zero_add,Nat.le_refl];refine ih' _ _ rfl rfl rfl rfl rfl rfl rfl rfl (Or.inr ⟨by simp,?_,?_⟩) <;> simp [acj,yu,am]
def D9 (a:Rp) (dom:List Ri) (p:Int) (b:Ri):Ri:=if (kJ a dom && di p)=true then (if (nU (jD a dom p) b).2=true then (nU (jD a dom p) b).1 else cQ) else cQ
theorem Ol {a:Rp} {dom:List Ri} (oa:OkP a) (od:∀ x ∈ dom,OkI x) (h2:dom.length≤100000) {p:Int} {b:Ri} (ob:OkI b) (hb:(kJ a dom && di p)=true→R F.bound_Bernstein [bL a,.sl 7 (bB dom),I p] []=some (ax b,[])) :
  R F.bound_Best [bL a,.sl 7 (bB dom),I p] []=some (ax (D9 a dom p b),[]):=by
 refine aE MU rfl ?_;have hf:=DQ oa od h2 (p:=p);have hw:=A5;have hn:=NF oa od h2 (p:=p);have on:=Vt (a:=a) (dom:=dom) (p:=p);have hm:=XV (x:=jD a dom p) (y:=b) ⟨on.1.2,on.2.2⟩ ob;unfold D9;generalize jD a dom p=n at hn hm ⊢;generalize nU n b=q at hm ⊢;obtain ⟨m1,m2⟩:=q;cases hq:(kJ a dom && di p) with
 | false =>
  rw [hq] at hf;simp only [bL,ax,aA,cQ,aP] at hf hw;simp only [mF,rK,bL,ax,aA,cQ,aP,go_sem,am4,am3,am5,hf,hw]
 | true =>
  rw [hq] at hf
  replace hb:=hb hq
  simp only [bL,ax,aA,cQ,aP] at hf hw hn hb hm;cases m2 with
  | true =>
   simp only [mF,rK,bL,ax,aA,go_sem,am4,am3,am5,am6,am7,hf,hw,hn,hb,hm]
  | false =>
   simp only [mF,rK,bL,ax,aA,cQ,aP,go_sem,am4,am3,am5,am6,am7,hf,hw,hn,hb,hm]
theorem VI.ok' {x:Ri} (h:VI x):OkI x:=⟨h.1.2,h.2.2⟩
def apZ (X:Option (Ex × St)):Option Rd→Prop
 | some d=>∃ hh,X=some (.normal,⟨upd (upd (fun _=>.any) 6 (.ref 6 none 0 0 0)) 3 (.ref 3 none 0 0 0),hh⟩)∧hh 3=.bx [B d.neg,lm d.m,I d.e]∧hh 6=.bx zb
 | none=>∃ hh,X=some (.ret,⟨upd (upd (fun _=>.any) 7 (B false)) 6 (.ref 6 none 0 0 0),hh⟩)∧hh 6=.bx zb
theorem apB {x:Rd} (ox:Ok0 x) {n:Nat} (hn:n≤100000):∀ (k i:Nat),i+k=n→∀ (c:Rd),Ok0 c→∀ (s:ae) (h:ac),s 3=.ref 3 none 0 0 0→s 4=.ref 4 none 0 0 0→s 6=.ref 6 none 0 0 0→s 10=I n→s 11=I i→h 3=.bx [B c.neg,lm c.m,I c.e]→h 4=.bx [B x.neg,lm x.m,I x.e]→h 6=.bx zb →
  apZ (ap 0 [3,6] (aq (ak R (aG false) anY) [3,4,6,10,11] [3,4,6] s h)) (an3 x k c):=by
 intro k;induction k with
 | zero =>
  intro i hi c oc s h g3 g4 g6 g10 g11 k3 k4 k6;have e1:((i:Int) < (n:Int))=False:=ff (by omega);rw [ai];refine ⟨?hh0,?_,?_,?_⟩;rotate_left
  ·simp only [anY,go_sem,am7,g3,g4,g6,g10,g11,k3,k4,k6,e1];rfl
  ·rfl
  ·rfl
 | succ k ih =>
  intro i hi c oc s h g3 g4 g6 g10 g11 k3 k4 k6;have e1:((i:Int) < (n:Int))=True:=tt (by omega);have e5:IntKind.i64.wrap ((i:Int)+1)=((i+1:Nat):Int):=wi (by omega) (by omega);have hm:=QO oc ox;have om:=(DU c x).2;have ih':=ih (i+1) (by omega);rw [ai];generalize aq _ _ _=L at ih' ⊢;unfold an3;generalize jE c x=r at hm om ⊢;obtain ⟨r1,r2⟩:=r;simp only [rV,ag,am] at hm;by_cases h0:r2=0
  ·subst h0;rw [if_pos rfl];simp only [anY,go_sem,am4,am3,am5,am7,g3,g4,g6,g10,g11,k3,k4,k6,e1,e5,hm];exact ih' r1 om _ _ rfl rfl rfl rfl rfl rfl rfl rfl
  ·rw [if_neg h0];have e2:(r2=0)=False:=ff h0;refine ⟨?hh1,?_,?_⟩;rotate_left
   ·simp only [anY,go_sem,am4,am3,am5,am7,g3,g4,g6,g10,g11,k3,k4,k6,e1,hm,e2];rfl
   ·rfl
theorem ap9 {x:Rd} (ox:Ok0 x) {n:Nat} (hn:n≤100000) {c:Rd} (oc:Ok0 c) (s:ae) (h:ac) (X:Option (Ex × St)) (hX:ap 0 [3,6] (aq (ak R (aG false) anY) [3,4,6,10,11] [3,4,6] s h)=X) (g3:s 3=.ref 3 none 0 0 0) (g4:s 4=.ref 4 none 0 0 0) (g6:s 6=.ref 6 none 0 0 0) (g10:s 10=I n) (g11:s 11=I 0) (k3:h 3=.bx [B c.neg,lm c.m,I c.e]) (k4:h 4=.bx [B x.neg,lm x.m,I x.e]) (k6:h 6=.bx zb) :
  apZ X (an3 x n c):=by
 subst hX;exact apB ox hn n 0 (Nat.zero_add _) c oc s h g3 g4 g6 g10 g11 k3 k4 k6
theorem apv {c x:Rd} (oc:Ok0 c) (ox:Ok0 x) {n:Nat} (hn:n≤100000):R F.poly_times [ag c,ag x,I n] []=some (.tup [ag (aoM x n c).1,B (aoM x n c).2],[]):=by
 refine aE aoZ rfl ?_;have hl:=ap9 ox hn oc;simp only [aos,aoF,ag,am,go_sem,am3];generalize hX:ap 0 [3,6] _=X;have hT:=hl _ _ _ hX rfl rfl rfl rfl rfl rfl rfl rfl;unfold aoM;cases ht:an3 x n c with
 | some d =>
  rw [ht] at hT;obtain ⟨hh,rfl,q3,q6⟩:=hT;simp only [go_sem,am4,am3,am5,q3,q6]
 | none =>
  rw [ht] at hT;obtain ⟨hh,rfl,q6⟩:=hT;simp only [go_sem,am4,am3,am5,q6];rfl
theorem ap0 {d:Rd} (ok:Ok0 d):R F.poly_Eval_1 [.agg (am d)] []=some (B (!vd d),[]):=by
 refine aE aou rfl ?_;have hv:=gg ok;simp only [ag,am] at hv;simp only [aoq,aoB,am,go_sem,am4,am3,am5,hv]
def rdB:List AV→Rd
 | [.v (.bool n),.sl _ m,.v (.int _ e)]=>⟨n,m.map (fun r=>match r with | [.v (.int _ x)]=>x.toNat | _=>0),e⟩
 | _=>aP
theorem apI (d:Rd):rdB (am d)=d:=congrArg (fun m=>(⟨d.neg,m,d.e⟩:Rd)) (lmB d.m)
theorem apC {f:FuncId} {p:Rd→Bool} (hm:(aG false).m f=[]) (hs:(aG false).sh f=[[.o 0 [],.o 2 [],.o 0 []]]) {l:List Rd} (h2:l.length≤100000) (hf:∀ d ∈ l,R f [.agg (am d)] []=some (B (p d),[])):R F.slices_ContainsFunc_api_Dyadic_api_Dyadic_ [.sl 3 (yu l),.fn f [] []] []=some (B (l.any p),[]):=by
 have h1:=CN (k:=3) (g:=true) (f:=f) (rows:=yu l) (p:=fun r=>p (rdB r)) anK.2.1 anK.2.2 (anK.1.2.2.2 false) rfl hm (by rw [akK]; omega) (fun row hr=>by
  simp only [yu,List.mem_map] at hr;obtain ⟨t,ht,rfl⟩:=hr;have hd:=hf t ht;refine ⟨.agg (am t),rfl,rfl,?_⟩;rw [apI];simp only [am] at hd;simp only [am,go_sem,hs,hd])
 have h2:=zT (k:=3) anP.2.1 anP.2.2 (anP.1.2.2.2 false) rfl (anK.1.2.1 false) (anK.1.1 false) (by simp only [go_sem]) h1;have h3:(yu l).any (fun r=>p (rdB r))=l.any p:=by
  unfold yu;rw [List.any_map];congr 1;funext t;exact congrArg p (apI t)
 rw [h3] at h2;exact h2
theorem apk:∀ l:List Rd,(l.any fun d=>!vd d)=!l.all vd
 | []=>rfl
 | d::l=>by rw [List.any_cons,List.all_cons,Bool.not_and,apk l]
theorem apD {l:List Rd} (ol:∀ d ∈ l,Ok0 d) (h2:l.length≤100000):R F.slices_ContainsFunc_api_Dyadic_api_Dyadic_ [.sl 3 (yu l),.fn F.poly_Eval_1 [] []] []=some (B (!l.all vd),[]):=by
 have h:=apC (aou.1.2.1 false) (aou.1.1 false) h2 (p:=fun d=>!vd d) (fun d hd=>ap0 (ol d hd));rw [apk] at h;exact h
def EvI (X:Option (Ex × St)) (S:ae) (o2:Ob) (c6:List AV):Option Rd→Prop
 | some d=>∃ hh,X=some (.normal,⟨S,hh⟩)∧hh 2=o2∧hh 4=.bx zb∧hh 6=.bx c6∧hh 9=.bx [B d.neg,lm d.m,I d.e]∧∀ a,a ≠ 2→a ≠ 4→a ≠ 6→a ≠ 8→a ≠ 9→hh a=.dead
 | none=>∃ hh,X=some (.ret,⟨upd (upd (fun _=>.any) 5 (I 9)) 4 (.ref 4 none 0 0 0),hh⟩)∧hh 4=.bx zb
theorem apE {es:List Int} {xs:List Rd} (ox:∀ d ∈ xs,Ok0 d) (hl:es.length=xs.length) (hb:∀ e ∈ es,0≤e∧e≤32) (h8:es.length≤1000) {o2 o8:Ob} (c2:∀ l,aM l o2=true) (c8:∀ l,aM l o8=true) {c6:List AV} (k6c:∀ l,c6.all (gI l)=true) {A:List Rt} {nA iA:Int} :
  ∀ (k i:Nat),i+k=es.length→∀ (c:Rd),Ok0 c→∀ (s:ae) (h:ac),s 1=.sl 3 (yu xs)→s 4=.ref 4 none 0 0 0→s 6=.ref 6 none 0 0 0→s 9=.ref 9 none 0 0 0→s 31=.sl 4 (df A)→s 32=I nA→s 33=I iA→s 40=.sl 1 (bw es)→s 41=I es.length→s 42=I i→h 2=o2→h 4=.bx zb→h 6=.bx c6→h 8=o8→h 9=.bx [B c.neg,lm c.m,I c.e] →
  EvI (ap 2 [1,4,6,9,31,32,33] (aq (ak R (aG false) anX) [1,4,6,9,31,32,33,40,41,42] [2,4,6,8,9] s h)) (upd (upd (upd (upd (upd (upd (upd (fun _=>.any) 33 (I iA)) 32 (I nA)) 31 (.sl 4 (df A))) 9 (.ref 9 none 0 0 0)) 6 (.ref 6 none 0 0 0)) 4 (.ref 4 none 0 0 0)) 1 (.sl 3 (yu xs))) o2 c6 (an0 (es.drop i) (xs.drop i) c):=by
 intro k;induction k with
 | zero =>
  intro i hi c oc s h g1 g4 g6 g9 g31 g32 g33 g40 g41 g42 k2 k4 k6 k8 k9;have e1:((i:Int) < (es.length:Int))=False:=ff (by omega);rw [List.drop_eq_nil_of_le (show es.length≤i by omega),ai];have hc2:=c2 [2,4,6,8,9];have hc8:=c8 [2,4,6,8,9];have hc6:=k6c [2,4,6,8,9];refine ⟨?hh0,?_,?_,?_,?_,?_,?_⟩;rotate_left
  ·simp only [anX,go_sem,am7,g1,g4,g6,g9,g31,g32,g33,g40,g41,g42,k2,k4,k6,k8,k9,hc2,hc8,hc6,e1];rfl
  ·rfl
  ·rfl
  ·rfl
  ·rfl
  ·intro a a1 a2 a3 a4 a5;simp only [acj,a1,a2,a3,a4,a5,if_false]
 | succ k ih =>
  intro i hi c oc s h g1 g4 g6 g9 g31 g32 g33 g40 g41 g42 k2 k4 k6 k8 k9;have hlt:i < es.length:=by omega
  have hlt2:i < xs.length:=by omega
  have e1:((i:Int) < (es.length:Int))=True:=tt (by omega);have e2:aZ (yu xs) (i:Int)=some (.ipt (am xs[i])):=Zn rfl (List.getElem?_eq_getElem hlt2);have e3:aZ (bw es) (i:Int)=some (.ipt [I es[i]]):=lM rfl (List.getElem?_eq_getElem hlt);have e5:IntKind.i64.wrap ((i:Int)+1)=((i+1:Nat):Int):=wi (by omega) (by omega);have od:=ox xs[i] (List.getElem_mem hlt2);obtain ⟨r1,r2⟩:=hb es[i] (List.getElem_mem hlt);have ih':=ih (i+1) (by omega);rw [apm hlt hlt2,ai];generalize aq _ _ _=L at ih' ⊢;generalize es[i]=e at e3 r1 r2 ⊢;obtain ⟨n,rfl⟩:=Int.eq_ofNat_of_zero_le r1;rw [Int.toNat_natCast];generalize xs[i]=x at e2 od ⊢;have hm:=apv oc od (n:=n) (by omega);have hok:=aoG (x:=x) n c;unfold aoM at hm;have hc2:=c2 [2,4,6,8,9];have hc8:=c8 [2,4,6,8,9];have hc6:=k6c [2,4,6,8,9];cases hT:an3 x n c with
  | some d =>
   have oc2:=hok d oc hT;rw [hT] at hm;simp only [ag,am] at hm e2;rw [Option.bind_some];simp only [anX,go_sem,am4,am3,am5,am6,am7,g1,g4,g6,g9,g31,g32,g33,g40,g41,g42,k2,k4,k6,k8,k9,hc2,hc8,hc6,e1,e2,e3,e5,hm];exact ih' d oc2 _ _ rfl rfl rfl rfl rfl rfl rfl rfl rfl rfl rfl rfl rfl rfl rfl
  | none =>
   rw [hT] at hm;simp only [ag,am,aP] at hm e2;refine ⟨?hh1,?_,?_⟩;rotate_left
   ·simp only [anX,go_sem,am4,am3,am5,am6,am7,g1,g4,g6,g9,g31,g32,g33,g40,g41,g42,k2,k4,k6,k8,k9,hc2,hc8,hc6,e1,e2,e3,hm];rfl
   ·rfl
theorem aqa {es:List Int} {xs:List Rd} (ox:∀ d ∈ xs,Ok0 d) (hl:es.length=xs.length) (hb:∀ e ∈ es,0≤e∧e≤32) (h8:es.length≤1000) {o2 o8:Ob} (c2:∀ l,aM l o2=true) (c8:∀ l,aM l o8=true) {c6:List AV} (k6c:∀ l,c6.all (gI l)=true) {A:List Rt} {nA iA:Int} {c:Rd} (oc:Ok0 c) (s:ae) (h:ac) (X:Option (Ex × St)) (hX:ap 2 [1,4,6,9,31,32,33] (aq (ak R (aG false) anX) [1,4,6,9,31,32,33,40,41,42] [2,4,6,8,9] s h)=X)
  (g1:s 1=.sl 3 (yu xs)) (g4:s 4=.ref 4 none 0 0 0) (g6:s 6=.ref 6 none 0 0 0) (g9:s 9=.ref 9 none 0 0 0) (g31:s 31=.sl 4 (df A)) (g32:s 32=I nA) (g33:s 33=I iA) (g40:s 40=.sl 1 (bw es)) (g41:s 41=I es.length) (g42:s 42=I 0) (k2:h 2=o2) (k4:h 4=.bx zb) (k6:h 6=.bx c6) (k8:h 8=o8) (k9:h 9=.bx [B c.neg,lm c.m,I c.e]) :
  EvI X (upd (upd (upd (upd (upd (upd (upd (fun _=>.any) 33 (I iA)) 32 (I nA)) 31 (.sl 4 (df A))) 9 (.ref 9 none 0 0 0)) 6 (.ref 6 none 0 0 0)) 4 (.ref 4 none 0 0 0)) 1 (.sl 3 (yu xs))) o2 c6 (an0 es xs c):=by
 subst hX;exact apE ox hl hb h8 c2 c8 k6c es.length 0 (Nat.zero_add _) c oc s h g1 g4 g6 g9 g31 g32 g33 g40 g41 g42 k2 k4 k6 k8 k9
theorem ao7:∀ {es:List Int} {xs:List Rd} {c d:Rd},Ok0 c→an0 es xs c=some d→Ok0 d
 | e::es,x::xs,c,d,oc,h=>by
  unfold an0 at h;rw [Option.bind_eq_some_iff] at h;obtain ⟨y,h1,h2⟩:=h;exact ao7 (aoG _ c y oc h1) h2
 | [],_,c,d,oc,h=>by cases h; exact oc
 | _::_,[],c,d,oc,h=>by cases h; exact oc
def IsD (c:List AV) (q:Rd):Prop:=c=[B q.neg,lm q.m,I q.e]∨(c=zb∧q=aP)
theorem IsD.cl {c:List AV} {q:Rd} (h:IsD c q) (l:List Nat):c.all (gI l)=true:=by
 rcases h with rfl | ⟨rfl,_⟩ <;> rfl
def EvO (X:Option (Ex × St)) (r:Rd × Int):Prop:=(r.2=0∧∃ hh c6,X=some (.normal,⟨upd (upd (fun _=>.any) 6 (.ref 6 none 0 0 0)) 4 (.ref 4 none 0 0 0),hh⟩)∧hh 4=.bx zb∧hh 6=.bx c6∧IsD c6 r.1) ∨
 (r=(aP,9)∧∃ hh,X=some (.ret,⟨upd (upd (fun _=>.any) 5 (I 9)) 4 (.ref 4 none 0 0 0),hh⟩)∧hh 4=.bx zb)
theorem apF {v:Int} {A:List Rt} {xs:List Rd} (ox:∀ d ∈ xs,Ok0 d) (hx:(xs.length:Int)=v) (hA:∀ t ∈ A,VT v t) (hn:A.length≤100000) {o2:Ob} (c2:∀ l,aM l o2=true) :
  ∀ (k i:Nat),i+k=A.length→∀ (q:Rd),Ok0 q→∀ (c6:List AV),IsD c6 q→∀ (s:ae) (h:ac),s 1=.sl 3 (yu xs)→s 4=.ref 4 none 0 0 0→s 6=.ref 6 none 0 0 0→s 31=.sl 4 (df A)→s 32=I A.length→s 33=I i→h 2=o2→h 4=.bx zb→h 6=.bx c6 →
  EvO (ap 0 [4,6] (aq (ak R (aG false) an6) [1,4,6,31,32,33] [2,4,6] s h)) (aod xs (A.drop i) q):=by
 intro k;induction k with
 | zero =>
  intro i hi q oq c6 hq s h g1 g4 g6 g31 g32 g33 k2 k4 k6;have e1:((i:Int) < (A.length:Int))=False:=ff (by omega);have hc2:=c2 [2,4,6];have hc6:=hq.cl [2,4,6];rw [List.drop_eq_nil_of_le (by omega),ai];refine .inl ⟨rfl,?hh0,c6,?_,?_,?_,hq⟩;rotate_left
  ·simp only [an6,go_sem,am7,g1,g4,g6,g31,g32,g33,k2,k4,k6,hc2,hc6,e1];rfl
  ·rfl
  ·rfl
 | succ k ih =>
  intro i hi q oq c6 hq s h g1 g4 g6 g31 g32 g33 k2 k4 k6;have hlt:i < A.length:=by omega
  have e1:((i:Int) < (A.length:Int))=True:=tt (by omega);have e2:aZ (df A) (i:Int)=some (.ipt (en A[i])):=pE rfl (List.getElem?_eq_getElem hlt);have e5:IntKind.i64.wrap ((i:Int)+1)=((i+1:Nat):Int):=wi (by omega) (by omega);have vt:=hA _ (List.getElem_mem hlt);have ih':=ih (i+1) (by omega);rw [List.drop_eq_getElem_cons hlt];generalize A[i]=t at e2 vt ⊢;have hlen:=vt.len;have hl1:=aqa ox (es:=t.exps) (by omega) vt.b (by have:=vt.v8; omega) c2 (o8:=.bx [.sl 1 (bw t.exps),B t.c.neg,lm t.c.m,I t.c.e]) (fun _=>rfl) (fun l=>hq.cl l) (A:=A) (nA:=(A.length:Int)) (iA:=(i:Int)) vt.c;have hok:=fun d=>ao7 (es:=t.exps) (xs:=xs) (c:=t.c) (d:=d) vt.c;have hc2:=c2 [2,4,6];have hc6:=hq.cl [2,4,6];rw [ai];generalize aq _ _ _=L at ih' ⊢;simp only [en] at e2;simp only [an6,go_sem,am4,am3,am5,am7,g1,g4,g6,g31,g32,g33,k2,k4,k6,hc2,hc6,e1,e2];generalize hXX:ap 2 _ _=X;have hM:=hl1 _ _ _ hXX rfl rfl rfl rfl rfl rfl rfl rfl rfl rfl rfl rfl rfl rfl rfl;cases hr:an0 t.exps xs t.c with
  | none =>
   rw [hr] at hM;obtain ⟨hh,rfl,q4⟩:=hM;rw [aoU hr];refine .inr ⟨rfl,hh,?_,q4⟩;simp only [go_sem]
  | some d =>
   rw [hr] at hM;obtain ⟨hh,rfl,q2,q4,q6,q9,qd⟩:=hM;rw [aoT hr];have hadd:=apN oq (hok d hr);have oadd:=(ZP q d).2;have d1:hh 2512=.dead:=qd _ (by decide) (by decide) (by decide) (by decide) (by decide);have d2:hh 2513=.dead:=qd _ (by decide) (by decide) (by decide) (by decide) (by decide);have d3:hh 13=.dead:=qd _ (by decide) (by decide) (by decide) (by decide) (by decide);generalize Jc q d=r at hadd oadd ⊢;obtain ⟨r1,r2⟩:=r;simp only [rV,ag,am] at hadd;by_cases h0:r2=0
   ·subst h0;rw [if_pos rfl];rcases hq with rfl | ⟨rfl,rfl⟩
    ·simp only [go_sem,am4,am3,am5,q4,q6,q9,d1,d2,d3,hadd,e5];refine ih' r1 oadd _ (.inl rfl) _ _ ?_ ?_ ?_ ?_ ?_ ?_ ?_ ?_ ?_
     all_goals first | rfl | assumption | (simp only [acj,Nat.reduceEqDiff,↓reduceIte,q2,q4]; done)
    ·simp only [aP] at hadd;simp only [go_sem,am4,am3,am5,q4,q6,q9,d1,d2,d3,hadd,e5];refine ih' r1 oadd _ (.inl rfl) _ _ ?_ ?_ ?_ ?_ ?_ ?_ ?_ ?_ ?_
     all_goals first | rfl | assumption | (simp only [acj,Nat.reduceEqDiff,↓reduceIte,q2,q4]; done)
   ·rw [if_neg h0];have f1:(r2=0)=False:=ff h0;rcases hq with rfl | ⟨rfl,rfl⟩
    ·refine .inr ⟨rfl,?hh1,?_,?_⟩;rotate_left
     ·simp only [go_sem,am4,am3,am5,q4,q6,q9,d1,d2,d3,hadd,f1];rfl
     ·rfl
    ·simp only [aP] at hadd;refine .inr ⟨rfl,?hh2,?_,?_⟩;rotate_left
     ·simp only [go_sem,am4,am3,am5,q4,q6,q9,d1,d2,d3,hadd,f1];rfl
     ·rfl
theorem aqb {v:Int} {A:List Rt} {xs:List Rd} (ox:∀ d ∈ xs,Ok0 d) (hx:(xs.length:Int)=v) (hA:∀ t ∈ A,VT v t) (hn:A.length≤100000) {o2:Ob} (c2:∀ l,aM l o2=true) (s:ae) (h:ac) (X:Option (Ex × St)) (hX:ap 0 [4,6] (aq (ak R (aG false) an6) [1,4,6,31,32,33] [2,4,6] s h)=X)
  (g1:s 1=.sl 3 (yu xs)) (g4:s 4=.ref 4 none 0 0 0) (g6:s 6=.ref 6 none 0 0 0) (g31:s 31=.sl 4 (df A)) (g32:s 32=I A.length) (g33:s 33=I 0) (k2:h 2=o2) (k4:h 4=.bx zb) (k6:h 6=.bx zb) :
  EvO X (aod xs A aP):=by
 subst hX;exact apF ox hx hA hn c2 A.length 0 (Nat.zero_add _) aP bm.2 zb (.inr ⟨rfl,rfl⟩) s h g1 g4 g6 g31 g32 g33 k2 k4 k6
theorem apG {a:Rp} {xs:List Rd} (oa:OkP a) (ox:∀ d ∈ xs,Ok0 d) (h2:xs.length≤100000):R F.poly_Eval [bL a,vO xs] []=some (rV (aov a xs),[]):=by
 refine aE apc rfl ?_;have hv:=CV oa;have hc:=apD ox h2;simp only [bL] at hv;unfold aov apX;cases va:vp a with
 | false =>
  rw [va] at hv;rw [Bool.false_and,if_neg Bool.false_ne_true];simp only [an7,aoi,bL,vO,go_sem,am4,am3,am5,hv];rfl
 | true =>
  rw [va] at hv;by_cases hl:(xs.length:Int)=a.vars
  ·have e1:((xs.length:Int)=a.vars)=True:=eq_true hl;rw [Bool.true_and,decide_eq_true hl,Bool.true_and];cases hav:xs.all vd with
   | false =>
    rw [hav] at hc;rw [if_neg Bool.false_ne_true];simp only [an7,aoi,bL,vO,go_sem,am4,am3,am5,hv,e1,hc,Bool.not_false,Bool.not_true];rfl
   | true =>
    rw [hav] at hc;rw [if_pos rfl];obtain ⟨ka,a0,a8,al⟩:=To oa va;have hlo:=aqb ox hl ka.t (by omega) (o2:=.bx [I a.vars,.sl 4 (df a.terms)]) (fun _=>rfl);simp only [an7,aoi,bL,vO,go_sem,am4,am3,am5,hv,e1,hc,Bool.not_true];generalize hX:ap 0 [4,6] _=X;have hO:=hlo _ _ _ hX rfl rfl rfl rfl rfl rfl rfl rfl rfl;generalize aod xs a.terms aP=r at hO ⊢;obtain ⟨r1,r2⟩:=r;rcases hO with ⟨h0,hh,c6,rfl,q4,q6,hd⟩ | ⟨h0,hh,rfl,q4⟩
    ·have h0':r2=0:=h0;subst h0';rcases hd with rfl | ⟨rfl,hr⟩
     ·simp only [rV,ag,am,go_sem,am4,am3,am5,q4,q6]
     ·have hr':r1=aP:=hr;subst hr';simp only [go_sem,am4,am3,am5,q4,q6];rfl
    ·cases h0;simp only [go_sem,am4,am3,am5,q4];rfl
  ·have e1:((xs.length:Int)=a.vars)=False:=eq_false hl;rw [Bool.true_and,decide_eq_false hl,Bool.false_and,if_neg Bool.false_ne_true];simp only [an7,aoi,bL,vO,go_sem,am4,am3,am5,hv,e1];rfl
theorem ao8 {xs:List Rd}:∀ (l:List Rt) (s:Rd),vd s=true→Ok0 s→vd (aod xs l s).1=true∧Ok0 (aod xs l s).1
 | [],s,h1,h2=>⟨h1,h2⟩
 | t::l,s,h1,h2=>by
  cases hp:an0 t.exps xs t.c with
  | none =>
   rw [aoU hp];exact bm
  | some d =>
   rw [aoT hp];split
   ·exact ao8 l _ (ZP s d).1 (ZP s d).2
   ·exact bm
theorem apw (a:Rp) (xs:List Rd):vd (aov a xs).1=true∧Ok0 (aov a xs).1:=by
 unfold aov;split
 ·exact ao8 _ _ bm.1 bm.2
 ·exact bm
theorem ap2 {a b:Rd} (h:(jE a b).2=0):qv (jE a b).1=qv a*qv b:=by
 have e:=ZS h;have e2:=C1 16384;have e3:(zI (jE a b).1:Rat)*pQ 16384=(zI a:Rat)*zI b:=by
  unfold pQ;rw [← Rat.intCast_mul,← Rat.intCast_mul,e]
 unfold qv EQ;generalize eQ 16384=x at e2 ⊢;generalize pQ 16384=y at e2 e3;generalize (zI (jE a b).1:Rat)=m at e3 ⊢
 calc m*x=m*(x*y)*x:=by rw [e2,Rat.mul_one]
  _=(m*y)*x*x:=by grind
  _=_:=by rw [e3]; grind
theorem ap3 {a b:Rd} (h:(Jc a b).2=0):qv (Jc a b).1=qv a+qv b:=by
 unfold qv;rw [apf h,Rat.intCast_add,Rat.add_mul]
theorem ao9 {x:Rd}:∀ {n:Nat} {c d:Rd},an3 x n c=some d→qv d=qv c*qv x ^ n
 | 0,c,d,h=>by
  cases h;rw [Rat.pow_zero,Rat.mul_one]
 | n+1,c,d,h=>by
  unfold an3 at h;split at h
  ·rename_i h0;rw [ao9 h,ap2 h0,Rat.pow_succ];grind
  ·cases h
theorem apl:∀ {es:List Int} {xs:List Rd} {c d:Rd},an0 es xs c=some d→qv d=qv c*C5 (xs.map qv) (yC es)
 | e::es,x::xs,c,d,h=>by
  simp only [an0,Option.bind_eq_some_iff] at h;obtain ⟨m,h1,h2⟩:=h;show qv d=qv c*(qv x ^ e.toNat*C5 (xs.map qv) (yC es));rw [apl h2,ao9 h1,Rat.mul_assoc]
 | [],xs,c,d,h=>by
  simp only [an0] at h;cases h;cases xs <;> simp [yC,C5]
 | e::es,[],c,d,h=>by
  simp only [an0] at h;cases h;simp [yC,C5]
theorem apx {xs:List Rd}:∀ {l:List Rt} {s:Rd},(aod xs l s).2=0→qv (aod xs l s).1=qv s+fv (xs.map qv) l
 | [],s,_=>by
  simp only [aod,fv];grind
 | t::l,s,h=>by
  unfold aod at h ⊢;cases hp:an0 t.exps xs t.c with
  | none=>rw [hp] at h; simp at h
  | some d =>
   rw [hp] at h;simp only at h ⊢;split at h
   ·rename_i h0;rw [if_pos h0,apx h,ap3 h0,apl hp];show _=qv s+(qv t.c*C5 (xs.map qv) (yC t.exps)+fv (xs.map qv) l);grind
   ·simp at h
theorem apQ {a:Rp} {xs:List Rd} (h:(aov a xs).2=0):qv (aov a xs).1=fv (xs.map qv) a.terms:=by
 unfold aov at h ⊢;split at h
 ·rename_i he;rw [if_pos he,apx h,C2];grind
 ·simp at h
theorem aqc {x:Ri} {k:Nat} (h:VI x) (hle:qv x.lo≤qv x.hi):(vd (btR x k)=true∧Ok0 (btR x k))∧qv x.lo≤qv (btR x k)∧qv (btR x k)≤qv x.hi:=by
 have m1:=aoN (b:=x.hi) h.1;obtain ⟨q1,q2⟩:=apo hle;obtain ⟨q3,q4⟩:=apo q1;obtain ⟨q5,q6⟩:=apo q2;unfold btR;split
 ·exact ⟨h.1,Rat.le_refl,hle⟩
 ·exact ⟨h.2,hle,Rat.le_refl⟩
 ·exact ⟨m1,q1,q2⟩
 ·exact ⟨aoN h.1,q3,Rat.le_trans q4 q2⟩
 ·exact ⟨aoN m1,Rat.le_trans q1 q5,q6⟩
theorem apH {b:Ri} {dom:List Ri} {zt:List Nat} {n:Nat}:ptN (b::dom) zt (n+1)=btR b (zt.getD 0 0)::ptN dom zt.tail n:=by
 unfold ptN;rw [List.range_succ_eq_map,List.map_cons,List.map_map];congr 1;refine List.map_congr_left fun j _=>?_;cases zt <;> simp
theorem apy:∀ (dom:List Ri) (zt:List Nat),(∀ b ∈ dom,VI b∧qv b.lo≤qv b.hi)→(∀ d ∈ ptN dom zt dom.length,vd d=true∧Ok0 d)∧∃ ts,sF dom ((ptN dom zt dom.length).map qv) ts
 | [],zt,_=>⟨fun d hd=>by simp [ptN] at hd,[],by simp [ptN,sF]⟩
 | b::dom,zt,h=>by
  obtain ⟨h1,ts,h2⟩:=apy dom zt.tail fun b hb=>h b (by simp [hb]);obtain ⟨hv,hle⟩:=h b (by simp);obtain ⟨k1,k2,k3⟩:=aqc (k:=zt.getD 0 0) hv hle;rw [List.length_cons,apH];refine ⟨fun d hd=>?_,?_⟩
  ·rcases List.mem_cons.1 hd with rfl | hd
   ·exact k1
   ·exact h1 d hd
  ·rw [List.map_cons];generalize btR b (zt.getD 0 0)=x at k2 k3 ⊢;by_cases he:qv b.hi - qv b.lo=0
   ·exact ⟨0::ts,by grind,Rat.le_refl,by decide,h2⟩
   ·have hp:0 < qv b.hi - qv b.lo:=by grind
    have hi:=Jl hp;have hm:(qv b.hi - qv b.lo)*(qv b.hi - qv b.lo)⁻¹=1:=Rat.mul_inv_cancel _ he;refine ⟨(qv x - qv b.lo)*(qv b.hi - qv b.lo)⁻¹::ts,?_,?_,?_,h2⟩
    ·generalize (qv b.hi - qv b.lo)⁻¹=w at *
     grind
    ·exact Rat.mul_nonneg (by grind) (Rat.le_of_lt hi)
    ·have:=Rat.mul_nonneg (show 0≤qv b.hi - qv x by grind) (Rat.le_of_lt hi);generalize (qv b.hi - qv b.lo)⁻¹=w at *
     grind
theorem aqd {b:Ri} (h:kI b=true):qv b.lo≤qv b.hi:=by
 rw [DY];unfold kI vi at h;cases ha:b.all with
 | true=>rw [ha] at h; simp at h
 | false=>rw [ha] at h; simp at h; exact h.2.2
theorem apR {a:Rp} {dom:List Ri} {zt:List Nat} {p:Int} (haw:R F.l24_awake [] []=some (B true,[])) (oc:∀ t ∈ a.terms,Ok0 t.c) (od:∀ x ∈ dom,OkI x):R F.l24_BoundContains [bL a,.sl 7 (bB dom),.sl 1 (u8R zt),I p] []=some (B true,[]):=by
 refine aE aoE rfl ?_;have hfw:=aby (a:=a);have hn:=ZI (l:=dom);simp only [bL] at hfw;cases h1:Tk a with
 | false =>
  rw [h1] at hfw;simp only [anQ,anS,bL,go_sem,am4,am3,am5,am6,am7,haw,hfw]
 | true =>
  rw [h1] at hfw;cases h2:LE dom with
  | false =>
   rw [h2] at hn;simp only [anQ,anS,bL,go_sem,am4,am3,am5,am6,am7,haw,hfw,hn]
  | true =>
   rw [h2] at hn;by_cases h3:200 < p
   ·have e3:(200 < p)=True:=eq_true h3;simp only [anQ,anS,bL,go_sem,am4,am3,am5,am6,am7,haw,hfw,hn,e3]
   ·have e3:(200 < p)=False:=eq_false h3;unfold Tk at h1;unfold LE at h2;simp only [Bool.and_eq_true,decide_eq_true_eq,Bool.not_eq_true'] at h1 h2;have oa:OkP a:=⟨fun t ht=>⟨oc t ht,by
     have:=List.any_eq_false.1 h1.2.2 t ht;unfold A7 at this;simp only [Bool.or_eq_true,decide_eq_true_eq,not_or] at this;omega⟩⟩
    have hdm:=PZ oa od (by omega);cases hd:kJ a dom with
    | false =>
     rw [hd] at hdm;simp only [bL] at hdm;simp only [anQ,anS,bL,go_sem,am4,am3,am5,am6,am7,haw,hfw,hn,e3,hdm]
    | true =>
     rw [hd] at hdm;obtain ⟨hv,hl,hk⟩:=Wb od hd;obtain ⟨pv,ts,hpt⟩:=apy dom zt fun b hb=>⟨(hk b hb).2,aqd (hk b hb).1⟩;have hlp:=apA (a:=a) (zt:=zt) (p:=p) (fun b hb=>(hk b hb).2) (by omega) dom.length 0 (Nat.zero_add _);have hev:=apG oa (xs:=ptN dom zt dom.length) (fun d hd=>(pv d hd).2) (by rw [apj]; omega);have hq:=fun h=>apQ (a:=a) (xs:=ptN dom zt dom.length) h;have hok:=apw a (ptN dom zt dom.length);obtain ⟨b,hB,hbr,hbn⟩:=Yc oa od (by omega) (p:=p);have n1:=NF oa od (by omega) (p:=p);have i1:=VW (p:=p) oa (sF.inL hk hpt);have i2:=hbr _ _ hpt;have hX:=Ol oa od (by omega) (p:=p) (b:=b) i2.ok (fun _=>hB);have i3:In (fv ((ptN dom zt dom.length).map qv) a.terms) (D9 a dom p b):=by
      unfold D9;split
      ·obtain ⟨m1,m2⟩:=XW i1 i2;rw [if_pos m1];exact m2
      ·exact Or.inl rfl
     generalize hE:aov a (ptN dom zt dom.length)=v at hev hq hok;have hp0:apr 55 (ptN dom zt 0) .emp .dead:=Or.inl ⟨by simp [ptN],rfl,rfl⟩;generalize hL:aq (ak R (aG false) anM) [1,2,3,4,9,35,36,37] [4,55]=L at hlp;have hXL:∀ s h,ak R (aG false) (.loop [1,2,3,4,9,35,36,37] [4,55] anM) s h=L s h:=fun s h=>by rw [← hL]; rfl
     clear hL;have hlp2:∀ (S:ae) (H:ac) (X:Option (Ex × St)),ap 0 [1,3,4,9] (L S H)=X→S 1=.sl 7 (bB dom)→S 2=.sl 1 (u8R zt)→S 3=I p→S 4=.ref 4 none 0 0 0 →
       S 35=.sl 7 (bB dom)→S 36=I dom.length→S 37=I 0→H 4=.bx [I a.vars,.sl 4 (df a.terms)]→S 9=.emp→H 55=.dead →
       ∃ x hh,X=some (.normal,⟨upd (upd (upd (upd (fun _=>.any) 9 x) 4 (.ref 4 none 0 0 0)) 3 (I p)) 1 (.sl 7 (bB dom)),hh⟩)∧apr 55 (ptN dom zt dom.length) x (hh 55)∧hh 4=.bx [I a.vars,.sl 4 (df a.terms)]∧∀ a,a ≠ 4→a ≠ 55→hh a=.dead:=fun S H X hX k1 k2 k3 k4 k5 k6 k7 k8 k9 k10=>by
      rw [← hX];exact hlp S H k1 k2 k3 k4 k5 k6 k7 k8 (by rw [k9,k10]; exact hp0)
     clear hlp;generalize ptN dom zt dom.length=pts at *
     have t1:v.2=0→aoJ (jD a dom p) v.1=true∧aoJ b v.1=true∧aoJ (D9 a dom p b) v.1=true:=fun h=>by
      have:=hq h;rw [← this] at i1 i2 i3;exact ⟨aoS i1 hok.1,aoS i2 hok.1,aoS i3 hok.1⟩
     have a1:=ao6 i1.ok hok.2;have a2:=ao6 i2.ok hok.2;have a3:=ao6 i3.ok hok.2;generalize jD a dom p=n at *
     generalize D9 a dom p b=z at *
     simp only [bL,ax,aA,ag,am,rV,vO] at hdm hev n1 hB hX a1 a2 a3;simp only [anQ,anS,bL,go_sem,am4,am3,am5,am6,am7,haw,hfw,hn,e3,hdm,hXL];generalize hX2:ap 0 [1,3,4,9] (L _ _)=X;obtain ⟨x,hh,g0,hacc,g4,gd⟩:=hlp2 _ _ _ hX2 rfl rfl rfl rfl rfl rfl rfl rfl rfl rfl;rw [g0];rcases hacc with ⟨rfl,rfl,h55⟩ | ⟨g2,rfl,h55⟩
     ·by_cases hz:v.2=0
      ·obtain ⟨t1,t2,t3⟩:=t1 hz;rw [t1] at a1;rw [t2] at a2;rw [t3] at a3;simp only [yu,List.map_nil] at hev;simp only [go_sem,am4,am3,am5,am6,am7,g4,gd,h55,hev,hz,n1,hB,hX,a1,a2,a3,ne_eq,not_false_eq_true]
      ·simp only [yu,List.map_nil] at hev;simp only [go_sem,am4,am3,am5,am6,am7,g4,gd,h55,hev,hz,ne_eq,not_false_eq_true]
     ·have et:(yu pts).take pts.length=yu pts:=by rw [← akK,List.take_length]
      by_cases hz:v.2=0
      ·obtain ⟨t1,t2,t3⟩:=t1 hz;rw [t1] at a1;rw [t2] at a2;rw [t3] at a3;simp only [Nat.zero_add,Nat.le_refl,et,go_sem,am4,am3,am5,am6,am7,g4,gd,h55,hev,hz,n1,hB,hX,a1,a2,a3,ne_eq,not_false_eq_true]
      ·simp only [Nat.zero_add,Nat.le_refl,et,go_sem,am4,am3,am5,am6,am7,g4,gd,h55,hev,hz,ne_eq,not_false_eq_true]
noncomputable def y7:Env:=⟨fun f=>LB.lookup f,dK.C,dK.md⟩
noncomputable def R0:dP:=dO y7
theorem Al {f:FuncId} {fd:FD} {args:List AV} {hs:List Ob} {r:AV × List Ob} (hE:y7.E f=none) (hC:y7.C f=some fd) (hk:y7.md.keep f=false) (h1:args.length=fd.np) (h2:hs.length≤1000)
  (hz:gx false fd.rs fd.res hs.length (ak R0 (aG false) fd.body (n8 args) (aj hs))=some r):R0 f args hs=some r:=by
 refine Co hE hC ?_;unfold MH;rw [if_pos ⟨h1,h2⟩,hk];exact hz
theorem sG (o:Ob):aj [o]=upd (fun _=>.dead) 1000 o:=by
 funext i;unfold aj upd;by_cases h:i=1000
 ·subst h;rfl
 ·rw [if_neg h];split
  ·rw [List.getElem?_eq_none (by simp; omega)];rfl
  ·rfl
theorem Ye {r:List AV} {rs:List (List AV)} (h:(rs.length+1)*8≤140737488355328):R0 F.slices_Clone_int_int_ [.sl 1 (r::rs)] []=some (.osl 1 (r::rs),[]):=by
 refine Al (fd:=ju) (by kernel_rfl) (by kernel_rfl) (by kernel_rfl) rfl (by decide) ?_;have e1:((rs.length+1)*8≤140737488355328)=True:=eq_true h;have e2:Dq false (.sl 1 (r::rs))=some (B false):=rfl;simp only [ju,pH,go_sem,am5,am6,e1,e2,List.length_cons,List.length_nil,Nat.zero_add,Nat.zero_le,Nat.le_refl,true_and,true_or,List.nil_append]
theorem Yf:eu 4 .emp (some (I 0)) none none=some .emp:=rfl
theorem aaw {r:List AV}:R0 F.slices_Insert_api_Term_api_Term_ [.emp,I 0,.sl 4 [r]] []=some (.osl 4 [r],[]):=by
 refine Al (fd:=aW) (by kernel_rfl) (by kernel_rfl) (by kernel_rfl) rfl (by decide) ?_;have e1:((1:Int)=0)=False:=by decide
 simp only [aW,cu,go_sem,am4,am3,am5,am6,Yf,List.length_cons,List.length_nil,Int.natCast_one,e1,Nat.zero_add]
theorem tP {n i:Nat} (h:i≤n):kw n (some (I i)) none none=some (i,n):=by
 simp only [kw,jK,Option.bind_some];rw [if_pos ⟨by omega,by omega⟩];rfl
theorem Wc {id k l0 n i:Nat} (h:i≤n):eu k (.rsl id none k l0 n) (some (I i)) none none=some (.rsl id none k (l0+i) (n - i)):=by
 simp only [eu,if_true,tP h,Option.map_some,Option.isNone_none]
theorem Jq {h:ac} {j k n:Nat} {rows:List (List AV)} (hj:aR j=false) (hh:h j=.ar k rows) (hn:n=rows.length) (hc:aM [1000] (h 1000)=true):uS [[]] 1 h [.rsl j none k 0 n]=some (.osl k rows,[h 1000]):=by
 subst hn;have hp:cp 1=[1000]:=rfl;unfold uS;rw [if_pos]
 ·simp [rA,ni,jk,hj,hh,wE,vS,br,nrmV,nrmL,hp]
 ·simp [hp,hc,jl,bT,fT,hj]
theorem Wd {r:List AV} {rows:List (List AV)} {n:Nat} (hn:n=rows.length) (hb:(n+1)*64≤140737488355328):R0 F.slices_Insert_api_Term_api_Term_ [.rsl 1000 none 4 0 n,I n,.sl 4 [r]] [.ar 4 rows]=some (.osl 4 (rows++[r]),[.dead]):=by
 refine Al (fd:=aW) (by kernel_rfl) (by kernel_rfl) (by kernel_rfl) rfl (by simp) ?_;subst hn;rw [sG];have e1:((1:Int)=0)=False:=by decide
 have e2:=Wc (id:=1000) (k:=4) (l0:=0) (Nat.le_refl rows.length);have e3:((rows.length+1)*64≤140737488355328)=True:=eq_true hb;have e4:(rows.length+1≤rows.length)=False:=eq_false (by omega);have e5:∀ h,LP h 25 4 64 1000 4 0 rows.length [r] 4 rows=cY (upd h 1000 .dead) 25 4 (rows++[r]) (rows.length+1) [(1000,false)]:=fun h=>by
  simp only [LP,List.length_singleton];rw [if_neg (by omega),if_pos ⟨trivial,trivial,trivial,trivial,hb⟩]
 simp only [aW,cu,go_sem,am4,am3,am5,am6,List.length_cons,List.length_nil,Int.natCast_one,e1,e2,e3,e4,e5,Nat.zero_add,Nat.add_zero,Nat.sub_self,or_self,Nat.le_refl,List.length_append];exact Jq rfl rfl (by simp) rfl
theorem ab8 {f:FuncId} {g:List AV→List Ob→Option (AV × List Ob)} {args:List AV} {hs:List Ob} (hE:y7.E f=some g):R0 f args hs=g args hs:=Fg hE
theorem aax {h:ac} {d:Nat} {r:List AV} {rows:List (List AV)} {lo m:Nat} (hh:h 1000=.ar 4 rows) (hd:h (2000+8*d)=.dead) :
  bE R0 (aG false) h d [.sl 4 [r],.rsl 1000 none 4 lo m] (.fn F.slices_overlaps_api_Term_ [] [])=some (B false,upd h 1000 (.ar 4 rows),[(1000,true)]):=by
 have hm:(aG false).m F.slices_overlaps_api_Term_=[0,1]:=by kernel_rfl
 have hs:(aG false).sh F.slices_overlaps_api_Term_=[]:=by kernel_rfl
 have hk:(aG false).keep F.slices_overlaps_api_Term_=false:=by kernel_rfl
 have hf:R0 F.slices_overlaps_api_Term_ [.sl 4 [r],.rsl 1000 none 4 lo m] [.ar 4 rows]=some (B false,[.ar 4 rows]):=by
  rw [ab8 (g:=Qm 4) (by kernel_rfl)];simp [Qm]
 have hb:pL (aG false) [.sl 4 [r],.rsl 1000 none 4 lo m] (.fn F.slices_overlaps_api_Term_ [] [])=false:=by
  simp [pL,hm]
 have hr:cf h 40 [1000] 0=[1000]:=by
  simp [cf,hh,lj,bJ]
 have hn:cG (B false)=1:=rfl;unfold bE;rw [if_neg (by rw [hb]; exact Bool.false_ne_true)];have h1:bZ h [0,1] [.sl 4 [r],.rsl 1000 none 4 lo m]=some ([.sl 4 [r],.rsl 1000 none 4 lo m],h,[]):=by
  simp [bZ,cR,sI,fS,aB]
 have h2:bJ [] ([AV.sl 4 [r],.rsl 1000 none 4 lo m].flatMap bT)=[1000]:=by
  simp [bT,fT,bJ]
 have h3:bo [1000] 1000=1000:=rfl;simp only [dU,hm,List.nil_append,List.append_nil,h1,Option.bind_some,h2,hr,hs];simp [kR,br,aV,bg,hh,aM,cM,dM,kB,h3,cZ,hf,fF,hn,dp,hd,dz,bf,vQ,H9,ru,fT,jH,fE,Em,dS,mat,da,gA,hk,H8,hm]
theorem KF {id k l0 n i:Nat}:eu k (.rsl id none k l0 n) (some (I i)) none none=(kw n (some (I i)) none none).map fun p=>.rsl id none k (l0+p.1) (p.2 - p.1):=by
 simp only [eu,if_true,Option.isNone_none]
theorem We {n c i:Nat} (h:i≤c):jK n c (some (I i))=some i:=by
 simp only [jK];rw [if_pos ⟨by omega,by omega⟩];rfl
theorem aay {r:List AV} {rows:List (List AV)} {n i:Nat} (hn:n=rows.length) (hi:i < n) (hb:(n+1)*64≤140737488355328) :
  R0 F.slices_Insert_api_Term_api_Term_ [.rsc 1000 4 0 n n,I i,.sl 4 [r]] [.ar 4 rows]=some (.osl 4 (rows.take i++r::rows.drop i),[.ar 4 rows]):=by
 refine Al (fd:=aW) (by kernel_rfl) (by kernel_rfl) (by kernel_rfl) rfl (by simp) ?_;rw [sG];have e1:((1:Int)=0)=False:=by decide
 have e2:((i:Int)=(n:Int))=False:=eq_false (by omega);have e3:IntKind.i64.wrap ((n:Int)+1)=((n+1:Nat):Int):=wi (by omega) (by omega);have e4:((n:Int) < ((n+1:Nat):Int))=True:=eq_true (by omega);have e5:IntKind.i64.wrap (((n+1:Nat):Int) - (i:Int))=((n+1 - i:Nat):Int):=wi (by omega) (by omega);have e6:IntKind.i64.wrap ((i:Int)+1)=((i+1:Nat):Int):=wi (by omega) (by omega);have b1:=tP (n:=n) (i:=i) (by omega);have b2:=We (n:=n) (c:=n) (i:=i) (by omega);have b3:=tP (n:=n+1) (i:=i) (by omega);have b4:=tP (n:=n+1) (i:=i+1) (by omega);have f1:((0:Int) < ((n+1 - i:Nat):Int))=True:=eq_true (by omega);have f2:(n < i+((n+1 - i:Nat):Int).toNat)=True:=eq_true (by omega);have f3:i+((n+1 - i:Nat):Int).toNat=n+1:=by omega
 have f4:(i≤rows.length)=True:=eq_true (by omega);have f5:((n+1)*64≤140737488355328)=True:=eq_true hb;have f6:(n < n+1)=True:=eq_true (by omega);obtain ⟨A,hA⟩:∃ A,rows.take i++List.replicate ((n+1 - i:Nat):Int).toNat [AV.emp,B false,AV.emp,I 0]=A:=⟨_,rfl⟩;have a1:A.length=n+1:=by rw [← hA,List.length_append,List.length_take,List.length_replicate]; omega
 have a2:A.take i=rows.take i:=by
  rw [← hA,List.take_append_of_le_length (by rw [List.length_take]; omega),List.take_of_length_le (by rw [List.length_take]; omega)]
 have a3:(i≤A.length)=True:=eq_true (by omega);obtain ⟨D,hD⟩:∃ D,A.take i++[r]++A.drop (i+1)=D:=⟨_,rfl⟩;have d1:D.length=n+1:=by
  rw [← hD,List.length_append,List.length_append,List.length_take,List.length_drop,List.length_singleton];omega
 have d2:D.take (i+1)=rows.take i++[r]:=by
  rw [← hD,a2,List.take_append_of_le_length (by rw [List.length_append,List.length_take,List.length_singleton]; omega),List.take_of_length_le (by rw [List.length_append,List.length_take,List.length_singleton]; omega)]
 have d3:(i+1≤D.length)=True:=eq_true (by omega);have t1:List.take (n+1 - i) [r]=[r]:=List.take_of_length_le (by rw [List.length_singleton]; omega);have t2:(rows.drop i).take (n - i)=rows.drop i:=List.take_of_length_le (by rw [List.length_drop]; omega);have t3:(1=min 1 (n+1 - i))=True:=eq_true (by omega);have t4:n+1 - (i+1)=n - i:=by omega
 have t5:(i+(n - i)≤rows.length)=True:=eq_true (by omega);have t6:(rows.drop i).length=n - i:=by rw [List.length_drop]; omega
 have t7:D.drop (i+1+(n - i))=[]:=List.drop_eq_nil_of_le (by omega);simp only [aW,cu,go_sem,am4,am3,am5,am6,List.length_cons,List.length_nil,Int.natCast_one,e1,e2,e3,e4,e5,e6,b1,b2,b3,b4,f1,f2,f3,f4,f5,f6,hA,hD,a3,d3,t1,t2,t3,t4,t5,t6,t7,Nat.min_self,Nat.zero_add,Nat.add_zero,Nat.sub_self,or_self,Nat.le_refl,KF,and_self];rw [d2];have hfin:rows.take i++[r]++rows.drop i=rows.take i++r::rows.drop i:=by rw [List.append_assoc]; rfl
 rw [hfin];exact Jq rfl rfl (by rw [List.length_append,List.length_take,List.length_cons,List.length_drop]; omega) rfl
theorem aaz {r:List AV} {rows:List (List AV)} {n i c:Nat} (hn:n=rows.length) (hi:i < n) (hc:n+1≤c) (hb:(n+1)*64≤140737488355328) :
  R0 F.slices_Insert_api_Term_api_Term_ [.rsc 1000 4 0 n c,I i,.sl 4 [r]] [.ar 4 rows]=some (.osl 4 (rows.take i++r::rows.drop i),[.dead]):=by
 refine Al (fd:=aW) (by kernel_rfl) (by kernel_rfl) (by kernel_rfl) rfl (by simp) ?_;rw [sG];have e1:((1:Int)=0)=False:=by decide
 have e2:((i:Int)=(n:Int))=False:=eq_false (by omega);have e3:IntKind.i64.wrap ((n:Int)+1)=((n+1:Nat):Int):=wi (by omega) (by omega);have e4:((c:Int) < ((n+1:Nat):Int))=False:=eq_false (by omega);have e6:IntKind.i64.wrap ((i:Int)+1)=((i+1:Nat):Int):=wi (by omega) (by omega);have b1:=tP (n:=n) (i:=i) (by omega);have b2:=We (n:=n) (c:=c) (i:=n+1) hc;have b3:=tP (n:=n+1) (i:=i) (by omega);have b4:=tP (n:=n+1) (i:=i+1) (by omega);have o1:=fun (h:ac) (h0:h 1000=.ar 4 rows) (h1:h (2000+8*67)=.dead)=>aax (r:=r) (lo:=i+1) (m:=n - i) h0 h1;have t1:List.take (n+1 - i) [r]=[r]:=List.take_of_length_le (by rw [List.length_singleton]; omega);have t2:(rows.drop i).take (n - i)=rows.drop i:=List.take_of_length_le (by rw [List.length_drop]; omega);have t3:(1=min 1 (n+1 - i))=True:=eq_true (by omega);have t4:n+1 - (i+1)=n - i:=by omega
 have t5:(i+(n - i)≤rows.length)=True:=eq_true (by omega);have t6:(rows.drop i).length=n - i:=by rw [List.length_drop]; omega
 have t8:min (n - i) (n+1 - i)=n - i:=by omega
 have t9:(n - i=min (n+1 - i) (n - i))=True:=eq_true (by omega);have f4:(i+1≤rows.length)=True:=eq_true (by omega);have t7:rows.drop (i+1+(n - i))=[]:=List.drop_eq_nil_of_le (by omega);obtain ⟨A,hA⟩:∃ A,rows.take (i+1)++rows.drop i=A:=⟨_,rfl⟩;have a1:A.length=n+1:=by
  rw [← hA,List.length_append,List.length_take,List.length_drop];omega
 have a2:A.take i=rows.take i:=by
  rw [← hA,List.take_append_of_le_length (by rw [List.length_take]; omega),List.take_take,Nat.min_eq_left (by omega)]
 have a4:A.drop (i+1)=rows.drop i:=by
  rw [← hA,List.drop_append_of_le_length (by rw [List.length_take]; omega),List.drop_eq_nil_of_le (by rw [List.length_take]; omega),List.nil_append]
 have a3:(i≤A.length)=True:=eq_true (by omega);simp only [aW,cu,go_sem,am4,am3,am5,am6,List.length_cons,List.length_nil,Int.natCast_one,e1,e2,e3,e4,e6,b1,b2,b3,b4,t4,Nat.zero_add];rw [o1 _ rfl rfl];simp only [go_sem,am4,am3,am5,am6,am7,List.length_cons,List.length_nil,Int.natCast_one,e1,e2,e3,e4,e6,b1,b2,b3,b4,t1,t2,t3,t4,t5,t6,t7,t8,t9,f4,a3,hA,Nat.zero_add,Nat.add_zero,Nat.sub_self,or_self,Nat.le_refl,KF,and_self];rw [a2,a4,show rows.take i++[r]++rows.drop i=rows.take i++r::rows.drop i by rw [List.append_assoc]; rfl];exact Jq rfl rfl (by rw [List.length_append,List.length_take,List.length_cons,List.length_drop]; omega) rfl
abbrev F1:=List (Nat × List AV × AV)
def Om:F1→FuncId→List AV→Option AV
 | [],_,_=>none
 | x::l,f,args=>if x.1=f then (if sJ x.2.1 args=true then some x.2.2 else Om l f args) else Om l f args
def Rn (a:Option AV) (hs:List Ob) (b:Option (AV × List Ob)):Option (AV × List Ob):=match a,hs with
 | some r,[]=>some (r,[])
 | _,_=>b
def Jr (e:Env) (T:F1):Nat→dP
 | 0=>fun _ _ _=>none
 | n+1=>fun f args hs=>Rn (Om T f args) hs (match e.E f with
  | some g=>g args hs
  | none=>(e.C f).bind fun fd=>BX (Jr e T n) { e.md with nm:=e.md.keep f } n fd args hs)
theorem Js {e:Env}:∀ {T:F1} {f:FuncId} {args:List AV} {r:AV},(∀ x ∈ T,dO e x.1 x.2.1 []=some (x.2.2,[]))→Om T f args=some r→dO e f args []=some (r,[])
 | [],f,args,r,_,h=>by cases h
 | x::l,f,args,r,ht,h=>by
  unfold Om at h;split at h
  ·rename_i h1;split at h
   ·rename_i h2;cases h;have:=ht x (by simp);rw [h1,rD h2] at this;exact this
   ·exact Js (fun y hy=>ht y (by simp [hy])) h
  ·exact Js (fun y hy=>ht y (by simp [hy])) h
theorem mU {call:dP} {md:Mode} {lf:Nat}:∀ (c:Cmd) {s:ae} {h:ac} {r:Ex × St},bF call md lf c s h=some r→ak call md c s h=some r
 | .skip,s,h,r,hz=>hz
 | .ops ks l,s,h,r,hz=>hz
 | .dops ks l ps,s,h,r,hz=>hz
 | .seq a b,s,h,r,hz=>by
  simp only [bF,cj] at hz;split at hz
  ·cases hz
  ·rename_i t1 ht1;simp only [ak,cj,mU a ht1,mU b hz]
  ·rename_i i t1 ht1;simp only [ak,cj,mU a ht1];exact hz
  ·rename_i t1 ht1;simp only [ak,cj,mU a ht1];exact hz
 | .cond c a b,s,h,r,hz=>by
  simp only [bF,lV] at hz;split at hz
  ·rename_i t ht;cases t with
   | true=>simp only [ak,lV,ht,if_true]; exact mU a hz
   | false=>simp only [ak,lV,ht,Bool.false_eq_true,if_false]; exact mU b hz
  ·cases hz
 | .block id ks a,s,h,r,hz=>by
  simp only [bF,ap] at hz;split at hz
  ·cases hz
  ·rename_i t1 ht1;simp only [ak,ap,mU a ht1];exact hz
  ·rename_i i t1 ht1;simp only [ak,ap,mU a ht1];exact hz
  ·rename_i t1 ht1;simp only [ak,ap,mU a ht1];exact hz
 | .loop ks hs a,s,h,r,hz=>by
  simp only [bF] at hz;simp only [ak,aq];rw [kD];exact ⟨lf,fun k hk=>C9 (fun hh=>mU a hh) lf hk hz⟩
 | .exit id,s,h,r,hz=>hz
 | .ret,s,h,r,hz=>hz
 | .frz is a,s,h,r,hz=>by
  simp only [bF,aT] at hz;split at hz
  ·cases hz
  ·rename_i t1 ht1;simp only [ak,aT,ht1];exact mU a hz
theorem Ro {e:Env} {T:F1} (ht:∀ x ∈ T,dO e x.1 x.2.1 []=some (x.2.2,[])):∀ n,BM (Jr e T n) (dO e)
 | 0=>fun f a hs r hz=>by cases hz
 | n+1=>fun f a hs r hz=>by
  have old:(match e.E f with | some g=>g a hs | none=>(e.C f).bind fun fd=>BX (Jr e T n) { e.md with nm:=e.md.keep f } n fd a hs)=some r→dO e f a hs=some r:=by
   intro hz;split at hz
   ·rename_i g hE;rw [Fg hE];exact hz
   ·rename_i hE;simp only [Option.bind_eq_some_iff] at hz;obtain ⟨fd,hC,hz⟩:=hz;refine Co hE hC ?_;unfold BX at hz;unfold MH;split at hz
    ·rename_i hcc;rw [if_pos hcc];cases hx:bF (Jr e T n) { e.md with nm:=e.md.keep f } n fd.body (n8 a) (aj hs) with
     | none=>rw [hx] at hz; cases hz
     | some q =>
      rw [hx] at hz;rw [mU fd.body (gw (Ro ht n) (Nat.le_refl n) fd.body hx)];exact hz
    ·cases hz
  unfold Jr at hz;unfold Rn at hz;split at hz
  ·rename_i r' hl;cases hz;exact Js ht hl
  ·exact old hz
theorem ah {e:Env}:∀ x ∈ ([]:F1),dO e x.1 x.2.1 []=some (x.2.2,[]):=fun _ h=>by cases h
theorem ab {e:Env} {x:Nat × List AV × AV} {T:F1} (h1:dO e x.1 x.2.1 []=some (x.2.2,[])) (h2:∀ x ∈ T,dO e x.1 x.2.1 []=some (x.2.2,[])):∀ y ∈ x::T,dO e y.1 y.2.1 []=some (y.2.2,[]):=fun y hy=>by
 rcases List.mem_cons.1 hy with rfl | hy
 ·exact h1
 ·exact h2 y hy
theorem aF {e:Env} (T:F1) (n:Nat) (x:Nat × List AV × AV) (ht:∀ x ∈ T,dO e x.1 x.2.1 []=some (x.2.2,[])) (h:Jr e T n x.1 x.2.1 []=some (x.2.2,[])):dO e x.1 x.2.1 []=some (x.2.2,[]):=Ro ht n _ _ _ _ h
def YR:Ren:=⟨fun | 28=>209 | n=>n,fun | 25=>132 | 27=>75 | 53=>190 | n=>n,fun n=>n⟩
theorem Wf:Lays7.n28 Tryz.prog YR where
 mixed:=by kernel_rfl
 f28:=by kernel_rfl
 t0:=by kernel_rfl
 a0:=Tryz.isAgg0
 z0:=Tryz.sizeOf0
 v0:=Tryz.zeroValue0
 i0:=by kernel_rfl
 t3:=by kernel_rfl
 a3:=Tryz.isAgg3
 z3:=Tryz.sizeOf3
 v3:=Tryz.zeroValue3
 i3:=by kernel_rfl
 t4:=by kernel_rfl
 a4:=Tryz.isAgg4
 z4:=Tryz.sizeOf4
 v4:=Tryz.zeroValue4
 i4:=by kernel_rfl
 t5:=by kernel_rfl
 a5:=Tryz.isAgg5
 z5:=Tryz.sizeOf5
 v5:=Tryz.zeroValue5
 i5:=by kernel_rfl
 t25:=by kernel_rfl
 a25:=Tryz.isAgg132
 z25:=Tryz.sizeOf132
 v25:=Tryz.zeroValue132
 i25:=by kernel_rfl
 t27:=by kernel_rfl
 a27:=Tryz.isAgg75
 z27:=Tryz.sizeOf75
 v27:=Tryz.zeroValue75
 i27:=by kernel_rfl
 t53:=by kernel_rfl
 a53:=Tryz.isAgg190
 z53:=Tryz.sizeOf190
 v53:=Tryz.zeroValue190
 i53:=by kernel_rfl
 g0:=by kernel_rfl
def Dd:Inv where
 p w _:=TabAt 0 Lib.deBruijn32tab w
 stab:=fun {w w' X} h hs j hj=>by rw [jY (hs 0 (.inr rfl))]; exact h j hj
 more:=fun h _=>h
theorem Rq:∀ (k x:Nat),Lib.ctzFrom k x=Km k x
 | 0,x=>rfl
 | k+1,x=>by
  unfold Lib.ctzFrom Km;rw [Rq k (x / 2),Nat.add_comm]
set_option maxRecDepth 100000 in
theorem YS:kT Tryz.prog Dd false F.bits_TrailingZeros32 YC:=by
 intro args obs obs' res w X ρ vals n hz hn hi hr hs hv;unfold YC at hz;split at hz
 ·rename_i x;by_cases hc:0 < x∧x < 4294967296∧obs=[]
  ·rw [if_pos hc] at hz;obtain ⟨h0,h1,rfl⟩:=hc;simp only [Option.some.injEq,Prod.mk.injEq] at hz;obtain ⟨rfl,rfl⟩:=hz;have hv0:=hv 0 (.v (.int .u32 x)) (vals.getD 0 undef) rfl (by simp at hs; simp [Array.getD_eq_getD_getElem?,hs]);have e0:vals=#[.int .u32 x]:=by
    simp only [List.length_cons,List.length_nil] at hs;have:=hv0.v_inv.1;apply Array.ext
    ·simpa using hs
    ·intro i h2 h3;have:i=0:=by simp at h3; exact h3
     subst this;simpa [Array.getD_eq_getD_getElem?,hs] using this
   subst e0;obtain ⟨m,rfl⟩:∃ m:Nat,x=m:=⟨x.toNat,by omega⟩;have key:=Any7.bits_TrailingZeros32 Wf m (by omega) w fun _=>hi;have he:(callFunc F.bits_TrailingZeros32 #[.int .u32 (m:Int)]).run Tryz.prog w=.ok (.enter F.bits_TrailingZeros32 #[.int .u32 (m:Int)]) w:=(enters_of (Wf.f28) (by kernel_rfl) rfl:Proofs.Enters Tryz.prog (YR.f 28)) _ _;unfold Enters;rw [he];refine Calls.mono key fun e w' hw=>?_;obtain ⟨rfl,rfl⟩:=hw;refine ⟨ρ,hr,.refl _ _ _ _,?_⟩;refine .dat ?_;have:Lib.ctz 32 m=Km 32 m:=by
    unfold Lib.ctz;rw [if_neg (by omega),Rq]
   simp only [this,Int.toNat_natCast,mat,da];exact .v _ rfl
  ·rw [if_neg hc] at hz;cases hz
 ·cases hz
section
variable {H:Type} {enc:TypeId × Value→H} {w:World}
def E7 (w:World) (b:Nat):Prop:=b < w.heap.size
def y8 (w:World):Prop:=∀ o v,w.cell? ⟨0,o,none⟩=some v→∃ n,v=.int .u8 n
def xR (u:Value):Prop:=u=u
theorem ab9 (_:y8 w) {a:Addr} {u:Value} (h:w.cell? a=some u) (_:xR u):E7 w a.block∧a.spot=none:=by
 have h1:a.spot=none:=by
  unfold World.cell? at h;split at h
  ·split at h
   ·cases h
   ·rename_i hs;simpa using hs
  ·cases h
 refine ⟨?_,h1⟩;unfold World.cell? at h;split at h
 ·rename_i hb;exact (Array.getElem?_eq_some_iff.1 hb).1
 ·cases h
def nC (w:World) (fs:List AV) (cs:List Value):Prop :=
 fs.length=cs.length∧∀ (j:Nat) (c:AV) (u:Value),fs[j]?=some c→cs[j]?=some u→RD w (E7 w) c u∧aB c=true∧u.oneCell'=true
theorem nC.app {fa fb:List AV} {ca cb:List Value} (ha:nC w fa ca) (hb:nC w fb cb):nC w (fa++fb) (ca++cb):=by
 refine ⟨by simp [ha.1,hb.1],fun j c u h1 h2=>?_⟩;by_cases hj:j < fa.length
 ·rw [List.getElem?_append_left hj] at h1;rw [List.getElem?_append_left (by rw [← ha.1]; exact hj)] at h2;exact ha.2 j c u h1 h2
 ·rw [List.getElem?_append_right (by omega)] at h1;rw [List.getElem?_append_right (by rw [← ha.1]; omega),← ha.1] at h2;exact hb.2 _ c u h1 h2
theorem nC.one {c:AV} {u:Value} (h:RD w (E7 w) c u) (hd:aB c=true) (h1:u.oneCell'=true):nC w [c] [u]:=by
 refine ⟨rfl,fun j c' u' hc hu=>?_⟩;cases j with
 | zero=>simp at hc hu; subst hc hu; exact ⟨h,hd,h1⟩
 | succ j=>simp at hc
noncomputable abbrev Tr (w:World) (enc:TypeId × Value→H) (n:Nat) (t:TypeId) (cs:List Value):Option (DataW H × List MemPlace):=DataW.trod enc Tryz.prog w 0 (fun _=>true) true n t cs
def rp (t:TypeId) (d:DataW H):Prop:=∀ m ∈ DataW.weights Tryz.prog t d,m≤reachBytes
theorem aca {e:TypeId}:∀ {l:List (DataW H)} {d:DataW H} {m:Nat},d ∈ l→m ∈ DataW.weights Tryz.prog e d→m ∈ DataW.weightsAll Tryz.prog e l
 | [],d,m,h,_=>by simp at h
 | a::l,d,m,h,hm=>by
  simp only [DataW.weightsAll,List.mem_append];rcases List.mem_cons.1 h with rfl | h
  ·exact .inl hm
  ·exact .inr (aca h hm)
theorem Rs {α:Type} {p:Nat→α→Prop}:∀ (n:Nat),(∀ i,i < n→∃ r,p i r)→∃ l:List α,l.length=n∧∀ (i:Nat) (r:α),l[i]?=some r→p i r
 | 0,_=>⟨[],rfl,fun i r h=>by simp at h⟩
 | n+1,h=>by
  obtain ⟨l,h1,h2⟩:=Rs n fun i hi=>h i (by omega);obtain ⟨r,hr⟩:=h n (by omega);refine ⟨l++[r],by simp [h1],fun i r' hi=>?_⟩;by_cases hin:i < n
  ·rw [List.getElem?_append_left (by omega)] at hi;exact h2 i r' hi
  ·rw [List.getElem?_append_right (by omega)] at hi;have:i=n:=by
    have:=(List.getElem?_eq_some_iff.1 hi).1;simp at this;omega
   subst this;simp [h1] at hi;subst hi;exact hr
theorem Ea {α:Type} {t e:TypeId} {k bs:Nat} (ht:Tryz.prog.underlying t=some (.slice e)) (hk:Tryz.prog.cellsOf e=k) (h0:0 < k) (hbs:Tryz.prog.bytesOf e=bs) (F:α→List AV) (Q:α→Prop) (hT:y8 w)
  (hrow:∀ n cs' x,Tr w enc n e cs'=some x→rp e x.1→∃ r,Q r∧nC w (F r) cs'∧∃ u,cs'[0]?=some u∧xR u) {fuel:Nat} {cs:List Value} {x:DataW H × List MemPlace}
  (h:Tr w enc fuel t cs=some x) (hw:rp t x.1):∃ (l:List α) (v:Value),cs=[v]∧(∀ r ∈ l,Q r)∧l.length*bs≤reachBytes∧RD w (E7 w) (.sl k (l.map F)) v∧v.oneCell'=true∧xR v:=by
 rcases open_slice ht h with ⟨rfl,_⟩ | ⟨a,len,cap,m,n,D,Pl,rfl,hb,hl,hm,hmm,rfl,hx⟩
 ·exact ⟨[],_,rfl,fun r hr=>by simp at hr,by simp,.sl k [] none 0 ⟨0,0,none⟩ (fun _ _=>undef) (by simp) (fun h=>absurd rfl h) (fun r hr=>by simp at hr) (fun i r j c hr=>by simp at hr) (fun r hr=>by simp at hr) (fun i r j c hr=>by simp at hr),rfl,rfl⟩
 ·have hlm:len≤m:=by rw [hmm]; split <;> omega
  have hwe:∀ i,i < len→rp e (D i):=fun i hi q hq=>by
   refine hw q ?_;simp only [DataW.weights,ht,List.mem_cons,List.mem_append];exact .inr (.inl (aca (List.mem_map.2 ⟨i,List.mem_range.2 hi,rfl⟩) hq))
  have hbn:len*bs≤reachBytes:=by
   have:=hw ((((List.range len).map D).length+((List.range (m - len)).map fun j=>D (len+j)).length)*Tryz.prog.bytesOf e) (by simp [DataW.weights,ht]);simp only [List.length_map,List.length_range,hbs] at this;exact Nat.le_trans (Nat.mul_le_mul_right _ (by omega)) this
  obtain ⟨l,l1,l2⟩:=Rs (p:=fun i r=>Q r∧∃ cs',w.cells? 0 (a.add (i*k)) k=some cs'∧nC w (F r) cs'∧∃ u,cs'[0]?=some u∧xR u) len fun i hi=>by
   obtain ⟨cs',h1,h2⟩:=hx i (by omega);obtain ⟨r,g1,g2,g3⟩:=hrow _ _ _ h2 (hwe i hi);rw [hk] at h1;exact ⟨r,g1,cs',h1,g2,g3⟩
  have cell:∀ (i:Nat) (row:List AV) (j:Nat) (c:AV),(l.map F)[i]?=some row→row[j]?=some c→∃ u,w.cell? (a.add (i*k+j))=some u∧RD w (E7 w) c u∧aB c=true:=fun i row j c hi hj=>by
   simp only [List.getElem?_map,Option.map_eq_some_iff] at hi;obtain ⟨r,hr,rfl⟩:=hi;obtain ⟨_,cs',c1,c2,_⟩:=l2 i r hr;obtain ⟨_,c3,c4⟩:=World.cells?_some c1;have hjk:j < k:=by
    have:=(List.getElem?_eq_some_iff.1 hj).1;rw [c2.1,c3] at this;exact this
   have:=c4 j hjk;rw [wG] at this;obtain ⟨u,hu⟩:∃ u,cs'[j]?=some u:=⟨cs'[j]'(by omega),by simp⟩;exact ⟨u,by rw [this,hu],(c2.2 j c u hj hu).1,(c2.2 j c u hj hu).2.1⟩
  refine ⟨l,_,rfl,fun r hr=>?_,by rw [l1]; exact hbn,?_,rfl,rfl⟩
  ·obtain ⟨i,hi⟩:=List.getElem?_of_mem hr;exact (l2 i r hi).1
  ·have:=RD.sl (w:=w) (A:=E7 w) k (l.map F) (some a) cap a (fun i j=>(w.cell? (a.add (i*k+j))).getD undef) (by simp [l1,hl]) (fun hne=>?_) (fun row hr=>?_) (fun i row j c hi hj=>?_) (fun row hr c hc=>?_) (fun i row j c hi hj=>?_)
   ·simpa [l1] using this
   ·have hlen:0 < l.length:=List.length_pos_iff.2 fun e=>hne (by simp [e]);obtain ⟨_,cs',c1,c2,u,c3,c4⟩:=l2 0 l[0] (by simp);have:=(World.cells?_some c1).2.2 0 h0;rw [c3,Nat.zero_mul,xW,xW] at this;obtain ⟨q1,q2⟩:=ab9 hT this c4;exact ⟨rfl,q1,q2⟩
   ·simp only [List.mem_map] at hr;obtain ⟨r,hr,rfl⟩:=hr;obtain ⟨i,hi⟩:=List.getElem?_of_mem hr;obtain ⟨_,cs',c1,c2,_⟩:=l2 i r hi;rw [c2.1];exact (World.cells?_some c1).2.1
   ·obtain ⟨u,q1,_⟩:=cell i row j c hi hj;rw [q1]; rfl
   ·obtain ⟨i,hi⟩:=List.getElem?_of_mem hr;obtain ⟨j,hj⟩:=List.getElem?_of_mem hc;obtain ⟨u,_,_,q⟩:=cell i row j c hi hj;exact q
   ·obtain ⟨u,q1,q2,_⟩:=cell i row j c hi hj;rw [q1]; exact q2
theorem aaA {n:Nat} {cs:List Value} {x:DataW H × List MemPlace} (h:Tr w enc n 75 cs=some x) (_:rp 75 x.1):∃ r:Nat,r < 4294967296∧nC w [U (r:Int)] cs∧∃ u,cs[0]?=some u∧xR u:=by
 obtain ⟨z,rfl,rfl,hw⟩:=DataW.trod_int Tryz.underlying75 h;simp only [Lit.wf,Bool.and_eq_true,decide_eq_true_eq] at hw;have h1:(0:Int)≤z:=hw.1;have h2:z≤4294967295:=hw.2;obtain ⟨m,rfl⟩:∃ m:Nat,z=m:=⟨z.toNat,by omega⟩;exact ⟨m,by omega,.one (.v _ rfl) rfl rfl,_,rfl,rfl⟩
theorem aaB {n:Nat} {cs:List Value} {x:DataW H × List MemPlace} (h:Tr w enc n 3 cs=some x) (_:rp 3 x.1):∃ r:Int,True∧nC w [I r] cs∧∃ u,cs[0]?=some u∧xR u:=by
 obtain ⟨z,rfl,rfl,hw⟩:=DataW.trod_int Tryz.underlying3 h;exact ⟨z,trivial,.one (.v _ rfl) rfl rfl,_,rfl,rfl⟩
theorem Wg (hT:y8 w) {n:Nat} {cs:List Value} {x:DataW H × List MemPlace} (h:Tr w enc n 29 cs=some x) (hw:rp 29 x.1):∃ m:List Nat,(Lb m∧m.length < 4611686018427387904)∧nC w [lm m] cs∧∃ u,cs[0]?=some u∧xR u:=by
 obtain ⟨l,v,rfl,h1,h2,h3,h4,h5⟩:=Ea (k:=1) (bs:=4) Tryz.underlying29 (by kernel_rfl) (by decide) (by kernel_rfl) (fun (r:Nat)=>[U (r:Int)]) (fun r=>r < 4294967296) hT (fun n cs' x=>aaA) h hw;refine ⟨l,⟨h1,?_⟩,.one h3 rfl h4,_,rfl,h5⟩;unfold reachBytes at h2;omega
theorem Yg (hT:y8 w) {n:Nat} {cs:List Value} {x:DataW H × List MemPlace} (h:Tr w enc n 71 cs=some x) (hw:rp 71 x.1):∃ m:List Int,True∧nC w [.sl 1 (bw m)] cs∧∃ u,cs[0]?=some u∧xR u:=by
 obtain ⟨l,v,rfl,h1,h2,h3,h4,h5⟩:=Ea (k:=1) (bs:=8) Tryz.underlying71 (by kernel_rfl) (by decide) (by kernel_rfl) (fun (r:Int)=>[I r]) (fun r=>True) hT (fun n cs' x=>aaB) h hw;exact ⟨l,trivial,.one h3 rfl h4,_,rfl,h5⟩
theorem On (hT:y8 w) {n:Nat} {cs:List Value} {x:DataW H × List MemPlace} (h:Tr w enc n 31 cs=some x) (hw:rp 31 x.1):∃ d:Rd,Ok0 d∧nC w (am d) cs∧∃ u,cs[0]?=some u∧xR u:=by
 obtain ⟨y0,y1,y2,m,rfl,hl,h0,h1,h2⟩:=trod_struct3 Tryz.underlying31 h;have hl3:cs.length=3:=hl.trans (by kernel_rfl)
 match cs,hl3 with
 | [a,b,c],_ =>
  have k0:Tr w enc m 4 [a]=some y0:=h0;have k1:Tr w enc m 29 [b]=some y1:=h1;have k2:Tr w enc m 3 [c]=some y2:=h2;have w1:rp 29 y1.1:=fun q hq=>hw q (by simp [DataW.weights,DataW.weightsEach,Tryz.underlying31]; exact .inr (.inl hq));obtain ⟨bb,e0,e1⟩:=DataW.trod_bool Tryz.underlying4 k0;simp only [List.cons.injEq,and_true] at e0;subst e0;obtain ⟨l,⟨q1,q2⟩,q3,_⟩:=Wg hT k1 w1;obtain ⟨z,e2,e3,_⟩:=DataW.trod_int Tryz.underlying3 k2;simp only [List.cons.injEq,and_true] at e2;subst e2;exact ⟨⟨bb,l,z⟩,⟨q1,q2⟩,(nC.one (.v _ rfl) rfl rfl).app (q3.app (.one (.v _ rfl) rfl rfl)),_,rfl,rfl⟩
theorem Yh (hT:y8 w) {n:Nat} {cs:List Value} {x:DataW H × List MemPlace} (h:Tr w enc n 74 cs=some x) (hw:rp 74 x.1):∃ d:Rt,Ok0 d.c∧nC w (en d) cs∧∃ u,cs[0]?=some u∧xR u:=by
 obtain ⟨y0,y1,m,rfl,hl,h0,h1⟩:=trod_struct2 Tryz.underlying74 h;have hl3:cs.length=4:=hl.trans (by kernel_rfl)
 match cs,hl3 with
 | [a,b,c,d],_ =>
  have k0:Tr w enc m 71 [a]=some y0:=h0;have k1:Tr w enc m 31 [b,c,d]=some y1:=h1;have w0:rp 71 y0.1:=fun q hq=>hw q (by simp [DataW.weights,DataW.weightsEach,Tryz.underlying74]; exact .inl hq);have w1:rp 31 y1.1:=fun q hq=>hw q (by simp [DataW.weights,DataW.weightsEach,Tryz.underlying74]; exact .inr hq);obtain ⟨l,_,q3,q4⟩:=Yg hT k0 w0;obtain ⟨d,d1,d2,_⟩:=On hT k1 w1;exact ⟨⟨l,d⟩,d1,q3.app d2,q4⟩
theorem acb (hT:y8 w) {n:Nat} {cs:List Value} {x:DataW H × List MemPlace} (h:Tr w enc n 33 cs=some x) (hw:rp 33 x.1):∃ d:Ri,OkI d∧nC w (aA d) cs∧∃ u,cs[0]?=some u∧xR u:=by
 obtain ⟨y0,y1,y2,m,rfl,hl,h0,h1,h2⟩:=trod_struct3 Tryz.underlying33 h;have hl3:cs.length=7:=hl.trans (by kernel_rfl)
 match cs,hl3 with
 | [a,b,c,d,e,f,g],_ =>
  have k0:Tr w enc m 31 [a,b,c]=some y0:=h0;have k1:Tr w enc m 31 [d,e,f]=some y1:=h1;have k2:Tr w enc m 4 [g]=some y2:=h2;have w0:rp 31 y0.1:=fun q hq=>hw q (by simp [DataW.weights,DataW.weightsEach,Tryz.underlying33]; exact .inl hq);have w1:rp 31 y1.1:=fun q hq=>hw q (by simp [DataW.weights,DataW.weightsEach,Tryz.underlying33]; exact .inr (.inl hq));obtain ⟨d0,p1,p2,p3⟩:=On hT k0 w0;obtain ⟨d1,q1,q2,_⟩:=On hT k1 w1;obtain ⟨bb,e0,e1⟩:=DataW.trod_bool Tryz.underlying4 k2;simp only [List.cons.injEq,and_true] at e0;subst e0;exact ⟨⟨d0,d1,bb⟩,⟨p1,q1⟩,p2.app (q2.app (.one (.v _ rfl) rfl rfl)),p3⟩
theorem Yi (hT:y8 w) {n:Nat} {us:Array Value} {x:DataW H × List MemPlace} (h:Tr w enc n 24 us.toList=some x) (hw:rp 24 x.1):∃ a:Rp,((∀ t ∈ a.terms,Ok0 t.c)∧a.terms.length < 4611686018427387904)∧RD w (E7 w) (bL a) (.agg us):=by
 obtain ⟨y0,y1,m,rfl,hl,h0,h1⟩:=trod_struct2 Tryz.underlying24 h;have hl3:us.toList.length=2:=hl.trans (by kernel_rfl);obtain ⟨cs⟩:=us;simp only at hl3 h0 h1
 match cs,hl3 with
 | [a,b],_ =>
  have k0:Tr w enc m 3 [a]=some y0:=h0;have k1:Tr w enc m 22 [b]=some y1:=h1;have w1:rp 22 y1.1:=fun q hq=>hw q (by simp [DataW.weights,DataW.weightsEach,Tryz.underlying24]; exact .inr hq);obtain ⟨z,e2,e3,_⟩:=DataW.trod_int Tryz.underlying3 k0;simp only [List.cons.injEq,and_true] at e2;subst e2;obtain ⟨l,v,e4,q1,q2,q3,q4,q5⟩:=Ea (k:=4) (bs:=64) Tryz.underlying22 (by kernel_rfl) (by decide) (by kernel_rfl) en (fun t=>Ok0 t.c) hT (fun n cs' x=>Yh hT) k1 w1;simp only [List.cons.injEq,and_true] at e4;subst e4;refine ⟨⟨z,l⟩,⟨q1,by show l.length < _; unfold reachBytes at q2; omega⟩,?_⟩;have rc:nC w [I z,.sl 4 (l.map en)] [.int .i64 z,b]:=(nC.one (.v _ rfl) rfl rfl).app (.one q3 rfl q4);refine .agg _ _ rfl (fun i u hu=>?_) fun i c u hc hu=>?_
  ·have hu':[Value.int .i64 z,b][i]?=some u:=by simpa using hu
   obtain ⟨c,hc⟩:∃ c,[I z,AV.sl 4 (l.map en)][i]?=some c:=⟨_,List.getElem?_eq_getElem (by have:=(List.getElem?_eq_some_iff.1 hu').1; simpa using this)⟩;exact (rc.2 i c u hc hu').2.2
  ·exact (rc.2 i c u hc (by simpa using hu)).1
theorem aaC (hT:y8 w) {n:Nat} {v:Value} {x:DataW H × List MemPlace} (h:Tr w enc n 25 [v]=some x) (hw:rp 25 x.1):∃ l:List Ri,(∀ d ∈ l,OkI d)∧RD w (E7 w) (.sl 7 (bB l)) v:=by
 obtain ⟨l,v',e4,q1,q2,q3,q4,q5⟩:=Ea (k:=7) (bs:=88) Tryz.underlying25 (by kernel_rfl) (by decide) (by kernel_rfl) aA OkI hT (fun n cs' x=>acb hT) h hw;simp only [List.cons.injEq,and_true] at e4;subst e4;exact ⟨l,q1,q3⟩
theorem ap4 {n:Nat} {cs:List Value} {x:DataW H × List MemPlace} (h:Tr w enc n 5 cs=some x) (_:rp 5 x.1):∃ r:Nat,True∧nC w [.v (.int .u8 (r:Int))] cs∧∃ u,cs[0]?=some u∧xR u:=by
 obtain ⟨z,rfl,rfl,hw⟩:=DataW.trod_int Tryz.underlying5 h;simp only [Lit.wf,Bool.and_eq_true,decide_eq_true_eq] at hw;have h1:(0:Int)≤z:=hw.1;obtain ⟨r,rfl⟩:∃ m:Nat,z=m:=⟨z.toNat,by omega⟩;exact ⟨r,trivial,.one (.v _ rfl) rfl rfl,_,rfl,rfl⟩
theorem apS (hT:y8 w) {n:Nat} {v:Value} {x:DataW H × List MemPlace} (h:Tr w enc n 42 [v]=some x) (hw:rp 42 x.1):∃ l:List Nat,True∧RD w (E7 w) (.sl 1 (u8R l)) v:=by
 obtain ⟨l,v',e4,q1,q2,q3,q4,q5⟩:=Ea (k:=1) (bs:=1) Tryz.underlying42 (by kernel_rfl) (by decide) (by kernel_rfl) (fun (r:Nat)=>[.v (.int .u8 (r:Int))]) (fun _=>True) hT (fun n cs' x=>ap4) h hw;simp only [List.cons.injEq,and_true] at e4;subst e4;exact ⟨l,trivial,q3⟩
end
theorem Bi {args:List AV} {vals:Array Value} (h:vals.size=args.length) {i:Nat} {c:AV} (hc:args[i]?=some c):∃ u,vals[i]?=some u:=by
 have:i < args.length:=(List.getElem?_eq_some_iff.1 hc).1;exact ⟨vals[i]'(by omega),by simp [h,this]⟩
theorem aid {vals:Array Value} {a:Value} (h:vals.size=1) (h0:vals[0]?=some a):vals=#[a]:=by
 apply Array.ext_getElem?;intro i
 match i with
 | 0=>simpa using h0
 | i+1=>simp [h]
theorem aie {vals:Array Value} {a b:Value} (h:vals.size=2) (h0:vals[0]?=some a) (h1:vals[1]?=some b):vals=#[a,b]:=by
 apply Array.ext_getElem?;intro i
 match i with
 | 0=>simpa using h0
 | 1=>simpa using h1
 | i+2=>simp [h]
theorem KG {w:World} {a:Addr} {us:Array Value} {e:TypeId} (h:w.heap[a.block]?=some (.cells us e (0,0))):w.frozen? a=false:=by
 simp [World.frozen?,h]
theorem aaD {P:Program} (w:World) (tS tR e:TypeId) (ht:P.underlying tS=some (.slice e)) (size:Nat) (hz:∀ w,(Go.sizeOf e).run P w=.ok size w) (a:Addr) (b:Option Addr) (la ca cb:Nat) :
  (Extern.SlicesOverlaps.overlaps #[tS,tS] #[tR] #[.slice (some a) la ca,.slice b 0 cb]).run P w=.ok (.bool false) w:=by
 change Sem.run P (α:=Value) (do
  let some t := (#[tS, tS] : Array TypeId)[0]? | stuck "slices.overlaps: no parameter types"
  let .slice elem ← underlying t | stuck "slices.overlaps: slice type expected"
  let size ← sizeOf elem
  match (some a:Option Addr),b with
  | some a,some b =>
   if la=0∨0=0∨size=0 then pure (Value.bool false)
   else if a.block != b.block && (← frozen a) && (← frozen b) then unsupported .addressObserved
   else do
    if a.block != b.block then do
     noView a; noView b
     if ← mayBeOne a b then return Value.bool ((← choose (.extern "sameAddr.stringBytes" 2)) == 1)
    pure (Value.bool (a.block == b.block && a.off < b.off+0*size && b.off < a.off+la*size))
  | _,_=>pure (Value.bool false)) w=_
 cases b <;> simp [run_underlying ht,hz]
theorem acd {P:Program} (w:World) (tS tR e:TypeId) (ht:P.underlying tS=some (.slice e)) (size:Nat) (hz:∀ w,(Go.sizeOf e).run P w=.ok size w)
  (a b:Addr) (la ca lb cb:Nat) (hne:a.block ≠ b.block) (tA:TypeId) (kA:Nat) {us:Array Value} {tB:TypeId}
  (hkA:kA ≠ 0) (hsa:w.shape? a.block=some (tA,kA)) (hb:w.heap[b.block]?=some (.cells us tB (0,0))) (hu:us.size ≠ 0) :
  (Extern.SlicesOverlaps.overlaps #[tS,tS] #[tR] #[.slice (some a) la ca,.slice (some b) lb cb]).run P w=.ok (.bool false) w:=by
 have hnb:(a.block != b.block)=true:=by simpa using hne
 have hnb':(a.block == b.block)=false:=by simpa using hne
 have hsb:w.shape? b.block=some (tB,us.size):=by simp [World.shape?,hb]
 have hfb:w.frozen? b=false:=KG hb;have hfe:w.frozen? { block:=b.block,off:=us.size }=false:=KG (a:=⟨b.block,us.size,none⟩) hb;change Sem.run P (α:=Value) (do
  let some t := (#[tS, tS] : Array TypeId)[0]? | stuck "slices.overlaps: no parameter types"
  let .slice elem ← underlying t | stuck "slices.overlaps: slice type expected"
  let size ← sizeOf elem
  match (some a:Option Addr),(some b:Option Addr) with
  | some a,some b =>
   if la=0∨lb=0∨size=0 then pure (Value.bool false)
   else if a.block != b.block && (← frozen a) && (← frozen b) then unsupported .addressObserved
   else do
    if a.block != b.block then do
     noView a; noView b
     if ← mayBeOne a b then return Value.bool ((← choose (.extern "sameAddr.stringBytes" 2)) == 1)
    pure (Value.bool (a.block == b.block && a.off < b.off+lb*size && b.off < a.off+la*size))
  | _,_=>pure (Value.bool false)) w=_
 by_cases h0:la=0∨lb=0∨size=0
 ·simp [run_underlying ht,hz,h0]
 ·obtain ⟨n,hn⟩:∃ n,us.size=n+1:=⟨us.size - 1,by omega⟩;rw [hn] at hsb hfe;obtain ⟨kA,rfl⟩:∃ k,kA=k+1:=⟨kA - 1,by omega⟩;cases hfa:w.frozen? a <;> cases hfa2:w.frozen? { block:=a.block,off:=kA+1 } <;>
   simp [run_underlying ht,hz,h0,hnb,hnb',frozen,noView,viewAt,mayBeOne,stringish,shape,Sem.run,hsa,hsb,hfa,hfa2,hfb,hfe]
theorem TG {w:World} {a:Addr} {v:Value} (h:w.cell? a=some v):∃ t k,k ≠ 0∧w.shape? a.block=some (t,k):=by
 unfold World.cell? at h;split at h
 ·rename_i cs t fr hb;refine ⟨t,cs.size,fun h0=>?_,by unfold World.shape?; rw [hb]⟩;split at h
  ·cases h
  ·have:=(Array.getElem?_eq_some_iff.1 h).1;omega
 ·cases h
theorem ace {P : Program} {I : Inv} {f : FuncId} {fn : Func} {tS tR e : TypeId} {size : Nat} (hf : P.funcs[f]? = some fn) (hname : (fn.name == "runtime.NumGoroutine") = false) (hb : fn.body.isNone = true) (hn : Extern.findNext fn = none)
  (he:Extern.find fn=some (Extern.SlicesOverlaps.overlaps #[tS,tS] #[tR])) (ht:P.underlying tS=some (.slice e)) (hz:∀ w,(Go.sizeOf e).run P w=.ok size w):kT P I false f (Qm 4):=by
 intro args obs obs' res w X ρ vals n hz' hn' hi hr hs hv;unfold Qm at hz';split at hz'
 ·rename_i k0 row rows k1 lo m k2 rows2;split at hz'
  ·rename_i hk;obtain ⟨rfl,rfl,rfl⟩:=hk;cases hz';obtain ⟨u0,h0⟩:=Bi hs (i:=0) rfl;obtain ⟨u1,h1⟩:=Bi hs (i:=1) rfl;have e0:=hv 0 _ _ rfl h0;have e1:=hv 1 _ _ rfl h1;obtain rfl:=aie hs h0 h1;have d0:=e0.sl_inv;obtain ⟨a1,cap1,rfl,hp,hn1,hb1,ha1⟩:=e1.rsl_inv;have ho:RO w (aD w X (aj [.ar 4 rows2]) ρ) ρ (aj [.ar 4 rows2]) 1000 (.ar 4 rows2):=hr.ob 1000;obtain ⟨us,tB,g1,g2,g3,g4⟩:=ho;have hlive:live (aj [.ar 4 rows2]) 1000 none:=trivial;cases d0 with
   | sl _ _ a cap ad vs hc ha hk hv2 hl hr2 =>
    obtain ⟨rfl,hA,hsp⟩:=ha (by simp);have hlen:=hk row (by simp);obtain ⟨c,hrow⟩:∃ c,row[0]?=some c:=⟨row[0]'(by omega),by simp⟩;have hcell:=hv2 0 row 0 c rfl hrow;obtain ⟨tA,kA,hkA,hsh⟩:=TG hcell;rw [jW] at hsh;have run:(callFunc f #[.slice (some ad) (row::rows).length cap,.slice a1 m cap1]).run P w=.ok (.value (.bool false)) w:=by
     rw [run_callFunc_extern hf hname hb hn he];by_cases hm:m=0
     ·subst hm;rw [aaD w tS tR e ht size hz];rfl
     ·rcases ha1 with h | rfl
      ·omega
      ·rw [acd w tS tR e ht size hz ad ⟨(ρ 1000 none).1,lo*4,none⟩ _ cap m cap1 (fun hh=>hA.2.2 ⟨1000,none,hlive,hh.symm⟩) tA kA hkA hsh g1 (by omega)];rfl
    unfold Enters;rw [run];exact ⟨ρ,hr,.refl _ _ _ _,.dat (.v _ rfl)⟩
  ·cases hz'
 ·cases hz'
theorem aaE {P:Program} {I:Inv} (hR:kT P I false F.slices_Insert_api_Term_api_Term_ (R0 F.slices_Insert_api_Term_api_Term_)):kT P I false F.slices_Insert_api_Term_api_Term_ (WU 4 64):=by
 intro args obs obs' res w X ρ vals n hz hn hi hr hs hv;unfold WU at hz;split at hz
 ·rename_i k0 r;split at hz
  ·rename_i hk;subst hk;cases hz;exact hR aaw hn hi hr hs hv
  ·cases hz
 ·rename_i k1 m i k0 r k2 rows;split at hz
  ·rename_i hk;obtain ⟨rfl,rfl,rfl,rfl,hi0,hi1,hb⟩:=hk;cases hz;obtain ⟨i,rfl⟩:=Int.eq_ofNat_of_zero_le hi0;rw [Int.toNat_natCast];by_cases hend:i=rows.length
   ·subst hend;have:=hR (Wd (r:=r) rfl hb) hn hi hr hs hv;rw [List.take_of_length_le (Nat.le_refl _),List.drop_eq_nil_of_le (Nat.le_refl _)];exact this
   ·have hlt:i < rows.length:=by omega
    obtain ⟨u0,h0⟩:=Bi hs (i:=0) rfl;obtain ⟨a,cap,rfl,hp,hn1,hb1,ha⟩:=(hv 0 _ _ rfl h0).rsl_inv;have hv':∀ (j:Nat) (c:AV) (u:Value),[AV.rsc 1000 4 0 rows.length cap,.v (.int .i64 i),.sl 4 [r]][j]?=some c→vals[j]?=some u→RV w (aD w X (aj [.ar 4 rows]) ρ) ρ (aj [.ar 4 rows]) c u:=by
     intro j c u hc hu
     match j,hc with
     | 0,hc =>
      cases hc;rw [h0] at hu;cases hu;exact .rsc 1000 4 0 _ cap a hp hn1 hb1 ha
     | j+1,hc=>exact hv (j+1) c u hc hu
    rcases Nat.lt_or_ge rows.length cap with hc | hc
    ·exact hR (aaz rfl hlt hc hb) hn hi hr hs hv'
    ·obtain rfl:cap=rows.length:=by omega
     refine (hR (aay rfl hlt hb) hn hi hr hs hv').mono fun v w' ⟨ρ',q1,q2,q3⟩=>?_;generalize rows.take i++r::rows.drop i=L at q1 q2 q3 ⊢;have hd:=Gr q1 (id:=1000) (k:=4) (rows:=rows) (by
      show (if 1000=n then _ else _)=_;rw [if_neg (by omega)];rfl)
     have eq:upd (mat n (aj [.ar 4 rows]) (.osl 4 L)).2 1000 .dead=(mat n (aj [.dead]) (.osl 4 L)).2:=by
      show upd (upd (aj [.ar 4 rows]) n (.ar 4 L)) 1000 .dead=upd (aj [.dead]) n (.ar 4 L);rw [sG,sG];funext j;unfold upd;by_cases h1:j=1000
      ·rw [if_pos h1,if_neg (by omega),if_pos h1]
      ·rw [if_neg h1,if_neg h1,if_neg h1]
     rw [eq] at hd;refine ⟨ρ',hd.1,q2.trans (hd.2.far rfl),hd.2.rvk q3 (.inr ?_)⟩;show fR [(1000,false)] n none=false;simp [fR];omega
  ·cases hz
 ·cases hz
theorem KH {w w':World} {X:Nat→Prop} {ρ:bq} (hr:Rel w X ρ (aj [])) (hb:Below w.heap.size w w'):Rel w' X ρ (aj [])∧Far false w ρ (aj []) w' ρ (aj []):=by
 have hl:∀ id sub,¬ live (aj []) id sub:=fun id sub=>by
  have hd:aj [] id=.dead:=by
   unfold aj;split <;> simp
  cases sub with
  | none=>simp [live,hd]
  | some p=>simp [live,hd]
 refine ⟨⟨fun id sub _ _ h=>(hl id sub h).elim,fun id sub h=>(hl id sub h).elim,fun id=>?_,fun b hb'=>Nat.lt_of_lt_of_le (hr.xl b hb') hb.size⟩,hb.os,hb.tape,hb.output,hb.size,fun b h1 _=>hb.block b h1,fun b ⟨id,sub,h,_⟩=>(hl id sub h).elim,fun id _ h=>?_,fun h=>by cases h⟩
 ·have hd:aj [] id=.dead:=by
   unfold aj;split <;> simp
  rw [hd];trivial
 ·exfalso;apply h;unfold aj;split <;> simp
theorem acf {P:Program} {I:Inv} {ρ0:Ren} (L:Lays2.n15 P ρ0) (hf:ρ0.f 15=F.slices_Clone_int_int_) (he:∀ a w,(callFunc F.slices_Clone_int_int_ a).run P w=.ok (.enter F.slices_Clone_int_int_ a) w)
  (hR:kT P I false F.slices_Clone_int_int_ (R0 F.slices_Clone_int_int_)):kT P I false F.slices_Clone_int_int_ clF:=by
 intro args obs obs' res w X ρ vals n hz hn hi hr hs hv;unfold clF at hz;split at hz
 ·cases hz;obtain ⟨u0,h0⟩:=Bi hs (i:=0) rfl;have d0:=(hv 0 _ _ rfl h0).sl_inv;obtain rfl:=aid hs h0;cases d0 with
  | sl _ _ a cap ad vs hc ha hk hv2 hl hr2 =>
   unfold Enters;rw [he];have fin:∀ (w':World) (b:Option Addr) (c:Nat),Below w.heap.size w w'→∃ ρ',Rel w' X ρ' (mat n (aj []) (.sl 1 [])).2∧Far false w ρ (aj []) w' ρ' (mat n (aj []) (.sl 1 [])).2 ∧
     RV w' (aD w' X (mat n (aj []) (.sl 1 [])).2 ρ') ρ' (mat n (aj []) (.sl 1 [])).2 (mat n (aj []) (.sl 1 [])).1 (.slice b 0 c):=fun w' b c hb =>
    ⟨ρ,(KH hr hb).1,(KH hr hb).2,.dat (.sl 1 [] b c ad vs (Nat.zero_le _) (fun h=>absurd rfl h) (fun _ h=>by cases h) (fun i row j c h=>by simp at h) (fun _ h=>by cases h) (fun i row j c h=>by simp at h))⟩
   cases a with
   | none =>
    have key:=Any.slices_Clone_int_nil L 0 cap w;rw [hf] at key;refine Calls.mono key fun e w' hw=>?_;obtain ⟨rfl,rfl⟩:=hw;exact fin _ _ _ (Below.refl _ _)
   | some a0 =>
    have key:=Any.slices_Clone_int_zero L a0 cap w;rw [hf] at key;refine Calls.mono key fun e w' hw=>?_;obtain ⟨v',rfl,⟨_,hown⟩,_,hb⟩:=hw;rcases hown with ⟨rfl,_⟩ | ⟨g,c2,cur,rfl,_⟩
    ·exact fin _ _ _ hb
    ·exact fin _ _ _ hb
 ·rename_i r rs;split at hz
  ·rename_i hb;cases hz;exact hR (Ye hb) hn hi hr hs hv
  ·cases hz
 ·cases hz
abbrev TX (f:Nat) (fd:FD):Prop:=Text Go.Proofs.Tryz.prog f fd
theorem tx {f : Nat} {fd : FD} {fn : Func} (h : Go.Proofs.Tryz.prog.funcs[f]? = some fn) (h2 : (fn.body.bind fun c => fK Go.Proofs.Tryz.prog fn.ntmps c fd.body, As Go.Proofs.Tryz.prog fn.results.toList, decide (fn.ntmps ≤ 1000), fn.name == "runtime.NumGoroutine") = (some fd.body, some fd.res, true, false)) : TX f fd := by
 simp only [Prod.mk.injEq,Option.bind_eq_some_iff,decide_eq_true_eq] at h2;obtain ⟨⟨c,h3,h4⟩,h5,h6,h7⟩:=h2;exact ⟨⟨fn,c,_,h,h3,rfl,h6,h4,h5,h7⟩⟩
theorem tn:∀ p ∈ ([]:List (Nat × FD)),TX p.1 p.2:=fun _ h=>by cases h
theorem tc {f:Nat} {fd:FD} {l:List (Nat × FD)} (h1:TX f fd) (h2:∀ p ∈ l,TX p.1 p.2):∀ p ∈ (f,fd)::l,TX p.1 p.2:=fun p hp=>by
 rcases List.mem_cons.1 hp with rfl | hp
 ·exact h1
 ·exact h2 p hp
set_option maxRecDepth 100000 in
theorem Oo:∀ p ∈ YB,TX p.1 p.2:=tc (tx func5 (by kernel_rfl)) (tc (tx func9 (by kernel_rfl)) (tc (tx func10 (by kernel_rfl)) (tc (tx func11 (by kernel_rfl)) (tc (tx func12 (by kernel_rfl)) (tc (tx func13 (by kernel_rfl)) (tc (tx func14 (by kernel_rfl)) (tc (tx func15 (by kernel_rfl)) (tc (tx func18 (by kernel_rfl)) (tc (tx func21 (by kernel_rfl)) (tc (tx func22 (by kernel_rfl)) (tc (tx func23 (by kernel_rfl)) (tc (tx func24 (by kernel_rfl)) (tc (tx func26 (by kernel_rfl)) (tc (tx func27 (by kernel_rfl)) (tc (tx func32 (by kernel_rfl)) (tc (tx func34 (by kernel_rfl)) (tc (tx func35 (by kernel_rfl)) (tc (tx func38 (by kernel_rfl)) (tc (tx func40 (by kernel_rfl)) (tc (tx func41 (by kernel_rfl)) (tc (tx func42 (by kernel_rfl)) (tc (tx func44 (by kernel_rfl)) (tc (tx func46 (by kernel_rfl)) (tc (tx func47 (by kernel_rfl)) (tc (tx func48 (by kernel_rfl)) (tc (tx func49 (by kernel_rfl)) (tc (tx func50 (by kernel_rfl)) (tc (tx func51 (by kernel_rfl)) (tc (tx func52 (by kernel_rfl)) (tc (tx func53 (by kernel_rfl)) (tc (tx func54 (by kernel_rfl)) (tc (tx func55 (by kernel_rfl)) (tc (tx func56 (by kernel_rfl)) (tc (tx func57 (by kernel_rfl)) (tc (tx func58 (by kernel_rfl)) (tc (tx func59 (by kernel_rfl)) (tc (tx func60 (by kernel_rfl)) (tc (tx func61 (by kernel_rfl)) (tc (tx func64 (by kernel_rfl)) (tc (tx func65 (by kernel_rfl)) (tc (tx func66 (by kernel_rfl)) (tc (tx func67 (by kernel_rfl)) (tc (tx func68 (by kernel_rfl)) (tc (tx func69 (by kernel_rfl)) (tc (tx func70 (by kernel_rfl)) (tc (tx func71 (by kernel_rfl)) (tc (tx func72 (by kernel_rfl)) (tc (tx func73 (by kernel_rfl)) (tc (tx func74 (by kernel_rfl)) (tc (tx func75 (by kernel_rfl)) (tc (tx func76 (by kernel_rfl)) (tc (tx func77 (by kernel_rfl)) (tc (tx func78 (by kernel_rfl)) (tc (tx func79 (by kernel_rfl)) (tc (tx func82 (by kernel_rfl)) (tc (tx func83 (by kernel_rfl)) (tc (tx func84 (by kernel_rfl)) (tc (tx func88 (by kernel_rfl)) (tc (tx func89 (by kernel_rfl)) (tc (tx func90 (by kernel_rfl)) (tc (tx func91 (by kernel_rfl)) (tc (tx func92 (by kernel_rfl)) (tc (tx func93 (by kernel_rfl)) (tc (tx func94 (by kernel_rfl)) (tc (tx func95 (by kernel_rfl)) (tc (tx func98 (by kernel_rfl)) (tc (tx func99 (by kernel_rfl)) (tc (tx func100 (by kernel_rfl)) (tc (tx func101 (by kernel_rfl)) (tc (tx func102 (by kernel_rfl)) (tc (tx func103 (by kernel_rfl)) (tc (tx func104 (by kernel_rfl)) (tc (tx func105 (by kernel_rfl)) (tc (tx func106 (by kernel_rfl)) (tc (tx func107 (by kernel_rfl)) (tc (tx func108 (by kernel_rfl)) (tc (tx func109 (by kernel_rfl)) (tc (tx func110 (by kernel_rfl)) (tc (tx func111 (by kernel_rfl)) (tc (tx func112 (by kernel_rfl)) (tc (tx func113 (by kernel_rfl)) (tc (tx func114 (by kernel_rfl)) (tc (tx func115 (by kernel_rfl)) (tc (tx func116 (by kernel_rfl)) (tc (tx func117 (by kernel_rfl)) (tc (tx func118 (by kernel_rfl)) (tc (tx func119 (by kernel_rfl)) (tc (tx func120 (by kernel_rfl)) (tc (tx func121 (by kernel_rfl)) (tc (tx func122 (by kernel_rfl)) (tc (tx func123 (by kernel_rfl)) (tc (tx func124 (by kernel_rfl)) (tc (tx func125 (by kernel_rfl)) (tc (tx func126 (by kernel_rfl)) (tc (tx func127 (by kernel_rfl)) (tc (tx func128 (by kernel_rfl)) (tc (tx func129 (by kernel_rfl)) (tc (tx func130 (by kernel_rfl)) (tc (tx func131 (by kernel_rfl)) (tc (tx func132 (by kernel_rfl)) (tc (tx func133 (by kernel_rfl)) (tc (tx func134 (by kernel_rfl)) (tc (tx func135 (by kernel_rfl)) (tc (tx func136 (by kernel_rfl)) (tc (tx func137 (by kernel_rfl)) (tc (tx func139 (by kernel_rfl)) (tc (tx func142 (by kernel_rfl)) (tc (tx func145 (by kernel_rfl)) (tc (tx func146 (by kernel_rfl)) (tc (tx func148 (by kernel_rfl)) (tc (tx func149 (by kernel_rfl)) (tc (tx func150 (by kernel_rfl)) (tc (tx func151 (by kernel_rfl)) (tc (tx func152 (by kernel_rfl)) (tc (tx func153 (by kernel_rfl)) (tc (tx func154 (by kernel_rfl)) (tc (tx func155 (by kernel_rfl)) (tc (tx func156 (by kernel_rfl)) (tc (tx func157 (by kernel_rfl)) (tc (tx func158 (by kernel_rfl)) (tc (tx func159 (by kernel_rfl)) (tc (tx func160 (by kernel_rfl)) (tc (tx func161 (by kernel_rfl)) (tc (tx func162 (by kernel_rfl)) (tc (tx func163 (by kernel_rfl)) (tc (tx func164 (by kernel_rfl)) (tc (tx func165 (by kernel_rfl)) (tc (tx func166 (by kernel_rfl)) (tc (tx func167 (by kernel_rfl)) (tc (tx func168 (by kernel_rfl)) (tc (tx func169 (by kernel_rfl)) (tc (tx func170 (by kernel_rfl)) (tc (tx func171 (by kernel_rfl)) (tc (tx func172 (by kernel_rfl)) (tc (tx func173 (by kernel_rfl)) (tc (tx func177 (by kernel_rfl)) (tc (tx func178 (by kernel_rfl)) (tc (tx func179 (by kernel_rfl)) (tc (tx func180 (by kernel_rfl)) (tc (tx func181 (by kernel_rfl)) (tc (tx func182 (by kernel_rfl)) (tc (tx func183 (by kernel_rfl)) (tc (tx func184 (by kernel_rfl)) (tc (tx func185 (by kernel_rfl)) (tc (tx func186 (by kernel_rfl)) (tc (tx func187 (by kernel_rfl)) (tc (tx func188 (by kernel_rfl)) (tc (tx func189 (by kernel_rfl)) (tc (tx func190 (by kernel_rfl)) (tc (tx func191 (by kernel_rfl)) (tc (tx func192 (by kernel_rfl)) (tc (tx func194 (by kernel_rfl)) (tc (tx func195 (by kernel_rfl)) (tc (tx func196 (by kernel_rfl)) (tc (tx func197 (by kernel_rfl)) (tc (tx func198 (by kernel_rfl)) (tc (tx func199 (by kernel_rfl)) (tc (tx func202 (by kernel_rfl)) (tc (tx func203 (by kernel_rfl)) (tc (tx func204 (by kernel_rfl)) (tc (tx func205 (by kernel_rfl)) (tc (tx func206 (by kernel_rfl)) (tc (tx func207 (by kernel_rfl)) (tc (tx func208 (by kernel_rfl)) (tc (tx func210 (by kernel_rfl)) (tc (tx func211 (by kernel_rfl)) (tc (tx func212 (by kernel_rfl)) (tc (tx func213 (by kernel_rfl)) (tc (tx func214 (by kernel_rfl)) (tc (tx func215 (by kernel_rfl)) (tc (tx func218 (by kernel_rfl)) (tc (tx func219 (by kernel_rfl)) (tc (tx func220 (by kernel_rfl)) (tc (tx func221 (by kernel_rfl)) (tc (tx func222 (by kernel_rfl)) (tc (tx func223 (by kernel_rfl)) (tc (tx func224 (by kernel_rfl)) (tc (tx func225 (by kernel_rfl)) (tc (tx func226 (by kernel_rfl)) (tc (tx func227 (by kernel_rfl)) (tn)))))))))))))))))))))))))))))))))))))))))))))))))))))))))))))))))))))))))))))))))))))))))))))))))))))))))))))))))))))))))))))))))))))))))))))))))))))))))))))))))))))))))))))))))))))
end Go.Ab
