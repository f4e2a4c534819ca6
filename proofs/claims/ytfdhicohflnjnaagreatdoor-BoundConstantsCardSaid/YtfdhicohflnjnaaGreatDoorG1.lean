/-
  A law of ranges holds at every input that the statement speaks of, under the conditions that its card names. Part G1.
-/
import Derived.Test.YtfdhicohflnjnaaGreatDoorProg
import Derived.Shelf.Spec.TrailingZeros
import Derived.Test.YtfdhicohflnjnaaGreatDoorRows
import Derived.Deep.Strs
import Derived.ProofKit
import Derived.LaidMore
import Derived.OpenShut
import Derived.Carry
import Derived.Lib.Overlaps
import Derived.Laws.Externs
import Derived.Shelf.Slices.Clone
import Derived.Test.YtfdhicohflnjnaaGreatDoorF1
open Nat renaming reduceAdd → auz, reduceMul → auA, reduceLeDiff → auB, reduceLT → auC, reduceBEq → auD
open Int renaming reduceLT → auE, reduceToNat → auF, reduceLE → auG
namespace Go.Ab
open Go Go.IntWalk
set_option maxRecDepth 4000
set_option maxHeartbeats 1000000
theorem RX {a:AV} (h:aA a=true):dM a=[]:=by cases a <;> simp [aA] at h <;> rfl
theorem Vp {a:AV} (h:aA a=true) (l:List Nat):bj l a=true:=by cases a <;> simp [aA] at h <;> simp [bj,h]
theorem RY {a:AV} (h:aA a=true) (g:Nat→Nat):iw g a=a:=by cases a <;> simp [aA] at h <;> rfl
theorem Am {α β:Type} {f:α→List β}:∀ {l:List α},(∀ x ∈ l,f x=[])→l.flatMap f=[]
 | [],_=>rfl
 | x::l,h=>by
  rw [List.flatMap_cons,h x (by simp),Am fun y hy=>h y (by simp [hy])]
  rfl
theorem Vq {a:AV} (h:dat a=true):bI a=[]:=by
 cases a <;> simp only [dat] at h <;> first | exact RX h | skip
 ·rename_i cs
  exact Am fun x hx=>RX (List.all_eq_true.1 h x hx)
 ·rename_i f x y
  simp [aA] at h
  obtain ⟨rfl,rfl⟩:=h
  rfl
theorem aaH {a:AV} (h:dat a=true) (l:List Nat):aZ l a=true:=by
 cases a <;> simp only [dat] at h <;> first | exact Vp h l | skip
 ·rename_i cs
  simp only [aZ,List.all_eq_true]
  exact fun x hx=>Vp (List.all_eq_true.1 h x hx) l
 ·rename_i f x y
  simp [aA] at h
  obtain ⟨rfl,rfl⟩:=h
  rfl
theorem Vr {a:AV} (h:dat a=true) (g:Nat→Nat):dh g a=a:=by
 cases a <;> simp only [dat] at h <;> first | exact RY h g | skip
 ·rename_i cs
  show AV.agg (cs.map (iw g))=_
  rw [(List.map_congr_left (g:=fun c=>c) fun x hx=>RY (List.all_eq_true.1 h x hx) g).trans (List.map_id' cs)]
 ·rename_i f x y
  simp [aA] at h
  obtain ⟨rfl,rfl⟩:=h
  rfl
theorem ajm {a:AV} (h:dat a=true) (hp:ab):ct hp 0 a=some (a,hp,[]):=by
 by_cases hagg:∃ cs,a=.agg cs
 ·obtain ⟨cs,rfl⟩:=hagg
  simp only [dat] at h
  simp only [ct,pp]
  rw [iM h hp]
  rfl
 ·have h2:aA a=true:=by cases a <;> first | exact h | exact absurd ⟨_,rfl⟩ hagg
  cases a <;> first | (simp [aA] at h2; done) | rfl | skip
theorem Dy (hp:ab):∀ {l:List AV},l.all dat=true→bH hp [] l=some (l,hp,[])
 | [],_=>rfl
 | a::l,h=>by
  simp only [List.all_cons,Bool.and_eq_true] at h
  simp only [bH,List.headD_nil,ajm h.1,Option.bind_some,List.tail_nil,Dy hp h.2,List.append_nil]
structure OC (o:Ob):Prop where
 cl:∀ l,aT l o=true
 ids:j8 o=[]
 ren:∀ g,cY g o=o
 nd:cf o=false
structure RT (r:AV):Prop where
 ren:∀ g,zf g r=r
 mat:∀ n h,mat n h r=(r,h)
 ok:∀ l,fG l r=true
theorem sL:∀ l:List AV,mR [] l=[]
 | []=>rfl
 | a::l=>by
  show (if (0:Nat)=2 then _ else [])++mR [] l=[]
  rw [sL l]
  rfl
theorem An {f:FuncId} {h:ab} {d id:Nat} {zas as':List AV} {o o':Ob} {res:AV} (hm:(aO false).m f=[]) (hk:(aO false).keep f=false) (hn:bg ((aO false).sh f) (.ref id none 0 0 0::zas)=.ref id none 0 0 0::as') (hd:zas.all dat=true) (hd':as'.all dat=true)
  (hh:h id=o) (ho:OC o) (ho':OC o') (hb:bf o=true→bf o'=true) (hR:R f (.ref 1000 none 0 0 0::as') [o]=some (res,[o'])) (hr:RT res) (h8:cx res≤8) (hfr:cV h (2000+8*d) (cx res)=true) :
  bA R (aO false) h d (.ref id none 0 0 0::zas) (.fn f [] [])=some (res,upd h id o',[(id,true)]):=by
 have h1:bH h [] (.ref id none 0 0 0::zas)=some (.ref id none 0 0 0::zas,h,[]):=by
  simp only [bH,ct,Option.bind_some,List.tail_nil,Dy h hd,List.append_nil]
 have hp:bE [] ((AV.ref id none 0 0 0::zas).flatMap bI)=[id]:=by
  rw [List.flatMap_cons,Am fun x hx=>Vq (List.all_eq_true.1 hd x hx)]
  rfl
 have hre:bW h 40 [id] 0=[id]:=by
  simp [bW,hh,ho.ids,bE]
 have h3:bm [id] id=1000:=by simp [bm]
 have hall:(AV.ref id none 0 0 0::as').all (aZ [id])=true:=by
  rw [List.all_cons,Bool.and_eq_true]
  exact ⟨by simp [aZ,bj],List.all_eq_true.2 fun x hx=>aaH (List.all_eq_true.1 hd' x hx) _⟩
 have hmap:(AV.ref id none 0 0 0::as').map (dh (bm [id]))=.ref 1000 none 0 0 0::as':=by
  rw [List.map_cons,(List.map_congr_left (g:=fun c=>c) fun x hx=>Vr (List.all_eq_true.1 hd' x hx) _).trans (List.map_id' as')]
  simp [dh,iw,h3]
 have hob:([id].map fun a=>cY (bm [id]) (h a))=[o]:=by simp [hh,ho.ren]
 have hids:([id].all fun a=>aT [id] (h a) && !cf (h a))=true:=by simp [hh,ho.cl,ho.nd]
 unfold bA
 rw [if_neg (by simp [iY,hm])]
 simp only [dm,hm,List.nil_append,List.append_nil,h1,Option.bind_some,hp,hre,hn]
 unfold ix
 rw [hall,hids,hmap,hob,hR,Bool.and_self,if_pos rfl,Option.bind_some,hk,hm,sL]
 unfold dN
 have hbf:cW h [] [id] [o']=true:=by
  have:=ho'.nd
  cases h5:bf o with
  | false=>simp [cW,hh,h5,this]
  | true=>simp [cW,hh,h5,hb h5,this]
 have hend:pF h [id] [] (res,[o'])=true:=by
  simp [pF,zg,hr.ok,ho'.cl]
 rw [if_pos ⟨rfl,by simp,h8,hfr,hbf,hend⟩]
 simp [dt,eU,hr.mat,hr.ren,ho'.ren]
theorem lu {f:FuncId} {h:ab} {d id:Nat} {zas:List AV} {r:Option R3} (hm:(aO false).m f=[]) (hd:zas.all dat=true) (hc:bA R (aO false) h d (.ref id none 0 0 0::zas) (.fn f [] [])=r):Hr R (aO false) d f (.ref id none 0 0 0::zas,h,[])=r:=by
 have h1:bH h [] (.ref id none 0 0 0::zas)=some (.ref id none 0 0 0::zas,h,[]):=by
  simp only [bH,ct,Option.bind_some,List.tail_nil,Dy h hd,List.append_nil]
 rw [zJ d hm,h1] at hc
 exact hc
theorem Ao {v e:Int} {c:AV} {l:List Rt} (hc:wS c l):OC (t3 v c e):=by
 rcases hc with rfl | ⟨rfl,_⟩
 ·exact ⟨fun l=>rfl,rfl,fun g=>rfl,rfl⟩
 ·exact ⟨fun l=>rfl,rfl,fun g=>rfl,rfl⟩
theorem adJ:RT (.tup []):=⟨fun _=>rfl,fun _ _=>rfl,fun _=>rfl⟩
theorem aaI {v e e':Int} {c c':AV} {l l':List Rt} {h:ab} {d id:Nat} {x:List Int} {q:Rd} (hh:h id=t3 v c e) (hc:wS c l) (hc':wS c' l') (hR:R F.poly_collector_add [.ref 1000 none 0 0 0,.sl 1 (be x),ae q] [t3 v c e]=some (.tup [],[t3 v c' e'])) :
  bA R (aO false) h d [.ref id none 0 0 0,.sl 1 (be x),ae q] (.fn F.poly_collector_add [] [])=some (.tup [],upd h id (t3 v c' e'),[(id,true)]) :=
 An (lV false) (ew false) (as':=[.sl 1 (be x),ae q]) (by rw [yJ]; simp only [ae,aj,go_sem]) rfl rfl hh (Ao hc) (Ao hc') (fun _=>rfl) hR adJ (by decide) rfl
end Go.Ab
namespace Go.Ab
open Go Go.IntWalk
set_option maxRecDepth 4000
set_option maxHeartbeats 1000000
theorem adK {v:Int}:R F.poly_empty [I v] []=some (.obx [I v,.emp,I 0],[]):=by
 refine aE Qm Ql (H1 false) rfl ?_
 simp only [tZ,BJ,go_sem,auz,auB]
 rfl
theorem alK (r:Rp × Int):RT (pV r):=⟨fun _=>rfl,fun _ _=>rfl,fun _=>rfl⟩
theorem IH {h:ab} {o:Ob} {rs:List (List Sh)} {vs us:List AV} {r:AV} (h0:((vs.flatMap bI).filter fun i=>!aY i)=[]) (h1:h 1000=o) (ho:aT [1000] o=true) (h2:nV h vs=some us) (h3:pG (bg rs us)=r):qH rs 1 h vs=some (r,[o]):=by
 have hp:cN 1=[1000]:=rfl
 unfold qH
 rw [h0,hp,h2,if_pos (by simp [gL,h1,ho])]
 simp [h1,h3]
theorem ajn (x:Value):iX (.v x)=.v x:=rfl
theorem adL (k:Nat) (r:List (List AV)):iX (.osl k r)=.sl k r:=rfl
theorem ajo {v e:Int} {l:List Rt}:pG (bg [[.o 0 [],.o 5 [.o 2 [],.o 0 [],.o 2 [],.o 0 []]],[]] [.agg [I v,.sl 4 (bp l)],I e])=pV (⟨v,l⟩,e):=by
 have h:=K2 l
 show AV.tup [.agg [I v,.sl 4 ((bp l).map _)],I e]=_
 rw [h]
 rfl
theorem adM {v e:Int} {c:AV} {l:List Rt} (hc:wS c l) (he:e ≠ 0):R F.poly_collector_done [.ref 1000 none 0 0 0] [t3 v c e]=some (pV (p0,e),[t3 v c e]):=by
 refine te kR kQ (fP false) rfl ?_
 have e1:(e=0)=False:=ff he
 simp only [dA,fq,t3,go_sem,auA,auz,auB,auC,auD,e1]
 exact IH rfl (by rfl) ((Ao hc).cl _) (by rfl) (by rfl)
theorem adN {v:Int} {l:List Rt}:R F.poly_collector_done [.ref 1000 none 0 0 0] [t3 v (.osl 4 (bp l)) 0]=some (pV (Al v (some l)),[if 500 < l.length then t3 v (.osl 4 (bp l)) 0 else .bx [I v,.sl 4 (bp l),I 0]]):=by
 refine te kR kQ (fP false) rfl ?_
 unfold Al
 by_cases h:500 < l.length
 ·have e1:(500 < (l.length:Int))=True:=tt (by omega)
  simp only [if_pos h]
  simp only [dA,fq,t3,go_sem,auA,auz,auB,auC,auD,e1]
  exact IH rfl (by rfl) rfl (by rfl) (by rfl)
 ·have e1:(500 < (l.length:Int))=False:=ff (by omega)
  have k2:(bp l).take l.length=bp l:=List.take_of_length_le (by rw [mH]; exact Nat.le_refl _)
  simp only [if_neg h]
  simp only [dA,fq,t3,go_sem,auA,auz,auB,auC,auD,e1,ajn,adL]
  exact IH rfl (by rfl) rfl (by rfl) ajo
theorem adO {v:Int}:R F.poly_collector_done [.ref 1000 none 0 0 0] [t3 v .emp 0]=some (pV (Al v (some [])),[t3 v .emp 0]):=by
 refine te kR kQ (fP false) rfl ?_
 have e1:((500:Int) < 0)=False:=ff (by decide)
 simp only [dA,fq,t3,go_sem,auA,auz,auB,auC,auD,e1]
 exact IH rfl (by rfl) rfl (by rfl) (by rfl)
theorem Mu {v e:Int} {c:AV} {l:List Rt} {h:ab} {d id:Nat} (hh:h id=t3 v c e) (hc:wS c l) (hf:cV h (2000+8*d) 2=true) :
  ∃ o,bA R (aO false) h d [.ref id none 0 0 0] (.fn F.poly_collector_done [] [])=some (pV (if e=0 then Al v (some l) else (p0,e)),upd h id o,[(id,true)]):=by
 have key:∃ o,OC o∧bf o=true∧R F.poly_collector_done [.ref 1000 none 0 0 0] [t3 v c e]=some (pV (if e=0 then Al v (some l) else (p0,e)),[o]):=by
  by_cases he:e=0
  ·subst he
   rw [if_pos rfl]
   rcases hc with rfl | ⟨rfl,rfl⟩
   ·refine ⟨_,?_,?_,adN⟩
    ·split
     ·exact Ao (.inl rfl)
     ·exact ⟨fun l=>rfl,rfl,fun g=>rfl,rfl⟩
    ·split <;> rfl
   ·exact ⟨_,Ao (.inr ⟨rfl,rfl⟩),rfl,adO⟩
  ·rw [if_neg he]
   exact ⟨_,Ao hc,rfl,adM hc he⟩
 obtain ⟨o,h1,h2,h3⟩:=key
 exact ⟨o,An (gU false) (fP false) (as':=[]) (by rw [x7]; rfl) rfl rfl hh (Ao hc) h1 (fun _=>h2) h3 (alK _) (by show 2≤8; decide) hf⟩
structure ColE (v:Int) (l ts:List Rt) (e:Int) (c':AV) (l':List Rt) (e':Int):Prop where
 c:wS c' l'
 r:(e'=0∧e=0∧uu l ts=some l')∨(e'=9∧(e=0→uu l ts=none))
theorem ColE.fin {v:Int} {ts:List Rt} {c':AV} {l':List Rt} {e':Int} (h:ColE v [] ts 0 c' l' e'):(if e'=0 then Al v (some l') else (p0,e'))=Al v (uu [] ts):=by
 rcases h.r with ⟨h1,_,h2⟩ | ⟨h1,h2⟩
 ·rw [if_pos h1,h2]
 ·rw [h1,if_neg (by decide),h2 rfl]
  rfl
theorem ColE.step {v:Int} {l ts:List Rt} {t:Rt} {c:AV} (hc:wS c l) {e:Int} (he:e=0∨e=9) (hC:e=0→Cl v l∧l.length+ts.length+1≤1000000) (vt:VT v t) {v':Int} :
  ∃ c1 l1 e1,R F.poly_collector_add [.ref 1000 none 0 0 0,.sl 1 (be t.exps),ae t.c] [t3 v' c e]=some (.tup [],[t3 v' c1 e1])∧wS c1 l1∧(e1=0∨e1=9)∧(e1=0→Cl v l1∧l1.length+ts.length≤1000000)∧∀ c' l' e',ColE v l1 ts e1 c' l' e'→ColE v l (t::ts) e c' l' e':=by
 rcases he with rfl | rfl
 ·obtain ⟨h1,h2⟩:=hC rfl
  obtain ⟨c1,l1,e1,g1,g2,g3⟩:=ag2 (v':=v') h1 vt (by omega) hc
  refine ⟨c1,l1,e1,g1,g2,?_,fun h0=>?_,fun c' l' e' h=>⟨h.c,?_⟩⟩
  ·rcases g3 with ⟨g,_⟩ | ⟨g,_⟩
   ·exact .inl g
   ·exact .inr g
  ·rcases g3 with ⟨_,g⟩ | ⟨g,_⟩
   ·have:=GE g
    exact ⟨(Lc h1 vt g).1,by omega⟩
   ·omega
  ·rcases g3 with ⟨g,k⟩ | ⟨g,k,_⟩
   ·subst g
    rcases h.r with ⟨q1,_,q2⟩ | ⟨q1,q2⟩
    ·refine .inl ⟨q1,rfl,?_⟩
     unfold uu
     rw [k]
     exact q2
    ·refine .inr ⟨q1,fun _=>?_⟩
     unfold uu
     rw [k]
     exact q2 rfl
   ·subst g
    rcases h.r with ⟨_,q1,_⟩ | ⟨q1,_⟩
    ·omega
    ·refine .inr ⟨q1,fun _=>?_⟩
     unfold uu
     rw [k]
     rfl
 ·refine ⟨c,l,9,adE hc (by decide),hc,.inr rfl,fun h=>by omega,fun c' l' e' h=>⟨h.c,?_⟩⟩
  rcases h.r with ⟨_,q1,_⟩ | ⟨q1,_⟩
  ·omega
  ·exact .inr ⟨q1,fun h=>by omega⟩
end Go.Ab
namespace Go.Ab
open Go Go.IntWalk
set_option maxRecDepth 4000
set_option maxHeartbeats 1000000
theorem Mv (h:ab) (d:Nat) (v:Int):iG h d (some (.obx [I v,.emp,I 0],[]))=if cf (h (2000+8*d))=true then some (.ref (2000+8*d) none 0 0 0,upd h (2000+8*d) (.bx [I v,.emp,I 0]),[]) else none:=by
 simp [iG,cx,cV,fG,dH,iv,aA,bd,mat,cM]
end Go.Ab
namespace Go.Ab
open Go Go.IntWalk
set_option maxRecDepth 4000
set_option maxHeartbeats 1000000
def t2 (v:Int) (c:AV):Ob:=.bx [I v,c]
end Go.Ab
namespace Go.Ab
open Go Go.IntWalk
set_option maxRecDepth 4000
set_option maxHeartbeats 1000000
end Go.Ab
namespace Go.Ab
open Go Go.IntWalk
set_option maxRecDepth 4000
set_option maxHeartbeats 1000000
end Go.Ab
namespace Go.Ab
open Go Go.IntWalk
set_option maxRecDepth 4000
set_option maxHeartbeats 1000000
end Go.Ab
namespace Go.Ab
open Go Go.IntWalk
set_option maxRecDepth 4000
set_option maxHeartbeats 1000000
def plC (a:Rp):List AV:=[I a.vars,.sl 4 (bp a.terms)]
def plR (l:List Rp):List (List AV):=l.map plC
@[go_sem] theorem asL (l:List Rp):(plR l).length=l.length:=by simp [plR]
@[go_sem] theorem apK (l:List Rt):(bp l).map (cX [.o 2 [],.o 0 [],.o 0 [],.o 0 []])=bp l:=by
 refine tO fun x hx=>?_
 simp only [bp,List.mem_map] at hx
 obtain ⟨t,ht,rfl⟩:=hx
 simp only [cw,go_sem]
@[go_sem] theorem asM (l:List Rp):(plR l).map (cX [.o 0 [],.o 5 [.o 2 [],.o 0 [],.o 0 [],.o 0 []]])=plR l:=by
 refine tO fun x hx=>?_
 simp only [plR,List.mem_map] at hx
 obtain ⟨t,ht,rfl⟩:=hx
 simp only [plC,go_sem]
structure Res (r:Rp × Int):Prop where
 cl:Cl r.1.vars r.1.terms
 len:r.1.terms.length≤100000
 z:r.2=0∨r.1=p0
end Go.Ab
namespace Go.Ab
open Go Go.IntWalk
set_option maxRecDepth 4000
set_option maxHeartbeats 2000000
def cur (a b:List Int) (i:Nat):List Int:=(apJ a b).take i++a.drop i
end Go.Ab
namespace Go.Ab
open Go Go.IntWalk
set_option maxRecDepth 4000
set_option maxHeartbeats 4000000
end Go.Ab
namespace Go.Ab
open Go Go.IntWalk
set_option maxRecDepth 4000
set_option maxHeartbeats 4000000
theorem ColE.app {v:Int} {l r r2:List Rt} {e:Int} {c1:AV} {l1:List Rt} {e1:Int} {c':AV} {l':List Rt} {e':Int} (h1:ColE v l r e c1 l1 e1) (h2:ColE v l1 r2 e1 c' l' e'):ColE v l (r++r2) e c' l' e':=by
 refine ⟨h2.c,?_⟩
 rw [RQ]
 rcases h1.r with ⟨a1,a2,a3⟩ | ⟨a1,a2⟩
 ·rw [a3]
  rcases h2.r with ⟨b1,b2,b3⟩ | ⟨b1,b2⟩
  ·exact .inl ⟨b1,a2,b3⟩
  ·exact .inr ⟨b1,fun _=>b2 a1⟩
 ·rcases h2.r with ⟨b1,b2,b3⟩ | ⟨b1,b2⟩
  ·omega
  ·exact .inr ⟨b1,fun h=>by rw [a2 h]; rfl⟩
theorem ColE.nx {v:Int} {l r:List Rt} {e:Int} {c1:AV} {l1:List Rt} {e1:Int} (h:ColE v l r e c1 l1 e1) (hC:e=0→Cl v l) (hr:∀ t ∈ r,VT v t):(e1=0∨e1=9)∧(e1=0→e=0∧Cl v l1∧l1.length≤l.length+r.length):=by
 rcases h.r with ⟨a1,a2,a3⟩ | ⟨a1,a2⟩
 ·exact ⟨.inl a1,fun _=>⟨a2,Vm (hC a2) hr a3⟩⟩
 ·exact ⟨.inr a1,fun h=>by omega⟩
end Go.Ab
namespace Go.Ab
open Go Go.IntWalk
set_option maxRecDepth 4000
set_option maxHeartbeats 4000000
end Go.Ab
namespace Go.Ab
open Go Go.IntWalk
set_option maxRecDepth 4000
set_option maxHeartbeats 2000000
end Go.Ab
namespace Go.Ab
open Go Go.IntWalk
set_option maxRecDepth 4000
set_option maxHeartbeats 4000000
def IsL (x:AV) (l:List Rt):Prop:=x=.sl 4 (bp l)∨(x=.emp∧l=[])
theorem IsL.keep {x:AV} {l:List Rt} (h:IsL x l) (hs:List Nat):eH hs x=x:=by
 rcases h with rfl | ⟨rfl,_⟩ <;> rfl
end Go.Ab
namespace Go.Ab
open Go Go.IntWalk
set_option maxRecDepth 4000
set_option maxHeartbeats 4000000
end Go.Ab
namespace Go.Ab
open Go Go.IntWalk
set_option maxRecDepth 4000
set_option maxHeartbeats 1000000
end Go.Ab
namespace Go.Ab
open Go Go.IntWalk
set_option maxRecDepth 4000
set_option maxHeartbeats 2000000
theorem ajp {f:FuncId} {fd:FD} {args:List AV} {o:Ob} {r:AV × List Ob} (hE:ah.E f=none) (hC:ah.C f=some fd) (hk:ah.md.keep f=true) (h1:args.length=fd.np)
  (hz:gq true fd.rs fd.res 1 (am R (aO true) fd.body (oT args) (upd (fun _=>.dead) 1000 o))=some r):R f args [o]=some r:=by
 refine HF true hE hC hk h1 (by simp) ?_
 rw [RR]
 exact hz
end Go.Ab
namespace Go.Ab
open Go Go.IntWalk
set_option maxRecDepth 4000
set_option maxHeartbeats 1000000
end Go.Ab
namespace Go.Ab
open Go Go.IntWalk
set_option maxRecDepth 4000
set_option maxHeartbeats 4000000
theorem ColE.nil {v:Int} {l:List Rt} {c:AV} {e:Int} (hc:wS c l) (he:e=0∨e=9):ColE v l [] e c l e:=by
 refine ⟨hc,?_⟩
 rcases he with rfl | rfl
 ·exact .inl ⟨rfl,rfl,rfl⟩
 ·exact .inr ⟨rfl,fun h=>by omega⟩
end Go.Ab
namespace Go.Ab
open Go Go.IntWalk
set_option maxRecDepth 4000
set_option maxHeartbeats 4000000
end Go.Ab
namespace Go.Ab
open Go Go.IntWalk
set_option maxRecDepth 4000
set_option maxHeartbeats 4000000
end Go.Ab
namespace Go.Ab
open Go Go.IntWalk
set_option maxRecDepth 4000
set_option maxHeartbeats 4000000
end Go.Ab
namespace Go.Ab
open Go Go.IntWalk
set_option maxRecDepth 4000
set_option maxHeartbeats 4000000
structure Bf (v:Int) (l A:List Rt):Prop where
 cl:Cl v l
 lt:∀ q ∈ l,∀ t ∈ A,ce q.exps t.exps < 0
theorem Bf.nil {v:Int} (A:List Rt):Bf v [] A:=⟨Cl.nil _,fun q h=>by cases h⟩
theorem Bf.drop {v:Int} {l A:List Rt} {t:Rt} (h:Bf v l (t::A)):Bf v l A:=⟨h.cl,fun q hq x hx=>h.lt q hq x (by simp [hx])⟩
theorem Cl.tail {v:Int} {l:List Rt} {t:Rt} (h:Cl v (t::l)):Cl v l:=⟨fun q hq=>h.t q (by simp [hq]),(List.pairwise_cons.1 h.s).2⟩
theorem Bf.push {v:Int} {l A:List Rt} {t:Rt} {d:Rd} (h:Bf v l (t::A)) (hA:Cl v (t::A)) (vt:VT v ⟨t.exps,d⟩):Bf v (l++[⟨t.exps,d⟩]) A:=by
 refine ⟨⟨fun q hq=>?_,?_⟩,fun q hq x hx=>?_⟩
 ·rcases List.mem_append.1 hq with h1 | h1
  ·exact h.cl.t q h1
  ·rw [List.mem_singleton.1 h1]
   exact vt
 ·rw [List.pairwise_append]
  refine ⟨h.cl.s,List.pairwise_singleton _ _,fun q hq x hx=>?_⟩
  rw [List.mem_singleton.1 hx]
  exact h.lt q hq t (by simp)
 ·rcases List.mem_append.1 hq with h1 | h1
  ·exact h.lt q h1 x (by simp [hx])
  ·rw [List.mem_singleton.1 h1]
   exact (List.pairwise_cons.1 hA.s).1 x hx
def Le (blk:Option (Ex × St)) (i1 i2:Nat) (S:ag) (v':Int) (l1 l2 r1 r2:List Rt):Prop :=
 ∃ hh c1 c2,blk=some (.normal,⟨S,hh⟩)∧hh 4=.bx [I 0,.emp]∧hh 5=.bx [I 0,.emp]∧hh i1=t3 v' c1 0∧hh i2=t3 v' c2 0∧wS c1 (l1++r1)∧wS c2 (l2++r2)
theorem Le.p1 {blk:Option (Ex × St)} {i1 i2:Nat} {S:ag} {v':Int} {l1 l2 r1 r2:List Rt} {t:Rt} (h:Le blk i1 i2 S v' (l1++[t]) l2 r1 r2):Le blk i1 i2 S v' l1 l2 (t::r1) r2:=by
 obtain ⟨hh,c1,c2,h1,h2,h3,h4,h5,h6,h7⟩:=h
 exact ⟨hh,c1,c2,h1,h2,h3,h4,h5,by rwa [List.append_cons],h7⟩
theorem Le.p2 {blk:Option (Ex × St)} {i1 i2:Nat} {S:ag} {v':Int} {l1 l2 r1 r2:List Rt} {t:Rt} (h:Le blk i1 i2 S v' l1 (l2++[t]) r1 r2):Le blk i1 i2 S v' l1 l2 r1 (t::r2):=by
 obtain ⟨hh,c1,c2,h1,h2,h3,h4,h5,h6,h7⟩:=h
 exact ⟨hh,c1,c2,h1,h2,h3,h4,h5,h6,by rwa [List.append_cons]⟩
end Go.Ab
namespace Go.Ab
open Go Go.IntWalk
set_option maxRecDepth 4000
set_option maxHeartbeats 2000000
def cd (ds:List Int) (cs:List Ri) (p:Int):Ob:=.bx [.osl 1 (be ds),.osl 7 (da cs),I p]
def GF:List Int→Int→Int
 | [],n=>n
 | d::l,n=>GF l (n*(d+1))
theorem lv (a b:AV) (k:Nat) (r:List (List AV)):go 0 (.bx [.osl k r,a,b])=some (k,r):=rfl
theorem qA (h:ab) (n:Nat) (g:Bool) (i j:Nat) (r:List (List AV)):jI h n g 1 i j (some (1,r))=(r[i]?).bind fun row=>(iu n g row j).map fun a=>(a,h,[]):=rfl
theorem adP {ds:List Int} {cs:List Ri} {p:Int} {m:Nat} (hm:m≤ds.length) (h8:m≤1000) (hb:∀ d ∈ ds,0≤d∧d≤32) :
  ∀ (k i:Nat),i+k=m→∀ (n:Int),0≤n→n*33 ^ k≤10000000000000→∀ (s:ag) (h:ab),s 5=I n→s 13=.rsl 1000 (some 0) 1 0 m→s 14=I m→s 15=I i→h 1000=cd ds cs p →
  ∃ hh,aB 0 [5] (aD (am R (aO true) fM) [5,13,14,15] [1000] s h)=some (.normal,⟨upd (fun _=>.any) 5 (I (GF ((ds.take m).drop i) n)),hh⟩)∧hh 1000=cd ds cs p:=by
 intro k
 induction k with
 | zero =>
  intro i hi n h0 hn s h g5 g13 g14 g15 k1000
  have e1:((i:Int) < (m:Int))=False:=ff (by omega)
  rw [List.drop_eq_nil_of_le (by rw [List.length_take]; omega),ao]
  refine ⟨?hh0,?_,?_⟩
  rotate_left
  ·simp only [fM,cd,go_sem,auD,g5,g13,g14,g15,k1000,e1]
   rfl
  ·rfl
 | succ k ih =>
  intro i hi n h0 hn s h g5 g13 g14 g15 k1000
  have hlt:i < m:=by omega
  have hlt2:i < (ds.take m).length:=by rw [List.length_take]; omega
  have e1:((i:Int) < (m:Int))=True:=tt (by omega)
  have e2:(be ds)[i]?=some [I (ds.take m)[i]]:=by
   unfold be
   rw [List.getElem?_map,List.getElem_take,List.getElem?_eq_getElem (by omega)]
   rfl
  have e5:IntKind.i64.wrap ((i:Int)+1)=((i+1:Nat):Int):=wi (by omega) (by omega)
  rw [List.drop_eq_getElem_cons hlt2]
  have hd:=hb (ds.take m)[i] (List.mem_of_mem_take (List.getElem_mem hlt2))
  generalize (ds.take m)[i]=d at e2 hd ⊢
  have e6:(0≤(i:Int))=True:=tt (by omega)
  have e3:IntKind.i64.wrap (d+1)=d+1:=i64_in _ ⟨by omega,by omega⟩
  have hn2:n*(d+1)*33 ^ k≤n*33 ^ (k+1):=by
   rw [Int.pow_succ,Int.mul_comm _ 33,← Int.mul_assoc]
   exact Int.mul_le_mul_of_nonneg_right (Int.mul_le_mul_of_nonneg_left (by omega) h0) (Int.pow_nonneg (by decide))
  have hp1:(1:Int)≤33 ^ k:=by
   have:=Int.pow_pos (n:=33) (m:=k) (by decide)
   omega
  have hn0:0≤n*(d+1):=Int.mul_nonneg h0 (by omega)
  have hn3:n*(d+1)≤10000000000000:=by
   have:=Int.mul_le_mul_of_nonneg_left hp1 hn0
   omega
  have e4:IntKind.i64.wrap (n*(d+1))=n*(d+1):=i64_in _ ⟨by omega,by omega⟩
  have ih':=ih (i+1) (by omega) (n*(d+1)) hn0 (by omega)
  rw [ao]
  generalize aD _ _ _=L at ih' ⊢
  simp only [cd] at k1000
  simp only [fM,go_sem,auD,g5,g13,g14,g15,k1000,e1,e2,e3,e4,e5,e6,Int.toNat_natCast,Nat.zero_add,lv,qA]
  exact ih' _ _ rfl rfl rfl rfl rfl
theorem alL {ds:List Int} {cs:List Ri} {p:Int} {m:Nat} (hm:m≤ds.length) (h8:m≤8) (hb:∀ d ∈ ds,0≤d∧d≤32) (s:ag) (h:ab) (X:Option (Ex × St)) (hX:aB 0 [5] (aD (am R (aO true) fM) [5,13,14,15] [1000] s h)=X) (g5:s 5=I 1) (g13:s 13=.rsl 1000 (some 0) 1 0 m) (g14:s 14=I m) (g15:s 15=I 0) (k1000:h 1000=cd ds cs p) :
  ∃ hh,X=some (.normal,⟨upd (fun _=>.any) 5 (I (GF (ds.take m) 1)),hh⟩)∧hh 1000=cd ds cs p:=by
 subst hX
 exact adP hm (by omega) hb m 0 (Nat.zero_add _) 1 (by decide) (by
  have:(33:Int) ^ m≤33 ^ 8:=by
   have h1:33 ^ m≤33 ^ 8:=Nat.pow_le_pow_right (by decide) h8
   have h2:((33 ^ m:Nat):Int)≤((33 ^ 8:Nat):Int):=by exact_mod_cast h1
   rw [Int.natCast_pow,Int.natCast_pow] at h2
   exact h2
  have:(33:Int) ^ 8=1406408618241:=by decide
  omega) s h g5 g13 g14 g15 k1000
theorem sM (ds:List Int):(be ds).length=ds.length:=by simp [be]
theorem ag3 {ds:List Int} {cs:List Ri} {p:Int} {m:Nat} (hm:m≤ds.length) (h8:m≤8) (hb:∀ d ∈ ds,0≤d∧d≤32):R F.bound_grid_step [.ref 1000 none 0 0 0,I m] [cd ds cs p]=some (I (GF (ds.take m) 1),[cd ds cs p]):=by
 refine ajp D0 DZ (rx false) rfl ?_
 have hl:=alL (ds:=ds) (cs:=cs) (p:=p) hm h8 hb
 have e1:eO 1 (.rsl 1000 (some 0) 1 0 ds.length) none (some (I (m:Int))) none=some (.rsl 1000 (some 0) 1 0 m):=by
  simp [eO,jA,iW,hm]
 simp only [nD,uA,go_sem,auA,auz,cd,sM,e1]
 generalize hX:aB 0 [5] _=X
 obtain ⟨hh,rfl,q⟩:=hl _ _ _ hX rfl rfl rfl rfl rfl
 simp only [go_sem]
 exact IH rfl q rfl (by rfl) (by rfl)
def xB (c1 c2:dG):Prop:=∀ f a hs r,c1 f a hs=some r→c2 f a hs=some r
section
variable {c1 c2:dG} {md:Mode}
theorem Uf (hc:xB c1 c2) {h:ab} {d:Nat} {zas:List AV} {f:AV} {r:R3} (hz:dm c1 md h d zas f=some r):dm c2 md h d zas f=some r:=by
 cases f <;> simp only [dm] at hz ⊢ <;> try (cases hz; done)
 simp only [Option.bind_eq_some_iff] at hz ⊢
 obtain ⟨p,e1,e2⟩:=hz
 unfold ix at e2 ⊢
 split at e2
 ·rename_i hcc
  simp only [Option.bind_eq_some_iff] at e2
  obtain ⟨q,e3,e4⟩:=e2
  refine ⟨p,e1,?_⟩
  rw [if_pos hcc]
  simp only [Option.bind_eq_some_iff]
  exact ⟨q,hc _ _ _ _ e3,e4⟩
 ·cases e2
theorem II (hc:xB c1 c2) {h:ab} {d:Nat} {zas:List AV} {f:AV} {r:R3} (hz:bA c1 md h d zas f=some r):bA c2 md h d zas f=some r:=by
 unfold bA at hz ⊢
 split at hz
 ·rename_i hb
  rw [if_pos hb]
  cases f <;> simp only [GY] at hz ⊢ <;> try (cases hz; done)
  simp only [Option.bind_eq_some_iff] at hz ⊢
  obtain ⟨p,e1,q,e3,e4⟩:=hz
  exact ⟨p,e1,q,hc _ _ _ _ e3,e4⟩
 ·rename_i hb
  rw [if_neg hb]
  exact Uf hc hz
theorem Mw (hc:xB c1 c2) {d:Nat} {op:AOp} {s:ag} {h:ab} {r:R3} (hz:step c1 md d op s h=some r):step c2 md d op s h=some r:=by
 cases op with
 | call f zas=>exact II hc hz
 | callC f zas =>
  simp only [step,Option.bind_eq_some_iff] at hz ⊢
  obtain ⟨q,e1,e2⟩:=hz
  exact ⟨q,II hc e1,e2⟩
 | _=>exact hz
theorem Mx (hc:xB c1 c2) {d:Option Nat} {op:AOp} {s:ag} {h:ab} {t:St} (hz:cz md.nm s d (step c1 md (d.getD 0) op s h)=some t):cz md.nm s d (step c2 md (d.getD 0) op s h)=some t:=by
 cases hs:step c1 md (d.getD 0) op s h with
 | none=>rw [hs] at hz; cases hz
 | some r =>
  rw [hs] at hz
  rw [Mw hc hs]
  exact hz
theorem XR (hc:xB c1 c2) {o:COp} {s:ag} {h:ab} {t:St} (hz:iy c1 md o s h=some t):iy c2 md o s h=some t:=by
 unfold iy at hz ⊢
 cases hg:o.g with
 | none=>rw [hg] at hz; exact Mx hc hz
 | some g =>
  rw [hg] at hz
  simp only at hz ⊢
  unfold gR at hz ⊢
  split at hz
  ·split at hz
   ·rename_i hb
    simp only [if_pos hb]
    exact Mx hc hz
   ·rename_i hb
    simp only [if_neg hb]
    exact hz
  ·exact hz
  ·cases hz
theorem wT (hc:xB c1 c2):∀ {l:List COp} {s:ag} {h:ab} {t:St},aF c1 md l s h=some t→aF c2 md l s h=some t
 | [],s,h,t,hz=>hz
 | o::l,s,h,t,hz=>by
  simp only [aF,bc] at hz
  split at hz
  ·cases hz
  ·rename_i t1 ht1
   simp only [aF,bc,XR hc ht1,wT hc hz]
theorem IJ (hc:xB c1 c2) {d:Option Nat} {op:AOp} {s:ag} {h:ab} {f:ab→Fp} {t:St × Fp} (hz:gF s d f (step c1 md (d.getD 0) op s h)=some t):gF s d f (step c2 md (d.getD 0) op s h)=some t:=by
 cases hs:step c1 md (d.getD 0) op s h with
 | none=>rw [hs] at hz; cases hz
 | some r =>
  rw [hs] at hz
  rw [Mw hc hs]
  exact hz
theorem XS (hc:xB c1 c2) {o:COp} {s:ag} {h:ab} {t:St × Fp} (hz:db c1 md o s h=some t):db c2 md o s h=some t:=by
 unfold db at hz ⊢
 cases hg:o.g with
 | none=>rw [hg] at hz; exact IJ hc hz
 | some g =>
  rw [hg] at hz
  simp only at hz ⊢
  unfold lB at hz ⊢
  split at hz
  ·split at hz
   ·rename_i hb
    simp only [if_pos hb]
    exact IJ hc hz
   ·rename_i hb
    simp only [if_neg hb]
    exact hz
  ·exact hz
  ·cases hz
theorem CI (hc:xB c1 c2):∀ {l:List COp} {s:ag} {h:ab} {t:St × List Fp},eQ c1 md l s h=some t→eQ c2 md l s h=some t
 | [],s,h,t,hz=>hz
 | o::l,s,h,t,hz=>by
  simp only [eQ,Option.bind_eq_some_iff] at hz
  obtain ⟨r,e1,q,e2,e3⟩:=hz
  simp only [eQ,XS hc e1,CI hc e2,Option.bind_some,e3]
theorem XT (hc:xB c1 c2) {l:List COp} {ps:List (Nat × Nat)} {s:ag} {h:ab} {t:St} (hz:lC c1 md l ps s h=some t):lC c2 md l ps s h=some t:=by
 unfold lC at hz ⊢
 cases hb:sT ps with
 | none =>
  rw [hb] at hz
  simp only [th,Option.bind_eq_some_iff] at hz
  obtain ⟨q,e1,e2⟩:=hz
  simp only [th,CI hc e1,Option.bind_some,e2]
 | some b =>
  rw [hb] at hz
  simp only [zi,Option.bind_eq_some_iff] at hz
  obtain ⟨q,e1,e2⟩:=hz
  split at e2
  ·rename_i hps
   simp only [bc] at e2
   split at e2
   ·cases e2
   ·rename_i t1 ht1
    simp only [zi,CI hc e1,Option.bind_some,if_pos hps,ht1,bc,wT hc e2]
  ·cases e2
theorem CJ {b1 b2:ag→ab→Option (Ex × St)} {ks hs:List Nat} (ih:∀ {s:ag} {h:ab} {r:Ex × St},b1 s h=some r→b2 s h=some r) :
  ∀ (m:Nat) {j:Nat},m≤j→∀ {s:ag} {h:ab} {r:Ex × St},mI b1 ks hs m s h=some r→mI b2 ks hs j s h=some r
 | 0,j,hj,s,h,r,hz=>by simp [mI] at hz
 | m+1,j,hj,s,h,r,hz=>by
  obtain ⟨j,rfl⟩:∃ j',j=j'+1:=⟨j - 1,by omega⟩
  simp only [mI] at hz ⊢
  split at hz
  ·rename_i hc
   rw [if_pos hc]
   cases hb:b1 (mk .any (fun i=>eH hs (s i)) ks) (mk .dead h hs) with
   | none=>rw [hb] at hz; cases hz
   | some q =>
    rw [hb] at hz
    rw [ih hb]
    obtain ⟨ex,t⟩:=q
    cases ex with
    | normal=>exact CJ ih m (by omega) hz
    | exit id=>exact hz
    | ret=>exact hz
  ·cases hz
theorem fv (hc:xB c1 c2) {lf lf':Nat} (hl:lf≤lf'):∀ (c:Cmd) {s:ag} {h:ab} {r:Ex × St},bG c1 md lf c s h=some r→bG c2 md lf' c s h=some r
 | .skip,s,h,r,hz=>hz
 | .ops ks l,s,h,r,hz=>by
  simp only [bG,bc] at hz
  split at hz
  ·cases hz
  ·rename_i t1 ht1
   simp only [bG,wT hc ht1,bc]
   exact hz
 | .dops ks l ps,s,h,r,hz=>by
  simp only [bG,bc] at hz
  split at hz
  ·cases hz
  ·rename_i t1 ht1
   simp only [bG,XT hc ht1,bc]
   exact hz
 | .seq a b,s,h,r,hz=>by
  simp only [bG,bX] at hz
  split at hz
  ·cases hz
  ·rename_i t1 ht1
   simp only [bG,bX,fv hc hl a ht1,fv hc hl b hz]
  ·rename_i i t1 ht1
   simp only [bG,bX,fv hc hl a ht1]
   exact hz
  ·rename_i t1 ht1
   simp only [bG,bX,fv hc hl a ht1]
   exact hz
 | .cond c a b,s,h,r,hz=>by
  simp only [bG,lD] at hz
  split at hz
  ·rename_i t ht
   cases t with
   | true=>simp only [bG,lD,ht,if_true]; exact fv hc hl a hz
   | false=>simp only [bG,lD,ht,Bool.false_eq_true,if_false]; exact fv hc hl b hz
  ·cases hz
 | .block id ks a,s,h,r,hz=>by
  simp only [bG,aB] at hz
  split at hz
  ·cases hz
  ·rename_i t1 ht1
   simp only [bG,aB,fv hc hl a ht1]
   exact hz
  ·rename_i i t1 ht1
   simp only [bG,aB,fv hc hl a ht1]
   exact hz
  ·rename_i t1 ht1
   simp only [bG,aB,fv hc hl a ht1]
   exact hz
 | .loop ks hs a,s,h,r,hz=>by
  simp only [bG] at hz ⊢
  exact CJ (fun hh=>fv hc hl a hh) lf hl hz
 | .exit id,s,h,r,hz=>hz
 | .ret,s,h,r,hz=>hz
 | .frz is a,s,h,r,hz=>by
  simp only [bG,bc] at hz
  split at hz
  ·cases hz
  ·rename_i t1 ht1
   simp only [bG,bc,ht1]
   exact fv hc hl a hz
end
theorem My (e:Env):∀ (n:Nat),xB (dj e n) (dj e (n+1))
 | 0,f,a,hs,r,hz=>by cases hz
 | n+1,f,a,hs,r,hz=>by
  cases hE:e.E f with
  | some g =>
   simp only [dj,hE] at hz ⊢
   exact hz
  | none =>
   cases hC:e.C f with
   | none =>
    simp only [dj,hE,hC,Option.bind_none] at hz
    cases hz
   | some fd =>
    have h1:rU (dj e n) { e.md with nm:=e.md.keep f } n fd a hs=some r:=by
     simpa only [dj,hE,hC,Option.bind_some] using hz
    have h2:rU (dj e (n+1)) { e.md with nm:=e.md.keep f } (n+1) fd a hs=some r:=by
     unfold rU at h1 ⊢
     split at h1
     ·rename_i hcc
      rw [if_pos hcc]
      cases hx:bG (dj e n) { e.md with nm:=e.md.keep f } n fd.body (oT a) (ak hs) with
      | none=>rw [hx] at h1; cases h1
      | some q =>
       rw [hx] at h1
       rw [fv (My e n) (Nat.le_succ n) fd.body hx]
       exact h1
     ·cases h1
    show dj e (n+1+1) f a hs=some r
    show (match e.E f with
     | some g=>g a hs
     | none=>(e.C f).bind fun fd=>rU (dj e (n+1)) { e.md with nm:=e.md.keep f } (n+1) fd a hs)=some r
    rw [hE]
    show (e.C f).bind (fun fd=>rU (dj e (n+1)) { e.md with nm:=e.md.keep f } (n+1) fd a hs)=some r
    rw [hC]
    exact h2
theorem ag4 (e:Env) {n k:Nat} (h:n≤k):xB (dj e n) (dj e k):=by
 induction h with
 | refl=>exact fun f a hs r hz=>hz
 | step _ ih=>exact fun f a hs r hz=>My e _ f a hs r (ih f a hs r hz)
theorem ag5 {e:Env} {n:Nat} {f:FuncId} {a:List AV} {hs:List Ob} {r:AV × List Ob} (h:dj e n f a hs=some r):dx e f a hs=some r:=by
 unfold dx
 rw [i9]
 exact ⟨n,fun k hk=>ag4 e hk f a hs r h⟩
end Go.Ab
namespace Go.Ab
open Go Go.IntWalk
set_option maxRecDepth 4000
set_option maxHeartbeats 4000000
theorem adQ:R F.bits_Mul [W 1,W 1] []=some (.tup [W 0,W 1],[]):=ag5 (n:=20) (by kernel_rfl)
theorem IK {x:Ri}:R F.slices_Repeat_api_Interval_api_Interval_ [.sl 7 [aK x],I 1] []=some (.osl 7 [aK x],[]):=by
 refine aE kT kS (j5 false) rfl ?_
 have hm:=adQ
 have w1:IntKind.u64.wrap 1=1:=by decide
 have w2:((0+1:Nat):Int)=1:=rfl
 have w3:IntKind.i64.wrap 1=1:=by decide
 have e1:((0:Int) < 0)=False:=ff (by decide)
 have e2:(1:Int) < 0↔False:=by decide
 have e3:((1:Int) < 1)=False:=ff (by decide)
 have z1:lz (.v (.int .i64 1)) (.v (.int .i64 1))=some (1,1):=rfl
 have z2:∀ r:List AV,List.replicate 1 r=[r]:=fun r=>rfl
 simp only [cZ,ft,aK,go_sem,auA,auz,auB,List.length_cons,List.length_nil,auE,w1,w2,w3,hm,e1,e2,z1,z2,Nat.min_self]
 rw [ao]
 simp only [eK,go_sem,auD,Int.natCast_one,e3]
 rfl
theorem aaK:Option.any bd (some AV.emp)=false:=rfl
def aS (v:Nat):List Int:=List.replicate v 0
theorem aaL {h:ab} {id id2 k n:Nat} {rows:List (List AV)} {a:AV} {z:Int} (h1:h id2=.ar k rows) (hn:n=rows.length) (h2:h id=.bx [.any,.any,.any]) (hne:id ≠ id2) :
  EP id 0 [.rsl id2 none k 0 n,.emp,I z] (a,h,[])=some (a,upd (upd (upd (upd h id2 .dead) id (.bx [.osl k rows,.any,.any])) id (.bx [.osl k rows,.emp,.any])) id (.bx [.osl k rows,.emp,I z]),[(id2,false)]):=by
 have h3:upd h id2 .dead id=.bx [.any,.any,.any]:=by
  unfold upd
  rw [if_neg hne,h2]
 subst hn
 have e1:∀ (g:ab) o,upd g id o id=o:=fun g o=>by unfold upd; rw [if_pos rfl]
 have k1:∀ K,mQ K .emp=.emp:=fun K=>rfl
 have k2:∀ K,mQ K (I z)=I z:=fun K=>rfl
 have k3:bd .any=false:=rfl
 have k4:aA .emp=true:=rfl
 have k5:aA (I z)=true:=rfl
 simp [EP,lZ,Aw,h1,LI,EO,h3,uG,e1,k1,k2,k3,k4,k5]
def Dz:List Int→Int→Option Int
 | [],n=>some n
 | d::l,n=>if 400 < n*(d+1) then none else Dz l (n*(d+1))
def Gr2 (blk:Option (Ex × St)) (o2 g:Ob):Option Int→Prop
 | some n=>∃ hh,blk=some (.normal,⟨upd (upd (upd (fun _=>.any) 11 (I n)) 6 (.ref 24 none 0 0 0)) 2 (.ref 2 none 0 0 0),hh⟩)∧hh 2=o2∧hh 24=g∧(∀ a,a ≠ 2→a ≠ 24→hh a=.dead)
 | none=>∃ hh,blk=some (.ret,⟨upd (upd (fun _=>.any) 5 (B false)) 4 (.v (.pointer none)),hh⟩)
theorem adR {ds:List Int} {p:Int} {m:Nat} (hm:m=ds.length) (h8:m≤1000) (hb:∀ d ∈ ds,0≤d∧d≤32) {o2:Ob} (c2:∀ l,aT l o2=true) :
  ∀ (k i:Nat),i+k=m→∀ (n:Int),0≤n→n≤400→∀ (s:ag) (h:ab),s 2=.ref 2 none 0 0 0→s 6=.ref 24 none 0 0 0→s 11=I n→s 60=.rsl 24 (some 0) 1 0 m→s 61=I m→s 62=I i→h 2=o2→h 21=.dead→h 24=.bx [.osl 1 (be ds),.emp,I p]→h 2624=.dead →
  Gr2 (aB 4 [2,6,11] (aD (am R (aO false) fT) [2,6,11,60,61,62] [2,21,24,2624] s h)) o2 (.bx [.osl 1 (be ds),.emp,I p]) (Dz (ds.drop i) n):=by
 intro k
 induction k with
 | zero =>
  intro i hi n h0 hn s h g2 g6 g11 g60 g61 g62 k2 k21 k24 k2624
  have e1:((i:Int) < (m:Int))=False:=ff (by omega)
  have hc:=c2 [2,21,24,2624]
  rw [List.drop_eq_nil_of_le (by omega),ao]
  refine ⟨?hh0,?_,?_,?_,?_⟩
  rotate_left
  ·simp only [fT,go_sem,auD,g2,g6,g11,g60,g61,g62,k2,k21,k24,k2624,hc,e1]
   rfl
  ·rfl
  ·rfl
  ·intro a a1 a2
   simp only [gk,a1,a2,if_false,ite_self]
 | succ k ih =>
  intro i hi n h0 hn s h g2 g6 g11 g60 g61 g62 k2 k21 k24 k2624
  have hlt:i < ds.length:=by omega
  have e1:((i:Int) < (m:Int))=True:=tt (by omega)
  have e2:(be ds)[i]?=some [I ds[i]]:=by
   unfold be
   rw [List.getElem?_map,List.getElem?_eq_getElem hlt]
   rfl
  have e5:IntKind.i64.wrap ((i:Int)+1)=((i+1:Nat):Int):=wi (by omega) (by omega)
  have hc:=c2 [2,21,24,2624]
  rw [List.drop_eq_getElem_cons hlt]
  have hd:=hb ds[i] (List.getElem_mem hlt)
  generalize ds[i]=d at e2 hd ⊢
  have e6:(0≤(i:Int))=True:=tt (by omega)
  have e3:IntKind.i64.wrap (d+1)=d+1:=i64_in _ ⟨by omega,by omega⟩
  have hn0:0≤n*(d+1):=Int.mul_nonneg h0 (by omega)
  have hn3:n*(d+1)≤400*33:=Int.mul_le_mul hn (by omega) (by omega) (by decide)
  have e4:IntKind.i64.wrap (n*(d+1))=n*(d+1):=i64_in _ ⟨by omega,by omega⟩
  have ih':=ih (i+1) (by omega) (n*(d+1)) hn0
  have hrow:Dz (d::ds.drop (i+1)) n=if 400 < n*(d+1) then none else Dz (ds.drop (i+1)) (n*(d+1)):=rfl
  rw [hrow,ao]
  generalize aD _ _ _=L at ih' ⊢
  by_cases hq:400 < n*(d+1)
  ·have e7:(400 < n*(d+1))=True:=eq_true hq
   rw [if_pos hq]
   refine ⟨?hh1,?_⟩
   rotate_left
   ·simp only [fT,go_sem,auD,g2,g6,g11,g60,g61,g62,k2,k21,k24,k2624,hc,e1,e2,e3,e4,e6,e7,Int.toNat_natCast,Nat.zero_add,lv,qA]
    rfl
  ·have e7:(400 < n*(d+1))=False:=eq_false hq
   rw [if_neg hq]
   simp only [fT,go_sem,auD,g2,g6,g11,g60,g61,g62,k2,k21,k24,k2624,hc,e1,e2,e3,e4,e5,e6,e7,Int.toNat_natCast,Nat.zero_add,lv,qA]
   refine ih' (by omega) _ _ ?_ ?_ ?_ ?_ ?_ ?_ ?_ ?_ ?_ ?_
   all_goals first | rfl | assumption
theorem afb {ds:List Int} {p:Int} {m:Nat} (hm:m=ds.length) (h8:m≤1000) (hb:∀ d ∈ ds,0≤d∧d≤32) {o2:Ob} (c2:∀ l,aT l o2=true) (s:ag) (h:ab) (X:Option (Ex × St)) (hX:aB 4 [2,6,11] (aD (am R (aO false) fT) [2,6,11,60,61,62] [2,21,24,2624] s h)=X) (g2:s 2=.ref 2 none 0 0 0) (g6:s 6=.ref 24 none 0 0 0) (g11:s 11=I 1) (g60:s 60=.rsl 24 (some 0) 1 0 m) (g61:s 61=I m) (g62:s 62=I 0) (k2:h 2=o2) (k21:h 21=.dead) (k24:h 24=.bx [.osl 1 (be ds),.emp,I p]) (k2624:h 2624=.dead) :
  Gr2 X o2 (.bx [.osl 1 (be ds),.emp,I p]) (Dz ds 1):=by
 subst hX
 exact adR hm h8 hb c2 m 0 (Nat.zero_add _) 1 (by decide) (by decide) s h g2 g6 g11 g60 g61 g62 k2 k21 k24 k2624
theorem wU (v:Nat):List.replicate v [I 0]=be (aS v):=by
 unfold be aS
 rw [List.map_replicate]
theorem DA {v:Nat}:∀ d ∈ aS v,0≤d∧d≤32:=fun d hd=>by
 rw [List.eq_of_mem_replicate hd]
 decide
theorem GG:∀ v,Dz (aS v) 1=some 1
 | 0=>rfl
 | v+1=>GG v
theorem Ug {v:Nat} {p:Int} (h8:v≤8):R F.bound_gridOf [.agg [I v,.sl 4 []],I p] []=some (.tup [.obx [.osl 1 (be (aS v)),.osl 7 [aK wR],I p],B true],[]):=by
 refine aE yI yH (uE false) rfl ?_
 have z1:lz (.v (.int .i64 (v:Int))) (.v (.int .i64 (v:Int)))=some (v,v):=by
  simp only [lz]
  rw [if_pos ⟨by omega,by omega,by omega⟩]
  rfl
 have z2:(v*8≤140737488355328)=True:=eq_true (by omega)
 have e1:((0:Int) < 0)=False:=ff (by decide)
 have hl:(be (aS v)).length=v:=by rw [sM]; simp [aS]
 simp only [mT,se,go_sem,auA,auz,auB,List.length_nil,z1,z2,wU]
 rw [aaL (k:=1) (rows:=be (aS v)) rfl hl.symm rfl (by decide)]
 simp only [go_sem,auA,auz,auD,List.length_nil,Int.natCast_zero]
 rw [ao]
 simp only [o6,go_sem,auA,auz,auD,e1]
 generalize hX:aB 4 _ _=X
 have hM:=afb (ds:=aS v) (p:=p) rfl (by rw [show (aS v).length=v by simp [aS]]; omega) DA (o2:=.bx [I v,.sl 4 []]) (fun _=>rfl) _ _ _ hX rfl rfl rfl rfl rfl rfl rfl rfl rfl rfl
 rw [GG] at hM
 obtain ⟨hh,rfl,q2,q24,qd⟩:=hM
 have hpt:=jr bq.2 bq.1
 have hrp:=IK (x:=wR)
 have d1:hh 2600=.dead:=qd _ (by decide) (by decide)
 have d2:hh 76=.dead:=qd _ (by decide) (by decide)
 have d3:hh 2624=.dead:=qd _ (by decide) (by decide)
 have d4:hh 21=.dead:=qd _ (by decide) (by decide)
 simp only [ae,aj,aC,aK,aX,wR] at hpt hrp
 simp only [aK,wR,aX,go_sem,auA,auz,auB,auC,q24,d1,d2,d3,hpt,hrp]
 rw [rJ (h:=upd (upd (upd hh 76 _) 76 _) 2624 (.ar 7 [[B false,lm [],I 0,B false,lm [],I 0,B false]])) (id:=24) (p:=1) (id2:=2624) (k:=7) (n:=1) rfl rfl q24 (by decide) (by show 1 < 3; decide)]
 simp only [go_sem,auA,auz,auD,aaK,Bool.false_eq_true,List.length_nil,Int.natCast_zero,q2]
 rw [ao]
 simp only [o5,go_sem,auD,q2,d4,e1]
 rfl
theorem ag6 (v i:Nat):(be (aS v)).set i [I 0]=be (aS v):=by
 rw [← wU]
 refine List.ext_getElem (by simp) fun j h1 h2=>?_
 rw [List.getElem_set]
 split <;> simp
theorem vJ {v i:Nat} (h:i < v):(be (aS v))[i]?=some [I 0]:=by
 rw [← wU,List.getElem?_replicate,if_pos h]
theorem ag7 (h:ab) (i:Nat) (xs:List AV) (a b:AV) (r:List (List AV)):xd h 1 24 0 1 i 0 xs [] (.bx [.osl 1 r,a,b])=(rS 1 1 i 0 xs 1 r).map fun q=>(.und,upd h 24 (.bx [.osl 1 q,a,b]),[]):=rfl
theorem ag8 {v i:Nat} (h:i < v):rS 1 1 i 0 [I 0] 1 (be (aS v))=some (be (aS v)):=by
 unfold rS
 rw [if_pos rfl,vJ h]
 show some ((be (aS v)).set i [I 0])=_
 rw [ag6]
theorem adS {v:Nat} {p:Int} (h8:v≤8) {o2 o8:Ob} (c2:∀ l,aT l o2=true) (c8:∀ l,aT l o8=true) {A:List Rt} {nA iA:Int} :
  ∀ (k i:Nat),i+k=v→∀ (s:ag) (h:ab),s 2=.ref 2 none 0 0 0→s 6=.ref 24 none 0 0 0→s 26=.sl 4 (bp A)→s 27=I nA→s 28=I iA→s 33=.sl 1 (be (aS v))→s 34=I v→s 35=I i→h 2=o2→h 8=o8→h 21=.dead→h 24=.bx [.osl 1 (be (aS v)),.emp,I p]→h 2624=.dead →
  ∃ hh,aB 2 [2,6,26,27,28] (aD (am R (aO false) il) [2,6,26,27,28,33,34,35] [2,8,21,24,2624] s h)=some (.normal,⟨upd (upd (upd (upd (upd (fun _=>.any) 28 (I iA)) 27 (I nA)) 26 (.sl 4 (bp A))) 6 (.ref 24 none 0 0 0)) 2 (.ref 2 none 0 0 0),hh⟩)∧hh 2=o2∧hh 24=.bx [.osl 1 (be (aS v)),.emp,I p]∧hh 21=.dead∧hh 2624=.dead:=by
 intro k
 induction k with
 | zero =>
  intro i hi s h g2 g6 g26 g27 g28 g33 g34 g35 k2 k8 k21 k24 k2624
  have e1:((i:Int) < (v:Int))=False:=ff (by omega)
  have hc:=c2 [2,8,21,24,2624]
  have hc8:=c8 [2,8,21,24,2624]
  rw [ao]
  refine ⟨?hh0,?_,?_,?_,?_,?_⟩
  rotate_left
  ·simp only [il,go_sem,auD,g2,g6,g26,g27,g28,g33,g34,g35,k2,k8,k21,k24,k2624,hc,hc8,e1]
   rfl
  all_goals rfl
 | succ k ih =>
  intro i hi s h g2 g6 g26 g27 g28 g33 g34 g35 k2 k8 k21 k24 k2624
  have hlt:i < v:=by omega
  have e1:((i:Int) < (v:Int))=True:=tt (by omega)
  have e2:=vJ hlt
  have e3:bu (be (aS v)) (i:Int)=some (.ipt [I 0]):=kW rfl (by simp [aS,hlt])
  have e4:=ag8 hlt
  have e5:IntKind.i64.wrap ((i:Int)+1)=((i+1:Nat):Int):=wi (by omega) (by omega)
  have e6:(0≤(i:Int))=True:=tt (by omega)
  have e7:(aS v).length=v:=by simp [aS]
  have hc:=c2 [2,8,21,24,2624]
  have hc8:=c8 [2,8,21,24,2624]
  have ih':=ih (i+1) (by omega)
  rw [ao]
  generalize aD _ _ _=L at ih' ⊢
  simp only [il,go_sem,auA,auC,auD,g2,g6,g26,g27,g28,g33,g34,g35,k2,k8,k21,k24,k2624,hc,hc8,e1,e2,e3,e5,e6,e7,Int.toNat_natCast,Nat.zero_add,lv,qA,ag7,ite_self,e4]
  refine ih' _ _ ?_ ?_ ?_ ?_ ?_ ?_ ?_ ?_ ?_ ?_ ?_ ?_ ?_
  all_goals first | rfl | assumption
end Go.Ab
namespace Go.Ab
open Go Go.IntWalk
set_option maxRecDepth 4000
set_option maxHeartbeats 4000000
theorem aaM {f:FuncId} {h:ab} {d id:Nat} {zas as':List AV} {o o':Ob} {res:AV} (hm:(aO false).m f=[]) (hk:(aO false).keep f=true) (hn:bg ((aO false).sh f) (.ref id none 0 0 0::zas)=.ref id none 0 0 0::as') (hd:zas.all dat=true) (hd':as'.all dat=true)
  (hh:h id=o) (ho:OC o) (ho':OC o') (hb:bf o=true→bf o'=true) (hR:R f (.ref 1000 none 0 0 0::as') [o]=some (res,[o'])) (hr:RT res) (h8:cx res≤8) (hfr:cV h (2000+8*d) (cx res)=true) :
  bA R (aO false) h d (.ref id none 0 0 0::zas) (.fn f [] [])=some (res,upd h id o',[]):=by
 have h1:bH h [] (.ref id none 0 0 0::zas)=some (.ref id none 0 0 0::zas,h,[]):=by
  simp only [bH,ct,Option.bind_some,List.tail_nil,Dy h hd,List.append_nil]
 have hp:bE [] ((AV.ref id none 0 0 0::zas).flatMap bI)=[id]:=by
  rw [List.flatMap_cons,Am fun x hx=>Vq (List.all_eq_true.1 hd x hx)]
  rfl
 have hre:bW h 40 [id] 0=[id]:=by
  simp [bW,hh,ho.ids,bE]
 have h3:bm [id] id=1000:=by simp [bm]
 have hall:(AV.ref id none 0 0 0::as').all (aZ [id])=true:=by
  rw [List.all_cons,Bool.and_eq_true]
  exact ⟨by simp [aZ,bj],List.all_eq_true.2 fun x hx=>aaH (List.all_eq_true.1 hd' x hx) _⟩
 have hmap:(AV.ref id none 0 0 0::as').map (dh (bm [id]))=.ref 1000 none 0 0 0::as':=by
  rw [List.map_cons,(List.map_congr_left (g:=fun c=>c) fun x hx=>Vr (List.all_eq_true.1 hd' x hx) _).trans (List.map_id' as')]
  simp [dh,iw,h3]
 have hob:([id].map fun a=>cY (bm [id]) (h a))=[o]:=by simp [hh,ho.ren]
 have hids:([id].all fun a=>aT [id] (h a) && !cf (h a))=true:=by simp [hh,ho.cl,ho.nd]
 unfold bA
 rw [if_neg (by simp [iY,hm])]
 simp only [dm,hm,List.nil_append,List.append_nil,h1,Option.bind_some,hp,hre,hn]
 unfold ix
 rw [hall,hids,hmap,hob,hR,Bool.and_self,if_pos rfl,Option.bind_some,hk,hm,sL]
 unfold dN
 have hbf:cW h [] [id] [o']=true:=by
  have:=ho'.nd
  cases h5:bf o with
  | false=>simp [cW,hh,h5,this]
  | true=>simp [cW,hh,h5,hb h5,this]
 have hend:pF h [id] [] (res,[o'])=true:=by
  simp [pF,zg,hr.ok,ho'.cl]
 rw [if_pos ⟨rfl,by simp,h8,hfr,hbf,hend⟩]
 simp [dt,eU,hr.mat,hr.ren,ho'.ren]
theorem it (ds:List Int) (cs:List Ri) (p:Int):OC (cd ds cs p):=⟨fun _=>rfl,rfl,fun _=>rfl,rfl⟩
theorem apL (z:Int):RT (I z):=⟨fun _=>rfl,fun _ _=>rfl,fun _=>rfl⟩
theorem CK {ds:List Int} {cs:List Ri} {p:Int} {m:Nat} (hm:m≤ds.length) (h8:m≤8) (hb:∀ d ∈ ds,0≤d∧d≤32) {h:ab} {d id:Nat} (hh:h id=cd ds cs p) (hd:h (2000+8*d)=.dead) :
  bA R (aO false) h d [.ref id none 0 0 0,I m] (.fn F.bound_grid_step [] [])=some (I (GF (ds.take m) 1),upd h id (cd ds cs p),[]) :=
 aaM (iq false) (rx false) (as':=[I m]) (by rw [B6]; simp only [go_sem]) rfl rfl hh (it _ _ _) (it _ _ _) (fun _=>rfl) (ag3 hm h8 hb) (apL _) (Nat.le_of_ble_eq_true rfl) (by simp [cV,cx,hd,cf])
theorem DB:∀ (v m:Nat),GF ((aS v).take m) 1=1
 | 0,m=>by simp [aS,GF]
 | v+1,0=>rfl
 | v+1,m+1=>DB v m
theorem adT {v:Nat} {x:Ri} {p:Int} (h8:v≤8) {o2:Ob} (c2:∀ l,aT l o2=true) {c:Rd} {A:List Rt} {nA iA:Int} :
  ∀ (k i:Nat),i+k=v→∀ (s:ag) (h:ab),s 6=.ref 24 none 0 0 0→s 15=.ref 15 none 0 0 0→s 16=I 0→s 82=.sl 4 (bp A)→s 83=I nA→s 84=I iA→s 89=.sl 1 (be (aS v))→s 90=I v→s 91=I i→h 2=o2→h 15=.bx [.sl 1 (be (aS v)),B c.neg,lm c.m,I c.e]→h 21=.dead→h 24=cd (aS v) [x] p→h 2624=.dead →
  ∃ hh,aB 8 [6,15,16,82,83,84] (aD (am R (aO false) ik) [6,15,16,82,83,84,89,90,91] [2,15,21,24,2624] s h)=some (.normal,⟨upd (upd (upd (upd (upd (upd (fun _=>.any) 84 (I iA)) 83 (I nA)) 82 (.sl 4 (bp A))) 16 (I 0)) 15 (.ref 15 none 0 0 0)) 6 (.ref 24 none 0 0 0),hh⟩)∧hh 2=o2∧hh 15=.bx [.sl 1 (be (aS v)),B c.neg,lm c.m,I c.e]∧hh 24=cd (aS v) [x] p∧(∀ a,a ≠ 2→a ≠ 15→a ≠ 24→hh a=.dead):=by
 intro k
 induction k with
 | zero =>
  intro i hi s h g6 g15 g16 g82 g83 g84 g89 g90 g91 k2 k15 k21 k24 k2624
  have e1:((i:Int) < (v:Int))=False:=ff (by omega)
  have hc:=c2 [2,15,21,24,2624]
  have hg:=(it (aS v) [x] p).cl [2,15,21,24,2624]
  rw [ao]
  refine ⟨?hh0,?_,?_,?_,?_,?_⟩
  rotate_left
  ·simp only [ik,go_sem,auD,g6,g15,g16,g82,g83,g84,g89,g90,g91,k2,k15,k21,k24,k2624,hc,hg,e1]
   rfl
  ·rfl
  ·rfl
  ·rfl
  ·intro a a1 a2 a3
   simp only [gk,a1,a2,a3,if_false,ite_self]
 | succ k ih =>
  intro i hi s h g6 g15 g16 g82 g83 g84 g89 g90 g91 k2 k15 k21 k24 k2624
  have hlt:i < v:=by omega
  have e1:((i:Int) < (v:Int))=True:=tt (by omega)
  have e3:bu (be (aS v)) (i:Int)=some (.ipt [I 0]):=kW rfl (by simp [aS,hlt])
  have e5:IntKind.i64.wrap ((i:Int)+1)=((i+1:Nat):Int):=wi (by omega) (by omega)
  have w1:IntKind.i64.wrap ((0:Int)*1)=0:=by decide
  have w2:IntKind.i64.wrap ((0:Int)+0)=0:=by decide
  have hc:=c2 [2,15,21,24,2624]
  have hg:=(it (aS v) [x] p).cl [2,15,21,24,2624]
  have ih':=ih (i+1) (by omega)
  have hst:=fun (h:ab) (d:Nat) (hh:h 24=cd (aS v) [x] p) (hd:h (2000+8*d)=.dead)=>lu (iq false) rfl (CK (m:=i) (by simp [aS]; omega) (by omega) DA (d:=d) hh hd)
  rw [DB] at hst
  rw [ao]
  generalize aD _ _ _=L at ih' ⊢
  simp only [ik,go_sem,auD,g6,g15,g16,g82,g83,g84,g89,g90,g91,k2,k15,k21,k24,k2624,hc,hg,e1,e3]
  rw [hst _ _ rfl rfl]
  simp only [go_sem,w1,w2,e5]
  refine ih' _ _ ?_ ?_ ?_ ?_ ?_ ?_ ?_ ?_ ?_ ?_ ?_ ?_ ?_ ?_
  all_goals first | rfl | assumption
theorem alM {v:Nat} {p:Int} (h8:v≤8) {o2 o8:Ob} (c2:∀ l,aT l o2=true) (c8:∀ l,aT l o8=true) {A:List Rt} {nA iA:Int} (s:ag) (h:ab) (X:Option (Ex × St)) (hX:aB 2 [2,6,26,27,28] (aD (am R (aO false) il) [2,6,26,27,28,33,34,35] [2,8,21,24,2624] s h)=X)
  (g2:s 2=.ref 2 none 0 0 0) (g6:s 6=.ref 24 none 0 0 0) (g26:s 26=.sl 4 (bp A)) (g27:s 27=I nA) (g28:s 28=I iA) (g33:s 33=.sl 1 (be (aS v))) (g34:s 34=I v) (g35:s 35=I 0) (k2:h 2=o2) (k8:h 8=o8) (k21:h 21=.dead) (k24:h 24=.bx [.osl 1 (be (aS v)),.emp,I p]) (k2624:h 2624=.dead) :
  ∃ hh,X=some (.normal,⟨upd (upd (upd (upd (upd (fun _=>.any) 28 (I iA)) 27 (I nA)) 26 (.sl 4 (bp A))) 6 (.ref 24 none 0 0 0)) 2 (.ref 2 none 0 0 0),hh⟩)∧hh 2=o2∧hh 24=.bx [.osl 1 (be (aS v)),.emp,I p]∧hh 21=.dead∧hh 2624=.dead:=by
 subst hX
 exact adS h8 c2 c8 v 0 (Nat.zero_add _) s h g2 g6 g26 g27 g28 g33 g34 g35 k2 k8 k21 k24 k2624
theorem alN {v:Nat} {x:Ri} {p:Int} (h8:v≤8) {o2:Ob} (c2:∀ l,aT l o2=true) {c:Rd} {A:List Rt} {nA iA:Int} (s:ag) (h:ab) (X:Option (Ex × St)) (hX:aB 8 [6,15,16,82,83,84] (aD (am R (aO false) ik) [6,15,16,82,83,84,89,90,91] [2,15,21,24,2624] s h)=X)
  (g6:s 6=.ref 24 none 0 0 0) (g15:s 15=.ref 15 none 0 0 0) (g16:s 16=I 0) (g82:s 82=.sl 4 (bp A)) (g83:s 83=I nA) (g84:s 84=I iA) (g89:s 89=.sl 1 (be (aS v))) (g90:s 90=I v) (g91:s 91=I 0) (k2:h 2=o2) (k15:h 15=.bx [.sl 1 (be (aS v)),B c.neg,lm c.m,I c.e]) (k21:h 21=.dead) (k24:h 24=cd (aS v) [x] p) (k2624:h 2624=.dead) :
  ∃ hh,X=some (.normal,⟨upd (upd (upd (upd (upd (upd (fun _=>.any) 84 (I iA)) 83 (I nA)) 82 (.sl 4 (bp A))) 16 (I 0)) 15 (.ref 15 none 0 0 0)) 6 (.ref 24 none 0 0 0),hh⟩)∧hh 2=o2∧hh 15=.bx [.sl 1 (be (aS v)),B c.neg,lm c.m,I c.e]∧hh 24=cd (aS v) [x] p∧(∀ a,a ≠ 2→a ≠ 15→a ≠ 24→hh a=.dead):=by
 subst hX
 exact adT h8 c2 v 0 (Nat.zero_add _) s h g6 g15 g16 g82 g83 g84 g89 g90 g91 k2 k15 k21 k24 k2624
theorem ag9 (h:ab) (i:Nat) (xs:List AV) (a b:AV) (r:List (List AV)):xd h 7 24 1 7 i 0 xs [] (.bx [a,.osl 7 r,b])=(rS 7 7 i 0 xs 7 r).map fun q=>(.und,upd h 24 (.bx [a,.osl 7 q,b]),[]):=rfl
theorem Mz (a b:AV) (k:Nat) (r:List (List AV)):go 1 (.bx [a,.osl k r,b])=some (k,r):=rfl
theorem Uh {v:Nat} {p:Int} {c:Rd} (h8:v≤8) (oc:Ok0 c) (vc:vd c=true):R F.bound_gridOf [.agg [I v,.sl 4 (bp [⟨aS v,c⟩])],I p] []=some (.tup [.obx [.osl 1 (be (aS v)),.osl 7 [aK ⟨c,c,false⟩],I p],B true],[]):=by
 refine aE yI yH (uE false) rfl ?_
 have z1:lz (.v (.int .i64 (v:Int))) (.v (.int .i64 (v:Int)))=some (v,v):=by
  simp only [lz]
  rw [if_pos ⟨by omega,by omega,by omega⟩]
  rfl
 have z2:(v*8≤140737488355328)=True:=eq_true (by omega)
 have e0:((0:Int) < 1)=True:=tt (by decide)
 have e1:((1:Int) < 1)=False:=ff (by decide)
 have e2:bu (bp [⟨aS v,c⟩]) 0=some (.ipt (cw ⟨aS v,c⟩)):=rfl
 have e7:(aS v).length=v:=by simp [aS]
 have w1:IntKind.i64.wrap ((0:Int)+1)=1:=by decide
 have hl:(be (aS v)).length=v:=by rw [sM,e7]
 have h3:=alM (p:=p) h8 (o2:=.bx [I v,.sl 4 (bp [⟨aS v,c⟩])]) (o8:=.bx [.sl 1 (be (aS v)),B c.neg,lm c.m,I c.e]) (fun _=>rfl) (fun _=>rfl) (A:=[⟨aS v,c⟩]) (nA:=1) (iA:=0)
 have h0:=alN (p:=p) (x:=wR) (c:=c) h8 (o2:=.bx [I v,.sl 4 (bp [⟨aS v,c⟩])]) (fun _=>rfl) (A:=[⟨aS v,c⟩]) (nA:=1) (iA:=0)
 simp only [cw] at e2
 have hr:(bp [⟨aS v,c⟩]).length=1:=rfl
 generalize bp [⟨aS v,c⟩]=rows at *
 simp only [mT,se,go_sem,auA,auz,auB,List.length_nil,z1,z2,wU]
 rw [aaL (k:=1) (rows:=be (aS v)) rfl hl.symm rfl (by decide)]
 simp only [go_sem,auA,auz,auD,hr,Int.natCast_one]
 rw [ao]
 simp only [o6,go_sem,auA,auz,auB,auD,e0,e2,e7]
 generalize hX:aB 2 _ _=X
 obtain ⟨hh,rfl,q2,q24,q21,q2624⟩:=h3 _ _ _ hX rfl rfl rfl rfl rfl rfl rfl rfl rfl rfl rfl rfl rfl
 simp only [go_sem,w1]
 rw [ao]
 simp only [go_sem,auA,auz,auD,e1,q2,q24,q21,q2624]
 generalize hX:aB 4 _ _=X
 have hM:=afb (ds:=aS v) (p:=p) rfl (by rw [e7]; omega) DA (o2:=.bx [I v,.sl 4 rows]) (fun _=>rfl) _ _ _ hX rfl rfl rfl (by rw [e7]; rfl) (by rw [e7]; rfl) rfl rfl rfl rfl rfl
 rw [GG] at hM
 obtain ⟨hh,rfl,q2,q24,qd⟩:=hM
 have hpt:=jr bq.2 bq.1
 have hrp:=IK (x:=wR)
 have d1:hh 2600=.dead:=qd _ (by decide) (by decide)
 have d2:hh 76=.dead:=qd _ (by decide) (by decide)
 have d3:hh 2624=.dead:=qd _ (by decide) (by decide)
 have d4:hh 21=.dead:=qd _ (by decide) (by decide)
 simp only [ae,aj,aC,aK,aX,wR] at hpt hrp
 simp only [aK,go_sem,auA,auz,auB,auC,q24,d1,d2,d3,hpt,hrp]
 rw [rJ (h:=upd (upd (upd hh 76 _) 76 _) 2624 (.ar 7 [[B false,lm [],I 0,B false,lm [],I 0,B false]])) (id:=24) (p:=1) (id2:=2624) (k:=7) (n:=1) rfl rfl q24 (by decide) (by show 1 < 3; decide)]
 simp only [go_sem,auA,auz,auD,aaK,Bool.false_eq_true,q2,hr,Int.natCast_one]
 rw [ao]
 simp only [o5,go_sem,auA,auz,auB,auD,q2,d4,e0,e2,e7]
 generalize hX:aB 8 _ _=X
 obtain ⟨hh1,rfl,r2,r15,r24,rd⟩:=h0 _ _ _ hX rfl rfl rfl rfl rfl rfl rfl rfl rfl rfl rfl rfl rfl rfl
 have b1:hh1 2888=.dead:=rd _ (by decide) (by decide) (by decide)
 have b3:hh1 2624=.dead:=rd _ (by decide) (by decide) (by decide)
 have b4:hh1 21=.dead:=rd _ (by decide) (by decide) (by decide)
 have hpc:=jr oc vc
 simp only [cd,da,List.map,aK,wR,aX] at r24
 simp only [ae,aj,aC,aK] at hpc
 simp only [go_sem,auA,auz,auB,auC,auD,r15,r24,b1,hpc,Int.toNat_zero,Int.le_refl,ag9,Int.natCast_one,e0,rS,List.getElem?_cons_zero,Option.bind_some,List.length_cons,List.length_nil,setRow]
 rw [ao]
 simp only [go_sem,auD,b3,b4,e1,w1,r2]
 rfl
end Go.Ab
namespace Go.Ab
open Go Go.IntWalk
set_option maxRecDepth 4000
set_option maxHeartbeats 4000000
theorem OM {f:FuncId} {fd:FD} {args:List AV} {os:List Ob} {r:AV × List Ob} (hE:ah.E f=none) (hC:ah.C f=some fd) (hk:ah.md.keep f=false) (h1:args.length=fd.np) (h2:os.length≤1000)
  (hz:gq false fd.rs fd.res os.length (am R (aO false) fd.body (oT args) (ak os))=some r):R f args os=some r :=
 HF false hE hC hk h1 h2 hz
theorem RZ (a b c d e:Ob):ak [a,b,c,d,e]=upd (upd (upd (upd (upd (fun _=>.dead) 1004 e) 1003 d) 1002 c) 1001 b) 1000 a:=by
 funext i
 unfold ak upd
 by_cases h0:i=1000
 ·subst h0; rfl
 by_cases h1:i=1001
 ·subst h1; rfl
 by_cases h2:i=1002
 ·subst h2; rfl
 by_cases h3:i=1003
 ·subst h3; rfl
 by_cases h4:i=1004
 ·subst h4; rfl
 simp only [h0,h1,h2,h3,h4,if_false]
 by_cases h5:1000≤i
 ·rw [if_pos h5,List.getElem?_eq_none (by simp; omega)]; rfl
 ·rw [if_neg h5]
theorem R1 (a b c:Ob):ak [a,b,c]=upd (upd (upd (fun _=>.dead) 1002 c) 1001 b) 1000 a:=by
 funext i
 unfold ak upd
 by_cases h0:i=1000
 ·subst h0; rfl
 by_cases h1:i=1001
 ·subst h1; rfl
 by_cases h2:i=1002
 ·subst h2; rfl
 simp only [h0,h1,h2,if_false]
 by_cases h5:1000≤i
 ·rw [if_pos h5,List.getElem?_eq_none (by simp; omega)]; rfl
 ·rw [if_neg h5]
def j7 (x:Ri):Ob:=.bx [B x.lo.neg,lm x.lo.m,I x.lo.e,B x.hi.neg,lm x.hi.m,I x.hi.e,B x.all]
theorem XU {l st:Int} {lo w:Ri} {ds:List Int} {cs:List Ri} {p:Int} :
  R F.bound_grid_unit_1 [I l,I st,.ref 1000 none 0 0 0,.ref 1001 none 0 0 0,.ref 1002 none 0 0 0,.ref 1003 none 0 0 0] [.bx [I 0],.bx [.ref 1004 none 0 0 0],j7 lo,j7 w,cd ds cs p]=some (.tup [],[.bx [I 0],.bx [.ref 1004 none 0 0 0],j7 lo,j7 w,cd ds cs p]):=by
 refine OM A3 AZ (pD false) rfl (Nat.le_of_ble_eq_true rfl) ?_
 have e1:((0:Int) < 0)=False:=ff (by decide)
 have e2:((1:Int)≤0)=False:=ff (by decide)
 have hi:=Rr
 have hp:=jr tM.2 tM.1
 simp only [lN,rP,RZ,j7,cd,go_sem,auA,auz]
 simp only [ae,aj,aC,aK] at hi hp
 generalize one=c1 at *
 rw [ao]
 simp only [px,go_sem,auA,auz,auB,auD,e1,hi,hp]
 rw [ao]
 simp only [pv,go_sem,auA,auz,auD,e2]
 rfl
theorem XV {l st:Int} {ds:List Int} {cs:List Ri} {p:Int} :
  R F.bound_grid_bernstein_1 [I l,I st,.ref 1000 none 0 0 0,.ref 1001 none 0 0 0] [.bx [I 0],.bx [.ref 1002 none 0 0 0],cd ds cs p]=some (.tup [],[.bx [I 0],.bx [.ref 1002 none 0 0 0],cd ds cs p]):=by
 refine OM wv wu (ll false) rfl (Nat.le_of_ble_eq_true rfl) ?_
 have e2:((1:Int)≤0)=False:=ff (by decide)
 have hi:=Rr
 have hp:=jr tM.2 tM.1
 simp only [ae,aj,aC,aK] at hi hp
 generalize one=c1 at *
 simp only [iH,nF,R1,cd,go_sem,auA,auz,auB,hi,hp]
 rw [ao]
 simp only [lk,go_sem,auA,auz,auD,e2]
 rw [ao]
 simp only [lj,go_sem,auA,auz,auD,e2]
 rfl
theorem DC (x:Ri):OC (j7 x):=⟨fun _=>rfl,rfl,fun _=>rfl,rfl⟩
theorem XW {l st:Int} {lo w:Ri} {ds:List Int} {cs:List Ri} {p:Int} {h:ab} {d:Nat} (h0:h 1000=cd ds cs p) (h1:h 1001=.bx [I 0]) (h2:h 1002=.bx [.ref 1000 none 0 0 0]) (h3:h 1003=j7 lo) (h4:h 1004=j7 w) (_hf:h (2000+8*d)=.dead) :
  bA R (aO false) h d [I l,I st] (.fn F.bound_grid_unit_1 [] [.ref 1001 none 0 0 0,.ref 1002 none 0 0 0,.ref 1003 none 0 0 0,.ref 1004 none 0 0 0])=some (.tup [],upd (upd (upd (upd (upd h 1001 (.bx [I 0])) 1002 (.bx [.ref 1000 none 0 0 0])) 1003 (j7 lo)) 1004 (j7 w)) 1000 (cd ds cs p),[(1001,true),(1002,true),(1003,true),(1004,true),(1000,true)]):=by
 have hre:bW h 40 [1001,1002,1003,1004] 0=[1001,1002,1003,1004,1000]:=by
  have i0:j8 (cd ds cs p)=[]:=(it ds cs p).ids
  have i1:j8 (.bx [I 0])=[]:=rfl
  have i2:j8 (.bx [.ref 1000 none 0 0 0])=[1000]:=rfl
  have i3:j8 (j7 lo)=[]:=(DC lo).ids
  have i4:j8 (j7 w)=[]:=(DC w).ids
  simp [bW,h0,h1,h2,h3,h4,i0,i1,i2,i3,i4,bE]
 unfold bA
 rw [if_neg (by simp [iY,jw])]
 have hin:bH h [] [I l,I st,.ref 1001 none 0 0 0,.ref 1002 none 0 0 0,.ref 1003 none 0 0 0,.ref 1004 none 0 0 0]=some ([I l,I st,.ref 1001 none 0 0 0,.ref 1002 none 0 0 0,.ref 1003 none 0 0 0,.ref 1004 none 0 0 0],h,[]):=rfl
 have hids:bE [] ([I l,I st,AV.ref 1001 none 0 0 0,.ref 1002 none 0 0 0,.ref 1003 none 0 0 0,.ref 1004 none 0 0 0].flatMap bI)=[1001,1002,1003,1004]:=rfl
 simp only [dm,jw,List.nil_append,List.cons_append,hin,Option.bind_some,hids,hre,zU]
 have hn:bg [] [I l,I st,AV.ref 1001 none 0 0 0,.ref 1002 none 0 0 0,.ref 1003 none 0 0 0,.ref 1004 none 0 0 0]=[I l,I st,AV.ref 1001 none 0 0 0,.ref 1002 none 0 0 0,.ref 1003 none 0 0 0,.ref 1004 none 0 0 0]:=rfl
 rw [hn]
 unfold ix
 have hob:([1001,1002,1003,1004,1000].map fun a=>cY (bm [1001,1002,1003,1004,1000]) (h a))=[.bx [I 0],.bx [.ref 1004 none 0 0 0],j7 lo,j7 w,cd ds cs p]:=by
  simp only [List.map,h0,h1,h2,h3,h4]
  rfl
 have hcl:([1001,1002,1003,1004,1000].all fun a=>aT [1001,1002,1003,1004,1000] (h a) && !cf (h a))=true:=by
  simp only [List.all_cons,List.all_nil,h0,h1,h2,h3,h4]
  rfl
 rw [hob,hcl,if_pos (by rfl)]
 have hR:=XU (l:=l) (st:=st) (lo:=lo) (w:=w) (ds:=ds) (cs:=cs) (p:=p)
 rw [show [I l,I st,AV.ref 1001 none 0 0 0,.ref 1002 none 0 0 0,.ref 1003 none 0 0 0,.ref 1004 none 0 0 0].map (dh (bm [1001,1002,1003,1004,1000]))=[I l,I st,.ref 1000 none 0 0 0,.ref 1001 none 0 0 0,.ref 1002 none 0 0 0,.ref 1003 none 0 0 0] from rfl,hR,Option.bind_some,pD,jw,sL]
 unfold dN
 rw [if_pos ⟨rfl,Nat.le_of_ble_eq_true rfl,Nat.le_of_ble_eq_true rfl,by simp [cV,cx],by simp [cW,h0,h1,h2,h3,h4,j7,cd,bf,cf],rfl⟩]
 rfl
theorem XX {l st:Int} {ds:List Int} {cs:List Ri} {p:Int} {h:ab} {d:Nat} (h0:h 1000=cd ds cs p) (h1:h 1001=.bx [I 0]) (h2:h 1002=.bx [.ref 1000 none 0 0 0]) (_hf:h (2000+8*d)=.dead) :
  bA R (aO false) h d [I l,I st] (.fn F.bound_grid_bernstein_1 [] [.ref 1001 none 0 0 0,.ref 1002 none 0 0 0])=some (.tup [],upd (upd (upd h 1001 (.bx [I 0])) 1002 (.bx [.ref 1000 none 0 0 0])) 1000 (cd ds cs p),[(1001,true),(1002,true),(1000,true)]):=by
 have hre:bW h 40 [1001,1002] 0=[1001,1002,1000]:=by
  have i0:j8 (cd ds cs p)=[]:=(it ds cs p).ids
  have i1:j8 (.bx [I 0])=[]:=rfl
  have i2:j8 (.bx [.ref 1000 none 0 0 0])=[1000]:=rfl
  simp [bW,h0,h1,h2,i0,i1,i2,bE]
 unfold bA
 rw [if_neg (by simp [iY,fQ])]
 have hin:bH h [] [I l,I st,.ref 1001 none 0 0 0,.ref 1002 none 0 0 0]=some ([I l,I st,.ref 1001 none 0 0 0,.ref 1002 none 0 0 0],h,[]):=rfl
 have hids:bE [] ([I l,I st,AV.ref 1001 none 0 0 0,.ref 1002 none 0 0 0].flatMap bI)=[1001,1002]:=rfl
 simp only [dm,fQ,List.nil_append,List.cons_append,hin,Option.bind_some,hids,hre,uV]
 have hn:bg [] [I l,I st,AV.ref 1001 none 0 0 0,.ref 1002 none 0 0 0]=[I l,I st,AV.ref 1001 none 0 0 0,.ref 1002 none 0 0 0]:=rfl
 rw [hn]
 unfold ix
 have hob:([1001,1002,1000].map fun a=>cY (bm [1001,1002,1000]) (h a))=[.bx [I 0],.bx [.ref 1002 none 0 0 0],cd ds cs p]:=by
  simp only [List.map,h0,h1,h2]
  rfl
 have hcl:([1001,1002,1000].all fun a=>aT [1001,1002,1000] (h a) && !cf (h a))=true:=by
  simp only [List.all_cons,List.all_nil,h0,h1,h2]
  rfl
 rw [hob,hcl,if_pos (by rfl)]
 have hR:=XV (l:=l) (st:=st) (ds:=ds) (cs:=cs) (p:=p)
 rw [show [I l,I st,AV.ref 1001 none 0 0 0,.ref 1002 none 0 0 0].map (dh (bm [1001,1002,1000]))=[I l,I st,.ref 1000 none 0 0 0,.ref 1001 none 0 0 0] from rfl,hR,Option.bind_some,ll,fQ,sL]
 unfold dN
 rw [if_pos ⟨rfl,Nat.le_of_ble_eq_true rfl,Nat.le_of_ble_eq_true rfl,by simp [cV,cx],by simp [cW,h0,h1,h2,cd,bf,cf],rfl⟩]
 rfl
theorem Ol {n i:Nat} {lo w x:Ri} {p:Int} (h8:n≤8) (hi:i < n) :
  R F.bound_grid_lines [.ref 1000 none 0 0 0,I i,.fn F.bound_grid_unit_1 [] [.ref 1001 none 0 0 0,.ref 1002 none 0 0 0,.ref 1003 none 0 0 0,.ref 1004 none 0 0 0]] [cd (aS n) [x] p,.bx [I 0],.bx [.ref 1000 none 0 0 0],j7 lo,j7 w]=some (.tup [],[cd (aS n) [x] p,.bx [I 0],.bx [.ref 1000 none 0 0 0],j7 lo,j7 w]):=by
 refine OM tF tE (gV false) rfl (Nat.le_of_ble_eq_true rfl) ?_
 have e1:((0:Int) < 1)=True:=tt (by decide)
 have e2:((1:Int) < 1)=False:=ff (by decide)
 have e3:=vJ hi
 have hg:=(it (aS n) [x] p).cl [1000,1001,1002,1003,1004]
 have ho:=(DC lo).cl [1000,1001,1002,1003,1004]
 have hw:=(DC w).cl [1000,1001,1002,1003,1004]
 have hst:=fun (h:ab) (d:Nat) (hh:h 1000=cd (aS n) [x] p) (hd:h (2000+8*d)=.dead)=>lu (iq false) rfl (CK (m:=i) (by simp [aS]; omega) (by omega) DA (d:=d) hh hd)
 rw [DB] at hst
 simp only [ju,nE,RZ,go_sem,auz]
 rw [hst _ _ rfl rfl]
 have hc:=fun (h:ab) (d:Nat) (h0:h 1000=cd (aS n) [x] p) h1 h2 h3 h4 hf=>XW (l:=0) (st:=1) (lo:=lo) (w:=w) (h:=h) (d:=d) h0 h1 h2 h3 h4 hf
 simp only [cd] at hg hc ⊢
 simp only [go_sem,auA,auz]
 rw [ao]
 have e5:(da [x]).length=1:=rfl
 have e6:((i:Nat):Int).toNat=i:=Int.toNat_natCast _
 have e7:(0≤(i:Int))=True:=tt (by omega)
 have e8:((i:Int) < ((aS n).length:Int))=True:=tt (by simp [aS]; omega)
 have d1:((1:Int)=0)=False:=by simp
 have d2:IntKind.i64.wrap (Int.tdiv 0 1)=0:=by decide
 have d3:IntKind.i64.wrap ((0:Int)+1)=1:=by decide
 have d4:IntKind.i64.wrap (Int.tmod 0 1)=0:=by decide
 have d5:(Int.tmod 0 1=0)=True:=by simp
 simp only [kG,go_sem,auA,auC,auD,e1,e6,e7,e8,d1,d2,d3,d5,e3,hg,ho,hw,Int.natCast_one,Nat.zero_add,lv,qA]
 rw [hc _ _ rfl rfl rfl rfl rfl rfl]
 simp only [go_sem,auD,d3]
 rw [ao]
 simp only [go_sem,auD,e2,hg,ho,hw]
 rfl
theorem Om {n i:Nat} {x:Ri} {p:Int} (h8:n≤8) (hi:i < n) :
  R F.bound_grid_lines [.ref 1000 none 0 0 0,I i,.fn F.bound_grid_bernstein_1 [] [.ref 1001 none 0 0 0,.ref 1002 none 0 0 0]] [cd (aS n) [x] p,.bx [I 0],.bx [.ref 1000 none 0 0 0]]=some (.tup [],[cd (aS n) [x] p,.bx [I 0],.bx [.ref 1000 none 0 0 0]]):=by
 refine OM tF tE (gV false) rfl (Nat.le_of_ble_eq_true rfl) ?_
 have e1:((0:Int) < 1)=True:=tt (by decide)
 have e2:((1:Int) < 1)=False:=ff (by decide)
 have e3:=vJ hi
 have hg:=(it (aS n) [x] p).cl [1000,1001,1002]
 have hst:=fun (h:ab) (d:Nat) (hh:h 1000=cd (aS n) [x] p) (hd:h (2000+8*d)=.dead)=>lu (iq false) rfl (CK (m:=i) (by simp [aS]; omega) (by omega) DA (d:=d) hh hd)
 rw [DB] at hst
 simp only [ju,nE,R1,go_sem,auz]
 rw [hst _ _ rfl rfl]
 have hc:=fun (h:ab) (d:Nat) (h0:h 1000=cd (aS n) [x] p) h1 h2 hf=>XX (l:=0) (st:=1) (h:=h) (d:=d) h0 h1 h2 hf
 simp only [cd] at hg hc ⊢
 simp only [go_sem,auA,auz]
 rw [ao]
 have e5:(da [x]).length=1:=rfl
 have e6:((i:Nat):Int).toNat=i:=Int.toNat_natCast _
 have e7:(0≤(i:Int))=True:=tt (by omega)
 have e8:((i:Int) < ((aS n).length:Int))=True:=tt (by simp [aS]; omega)
 have d1:((1:Int)=0)=False:=by simp
 have d2:IntKind.i64.wrap (Int.tdiv 0 1)=0:=by decide
 have d3:IntKind.i64.wrap ((0:Int)+1)=1:=by decide
 have d4:IntKind.i64.wrap (Int.tmod 0 1)=0:=by decide
 have d5:(Int.tmod 0 1=0)=True:=by simp
 simp only [kG,go_sem,auA,auC,auD,e1,e6,e7,e8,d1,d2,d3,d5,e3,Int.natCast_one,Nat.zero_add,lv,qA]
 rw [hc _ _ rfl rfl rfl rfl]
 simp only [go_sem,auD,d3]
 rw [ao]
 simp only [go_sem,auD,e2]
 rfl
end Go.Ab
namespace Go.Ab
open Go Go.IntWalk
set_option maxRecDepth 4000
set_option maxHeartbeats 4000000
theorem R2 {f:FuncId} {h:ab} {d:Nat} {zas as':List AV} {r:Option R3} (hm:(aO false).m f=[]) (hd:bH h [] zas=some (as',h,[])) (hc:bA R (aO false) h d zas (.fn f [] [])=r):Hr R (aO false) d f (as',h,[])=r:=by
 rw [zJ d hm,hd] at hc
 exact hc
theorem IL {n i:Nat} {lo w x:Ri} {p:Int} (h8:n≤8) (hi:i < n) {h:ab} {d:Nat} (h0:h 1000=cd (aS n) [x] p) (h1:h 8=.bx [I 0]) (h2:h 3=.bx [.ref 1000 none 0 0 0]) (h3:h 6=j7 lo) (h4:h 7=j7 w) (_hf:h (2000+8*d)=.dead) :
  bA R (aO false) h d [.ref 1000 none 0 0 0,I i,.fn F.bound_grid_unit_1 [] [.ref 8 none 0 0 0,.ref 3 none 0 0 0,.ref 6 none 0 0 0,.ref 7 none 0 0 0]] (.fn F.bound_grid_lines [] [])=some (.tup [],upd (upd (upd (upd (upd h 1000 (cd (aS n) [x] p)) 8 (.bx [I 0])) 3 (.bx [.ref 1000 none 0 0 0])) 6 (j7 lo)) 7 (j7 w),[(1000,true),(8,true),(3,true),(6,true),(7,true)]):=by
 have hre:bW h 40 [1000,8,3,6,7] 0=[1000,8,3,6,7]:=by
  have i0:j8 (cd (aS n) [x] p)=[]:=(it _ _ p).ids
  have i1:j8 (.bx [I 0])=[]:=rfl
  have i2:j8 (.bx [.ref 1000 none 0 0 0])=[1000]:=rfl
  have i3:j8 (j7 lo)=[]:=(DC lo).ids
  have i4:j8 (j7 w)=[]:=(DC w).ids
  simp [bW,h0,h1,h2,h3,h4,i0,i1,i2,i3,i4,bE]
 unfold bA
 rw [if_neg (by simp [iY,cU])]
 have hin:bH h [] [.ref 1000 none 0 0 0,I i,.fn F.bound_grid_unit_1 [] [.ref 8 none 0 0 0,.ref 3 none 0 0 0,.ref 6 none 0 0 0,.ref 7 none 0 0 0]]=some ([.ref 1000 none 0 0 0,I i,.fn F.bound_grid_unit_1 [] [.ref 8 none 0 0 0,.ref 3 none 0 0 0,.ref 6 none 0 0 0,.ref 7 none 0 0 0]],h,[]):=rfl
 have hids:bE [] ([AV.ref 1000 none 0 0 0,I i,.fn F.bound_grid_unit_1 [] [.ref 8 none 0 0 0,.ref 3 none 0 0 0,.ref 6 none 0 0 0,.ref 7 none 0 0 0]].flatMap bI)=[1000,8,3,6,7]:=rfl
 simp only [dm,cU,List.nil_append,List.append_nil,hin,Option.bind_some,hids,hre,rQ]
 have hn:bg [] [AV.ref 1000 none 0 0 0,I i,.fn F.bound_grid_unit_1 [] [.ref 8 none 0 0 0,.ref 3 none 0 0 0,.ref 6 none 0 0 0,.ref 7 none 0 0 0]]=[AV.ref 1000 none 0 0 0,I i,.fn F.bound_grid_unit_1 [] [.ref 8 none 0 0 0,.ref 3 none 0 0 0,.ref 6 none 0 0 0,.ref 7 none 0 0 0]]:=rfl
 rw [hn]
 unfold ix
 have hob:([1000,8,3,6,7].map fun a=>cY (bm [1000,8,3,6,7]) (h a))=[cd (aS n) [x] p,.bx [I 0],.bx [.ref 1000 none 0 0 0],j7 lo,j7 w]:=by
  simp only [List.map,h0,h1,h2,h3,h4]
  rfl
 have hcl:([1000,8,3,6,7].all fun a=>aT [1000,8,3,6,7] (h a) && !cf (h a))=true:=by
  simp only [List.all_cons,List.all_nil,h0,h1,h2,h3,h4]
  rfl
 rw [hob,hcl,if_pos (by rfl)]
 have hR:=Ol (lo:=lo) (w:=w) (x:=x) (p:=p) h8 hi
 rw [show [AV.ref 1000 none 0 0 0,I i,.fn F.bound_grid_unit_1 [] [.ref 8 none 0 0 0,.ref 3 none 0 0 0,.ref 6 none 0 0 0,.ref 7 none 0 0 0]].map (dh (bm [1000,8,3,6,7]))=[.ref 1000 none 0 0 0,I i,.fn F.bound_grid_unit_1 [] [.ref 1001 none 0 0 0,.ref 1002 none 0 0 0,.ref 1003 none 0 0 0,.ref 1004 none 0 0 0]] from rfl,hR,Option.bind_some,gV,cU,sL]
 unfold dN
 rw [if_pos ⟨rfl,Nat.le_of_ble_eq_true rfl,Nat.le_of_ble_eq_true rfl,by simp [cV,cx],by simp [cW,h0,h1,h2,h3,h4,j7,cd,bf,cf],rfl⟩]
 rfl
theorem IM {n i:Nat} {x:Ri} {p:Int} (h8:n≤8) (hi:i < n) {h:ab} {d:Nat} (h0:h 1000=cd (aS n) [x] p) (h1:h 4=.bx [I 0]) (h2:h 2=.bx [.ref 1000 none 0 0 0]) (_hf:h (2000+8*d)=.dead) :
  bA R (aO false) h d [.ref 1000 none 0 0 0,I i,.fn F.bound_grid_bernstein_1 [] [.ref 4 none 0 0 0,.ref 2 none 0 0 0]] (.fn F.bound_grid_lines [] [])=some (.tup [],upd (upd (upd h 1000 (cd (aS n) [x] p)) 4 (.bx [I 0])) 2 (.bx [.ref 1000 none 0 0 0]),[(1000,true),(4,true),(2,true)]):=by
 have hre:bW h 40 [1000,4,2] 0=[1000,4,2]:=by
  have i0:j8 (cd (aS n) [x] p)=[]:=(it _ _ p).ids
  have i1:j8 (.bx [I 0])=[]:=rfl
  have i2:j8 (.bx [.ref 1000 none 0 0 0])=[1000]:=rfl
  simp [bW,h0,h1,h2,i0,i1,i2,bE]
 unfold bA
 rw [if_neg (by simp [iY,cU])]
 have hin:bH h [] [.ref 1000 none 0 0 0,I i,.fn F.bound_grid_bernstein_1 [] [.ref 4 none 0 0 0,.ref 2 none 0 0 0]]=some ([.ref 1000 none 0 0 0,I i,.fn F.bound_grid_bernstein_1 [] [.ref 4 none 0 0 0,.ref 2 none 0 0 0]],h,[]):=rfl
 have hids:bE [] ([AV.ref 1000 none 0 0 0,I i,.fn F.bound_grid_bernstein_1 [] [.ref 4 none 0 0 0,.ref 2 none 0 0 0]].flatMap bI)=[1000,4,2]:=rfl
 simp only [dm,cU,List.nil_append,List.append_nil,hin,Option.bind_some,hids,hre,rQ]
 have hn:bg [] [AV.ref 1000 none 0 0 0,I i,.fn F.bound_grid_bernstein_1 [] [.ref 4 none 0 0 0,.ref 2 none 0 0 0]]=[AV.ref 1000 none 0 0 0,I i,.fn F.bound_grid_bernstein_1 [] [.ref 4 none 0 0 0,.ref 2 none 0 0 0]]:=rfl
 rw [hn]
 unfold ix
 have hob:([1000,4,2].map fun a=>cY (bm [1000,4,2]) (h a))=[cd (aS n) [x] p,.bx [I 0],.bx [.ref 1000 none 0 0 0]]:=by
  simp only [List.map,h0,h1,h2]
  rfl
 have hcl:([1000,4,2].all fun a=>aT [1000,4,2] (h a) && !cf (h a))=true:=by
  simp only [List.all_cons,List.all_nil,h0,h1,h2]
  rfl
 rw [hob,hcl,if_pos (by rfl)]
 have hR:=Om (x:=x) (p:=p) h8 hi
 rw [show [AV.ref 1000 none 0 0 0,I i,.fn F.bound_grid_bernstein_1 [] [.ref 4 none 0 0 0,.ref 2 none 0 0 0]].map (dh (bm [1000,4,2]))=[.ref 1000 none 0 0 0,I i,.fn F.bound_grid_bernstein_1 [] [.ref 1001 none 0 0 0,.ref 1002 none 0 0 0]] from rfl,hR,Option.bind_some,gV,cU,sL]
 unfold dN
 rw [if_pos ⟨rfl,Nat.le_of_ble_eq_true rfl,Nat.le_of_ble_eq_true rfl,by simp [cV,cx],by simp [cW,h0,h1,h2,cd,bf,cf],rfl⟩]
 rfl
theorem aaN {h:ab} {id id2:Nat} {cs:List AV} {a:AV} (h1:h id2=.bx cs) (h2:h id=.bx [.any]):EP id 0 [.ref id2 none 0 0 0] (a,h,[])=some (a,upd h id (.bx [.ref id2 none 0 0 0]),[]):=by
 have k3:bd .any=false:=rfl
 simp [EP,lZ,Aw,inP,h1,h2,EO,uG,k3]
theorem aaO {n i:Nat} {x:Ri} {p:Int} (h8:n≤8) (hi:i < n):R F.bound_grid_bernstein [.ref 1000 none 0 0 0,I i] [cd (aS n) [x] p]=some (.tup [],[cd (aS n) [x] p]):=by
 refine te x5 xZ (m8 false) rfl ?_
 have e3:=vJ hi
 have e7:(0≤(i:Int))=True:=tt (by omega)
 have e8:((i:Int) < ((aS n).length:Int))=True:=tt (by simp [aS]; omega)
 have hl:=fun (h:ab) (d:Nat) h0 h1 h2 hf=>R2 (cU false) rfl (IM (x:=x) (p:=p) h8 hi (h:=h) (d:=d) h0 h1 h2 hf)
 simp only [cd] at hl ⊢
 simp only [jC,pu,go_sem,Nat.zero_add]
 rw [aaN (cs:=[.osl 1 (be (aS n)),.osl 7 (da [x]),I p]) rfl rfl]
 simp only [go_sem,auA,auB,e3,e7,e8,sM,Int.toNat_natCast,Nat.zero_add,lv,qA]
 rw [hl _ _ rfl rfl rfl rfl]
 simp only [go_sem]
 rfl
theorem aaP {n i:Nat} {x b:Ri} {p:Int} (h8:n≤8) (hi:i < n) (ok:Ok0 b.lo) (vl:vd b.lo=true) (ok2:Ok0 b.hi) (vh:vd b.hi=true):R F.bound_grid_unit [.ref 1000 none 0 0 0,I i,aC b] [cd (aS n) [x] p]=some (.tup [],[cd (aS n) [x] p]):=by
 refine te DV DU (ru false) rfl ?_
 have e3:=vJ hi
 have e7:(0≤(i:Int))=True:=tt (by omega)
 have e8:((i:Int) < ((aS n).length:Int))=True:=tt (by simp [aS]; omega)
 have hl:=fun (h:ab) (d:Nat) (lo w:Ri) h0 h1 h2 h3 h4 hf=>R2 (cU false) rfl (IL (x:=x) (p:=p) (lo:=lo) (w:=w) h8 hi (h:=h) (d:=d) h0 h1 h2 h3 h4 hf)
 have p1:=jr ok vl
 have p2:=jr ok2 vh
 have p3:=agV (x:=⟨b.hi,b.hi,false⟩) (y:=⟨b.lo,b.lo,false⟩) ⟨ok2,ok2⟩ ⟨ok,ok⟩ (p:=p)
 generalize adB ⟨b.hi,b.hi,false⟩ ⟨b.lo,b.lo,false⟩ p=w at *
 have hl:=fun h d=>hl h d ⟨b.lo,b.lo,false⟩ w
 simp only [cd,j7] at hl ⊢
 simp only [ae,aj,aC,aK] at p1 p2 p3
 simp only [nC,uz,aC,aK,go_sem,Nat.zero_add]
 rw [aaN (cs:=[.osl 1 (be (aS n)),.osl 7 (da [x]),I p]) rfl rfl]
 simp only [go_sem,auA,auz,auB,auC,auD,e3,e7,e8,sM,Int.toNat_natCast,Nat.zero_add,lv,qA,p1,p2,p3]
 rw [hl _ _ rfl rfl rfl rfl rfl rfl]
 simp only [go_sem]
 rfl
end Go.Ab
namespace Go.Ab
open Go Go.IntWalk
set_option maxRecDepth 4000
set_option maxHeartbeats 4000000
def uv (v:Nat) (c:Rd):List Rt:=if c.m.length=0 then [] else [⟨aS v,c⟩]
def ej (v:Nat) (c:Rd):Rp:=⟨v,uv v c⟩
theorem DD:∀ v,bV (aS v)=0
 | 0=>rfl
 | v+1=>by
  have:=DD v
  show bV ((0:Int)::aS v)=0
  simp [bV] at this ⊢
  exact this
theorem ajq {v:Nat} {c:Rd} (h8:v≤8) (oc:Ok0 c) (vc:vd c=true) (h0:c.m.length ≠ 0):VT v ⟨aS v,c⟩ :=
 ⟨oc,by simp [aS],by omega,vc,h0,DA,by rw [DD]; decide⟩
theorem aaQ {call:dG} {md:Mode} {s:ag} {h:ab} (ps acc d k z b l c rest):bY call md ps acc (⟨some d,none,.mkSl k z b l c⟩::rest) s h=fI call md ps acc rest s (some d) (fun _=>some ([],[cI d])) ((lz (ev s l) (ev s c)).bind fun p=>if p.2*b≤140737488355328 then cG h d k (List.replicate p.1 z) p.1 [] else none):=dp _ _ _ _ rfl
theorem adU {v:Nat} {c:Rd} (h8:v≤8) (oc:Ok0 c) (vc:vd c=true):R F.poly_Const [I v,ae c] []=some (pV (ej v c,0),[]):=by
 refine aE P1 P0 (HL false) rfl ?_
 have hv:=eF oc
 rw [vc] at hv
 have he:=adK (v:=v)
 have z1:lz (.v (.int .i64 (v:Int))) (.v (.int .i64 (v:Int)))=some (v,v):=by
  simp only [lz]
  rw [if_pos ⟨by omega,by omega,by omega⟩]
  rfl
 have z2:(v*8≤140737488355328)=True:=eq_true (by omega)
 have e1:((v:Int) < 0)=False:=ff (by omega)
 have e2:(8 < (v:Int))=False:=ff (by omega)
 simp only [ae,aj] at hv
 by_cases h0:c.m.length=0
 ·have e3:(0 < (c.m.length:Int))=False:=ff (by omega)
  simp only [ej,uv,if_pos h0]
  simp only [pJ,v9,ae,aj,go_sem,auA,auz,auB,e1,e2,e3,hv,he,Mv]
  obtain ⟨o,hdn⟩:=Mu (v:=v) (e:=0) (c:=.emp) (l:=[]) (d:=32) (id:=2168) (h:=upd (upd (upd (fun _=>.dead) 3 (.bx [B c.neg,lm c.m,I c.e])) 4 (.bx [I 0,.emp])) 2168 (.bx [I v,.emp,I 0])) rfl (.inr ⟨rfl,rfl⟩) rfl
  have hd':=lu (gU false) rfl hdn
  rw [if_pos rfl] at hd'
  rw [hd']
  have e4:Al v (some [])=(⟨v,[]⟩,0):=rfl
  rw [e4]
  simp only [pV,dq,go_sem,auA,auz,auB,auD]
 ·have e3:(0 < (c.m.length:Int))=True:=tt (by omega)
  simp only [ej,uv,if_neg h0]
  simp only [pJ,v9,ae,aj,go_sem,auA,auz,auB,auC,e1,e2,e3,hv,he,Mv,aaQ,z1,z2,wU]
  have k1:(0+v≤(aS v).length)=True:=eq_true (by simp [aS])
  have k2:(be (aS v)).take v=be (aS v):=List.take_of_length_le (by rw [sM]; simp [aS])
  simp only [k1,k2,go_sem]
  have hadd:=lu (lV false) rfl (aaI (d:=30) (id:=2168) (v:=v) (e:=0) (e':=0) (c:=.emp) (l:=[]) (x:=aS v) (q:=c) (h:=upd (upd (upd (upd (upd (fun _=>.dead) 3 (.bx [B c.neg,lm c.m,I c.e])) 4 (.bx [I 0,.emp])) 2168 (.bx [I v,.emp,I 0])) 28 (.ar 1 (be (aS v)))) 28 (.fz 1 (be (aS v)))) rfl (.inr ⟨rfl,rfl⟩) (.inl rfl) (RW (ajq h8 oc vc h0)))
  simp only [ae,aj,t3] at hadd
  simp only [hadd,go_sem,auD]
  rw [if_pos (by rfl)]
  obtain ⟨o,hdn⟩:=Mu (v:=v) (e:=0) (c:=.osl 4 (bp [⟨aS v,c⟩])) (l:=[⟨aS v,c⟩]) (d:=32) (id:=2168) (h:=upd (upd (upd (upd (upd (upd (fun _=>.dead) 3 (.bx [B c.neg,lm c.m,I c.e])) 4 (.bx [I 0,.emp])) 2168 (.bx [I v,.emp,I 0])) 28 (.ar 1 (be (aS v)))) 28 (.fz 1 (be (aS v)))) 2168 (.bx [I v,.osl 4 (bp [⟨aS v,c⟩]),I 0])) rfl (.inl rfl) rfl
  have hd':=lu (gU false) rfl hdn
  rw [if_pos rfl] at hd'
  rw [hd']
  have e4:Al v (some [⟨aS v,c⟩])=(⟨v,[⟨aS v,c⟩]⟩,0):=rfl
  have e5:=K2 [⟨aS v,c⟩]
  rw [e4]
  simp only [pV,dq,e5,go_sem,auA,auz,auB,auD]
end Go.Ab
namespace Go.Ab
open Go Go.IntWalk
set_option maxRecDepth 4000
set_option maxHeartbeats 4000000
theorem Lf {v:Nat} {c:Rd} (h8:v≤8) (oc:Ok0 c):OkP (ej v c):=⟨fun t ht=>by
 unfold ej uv at ht
 split at ht
 ·exact nomatch ht
 ·rw [List.mem_singleton.1 ht]
  exact ⟨oc,by simp [aS]; omega⟩⟩
theorem aha (v:Nat):(aS v).any qj=false:=by
 rw [List.any_eq_false]
 intro x hx
 rw [List.eq_of_mem_replicate hx]
 decide
theorem vK {v:Nat} {c:Rd} (h8:v≤8) (vc:vd c=true):vp (ej v c)=true:=by
 have hl:((aS v).length:Int)=v:=by simp [aS]
 unfold vp ej uv
 by_cases h0:c.m.length=0
 ·rw [if_pos h0]
  simp [wN]
  omega
 ·rw [if_neg h0]
  simp [wN,y5,Gz,hl,vc,h0,aha,DD]
  omega
theorem Vs (p:Int):∀ (dom:List Ri) (v:Nat) (x:Ri),EL p dom (aS v) x=x
 | [],v,x=>by cases v <;> rfl
 | d::dom,0,x=>rfl
 | d::dom,v+1,x=>by
  show EL p dom (aS v) (if (0:Int) < 0 then _ else x)=x
  rw [if_neg (by decide)]
  exact Vs p dom v x
theorem CL:vd aX=true:=by decide
theorem adV {c:Rd} {p:Int}:bC p [aX,c]=bC p [c]:=by
 unfold bC
 rw [List.all_cons,CL,Bool.true_and]
theorem adW {c:Rd} {p:Int}:bC p [c,aX]=bC p [c]:=by
 unfold bC
 simp [CL]
theorem IN:zI aX=0:=gC rfl
theorem aaR {c:Rd} {p:Int} {up:Bool}:gB aX c p up=fS c p up:=by
 unfold gB fS
 rw [adV,IN,Int.zero_add]
theorem aaS {c:Rd} {p:Int} {up:Bool}:gB c aX p up=fS c p up:=by
 unfold gB fS
 rw [adW,IN,Int.add_zero]
theorem DE {c:Rd} (vc:vd c=true):kI ⟨c,c,false⟩=true:=by simp [kI,vi,vc]
theorem aaT {p:Int} (hp:fl p=true) {up:Bool}:fS aX p up=(aX,0):=by
 have hp2:8≤p∧p≤512:=by
  simp only [fl,Bool.and_eq_true,decide_eq_true_eq] at hp
  exact hp
 unfold fS bC
 rw [List.all_cons,List.all_nil,CL,if_pos (by rw [if_pos (by rfl),if_pos hp2]),IN]
 unfold nc
 rw [if_pos rfl]
theorem aaU {x:Rd} (vx:vd x=true):mP aX x=(aX,0):=by
 unfold mP
 rw [CL,vx,if_pos (by rfl),IN,Int.zero_mul]
 unfold dF
 rw [show (0:Int).natAbs=0 from rfl,gP]
 unfold dk
 rw [if_pos (by decide)]
theorem adX {c:Rd} {x:Ri} (kx:kI x=true) (vc:vd c=true) {p:Int} (hp:fl p=true):Dv c aX x p=jt ⟨c,c,false⟩ p:=by
 have hx:vd x.lo=true∧vd x.hi=true:=by
  simp only [kI,vi,Bool.and_eq_true,Bool.not_eq_true'] at kx
  rw [kx.1] at kx
  simp at kx
  exact ⟨kx.1,kx.2.1⟩
 unfold Dv Vf Vg
 rw [show cu aX=0 from rfl,if_neg (by decide),if_neg (by decide),aaU hx.1,aaU hx.2]
 unfold XP jt
 rw [if_pos ⟨rfl,rfl⟩,hp,DE vc,aaS,aaS]
 rfl
theorem MA {dom:List Ri} {c:Rd} (h8:dom.length≤8) (vc:vd c=true) {p:Int}:nP (ej dom.length c) dom p=if (dom.any fun x=>!kI x)=true then fD else jt ⟨c,c,false⟩ p:=by
 have hd:kX (ej dom.length c) dom=!(dom.any fun x=>!kI x):=by
  unfold kX
  rw [vK h8 vc]
  simp [ej]
 unfold nP jt
 rw [hd,DE vc]
 cases ha:(dom.any fun x=>!kI x) with
 | true=>simp
 | false =>
  cases hp:fl p with
  | false=>simp
  | true =>
   simp only [Bool.not_false,Bool.and_self,if_true,Bool.false_eq_true,if_false]
   unfold ej uv
   by_cases h0:c.m.length=0
   ·rw [if_pos h0]
    have hc:=oK vc h0
    subst hc
    rw [aaT hp,aaT hp]
    rfl
   ·rw [if_neg h0]
    show ut ⟨aX,aX,false⟩ (EL p dom (aS dom.length) ⟨c,c,false⟩) p=_
    rw [Vs]
    unfold ut
    rw [DE vc,DE CL,hp,aaR,aaR]
    rfl
theorem Vt {v:Nat} {c:Rd} (h8:v≤8) (vc:vd c=true):Dt (ej v c)=true:=by
 unfold Dt RL
 rw [vK h8 vc,if_pos rfl]
 unfold ej uv
 by_cases h0:c.m.length=0
 ·rw [if_pos h0]
  rfl
 ·rw [if_neg h0]
  show decide (bV (aS v)≤1)=true
  rw [DD]
  decide
theorem adY {c:Rd} (vc:vd c=true):yk (ej 1 c)=[c,aX]:=by
 unfold yk ej uv
 by_cases h0:c.m.length=0
 ·rw [if_pos h0,oK vc h0]
  rfl
 ·rw [if_neg h0]
  rfl
theorem adZ {c:Rd} (vc:vd c=true):OK ⟨c,c,false⟩ ⟨c,c,false⟩=⟨c,c,false⟩:=by
 have h1:fA c c=c:=by unfold fA; split <;> rfl
 have h2:fB c c=c:=by unfold fB; split <;> rfl
 unfold OK
 rw [DE vc,if_pos (by rfl),h1,h2]
end Go.Ab
namespace Go.Ab
open Go Go.IntWalk
set_option maxRecDepth 4000
set_option maxHeartbeats 4000000
theorem aaV {n i:Nat} {x b:Ri} {p:Int} (h8:n≤8) (hi:i < n) (ok:Ok0 b.lo) (vl:vd b.lo=true) (ok2:Ok0 b.hi) (vh:vd b.hi=true) {h:ab} {d id:Nat} (hh:h id=cd (aS n) [x] p) (_hf:h (2000+8*d)=.dead) :
  bA R (aO false) h d [.ref id none 0 0 0,I i,aC b] (.fn F.bound_grid_unit [] [])=some (.tup [],upd h id (cd (aS n) [x] p),[(id,true)]) :=
 An (pi false) (ru false) (as':=[I i,aC b]) (by rw [BY]; simp only [aC,aK,go_sem]) rfl rfl hh (it _ _ _) (it _ _ _) (fun _=>rfl) (aaP h8 hi ok vl ok2 vh) adJ (by decide) rfl
theorem aaW {n i:Nat} {x:Ri} {p:Int} (h8:n≤8) (hi:i < n) {h:ab} {d id:Nat} (hh:h id=cd (aS n) [x] p) (_hf:h (2000+8*d)=.dead) :
  bA R (aO false) h d [.ref id none 0 0 0,I i] (.fn F.bound_grid_bernstein [] [])=some (.tup [],upd h id (cd (aS n) [x] p),[(id,true)]) :=
 An (kg false) (m8 false) (as':=[I i]) (by rw [wX]; rfl) rfl rfl hh (it _ _ _) (it _ _ _) (fun _=>rfl) (aaO h8 hi) adJ (by decide) rfl
theorem ad0 {dom:List Ri} {x:Ri} {p:Int} (h8:dom.length≤8) (od:∀ b ∈ dom,OkI b) (kd:∀ b ∈ dom,vd b.lo=true∧vd b.hi=true) {c6:List AV} (hc6:aT [6,2368] (.bx c6)=true) :
  ∀ (k i:Nat),i+k=dom.length→∀ (s:ag) (h:ab),s 1=.sl 7 (da dom)→s 6=.ref 6 none 0 0 0→s 9=.ref 2368 none 0 0 0→s 56=I dom.length→s 57=I i→h 6=.bx c6→h 2368=cd (aS dom.length) [x] p →
  ∃ hh,aB 0 [6,9] (aD (am R (aO false) fJ) [1,6,9,56,57] [6,2368] s h)=some (.normal,⟨upd (upd (fun _=>.any) 9 (.ref 2368 none 0 0 0)) 6 (.ref 6 none 0 0 0),hh⟩)∧hh 6=.bx c6∧hh 2368=cd (aS dom.length) [x] p∧(∀ a,a ≠ 6→a ≠ 2368→hh a=.dead):=by
 intro k
 induction k with
 | zero =>
  intro i hi s h g1 g6 g9 g56 g57 k6 k2368
  have e1:((i:Int) < (dom.length:Int))=False:=ff (by omega)
  have hg:=(it (aS dom.length) [x] p).cl [6,2368]
  rw [ao]
  refine ⟨?hh0,?_,?_,?_,?_⟩
  rotate_left
  ·simp only [fJ,go_sem,auD,g1,g6,g9,g56,g57,k6,k2368,hc6,hg,e1]
   rfl
  ·rfl
  ·rfl
  ·intro a a1 a2
   simp only [gk,a1,a2,if_false]
 | succ k ih =>
  intro i hi s h g1 g6 g9 g56 g57 k6 k2368
  have hlt:i < dom.length:=by omega
  have e1:((i:Int) < (dom.length:Int))=True:=tt (by omega)
  have e2:bu (da dom) (i:Int)=some (.ipt (aK dom[i])):=KW rfl (List.getElem?_eq_getElem hlt)
  have e5:IntKind.i64.wrap ((i:Int)+1)=((i+1:Nat):Int):=wi (by omega) (by omega)
  have ob:=od dom[i] (List.getElem_mem hlt)
  have kb:=kd dom[i] (List.getElem_mem hlt)
  have hg:=(it (aS dom.length) [x] p).cl [6,2368]
  have ih':=ih (i+1) (by omega)
  have hu:=fun (h:ab) (d:Nat) hh hd=>lu (pi false) (by rfl) (aaV (x:=x) (p:=p) (h:=h) (d:=d) (id:=2368) h8 hlt ob.lo kb.1 ob.hi kb.2 hh hd)
  have hb:=fun (h:ab) (d:Nat) hh hd=>lu (kg false) (by rfl) (aaW (x:=x) (p:=p) (h:=h) (d:=d) (id:=2368) h8 hlt hh hd)
  generalize dom[i]=b at e2 hu ob kb
  rw [ao]
  generalize aD _ _ _=L at ih' ⊢
  simp only [aC,aK] at e2 hu
  simp only [fJ,go_sem,auz,auB,auD,g1,g6,g9,g56,g57,k6,k2368,hc6,hg,e1,e2]
  rw [hu _ _ rfl rfl]
  simp only [go_sem,auD]
  rw [hb _ _ rfl rfl]
  simp only [go_sem,auD,e5]
  refine ih' _ _ ?_ ?_ ?_ ?_ ?_ ?_ ?_
  all_goals first | rfl | assumption
theorem alO {dom:List Ri} {x:Ri} {p:Int} (h8:dom.length≤8) (od:∀ b ∈ dom,OkI b) (kd:∀ b ∈ dom,vd b.lo=true∧vd b.hi=true) {c6:List AV} (hc6:aT [6,2368] (.bx c6)=true) (s:ag) (h:ab) (X:Option (Ex × St)) (hX:aB 0 [6,9] (aD (am R (aO false) fJ) [1,6,9,56,57] [6,2368] s h)=X)
  (g1:s 1=.sl 7 (da dom)) (g6:s 6=.ref 6 none 0 0 0) (g9:s 9=.ref 2368 none 0 0 0) (g56:s 56=I dom.length) (g57:s 57=I 0) (k6:h 6=.bx c6) (k2368:h 2368=cd (aS dom.length) [x] p) :
  ∃ hh,X=some (.normal,⟨upd (upd (fun _=>.any) 9 (.ref 2368 none 0 0 0)) 6 (.ref 6 none 0 0 0),hh⟩)∧hh 6=.bx c6∧hh 2368=cd (aS dom.length) [x] p∧(∀ a,a ≠ 6→a ≠ 2368→hh a=.dead):=by
 subst hX
 exact ad0 h8 od kd hc6 dom.length 0 (Nat.zero_add _) s h g1 g6 g9 g56 g57 k6 k2368
theorem XY (h:ab) (d:Nat) (r q:List (List AV)) (p:Int) (b:Bool):iG h d (some (.tup [.obx [.osl 1 r,.osl 7 q,I p],B b],[]))=if cf (h (2000+8*d)) && cf (h (2000+8*d+1)) then some (.tup [.ref (2000+8*d) none 0 0 0,B b],upd h (2000+8*d) (.bx [.osl 1 r,.osl 7 q,I p]),[]) else none:=by
 simp [iG,cx,fG,dH,iv,aA,bd,aZ,bj,cV,mat,bP,cM]
theorem Vu (h:ab) (n:Nat) (g:Bool) (i j:Nat) (r:List (List AV)):jI h n g 7 i j (some (7,r))=(r[i]?).bind fun row=>(iu n g row j).map fun a=>(a,h,[]):=rfl
theorem alP (x:Ri):da [x]=[aK x]:=rfl
theorem Ui {v:Nat} {p:Int} {c:Rd} (h8:v≤8) (oc:Ok0 c) (vc:vd c=true):R F.bound_gridOf [.agg [I v,.sl 4 (bp (uv v c))],I p] []=some (.tup [.obx [.osl 1 (be (aS v)),.osl 7 [aK ⟨c,c,false⟩],I p],B true],[]):=by
 unfold uv
 by_cases h0:c.m.length=0
 ·rw [if_pos h0,oK vc h0]
  exact Ug h8
 ·rw [if_neg h0]
  exact Uh h8 oc vc
theorem ad1 {dom:List Ri} {c:Rd} (od:∀ x ∈ dom,OkI x) (kd:∀ x ∈ dom,kI x=true) (h8:dom.length≤8) (oc:Ok0 c) (vc:vd c=true) (h1:dom.length ≠ 1) {p:Int} (hp:fl p=true) :
  R F.bound_Bernstein [dq (ej dom.length c),.sl 7 (da dom),I p] []=some (aC ⟨c,c,false⟩,[]):=by
 refine aE uC uB (rt false) rfl ?_
 have oa:=Lf (v:=dom.length) h8 oc
 have hf1:=Dp oa od (by omega) (p:=p)
 have hd:kX (ej dom.length c) dom=true:=by
  unfold kX
  rw [vK h8 vc]
  simp [ej]
  exact kd
 rw [hd,hp] at hf1
 have hL:=Mp oa
 unfold XO at hL
 rw [Vt h8 vc,if_pos rfl] at hL
 have hg:=Ui (p:=p) h8 oc vc
 have hh:=adC (x:=⟨c,c,false⟩) (y:=⟨c,c,false⟩) ⟨oc,oc⟩ ⟨oc,oc⟩
 rw [adZ vc] at hh
 have kd2:∀ b ∈ dom,vd b.lo=true∧vd b.hi=true:=fun b hb=>by
  have kx:=kd b hb
  simp only [kI,vi,Bool.and_eq_true,Bool.not_eq_true'] at kx
  rw [kx.1] at kx
  simp at kx
  exact ⟨kx.1,kx.2.1⟩
 have hl:=alO (x:=⟨c,c,false⟩) (p:=p) (c6:=[B false,.emp,I 0,B false,.emp,I 0,B false]) h8 od kd2 rfl
 have e1:((dom.length:Int)=1)=False:=ff (by omega)
 have hlen:(be (aS dom.length)).length=dom.length:=by rw [sM]; simp [aS]
 generalize yk (ej dom.length c)=lr at hL
 simp only [ej,dq,xv] at hf1 hL ⊢
 simp only [aC,cd,alP,aK] at hg hh hl
 generalize uv dom.length c=rows at *
 generalize hiz:be (aS dom.length)=iz at *
 simp only [jR,oV,aC,aK,go_sem,auA,auz,auB,hf1,hL,e1,hg,XY]
 generalize hX:aB 0 _ _=X
 obtain ⟨hh1,rfl,q6,q2368,qd⟩:=hl _ _ _ hX rfl rfl rfl (by rw [hlen]; rfl) rfl rfl rfl
 have d12:hh1 12=.dead:=qd _ (by decide) (by decide)
 have e0:((0:Int) < 1)=True:=tt (by decide)
 have e2:((1:Int) < 1)=False:=ff (by decide)
 have w1:IntKind.i64.wrap ((0:Int)+1)=1:=by decide
 simp only [go_sem,auA,auz,auB,auG,auF,q2368,d12,List.length_cons,List.length_nil,Int.natCast_one,e0,Mz,Vu,List.getElem?_cons_zero,Option.bind_some]
 rw [ao]
 simp only [qQ,go_sem,auA,auz,auB,auG,auF,auD,q6,q2368,List.length_cons,List.length_nil,Int.natCast_one,e0,Mz,Vu,List.map,List.getElem?_cons_zero,Option.bind_some,w1,hh]
 rw [ao]
 simp only [go_sem,auA,auz,auB,auD,e2]
end Go.Ab
namespace Go.Ab
open Go Go.IntWalk
set_option maxRecDepth 4000
set_option maxHeartbeats 4000000
def xC (a:Rp) (dom:List Ri) (p:Int) (b:Ri):Ri:=if (kX a dom && fl p)=true then (if (pU (nP a dom p) b).2=true then (pU (nP a dom p) b).1 else fD) else fD
theorem ad2 {a:Rp} {dom:List Ri} (oa:OkP a) (od:∀ x ∈ dom,OkI x) (h2:dom.length≤100000) {p:Int} {b:Ri} (ob:OkI b) (hb:(kX a dom && fl p)=true→R F.bound_Bernstein [dq a,.sl 7 (da dom),I p] []=some (aC b,[])) :
  R F.bound_Best [dq a,.sl 7 (da dom),I p] []=some (aC (xC a dom p b),[]):=by
 refine aE PV PU (HG false) rfl ?_
 have hf:=Dp oa od h2 (p:=p)
 have hw:=GA
 have hn:=Ry oa od h2 (p:=p)
 have on:=xA (a:=a) (dom:=dom) (p:=p)
 have hm:=adD (x:=nP a dom p) (y:=b) ⟨on.1.2,on.2.2⟩ ob
 unfold xC
 generalize nP a dom p=n at hn hm ⊢
 generalize pU n b=q at hm ⊢
 obtain ⟨m1,m2⟩:=q
 cases hq:(kX a dom && fl p) with
 | false =>
  rw [hq] at hf
  rw [if_neg Bool.false_ne_true]
  simp only [dq,aC,aK,fD,aX] at hf hw
  simp only [l9,qR,dq,aC,aK,fD,aX,go_sem,auA,auz,auB,hf,hw]
 | true =>
  rw [hq] at hf
  replace hb:=hb hq
  rw [if_pos rfl]
  simp only [dq,aC,aK,fD,aX] at hf hw hn hb hm
  cases m2 with
  | true =>
   rw [if_pos rfl]
   simp only [l9,qR,dq,aC,aK,go_sem,auA,auz,auB,auC,auD,hf,hw,hn,hb,hm]
  | false =>
   rw [if_neg Bool.false_ne_true]
   simp only [l9,qR,dq,aC,aK,fD,aX,go_sem,auA,auz,auB,auC,auD,hf,hw,hn,hb,hm]
def GH (x y:Ri):Bool:=if vi x=true∧vi y=true∧x.all=false then (y.all || decide (zI y.lo≤zI x.lo) && decide (zI x.hi≤zI y.hi)) else (vi x && (vi y && y.all))
theorem XZ {x y:Ri} (ox:OkI x) (oy:OkI y):R F.r05_Inside [aC x,aC y] []=some (B (GH x y),[]):=by
 refine aE P4 P3 (HM false) rfl ?_
 have v1:=CB ox
 have v2:=CB oy
 unfold GH
 simp only [aC,aK] at v1 v2
 cases h1:vi x with
 | false =>
  rw [h1] at v1
  rw [if_neg (by simp)]
  simp only [fW,jf,aC,aK,go_sem,auA,auz,auB,v1,Bool.false_and]
 | true =>
  rw [h1] at v1
  cases h2:vi y with
  | false =>
   rw [h2] at v2
   rw [if_neg (by simp)]
   simp only [fW,jf,aC,aK,go_sem,auA,auz,auB,v1,v2,Bool.false_and,Bool.true_and]
  | true =>
   rw [h2] at v2
   cases h3:x.all with
   | true =>
    rw [h3] at v1
    rw [if_neg (by simp)]
    simp only [fW,jf,aC,aK,go_sem,auA,auz,auB,v1,v2,h3,Bool.true_and]
   | false =>
    rw [h3] at v1
    rw [if_pos ⟨rfl,rfl,rfl⟩]
    have hx:vd x.lo=true∧vd x.hi=true:=by
     simp only [vi,h3] at h1
     simp at h1
     exact ⟨h1.1,h1.2.1⟩
    cases h4:y.all with
    | true =>
     rw [h4] at v2
     simp only [fW,jf,aC,aK,go_sem,auA,auz,auB,v1,v2,h3,h4,Bool.true_or]
    | false =>
     rw [h4] at v2
     have hy:vd y.lo=true∧vd y.hi=true:=by
      simp only [vi,h4] at h2
      simp at h2
      exact ⟨h2.1,h2.2.1⟩
     have c1:=K5 oy.lo ox.lo hy.1 hx.1
     have c2:=K5 ox.hi oy.hi hx.2 hy.2
     simp only [ae,aj] at c1 c2
     by_cases h5:zI y.lo≤zI x.lo
     ·rw [decide_eq_true h5]
      have e5:(bR (zI y.lo) (zI x.lo)≤0)=True:=by rw [qy]; exact eq_true h5
      simp only [fW,jf,aC,aK,go_sem,auA,auz,auB,v1,v2,h3,h4,c1,c2,e5,qy,Bool.true_and,Bool.false_or,decide_true]
     ·rw [decide_eq_false h5]
      have e5:(bR (zI y.lo) (zI x.lo)≤0)=False:=by rw [qy]; exact eq_false h5
      simp only [fW,jf,aC,aK,go_sem,auA,auz,auB,v1,v2,h3,h4,c1,e5,Bool.false_and,Bool.false_or,decide_false]
end Go.Ab
namespace Go.Ab
open Go Go.IntWalk
set_option maxRecDepth 4000
theorem aaX {q:Nat} {u:Int} (hu:-16384≤u) (h:(dk (bD false q u)).2=0):zI (dk (bD false q u)).1=((q*2 ^ (u+16384).toNat:Nat):Int):=by
 have e1:bD false q u=dF ((q*2 ^ (u+16384).toNat:Nat):Int) (-16384 - (0:Nat)):=by
  unfold dF
  rw [decide_eq_false (by omega),Int.natAbs_natCast,lY]
  congr 1
  omega
 rw [e1] at h ⊢
 have:=agS (j:=0) h
 rw [Int.pow_zero,Int.mul_one] at this
 exact this
theorem Vv {q:Nat} {n:Nat} (h:n < ai q):2 ^ n≤q:=by
 refine Nat.le_of_not_lt fun h1=>?_
 have:=bO.2 h1
 omega
theorem ad3 {M:Nat} {p:Int} {j:Nat} {w:Bool} (hp:8≤p∧p≤512) (h:(eG M (-16384 - (j:Int)) false p w).2=0) :
  ∃ n:Nat,zI (eG M (-16384 - (j:Int)) false p w).1=(n:Int)∧(w=true→M≤n*2 ^ j)∧(w=false→n*2 ^ j≤M):=by
 obtain ⟨u,hu⟩:∃ u,dL M (-16384 - (j:Int)) p=u:=⟨_,rfl⟩
 have hu1:-16384≤u:=by
  rw [← hu]
  unfold dL
  split <;> omega
 unfold eG at h ⊢
 rw [hu] at h ⊢
 obtain ⟨q,hq⟩:∃ q,kl w (nN M (-16384 - (j:Int)) false u)=q:=⟨_,rfl⟩
 rw [hq] at h ⊢
 have hT:∃ t:Nat,t=(u+16384).toNat+j∧(w=true→M≤q*2 ^ t)∧(w=false→q*2 ^ t≤M):=by
  refine ⟨_,rfl,?_⟩
  unfold nN at hq
  by_cases h1:u≤-16384 - (j:Int)
  ·rw [if_pos h1] at hq
   have t0:(u+16384).toNat+j=0:=by omega
   have t1:(-16384 - (j:Int) - u).toNat=0:=by omega
   rw [t1] at hq
   rw [t0,Nat.pow_zero,Nat.mul_one]
   have hq2:q=M:=by
    rw [← hq]
    unfold kl
    simp
   rw [hq2]
   exact ⟨fun _=>Nat.le_refl _,fun _=>Nat.le_refl _⟩
  ·rw [if_neg h1] at hq
   have t1:(u - (-16384 - (j:Int))).toNat=(u+16384).toNat+j:=by omega
   rw [t1] at hq
   generalize (u+16384).toNat+j=t at hq ⊢
   have hd:=Nat.div_add_mod M (2 ^ t)
   have hm:=Nat.mod_lt M (Nat.two_pow_pos t)
   rw [Nat.mul_comm] at hd
   unfold kl at hq
   simp only [Bool.false_or] at hq
   constructor
   ·intro hw
    subst hw
    by_cases hz:M % 2 ^ t=0
    ·rw [decide_eq_false (by simp [hz]),Bool.and_false,if_neg Bool.false_ne_true] at hq
     subst hq
     show M≤M / 2 ^ t*2 ^ t
     omega
    ·rw [decide_eq_true hz,Bool.and_true,if_pos rfl] at hq
     subst hq
     show M≤(M / 2 ^ t+1)*2 ^ t
     rw [Nat.add_mul,Nat.one_mul]
     omega
   ·intro hw
    subst hw
    rw [Bool.false_and,if_neg Bool.false_ne_true] at hq
    subst hq
    show M / 2 ^ t*2 ^ t≤M
    omega
 obtain ⟨t,ht,h1,h2⟩:=hT
 have hpw:∀ n:Nat,n*2 ^ (u+16384).toNat*2 ^ j=n*2 ^ t:=fun n=>by rw [Nat.mul_assoc,← Nat.pow_add,← ht]
 unfold rD at h ⊢
 by_cases hb:16384 < (ai q:Int)+u
 ·rw [if_pos hb] at h ⊢
  cases w with
  | true=>exact absurd h (show ((9:Int)=0)→False by decide)
  | false =>
   rw [if_neg Bool.false_ne_true] at h ⊢
   refine ⟨_,aaX (by omega) h,fun hw=>absurd hw Bool.false_ne_true,fun _=>?_⟩
   have h3:=h2 rfl
   have h4:2 ^ (32768+j)≤M:=by
    by_cases hb0:ai q=0
    ·have h8:(ai M:Int)=u+16384+j+p:=by
      unfold dL at hu
      split at hu <;> omega
     exact Nat.le_trans (Nat.pow_le_pow_right (by decide) (by omega)) (Vv (show ai M - 1 < ai M by omega))
    ·have h5:=Vv (show ai q - 1 < ai q by omega)
     have h6:2 ^ (32768+j)≤2 ^ (ai q - 1)*2 ^ t:=by
      rw [← Nat.pow_add]
      exact Nat.pow_le_pow_right (by decide) (by omega)
     exact Nat.le_trans h6 (Nat.le_trans (Nat.mul_le_mul_right _ h5) h3)
   have h7:(2 ^ p.toNat - 1)*2 ^ (16384 - p+16384).toNat*2 ^ j≤2 ^ (32768+j):=by
    rw [Nat.mul_assoc,← Nat.pow_add]
    refine Nat.le_trans (Nat.mul_le_mul_right _ (Nat.sub_le _ 1)) ?_
    rw [← Nat.pow_add]
    exact Nat.pow_le_pow_right (by decide) (by omega)
   exact Nat.le_trans h7 h4
 ·rw [if_neg hb] at h ⊢
  refine ⟨_,aaX hu1 h,fun hw=>?_,fun hw=>?_⟩
  ·rw [hpw]
   exact h1 hw
  ·rw [hpw]
   exact h2 hw
theorem ahb {M:Nat} {f p:Int} {more w:Bool}:vd (eG M f more p w).1=true:=by
 have hc:∀ (q:Nat) (u:Int),vd (dk (bD false q u)).1=true:=fun q u=>by
  have:=(K7 (z:=(q:Int)) (f:=u)).1
  unfold dF at this
  rw [decide_eq_false (by omega),Int.natAbs_natCast] at this
  exact this
 unfold eG rD
 split
 ·split
  ·exact (by decide:vd aX=true)
  ·exact hc _ _
 ·exact hc _ _
theorem Vw {z p:Int} {j:Nat} {up:Bool} (hp:8≤p∧p≤512) (h:(nc z (-16384 - (j:Int)) p up).2=0):(up=true→z≤zI (nc z (-16384 - (j:Int)) p up).1*2 ^ j)∧(up=false→zI (nc z (-16384 - (j:Int)) p up).1*2 ^ j≤z):=by
 unfold nc at h ⊢
 by_cases h0:z=0
 ·rw [if_pos h0,gC rfl,Int.zero_mul,h0]
  exact ⟨fun _=>Int.le_refl _,fun _=>Int.le_refl _⟩
 ·rw [if_neg h0] at h ⊢
  unfold lX at h ⊢
  have key:∀ w:Bool,(eG z.natAbs (-16384 - (j:Int)) false p w).2=0→∃ n:Nat,zI (eG z.natAbs (-16384 - (j:Int)) false p w).1=(n:Int)∧(w=true→(z.natAbs:Int)≤(n:Int)*2 ^ j)∧(w=false→(n:Int)*2 ^ j≤(z.natAbs:Int)):=fun w hc=>by
   obtain ⟨n,g1,g2,g3⟩:=ad3 hp hc
   refine ⟨n,g1,fun hw=>?_,fun hw=>?_⟩
   ·have:=g2 hw
    have h3:((z.natAbs:Nat):Int)≤((n*2 ^ j:Nat):Int):=by exact_mod_cast this
    rw [Int.natCast_mul,Int.natCast_pow] at h3
    exact h3
   ·have:=g3 hw
    have h3:((n*2 ^ j:Nat):Int)≤((z.natAbs:Nat):Int):=by exact_mod_cast this
    rw [Int.natCast_mul,Int.natCast_pow] at h3
    exact h3
  by_cases hn:z < 0
  ·rw [decide_eq_true hn] at h ⊢
   have hc:(eG z.natAbs (-16384 - (j:Int)) false p (up != true)).2=0:=by
    by_cases hc:(eG z.natAbs (-16384 - (j:Int)) false p (up != true)).2=0
    ·exact hc
    ·rw [if_neg (fun h1=>hc h1.1)] at h
     exact h
   obtain ⟨n,g1,g2,g3⟩:=key _ hc
   rw [if_pos ⟨hc,rfl⟩]
   show (up=true→z≤zI (fR (eG z.natAbs (-16384 - (j:Int)) false p (up != true)).1)*2 ^ j)∧(up=false→zI (fR (eG z.natAbs (-16384 - (j:Int)) false p (up != true)).1)*2 ^ j≤z)
   rw [(U8 ahb).1,g1,Int.neg_mul]
   constructor
   ·intro hu
    subst hu
    have:=g3 rfl
    omega
   ·intro hu
    subst hu
    have:=g2 rfl
    omega
  ·rw [decide_eq_false hn] at h ⊢
   rw [if_neg (fun h1=>Bool.false_ne_true h1.2)] at h ⊢
   obtain ⟨n,g1,g2,g3⟩:=key _ h
   rw [g1]
   constructor
   ·intro hu
    subst hu
    have:=g2 rfl
    omega
   ·intro hu
    subst hu
    have:=g3 rfl
    omega
theorem ahc {c:Rd} {p:Int} (vc:vd c=true) (hp:fl p=true) (h:(fS c p false).2=0):zI (fS c p false).1≤zI c:=by
 have hp2:8≤p∧p≤512:=by
  simp only [fl,Bool.and_eq_true,decide_eq_true_eq] at hp
  exact hp
 have hf:bC p [c]=0:=by simp [bC,vc,hp2]
 unfold fS at h ⊢
 rw [if_pos hf] at h ⊢
 have:=(Vw (j:=0) hp2 h).2 rfl
 rw [Int.pow_zero,Int.mul_one] at this
 exact this
theorem ahd {c:Rd} {p:Int} (vc:vd c=true) (hp:fl p=true) (h:(fS c p true).2=0):zI c≤zI (fS c p true).1:=by
 have hp2:8≤p∧p≤512:=by
  simp only [fl,Bool.and_eq_true,decide_eq_true_eq] at hp
  exact hp
 have hf:bC p [c]=0:=by simp [bC,vc,hp2]
 unfold fS at h ⊢
 rw [if_pos hf] at h ⊢
 have:=(Vw (j:=0) hp2 h).1 rfl
 rw [Int.pow_zero,Int.mul_one] at this
 exact this
end Go.Ab
namespace Go.Ab
open Go Go.IntWalk
set_option maxRecDepth 4000
def DF (c:Rd) (dom:List Ri) (p:Int):Ri:=if (dom.any fun x=>!kI x)=true then fD else jt ⟨c,c,false⟩ p
def vj (c:Rd) (dom:List Ri) (p:Int):Ri:=if dom.length=1 then jt ⟨c,c,false⟩ p else ⟨c,c,false⟩
theorem ad4 {c:Rd} (vc:vd c=true) {p:Int} (ha:(jt ⟨c,c,false⟩ p).all=false):fl p=true∧∃ d u,jt ⟨c,c,false⟩ p=⟨d,u,false⟩∧vd d=true∧vd u=true∧zI d≤zI c∧zI c≤zI u:=by
 unfold jt at ha ⊢
 rw [DE vc,Bool.and_true] at ha ⊢
 cases hp:fl p with
 | false =>
  rw [hp,if_neg Bool.false_ne_true] at ha
  exact absurd ha (by decide)
 | true =>
  rw [hp,if_pos rfl] at ha
  rw [if_pos rfl]
  unfold kw at ha ⊢
  by_cases h:(fS c p false).2=0∧(fS c p true).2=0
  ·rw [if_pos h]
   exact ⟨rfl,_,_,rfl,Vb,Vb,ahc vc hp h.1,ahd vc hp h.2⟩
  ·rw [if_neg h] at ha
   exact absurd ha (by decide)
theorem ahe {x y:Int}:(0≤bR x y)=(y≤x):=by
 unfold bR
 by_cases h1:x < y
 ·simp [h1]
 ·by_cases h2:y < x
  ·simp [h2]
   omega
  ·simp [h1,h2]
   omega
theorem R4 {a b:Rd} (va:vd a=true) (vb:vd b=true):fA a b=if zI a≤zI b then a else b:=by
 unfold fA
 rw [Dr va vb]
 simp only [qy]
theorem R5 {a b:Rd} (va:vd a=true) (vb:vd b=true):fB a b=if zI b≤zI a then a else b:=by
 unfold fB
 rw [Dr va vb]
 simp only [ahe]
theorem ahf {dom:List Ri} {c:Rd} (h8:dom.length≤8) (vc:vd c=true) {p:Int}:(GH (xC (ej dom.length c) dom p (vj c dom p)) (DF c dom p) || (DF c dom p).all)=true:=by
 have hd:kX (ej dom.length c) dom=!(dom.any fun x=>!kI x):=by
  unfold kX
  rw [vK h8 vc]
  simp [ej]
 have hn:=MA h8 vc (p:=p)
 unfold DF xC
 rw [hd,hn]
 cases ha:(dom.any fun x=>!kI x) with
 | true=>simp [fD]
 | false =>
  rw [if_neg Bool.false_ne_true]
  cases hb:(jt ⟨c,c,false⟩ p).all with
  | true=>rw [Bool.or_true]
  | false =>
   obtain ⟨hp,d,u,h1,vdd,vu,h2,h3⟩:=ad4 vc hb
   rw [Bool.or_false,hp]
   simp only [Bool.not_false,Bool.and_self,if_true]
   have vn:vi ⟨d,u,false⟩=true:=by
    simp [vi,vdd,vu]
    omega
   unfold vj
   rw [h1]
   by_cases hl:dom.length=1
   ·rw [if_pos hl]
    have hm:pU ⟨d,u,false⟩ ⟨d,u,false⟩=(⟨d,u,false⟩,true):=by
     unfold pU
     rw [vn,if_pos (by rfl),if_neg Bool.false_ne_true,if_neg Bool.false_ne_true]
     show (if fm (fB d d) (fA u u)≤0 then ((⟨fB d d,fA u u,false⟩:Ri),true) else (wR,false))=_
     rw [R5 vdd vdd,R4 vu vu,if_pos (Int.le_refl _),if_pos (Int.le_refl _),if_pos (by rw [Dr vdd vu,qy]; omega)]
    rw [hm,if_pos rfl]
    unfold GH
    rw [if_pos ⟨vn,vn,rfl⟩]
    simp
   ·rw [if_neg hl]
    have vcc:vi ⟨c,c,false⟩=true:=by simp [vi,vc]
    obtain ⟨a,ea⟩:∃ a,fB d c=a:=⟨_,rfl⟩
    obtain ⟨b,eb⟩:∃ b,fA u c=b:=⟨_,rfl⟩
    have va:vd a=true∧zI a=zI c:=by
     rw [R5 vdd vc] at ea
     split at ea
     ·exact ⟨ea ▸ vdd,by rw [← ea]; omega⟩
     ·exact ⟨ea ▸ vc,by rw [← ea]⟩
    have vb:vd b=true∧zI b=zI c:=by
     rw [R4 vu vc] at eb
     split at eb
     ·exact ⟨eb ▸ vu,by rw [← eb]; omega⟩
     ·exact ⟨eb ▸ vc,by rw [← eb]⟩
    have hm:pU ⟨d,u,false⟩ ⟨c,c,false⟩=(⟨a,b,false⟩,true):=by
     unfold pU
     rw [vn,vcc,if_pos (by rfl),if_neg Bool.false_ne_true,if_neg Bool.false_ne_true]
     show (if fm (fB d c) (fA u c)≤0 then ((⟨fB d c,fA u c,false⟩:Ri),true) else (wR,false))=_
     rw [ea,eb,if_pos (by rw [Dr va.1 vb.1,qy]; omega)]
    rw [hm,if_pos rfl]
    have vab:vi ⟨a,b,false⟩=true:=by
     simp [vi,va.1,vb.1]
     omega
    unfold GH
    rw [if_pos ⟨vab,vn,rfl⟩]
    show (false || (decide (zI d≤zI a) && decide (zI b≤zI u)))=true
    rw [decide_eq_true (by omega),decide_eq_true (by omega)]
    rfl
theorem X1 {dom:List Ri} {c:Rd} (od:∀ x ∈ dom,OkI x) (h8:dom.length≤8) (oc:Ok0 c) (vc:vd c=true) {p:Int} (h:(kX (ej dom.length c) dom && fl p)=true) :
  R F.bound_Bernstein [dq (ej dom.length c),.sl 7 (da dom),I p] []=some (aC (vj c dom p),[]):=by
 obtain ⟨hd,hp⟩:kX (ej dom.length c) dom=true∧fl p=true:=by simpa using h
 have kd:∀ x ∈ dom,kI x=true:=by
  unfold kX at hd
  rw [vK h8 vc] at hd
  simp [ej] at hd
  exact hd
 unfold vj
 by_cases hl:dom.length=1
 ·rw [if_pos hl]
  obtain ⟨x,hx⟩:=List.length_eq_one_iff.1 hl
  rw [hl] at h ⊢
  have h1:=adA (a:=ej 1 c) (Lf (by decide) oc) od (p:=p) h (Vt (by decide) vc) rfl (adY vc) hx
  rw [adX (kd x (by rw [hx]; exact List.mem_cons_self ..)) vc hp] at h1
  exact h1
 ·rw [if_neg hl]
  exact ad1 od kd h8 oc vc hl hp
theorem R6 {dom:List Ri} {c:Rd} (oc:Ok0 c) {p:Int}:OkI (vj c dom p):=by
 unfold vj jt
 split
 ·split
  ·unfold kw
   split
   ·exact ⟨yX,yX⟩
   ·exact ⟨bq.2,bq.2⟩
  ·exact ⟨bq.2,bq.2⟩
 ·exact ⟨oc,oc⟩
end Go.Ab
namespace Go.Ab
open Go Go.IntWalk
set_option maxRecDepth 4000
set_option maxHeartbeats 4000000
theorem ahg {x:Ri} (ok:OkI x):R F.l24_BoundConstants_1 [aC x] []=some (B (!kI x),[]):=by
 refine aE xY xX (uU false) rfl ?_
 have hv:=CB ok
 simp only [aC,aK] at hv
 unfold kI
 cases h0:x.all with
 | true =>
  simp only [et,gG,aC,aK,go_sem,auA,auz,auB,h0,Bool.not_true,Bool.false_and,Bool.not_false]
 | false =>
  rw [h0] at hv
  cases h1:vi x with
  | false =>
   rw [h1] at hv
   simp only [et,gG,aC,aK,go_sem,auA,auz,auB,h0,hv,Bool.and_false,Bool.not_false]
  | true =>
   rw [h1] at hv
   simp only [et,gG,aC,aK,go_sem,auA,auz,auB,h0,hv,Bool.and_true,Bool.not_false,Bool.not_true]
theorem ad5 {l:List Ri} (ok:∀ x ∈ l,OkI x) (h2:l.length≤100000):R F.slices_ContainsFunc_api_Interval_api_Interval_ [.sl 7 (da l),.fn F.l24_BoundConstants_1 [] []] []=some (B (l.any fun x=>!kI x),[]):=by
 let p:List AV→Bool:=fun row=>match row with | [.v (.bool n1),.sl _ m1,.v (.int _ e1),.v (.bool n2),.sl _ m2,.v (.int _ e2),.v (.bool a)]=>!kI ⟨⟨n1,m1.map (fun r=>match r with | [.v (.int _ x)]=>x.toNat | _=>0),e1⟩,⟨n2,m2.map (fun r=>match r with | [.v (.int _ x)]=>x.toNat | _=>0),e2⟩,a⟩ | _=>false
 have hmm:∀ m:List Nat,(aQ m).map (fun r=>match r with | [.v (.int _ x)]=>x.toNat | _=>0)=m:=fun m=>by
  unfold aQ
  rw [List.map_map]
  exact (List.map_congr_left (g:=fun c=>c) fun x _=>by simp).trans (List.map_id' _)
 have hp:∀ x:Ri,p (aK x)=!kI x:=fun x=>by
  show (!kI ⟨⟨x.lo.neg,(aQ x.lo.m).map _,x.lo.e⟩,⟨x.hi.neg,(aQ x.hi.m).map _,x.hi.e⟩,x.all⟩)=_
  rw [hmm,hmm]
 have h1:=Ck (k:=7) (g:=true) (f:=F.l24_BoundConstants_1) (rows:=da l) (p:=p) cT cS (cD false) rfl (pC false) (by rw [oL]; omega) (fun row hr=>by
  simp only [da,List.mem_map] at hr
  obtain ⟨x,hx,rfl⟩:=hr
  have hd:=ahg (ok x hx)
  refine ⟨aC x,rfl,rfl,?_⟩
  rw [hp]
  simp only [aC,aK] at hd
  simp only [aC,aK,go_sem,hd])
 have h2:=yR (k:=7) cC cB (ck false) rfl (bS false) (cO false) (by simp only [go_sem]) h1
 have h3:(da l).any p=l.any fun x=>!kI x:=by
  unfold da
  rw [List.any_map]
  congr 1
  funext x
  exact hp x
 rw [h3] at h2
 exact h2
theorem ad6 {x y:Ri} (ox:OkI x) (oy:OkI y):OkI (pU x y).1:=by
 unfold pU
 split
 ·split
  ·exact oy
  ·split
   ·exact ox
   ·split
    ·exact ⟨Gx ox.lo oy.lo,Gw ox.hi oy.hi⟩
    ·exact ⟨bq.2,bq.2⟩
 ·exact ⟨bq.2,bq.2⟩
theorem ahh {a:Rp} {dom:List Ri} {p:Int} {b:Ri} (ob:OkI b):OkI (xC a dom p b):=by
 have ho:=xA (a:=a) (dom:=dom) (p:=p)
 unfold xC
 split
 ·split
  ·exact ad6 ⟨ho.1.2,ho.2.2⟩ ob
  ·exact ⟨bq.2,bq.2⟩
 ·exact ⟨bq.2,bq.2⟩
theorem ahi {c:Rd} {dom:List Ri} {p:Int} (haw:R F.l24_awake [] []=some (B true,[])) (oc:Ok0 c) (od:∀ x ∈ dom,OkI x):R F.l24_BoundConstants [ae c,.sl 7 (da dom),I p] []=some (B true,[]):=by
 refine aE zP zO (wW false) rfl ?_
 have hl:=CC (d:=c)
 have hv:=xz oc
 have hn:=agH (l:=dom)
 simp only [ae,aj] at hl hv
 cases h1:Ds c with
 | true =>
  rw [h1] at hl
  simp only [bJ,bU,ae,aj,go_sem,auA,auz,auB,haw,hl]
 | false =>
  rw [h1] at hl
  cases h2:vd c with
  | false =>
   rw [h2] at hv
   simp only [bJ,bU,ae,aj,go_sem,auA,auz,auB,haw,hl,hv]
  | true =>
   rw [h2] at hv
   by_cases h3:4 < dom.length
   ·have e3:(4 < (dom.length:Int))=True:=tt (by omega)
    simp only [bJ,bU,ae,aj,go_sem,auA,auz,auB,haw,hl,hv,e3]
   ·have e3:(4 < (dom.length:Int))=False:=ff (by omega)
    cases h4:XL dom with
    | false =>
     rw [h4] at hn
     simp only [bJ,bU,ae,aj,go_sem,auA,auz,auB,oL,haw,hl,hv,e3,hn]
    | true =>
     rw [h4] at hn
     by_cases h5:200 < p
     ·have e5:(200 < p)=True:=tt h5
      simp only [bJ,bU,ae,aj,go_sem,auA,auz,auB,oL,haw,hl,hv,e3,hn,e5]
     ·have e5:(200 < p)=False:=ff h5
      have h8:dom.length≤8:=by omega
      have hk:=adU (v:=dom.length) h8 oc h2
      have hpt:=jr oc h2
      have hr:=aaA (x:=⟨c,c,false⟩) ⟨oc,oc⟩ (p:=p)
      have hc:=ad5 od (by omega)
      have hw:=jq
      have oa:=Lf (v:=dom.length) h8 oc
      have h23:=XK oa
      rw [vK h8 h2] at h23
      have hnv:=Ry oa od (by omega) (p:=p)
      have heq:=XM (xA (a:=ej dom.length c) (dom:=dom) (p:=p)).len
      have hwn:nP (ej dom.length c) dom p=DF c dom p:=MA h8 h2
      have hb:=ad2 oa od (by omega) (p:=p) (b:=vj c dom p) (R6 oc) (X1 od h8 oc h2)
      have ho:=xA (a:=ej dom.length c) (dom:=dom) (p:=p)
      have hin:=XZ (x:=xC (ej dom.length c) dom p (vj c dom p)) (y:=DF c dom p) (ahh (R6 oc)) (by rw [← hwn]; exact ⟨ho.1.2,ho.2.2⟩)
      have hfin:=ahf h8 h2 (p:=p)
      rw [hwn] at hnv heq
      clear ho hwn
      generalize xC (ej dom.length c) dom p (vj c dom p)=best at hb hin hfin
      have hwd:DF c dom p=if (dom.any fun x=>!kI x)=true then fD else jt ⟨c,c,false⟩ p:=rfl
      simp only [pV,dq,ej] at hk h23 hnv hb
      generalize uv dom.length c=T at *
      cases ha:(dom.any fun x=>!kI x) with
      | true =>
       rw [ha,if_pos rfl] at hwd
       rw [hwd] at hnv heq hin hfin
       rw [ha] at hc
       simp only [ae,aj,aC,aK,fD] at hk h23 hnv hb hpt hr hw heq hin hfin
       generalize GH best ⟨aX,aX,true⟩=bi at hin hfin
       cases bi with
       | true =>
        simp only [bJ,bU,ae,aj,go_sem,auA,auz,auB,auC,auD,oL,haw,hl,hv,e3,hn,e5,hk,hpt,hr,hc,hw,h23,hnv,heq,hb,hin]
       | false =>
        simp only [bJ,bU,ae,aj,go_sem,auA,auz,auB,auC,auD,oL,haw,hl,hv,e3,hn,e5,hk,hpt,hr,hc,hw,h23,hnv,heq,hb,hin]
      | false =>
       rw [ha,if_neg Bool.false_ne_true] at hwd
       rw [hwd] at hnv heq hin hfin
       rw [ha] at hc
       generalize jt ⟨c,c,false⟩ p=z at *
       simp only [ae,aj,aC,aK] at hk h23 hnv hb hpt hr hw heq hin
       generalize GH best z=bi at hin hfin
       cases bi with
       | true =>
        simp only [bJ,bU,ae,aj,go_sem,auA,auz,auB,auC,auD,oL,haw,hl,hv,e3,hn,e5,hk,hpt,hr,hc,hw,h23,hnv,heq,hb,hin]
       | false =>
        rw [Bool.false_or] at hfin
        rw [hfin] at hr hnv heq hin
        simp only [bJ,bU,ae,aj,go_sem,auA,auz,auB,auC,auD,oL,haw,hl,hv,e3,hn,e5,hk,hpt,hr,hc,hw,h23,hnv,heq,hb,hin]
end Go.Ab
namespace Go.Ab
open Go Go.IntWalk
set_option maxRecDepth 4000
set_option maxHeartbeats 1000000
def yl:Env:=⟨fun f=>OA.lookup f,ah.C,ah.md⟩
noncomputable def R0:dG:=dx yl
theorem y8 {f:FuncId} {fd:FD} {args:List AV} {hs:List Ob} {r:AV × List Ob} (hE:yl.E f=none) (hC:yl.C f=some fd) (hk:yl.md.keep f=false) (h1:args.length=fd.np) (h2:hs.length≤1000)
  (hz:gq false fd.rs fd.res hs.length (am R0 (aO false) fd.body (oT args) (ak hs))=some r):R0 f args hs=some r:=by
 refine BI hE hC ?_
 unfold PH
 rw [if_pos ⟨h1,h2⟩,hk]
 exact hz
theorem rK (o:Ob):ak [o]=upd (fun _=>.dead) 1000 o:=by
 funext i
 unfold ak upd
 by_cases h:i=1000
 ·subst h
  rfl
 ·rw [if_neg h]
  split
  ·rw [List.getElem?_eq_none (by simp; omega)]
   rfl
  ·rfl
theorem ad7 {r:List AV} {rs:List (List AV)} (h:(rs.length+1)*8≤140737488355328):R0 F.slices_Clone_int_int_ [.sl 1 (r::rs)] []=some (.osl 1 (r::rs),[]):=by
 refine y8 (fd:=ji) (by kernel_rfl) (by kernel_rfl) (by kernel_rfl) rfl (by decide) ?_
 have e1:((rs.length+1)*8≤140737488355328)=True:=eq_true h
 have e2:C1 false (.sl 1 (r::rs))=some (B false):=rfl
 simp only [ji,oP,go_sem,auB,auC,e1,e2,List.length_cons,List.length_nil,Nat.zero_add,Nat.le_refl,true_and,true_or,List.nil_append]
theorem ad8:eO 4 .emp (some (I 0)) none none=some .emp:=rfl
theorem ahj {r:List AV}:R0 F.slices_Insert_api_Term_api_Term_ [.emp,I 0,.sl 4 [r]] []=some (.osl 4 [r],[]):=by
 refine y8 (fd:=bh) (by kernel_rfl) (by kernel_rfl) (by kernel_rfl) rfl (by decide) ?_
 have e1:((1:Int)=0)=False:=by decide
 simp only [bh,cj,go_sem,auA,auB,auC,ad8,List.length_cons,List.length_nil,Int.natCast_one,e1,Nat.zero_add]
theorem sN {n i:Nat} (h:i≤n):jA n (some (I i)) none none=some (i,n):=by
 simp only [jA,iW,Option.bind_some]
 rw [if_pos ⟨by omega,by omega⟩]
 rfl
theorem aaY {id k l0 n i:Nat} (h:i≤n):eO k (.rsl id none k l0 n) (some (I i)) none none=some (.rsl id none k (l0+i) (n - i)):=by
 simp only [eO,if_true,sN h,Option.map_some,Option.isNone_none]
theorem Lg {h:ab} {j k n:Nat} {rows:List (List AV)} (hj:aY j=false) (hh:h j=.ar k rows) (hn:n=rows.length) (hc:aT [1000] (h 1000)=true):qH [[]] 1 h [.rsl j none k 0 n]=some (.osl k rows,[h 1000]):=by
 subst hn
 have hp:cN 1=[1000]:=rfl
 unfold qH
 rw [if_pos]
 ·simp [nV,ni,iC,hj,hh,tQ,pG,bg,nrmV,nrmL,hp]
 ·simp [hp,hc,gL,bI,dM,hj]
theorem aaZ {r:List AV} {rows:List (List AV)} {n:Nat} (hn:n=rows.length) (hb:(n+1)*64≤140737488355328):R0 F.slices_Insert_api_Term_api_Term_ [.rsl 1000 none 4 0 n,I n,.sl 4 [r]] [.ar 4 rows]=some (.osl 4 (rows++[r]),[.dead]):=by
 refine y8 (fd:=bh) (by kernel_rfl) (by kernel_rfl) (by kernel_rfl) rfl (by simp) ?_
 subst hn
 rw [rK]
 have e1:((1:Int)=0)=False:=by decide
 have e2:=aaY (id:=1000) (k:=4) (l0:=0) (Nat.le_refl rows.length)
 have e3:((rows.length+1)*64≤140737488355328)=True:=eq_true hb
 have e4:(rows.length+1≤rows.length)=False:=eq_false (by omega)
 have e5:∀ h,EQ h 25 4 64 1000 4 0 rows.length [r] 4 rows=cG (upd h 1000 .dead) 25 4 (rows++[r]) (rows.length+1) [(1000,false)]:=fun h=>by
  simp only [EQ,List.length_singleton]
  rw [if_neg (by omega),if_pos ⟨trivial,trivial,trivial,trivial,hb⟩]
 simp only [bh,cj,go_sem,auB,auC,List.length_cons,List.length_nil,Int.natCast_one,e1,e2,e5,Nat.zero_add,Nat.sub_self,or_self]
 exact Lg rfl rfl (by simp) rfl
theorem ajr {f:FuncId} {g:List AV→List Ob→Option (AV × List Ob)} {args:List AV} {hs:List Ob} (hE:yl.E f=some g):R0 f args hs=g args hs:=zH hE
theorem ahk {h:ab} {d:Nat} {r:List AV} {rows:List (List AV)} {lo m:Nat} (hh:h 1000=.ar 4 rows) (hd:h (2000+8*d)=.dead) :
  bA R0 (aO false) h d [.sl 4 [r],.rsl 1000 none 4 lo m] (.fn F.slices_overlaps_api_Term_ [] [])=some (B false,upd h 1000 (.ar 4 rows),[(1000,true)]):=by
 have hm:(aO false).m F.slices_overlaps_api_Term_=[0,1]:=by kernel_rfl
 have hs:(aO false).sh F.slices_overlaps_api_Term_=[]:=by kernel_rfl
 have hk:(aO false).keep F.slices_overlaps_api_Term_=false:=by kernel_rfl
 have hf:R0 F.slices_overlaps_api_Term_ [.sl 4 [r],.rsl 1000 none 4 lo m] [.ar 4 rows]=some (B false,[.ar 4 rows]):=by
  rw [ajr (g:=UD 4) (by kernel_rfl)]
  simp [UD]
 have hb:iY (aO false) [.sl 4 [r],.rsl 1000 none 4 lo m] (.fn F.slices_overlaps_api_Term_ [] [])=false:=by
  simp [iY,hm]
 have hr:bW h 40 [1000] 0=[1000]:=by
  simp [bW,hh,j8,bE]
 have hn:cx (B false)=1:=rfl
 unfold bA
 rw [if_neg (by rw [hb]; exact Bool.false_ne_true)]
 have h1:bH h [0,1] [.sl 4 [r],.rsl 1000 none 4 lo m]=some ([.sl 4 [r],.rsl 1000 none 4 lo m],h,[]):=by
  simp [bH,ct,pp,ey,aA]
 have h2:bE [] ([AV.sl 4 [r],.rsl 1000 none 4 lo m].flatMap bI)=[1000]:=by
  simp [bI,dM,bE]
 have h3:bm [1000] 1000=1000:=rfl
 simp only [dm,hm,List.nil_append,List.append_nil,h1,Option.bind_some,h2,hr,hs]
 simp [ix,bg,aZ,bj,hh,aT,cf,dh,iw,h3,cY,hf,dN,hn,cV,hd,cW,bf,pF,zg,mR,fG,dH,vN,dt,mat,cM,eU,hk,zf,hm]
theorem MB {id k l0 n i:Nat}:eO k (.rsl id none k l0 n) (some (I i)) none none=(jA n (some (I i)) none none).map fun p=>.rsl id none k (l0+p.1) (p.2 - p.1):=by
 simp only [eO,if_true,Option.isNone_none]
theorem aa0 {n c i:Nat} (h:i≤c):iW n c (some (I i))=some i:=by
 simp only [iW]
 rw [if_pos ⟨by omega,by omega⟩]
 rfl
theorem ahl {r:List AV} {rows:List (List AV)} {n i:Nat} (hn:n=rows.length) (hi:i < n) (hb:(n+1)*64≤140737488355328) :
  R0 F.slices_Insert_api_Term_api_Term_ [.rsc 1000 4 0 n n,I i,.sl 4 [r]] [.ar 4 rows]=some (.osl 4 (rows.take i++r::rows.drop i),[.ar 4 rows]):=by
 refine y8 (fd:=bh) (by kernel_rfl) (by kernel_rfl) (by kernel_rfl) rfl (by simp) ?_
 rw [rK]
 have e1:((1:Int)=0)=False:=by decide
 have e2:((i:Int)=(n:Int))=False:=eq_false (by omega)
 have e3:IntKind.i64.wrap ((n:Int)+1)=((n+1:Nat):Int):=wi (by omega) (by omega)
 have e4:((n:Int) < ((n+1:Nat):Int))=True:=eq_true (by omega)
 have e5:IntKind.i64.wrap (((n+1:Nat):Int) - (i:Int))=((n+1 - i:Nat):Int):=wi (by omega) (by omega)
 have e6:IntKind.i64.wrap ((i:Int)+1)=((i+1:Nat):Int):=wi (by omega) (by omega)
 have b1:=sN (n:=n) (i:=i) (by omega)
 have b2:=aa0 (n:=n) (c:=n) (i:=i) (by omega)
 have b3:=sN (n:=n+1) (i:=i) (by omega)
 have b4:=sN (n:=n+1) (i:=i+1) (by omega)
 have f1:((0:Int) < ((n+1 - i:Nat):Int))=True:=eq_true (by omega)
 have f2:(n < i+((n+1 - i:Nat):Int).toNat)=True:=eq_true (by omega)
 have f3:i+((n+1 - i:Nat):Int).toNat=n+1:=by omega
 have f4:(i≤rows.length)=True:=eq_true (by omega)
 have f5:((n+1)*64≤140737488355328)=True:=eq_true hb
 have f6:(n < n+1)=True:=eq_true (by omega)
 obtain ⟨A,hA⟩:∃ A,rows.take i++List.replicate ((n+1 - i:Nat):Int).toNat [AV.emp,B false,AV.emp,I 0]=A:=⟨_,rfl⟩
 have a1:A.length=n+1:=by rw [← hA,List.length_append,List.length_take,List.length_replicate]; omega
 have a2:A.take i=rows.take i:=by
  rw [← hA,List.take_append_of_le_length (by rw [List.length_take]; omega),List.take_of_length_le (by rw [List.length_take]; omega)]
 have a3:(i≤A.length)=True:=eq_true (by omega)
 obtain ⟨D,hD⟩:∃ D,A.take i++[r]++A.drop (i+1)=D:=⟨_,rfl⟩
 have d1:D.length=n+1:=by
  rw [← hD,List.length_append,List.length_append,List.length_take,List.length_drop,List.length_singleton]
  omega
 have d2:D.take (i+1)=rows.take i++[r]:=by
  rw [← hD,a2,List.take_append_of_le_length (by rw [List.length_append,List.length_take,List.length_singleton]; omega),List.take_of_length_le (by rw [List.length_append,List.length_take,List.length_singleton]; omega)]
 have d3:(i+1≤D.length)=True:=eq_true (by omega)
 have t1:List.take (n+1 - i) [r]=[r]:=List.take_of_length_le (by rw [List.length_singleton]; omega)
 have t2:(rows.drop i).take (n - i)=rows.drop i:=List.take_of_length_le (by rw [List.length_drop]; omega)
 have t3:(1=min 1 (n+1 - i))=True:=eq_true (by omega)
 have t4:n+1 - (i+1)=n - i:=by omega
 have t5:(i+(n - i)≤rows.length)=True:=eq_true (by omega)
 have t6:(rows.drop i).length=n - i:=by rw [List.length_drop]; omega
 have t7:D.drop (i+1+(n - i))=[]:=List.drop_eq_nil_of_le (by omega)
 simp only [bh,cj,go_sem,List.length_cons,List.length_nil,Int.natCast_one,e1,e2,e3,e4,e5,e6,b1,b2,b3,b4,f1,f3,f4,f5,f6,hA,hD,a3,d3,t1,t2,t3,t4,t5,t6,t7,Nat.min_self,Nat.zero_add,MB,and_self]
 rw [d2]
 have hfin:rows.take i++[r]++rows.drop i=rows.take i++r::rows.drop i:=by rw [List.append_assoc]; rfl
 rw [hfin]
 exact Lg rfl rfl (by rw [List.length_append,List.length_take,List.length_cons,List.length_drop]; omega) rfl
theorem ahm {r:List AV} {rows:List (List AV)} {n i c:Nat} (hn:n=rows.length) (hi:i < n) (hc:n+1≤c) (hb:(n+1)*64≤140737488355328) :
  R0 F.slices_Insert_api_Term_api_Term_ [.rsc 1000 4 0 n c,I i,.sl 4 [r]] [.ar 4 rows]=some (.osl 4 (rows.take i++r::rows.drop i),[.dead]):=by
 refine y8 (fd:=bh) (by kernel_rfl) (by kernel_rfl) (by kernel_rfl) rfl (by simp) ?_
 rw [rK]
 have e1:((1:Int)=0)=False:=by decide
 have e2:((i:Int)=(n:Int))=False:=eq_false (by omega)
 have e3:IntKind.i64.wrap ((n:Int)+1)=((n+1:Nat):Int):=wi (by omega) (by omega)
 have e4:((c:Int) < ((n+1:Nat):Int))=False:=eq_false (by omega)
 have e6:IntKind.i64.wrap ((i:Int)+1)=((i+1:Nat):Int):=wi (by omega) (by omega)
 have b1:=sN (n:=n) (i:=i) (by omega)
 have b2:=aa0 (n:=n) (c:=c) (i:=n+1) hc
 have b3:=sN (n:=n+1) (i:=i) (by omega)
 have b4:=sN (n:=n+1) (i:=i+1) (by omega)
 have o1:=fun (h:ab) (h0:h 1000=.ar 4 rows) (h1:h (2000+8*67)=.dead)=>ahk (r:=r) (lo:=i+1) (m:=n - i) h0 h1
 have t1:List.take (n+1 - i) [r]=[r]:=List.take_of_length_le (by rw [List.length_singleton]; omega)
 have t2:(rows.drop i).take (n - i)=rows.drop i:=List.take_of_length_le (by rw [List.length_drop]; omega)
 have t3:(1=min 1 (n+1 - i))=True:=eq_true (by omega)
 have t4:n+1 - (i+1)=n - i:=by omega
 have t5:(i+(n - i)≤rows.length)=True:=eq_true (by omega)
 have t6:(rows.drop i).length=n - i:=by rw [List.length_drop]; omega
 have t8:min (n - i) (n+1 - i)=n - i:=by omega
 have t9:(n - i=min (n+1 - i) (n - i))=True:=eq_true (by omega)
 have f4:(i+1≤rows.length)=True:=eq_true (by omega)
 have t7:rows.drop (i+1+(n - i))=[]:=List.drop_eq_nil_of_le (by omega)
 obtain ⟨A,hA⟩:∃ A,rows.take (i+1)++rows.drop i=A:=⟨_,rfl⟩
 have a1:A.length=n+1:=by
  rw [← hA,List.length_append,List.length_take,List.length_drop]
  omega
 have a2:A.take i=rows.take i:=by
  rw [← hA,List.take_append_of_le_length (by rw [List.length_take]; omega),List.take_take,Nat.min_eq_left (by omega)]
 have a4:A.drop (i+1)=rows.drop i:=by
  rw [← hA,List.drop_append_of_le_length (by rw [List.length_take]; omega),List.drop_eq_nil_of_le (by rw [List.length_take]; omega),List.nil_append]
 have a3:(i≤A.length)=True:=eq_true (by omega)
 simp only [bh,cj,go_sem,List.length_cons,List.length_nil,Int.natCast_one,e1,e2,e3,e4,e6,b1,b2,b4,t4,Nat.zero_add]
 rw [o1 _ rfl rfl]
 simp only [go_sem,auB,auC,auD,List.length_cons,List.length_nil,Int.natCast_one,e6,b3,b4,t1,t2,t3,t4,t5,t6,t7,t8,t9,f4,a3,hA,Nat.zero_add,Nat.sub_self,Nat.le_refl,and_self]
 rw [a2,a4,show rows.take i++[r]++rows.drop i=rows.take i++r::rows.drop i by rw [List.append_assoc]; rfl]
 exact Lg rfl rfl (by rw [List.length_append,List.length_take,List.length_cons,List.length_drop]; omega) rfl
abbrev GI:=List (Nat × List AV × AV)
def R7:GI→FuncId→List AV→Option AV
 | [],_,_=>none
 | x::l,f,args=>if x.1=f then (if Bh x.2.1 args=true then some x.2.2 else R7 l f args) else R7 l f args
def Vx (a:Option AV) (hs:List Ob) (b:Option (AV × List Ob)):Option (AV × List Ob):=match a,hs with
 | some r,[]=>some (r,[])
 | _,_=>b
def Lh (e:Env) (T:GI):Nat→dG
 | 0=>fun _ _ _=>none
 | n+1=>fun f args hs=>Vx (R7 T f args) hs (match e.E f with
  | some g=>g args hs
  | none=>(e.C f).bind fun fd=>rU (Lh e T n) { e.md with nm:=e.md.keep f } n fd args hs)
theorem Li {e:Env}:∀ {T:GI} {f:FuncId} {args:List AV} {r:AV},(∀ x ∈ T,dx e x.1 x.2.1 []=some (x.2.2,[]))→R7 T f args=some r→dx e f args []=some (r,[])
 | [],f,args,r,_,h=>by cases h
 | x::l,f,args,r,ht,h=>by
  unfold R7 at h
  split at h
  ·rename_i h1
   split at h
   ·rename_i h2
    cases h
    have:=ht x (by simp)
    rw [h1,qK h2] at this
    exact this
   ·exact Li (fun y hy=>ht y (by simp [hy])) h
  ·exact Li (fun y hy=>ht y (by simp [hy])) h
theorem mz {call:dG} {md:Mode} {lf:Nat}:∀ (c:Cmd) {s:ag} {h:ab} {r:Ex × St},bG call md lf c s h=some r→am call md c s h=some r
 | .skip,s,h,r,hz=>hz
 | .ops ks l,s,h,r,hz=>hz
 | .dops ks l ps,s,h,r,hz=>hz
 | .seq a b,s,h,r,hz=>by
  simp only [bG,bX] at hz
  split at hz
  ·cases hz
  ·rename_i t1 ht1
   simp only [am,bX,mz a ht1,mz b hz]
  ·rename_i i t1 ht1
   simp only [am,bX,mz a ht1]
   exact hz
  ·rename_i t1 ht1
   simp only [am,bX,mz a ht1]
   exact hz
 | .cond c a b,s,h,r,hz=>by
  simp only [bG,lD] at hz
  split at hz
  ·rename_i t ht
   cases t with
   | true=>simp only [am,lD,ht,if_true]; exact mz a hz
   | false=>simp only [am,lD,ht,Bool.false_eq_true,if_false]; exact mz b hz
  ·cases hz
 | .block id ks a,s,h,r,hz=>by
  simp only [bG,aB] at hz
  split at hz
  ·cases hz
  ·rename_i t1 ht1
   simp only [am,aB,mz a ht1]
   exact hz
  ·rename_i i t1 ht1
   simp only [am,aB,mz a ht1]
   exact hz
  ·rename_i t1 ht1
   simp only [am,aB,mz a ht1]
   exact hz
 | .loop ks hs a,s,h,r,hz=>by
  simp only [bG] at hz
  simp only [am,aD]
  rw [i9]
  exact ⟨lf,fun k hk=>CJ (fun hh=>mz a hh) lf hk hz⟩
 | .exit id,s,h,r,hz=>hz
 | .ret,s,h,r,hz=>hz
 | .frz is a,s,h,r,hz=>by
  simp only [bG,bc] at hz
  split at hz
  ·cases hz
  ·rename_i t1 ht1
   simp only [am,bc,ht1]
   exact mz a hz
theorem Vy {e:Env} {T:GI} (ht:∀ x ∈ T,dx e x.1 x.2.1 []=some (x.2.2,[])):∀ n,xB (Lh e T n) (dx e)
 | 0=>fun f a hs r hz=>by cases hz
 | n+1=>fun f a hs r hz=>by
  have old:(match e.E f with | some g=>g a hs | none=>(e.C f).bind fun fd=>rU (Lh e T n) { e.md with nm:=e.md.keep f } n fd a hs)=some r→dx e f a hs=some r:=by
   intro hz
   split at hz
   ·rename_i g hE
    rw [zH hE]
    exact hz
   ·rename_i hE
    simp only [Option.bind_eq_some_iff] at hz
    obtain ⟨fd,hC,hz⟩:=hz
    refine BI hE hC ?_
    unfold rU at hz
    unfold PH
    split at hz
    ·rename_i hcc
     rw [if_pos hcc]
     cases hx:bG (Lh e T n) { e.md with nm:=e.md.keep f } n fd.body (oT a) (ak hs) with
     | none=>rw [hx] at hz; cases hz
     | some q =>
      rw [hx] at hz
      rw [mz fd.body (fv (Vy ht n) (Nat.le_refl n) fd.body hx)]
      exact hz
    ·cases hz
  unfold Lh at hz
  unfold Vx at hz
  split at hz
  ·rename_i r' hl
   cases hz
   exact Li ht hl
  ·exact old hz
theorem af {e:Env}:∀ x ∈ ([]:GI),dx e x.1 x.2.1 []=some (x.2.2,[]):=fun _ h=>by cases h
theorem aa {e:Env} {x:Nat × List AV × AV} {T:GI} (h1:dx e x.1 x.2.1 []=some (x.2.2,[])) (h2:∀ x ∈ T,dx e x.1 x.2.1 []=some (x.2.2,[])):∀ y ∈ x::T,dx e y.1 y.2.1 []=some (y.2.2,[]):=fun y hy=>by
 rcases List.mem_cons.1 hy with rfl | hy
 ·exact h1
 ·exact h2 y hy
theorem aI {e:Env} (T:GI) (n:Nat) (x:Nat × List AV × AV) (ht:∀ x ∈ T,dx e x.1 x.2.1 []=some (x.2.2,[])) (h:Lh e T n x.1 x.2.1 []=some (x.2.2,[])):dx e x.1 x.2.1 []=some (x.2.2,[]):=Vy ht n _ _ _ _ h
end Go.Ab
namespace Go.Ab
open Go Go.Proofs Go.Shelf
def afc:Ren:=⟨fun | 28=>209 | n=>n,fun | 25=>132 | 27=>75 | 53=>190 | n=>n,fun n=>n⟩
theorem aa1:Lays7.n28 Tryz.prog afc where
 mixed:=by kernel_rfl
 f28:=by kernel_rfl
 t0:=by kernel_rfl
 a0:=Tryz.isAgg0
 z0:=Tryz.sizeOf0
 v0:=Tryz.zeroValue0
 i0:=by kernel_rfl
 t3:=by kernel_rfl
 a3:=Tryz.isAgg3
 z3:=Tryz.sizeOf3
 v3:=Tryz.zeroValue3
 i3:=by kernel_rfl
 t4:=by kernel_rfl
 a4:=Tryz.isAgg4
 z4:=Tryz.sizeOf4
 v4:=Tryz.zeroValue4
 i4:=by kernel_rfl
 t5:=by kernel_rfl
 a5:=Tryz.isAgg5
 z5:=Tryz.sizeOf5
 v5:=Tryz.zeroValue5
 i5:=by kernel_rfl
 t25:=by kernel_rfl
 a25:=Tryz.isAgg132
 z25:=Tryz.sizeOf132
 v25:=Tryz.zeroValue132
 i25:=by kernel_rfl
 t27:=by kernel_rfl
 a27:=Tryz.isAgg75
 z27:=Tryz.sizeOf75
 v27:=Tryz.zeroValue75
 i27:=by kernel_rfl
 t53:=by kernel_rfl
 a53:=Tryz.isAgg190
 z53:=Tryz.sizeOf190
 v53:=Tryz.zeroValue190
 i53:=by kernel_rfl
 g0:=by kernel_rfl
def CM:Inv where
 p w X:=X 0∧TabAt 0 Lib.deBruijn32tab w
 stab:=fun {w w' X} h hs=>⟨h.1,fun j hj=>by rw [jM (hs 0 h.1)]; exact h.2 j hj⟩
 more:=fun h hx=>⟨hx 0 h.1,h.2⟩
theorem Vz:∀ (k x:Nat),Lib.ctzFrom k x=Mg k x
 | 0,x=>rfl
 | k+1,x=>by
  unfold Lib.ctzFrom Mg
  rw [Vz k (x / 2),Nat.add_comm]
set_option maxRecDepth 100000 in
theorem afd:ko Tryz.prog CM false F.bits_TrailingZeros32 tzF:=by
 intro args obs obs' res w X ρ vals n hz hn hi hr hs hv
 unfold tzF at hz
 split at hz
 ·rename_i x
  by_cases hc:0 < x∧x < 4294967296∧obs=[]
  ·rw [if_pos hc] at hz
   obtain ⟨h0,h1,rfl⟩:=hc
   simp only [Option.some.injEq,Prod.mk.injEq] at hz
   obtain ⟨rfl,rfl⟩:=hz
   have hv0:=hv 0 (.v (.int .u32 x)) (vals.getD 0 undef) rfl (by simp at hs; simp [Array.getD_eq_getD_getElem?,hs])
   have e0:vals=#[.int .u32 x]:=by
    simp only [List.length_cons,List.length_nil] at hs
    have:=hv0.v_inv.1
    apply Array.ext
    ·simpa using hs
    ·intro i h2 h3
     have:i=0:=by simp at h3; exact h3
     subst this
     simpa [Array.getD_eq_getD_getElem?,hs] using this
   subst e0
   obtain ⟨m,rfl⟩:∃ m:Nat,x=m:=⟨x.toNat,by omega⟩
   have key:=Any7.bits_TrailingZeros32 aa1 m (by omega) w fun _=>hi.2
   have he:(callFunc F.bits_TrailingZeros32 #[.int .u32 (m:Int)]).run Tryz.prog w=.ok (.enter F.bits_TrailingZeros32 #[.int .u32 (m:Int)]) w:=(enters_of (aa1.f28) (by kernel_rfl) rfl:Proofs.Enters Tryz.prog (afc.f 28)) _ _
   unfold Enters
   rw [he]
   refine Calls.mono key fun e w' hw=>?_
   obtain ⟨rfl,rfl⟩:=hw
   refine ⟨ρ,hr,.refl _ _ _ _,?_⟩
   refine .dat ?_
   have:Lib.ctz 32 m=Mg 32 m:=by
    unfold Lib.ctz
    rw [if_neg (by omega),Vz]
   simp only [this,Int.toNat_natCast,mat,cM]
   exact .v _ rfl
  ·rw [if_neg hc] at hz
   cases hz
 ·cases hz
end Go.Ab
namespace Go.Ab
open Go Go.Proofs Go.ChangeShapes Go.WideShapes Go.Deep Go.RowKit
set_option maxRecDepth 100000
section
variable {H:Type} {enc:TypeId × Value→H} {w:World}
def CN (w:World) (b:Nat):Prop:=b < w.heap.size∧b ≠ 0
def CO (w:World):Prop:=∀ o v,w.cell? ⟨0,o,none⟩=some v→∃ n,v=.int .u8 n
def CP (u:Value):Prop:=∀ n,u ≠ .int .u8 n
theorem ajs (ht:CO w) {a:Addr} {u:Value} (h:w.cell? a=some u) (hn:CP u):CN w a.block∧a.spot=none:=by
 have h1:a.spot=none:=by
  unfold World.cell? at h
  split at h
  ·split at h
   ·cases h
   ·rename_i hs
    simpa using hs
  ·cases h
 refine ⟨⟨?_,fun h0=>?_⟩,h1⟩
 ·unfold World.cell? at h
  split at h
  ·rename_i hb
   exact (Array.getElem?_eq_some_iff.1 hb).1
  ·cases h
 ·obtain ⟨b,o,s⟩:=a
  simp only at h0 h1
  subst h0 h1
  obtain ⟨n,hv⟩:=ht o u h
  exact hn n hv
def rL (w:World) (fs:List AV) (cs:List Value):Prop :=
 fs.length=cs.length∧∀ (j:Nat) (c:AV) (u:Value),fs[j]?=some c→cs[j]?=some u→RD w (CN w) c u∧aA c=true∧u.oneCell'=true
theorem rL.app {fa fb:List AV} {ca cb:List Value} (ha:rL w fa ca) (hb:rL w fb cb):rL w (fa++fb) (ca++cb):=by
 refine ⟨by simp [ha.1,hb.1],fun j c u h1 h2=>?_⟩
 by_cases hj:j < fa.length
 ·rw [List.getElem?_append_left hj] at h1
  rw [List.getElem?_append_left (by rw [← ha.1]; exact hj)] at h2
  exact ha.2 j c u h1 h2
 ·rw [List.getElem?_append_right (by omega)] at h1
  rw [List.getElem?_append_right (by rw [← ha.1]; omega),← ha.1] at h2
  exact hb.2 _ c u h1 h2
theorem rL.one {c:AV} {u:Value} (h:RD w (CN w) c u) (hd:aA c=true) (h1:u.oneCell'=true):rL w [c] [u]:=by
 refine ⟨rfl,fun j c' u' hc hu=>?_⟩
 cases j with
 | zero=>simp at hc hu; subst hc hu; exact ⟨h,hd,h1⟩
 | succ j=>simp at hc
noncomputable abbrev Tr (w:World) (enc:TypeId × Value→H) (n:Nat) (t:TypeId) (cs:List Value):Option (DataW H × List MemPlace):=DataW.trod enc Tryz.prog w 0 (fun _=>true) true n t cs
def xD (t:TypeId) (d:DataW H):Prop:=∀ m ∈ DataW.weights Tryz.prog t d,m≤reachBytes
theorem ajt {e:TypeId}:∀ {l:List (DataW H)} {d:DataW H} {m:Nat},d ∈ l→m ∈ DataW.weights Tryz.prog e d→m ∈ DataW.weightsAll Tryz.prog e l
 | [],d,m,h,_=>by simp at h
 | a::l,d,m,h,hm=>by
  simp only [DataW.weightsAll,List.mem_append]
  rcases List.mem_cons.1 h with rfl | h
  ·exact .inl hm
  ·exact .inr (ajt h hm)
theorem VA {α:Type} {p:Nat→α→Prop}:∀ (n:Nat),(∀ i,i < n→∃ r,p i r)→∃ l:List α,l.length=n∧∀ (i:Nat) (r:α),l[i]?=some r→p i r
 | 0,_=>⟨[],rfl,fun i r h=>by simp at h⟩
 | n+1,h=>by
  obtain ⟨l,h1,h2⟩:=VA n fun i hi=>h i (by omega)
  obtain ⟨r,hr⟩:=h n (by omega)
  refine ⟨l++[r],by simp [h1],fun i r' hi=>?_⟩
  by_cases hin:i < n
  ·rw [List.getElem?_append_left (by omega)] at hi
   exact h2 i r' hi
  ·rw [List.getElem?_append_right (by omega)] at hi
   have:i=n:=by
    have:=(List.getElem?_eq_some_iff.1 hi).1
    simp at this
    omega
   subst this
   simp [h1] at hi
   subst hi
   exact hr
theorem VB {α:Type} {t e:TypeId} {k bs:Nat} (ht:Tryz.prog.underlying t=some (.slice e)) (hk:Tryz.prog.cellsOf e=k) (h0:0 < k) (hbs:Tryz.prog.bytesOf e=bs) (F:α→List AV) (Q:α→Prop) (hT:CO w)
  (hrow:∀ n cs' x,Tr w enc n e cs'=some x→xD e x.1→∃ r,Q r∧rL w (F r) cs'∧∃ u,cs'[0]?=some u∧CP u) {fuel:Nat} {cs:List Value} {x:DataW H × List MemPlace}
  (h:Tr w enc fuel t cs=some x) (hw:xD t x.1):∃ (l:List α) (v:Value),cs=[v]∧(∀ r ∈ l,Q r)∧l.length*bs≤reachBytes∧RD w (CN w) (.sl k (l.map F)) v∧v.oneCell'=true∧CP v:=by
 rcases open_slice ht h with ⟨rfl,_⟩ | ⟨a,len,cap,m,n,D,Pl,rfl,hb,hl,hm,hmm,rfl,hx⟩
 ·exact ⟨[],_,rfl,fun r hr=>by simp at hr,by simp,.sl k [] none 0 ⟨0,0,none⟩ (fun _ _=>undef) (by simp) (fun h=>absurd rfl h) (fun r hr=>by simp at hr) (fun i r j c hr=>by simp at hr) (fun r hr=>by simp at hr) (fun i r j c hr=>by simp at hr),rfl,fun n e=>by cases e⟩
 ·have hlm:len≤m:=by rw [hmm]; split <;> omega
  have hwe:∀ i,i < len→xD e (D i):=fun i hi q hq=>by
   refine hw q ?_
   simp only [DataW.weights,ht,List.mem_cons,List.mem_append]
   exact .inr (.inl (ajt (List.mem_map.2 ⟨i,List.mem_range.2 hi,rfl⟩) hq))
  have hbn:len*bs≤reachBytes:=by
   have:=hw ((((List.range len).map D).length+((List.range (m - len)).map fun j=>D (len+j)).length)*Tryz.prog.bytesOf e) (by simp [DataW.weights,ht])
   simp only [List.length_map,List.length_range,hbs] at this
   exact Nat.le_trans (Nat.mul_le_mul_right _ (by omega)) this
  obtain ⟨l,l1,l2⟩:=VA (p:=fun i r=>Q r∧∃ cs',w.cells? 0 (a.add (i*k)) k=some cs'∧rL w (F r) cs'∧∃ u,cs'[0]?=some u∧CP u) len fun i hi=>by
   obtain ⟨cs',h1,h2⟩:=hx i (by omega)
   obtain ⟨r,g1,g2,g3⟩:=hrow _ _ _ h2 (hwe i hi)
   rw [hk] at h1
   exact ⟨r,g1,cs',h1,g2,g3⟩
  have cell:∀ (i:Nat) (row:List AV) (j:Nat) (c:AV),(l.map F)[i]?=some row→row[j]?=some c→∃ u,w.cell? (a.add (i*k+j))=some u∧RD w (CN w) c u∧aA c=true:=fun i row j c hi hj=>by
   simp only [List.getElem?_map,Option.map_eq_some_iff] at hi
   obtain ⟨r,hr,rfl⟩:=hi
   obtain ⟨_,cs',c1,c2,_⟩:=l2 i r hr
   obtain ⟨_,c3,c4⟩:=World.cells?_some c1
   have hjk:j < k:=by
    have:=(List.getElem?_eq_some_iff.1 hj).1
    rw [c2.1,c3] at this
    exact this
   have:=c4 j hjk
   rw [vQ] at this
   obtain ⟨u,hu⟩:∃ u,cs'[j]?=some u:=⟨cs'[j]'(by omega),by simp⟩
   exact ⟨u,by rw [this,hu],(c2.2 j c u hj hu).1,(c2.2 j c u hj hu).2.1⟩
  refine ⟨l,_,rfl,fun r hr=>?_,by rw [l1]; exact hbn,?_,rfl,fun n e=>by cases e⟩
  ·obtain ⟨i,hi⟩:=List.getElem?_of_mem hr
   exact (l2 i r hi).1
  ·have:=RD.sl (w:=w) (A:=CN w) k (l.map F) (some a) cap a (fun i j=>(w.cell? (a.add (i*k+j))).getD undef) (by simp [l1,hl]) (fun hne=>?_) (fun row hr=>?_) (fun i row j c hi hj=>?_) (fun row hr c hc=>?_) (fun i row j c hi hj=>?_)
   ·simpa [l1] using this
   ·have hlen:0 < l.length:=List.length_pos_iff.2 fun e=>hne (by simp [e])
    obtain ⟨_,cs',c1,c2,u,c3,c4⟩:=l2 0 l[0] (by simp)
    have:=(World.cells?_some c1).2.2 0 h0
    rw [c3,Nat.zero_mul,xf,xf] at this
    obtain ⟨q1,q2⟩:=ajs hT this c4
    exact ⟨rfl,q1,q2⟩
   ·simp only [List.mem_map] at hr
    obtain ⟨r,hr,rfl⟩:=hr
    obtain ⟨i,hi⟩:=List.getElem?_of_mem hr
    obtain ⟨_,cs',c1,c2,_⟩:=l2 i r hi
    rw [c2.1]
    exact (World.cells?_some c1).2.1
   ·obtain ⟨u,q1,_⟩:=cell i row j c hi hj
    rw [q1]; rfl
   ·obtain ⟨i,hi⟩:=List.getElem?_of_mem hr
    obtain ⟨j,hj⟩:=List.getElem?_of_mem hc
    obtain ⟨u,_,_,q⟩:=cell i row j c hi hj
    exact q
   ·obtain ⟨u,q1,q2,_⟩:=cell i row j c hi hj
    rw [q1]; exact q2
theorem ahn {n:Nat} {cs:List Value} {x:DataW H × List MemPlace} (h:Tr w enc n 75 cs=some x) (_:xD 75 x.1):∃ r:Nat,r < 4294967296∧rL w [U (r:Int)] cs∧∃ u,cs[0]?=some u∧CP u:=by
 obtain ⟨z,rfl,rfl,hw⟩:=DataW.trod_int Tryz.underlying75 h
 simp only [Lit.wf,Bool.and_eq_true,decide_eq_true_eq] at hw
 have h1:(0:Int)≤z:=hw.1
 have h2:z≤4294967295:=hw.2
 obtain ⟨m,rfl⟩:∃ m:Nat,z=m:=⟨z.toNat,by omega⟩
 exact ⟨m,by omega,.one (.v _ rfl) rfl rfl,_,rfl,fun n e=>by cases e⟩
theorem aa2 (hT:CO w) {n:Nat} {cs:List Value} {x:DataW H × List MemPlace} (h:Tr w enc n 29 cs=some x) (hw:xD 29 x.1):∃ m:List Nat,(Lb m∧m.length < 4611686018427387904)∧rL w [lm m] cs∧∃ u,cs[0]?=some u∧CP u:=by
 obtain ⟨l,v,rfl,h1,h2,h3,h4,h5⟩:=VB (k:=1) (bs:=4) Tryz.underlying29 (by kernel_rfl) (by decide) (by kernel_rfl) (fun (r:Nat)=>[U (r:Int)]) (fun r=>r < 4294967296) hT (fun n cs' x=>ahn) h hw
 refine ⟨l,⟨h1,?_⟩,.one h3 rfl h4,_,rfl,h5⟩
 unfold reachBytes at h2
 omega
theorem R8 (hT:CO w) {n:Nat} {cs:List Value} {x:DataW H × List MemPlace} (h:Tr w enc n 31 cs=some x) (hw:xD 31 x.1):∃ d:Rd,Ok0 d∧rL w (aj d) cs∧∃ u,cs[0]?=some u∧CP u:=by
 obtain ⟨y0,y1,y2,m,rfl,hl,h0,h1,h2⟩:=trod_struct3 Tryz.underlying31 h
 have hl3:cs.length=3:=hl.trans (by kernel_rfl)
 match cs,hl3 with
 | [a,b,c],_ =>
  have k0:Tr w enc m 4 [a]=some y0:=h0
  have k1:Tr w enc m 29 [b]=some y1:=h1
  have k2:Tr w enc m 3 [c]=some y2:=h2
  have w1:xD 29 y1.1:=fun q hq=>hw q (by simp [DataW.weights,DataW.weightsEach,Tryz.underlying31]; exact .inr (.inl hq))
  obtain ⟨bb,e0,e1⟩:=DataW.trod_bool Tryz.underlying4 k0
  simp only [List.cons.injEq,and_true] at e0
  subst e0
  obtain ⟨l,⟨q1,q2⟩,q3,_⟩:=aa2 hT k1 w1
  obtain ⟨z,e2,e3,_⟩:=DataW.trod_int Tryz.underlying3 k2
  simp only [List.cons.injEq,and_true] at e2
  subst e2
  exact ⟨⟨bb,l,z⟩,⟨q1,q2⟩,(rL.one (.v _ rfl) rfl rfl).app (q3.app (.one (.v _ rfl) rfl rfl)),_,rfl,fun n e=>by cases e⟩
theorem aju (hT:CO w) {n:Nat} {cs:List Value} {x:DataW H × List MemPlace} (h:Tr w enc n 33 cs=some x) (hw:xD 33 x.1):∃ d:Ri,OkI d∧rL w (aK d) cs∧∃ u,cs[0]?=some u∧CP u:=by
 obtain ⟨y0,y1,y2,m,rfl,hl,h0,h1,h2⟩:=trod_struct3 Tryz.underlying33 h
 have hl3:cs.length=7:=hl.trans (by kernel_rfl)
 match cs,hl3 with
 | [a,b,c,d,e,f,g],_ =>
  have k0:Tr w enc m 31 [a,b,c]=some y0:=h0
  have k1:Tr w enc m 31 [d,e,f]=some y1:=h1
  have k2:Tr w enc m 4 [g]=some y2:=h2
  have w0:xD 31 y0.1:=fun q hq=>hw q (by simp [DataW.weights,DataW.weightsEach,Tryz.underlying33]; exact .inl hq)
  have w1:xD 31 y1.1:=fun q hq=>hw q (by simp [DataW.weights,DataW.weightsEach,Tryz.underlying33]; exact .inr (.inl hq))
  obtain ⟨d0,p1,p2,p3⟩:=R8 hT k0 w0
  obtain ⟨d1,q1,q2,_⟩:=R8 hT k1 w1
  obtain ⟨bb,e0,e1⟩:=DataW.trod_bool Tryz.underlying4 k2
  simp only [List.cons.injEq,and_true] at e0
  subst e0
  exact ⟨⟨d0,d1,bb⟩,⟨p1,q1⟩,p2.app (q2.app (.one (.v _ rfl) rfl rfl)),p3⟩
theorem aho (hT:CO w) {n:Nat} {v:Value} {x:DataW H × List MemPlace} (h:Tr w enc n 25 [v]=some x) (hw:xD 25 x.1):∃ l:List Ri,(∀ d ∈ l,OkI d)∧RD w (CN w) (.sl 7 (da l)) v:=by
 obtain ⟨l,v',e4,q1,q2,q3,q4,q5⟩:=VB (k:=7) (bs:=88) Tryz.underlying25 (by kernel_rfl) (by decide) (by kernel_rfl) aK OkI hT (fun n cs' x=>aju hT) h hw
 simp only [List.cons.injEq,and_true] at e4
 subst e4
 exact ⟨l,q1,q3⟩
theorem ahp {fs:List AV} {us:Array Value} (rc:rL w fs us.toList):RD w (CN w) (.agg fs) (.agg us):=by
 refine .agg _ _ (by have:=rc.1; simpa using this.symm) (fun i u hu=>?_) fun i c u hc hu=>(rc.2 i c u hc (by simpa using hu)).1
 have hu':us.toList[i]?=some u:=by simpa using hu
 obtain ⟨c,hc⟩:∃ c,fs[i]?=some c:=⟨_,List.getElem?_eq_getElem (by rw [rc.1]; exact (List.getElem?_eq_some_iff.1 hu').1)⟩
 exact (rc.2 i c u hc hu').2.2
theorem ahq (hT:CO w) {n:Nat} {us:Array Value} {x:DataW H × List MemPlace} (h:Tr w enc n 31 us.toList=some x) (hw:xD 31 x.1):∃ d:Rd,Ok0 d∧RD w (CN w) (ae d) (.agg us):=by
 obtain ⟨d,h1,h2,_⟩:=R8 hT h hw
 exact ⟨d,h1,ahp h2⟩
end
end Go.Ab
namespace Go.Ab
open Go Go.Proofs Go.Shelf Go.RowKit
set_option maxRecDepth 100000
theorem Ap {args:List AV} {vals:Array Value} (h:vals.size=args.length) {i:Nat} {c:AV} (hc:args[i]?=some c):∃ u,vals[i]?=some u:=by
 have:i < args.length:=(List.getElem?_eq_some_iff.1 hc).1
 exact ⟨vals[i]'(by omega),by simp [h,this]⟩
theorem apM {vals:Array Value} {a:Value} (h:vals.size=1) (h0:vals[0]?=some a):vals=#[a]:=by
 apply Array.ext_getElem?
 intro i
 match i with
 | 0=>simpa using h0
 | i+1=>simp [h]
theorem apN {vals:Array Value} {a b:Value} (h:vals.size=2) (h0:vals[0]?=some a) (h1:vals[1]?=some b):vals=#[a,b]:=by
 apply Array.ext_getElem?
 intro i
 match i with
 | 0=>simpa using h0
 | 1=>simpa using h1
 | i+2=>simp [h]
theorem MC {w:World} {a:Addr} {us:Array Value} {e:TypeId} (h:w.heap[a.block]?=some (.cells us e (0,0))):w.frozen? a=false:=by
 simp [World.frozen?,h]
theorem ahr {P:Program} (w:World) (tS tR e:TypeId) (ht:P.underlying tS=some (.slice e)) (size:Nat) (hz:∀ w,(Go.sizeOf e).run P w=.ok size w) (a:Addr) (b:Option Addr) (la ca cb:Nat) :
  (Extern.SlicesOverlaps.overlaps #[tS,tS] #[tR] #[.slice (some a) la ca,.slice b 0 cb]).run P w=.ok (.bool false) w:=by
 change Sem.run P (α:=Value) (do
  let some t := (#[tS, tS] : Array TypeId)[0]? | stuck "slices.overlaps: no parameter types"
  let .slice elem ← underlying t | stuck "slices.overlaps: slice type expected"
  let size ← sizeOf elem
  match (some a:Option Addr),b with
  | some a,some b =>
   if la=0∨0=0∨size=0 then pure (Value.bool false)
   else if a.block != b.block && (← frozen a) && (← frozen b) then unsupported .addressObserved
   else do
    if a.block != b.block then do
     noView a; noView b
     if ← mayBeOne a b then return Value.bool ((← choose (.extern "sameAddr.stringBytes" 2)) == 1)
    pure (Value.bool (a.block == b.block && a.off < b.off+0*size && b.off < a.off+la*size))
  | _,_=>pure (Value.bool false)) w=_
 cases b <;> simp [run_underlying ht,hz]
theorem ajv {P:Program} (w:World) (tS tR e:TypeId) (ht:P.underlying tS=some (.slice e)) (size:Nat) (hz:∀ w,(Go.sizeOf e).run P w=.ok size w)
  (a b:Addr) (la ca lb cb:Nat) (hne:a.block ≠ b.block) (tA:TypeId) (kA:Nat) {us:Array Value} {tB:TypeId}
  (hkA:kA ≠ 0) (hsa:w.shape? a.block=some (tA,kA)) (hb:w.heap[b.block]?=some (.cells us tB (0,0))) (hu:us.size ≠ 0) :
  (Extern.SlicesOverlaps.overlaps #[tS,tS] #[tR] #[.slice (some a) la ca,.slice (some b) lb cb]).run P w=.ok (.bool false) w:=by
 have hnb:(a.block != b.block)=true:=by simpa using hne
 have hnb':(a.block == b.block)=false:=by simpa using hne
 have hsb:w.shape? b.block=some (tB,us.size):=by simp [World.shape?,hb]
 have hfb:w.frozen? b=false:=MC hb
 have hfe:w.frozen? { block:=b.block,off:=us.size }=false:=MC (a:=⟨b.block,us.size,none⟩) hb
 change Sem.run P (α:=Value) (do
  let some t := (#[tS, tS] : Array TypeId)[0]? | stuck "slices.overlaps: no parameter types"
  let .slice elem ← underlying t | stuck "slices.overlaps: slice type expected"
  let size ← sizeOf elem
  match (some a:Option Addr),(some b:Option Addr) with
  | some a,some b =>
   if la=0∨lb=0∨size=0 then pure (Value.bool false)
   else if a.block != b.block && (← frozen a) && (← frozen b) then unsupported .addressObserved
   else do
    if a.block != b.block then do
     noView a; noView b
     if ← mayBeOne a b then return Value.bool ((← choose (.extern "sameAddr.stringBytes" 2)) == 1)
    pure (Value.bool (a.block == b.block && a.off < b.off+lb*size && b.off < a.off+la*size))
  | _,_=>pure (Value.bool false)) w=_
 by_cases h0:la=0∨lb=0∨size=0
 ·simp [run_underlying ht,hz,h0]
 ·obtain ⟨n,hn⟩:∃ n,us.size=n+1:=⟨us.size - 1,by omega⟩
  rw [hn] at hsb hfe
  obtain ⟨kA,rfl⟩:∃ k,kA=k+1:=⟨kA - 1,by omega⟩
  cases hfa:w.frozen? a <;> cases hfa2:w.frozen? { block:=a.block,off:=kA+1 } <;>
   simp [run_underlying ht,hz,h0,hnb,hnb',frozen,noView,viewAt,mayBeOne,stringish,shape,Sem.run,hsa,hsb,hfa,hfa2,hfb,hfe]
theorem X3 {w:World} {a:Addr} {v:Value} (h:w.cell? a=some v):∃ t k,k ≠ 0∧w.shape? a.block=some (t,k):=by
 unfold World.cell? at h
 split at h
 ·rename_i cs t fr hb
  refine ⟨t,cs.size,fun h0=>?_,by unfold World.shape?; rw [hb]⟩
  split at h
  ·cases h
  ·have:=(Array.getElem?_eq_some_iff.1 h).1
   omega
 ·cases h
theorem ajw {P : Program} {I : Inv} {f : FuncId} {fn : Func} {tS tR e : TypeId} {size : Nat} (hf : P.funcs[f]? = some fn) (hname : (fn.name == "runtime.NumGoroutine") = false) (hb : fn.body.isNone = true) (hn : Extern.findNext fn = none)
  (he:Extern.find fn=some (Extern.SlicesOverlaps.overlaps #[tS,tS] #[tR])) (ht:P.underlying tS=some (.slice e)) (hz:∀ w,(Go.sizeOf e).run P w=.ok size w):ko P I false f (UD 4):=by
 intro args obs obs' res w X ρ vals n hz' hn' hi hr hs hv
 unfold UD at hz'
 split at hz'
 ·rename_i k0 row rows k1 lo m k2 rows2
  split at hz'
  ·rename_i hk
   obtain ⟨rfl,rfl,rfl⟩:=hk
   cases hz'
   obtain ⟨u0,h0⟩:=Ap hs (i:=0) rfl
   obtain ⟨u1,h1⟩:=Ap hs (i:=1) rfl
   have e0:=hv 0 _ _ rfl h0
   have e1:=hv 1 _ _ rfl h1
   obtain rfl:=apN hs h0 h1
   have d0:=e0.sl_inv
   obtain ⟨a1,cap1,rfl,hp,hn1,hb1,ha1⟩:=e1.rsl_inv
   have ho:RO w (aH w X (ak [.ar 4 rows2]) ρ) ρ (ak [.ar 4 rows2]) 1000 (.ar 4 rows2):=hr.ob 1000
   obtain ⟨us,tB,g1,g2,g3,g4⟩:=ho
   have hlive:live (ak [.ar 4 rows2]) 1000 none:=trivial
   cases d0 with
   | sl _ _ a cap ad vs hc ha hk hv2 hl hr2 =>
    obtain ⟨rfl,hA,hsp⟩:=ha (by simp)
    have hlen:=hk row (by simp)
    obtain ⟨c,hrow⟩:∃ c,row[0]?=some c:=⟨row[0]'(by omega),by simp⟩
    have hcell:=hv2 0 row 0 c rfl hrow
    obtain ⟨tA,kA,hkA,hsh⟩:=X3 hcell
    rw [jK] at hsh
    have run:(callFunc f #[.slice (some ad) (row::rows).length cap,.slice a1 m cap1]).run P w=.ok (.value (.bool false)) w:=by
     rw [run_callFunc_extern hf hname hb hn he]
     by_cases hm:m=0
     ·subst hm
      rw [ahr w tS tR e ht size hz]
      rfl
     ·rcases ha1 with h | rfl
      ·omega
      ·rw [ajv w tS tR e ht size hz ad ⟨(ρ 1000 none).1,lo*4,none⟩ _ cap m cap1 (fun hh=>hA.2.2 ⟨1000,none,hlive,hh.symm⟩) tA kA hkA hsh g1 (by omega)]
       rfl
    unfold Enters
    rw [run]
    exact ⟨ρ,hr,.refl _ _ _ _,.dat (.v _ rfl)⟩
  ·cases hz'
 ·cases hz'
theorem ahs {P:Program} {I:Inv} (hR:ko P I false F.slices_Insert_api_Term_api_Term_ (R0 F.slices_Insert_api_Term_api_Term_)):ko P I false F.slices_Insert_api_Term_api_Term_ (PT 4 64):=by
 intro args obs obs' res w X ρ vals n hz hn hi hr hs hv
 unfold PT at hz
 split at hz
 ·rename_i k0 r
  split at hz
  ·rename_i hk
   subst hk
   cases hz
   exact hR ahj hn hi hr hs hv
  ·cases hz
 ·rename_i k1 m i k0 r k2 rows
  split at hz
  ·rename_i hk
   obtain ⟨rfl,rfl,rfl,rfl,hi0,hi1,hb⟩:=hk
   cases hz
   obtain ⟨i,rfl⟩:=Int.eq_ofNat_of_zero_le hi0
   rw [Int.toNat_natCast]
   by_cases hend:i=rows.length
   ·subst hend
    have:=hR (aaZ (r:=r) rfl hb) hn hi hr hs hv
    rw [List.take_of_length_le (Nat.le_refl _),List.drop_eq_nil_of_le (Nat.le_refl _)]
    exact this
   ·have hlt:i < rows.length:=by omega
    obtain ⟨u0,h0⟩:=Ap hs (i:=0) rfl
    obtain ⟨a,cap,rfl,hp,hn1,hb1,ha⟩:=(hv 0 _ _ rfl h0).rsl_inv
    have hv':∀ (j:Nat) (c:AV) (u:Value),[AV.rsc 1000 4 0 rows.length cap,.v (.int .i64 i),.sl 4 [r]][j]?=some c→vals[j]?=some u→RV w (aH w X (ak [.ar 4 rows]) ρ) ρ (ak [.ar 4 rows]) c u:=by
     intro j c u hc hu
     match j,hc with
     | 0,hc =>
      cases hc
      rw [h0] at hu
      cases hu
      exact .rsc 1000 4 0 _ cap a hp hn1 hb1 ha
     | j+1,hc=>exact hv (j+1) c u hc hu
    rcases Nat.lt_or_ge rows.length cap with hc | hc
    ·exact hR (ahm rfl hlt hc hb) hn hi hr hs hv'
    ·obtain rfl:cap=rows.length:=by omega
     refine (hR (ahl rfl hlt hb) hn hi hr hs hv').mono fun v w' ⟨ρ',q1,q2,q3⟩=>?_
     generalize rows.take i++r::rows.drop i=L at q1 q2 q3 ⊢
     have hd:=Hb q1 (id:=1000) (k:=4) (rows:=rows) (by
      show (if 1000=n then _ else _)=_
      rw [if_neg (by omega)]
      rfl)
     have eq:upd (mat n (ak [.ar 4 rows]) (.osl 4 L)).2 1000 .dead=(mat n (ak [.dead]) (.osl 4 L)).2:=by
      show upd (upd (ak [.ar 4 rows]) n (.ar 4 L)) 1000 .dead=upd (ak [.dead]) n (.ar 4 L)
      rw [rK,rK]
      funext j
      unfold upd
      by_cases h1:j=1000
      ·rw [if_pos h1,if_neg (by omega),if_pos h1]
      ·rw [if_neg h1,if_neg h1,if_neg h1]
     rw [eq] at hd
     refine ⟨ρ',hd.1,q2.trans (hd.2.far rfl),hd.2.rvk q3 (.inr ?_)⟩
     show fF [(1000,false)] n none=false
     simp [fF]
     omega
  ·cases hz
 ·cases hz
theorem MD {w w':World} {X:Nat→Prop} {ρ:bB} (hr:Rel w X ρ (ak [])) (hb:Below w.heap.size w w'):Rel w' X ρ (ak [])∧Far false w ρ (ak []) w' ρ (ak []):=by
 have hl:∀ id sub,¬ live (ak []) id sub:=fun id sub=>by
  have hd:ak [] id=.dead:=by
   unfold ak
   split <;> simp
  cases sub with
  | none=>simp [live,hd]
  | some p=>simp [live,hd]
 refine ⟨⟨fun id sub _ _ h=>(hl id sub h).elim,fun id sub h=>(hl id sub h).elim,fun id=>?_,fun b hb'=>Nat.lt_of_lt_of_le (hr.xl b hb') hb.size⟩,hb.os,hb.tape,hb.output,hb.size,fun b h1 _=>hb.block b h1,fun b ⟨id,sub,h,_⟩=>(hl id sub h).elim,fun id _ h=>?_,fun h=>by cases h⟩
 ·have hd:ak [] id=.dead:=by
   unfold ak
   split <;> simp
  rw [hd]
  trivial
 ·exfalso
  apply h
  unfold ak
  split <;> simp
theorem ajx {P:Program} {I:Inv} {ρ0:Ren} (L:Lays2.n15 P ρ0) (hf:ρ0.f 15=F.slices_Clone_int_int_) (he:∀ a w,(callFunc F.slices_Clone_int_int_ a).run P w=.ok (.enter F.slices_Clone_int_int_ a) w)
  (hR:ko P I false F.slices_Clone_int_int_ (R0 F.slices_Clone_int_int_)):ko P I false F.slices_Clone_int_int_ Zi:=by
 intro args obs obs' res w X ρ vals n hz hn hi hr hs hv
 unfold Zi at hz
 split at hz
 ·cases hz
  obtain ⟨u0,h0⟩:=Ap hs (i:=0) rfl
  have d0:=(hv 0 _ _ rfl h0).sl_inv
  obtain rfl:=apM hs h0
  cases d0 with
  | sl _ _ a cap ad vs hc ha hk hv2 hl hr2 =>
   unfold Enters
   rw [he]
   have fin:∀ (w':World) (b:Option Addr) (c:Nat),Below w.heap.size w w'→∃ ρ',Rel w' X ρ' (mat n (ak []) (.sl 1 [])).2∧Far false w ρ (ak []) w' ρ' (mat n (ak []) (.sl 1 [])).2 ∧
     RV w' (aH w' X (mat n (ak []) (.sl 1 [])).2 ρ') ρ' (mat n (ak []) (.sl 1 [])).2 (mat n (ak []) (.sl 1 [])).1 (.slice b 0 c):=fun w' b c hb =>
    ⟨ρ,(MD hr hb).1,(MD hr hb).2,.dat (.sl 1 [] b c ad vs (Nat.zero_le _) (fun h=>absurd rfl h) (fun _ h=>by cases h) (fun i row j c h=>by simp at h) (fun _ h=>by cases h) (fun i row j c h=>by simp at h))⟩
   cases a with
   | none =>
    have key:=Any.slices_Clone_int_nil L 0 cap w
    rw [hf] at key
    refine Calls.mono key fun e w' hw=>?_
    obtain ⟨rfl,rfl⟩:=hw
    exact fin _ _ _ (Below.refl _ _)
   | some a0 =>
    have key:=Any.slices_Clone_int_zero L a0 cap w
    rw [hf] at key
    refine Calls.mono key fun e w' hw=>?_
    obtain ⟨v',rfl,⟨_,hown⟩,_,hb⟩:=hw
    rcases hown with ⟨rfl,_⟩ | ⟨g,c2,cur,rfl,_⟩
    ·exact fin _ _ _ hb
    ·exact fin _ _ _ hb
 ·rename_i r rs
  split at hz
  ·rename_i hb
   cases hz
   exact hR (ad7 hb) hn hi hr hs hv
  ·cases hz
 ·cases hz
abbrev TX (f:Nat) (fd:FD):Prop:=Text Go.Proofs.Tryz.prog f fd
theorem tx {f : Nat} {fd : FD} {fn : Func} (h : Go.Proofs.Tryz.prog.funcs[f]? = some fn) (h2 : (fn.body.bind fun c => fy Go.Proofs.Tryz.prog fn.ntmps c fd.body, zt Go.Proofs.Tryz.prog fn.results.toList, decide (fn.ntmps ≤ 1000), fn.name == "runtime.NumGoroutine") = (some fd.body, some fd.res, true, false)) : TX f fd := by
 simp only [Prod.mk.injEq,Option.bind_eq_some_iff,decide_eq_true_eq] at h2
 obtain ⟨⟨c,h3,h4⟩,h5,h6,h7⟩:=h2
 exact ⟨⟨fn,c,_,h,h3,rfl,h6,h4,h5,h7⟩⟩
theorem tn:∀ p ∈ ([]:List (Nat × FD)),TX p.1 p.2:=fun _ h=>by cases h
theorem tc {f:Nat} {fd:FD} {l:List (Nat × FD)} (h1:TX f fd) (h2:∀ p ∈ l,TX p.1 p.2):∀ p ∈ (f,fd)::l,TX p.1 p.2:=fun p hp=>by
 rcases List.mem_cons.1 hp with rfl | hp
 ·exact h1
 ·exact h2 p hp
open Go.Proofs.Tryz
set_option maxRecDepth 100000 in
theorem R9:∀ p ∈ aer,TX p.1 p.2:=tc (tx func7 (by kernel_rfl)) (tc (tx func9 (by kernel_rfl)) (tc (tx func11 (by kernel_rfl)) (tc (tx func12 (by kernel_rfl)) (tc (tx func13 (by kernel_rfl)) (tc (tx func14 (by kernel_rfl)) (tc (tx func18 (by kernel_rfl)) (tc (tx func19 (by kernel_rfl)) (tc (tx func22 (by kernel_rfl)) (tc (tx func23 (by kernel_rfl)) (tc (tx func24 (by kernel_rfl)) (tc (tx func34 (by kernel_rfl)) (tc (tx func35 (by kernel_rfl)) (tc (tx func36 (by kernel_rfl)) (tc (tx func37 (by kernel_rfl)) (tc (tx func38 (by kernel_rfl)) (tc (tx func39 (by kernel_rfl)) (tc (tx func40 (by kernel_rfl)) (tc (tx func41 (by kernel_rfl)) (tc (tx func42 (by kernel_rfl)) (tc (tx func44 (by kernel_rfl)) (tc (tx func46 (by kernel_rfl)) (tc (tx func47 (by kernel_rfl)) (tc (tx func48 (by kernel_rfl)) (tc (tx func49 (by kernel_rfl)) (tc (tx func52 (by kernel_rfl)) (tc (tx func53 (by kernel_rfl)) (tc (tx func54 (by kernel_rfl)) (tc (tx func55 (by kernel_rfl)) (tc (tx func56 (by kernel_rfl)) (tc (tx func57 (by kernel_rfl)) (tc (tx func58 (by kernel_rfl)) (tc (tx func59 (by kernel_rfl)) (tc (tx func60 (by kernel_rfl)) (tc (tx func61 (by kernel_rfl)) (tc (tx func64 (by kernel_rfl)) (tc (tx func65 (by kernel_rfl)) (tc (tx func69 (by kernel_rfl)) (tc (tx func70 (by kernel_rfl)) (tc (tx func71 (by kernel_rfl)) (tc (tx func72 (by kernel_rfl)) (tc (tx func73 (by kernel_rfl)) (tc (tx func74 (by kernel_rfl)) (tc (tx func75 (by kernel_rfl)) (tc (tx func78 (by kernel_rfl)) (tc (tx func79 (by kernel_rfl)) (tc (tx func82 (by kernel_rfl)) (tc (tx func84 (by kernel_rfl)) (tc (tx func85 (by kernel_rfl)) (tc (tx func86 (by kernel_rfl)) (tc (tx func87 (by kernel_rfl)) (tc (tx func88 (by kernel_rfl)) (tc (tx func89 (by kernel_rfl)) (tc (tx func90 (by kernel_rfl)) (tc (tx func91 (by kernel_rfl)) (tc (tx func92 (by kernel_rfl)) (tc (tx func93 (by kernel_rfl)) (tc (tx func94 (by kernel_rfl)) (tc (tx func95 (by kernel_rfl)) (tc (tx func98 (by kernel_rfl)) (tc (tx func99 (by kernel_rfl)) (tc (tx func100 (by kernel_rfl)) (tc (tx func101 (by kernel_rfl)) (tc (tx func102 (by kernel_rfl)) (tc (tx func103 (by kernel_rfl)) (tc (tx func104 (by kernel_rfl)) (tc (tx func105 (by kernel_rfl)) (tc (tx func106 (by kernel_rfl)) (tc (tx func107 (by kernel_rfl)) (tc (tx func109 (by kernel_rfl)) (tc (tx func110 (by kernel_rfl)) (tc (tx func111 (by kernel_rfl)) (tc (tx func112 (by kernel_rfl)) (tc (tx func113 (by kernel_rfl)) (tc (tx func114 (by kernel_rfl)) (tc (tx func115 (by kernel_rfl)) (tc (tx func116 (by kernel_rfl)) (tc (tx func117 (by kernel_rfl)) (tc (tx func118 (by kernel_rfl)) (tc (tx func119 (by kernel_rfl)) (tc (tx func120 (by kernel_rfl)) (tc (tx func121 (by kernel_rfl)) (tc (tx func122 (by kernel_rfl)) (tc (tx func123 (by kernel_rfl)) (tc (tx func126 (by kernel_rfl)) (tc (tx func127 (by kernel_rfl)) (tc (tx func128 (by kernel_rfl)) (tc (tx func129 (by kernel_rfl)) (tc (tx func130 (by kernel_rfl)) (tc (tx func131 (by kernel_rfl)) (tc (tx func132 (by kernel_rfl)) (tc (tx func133 (by kernel_rfl)) (tc (tx func134 (by kernel_rfl)) (tc (tx func135 (by kernel_rfl)) (tc (tx func136 (by kernel_rfl)) (tc (tx func137 (by kernel_rfl)) (tc (tx func139 (by kernel_rfl)) (tc (tx func140 (by kernel_rfl)) (tc (tx func141 (by kernel_rfl)) (tc (tx func142 (by kernel_rfl)) (tc (tx func143 (by kernel_rfl)) (tc (tx func144 (by kernel_rfl)) (tc (tx func145 (by kernel_rfl)) (tc (tx func146 (by kernel_rfl)) (tc (tx func148 (by kernel_rfl)) (tc (tx func149 (by kernel_rfl)) (tc (tx func150 (by kernel_rfl)) (tc (tx func151 (by kernel_rfl)) (tc (tx func152 (by kernel_rfl)) (tc (tx func153 (by kernel_rfl)) (tc (tx func154 (by kernel_rfl)) (tc (tx func155 (by kernel_rfl)) (tc (tx func156 (by kernel_rfl)) (tc (tx func157 (by kernel_rfl)) (tc (tx func158 (by kernel_rfl)) (tc (tx func159 (by kernel_rfl)) (tc (tx func160 (by kernel_rfl)) (tc (tx func161 (by kernel_rfl)) (tc (tx func162 (by kernel_rfl)) (tc (tx func163 (by kernel_rfl)) (tc (tx func164 (by kernel_rfl)) (tc (tx func165 (by kernel_rfl)) (tc (tx func166 (by kernel_rfl)) (tc (tx func167 (by kernel_rfl)) (tc (tx func168 (by kernel_rfl)) (tc (tx func169 (by kernel_rfl)) (tc (tx func170 (by kernel_rfl)) (tc (tx func171 (by kernel_rfl)) (tc (tx func172 (by kernel_rfl)) (tc (tx func173 (by kernel_rfl)) (tc (tx func177 (by kernel_rfl)) (tc (tx func178 (by kernel_rfl)) (tc (tx func179 (by kernel_rfl)) (tc (tx func180 (by kernel_rfl)) (tc (tx func181 (by kernel_rfl)) (tc (tx func182 (by kernel_rfl)) (tc (tx func183 (by kernel_rfl)) (tc (tx func184 (by kernel_rfl)) (tc (tx func185 (by kernel_rfl)) (tc (tx func186 (by kernel_rfl)) (tc (tx func187 (by kernel_rfl)) (tc (tx func188 (by kernel_rfl)) (tc (tx func189 (by kernel_rfl)) (tc (tx func190 (by kernel_rfl)) (tc (tx func191 (by kernel_rfl)) (tc (tx func192 (by kernel_rfl)) (tc (tx func194 (by kernel_rfl)) (tc (tx func195 (by kernel_rfl)) (tc (tx func196 (by kernel_rfl)) (tc (tx func197 (by kernel_rfl)) (tc (tx func198 (by kernel_rfl)) (tc (tx func199 (by kernel_rfl)) (tc (tx func202 (by kernel_rfl)) (tc (tx func203 (by kernel_rfl)) (tc (tx func204 (by kernel_rfl)) (tc (tx func205 (by kernel_rfl)) (tc (tx func206 (by kernel_rfl)) (tc (tx func207 (by kernel_rfl)) (tc (tx func208 (by kernel_rfl)) (tc (tx func210 (by kernel_rfl)) (tc (tx func211 (by kernel_rfl)) (tc (tx func212 (by kernel_rfl)) (tc (tx func213 (by kernel_rfl)) (tc (tx func214 (by kernel_rfl)) (tc (tx func215 (by kernel_rfl)) (tc (tx func218 (by kernel_rfl)) (tc (tx func219 (by kernel_rfl)) (tc (tx func220 (by kernel_rfl)) (tc (tx func221 (by kernel_rfl)) (tc (tx func222 (by kernel_rfl)) (tc (tx func223 (by kernel_rfl)) (tc (tx func224 (by kernel_rfl)) (tc (tx func225 (by kernel_rfl)) (tc (tx func226 (by kernel_rfl)) (tc (tx func227 (by kernel_rfl)) (tn)))))))))))))))))))))))))))))))))))))))))))))))))))))))))))))))))))))))))))))))))))))))))))))))))))))))))))))))))))))))))))))))))))))))))))))))))))))))))))))))))))))))))))))))
end Go.Ab
