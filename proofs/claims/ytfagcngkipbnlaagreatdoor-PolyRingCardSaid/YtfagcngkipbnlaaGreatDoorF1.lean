/-
  A law of polynomials holds at every input that the statement speaks of, under the conditions that its card names. Part F1.
-/
import Derived.Test.YtfagcngkipbnlaaGreatDoorProg
import Derived.Shelf.Spec.TrailingZeros
import Derived.Test.YtfagcngkipbnlaaGreatDoorRows
import Derived.Deep.Strs
import Derived.ProofKit
import Derived.LaidMore
import Derived.OpenShut
import Derived.Carry
import Derived.Shelf.Strings.BuilderK
import Derived.WalkKit
import Derived.BigCall
import Derived.Lib.Overlaps
import Derived.Laws.Externs
import Derived.Shelf.Slices.Clone
import Derived.KernelRfl
import Derived.Test.YtfagcngkipbnlaaGreatDoorE1
open Nat renaming reduceEqDiff → aee, reduceAdd → aef, reduceMul → aeg, reduceLeDiff → aeh, reduceBEq → aei, reduceLT → aej
namespace Go.Ab
open Go Go.IntWalk
set_option maxRecDepth 4000
set_option maxHeartbeats 1000000
theorem xu {d n i:Nat} (h:i≤n):gF d n (some (I i))=some i:=by
 simp only [gF]
 rw [if_pos ⟨by omega,by omega⟩]
 rfl
theorem Sf {h:aa} {j k n:Nat} {rows:List (List AV)} (hj:aG j=false) (hh:h j=.ar k rows) (hn:n=rows.length) (hc:aA [1000] (h 1000)=true):n6 [[]] 1 h [.rsl j none k 0 n]=some (.osl k rows,[h 1000]):=by
 subst hn
 have hp:bS 1=[1000]:=rfl
 unfold n6
 rw [if_pos]
 ·simp [lP,ll,fX,hj,hh,qq,kP,aM,nrmV,nrmL,hp]
 ·simp [hp,hc,fm,bk,cP,hj]
theorem Sg {rows:List (List AV)} {n i:Nat} (hn:n=rows.length) (hi:i < n) (h2:n≤1000000):R F.slices_Delete_api_Term_api_Term_ [.rsl 1000 none 4 0 n,I i,I ((i+1:Nat):Int)] [.ar 4 rows]=some (.osl 4 (rows.take i++rows.drop (i+1)),[.dead]):=by
 refine sv mB mA (fg false) rfl ?_
 subst hn
 have b1:gF rows.length rows.length (some (I rows.length))=some rows.length:=xu (Nat.le_refl _)
 have b2:∀ d,gF d rows.length (some (I ((i+1:Nat):Int)))=some (i+1):=fun d=>xu (by omega)
 have b3:∀ d,gF d (i+1) (some (I i))=some i:=fun d=>xu (by omega)
 have b4:∀ d,gF d rows.length (some (I i))=some i:=fun d=>xu (by omega)
 have e1:((i:Int)=((i+1:Nat):Int))=False:=ff (by omega)
 have s1:dJ 4 (.rsl 1000 none 4 0 rows.length) (some (I i)) (some (I ((i+1:Nat):Int))) (some (I rows.length))=some .any:=by
  simp only [dJ,if_true,hG,b1,b2,b3,Option.bind_some,Option.map_some,Option.isNone_some,if_neg Bool.false_ne_true]
 have s2:dJ 4 (.rsl 1000 none 4 0 rows.length) none (some (I i)) none=some (.rsl 1000 none 4 0 i):=by
  simp only [dJ,if_true,hG,b4,zS,Option.bind_some,Option.map_some,Option.isNone_none,Nat.sub_zero,Nat.add_zero]
 have s3:dJ 4 (.rsl 1000 none 4 0 rows.length) (some (I ((i+1:Nat):Int))) none none=some (.rsl 1000 none 4 (i+1) (rows.length - (i+1))):=by
  simp only [dJ,if_true,hG,b2,zS,Option.bind_some,Option.map_some,Option.isNone_none,Nat.zero_add]
 have t1:(rows.drop (i+1)).take (rows.length - (i+1))=rows.drop (i+1):=List.take_of_length_le (by rw [List.length_drop]; omega)
 have t2:(i+1+(rows.length - (i+1))≤rows.length)=True:=eq_true (by omega)
 obtain ⟨m,hm⟩:∃ m,i+(rows.length - (i+1))=m:=⟨_,rfl⟩
 obtain ⟨D,hD⟩:∃ D,rows.take i++rows.drop (i+1)=D:=⟨_,rfl⟩
 have d1:D.length=m:=by
  rw [← hD,List.length_append,List.length_take,List.length_drop]
  omega
 obtain ⟨A,hA⟩:∃ A,D++rows.drop m=A:=⟨_,rfl⟩
 have a1:A.length=rows.length:=by
  rw [← hA,List.length_append,List.length_drop,d1]
  omega
 have a2:A.take m=D:=by rw [← hA,List.take_append_of_le_length (by omega),List.take_of_length_le (by omega)]
 have e5:∀ h,yL h 26 4 64 1000 4 0 i (rows.drop (i+1)) 4 rows=some (.rsl 1000 none 4 0 m,upd h 1000 (.ar 4 A),[]):=fun h=>by
  unfold yL
  rw [if_pos ⟨rfl,rfl,by rw [List.length_drop]; omega⟩,List.length_drop,Nat.zero_add,hm,hD,hA]
 have e7:(i=rows.length)=False:=eq_false (by omega)
 have b5:hG rows.length (some (I m)) (some (I rows.length)) none=some (m,rows.length):=by
  simp only [hG,b1,Option.bind_some]
  rw [xu (by omega)]
  rfl
 have c1:(m+(rows.length - m)≤rows.length)=True:=eq_true (by omega)
 have c2:∀ z,(D++List.replicate (rows.length - m) z++A.drop (m+(rows.length - m))).take m=D:=fun z=>by
  rw [List.append_assoc,List.take_append_of_le_length (by omega),List.take_of_length_le (by omega)]
 rw [hD]
 simp only [bZ,fO,go_sem,↓reduceIte,aee,aeh,aej,s1,s2,s3,e1,t1,t2,e5,e7,false_and,and_false,a1,a2,b5,c1,c2,Nat.sub_zero,Nat.zero_add,Nat.zero_le,Nat.reduceSub,decide_false]
 exact Sf (by rfl) (by rfl) d1.symm (by rfl)
theorem Oj {l:List Rt} {h:aa} {d a n i:Nat} (ha:h a=.ar 4 (ax l)) (_hda:2000+8*d ≠ a) (hd:h (2000+8*d)=.dead) (hn:n=l.length) (hi:i < n) (h2:n≤1000000) :
  ai R (ab false) h d [.rsl a none 4 0 n,.v (.int .i64 i),.v (.int .i64 ((i+1:Nat):Int))] (.fn F.slices_Delete_api_Term_api_Term_ [] []) =
   some (.rsl (2000+8*d) none 4 0 (l.length - 1),upd (upd h a .dead) (2000+8*d) (.ar 4 (ax (l.take i++l.drop (i+1)))),[(a,true),(a,false)]):=by
 have hm:=mC false
 have hs:=l7 false
 have hk:=fg false
 have hf:=Sg (rows:=ax l) (n:=n) (i:=i) (by rw [fD,hn]) hi h2
 have e1:(ax l).take i++(ax l).drop (i+1)=ax (l.take i++l.drop (i+1)):=by simp [ax,List.map_take,List.map_drop]
 rw [e1] at hf
 have hb':jG (ab false) [.rsl a none 4 0 n,.v (.int .i64 i),.v (.int .i64 ((i+1:Nat):Int))] (.fn F.slices_Delete_api_Term_api_Term_ [] [])=false:=by
  simp [jG,hm]
 have h1:ah h [2,0,0] [.rsl a none 4 0 n,.v (.int .i64 i),.v (.int .i64 ((i+1:Nat):Int))]=some ([.rsl a none 4 0 n,.v (.int .i64 i),.v (.int .i64 ((i+1:Nat):Int))],h,[]):=by
  simp [ah,bM,mE,du,ak,ha,M4]
 have hr:bJ h 40 [a] 0=[a]:=by
  simp [bJ,ha,uk,bo]
 have hp:bo [] ([AV.rsl a none 4 0 n,.v (.int .i64 i),.v (.int .i64 ((i+1:Nat):Int))].flatMap bk)=[a]:=by
  simp [bk,cP,bo]
 have h3:aV [a] a=1000:=by simp [aV]
 have hnr:cf (.osl 4 (ax (l.take i++l.drop (i+1))))=1:=rfl
 have hlen:(ax (l.take i++l.drop (i+1))).length=l.length - 1:=by
  rw [fD,List.length_append,List.length_take,List.length_drop]
  omega
 unfold ai
 rw [if_neg (by rw [hb']; exact Bool.false_ne_true)]
 simp only [dq,hm,List.nil_append,List.append_nil,h1,Option.bind_some,hp,hr,hs]
 simp only [Int.natCast_add,Int.natCast_one] at hf
 simp [jF,aM,aJ,aO,ha,aA,cD,cQ,fV,h3,cC,hf,dZ,hnr,cx,hd,cU,bf,mP,uq,kN,cP,ey,cZ,rh,cz,mat,bU,dC,hk,uo,hm,hlen]
 exact ⟨by unfold bN; rw [if_neg (by omega)],by rw [tl]⟩
theorem Qv (h:aa) (i:Nat) (xs:List AV) (a b:AV) (r:List (List AV)):xF h 3 1000 1 4 i 1 xs [] (.bx [a,.osl 4 r,b])=(wk 3 4 i 1 xs 4 r).map fun q=>(.und,upd h 1000 (.bx [a,.osl 4 q,b]),[]):=rfl
theorem xv (a b:AV) (k:Nat) (r:List (List AV)):gx 1 (.bx [a,.osl k r,b])=some (k,r):=rfl
theorem CB (h:aa) (n:Nat) (g:Bool) (i j:Nat) (r:List (List AV)):jE h n g 4 i j (some (4,r))=(r[i]?).bind fun row=>(ik n g row j).map fun a=>(a,h,[]):=rfl
theorem Ol {v v':Int} {l:List Rt} {t q:Rt} (c:Cl v l) (vt:VT v t) (hl:l.length≤1000000) (hq:l[bd l t.exps]?=some q) (ho:bt q.exps t.exps=0) :
  R F.poly_collector_add [.ref 1000 none 0 0 0,.sl 1 (aY t.exps),aF t.c] [t3 v' (.osl 4 (ax l)) 0]=some (.tup [],[if (iN q.c t.c).2=0 then (if (iN q.c t.c).1.m.length=0 then t3 v' (.osl 4 (ax (l.take (bd l t.exps)++l.drop (bd l t.exps+1)))) 0 else t3 v' (.osl 4 (ax (l.set (bd l t.exps) ⟨q.exps,(iN q.c t.c).1⟩))) 0) else t3 v' (.osl 4 (ax l)) 9]):=by
 refine sv gh gg (dt false) rfl ?_
 have hbs:=KB c vt.sm vt.len hl
 have hf:xt l t.exps=true:=by
  unfold xt
  rw [hq]
  exact decide_eq_true ho
 rw [hf] at hbs
 have vq:=c.t q (List.mem_of_getElem? hq)
 have hadd:=Qr vq.c vt.c
 have hlt:=(List.getElem?_eq_some_iff.1 hq).1
 have hrow:(ax l)[bd l t.exps]?=some (bv q):=by simp [ax,hq]
 have hi0:(0≤(bd l t.exps:Int)∧(bd l t.exps:Int) < (l.length:Int))=True:=eq_true ⟨by omega,by omega⟩
 have hw:IntKind.i64.wrap ((bd l t.exps:Int)+1)=((bd l t.exps+1:Nat):Int):=wi (by omega) (by omega)
 generalize iN q.c t.c=r at hadd ⊢
 obtain ⟨s,e⟩:=r
 simp only [rV,aF,aW] at hadd
 simp only [bv] at hrow
 simp only [ck,dW,t3,aF,aW,go_sem,↓reduceIte,aee,aeg,aef]
 rw [I6 rfl rfl (fD l).symm ⟨_,rfl⟩]
 by_cases he:e=0
 ·subst he
  by_cases hs:s.m.length=0
  ·have e1:((s.m.length:Int)=0)=True:=tt (by omega)
   have hlen:(l.take (bd l t.exps)++l.drop (bd l t.exps+1)).length=l.length - 1:=by
    rw [List.length_append,List.length_take,List.length_drop]
    omega
   simp only [go_sem,↓reduceIte,aee,aeg,aef,aeh,aej,aei,hbs,xY,hi0,hrow,hadd,hs,Int.toNat_natCast,Int.natCast_zero,Nat.zero_add,xv,CB,hw]
   rw [Oj rfl (by decide) rfl rfl hlt hl]
   generalize l.take (bd l t.exps)++l.drop (bd l t.exps+1)=L at hlen ⊢
   simp only [go_sem,↓reduceIte,aee,aeg,aef,aeh,aei]
   rw [oP rfl (by rw [fD,hlen]) rfl (by decide) (Nat.lt_of_lt_of_le (by decide) (Nat.le_refl 3))]
   simp only [go_sem,↓reduceIte]
   exact tV (.inl rfl) rfl
  ·have e1:((s.m.length:Int)=0)=False:=ff (by omega)
   have hset:(ax l).set (bd l t.exps) [.sl 1 (aY q.exps),B s.neg,lm s.m,I s.e]=ax (l.set (bd l t.exps) ⟨q.exps,s⟩):=by
    unfold ax
    rw [List.map_set]
    rfl
   simp only [go_sem,↓reduceIte,aee,aeg,aef,aeh,aej,aei,hbs,xY,hi0,hrow,hadd,hs,e1,Int.toNat_natCast,Nat.zero_add,xv,CB,hw,Qv,hset]
   exact tV (.inl rfl) rfl
 ·have e1:(e=0)=False:=ff he
  simp only [go_sem,↓reduceIte,aee,aeg,aef,aeh,aej,aei,hbs,xY,hi0,hrow,hadd,e1,Int.toNat_natCast,Nat.zero_add,xv,CB,hw]
  exact tV (.inl rfl) rfl
theorem I7 {v v':Int} {l:List Rt} {t:Rt} {cell:AV} (c:Cl v l) (vt:VT v t) (hl:l.length≤1000000) (hc:mp cell l) :
  ∃ cell' l' e',R F.poly_collector_add [.ref 1000 none 0 0 0,.sl 1 (aY t.exps),aF t.c] [t3 v' cell 0]=some (.tup [],[t3 v' cell' e'])∧mp cell' l'∧((e'=0∧nw l t=some l')∨(e'=9∧nw l t=none∧l'=l)):=by
 rcases hc with rfl | ⟨rfl,rfl⟩
 ·rw [I4]
  cases hq:l[bd l t.exps]? with
  | none =>
   exact ⟨_,_,_,Hp c vt hl (by unfold xt; rw [hq]),.inl rfl,.inl ⟨rfl,rfl⟩⟩
  | some q =>
   by_cases ho:bt q.exps t.exps=0
   ·have h1:=Ol (v':=v') c vt hl hq ho
    simp only [if_pos ho]
    by_cases he:(iN q.c t.c).2=0
    ·rw [if_pos he] at h1 ⊢
     by_cases hs:(iN q.c t.c).1.m.length=0
     ·rw [if_pos hs] at h1 ⊢
      exact ⟨_,_,_,h1,.inl rfl,.inl ⟨rfl,rfl⟩⟩
     ·rw [if_neg hs] at h1 ⊢
      exact ⟨_,_,_,h1,.inl rfl,.inl ⟨rfl,rfl⟩⟩
    ·rw [if_neg he] at h1 ⊢
     exact ⟨_,_,_,h1,.inl rfl,.inr ⟨rfl,rfl,rfl⟩⟩
   ·simp only [if_neg ho]
    exact ⟨_,_,_,Hp c vt hl (by unfold xt; rw [hq]; exact decide_eq_false ho),.inl rfl,.inl ⟨rfl,rfl⟩⟩
 ·exact ⟨_,_,_,Oi vt,.inl rfl,.inl ⟨rfl,rfl⟩⟩
end Go.Ab
namespace Go.Ab
open Go Go.IntWalk
def bj:List Rt→(List Int→Int)→Int
 | [],_=>0
 | t::l,f=>zI t.c*f t.exps+bj l f
theorem xZ:∀ (l r:List Rt) (f:List Int→Int),bj (l++r) f=bj l f+bj r f
 | [],r,f=>by simp [bj]
 | t::l,r,f=>by
  show zI t.c*f t.exps+bj (l++r) f=zI t.c*f t.exps+bj l f+bj r f
  rw [xZ l r f,Int.add_assoc]
theorem CC:∀ (l:List Rt) (f g:List Int→Int),bj l (fun x=>f x+g x)=bj l f+bj l g
 | [],f,g=>rfl
 | t::l,f,g=>by
  show zI t.c*(f t.exps+g t.exps)+_=(zI t.c*f t.exps+_)+(zI t.c*g t.exps+_)
  rw [CC l f g,Int.mul_add]
  omega
theorem CD (k:Int):∀ (l:List Rt) (f:List Int→Int),bj l (fun x=>k*f x)=k*bj l f
 | [],f=>by simp [bj]
 | t::l,f=>by
  show zI t.c*(k*f t.exps)+_=k*(zI t.c*f t.exps+_)
  rw [CD k l f,Int.mul_add,Int.mul_left_comm]
theorem Hq {v:Int} {f:List Int→Int}:∀ {l l':List Rt} {t:Rt},Cl v l→VT v t→nw l t=some l'→bj l' f=bj l f+zI t.c*f t.exps
 | [],l',t,c,vt,h=>by
  cases h
  show zI t.c*f t.exps+0=0+_
  omega
 | q::l,l',t,c,vt,h=>by
  obtain ⟨c1,c2,c3⟩:=c.cons
  unfold nw at h
  split at h
  ·rw [Option.map_eq_some_iff] at h
   obtain ⟨l2,h2,rfl⟩:=h
   have ih:=Hq c3 vt h2 (f:=f)
   show _+bj l2 f=(_+bj l f)+_
   rw [ih,Int.add_assoc]
  ·split at h
   ·rename_i h1 h2
    have he:=I2 (c1.l2 vt) h2
    split at h
    ·rename_i h3
     cases h
     have hz:=Qp h3
     split
     ·rename_i h4
      rw [qX h4] at hz
      show bj l f=(zI q.c*f q.exps+bj l f)+_
      rw [he,Int.add_right_comm,← Int.add_mul,← hz,Int.zero_mul,Int.zero_add]
     ·show zI (iN q.c t.c).1*f q.exps+bj l f=(zI q.c*f q.exps+bj l f)+_
      rw [hz,he,Int.add_mul,Int.add_right_comm]
    ·cases h
   ·cases h
    show zI t.c*f t.exps+bj (q::l) f=_
    exact Int.add_comm _ _
theorem uZ {v:Int} {f:List Int→Int}:∀ {ts l l':List Rt},Cl v l→(∀ t ∈ ts,VT v t)→gV l ts=some l'→bj l' f=bj l f+bj ts f
 | [],l,l',c,_,h=>by
  cases h
  exact (Int.add_zero _).symm
 | t::ts,l,l',c,vt,h=>by
  unfold gV at h
  rw [Option.bind_eq_some_iff] at h
  obtain ⟨l2,h2,h3⟩:=h
  rw [uZ (xX c (vt t (by simp)) h2).1 (fun x hx=>vt x (by simp [hx])) h3,Hq c (vt t (by simp)) h2]
  show _=_+(_+_)
  omega
def jB (x y:List Int):Int:=if y=x then 1 else 0
theorem nC {x:List Int}:∀ {l:List Rt},(∀ t ∈ l,t.exps ≠ x)→bj l (jB x)=0
 | [],_=>rfl
 | t::l,h=>by
  show zI t.c*jB x t.exps+bj l (jB x)=0
  rw [nC fun y hy=>h y (by simp [hy])]
  unfold jB
  rw [if_neg (h t (by simp))]
  omega
theorem VT.zn {v:Int} {t:Rt} (h:VT v t):zI t.c ≠ 0:=by
 rcases Aa t.c h.vc with ⟨_,_,h2⟩ | ⟨_,h1,h2,_⟩ | ⟨_,h1,h2,_⟩
 ·exact absurd h2 h.nz
 ·omega
 ·omega
theorem jC {a b:List Int} (h:bt a b < 0):b ≠ a:=by
 rintro rfl
 rw [LZ] at h
 omega
theorem I8 {v:Int}:∀ {l r:List Rt},Cl v l→Cl v r→(∀ f,bj l f=bj r f)→l=r
 | [],[],_,_,_=>rfl
 | [],t::r,_,c,h=>by
  obtain ⟨c1,c2,c3⟩:=c.cons
  have h1:=h (jB t.exps)
  have h2:=nC (x:=t.exps) (l:=r) fun y hy=>jC (c2 y hy)
  have h3:jB t.exps t.exps=1:=if_pos rfl
  have h4:(0:Int)=zI t.c*jB t.exps t.exps+bj r (jB t.exps):=h1
  rw [h2,h3] at h4
  have:=c1.zn
  omega
 | t::r,[],c,_,h=>by
  obtain ⟨c1,c2,c3⟩:=c.cons
  have h1:=h (jB t.exps)
  have h2:=nC (x:=t.exps) (l:=r) fun y hy=>jC (c2 y hy)
  have h3:jB t.exps t.exps=1:=if_pos rfl
  have h4:zI t.c*jB t.exps t.exps+bj r (jB t.exps)=0:=h1
  rw [h2,h3] at h4
  have:=c1.zn
  omega
 | s::l,t::r,c,d,h=>by
  obtain ⟨c1,c2,c3⟩:=c.cons
  obtain ⟨d1,d2,d3⟩:=d.cons
  have hs:=h (jB s.exps)
  have ht:=h (jB t.exps)
  have s1:=nC (x:=s.exps) (l:=l) fun y hy=>jC (c2 y hy)
  have t1:=nC (x:=t.exps) (l:=r) fun y hy=>jC (d2 y hy)
  have e1:jB s.exps s.exps=1:=if_pos rfl
  have e2:jB t.exps t.exps=1:=if_pos rfl
  have hs':zI s.c*jB s.exps s.exps+bj l (jB s.exps)=zI t.c*jB s.exps t.exps+bj r (jB s.exps):=hs
  have ht':zI s.c*jB t.exps s.exps+bj l (jB t.exps)=zI t.c*jB t.exps t.exps+bj r (jB t.exps):=ht
  rcases Int.lt_trichotomy (bt s.exps t.exps) 0 with ho | ho | ho
  ·have h3:=nC (x:=s.exps) (l:=r) fun y hy=>jC ((tU (c1.l2 d1) (d1.l2 (d3.t y hy))).1 (by omega) (d2 y hy))
   have h4:jB s.exps t.exps=0:=if_neg (jC ho)
   rw [s1,e1,h3,h4] at hs'
   have:=c1.zn
   omega
  ·have he:=I2 (c1.l2 d1) ho
   rw [t1,e2] at ht'
   rw [he] at s1 hs'
   rw [s1,e2,t1] at hs'
   have hc:s.c=t.c:=LY c1.c d1.c c1.vc d1.vc (by omega)
   have hst:s=t:=by
    cases s
    cases t
    cases he
    cases hc
    rfl
   subst hst
   rw [I8 c3 d3 fun f=>by
    have h5:zI s.c*f s.exps+bj l f=zI s.c*f s.exps+bj r f:=h f
    omega]
  ·have ho':bt t.exps s.exps < 0:=by
    rw [su (c1.l2 d1)]
    omega
   have h3:=nC (x:=t.exps) (l:=l) fun y hy=>jC ((tU (d1.l2 c1) (c1.l2 (c3.t y hy))).1 (by omega) (c2 y hy))
   have h4:jB t.exps s.exps=0:=if_neg (jC ho')
   rw [t1,e2,h3,h4] at ht'
   have:=d1.zn
   omega
end Go.Ab
namespace Go.Ab
open Go Go.IntWalk
def p0:Rp:=⟨0,[]⟩
def pV (r:Rp × Int):AV:=.tup [aZ r.1,I r.2]
def ki (v:Int):Option (List Rt)→Rp × Int
 | none=>(p0,9)
 | some l=>if 500 < l.length then (p0,5) else (⟨v,l⟩,0)
def m6 (a b:Rp):Bool:=vp a && (vp b && decide (a.vars=b.vars))
def ch (a b:Rp):Rp × Int:=if m6 a b=true then ki a.vars (gV [] (a.terms++b.terms)) else (p0,1)
def iO (t:Rt):Rt:=⟨t.exps,⟨!t.c.neg,t.c.m,t.c.e⟩⟩
def lJ (a b:Rp):Rp × Int:=if m6 a b=true then ki a.vars (gV [] (a.terms++b.terms.map iO)) else (p0,1)
def bQ (a b:List Int):List Int:=List.zipWith (·+·) a b
def x3 (s t:Rt):Option Rt:=if (nv s.c t.c).2=0 then some ⟨bQ s.exps t.exps,(nv s.c t.c).1⟩ else none
def gW (s:Rt):List Rt→Option (List Rt)
 | []=>some []
 | t::ts=>(x3 s t).bind fun x=>(gW s ts).map (x::·)
def fU:List Rt→List Rt→Option (List Rt)
 | [],_=>some []
 | s::ss,ts=>(gW s ts).bind fun r=>(fU ss ts).map (r++·)
def bX (a b:Rp):Rp × Int:=if m6 a b=true then (if a.terms.length ≠ 0∧b.terms.length ≠ 0∧32 < iM a+iM b then (p0,5) else ki a.vars ((fU a.terms b.terms).bind (gV []))) else (p0,1)
theorem Dq:∀ a b:List Int,bQ a b=bQ b a
 | [],[]=>rfl
 | [],_::_=>rfl
 | _::_,[]=>rfl
 | x::a,y::b=>by
  show (x+y)::bQ a b=(y+x)::bQ b a
  rw [Int.add_comm,Dq a b]
theorem BA:∀ a b c:List Int,bQ (bQ a b) c=bQ a (bQ b c)
 | [],_,_=>rfl
 | _::_,[],_=>rfl
 | _::_,_::_,[]=>rfl
 | x::a,y::b,z::c=>by
  show (x+y+z)::bQ (bQ a b) c=(x+(y+z))::bQ a (bQ b c)
  rw [Int.add_assoc,BA a b c]
theorem Hr:∃ K:Int,K ≠ 0∧∀ a b:Rd,(nv a b).2=0→zI (nv a b).1*K=zI a*zI b:=by
 refine ⟨2 ^ 16384,?_,fun a b h=>?_⟩
 ·generalize 16384=n
  exact Int.pow_ne_zero (by decide)
 ·unfold nv at h ⊢
  split at h
  ·rename_i hc
   rw [if_pos hc]
   exact IY (j:=16384) h
  ·simp at h
noncomputable def KK:Int:=Classical.choose Hr
theorem U7:KK ≠ 0:=(Classical.choose_spec Hr).1
theorem I9 {a b:Rd} (h:(nv a b).2=0):zI (nv a b).1*KK=zI a*zI b:=(Classical.choose_spec Hr).2 a b h
theorem BB {s:Rt} {f:List Int→Int}:∀ {ts r:List Rt},gW s ts=some r→bj r f*KK=zI s.c*bj ts fun v=>f (bQ s.exps v)
 | [],r,h=>by
  cases h
  show 0*KK=zI s.c*0
  rw [Int.zero_mul,Int.mul_zero]
 | t::ts,r,h=>by
  unfold gW at h
  rw [Option.bind_eq_some_iff] at h
  obtain ⟨x,h1,h2⟩:=h
  rw [Option.map_eq_some_iff] at h2
  obtain ⟨r2,h3,rfl⟩:=h2
  unfold x3 at h1
  split at h1
  ·rename_i h4
   cases h1
   show (zI (nv s.c t.c).1*f (bQ s.exps t.exps)+bj r2 f)*KK=zI s.c*(zI t.c*f (bQ s.exps t.exps)+bj ts _)
   rw [Int.add_mul,BB h3,Int.mul_right_comm,I9 h4,Int.mul_add,Int.mul_assoc]
  ·cases h1
theorem BC {f:List Int→Int}:∀ {ss ts r:List Rt},fU ss ts=some r→bj r f*KK=bj ss fun u=>bj ts fun v=>f (bQ u v)
 | [],ts,r,h=>by
  cases h
  show 0*KK=0
  rw [Int.zero_mul]
 | s::ss,ts,r,h=>by
  unfold fU at h
  rw [Option.bind_eq_some_iff] at h
  obtain ⟨x,h1,h2⟩:=h
  rw [Option.map_eq_some_iff] at h2
  obtain ⟨r2,h3,rfl⟩:=h2
  rw [xZ,Int.add_mul,BB h1,BC h3]
  rfl
theorem Hs:∀ {a b:List Int},a.length=b.length→bi (bQ a b)=bi a+bi b
 | [],[],_=>rfl
 | x::a,y::b,h=>by
  show x+y+bi (bQ a b)=x+bi a+(y+bi b)
  rw [Hs (by simpa using h)]
  omega
 | [],_::_,h=>by simp at h
 | _::_,[],h=>by simp at h
theorem CE:∀ {l:List Int},(∀ x ∈ l,0≤x)→0≤bi l∧∀ x ∈ l,x≤bi l
 | [],_=>⟨Int.le_refl _,fun _ h=>by cases h⟩
 | y::l,h=>by
  obtain ⟨h1,h2⟩:=CE fun x hx=>h x (List.mem_cons_of_mem _ hx)
  have h3:=h y (by simp)
  refine ⟨by unfold bi; omega,fun x hx=>?_⟩
  unfold bi
  rcases List.mem_cons.1 hx with rfl | hx
  ·omega
  ·have:=h2 x hx
   omega
theorem Ht:∀ {a b:List Int},(∀ x ∈ a,0≤x)→(∀ x ∈ b,0≤x)→∀ x ∈ bQ a b,0≤x
 | [],b,_,_,x,hx=>by simp [bQ] at hx
 | _::_,[],_,_,x,hx=>by simp [bQ] at hx
 | y::a,z::b,h1,h2,x,hx=>by
  have hx':x ∈ (y+z)::bQ a b:=hx
  rcases List.mem_cons.1 hx' with rfl | hx'
  ·have:=h1 y (by simp)
   have:=h2 z (by simp)
   omega
  ·exact Ht (fun x hx=>h1 x (by simp [hx])) (fun x hx=>h2 x (by simp [hx])) x hx'
theorem nD {a b:List Int} (h:a.length=b.length):(bQ a b).length=a.length:=by
 unfold bQ
 rw [List.length_zipWith]
 omega
theorem Hu {v:Int} {s t x:Rt} (vs:VT v s) (vt:VT v t) (hd:bi s.exps+bi t.exps≤32) (h:x3 s t=some x):VT v x:=by
 unfold x3 at h
 split at h
 ·rename_i h0
  cases h
  have hl:=vs.l2 vt
  have hp:=Ht (fun x hx=>(vs.b x hx).1) (fun x hx=>(vt.b x hx).1)
  have hs:=Hs hl
  obtain ⟨q1,q2⟩:vd (nv s.c t.c).1=true∧Ok0 (nv s.c t.c).1:=by
   unfold nv
   split
   ·exact IX
   ·exact Hf
  refine ⟨q2,by show ((bQ s.exps t.exps).length:Int)=v; rw [nD hl]; exact vs.len,vs.v8,q1,fun h=>?_,fun e he=>⟨hp e he,?_⟩,by show bi (bQ s.exps t.exps)≤32; omega⟩
  ·have h1:=I9 h0
   rw [qX h,Int.zero_mul] at h1
   rcases Int.mul_eq_zero.1 h1.symm with h2 | h2
   ·exact vs.zn h2
   ·exact vt.zn h2
  ·have:=(CE hp).2 e he
   omega
 ·cases h
theorem xw {v:Int} {s:Rt} (vs:VT v s):∀ {ts r:List Rt},(∀ t ∈ ts,VT v t∧bi s.exps+bi t.exps≤32)→gW s ts=some r→(∀ x ∈ r,VT v x)∧r.length=ts.length
 | [],r,_,h=>by cases h; exact ⟨(fun _ h=>nomatch h),rfl⟩
 | t::ts,r,ht,h=>by
  unfold gW at h
  rw [Option.bind_eq_some_iff] at h
  obtain ⟨x,h1,h2⟩:=h
  rw [Option.map_eq_some_iff] at h2
  obtain ⟨r2,h3,rfl⟩:=h2
  obtain ⟨g1,g2⟩:=xw vs (fun y hy=>ht y (by simp [hy])) h3
  have vx:=Hu vs (ht t (by simp)).1 (ht t (by simp)).2 h1
  refine ⟨fun y hy=>?_,by simp [g2]⟩
  rcases List.mem_cons.1 hy with rfl | hy
  ·exact vx
  ·exact g1 y hy
theorem xx {v:Int}:∀ {ss ts r:List Rt},(∀ s ∈ ss,VT v s)→(∀ t ∈ ts,VT v t)→(∀ s ∈ ss,∀ t ∈ ts,bi s.exps+bi t.exps≤32)→fU ss ts=some r→(∀ x ∈ r,VT v x)∧r.length=ss.length*ts.length
 | [],ts,r,_,_,_,h=>by cases h; exact ⟨(fun _ h=>nomatch h),by simp⟩
 | s::ss,ts,r,vs,vt,hd,h=>by
  unfold fU at h
  rw [Option.bind_eq_some_iff] at h
  obtain ⟨x,h1,h2⟩:=h
  rw [Option.map_eq_some_iff] at h2
  obtain ⟨r2,h3,rfl⟩:=h2
  obtain ⟨g1,g2⟩:=xw (vs s (by simp)) (fun t ht=>⟨vt t ht,hd s (by simp) t ht⟩) h1
  obtain ⟨k1,k2⟩:=xx (fun y hy=>vs y (by simp [hy])) vt (fun y hy t ht=>hd y (by simp [hy]) t ht) h3
  refine ⟨fun y hy=>?_,by rw [List.length_append,g2,k2,List.length_cons,Nat.succ_mul]; omega⟩
  rcases List.mem_append.1 hy with hy | hy
  ·exact g1 y hy
  ·exact k1 y hy
theorem Hv:∀ l:List Rt,bj l (fun _=>0)=0
 | []=>rfl
 | t::l=>by
  show zI t.c*0+bj l _=0
  rw [Hv l,Int.mul_zero,Int.zero_add]
theorem Hw:∀ (a b:List Rt) (f:List Int→List Int→Int),(bj a fun u=>bj b fun v=>f u v)=bj b fun v=>bj a fun u=>f u v
 | [],b,f=>(Hv b).symm
 | s::a,b,f=>by
  show zI s.c*bj b (fun v=>f s.exps v)+bj a _=bj b fun v=>zI s.c*f s.exps v+bj a fun u=>f u v
  rw [Hw a b f,CC,CD]
end Go.Ab
namespace Go.Ab
open Go Go.IntWalk
theorem Qw {a b:List Int} (h:bt a b < 0):bi a≤bi b:=by
 unfold bt at h
 rcases kh (bi a) (bi b) with ⟨g,e⟩ | ⟨g,e⟩ | ⟨g,e⟩ <;> rw [e] at h
 ·omega
 ·omega
 ·rw [if_neg (by decide)] at h
  omega
theorem Ad {v:Int}:∀ {l:List Rt} {t q:Rt},Cl v l→l.getLast?=some q→t ∈ l→bi t.exps≤bi q.exps
 | [],t,q,_,h,_=>by simp at h
 | [x],t,q,_,h,ht=>by
  simp at h ht
  subst h ht
  exact Int.le_refl _
 | x::y::l,t,q,c,h,ht=>by
  obtain ⟨c1,c2,c3⟩:=c.cons
  rw [List.getLast?_cons_cons] at h
  rcases List.mem_cons.1 ht with rfl | ht
  ·have h1:=Qw (c2 y (by simp))
   have h2:=Ad c3 h (t:=y) (by simp)
   omega
  ·exact Ad c3 h ht
theorem Ja {a:Rp} (oa:OkP a) (h:vp a=true):∀ t ∈ a.terms,bi t.exps≤iM a:=by
 intro t ht
 unfold iM
 rw [if_pos h]
 cases hg:a.terms.getLast? with
 | none =>
  rw [List.getLast?_eq_none_iff] at hg
  rw [hg] at ht
  cases ht
 | some q=>exact Ad (dH oa h).1 hg ht
theorem fu {a b:Rp}:m6 a b=true↔vp a=true∧vp b=true∧a.vars=b.vars:=by
 unfold m6
 simp
theorem CF {v:Int} {t:Rt} (h:VT v t):VT v (iO t):=by
 refine ⟨⟨h.c.1,h.c.2⟩,h.len,h.v8,?_,h.nz,h.b,h.d⟩
 have h1:=h.vc
 have h2:=h.nz
 unfold vd at h1 ⊢
 rw [if_neg h2] at h1
 unfold iO
 rw [if_neg h2]
 exact h1
theorem Qx (t:Rt):zI (iO t).c=- zI t.c:=by
 unfold zI iO mg
 cases t.c.neg <;> simp
theorem Jb (f:List Int→Int):∀ l:List Rt,bj (l.map iO) f=- bj l f
 | []=>rfl
 | t::l=>by
  show zI (iO t).c*f t.exps+bj (l.map iO) f=-(zI t.c*f t.exps+bj l f)
  rw [Jb f l,Qx,Int.neg_mul]
  omega
theorem CG {v:Int} {o:Option (List Rt)} (h:(ki v o).2=0):∃ l,o=some l∧l.length≤500∧(ki v o).1=⟨v,l⟩:=by
 unfold ki at h ⊢
 cases o with
 | none=>simp at h
 | some l =>
  simp only [] at h ⊢
  split at h
  ·simp at h
  ·rename_i hl
   exact ⟨l,rfl,by omega,by rw [if_neg hl]⟩
structure Pv (v:Int) (a:Rp):Prop where
 v:a.vars=v
 p:vp a=true
 o:OkP a
theorem Pv.cl {v:Int} {a:Rp} (h:Pv v a):Cl v a.terms:=by
 have:=(dH h.o h.p).1
 rw [h.v] at this
 exact this
theorem pH {v:Int} {a b:Rp} (ha:Pv v a) (hb:Pv v b) (h:∀ f,bj a.terms f=bj b.terms f):a=b:=by
 have h1:=I8 ha.cl hb.cl h
 have h2:=ha.v
 have h3:=hb.v
 cases a
 cases b
 cases h1
 cases h2
 cases h3
 rfl
theorem re {a b:Rp} (oa:OkP a) (ob:OkP b) (h:(ch a b).2=0):Pv a.vars a∧Pv a.vars b∧Pv a.vars (ch a b).1∧∀ f,bj (ch a b).1.terms f=bj a.terms f+bj b.terms f:=by
 unfold ch at h ⊢
 split at h
 ·rename_i hp
  rw [if_pos hp]
  obtain ⟨va,vb,hv⟩:=fu.1 hp
  obtain ⟨l,hl,h5,he⟩:=CG h
  obtain ⟨ca,a0,a8,_⟩:=dH oa va
  obtain ⟨cb,_⟩:=dH ob vb
  rw [← hv] at cb
  have ht:∀ t ∈ a.terms++b.terms,VT a.vars t:=fun t ht=>by
   rcases List.mem_append.1 ht with ht | ht
   ·exact ca.t t ht
   ·exact cb.t t ht
  have hc:=(nR (Cl.nil _) ht hl).1
  rw [he]
  refine ⟨⟨rfl,va,oa⟩,⟨hv.symm,vb,ob⟩,⟨rfl,EX hc a0 a8 h5,xr hc⟩,fun f=>?_⟩
  have:=uZ (f:=f) (Cl.nil _) ht hl
  rw [xZ] at this
  show bj l f=_
  rw [this]
  show 0+_=_
  rw [Int.zero_add]
 ·simp at h
theorem Qy {a b:Rp} (oa:OkP a) (ob:OkP b) (h:(lJ a b).2=0):Pv a.vars a∧Pv a.vars b∧Pv a.vars (lJ a b).1∧∀ f,bj (lJ a b).1.terms f=bj a.terms f - bj b.terms f:=by
 unfold lJ at h ⊢
 split at h
 ·rename_i hp
  rw [if_pos hp]
  obtain ⟨va,vb,hv⟩:=fu.1 hp
  obtain ⟨l,hl,h5,he⟩:=CG h
  obtain ⟨ca,a0,a8,_⟩:=dH oa va
  obtain ⟨cb,_⟩:=dH ob vb
  rw [← hv] at cb
  have ht:∀ t ∈ a.terms++b.terms.map iO,VT a.vars t:=fun t ht=>by
   rcases List.mem_append.1 ht with ht | ht
   ·exact ca.t t ht
   ·obtain ⟨q,hq,rfl⟩:=List.mem_map.1 ht
    exact CF (cb.t q hq)
  have hc:=(nR (Cl.nil _) ht hl).1
  rw [he]
  refine ⟨⟨rfl,va,oa⟩,⟨hv.symm,vb,ob⟩,⟨rfl,EX hc a0 a8 h5,xr hc⟩,fun f=>?_⟩
  have:=uZ (f:=f) (Cl.nil _) ht hl
  rw [xZ,Jb] at this
  show bj l f=_
  rw [this]
  show 0+_=_
  omega
 ·simp at h
theorem Ae {a b:Rp} (oa:OkP a) (ob:OkP b) (va:vp a=true) (vb:vp b=true) (h:¬ (a.terms.length ≠ 0∧b.terms.length ≠ 0∧32 < iM a+iM b)):∀ s ∈ a.terms,∀ t ∈ b.terms,bi s.exps+bi t.exps≤32:=by
 intro s hs t ht
 have h1:=Ja oa va s hs
 have h2:=Ja ob vb t ht
 have h3:a.terms.length ≠ 0:=fun e=>by rw [List.length_eq_zero_iff] at e; rw [e] at hs; cases hs
 have h4:b.terms.length ≠ 0:=fun e=>by rw [List.length_eq_zero_iff] at e; rw [e] at ht; cases ht
 omega
theorem pI {a b:Rp} (oa:OkP a) (ob:OkP b) (h:(bX a b).2=0):Pv a.vars a∧Pv a.vars b∧Pv a.vars (bX a b).1∧∀ f,bj (bX a b).1.terms f*KK=bj a.terms fun u=>bj b.terms fun v=>f (bQ u v):=by
 unfold bX at h ⊢
 split at h
 ·rename_i hp
  rw [if_pos hp]
  obtain ⟨va,vb,hv⟩:=fu.1 hp
  split at h
  ·simp at h
  ·rename_i hd
   rw [if_neg hd]
   have hf:=Ae oa ob va vb hd
   obtain ⟨l,hl,h5,he⟩:=CG h
   rw [Option.bind_eq_some_iff] at hl
   obtain ⟨r,hr,hl⟩:=hl
   obtain ⟨ca,a0,a8,_⟩:=dH oa va
   obtain ⟨cb,_⟩:=dH ob vb
   rw [← hv] at cb
   have ht:=(xx ca.t cb.t hf hr).1
   have hc:=(nR (Cl.nil _) ht hl).1
   rw [he]
   refine ⟨⟨rfl,va,oa⟩,⟨hv.symm,vb,ob⟩,⟨rfl,EX hc a0 a8 h5,xr hc⟩,fun f=>?_⟩
   have:=uZ (f:=f) (Cl.nil _) ht hl
   show bj l f*KK=_
   rw [this,← BC hr]
   show (0+_)*_=_
   rw [Int.zero_add]
 ·simp at h
theorem BD {x y:Int} (h:x*KK=y*KK):x=y:=Int.eq_of_mul_eq_mul_right U7 h
theorem x4:OkP p0:=⟨fun _ h=>by cases h⟩
theorem Af {v:Int} {o:Option (List Rt)} (h:∀ l,o=some l→Cl v l):OkP (ki v o).1:=by
 unfold ki
 cases o with
 | none=>exact x4
 | some l =>
  simp only []
  split
  ·exact x4
  ·exact xr (h l rfl)
theorem pJ {a b:Rp} (oa:OkP a) (ob:OkP b):OkP (ch a b).1:=by
 unfold ch
 split
 ·rename_i hp
  obtain ⟨va,vb,hv⟩:=fu.1 hp
  obtain ⟨ca,_⟩:=dH oa va
  obtain ⟨cb,_⟩:=dH ob vb
  rw [← hv] at cb
  exact Af fun l hl=>(nR (Cl.nil _) (fun t ht=>by
   rcases List.mem_append.1 ht with ht | ht
   ·exact ca.t t ht
   ·exact cb.t t ht) hl).1
 ·exact x4
theorem Om {a b:Rp} (oa:OkP a) (ob:OkP b):OkP (lJ a b).1:=by
 unfold lJ
 split
 ·rename_i hp
  obtain ⟨va,vb,hv⟩:=fu.1 hp
  obtain ⟨ca,_⟩:=dH oa va
  obtain ⟨cb,_⟩:=dH ob vb
  rw [← hv] at cb
  exact Af fun l hl=>(nR (Cl.nil _) (fun t ht=>by
   rcases List.mem_append.1 ht with ht | ht
   ·exact ca.t t ht
   ·obtain ⟨q,hq,rfl⟩:=List.mem_map.1 ht
    exact CF (cb.t q hq)) hl).1
 ·exact x4
theorem nE {a b:Rp} (oa:OkP a) (ob:OkP b):OkP (bX a b).1:=by
 unfold bX
 split
 ·rename_i hp
  obtain ⟨va,vb,hv⟩:=fu.1 hp
  split
  ·exact x4
  ·rename_i hd
   have hf:=Ae oa ob va vb hd
   obtain ⟨ca,_⟩:=dH oa va
   obtain ⟨cb,_⟩:=dH ob vb
   rw [← hv] at cb
   refine Af fun l hl=>?_
   rw [Option.bind_eq_some_iff] at hl
   obtain ⟨r,hr,hl⟩:=hl
   exact (nR (Cl.nil _) (xx ca.t cb.t hf hr).1 hl).1
 ·exact x4
theorem L9 {a b c:Rp} (oa:OkP a) (ob:OkP b) (oc:OkP c) (h1:(ch a b).2=0) (h2:(ch b a).2=0) (h3:(bX a b).2=0) (h4:(bX b a).2=0) (h5:(ch b c).2=0) (h6:(bX a (ch b c).1).2=0)
  (h7:(bX a c).2=0) (h8:(ch (bX a b).1 (bX a c).1).2=0) (h9:(bX (bX a b).1 c).2=0) (h10:(bX b c).2=0) (h11:(bX a (bX b c).1).2=0) (h12:(ch (ch a b).1 c).2=0)
  (h13:(ch a (ch b c).1).2=0) (h14:(lJ (ch a b).1 b).2=0) :
  (ch a b).1=(ch b a).1∧(bX a b).1=(bX b a).1∧(bX a (ch b c).1).1=(ch (bX a b).1 (bX a c).1).1∧(bX (bX a b).1 c).1=(bX a (bX b c).1).1∧(ch (ch a b).1 c).1=(ch a (ch b c).1).1∧(lJ (ch a b).1 b).1=a ∧
   vp (ch a b).1=true∧vp (bX a b).1=true∧vp (bX a (ch b c).1).1=true∧vp (bX (bX a b).1 c).1=true∧vp (ch (ch a b).1 c).1=true∧vp a=true:=by
 obtain ⟨pa,pb,k1,f1⟩:=re oa ob h1
 obtain ⟨_,_,k2,f2⟩:=re ob oa h2
 obtain ⟨_,_,k3,f3⟩:=pI oa ob h3
 obtain ⟨_,_,k4,f4⟩:=pI ob oa h4
 obtain ⟨_,pc,k5,f5⟩:=re ob oc h5
 obtain ⟨_,_,k6,f6⟩:=pI oa k5.o h6
 obtain ⟨_,_,k7,f7⟩:=pI oa oc h7
 obtain ⟨_,_,k8,f8⟩:=re k3.o k7.o h8
 obtain ⟨_,_,k9,f9⟩:=pI k3.o oc h9
 obtain ⟨_,_,k10,f10⟩:=pI ob oc h10
 obtain ⟨_,_,k11,f11⟩:=pI oa k10.o h11
 obtain ⟨_,_,k12,f12⟩:=re k1.o oc h12
 obtain ⟨_,_,k13,f13⟩:=re oa k5.o h13
 obtain ⟨_,_,k14,f14⟩:=Qy k1.o ob h14
 rw [pb.v] at k2 k4
 rw [k3.v] at k8 k9
 rw [k1.v] at k12 k14
 refine ⟨pH k1 k2 fun f=>?_,pH k3 k4 fun f=>BD ?_,pH k6 k8 fun f=>BD ?_,pH k9 k11 fun f=>BD (BD ?_),pH k12 k13 fun f=>?_,pH k14 pa fun f=>?_,k1.p,k3.p,k6.p,k9.p,k12.p,pa.p⟩
 ·rw [f1,f2,Int.add_comm]
 ·rw [f3,f4,Hw]
  congr 1
  funext v
  congr 1
  funext u
  rw [Dq]
 ·rw [f6,f8,Int.add_mul,f3,f7,← CC]
  congr 1
  funext u
  rw [f5]
 ·rw [f9,f11,f3]
  have e:(bj a.terms fun u=>bj (bX b c).1.terms fun v=>f (bQ u v))*KK=bj a.terms fun u=>bj b.terms fun v=>bj c.terms fun w=>f (bQ u (bQ v w)):=by
   rw [Int.mul_comm,← CD]
   congr 1
   funext u
   rw [Int.mul_comm,f10]
  rw [e]
  congr 1
  funext u
  congr 1
  funext v
  congr 1
  funext w
  rw [BA]
 ·rw [f12,f13,f1,f5,Int.add_assoc]
 ·rw [f14,f1]
  omega
end Go.Ab
namespace Go.Ab
open Go Go.IntWalk
set_option maxRecDepth 4000
set_option maxHeartbeats 1000000
theorem Hx {a:AV} (h:ak a=true):cP a=[]:=by cases a <;> simp [ak] at h <;> rfl
theorem Jc {a:AV} (h:ak a=true) (l:List Nat):aO l a=true:=by cases a <;> simp [ak] at h <;> simp [aO,h]
theorem Hy {a:AV} (h:ak a=true) (g:Nat→Nat):fV g a=a:=by cases a <;> simp [ak] at h <;> rfl
theorem u9 {α β:Type} {f:α→List β}:∀ {l:List α},(∀ x ∈ l,f x=[])→l.flatMap f=[]
 | [],_=>rfl
 | x::l,h=>by
  rw [List.flatMap_cons,h x (by simp),u9 fun y hy=>h y (by simp [hy])]
  rfl
theorem Jd {a:AV} (h:dat a=true):bk a=[]:=by
 cases a <;> simp only [dat] at h <;> first | exact Hx h | skip
 ·rename_i cs
  exact u9 fun x hx=>Hx (List.all_eq_true.1 h x hx)
 ·rename_i f x y
  simp [ak] at h
  obtain ⟨rfl,rfl⟩:=h
  rfl
theorem Ma {a:AV} (h:dat a=true) (l:List Nat):aJ l a=true:=by
 cases a <;> simp only [dat] at h <;> first | exact Jc h l | skip
 ·rename_i cs
  simp only [aJ,List.all_eq_true]
  exact fun x hx=>Jc (List.all_eq_true.1 h x hx) l
 ·rename_i f x y
  simp [ak] at h
  obtain ⟨rfl,rfl⟩:=h
  rfl
theorem Je {a:AV} (h:dat a=true) (g:Nat→Nat):cQ g a=a:=by
 cases a <;> simp only [dat] at h <;> first | exact Hy h g | skip
 ·rename_i cs
  show AV.agg (cs.map (fV g))=_
  rw [(List.map_congr_left (g:=fun c=>c) fun x hx=>Hy (List.all_eq_true.1 h x hx) g).trans (List.map_id' cs)]
 ·rename_i f x y
  simp [ak] at h
  obtain ⟨rfl,rfl⟩:=h
  rfl
theorem Mb {a:AV} (h:dat a=true) (hp:aa):bM hp 0 a=some (a,hp,[]):=by
 by_cases hagg:∃ cs,a=.agg cs
 ·obtain ⟨cs,rfl⟩:=hagg
  simp only [dat] at h
  simp only [bM,mE]
  rw [gp h hp]
  rfl
 ·have h2:ak a=true:=by cases a <;> first | exact h | exact absurd ⟨_,rfl⟩ hagg
  cases a <;> first | (simp [ak] at h2; done) | rfl | skip
theorem CH (hp:aa):∀ {l:List AV},l.all dat=true→ah hp [] l=some (l,hp,[])
 | [],_=>rfl
 | a::l,h=>by
  simp only [List.all_cons,Bool.and_eq_true] at h
  simp only [ah,List.headD_nil,Mb h.1,Option.bind_some,List.tail_nil,CH hp h.2,List.append_nil]
structure OC (o:Ob):Prop where
 cl:∀ l,aA l o=true
 ids:uk o=[]
 ren:∀ g,cC g o=o
 nd:cD o=false
structure RT (r:AV):Prop where
 ren:∀ g,uo g r=r
 mat:∀ n h,mat n h r=(r,h)
 ok:∀ l,ey l r=true
theorem CI:∀ l:List AV,kN [] l=[]
 | []=>rfl
 | a::l=>by
  show (if (0:Nat)=2 then _ else [])++kN [] l=[]
  rw [CI l]
  rfl
theorem Hz {f:FuncId} {h:aa} {d id:Nat} {zas as':List AV} {o o':Ob} {res:AV} (hm:(ab false).m f=[]) (hk:(ab false).keep f=false) (hn:aM ((ab false).sh f) (.ref id none 0 0 0::zas)=.ref id none 0 0 0::as') (hd:zas.all dat=true) (hd':as'.all dat=true)
  (hh:h id=o) (ho:OC o) (ho':OC o') (hb:bf o=true→bf o'=true) (hR:R f (.ref 1000 none 0 0 0::as') [o]=some (res,[o'])) (hr:RT res) (h8:cf res≤8) (hfr:cx h (2000+8*d) (cf res)=true) :
  ai R (ab false) h d (.ref id none 0 0 0::zas) (.fn f [] [])=some (res,upd h id o',[(id,true)]):=by
 have h1:ah h [] (.ref id none 0 0 0::zas)=some (.ref id none 0 0 0::zas,h,[]):=by
  simp only [ah,bM,Option.bind_some,List.tail_nil,CH h hd,List.append_nil]
 have hp:bo [] ((AV.ref id none 0 0 0::zas).flatMap bk)=[id]:=by
  rw [List.flatMap_cons,u9 fun x hx=>Jd (List.all_eq_true.1 hd x hx)]
  rfl
 have hre:bJ h 40 [id] 0=[id]:=by
  simp [bJ,hh,ho.ids,bo]
 have h3:aV [id] id=1000:=by simp [aV]
 have hall:(AV.ref id none 0 0 0::as').all (aJ [id])=true:=by
  rw [List.all_cons,Bool.and_eq_true]
  exact ⟨by simp [aJ,aO],List.all_eq_true.2 fun x hx=>Ma (List.all_eq_true.1 hd' x hx) _⟩
 have hmap:(AV.ref id none 0 0 0::as').map (cQ (aV [id]))=.ref 1000 none 0 0 0::as':=by
  rw [List.map_cons,(List.map_congr_left (g:=fun c=>c) fun x hx=>Je (List.all_eq_true.1 hd' x hx) _).trans (List.map_id' as')]
  simp [cQ,fV,h3]
 have hob:([id].map fun a=>cC (aV [id]) (h a))=[o]:=by simp [hh,ho.ren]
 have hids:([id].all fun a=>aA [id] (h a) && !cD (h a))=true:=by simp [hh,ho.cl,ho.nd]
 unfold ai
 rw [if_neg (by simp [jG,hm])]
 simp only [dq,hm,List.nil_append,List.append_nil,h1,Option.bind_some,hp,hre,hn]
 unfold jF
 rw [hall,hids,hmap,hob,hR,Bool.and_self,if_pos rfl,Option.bind_some,hk,hm,CI]
 unfold dZ
 have hbf:cU h [] [id] [o']=true:=by
  have:=ho'.nd
  cases h5:bf o with
  | false=>simp [cU,hh,h5,this]
  | true=>simp [cU,hh,h5,hb h5,this]
 have hend:mP h [id] [] (res,[o'])=true:=by
  simp [mP,uq,hr.ok,ho'.cl]
 rw [if_pos ⟨rfl,by simp,h8,hfr,hbf,hend⟩]
 simp [cz,dC,hr.mat,hr.ren,ho'.ren]
theorem sw {f:FuncId} {h:aa} {d id:Nat} {zas:List AV} {r:Option R3} (hm:(ab false).m f=[]) (hd:zas.all dat=true) (hc:ai R (ab false) h d (.ref id none 0 0 0::zas) (.fn f [] [])=r):aD R (ab false) d f (.ref id none 0 0 0::zas,h,[])=r:=by
 have h1:ah h [] (.ref id none 0 0 0::zas)=some (.ref id none 0 0 0::zas,h,[]):=by
  simp only [ah,bM,Option.bind_some,List.tail_nil,CH h hd,List.append_nil]
 rw [aj d hm,h1] at hc
 exact hc
theorem me {v e:Int} {c:AV} {l:List Rt} (hc:mp c l):OC (t3 v c e):=by
 rcases hc with rfl | ⟨rfl,_⟩
 ·exact ⟨fun l=>rfl,rfl,fun g=>rfl,rfl⟩
 ·exact ⟨fun l=>rfl,rfl,fun g=>rfl,rfl⟩
theorem ZJ:RT (.tup []):=⟨fun _=>rfl,fun _ _=>rfl,fun _=>rfl⟩
theorem Dr {v e e':Int} {c c':AV} {l l':List Rt} {h:aa} {d id:Nat} {x:List Int} {q:Rd} (hh:h id=t3 v c e) (hc:mp c l) (hc':mp c' l') (hR:R F.poly_collector_add [.ref 1000 none 0 0 0,.sl 1 (aY x),aF q] [t3 v c e]=some (.tup [],[t3 v c' e'])) :
  ai R (ab false) h d [.ref id none 0 0 0,.sl 1 (aY x),aF q] (.fn F.poly_collector_add [] [])=some (.tup [],upd h id (t3 v c' e'),[(id,true)]) :=
 Hz (gj false) (dt false) (as':=[.sl 1 (aY x),aF q]) (by rw [tF]; simp only [aF,aW,go_sem]) rfl rfl hh (me hc) (me hc') (fun _=>rfl) hR ZJ (by decide) rfl
end Go.Ab
namespace Go.Ab
open Go Go.IntWalk
set_option maxRecDepth 4000
set_option maxHeartbeats 1000000
theorem HA {v:Int}:R F.poly_empty [I v] []=some (.obx [I v,.emp,I 0],[]):=by
 refine aX Gl Gk (A9 false) rfl ?_
 simp only [mU,wT,go_sem,↓reduceIte,aee,aef,aeh]
 rfl
theorem U8 (r:Rp × Int):RT (pV r):=⟨fun _=>rfl,fun _ _=>rfl,fun _=>rfl⟩
theorem ve {h:aa} {o:Ob} {rs:List (List Sh)} {vs us:List AV} {r:AV} (h0:((vs.flatMap bk).filter fun i=>!aG i)=[]) (h1:h 1000=o) (ho:aA [1000] o=true) (h2:lP h vs=some us) (h3:kP (aM rs us)=r):n6 rs 1 h vs=some (r,[o]):=by
 have hp:bS 1=[1000]:=rfl
 unfold n6
 rw [h0,hp,h2,if_pos (by simp [fm,h1,ho])]
 simp [h1,h3]
theorem Mc (x:Value):gG (.v x)=.v x:=rfl
theorem HB (k:Nat) (r:List (List AV)):gG (.osl k r)=.sl k r:=rfl
theorem Si {v e:Int} {l:List Rt}:kP (aM [[.o 0 [],.o 5 [.o 2 [],.o 0 [],.o 2 [],.o 0 []]],[]] [.agg [I v,.sl 4 (ax l)],I e])=pV (⟨v,l⟩,e):=by
 have h:=tO l
 show AV.tup [.agg [I v,.sl 4 ((ax l).map _)],I e]=_
 rw [h]
 rfl
theorem On {v e:Int} {c:AV} {l:List Rt} (hc:mp c l) (he:e ≠ 0):R F.poly_collector_done [.ref 1000 none 0 0 0] [t3 v c e]=some (pV (p0,e),[t3 v c e]):=by
 refine sv js jr (dY false) rfl ?_
 have e1:(e=0)=False:=ff he
 simp only [bW,dP,t3,go_sem,↓reduceIte,aee,aeg,aef,aeh,aej,aei,e1]
 exact ve rfl (by rfl) ((me hc).cl _) (by rfl) (by rfl)
theorem Oo {v:Int} {l:List Rt}:R F.poly_collector_done [.ref 1000 none 0 0 0] [t3 v (.osl 4 (ax l)) 0]=some (pV (ki v (some l)),[if 500 < l.length then t3 v (.osl 4 (ax l)) 0 else .bx [I v,.sl 4 (ax l),I 0]]):=by
 refine sv js jr (dY false) rfl ?_
 unfold ki
 by_cases h:500 < l.length
 ·have e1:(500 < (l.length:Int))=True:=tt (by omega)
  simp only [if_pos h]
  simp only [bW,dP,t3,go_sem,↓reduceIte,aee,aeg,aef,aeh,aej,aei,e1]
  exact ve rfl (by rfl) rfl (by rfl) (by rfl)
 ·have e1:(500 < (l.length:Int))=False:=ff (by omega)
  have k2:(ax l).take l.length=ax l:=List.take_of_length_le (by rw [fD]; exact Nat.le_refl _)
  simp only [if_neg h]
  simp only [bW,dP,t3,go_sem,↓reduceIte,aee,aeg,aef,aeh,aej,aei,e1,Mc,HB]
  exact ve rfl (by rfl) rfl (by rfl) Si
theorem Oq {v:Int}:R F.poly_collector_done [.ref 1000 none 0 0 0] [t3 v .emp 0]=some (pV (ki v (some [])),[t3 v .emp 0]):=by
 refine sv js jr (dY false) rfl ?_
 have e1:((500:Int) < 0)=False:=ff (by decide)
 simp only [bW,dP,t3,go_sem,↓reduceIte,aee,aeg,aef,aeh,aej,aei,e1]
 exact ve rfl (by rfl) rfl (by rfl) (by rfl)
theorem Ds {v e:Int} {c:AV} {l:List Rt} {h:aa} {d id:Nat} (hh:h id=t3 v c e) (hc:mp c l) (hf:cx h (2000+8*d) 2=true) :
  ∃ o,ai R (ab false) h d [.ref id none 0 0 0] (.fn F.poly_collector_done [] [])=some (pV (if e=0 then ki v (some l) else (p0,e)),upd h id o,[(id,true)]):=by
 have key:∃ o,OC o∧bf o=true∧R F.poly_collector_done [.ref 1000 none 0 0 0] [t3 v c e]=some (pV (if e=0 then ki v (some l) else (p0,e)),[o]):=by
  by_cases he:e=0
  ·subst he
   rw [if_pos rfl]
   rcases hc with rfl | ⟨rfl,rfl⟩
   ·refine ⟨_,?_,?_,Oo⟩
    ·split
     ·exact me (.inl rfl)
     ·exact ⟨fun l=>rfl,rfl,fun g=>rfl,rfl⟩
    ·split <;> rfl
   ·exact ⟨_,me (.inr ⟨rfl,rfl⟩),rfl,Oq⟩
  ·rw [if_neg he]
   exact ⟨_,me hc,rfl,On hc he⟩
 obtain ⟨o,h1,h2,h3⟩:=key
 exact ⟨o,Hz (fy false) (dY false) (as':=[]) (by rw [sM]; rfl) rfl rfl hh (me hc) h1 (fun _=>h2) h3 (U8 _) (by show 2≤8; decide) hf⟩
theorem CJ {a b:Rp} (oa:OkP a) (ob:OkP b):R F.poly_pair [aZ a,aZ b] []=some (B (m6 a b),[]):=by
 refine aX Ik Ij (Cj false) rfl ?_
 have h1:=nQ oa
 have h2:=nQ ob
 simp only [aZ] at h1 h2
 unfold m6
 cases ha:vp a with
 | false =>
  rw [ha] at h1
  rw [Bool.false_and]
  simp only [jj,pT,aZ,go_sem,↓reduceIte,aee,aeg,aef,aeh,h1]
 | true =>
  rw [ha] at h1
  rw [Bool.true_and]
  cases hb:vp b with
  | false =>
   rw [hb] at h2
   rw [Bool.false_and]
   simp only [jj,pT,aZ,go_sem,↓reduceIte,aee,aeg,aef,aeh,h1,h2]
  | true =>
   rw [hb] at h2
   rw [Bool.true_and]
   simp only [jj,pT,aZ,go_sem,↓reduceIte,aee,aeg,aef,aeh,h1,h2]
structure ColE (v:Int) (l ts:List Rt) (e:Int) (c':AV) (l':List Rt) (e':Int):Prop where
 c:mp c' l'
 r:(e'=0∧e=0∧gV l ts=some l')∨(e'=9∧(e=0→gV l ts=none))
theorem ColE.fin {v:Int} {ts:List Rt} {c':AV} {l':List Rt} {e':Int} (h:ColE v [] ts 0 c' l' e'):(if e'=0 then ki v (some l') else (p0,e'))=ki v (gV [] ts):=by
 rcases h.r with ⟨h1,_,h2⟩ | ⟨h1,h2⟩
 ·rw [if_pos h1,h2]
 ·rw [h1,if_neg (by decide),h2 rfl]
  rfl
theorem ColE.step {v:Int} {l ts:List Rt} {t:Rt} {c:AV} (hc:mp c l) {e:Int} (he:e=0∨e=9) (hC:e=0→Cl v l∧l.length+ts.length+1≤1000000) (vt:VT v t) {v':Int} :
  ∃ c1 l1 e1,R F.poly_collector_add [.ref 1000 none 0 0 0,.sl 1 (aY t.exps),aF t.c] [t3 v' c e]=some (.tup [],[t3 v' c1 e1])∧mp c1 l1∧(e1=0∨e1=9)∧(e1=0→Cl v l1∧l1.length+ts.length≤1000000)∧∀ c' l' e',ColE v l1 ts e1 c' l' e'→ColE v l (t::ts) e c' l' e':=by
 rcases he with rfl | rfl
 ·obtain ⟨h1,h2⟩:=hC rfl
  obtain ⟨c1,l1,e1,g1,g2,g3⟩:=I7 (v':=v') h1 vt (by omega) hc
  refine ⟨c1,l1,e1,g1,g2,?_,fun h0=>?_,fun c' l' e' h=>⟨h.c,?_⟩⟩
  ·rcases g3 with ⟨g,_⟩ | ⟨g,_⟩
   ·exact .inl g
   ·exact .inr g
  ·rcases g3 with ⟨_,g⟩ | ⟨g,_⟩
   ·have:=Ac g
    exact ⟨(xX h1 vt g).1,by omega⟩
   ·omega
  ·rcases g3 with ⟨g,k⟩ | ⟨g,k,_⟩
   ·subst g
    rcases h.r with ⟨q1,_,q2⟩ | ⟨q1,q2⟩
    ·refine .inl ⟨q1,rfl,?_⟩
     unfold gV
     rw [k]
     exact q2
    ·refine .inr ⟨q1,fun _=>?_⟩
     unfold gV
     rw [k]
     exact q2 rfl
   ·subst g
    rcases h.r with ⟨_,q1,_⟩ | ⟨q1,_⟩
    ·omega
    ·refine .inr ⟨q1,fun _=>?_⟩
     unfold gV
     rw [k]
     rfl
 ·refine ⟨c,l,9,Ho hc (by decide),hc,.inr rfl,fun h=>by omega,fun c' l' e' h=>⟨h.c,?_⟩⟩
  rcases h.r with ⟨_,q1,_⟩ | ⟨q1,_⟩
  ·omega
  ·exact .inr ⟨q1,fun h=>by omega⟩
theorem Md {v v':Int} {T:List Rt} (hT:∀ t ∈ T,VT v t) (hn:T.length≤100000):∀ (k i:Nat),i+k=T.length→∀ (c:AV) (l:List Rt) (e:Int),mp c l→(e=0∨e=9)→(e=0→Cl v l∧l.length+k≤1000000) →
  ∀ (s:af) (h:aa),s 4=.ref 4 none 0 0 0→s 6=.ref 2128 none 0 0 0→s 22=.sl 4 (ax T)→s 23=I T.length→s 24=I i→h 4=.bx [I 0,.emp]→h 2128=t3 v' c e →
  ∃ hh c' l' e',aI 0 [4,6] (aU (az R (ab false) kr) [4,6,22,23,24] [4,2128] s h)=some (.normal,⟨upd (upd (fun _=>.any) 6 (.ref 2128 none 0 0 0)) 4 (.ref 4 none 0 0 0),hh⟩) ∧
   hh 4=.bx [I 0,.emp]∧hh 2128=t3 v' c' e'∧(∀ a,a ≠ 4→a ≠ 2128→hh a=.dead)∧ColE v l (T.drop i) e c' l' e':=by
 intro k
 induction k with
 | zero =>
  intro i hi c l e hc he hC s h h4 h6 h22 h23 h24 k4 k6
  have e1:((i:Int) < T.length)=False:=ff (by omega)
  have ho:=(me (v:=v') (e:=e) hc).cl [4,2128]
  rw [aB]
  refine ⟨?hh0,c,l,e,?_,?_,?_,?_,?_⟩
  rotate_left
  ·simp only [kr,go_sem,↓reduceIte,aee,aei,h4,h6,h22,h23,h24,k4,k6,ho,e1]
   rfl
  ·rfl
  ·rfl
  ·intro a a1 a2
   simp only [jc,a1,a2,if_false]
  ·rw [List.drop_eq_nil_of_le (by omega)]
   refine ⟨hc,?_⟩
   rcases he with rfl | rfl
   ·exact .inl ⟨rfl,rfl,rfl⟩
   ·exact .inr ⟨rfl,fun h=>by omega⟩
 | succ k ih =>
  intro i hi c l e hc he hC s h h4 h6 h22 h23 h24 k4 k6
  have hlt:i < T.length:=by omega
  have e1:((i:Int) < T.length)=True:=tt (by omega)
  have e2:bH (ax T) (i:Int)=some (.ipt (bv T[i])):=jt rfl (List.getElem?_eq_getElem hlt)
  have e5:IntKind.i64.wrap ((i:Int)+1)=((i+1:Nat):Int):=wi (by omega) (by omega)
  have ho:=(me (v:=v') (e:=e) hc).cl [4,2128]
  have hdl:(T.drop (i+1)).length=k:=by rw [List.length_drop]; omega
  obtain ⟨c1,l1,ee,g1,g2,g3,g4,g5⟩:=ColE.step (ts:=T.drop (i+1)) hc he (fun h=>by have:=hC h; exact ⟨this.1,by omega⟩) (hT _ (List.getElem_mem hlt)) (v':=v')
  rw [hdl] at g4
  have ih':=ih (i+1) (by omega) c1 l1 ee g2 g3 g4
  rw [List.drop_eq_getElem_cons hlt,aB]
  generalize T[i]=t at e2 g1 g5 ⊢
  generalize aU _ _ _=L at ih' ⊢
  have hcall:=fun (h:aa) (hh:h 2128=t3 v' c e) (d:Nat)=>sw (gj false) rfl (Dr (d:=d) hh hc g2 g1)
  simp only [aF,aW] at hcall
  simp only [bv] at e2
  simp only [kr,go_sem,↓reduceIte,aee,aeg,aef,aeh,aei,h4,h6,h22,h23,h24,k4,k6,ho,e1,e2]
  rw [hcall _ rfl]
  simp only [go_sem,↓reduceIte,aee,aei,e5]
  refine (ih' _ _ ?_ ?_ ?_ ?_ ?_ ?_ ?_).imp fun hh ⟨c',l',e',q1,q2,q3,q4,q5⟩=>⟨c',l',e',q1,q2,q3,q4,g5 _ _ _ q5⟩
  all_goals rfl
end Go.Ab
namespace Go.Ab
open Go Go.IntWalk
set_option maxRecDepth 4000
set_option maxHeartbeats 1000000
theorem Jf:BK .emp=some (I 0):=rfl
theorem HC (h:aa):ut h .emp=h:=rfl
theorem KC:dJ 4 .emp none (some (I 0)) none=some .emp:=rfl
theorem Ot {h:aa} {d:Nat} {z:List AV} {n:Nat} (h0:0 < n) (h1:n≤1000000):rW h d 4 64 z .emp (I n)=bO h d 4 (List.replicate n z) n []:=by
 simp only [rW]
 rw [if_pos ⟨by omega,by omega⟩,Int.toNat_natCast]
theorem Ou:R F.slices_Grow_api_Term_api_Term_ [.emp,I 0] []=some (.emp,[]):=by
 refine aX gT gS (fB false) rfl ?_
 have e1:((0:Int) < 0)=False:=ff (by decide)
 have w1:IntKind.i64.wrap ((0:Int) - 0)=0:=by decide
 simp only [bG,dK,go_sem,↓reduceIte,aee,aeh,e1,w1,Jf,HC]
theorem Ov {n:Nat} (h0:0 < n) (h1:n≤1000000):R F.slices_Grow_api_Term_api_Term_ [.emp,I n] []=some (.osl 4 [],[]):=by
 refine aX gT gS (fB false) rfl ?_
 have e1:((n:Int) < 0)=False:=ff (by omega)
 have e2:(0 < (n:Int))=True:=tt (by omega)
 have w0:IntKind.i64.wrap ((0:Int) - 0)=0:=by decide
 have w1:IntKind.i64.wrap ((n:Int) - 0)=(n:Int):=wi (by omega) (by omega)
 have e3:(n*64≤140737488355328)=True:=eq_true (by omega)
 have e5:dJ 4 (.rsl 22 none 4 0 n) none (some (I 0)) none=some (.rsl 22 none 4 0 0):=by
  simp [dJ,hG,gF]
 have e4:=fun h d z=>Ot (h:=h) (d:=d) (z:=z) h0 h1
 simp only [bG,dK,go_sem,↓reduceIte,aee,aef,aeh,aej,e1,e2,e4,w0,w1,Jf,HC,KC,e5,List.take_zero]
 done
theorem Me {a b:List Rt} (ha:a.length≤100000) (hb:b.length≤100000):R F.slices_Concat_api_Term_api_Term_ [.sl 1 [[.sl 4 (ax a)],[.sl 4 (ax b)]]] []=some (.sl 4 (ax (a++b)),[]):=by
 refine aX my mw (kX false) rfl ?_
 have w1:IntKind.i64.wrap ((0:Int)+(a.length:Int))=(a.length:Int):=wi (by omega) (by omega)
 have w2:IntKind.i64.wrap ((a.length:Int)+(b.length:Int))=((a.length+b.length:Nat):Int):=wi (by omega) (by omega)
 have e1:((a.length:Int) < 0)=False:=ff (by omega)
 have e2:(((a.length+b.length:Nat):Int) < 0)=False:=ff (by omega)
 have c1:((0:Int) < ((0+1+1:Nat):Int))=True:=tt (by decide)
 have c2:((1:Int) < ((0+1+1:Nat):Int))=True:=tt (by decide)
 have c3:((2:Int) < ((0+1+1:Nat):Int))=False:=ff (by decide)
 have r0:bH [[AV.sl 4 (ax a)],[.sl 4 (ax b)]] 0=some (.ipt [.sl 4 (ax a)]):=rfl
 have r1:bH [[AV.sl 4 (ax a)],[.sl 4 (ax b)]] 1=some (.ipt [.sl 4 (ax b)]):=rfl
 have i1:IntKind.i64.wrap ((0:Int)+1)=1:=by decide
 have i2:IntKind.i64.wrap ((1:Int)+1)=2:=by decide
 simp only [bY,fM,go_sem,↓reduceIte,aee,aef,List.length_cons,List.length_nil]
 rw [aB]
 simp only [eW,go_sem,↓reduceIte,aee,c1,r0,w1,e1,i1]
 rw [aB]
 simp only [go_sem,↓reduceIte,aee,c2,r1,w2,e2,i2]
 rw [aB]
 simp only [go_sem,↓reduceIte,aee,c3]
 by_cases hz:a.length+b.length=0
 ·have ea:a=[]:=List.length_eq_zero_iff.1 (by omega)
  have eb:b=[]:=List.length_eq_zero_iff.1 (by omega)
  subst ea eb
  have hg:=Ou
  have a0:∀ h d,yM h d 4 64 .emp (.sl 4 [])=some (.emp,h,[]):=fun h d=>rfl
  have hcr:gY (fun _=>.dead) 24 (some (.emp,[]))=some (.emp,fun _=>.dead,[]):=rfl
  rw [show ax []=[] from rfl] at *
  simp only [go_sem,↓reduceIte,aee,aef,hg,hcr,List.length_nil,Nat.add_zero,Int.natCast_zero]
  rw [aB]
  simp only [cS,go_sem,↓reduceIte,aee,c1,r0,i1,a0]
  rw [aB]
  simp only [go_sem,↓reduceIte,aee,c2,r1,i2,a0]
  rw [aB]
  simp only [go_sem,↓reduceIte,aee,c3]
  rfl
 ·have hg:=Ov (n:=a.length+b.length) (by omega) (by omega)
  have b1:(a.length*64≤140737488355328)=True:=eq_true (by omega)
  have b2:((a.length+b.length)*64≤140737488355328)=True:=eq_true (by omega)
  simp only [go_sem,↓reduceIte,aee,aeg,aef,hg,List.length_nil]
  rw [aB]
  simp only [cS,go_sem,↓reduceIte,aee,aeh,aej,aei,c1,r0,i1,b1,or_true,Nat.zero_add,List.nil_append,List.length_nil]
  rw [aB]
  simp only [go_sem,↓reduceIte,aee,aeh,aej,aei,c2,r1,i2,b2,or_true]
  rw [aB]
  simp only [go_sem,↓reduceIte,aee,aeh,aej,aei,c3,Nat.zero_add]
  have hl:(ax a++ax b).length=a.length+b.length:=by rw [List.length_append,fD,fD]
  have hab:ax a++ax b=ax (a++b):=by simp [ax]
  rw [hl,if_pos (Nat.le_refl _),if_pos rfl,hab]
  show some (kP (aM _ [.osl 4 (ax (a++b))]),[])=_
  have h:=tO (a++b)
  show some (AV.sl 4 ((ax (a++b)).map _),[])=_
  rw [h]
theorem sx (h:aa) (d:Nat) (v:Int):gY h d (some (.obx [I v,.emp,I 0],[]))=if cD (h (2000+8*d))=true then some (.ref (2000+8*d) none 0 0 0,upd h (2000+8*d) (.bx [I v,.emp,I 0]),[]) else none:=by
 simp [gY,cf,cx,ey,cZ,gH,ak,aN,mat,bU]
theorem Sj {v v':Int} {T:List Rt} (hT:∀ t ∈ T,VT v t) (hn:T.length≤100000) (s:af) (h:aa) (X:Option (Ex × St)) (hX:aI 0 [4,6] (aU (az R (ab false) kr) [4,6,22,23,24] [4,2128] s h)=X) (h4:s 4=.ref 4 none 0 0 0) (h6:s 6=.ref 2128 none 0 0 0) (h22:s 22=.sl 4 (ax T)) (h23:s 23=I T.length) (h24:s 24=I 0) (k4:h 4=.bx [I 0,.emp]) (k6:h 2128=t3 v' .emp 0) :
  ∃ hh c' l' e',X=some (.normal,⟨upd (upd (fun _=>.any) 6 (.ref 2128 none 0 0 0)) 4 (.ref 4 none 0 0 0),hh⟩) ∧
   hh 4=.bx [I 0,.emp]∧hh 2128=t3 v' c' e'∧(∀ a,a ≠ 4→a ≠ 2128→hh a=.dead)∧ColE v [] T 0 c' l' e':=by
 subst hX
 exact Md hT hn T.length 0 (Nat.zero_add _) .emp [] 0 (.inr ⟨rfl,rfl⟩) (.inl rfl) (fun _=>⟨Cl.nil _,by show 0+_≤_; omega⟩) s h h4 h6 h22 h23 h24 k4 k6
theorem Jg {a b:Rp} (oa:OkP a) (ob:OkP b):R F.poly_Add [aZ a,aZ b] []=some (pV (ch a b),[]):=by
 refine aX Kn Km (vK false) rfl ?_
 have hp:=CJ oa ob
 simp only [aZ] at hp
 unfold ch
 cases hb:m6 a b with
 | false =>
  rw [hb] at hp
  rw [if_neg Bool.false_ne_true]
  simp only [mH,uL,aZ,go_sem,↓reduceIte,aee,aeg,aef,aeh,hp]
  rfl
 | true =>
  rw [hb] at hp
  rw [if_pos rfl]
  obtain ⟨va,vb,hv⟩:=fu.1 hb
  obtain ⟨ca,a0,a8,al⟩:=dH oa va
  obtain ⟨cb,b0,b8,bl⟩:=dH ob vb
  rw [← hv] at cb
  have hT:∀ t ∈ a.terms++b.terms,VT a.vars t:=fun t ht=>by
   rcases List.mem_append.1 ht with ht | ht
   ·exact ca.t t ht
   ·exact cb.t t ht
  have hemp:=HA (v:=a.vars)
  have hcat:=Me (a:=a.terms) (b:=b.terms) (by omega) (by omega)
  have hl:=Sj (v':=a.vars) hT (by rw [List.length_append]; omega)
  generalize a.terms++b.terms=T at hcat hl ⊢
  simp only [mH,uL,aZ,go_sem,↓reduceIte,aee,aeg,aef,aeh,aej,hp,hemp,sx,hcat,List.length_cons,List.length_nil]
  generalize hX:aI 0 [4,6] _=X
  obtain ⟨hh,c',l',e',rfl,q2,q3,q4,q5⟩:=hl _ _ _ hX rfl rfl rfl rfl rfl rfl rfl
  obtain ⟨o,hd⟩:=Ds (d:=36) q3 q5.c (by simp [cx,q4,cD])
  have hd':=sw (fy false) rfl hd
  rw [q5.fin] at hd'
  generalize ki a.vars (gV [] T)=r at hd' ⊢
  obtain ⟨r1,r2⟩:=r
  simp only [pV,aZ] at hd'
  simp only [pV,aZ,go_sem,↓reduceIte,aee,aeg,aef,aeh,aei,q2,hd']
end Go.Ab
namespace Go.Ab
open Go Go.IntWalk
set_option maxRecDepth 4000
set_option maxHeartbeats 1000000
theorem Qz {v:Int} {t:Rt} (vt:VT v t):R F.dyadic_Neg [aF t.c] []=some (aF (iO t).c,[]):=by
 have h:=Sa vt.c
 have hvc:=vt.vc
 rw [if_neg (by rw [hvc]; exact fun h=>h.elim (fun h=>by cases h) vt.nz)] at h
 exact h
def t2 (v:Int) (c:AV):Ob:=.bx [I v,c]
theorem Po {v:Int} {c:AV} {l:List Rt} (hc:mp c l) (ids:List Nat):aA ids (t2 v c)=true:=by
 rcases hc with rfl | ⟨rfl,_⟩ <;> rfl
theorem Mf {v v':Int} {a:Rp} {T:List Rt} (hT:∀ t ∈ T,VT v t) (hn:T.length≤100000) {o3:Ob} (ho3:aA [2,3,4,6] o3=true):∀ (k i:Nat),i+k=T.length→∀ (c:AV),mp c ((T.take i).map iO) →
  ∀ (s:af) (h:aa),s 2=.ref 2 none 0 0 0→s 4=.ref 4 none 0 0 0→s 6=.ref 6 none 0 0 0→s 18=.sl 4 (ax T)→s 19=I T.length→s 20=I i→h 2=.bx [I a.vars,.sl 4 (ax a.terms)]→h 3=o3→h 4=.bx [I 0,.emp]→h 6=t2 v' c →
  ∃ hh c',aI 0 [2,4,6] (aU (az R (ab false) ib) [2,4,6,18,19,20] [2,3,4,6] s h)=some (.normal,⟨upd (upd (upd (fun _=>.any) 6 (.ref 6 none 0 0 0)) 4 (.ref 4 none 0 0 0)) 2 (.ref 2 none 0 0 0),hh⟩) ∧
   hh 2=.bx [I a.vars,.sl 4 (ax a.terms)]∧hh 4=.bx [I 0,.emp]∧hh 6=t2 v' c'∧(∀ a,a ≠ 2→a ≠ 3→a ≠ 4→a ≠ 6→hh a=.dead)∧mp c' (T.map iO):=by
 intro k
 induction k with
 | zero =>
  intro i hi c hc s h h2 h4 h6 h18 h19 h20 k2 k3 k4 k6
  have e1:((i:Int) < T.length)=False:=ff (by omega)
  rw [List.take_of_length_le (by omega)] at hc
  have ho:=Po (v:=v') hc [2,3,4,6]
  rw [aB]
  refine ⟨?hh0,c,?_,?_,?_,?_,?_,hc⟩
  rotate_left
  ·simp only [ib,go_sem,↓reduceIte,aee,aei,h2,h4,h6,h18,h19,h20,k2,k3,k4,k6,ho,ho3,e1]
   rfl
  ·rfl
  ·rfl
  ·rfl
  ·intro a a1 a2 a3 a4
   simp only [jc,a1,a2,a3,a4,if_false]
 | succ k ih =>
  intro i hi c hc s h h2 h4 h6 h18 h19 h20 k2 k3 k4 k6
  have hlt:i < T.length:=by omega
  have e1:((i:Int) < T.length)=True:=tt (by omega)
  have e2:bH (ax T) (i:Int)=some (.ipt (bv T[i])):=jt rfl (List.getElem?_eq_getElem hlt)
  have e5:IntKind.i64.wrap ((i:Int)+1)=((i+1:Nat):Int):=wi (by omega) (by omega)
  have hng:=Qz (hT _ (List.getElem_mem hlt))
  have ho:=Po (v:=v') hc [2,3,4,6]
  have ih':=ih (i+1) (by omega)
  rw [List.take_succ_eq_append_getElem hlt,List.map_append,List.map_singleton] at ih'
  have hlen:((T.take i).map iO).length=i:=by rw [List.length_map,List.length_take]; omega
  generalize T[i]=t at e2 hng ih'
  generalize (T.take i).map iO=l at hc ih' hlen
  rw [aB]
  generalize aU _ _ _=L at ih' ⊢
  simp only [aF,aW,iO] at hng
  simp only [bv] at e2
  rcases hc with rfl | ⟨rfl,rfl⟩
  ·simp only [t2] at k6
   have b1:((l.length+1)*64≤140737488355328)=True:=eq_true (by omega)
   simp only [ib,go_sem,↓reduceIte,aee,aeg,aef,aeh,aej,aei,h2,h4,h6,h18,h19,h20,k2,k3,k4,k6,ho3,e1,e2,hng,b1,true_or]
   rw [if_pos (by rfl),oP rfl (by rw [List.length_append,fD]; rfl) rfl (by decide) (by show 1 < 2; decide)]
   simp only [go_sem,↓reduceIte,aee,aei,e5]
   refine (ih' (.osl 4 (ax l++[[.sl 1 (aY t.exps),B (!t.c.neg),lm t.c.m,I t.c.e]])) (.inl ?_) _ _ ?_ ?_ ?_ ?_ ?_ ?_ ?_ ?_ ?_ ?_).imp fun hh ⟨c',q⟩=>⟨c',q⟩
   ·simp [ax,bv,iO]
   all_goals rfl
  ·simp only [t2] at k6
   simp only [ib,go_sem,↓reduceIte,aee,aeg,aef,aeh,aej,aei,h2,h4,h6,h18,h19,h20,k2,k3,k4,k6,ho3,e1,e2,hng]
   rw [if_pos (by rfl),oP rfl (show 1=List.length [[AV.sl 1 (aY t.exps),B (!t.c.neg),lm t.c.m,I t.c.e]] from rfl) rfl (by decide) (by show 1 < 2; decide)]
   simp only [go_sem,↓reduceIte,aee,aei,e5]
   refine (ih' (.osl 4 [[.sl 1 (aY t.exps),B (!t.c.neg),lm t.c.m,I t.c.e]]) (.inl ?_) _ _ ?_ ?_ ?_ ?_ ?_ ?_ ?_ ?_ ?_ ?_).imp fun hh ⟨c',q⟩=>⟨c',q⟩
   all_goals rfl
theorem Sk {v v':Int} {a:Rp} {T:List Rt} (hT:∀ t ∈ T,VT v t) (hn:T.length≤100000) {o3:Ob} (ho3:aA [2,3,4,6] o3=true) (s:af) (h:aa) (X:Option (Ex × St)) (hX:aI 0 [2,4,6] (aU (az R (ab false) ib) [2,4,6,18,19,20] [2,3,4,6] s h)=X)
  (h2:s 2=.ref 2 none 0 0 0) (h4:s 4=.ref 4 none 0 0 0) (h6:s 6=.ref 6 none 0 0 0) (h18:s 18=.sl 4 (ax T)) (h19:s 19=I T.length) (h20:s 20=I 0) (k2:h 2=.bx [I a.vars,.sl 4 (ax a.terms)]) (k3:h 3=o3) (k4:h 4=.bx [I 0,.emp]) (k6:h 6=.bx [I v',.emp]) :
  ∃ hh c',X=some (.normal,⟨upd (upd (upd (fun _=>.any) 6 (.ref 6 none 0 0 0)) 4 (.ref 4 none 0 0 0)) 2 (.ref 2 none 0 0 0),hh⟩) ∧
   hh 2=.bx [I a.vars,.sl 4 (ax a.terms)]∧hh 4=.bx [I 0,.emp]∧hh 6=t2 v' c'∧(∀ a,a ≠ 2→a ≠ 3→a ≠ 4→a ≠ 6→hh a=.dead)∧mp c' (T.map iO):=by
 subst hX
 exact Mf hT hn ho3 T.length 0 (Nat.zero_add _) .emp (.inr ⟨rfl,rfl⟩) s h h2 h4 h6 h18 h19 h20 k2 k3 k4 k6
theorem QA {a b:Rp} (_oa:OkP a) (ob:OkP b) (h:m6 a b=true):OkP ⟨b.vars,b.terms.map iO⟩∧ch a ⟨b.vars,b.terms.map iO⟩=lJ a b:=by
 obtain ⟨va,vb,hv⟩:=fu.1 h
 obtain ⟨cb,b0,b8,bl⟩:=dH ob vb
 have hp:∀ l:List Rt,Cl b.vars l→Cl b.vars (l.map iO):=by
  intro l
  induction l with
  | nil=>exact fun c=>c
  | cons t l ih =>
   intro c
   obtain ⟨c1,c2,c3⟩:=c.cons
   refine Cl.mk' (CF c1) (fun x hx=>?_) (ih c3)
   obtain ⟨q,hq,rfl⟩:=List.mem_map.1 hx
   exact c2 q hq
 have hn:=hp _ cb
 refine ⟨xr hn,?_⟩
 have h2:m6 a ⟨b.vars,b.terms.map iO⟩=true:=fu.2 ⟨va,EX hn b0 b8 (by rw [List.length_map]; exact bl),hv⟩
 unfold ch lJ
 rw [if_pos h2,if_pos h]
theorem QB {a b:Rp} (oa:OkP a) (ob:OkP b):R F.poly_Sub [aZ a,aZ b] []=some (pV (lJ a b),[]):=by
 refine aX Kr Kq (vM false) rfl ?_
 have hp:=CJ oa ob
 simp only [aZ] at hp
 cases hb:m6 a b with
 | false =>
  rw [hb] at hp
  unfold lJ
  rw [hb,if_neg Bool.false_ne_true]
  simp only [mI,uM,aZ,go_sem,↓reduceIte,aee,aeg,aef,aeh,hp]
  rfl
 | true =>
  rw [hb] at hp
  obtain ⟨va,vb,hv⟩:=fu.1 hb
  obtain ⟨cb,b0,b8,bl⟩:=dH ob vb
  obtain ⟨on,e1⟩:=QA oa ob hb
  have hadd:=Jg oa on
  rw [e1] at hadd
  have hl:=Sk (v':=b.vars) (a:=a) (T:=b.terms) cb.t (by omega) (o3:=.bx [I b.vars,.sl 4 (ax b.terms)]) rfl
  simp only [mI,uM,aZ,go_sem,↓reduceIte,aee,aeg,aef,aeh,hp]
  generalize hX:aI 0 [2,4,6] _=X
  obtain ⟨hh,c',rfl,q2,q3,q4,q5,q6⟩:=hl _ _ _ hX rfl rfl rfl rfl rfl rfl rfl rfl rfl rfl
  have d1:hh 2304=.dead:=q5 _ (by decide) (by decide) (by decide) (by decide)
  have d2:hh 2305=.dead:=q5 _ (by decide) (by decide) (by decide) (by decide)
  generalize lJ a b=r at hadd ⊢
  obtain ⟨r1,r2⟩:=r
  simp only [pV,aZ] at hadd
  rcases q6 with rfl | ⟨rfl,q6⟩
  ·simp only [t2] at q4
   simp only [pV,aZ,go_sem,↓reduceIte,aee,aeg,aef,aeh,aei,q2,q3,q4,d1,d2,Mc,HB,hadd]
  ·simp only [t2] at q4
   rw [q6] at hadd
   rw [show ax []=[] from rfl] at hadd
   simp only [pV,aZ,go_sem,↓reduceIte,aee,aeg,aef,aeh,q2,q3,q4,d1,d2,hadd]
end Go.Ab
namespace Go.Ab
open Go Go.IntWalk
set_option maxRecDepth 4000
set_option maxHeartbeats 1000000
end Go.Ab
namespace Go.Ab
open Go Go.IntWalk
set_option maxRecDepth 4000
set_option maxHeartbeats 1000000
end Go.Ab
namespace Go.Ab
open Go Go.IntWalk
set_option maxRecDepth 4000
set_option maxHeartbeats 1000000
end Go.Ab
namespace Go.Ab
open Go Go.IntWalk
set_option maxRecDepth 4000
set_option maxHeartbeats 1000000
def vf (t:Rt):Bool:=decide (10 < t.c.m.length) || decide (20 < t.exps.length)
theorem KD {t:Rt}:R F.l23_great_1_1 [.agg (bv t)] []=some (B (vf t),[]):=by
 refine aX A8 A7 (w9 false) rfl ?_
 unfold vf
 by_cases h:10 < t.c.m.length
 ·have e1:(10 < (t.c.m.length:Int))=True:=tt (by omega)
  rw [decide_eq_true h,Bool.true_or]
  simp only [gL,ow,bv,go_sem,↓reduceIte,aee,aeg,aef,e1]
 ·have e1:(10 < (t.c.m.length:Int))=False:=ff (by omega)
  rw [decide_eq_false h,Bool.false_or]
  have e2:decide ((20:Int) < (t.exps.length:Int))=decide (20 < t.exps.length):=by rw [decide_eq_decide]; omega
  simp only [gL,ow,bv,go_sem,↓reduceIte,aee,aeg,aef,e1,e2]
theorem lmB (m:List Nat):(aP m).map (fun r=>match r with | [.v (.int _ x)]=>x.toNat | _=>0)=m:=by
 unfold aP
 rw [List.map_map]
 exact (List.map_congr_left (g:=fun c=>c) fun x _=>by simp).trans (List.map_id' _)
theorem izB (m:List Int):(aY m).map (fun r=>match r with | [.v (.int _ x)]=>x | _=>0)=m:=by
 unfold aY
 rw [List.map_map]
 exact (List.map_congr_left (g:=fun c=>c) fun x _=>by simp).trans (List.map_id' _)
def Dt:List AV→Rt
 | [.sl _ m1,.v (.bool n2),.sl _ m2,.v (.int _ e2)]=>⟨m1.map (fun r=>match r with | [.v (.int _ x)]=>x | _=>0),⟨n2,m2.map (fun r=>match r with | [.v (.int _ x)]=>x.toNat | _=>0),e2⟩⟩
 | _=>⟨[],et⟩
theorem EZ (t:Rt):Dt (bv t)=t:=by
 show (⟨(aY t.exps).map _,⟨t.c.neg,(aP t.c.m).map _,t.c.e⟩⟩:Rt)=t
 rw [lmB,izB]
theorem Ow {l:List Rt} (h2:l.length < 4611686018427387904):R F.slices_ContainsFunc_api_Term_api_Term_ [.sl 4 (ax l),.fn F.l23_great_1_1 [] []] []=some (B (l.any vf),[]):=by
 have h1:=Bo (k:=4) (g:=true) (f:=F.l23_great_1_1) (rows:=ax l) (p:=fun r=>vf (Dt r)) lh lg (j8 false) rfl (so false) (by rw [fD]; omega) (fun row hr=>by
  simp only [ax,List.mem_map] at hr
  obtain ⟨t,ht,rfl⟩:=hr
  have hd:=KD (t:=t)
  refine ⟨.agg (bv t),rfl,rfl,?_⟩
  rw [EZ]
  simp only [bv] at hd
  simp only [bv,go_sem,hd])
 have h2:=xT (k:=4) j5 j3 (iV false) rfl (eZ false) (kJ false) (by simp only [go_sem]) h1
 have h3:(ax l).any (fun r=>vf (Dt r))=l.any vf:=by
  unfold ax
  rw [List.any_map]
  congr 1
  funext t
  exact congrArg vf (EZ t)
 rw [h3] at h2
 exact h2
def mO (a:Rp):Bool:=(decide (40 < a.terms.length) && decide (a.terms.length≤500)) || a.terms.any vf
theorem Mg {a:Rp} (h2:a.terms.length < 4611686018427387904):R F.l23_great_1 [aZ a] []=some (B (mO a),[]):=by
 refine aX DO DN (yX false) rfl ?_
 have hc:=Ow h2
 have nr:(ax a.terms).map (ce [.o 2 [],.o 0 [],.o 2 [],.o 0 []])=ax a.terms:=tO _
 unfold mO
 by_cases h:40 < a.terms.length
 ·have e1:(40 < (a.terms.length:Int))=True:=tt (by omega)
  rw [decide_eq_true h,Bool.true_and]
  by_cases h5:a.terms.length≤500
  ·have e2:((a.terms.length:Int)≤500)=True:=tt (by omega)
   rw [decide_eq_true h5,Bool.true_or]
   simp only [gz,mT,aZ,go_sem,↓reduceIte,aee,aeg,aef,e1,e2]
  ·have e2:((a.terms.length:Int)≤500)=False:=ff (by omega)
   rw [decide_eq_false h5,Bool.false_or]
   simp only [gz,mT,aZ,go_sem,↓reduceIte,aee,aeg,aef,e1,e2,hc]
 ·have e1:(40 < (a.terms.length:Int))=False:=ff (by omega)
  rw [decide_eq_false h,Bool.false_and,Bool.false_or]
  simp only [gz,mT,aZ,go_sem,↓reduceIte,aee,aeg,aef,e1,hc]
def Jh (a:Rp):List AV:=[I a.vars,.sl 4 (ax a.terms)]
def xy (l:List Rp):List (List AV):=l.map Jh
@[go_sem] theorem QC (l:List Rp):(xy l).length=l.length:=by simp [xy]
@[go_sem] theorem ZK (l:List Rt):(ax l).map (ce [.o 2 [],.o 0 [],.o 0 [],.o 0 []])=ax l:=by
 refine qo fun x hx=>?_
 simp only [ax,List.mem_map] at hx
 obtain ⟨t,ht,rfl⟩:=hx
 simp only [bv,go_sem]
@[go_sem] theorem acg (l:List Rp):(xy l).map (ce [.o 0 [],.o 5 [.o 2 [],.o 0 [],.o 0 [],.o 0 []]])=xy l:=by
 refine qo fun x hx=>?_
 simp only [xy,List.mem_map] at hx
 obtain ⟨t,ht,rfl⟩:=hx
 simp only [Jh,go_sem]
def Sl:List AV→Rp
 | [.v (.int _ v),.sl _ r]=>⟨v,r.map Dt⟩
 | _=>p0
theorem Pp (a:Rp):Sl (Jh a)=a:=by
 show (⟨a.vars,(ax a.terms).map Dt⟩:Rp)=a
 have h:(ax a.terms).map Dt=a.terms:=by
  unfold ax
  rw [List.map_map]
  exact (List.map_congr_left (g:=fun c=>c) fun x _=>EZ x).trans (List.map_id' _)
 rw [h]
theorem Ox {l:List Rp} (hl:l.length≤10) (h2:∀ a ∈ l,a.terms.length < 4611686018427387904):R F.l23_great [.sl 2 (xy l)] []=some (B (l.any mO),[]):=by
 refine aX Ie Ic (Ca false) rfl ?_
 have h1:=Bo (k:=2) (g:=true) (f:=F.l23_great_1) (rows:=xy l) (p:=fun r=>mO (Sl r)) kZ kY (j7 false) rfl (vN false) (by rw [QC]; omega) (fun row hr=>by
  simp only [xy,List.mem_map] at hr
  obtain ⟨t,ht,rfl⟩:=hr
  have hd:=Mg (h2 t ht)
  refine ⟨.agg (Jh t),rfl,rfl,?_⟩
  rw [Pp]
  simp only [aZ] at hd
  simp only [Jh,go_sem,hd])
 have h2:=xT (k:=2) jZ jY (iU false) rfl (eY false) (kH false) (by simp only [go_sem]) h1
 have h3:(xy l).any (fun r=>mO (Sl r))=l.any mO:=by
  unfold xy
  rw [List.any_map]
  congr 1
  funext t
  exact congrArg mO (Pp t)
 rw [h3] at h2
 simp only [ov,yE,go_sem,↓reduceIte,aee,aeg,aef,h2]
theorem Ag {a:Rp} (oc:∀ t ∈ a.terms,Ok0 t.c) (h:mO a=false):OkP a:=by
 unfold mO at h
 rw [Bool.or_eq_false_iff] at h
 refine ⟨fun t ht=>⟨oc t ht,?_⟩⟩
 have:=List.any_eq_false.1 h.2 t ht
 unfold vf at this
 simp at this
 omega
structure Res (r:Rp × Int):Prop where
 cl:Cl r.1.vars r.1.terms
 len:r.1.terms.length≤100000
 z:r.2=0∨r.1=p0
end Go.Ab
namespace Go.Ab
open Go Go.IntWalk
set_option maxRecDepth 4000
set_option maxHeartbeats 2000000
theorem QD (l:List Int) (n:Nat) (x:Int):(aY l).set n [I x]=aY (l.set n x):=by simp [aY,List.map_set]
theorem Oy {a b:List Int} {i:Nat} {x y:Int} (hx:a[i]?=some x) (hy:b[i]?=some y):(bQ a b)[i]?=some (x+y):=by
 unfold bQ
 rw [List.getElem?_zipWith,hx,hy]
def sy (a b:List Int) (i:Nat):List Int:=(bQ a b).take i++a.drop i
theorem QE {a b:List Int} (h:a.length=b.length) {i:Nat} {x:Int} (hx:a[i]?=some x):(sy a b i)[i]?=some x:=by
 have hlt:=(List.getElem?_eq_some_iff.1 hx).1
 unfold sy
 rw [List.getElem?_append_right (by rw [List.length_take,nD h]; omega),List.length_take,nD h,List.getElem?_drop,show i+(i - min i a.length)=i by omega]
 exact hx
theorem QF {a b:List Int} (h:a.length=b.length) {i:Nat} {x y:Int} (hx:a[i]?=some x) (hy:b[i]?=some y):(sy a b i).set i (x+y)=sy a b (i+1):=by
 have hlt:=(List.getElem?_eq_some_iff.1 hx).1
 have hg:=Oy hx hy
 have hlen:=nD h
 unfold sy
 have ht:((bQ a b).take i).length=i:=by rw [List.length_take]; omega
 rw [List.set_append_right _ _ (by omega),ht,Nat.sub_self,List.drop_eq_getElem_cons hlt,List.set_cons_zero,List.take_succ_eq_append_getElem (by omega:i < (bQ a b).length),List.append_assoc]
 have:=(List.getElem?_eq_some_iff.1 hg).2
 rw [this]
 rfl
theorem QG {a b:List Int} (h:a.length=b.length) {i:Nat} (hi:a.length≤i):sy a b i=bQ a b:=by
 unfold sy
 rw [List.take_of_length_le (by rw [nD h]; omega),List.drop_eq_nil_of_le hi,List.append_nil]
theorem Mh {v:Int} {p q:Rt} (vp:VT v p) (vq:VT v q) {A Bt:List Rt} {nA iA nB iB:Int} {o2 o3 o4 o8 o10 o11 o2352:Ob} (c2:aA [2,3,4,8,10,11,2352,2576] o2=true) (c3:aA [2,3,4,8,10,11,2352,2576] o3=true) (c4:aA [2,3,4,8,10,11,2352,2576] o4=true) (c8:aA [2,3,4,8,10,11,2352,2576] o8=true) (c10:aA [2,3,4,8,10,11,2352,2576] o10=true) (c11:aA [2,3,4,8,10,11,2352,2576] o11=true) (cc:aA [2,3,4,8,10,11,2352,2576] o2352=true) :
  ∀ (k i:Nat),i+k=p.exps.length→∀ (s:af) (h:aa),s 3=.ref 3 none 0 0 0→s 4=.ref 4 none 0 0 0→s 6=.ref 2352 none 0 0 0→s 8=.ref 8 none 0 0 0→s 11=.ref 11 none 0 0 0→s 13=.rsl 2576 none 1 0 p.exps.length→s 46=.sl 4 (ax A)→s 47=I nA→s 48=I iA→s 53=.sl 4 (ax Bt)→s 54=I nB→s 55=I iB→s 74=.sl 1 (aY q.exps)→s 75=I q.exps.length→s 76=I i→h 2=o2→h 3=o3→h 4=o4→h 8=o8→h 10=o10→h 11=o11→h 2352=o2352→h 2576=.ar 1 (aY (sy p.exps q.exps i)) →
  ∃ hh,aI 5 [3,4,6,8,11,13,46,47,48,53,54,55] (aU (az R (ab false) ia) [3,4,6,8,11,13,46,47,48,53,54,55,74,75,76] [2,3,4,8,10,11,2352,2576] s h)=some (.normal,⟨upd (upd (upd (upd (upd (upd (upd (upd (upd (upd (upd (upd (fun _=>.any) 55 (I iB)) 54 (I nB)) 53 (.sl 4 (ax Bt))) 48 (I iA)) 47 (I nA)) 46 (.sl 4 (ax A))) 13 (.rsl 2576 none 1 0 p.exps.length)) 11 (.ref 11 none 0 0 0)) 8 (.ref 8 none 0 0 0)) 6 (.ref 2352 none 0 0 0)) 4 (.ref 4 none 0 0 0)) 3 (.ref 3 none 0 0 0),hh⟩) ∧
   hh 2=o2∧hh 3=o3∧hh 4=o4∧hh 8=o8∧hh 10=o10∧hh 11=o11∧hh 2352=o2352∧hh 2576=.ar 1 (aY (bQ p.exps q.exps))∧∀ a,a ≠ 2→a ≠ 3→a ≠ 4→a ≠ 8→a ≠ 10→a ≠ 11→a ≠ 2352→a ≠ 2576→hh a=.dead:=by
 have hl:=vp.l2 vq
 have hs:=vp.ok.len
 intro k
 induction k with
 | zero =>
  intro i hi s h g3 g4 g6 g8 g11 g13 g46 g47 g48 g53 g54 g55 g74 g75 g76 k2 k3 k4 k8 k10 k11 k2352 k2576
  have e1:((i:Int) < (q.exps.length:Int))=False:=ff (by omega)
  rw [QG hl (by omega)] at k2576
  rw [aB]
  refine ⟨?hh0,?_,?_,?_,?_,?_,?_,?_,?_,?_,?_⟩
  rotate_left
  ·simp only [ia,go_sem,↓reduceIte,aee,aei,g3,g4,g6,g8,g11,g13,g46,g47,g48,g53,g54,g55,g74,g75,g76,k2,k3,k4,k8,k10,k11,k2352,k2576,c2,c3,c4,c8,c10,c11,cc,e1]
   rfl
  all_goals first | rfl | (intro a a1 a2 a3 a4 a5 a6 a7 a8; simp only [jc,a1,a2,a3,a4,a5,a6,a7,a8,if_false])
 | succ k ih =>
  intro i hi s h g3 g4 g6 g8 g11 g13 g46 g47 g48 g53 g54 g55 g74 g75 g76 k2 k3 k4 k8 k10 k11 k2352 k2576
  have hlt:i < p.exps.length:=by omega
  have hlt2:i < q.exps.length:=by omega
  have e1:((i:Int) < (q.exps.length:Int))=True:=tt (by omega)
  have hq:q.exps[i]?=some q.exps[i]:=List.getElem?_eq_getElem hlt2
  have hp:p.exps[i]?=some p.exps[i]:=List.getElem?_eq_getElem hlt
  have e2:bH (aY q.exps) (i:Int)=some (.ipt [I q.exps[i]]):=qY rfl hq
  have e3:=QE hl hp (b:=q.exps)
  have e3':(aY (sy p.exps q.exps i))[i]?=some [I p.exps[i]]:=by simp [aY,e3]
  have e4:=QF hl hp hq
  have b1:=vp.b _ (List.getElem_mem hlt)
  have b2:=vq.b _ (List.getElem_mem hlt2)
  have e5:IntKind.i64.wrap ((i:Int)+1)=((i+1:Nat):Int):=wi (by omega) (by omega)
  have e6:(0≤(i:Int)∧(i:Int) < (p.exps.length:Int))=True:=eq_true ⟨by omega,by omega⟩
  have e7:IntKind.i64.wrap (p.exps[i]+q.exps[i])=p.exps[i]+q.exps[i]:=i64_in _ ⟨by omega,by omega⟩
  have ih':=ih (i+1) (by omega)
  rw [← e4,← QD] at ih'
  generalize p.exps[i]=x at e3' e7 ih'
  generalize q.exps[i]=y at e2 e7 ih'
  rw [aB]
  generalize aU _ _ _=L at ih' ⊢
  simp only [ia,go_sem,↓reduceIte,aee,aeh,aei,g3,g4,g6,g8,g11,g13,g46,g47,g48,g53,g54,g55,g74,g75,g76,k2,k3,k4,k8,k10,k11,k2352,k2576,c2,c3,c4,c8,c10,c11,cc,e1,e2,e3',e5,e6,e7,Int.toNat_natCast,Nat.zero_add]
  exact ih' _ _ rfl rfl rfl rfl rfl rfl rfl rfl rfl rfl rfl rfl rfl rfl rfl rfl rfl rfl rfl rfl rfl rfl rfl
theorem Sm {v:Int} {p q:Rt} (vp:VT v p) (vq:VT v q) {A Bt:List Rt} {nA iA nB iB:Int} {o2 o3 o4 o8 o10 o11 o2352:Ob} (s:af) (h:aa) (X:Option (Ex × St)) (hX:aI 5 [3,4,6,8,11,13,46,47,48,53,54,55] (aU (az R (ab false) ia) [3,4,6,8,11,13,46,47,48,53,54,55,74,75,76] [2,3,4,8,10,11,2352,2576] s h)=X)
  (g3:s 3=.ref 3 none 0 0 0) (g4:s 4=.ref 4 none 0 0 0) (g6:s 6=.ref 2352 none 0 0 0) (g8:s 8=.ref 8 none 0 0 0) (g11:s 11=.ref 11 none 0 0 0) (g13:s 13=.rsl 2576 none 1 0 p.exps.length) (g46:s 46=.sl 4 (ax A)) (g47:s 47=I nA) (g48:s 48=I iA) (g53:s 53=.sl 4 (ax Bt)) (g54:s 54=I nB) (g55:s 55=I iB) (g74:s 74=.sl 1 (aY q.exps)) (g75:s 75=I q.exps.length) (g76:s 76=I 0) (k2:h 2=o2) (k3:h 3=o3) (k4:h 4=o4) (k8:h 8=o8) (k10:h 10=o10) (k11:h 11=o11) (k2352:h 2352=o2352) (k2576:h 2576=.ar 1 (aY p.exps)) (c2:aA [2,3,4,8,10,11,2352,2576] o2=true) (c3:aA [2,3,4,8,10,11,2352,2576] o3=true) (c4:aA [2,3,4,8,10,11,2352,2576] o4=true) (c8:aA [2,3,4,8,10,11,2352,2576] o8=true) (c10:aA [2,3,4,8,10,11,2352,2576] o10=true) (c11:aA [2,3,4,8,10,11,2352,2576] o11=true) (c2352:aA [2,3,4,8,10,11,2352,2576] o2352=true) :
  ∃ hh,X=some (.normal,⟨upd (upd (upd (upd (upd (upd (upd (upd (upd (upd (upd (upd (fun _=>.any) 55 (I iB)) 54 (I nB)) 53 (.sl 4 (ax Bt))) 48 (I iA)) 47 (I nA)) 46 (.sl 4 (ax A))) 13 (.rsl 2576 none 1 0 p.exps.length)) 11 (.ref 11 none 0 0 0)) 8 (.ref 8 none 0 0 0)) 6 (.ref 2352 none 0 0 0)) 4 (.ref 4 none 0 0 0)) 3 (.ref 3 none 0 0 0),hh⟩)∧hh 2=o2∧hh 3=o3∧hh 4=o4∧hh 8=o8∧hh 10=o10∧hh 11=o11∧hh 2352=o2352∧hh 2576=.ar 1 (aY (bQ p.exps q.exps))∧∀ a,a ≠ 2→a ≠ 3→a ≠ 4→a ≠ 8→a ≠ 10→a ≠ 11→a ≠ 2352→a ≠ 2576→hh a=.dead:=by
 subst hX
 have hc:sy p.exps q.exps 0=p.exps:=by simp [sy]
 rw [← hc] at k2576
 exact Mh vp vq c2 c3 c4 c8 c10 c11 c2352 p.exps.length 0 (Nat.zero_add _) s h g3 g4 g6 g8 g11 g13 g46 g47 g48 g53 g54 g55 g74 g75 g76 k2 k3 k4 k8 k10 k11 k2352 k2576
end Go.Ab
namespace Go.Ab
open Go Go.IntWalk
set_option maxRecDepth 4000
set_option maxHeartbeats 4000000
theorem ColE.stepN {v:Int} {l:List Rt} {t:Rt} {c:AV} (hc:mp c l) {e:Int} (he:e=0∨e=9) (N:Nat) (hC:e=0→Cl v l∧l.length+N+1≤1000000) (vt:VT v t) {v':Int} :
  ∃ c1 l1 e1,R F.poly_collector_add [.ref 1000 none 0 0 0,.sl 1 (aY t.exps),aF t.c] [t3 v' c e]=some (.tup [],[t3 v' c1 e1])∧mp c1 l1∧(e1=0∨e1=9)∧(e1=0→Cl v l1∧l1.length+N≤1000000)∧∀ ts c' l' e',ColE v l1 ts e1 c' l' e'→ColE v l (t::ts) e c' l' e':=by
 obtain ⟨c1,l1,e1,g1,g2,g3,g4,_⟩:=ColE.step (ts:=List.replicate N t) hc he (by rw [List.length_replicate]; exact hC) vt (v':=v')
 rw [List.length_replicate] at g4
 refine ⟨c1,l1,e1,g1,g2,g3,g4,fun ts c' l' e' h=>?_⟩
 rcases he with rfl | rfl
 ·obtain ⟨h1,h2⟩:=hC rfl
  obtain ⟨c2,l2,e2,k1,k2,k3⟩:=I7 (v':=v') h1 vt (by omega) hc
  rw [k1] at g1
  simp only [Option.some.injEq,Prod.mk.injEq,List.cons.injEq,and_true,true_and,t3,Ob.bx.injEq,AV.v.injEq,Value.int.injEq] at g1
  obtain ⟨rfl,rfl⟩:=g1
  have hl:l2=l1:=by
   rcases k2 with rfl | ⟨rfl,rfl⟩
   ·rcases g2 with g2 | ⟨g2,_⟩
    ·simp only [AV.osl.injEq,true_and] at g2
     have:=congrArg (List.map Dt) g2
     unfold ax at this
     rw [List.map_map,List.map_map] at this
     have hid:∀ l:List Rt,l.map (Dt ∘ bv)=l:=fun l=>(List.map_congr_left (g:=fun c=>c) fun x _=>EZ x).trans (List.map_id' l)
     rw [hid,hid] at this
     exact this
    ·cases g2
   ·rcases g2 with g2 | ⟨_,g2⟩
    ·cases g2
    ·exact g2.symm
  subst hl
  refine ⟨h.c,?_⟩
  rcases k3 with ⟨g,k⟩ | ⟨g,k,_⟩
  ·subst g
   rcases h.r with ⟨q1,_,q2⟩ | ⟨q1,q2⟩
   ·refine .inl ⟨q1,rfl,?_⟩
    unfold gV
    rw [k]
    exact q2
   ·refine .inr ⟨q1,fun _=>?_⟩
    unfold gV
    rw [k]
    exact q2 rfl
  ·subst g
   rcases h.r with ⟨_,q1,_⟩ | ⟨q1,_⟩
   ·omega
   ·refine .inr ⟨q1,fun _=>?_⟩
    unfold gV
    rw [k]
    rfl
 ·refine ⟨h.c,?_⟩
  have:=Ho (v:=v') (x:=.sl 1 (aY t.exps)) (d:=t.c) hc (by decide:(9:Int) ≠ 0)
  rw [this] at g1
  simp only [Option.some.injEq,Prod.mk.injEq,List.cons.injEq,and_true,true_and,t3,Ob.bx.injEq,AV.v.injEq,Value.int.injEq] at g1
  obtain ⟨_,rfl⟩:=g1
  rcases h.r with ⟨_,q1,_⟩ | ⟨q1,_⟩
  ·omega
  ·exact .inr ⟨q1,fun h=>by omega⟩
def vg (blk:Option (Ex × St)) (S:af) (o2 o3:Ob) (v v':Int) (l:List Rt) (e:Int):Option (List Rt)→Prop
 | some r=>∃ hh c' l' e',blk=some (.normal,⟨S,hh⟩)∧hh 2=o2∧hh 3=o3∧hh 4=.bx [I 0,.emp]∧hh 2352=t3 v' c' e'∧(∀ a,a ≠ 2→a ≠ 3→a ≠ 4→a ≠ 8→a ≠ 2352→hh a=.dead)∧ColE v l r e c' l' e'
 | none=>∃ hh,blk=some (.ret,⟨upd (upd (fun _=>.any) 5 (I 9)) 4 (.ref 4 none 0 0 0),hh⟩)∧hh 4=.bx [I 0,.emp]
theorem Mi {v v':Int} {p:Rt} (vp:VT v p) {A Bt:List Rt} (hB:∀ q ∈ Bt,VT v q∧bi p.exps+bi q.exps≤32) (hn:Bt.length≤100000) {nA iA:Int} {o2:Ob} (c2:∀ ids,aA ids o2=true) {vb:Int} :
  ∀ (k i:Nat),i+k=Bt.length→∀ (c:AV) (l:List Rt) (e:Int),mp c l→(e=0∨e=9)→(e=0→Cl v l∧l.length+k≤1000000)→∀ (s:af) (h:aa),s 3=.ref 3 none 0 0 0→s 4=.ref 4 none 0 0 0→s 6=.ref 2352 none 0 0 0→s 8=.ref 8 none 0 0 0→s 46=.sl 4 (ax A)→s 47=I nA→s 48=I iA→s 53=.sl 4 (ax Bt)→s 54=I Bt.length→s 55=I i→h 2=o2→h 3=.bx [I vb,.sl 4 (ax Bt)]→h 4=.bx [I 0,.emp]→h 8=.bx (bv p)→h 2352=t3 v' c e →
  vg (aI 3 [3,4,6,46,47,48] (aU (az R (ab false) fG) [3,4,6,8,46,47,48,53,54,55] [2,3,4,8,2352] s h)) (upd (upd (upd (upd (upd (upd (fun _=>.any) 48 (I iA)) 47 (I nA)) 46 (.sl 4 (ax A))) 6 (.ref 2352 none 0 0 0)) 4 (.ref 4 none 0 0 0)) 3 (.ref 3 none 0 0 0)) o2 (.bx [I vb,.sl 4 (ax Bt)]) v v' l e (gW p (Bt.drop i)):=by
 intro k
 induction k with
 | zero =>
  intro i hi c l e hc he hC s h g3 g4 g6 g8 g46 g47 g48 g53 g54 g55 k2 k3 k4 k8 k2352
  have e1:((i:Int) < (Bt.length:Int))=False:=ff (by omega)
  have ho:=(me (v:=v') (e:=e) hc).cl [2,3,4,8,2352]
  have ho2:=c2 [2,3,4,8,2352]
  rw [List.drop_eq_nil_of_le (by omega),aB]
  simp only [bv] at k8
  refine ⟨?hh0,c,l,e,?_,?_,?_,?_,?_,?_,⟨hc,?_⟩⟩
  rotate_left
  ·simp only [fG,go_sem,↓reduceIte,aee,aei,g3,g4,g6,g8,g46,g47,g48,g53,g54,g55,k2,k3,k4,k8,k2352,ho,ho2,e1]
   rfl
  ·rfl
  ·rfl
  ·rfl
  ·rfl
  ·intro a a1 a2 a3 a4 a5
   simp only [jc,a1,a2,a3,a4,a5,if_false]
  ·rcases he with rfl | rfl
   ·exact .inl ⟨rfl,rfl,rfl⟩
   ·exact .inr ⟨rfl,fun h=>by omega⟩
 | succ k ih =>
  intro i hi c l e hc he hC s h g3 g4 g6 g8 g46 g47 g48 g53 g54 g55 k2 k3 k4 k8 k2352
  have hlt:i < Bt.length:=by omega
  have e1:((i:Int) < (Bt.length:Int))=True:=tt (by omega)
  have e2:bH (ax Bt) (i:Int)=some (.ipt (bv Bt[i])):=jt rfl (List.getElem?_eq_getElem hlt)
  have e5:IntKind.i64.wrap ((i:Int)+1)=((i+1:Nat):Int):=wi (by omega) (by omega)
  have ho:=(me (v:=v') (e:=e) hc).cl
  obtain ⟨vq,hd⟩:=hB _ (List.getElem_mem hlt)
  have hmul:=Qo vp.c vq.c
  have hdl:(Bt.drop (i+1)).length=k:=by rw [List.length_drop]; omega
  rw [List.drop_eq_getElem_cons hlt]
  have ih':=ih (i+1) (by omega)
  have hrow:∀ q ts,gW p (q::ts)=(x3 p q).bind fun x=>(gW p ts).map (x::·):=fun q ts=>rfl
  rw [hrow]
  generalize hqq:Bt[i]=q at e2 vq hd hmul ⊢
  have hVT:=fun x=>Hu (x:=x) vp vq hd
  rw [aB]
  generalize aU _ _ _=L at ih' ⊢
  unfold x3 at hVT ⊢
  have ho1:=ho [2,3,4,8,2352]
  have ho2:=c2 [2,3,4,8,2352]
  have hle:=vp.l2 vq
  simp only [bv] at k8 e2
  generalize nv p.c q.c=m at hmul hVT ⊢
  obtain ⟨m,em⟩:=m
  simp only [rV,aF,aW] at hmul
  by_cases hm:em=0
  ·subst hm
   simp only [if_true,Option.bind_some] at hVT ⊢
   have vx:=hVT _ rfl
   obtain ⟨c1,l1,e1',s1,s2,s3,s4,s5⟩:=ColE.stepN (t:=⟨bQ p.exps q.exps,m⟩) hc he k (fun h=>by have:=hC h; exact ⟨this.1,by omega⟩) vx (v':=v')
   have ih2:=ih' c1 l1 e1' s2 s3 s4
   have hcall:=fun (h:aa) (hh:h 2352=t3 v' c e) (d:Nat)=>sw (gj false) rfl (Dr (d:=d) hh hc s2 s1)
   simp only [aF,aW] at hcall
   have hpush:∀ (S:af) (H:aa),vg (aI 3 [3,4,6,46,47,48] (L S H)) (upd (upd (upd (upd (upd (upd (fun _=>.any) 48 (I iA)) 47 (I nA)) 46 (.sl 4 (ax A))) 6 (.ref 2352 none 0 0 0)) 4 (.ref 4 none 0 0 0)) 3 (.ref 3 none 0 0 0)) o2 (.bx [I vb,.sl 4 (ax Bt)]) v v' l1 e1' (gW p (Bt.drop (i+1)))→vg (aI 3 [3,4,6,46,47,48] (L S H)) (upd (upd (upd (upd (upd (upd (fun _=>.any) 48 (I iA)) 47 (I nA)) 46 (.sl 4 (ax A))) 6 (.ref 2352 none 0 0 0)) 4 (.ref 4 none 0 0 0)) 3 (.ref 3 none 0 0 0)) o2 (.bx [I vb,.sl 4 (ax Bt)]) v v' l e ((gW p (Bt.drop (i+1))).map (⟨bQ p.exps q.exps,m⟩::·)):=fun S H h=>by
    cases hr:gW p (Bt.drop (i+1)) with
    | none=>rw [hr] at h; exact h
    | some r =>
     rw [hr] at h
     obtain ⟨hh,c',l',e',q1,q2,q3,q4,q5,q6,q7⟩:=h
     exact ⟨hh,c',l',e',q1,q2,q3,q4,q5,q6,s5 _ _ _ _ q7⟩
   cases hx:p.exps with
   | nil =>
    have hcl:R F.slices_Clone_int_int_ [lm []] []=some (lm [],[]):=Do
    have hq0:q.exps=[]:=List.length_eq_zero_iff.1 (by rw [← hle,hx]; rfl)
    rw [hx] at hpush
    rw [hx,hq0] at hcall
    rw [hx] at k8
    rw [hq0] at e2
    have i0:aY []=[]:=rfl
    have a0:bQ [] []=[]:=rfl
    have z0:((0:Int) < 0)=False:=ff (by decide)
    have ho2':=c2 [2,3,4,8,10,11,2352,2576]
    have ho1':=ho [2,3,4,8,10,11,2352,2576]
    rw [i0] at k8 e2
    rw [a0,i0,RW] at hcall
    simp only [fG,go_sem,↓reduceIte,aee,aeg,aef,aeh,aei,g3,g4,g6,g8,g46,g47,g48,g53,g54,g55,k2,k3,k4,k8,k2352,ho1,ho2,e1,e2,hmul,hcl,List.length_nil,Int.natCast_zero]
    rw [aB]
    simp only [ia,go_sem,↓reduceIte,aee,aeg,aef,aeh,aei,ho1',ho2',z0]
    rw [hcall _ rfl]
    simp only [go_sem,↓reduceIte,aee,aei,e5]
    refine hpush _ _ (ih2 _ _ rfl rfl rfl rfl rfl rfl rfl rfl rfl rfl rfl rfl rfl ?_ rfl)
    simp only [bv,hx]
    rfl
   | cons x xs =>
    have hcl:R F.slices_Clone_int_int_ [.sl 1 (aY p.exps)] []=some (.osl 1 (aY p.exps),[]):=by
     rw [hx]
     exact Dp (by have:=vp.ok.len; rw [hx] at this; simp at this; omega)
    rw [← hx]
    have hX0:=Sm vp vq (A:=A) (Bt:=Bt) (nA:=nA) (iA:=iA) (nB:=(Bt.length:Int)) (iB:=(i:Int)) (o2:=o2) (o3:=.bx [I vb,.sl 4 (ax Bt)]) (o4:=.bx [I 0,.emp]) (o8:=.bx [.sl 1 (aY p.exps),B p.c.neg,lm p.c.m,I p.c.e]) (o10:=.bx [.sl 1 (aY q.exps),B q.c.neg,lm q.c.m,I q.c.e]) (o11:=.bx [B m.neg,lm m.m,I m.e]) (o2352:=t3 v' c e)
    have k9:(aY (bQ p.exps q.exps)).take p.exps.length=aY (bQ p.exps q.exps):=List.take_of_length_le (by rw [tN,nD hle]; exact Nat.le_refl _)
    have k8l:(bQ p.exps q.exps).length=p.exps.length:=nD hle
    simp only [fG,go_sem,↓reduceIte,aee,aeg,aef,aeh,aei,g3,g4,g6,g8,g46,g47,g48,g53,g54,g55,k2,k3,k4,k8,k2352,ho1,ho2,e1,e2,hmul,hcl]
    generalize hXX:aI 5 _ _=X
    obtain ⟨hh,rfl,q2,q3,q4,q8,q10,q11,qc,q25,qd⟩:=hX0 _ _ _ hXX rfl rfl rfl rfl rfl rfl rfl rfl rfl rfl rfl rfl rfl rfl rfl rfl rfl rfl rfl rfl rfl rfl rfl (c2 _) rfl rfl rfl rfl rfl (ho _)
    simp only [go_sem,↓reduceIte,aee,aeg,aef,q11,q25,k9,k8l,Nat.zero_add,Nat.le_refl]
    rw [hcall (upd hh 2576 (.fz 1 (aY (bQ p.exps q.exps)))) (by rw [jc,if_neg (by decide)]; exact qc)]
    simp only [go_sem,↓reduceIte,aee,aei,e5]
    refine hpush _ _ (ih2 _ _ ?_ ?_ ?_ ?_ ?_ ?_ ?_ ?_ ?_ ?_ ?_ ?_ ?_ ?_ ?_)
    all_goals first | rfl | (simp only [jc,aee,↓reduceIte,q2,q3,q4,q8]; done) | (simp only [jc,aee,↓reduceIte,q8]; rfl)
  ·have f1:(em=0)=False:=ff hm
   simp only [if_neg hm,Option.bind_none]
   refine ⟨?hh1,?_,?_⟩
   rotate_left
   ·simp only [fG,go_sem,↓reduceIte,aee,aeg,aef,aeh,aei,g3,g4,g6,g8,g46,g47,g48,g53,g54,g55,k2,k3,k4,k8,k2352,ho1,ho2,e1,e2,hmul,f1]
    rfl
   ·rfl
end Go.Ab
namespace Go.Ab
open Go Go.IntWalk
set_option maxRecDepth 4000
set_option maxHeartbeats 4000000
theorem Sn {v v':Int} {p:Rt} (vp:VT v p) {A Bt:List Rt} (hB:∀ q ∈ Bt,VT v q∧bi p.exps+bi q.exps≤32) (hn:Bt.length≤100000) {nA iA:Int} {o2:Ob} (c2:∀ ids,aA ids o2=true) {vb:Int}
  {c:AV} {l:List Rt} {e:Int} (hc:mp c l) (he:e=0∨e=9) (hC:e=0→Cl v l∧l.length+Bt.length≤1000000) (s:af) (h:aa) (X:Option (Ex × St)) (hX:aI 3 [3,4,6,46,47,48] (aU (az R (ab false) fG) [3,4,6,8,46,47,48,53,54,55] [2,3,4,8,2352] s h)=X)
  (g3:s 3=.ref 3 none 0 0 0) (g4:s 4=.ref 4 none 0 0 0) (g6:s 6=.ref 2352 none 0 0 0) (g8:s 8=.ref 8 none 0 0 0) (g46:s 46=.sl 4 (ax A)) (g47:s 47=I nA) (g48:s 48=I iA) (g53:s 53=.sl 4 (ax Bt)) (g54:s 54=I Bt.length) (g55:s 55=I 0) (k2:h 2=o2) (k3:h 3=.bx [I vb,.sl 4 (ax Bt)]) (k4:h 4=.bx [I 0,.emp]) (k8:h 8=.bx [.sl 1 (aY p.exps),B p.c.neg,lm p.c.m,I p.c.e]) (k2352:h 2352=t3 v' c e) :
  vg X (upd (upd (upd (upd (upd (upd (fun _=>.any) 48 (I iA)) 47 (I nA)) 46 (.sl 4 (ax A))) 6 (.ref 2352 none 0 0 0)) 4 (.ref 4 none 0 0 0)) 3 (.ref 3 none 0 0 0)) o2 (.bx [I vb,.sl 4 (ax Bt)]) v v' l e (gW p Bt):=by
 subst hX
 exact Mi vp hB hn c2 Bt.length 0 (Nat.zero_add _) c l e hc he hC s h g3 g4 g6 g8 g46 g47 g48 g53 g54 g55 k2 k3 k4 k8 k2352
theorem ColE.app {v:Int} {l r r2:List Rt} {e:Int} {c1:AV} {l1:List Rt} {e1:Int} {c':AV} {l':List Rt} {e':Int} (h1:ColE v l r e c1 l1 e1) (h2:ColE v l1 r2 e1 c' l' e'):ColE v l (r++r2) e c' l' e':=by
 refine ⟨h2.c,?_⟩
 rw [Hm]
 rcases h1.r with ⟨a1,a2,a3⟩ | ⟨a1,a2⟩
 ·rw [a3]
  rcases h2.r with ⟨b1,b2,b3⟩ | ⟨b1,b2⟩
  ·exact .inl ⟨b1,a2,b3⟩
  ·exact .inr ⟨b1,fun _=>b2 a1⟩
 ·rcases h2.r with ⟨b1,b2,b3⟩ | ⟨b1,b2⟩
  ·omega
  ·exact .inr ⟨b1,fun h=>by rw [a2 h]; rfl⟩
theorem ColE.nx {v:Int} {l r:List Rt} {e:Int} {c1:AV} {l1:List Rt} {e1:Int} (h:ColE v l r e c1 l1 e1) (hC:e=0→Cl v l) (hr:∀ t ∈ r,VT v t):(e1=0∨e1=9)∧(e1=0→e=0∧Cl v l1∧l1.length≤l.length+r.length):=by
 rcases h.r with ⟨a1,a2,a3⟩ | ⟨a1,a2⟩
 ·exact ⟨.inl a1,fun _=>⟨a2,nR (hC a2) hr a3⟩⟩
 ·exact ⟨.inr a1,fun h=>by omega⟩
theorem Mj {v v':Int} {A Bt:List Rt} (hA:∀ p ∈ A,VT v p) (hB:∀ q ∈ Bt,VT v q) (hd:∀ p ∈ A,∀ q ∈ Bt,bi p.exps+bi q.exps≤32) (hn:Bt.length≤1000) (hm:A.length≤1000) {o2:Ob} (c2:∀ ids,aA ids o2=true) {vb:Int} :
  ∀ (k i:Nat),i+k=A.length→∀ (c:AV) (l:List Rt) (e:Int),mp c l→(e=0∨e=9)→(e=0→Cl v l∧l.length+k*Bt.length≤1000000)→∀ (s:af) (h:aa),s 3=.ref 3 none 0 0 0→s 4=.ref 4 none 0 0 0→s 6=.ref 2352 none 0 0 0→s 46=.sl 4 (ax A)→s 47=I A.length→s 48=I i→h 2=o2→h 3=.bx [I vb,.sl 4 (ax Bt)]→h 4=.bx [I 0,.emp]→h 2352=t3 v' c e →
  vg (aI 1 [4,6] (aU (az R (ab false) kt) [3,4,6,46,47,48] [2,3,4,2352] s h)) (upd (upd (fun _=>.any) 6 (.ref 2352 none 0 0 0)) 4 (.ref 4 none 0 0 0)) o2 (.bx [I vb,.sl 4 (ax Bt)]) v v' l e (fU (A.drop i) Bt):=by
 intro k
 induction k with
 | zero =>
  intro i hi c l e hc he hC s h g3 g4 g6 g46 g47 g48 k2 k3 k4 k2352
  have e1:((i:Int) < (A.length:Int))=False:=ff (by omega)
  have ho:=(me (v:=v') (e:=e) hc).cl [2,3,4,2352]
  have ho2:=c2 [2,3,4,2352]
  rw [List.drop_eq_nil_of_le (by omega),aB]
  refine ⟨?hh0,c,l,e,?_,?_,?_,?_,?_,?_,⟨hc,?_⟩⟩
  rotate_left
  ·simp only [kt,go_sem,↓reduceIte,aee,aei,g3,g4,g6,g46,g47,g48,k2,k3,k4,k2352,ho,ho2,e1]
   rfl
  ·rfl
  ·rfl
  ·rfl
  ·rfl
  ·intro a a1 a2 a3 a4 a5
   simp only [jc,a1,a2,a3,a5,if_false]
  ·rcases he with rfl | rfl
   ·exact .inl ⟨rfl,rfl,rfl⟩
   ·exact .inr ⟨rfl,fun h=>by omega⟩
 | succ k ih =>
  intro i hi c l e hc he hC s h g3 g4 g6 g46 g47 g48 k2 k3 k4 k2352
  have hlt:i < A.length:=by omega
  have e1:((i:Int) < (A.length:Int))=True:=tt (by omega)
  have e2:bH (ax A) (i:Int)=some (.ipt (bv A[i])):=jt rfl (List.getElem?_eq_getElem hlt)
  have e5:IntKind.i64.wrap ((i:Int)+1)=((i+1:Nat):Int):=wi (by omega) (by omega)
  have ho:=(me (v:=v') (e:=e) hc).cl
  have vp:=hA _ (List.getElem_mem hlt)
  have hdp:=hd _ (List.getElem_mem hlt)
  rw [List.drop_eq_getElem_cons hlt]
  have ih':=ih (i+1) (by omega)
  have hall:∀ q ts,fU (q::ts) Bt=(gW q Bt).bind fun r=>(fU ts Bt).map (r++·):=fun q ts=>rfl
  rw [hall]
  generalize A[i]=p at e2 vp hdp ⊢
  have hl1:=Sn vp (A:=A) (Bt:=Bt) (nA:=(A.length:Int)) (iA:=(i:Int)) (fun q hq=>⟨hB q hq,hdp q hq⟩) (by omega) c2 (vb:=vb) (v':=v') hc he (fun h=>by have:=hC h; rw [Nat.succ_mul] at this; exact ⟨this.1,by omega⟩)
  have hRV:=fun r=>xw (r:=r) vp (fun q hq=>⟨hB q hq,hdp q hq⟩)
  rw [aB]
  generalize aU _ _ _=L at ih' ⊢
  have ho1:=ho [2,3,4,2352]
  have ho2:=c2 [2,3,4,2352]
  simp only [bv] at e2
  simp only [kt,go_sem,↓reduceIte,aee,aeg,aef,aeh,aei,g3,g4,g6,g46,g47,g48,k2,k3,k4,k2352,ho1,ho2,e1,e2]
  generalize hXX:aI 3 _ _=X
  have hM:=hl1 _ _ _ hXX rfl rfl rfl rfl rfl rfl rfl rfl rfl rfl rfl rfl rfl rfl rfl
  cases hr:gW p Bt with
  | none =>
   rw [hr] at hM
   obtain ⟨hh,rfl,q4⟩:=hM
   refine ⟨hh,?_,q4⟩
   simp only [go_sem]
  | some r =>
   rw [hr] at hM
   obtain ⟨hh,c1,l1,e1',rfl,q2,q3,q4,qc,qd,qe⟩:=hM
   obtain ⟨w1,w2⟩:=hRV r hr
   obtain ⟨n1,n2⟩:=qe.nx (fun h=>(hC h).1) w1
   have ih2:=ih' c1 l1 e1' qe.c n1 (fun h=>by
    obtain ⟨m1,m2,m3⟩:=n2 h
    have:=(hC m1).2
    rw [Nat.succ_mul] at this
    exact ⟨m2,by omega⟩)
   simp only [Option.bind_some]
   have hpush:∀ (S:af) (H:aa),vg (aI 1 [4,6] (L S H)) (upd (upd (fun _=>.any) 6 (.ref 2352 none 0 0 0)) 4 (.ref 4 none 0 0 0)) o2 (.bx [I vb,.sl 4 (ax Bt)]) v v' l1 e1' (fU (A.drop (i+1)) Bt)→vg (aI 1 [4,6] (L S H)) (upd (upd (fun _=>.any) 6 (.ref 2352 none 0 0 0)) 4 (.ref 4 none 0 0 0)) o2 (.bx [I vb,.sl 4 (ax Bt)]) v v' l e ((fU (A.drop (i+1)) Bt).map (r++·)):=fun S H h=>by
    cases hr2:fU (A.drop (i+1)) Bt with
    | none=>rw [hr2] at h; exact h
    | some r2 =>
     rw [hr2] at h
     obtain ⟨hh,c',l',e',q1,q2,q3,q4,q5,q6,q7⟩:=h
     exact ⟨hh,c',l',e',q1,q2,q3,q4,q5,q6,qe.app q7⟩
   simp only [go_sem,↓reduceIte,aee,e5]
   refine hpush _ _ (ih2 _ _ ?_ ?_ ?_ ?_ ?_ ?_ ?_ ?_ ?_ ?_)
   all_goals first | rfl | assumption
end Go.Ab
namespace Go.Ab
open Go Go.IntWalk
set_option maxRecDepth 4000
set_option maxHeartbeats 4000000
theorem So {v v':Int} {A Bt:List Rt} (hA:∀ p ∈ A,VT v p) (hB:∀ q ∈ Bt,VT v q) (hd:∀ p ∈ A,∀ q ∈ Bt,bi p.exps+bi q.exps≤32) (hn:Bt.length≤500) (hm:A.length≤500) {o2:Ob} (c2:∀ ids,aA ids o2=true) {vb:Int}
  (s:af) (h:aa) (X:Option (Ex × St)) (hX:aI 1 [4,6] (aU (az R (ab false) kt) [3,4,6,46,47,48] [2,3,4,2352] s h)=X) (g3:s 3=.ref 3 none 0 0 0) (g4:s 4=.ref 4 none 0 0 0) (g6:s 6=.ref 2352 none 0 0 0) (g46:s 46=.sl 4 (ax A)) (g47:s 47=I A.length) (g48:s 48=I 0) (k2:h 2=o2) (k3:h 3=.bx [I vb,.sl 4 (ax Bt)]) (k4:h 4=.bx [I 0,.emp]) (k2352:h 2352=.bx [I v',.emp,I 0]) :
  vg X (upd (upd (fun _=>.any) 6 (.ref 2352 none 0 0 0)) 4 (.ref 4 none 0 0 0)) o2 (.bx [I vb,.sl 4 (ax Bt)]) v v' [] 0 (fU A Bt):=by
 subst hX
 exact Mj hA hB hd (by omega) (by omega) c2 A.length 0 (Nat.zero_add _) .emp [] 0 (.inr ⟨rfl,rfl⟩) (.inl rfl) (fun _=>⟨Cl.nil _,by
  have:A.length*Bt.length≤500*500:=Nat.mul_le_mul hm hn
  show 0+_≤_
  omega⟩) s h g3 g4 g6 g46 g47 g48 k2 k3 k4 k2352
theorem Sp {v:Int} {t:Rt} (h:VT v t):0≤bi t.exps:=(CE fun x hx=>(h.b x hx).1).1
theorem Ji {a:Rp} (oa:OkP a):-1≤iM a∧iM a≤32:=by
 unfold iM
 split
 ·rename_i h
  cases hg:a.terms.getLast? with
  | none=>simp
  | some t =>
   have vt:=(dH oa h).1.t t (List.mem_of_getLast? hg)
   have:=Sp vt
   have:=vt.d
   simp only []
   omega
 ·omega
theorem QH {a b:Rp} (oa:OkP a) (ob:OkP b):R F.poly_Mul [aZ a,aZ b] []=some (pV (bX a b),[]):=by
 refine aX Kp Ko (vL false) rfl ?_
 have hp:=CJ oa ob
 have hda:=Di oa
 have hdb:=Di ob
 have bda:=Ji oa
 have bdb:=Ji ob
 simp only [aZ] at hp hda hdb
 unfold bX
 cases hb:m6 a b with
 | false =>
  rw [hb] at hp
  rw [if_neg Bool.false_ne_true]
  simp only [gq,lS,aZ,go_sem,↓reduceIte,aee,aeg,aef,aeh,aej,hp]
  rfl
 | true =>
  rw [hb] at hp
  rw [if_pos rfl]
  obtain ⟨va,vb,hv⟩:=fu.1 hb
  obtain ⟨ka,a0,a8,al⟩:=dH oa va
  obtain ⟨kb,b0,b8,bl⟩:=dH ob vb
  rw [← hv] at kb
  have w1:IntKind.i64.wrap (iM a+iM b)=iM a+iM b:=i64_in _ ⟨by omega,by omega⟩
  by_cases hd:a.terms.length ≠ 0∧b.terms.length ≠ 0∧32 < iM a+iM b
  ·rw [if_pos hd]
   have e1:(0 < (a.terms.length:Int))=True:=tt (by omega)
   have e2:(0 < (b.terms.length:Int))=True:=tt (by omega)
   have e3:(32 < iM a+iM b)=True:=eq_true hd.2.2
   simp only [gq,lS,aZ,go_sem,↓reduceIte,aee,aeg,aef,aeh,aej,aei,hp,hda,hdb,w1,e1,e2,e3]
   rfl
  ·rw [if_neg hd]
   have hf:=Ae oa ob va vb hd
   have hemp:=HA (v:=a.vars)
   have hl:=So (v':=a.vars) (A:=a.terms) (Bt:=b.terms) ka.t kb.t hf (by omega) (by omega) (o2:=.bx [I a.vars,.sl 4 (ax a.terms)]) (fun _=>rfl) (vb:=b.vars)
   have fin:∀ X:Option (Ex × St),vg X (upd (upd (fun _=>.any) 6 (.ref 2352 none 0 0 0)) 4 (.ref 4 none 0 0 0)) (.bx [I a.vars,.sl 4 (ax a.terms)]) (.bx [I b.vars,.sl 4 (ax b.terms)]) a.vars a.vars [] 0 (fU a.terms b.terms) →
     rk false [[.o 0 [],.o 5 [.o 2 [],.o 0 [],.o 2 [],.o 0 []]],[]] [.cell 4 2 true,.t 5] 0 (dD X (az R (ab false) (.seq (.ops [4,5] [cm 95 6,ca 96 F.poly_collector_done [.t 95],co 97 (.ext 0 (.t 96)),co 98 (.ext 1 (.t 96)),sr 2 (.t 4) (.t 97),cm 5 98]) .ret)))=some (pV (ki a.vars ((fU a.terms b.terms).bind (gV []))),[]):=by
    intro X hM
    cases hr:fU a.terms b.terms with
    | none =>
     rw [hr] at hM
     obtain ⟨hh,rfl,q4⟩:=hM
     simp only [Option.bind_none,ki,pV,p0,aZ,go_sem,↓reduceIte,aee,aeg,aef,aeh,q4]
     rfl
    | some r =>
     rw [hr] at hM
     obtain ⟨hh,c',l',e',rfl,q2,q3,q4,qc,qd,qe⟩:=hM
     obtain ⟨o,hdn⟩:=Ds (d:=96) qc qe.c (by simp [cx,qd,cD])
     have hd':=sw (fy false) rfl hdn
     rw [qe.fin] at hd'
     rw [Option.bind_some]
     generalize ki a.vars (gV [] r)=z at hd' ⊢
     obtain ⟨z1,z2⟩:=z
     simp only [pV,aZ] at hd'
     simp only [pV,aZ,go_sem,↓reduceIte,aee,aeg,aef,aeh,aei,q4,hd']
   by_cases h1:a.terms.length=0
   ·have e1:(0 < (a.terms.length:Int))=False:=ff (by omega)
    simp only [gq,lS,aZ,go_sem,↓reduceIte,aee,aeg,aef,aeh,aej,hp,e1,hemp,sx]
    generalize hX:aI 1 _ _=X
    exact fin X (hl _ _ _ hX rfl rfl rfl rfl rfl rfl rfl rfl rfl rfl)
   ·have e1:(0 < (a.terms.length:Int))=True:=tt (by omega)
    by_cases h2:b.terms.length=0
    ·have e2:(0 < (b.terms.length:Int))=False:=ff (by omega)
     simp only [gq,lS,aZ,go_sem,↓reduceIte,aee,aeg,aef,aeh,aej,hp,e1,e2,hemp,sx]
     generalize hX:aI 1 _ _=X
     exact fin X (hl _ _ _ hX rfl rfl rfl rfl rfl rfl rfl rfl rfl rfl)
    ·have e2:(0 < (b.terms.length:Int))=True:=tt (by omega)
     have e3:(32 < iM a+iM b)=False:=eq_false fun h=>hd ⟨h1,h2,h⟩
     simp only [gq,lS,aZ,go_sem,↓reduceIte,aee,aeg,aef,aeh,aej,aei,hp,hda,hdb,w1,e1,e2,e3,hemp,sx]
     generalize hX:aI 1 _ _=X
     exact fin X (hl _ _ _ hX rfl rfl rfl rfl rfl rfl rfl rfl rfl rfl)
end Go.Ab
namespace Go.Ab
open Go Go.IntWalk
set_option maxRecDepth 4000
set_option maxHeartbeats 2000000
end Go.Ab
namespace Go.Ab
open Go Go.IntWalk
set_option maxRecDepth 4000
set_option maxHeartbeats 4000000
def XV (x:AV) (l:List Rt):Prop:=x=.sl 4 (ax l)∨(x=.emp∧l=[])
theorem XV.keep {x:AV} {l:List Rt} (h:XV x l) (hs:List Nat):ez hs x=x:=by
 rcases h with rfl | ⟨rfl,_⟩ <;> rfl
end Go.Ab
namespace Go.Ab
open Go Go.IntWalk
set_option maxRecDepth 4000
set_option maxHeartbeats 4000000
end Go.Ab
namespace Go.Ab
open Go Go.IntWalk
set_option maxRecDepth 4000
set_option maxHeartbeats 1000000
def qC:List Int→List Int→Bool
 | [],[]=>true
 | x::xs,y::ys=>decide (x=y) && qC xs ys
 | _,_=>false
theorem Mk:∀ {a b:List Int},qC a b=true↔a=b
 | [],[]=>by simp [qC]
 | x::a,y::b=>by simp [qC,Mk]
 | [],_::_=>by simp [qC]
 | _::_,[]=>by simp [qC]
theorem Jj:∀ {a b:List Int},a.length ≠ b.length→qC a b=false
 | [],[],h=>absurd rfl h
 | x::a,y::b,h=>by
  unfold qC
  rw [Jj (fun e=>h (by simp [e])),Bool.and_false]
 | [],_::_,_=>rfl
 | _::_,[],_=>rfl
theorem Oz {a b:List Int} (hl:a.length=b.length) (h2:a.length≤100000):∀ (k i:Nat),i+k=a.length→∀ (s:af) (h:aa),s 0=.sl 1 (aY a)→s 1=.sl 1 (aY b)→s 12=I a.length→s 13=I i →
  ∃ hh,aI 0 [] (aU (az R (ab false) bT) [0,1,12,13] [] s h)=if qC (a.drop i) (b.drop i)=true then some (.normal,⟨fun _=>.any,hh⟩) else some (.ret,⟨upd (fun _=>.any) 4 (B false),hh⟩):=by
 intro k
 induction k with
 | zero =>
  intro i hi s h g0 g1 g12 g13
  have e1:((i:Int) < a.length)=False:=ff (by omega)
  rw [List.drop_eq_nil_of_le (by omega),List.drop_eq_nil_of_le (by omega),aB]
  refine ⟨?hh0,?_⟩
  rotate_left
  ·simp only [bT,qC,go_sem,↓reduceIte,aee,g0,g1,g12,g13,e1]
   rfl
 | succ k ih =>
  intro i hi s h g0 g1 g12 g13
  have hlt:i < a.length:=by omega
  have hlt2:i < b.length:=by omega
  have e1:((i:Int) < a.length)=True:=tt (by omega)
  have e2:bH (aY a) (i:Int)=some (.ipt [I a[i]]):=qY rfl (List.getElem?_eq_getElem hlt)
  have e3:bH (aY b) (i:Int)=some (.ipt [I b[i]]):=qY rfl (List.getElem?_eq_getElem hlt2)
  have e5:IntKind.i64.wrap ((i:Int)+1)=((i+1:Nat):Int):=wi (by omega) (by omega)
  have ih':=ih (i+1) (by omega)
  rw [List.drop_eq_getElem_cons hlt,List.drop_eq_getElem_cons hlt2,aB]
  generalize a[i]=p at e2 ⊢
  generalize b[i]=q at e3 ⊢
  generalize aU _ _ _=L at ih' ⊢
  unfold qC
  by_cases hpq:p=q
  ·have e4:(p=q)=True:=eq_true hpq
   rw [decide_eq_true hpq,Bool.true_and]
   simp only [bT,go_sem,↓reduceIte,aee,g0,g1,g12,g13,e1,e2,e3,e4,e5]
   exact ih' _ _ rfl rfl rfl rfl
  ·have e4:(p=q)=False:=eq_false hpq
   rw [decide_eq_false hpq,Bool.false_and]
   simp only [if_neg Bool.false_ne_true]
   refine ⟨?hh1,?_⟩
   rotate_left
   ·simp only [bT,go_sem,↓reduceIte,aee,g0,g1,g12,g13,e1,e2,e3,e4]
    rfl
theorem U9 {a b:List Int} (hl:a.length=b.length) (h2:a.length≤100000) (s:af) (h:aa) (X:Option (Ex × St)) (hX:aI 0 [] (aU (az R (ab false) bT) [0,1,12,13] [] s h)=X) (g0:s 0=.sl 1 (aY a)) (g1:s 1=.sl 1 (aY b)) (g12:s 12=I a.length) (g13:s 13=I 0) :
  ∃ hh,X=if qC a b=true then some (.normal,⟨fun _=>.any,hh⟩) else some (.ret,⟨upd (fun _=>.any) 4 (B false),hh⟩):=by
 subst hX
 exact Oz hl h2 a.length 0 (Nat.zero_add _) s h g0 g1 g12 g13
theorem Sq {a b:List Int} (h2:a.length≤100000):R F.slices_Equal_int_int_ [.sl 1 (aY a),.sl 1 (aY b)] []=some (B (qC a b),[]):=by
 refine aX rT rS (qA false) rfl ?_
 by_cases h3:a.length=b.length
 ·have e3:((a.length:Int)=(b.length:Int))=True:=tt (by omega)
  have hl:=U9 (a:=a) (b:=b) h3 h2
  simp only [db,hJ,go_sem,↓reduceIte,aee,e3]
  generalize hX:aI 0 [] _=X
  obtain ⟨hh,rfl⟩:=hl _ _ _ hX rfl rfl rfl rfl
  cases qC a b with
  | true=>simp only [go_sem,↓reduceIte]
  | false=>simp only [go_sem,↓reduceIte]
 ·have e3:((a.length:Int)=(b.length:Int))=False:=ff (by omega)
  rw [Jj h3]
  simp only [db,hJ,go_sem,↓reduceIte,aee,e3]
def KE (x y:Rd):Int:=if vd x=true∧vd y=true then dM (zI x) (zI y) else 0
def Ml (x y:Rt):Bool:=qC x.exps y.exps && decide (KE x.c y.c=0)
theorem Sr {x y:Rt} (ox:OkT x) (oy:OkT y):R F.poly_Equal_1 [.agg (bv x),.agg (bv y)] []=some (B (Ml x y),[]):=by
 refine aX Ch Cg (ye false) rfl ?_
 have h1:=Sq (a:=x.exps) (b:=y.exps) (ox.len)
 have h2:=Qf ox.c oy.c
 have h3:(if vd x.c=true∧vd y.c=true then dM (zI x.c) (zI y.c) else 0)=KE x.c y.c:=rfl
 rw [h3] at h2
 simp only [aF,aW] at h2
 unfold Ml
 cases he:qC x.exps y.exps with
 | true =>
  rw [he] at h1
  rw [Bool.true_and]
  simp only [iw,pn,bv,go_sem,↓reduceIte,aee,aeg,aef,aeh,h1,h2]
 | false =>
  rw [he] at h1
  rw [Bool.false_and]
  simp only [iw,pn,bv,go_sem,↓reduceIte,aee,aeg,aef,h1]
def rN:List Rt→List Rt→Bool
 | [],[]=>true
 | x::xs,y::ys=>Ml x y && rN xs ys
 | _,_=>false
theorem Jk:∀ {a b:List Rt},a.length ≠ b.length→rN a b=false
 | [],[],h=>absurd rfl h
 | x::a,y::b,h=>by
  unfold rN
  rw [Jk (fun e=>h (by simp [e])),Bool.and_false]
 | [],_::_,_=>rfl
 | _::_,[],_=>rfl
theorem OA {a b:List Rt} (ha:∀ t ∈ a,OkT t) (hb:∀ t ∈ b,OkT t) (hl:a.length=b.length) (h2:a.length≤100000):∀ (k i:Nat),i+k=a.length→∀ (s:af) (h:aa),s 1=.sl 4 (ax b)→s 2=.fn F.poly_Equal_1 [] []→s 15=.sl 4 (ax a)→s 16=I a.length→s 17=I i →
  ∃ hh,aI 0 [] (aU (az R (ab false) aC) [1,2,15,16,17] [] s h)=if rN (a.drop i) (b.drop i)=true then some (.normal,⟨fun _=>.any,hh⟩) else some (.ret,⟨upd (fun _=>.any) 6 (B false),hh⟩):=by
 intro k
 induction k with
 | zero =>
  intro i hi s h g1 g2 g15 g16 g17
  have e1:((i:Int) < a.length)=False:=ff (by omega)
  rw [List.drop_eq_nil_of_le (by omega),List.drop_eq_nil_of_le (by omega),aB]
  refine ⟨?hh0,?_⟩
  rotate_left
  ·simp only [aC,rN,go_sem,↓reduceIte,aee,g1,g2,g15,g16,g17,e1]
   rfl
 | succ k ih =>
  intro i hi s h g1 g2 g15 g16 g17
  have hlt:i < a.length:=by omega
  have hlt2:i < b.length:=by omega
  have e1:((i:Int) < a.length)=True:=tt (by omega)
  have e2:bH (ax a) (i:Int)=some (.ipt (bv a[i])):=jt rfl (List.getElem?_eq_getElem hlt)
  have e3:bH (ax b) (i:Int)=some (.ipt (bv b[i])):=jt rfl (List.getElem?_eq_getElem hlt2)
  have e5:IntKind.i64.wrap ((i:Int)+1)=((i+1:Nat):Int):=wi (by omega) (by omega)
  have ih':=ih (i+1) (by omega)
  have vx:=ha _ (List.getElem_mem hlt)
  have vy:=hb _ (List.getElem_mem hlt2)
  rw [List.drop_eq_getElem_cons hlt,List.drop_eq_getElem_cons hlt2,aB]
  generalize a[i]=x at e2 vx ⊢
  generalize b[i]=y at e3 vy ⊢
  generalize aU _ _ _=L at ih' ⊢
  have hc:=Sr vx vy
  unfold rN
  simp only [bv] at e2 e3 hc
  cases hn:Ml x y with
  | true =>
   rw [hn] at hc
   rw [Bool.true_and]
   simp only [aC,go_sem,↓reduceIte,aee,aeg,aef,aeh,g1,g2,g15,g16,g17,e1,e2,e3,hc,e5]
   exact ih' _ _ rfl rfl rfl rfl rfl
  | false =>
   rw [hn] at hc
   rw [Bool.false_and]
   simp only [if_neg Bool.false_ne_true]
   refine ⟨?hh1,?_⟩
   rotate_left
   ·simp only [aC,go_sem,↓reduceIte,aee,aeg,aef,aeh,g1,g2,g15,g16,g17,e1,e2,e3,hc]
    rfl
theorem Va {a b:List Rt} (ha:∀ t ∈ a,OkT t) (hb:∀ t ∈ b,OkT t) (hl:a.length=b.length) (h2:a.length≤100000) (s:af) (h:aa) (X:Option (Ex × St)) (hX:aI 0 [] (aU (az R (ab false) aC) [1,2,15,16,17] [] s h)=X) (g1:s 1=.sl 4 (ax b)) (g2:s 2=.fn F.poly_Equal_1 [] []) (g15:s 15=.sl 4 (ax a)) (g16:s 16=I a.length) (g17:s 17=I 0) :
  ∃ hh,X=if rN a b=true then some (.normal,⟨fun _=>.any,hh⟩) else some (.ret,⟨upd (fun _=>.any) 6 (B false),hh⟩):=by
 subst hX
 exact OA ha hb hl h2 a.length 0 (Nat.zero_add _) s h g1 g2 g15 g16 g17
theorem Ss {a b:List Rt} (ha:∀ t ∈ a,OkT t) (hb:∀ t ∈ b,OkT t) (h2:a.length≤100000):R F.slices_EqualFunc_api_Term_Sapi_Term_api_Term_api_Term_ [.sl 4 (ax a),.sl 4 (ax b),.fn F.poly_Equal_1 [] []] []=some (B (rN a b),[]):=by
 refine aX eS eR (eg false) rfl ?_
 by_cases h3:a.length=b.length
 ·have e3:((a.length:Int)=(b.length:Int))=True:=tt (by omega)
  have hl:=Va ha hb h3 h2
  simp only [aL,br,go_sem,↓reduceIte,aee,e3]
  generalize hX:aI 0 [] _=X
  obtain ⟨hh,rfl⟩:=hl _ _ _ hX rfl rfl rfl rfl rfl
  cases rN a b with
  | true=>simp only [go_sem,↓reduceIte]
  | false=>simp only [go_sem,↓reduceIte]
 ·have e3:((a.length:Int)=(b.length:Int))=False:=ff (by omega)
  rw [Jk h3]
  simp only [aL,br,go_sem,↓reduceIte,aee,e3]
def yK (a b:Rp):Bool:=((vp a && vp b) && decide (a.vars=b.vars)) && rN a.terms b.terms
theorem pK {a b:Rp} (oa:OkP a) (ob:OkP b):R F.poly_Equal [aZ a,aZ b] []=some (B (yK a b),[]):=by
 refine aX Gi Gh (A3 false) rfl ?_
 have v1:=nQ oa
 have v2:=nQ ob
 simp only [aZ] at v1 v2
 unfold yK
 cases va:vp a with
 | false =>
  rw [va] at v1
  simp only [Bool.false_and]
  simp only [fF,lz,aZ,go_sem,↓reduceIte,aee,aeg,aef,aeh,v1]
 | true =>
  rw [va] at v1
  cases vb:vp b with
  | false =>
   rw [vb] at v2
   simp only [Bool.false_and,Bool.and_false]
   simp only [fF,lz,aZ,go_sem,↓reduceIte,aee,aeg,aef,aeh,v1,v2]
  | true =>
   rw [vb] at v2
   rw [Bool.true_and,Bool.true_and]
   by_cases hv:a.vars=b.vars
   ·have e1:(a.vars=b.vars)=True:=eq_true hv
    have hl:=Ss oa.t ob.t (by have:=(KA va).2.2.1; omega)
    rw [decide_eq_true hv,Bool.true_and]
    simp only [fF,lz,aZ,go_sem,↓reduceIte,aee,aeg,aef,aeh,v1,v2,e1,hl]
   ·have e1:(a.vars=b.vars)=False:=eq_false hv
    rw [decide_eq_false hv,Bool.false_and]
    simp only [fF,lz,aZ,go_sem,↓reduceIte,aee,aeg,aef,aeh,v1,v2,e1]
theorem QI {x y:Rd} (ox:Ok0 x) (oy:Ok0 y) (vx:vd x=true) (vy:vd y=true):KE x y=0↔x=y:=by
 unfold KE
 rw [if_pos ⟨vx,vy⟩]
 constructor
 ·intro h
  exact LY ox oy vx vy (by rcases kh (zI x) (zI y) with h1 | h1 | h1 <;> omega)
 ·rintro rfl
  rcases kh (zI x) (zI x) with h1 | h1 | h1 <;> omega
theorem HD {v w:Int}:∀ {a b:List Rt},(∀ t ∈ a,VT v t)→(∀ t ∈ b,VT w t)→(rN a b=true↔a=b)
 | [],[],_,_=>by simp [rN]
 | x::a,y::b,ha,hb=>by
  have ih:=HD (a:=a) (b:=b) (fun t ht=>ha t (by simp [ht])) (fun t ht=>hb t (by simp [ht]))
  have vx:=ha x (by simp)
  have vy:=hb y (by simp)
  unfold rN Ml
  rw [Bool.and_eq_true,Bool.and_eq_true,decide_eq_true_eq,QI vx.c vy.c vx.vc vy.vc,Mk,ih]
  constructor
  ·rintro ⟨⟨h1,h2⟩,rfl⟩
   cases x
   cases y
   cases h1
   cases h2
   rfl
  ·intro h
   cases h
   exact ⟨⟨rfl,rfl⟩,rfl⟩
 | [],_::_,_,_=>by simp [rN]
 | _::_,[],_,_=>by simp [rN]
theorem tW {a b:Rp} (oa:OkP a) (ob:OkP b):yK a b=true↔vp a=true∧vp b=true∧a=b:=by
 unfold yK
 rw [Bool.and_eq_true,Bool.and_eq_true,Bool.and_eq_true,decide_eq_true_eq]
 constructor
 ·rintro ⟨⟨⟨va,vb⟩,hv⟩,hl⟩
  have h:=(HD (dH oa va).1.t (dH ob vb).1.t).1 hl
  refine ⟨va,vb,?_⟩
  cases a
  cases b
  cases hv
  cases h
  rfl
 ·rintro ⟨va,vb,rfl⟩
  exact ⟨⟨⟨va,va⟩,rfl⟩,(HD (dH oa va).1.t (dH oa va).1.t).2 rfl⟩
end Go.Ab
namespace Go.Ab
open Go Go.IntWalk
set_option maxRecDepth 4000
set_option maxHeartbeats 2000000
theorem Su {f:FuncId} {fd:FD} {args:List AV} {o:Ob} {r:AV × List Ob} (hE:au.E f=none) (hC:au.C f=some fd) (hk:au.md.keep f=true) (h1:args.length=fd.np)
  (hz:rk true fd.rs fd.res 1 (az R (ab true) fd.body (pf args) (upd (fun _=>.dead) 1000 o))=some r):R f args [o]=some r:=by
 refine Gd true hE hC hk h1 (by simp) ?_
 rw [Hn]
 exact hz
theorem Mm {f:FuncId} {h:aa} {d id:Nat} {zas as':List AV} {o o':Ob} {res:AV} (hm:(ab false).m f=[]) (hk:(ab false).keep f=true) (hn:aM ((ab false).sh f) (zas++[.ref id none 0 0 0])=as'++[.ref id none 0 0 0]) (hd:zas.all dat=true) (hd':as'.all dat=true)
  (hh:h id=o) (ho:OC o) (ho':OC o') (hb:bf o=true→bf o'=true) (hR:R f (as'++[.ref 1000 none 0 0 0]) [o]=some (res,[o'])) (hr:RT res) (h8:cf res≤8) (hfr:cx h (2000+8*d) (cf res)=true) :
  ai R (ab false) h d zas (.fn f [] [.ref id none 0 0 0])=some (res,upd h id o',[]):=by
 have hin:∀ l:List AV,l.all dat=true→ah h [] (l++[.ref id none 0 0 0])=some (l++[.ref id none 0 0 0],h,[]):=by
  intro l
  induction l with
  | nil=>intro _; rfl
  | cons x l ih =>
   intro h2
   simp only [List.all_cons,Bool.and_eq_true] at h2
   simp only [List.cons_append,ah,List.headD_nil,Mb h2.1,Option.bind_some,List.tail_nil,ih h2.2,List.append_nil]
 have h1:=hin zas hd
 have hp:bo [] ((zas++[AV.ref id none 0 0 0]).flatMap bk)=[id]:=by
  rw [List.flatMap_append,u9 fun x hx=>Jd (List.all_eq_true.1 hd x hx)]
  rfl
 have hre:bJ h 40 [id] 0=[id]:=by
  simp [bJ,hh,ho.ids,bo]
 have h3:aV [id] id=1000:=by simp [aV]
 have hall:(as'++[AV.ref id none 0 0 0]).all (aJ [id])=true:=by
  rw [List.all_append,Bool.and_eq_true]
  exact ⟨List.all_eq_true.2 fun x hx=>Ma (List.all_eq_true.1 hd' x hx) _,by simp [aJ,aO]⟩
 have hmap:(as'++[AV.ref id none 0 0 0]).map (cQ (aV [id]))=as'++[.ref 1000 none 0 0 0]:=by
  rw [List.map_append,(List.map_congr_left (g:=fun c=>c) fun x hx=>Je (List.all_eq_true.1 hd' x hx) _).trans (List.map_id' as')]
  simp [cQ,fV,h3]
 have hob:([id].map fun a=>cC (aV [id]) (h a))=[o]:=by simp [hh,ho.ren]
 have hids:([id].all fun a=>aA [id] (h a) && !cD (h a))=true:=by simp [hh,ho.cl,ho.nd]
 unfold ai
 rw [if_neg (by simp [jG,hm])]
 simp only [dq,hm,List.nil_append,h1,Option.bind_some,hp,hre,hn]
 unfold jF
 rw [hall,hids,hmap,hob,hR,Bool.and_self,if_pos rfl,Option.bind_some,hk,hm,CI]
 unfold dZ
 have hbf:cU h [] [id] [o']=true:=by
  have:=ho'.nd
  cases h5:bf o with
  | false=>simp [cU,hh,h5,this]
  | true=>simp [cU,hh,h5,hb h5,this]
 have hend:mP h [id] [] (res,[o'])=true:=by
  simp [mP,uq,hr.ok,ho'.cl]
 rw [if_pos ⟨rfl,by simp,h8,hfr,hbf,hend⟩]
 simp [cz,dC,hr.mat,hr.ren,ho'.ren]
theorem Vb (a:Rp):RT (aZ a):=⟨fun _=>rfl,fun _ _=>rfl,fun _=>rfl⟩
theorem Sv (b:Bool):OC (.bx [B b]):=⟨fun _=>rfl,rfl,fun _=>rfl,rfl⟩
theorem HE {a:Rp}:kP (aM [[.o 0 [],.o 5 [.o 2 [],.o 0 [],.o 2 [],.o 0 []]]] [.agg [I a.vars,.sl 4 (ax a.terms)]])=aZ a:=by
 have h:=tO a.terms
 show AV.agg [I a.vars,.sl 4 ((ax a.terms).map _)]=_
 rw [h]
 rfl
theorem Vc {g:FuncId} {x y:Rp} {r:Rp × Int} {b:Bool} (kc:∀ b h d zas,ai R (ab b) h d zas (.fn g [] [])=(ah h [] zas).bind (aD R (ab b) d g)) (km:∀ b,(ab b).m g=[]) (ks:∀ b,(ab b).sh g=[[.o 0 [],.o 5 [.o 2 [],.o 0 [],.o 2 [],.o 0 []]],[.o 0 [],.o 5 [.o 2 [],.o 0 [],.o 2 [],.o 0 []]]]) (kk:∀ b,(ab b).keep g=false) (hc:R g [aZ x,aZ y] []=some (pV r,[])) :
  R F.l23_PolyRing_1 [.fn g [] [],aZ x,aZ y,.ref 1000 none 0 0 0] [.bx [B b]]=some (aZ r.1,[.bx [B (b && decide (r.2=0))]]):=by
 refine Su yW yV (o7 false) rfl ?_
 obtain ⟨r1,r2⟩:=r
 simp only [pV,aZ] at hc
 cases b with
 | true =>
  by_cases he:r2=0
  ·subst he
   simp only [ed,jO,aZ,go_sem,↓reduceIte,aee,aeg,aef,aeh,hc,kc,km,ks]
   exact ve rfl (by rfl) rfl (by rfl) HE
  ·have e1:(r2=0)=False:=eq_false he
   rw [decide_eq_false he]
   simp only [ed,jO,aZ,go_sem,↓reduceIte,aee,aeg,aef,aeh,hc,kc,km,ks,e1]
   exact ve rfl (by rfl) rfl (by rfl) HE
 | false =>
  rw [Bool.false_and]
  simp only [ed,jO,aZ,go_sem,↓reduceIte,aee,aeg,aef,aeh,hc,kc,km,ks]
  exact ve rfl (by rfl) rfl (by rfl) HE
theorem CK {g:FuncId} {x y:Rp} {r:Rp × Int} (kc:∀ b h d zas,ai R (ab b) h d zas (.fn g [] [])=(ah h [] zas).bind (aD R (ab b) d g)) (km:∀ b,(ab b).m g=[]) (ks:∀ b,(ab b).sh g=[[.o 0 [],.o 5 [.o 2 [],.o 0 [],.o 2 [],.o 0 []]],[.o 0 [],.o 5 [.o 2 [],.o 0 [],.o 2 [],.o 0 []]]]) (kk:∀ b,(ab b).keep g=false) (hc:R g [aZ x,aZ y] []=some (pV r,[])) (b:Bool) (h:aa) (d:Nat) (h7:h 7=.bx [B b]) (hf:h (2000+8*d)=.dead) :
  ai R (ab false) h d [.fn g [] [],.agg [I x.vars,.sl 4 (ax x.terms)],.agg [I y.vars,.sl 4 (ax y.terms)]] (.fn F.l23_PolyRing_1 [] [.ref 7 none 0 0 0])=some (.agg [I r.1.vars,.sl 4 (ax r.1.terms)],upd h 7 (.bx [B (b && decide (r.2=0))]),[]) :=
 Mm (rG false) (o7 false) (as':=[.fn g [] [],aZ x,aZ y]) (by rw [yb]; simp only [aZ,go_sem,List.cons_append,List.nil_append]) rfl rfl h7 (Sv _) (Sv _) (fun _=>rfl) (Vc kc km ks kk hc) (Vb _) (Nat.le_of_ble_eq_true rfl) (by simp [cx,cf,hf,cD])
theorem tX {x y:Rp} (ox:OkP x) (oy:OkP y) (b:Bool) (h:aa) (d:Nat) (h7:h 7=.bx [B b]) (hf:h (2000+8*d)=.dead) :
  ai R (ab false) h d [.fn F.poly_Add [] [],.agg [I x.vars,.sl 4 (ax x.terms)],.agg [I y.vars,.sl 4 (ax y.terms)]] (.fn F.l23_PolyRing_1 [] [.ref 7 none 0 0 0])=some (.agg [I (ch x y).1.vars,.sl 4 (ax (ch x y).1.terms)],upd h 7 (.bx [B (b && decide ((ch x y).2=0))]),[]) :=
 CK DK A4 Ig vK (Jg ox oy) b h d h7 hf
theorem Sw {x y:Rp} (ox:OkP x) (oy:OkP y) (b:Bool) (h:aa) (d:Nat) (h7:h 7=.bx [B b]) (hf:h (2000+8*d)=.dead) :
  ai R (ab false) h d [.fn F.poly_Sub [] [],.agg [I x.vars,.sl 4 (ax x.terms)],.agg [I y.vars,.sl 4 (ax y.terms)]] (.fn F.l23_PolyRing_1 [] [.ref 7 none 0 0 0])=some (.agg [I (lJ x y).1.vars,.sl 4 (ax (lJ x y).1.terms)],upd h 7 (.bx [B (b && decide ((lJ x y).2=0))]),[]) :=
 CK DM A6 Ii vM (QB ox oy) b h d h7 hf
theorem rO {x y:Rp} (ox:OkP x) (oy:OkP y) (b:Bool) (h:aa) (d:Nat) (h7:h 7=.bx [B b]) (hf:h (2000+8*d)=.dead) :
  ai R (ab false) h d [.fn F.poly_Mul [] [],.agg [I x.vars,.sl 4 (ax x.terms)],.agg [I y.vars,.sl 4 (ax y.terms)]] (.fn F.l23_PolyRing_1 [] [.ref 7 none 0 0 0])=some (.agg [I (bX x y).1.vars,.sl 4 (ax (bX x y).1.terms)],upd h 7 (.bx [B (b && decide ((bX x y).2=0))]),[]) :=
 CK DL A5 Ih vL (QH ox oy) b h d h7 hf
end Go.Ab
namespace Go.Ab
open Go Go.IntWalk
set_option maxRecDepth 4000
set_option maxHeartbeats 8000000
theorem Mn (x:Value):uk (.bx [.v x])=[]:=rfl
theorem KF {l:List Nat} {p:Nat→Bool} {x:Nat} (h:x ∈ (l.filter p).map bB):x ∈ l.map bB:=by
 obtain ⟨y,hy,rfl⟩:=List.mem_map.1 h
 exact List.mem_map_of_mem (List.mem_filter.1 hy).1
theorem Pq (h h':aa) (d:Nat) {v1 v2:Int} {r1 r2:List (List AV)} {g:FuncId} (hi:uk (h 7)=[]):dO h d [.fn g [] [],.agg [I v1,.sl 4 r1],.agg [I v2,.sl 4 r2],.ref 7 none 0 0 0] h'=some ([7],(wn h h' [7]).map bB++[2000+8*d]):=by
 have hre:bJ h 40 [7] 0=[7]:=by simp [bJ,hi,bo]
 show (if _ then _ else if _ then some ((bJ h 40 [7] 0).map bB,(wn h h' (bJ h 40 [7] 0)).map bB++[2000+8*d]) else none)=_
 rw [hre]
 rfl
theorem x5 {a b:List Nat} (h:∀ x ∈ a,x ∉ b):jg a b=true:=by
 unfold jg
 rw [List.all_eq_true]
 intro x hx
 simp [h x hx]
theorem OB {h h':aa} {d x:Nat} (hx:x ∈ (wn h h' [7]).map bB++[2000+8*d]):x=7∨x=2000+8*d:=by
 rcases List.mem_append.1 hx with h1 | h1
 ·have:=KF h1
  simp [bB] at this
  exact .inl this
 ·exact .inr (List.mem_singleton.1 h1)
theorem Mo (h h':aa) (d:Nat) {v1 v2:Int} {r1 r2:List (List AV)} {g:FuncId} {r w:List Nat} (hi:uk (h 7)=[]) (hk:jg (r++w) [7,2000+8*d]=true):fw (dO h d [.fn g [] [],.agg [I v1,.sl 4 r1],.agg [I v2,.sl 4 r2],.ref 7 none 0 0 0] h') (some (r,w))=true:=by
 rw [Pq h h' d hi]
 have hk':∀ x,x ∈ r∨x ∈ w→x ≠ 7∧x ≠ 2000+8*d:=fun x hx=>by
  have:=se hk (List.mem_append.2 hx)
  simpa using this
 show (jg _ (r++w) && jg w [7])=true
 rw [x5 (fun x hx hm=>by have:=hk' x (List.mem_append.1 hm); have:=OB hx; omega),x5 (fun x hx hm=>by have:=hk' x (.inr hx); simp at hm; omega)]
 rfl
theorem Mp (h h':aa) (d:Nat) {v1 v2:Int} {r1 r2:List (List AV)} {g:FuncId} {r w:List Nat} (hi:uk (h 7)=[]) (hk:jg (r++w) [7,2000+8*d]=true):fw (some (r,w)) (dO h d [.fn g [] [],.agg [I v1,.sl 4 r1],.agg [I v2,.sl 4 r2],.ref 7 none 0 0 0] h')=true:=by
 rw [Pq h h' d hi]
 have hk':∀ x,x ∈ r∨x ∈ w→x ≠ 7∧x ≠ 2000+8*d:=fun x hx=>by
  have:=se hk (List.mem_append.2 hx)
  simpa using this
 show (jg w ([7]++_) && jg _ r)=true
 rw [x5 (fun x hx hm=>by
  have:=hk' x (.inr hx)
  rcases List.mem_append.1 hm with h1 | h1
  ·simp at h1; omega
  ·have:=OB h1; omega),x5 (fun x hx hm=>by have:=hk' x (.inl hm); have:=OB hx; omega)]
 rfl
attribute [-go_sem] Lz in
theorem QJ {a b c:Rp} (haw:R F.l23_awake [] []=some (B true,[])) (oa:∀ t ∈ a.terms,Ok0 t.c) (la:a.terms.length < 4611686018427387904) (ob:∀ t ∈ b.terms,Ok0 t.c) (lb:b.terms.length < 4611686018427387904) (oc:∀ t ∈ c.terms,Ok0 t.c) (lc:c.terms.length < 4611686018427387904) :
  R F.l23_PolyRing [aZ a,aZ b,aZ c] []=some (B true,[]):=by
 refine aX B8 B7 (ya false) rfl ?_
 have hg:=Ox (l:=[a,b,c]) (by simp) (fun x hx=>by simp at hx; rcases hx with rfl | rfl | rfl; exact la; exact lb; exact lc)
 simp only [xy,Jh,List.map_cons,List.map_nil] at hg
 cases h:[a,b,c].any mO with
 | true =>
  rw [h] at hg
  simp only [cL,eJ,aZ,go_sem,↓reduceIte,aee,aeg,aef,aeh,aej,haw,hg]
  done
 | false =>
  rw [h] at hg
  simp only [List.any_cons,List.any_nil,Bool.or_false,Bool.or_eq_false_iff] at h
  have ka:=Ag oa h.1
  have kb:=Ag ob h.2.1
  have kc:=Ag oc h.2.2
  by_cases ha:12 < a.terms.length
  ·have e1:(12 < (a.terms.length:Int))=True:=tt (by omega)
   simp only [cL,eJ,aZ,go_sem,↓reduceIte,aee,aeg,aef,aeh,aej,haw,hg,e1]
   done
  have e1:(12 < (a.terms.length:Int))=False:=ff (by omega)
  by_cases hb:12 < b.terms.length
  ·have e2:(12 < (b.terms.length:Int))=True:=tt (by omega)
   simp only [cL,eJ,aZ,go_sem,↓reduceIte,aee,aeg,aef,aeh,aej,haw,hg,e1,e2]
   done
  have e2:(12 < (b.terms.length:Int))=False:=ff (by omega)
  by_cases hc:12 < c.terms.length
  ·have e3:(12 < (c.terms.length:Int))=True:=tt (by omega)
   simp only [cL,eJ,aZ,go_sem,↓reduceIte,aee,aeg,aef,aeh,aej,haw,hg,e1,e2,e3]
   done
  have e3:(12 < (c.terms.length:Int))=False:=ff (by omega)
  have k1:=pJ ka kb
  have k2:=pJ kb ka
  have k3:=nE ka kb
  have k4:=nE kb ka
  have k5:=pJ kb kc
  have k6:=nE ka k5
  have k7:=nE ka kc
  have k8:=pJ k3 k7
  have k9:=nE k3 kc
  have k10:=nE kb kc
  have k11:=nE ka k10
  have k12:=pJ k1 kc
  have k13:=pJ ka k5
  have k14:=Om k1 kb
  have hlaw:=L9 ka kb kc
  have d1:=tX ka kb
  have d2:=tX kb ka
  have d3:=rO ka kb
  have d4:=rO kb ka
  have d5:=tX kb kc
  have d6:=rO ka k5
  have d7:=rO ka kc
  have d8:=tX k3 k7
  have d9:=rO k3 kc
  have d10:=rO kb kc
  have d11:=rO ka k10
  have d12:=tX k1 kc
  have d13:=tX ka k5
  have d14:=Sw k1 kb
  have q1:=pK k1 k2
  have p1:=tW k1 k2
  have q2:=pK k3 k4
  have p2:=tW k3 k4
  have q3:=pK k6 k8
  have p3:=tW k6 k8
  have q4:=pK k9 k11
  have p4:=tW k9 k11
  have q5:=pK k12 k13
  have p5:=tW k12 k13
  have q6:=pK k14 ka
  have p6:=tW k14 ka
  have q7:=nQ k9
  generalize ch a b=r1 at *
  generalize ch b a=r2 at *
  generalize bX a b=r3 at *
  generalize bX b a=r4 at *
  generalize ch b c=r5 at *
  generalize bX a r5.1=r6 at *
  generalize bX a c=r7 at *
  generalize ch r3.1 r7.1=r8 at *
  generalize bX r3.1 c=r9 at *
  generalize bX b c=r10 at *
  generalize bX a r10.1=r11 at *
  generalize ch r1.1 c=r12 at *
  generalize ch a r5.1=r13 at *
  generalize lJ r1.1 b=r14 at *
  simp only [aZ] at q1 q2 q3 q4 q5 q6 q7
  replace d1:=d1 true
  obtain ⟨b1,hb1⟩:∃ z,z=(true && decide (r1.2=0)):=⟨_,rfl⟩
  rw [← hb1] at d1
  replace d2:=d2 b1
  obtain ⟨b2,hb2⟩:∃ z,z=(b1 && decide (r2.2=0)):=⟨_,rfl⟩
  rw [← hb2] at d2
  replace d3:=d3 b2
  obtain ⟨b3,hb3⟩:∃ z,z=(b2 && decide (r3.2=0)):=⟨_,rfl⟩
  rw [← hb3] at d3
  replace d4:=d4 b3
  obtain ⟨b4,hb4⟩:∃ z,z=(b3 && decide (r4.2=0)):=⟨_,rfl⟩
  rw [← hb4] at d4
  replace d5:=d5 b4
  obtain ⟨b5,hb5⟩:∃ z,z=(b4 && decide (r5.2=0)):=⟨_,rfl⟩
  rw [← hb5] at d5
  replace d6:=d6 b5
  obtain ⟨b6,hb6⟩:∃ z,z=(b5 && decide (r6.2=0)):=⟨_,rfl⟩
  rw [← hb6] at d6
  replace d7:=d7 b6
  obtain ⟨b7,hb7⟩:∃ z,z=(b6 && decide (r7.2=0)):=⟨_,rfl⟩
  rw [← hb7] at d7
  replace d8:=d8 b7
  obtain ⟨b8,hb8⟩:∃ z,z=(b7 && decide (r8.2=0)):=⟨_,rfl⟩
  rw [← hb8] at d8
  replace d9:=d9 b8
  obtain ⟨b9,hb9⟩:∃ z,z=(b8 && decide (r9.2=0)):=⟨_,rfl⟩
  rw [← hb9] at d9
  replace d10:=d10 b9
  obtain ⟨b10,hb10⟩:∃ z,z=(b9 && decide (r10.2=0)):=⟨_,rfl⟩
  rw [← hb10] at d10
  replace d11:=d11 b10
  obtain ⟨b11,hb11⟩:∃ z,z=(b10 && decide (r11.2=0)):=⟨_,rfl⟩
  rw [← hb11] at d11
  replace d12:=d12 b11
  obtain ⟨b12,hb12⟩:∃ z,z=(b11 && decide (r12.2=0)):=⟨_,rfl⟩
  rw [← hb12] at d12
  replace d13:=d13 b12
  obtain ⟨b13,hb13⟩:∃ z,z=(b12 && decide (r13.2=0)):=⟨_,rfl⟩
  rw [← hb13] at d13
  replace d14:=d14 b13
  obtain ⟨b14,hb14⟩:∃ z,z=(b13 && decide (r14.2=0)):=⟨_,rfl⟩
  rw [← hb14] at d14
  have hfin:b14=true→yK r1.1 r2.1=true∧yK r3.1 r4.1=true∧yK r6.1 r8.1=true∧yK r9.1 r11.1=true∧yK r12.1 r13.1=true∧yK r14.1 a=true∧vp r9.1=true:=by
   intro hz
   rw [hb14,hb13,hb12,hb11,hb10,hb9,hb8,hb7,hb6,hb5,hb4,hb3,hb2,hb1] at hz
   simp only [Bool.and_eq_true,decide_eq_true_eq,Bool.true_and] at hz
   obtain ⟨⟨⟨⟨⟨⟨⟨⟨⟨⟨⟨⟨⟨z1,z2⟩,z3⟩,z4⟩,z5⟩,z6⟩,z7⟩,z8⟩,z9⟩,z10⟩,z11⟩,z12⟩,z13⟩,z14⟩:=hz
   obtain ⟨u1,u2,u3,u4,u5,u6,w1,w2,w3,w4,w5,w6⟩:=hlaw z1 z2 z3 z4 z5 z6 z7 z8 z9 z10 z11 z12 z13 z14
   refine ⟨p1.2 ⟨w1,?_,u1⟩,p2.2 ⟨w2,?_,u2⟩,p3.2 ⟨w3,?_,u3⟩,p4.2 ⟨w4,?_,u4⟩,p5.2 ⟨w5,?_,u5⟩,p6.2 ⟨?_,w6,u6⟩,w4⟩
   ·rw [← u1]; exact w1
   ·rw [← u2]; exact w2
   ·rw [← u3]; exact w3
   ·rw [← u4]; exact w4
   ·rw [← u5]; exact w5
   ·rw [u6]; exact w6
  clear hlaw p1 p2 p3 p4 p5 p6
  clear hb14 hb13 hb12 hb11 hb10 hb9 hb8 hb7 hb6 hb5 hb4 hb3 hb2 hb1
  cases hz:b14 with
  | false =>
   rw [hz] at d14
   simp only [cL,eJ,aZ,go_sem,↓reduceIte,aee,aeg,aef,aeh,aej,aei,haw,hg,e1,e2,e3,Mo,Mp,Mn,d1,d2,d3,d4,d5,d6,d7,d8,d9,d10,d11,d12,d13,d14]
   done
  | true =>
   rw [hz] at d14
   obtain ⟨u1,u2,u3,u4,u5,u6,u7⟩:=hfin hz
   rw [u1] at q1
   rw [u2] at q2
   rw [u3] at q3
   rw [u4] at q4
   rw [u5] at q5
   rw [u6] at q6
   rw [u7] at q7
   simp only [cL,eJ,aZ,go_sem,↓reduceIte,aee,aeg,aef,aeh,aej,aei,haw,hg,e1,e2,e3,Mo,Mp,Mn,d1,d2,d3,d4,d5,d6,d7,d8,d9,d10,d11,d12,d13,d14,q1,q2,q3,q4,q5,q6,q7]
   done
end Go.Ab
namespace Go.Ab
open Go Go.IntWalk
set_option maxRecDepth 4000
set_option maxHeartbeats 1000000
def sT:Env:=⟨fun f=>ER.lookup f,au.C,au.md⟩
noncomputable def R0:cT:=cR sT
theorem tY {f:FuncId} {fd:FD} {args:List AV} {hs:List Ob} {r:AV × List Ob} (hE:sT.E f=none) (hC:sT.C f=some fd) (hk:sT.md.keep f=false) (h1:args.length=fd.np) (h2:hs.length≤1000)
  (hz:rk false fd.rs fd.res hs.length (az R0 (ab false) fd.body (pf args) (ae hs))=some r):R0 f args hs=some r:=by
 refine wQ hE hC ?_
 unfold FX
 rw [if_pos ⟨h1,h2⟩,hk]
 exact hz
theorem oQ (o:Ob):ae [o]=upd (fun _=>.dead) 1000 o:=by
 funext i
 unfold ae upd
 by_cases h:i=1000
 ·subst h
  rfl
 ·rw [if_neg h]
  split
  ·rw [List.getElem?_eq_none (by simp; omega)]
   rfl
  ·rfl
theorem OD {r:List AV} {rs:List (List AV)} (h:(rs.length+1)*8≤140737488355328):R0 F.slices_Clone_int_int_ [.sl 1 (r::rs)] []=some (.osl 1 (r::rs),[]):=by
 refine tY (fd:=dX) (by kernel_rfl) (by kernel_rfl) (by kernel_rfl) rfl (by decide) ?_
 have e1:((rs.length+1)*8≤140737488355328)=True:=eq_true h
 have e2:xD false (.sl 1 (r::rs))=some (B false):=rfl
 simp only [dX,mh,go_sem,↓reduceIte,aee,aeh,aej,e1,e2,List.length_cons,List.length_nil,Nat.zero_add,Nat.zero_le,Nat.le_refl,true_and,true_or,List.nil_append]
theorem OE:dJ 4 .emp (some (I 0)) none none=some .emp:=rfl
theorem QK {r:List AV}:R0 F.slices_Insert_api_Term_api_Term_ [.emp,I 0,.sl 4 [r]] []=some (.osl 4 [r],[]):=by
 refine tY (fd:=aH) (by kernel_rfl) (by kernel_rfl) (by kernel_rfl) rfl (by decide) ?_
 have e1:((1:Int)=0)=False:=by decide
 simp only [aH,bD,go_sem,↓reduceIte,aee,aeg,aef,aeh,aej,OE,List.length_cons,List.length_nil,Int.natCast_one,e1,Nat.zero_add]
theorem pL {n i:Nat} (h:i≤n):hG n (some (I i)) none none=some (i,n):=by
 simp only [hG,gF,Option.bind_some]
 rw [if_pos ⟨by omega,by omega⟩]
 rfl
theorem Mq {id k l0 n i:Nat} (h:i≤n):dJ k (.rsl id none k l0 n) (some (I i)) none none=some (.rsl id none k (l0+i) (n - i)):=by
 simp only [dJ,if_true,pL h,Option.map_some,Option.isNone_none]
theorem CL {h:aa} {j k n:Nat} {rows:List (List AV)} (hj:aG j=false) (hh:h j=.ar k rows) (hn:n=rows.length) (hc:aA [1000] (h 1000)=true):n6 [[]] 1 h [.rsl j none k 0 n]=some (.osl k rows,[h 1000]):=by
 subst hn
 have hp:bS 1=[1000]:=rfl
 unfold n6
 rw [if_pos]
 ·simp [lP,ll,fX,hj,hh,qq,kP,aM,nrmV,nrmL,hp]
 ·simp [hp,hc,fm,bk,cP,hj]
theorem Mr {r:List AV} {rows:List (List AV)} {n:Nat} (hn:n=rows.length) (hb:(n+1)*64≤140737488355328):R0 F.slices_Insert_api_Term_api_Term_ [.rsl 1000 none 4 0 n,I n,.sl 4 [r]] [.ar 4 rows]=some (.osl 4 (rows++[r]),[.dead]):=by
 refine tY (fd:=aH) (by kernel_rfl) (by kernel_rfl) (by kernel_rfl) rfl (by simp) ?_
 subst hn
 rw [oQ]
 have e1:((1:Int)=0)=False:=by decide
 have e2:=Mq (id:=1000) (k:=4) (l0:=0) (Nat.le_refl rows.length)
 have e3:((rows.length+1)*64≤140737488355328)=True:=eq_true hb
 have e4:(rows.length+1≤rows.length)=False:=eq_false (by omega)
 have e5:∀ h,yL h 25 4 64 1000 4 0 rows.length [r] 4 rows=bO (upd h 1000 .dead) 25 4 (rows++[r]) (rows.length+1) [(1000,false)]:=fun h=>by
  simp only [yL,List.length_singleton]
  rw [if_neg (by omega),if_pos ⟨trivial,trivial,trivial,trivial,hb⟩]
 simp only [aH,bD,go_sem,↓reduceIte,aee,aeg,aef,aeh,aej,List.length_cons,List.length_nil,Int.natCast_one,e1,e2,e3,e4,e5,Nat.zero_add,Nat.add_zero,Nat.sub_self,or_self,Nat.le_refl,List.length_append]
 exact CL rfl rfl (by simp) rfl
theorem Sx {f:FuncId} {g:List AV→List Ob→Option (AV × List Ob)} {args:List AV} {hs:List Ob} (hE:sT.E f=some g):R0 f args hs=g args hs:=uK hE
theorem QL {h:aa} {d:Nat} {r:List AV} {rows:List (List AV)} {lo m:Nat} (hh:h 1000=.ar 4 rows) (hd:h (2000+8*d)=.dead) :
  ai R0 (ab false) h d [.sl 4 [r],.rsl 1000 none 4 lo m] (.fn F.slices_overlaps_api_Term_ [] [])=some (B false,upd h 1000 (.ar 4 rows),[(1000,true)]):=by
 have hm:(ab false).m F.slices_overlaps_api_Term_=[0,1]:=by kernel_rfl
 have hs:(ab false).sh F.slices_overlaps_api_Term_=[]:=by kernel_rfl
 have hk:(ab false).keep F.slices_overlaps_api_Term_=false:=by kernel_rfl
 have hf:R0 F.slices_overlaps_api_Term_ [.sl 4 [r],.rsl 1000 none 4 lo m] [.ar 4 rows]=some (B false,[.ar 4 rows]):=by
  rw [Sx (g:=II 4) (by kernel_rfl)]
  simp [II]
 have hb:jG (ab false) [.sl 4 [r],.rsl 1000 none 4 lo m] (.fn F.slices_overlaps_api_Term_ [] [])=false:=by
  simp [jG,hm]
 have hr:bJ h 40 [1000] 0=[1000]:=by
  simp [bJ,hh,uk,bo]
 have hn:cf (B false)=1:=rfl
 unfold ai
 rw [if_neg (by rw [hb]; exact Bool.false_ne_true)]
 have h1:ah h [0,1] [.sl 4 [r],.rsl 1000 none 4 lo m]=some ([.sl 4 [r],.rsl 1000 none 4 lo m],h,[]):=by
  simp [ah,bM,mE,du,ak]
 have h2:bo [] ([AV.sl 4 [r],.rsl 1000 none 4 lo m].flatMap bk)=[1000]:=by
  simp [bk,cP,bo]
 have h3:aV [1000] 1000=1000:=rfl
 simp only [dq,hm,List.nil_append,List.append_nil,h1,Option.bind_some,h2,hr,hs]
 simp [jF,aM,aJ,aO,hh,aA,cD,cQ,fV,h3,cC,hf,dZ,hn,cx,hd,cU,bf,mP,uq,kN,cP,ey,cZ,rh,cz,mat,bU,dC,hk,uo,hm]
theorem Du {id k l0 n i:Nat}:dJ k (.rsl id none k l0 n) (some (I i)) none none=(hG n (some (I i)) none none).map fun p=>.rsl id none k (l0+p.1) (p.2 - p.1):=by
 simp only [dJ,if_true,Option.isNone_none]
theorem Ms {n c i:Nat} (h:i≤c):gF n c (some (I i))=some i:=by
 simp only [gF]
 rw [if_pos ⟨by omega,by omega⟩]
 rfl
theorem QM {r:List AV} {rows:List (List AV)} {n i:Nat} (hn:n=rows.length) (hi:i < n) (hb:(n+1)*64≤140737488355328) :
  R0 F.slices_Insert_api_Term_api_Term_ [.rsc 1000 4 0 n n,I i,.sl 4 [r]] [.ar 4 rows]=some (.osl 4 (rows.take i++r::rows.drop i),[.ar 4 rows]):=by
 refine tY (fd:=aH) (by kernel_rfl) (by kernel_rfl) (by kernel_rfl) rfl (by simp) ?_
 rw [oQ]
 have e1:((1:Int)=0)=False:=by decide
 have e2:((i:Int)=(n:Int))=False:=eq_false (by omega)
 have e3:IntKind.i64.wrap ((n:Int)+1)=((n+1:Nat):Int):=wi (by omega) (by omega)
 have e4:((n:Int) < ((n+1:Nat):Int))=True:=eq_true (by omega)
 have e5:IntKind.i64.wrap (((n+1:Nat):Int) - (i:Int))=((n+1 - i:Nat):Int):=wi (by omega) (by omega)
 have e6:IntKind.i64.wrap ((i:Int)+1)=((i+1:Nat):Int):=wi (by omega) (by omega)
 have b1:=pL (n:=n) (i:=i) (by omega)
 have b2:=Ms (n:=n) (c:=n) (i:=i) (by omega)
 have b3:=pL (n:=n+1) (i:=i) (by omega)
 have b4:=pL (n:=n+1) (i:=i+1) (by omega)
 have f1:((0:Int) < ((n+1 - i:Nat):Int))=True:=eq_true (by omega)
 have f2:(n < i+((n+1 - i:Nat):Int).toNat)=True:=eq_true (by omega)
 have f3:i+((n+1 - i:Nat):Int).toNat=n+1:=by omega
 have f4:(i≤rows.length)=True:=eq_true (by omega)
 have f5:((n+1)*64≤140737488355328)=True:=eq_true hb
 have f6:(n < n+1)=True:=eq_true (by omega)
 obtain ⟨A,hA⟩:∃ A,rows.take i++List.replicate ((n+1 - i:Nat):Int).toNat [AV.emp,B false,AV.emp,I 0]=A:=⟨_,rfl⟩
 have a1:A.length=n+1:=by rw [← hA,List.length_append,List.length_take,List.length_replicate]; omega
 have a2:A.take i=rows.take i:=by
  rw [← hA,List.take_append_of_le_length (by rw [List.length_take]; omega),List.take_of_length_le (by rw [List.length_take]; omega)]
 have a3:(i≤A.length)=True:=eq_true (by omega)
 obtain ⟨D,hD⟩:∃ D,A.take i++[r]++A.drop (i+1)=D:=⟨_,rfl⟩
 have d1:D.length=n+1:=by
  rw [← hD,List.length_append,List.length_append,List.length_take,List.length_drop,List.length_singleton]
  omega
 have d2:D.take (i+1)=rows.take i++[r]:=by
  rw [← hD,a2,List.take_append_of_le_length (by rw [List.length_append,List.length_take,List.length_singleton]; omega),List.take_of_length_le (by rw [List.length_append,List.length_take,List.length_singleton]; omega)]
 have d3:(i+1≤D.length)=True:=eq_true (by omega)
 have t1:List.take (n+1 - i) [r]=[r]:=List.take_of_length_le (by rw [List.length_singleton]; omega)
 have t2:(rows.drop i).take (n - i)=rows.drop i:=List.take_of_length_le (by rw [List.length_drop]; omega)
 have t3:(1=min 1 (n+1 - i))=True:=eq_true (by omega)
 have t4:n+1 - (i+1)=n - i:=by omega
 have t5:(i+(n - i)≤rows.length)=True:=eq_true (by omega)
 have t6:(rows.drop i).length=n - i:=by rw [List.length_drop]; omega
 have t7:D.drop (i+1+(n - i))=[]:=List.drop_eq_nil_of_le (by omega)
 simp only [aH,bD,go_sem,↓reduceIte,aee,aeg,aef,aeh,aej,List.length_cons,List.length_nil,Int.natCast_one,e1,e2,e3,e4,e5,e6,b1,b2,b3,b4,f1,f2,f3,f4,f5,f6,hA,hD,a3,d3,t1,t2,t3,t4,t5,t6,t7,Nat.min_self,Nat.zero_add,Nat.add_zero,Nat.sub_self,or_self,Nat.le_refl,Du,and_self]
 rw [d2]
 have hfin:rows.take i++[r]++rows.drop i=rows.take i++r::rows.drop i:=by rw [List.append_assoc]; rfl
 rw [hfin]
 exact CL rfl rfl (by rw [List.length_append,List.length_take,List.length_cons,List.length_drop]; omega) rfl
theorem QN {r:List AV} {rows:List (List AV)} {n i c:Nat} (hn:n=rows.length) (hi:i < n) (hc:n+1≤c) (hb:(n+1)*64≤140737488355328) :
  R0 F.slices_Insert_api_Term_api_Term_ [.rsc 1000 4 0 n c,I i,.sl 4 [r]] [.ar 4 rows]=some (.osl 4 (rows.take i++r::rows.drop i),[.dead]):=by
 refine tY (fd:=aH) (by kernel_rfl) (by kernel_rfl) (by kernel_rfl) rfl (by simp) ?_
 rw [oQ]
 have e1:((1:Int)=0)=False:=by decide
 have e2:((i:Int)=(n:Int))=False:=eq_false (by omega)
 have e3:IntKind.i64.wrap ((n:Int)+1)=((n+1:Nat):Int):=wi (by omega) (by omega)
 have e4:((c:Int) < ((n+1:Nat):Int))=False:=eq_false (by omega)
 have e6:IntKind.i64.wrap ((i:Int)+1)=((i+1:Nat):Int):=wi (by omega) (by omega)
 have b1:=pL (n:=n) (i:=i) (by omega)
 have b2:=Ms (n:=n) (c:=c) (i:=n+1) hc
 have b3:=pL (n:=n+1) (i:=i) (by omega)
 have b4:=pL (n:=n+1) (i:=i+1) (by omega)
 have o1:=fun (h:aa) (h0:h 1000=.ar 4 rows) (h1:h (2000+8*67)=.dead)=>QL (r:=r) (lo:=i+1) (m:=n - i) h0 h1
 have t1:List.take (n+1 - i) [r]=[r]:=List.take_of_length_le (by rw [List.length_singleton]; omega)
 have t2:(rows.drop i).take (n - i)=rows.drop i:=List.take_of_length_le (by rw [List.length_drop]; omega)
 have t3:(1=min 1 (n+1 - i))=True:=eq_true (by omega)
 have t4:n+1 - (i+1)=n - i:=by omega
 have t5:(i+(n - i)≤rows.length)=True:=eq_true (by omega)
 have t6:(rows.drop i).length=n - i:=by rw [List.length_drop]; omega
 have t8:min (n - i) (n+1 - i)=n - i:=by omega
 have t9:(n - i=min (n+1 - i) (n - i))=True:=eq_true (by omega)
 have f4:(i+1≤rows.length)=True:=eq_true (by omega)
 have t7:rows.drop (i+1+(n - i))=[]:=List.drop_eq_nil_of_le (by omega)
 obtain ⟨A,hA⟩:∃ A,rows.take (i+1)++rows.drop i=A:=⟨_,rfl⟩
 have a1:A.length=n+1:=by
  rw [← hA,List.length_append,List.length_take,List.length_drop]
  omega
 have a2:A.take i=rows.take i:=by
  rw [← hA,List.take_append_of_le_length (by rw [List.length_take]; omega),List.take_take,Nat.min_eq_left (by omega)]
 have a4:A.drop (i+1)=rows.drop i:=by
  rw [← hA,List.drop_append_of_le_length (by rw [List.length_take]; omega),List.drop_eq_nil_of_le (by rw [List.length_take]; omega),List.nil_append]
 have a3:(i≤A.length)=True:=eq_true (by omega)
 simp only [aH,bD,go_sem,↓reduceIte,aee,aeg,aef,aeh,aej,List.length_cons,List.length_nil,Int.natCast_one,e1,e2,e3,e4,e6,b1,b2,b3,b4,t4,Nat.zero_add]
 rw [o1 _ rfl rfl]
 simp only [go_sem,↓reduceIte,aee,aeg,aef,aeh,aej,aei,List.length_cons,List.length_nil,Int.natCast_one,e1,e2,e3,e4,e6,b1,b2,b3,b4,t1,t2,t3,t4,t5,t6,t7,t8,t9,f4,a3,hA,Nat.zero_add,Nat.add_zero,Nat.sub_self,or_self,Nat.le_refl,Du,and_self]
 rw [a2,a4,show rows.take i++[r]++rows.drop i=rows.take i++r::rows.drop i by rw [List.append_assoc]; rfl]
 exact CL rfl rfl (by rw [List.length_append,List.length_take,List.length_cons,List.length_drop]; omega) rfl
def vQ (c1 c2:cT):Prop:=∀ f a hs r,c1 f a hs=some r→c2 f a hs=some r
section
variable {c1 c2:cT} {md:Mode}
theorem In (hc:vQ c1 c2) {h:aa} {d:Nat} {zas:List AV} {f:AV} {r:R3} (hz:dq c1 md h d zas f=some r):dq c2 md h d zas f=some r:=by
 cases f <;> simp only [dq] at hz ⊢ <;> try (cases hz; done)
 simp only [Option.bind_eq_some_iff] at hz ⊢
 obtain ⟨p,e1,e2⟩:=hz
 unfold jF at e2 ⊢
 split at e2
 ·rename_i hcc
  simp only [Option.bind_eq_some_iff] at e2
  obtain ⟨q,e3,e4⟩:=e2
  refine ⟨p,e1,?_⟩
  rw [if_pos hcc]
  simp only [Option.bind_eq_some_iff]
  exact ⟨q,hc _ _ _ _ e3,e4⟩
 ·cases e2
theorem BE (hc:vQ c1 c2) {h:aa} {d:Nat} {zas:List AV} {f:AV} {r:R3} (hz:ai c1 md h d zas f=some r):ai c2 md h d zas f=some r:=by
 unfold ai at hz ⊢
 split at hz
 ·rename_i hb
  rw [if_pos hb]
  cases f <;> simp only [Ar] at hz ⊢ <;> try (cases hz; done)
  simp only [Option.bind_eq_some_iff] at hz ⊢
  obtain ⟨p,e1,q,e3,e4⟩:=hz
  exact ⟨p,e1,q,hc _ _ _ _ e3,e4⟩
 ·rename_i hb
  rw [if_neg hb]
  exact In hc hz
theorem Dv (hc:vQ c1 c2) {d:Nat} {op:AOp} {s:af} {h:aa} {r:R3} (hz:step c1 md d op s h=some r):step c2 md d op s h=some r:=by
 cases op with
 | call f zas=>exact BE hc hz
 | callC f zas =>
  simp only [step,Option.bind_eq_some_iff] at hz ⊢
  obtain ⟨q,e1,e2⟩:=hz
  exact ⟨q,BE hc e1,e2⟩
 | _=>exact hz
theorem Dw (hc:vQ c1 c2) {d:Option Nat} {op:AOp} {s:af} {h:aa} {t:St} (hz:bK md.nm s d (step c1 md (d.getD 0) op s h)=some t):bK md.nm s d (step c2 md (d.getD 0) op s h)=some t:=by
 cases hs:step c1 md (d.getD 0) op s h with
 | none=>rw [hs] at hz; cases hz
 | some r =>
  rw [hs] at hz
  rw [Dv hc hs]
  exact hz
theorem KG (hc:vQ c1 c2) {o:COp} {s:af} {h:aa} {t:St} (hz:fW c1 md o s h=some t):fW c2 md o s h=some t:=by
 unfold fW at hz ⊢
 cases hg:o.g with
 | none=>rw [hg] at hz; exact Dw hc hz
 | some g =>
  rw [hg] at hz
  simp only at hz ⊢
  unfold fv at hz ⊢
  split at hz
  ·split at hz
   ·rename_i hb
    simp only [if_pos hb]
    exact Dw hc hz
   ·rename_i hb
    simp only [if_neg hb]
    exact hz
  ·exact hz
  ·cases hz
theorem rP (hc:vQ c1 c2):∀ {l:List COp} {s:af} {h:aa} {t:St},am c1 md l s h=some t→am c2 md l s h=some t
 | [],s,h,t,hz=>hz
 | o::l,s,h,t,hz=>by
  simp only [am,aK] at hz
  split at hz
  ·cases hz
  ·rename_i t1 ht1
   simp only [am,aK,KG hc ht1,rP hc hz]
theorem BF (hc:vQ c1 c2) {d:Option Nat} {op:AOp} {s:af} {h:aa} {f:aa→Fp} {t:St × Fp} (hz:fh s d f (step c1 md (d.getD 0) op s h)=some t):fh s d f (step c2 md (d.getD 0) op s h)=some t:=by
 cases hs:step c1 md (d.getD 0) op s h with
 | none=>rw [hs] at hz; cases hz
 | some r =>
  rw [hs] at hz
  rw [Dv hc hs]
  exact hz
theorem KH (hc:vQ c1 c2) {o:COp} {s:af} {h:aa} {t:St × Fp} (hz:cj c1 md o s h=some t):cj c2 md o s h=some t:=by
 unfold cj at hz ⊢
 cases hg:o.g with
 | none=>rw [hg] at hz; exact BF hc hz
 | some g =>
  rw [hg] at hz
  simp only at hz ⊢
  unfold jI at hz ⊢
  split at hz
  ·split at hz
   ·rename_i hb
    simp only [if_pos hb]
    exact BF hc hz
   ·rename_i hb
    simp only [if_neg hb]
    exact hz
  ·exact hz
  ·cases hz
theorem xz (hc:vQ c1 c2):∀ {l:List COp} {s:af} {h:aa} {t:St × List Fp},dA c1 md l s h=some t→dA c2 md l s h=some t
 | [],s,h,t,hz=>hz
 | o::l,s,h,t,hz=>by
  simp only [dA,Option.bind_eq_some_iff] at hz
  obtain ⟨r,e1,q,e2,e3⟩:=hz
  simp only [dA,KH hc e1,xz hc e2,Option.bind_some,e3]
theorem KI (hc:vQ c1 c2) {l:List COp} {ps:List (Nat × Nat)} {s:af} {h:aa} {t:St} (hz:jJ c1 md l ps s h=some t):jJ c2 md l ps s h=some t:=by
 unfold jJ at hz ⊢
 cases hb:pQ ps with
 | none =>
  rw [hb] at hz
  simp only [pW,Option.bind_eq_some_iff] at hz
  obtain ⟨q,e1,e2⟩:=hz
  simp only [pW,xz hc e1,Option.bind_some,e2]
 | some b =>
  rw [hb] at hz
  simp only [ur,Option.bind_eq_some_iff] at hz
  obtain ⟨q,e1,e2⟩:=hz
  split at e2
  ·rename_i hps
   simp only [aK] at e2
   split at e2
   ·cases e2
   ·rename_i t1 ht1
    simp only [ur,xz hc e1,Option.bind_some,if_pos hps,ht1,aK,rP hc e2]
  ·cases e2
theorem xA {b1 b2:af→aa→Option (Ex × St)} {ks hs:List Nat} (ih:∀ {s:af} {h:aa} {r:Ex × St},b1 s h=some r→b2 s h=some r) :
  ∀ (m:Nat) {j:Nat},m≤j→∀ {s:af} {h:aa} {r:Ex × St},kC b1 ks hs m s h=some r→kC b2 ks hs j s h=some r
 | 0,j,hj,s,h,r,hz=>by simp [kC] at hz
 | m+1,j,hj,s,h,r,hz=>by
  obtain ⟨j,rfl⟩:∃ j',j=j'+1:=⟨j - 1,by omega⟩
  simp only [kC] at hz ⊢
  split at hz
  ·rename_i hc
   rw [if_pos hc]
   cases hb:b1 (mk .any (fun i=>ez hs (s i)) ks) (mk .dead h hs) with
   | none=>rw [hb] at hz; cases hz
   | some q =>
    rw [hb] at hz
    rw [ih hb]
    obtain ⟨ex,t⟩:=q
    cases ex with
    | normal=>exact xA ih m (by omega) hz
    | exit id=>exact hz
    | ret=>exact hz
  ·cases hz
theorem eu (hc:vQ c1 c2) {lf lf':Nat} (hl:lf≤lf'):∀ (c:Cmd) {s:af} {h:aa} {r:Ex × St},bc c1 md lf c s h=some r→bc c2 md lf' c s h=some r
 | .skip,s,h,r,hz=>hz
 | .ops ks l,s,h,r,hz=>by
  simp only [bc,aK] at hz
  split at hz
  ·cases hz
  ·rename_i t1 ht1
   simp only [bc,rP hc ht1,aK]
   exact hz
 | .dops ks l ps,s,h,r,hz=>by
  simp only [bc,aK] at hz
  split at hz
  ·cases hz
  ·rename_i t1 ht1
   simp only [bc,KI hc ht1,aK]
   exact hz
 | .seq a b,s,h,r,hz=>by
  simp only [bc,dD] at hz
  split at hz
  ·cases hz
  ·rename_i t1 ht1
   simp only [bc,dD,eu hc hl a ht1,eu hc hl b hz]
  ·rename_i i t1 ht1
   simp only [bc,dD,eu hc hl a ht1]
   exact hz
  ·rename_i t1 ht1
   simp only [bc,dD,eu hc hl a ht1]
   exact hz
 | .cond c a b,s,h,r,hz=>by
  simp only [bc,jK] at hz
  split at hz
  ·rename_i t ht
   cases t with
   | true=>simp only [bc,jK,ht,if_true]; exact eu hc hl a hz
   | false=>simp only [bc,jK,ht,Bool.false_eq_true,if_false]; exact eu hc hl b hz
  ·cases hz
 | .block id ks a,s,h,r,hz=>by
  simp only [bc,aI] at hz
  split at hz
  ·cases hz
  ·rename_i t1 ht1
   simp only [bc,aI,eu hc hl a ht1]
   exact hz
  ·rename_i i t1 ht1
   simp only [bc,aI,eu hc hl a ht1]
   exact hz
  ·rename_i t1 ht1
   simp only [bc,aI,eu hc hl a ht1]
   exact hz
 | .loop ks hs a,s,h,r,hz=>by
  simp only [bc] at hz ⊢
  exact xA (fun hh=>eu hc hl a hh) lf hl hz
 | .exit id,s,h,r,hz=>hz
 | .ret,s,h,r,hz=>hz
 | .frz is a,s,h,r,hz=>by
  simp only [bc,aK] at hz
  split at hz
  ·cases hz
  ·rename_i t1 ht1
   simp only [bc,aK,ht1]
   exact eu hc hl a hz
end
abbrev Ah:=List (Nat × List AV × AV)
def HF:Ah→FuncId→List AV→Option AV
 | [],_,_=>none
 | x::l,f,args=>if x.1=f then (if wm x.2.1 args=true then some x.2.2 else HF l f args) else HF l f args
def Jl (a:Option AV) (hs:List Ob) (b:Option (AV × List Ob)):Option (AV × List Ob):=match a,hs with
 | some r,[]=>some (r,[])
 | _,_=>b
def CM (e:Env) (T:Ah):Nat→cT
 | 0=>fun _ _ _=>none
 | n+1=>fun f args hs=>Jl (HF T f args) hs (match e.E f with
  | some g=>g args hs
  | none=>(e.C f).bind fun fd=>wr (CM e T n) { e.md with nm:=e.md.keep f } n fd args hs)
theorem CN {e:Env}:∀ {T:Ah} {f:FuncId} {args:List AV} {r:AV},(∀ x ∈ T,cR e x.1 x.2.1 []=some (x.2.2,[]))→HF T f args=some r→cR e f args []=some (r,[])
 | [],f,args,r,_,h=>by cases h
 | x::l,f,args,r,ht,h=>by
  unfold HF at h
  split at h
  ·rename_i h1
   split at h
   ·rename_i h2
    cases h
    have:=ht x (by simp)
    rw [h1,n9 h2] at this
    exact this
   ·exact CN (fun y hy=>ht y (by simp [hy])) h
  ·exact CN (fun y hy=>ht y (by simp [hy])) h
theorem ky {call:cT} {md:Mode} {lf:Nat}:∀ (c:Cmd) {s:af} {h:aa} {r:Ex × St},bc call md lf c s h=some r→az call md c s h=some r
 | .skip,s,h,r,hz=>hz
 | .ops ks l,s,h,r,hz=>hz
 | .dops ks l ps,s,h,r,hz=>hz
 | .seq a b,s,h,r,hz=>by
  simp only [bc,dD] at hz
  split at hz
  ·cases hz
  ·rename_i t1 ht1
   simp only [az,dD,ky a ht1,ky b hz]
  ·rename_i i t1 ht1
   simp only [az,dD,ky a ht1]
   exact hz
  ·rename_i t1 ht1
   simp only [az,dD,ky a ht1]
   exact hz
 | .cond c a b,s,h,r,hz=>by
  simp only [bc,jK] at hz
  split at hz
  ·rename_i t ht
   cases t with
   | true=>simp only [az,jK,ht,if_true]; exact ky a hz
   | false=>simp only [az,jK,ht,Bool.false_eq_true,if_false]; exact ky b hz
  ·cases hz
 | .block id ks a,s,h,r,hz=>by
  simp only [bc,aI] at hz
  split at hz
  ·cases hz
  ·rename_i t1 ht1
   simp only [az,aI,ky a ht1]
   exact hz
  ·rename_i i t1 ht1
   simp only [az,aI,ky a ht1]
   exact hz
  ·rename_i t1 ht1
   simp only [az,aI,ky a ht1]
   exact hz
 | .loop ks hs a,s,h,r,hz=>by
  simp only [bc] at hz
  simp only [az,aU]
  rw [iK]
  exact ⟨lf,fun k hk=>xA (fun hh=>ky a hh) lf hk hz⟩
 | .exit id,s,h,r,hz=>hz
 | .ret,s,h,r,hz=>hz
 | .frz is a,s,h,r,hz=>by
  simp only [bc,aK] at hz
  split at hz
  ·cases hz
  ·rename_i t1 ht1
   simp only [az,aK,ht1]
   exact ky a hz
theorem Jm {e:Env} {T:Ah} (ht:∀ x ∈ T,cR e x.1 x.2.1 []=some (x.2.2,[])):∀ n,vQ (CM e T n) (cR e)
 | 0=>fun f a hs r hz=>by cases hz
 | n+1=>fun f a hs r hz=>by
  have old:(match e.E f with | some g=>g a hs | none=>(e.C f).bind fun fd=>wr (CM e T n) { e.md with nm:=e.md.keep f } n fd a hs)=some r→cR e f a hs=some r:=by
   intro hz
   split at hz
   ·rename_i g hE
    rw [uK hE]
    exact hz
   ·rename_i hE
    simp only [Option.bind_eq_some_iff] at hz
    obtain ⟨fd,hC,hz⟩:=hz
    refine wQ hE hC ?_
    unfold wr at hz
    unfold FX
    split at hz
    ·rename_i hcc
     rw [if_pos hcc]
     cases hx:bc (CM e T n) { e.md with nm:=e.md.keep f } n fd.body (pf a) (ae hs) with
     | none=>rw [hx] at hz; cases hz
     | some q =>
      rw [hx] at hz
      rw [ky fd.body (eu (Jm ht n) (Nat.le_refl n) fd.body hx)]
      exact hz
    ·cases hz
  unfold CM at hz
  unfold Jl at hz
  split at hz
  ·rename_i r' hl
   cases hz
   exact CN ht hl
  ·exact old hz
theorem bL {e:Env}:∀ x ∈ ([]:Ah),cR e x.1 x.2.1 []=some (x.2.2,[]):=fun _ h=>by cases h
theorem cw {e:Env} {x:Nat × List AV × AV} {T:Ah} (h1:cR e x.1 x.2.1 []=some (x.2.2,[])) (h2:∀ x ∈ T,cR e x.1 x.2.1 []=some (x.2.2,[])):∀ y ∈ x::T,cR e y.1 y.2.1 []=some (y.2.2,[]):=fun y hy=>by
 rcases List.mem_cons.1 hy with rfl | hy
 ·exact h1
 ·exact h2 y hy
theorem gX {e:Env} (T:Ah) (n:Nat) (x:Nat × List AV × AV) (ht:∀ x ∈ T,cR e x.1 x.2.1 []=some (x.2.2,[])) (h:CM e T n x.1 x.2.1 []=some (x.2.2,[])):cR e x.1 x.2.1 []=some (x.2.2,[]):=Jm ht n _ _ _ _ h
end Go.Ab
namespace Go.Ab
open Go Go.Proofs Go.Shelf
def Pr:Ren:=⟨fun | 28=>143 | n=>n,fun | 25=>111 | 27=>77 | 53=>167 | n=>n,fun n=>n⟩
theorem Mt:Lays7.n28 Tryz.prog Pr where
 mixed:=by kernel_rfl
 f28:=by kernel_rfl
 t0:=by kernel_rfl
 a0:=Tryz.isAgg0
 z0:=Tryz.sizeOf0
 v0:=Tryz.zeroValue0
 i0:=by kernel_rfl
 t3:=by kernel_rfl
 a3:=Tryz.isAgg3
 z3:=Tryz.sizeOf3
 v3:=Tryz.zeroValue3
 i3:=by kernel_rfl
 t4:=by kernel_rfl
 a4:=Tryz.isAgg4
 z4:=Tryz.sizeOf4
 v4:=Tryz.zeroValue4
 i4:=by kernel_rfl
 t5:=by kernel_rfl
 a5:=Tryz.isAgg5
 z5:=Tryz.sizeOf5
 v5:=Tryz.zeroValue5
 i5:=by kernel_rfl
 t25:=by kernel_rfl
 a25:=Tryz.isAgg111
 z25:=Tryz.sizeOf111
 v25:=Tryz.zeroValue111
 i25:=by kernel_rfl
 t27:=by kernel_rfl
 a27:=Tryz.isAgg77
 z27:=Tryz.sizeOf77
 v27:=Tryz.zeroValue77
 i27:=by kernel_rfl
 t53:=by kernel_rfl
 a53:=Tryz.isAgg167
 z53:=Tryz.sizeOf167
 v53:=Tryz.zeroValue167
 i53:=by kernel_rfl
 g0:=by kernel_rfl
def vj:Inv where
 p w X:=X 0∧TabAt 0 Lib.deBruijn32tab w
 stab:=fun {w w' X} h hs=>⟨h.1,fun j hj=>by rw [ip (hs 0 h.1)]; exact h.2 j hj⟩
 more:=fun h hx=>⟨hx 0 h.1,h.2⟩
theorem Jn:∀ (k x:Nat),Lib.ctzFrom k x=Dg k x
 | 0,x=>rfl
 | k+1,x=>by
  unfold Lib.ctzFrom Dg
  rw [Jn k (x / 2),Nat.add_comm]
set_option maxRecDepth 100000 in
theorem Ps:fj Tryz.prog vj false F.bits_TrailingZeros32 OW:=by
 intro args obs obs' res w X ρ vals n hz hn hi hr hs hv
 unfold OW at hz
 split at hz
 ·rename_i x
  by_cases hc:0 < x∧x < 4294967296∧obs=[]
  ·rw [if_pos hc] at hz
   obtain ⟨h0,h1,rfl⟩:=hc
   simp only [Option.some.injEq,Prod.mk.injEq] at hz
   obtain ⟨rfl,rfl⟩:=hz
   have hv0:=hv 0 (.v (.int .u32 x)) (vals.getD 0 undef) rfl (by simp at hs; simp [Array.getD_eq_getD_getElem?,hs])
   have e0:vals=#[.int .u32 x]:=by
    simp only [List.length_cons,List.length_nil] at hs
    have:=hv0.v_inv.1
    apply Array.ext
    ·simpa using hs
    ·intro i h2 h3
     have:i=0:=by simp at h3; exact h3
     subst this
     simpa [Array.getD_eq_getD_getElem?,hs] using this
   subst e0
   obtain ⟨m,rfl⟩:∃ m:Nat,x=m:=⟨x.toNat,by omega⟩
   have key:=Any7.bits_TrailingZeros32 Mt m (by omega) w fun _=>hi.2
   have he:(callFunc F.bits_TrailingZeros32 #[.int .u32 (m:Int)]).run Tryz.prog w=.ok (.enter F.bits_TrailingZeros32 #[.int .u32 (m:Int)]) w:=(enters_of (Mt.f28) (by kernel_rfl) rfl:Proofs.Enters Tryz.prog (Pr.f 28)) _ _
   unfold Enters
   rw [he]
   refine Calls.mono key fun e w' hw=>?_
   obtain ⟨rfl,rfl⟩:=hw
   refine ⟨ρ,hr,.refl _ _ _ _,?_⟩
   refine .dat ?_
   have:Lib.ctz 32 m=Dg 32 m:=by
    unfold Lib.ctz
    rw [if_neg (by omega),Jn]
   simp only [this,Int.toNat_natCast,mat,bU]
   exact .v _ rfl
  ·rw [if_neg hc] at hz
   cases hz
 ·cases hz
end Go.Ab
namespace Go.Ab
open Go Go.Proofs Go.ChangeShapes Go.WideShapes Go.Deep Go.RowKit
set_option maxRecDepth 100000
section
variable {H:Type} {enc:TypeId × Value→H} {w:World}
def BG (w:World) (b:Nat):Prop:=b < w.heap.size∧b ≠ 0
def xB (w:World):Prop:=∀ o v,w.cell? ⟨0,o,none⟩=some v→∃ n,v=.int .u8 n
def sU (u:Value):Prop:=∀ n,u ≠ .int .u8 n
theorem Sy (ht:xB w) {a:Addr} {u:Value} (h:w.cell? a=some u) (hn:sU u):BG w a.block∧a.spot=none:=by
 have h1:a.spot=none:=by
  unfold World.cell? at h
  split at h
  ·split at h
   ·cases h
   ·rename_i hs
    simpa using hs
  ·cases h
 refine ⟨⟨?_,fun h0=>?_⟩,h1⟩
 ·unfold World.cell? at h
  split at h
  ·rename_i hb
   exact (Array.getElem?_eq_some_iff.1 hb).1
  ·cases h
 ·obtain ⟨b,o,s⟩:=a
  simp only at h0 h1
  subst h0 h1
  obtain ⟨n,hv⟩:=ht o u h
  exact hn n hv
def lK (w:World) (fs:List AV) (cs:List Value):Prop :=
 fs.length=cs.length∧∀ (j:Nat) (c:AV) (u:Value),fs[j]?=some c→cs[j]?=some u→RD w (BG w) c u∧ak c=true∧u.oneCell'=true
theorem lK.app {fa fb:List AV} {ca cb:List Value} (ha:lK w fa ca) (hb:lK w fb cb):lK w (fa++fb) (ca++cb):=by
 refine ⟨by simp [ha.1,hb.1],fun j c u h1 h2=>?_⟩
 by_cases hj:j < fa.length
 ·rw [List.getElem?_append_left hj] at h1
  rw [List.getElem?_append_left (by rw [← ha.1]; exact hj)] at h2
  exact ha.2 j c u h1 h2
 ·rw [List.getElem?_append_right (by omega)] at h1
  rw [List.getElem?_append_right (by rw [← ha.1]; omega),← ha.1] at h2
  exact hb.2 _ c u h1 h2
theorem lK.one {c:AV} {u:Value} (h:RD w (BG w) c u) (hd:ak c=true) (h1:u.oneCell'=true):lK w [c] [u]:=by
 refine ⟨rfl,fun j c' u' hc hu=>?_⟩
 cases j with
 | zero=>simp at hc hu; subst hc hu; exact ⟨h,hd,h1⟩
 | succ j=>simp at hc
noncomputable abbrev Tr (w:World) (enc:TypeId × Value→H) (n:Nat) (t:TypeId) (cs:List Value):Option (DataW H × List MemPlace):=DataW.trod enc Tryz.prog w 0 (fun _=>true) true n t cs
def qp (t:TypeId) (d:DataW H):Prop:=∀ m ∈ DataW.weights Tryz.prog t d,m≤reachBytes
theorem Sz {e:TypeId}:∀ {l:List (DataW H)} {d:DataW H} {m:Nat},d ∈ l→m ∈ DataW.weights Tryz.prog e d→m ∈ DataW.weightsAll Tryz.prog e l
 | [],d,m,h,_=>by simp at h
 | a::l,d,m,h,hm=>by
  simp only [DataW.weightsAll,List.mem_append]
  rcases List.mem_cons.1 h with rfl | h
  ·exact .inl hm
  ·exact .inr (Sz h hm)
theorem Jo {α:Type} {p:Nat→α→Prop}:∀ (n:Nat),(∀ i,i < n→∃ r,p i r)→∃ l:List α,l.length=n∧∀ (i:Nat) (r:α),l[i]?=some r→p i r
 | 0,_=>⟨[],rfl,fun i r h=>by simp at h⟩
 | n+1,h=>by
  obtain ⟨l,h1,h2⟩:=Jo n fun i hi=>h i (by omega)
  obtain ⟨r,hr⟩:=h n (by omega)
  refine ⟨l++[r],by simp [h1],fun i r' hi=>?_⟩
  by_cases hin:i < n
  ·rw [List.getElem?_append_left (by omega)] at hi
   exact h2 i r' hi
  ·rw [List.getElem?_append_right (by omega)] at hi
   have:i=n:=by
    have:=(List.getElem?_eq_some_iff.1 hi).1
    simp at this
    omega
   subst this
   simp [h1] at hi
   subst hi
   exact hr
theorem CO {α:Type} {t e:TypeId} {k bs:Nat} (ht:Tryz.prog.underlying t=some (.slice e)) (hk:Tryz.prog.cellsOf e=k) (h0:0 < k) (hbs:Tryz.prog.bytesOf e=bs) (F:α→List AV) (Q:α→Prop) (hT:xB w)
  (hrow:∀ n cs' x,Tr w enc n e cs'=some x→qp e x.1→∃ r,Q r∧lK w (F r) cs'∧∃ u,cs'[0]?=some u∧sU u) {fuel:Nat} {cs:List Value} {x:DataW H × List MemPlace}
  (h:Tr w enc fuel t cs=some x) (hw:qp t x.1):∃ (l:List α) (v:Value),cs=[v]∧(∀ r ∈ l,Q r)∧l.length*bs≤reachBytes∧RD w (BG w) (.sl k (l.map F)) v∧v.oneCell'=true∧sU v:=by
 rcases open_slice ht h with ⟨rfl,_⟩ | ⟨a,len,cap,m,n,D,Pl,rfl,hb,hl,hm,hmm,rfl,hx⟩
 ·exact ⟨[],_,rfl,fun r hr=>by simp at hr,by simp,.sl k [] none 0 ⟨0,0,none⟩ (fun _ _=>undef) (by simp) (fun h=>absurd rfl h) (fun r hr=>by simp at hr) (fun i r j c hr=>by simp at hr) (fun r hr=>by simp at hr) (fun i r j c hr=>by simp at hr),rfl,fun n e=>by cases e⟩
 ·have hlm:len≤m:=by rw [hmm]; split <;> omega
  have hwe:∀ i,i < len→qp e (D i):=fun i hi q hq=>by
   refine hw q ?_
   simp only [DataW.weights,ht,List.mem_cons,List.mem_append]
   exact .inr (.inl (Sz (List.mem_map.2 ⟨i,List.mem_range.2 hi,rfl⟩) hq))
  have hbn:len*bs≤reachBytes:=by
   have:=hw ((((List.range len).map D).length+((List.range (m - len)).map fun j=>D (len+j)).length)*Tryz.prog.bytesOf e) (by simp [DataW.weights,ht])
   simp only [List.length_map,List.length_range,hbs] at this
   exact Nat.le_trans (Nat.mul_le_mul_right _ (by omega)) this
  obtain ⟨l,l1,l2⟩:=Jo (p:=fun i r=>Q r∧∃ cs',w.cells? 0 (a.add (i*k)) k=some cs'∧lK w (F r) cs'∧∃ u,cs'[0]?=some u∧sU u) len fun i hi=>by
   obtain ⟨cs',h1,h2⟩:=hx i (by omega)
   obtain ⟨r,g1,g2,g3⟩:=hrow _ _ _ h2 (hwe i hi)
   rw [hk] at h1
   exact ⟨r,g1,cs',h1,g2,g3⟩
  have cell:∀ (i:Nat) (row:List AV) (j:Nat) (c:AV),(l.map F)[i]?=some row→row[j]?=some c→∃ u,w.cell? (a.add (i*k+j))=some u∧RD w (BG w) c u∧ak c=true:=fun i row j c hi hj=>by
   simp only [List.getElem?_map,Option.map_eq_some_iff] at hi
   obtain ⟨r,hr,rfl⟩:=hi
   obtain ⟨_,cs',c1,c2,_⟩:=l2 i r hr
   obtain ⟨_,c3,c4⟩:=World.cells?_some c1
   have hjk:j < k:=by
    have:=(List.getElem?_eq_some_iff.1 hj).1
    rw [c2.1,c3] at this
    exact this
   have:=c4 j hjk
   rw [rl] at this
   obtain ⟨u,hu⟩:∃ u,cs'[j]?=some u:=⟨cs'[j]'(by omega),by simp⟩
   exact ⟨u,by rw [this,hu],(c2.2 j c u hj hu).1,(c2.2 j c u hj hu).2.1⟩
  refine ⟨l,_,rfl,fun r hr=>?_,by rw [l1]; exact hbn,?_,rfl,fun n e=>by cases e⟩
  ·obtain ⟨i,hi⟩:=List.getElem?_of_mem hr
   exact (l2 i r hi).1
  ·have:=RD.sl (w:=w) (A:=BG w) k (l.map F) (some a) cap a (fun i j=>(w.cell? (a.add (i*k+j))).getD undef) (by simp [l1,hl]) (fun hne=>?_) (fun row hr=>?_) (fun i row j c hi hj=>?_) (fun row hr c hc=>?_) (fun i row j c hi hj=>?_)
   ·simpa [l1] using this
   ·have hlen:0 < l.length:=List.length_pos_iff.2 fun e=>hne (by simp [e])
    obtain ⟨_,cs',c1,c2,u,c3,c4⟩:=l2 0 l[0] (by simp)
    have:=(World.cells?_some c1).2.2 0 h0
    rw [c3,Nat.zero_mul,rY,rY] at this
    obtain ⟨q1,q2⟩:=Sy hT this c4
    exact ⟨rfl,q1,q2⟩
   ·simp only [List.mem_map] at hr
    obtain ⟨r,hr,rfl⟩:=hr
    obtain ⟨i,hi⟩:=List.getElem?_of_mem hr
    obtain ⟨_,cs',c1,c2,_⟩:=l2 i r hi
    rw [c2.1]
    exact (World.cells?_some c1).2.1
   ·obtain ⟨u,q1,_⟩:=cell i row j c hi hj
    rw [q1]; rfl
   ·obtain ⟨i,hi⟩:=List.getElem?_of_mem hr
    obtain ⟨j,hj⟩:=List.getElem?_of_mem hc
    obtain ⟨u,_,_,q⟩:=cell i row j c hi hj
    exact q
   ·obtain ⟨u,q1,q2,_⟩:=cell i row j c hi hj
    rw [q1]; exact q2
theorem QO {n:Nat} {cs:List Value} {x:DataW H × List MemPlace} (h:Tr w enc n 77 cs=some x) (_:qp 77 x.1):∃ r:Nat,r < 4294967296∧lK w [U (r:Int)] cs∧∃ u,cs[0]?=some u∧sU u:=by
 obtain ⟨z,rfl,rfl,hw⟩:=DataW.trod_int Tryz.underlying77 h
 simp only [Lit.wf,Bool.and_eq_true,decide_eq_true_eq] at hw
 have h1:(0:Int)≤z:=hw.1
 have h2:z≤4294967295:=hw.2
 obtain ⟨m,rfl⟩:∃ m:Nat,z=m:=⟨z.toNat,by omega⟩
 exact ⟨m,by omega,.one (.v _ rfl) rfl rfl,_,rfl,fun n e=>by cases e⟩
theorem QP {n:Nat} {cs:List Value} {x:DataW H × List MemPlace} (h:Tr w enc n 3 cs=some x) (_:qp 3 x.1):∃ r:Int,True∧lK w [I r] cs∧∃ u,cs[0]?=some u∧sU u:=by
 obtain ⟨z,rfl,rfl,hw⟩:=DataW.trod_int Tryz.underlying3 h
 exact ⟨z,trivial,.one (.v _ rfl) rfl rfl,_,rfl,fun n e=>by cases e⟩
theorem Mu (hT:xB w) {n:Nat} {cs:List Value} {x:DataW H × List MemPlace} (h:Tr w enc n 25 cs=some x) (hw:qp 25 x.1):∃ m:List Nat,(Lb m∧m.length < 4611686018427387904)∧lK w [lm m] cs∧∃ u,cs[0]?=some u∧sU u:=by
 obtain ⟨l,v,rfl,h1,h2,h3,h4,h5⟩:=CO (k:=1) (bs:=4) Tryz.underlying25 (by kernel_rfl) (by decide) (by kernel_rfl) (fun (r:Nat)=>[U (r:Int)]) (fun r=>r < 4294967296) hT (fun n cs' x=>QO) h hw
 refine ⟨l,⟨h1,?_⟩,.one h3 rfl h4,_,rfl,h5⟩
 unfold reachBytes at h2
 omega
theorem OF (hT:xB w) {n:Nat} {cs:List Value} {x:DataW H × List MemPlace} (h:Tr w enc n 60 cs=some x) (hw:qp 60 x.1):∃ m:List Int,True∧lK w [.sl 1 (aY m)] cs∧∃ u,cs[0]?=some u∧sU u:=by
 obtain ⟨l,v,rfl,h1,h2,h3,h4,h5⟩:=CO (k:=1) (bs:=8) Tryz.underlying60 (by kernel_rfl) (by decide) (by kernel_rfl) (fun (r:Int)=>[I r]) (fun r=>True) hT (fun n cs' x=>QP) h hw
 exact ⟨l,trivial,.one h3 rfl h4,_,rfl,h5⟩
theorem SA (hT:xB w) {n:Nat} {cs:List Value} {x:DataW H × List MemPlace} (h:Tr w enc n 27 cs=some x) (hw:qp 27 x.1):∃ d:Rd,Ok0 d∧lK w (aW d) cs∧∃ u,cs[0]?=some u∧sU u:=by
 obtain ⟨y0,y1,y2,m,rfl,hl,h0,h1,h2⟩:=trod_struct3 Tryz.underlying27 h
 have hl3:cs.length=3:=hl.trans (by kernel_rfl)
 match cs,hl3 with
 | [a,b,c],_ =>
  have k0:Tr w enc m 4 [a]=some y0:=h0
  have k1:Tr w enc m 25 [b]=some y1:=h1
  have k2:Tr w enc m 3 [c]=some y2:=h2
  have w1:qp 25 y1.1:=fun q hq=>hw q (by simp [DataW.weights,DataW.weightsEach,Tryz.underlying27]; exact .inr (.inl hq))
  obtain ⟨bb,e0,e1⟩:=DataW.trod_bool Tryz.underlying4 k0
  simp only [List.cons.injEq,and_true] at e0
  subst e0
  obtain ⟨l,⟨q1,q2⟩,q3,_⟩:=Mu hT k1 w1
  obtain ⟨z,e2,e3,_⟩:=DataW.trod_int Tryz.underlying3 k2
  simp only [List.cons.injEq,and_true] at e2
  subst e2
  exact ⟨⟨bb,l,z⟩,⟨q1,q2⟩,(lK.one (.v _ rfl) rfl rfl).app (q3.app (.one (.v _ rfl) rfl rfl)),_,rfl,fun n e=>by cases e⟩
theorem OG (hT:xB w) {n:Nat} {cs:List Value} {x:DataW H × List MemPlace} (h:Tr w enc n 62 cs=some x) (hw:qp 62 x.1):∃ d:Rt,Ok0 d.c∧lK w (bv d) cs∧∃ u,cs[0]?=some u∧sU u:=by
 obtain ⟨y0,y1,m,rfl,hl,h0,h1⟩:=trod_struct2 Tryz.underlying62 h
 have hl3:cs.length=4:=hl.trans (by kernel_rfl)
 match cs,hl3 with
 | [a,b,c,d],_ =>
  have k0:Tr w enc m 60 [a]=some y0:=h0
  have k1:Tr w enc m 27 [b,c,d]=some y1:=h1
  have w0:qp 60 y0.1:=fun q hq=>hw q (by simp [DataW.weights,DataW.weightsEach,Tryz.underlying62]; exact .inl hq)
  have w1:qp 27 y1.1:=fun q hq=>hw q (by simp [DataW.weights,DataW.weightsEach,Tryz.underlying62]; exact .inr hq)
  obtain ⟨l,_,q3,q4⟩:=OF hT k0 w0
  obtain ⟨d,d1,d2,_⟩:=SA hT k1 w1
  exact ⟨⟨l,d⟩,d1,q3.app d2,q4⟩
theorem Ai (hT:xB w) {n:Nat} {us:Array Value} {x:DataW H × List MemPlace} (h:Tr w enc n 24 us.toList=some x) (hw:qp 24 x.1):∃ a:Rp,((∀ t ∈ a.terms,Ok0 t.c)∧a.terms.length < 4611686018427387904)∧RD w (BG w) (aZ a) (.agg us):=by
 obtain ⟨y0,y1,m,rfl,hl,h0,h1⟩:=trod_struct2 Tryz.underlying24 h
 have hl3:us.toList.length=2:=hl.trans (by kernel_rfl)
 obtain ⟨cs⟩:=us
 simp only at hl3 h0 h1
 match cs,hl3 with
 | [a,b],_ =>
  have k0:Tr w enc m 3 [a]=some y0:=h0
  have k1:Tr w enc m 22 [b]=some y1:=h1
  have w1:qp 22 y1.1:=fun q hq=>hw q (by simp [DataW.weights,DataW.weightsEach,Tryz.underlying24]; exact .inr hq)
  obtain ⟨z,e2,e3,_⟩:=DataW.trod_int Tryz.underlying3 k0
  simp only [List.cons.injEq,and_true] at e2
  subst e2
  obtain ⟨l,v,e4,q1,q2,q3,q4,q5⟩:=CO (k:=4) (bs:=64) Tryz.underlying22 (by kernel_rfl) (by decide) (by kernel_rfl) bv (fun t=>Ok0 t.c) hT (fun n cs' x=>OG hT) k1 w1
  simp only [List.cons.injEq,and_true] at e4
  subst e4
  refine ⟨⟨z,l⟩,⟨q1,by show l.length < _; unfold reachBytes at q2; omega⟩,?_⟩
  have rc:lK w [I z,.sl 4 (l.map bv)] [.int .i64 z,b]:=(lK.one (.v _ rfl) rfl rfl).app (.one q3 rfl q4)
  refine .agg _ _ rfl (fun i u hu=>?_) fun i c u hc hu=>?_
  ·have hu':[Value.int .i64 z,b][i]?=some u:=by simpa using hu
   obtain ⟨c,hc⟩:∃ c,[I z,AV.sl 4 (l.map bv)][i]?=some c:=⟨_,List.getElem?_eq_getElem (by have:=(List.getElem?_eq_some_iff.1 hu').1; simpa using this)⟩
   exact (rc.2 i c u hc hu').2.2
  ·exact (rc.2 i c u hc (by simpa using hu)).1
end
end Go.Ab
namespace Go.Ab
open Go Go.Proofs Go.Shelf
def sz:Ren:=⟨fun | 166=>104 | 167=>103 | 169=>105 | 240=>138 | 276=>156 | n=>n,fun | 0=>0 | 3=>3 | 4=>4 | 5=>5 | 9=>9 | 20=>20 | 37=>121 | 70=>120 | 72=>123 | 75=>125 | 80=>129 | 127=>145 | 164=>159 | n=>n,fun n=>n⟩
theorem Dx:Lays.n166 Tryz.prog sz where
 mixed:=by kernel_rfl
 f166:=by kernel_rfl
 f240:=by kernel_rfl
 f276:=by kernel_rfl
 t0:=by kernel_rfl
 a0:=Tryz.isAgg0
 z0:=Tryz.sizeOf0
 v0:=Tryz.zeroValue0
 t3:=by kernel_rfl
 a3:=Tryz.isAgg3
 z3:=Tryz.sizeOf3
 v3:=Tryz.zeroValue3
 t4:=by kernel_rfl
 a4:=Tryz.isAgg4
 z4:=Tryz.sizeOf4
 v4:=Tryz.zeroValue4
 t9:=by kernel_rfl
 a9:=Tryz.isAgg9
 z9:=Tryz.sizeOf9
 v9:=Tryz.zeroValue9
 t20:=by kernel_rfl
 a20:=Tryz.isAgg20
 z20:=Tryz.sizeOf20
 v20:=Tryz.zeroValue20
 t37:=by kernel_rfl
 a37:=Tryz.isAgg121
 z37:=Tryz.sizeOf121
 v37:=Tryz.zeroValue121
 t70:=by kernel_rfl
 a70:=Tryz.isAgg120
 z70:=Tryz.sizeOf120
 v70:=Tryz.zeroValue120
 t72:=by kernel_rfl
 a72:=Tryz.isAgg123
 z72:=Tryz.sizeOf123
 v72:=Tryz.zeroValue123
 t75:=by kernel_rfl
 a75:=Tryz.isAgg125
 z75:=Tryz.sizeOf125
 v75:=Tryz.zeroValue125
 t164:=by kernel_rfl
 a164:=Tryz.isAgg159
 z164:=Tryz.sizeOf159
 v164:=Tryz.zeroValue159
theorem Mv:Lays.n167 Tryz.prog sz where
 mixed:=by kernel_rfl
 f167:=by kernel_rfl
 f240:=by kernel_rfl
 f276:=by kernel_rfl
 t0:=by kernel_rfl
 a0:=Tryz.isAgg0
 z0:=Tryz.sizeOf0
 v0:=Tryz.zeroValue0
 t4:=by kernel_rfl
 a4:=Tryz.isAgg4
 z4:=Tryz.sizeOf4
 v4:=Tryz.zeroValue4
 t5:=by kernel_rfl
 a5:=Tryz.isAgg5
 z5:=Tryz.sizeOf5
 v5:=Tryz.zeroValue5
 t9:=by kernel_rfl
 a9:=Tryz.isAgg9
 z9:=Tryz.sizeOf9
 v9:=Tryz.zeroValue9
 t20:=by kernel_rfl
 a20:=Tryz.isAgg20
 z20:=Tryz.sizeOf20
 v20:=Tryz.zeroValue20
 t37:=by kernel_rfl
 a37:=Tryz.isAgg121
 z37:=Tryz.sizeOf121
 v37:=Tryz.zeroValue121
 t70:=by kernel_rfl
 a70:=Tryz.isAgg120
 z70:=Tryz.sizeOf120
 v70:=Tryz.zeroValue120
 t72:=by kernel_rfl
 a72:=Tryz.isAgg123
 z72:=Tryz.sizeOf123
 v72:=Tryz.zeroValue123
 t75:=by kernel_rfl
 a75:=Tryz.isAgg125
 z75:=Tryz.sizeOf125
 v75:=Tryz.zeroValue125
 t164:=by kernel_rfl
 a164:=Tryz.isAgg159
 z164:=Tryz.sizeOf159
 v164:=Tryz.zeroValue159
theorem Dy:Lays.n169 Tryz.prog sz where
 mixed:=by kernel_rfl
 f169:=by kernel_rfl
 t0:=by kernel_rfl
 a0:=Tryz.isAgg0
 z0:=Tryz.sizeOf0
 v0:=Tryz.zeroValue0
 t3:=by kernel_rfl
 a3:=Tryz.isAgg3
 z3:=Tryz.sizeOf3
 v3:=Tryz.zeroValue3
 t9:=by kernel_rfl
 a9:=Tryz.isAgg9
 z9:=Tryz.sizeOf9
 v9:=Tryz.zeroValue9
 t37:=by kernel_rfl
 a37:=Tryz.isAgg121
 z37:=Tryz.sizeOf121
 v37:=Tryz.zeroValue121
 t70:=by kernel_rfl
 a70:=Tryz.isAgg120
 z70:=Tryz.sizeOf120
 v70:=Tryz.zeroValue120
 t72:=by kernel_rfl
 a72:=Tryz.isAgg123
 z72:=Tryz.sizeOf123
 v72:=Tryz.zeroValue123
 t127:=by kernel_rfl
 a127:=Tryz.isAgg145
 z127:=Tryz.sizeOf145
 v127:=Tryz.zeroValue145
theorem tZ:Builder.Extra Tryz.prog sz where
 sizeBuilder:=by kernel_rfl
 liesBuilder:=by kernel_rfl
 t5:=by kernel_rfl
 a5:=Tryz.isAgg5
 z5:=Tryz.sizeOf5
 v5:=Tryz.zeroValue5
 infoByte:=by kernel_rfl
 cellsByte:=by kernel_rfl
 sizeByte:=by kernel_rfl
 neB5:=by decide
end Go.Ab
namespace Go.Ab
open Go Go.Proofs Go.Shelf Go.RowKit
set_option maxHeartbeats 4000000
set_option maxRecDepth 1000000
theorem BH {T e:TypeId} {B b:Nat} {p:Value} {bs:List Value} {w w':World} (h:Lib.BuilderAtF T e B b p bs w) (hb:Below w.heap.size w w'):Lib.BuilderAtF T e B b p bs w':=by
 obtain ⟨h1,v,h2,⟨h3,h4⟩,h5⟩:=h
 have hlt:b < w.heap.size:=(Array.getElem?_eq_some_iff.1 h2).1
 refine ⟨h1,v,(hb.block _ hlt).trans h2,⟨h3,?_⟩,h5⟩
 rcases h4 with h4 | ⟨g,cap,sy,fz,g1,g2,g3,g4⟩
 ·exact .inl h4
 ·exact .inr ⟨g,cap,sy,fz,g1,g2,(hb.block _ (Array.getElem?_eq_some_iff.1 g3).1).trans g3,g4⟩
theorem BI {T e:TypeId} {B b:Nat} {bs:List Value} {w w':World} (h:Lib.IsBuilderF T e B b bs w) (hb:Below w.heap.size w w'):Lib.IsBuilderF T e B b bs w':=h.imp (fun h=>BH h hb) (fun h=>BH h hb)
theorem QQ (n:Bool) (a:Option Addr) (l cap:Nat) (e:Int) (t u:List UInt8) (w:World) (hl:(l:Int) ≠ 0) (ht:t.length≤10000) (hu:u.length≤1000)
  (hV:∀ w1,Below w.heap.size w w1→Calls Tryz.prog F.dyadic_Valid #[.agg #[.bool n,.slice a l cap,.int .i64 e]] w1 fun x w2=>x=.returned (.bool true)∧Below w1.heap.size w1 w2)
  (hT:∀ w1,Below w.heap.size w w1→Calls Tryz.prog F.natural_Text #[.slice a l cap] w1 fun x w2=>x=.returned (.tuple #[.string ⟨t.toArray⟩,.int .i64 0])∧Below w1.heap.size w1 w2)
  (hI:∀ w1,Below w.heap.size w w1→Calls Tryz.prog F.strconv_Itoa #[.int .i64 e] w1 fun x w2=>x=.returned (.string ⟨u.toArray⟩)∧Below w1.heap.size w1 w2) :
  Calls Tryz.prog F.dyadic_Text #[.agg #[.bool n,.slice a l cap,.int .i64 e]] w fun x w'=>x=.returned (.tuple #[.string ⟨((if n then [45] else [])++t++[112]++u).toArray⟩,.int .i64 0])∧Below w.heap.size w w':=by
 go_enter Tryz.func71,Tryz.ntmps71
 go_wp2_with (go_at_call 36; refine (hV _ ((Below.refl _ w).alloc (Nat.le_refl _) _)).mono ?_)
 rintro x W1 ⟨rfl,b1⟩
 have b01:Below w.heap.size w W1:=((Below.refl _ w).alloc (Nat.le_refl _) _).trans (b1.mono (by simp))
 have s1:w.heap.size < W1.heap.size:=Nat.lt_of_lt_of_le (by simp) b1.size
 have hb1:W1.heap[w.heap.size]?=some (.cells #[.bool n,.slice a l cap,.int .i64 e] 27 (0,0)):=by
  rw [b1.block _ (by simp)]
  exact heap_alloc_new w _
 have c1:W1.cell? ⟨w.heap.size,1,none⟩=some (.slice a l cap):=by simp [World.cell?,hb1]
 go_wp2_with (go_at_call 102; refine (hT _ b01).mono ?_)
 rintro x W2 ⟨rfl,b2⟩
 have b02:Below w.heap.size w W2:=b01.trans (b2.mono (by omega))
 have s2:w.heap.size < W2.heap.size:=Nat.lt_of_lt_of_le s1 b2.size
 have hb2:W2.heap[w.heap.size]?=some (.cells #[.bool n,.slice a l cap,.int .i64 e] 27 (0,0)):=(b2.block _ s1).trans hb1
 have hb3:(W2.alloc (.cells #[.pointer none,.slice none 0 0] 123)).heap[w.heap.size]?=some (.cells #[.bool n,.slice a l cap,.int .i64 e] 27 (0,0)):=(pi W2 _ s2).trans hb2
 have d0:(W2.alloc (.cells #[.pointer none,.slice none 0 0] 123)).cell? ⟨w.heap.size,0,none⟩=some (.bool n):=by simp only [World.cell?,hb3]; rfl
 have d2:(W2.alloc (.cells #[.pointer none,.slice none 0 0] 123)).cell? ⟨w.heap.size,2,none⟩=some (.int .i64 e):=by simp only [World.cell?,hb3]; rfl
 have hB:=Lib.IsBuilderF.of (Lib.fresh_isBuilder 123 5 W2)
 have b03:Below w.heap.size w (W2.alloc (.cells #[.pointer none,.slice none 0 0] 123)):=b02.trans ((Below.refl _ W2).alloc (Nat.le_of_lt s2) _)
 have sS:(ByteArray.mk t.toArray++ByteArray.mk #[112]++ByteArray.mk u.toArray).data.toList=t++[112]++u:=by simp
 have sZ:(ByteArray.mk t.toArray++ByteArray.mk #[112]++ByteArray.mk u.toArray).size=t.length+1+u.length:=by simp [ByteArray.size]; omega
 cases n with
 | true =>
  go_wp2_with (go_at_call 103; refine (Any.Builder_WriteByte_k Mv tZ W2.heap.size W2.heap.size [] 45 _ hB (by simp) (by simp)).mono ?_)
  rintro x W3 ⟨rfl,hB3,b3,_⟩
  have b03':Below w.heap.size w W3:=b03.trans (b3.mono (Nat.le_of_lt s2))
  have e2:W3.cell? ⟨w.heap.size,2,none⟩=some (.int .i64 e):=by simp only [World.cell?,(b3.block _ s2).trans hb3]; rfl
  go_wp2_with (go_at_call 72; refine (hI _ b03').mono ?_)
  rintro x W4 ⟨rfl,b4⟩
  have b04:Below w.heap.size w W4:=b03'.trans (b4.mono b03'.size)
  have hB4:=BI (.inr hB3) b4
  have s4:W2.heap.size≤W4.heap.size:=Nat.le_trans (Nat.le_trans (by simp) b3.size) b4.size
  go_wp2_with (go_at_call 104; refine (Any.Builder_WriteString_k Dx tZ W2.heap.size W2.heap.size _ (ByteArray.mk t.toArray++ByteArray.mk #[112]++ByteArray.mk u.toArray) _ hB4 (by rw [sZ]; simp; omega) s4).mono ?_)
  rintro x W5 ⟨rfl,hB5,b5,_⟩
  have b05:Below w.heap.size w W5:=b04.trans (b5.mono (Nat.le_of_lt s2))
  have hB5':Lib.IsBuilderF (sz.t 72) (sz.t 5) W2.heap.size W2.heap.size (Lib.byteCells (45::(t++[112]++u))) W5:=by
   rw [show Lib.byteCells (45::(t++[112]++u))=[]++[Value.int .u8 45]++Lib.strCells (ByteArray.mk t.toArray++ByteArray.mk #[112]++ByteArray.mk u.toArray) by rw [Lib.strCells_eq,sS]; rfl]
   exact .inr hB5
  go_wp2_with (go_at_call 105; refine (Any.Builder_String_any_k Dy tZ W2.heap.size W2.heap.size _ _ hB5' (Nat.le_trans s4 b5.size)).mono ?_)
  rintro x W6 ⟨rfl,_,b6,_⟩
  go_wp2
  go_ret2
  exact ⟨by simp,b05.trans (b6.mono (Nat.le_of_lt s2))⟩
 | false =>
  go_wp2_with (go_at_call 72; refine (hI _ b03).mono ?_)
  rintro x W4 ⟨rfl,b4⟩
  have b04:Below w.heap.size w W4:=b03.trans (b4.mono b03.size)
  have hB4:=BI hB b4
  have s4:W2.heap.size≤W4.heap.size:=Nat.le_trans (by simp) b4.size
  go_wp2_with (go_at_call 104; refine (Any.Builder_WriteString_k Dx tZ W2.heap.size W2.heap.size _ (ByteArray.mk t.toArray++ByteArray.mk #[112]++ByteArray.mk u.toArray) _ hB4 (by rw [sZ]; simp; omega) s4).mono ?_)
  rintro x W5 ⟨rfl,hB5,b5,_⟩
  have b05:Below w.heap.size w W5:=b04.trans (b5.mono (Nat.le_of_lt s2))
  have hB5':Lib.IsBuilderF (sz.t 72) (sz.t 5) W2.heap.size W2.heap.size (Lib.byteCells (t++[112]++u)) W5:=by
   rw [show Lib.byteCells (t++[112]++u)=[]++Lib.strCells (ByteArray.mk t.toArray++ByteArray.mk #[112]++ByteArray.mk u.toArray) by rw [Lib.strCells_eq,sS]; rfl]
   exact .inr hB5
  go_wp2_with (go_at_call 105; refine (Any.Builder_String_any_k Dy tZ W2.heap.size W2.heap.size _ _ hB5' (Nat.le_trans s4 b5.size)).mono ?_)
  rintro x W6 ⟨rfl,_,b6,_⟩
  go_wp2
  go_ret2
  exact ⟨by simp,b05.trans (b6.mono (Nat.le_of_lt s2))⟩
end Go.Ab
namespace Go.Ab
open Go Go.Proofs Go.Shelf Go.RowKit
set_option maxRecDepth 100000
theorem iP {args:List AV} {vals:Array Value} (h:vals.size=args.length) {i:Nat} {c:AV} (hc:args[i]?=some c):∃ u,vals[i]?=some u:=by
 have:i < args.length:=(List.getElem?_eq_some_iff.1 hc).1
 exact ⟨vals[i]'(by omega),by simp [h,this]⟩
theorem SB {vals:Array Value} {a:Value} (h:vals.size=1) (h0:vals[0]?=some a):vals=#[a]:=by
 apply Array.ext_getElem?
 intro i
 match i with
 | 0=>simpa using h0
 | i+1=>simp [h]
theorem SC {vals:Array Value} {a b:Value} (h:vals.size=2) (h0:vals[0]?=some a) (h1:vals[1]?=some b):vals=#[a,b]:=by
 apply Array.ext_getElem?
 intro i
 match i with
 | 0=>simpa using h0
 | 1=>simpa using h1
 | i+2=>simp [h]
theorem Dz {w:World} {a:Addr} {us:Array Value} {e:TypeId} (h:w.heap[a.block]?=some (.cells us e (0,0))):w.frozen? a=false:=by
 simp [World.frozen?,h]
theorem QR {P:Program} (w:World) (tS tR e:TypeId) (ht:P.underlying tS=some (.slice e)) (size:Nat) (hz:∀ w,(Go.sizeOf e).run P w=.ok size w) (a:Addr) (b:Option Addr) (la ca cb:Nat) :
  (Extern.SlicesOverlaps.overlaps #[tS,tS] #[tR] #[.slice (some a) la ca,.slice b 0 cb]).run P w=.ok (.bool false) w:=by
 change Sem.run P (α:=Value) (do
  let some t := (#[tS, tS] : Array TypeId)[0]? | stuck "slices.overlaps: no parameter types"
  let .slice elem ← underlying t | stuck "slices.overlaps: slice type expected"
  let size ← sizeOf elem
  match (some a:Option Addr),b with
  | some a,some b =>
   if la=0∨0=0∨size=0 then pure (Value.bool false)
   else if a.block != b.block && (← frozen a) && (← frozen b) then unsupported .addressObserved
   else do
    if a.block != b.block then do
     noView a; noView b
     if ← mayBeOne a b then return Value.bool ((← choose (.extern "sameAddr.stringBytes" 2)) == 1)
    pure (Value.bool (a.block == b.block && a.off < b.off+0*size && b.off < a.off+la*size))
  | _,_=>pure (Value.bool false)) w=_
 cases b <;> simp [run_underlying ht,hz]
theorem SD {P:Program} (w:World) (tS tR e:TypeId) (ht:P.underlying tS=some (.slice e)) (size:Nat) (hz:∀ w,(Go.sizeOf e).run P w=.ok size w)
  (a b:Addr) (la ca lb cb:Nat) (hne:a.block ≠ b.block) (tA:TypeId) (kA:Nat) {us:Array Value} {tB:TypeId}
  (hkA:kA ≠ 0) (hsa:w.shape? a.block=some (tA,kA)) (hb:w.heap[b.block]?=some (.cells us tB (0,0))) (hu:us.size ≠ 0) :
  (Extern.SlicesOverlaps.overlaps #[tS,tS] #[tR] #[.slice (some a) la ca,.slice (some b) lb cb]).run P w=.ok (.bool false) w:=by
 have hnb:(a.block != b.block)=true:=by simpa using hne
 have hnb':(a.block == b.block)=false:=by simpa using hne
 have hsb:w.shape? b.block=some (tB,us.size):=by simp [World.shape?,hb]
 have hfb:w.frozen? b=false:=Dz hb
 have hfe:w.frozen? { block:=b.block,off:=us.size }=false:=Dz (a:=⟨b.block,us.size,none⟩) hb
 change Sem.run P (α:=Value) (do
  let some t := (#[tS, tS] : Array TypeId)[0]? | stuck "slices.overlaps: no parameter types"
  let .slice elem ← underlying t | stuck "slices.overlaps: slice type expected"
  let size ← sizeOf elem
  match (some a:Option Addr),(some b:Option Addr) with
  | some a,some b =>
   if la=0∨lb=0∨size=0 then pure (Value.bool false)
   else if a.block != b.block && (← frozen a) && (← frozen b) then unsupported .addressObserved
   else do
    if a.block != b.block then do
     noView a; noView b
     if ← mayBeOne a b then return Value.bool ((← choose (.extern "sameAddr.stringBytes" 2)) == 1)
    pure (Value.bool (a.block == b.block && a.off < b.off+lb*size && b.off < a.off+la*size))
  | _,_=>pure (Value.bool false)) w=_
 by_cases h0:la=0∨lb=0∨size=0
 ·simp [run_underlying ht,hz,h0]
 ·obtain ⟨n,hn⟩:∃ n,us.size=n+1:=⟨us.size - 1,by omega⟩
  rw [hn] at hsb hfe
  obtain ⟨kA,rfl⟩:∃ k,kA=k+1:=⟨kA - 1,by omega⟩
  cases hfa:w.frozen? a <;> cases hfa2:w.frozen? { block:=a.block,off:=kA+1 } <;>
   simp [run_underlying ht,hz,h0,hnb,hnb',frozen,noView,viewAt,mayBeOne,stringish,shape,Sem.run,hsa,hsb,hfa,hfa2,hfb,hfe]
theorem KJ {w:World} {a:Addr} {v:Value} (h:w.cell? a=some v):∃ t k,k ≠ 0∧w.shape? a.block=some (t,k):=by
 unfold World.cell? at h
 split at h
 ·rename_i cs t fr hb
  refine ⟨t,cs.size,fun h0=>?_,by unfold World.shape?; rw [hb]⟩
  split at h
  ·cases h
  ·have:=(Array.getElem?_eq_some_iff.1 h).1
   omega
 ·cases h
theorem SE {P : Program} {I : Inv} {f : FuncId} {fn : Func} {tS tR e : TypeId} {size : Nat} (hf : P.funcs[f]? = some fn) (hname : (fn.name == "runtime.NumGoroutine") = false) (hb : fn.body.isNone = true) (hn : Extern.findNext fn = none)
  (he:Extern.find fn=some (Extern.SlicesOverlaps.overlaps #[tS,tS] #[tR])) (ht:P.underlying tS=some (.slice e)) (hz:∀ w,(Go.sizeOf e).run P w=.ok size w):fj P I false f (II 4):=by
 intro args obs obs' res w X ρ vals n hz' hn' hi hr hs hv
 unfold II at hz'
 split at hz'
 ·rename_i k0 row rows k1 lo m k2 rows2
  split at hz'
  ·rename_i hk
   obtain ⟨rfl,rfl,rfl⟩:=hk
   cases hz'
   obtain ⟨u0,h0⟩:=iP hs (i:=0) rfl
   obtain ⟨u1,h1⟩:=iP hs (i:=1) rfl
   have e0:=hv 0 _ _ rfl h0
   have e1:=hv 1 _ _ rfl h1
   obtain rfl:=SC hs h0 h1
   have d0:=e0.sl_inv
   obtain ⟨a1,cap1,rfl,hp,hn1,hb1,ha1⟩:=e1.rsl_inv
   have ho:RO w (ao w X (ae [.ar 4 rows2]) ρ) ρ (ae [.ar 4 rows2]) 1000 (.ar 4 rows2):=hr.ob 1000
   obtain ⟨us,tB,g1,g2,g3,g4⟩:=ho
   have hlive:live (ae [.ar 4 rows2]) 1000 none:=trivial
   cases d0 with
   | sl _ _ a cap ad vs hc ha hk hv2 hl hr2 =>
    obtain ⟨rfl,hA,hsp⟩:=ha (by simp)
    have hlen:=hk row (by simp)
    obtain ⟨c,hrow⟩:∃ c,row[0]?=some c:=⟨row[0]'(by omega),by simp⟩
    have hcell:=hv2 0 row 0 c rfl hrow
    obtain ⟨tA,kA,hkA,hsh⟩:=KJ hcell
    rw [im] at hsh
    have run:(callFunc f #[.slice (some ad) (row::rows).length cap,.slice a1 m cap1]).run P w=.ok (.value (.bool false)) w:=by
     rw [run_callFunc_extern hf hname hb hn he]
     by_cases hm:m=0
     ·subst hm
      rw [QR w tS tR e ht size hz]
      rfl
     ·rcases ha1 with h | rfl
      ·omega
      ·rw [SD w tS tR e ht size hz ad ⟨(ρ 1000 none).1,lo*4,none⟩ _ cap m cap1 (fun hh=>hA.2.2 ⟨1000,none,hlive,hh.symm⟩) tA kA hkA hsh g1 (by omega)]
       rfl
    unfold Enters
    rw [run]
    exact ⟨ρ,hr,.refl _ _ _ _,.dat (.v _ rfl)⟩
  ·cases hz'
 ·cases hz'
theorem QS {P:Program} {I:Inv} (hR:fj P I false F.slices_Insert_api_Term_api_Term_ (R0 F.slices_Insert_api_Term_api_Term_)):fj P I false F.slices_Insert_api_Term_api_Term_ (Gc 4 64):=by
 intro args obs obs' res w X ρ vals n hz hn hi hr hs hv
 unfold Gc at hz
 split at hz
 ·rename_i k0 r
  split at hz
  ·rename_i hk
   subst hk
   cases hz
   exact hR QK hn hi hr hs hv
  ·cases hz
 ·rename_i k1 m i k0 r k2 rows
  split at hz
  ·rename_i hk
   obtain ⟨rfl,rfl,rfl,rfl,hi0,hi1,hb⟩:=hk
   cases hz
   obtain ⟨i,rfl⟩:=Int.eq_ofNat_of_zero_le hi0
   rw [Int.toNat_natCast]
   by_cases hend:i=rows.length
   ·subst hend
    have:=hR (Mr (r:=r) rfl hb) hn hi hr hs hv
    rw [List.take_of_length_le (Nat.le_refl _),List.drop_eq_nil_of_le (Nat.le_refl _)]
    exact this
   ·have hlt:i < rows.length:=by omega
    obtain ⟨u0,h0⟩:=iP hs (i:=0) rfl
    obtain ⟨a,cap,rfl,hp,hn1,hb1,ha⟩:=(hv 0 _ _ rfl h0).rsl_inv
    have hv':∀ (j:Nat) (c:AV) (u:Value),[AV.rsc 1000 4 0 rows.length cap,.v (.int .i64 i),.sl 4 [r]][j]?=some c→vals[j]?=some u→RV w (ao w X (ae [.ar 4 rows]) ρ) ρ (ae [.ar 4 rows]) c u:=by
     intro j c u hc hu
     match j,hc with
     | 0,hc =>
      cases hc
      rw [h0] at hu
      cases hu
      exact .rsc 1000 4 0 _ cap a hp hn1 hb1 ha
     | j+1,hc=>exact hv (j+1) c u hc hu
    rcases Nat.lt_or_ge rows.length cap with hc | hc
    ·exact hR (QN rfl hlt hc hb) hn hi hr hs hv'
    ·obtain rfl:cap=rows.length:=by omega
     refine (hR (QM rfl hlt hb) hn hi hr hs hv').mono fun v w' ⟨ρ',q1,q2,q3⟩=>?_
     generalize rows.take i++r::rows.drop i=L at q1 q2 q3 ⊢
     have hd:=AE q1 (id:=1000) (k:=4) (rows:=rows) (by
      show (if 1000=n then _ else _)=_
      rw [if_neg (by omega)]
      rfl)
     have eq:upd (mat n (ae [.ar 4 rows]) (.osl 4 L)).2 1000 .dead=(mat n (ae [.dead]) (.osl 4 L)).2:=by
      show upd (upd (ae [.ar 4 rows]) n (.ar 4 L)) 1000 .dead=upd (ae [.dead]) n (.ar 4 L)
      rw [oQ,oQ]
      funext j
      unfold upd
      by_cases h1:j=1000
      ·rw [if_pos h1,if_neg (by omega),if_pos h1]
      ·rw [if_neg h1,if_neg h1,if_neg h1]
     rw [eq] at hd
     refine ⟨ρ',hd.1,q2.trans (hd.2.far rfl),hd.2.rvk q3 (.inr ?_)⟩
     show dT [(1000,false)] n none=false
     simp [dT]
     omega
  ·cases hz
 ·cases hz
theorem lL {w w':World} {X:Nat→Prop} {ρ:aT} (hr:Rel w X ρ (ae [])) (hb:Below w.heap.size w w'):Rel w' X ρ (ae [])∧Far false w ρ (ae []) w' ρ (ae []):=by
 have hl:∀ id sub,¬ live (ae []) id sub:=fun id sub=>by
  have hd:ae [] id=.dead:=by
   unfold ae
   split <;> simp
  cases sub with
  | none=>simp [live,hd]
  | some p=>simp [live,hd]
 refine ⟨⟨fun id sub _ _ h=>(hl id sub h).elim,fun id sub h=>(hl id sub h).elim,fun id=>?_,fun b hb'=>Nat.lt_of_lt_of_le (hr.xl b hb') hb.size⟩,hb.os,hb.tape,hb.output,hb.size,fun b h1 _=>hb.block b h1,fun b ⟨id,sub,h,_⟩=>(hl id sub h).elim,fun id _ h=>?_,fun h=>by cases h⟩
 ·have hd:ae [] id=.dead:=by
   unfold ae
   split <;> simp
  rw [hd]
  trivial
 ·exfalso
  apply h
  unfold ae
  split <;> simp
theorem Mw {w w':World} {X:Nat→Prop} {ρ:aT} {b:Nat} (h:ao w X (ae []) ρ b) (hb:Below w.heap.size w w'):ao w' X (ae []) ρ b∧w'.heap[b]?=w.heap[b]? :=
 ⟨⟨Nat.lt_of_lt_of_le h.1 hb.size,h.2.1,h.2.2⟩,hb.block b h.1⟩
theorem SF {P:Program} {I:Inv} {ρ0:Ren} (L:Lays2.n15 P ρ0) (hf:ρ0.f 15=F.slices_Clone_int_int_) (he:∀ a w,(callFunc F.slices_Clone_int_int_ a).run P w=.ok (.enter F.slices_Clone_int_int_ a) w)
  (hR:fj P I false F.slices_Clone_int_int_ (R0 F.slices_Clone_int_int_)):fj P I false F.slices_Clone_int_int_ LD:=by
 intro args obs obs' res w X ρ vals n hz hn hi hr hs hv
 unfold LD at hz
 split at hz
 ·cases hz
  obtain ⟨u0,h0⟩:=iP hs (i:=0) rfl
  have d0:=(hv 0 _ _ rfl h0).sl_inv
  obtain rfl:=SB hs h0
  cases d0 with
  | sl _ _ a cap ad vs hc ha hk hv2 hl hr2 =>
   unfold Enters
   rw [he]
   have fin:∀ (w':World) (b:Option Addr) (c:Nat),Below w.heap.size w w'→∃ ρ',Rel w' X ρ' (mat n (ae []) (.sl 1 [])).2∧Far false w ρ (ae []) w' ρ' (mat n (ae []) (.sl 1 [])).2 ∧
     RV w' (ao w' X (mat n (ae []) (.sl 1 [])).2 ρ') ρ' (mat n (ae []) (.sl 1 [])).2 (mat n (ae []) (.sl 1 [])).1 (.slice b 0 c):=fun w' b c hb =>
    ⟨ρ,(lL hr hb).1,(lL hr hb).2,.dat (.sl 1 [] b c ad vs (Nat.zero_le _) (fun h=>absurd rfl h) (fun _ h=>by cases h) (fun i row j c h=>by simp at h) (fun _ h=>by cases h) (fun i row j c h=>by simp at h))⟩
   cases a with
   | none =>
    have key:=Any.slices_Clone_int_nil L 0 cap w
    rw [hf] at key
    refine Calls.mono key fun e w' hw=>?_
    obtain ⟨rfl,rfl⟩:=hw
    exact fin _ _ _ (Below.refl _ _)
   | some a0 =>
    have key:=Any.slices_Clone_int_zero L a0 cap w
    rw [hf] at key
    refine Calls.mono key fun e w' hw=>?_
    obtain ⟨v',rfl,⟨_,hown⟩,_,hb⟩:=hw
    rcases hown with ⟨rfl,_⟩ | ⟨g,c2,sy,rfl,_⟩
    ·exact fin _ _ _ hb
    ·exact fin _ _ _ hb
 ·rename_i r rs
  split at hz
  ·rename_i hb
   cases hz
   exact hR (OD hb) hn hi hr hs hv
  ·cases hz
 ·cases hz
end Go.Ab
namespace Go.Ab
open Go Go.Proofs Go.RowKit
set_option maxRecDepth 100000
theorem RV.tup_inv {w:World} {A:Nat→Prop} {ρ:aT} {h:aa} {vs:List AV} {u:Value} (hv:RV w A ρ h (.tup vs) u):∃ us:Array Value,u=.tuple us∧us.size=vs.length∧∀ (i:Nat) (c:AV) (u:Value),vs[i]?=some c→us[i]?=some u→RV w A ρ h c u:=by
 cases hv with
 | dat hd=>cases hd
 | tup _ us hs hr=>exact ⟨us,rfl,hs,hr⟩
theorem Aj {P:Program} {I:Inv} {f:FuncId} {g:List AV→List Ob→Option (AV × List Ob)} (hR:fj P I false f g) {args:List AV} {vals:Array Value} {w:World} {X:Nat→Prop} {ρ:aT} {res:AV}
  (he:(callFunc f vals).run P w=.ok (.enter f vals) w) (hz:g args []=some (res,[])) (hm:mat 2000 (ae []) res=(res,ae [])) (hi:I.p w X) (hr:Rel w X ρ (ae [])) (hs:vals.size=args.length)
  (hv:∀ (i:Nat) (c:AV) (u:Value),args[i]?=some c→vals[i]?=some u→RV w (ao w X (ae []) ρ) ρ (ae []) c u) :
  Calls P f vals w fun e w'=>(∃ v ρ',e=.returned v∧RV w' (ao w' X (ae []) ρ') ρ' (ae []) res v)∧Below w.heap.size w w':=by
 have key:=hR hz (Nat.le_refl 2000) hi hr hs hv
 unfold Enters at key
 rw [he] at key
 refine Calls.mono key fun e w' hw=>?_
 cases e with
 | returned v =>
  obtain ⟨ρ',r,far,rv⟩:=hw
  rw [hm] at rv far
  have hl:∀ id sub,¬ live (ae []) id sub:=fun id sub=>by
   have hd:ae [] id=.dead:=by
    unfold ae
    split <;> simp
   cases sub with
   | none=>simp [live,hd]
   | some p=>simp [live,hd]
  exact ⟨⟨v,ρ',rfl,rv⟩,far.os,far.tape,far.output,far.size,fun k hk=>far.old k hk fun ⟨id,sub,h,_⟩=>hl id sub h⟩
 | _=>exact hw.elim
theorem OH (n:Bool) (e:Int) (he:e=0∨e=1):R0 F.dyadic_Valid [.agg [B n,.sl 1 [[U 1]],I e]] []=some (B true,[]):=by
 rcases he with rfl | rfl <;> cases n
 ·exact gX [] 40 (F.dyadic_Valid,[.agg [B false,.sl 1 [[U 1]],I 0]],B true) bL (by kernel_rfl)
 ·exact gX [] 40 (F.dyadic_Valid,[.agg [B true,.sl 1 [[U 1]],I 0]],B true) bL (by kernel_rfl)
 ·exact gX [] 40 (F.dyadic_Valid,[.agg [B false,.sl 1 [[U 1]],I 1]],B true) bL (by kernel_rfl)
 ·exact gX [] 40 (F.dyadic_Valid,[.agg [B true,.sl 1 [[U 1]],I 1]],B true) bL (by kernel_rfl)
theorem QT (e:Int) (he:e=0∨e=1):R0 F.strconv_Itoa [I e] []=some (S ⟨[if e=0 then (48:UInt8) else 49].toArray⟩,[]):=by
 rcases he with rfl | rfl
 ·exact gX [] 40 (F.strconv_Itoa,[I 0],S ⟨[(48:UInt8)].toArray⟩) bL (by kernel_rfl)
 ·exact gX [] 40 (F.strconv_Itoa,[I 1],S ⟨[(49:UInt8)].toArray⟩) bL (by kernel_rfl)
theorem OI:R0 F.natural_Text [.sl 1 [[U 1]]] []=some (.tup [S ⟨[(49:UInt8)].toArray⟩,I 0],[]) :=
 gX [] 60 (F.natural_Text,[.sl 1 [[U 1]]],.tup [S ⟨[(49:UInt8)].toArray⟩,I 0]) bL (by kernel_rfl)
theorem ZL {vals:Array Value} {a b c:Value} (h:vals.size=3) (h0:vals[0]?=some a) (h1:vals[1]?=some b) (h2:vals[2]?=some c):vals=#[a,b,c]:=by
 apply Array.ext_getElem?
 intro i
 match i with
 | 0=>simpa using h0
 | 1=>simpa using h1
 | 2=>simpa using h2
 | i+3=>simp [h]
theorem Vd {I:Inv} (hV:fj Tryz.prog I false F.dyadic_Valid (R0 F.dyadic_Valid)) (hT:fj Tryz.prog I false F.natural_Text (R0 F.natural_Text)) (hI:fj Tryz.prog I false F.strconv_Itoa (R0 F.strconv_Itoa))
  (eV:∀ a w,(callFunc F.dyadic_Valid a).run Tryz.prog w=.ok (.enter F.dyadic_Valid a) w) (eT:∀ a w,(callFunc F.natural_Text a).run Tryz.prog w=.ok (.enter F.natural_Text a) w)
  (eI:∀ a w,(callFunc F.strconv_Itoa a).run Tryz.prog w=.ok (.enter F.strconv_Itoa a) w) (eD:∀ a w,(callFunc F.dyadic_Text a).run Tryz.prog w=.ok (.enter F.dyadic_Text a) w) :
  fj Tryz.prog I false F.dyadic_Text RN:=by
 intro args obs obs' res w X ρ vals n hz hn hi hr hs hv
 unfold RN at hz
 split at hz
 ·rename_i nb m e
  split at hz
  ·rename_i hc
   obtain ⟨rfl,he,rfl⟩:=hc
   cases hz
   obtain ⟨u0,h0⟩:=iP hs (i:=0) rfl
   obtain ⟨us,rfl,hsz,_,hr2⟩:=(hv 0 _ _ rfl h0).agg_inv
   obtain rfl:=SB hs h0
   obtain ⟨v0,g0⟩:=iP (args:=[B nb,.sl 1 [[.v (.int .u32 1)]],.v (.int .i64 e)]) hsz (i:=0) rfl
   obtain ⟨v1,g1⟩:=iP (args:=[B nb,.sl 1 [[.v (.int .u32 1)]],.v (.int .i64 e)]) hsz (i:=1) rfl
   obtain ⟨v2,g2⟩:=iP (args:=[B nb,.sl 1 [[.v (.int .u32 1)]],.v (.int .i64 e)]) hsz (i:=2) rfl
   obtain ⟨rfl,_⟩:=(hr2 0 _ _ rfl g0).v_inv
   obtain ⟨rfl,_⟩:=(hr2 2 _ _ rfl g2).v_inv
   have d1:=(hr2 1 _ _ rfl g1).sl_inv
   obtain rfl:=ZL hsz g0 g1 g2
   obtain ⟨a,l,cap,rfl⟩:∃ a l cap,v1=.slice a l cap:=by
    cases d1
    exact ⟨_,_,_,rfl⟩
   have hl:l=1:=by
    cases d1
    rfl
   subst hl
   have d1':∀ {w1:World},Below w.heap.size w w1→RD w1 (ao w1 X (ae []) ρ) (.sl 1 [[.v (.int .u32 1)]]) (.slice a 1 cap):=fun hb=>d1.mono fun b h=>Mw h hb
   have inv:∀ {w1:World},Below w.heap.size w w1→I.p w1 X:=fun hb=>I.stab hi fun b h=>hb.block b (hr.xl b h)
   unfold Enters
   rw [eD]
   refine Calls.mono (QQ nb a 1 cap e [49] [if e=0 then 48 else 49] w (by decide) (by decide) (Nat.le_of_lt (by decide:1 < 1000)) (fun w1 hb=>?_) (fun w1 hb=>?_) fun w1 hb=>?_) fun ex w' hw=>?_
   ·refine Calls.mono (Aj hV (eV _ _) (OH nb e he) rfl (inv hb) (lL hr hb).1 rfl fun i c u hc hu=>?_) fun ex w2 hw=>?_
    ·match i,hc with
     | 0,hc =>
      cases hc
      cases hu
      refine .dat (.agg _ _ rfl (fun i u hu=>?_) fun i c u hc hu=>?_)
      ·match i,hu with
       | 0,hu=>cases hu; rfl
       | 1,hu=>cases hu; rfl
       | 2,hu=>cases hu; rfl
      ·match i,hc,hu with
       | 0,hc,hu=>cases hc; cases hu; exact .v _ rfl
       | 1,hc,hu=>cases hc; cases hu; exact d1' hb
       | 2,hc,hu=>cases hc; cases hu; exact .v _ rfl
    ·obtain ⟨⟨v,ρ',rfl,rv⟩,hb2⟩:=hw
     obtain ⟨rfl,_⟩:=rv.v_inv
     exact ⟨rfl,hb2⟩
   ·refine Calls.mono (Aj hT (eT _ _) OI rfl (inv hb) (lL hr hb).1 rfl fun i c u hc hu=>?_) fun ex w2 hw=>?_
    ·match i,hc with
     | 0,hc =>
      cases hc
      cases hu
      exact .dat (d1' hb)
    ·obtain ⟨⟨v,ρ',rfl,rv⟩,hb2⟩:=hw
     obtain ⟨us,rfl,h1,h2⟩:=rv.tup_inv
     obtain ⟨x0,q0⟩:=iP (args:=[S ⟨[(49:UInt8)].toArray⟩,.v (.int .i64 0)]) h1 (i:=0) rfl
     obtain ⟨x1,q1⟩:=iP (args:=[S ⟨[(49:UInt8)].toArray⟩,.v (.int .i64 0)]) h1 (i:=1) rfl
     obtain ⟨rfl,_⟩:=(h2 0 _ _ rfl q0).v_inv
     obtain ⟨rfl,_⟩:=(h2 1 _ _ rfl q1).v_inv
     obtain rfl:=SC h1 q0 q1
     exact ⟨rfl,hb2⟩
   ·refine Calls.mono (Aj hI (eI _ _) (QT e he) rfl (inv hb) (lL hr hb).1 rfl fun i c u hc hu=>?_) fun ex w2 hw=>?_
    ·match i,hc with
     | 0,hc =>
      cases hc
      cases hu
      exact .dat (.v _ rfl)
    ·obtain ⟨⟨v,ρ',rfl,rv⟩,hb2⟩:=hw
     obtain ⟨rfl,_⟩:=rv.v_inv
     exact ⟨rfl,hb2⟩
   ·obtain ⟨rfl,hb⟩:=hw
    refine ⟨ρ,(lL hr hb).1,(lL hr hb).2,?_⟩
    refine .tup _ _ rfl fun i c u hc hu=>?_
    match i,hc,hu with
    | 0,hc,hu=>cases hc; cases hu; exact .dat (.v _ rfl)
    | 1,hc,hu=>cases hc; cases hu; exact .dat (.v _ rfl)
  ·cases hz
 ·cases hz
abbrev TX (f:Nat) (fd:FD):Prop:=Text Go.Proofs.Tryz.prog f fd
theorem tx {f : Nat} {fd : FD} {fn : Func} (h : Go.Proofs.Tryz.prog.funcs[f]? = some fn) (h2 : (fn.body.bind fun c => dR Go.Proofs.Tryz.prog fn.ntmps c fd.body, uA Go.Proofs.Tryz.prog fn.results.toList, decide (fn.ntmps ≤ 1000), fn.name == "runtime.NumGoroutine") = (some fd.body, some fd.res, true, false)) : TX f fd := by
 simp only [Prod.mk.injEq,Option.bind_eq_some_iff,decide_eq_true_eq] at h2
 obtain ⟨⟨c,h3,h4⟩,h5,h6,h7⟩:=h2
 exact ⟨⟨fn,c,_,h,h3,rfl,h6,h4,h5,h7⟩⟩
theorem tn:∀ p ∈ ([]:List (Nat × FD)),TX p.1 p.2:=fun _ h=>by cases h
theorem tc {f:Nat} {fd:FD} {l:List (Nat × FD)} (h1:TX f fd) (h2:∀ p ∈ l,TX p.1 p.2):∀ p ∈ (f,fd)::l,TX p.1 p.2:=fun p hp=>by
 rcases List.mem_cons.1 hp with rfl | hp
 ·exact h1
 ·exact h2 p hp
open Go.Proofs.Tryz
theorem ZM:TX 6 cL:=tx func6 (by kernel_rfl)
theorem ZN:TX 7 wR:=tx func7 (by kernel_rfl)
theorem ZO:TX 8 ov:=tx func8 (by kernel_rfl)
theorem Ve:TX 12 tp:=tx func12 (by kernel_rfl)
theorem Vf:TX 19 ej:=tx func19 (by kernel_rfl)
theorem Vg:TX 20 gy:=tx func20 (by kernel_rfl)
theorem Vh:TX 22 fF:=tx func22 (by kernel_rfl)
theorem Vi:TX 24 ed:=tx func24 (by kernel_rfl)
theorem Vj:TX 25 mH:=tx func25 (by kernel_rfl)
theorem Vk:TX 26 gq:=tx func26 (by kernel_rfl)
theorem Vl:TX 27 mI:=tx func27 (by kernel_rfl)
theorem Vm:TX 28 si:=tx func28 (by kernel_rfl)
theorem Vn:TX 29 wS:=tx func29 (by kernel_rfl)
theorem Vo:TX 30 ct:=tx func30 (by kernel_rfl)
theorem Vp:TX 31 gz:=tx func31 (by kernel_rfl)
theorem Vq:TX 32 cu:=tx func32 (by kernel_rfl)
theorem Vr:TX 33 gL:=tx func33 (by kernel_rfl)
theorem Vs:TX 36 cM:=tx func36 (by kernel_rfl)
theorem Vt:TX 37 mU:=tx func37 (by kernel_rfl)
theorem Vu:TX 38 df:=tx func38 (by kernel_rfl)
theorem Vv:TX 39 ck:=tx func39 (by kernel_rfl)
theorem Vw:TX 40 bW:=tx func40 (by kernel_rfl)
theorem Vx:TX 43 vr:=tx func43 (by kernel_rfl)
theorem Vy:TX 44 dX:=tx func44 (by kernel_rfl)
theorem Vz:TX 49 ic:=tx func49 (by kernel_rfl)
theorem VA:TX 55 dS:=tx func55 (by kernel_rfl)
theorem VB:TX 56 iv:=tx func56 (by kernel_rfl)
theorem VC:TX 57 lT:=tx func57 (by kernel_rfl)
theorem VD:TX 58 ku:=tx func58 (by kernel_rfl)
theorem VE:TX 60 aL:=tx func60 (by kernel_rfl)
theorem VF:TX 61 iw:=tx func61 (by kernel_rfl)
theorem VG:TX 62 db:=tx func62 (by kernel_rfl)
theorem VH:TX 63 dE:=tx func63 (by kernel_rfl)
theorem VJ:TX 65 jj:=tx func65 (by kernel_rfl)
theorem VK:TX 66 bY:=tx func66 (by kernel_rfl)
theorem VL:TX 67 ie:=tx func67 (by kernel_rfl)
theorem VM:TX 68 eX:=tx func68 (by kernel_rfl)
theorem VN:TX 69 tq:=tx func69 (by kernel_rfl)
theorem VO:TX 70 yF:=tx func70 (by kernel_rfl)
theorem VP:TX 72 sj:=tx func72 (by kernel_rfl)
theorem VQ:TX 73 cJ:=tx func73 (by kernel_rfl)
theorem VR:TX 74 cK:=tx func74 (by kernel_rfl)
theorem VS:TX 76 cI:=tx func76 (by kernel_rfl)
theorem VU:TX 77 lU:=tx func77 (by kernel_rfl)
theorem VV:TX 78 jk:=tx func78 (by kernel_rfl)
theorem VW:TX 79 fN:=tx func79 (by kernel_rfl)
theorem VX:TX 80 eC:=tx func80 (by kernel_rfl)
theorem VY:TX 81 be:=tx func81 (by kernel_rfl)
theorem VZ:TX 82 eB:=tx func82 (by kernel_rfl)
theorem V0:TX 83 aH:=tx func83 (by kernel_rfl)
theorem V1:TX 84 lV:=tx func84 (by kernel_rfl)
theorem V2:TX 85 bZ:=tx func85 (by kernel_rfl)
theorem V3:TX 90 dF:=tx func90 (by kernel_rfl)
theorem V4:TX 92 eM:=tx func92 (by kernel_rfl)
theorem V5:TX 93 dx:=tx func93 (by kernel_rfl)
theorem V6:TX 94 cE:=tx func94 (by kernel_rfl)
theorem V7:TX 95 eN:=tx func95 (by kernel_rfl)
theorem V8:TX 96 ef:=tx func96 (by kernel_rfl)
theorem V9:TX 97 bG:=tx func97 (by kernel_rfl)
theorem Wa:TX 98 cN:=tx func98 (by kernel_rfl)
theorem Wb:TX 99 fP:=tx func99 (by kernel_rfl)
theorem SG:TX 100 yG:=tx func100 (by kernel_rfl)
theorem SH:TX 101 tr:=tx func101 (by kernel_rfl)
theorem SI:TX 102 sk:=tx func102 (by kernel_rfl)
theorem SJ:TX 104 iy:=tx func104 (by kernel_rfl)
theorem SK:TX 105 kQ:=tx func105 (by kernel_rfl)
theorem SL:TX 106 lD:=tx func106 (by kernel_rfl)
theorem SM:TX 107 iz:=tx func107 (by kernel_rfl)
theorem SN:TX 108 kR:=tx func108 (by kernel_rfl)
theorem SO:TX 109 iC:=tx func109 (by kernel_rfl)
theorem SP:TX 110 lW:=tx func110 (by kernel_rfl)
theorem SQ:TX 111 kS:=tx func111 (by kernel_rfl)
theorem SR:TX 112 iY:=tx func112 (by kernel_rfl)
theorem SS:TX 113 mV:=tx func113 (by kernel_rfl)
theorem ST:TX 114 gA:=tx func114 (by kernel_rfl)
theorem SU:TX 115 cX:=tx func115 (by kernel_rfl)
theorem SV:TX 117 hF:=tx func117 (by kernel_rfl)
theorem SW:TX 122 ig:=tx func122 (by kernel_rfl)
theorem SX:TX 123 iZ:=tx func123 (by kernel_rfl)
theorem SY:TX 124 jm:=tx func124 (by kernel_rfl)
theorem SZ:TX 125 gB:=tx func125 (by kernel_rfl)
theorem S0:TX 126 gC:=tx func126 (by kernel_rfl)
theorem S1:TX 131 i6:=tx func131 (by kernel_rfl)
theorem S2:TX 132 wV:=tx func132 (by kernel_rfl)
theorem S3:TX 133 rC:=tx func133 (by kernel_rfl)
theorem S4:TX 134 nK:=tx func134 (by kernel_rfl)
theorem S5:TX 135 qB:=tx func135 (by kernel_rfl)
theorem S6:TX 136 gN:=tx func136 (by kernel_rfl)
theorem S7:TX 137 sn:=tx func137 (by kernel_rfl)
theorem S8:TX 138 jn:=tx func138 (by kernel_rfl)
theorem S9:TX 139 iR:=tx func139 (by kernel_rfl)
theorem Ta:TX 140 fH:=tx func140 (by kernel_rfl)
theorem Tb:TX 141 cF:=tx func141 (by kernel_rfl)
theorem Tc:TX 142 i7:=tx func142 (by kernel_rfl)
theorem Td:TX 144 jo:=tx func144 (by kernel_rfl)
theorem Te:TX 145 iD:=tx func145 (by kernel_rfl)
theorem Tf:TX 146 eO:=tx func146 (by kernel_rfl)
theorem Tg:TX 147 jp:=tx func147 (by kernel_rfl)
theorem Th:TX 148 lX:=tx func148 (by kernel_rfl)
theorem Ti:TX 149 oH:=tx func149 (by kernel_rfl)
theorem Tj:TX 150 vF:=tx func150 (by kernel_rfl)
theorem Tk:TX 151 iE:=tx func151 (by kernel_rfl)
theorem Tl:TX 152 yH:=tx func152 (by kernel_rfl)
theorem Tm:TX 153 oI:=tx func153 (by kernel_rfl)
theorem Tn:TX 154 mj:=tx func154 (by kernel_rfl)
theorem To:TX 155 mL:=tx func155 (by kernel_rfl)
theorem Tp:TX 157 kU:=tx func157 (by kernel_rfl)
theorem Tq:TX 158 iS:=tx func158 (by kernel_rfl)
theorem Ts:TX 159 gQ:=tx func159 (by kernel_rfl)
theorem Tt:TX 160 iF:=tx func160 (by kernel_rfl)
theorem Tu:TX 161 dc:=tx func161 (by kernel_rfl)
theorem Tv:TX 162 ft:=tx func162 (by kernel_rfl)
theorem Tw:TX 163 l4:=tx func163 (by kernel_rfl)
theorem Tx:TX 164 mY:=tx func164 (by kernel_rfl)
theorem Ty:TX 165 mZ:=tx func165 (by kernel_rfl)
theorem Tz:TX 166 gr:=tx func166 (by kernel_rfl)
theorem TA:TX 167 vH:=tx func167 (by kernel_rfl)
theorem TB:TX 168 vI:=tx func168 (by kernel_rfl)
theorem TC:TX 169 gu:=tx func169 (by kernel_rfl)
theorem TD:TX 170 mn:=tx func170 (by kernel_rfl)
theorem TE:TX 171 iT:=tx func171 (by kernel_rfl)
theorem TF:TX 172 vJ:=tx func172 (by kernel_rfl)
theorem TG:TX 173 iG:=tx func173 (by kernel_rfl)
theorem TH:TX 174 gR:=tx func174 (by kernel_rfl)
theorem TI:TX 175 nL:=tx func175 (by kernel_rfl)
theorem TJ:TX 178 mo:=tx func178 (by kernel_rfl)
set_option maxRecDepth 100000 in
theorem HG:∀ p ∈ OU,TX p.1 p.2:=tc ZM (tc ZN (tc ZO (tc Ve (tc Vf (tc Vg (tc Vh (tc Vi (tc Vj (tc Vk (tc Vl (tc Vm (tc Vn (tc Vo (tc Vp (tc Vq (tc Vr (tc Vs (tc Vt (tc Vu (tc Vv (tc Vw (tc Vx (tc Vy (tc Vz (tc VA (tc VB (tc VC (tc VD (tc VE (tc VF (tc VG (tc VH (tc VJ (tc VK (tc VL (tc VM (tc VN (tc VO (tc VP (tc VQ (tc VR (tc VS (tc VU (tc VV (tc VW (tc VX (tc VY (tc VZ (tc V0 (tc V1 (tc V2 (tc V3 (tc V4 (tc V5 (tc V6 (tc V7 (tc V8 (tc V9 (tc Wa (tc Wb (tc SG (tc SH (tc SI (tc SJ (tc SK (tc SL (tc SM (tc SN (tc SO (tc SP (tc SQ (tc SR (tc SS (tc ST (tc SU (tc SV (tc SW (tc SX (tc SY (tc SZ (tc S0 (tc S1 (tc S2 (tc S3 (tc S4 (tc S5 (tc S6 (tc S7 (tc S8 (tc S9 (tc Ta (tc Tb (tc Tc (tc Td (tc Te (tc Tf (tc Tg (tc Th (tc Ti (tc Tj (tc Tk (tc Tl (tc Tm (tc Tn (tc To (tc Tp (tc Tq (tc Ts (tc Tt (tc Tu (tc Tv (tc Tw (tc Tx (tc Ty (tc Tz (tc TA (tc TB (tc TC (tc TD (tc TE (tc TF (tc TG (tc TH (tc TI (tc TJ (tn))))))))))))))))))))))))))))))))))))))))))))))))))))))))))))))))))))))))))))))))))))))))))))))))))))))))))))))))))))))))))))))
end Go.Ab
