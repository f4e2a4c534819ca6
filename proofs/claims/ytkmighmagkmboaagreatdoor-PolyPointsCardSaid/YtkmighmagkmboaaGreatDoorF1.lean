/-
  A law of polynomials holds at every input that the statement speaks of, under the conditions that its card names. Part F1.
-/
import Derived.Test.YtkmighmagkmboaaGreatDoorProg
import Derived.Shelf.Spec.TrailingZeros
import Derived.Test.YtkmighmagkmboaaGreatDoorRows
import Derived.Deep.Strs
import Derived.ProofKit
import Derived.LaidMore
import Derived.OpenShut
import Derived.Carry
import Derived.Shelf.Strings.BuilderK
import Derived.WalkKit
import Derived.BigCall
import Derived.Lib.Overlaps
import Derived.Laws.Externs
import Derived.Shelf.Slices.Clone
import Derived.KernelRfl
import Derived.Test.YtkmighmagkmboaaGreatDoorE1
open Nat renaming reduceEqDiff → aez, reduceAdd → aeA, reduceMul → aeB, reduceLeDiff → aeC, reduceBEq → aeD, reduceLT → aeE, reduceSub → axe
namespace Go.Ab
open Go Go.IntWalk
set_option maxRecDepth 4000
set_option maxHeartbeats 1000000
theorem xn {d n i:Nat} (h:i≤n):gJ d n (some (I i))=some i:=by
 simp only [gJ]
 rw [if_pos ⟨by omega,by omega⟩]
 rfl
theorem Sx {h:aa} {j k n:Nat} {rows:List (List AV)} (hj:aG j=false) (hh:h j=.ar k rows) (hn:n=rows.length) (hc:aB [1000] (h 1000)=true):n9 [[]] 1 h [.rsl j none k 0 n]=some (.osl k rows,[h 1000]):=by
 subst hn
 have hp:bU 1=[1000]:=rfl
 unfold n9
 rw [if_pos]
 ·simp [lX,lA,ge,hj,hh,qq,kX,aM,nrmV,nrmL,hp]
 ·simp [hp,hc,fw,bk,cP,hj]
theorem Sy {rows:List (List AV)} {n i:Nat} (hn:n=rows.length) (hi:i < n) (h2:n≤1000000):R F.slices_Delete_api_Term_api_Term_ [.rsl 1000 none 4 0 n,I i,I ((i+1:Nat):Int)] [.ar 4 rows]=some (.osl 4 (rows.take i++rows.drop (i+1)),[.dead]):=by
 refine sy mH mG (fm false) rfl ?_
 subst hn
 have b1:gJ rows.length rows.length (some (I rows.length))=some rows.length:=xn (Nat.le_refl _)
 have b2:∀ d,gJ d rows.length (some (I ((i+1:Nat):Int)))=some (i+1):=fun d=>xn (by omega)
 have b3:∀ d,gJ d (i+1) (some (I i))=some i:=fun d=>xn (by omega)
 have b4:∀ d,gJ d rows.length (some (I i))=some i:=fun d=>xn (by omega)
 have e1:((i:Int)=((i+1:Nat):Int))=False:=ff (by omega)
 have s1:dK 4 (.rsl 1000 none 4 0 rows.length) (some (I i)) (some (I ((i+1:Nat):Int))) (some (I rows.length))=some .any:=by
  simp only [dK,if_true,ia,b1,b2,b3,Option.bind_some,Option.map_some,Option.isNone_some,if_neg Bool.false_ne_true]
 have s2:dK 4 (.rsl 1000 none 4 0 rows.length) none (some (I i)) none=some (.rsl 1000 none 4 0 i):=by
  simp only [dK,if_true,ia,b4,zS,Option.bind_some,Option.map_some,Option.isNone_none,Nat.sub_zero,Nat.add_zero]
 have s3:dK 4 (.rsl 1000 none 4 0 rows.length) (some (I ((i+1:Nat):Int))) none none=some (.rsl 1000 none 4 (i+1) (rows.length - (i+1))):=by
  simp only [dK,if_true,ia,b2,zS,Option.bind_some,Option.map_some,Option.isNone_none,Nat.zero_add]
 have t1:(rows.drop (i+1)).take (rows.length - (i+1))=rows.drop (i+1):=List.take_of_length_le (by rw [List.length_drop]; omega)
 have t2:(i+1+(rows.length - (i+1))≤rows.length)=True:=eq_true (by omega)
 obtain ⟨m,hm⟩:∃ m,i+(rows.length - (i+1))=m:=⟨_,rfl⟩
 obtain ⟨D,hD⟩:∃ D,rows.take i++rows.drop (i+1)=D:=⟨_,rfl⟩
 have d1:D.length=m:=by
  rw [← hD,List.length_append,List.length_take,List.length_drop]
  omega
 obtain ⟨A,hA⟩:∃ A,D++rows.drop m=A:=⟨_,rfl⟩
 have a1:A.length=rows.length:=by
  rw [← hA,List.length_append,List.length_drop,d1]
  omega
 have a2:A.take m=D:=by rw [← hA,List.take_append_of_le_length (by omega),List.take_of_length_le (by omega)]
 have e5:∀ h,yL h 26 4 64 1000 4 0 i (rows.drop (i+1)) 4 rows=some (.rsl 1000 none 4 0 m,upd h 1000 (.ar 4 A),[]):=fun h=>by
  unfold yL
  rw [if_pos ⟨rfl,rfl,by rw [List.length_drop]; omega⟩,List.length_drop,Nat.zero_add,hm,hD,hA]
 have e7:(i=rows.length)=False:=eq_false (by omega)
 have b5:ia rows.length (some (I m)) (some (I rows.length)) none=some (m,rows.length):=by
  simp only [ia,b1,Option.bind_some]
  rw [xn (by omega)]
  rfl
 have c1:(m+(rows.length - m)≤rows.length)=True:=eq_true (by omega)
 have c2:∀ z,(D++List.replicate (rows.length - m) z++A.drop (m+(rows.length - m))).take m=D:=fun z=>by
  rw [List.append_assoc,List.take_append_of_le_length (by omega),List.take_of_length_le (by omega)]
 rw [hD]
 simp only [cd,fT,go_sem,↓reduceIte,aez,aeC,aeE,s1,s2,s3,e1,t1,t2,e5,e7,false_and,and_false,a1,a2,b5,c1,c2,Nat.sub_zero,Nat.zero_add,Nat.zero_le,axe,decide_false]
 exact Sx (by rfl) (by rfl) d1.symm (by rfl)
theorem OE {l:List Rt} {h:aa} {d a n i:Nat} (ha:h a=.ar 4 (ax l)) (_hda:2000+8*d ≠ a) (hd:h (2000+8*d)=.dead) (hn:n=l.length) (hi:i < n) (h2:n≤1000000) :
  aj R (ab false) h d [.rsl a none 4 0 n,.v (.int .i64 i),.v (.int .i64 ((i+1:Nat):Int))] (.fn F.slices_Delete_api_Term_api_Term_ [] []) =
   some (.rsl (2000+8*d) none 4 0 (l.length - 1),upd (upd h a .dead) (2000+8*d) (.ar 4 (ax (l.take i++l.drop (i+1)))),[(a,true),(a,false)]):=by
 have hm:=mI false
 have hs:=mo false
 have hk:=fm false
 have hf:=Sy (rows:=ax l) (n:=n) (i:=i) (by rw [gI,hn]) hi h2
 have e1:(ax l).take i++(ax l).drop (i+1)=ax (l.take i++l.drop (i+1)):=by simp [ax,List.map_take,List.map_drop]
 rw [e1] at hf
 have hb':jJ (ab false) [.rsl a none 4 0 n,.v (.int .i64 i),.v (.int .i64 ((i+1:Nat):Int))] (.fn F.slices_Delete_api_Term_api_Term_ [] [])=false:=by
  simp [jJ,hm]
 have h1:ah h [2,0,0] [.rsl a none 4 0 n,.v (.int .i64 i),.v (.int .i64 ((i+1:Nat):Int))]=some ([.rsl a none 4 0 n,.v (.int .i64 i),.v (.int .i64 ((i+1:Nat):Int))],h,[]):=by
  simp [ah,bP,mK,dv,ak,ha,Ni]
 have hr:bM h 40 [a] 0=[a]:=by
  simp [bM,ha,ug,bp]
 have hp:bp [] ([AV.rsl a none 4 0 n,.v (.int .i64 i),.v (.int .i64 ((i+1:Nat):Int))].flatMap bk)=[a]:=by
  simp [bk,cP,bp]
 have h3:aV [a] a=1000:=by simp [aV]
 have hnr:ch (.osl 4 (ax (l.take i++l.drop (i+1))))=1:=rfl
 have hlen:(ax (l.take i++l.drop (i+1))).length=l.length - 1:=by
  rw [gI,List.length_append,List.length_take,List.length_drop]
  omega
 unfold aj
 rw [if_neg (by rw [hb']; exact Bool.false_ne_true)]
 simp only [dq,hm,List.nil_append,List.append_nil,h1,Option.bind_some,hp,hr,hs]
 simp only [Int.natCast_add,Int.natCast_one] at hf
 simp [jI,aM,aJ,aO,ha,aB,cz,cQ,fZ,h3,cD,hf,et,hnr,cr,hd,cU,bf,mU,uj,kV,cP,eE,da,rl,cB,mat,bW,dF,hk,ui,hm,hlen]
 exact ⟨by unfold bQ; rw [if_neg (by omega)],by rw [tq]⟩
theorem QP (h:aa) (i:Nat) (xs:List AV) (a b:AV) (r:List (List AV)):xE h 3 1000 1 4 i 1 xs [] (.bx [a,.osl 4 r,b])=(wd 3 4 i 1 xs 4 r).map fun q=>(.und,upd h 1000 (.bx [a,.osl 4 q,b]),[]):=rfl
theorem xp (a b:AV) (k:Nat) (r:List (List AV)):gz 1 (.bx [a,.osl k r,b])=some (k,r):=rfl
theorem CA (h:aa) (n:Nat) (g:Bool) (i j:Nat) (r:List (List AV)):jH h n g 4 i j (some (4,r))=(r[i]?).bind fun row=>(im n g row j).map fun a=>(a,h,[]):=rfl
theorem OF {v v':Int} {l:List Rt} {t q:Rt} (c:Cl v l) (vt:VT v t) (hl:l.length≤1000000) (hq:l[be l t.exps]?=some q) (ho:bj q.exps t.exps=0) :
  R F.poly_collector_add [.ref 1000 none 0 0 0,.sl 1 (aX t.exps),aF t.c] [t3 v' (.osl 4 (ax l)) 0]=some (.tup [],[if (iQ q.c t.c).2=0 then (if (iQ q.c t.c).1.m.length=0 then t3 v' (.osl 4 (ax (l.take (be l t.exps)++l.drop (be l t.exps+1)))) 0 else t3 v' (.osl 4 (ax (l.set (be l t.exps) ⟨q.exps,(iQ q.c t.c).1⟩))) 0) else t3 v' (.osl 4 (ax l)) 9]):=by
 refine sy go gl (du false) rfl ?_
 have hbs:=KN c vt.sm vt.len hl
 have hf:xj l t.exps=true:=by
  unfold xj
  rw [hq]
  exact decide_eq_true ho
 rw [hf] at hbs
 have vq:=c.t q (List.mem_of_getElem? hq)
 have hadd:=QL vq.c vt.c
 have hlt:=(List.getElem?_eq_some_iff.1 hq).1
 have hrow:(ax l)[be l t.exps]?=some (bv q):=by simp [ax,hq]
 have hi0:(0≤(be l t.exps:Int)∧(be l t.exps:Int) < (l.length:Int))=True:=eq_true ⟨by omega,by omega⟩
 have hw:IntKind.i64.wrap ((be l t.exps:Int)+1)=((be l t.exps+1:Nat):Int):=wi (by omega) (by omega)
 generalize iQ q.c t.c=r at hadd ⊢
 obtain ⟨s,e⟩:=r
 simp only [rV,aF,aW] at hadd
 simp only [bv] at hrow
 simp only [ck,dZ,t3,aF,aW,go_sem,↓reduceIte,aez,aeB,aeA]
 rw [I8 rfl rfl (gI l).symm ⟨_,rfl⟩]
 by_cases he:e=0
 ·subst he
  by_cases hs:s.m.length=0
  ·have e1:((s.m.length:Int)=0)=True:=tt (by omega)
   have hlen:(l.take (be l t.exps)++l.drop (be l t.exps+1)).length=l.length - 1:=by
    rw [List.length_append,List.length_take,List.length_drop]
    omega
   simp only [go_sem,↓reduceIte,aez,aeB,aeA,aeC,aeE,aeD,hbs,xY,hi0,hrow,hadd,hs,Int.toNat_natCast,Int.natCast_zero,Nat.zero_add,xp,CA,hw]
   rw [OE rfl (by decide) rfl rfl hlt hl]
   generalize l.take (be l t.exps)++l.drop (be l t.exps+1)=L at hlen ⊢
   simp only [go_sem,↓reduceIte,aez,aeB,aeA,aeC,aeD]
   rw [uU rfl (by rw [gI,hlen]) rfl (by decide) (Nat.lt_of_lt_of_le (by decide) (Nat.le_refl 3))]
   simp only [go_sem,↓reduceIte]
   exact tU (.inl rfl) rfl
  ·have e1:((s.m.length:Int)=0)=False:=ff (by omega)
   have hset:(ax l).set (be l t.exps) [.sl 1 (aX q.exps),B s.neg,lm s.m,I s.e]=ax (l.set (be l t.exps) ⟨q.exps,s⟩):=by
    unfold ax
    rw [List.map_set]
    rfl
   simp only [go_sem,↓reduceIte,aez,aeB,aeA,aeC,aeE,aeD,hbs,xY,hi0,hrow,hadd,hs,e1,Int.toNat_natCast,Nat.zero_add,xp,CA,hw,QP,hset]
   exact tU (.inl rfl) rfl
 ·have e1:(e=0)=False:=ff he
  simp only [go_sem,↓reduceIte,aez,aeB,aeA,aeC,aeE,aeD,hbs,xY,hi0,hrow,hadd,e1,Int.toNat_natCast,Nat.zero_add,xp,CA,hw]
  exact tU (.inl rfl) rfl
theorem I9 {v v':Int} {l:List Rt} {t:Rt} {cell:AV} (c:Cl v l) (vt:VT v t) (hl:l.length≤1000000) (hc:nS cell l) :
  ∃ cell' l' e',R F.poly_collector_add [.ref 1000 none 0 0 0,.sl 1 (aX t.exps),aF t.c] [t3 v' cell 0]=some (.tup [],[t3 v' cell' e'])∧nS cell' l'∧((e'=0∧kU l t=some l')∨(e'=9∧kU l t=none∧l'=l)):=by
 rcases hc with rfl | ⟨rfl,rfl⟩
 ·rw [I6]
  cases hq:l[be l t.exps]? with
  | none =>
   exact ⟨_,_,_,Hq c vt hl (by unfold xj; rw [hq]),.inl rfl,.inl ⟨rfl,rfl⟩⟩
  | some q =>
   by_cases ho:bj q.exps t.exps=0
   ·have h1:=OF (v':=v') c vt hl hq ho
    simp only [if_pos ho]
    by_cases he:(iQ q.c t.c).2=0
    ·rw [if_pos he] at h1 ⊢
     by_cases hs:(iQ q.c t.c).1.m.length=0
     ·rw [if_pos hs] at h1 ⊢
      exact ⟨_,_,_,h1,.inl rfl,.inl ⟨rfl,rfl⟩⟩
     ·rw [if_neg hs] at h1 ⊢
      exact ⟨_,_,_,h1,.inl rfl,.inl ⟨rfl,rfl⟩⟩
    ·rw [if_neg he] at h1 ⊢
     exact ⟨_,_,_,h1,.inl rfl,.inr ⟨rfl,rfl,rfl⟩⟩
   ·simp only [if_neg ho]
    exact ⟨_,_,_,Hq c vt hl (by unfold xj; rw [hq]; exact decide_eq_false ho),.inl rfl,.inl ⟨rfl,rfl⟩⟩
 ·exact ⟨_,_,_,OD vt,.inl rfl,.inl ⟨rfl,rfl⟩⟩
end Go.Ab
namespace Go.Ab
open Go Go.IntWalk
def bw:List Rt→(List Int→Int)→Int
 | [],_=>0
 | t::l,f=>zI t.c*f t.exps+bw l f
theorem CB:∀ (l r:List Rt) (f:List Int→Int),bw (l++r) f=bw l f+bw r f
 | [],r,f=>by simp [bw]
 | t::l,r,f=>by
  show zI t.c*f t.exps+bw (l++r) f=zI t.c*f t.exps+bw l f+bw r f
  rw [CB l r f,Int.add_assoc]
theorem xZ (k:Int):∀ (l:List Rt) (f:List Int→Int),bw l (fun x=>k*f x)=k*bw l f
 | [],f=>by simp [bw]
 | t::l,f=>by
  show zI t.c*(k*f t.exps)+_=k*(zI t.c*f t.exps+_)
  rw [xZ k l f,Int.mul_add,Int.mul_left_comm]
theorem xq:∀ {l:List Rt} {f g:List Int→Int},(∀ t ∈ l,f t.exps=g t.exps)→bw l f=bw l g
 | [],f,g,_=>rfl
 | t::l,f,g,h=>by
  show zI t.c*f t.exps+_=zI t.c*g t.exps+_
  rw [h t (by simp),xq fun x hx=>h x (by simp [hx])]
theorem Hr {v:Int} {f:List Int→Int}:∀ {l l':List Rt} {t:Rt},Cl v l→VT v t→kU l t=some l'→bw l' f=bw l f+zI t.c*f t.exps
 | [],l',t,c,vt,h=>by
  cases h
  show zI t.c*f t.exps+0=0+_
  omega
 | q::l,l',t,c,vt,h=>by
  obtain ⟨c1,c2,c3⟩:=c.cons
  unfold kU at h
  split at h
  ·rw [Option.map_eq_some_iff] at h
   obtain ⟨l2,h2,rfl⟩:=h
   have ih:=Hr c3 vt h2 (f:=f)
   show _+bw l2 f=(_+bw l f)+_
   rw [ih,Int.add_assoc]
  ·split at h
   ·rename_i h1 h2
    have he:=I4 (c1.l2 vt) h2
    split at h
    ·rename_i h3
     cases h
     have hz:=QJ h3
     split
     ·rename_i h4
      rw [rf h4] at hz
      show bw l f=(zI q.c*f q.exps+bw l f)+_
      rw [he,Int.add_right_comm,← Int.add_mul,← hz,Int.zero_mul,Int.zero_add]
     ·show zI (iQ q.c t.c).1*f q.exps+bw l f=(zI q.c*f q.exps+bw l f)+_
      rw [hz,he,Int.add_mul,Int.add_right_comm]
    ·cases h
   ·cases h
    show zI t.c*f t.exps+bw (q::l) f=_
    exact Int.add_comm _ _
theorem Ac {v:Int} {f:List Int→Int}:∀ {ts l l':List Rt},Cl v l→(∀ t ∈ ts,VT v t)→ej l ts=some l'→bw l' f=bw l f+bw ts f
 | [],l,l',c,_,h=>by
  cases h
  exact (Int.add_zero _).symm
 | t::ts,l,l',c,vt,h=>by
  unfold ej at h
  rw [Option.bind_eq_some_iff] at h
  obtain ⟨l2,h2,h3⟩:=h
  rw [Ac (xX c (vt t (by simp)) h2).1 (fun x hx=>vt x (by simp [hx])) h3,Hr c (vt t (by simp)) h2]
  show _=_+(_+_)
  omega
theorem VT.zn {v:Int} {t:Rt} (h:VT v t):zI t.c ≠ 0:=by
 rcases zZ t.c h.vc with ⟨_,_,h2⟩ | ⟨_,h1,h2,_⟩ | ⟨_,h1,h2,_⟩
 ·exact absurd h2 h.nz
 ·omega
 ·omega
end Go.Ab
namespace Go.Ab
open Go Go.IntWalk
def p0:Rp:=⟨0,[]⟩
def pV (r:Rp × Int):AV:=.tup [bm r.1,I r.2]
def ie (v:Int):Option (List Rt)→Rp × Int
 | none=>(p0,9)
 | some l=>if 500 < l.length then (p0,5) else (⟨v,l⟩,0)
def sz (a b:Rp):Bool:=vp a && (vp b && decide (a.vars=b.vars))
def kn (a b:Rp):Rp × Int:=if sz a b=true then ie a.vars (ej [] (a.terms++b.terms)) else (p0,1)
def aeL (t:Rt):Rt:=⟨t.exps,⟨!t.c.neg,t.c.m,t.c.e⟩⟩
def aeS (a b:Rp):Rp × Int:=if sz a b=true then ie a.vars (ej [] (a.terms++b.terms.map aeL)) else (p0,1)
def bI (a b:List Int):List Int:=List.zipWith (·+·) a b
def uV (s t:Rt):Option Rt:=if (eC s.c t.c).2=0 then some ⟨bI s.exps t.exps,(eC s.c t.c).1⟩ else none
def gY (s:Rt):List Rt→Option (List Rt)
 | []=>some []
 | t::ts=>(uV s t).bind fun x=>(gY s ts).map (x::·)
def fY:List Rt→List Rt→Option (List Rt)
 | [],_=>some []
 | s::ss,ts=>(gY s ts).bind fun r=>(fY ss ts).map (r++·)
def iR (a b:Rp):Rp × Int:=if sz a b=true then (if a.terms.length ≠ 0∧b.terms.length ≠ 0∧32 < iP a+iP b then (p0,5) else ie a.vars ((fY a.terms b.terms).bind (ej []))) else (p0,1)
theorem Hs:∃ K:Int,K ≠ 0∧∀ a b:Rd,(eC a b).2=0→zI (eC a b).1*K=zI a*zI b:=by
 refine ⟨2 ^ 16384,?_,fun a b h=>?_⟩
 ·generalize 16384=n
  exact Int.pow_ne_zero (by decide)
 ·unfold eC at h ⊢
  split at h
  ·rename_i hc
   rw [if_pos hc]
   exact I0 (j:=16384) h
  ·simp at h
noncomputable def KK:Int:=Classical.choose Hs
theorem Vw:KK ≠ 0:=(Classical.choose_spec Hs).1
theorem CD {a b:Rd} (h:(eC a b).2=0):zI (eC a b).1*KK=zI a*zI b:=(Classical.choose_spec Hs).2 a b h
theorem Bz {s:Rt} {f:List Int→Int}:∀ {ts r:List Rt},gY s ts=some r→bw r f*KK=zI s.c*bw ts fun v=>f (bI s.exps v)
 | [],r,h=>by
  cases h
  show 0*KK=zI s.c*0
  rw [Int.zero_mul,Int.mul_zero]
 | t::ts,r,h=>by
  unfold gY at h
  rw [Option.bind_eq_some_iff] at h
  obtain ⟨x,h1,h2⟩:=h
  rw [Option.map_eq_some_iff] at h2
  obtain ⟨r2,h3,rfl⟩:=h2
  unfold uV at h1
  split at h1
  ·rename_i h4
   cases h1
   show (zI (eC s.c t.c).1*f (bI s.exps t.exps)+bw r2 f)*KK=zI s.c*(zI t.c*f (bI s.exps t.exps)+bw ts _)
   rw [Int.add_mul,Bz h3,Int.mul_right_comm,CD h4,Int.mul_add,Int.mul_assoc]
  ·cases h1
theorem BA {f:List Int→Int}:∀ {ss ts r:List Rt},fY ss ts=some r→bw r f*KK=bw ss fun u=>bw ts fun v=>f (bI u v)
 | [],ts,r,h=>by
  cases h
  show 0*KK=0
  rw [Int.zero_mul]
 | s::ss,ts,r,h=>by
  unfold fY at h
  rw [Option.bind_eq_some_iff] at h
  obtain ⟨x,h1,h2⟩:=h
  rw [Option.map_eq_some_iff] at h2
  obtain ⟨r2,h3,rfl⟩:=h2
  rw [CB,Int.add_mul,Bz h1,BA h3]
  rfl
theorem Ht:∀ {a b:List Int},a.length=b.length→bc (bI a b)=bc a+bc b
 | [],[],_=>rfl
 | x::a,y::b,h=>by
  show x+y+bc (bI a b)=x+bc a+(y+bc b)
  rw [Ht (by simpa using h)]
  omega
 | [],_::_,h=>by simp at h
 | _::_,[],h=>by simp at h
theorem CE:∀ {l:List Int},(∀ x ∈ l,0≤x)→0≤bc l∧∀ x ∈ l,x≤bc l
 | [],_=>⟨Int.le_refl _,fun _ h=>by cases h⟩
 | y::l,h=>by
  obtain ⟨h1,h2⟩:=CE fun x hx=>h x (List.mem_cons_of_mem _ hx)
  have h3:=h y (by simp)
  refine ⟨by unfold bc; omega,fun x hx=>?_⟩
  unfold bc
  rcases List.mem_cons.1 hx with rfl | hx
  ·omega
  ·have:=h2 x hx
   omega
theorem Hu:∀ {a b:List Int},(∀ x ∈ a,0≤x)→(∀ x ∈ b,0≤x)→∀ x ∈ bI a b,0≤x
 | [],b,_,_,x,hx=>by simp [bI] at hx
 | _::_,[],_,_,x,hx=>by simp [bI] at hx
 | y::a,z::b,h1,h2,x,hx=>by
  have hx':x ∈ (y+z)::bI a b:=hx
  rcases List.mem_cons.1 hx' with rfl | hx'
  ·have:=h1 y (by simp)
   have:=h2 z (by simp)
   omega
  ·exact Hu (fun x hx=>h1 x (by simp [hx])) (fun x hx=>h2 x (by simp [hx])) x hx'
theorem nF {a b:List Int} (h:a.length=b.length):(bI a b).length=a.length:=by
 unfold bI
 rw [List.length_zipWith]
 omega
theorem Ad {v:Int} {s t x:Rt} (vs:VT v s) (vt:VT v t) (hd:bc s.exps+bc t.exps≤32) (h:uV s t=some x):VT v x:=by
 unfold uV at h
 split at h
 ·rename_i h0
  cases h
  have hl:=vs.l2 vt
  have hp:=Hu (fun x hx=>(vs.b x hx).1) (fun x hx=>(vt.b x hx).1)
  have hs:=Ht hl
  obtain ⟨q1,q2⟩:vd (eC s.c t.c).1=true∧Ok0 (eC s.c t.c).1:=by
   unfold eC
   split
   ·exact Cy
   ·exact He
  refine ⟨q2,by show ((bI s.exps t.exps).length:Int)=v; rw [nF hl]; exact vs.len,vs.v8,q1,fun h=>?_,fun e he=>⟨hp e he,?_⟩,by show bc (bI s.exps t.exps)≤32; omega⟩
  ·have h1:=CD h0
   rw [rf h,Int.zero_mul] at h1
   rcases Int.mul_eq_zero.1 h1.symm with h2 | h2
   ·exact vs.zn h2
   ·exact vt.zn h2
  ·have:=(CE hp).2 e he
   omega
 ·cases h
theorem xt {v:Int} {s:Rt} (vs:VT v s):∀ {ts r:List Rt},(∀ t ∈ ts,VT v t∧bc s.exps+bc t.exps≤32)→gY s ts=some r→(∀ x ∈ r,VT v x)∧r.length=ts.length
 | [],r,_,h=>by cases h; exact ⟨(fun _ h=>nomatch h),rfl⟩
 | t::ts,r,ht,h=>by
  unfold gY at h
  rw [Option.bind_eq_some_iff] at h
  obtain ⟨x,h1,h2⟩:=h
  rw [Option.map_eq_some_iff] at h2
  obtain ⟨r2,h3,rfl⟩:=h2
  obtain ⟨g1,g2⟩:=xt vs (fun y hy=>ht y (by simp [hy])) h3
  have vx:=Ad vs (ht t (by simp)).1 (ht t (by simp)).2 h1
  refine ⟨fun y hy=>?_,by simp [g2]⟩
  rcases List.mem_cons.1 hy with rfl | hy
  ·exact vx
  ·exact g1 y hy
theorem xu {v:Int}:∀ {ss ts r:List Rt},(∀ s ∈ ss,VT v s)→(∀ t ∈ ts,VT v t)→(∀ s ∈ ss,∀ t ∈ ts,bc s.exps+bc t.exps≤32)→fY ss ts=some r→(∀ x ∈ r,VT v x)∧r.length=ss.length*ts.length
 | [],ts,r,_,_,_,h=>by cases h; exact ⟨(fun _ h=>nomatch h),by simp⟩
 | s::ss,ts,r,vs,vt,hd,h=>by
  unfold fY at h
  rw [Option.bind_eq_some_iff] at h
  obtain ⟨x,h1,h2⟩:=h
  rw [Option.map_eq_some_iff] at h2
  obtain ⟨r2,h3,rfl⟩:=h2
  obtain ⟨g1,g2⟩:=xt (vs s (by simp)) (fun t ht=>⟨vt t ht,hd s (by simp) t ht⟩) h1
  obtain ⟨k1,k2⟩:=xu (fun y hy=>vs y (by simp [hy])) vt (fun y hy t ht=>hd y (by simp [hy]) t ht) h3
  refine ⟨fun y hy=>?_,by rw [List.length_append,g2,k2,List.length_cons,Nat.succ_mul]; omega⟩
  rcases List.mem_append.1 hy with hy | hy
  ·exact g1 y hy
  ·exact k1 y hy
end Go.Ab
namespace Go.Ab
open Go Go.IntWalk
theorem QQ {a b:List Int} (h:bj a b < 0):bc a≤bc b:=by
 unfold bj at h
 rcases iM (bc a) (bc b) with ⟨g,e⟩ | ⟨g,e⟩ | ⟨g,e⟩ <;> rw [e] at h
 ·omega
 ·omega
 ·rw [if_neg (by decide)] at h
  omega
theorem Ae {v:Int}:∀ {l:List Rt} {t q:Rt},Cl v l→l.getLast?=some q→t ∈ l→bc t.exps≤bc q.exps
 | [],t,q,_,h,_=>by simp at h
 | [x],t,q,_,h,ht=>by
  simp at h ht
  subst h ht
  exact Int.le_refl _
 | x::y::l,t,q,c,h,ht=>by
  obtain ⟨c1,c2,c3⟩:=c.cons
  rw [List.getLast?_cons_cons] at h
  rcases List.mem_cons.1 ht with rfl | ht
  ·have h1:=QQ (c2 y (by simp))
   have h2:=Ae c3 h (t:=y) (by simp)
   omega
  ·exact Ae c3 h ht
theorem Jb {a:Rp} (oa:OkP a) (h:vp a=true):∀ t ∈ a.terms,bc t.exps≤iP a:=by
 intro t ht
 unfold iP
 rw [if_pos h]
 cases hg:a.terms.getLast? with
 | none =>
  rw [List.getLast?_eq_none_iff] at hg
  rw [hg] at ht
  cases ht
 | some q=>exact Ae (eJ oa h).1 hg ht
theorem nT {a b:Rp}:sz a b=true↔vp a=true∧vp b=true∧a.vars=b.vars:=by
 unfold sz
 simp
theorem afU {v:Int} {t:Rt} (h:VT v t):VT v (aeL t):=by
 refine ⟨⟨h.c.1,h.c.2⟩,h.len,h.v8,?_,h.nz,h.b,h.d⟩
 have h1:=h.vc
 have h2:=h.nz
 unfold vd at h1 ⊢
 rw [if_neg h2] at h1
 unfold aeL
 rw [if_neg h2]
 exact h1
theorem ahp (t:Rt):zI (aeL t).c=- zI t.c:=by
 unfold zI aeL mg
 cases t.c.neg <;> simp
theorem agA (f:List Int→Int):∀ l:List Rt,bw (l.map aeL) f=- bw l f
 | []=>rfl
 | t::l=>by
  show zI (aeL t).c*f t.exps+bw (l.map aeL) f=-(zI t.c*f t.exps+bw l f)
  rw [agA f l,ahp,Int.neg_mul]
  omega
theorem Jc {v:Int} {o:Option (List Rt)} (h:(ie v o).2=0):∃ l,o=some l∧l.length≤500∧(ie v o).1=⟨v,l⟩:=by
 unfold ie at h ⊢
 cases o with
 | none=>simp at h
 | some l =>
  simp only [] at h ⊢
  split at h
  ·simp at h
  ·rename_i hl
   exact ⟨l,rfl,by omega,by rw [if_neg hl]⟩
structure Pv (v:Int) (a:Rp):Prop where
 v:a.vars=v
 p:vp a=true
 o:OkP a
theorem Pv.cl {v:Int} {a:Rp} (h:Pv v a):Cl v a.terms:=by
 have:=(eJ h.o h.p).1
 rw [h.v] at this
 exact this
theorem CF {a b:Rp} (oa:OkP a) (ob:OkP b) (h:(kn a b).2=0):Pv a.vars a∧Pv a.vars b∧Pv a.vars (kn a b).1∧∀ f,bw (kn a b).1.terms f=bw a.terms f+bw b.terms f:=by
 unfold kn at h ⊢
 split at h
 ·rename_i hp
  rw [if_pos hp]
  obtain ⟨va,vb,hv⟩:=nT.1 hp
  obtain ⟨l,hl,h5,he⟩:=Jc h
  obtain ⟨ca,a0,a8,_⟩:=eJ oa va
  obtain ⟨cb,_⟩:=eJ ob vb
  rw [← hv] at cb
  have ht:∀ t ∈ a.terms++b.terms,VT a.vars t:=fun t ht=>by
   rcases List.mem_append.1 ht with ht | ht
   ·exact ca.t t ht
   ·exact cb.t t ht
  have hc:=(ri (Cl.nil _) ht hl).1
  rw [he]
  refine ⟨⟨rfl,va,oa⟩,⟨hv.symm,vb,ob⟩,⟨rfl,KM hc a0 a8 h5,By hc⟩,fun f=>?_⟩
  have:=Ac (f:=f) (Cl.nil _) ht hl
  rw [CB] at this
  show bw l f=_
  rw [this]
  show 0+_=_
  rw [Int.zero_add]
 ·simp at h
theorem ahq {a b:Rp} (oa:OkP a) (ob:OkP b) (h:(aeS a b).2=0):Pv a.vars a∧Pv a.vars b∧Pv a.vars (aeS a b).1∧∀ f,bw (aeS a b).1.terms f=bw a.terms f - bw b.terms f:=by
 unfold aeS at h ⊢
 split at h
 ·rename_i hp
  rw [if_pos hp]
  obtain ⟨va,vb,hv⟩:=nT.1 hp
  obtain ⟨l,hl,h5,he⟩:=Jc h
  obtain ⟨ca,a0,a8,_⟩:=eJ oa va
  obtain ⟨cb,_⟩:=eJ ob vb
  rw [← hv] at cb
  have ht:∀ t ∈ a.terms++b.terms.map aeL,VT a.vars t:=fun t ht=>by
   rcases List.mem_append.1 ht with ht | ht
   ·exact ca.t t ht
   ·obtain ⟨q,hq,rfl⟩:=List.mem_map.1 ht
    exact afU (cb.t q hq)
  have hc:=(ri (Cl.nil _) ht hl).1
  rw [he]
  refine ⟨⟨rfl,va,oa⟩,⟨hv.symm,vb,ob⟩,⟨rfl,KM hc a0 a8 h5,By hc⟩,fun f=>?_⟩
  have:=Ac (f:=f) (Cl.nil _) ht hl
  rw [CB,agA] at this
  show bw l f=_
  rw [this]
  show 0+_=_
  omega
 ·simp at h
theorem Af {a b:Rp} (oa:OkP a) (ob:OkP b) (va:vp a=true) (vb:vp b=true) (h:¬ (a.terms.length ≠ 0∧b.terms.length ≠ 0∧32 < iP a+iP b)):∀ s ∈ a.terms,∀ t ∈ b.terms,bc s.exps+bc t.exps≤32:=by
 intro s hs t ht
 have h1:=Jb oa va s hs
 have h2:=Jb ob vb t ht
 have h3:a.terms.length ≠ 0:=fun e=>by rw [List.length_eq_zero_iff] at e; rw [e] at hs; cases hs
 have h4:b.terms.length ≠ 0:=fun e=>by rw [List.length_eq_zero_iff] at e; rw [e] at ht; cases ht
 omega
theorem CG {a b:Rp} (oa:OkP a) (ob:OkP b) (h:(iR a b).2=0):Pv a.vars a∧Pv a.vars b∧Pv a.vars (iR a b).1∧∀ f,bw (iR a b).1.terms f*KK=bw a.terms fun u=>bw b.terms fun v=>f (bI u v):=by
 unfold iR at h ⊢
 split at h
 ·rename_i hp
  rw [if_pos hp]
  obtain ⟨va,vb,hv⟩:=nT.1 hp
  split at h
  ·simp at h
  ·rename_i hd
   rw [if_neg hd]
   have hf:=Af oa ob va vb hd
   obtain ⟨l,hl,h5,he⟩:=Jc h
   rw [Option.bind_eq_some_iff] at hl
   obtain ⟨r,hr,hl⟩:=hl
   obtain ⟨ca,a0,a8,_⟩:=eJ oa va
   obtain ⟨cb,_⟩:=eJ ob vb
   rw [← hv] at cb
   have ht:=(xu ca.t cb.t hf hr).1
   have hc:=(ri (Cl.nil _) ht hl).1
   rw [he]
   refine ⟨⟨rfl,va,oa⟩,⟨hv.symm,vb,ob⟩,⟨rfl,KM hc a0 a8 h5,By hc⟩,fun f=>?_⟩
   have:=Ac (f:=f) (Cl.nil _) ht hl
   show bw l f*KK=_
   rw [this,← BA hr]
   show (0+_)*_=_
   rw [Int.zero_add]
 ·simp at h
theorem Hw {x y:Int} (h:x*KK=y*KK):x=y:=Int.eq_of_mul_eq_mul_right Vw h
theorem afe:OkP p0:=⟨fun _ h=>by cases h⟩
theorem Hx {v:Int} {o:Option (List Rt)} (h:∀ l,o=some l→Cl v l):OkP (ie v o).1:=by
 unfold ie
 cases o with
 | none=>exact afe
 | some l =>
  simp only []
  split
  ·exact afe
  ·exact By (h l rfl)
theorem Ag {a b:Rp} (oa:OkP a) (ob:OkP b):OkP (kn a b).1:=by
 unfold kn
 split
 ·rename_i hp
  obtain ⟨va,vb,hv⟩:=nT.1 hp
  obtain ⟨ca,_⟩:=eJ oa va
  obtain ⟨cb,_⟩:=eJ ob vb
  rw [← hv] at cb
  exact Hx fun l hl=>(ri (Cl.nil _) (fun t ht=>by
   rcases List.mem_append.1 ht with ht | ht
   ·exact ca.t t ht
   ·exact cb.t t ht) hl).1
 ·exact afe
theorem ag1 {a b:Rp} (oa:OkP a) (ob:OkP b):OkP (aeS a b).1:=by
 unfold aeS
 split
 ·rename_i hp
  obtain ⟨va,vb,hv⟩:=nT.1 hp
  obtain ⟨ca,_⟩:=eJ oa va
  obtain ⟨cb,_⟩:=eJ ob vb
  rw [← hv] at cb
  exact Hx fun l hl=>(ri (Cl.nil _) (fun t ht=>by
   rcases List.mem_append.1 ht with ht | ht
   ·exact ca.t t ht
   ·obtain ⟨q,hq,rfl⟩:=List.mem_map.1 ht
    exact afU (cb.t q hq)) hl).1
 ·exact afe
theorem Ah {a b:Rp} (oa:OkP a) (ob:OkP b):OkP (iR a b).1:=by
 unfold iR
 split
 ·rename_i hp
  obtain ⟨va,vb,hv⟩:=nT.1 hp
  split
  ·exact afe
  ·rename_i hd
   have hf:=Af oa ob va vb hd
   obtain ⟨ca,_⟩:=eJ oa va
   obtain ⟨cb,_⟩:=eJ ob vb
   rw [← hv] at cb
   refine Hx fun l hl=>?_
   rw [Option.bind_eq_some_iff] at hl
   obtain ⟨r,hr,hl⟩:=hl
   exact (ri (Cl.nil _) (xu ca.t cb.t hf hr).1 hl).1
 ·exact afe
end Go.Ab
namespace Go.Ab
open Go Go.IntWalk
set_option maxRecDepth 4000
set_option maxHeartbeats 1000000
theorem Hy {a:AV} (h:ak a=true):cP a=[]:=by cases a <;> simp [ak] at h <;> rfl
theorem Jd {a:AV} (h:ak a=true) (l:List Nat):aO l a=true:=by cases a <;> simp [ak] at h <;> simp [aO,h]
theorem Hz {a:AV} (h:ak a=true) (g:Nat→Nat):fZ g a=a:=by cases a <;> simp [ak] at h <;> rfl
theorem uW {α β:Type} {f:α→List β}:∀ {l:List α},(∀ x ∈ l,f x=[])→l.flatMap f=[]
 | [],_=>rfl
 | x::l,h=>by
  rw [List.flatMap_cons,h x (by simp),uW fun y hy=>h y (by simp [hy])]
  rfl
theorem Je {a:AV} (h:dat a=true):bk a=[]:=by
 cases a <;> simp only [dat] at h <;> first | exact Hy h | skip
 ·rename_i cs
  exact uW fun x hx=>Hy (List.all_eq_true.1 h x hx)
 ·rename_i f x y
  simp [ak] at h
  obtain ⟨rfl,rfl⟩:=h
  rfl
theorem Mm {a:AV} (h:dat a=true) (l:List Nat):aJ l a=true:=by
 cases a <;> simp only [dat] at h <;> first | exact Jd h l | skip
 ·rename_i cs
  simp only [aJ,List.all_eq_true]
  exact fun x hx=>Jd (List.all_eq_true.1 h x hx) l
 ·rename_i f x y
  simp [ak] at h
  obtain ⟨rfl,rfl⟩:=h
  rfl
theorem Jf {a:AV} (h:dat a=true) (g:Nat→Nat):cQ g a=a:=by
 cases a <;> simp only [dat] at h <;> first | exact Hz h g | skip
 ·rename_i cs
  show AV.agg (cs.map (fZ g))=_
  rw [(List.map_congr_left (g:=fun c=>c) fun x hx=>Hz (List.all_eq_true.1 h x hx) g).trans (List.map_id' cs)]
 ·rename_i f x y
  simp [ak] at h
  obtain ⟨rfl,rfl⟩:=h
  rfl
theorem Mn {a:AV} (h:dat a=true) (hp:aa):bP hp 0 a=some (a,hp,[]):=by
 by_cases hagg:∃ cs,a=.agg cs
 ·obtain ⟨cs,rfl⟩:=hagg
  simp only [dat] at h
  simp only [bP,mK]
  rw [gr h hp]
  rfl
 ·have h2:ak a=true:=by cases a <;> first | exact h | exact absurd ⟨_,rfl⟩ hagg
  cases a <;> first | (simp [ak] at h2; done) | rfl | skip
theorem CH (hp:aa):∀ {l:List AV},l.all dat=true→ah hp [] l=some (l,hp,[])
 | [],_=>rfl
 | a::l,h=>by
  simp only [List.all_cons,Bool.and_eq_true] at h
  simp only [ah,List.headD_nil,Mn h.1,Option.bind_some,List.tail_nil,CH hp h.2,List.append_nil]
structure OC (o:Ob):Prop where
 cl:∀ l,aB l o=true
 ids:ug o=[]
 ren:∀ g,cD g o=o
 nd:cz o=false
structure RT (r:AV):Prop where
 ren:∀ g,ui g r=r
 mat:∀ n h,mat n h r=(r,h)
 ok:∀ l,eE l r=true
theorem CI:∀ l:List AV,kV [] l=[]
 | []=>rfl
 | a::l=>by
  show (if (0:Nat)=2 then _ else [])++kV [] l=[]
  rw [CI l]
  rfl
theorem HA {f:FuncId} {h:aa} {d id:Nat} {zas as':List AV} {o o':Ob} {res:AV} (hm:(ab false).m f=[]) (hk:(ab false).keep f=false) (hn:aM ((ab false).sh f) (.ref id none 0 0 0::zas)=.ref id none 0 0 0::as') (hd:zas.all dat=true) (hd':as'.all dat=true)
  (hh:h id=o) (ho:OC o) (ho':OC o') (hb:bf o=true→bf o'=true) (hR:R f (.ref 1000 none 0 0 0::as') [o]=some (res,[o'])) (hr:RT res) (h8:ch res≤8) (hfr:cr h (2000+8*d) (ch res)=true) :
  aj R (ab false) h d (.ref id none 0 0 0::zas) (.fn f [] [])=some (res,upd h id o',[(id,true)]):=by
 have h1:ah h [] (.ref id none 0 0 0::zas)=some (.ref id none 0 0 0::zas,h,[]):=by
  simp only [ah,bP,Option.bind_some,List.tail_nil,CH h hd,List.append_nil]
 have hp:bp [] ((AV.ref id none 0 0 0::zas).flatMap bk)=[id]:=by
  rw [List.flatMap_cons,uW fun x hx=>Je (List.all_eq_true.1 hd x hx)]
  rfl
 have hre:bM h 40 [id] 0=[id]:=by
  simp [bM,hh,ho.ids,bp]
 have h3:aV [id] id=1000:=by simp [aV]
 have hall:(AV.ref id none 0 0 0::as').all (aJ [id])=true:=by
  rw [List.all_cons,Bool.and_eq_true]
  exact ⟨by simp [aJ,aO],List.all_eq_true.2 fun x hx=>Mm (List.all_eq_true.1 hd' x hx) _⟩
 have hmap:(AV.ref id none 0 0 0::as').map (cQ (aV [id]))=.ref 1000 none 0 0 0::as':=by
  rw [List.map_cons,(List.map_congr_left (g:=fun c=>c) fun x hx=>Jf (List.all_eq_true.1 hd' x hx) _).trans (List.map_id' as')]
  simp [cQ,fZ,h3]
 have hob:([id].map fun a=>cD (aV [id]) (h a))=[o]:=by simp [hh,ho.ren]
 have hids:([id].all fun a=>aB [id] (h a) && !cz (h a))=true:=by simp [hh,ho.cl,ho.nd]
 unfold aj
 rw [if_neg (by simp [jJ,hm])]
 simp only [dq,hm,List.nil_append,List.append_nil,h1,Option.bind_some,hp,hre,hn]
 unfold jI
 rw [hall,hids,hmap,hob,hR,Bool.and_self,if_pos rfl,Option.bind_some,hk,hm,CI]
 unfold et
 have hbf:cU h [] [id] [o']=true:=by
  have:=ho'.nd
  cases h5:bf o with
  | false=>simp [cU,hh,h5,this]
  | true=>simp [cU,hh,h5,hb h5,this]
 have hend:mU h [id] [] (res,[o'])=true:=by
  simp [mU,uj,hr.ok,ho'.cl]
 rw [if_pos ⟨rfl,by simp,h8,hfr,hbf,hend⟩]
 simp [cB,dF,hr.mat,hr.ren,ho'.ren]
theorem nU {f:FuncId} {h:aa} {d id:Nat} {zas:List AV} {r:Option R3} (hm:(ab false).m f=[]) (hd:zas.all dat=true) (hc:aj R (ab false) h d (.ref id none 0 0 0::zas) (.fn f [] [])=r):aE R (ab false) d f (.ref id none 0 0 0::zas,h,[])=r:=by
 have h1:ah h [] (.ref id none 0 0 0::zas)=some (.ref id none 0 0 0::zas,h,[]):=by
  simp only [ah,bP,Option.bind_some,List.tail_nil,CH h hd,List.append_nil]
 rw [ai d hm,h1] at hc
 exact hc
theorem ko {v e:Int} {c:AV} {l:List Rt} (hc:nS c l):OC (t3 v c e):=by
 rcases hc with rfl | ⟨rfl,_⟩
 ·exact ⟨fun l=>rfl,rfl,fun g=>rfl,rfl⟩
 ·exact ⟨fun l=>rfl,rfl,fun g=>rfl,rfl⟩
theorem Z5:RT (.tup []):=⟨fun _=>rfl,fun _ _=>rfl,fun _=>rfl⟩
theorem xv {v e e':Int} {c c':AV} {l l':List Rt} {h:aa} {d id:Nat} {x:List Int} {q:Rd} (hh:h id=t3 v c e) (hc:nS c l) (hc':nS c' l') (hR:R F.poly_collector_add [.ref 1000 none 0 0 0,.sl 1 (aX x),aF q] [t3 v c e]=some (.tup [],[t3 v c' e'])) :
  aj R (ab false) h d [.ref id none 0 0 0,.sl 1 (aX x),aF q] (.fn F.poly_collector_add [] [])=some (.tup [],upd h id (t3 v c' e'),[(id,true)]) :=
 HA (ed false) (du false) (as':=[.sl 1 (aX x),aF q]) (by rw [tF]; simp only [aF,aW,go_sem]) rfl rfl hh (ko hc) (ko hc') (fun _=>rfl) hR Z5 (by decide) rfl
end Go.Ab
namespace Go.Ab
open Go Go.IntWalk
set_option maxRecDepth 4000
set_option maxHeartbeats 1000000
theorem Ai {v:Int}:R F.poly_empty [I v] []=some (.obx [I v,.emp,I 0],[]):=by
 refine aZ Gr Gq (Ba false) rfl ?_
 simp only [mZ,wO,go_sem,↓reduceIte,aez,aeA,aeC]
 rfl
theorem Vx (r:Rp × Int):RT (pV r):=⟨fun _=>rfl,fun _ _=>rfl,fun _=>rfl⟩
theorem uX {h:aa} {o:Ob} {rs:List (List Sh)} {vs us:List AV} {r:AV} (h0:((vs.flatMap bk).filter fun i=>!aG i)=[]) (h1:h 1000=o) (ho:aB [1000] o=true) (h2:lX h vs=some us) (h3:kX (aM rs us)=r):n9 rs 1 h vs=some (r,[o]):=by
 have hp:bU 1=[1000]:=rfl
 unfold n9
 rw [h0,hp,h2,if_pos (by simp [fw,h1,ho])]
 simp [h1,h3]
theorem Sz (x:Value):gK (.v x)=.v x:=rfl
theorem OG (k:Nat) (r:List (List AV)):gK (.osl k r)=.sl k r:=rfl
theorem SA {v e:Int} {l:List Rt}:kX (aM [[.o 0 [],.o 5 [.o 2 [],.o 0 [],.o 2 [],.o 0 []]],[]] [.agg [I v,.sl 4 (ax l)],I e])=pV (⟨v,l⟩,e):=by
 have h:=tN l
 show AV.tup [.agg [I v,.sl 4 ((ax l).map _)],I e]=_
 rw [h]
 rfl
theorem OH {v e:Int} {c:AV} {l:List Rt} (hc:nS c l) (he:e ≠ 0):R F.poly_collector_done [.ref 1000 none 0 0 0] [t3 v c e]=some (pV (p0,e),[t3 v c e]):=by
 refine sy jw jv (ef false) rfl ?_
 have e1:(e=0)=False:=ff he
 simp only [bY,dP,t3,go_sem,↓reduceIte,aez,aeB,aeA,aeC,aeE,aeD,e1]
 exact uX rfl (by rfl) ((ko hc).cl _) (by rfl) (by rfl)
theorem OI {v:Int} {l:List Rt}:R F.poly_collector_done [.ref 1000 none 0 0 0] [t3 v (.osl 4 (ax l)) 0]=some (pV (ie v (some l)),[if 500 < l.length then t3 v (.osl 4 (ax l)) 0 else .bx [I v,.sl 4 (ax l),I 0]]):=by
 refine sy jw jv (ef false) rfl ?_
 unfold ie
 by_cases h:500 < l.length
 ·have e1:(500 < (l.length:Int))=True:=tt (by omega)
  simp only [if_pos h]
  simp only [bY,dP,t3,go_sem,↓reduceIte,aez,aeB,aeA,aeC,aeE,aeD,e1]
  exact uX rfl (by rfl) rfl (by rfl) (by rfl)
 ·have e1:(500 < (l.length:Int))=False:=ff (by omega)
  have k2:(ax l).take l.length=ax l:=List.take_of_length_le (by rw [gI]; exact Nat.le_refl _)
  simp only [if_neg h]
  simp only [bY,dP,t3,go_sem,↓reduceIte,aez,aeB,aeA,aeC,aeE,aeD,e1,Sz,OG]
  exact uX rfl (by rfl) rfl (by rfl) SA
theorem OJ {v:Int}:R F.poly_collector_done [.ref 1000 none 0 0 0] [t3 v .emp 0]=some (pV (ie v (some [])),[t3 v .emp 0]):=by
 refine sy jw jv (ef false) rfl ?_
 have e1:((500:Int) < 0)=False:=ff (by decide)
 simp only [bY,dP,t3,go_sem,↓reduceIte,aez,aeB,aeA,aeC,aeE,aeD,e1]
 exact uX rfl (by rfl) rfl (by rfl) (by rfl)
theorem xw {v e:Int} {c:AV} {l:List Rt} {h:aa} {d id:Nat} (hh:h id=t3 v c e) (hc:nS c l) (hf:cr h (2000+8*d) 2=true) :
  ∃ o,aj R (ab false) h d [.ref id none 0 0 0] (.fn F.poly_collector_done [] [])=some (pV (if e=0 then ie v (some l) else (p0,e)),upd h id o,[(id,true)]):=by
 have key:∃ o,OC o∧bf o=true∧R F.poly_collector_done [.ref 1000 none 0 0 0] [t3 v c e]=some (pV (if e=0 then ie v (some l) else (p0,e)),[o]):=by
  by_cases he:e=0
  ·subst he
   rw [if_pos rfl]
   rcases hc with rfl | ⟨rfl,rfl⟩
   ·refine ⟨_,?_,?_,OI⟩
    ·split
     ·exact ko (.inl rfl)
     ·exact ⟨fun l=>rfl,rfl,fun g=>rfl,rfl⟩
    ·split <;> rfl
   ·exact ⟨_,ko (.inr ⟨rfl,rfl⟩),rfl,OJ⟩
  ·rw [if_neg he]
   exact ⟨_,ko hc,rfl,OH hc he⟩
 obtain ⟨o,h1,h2,h3⟩:=key
 exact ⟨o,HA (dR false) (ef false) (as':=[]) (by rw [sO]; rfl) rfl rfl hh (ko hc) h1 (fun _=>h2) h3 (Vx _) (by show 2≤8; decide) hf⟩
theorem Jg {a b:Rp} (oa:OkP a) (ob:OkP b):R F.poly_pair [bm a,bm b] []=some (B (sz a b),[]):=by
 refine aZ Im Il (B8 false) rfl ?_
 have h1:=nR oa
 have h2:=nR ob
 simp only [bm] at h1 h2
 unfold sz
 cases ha:vp a with
 | false =>
  rw [ha] at h1
  rw [Bool.false_and]
  simp only [jn,pT,bm,go_sem,↓reduceIte,aez,aeB,aeA,aeC,h1]
 | true =>
  rw [ha] at h1
  rw [Bool.true_and]
  cases hb:vp b with
  | false =>
   rw [hb] at h2
   rw [Bool.false_and]
   simp only [jn,pT,bm,go_sem,↓reduceIte,aez,aeB,aeA,aeC,h1,h2]
  | true =>
   rw [hb] at h2
   rw [Bool.true_and]
   simp only [jn,pT,bm,go_sem,↓reduceIte,aez,aeB,aeA,aeC,h1,h2]
structure ColE (v:Int) (l ts:List Rt) (e:Int) (c':AV) (l':List Rt) (e':Int):Prop where
 c:nS c' l'
 r:(e'=0∧e=0∧ej l ts=some l')∨(e'=9∧(e=0→ej l ts=none))
theorem ColE.fin {v:Int} {ts:List Rt} {c':AV} {l':List Rt} {e':Int} (h:ColE v [] ts 0 c' l' e'):(if e'=0 then ie v (some l') else (p0,e'))=ie v (ej [] ts):=by
 rcases h.r with ⟨h1,_,h2⟩ | ⟨h1,h2⟩
 ·rw [if_pos h1,h2]
 ·rw [h1,if_neg (by decide),h2 rfl]
  rfl
theorem ColE.step {v:Int} {l ts:List Rt} {t:Rt} {c:AV} (hc:nS c l) {e:Int} (he:e=0∨e=9) (hC:e=0→Cl v l∧l.length+ts.length+1≤1000000) (vt:VT v t) {v':Int} :
  ∃ c1 l1 e1,R F.poly_collector_add [.ref 1000 none 0 0 0,.sl 1 (aX t.exps),aF t.c] [t3 v' c e]=some (.tup [],[t3 v' c1 e1])∧nS c1 l1∧(e1=0∨e1=9)∧(e1=0→Cl v l1∧l1.length+ts.length≤1000000)∧∀ c' l' e',ColE v l1 ts e1 c' l' e'→ColE v l (t::ts) e c' l' e':=by
 rcases he with rfl | rfl
 ·obtain ⟨h1,h2⟩:=hC rfl
  obtain ⟨c1,l1,e1,g1,g2,g3⟩:=I9 (v':=v') h1 vt (by omega) hc
  refine ⟨c1,l1,e1,g1,g2,?_,fun h0=>?_,fun c' l' e' h=>⟨h.c,?_⟩⟩
  ·rcases g3 with ⟨g,_⟩ | ⟨g,_⟩
   ·exact .inl g
   ·exact .inr g
  ·rcases g3 with ⟨_,g⟩ | ⟨g,_⟩
   ·have:=Aa g
    exact ⟨(xX h1 vt g).1,by omega⟩
   ·omega
  ·rcases g3 with ⟨g,k⟩ | ⟨g,k,_⟩
   ·subst g
    rcases h.r with ⟨q1,_,q2⟩ | ⟨q1,q2⟩
    ·refine .inl ⟨q1,rfl,?_⟩
     unfold ej
     rw [k]
     exact q2
    ·refine .inr ⟨q1,fun _=>?_⟩
     unfold ej
     rw [k]
     exact q2 rfl
   ·subst g
    rcases h.r with ⟨_,q1,_⟩ | ⟨q1,_⟩
    ·omega
    ·refine .inr ⟨q1,fun _=>?_⟩
     unfold ej
     rw [k]
     rfl
 ·refine ⟨c,l,9,Hp hc (by decide),hc,.inr rfl,fun h=>by omega,fun c' l' e' h=>⟨h.c,?_⟩⟩
  rcases h.r with ⟨_,q1,_⟩ | ⟨q1,_⟩
  ·omega
  ·exact .inr ⟨q1,fun h=>by omega⟩
theorem Mo {v v':Int} {T:List Rt} (hT:∀ t ∈ T,VT v t) (hn:T.length≤100000):∀ (k i:Nat),i+k=T.length→∀ (c:AV) (l:List Rt) (e:Int),nS c l→(e=0∨e=9)→(e=0→Cl v l∧l.length+k≤1000000) →
  ∀ (s:af) (h:aa),s 4=.ref 4 none 0 0 0→s 6=.ref 2128 none 0 0 0→s 22=.sl 4 (ax T)→s 23=I T.length→s 24=I i→h 4=.bx [I 0,.emp]→h 2128=t3 v' c e →
  ∃ hh c' l' e',aI 0 [4,6] (aU (az R (ab false) kz) [4,6,22,23,24] [4,2128] s h)=some (.normal,⟨upd (upd (fun _=>.any) 6 (.ref 2128 none 0 0 0)) 4 (.ref 4 none 0 0 0),hh⟩) ∧
   hh 4=.bx [I 0,.emp]∧hh 2128=t3 v' c' e'∧(∀ a,a ≠ 4→a ≠ 2128→hh a=.dead)∧ColE v l (T.drop i) e c' l' e':=by
 intro k
 induction k with
 | zero =>
  intro i hi c l e hc he hC s h h4 h6 h22 h23 h24 k4 k6
  have e1:((i:Int) < T.length)=False:=ff (by omega)
  have ho:=(ko (v:=v') (e:=e) hc).cl [4,2128]
  rw [aA]
  refine ⟨?hh0,c,l,e,?_,?_,?_,?_,?_⟩
  rotate_left
  ·simp only [kz,go_sem,↓reduceIte,aez,aeD,h4,h6,h22,h23,h24,k4,k6,ho,e1]
   rfl
  ·rfl
  ·rfl
  ·intro a a1 a2
   simp only [jg,a1,a2,if_false]
  ·rw [List.drop_eq_nil_of_le (by omega)]
   refine ⟨hc,?_⟩
   rcases he with rfl | rfl
   ·exact .inl ⟨rfl,rfl,rfl⟩
   ·exact .inr ⟨rfl,fun h=>by omega⟩
 | succ k ih =>
  intro i hi c l e hc he hC s h h4 h6 h22 h23 h24 k4 k6
  have hlt:i < T.length:=by omega
  have e1:((i:Int) < T.length)=True:=tt (by omega)
  have e2:bH (ax T) (i:Int)=some (.ipt (bv T[i])):=jx rfl (List.getElem?_eq_getElem hlt)
  have e5:IntKind.i64.wrap ((i:Int)+1)=((i+1:Nat):Int):=wi (by omega) (by omega)
  have ho:=(ko (v:=v') (e:=e) hc).cl [4,2128]
  have hdl:(T.drop (i+1)).length=k:=by rw [List.length_drop]; omega
  obtain ⟨c1,l1,ee,g1,g2,g3,g4,g5⟩:=ColE.step (ts:=T.drop (i+1)) hc he (fun h=>by have:=hC h; exact ⟨this.1,by omega⟩) (hT _ (List.getElem_mem hlt)) (v':=v')
  rw [hdl] at g4
  have ih':=ih (i+1) (by omega) c1 l1 ee g2 g3 g4
  rw [List.drop_eq_getElem_cons hlt,aA]
  generalize T[i]=t at e2 g1 g5 ⊢
  generalize aU _ _ _=L at ih' ⊢
  have hcall:=fun (h:aa) (hh:h 2128=t3 v' c e) (d:Nat)=>nU (ed false) rfl (xv (d:=d) hh hc g2 g1)
  simp only [aF,aW] at hcall
  simp only [bv] at e2
  simp only [kz,go_sem,↓reduceIte,aez,aeB,aeA,aeC,aeD,h4,h6,h22,h23,h24,k4,k6,ho,e1,e2]
  rw [hcall _ rfl]
  simp only [go_sem,↓reduceIte,aez,aeD,e5]
  refine (ih' _ _ ?_ ?_ ?_ ?_ ?_ ?_ ?_).imp fun hh ⟨c',l',e',q1,q2,q3,q4,q5⟩=>⟨c',l',e',q1,q2,q3,q4,g5 _ _ _ q5⟩
  all_goals rfl
end Go.Ab
namespace Go.Ab
open Go Go.IntWalk
set_option maxRecDepth 4000
set_option maxHeartbeats 1000000
theorem Jh:BH .emp=some (I 0):=rfl
theorem HB (h:aa):uo h .emp=h:=rfl
theorem KO:dK 4 .emp none (some (I 0)) none=some .emp:=rfl
theorem OK {h:aa} {d:Nat} {z:List AV} {n:Nat} (h0:0 < n) (h1:n≤1000000):sd h d 4 64 z .emp (I n)=bR h d 4 (List.replicate n z) n []:=by
 simp only [sd]
 rw [if_pos ⟨by omega,by omega⟩,Int.toNat_natCast]
theorem OL:R F.slices_Grow_api_Term_api_Term_ [.emp,I 0] []=some (.emp,[]):=by
 refine aZ gX gW (fG false) rfl ?_
 have e1:((0:Int) < 0)=False:=ff (by decide)
 have w1:IntKind.i64.wrap ((0:Int) - 0)=0:=by decide
 simp only [bK,dM,go_sem,↓reduceIte,aez,aeC,e1,w1,Jh,HB]
theorem OM {n:Nat} (h0:0 < n) (h1:n≤1000000):R F.slices_Grow_api_Term_api_Term_ [.emp,I n] []=some (.osl 4 [],[]):=by
 refine aZ gX gW (fG false) rfl ?_
 have e1:((n:Int) < 0)=False:=ff (by omega)
 have e2:(0 < (n:Int))=True:=tt (by omega)
 have w0:IntKind.i64.wrap ((0:Int) - 0)=0:=by decide
 have w1:IntKind.i64.wrap ((n:Int) - 0)=(n:Int):=wi (by omega) (by omega)
 have e3:(n*64≤140737488355328)=True:=eq_true (by omega)
 have e5:dK 4 (.rsl 22 none 4 0 n) none (some (I 0)) none=some (.rsl 22 none 4 0 0):=by
  simp [dK,ia,gJ]
 have e4:=fun h d z=>OK (h:=h) (d:=d) (z:=z) h0 h1
 simp only [bK,dM,go_sem,↓reduceIte,aez,aeA,aeC,aeE,e1,e2,e4,w0,w1,Jh,HB,KO,e5,List.take_zero]
 done
theorem Mp {a b:List Rt} (ha:a.length≤100000) (hb:b.length≤100000):R F.slices_Concat_api_Term_api_Term_ [.sl 1 [[.sl 4 (ax a)],[.sl 4 (ax b)]]] []=some (.sl 4 (ax (a++b)),[]):=by
 refine aZ mE mD (lq false) rfl ?_
 have w1:IntKind.i64.wrap ((0:Int)+(a.length:Int))=(a.length:Int):=wi (by omega) (by omega)
 have w2:IntKind.i64.wrap ((a.length:Int)+(b.length:Int))=((a.length+b.length:Nat):Int):=wi (by omega) (by omega)
 have e1:((a.length:Int) < 0)=False:=ff (by omega)
 have e2:(((a.length+b.length:Nat):Int) < 0)=False:=ff (by omega)
 have c1:((0:Int) < ((0+1+1:Nat):Int))=True:=tt (by decide)
 have c2:((1:Int) < ((0+1+1:Nat):Int))=True:=tt (by decide)
 have c3:((2:Int) < ((0+1+1:Nat):Int))=False:=ff (by decide)
 have r0:bH [[AV.sl 4 (ax a)],[.sl 4 (ax b)]] 0=some (.ipt [.sl 4 (ax a)]):=rfl
 have r1:bH [[AV.sl 4 (ax a)],[.sl 4 (ax b)]] 1=some (.ipt [.sl 4 (ax b)]):=rfl
 have i1:IntKind.i64.wrap ((0:Int)+1)=1:=by decide
 have i2:IntKind.i64.wrap ((1:Int)+1)=2:=by decide
 simp only [bZ,fQ,go_sem,↓reduceIte,aez,aeA,List.length_cons,List.length_nil]
 rw [aA]
 simp only [fh,go_sem,↓reduceIte,aez,c1,r0,w1,e1,i1]
 rw [aA]
 simp only [go_sem,↓reduceIte,aez,c2,r1,w2,e2,i2]
 rw [aA]
 simp only [go_sem,↓reduceIte,aez,c3]
 by_cases hz:a.length+b.length=0
 ·have ea:a=[]:=List.length_eq_zero_iff.1 (by omega)
  have eb:b=[]:=List.length_eq_zero_iff.1 (by omega)
  subst ea eb
  have hg:=OL
  have a0:∀ h d,yM h d 4 64 .emp (.sl 4 [])=some (.emp,h,[]):=fun h d=>rfl
  have hcr:hG (fun _=>.dead) 24 (some (.emp,[]))=some (.emp,fun _=>.dead,[]):=rfl
  rw [show ax []=[] from rfl] at *
  simp only [go_sem,↓reduceIte,aez,aeA,hg,hcr,List.length_nil,Nat.add_zero,Int.natCast_zero]
  rw [aA]
  simp only [cS,go_sem,↓reduceIte,aez,c1,r0,i1,a0]
  rw [aA]
  simp only [go_sem,↓reduceIte,aez,c2,r1,i2,a0]
  rw [aA]
  simp only [go_sem,↓reduceIte,aez,c3]
  rfl
 ·have hg:=OM (n:=a.length+b.length) (by omega) (by omega)
  have b1:(a.length*64≤140737488355328)=True:=eq_true (by omega)
  have b2:((a.length+b.length)*64≤140737488355328)=True:=eq_true (by omega)
  simp only [go_sem,↓reduceIte,aez,aeB,aeA,hg,List.length_nil]
  rw [aA]
  simp only [cS,go_sem,↓reduceIte,aez,aeC,aeE,aeD,c1,r0,i1,b1,or_true,Nat.zero_add,List.nil_append,List.length_nil]
  rw [aA]
  simp only [go_sem,↓reduceIte,aez,aeC,aeE,aeD,c2,r1,i2,b2,or_true]
  rw [aA]
  simp only [go_sem,↓reduceIte,aez,aeC,aeE,aeD,c3,Nat.zero_add]
  have hl:(ax a++ax b).length=a.length+b.length:=by rw [List.length_append,gI,gI]
  have hab:ax a++ax b=ax (a++b):=by simp [ax]
  rw [hl,if_pos (Nat.le_refl _),if_pos rfl,hab]
  show some (kX (aM _ [.osl 4 (ax (a++b))]),[])=_
  have h:=tN (a++b)
  show some (AV.sl 4 ((ax (a++b)).map _),[])=_
  rw [h]
theorem qp (h:aa) (d:Nat) (v:Int):hG h d (some (.obx [I v,.emp,I 0],[]))=if cz (h (2000+8*d))=true then some (.ref (2000+8*d) none 0 0 0,upd h (2000+8*d) (.bx [I v,.emp,I 0]),[]) else none:=by
 simp [hG,ch,cr,eE,da,gL,ak,aN,mat,bW]
theorem SB {v v':Int} {T:List Rt} (hT:∀ t ∈ T,VT v t) (hn:T.length≤100000) (s:af) (h:aa) (X:Option (Ex × St)) (hX:aI 0 [4,6] (aU (az R (ab false) kz) [4,6,22,23,24] [4,2128] s h)=X) (h4:s 4=.ref 4 none 0 0 0) (h6:s 6=.ref 2128 none 0 0 0) (h22:s 22=.sl 4 (ax T)) (h23:s 23=I T.length) (h24:s 24=I 0) (k4:h 4=.bx [I 0,.emp]) (k6:h 2128=t3 v' .emp 0) :
  ∃ hh c' l' e',X=some (.normal,⟨upd (upd (fun _=>.any) 6 (.ref 2128 none 0 0 0)) 4 (.ref 4 none 0 0 0),hh⟩) ∧
   hh 4=.bx [I 0,.emp]∧hh 2128=t3 v' c' e'∧(∀ a,a ≠ 4→a ≠ 2128→hh a=.dead)∧ColE v [] T 0 c' l' e':=by
 subst hX
 exact Mo hT hn T.length 0 (Nat.zero_add _) .emp [] 0 (.inr ⟨rfl,rfl⟩) (.inl rfl) (fun _=>⟨Cl.nil _,by show 0+_≤_; omega⟩) s h h4 h6 h22 h23 h24 k4 k6
theorem CJ {a b:Rp} (oa:OkP a) (ob:OkP b):R F.poly_Add [bm a,bm b] []=some (pV (kn a b),[]):=by
 refine aZ KA Kz (DJ false) rfl ?_
 have hp:=Jg oa ob
 simp only [bm] at hp
 unfold kn
 cases hb:sz a b with
 | false =>
  rw [hb] at hp
  rw [if_neg Bool.false_ne_true]
  simp only [mN,uI,bm,go_sem,↓reduceIte,aez,aeB,aeA,aeC,hp]
  rfl
 | true =>
  rw [hb] at hp
  rw [if_pos rfl]
  obtain ⟨va,vb,hv⟩:=nT.1 hb
  obtain ⟨ca,a0,a8,al⟩:=eJ oa va
  obtain ⟨cb,b0,b8,bl⟩:=eJ ob vb
  rw [← hv] at cb
  have hT:∀ t ∈ a.terms++b.terms,VT a.vars t:=fun t ht=>by
   rcases List.mem_append.1 ht with ht | ht
   ·exact ca.t t ht
   ·exact cb.t t ht
  have hemp:=Ai (v:=a.vars)
  have hcat:=Mp (a:=a.terms) (b:=b.terms) (by omega) (by omega)
  have hl:=SB (v':=a.vars) hT (by rw [List.length_append]; omega)
  generalize a.terms++b.terms=T at hcat hl ⊢
  simp only [mN,uI,bm,go_sem,↓reduceIte,aez,aeB,aeA,aeC,aeE,hp,hemp,qp,hcat,List.length_cons,List.length_nil]
  generalize hX:aI 0 [4,6] _=X
  obtain ⟨hh,c',l',e',rfl,q2,q3,q4,q5⟩:=hl _ _ _ hX rfl rfl rfl rfl rfl rfl rfl
  obtain ⟨o,hd⟩:=xw (d:=36) q3 q5.c (by simp [cr,q4,cz])
  have hd':=nU (dR false) rfl hd
  rw [q5.fin] at hd'
  generalize ie a.vars (ej [] T)=r at hd' ⊢
  obtain ⟨r1,r2⟩:=r
  simp only [pV,bm] at hd'
  simp only [pV,bm,go_sem,↓reduceIte,aez,aeB,aeA,aeC,aeD,q2,hd']
end Go.Ab
namespace Go.Ab
open Go Go.IntWalk
set_option maxRecDepth 4000
set_option maxHeartbeats 1000000
theorem ahr {v:Int} {t:Rt} (vt:VT v t):R F.dyadic_Neg [aF t.c] []=some (aF (aeL t).c,[]):=by
 have h:=agR vt.c
 have hvc:=vt.vc
 rw [if_neg (by rw [hvc]; exact fun h=>h.elim (fun h=>by cases h) vt.nz)] at h
 exact h
def t2 (v:Int) (c:AV):Ob:=.bx [I v,c]
theorem ahh {v:Int} {c:AV} {l:List Rt} (hc:nS c l) (ids:List Nat):aB ids (t2 v c)=true:=by
 rcases hc with rfl | ⟨rfl,_⟩ <;> rfl
theorem agS {v v':Int} {a:Rp} {T:List Rt} (hT:∀ t ∈ T,VT v t) (hn:T.length≤100000) {o3:Ob} (ho3:aB [2,3,4,6] o3=true):∀ (k i:Nat),i+k=T.length→∀ (c:AV),nS c ((T.take i).map aeL) →
  ∀ (s:af) (h:aa),s 2=.ref 2 none 0 0 0→s 4=.ref 4 none 0 0 0→s 6=.ref 6 none 0 0 0→s 18=.sl 4 (ax T)→s 19=I T.length→s 20=I i→h 2=.bx [I a.vars,.sl 4 (ax a.terms)]→h 3=o3→h 4=.bx [I 0,.emp]→h 6=t2 v' c →
  ∃ hh c',aI 0 [2,4,6] (aU (az R (ab false) DB) [2,4,6,18,19,20] [2,3,4,6] s h)=some (.normal,⟨upd (upd (upd (fun _=>.any) 6 (.ref 6 none 0 0 0)) 4 (.ref 4 none 0 0 0)) 2 (.ref 2 none 0 0 0),hh⟩) ∧
   hh 2=.bx [I a.vars,.sl 4 (ax a.terms)]∧hh 4=.bx [I 0,.emp]∧hh 6=t2 v' c'∧(∀ a,a ≠ 2→a ≠ 3→a ≠ 4→a ≠ 6→hh a=.dead)∧nS c' (T.map aeL):=by
 intro k
 induction k with
 | zero =>
  intro i hi c hc s h h2 h4 h6 h18 h19 h20 k2 k3 k4 k6
  have e1:((i:Int) < T.length)=False:=ff (by omega)
  rw [List.take_of_length_le (by omega)] at hc
  have ho:=ahh (v:=v') hc [2,3,4,6]
  rw [aA]
  refine ⟨?hh0,c,?_,?_,?_,?_,?_,hc⟩
  rotate_left
  ·simp only [DB,go_sem,↓reduceIte,aez,aeD,h2,h4,h6,h18,h19,h20,k2,k3,k4,k6,ho,ho3,e1]
   rfl
  ·rfl
  ·rfl
  ·rfl
  ·intro a a1 a2 a3 a4
   simp only [jg,a1,a2,a3,a4,if_false]
 | succ k ih =>
  intro i hi c hc s h h2 h4 h6 h18 h19 h20 k2 k3 k4 k6
  have hlt:i < T.length:=by omega
  have e1:((i:Int) < T.length)=True:=tt (by omega)
  have e2:bH (ax T) (i:Int)=some (.ipt (bv T[i])):=jx rfl (List.getElem?_eq_getElem hlt)
  have e5:IntKind.i64.wrap ((i:Int)+1)=((i+1:Nat):Int):=wi (by omega) (by omega)
  have hng:=ahr (hT _ (List.getElem_mem hlt))
  have ho:=ahh (v:=v') hc [2,3,4,6]
  have ih':=ih (i+1) (by omega)
  rw [List.take_succ_eq_append_getElem hlt,List.map_append,List.map_singleton] at ih'
  have hlen:((T.take i).map aeL).length=i:=by rw [List.length_map,List.length_take]; omega
  generalize T[i]=t at e2 hng ih'
  generalize (T.take i).map aeL=l at hc ih' hlen
  rw [aA]
  generalize aU _ _ _=L at ih' ⊢
  simp only [aF,aW,aeL] at hng
  simp only [bv] at e2
  rcases hc with rfl | ⟨rfl,rfl⟩
  ·simp only [t2] at k6
   have b1:((l.length+1)*64≤140737488355328)=True:=eq_true (by omega)
   simp only [DB,go_sem,↓reduceIte,aez,aeB,aeA,aeC,aeE,aeD,h2,h4,h6,h18,h19,h20,k2,k3,k4,k6,ho3,e1,e2,hng,b1,true_or]
   rw [if_pos (by rfl),uU rfl (by rw [List.length_append,gI]; rfl) rfl (by decide) (by show 1 < 2; decide)]
   simp only [go_sem,↓reduceIte,aez,aeD,e5]
   refine (ih' (.osl 4 (ax l++[[.sl 1 (aX t.exps),B (!t.c.neg),lm t.c.m,I t.c.e]])) (.inl ?_) _ _ ?_ ?_ ?_ ?_ ?_ ?_ ?_ ?_ ?_ ?_).imp fun hh ⟨c',q⟩=>⟨c',q⟩
   ·simp [ax,bv,aeL]
   all_goals rfl
  ·simp only [t2] at k6
   simp only [DB,go_sem,↓reduceIte,aez,aeB,aeA,aeC,aeE,aeD,h2,h4,h6,h18,h19,h20,k2,k3,k4,k6,ho3,e1,e2,hng]
   rw [if_pos (by rfl),uU rfl (show 1=List.length [[AV.sl 1 (aX t.exps),B (!t.c.neg),lm t.c.m,I t.c.e]] from rfl) rfl (by decide) (by show 1 < 2; decide)]
   simp only [go_sem,↓reduceIte,aez,aeD,e5]
   refine (ih' (.osl 4 [[.sl 1 (aX t.exps),B (!t.c.neg),lm t.c.m,I t.c.e]]) (.inl ?_) _ _ ?_ ?_ ?_ ?_ ?_ ?_ ?_ ?_ ?_ ?_).imp fun hh ⟨c',q⟩=>⟨c',q⟩
   all_goals rfl
theorem ahH {v v':Int} {a:Rp} {T:List Rt} (hT:∀ t ∈ T,VT v t) (hn:T.length≤100000) {o3:Ob} (ho3:aB [2,3,4,6] o3=true) (s:af) (h:aa) (X:Option (Ex × St)) (hX:aI 0 [2,4,6] (aU (az R (ab false) DB) [2,4,6,18,19,20] [2,3,4,6] s h)=X)
  (h2:s 2=.ref 2 none 0 0 0) (h4:s 4=.ref 4 none 0 0 0) (h6:s 6=.ref 6 none 0 0 0) (h18:s 18=.sl 4 (ax T)) (h19:s 19=I T.length) (h20:s 20=I 0) (k2:h 2=.bx [I a.vars,.sl 4 (ax a.terms)]) (k3:h 3=o3) (k4:h 4=.bx [I 0,.emp]) (k6:h 6=.bx [I v',.emp]) :
  ∃ hh c',X=some (.normal,⟨upd (upd (upd (fun _=>.any) 6 (.ref 6 none 0 0 0)) 4 (.ref 4 none 0 0 0)) 2 (.ref 2 none 0 0 0),hh⟩) ∧
   hh 2=.bx [I a.vars,.sl 4 (ax a.terms)]∧hh 4=.bx [I 0,.emp]∧hh 6=t2 v' c'∧(∀ a,a ≠ 2→a ≠ 3→a ≠ 4→a ≠ 6→hh a=.dead)∧nS c' (T.map aeL):=by
 subst hX
 exact agS hT hn ho3 T.length 0 (Nat.zero_add _) .emp (.inr ⟨rfl,rfl⟩) s h h2 h4 h6 h18 h19 h20 k2 k3 k4 k6
theorem ahs {a b:Rp} (_oa:OkP a) (ob:OkP b) (h:sz a b=true):OkP ⟨b.vars,b.terms.map aeL⟩∧kn a ⟨b.vars,b.terms.map aeL⟩=aeS a b:=by
 obtain ⟨va,vb,hv⟩:=nT.1 h
 obtain ⟨cb,b0,b8,bl⟩:=eJ ob vb
 have hp:∀ l:List Rt,Cl b.vars l→Cl b.vars (l.map aeL):=by
  intro l
  induction l with
  | nil=>exact fun c=>c
  | cons t l ih =>
   intro c
   obtain ⟨c1,c2,c3⟩:=c.cons
   refine Cl.mk' (afU c1) (fun x hx=>?_) (ih c3)
   obtain ⟨q,hq,rfl⟩:=List.mem_map.1 hx
   exact c2 q hq
 have hn:=hp _ cb
 refine ⟨By hn,?_⟩
 have h2:sz a ⟨b.vars,b.terms.map aeL⟩=true:=nT.2 ⟨va,KM hn b0 b8 (by rw [List.length_map]; exact bl),hv⟩
 unfold kn aeS
 rw [if_pos h2,if_pos h]
theorem aht {a b:Rp} (oa:OkP a) (ob:OkP b):R F.poly_Sub [bm a,bm b] []=some (pV (aeS a b),[]):=by
 refine aZ agJ agI (afX false) rfl ?_
 have hp:=Jg oa ob
 simp only [bm] at hp
 cases hb:sz a b with
 | false =>
  rw [hb] at hp
  unfold aeS
  rw [hb,if_neg Bool.false_ne_true]
  simp only [yF,Ks,bm,go_sem,↓reduceIte,aez,aeB,aeA,aeC,hp]
  rfl
 | true =>
  rw [hb] at hp
  obtain ⟨va,vb,hv⟩:=nT.1 hb
  obtain ⟨cb,b0,b8,bl⟩:=eJ ob vb
  obtain ⟨on,e1⟩:=ahs oa ob hb
  have hadd:=CJ oa on
  rw [e1] at hadd
  have hl:=ahH (v':=b.vars) (a:=a) (T:=b.terms) cb.t (by omega) (o3:=.bx [I b.vars,.sl 4 (ax b.terms)]) rfl
  simp only [yF,Ks,bm,go_sem,↓reduceIte,aez,aeB,aeA,aeC,hp]
  generalize hX:aI 0 [2,4,6] _=X
  obtain ⟨hh,c',rfl,q2,q3,q4,q5,q6⟩:=hl _ _ _ hX rfl rfl rfl rfl rfl rfl rfl rfl rfl rfl
  have d1:hh 2304=.dead:=q5 _ (by decide) (by decide) (by decide) (by decide)
  have d2:hh 2305=.dead:=q5 _ (by decide) (by decide) (by decide) (by decide)
  generalize aeS a b=r at hadd ⊢
  obtain ⟨r1,r2⟩:=r
  simp only [pV,bm] at hadd
  rcases q6 with rfl | ⟨rfl,q6⟩
  ·simp only [t2] at q4
   simp only [pV,bm,go_sem,↓reduceIte,aez,aeB,aeA,aeC,aeD,q2,q3,q4,d1,d2,Sz,OG,hadd]
  ·simp only [t2] at q4
   rw [q6] at hadd
   rw [show ax []=[] from rfl] at hadd
   simp only [pV,bm,go_sem,↓reduceIte,aez,aeB,aeA,aeC,q2,q3,q4,d1,d2,hadd]
end Go.Ab
namespace Go.Ab
open Go Go.IntWalk
set_option maxRecDepth 4000
set_option maxHeartbeats 1000000
end Go.Ab
namespace Go.Ab
open Go Go.IntWalk
set_option maxRecDepth 4000
set_option maxHeartbeats 1000000
end Go.Ab
namespace Go.Ab
open Go Go.IntWalk
set_option maxRecDepth 4000
set_option maxHeartbeats 1000000
def ae6:List Nat→List Nat→Bool
 | [],[]=>true
 | x::xs,y::ys=>decide (x=y) && ae6 xs ys
 | _,_=>false
theorem agB:∀ {a b:List Nat},ae6 a b=true↔a=b
 | [],[]=>by simp [ae6]
 | x::a,y::b=>by simp [ae6,agB]
 | [],_::_=>by simp [ae6]
 | _::_,[]=>by simp [ae6]
theorem agl:∀ {a b:List Nat},a.length ≠ b.length→ae6 a b=false
 | [],[],h=>absurd rfl h
 | x::a,y::b,h=>by
  unfold ae6
  rw [agl (fun e=>h (by simp [e])),Bool.and_false]
 | [],_::_,_=>rfl
 | _::_,[],_=>rfl
end Go.Ab
namespace Go.Ab
open Go Go.IntWalk
set_option maxRecDepth 4000
set_option maxHeartbeats 1000000
def uY (t:Rt):Bool:=decide (10 < t.c.m.length) || decide (20 < t.exps.length)
theorem KP {t:Rt}:R F.l23_great_1_1 [.agg (bv t)] []=some (B (uY t),[]):=by
 refine aZ A9 A8 (wW false) rfl ?_
 unfold uY
 by_cases h:10 < t.c.m.length
 ·have e1:(10 < (t.c.m.length:Int))=True:=tt (by omega)
  rw [decide_eq_true h,Bool.true_or]
  simp only [gP,oD,bv,go_sem,↓reduceIte,aez,aeB,aeA,e1]
 ·have e1:(10 < (t.c.m.length:Int))=False:=ff (by omega)
  rw [decide_eq_false h,Bool.false_or]
  have e2:decide ((20:Int) < (t.exps.length:Int))=decide (20 < t.exps.length):=by rw [decide_eq_decide]; omega
  simp only [gP,oD,bv,go_sem,↓reduceIte,aez,aeB,aeA,e1,e2]
theorem zq (m:List Nat):(aP m).map (fun r=>match r with | [.v (.int _ x)]=>x.toNat | _=>0)=m:=by
 unfold aP
 rw [List.map_map]
 exact (List.map_congr_left (g:=fun c=>c) fun x _=>by simp).trans (List.map_id' _)
theorem izB (m:List Int):(aX m).map (fun r=>match r with | [.v (.int _ x)]=>x | _=>0)=m:=by
 unfold aX
 rw [List.map_map]
 exact (List.map_congr_left (g:=fun c=>c) fun x _=>by simp).trans (List.map_id' _)
def Dq:List AV→Rt
 | [.sl _ m1,.v (.bool n2),.sl _ m2,.v (.int _ e2)]=>⟨m1.map (fun r=>match r with | [.v (.int _ x)]=>x | _=>0),⟨n2,m2.map (fun r=>match r with | [.v (.int _ x)]=>x.toNat | _=>0),e2⟩⟩
 | _=>⟨[],fp⟩
theorem EY (t:Rt):Dq (bv t)=t:=by
 show (⟨(aX t.exps).map _,⟨t.c.neg,(aP t.c.m).map _,t.c.e⟩⟩:Rt)=t
 rw [zq,izB]
theorem ON {l:List Rt} (h2:l.length < 4611686018427387904):R F.slices_ContainsFunc_api_Term_api_Term_ [.sl 4 (ax l),.fn F.l23_great_1_1 [] []] []=some (B (l.any uY),[]):=by
 have h1:=Bn (k:=4) (g:=true) (f:=F.l23_great_1_1) (rows:=ax l) (p:=fun r=>uY (Dq r)) lv lu (kg false) rfl (sv false) (by rw [gI]; omega) (fun row hr=>by
  simp only [ax,List.mem_map] at hr
  obtain ⟨t,ht,rfl⟩:=hr
  have hd:=KP (t:=t)
  refine ⟨.agg (bv t),rfl,rfl,?_⟩
  rw [EY]
  simp only [bv] at hd
  simp only [bv,go_sem,hd])
 have h2:=xS (k:=4) j8 j7 (iZ false) rfl (fk false) (kP false) (by simp only [go_sem]) h1
 have h3:(ax l).any (fun r=>uY (Dq r))=l.any uY:=by
  unfold ax
  rw [List.any_map]
  congr 1
  funext t
  exact congrArg uY (EY t)
 rw [h3] at h2
 exact h2
def mT (a:Rp):Bool:=(decide (40 < a.terms.length) && decide (a.terms.length≤500)) || a.terms.any uY
theorem Mq {a:Rp} (h2:a.terms.length < 4611686018427387904):R F.l23_great_1 [bm a] []=some (B (mT a),[]):=by
 refine aZ DO DN (yX false) rfl ?_
 have hc:=ON h2
 have nr:(ax a.terms).map (cf [.o 2 [],.o 0 [],.o 2 [],.o 0 []])=ax a.terms:=tN _
 unfold mT
 by_cases h:40 < a.terms.length
 ·have e1:(40 < (a.terms.length:Int))=True:=tt (by omega)
  rw [decide_eq_true h,Bool.true_and]
  by_cases h5:a.terms.length≤500
  ·have e2:((a.terms.length:Int)≤500)=True:=tt (by omega)
   rw [decide_eq_true h5,Bool.true_or]
   simp only [gC,mY,bm,go_sem,↓reduceIte,aez,aeB,aeA,e1,e2]
  ·have e2:((a.terms.length:Int)≤500)=False:=ff (by omega)
   rw [decide_eq_false h5,Bool.false_or]
   simp only [gC,mY,bm,go_sem,↓reduceIte,aez,aeB,aeA,e1,e2,hc]
 ·have e1:(40 < (a.terms.length:Int))=False:=ff (by omega)
  rw [decide_eq_false h,Bool.false_and,Bool.false_or]
  simp only [gC,mY,bm,go_sem,↓reduceIte,aez,aeB,aeA,e1,hc]
def Ji (a:Rp):List AV:=[I a.vars,.sl 4 (ax a.terms)]
def xx (l:List Rp):List (List AV):=l.map Ji
@[go_sem] theorem QR (l:List Rp):(xx l).length=l.length:=by simp [xx]
@[go_sem] theorem Z6 (l:List Rt):(ax l).map (cf [.o 2 [],.o 0 [],.o 0 [],.o 0 []])=ax l:=by
 refine qo fun x hx=>?_
 simp only [ax,List.mem_map] at hx
 obtain ⟨t,ht,rfl⟩:=hx
 simp only [bv,go_sem]
@[go_sem] theorem acA (l:List Rp):(xx l).map (cf [.o 0 [],.o 5 [.o 2 [],.o 0 [],.o 0 [],.o 0 []]])=xx l:=by
 refine qo fun x hx=>?_
 simp only [xx,List.mem_map] at hx
 obtain ⟨t,ht,rfl⟩:=hx
 simp only [Ji,go_sem]
def SC:List AV→Rp
 | [.v (.int _ v),.sl _ r]=>⟨v,r.map Dq⟩
 | _=>p0
theorem PK (a:Rp):SC (Ji a)=a:=by
 show (⟨a.vars,(ax a.terms).map Dq⟩:Rp)=a
 have h:(ax a.terms).map Dq=a.terms:=by
  unfold ax
  rw [List.map_map]
  exact (List.map_congr_left (g:=fun c=>c) fun x _=>EY x).trans (List.map_id' _)
 rw [h]
theorem OO {l:List Rp} (hl:l.length≤10) (h2:∀ a ∈ l,a.terms.length < 4611686018427387904):R F.l23_great [.sl 2 (xx l)] []=some (B (l.any mT),[]):=by
 refine aZ Ij Ii (B7 false) rfl ?_
 have h1:=Bn (k:=2) (g:=true) (f:=F.l23_great_1) (rows:=xx l) (p:=fun r=>mT (SC r)) ls lr (kf false) rfl (vI false) (by rw [QR]; omega) (fun row hr=>by
  simp only [xx,List.mem_map] at hr
  obtain ⟨t,ht,rfl⟩:=hr
  have hd:=Mq (h2 t ht)
  refine ⟨.agg (Ji t),rfl,rfl,?_⟩
  rw [PK]
  simp only [bm] at hd
  simp only [Ji,go_sem,hd])
 have h2:=xS (k:=2) j5 j3 (iY false) rfl (fj false) (kO false) (by simp only [go_sem]) h1
 have h3:(xx l).any (fun r=>mT (SC r))=l.any mT:=by
  unfold xx
  rw [List.any_map]
  congr 1
  funext t
  exact congrArg mT (PK t)
 rw [h3] at h2
 simp only [oB,yE,go_sem,↓reduceIte,aez,aeB,aeA,h2]
theorem HC {a:Rp} (oc:∀ t ∈ a.terms,Ok0 t.c) (h:mT a=false):OkP a:=by
 unfold mT at h
 rw [Bool.or_eq_false_iff] at h
 refine ⟨fun t ht=>⟨oc t ht,?_⟩⟩
 have:=List.any_eq_false.1 h.2 t ht
 unfold uY at this
 simp at this
 omega
structure Res (r:Rp × Int):Prop where
 cl:Cl r.1.vars r.1.terms
 len:r.1.terms.length≤100000
 z:r.2=0∨r.1=p0
end Go.Ab
namespace Go.Ab
open Go Go.IntWalk
set_option maxRecDepth 4000
set_option maxHeartbeats 2000000
theorem Jj (l:List Int) (n:Nat) (x:Int):(aX l).set n [I x]=aX (l.set n x):=by simp [aX,List.map_set]
theorem OP {a b:List Int} {i:Nat} {x y:Int} (hx:a[i]?=some x) (hy:b[i]?=some y):(bI a b)[i]?=some (x+y):=by
 unfold bI
 rw [List.getElem?_zipWith,hx,hy]
def sA (a b:List Int) (i:Nat):List Int:=(bI a b).take i++a.drop i
theorem QS {a b:List Int} (h:a.length=b.length) {i:Nat} {x:Int} (hx:a[i]?=some x):(sA a b i)[i]?=some x:=by
 have hlt:=(List.getElem?_eq_some_iff.1 hx).1
 unfold sA
 rw [List.getElem?_append_right (by rw [List.length_take,nF h]; omega),List.length_take,nF h,List.getElem?_drop,show i+(i - min i a.length)=i by omega]
 exact hx
theorem QT {a b:List Int} (h:a.length=b.length) {i:Nat} {x y:Int} (hx:a[i]?=some x) (hy:b[i]?=some y):(sA a b i).set i (x+y)=sA a b (i+1):=by
 have hlt:=(List.getElem?_eq_some_iff.1 hx).1
 have hg:=OP hx hy
 have hlen:=nF h
 unfold sA
 have ht:((bI a b).take i).length=i:=by rw [List.length_take]; omega
 rw [List.set_append_right _ _ (by omega),ht,Nat.sub_self,List.drop_eq_getElem_cons hlt,List.set_cons_zero,List.take_succ_eq_append_getElem (by omega:i < (bI a b).length),List.append_assoc]
 have:=(List.getElem?_eq_some_iff.1 hg).2
 rw [this]
 rfl
theorem QU {a b:List Int} (h:a.length=b.length) {i:Nat} (hi:a.length≤i):sA a b i=bI a b:=by
 unfold sA
 rw [List.take_of_length_le (by rw [nF h]; omega),List.drop_eq_nil_of_le hi,List.append_nil]
theorem Mr {v:Int} {p q:Rt} (vp:VT v p) (vq:VT v q) {A Bt:List Rt} {nA iA nB iB:Int} {o2 o3 o4 o8 o10 o11 o2352:Ob} (c2:aB [2,3,4,8,10,11,2352,2576] o2=true) (c3:aB [2,3,4,8,10,11,2352,2576] o3=true) (c4:aB [2,3,4,8,10,11,2352,2576] o4=true) (c8:aB [2,3,4,8,10,11,2352,2576] o8=true) (c10:aB [2,3,4,8,10,11,2352,2576] o10=true) (c11:aB [2,3,4,8,10,11,2352,2576] o11=true) (cc:aB [2,3,4,8,10,11,2352,2576] o2352=true) :
  ∀ (k i:Nat),i+k=p.exps.length→∀ (s:af) (h:aa),s 3=.ref 3 none 0 0 0→s 4=.ref 4 none 0 0 0→s 6=.ref 2352 none 0 0 0→s 8=.ref 8 none 0 0 0→s 11=.ref 11 none 0 0 0→s 13=.rsl 2576 none 1 0 p.exps.length→s 46=.sl 4 (ax A)→s 47=I nA→s 48=I iA→s 53=.sl 4 (ax Bt)→s 54=I nB→s 55=I iB→s 74=.sl 1 (aX q.exps)→s 75=I q.exps.length→s 76=I i→h 2=o2→h 3=o3→h 4=o4→h 8=o8→h 10=o10→h 11=o11→h 2352=o2352→h 2576=.ar 1 (aX (sA p.exps q.exps i)) →
  ∃ hh,aI 5 [3,4,6,8,11,13,46,47,48,53,54,55] (aU (az R (ab false) ig) [3,4,6,8,11,13,46,47,48,53,54,55,74,75,76] [2,3,4,8,10,11,2352,2576] s h)=some (.normal,⟨upd (upd (upd (upd (upd (upd (upd (upd (upd (upd (upd (upd (fun _=>.any) 55 (I iB)) 54 (I nB)) 53 (.sl 4 (ax Bt))) 48 (I iA)) 47 (I nA)) 46 (.sl 4 (ax A))) 13 (.rsl 2576 none 1 0 p.exps.length)) 11 (.ref 11 none 0 0 0)) 8 (.ref 8 none 0 0 0)) 6 (.ref 2352 none 0 0 0)) 4 (.ref 4 none 0 0 0)) 3 (.ref 3 none 0 0 0),hh⟩) ∧
   hh 2=o2∧hh 3=o3∧hh 4=o4∧hh 8=o8∧hh 10=o10∧hh 11=o11∧hh 2352=o2352∧hh 2576=.ar 1 (aX (bI p.exps q.exps))∧∀ a,a ≠ 2→a ≠ 3→a ≠ 4→a ≠ 8→a ≠ 10→a ≠ 11→a ≠ 2352→a ≠ 2576→hh a=.dead:=by
 have hl:=vp.l2 vq
 have hs:=vp.ok.len
 intro k
 induction k with
 | zero =>
  intro i hi s h g3 g4 g6 g8 g11 g13 g46 g47 g48 g53 g54 g55 g74 g75 g76 k2 k3 k4 k8 k10 k11 k2352 k2576
  have e1:((i:Int) < (q.exps.length:Int))=False:=ff (by omega)
  rw [QU hl (by omega)] at k2576
  rw [aA]
  refine ⟨?hh0,?_,?_,?_,?_,?_,?_,?_,?_,?_,?_⟩
  rotate_left
  ·simp only [ig,go_sem,↓reduceIte,aez,aeD,g3,g4,g6,g8,g11,g13,g46,g47,g48,g53,g54,g55,g74,g75,g76,k2,k3,k4,k8,k10,k11,k2352,k2576,c2,c3,c4,c8,c10,c11,cc,e1]
   rfl
  all_goals first | rfl | (intro a a1 a2 a3 a4 a5 a6 a7 a8; simp only [jg,a1,a2,a3,a4,a5,a6,a7,a8,if_false])
 | succ k ih =>
  intro i hi s h g3 g4 g6 g8 g11 g13 g46 g47 g48 g53 g54 g55 g74 g75 g76 k2 k3 k4 k8 k10 k11 k2352 k2576
  have hlt:i < p.exps.length:=by omega
  have hlt2:i < q.exps.length:=by omega
  have e1:((i:Int) < (q.exps.length:Int))=True:=tt (by omega)
  have hq:q.exps[i]?=some q.exps[i]:=List.getElem?_eq_getElem hlt2
  have hp:p.exps[i]?=some p.exps[i]:=List.getElem?_eq_getElem hlt
  have e2:bH (aX q.exps) (i:Int)=some (.ipt [I q.exps[i]]):=pJ rfl hq
  have e3:=QS hl hp (b:=q.exps)
  have e3':(aX (sA p.exps q.exps i))[i]?=some [I p.exps[i]]:=by simp [aX,e3]
  have e4:=QT hl hp hq
  have b1:=vp.b _ (List.getElem_mem hlt)
  have b2:=vq.b _ (List.getElem_mem hlt2)
  have e5:IntKind.i64.wrap ((i:Int)+1)=((i+1:Nat):Int):=wi (by omega) (by omega)
  have e6:(0≤(i:Int)∧(i:Int) < (p.exps.length:Int))=True:=eq_true ⟨by omega,by omega⟩
  have e7:IntKind.i64.wrap (p.exps[i]+q.exps[i])=p.exps[i]+q.exps[i]:=i64_in _ ⟨by omega,by omega⟩
  have ih':=ih (i+1) (by omega)
  rw [← e4,← Jj] at ih'
  generalize p.exps[i]=x at e3' e7 ih'
  generalize q.exps[i]=y at e2 e7 ih'
  rw [aA]
  generalize aU _ _ _=L at ih' ⊢
  simp only [ig,go_sem,↓reduceIte,aez,aeC,aeD,g3,g4,g6,g8,g11,g13,g46,g47,g48,g53,g54,g55,g74,g75,g76,k2,k3,k4,k8,k10,k11,k2352,k2576,c2,c3,c4,c8,c10,c11,cc,e1,e2,e3',e5,e6,e7,Int.toNat_natCast,Nat.zero_add]
  exact ih' _ _ rfl rfl rfl rfl rfl rfl rfl rfl rfl rfl rfl rfl rfl rfl rfl rfl rfl rfl rfl rfl rfl rfl rfl
theorem SD {v:Int} {p q:Rt} (vp:VT v p) (vq:VT v q) {A Bt:List Rt} {nA iA nB iB:Int} {o2 o3 o4 o8 o10 o11 o2352:Ob} (s:af) (h:aa) (X:Option (Ex × St)) (hX:aI 5 [3,4,6,8,11,13,46,47,48,53,54,55] (aU (az R (ab false) ig) [3,4,6,8,11,13,46,47,48,53,54,55,74,75,76] [2,3,4,8,10,11,2352,2576] s h)=X)
  (g3:s 3=.ref 3 none 0 0 0) (g4:s 4=.ref 4 none 0 0 0) (g6:s 6=.ref 2352 none 0 0 0) (g8:s 8=.ref 8 none 0 0 0) (g11:s 11=.ref 11 none 0 0 0) (g13:s 13=.rsl 2576 none 1 0 p.exps.length) (g46:s 46=.sl 4 (ax A)) (g47:s 47=I nA) (g48:s 48=I iA) (g53:s 53=.sl 4 (ax Bt)) (g54:s 54=I nB) (g55:s 55=I iB) (g74:s 74=.sl 1 (aX q.exps)) (g75:s 75=I q.exps.length) (g76:s 76=I 0) (k2:h 2=o2) (k3:h 3=o3) (k4:h 4=o4) (k8:h 8=o8) (k10:h 10=o10) (k11:h 11=o11) (k2352:h 2352=o2352) (k2576:h 2576=.ar 1 (aX p.exps)) (c2:aB [2,3,4,8,10,11,2352,2576] o2=true) (c3:aB [2,3,4,8,10,11,2352,2576] o3=true) (c4:aB [2,3,4,8,10,11,2352,2576] o4=true) (c8:aB [2,3,4,8,10,11,2352,2576] o8=true) (c10:aB [2,3,4,8,10,11,2352,2576] o10=true) (c11:aB [2,3,4,8,10,11,2352,2576] o11=true) (c2352:aB [2,3,4,8,10,11,2352,2576] o2352=true) :
  ∃ hh,X=some (.normal,⟨upd (upd (upd (upd (upd (upd (upd (upd (upd (upd (upd (upd (fun _=>.any) 55 (I iB)) 54 (I nB)) 53 (.sl 4 (ax Bt))) 48 (I iA)) 47 (I nA)) 46 (.sl 4 (ax A))) 13 (.rsl 2576 none 1 0 p.exps.length)) 11 (.ref 11 none 0 0 0)) 8 (.ref 8 none 0 0 0)) 6 (.ref 2352 none 0 0 0)) 4 (.ref 4 none 0 0 0)) 3 (.ref 3 none 0 0 0),hh⟩)∧hh 2=o2∧hh 3=o3∧hh 4=o4∧hh 8=o8∧hh 10=o10∧hh 11=o11∧hh 2352=o2352∧hh 2576=.ar 1 (aX (bI p.exps q.exps))∧∀ a,a ≠ 2→a ≠ 3→a ≠ 4→a ≠ 8→a ≠ 10→a ≠ 11→a ≠ 2352→a ≠ 2576→hh a=.dead:=by
 subst hX
 have hc:sA p.exps q.exps 0=p.exps:=by simp [sA]
 rw [← hc] at k2576
 exact Mr vp vq c2 c3 c4 c8 c10 c11 c2352 p.exps.length 0 (Nat.zero_add _) s h g3 g4 g6 g8 g11 g13 g46 g47 g48 g53 g54 g55 g74 g75 g76 k2 k3 k4 k8 k10 k11 k2352 k2576
end Go.Ab
namespace Go.Ab
open Go Go.IntWalk
set_option maxRecDepth 4000
set_option maxHeartbeats 4000000
theorem ColE.stepN {v:Int} {l:List Rt} {t:Rt} {c:AV} (hc:nS c l) {e:Int} (he:e=0∨e=9) (N:Nat) (hC:e=0→Cl v l∧l.length+N+1≤1000000) (vt:VT v t) {v':Int} :
  ∃ c1 l1 e1,R F.poly_collector_add [.ref 1000 none 0 0 0,.sl 1 (aX t.exps),aF t.c] [t3 v' c e]=some (.tup [],[t3 v' c1 e1])∧nS c1 l1∧(e1=0∨e1=9)∧(e1=0→Cl v l1∧l1.length+N≤1000000)∧∀ ts c' l' e',ColE v l1 ts e1 c' l' e'→ColE v l (t::ts) e c' l' e':=by
 obtain ⟨c1,l1,e1,g1,g2,g3,g4,_⟩:=ColE.step (ts:=List.replicate N t) hc he (by rw [List.length_replicate]; exact hC) vt (v':=v')
 rw [List.length_replicate] at g4
 refine ⟨c1,l1,e1,g1,g2,g3,g4,fun ts c' l' e' h=>?_⟩
 rcases he with rfl | rfl
 ·obtain ⟨h1,h2⟩:=hC rfl
  obtain ⟨c2,l2,e2,k1,k2,k3⟩:=I9 (v':=v') h1 vt (by omega) hc
  rw [k1] at g1
  simp only [Option.some.injEq,Prod.mk.injEq,List.cons.injEq,and_true,true_and,t3,Ob.bx.injEq,AV.v.injEq,Value.int.injEq] at g1
  obtain ⟨rfl,rfl⟩:=g1
  have hl:l2=l1:=by
   rcases k2 with rfl | ⟨rfl,rfl⟩
   ·rcases g2 with g2 | ⟨g2,_⟩
    ·simp only [AV.osl.injEq,true_and] at g2
     have:=congrArg (List.map Dq) g2
     unfold ax at this
     rw [List.map_map,List.map_map] at this
     have hid:∀ l:List Rt,l.map (Dq ∘ bv)=l:=fun l=>(List.map_congr_left (g:=fun c=>c) fun x _=>EY x).trans (List.map_id' l)
     rw [hid,hid] at this
     exact this
    ·cases g2
   ·rcases g2 with g2 | ⟨_,g2⟩
    ·cases g2
    ·exact g2.symm
  subst hl
  refine ⟨h.c,?_⟩
  rcases k3 with ⟨g,k⟩ | ⟨g,k,_⟩
  ·subst g
   rcases h.r with ⟨q1,_,q2⟩ | ⟨q1,q2⟩
   ·refine .inl ⟨q1,rfl,?_⟩
    unfold ej
    rw [k]
    exact q2
   ·refine .inr ⟨q1,fun _=>?_⟩
    unfold ej
    rw [k]
    exact q2 rfl
  ·subst g
   rcases h.r with ⟨_,q1,_⟩ | ⟨q1,_⟩
   ·omega
   ·refine .inr ⟨q1,fun _=>?_⟩
    unfold ej
    rw [k]
    rfl
 ·refine ⟨h.c,?_⟩
  have:=Hp (v:=v') (x:=.sl 1 (aX t.exps)) (d:=t.c) hc (by decide:(9:Int) ≠ 0)
  rw [this] at g1
  simp only [Option.some.injEq,Prod.mk.injEq,List.cons.injEq,and_true,true_and,t3,Ob.bx.injEq,AV.v.injEq,Value.int.injEq] at g1
  obtain ⟨_,rfl⟩:=g1
  rcases h.r with ⟨_,q1,_⟩ | ⟨q1,_⟩
  ·omega
  ·exact .inr ⟨q1,fun h=>by omega⟩
def uZ (blk:Option (Ex × St)) (S:af) (o2 o3:Ob) (v v':Int) (l:List Rt) (e:Int):Option (List Rt)→Prop
 | some r=>∃ hh c' l' e',blk=some (.normal,⟨S,hh⟩)∧hh 2=o2∧hh 3=o3∧hh 4=.bx [I 0,.emp]∧hh 2352=t3 v' c' e'∧(∀ a,a ≠ 2→a ≠ 3→a ≠ 4→a ≠ 8→a ≠ 2352→hh a=.dead)∧ColE v l r e c' l' e'
 | none=>∃ hh,blk=some (.ret,⟨upd (upd (fun _=>.any) 5 (I 9)) 4 (.ref 4 none 0 0 0),hh⟩)∧hh 4=.bx [I 0,.emp]
theorem Ms {v v':Int} {p:Rt} (vp:VT v p) {A Bt:List Rt} (hB:∀ q ∈ Bt,VT v q∧bc p.exps+bc q.exps≤32) (hn:Bt.length≤100000) {nA iA:Int} {o2:Ob} (c2:∀ ids,aB ids o2=true) {vb:Int} :
  ∀ (k i:Nat),i+k=Bt.length→∀ (c:AV) (l:List Rt) (e:Int),nS c l→(e=0∨e=9)→(e=0→Cl v l∧l.length+k≤1000000)→∀ (s:af) (h:aa),s 3=.ref 3 none 0 0 0→s 4=.ref 4 none 0 0 0→s 6=.ref 2352 none 0 0 0→s 8=.ref 8 none 0 0 0→s 46=.sl 4 (ax A)→s 47=I nA→s 48=I iA→s 53=.sl 4 (ax Bt)→s 54=I Bt.length→s 55=I i→h 2=o2→h 3=.bx [I vb,.sl 4 (ax Bt)]→h 4=.bx [I 0,.emp]→h 8=.bx (bv p)→h 2352=t3 v' c e →
  uZ (aI 3 [3,4,6,46,47,48] (aU (az R (ab false) fJ) [3,4,6,8,46,47,48,53,54,55] [2,3,4,8,2352] s h)) (upd (upd (upd (upd (upd (upd (fun _=>.any) 48 (I iA)) 47 (I nA)) 46 (.sl 4 (ax A))) 6 (.ref 2352 none 0 0 0)) 4 (.ref 4 none 0 0 0)) 3 (.ref 3 none 0 0 0)) o2 (.bx [I vb,.sl 4 (ax Bt)]) v v' l e (gY p (Bt.drop i)):=by
 intro k
 induction k with
 | zero =>
  intro i hi c l e hc he hC s h g3 g4 g6 g8 g46 g47 g48 g53 g54 g55 k2 k3 k4 k8 k2352
  have e1:((i:Int) < (Bt.length:Int))=False:=ff (by omega)
  have ho:=(ko (v:=v') (e:=e) hc).cl [2,3,4,8,2352]
  have ho2:=c2 [2,3,4,8,2352]
  rw [List.drop_eq_nil_of_le (by omega),aA]
  simp only [bv] at k8
  refine ⟨?hh0,c,l,e,?_,?_,?_,?_,?_,?_,⟨hc,?_⟩⟩
  rotate_left
  ·simp only [fJ,go_sem,↓reduceIte,aez,aeD,g3,g4,g6,g8,g46,g47,g48,g53,g54,g55,k2,k3,k4,k8,k2352,ho,ho2,e1]
   rfl
  ·rfl
  ·rfl
  ·rfl
  ·rfl
  ·intro a a1 a2 a3 a4 a5
   simp only [jg,a1,a2,a3,a4,a5,if_false]
  ·rcases he with rfl | rfl
   ·exact .inl ⟨rfl,rfl,rfl⟩
   ·exact .inr ⟨rfl,fun h=>by omega⟩
 | succ k ih =>
  intro i hi c l e hc he hC s h g3 g4 g6 g8 g46 g47 g48 g53 g54 g55 k2 k3 k4 k8 k2352
  have hlt:i < Bt.length:=by omega
  have e1:((i:Int) < (Bt.length:Int))=True:=tt (by omega)
  have e2:bH (ax Bt) (i:Int)=some (.ipt (bv Bt[i])):=jx rfl (List.getElem?_eq_getElem hlt)
  have e5:IntKind.i64.wrap ((i:Int)+1)=((i+1:Nat):Int):=wi (by omega) (by omega)
  have ho:=(ko (v:=v') (e:=e) hc).cl
  obtain ⟨vq,hd⟩:=hB _ (List.getElem_mem hlt)
  have hmul:=IZ vp.c vq.c
  have hdl:(Bt.drop (i+1)).length=k:=by rw [List.length_drop]; omega
  rw [List.drop_eq_getElem_cons hlt]
  have ih':=ih (i+1) (by omega)
  have hrow:∀ q ts,gY p (q::ts)=(uV p q).bind fun x=>(gY p ts).map (x::·):=fun q ts=>rfl
  rw [hrow]
  generalize hqq:Bt[i]=q at e2 vq hd hmul ⊢
  have hVT:=fun x=>Ad (x:=x) vp vq hd
  rw [aA]
  generalize aU _ _ _=L at ih' ⊢
  unfold uV at hVT ⊢
  have ho1:=ho [2,3,4,8,2352]
  have ho2:=c2 [2,3,4,8,2352]
  have hle:=vp.l2 vq
  simp only [bv] at k8 e2
  generalize eC p.c q.c=m at hmul hVT ⊢
  obtain ⟨m,em⟩:=m
  simp only [rV,aF,aW] at hmul
  by_cases hm:em=0
  ·subst hm
   simp only [if_true,Option.bind_some] at hVT ⊢
   have vx:=hVT _ rfl
   obtain ⟨c1,l1,e1',s1,s2,s3,s4,s5⟩:=ColE.stepN (t:=⟨bI p.exps q.exps,m⟩) hc he k (fun h=>by have:=hC h; exact ⟨this.1,by omega⟩) vx (v':=v')
   have ih2:=ih' c1 l1 e1' s2 s3 s4
   have hcall:=fun (h:aa) (hh:h 2352=t3 v' c e) (d:Nat)=>nU (ed false) rfl (xv (d:=d) hh hc s2 s1)
   simp only [aF,aW] at hcall
   have hpush:∀ (S:af) (H:aa),uZ (aI 3 [3,4,6,46,47,48] (L S H)) (upd (upd (upd (upd (upd (upd (fun _=>.any) 48 (I iA)) 47 (I nA)) 46 (.sl 4 (ax A))) 6 (.ref 2352 none 0 0 0)) 4 (.ref 4 none 0 0 0)) 3 (.ref 3 none 0 0 0)) o2 (.bx [I vb,.sl 4 (ax Bt)]) v v' l1 e1' (gY p (Bt.drop (i+1)))→uZ (aI 3 [3,4,6,46,47,48] (L S H)) (upd (upd (upd (upd (upd (upd (fun _=>.any) 48 (I iA)) 47 (I nA)) 46 (.sl 4 (ax A))) 6 (.ref 2352 none 0 0 0)) 4 (.ref 4 none 0 0 0)) 3 (.ref 3 none 0 0 0)) o2 (.bx [I vb,.sl 4 (ax Bt)]) v v' l e ((gY p (Bt.drop (i+1))).map (⟨bI p.exps q.exps,m⟩::·)):=fun S H h=>by
    cases hr:gY p (Bt.drop (i+1)) with
    | none=>rw [hr] at h; exact h
    | some r =>
     rw [hr] at h
     obtain ⟨hh,c',l',e',q1,q2,q3,q4,q5,q6,q7⟩:=h
     exact ⟨hh,c',l',e',q1,q2,q3,q4,q5,q6,s5 _ _ _ _ q7⟩
   cases hx:p.exps with
   | nil =>
    have hcl:R F.slices_Clone_int_int_ [lm []] []=some (lm [],[]):=Dp
    have hq0:q.exps=[]:=List.length_eq_zero_iff.1 (by rw [← hle,hx]; rfl)
    rw [hx] at hpush
    rw [hx,hq0] at hcall
    rw [hx] at k8
    rw [hq0] at e2
    have i0:aX []=[]:=rfl
    have a0:bI [] []=[]:=rfl
    have z0:((0:Int) < 0)=False:=ff (by decide)
    have ho2':=c2 [2,3,4,8,10,11,2352,2576]
    have ho1':=ho [2,3,4,8,10,11,2352,2576]
    rw [i0] at k8 e2
    rw [a0,i0,Sf] at hcall
    simp only [fJ,go_sem,↓reduceIte,aez,aeB,aeA,aeC,aeD,g3,g4,g6,g8,g46,g47,g48,g53,g54,g55,k2,k3,k4,k8,k2352,ho1,ho2,e1,e2,hmul,hcl,List.length_nil,Int.natCast_zero]
    rw [aA]
    simp only [ig,go_sem,↓reduceIte,aez,aeB,aeA,aeC,aeD,ho1',ho2',z0]
    rw [hcall _ rfl]
    simp only [go_sem,↓reduceIte,aez,aeD,e5]
    refine hpush _ _ (ih2 _ _ rfl rfl rfl rfl rfl rfl rfl rfl rfl rfl rfl rfl rfl ?_ rfl)
    simp only [bv,hx]
    rfl
   | cons x xs =>
    have hcl:R F.slices_Clone_int_int_ [.sl 1 (aX p.exps)] []=some (.osl 1 (aX p.exps),[]):=by
     rw [hx]
     exact xk (by have:=vp.ok.len; rw [hx] at this; simp at this; omega)
    rw [← hx]
    have hX0:=SD vp vq (A:=A) (Bt:=Bt) (nA:=nA) (iA:=iA) (nB:=(Bt.length:Int)) (iB:=(i:Int)) (o2:=o2) (o3:=.bx [I vb,.sl 4 (ax Bt)]) (o4:=.bx [I 0,.emp]) (o8:=.bx [.sl 1 (aX p.exps),B p.c.neg,lm p.c.m,I p.c.e]) (o10:=.bx [.sl 1 (aX q.exps),B q.c.neg,lm q.c.m,I q.c.e]) (o11:=.bx [B m.neg,lm m.m,I m.e]) (o2352:=t3 v' c e)
    have k9:(aX (bI p.exps q.exps)).take p.exps.length=aX (bI p.exps q.exps):=List.take_of_length_le (by rw [rg,nF hle]; exact Nat.le_refl _)
    have k8l:(bI p.exps q.exps).length=p.exps.length:=nF hle
    simp only [fJ,go_sem,↓reduceIte,aez,aeB,aeA,aeC,aeD,g3,g4,g6,g8,g46,g47,g48,g53,g54,g55,k2,k3,k4,k8,k2352,ho1,ho2,e1,e2,hmul,hcl]
    generalize hXX:aI 5 _ _=X
    obtain ⟨hh,rfl,q2,q3,q4,q8,q10,q11,qc,q25,qd⟩:=hX0 _ _ _ hXX rfl rfl rfl rfl rfl rfl rfl rfl rfl rfl rfl rfl rfl rfl rfl rfl rfl rfl rfl rfl rfl rfl rfl (c2 _) rfl rfl rfl rfl rfl (ho _)
    simp only [go_sem,↓reduceIte,aez,aeB,aeA,q11,q25,k9,k8l,Nat.zero_add,Nat.le_refl]
    rw [hcall (upd hh 2576 (.fz 1 (aX (bI p.exps q.exps)))) (by rw [jg,if_neg (by decide)]; exact qc)]
    simp only [go_sem,↓reduceIte,aez,aeD,e5]
    refine hpush _ _ (ih2 _ _ ?_ ?_ ?_ ?_ ?_ ?_ ?_ ?_ ?_ ?_ ?_ ?_ ?_ ?_ ?_)
    all_goals first | rfl | (simp only [jg,aez,↓reduceIte,q2,q3,q4,q8]; done) | (simp only [jg,aez,↓reduceIte,q8]; rfl)
  ·have f1:(em=0)=False:=ff hm
   simp only [if_neg hm,Option.bind_none]
   refine ⟨?hh1,?_,?_⟩
   rotate_left
   ·simp only [fJ,go_sem,↓reduceIte,aez,aeB,aeA,aeC,aeD,g3,g4,g6,g8,g46,g47,g48,g53,g54,g55,k2,k3,k4,k8,k2352,ho1,ho2,e1,e2,hmul,f1]
    rfl
   ·rfl
end Go.Ab
namespace Go.Ab
open Go Go.IntWalk
set_option maxRecDepth 4000
set_option maxHeartbeats 4000000
theorem SE {v v':Int} {p:Rt} (vp:VT v p) {A Bt:List Rt} (hB:∀ q ∈ Bt,VT v q∧bc p.exps+bc q.exps≤32) (hn:Bt.length≤100000) {nA iA:Int} {o2:Ob} (c2:∀ ids,aB ids o2=true) {vb:Int}
  {c:AV} {l:List Rt} {e:Int} (hc:nS c l) (he:e=0∨e=9) (hC:e=0→Cl v l∧l.length+Bt.length≤1000000) (s:af) (h:aa) (X:Option (Ex × St)) (hX:aI 3 [3,4,6,46,47,48] (aU (az R (ab false) fJ) [3,4,6,8,46,47,48,53,54,55] [2,3,4,8,2352] s h)=X)
  (g3:s 3=.ref 3 none 0 0 0) (g4:s 4=.ref 4 none 0 0 0) (g6:s 6=.ref 2352 none 0 0 0) (g8:s 8=.ref 8 none 0 0 0) (g46:s 46=.sl 4 (ax A)) (g47:s 47=I nA) (g48:s 48=I iA) (g53:s 53=.sl 4 (ax Bt)) (g54:s 54=I Bt.length) (g55:s 55=I 0) (k2:h 2=o2) (k3:h 3=.bx [I vb,.sl 4 (ax Bt)]) (k4:h 4=.bx [I 0,.emp]) (k8:h 8=.bx [.sl 1 (aX p.exps),B p.c.neg,lm p.c.m,I p.c.e]) (k2352:h 2352=t3 v' c e) :
  uZ X (upd (upd (upd (upd (upd (upd (fun _=>.any) 48 (I iA)) 47 (I nA)) 46 (.sl 4 (ax A))) 6 (.ref 2352 none 0 0 0)) 4 (.ref 4 none 0 0 0)) 3 (.ref 3 none 0 0 0)) o2 (.bx [I vb,.sl 4 (ax Bt)]) v v' l e (gY p Bt):=by
 subst hX
 exact Ms vp hB hn c2 Bt.length 0 (Nat.zero_add _) c l e hc he hC s h g3 g4 g6 g8 g46 g47 g48 g53 g54 g55 k2 k3 k4 k8 k2352
theorem ColE.app {v:Int} {l r r2:List Rt} {e:Int} {c1:AV} {l1:List Rt} {e1:Int} {c':AV} {l':List Rt} {e':Int} (h1:ColE v l r e c1 l1 e1) (h2:ColE v l1 r2 e1 c' l' e'):ColE v l (r++r2) e c' l' e':=by
 refine ⟨h2.c,?_⟩
 rw [Hm]
 rcases h1.r with ⟨a1,a2,a3⟩ | ⟨a1,a2⟩
 ·rw [a3]
  rcases h2.r with ⟨b1,b2,b3⟩ | ⟨b1,b2⟩
  ·exact .inl ⟨b1,a2,b3⟩
  ·exact .inr ⟨b1,fun _=>b2 a1⟩
 ·rcases h2.r with ⟨b1,b2,b3⟩ | ⟨b1,b2⟩
  ·omega
  ·exact .inr ⟨b1,fun h=>by rw [a2 h]; rfl⟩
theorem ColE.nx {v:Int} {l r:List Rt} {e:Int} {c1:AV} {l1:List Rt} {e1:Int} (h:ColE v l r e c1 l1 e1) (hC:e=0→Cl v l) (hr:∀ t ∈ r,VT v t):(e1=0∨e1=9)∧(e1=0→e=0∧Cl v l1∧l1.length≤l.length+r.length):=by
 rcases h.r with ⟨a1,a2,a3⟩ | ⟨a1,a2⟩
 ·exact ⟨.inl a1,fun _=>⟨a2,ri (hC a2) hr a3⟩⟩
 ·exact ⟨.inr a1,fun h=>by omega⟩
theorem Mt {v v':Int} {A Bt:List Rt} (hA:∀ p ∈ A,VT v p) (hB:∀ q ∈ Bt,VT v q) (hd:∀ p ∈ A,∀ q ∈ Bt,bc p.exps+bc q.exps≤32) (hn:Bt.length≤1000) (hm:A.length≤1000) {o2:Ob} (c2:∀ ids,aB ids o2=true) {vb:Int} :
  ∀ (k i:Nat),i+k=A.length→∀ (c:AV) (l:List Rt) (e:Int),nS c l→(e=0∨e=9)→(e=0→Cl v l∧l.length+k*Bt.length≤1000000)→∀ (s:af) (h:aa),s 3=.ref 3 none 0 0 0→s 4=.ref 4 none 0 0 0→s 6=.ref 2352 none 0 0 0→s 46=.sl 4 (ax A)→s 47=I A.length→s 48=I i→h 2=o2→h 3=.bx [I vb,.sl 4 (ax Bt)]→h 4=.bx [I 0,.emp]→h 2352=t3 v' c e →
  uZ (aI 1 [4,6] (aU (az R (ab false) ky) [3,4,6,46,47,48] [2,3,4,2352] s h)) (upd (upd (fun _=>.any) 6 (.ref 2352 none 0 0 0)) 4 (.ref 4 none 0 0 0)) o2 (.bx [I vb,.sl 4 (ax Bt)]) v v' l e (fY (A.drop i) Bt):=by
 intro k
 induction k with
 | zero =>
  intro i hi c l e hc he hC s h g3 g4 g6 g46 g47 g48 k2 k3 k4 k2352
  have e1:((i:Int) < (A.length:Int))=False:=ff (by omega)
  have ho:=(ko (v:=v') (e:=e) hc).cl [2,3,4,2352]
  have ho2:=c2 [2,3,4,2352]
  rw [List.drop_eq_nil_of_le (by omega),aA]
  refine ⟨?hh0,c,l,e,?_,?_,?_,?_,?_,?_,⟨hc,?_⟩⟩
  rotate_left
  ·simp only [ky,go_sem,↓reduceIte,aez,aeD,g3,g4,g6,g46,g47,g48,k2,k3,k4,k2352,ho,ho2,e1]
   rfl
  ·rfl
  ·rfl
  ·rfl
  ·rfl
  ·intro a a1 a2 a3 a4 a5
   simp only [jg,a1,a2,a3,a5,if_false]
  ·rcases he with rfl | rfl
   ·exact .inl ⟨rfl,rfl,rfl⟩
   ·exact .inr ⟨rfl,fun h=>by omega⟩
 | succ k ih =>
  intro i hi c l e hc he hC s h g3 g4 g6 g46 g47 g48 k2 k3 k4 k2352
  have hlt:i < A.length:=by omega
  have e1:((i:Int) < (A.length:Int))=True:=tt (by omega)
  have e2:bH (ax A) (i:Int)=some (.ipt (bv A[i])):=jx rfl (List.getElem?_eq_getElem hlt)
  have e5:IntKind.i64.wrap ((i:Int)+1)=((i+1:Nat):Int):=wi (by omega) (by omega)
  have ho:=(ko (v:=v') (e:=e) hc).cl
  have vp:=hA _ (List.getElem_mem hlt)
  have hdp:=hd _ (List.getElem_mem hlt)
  rw [List.drop_eq_getElem_cons hlt]
  have ih':=ih (i+1) (by omega)
  have hall:∀ q ts,fY (q::ts) Bt=(gY q Bt).bind fun r=>(fY ts Bt).map (r++·):=fun q ts=>rfl
  rw [hall]
  generalize A[i]=p at e2 vp hdp ⊢
  have hl1:=SE vp (A:=A) (Bt:=Bt) (nA:=(A.length:Int)) (iA:=(i:Int)) (fun q hq=>⟨hB q hq,hdp q hq⟩) (by omega) c2 (vb:=vb) (v':=v') hc he (fun h=>by have:=hC h; rw [Nat.succ_mul] at this; exact ⟨this.1,by omega⟩)
  have hRV:=fun r=>xt (r:=r) vp (fun q hq=>⟨hB q hq,hdp q hq⟩)
  rw [aA]
  generalize aU _ _ _=L at ih' ⊢
  have ho1:=ho [2,3,4,2352]
  have ho2:=c2 [2,3,4,2352]
  simp only [bv] at e2
  simp only [ky,go_sem,↓reduceIte,aez,aeB,aeA,aeC,aeD,g3,g4,g6,g46,g47,g48,k2,k3,k4,k2352,ho1,ho2,e1,e2]
  generalize hXX:aI 3 _ _=X
  have hM:=hl1 _ _ _ hXX rfl rfl rfl rfl rfl rfl rfl rfl rfl rfl rfl rfl rfl rfl rfl
  cases hr:gY p Bt with
  | none =>
   rw [hr] at hM
   obtain ⟨hh,rfl,q4⟩:=hM
   refine ⟨hh,?_,q4⟩
   simp only [go_sem]
  | some r =>
   rw [hr] at hM
   obtain ⟨hh,c1,l1,e1',rfl,q2,q3,q4,qc,qd,qe⟩:=hM
   obtain ⟨w1,w2⟩:=hRV r hr
   obtain ⟨n1,n2⟩:=qe.nx (fun h=>(hC h).1) w1
   have ih2:=ih' c1 l1 e1' qe.c n1 (fun h=>by
    obtain ⟨m1,m2,m3⟩:=n2 h
    have:=(hC m1).2
    rw [Nat.succ_mul] at this
    exact ⟨m2,by omega⟩)
   simp only [Option.bind_some]
   have hpush:∀ (S:af) (H:aa),uZ (aI 1 [4,6] (L S H)) (upd (upd (fun _=>.any) 6 (.ref 2352 none 0 0 0)) 4 (.ref 4 none 0 0 0)) o2 (.bx [I vb,.sl 4 (ax Bt)]) v v' l1 e1' (fY (A.drop (i+1)) Bt)→uZ (aI 1 [4,6] (L S H)) (upd (upd (fun _=>.any) 6 (.ref 2352 none 0 0 0)) 4 (.ref 4 none 0 0 0)) o2 (.bx [I vb,.sl 4 (ax Bt)]) v v' l e ((fY (A.drop (i+1)) Bt).map (r++·)):=fun S H h=>by
    cases hr2:fY (A.drop (i+1)) Bt with
    | none=>rw [hr2] at h; exact h
    | some r2 =>
     rw [hr2] at h
     obtain ⟨hh,c',l',e',q1,q2,q3,q4,q5,q6,q7⟩:=h
     exact ⟨hh,c',l',e',q1,q2,q3,q4,q5,q6,qe.app q7⟩
   simp only [go_sem,↓reduceIte,aez,e5]
   refine hpush _ _ (ih2 _ _ ?_ ?_ ?_ ?_ ?_ ?_ ?_ ?_ ?_ ?_)
   all_goals first | rfl | assumption
end Go.Ab
namespace Go.Ab
open Go Go.IntWalk
set_option maxRecDepth 4000
set_option maxHeartbeats 4000000
theorem SF {v v':Int} {A Bt:List Rt} (hA:∀ p ∈ A,VT v p) (hB:∀ q ∈ Bt,VT v q) (hd:∀ p ∈ A,∀ q ∈ Bt,bc p.exps+bc q.exps≤32) (hn:Bt.length≤500) (hm:A.length≤500) {o2:Ob} (c2:∀ ids,aB ids o2=true) {vb:Int}
  (s:af) (h:aa) (X:Option (Ex × St)) (hX:aI 1 [4,6] (aU (az R (ab false) ky) [3,4,6,46,47,48] [2,3,4,2352] s h)=X) (g3:s 3=.ref 3 none 0 0 0) (g4:s 4=.ref 4 none 0 0 0) (g6:s 6=.ref 2352 none 0 0 0) (g46:s 46=.sl 4 (ax A)) (g47:s 47=I A.length) (g48:s 48=I 0) (k2:h 2=o2) (k3:h 3=.bx [I vb,.sl 4 (ax Bt)]) (k4:h 4=.bx [I 0,.emp]) (k2352:h 2352=.bx [I v',.emp,I 0]) :
  uZ X (upd (upd (fun _=>.any) 6 (.ref 2352 none 0 0 0)) 4 (.ref 4 none 0 0 0)) o2 (.bx [I vb,.sl 4 (ax Bt)]) v v' [] 0 (fY A Bt):=by
 subst hX
 exact Mt hA hB hd (by omega) (by omega) c2 A.length 0 (Nat.zero_add _) .emp [] 0 (.inr ⟨rfl,rfl⟩) (.inl rfl) (fun _=>⟨Cl.nil _,by
  have:A.length*Bt.length≤500*500:=Nat.mul_le_mul hm hn
  show 0+_≤_
  omega⟩) s h g3 g4 g6 g46 g47 g48 k2 k3 k4 k2352
theorem SG {v:Int} {t:Rt} (h:VT v t):0≤bc t.exps:=(CE fun x hx=>(h.b x hx).1).1
theorem Jk {a:Rp} (oa:OkP a):-1≤iP a∧iP a≤32:=by
 unfold iP
 split
 ·rename_i h
  cases hg:a.terms.getLast? with
  | none=>simp
  | some t =>
   have vt:=(eJ oa h).1.t t (List.mem_of_getLast? hg)
   have:=SG vt
   have:=vt.d
   simp only []
   omega
 ·omega
theorem CK {a b:Rp} (oa:OkP a) (ob:OkP b):R F.poly_Mul [bm a,bm b] []=some (pV (iR a b),[]):=by
 refine aZ Kx Kw (DI false) rfl ?_
 have hp:=Jg oa ob
 have hda:=Dj oa
 have hdb:=Dj ob
 have bda:=Jk oa
 have bdb:=Jk ob
 simp only [bm] at hp hda hdb
 unfold iR
 cases hb:sz a b with
 | false =>
  rw [hb] at hp
  rw [if_neg Bool.false_ne_true]
  simp only [gu,awR,bm,go_sem,↓reduceIte,aez,aeB,aeA,aeC,aeE,hp]
  rfl
 | true =>
  rw [hb] at hp
  rw [if_pos rfl]
  obtain ⟨va,vb,hv⟩:=nT.1 hb
  obtain ⟨ka,a0,a8,al⟩:=eJ oa va
  obtain ⟨kb,b0,b8,bl⟩:=eJ ob vb
  rw [← hv] at kb
  have w1:IntKind.i64.wrap (iP a+iP b)=iP a+iP b:=i64_in _ ⟨by omega,by omega⟩
  by_cases hd:a.terms.length ≠ 0∧b.terms.length ≠ 0∧32 < iP a+iP b
  ·rw [if_pos hd]
   have e1:(0 < (a.terms.length:Int))=True:=tt (by omega)
   have e2:(0 < (b.terms.length:Int))=True:=tt (by omega)
   have e3:(32 < iP a+iP b)=True:=eq_true hd.2.2
   simp only [gu,awR,bm,go_sem,↓reduceIte,aez,aeB,aeA,aeC,aeE,aeD,hp,hda,hdb,w1,e1,e2,e3]
   rfl
  ·rw [if_neg hd]
   have hf:=Af oa ob va vb hd
   have hemp:=Ai (v:=a.vars)
   have hl:=SF (v':=a.vars) (A:=a.terms) (Bt:=b.terms) ka.t kb.t hf (by omega) (by omega) (o2:=.bx [I a.vars,.sl 4 (ax a.terms)]) (fun _=>rfl) (vb:=b.vars)
   have fin:∀ X:Option (Ex × St),uZ X (upd (upd (fun _=>.any) 6 (.ref 2352 none 0 0 0)) 4 (.ref 4 none 0 0 0)) (.bx [I a.vars,.sl 4 (ax a.terms)]) (.bx [I b.vars,.sl 4 (ax b.terms)]) a.vars a.vars [] 0 (fY a.terms b.terms) →
     ajf false [[.o 0 [],.o 5 [.o 2 [],.o 0 [],.o 2 [],.o 0 []]],[]] [.cell 4 2 true,.t 5] 0 (dG X (az R (ab false) (.seq (.ops [4,5] [cm 95 6,ca 96 F.poly_collector_done [.t 95],co 97 (.ext 0 (.t 96)),co 98 (.ext 1 (.t 96)),sr 2 (.t 4) (.t 97),cm 5 98]) .ret)))=some (pV (ie a.vars ((fY a.terms b.terms).bind (ej []))),[]):=by
    intro X hM
    cases hr:fY a.terms b.terms with
    | none =>
     rw [hr] at hM
     obtain ⟨hh,rfl,q4⟩:=hM
     simp only [Option.bind_none,ie,pV,p0,bm,go_sem,↓reduceIte,aez,aeB,aeA,aeC,q4]
     rfl
    | some r =>
     rw [hr] at hM
     obtain ⟨hh,c',l',e',rfl,q2,q3,q4,qc,qd,qe⟩:=hM
     obtain ⟨o,hdn⟩:=xw (d:=96) qc qe.c (by simp [cr,qd,cz])
     have hd':=nU (dR false) rfl hdn
     rw [qe.fin] at hd'
     rw [Option.bind_some]
     generalize ie a.vars (ej [] r)=z at hd' ⊢
     obtain ⟨z1,z2⟩:=z
     simp only [pV,bm] at hd'
     simp only [pV,bm,go_sem,↓reduceIte,aez,aeB,aeA,aeC,aeD,q4,hd']
   by_cases h1:a.terms.length=0
   ·have e1:(0 < (a.terms.length:Int))=False:=ff (by omega)
    simp only [gu,awR,bm,go_sem,↓reduceIte,aez,aeB,aeA,aeC,aeE,hp,e1,hemp,qp]
    generalize hX:aI 1 _ _=X
    exact fin X (hl _ _ _ hX rfl rfl rfl rfl rfl rfl rfl rfl rfl rfl)
   ·have e1:(0 < (a.terms.length:Int))=True:=tt (by omega)
    by_cases h2:b.terms.length=0
    ·have e2:(0 < (b.terms.length:Int))=False:=ff (by omega)
     simp only [gu,awR,bm,go_sem,↓reduceIte,aez,aeB,aeA,aeC,aeE,hp,e1,e2,hemp,qp]
     generalize hX:aI 1 _ _=X
     exact fin X (hl _ _ _ hX rfl rfl rfl rfl rfl rfl rfl rfl rfl rfl)
    ·have e2:(0 < (b.terms.length:Int))=True:=tt (by omega)
     have e3:(32 < iP a+iP b)=False:=eq_false fun h=>hd ⟨h1,h2,h⟩
     simp only [gu,awR,bm,go_sem,↓reduceIte,aez,aeB,aeA,aeC,aeE,aeD,hp,hda,hdb,w1,e1,e2,e3,hemp,qp]
     generalize hX:aI 1 _ _=X
     exact fin X (hl _ _ _ hX rfl rfl rfl rfl rfl rfl rfl rfl rfl rfl)
end Go.Ab
namespace Go.Ab
open Go Go.IntWalk
set_option maxRecDepth 4000
set_option maxHeartbeats 1000000
theorem Yf {d:Rd} (od:Ok0 d) (vdd:vd d=true) (nd:d.m.length ≠ 0):VT 0 ⟨[],d⟩:=⟨od,rfl,by decide,vdd,nd,(fun _ h=>nomatch h),by show (0:Int)≤32; decide⟩
theorem OQ {a d:Rd} (oa:Ok0 a) (va:vd a=true) (na:a.m.length ≠ 0) (od:Ok0 d) (vdd:vd d=true) (nd:d.m.length ≠ 0) (h0:(eC a d).2=0):Ok0 (eC a d).1∧vd (eC a d).1=true∧(eC a d).1.m.length ≠ 0:=by
 have h:=Ad (v:=0) (s:=⟨[],a⟩) (t:=⟨[],d⟩) (x:=⟨[],(eC a d).1⟩) (Yf oa va na) (Yf od vdd nd) (by show (0:Int)+0≤32; decide) (by unfold uV; rw [if_pos h0]; rfl)
 exact ⟨h.c,h.vc,h.nz⟩
def aeR (d:Rd):List Rt→Option (List Rt)
 | []=>some []
 | t::ts=>if (eC t.c d).2=0 then (aeR d ts).map (⟨t.exps,(eC t.c d).1⟩::·) else none
theorem agC {v:Int} {t:Rt} {d:Rd} (vt:VT v t) (od:Ok0 d) (vdd:vd d=true) (nd:d.m.length ≠ 0) (h0:(eC t.c d).2=0):VT v ⟨t.exps,(eC t.c d).1⟩:=by
 obtain ⟨h1,h2,h3⟩:=OQ vt.c vt.vc vt.nz od vdd nd h0
 exact ⟨h1,vt.len,vt.v8,h2,h3,vt.b,vt.d⟩
theorem afA {v:Int} {d:Rd} (od:Ok0 d) (vdd:vd d=true) (nd:d.m.length ≠ 0):∀ {ts r:List Rt},Cl v ts→aeR d ts=some r→Cl v r∧r.length=ts.length∧∀ y ∈ r,∃ t ∈ ts,y.exps=t.exps
 | [],r,c,h=>by cases h; exact ⟨Cl.nil v,rfl,(fun _ h=>nomatch h)⟩
 | t::ts,r,c,h=>by
  obtain ⟨vt,ht,c2⟩:=c.cons
  unfold aeR at h
  split at h
  ·rename_i h0
   rw [Option.map_eq_some_iff] at h
   obtain ⟨r2,h2,rfl⟩:=h
   obtain ⟨k1,k2,k3⟩:=afA od vdd nd c2 h2
   refine ⟨Cl.mk' (agC vt od vdd nd h0) (fun y hy=>?_) k1,by simp [k2],fun y hy=>?_⟩
   ·obtain ⟨q,hq,he⟩:=k3 y hy
    rw [he]
    exact ht q hq
   ·rcases List.mem_cons.1 hy with rfl | hy
    ·exact ⟨t,by simp,rfl⟩
    ·obtain ⟨q,hq,he⟩:=k3 y hy
     exact ⟨q,by simp [hq],he⟩
  ·cases h
def ad0 (a:Rp) (d:Rd):Rp × Int:=if vp a=true∧vd d=true then (if d.m.length=0 then (⟨a.vars,[]⟩,0) else match aeR d a.terms with | none=>(p0,9) | some r=>(⟨a.vars,r⟩,0)) else (p0,1)
theorem agT {a:Rp} {d:Rd} (oa:OkP a) (od:Ok0 d) (va:vp a=true) (vdd:vd d=true) (nd:d.m.length ≠ 0):(match aeR d a.terms with | none=>(p0,(9:Int)) | some r=>(⟨a.vars,r⟩,0))=ie a.vars ((aeR d a.terms).bind (ej [])):=by
 obtain ⟨ca,a0,a8,al⟩:=eJ oa va
 cases h:aeR d a.terms with
 | none=>rfl
 | some r =>
  obtain ⟨k1,k2,k3⟩:=afA od vdd nd ca h
  have hc:ej [] r=some r:=Hn (l:=[]) k1
  simp only [Option.bind_some,hc,ie]
  rw [if_neg (by omega)]
end Go.Ab
namespace Go.Ab
open Go Go.IntWalk
end Go.Ab
namespace Go.Ab
open Go Go.IntWalk
set_option maxRecDepth 4000
set_option maxHeartbeats 2000000
end Go.Ab
namespace Go.Ab
open Go Go.IntWalk
set_option maxRecDepth 4000
set_option maxHeartbeats 4000000
def Yg (x:AV) (l:List Rt):Prop:=x=.sl 4 (ax l)∨(x=.emp∧l=[])
theorem Yg.keep {x:AV} {l:List Rt} (h:Yg x l) (hs:List Nat):eF hs x=x:=by
 rcases h with rfl | ⟨rfl,_⟩ <;> rfl
end Go.Ab
namespace Go.Ab
open Go Go.IntWalk
set_option maxRecDepth 4000
set_option maxHeartbeats 4000000
end Go.Ab
namespace Go.Ab
open Go Go.IntWalk
set_option maxRecDepth 4000
set_option maxHeartbeats 1000000
end Go.Ab
namespace Go.Ab
open Go Go.IntWalk
set_option maxRecDepth 4000
set_option maxHeartbeats 2000000
def ahI (X:Option (Ex × St)):Option Rd→Prop
 | some d=>∃ hh,X=some (.normal,⟨upd (upd (fun _=>.any) 6 (.ref 6 none 0 0 0)) 3 (.ref 3 none 0 0 0),hh⟩)∧hh 3=.bx [B d.neg,lm d.m,I d.e]∧hh 6=.bx zb
 | none=>∃ hh,X=some (.ret,⟨upd (upd (fun _=>.any) 7 (B false)) 6 (.ref 6 none 0 0 0),hh⟩)∧hh 6=.bx zb
theorem ag2 {x:Rd} (ox:Ok0 x) {n:Nat} (hn:n≤100000):∀ (k i:Nat),i+k=n→∀ (c:Rd),Ok0 c→∀ (s:af) (h:aa),s 3=.ref 3 none 0 0 0→s 4=.ref 4 none 0 0 0→s 6=.ref 6 none 0 0 0→s 10=I n→s 11=I i→h 3=.bx [B c.neg,lm c.m,I c.e]→h 4=.bx [B x.neg,lm x.m,I x.e]→h 6=.bx zb →
  ahI (aI 0 [3,6] (aU (az R (ab false) adZ) [3,4,6,10,11] [3,4,6] s h)) (ad8 x k c):=by
 intro k
 induction k with
 | zero =>
  intro i hi c oc s h g3 g4 g6 g10 g11 k3 k4 k6
  have e1:((i:Int) < (n:Int))=False:=ff (by omega)
  rw [aA]
  refine ⟨?hh0,?_,?_,?_⟩
  rotate_left
  ·simp only [adZ,go_sem,↓reduceIte,aez,aeD,g3,g4,g6,g10,g11,k3,k4,k6,e1]
   rfl
  ·rfl
  ·rfl
 | succ k ih =>
  intro i hi c oc s h g3 g4 g6 g10 g11 k3 k4 k6
  have e1:((i:Int) < (n:Int))=True:=tt (by omega)
  have e5:IntKind.i64.wrap ((i:Int)+1)=((i+1:Nat):Int):=wi (by omega) (by omega)
  have hm:=IZ oc ox
  have om:=(afb c x).2
  have ih':=ih (i+1) (by omega)
  rw [aA]
  generalize aU _ _ _=L at ih' ⊢
  unfold ad8
  generalize eC c x=r at hm om ⊢
  obtain ⟨r1,r2⟩:=r
  simp only [rV,aF,aW] at hm
  by_cases h0:r2=0
  ·subst h0
   rw [if_pos rfl]
   simp only [adZ,go_sem,↓reduceIte,aez,aeB,aeA,aeC,aeD,g3,g4,g6,g10,g11,k3,k4,k6,e1,e5,hm]
   exact ih' r1 om _ _ rfl rfl rfl rfl rfl rfl rfl rfl
  ·rw [if_neg h0]
   have e2:(r2=0)=False:=ff h0
   refine ⟨?hh1,?_,?_⟩
   rotate_left
   ·simp only [adZ,go_sem,↓reduceIte,aez,aeB,aeA,aeC,aeD,g3,g4,g6,g10,g11,k3,k4,k6,e1,hm,e2]
    rfl
   ·rfl
theorem ahS {x:Rd} (ox:Ok0 x) {n:Nat} (hn:n≤100000) {c:Rd} (oc:Ok0 c) (s:af) (h:aa) (X:Option (Ex × St)) (hX:aI 0 [3,6] (aU (az R (ab false) adZ) [3,4,6,10,11] [3,4,6] s h)=X) (g3:s 3=.ref 3 none 0 0 0) (g4:s 4=.ref 4 none 0 0 0) (g6:s 6=.ref 6 none 0 0 0) (g10:s 10=I n) (g11:s 11=I 0) (k3:h 3=.bx [B c.neg,lm c.m,I c.e]) (k4:h 4=.bx [B x.neg,lm x.m,I x.e]) (k6:h 6=.bx zb) :
  ahI X (ad8 x n c):=by
 subst hX
 exact ag2 ox hn n 0 (Nat.zero_add _) c oc s h g3 g4 g6 g10 g11 k3 k4 k6
theorem agU {c x:Rd} (oc:Ok0 c) (ox:Ok0 x) {n:Nat} (hn:n≤100000):R F.poly_times [aF c,aF x,I n] []=some (.tup [aF (afO x n c).1,B (afO x n c).2],[]):=by
 refine aZ agf age (afL false) rfl ?_
 have hl:=ahS ox hn oc
 simp only [aeZ,afs,aF,aW,go_sem,↓reduceIte,aez,aeA]
 generalize hX:aI 0 [3,6] _=X
 have hT:=hl _ _ _ hX rfl rfl rfl rfl rfl rfl rfl rfl
 unfold afO
 cases ht:ad8 x n c with
 | some d =>
  rw [ht] at hT
  obtain ⟨hh,rfl,q3,q6⟩:=hT
  simp only [go_sem,↓reduceIte,aez,aeB,aeA,aeC,q3,q6]
 | none =>
  rw [ht] at hT
  obtain ⟨hh,rfl,q6⟩:=hT
  simp only [go_sem,↓reduceIte,aez,aeB,aeA,aeC,q6]
  rfl
theorem ahJ {d:Rd} (ok:Ok0 d):R F.poly_Eval_1 [.agg (aW d)] []=some (B (!vd d),[]):=by
 refine aZ af0 afZ (afE false) rfl ?_
 have hv:=kl ok
 simp only [aF,aW] at hv
 simp only [aeT,afk,aW,go_sem,↓reduceIte,aez,aeB,aeA,aeC,hv]
def zm:List AV→Rd
 | [.v (.bool n),.sl _ m,.v (.int _ e)]=>⟨n,m.map (fun r=>match r with | [.v (.int _ x)]=>x.toNat | _=>0),e⟩
 | _=>fp
theorem ahi (d:Rd):zm (aW d)=d:=congrArg (fun m=>(⟨d.neg,m,d.e⟩:Rd)) (zq d.m)
theorem agm {f:FuncId} {p:Rd→Bool} (hm:(ab false).m f=[]) (hs:(ab false).sh f=[[.o 0 [],.o 2 [],.o 0 []]]) {l:List Rd} (h2:l.length≤100000) (hf:∀ d ∈ l,R f [.agg (aW d)] []=some (B (p d),[])):R F.slices_ContainsFunc_api_Dyadic_api_Dyadic_ [.sl 3 (Ma l),.fn f [] []] []=some (B (l.any p),[]):=by
 have h1:=Bn (k:=3) (g:=true) (f:=f) (rows:=Ma l) (p:=fun r=>p (zm r)) aeQ aeP (aeK false) rfl hm (by rw [ab6]; omega) (fun row hr=>by
  simp only [Ma,List.mem_map] at hr
  obtain ⟨t,ht,rfl⟩:=hr
  have hd:=hf t ht
  refine ⟨.agg (aW t),rfl,rfl,?_⟩
  rw [ahi]
  simp only [aW] at hd
  simp only [aW,go_sem,hs,hd])
 have h2:=xS (k:=3) aeI aeH (ad4 false) rfl (adV false) (aeN false) (by simp only [go_sem]) h1
 have h3:(Ma l).any (fun r=>p (zm r))=l.any p:=by
  unfold Ma
  rw [List.any_map]
  congr 1
  funext t
  exact congrArg p (ahi t)
 rw [h3] at h2
 exact h2
theorem agD:∀ l:List Rd,(l.any fun d=>!vd d)=!l.all vd
 | []=>rfl
 | d::l=>by rw [List.any_cons,List.all_cons,Bool.not_and,agD l]
theorem ag3 {l:List Rd} (ol:∀ d ∈ l,Ok0 d) (h2:l.length≤100000):R F.slices_ContainsFunc_api_Dyadic_api_Dyadic_ [.sl 3 (Ma l),.fn F.poly_Eval_1 [] []] []=some (B (!l.all vd),[]):=by
 have h:=agm (afm false) (afS false) h2 (p:=fun d=>!vd d) (fun d hd=>ahJ (ol d hd))
 rw [agD] at h
 exact h
def Bf (X:Option (Ex × St)) (S:af) (o2:Ob) (c6:List AV):Option Rd→Prop
 | some d=>∃ hh,X=some (.normal,⟨S,hh⟩)∧hh 2=o2∧hh 4=.bx zb∧hh 6=.bx c6∧hh 9=.bx [B d.neg,lm d.m,I d.e]∧∀ a,a ≠ 2→a ≠ 4→a ≠ 6→a ≠ 8→a ≠ 9→hh a=.dead
 | none=>∃ hh,X=some (.ret,⟨upd (upd (fun _=>.any) 5 (I 9)) 4 (.ref 4 none 0 0 0),hh⟩)∧hh 4=.bx zb
theorem ag4 {es:List Int} {xs:List Rd} (ox:∀ d ∈ xs,Ok0 d) (hl:es.length=xs.length) (hb:∀ e ∈ es,0≤e∧e≤32) (h8:es.length≤1000) {o2 o8:Ob} (c2:∀ l,aB l o2=true) (c8:∀ l,aB l o8=true) {c6:List AV} (k6c:∀ l,c6.all (en l)=true) {A:List Rt} {nA iA:Int} :
  ∀ (k i:Nat),i+k=es.length→∀ (c:Rd),Ok0 c→∀ (s:af) (h:aa),s 1=.sl 3 (Ma xs)→s 4=.ref 4 none 0 0 0→s 6=.ref 6 none 0 0 0→s 9=.ref 9 none 0 0 0→s 31=.sl 4 (ax A)→s 32=I nA→s 33=I iA→s 40=.sl 1 (aX es)→s 41=I es.length→s 42=I i→h 2=o2→h 4=.bx zb→h 6=.bx c6→h 8=o8→h 9=.bx [B c.neg,lm c.m,I c.e] →
  Bf (aI 2 [1,4,6,9,31,32,33] (aU (az R (ab false) ad1) [1,4,6,9,31,32,33,40,41,42] [2,4,6,8,9] s h)) (upd (upd (upd (upd (upd (upd (upd (fun _=>.any) 33 (I iA)) 32 (I nA)) 31 (.sl 4 (ax A))) 9 (.ref 9 none 0 0 0)) 6 (.ref 6 none 0 0 0)) 4 (.ref 4 none 0 0 0)) 1 (.sl 3 (Ma xs))) o2 c6 (ad9 (es.drop i) (xs.drop i) c):=by
 intro k
 induction k with
 | zero =>
  intro i hi c oc s h g1 g4 g6 g9 g31 g32 g33 g40 g41 g42 k2 k4 k6 k8 k9
  have e1:((i:Int) < (es.length:Int))=False:=ff (by omega)
  rw [List.drop_eq_nil_of_le (show es.length≤i by omega),aA]
  have hc2:=c2 [2,4,6,8,9]
  have hc8:=c8 [2,4,6,8,9]
  have hc6:=k6c [2,4,6,8,9]
  refine ⟨?hh0,?_,?_,?_,?_,?_,?_⟩
  rotate_left
  ·simp only [ad1,go_sem,↓reduceIte,aez,aeD,g1,g4,g6,g9,g31,g32,g33,g40,g41,g42,k2,k4,k6,k8,k9,hc2,hc8,hc6,e1]
   rfl
  ·rfl
  ·rfl
  ·rfl
  ·rfl
  ·intro a a1 a2 a3 a4 a5
   simp only [jg,a1,a2,a3,a4,a5,if_false]
 | succ k ih =>
  intro i hi c oc s h g1 g4 g6 g9 g31 g32 g33 g40 g41 g42 k2 k4 k6 k8 k9
  have hlt:i < es.length:=by omega
  have hlt2:i < xs.length:=by omega
  have e1:((i:Int) < (es.length:Int))=True:=tt (by omega)
  have e2:bH (Ma xs) (i:Int)=some (.ipt (aW xs[i])):=ahl rfl (List.getElem?_eq_getElem hlt2)
  have e3:bH (aX es) (i:Int)=some (.ipt [I es[i]]):=pJ rfl (List.getElem?_eq_getElem hlt)
  have e5:IntKind.i64.wrap ((i:Int)+1)=((i+1:Nat):Int):=wi (by omega) (by omega)
  have od:=ox xs[i] (List.getElem_mem hlt2)
  obtain ⟨r1,r2⟩:=hb es[i] (List.getElem_mem hlt)
  have ih':=ih (i+1) (by omega)
  rw [agL hlt hlt2,aA]
  generalize aU _ _ _=L at ih' ⊢
  generalize es[i]=e at e3 r1 r2 ⊢
  obtain ⟨n,rfl⟩:=Int.eq_ofNat_of_zero_le r1
  rw [Int.toNat_natCast]
  generalize xs[i]=x at e2 od ⊢
  have hm:=agU oc od (n:=n) (by omega)
  have hok:=afw (x:=x) n c
  unfold afO at hm
  have hc2:=c2 [2,4,6,8,9]
  have hc8:=c8 [2,4,6,8,9]
  have hc6:=k6c [2,4,6,8,9]
  cases hT:ad8 x n c with
  | some d =>
   have oc2:=hok d oc hT
   rw [hT] at hm
   simp only [aF,aW] at hm e2
   rw [Option.bind_some]
   simp only [ad1,go_sem,↓reduceIte,aez,aeB,aeA,aeC,aeE,aeD,g1,g4,g6,g9,g31,g32,g33,g40,g41,g42,k2,k4,k6,k8,k9,hc2,hc8,hc6,e1,e2,e3,e5,hm]
   exact ih' d oc2 _ _ rfl rfl rfl rfl rfl rfl rfl rfl rfl rfl rfl rfl rfl rfl rfl
  | none =>
   rw [hT] at hm
   simp only [aF,aW,fp] at hm e2
   refine ⟨?hh1,?_,?_⟩
   rotate_left
   ·simp only [ad1,go_sem,↓reduceIte,aez,aeB,aeA,aeC,aeE,aeD,g1,g4,g6,g9,g31,g32,g33,g40,g41,g42,k2,k4,k6,k8,k9,hc2,hc8,hc6,e1,e2,e3,hm]
    rfl
   ·rfl
theorem ahT {es:List Int} {xs:List Rd} (ox:∀ d ∈ xs,Ok0 d) (hl:es.length=xs.length) (hb:∀ e ∈ es,0≤e∧e≤32) (h8:es.length≤1000) {o2 o8:Ob} (c2:∀ l,aB l o2=true) (c8:∀ l,aB l o8=true) {c6:List AV} (k6c:∀ l,c6.all (en l)=true) {A:List Rt} {nA iA:Int} {c:Rd} (oc:Ok0 c) (s:af) (h:aa) (X:Option (Ex × St)) (hX:aI 2 [1,4,6,9,31,32,33] (aU (az R (ab false) ad1) [1,4,6,9,31,32,33,40,41,42] [2,4,6,8,9] s h)=X)
  (g1:s 1=.sl 3 (Ma xs)) (g4:s 4=.ref 4 none 0 0 0) (g6:s 6=.ref 6 none 0 0 0) (g9:s 9=.ref 9 none 0 0 0) (g31:s 31=.sl 4 (ax A)) (g32:s 32=I nA) (g33:s 33=I iA) (g40:s 40=.sl 1 (aX es)) (g41:s 41=I es.length) (g42:s 42=I 0) (k2:h 2=o2) (k4:h 4=.bx zb) (k6:h 6=.bx c6) (k8:h 8=o8) (k9:h 9=.bx [B c.neg,lm c.m,I c.e]) :
  Bf X (upd (upd (upd (upd (upd (upd (upd (fun _=>.any) 33 (I iA)) 32 (I nA)) 31 (.sl 4 (ax A))) 9 (.ref 9 none 0 0 0)) 6 (.ref 6 none 0 0 0)) 4 (.ref 4 none 0 0 0)) 1 (.sl 3 (Ma xs))) o2 c6 (ad9 es xs c):=by
 subst hX
 exact ag4 ox hl hb h8 c2 c8 k6c es.length 0 (Nat.zero_add _) c oc s h g1 g4 g6 g9 g31 g32 g33 g40 g41 g42 k2 k4 k6 k8 k9
end Go.Ab
namespace Go.Ab
open Go Go.IntWalk
set_option maxRecDepth 4000
set_option maxHeartbeats 2000000
theorem agn:∀ {es:List Int} {xs:List Rd} {c d:Rd},Ok0 c→ad9 es xs c=some d→Ok0 d
 | e::es,x::xs,c,d,oc,h=>by
  unfold ad9 at h
  rw [Option.bind_eq_some_iff] at h
  obtain ⟨y,h1,h2⟩:=h
  exact agn (afw _ c y oc h1) h2
 | [],_,c,d,oc,h=>by cases h; exact oc
 | _::_,[],c,d,oc,h=>by cases h; exact oc
def Yh (c:List AV) (q:Rd):Prop:=c=[B q.neg,lm q.m,I q.e]∨(c=zb∧q=fp)
theorem Yh.cl {c:List AV} {q:Rd} (h:Yh c q) (l:List Nat):c.all (en l)=true:=by
 rcases h with rfl | ⟨rfl,_⟩ <;> rfl
def Fm (X:Option (Ex × St)) (r:Rd × Int):Prop:=(r.2=0∧∃ hh c6,X=some (.normal,⟨upd (upd (fun _=>.any) 6 (.ref 6 none 0 0 0)) 4 (.ref 4 none 0 0 0),hh⟩)∧hh 4=.bx zb∧hh 6=.bx c6∧Yh c6 r.1) ∨
 (r=(fp,9)∧∃ hh,X=some (.ret,⟨upd (upd (fun _=>.any) 5 (I 9)) 4 (.ref 4 none 0 0 0),hh⟩)∧hh 4=.bx zb)
theorem ag5 {v:Int} {A:List Rt} {xs:List Rd} (ox:∀ d ∈ xs,Ok0 d) (hx:(xs.length:Int)=v) (hA:∀ t ∈ A,VT v t) (hn:A.length≤100000) {o2:Ob} (c2:∀ l,aB l o2=true) :
  ∀ (k i:Nat),i+k=A.length→∀ (q:Rd),Ok0 q→∀ (c6:List AV),Yh c6 q→∀ (s:af) (h:aa),s 1=.sl 3 (Ma xs)→s 4=.ref 4 none 0 0 0→s 6=.ref 6 none 0 0 0→s 31=.sl 4 (ax A)→s 32=I A.length→s 33=I i→h 2=o2→h 4=.bx zb→h 6=.bx c6 →
  Fm (aI 0 [4,6] (aU (az R (ab false) aeM) [1,4,6,31,32,33] [2,4,6] s h)) (aeU xs (A.drop i) q):=by
 intro k
 induction k with
 | zero =>
  intro i hi q oq c6 hq s h g1 g4 g6 g31 g32 g33 k2 k4 k6
  have e1:((i:Int) < (A.length:Int))=False:=ff (by omega)
  have hc2:=c2 [2,4,6]
  have hc6:=hq.cl [2,4,6]
  rw [List.drop_eq_nil_of_le (by omega),aA]
  refine .inl ⟨rfl,?hh0,c6,?_,?_,?_,hq⟩
  rotate_left
  ·simp only [aeM,go_sem,↓reduceIte,aez,aeD,g1,g4,g6,g31,g32,g33,k2,k4,k6,hc2,hc6,e1]
   rfl
  ·rfl
  ·rfl
 | succ k ih =>
  intro i hi q oq c6 hq s h g1 g4 g6 g31 g32 g33 k2 k4 k6
  have hlt:i < A.length:=by omega
  have e1:((i:Int) < (A.length:Int))=True:=tt (by omega)
  have e2:bH (ax A) (i:Int)=some (.ipt (bv A[i])):=jx rfl (List.getElem?_eq_getElem hlt)
  have e5:IntKind.i64.wrap ((i:Int)+1)=((i+1:Nat):Int):=wi (by omega) (by omega)
  have vt:=hA _ (List.getElem_mem hlt)
  have ih':=ih (i+1) (by omega)
  rw [List.drop_eq_getElem_cons hlt]
  generalize A[i]=t at e2 vt ⊢
  have hlen:=vt.len
  have hl1:=ahT ox (es:=t.exps) (by omega) vt.b (by have:=vt.v8; omega) c2 (o8:=.bx [.sl 1 (aX t.exps),B t.c.neg,lm t.c.m,I t.c.e]) (fun _=>rfl) (fun l=>hq.cl l) (A:=A) (nA:=(A.length:Int)) (iA:=(i:Int)) vt.c
  have hok:=fun d=>agn (es:=t.exps) (xs:=xs) (c:=t.c) (d:=d) vt.c
  have hc2:=c2 [2,4,6]
  have hc6:=hq.cl [2,4,6]
  rw [aA]
  generalize aU _ _ _=L at ih' ⊢
  simp only [bv] at e2
  simp only [aeM,go_sem,↓reduceIte,aez,aeB,aeA,aeC,aeD,g1,g4,g6,g31,g32,g33,k2,k4,k6,hc2,hc6,e1,e2]
  generalize hXX:aI 2 _ _=X
  have hM:=hl1 _ _ _ hXX rfl rfl rfl rfl rfl rfl rfl rfl rfl rfl rfl rfl rfl rfl rfl
  cases hr:ad9 t.exps xs t.c with
  | none =>
   rw [hr] at hM
   obtain ⟨hh,rfl,q4⟩:=hM
   rw [afy hr]
   refine .inr ⟨rfl,hh,?_,q4⟩
   simp only [go_sem]
  | some d =>
   rw [hr] at hM
   obtain ⟨hh,rfl,q2,q4,q6,q9,qd⟩:=hM
   rw [afx hr]
   have hadd:=QL oq (hok d hr)
   have oadd:=(QH q d).2
   have d1:hh 2512=.dead:=qd _ (by decide) (by decide) (by decide) (by decide) (by decide)
   have d2:hh 2513=.dead:=qd _ (by decide) (by decide) (by decide) (by decide) (by decide)
   have d3:hh 13=.dead:=qd _ (by decide) (by decide) (by decide) (by decide) (by decide)
   generalize iQ q d=r at hadd oadd ⊢
   obtain ⟨r1,r2⟩:=r
   simp only [rV,aF,aW] at hadd
   by_cases h0:r2=0
   ·subst h0
    rw [if_pos rfl]
    rcases hq with rfl | ⟨rfl,rfl⟩
    ·simp only [go_sem,↓reduceIte,aez,aeB,aeA,aeC,q4,q6,q9,d1,d2,d3,hadd,e5]
     refine ih' r1 oadd _ (.inl rfl) _ _ ?_ ?_ ?_ ?_ ?_ ?_ ?_ ?_ ?_
     all_goals first | rfl | assumption | (simp only [jg,aez,↓reduceIte,q2,q4]; done)
    ·simp only [fp] at hadd
     simp only [go_sem,↓reduceIte,aez,aeB,aeA,aeC,q4,q6,q9,d1,d2,d3,hadd,e5]
     refine ih' r1 oadd _ (.inl rfl) _ _ ?_ ?_ ?_ ?_ ?_ ?_ ?_ ?_ ?_
     all_goals first | rfl | assumption | (simp only [jg,aez,↓reduceIte,q2,q4]; done)
   ·rw [if_neg h0]
    have f1:(r2=0)=False:=ff h0
    rcases hq with rfl | ⟨rfl,rfl⟩
    ·refine .inr ⟨rfl,?hh1,?_,?_⟩
     rotate_left
     ·simp only [go_sem,↓reduceIte,aez,aeB,aeA,aeC,q4,q6,q9,d1,d2,d3,hadd,f1]
      rfl
     ·rfl
    ·simp only [fp] at hadd
     refine .inr ⟨rfl,?hh2,?_,?_⟩
     rotate_left
     ·simp only [go_sem,↓reduceIte,aez,aeB,aeA,aeC,q4,q6,q9,d1,d2,d3,hadd,f1]
      rfl
     ·rfl
theorem ahU {v:Int} {A:List Rt} {xs:List Rd} (ox:∀ d ∈ xs,Ok0 d) (hx:(xs.length:Int)=v) (hA:∀ t ∈ A,VT v t) (hn:A.length≤100000) {o2:Ob} (c2:∀ l,aB l o2=true) (s:af) (h:aa) (X:Option (Ex × St)) (hX:aI 0 [4,6] (aU (az R (ab false) aeM) [1,4,6,31,32,33] [2,4,6] s h)=X)
  (g1:s 1=.sl 3 (Ma xs)) (g4:s 4=.ref 4 none 0 0 0) (g6:s 6=.ref 6 none 0 0 0) (g31:s 31=.sl 4 (ax A)) (g32:s 32=I A.length) (g33:s 33=I 0) (k2:h 2=o2) (k4:h 4=.bx zb) (k6:h 6=.bx zb) :
  Fm X (aeU xs A fp):=by
 subst hX
 exact ag5 ox hx hA hn c2 A.length 0 (Nat.zero_add _) fp He.2 zb (.inr ⟨rfl,rfl⟩) s h g1 g4 g6 g31 g32 g33 k2 k4 k6
theorem afG {a:Rp} {xs:List Rd} (oa:OkP a) (ox:∀ d ∈ xs,Ok0 d) (h2:xs.length≤100000):R F.poly_Eval [bm a,x8 xs] []=some (rV (acB a xs),[]):=by
 refine aZ agw agv (afR false) rfl ?_
 have hv:=nR oa
 have hc:=ag3 ox h2
 simp only [bm] at hv
 unfold acB agZ
 cases va:vp a with
 | false =>
  rw [va] at hv
  rw [Bool.false_and,if_neg Bool.false_ne_true]
  simp only [ad2,aeW,bm,x8,go_sem,↓reduceIte,aez,aeB,aeA,aeC,hv]
  rfl
 | true =>
  rw [va] at hv
  by_cases hl:(xs.length:Int)=a.vars
  ·have e1:((xs.length:Int)=a.vars)=True:=eq_true hl
   rw [Bool.true_and,decide_eq_true hl,Bool.true_and]
   cases hav:xs.all vd with
   | false =>
    rw [hav] at hc
    rw [if_neg Bool.false_ne_true]
    simp only [ad2,aeW,bm,x8,go_sem,↓reduceIte,aez,aeB,aeA,aeC,hv,e1,hc,Bool.not_false,Bool.not_true]
    rfl
   | true =>
    rw [hav] at hc
    rw [if_pos rfl]
    obtain ⟨ka,a0,a8,al⟩:=eJ oa va
    have hlo:=ahU ox hl ka.t (by omega) (o2:=.bx [I a.vars,.sl 4 (ax a.terms)]) (fun _=>rfl)
    simp only [ad2,aeW,bm,x8,go_sem,↓reduceIte,aez,aeB,aeA,aeC,hv,e1,hc,Bool.not_true]
    generalize hX:aI 0 [4,6] _=X
    have hO:=hlo _ _ _ hX rfl rfl rfl rfl rfl rfl rfl rfl rfl
    generalize aeU xs a.terms fp=r at hO ⊢
    obtain ⟨r1,r2⟩:=r
    rcases hO with ⟨h0,hh,c6,rfl,q4,q6,hd⟩ | ⟨h0,hh,rfl,q4⟩
    ·have h0':r2=0:=h0
     subst h0'
     rcases hd with rfl | ⟨rfl,hr⟩
     ·simp only [rV,aF,aW,go_sem,↓reduceIte,aez,aeB,aeA,aeC,q4,q6]
     ·have hr':r1=fp:=hr
      subst hr'
      simp only [go_sem,↓reduceIte,aez,aeB,aeA,aeC,q4,q6]
      rfl
    ·cases h0
     simp only [go_sem,↓reduceIte,aez,aeB,aeA,aeC,q4]
     rfl
  ·have e1:((xs.length:Int)=a.vars)=False:=eq_false hl
   rw [Bool.true_and,decide_eq_false hl,Bool.false_and,if_neg Bool.false_ne_true]
   simp only [ad2,aeW,bm,x8,go_sem,↓reduceIte,aez,aeB,aeA,aeC,hv,e1]
   rfl
end Go.Ab
namespace Go.Ab
open Go Go.IntWalk
theorem afP {x:Rd}:∀ {n:Nat} {c d:Rd},ad8 x n c=some d→zI d*KK ^ n=zI c*zI x ^ n
 | 0,c,d,h=>by
  cases h
  rw [Int.pow_zero,Int.pow_zero]
 | n+1,c,d,h=>by
  unfold ad8 at h
  split at h
  ·rename_i h0
   have ih:=afP h
   have hk:=CD h0
   rw [Int.pow_succ,← Int.mul_assoc,ih,Int.mul_right_comm,hk,Int.pow_succ,Int.mul_assoc,Int.mul_comm (zI x)]
  ·cases h
def fx:List Int→List Rd→Int
 | e::es,x::xs=>zI x ^ e.toNat*fx es xs
 | _,_=>1
def dg:List Int→List Rd→Nat
 | e::es,_::xs=>e.toNat+dg es xs
 | _,_=>0
theorem afV:∀ {es:List Int} {xs:List Rd} {c d:Rd},ad9 es xs c=some d→zI d*KK ^ dg es xs=zI c*fx es xs
 | e::es,x::xs,c,d,h=>by
  unfold ad9 at h
  rw [Option.bind_eq_some_iff] at h
  obtain ⟨y,h1,h2⟩:=h
  have k1:=afP h1
  have k2:=afV h2
  show zI d*KK ^ (e.toNat+dg es xs)=zI c*(zI x ^ e.toNat*fx es xs)
  rw [Nat.add_comm,Int.pow_add,← Int.mul_assoc,k2,Int.mul_right_comm,k1,Int.mul_assoc]
 | [],xs,c,d,h=>by
  cases h
  show zI c*KK ^ 0=zI c*1
  rw [Int.pow_zero]
 | _::_,[],c,d,h=>by
  cases h
  show zI c*KK ^ 0=zI c*1
  rw [Int.pow_zero]
theorem af1:∀ {es:List Int} {xs:List Rd},(∀ e ∈ es,0≤e)→(dg es xs:Int)≤bc es
 | e::es,x::xs,h=>by
  have ih:=af1 (es:=es) (xs:=xs) fun y hy=>h y (by simp [hy])
  have he:=h e (by simp)
  show ((e.toNat+dg es xs:Nat):Int)≤e+bc es
  omega
 | [],xs,h=>by show ((0:Nat):Int)≤0; decide
 | e::es,[],h=>by
  have h2:=(CE (l:=e::es) fun y hy=>h y hy).1
  show ((0:Nat):Int)≤bc (e::es)
  omega
noncomputable def ph (xs:List Rd) (u:List Int):Int:=fx u xs*KK ^ (32 - dg u xs)
theorem VT.dg {v:Int} {t:Rt} (vt:VT v t) (xs:List Rd):dg t.exps xs≤32:=by
 have h1:=af1 (xs:=xs) fun e he=>(vt.b e he).1
 have h2:=vt.d
 omega
theorem agE:∀ {u v:List Int} {xs:List Rd},u.length=v.length→(∀ e ∈ u,0≤e)→(∀ e ∈ v,0≤e)→fx (bI u v) xs=fx u xs*fx v xs∧dg (bI u v) xs=dg u xs+dg v xs
 | a::u,b::v,x::xs,hl,hu,hv=>by
  obtain ⟨h1,h2⟩:=agE (u:=u) (v:=v) (xs:=xs) (by simpa using hl) (fun e he=>hu e (by simp [he])) (fun e he=>hv e (by simp [he]))
  have ha:=hu a (by simp)
  have hb:=hv b (by simp)
  have ht:(a+b).toNat=a.toNat+b.toNat:=by omega
  constructor
  ·show zI x ^ (a+b).toNat*fx (bI u v) xs=zI x ^ a.toNat*fx u xs*(zI x ^ b.toNat*fx v xs)
   rw [h1,ht,Int.pow_add]
   generalize zI x ^ a.toNat=p
   generalize zI x ^ b.toNat=q
   rw [Int.mul_assoc,Int.mul_assoc,Int.mul_left_comm q]
  ·show (a+b).toNat+dg (bI u v) xs=a.toNat+dg u xs+(b.toNat+dg v xs)
   omega
 | [],[],xs,_,_,_=>⟨rfl,rfl⟩
 | a::u,b::v,[],_,_,_=>⟨rfl,rfl⟩
theorem ahL {w:Int} {t q:Rt} (vt:VT w t) (vq:VT w q) (hd:bc t.exps+bc q.exps≤32) (xs:List Rd):ph xs (bI t.exps q.exps)*KK ^ 32=ph xs t.exps*ph xs q.exps:=by
 have nt:=fun e he=>(vt.b e he).1
 have nq:=fun e he=>(vq.b e he).1
 obtain ⟨h1,h2⟩:=agE (xs:=xs) (vt.l2 vq) nt nq
 have d1:=af1 (xs:=xs) nt
 have d2:=af1 (xs:=xs) nq
 unfold ph
 rw [h1,h2]
 generalize fx t.exps xs=p
 generalize fx q.exps xs=r
 have hp:KK ^ (32 - (dg t.exps xs+dg q.exps xs))*KK ^ 32=KK ^ (32 - dg t.exps xs)*KK ^ (32 - dg q.exps xs):=by
  rw [← Int.pow_add,← Int.pow_add]
  congr 1
  omega
 rw [Int.mul_assoc,hp,Int.mul_assoc,Int.mul_assoc,Int.mul_left_comm r]
theorem ahM (n:Nat):KK ^ n ≠ 0:=Int.pow_ne_zero Vw
theorem ago {w:Int} {xs:List Rd}:∀ {l:List Rt} {s:Rd},(∀ t ∈ l,VT w t)→(aeU xs l s).2=0→zI (aeU xs l s).1*KK ^ 32=zI s*KK ^ 32+bw l (ph xs)
 | [],s,_,_=>by
  show zI s*KK ^ 32=zI s*KK ^ 32+0
  omega
 | t::l,s,hv,h=>by
  have vt:=hv t (by simp)
  cases hp:ad9 t.exps xs t.c with
  | none =>
   rw [afy hp] at h
   simp at h
  | some d =>
   rw [afx hp] at h ⊢
   split at h
   ·rename_i h0
    rw [if_pos h0]
    have ih:=ago (fun x hx=>hv x (by simp [hx])) h
    have hd:=vt.dg xs
    have hk:=afV hp
    rw [ih,QJ h0,Int.add_mul,Int.add_assoc]
    congr 1
    show _=zI t.c*ph xs t.exps+bw l (ph xs)
    congr 1
    unfold ph
    rw [← Int.mul_assoc,← hk,Int.mul_assoc,← Int.pow_add]
    congr 2
    omega
   ·simp at h
theorem ad3 {a:Rp} {xs:List Rd} (oa:OkP a) (h:(acB a xs).2=0):Pv a.vars a∧zI (acB a xs).1*KK ^ 32=bw a.terms (ph xs):=by
 unfold acB at h ⊢
 split at h
 ·rename_i he
  rw [if_pos he]
  have va:vp a=true:=by
   unfold agZ at he
   rw [Bool.and_eq_true] at he
   exact he.1
  refine ⟨⟨rfl,va,oa⟩,?_⟩
  rw [ago (eJ oa va).1.t h,rf (d:=fp) rfl,Int.zero_mul,Int.zero_add]
 ·simp at h
theorem afQ {x y:Int} (h:x*KK ^ 32=y*KK ^ 32):x=y:=Int.eq_of_mul_eq_mul_right (ahM 32) h
theorem ag6 {a b:Rp} {xs:List Rd} (oa:OkP a) (ob:OkP b) (h1:(acB a xs).2=0) (h2:(acB b xs).2=0) (h3:(kn a b).2=0) (h4:(acB (kn a b).1 xs).2=0):zI (acB (kn a b).1 xs).1=zI (acB a xs).1+zI (acB b xs).1:=by
 obtain ⟨_,_,k,f⟩:=CF oa ob h3
 refine afQ ?_
 rw [(ad3 k.o h4).2,f,Int.add_mul,(ad3 oa h1).2,(ad3 ob h2).2]
theorem ag7 {a b:Rp} {xs:List Rd} (oa:OkP a) (ob:OkP b) (h1:(acB a xs).2=0) (h2:(acB b xs).2=0) (h3:(aeS a b).2=0) (h4:(acB (aeS a b).1 xs).2=0):zI (acB (aeS a b).1 xs).1=zI (acB a xs).1 - zI (acB b xs).1:=by
 obtain ⟨_,_,k,f⟩:=ahq oa ob h3
 refine afQ ?_
 rw [(ad3 k.o h4).2,f,Int.sub_mul,(ad3 oa h1).2,(ad3 ob h2).2]
theorem ag8 {a b:Rp} {xs:List Rd} (oa:OkP a) (ob:OkP b) (h1:(acB a xs).2=0) (h2:(acB b xs).2=0) (h3:(iR a b).2=0) (h4:(acB (iR a b).1 xs).2=0):zI (acB (iR a b).1 xs).1*KK=zI (acB a xs).1*zI (acB b xs).1:=by
 obtain ⟨pa,pb,k,f⟩:=CG oa ob h3
 have hfit:∀ s ∈ a.terms,∀ t ∈ b.terms,bc s.exps+bc t.exps≤32:=by
  unfold iR at h3
  split at h3
  ·split at h3
   ·simp at h3
   ·rename_i hd
    exact Af oa ob pa.p pb.p hd
  ·simp at h3
 have la:=pa.cl.t
 have lb:=pb.cl.t
 refine afQ (afQ ?_)
 have e1:=f (ph xs)
 rw [← (ad3 k.o h4).2] at e1
 have e2:(bw a.terms fun u=>bw b.terms fun v=>ph xs (bI u v))*KK ^ 32=bw a.terms (ph xs)*bw b.terms (ph xs):=by
  rw [Int.mul_comm,← xZ,Int.mul_comm (bw a.terms (ph xs)),← xZ]
  refine xq fun t ht=>?_
  rw [← xZ,Int.mul_comm,← xZ]
  refine xq fun q hq=>?_
  have:=ahL (la t ht) (lb q hq) (hfit t ht q hq) xs
  rw [← this,Int.mul_comm]
 have e3:=(ad3 oa h1).2
 have e4:=(ad3 ob h2).2
 rw [← e3,← e4] at e2
 rw [← e1] at e2
 generalize KK ^ 32=P at *
 rw [Int.mul_right_comm _ KK,e2,Int.mul_assoc,Int.mul_assoc,Int.mul_left_comm P,Int.mul_assoc]
theorem agp {d:Rd} {f:List Int→Int}:∀ {ts r:List Rt},aeR d ts=some r→bw r f*KK=zI d*bw ts f
 | [],r,h=>by
  cases h
  show 0*KK=zI d*0
  rw [Int.zero_mul,Int.mul_zero]
 | t::ts,r,h=>by
  unfold aeR at h
  split at h
  ·rename_i h0
   rw [Option.map_eq_some_iff] at h
   obtain ⟨r2,h2,rfl⟩:=h
   have ih:=agp (f:=f) h2
   have hk:=CD h0
   show (zI (eC t.c d).1*f t.exps+bw r2 f)*KK=zI d*(zI t.c*f t.exps+bw ts f)
   rw [Int.add_mul,ih,Int.mul_add,Int.mul_right_comm,hk,Int.mul_comm (zI t.c),Int.mul_assoc]
  ·cases h
theorem agM {a:Rp} {d:Rd} {xs:List Rd} (oa:OkP a) (od:Ok0 d) (h1:(acB a xs).2=0) (h3:(ad0 a d).2=0) (h4:(acB (ad0 a d).1 xs).2=0):zI (acB (ad0 a d).1 xs).1*KK=zI (acB a xs).1*zI d:=by
 have e3:=(ad3 oa h1).2
 have hs:OkP (ad0 a d).1∧∀ f,bw (ad0 a d).1.terms f*KK=zI d*bw a.terms f:=by
  unfold ad0 at h3 ⊢
  split at h3
  ·rename_i hv
   rw [if_pos hv]
   split at h3
   ·rename_i nd
    rw [if_pos nd]
    refine ⟨⟨fun t ht=>by cases ht⟩,fun f=>?_⟩
    rw [rf (by exact nd),Int.zero_mul]
    show 0*KK=0
    rw [Int.zero_mul]
   ·rename_i nd
    rw [if_neg nd]
    cases hr:aeR d a.terms with
    | none=>rw [hr] at h3; simp at h3
    | some r =>
     exact ⟨By (afA od hv.2 nd (eJ oa hv.1).1 hr).1,fun f=>agp hr⟩
  ·simp at h3
 have e4:=(ad3 hs.1 h4).2
 refine afQ ?_
 rw [Int.mul_right_comm,e4,hs.2,← e3,Int.mul_comm,Int.mul_right_comm]
end Go.Ab
namespace Go.Ab
open Go Go.IntWalk
set_option maxRecDepth 4000
set_option maxHeartbeats 4000000
def KR (blk:Option (Ex × St)) (id:Nat) (S:af) (v v':Int) (l:List Rt) (e:Int):Option (List Rt)→Prop
 | some r=>∃ hh c' l' e',blk=some (.normal,⟨S,hh⟩)∧hh 4=.bx [I 0,.emp]∧hh id=t3 v' c' e'∧(∀ a,100≤a→a ≠ id→hh a=.dead)∧ColE v l r e c' l' e'
 | none=>∃ hh,blk=some (.ret,⟨upd (upd (fun _=>.any) 5 (I 9)) 4 (.ref 4 none 0 0 0),hh⟩)∧hh 4=.bx [I 0,.emp]
theorem ColE.nil {v:Int} {l:List Rt} {c:AV} {e:Int} (hc:nS c l) (he:e=0∨e=9):ColE v l [] e c l e:=by
 refine ⟨hc,?_⟩
 rcases he with rfl | rfl
 ·exact .inl ⟨rfl,rfl,rfl⟩
 ·exact .inr ⟨rfl,fun h=>by omega⟩
theorem ag9 {v v':Int} {d:Rd} (od:Ok0 d) (vdd:vd d=true) (nd:d.m.length ≠ 0) {A:List Rt} (hA:∀ t ∈ A,VT v t) (hn:A.length≤100000) {o2:Ob} (c2:∀ ids,aB ids o2=true) :
  ∀ (k i:Nat),i+k=A.length→∀ (c:AV) (l:List Rt) (e:Int),nS c l→(e=0∨e=9)→(e=0→Cl v l∧l.length+k≤1000000)→∀ (s:af) (h:aa),s 3=.ref 3 none 0 0 0→s 4=.ref 4 none 0 0 0→s 6=.ref 2176 none 0 0 0→s 24=.sl 4 (ax A)→s 25=I A.length→s 26=I i→h 2=o2→h 3=.bx [B d.neg,lm d.m,I d.e]→h 4=.bx [I 0,.emp]→h 2176=t3 v' c e →
  KR (aI 0 [4,6] (aU (az R (ab false) adU) [3,4,6,24,25,26] [2,3,4,2176] s h)) 2176 (upd (upd (fun _=>.any) 6 (.ref 2176 none 0 0 0)) 4 (.ref 4 none 0 0 0)) v v' l e (aeR d (A.drop i)):=by
 intro k
 induction k with
 | zero =>
  intro i hi c l e hc he hC s h g3 g4 g6 g24 g25 g26 k2 k3 k4 k2176
  have e1:((i:Int) < (A.length:Int))=False:=ff (by omega)
  have ho:=(ko (v:=v') (e:=e) hc).cl [2,3,4,2176]
  have ho2:=c2 [2,3,4,2176]
  rw [List.drop_eq_nil_of_le (by omega),aA]
  refine ⟨?hh0,c,l,e,?_,?_,?_,?_,.nil hc he⟩
  rotate_left
  ·simp only [adU,go_sem,↓reduceIte,aez,aeD,g3,g4,g6,g24,g25,g26,k2,k3,k4,k2176,ho,ho2,e1]
   rfl
  ·rfl
  ·rfl
  ·intro a a1 a2
   simp only [jg,a2,if_false]
   rw [if_neg (by omega),if_neg (by omega),if_neg (by omega)]
 | succ k ih =>
  intro i hi c l e hc he hC s h g3 g4 g6 g24 g25 g26 k2 k3 k4 k2176
  have hlt:i < A.length:=by omega
  have e1:((i:Int) < (A.length:Int))=True:=tt (by omega)
  have e2:bH (ax A) (i:Int)=some (.ipt (bv A[i])):=jx rfl (List.getElem?_eq_getElem hlt)
  have e5:IntKind.i64.wrap ((i:Int)+1)=((i+1:Nat):Int):=wi (by omega) (by omega)
  have e6:((d.m.length:Int)=0)=False:=ff (by omega)
  have ho1:=(ko (v:=v') (e:=e) hc).cl [2,3,4,2176]
  have ho2:=c2 [2,3,4,2176]
  have vt:=hA _ (List.getElem_mem hlt)
  have hmul:=IZ vt.c od
  have hfit:=fun h0=>agC vt od vdd nd h0
  rw [List.drop_eq_getElem_cons hlt]
  have ih':=ih (i+1) (by omega)
  have hrow:∀ q ts,aeR d (q::ts)=if (eC q.c d).2=0 then (aeR d ts).map (⟨q.exps,(eC q.c d).1⟩::·) else none:=fun q ts=>rfl
  rw [hrow]
  generalize A[i]=t at e2 vt hmul hfit ⊢
  rw [aA]
  generalize aU _ _ _=L at ih' ⊢
  simp only [bv] at e2
  generalize eC t.c d=m at hmul hfit ⊢
  obtain ⟨m,em⟩:=m
  simp only [rV,aF,aW] at hmul
  by_cases hm:em=0
  ·subst hm
   have vx:=hfit rfl
   rw [if_pos rfl]
   obtain ⟨c1,l1,e1',s1,s2,s3,s4,s5⟩:=ColE.stepN (t:=⟨t.exps,m⟩) hc he k (fun h=>by have:=hC h; exact ⟨this.1,by omega⟩) vx (v':=v')
   have ih2:=ih' c1 l1 e1' s2 s3 s4
   have hcall:=fun (h:aa) (hh:h 2176=t3 v' c e) (d:Nat)=>nU (ed false) rfl (xv (d:=d) hh hc s2 s1)
   simp only [aF,aW] at hcall
   have hpush:∀ (X:Option (Ex × St)) (S:af),KR X 2176 S v v' l1 e1' (aeR d (A.drop (i+1)))→KR X 2176 S v v' l e ((aeR d (A.drop (i+1))).map (⟨t.exps,m⟩::·)):=fun X S h=>by
    cases hr:aeR d (A.drop (i+1)) with
    | none=>rw [hr] at h; exact h
    | some r =>
     rw [hr] at h
     obtain ⟨hh,c',l',e',q1,q2,q3,q4,q5⟩:=h
     exact ⟨hh,c',l',e',q1,q2,q3,q4,s5 _ _ _ _ q5⟩
   simp only [adU,go_sem,↓reduceIte,aez,aeB,aeA,aeC,aeD,g3,g4,g6,g24,g25,g26,k2,k3,k4,k2176,ho1,ho2,e1,e2,e6,hmul]
   rw [hcall _ rfl]
   simp only [go_sem,↓reduceIte,aez,aeD,e5]
   refine hpush _ _ (ih2 _ _ ?_ ?_ ?_ ?_ ?_ ?_ ?_ ?_ ?_ ?_)
   all_goals first | rfl | assumption
  ·have f1:(em=0)=False:=ff hm
   rw [if_neg hm]
   refine ⟨?hh1,?_,?_⟩
   rotate_left
   ·simp only [adU,go_sem,↓reduceIte,aez,aeB,aeA,aeC,aeD,g3,g4,g6,g24,g25,g26,k2,k3,k4,k2176,ho1,ho2,e1,e2,e6,hmul,f1]
    rfl
   ·rfl
def agq (d:Rd) (ts:List Rt):Option (List Rt):=if d.m.length=0 then some [] else aeR d ts
theorem ahV {v v':Int} {d:Rd} (od:Ok0 d) (vdd:vd d=true) {A:List Rt} (hA:∀ t ∈ A,VT v t) (hn:A.length≤100000) {o2:Ob} (c2:∀ ids,aB ids o2=true) (s:af) (h:aa) (X:Option (Ex × St)) (hX:aI 0 [4,6] (aU (az R (ab false) adU) [3,4,6,24,25,26] [2,3,4,2176] s h)=X)
  (g3:s 3=.ref 3 none 0 0 0) (g4:s 4=.ref 4 none 0 0 0) (g6:s 6=.ref 2176 none 0 0 0) (g24:s 24=.sl 4 (ax A)) (g25:s 25=I A.length) (g26:s 26=I 0) (k2:h 2=o2) (k3:h 3=.bx [B d.neg,lm d.m,I d.e]) (k4:h 4=.bx [I 0,.emp]) (k2176:h 2176=.bx [I v',.emp,I 0]) :
  KR X 2176 (upd (upd (fun _=>.any) 6 (.ref 2176 none 0 0 0)) 4 (.ref 4 none 0 0 0)) v v' [] 0 (agq d A):=by
 subst hX
 unfold agq
 have hc:nS .emp []:=.inr ⟨rfl,rfl⟩
 by_cases nd:d.m.length=0
 ·rw [if_pos nd]
  have ho2:=c2 [2,3,4,2176]
  have e6:((d.m.length:Int)=0)=True:=tt (by omega)
  rw [aA]
  by_cases hA0:A.length=0
  ·have e1:((0:Int) < (A.length:Int))=False:=ff (by omega)
   refine ⟨?hh0,.emp,[],0,?_,?_,?_,?_,.nil hc (.inl rfl)⟩
   rotate_left
   ·simp only [adU,go_sem,↓reduceIte,aez,aeD,g3,g4,g6,g24,g25,g26,k2,k3,k4,k2176,ho2,e1]
    rfl
   ·rfl
   ·rfl
   ·intro a a1 a2
    simp only [jg,a2,if_false]
    rw [if_neg (by omega),if_neg (by omega),if_neg (by omega)]
  ·have e1:((0:Int) < (A.length:Int))=True:=tt (by omega)
   have e2:bH (ax A) 0=some (.ipt (bv A[0])):=jx (n:=0) rfl (List.getElem?_eq_getElem (by omega))
   generalize A[0]=t at e2
   simp only [bv] at e2
   refine ⟨?hh1,.emp,[],0,?_,?_,?_,?_,.nil hc (.inl rfl)⟩
   rotate_left
   ·simp only [adU,go_sem,↓reduceIte,aez,aeB,aeA,aeC,aeD,g3,g4,g6,g24,g25,g26,k2,k3,k4,k2176,ho2,e1,e2,e6]
    rfl
   ·rfl
   ·rfl
   ·intro a a1 a2
    simp only [jg,a2,if_false]
    repeat rw [if_neg (by omega)]
 ·rw [if_neg nd]
  exact ag9 od vdd nd hA hn c2 A.length 0 (Nat.zero_add _) .emp [] 0 hc (.inl rfl) (fun _=>⟨Cl.nil _,by show 0+_≤_; omega⟩) s h g3 g4 g6 g24 g25 g26 k2 k3 k4 k2176
theorem agN {a:Rp} {d:Rd} (oa:OkP a) (od:Ok0 d) (va:vp a=true) (vdd:vd d=true):ad0 a d=ie a.vars ((agq d a.terms).bind (ej [])):=by
 unfold ad0 agq
 rw [if_pos ⟨va,vdd⟩]
 by_cases nd:d.m.length=0
 ·rw [if_pos nd,if_pos nd]
  rfl
 ·rw [if_neg nd,if_neg nd]
  exact agT oa od va vdd nd
theorem agV {a:Rp} {d:Rd} (oa:OkP a) (od:Ok0 d):R F.poly_Scale [bm a,aF d] []=some (pV (ad0 a d),[]):=by
 refine aZ aga af9 (afJ false) rfl ?_
 have v1:=nR oa
 have v2:=kl od
 simp only [bm,aF,aW] at v1 v2
 have hne:¬ (vp a=true∧vd d=true)→ad0 a d=(p0,1):=fun h=>by
  unfold ad0
  rw [if_neg h]
 cases va:vp a with
 | false =>
  rw [va] at v1
  rw [hne (by rw [va]; simp)]
  simp only [ad7,ae4,bm,aF,aW,go_sem,↓reduceIte,aez,aeB,aeA,aeC,v1]
  rfl
 | true =>
  rw [va] at v1
  cases vdd:vd d with
  | false =>
   rw [vdd] at v2
   rw [hne (by rw [vdd]; simp)]
   simp only [ad7,ae4,bm,aF,aW,go_sem,↓reduceIte,aez,aeB,aeA,aeC,v1,v2]
   rfl
  | true =>
   rw [vdd] at v2
   obtain ⟨ka,a0,a8,al⟩:=eJ oa va
   rw [agN oa od va vdd]
   have hemp:=Ai (v:=a.vars)
   have hl:=ahV (v:=a.vars) (v':=a.vars) od vdd ka.t (by omega) (o2:=.bx [I a.vars,.sl 4 (ax a.terms)]) (fun _=>rfl)
   simp only [ad7,ae4,bm,aF,aW,go_sem,↓reduceIte,aez,aeB,aeA,aeC,v1,v2,hemp,qp]
   generalize hX:aI 0 _ _=X
   have hM:=hl _ _ _ hX rfl rfl rfl rfl rfl rfl rfl rfl rfl rfl
   cases hr:agq d a.terms with
   | none =>
    rw [hr] at hM
    obtain ⟨hh,rfl,q4⟩:=hM
    simp only [Option.bind_none,ie,pV,p0,bm,go_sem,↓reduceIte,aez,aeB,aeA,aeC,q4]
    rfl
   | some r =>
    rw [hr] at hM
    obtain ⟨hh,c',l',e',rfl,q4,qc,qd,qe⟩:=hM
    obtain ⟨o,hdn⟩:=xw (d:=51) qc qe.c (by simp [cr,qd,cz])
    have hd':=nU (dR false) rfl hdn
    rw [qe.fin] at hd'
    rw [Option.bind_some]
    generalize ie a.vars (ej [] r)=z at hd' ⊢
    obtain ⟨z1,z2⟩:=z
    simp only [pV,bm] at hd'
    simp only [pV,bm,go_sem,↓reduceIte,aez,aeB,aeA,aeC,aeD,q4,hd']
end Go.Ab
namespace Go.Ab
open Go Go.IntWalk
set_option maxRecDepth 4000
set_option maxHeartbeats 4000000
end Go.Ab
namespace Go.Ab
open Go Go.IntWalk
set_option maxRecDepth 4000
set_option maxHeartbeats 4000000
end Go.Ab
namespace Go.Ab
open Go Go.IntWalk
set_option maxRecDepth 4000
set_option maxHeartbeats 4000000
end Go.Ab
namespace Go.Ab
open Go Go.IntWalk
set_option maxRecDepth 4000
set_option maxHeartbeats 2000000
theorem aha {a b:List Nat} (hl:a.length=b.length) (h2:a.length≤100000):∀ (k i:Nat),i+k=a.length→∀ (s:af) (h:aa),s 0=.sl 1 (aP a)→s 1=.sl 1 (aP b)→s 12=I a.length→s 13=I i →
  ∃ hh,aI 0 [] (aU (az R (ab false) acC) [0,1,12,13] [] s h)=if ae6 (a.drop i) (b.drop i)=true then some (.normal,⟨fun _=>.any,hh⟩) else some (.ret,⟨upd (fun _=>.any) 4 (B false),hh⟩):=by
 intro k
 induction k with
 | zero =>
  intro i hi s h g0 g1 g12 g13
  have e1:((i:Int) < a.length)=False:=ff (by omega)
  rw [List.drop_eq_nil_of_le (by omega),List.drop_eq_nil_of_le (by omega),aA]
  refine ⟨?hh0,?_⟩
  rotate_left
  ·simp only [acC,ae6,go_sem,↓reduceIte,aez,g0,g1,g12,g13,e1]
   rfl
 | succ k ih =>
  intro i hi s h g0 g1 g12 g13
  have hlt:i < a.length:=by omega
  have hlt2:i < b.length:=by omega
  have e1:((i:Int) < a.length)=True:=tt (by omega)
  have e2:bH (aP a) (i:Int)=some (.ipt [U (a.getD i 0:Nat)]):=df rfl hlt
  have e3:bH (aP b) (i:Int)=some (.ipt [U (b.getD i 0:Nat)]):=df rfl hlt2
  have v1:a.getD i 0=a[i]:=by simp [List.getD,hlt]
  have v2:b.getD i 0=b[i]:=by simp [List.getD,hlt2]
  rw [v1] at e2
  rw [v2] at e3
  have e5:IntKind.i64.wrap ((i:Int)+1)=((i+1:Nat):Int):=wi (by omega) (by omega)
  have ih':=ih (i+1) (by omega)
  rw [List.drop_eq_getElem_cons hlt,List.drop_eq_getElem_cons hlt2,aA]
  generalize a[i]=p at e2 ⊢
  generalize b[i]=q at e3 ⊢
  generalize aU _ _ _=L at ih' ⊢
  unfold ae6
  by_cases hpq:p=q
  ·have e4:((p:Int)=(q:Int))=True:=tt (by omega)
   rw [decide_eq_true hpq,Bool.true_and]
   simp only [acC,go_sem,↓reduceIte,aez,g0,g1,g12,g13,e1,e2,e3,e4,e5]
   exact ih' _ _ rfl rfl rfl rfl
  ·have e4:((p:Int)=(q:Int))=False:=ff (by omega)
   rw [decide_eq_false hpq,Bool.false_and]
   simp only [if_neg Bool.false_ne_true]
   refine ⟨?hh1,?_⟩
   rotate_left
   ·simp only [acC,go_sem,↓reduceIte,aez,g0,g1,g12,g13,e1,e2,e3,e4]
    rfl
theorem ahW {a b:List Nat} (hl:a.length=b.length) (h2:a.length≤100000) (s:af) (h:aa) (X:Option (Ex × St)) (hX:aI 0 [] (aU (az R (ab false) acC) [0,1,12,13] [] s h)=X) (g0:s 0=.sl 1 (aP a)) (g1:s 1=.sl 1 (aP b)) (g12:s 12=I a.length) (g13:s 13=I 0) :
  ∃ hh,X=if ae6 a b=true then some (.normal,⟨fun _=>.any,hh⟩) else some (.ret,⟨upd (fun _=>.any) 4 (B false),hh⟩):=by
 subst hX
 exact aha hl h2 a.length 0 (Nat.zero_add _) s h g0 g1 g12 g13
theorem ahN {a b:List Nat} (h2:a.length≤100000):R F.slices_Equal_uint32_uint32_ [lm a,lm b] []=some (B (ae6 a b),[]):=by
 refine aZ ae8 ae7 (ae0 false) rfl ?_
 by_cases h3:a.length=b.length
 ·have e3:((a.length:Int)=(b.length:Int))=True:=tt (by omega)
  have hl:=ahW (a:=a) (b:=b) h3 h2
  simp only [adL,adX,go_sem,↓reduceIte,aez,e3]
  generalize hX:aI 0 [] _=X
  obtain ⟨hh,rfl⟩:=hl _ _ _ hX rfl rfl rfl rfl
  cases ae6 a b with
  | true=>simp only [go_sem,↓reduceIte]
  | false=>simp only [go_sem,↓reduceIte]
 ·have e3:((a.length:Int)=(b.length:Int))=False:=ff (by omega)
  rw [agl h3]
  simp only [adL,adX,go_sem,↓reduceIte,aez,e3]
theorem ahu {x:Rd} (hx:x.m.length≤100000):R F.l23_number [aF x,aF x] []=some (B true,[]):=by
 refine aZ af4 af3 (afH false) rfl ?_
 have h:=ahN (a:=x.m) (b:=x.m) hx
 rw [agB.2 rfl] at h
 have hb:(false != (x.neg == x.neg))=true:=by rw [beq_self_eq_true]; rfl
 simp only [aeX,afq,aF,aW,go_sem,↓reduceIte,aez,aeB,aeA,h,hb]
def af2 (d:Rd):Bool:=decide (4 < d.m.length)
theorem agW {d:Rd}:R F.l23_long_1 [.agg (aW d)] []=some (B (af2 d),[]):=by
 refine aZ agd agc (afK false) rfl ?_
 unfold af2
 have e:decide ((4:Int) < (d.m.length:Int))=decide (4 < d.m.length):=by rw [decide_eq_decide]; omega
 simp only [aeY,afr,aW,go_sem,↓reduceIte,aez,aeB,aeA,e]
def afz (l:List Rd):Bool:=decide (20 < l.length) || l.any af2
theorem ags {l:List Rd}:R F.l23_long [.sl 3 (Ma l)] []=some (B (afz l),[]):=by
 refine aZ agG agF (afW false) rfl ?_
 unfold afz
 by_cases h:20 < l.length
 ·have e1:(20 < (l.length:Int))=True:=tt (by omega)
  rw [decide_eq_true h,Bool.true_or]
  simp only [aeV,afh,go_sem,↓reduceIte,aez,e1]
 ·have e1:(20 < (l.length:Int))=False:=ff (by omega)
  have hc:=agm (afv false) (afY false) (l:=l) (by omega) (p:=af2) (fun d _=>agW)
  rw [decide_eq_false h,Bool.false_or]
  simp only [aeV,afh,go_sem,↓reduceIte,aez,aeB,aeA,e1,hc]
theorem agt {xs:List Rd}:∀ (l:List Rt) (s:Rd),vd s=true→Ok0 s→vd (aeU xs l s).1=true∧Ok0 (aeU xs l s).1
 | [],s,h1,h2=>⟨h1,h2⟩
 | t::l,s,h1,h2=>by
  cases hp:ad9 t.exps xs t.c with
  | none =>
   rw [afy hp]
   exact He
  | some d =>
   rw [afx hp]
   split
   ·exact agt l _ (QH s d).1 (QH s d).2
   ·exact He
theorem aff (a:Rp) (xs:List Rd):vd (acB a xs).1=true∧Ok0 (acB a xs).1:=by
 unfold acB
 split
 ·exact agt _ _ He.1 He.2
 ·exact He
end Go.Ab
namespace Go.Ab
open Go Go.IntWalk
set_option maxRecDepth 4000
set_option maxHeartbeats 4000000
end Go.Ab
namespace Go.Ab
open Go Go.IntWalk
set_option maxRecDepth 4000
set_option maxHeartbeats 2000000
theorem SK {f:FuncId} {fd:FD} {args:List AV} {o:Ob} {r:AV × List Ob} (hE:au.E f=none) (hC:au.C f=some fd) (hk:au.md.keep f=true) (h1:args.length=fd.np)
  (hz:ajf true fd.rs fd.res 1 (az R (ab true) fd.body (pi args) (upd (fun _=>.dead) 1000 o))=some r):R f args [o]=some r:=by
 refine Gc true hE hC hk h1 (by simp) ?_
 rw [Ho]
 exact hz
theorem MB {f:FuncId} {h:aa} {d id:Nat} {zas as':List AV} {o o':Ob} {res:AV} (hm:(ab false).m f=[]) (hk:(ab false).keep f=true) (hn:aM ((ab false).sh f) (zas++[.ref id none 0 0 0])=as'++[.ref id none 0 0 0]) (hd:zas.all dat=true) (hd':as'.all dat=true)
  (hh:h id=o) (ho:OC o) (ho':OC o') (hb:bf o=true→bf o'=true) (hR:R f (as'++[.ref 1000 none 0 0 0]) [o]=some (res,[o'])) (hr:RT res) (h8:ch res≤8) (hfr:cr h (2000+8*d) (ch res)=true) :
  aj R (ab false) h d zas (.fn f [] [.ref id none 0 0 0])=some (res,upd h id o',[]):=by
 have hin:∀ l:List AV,l.all dat=true→ah h [] (l++[.ref id none 0 0 0])=some (l++[.ref id none 0 0 0],h,[]):=by
  intro l
  induction l with
  | nil=>intro _; rfl
  | cons x l ih =>
   intro h2
   simp only [List.all_cons,Bool.and_eq_true] at h2
   simp only [List.cons_append,ah,List.headD_nil,Mn h2.1,Option.bind_some,List.tail_nil,ih h2.2,List.append_nil]
 have h1:=hin zas hd
 have hp:bp [] ((zas++[AV.ref id none 0 0 0]).flatMap bk)=[id]:=by
  rw [List.flatMap_append,uW fun x hx=>Je (List.all_eq_true.1 hd x hx)]
  rfl
 have hre:bM h 40 [id] 0=[id]:=by
  simp [bM,hh,ho.ids,bp]
 have h3:aV [id] id=1000:=by simp [aV]
 have hall:(as'++[AV.ref id none 0 0 0]).all (aJ [id])=true:=by
  rw [List.all_append,Bool.and_eq_true]
  exact ⟨List.all_eq_true.2 fun x hx=>Mm (List.all_eq_true.1 hd' x hx) _,by simp [aJ,aO]⟩
 have hmap:(as'++[AV.ref id none 0 0 0]).map (cQ (aV [id]))=as'++[.ref 1000 none 0 0 0]:=by
  rw [List.map_append,(List.map_congr_left (g:=fun c=>c) fun x hx=>Jf (List.all_eq_true.1 hd' x hx) _).trans (List.map_id' as')]
  simp [cQ,fZ,h3]
 have hob:([id].map fun a=>cD (aV [id]) (h a))=[o]:=by simp [hh,ho.ren]
 have hids:([id].all fun a=>aB [id] (h a) && !cz (h a))=true:=by simp [hh,ho.cl,ho.nd]
 unfold aj
 rw [if_neg (by simp [jJ,hm])]
 simp only [dq,hm,List.nil_append,h1,Option.bind_some,hp,hre,hn]
 unfold jI
 rw [hall,hids,hmap,hob,hR,Bool.and_self,if_pos rfl,Option.bind_some,hk,hm,CI]
 unfold et
 have hbf:cU h [] [id] [o']=true:=by
  have:=ho'.nd
  cases h5:bf o with
  | false=>simp [cU,hh,h5,this]
  | true=>simp [cU,hh,h5,hb h5,this]
 have hend:mU h [id] [] (res,[o'])=true:=by
  simp [mU,uj,hr.ok,ho'.cl]
 rw [if_pos ⟨rfl,by simp,h8,hfr,hbf,hend⟩]
 simp [cB,dF,hr.mat,hr.ren,ho'.ren]
end Go.Ab
namespace Go.Ab
open Go Go.IntWalk
set_option maxRecDepth 4000
set_option maxHeartbeats 8000000
theorem aib (b:Bool):RT (B b):=⟨fun _=>rfl,fun _ _=>rfl,fun _=>rfl⟩
theorem ahj (l:List Rd):OC (.bx [x8 l]):=⟨fun _=>rfl,rfl,fun _=>rfl,rfl⟩
theorem ahO {p:Rp} {xs:List Rd} {w:Rd} {e f:Int} (op:OkP p) (ox:∀ d ∈ xs,Ok0 d) (h2:xs.length≤100000) (hv:e=0→f=0→(acB p xs).2=0→(acB p xs).1=w) :
  R F.l23_PolyPoints_1 [bm p,I e,aF w,I f,.ref 1000 none 0 0 0] [.bx [x8 xs]]=some (B true,[.bx [x8 xs]]):=by
 refine SK afu aft (ae1 false) rfl ?_
 by_cases he:e=0
 ·subst he
  by_cases hf:f=0
  ·subst hf
   have hv':=hv rfl rfl
   have h1:=afG op ox h2
   obtain ⟨o1,o2⟩:=aff p xs
   generalize acB p xs=r at h1 hv' o1 o2
   obtain ⟨r1,r2⟩:=r
   by_cases hr:r2=0
   ·have hw:r1=w:=hv' hr
    subst hw
    subst hr
    have hn:=ahu (x:=r1) (Nat.le_trans (xi o1 o2.lb) (by decide))
    simp only [rV,bm,x8,aF,aW] at h1 hn
    simp only [adT,adY,bm,x8,aF,aW,go_sem,↓reduceIte,aez,aeB,aeA,aeC,h1,hn]
    exact uX rfl (by rfl) rfl (by rfl) rfl
   ·have e1:(r2=0)=False:=eq_false hr
    simp only [rV,bm,x8,aF,aW] at h1
    simp only [adT,adY,bm,x8,aF,aW,go_sem,↓reduceIte,aez,aeB,aeA,aeC,h1,e1]
    exact uX rfl (by rfl) rfl (by rfl) rfl
  ·have e1:(f=0)=False:=eq_false hf
   simp only [adT,adY,bm,x8,aF,aW,go_sem,↓reduceIte,aez,aeA,e1]
   exact uX rfl (by rfl) rfl (by rfl) rfl
 ·have e1:(e=0)=False:=eq_false he
  simp only [adT,adY,bm,x8,aF,aW,go_sem,↓reduceIte,aez,aeA,e1]
  exact uX rfl (by rfl) rfl (by rfl) rfl
theorem afi {p:Rp} {xs:List Rd} {w:Rd} {e f:Int} (op:OkP p) (ox:∀ d ∈ xs,Ok0 d) (h2:xs.length≤100000) (hv:e=0→f=0→(acB p xs).2=0→(acB p xs).1=w) (h:aa) (d:Nat) (h6:h 6=.bx [.sl 3 (Ma xs)]) (hf:h (2000+8*d)=.dead) :
  aj R (ab false) h d [.agg [I p.vars,.sl 4 (ax p.terms)],I e,.agg [B w.neg,lm w.m,I w.e],I f] (.fn F.l23_PolyPoints_1 [] [.ref 6 none 0 0 0])=some (B true,upd h 6 (.bx [.sl 3 (Ma xs)]),[]) :=
 MB (afa false) (ae1 false) (as':=[bm p,I e,aF w,I f]) (by rw [afp]; simp only [bm,aF,aW,go_sem,List.cons_append,List.nil_append]) rfl rfl h6 (ahj xs) (ahj xs) (fun _=>rfl) (ahO op ox h2 hv) (aib _) (Nat.le_of_ble_eq_true rfl) (by simp [cr,ch,hf,cz])
theorem afj {p:Rp} {xs:List Rd} {w:Rd} (vw:vd w=true) (ow:Ok0 w) (h:zI (acB p xs).1=zI w):(acB p xs).1=w:=by
 obtain ⟨o1,o2⟩:=aff p xs
 exact Mf o2 ow o1 vw h
theorem agO {a:Rp} {d:Rd} (oa:OkP a) (od:Ok0 d):OkP (ad0 a d).1:=by
 unfold ad0
 split
 ·rename_i hv
  split
  ·exact ⟨fun t ht=>by cases ht⟩
  ·rename_i nd
   cases hr:aeR d a.terms with
   | none=>exact afe
   | some r=>exact By (afA od hv.2 nd (eJ oa hv.1).1 hr).1
 ·exact afe
theorem ahv {a b:Rp} {xs:List Rd} {c:Rd} (haw:R F.l23_awake [] []=some (B true,[])) (oa:∀ t ∈ a.terms,Ok0 t.c) (la:a.terms.length < 4611686018427387904) (ob:∀ t ∈ b.terms,Ok0 t.c) (lb:b.terms.length < 4611686018427387904) (ox:∀ d ∈ xs,Ok0 d) (_lx:xs.length < 4611686018427387904) (oc:Ok0 c) :
  R F.l23_PolyPoints [bm a,bm b,x8 xs,aF c] []=some (B true,[]):=by
 refine aZ afC afB (afo false) rfl ?_
 have hg:=OO (l:=[a,b]) (by simp) (fun x hx=>by simp at hx; rcases hx with rfl | rfl; exact la; exact lb)
 simp only [xx,Ji,List.map_cons,List.map_nil] at hg
 cases h:[a,b].any mT with
 | true =>
  rw [h] at hg
  simp only [acD,adM,bm,x8,aF,aW,go_sem,↓reduceIte,aez,aeB,aeA,aeC,aeE,haw,hg]
  done
 | false =>
  rw [h] at hg
  simp only [List.any_cons,List.any_nil,Bool.or_false,Bool.or_eq_false_iff] at h
  have ka:=HC oa h.1
  have kb:=HC ob h.2
  by_cases ha:12 < a.terms.length
  ·have e1:(12 < (a.terms.length:Int))=True:=tt (by omega)
   simp only [acD,adM,bm,x8,aF,aW,go_sem,↓reduceIte,aez,aeB,aeA,aeC,aeE,haw,hg,e1]
   done
  have e1:(12 < (a.terms.length:Int))=False:=ff (by omega)
  by_cases hb:12 < b.terms.length
  ·have e2:(12 < (b.terms.length:Int))=True:=tt (by omega)
   simp only [acD,adM,bm,x8,aF,aW,go_sem,↓reduceIte,aez,aeB,aeA,aeC,aeE,haw,hg,e1,e2]
   done
  have e2:(12 < (b.terms.length:Int))=False:=ff (by omega)
  have hlo:=ags (l:=xs)
  cases h3:afz xs with
  | true =>
   rw [h3] at hlo
   simp only [acD,adM,bm,x8,aF,aW,go_sem,↓reduceIte,aez,aeB,aeA,aeC,aeE,haw,hg,e1,e2,hlo]
   done
  | false =>
  rw [h3] at hlo
  have hlx:xs.length≤100000:=by
   unfold afz at h3
   rw [Bool.or_eq_false_iff,decide_eq_false_iff_not] at h3
   omega
  have hlc:=ags (l:=[c])
  simp only [Ma,List.map_cons,List.map_nil,aW] at hlc
  cases h4:afz [c] with
  | true =>
   rw [h4] at hlc
   simp only [acD,adM,bm,x8,aF,aW,go_sem,↓reduceIte,aez,aeB,aeA,aeC,aeE,haw,hg,e1,e2,hlo,hlc]
   done
  | false =>
  rw [h4] at hlc
  have q1:=afG ka ox hlx
  have q2:=afG kb ox hlx
  obtain ⟨v1,o1⟩:=aff a xs
  obtain ⟨v2,o2⟩:=aff b xs
  have p1:=CJ ka kb
  have p2:=aht ka kb
  have p3:=CK ka kb
  have p4:=agV ka oc
  have w1:=QL o1 o2
  have w2:=ahn o1 o2
  have w3:=IZ o1 o2
  have w4:=IZ o1 oc
  have k1:=Ag ka kb
  have k2:=ag1 ka kb
  have k3:=Ah ka kb
  have k4:=agO ka oc
  by_cases h5:(acB a xs).2 ≠ 0
  ·generalize acB a xs=u at *
   obtain ⟨u1,u2⟩:=u
   have f1:(u2=0)=False:=eq_false h5
   simp only [rV,bm,x8,aF,aW] at q1 q2
   simp only [acD,adM,bm,x8,aF,aW,go_sem,↓reduceIte,aez,aeB,aeA,aeC,aeE,haw,hg,e1,e2,hlo,hlc,q1,q2,f1]
   done
  replace h5:=Classical.not_not.1 h5
  by_cases h6:(acB b xs).2 ≠ 0
  ·generalize acB a xs=u at *
   generalize acB b xs=v at *
   obtain ⟨u1,u2⟩:=u
   obtain ⟨y1,y2⟩:=v
   have f1:(u2=0)=True:=eq_true h5
   have f2:(y2=0)=False:=eq_false h6
   simp only [rV,bm,x8,aF,aW] at q1 q2
   simp only [acD,adM,bm,x8,aF,aW,go_sem,↓reduceIte,aez,aeB,aeA,aeC,aeE,haw,hg,e1,e2,hlo,hlc,q1,q2,f1,f2]
   done
  replace h6:=Classical.not_not.1 h6
  have c1:=afi (p:=(kn a b).1) (xs:=xs) (w:=(iQ (acB a xs).1 (acB b xs).1).1) (e:=(kn a b).2) (f:=(iQ (acB a xs).1 (acB b xs).1).2) k1 ox hlx (fun g1 g2 g3=>afj (QH _ _).1 (QH _ _).2 (by rw [ag6 ka kb h5 h6 g1 g3,QJ g2]))
  have c2:=afi (p:=(aeS a b).1) (xs:=xs) (w:=(ae5 (acB a xs).1 (acB b xs).1).1) (e:=(aeS a b).2) (f:=(ae5 (acB a xs).1 (acB b xs).1).2) k2 ox hlx (fun g1 g2 g3=>afj (agz _ _).1 (agz _ _).2 (by rw [ag7 ka kb h5 h6 g1 g3,aho v2 g2]))
  have c3:=afi (p:=(iR a b).1) (xs:=xs) (w:=(eC (acB a xs).1 (acB b xs).1).1) (e:=(iR a b).2) (f:=(eC (acB a xs).1 (acB b xs).1).2) k3 ox hlx (fun g1 g2 g3=>afj (afb _ _).1 (afb _ _).2 (Hw (by rw [ag8 ka kb h5 h6 g1 g3,CD g2])))
  have c4:=afi (p:=(ad0 a c).1) (xs:=xs) (w:=(eC (acB a xs).1 c).1) (e:=(ad0 a c).2) (f:=(eC (acB a xs).1 c).2) k4 ox hlx (fun g1 g2 g3=>afj (afb _ _).1 (afb _ _).2 (Hw (by rw [agM ka oc h5 g1 g3,CD g2])))
  by_cases h7:a.vars ≠ b.vars
  ·generalize acB a xs=u at *
   generalize acB b xs=v at *
   obtain ⟨u1,u2⟩:=u
   obtain ⟨y1,y2⟩:=v
   have f1:(u2=0)=True:=eq_true h5
   have f2:(y2=0)=True:=eq_true h6
   have f3:(a.vars=b.vars)=False:=eq_false h7
   simp only [rV,bm,x8,aF,aW] at q1 q2
   simp only [acD,adM,bm,x8,aF,aW,go_sem,↓reduceIte,aez,aeB,aeA,aeC,aeE,haw,hg,e1,e2,hlo,hlc,q1,q2,f1,f2,f3]
   done
  generalize acB a xs=u at *
  generalize acB b xs=v at *
  obtain ⟨u1,u2⟩:=u
  obtain ⟨y1,y2⟩:=v
  have f1:(u2=0)=True:=eq_true h5
  have f2:(y2=0)=True:=eq_true h6
  have f3:(a.vars=b.vars)=True:=eq_true (Classical.not_not.1 h7)
  simp only at w1 w2 w3 w4 c1 c2 c3 c4
  generalize kn a b=r1 at *
  generalize aeS a b=r2 at *
  generalize iR a b=r3 at *
  generalize ad0 a c=r4 at *
  generalize iQ u1 y1=x1 at *
  generalize ae5 u1 y1=x2 at *
  generalize eC u1 y1=x3 at *
  generalize eC u1 c=x4 at *
  simp only [pV,rV,bm,x8,aF,aW] at q1 q2 p1 p2 p3 p4 w1 w2 w3 w4
  simp only [acD,adM,bm,x8,aF,aW,go_sem,↓reduceIte,aez,aeB,aeA,aeC,aeE,haw,hg,e1,e2,hlo,hlc,q1,q2,f1,f2,f3,p1,p2,p3,p4,w1,w2,w3,w4,c1,c2,c3,c4]
end Go.Ab
namespace Go.Ab
open Go Go.IntWalk
set_option maxRecDepth 4000
set_option maxHeartbeats 1000000
def sW:Env:=⟨fun f=>ER.lookup f,au.C,au.md⟩
noncomputable def R0:cT:=cR sW
theorem tV {f:FuncId} {fd:FD} {args:List AV} {hs:List Ob} {r:AV × List Ob} (hE:sW.E f=none) (hC:sW.C f=some fd) (hk:sW.md.keep f=false) (h1:args.length=fd.np) (h2:hs.length≤1000)
  (hz:ajf false fd.rs fd.res hs.length (az R0 (ab false) fd.body (pi args) (ae hs))=some r):R0 f args hs=some r:=by
 refine wL hE hC ?_
 unfold FW
 rw [if_pos ⟨h1,h2⟩,hk]
 exact hz
theorem oR (o:Ob):ae [o]=upd (fun _=>.dead) 1000 o:=by
 funext i
 unfold ae upd
 by_cases h:i=1000
 ·subst h
  rfl
 ·rw [if_neg h]
  split
  ·rw [List.getElem?_eq_none (by simp; omega)]
   rfl
  ·rfl
theorem OW {r:List AV} {rs:List (List AV)} (h:(rs.length+1)*8≤140737488355328):R0 F.slices_Clone_int_int_ [.sl 1 (r::rs)] []=some (.osl 1 (r::rs),[]):=by
 refine tV (fd:=dY) (by kernel_rfl) (by kernel_rfl) (by kernel_rfl) rfl (by decide) ?_
 have e1:((rs.length+1)*8≤140737488355328)=True:=eq_true h
 have e2:xC false (.sl 1 (r::rs))=some (B false):=rfl
 simp only [dY,mu,go_sem,↓reduceIte,aez,aeC,aeE,e1,e2,List.length_cons,List.length_nil,Nat.zero_add,Nat.zero_le,Nat.le_refl,true_and,true_or,List.nil_append]
theorem OX:dK 4 .emp (some (I 0)) none none=some .emp:=rfl
theorem QZ {r:List AV}:R0 F.slices_Insert_api_Term_api_Term_ [.emp,I 0,.sl 4 [r]] []=some (.osl 4 [r],[]):=by
 refine tV (fd:=aH) (by kernel_rfl) (by kernel_rfl) (by kernel_rfl) rfl (by decide) ?_
 have e1:((1:Int)=0)=False:=by decide
 simp only [aH,bE,go_sem,↓reduceIte,aez,aeB,aeA,aeC,aeE,OX,List.length_cons,List.length_nil,Int.natCast_one,e1,Nat.zero_add]
theorem pL {n i:Nat} (h:i≤n):ia n (some (I i)) none none=some (i,n):=by
 simp only [ia,gJ,Option.bind_some]
 rw [if_pos ⟨by omega,by omega⟩]
 rfl
theorem MD {id k l0 n i:Nat} (h:i≤n):dK k (.rsl id none k l0 n) (some (I i)) none none=some (.rsl id none k (l0+i) (n - i)):=by
 simp only [dK,if_true,pL h,Option.map_some,Option.isNone_none]
theorem CN {h:aa} {j k n:Nat} {rows:List (List AV)} (hj:aG j=false) (hh:h j=.ar k rows) (hn:n=rows.length) (hc:aB [1000] (h 1000)=true):n9 [[]] 1 h [.rsl j none k 0 n]=some (.osl k rows,[h 1000]):=by
 subst hn
 have hp:bU 1=[1000]:=rfl
 unfold n9
 rw [if_pos]
 ·simp [lX,lA,ge,hj,hh,qq,kX,aM,nrmV,nrmL,hp]
 ·simp [hp,hc,fw,bk,cP,hj]
theorem ME {r:List AV} {rows:List (List AV)} {n:Nat} (hn:n=rows.length) (hb:(n+1)*64≤140737488355328):R0 F.slices_Insert_api_Term_api_Term_ [.rsl 1000 none 4 0 n,I n,.sl 4 [r]] [.ar 4 rows]=some (.osl 4 (rows++[r]),[.dead]):=by
 refine tV (fd:=aH) (by kernel_rfl) (by kernel_rfl) (by kernel_rfl) rfl (by simp) ?_
 subst hn
 rw [oR]
 have e1:((1:Int)=0)=False:=by decide
 have e2:=MD (id:=1000) (k:=4) (l0:=0) (Nat.le_refl rows.length)
 have e3:((rows.length+1)*64≤140737488355328)=True:=eq_true hb
 have e4:(rows.length+1≤rows.length)=False:=eq_false (by omega)
 have e5:∀ h,yL h 25 4 64 1000 4 0 rows.length [r] 4 rows=bR (upd h 1000 .dead) 25 4 (rows++[r]) (rows.length+1) [(1000,false)]:=fun h=>by
  simp only [yL,List.length_singleton]
  rw [if_neg (by omega),if_pos ⟨trivial,trivial,trivial,trivial,hb⟩]
 simp only [aH,bE,go_sem,↓reduceIte,aez,aeB,aeA,aeC,aeE,List.length_cons,List.length_nil,Int.natCast_one,e1,e2,e3,e4,e5,Nat.zero_add,Nat.add_zero,Nat.sub_self,or_self,Nat.le_refl,List.length_append]
 exact CN rfl rfl (by simp) rfl
theorem SN {f:FuncId} {g:List AV→List Ob→Option (AV × List Ob)} {args:List AV} {hs:List Ob} (hE:sW.E f=some g):R0 f args hs=g args hs:=uH hE
theorem Q0 {h:aa} {d:Nat} {r:List AV} {rows:List (List AV)} {lo m:Nat} (hh:h 1000=.ar 4 rows) (hd:h (2000+8*d)=.dead) :
  aj R0 (ab false) h d [.sl 4 [r],.rsl 1000 none 4 lo m] (.fn F.slices_overlaps_api_Term_ [] [])=some (B false,upd h 1000 (.ar 4 rows),[(1000,true)]):=by
 have hm:(ab false).m F.slices_overlaps_api_Term_=[0,1]:=by kernel_rfl
 have hs:(ab false).sh F.slices_overlaps_api_Term_=[]:=by kernel_rfl
 have hk:(ab false).keep F.slices_overlaps_api_Term_=false:=by kernel_rfl
 have hf:R0 F.slices_overlaps_api_Term_ [.sl 4 [r],.rsl 1000 none 4 lo m] [.ar 4 rows]=some (B false,[.ar 4 rows]):=by
  rw [SN (g:=IK 4) (by kernel_rfl)]
  simp [IK]
 have hb:jJ (ab false) [.sl 4 [r],.rsl 1000 none 4 lo m] (.fn F.slices_overlaps_api_Term_ [] [])=false:=by
  simp [jJ,hm]
 have hr:bM h 40 [1000] 0=[1000]:=by
  simp [bM,hh,ug,bp]
 have hn:ch (B false)=1:=rfl
 unfold aj
 rw [if_neg (by rw [hb]; exact Bool.false_ne_true)]
 have h1:ah h [0,1] [.sl 4 [r],.rsl 1000 none 4 lo m]=some ([.sl 4 [r],.rsl 1000 none 4 lo m],h,[]):=by
  simp [ah,bP,mK,dv,ak]
 have h2:bp [] ([AV.sl 4 [r],.rsl 1000 none 4 lo m].flatMap bk)=[1000]:=by
  simp [bk,cP,bp]
 have h3:aV [1000] 1000=1000:=rfl
 simp only [dq,hm,List.nil_append,List.append_nil,h1,Option.bind_some,h2,hr,hs]
 simp [jI,aM,aJ,aO,hh,aB,cz,cQ,fZ,h3,cD,hf,et,hn,cr,hd,cU,bf,mU,uj,kV,cP,eE,da,rl,cB,mat,bW,dF,hk,ui,hm]
theorem Ds {id k l0 n i:Nat}:dK k (.rsl id none k l0 n) (some (I i)) none none=(ia n (some (I i)) none none).map fun p=>.rsl id none k (l0+p.1) (p.2 - p.1):=by
 simp only [dK,if_true,Option.isNone_none]
theorem MF {n c i:Nat} (h:i≤c):gJ n c (some (I i))=some i:=by
 simp only [gJ]
 rw [if_pos ⟨by omega,by omega⟩]
 rfl
theorem Q1 {r:List AV} {rows:List (List AV)} {n i:Nat} (hn:n=rows.length) (hi:i < n) (hb:(n+1)*64≤140737488355328) :
  R0 F.slices_Insert_api_Term_api_Term_ [.rsc 1000 4 0 n n,I i,.sl 4 [r]] [.ar 4 rows]=some (.osl 4 (rows.take i++r::rows.drop i),[.ar 4 rows]):=by
 refine tV (fd:=aH) (by kernel_rfl) (by kernel_rfl) (by kernel_rfl) rfl (by simp) ?_
 rw [oR]
 have e1:((1:Int)=0)=False:=by decide
 have e2:((i:Int)=(n:Int))=False:=eq_false (by omega)
 have e3:IntKind.i64.wrap ((n:Int)+1)=((n+1:Nat):Int):=wi (by omega) (by omega)
 have e4:((n:Int) < ((n+1:Nat):Int))=True:=eq_true (by omega)
 have e5:IntKind.i64.wrap (((n+1:Nat):Int) - (i:Int))=((n+1 - i:Nat):Int):=wi (by omega) (by omega)
 have e6:IntKind.i64.wrap ((i:Int)+1)=((i+1:Nat):Int):=wi (by omega) (by omega)
 have b1:=pL (n:=n) (i:=i) (by omega)
 have b2:=MF (n:=n) (c:=n) (i:=i) (by omega)
 have b3:=pL (n:=n+1) (i:=i) (by omega)
 have b4:=pL (n:=n+1) (i:=i+1) (by omega)
 have f1:((0:Int) < ((n+1 - i:Nat):Int))=True:=eq_true (by omega)
 have f2:(n < i+((n+1 - i:Nat):Int).toNat)=True:=eq_true (by omega)
 have f3:i+((n+1 - i:Nat):Int).toNat=n+1:=by omega
 have f4:(i≤rows.length)=True:=eq_true (by omega)
 have f5:((n+1)*64≤140737488355328)=True:=eq_true hb
 have f6:(n < n+1)=True:=eq_true (by omega)
 obtain ⟨A,hA⟩:∃ A,rows.take i++List.replicate ((n+1 - i:Nat):Int).toNat [AV.emp,B false,AV.emp,I 0]=A:=⟨_,rfl⟩
 have a1:A.length=n+1:=by rw [← hA,List.length_append,List.length_take,List.length_replicate]; omega
 have a2:A.take i=rows.take i:=by
  rw [← hA,List.take_append_of_le_length (by rw [List.length_take]; omega),List.take_of_length_le (by rw [List.length_take]; omega)]
 have a3:(i≤A.length)=True:=eq_true (by omega)
 obtain ⟨D,hD⟩:∃ D,A.take i++[r]++A.drop (i+1)=D:=⟨_,rfl⟩
 have d1:D.length=n+1:=by
  rw [← hD,List.length_append,List.length_append,List.length_take,List.length_drop,List.length_singleton]
  omega
 have d2:D.take (i+1)=rows.take i++[r]:=by
  rw [← hD,a2,List.take_append_of_le_length (by rw [List.length_append,List.length_take,List.length_singleton]; omega),List.take_of_length_le (by rw [List.length_append,List.length_take,List.length_singleton]; omega)]
 have d3:(i+1≤D.length)=True:=eq_true (by omega)
 have t1:List.take (n+1 - i) [r]=[r]:=List.take_of_length_le (by rw [List.length_singleton]; omega)
 have t2:(rows.drop i).take (n - i)=rows.drop i:=List.take_of_length_le (by rw [List.length_drop]; omega)
 have t3:(1=min 1 (n+1 - i))=True:=eq_true (by omega)
 have t4:n+1 - (i+1)=n - i:=by omega
 have t5:(i+(n - i)≤rows.length)=True:=eq_true (by omega)
 have t6:(rows.drop i).length=n - i:=by rw [List.length_drop]; omega
 have t7:D.drop (i+1+(n - i))=[]:=List.drop_eq_nil_of_le (by omega)
 simp only [aH,bE,go_sem,↓reduceIte,aez,aeB,aeA,aeC,aeE,List.length_cons,List.length_nil,Int.natCast_one,e1,e2,e3,e4,e5,e6,b1,b2,b3,b4,f1,f2,f3,f4,f5,f6,hA,hD,a3,d3,t1,t2,t3,t4,t5,t6,t7,Nat.min_self,Nat.zero_add,Nat.add_zero,Nat.sub_self,or_self,Nat.le_refl,Ds,and_self]
 rw [d2]
 have hfin:rows.take i++[r]++rows.drop i=rows.take i++r::rows.drop i:=by rw [List.append_assoc]; rfl
 rw [hfin]
 exact CN rfl rfl (by rw [List.length_append,List.length_take,List.length_cons,List.length_drop]; omega) rfl
theorem Q2 {r:List AV} {rows:List (List AV)} {n i c:Nat} (hn:n=rows.length) (hi:i < n) (hc:n+1≤c) (hb:(n+1)*64≤140737488355328) :
  R0 F.slices_Insert_api_Term_api_Term_ [.rsc 1000 4 0 n c,I i,.sl 4 [r]] [.ar 4 rows]=some (.osl 4 (rows.take i++r::rows.drop i),[.dead]):=by
 refine tV (fd:=aH) (by kernel_rfl) (by kernel_rfl) (by kernel_rfl) rfl (by simp) ?_
 rw [oR]
 have e1:((1:Int)=0)=False:=by decide
 have e2:((i:Int)=(n:Int))=False:=eq_false (by omega)
 have e3:IntKind.i64.wrap ((n:Int)+1)=((n+1:Nat):Int):=wi (by omega) (by omega)
 have e4:((c:Int) < ((n+1:Nat):Int))=False:=eq_false (by omega)
 have e6:IntKind.i64.wrap ((i:Int)+1)=((i+1:Nat):Int):=wi (by omega) (by omega)
 have b1:=pL (n:=n) (i:=i) (by omega)
 have b2:=MF (n:=n) (c:=c) (i:=n+1) hc
 have b3:=pL (n:=n+1) (i:=i) (by omega)
 have b4:=pL (n:=n+1) (i:=i+1) (by omega)
 have o1:=fun (h:aa) (h0:h 1000=.ar 4 rows) (h1:h (2000+8*67)=.dead)=>Q0 (r:=r) (lo:=i+1) (m:=n - i) h0 h1
 have t1:List.take (n+1 - i) [r]=[r]:=List.take_of_length_le (by rw [List.length_singleton]; omega)
 have t2:(rows.drop i).take (n - i)=rows.drop i:=List.take_of_length_le (by rw [List.length_drop]; omega)
 have t3:(1=min 1 (n+1 - i))=True:=eq_true (by omega)
 have t4:n+1 - (i+1)=n - i:=by omega
 have t5:(i+(n - i)≤rows.length)=True:=eq_true (by omega)
 have t6:(rows.drop i).length=n - i:=by rw [List.length_drop]; omega
 have t8:min (n - i) (n+1 - i)=n - i:=by omega
 have t9:(n - i=min (n+1 - i) (n - i))=True:=eq_true (by omega)
 have f4:(i+1≤rows.length)=True:=eq_true (by omega)
 have t7:rows.drop (i+1+(n - i))=[]:=List.drop_eq_nil_of_le (by omega)
 obtain ⟨A,hA⟩:∃ A,rows.take (i+1)++rows.drop i=A:=⟨_,rfl⟩
 have a1:A.length=n+1:=by
  rw [← hA,List.length_append,List.length_take,List.length_drop]
  omega
 have a2:A.take i=rows.take i:=by
  rw [← hA,List.take_append_of_le_length (by rw [List.length_take]; omega),List.take_take,Nat.min_eq_left (by omega)]
 have a4:A.drop (i+1)=rows.drop i:=by
  rw [← hA,List.drop_append_of_le_length (by rw [List.length_take]; omega),List.drop_eq_nil_of_le (by rw [List.length_take]; omega),List.nil_append]
 have a3:(i≤A.length)=True:=eq_true (by omega)
 simp only [aH,bE,go_sem,↓reduceIte,aez,aeB,aeA,aeC,aeE,List.length_cons,List.length_nil,Int.natCast_one,e1,e2,e3,e4,e6,b1,b2,b3,b4,t4,Nat.zero_add]
 rw [o1 _ rfl rfl]
 simp only [go_sem,↓reduceIte,aez,aeB,aeA,aeC,aeE,aeD,List.length_cons,List.length_nil,Int.natCast_one,e1,e2,e3,e4,e6,b1,b2,b3,b4,t1,t2,t3,t4,t5,t6,t7,t8,t9,f4,a3,hA,Nat.zero_add,Nat.add_zero,Nat.sub_self,or_self,Nat.le_refl,Ds,and_self]
 rw [a2,a4,show rows.take i++[r]++rows.drop i=rows.take i++r::rows.drop i by rw [List.append_assoc]; rfl]
 exact CN rfl rfl (by rw [List.length_append,List.length_take,List.length_cons,List.length_drop]; omega) rfl
def vL (c1 c2:cT):Prop:=∀ f a hs r,c1 f a hs=some r→c2 f a hs=some r
section
variable {c1 c2:cT} {md:Mode}
theorem Ip (hc:vL c1 c2) {h:aa} {d:Nat} {zas:List AV} {f:AV} {r:R3} (hz:dq c1 md h d zas f=some r):dq c2 md h d zas f=some r:=by
 cases f <;> simp only [dq] at hz ⊢ <;> try (cases hz; done)
 simp only [Option.bind_eq_some_iff] at hz ⊢
 obtain ⟨p,e1,e2⟩:=hz
 unfold jI at e2 ⊢
 split at e2
 ·rename_i hcc
  simp only [Option.bind_eq_some_iff] at e2
  obtain ⟨q,e3,e4⟩:=e2
  refine ⟨p,e1,?_⟩
  rw [if_pos hcc]
  simp only [Option.bind_eq_some_iff]
  exact ⟨q,hc _ _ _ _ e3,e4⟩
 ·cases e2
theorem BB (hc:vL c1 c2) {h:aa} {d:Nat} {zas:List AV} {f:AV} {r:R3} (hz:aj c1 md h d zas f=some r):aj c2 md h d zas f=some r:=by
 unfold aj at hz ⊢
 split at hz
 ·rename_i hb
  rw [if_pos hb]
  cases f <;> simp only [At] at hz ⊢ <;> try (cases hz; done)
  simp only [Option.bind_eq_some_iff] at hz ⊢
  obtain ⟨p,e1,q,e3,e4⟩:=hz
  exact ⟨p,e1,q,hc _ _ _ _ e3,e4⟩
 ·rename_i hb
  rw [if_neg hb]
  exact Ip hc hz
theorem Dt (hc:vL c1 c2) {d:Nat} {op:AOp} {s:af} {h:aa} {r:R3} (hz:step c1 md d op s h=some r):step c2 md d op s h=some r:=by
 cases op with
 | call f zas=>exact BB hc hz
 | callC f zas =>
  simp only [step,Option.bind_eq_some_iff] at hz ⊢
  obtain ⟨q,e1,e2⟩:=hz
  exact ⟨q,BB hc e1,e2⟩
 | _=>exact hz
theorem Du (hc:vL c1 c2) {d:Option Nat} {op:AOp} {s:af} {h:aa} {t:St} (hz:bN md.nm s d (step c1 md (d.getD 0) op s h)=some t):bN md.nm s d (step c2 md (d.getD 0) op s h)=some t:=by
 cases hs:step c1 md (d.getD 0) op s h with
 | none=>rw [hs] at hz; cases hz
 | some r =>
  rw [hs] at hz
  rw [Dt hc hs]
  exact hz
theorem KU (hc:vL c1 c2) {o:COp} {s:af} {h:aa} {t:St} (hz:gb c1 md o s h=some t):gb c2 md o s h=some t:=by
 unfold gb at hz ⊢
 cases hg:o.g with
 | none=>rw [hg] at hz; exact Du hc hz
 | some g =>
  rw [hg] at hz
  simp only at hz ⊢
  unfold fC at hz ⊢
  split at hz
  ·split at hz
   ·rename_i hb
    simp only [if_pos hb]
    exact Du hc hz
   ·rename_i hb
    simp only [if_neg hb]
    exact hz
  ·exact hz
  ·cases hz
theorem rT (hc:vL c1 c2):∀ {l:List COp} {s:af} {h:aa} {t:St},ao c1 md l s h=some t→ao c2 md l s h=some t
 | [],s,h,t,hz=>hz
 | o::l,s,h,t,hz=>by
  simp only [ao,aK] at hz
  split at hz
  ·cases hz
  ·rename_i t1 ht1
   simp only [ao,aK,KU hc ht1,rT hc hz]
theorem BC (hc:vL c1 c2) {d:Option Nat} {op:AOp} {s:af} {h:aa} {f:aa→Fp} {t:St × Fp} (hz:fq s d f (step c1 md (d.getD 0) op s h)=some t):fq s d f (step c2 md (d.getD 0) op s h)=some t:=by
 cases hs:step c1 md (d.getD 0) op s h with
 | none=>rw [hs] at hz; cases hz
 | some r =>
  rw [hs] at hz
  rw [Dt hc hs]
  exact hz
theorem KV (hc:vL c1 c2) {o:COp} {s:af} {h:aa} {t:St × Fp} (hz:cj c1 md o s h=some t):cj c2 md o s h=some t:=by
 unfold cj at hz ⊢
 cases hg:o.g with
 | none=>rw [hg] at hz; exact BC hc hz
 | some g =>
  rw [hg] at hz
  simp only at hz ⊢
  unfold jL at hz ⊢
  split at hz
  ·split at hz
   ·rename_i hb
    simp only [if_pos hb]
    exact BC hc hz
   ·rename_i hb
    simp only [if_neg hb]
    exact hz
  ·exact hz
  ·cases hz
theorem xy (hc:vL c1 c2):∀ {l:List COp} {s:af} {h:aa} {t:St × List Fp},dD c1 md l s h=some t→dD c2 md l s h=some t
 | [],s,h,t,hz=>hz
 | o::l,s,h,t,hz=>by
  simp only [dD,Option.bind_eq_some_iff] at hz
  obtain ⟨r,e1,q,e2,e3⟩:=hz
  simp only [dD,KV hc e1,xy hc e2,Option.bind_some,e3]
theorem KW (hc:vL c1 c2) {l:List COp} {ps:List (Nat × Nat)} {s:af} {h:aa} {t:St} (hz:jM c1 md l ps s h=some t):jM c2 md l ps s h=some t:=by
 unfold jM at hz ⊢
 cases hb:pQ ps with
 | none =>
  rw [hb] at hz
  simp only [pX,Option.bind_eq_some_iff] at hz
  obtain ⟨q,e1,e2⟩:=hz
  simp only [pX,xy hc e1,Option.bind_some,e2]
 | some b =>
  rw [hb] at hz
  simp only [uk,Option.bind_eq_some_iff] at hz
  obtain ⟨q,e1,e2⟩:=hz
  split at e2
  ·rename_i hps
   simp only [aK] at e2
   split at e2
   ·cases e2
   ·rename_i t1 ht1
    simp only [uk,xy hc e1,Option.bind_some,if_pos hps,ht1,aK,rT hc e2]
  ·cases e2
theorem xz {b1 b2:af→aa→Option (Ex × St)} {ks hs:List Nat} (ih:∀ {s:af} {h:aa} {r:Ex × St},b1 s h=some r→b2 s h=some r) :
  ∀ (m:Nat) {j:Nat},m≤j→∀ {s:af} {h:aa} {r:Ex × St},kJ b1 ks hs m s h=some r→kJ b2 ks hs j s h=some r
 | 0,j,hj,s,h,r,hz=>by simp [kJ] at hz
 | m+1,j,hj,s,h,r,hz=>by
  obtain ⟨j,rfl⟩:∃ j',j=j'+1:=⟨j - 1,by omega⟩
  simp only [kJ] at hz ⊢
  split at hz
  ·rename_i hc
   rw [if_pos hc]
   cases hb:b1 (mk .any (fun i=>eF hs (s i)) ks) (mk .dead h hs) with
   | none=>rw [hb] at hz; cases hz
   | some q =>
    rw [hb] at hz
    rw [ih hb]
    obtain ⟨ex,t⟩:=q
    cases ex with
    | normal=>exact xz ih m (by omega) hz
    | exit id=>exact hz
    | ret=>exact hz
  ·cases hz
theorem eB (hc:vL c1 c2) {lf lf':Nat} (hl:lf≤lf'):∀ (c:Cmd) {s:af} {h:aa} {r:Ex × St},bd c1 md lf c s h=some r→bd c2 md lf' c s h=some r
 | .skip,s,h,r,hz=>hz
 | .ops ks l,s,h,r,hz=>by
  simp only [bd,aK] at hz
  split at hz
  ·cases hz
  ·rename_i t1 ht1
   simp only [bd,rT hc ht1,aK]
   exact hz
 | .dops ks l ps,s,h,r,hz=>by
  simp only [bd,aK] at hz
  split at hz
  ·cases hz
  ·rename_i t1 ht1
   simp only [bd,KW hc ht1,aK]
   exact hz
 | .seq a b,s,h,r,hz=>by
  simp only [bd,dG] at hz
  split at hz
  ·cases hz
  ·rename_i t1 ht1
   simp only [bd,dG,eB hc hl a ht1,eB hc hl b hz]
  ·rename_i i t1 ht1
   simp only [bd,dG,eB hc hl a ht1]
   exact hz
  ·rename_i t1 ht1
   simp only [bd,dG,eB hc hl a ht1]
   exact hz
 | .cond c a b,s,h,r,hz=>by
  simp only [bd,jN] at hz
  split at hz
  ·rename_i t ht
   cases t with
   | true=>simp only [bd,jN,ht,if_true]; exact eB hc hl a hz
   | false=>simp only [bd,jN,ht,Bool.false_eq_true,if_false]; exact eB hc hl b hz
  ·cases hz
 | .block id ks a,s,h,r,hz=>by
  simp only [bd,aI] at hz
  split at hz
  ·cases hz
  ·rename_i t1 ht1
   simp only [bd,aI,eB hc hl a ht1]
   exact hz
  ·rename_i i t1 ht1
   simp only [bd,aI,eB hc hl a ht1]
   exact hz
  ·rename_i t1 ht1
   simp only [bd,aI,eB hc hl a ht1]
   exact hz
 | .loop ks hs a,s,h,r,hz=>by
  simp only [bd] at hz ⊢
  exact xz (fun hh=>eB hc hl a hh) lf hl hz
 | .exit id,s,h,r,hz=>hz
 | .ret,s,h,r,hz=>hz
 | .frz is a,s,h,r,hz=>by
  simp only [bd,aK] at hz
  split at hz
  ·cases hz
  ·rename_i t1 ht1
   simp only [bd,aK,ht1]
   exact eB hc hl a hz
end
abbrev Ak:=List (Nat × List AV × AV)
def HJ:Ak→FuncId→List AV→Option AV
 | [],_,_=>none
 | x::l,f,args=>if x.1=f then (if wg x.2.1 args=true then some x.2.2 else HJ l f args) else HJ l f args
def Jt (a:Option AV) (hs:List Ob) (b:Option (AV × List Ob)):Option (AV × List Ob):=match a,hs with
 | some r,[]=>some (r,[])
 | _,_=>b
def CO (e:Env) (T:Ak):Nat→cT
 | 0=>fun _ _ _=>none
 | n+1=>fun f args hs=>Jt (HJ T f args) hs (match e.E f with
  | some g=>g args hs
  | none=>(e.C f).bind fun fd=>wl (CO e T n) { e.md with nm:=e.md.keep f } n fd args hs)
theorem CP {e:Env}:∀ {T:Ak} {f:FuncId} {args:List AV} {r:AV},(∀ x ∈ T,cR e x.1 x.2.1 []=some (x.2.2,[]))→HJ T f args=some r→cR e f args []=some (r,[])
 | [],f,args,r,_,h=>by cases h
 | x::l,f,args,r,ht,h=>by
  unfold HJ at h
  split at h
  ·rename_i h1
   split at h
   ·rename_i h2
    cases h
    have:=ht x (by simp)
    rw [h1,oi h2] at this
    exact this
   ·exact CP (fun y hy=>ht y (by simp [hy])) h
  ·exact CP (fun y hy=>ht y (by simp [hy])) h
theorem kF {call:cT} {md:Mode} {lf:Nat}:∀ (c:Cmd) {s:af} {h:aa} {r:Ex × St},bd call md lf c s h=some r→az call md c s h=some r
 | .skip,s,h,r,hz=>hz
 | .ops ks l,s,h,r,hz=>hz
 | .dops ks l ps,s,h,r,hz=>hz
 | .seq a b,s,h,r,hz=>by
  simp only [bd,dG] at hz
  split at hz
  ·cases hz
  ·rename_i t1 ht1
   simp only [az,dG,kF a ht1,kF b hz]
  ·rename_i i t1 ht1
   simp only [az,dG,kF a ht1]
   exact hz
  ·rename_i t1 ht1
   simp only [az,dG,kF a ht1]
   exact hz
 | .cond c a b,s,h,r,hz=>by
  simp only [bd,jN] at hz
  split at hz
  ·rename_i t ht
   cases t with
   | true=>simp only [az,jN,ht,if_true]; exact kF a hz
   | false=>simp only [az,jN,ht,Bool.false_eq_true,if_false]; exact kF b hz
  ·cases hz
 | .block id ks a,s,h,r,hz=>by
  simp only [bd,aI] at hz
  split at hz
  ·cases hz
  ·rename_i t1 ht1
   simp only [az,aI,kF a ht1]
   exact hz
  ·rename_i i t1 ht1
   simp only [az,aI,kF a ht1]
   exact hz
  ·rename_i t1 ht1
   simp only [az,aI,kF a ht1]
   exact hz
 | .loop ks hs a,s,h,r,hz=>by
  simp only [bd] at hz
  simp only [az,aU]
  rw [iO]
  exact ⟨lf,fun k hk=>xz (fun hh=>kF a hh) lf hk hz⟩
 | .exit id,s,h,r,hz=>hz
 | .ret,s,h,r,hz=>hz
 | .frz is a,s,h,r,hz=>by
  simp only [bd,aK] at hz
  split at hz
  ·cases hz
  ·rename_i t1 ht1
   simp only [az,aK,ht1]
   exact kF a hz
theorem Ju {e:Env} {T:Ak} (ht:∀ x ∈ T,cR e x.1 x.2.1 []=some (x.2.2,[])):∀ n,vL (CO e T n) (cR e)
 | 0=>fun f a hs r hz=>by cases hz
 | n+1=>fun f a hs r hz=>by
  have old:(match e.E f with | some g=>g a hs | none=>(e.C f).bind fun fd=>wl (CO e T n) { e.md with nm:=e.md.keep f } n fd a hs)=some r→cR e f a hs=some r:=by
   intro hz
   split at hz
   ·rename_i g hE
    rw [uH hE]
    exact hz
   ·rename_i hE
    simp only [Option.bind_eq_some_iff] at hz
    obtain ⟨fd,hC,hz⟩:=hz
    refine wL hE hC ?_
    unfold wl at hz
    unfold FW
    split at hz
    ·rename_i hcc
     rw [if_pos hcc]
     cases hx:bd (CO e T n) { e.md with nm:=e.md.keep f } n fd.body (pi a) (ae hs) with
     | none=>rw [hx] at hz; cases hz
     | some q =>
      rw [hx] at hz
      rw [kF fd.body (eB (Ju ht n) (Nat.le_refl n) fd.body hx)]
      exact hz
    ·cases hz
  unfold CO at hz
  unfold Jt at hz
  split at hz
  ·rename_i r' hl
   cases hz
   exact CP ht hl
  ·exact old hz
theorem bO {e:Env}:∀ x ∈ ([]:Ak),cR e x.1 x.2.1 []=some (x.2.2,[]):=fun _ h=>by cases h
theorem cA {e:Env} {x:Nat × List AV × AV} {T:Ak} (h1:cR e x.1 x.2.1 []=some (x.2.2,[])) (h2:∀ x ∈ T,cR e x.1 x.2.1 []=some (x.2.2,[])):∀ y ∈ x::T,cR e y.1 y.2.1 []=some (y.2.2,[]):=fun y hy=>by
 rcases List.mem_cons.1 hy with rfl | hy
 ·exact h1
 ·exact h2 y hy
theorem hF {e:Env} (T:Ak) (n:Nat) (x:Nat × List AV × AV) (ht:∀ x ∈ T,cR e x.1 x.2.1 []=some (x.2.2,[])) (h:CO e T n x.1 x.2.1 []=some (x.2.2,[])):cR e x.1 x.2.1 []=some (x.2.2,[]):=Ju ht n _ _ _ _ h
end Go.Ab
namespace Go.Ab
open Go Go.Proofs Go.Shelf
def PN:Ren:=⟨fun | 28=>160 | n=>n,fun | 25=>133 | 27=>95 | 53=>193 | n=>n,fun n=>n⟩
theorem MG:Lays7.n28 Tryz.prog PN where
 mixed:=by kernel_rfl
 f28:=by kernel_rfl
 t0:=by kernel_rfl
 a0:=Tryz.isAgg0
 z0:=Tryz.sizeOf0
 v0:=Tryz.zeroValue0
 i0:=by kernel_rfl
 t3:=by kernel_rfl
 a3:=Tryz.isAgg3
 z3:=Tryz.sizeOf3
 v3:=Tryz.zeroValue3
 i3:=by kernel_rfl
 t4:=by kernel_rfl
 a4:=Tryz.isAgg4
 z4:=Tryz.sizeOf4
 v4:=Tryz.zeroValue4
 i4:=by kernel_rfl
 t5:=by kernel_rfl
 a5:=Tryz.isAgg5
 z5:=Tryz.sizeOf5
 v5:=Tryz.zeroValue5
 i5:=by kernel_rfl
 t25:=by kernel_rfl
 a25:=Tryz.isAgg133
 z25:=Tryz.sizeOf133
 v25:=Tryz.zeroValue133
 i25:=by kernel_rfl
 t27:=by kernel_rfl
 a27:=Tryz.isAgg95
 z27:=Tryz.sizeOf95
 v27:=Tryz.zeroValue95
 i27:=by kernel_rfl
 t53:=by kernel_rfl
 a53:=Tryz.isAgg193
 z53:=Tryz.sizeOf193
 v53:=Tryz.zeroValue193
 i53:=by kernel_rfl
 g0:=by kernel_rfl
def vf:Inv where
 p w X:=X 0∧TabAt 0 Lib.deBruijn32tab w
 stab:=fun {w w' X} h hs=>⟨h.1,fun j hj=>by rw [ir (hs 0 h.1)]; exact h.2 j hj⟩
 more:=fun h hx=>⟨hx 0 h.1,h.2⟩
theorem Jv:∀ (k x:Nat),Lib.ctzFrom k x=Dh k x
 | 0,x=>rfl
 | k+1,x=>by
  unfold Lib.ctzFrom Dh
  rw [Jv k (x / 2),Nat.add_comm]
set_option maxRecDepth 100000 in
theorem PO:ft Tryz.prog vf false F.bits_TrailingZeros32 Pf:=by
 intro args obs obs' res w X ρ vals n hz hn hi hr hs hv
 unfold Pf at hz
 split at hz
 ·rename_i x
  by_cases hc:0 < x∧x < 4294967296∧obs=[]
  ·rw [if_pos hc] at hz
   obtain ⟨h0,h1,rfl⟩:=hc
   simp only [Option.some.injEq,Prod.mk.injEq] at hz
   obtain ⟨rfl,rfl⟩:=hz
   have hv0:=hv 0 (.v (.int .u32 x)) (vals.getD 0 undef) rfl (by simp at hs; simp [Array.getD_eq_getD_getElem?,hs])
   have e0:vals=#[.int .u32 x]:=by
    simp only [List.length_cons,List.length_nil] at hs
    have:=hv0.v_inv.1
    apply Array.ext
    ·simpa using hs
    ·intro i h2 h3
     have:i=0:=by simp at h3; exact h3
     subst this
     simpa [Array.getD_eq_getD_getElem?,hs] using this
   subst e0
   obtain ⟨m,rfl⟩:∃ m:Nat,x=m:=⟨x.toNat,by omega⟩
   have key:=Any7.bits_TrailingZeros32 MG m (by omega) w fun _=>hi.2
   have he:(callFunc F.bits_TrailingZeros32 #[.int .u32 (m:Int)]).run Tryz.prog w=.ok (.enter F.bits_TrailingZeros32 #[.int .u32 (m:Int)]) w:=(enters_of (MG.f28) (by kernel_rfl) rfl:Proofs.Enters Tryz.prog (PN.f 28)) _ _
   unfold Enters
   rw [he]
   refine Calls.mono key fun e w' hw=>?_
   obtain ⟨rfl,rfl⟩:=hw
   refine ⟨ρ,hr,.refl _ _ _ _,?_⟩
   refine .dat ?_
   have:Lib.ctz 32 m=Dh 32 m:=by
    unfold Lib.ctz
    rw [if_neg (by omega),Jv]
   simp only [this,Int.toNat_natCast,mat,bW]
   exact .v _ rfl
  ·rw [if_neg hc] at hz
   cases hz
 ·cases hz
end Go.Ab
namespace Go.Ab
open Go Go.Proofs Go.ChangeShapes Go.WideShapes Go.Deep Go.RowKit
set_option maxRecDepth 100000
section
variable {H:Type} {enc:TypeId × Value→H} {w:World}
def BD (w:World) (b:Nat):Prop:=b < w.heap.size∧b ≠ 0
def xA (w:World):Prop:=∀ o v,w.cell? ⟨0,o,none⟩=some v→∃ n,v=.int .u8 n
def s6 (u:Value):Prop:=∀ n,u ≠ .int .u8 n
theorem SO (ht:xA w) {a:Addr} {u:Value} (h:w.cell? a=some u) (hn:s6 u):BD w a.block∧a.spot=none:=by
 have h1:a.spot=none:=by
  unfold World.cell? at h
  split at h
  ·split at h
   ·cases h
   ·rename_i hs
    simpa using hs
  ·cases h
 refine ⟨⟨?_,fun h0=>?_⟩,h1⟩
 ·unfold World.cell? at h
  split at h
  ·rename_i hb
   exact (Array.getElem?_eq_some_iff.1 hb).1
  ·cases h
 ·obtain ⟨b,o,s⟩:=a
  simp only at h0 h1
  subst h0 h1
  obtain ⟨n,hv⟩:=ht o u h
  exact hn n hv
def lS (w:World) (fs:List AV) (cs:List Value):Prop :=
 fs.length=cs.length∧∀ (j:Nat) (c:AV) (u:Value),fs[j]?=some c→cs[j]?=some u→RD w (BD w) c u∧ak c=true∧u.oneCell'=true
theorem lS.app {fa fb:List AV} {ca cb:List Value} (ha:lS w fa ca) (hb:lS w fb cb):lS w (fa++fb) (ca++cb):=by
 refine ⟨by simp [ha.1,hb.1],fun j c u h1 h2=>?_⟩
 by_cases hj:j < fa.length
 ·rw [List.getElem?_append_left hj] at h1
  rw [List.getElem?_append_left (by rw [← ha.1]; exact hj)] at h2
  exact ha.2 j c u h1 h2
 ·rw [List.getElem?_append_right (by omega)] at h1
  rw [List.getElem?_append_right (by rw [← ha.1]; omega),← ha.1] at h2
  exact hb.2 _ c u h1 h2
theorem lS.one {c:AV} {u:Value} (h:RD w (BD w) c u) (hd:ak c=true) (h1:u.oneCell'=true):lS w [c] [u]:=by
 refine ⟨rfl,fun j c' u' hc hu=>?_⟩
 cases j with
 | zero=>simp at hc hu; subst hc hu; exact ⟨h,hd,h1⟩
 | succ j=>simp at hc
noncomputable abbrev Tr (w:World) (enc:TypeId × Value→H) (n:Nat) (t:TypeId) (cs:List Value):Option (DataW H × List MemPlace):=DataW.trod enc Tryz.prog w 0 (fun _=>true) true n t cs
def qE (t:TypeId) (d:DataW H):Prop:=∀ m ∈ DataW.weights Tryz.prog t d,m≤reachBytes
theorem SP {e:TypeId}:∀ {l:List (DataW H)} {d:DataW H} {m:Nat},d ∈ l→m ∈ DataW.weights Tryz.prog e d→m ∈ DataW.weightsAll Tryz.prog e l
 | [],d,m,h,_=>by simp at h
 | a::l,d,m,h,hm=>by
  simp only [DataW.weightsAll,List.mem_append]
  rcases List.mem_cons.1 h with rfl | h
  ·exact .inl hm
  ·exact .inr (SP h hm)
theorem Jw {α:Type} {p:Nat→α→Prop}:∀ (n:Nat),(∀ i,i < n→∃ r,p i r)→∃ l:List α,l.length=n∧∀ (i:Nat) (r:α),l[i]?=some r→p i r
 | 0,_=>⟨[],rfl,fun i r h=>by simp at h⟩
 | n+1,h=>by
  obtain ⟨l,h1,h2⟩:=Jw n fun i hi=>h i (by omega)
  obtain ⟨r,hr⟩:=h n (by omega)
  refine ⟨l++[r],by simp [h1],fun i r' hi=>?_⟩
  by_cases hin:i < n
  ·rw [List.getElem?_append_left (by omega)] at hi
   exact h2 i r' hi
  ·rw [List.getElem?_append_right (by omega)] at hi
   have:i=n:=by
    have:=(List.getElem?_eq_some_iff.1 hi).1
    simp at this
    omega
   subst this
   simp [h1] at hi
   subst hi
   exact hr
theorem CQ {α:Type} {t e:TypeId} {k bs:Nat} (ht:Tryz.prog.underlying t=some (.slice e)) (hk:Tryz.prog.cellsOf e=k) (h0:0 < k) (hbs:Tryz.prog.bytesOf e=bs) (F:α→List AV) (Q:α→Prop) (hT:xA w)
  (hrow:∀ n cs' x,Tr w enc n e cs'=some x→qE e x.1→∃ r,Q r∧lS w (F r) cs'∧∃ u,cs'[0]?=some u∧s6 u) {fuel:Nat} {cs:List Value} {x:DataW H × List MemPlace}
  (h:Tr w enc fuel t cs=some x) (hw:qE t x.1):∃ (l:List α) (v:Value),cs=[v]∧(∀ r ∈ l,Q r)∧l.length*bs≤reachBytes∧RD w (BD w) (.sl k (l.map F)) v∧v.oneCell'=true∧s6 v:=by
 rcases open_slice ht h with ⟨rfl,_⟩ | ⟨a,len,cap,m,n,D,Pl,rfl,hb,hl,hm,hmm,rfl,hx⟩
 ·exact ⟨[],_,rfl,fun r hr=>by simp at hr,by simp,.sl k [] none 0 ⟨0,0,none⟩ (fun _ _=>undef) (by simp) (fun h=>absurd rfl h) (fun r hr=>by simp at hr) (fun i r j c hr=>by simp at hr) (fun r hr=>by simp at hr) (fun i r j c hr=>by simp at hr),rfl,fun n e=>by cases e⟩
 ·have hlm:len≤m:=by rw [hmm]; split <;> omega
  have hwe:∀ i,i < len→qE e (D i):=fun i hi q hq=>by
   refine hw q ?_
   simp only [DataW.weights,ht,List.mem_cons,List.mem_append]
   exact .inr (.inl (SP (List.mem_map.2 ⟨i,List.mem_range.2 hi,rfl⟩) hq))
  have hbn:len*bs≤reachBytes:=by
   have:=hw ((((List.range len).map D).length+((List.range (m - len)).map fun j=>D (len+j)).length)*Tryz.prog.bytesOf e) (by simp [DataW.weights,ht])
   simp only [List.length_map,List.length_range,hbs] at this
   exact Nat.le_trans (Nat.mul_le_mul_right _ (by omega)) this
  obtain ⟨l,l1,l2⟩:=Jw (p:=fun i r=>Q r∧∃ cs',w.cells? 0 (a.add (i*k)) k=some cs'∧lS w (F r) cs'∧∃ u,cs'[0]?=some u∧s6 u) len fun i hi=>by
   obtain ⟨cs',h1,h2⟩:=hx i (by omega)
   obtain ⟨r,g1,g2,g3⟩:=hrow _ _ _ h2 (hwe i hi)
   rw [hk] at h1
   exact ⟨r,g1,cs',h1,g2,g3⟩
  have cell:∀ (i:Nat) (row:List AV) (j:Nat) (c:AV),(l.map F)[i]?=some row→row[j]?=some c→∃ u,w.cell? (a.add (i*k+j))=some u∧RD w (BD w) c u∧ak c=true:=fun i row j c hi hj=>by
   simp only [List.getElem?_map,Option.map_eq_some_iff] at hi
   obtain ⟨r,hr,rfl⟩:=hi
   obtain ⟨_,cs',c1,c2,_⟩:=l2 i r hr
   obtain ⟨_,c3,c4⟩:=World.cells?_some c1
   have hjk:j < k:=by
    have:=(List.getElem?_eq_some_iff.1 hj).1
    rw [c2.1,c3] at this
    exact this
   have:=c4 j hjk
   rw [rp] at this
   obtain ⟨u,hu⟩:∃ u,cs'[j]?=some u:=⟨cs'[j]'(by omega),by simp⟩
   exact ⟨u,by rw [this,hu],(c2.2 j c u hj hu).1,(c2.2 j c u hj hu).2.1⟩
  refine ⟨l,_,rfl,fun r hr=>?_,by rw [l1]; exact hbn,?_,rfl,fun n e=>by cases e⟩
  ·obtain ⟨i,hi⟩:=List.getElem?_of_mem hr
   exact (l2 i r hi).1
  ·have:=RD.sl (w:=w) (A:=BD w) k (l.map F) (some a) cap a (fun i j=>(w.cell? (a.add (i*k+j))).getD undef) (by simp [l1,hl]) (fun hne=>?_) (fun row hr=>?_) (fun i row j c hi hj=>?_) (fun row hr c hc=>?_) (fun i row j c hi hj=>?_)
   ·simpa [l1] using this
   ·have hlen:0 < l.length:=List.length_pos_iff.2 fun e=>hne (by simp [e])
    obtain ⟨_,cs',c1,c2,u,c3,c4⟩:=l2 0 l[0] (by simp)
    have:=(World.cells?_some c1).2.2 0 h0
    rw [c3,Nat.zero_mul,sf,sf] at this
    obtain ⟨q1,q2⟩:=SO hT this c4
    exact ⟨rfl,q1,q2⟩
   ·simp only [List.mem_map] at hr
    obtain ⟨r,hr,rfl⟩:=hr
    obtain ⟨i,hi⟩:=List.getElem?_of_mem hr
    obtain ⟨_,cs',c1,c2,_⟩:=l2 i r hi
    rw [c2.1]
    exact (World.cells?_some c1).2.1
   ·obtain ⟨u,q1,_⟩:=cell i row j c hi hj
    rw [q1]; rfl
   ·obtain ⟨i,hi⟩:=List.getElem?_of_mem hr
    obtain ⟨j,hj⟩:=List.getElem?_of_mem hc
    obtain ⟨u,_,_,q⟩:=cell i row j c hi hj
    exact q
   ·obtain ⟨u,q1,q2,_⟩:=cell i row j c hi hj
    rw [q1]; exact q2
theorem Q3 {n:Nat} {cs:List Value} {x:DataW H × List MemPlace} (h:Tr w enc n 95 cs=some x) (_:qE 95 x.1):∃ r:Nat,r < 4294967296∧lS w [U (r:Int)] cs∧∃ u,cs[0]?=some u∧s6 u:=by
 obtain ⟨z,rfl,rfl,hw⟩:=DataW.trod_int Tryz.underlying95 h
 simp only [Lit.wf,Bool.and_eq_true,decide_eq_true_eq] at hw
 have h1:(0:Int)≤z:=hw.1
 have h2:z≤4294967295:=hw.2
 obtain ⟨m,rfl⟩:∃ m:Nat,z=m:=⟨z.toNat,by omega⟩
 exact ⟨m,by omega,.one (.v _ rfl) rfl rfl,_,rfl,fun n e=>by cases e⟩
theorem Q4 {n:Nat} {cs:List Value} {x:DataW H × List MemPlace} (h:Tr w enc n 3 cs=some x) (_:qE 3 x.1):∃ r:Int,True∧lS w [I r] cs∧∃ u,cs[0]?=some u∧s6 u:=by
 obtain ⟨z,rfl,rfl,hw⟩:=DataW.trod_int Tryz.underlying3 h
 exact ⟨z,trivial,.one (.v _ rfl) rfl rfl,_,rfl,fun n e=>by cases e⟩
theorem MH (hT:xA w) {n:Nat} {cs:List Value} {x:DataW H × List MemPlace} (h:Tr w enc n 41 cs=some x) (hw:qE 41 x.1):∃ m:List Nat,(Lb m∧m.length < 4611686018427387904)∧lS w [lm m] cs∧∃ u,cs[0]?=some u∧s6 u:=by
 obtain ⟨l,v,rfl,h1,h2,h3,h4,h5⟩:=CQ (k:=1) (bs:=4) Tryz.underlying41 (by kernel_rfl) (by decide) (by kernel_rfl) (fun (r:Nat)=>[U (r:Int)]) (fun r=>r < 4294967296) hT (fun n cs' x=>Q3) h hw
 refine ⟨l,⟨h1,?_⟩,.one h3 rfl h4,_,rfl,h5⟩
 unfold reachBytes at h2
 omega
theorem OY (hT:xA w) {n:Nat} {cs:List Value} {x:DataW H × List MemPlace} (h:Tr w enc n 70 cs=some x) (hw:qE 70 x.1):∃ m:List Int,True∧lS w [.sl 1 (aX m)] cs∧∃ u,cs[0]?=some u∧s6 u:=by
 obtain ⟨l,v,rfl,h1,h2,h3,h4,h5⟩:=CQ (k:=1) (bs:=8) Tryz.underlying70 (by kernel_rfl) (by decide) (by kernel_rfl) (fun (r:Int)=>[I r]) (fun r=>True) hT (fun n cs' x=>Q4) h hw
 exact ⟨l,trivial,.one h3 rfl h4,_,rfl,h5⟩
theorem SQ (hT:xA w) {n:Nat} {cs:List Value} {x:DataW H × List MemPlace} (h:Tr w enc n 43 cs=some x) (hw:qE 43 x.1):∃ d:Rd,Ok0 d∧lS w (aW d) cs∧∃ u,cs[0]?=some u∧s6 u:=by
 obtain ⟨y0,y1,y2,m,rfl,hl,h0,h1,h2⟩:=trod_struct3 Tryz.underlying43 h
 have hl3:cs.length=3:=hl.trans (by kernel_rfl)
 match cs,hl3 with
 | [a,b,c],_ =>
  have k0:Tr w enc m 4 [a]=some y0:=h0
  have k1:Tr w enc m 41 [b]=some y1:=h1
  have k2:Tr w enc m 3 [c]=some y2:=h2
  have w1:qE 41 y1.1:=fun q hq=>hw q (by simp [DataW.weights,DataW.weightsEach,Tryz.underlying43]; exact .inr (.inl hq))
  obtain ⟨bb,e0,e1⟩:=DataW.trod_bool Tryz.underlying4 k0
  simp only [List.cons.injEq,and_true] at e0
  subst e0
  obtain ⟨l,⟨q1,q2⟩,q3,_⟩:=MH hT k1 w1
  obtain ⟨z,e2,e3,_⟩:=DataW.trod_int Tryz.underlying3 k2
  simp only [List.cons.injEq,and_true] at e2
  subst e2
  exact ⟨⟨bb,l,z⟩,⟨q1,q2⟩,(lS.one (.v _ rfl) rfl rfl).app (q3.app (.one (.v _ rfl) rfl rfl)),_,rfl,fun n e=>by cases e⟩
theorem OZ (hT:xA w) {n:Nat} {cs:List Value} {x:DataW H × List MemPlace} (h:Tr w enc n 72 cs=some x) (hw:qE 72 x.1):∃ d:Rt,Ok0 d.c∧lS w (bv d) cs∧∃ u,cs[0]?=some u∧s6 u:=by
 obtain ⟨y0,y1,m,rfl,hl,h0,h1⟩:=trod_struct2 Tryz.underlying72 h
 have hl3:cs.length=4:=hl.trans (by kernel_rfl)
 match cs,hl3 with
 | [a,b,c,d],_ =>
  have k0:Tr w enc m 70 [a]=some y0:=h0
  have k1:Tr w enc m 43 [b,c,d]=some y1:=h1
  have w0:qE 70 y0.1:=fun q hq=>hw q (by simp [DataW.weights,DataW.weightsEach,Tryz.underlying72]; exact .inl hq)
  have w1:qE 43 y1.1:=fun q hq=>hw q (by simp [DataW.weights,DataW.weightsEach,Tryz.underlying72]; exact .inr hq)
  obtain ⟨l,_,q3,q4⟩:=OY hT k0 w0
  obtain ⟨d,d1,d2,_⟩:=SQ hT k1 w1
  exact ⟨⟨l,d⟩,d1,q3.app d2,q4⟩
theorem HK (hT:xA w) {n:Nat} {us:Array Value} {x:DataW H × List MemPlace} (h:Tr w enc n 24 us.toList=some x) (hw:qE 24 x.1):∃ a:Rp,((∀ t ∈ a.terms,Ok0 t.c)∧a.terms.length < 4611686018427387904)∧RD w (BD w) (bm a) (.agg us):=by
 obtain ⟨y0,y1,m,rfl,hl,h0,h1⟩:=trod_struct2 Tryz.underlying24 h
 have hl3:us.toList.length=2:=hl.trans (by kernel_rfl)
 obtain ⟨cs⟩:=us
 simp only at hl3 h0 h1
 match cs,hl3 with
 | [a,b],_ =>
  have k0:Tr w enc m 3 [a]=some y0:=h0
  have k1:Tr w enc m 22 [b]=some y1:=h1
  have w1:qE 22 y1.1:=fun q hq=>hw q (by simp [DataW.weights,DataW.weightsEach,Tryz.underlying24]; exact .inr hq)
  obtain ⟨z,e2,e3,_⟩:=DataW.trod_int Tryz.underlying3 k0
  simp only [List.cons.injEq,and_true] at e2
  subst e2
  obtain ⟨l,v,e4,q1,q2,q3,q4,q5⟩:=CQ (k:=4) (bs:=64) Tryz.underlying22 (by kernel_rfl) (by decide) (by kernel_rfl) bv (fun t=>Ok0 t.c) hT (fun n cs' x=>OZ hT) k1 w1
  simp only [List.cons.injEq,and_true] at e4
  subst e4
  refine ⟨⟨z,l⟩,⟨q1,by show l.length < _; unfold reachBytes at q2; omega⟩,?_⟩
  have rc:lS w [I z,.sl 4 (l.map bv)] [.int .i64 z,b]:=(lS.one (.v _ rfl) rfl rfl).app (.one q3 rfl q4)
  refine .agg _ _ rfl (fun i u hu=>?_) fun i c u hc hu=>?_
  ·have hu':[Value.int .i64 z,b][i]?=some u:=by simpa using hu
   obtain ⟨c,hc⟩:∃ c,[I z,AV.sl 4 (l.map bv)][i]?=some c:=⟨_,List.getElem?_eq_getElem (by have:=(List.getElem?_eq_some_iff.1 hu').1; simpa using this)⟩
   exact (rc.2 i c u hc hu').2.2
  ·exact (rc.2 i c u hc (by simpa using hu)).1
theorem ahw {fs:List AV} {us:Array Value} (rc:lS w fs us.toList):RD w (BD w) (.agg fs) (.agg us):=by
 refine .agg _ _ (by have:=rc.1; simpa using this.symm) (fun i u hu=>?_) fun i c u hc hu=>(rc.2 i c u hc (by simpa using hu)).1
 have hu':us.toList[i]?=some u:=by simpa using hu
 obtain ⟨c,hc⟩:∃ c,fs[i]?=some c:=⟨_,List.getElem?_eq_getElem (by rw [rc.1]; exact (List.getElem?_eq_some_iff.1 hu').1)⟩
 exact (rc.2 i c u hc hu').2.2
theorem ahx (hT:xA w) {n:Nat} {us:Array Value} {x:DataW H × List MemPlace} (h:Tr w enc n 43 us.toList=some x) (hw:qE 43 x.1):∃ d:Rd,Ok0 d∧RD w (BD w) (aF d) (.agg us):=by
 obtain ⟨d,h1,h2,_⟩:=SQ hT h hw
 exact ⟨d,h1,ahw h2⟩
theorem ahy (hT:xA w) {n:Nat} {v:Value} {x:DataW H × List MemPlace} (h:Tr w enc n 40 [v]=some x) (hw:qE 40 x.1):∃ l:List Rd,((∀ d ∈ l,Ok0 d)∧l.length < 4611686018427387904)∧RD w (BD w) (x8 l) v:=by
 obtain ⟨l,v',e4,q1,q2,q3,q4,q5⟩:=CQ (k:=3) (bs:=40) Tryz.underlying40 (by kernel_rfl) (by decide) (by kernel_rfl) aW Ok0 hT (fun n cs' x=>SQ hT) h hw
 simp only [List.cons.injEq,and_true] at e4
 subst e4
 exact ⟨l,⟨q1,by unfold reachBytes at q2; omega⟩,q3⟩
end
end Go.Ab
namespace Go.Ab
open Go Go.Proofs Go.Shelf
def sB:Ren:=⟨fun | 166=>95 | 167=>94 | 169=>96 | 240=>145 | 276=>181 | n=>n,fun | 0=>0 | 3=>3 | 4=>4 | 5=>5 | 9=>9 | 20=>20 | 37=>119 | 70=>118 | 72=>121 | 75=>123 | 80=>127 | 127=>162 | 164=>184 | n=>n,fun n=>n⟩
theorem Dv:Lays.n166 Tryz.prog sB where
 mixed:=by kernel_rfl
 f166:=by kernel_rfl
 f240:=by kernel_rfl
 f276:=by kernel_rfl
 t0:=by kernel_rfl
 a0:=Tryz.isAgg0
 z0:=Tryz.sizeOf0
 v0:=Tryz.zeroValue0
 t3:=by kernel_rfl
 a3:=Tryz.isAgg3
 z3:=Tryz.sizeOf3
 v3:=Tryz.zeroValue3
 t4:=by kernel_rfl
 a4:=Tryz.isAgg4
 z4:=Tryz.sizeOf4
 v4:=Tryz.zeroValue4
 t9:=by kernel_rfl
 a9:=Tryz.isAgg9
 z9:=Tryz.sizeOf9
 v9:=Tryz.zeroValue9
 t20:=by kernel_rfl
 a20:=Tryz.isAgg20
 z20:=Tryz.sizeOf20
 v20:=Tryz.zeroValue20
 t37:=by kernel_rfl
 a37:=Tryz.isAgg119
 z37:=Tryz.sizeOf119
 v37:=Tryz.zeroValue119
 t70:=by kernel_rfl
 a70:=Tryz.isAgg118
 z70:=Tryz.sizeOf118
 v70:=Tryz.zeroValue118
 t72:=by kernel_rfl
 a72:=Tryz.isAgg121
 z72:=Tryz.sizeOf121
 v72:=Tryz.zeroValue121
 t75:=by kernel_rfl
 a75:=Tryz.isAgg123
 z75:=Tryz.sizeOf123
 v75:=Tryz.zeroValue123
 t164:=by kernel_rfl
 a164:=Tryz.isAgg184
 z164:=Tryz.sizeOf184
 v164:=Tryz.zeroValue184
theorem MI:Lays.n167 Tryz.prog sB where
 mixed:=by kernel_rfl
 f167:=by kernel_rfl
 f240:=by kernel_rfl
 f276:=by kernel_rfl
 t0:=by kernel_rfl
 a0:=Tryz.isAgg0
 z0:=Tryz.sizeOf0
 v0:=Tryz.zeroValue0
 t4:=by kernel_rfl
 a4:=Tryz.isAgg4
 z4:=Tryz.sizeOf4
 v4:=Tryz.zeroValue4
 t5:=by kernel_rfl
 a5:=Tryz.isAgg5
 z5:=Tryz.sizeOf5
 v5:=Tryz.zeroValue5
 t9:=by kernel_rfl
 a9:=Tryz.isAgg9
 z9:=Tryz.sizeOf9
 v9:=Tryz.zeroValue9
 t20:=by kernel_rfl
 a20:=Tryz.isAgg20
 z20:=Tryz.sizeOf20
 v20:=Tryz.zeroValue20
 t37:=by kernel_rfl
 a37:=Tryz.isAgg119
 z37:=Tryz.sizeOf119
 v37:=Tryz.zeroValue119
 t70:=by kernel_rfl
 a70:=Tryz.isAgg118
 z70:=Tryz.sizeOf118
 v70:=Tryz.zeroValue118
 t72:=by kernel_rfl
 a72:=Tryz.isAgg121
 z72:=Tryz.sizeOf121
 v72:=Tryz.zeroValue121
 t75:=by kernel_rfl
 a75:=Tryz.isAgg123
 z75:=Tryz.sizeOf123
 v75:=Tryz.zeroValue123
 t164:=by kernel_rfl
 a164:=Tryz.isAgg184
 z164:=Tryz.sizeOf184
 v164:=Tryz.zeroValue184
theorem Dw:Lays.n169 Tryz.prog sB where
 mixed:=by kernel_rfl
 f169:=by kernel_rfl
 t0:=by kernel_rfl
 a0:=Tryz.isAgg0
 z0:=Tryz.sizeOf0
 v0:=Tryz.zeroValue0
 t3:=by kernel_rfl
 a3:=Tryz.isAgg3
 z3:=Tryz.sizeOf3
 v3:=Tryz.zeroValue3
 t9:=by kernel_rfl
 a9:=Tryz.isAgg9
 z9:=Tryz.sizeOf9
 v9:=Tryz.zeroValue9
 t37:=by kernel_rfl
 a37:=Tryz.isAgg119
 z37:=Tryz.sizeOf119
 v37:=Tryz.zeroValue119
 t70:=by kernel_rfl
 a70:=Tryz.isAgg118
 z70:=Tryz.sizeOf118
 v70:=Tryz.zeroValue118
 t72:=by kernel_rfl
 a72:=Tryz.isAgg121
 z72:=Tryz.sizeOf121
 v72:=Tryz.zeroValue121
 t127:=by kernel_rfl
 a127:=Tryz.isAgg162
 z127:=Tryz.sizeOf162
 v127:=Tryz.zeroValue162
theorem tW:Builder.Extra Tryz.prog sB where
 sizeBuilder:=by kernel_rfl
 liesBuilder:=by kernel_rfl
 t5:=by kernel_rfl
 a5:=Tryz.isAgg5
 z5:=Tryz.sizeOf5
 v5:=Tryz.zeroValue5
 infoByte:=by kernel_rfl
 cellsByte:=by kernel_rfl
 sizeByte:=by kernel_rfl
 neB5:=by decide
end Go.Ab
namespace Go.Ab
open Go Go.Proofs Go.Shelf Go.RowKit
set_option maxHeartbeats 4000000
set_option maxRecDepth 1000000
theorem BE {T e:TypeId} {B b:Nat} {p:Value} {bs:List Value} {w w':World} (h:Lib.BuilderAtF T e B b p bs w) (hb:Below w.heap.size w w'):Lib.BuilderAtF T e B b p bs w':=by
 obtain ⟨h1,v,h2,⟨h3,h4⟩,h5⟩:=h
 have hlt:b < w.heap.size:=(Array.getElem?_eq_some_iff.1 h2).1
 refine ⟨h1,v,(hb.block _ hlt).trans h2,⟨h3,?_⟩,h5⟩
 rcases h4 with h4 | ⟨g,cap,sA,fz,g1,g2,g3,g4⟩
 ·exact .inl h4
 ·exact .inr ⟨g,cap,sA,fz,g1,g2,(hb.block _ (Array.getElem?_eq_some_iff.1 g3).1).trans g3,g4⟩
theorem BF {T e:TypeId} {B b:Nat} {bs:List Value} {w w':World} (h:Lib.IsBuilderF T e B b bs w) (hb:Below w.heap.size w w'):Lib.IsBuilderF T e B b bs w':=h.imp (fun h=>BE h hb) (fun h=>BE h hb)
theorem Q5 (n:Bool) (a:Option Addr) (l cap:Nat) (e:Int) (t u:List UInt8) (w:World) (hl:(l:Int) ≠ 0) (ht:t.length≤10000) (hu:u.length≤1000)
  (hV:∀ w1,Below w.heap.size w w1→Calls Tryz.prog F.dyadic_Valid #[.agg #[.bool n,.slice a l cap,.int .i64 e]] w1 fun x w2=>x=.returned (.bool true)∧Below w1.heap.size w1 w2)
  (hT:∀ w1,Below w.heap.size w w1→Calls Tryz.prog F.natural_Text #[.slice a l cap] w1 fun x w2=>x=.returned (.tuple #[.string ⟨t.toArray⟩,.int .i64 0])∧Below w1.heap.size w1 w2)
  (hI:∀ w1,Below w.heap.size w w1→Calls Tryz.prog F.strconv_Itoa #[.int .i64 e] w1 fun x w2=>x=.returned (.string ⟨u.toArray⟩)∧Below w1.heap.size w1 w2) :
  Calls Tryz.prog F.dyadic_Text #[.agg #[.bool n,.slice a l cap,.int .i64 e]] w fun x w'=>x=.returned (.tuple #[.string ⟨((if n then [45] else [])++t++[112]++u).toArray⟩,.int .i64 0])∧Below w.heap.size w w':=by
 go_enter Tryz.func44,Tryz.ntmps44
 go_wp2_with (go_at_call 64; refine (hV _ ((Below.refl _ w).alloc (Nat.le_refl _) _)).mono ?_)
 rintro x W1 ⟨rfl,b1⟩
 have b01:Below w.heap.size w W1:=((Below.refl _ w).alloc (Nat.le_refl _) _).trans (b1.mono (by simp))
 have s1:w.heap.size < W1.heap.size:=Nat.lt_of_lt_of_le (by simp) b1.size
 have hb1:W1.heap[w.heap.size]?=some (.cells #[.bool n,.slice a l cap,.int .i64 e] 43 (0,0)):=by
  rw [b1.block _ (by simp)]
  exact heap_alloc_new w _
 have c1:W1.cell? ⟨w.heap.size,1,none⟩=some (.slice a l cap):=by simp [World.cell?,hb1]
 go_wp2_with (go_at_call 93; refine (hT _ b01).mono ?_)
 rintro x W2 ⟨rfl,b2⟩
 have b02:Below w.heap.size w W2:=b01.trans (b2.mono (by omega))
 have s2:w.heap.size < W2.heap.size:=Nat.lt_of_lt_of_le s1 b2.size
 have hb2:W2.heap[w.heap.size]?=some (.cells #[.bool n,.slice a l cap,.int .i64 e] 43 (0,0)):=(b2.block _ s1).trans hb1
 have hb3:(W2.alloc (.cells #[.pointer none,.slice none 0 0] 121)).heap[w.heap.size]?=some (.cells #[.bool n,.slice a l cap,.int .i64 e] 43 (0,0)):=(pk W2 _ s2).trans hb2
 have d0:(W2.alloc (.cells #[.pointer none,.slice none 0 0] 121)).cell? ⟨w.heap.size,0,none⟩=some (.bool n):=by simp only [World.cell?,hb3]; rfl
 have d2:(W2.alloc (.cells #[.pointer none,.slice none 0 0] 121)).cell? ⟨w.heap.size,2,none⟩=some (.int .i64 e):=by simp only [World.cell?,hb3]; rfl
 have hB:=Lib.IsBuilderF.of (Lib.fresh_isBuilder 121 5 W2)
 have b03:Below w.heap.size w (W2.alloc (.cells #[.pointer none,.slice none 0 0] 121)):=b02.trans ((Below.refl _ W2).alloc (Nat.le_of_lt s2) _)
 have sS:(ByteArray.mk t.toArray++ByteArray.mk #[112]++ByteArray.mk u.toArray).data.toList=t++[112]++u:=by simp
 have sZ:(ByteArray.mk t.toArray++ByteArray.mk #[112]++ByteArray.mk u.toArray).size=t.length+1+u.length:=by simp [ByteArray.size]; omega
 cases n with
 | true =>
  go_wp2_with (go_at_call 94; refine (Any.Builder_WriteByte_k MI tW W2.heap.size W2.heap.size [] 45 _ hB (by simp) (by simp)).mono ?_)
  rintro x W3 ⟨rfl,hB3,b3,_⟩
  have b03':Below w.heap.size w W3:=b03.trans (b3.mono (Nat.le_of_lt s2))
  have e2:W3.cell? ⟨w.heap.size,2,none⟩=some (.int .i64 e):=by simp only [World.cell?,(b3.block _ s2).trans hb3]; rfl
  go_wp2_with (go_at_call 45; refine (hI _ b03').mono ?_)
  rintro x W4 ⟨rfl,b4⟩
  have b04:Below w.heap.size w W4:=b03'.trans (b4.mono b03'.size)
  have hB4:=BF (.inr hB3) b4
  have s4:W2.heap.size≤W4.heap.size:=Nat.le_trans (Nat.le_trans (by simp) b3.size) b4.size
  go_wp2_with (go_at_call 95; refine (Any.Builder_WriteString_k Dv tW W2.heap.size W2.heap.size _ (ByteArray.mk t.toArray++ByteArray.mk #[112]++ByteArray.mk u.toArray) _ hB4 (by rw [sZ]; simp; omega) s4).mono ?_)
  rintro x W5 ⟨rfl,hB5,b5,_⟩
  have b05:Below w.heap.size w W5:=b04.trans (b5.mono (Nat.le_of_lt s2))
  have hB5':Lib.IsBuilderF (sB.t 72) (sB.t 5) W2.heap.size W2.heap.size (Lib.byteCells (45::(t++[112]++u))) W5:=by
   rw [show Lib.byteCells (45::(t++[112]++u))=[]++[Value.int .u8 45]++Lib.strCells (ByteArray.mk t.toArray++ByteArray.mk #[112]++ByteArray.mk u.toArray) by rw [Lib.strCells_eq,sS]; rfl]
   exact .inr hB5
  go_wp2_with (go_at_call 96; refine (Any.Builder_String_any_k Dw tW W2.heap.size W2.heap.size _ _ hB5' (Nat.le_trans s4 b5.size)).mono ?_)
  rintro x W6 ⟨rfl,_,b6,_⟩
  go_wp2
  go_ret2
  exact ⟨by simp,b05.trans (b6.mono (Nat.le_of_lt s2))⟩
 | false =>
  go_wp2_with (go_at_call 45; refine (hI _ b03).mono ?_)
  rintro x W4 ⟨rfl,b4⟩
  have b04:Below w.heap.size w W4:=b03.trans (b4.mono b03.size)
  have hB4:=BF hB b4
  have s4:W2.heap.size≤W4.heap.size:=Nat.le_trans (by simp) b4.size
  go_wp2_with (go_at_call 95; refine (Any.Builder_WriteString_k Dv tW W2.heap.size W2.heap.size _ (ByteArray.mk t.toArray++ByteArray.mk #[112]++ByteArray.mk u.toArray) _ hB4 (by rw [sZ]; simp; omega) s4).mono ?_)
  rintro x W5 ⟨rfl,hB5,b5,_⟩
  have b05:Below w.heap.size w W5:=b04.trans (b5.mono (Nat.le_of_lt s2))
  have hB5':Lib.IsBuilderF (sB.t 72) (sB.t 5) W2.heap.size W2.heap.size (Lib.byteCells (t++[112]++u)) W5:=by
   rw [show Lib.byteCells (t++[112]++u)=[]++Lib.strCells (ByteArray.mk t.toArray++ByteArray.mk #[112]++ByteArray.mk u.toArray) by rw [Lib.strCells_eq,sS]; rfl]
   exact .inr hB5
  go_wp2_with (go_at_call 96; refine (Any.Builder_String_any_k Dw tW W2.heap.size W2.heap.size _ _ hB5' (Nat.le_trans s4 b5.size)).mono ?_)
  rintro x W6 ⟨rfl,_,b6,_⟩
  go_wp2
  go_ret2
  exact ⟨by simp,b05.trans (b6.mono (Nat.le_of_lt s2))⟩
end Go.Ab
namespace Go.Ab
open Go Go.Proofs Go.Shelf Go.RowKit
set_option maxRecDepth 100000
theorem iT {args:List AV} {vals:Array Value} (h:vals.size=args.length) {i:Nat} {c:AV} (hc:args[i]?=some c):∃ u,vals[i]?=some u:=by
 have:i < args.length:=(List.getElem?_eq_some_iff.1 hc).1
 exact ⟨vals[i]'(by omega),by simp [h,this]⟩
theorem SR {vals:Array Value} {a:Value} (h:vals.size=1) (h0:vals[0]?=some a):vals=#[a]:=by
 apply Array.ext_getElem?
 intro i
 match i with
 | 0=>simpa using h0
 | i+1=>simp [h]
theorem SS {vals:Array Value} {a b:Value} (h:vals.size=2) (h0:vals[0]?=some a) (h1:vals[1]?=some b):vals=#[a,b]:=by
 apply Array.ext_getElem?
 intro i
 match i with
 | 0=>simpa using h0
 | 1=>simpa using h1
 | i+2=>simp [h]
theorem Dx {w:World} {a:Addr} {us:Array Value} {e:TypeId} (h:w.heap[a.block]?=some (.cells us e (0,0))):w.frozen? a=false:=by
 simp [World.frozen?,h]
theorem Q6 {P:Program} (w:World) (tS tR e:TypeId) (ht:P.underlying tS=some (.slice e)) (size:Nat) (hz:∀ w,(Go.sizeOf e).run P w=.ok size w) (a:Addr) (b:Option Addr) (la ca cb:Nat) :
  (Extern.SlicesOverlaps.overlaps #[tS,tS] #[tR] #[.slice (some a) la ca,.slice b 0 cb]).run P w=.ok (.bool false) w:=by
 change Sem.run P (α:=Value) (do
  let some t := (#[tS, tS] : Array TypeId)[0]? | stuck "slices.overlaps: no parameter types"
  let .slice elem ← underlying t | stuck "slices.overlaps: slice type expected"
  let size ← sizeOf elem
  match (some a:Option Addr),b with
  | some a,some b =>
   if la=0∨0=0∨size=0 then pure (Value.bool false)
   else if a.block != b.block && (← frozen a) && (← frozen b) then unsupported .addressObserved
   else do
    if a.block != b.block then do
     noView a; noView b
     if ← mayBeOne a b then return Value.bool ((← choose (.extern "sameAddr.stringBytes" 2)) == 1)
    pure (Value.bool (a.block == b.block && a.off < b.off+0*size && b.off < a.off+la*size))
  | _,_=>pure (Value.bool false)) w=_
 cases b <;> simp [run_underlying ht,hz]
theorem ST {P:Program} (w:World) (tS tR e:TypeId) (ht:P.underlying tS=some (.slice e)) (size:Nat) (hz:∀ w,(Go.sizeOf e).run P w=.ok size w)
  (a b:Addr) (la ca lb cb:Nat) (hne:a.block ≠ b.block) (tA:TypeId) (kA:Nat) {us:Array Value} {tB:TypeId}
  (hkA:kA ≠ 0) (hsa:w.shape? a.block=some (tA,kA)) (hb:w.heap[b.block]?=some (.cells us tB (0,0))) (hu:us.size ≠ 0) :
  (Extern.SlicesOverlaps.overlaps #[tS,tS] #[tR] #[.slice (some a) la ca,.slice (some b) lb cb]).run P w=.ok (.bool false) w:=by
 have hnb:(a.block != b.block)=true:=by simpa using hne
 have hnb':(a.block == b.block)=false:=by simpa using hne
 have hsb:w.shape? b.block=some (tB,us.size):=by simp [World.shape?,hb]
 have hfb:w.frozen? b=false:=Dx hb
 have hfe:w.frozen? { block:=b.block,off:=us.size }=false:=Dx (a:=⟨b.block,us.size,none⟩) hb
 change Sem.run P (α:=Value) (do
  let some t := (#[tS, tS] : Array TypeId)[0]? | stuck "slices.overlaps: no parameter types"
  let .slice elem ← underlying t | stuck "slices.overlaps: slice type expected"
  let size ← sizeOf elem
  match (some a:Option Addr),(some b:Option Addr) with
  | some a,some b =>
   if la=0∨lb=0∨size=0 then pure (Value.bool false)
   else if a.block != b.block && (← frozen a) && (← frozen b) then unsupported .addressObserved
   else do
    if a.block != b.block then do
     noView a; noView b
     if ← mayBeOne a b then return Value.bool ((← choose (.extern "sameAddr.stringBytes" 2)) == 1)
    pure (Value.bool (a.block == b.block && a.off < b.off+lb*size && b.off < a.off+la*size))
  | _,_=>pure (Value.bool false)) w=_
 by_cases h0:la=0∨lb=0∨size=0
 ·simp [run_underlying ht,hz,h0]
 ·obtain ⟨n,hn⟩:∃ n,us.size=n+1:=⟨us.size - 1,by omega⟩
  rw [hn] at hsb hfe
  obtain ⟨kA,rfl⟩:∃ k,kA=k+1:=⟨kA - 1,by omega⟩
  cases hfa:w.frozen? a <;> cases hfa2:w.frozen? { block:=a.block,off:=kA+1 } <;>
   simp [run_underlying ht,hz,h0,hnb,hnb',frozen,noView,viewAt,mayBeOne,stringish,shape,Sem.run,hsa,hsb,hfa,hfa2,hfb,hfe]
theorem KX {w:World} {a:Addr} {v:Value} (h:w.cell? a=some v):∃ t k,k ≠ 0∧w.shape? a.block=some (t,k):=by
 unfold World.cell? at h
 split at h
 ·rename_i cs t fr hb
  refine ⟨t,cs.size,fun h0=>?_,by unfold World.shape?; rw [hb]⟩
  split at h
  ·cases h
  ·have:=(Array.getElem?_eq_some_iff.1 h).1
   omega
 ·cases h
theorem SU {P : Program} {I : Inv} {f : FuncId} {fn : Func} {tS tR e : TypeId} {size : Nat} (hf : P.funcs[f]? = some fn) (hname : (fn.name == "runtime.NumGoroutine") = false) (hb : fn.body.isNone = true) (hn : Extern.findNext fn = none)
  (he:Extern.find fn=some (Extern.SlicesOverlaps.overlaps #[tS,tS] #[tR])) (ht:P.underlying tS=some (.slice e)) (hz:∀ w,(Go.sizeOf e).run P w=.ok size w):ft P I false f (IK 4):=by
 intro args obs obs' res w X ρ vals n hz' hn' hi hr hs hv
 unfold IK at hz'
 split at hz'
 ·rename_i k0 row rows k1 lo m k2 rows2
  split at hz'
  ·rename_i hk
   obtain ⟨rfl,rfl,rfl⟩:=hk
   cases hz'
   obtain ⟨u0,h0⟩:=iT hs (i:=0) rfl
   obtain ⟨u1,h1⟩:=iT hs (i:=1) rfl
   have e0:=hv 0 _ _ rfl h0
   have e1:=hv 1 _ _ rfl h1
   obtain rfl:=SS hs h0 h1
   have d0:=e0.sl_inv
   obtain ⟨a1,cap1,rfl,hp,hn1,hb1,ha1⟩:=e1.rsl_inv
   have ho:RO w (ap w X (ae [.ar 4 rows2]) ρ) ρ (ae [.ar 4 rows2]) 1000 (.ar 4 rows2):=hr.ob 1000
   obtain ⟨us,tB,g1,g2,g3,g4⟩:=ho
   have hlive:live (ae [.ar 4 rows2]) 1000 none:=trivial
   cases d0 with
   | sl _ _ a cap ad vs hc ha hk hv2 hl hr2 =>
    obtain ⟨rfl,hA,hsp⟩:=ha (by simp)
    have hlen:=hk row (by simp)
    obtain ⟨c,hrow⟩:∃ c,row[0]?=some c:=⟨row[0]'(by omega),by simp⟩
    have hcell:=hv2 0 row 0 c rfl hrow
    obtain ⟨tA,kA,hkA,hsh⟩:=KX hcell
    rw [ip] at hsh
    have run:(callFunc f #[.slice (some ad) (row::rows).length cap,.slice a1 m cap1]).run P w=.ok (.value (.bool false)) w:=by
     rw [run_callFunc_extern hf hname hb hn he]
     by_cases hm:m=0
     ·subst hm
      rw [Q6 w tS tR e ht size hz]
      rfl
     ·rcases ha1 with h | rfl
      ·omega
      ·rw [ST w tS tR e ht size hz ad ⟨(ρ 1000 none).1,lo*4,none⟩ _ cap m cap1 (fun hh=>hA.2.2 ⟨1000,none,hlive,hh.symm⟩) tA kA hkA hsh g1 (by omega)]
       rfl
    unfold Enters
    rw [run]
    exact ⟨ρ,hr,.refl _ _ _ _,.dat (.v _ rfl)⟩
  ·cases hz'
 ·cases hz'
theorem Q7 {P:Program} {I:Inv} (hR:ft P I false F.slices_Insert_api_Term_api_Term_ (R0 F.slices_Insert_api_Term_api_Term_)):ft P I false F.slices_Insert_api_Term_api_Term_ (Gb 4 64):=by
 intro args obs obs' res w X ρ vals n hz hn hi hr hs hv
 unfold Gb at hz
 split at hz
 ·rename_i k0 r
  split at hz
  ·rename_i hk
   subst hk
   cases hz
   exact hR QZ hn hi hr hs hv
  ·cases hz
 ·rename_i k1 m i k0 r k2 rows
  split at hz
  ·rename_i hk
   obtain ⟨rfl,rfl,rfl,rfl,hi0,hi1,hb⟩:=hk
   cases hz
   obtain ⟨i,rfl⟩:=Int.eq_ofNat_of_zero_le hi0
   rw [Int.toNat_natCast]
   by_cases hend:i=rows.length
   ·subst hend
    have:=hR (ME (r:=r) rfl hb) hn hi hr hs hv
    rw [List.take_of_length_le (Nat.le_refl _),List.drop_eq_nil_of_le (Nat.le_refl _)]
    exact this
   ·have hlt:i < rows.length:=by omega
    obtain ⟨u0,h0⟩:=iT hs (i:=0) rfl
    obtain ⟨a,cap,rfl,hp,hn1,hb1,ha⟩:=(hv 0 _ _ rfl h0).rsl_inv
    have hv':∀ (j:Nat) (c:AV) (u:Value),[AV.rsc 1000 4 0 rows.length cap,.v (.int .i64 i),.sl 4 [r]][j]?=some c→vals[j]?=some u→RV w (ap w X (ae [.ar 4 rows]) ρ) ρ (ae [.ar 4 rows]) c u:=by
     intro j c u hc hu
     match j,hc with
     | 0,hc =>
      cases hc
      rw [h0] at hu
      cases hu
      exact .rsc 1000 4 0 _ cap a hp hn1 hb1 ha
     | j+1,hc=>exact hv (j+1) c u hc hu
    rcases Nat.lt_or_ge rows.length cap with hc | hc
    ·exact hR (Q2 rfl hlt hc hb) hn hi hr hs hv'
    ·obtain rfl:cap=rows.length:=by omega
     refine (hR (Q1 rfl hlt hb) hn hi hr hs hv').mono fun v w' ⟨ρ',q1,q2,q3⟩=>?_
     generalize rows.take i++r::rows.drop i=L at q1 q2 q3 ⊢
     have hd:=AG q1 (id:=1000) (k:=4) (rows:=rows) (by
      show (if 1000=n then _ else _)=_
      rw [if_neg (by omega)]
      rfl)
     have eq:upd (mat n (ae [.ar 4 rows]) (.osl 4 L)).2 1000 .dead=(mat n (ae [.dead]) (.osl 4 L)).2:=by
      show upd (upd (ae [.ar 4 rows]) n (.ar 4 L)) 1000 .dead=upd (ae [.dead]) n (.ar 4 L)
      rw [oR,oR]
      funext j
      unfold upd
      by_cases h1:j=1000
      ·rw [if_pos h1,if_neg (by omega),if_pos h1]
      ·rw [if_neg h1,if_neg h1,if_neg h1]
     rw [eq] at hd
     refine ⟨ρ',hd.1,q2.trans (hd.2.far rfl),hd.2.rvk q3 (.inr ?_)⟩
     show dV [(1000,false)] n none=false
     simp [dV]
     omega
  ·cases hz
 ·cases hz
theorem lT {w w':World} {X:Nat→Prop} {ρ:aT} (hr:Rel w X ρ (ae [])) (hb:Below w.heap.size w w'):Rel w' X ρ (ae [])∧Far false w ρ (ae []) w' ρ (ae []):=by
 have hl:∀ id sub,¬ live (ae []) id sub:=fun id sub=>by
  have hd:ae [] id=.dead:=by
   unfold ae
   split <;> simp
  cases sub with
  | none=>simp [live,hd]
  | some p=>simp [live,hd]
 refine ⟨⟨fun id sub _ _ h=>(hl id sub h).elim,fun id sub h=>(hl id sub h).elim,fun id=>?_,fun b hb'=>Nat.lt_of_lt_of_le (hr.xl b hb') hb.size⟩,hb.os,hb.tape,hb.output,hb.size,fun b h1 _=>hb.block b h1,fun b ⟨id,sub,h,_⟩=>(hl id sub h).elim,fun id _ h=>?_,fun h=>by cases h⟩
 ·have hd:ae [] id=.dead:=by
   unfold ae
   split <;> simp
  rw [hd]
  trivial
 ·exfalso
  apply h
  unfold ae
  split <;> simp
theorem MJ {w w':World} {X:Nat→Prop} {ρ:aT} {b:Nat} (h:ap w X (ae []) ρ b) (hb:Below w.heap.size w w'):ap w' X (ae []) ρ b∧w'.heap[b]?=w.heap[b]? :=
 ⟨⟨Nat.lt_of_lt_of_le h.1 hb.size,h.2.1,h.2.2⟩,hb.block b h.1⟩
theorem SV {P:Program} {I:Inv} {ρ0:Ren} (L:Lays2.n15 P ρ0) (hf:ρ0.f 15=F.slices_Clone_int_int_) (he:∀ a w,(callFunc F.slices_Clone_int_int_ a).run P w=.ok (.enter F.slices_Clone_int_int_ a) w)
  (hR:ft P I false F.slices_Clone_int_int_ (R0 F.slices_Clone_int_int_)):ft P I false F.slices_Clone_int_int_ LQ:=by
 intro args obs obs' res w X ρ vals n hz hn hi hr hs hv
 unfold LQ at hz
 split at hz
 ·cases hz
  obtain ⟨u0,h0⟩:=iT hs (i:=0) rfl
  have d0:=(hv 0 _ _ rfl h0).sl_inv
  obtain rfl:=SR hs h0
  cases d0 with
  | sl _ _ a cap ad vs hc ha hk hv2 hl hr2 =>
   unfold Enters
   rw [he]
   have fin:∀ (w':World) (b:Option Addr) (c:Nat),Below w.heap.size w w'→∃ ρ',Rel w' X ρ' (mat n (ae []) (.sl 1 [])).2∧Far false w ρ (ae []) w' ρ' (mat n (ae []) (.sl 1 [])).2 ∧
     RV w' (ap w' X (mat n (ae []) (.sl 1 [])).2 ρ') ρ' (mat n (ae []) (.sl 1 [])).2 (mat n (ae []) (.sl 1 [])).1 (.slice b 0 c):=fun w' b c hb =>
    ⟨ρ,(lT hr hb).1,(lT hr hb).2,.dat (.sl 1 [] b c ad vs (Nat.zero_le _) (fun h=>absurd rfl h) (fun _ h=>by cases h) (fun i row j c h=>by simp at h) (fun _ h=>by cases h) (fun i row j c h=>by simp at h))⟩
   cases a with
   | none =>
    have key:=Any.slices_Clone_int_nil L 0 cap w
    rw [hf] at key
    refine Calls.mono key fun e w' hw=>?_
    obtain ⟨rfl,rfl⟩:=hw
    exact fin _ _ _ (Below.refl _ _)
   | some a0 =>
    have key:=Any.slices_Clone_int_zero L a0 cap w
    rw [hf] at key
    refine Calls.mono key fun e w' hw=>?_
    obtain ⟨v',rfl,⟨_,hown⟩,_,hb⟩:=hw
    rcases hown with ⟨rfl,_⟩ | ⟨g,c2,sA,rfl,_⟩
    ·exact fin _ _ _ hb
    ·exact fin _ _ _ hb
 ·rename_i r rs
  split at hz
  ·rename_i hb
   cases hz
   exact hR (OW hb) hn hi hr hs hv
  ·cases hz
 ·cases hz
end Go.Ab
namespace Go.Ab
open Go Go.Proofs Go.RowKit
set_option maxRecDepth 100000
theorem RV.tup_inv {w:World} {A:Nat→Prop} {ρ:aT} {h:aa} {vs:List AV} {u:Value} (hv:RV w A ρ h (.tup vs) u):∃ us:Array Value,u=.tuple us∧us.size=vs.length∧∀ (i:Nat) (c:AV) (u:Value),vs[i]?=some c→us[i]?=some u→RV w A ρ h c u:=by
 cases hv with
 | dat hd=>cases hd
 | tup _ us hs hr=>exact ⟨us,rfl,hs,hr⟩
theorem Al {P:Program} {I:Inv} {f:FuncId} {g:List AV→List Ob→Option (AV × List Ob)} (hR:ft P I false f g) {args:List AV} {vals:Array Value} {w:World} {X:Nat→Prop} {ρ:aT} {res:AV}
  (he:(callFunc f vals).run P w=.ok (.enter f vals) w) (hz:g args []=some (res,[])) (hm:mat 2000 (ae []) res=(res,ae [])) (hi:I.p w X) (hr:Rel w X ρ (ae [])) (hs:vals.size=args.length)
  (hv:∀ (i:Nat) (c:AV) (u:Value),args[i]?=some c→vals[i]?=some u→RV w (ap w X (ae []) ρ) ρ (ae []) c u) :
  Calls P f vals w fun e w'=>(∃ v ρ',e=.returned v∧RV w' (ap w' X (ae []) ρ') ρ' (ae []) res v)∧Below w.heap.size w w':=by
 have key:=hR hz (Nat.le_refl 2000) hi hr hs hv
 unfold Enters at key
 rw [he] at key
 refine Calls.mono key fun e w' hw=>?_
 cases e with
 | returned v =>
  obtain ⟨ρ',r,far,rv⟩:=hw
  rw [hm] at rv far
  have hl:∀ id sub,¬ live (ae []) id sub:=fun id sub=>by
   have hd:ae [] id=.dead:=by
    unfold ae
    split <;> simp
   cases sub with
   | none=>simp [live,hd]
   | some p=>simp [live,hd]
  exact ⟨⟨v,ρ',rfl,rv⟩,far.os,far.tape,far.output,far.size,fun k hk=>far.old k hk fun ⟨id,sub,h,_⟩=>hl id sub h⟩
 | _=>exact hw.elim
theorem O0 (n:Bool) (e:Int) (he:e=0∨e=1):R0 F.dyadic_Valid [.agg [B n,.sl 1 [[U 1]],I e]] []=some (B true,[]):=by
 rcases he with rfl | rfl <;> cases n
 ·exact hF [] 40 (F.dyadic_Valid,[.agg [B false,.sl 1 [[U 1]],I 0]],B true) bO (by kernel_rfl)
 ·exact hF [] 40 (F.dyadic_Valid,[.agg [B true,.sl 1 [[U 1]],I 0]],B true) bO (by kernel_rfl)
 ·exact hF [] 40 (F.dyadic_Valid,[.agg [B false,.sl 1 [[U 1]],I 1]],B true) bO (by kernel_rfl)
 ·exact hF [] 40 (F.dyadic_Valid,[.agg [B true,.sl 1 [[U 1]],I 1]],B true) bO (by kernel_rfl)
theorem Q8 (e:Int) (he:e=0∨e=1):R0 F.strconv_Itoa [I e] []=some (S ⟨[if e=0 then (48:UInt8) else 49].toArray⟩,[]):=by
 rcases he with rfl | rfl
 ·exact hF [] 40 (F.strconv_Itoa,[I 0],S ⟨[(48:UInt8)].toArray⟩) bO (by kernel_rfl)
 ·exact hF [] 40 (F.strconv_Itoa,[I 1],S ⟨[(49:UInt8)].toArray⟩) bO (by kernel_rfl)
theorem O1:R0 F.natural_Text [.sl 1 [[U 1]]] []=some (.tup [S ⟨[(49:UInt8)].toArray⟩,I 0],[]) :=
 hF [] 60 (F.natural_Text,[.sl 1 [[U 1]]],.tup [S ⟨[(49:UInt8)].toArray⟩,I 0]) bO (by kernel_rfl)
theorem Z7 {vals:Array Value} {a b c:Value} (h:vals.size=3) (h0:vals[0]?=some a) (h1:vals[1]?=some b) (h2:vals[2]?=some c):vals=#[a,b,c]:=by
 apply Array.ext_getElem?
 intro i
 match i with
 | 0=>simpa using h0
 | 1=>simpa using h1
 | 2=>simpa using h2
 | i+3=>simp [h]
theorem VC {I:Inv} (hV:ft Tryz.prog I false F.dyadic_Valid (R0 F.dyadic_Valid)) (hT:ft Tryz.prog I false F.natural_Text (R0 F.natural_Text)) (hI:ft Tryz.prog I false F.strconv_Itoa (R0 F.strconv_Itoa))
  (eV:∀ a w,(callFunc F.dyadic_Valid a).run Tryz.prog w=.ok (.enter F.dyadic_Valid a) w) (eT:∀ a w,(callFunc F.natural_Text a).run Tryz.prog w=.ok (.enter F.natural_Text a) w)
  (eI:∀ a w,(callFunc F.strconv_Itoa a).run Tryz.prog w=.ok (.enter F.strconv_Itoa a) w) (eD:∀ a w,(callFunc F.dyadic_Text a).run Tryz.prog w=.ok (.enter F.dyadic_Text a) w) :
  ft Tryz.prog I false F.dyadic_Text Sa:=by
 intro args obs obs' res w X ρ vals n hz hn hi hr hs hv
 unfold Sa at hz
 split at hz
 ·rename_i nb m e
  split at hz
  ·rename_i hc
   obtain ⟨rfl,he,rfl⟩:=hc
   cases hz
   obtain ⟨u0,h0⟩:=iT hs (i:=0) rfl
   obtain ⟨us,rfl,hsz,_,hr2⟩:=(hv 0 _ _ rfl h0).agg_inv
   obtain rfl:=SR hs h0
   obtain ⟨v0,g0⟩:=iT (args:=[B nb,.sl 1 [[.v (.int .u32 1)]],.v (.int .i64 e)]) hsz (i:=0) rfl
   obtain ⟨v1,g1⟩:=iT (args:=[B nb,.sl 1 [[.v (.int .u32 1)]],.v (.int .i64 e)]) hsz (i:=1) rfl
   obtain ⟨v2,g2⟩:=iT (args:=[B nb,.sl 1 [[.v (.int .u32 1)]],.v (.int .i64 e)]) hsz (i:=2) rfl
   obtain ⟨rfl,_⟩:=(hr2 0 _ _ rfl g0).v_inv
   obtain ⟨rfl,_⟩:=(hr2 2 _ _ rfl g2).v_inv
   have d1:=(hr2 1 _ _ rfl g1).sl_inv
   obtain rfl:=Z7 hsz g0 g1 g2
   obtain ⟨a,l,cap,rfl⟩:∃ a l cap,v1=.slice a l cap:=by
    cases d1
    exact ⟨_,_,_,rfl⟩
   have hl:l=1:=by
    cases d1
    rfl
   subst hl
   have d1':∀ {w1:World},Below w.heap.size w w1→RD w1 (ap w1 X (ae []) ρ) (.sl 1 [[.v (.int .u32 1)]]) (.slice a 1 cap):=fun hb=>d1.mono fun b h=>MJ h hb
   have inv:∀ {w1:World},Below w.heap.size w w1→I.p w1 X:=fun hb=>I.stab hi fun b h=>hb.block b (hr.xl b h)
   unfold Enters
   rw [eD]
   refine Calls.mono (Q5 nb a 1 cap e [49] [if e=0 then 48 else 49] w (by decide) (by decide) (Nat.le_of_lt (by decide:1 < 1000)) (fun w1 hb=>?_) (fun w1 hb=>?_) fun w1 hb=>?_) fun ex w' hw=>?_
   ·refine Calls.mono (Al hV (eV _ _) (O0 nb e he) rfl (inv hb) (lT hr hb).1 rfl fun i c u hc hu=>?_) fun ex w2 hw=>?_
    ·match i,hc with
     | 0,hc =>
      cases hc
      cases hu
      refine .dat (.agg _ _ rfl (fun i u hu=>?_) fun i c u hc hu=>?_)
      ·match i,hu with
       | 0,hu=>cases hu; rfl
       | 1,hu=>cases hu; rfl
       | 2,hu=>cases hu; rfl
      ·match i,hc,hu with
       | 0,hc,hu=>cases hc; cases hu; exact .v _ rfl
       | 1,hc,hu=>cases hc; cases hu; exact d1' hb
       | 2,hc,hu=>cases hc; cases hu; exact .v _ rfl
    ·obtain ⟨⟨v,ρ',rfl,rv⟩,hb2⟩:=hw
     obtain ⟨rfl,_⟩:=rv.v_inv
     exact ⟨rfl,hb2⟩
   ·refine Calls.mono (Al hT (eT _ _) O1 rfl (inv hb) (lT hr hb).1 rfl fun i c u hc hu=>?_) fun ex w2 hw=>?_
    ·match i,hc with
     | 0,hc =>
      cases hc
      cases hu
      exact .dat (d1' hb)
    ·obtain ⟨⟨v,ρ',rfl,rv⟩,hb2⟩:=hw
     obtain ⟨us,rfl,h1,h2⟩:=rv.tup_inv
     obtain ⟨x0,q0⟩:=iT (args:=[S ⟨[(49:UInt8)].toArray⟩,.v (.int .i64 0)]) h1 (i:=0) rfl
     obtain ⟨x1,q1⟩:=iT (args:=[S ⟨[(49:UInt8)].toArray⟩,.v (.int .i64 0)]) h1 (i:=1) rfl
     obtain ⟨rfl,_⟩:=(h2 0 _ _ rfl q0).v_inv
     obtain ⟨rfl,_⟩:=(h2 1 _ _ rfl q1).v_inv
     obtain rfl:=SS h1 q0 q1
     exact ⟨rfl,hb2⟩
   ·refine Calls.mono (Al hI (eI _ _) (Q8 e he) rfl (inv hb) (lT hr hb).1 rfl fun i c u hc hu=>?_) fun ex w2 hw=>?_
    ·match i,hc with
     | 0,hc =>
      cases hc
      cases hu
      exact .dat (.v _ rfl)
    ·obtain ⟨⟨v,ρ',rfl,rv⟩,hb2⟩:=hw
     obtain ⟨rfl,_⟩:=rv.v_inv
     exact ⟨rfl,hb2⟩
   ·obtain ⟨rfl,hb⟩:=hw
    refine ⟨ρ,(lT hr hb).1,(lT hr hb).2,?_⟩
    refine .tup _ _ rfl fun i c u hc hu=>?_
    match i,hc,hu with
    | 0,hc,hu=>cases hc; cases hu; exact .dat (.v _ rfl)
    | 1,hc,hu=>cases hc; cases hu; exact .dat (.v _ rfl)
  ·cases hz
 ·cases hz
abbrev TX (f:Nat) (fd:FD):Prop:=Text Go.Proofs.Tryz.prog f fd
theorem tx {f : Nat} {fd : FD} {fn : Func} (h : Go.Proofs.Tryz.prog.funcs[f]? = some fn) (h2 : (fn.body.bind fun c => dS Go.Proofs.Tryz.prog fn.ntmps c fd.body, uv Go.Proofs.Tryz.prog fn.results.toList, decide (fn.ntmps ≤ 1000), fn.name == "runtime.NumGoroutine") = (some fd.body, some fd.res, true, false)) : TX f fd := by
 simp only [Prod.mk.injEq,Option.bind_eq_some_iff,decide_eq_true_eq] at h2
 obtain ⟨⟨c,h3,h4⟩,h5,h6,h7⟩:=h2
 exact ⟨⟨fn,c,_,h,h3,rfl,h6,h4,h5,h7⟩⟩
theorem tn:∀ p ∈ ([]:List (Nat × FD)),TX p.1 p.2:=fun _ h=>by cases h
theorem tc {f:Nat} {fd:FD} {l:List (Nat × FD)} (h1:TX f fd) (h2:∀ p ∈ l,TX p.1 p.2):∀ p ∈ (f,fd)::l,TX p.1 p.2:=fun p hp=>by
 rcases List.mem_cons.1 hp with rfl | hp
 ·exact h1
 ·exact h2 p hp
open Go.Proofs.Tryz
theorem aic:TX 5 acD:=tx func5 (by kernel_rfl)
theorem Z9:TX 8 wM:=tx func8 (by kernel_rfl)
theorem aaa:TX 9 oB:=tx func9 (by kernel_rfl)
theorem VD:TX 10 wN:=tx func10 (by kernel_rfl)
theorem VF:TX 13 eO:=tx func13 (by kernel_rfl)
theorem VG:TX 14 gu:=tx func14 (by kernel_rfl)
theorem VH:TX 15 mN:=tx func15 (by kernel_rfl)
theorem ahX:TX 17 aeV:=tx func17 (by kernel_rfl)
theorem ahY:TX 18 ad2:=tx func18 (by kernel_rfl)
theorem ahZ:TX 19 adT:=tx func19 (by kernel_rfl)
theorem ah0:TX 20 aeX:=tx func20 (by kernel_rfl)
theorem VK:TX 21 ij:=tx func21 (by kernel_rfl)
theorem VL:TX 22 yF:=tx func22 (by kernel_rfl)
theorem ah1:TX 23 ad6:=tx func23 (by kernel_rfl)
theorem VM:TX 24 dh:=tx func24 (by kernel_rfl)
theorem ah2:TX 25 ad7:=tx func25 (by kernel_rfl)
theorem VN:TX 34 ez:=tx func34 (by kernel_rfl)
theorem VO:TX 35 gB:=tx func35 (by kernel_rfl)
theorem VP:TX 36 so:=tx func36 (by kernel_rfl)
theorem VQ:TX 37 cw:=tx func37 (by kernel_rfl)
theorem VR:TX 38 gC:=tx func38 (by kernel_rfl)
theorem VS:TX 39 cx:=tx func39 (by kernel_rfl)
theorem VU:TX 40 gP:=tx func40 (by kernel_rfl)
theorem VV:TX 41 fg:=tx func41 (by kernel_rfl)
theorem VW:TX 42 tr:=tx func42 (by kernel_rfl)
theorem VX:TX 43 yG:=tx func43 (by kernel_rfl)
theorem VY:TX 45 akQ:=tx func45 (by kernel_rfl)
theorem VZ:TX 50 mZ:=tx func50 (by kernel_rfl)
theorem V0:TX 51 kB:=tx func51 (by kernel_rfl)
theorem V1:TX 52 dY:=tx func52 (by kernel_rfl)
theorem V2:TX 53 ck:=tx func53 (by kernel_rfl)
theorem V3:TX 54 bY:=tx func54 (by kernel_rfl)
theorem V4:TX 55 jn:=tx func55 (by kernel_rfl)
theorem V5:TX 56 bZ:=tx func56 (by kernel_rfl)
theorem ah3:TX 61 adK:=tx func61 (by kernel_rfl)
theorem ah4:TX 62 aeY:=tx func62 (by kernel_rfl)
theorem ah5:TX 63 aeT:=tx func63 (by kernel_rfl)
theorem Wa:TX 64 cL:=tx func64 (by kernel_rfl)
theorem ah6:TX 65 aeZ:=tx func65 (by kernel_rfl)
theorem ah7:TX 66 adL:=tx func66 (by kernel_rfl)
theorem Wb:TX 67 dI:=tx func67 (by kernel_rfl)
theorem Wc:TX 68 vn:=tx func68 (by kernel_rfl)
theorem Wd:TX 69 l5:=tx func69 (by kernel_rfl)
theorem We:TX 70 jo:=tx func70 (by kernel_rfl)
theorem Wf:TX 71 fR:=tx func71 (by kernel_rfl)
theorem Wg:TX 72 eK:=tx func72 (by kernel_rfl)
theorem Wh:TX 73 l6:=tx func73 (by kernel_rfl)
theorem Wi:TX 85 dT:=tx func85 (by kernel_rfl)
theorem Wj:TX 86 iy:=tx func86 (by kernel_rfl)
theorem Wk:TX 87 kC:=tx func87 (by kernel_rfl)
theorem Wl:TX 88 cJ:=tx func88 (by kernel_rfl)
theorem Wm:TX 89 cK:=tx func89 (by kernel_rfl)
theorem Wn:TX 90 fS:=tx func90 (by kernel_rfl)
theorem Wo:TX 91 yH:=tx func91 (by kernel_rfl)
theorem Wp:TX 92 tu:=tx func92 (by kernel_rfl)
theorem Wq:TX 93 sq:=tx func93 (by kernel_rfl)
theorem Wr:TX 95 iz:=tx func95 (by kernel_rfl)
theorem Ws:TX 96 kY:=tx func96 (by kernel_rfl)
theorem Wt:TX 97 lL:=tx func97 (by kernel_rfl)
theorem SW:TX 103 bg:=tx func103 (by kernel_rfl)
theorem SX:TX 104 eH:=tx func104 (by kernel_rfl)
theorem SY:TX 105 aH:=tx func105 (by kernel_rfl)
theorem SZ:TX 106 l7:=tx func106 (by kernel_rfl)
theorem S0:TX 107 cd:=tx func107 (by kernel_rfl)
theorem S1:TX 108 bK:=tx func108 (by kernel_rfl)
theorem ahP:TX 111 adS:=tx func111 (by kernel_rfl)
theorem S4:TX 112 cI:=tx func112 (by kernel_rfl)
theorem S5:TX 113 ik:=tx func113 (by kernel_rfl)
theorem S6:TX 114 i8:=tx func114 (by kernel_rfl)
theorem S7:TX 115 jp:=tx func115 (by kernel_rfl)
theorem S8:TX 116 gD:=tx func116 (by kernel_rfl)
theorem S9:TX 117 gE:=tx func117 (by kernel_rfl)
theorem Ta:TX 118 cM:=tx func118 (by kernel_rfl)
theorem Tb:TX 119 iC:=tx func119 (by kernel_rfl)
theorem Tc:TX 120 kZ:=tx func120 (by kernel_rfl)
theorem Td:TX 121 iD:=tx func121 (by kernel_rfl)
theorem Te:TX 122 l8:=tx func122 (by kernel_rfl)
theorem Tf:TX 123 lg:=tx func123 (by kernel_rfl)
theorem Tg:TX 124 i9:=tx func124 (by kernel_rfl)
theorem Th:TX 125 m6:=tx func125 (by kernel_rfl)
theorem Ti:TX 126 gF:=tx func126 (by kernel_rfl)
theorem Tj:TX 127 cY:=tx func127 (by kernel_rfl)
theorem Tk:TX 136 eS:=tx func136 (by kernel_rfl)
theorem Tl:TX 137 dz:=tx func137 (by kernel_rfl)
theorem Tm:TX 138 cE:=tx func138 (by kernel_rfl)
theorem Tn:TX 139 wQ:=tx func139 (by kernel_rfl)
theorem To:TX 140 rH:=tx func140 (by kernel_rfl)
theorem Tp:TX 141 nL:=tx func141 (by kernel_rfl)
theorem Tq:TX 142 qB:=tx func142 (by kernel_rfl)
theorem Ts:TX 143 gR:=tx func143 (by kernel_rfl)
theorem Tt:TX 144 su:=tx func144 (by kernel_rfl)
theorem Tu:TX 145 jr:=tx func145 (by kernel_rfl)
theorem Tv:TX 146 iV:=tx func146 (by kernel_rfl)
theorem Tw:TX 153 hJ:=tx func153 (by kernel_rfl)
theorem Tx:TX 154 eU:=tx func154 (by kernel_rfl)
theorem Ty:TX 155 js:=tx func155 (by kernel_rfl)
theorem Tz:TX 156 l9:=tx func156 (by kernel_rfl)
theorem TA:TX 157 fL:=tx func157 (by kernel_rfl)
theorem TB:TX 158 cF:=tx func158 (by kernel_rfl)
theorem TC:TX 159 ja:=tx func159 (by kernel_rfl)
theorem TD:TX 161 jt:=tx func161 (by kernel_rfl)
theorem TE:TX 173 jc:=tx func173 (by kernel_rfl)
theorem TF:TX 174 oJ:=tx func174 (by kernel_rfl)
theorem TG:TX 175 vD:=tx func175 (by kernel_rfl)
theorem TH:TX 176 iF:=tx func176 (by kernel_rfl)
theorem TI:TX 177 yI:=tx func177 (by kernel_rfl)
theorem TJ:TX 178 oK:=tx func178 (by kernel_rfl)
theorem TK:TX 179 mw:=tx func179 (by kernel_rfl)
theorem TL:TX 180 mQ:=tx func180 (by kernel_rfl)
theorem TM:TX 182 lj:=tx func182 (by kernel_rfl)
theorem TN:TX 183 iW:=tx func183 (by kernel_rfl)
theorem TO:TX 184 gU:=tx func184 (by kernel_rfl)
theorem TP:TX 185 iG:=tx func185 (by kernel_rfl)
theorem TQ:TX 189 iH:=tx func189 (by kernel_rfl)
theorem TR:TX 190 me:=tx func190 (by kernel_rfl)
theorem TS:TX 191 m8:=tx func191 (by kernel_rfl)
theorem TT:TX 192 m9:=tx func192 (by kernel_rfl)
theorem TU:TX 193 de:=tx func193 (by kernel_rfl)
theorem TV:TX 202 gw:=tx func202 (by kernel_rfl)
theorem TW:TX 203 vF:=tx func203 (by kernel_rfl)
theorem TY:TX 204 vG:=tx func204 (by kernel_rfl)
theorem TZ:TX 205 gx:=tx func205 (by kernel_rfl)
theorem T0:TX 206 my:=tx func206 (by kernel_rfl)
theorem T1:TX 207 iX:=tx func207 (by kernel_rfl)
theorem T2:TX 208 vH:=tx func208 (by kernel_rfl)
theorem T3:TX 209 iI:=tx func209 (by kernel_rfl)
theorem T4:TX 210 gV:=tx func210 (by kernel_rfl)
theorem T5:TX 211 nM:=tx func211 (by kernel_rfl)
theorem T6:TX 212 fA:=tx func212 (by kernel_rfl)
theorem T7:TX 224 mz:=tx func224 (by kernel_rfl)
set_option maxRecDepth 100000 in
theorem HL:∀ p ∈ Pd,TX p.1 p.2:=tc aic (tc Z9 (tc aaa (tc VD (tc VF (tc VG (tc VH (tc ahX (tc ahY (tc ahZ (tc ah0 (tc VK (tc VL (tc ah1 (tc VM (tc ah2 (tc VN (tc VO (tc VP (tc VQ (tc VR (tc VS (tc VU (tc VV (tc VW (tc VX (tc VY (tc VZ (tc V0 (tc V1 (tc V2 (tc V3 (tc V4 (tc V5 (tc ah3 (tc ah4 (tc ah5 (tc Wa (tc ah6 (tc ah7 (tc Wb (tc Wc (tc Wd (tc We (tc Wf (tc Wg (tc Wh (tc Wi (tc Wj (tc Wk (tc Wl (tc Wm (tc Wn (tc Wo (tc Wp (tc Wq (tc Wr (tc Ws (tc Wt (tc SW (tc SX (tc SY (tc SZ (tc S0 (tc S1 (tc ahP (tc S4 (tc S5 (tc S6 (tc S7 (tc S8 (tc S9 (tc Ta (tc Tb (tc Tc (tc Td (tc Te (tc Tf (tc Tg (tc Th (tc Ti (tc Tj (tc Tk (tc Tl (tc Tm (tc Tn (tc To (tc Tp (tc Tq (tc Ts (tc Tt (tc Tu (tc Tv (tc Tw (tc Tx (tc Ty (tc Tz (tc TA (tc TB (tc TC (tc TD (tc TE (tc TF (tc TG (tc TH (tc TI (tc TJ (tc TK (tc TL (tc TM (tc TN (tc TO (tc TP (tc TQ (tc TR (tc TS (tc TT (tc TU (tc TV (tc TW (tc TY (tc TZ (tc T0 (tc T1 (tc T2 (tc T3 (tc T4 (tc T5 (tc T6 (tc T7 (tn))))))))))))))))))))))))))))))))))))))))))))))))))))))))))))))))))))))))))))))))))))))))))))))))))))))))))))))))))))))))))))))))))
end Go.Ab
