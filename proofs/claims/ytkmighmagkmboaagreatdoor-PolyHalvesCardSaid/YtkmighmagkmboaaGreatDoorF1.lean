/-
  A law of polynomials holds at every input that the statement speaks of, under the conditions that its card names. Part F1.
-/
import Derived.Test.YtkmighmagkmboaaGreatDoorProg
import Derived.Shelf.Spec.TrailingZeros
import Derived.Test.YtkmighmagkmboaaGreatDoorRows
import Derived.Deep.Strs
import Derived.ProofKit
import Derived.LaidMore
import Derived.OpenShut
import Derived.Carry
import Derived.Shelf.Strings.BuilderK
import Derived.WalkKit
import Derived.BigCall
import Derived.Test.YtkmighmagkmboaaGreatDoorE1
open Nat renaming reduceEqDiff → aez, reduceAdd → aeA, reduceMul → aeB, reduceLeDiff → aeC, reduceLT → aeE, reduceBEq → aeD, reduceSub → axe, reduceMod → axf
open Int renaming reduceEq → axg
namespace Go.Ab
open Go Go.IntWalk
set_option maxRecDepth 4000
set_option maxHeartbeats 1000000
theorem Hj {d:Rd} (h:vd d=true):dU d=(d,0):=by
 unfold dU
 by_cases h0:d.m.length=0
 ·rw [xU h h0]
  rfl
 ·rw [if_pos (rQ h h0).2.2.2]
theorem Dk {d:Rd} (ok:Ok0 d) (h:vd d=true):bA d.neg (ac d.m) d.e=d:=by
 have h1:=tQ ok h
 obtain ⟨g1,g2,g3,g4⟩:=kT h ok.lb
 have hz:zI d=fX d.neg (mg d):=rfl
 rw [hz,← tP] at h1
 unfold mg at h1
 rw [oP,show -16384+(((d.e+16384).toNat:Nat):Int)=d.e by omega] at h1
 exact h1
theorem I1 {N k:Nat} {neg:Bool} (ho:N % 2=1) (hb:4096 < am N):dU (bA neg (N*2 ^ k) (-16384))=(fp,9):=by
 have h0:N ≠ 0:=by omega
 rw [oP]
 obtain ⟨g1,g2,g3,g4⟩:=nD (neg:=neg) (e:=-16384+(k:Int)) h0
 have ht:=Md ho 0
 rw [Nat.pow_zero,Nat.mul_one] at ht
 unfold dU
 rw [if_neg]
 intro h2
 rw [g1,ht,Nat.pow_zero,Nat.div_one] at h2
 have h3:=(tM h2 (by omega)).1
 omega
theorem Hk {a b:Rd} (oa:Ok0 a) (ob:Ok0 b) (va:vd a=true) (vb:vd b=true) (na:a.m.length ≠ 0) (nb:b.m.length ≠ 0) {e:Int} (he:e=if b.e < a.e then b.e else a.e) (h:4097 < bo a - e) (hg:1 < bo a - bo b) :
  dU (fB (zI a+zI b) (-16384))=(fp,9)∧dU (fB (zI b+zI a) (-16384))=(fp,9):=by
 obtain ⟨a1,a2,a3,a4⟩:=kT va oa.lb
 obtain ⟨b1,b2,b3,b4⟩:=kT vb ob.lb
 have e1:=pI va na
 have e2:=pI vb nb
 have he1:-16384≤e∧e≤a.e∧e≤b.e∧(e=a.e∨e=b.e):=by
  rw [he]
  split <;> omega
 have hne:a.e ≠ b.e:=by omega
 have z1:zI a=fX a.neg (ac a.m*2 ^ (a.e - e).toNat*2 ^ (e+16384).toNat):=by
  rw [show zI a=fX a.neg (mg a) from rfl,pH he1.1 he1.2.1]
 have z2:zI b=fX b.neg (ac b.m*2 ^ (b.e - e).toNat*2 ^ (e+16384).toNat):=by
  rw [show zI b=fX b.neg (mg b) from rfl,pH he1.1 he1.2.2.1]
 have bx:(am (ac a.m*2 ^ (a.e - e).toNat):Int)=bo a - e:=by
  rw [lO _ (iK va na)]
  omega
 have by':(am (ac b.m*2 ^ (b.e - e).toNat):Int)=bo b - e:=by
  rw [lO _ (iK vb nb)]
  omega
 have oX:=xV va na
 have oY:=xV vb nb
 have odd:(ac a.m*2 ^ (a.e - e).toNat+ac b.m*2 ^ (b.e - e).toNat) % 2=1:=by
  rcases he1.2.2.2 with h1 | h1
  ·obtain ⟨k,hk⟩:∃ k,(b.e - e).toNat=k+1:=⟨(b.e - e).toNat - 1,by omega⟩
   rw [show (a.e - e).toNat=0 by omega,hk,Nat.pow_zero,Nat.mul_one,Nat.pow_succ,← Nat.mul_assoc]
   omega
  ·obtain ⟨k,hk⟩:∃ k,(a.e - e).toNat=k+1:=⟨(a.e - e).toNat - 1,by omega⟩
   rw [show (b.e - e).toNat=0 by omega,hk,Nat.pow_zero,Nat.mul_one,Nat.pow_succ,← Nat.mul_assoc]
   omega
 rw [Int.add_comm (zI b),and_self,z1,z2]
 generalize ac a.m*2 ^ (a.e - e).toNat=x at bx odd ⊢
 generalize ac b.m*2 ^ (b.e - e).toNat=y at by' odd ⊢
 generalize (e+16384).toNat=k
 have hx:2 ^ (am x - 1)≤x:=kH.1 (by omega)
 have hy:y < 2 ^ (am x - 2):=by
  have h3:y < 2 ^ am y:=cX.1 (Nat.le_refl _)
  exact Nat.lt_of_lt_of_le h3 (Nat.pow_le_pow_right (by omega) (by omega))
 have hp:2 ^ (am x - 1)=2 ^ (am x - 2)*2:=by
  rw [← Nat.pow_succ]
  congr 1
  omega
 have hbig:∀ N:Nat,x - y≤N→4096 < am N:=fun N hN=>by
  have h5:am x - 2 < am N:=kH.2 (by omega)
  omega
 have hsum:∀ (n:Bool) (z:Nat),fB (fX n (z*2 ^ k)) (-16384)=bA n (z*2 ^ k) (-16384):=fun n z=>tP.symm
 have hmul:y*2 ^ k≤x*2 ^ k:=Nat.mul_le_mul_right _ (by omega)
 by_cases hs:a.neg=b.neg
 ·have hz:fX a.neg (x*2 ^ k)+fX b.neg (y*2 ^ k)=fX a.neg ((x+y)*2 ^ k):=by
   rw [← hs,Nat.add_mul]
   cases a.neg
   ·rw [jf,jf,jf]
    omega
   ·rw [je,je,je]
    omega
  rw [hz,hsum]
  exact I1 odd (hbig _ (by omega))
 ·have hbn:b.neg=!a.neg:=by
   cases ha:a.neg <;> cases hb:b.neg <;> first | rfl | (rw [ha,hb] at hs; exact absurd rfl hs)
  have hz:fX a.neg (x*2 ^ k)+fX b.neg (y*2 ^ k)=fX a.neg ((x - y)*2 ^ k):=by
   rw [hbn,Nat.sub_mul]
   cases a.neg
   ·rw [Bool.not_false,jf,je,jf]
    omega
   ·rw [Bool.not_true,jf,je,je]
    omega
  rw [hz,hsum]
  exact I1 (by omega) (hbig _ (Nat.le_refl _))
def jy:Cmd:=.seq (.dops [2,3,4,6,9,10] [fa 65 1 2,ld 66 1 65,fa 67 2 2,ld 68 1 67,cm 69 6,b2 70 .sub 68 69,ca 71 F.dyadic_shifted [.t 66,.t 70],fa 72 1 3,ld 73 1 72,fa 74 2 3,ld 75 1 74,cm 76 6,b2 77 .sub 75 76,ca 78 F.dyadic_shifted [.t 73,.t 77],cm 9 71,cm 10 78] [(6,8),(6,10)]) (.seq (.seq (.ops [2,3,4,6,9,10,83] [fa 79 0 2,ld 80 1 79,fa 81 0 3,ld 82 1 81,co 83 (.eqc false 0 (.t 80) (.t 82))]) (.cond (.t 83) (.seq (.ops [2,4,6,11] [cm 85 9,cm 86 10,ca 87 F.natural_Add [.t 85,.t 86],cm 84 87,co 88 (.ext 0 (.t 84)),co 89 (.ext 1 (.t 84)),cm 11 88,cm 12 89]) (.seq (.ops [4,5] [fa 90 0 2,ld 91 1 90,cm 92 11,cm 93 6,ca 94 F.dyadic_canonical [.t 91,.t 92,.t 93],ca 95 F.dyadic_checked [.t 94],co 96 (.ext 0 (.t 95)),co 97 (.ext 1 (.t 95)),sr 3 (.t 4) (.t 96),cm 5 97]) (.ret))) (.skip))) (.seq (.seq (.ops [2,3,4,6,9,10,101] [cm 98 9,cm 99 10,ca 100 F.natural_Cmp [.t 98,.t 99],co 101 (.bin .lss (.t 100) (.c (I 0)))]) (.cond (.t 101) (.ops [2,4,6,9,10] [la 102 3 3,cm 103 10,cm 104 9,sr 3 (.t 2) (.t 102),cm 9 103,cm 10 104]) (.skip))) (.seq (.ops [2,4,6,13] [cm 106 9,cm 107 10,ca 108 F.natural_Sub [.t 106,.t 107],cm 105 108,co 109 (.ext 0 (.t 105)),co 110 (.ext 1 (.t 105)),cm 13 109,cm 14 110]) (.seq (.ops [4,5] [fa 111 0 2,ld 112 1 111,cm 113 13,cm 114 6,ca 115 F.dyadic_canonical [.t 112,.t 113,.t 114],ca 116 F.dyadic_checked [.t 115],co 117 (.ext 0 (.t 116)),co 118 (.ext 1 (.t 116)),sr 3 (.t 4) (.t 117),cm 5 118]) (.ret)))))
theorem hH:oE=.seq (.ops [2,3,4] [bx 2 3 (.t 0),bx 3 3 (.t 1),al 4 [B false,.emp,I 0],co 5 (.mv (.c (I 0)))]) (.seq (.seq (.ops [2,3,4,24] [fa 15 1 2,ld 16 1 15,co 17 (.len false (.t 16)),co 18 (.bin .eql (.t 17) (.c (I 0))),cm 19 18,cg 20 19 false (.fadr 1 (.t 3)),⟨(some 21),(some (19,false)),.load 1 false (.t 20)⟩,cg 22 19 false (.len false (.t 21)),cg 23 19 false (.bin .eql (.t 22) (.c (I 0))),co 24 (.pick (.t 19) (.c (B true)) (.t 23))]) (.cond (.t 24) (.seq (.seq (.ops [2,3,4,28] [fa 25 1 2,ld 26 1 25,co 27 (.len false (.t 26)),co 28 (.bin .eql (.t 27) (.c (I 0)))]) (.cond (.t 28) (.ops [2,4] [la 29 3 3,sr 3 (.t 2) (.t 29)]) (.skip))) (.seq (.ops [4,5] [fa 30 0 2,ld 31 1 30,fa 32 1 2,ld 33 1 32,fa 34 2 2,ld 35 1 34,ca 36 F.dyadic_canonical [.t 31,.t 33,.t 35],sr 3 (.t 4) (.t 36),co 5 (.mv (.c (I 0)))]) (.ret))) (.skip))) (.seq (.ops [2,3,4,6] [fa 37 2 2,ld 38 1 37,fa 39 2 3,ld 40 1 39,co 41 (.mnx true (.t 38) [.t 40]),cm 6 41]) (.seq (.dops [2,3,4,6,7,8] [la 42 3 2,ca 43 F.dyadic_Top [.t 42],la 44 3 3,ca 45 F.dyadic_Top [.t 44],cm 7 43,cm 8 45] [(1,2)]) (.seq (.seq (.ops [2,3,4,6,63] [cm 46 7,cm 47 8,co 48 (.mnx false (.t 46) [.t 47]),cm 49 6,b2 50 .sub 48 49,co 51 (.bin .gtr (.t 50) (.c (I 4097))),cm 52 51,cg 53 52 true (.mv (.t 7)),cg 54 52 true (.mv (.t 8)),cg 55 52 true (.bin .sub (.t 53) (.t 54)),cg 56 52 true (.bin .gtr (.t 55) (.c (I 1))),cg 57 52 true (.mv (.t 56)),cg 58 57 false (.mv (.t 8)),cg 59 57 false (.mv (.t 7)),cg 60 57 false (.bin .sub (.t 58) (.t 59)),cg 61 57 false (.bin .gtr (.t 60) (.c (I 1))),cg 62 52 true (.pick (.t 57) (.c (B true)) (.t 61)),co 63 (.pick (.t 52) (.t 62) (.c (B false)))]) (.cond (.t 63) (.seq (.ops [4,5] [co 64 (.build [B false,.emp,I 0] []),sr 3 (.t 4) (.t 64),co 5 (.mv (.c (I 9)))]) (.ret)) (.skip))) jy)))):=rfl
theorem Dl {a b:Rd} (oa:Ok0 a) (ob:Ok0 b) (va:vd a=true) (vb:vd b=true) (na:a.m.length ≠ 0) (nb:b.m.length ≠ 0) {e:Int} (he1:-16384≤e∧e≤a.e∧e≤b.e) (hX:bo a - e≤5000) (hY:bo b - e≤5000) (s:af)
  (h2:s 2=.ref 2 none 0 0 0) (h3:s 3=.ref 3 none 0 0 0) (h4:s 4=.ref 4 none 0 0 0) (h6:s 6=I e) :
  ajf false [[.o 0 [],.o 2 [],.o 0 []],[]] [.cell 4 3 true,.t 5] 0 (az R (ab false) jy s (upd (upd (upd (fun _=>.dead) 2 (.bx (aW a))) 3 (.bx (aW b))) 4 (.bx [B false,.emp,I 0])))=some (rV (dU (fB (zI a+zI b) (-16384))),[]):=by
 obtain ⟨a1,a2,a3,a4⟩:=kT va oa.lb
 obtain ⟨b1,b2,b3,b4⟩:=kT vb ob.lb
 have e1:=pI va na
 have e2:=pI vb nb
 have w1:IntKind.i64.wrap (a.e - e)=(((a.e - e).toNat:Nat):Int):=wi (by omega) (by omega)
 have w2:IntKind.i64.wrap (b.e - e)=(((b.e - e).toNat:Nat):Int):=wi (by omega) (by omega)
 have z1:zI a=fX a.neg (ac a.m*2 ^ (a.e - e).toNat*2 ^ (e+16384).toNat):=by
  rw [show zI a=fX a.neg (mg a) from rfl,pH he1.1 he1.2.1]
 have z2:zI b=fX b.neg (ac b.m*2 ^ (b.e - e).toNat*2 ^ (e+16384).toNat):=by
  rw [show zI b=fX b.neg (mg b) from rfl,pH he1.1 he1.2.2]
 have bx:am (ac a.m*2 ^ (a.e - e).toNat)≤5000:=by
  rw [lO _ (iK va na)]
  omega
 have by':am (ac b.m*2 ^ (b.e - e).toNat)≤5000:=by
  rw [lO _ (iK vb nb)]
  omega
 have l1:=qT oa.lb a1 (k:=(a.e - e).toNat) (by omega) (Nat.le_trans (bG (k:=157) (by omega)) (by decide))
 have l2:=qT ob.lb b1 (k:=(b.e - e).toNat) (by omega) (Nat.le_trans (bG (k:=157) (by omega)) (by decide))
 rw [z1,z2]
 generalize ac a.m*2 ^ (a.e - e).toNat=x at l1 bx ⊢
 generalize ac b.m*2 ^ (b.e - e).toNat=y at l2 by' ⊢
 have hsum:∀ (n:Bool) (z:Nat),bA n z e=fB (fX n (z*2 ^ (e+16384).toNat)) (-16384):=fun n z=>by
  rw [← tP,oP,show -16384+(((e+16384).toNat:Nat):Int)=e by omega]
 have lx:(av x).length≤157:=bG (by omega)
 have ly:(av y).length≤157:=bG (by omega)
 have hq:X5 e:=⟨by omega,by omega⟩
 have hcp:=xe (ce x) (ce y) (by omega) (by omega)
 rw [bL,bL] at hcp
 have chk:∀ (n:Bool) (z:Nat),am z≤5001→R F.dyadic_canonical [B n,lm (av z),I e] []=some (aF (bA n z e),[])∧R F.dyadic_checked [aF (bA n z e)] []=some (rV (dU (bA n z e)),[]):=fun n z hz=>by
  have hl:(av z).length≤157:=bG (by omega)
  have c1:=lP (neg:=n) (m:=av z) (e:=e) (ce z) (by omega) hq
  rw [bL] at c1
  refine ⟨c1,?_⟩
  rw [Bs (Cx n z e) (Nat.le_trans (Hc (k:=157) (by omega)) (by decide))]
  exact congrArg (fun v=>some (v,[])) (IX _)
 by_cases hs:a.neg=b.neg
 ·have p1:=QC (x:=x) (y:=y) bx by'
  obtain ⟨c1,c2⟩:=chk a.neg (x+y) (Hd bx by')
  have hz:fX a.neg (x*2 ^ (e+16384).toNat)+fX b.neg (y*2 ^ (e+16384).toNat)=fX a.neg ((x+y)*2 ^ (e+16384).toNat):=by
   rw [← hs,Nat.add_mul]
   cases a.neg
   ·rw [jf,jf,jf]
    omega
   ·rw [je,je,je]
    omega
  rw [hz,← hsum]
  generalize bA a.neg (x+y) e=r at c1 c2 ⊢
  generalize dU r=q at c2 ⊢
  obtain ⟨q1,q2⟩:=q
  have hs2:(a.neg == b.neg)=true:=by rw [hs]; exact beq_self_eq_true _
  have hs3:(false != (a.neg == b.neg))=true:=by rw [hs2]; rfl
  simp only [rV,aF,aW] at c1 c2
  simp only [jy,rV,aF,aW,go_sem,↓reduceIte,aez,aeB,aeA,aeC,aeE,aeD,h2,h3,h4,h6,w1,w2,l1,l2,hs3,p1,c1,c2]
 ·have hs2:(a.neg == b.neg)=false:=by
   cases ha:a.neg <;> cases hb:b.neg <;> first | rfl | (rw [ha,hb] at hs; exact absurd rfl hs)
  have hs3:(false != (a.neg == b.neg))=false:=by rw [hs2]; rfl
  have hbn:b.neg=!a.neg:=by
   cases ha:a.neg <;> cases hb:b.neg <;> first | rfl | (rw [ha,hb] at hs; exact absurd rfl hs)
  have hb1:∀ u v:Nat,am u≤5000→am (u - v)≤5001:=fun u v hu=>L7 (Nat.sub_le u v) (Nat.le_trans hu (by decide))
  by_cases hlt:x < y
  ·have e5:(dm x y < 0)=True:=tt (by unfold dm; rw [if_pos hlt]; decide)
   have m1:=IY (x:=y) (y:=x) by' bx (by omega)
   obtain ⟨c1,c2⟩:=chk b.neg (y - x) (hb1 _ _ by')
   have hmul:x*2 ^ (e+16384).toNat≤y*2 ^ (e+16384).toNat:=Nat.mul_le_mul_right _ (by omega)
   have hz:fX a.neg (x*2 ^ (e+16384).toNat)+fX b.neg (y*2 ^ (e+16384).toNat)=fX b.neg ((y - x)*2 ^ (e+16384).toNat):=by
    rw [hbn,Nat.sub_mul]
    cases a.neg
    ·rw [Bool.not_false,jf,je,je]
     omega
    ·rw [Bool.not_true,jf,je,jf]
     omega
   rw [hz,← hsum]
   generalize bA b.neg (y - x) e=r at c1 c2 ⊢
   generalize dU r=q at c2 ⊢
   obtain ⟨q1,q2⟩:=q
   simp only [rV,aF,aW] at c1 c2
   simp only [jy,rV,aF,aW,go_sem,↓reduceIte,aez,aeB,aeA,aeC,aeE,aeD,h2,h3,h4,h6,w1,w2,l1,l2,hs3,hcp,e5,m1,c1,c2]
  ·have e5:(dm x y < 0)=False:=ff (by unfold dm; rw [if_neg hlt]; split <;> decide)
   have m1:=IY (x:=x) (y:=y) bx by' (by omega)
   obtain ⟨c1,c2⟩:=chk a.neg (x - y) (hb1 _ _ bx)
   have hmul:y*2 ^ (e+16384).toNat≤x*2 ^ (e+16384).toNat:=Nat.mul_le_mul_right _ (by omega)
   have hz:fX a.neg (x*2 ^ (e+16384).toNat)+fX b.neg (y*2 ^ (e+16384).toNat)=fX a.neg ((x - y)*2 ^ (e+16384).toNat):=by
    rw [hbn,Nat.sub_mul]
    cases a.neg
    ·rw [Bool.not_false,jf,je,jf]
     omega
    ·rw [Bool.not_true,jf,je,je]
     omega
   rw [hz,← hsum]
   generalize bA a.neg (x - y) e=r at c1 c2 ⊢
   generalize dU r=q at c2 ⊢
   obtain ⟨q1,q2⟩:=q
   simp only [rV,aF,aW] at c1 c2
   simp only [jy,rV,aF,aW,go_sem,↓reduceIte,aez,aeB,aeA,aeC,aeE,aeD,h2,h3,h4,h6,w1,w2,l1,l2,hs3,hcp,e5,m1,c1,c2]
theorem QK {a b:Rd} (oa:Ok0 a) (ob:Ok0 b) (va:vd a=true) (vb:vd b=true):R F.dyadic_sum [aF a,aF b] []=some (rV (dU (fB (zI a+zI b) (-16384))),[]):=by
 refine aZ GD GC (Bd false) rfl ?_
 by_cases a0:a.m.length=0
 ·have e1:((a.m.length:Int)=0)=True:=tt (by omega)
  have hz:=xU va a0
  obtain ⟨b1,b2,b3,b4⟩:=kT vb ob.lb
  have c1:=lP (neg:=b.neg) (m:=b.m) (e:=b.e) ob.lb (by omega) ⟨by omega,by omega⟩
  have hr:bA b.neg (ac b.m) b.e=b:=Dk ob vb
  have hk:dU (fB (zI a+zI b) (-16384))=(b,0):=by
   rw [rf a0,Int.zero_add,tQ ob vb]
   exact Hj vb
  rw [hr] at c1
  rw [hk]
  simp only [aF,aW] at c1
  simp only [dI,oE,rV,aF,aW,go_sem,↓reduceIte,aez,aeB,aeA,aeC,e1,c1]
 have e1:((a.m.length:Int)=0)=False:=ff (by omega)
 obtain ⟨a1,a2,a3,a4⟩:=kT va oa.lb
 by_cases b0:b.m.length=0
 ·have e2:((b.m.length:Int)=0)=True:=tt (by omega)
  have c1:=lP (neg:=a.neg) (m:=a.m) (e:=a.e) oa.lb (by omega) ⟨by omega,by omega⟩
  have hr:bA a.neg (ac a.m) a.e=a:=Dk oa va
  have hk:dU (fB (zI a+zI b) (-16384))=(a,0):=by
   rw [rf b0,Int.add_zero,tQ oa va]
   exact Hj va
  rw [hr] at c1
  rw [hk]
  simp only [aF,aW] at c1
  simp only [dI,oE,rV,aF,aW,go_sem,↓reduceIte,aez,aeB,aeA,aeC,e1,e2,c1]
 have e2:((b.m.length:Int)=0)=False:=ff (by omega)
 obtain ⟨b1,b2,b3,b4⟩:=kT vb ob.lb
 have ta:=Bu oa
 have tb:=Bu ob
 have q1:=pI va a0
 have q2:=pI vb b0
 have p1:=kj (iK va a0)
 have p2:=kj (iK vb b0)
 simp only [aF,aW] at ta tb
 have g1:=fun h2 h3=>(Hk oa ob va vb a0 b0 rfl h2 h3).1
 have g2:=fun h2 h3=>(Hk ob oa vb va b0 a0 rfl h2 h3).2
 obtain ⟨e,he⟩:∃ e,(if b.e < a.e then b.e else a.e)=e:=⟨_,rfl⟩
 have he2:(if a.e < b.e then a.e else b.e)=e:=by
  rw [← he]
  by_cases h:b.e < a.e
  ·rw [if_pos h,if_neg (by omega)]
  ·rw [if_neg h]
   by_cases h2:a.e < b.e
   ·rw [if_pos h2]
   ·rw [if_neg h2]
    omega
 rw [he] at g1
 rw [he2] at g2
 have he1:-16384≤e∧e≤a.e∧e≤b.e:=by
  split at he <;> omega
 obtain ⟨M,hM⟩:∃ M,(if bo a < bo b then bo b else bo a)=M:=⟨_,rfl⟩
 have hM1:bo a≤M∧bo b≤M∧(M=bo a∨M=bo b):=by
  split at hM <;> omega
 have w1:IntKind.i64.wrap (M - e)=M - e:=i64_in _ ⟨by omega,by omega⟩
 have w2:IntKind.i64.wrap (bo a - bo b)=bo a - bo b:=i64_in _ ⟨by omega,by omega⟩
 have w3:IntKind.i64.wrap (bo b - bo a)=bo b - bo a:=i64_in _ ⟨by omega,by omega⟩
 by_cases h1:4097 < M - e
 ·have f1:(4097 < M - e)=True:=tt h1
  by_cases h2:1 < bo a - bo b
  ·have f2:(1 < bo a - bo b)=True:=tt h2
   rw [g1 (by omega) h2]
   simp only [dI,hH,rV,fp,aF,aW,go_sem,↓reduceIte,aez,aeB,aeA,aeC,aeE,aeD,e1,e2,he,ta,tb,hM,w1,w2,f1,f2]
  ·have f2:(1 < bo a - bo b)=False:=ff h2
   by_cases h3:1 < bo b - bo a
   ·have f3:(1 < bo b - bo a)=True:=tt h3
    rw [g2 (by omega) h3]
    simp only [dI,hH,rV,fp,aF,aW,go_sem,↓reduceIte,aez,aeB,aeA,aeC,aeE,aeD,e1,e2,he,ta,tb,hM,w1,w2,w3,f1,f2,f3]
   ·have f3:(1 < bo b - bo a)=False:=ff h3
    simp only [dI,hH,rV,aF,aW,go_sem,↓reduceIte,aez,aeB,aeA,aeC,aeE,aeD,e1,e2,he,ta,tb,hM,w1,w2,w3,f1,f2,f3]
    exact Dl oa ob va vb a0 b0 he1 (by omega) (by omega) _ rfl rfl rfl rfl
 ·have f1:(4097 < M - e)=False:=ff h1
  simp only [dI,hH,rV,aF,aW,go_sem,↓reduceIte,aez,aeB,aeA,aeC,aeE,aeD,e1,e2,he,ta,tb,hM,w1,f1]
  exact Dl oa ob va vb a0 b0 he1 (by omega) (by omega) _ rfl rfl rfl rfl
theorem QL {a b:Rd} (oa:Ok0 a) (ob:Ok0 b):R F.dyadic_Add [aF a,aF b] []=some (rV (iQ a b),[]):=by
 refine aZ Gh Gg (A5 false) rfl ?_
 have v1:=kl oa
 have v2:=kl ob
 simp only [aF,aW] at v1 v2
 unfold iQ
 cases va:vd a with
 | false =>
  rw [va] at v1
  rw [Bool.false_and,if_neg Bool.false_ne_true]
  simp only [ij,oC,rV,fp,aF,aW,go_sem,↓reduceIte,aez,aeB,aeA,aeC,v1]
 | true =>
  rw [va] at v1
  cases vb:vd b with
  | false =>
   rw [vb] at v2
   rw [Bool.and_false,if_neg Bool.false_ne_true]
   simp only [ij,oC,rV,fp,aF,aW,go_sem,↓reduceIte,aez,aeB,aeA,aeC,v1,v2]
  | true =>
   rw [vb] at v2
   have hs:=QK oa ob va vb
   rw [Bool.and_self,if_pos rfl]
   generalize dU (fB (zI a+zI b) (-16384))=q at hs ⊢
   obtain ⟨q1,q2⟩:=q
   simp only [rV,aF,aW] at hs
   simp only [ij,oC,rV,aF,aW,go_sem,↓reduceIte,aez,aeB,aeA,aeC,v1,v2,hs]
end Go.Ab
namespace Go.Ab
open Go Go.IntWalk
theorem Dm:∀ a:List Int,eg a a=0
 | []=>rfl
 | x::a=>by
  unfold eg
  rw [if_pos (by unfold cq; simp),Dm a]
theorem I2:∀ {a b:List Int},a.length=b.length→eg a b=0→a=b
 | [],[],_,_=>rfl
 | x::a,y::b,h,h2=>by
  unfold eg at h2
  rcases iM x y with ⟨g,e⟩ | ⟨g,e⟩ | ⟨g,e⟩ <;> rw [e] at h2
  ·simp at h2
  ·rw [if_pos rfl] at h2
   rw [g,I2 (by simpa using h) h2]
  ·simp at h2
 | [],_::_,h,_=>by simp at h
 | _::_,[],h,_=>by simp at h
theorem Dn:∀ {a b:List Int},a.length=b.length→eg b a=- eg a b
 | [],[],_=>rfl
 | x::a,y::b,h=>by
  unfold eg
  rcases iM x y with ⟨g,e⟩ | ⟨g,e⟩ | ⟨g,e⟩ <;> rcases iM y x with ⟨g',e'⟩ | ⟨g',e'⟩ | ⟨g',e'⟩ <;> rw [e,e'] <;> first | omega | (simp; done) | skip
  rw [if_pos rfl,if_pos rfl]
  exact Dn (by simpa using h)
 | [],_::_,h=>by simp at h
 | _::_,[],h=>by simp at h
theorem I3:∀ {a b c:List Int},a.length=b.length→b.length=c.length→(eg a b≤0→eg b c < 0→eg a c < 0)∧(eg a b < 0→eg b c≤0→eg a c < 0)
 | [],[],[],_,_=>⟨fun _ h=>by simp [eg] at h,fun h _=>by simp [eg] at h⟩
 | x::a,y::b,z::c,h,h'=>by
  have ih:=I3 (a:=a) (b:=b) (c:=c) (by simpa using h) (by simpa using h')
  unfold eg
  rcases iM x y with ⟨g,e⟩ | ⟨g,e⟩ | ⟨g,e⟩ <;> rcases iM y z with ⟨g',e'⟩ | ⟨g',e'⟩ | ⟨g',e'⟩ <;> rcases iM x z with ⟨g2,e2⟩ | ⟨g2,e2⟩ | ⟨g2,e2⟩ <;> rw [e,e',e2] <;> first | omega | skip
  all_goals simp
  all_goals first | exact ih | omega
 | [],[],_::_,_,h=>by simp at h
 | [],_::_,_,h,_=>by simp at h
 | _::_,[],_,h,_=>by simp at h
 | _::_,_::_,[],_,h=>by simp at h
theorem Mg (a:List Int):bj a a=0:=by
 unfold bj
 rw [if_pos (by unfold cq; simp),Dm]
theorem I4 {a b:List Int} (h:a.length=b.length) (h2:bj a b=0):a=b:=by
 unfold bj at h2
 rcases iM (bc a) (bc b) with ⟨g,e⟩ | ⟨g,e⟩ | ⟨g,e⟩ <;> rw [e] at h2
 ·simp at h2
 ·rw [if_pos rfl] at h2
  exact (I2 h.symm h2).symm
 ·simp at h2
theorem sx {a b:List Int} (h:a.length=b.length):bj b a=- bj a b:=by
 unfold bj
 rcases iM (bc a) (bc b) with ⟨g,e⟩ | ⟨g,e⟩ | ⟨g,e⟩ <;> rcases iM (bc b) (bc a) with ⟨g',e'⟩ | ⟨g',e'⟩ | ⟨g',e'⟩ <;> rw [e,e'] <;> first | omega | (simp; done) | skip
 rw [if_pos rfl,if_pos rfl]
 exact Dn h.symm
theorem tT {a b c:List Int} (h:a.length=b.length) (h':b.length=c.length):(bj a b≤0→bj b c < 0→bj a c < 0)∧(bj a b < 0→bj b c≤0→bj a c < 0):=by
 have ih:=I3 (a:=c) (b:=b) (c:=a) h'.symm h.symm
 unfold bj
 rcases iM (bc a) (bc b) with ⟨g,e⟩ | ⟨g,e⟩ | ⟨g,e⟩ <;> rcases iM (bc b) (bc c) with ⟨g',e'⟩ | ⟨g',e'⟩ | ⟨g',e'⟩ <;> rcases iM (bc a) (bc c) with ⟨g2,e2⟩ | ⟨g2,e2⟩ | ⟨g2,e2⟩ <;> rw [e,e',e2] <;> first | omega | skip
 all_goals simp
 all_goals first | exact ⟨fun x y=>ih.2 y x,fun x y=>ih.1 y x⟩ | omega
structure VT (v:Int) (t:Rt):Prop where
 c:Ok0 t.c
 len:(t.exps.length:Int)=v
 v8:v≤8
 vc:vd t.c=true
 nz:t.c.m.length ≠ 0
 b:∀ e ∈ t.exps,0≤e∧e≤32
 d:bc t.exps≤32
theorem VT.sm {v:Int} {t:Rt} (h:VT v t):sm t.exps:=⟨by have:=h.len; have:=h.v8; omega,h.b⟩
theorem VT.ok {v:Int} {t:Rt} (h:VT v t):OkT t:=⟨h.c,by have:=h.len; have:=h.v8; omega⟩
theorem VT.l2 {v:Int} {t q:Rt} (h:VT v t) (h2:VT v q):t.exps.length=q.exps.length:=by have:=h.len; have:=h2.len; omega
structure Cl (v:Int) (l:List Rt):Prop where
 t:∀ t ∈ l,VT v t
 s:l.Pairwise fun a b=>bj a.exps b.exps < 0
theorem Cl.nil (v:Int):Cl v []:=⟨(fun _ h=>nomatch h),List.Pairwise.nil⟩
theorem Cl.cons {v:Int} {q:Rt} {l:List Rt} (h:Cl v (q::l)):VT v q∧(∀ t ∈ l,bj q.exps t.exps < 0)∧Cl v l :=
 ⟨h.t q (by simp),(List.pairwise_cons.1 h.s).1,fun t ht=>h.t t (by simp [ht]),(List.pairwise_cons.1 h.s).2⟩
theorem Cl.mk' {v:Int} {q:Rt} {l:List Rt} (h1:VT v q) (h2:∀ t ∈ l,bj q.exps t.exps < 0) (h3:Cl v l):Cl v (q::l) :=
 ⟨fun t ht=>(List.mem_cons.1 ht).elim (fun e=>e ▸ h1) (h3.t t),List.pairwise_cons.2 ⟨h2,h3.s⟩⟩
theorem Mh {v:Int} (hv:v≤8):∀ (l:List Rt) (pr:Option Rt),(∀ t ∈ l,OkT t)→tO v pr l=true→Cl v l∧∀ q,pr=some q→(q.exps.length:Int)=v→∀ t ∈ l,bj q.exps t.exps < 0
 | [],pr,_,_=>⟨Cl.nil v,fun _ _ _ t ht=>by cases ht⟩
 | t::l,pr,ok,h=>by
  unfold tO at h
  simp only [Bool.and_eq_true] at h
  obtain ⟨h1,h2,h3⟩:=h
  obtain ⟨g1,g2⟩:=Mh hv l (some t) (fun x hx=>ok x (by simp [hx])) h3
  obtain ⟨k1,k2,k3,k4,k5⟩:=Bx h1
  have vt:VT v t:=⟨(ok t (by simp)).c,k1,hv,k2,k3,rh k4,k5⟩
  have gt:=g2 t rfl k1
  refine ⟨Cl.mk' vt gt g1,fun q hq hl x hx=>?_⟩
  subst hq
  unfold Hh at h2
  have h4:=of_decide_eq_true h2
  rcases List.mem_cons.1 hx with rfl | hx
  ·exact h4
  ·exact (tT (by omega) (vt.l2 (g1.t x hx))).1 (by omega) (gt x hx)
theorem eJ {a:Rp} (oa:OkP a) (h:vp a=true):Cl a.vars a.terms∧0≤a.vars∧a.vars≤8∧a.terms.length≤500:=by
 unfold vp at h
 simp only [Bool.and_eq_true,decide_eq_true_eq] at h
 exact ⟨(Mh h.2.1 _ none oa.t h.2.2.2).1,h.1,h.2.1,h.2.2.1⟩
theorem Mi {v:Int}:∀ (l:List Rt) (pr:Option Rt),Cl v l→(∀ q,pr=some q→∀ t ∈ l,bj q.exps t.exps < 0)→tO v pr l=true
 | [],pr,_,_=>by unfold tO; rfl
 | t::l,pr,c,h=>by
  obtain ⟨c1,c2,c3⟩:=c.cons
  unfold tO
  simp only [Bool.and_eq_true]
  refine ⟨?_,?_,Mi l (some t) c3 fun q hq=>by cases hq; exact c2⟩
  ·unfold Di
   simp only [Bool.and_eq_true,decide_eq_true_eq]
   refine ⟨c1.len,c1.vc,c1.nz,?_,c1.d⟩
   rw [Bool.not_eq_true',List.any_eq_false]
   intro e he
   have:=c1.b e he
   unfold rR
   simp
   omega
  ·unfold Hh
   cases pr with
   | none=>rfl
   | some q=>exact decide_eq_true (h q rfl t (by simp))
theorem KM {v:Int} {l:List Rt} (h:Cl v l) (h0:0≤v) (h8:v≤8) (hl:l.length≤500):vp ⟨v,l⟩=true:=by
 unfold vp
 simp only [Bool.and_eq_true,decide_eq_true_eq]
 exact ⟨h0,h8,hl,Mi l none h fun q hq=>by cases hq⟩
theorem By {v:Int} {l:List Rt} (h:Cl v l):OkP ⟨v,l⟩:=⟨fun t ht=>(h.t t ht).ok⟩
def be:List Rt→List Int→Nat
 | [],_=>0
 | q::l,x=>if bj q.exps x < 0 then be l x+1 else 0
def kU:List Rt→Rt→Option (List Rt)
 | [],t=>some [t]
 | q::l,t=>if bj q.exps t.exps < 0 then (kU l t).map (q::·) else if bj q.exps t.exps=0 then (if (iQ q.c t.c).2=0 then some (if (iQ q.c t.c).1.m.length=0 then l else ⟨q.exps,(iQ q.c t.c).1⟩::l) else none) else some (t::q::l)
theorem xW:∀ (l:List Rt) (x:List Int),be l x≤l.length
 | [],x=>Nat.le_refl _
 | q::l,x=>by
  unfold be
  split
  ·exact Nat.succ_le_succ (xW l x)
  ·exact Nat.zero_le _
theorem I5:∀ {l:List Rt} {x:List Int} {i:Nat} {q:Rt},i < be l x→l[i]?=some q→bj q.exps x < 0
 | [],x,i,q,h,_=>by simp [be] at h
 | p::l,x,i,q,h,hq=>by
  unfold be at h
  split at h
  ·rename_i hc
   cases i with
   | zero=>cases hq; exact hc
   | succ i=>exact I5 (l:=l) (i:=i) (by omega) (by simpa using hq)
  ·omega
theorem Cz:∀ {l:List Rt} {x:List Int} {q:Rt},l[be l x]?=some q→0≤bj q.exps x
 | [],x,q,h=>by simp at h
 | p::l,x,q,h=>by
  unfold be at h
  split at h
  ·exact Cz (l:=l) (by simpa using h)
  ·rename_i hc
   cases h
   omega
theorem QM {v:Int} {l:List Rt} {x:List Int} (c:Cl v l) (hx:(x.length:Int)=v) {i:Nat} {q:Rt} (hi:be l x < i) (h:l[i]?=some q):0 < bj q.exps x:=by
 have hlt:=(List.getElem?_eq_some_iff.1 h).1
 have h1:l[be l x]?=some l[be l x]:=List.getElem?_eq_getElem (by omega)
 have h2:=Cz h1
 have h3:=(List.getElem?_eq_some_iff.1 h).2
 have h4:bj (l[be l x]).exps q.exps < 0:=by
  rw [← h3]
  exact List.pairwise_iff_getElem.1 c.s _ _ (by omega) hlt hi
 have v1:=c.t _ (List.getElem_mem (by omega:be l x < l.length))
 have v2:=c.t q (List.mem_of_getElem? h)
 generalize l[be l x]=p at *
 have l1:x.length=p.exps.length:=by have:=v1.len; omega
 have h5:=(tT l1 (v1.l2 v2)).1 (by rw [sx l1.symm]; omega) h4
 rw [sx (by have:=v2.len; omega:x.length=q.exps.length)]
 omega
theorem I6:∀ (l:List Rt) (t:Rt),kU l t=match l[be l t.exps]? with
  | none=>some (l.take (be l t.exps)++t::l.drop (be l t.exps))
  | some q=>if bj q.exps t.exps=0 then (if (iQ q.c t.c).2=0 then some (if (iQ q.c t.c).1.m.length=0 then l.take (be l t.exps)++l.drop (be l t.exps+1) else l.set (be l t.exps) ⟨q.exps,(iQ q.c t.c).1⟩) else none) else some (l.take (be l t.exps)++t::l.drop (be l t.exps))
 | [],t=>rfl
 | q::l,t=>by
  unfold kU be
  by_cases h:bj q.exps t.exps < 0
  ·simp only [if_pos h,List.getElem?_cons_succ]
   rw [I6 l t]
   cases l[be l t.exps]? with
   | none=>rfl
   | some p =>
    simp only []
    split
    ·split
     ·split <;> rfl
     ·rfl
    ·rfl
  ·simp only [if_neg h,List.getElem?_cons_zero,List.take_zero,List.drop_zero,List.nil_append,List.set_cons_zero,Nat.zero_add,List.drop_one,List.tail_cons]
theorem xX {v:Int}:∀ {l l':List Rt} {t:Rt},Cl v l→VT v t→kU l t=some l'→Cl v l'∧∀ q:List Int,(q.length:Int)=v→(∀ x ∈ l,bj q x.exps < 0)→bj q t.exps < 0→∀ x ∈ l',bj q x.exps < 0
 | [],l',t,c,vt,h=>by
  cases h
  exact ⟨Cl.mk' vt (fun _ h=>by cases h) c,fun q _ _ h x hx=>by simp at hx; subst hx; exact h⟩
 | p::l,l',t,c,vt,h=>by
  obtain ⟨c1,c2,c3⟩:=c.cons
  unfold kU at h
  split at h
  ·rename_i h1
   rw [Option.map_eq_some_iff] at h
   obtain ⟨l2,h2,rfl⟩:=h
   obtain ⟨g1,g2⟩:=xX c3 vt h2
   refine ⟨Cl.mk' c1 (g2 p.exps c1.len c2 h1) g1,fun q hq k1 k2 x hx=>?_⟩
   rcases List.mem_cons.1 hx with rfl | hx
   ·exact k1 x (by simp)
   ·exact g2 q hq (fun y hy=>k1 y (by simp [hy])) k2 x hx
  ·split at h
   ·rename_i h1 h2
    split at h
    ·rename_i h3
     cases h
     split
     ·exact ⟨c3,fun q hq k1 k2 x hx=>k1 x (by simp [hx])⟩
     ·rename_i h4
      obtain ⟨a1,a2⟩:=QH p.c t.c
      refine ⟨Cl.mk' ⟨a2,c1.len,c1.v8,a1,h4,c1.b,c1.d⟩ c2 c3,fun q hq k1 k2 x hx=>?_⟩
      rcases List.mem_cons.1 hx with rfl | hx
      ·exact k1 p (by simp)
      ·exact k1 x (by simp [hx])
    ·cases h
   ·rename_i h1 h2
    cases h
    have h3:bj t.exps p.exps < 0:=by
     rw [sx (c1.l2 vt)]
     omega
    refine ⟨Cl.mk' vt (fun x hx=>?_) c,fun q hq k1 k2 x hx=>?_⟩
    ·rcases List.mem_cons.1 hx with rfl | hx
     ·exact h3
     ·exact (tT (vt.l2 c1) (c1.l2 (c3.t x hx))).1 (by omega) (c2 x hx)
    ·rcases List.mem_cons.1 hx with rfl | hx
     ·exact k2
     ·exact k1 x hx
theorem Aa:∀ {l l':List Rt} {t:Rt},kU l t=some l'→l'.length≤l.length+1
 | [],l',t,h=>by cases h; simp
 | p::l,l',t,h=>by
  unfold kU at h
  split at h
  ·rw [Option.map_eq_some_iff] at h
   obtain ⟨l2,h2,rfl⟩:=h
   simpa using Aa h2
  ·split at h
   ·split at h
    ·cases h
     split
     ·simp
      omega
     ·simp
    ·cases h
   ·cases h
    simp
theorem Hl:∀ {l:List Rt} {t:Rt},(∀ q ∈ l,bj q.exps t.exps < 0)→kU l t=some (l++[t])
 | [],t,_=>rfl
 | p::l,t,h=>by
  unfold kU
  rw [if_pos (h p (by simp)),Hl fun q hq=>h q (by simp [hq])]
  rfl
def ej:List Rt→List Rt→Option (List Rt)
 | l,[]=>some l
 | l,t::ts=>(kU l t).bind fun l'=>ej l' ts
theorem Hm:∀ (ts us:List Rt) (l:List Rt),ej l (ts++us)=(ej l ts).bind fun l'=>ej l' us
 | [],us,l=>rfl
 | t::ts,us,l=>by
  show (kU l t).bind _=((kU l t).bind _).bind _
  cases kU l t with
  | none=>rfl
  | some l'=>exact Hm ts us l'
theorem ri {v:Int}:∀ {ts l l':List Rt},Cl v l→(∀ t ∈ ts,VT v t)→ej l ts=some l'→Cl v l'∧l'.length≤l.length+ts.length
 | [],l,l',c,_,h=>by cases h; exact ⟨c,Nat.le_refl _⟩
 | t::ts,l,l',c,vt,h=>by
  unfold ej at h
  rw [Option.bind_eq_some_iff] at h
  obtain ⟨l2,h2,h3⟩:=h
  obtain ⟨g1,g2⟩:=ri (xX c (vt t (by simp)) h2).1 (fun x hx=>vt x (by simp [hx])) h3
  have:=Aa h2
  exact ⟨g1,by simp; omega⟩
theorem Hn {v:Int}:∀ {ts l:List Rt},Cl v (l++ts)→ej l ts=some (l++ts)
 | [],l,_=>by simp [ej]
 | t::ts,l,c=>by
  have h1:kU l t=some (l++[t]):=Hl fun q hq=>by
   have:=List.pairwise_append.1 c.s
   exact this.2.2 q hq t (by simp)
  unfold ej
  rw [h1]
  show ej (l++[t]) ts=_
  rw [Hn (v:=v) (by rw [List.append_assoc]; exact c),List.append_assoc]
  rfl
section
variable {call:cT} {md:Mode} {s:af} {h:aa}
@[go_sem] theorem acb (d k x y rest):ao call md (⟨some d,none,.cpy k x y⟩::rest) s h=aK (bN md.nm s (some d) (BM h k (ev s x) (ev s y))) (ao call md rest):=_root_.id rfl
@[go_sem] theorem ZM (d k x lo hi rest):ao call md (⟨some d,none,.slcM k x lo hi⟩::rest) s h=aK (bN md.nm s (some d) (xF h k (ev s x) (evo s lo) (evo s hi))) (ao call md rest):=_root_.id rfl
@[go_sem] theorem acd (d k z x rest):ao call md (⟨d,none,.clr k z x⟩::rest) s h=aK (bN md.nm s d (BN h k z (ev s x))) (ao call md rest):=_root_.id rfl
@[go_sem] theorem ZN (d k b z x n rest):ao call md (⟨some d,none,.appz k b z x n⟩::rest) s h=aK (bN md.nm s (some d) (sd h d k b z (ev s x) (ev s n))) (ao call md rest):=_root_.id rfl
@[go_sem] theorem ZO (d x rest):ao call md (⟨some d,none,.take x⟩::rest) s h=aK (bN md.nm s (some d) (Ar h d (ev s x))) (ao call md rest):=_root_.id rfl
@[go_sem] theorem Ya (d f zas rest):ao call md (⟨some d,none,.callC f zas⟩::rest) s h=aK (bN md.nm s (some d) ((aj call md h d (zas.map (ev s)) (ev s f)).bind (n7 d))) (ao call md rest):=_root_.id rfl
@[go_sem] theorem ZP (ps acc d k x y rest):bC call md ps acc (⟨some d,none,.cpy k x y⟩::rest) s h=eG call md ps acc rest s (some d) (fun _=>none) (BM h k (ev s x) (ev s y)):=cH _ _ _ _ rfl
@[go_sem] theorem ZQ (ps acc d k b x y rest):bC call md ps acc (⟨some d,none,.app k b x y⟩::rest) s h=eG call md ps acc rest s (some d) (fun _=>none) (yM h d k b (ev s x) (ev s y)):=cH _ _ _ _ rfl
@[go_sem] theorem Vu (ps acc d f zas rest):bC call md ps acc (⟨some d,none,.callC f zas⟩::rest) s h=eG call md ps acc rest s (some d) (fun _=>wj d h (io (zas.map (ev s)) (ev s f))) ((aj call md h d (zas.map (ev s)) (ev s f)).bind (n7 d)):=cH _ _ _ _ rfl
@[go_sem] theorem Yb (d h l):wj d h l=if l.all dat=true then some ([],[2000+8*d]) else none:=_root_.id rfl
@[go_sem] theorem ace (d k r h ks):n7 d (.sl k r,h,ks)=some (.sl k r,h,ks):=_root_.id rfl
@[go_sem] theorem ZR (d h ks):n7 d (.emp,h,ks)=some (.emp,h,ks):=_root_.id rfl
@[go_sem] theorem ZS (d id k lo n h ks):n7 d (.rsl id none k lo n,h,ks)=if id=2000+8*d then (jj h id k lo n (h id)).map (fun q=>(q.1,q.2.1,ks++q.2.2)) else none:=_root_.id rfl
@[go_sem] theorem acf (h k id k' lo n y):BM h k (.rsl id none k' lo n) y=(Fa y).bind fun l=>(lV h k (E9 n y)).bind fun ys=>Fb h id k k' lo n l ys (h id):=_root_.id rfl
@[go_sem] theorem acg (k r):Fa (.sl k r)=some r.length:=_root_.id rfl
@[go_sem] theorem ZT (id sub k lo n):Fa (.rsl id sub k lo n)=some n:=_root_.id rfl
@[go_sem] theorem ach (m k r):E9 m (.sl k r)=.sl k (r.take m):=_root_.id rfl
@[go_sem] theorem ZU (m id sub k lo n):E9 m (.rsl id sub k lo n)=.rsl id sub k lo (min m n):=_root_.id rfl
@[go_sem] theorem aci (h id k lo n l ys r):Fb h id k k lo n l ys (.ar k r)=if lo≤r.length∧ys.length=min l n then some (.v (.int .i64 ys.length),upd h id (.ar k (r.take lo++ys++r.drop (lo+ys.length))),[]) else none:=by simp [Fb]
@[go_sem] theorem ZV (h k id l0 n lo hi):xF h k (.rsl id none k l0 n) lo hi=Ap h k id l0 lo hi (h id):=by simp [xF]
@[go_sem] theorem ZW (h k id l0 lo hi r):Ap h k id l0 lo hi (.ar k r)=if hi.isSome=true∧l0≤r.length then (ia (r.length - l0) lo hi none).map fun p=>(.rsl id none k (l0+p.1) (p.2 - p.1),h,[]) else none:=by simp [Ap]
@[go_sem] theorem acj (h k z id lo n):BN h k z (.rsl id none k lo n)=Fc h k id lo n z (h id):=by simp [BN]
@[go_sem] theorem ack (h k id lo n z r):Fc h k id lo n z (.ar k r)=if lo+n≤r.length then some (.tup [],upd h id (.ar k (r.take lo++List.replicate n z++r.drop (lo+n))),[]) else none:=by simp [Fc]
@[go_sem] theorem ZX (h d k b z id i c m):sd h d k b z (.rsc id k 0 i c) (.v (.int .i64 m))=if 0 < m∧c < i+m.toNat then Aq h d k b id i m.toNat z (h id) else none:=by simp [sd]
@[go_sem] theorem ZY (h d k b id i m z r):Aq h d k b id i m z (.ar k r)=if i≤r.length∧(i+m)*b≤140737488355328 then bR h d k (r.take i++List.replicate m z) (i+m) [] else none:=by simp [Aq]
@[go_sem] theorem acl (id k lo n c):jh false (.rsc id k lo n c)=some (I n):=_root_.id rfl
@[go_sem] theorem acm (id k lo n c):BH (.rsc id k lo n c)=some (I c):=_root_.id rfl
@[go_sem] theorem acn (k id l0 n c lo hi mx):dK k (.rsc id k l0 n c) lo hi mx=E3 k id l0 n c lo hi mx:=by simp [dK]
@[go_sem] theorem aco (k id l0 n c x):E3 k id l0 n c none (some x) none=(gJ n c (some x)).map fun r=>.rsc id k l0 r c:=_root_.id rfl
@[go_sem] theorem acp (k id l0 n c x hi):E3 k id l0 n c (some x) hi none=(ia n (some x) hi none).map fun p=>.rsl id none k (l0+p.1) (p.2 - p.1):=_root_.id rfl
@[go_sem] theorem acq (ks id k lo n c):mr ks (.rsc id k lo n c)=if dV ks id none=true then .any else .rsc id k lo n c:=_root_.id rfl
@[go_sem] theorem ZZ (h d id k i j):Ar h d (.ref id none k i j)=EJ h d id (i*k+j) (h id):=_root_.id rfl
@[go_sem] theorem Z0 (h d id p cs):EJ h d id p (.bx cs)=xG h d id p cs cs[p]?:=_root_.id rfl
@[go_sem] theorem Yc (h d id p cs k r):xG h d id p cs (some (.osl k r))=bR (upd h id (.bx (cs.set p .any))) d k r r.length [(id,true)]:=_root_.id rfl
@[go_sem] theorem Yd (h d id p cs):xG h d id p cs (some .emp)=some (.emp,h,[]):=_root_.id rfl
@[go_sem] theorem Z3 (nm:Bool) (s h):pg nm [] s h=some ⟨s,h⟩:=_root_.id rfl
@[go_sem] theorem Ye (nm:Bool) (i l s h):pg nm (i::l) s h=if 200000≤i then (BP (i - 200000) s h (s (i - 200000))).bind (fun r=>if jK nm r.2.2 then pg nm l r.1 r.2.1 else none) else if 100000≤i then pg nm l s (uo h (s (i - 100000))) else (JB i s h (s i)).bind fun r=>if jK nm r.2.2 then pg nm l r.1 r.2.1 else none:=_root_.id rfl
@[go_sem] theorem Vv (ks):jK false ks=true:=_root_.id rfl
@[go_sem] theorem acr (i s h id k lo n):BP i s h (.rsl id none k lo n)=wk i s h id k lo n (h id):=_root_.id rfl
@[go_sem] theorem acs (i s h id k lo n c):BP i s h (.rsc id k lo n c)=wk i s h id k lo n (h id):=_root_.id rfl
@[go_sem] theorem act (i s h id k lo n r):wk i s h id k lo n (.ar k r)=if lo=0∧aG i=false∧cz (h i)=true then some (upd (eN [(id,false)] s) i (.rsl i none k 0 n),upd (upd h id .dead) i (.ar k r),[(id,false)]) else none:=by simp [wk]
@[go_sem] theorem Z4 (h id k lo n):uo h (.rsl id none k lo n)=(match h id with | .ar k rows=>upd h id (.ar k (rows.take (lo+n))) | _=>h):=_root_.id rfl
@[go_sem] theorem acu (nm:Bool) (s h):kW nm 0 s h=some ⟨s,h⟩:=_root_.id rfl
@[go_sem] theorem acv (nm:Bool) (i s h):kW nm (i+1) s h=(CR i s h (s i)).bind fun r=>if jK nm r.2.2 then some ⟨r.1,r.2.1⟩ else none:=_root_.id rfl
@[go_sem] theorem acw (i s h):CR i s h .emp=some (s,h,[]):=_root_.id rfl
@[go_sem] theorem acx (i s h id p k lo n):CR i s h (.rsl id (some p) k lo n)=if aG i=false then Ir i s h id p k lo n (h id) else none:=_root_.id rfl
@[go_sem] theorem adW (i s h id p k lo n cs):Ir i s h id p k lo n (.bx cs)=Aw i s h id p k lo n cs cs[p]?:=_root_.id rfl
@[go_sem] theorem acy (i s h id p k lo n cs r):Aw i s h id p k lo n cs (some (.osl k r))=if lo=0∧n=r.length∧cz (h i)=true then some (upd (eN [(id,true)] s) i (.rsl i none k 0 n),upd (upd h id (.bx (cs.set p .any))) i (.ar k r),[(id,true)]) else none:=by simp [Aw]
@[go_sem] theorem acz (m g ps l):NL call md m g ps l s h=aK (bC call md ps [] (l.take m) s h) fun s h=>aK (kW md.nm g s h) (ao call md (l.drop m)):=_root_.id rfl
end
end Go.Ab
namespace Go.Ab
open Go Go.IntWalk
set_option maxRecDepth 4000
set_option maxHeartbeats 1000000
theorem I7 {t:Rt} {x:List Int} (ht:sm t.exps) (hx:sm x) (hl:t.exps.length=x.length):R F.poly_collector_add_1 [.agg (bv t),.sl 1 (aX x)] []=some (I (bj t.exps x),[]):=by
 refine aZ sQ sP (qO false) rfl ?_
 have ho:=Hg ht hx hl
 simp only [eH,mP,bv,go_sem,↓reduceIte,aez,aeB,aeA,ho]
theorem QN {v:Int} {l:List Rt} {x:List Int} (c:Cl v l) (hx:sm x) (hl:(x.length:Int)=v) (h2:l.length≤1000000):∀ (k i j:Nat),j - i≤k→i≤be l x→be l x≤j→j≤l.length→∀ (s:af) (h:aa),s 0=.sl 4 (ax l)→s 1=.sl 1 (aX x)→s 2=.fn F.poly_collector_add_1 [] []→s 8=I l.length→s 9=I i→s 10=I j →
  aI 0 [0,1,2,8,9] (aU (az R (ab false) aS) [0,1,2,8,9,10] [] s h)=some (.normal,⟨upd (upd (upd (upd (upd (fun _=>.any) 9 (I (be l x))) 8 (I l.length)) 2 (.fn F.poly_collector_add_1 [] [])) 1 (.sl 1 (aX x))) 0 (.sl 4 (ax l)),fun _=>.dead⟩):=by
 intro k
 induction k with
 | zero =>
  intro i j hk hi hj hn s h h0 h1 h2' h8 h9 h10
  have e1:((i:Int) < (j:Int))=False:=ff (by omega)
  obtain rfl:i=be l x:=by omega
  rw [aA]
  simp only [aS,go_sem,↓reduceIte,aez,h0,h1,h2',h8,h9,h10,e1]
 | succ k ih =>
  intro i j hk hi hj hn s h h0 h1 h2' h8 h9 h10
  by_cases hij:i < j
  ·have e1:((i:Int) < (j:Int))=True:=tt (by omega)
   have e2:IntKind.i64.wrap ((i:Int)+(j:Int))=((i+j:Nat):Int):=wi (by omega) (by omega)
   have hlt:(i+j) / 2 < l.length:=by omega
   have g1:IntKind.u64.wrap (((i+j:Nat)):Int)=((i+j:Nat):Int):=pf rfl (by omega)
   have g2:((1:Int) < 0)=False:=ff (by decide)
   have g3:Int.fdiv ((i+j:Nat):Int) (2 ^ (min (Int.toNat 1) 64))=(((i+j) / 2:Nat):Int):=by
    rw [show (2:Int) ^ (min (Int.toNat 1) 64)=2 from rfl,Int.fdiv_eq_ediv_of_nonneg _ (by decide)]
    omega
   have g4:IntKind.i64.wrap (((i+j) / 2:Nat):Int)=(((i+j) / 2:Nat):Int):=wi (by omega) (by omega)
   have e3:bH (ax l) (((i+j) / 2:Nat):Int)=some (.ipt (bv l[(i+j) / 2])):=jx rfl (List.getElem?_eq_getElem hlt)
   have q:=c.t _ (List.getElem_mem hlt)
   have hc:=I7 q.sm hx (by have:=q.len; omega)
   have p1:bj (l[(i+j) / 2]).exps x < 0→(i+j) / 2 < be l x:=fun ho=>by
    rcases Nat.lt_trichotomy ((i+j) / 2) (be l x) with h | h | h
    ·exact h
    ·have:=Cz (l:=l) (x:=x) (q:=l[(i+j) / 2]) (by rw [← h]; exact List.getElem?_eq_getElem hlt)
     omega
    ·have:=QM c hl h (List.getElem?_eq_getElem hlt)
     omega
   have p2:¬ bj (l[(i+j) / 2]).exps x < 0→be l x≤(i+j) / 2:=fun ho=>by
    rcases Nat.lt_or_ge ((i+j) / 2) (be l x) with h | h
    ·exact absurd (I5 h (List.getElem?_eq_getElem hlt)) ho
    ·exact h
   have i1:=ih ((i+j) / 2+1) j (by omega)
   have i2:=ih i ((i+j) / 2) (by omega) hi
   generalize l[(i+j) / 2]=t at e3 q hc p1 p2
   rw [aA]
   generalize aU _ _ _=L at i1 i2 ⊢
   simp only [bv] at hc e3
   by_cases ho:bj t.exps x < 0
   ·have e4:(bj t.exps x < 0)=True:=tt ho
    have e5:IntKind.i64.wrap ((((i+j) / 2:Nat):Int)+1)=(((i+j) / 2+1:Nat):Int):=wi (by omega) (by omega)
    have:=p1 ho
    simp only [aS,go_sem,↓reduceIte,aez,aeB,aeA,aeC,h0,h1,h2',h8,h9,h10,e1,e2,g1,g2,g3,g4,e3,hc,e4,e5]
    exact i1 (by omega) hj hn _ _ rfl rfl rfl rfl rfl rfl
   ·have e4:(bj t.exps x < 0)=False:=ff ho
    have:=p2 ho
    simp only [aS,go_sem,↓reduceIte,aez,aeB,aeA,aeC,h0,h1,h2',h8,h9,h10,e1,e2,g1,g2,g3,g4,e3,hc,e4]
    exact i2 this (by omega) _ _ rfl rfl rfl rfl rfl rfl
  ·exact ih i j (by omega) hi hj hn s h h0 h1 h2' h8 h9 h10
def xj (l:List Rt) (x:List Int):Bool:=match l[be l x]? with
 | some q=>decide (bj q.exps x=0)
 | none=>false
theorem KN {v:Int} {l:List Rt} {x:List Int} (c:Cl v l) (hx:sm x) (hl:(x.length:Int)=v) (h2:l.length≤1000000):R F.slices_BinarySearchFunc_api_Term_api_Term_Sint_ [.sl 4 (ax l),.sl 1 (aX x),.fn F.poly_collector_add_1 [] []] []=some (.tup [I (be l x),B (xj l x)],[]):=by
 refine aZ gH gG (cG false) rfl ?_
 have h3:=QN c hx hl h2 l.length 0 l.length (by omega) (Nat.zero_le _) (xW l x) (Nat.le_refl _)
 simp only [Int.natCast_zero] at h3
 simp only [bg,cV,go_sem,↓reduceIte,aez]
 rw [h3 _ _ rfl rfl rfl rfl rfl rfl]
 unfold xj
 cases hq:l[be l x]? with
 | none =>
  have:l.length≤be l x:=List.getElem?_eq_none_iff.1 hq
  have e1:((be l x:Int) < (l.length:Int))=False:=ff (by omega)
  simp only [go_sem,↓reduceIte,aez,e1]
 | some q =>
  have hlt:=(List.getElem?_eq_some_iff.1 hq).1
  have e1:((be l x:Int) < (l.length:Int))=True:=tt (by omega)
  have vq:=c.t q (List.mem_of_getElem? hq)
  have hc:=I7 vq.sm hx (by have:=vq.len; omega)
  have e3:bH (ax l) (be l x:Int)=some (.ipt (bv q)):=jx rfl hq
  simp only [bv] at hc e3
  by_cases ho:bj q.exps x=0
  ·have e4:(bj q.exps x=0)=True:=tt ho
   simp only [go_sem,↓reduceIte,aez,aeB,aeA,aeC,e1,e3,hc,e4,decide_true]
  ·have e4:(bj q.exps x=0)=False:=ff ho
   simp only [go_sem,↓reduceIte,aez,aeB,aeA,aeC,e1,e3,hc,e4,decide_false]
end Go.Ab
namespace Go.Ab
open Go Go.IntWalk
set_option maxRecDepth 4000
set_option maxHeartbeats 1000000
theorem Do {d:Rd} (hn:d.m.length ≠ 0) (h1:d.m.length≤100000):R F.poly_copied [aF d] []=some (aF d,[]):=by
 refine aZ D4 D3 (ze false) rfl ?_
 have hc:=G9 (m:=d.m) (fun h=>hn (by rw [h]; rfl)) h1
 simp only [l7,afl,aF,aW,go_sem,↓reduceIte,aez,aeB,aeA,aeC,hc]
theorem I8 {h:aa} {d id p n:Nat} {cs:List AV} {rows:List (List AV)} {x:AV} (hh:h id=.bx cs) (hp:cs[p]?=some (.osl 4 rows)) (hn:n=rows.length) (hx:∃ r,x=.sl 1 r) :
  aj R (ab false) h d [.rsl id (some p) 4 0 n,x,.fn F.poly_collector_add_1 [] []] (.fn F.slices_BinarySearchFunc_api_Term_api_Term_Sint_ [] [])=(R F.slices_BinarySearchFunc_api_Term_api_Term_Sint_ (aM [[.o 5 [.o 2 [],.o 0 [],.o 2 [],.o 0 []]],[.o 2 []],[]] [.sl 4 rows,x,.fn F.poly_collector_add_1 [] []]) []).bind (Fd h):=by
 obtain ⟨r,rfl⟩:=hx
 subst hn
 unfold aj
 rw [if_pos (by simp [jJ,cW,As])]
 simp only [At,BO,JA,n5,gz,hh,hp,nf,dO,List.nil_append,List.append_nil,cN]
 simp
theorem Ho (o:Ob):ae [o]=upd (fun _=>.dead) 1000 o:=by
 funext i
 unfold ae upd
 by_cases h:i=1000
 ·subst h
  rfl
 ·rw [if_neg h]
  split
  ·rw [List.getElem?_eq_none (by simp; omega)]
   rfl
  ·rfl
theorem sy {f:FuncId} {fd:FD} {args:List AV} {o:Ob} {r:AV × List Ob} (hE:au.E f=none) (hC:au.C f=some fd) (hk:au.md.keep f=false) (h1:args.length=fd.np)
  (hz:ajf false fd.rs fd.res 1 (az R (ab false) fd.body (pi args) (upd (fun _=>.dead) 1000 o))=some r):R f args [o]=some r:=by
 refine Gc false hE hC hk h1 (by simp) ?_
 rw [Ho]
 exact hz
theorem EX {f:FuncId} {g:List AV→List Ob→Option (AV × List Ob)} {args:List AV} {hs:List Ob} (hE:au.E f=some g):R f args hs=g args hs:=uH hE
theorem Dp:R F.slices_Clone_int_int_ [.sl 1 []] []=some (.sl 1 [],[]):=by
 rw [EX (g:=LQ) (by kernel_rfl)]
 rfl
theorem xk {x:Int} {l:List Int} (h:l.length≤1000000):R F.slices_Clone_int_int_ [.sl 1 (aX (x::l))] []=some (.osl 1 (aX (x::l)),[]):=by
 rw [EX (g:=LQ) (by kernel_rfl)]
 show (if (((aX l).length+1)*8≤140737488355328) then _ else _)=_
 rw [if_pos (by rw [rg]; omega)]
 rfl
def nS (c:AV) (l:List Rt):Prop:=c=.osl 4 (ax l)∨(c=.emp∧l=[])
def t3 (v:Int) (c:AV) (e:Int):Ob:=.bx [I v,c,I e]
theorem tU {h:aa} {v e:Int} {c:AV} {l:List Rt} (hc:nS c l) (hh:h 1000=t3 v c e):n9 [] 1 h []=some (.tup [],[t3 v c e]):=by
 have hp:bU 1=[1000]:=rfl
 have h2:aB [1000] (t3 v c e)=true:=by
  rcases hc with rfl | ⟨rfl,_⟩ <;> rfl
 unfold n9
 rw [hp]
 simp [hh,h2,fw,lX,kX,aM]
theorem Hp {v e:Int} {c x:AV} {d:Rd} {l:List Rt} (hc:nS c l) (he:e ≠ 0):R F.poly_collector_add [.ref 1000 none 0 0 0,x,aF d] [t3 v c e]=some (.tup [],[t3 v c e]):=by
 refine sy go gl (du false) rfl ?_
 have e1:(e=0)=False:=ff he
 simp only [ck,dZ,t3,aF,aW,go_sem,↓reduceIte,aez,aeB,aeA,e1]
 exact tU hc rfl
theorem xY (h:aa) (i:Int) (b:Bool):Fd h (.tup [I i,B b],[])=some (.tup [I i,B b],h,[]):=rfl
theorem uU {h:aa} {id p id2 k n:Nat} {rows:List (List AV)} {cs:List AV} (h1:h id2=.ar k rows) (hn:n=rows.length) (h2:h id=.bx cs) (hne:id ≠ id2) (hp:p < cs.length) :
  mM h id p 1 [.rsl id2 none k 0 n]=some (upd (upd h id2 .dead) id (.bx (cs.set p (.osl k rows))),(id2,false)::(if cs[p]?.any aN then [(id,true)] else [])):=by
 have h3:upd h id2 .dead id=.bx cs:=by
  unfold upd
  rw [if_neg hne,h2]
 subst hn
 simp [mM,yj,h1,E6,E7,h3,hp,ud]
theorem Sw {l:List Rt} {t:Rt} {n i:Nat} (hn:n=l.length) (hi:i≤n) (h2:n≤1000000):R F.slices_Insert_api_Term_api_Term_ [.rsl 1000 none 4 0 n,I i,.sl 4 [bv t]] [.ar 4 (ax l)]=some (.osl 4 (ax (l.take i++t::l.drop i)),[.dead]):=by
 rw [EX (g:=Gb 4 64) (by kernel_rfl)]
 show (if (4:Nat)=4∧(4:Nat)=4∧(4:Nat)=4∧n=(ax l).length∧(0:Int)≤(i:Int)∧(i:Int)≤(n:Int)∧(n+1)*64≤140737488355328 then some (AV.osl 4 ((ax l).take (i:Int).toNat++bv t::(ax l).drop (i:Int).toNat),[Ob.dead]) else none)=_
 rw [if_pos ⟨rfl,rfl,rfl,by rw [gI,hn],by omega,by omega,by omega⟩,Int.toNat_natCast]
 simp [ax,List.map_take,List.map_drop]
theorem QO {t:Rt}:R F.slices_Insert_api_Term_api_Term_ [.emp,I 0,.sl 4 [bv t]] []=some (.osl 4 (ax [t]),[]):=by
 rw [EX (g:=Gb 4 64) (by kernel_rfl)]
 rfl
theorem Mj (t:Rt):nrmV [.o 5 [.o 2 [],.o 0 [],.o 2 [],.o 0 []]] (.sl 4 [bv t])=.sl 4 [bv t]:=by
 have:=tN [t]
 simp only [ax,List.map_cons,List.map_nil] at this
 simp only [nrmV,List.headD_cons,nrmL,List.map_cons,List.map_nil,this]
theorem OA {l:List Rt} {t:Rt} {h:aa} {d a b n i:Nat} (ha:h a=.ar 4 (ax l)) (hb:h b=.ar 4 [bv t]) (hab:a ≠ b) (_hda:2000+8*d ≠ a) (hdb:2000+8*d ≠ b) (hd:h (2000+8*d)=.dead) (hn:n=l.length) (hi:i≤n) (h2:n≤1000000) :
  aj R (ab false) h d [.rsl a none 4 0 n,.v (.int .i64 i),.rsl b none 4 0 1] (.fn F.slices_Insert_api_Term_api_Term_ [] []) =
   some (.rsl (2000+8*d) none 4 0 (l.length+1),upd (upd (upd h b (.fz 4 [bv t])) a .dead) (2000+8*d) (.ar 4 (ax (l.take i++t::l.drop i))),[(a,true),(a,false)]):=by
 have hm:=fV false
 have hs:=fF false
 have hk:=fl false
 have hf:=Sw (t:=t) hn hi h2
 have hb':jJ (ab false) [.rsl a none 4 0 n,.v (.int .i64 i),.rsl b none 4 0 1] (.fn F.slices_Insert_api_Term_api_Term_ [] [])=false:=by
  simp [jJ,hm]
 have h1:ah h [2,0,0] [.rsl a none 4 0 n,.v (.int .i64 i),.rsl b none 4 0 1]=some ([.rsl a none 4 0 n,.v (.int .i64 i),.sl 4 [bv t]],upd h b (.fz 4 [bv t]),[]):=by
  simp [ah,bP,mK,dv,ak,ha,hb,Ni,jj,ji]
 have g1:upd h b (.fz 4 [bv t]) a=.ar 4 (ax l):=by
  unfold upd
  rw [if_neg hab,ha]
 have g2:upd h b (.fz 4 [bv t]) (2000+8*d)=.dead:=by
  unfold upd
  rw [if_neg hdb,hd]
 have hr:bM (upd h b (.fz 4 [bv t])) 40 [a] 0=[a]:=by
  simp [bM,g1,ug,bp]
 have hp:bp [] ([AV.rsl a none 4 0 n,.v (.int .i64 i),.sl 4 [bv t]].flatMap bk)=[a]:=by
  simp [bk,cP,bp]
 have h3:aV [a] a=1000:=by simp [aV]
 have hnr:ch (.osl 4 (ax (l.take i++t::l.drop i)))=1:=rfl
 have hlen:(ax (l.take i++t::l.drop i)).length=l.length+1:=by
  rw [gI,List.length_append,List.length_take,List.length_cons,List.length_drop]
  omega
 have hnm:aM [[],[],[.o 5 [.o 2 [],.o 0 [],.o 2 [],.o 0 []]]] [.rsl a none 4 0 n,.v (.int .i64 i),.sl 4 [bv t]]=[.rsl a none 4 0 n,.v (.int .i64 i),.sl 4 [bv t]]:=by
  simp only [aM,Mj]
  rfl
 unfold aj
 rw [if_neg (by rw [hb']; exact Bool.false_ne_true)]
 simp only [dq,hm,List.nil_append,List.append_nil,h1,Option.bind_some,hp,hr,hs,hnm]
 simp [jI,aJ,aO,g1,aB,cz,cQ,fZ,h3,cD,hf,et,hnr,cr,g2,cU,bf,mU,uj,kV,cP,eE,da,rl,cB,mat,bW,dF,hk,ui,hm,hlen]
 exact ⟨by unfold bQ; rw [if_neg (by omega)],by rw [tq]⟩
theorem OB {h:aa} {d:Nat} {r:List (List AV)} {i:Int} {b:Bool} (hR:R F.slices_BinarySearchFunc_api_Term_api_Term_Sint_ [.sl 4 [],nrmV [.o 2 []] (.sl 1 r),.fn F.poly_collector_add_1 [] []] []=some (.tup [I i,B b],[])) (h0:h (2000+8*d)=.dead) (h1:h (2000+8*d+1)=.dead) :
  aj R (ab false) h d [.emp,.sl 1 r,.fn F.poly_collector_add_1 [] []] (.fn F.slices_BinarySearchFunc_api_Term_api_Term_Sint_ [] [])=some (.tup [I i,B b],h,[]):=by
 have hm:=cW false
 have hs:=cN false
 have hk:=cG false
 have hb':jJ (ab false) [.emp,.sl 1 r,.fn F.poly_collector_add_1 [] []] (.fn F.slices_BinarySearchFunc_api_Term_api_Term_Sint_ [] [])=false:=by
  simp [jJ,hm,As]
 have h3:ah h [3,0,0] [.emp,.sl 1 r,.fn F.poly_collector_add_1 [] []]=some ([.emp,.sl 1 r,.fn F.poly_collector_add_1 [] []],h,[]):=by
  simp [ah,bP,mK,dv,ak]
 have hp:bp [] ([AV.emp,.sl 1 r,.fn F.poly_collector_add_1 [] []].flatMap bk)=[]:=by
  simp [bk,cP,bp]
 have hnm:aM [[.o 5 [.o 2 [],.o 0 [],.o 2 [],.o 0 []]],[.o 2 []],[]] [.emp,.sl 1 r,.fn F.poly_collector_add_1 [] []]=[.sl 4 [],nrmV [.o 2 []] (.sl 1 r),.fn F.poly_collector_add_1 [] []]:=by
  simp only [aM]
  rfl
 obtain ⟨q,hq⟩:∃ q,nrmV [.o 2 []] (.sl 1 r)=.sl 1 q:=⟨_,rfl⟩
 rw [hq] at hR hnm
 have hr:∀ n,bM h n [] 0=[]:=fun n=>by cases n <;> rfl
 unfold aj
 rw [if_neg (by rw [hb']; exact Bool.false_ne_true)]
 simp only [dq,hm,List.nil_append,List.append_nil,h3,Option.bind_some,hp,hr,hs,hnm]
 simp [jI,aJ,aO,cQ,fZ,hR,et,ch,cr,h0,h1,cz,cU,mU,uj,kV,eE,da,rl,cB,mat,bq,bW,dF,hk,ui,hm]
theorem Mk {t:Rt} {h:aa} {d b:Nat} (hb:h b=.ar 4 [bv t]) (hdb:2000+8*d ≠ b) (hd:h (2000+8*d)=.dead) :
  aj R (ab false) h d [.emp,.v (.int .i64 0),.rsl b none 4 0 1] (.fn F.slices_Insert_api_Term_api_Term_ [] [])=some (.rsl (2000+8*d) none 4 0 1,upd (upd h b (.fz 4 [bv t])) (2000+8*d) (.ar 4 (ax [t])),[]):=by
 have hm:=fV false
 have hs:=fF false
 have hk:=fl false
 have hf:=QO (t:=t)
 have hb':jJ (ab false) [.emp,.v (.int .i64 0),.rsl b none 4 0 1] (.fn F.slices_Insert_api_Term_api_Term_ [] [])=false:=by
  simp [jJ,hm]
 have h1:ah h [2,0,0] [.emp,.v (.int .i64 0),.rsl b none 4 0 1]=some ([.emp,.v (.int .i64 0),.sl 4 [bv t]],upd h b (.fz 4 [bv t]),[]):=by
  simp [ah,bP,mK,dv,ak,hb,jj,ji]
 have g2:upd h b (.fz 4 [bv t]) (2000+8*d)=.dead:=by
  unfold upd
  rw [if_neg hdb,hd]
 have hp:bp [] ([AV.emp,.v (.int .i64 0),.sl 4 [bv t]].flatMap bk)=[]:=by
  simp [bk,cP,bp]
 have hnr:ch (.osl 4 (ax [t]))=1:=rfl
 have hnm:aM [[],[],[.o 5 [.o 2 [],.o 0 [],.o 2 [],.o 0 []]]] [.emp,.v (.int .i64 0),.sl 4 [bv t]]=[.emp,.v (.int .i64 0),.sl 4 [bv t]]:=by
  simp only [aM,Mj]
  rfl
 have hr:∀ (h:aa) n,bM h n [] 0=[]:=fun h n=>by cases n <;> rfl
 have hlen:(ax [t]).length=1:=rfl
 unfold aj
 rw [if_neg (by rw [hb']; exact Bool.false_ne_true)]
 simp only [dq,hm,List.nil_append,List.append_nil,h1,Option.bind_some,hp,hr,hs,hnm]
 simp [jI,aJ,aO,cQ,fZ,hf,et,hnr,cr,g2,cz,cU,mU,uj,kV,cP,eE,da,rl,cB,mat,bW,dF,hk,ui,hm,hlen]
 unfold bQ
 rw [if_neg (by omega)]
def ClE (x:List Int):Prop:=R F.slices_Clone_int_int_ [.sl 1 (aX x)] []=some (.osl 1 (aX x),[])∨R F.slices_Clone_int_int_ [.sl 1 (aX x)] []=some (.sl 1 (aX x),[])
theorem Ml:∀ {x:List Int},x.length≤100000→ClE x
 | [],_=>.inr Dp
 | x::l,h=>.inl (xk (by simp at h; omega))
theorem Hq {v v':Int} {l:List Rt} {t:Rt} (c:Cl v l) (vt:VT v t) (hl:l.length≤1000000) (hf:xj l t.exps=false) :
  R F.poly_collector_add [.ref 1000 none 0 0 0,.sl 1 (aX t.exps),aF t.c] [t3 v' (.osl 4 (ax l)) 0]=some (.tup [],[t3 v' (.osl 4 (ax (l.take (be l t.exps)++t::l.drop (be l t.exps)))) 0]):=by
 refine sy go gl (du false) rfl ?_
 have hbs:=KN c vt.sm vt.len hl
 rw [hf] at hbs
 have hcp:=Do vt.nz (Nat.le_trans (xi vt.vc vt.c.lb) (by decide))
 simp only [aF,aW] at hcp
 have k1:(aX t.exps).take t.exps.length=aX t.exps:=List.take_of_length_le (by rw [rg]; exact Nat.le_refl _)
 have k2:(ax l).take l.length=ax l:=List.take_of_length_le (by rw [gI]; exact Nat.le_refl _)
 have hlen:(l.take (be l t.exps)++t::l.drop (be l t.exps)).length=l.length+1:=by
  have:=xW l t.exps
  rw [List.length_append,List.length_take,List.length_cons,List.length_drop]
  omega
 have hp:=xW l t.exps
 simp only [ck,dZ,t3,aF,aW,go_sem,↓reduceIte,aez,aeB,aeA]
 rw [I8 rfl rfl (gI l).symm ⟨_,rfl⟩]
 rcases Ml vt.ok.len with hcv | hcv
 all_goals
  simp only [go_sem,↓reduceIte,aez,aeB,aeA,aeC,aeE,aeD,hbs,xY,hcv,hcp,Nat.zero_add,Nat.le_refl,k1]
  rw [OA rfl rfl (by decide) (by decide) (by decide) rfl rfl hp hl]
  generalize l.take (be l t.exps)++t::l.drop (be l t.exps)=L at hlen ⊢
  simp only [go_sem,↓reduceIte,aez,aeB,aeA,aeC,aeD]
  rw [if_pos (by rfl),uU rfl (by rw [gI,hlen]) rfl (by decide) (Nat.lt_of_lt_of_le (by decide) (Nat.le_refl 3))]
  simp only [go_sem,↓reduceIte]
  exact tU (.inl rfl) rfl
theorem OD {v':Int} {v:Int} {t:Rt} (vt:VT v t) :
  R F.poly_collector_add [.ref 1000 none 0 0 0,.sl 1 (aX t.exps),aF t.c] [t3 v' .emp 0]=some (.tup [],[t3 v' (.osl 4 (ax [t])) 0]):=by
 refine sy go gl (du false) rfl ?_
 have hbs:=KN (l:=[]) (Cl.nil v) vt.sm vt.len (Nat.zero_le _)
 rw [show be [] t.exps=0 from rfl,show xj [] t.exps=false from rfl,Int.natCast_zero] at hbs
 have hcp:=Do vt.nz (Nat.le_trans (xi vt.vc vt.c.lb) (by decide))
 simp only [aF,aW] at hcp
 have k1:(aX t.exps).take t.exps.length=aX t.exps:=List.take_of_length_le (by rw [rg]; exact Nat.le_refl _)
 have k2:nrmV [.o 2 []] (.sl 1 (aX t.exps))=.sl 1 (aX t.exps):=by
  simp only [go_sem]
 have hlen:[t].length=1:=rfl
 simp only [ck,dZ,t3,aF,aW,go_sem,↓reduceIte,aez,aeB,aeA]
 rw [OB (by rw [k2]; exact hbs) rfl rfl]
 rcases Ml vt.ok.len with hcv | hcv
 all_goals
  simp only [go_sem,↓reduceIte,aez,aeB,aeA,aeC,aeE,hcv,hcp,Nat.zero_add,Nat.le_refl,k1]
  rw [Mk rfl (by decide) rfl]
  simp only [go_sem,↓reduceIte,aez,aeB,aeA,aeC]
  rw [if_pos (by rfl),uU rfl (show 1=(ax [t]).length from rfl) rfl (by decide) (Nat.lt_of_lt_of_le (by decide) (Nat.le_refl 3))]
  simp only [go_sem,↓reduceIte]
  exact tU (.inl rfl) rfl
end Go.Ab
namespace Go.Ab
open Go Go.IntWalk
set_option maxRecDepth 4000
set_option maxHeartbeats 1000000
theorem xn {d n i:Nat} (h:i≤n):gJ d n (some (I i))=some i:=by
 simp only [gJ]
 rw [if_pos ⟨by omega,by omega⟩]
 rfl
theorem Sx {h:aa} {j k n:Nat} {rows:List (List AV)} (hj:aG j=false) (hh:h j=.ar k rows) (hn:n=rows.length) (hc:aB [1000] (h 1000)=true):n9 [[]] 1 h [.rsl j none k 0 n]=some (.osl k rows,[h 1000]):=by
 subst hn
 have hp:bU 1=[1000]:=rfl
 unfold n9
 rw [if_pos]
 ·simp [lX,lA,ge,hj,hh,qq,kX,aM,nrmV,nrmL,hp]
 ·simp [hp,hc,fw,bk,cP,hj]
theorem Sy {rows:List (List AV)} {n i:Nat} (hn:n=rows.length) (hi:i < n) (h2:n≤1000000):R F.slices_Delete_api_Term_api_Term_ [.rsl 1000 none 4 0 n,I i,I ((i+1:Nat):Int)] [.ar 4 rows]=some (.osl 4 (rows.take i++rows.drop (i+1)),[.dead]):=by
 refine sy mH mG (fm false) rfl ?_
 subst hn
 have b1:gJ rows.length rows.length (some (I rows.length))=some rows.length:=xn (Nat.le_refl _)
 have b2:∀ d,gJ d rows.length (some (I ((i+1:Nat):Int)))=some (i+1):=fun d=>xn (by omega)
 have b3:∀ d,gJ d (i+1) (some (I i))=some i:=fun d=>xn (by omega)
 have b4:∀ d,gJ d rows.length (some (I i))=some i:=fun d=>xn (by omega)
 have e1:((i:Int)=((i+1:Nat):Int))=False:=ff (by omega)
 have s1:dK 4 (.rsl 1000 none 4 0 rows.length) (some (I i)) (some (I ((i+1:Nat):Int))) (some (I rows.length))=some .any:=by
  simp only [dK,if_true,ia,b1,b2,b3,Option.bind_some,Option.map_some,Option.isNone_some,if_neg Bool.false_ne_true]
 have s2:dK 4 (.rsl 1000 none 4 0 rows.length) none (some (I i)) none=some (.rsl 1000 none 4 0 i):=by
  simp only [dK,if_true,ia,b4,zS,Option.bind_some,Option.map_some,Option.isNone_none,Nat.sub_zero,Nat.add_zero]
 have s3:dK 4 (.rsl 1000 none 4 0 rows.length) (some (I ((i+1:Nat):Int))) none none=some (.rsl 1000 none 4 (i+1) (rows.length - (i+1))):=by
  simp only [dK,if_true,ia,b2,zS,Option.bind_some,Option.map_some,Option.isNone_none,Nat.zero_add]
 have t1:(rows.drop (i+1)).take (rows.length - (i+1))=rows.drop (i+1):=List.take_of_length_le (by rw [List.length_drop]; omega)
 have t2:(i+1+(rows.length - (i+1))≤rows.length)=True:=eq_true (by omega)
 obtain ⟨m,hm⟩:∃ m,i+(rows.length - (i+1))=m:=⟨_,rfl⟩
 obtain ⟨D,hD⟩:∃ D,rows.take i++rows.drop (i+1)=D:=⟨_,rfl⟩
 have d1:D.length=m:=by
  rw [← hD,List.length_append,List.length_take,List.length_drop]
  omega
 obtain ⟨A,hA⟩:∃ A,D++rows.drop m=A:=⟨_,rfl⟩
 have a1:A.length=rows.length:=by
  rw [← hA,List.length_append,List.length_drop,d1]
  omega
 have a2:A.take m=D:=by rw [← hA,List.take_append_of_le_length (by omega),List.take_of_length_le (by omega)]
 have e5:∀ h,yL h 26 4 64 1000 4 0 i (rows.drop (i+1)) 4 rows=some (.rsl 1000 none 4 0 m,upd h 1000 (.ar 4 A),[]):=fun h=>by
  unfold yL
  rw [if_pos ⟨rfl,rfl,by rw [List.length_drop]; omega⟩,List.length_drop,Nat.zero_add,hm,hD,hA]
 have e7:(i=rows.length)=False:=eq_false (by omega)
 have b5:ia rows.length (some (I m)) (some (I rows.length)) none=some (m,rows.length):=by
  simp only [ia,b1,Option.bind_some]
  rw [xn (by omega)]
  rfl
 have c1:(m+(rows.length - m)≤rows.length)=True:=eq_true (by omega)
 have c2:∀ z,(D++List.replicate (rows.length - m) z++A.drop (m+(rows.length - m))).take m=D:=fun z=>by
  rw [List.append_assoc,List.take_append_of_le_length (by omega),List.take_of_length_le (by omega)]
 rw [hD]
 simp only [cd,fT,go_sem,↓reduceIte,aez,aeC,aeE,s1,s2,s3,e1,t1,t2,e5,e7,false_and,and_false,a1,a2,b5,c1,c2,Nat.sub_zero,Nat.zero_add,Nat.zero_le,axe,decide_false]
 exact Sx (by rfl) (by rfl) d1.symm (by rfl)
theorem OE {l:List Rt} {h:aa} {d a n i:Nat} (ha:h a=.ar 4 (ax l)) (_hda:2000+8*d ≠ a) (hd:h (2000+8*d)=.dead) (hn:n=l.length) (hi:i < n) (h2:n≤1000000) :
  aj R (ab false) h d [.rsl a none 4 0 n,.v (.int .i64 i),.v (.int .i64 ((i+1:Nat):Int))] (.fn F.slices_Delete_api_Term_api_Term_ [] []) =
   some (.rsl (2000+8*d) none 4 0 (l.length - 1),upd (upd h a .dead) (2000+8*d) (.ar 4 (ax (l.take i++l.drop (i+1)))),[(a,true),(a,false)]):=by
 have hm:=mI false
 have hs:=mo false
 have hk:=fm false
 have hf:=Sy (rows:=ax l) (n:=n) (i:=i) (by rw [gI,hn]) hi h2
 have e1:(ax l).take i++(ax l).drop (i+1)=ax (l.take i++l.drop (i+1)):=by simp [ax,List.map_take,List.map_drop]
 rw [e1] at hf
 have hb':jJ (ab false) [.rsl a none 4 0 n,.v (.int .i64 i),.v (.int .i64 ((i+1:Nat):Int))] (.fn F.slices_Delete_api_Term_api_Term_ [] [])=false:=by
  simp [jJ,hm]
 have h1:ah h [2,0,0] [.rsl a none 4 0 n,.v (.int .i64 i),.v (.int .i64 ((i+1:Nat):Int))]=some ([.rsl a none 4 0 n,.v (.int .i64 i),.v (.int .i64 ((i+1:Nat):Int))],h,[]):=by
  simp [ah,bP,mK,dv,ak,ha,Ni]
 have hr:bM h 40 [a] 0=[a]:=by
  simp [bM,ha,ug,bp]
 have hp:bp [] ([AV.rsl a none 4 0 n,.v (.int .i64 i),.v (.int .i64 ((i+1:Nat):Int))].flatMap bk)=[a]:=by
  simp [bk,cP,bp]
 have h3:aV [a] a=1000:=by simp [aV]
 have hnr:ch (.osl 4 (ax (l.take i++l.drop (i+1))))=1:=rfl
 have hlen:(ax (l.take i++l.drop (i+1))).length=l.length - 1:=by
  rw [gI,List.length_append,List.length_take,List.length_drop]
  omega
 unfold aj
 rw [if_neg (by rw [hb']; exact Bool.false_ne_true)]
 simp only [dq,hm,List.nil_append,List.append_nil,h1,Option.bind_some,hp,hr,hs]
 simp only [Int.natCast_add,Int.natCast_one] at hf
 simp [jI,aM,aJ,aO,ha,aB,cz,cQ,fZ,h3,cD,hf,et,hnr,cr,hd,cU,bf,mU,uj,kV,cP,eE,da,rl,cB,mat,bW,dF,hk,ui,hm,hlen]
 exact ⟨by unfold bQ; rw [if_neg (by omega)],by rw [tq]⟩
theorem QP (h:aa) (i:Nat) (xs:List AV) (a b:AV) (r:List (List AV)):xE h 3 1000 1 4 i 1 xs [] (.bx [a,.osl 4 r,b])=(wd 3 4 i 1 xs 4 r).map fun q=>(.und,upd h 1000 (.bx [a,.osl 4 q,b]),[]):=rfl
theorem xp (a b:AV) (k:Nat) (r:List (List AV)):gz 1 (.bx [a,.osl k r,b])=some (k,r):=rfl
theorem CA (h:aa) (n:Nat) (g:Bool) (i j:Nat) (r:List (List AV)):jH h n g 4 i j (some (4,r))=(r[i]?).bind fun row=>(im n g row j).map fun a=>(a,h,[]):=rfl
theorem OF {v v':Int} {l:List Rt} {t q:Rt} (c:Cl v l) (vt:VT v t) (hl:l.length≤1000000) (hq:l[be l t.exps]?=some q) (ho:bj q.exps t.exps=0) :
  R F.poly_collector_add [.ref 1000 none 0 0 0,.sl 1 (aX t.exps),aF t.c] [t3 v' (.osl 4 (ax l)) 0]=some (.tup [],[if (iQ q.c t.c).2=0 then (if (iQ q.c t.c).1.m.length=0 then t3 v' (.osl 4 (ax (l.take (be l t.exps)++l.drop (be l t.exps+1)))) 0 else t3 v' (.osl 4 (ax (l.set (be l t.exps) ⟨q.exps,(iQ q.c t.c).1⟩))) 0) else t3 v' (.osl 4 (ax l)) 9]):=by
 refine sy go gl (du false) rfl ?_
 have hbs:=KN c vt.sm vt.len hl
 have hf:xj l t.exps=true:=by
  unfold xj
  rw [hq]
  exact decide_eq_true ho
 rw [hf] at hbs
 have vq:=c.t q (List.mem_of_getElem? hq)
 have hadd:=QL vq.c vt.c
 have hlt:=(List.getElem?_eq_some_iff.1 hq).1
 have hrow:(ax l)[be l t.exps]?=some (bv q):=by simp [ax,hq]
 have hi0:(0≤(be l t.exps:Int)∧(be l t.exps:Int) < (l.length:Int))=True:=eq_true ⟨by omega,by omega⟩
 have hw:IntKind.i64.wrap ((be l t.exps:Int)+1)=((be l t.exps+1:Nat):Int):=wi (by omega) (by omega)
 generalize iQ q.c t.c=r at hadd ⊢
 obtain ⟨s,e⟩:=r
 simp only [rV,aF,aW] at hadd
 simp only [bv] at hrow
 simp only [ck,dZ,t3,aF,aW,go_sem,↓reduceIte,aez,aeB,aeA]
 rw [I8 rfl rfl (gI l).symm ⟨_,rfl⟩]
 by_cases he:e=0
 ·subst he
  by_cases hs:s.m.length=0
  ·have e1:((s.m.length:Int)=0)=True:=tt (by omega)
   have hlen:(l.take (be l t.exps)++l.drop (be l t.exps+1)).length=l.length - 1:=by
    rw [List.length_append,List.length_take,List.length_drop]
    omega
   simp only [go_sem,↓reduceIte,aez,aeB,aeA,aeC,aeE,aeD,hbs,xY,hi0,hrow,hadd,hs,Int.toNat_natCast,Int.natCast_zero,Nat.zero_add,xp,CA,hw]
   rw [OE rfl (by decide) rfl rfl hlt hl]
   generalize l.take (be l t.exps)++l.drop (be l t.exps+1)=L at hlen ⊢
   simp only [go_sem,↓reduceIte,aez,aeB,aeA,aeC,aeD]
   rw [uU rfl (by rw [gI,hlen]) rfl (by decide) (Nat.lt_of_lt_of_le (by decide) (Nat.le_refl 3))]
   simp only [go_sem,↓reduceIte]
   exact tU (.inl rfl) rfl
  ·have e1:((s.m.length:Int)=0)=False:=ff (by omega)
   have hset:(ax l).set (be l t.exps) [.sl 1 (aX q.exps),B s.neg,lm s.m,I s.e]=ax (l.set (be l t.exps) ⟨q.exps,s⟩):=by
    unfold ax
    rw [List.map_set]
    rfl
   simp only [go_sem,↓reduceIte,aez,aeB,aeA,aeC,aeE,aeD,hbs,xY,hi0,hrow,hadd,hs,e1,Int.toNat_natCast,Nat.zero_add,xp,CA,hw,QP,hset]
   exact tU (.inl rfl) rfl
 ·have e1:(e=0)=False:=ff he
  simp only [go_sem,↓reduceIte,aez,aeB,aeA,aeC,aeE,aeD,hbs,xY,hi0,hrow,hadd,e1,Int.toNat_natCast,Nat.zero_add,xp,CA,hw]
  exact tU (.inl rfl) rfl
theorem I9 {v v':Int} {l:List Rt} {t:Rt} {cell:AV} (c:Cl v l) (vt:VT v t) (hl:l.length≤1000000) (hc:nS cell l) :
  ∃ cell' l' e',R F.poly_collector_add [.ref 1000 none 0 0 0,.sl 1 (aX t.exps),aF t.c] [t3 v' cell 0]=some (.tup [],[t3 v' cell' e'])∧nS cell' l'∧((e'=0∧kU l t=some l')∨(e'=9∧kU l t=none∧l'=l)):=by
 rcases hc with rfl | ⟨rfl,rfl⟩
 ·rw [I6]
  cases hq:l[be l t.exps]? with
  | none =>
   exact ⟨_,_,_,Hq c vt hl (by unfold xj; rw [hq]),.inl rfl,.inl ⟨rfl,rfl⟩⟩
  | some q =>
   by_cases ho:bj q.exps t.exps=0
   ·have h1:=OF (v':=v') c vt hl hq ho
    simp only [if_pos ho]
    by_cases he:(iQ q.c t.c).2=0
    ·rw [if_pos he] at h1 ⊢
     by_cases hs:(iQ q.c t.c).1.m.length=0
     ·rw [if_pos hs] at h1 ⊢
      exact ⟨_,_,_,h1,.inl rfl,.inl ⟨rfl,rfl⟩⟩
     ·rw [if_neg hs] at h1 ⊢
      exact ⟨_,_,_,h1,.inl rfl,.inl ⟨rfl,rfl⟩⟩
    ·rw [if_neg he] at h1 ⊢
     exact ⟨_,_,_,h1,.inl rfl,.inr ⟨rfl,rfl,rfl⟩⟩
   ·simp only [if_neg ho]
    exact ⟨_,_,_,Hq c vt hl (by unfold xj; rw [hq]; exact decide_eq_false ho),.inl rfl,.inl ⟨rfl,rfl⟩⟩
 ·exact ⟨_,_,_,OD vt,.inl rfl,.inl ⟨rfl,rfl⟩⟩
end Go.Ab
namespace Go.Ab
open Go Go.IntWalk
def bw:List Rt→(List Int→Int)→Int
 | [],_=>0
 | t::l,f=>zI t.c*f t.exps+bw l f
theorem Hr {v:Int} {f:List Int→Int}:∀ {l l':List Rt} {t:Rt},Cl v l→VT v t→kU l t=some l'→bw l' f=bw l f+zI t.c*f t.exps
 | [],l',t,c,vt,h=>by
  cases h
  show zI t.c*f t.exps+0=0+_
  omega
 | q::l,l',t,c,vt,h=>by
  obtain ⟨c1,c2,c3⟩:=c.cons
  unfold kU at h
  split at h
  ·rw [Option.map_eq_some_iff] at h
   obtain ⟨l2,h2,rfl⟩:=h
   have ih:=Hr c3 vt h2 (f:=f)
   show _+bw l2 f=(_+bw l f)+_
   rw [ih,Int.add_assoc]
  ·split at h
   ·rename_i h1 h2
    have he:=I4 (c1.l2 vt) h2
    split at h
    ·rename_i h3
     cases h
     have hz:=QJ h3
     split
     ·rename_i h4
      rw [rf h4] at hz
      show bw l f=(zI q.c*f q.exps+bw l f)+_
      rw [he,Int.add_right_comm,← Int.add_mul,← hz,Int.zero_mul,Int.zero_add]
     ·show zI (iQ q.c t.c).1*f q.exps+bw l f=(zI q.c*f q.exps+bw l f)+_
      rw [hz,he,Int.add_mul,Int.add_right_comm]
    ·cases h
   ·cases h
    show zI t.c*f t.exps+bw (q::l) f=_
    exact Int.add_comm _ _
theorem Ac {v:Int} {f:List Int→Int}:∀ {ts l l':List Rt},Cl v l→(∀ t ∈ ts,VT v t)→ej l ts=some l'→bw l' f=bw l f+bw ts f
 | [],l,l',c,_,h=>by
  cases h
  exact (Int.add_zero _).symm
 | t::ts,l,l',c,vt,h=>by
  unfold ej at h
  rw [Option.bind_eq_some_iff] at h
  obtain ⟨l2,h2,h3⟩:=h
  rw [Ac (xX c (vt t (by simp)) h2).1 (fun x hx=>vt x (by simp [hx])) h3,Hr c (vt t (by simp)) h2]
  show _=_+(_+_)
  omega
end Go.Ab
namespace Go.Ab
open Go Go.IntWalk
def p0:Rp:=⟨0,[]⟩
def pV (r:Rp × Int):AV:=.tup [bm r.1,I r.2]
def ie (v:Int):Option (List Rt)→Rp × Int
 | none=>(p0,9)
 | some l=>if 500 < l.length then (p0,5) else (⟨v,l⟩,0)
def sz (a b:Rp):Bool:=vp a && (vp b && decide (a.vars=b.vars))
def kn (a b:Rp):Rp × Int:=if sz a b=true then ie a.vars (ej [] (a.terms++b.terms)) else (p0,1)
def bI (a b:List Int):List Int:=List.zipWith (·+·) a b
theorem Hs:∃ K:Int,K ≠ 0∧∀ a b:Rd,(eC a b).2=0→zI (eC a b).1*K=zI a*zI b:=by
 refine ⟨2 ^ 16384,?_,fun a b h=>?_⟩
 ·generalize 16384=n
  exact Int.pow_ne_zero (by decide)
 ·unfold eC at h ⊢
  split at h
  ·rename_i hc
   rw [if_pos hc]
   exact I0 (j:=16384) h
  ·simp at h
noncomputable def KK:Int:=Classical.choose Hs
theorem Vw:KK ≠ 0:=(Classical.choose_spec Hs).1
theorem CD {a b:Rd} (h:(eC a b).2=0):zI (eC a b).1*KK=zI a*zI b:=(Classical.choose_spec Hs).2 a b h
theorem CE:∀ {l:List Int},(∀ x ∈ l,0≤x)→0≤bc l∧∀ x ∈ l,x≤bc l
 | [],_=>⟨Int.le_refl _,fun _ h=>by cases h⟩
 | y::l,h=>by
  obtain ⟨h1,h2⟩:=CE fun x hx=>h x (List.mem_cons_of_mem _ hx)
  have h3:=h y (by simp)
  refine ⟨by unfold bc; omega,fun x hx=>?_⟩
  unfold bc
  rcases List.mem_cons.1 hx with rfl | hx
  ·omega
  ·have:=h2 x hx
   omega
end Go.Ab
namespace Go.Ab
open Go Go.IntWalk
theorem nT {a b:Rp}:sz a b=true↔vp a=true∧vp b=true∧a.vars=b.vars:=by
 unfold sz
 simp
theorem Jc {v:Int} {o:Option (List Rt)} (h:(ie v o).2=0):∃ l,o=some l∧l.length≤500∧(ie v o).1=⟨v,l⟩:=by
 unfold ie at h ⊢
 cases o with
 | none=>simp at h
 | some l =>
  simp only [] at h ⊢
  split at h
  ·simp at h
  ·rename_i hl
   exact ⟨l,rfl,by omega,by rw [if_neg hl]⟩
structure Pv (v:Int) (a:Rp):Prop where
 v:a.vars=v
 p:vp a=true
 o:OkP a
theorem Pv.cl {v:Int} {a:Rp} (h:Pv v a):Cl v a.terms:=by
 have:=(eJ h.o h.p).1
 rw [h.v] at this
 exact this
end Go.Ab
namespace Go.Ab
open Go Go.IntWalk
set_option maxRecDepth 4000
set_option maxHeartbeats 1000000
theorem Hy {a:AV} (h:ak a=true):cP a=[]:=by cases a <;> simp [ak] at h <;> rfl
theorem Jd {a:AV} (h:ak a=true) (l:List Nat):aO l a=true:=by cases a <;> simp [ak] at h <;> simp [aO,h]
theorem Hz {a:AV} (h:ak a=true) (g:Nat→Nat):fZ g a=a:=by cases a <;> simp [ak] at h <;> rfl
theorem uW {α β:Type} {f:α→List β}:∀ {l:List α},(∀ x ∈ l,f x=[])→l.flatMap f=[]
 | [],_=>rfl
 | x::l,h=>by
  rw [List.flatMap_cons,h x (by simp),uW fun y hy=>h y (by simp [hy])]
  rfl
theorem Je {a:AV} (h:dat a=true):bk a=[]:=by
 cases a <;> simp only [dat] at h <;> first | exact Hy h | skip
 ·rename_i cs
  exact uW fun x hx=>Hy (List.all_eq_true.1 h x hx)
 ·rename_i f x y
  simp [ak] at h
  obtain ⟨rfl,rfl⟩:=h
  rfl
theorem Mm {a:AV} (h:dat a=true) (l:List Nat):aJ l a=true:=by
 cases a <;> simp only [dat] at h <;> first | exact Jd h l | skip
 ·rename_i cs
  simp only [aJ,List.all_eq_true]
  exact fun x hx=>Jd (List.all_eq_true.1 h x hx) l
 ·rename_i f x y
  simp [ak] at h
  obtain ⟨rfl,rfl⟩:=h
  rfl
theorem Jf {a:AV} (h:dat a=true) (g:Nat→Nat):cQ g a=a:=by
 cases a <;> simp only [dat] at h <;> first | exact Hz h g | skip
 ·rename_i cs
  show AV.agg (cs.map (fZ g))=_
  rw [(List.map_congr_left (g:=fun c=>c) fun x hx=>Hz (List.all_eq_true.1 h x hx) g).trans (List.map_id' cs)]
 ·rename_i f x y
  simp [ak] at h
  obtain ⟨rfl,rfl⟩:=h
  rfl
theorem Mn {a:AV} (h:dat a=true) (hp:aa):bP hp 0 a=some (a,hp,[]):=by
 by_cases hagg:∃ cs,a=.agg cs
 ·obtain ⟨cs,rfl⟩:=hagg
  simp only [dat] at h
  simp only [bP,mK]
  rw [gr h hp]
  rfl
 ·have h2:ak a=true:=by cases a <;> first | exact h | exact absurd ⟨_,rfl⟩ hagg
  cases a <;> first | (simp [ak] at h2; done) | rfl | skip
theorem CH (hp:aa):∀ {l:List AV},l.all dat=true→ah hp [] l=some (l,hp,[])
 | [],_=>rfl
 | a::l,h=>by
  simp only [List.all_cons,Bool.and_eq_true] at h
  simp only [ah,List.headD_nil,Mn h.1,Option.bind_some,List.tail_nil,CH hp h.2,List.append_nil]
structure OC (o:Ob):Prop where
 cl:∀ l,aB l o=true
 ids:ug o=[]
 ren:∀ g,cD g o=o
 nd:cz o=false
structure RT (r:AV):Prop where
 ren:∀ g,ui g r=r
 mat:∀ n h,mat n h r=(r,h)
 ok:∀ l,eE l r=true
theorem CI:∀ l:List AV,kV [] l=[]
 | []=>rfl
 | a::l=>by
  show (if (0:Nat)=2 then _ else [])++kV [] l=[]
  rw [CI l]
  rfl
theorem HA {f:FuncId} {h:aa} {d id:Nat} {zas as':List AV} {o o':Ob} {res:AV} (hm:(ab false).m f=[]) (hk:(ab false).keep f=false) (hn:aM ((ab false).sh f) (.ref id none 0 0 0::zas)=.ref id none 0 0 0::as') (hd:zas.all dat=true) (hd':as'.all dat=true)
  (hh:h id=o) (ho:OC o) (ho':OC o') (hb:bf o=true→bf o'=true) (hR:R f (.ref 1000 none 0 0 0::as') [o]=some (res,[o'])) (hr:RT res) (h8:ch res≤8) (hfr:cr h (2000+8*d) (ch res)=true) :
  aj R (ab false) h d (.ref id none 0 0 0::zas) (.fn f [] [])=some (res,upd h id o',[(id,true)]):=by
 have h1:ah h [] (.ref id none 0 0 0::zas)=some (.ref id none 0 0 0::zas,h,[]):=by
  simp only [ah,bP,Option.bind_some,List.tail_nil,CH h hd,List.append_nil]
 have hp:bp [] ((AV.ref id none 0 0 0::zas).flatMap bk)=[id]:=by
  rw [List.flatMap_cons,uW fun x hx=>Je (List.all_eq_true.1 hd x hx)]
  rfl
 have hre:bM h 40 [id] 0=[id]:=by
  simp [bM,hh,ho.ids,bp]
 have h3:aV [id] id=1000:=by simp [aV]
 have hall:(AV.ref id none 0 0 0::as').all (aJ [id])=true:=by
  rw [List.all_cons,Bool.and_eq_true]
  exact ⟨by simp [aJ,aO],List.all_eq_true.2 fun x hx=>Mm (List.all_eq_true.1 hd' x hx) _⟩
 have hmap:(AV.ref id none 0 0 0::as').map (cQ (aV [id]))=.ref 1000 none 0 0 0::as':=by
  rw [List.map_cons,(List.map_congr_left (g:=fun c=>c) fun x hx=>Jf (List.all_eq_true.1 hd' x hx) _).trans (List.map_id' as')]
  simp [cQ,fZ,h3]
 have hob:([id].map fun a=>cD (aV [id]) (h a))=[o]:=by simp [hh,ho.ren]
 have hids:([id].all fun a=>aB [id] (h a) && !cz (h a))=true:=by simp [hh,ho.cl,ho.nd]
 unfold aj
 rw [if_neg (by simp [jJ,hm])]
 simp only [dq,hm,List.nil_append,List.append_nil,h1,Option.bind_some,hp,hre,hn]
 unfold jI
 rw [hall,hids,hmap,hob,hR,Bool.and_self,if_pos rfl,Option.bind_some,hk,hm,CI]
 unfold et
 have hbf:cU h [] [id] [o']=true:=by
  have:=ho'.nd
  cases h5:bf o with
  | false=>simp [cU,hh,h5,this]
  | true=>simp [cU,hh,h5,hb h5,this]
 have hend:mU h [id] [] (res,[o'])=true:=by
  simp [mU,uj,hr.ok,ho'.cl]
 rw [if_pos ⟨rfl,by simp,h8,hfr,hbf,hend⟩]
 simp [cB,dF,hr.mat,hr.ren,ho'.ren]
theorem nU {f:FuncId} {h:aa} {d id:Nat} {zas:List AV} {r:Option R3} (hm:(ab false).m f=[]) (hd:zas.all dat=true) (hc:aj R (ab false) h d (.ref id none 0 0 0::zas) (.fn f [] [])=r):aE R (ab false) d f (.ref id none 0 0 0::zas,h,[])=r:=by
 have h1:ah h [] (.ref id none 0 0 0::zas)=some (.ref id none 0 0 0::zas,h,[]):=by
  simp only [ah,bP,Option.bind_some,List.tail_nil,CH h hd,List.append_nil]
 rw [ai d hm,h1] at hc
 exact hc
theorem ko {v e:Int} {c:AV} {l:List Rt} (hc:nS c l):OC (t3 v c e):=by
 rcases hc with rfl | ⟨rfl,_⟩
 ·exact ⟨fun l=>rfl,rfl,fun g=>rfl,rfl⟩
 ·exact ⟨fun l=>rfl,rfl,fun g=>rfl,rfl⟩
theorem Z5:RT (.tup []):=⟨fun _=>rfl,fun _ _=>rfl,fun _=>rfl⟩
theorem xv {v e e':Int} {c c':AV} {l l':List Rt} {h:aa} {d id:Nat} {x:List Int} {q:Rd} (hh:h id=t3 v c e) (hc:nS c l) (hc':nS c' l') (hR:R F.poly_collector_add [.ref 1000 none 0 0 0,.sl 1 (aX x),aF q] [t3 v c e]=some (.tup [],[t3 v c' e'])) :
  aj R (ab false) h d [.ref id none 0 0 0,.sl 1 (aX x),aF q] (.fn F.poly_collector_add [] [])=some (.tup [],upd h id (t3 v c' e'),[(id,true)]) :=
 HA (ed false) (du false) (as':=[.sl 1 (aX x),aF q]) (by rw [tF]; simp only [aF,aW,go_sem]) rfl rfl hh (ko hc) (ko hc') (fun _=>rfl) hR Z5 (by decide) rfl
end Go.Ab
namespace Go.Ab
open Go Go.IntWalk
set_option maxRecDepth 4000
set_option maxHeartbeats 1000000
theorem Ai {v:Int}:R F.poly_empty [I v] []=some (.obx [I v,.emp,I 0],[]):=by
 refine aZ Gr Gq (Ba false) rfl ?_
 simp only [mZ,wO,go_sem,↓reduceIte,aez,aeA,aeC]
 rfl
theorem Vx (r:Rp × Int):RT (pV r):=⟨fun _=>rfl,fun _ _=>rfl,fun _=>rfl⟩
theorem uX {h:aa} {o:Ob} {rs:List (List Sh)} {vs us:List AV} {r:AV} (h0:((vs.flatMap bk).filter fun i=>!aG i)=[]) (h1:h 1000=o) (ho:aB [1000] o=true) (h2:lX h vs=some us) (h3:kX (aM rs us)=r):n9 rs 1 h vs=some (r,[o]):=by
 have hp:bU 1=[1000]:=rfl
 unfold n9
 rw [h0,hp,h2,if_pos (by simp [fw,h1,ho])]
 simp [h1,h3]
theorem Sz (x:Value):gK (.v x)=.v x:=rfl
theorem OG (k:Nat) (r:List (List AV)):gK (.osl k r)=.sl k r:=rfl
theorem aig:gK .emp=.emp:=rfl
theorem SA {v e:Int} {l:List Rt}:kX (aM [[.o 0 [],.o 5 [.o 2 [],.o 0 [],.o 2 [],.o 0 []]],[]] [.agg [I v,.sl 4 (ax l)],I e])=pV (⟨v,l⟩,e):=by
 have h:=tN l
 show AV.tup [.agg [I v,.sl 4 ((ax l).map _)],I e]=_
 rw [h]
 rfl
theorem OH {v e:Int} {c:AV} {l:List Rt} (hc:nS c l) (he:e ≠ 0):R F.poly_collector_done [.ref 1000 none 0 0 0] [t3 v c e]=some (pV (p0,e),[t3 v c e]):=by
 refine sy jw jv (ef false) rfl ?_
 have e1:(e=0)=False:=ff he
 simp only [bY,dP,t3,go_sem,↓reduceIte,aez,aeB,aeA,aeC,aeE,aeD,e1]
 exact uX rfl (by rfl) ((ko hc).cl _) (by rfl) (by rfl)
theorem OI {v:Int} {l:List Rt}:R F.poly_collector_done [.ref 1000 none 0 0 0] [t3 v (.osl 4 (ax l)) 0]=some (pV (ie v (some l)),[if 500 < l.length then t3 v (.osl 4 (ax l)) 0 else .bx [I v,.sl 4 (ax l),I 0]]):=by
 refine sy jw jv (ef false) rfl ?_
 unfold ie
 by_cases h:500 < l.length
 ·have e1:(500 < (l.length:Int))=True:=tt (by omega)
  simp only [if_pos h]
  simp only [bY,dP,t3,go_sem,↓reduceIte,aez,aeB,aeA,aeC,aeE,aeD,e1]
  exact uX rfl (by rfl) rfl (by rfl) (by rfl)
 ·have e1:(500 < (l.length:Int))=False:=ff (by omega)
  have k2:(ax l).take l.length=ax l:=List.take_of_length_le (by rw [gI]; exact Nat.le_refl _)
  simp only [if_neg h]
  simp only [bY,dP,t3,go_sem,↓reduceIte,aez,aeB,aeA,aeC,aeE,aeD,e1,Sz,OG]
  exact uX rfl (by rfl) rfl (by rfl) SA
theorem OJ {v:Int}:R F.poly_collector_done [.ref 1000 none 0 0 0] [t3 v .emp 0]=some (pV (ie v (some [])),[t3 v .emp 0]):=by
 refine sy jw jv (ef false) rfl ?_
 have e1:((500:Int) < 0)=False:=ff (by decide)
 simp only [bY,dP,t3,go_sem,↓reduceIte,aez,aeB,aeA,aeC,aeE,aeD,e1]
 exact uX rfl (by rfl) rfl (by rfl) (by rfl)
theorem xw {v e:Int} {c:AV} {l:List Rt} {h:aa} {d id:Nat} (hh:h id=t3 v c e) (hc:nS c l) (hf:cr h (2000+8*d) 2=true) :
  ∃ o,aj R (ab false) h d [.ref id none 0 0 0] (.fn F.poly_collector_done [] [])=some (pV (if e=0 then ie v (some l) else (p0,e)),upd h id o,[(id,true)]):=by
 have key:∃ o,OC o∧bf o=true∧R F.poly_collector_done [.ref 1000 none 0 0 0] [t3 v c e]=some (pV (if e=0 then ie v (some l) else (p0,e)),[o]):=by
  by_cases he:e=0
  ·subst he
   rw [if_pos rfl]
   rcases hc with rfl | ⟨rfl,rfl⟩
   ·refine ⟨_,?_,?_,OI⟩
    ·split
     ·exact ko (.inl rfl)
     ·exact ⟨fun l=>rfl,rfl,fun g=>rfl,rfl⟩
    ·split <;> rfl
   ·exact ⟨_,ko (.inr ⟨rfl,rfl⟩),rfl,OJ⟩
  ·rw [if_neg he]
   exact ⟨_,ko hc,rfl,OH hc he⟩
 obtain ⟨o,h1,h2,h3⟩:=key
 exact ⟨o,HA (dR false) (ef false) (as':=[]) (by rw [sO]; rfl) rfl rfl hh (ko hc) h1 (fun _=>h2) h3 (Vx _) (by show 2≤8; decide) hf⟩
theorem Jg {a b:Rp} (oa:OkP a) (ob:OkP b):R F.poly_pair [bm a,bm b] []=some (B (sz a b),[]):=by
 refine aZ Im Il (B8 false) rfl ?_
 have h1:=nR oa
 have h2:=nR ob
 simp only [bm] at h1 h2
 unfold sz
 cases ha:vp a with
 | false =>
  rw [ha] at h1
  rw [Bool.false_and]
  simp only [jn,pT,bm,go_sem,↓reduceIte,aez,aeB,aeA,aeC,h1]
 | true =>
  rw [ha] at h1
  rw [Bool.true_and]
  cases hb:vp b with
  | false =>
   rw [hb] at h2
   rw [Bool.false_and]
   simp only [jn,pT,bm,go_sem,↓reduceIte,aez,aeB,aeA,aeC,h1,h2]
  | true =>
   rw [hb] at h2
   rw [Bool.true_and]
   simp only [jn,pT,bm,go_sem,↓reduceIte,aez,aeB,aeA,aeC,h1,h2]
structure ColE (v:Int) (l ts:List Rt) (e:Int) (c':AV) (l':List Rt) (e':Int):Prop where
 c:nS c' l'
 r:(e'=0∧e=0∧ej l ts=some l')∨(e'=9∧(e=0→ej l ts=none))
theorem ColE.fin {v:Int} {ts:List Rt} {c':AV} {l':List Rt} {e':Int} (h:ColE v [] ts 0 c' l' e'):(if e'=0 then ie v (some l') else (p0,e'))=ie v (ej [] ts):=by
 rcases h.r with ⟨h1,_,h2⟩ | ⟨h1,h2⟩
 ·rw [if_pos h1,h2]
 ·rw [h1,if_neg (by decide),h2 rfl]
  rfl
theorem ColE.step {v:Int} {l ts:List Rt} {t:Rt} {c:AV} (hc:nS c l) {e:Int} (he:e=0∨e=9) (hC:e=0→Cl v l∧l.length+ts.length+1≤1000000) (vt:VT v t) {v':Int} :
  ∃ c1 l1 e1,R F.poly_collector_add [.ref 1000 none 0 0 0,.sl 1 (aX t.exps),aF t.c] [t3 v' c e]=some (.tup [],[t3 v' c1 e1])∧nS c1 l1∧(e1=0∨e1=9)∧(e1=0→Cl v l1∧l1.length+ts.length≤1000000)∧∀ c' l' e',ColE v l1 ts e1 c' l' e'→ColE v l (t::ts) e c' l' e':=by
 rcases he with rfl | rfl
 ·obtain ⟨h1,h2⟩:=hC rfl
  obtain ⟨c1,l1,e1,g1,g2,g3⟩:=I9 (v':=v') h1 vt (by omega) hc
  refine ⟨c1,l1,e1,g1,g2,?_,fun h0=>?_,fun c' l' e' h=>⟨h.c,?_⟩⟩
  ·rcases g3 with ⟨g,_⟩ | ⟨g,_⟩
   ·exact .inl g
   ·exact .inr g
  ·rcases g3 with ⟨_,g⟩ | ⟨g,_⟩
   ·have:=Aa g
    exact ⟨(xX h1 vt g).1,by omega⟩
   ·omega
  ·rcases g3 with ⟨g,k⟩ | ⟨g,k,_⟩
   ·subst g
    rcases h.r with ⟨q1,_,q2⟩ | ⟨q1,q2⟩
    ·refine .inl ⟨q1,rfl,?_⟩
     unfold ej
     rw [k]
     exact q2
    ·refine .inr ⟨q1,fun _=>?_⟩
     unfold ej
     rw [k]
     exact q2 rfl
   ·subst g
    rcases h.r with ⟨_,q1,_⟩ | ⟨q1,_⟩
    ·omega
    ·refine .inr ⟨q1,fun _=>?_⟩
     unfold ej
     rw [k]
     rfl
 ·refine ⟨c,l,9,Hp hc (by decide),hc,.inr rfl,fun h=>by omega,fun c' l' e' h=>⟨h.c,?_⟩⟩
  rcases h.r with ⟨_,q1,_⟩ | ⟨q1,_⟩
  ·omega
  ·exact .inr ⟨q1,fun h=>by omega⟩
theorem Mo {v v':Int} {T:List Rt} (hT:∀ t ∈ T,VT v t) (hn:T.length≤100000):∀ (k i:Nat),i+k=T.length→∀ (c:AV) (l:List Rt) (e:Int),nS c l→(e=0∨e=9)→(e=0→Cl v l∧l.length+k≤1000000) →
  ∀ (s:af) (h:aa),s 4=.ref 4 none 0 0 0→s 6=.ref 2128 none 0 0 0→s 22=.sl 4 (ax T)→s 23=I T.length→s 24=I i→h 4=.bx [I 0,.emp]→h 2128=t3 v' c e →
  ∃ hh c' l' e',aI 0 [4,6] (aU (az R (ab false) kz) [4,6,22,23,24] [4,2128] s h)=some (.normal,⟨upd (upd (fun _=>.any) 6 (.ref 2128 none 0 0 0)) 4 (.ref 4 none 0 0 0),hh⟩) ∧
   hh 4=.bx [I 0,.emp]∧hh 2128=t3 v' c' e'∧(∀ a,a ≠ 4→a ≠ 2128→hh a=.dead)∧ColE v l (T.drop i) e c' l' e':=by
 intro k
 induction k with
 | zero =>
  intro i hi c l e hc he hC s h h4 h6 h22 h23 h24 k4 k6
  have e1:((i:Int) < T.length)=False:=ff (by omega)
  have ho:=(ko (v:=v') (e:=e) hc).cl [4,2128]
  rw [aA]
  refine ⟨?hh0,c,l,e,?_,?_,?_,?_,?_⟩
  rotate_left
  ·simp only [kz,go_sem,↓reduceIte,aez,aeD,h4,h6,h22,h23,h24,k4,k6,ho,e1]
   rfl
  ·rfl
  ·rfl
  ·intro a a1 a2
   simp only [jg,a1,a2,if_false]
  ·rw [List.drop_eq_nil_of_le (by omega)]
   refine ⟨hc,?_⟩
   rcases he with rfl | rfl
   ·exact .inl ⟨rfl,rfl,rfl⟩
   ·exact .inr ⟨rfl,fun h=>by omega⟩
 | succ k ih =>
  intro i hi c l e hc he hC s h h4 h6 h22 h23 h24 k4 k6
  have hlt:i < T.length:=by omega
  have e1:((i:Int) < T.length)=True:=tt (by omega)
  have e2:bH (ax T) (i:Int)=some (.ipt (bv T[i])):=jx rfl (List.getElem?_eq_getElem hlt)
  have e5:IntKind.i64.wrap ((i:Int)+1)=((i+1:Nat):Int):=wi (by omega) (by omega)
  have ho:=(ko (v:=v') (e:=e) hc).cl [4,2128]
  have hdl:(T.drop (i+1)).length=k:=by rw [List.length_drop]; omega
  obtain ⟨c1,l1,ee,g1,g2,g3,g4,g5⟩:=ColE.step (ts:=T.drop (i+1)) hc he (fun h=>by have:=hC h; exact ⟨this.1,by omega⟩) (hT _ (List.getElem_mem hlt)) (v':=v')
  rw [hdl] at g4
  have ih':=ih (i+1) (by omega) c1 l1 ee g2 g3 g4
  rw [List.drop_eq_getElem_cons hlt,aA]
  generalize T[i]=t at e2 g1 g5 ⊢
  generalize aU _ _ _=L at ih' ⊢
  have hcall:=fun (h:aa) (hh:h 2128=t3 v' c e) (d:Nat)=>nU (ed false) rfl (xv (d:=d) hh hc g2 g1)
  simp only [aF,aW] at hcall
  simp only [bv] at e2
  simp only [kz,go_sem,↓reduceIte,aez,aeB,aeA,aeC,aeD,h4,h6,h22,h23,h24,k4,k6,ho,e1,e2]
  rw [hcall _ rfl]
  simp only [go_sem,↓reduceIte,aez,aeD,e5]
  refine (ih' _ _ ?_ ?_ ?_ ?_ ?_ ?_ ?_).imp fun hh ⟨c',l',e',q1,q2,q3,q4,q5⟩=>⟨c',l',e',q1,q2,q3,q4,g5 _ _ _ q5⟩
  all_goals rfl
end Go.Ab
namespace Go.Ab
open Go Go.IntWalk
set_option maxRecDepth 4000
set_option maxHeartbeats 1000000
theorem Jh:BH .emp=some (I 0):=rfl
theorem HB (h:aa):uo h .emp=h:=rfl
theorem KO:dK 4 .emp none (some (I 0)) none=some .emp:=rfl
theorem OK {h:aa} {d:Nat} {z:List AV} {n:Nat} (h0:0 < n) (h1:n≤1000000):sd h d 4 64 z .emp (I n)=bR h d 4 (List.replicate n z) n []:=by
 simp only [sd]
 rw [if_pos ⟨by omega,by omega⟩,Int.toNat_natCast]
theorem OL:R F.slices_Grow_api_Term_api_Term_ [.emp,I 0] []=some (.emp,[]):=by
 refine aZ gX gW (fG false) rfl ?_
 have e1:((0:Int) < 0)=False:=ff (by decide)
 have w1:IntKind.i64.wrap ((0:Int) - 0)=0:=by decide
 simp only [bK,dM,go_sem,↓reduceIte,aez,aeC,e1,w1,Jh,HB]
theorem OM {n:Nat} (h0:0 < n) (h1:n≤1000000):R F.slices_Grow_api_Term_api_Term_ [.emp,I n] []=some (.osl 4 [],[]):=by
 refine aZ gX gW (fG false) rfl ?_
 have e1:((n:Int) < 0)=False:=ff (by omega)
 have e2:(0 < (n:Int))=True:=tt (by omega)
 have w0:IntKind.i64.wrap ((0:Int) - 0)=0:=by decide
 have w1:IntKind.i64.wrap ((n:Int) - 0)=(n:Int):=wi (by omega) (by omega)
 have e3:(n*64≤140737488355328)=True:=eq_true (by omega)
 have e5:dK 4 (.rsl 22 none 4 0 n) none (some (I 0)) none=some (.rsl 22 none 4 0 0):=by
  simp [dK,ia,gJ]
 have e4:=fun h d z=>OK (h:=h) (d:=d) (z:=z) h0 h1
 simp only [bK,dM,go_sem,↓reduceIte,aez,aeA,aeC,aeE,e1,e2,e4,w0,w1,Jh,HB,KO,e5,List.take_zero]
 done
theorem Mp {a b:List Rt} (ha:a.length≤100000) (hb:b.length≤100000):R F.slices_Concat_api_Term_api_Term_ [.sl 1 [[.sl 4 (ax a)],[.sl 4 (ax b)]]] []=some (.sl 4 (ax (a++b)),[]):=by
 refine aZ mE mD (lq false) rfl ?_
 have w1:IntKind.i64.wrap ((0:Int)+(a.length:Int))=(a.length:Int):=wi (by omega) (by omega)
 have w2:IntKind.i64.wrap ((a.length:Int)+(b.length:Int))=((a.length+b.length:Nat):Int):=wi (by omega) (by omega)
 have e1:((a.length:Int) < 0)=False:=ff (by omega)
 have e2:(((a.length+b.length:Nat):Int) < 0)=False:=ff (by omega)
 have c1:((0:Int) < ((0+1+1:Nat):Int))=True:=tt (by decide)
 have c2:((1:Int) < ((0+1+1:Nat):Int))=True:=tt (by decide)
 have c3:((2:Int) < ((0+1+1:Nat):Int))=False:=ff (by decide)
 have r0:bH [[AV.sl 4 (ax a)],[.sl 4 (ax b)]] 0=some (.ipt [.sl 4 (ax a)]):=rfl
 have r1:bH [[AV.sl 4 (ax a)],[.sl 4 (ax b)]] 1=some (.ipt [.sl 4 (ax b)]):=rfl
 have i1:IntKind.i64.wrap ((0:Int)+1)=1:=by decide
 have i2:IntKind.i64.wrap ((1:Int)+1)=2:=by decide
 simp only [bZ,fQ,go_sem,↓reduceIte,aez,aeA,List.length_cons,List.length_nil]
 rw [aA]
 simp only [fh,go_sem,↓reduceIte,aez,c1,r0,w1,e1,i1]
 rw [aA]
 simp only [go_sem,↓reduceIte,aez,c2,r1,w2,e2,i2]
 rw [aA]
 simp only [go_sem,↓reduceIte,aez,c3]
 by_cases hz:a.length+b.length=0
 ·have ea:a=[]:=List.length_eq_zero_iff.1 (by omega)
  have eb:b=[]:=List.length_eq_zero_iff.1 (by omega)
  subst ea eb
  have hg:=OL
  have a0:∀ h d,yM h d 4 64 .emp (.sl 4 [])=some (.emp,h,[]):=fun h d=>rfl
  have hcr:hG (fun _=>.dead) 24 (some (.emp,[]))=some (.emp,fun _=>.dead,[]):=rfl
  rw [show ax []=[] from rfl] at *
  simp only [go_sem,↓reduceIte,aez,aeA,hg,hcr,List.length_nil,Nat.add_zero,Int.natCast_zero]
  rw [aA]
  simp only [cS,go_sem,↓reduceIte,aez,c1,r0,i1,a0]
  rw [aA]
  simp only [go_sem,↓reduceIte,aez,c2,r1,i2,a0]
  rw [aA]
  simp only [go_sem,↓reduceIte,aez,c3]
  rfl
 ·have hg:=OM (n:=a.length+b.length) (by omega) (by omega)
  have b1:(a.length*64≤140737488355328)=True:=eq_true (by omega)
  have b2:((a.length+b.length)*64≤140737488355328)=True:=eq_true (by omega)
  simp only [go_sem,↓reduceIte,aez,aeB,aeA,hg,List.length_nil]
  rw [aA]
  simp only [cS,go_sem,↓reduceIte,aez,aeC,aeE,aeD,c1,r0,i1,b1,or_true,Nat.zero_add,List.nil_append,List.length_nil]
  rw [aA]
  simp only [go_sem,↓reduceIte,aez,aeC,aeE,aeD,c2,r1,i2,b2,or_true]
  rw [aA]
  simp only [go_sem,↓reduceIte,aez,aeC,aeE,aeD,c3,Nat.zero_add]
  have hl:(ax a++ax b).length=a.length+b.length:=by rw [List.length_append,gI,gI]
  have hab:ax a++ax b=ax (a++b):=by simp [ax]
  rw [hl,if_pos (Nat.le_refl _),if_pos rfl,hab]
  show some (kX (aM _ [.osl 4 (ax (a++b))]),[])=_
  have h:=tN (a++b)
  show some (AV.sl 4 ((ax (a++b)).map _),[])=_
  rw [h]
theorem qp (h:aa) (d:Nat) (v:Int):hG h d (some (.obx [I v,.emp,I 0],[]))=if cz (h (2000+8*d))=true then some (.ref (2000+8*d) none 0 0 0,upd h (2000+8*d) (.bx [I v,.emp,I 0]),[]) else none:=by
 simp [hG,ch,cr,eE,da,gL,ak,aN,mat,bW]
theorem SB {v v':Int} {T:List Rt} (hT:∀ t ∈ T,VT v t) (hn:T.length≤100000) (s:af) (h:aa) (X:Option (Ex × St)) (hX:aI 0 [4,6] (aU (az R (ab false) kz) [4,6,22,23,24] [4,2128] s h)=X) (h4:s 4=.ref 4 none 0 0 0) (h6:s 6=.ref 2128 none 0 0 0) (h22:s 22=.sl 4 (ax T)) (h23:s 23=I T.length) (h24:s 24=I 0) (k4:h 4=.bx [I 0,.emp]) (k6:h 2128=t3 v' .emp 0) :
  ∃ hh c' l' e',X=some (.normal,⟨upd (upd (fun _=>.any) 6 (.ref 2128 none 0 0 0)) 4 (.ref 4 none 0 0 0),hh⟩) ∧
   hh 4=.bx [I 0,.emp]∧hh 2128=t3 v' c' e'∧(∀ a,a ≠ 4→a ≠ 2128→hh a=.dead)∧ColE v [] T 0 c' l' e':=by
 subst hX
 exact Mo hT hn T.length 0 (Nat.zero_add _) .emp [] 0 (.inr ⟨rfl,rfl⟩) (.inl rfl) (fun _=>⟨Cl.nil _,by show 0+_≤_; omega⟩) s h h4 h6 h22 h23 h24 k4 k6
theorem CJ {a b:Rp} (oa:OkP a) (ob:OkP b):R F.poly_Add [bm a,bm b] []=some (pV (kn a b),[]):=by
 refine aZ KA Kz (DJ false) rfl ?_
 have hp:=Jg oa ob
 simp only [bm] at hp
 unfold kn
 cases hb:sz a b with
 | false =>
  rw [hb] at hp
  rw [if_neg Bool.false_ne_true]
  simp only [mN,uI,bm,go_sem,↓reduceIte,aez,aeB,aeA,aeC,hp]
  rfl
 | true =>
  rw [hb] at hp
  rw [if_pos rfl]
  obtain ⟨va,vb,hv⟩:=nT.1 hb
  obtain ⟨ca,a0,a8,al⟩:=eJ oa va
  obtain ⟨cb,b0,b8,bl⟩:=eJ ob vb
  rw [← hv] at cb
  have hT:∀ t ∈ a.terms++b.terms,VT a.vars t:=fun t ht=>by
   rcases List.mem_append.1 ht with ht | ht
   ·exact ca.t t ht
   ·exact cb.t t ht
  have hemp:=Ai (v:=a.vars)
  have hcat:=Mp (a:=a.terms) (b:=b.terms) (by omega) (by omega)
  have hl:=SB (v':=a.vars) hT (by rw [List.length_append]; omega)
  generalize a.terms++b.terms=T at hcat hl ⊢
  simp only [mN,uI,bm,go_sem,↓reduceIte,aez,aeB,aeA,aeC,aeE,hp,hemp,qp,hcat,List.length_cons,List.length_nil]
  generalize hX:aI 0 [4,6] _=X
  obtain ⟨hh,c',l',e',rfl,q2,q3,q4,q5⟩:=hl _ _ _ hX rfl rfl rfl rfl rfl rfl rfl
  obtain ⟨o,hd⟩:=xw (d:=36) q3 q5.c (by simp [cr,q4,cz])
  have hd':=nU (dR false) rfl hd
  rw [q5.fin] at hd'
  generalize ie a.vars (ej [] T)=r at hd' ⊢
  obtain ⟨r1,r2⟩:=r
  simp only [pV,bm] at hd'
  simp only [pV,bm,go_sem,↓reduceIte,aez,aeB,aeA,aeC,aeD,q2,hd']
end Go.Ab
namespace Go.Ab
open Go Go.IntWalk
set_option maxRecDepth 4000
set_option maxHeartbeats 1000000
def t2 (v:Int) (c:AV):Ob:=.bx [I v,c]
end Go.Ab
namespace Go.Ab
open Go Go.IntWalk
set_option maxRecDepth 4000
set_option maxHeartbeats 1000000
end Go.Ab
namespace Go.Ab
open Go Go.IntWalk
set_option maxRecDepth 4000
set_option maxHeartbeats 1000000
end Go.Ab
namespace Go.Ab
open Go Go.IntWalk
set_option maxRecDepth 4000
set_option maxHeartbeats 1000000
def ae6:List Nat→List Nat→Bool
 | [],[]=>true
 | x::xs,y::ys=>decide (x=y) && ae6 xs ys
 | _,_=>false
theorem agB:∀ {a b:List Nat},ae6 a b=true↔a=b
 | [],[]=>by simp [ae6]
 | x::a,y::b=>by simp [ae6,agB]
 | [],_::_=>by simp [ae6]
 | _::_,[]=>by simp [ae6]
theorem agl:∀ {a b:List Nat},a.length ≠ b.length→ae6 a b=false
 | [],[],h=>absurd rfl h
 | x::a,y::b,h=>by
  unfold ae6
  rw [agl (fun e=>h (by simp [e])),Bool.and_false]
 | [],_::_,_=>rfl
 | _::_,[],_=>rfl
end Go.Ab
namespace Go.Ab
open Go Go.IntWalk
set_option maxRecDepth 4000
set_option maxHeartbeats 1000000
def uY (t:Rt):Bool:=decide (10 < t.c.m.length) || decide (20 < t.exps.length)
theorem KP {t:Rt}:R F.l23_great_1_1 [.agg (bv t)] []=some (B (uY t),[]):=by
 refine aZ A9 A8 (wW false) rfl ?_
 unfold uY
 by_cases h:10 < t.c.m.length
 ·have e1:(10 < (t.c.m.length:Int))=True:=tt (by omega)
  rw [decide_eq_true h,Bool.true_or]
  simp only [gP,oD,bv,go_sem,↓reduceIte,aez,aeB,aeA,e1]
 ·have e1:(10 < (t.c.m.length:Int))=False:=ff (by omega)
  rw [decide_eq_false h,Bool.false_or]
  have e2:decide ((20:Int) < (t.exps.length:Int))=decide (20 < t.exps.length):=by rw [decide_eq_decide]; omega
  simp only [gP,oD,bv,go_sem,↓reduceIte,aez,aeB,aeA,e1,e2]
theorem lmB (m:List Nat):(aP m).map (fun r=>match r with | [.v (.int _ x)]=>x.toNat | _=>0)=m:=by
 unfold aP
 rw [List.map_map]
 exact (List.map_congr_left (g:=fun c=>c) fun x _=>by simp).trans (List.map_id' _)
theorem izB (m:List Int):(aX m).map (fun r=>match r with | [.v (.int _ x)]=>x | _=>0)=m:=by
 unfold aX
 rw [List.map_map]
 exact (List.map_congr_left (g:=fun c=>c) fun x _=>by simp).trans (List.map_id' _)
def Dq:List AV→Rt
 | [.sl _ m1,.v (.bool n2),.sl _ m2,.v (.int _ e2)]=>⟨m1.map (fun r=>match r with | [.v (.int _ x)]=>x | _=>0),⟨n2,m2.map (fun r=>match r with | [.v (.int _ x)]=>x.toNat | _=>0),e2⟩⟩
 | _=>⟨[],fp⟩
theorem EY (t:Rt):Dq (bv t)=t:=by
 show (⟨(aX t.exps).map _,⟨t.c.neg,(aP t.c.m).map _,t.c.e⟩⟩:Rt)=t
 rw [lmB,izB]
theorem ON {l:List Rt} (h2:l.length < 4611686018427387904):R F.slices_ContainsFunc_api_Term_api_Term_ [.sl 4 (ax l),.fn F.l23_great_1_1 [] []] []=some (B (l.any uY),[]):=by
 have h1:=Bn (k:=4) (g:=true) (f:=F.l23_great_1_1) (rows:=ax l) (p:=fun r=>uY (Dq r)) lv lu (kg false) rfl (sv false) (by rw [gI]; omega) (fun row hr=>by
  simp only [ax,List.mem_map] at hr
  obtain ⟨t,ht,rfl⟩:=hr
  have hd:=KP (t:=t)
  refine ⟨.agg (bv t),rfl,rfl,?_⟩
  rw [EY]
  simp only [bv] at hd
  simp only [bv,go_sem,hd])
 have h2:=xS (k:=4) j8 j7 (iZ false) rfl (fk false) (kP false) (by simp only [go_sem]) h1
 have h3:(ax l).any (fun r=>uY (Dq r))=l.any uY:=by
  unfold ax
  rw [List.any_map]
  congr 1
  funext t
  exact congrArg uY (EY t)
 rw [h3] at h2
 exact h2
def mT (a:Rp):Bool:=(decide (40 < a.terms.length) && decide (a.terms.length≤500)) || a.terms.any uY
theorem Mq {a:Rp} (h2:a.terms.length < 4611686018427387904):R F.l23_great_1 [bm a] []=some (B (mT a),[]):=by
 refine aZ DO DN (yX false) rfl ?_
 have hc:=ON h2
 have nr:(ax a.terms).map (cf [.o 2 [],.o 0 [],.o 2 [],.o 0 []])=ax a.terms:=tN _
 unfold mT
 by_cases h:40 < a.terms.length
 ·have e1:(40 < (a.terms.length:Int))=True:=tt (by omega)
  rw [decide_eq_true h,Bool.true_and]
  by_cases h5:a.terms.length≤500
  ·have e2:((a.terms.length:Int)≤500)=True:=tt (by omega)
   rw [decide_eq_true h5,Bool.true_or]
   simp only [gC,mY,bm,go_sem,↓reduceIte,aez,aeB,aeA,e1,e2]
  ·have e2:((a.terms.length:Int)≤500)=False:=ff (by omega)
   rw [decide_eq_false h5,Bool.false_or]
   simp only [gC,mY,bm,go_sem,↓reduceIte,aez,aeB,aeA,e1,e2,hc]
 ·have e1:(40 < (a.terms.length:Int))=False:=ff (by omega)
  rw [decide_eq_false h,Bool.false_and,Bool.false_or]
  simp only [gC,mY,bm,go_sem,↓reduceIte,aez,aeB,aeA,e1,hc]
def Ji (a:Rp):List AV:=[I a.vars,.sl 4 (ax a.terms)]
def xx (l:List Rp):List (List AV):=l.map Ji
@[go_sem] theorem QR (l:List Rp):(xx l).length=l.length:=by simp [xx]
@[go_sem] theorem Z6 (l:List Rt):(ax l).map (cf [.o 2 [],.o 0 [],.o 0 [],.o 0 []])=ax l:=by
 refine qo fun x hx=>?_
 simp only [ax,List.mem_map] at hx
 obtain ⟨t,ht,rfl⟩:=hx
 simp only [bv,go_sem]
@[go_sem] theorem acA (l:List Rp):(xx l).map (cf [.o 0 [],.o 5 [.o 2 [],.o 0 [],.o 0 [],.o 0 []]])=xx l:=by
 refine qo fun x hx=>?_
 simp only [xx,List.mem_map] at hx
 obtain ⟨t,ht,rfl⟩:=hx
 simp only [Ji,go_sem]
def SC:List AV→Rp
 | [.v (.int _ v),.sl _ r]=>⟨v,r.map Dq⟩
 | _=>p0
theorem PK (a:Rp):SC (Ji a)=a:=by
 show (⟨a.vars,(ax a.terms).map Dq⟩:Rp)=a
 have h:(ax a.terms).map Dq=a.terms:=by
  unfold ax
  rw [List.map_map]
  exact (List.map_congr_left (g:=fun c=>c) fun x _=>EY x).trans (List.map_id' _)
 rw [h]
theorem OO {l:List Rp} (hl:l.length≤10) (h2:∀ a ∈ l,a.terms.length < 4611686018427387904):R F.l23_great [.sl 2 (xx l)] []=some (B (l.any mT),[]):=by
 refine aZ Ij Ii (B7 false) rfl ?_
 have h1:=Bn (k:=2) (g:=true) (f:=F.l23_great_1) (rows:=xx l) (p:=fun r=>mT (SC r)) ls lr (kf false) rfl (vI false) (by rw [QR]; omega) (fun row hr=>by
  simp only [xx,List.mem_map] at hr
  obtain ⟨t,ht,rfl⟩:=hr
  have hd:=Mq (h2 t ht)
  refine ⟨.agg (Ji t),rfl,rfl,?_⟩
  rw [PK]
  simp only [bm] at hd
  simp only [Ji,go_sem,hd])
 have h2:=xS (k:=2) j5 j3 (iY false) rfl (fj false) (kO false) (by simp only [go_sem]) h1
 have h3:(xx l).any (fun r=>mT (SC r))=l.any mT:=by
  unfold xx
  rw [List.any_map]
  congr 1
  funext t
  exact congrArg mT (PK t)
 rw [h3] at h2
 simp only [oB,yE,go_sem,↓reduceIte,aez,aeB,aeA,h2]
theorem HC {a:Rp} (oc:∀ t ∈ a.terms,Ok0 t.c) (h:mT a=false):OkP a:=by
 unfold mT at h
 rw [Bool.or_eq_false_iff] at h
 refine ⟨fun t ht=>⟨oc t ht,?_⟩⟩
 have:=List.any_eq_false.1 h.2 t ht
 unfold uY at this
 simp at this
 omega
structure Res (r:Rp × Int):Prop where
 cl:Cl r.1.vars r.1.terms
 len:r.1.terms.length≤100000
 z:r.2=0∨r.1=p0
end Go.Ab
namespace Go.Ab
open Go Go.IntWalk
set_option maxRecDepth 4000
set_option maxHeartbeats 2000000
theorem Jj (l:List Int) (n:Nat) (x:Int):(aX l).set n [I x]=aX (l.set n x):=by simp [aX,List.map_set]
def sA (a b:List Int) (i:Nat):List Int:=(bI a b).take i++a.drop i
end Go.Ab
namespace Go.Ab
open Go Go.IntWalk
set_option maxRecDepth 4000
set_option maxHeartbeats 4000000
theorem ColE.stepN {v:Int} {l:List Rt} {t:Rt} {c:AV} (hc:nS c l) {e:Int} (he:e=0∨e=9) (N:Nat) (hC:e=0→Cl v l∧l.length+N+1≤1000000) (vt:VT v t) {v':Int} :
  ∃ c1 l1 e1,R F.poly_collector_add [.ref 1000 none 0 0 0,.sl 1 (aX t.exps),aF t.c] [t3 v' c e]=some (.tup [],[t3 v' c1 e1])∧nS c1 l1∧(e1=0∨e1=9)∧(e1=0→Cl v l1∧l1.length+N≤1000000)∧∀ ts c' l' e',ColE v l1 ts e1 c' l' e'→ColE v l (t::ts) e c' l' e':=by
 obtain ⟨c1,l1,e1,g1,g2,g3,g4,_⟩:=ColE.step (ts:=List.replicate N t) hc he (by rw [List.length_replicate]; exact hC) vt (v':=v')
 rw [List.length_replicate] at g4
 refine ⟨c1,l1,e1,g1,g2,g3,g4,fun ts c' l' e' h=>?_⟩
 rcases he with rfl | rfl
 ·obtain ⟨h1,h2⟩:=hC rfl
  obtain ⟨c2,l2,e2,k1,k2,k3⟩:=I9 (v':=v') h1 vt (by omega) hc
  rw [k1] at g1
  simp only [Option.some.injEq,Prod.mk.injEq,List.cons.injEq,and_true,true_and,t3,Ob.bx.injEq,AV.v.injEq,Value.int.injEq] at g1
  obtain ⟨rfl,rfl⟩:=g1
  have hl:l2=l1:=by
   rcases k2 with rfl | ⟨rfl,rfl⟩
   ·rcases g2 with g2 | ⟨g2,_⟩
    ·simp only [AV.osl.injEq,true_and] at g2
     have:=congrArg (List.map Dq) g2
     unfold ax at this
     rw [List.map_map,List.map_map] at this
     have hid:∀ l:List Rt,l.map (Dq ∘ bv)=l:=fun l=>(List.map_congr_left (g:=fun c=>c) fun x _=>EY x).trans (List.map_id' l)
     rw [hid,hid] at this
     exact this
    ·cases g2
   ·rcases g2 with g2 | ⟨_,g2⟩
    ·cases g2
    ·exact g2.symm
  subst hl
  refine ⟨h.c,?_⟩
  rcases k3 with ⟨g,k⟩ | ⟨g,k,_⟩
  ·subst g
   rcases h.r with ⟨q1,_,q2⟩ | ⟨q1,q2⟩
   ·refine .inl ⟨q1,rfl,?_⟩
    unfold ej
    rw [k]
    exact q2
   ·refine .inr ⟨q1,fun _=>?_⟩
    unfold ej
    rw [k]
    exact q2 rfl
  ·subst g
   rcases h.r with ⟨_,q1,_⟩ | ⟨q1,_⟩
   ·omega
   ·refine .inr ⟨q1,fun _=>?_⟩
    unfold ej
    rw [k]
    rfl
 ·refine ⟨h.c,?_⟩
  have:=Hp (v:=v') (x:=.sl 1 (aX t.exps)) (d:=t.c) hc (by decide:(9:Int) ≠ 0)
  rw [this] at g1
  simp only [Option.some.injEq,Prod.mk.injEq,List.cons.injEq,and_true,true_and,t3,Ob.bx.injEq,AV.v.injEq,Value.int.injEq] at g1
  obtain ⟨_,rfl⟩:=g1
  rcases h.r with ⟨_,q1,_⟩ | ⟨q1,_⟩
  ·omega
  ·exact .inr ⟨q1,fun h=>by omega⟩
end Go.Ab
namespace Go.Ab
open Go Go.IntWalk
set_option maxRecDepth 4000
set_option maxHeartbeats 4000000
theorem ColE.app {v:Int} {l r r2:List Rt} {e:Int} {c1:AV} {l1:List Rt} {e1:Int} {c':AV} {l':List Rt} {e':Int} (h1:ColE v l r e c1 l1 e1) (h2:ColE v l1 r2 e1 c' l' e'):ColE v l (r++r2) e c' l' e':=by
 refine ⟨h2.c,?_⟩
 rw [Hm]
 rcases h1.r with ⟨a1,a2,a3⟩ | ⟨a1,a2⟩
 ·rw [a3]
  rcases h2.r with ⟨b1,b2,b3⟩ | ⟨b1,b2⟩
  ·exact .inl ⟨b1,a2,b3⟩
  ·exact .inr ⟨b1,fun _=>b2 a1⟩
 ·rcases h2.r with ⟨b1,b2,b3⟩ | ⟨b1,b2⟩
  ·omega
  ·exact .inr ⟨b1,fun h=>by rw [a2 h]; rfl⟩
theorem ColE.nx {v:Int} {l r:List Rt} {e:Int} {c1:AV} {l1:List Rt} {e1:Int} (h:ColE v l r e c1 l1 e1) (hC:e=0→Cl v l) (hr:∀ t ∈ r,VT v t):(e1=0∨e1=9)∧(e1=0→e=0∧Cl v l1∧l1.length≤l.length+r.length):=by
 rcases h.r with ⟨a1,a2,a3⟩ | ⟨a1,a2⟩
 ·exact ⟨.inl a1,fun _=>⟨a2,ri (hC a2) hr a3⟩⟩
 ·exact ⟨.inr a1,fun h=>by omega⟩
end Go.Ab
namespace Go.Ab
open Go Go.IntWalk
set_option maxRecDepth 4000
set_option maxHeartbeats 4000000
end Go.Ab
namespace Go.Ab
open Go Go.IntWalk
set_option maxRecDepth 4000
set_option maxHeartbeats 1000000
theorem Aj {l:List Int} {i:Nat} (h:i < l.length):l.getD i 0 ∈ l:=by
 rw [List.getD_eq_getElem?_getD,List.getElem?_eq_getElem h]
 exact List.getElem_mem h
end Go.Ab
namespace Go.Ab
open Go Go.IntWalk
set_option maxRecDepth 4000
set_option maxHeartbeats 4000000
theorem ColE.nil {v:Int} {l:List Rt} {c:AV} {e:Int} (hc:nS c l) (he:e=0∨e=9):ColE v l [] e c l e:=by
 refine ⟨hc,?_⟩
 rcases he with rfl | rfl
 ·exact .inl ⟨rfl,rfl,rfl⟩
 ·exact .inr ⟨rfl,fun h=>by omega⟩
end Go.Ab
namespace Go.Ab
open Go Go.IntWalk
set_option maxRecDepth 4000
set_option maxHeartbeats 4000000
end Go.Ab
namespace Go.Ab
open Go Go.IntWalk
set_option maxRecDepth 4000
set_option maxHeartbeats 4000000
end Go.Ab
namespace Go.Ab
open Go Go.IntWalk
set_option maxRecDepth 4000
set_option maxHeartbeats 4000000
end Go.Ab
namespace Go.Ab
open Go Go.IntWalk
set_option maxRecDepth 4000
set_option maxHeartbeats 4000000
structure Bf (v:Int) (l A:List Rt):Prop where
 cl:Cl v l
 lt:∀ q ∈ l,∀ t ∈ A,bj q.exps t.exps < 0
theorem Bf.nil {v:Int} (A:List Rt):Bf v [] A:=⟨Cl.nil _,fun q h=>by cases h⟩
theorem Bf.drop {v:Int} {l A:List Rt} {t:Rt} (h:Bf v l (t::A)):Bf v l A:=⟨h.cl,fun q hq x hx=>h.lt q hq x (by simp [hx])⟩
theorem Cl.tail {v:Int} {l:List Rt} {t:Rt} (h:Cl v (t::l)):Cl v l:=⟨fun q hq=>h.t q (by simp [hq]),(List.pairwise_cons.1 h.s).2⟩
theorem Cl.head {v:Int} {l:List Rt} {t:Rt} (h:Cl v (t::l)):VT v t:=h.t t (by simp)
theorem Bf.push {v:Int} {l A:List Rt} {t:Rt} {d:Rd} (h:Bf v l (t::A)) (hA:Cl v (t::A)) (vt:VT v ⟨t.exps,d⟩):Bf v (l++[⟨t.exps,d⟩]) A:=by
 refine ⟨⟨fun q hq=>?_,?_⟩,fun q hq x hx=>?_⟩
 ·rcases List.mem_append.1 hq with h1 | h1
  ·exact h.cl.t q h1
  ·rw [List.mem_singleton.1 h1]
   exact vt
 ·rw [List.pairwise_append]
  refine ⟨h.cl.s,List.pairwise_singleton _ _,fun q hq x hx=>?_⟩
  rw [List.mem_singleton.1 hx]
  exact h.lt q hq t (by simp)
 ·rcases List.mem_append.1 hq with h1 | h1
  ·exact h.lt q h1 x (by simp [hx])
  ·rw [List.mem_singleton.1 h1]
   exact (List.pairwise_cons.1 hA.s).1 x hx
theorem Cl.dropN {v:Int}:∀ {l:List Rt} (i:Nat),Cl v l→Cl v (l.drop i)
 | l,0,h=>h
 | [],_+1,h=>h
 | _::l,i+1,h=>Cl.dropN i h.tail
theorem akN {v v':Int} {l A:List Rt} {t:Rt} {d:Rd} {c:AV} (h:Bf v l (t::A)) (vt:VT v ⟨t.exps,d⟩) (hl:l.length≤1000000) (hc:nS c l) :
  ∃ c1,R F.poly_collector_add [.ref 1000 none 0 0 0,.sl 1 (aX t.exps),aF d] [t3 v' c 0]=some (.tup [],[t3 v' c1 0])∧nS c1 (l++[⟨t.exps,d⟩]):=by
 obtain ⟨c1,l1,e1,g1,g2,g3⟩:=I9 (v':=v') h.cl vt hl hc
 have he:kU l ⟨t.exps,d⟩=some (l++[⟨t.exps,d⟩]):=Hl fun q hq=>h.lt q hq t (by simp)
 rw [he] at g3
 rcases g3 with ⟨rfl,g⟩ | ⟨_,g,_⟩
 ·cases g
  exact ⟨c1,g1,g2⟩
 ·cases g
def loB (o:Int) (t:Rt):Bool:=decide (bc t.exps≤o)
def hiB (o:Int) (t:Rt):Bool:=!decide (bc t.exps≤o)
def ajm (a:Rp) (o:Int):Rp × Rp:=if vp a=true then (⟨a.vars,a.terms.filter (loB o)⟩,⟨a.vars,a.terms.filter (hiB o)⟩) else (p0,p0)
def akO (blk:Option (Ex × St)) (i1 i2:Nat) (S:af) (v':Int) (l1 l2 r1 r2:List Rt):Prop :=
 ∃ hh c1 c2,blk=some (.normal,⟨S,hh⟩)∧hh 4=.bx [I 0,.emp]∧hh 5=.bx [I 0,.emp]∧hh i1=t3 v' c1 0∧hh i2=t3 v' c2 0∧nS c1 (l1++r1)∧nS c2 (l2++r2)
theorem akO.p1 {blk:Option (Ex × St)} {i1 i2:Nat} {S:af} {v':Int} {l1 l2 r1 r2:List Rt} {t:Rt} (h:akO blk i1 i2 S v' (l1++[t]) l2 r1 r2):akO blk i1 i2 S v' l1 l2 (t::r1) r2:=by
 obtain ⟨hh,c1,c2,h1,h2,h3,h4,h5,h6,h7⟩:=h
 exact ⟨hh,c1,c2,h1,h2,h3,h4,h5,by rwa [List.append_cons],h7⟩
theorem akO.p2 {blk:Option (Ex × St)} {i1 i2:Nat} {S:af} {v':Int} {l1 l2 r1 r2:List Rt} {t:Rt} (h:akO blk i1 i2 S v' l1 (l2++[t]) r1 r2):akO blk i1 i2 S v' l1 l2 r1 (t::r2):=by
 obtain ⟨hh,c1,c2,h1,h2,h3,h4,h5,h6,h7⟩:=h
 exact ⟨hh,c1,c2,h1,h2,h3,h4,h5,h6,by rwa [List.append_cons]⟩
theorem asY {v v' o:Int} {A:List Rt} (hA:Cl v A) (hn:A.length≤100000) {o2:Ob} (k2c:∀ ids,aB ids o2=true) :
  ∀ (k i:Nat),i+k=A.length→∀ (c1 c2:AV) (l1 l2:List Rt),nS c1 l1→nS c2 l2→Bf v l1 (A.drop i)→Bf v l2 (A.drop i)→l1.length+k≤1000000→l2.length+k≤1000000→∀ (s:af) (h:aa),s 1=I o→s 4=.ref 4 none 0 0 0→s 5=.ref 5 none 0 0 0→s 6=.ref 2136 none 0 0 0→s 7=.ref 2160 none 0 0 0→s 22=.sl 4 (ax A)→s 23=I A.length→s 24=I i→h 2=o2→h 4=.bx [I 0,.emp]→h 5=.bx [I 0,.emp]→h 2136=t3 v' c1 0→h 2160=t3 v' c2 0 →
  akO (aI 0 [4,5,6,7] (aU (az R (ab false) aiF) [1,4,5,6,7,22,23,24] [2,4,5,2136,2160] s h)) 2136 2160 (upd (upd (upd (upd (fun _=>.any) 7 (.ref 2160 none 0 0 0)) 6 (.ref 2136 none 0 0 0)) 5 (.ref 5 none 0 0 0)) 4 (.ref 4 none 0 0 0)) v' l1 l2 ((A.drop i).filter (loB o)) ((A.drop i).filter (hiB o)):=by
 intro k
 induction k with
 | zero =>
  intro i hi c1 c2 l1 l2 hc1 hc2 _ _ _ _ s h g1 g4 g5 g6 g7 g22 g23 g24 k2 k4 k5 k2136 k2160
  have e1:((i:Int) < (A.length:Int))=False:=ff (by omega)
  have ho1:=(ko (v:=v') (e:=0) hc1).cl [2,4,5,2136,2160]
  have ho2:=(ko (v:=v') (e:=0) hc2).cl [2,4,5,2136,2160]
  have ho3:=k2c [2,4,5,2136,2160]
  rw [List.drop_eq_nil_of_le (by omega),aA]
  refine ⟨?hh0,c1,c2,?_,?_,?_,?_,?_,by simpa using hc1,by simpa using hc2⟩
  rotate_left
  ·simp only [aiF,go_sem,↓reduceIte,aez,aeD,g1,g4,g5,g6,g7,g22,g23,g24,k2,k4,k5,k2136,k2160,ho1,ho2,ho3,e1]
   rfl
  ·rfl
  ·rfl
  ·rfl
  ·rfl
 | succ k ih =>
  intro i hi c1 c2 l1 l2 hc1 hc2 b1 b2 hl1 hl2 s h g1 g4 g5 g6 g7 g22 g23 g24 k2 k4 k5 k2136 k2160
  have hlt:i < A.length:=by omega
  have e1:((i:Int) < (A.length:Int))=True:=tt (by omega)
  have e2:bH (ax A) (i:Int)=some (.ipt (bv A[i])):=jx rfl (List.getElem?_eq_getElem hlt)
  have e5:IntKind.i64.wrap ((i:Int)+1)=((i+1:Nat):Int):=wi (by omega) (by omega)
  have ho1:=(ko (v:=v') (e:=0) hc1).cl [2,4,5,2136,2160]
  have ho2:=(ko (v:=v') (e:=0) hc2).cl [2,4,5,2136,2160]
  have ho3:=k2c [2,4,5,2136,2160]
  have hAd:=hA.dropN i
  rw [List.drop_eq_getElem_cons hlt] at b1 b2 hAd ⊢
  have ih':=ih (i+1) (by omega)
  have vt:=hAd.head
  generalize A[i]=t at e2 vt b1 b2 hAd ⊢
  have hdeg:=qn vt.sm
  rw [aA]
  generalize aU _ _ _=L at ih' ⊢
  simp only [bv] at e2
  by_cases hd:bc t.exps≤o
  ·have e3:(bc t.exps≤o)=True:=eq_true hd
   have f1:(loB o t)=true:=decide_eq_true hd
   have f2:¬ (hiB o t)=true:=by unfold hiB; rw [decide_eq_true hd]; exact Bool.false_ne_true
   rw [List.filter_cons_of_pos f1,List.filter_cons_of_neg f2]
   obtain ⟨c3,s1,s2⟩:=akN (v':=v') b1 vt (by omega) hc1
   have hcall:=fun (h:aa) (hh:h 2136=t3 v' c1 0) (d:Nat)=>nU (ed false) rfl (xv (d:=d) hh hc1 s2 s1)
   have ih2:=ih' c3 c2 _ l2 s2 hc2 (b1.push hAd vt) b2.drop (by rw [List.length_append]; show l1.length+1+k≤_; omega) (by omega)
   refine akO.p1 ?_
   simp only [aF,aW] at hcall
   simp only [aiF,go_sem,↓reduceIte,aez,aeB,aeA,aeC,aeD,g1,g4,g5,g6,g7,g22,g23,g24,k2,k4,k5,k2136,k2160,ho1,ho2,ho3,e1,e2,hdeg,e3]
   rw [hcall _ rfl]
   simp only [go_sem,↓reduceIte,aez,aeD,e5]
   refine ih2 _ _ ?_ ?_ ?_ ?_ ?_ ?_ ?_ ?_ ?_ ?_ ?_ ?_ ?_
   all_goals first | rfl | assumption
  ·have e3:(bc t.exps≤o)=False:=eq_false hd
   have f1:¬ (loB o t)=true:=by unfold loB; rw [decide_eq_false hd]; exact Bool.false_ne_true
   have f2:(hiB o t)=true:=by unfold hiB; rw [decide_eq_false hd]; rfl
   rw [List.filter_cons_of_neg f1,List.filter_cons_of_pos f2]
   obtain ⟨c3,s1,s2⟩:=akN (v':=v') b2 vt (by omega) hc2
   have hcall:=fun (h:aa) (hh:h 2160=t3 v' c2 0) (d:Nat)=>nU (ed false) rfl (xv (d:=d) hh hc2 s2 s1)
   have ih2:=ih' c1 c3 l1 _ hc1 s2 b1.drop (b2.push hAd vt) (by omega) (by rw [List.length_append]; show l2.length+1+k≤_; omega)
   refine akO.p2 ?_
   simp only [aF,aW] at hcall
   simp only [aiF,go_sem,↓reduceIte,aez,aeB,aeA,aeC,aeD,g1,g4,g5,g6,g7,g22,g23,g24,k2,k4,k5,k2136,k2160,ho1,ho2,ho3,e1,e2,hdeg,e3]
   rw [hcall _ rfl]
   simp only [go_sem,↓reduceIte,aez,aeD,e5]
   refine ih2 _ _ ?_ ?_ ?_ ?_ ?_ ?_ ?_ ?_ ?_ ?_ ?_ ?_ ?_
   all_goals first | rfl | assumption
theorem awc {v v' o:Int} {A:List Rt} (hA:Cl v A) (hn:A.length≤100000) {o2:Ob} (k2c:∀ ids,aB ids o2=true) (s:af) (h:aa) (X:Option (Ex × St)) (hX:aI 0 [4,5,6,7] (aU (az R (ab false) aiF) [1,4,5,6,7,22,23,24] [2,4,5,2136,2160] s h)=X)
  (g1:s 1=I o) (g4:s 4=.ref 4 none 0 0 0) (g5:s 5=.ref 5 none 0 0 0) (g6:s 6=.ref 2136 none 0 0 0) (g7:s 7=.ref 2160 none 0 0 0) (g22:s 22=.sl 4 (ax A)) (g23:s 23=I A.length) (g24:s 24=I 0) (k2:h 2=o2) (k4:h 4=.bx [I 0,.emp]) (k5:h 5=.bx [I 0,.emp]) (k2136:h 2136=t3 v' .emp 0) (k2160:h 2160=t3 v' .emp 0) :
  akO X 2136 2160 (upd (upd (upd (upd (fun _=>.any) 7 (.ref 2160 none 0 0 0)) 6 (.ref 2136 none 0 0 0)) 5 (.ref 5 none 0 0 0)) 4 (.ref 4 none 0 0 0)) v' [] [] (A.filter (loB o)) (A.filter (hiB o)):=by
 subst hX
 exact asY hA hn k2c A.length 0 (Nat.zero_add _) .emp .emp [] [] (.inr ⟨rfl,rfl⟩) (.inr ⟨rfl,rfl⟩) (Bf.nil _) (Bf.nil _) (by show 0+_≤_; omega) (by show 0+_≤_; omega) s h g1 g4 g5 g6 g7 g22 g23 g24 k2 k4 k5 k2136 k2160
def asZ (id:Nat) (s:af) (h:aa):Ob→Option (af × aa × K)
 | .bx cs=>some (eN [(id,true)] s,upd h id (.bx (cs.map gK)),[(id,true)])
 | _=>none
theorem aih (i id x y z:Nat) (s:af) (h:aa):JB i s h (.ref id none x y z)=asZ id s h (h id):=by
 unfold JB asZ
 dsimp only
 cases h id <;> rfl
theorem aiq (id:Nat) (s:af) (h:aa) (cs:List AV):asZ id s h (.bx cs)=some (eN [(id,true)] s,upd h id (.bx (cs.map gK)),[(id,true)]):=rfl
def ppV (r:Rp × Rp):AV:=.tup [bm r.1,bm r.2]
theorem asc {a:Rp} {o:Int} (oa:OkP a):R F.poly_Split [bm a,I o] []=some (ppV (ajm a o),[]):=by
 refine aZ an1 an0 (aml false) rfl ?_
 have v1:=nR oa
 simp only [bm] at v1
 unfold ajm
 cases va:vp a with
 | false =>
  rw [va] at v1
  rw [if_neg Bool.false_ne_true]
  simp only [aji,akK,bm,go_sem,↓reduceIte,aez,aeB,aeA,aeC,v1]
  rfl
 | true =>
  rw [va] at v1
  rw [if_pos rfl]
  obtain ⟨ka,a0,a8,al⟩:=eJ oa va
  have hemp:=Ai (v:=a.vars)
  have hl:=awc (v:=a.vars) (v':=a.vars) (o:=o) ka (by omega) (o2:=.bx [I a.vars,.sl 4 (ax a.terms)]) (fun _=>rfl)
  simp only [aji,akK,bm,go_sem,↓reduceIte,aez,aeB,aeA,aeC,aeE,aeD,v1,hemp,qp]
  generalize hX:aI 0 _ _=X
  have hM:=hl _ _ _ hX rfl rfl rfl rfl rfl rfl rfl rfl rfl rfl rfl rfl rfl
  obtain ⟨hh,c1,c2,rfl,q4,q5,q1,q2,i1,i2⟩:=hM
  rw [List.nil_append] at i1 i2
  generalize a.terms.filter (loB o)=r1 at i1 ⊢
  generalize a.terms.filter (hiB o)=r2 at i2 ⊢
  rcases i1 with rfl | ⟨rfl,rfl⟩
  ·rcases i2 with rfl | ⟨rfl,rfl⟩
   ·simp only [t3] at q1 q2
    simp only [ppV,bm,go_sem,↓reduceIte,aez,aeB,aeA,aeC,aeE,aeD,axe,axf,q4,q5,q1,q2,aih,aiq,List.map_cons,List.map_nil,Sz,OG]
   ·simp only [t3] at q1 q2
    simp only [ppV,bm,go_sem,↓reduceIte,aez,aeB,aeA,aeC,aeE,aeD,axe,axf,q4,q5,q1,q2,aih,aiq,List.map_cons,List.map_nil,Sz,OG,aig]
    rfl
  ·rcases i2 with rfl | ⟨rfl,rfl⟩
   ·simp only [t3] at q1 q2
    simp only [ppV,bm,go_sem,↓reduceIte,aez,aeB,aeA,aeC,aeE,aeD,axe,axf,q4,q5,q1,q2,aih,aiq,List.map_cons,List.map_nil,Sz,OG,aig]
    rfl
   ·simp only [t3] at q1 q2
    simp only [ppV,bm,go_sem,↓reduceIte,aez,aeB,aeA,aeC,aeE,aeD,axe,axf,q4,q5,q1,q2,aih,aiq,List.map_cons,List.map_nil,Sz,aig]
    rfl
end Go.Ab
namespace Go.Ab
open Go Go.IntWalk
set_option maxRecDepth 4000
set_option maxHeartbeats 2000000
end Go.Ab
namespace Go.Ab
open Go Go.IntWalk
set_option maxRecDepth 4000
set_option maxHeartbeats 4000000
def Yg (x:AV) (l:List Rt):Prop:=x=.sl 4 (ax l)∨(x=.emp∧l=[])
theorem Yg.keep {x:AV} {l:List Rt} (h:Yg x l) (hs:List Nat):eF hs x=x:=by
 rcases h with rfl | ⟨rfl,_⟩ <;> rfl
end Go.Ab
namespace Go.Ab
open Go Go.IntWalk
set_option maxRecDepth 4000
set_option maxHeartbeats 4000000
end Go.Ab
namespace Go.Ab
open Go Go.IntWalk
set_option maxRecDepth 4000
set_option maxHeartbeats 1000000
def qD:List Int→List Int→Bool
 | [],[]=>true
 | x::xs,y::ys=>decide (x=y) && qD xs ys
 | _,_=>false
theorem My:∀ {a b:List Int},qD a b=true↔a=b
 | [],[]=>by simp [qD]
 | x::a,y::b=>by simp [qD,My]
 | [],_::_=>by simp [qD]
 | _::_,[]=>by simp [qD]
theorem Jn:∀ {a b:List Int},a.length ≠ b.length→qD a b=false
 | [],[],h=>absurd rfl h
 | x::a,y::b,h=>by
  unfold qD
  rw [Jn (fun e=>h (by simp [e])),Bool.and_false]
 | [],_::_,_=>rfl
 | _::_,[],_=>rfl
theorem OU {a b:List Int} (hl:a.length=b.length) (h2:a.length≤100000):∀ (k i:Nat),i+k=a.length→∀ (s:af) (h:aa),s 0=.sl 1 (aX a)→s 1=.sl 1 (aX b)→s 12=I a.length→s 13=I i →
  ∃ hh,aI 0 [] (aU (az R (ab false) bV) [0,1,12,13] [] s h)=if qD (a.drop i) (b.drop i)=true then some (.normal,⟨fun _=>.any,hh⟩) else some (.ret,⟨upd (fun _=>.any) 4 (B false),hh⟩):=by
 intro k
 induction k with
 | zero =>
  intro i hi s h g0 g1 g12 g13
  have e1:((i:Int) < a.length)=False:=ff (by omega)
  rw [List.drop_eq_nil_of_le (by omega),List.drop_eq_nil_of_le (by omega),aA]
  refine ⟨?hh0,?_⟩
  rotate_left
  ·simp only [bV,qD,go_sem,↓reduceIte,aez,g0,g1,g12,g13,e1]
   rfl
 | succ k ih =>
  intro i hi s h g0 g1 g12 g13
  have hlt:i < a.length:=by omega
  have hlt2:i < b.length:=by omega
  have e1:((i:Int) < a.length)=True:=tt (by omega)
  have e2:bH (aX a) (i:Int)=some (.ipt [I a[i]]):=pJ rfl (List.getElem?_eq_getElem hlt)
  have e3:bH (aX b) (i:Int)=some (.ipt [I b[i]]):=pJ rfl (List.getElem?_eq_getElem hlt2)
  have e5:IntKind.i64.wrap ((i:Int)+1)=((i+1:Nat):Int):=wi (by omega) (by omega)
  have ih':=ih (i+1) (by omega)
  rw [List.drop_eq_getElem_cons hlt,List.drop_eq_getElem_cons hlt2,aA]
  generalize a[i]=p at e2 ⊢
  generalize b[i]=q at e3 ⊢
  generalize aU _ _ _=L at ih' ⊢
  unfold qD
  by_cases hpq:p=q
  ·have e4:(p=q)=True:=eq_true hpq
   rw [decide_eq_true hpq,Bool.true_and]
   simp only [bV,go_sem,↓reduceIte,aez,g0,g1,g12,g13,e1,e2,e3,e4,e5]
   exact ih' _ _ rfl rfl rfl rfl
  ·have e4:(p=q)=False:=eq_false hpq
   rw [decide_eq_false hpq,Bool.false_and]
   simp only [if_neg Bool.false_ne_true]
   refine ⟨?hh1,?_⟩
   rotate_left
   ·simp only [bV,go_sem,↓reduceIte,aez,g0,g1,g12,g13,e1,e2,e3,e4]
    rfl
theorem Vz {a b:List Int} (hl:a.length=b.length) (h2:a.length≤100000) (s:af) (h:aa) (X:Option (Ex × St)) (hX:aI 0 [] (aU (az R (ab false) bV) [0,1,12,13] [] s h)=X) (g0:s 0=.sl 1 (aX a)) (g1:s 1=.sl 1 (aX b)) (g12:s 12=I a.length) (g13:s 13=I 0) :
  ∃ hh,X=if qD a b=true then some (.normal,⟨fun _=>.any,hh⟩) else some (.ret,⟨upd (fun _=>.any) 4 (B false),hh⟩):=by
 subst hX
 exact OU hl h2 a.length 0 (Nat.zero_add _) s h g0 g1 g12 g13
theorem SH {a b:List Int} (h2:a.length≤100000):R F.slices_Equal_int_int_ [.sl 1 (aX a),.sl 1 (aX b)] []=some (B (qD a b),[]):=by
 refine aZ rY rX (qA false) rfl ?_
 by_cases h3:a.length=b.length
 ·have e3:((a.length:Int)=(b.length:Int))=True:=tt (by omega)
  have hl:=Vz (a:=a) (b:=b) h3 h2
  simp only [dc,ic,go_sem,↓reduceIte,aez,e3]
  generalize hX:aI 0 [] _=X
  obtain ⟨hh,rfl⟩:=hl _ _ _ hX rfl rfl rfl rfl
  cases qD a b with
  | true=>simp only [go_sem,↓reduceIte]
  | false=>simp only [go_sem,↓reduceIte]
 ·have e3:((a.length:Int)=(b.length:Int))=False:=ff (by omega)
  rw [Jn h3]
  simp only [dc,ic,go_sem,↓reduceIte,aez,e3]
def KS (x y:Rd):Int:=if vd x=true∧vd y=true then cq (zI x) (zI y) else 0
def Mz (x y:Rt):Bool:=qD x.exps y.exps && decide (KS x.c y.c=0)
theorem SI {x y:Rt} (ox:OkT x) (oy:OkT y):R F.poly_Equal_1 [.agg (bv x),.agg (bv y)] []=some (B (Mz x y),[]):=by
 refine aZ Ca B9 (yc false) rfl ?_
 have h1:=SH (a:=x.exps) (b:=y.exps) (ox.len)
 have h2:=QA ox.c oy.c
 have h3:(if vd x.c=true∧vd y.c=true then cq (zI x.c) (zI y.c) else 0)=KS x.c y.c:=rfl
 rw [h3] at h2
 simp only [aF,aW] at h2
 unfold Mz
 cases he:qD x.exps y.exps with
 | true =>
  rw [he] at h1
  rw [Bool.true_and]
  simp only [ix,po,bv,go_sem,↓reduceIte,aez,aeB,aeA,aeC,h1,h2]
 | false =>
  rw [he] at h1
  rw [Bool.false_and]
  simp only [ix,po,bv,go_sem,↓reduceIte,aez,aeB,aeA,h1]
def rS:List Rt→List Rt→Bool
 | [],[]=>true
 | x::xs,y::ys=>Mz x y && rS xs ys
 | _,_=>false
theorem Jo:∀ {a b:List Rt},a.length ≠ b.length→rS a b=false
 | [],[],h=>absurd rfl h
 | x::a,y::b,h=>by
  unfold rS
  rw [Jo (fun e=>h (by simp [e])),Bool.and_false]
 | [],_::_,_=>rfl
 | _::_,[],_=>rfl
theorem OV {a b:List Rt} (ha:∀ t ∈ a,OkT t) (hb:∀ t ∈ b,OkT t) (hl:a.length=b.length) (h2:a.length≤100000):∀ (k i:Nat),i+k=a.length→∀ (s:af) (h:aa),s 1=.sl 4 (ax b)→s 2=.fn F.poly_Equal_1 [] []→s 15=.sl 4 (ax a)→s 16=I a.length→s 17=I i →
  ∃ hh,aI 0 [] (aU (az R (ab false) aC) [1,2,15,16,17] [] s h)=if rS (a.drop i) (b.drop i)=true then some (.normal,⟨fun _=>.any,hh⟩) else some (.ret,⟨upd (fun _=>.any) 6 (B false),hh⟩):=by
 intro k
 induction k with
 | zero =>
  intro i hi s h g1 g2 g15 g16 g17
  have e1:((i:Int) < a.length)=False:=ff (by omega)
  rw [List.drop_eq_nil_of_le (by omega),List.drop_eq_nil_of_le (by omega),aA]
  refine ⟨?hh0,?_⟩
  rotate_left
  ·simp only [aC,rS,go_sem,↓reduceIte,aez,g1,g2,g15,g16,g17,e1]
   rfl
 | succ k ih =>
  intro i hi s h g1 g2 g15 g16 g17
  have hlt:i < a.length:=by omega
  have hlt2:i < b.length:=by omega
  have e1:((i:Int) < a.length)=True:=tt (by omega)
  have e2:bH (ax a) (i:Int)=some (.ipt (bv a[i])):=jx rfl (List.getElem?_eq_getElem hlt)
  have e3:bH (ax b) (i:Int)=some (.ipt (bv b[i])):=jx rfl (List.getElem?_eq_getElem hlt2)
  have e5:IntKind.i64.wrap ((i:Int)+1)=((i+1:Nat):Int):=wi (by omega) (by omega)
  have ih':=ih (i+1) (by omega)
  have vx:=ha _ (List.getElem_mem hlt)
  have vy:=hb _ (List.getElem_mem hlt2)
  rw [List.drop_eq_getElem_cons hlt,List.drop_eq_getElem_cons hlt2,aA]
  generalize a[i]=x at e2 vx ⊢
  generalize b[i]=y at e3 vy ⊢
  generalize aU _ _ _=L at ih' ⊢
  have hc:=SI vx vy
  unfold rS
  simp only [bv] at e2 e3 hc
  cases hn:Mz x y with
  | true =>
   rw [hn] at hc
   rw [Bool.true_and]
   simp only [aC,go_sem,↓reduceIte,aez,aeB,aeA,aeC,g1,g2,g15,g16,g17,e1,e2,e3,hc,e5]
   exact ih' _ _ rfl rfl rfl rfl rfl
  | false =>
   rw [hn] at hc
   rw [Bool.false_and]
   simp only [if_neg Bool.false_ne_true]
   refine ⟨?hh1,?_⟩
   rotate_left
   ·simp only [aC,go_sem,↓reduceIte,aez,aeB,aeA,aeC,g1,g2,g15,g16,g17,e1,e2,e3,hc]
    rfl
theorem VA {a b:List Rt} (ha:∀ t ∈ a,OkT t) (hb:∀ t ∈ b,OkT t) (hl:a.length=b.length) (h2:a.length≤100000) (s:af) (h:aa) (X:Option (Ex × St)) (hX:aI 0 [] (aU (az R (ab false) aC) [1,2,15,16,17] [] s h)=X) (g1:s 1=.sl 4 (ax b)) (g2:s 2=.fn F.poly_Equal_1 [] []) (g15:s 15=.sl 4 (ax a)) (g16:s 16=I a.length) (g17:s 17=I 0) :
  ∃ hh,X=if rS a b=true then some (.normal,⟨fun _=>.any,hh⟩) else some (.ret,⟨upd (fun _=>.any) 6 (B false),hh⟩):=by
 subst hX
 exact OV ha hb hl h2 a.length 0 (Nat.zero_add _) s h g1 g2 g15 g16 g17
theorem SJ {a b:List Rt} (ha:∀ t ∈ a,OkT t) (hb:∀ t ∈ b,OkT t) (h2:a.length≤100000):R F.slices_EqualFunc_api_Term_Sapi_Term_api_Term_api_Term_ [.sl 4 (ax a),.sl 4 (ax b),.fn F.poly_Equal_1 [] []] []=some (B (rS a b),[]):=by
 refine aZ eZ eY (ey false) rfl ?_
 by_cases h3:a.length=b.length
 ·have e3:((a.length:Int)=(b.length:Int))=True:=tt (by omega)
  have hl:=VA ha hb h3 h2
  simp only [aL,bt,go_sem,↓reduceIte,aez,e3]
  generalize hX:aI 0 [] _=X
  obtain ⟨hh,rfl⟩:=hl _ _ _ hX rfl rfl rfl rfl rfl
  cases rS a b with
  | true=>simp only [go_sem,↓reduceIte]
  | false=>simp only [go_sem,↓reduceIte]
 ·have e3:((a.length:Int)=(b.length:Int))=False:=ff (by omega)
  rw [Jo h3]
  simp only [aL,bt,go_sem,↓reduceIte,aez,e3]
def Jp (a b:Rp):Bool:=((vp a && vp b) && decide (a.vars=b.vars)) && rS a.terms b.terms
theorem HG {a b:Rp} (oa:OkP a) (ob:OkP b):R F.poly_Equal [bm a,bm b] []=some (B (Jp a b),[]):=by
 refine aZ Ge Gd (A4 false) rfl ?_
 have v1:=nR oa
 have v2:=nR ob
 simp only [bm] at v1 v2
 unfold Jp
 cases va:vp a with
 | false =>
  rw [va] at v1
  simp only [Bool.false_and]
  simp only [fK,lH,bm,go_sem,↓reduceIte,aez,aeB,aeA,aeC,v1]
 | true =>
  rw [va] at v1
  cases vb:vp b with
  | false =>
   rw [vb] at v2
   simp only [Bool.false_and,Bool.and_false]
   simp only [fK,lH,bm,go_sem,↓reduceIte,aez,aeB,aeA,aeC,v1,v2]
  | true =>
   rw [vb] at v2
   rw [Bool.true_and,Bool.true_and]
   by_cases hv:a.vars=b.vars
   ·have e1:(a.vars=b.vars)=True:=eq_true hv
    have hl:=SJ oa.t ob.t (by have:=(KL va).2.2.1; omega)
    rw [decide_eq_true hv,Bool.true_and]
    simp only [fK,lH,bm,go_sem,↓reduceIte,aez,aeB,aeA,aeC,v1,v2,e1,hl]
   ·have e1:(a.vars=b.vars)=False:=eq_false hv
    rw [decide_eq_false hv,Bool.false_and]
    simp only [fK,lH,bm,go_sem,↓reduceIte,aez,aeB,aeA,aeC,v1,v2,e1]
theorem QX {x y:Rd} (ox:Ok0 x) (oy:Ok0 y) (vx:vd x=true) (vy:vd y=true):KS x y=0↔x=y:=by
 unfold KS
 rw [if_pos ⟨vx,vy⟩]
 constructor
 ·intro h
  exact Mf ox oy vx vy (by rcases iM (zI x) (zI y) with h1 | h1 | h1 <;> omega)
 ·rintro rfl
  rcases iM (zI x) (zI x) with h1 | h1 | h1 <;> omega
theorem HH {v w:Int}:∀ {a b:List Rt},(∀ t ∈ a,VT v t)→(∀ t ∈ b,VT w t)→(rS a b=true↔a=b)
 | [],[],_,_=>by simp [rS]
 | x::a,y::b,ha,hb=>by
  have ih:=HH (a:=a) (b:=b) (fun t ht=>ha t (by simp [ht])) (fun t ht=>hb t (by simp [ht]))
  have vx:=ha x (by simp)
  have vy:=hb y (by simp)
  unfold rS Mz
  rw [Bool.and_eq_true,Bool.and_eq_true,decide_eq_true_eq,QX vx.c vy.c vx.vc vy.vc,My,ih]
  constructor
  ·rintro ⟨⟨h1,h2⟩,rfl⟩
   cases x
   cases y
   cases h1
   cases h2
   rfl
  ·intro h
   cases h
   exact ⟨⟨rfl,rfl⟩,rfl⟩
 | [],_::_,_,_=>by simp [rS]
 | _::_,[],_,_=>by simp [rS]
theorem MA {a b:Rp} (oa:OkP a) (ob:OkP b):Jp a b=true↔vp a=true∧vp b=true∧a=b:=by
 unfold Jp
 rw [Bool.and_eq_true,Bool.and_eq_true,Bool.and_eq_true,decide_eq_true_eq]
 constructor
 ·rintro ⟨⟨⟨va,vb⟩,hv⟩,hl⟩
  have h:=(HH (eJ oa va).1.t (eJ ob vb).1.t).1 hl
  refine ⟨va,vb,?_⟩
  cases a
  cases b
  cases hv
  cases h
  rfl
 ·rintro ⟨va,vb,rfl⟩
  exact ⟨⟨⟨va,va⟩,rfl⟩,(HH (eJ oa va).1.t (eJ oa va).1.t).2 rfl⟩
end Go.Ab
namespace Go.Ab
open Go Go.IntWalk
set_option maxRecDepth 4000
set_option maxHeartbeats 2000000
def ahI (X:Option (Ex × St)):Option Rd→Prop
 | some d=>∃ hh,X=some (.normal,⟨upd (upd (fun _=>.any) 6 (.ref 6 none 0 0 0)) 3 (.ref 3 none 0 0 0),hh⟩)∧hh 3=.bx [B d.neg,lm d.m,I d.e]∧hh 6=.bx zb
 | none=>∃ hh,X=some (.ret,⟨upd (upd (fun _=>.any) 7 (B false)) 6 (.ref 6 none 0 0 0),hh⟩)∧hh 6=.bx zb
theorem ag2 {x:Rd} (ox:Ok0 x) {n:Nat} (hn:n≤100000):∀ (k i:Nat),i+k=n→∀ (c:Rd),Ok0 c→∀ (s:af) (h:aa),s 3=.ref 3 none 0 0 0→s 4=.ref 4 none 0 0 0→s 6=.ref 6 none 0 0 0→s 10=I n→s 11=I i→h 3=.bx [B c.neg,lm c.m,I c.e]→h 4=.bx [B x.neg,lm x.m,I x.e]→h 6=.bx zb →
  ahI (aI 0 [3,6] (aU (az R (ab false) adZ) [3,4,6,10,11] [3,4,6] s h)) (ad8 x k c):=by
 intro k
 induction k with
 | zero =>
  intro i hi c oc s h g3 g4 g6 g10 g11 k3 k4 k6
  have e1:((i:Int) < (n:Int))=False:=ff (by omega)
  rw [aA]
  refine ⟨?hh0,?_,?_,?_⟩
  rotate_left
  ·simp only [adZ,go_sem,↓reduceIte,aez,aeD,g3,g4,g6,g10,g11,k3,k4,k6,e1]
   rfl
  ·rfl
  ·rfl
 | succ k ih =>
  intro i hi c oc s h g3 g4 g6 g10 g11 k3 k4 k6
  have e1:((i:Int) < (n:Int))=True:=tt (by omega)
  have e5:IntKind.i64.wrap ((i:Int)+1)=((i+1:Nat):Int):=wi (by omega) (by omega)
  have hm:=IZ oc ox
  have om:=(afb c x).2
  have ih':=ih (i+1) (by omega)
  rw [aA]
  generalize aU _ _ _=L at ih' ⊢
  unfold ad8
  generalize eC c x=r at hm om ⊢
  obtain ⟨r1,r2⟩:=r
  simp only [rV,aF,aW] at hm
  by_cases h0:r2=0
  ·subst h0
   rw [if_pos rfl]
   simp only [adZ,go_sem,↓reduceIte,aez,aeB,aeA,aeC,aeD,g3,g4,g6,g10,g11,k3,k4,k6,e1,e5,hm]
   exact ih' r1 om _ _ rfl rfl rfl rfl rfl rfl rfl rfl
  ·rw [if_neg h0]
   have e2:(r2=0)=False:=ff h0
   refine ⟨?hh1,?_,?_⟩
   rotate_left
   ·simp only [adZ,go_sem,↓reduceIte,aez,aeB,aeA,aeC,aeD,g3,g4,g6,g10,g11,k3,k4,k6,e1,hm,e2]
    rfl
   ·rfl
theorem ahS {x:Rd} (ox:Ok0 x) {n:Nat} (hn:n≤100000) {c:Rd} (oc:Ok0 c) (s:af) (h:aa) (X:Option (Ex × St)) (hX:aI 0 [3,6] (aU (az R (ab false) adZ) [3,4,6,10,11] [3,4,6] s h)=X) (g3:s 3=.ref 3 none 0 0 0) (g4:s 4=.ref 4 none 0 0 0) (g6:s 6=.ref 6 none 0 0 0) (g10:s 10=I n) (g11:s 11=I 0) (k3:h 3=.bx [B c.neg,lm c.m,I c.e]) (k4:h 4=.bx [B x.neg,lm x.m,I x.e]) (k6:h 6=.bx zb) :
  ahI X (ad8 x n c):=by
 subst hX
 exact ag2 ox hn n 0 (Nat.zero_add _) c oc s h g3 g4 g6 g10 g11 k3 k4 k6
theorem agU {c x:Rd} (oc:Ok0 c) (ox:Ok0 x) {n:Nat} (hn:n≤100000):R F.poly_times [aF c,aF x,I n] []=some (.tup [aF (afO x n c).1,B (afO x n c).2],[]):=by
 refine aZ agf age (afL false) rfl ?_
 have hl:=ahS ox hn oc
 simp only [aeZ,afs,aF,aW,go_sem,↓reduceIte,aez,aeA]
 generalize hX:aI 0 [3,6] _=X
 have hT:=hl _ _ _ hX rfl rfl rfl rfl rfl rfl rfl rfl
 unfold afO
 cases ht:ad8 x n c with
 | some d =>
  rw [ht] at hT
  obtain ⟨hh,rfl,q3,q6⟩:=hT
  simp only [go_sem,↓reduceIte,aez,aeB,aeA,aeC,q3,q6]
 | none =>
  rw [ht] at hT
  obtain ⟨hh,rfl,q6⟩:=hT
  simp only [go_sem,↓reduceIte,aez,aeB,aeA,aeC,q6]
  rfl
theorem ahJ {d:Rd} (ok:Ok0 d):R F.poly_Eval_1 [.agg (aW d)] []=some (B (!vd d),[]):=by
 refine aZ af0 afZ (afE false) rfl ?_
 have hv:=kl ok
 simp only [aF,aW] at hv
 simp only [aeT,afk,aW,go_sem,↓reduceIte,aez,aeB,aeA,aeC,hv]
def rdB:List AV→Rd
 | [.v (.bool n),.sl _ m,.v (.int _ e)]=>⟨n,m.map (fun r=>match r with | [.v (.int _ x)]=>x.toNat | _=>0),e⟩
 | _=>fp
theorem ahi (d:Rd):rdB (aW d)=d:=congrArg (fun m=>(⟨d.neg,m,d.e⟩:Rd)) (lmB d.m)
theorem agm {f:FuncId} {p:Rd→Bool} (hm:(ab false).m f=[]) (hs:(ab false).sh f=[[.o 0 [],.o 2 [],.o 0 []]]) {l:List Rd} (h2:l.length≤100000) (hf:∀ d ∈ l,R f [.agg (aW d)] []=some (B (p d),[])):R F.slices_ContainsFunc_api_Dyadic_api_Dyadic_ [.sl 3 (Ma l),.fn f [] []] []=some (B (l.any p),[]):=by
 have h1:=Bn (k:=3) (g:=true) (f:=f) (rows:=Ma l) (p:=fun r=>p (rdB r)) aeQ aeP (aeK false) rfl hm (by rw [ab6]; omega) (fun row hr=>by
  simp only [Ma,List.mem_map] at hr
  obtain ⟨t,ht,rfl⟩:=hr
  have hd:=hf t ht
  refine ⟨.agg (aW t),rfl,rfl,?_⟩
  rw [ahi]
  simp only [aW] at hd
  simp only [aW,go_sem,hs,hd])
 have h2:=xS (k:=3) aeI aeH (ad4 false) rfl (adV false) (aeN false) (by simp only [go_sem]) h1
 have h3:(Ma l).any (fun r=>p (rdB r))=l.any p:=by
  unfold Ma
  rw [List.any_map]
  congr 1
  funext t
  exact congrArg p (ahi t)
 rw [h3] at h2
 exact h2
theorem agD:∀ l:List Rd,(l.any fun d=>!vd d)=!l.all vd
 | []=>rfl
 | d::l=>by rw [List.any_cons,List.all_cons,Bool.not_and,agD l]
theorem ag3 {l:List Rd} (ol:∀ d ∈ l,Ok0 d) (h2:l.length≤100000):R F.slices_ContainsFunc_api_Dyadic_api_Dyadic_ [.sl 3 (Ma l),.fn F.poly_Eval_1 [] []] []=some (B (!l.all vd),[]):=by
 have h:=agm (afm false) (afS false) h2 (p:=fun d=>!vd d) (fun d hd=>ahJ (ol d hd))
 rw [agD] at h
 exact h
def EvI (X:Option (Ex × St)) (S:af) (o2:Ob) (c6:List AV):Option Rd→Prop
 | some d=>∃ hh,X=some (.normal,⟨S,hh⟩)∧hh 2=o2∧hh 4=.bx zb∧hh 6=.bx c6∧hh 9=.bx [B d.neg,lm d.m,I d.e]∧∀ a,a ≠ 2→a ≠ 4→a ≠ 6→a ≠ 8→a ≠ 9→hh a=.dead
 | none=>∃ hh,X=some (.ret,⟨upd (upd (fun _=>.any) 5 (I 9)) 4 (.ref 4 none 0 0 0),hh⟩)∧hh 4=.bx zb
theorem ag4 {es:List Int} {xs:List Rd} (ox:∀ d ∈ xs,Ok0 d) (hl:es.length=xs.length) (hb:∀ e ∈ es,0≤e∧e≤32) (h8:es.length≤1000) {o2 o8:Ob} (c2:∀ l,aB l o2=true) (c8:∀ l,aB l o8=true) {c6:List AV} (k6c:∀ l,c6.all (en l)=true) {A:List Rt} {nA iA:Int} :
  ∀ (k i:Nat),i+k=es.length→∀ (c:Rd),Ok0 c→∀ (s:af) (h:aa),s 1=.sl 3 (Ma xs)→s 4=.ref 4 none 0 0 0→s 6=.ref 6 none 0 0 0→s 9=.ref 9 none 0 0 0→s 31=.sl 4 (ax A)→s 32=I nA→s 33=I iA→s 40=.sl 1 (aX es)→s 41=I es.length→s 42=I i→h 2=o2→h 4=.bx zb→h 6=.bx c6→h 8=o8→h 9=.bx [B c.neg,lm c.m,I c.e] →
  EvI (aI 2 [1,4,6,9,31,32,33] (aU (az R (ab false) ad1) [1,4,6,9,31,32,33,40,41,42] [2,4,6,8,9] s h)) (upd (upd (upd (upd (upd (upd (upd (fun _=>.any) 33 (I iA)) 32 (I nA)) 31 (.sl 4 (ax A))) 9 (.ref 9 none 0 0 0)) 6 (.ref 6 none 0 0 0)) 4 (.ref 4 none 0 0 0)) 1 (.sl 3 (Ma xs))) o2 c6 (ad9 (es.drop i) (xs.drop i) c):=by
 intro k
 induction k with
 | zero =>
  intro i hi c oc s h g1 g4 g6 g9 g31 g32 g33 g40 g41 g42 k2 k4 k6 k8 k9
  have e1:((i:Int) < (es.length:Int))=False:=ff (by omega)
  rw [List.drop_eq_nil_of_le (show es.length≤i by omega),aA]
  have hc2:=c2 [2,4,6,8,9]
  have hc8:=c8 [2,4,6,8,9]
  have hc6:=k6c [2,4,6,8,9]
  refine ⟨?hh0,?_,?_,?_,?_,?_,?_⟩
  rotate_left
  ·simp only [ad1,go_sem,↓reduceIte,aez,aeD,g1,g4,g6,g9,g31,g32,g33,g40,g41,g42,k2,k4,k6,k8,k9,hc2,hc8,hc6,e1]
   rfl
  ·rfl
  ·rfl
  ·rfl
  ·rfl
  ·intro a a1 a2 a3 a4 a5
   simp only [jg,a1,a2,a3,a4,a5,if_false]
 | succ k ih =>
  intro i hi c oc s h g1 g4 g6 g9 g31 g32 g33 g40 g41 g42 k2 k4 k6 k8 k9
  have hlt:i < es.length:=by omega
  have hlt2:i < xs.length:=by omega
  have e1:((i:Int) < (es.length:Int))=True:=tt (by omega)
  have e2:bH (Ma xs) (i:Int)=some (.ipt (aW xs[i])):=ahl rfl (List.getElem?_eq_getElem hlt2)
  have e3:bH (aX es) (i:Int)=some (.ipt [I es[i]]):=pJ rfl (List.getElem?_eq_getElem hlt)
  have e5:IntKind.i64.wrap ((i:Int)+1)=((i+1:Nat):Int):=wi (by omega) (by omega)
  have od:=ox xs[i] (List.getElem_mem hlt2)
  obtain ⟨r1,r2⟩:=hb es[i] (List.getElem_mem hlt)
  have ih':=ih (i+1) (by omega)
  rw [agL hlt hlt2,aA]
  generalize aU _ _ _=L at ih' ⊢
  generalize es[i]=e at e3 r1 r2 ⊢
  obtain ⟨n,rfl⟩:=Int.eq_ofNat_of_zero_le r1
  rw [Int.toNat_natCast]
  generalize xs[i]=x at e2 od ⊢
  have hm:=agU oc od (n:=n) (by omega)
  have hok:=afw (x:=x) n c
  unfold afO at hm
  have hc2:=c2 [2,4,6,8,9]
  have hc8:=c8 [2,4,6,8,9]
  have hc6:=k6c [2,4,6,8,9]
  cases hT:ad8 x n c with
  | some d =>
   have oc2:=hok d oc hT
   rw [hT] at hm
   simp only [aF,aW] at hm e2
   rw [Option.bind_some]
   simp only [ad1,go_sem,↓reduceIte,aez,aeB,aeA,aeC,aeE,aeD,g1,g4,g6,g9,g31,g32,g33,g40,g41,g42,k2,k4,k6,k8,k9,hc2,hc8,hc6,e1,e2,e3,e5,hm]
   exact ih' d oc2 _ _ rfl rfl rfl rfl rfl rfl rfl rfl rfl rfl rfl rfl rfl rfl rfl
  | none =>
   rw [hT] at hm
   simp only [aF,aW,fp] at hm e2
   refine ⟨?hh1,?_,?_⟩
   rotate_left
   ·simp only [ad1,go_sem,↓reduceIte,aez,aeB,aeA,aeC,aeE,aeD,g1,g4,g6,g9,g31,g32,g33,g40,g41,g42,k2,k4,k6,k8,k9,hc2,hc8,hc6,e1,e2,e3,hm]
    rfl
   ·rfl
theorem ahT {es:List Int} {xs:List Rd} (ox:∀ d ∈ xs,Ok0 d) (hl:es.length=xs.length) (hb:∀ e ∈ es,0≤e∧e≤32) (h8:es.length≤1000) {o2 o8:Ob} (c2:∀ l,aB l o2=true) (c8:∀ l,aB l o8=true) {c6:List AV} (k6c:∀ l,c6.all (en l)=true) {A:List Rt} {nA iA:Int} {c:Rd} (oc:Ok0 c) (s:af) (h:aa) (X:Option (Ex × St)) (hX:aI 2 [1,4,6,9,31,32,33] (aU (az R (ab false) ad1) [1,4,6,9,31,32,33,40,41,42] [2,4,6,8,9] s h)=X)
  (g1:s 1=.sl 3 (Ma xs)) (g4:s 4=.ref 4 none 0 0 0) (g6:s 6=.ref 6 none 0 0 0) (g9:s 9=.ref 9 none 0 0 0) (g31:s 31=.sl 4 (ax A)) (g32:s 32=I nA) (g33:s 33=I iA) (g40:s 40=.sl 1 (aX es)) (g41:s 41=I es.length) (g42:s 42=I 0) (k2:h 2=o2) (k4:h 4=.bx zb) (k6:h 6=.bx c6) (k8:h 8=o8) (k9:h 9=.bx [B c.neg,lm c.m,I c.e]) :
  EvI X (upd (upd (upd (upd (upd (upd (upd (fun _=>.any) 33 (I iA)) 32 (I nA)) 31 (.sl 4 (ax A))) 9 (.ref 9 none 0 0 0)) 6 (.ref 6 none 0 0 0)) 4 (.ref 4 none 0 0 0)) 1 (.sl 3 (Ma xs))) o2 c6 (ad9 es xs c):=by
 subst hX
 exact ag4 ox hl hb h8 c2 c8 k6c es.length 0 (Nat.zero_add _) c oc s h g1 g4 g6 g9 g31 g32 g33 g40 g41 g42 k2 k4 k6 k8 k9
end Go.Ab
namespace Go.Ab
open Go Go.IntWalk
set_option maxRecDepth 4000
set_option maxHeartbeats 2000000
theorem agn:∀ {es:List Int} {xs:List Rd} {c d:Rd},Ok0 c→ad9 es xs c=some d→Ok0 d
 | e::es,x::xs,c,d,oc,h=>by
  unfold ad9 at h
  rw [Option.bind_eq_some_iff] at h
  obtain ⟨y,h1,h2⟩:=h
  exact agn (afw _ c y oc h1) h2
 | [],_,c,d,oc,h=>by cases h; exact oc
 | _::_,[],c,d,oc,h=>by cases h; exact oc
def Yh (c:List AV) (q:Rd):Prop:=c=[B q.neg,lm q.m,I q.e]∨(c=zb∧q=fp)
theorem Yh.cl {c:List AV} {q:Rd} (h:Yh c q) (l:List Nat):c.all (en l)=true:=by
 rcases h with rfl | ⟨rfl,_⟩ <;> rfl
def EvO (X:Option (Ex × St)) (r:Rd × Int):Prop:=(r.2=0∧∃ hh c6,X=some (.normal,⟨upd (upd (fun _=>.any) 6 (.ref 6 none 0 0 0)) 4 (.ref 4 none 0 0 0),hh⟩)∧hh 4=.bx zb∧hh 6=.bx c6∧Yh c6 r.1) ∨
 (r=(fp,9)∧∃ hh,X=some (.ret,⟨upd (upd (fun _=>.any) 5 (I 9)) 4 (.ref 4 none 0 0 0),hh⟩)∧hh 4=.bx zb)
theorem ag5 {v:Int} {A:List Rt} {xs:List Rd} (ox:∀ d ∈ xs,Ok0 d) (hx:(xs.length:Int)=v) (hA:∀ t ∈ A,VT v t) (hn:A.length≤100000) {o2:Ob} (c2:∀ l,aB l o2=true) :
  ∀ (k i:Nat),i+k=A.length→∀ (q:Rd),Ok0 q→∀ (c6:List AV),Yh c6 q→∀ (s:af) (h:aa),s 1=.sl 3 (Ma xs)→s 4=.ref 4 none 0 0 0→s 6=.ref 6 none 0 0 0→s 31=.sl 4 (ax A)→s 32=I A.length→s 33=I i→h 2=o2→h 4=.bx zb→h 6=.bx c6 →
  EvO (aI 0 [4,6] (aU (az R (ab false) aeM) [1,4,6,31,32,33] [2,4,6] s h)) (aeU xs (A.drop i) q):=by
 intro k
 induction k with
 | zero =>
  intro i hi q oq c6 hq s h g1 g4 g6 g31 g32 g33 k2 k4 k6
  have e1:((i:Int) < (A.length:Int))=False:=ff (by omega)
  have hc2:=c2 [2,4,6]
  have hc6:=hq.cl [2,4,6]
  rw [List.drop_eq_nil_of_le (by omega),aA]
  refine .inl ⟨rfl,?hh0,c6,?_,?_,?_,hq⟩
  rotate_left
  ·simp only [aeM,go_sem,↓reduceIte,aez,aeD,g1,g4,g6,g31,g32,g33,k2,k4,k6,hc2,hc6,e1]
   rfl
  ·rfl
  ·rfl
 | succ k ih =>
  intro i hi q oq c6 hq s h g1 g4 g6 g31 g32 g33 k2 k4 k6
  have hlt:i < A.length:=by omega
  have e1:((i:Int) < (A.length:Int))=True:=tt (by omega)
  have e2:bH (ax A) (i:Int)=some (.ipt (bv A[i])):=jx rfl (List.getElem?_eq_getElem hlt)
  have e5:IntKind.i64.wrap ((i:Int)+1)=((i+1:Nat):Int):=wi (by omega) (by omega)
  have vt:=hA _ (List.getElem_mem hlt)
  have ih':=ih (i+1) (by omega)
  rw [List.drop_eq_getElem_cons hlt]
  generalize A[i]=t at e2 vt ⊢
  have hlen:=vt.len
  have hl1:=ahT ox (es:=t.exps) (by omega) vt.b (by have:=vt.v8; omega) c2 (o8:=.bx [.sl 1 (aX t.exps),B t.c.neg,lm t.c.m,I t.c.e]) (fun _=>rfl) (fun l=>hq.cl l) (A:=A) (nA:=(A.length:Int)) (iA:=(i:Int)) vt.c
  have hok:=fun d=>agn (es:=t.exps) (xs:=xs) (c:=t.c) (d:=d) vt.c
  have hc2:=c2 [2,4,6]
  have hc6:=hq.cl [2,4,6]
  rw [aA]
  generalize aU _ _ _=L at ih' ⊢
  simp only [bv] at e2
  simp only [aeM,go_sem,↓reduceIte,aez,aeB,aeA,aeC,aeD,g1,g4,g6,g31,g32,g33,k2,k4,k6,hc2,hc6,e1,e2]
  generalize hXX:aI 2 _ _=X
  have hM:=hl1 _ _ _ hXX rfl rfl rfl rfl rfl rfl rfl rfl rfl rfl rfl rfl rfl rfl rfl
  cases hr:ad9 t.exps xs t.c with
  | none =>
   rw [hr] at hM
   obtain ⟨hh,rfl,q4⟩:=hM
   rw [afy hr]
   refine .inr ⟨rfl,hh,?_,q4⟩
   simp only [go_sem]
  | some d =>
   rw [hr] at hM
   obtain ⟨hh,rfl,q2,q4,q6,q9,qd⟩:=hM
   rw [afx hr]
   have hadd:=QL oq (hok d hr)
   have oadd:=(QH q d).2
   have d1:hh 2512=.dead:=qd _ (by decide) (by decide) (by decide) (by decide) (by decide)
   have d2:hh 2513=.dead:=qd _ (by decide) (by decide) (by decide) (by decide) (by decide)
   have d3:hh 13=.dead:=qd _ (by decide) (by decide) (by decide) (by decide) (by decide)
   generalize iQ q d=r at hadd oadd ⊢
   obtain ⟨r1,r2⟩:=r
   simp only [rV,aF,aW] at hadd
   by_cases h0:r2=0
   ·subst h0
    rw [if_pos rfl]
    rcases hq with rfl | ⟨rfl,rfl⟩
    ·simp only [go_sem,↓reduceIte,aez,aeB,aeA,aeC,q4,q6,q9,d1,d2,d3,hadd,e5]
     refine ih' r1 oadd _ (.inl rfl) _ _ ?_ ?_ ?_ ?_ ?_ ?_ ?_ ?_ ?_
     all_goals first | rfl | assumption | (simp only [jg,aez,↓reduceIte,q2,q4]; done)
    ·simp only [fp] at hadd
     simp only [go_sem,↓reduceIte,aez,aeB,aeA,aeC,q4,q6,q9,d1,d2,d3,hadd,e5]
     refine ih' r1 oadd _ (.inl rfl) _ _ ?_ ?_ ?_ ?_ ?_ ?_ ?_ ?_ ?_
     all_goals first | rfl | assumption | (simp only [jg,aez,↓reduceIte,q2,q4]; done)
   ·rw [if_neg h0]
    have f1:(r2=0)=False:=ff h0
    rcases hq with rfl | ⟨rfl,rfl⟩
    ·refine .inr ⟨rfl,?hh1,?_,?_⟩
     rotate_left
     ·simp only [go_sem,↓reduceIte,aez,aeB,aeA,aeC,q4,q6,q9,d1,d2,d3,hadd,f1]
      rfl
     ·rfl
    ·simp only [fp] at hadd
     refine .inr ⟨rfl,?hh2,?_,?_⟩
     rotate_left
     ·simp only [go_sem,↓reduceIte,aez,aeB,aeA,aeC,q4,q6,q9,d1,d2,d3,hadd,f1]
      rfl
     ·rfl
theorem ahU {v:Int} {A:List Rt} {xs:List Rd} (ox:∀ d ∈ xs,Ok0 d) (hx:(xs.length:Int)=v) (hA:∀ t ∈ A,VT v t) (hn:A.length≤100000) {o2:Ob} (c2:∀ l,aB l o2=true) (s:af) (h:aa) (X:Option (Ex × St)) (hX:aI 0 [4,6] (aU (az R (ab false) aeM) [1,4,6,31,32,33] [2,4,6] s h)=X)
  (g1:s 1=.sl 3 (Ma xs)) (g4:s 4=.ref 4 none 0 0 0) (g6:s 6=.ref 6 none 0 0 0) (g31:s 31=.sl 4 (ax A)) (g32:s 32=I A.length) (g33:s 33=I 0) (k2:h 2=o2) (k4:h 4=.bx zb) (k6:h 6=.bx zb) :
  EvO X (aeU xs A fp):=by
 subst hX
 exact ag5 ox hx hA hn c2 A.length 0 (Nat.zero_add _) fp He.2 zb (.inr ⟨rfl,rfl⟩) s h g1 g4 g6 g31 g32 g33 k2 k4 k6
theorem afG {a:Rp} {xs:List Rd} (oa:OkP a) (ox:∀ d ∈ xs,Ok0 d) (h2:xs.length≤100000):R F.poly_Eval [bm a,x8 xs] []=some (rV (acB a xs),[]):=by
 refine aZ agw agv (afR false) rfl ?_
 have hv:=nR oa
 have hc:=ag3 ox h2
 simp only [bm] at hv
 unfold acB agZ
 cases va:vp a with
 | false =>
  rw [va] at hv
  rw [Bool.false_and,if_neg Bool.false_ne_true]
  simp only [ad2,aeW,bm,x8,go_sem,↓reduceIte,aez,aeB,aeA,aeC,hv]
  rfl
 | true =>
  rw [va] at hv
  by_cases hl:(xs.length:Int)=a.vars
  ·have e1:((xs.length:Int)=a.vars)=True:=eq_true hl
   rw [Bool.true_and,decide_eq_true hl,Bool.true_and]
   cases hav:xs.all vd with
   | false =>
    rw [hav] at hc
    rw [if_neg Bool.false_ne_true]
    simp only [ad2,aeW,bm,x8,go_sem,↓reduceIte,aez,aeB,aeA,aeC,hv,e1,hc,Bool.not_false,Bool.not_true]
    rfl
   | true =>
    rw [hav] at hc
    rw [if_pos rfl]
    obtain ⟨ka,a0,a8,al⟩:=eJ oa va
    have hlo:=ahU ox hl ka.t (by omega) (o2:=.bx [I a.vars,.sl 4 (ax a.terms)]) (fun _=>rfl)
    simp only [ad2,aeW,bm,x8,go_sem,↓reduceIte,aez,aeB,aeA,aeC,hv,e1,hc,Bool.not_true]
    generalize hX:aI 0 [4,6] _=X
    have hO:=hlo _ _ _ hX rfl rfl rfl rfl rfl rfl rfl rfl rfl
    generalize aeU xs a.terms fp=r at hO ⊢
    obtain ⟨r1,r2⟩:=r
    rcases hO with ⟨h0,hh,c6,rfl,q4,q6,hd⟩ | ⟨h0,hh,rfl,q4⟩
    ·have h0':r2=0:=h0
     subst h0'
     rcases hd with rfl | ⟨rfl,hr⟩
     ·simp only [rV,aF,aW,go_sem,↓reduceIte,aez,aeB,aeA,aeC,q4,q6]
     ·have hr':r1=fp:=hr
      subst hr'
      simp only [go_sem,↓reduceIte,aez,aeB,aeA,aeC,q4,q6]
      rfl
    ·cases h0
     simp only [go_sem,↓reduceIte,aez,aeB,aeA,aeC,q4]
     rfl
  ·have e1:((xs.length:Int)=a.vars)=False:=eq_false hl
   rw [Bool.true_and,decide_eq_false hl,Bool.false_and,if_neg Bool.false_ne_true]
   simp only [ad2,aeW,bm,x8,go_sem,↓reduceIte,aez,aeB,aeA,aeC,hv,e1]
   rfl
end Go.Ab
namespace Go.Ab
open Go Go.IntWalk
set_option maxRecDepth 4000
set_option maxHeartbeats 8000000
def zap (l:List Int) (i:Nat):List Int:=l.set i 0
theorem ak7 (l:List Int) (i:Nat):(zap l i).length=l.length:=by simp [zap]
theorem apK:∀ {l:List Int} {i:Nat},(∀ e ∈ l,0≤e)→bc (zap l i)≤bc l
 | [],_,_=>Int.le_refl _
 | x::l,0,h=>by
  have:=h x (by simp)
  show 0+bc l≤x+bc l
  omega
 | x::l,i+1,h=>by
  have:=apK (l:=l) (i:=i) fun e he=>h e (by simp [he])
  show x+bc (zap l i)≤x+bc l
  omega
theorem anh {x:Rd}:∀ {n:Nat} {c d:Rd},vd c=true→ad8 x n c=some d→vd d=true
 | 0,c,d,h,h1=>by
  cases h1
  exact h
 | n+1,c,d,h,h1=>by
  unfold ad8 at h1
  split at h1
  ·exact anh (afb c x).1 h1
  ·cases h1
def aiZ (i:Nat) (c:Rd):List Rt→Option (List Rt)
 | []=>some []
 | t::ts=>(ad8 c (t.exps.getD i 0).toNat t.c).bind fun d=>if d.m.length=0 then aiZ i c ts else (aiZ i c ts).map (⟨zap t.exps i,d⟩::·)
def amb (a:Rp) (i:Int) (c:Rd):Rp × Int:=if (vp a && vd c)=true then (if i < 0∨a.vars≤i then (p0,2) else ie a.vars ((aiZ i.toNat c a.terms).bind (ej []))) else (p0,1)
theorem amX {v:Int} {t:Rt} {i:Nat} {c d:Rd} (vt:VT v t) (h:ad8 c (t.exps.getD i 0).toNat t.c=some d) (h0:d.m.length ≠ 0):VT v ⟨zap t.exps i,d⟩:=by
 refine ⟨afw _ _ d vt.c h,by show ((zap t.exps i).length:Int)=v; rw [ak7]; exact vt.len,vt.v8,anh vt.vc h,h0,fun e he=>?_,by have:=apK (i:=i) fun e he=>(vt.b e he).1; have:=vt.d; show bc (zap t.exps i)≤32; omega⟩
 rcases List.mem_or_eq_of_mem_set he with h | rfl
 ·exact vt.b e h
 ·omega
def aqS (blk:Option (Ex × St)) (id:Nat) (S:af) (v v':Int) (l:List Rt) (e:Int):Option (List Rt)→Prop
 | some r=>∃ hh c' l' e',blk=some (.normal,⟨S,hh⟩)∧hh 6=.bx [I 0,.emp]∧hh id=t3 v' c' e'∧(∀ a,100≤a→a ≠ id→hh a=.dead)∧ColE v l r e c' l' e'
 | none=>∃ hh,blk=some (.ret,⟨upd (upd (fun _=>.any) 7 (I 9)) 6 (.ref 6 none 0 0 0),hh⟩)∧hh 6=.bx [I 0,.emp]
theorem as0 {v v':Int} {j:Nat} (hj:(j:Int) < v) {d:Rd} (od:Ok0 d) {A:List Rt} (hA:∀ t ∈ A,VT v t) (hn:A.length≤100000) {o3:Ob} (c3:∀ ids,aB ids o3=true) :
  ∀ (k i:Nat),i+k=A.length→∀ (c:AV) (l:List Rt) (e:Int),nS c l→(e=0∨e=9)→(e=0→Cl v l∧l.length+k≤1000000)→∀ (s:af) (h:aa),s 1=I (j:Int)→s 5=.ref 5 none 0 0 0→s 6=.ref 6 none 0 0 0→s 8=.ref 2288 none 0 0 0→s 38=.sl 4 (ax A)→s 39=I A.length→s 40=I i→h 3=o3→h 5=.bx [B d.neg,lm d.m,I d.e]→h 6=.bx [I 0,.emp]→h 2288=t3 v' c e →
  aqS (aI 1 [6,8] (aU (az R (ab false) aiK) [1,5,6,8,38,39,40] [3,5,6,2288] s h)) 2288 (upd (upd (fun _=>.any) 8 (.ref 2288 none 0 0 0)) 6 (.ref 6 none 0 0 0)) v v' l e (aiZ j d (A.drop i)):=by
 intro k
 induction k with
 | zero =>
  intro i hi c l e hc he hC s h g1 g5 g6 g8 g38 g39 g40 k3 k5 k6 k2288
  have e1:((i:Int) < (A.length:Int))=False:=ff (by omega)
  have ho:=(ko (v:=v') (e:=e) hc).cl [3,5,6,2288]
  have ho2:=c3 [3,5,6,2288]
  rw [List.drop_eq_nil_of_le (by omega),aA]
  refine ⟨?hh0,c,l,e,?_,?_,?_,?_,.nil hc he⟩
  rotate_left
  ·simp only [aiK,go_sem,↓reduceIte,aez,aeD,g1,g5,g6,g8,g38,g39,g40,k3,k5,k6,k2288,ho,ho2,e1]
   rfl
  ·rfl
  ·rfl
  ·intro a a1 a2
   simp only [jg,a2,if_false]
   repeat rw [if_neg (by omega)]
 | succ k ih =>
  intro i hi c l e hc he hC s h g1 g5 g6 g8 g38 g39 g40 k3 k5 k6 k2288
  have hlt:i < A.length:=by omega
  have e1:((i:Int) < (A.length:Int))=True:=tt (by omega)
  have e2:bH (ax A) (i:Int)=some (.ipt (bv A[i])):=jx rfl (List.getElem?_eq_getElem hlt)
  have e5:IntKind.i64.wrap ((i:Int)+1)=((i+1:Nat):Int):=wi (by omega) (by omega)
  have ho1:=(ko (v:=v') (e:=e) hc).cl [3,5,6,2288]
  have ho2:=c3 [3,5,6,2288]
  have vt:=hA _ (List.getElem_mem hlt)
  rw [List.drop_eq_getElem_cons hlt]
  have ih':=ih (i+1) (by omega)
  have hrow:∀ q ts,aiZ j d (q::ts)=(ad8 d (q.exps.getD j 0).toNat q.c).bind fun x=>if x.m.length=0 then aiZ j d ts else (aiZ j d ts).map (⟨zap q.exps j,x⟩::·):=fun q ts=>rfl
  rw [hrow]
  generalize A[i]=t at e2 vt ⊢
  have hfit:=fun x h h0=>amX (d:=x) (c:=d) (i:=j) vt h h0
  have hjl:j < t.exps.length:=by have:=vt.len; omega
  have hg:t.exps[j]?=some (t.exps.getD j 0):=by rw [List.getD_eq_getElem?_getD,List.getElem?_eq_getElem hjl]; rfl
  have hle:=vt.ok.len
  obtain ⟨x1,x2⟩:=vt.b _ (Aj hjl)
  have hdec:(aX t.exps).set j [I 0]=aX (zap t.exps j):=Jj _ _ _
  have e3:bH (aX t.exps) (j:Int)=some (.ipt [I (t.exps.getD j 0)]):=pJ rfl hg
  have e4:(aX t.exps)[j]?=some [I (t.exps.getD j 0)]:=by unfold aX; rw [List.getElem?_map,hg]; rfl
  have hcl:R F.slices_Clone_int_int_ [.sl 1 (aX t.exps)] []=some (.osl 1 (aX t.exps),[]):=by
   cases hx:t.exps with
   | nil=>rw [hx] at hjl; simp at hjl
   | cons x xs=>exact xk (by rw [hx] at hle; simp at hle; omega)
  have e7:(0≤(j:Int)∧(j:Int) < (t.exps.length:Int))=True:=eq_true ⟨by omega,by omega⟩
  have k9:(aX (zap t.exps j)).take t.exps.length=aX (zap t.exps j):=List.take_of_length_le (by rw [rg,ak7]; exact Nat.le_refl _)
  have k8:=ak7 t.exps j
  generalize t.exps.getD j 0=z at e3 e4 hfit x1 x2 ⊢
  generalize zap t.exps j=u at hdec hfit k9 k8 ⊢
  obtain ⟨n,rfl⟩:=Int.eq_ofNat_of_zero_le x1
  have htm:=agU vt.c od (n:=n) (by omega)
  rw [Int.toNat_natCast] at hfit ⊢
  rw [aA]
  generalize aU _ _ _=L at ih' ⊢
  simp only [bv] at e2
  unfold afO at htm
  cases hT:ad8 d n t.c with
  | none =>
   rw [hT] at htm
   simp only [aF,aW,fp] at htm
   refine ⟨?hh1,?_,?_⟩
   rotate_left
   ·simp only [aiK,go_sem,↓reduceIte,aez,aeB,aeA,aeC,aeE,aeD,g1,g5,g6,g8,g38,g39,g40,k3,k5,k6,k2288,ho1,ho2,e1,e2,e3,htm]
    rfl
   ·rfl
  | some m =>
   rw [hT] at htm
   simp only [aF,aW] at htm
   rw [Option.bind_some]
   by_cases hm:m.m.length=0
   ·have f1:((m.m.length:Int)=0)=True:=tt (by omega)
    rw [if_pos hm]
    simp only [aiK,go_sem,↓reduceIte,aez,aeB,aeA,aeC,aeE,aeD,g1,g5,g6,g8,g38,g39,g40,k3,k5,k6,k2288,ho1,ho2,e1,e2,e3,htm,f1,e5]
    refine ih' c l e hc he (fun h=>by have:=hC h; exact ⟨this.1,by omega⟩) _ _ ?_ ?_ ?_ ?_ ?_ ?_ ?_ ?_ ?_ ?_ ?_
    all_goals first | rfl | assumption
   ·have f1:((m.m.length:Int)=0)=False:=ff (by omega)
    rw [if_neg hm]
    have vx:=hfit m hT hm
    obtain ⟨c1,l1,e1',s1,s2,s3,s4,s5⟩:=ColE.stepN (t:=⟨u,m⟩) hc he k (fun h=>by have:=hC h; exact ⟨this.1,by omega⟩) vx (v':=v')
    have ih2:=ih' c1 l1 e1' s2 s3 s4
    have hcall:=fun (h:aa) (hh:h 2288=t3 v' c e) (d:Nat)=>nU (ed false) rfl (xv (d:=d) hh hc s2 s1)
    simp only [aF,aW] at hcall
    have hpush:∀ (X:Option (Ex × St)) (S:af),aqS X 2288 S v v' l1 e1' (aiZ j d (A.drop (i+1)))→aqS X 2288 S v v' l e ((aiZ j d (A.drop (i+1))).map (⟨u,m⟩::·)):=fun X S h=>by
     cases hr:aiZ j d (A.drop (i+1)) with
     | none=>rw [hr] at h; exact h
     | some r =>
      rw [hr] at h
      obtain ⟨hh,c',l',e',q1,q2,q3,q4,q5⟩:=h
      exact ⟨hh,c',l',e',q1,q2,q3,q4,s5 _ _ _ _ q5⟩
    simp only [aiK,go_sem,↓reduceIte,aez,aeB,aeA,aeC,aeE,aeD,g1,g5,g6,g8,g38,g39,g40,k3,k5,k6,k2288,ho1,ho2,e1,e2,e3,e4,htm,f1,hcl,e7,hdec,Int.toNat_natCast,Nat.zero_add,Nat.le_refl,k8,k9]
    rw [hcall _ rfl]
    simp only [go_sem,↓reduceIte,aez,aeD,e5]
    refine hpush _ _ (ih2 _ _ ?_ ?_ ?_ ?_ ?_ ?_ ?_ ?_ ?_ ?_ ?_)
    all_goals first | rfl | assumption
theorem awd {v v':Int} {j:Nat} (hj:(j:Int) < v) {d:Rd} (od:Ok0 d) {A:List Rt} (hA:∀ t ∈ A,VT v t) (hn:A.length≤100000) {o3:Ob} (c3:∀ ids,aB ids o3=true) (s:af) (h:aa) (X:Option (Ex × St)) (hX:aI 1 [6,8] (aU (az R (ab false) aiK) [1,5,6,8,38,39,40] [3,5,6,2288] s h)=X)
  (g1:s 1=I (j:Int)) (g5:s 5=.ref 5 none 0 0 0) (g6:s 6=.ref 6 none 0 0 0) (g8:s 8=.ref 2288 none 0 0 0) (g38:s 38=.sl 4 (ax A)) (g39:s 39=I A.length) (g40:s 40=I 0) (k3:h 3=o3) (k5:h 5=.bx [B d.neg,lm d.m,I d.e]) (k6:h 6=.bx [I 0,.emp]) (k2288:h 2288=.bx [I v',.emp,I 0]) :
  aqS X 2288 (upd (upd (fun _=>.any) 8 (.ref 2288 none 0 0 0)) 6 (.ref 6 none 0 0 0)) v v' [] 0 (aiZ j d A):=by
 subst hX
 exact as0 hj od hA hn c3 A.length 0 (Nat.zero_add _) .emp [] 0 (.inr ⟨rfl,rfl⟩) (.inl rfl) (fun _=>⟨Cl.nil _,by show 0+_≤_; omega⟩) s h g1 g5 g6 g8 g38 g39 g40 k3 k5 k6 k2288
theorem atT {a:Rp} {i:Int} {d:Rd} (oa:OkP a) (od:Ok0 d):R F.poly_Fix [bm a,I i,aF d] []=some (pV (amb a i d),[]):=by
 refine aZ apU apT (anl false) rfl ?_
 have v1:=nR oa
 have v2:=kl od
 simp only [bm,aF,aW] at v1 v2
 unfold amb
 cases va:vp a with
 | false =>
  rw [va] at v1
  rw [Bool.false_and,if_neg Bool.false_ne_true]
  simp only [aiP,ajE,bm,aF,aW,go_sem,↓reduceIte,aez,aeB,aeA,aeC,v1]
  rfl
 | true =>
  rw [va] at v1
  cases vdd:vd d with
  | false =>
   rw [vdd] at v2
   rw [Bool.and_false,if_neg Bool.false_ne_true]
   simp only [aiP,ajE,bm,aF,aW,go_sem,↓reduceIte,aez,aeB,aeA,aeC,v1,v2]
   rfl
  | true =>
   rw [vdd] at v2
   rw [Bool.and_self,if_pos rfl]
   obtain ⟨ka,a0,a8,al⟩:=eJ oa va
   by_cases h0:i < 0
   ·have e0:(i < 0)=True:=eq_true h0
    rw [if_pos (.inl h0)]
    simp only [aiP,ajE,bm,aF,aW,go_sem,↓reduceIte,aez,aeB,aeA,aeC,v1,v2,e0]
    rfl
   ·have e0:(i < 0)=False:=eq_false h0
    obtain ⟨j,rfl⟩:=Int.eq_ofNat_of_zero_le (by omega:0≤i)
    by_cases h1:a.vars≤(j:Int)
    ·have e1:(a.vars≤(j:Int))=True:=eq_true h1
     rw [if_pos (.inr h1)]
     simp only [aiP,ajE,bm,aF,aW,go_sem,↓reduceIte,aez,aeB,aeA,aeC,v1,v2,e0,e1]
     rfl
    ·have e1:(a.vars≤(j:Int))=False:=eq_false h1
     rw [if_neg (by omega),Int.toNat_natCast]
     have hemp:=Ai (v:=a.vars)
     have hl:=awd (v:=a.vars) (v':=a.vars) (j:=j) (by omega) od ka.t (by omega) (o3:=.bx [I a.vars,.sl 4 (ax a.terms)]) (fun _=>rfl)
     simp only [aiP,ajE,bm,aF,aW,go_sem,↓reduceIte,aez,aeB,aeA,aeC,v1,v2,e0,e1,hemp,qp]
     generalize hX:aI 1 _ _=X
     have hM:=hl _ _ _ hX rfl rfl rfl rfl rfl rfl rfl rfl rfl rfl rfl
     cases hr:aiZ j d a.terms with
     | none =>
      rw [hr] at hM
      obtain ⟨hh,rfl,q6⟩:=hM
      simp only [Option.bind_none,ie,pV,p0,bm,go_sem,↓reduceIte,aez,aeB,aeA,aeC,q6]
      rfl
     | some r =>
      rw [hr] at hM
      obtain ⟨hh,c',l',e',rfl,q6,qc,qd,qe⟩:=hM
      obtain ⟨o,hdn⟩:=xw (d:=75) qc qe.c (by simp [cr,qd,cz])
      have hd':=nU (dR false) rfl hdn
      rw [qe.fin] at hd'
      rw [Option.bind_some]
      generalize ie a.vars (ej [] r)=z at hd' ⊢
      obtain ⟨z1,z2⟩:=z
      simp only [pV,bm] at hd'
      simp only [pV,bm,go_sem,↓reduceIte,aez,aeB,aeA,aeC,aeD,q6,hd']
end Go.Ab
namespace Go.Ab
open Go Go.IntWalk
set_option maxRecDepth 4000
set_option maxHeartbeats 8000000
theorem amZ {v:Int} {j:Nat} {d:Rd}:∀ {ts r:List Rt},(∀ t ∈ ts,VT v t)→aiZ j d ts=some r→(∀ t ∈ r,VT v t)∧r.length≤ts.length
 | [],r,_,h=>by cases h; exact ⟨fun t h=>(nomatch h),Nat.le_refl _⟩
 | t::ts,r,hv,h=>by
  unfold aiZ at h
  rw [Option.bind_eq_some_iff] at h
  obtain ⟨x,h1,h2⟩:=h
  split at h2
  ·obtain ⟨k1,k2⟩:=amZ (fun q hq=>hv q (by simp [hq])) h2
   exact ⟨k1,by simp; omega⟩
  ·rename_i h0
   rw [Option.map_eq_some_iff] at h2
   obtain ⟨r2,h3,rfl⟩:=h2
   obtain ⟨k1,k2⟩:=amZ (fun q hq=>hv q (by simp [hq])) h3
   refine ⟨fun q hq=>?_,by simp; omega⟩
   rcases List.mem_cons.1 hq with rfl | hq
   ·exact amX (hv t (by simp)) h1 h0
   ·exact k1 q hq
theorem ani {v:Int} {j:Nat} {d:Rd} {ts l:List Rt} (hv:∀ t ∈ ts,VT v t) (h:(aiZ j d ts).bind (ej [])=some l):Cl v l∧l.length≤ts.length:=by
 rw [Option.bind_eq_some_iff] at h
 obtain ⟨r,h1,h2⟩:=h
 obtain ⟨k1,k2⟩:=amZ hv h1
 obtain ⟨k3,k4⟩:=ri (Cl.nil v) k1 h2
 exact ⟨k3,by simp at k4; omega⟩
end Go.Ab
namespace Go.Ab
open Go Go.IntWalk
set_option maxRecDepth 4000
def ae5 (a b:Rd):Rd × Int:=if (vd a && vd b)=true then dU (fB (zI a - zI b) (-16384)) else (fp,1)
theorem agz (a b:Rd):vd (ae5 a b).1=true∧Ok0 (ae5 a b).1:=by
 unfold ae5
 split
 ·exact Cy
 ·exact ⟨rfl,⟨fun x hx=>(nomatch hx),by decide⟩⟩
theorem ag0 {a b:Rd} (vb:vd b=true):ae5 a b=iQ a (ZH b):=by
 obtain ⟨h1,h2⟩:=afT vb
 unfold ae5 iQ
 rw [h1,h2,vb,Int.sub_eq_add_neg]
theorem ase {neg:Bool} {M k:Nat}:zI (bA neg M (-16384+(k:Int)))=fX neg (M*2 ^ k):=by
 by_cases h0:M=0
 ·subst h0
  rw [iL,rf rfl,Nat.zero_mul]
  cases neg <;> rfl
 ·rw [lR h0]
  obtain ⟨t1,t2⟩:=qY h0
  unfold zI mg fX
  rw [bL]
  have hk:(-16384+(k:Int)+((tz M:Nat):Int)+16384).toNat=tz M+k:=by omega
  have hm:M / 2 ^ tz M*2 ^ (-16384+(k:Int)+((tz M:Nat):Int)+16384).toNat=M*2 ^ k:=by
   rw [hk,Nat.pow_add,← Nat.mul_assoc,Nat.mul_comm (M / 2 ^ tz M),← t1]
  show (if neg=true then -((M / 2 ^ tz M*2 ^ (-16384+(k:Int)+((tz M:Nat):Int)+16384).toNat:Nat):Int) else ((M / 2 ^ tz M*2 ^ (-16384+(k:Int)+((tz M:Nat):Int)+16384).toNat:Nat):Int))=_
  rw [hm]
theorem aoJ {neg:Bool} {p:Int} {q:Nat} {e:Int} (h:(ajZ neg true p q e).2=0):ajZ neg true p q e=(bA neg q e,0)∧¬ (q ≠ 0∧16384 < ((am q:Nat):Int)+e):=by
 unfold ajZ at h ⊢
 by_cases hc:q ≠ 0∧16384 < ((am q:Nat):Int)+e
 ·rw [if_pos hc,if_pos rfl] at h
  exact absurd h (show ((9:Int)=0)→False by decide)
 ·rw [if_neg hc]
  exact ⟨rfl,hc⟩
theorem apL {neg:Bool} {p:Int} {q q':Nat} {e:Int} (hq:q≤q') (h:¬ (q' ≠ 0∧16384 < ((am q':Nat):Int)+e)):ajZ neg false p q e=(bA neg q e,0):=by
 unfold ajZ
 rw [if_neg]
 intro hc
 have h1:=L7 hq (Nat.le_refl _)
 exact h ⟨by omega,by omega⟩
structure NearF (d lo hi:Rd) (q q' r k:Nat):Prop where
 hz:mg d=q*2 ^ k+r
 hr:r < 2 ^ k
 hq:q'=if r=0 then q else q+1
 hlo:lo=bA d.neg (if d.neg=true then q' else q) (-16384+(k:Int))
 hhi:hi=bA d.neg (if d.neg=true then q else q') (-16384+(k:Int))
 hw:r ≠ 0→∃ t v:Nat,mg d=v*2 ^ t∧t≤k∧k - t≤am v - 8∧8≤am v∧am v≤4096∧am v+t≤32768
theorem aqT (d:Rd):zI d=fX d.neg (mg d):=rfl
theorem asf {d:Rd} (ok:Ok0 d) (v:vd d=true) {p:Int} (hp:8≤p∧p≤512) (h0:(ZL d p false).2=0) (h1:(ZL d p true).2=0):∃ q q' r k,NearF d (ZL d p false).1 (ZL d p true).1 q q' r k:=by
 have hf:Bw p [d]=0:=by
  unfold Bw
  simp only [List.all_cons,List.all_nil,v,Bool.and_true,if_true]
  rw [if_pos hp]
 have hR:∀ up,ZL d p up=ai4 d.neg (mg d) (-16384) false p up:=fun up=>by
  unfold ZL
  rw [if_pos hf,aqT,← alf hp]
 rw [hR] at h0 h1
 rw [hR,hR]
 unfold ai4 amT at h0 h1 ⊢
 obtain ⟨k,hk⟩:∃ k,ale (mg d) (-16384) p=k:=⟨_,rfl⟩
 rw [hk] at h0 h1 ⊢
 obtain ⟨q',hq'⟩:∃ q',q'=if mg d % 2 ^ k=0 then mg d / 2 ^ k else mg d / 2 ^ k+1:=⟨_,rfl⟩
 have hle:mg d / 2 ^ k≤q':=by
  rw [hq']
  split <;> omega
 have e1:(if ((false || decide (mg d % 2 ^ k ≠ 0)) && true)=true then mg d / 2 ^ k+1 else mg d / 2 ^ k)=q':=by
  rw [hq']
  by_cases hc:mg d % 2 ^ k=0
  ·rw [if_pos hc,if_neg (by simp [hc])]
  ·rw [if_neg hc,if_pos (by simp [hc])]
 have e2:(if ((false || decide (mg d % 2 ^ k ≠ 0)) && false)=true then mg d / 2 ^ k+1 else mg d / 2 ^ k)=mg d / 2 ^ k:=by
  rw [Bool.and_false,if_neg Bool.false_ne_true]
 have hw:mg d % 2 ^ k ≠ 0→∃ t v:Nat,mg d=v*2 ^ t∧t≤k∧k - t≤am v - 8∧8≤am v∧am v≤4096∧am v+t≤32768:=by
  intro hr
  have hm:d.m.length ≠ 0:=fun h=>hr (by
   have:mg d=0:=by
    unfold mg
    rw [List.length_eq_zero_iff.1 h]
    exact Nat.zero_mul _
   rw [this,Nat.zero_mod])
  obtain ⟨g1,g2,g3,g4⟩:=rQ v hm
  obtain ⟨b1,b2,b3,b4⟩:=tM g4 (Nat.pos_iff_ne_zero.1 (kj (iK v hm)))
  have hb:=lO (d.e+16384).toNat (iK v hm)
  have hmg:mg d=ac d.m*2 ^ (d.e+16384).toNat:=rfl
  rw [← hmg] at hb
  unfold ale at hk
  have ht:(d.e+16384).toNat≤k:=Nat.le_of_not_lt fun hlt=>hr (by
   rw [hmg,show (d.e+16384).toNat=k+((d.e+16384).toNat - k) by omega,Nat.pow_add,← Nat.mul_assoc,Nat.mul_right_comm]
   exact Nat.mul_mod_left _ _)
  have hk1:k ≠ 0:=fun h=>hr (by rw [h,Nat.pow_zero,Nat.mod_one])
  refine ⟨(d.e+16384).toNat,ac d.m,rfl,ht,?_,?_,b1,?_⟩ <;> omega
 refine ⟨mg d / 2 ^ k,q',mg d % 2 ^ k,k,?_,Nat.mod_lt _ (Nat.two_pow_pos _),hq',?_,?_,hw⟩
 ·rw [Nat.mul_comm]
  exact (Nat.div_add_mod _ _).symm
 all_goals
  cases hn:d.neg with
  | false =>
   rw [hn] at h0 h1
   simp only [bne_self_eq_false,Bool.false_bne,e1,e2] at h0 h1 ⊢
   obtain ⟨k1,k2⟩:=aoJ h1
   first
   | (rw [apL hle k2]; rfl)
   | (rw [k1]; rfl)
  | true =>
   rw [hn] at h0 h1
   simp only [bne_self_eq_false,Bool.bne_false,e1,e2] at h0 h1 ⊢
   obtain ⟨k1,k2⟩:=aoJ h0
   first
   | (rw [apL hle k2]; rfl)
   | (rw [k1]; rfl)
theorem aoK {v t k x:Nat} {n:Bool} (h1:k - t≤am v - 8) (h2:8≤am v) (h3:am v≤4096) (h4:am v+t≤32768) (hx:x≤2 ^ (k - t)):(dU (fB (fX n (x*2 ^ t)) (-16384))).2=0:=by
 have hb:am x≤k - t+1:=cX.2 (Nat.lt_of_le_of_lt hx (Nat.pow_lt_pow_right (by decide) (by omega)))
 rw [← tP,oP,Ou (by omega) (by omega) (by omega)]
def aoL (lo hi:Rd):Rd:=if hi.m.length=0∨(lo.m.length ≠ 0∧lo.e < hi.e) then hi else lo
def akU (z:Int) (lo hi:Rd):Rd:=if z - zI lo < zI hi - z then lo else if zI hi - z < z - zI lo then hi else aoL lo hi
def aiA (d:Rd) (p:Int):Rd × Int:=if (ZL d p false).2=0 then (if (ZL d p true).2=0 then (akU (zI d) (ZL d p false).1 (ZL d p true).1,0) else (fp,(ZL d p true).2)) else (fp,(ZL d p false).2)
structure NearOk (d lo hi:Rd):Prop where
 below:(ae5 d lo).2=0
 above:(ae5 hi d).2=0
 tie:zI lo ≠ zI hi→zI d - zI lo=zI hi - zI d→lo.m.length ≠ 0→hi.m.length ≠ 0→lo.e ≠ hi.e
 le:zI lo≤zI d∧zI d≤zI hi
theorem anj {neg:Bool} {M:Nat} {e:Int} (h:(bA neg M e).m.length ≠ 0):M ≠ 0∧(bA neg M e).e=e+tz M:=by
 by_cases h0:M=0
 ·subst h0
  rw [iL] at h
  exact absurd rfl h
 ·exact ⟨h0,by rw [lR h0]⟩
theorem apM {q:Nat} (h:q ≠ 0):tz q ≠ tz (q+1):=by
 have hs:∀ {n:Nat},n ≠ 0→tz n=0→n % 2=1:=fun {n} h0 h1=>by
  have:=(qY h0).2
  rw [h1,Nat.pow_zero,Nat.div_one] at this
  exact this
 intro he
 rcases Nat.mod_two_eq_zero_or_one q with h1 | h1
 ·have h2:=wV (n:=q+1) (by omega)
  have:=hs h (by omega)
  omega
 ·have h2:=wV h1
  have:=hs (n:=q+1) (by omega) (by omega)
  omega
theorem apN {d:Rd} (ok:Ok0 d) (v:vd d=true) {p:Int} (hp:8≤p∧p≤512) (h0:(ZL d p false).2=0) (h1:(ZL d p true).2=0):NearOk d (ZL d p false).1 (ZL d p true).1:=by
 obtain ⟨q,q',r,k,Fm⟩:=asf ok v hp h0 h1
 have vlo:vd (ZL d p false).1=true:=by
  unfold ZL
  split
  ·exact amv.1
  ·rfl
 have vhi:vd (ZL d p true).1=true:=by
  unfold ZL
  split
  ·exact amv.1
  ·rfl
 generalize (ZL d p false).1=lo at *
 generalize (ZL d p true).1=hi at *
 have zlo:zI lo=fX d.neg ((if d.neg=true then q' else q)*2 ^ k):=by rw [Fm.hlo,ase]
 have zhi:zI hi=fX d.neg ((if d.neg=true then q else q')*2 ^ k):=by rw [Fm.hhi,ase]
 have zd:=aqT d
 have hz:=Fm.hz
 have hr:=Fm.hr
 have hq:=Fm.hq
 have hs1:ae5 d lo=dU (fB (zI d - zI lo) (-16384)):=by
  unfold ae5
  rw [v,vlo,Bool.and_self,if_pos rfl]
 have hs2:ae5 hi d=dU (fB (zI hi - zI d) (-16384)):=by
  unfold ae5
  rw [v,vhi,Bool.and_self,if_pos rfl]
 by_cases r0:r=0
 ·rw [if_pos r0] at hq
  rw [hq,ite_self,← hq] at zlo zhi
  have e0:zI d=zI lo:=by rw [zd,zlo,hz,r0,hq,Nat.add_zero]
  have e1:zI d=zI hi:=by rw [zd,zhi,hz,r0,hq,Nat.add_zero]
  have h00:(dU (fB 0 (-16384))).2=0:=by rw [show fB 0 (-16384)=fp from iL]; rfl
  refine ⟨?_,?_,fun h=>absurd (e0.symm.trans e1) h,by omega⟩
  ·rw [hs1,e0,Int.sub_self]
   exact h00
  ·rw [hs2,e1,Int.sub_self]
   exact h00
 ·rw [if_neg r0] at hq
  obtain ⟨t,w,w1,w2,w3,w4,w5,w6⟩:=Fm.hw r0
  have hp2:(2:Nat) ^ k=2 ^ (k - t)*2 ^ t:=by rw [← Nat.pow_add,show k - t+t=k by omega]
  have hrr:r=(w - q*2 ^ (k - t))*2 ^ t:=by
   rw [Nat.sub_mul,Nat.mul_assoc,← hp2]
   omega
  obtain ⟨x,hx⟩:∃ x,w - q*2 ^ (k - t)=x:=⟨_,rfl⟩
  rw [hx] at hrr
  have hxl:x < 2 ^ (k - t):=by
   rw [hrr,hp2] at hr
   exact Nat.lt_of_mul_lt_mul_right hr
  have f1:∀ n,(dU (fB (fX n r) (-16384))).2=0:=fun n=>by
   rw [hrr]
   exact aoK w3 w4 w5 w6 (Nat.le_of_lt hxl)
  have f2:∀ n,(dU (fB (fX n (2 ^ k - r)) (-16384))).2=0:=fun n=>by
   rw [hrr,hp2,← Nat.sub_mul]
   exact aoK w3 w4 w5 w6 (Nat.sub_le _ _)
  have hq2:q'*2 ^ k=q*2 ^ k+2 ^ k:=by rw [hq,Nat.add_mul,Nat.one_mul]
  have htie:lo.m.length ≠ 0→hi.m.length ≠ 0→lo.e ≠ hi.e:=by
   intro m1 m2
   rw [Fm.hlo] at m1 ⊢
   rw [Fm.hhi] at m2 ⊢
   obtain ⟨a1,a2⟩:=anj m1
   obtain ⟨b1,b2⟩:=anj m2
   rw [a2,b2]
   cases hn:d.neg with
   | false =>
    rw [hn] at a1 b1
    simp only [Bool.false_eq_true,if_false] at a1 b1 ⊢
    have:=apM a1
    rw [hq]
    omega
   | true =>
    rw [hn] at a1 b1
    simp only [if_true] at a1 b1 ⊢
    have:=apM b1
    rw [hq]
    omega
  generalize 2 ^ k=K at *
  refine ⟨?_,?_,fun _ _=>htie,?_⟩
  ·rw [hs1]
   cases hn:d.neg with
   | false =>
    rw [hn] at zd zlo
    simp only [Bool.false_eq_true,if_false,jf] at zd zlo
    have:zI d - zI lo=fX false r:=by rw [jf]; omega
    rw [this]
    exact f1 _
   | true =>
    rw [hn] at zd zlo
    simp only [if_true,je] at zd zlo
    have:zI d - zI lo=fX false (K - r):=by rw [jf]; omega
    rw [this]
    exact f2 _
  ·rw [hs2]
   cases hn:d.neg with
   | false =>
    rw [hn] at zd zhi
    simp only [Bool.false_eq_true,if_false,jf] at zd zhi
    have:zI hi - zI d=fX false (K - r):=by rw [jf]; omega
    rw [this]
    exact f2 _
   | true =>
    rw [hn] at zd zhi
    simp only [if_true,je] at zd zhi
    have:zI hi - zI d=fX false r:=by rw [jf]; omega
    rw [this]
    exact f1 _
  ·cases hn:d.neg with
   | false =>
    rw [hn] at zd zlo zhi
    simp only [Bool.false_eq_true,if_false,jf] at zd zlo zhi
    omega
   | true =>
    rw [hn] at zd zlo zhi
    simp only [if_true,je] at zd zlo zhi
    omega
end Go.Ab
namespace Go.Ab
open Go Go.IntWalk
set_option maxRecDepth 4000
set_option maxHeartbeats 2000000
theorem ahn {a b:Rd} (oa:Ok0 a) (ob:Ok0 b):R F.dyadic_Sub [aF a,aF b] []=some (rV (ae5 a b),[]):=by
 refine aZ af7 af6 (afI false) rfl ?_
 have v1:=kl oa
 have v2:=kl ob
 simp only [aF,aW] at v1 v2
 unfold ae5
 cases va:vd a with
 | false =>
  rw [va] at v1
  rw [Bool.false_and,if_neg Bool.false_ne_true]
  simp only [ad6,ae3,rV,fp,aF,aW,go_sem,↓reduceIte,aez,aeB,aeA,aeC,v1]
 | true =>
  rw [va] at v1
  cases vb:vd b with
  | false =>
   rw [vb] at v2
   rw [Bool.and_false,if_neg Bool.false_ne_true]
   simp only [ad6,ae3,rV,fp,aF,aW,go_sem,↓reduceIte,aez,aeB,aeA,aeC,v1,v2]
  | true =>
   rw [vb] at v2
   obtain ⟨z1,z2⟩:=afT vb
   have hn:R F.dyadic_Neg [aF b] []=some (aF (ZH b),[]):=agR ob
   have hs:=QK oa (ahm ob) va z2
   rw [z1,← Int.sub_eq_add_neg] at hs
   rw [Bool.and_self,if_pos rfl]
   generalize ZH b=c at hn hs
   generalize dU (fB (zI a - zI b) (-16384))=r at hs ⊢
   simp only [rV,aF,aW] at hn hs
   simp only [ad6,ae3,rV,aF,aW,go_sem,↓reduceIte,aez,aeB,aeA,aeC,aeE,aeD,v1,v2,hn,hs]
theorem apO {d:Rd} {p:Int} {up:Bool} (h:(ZL d p up).2=0):vd d=true∧(8≤p∧p≤512):=by
 unfold ZL at h
 by_cases hf:Bw p [d]=0
 ·unfold Bw at hf
  simp only [List.all_cons,List.all_nil,Bool.and_true] at hf
  cases hv:vd d with
  | false=>rw [hv,if_neg Bool.false_ne_true] at hf; exact absurd hf (by decide)
  | true =>
   refine ⟨rfl,?_⟩
   rw [hv,if_pos rfl] at hf
   exact Classical.byContradiction fun hc=>by rw [if_neg hc] at hf; exact absurd hf (by decide)
 ·rw [if_neg hf] at h
  exact absurd h hf
theorem aho {a b:Rd} (vb:vd b=true) (h:(ae5 a b).2=0):zI (ae5 a b).1=zI a - zI b:=by
 rw [ag0 vb] at h ⊢
 rw [QJ h,(afT vb).1,← Int.sub_eq_add_neg]
theorem atU {d:Rd} (ok:Ok0 d) {p:Int}:R F.round_Near [aF d,I p] []=some (rV (aiA d p),[]):=by
 refine aZ aoc aob (amo false) rfl ?_
 have hd:=arM ok (p:=p)
 have hu:=atF ok (p:=p)
 unfold aiA
 by_cases h0:(ZL d p false).2=0
 ·rw [if_pos h0]
  obtain ⟨v,hp⟩:=apO h0
  have vl:=aj5 (d:=d) (p:=p) (up:=false)
  have ol:=aj4 (d:=d) (p:=p) (up:=false)
  by_cases h1:(ZL d p true).2=0
  ·rw [if_pos h1]
   have vh:=aj5 (d:=d) (p:=p) (up:=true)
   have oh:=aj4 (d:=d) (p:=p) (up:=true)
   have hk:=apN ok v hp h0 h1
   generalize ZL d p false=lo at *
   generalize ZL d p true=hi at *
   obtain ⟨lo,el⟩:=lo
   obtain ⟨hi,eh⟩:=hi
   have h0':el=0:=h0
   have h1':eh=0:=h1
   subst h0'
   subst h1'
   have s1:=ahn ok ol
   have s2:=ahn oh ok
   have c:=QA (agz d lo).2 (agz hi d).2
   rw [if_pos ⟨(agz d lo).1,(agz hi d).1⟩,aho vl hk.below,aho v hk.above] at c
   show _=some (rV (akU (zI d) lo hi,0),[])
   unfold akU
   generalize ae5 d lo=x at s1 c
   generalize ae5 hi d=y at s2 c
   simp only [rV,aF,aW] at hd hu s1 s2 c
   rcases iM (zI d - zI lo) (zI hi - zI d) with ⟨g,e⟩ | ⟨g,e⟩ | ⟨g,e⟩
   ·rw [e] at c
    rw [if_pos g]
    simp only [ah9,ain,rV,aF,aW,go_sem,↓reduceIte,aez,aeB,aeA,aeC,axg,hd,hu,s1,s2,c]
   ·rw [e] at c
    rw [if_neg (by omega),if_neg (by omega)]
    unfold aoL
    by_cases m1:hi.m.length=0
    ·have e1:((hi.m.length:Int)=0)=True:=tt (by omega)
     rw [if_pos (.inl m1)]
     simp only [ah9,ain,rV,aF,aW,go_sem,↓reduceIte,aez,aeB,aeA,aeC,axg,hd,hu,s1,s2,c,e1]
    ·have e1:((hi.m.length:Int)=0)=False:=ff (by omega)
     by_cases m2:lo.m.length=0
     ·have e2:(0 < (lo.m.length:Int))=False:=ff (by omega)
      rw [if_neg (by omega)]
      simp only [ah9,ain,rV,aF,aW,go_sem,↓reduceIte,aez,aeB,aeA,aeC,axg,hd,hu,s1,s2,c,e1,e2]
     ·have e2:(0 < (lo.m.length:Int))=True:=tt (by omega)
      by_cases m3:lo.e < hi.e
      ·have e3:(lo.e < hi.e)=True:=eq_true m3
       rw [if_pos (.inr ⟨m2,m3⟩)]
       simp only [ah9,ain,rV,aF,aW,go_sem,↓reduceIte,aez,aeB,aeA,aeC,axg,hd,hu,s1,s2,c,e1,e2,e3]
      ·have e3:(lo.e < hi.e)=False:=eq_false m3
       rw [if_neg (by omega)]
       simp only [ah9,ain,rV,aF,aW,go_sem,↓reduceIte,aez,aeB,aeA,aeC,axg,hd,hu,s1,s2,c,e1,e2,e3]
   ·rw [e] at c
    rw [if_neg (by omega),if_pos (by omega)]
    simp only [ah9,ain,rV,aF,aW,go_sem,↓reduceIte,aez,aeB,aeA,aeC,axg,hd,hu,s1,s2,c]
  ·rw [if_neg h1]
   generalize ZL d p false=lo at *
   generalize ZL d p true=hi at *
   have e1:(hi.2=0)=False:=eq_false h1
   have e0:(lo.2=0)=True:=eq_true h0
   simp only [rV,aF,aW] at hd hu
   simp only [ah9,ain,rV,fp,aF,aW,go_sem,↓reduceIte,aez,aeB,aeA,aeC,hd,hu,e0,e1]
 ·rw [if_neg h0]
  generalize ZL d p false=lo at *
  have e0:(lo.2=0)=False:=eq_false h0
  simp only [rV,aF,aW] at hd
  simp only [ah9,ain,rV,fp,aF,aW,go_sem,↓reduceIte,aez,aeB,aeA,aeC,hd,e0]
end Go.Ab
namespace Go.Ab
open Go Go.IntWalk
set_option maxRecDepth 4000
set_option maxHeartbeats 8000000
theorem alk (d:Rd) (p:Int):vd (aiA d p).1=true∧Ok0 (aiA d p).1:=by
 unfold aiA
 split
 ·split
  ·unfold akU aoL
   show vd (ite _ _ _)=true∧Ok0 (ite _ _ _)
   split
   ·exact ⟨aj5,aj4⟩
   ·split
    ·exact ⟨aj5,aj4⟩
    ·split
     ·exact ⟨aj5,aj4⟩
     ·exact ⟨aj5,aj4⟩
  ·exact He
 ·exact He
def vw (x:List Int) (c:Rd) (l:List Rt):List Rt:=if c.m.length=0 then l else ⟨x,c⟩::l
def aj1 (p:Int):List Rt→Option (List Rt × List Rt)
 | []=>some ([],[])
 | t::ts=>if (aiA t.c p).2=0 then (if (ae5 t.c (aiA t.c p).1).2=0 then (aj1 p ts).map fun q=>(vw t.exps (aiA t.c p).1 q.1,vw t.exps (ae5 t.c (aiA t.c p).1).1 q.2) else none) else none
def ajT (a:Rp) (p:Int):(Rp × Rp) × Int:=if vp a=true then (if p < 8∨512 < p then ((p0,p0),2) else match aj1 p a.terms with
 | none=>((p0,p0),9)
 | some q=>((⟨a.vars,q.1⟩,⟨a.vars,q.2⟩),0)) else ((p0,p0),1)
def prV (r:(Rp × Rp) × Int):AV:=.tup [bm r.1.1,bm r.1.2,I r.2]
def am0 (blk:Option (Ex × St)) (i1 i2:Nat) (S:af) (v':Int) (l1 l2:List Rt):Option (List Rt × List Rt)→Prop
 | some q=>akO blk i1 i2 S v' l1 l2 q.1 q.2
 | none=>∃ hh,blk=some (.ret,⟨upd (upd (upd (fun _=>.any) 6 (I 9)) 5 (.ref 5 none 0 0 0)) 4 (.ref 4 none 0 0 0),hh⟩)∧hh 4=.bx [I 0,.emp]∧hh 5=.bx [I 0,.emp]
theorem akV {x:List Int} {c:Rd} {l r:List Rt}:l++vw x c []++r=l++vw x c r:=by
 unfold vw
 split
 ·rw [List.append_nil]
 ·rw [List.append_assoc]
  rfl
theorem am0.step {blk:Option (Ex × St)} {i1 i2:Nat} {S:af} {v':Int} {l1 l2:List Rt} {x:List Int} {c d:Rd}:∀ {o:Option (List Rt × List Rt)},am0 blk i1 i2 S v' (l1++vw x c []) (l2++vw x d []) o→am0 blk i1 i2 S v' l1 l2 (o.map fun q=>(vw x c q.1,vw x d q.2)):=by
 intro o h
 cases o with
 | none=>exact h
 | some q =>
  obtain ⟨hh,c1,c2,h1,h2,h3,h4,h5,h6,h7⟩:=h
  exact ⟨hh,c1,c2,h1,h2,h3,h4,h5,by rwa [akV] at h6,by rwa [akV] at h7⟩
theorem VT.put {v:Int} {t:Rt} {d:Rd} (h:VT v t) (od:Ok0 d) (vdd:vd d=true) (nd:d.m.length ≠ 0):VT v ⟨t.exps,d⟩:=⟨od,h.len,h.v8,vdd,nd,h.b,h.d⟩
theorem as3 {v v' p:Int} {A:List Rt} (hA:Cl v A) (hn:A.length≤100000) {o2:Ob} (k2c:∀ ids,aB ids o2=true) :
  ∀ (k i:Nat),i+k=A.length→∀ (c1 c2:AV) (l1 l2:List Rt),nS c1 l1→nS c2 l2→Bf v l1 (A.drop i)→Bf v l2 (A.drop i)→l1.length+k≤1000000→l2.length+k≤1000000→∀ (s:af) (h:aa),s 1=I p→s 4=.ref 4 none 0 0 0→s 5=.ref 5 none 0 0 0→s 7=.ref 2248 none 0 0 0→s 8=.ref 2272 none 0 0 0→s 36=.sl 4 (ax A)→s 37=I A.length→s 38=I i→h 2=o2→h 4=.bx [I 0,.emp]→h 5=.bx [I 0,.emp]→h 2248=t3 v' c1 0→h 2272=t3 v' c2 0 →
  am0 (aI 1 [4,5,7,8] (aU (az R (ab false) ahK) [1,4,5,7,8,36,37,38] [2,4,5,2248,2272] s h)) 2248 2272 (upd (upd (upd (upd (fun _=>.any) 8 (.ref 2272 none 0 0 0)) 7 (.ref 2248 none 0 0 0)) 5 (.ref 5 none 0 0 0)) 4 (.ref 4 none 0 0 0)) v' l1 l2 (aj1 p (A.drop i)):=by
 intro k
 induction k with
 | zero =>
  intro i hi c1 c2 l1 l2 hc1 hc2 _ _ _ _ s h g1 g4 g5 g7 g8 g36 g37 g38 k2 k4 k5 k2248 k2272
  have e1:((i:Int) < (A.length:Int))=False:=ff (by omega)
  have ho1:=(ko (v:=v') (e:=0) hc1).cl [2,4,5,2248,2272]
  have ho2:=(ko (v:=v') (e:=0) hc2).cl [2,4,5,2248,2272]
  have ho3:=k2c [2,4,5,2248,2272]
  rw [List.drop_eq_nil_of_le (by omega),aA]
  refine ⟨?hh0,c1,c2,?_,?_,?_,?_,?_,by simpa using hc1,by simpa using hc2⟩
  rotate_left
  ·simp only [ahK,go_sem,↓reduceIte,aez,aeD,g1,g4,g5,g7,g8,g36,g37,g38,k2,k4,k5,k2248,k2272,ho1,ho2,ho3,e1]
   rfl
  ·rfl
  ·rfl
  ·rfl
  ·rfl
 | succ k ih =>
  intro i hi c1 c2 l1 l2 hc1 hc2 b1 b2 hl1 hl2 s h g1 g4 g5 g7 g8 g36 g37 g38 k2 k4 k5 k2248 k2272
  have hlt:i < A.length:=by omega
  have e1:((i:Int) < (A.length:Int))=True:=tt (by omega)
  have e2:bH (ax A) (i:Int)=some (.ipt (bv A[i])):=jx rfl (List.getElem?_eq_getElem hlt)
  have e5:IntKind.i64.wrap ((i:Int)+1)=((i+1:Nat):Int):=wi (by omega) (by omega)
  have ho1:=(ko (v:=v') (e:=0) hc1).cl [2,4,5,2248,2272]
  have ho2:=(ko (v:=v') (e:=0) hc2).cl [2,4,5,2248,2272]
  have ho3:=k2c [2,4,5,2248,2272]
  have hAd:=hA.dropN i
  rw [List.drop_eq_getElem_cons hlt] at b1 b2 hAd ⊢
  have ih':=ih (i+1) (by omega)
  have vt:=hAd.head
  have hrow:∀ q ts,aj1 p (q::ts)=if (aiA q.c p).2=0 then (if (ae5 q.c (aiA q.c p).1).2=0 then (aj1 p ts).map fun x=>(vw q.exps (aiA q.c p).1 x.1,vw q.exps (ae5 q.c (aiA q.c p).1).1 x.2) else none) else none:=fun q ts=>rfl
  rw [hrow]
  generalize A[i]=t at e2 vt b1 b2 hAd ⊢
  have hnr:=atU vt.c (p:=p)
  obtain ⟨vm,om⟩:=alk t.c p
  rw [aA]
  generalize aU _ _ _=L at ih' ⊢
  generalize aiA t.c p=m at hnr vm om ⊢
  obtain ⟨m,em⟩:=m
  have hsb:=ahn vt.c om
  obtain ⟨vq,oq⟩:=agz t.c m
  simp only at hsb vq oq
  generalize ae5 t.c m=q at hsb vq oq ⊢
  obtain ⟨q,eq⟩:=q
  simp only [bv] at e2
  simp only [rV,aF,aW] at hnr hsb
  by_cases hm:em=0
  ·subst hm
   rw [if_pos rfl]
   by_cases hq:eq=0
   ·subst hq
    rw [if_pos rfl]
    refine am0.step ?_
    simp only at vm om vq oq
    by_cases zm:m.m.length=0
    ·have f1:(0 < (m.m.length:Int))=False:=ff (by omega)
     have x1:l1++vw t.exps m []=l1:=by unfold vw; rw [if_pos zm,List.append_nil]
     simp only [x1]
     by_cases zq:q.m.length=0
     ·have f2:(0 < (q.m.length:Int))=False:=ff (by omega)
      have x2:l2++vw t.exps q []=l2:=by unfold vw; rw [if_pos zq,List.append_nil]
      simp only [x2]
      have ih2:=ih' c1 c2 l1 l2 hc1 hc2 b1.drop b2.drop (by omega) (by omega)
      simp only [ahK,go_sem,↓reduceIte,aez,aeB,aeA,aeC,aeD,g1,g4,g5,g7,g8,g36,g37,g38,k2,k4,k5,k2248,k2272,ho1,ho2,ho3,e1,e2,hnr,hsb,f1,f2,e5]
      refine ih2 _ _ ?_ ?_ ?_ ?_ ?_ ?_ ?_ ?_ ?_ ?_ ?_ ?_ ?_
      all_goals first | rfl | assumption
     ·have f2:(0 < (q.m.length:Int))=True:=tt (by omega)
      have x2:l2++vw t.exps q []=l2++[⟨t.exps,q⟩]:=by unfold vw; rw [if_neg zq]
      simp only [x2]
      obtain ⟨c4,s3,s4⟩:=akN (v':=v') b2 (vt.put oq vq zq) (by omega) hc2
      have hcall2:=fun (h:aa) (hh:h 2272=t3 v' c2 0) (d:Nat)=>nU (ed false) rfl (xv (d:=d) hh hc2 s4 s3)
      have ih2:=ih' c1 c4 l1 _ hc1 s4 b1.drop (b2.push hAd (vt.put oq vq zq)) (by omega) (by rw [List.length_append]; show l2.length+1+k≤_; omega)
      simp only [aF,aW] at hcall2
      simp only [ahK,go_sem,↓reduceIte,aez,aeB,aeA,aeC,aeD,g1,g4,g5,g7,g8,g36,g37,g38,k2,k4,k5,k2248,k2272,ho1,ho2,ho3,e1,e2,hnr,hsb,f1,f2]
      rw [hcall2 _ rfl]
      simp only [go_sem,↓reduceIte,aez,aeD,e5]
      refine ih2 _ _ ?_ ?_ ?_ ?_ ?_ ?_ ?_ ?_ ?_ ?_ ?_ ?_ ?_
      all_goals first | rfl | assumption
    ·have f1:(0 < (m.m.length:Int))=True:=tt (by omega)
     have x1:l1++vw t.exps m []=l1++[⟨t.exps,m⟩]:=by unfold vw; rw [if_neg zm]
     simp only [x1]
     obtain ⟨c3,s1,s2⟩:=akN (v':=v') b1 (vt.put om vm zm) (by omega) hc1
     have hcall:=fun (h:aa) (hh:h 2248=t3 v' c1 0) (d:Nat)=>nU (ed false) rfl (xv (d:=d) hh hc1 s2 s1)
     have bp1:=b1.push hAd (vt.put om vm zm)
     have lp1:(l1++[(⟨t.exps,m⟩:Rt)]).length+k≤1000000:=by rw [List.length_append]; show l1.length+1+k≤_; omega
     simp only [aF,aW] at hcall
     by_cases zq:q.m.length=0
     ·have f2:(0 < (q.m.length:Int))=False:=ff (by omega)
      have x2:l2++vw t.exps q []=l2:=by unfold vw; rw [if_pos zq,List.append_nil]
      simp only [x2]
      have ih2:=ih' c3 c2 _ l2 s2 hc2 bp1 b2.drop lp1 (by omega)
      simp only [ahK,go_sem,↓reduceIte,aez,aeB,aeA,aeC,aeD,g1,g4,g5,g7,g8,g36,g37,g38,k2,k4,k5,k2248,k2272,ho1,ho2,ho3,e1,e2,hnr,hsb,f1]
      rw [hcall _ rfl]
      simp only [go_sem,↓reduceIte,aez,aeB,aeA,aeC,aeD,f2,e5]
      refine ih2 _ _ ?_ ?_ ?_ ?_ ?_ ?_ ?_ ?_ ?_ ?_ ?_ ?_ ?_
      all_goals first | rfl | assumption
     ·have f2:(0 < (q.m.length:Int))=True:=tt (by omega)
      have x2:l2++vw t.exps q []=l2++[⟨t.exps,q⟩]:=by unfold vw; rw [if_neg zq]
      simp only [x2]
      obtain ⟨c4,s3,s4⟩:=akN (v':=v') b2 (vt.put oq vq zq) (by omega) hc2
      have hcall2:=fun (h:aa) (hh:h 2272=t3 v' c2 0) (d:Nat)=>nU (ed false) rfl (xv (d:=d) hh hc2 s4 s3)
      have ih2:=ih' c3 c4 _ _ s2 s4 bp1 (b2.push hAd (vt.put oq vq zq)) lp1 (by rw [List.length_append]; show l2.length+1+k≤_; omega)
      simp only [aF,aW] at hcall2
      simp only [ahK,go_sem,↓reduceIte,aez,aeB,aeA,aeC,aeD,g1,g4,g5,g7,g8,g36,g37,g38,k2,k4,k5,k2248,k2272,ho1,ho2,ho3,e1,e2,hnr,hsb,f1]
      rw [hcall _ rfl]
      simp only [go_sem,↓reduceIte,aez,aeB,aeA,aeC,aeD,f2]
      rw [hcall2 _ rfl]
      simp only [go_sem,↓reduceIte,aez,aeD,e5]
      refine ih2 _ _ ?_ ?_ ?_ ?_ ?_ ?_ ?_ ?_ ?_ ?_ ?_ ?_ ?_
      all_goals first | rfl | assumption
   ·rw [if_neg hq]
    have f1:(eq=0)=False:=ff hq
    refine ⟨?hh1,?_,?_,?_⟩
    rotate_left
    ·simp only [ahK,go_sem,↓reduceIte,aez,aeB,aeA,aeC,aeD,g1,g4,g5,g7,g8,g36,g37,g38,k2,k4,k5,k2248,k2272,ho1,ho2,ho3,e1,e2,hnr,hsb,f1]
     rfl
    ·rfl
    ·rfl
  ·rw [if_neg hm]
   have f1:(em=0)=False:=ff hm
   refine ⟨?hh2,?_,?_,?_⟩
   rotate_left
   ·simp only [ahK,go_sem,↓reduceIte,aez,aeB,aeA,aeC,aeD,g1,g4,g5,g7,g8,g36,g37,g38,k2,k4,k5,k2248,k2272,ho1,ho2,ho3,e1,e2,hnr,f1]
    rfl
   ·rfl
   ·rfl
theorem awe {v v' p:Int} {A:List Rt} (hA:Cl v A) (hn:A.length≤100000) {o2:Ob} (k2c:∀ ids,aB ids o2=true) (s:af) (h:aa) (X:Option (Ex × St)) (hX:aI 1 [4,5,7,8] (aU (az R (ab false) ahK) [1,4,5,7,8,36,37,38] [2,4,5,2248,2272] s h)=X)
  (g1:s 1=I p) (g4:s 4=.ref 4 none 0 0 0) (g5:s 5=.ref 5 none 0 0 0) (g7:s 7=.ref 2248 none 0 0 0) (g8:s 8=.ref 2272 none 0 0 0) (g36:s 36=.sl 4 (ax A)) (g37:s 37=I A.length) (g38:s 38=I 0) (k2:h 2=o2) (k4:h 4=.bx [I 0,.emp]) (k5:h 5=.bx [I 0,.emp]) (k2248:h 2248=t3 v' .emp 0) (k2272:h 2272=t3 v' .emp 0) :
  am0 X 2248 2272 (upd (upd (upd (upd (fun _=>.any) 8 (.ref 2272 none 0 0 0)) 7 (.ref 2248 none 0 0 0)) 5 (.ref 5 none 0 0 0)) 4 (.ref 4 none 0 0 0)) v' [] [] (aj1 p A):=by
 subst hX
 exact as3 hA hn k2c A.length 0 (Nat.zero_add _) .emp .emp [] [] (.inr ⟨rfl,rfl⟩) (.inr ⟨rfl,rfl⟩) (Bf.nil _) (Bf.nil _) (by show 0+_≤_; omega) (by show 0+_≤_; omega) s h g1 g4 g5 g7 g8 g36 g37 g38 k2 k4 k5 k2248 k2272
theorem ash {a:Rp} {p:Int} (oa:OkP a):R F.poly_Round [bm a,I p] []=some (prV (ajT a p),[]):=by
 refine aZ an4 an3 (amm false) rfl ?_
 have v1:=nR oa
 simp only [bm] at v1
 unfold ajT
 cases va:vp a with
 | false =>
  rw [va] at v1
  rw [if_neg Bool.false_ne_true]
  simp only [aiJ,ajw,bm,go_sem,↓reduceIte,aez,aeB,aeA,aeC,v1]
  rfl
 | true =>
  rw [va] at v1
  rw [if_pos rfl]
  by_cases h8:p < 8
  ·have e0:(p < 8)=True:=eq_true h8
   rw [if_pos (.inl h8)]
   simp only [aiJ,ajw,bm,go_sem,↓reduceIte,aez,aeB,aeA,aeC,v1,e0]
   rfl
  ·have e0:(p < 8)=False:=eq_false h8
   by_cases h9:512 < p
   ·have e3:(512 < p)=True:=eq_true h9
    rw [if_pos (.inr h9)]
    simp only [aiJ,ajw,bm,go_sem,↓reduceIte,aez,aeB,aeA,aeC,v1,e0,e3]
    rfl
   ·have e3:(512 < p)=False:=eq_false h9
    rw [if_neg (by omega)]
    obtain ⟨ka,a0,a8,al⟩:=eJ oa va
    have hemp:=Ai (v:=a.vars)
    have hl:=awe (v:=a.vars) (v':=a.vars) (p:=p) ka (by omega) (o2:=.bx [I a.vars,.sl 4 (ax a.terms)]) (fun _=>rfl)
    simp only [aiJ,ajw,bm,go_sem,↓reduceIte,aez,aeB,aeA,aeC,aeE,aeD,v1,e0,e3,hemp,qp]
    generalize hX:aI 1 _ _=X
    have hM:=hl _ _ _ hX rfl rfl rfl rfl rfl rfl rfl rfl rfl rfl rfl rfl rfl
    cases hr:aj1 p a.terms with
    | none =>
     rw [hr] at hM
     obtain ⟨hh,rfl,q4,q5⟩:=hM
     simp only [prV,p0,bm,go_sem,↓reduceIte,aez,aeB,aeA,aeC,q4,q5]
     rfl
    | some q =>
     rw [hr] at hM
     obtain ⟨hh,c1,c2,rfl,q4,q5,q1,q2,i1,i2⟩:=hM
     rw [List.nil_append] at i1 i2
     obtain ⟨r1,r2⟩:=q
     simp only at i1 i2
     simp only [t3] at q1 q2
     rcases i1 with rfl | ⟨rfl,rfl⟩
     ·rcases i2 with rfl | ⟨rfl,rfl⟩
      ·simp only [prV,bm,go_sem,↓reduceIte,aez,aeB,aeA,aeC,aeE,aeD,axe,axf,q4,q5,q1,q2,aih,aiq,List.map_cons,List.map_nil,Sz,OG]
      ·simp only [prV,bm,go_sem,↓reduceIte,aez,aeB,aeA,aeC,aeE,aeD,axe,axf,q4,q5,q1,q2,aih,aiq,List.map_cons,List.map_nil,Sz,OG,aig]
       rfl
     ·rcases i2 with rfl | ⟨rfl,rfl⟩
      ·simp only [prV,bm,go_sem,↓reduceIte,aez,aeB,aeA,aeC,aeE,aeD,axe,axf,q4,q5,q1,q2,aih,aiq,List.map_cons,List.map_nil,Sz,OG,aig]
       rfl
      ·simp only [prV,bm,go_sem,↓reduceIte,aez,aeB,aeA,aeC,aeE,aeD,axe,axf,q4,q5,q1,q2,aih,aiq,List.map_cons,List.map_nil,Sz,aig]
       rfl
end Go.Ab
namespace Go.Ab
open Go Go.IntWalk
set_option maxRecDepth 4000
set_option maxHeartbeats 4000000
def akP (blk:Option (Ex × St)) (i1 i2:Nat) (S:af) (v':Int) (l1 l2 r1 r2:List Rt):Prop :=
 ∃ hh c1 c2,blk=some (.normal,⟨S,hh⟩)∧hh 4=.bx [I 0,.emp]∧hh 5=.bx [I 0,.emp]∧hh i1=.bx [I v',c1]∧hh i2=.bx [I v',c2]∧nS c1 (l1++r1)∧nS c2 (l2++r2)
theorem akP.p1 {blk:Option (Ex × St)} {i1 i2:Nat} {S:af} {v':Int} {l1 l2 r1 r2:List Rt} {t:Rt} (h:akP blk i1 i2 S v' (l1++[t]) l2 r1 r2):akP blk i1 i2 S v' l1 l2 (t::r1) r2:=by
 obtain ⟨hh,c1,c2,h1,h2,h3,h4,h5,h6,h7⟩:=h
 exact ⟨hh,c1,c2,h1,h2,h3,h4,h5,by rwa [List.append_cons],h7⟩
theorem akP.p2 {blk:Option (Ex × St)} {i1 i2:Nat} {S:af} {v':Int} {l1 l2 r1 r2:List Rt} {t:Rt} (h:akP blk i1 i2 S v' l1 (l2++[t]) r1 r2):akP blk i1 i2 S v' l1 l2 r1 (t::r2):=by
 obtain ⟨hh,c1,c2,h1,h2,h3,h4,h5,h6,h7⟩:=h
 exact ⟨hh,c1,c2,h1,h2,h3,h4,h5,h6,by rwa [List.append_cons]⟩
end Go.Ab
namespace Go.Ab
open Go Go.IntWalk
set_option maxRecDepth 4000
set_option maxHeartbeats 8000000
def am1 (blk:Option (Ex × St)) (i1 i2:Nat) (S:af) (v':Int) (l1 l2:List Rt):Option (List Rt × List Rt)→Prop
 | some q=>akP blk i1 i2 S v' l1 l2 q.1 q.2
 | none=>∃ hh,blk=some (.ret,⟨upd (upd (upd (fun _=>.any) 6 (I 9)) 5 (.ref 5 none 0 0 0)) 4 (.ref 4 none 0 0 0),hh⟩)∧hh 4=.bx [I 0,.emp]∧hh 5=.bx [I 0,.emp]
theorem am1.step {blk:Option (Ex × St)} {i1 i2:Nat} {S:af} {v':Int} {l1 l2:List Rt} {x:List Int} {c d:Rd}:∀ {o:Option (List Rt × List Rt)},am1 blk i1 i2 S v' (l1++vw x c []) (l2++vw x d []) o→am1 blk i1 i2 S v' l1 l2 (o.map fun q=>(vw x c q.1,vw x d q.2)):=by
 intro o h
 cases o with
 | none=>exact h
 | some q =>
  obtain ⟨hh,c1,c2,h1,h2,h3,h4,h5,h6,h7⟩:=h
  exact ⟨hh,c1,c2,h1,h2,h3,h4,h5,by rwa [akV] at h6,by rwa [akV] at h7⟩
end Go.Ab
namespace Go.Ab
open Go Go.IntWalk
set_option maxRecDepth 4000
set_option maxHeartbeats 2000000
theorem aha {a b:List Nat} (hl:a.length=b.length) (h2:a.length≤100000):∀ (k i:Nat),i+k=a.length→∀ (s:af) (h:aa),s 0=.sl 1 (aP a)→s 1=.sl 1 (aP b)→s 12=I a.length→s 13=I i →
  ∃ hh,aI 0 [] (aU (az R (ab false) acC) [0,1,12,13] [] s h)=if ae6 (a.drop i) (b.drop i)=true then some (.normal,⟨fun _=>.any,hh⟩) else some (.ret,⟨upd (fun _=>.any) 4 (B false),hh⟩):=by
 intro k
 induction k with
 | zero =>
  intro i hi s h g0 g1 g12 g13
  have e1:((i:Int) < a.length)=False:=ff (by omega)
  rw [List.drop_eq_nil_of_le (by omega),List.drop_eq_nil_of_le (by omega),aA]
  refine ⟨?hh0,?_⟩
  rotate_left
  ·simp only [acC,ae6,go_sem,↓reduceIte,aez,g0,g1,g12,g13,e1]
   rfl
 | succ k ih =>
  intro i hi s h g0 g1 g12 g13
  have hlt:i < a.length:=by omega
  have hlt2:i < b.length:=by omega
  have e1:((i:Int) < a.length)=True:=tt (by omega)
  have e2:bH (aP a) (i:Int)=some (.ipt [U (a.getD i 0:Nat)]):=df rfl hlt
  have e3:bH (aP b) (i:Int)=some (.ipt [U (b.getD i 0:Nat)]):=df rfl hlt2
  have v1:a.getD i 0=a[i]:=by simp [List.getD,hlt]
  have v2:b.getD i 0=b[i]:=by simp [List.getD,hlt2]
  rw [v1] at e2
  rw [v2] at e3
  have e5:IntKind.i64.wrap ((i:Int)+1)=((i+1:Nat):Int):=wi (by omega) (by omega)
  have ih':=ih (i+1) (by omega)
  rw [List.drop_eq_getElem_cons hlt,List.drop_eq_getElem_cons hlt2,aA]
  generalize a[i]=p at e2 ⊢
  generalize b[i]=q at e3 ⊢
  generalize aU _ _ _=L at ih' ⊢
  unfold ae6
  by_cases hpq:p=q
  ·have e4:((p:Int)=(q:Int))=True:=tt (by omega)
   rw [decide_eq_true hpq,Bool.true_and]
   simp only [acC,go_sem,↓reduceIte,aez,g0,g1,g12,g13,e1,e2,e3,e4,e5]
   exact ih' _ _ rfl rfl rfl rfl
  ·have e4:((p:Int)=(q:Int))=False:=ff (by omega)
   rw [decide_eq_false hpq,Bool.false_and]
   simp only [if_neg Bool.false_ne_true]
   refine ⟨?hh1,?_⟩
   rotate_left
   ·simp only [acC,go_sem,↓reduceIte,aez,g0,g1,g12,g13,e1,e2,e3,e4]
    rfl
theorem ahW {a b:List Nat} (hl:a.length=b.length) (h2:a.length≤100000) (s:af) (h:aa) (X:Option (Ex × St)) (hX:aI 0 [] (aU (az R (ab false) acC) [0,1,12,13] [] s h)=X) (g0:s 0=.sl 1 (aP a)) (g1:s 1=.sl 1 (aP b)) (g12:s 12=I a.length) (g13:s 13=I 0) :
  ∃ hh,X=if ae6 a b=true then some (.normal,⟨fun _=>.any,hh⟩) else some (.ret,⟨upd (fun _=>.any) 4 (B false),hh⟩):=by
 subst hX
 exact aha hl h2 a.length 0 (Nat.zero_add _) s h g0 g1 g12 g13
theorem ahN {a b:List Nat} (h2:a.length≤100000):R F.slices_Equal_uint32_uint32_ [lm a,lm b] []=some (B (ae6 a b),[]):=by
 refine aZ ae8 ae7 (ae0 false) rfl ?_
 by_cases h3:a.length=b.length
 ·have e3:((a.length:Int)=(b.length:Int))=True:=tt (by omega)
  have hl:=ahW (a:=a) (b:=b) h3 h2
  simp only [adL,adX,go_sem,↓reduceIte,aez,e3]
  generalize hX:aI 0 [] _=X
  obtain ⟨hh,rfl⟩:=hl _ _ _ hX rfl rfl rfl rfl
  cases ae6 a b with
  | true=>simp only [go_sem,↓reduceIte]
  | false=>simp only [go_sem,↓reduceIte]
 ·have e3:((a.length:Int)=(b.length:Int))=False:=ff (by omega)
  rw [agl h3]
  simp only [adL,adX,go_sem,↓reduceIte,aez,e3]
theorem ahu {x:Rd} (hx:x.m.length≤100000):R F.l23_number [aF x,aF x] []=some (B true,[]):=by
 refine aZ af4 af3 (afH false) rfl ?_
 have h:=ahN (a:=x.m) (b:=x.m) hx
 rw [agB.2 rfl] at h
 have hb:(false != (x.neg == x.neg))=true:=by rw [beq_self_eq_true]; rfl
 simp only [aeX,afq,aF,aW,go_sem,↓reduceIte,aez,aeB,aeA,h,hb]
def af2 (d:Rd):Bool:=decide (4 < d.m.length)
theorem agW {d:Rd}:R F.l23_long_1 [.agg (aW d)] []=some (B (af2 d),[]):=by
 refine aZ agd agc (afK false) rfl ?_
 unfold af2
 have e:decide ((4:Int) < (d.m.length:Int))=decide (4 < d.m.length):=by rw [decide_eq_decide]; omega
 simp only [aeY,afr,aW,go_sem,↓reduceIte,aez,aeB,aeA,e]
def afz (l:List Rd):Bool:=decide (20 < l.length) || l.any af2
theorem ags {l:List Rd}:R F.l23_long [.sl 3 (Ma l)] []=some (B (afz l),[]):=by
 refine aZ agG agF (afW false) rfl ?_
 unfold afz
 by_cases h:20 < l.length
 ·have e1:(20 < (l.length:Int))=True:=tt (by omega)
  rw [decide_eq_true h,Bool.true_or]
  simp only [aeV,afh,go_sem,↓reduceIte,aez,e1]
 ·have e1:(20 < (l.length:Int))=False:=ff (by omega)
  have hc:=agm (afv false) (afY false) (l:=l) (by omega) (p:=af2) (fun d _=>agW)
  rw [decide_eq_false h,Bool.false_or]
  simp only [aeV,afh,go_sem,↓reduceIte,aez,aeB,aeA,e1,hc]
theorem agt {xs:List Rd}:∀ (l:List Rt) (s:Rd),vd s=true→Ok0 s→vd (aeU xs l s).1=true∧Ok0 (aeU xs l s).1
 | [],s,h1,h2=>⟨h1,h2⟩
 | t::l,s,h1,h2=>by
  cases hp:ad9 t.exps xs t.c with
  | none =>
   rw [afy hp]
   exact He
  | some d =>
   rw [afx hp]
   split
   ·exact agt l _ (QH s d).1 (QH s d).2
   ·exact He
theorem aff (a:Rp) (xs:List Rd):vd (acB a xs).1=true∧Ok0 (acB a xs).1:=by
 unfold acB
 split
 ·exact agt _ _ He.1 He.2
 ·exact He
end Go.Ab
namespace Go.Ab
open Go Go.IntWalk
set_option maxRecDepth 4000
set_option maxHeartbeats 8000000
theorem Cl.filter {v:Int} {l:List Rt} (h:Cl v l) (p:Rt→Bool):Cl v (l.filter p):=⟨fun t ht=>h.t t (List.mem_filter.1 ht).1,h.s.filter p⟩
theorem apP {v p:Int}:∀ {ts:List Rt} {q:List Rt × List Rt},Cl v ts→aj1 p ts=some q→(Cl v q.1∧q.1.length≤ts.length∧∀ y ∈ q.1,∃ t ∈ ts,y.exps=t.exps)∧(Cl v q.2∧q.2.length≤ts.length∧∀ y ∈ q.2,∃ t ∈ ts,y.exps=t.exps)
 | [],q,_,h=>by
  cases h
  exact ⟨⟨Cl.nil v,Nat.le_refl _,(fun _ h=>nomatch h)⟩,⟨Cl.nil v,Nat.le_refl _,(fun _ h=>nomatch h)⟩⟩
 | t::ts,q,c,h=>by
  obtain ⟨vt,ht,c2⟩:=c.cons
  unfold aj1 at h
  split at h
  ·split at h
   ·rw [Option.map_eq_some_iff] at h
    obtain ⟨q2,h2,rfl⟩:=h
    obtain ⟨⟨k1,k2,k3⟩,⟨k4,k5,k6⟩⟩:=apP c2 h2
    have key:∀ {d:Rd} {l:List Rt},vd d=true→Ok0 d→Cl v l→l.length≤ts.length→(∀ y ∈ l,∃ t ∈ ts,y.exps=t.exps)→Cl v (vw t.exps d l)∧(vw t.exps d l).length≤(t::ts).length∧∀ y ∈ vw t.exps d l,∃ q ∈ t::ts,y.exps=q.exps:=by
     intro d l vdd od cl hl hy
     unfold vw
     split
     ·refine ⟨cl,by simp; omega,fun y h=>?_⟩
      obtain ⟨q,hq,he⟩:=hy y h
      exact ⟨q,by simp [hq],he⟩
     ·rename_i h0
      refine ⟨Cl.mk' (vt.put od vdd h0) (fun y h=>?_) cl,by simp; omega,fun y h=>?_⟩
      ·obtain ⟨q,hq,he⟩:=hy y h
       show bj t.exps y.exps < 0
       rw [he]
       exact ht q hq
      ·rcases List.mem_cons.1 h with rfl | h
       ·exact ⟨t,by simp,rfl⟩
       ·obtain ⟨q,hq,he⟩:=hy y h
        exact ⟨q,by simp [hq],he⟩
    exact ⟨key (alk _ _).1 (alk _ _).2 k1 k2 k3,key (agz _ _).1 (agz _ _).2 k4 k5 k6⟩
   ·cases h
  ·cases h
theorem atV {a:Rp} {i:Int} {d:Rd} (oa:OkP a):Res (amb a i d):=by
 have h0:∀ e,Res (p0,e):=fun e=>⟨Cl.nil _,Nat.zero_le _,.inr rfl⟩
 unfold amb
 split
 ·rename_i hv
  rw [Bool.and_eq_true] at hv
  obtain ⟨ka,a0,a8,al⟩:=eJ oa hv.1
  split
  ·exact h0 _
  ·have hsm:=fun l h=>ani (v:=a.vars) (j:=i.toNat) (d:=d) (l:=l) ka.t h
   generalize (aiZ i.toNat d a.terms).bind (ej [])=o at hsm ⊢
   cases o with
   | none=>exact h0 _
   | some l =>
    obtain ⟨k1,k2⟩:=hsm l rfl
    show Res (if 500 < l.length then (p0,(5:Int)) else (⟨a.vars,l⟩,0))
    rw [if_neg (by omega)]
    exact ⟨k1,by show l.length≤_; omega,.inl rfl⟩
 ·exact h0 _
end Go.Ab
namespace Go.Ab
open Go Go.IntWalk
end Go.Ab
namespace Go.Ab
open Go Go.IntWalk
theorem afP {x:Rd}:∀ {n:Nat} {c d:Rd},ad8 x n c=some d→zI d*KK ^ n=zI c*zI x ^ n
 | 0,c,d,h=>by
  cases h
  rw [Int.pow_zero,Int.pow_zero]
 | n+1,c,d,h=>by
  unfold ad8 at h
  split at h
  ·rename_i h0
   have ih:=afP h
   have hk:=CD h0
   rw [Int.pow_succ,← Int.mul_assoc,ih,Int.mul_right_comm,hk,Int.pow_succ,Int.mul_assoc,Int.mul_comm (zI x)]
  ·cases h
def pwZ:List Int→List Rd→Int
 | e::es,x::xs=>zI x ^ e.toNat*pwZ es xs
 | _,_=>1
def dg:List Int→List Rd→Nat
 | e::es,_::xs=>e.toNat+dg es xs
 | _,_=>0
theorem afV:∀ {es:List Int} {xs:List Rd} {c d:Rd},ad9 es xs c=some d→zI d*KK ^ dg es xs=zI c*pwZ es xs
 | e::es,x::xs,c,d,h=>by
  unfold ad9 at h
  rw [Option.bind_eq_some_iff] at h
  obtain ⟨y,h1,h2⟩:=h
  have k1:=afP h1
  have k2:=afV h2
  show zI d*KK ^ (e.toNat+dg es xs)=zI c*(zI x ^ e.toNat*pwZ es xs)
  rw [Nat.add_comm,Int.pow_add,← Int.mul_assoc,k2,Int.mul_right_comm,k1,Int.mul_assoc]
 | [],xs,c,d,h=>by
  cases h
  show zI c*KK ^ 0=zI c*1
  rw [Int.pow_zero]
 | _::_,[],c,d,h=>by
  cases h
  show zI c*KK ^ 0=zI c*1
  rw [Int.pow_zero]
theorem af1:∀ {es:List Int} {xs:List Rd},(∀ e ∈ es,0≤e)→(dg es xs:Int)≤bc es
 | e::es,x::xs,h=>by
  have ih:=af1 (es:=es) (xs:=xs) fun y hy=>h y (by simp [hy])
  have he:=h e (by simp)
  show ((e.toNat+dg es xs:Nat):Int)≤e+bc es
  omega
 | [],xs,h=>by show ((0:Nat):Int)≤0; decide
 | e::es,[],h=>by
  have h2:=(CE (l:=e::es) fun y hy=>h y hy).1
  show ((0:Nat):Int)≤bc (e::es)
  omega
noncomputable def ph (xs:List Rd) (u:List Int):Int:=pwZ u xs*KK ^ (32 - dg u xs)
theorem VT.dg {v:Int} {t:Rt} (vt:VT v t) (xs:List Rd):dg t.exps xs≤32:=by
 have h1:=af1 (xs:=xs) fun e he=>(vt.b e he).1
 have h2:=vt.d
 omega
theorem ahM (n:Nat):KK ^ n ≠ 0:=Int.pow_ne_zero Vw
theorem ago {w:Int} {xs:List Rd}:∀ {l:List Rt} {s:Rd},(∀ t ∈ l,VT w t)→(aeU xs l s).2=0→zI (aeU xs l s).1*KK ^ 32=zI s*KK ^ 32+bw l (ph xs)
 | [],s,_,_=>by
  show zI s*KK ^ 32=zI s*KK ^ 32+0
  omega
 | t::l,s,hv,h=>by
  have vt:=hv t (by simp)
  cases hp:ad9 t.exps xs t.c with
  | none =>
   rw [afy hp] at h
   simp at h
  | some d =>
   rw [afx hp] at h ⊢
   split at h
   ·rename_i h0
    rw [if_pos h0]
    have ih:=ago (fun x hx=>hv x (by simp [hx])) h
    have hd:=vt.dg xs
    have hk:=afV hp
    rw [ih,QJ h0,Int.add_mul,Int.add_assoc]
    congr 1
    show _=zI t.c*ph xs t.exps+bw l (ph xs)
    congr 1
    unfold ph
    rw [← Int.mul_assoc,← hk,Int.mul_assoc,← Int.pow_add]
    congr 2
    omega
   ·simp at h
theorem ad3 {a:Rp} {xs:List Rd} (oa:OkP a) (h:(acB a xs).2=0):Pv a.vars a∧zI (acB a xs).1*KK ^ 32=bw a.terms (ph xs):=by
 unfold acB at h ⊢
 split at h
 ·rename_i he
  rw [if_pos he]
  have va:vp a=true:=by
   unfold agZ at he
   rw [Bool.and_eq_true] at he
   exact he.1
  refine ⟨⟨rfl,va,oa⟩,?_⟩
  rw [ago (eJ oa va).1.t h,rf (d:=fp) rfl,Int.zero_mul,Int.zero_add]
 ·simp at h
theorem afQ {x y:Int} (h:x*KK ^ 32=y*KK ^ 32):x=y:=Int.eq_of_mul_eq_mul_right (ahM 32) h
end Go.Ab
namespace Go.Ab
open Go Go.IntWalk
set_option maxRecDepth 4000
inductive Mrg:List Rt→List Rt→List Rt→Prop
 | nil:Mrg [] [] []
 | left {A r1 r2:List Rt} {t:Rt}:Mrg A r1 r2→Mrg (t::A) (t::r1) r2
 | right {A r1 r2:List Rt} {t:Rt}:Mrg A r1 r2→Mrg (t::A) r1 (t::r2)
 | both {A r1 r2:List Rt} {t:Rt} {c d:Rd}:Mrg A r1 r2→iQ c d=(t.c,0)→Mrg (t::A) (⟨t.exps,c⟩::r1) (⟨t.exps,d⟩::r2)
theorem Mrg.mem {A r1 r2:List Rt} (h:Mrg A r1 r2):(∀ y ∈ r1,∃ t ∈ A,y.exps=t.exps)∧∀ y ∈ r2,∃ t ∈ A,y.exps=t.exps:=by
 induction h with
 | nil=>exact ⟨fun y h=>(nomatch h),fun y h=>(nomatch h)⟩
 | left h ih =>
  refine ⟨fun y hy=>?_,fun y hy=>?_⟩
  ·rcases List.mem_cons.1 hy with rfl | hy
   ·exact ⟨_,by simp,rfl⟩
   ·obtain ⟨t,ht,he⟩:=ih.1 y hy
    exact ⟨t,by simp [ht],he⟩
  ·obtain ⟨t,ht,he⟩:=ih.2 y hy
   exact ⟨t,by simp [ht],he⟩
 | right h ih =>
  refine ⟨fun y hy=>?_,fun y hy=>?_⟩
  ·obtain ⟨t,ht,he⟩:=ih.1 y hy
   exact ⟨t,by simp [ht],he⟩
  ·rcases List.mem_cons.1 hy with rfl | hy
   ·exact ⟨_,by simp,rfl⟩
   ·obtain ⟨t,ht,he⟩:=ih.2 y hy
    exact ⟨t,by simp [ht],he⟩
 | both h _ ih =>
  rename_i A r1 r2 t c d _
  refine ⟨fun y hy=>?_,fun y hy=>?_⟩
  ·rcases List.mem_cons.1 hy with rfl | hy
   ·exact ⟨t,by simp,rfl⟩
   ·obtain ⟨q,ht,he⟩:=ih.1 y hy
    exact ⟨q,by simp [ht],he⟩
  ·rcases List.mem_cons.1 hy with rfl | hy
   ·exact ⟨t,by simp,rfl⟩
   ·obtain ⟨q,ht,he⟩:=ih.2 y hy
    exact ⟨q,by simp [ht],he⟩
theorem awU {t y:Rt} {l:List Rt} (h:bj t.exps y.exps < 0):kU (t::l) y=(kU l y).map (t::·):=by
 show (if bj t.exps y.exps < 0 then _ else _)=_
 rw [if_pos h]
theorem ak8 {t:Rt}:∀ {ts l:List Rt},(∀ y ∈ ts,bj t.exps y.exps < 0)→ej (t::l) ts=(ej l ts).map (t::·)
 | [],l,_=>rfl
 | y::ts,l,h=>by
  show (kU (t::l) y).bind (fun l'=>ej l' ts)=((kU l y).bind fun l'=>ej l' ts).map (t::·)
  rw [awU (h y (by simp))]
  cases kU l y with
  | none=>rfl
  | some l'=>exact ak8 (fun q hq=>h q (by simp [hq]))
theorem awV {t:Rt}:∀ {l:List Rt},(∀ y ∈ l,bj t.exps y.exps < 0∧t.exps.length=y.exps.length)→kU l t=some (t::l)
 | [],_=>rfl
 | y::l,h=>by
  obtain ⟨h1,h2⟩:=h y (by simp)
  have h3:=sx h2
  show (if bj y.exps t.exps < 0 then _ else if bj y.exps t.exps=0 then _ else _)=_
  rw [if_neg (by omega),if_neg (by omega)]
theorem axb {v:Int} {A r1 r2:List Rt} (c:Cl v A) (h:Mrg A r1 r2):ej r1 r2=some A:=by
 induction h with
 | nil=>rfl
 | left h ih =>
  obtain ⟨vt,ht,c2⟩:=c.cons
  rw [ak8 fun y hy=>?_,ih c2]
  ·rfl
  ·obtain ⟨q,hq,he⟩:=h.mem.2 y hy
   rw [he]
   exact ht q hq
 | right h ih =>
  rename_i A r1 r2 t
  obtain ⟨vt,ht,c2⟩:=c.cons
  have hi:kU r1 t=some (t::r1):=awV fun y hy=>by
   obtain ⟨q,hq,he⟩:=h.mem.1 y hy
   rw [he]
   exact ⟨ht q hq,vt.l2 (c2.t q hq)⟩
  show (kU r1 t).bind (fun l'=>ej l' r2)=_
  rw [hi,Option.bind_some,ak8 fun y hy=>?_,ih c2]
  ·rfl
  ·obtain ⟨q,hq,he⟩:=h.mem.2 y hy
   rw [he]
   exact ht q hq
 | both h hadd ih =>
  rename_i A r1 r2 t c' d
  obtain ⟨vt,ht,c2⟩:=c.cons
  have hi:kU (⟨t.exps,c'⟩::r1) ⟨t.exps,d⟩=some (t::r1):=by
   show (if bj t.exps t.exps < 0 then _ else if bj t.exps t.exps=0 then (if (iQ c' d).2=0 then some (if (iQ c' d).1.m.length=0 then r1 else ⟨t.exps,(iQ c' d).1⟩::r1) else none) else _)=_
   rw [Mg,if_neg (by omega),if_pos rfl,hadd,if_pos rfl,if_neg vt.nz]
  show (kU (⟨t.exps,c'⟩::r1) ⟨t.exps,d⟩).bind (fun l'=>ej l' r2)=_
  rw [hi,Option.bind_some,ak8 fun y hy=>?_,ih c2]
  ·rfl
  ·obtain ⟨q,hq,he⟩:=h.mem.2 y hy
   rw [he]
   exact ht q hq
theorem awP {a:Rp} {r1 r2:List Rt} (oa:OkP a) (va:vp a=true) (h:Mrg a.terms r1 r2) (c1:Cl a.vars r1) (c2:Cl a.vars r2) (l1:r1.length≤a.terms.length) (l2:r2.length≤a.terms.length) :
  kn ⟨a.vars,r1⟩ ⟨a.vars,r2⟩=(a,0)∧vp ⟨a.vars,r1⟩=true∧vp ⟨a.vars,r2⟩=true∧OkP ⟨a.vars,r1⟩∧OkP ⟨a.vars,r2⟩:=by
 obtain ⟨ka,a0,a8,al⟩:=eJ oa va
 have v1:vp ⟨a.vars,r1⟩=true:=KM c1 a0 a8 (by omega)
 have v2:vp ⟨a.vars,r2⟩=true:=KM c2 a0 a8 (by omega)
 refine ⟨?_,v1,v2,By c1,By c2⟩
 unfold kn
 rw [if_pos (nT.2 ⟨v1,v2,rfl⟩),Hm,Hn (l:=[]) c1,Option.bind_some,List.nil_append,axb ka h]
 show (if 500 < a.terms.length then (p0,(5:Int)) else (⟨a.vars,a.terms⟩,0))=(a,0)
 rw [if_neg (by omega)]
theorem aou (o:Int):∀ A:List Rt,Mrg A (A.filter (loB o)) (A.filter (hiB o))
 | []=>.nil
 | t::A=>by
  by_cases hd:bc t.exps≤o
  ·have f1:(loB o t)=true:=decide_eq_true hd
   have f2:¬ (hiB o t)=true:=by unfold hiB; rw [decide_eq_true hd]; exact Bool.false_ne_true
   rw [List.filter_cons_of_pos f1,List.filter_cons_of_neg f2]
   exact .left (aou o A)
  ·have f1:¬ (loB o t)=true:=by unfold loB; rw [decide_eq_false hd]; exact Bool.false_ne_true
   have f2:(hiB o t)=true:=by unfold hiB; rw [decide_eq_false hd]; rfl
   rw [List.filter_cons_of_neg f1,List.filter_cons_of_pos f2]
   exact .right (aou o A)
theorem awW {c d t:Rd} (ot:Ok0 t) (vt:vd t=true) (vc:vd c=true) (vdd:vd d=true) (h:zI c+zI d=zI t):iQ c d=(t,0):=by
 unfold iQ
 rw [vc,vdd,Bool.and_self,if_pos rfl,h,tQ ot vt]
 unfold dU
 rw [if_pos]
 by_cases h0:t.m.length=0
 ·rw [xU vt h0]
  rfl
 ·exact (rQ vt h0).2.2.2
theorem awS {v:Int} {t:Rt} {c d:Rd} {A l1 l2:List Rt} (vt:VT v t) (om:Ok0 c) (vm:vd c=true) (oq:Ok0 d) (vq:vd d=true) (hz:zI d=zI t.c - zI c) (ih:Mrg A l1 l2):Mrg (t::A) (vw t.exps c l1) (vw t.exps d l2):=by
 unfold vw
 by_cases hc:c.m.length=0
 ·rw [if_pos hc]
  have hd:d=t.c:=Mf oq vt.c vq vt.vc (by rw [hz,rf hc,Int.sub_zero])
  rw [hd,if_neg vt.nz]
  exact .right ih
 ·rw [if_neg hc]
  by_cases hd:d.m.length=0
  ·rw [if_pos hd]
   have hcc:c=t.c:=Mf om vt.c vm vt.vc (by rw [rf hd] at hz; omega)
   rw [hcc]
   exact .left ih
  ·rw [if_neg hd]
   exact .both ih (awW vt.c vt.vc vm vq (by omega))
theorem awM {v p:Int}:∀ {A:List Rt} {q:List Rt × List Rt},(∀ t ∈ A,VT v t)→aj1 p A=some q→Mrg A q.1 q.2
 | [],q,_,h=>by
  cases h
  exact .nil
 | t::A,q,hv,h=>by
  have vt:=hv t (by simp)
  unfold aj1 at h
  split at h
  ·split at h
   ·rename_i h1 h2
    rw [Option.map_eq_some_iff] at h
    obtain ⟨q2,h3,rfl⟩:=h
    have ih:=awM (fun x hx=>hv x (by simp [hx])) h3
    obtain ⟨vm,om⟩:=alk t.c p
    obtain ⟨vq,oq⟩:=agz t.c (aiA t.c p).1
    exact awS vt om vm oq vq (aho vm h2) ih
   ·cases h
  ·cases h
theorem awQ:∀ {u:List Int} {xs:List Rd} {i:Nat} {c:Rd},i < u.length→xs[i]?=some c→pwZ u xs=zI c ^ (u.getD i 0).toNat*pwZ (zap u i) xs∧dg u xs=(u.getD i 0).toNat+dg (zap u i) xs
 | e::u,x::xs,0,c,_,h=>by
  cases h
  constructor
  ·show zI x ^ e.toNat*pwZ u xs=zI x ^ e.toNat*(zI x ^ 0*pwZ u xs)
   rw [Int.pow_zero,Int.one_mul]
  ·show e.toNat+dg u xs=e.toNat+((0:Int).toNat+dg u xs)
   show e.toNat+dg u xs=e.toNat+(0+dg u xs)
   omega
 | e::u,x::xs,i+1,c,hl,h=>by
  obtain ⟨h1,h2⟩:=awQ (u:=u) (xs:=xs) (i:=i) (c:=c) (by simpa using hl) (by simpa using h)
  have e0:(e::u).getD (i+1) 0=u.getD i 0:=by simp
  rw [e0]
  constructor
  ·show zI x ^ e.toNat*pwZ u xs=zI c ^ (u.getD i 0).toNat*(zI x ^ e.toNat*pwZ (zap u i) xs)
   rw [h1,Int.mul_left_comm]
  ·show e.toNat+dg u xs=(u.getD i 0).toNat+(e.toNat+dg (zap u i) xs)
   omega
 | _::_,[],_,_,_,h=>by simp at h
 | [],_,_,_,hl,_=>by simp at hl
theorem awL {v:Int} {i:Nat} {c:Rd} {xs:List Rd} (hi:(i:Int) < v) (hx:xs[i]?=some c):∀ {ts r:List Rt},(∀ t ∈ ts,VT v t)→aiZ i c ts=some r→bw r (ph xs)=bw ts (ph xs)
 | [],r,_,h=>by
  cases h
  rfl
 | t::ts,r,hv,h=>by
  have vt:=hv t (by simp)
  unfold aiZ at h
  rw [Option.bind_eq_some_iff] at h
  obtain ⟨d,h1,h2⟩:=h
  have hval:=afP h1
  obtain ⟨p1,p2⟩:=awQ (u:=t.exps) (xs:=xs) (i:=i) (c:=c) (by have:=vt.len; omega) hx
  have hd:=vt.dg xs
  have key:zI t.c*ph xs t.exps=zI d*ph xs (zap t.exps i):=by
   unfold ph
   rw [p1]
   have hk:KK ^ (32 - dg (zap t.exps i) xs)=KK ^ (t.exps.getD i 0).toNat*KK ^ (32 - dg t.exps xs):=by
    rw [← Int.pow_add]
    congr 1
    omega
   rw [hk]
   generalize (t.exps.getD i 0).toNat=n at hval ⊢
   generalize KK ^ (32 - dg t.exps xs)=K
   generalize pwZ (zap t.exps i) xs=w
   rw [Int.mul_assoc,← Int.mul_assoc (zI t.c),← hval]
   generalize KK ^ n=M
   rw [Int.mul_assoc,Int.mul_left_comm M]
  split at h2
  ·rename_i h0
   rw [awL hi hx (fun q hq=>hv q (by simp [hq])) h2]
   show bw ts (ph xs)=zI t.c*ph xs t.exps+bw ts (ph xs)
   rw [key,rf h0,Int.zero_mul,Int.zero_add]
  ·rw [Option.map_eq_some_iff] at h2
   obtain ⟨r2,h3,rfl⟩:=h2
   have ih:=awL hi hx (fun q hq=>hv q (by simp [hq])) h3
   show zI d*ph xs (zap t.exps i)+bw r2 (ph xs)=zI t.c*ph xs t.exps+bw ts (ph xs)
   rw [ih,key]
theorem awZ {a:Rp} {i:Nat} {c:Rd} {xs:List Rd} (oa:OkP a) (hx:xs[i]?=some c) (h1:(amb a (i:Int) c).2=0) (h2:(acB (amb a (i:Int) c).1 xs).2=0) (h3:(acB a xs).2=0):zI (acB (amb a (i:Int) c).1 xs).1=zI (acB a xs).1:=by
 obtain ⟨pa,e3⟩:=ad3 oa h3
 unfold amb at h1 h2 ⊢
 split at h1
 ·rename_i hv
  rw [if_pos hv] at h2 ⊢
  split at h1
  ·simp at h1
  ·rename_i hi
   rw [if_neg hi] at h2 ⊢
   rw [Int.toNat_natCast] at h1 h2 ⊢
   obtain ⟨l,hl,h5,hf⟩:=Jc h1
   rw [hf] at h2 ⊢
   rw [Option.bind_eq_some_iff] at hl
   obtain ⟨r,g1,g2⟩:=hl
   have ka:=pa.cl.t
   obtain ⟨k1,k2⟩:=amZ ka g1
   have kc:=ri (Cl.nil a.vars) k1 g2
   have e4:=(ad3 (By kc.1) h2).2
   have e5:bw l (ph xs)=bw r (ph xs):=by
    rw [Ac (f:=ph xs) (Cl.nil a.vars) k1 g2]
    show 0+_=_
    omega
   refine afQ ?_
   rw [e4,e3]
   show bw l (ph xs)=_
   rw [e5,awL (v:=a.vars) (by omega) hx ka g1]
 ·simp at h1
end Go.Ab
namespace Go.Ab
open Go Go.IntWalk
set_option maxRecDepth 4000
set_option maxHeartbeats 4000000
end Go.Ab
namespace Go.Ab
open Go Go.IntWalk
set_option maxRecDepth 4000
set_option maxHeartbeats 8000000
theorem awX {a:Rp} {o:Int} (oa:OkP a) (va:vp a=true):iP ⟨a.vars,a.terms.filter (loB o)⟩≤max o (-1)∧((a.terms.filter (hiB o)).length ≠ 0→o < iP ⟨a.vars,a.terms.filter (hiB o)⟩):=by
 obtain ⟨ka,a0,a8,al⟩:=eJ oa va
 have h1:=List.length_filter_le (loB o) a.terms
 have h2:=List.length_filter_le (hiB o) a.terms
 have v1:vp ⟨a.vars,a.terms.filter (loB o)⟩=true:=KM (ka.filter _) a0 a8 (by omega)
 have v2:vp ⟨a.vars,a.terms.filter (hiB o)⟩=true:=KM (ka.filter _) a0 a8 (by omega)
 constructor
 ·unfold iP
  rw [if_pos v1]
  show (match (a.terms.filter (loB o)).getLast? with | none=>(-1:Int) | some t=>bc t.exps)≤_
  cases h:(a.terms.filter (loB o)).getLast? with
  | none =>
   show (-1:Int)≤_
   omega
  | some t =>
   have:=List.mem_of_getLast? h
   have:=(List.mem_filter.1 this).2
   have:bc t.exps≤o:=of_decide_eq_true this
   show bc t.exps≤_
   omega
 ·intro hn
  unfold iP
  rw [if_pos v2]
  show o < (match (a.terms.filter (hiB o)).getLast? with | none=>(-1:Int) | some t=>bc t.exps)
  cases h:(a.terms.filter (hiB o)).getLast? with
  | none =>
   rw [List.getLast?_eq_none_iff] at h
   rw [h] at hn
   exact absurd rfl hn
  | some t =>
   have:=List.mem_of_getLast? h
   have:=(List.mem_filter.1 this).2
   unfold hiB at this
   have:¬ bc t.exps≤o:=fun h=>by rw [decide_eq_true h] at this; exact Bool.false_ne_true this
   show o < bc t.exps
   omega
theorem axa {a:Rp} {i:Int} {d:Rd} (oa:OkP a):OkP (amb a i d).1:=By (atV oa).cl
theorem axc {a:Rp} {o p i:Int} {xs:List Rd} (haw:R F.l23_awake [] []=some (B true,[])) (oa:∀ t ∈ a.terms,Ok0 t.c) (la:a.terms.length < 4611686018427387904) (ox:∀ d ∈ xs,Ok0 d) (lx:xs.length < 4611686018427387904) :
  R F.l23_PolyHalves [bm a,I o,I p,I i,x8 xs] []=some (B true,[]):=by
 refine aZ awD auS (alB false) rfl ?_
 have hg:=OO (l:=[a]) (by simp) (fun x hx=>by simp at hx; subst hx; exact la)
 simp only [xx,Ji,List.map_cons,List.map_nil] at hg
 cases h:[a].any mT with
 | true =>
  rw [h] at hg
  simp only [ro,sp,bm,x8,go_sem,↓reduceIte,aez,aeB,aeA,aeC,aeE,haw,hg]
  done
 | false =>
  rw [h] at hg
  simp only [List.any_cons,List.any_nil,Bool.or_false] at h
  have ka:=HC oa h
  have hlo:=ags (l:=xs)
  cases h4:afz xs with
  | true =>
   rw [h4] at hlo
   simp only [ro,sp,bm,x8,go_sem,↓reduceIte,aez,aeB,aeA,aeC,aeE,haw,hg,hlo]
   done
  | false =>
   rw [h4] at hlo
   have hlx:xs.length≤100000:=by
    unfold afz at h4
    rw [Bool.or_eq_false_iff,decide_eq_false_iff_not] at h4
    omega
   have hv:=nR ka
   cases va:vp a with
   | false =>
    rw [va] at hv
    simp only [bm] at hv
    simp only [ro,sp,bm,x8,go_sem,↓reduceIte,aez,aeB,aeA,aeC,aeE,haw,hg,hlo,hv]
    done
   | true =>
    rw [va] at hv
    obtain ⟨kc,a0,a8,al⟩:=eJ ka va
    have q1:=asc ka (o:=o)
    have hsp:ajm a o=(⟨a.vars,a.terms.filter (loB o)⟩,⟨a.vars,a.terms.filter (hiB o)⟩):=by
     unfold ajm
     rw [if_pos va]
    rw [hsp] at q1
    have n1:=List.length_filter_le (loB o) a.terms
    have n2:=List.length_filter_le (hiB o) a.terms
    obtain ⟨s1,s2,s3,s4,s5⟩:=awP ka va (aou o a.terms) (kc.filter _) (kc.filter _) n1 n2
    have q2:=CJ s4 s5
    rw [s1] at q2
    have qe:=HG ka ka
    rw [(MA ka ka).2 ⟨va,va,rfl⟩] at qe
    have g1:=Dj s4
    have g2:=Dj s5
    obtain ⟨d1,d2⟩:=awX ka va (o:=o)
    generalize a.terms.filter (loB o)=r1 at *
    generalize a.terms.filter (hiB o)=r2 at *
    have e1:((if o < -1 then (-1:Int) else o) < iP ⟨a.vars,r1⟩)=False:=eq_false (by split <;> omega)
    generalize iP ⟨a.vars,r1⟩=w1 at *
    generalize iP ⟨a.vars,r2⟩=w2 at *
    have hround:∃ (z1 z2:Rp) (e:Int),R F.poly_Round [bm a,I p] []=some (.tup [bm z1,bm z2,I e],[])∧(e ≠ 0∨(e=0∧R F.poly_Add [bm z1,bm z2] []=some (pV (a,0),[]))):=by
     have q3:=ash ka (p:=p)
     refine ⟨_,_,_,q3,?_⟩
     unfold ajT
     rw [if_pos va]
     by_cases hp:p < 8∨512 < p
     ·rw [if_pos hp]
      exact .inl (by show (2:Int) ≠ 0; decide)
     ·rw [if_neg hp]
      cases hr:aj1 p a.terms with
      | none=>exact .inl (by show (9:Int) ≠ 0; decide)
      | some q =>
       obtain ⟨⟨k1,k2,_⟩,⟨k3,k4,_⟩⟩:=apP kc hr
       obtain ⟨t1,_,_,t4,t5⟩:=awP ka va (awM kc.t hr) k1 k3 k2 k4
       have t6:=CJ t4 t5
       rw [t1] at t6
       exact .inr ⟨rfl,t6⟩
    obtain ⟨z1,z2,e,q3,hre⟩:=hround
    simp only [ppV,pV,bm] at q1 q2 q3 qe g1 g2 hv
    have htail:0≤i→i < (xs.length:Int)→∃ x,bH (Ma xs) i=some (.ipt (aW x))∧R F.poly_Fix [bm a,I i,aF x] []=some (pV (amb a i x),[])∧R F.poly_Eval [bm (amb a i x).1,x8 xs] []=some (rV (acB (amb a i x).1 xs),[])∧R F.poly_Eval [bm a,x8 xs] []=some (rV (acB a xs),[])∧((amb a i x).2=0→(acB (amb a i x).1 xs).2=0→(acB a xs).2=0→R F.l23_number [aF (acB (amb a i x).1 xs).1,aF (acB a xs).1] []=some (B true,[])):=by
     intro i0 i1
     obtain ⟨j,rfl⟩:=Int.eq_ofNat_of_zero_le i0
     have hlt:j < xs.length:=by omega
     refine ⟨xs[j],ahl rfl (List.getElem?_eq_getElem hlt),atT ka (ox _ (List.getElem_mem hlt)),afG (axa ka) ox hlx,afG ka ox hlx,fun k1 k2 k3=>?_⟩
     have hz:=awZ ka (List.getElem?_eq_getElem hlt) k1 k2 k3
     obtain ⟨m1,m2⟩:=aff (amb a (j:Int) xs[j]).1 xs
     obtain ⟨m3,m4⟩:=aff a xs
     rw [Mf m2 m4 m1 m3 hz]
     exact ahu (Nat.le_trans (xi m3 m4.lb) (by decide))
    rcases hre with hre | ⟨hre,q4⟩
    ·have e4:(e=0)=False:=eq_false hre
     by_cases h2:r2.length=0
     ·have e2:(0 < (r2.length:Int))=False:=ff (by omega)
      by_cases i0:i < 0
      ·have f1:(i < 0)=True:=eq_true i0
       simp only [ro,sp,bm,x8,go_sem,↓reduceIte,aez,aeB,aeA,aeC,aeE,haw,hg,hlo,hv,q1,q2,qe,g1,e1,q3,e4,e2,f1]
       done
      have f1:(i < 0)=False:=eq_false i0
      by_cases i1:(xs.length:Int)≤i
      ·have f2:((xs.length:Int)≤i)=True:=eq_true i1
       simp only [ro,sp,bm,x8,go_sem,↓reduceIte,aez,aeB,aeA,aeC,aeE,haw,hg,hlo,hv,q1,q2,qe,g1,e1,q3,e4,e2,f1,f2]
       done
      have f2:((xs.length:Int)≤i)=False:=eq_false i1
      obtain ⟨x,q5,q6,q7,q8,hnum⟩:=htail (by omega) (by omega)
      generalize amb a i x=fx at *
      generalize acB fx.1 xs=u at *
      generalize acB a xs=v at *
      obtain ⟨u1,u2⟩:=u
      obtain ⟨y1,y2⟩:=v
      obtain ⟨fx,fe⟩:=fx
      simp only [pV,rV,bm,x8,aF,aW] at q5 q6 q7 q8
      by_cases w0:fe=0
      ·have f3:(fe=0)=True:=eq_true w0
       by_cases w1':u2=0
       ·have f4:(u2=0)=True:=eq_true w1'
        by_cases w2':y2=0
        ·have f5:(y2=0)=True:=eq_true w2'
         have q9:=hnum w0 w1' w2'
         simp only [aF,aW] at q9
         simp only [ro,sp,bm,x8,go_sem,↓reduceIte,aez,aeB,aeA,aeC,aeE,aeD,haw,hg,hlo,hv,q1,q2,qe,g1,e1,q3,e4,e2,f1,f2,q5,q6,q7,q8,f3,f4,f5,q9]
         done
        ·have f5:(y2=0)=False:=eq_false w2'
         simp only [ro,sp,bm,x8,go_sem,↓reduceIte,aez,aeB,aeA,aeC,aeE,aeD,haw,hg,hlo,hv,q1,q2,qe,g1,e1,q3,e4,e2,f1,f2,q5,q6,q7,q8,f3,f4,f5]
         done
       ·have f4:(u2=0)=False:=eq_false w1'
        simp only [ro,sp,bm,x8,go_sem,↓reduceIte,aez,aeB,aeA,aeC,aeE,aeD,haw,hg,hlo,hv,q1,q2,qe,g1,e1,q3,e4,e2,f1,f2,q5,q6,q7,q8,f3,f4]
        done
      ·have f3:(fe=0)=False:=eq_false w0
       simp only [ro,sp,bm,x8,go_sem,↓reduceIte,aez,aeB,aeA,aeC,aeE,aeD,haw,hg,hlo,hv,q1,q2,qe,g1,e1,q3,e4,e2,f1,f2,q5,q6,q7,q8,f3]
       done
     ·have e2:(0 < (r2.length:Int))=True:=tt (by omega)
      have e3:(w2≤o)=False:=eq_false (by have:=d2 h2; omega)
      by_cases i0:i < 0
      ·have f1:(i < 0)=True:=eq_true i0
       simp only [ro,sp,bm,x8,go_sem,↓reduceIte,aez,aeB,aeA,aeC,aeE,haw,hg,hlo,hv,q1,q2,qe,g1,g2,e1,q3,e4,e2,e3,f1]
       done
      have f1:(i < 0)=False:=eq_false i0
      by_cases i1:(xs.length:Int)≤i
      ·have f2:((xs.length:Int)≤i)=True:=eq_true i1
       simp only [ro,sp,bm,x8,go_sem,↓reduceIte,aez,aeB,aeA,aeC,aeE,haw,hg,hlo,hv,q1,q2,qe,g1,g2,e1,q3,e4,e2,e3,f1,f2]
       done
      have f2:((xs.length:Int)≤i)=False:=eq_false i1
      obtain ⟨x,q5,q6,q7,q8,hnum⟩:=htail (by omega) (by omega)
      generalize amb a i x=fx at *
      generalize acB fx.1 xs=u at *
      generalize acB a xs=v at *
      obtain ⟨u1,u2⟩:=u
      obtain ⟨y1,y2⟩:=v
      obtain ⟨fx,fe⟩:=fx
      simp only [pV,rV,bm,x8,aF,aW] at q5 q6 q7 q8
      by_cases w0:fe=0
      ·have f3:(fe=0)=True:=eq_true w0
       by_cases w1':u2=0
       ·have f4:(u2=0)=True:=eq_true w1'
        by_cases w2':y2=0
        ·have f5:(y2=0)=True:=eq_true w2'
         have q9:=hnum w0 w1' w2'
         simp only [aF,aW] at q9
         simp only [ro,sp,bm,x8,go_sem,↓reduceIte,aez,aeB,aeA,aeC,aeE,aeD,haw,hg,hlo,hv,q1,q2,qe,g1,g2,e1,q3,e4,e2,e3,f1,f2,q5,q6,q7,q8,f3,f4,f5,q9]
         done
        ·have f5:(y2=0)=False:=eq_false w2'
         simp only [ro,sp,bm,x8,go_sem,↓reduceIte,aez,aeB,aeA,aeC,aeE,aeD,haw,hg,hlo,hv,q1,q2,qe,g1,g2,e1,q3,e4,e2,e3,f1,f2,q5,q6,q7,q8,f3,f4,f5]
         done
       ·have f4:(u2=0)=False:=eq_false w1'
        simp only [ro,sp,bm,x8,go_sem,↓reduceIte,aez,aeB,aeA,aeC,aeE,aeD,haw,hg,hlo,hv,q1,q2,qe,g1,g2,e1,q3,e4,e2,e3,f1,f2,q5,q6,q7,q8,f3,f4]
        done
      ·have f3:(fe=0)=False:=eq_false w0
       simp only [ro,sp,bm,x8,go_sem,↓reduceIte,aez,aeB,aeA,aeC,aeE,aeD,haw,hg,hlo,hv,q1,q2,qe,g1,g2,e1,q3,e4,e2,e3,f1,f2,q5,q6,q7,q8,f3]
       done
    ·have e4:(e=0)=True:=eq_true hre
     simp only [pV,bm] at q4
     by_cases h2:r2.length=0
     ·have e2:(0 < (r2.length:Int))=False:=ff (by omega)
      by_cases i0:i < 0
      ·have f1:(i < 0)=True:=eq_true i0
       simp only [ro,sp,bm,x8,go_sem,↓reduceIte,aez,aeB,aeA,aeC,aeE,haw,hg,hlo,hv,q1,q2,qe,g1,e1,q3,e4,q4,e2,f1]
       done
      have f1:(i < 0)=False:=eq_false i0
      by_cases i1:(xs.length:Int)≤i
      ·have f2:((xs.length:Int)≤i)=True:=eq_true i1
       simp only [ro,sp,bm,x8,go_sem,↓reduceIte,aez,aeB,aeA,aeC,aeE,haw,hg,hlo,hv,q1,q2,qe,g1,e1,q3,e4,q4,e2,f1,f2]
       done
      have f2:((xs.length:Int)≤i)=False:=eq_false i1
      obtain ⟨x,q5,q6,q7,q8,hnum⟩:=htail (by omega) (by omega)
      generalize amb a i x=fx at *
      generalize acB fx.1 xs=u at *
      generalize acB a xs=v at *
      obtain ⟨u1,u2⟩:=u
      obtain ⟨y1,y2⟩:=v
      obtain ⟨fx,fe⟩:=fx
      simp only [pV,rV,bm,x8,aF,aW] at q5 q6 q7 q8
      by_cases w0:fe=0
      ·have f3:(fe=0)=True:=eq_true w0
       by_cases w1':u2=0
       ·have f4:(u2=0)=True:=eq_true w1'
        by_cases w2':y2=0
        ·have f5:(y2=0)=True:=eq_true w2'
         have q9:=hnum w0 w1' w2'
         simp only [aF,aW] at q9
         simp only [ro,sp,bm,x8,go_sem,↓reduceIte,aez,aeB,aeA,aeC,aeE,aeD,haw,hg,hlo,hv,q1,q2,qe,g1,e1,q3,e4,q4,e2,f1,f2,q5,q6,q7,q8,f3,f4,f5,q9]
         done
        ·have f5:(y2=0)=False:=eq_false w2'
         simp only [ro,sp,bm,x8,go_sem,↓reduceIte,aez,aeB,aeA,aeC,aeE,aeD,haw,hg,hlo,hv,q1,q2,qe,g1,e1,q3,e4,q4,e2,f1,f2,q5,q6,q7,q8,f3,f4,f5]
         done
       ·have f4:(u2=0)=False:=eq_false w1'
        simp only [ro,sp,bm,x8,go_sem,↓reduceIte,aez,aeB,aeA,aeC,aeE,aeD,haw,hg,hlo,hv,q1,q2,qe,g1,e1,q3,e4,q4,e2,f1,f2,q5,q6,q7,q8,f3,f4]
        done
      ·have f3:(fe=0)=False:=eq_false w0
       simp only [ro,sp,bm,x8,go_sem,↓reduceIte,aez,aeB,aeA,aeC,aeE,aeD,haw,hg,hlo,hv,q1,q2,qe,g1,e1,q3,e4,q4,e2,f1,f2,q5,q6,q7,q8,f3]
       done
     ·have e2:(0 < (r2.length:Int))=True:=tt (by omega)
      have e3:(w2≤o)=False:=eq_false (by have:=d2 h2; omega)
      by_cases i0:i < 0
      ·have f1:(i < 0)=True:=eq_true i0
       simp only [ro,sp,bm,x8,go_sem,↓reduceIte,aez,aeB,aeA,aeC,aeE,haw,hg,hlo,hv,q1,q2,qe,g1,g2,e1,q3,e4,q4,e2,e3,f1]
       done
      have f1:(i < 0)=False:=eq_false i0
      by_cases i1:(xs.length:Int)≤i
      ·have f2:((xs.length:Int)≤i)=True:=eq_true i1
       simp only [ro,sp,bm,x8,go_sem,↓reduceIte,aez,aeB,aeA,aeC,aeE,haw,hg,hlo,hv,q1,q2,qe,g1,g2,e1,q3,e4,q4,e2,e3,f1,f2]
       done
      have f2:((xs.length:Int)≤i)=False:=eq_false i1
      obtain ⟨x,q5,q6,q7,q8,hnum⟩:=htail (by omega) (by omega)
      generalize amb a i x=fx at *
      generalize acB fx.1 xs=u at *
      generalize acB a xs=v at *
      obtain ⟨u1,u2⟩:=u
      obtain ⟨y1,y2⟩:=v
      obtain ⟨fx,fe⟩:=fx
      simp only [pV,rV,bm,x8,aF,aW] at q5 q6 q7 q8
      by_cases w0:fe=0
      ·have f3:(fe=0)=True:=eq_true w0
       by_cases w1':u2=0
       ·have f4:(u2=0)=True:=eq_true w1'
        by_cases w2':y2=0
        ·have f5:(y2=0)=True:=eq_true w2'
         have q9:=hnum w0 w1' w2'
         simp only [aF,aW] at q9
         simp only [ro,sp,bm,x8,go_sem,↓reduceIte,aez,aeB,aeA,aeC,aeE,aeD,haw,hg,hlo,hv,q1,q2,qe,g1,g2,e1,q3,e4,q4,e2,e3,f1,f2,q5,q6,q7,q8,f3,f4,f5,q9]
         done
        ·have f5:(y2=0)=False:=eq_false w2'
         simp only [ro,sp,bm,x8,go_sem,↓reduceIte,aez,aeB,aeA,aeC,aeE,aeD,haw,hg,hlo,hv,q1,q2,qe,g1,g2,e1,q3,e4,q4,e2,e3,f1,f2,q5,q6,q7,q8,f3,f4,f5]
         done
       ·have f4:(u2=0)=False:=eq_false w1'
        simp only [ro,sp,bm,x8,go_sem,↓reduceIte,aez,aeB,aeA,aeC,aeE,aeD,haw,hg,hlo,hv,q1,q2,qe,g1,g2,e1,q3,e4,q4,e2,e3,f1,f2,q5,q6,q7,q8,f3,f4]
        done
      ·have f3:(fe=0)=False:=eq_false w0
       simp only [ro,sp,bm,x8,go_sem,↓reduceIte,aez,aeB,aeA,aeC,aeE,aeD,haw,hg,hlo,hv,q1,q2,qe,g1,g2,e1,q3,e4,q4,e2,e3,f1,f2,q5,q6,q7,q8,f3]
       done
end Go.Ab
namespace Go.Ab
open Go Go.IntWalk
set_option maxRecDepth 4000
set_option maxHeartbeats 1000000
def sW:Env:=⟨fun f=>ER.lookup f,au.C,au.md⟩
noncomputable def R0:cT:=cR sW
theorem tV {f:FuncId} {fd:FD} {args:List AV} {hs:List Ob} {r:AV × List Ob} (hE:sW.E f=none) (hC:sW.C f=some fd) (hk:sW.md.keep f=false) (h1:args.length=fd.np) (h2:hs.length≤1000)
  (hz:ajf false fd.rs fd.res hs.length (az R0 (ab false) fd.body (pi args) (ae hs))=some r):R0 f args hs=some r:=by
 refine wL hE hC ?_
 unfold FW
 rw [if_pos ⟨h1,h2⟩,hk]
 exact hz
theorem oR (o:Ob):ae [o]=upd (fun _=>.dead) 1000 o:=by
 funext i
 unfold ae upd
 by_cases h:i=1000
 ·subst h
  rfl
 ·rw [if_neg h]
  split
  ·rw [List.getElem?_eq_none (by simp; omega)]
   rfl
  ·rfl
theorem OW {r:List AV} {rs:List (List AV)} (h:(rs.length+1)*8≤140737488355328):R0 F.slices_Clone_int_int_ [.sl 1 (r::rs)] []=some (.osl 1 (r::rs),[]):=by
 refine tV (fd:=dY) (by kernel_rfl) (by kernel_rfl) (by kernel_rfl) rfl (by decide) ?_
 have e1:((rs.length+1)*8≤140737488355328)=True:=eq_true h
 have e2:xC false (.sl 1 (r::rs))=some (B false):=rfl
 simp only [dY,mu,go_sem,↓reduceIte,aez,aeC,aeE,e1,e2,List.length_cons,List.length_nil,Nat.zero_add,Nat.zero_le,Nat.le_refl,true_and,true_or,List.nil_append]
theorem OX:dK 4 .emp (some (I 0)) none none=some .emp:=rfl
theorem QZ {r:List AV}:R0 F.slices_Insert_api_Term_api_Term_ [.emp,I 0,.sl 4 [r]] []=some (.osl 4 [r],[]):=by
 refine tV (fd:=aH) (by kernel_rfl) (by kernel_rfl) (by kernel_rfl) rfl (by decide) ?_
 have e1:((1:Int)=0)=False:=by decide
 simp only [aH,bE,go_sem,↓reduceIte,aez,aeB,aeA,aeC,aeE,OX,List.length_cons,List.length_nil,Int.natCast_one,e1,Nat.zero_add]
theorem pL {n i:Nat} (h:i≤n):ia n (some (I i)) none none=some (i,n):=by
 simp only [ia,gJ,Option.bind_some]
 rw [if_pos ⟨by omega,by omega⟩]
 rfl
theorem MD {id k l0 n i:Nat} (h:i≤n):dK k (.rsl id none k l0 n) (some (I i)) none none=some (.rsl id none k (l0+i) (n - i)):=by
 simp only [dK,if_true,pL h,Option.map_some,Option.isNone_none]
theorem CN {h:aa} {j k n:Nat} {rows:List (List AV)} (hj:aG j=false) (hh:h j=.ar k rows) (hn:n=rows.length) (hc:aB [1000] (h 1000)=true):n9 [[]] 1 h [.rsl j none k 0 n]=some (.osl k rows,[h 1000]):=by
 subst hn
 have hp:bU 1=[1000]:=rfl
 unfold n9
 rw [if_pos]
 ·simp [lX,lA,ge,hj,hh,qq,kX,aM,nrmV,nrmL,hp]
 ·simp [hp,hc,fw,bk,cP,hj]
theorem ME {r:List AV} {rows:List (List AV)} {n:Nat} (hn:n=rows.length) (hb:(n+1)*64≤140737488355328):R0 F.slices_Insert_api_Term_api_Term_ [.rsl 1000 none 4 0 n,I n,.sl 4 [r]] [.ar 4 rows]=some (.osl 4 (rows++[r]),[.dead]):=by
 refine tV (fd:=aH) (by kernel_rfl) (by kernel_rfl) (by kernel_rfl) rfl (by simp) ?_
 subst hn
 rw [oR]
 have e1:((1:Int)=0)=False:=by decide
 have e2:=MD (id:=1000) (k:=4) (l0:=0) (Nat.le_refl rows.length)
 have e3:((rows.length+1)*64≤140737488355328)=True:=eq_true hb
 have e4:(rows.length+1≤rows.length)=False:=eq_false (by omega)
 have e5:∀ h,yL h 25 4 64 1000 4 0 rows.length [r] 4 rows=bR (upd h 1000 .dead) 25 4 (rows++[r]) (rows.length+1) [(1000,false)]:=fun h=>by
  simp only [yL,List.length_singleton]
  rw [if_neg (by omega),if_pos ⟨trivial,trivial,trivial,trivial,hb⟩]
 simp only [aH,bE,go_sem,↓reduceIte,aez,aeB,aeA,aeC,aeE,List.length_cons,List.length_nil,Int.natCast_one,e1,e2,e3,e4,e5,Nat.zero_add,Nat.add_zero,Nat.sub_self,or_self,Nat.le_refl,List.length_append]
 exact CN rfl rfl (by simp) rfl
theorem SN {f:FuncId} {g:List AV→List Ob→Option (AV × List Ob)} {args:List AV} {hs:List Ob} (hE:sW.E f=some g):R0 f args hs=g args hs:=uH hE
theorem Q0 {h:aa} {d:Nat} {r:List AV} {rows:List (List AV)} {lo m:Nat} (hh:h 1000=.ar 4 rows) (hd:h (2000+8*d)=.dead) :
  aj R0 (ab false) h d [.sl 4 [r],.rsl 1000 none 4 lo m] (.fn F.slices_overlaps_api_Term_ [] [])=some (B false,upd h 1000 (.ar 4 rows),[(1000,true)]):=by
 have hm:(ab false).m F.slices_overlaps_api_Term_=[0,1]:=by kernel_rfl
 have hs:(ab false).sh F.slices_overlaps_api_Term_=[]:=by kernel_rfl
 have hk:(ab false).keep F.slices_overlaps_api_Term_=false:=by kernel_rfl
 have hf:R0 F.slices_overlaps_api_Term_ [.sl 4 [r],.rsl 1000 none 4 lo m] [.ar 4 rows]=some (B false,[.ar 4 rows]):=by
  rw [SN (g:=IK 4) (by kernel_rfl)]
  simp [IK]
 have hb:jJ (ab false) [.sl 4 [r],.rsl 1000 none 4 lo m] (.fn F.slices_overlaps_api_Term_ [] [])=false:=by
  simp [jJ,hm]
 have hr:bM h 40 [1000] 0=[1000]:=by
  simp [bM,hh,ug,bp]
 have hn:ch (B false)=1:=rfl
 unfold aj
 rw [if_neg (by rw [hb]; exact Bool.false_ne_true)]
 have h1:ah h [0,1] [.sl 4 [r],.rsl 1000 none 4 lo m]=some ([.sl 4 [r],.rsl 1000 none 4 lo m],h,[]):=by
  simp [ah,bP,mK,dv,ak]
 have h2:bp [] ([AV.sl 4 [r],.rsl 1000 none 4 lo m].flatMap bk)=[1000]:=by
  simp [bk,cP,bp]
 have h3:aV [1000] 1000=1000:=rfl
 simp only [dq,hm,List.nil_append,List.append_nil,h1,Option.bind_some,h2,hr,hs]
 simp [jI,aM,aJ,aO,hh,aB,cz,cQ,fZ,h3,cD,hf,et,hn,cr,hd,cU,bf,mU,uj,kV,cP,eE,da,rl,cB,mat,bW,dF,hk,ui,hm]
theorem Ds {id k l0 n i:Nat}:dK k (.rsl id none k l0 n) (some (I i)) none none=(ia n (some (I i)) none none).map fun p=>.rsl id none k (l0+p.1) (p.2 - p.1):=by
 simp only [dK,if_true,Option.isNone_none]
theorem MF {n c i:Nat} (h:i≤c):gJ n c (some (I i))=some i:=by
 simp only [gJ]
 rw [if_pos ⟨by omega,by omega⟩]
 rfl
theorem Q1 {r:List AV} {rows:List (List AV)} {n i:Nat} (hn:n=rows.length) (hi:i < n) (hb:(n+1)*64≤140737488355328) :
  R0 F.slices_Insert_api_Term_api_Term_ [.rsc 1000 4 0 n n,I i,.sl 4 [r]] [.ar 4 rows]=some (.osl 4 (rows.take i++r::rows.drop i),[.ar 4 rows]):=by
 refine tV (fd:=aH) (by kernel_rfl) (by kernel_rfl) (by kernel_rfl) rfl (by simp) ?_
 rw [oR]
 have e1:((1:Int)=0)=False:=by decide
 have e2:((i:Int)=(n:Int))=False:=eq_false (by omega)
 have e3:IntKind.i64.wrap ((n:Int)+1)=((n+1:Nat):Int):=wi (by omega) (by omega)
 have e4:((n:Int) < ((n+1:Nat):Int))=True:=eq_true (by omega)
 have e5:IntKind.i64.wrap (((n+1:Nat):Int) - (i:Int))=((n+1 - i:Nat):Int):=wi (by omega) (by omega)
 have e6:IntKind.i64.wrap ((i:Int)+1)=((i+1:Nat):Int):=wi (by omega) (by omega)
 have b1:=pL (n:=n) (i:=i) (by omega)
 have b2:=MF (n:=n) (c:=n) (i:=i) (by omega)
 have b3:=pL (n:=n+1) (i:=i) (by omega)
 have b4:=pL (n:=n+1) (i:=i+1) (by omega)
 have f1:((0:Int) < ((n+1 - i:Nat):Int))=True:=eq_true (by omega)
 have f2:(n < i+((n+1 - i:Nat):Int).toNat)=True:=eq_true (by omega)
 have f3:i+((n+1 - i:Nat):Int).toNat=n+1:=by omega
 have f4:(i≤rows.length)=True:=eq_true (by omega)
 have f5:((n+1)*64≤140737488355328)=True:=eq_true hb
 have f6:(n < n+1)=True:=eq_true (by omega)
 obtain ⟨A,hA⟩:∃ A,rows.take i++List.replicate ((n+1 - i:Nat):Int).toNat [AV.emp,B false,AV.emp,I 0]=A:=⟨_,rfl⟩
 have a1:A.length=n+1:=by rw [← hA,List.length_append,List.length_take,List.length_replicate]; omega
 have a2:A.take i=rows.take i:=by
  rw [← hA,List.take_append_of_le_length (by rw [List.length_take]; omega),List.take_of_length_le (by rw [List.length_take]; omega)]
 have a3:(i≤A.length)=True:=eq_true (by omega)
 obtain ⟨D,hD⟩:∃ D,A.take i++[r]++A.drop (i+1)=D:=⟨_,rfl⟩
 have d1:D.length=n+1:=by
  rw [← hD,List.length_append,List.length_append,List.length_take,List.length_drop,List.length_singleton]
  omega
 have d2:D.take (i+1)=rows.take i++[r]:=by
  rw [← hD,a2,List.take_append_of_le_length (by rw [List.length_append,List.length_take,List.length_singleton]; omega),List.take_of_length_le (by rw [List.length_append,List.length_take,List.length_singleton]; omega)]
 have d3:(i+1≤D.length)=True:=eq_true (by omega)
 have t1:List.take (n+1 - i) [r]=[r]:=List.take_of_length_le (by rw [List.length_singleton]; omega)
 have t2:(rows.drop i).take (n - i)=rows.drop i:=List.take_of_length_le (by rw [List.length_drop]; omega)
 have t3:(1=min 1 (n+1 - i))=True:=eq_true (by omega)
 have t4:n+1 - (i+1)=n - i:=by omega
 have t5:(i+(n - i)≤rows.length)=True:=eq_true (by omega)
 have t6:(rows.drop i).length=n - i:=by rw [List.length_drop]; omega
 have t7:D.drop (i+1+(n - i))=[]:=List.drop_eq_nil_of_le (by omega)
 simp only [aH,bE,go_sem,↓reduceIte,aez,aeB,aeA,aeC,aeE,List.length_cons,List.length_nil,Int.natCast_one,e1,e2,e3,e4,e5,e6,b1,b2,b3,b4,f1,f2,f3,f4,f5,f6,hA,hD,a3,d3,t1,t2,t3,t4,t5,t6,t7,Nat.min_self,Nat.zero_add,Nat.add_zero,Nat.sub_self,or_self,Nat.le_refl,Ds,and_self]
 rw [d2]
 have hfin:rows.take i++[r]++rows.drop i=rows.take i++r::rows.drop i:=by rw [List.append_assoc]; rfl
 rw [hfin]
 exact CN rfl rfl (by rw [List.length_append,List.length_take,List.length_cons,List.length_drop]; omega) rfl
theorem Q2 {r:List AV} {rows:List (List AV)} {n i c:Nat} (hn:n=rows.length) (hi:i < n) (hc:n+1≤c) (hb:(n+1)*64≤140737488355328) :
  R0 F.slices_Insert_api_Term_api_Term_ [.rsc 1000 4 0 n c,I i,.sl 4 [r]] [.ar 4 rows]=some (.osl 4 (rows.take i++r::rows.drop i),[.dead]):=by
 refine tV (fd:=aH) (by kernel_rfl) (by kernel_rfl) (by kernel_rfl) rfl (by simp) ?_
 rw [oR]
 have e1:((1:Int)=0)=False:=by decide
 have e2:((i:Int)=(n:Int))=False:=eq_false (by omega)
 have e3:IntKind.i64.wrap ((n:Int)+1)=((n+1:Nat):Int):=wi (by omega) (by omega)
 have e4:((c:Int) < ((n+1:Nat):Int))=False:=eq_false (by omega)
 have e6:IntKind.i64.wrap ((i:Int)+1)=((i+1:Nat):Int):=wi (by omega) (by omega)
 have b1:=pL (n:=n) (i:=i) (by omega)
 have b2:=MF (n:=n) (c:=c) (i:=n+1) hc
 have b3:=pL (n:=n+1) (i:=i) (by omega)
 have b4:=pL (n:=n+1) (i:=i+1) (by omega)
 have o1:=fun (h:aa) (h0:h 1000=.ar 4 rows) (h1:h (2000+8*67)=.dead)=>Q0 (r:=r) (lo:=i+1) (m:=n - i) h0 h1
 have t1:List.take (n+1 - i) [r]=[r]:=List.take_of_length_le (by rw [List.length_singleton]; omega)
 have t2:(rows.drop i).take (n - i)=rows.drop i:=List.take_of_length_le (by rw [List.length_drop]; omega)
 have t3:(1=min 1 (n+1 - i))=True:=eq_true (by omega)
 have t4:n+1 - (i+1)=n - i:=by omega
 have t5:(i+(n - i)≤rows.length)=True:=eq_true (by omega)
 have t6:(rows.drop i).length=n - i:=by rw [List.length_drop]; omega
 have t8:min (n - i) (n+1 - i)=n - i:=by omega
 have t9:(n - i=min (n+1 - i) (n - i))=True:=eq_true (by omega)
 have f4:(i+1≤rows.length)=True:=eq_true (by omega)
 have t7:rows.drop (i+1+(n - i))=[]:=List.drop_eq_nil_of_le (by omega)
 obtain ⟨A,hA⟩:∃ A,rows.take (i+1)++rows.drop i=A:=⟨_,rfl⟩
 have a1:A.length=n+1:=by
  rw [← hA,List.length_append,List.length_take,List.length_drop]
  omega
 have a2:A.take i=rows.take i:=by
  rw [← hA,List.take_append_of_le_length (by rw [List.length_take]; omega),List.take_take,Nat.min_eq_left (by omega)]
 have a4:A.drop (i+1)=rows.drop i:=by
  rw [← hA,List.drop_append_of_le_length (by rw [List.length_take]; omega),List.drop_eq_nil_of_le (by rw [List.length_take]; omega),List.nil_append]
 have a3:(i≤A.length)=True:=eq_true (by omega)
 simp only [aH,bE,go_sem,↓reduceIte,aez,aeB,aeA,aeC,aeE,List.length_cons,List.length_nil,Int.natCast_one,e1,e2,e3,e4,e6,b1,b2,b3,b4,t4,Nat.zero_add]
 rw [o1 _ rfl rfl]
 simp only [go_sem,↓reduceIte,aez,aeB,aeA,aeC,aeE,aeD,List.length_cons,List.length_nil,Int.natCast_one,e1,e2,e3,e4,e6,b1,b2,b3,b4,t1,t2,t3,t4,t5,t6,t7,t8,t9,f4,a3,hA,Nat.zero_add,Nat.add_zero,Nat.sub_self,or_self,Nat.le_refl,Ds,and_self]
 rw [a2,a4,show rows.take i++[r]++rows.drop i=rows.take i++r::rows.drop i by rw [List.append_assoc]; rfl]
 exact CN rfl rfl (by rw [List.length_append,List.length_take,List.length_cons,List.length_drop]; omega) rfl
def vL (c1 c2:cT):Prop:=∀ f a hs r,c1 f a hs=some r→c2 f a hs=some r
section
variable {c1 c2:cT} {md:Mode}
theorem Ip (hc:vL c1 c2) {h:aa} {d:Nat} {zas:List AV} {f:AV} {r:R3} (hz:dq c1 md h d zas f=some r):dq c2 md h d zas f=some r:=by
 cases f <;> simp only [dq] at hz ⊢ <;> try (cases hz; done)
 simp only [Option.bind_eq_some_iff] at hz ⊢
 obtain ⟨p,e1,e2⟩:=hz
 unfold jI at e2 ⊢
 split at e2
 ·rename_i hcc
  simp only [Option.bind_eq_some_iff] at e2
  obtain ⟨q,e3,e4⟩:=e2
  refine ⟨p,e1,?_⟩
  rw [if_pos hcc]
  simp only [Option.bind_eq_some_iff]
  exact ⟨q,hc _ _ _ _ e3,e4⟩
 ·cases e2
theorem BB (hc:vL c1 c2) {h:aa} {d:Nat} {zas:List AV} {f:AV} {r:R3} (hz:aj c1 md h d zas f=some r):aj c2 md h d zas f=some r:=by
 unfold aj at hz ⊢
 split at hz
 ·rename_i hb
  rw [if_pos hb]
  cases f <;> simp only [At] at hz ⊢ <;> try (cases hz; done)
  simp only [Option.bind_eq_some_iff] at hz ⊢
  obtain ⟨p,e1,q,e3,e4⟩:=hz
  exact ⟨p,e1,q,hc _ _ _ _ e3,e4⟩
 ·rename_i hb
  rw [if_neg hb]
  exact Ip hc hz
theorem Dt (hc:vL c1 c2) {d:Nat} {op:AOp} {s:af} {h:aa} {r:R3} (hz:step c1 md d op s h=some r):step c2 md d op s h=some r:=by
 cases op with
 | call f zas=>exact BB hc hz
 | callC f zas =>
  simp only [step,Option.bind_eq_some_iff] at hz ⊢
  obtain ⟨q,e1,e2⟩:=hz
  exact ⟨q,BB hc e1,e2⟩
 | _=>exact hz
theorem Du (hc:vL c1 c2) {d:Option Nat} {op:AOp} {s:af} {h:aa} {t:St} (hz:bN md.nm s d (step c1 md (d.getD 0) op s h)=some t):bN md.nm s d (step c2 md (d.getD 0) op s h)=some t:=by
 cases hs:step c1 md (d.getD 0) op s h with
 | none=>rw [hs] at hz; cases hz
 | some r =>
  rw [hs] at hz
  rw [Dt hc hs]
  exact hz
theorem KU (hc:vL c1 c2) {o:COp} {s:af} {h:aa} {t:St} (hz:gb c1 md o s h=some t):gb c2 md o s h=some t:=by
 unfold gb at hz ⊢
 cases hg:o.g with
 | none=>rw [hg] at hz; exact Du hc hz
 | some g =>
  rw [hg] at hz
  simp only at hz ⊢
  unfold fC at hz ⊢
  split at hz
  ·split at hz
   ·rename_i hb
    simp only [if_pos hb]
    exact Du hc hz
   ·rename_i hb
    simp only [if_neg hb]
    exact hz
  ·exact hz
  ·cases hz
theorem rT (hc:vL c1 c2):∀ {l:List COp} {s:af} {h:aa} {t:St},ao c1 md l s h=some t→ao c2 md l s h=some t
 | [],s,h,t,hz=>hz
 | o::l,s,h,t,hz=>by
  simp only [ao,aK] at hz
  split at hz
  ·cases hz
  ·rename_i t1 ht1
   simp only [ao,aK,KU hc ht1,rT hc hz]
theorem BC (hc:vL c1 c2) {d:Option Nat} {op:AOp} {s:af} {h:aa} {f:aa→Fp} {t:St × Fp} (hz:fq s d f (step c1 md (d.getD 0) op s h)=some t):fq s d f (step c2 md (d.getD 0) op s h)=some t:=by
 cases hs:step c1 md (d.getD 0) op s h with
 | none=>rw [hs] at hz; cases hz
 | some r =>
  rw [hs] at hz
  rw [Dt hc hs]
  exact hz
theorem KV (hc:vL c1 c2) {o:COp} {s:af} {h:aa} {t:St × Fp} (hz:cj c1 md o s h=some t):cj c2 md o s h=some t:=by
 unfold cj at hz ⊢
 cases hg:o.g with
 | none=>rw [hg] at hz; exact BC hc hz
 | some g =>
  rw [hg] at hz
  simp only at hz ⊢
  unfold jL at hz ⊢
  split at hz
  ·split at hz
   ·rename_i hb
    simp only [if_pos hb]
    exact BC hc hz
   ·rename_i hb
    simp only [if_neg hb]
    exact hz
  ·exact hz
  ·cases hz
theorem xy (hc:vL c1 c2):∀ {l:List COp} {s:af} {h:aa} {t:St × List Fp},dD c1 md l s h=some t→dD c2 md l s h=some t
 | [],s,h,t,hz=>hz
 | o::l,s,h,t,hz=>by
  simp only [dD,Option.bind_eq_some_iff] at hz
  obtain ⟨r,e1,q,e2,e3⟩:=hz
  simp only [dD,KV hc e1,xy hc e2,Option.bind_some,e3]
theorem KW (hc:vL c1 c2) {l:List COp} {ps:List (Nat × Nat)} {s:af} {h:aa} {t:St} (hz:jM c1 md l ps s h=some t):jM c2 md l ps s h=some t:=by
 unfold jM at hz ⊢
 cases hb:pQ ps with
 | none =>
  rw [hb] at hz
  simp only [pX,Option.bind_eq_some_iff] at hz
  obtain ⟨q,e1,e2⟩:=hz
  simp only [pX,xy hc e1,Option.bind_some,e2]
 | some b =>
  rw [hb] at hz
  simp only [uk,Option.bind_eq_some_iff] at hz
  obtain ⟨q,e1,e2⟩:=hz
  split at e2
  ·rename_i hps
   simp only [aK] at e2
   split at e2
   ·cases e2
   ·rename_i t1 ht1
    simp only [uk,xy hc e1,Option.bind_some,if_pos hps,ht1,aK,rT hc e2]
  ·cases e2
theorem xz {b1 b2:af→aa→Option (Ex × St)} {ks hs:List Nat} (ih:∀ {s:af} {h:aa} {r:Ex × St},b1 s h=some r→b2 s h=some r) :
  ∀ (m:Nat) {j:Nat},m≤j→∀ {s:af} {h:aa} {r:Ex × St},kJ b1 ks hs m s h=some r→kJ b2 ks hs j s h=some r
 | 0,j,hj,s,h,r,hz=>by simp [kJ] at hz
 | m+1,j,hj,s,h,r,hz=>by
  obtain ⟨j,rfl⟩:∃ j',j=j'+1:=⟨j - 1,by omega⟩
  simp only [kJ] at hz ⊢
  split at hz
  ·rename_i hc
   rw [if_pos hc]
   cases hb:b1 (mk .any (fun i=>eF hs (s i)) ks) (mk .dead h hs) with
   | none=>rw [hb] at hz; cases hz
   | some q =>
    rw [hb] at hz
    rw [ih hb]
    obtain ⟨ex,t⟩:=q
    cases ex with
    | normal=>exact xz ih m (by omega) hz
    | exit id=>exact hz
    | ret=>exact hz
  ·cases hz
theorem eB (hc:vL c1 c2) {lf lf':Nat} (hl:lf≤lf'):∀ (c:Cmd) {s:af} {h:aa} {r:Ex × St},bd c1 md lf c s h=some r→bd c2 md lf' c s h=some r
 | .skip,s,h,r,hz=>hz
 | .ops ks l,s,h,r,hz=>by
  simp only [bd,aK] at hz
  split at hz
  ·cases hz
  ·rename_i t1 ht1
   simp only [bd,rT hc ht1,aK]
   exact hz
 | .dops ks l ps,s,h,r,hz=>by
  simp only [bd,aK] at hz
  split at hz
  ·cases hz
  ·rename_i t1 ht1
   simp only [bd,KW hc ht1,aK]
   exact hz
 | .seq a b,s,h,r,hz=>by
  simp only [bd,dG] at hz
  split at hz
  ·cases hz
  ·rename_i t1 ht1
   simp only [bd,dG,eB hc hl a ht1,eB hc hl b hz]
  ·rename_i i t1 ht1
   simp only [bd,dG,eB hc hl a ht1]
   exact hz
  ·rename_i t1 ht1
   simp only [bd,dG,eB hc hl a ht1]
   exact hz
 | .cond c a b,s,h,r,hz=>by
  simp only [bd,jN] at hz
  split at hz
  ·rename_i t ht
   cases t with
   | true=>simp only [bd,jN,ht,if_true]; exact eB hc hl a hz
   | false=>simp only [bd,jN,ht,Bool.false_eq_true,if_false]; exact eB hc hl b hz
  ·cases hz
 | .block id ks a,s,h,r,hz=>by
  simp only [bd,aI] at hz
  split at hz
  ·cases hz
  ·rename_i t1 ht1
   simp only [bd,aI,eB hc hl a ht1]
   exact hz
  ·rename_i i t1 ht1
   simp only [bd,aI,eB hc hl a ht1]
   exact hz
  ·rename_i t1 ht1
   simp only [bd,aI,eB hc hl a ht1]
   exact hz
 | .loop ks hs a,s,h,r,hz=>by
  simp only [bd] at hz ⊢
  exact xz (fun hh=>eB hc hl a hh) lf hl hz
 | .exit id,s,h,r,hz=>hz
 | .ret,s,h,r,hz=>hz
 | .frz is a,s,h,r,hz=>by
  simp only [bd,aK] at hz
  split at hz
  ·cases hz
  ·rename_i t1 ht1
   simp only [bd,aK,ht1]
   exact eB hc hl a hz
end
abbrev Ak:=List (Nat × List AV × AV)
def HJ:Ak→FuncId→List AV→Option AV
 | [],_,_=>none
 | x::l,f,args=>if x.1=f then (if wg x.2.1 args=true then some x.2.2 else HJ l f args) else HJ l f args
def Jt (a:Option AV) (hs:List Ob) (b:Option (AV × List Ob)):Option (AV × List Ob):=match a,hs with
 | some r,[]=>some (r,[])
 | _,_=>b
def CO (e:Env) (T:Ak):Nat→cT
 | 0=>fun _ _ _=>none
 | n+1=>fun f args hs=>Jt (HJ T f args) hs (match e.E f with
  | some g=>g args hs
  | none=>(e.C f).bind fun fd=>wl (CO e T n) { e.md with nm:=e.md.keep f } n fd args hs)
theorem CP {e:Env}:∀ {T:Ak} {f:FuncId} {args:List AV} {r:AV},(∀ x ∈ T,cR e x.1 x.2.1 []=some (x.2.2,[]))→HJ T f args=some r→cR e f args []=some (r,[])
 | [],f,args,r,_,h=>by cases h
 | x::l,f,args,r,ht,h=>by
  unfold HJ at h
  split at h
  ·rename_i h1
   split at h
   ·rename_i h2
    cases h
    have:=ht x (by simp)
    rw [h1,oi h2] at this
    exact this
   ·exact CP (fun y hy=>ht y (by simp [hy])) h
  ·exact CP (fun y hy=>ht y (by simp [hy])) h
theorem kF {call:cT} {md:Mode} {lf:Nat}:∀ (c:Cmd) {s:af} {h:aa} {r:Ex × St},bd call md lf c s h=some r→az call md c s h=some r
 | .skip,s,h,r,hz=>hz
 | .ops ks l,s,h,r,hz=>hz
 | .dops ks l ps,s,h,r,hz=>hz
 | .seq a b,s,h,r,hz=>by
  simp only [bd,dG] at hz
  split at hz
  ·cases hz
  ·rename_i t1 ht1
   simp only [az,dG,kF a ht1,kF b hz]
  ·rename_i i t1 ht1
   simp only [az,dG,kF a ht1]
   exact hz
  ·rename_i t1 ht1
   simp only [az,dG,kF a ht1]
   exact hz
 | .cond c a b,s,h,r,hz=>by
  simp only [bd,jN] at hz
  split at hz
  ·rename_i t ht
   cases t with
   | true=>simp only [az,jN,ht,if_true]; exact kF a hz
   | false=>simp only [az,jN,ht,Bool.false_eq_true,if_false]; exact kF b hz
  ·cases hz
 | .block id ks a,s,h,r,hz=>by
  simp only [bd,aI] at hz
  split at hz
  ·cases hz
  ·rename_i t1 ht1
   simp only [az,aI,kF a ht1]
   exact hz
  ·rename_i i t1 ht1
   simp only [az,aI,kF a ht1]
   exact hz
  ·rename_i t1 ht1
   simp only [az,aI,kF a ht1]
   exact hz
 | .loop ks hs a,s,h,r,hz=>by
  simp only [bd] at hz
  simp only [az,aU]
  rw [iO]
  exact ⟨lf,fun k hk=>xz (fun hh=>kF a hh) lf hk hz⟩
 | .exit id,s,h,r,hz=>hz
 | .ret,s,h,r,hz=>hz
 | .frz is a,s,h,r,hz=>by
  simp only [bd,aK] at hz
  split at hz
  ·cases hz
  ·rename_i t1 ht1
   simp only [az,aK,ht1]
   exact kF a hz
theorem Ju {e:Env} {T:Ak} (ht:∀ x ∈ T,cR e x.1 x.2.1 []=some (x.2.2,[])):∀ n,vL (CO e T n) (cR e)
 | 0=>fun f a hs r hz=>by cases hz
 | n+1=>fun f a hs r hz=>by
  have old:(match e.E f with | some g=>g a hs | none=>(e.C f).bind fun fd=>wl (CO e T n) { e.md with nm:=e.md.keep f } n fd a hs)=some r→cR e f a hs=some r:=by
   intro hz
   split at hz
   ·rename_i g hE
    rw [uH hE]
    exact hz
   ·rename_i hE
    simp only [Option.bind_eq_some_iff] at hz
    obtain ⟨fd,hC,hz⟩:=hz
    refine wL hE hC ?_
    unfold wl at hz
    unfold FW
    split at hz
    ·rename_i hcc
     rw [if_pos hcc]
     cases hx:bd (CO e T n) { e.md with nm:=e.md.keep f } n fd.body (pi a) (ae hs) with
     | none=>rw [hx] at hz; cases hz
     | some q =>
      rw [hx] at hz
      rw [kF fd.body (eB (Ju ht n) (Nat.le_refl n) fd.body hx)]
      exact hz
    ·cases hz
  unfold CO at hz
  unfold Jt at hz
  split at hz
  ·rename_i r' hl
   cases hz
   exact CP ht hl
  ·exact old hz
theorem bO {e:Env}:∀ x ∈ ([]:Ak),cR e x.1 x.2.1 []=some (x.2.2,[]):=fun _ h=>by cases h
theorem cA {e:Env} {x:Nat × List AV × AV} {T:Ak} (h1:cR e x.1 x.2.1 []=some (x.2.2,[])) (h2:∀ x ∈ T,cR e x.1 x.2.1 []=some (x.2.2,[])):∀ y ∈ x::T,cR e y.1 y.2.1 []=some (y.2.2,[]):=fun y hy=>by
 rcases List.mem_cons.1 hy with rfl | hy
 ·exact h1
 ·exact h2 y hy
theorem hF {e:Env} (T:Ak) (n:Nat) (x:Nat × List AV × AV) (ht:∀ x ∈ T,cR e x.1 x.2.1 []=some (x.2.2,[])) (h:CO e T n x.1 x.2.1 []=some (x.2.2,[])):cR e x.1 x.2.1 []=some (x.2.2,[]):=Ju ht n _ _ _ _ h
end Go.Ab
namespace Go.Ab
open Go Go.Proofs Go.Shelf
def PN:Ren:=⟨fun | 28=>160 | n=>n,fun | 25=>133 | 27=>95 | 53=>193 | n=>n,fun n=>n⟩
theorem MG:Lays7.n28 Tryz.prog PN where
 mixed:=by kernel_rfl
 f28:=by kernel_rfl
 t0:=by kernel_rfl
 a0:=Tryz.isAgg0
 z0:=Tryz.sizeOf0
 v0:=Tryz.zeroValue0
 i0:=by kernel_rfl
 t3:=by kernel_rfl
 a3:=Tryz.isAgg3
 z3:=Tryz.sizeOf3
 v3:=Tryz.zeroValue3
 i3:=by kernel_rfl
 t4:=by kernel_rfl
 a4:=Tryz.isAgg4
 z4:=Tryz.sizeOf4
 v4:=Tryz.zeroValue4
 i4:=by kernel_rfl
 t5:=by kernel_rfl
 a5:=Tryz.isAgg5
 z5:=Tryz.sizeOf5
 v5:=Tryz.zeroValue5
 i5:=by kernel_rfl
 t25:=by kernel_rfl
 a25:=Tryz.isAgg133
 z25:=Tryz.sizeOf133
 v25:=Tryz.zeroValue133
 i25:=by kernel_rfl
 t27:=by kernel_rfl
 a27:=Tryz.isAgg95
 z27:=Tryz.sizeOf95
 v27:=Tryz.zeroValue95
 i27:=by kernel_rfl
 t53:=by kernel_rfl
 a53:=Tryz.isAgg193
 z53:=Tryz.sizeOf193
 v53:=Tryz.zeroValue193
 i53:=by kernel_rfl
 g0:=by kernel_rfl
def vf:Inv where
 p w X:=X 0∧TabAt 0 Lib.deBruijn32tab w
 stab:=fun {w w' X} h hs=>⟨h.1,fun j hj=>by rw [ir (hs 0 h.1)]; exact h.2 j hj⟩
 more:=fun h hx=>⟨hx 0 h.1,h.2⟩
theorem Jv:∀ (k x:Nat),Lib.ctzFrom k x=Dh k x
 | 0,x=>rfl
 | k+1,x=>by
  unfold Lib.ctzFrom Dh
  rw [Jv k (x / 2),Nat.add_comm]
set_option maxRecDepth 100000 in
theorem PO:ft Tryz.prog vf false F.bits_TrailingZeros32 Pf:=by
 intro args obs obs' res w X ρ vals n hz hn hi hr hs hv
 unfold Pf at hz
 split at hz
 ·rename_i x
  by_cases hc:0 < x∧x < 4294967296∧obs=[]
  ·rw [if_pos hc] at hz
   obtain ⟨h0,h1,rfl⟩:=hc
   simp only [Option.some.injEq,Prod.mk.injEq] at hz
   obtain ⟨rfl,rfl⟩:=hz
   have hv0:=hv 0 (.v (.int .u32 x)) (vals.getD 0 undef) rfl (by simp at hs; simp [Array.getD_eq_getD_getElem?,hs])
   have e0:vals=#[.int .u32 x]:=by
    simp only [List.length_cons,List.length_nil] at hs
    have:=hv0.v_inv.1
    apply Array.ext
    ·simpa using hs
    ·intro i h2 h3
     have:i=0:=by simp at h3; exact h3
     subst this
     simpa [Array.getD_eq_getD_getElem?,hs] using this
   subst e0
   obtain ⟨m,rfl⟩:∃ m:Nat,x=m:=⟨x.toNat,by omega⟩
   have key:=Any7.bits_TrailingZeros32 MG m (by omega) w fun _=>hi.2
   have he:(callFunc F.bits_TrailingZeros32 #[.int .u32 (m:Int)]).run Tryz.prog w=.ok (.enter F.bits_TrailingZeros32 #[.int .u32 (m:Int)]) w:=(enters_of (MG.f28) (by kernel_rfl) rfl:Proofs.Enters Tryz.prog (PN.f 28)) _ _
   unfold Enters
   rw [he]
   refine Calls.mono key fun e w' hw=>?_
   obtain ⟨rfl,rfl⟩:=hw
   refine ⟨ρ,hr,.refl _ _ _ _,?_⟩
   refine .dat ?_
   have:Lib.ctz 32 m=Dh 32 m:=by
    unfold Lib.ctz
    rw [if_neg (by omega),Jv]
   simp only [this,Int.toNat_natCast,mat,bW]
   exact .v _ rfl
  ·rw [if_neg hc] at hz
   cases hz
 ·cases hz
end Go.Ab
namespace Go.Ab
open Go Go.Proofs Go.ChangeShapes Go.WideShapes Go.Deep Go.RowKit
set_option maxRecDepth 100000
section
variable {H:Type} {enc:TypeId × Value→H} {w:World}
def BD (w:World) (b:Nat):Prop:=b < w.heap.size∧b ≠ 0
def xA (w:World):Prop:=∀ o v,w.cell? ⟨0,o,none⟩=some v→∃ n,v=.int .u8 n
def s6 (u:Value):Prop:=∀ n,u ≠ .int .u8 n
theorem SO (ht:xA w) {a:Addr} {u:Value} (h:w.cell? a=some u) (hn:s6 u):BD w a.block∧a.spot=none:=by
 have h1:a.spot=none:=by
  unfold World.cell? at h
  split at h
  ·split at h
   ·cases h
   ·rename_i hs
    simpa using hs
  ·cases h
 refine ⟨⟨?_,fun h0=>?_⟩,h1⟩
 ·unfold World.cell? at h
  split at h
  ·rename_i hb
   exact (Array.getElem?_eq_some_iff.1 hb).1
  ·cases h
 ·obtain ⟨b,o,s⟩:=a
  simp only at h0 h1
  subst h0 h1
  obtain ⟨n,hv⟩:=ht o u h
  exact hn n hv
def lS (w:World) (fs:List AV) (cs:List Value):Prop :=
 fs.length=cs.length∧∀ (j:Nat) (c:AV) (u:Value),fs[j]?=some c→cs[j]?=some u→RD w (BD w) c u∧ak c=true∧u.oneCell'=true
theorem lS.app {fa fb:List AV} {ca cb:List Value} (ha:lS w fa ca) (hb:lS w fb cb):lS w (fa++fb) (ca++cb):=by
 refine ⟨by simp [ha.1,hb.1],fun j c u h1 h2=>?_⟩
 by_cases hj:j < fa.length
 ·rw [List.getElem?_append_left hj] at h1
  rw [List.getElem?_append_left (by rw [← ha.1]; exact hj)] at h2
  exact ha.2 j c u h1 h2
 ·rw [List.getElem?_append_right (by omega)] at h1
  rw [List.getElem?_append_right (by rw [← ha.1]; omega),← ha.1] at h2
  exact hb.2 _ c u h1 h2
theorem lS.one {c:AV} {u:Value} (h:RD w (BD w) c u) (hd:ak c=true) (h1:u.oneCell'=true):lS w [c] [u]:=by
 refine ⟨rfl,fun j c' u' hc hu=>?_⟩
 cases j with
 | zero=>simp at hc hu; subst hc hu; exact ⟨h,hd,h1⟩
 | succ j=>simp at hc
noncomputable abbrev Tr (w:World) (enc:TypeId × Value→H) (n:Nat) (t:TypeId) (cs:List Value):Option (DataW H × List MemPlace):=DataW.trod enc Tryz.prog w 0 (fun _=>true) true n t cs
def qE (t:TypeId) (d:DataW H):Prop:=∀ m ∈ DataW.weights Tryz.prog t d,m≤reachBytes
theorem SP {e:TypeId}:∀ {l:List (DataW H)} {d:DataW H} {m:Nat},d ∈ l→m ∈ DataW.weights Tryz.prog e d→m ∈ DataW.weightsAll Tryz.prog e l
 | [],d,m,h,_=>by simp at h
 | a::l,d,m,h,hm=>by
  simp only [DataW.weightsAll,List.mem_append]
  rcases List.mem_cons.1 h with rfl | h
  ·exact .inl hm
  ·exact .inr (SP h hm)
theorem Jw {α:Type} {p:Nat→α→Prop}:∀ (n:Nat),(∀ i,i < n→∃ r,p i r)→∃ l:List α,l.length=n∧∀ (i:Nat) (r:α),l[i]?=some r→p i r
 | 0,_=>⟨[],rfl,fun i r h=>by simp at h⟩
 | n+1,h=>by
  obtain ⟨l,h1,h2⟩:=Jw n fun i hi=>h i (by omega)
  obtain ⟨r,hr⟩:=h n (by omega)
  refine ⟨l++[r],by simp [h1],fun i r' hi=>?_⟩
  by_cases hin:i < n
  ·rw [List.getElem?_append_left (by omega)] at hi
   exact h2 i r' hi
  ·rw [List.getElem?_append_right (by omega)] at hi
   have:i=n:=by
    have:=(List.getElem?_eq_some_iff.1 hi).1
    simp at this
    omega
   subst this
   simp [h1] at hi
   subst hi
   exact hr
theorem CQ {α:Type} {t e:TypeId} {k bs:Nat} (ht:Tryz.prog.underlying t=some (.slice e)) (hk:Tryz.prog.cellsOf e=k) (h0:0 < k) (hbs:Tryz.prog.bytesOf e=bs) (F:α→List AV) (Q:α→Prop) (hT:xA w)
  (hrow:∀ n cs' x,Tr w enc n e cs'=some x→qE e x.1→∃ r,Q r∧lS w (F r) cs'∧∃ u,cs'[0]?=some u∧s6 u) {fuel:Nat} {cs:List Value} {x:DataW H × List MemPlace}
  (h:Tr w enc fuel t cs=some x) (hw:qE t x.1):∃ (l:List α) (v:Value),cs=[v]∧(∀ r ∈ l,Q r)∧l.length*bs≤reachBytes∧RD w (BD w) (.sl k (l.map F)) v∧v.oneCell'=true∧s6 v:=by
 rcases open_slice ht h with ⟨rfl,_⟩ | ⟨a,len,cap,m,n,D,Pl,rfl,hb,hl,hm,hmm,rfl,hx⟩
 ·exact ⟨[],_,rfl,fun r hr=>by simp at hr,by simp,.sl k [] none 0 ⟨0,0,none⟩ (fun _ _=>undef) (by simp) (fun h=>absurd rfl h) (fun r hr=>by simp at hr) (fun i r j c hr=>by simp at hr) (fun r hr=>by simp at hr) (fun i r j c hr=>by simp at hr),rfl,fun n e=>by cases e⟩
 ·have hlm:len≤m:=by rw [hmm]; split <;> omega
  have hwe:∀ i,i < len→qE e (D i):=fun i hi q hq=>by
   refine hw q ?_
   simp only [DataW.weights,ht,List.mem_cons,List.mem_append]
   exact .inr (.inl (SP (List.mem_map.2 ⟨i,List.mem_range.2 hi,rfl⟩) hq))
  have hbn:len*bs≤reachBytes:=by
   have:=hw ((((List.range len).map D).length+((List.range (m - len)).map fun j=>D (len+j)).length)*Tryz.prog.bytesOf e) (by simp [DataW.weights,ht])
   simp only [List.length_map,List.length_range,hbs] at this
   exact Nat.le_trans (Nat.mul_le_mul_right _ (by omega)) this
  obtain ⟨l,l1,l2⟩:=Jw (p:=fun i r=>Q r∧∃ cs',w.cells? 0 (a.add (i*k)) k=some cs'∧lS w (F r) cs'∧∃ u,cs'[0]?=some u∧s6 u) len fun i hi=>by
   obtain ⟨cs',h1,h2⟩:=hx i (by omega)
   obtain ⟨r,g1,g2,g3⟩:=hrow _ _ _ h2 (hwe i hi)
   rw [hk] at h1
   exact ⟨r,g1,cs',h1,g2,g3⟩
  have cell:∀ (i:Nat) (row:List AV) (j:Nat) (c:AV),(l.map F)[i]?=some row→row[j]?=some c→∃ u,w.cell? (a.add (i*k+j))=some u∧RD w (BD w) c u∧ak c=true:=fun i row j c hi hj=>by
   simp only [List.getElem?_map,Option.map_eq_some_iff] at hi
   obtain ⟨r,hr,rfl⟩:=hi
   obtain ⟨_,cs',c1,c2,_⟩:=l2 i r hr
   obtain ⟨_,c3,c4⟩:=World.cells?_some c1
   have hjk:j < k:=by
    have:=(List.getElem?_eq_some_iff.1 hj).1
    rw [c2.1,c3] at this
    exact this
   have:=c4 j hjk
   rw [rp] at this
   obtain ⟨u,hu⟩:∃ u,cs'[j]?=some u:=⟨cs'[j]'(by omega),by simp⟩
   exact ⟨u,by rw [this,hu],(c2.2 j c u hj hu).1,(c2.2 j c u hj hu).2.1⟩
  refine ⟨l,_,rfl,fun r hr=>?_,by rw [l1]; exact hbn,?_,rfl,fun n e=>by cases e⟩
  ·obtain ⟨i,hi⟩:=List.getElem?_of_mem hr
   exact (l2 i r hi).1
  ·have:=RD.sl (w:=w) (A:=BD w) k (l.map F) (some a) cap a (fun i j=>(w.cell? (a.add (i*k+j))).getD undef) (by simp [l1,hl]) (fun hne=>?_) (fun row hr=>?_) (fun i row j c hi hj=>?_) (fun row hr c hc=>?_) (fun i row j c hi hj=>?_)
   ·simpa [l1] using this
   ·have hlen:0 < l.length:=List.length_pos_iff.2 fun e=>hne (by simp [e])
    obtain ⟨_,cs',c1,c2,u,c3,c4⟩:=l2 0 l[0] (by simp)
    have:=(World.cells?_some c1).2.2 0 h0
    rw [c3,Nat.zero_mul,sf,sf] at this
    obtain ⟨q1,q2⟩:=SO hT this c4
    exact ⟨rfl,q1,q2⟩
   ·simp only [List.mem_map] at hr
    obtain ⟨r,hr,rfl⟩:=hr
    obtain ⟨i,hi⟩:=List.getElem?_of_mem hr
    obtain ⟨_,cs',c1,c2,_⟩:=l2 i r hi
    rw [c2.1]
    exact (World.cells?_some c1).2.1
   ·obtain ⟨u,q1,_⟩:=cell i row j c hi hj
    rw [q1]; rfl
   ·obtain ⟨i,hi⟩:=List.getElem?_of_mem hr
    obtain ⟨j,hj⟩:=List.getElem?_of_mem hc
    obtain ⟨u,_,_,q⟩:=cell i row j c hi hj
    exact q
   ·obtain ⟨u,q1,q2,_⟩:=cell i row j c hi hj
    rw [q1]; exact q2
theorem Q3 {n:Nat} {cs:List Value} {x:DataW H × List MemPlace} (h:Tr w enc n 95 cs=some x) (_:qE 95 x.1):∃ r:Nat,r < 4294967296∧lS w [U (r:Int)] cs∧∃ u,cs[0]?=some u∧s6 u:=by
 obtain ⟨z,rfl,rfl,hw⟩:=DataW.trod_int Tryz.underlying95 h
 simp only [Lit.wf,Bool.and_eq_true,decide_eq_true_eq] at hw
 have h1:(0:Int)≤z:=hw.1
 have h2:z≤4294967295:=hw.2
 obtain ⟨m,rfl⟩:∃ m:Nat,z=m:=⟨z.toNat,by omega⟩
 exact ⟨m,by omega,.one (.v _ rfl) rfl rfl,_,rfl,fun n e=>by cases e⟩
theorem Q4 {n:Nat} {cs:List Value} {x:DataW H × List MemPlace} (h:Tr w enc n 3 cs=some x) (_:qE 3 x.1):∃ r:Int,True∧lS w [I r] cs∧∃ u,cs[0]?=some u∧s6 u:=by
 obtain ⟨z,rfl,rfl,hw⟩:=DataW.trod_int Tryz.underlying3 h
 exact ⟨z,trivial,.one (.v _ rfl) rfl rfl,_,rfl,fun n e=>by cases e⟩
theorem MH (hT:xA w) {n:Nat} {cs:List Value} {x:DataW H × List MemPlace} (h:Tr w enc n 41 cs=some x) (hw:qE 41 x.1):∃ m:List Nat,(Lb m∧m.length < 4611686018427387904)∧lS w [lm m] cs∧∃ u,cs[0]?=some u∧s6 u:=by
 obtain ⟨l,v,rfl,h1,h2,h3,h4,h5⟩:=CQ (k:=1) (bs:=4) Tryz.underlying41 (by kernel_rfl) (by decide) (by kernel_rfl) (fun (r:Nat)=>[U (r:Int)]) (fun r=>r < 4294967296) hT (fun n cs' x=>Q3) h hw
 refine ⟨l,⟨h1,?_⟩,.one h3 rfl h4,_,rfl,h5⟩
 unfold reachBytes at h2
 omega
theorem OY (hT:xA w) {n:Nat} {cs:List Value} {x:DataW H × List MemPlace} (h:Tr w enc n 70 cs=some x) (hw:qE 70 x.1):∃ m:List Int,True∧lS w [.sl 1 (aX m)] cs∧∃ u,cs[0]?=some u∧s6 u:=by
 obtain ⟨l,v,rfl,h1,h2,h3,h4,h5⟩:=CQ (k:=1) (bs:=8) Tryz.underlying70 (by kernel_rfl) (by decide) (by kernel_rfl) (fun (r:Int)=>[I r]) (fun r=>True) hT (fun n cs' x=>Q4) h hw
 exact ⟨l,trivial,.one h3 rfl h4,_,rfl,h5⟩
theorem SQ (hT:xA w) {n:Nat} {cs:List Value} {x:DataW H × List MemPlace} (h:Tr w enc n 43 cs=some x) (hw:qE 43 x.1):∃ d:Rd,Ok0 d∧lS w (aW d) cs∧∃ u,cs[0]?=some u∧s6 u:=by
 obtain ⟨y0,y1,y2,m,rfl,hl,h0,h1,h2⟩:=trod_struct3 Tryz.underlying43 h
 have hl3:cs.length=3:=hl.trans (by kernel_rfl)
 match cs,hl3 with
 | [a,b,c],_ =>
  have k0:Tr w enc m 4 [a]=some y0:=h0
  have k1:Tr w enc m 41 [b]=some y1:=h1
  have k2:Tr w enc m 3 [c]=some y2:=h2
  have w1:qE 41 y1.1:=fun q hq=>hw q (by simp [DataW.weights,DataW.weightsEach,Tryz.underlying43]; exact .inr (.inl hq))
  obtain ⟨bb,e0,e1⟩:=DataW.trod_bool Tryz.underlying4 k0
  simp only [List.cons.injEq,and_true] at e0
  subst e0
  obtain ⟨l,⟨q1,q2⟩,q3,_⟩:=MH hT k1 w1
  obtain ⟨z,e2,e3,_⟩:=DataW.trod_int Tryz.underlying3 k2
  simp only [List.cons.injEq,and_true] at e2
  subst e2
  exact ⟨⟨bb,l,z⟩,⟨q1,q2⟩,(lS.one (.v _ rfl) rfl rfl).app (q3.app (.one (.v _ rfl) rfl rfl)),_,rfl,fun n e=>by cases e⟩
theorem OZ (hT:xA w) {n:Nat} {cs:List Value} {x:DataW H × List MemPlace} (h:Tr w enc n 72 cs=some x) (hw:qE 72 x.1):∃ d:Rt,Ok0 d.c∧lS w (bv d) cs∧∃ u,cs[0]?=some u∧s6 u:=by
 obtain ⟨y0,y1,m,rfl,hl,h0,h1⟩:=trod_struct2 Tryz.underlying72 h
 have hl3:cs.length=4:=hl.trans (by kernel_rfl)
 match cs,hl3 with
 | [a,b,c,d],_ =>
  have k0:Tr w enc m 70 [a]=some y0:=h0
  have k1:Tr w enc m 43 [b,c,d]=some y1:=h1
  have w0:qE 70 y0.1:=fun q hq=>hw q (by simp [DataW.weights,DataW.weightsEach,Tryz.underlying72]; exact .inl hq)
  have w1:qE 43 y1.1:=fun q hq=>hw q (by simp [DataW.weights,DataW.weightsEach,Tryz.underlying72]; exact .inr hq)
  obtain ⟨l,_,q3,q4⟩:=OY hT k0 w0
  obtain ⟨d,d1,d2,_⟩:=SQ hT k1 w1
  exact ⟨⟨l,d⟩,d1,q3.app d2,q4⟩
theorem HK (hT:xA w) {n:Nat} {us:Array Value} {x:DataW H × List MemPlace} (h:Tr w enc n 24 us.toList=some x) (hw:qE 24 x.1):∃ a:Rp,((∀ t ∈ a.terms,Ok0 t.c)∧a.terms.length < 4611686018427387904)∧RD w (BD w) (bm a) (.agg us):=by
 obtain ⟨y0,y1,m,rfl,hl,h0,h1⟩:=trod_struct2 Tryz.underlying24 h
 have hl3:us.toList.length=2:=hl.trans (by kernel_rfl)
 obtain ⟨cs⟩:=us
 simp only at hl3 h0 h1
 match cs,hl3 with
 | [a,b],_ =>
  have k0:Tr w enc m 3 [a]=some y0:=h0
  have k1:Tr w enc m 22 [b]=some y1:=h1
  have w1:qE 22 y1.1:=fun q hq=>hw q (by simp [DataW.weights,DataW.weightsEach,Tryz.underlying24]; exact .inr hq)
  obtain ⟨z,e2,e3,_⟩:=DataW.trod_int Tryz.underlying3 k0
  simp only [List.cons.injEq,and_true] at e2
  subst e2
  obtain ⟨l,v,e4,q1,q2,q3,q4,q5⟩:=CQ (k:=4) (bs:=64) Tryz.underlying22 (by kernel_rfl) (by decide) (by kernel_rfl) bv (fun t=>Ok0 t.c) hT (fun n cs' x=>OZ hT) k1 w1
  simp only [List.cons.injEq,and_true] at e4
  subst e4
  refine ⟨⟨z,l⟩,⟨q1,by show l.length < _; unfold reachBytes at q2; omega⟩,?_⟩
  have rc:lS w [I z,.sl 4 (l.map bv)] [.int .i64 z,b]:=(lS.one (.v _ rfl) rfl rfl).app (.one q3 rfl q4)
  refine .agg _ _ rfl (fun i u hu=>?_) fun i c u hc hu=>?_
  ·have hu':[Value.int .i64 z,b][i]?=some u:=by simpa using hu
   obtain ⟨c,hc⟩:∃ c,[I z,AV.sl 4 (l.map bv)][i]?=some c:=⟨_,List.getElem?_eq_getElem (by have:=(List.getElem?_eq_some_iff.1 hu').1; simpa using this)⟩
   exact (rc.2 i c u hc hu').2.2
  ·exact (rc.2 i c u hc (by simpa using hu)).1
theorem ahy (hT:xA w) {n:Nat} {v:Value} {x:DataW H × List MemPlace} (h:Tr w enc n 40 [v]=some x) (hw:qE 40 x.1):∃ l:List Rd,((∀ d ∈ l,Ok0 d)∧l.length < 4611686018427387904)∧RD w (BD w) (x8 l) v:=by
 obtain ⟨l,v',e4,q1,q2,q3,q4,q5⟩:=CQ (k:=3) (bs:=40) Tryz.underlying40 (by kernel_rfl) (by decide) (by kernel_rfl) aW Ok0 hT (fun n cs' x=>SQ hT) h hw
 simp only [List.cons.injEq,and_true] at e4
 subst e4
 exact ⟨l,⟨q1,by unfold reachBytes at q2; omega⟩,q3⟩
end
end Go.Ab
namespace Go.Ab
open Go Go.Proofs Go.Shelf
def sB:Ren:=⟨fun | 166=>95 | 167=>94 | 169=>96 | 240=>145 | 276=>181 | n=>n,fun | 0=>0 | 3=>3 | 4=>4 | 5=>5 | 9=>9 | 20=>20 | 37=>119 | 70=>118 | 72=>121 | 75=>123 | 80=>127 | 127=>162 | 164=>184 | n=>n,fun n=>n⟩
theorem Dv:Lays.n166 Tryz.prog sB where
 mixed:=by kernel_rfl
 f166:=by kernel_rfl
 f240:=by kernel_rfl
 f276:=by kernel_rfl
 t0:=by kernel_rfl
 a0:=Tryz.isAgg0
 z0:=Tryz.sizeOf0
 v0:=Tryz.zeroValue0
 t3:=by kernel_rfl
 a3:=Tryz.isAgg3
 z3:=Tryz.sizeOf3
 v3:=Tryz.zeroValue3
 t4:=by kernel_rfl
 a4:=Tryz.isAgg4
 z4:=Tryz.sizeOf4
 v4:=Tryz.zeroValue4
 t9:=by kernel_rfl
 a9:=Tryz.isAgg9
 z9:=Tryz.sizeOf9
 v9:=Tryz.zeroValue9
 t20:=by kernel_rfl
 a20:=Tryz.isAgg20
 z20:=Tryz.sizeOf20
 v20:=Tryz.zeroValue20
 t37:=by kernel_rfl
 a37:=Tryz.isAgg119
 z37:=Tryz.sizeOf119
 v37:=Tryz.zeroValue119
 t70:=by kernel_rfl
 a70:=Tryz.isAgg118
 z70:=Tryz.sizeOf118
 v70:=Tryz.zeroValue118
 t72:=by kernel_rfl
 a72:=Tryz.isAgg121
 z72:=Tryz.sizeOf121
 v72:=Tryz.zeroValue121
 t75:=by kernel_rfl
 a75:=Tryz.isAgg123
 z75:=Tryz.sizeOf123
 v75:=Tryz.zeroValue123
 t164:=by kernel_rfl
 a164:=Tryz.isAgg184
 z164:=Tryz.sizeOf184
 v164:=Tryz.zeroValue184
theorem MI:Lays.n167 Tryz.prog sB where
 mixed:=by kernel_rfl
 f167:=by kernel_rfl
 f240:=by kernel_rfl
 f276:=by kernel_rfl
 t0:=by kernel_rfl
 a0:=Tryz.isAgg0
 z0:=Tryz.sizeOf0
 v0:=Tryz.zeroValue0
 t4:=by kernel_rfl
 a4:=Tryz.isAgg4
 z4:=Tryz.sizeOf4
 v4:=Tryz.zeroValue4
 t5:=by kernel_rfl
 a5:=Tryz.isAgg5
 z5:=Tryz.sizeOf5
 v5:=Tryz.zeroValue5
 t9:=by kernel_rfl
 a9:=Tryz.isAgg9
 z9:=Tryz.sizeOf9
 v9:=Tryz.zeroValue9
 t20:=by kernel_rfl
 a20:=Tryz.isAgg20
 z20:=Tryz.sizeOf20
 v20:=Tryz.zeroValue20
 t37:=by kernel_rfl
 a37:=Tryz.isAgg119
 z37:=Tryz.sizeOf119
 v37:=Tryz.zeroValue119
 t70:=by kernel_rfl
 a70:=Tryz.isAgg118
 z70:=Tryz.sizeOf118
 v70:=Tryz.zeroValue118
 t72:=by kernel_rfl
 a72:=Tryz.isAgg121
 z72:=Tryz.sizeOf121
 v72:=Tryz.zeroValue121
 t75:=by kernel_rfl
 a75:=Tryz.isAgg123
 z75:=Tryz.sizeOf123
 v75:=Tryz.zeroValue123
 t164:=by kernel_rfl
 a164:=Tryz.isAgg184
 z164:=Tryz.sizeOf184
 v164:=Tryz.zeroValue184
theorem Dw:Lays.n169 Tryz.prog sB where
 mixed:=by kernel_rfl
 f169:=by kernel_rfl
 t0:=by kernel_rfl
 a0:=Tryz.isAgg0
 z0:=Tryz.sizeOf0
 v0:=Tryz.zeroValue0
 t3:=by kernel_rfl
 a3:=Tryz.isAgg3
 z3:=Tryz.sizeOf3
 v3:=Tryz.zeroValue3
 t9:=by kernel_rfl
 a9:=Tryz.isAgg9
 z9:=Tryz.sizeOf9
 v9:=Tryz.zeroValue9
 t37:=by kernel_rfl
 a37:=Tryz.isAgg119
 z37:=Tryz.sizeOf119
 v37:=Tryz.zeroValue119
 t70:=by kernel_rfl
 a70:=Tryz.isAgg118
 z70:=Tryz.sizeOf118
 v70:=Tryz.zeroValue118
 t72:=by kernel_rfl
 a72:=Tryz.isAgg121
 z72:=Tryz.sizeOf121
 v72:=Tryz.zeroValue121
 t127:=by kernel_rfl
 a127:=Tryz.isAgg162
 z127:=Tryz.sizeOf162
 v127:=Tryz.zeroValue162
theorem tW:Builder.Extra Tryz.prog sB where
 sizeBuilder:=by kernel_rfl
 liesBuilder:=by kernel_rfl
 t5:=by kernel_rfl
 a5:=Tryz.isAgg5
 z5:=Tryz.sizeOf5
 v5:=Tryz.zeroValue5
 infoByte:=by kernel_rfl
 cellsByte:=by kernel_rfl
 sizeByte:=by kernel_rfl
 neB5:=by decide
end Go.Ab
namespace Go.Ab
open Go Go.Proofs Go.Shelf Go.RowKit
set_option maxHeartbeats 4000000
set_option maxRecDepth 1000000
theorem BE {T e:TypeId} {B b:Nat} {p:Value} {bs:List Value} {w w':World} (h:Lib.BuilderAtF T e B b p bs w) (hb:Below w.heap.size w w'):Lib.BuilderAtF T e B b p bs w':=by
 obtain ⟨h1,v,h2,⟨h3,h4⟩,h5⟩:=h
 have hlt:b < w.heap.size:=(Array.getElem?_eq_some_iff.1 h2).1
 refine ⟨h1,v,(hb.block _ hlt).trans h2,⟨h3,?_⟩,h5⟩
 rcases h4 with h4 | ⟨g,cap,sA,fz,g1,g2,g3,g4⟩
 ·exact .inl h4
 ·exact .inr ⟨g,cap,sA,fz,g1,g2,(hb.block _ (Array.getElem?_eq_some_iff.1 g3).1).trans g3,g4⟩
theorem BF {T e:TypeId} {B b:Nat} {bs:List Value} {w w':World} (h:Lib.IsBuilderF T e B b bs w) (hb:Below w.heap.size w w'):Lib.IsBuilderF T e B b bs w':=h.imp (fun h=>BE h hb) (fun h=>BE h hb)
theorem Q5 (n:Bool) (a:Option Addr) (l cap:Nat) (e:Int) (t u:List UInt8) (w:World) (hl:(l:Int) ≠ 0) (ht:t.length≤10000) (hu:u.length≤1000)
  (hV:∀ w1,Below w.heap.size w w1→Calls Tryz.prog F.dyadic_Valid #[.agg #[.bool n,.slice a l cap,.int .i64 e]] w1 fun x w2=>x=.returned (.bool true)∧Below w1.heap.size w1 w2)
  (hT:∀ w1,Below w.heap.size w w1→Calls Tryz.prog F.natural_Text #[.slice a l cap] w1 fun x w2=>x=.returned (.tuple #[.string ⟨t.toArray⟩,.int .i64 0])∧Below w1.heap.size w1 w2)
  (hI:∀ w1,Below w.heap.size w w1→Calls Tryz.prog F.strconv_Itoa #[.int .i64 e] w1 fun x w2=>x=.returned (.string ⟨u.toArray⟩)∧Below w1.heap.size w1 w2) :
  Calls Tryz.prog F.dyadic_Text #[.agg #[.bool n,.slice a l cap,.int .i64 e]] w fun x w'=>x=.returned (.tuple #[.string ⟨((if n then [45] else [])++t++[112]++u).toArray⟩,.int .i64 0])∧Below w.heap.size w w':=by
 go_enter Tryz.func44,Tryz.ntmps44
 go_wp2_with (go_at_call 64; refine (hV _ ((Below.refl _ w).alloc (Nat.le_refl _) _)).mono ?_)
 rintro x W1 ⟨rfl,b1⟩
 have b01:Below w.heap.size w W1:=((Below.refl _ w).alloc (Nat.le_refl _) _).trans (b1.mono (by simp))
 have s1:w.heap.size < W1.heap.size:=Nat.lt_of_lt_of_le (by simp) b1.size
 have hb1:W1.heap[w.heap.size]?=some (.cells #[.bool n,.slice a l cap,.int .i64 e] 43 (0,0)):=by
  rw [b1.block _ (by simp)]
  exact heap_alloc_new w _
 have c1:W1.cell? ⟨w.heap.size,1,none⟩=some (.slice a l cap):=by simp [World.cell?,hb1]
 go_wp2_with (go_at_call 93; refine (hT _ b01).mono ?_)
 rintro x W2 ⟨rfl,b2⟩
 have b02:Below w.heap.size w W2:=b01.trans (b2.mono (by omega))
 have s2:w.heap.size < W2.heap.size:=Nat.lt_of_lt_of_le s1 b2.size
 have hb2:W2.heap[w.heap.size]?=some (.cells #[.bool n,.slice a l cap,.int .i64 e] 43 (0,0)):=(b2.block _ s1).trans hb1
 have hb3:(W2.alloc (.cells #[.pointer none,.slice none 0 0] 121)).heap[w.heap.size]?=some (.cells #[.bool n,.slice a l cap,.int .i64 e] 43 (0,0)):=(pk W2 _ s2).trans hb2
 have d0:(W2.alloc (.cells #[.pointer none,.slice none 0 0] 121)).cell? ⟨w.heap.size,0,none⟩=some (.bool n):=by simp only [World.cell?,hb3]; rfl
 have d2:(W2.alloc (.cells #[.pointer none,.slice none 0 0] 121)).cell? ⟨w.heap.size,2,none⟩=some (.int .i64 e):=by simp only [World.cell?,hb3]; rfl
 have hB:=Lib.IsBuilderF.of (Lib.fresh_isBuilder 121 5 W2)
 have b03:Below w.heap.size w (W2.alloc (.cells #[.pointer none,.slice none 0 0] 121)):=b02.trans ((Below.refl _ W2).alloc (Nat.le_of_lt s2) _)
 have sS:(ByteArray.mk t.toArray++ByteArray.mk #[112]++ByteArray.mk u.toArray).data.toList=t++[112]++u:=by simp
 have sZ:(ByteArray.mk t.toArray++ByteArray.mk #[112]++ByteArray.mk u.toArray).size=t.length+1+u.length:=by simp [ByteArray.size]; omega
 cases n with
 | true =>
  go_wp2_with (go_at_call 94; refine (Any.Builder_WriteByte_k MI tW W2.heap.size W2.heap.size [] 45 _ hB (by simp) (by simp)).mono ?_)
  rintro x W3 ⟨rfl,hB3,b3,_⟩
  have b03':Below w.heap.size w W3:=b03.trans (b3.mono (Nat.le_of_lt s2))
  have e2:W3.cell? ⟨w.heap.size,2,none⟩=some (.int .i64 e):=by simp only [World.cell?,(b3.block _ s2).trans hb3]; rfl
  go_wp2_with (go_at_call 45; refine (hI _ b03').mono ?_)
  rintro x W4 ⟨rfl,b4⟩
  have b04:Below w.heap.size w W4:=b03'.trans (b4.mono b03'.size)
  have hB4:=BF (.inr hB3) b4
  have s4:W2.heap.size≤W4.heap.size:=Nat.le_trans (Nat.le_trans (by simp) b3.size) b4.size
  go_wp2_with (go_at_call 95; refine (Any.Builder_WriteString_k Dv tW W2.heap.size W2.heap.size _ (ByteArray.mk t.toArray++ByteArray.mk #[112]++ByteArray.mk u.toArray) _ hB4 (by rw [sZ]; simp; omega) s4).mono ?_)
  rintro x W5 ⟨rfl,hB5,b5,_⟩
  have b05:Below w.heap.size w W5:=b04.trans (b5.mono (Nat.le_of_lt s2))
  have hB5':Lib.IsBuilderF (sB.t 72) (sB.t 5) W2.heap.size W2.heap.size (Lib.byteCells (45::(t++[112]++u))) W5:=by
   rw [show Lib.byteCells (45::(t++[112]++u))=[]++[Value.int .u8 45]++Lib.strCells (ByteArray.mk t.toArray++ByteArray.mk #[112]++ByteArray.mk u.toArray) by rw [Lib.strCells_eq,sS]; rfl]
   exact .inr hB5
  go_wp2_with (go_at_call 96; refine (Any.Builder_String_any_k Dw tW W2.heap.size W2.heap.size _ _ hB5' (Nat.le_trans s4 b5.size)).mono ?_)
  rintro x W6 ⟨rfl,_,b6,_⟩
  go_wp2
  go_ret2
  exact ⟨by simp,b05.trans (b6.mono (Nat.le_of_lt s2))⟩
 | false =>
  go_wp2_with (go_at_call 45; refine (hI _ b03).mono ?_)
  rintro x W4 ⟨rfl,b4⟩
  have b04:Below w.heap.size w W4:=b03.trans (b4.mono b03.size)
  have hB4:=BF hB b4
  have s4:W2.heap.size≤W4.heap.size:=Nat.le_trans (by simp) b4.size
  go_wp2_with (go_at_call 95; refine (Any.Builder_WriteString_k Dv tW W2.heap.size W2.heap.size _ (ByteArray.mk t.toArray++ByteArray.mk #[112]++ByteArray.mk u.toArray) _ hB4 (by rw [sZ]; simp; omega) s4).mono ?_)
  rintro x W5 ⟨rfl,hB5,b5,_⟩
  have b05:Below w.heap.size w W5:=b04.trans (b5.mono (Nat.le_of_lt s2))
  have hB5':Lib.IsBuilderF (sB.t 72) (sB.t 5) W2.heap.size W2.heap.size (Lib.byteCells (t++[112]++u)) W5:=by
   rw [show Lib.byteCells (t++[112]++u)=[]++Lib.strCells (ByteArray.mk t.toArray++ByteArray.mk #[112]++ByteArray.mk u.toArray) by rw [Lib.strCells_eq,sS]; rfl]
   exact .inr hB5
  go_wp2_with (go_at_call 96; refine (Any.Builder_String_any_k Dw tW W2.heap.size W2.heap.size _ _ hB5' (Nat.le_trans s4 b5.size)).mono ?_)
  rintro x W6 ⟨rfl,_,b6,_⟩
  go_wp2
  go_ret2
  exact ⟨by simp,b05.trans (b6.mono (Nat.le_of_lt s2))⟩
end Go.Ab
