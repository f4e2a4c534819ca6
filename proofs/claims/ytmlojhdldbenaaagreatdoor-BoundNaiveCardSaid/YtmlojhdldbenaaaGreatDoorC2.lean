/-
  The statement BoundNaive holds of the given program: its card, with the tied table of bits.TrailingZeros32; no further conditions. Part C2.
-/
import Derived.Test.YtmlojhdldbenaaaGreatDoorC1
open Nat renaming reduceEqDiff → amO, reduceAdd → amP, reduceMul → amQ, reduceLeDiff → amR, reduceLT → amS, reduceBEq → amT, reduceSub → amY
open Int renaming reduceLT → amU, reduceToNat → amV, reduceLE → amW, reduceEq → amX
namespace Go.Ab
open Go Go.IntWalk
set_option maxRecDepth 4000
theorem Ux {N k:Nat} {f u:Int} {more:Bool} (hm:more=decide (N % 2 ^ k ≠ 0)) (hu:more=true→f+k < u):lD (N / 2 ^ k) (f+k) more u=lD N f false u:=by
 unfold lD
 by_cases h:u≤f+k
 ·rw [if_pos h]
  have hf:more=false:=by
   cases more with
   | false=>rfl
   | true=>exact absurd (hu rfl) (by omega)
  subst hf
  have h0:N % 2 ^ k=0:=by
   have:=of_decide_eq_false hm.symm
   omega
  obtain ⟨M,rfl⟩:=Nat.dvd_of_mod_eq_zero h0
  rw [Nat.mul_div_cancel_left _ (Nat.two_pow_pos k)]
  by_cases h2:u≤f
  ·rw [if_pos h2,show (f+k - u).toNat=k+(f - u).toNat by omega,Nat.pow_add,Nat.mul_comm (2 ^ k) M,Nat.mul_assoc]
  ·rw [if_neg h2]
   obtain ⟨j,hj⟩:∃ j,(f+k - u).toNat=j:=⟨_,rfl⟩
   obtain ⟨i,hi⟩:∃ i,(u - f).toNat=i:=⟨_,rfl⟩
   have hk:k=i+j:=by omega
   rw [hj,hi,hk,Nat.pow_add,Nat.mul_assoc,Nat.mul_div_cancel_left _ (Nat.two_pow_pos i),Nat.mul_mod_right,Nat.mul_comm M]
   rfl
 ·rw [if_neg h,if_neg (by omega)]
  obtain ⟨j,hj⟩:∃ j,(u - (f+k)).toNat=j:=⟨_,rfl⟩
  rw [show (u - f).toNat=k+j by omega,hj,Nat.pow_add,Nat.div_div_eq_div_mul,Nat.mod_mul,hm]
  refine Prod.ext rfl ?_
  show (decide (N % 2 ^ k ≠ 0) || decide (N / 2 ^ k % 2 ^ j ≠ 0))=(false || decide (N % 2 ^ k+2 ^ k*(N / 2 ^ k % 2 ^ j) ≠ 0))
  have h2:=Nat.two_pow_pos k
  rw [Bool.false_or,← Bool.decide_or]
  congr 1
  refine propext ⟨fun h3 h4 => ?_,fun h3 => ?_⟩
  ·obtain ⟨h5,h6⟩:=Nat.add_eq_zero_iff.1 h4
   rcases Nat.mul_eq_zero.1 h6 with h7 | h7
   ·omega
   ·exact h3.elim (fun h8=>h8 h5) (fun h8=>h8 h7)
  ·by_cases h5:N % 2 ^ k=0
   ·refine Or.inr fun h6=>h3 ?_
    rw [h5,h6,Nat.mul_zero]
   ·exact Or.inl h5
theorem Sk {N k:Nat} {f p:Int} (hM:N / 2 ^ k ≠ 0):cT (N / 2 ^ k) (f+k) p=cT N f p:=by
 have h1:=eu hM
 rw [du] at h1
 unfold cT
 rw [du,show f+(k:Int)+((ah N - k:Nat):Int) - p=f+(ah N:Nat) - p by omega]
theorem NO {N k:Nat} {f p:Int} {more up:Bool} (hM:N / 2 ^ k ≠ 0) (hm:more=decide (N % 2 ^ k ≠ 0)) (hp:more=true→p < (ah (N / 2 ^ k):Nat)):gp (N / 2 ^ k) (f+k) more p up=gp N f false p up:=by
 unfold gp
 have hu:more=true→f+k < cT (N / 2 ^ k) (f+k) p:=fun h=>by
  have:=hp h
  unfold cT
  split <;> omega
 rw [Ux hm hu,Sk hM]
theorem yC {M k:Nat} {f p:Int} {up:Bool} (hM:M ≠ 0):gp (M*2 ^ k) f false p up=gp M (f+k) false p up:=by
 have h1:M*2 ^ k / 2 ^ k=M:=Nat.mul_div_cancel _ (Nat.two_pow_pos k)
 have:=NO (N:=M*2 ^ k) (k:=k) (f:=f) (p:=p) (more:=false) (up:=up) (by rw [h1]; exact hM) (by rw [Nat.mul_mod_left]; rfl) (fun h=>absurd h Bool.false_ne_true)
 rw [h1] at this
 exact this.symm
def ji (z f p:Int) (up:Bool):Rd × Int:=if z=0 then (aQ,0) else gS (decide (z < 0)) (gp z.natAbs f false p (up != decide (z < 0)))
theorem zp {n:Nat} {f p:Int} {up neg:Bool} (h:n ≠ 0):ji (if neg=true then -(n:Int) else n) f p up=gS neg (gp n f false p (up != neg)):=by
 unfold ji
 cases neg with
 | true =>
  rw [if_pos rfl,if_neg (by omega),show decide (-(n:Int) < 0)=true from decide_eq_true (by omega),Int.natAbs_neg,Int.natAbs_natCast]
 | false =>
  rw [if_neg Bool.false_ne_true,if_neg (by omega),show decide ((n:Int) < 0)=false from decide_eq_false (by omega),Int.natAbs_natCast]
theorem GX {z f p:Int} {k:Nat} {up:Bool}:ji (z*2 ^ k) f p up=ji z (f+k) p up:=by
 unfold ji
 by_cases h:z=0
 ·rw [h,Int.zero_mul,if_pos rfl,if_pos rfl]
 ·have h2:(0:Int) < 2 ^ k:=Int.pow_pos (by decide)
  have h3:z*2 ^ k ≠ 0:=fun h3=>by
   rcases Int.mul_eq_zero.1 h3 with h4 | h4
   ·exact h h4
   ·omega
  have h4:decide (z*2 ^ k < 0)=decide (z < 0):=by
   congr 1
   refine propext ⟨fun h5 => ?_,fun h5=>Int.mul_neg_of_neg_of_pos h5 h2⟩
   refine Int.not_le.1 fun h6 => ?_
   have:=Int.mul_nonneg h6 (Int.le_of_lt h2)
   omega
  rw [if_neg h,if_neg h3,h4,Int.natAbs_mul,Int.natAbs_pow,show (2:Int).natAbs=2 from rfl,yC (fun h5=>h (Int.natAbs_eq_zero.1 h5))]
end Go.Ab
namespace Go.Ab
open Go Go.IntWalk
set_option maxRecDepth 4000
def bq (neg:Bool) (n:Nat):Int:=if neg=true then -(n:Int) else n
theorem fl (n:Nat):bq true n = -(n:Int):=rfl
theorem fm (n:Nat):bq false n=(n:Int):=rfl
def KL (an:Bool) (p:Int) (up:Bool) (s:(Nat × Int × Bool) × Bool):Rd × Int:=if s.1.1=0∧s.1.2.2=false then (aQ,0) else gS (an != s.2) (gp s.1.1 s.1.2.1 s.1.2.2 p (up != (an != s.2)))
theorem wd {an:Bool} {p:Int} {up:Bool} {N K:Nat} {f:Int} {more t:Bool} (hM:N / 2 ^ K ≠ 0) (hm:more=decide (N % 2 ^ K ≠ 0)) (hp:more=true→p < (ah (N / 2 ^ K):Nat)) :
  KL an p up ((N / 2 ^ K,f+K,more),t)=ji (bq (an != t) N) f p up:=by
 have h0:N ≠ 0:=fun h=>by
  rw [h,Nat.zero_div] at hM
  exact hM rfl
 unfold bq
 rw [zp h0,KL,if_neg (fun h=>hM h.1)]
 show gS (an != t) (gp (N / 2 ^ K) (f+K) more p (up != (an != t)))=_
 rw [NO hM hm hp]
theorem Uy {x Y K:Nat} {f p:Int} {up an bn:Bool} (hx:x ≠ 0) (hlost:Y % 2 ^ K ≠ 0→p < (ah (x - (Y / 2 ^ K+1)):Nat)∧p < (ah (x+Y / 2 ^ K):Nat)∧Y / 2 ^ K+1 < x) :
  KL an p up (FM an bn x (Y / 2 ^ K) (f+K) (decide (Y % 2 ^ K ≠ 0)))=ji (bq an (x*2 ^ K)+bq bn Y) f p up:=by
 have h2:=Nat.two_pow_pos K
 have hd:=Nat.div_add_mod Y (2 ^ K)
 have hlt:=Nat.mod_lt Y h2
 unfold FM
 by_cases hs:an=bn
 ·subst hs
  rw [if_pos rfl]
  have e1:x+Y / 2 ^ K=(x*2 ^ K+Y) / 2 ^ K:=by
   rw [Nat.mul_comm x,Nat.mul_add_div h2]
  have e2:(x*2 ^ K+Y) % 2 ^ K=Y % 2 ^ K:=by
   rw [Nat.mul_comm x,Nat.mul_add_mod]
  have e3:bq an (x*2 ^ K)+bq an Y=bq (an != false) (x*2 ^ K+Y):=by
   cases an
   ·show bq false _+bq false _=bq false _
    rw [fm,fm,fm]
    omega
   ·show bq true _+bq true _=bq true _
    rw [fl,fl,fl]
    omega
  rw [e3,e1,wd]
  ·rw [← e1]
   exact fun h=>hx (Nat.add_eq_zero_iff.1 h).1
  ·rw [e2]
  ·intro h
   rw [← e1]
   exact (hlost (of_decide_eq_true h)).2.1
 ·have hbn:bn = !an:=by
   cases an <;> cases bn <;> first | rfl | exact absurd rfl hs
  subst hbn
  rw [if_neg hs]
  by_cases hl:Y % 2 ^ K ≠ 0
  ·obtain ⟨g1,g2,g3⟩:=hlost hl
   have e0:kO (Y / 2 ^ K,decide (Y % 2 ^ K ≠ 0))=Y / 2 ^ K+1:=by
    unfold kO
    rw [if_pos (decide_eq_true hl)]
   rw [e0,if_neg (by omega)]
   obtain ⟨y,hy⟩:∃ y,Y / 2 ^ K=y:=⟨_,rfl⟩
   rw [hy] at hd g1 g2 g3 ⊢
   have e1:(x - (y+1))*2 ^ K+(2 ^ K - Y % 2 ^ K)=x*2 ^ K - Y:=by
    have e4:(x - (y+1))*2 ^ K=x*2 ^ K - (2 ^ K*y+2 ^ K):=by
     rw [Nat.sub_mul,Nat.add_mul,Nat.one_mul,Nat.mul_comm y]
    have e5:2 ^ K*y+2 ^ K≤x*2 ^ K:=by
     have:(y+1)*2 ^ K≤x*2 ^ K:=Nat.mul_le_mul_right _ (by omega)
     rw [Nat.add_mul,Nat.one_mul,Nat.mul_comm y] at this
     exact this
    omega
   have e6:(x*2 ^ K - Y) / 2 ^ K=x - (y+1):=by
    rw [← e1,Nat.mul_comm (x - (y+1)),Nat.mul_add_div h2,Nat.div_eq_of_lt (by omega)]
    rfl
   have e7:(x*2 ^ K - Y) % 2 ^ K=2 ^ K - Y % 2 ^ K:=by
    rw [← e1,Nat.mul_comm (x - (y+1)),Nat.mul_add_mod,Nat.mod_eq_of_lt (by omega)]
   have e8:Y≤x*2 ^ K:=by
    have:(y+1)*2 ^ K≤x*2 ^ K:=Nat.mul_le_mul_right _ (by omega)
    rw [Nat.add_mul,Nat.one_mul,Nat.mul_comm y] at this
    omega
   have e3:bq an (x*2 ^ K)+bq (!an) Y=bq (an != false) (x*2 ^ K - Y):=by
    cases an
    ·show bq false _+bq true _=bq false _
     simp only [fl,fm]
     omega
    ·show bq true _+bq false _=bq true _
     simp only [fl,fm]
     omega
   rw [e3,← e6,wd]
   ·rw [e6]
    omega
   ·rw [e7]
    rw [decide_eq_true hl]
    exact (decide_eq_true (by omega)).symm
   ·intro _
    rw [e6]
    exact g1
  ·have hl0:Y % 2 ^ K=0:=by omega
   have e0:kO (Y / 2 ^ K,decide (Y % 2 ^ K ≠ 0))=Y / 2 ^ K:=by
    unfold kO
    rw [if_neg (fun h=>hl (of_decide_eq_true h))]
   rw [e0,hl0,show decide ((0:Nat) ≠ 0)=false from rfl]
   rw [hl0,Nat.add_zero] at hd
   obtain ⟨y,hy⟩:∃ y,Y / 2 ^ K=y:=⟨_,rfl⟩
   rw [hy] at hd ⊢
   subst hd
   by_cases hxy:x < y
   ·rw [if_pos hxy]
    have e6:((y - x)*2 ^ K) / 2 ^ K=y - x:=Nat.mul_div_cancel _ h2
    have e9:x*2 ^ K≤y*2 ^ K:=Nat.mul_le_mul_right _ (by omega)
    have e3:bq an (x*2 ^ K)+bq (!an) (2 ^ K*y)=bq (an != true) ((y - x)*2 ^ K):=by
     rw [Nat.sub_mul,Nat.mul_comm _ y]
     cases an
     ·show bq false _+bq true _=bq true _
      simp only [fl,fm]
      omega
     ·show bq true _+bq false _=bq false _
      simp only [fl,fm]
      omega
    rw [e3]
    have:=wd (an:=an) (p:=p) (up:=up) (N:=(y - x)*2 ^ K) (K:=K) (f:=f) (more:=false) (t:=true) (by rw [e6]; omega) (by rw [Nat.mul_mod_left]; rfl) (fun h=>absurd h Bool.false_ne_true)
    rw [e6] at this
    exact this
   ·rw [if_neg hxy]
    by_cases hE:x=y
    ·subst hE
     have e3:bq an (x*2 ^ K)+bq (!an) (2 ^ K*x)=0:=by
      rw [Nat.mul_comm _ x]
      cases an
      ·show bq false _+bq true _=0
       simp only [fl,fm]
       omega
      ·show bq true _+bq false _=0
       simp only [fl,fm]
       omega
     rw [e3,KL,if_pos ⟨Nat.sub_self x,rfl⟩,ji,if_pos rfl]
    ·have e6:((x - y)*2 ^ K) / 2 ^ K=x - y:=Nat.mul_div_cancel _ h2
     have e9:y*2 ^ K≤x*2 ^ K:=Nat.mul_le_mul_right _ (by omega)
     have e3:bq an (x*2 ^ K)+bq (!an) (2 ^ K*y)=bq (an != false) ((x - y)*2 ^ K):=by
      rw [Nat.sub_mul,Nat.mul_comm _ y]
      cases an
      ·show bq false _+bq true _=bq false _
       simp only [fl,fm]
       omega
      ·show bq true _+bq false _=bq true _
       simp only [fl,fm]
       omega
     rw [e3]
     have:=wd (an:=an) (p:=p) (up:=up) (N:=(x - y)*2 ^ K) (K:=K) (f:=f) (more:=false) (t:=false) (by rw [e6]; omega) (by rw [Nat.mul_mod_left]; rfl) (fun h=>absurd h Bool.false_ne_true)
     rw [e6] at this
     exact this
end Go.Ab
namespace Go.Ab
open Go Go.IntWalk
set_option maxRecDepth 4000
theorem abx {b:Rd} {l:Int} (h1 : -40000≤l) (h2 : -40000≤b.e):yZ b l=(ab b.m*2 ^ (b.e+40000).toNat / 2 ^ (l+40000).toNat,decide (ab b.m*2 ^ (b.e+40000).toNat % 2 ^ (l+40000).toNat ≠ 0)):=by
 unfold yZ
 by_cases h:l≤b.e
 ·rw [if_pos h,show (b.e+40000).toNat=(b.e - l).toNat+(l+40000).toNat by omega,Nat.pow_add,← Nat.mul_assoc,Nat.mul_div_cancel _ (Nat.two_pow_pos _),Nat.mul_mod_left]
  rfl
 ·have h3:=Nat.two_pow_pos (b.e+40000).toNat
  rw [if_neg h,show (l+40000).toNat=(l - b.e).toNat+(b.e+40000).toNat by omega,Nat.pow_add,Nat.mul_div_mul_right _ _ h3,Nat.mul_mod_mul_right]
  refine Prod.ext rfl ?_
  show decide _=decide _
  congr 1
  refine propext ⟨fun h4 h5 => ?_,fun h4 h5=>h4 ?_⟩
  ·rcases Nat.mul_eq_zero.1 h5 with h6 | h6
   ·exact h4 h6
   ·omega
  ·rw [h5,Nat.zero_mul]
theorem KM {d:Rd} {k:Nat} (h : -16384≤d.e) (n:Nat) (hn:n=(d.e+16384).toNat+k):zI d*2 ^ k=bq d.neg (ab d.m*2 ^ n):=by
 subst hn
 have h1:(mg d:Int)*2 ^ k=((ab d.m*2 ^ ((d.e+16384).toNat+k):Nat):Int):=by
  unfold mg
  rw [Nat.pow_add,← Nat.mul_assoc,Int.natCast_mul _ (2 ^ k),Int.natCast_pow]
  rfl
 unfold zI bq
 cases d.neg with
 | true=>rw [if_pos rfl,if_pos rfl,Int.neg_mul,h1]
 | false=>rw [if_neg Bool.false_ne_true,if_neg Bool.false_ne_true,h1]
theorem Sl {a b:Rd} {p:Int} (h:b.e < mB a b p):2 < aL a - aL b∧mB a b p≤aL a - p - 8:=by
 unfold mB at h ⊢
 by_cases h1:aL a - aL b≤2
 ·rw [if_pos h1] at h
  split at h <;> omega
 ·rw [if_neg h1]
  split <;> omega
theorem NP {a b:Rd} (oa:Ok0 a) (ob:Ok0 b) (va:vd a=true) (vb:vd b=true) (na:a.m.length ≠ 0) (nb:b.m.length ≠ 0) {p:Int} {up:Bool} (hp:8≤p∧p≤512) (ht:aL b≤aL a) :
  KK a b p up=ji (zI a+zI b) (-16384) p up:=by
 have e1:=iD va na
 have e2:=iD vb nb
 obtain ⟨a1,a2,a3,a4⟩:=cO va oa.lb
 obtain ⟨b1,b2,b3,b4⟩:=cO vb ob.lb
 have l1:=FL (a:=a) (b:=b) (p:=p)
 have l2:=B4 va vb oa.lb ob.lb na nb hp ht
 have l3:=Sl (a:=a) (b:=b) (p:=p)
 have ba:=eu (db va na)
 have bb:=eu (db vb nb)
 show KL a.neg p up (qP a b p)=_
 rw [FN]
 obtain ⟨l,hl⟩:∃ l,mB a b p=l:=⟨_,rfl⟩
 rw [hl] at l1 l2 l3 ⊢
 obtain ⟨K,hK⟩:∃ K,(l+40000).toNat=K:=⟨_,rfl⟩
 obtain ⟨n1,hn1⟩:∃ n,(a.e - l).toNat=n:=⟨_,rfl⟩
 obtain ⟨n2,hn2⟩:∃ n,(b.e+40000).toNat=n:=⟨_,rfl⟩
 have hx:ab a.m*2 ^ n1 ≠ 0:=Nat.mul_ne_zero (db va na) (Nat.pos_iff_ne_zero.1 (Nat.two_pow_pos _))
 rw [abx (by omega) (by omega),hK,hn1,hn2]
 have bx:ah (ab a.m*2 ^ n1)=ah (ab a.m)+n1:=da _ (db va na)
 have by':ah (ab b.m*2 ^ n2 / 2 ^ K)=ah (ab b.m)+n2 - K:=by rw [du,da _ (db vb nb)]
 have hlK:l = -40000+(K:Int):=by omega
 rw [hlK,Uy hx]
 ·obtain ⟨k,hk⟩:∃ k:Nat,k=23616:=⟨_,rfl⟩
  rw [Nat.mul_assoc,← Nat.pow_add,← KM (k:=k) a2 (n1+K) (by omega),← KM (k:=k) b2 n2 (by omega),← Int.add_mul,GX,show (-40000:Int)+(k:Nat) = -16384 by omega]
 ·intro hne
  have hb:b.e < l:=by
   refine Int.not_le.1 fun h=>hne ?_
   rw [show n2=(b.e - l).toNat+K by omega,Nat.pow_add,← Nat.mul_assoc,Nat.mul_mod_left]
  obtain ⟨g1,g2⟩:=l3 hb
  obtain ⟨X,hX⟩:∃ X,ab a.m*2 ^ n1=X:=⟨_,rfl⟩
  obtain ⟨Y,hY⟩:∃ Y,ab b.m*2 ^ n2 / 2 ^ K=Y:=⟨_,rfl⟩
  rw [hX] at bx ⊢
  rw [hY] at by' ⊢
  obtain ⟨t,hT⟩:∃ t,ah X=t+4:=⟨ah X - 4,by omega⟩
  have hX2:2 ^ (t+3)≤X:=nP.1 (by omega)
  have hY2:Y < 2 ^ (t+1):=bl.1 (by omega)
  have q1:2 ^ (t+3)=4*2 ^ (t+1):=by rw [Nat.pow_succ,Nat.pow_succ]; omega
  have q2:2 ^ (t+2)=2*2 ^ (t+1):=by rw [Nat.pow_succ]; omega
  have g3:t+2 < ah (X - (Y+1)):=nP.2 (by omega)
  have g4:t+3 < ah (X+Y):=nP.2 (by omega)
  exact ⟨by omega,by omega,by omega⟩
def iE (a b:Rd) (p:Int) (up:Bool):Rd × Int:=if aZ p [a,b]=0 then ji (zI a+zI b) (-16384) p up else (aQ,aZ p [a,b])
def aO (a b:Rd) (p:Int) (up:Bool):Rd × Int:=if aZ p [a,b]=0 then ji (zI a*zI b) (-32768) p up else (aQ,aZ p [a,b])
theorem ia {d:Rd} (h:d.m.length=0):zI d=0:=by
 unfold zI
 rw [FJ h]
 split <;> rfl
theorem WG {p:Int} {up:Bool} (hp:8≤p∧p≤512):gp 0 0 false p up=(aQ,0):=by
 have hu : -600≤cT 0 0 p∧cT 0 0 p≤0:=by
  unfold cT
  rw [lC]
  split <;> omega
 unfold gp
 obtain ⟨u,he⟩:∃ u,cT 0 0 p=u:=⟨_,rfl⟩
 rw [he] at hu ⊢
 have hq:iG up (lD 0 0 false u)=0:=by
  unfold lD iG
  rw [if_pos (show u≤0 by omega),Nat.zero_mul,Bool.and_false,if_neg Bool.false_ne_true]
 unfold o5
 rw [hq,lC,if_neg (by omega)]
 unfold aU nA
 rw [if_pos rfl,if_pos (by decide)]
theorem tA {d:Rd} (ok:Ok0 d) {p:Int} {up:Bool}:j6 d p up=if aZ p [d]=0 then ji (zI d) (-16384) p up else (aQ,aZ p [d]):=by
 unfold j6
 by_cases h0:aZ p [d]=0
 ·obtain ⟨v1,v2,v3⟩:=ix h0
  have v4:vd d=true:=by simpa using v1
  obtain ⟨h1,h2,h3,h4⟩:=cO v4 ok.lb
  rw [if_pos h0,if_pos h0]
  by_cases hd:d.m.length=0
  ·have hz:=zo v4 hd
   subst hz
   rw [ia rfl,ji,if_pos rfl]
   show gS false (gp 0 0 false p (up != false))=_
   rw [WG ⟨v2,v3⟩]
   rfl
  ·have hv:=db v4 hd
   have hm:=DI v4 hd
   unfold zI
   rw [zp (by omega)]
   unfold mg
   rw [yC hv,show -16384+(((d.e+16384).toNat:Nat):Int)=d.e by omega]
 ·rw [if_neg h0,if_neg h0]
theorem WH {a b:Rd} (oa:Ok0 a) (ob:Ok0 b) {p:Int} {up:Bool}:FO a b p up=iE a b p up:=by
 unfold FO iE
 by_cases h0:aZ p [a,b]=0
 ·obtain ⟨v1,hp⟩:=ix h0
  have v4:vd a=true∧vd b=true:=by simpa using v1
  have f1:∀ d,vd d=true→aZ p [d]=0:=fun d hd=>by
   unfold aZ
   rw [if_pos (by simpa using hd),if_pos hp]
  rw [if_pos h0,if_pos h0]
  by_cases a0:a.m.length=0
  ·rw [if_pos a0,tA ob,if_pos (f1 b v4.2),ia a0,Int.zero_add]
  rw [if_neg a0]
  by_cases b0:b.m.length=0
  ·rw [if_pos b0,tA oa,if_pos (f1 a v4.1),ia b0,Int.add_zero]
  rw [if_neg b0]
  by_cases ht:aL a < aL b
  ·rw [if_pos ht,NP ob oa v4.2 v4.1 b0 a0 hp (by omega),Int.add_comm]
  ·rw [if_neg ht,NP oa ob v4.1 v4.2 a0 b0 hp (by omega)]
 ·rw [if_neg h0,if_neg h0]
theorem NQ {a b:Rd} (oa:Ok0 a) (ob:Ok0 b) {p:Int} {up:Bool}:yB a b p up=aO a b p up:=by
 unfold yB aO
 by_cases h0:aZ p [a,b]=0
 ·obtain ⟨v1,hp⟩:=ix h0
  have v4:vd a=true∧vd b=true:=by simpa using v1
  obtain ⟨va,vb⟩:=v4
  obtain ⟨a1,a2,a3,a4⟩:=cO va oa.lb
  obtain ⟨b1,b2,b3,b4⟩:=cO vb ob.lb
  rw [if_pos h0,if_pos h0]
  by_cases a0:a.m.length=0
  ·rw [if_pos (Or.inl a0),ia a0,Int.zero_mul,ji,if_pos rfl]
  by_cases b0:b.m.length=0
  ·rw [if_pos (Or.inr b0),ia b0,Int.mul_zero,ji,if_pos rfl]
  rw [if_neg (fun h=>h.elim a0 b0)]
  have hz:zI a*zI b=bq (a.neg != b.neg) (mg a*mg b):=by
   unfold zI bq
   cases a.neg <;> cases b.neg <;> simp [Int.mul_neg,Int.neg_mul]
  have hm:mg a*mg b=ab a.m*ab b.m*2 ^ ((a.e+16384).toNat+(b.e+16384).toNat):=by
   unfold mg
   rw [Nat.pow_add]
   ac_rfl
  have hv:ab a.m*ab b.m ≠ 0:=Nat.mul_ne_zero (db va a0) (db vb b0)
  rw [hz]
  unfold bq
  rw [zp (Nat.mul_ne_zero (Nat.pos_iff_ne_zero.1 (DI va a0)) (Nat.pos_iff_ne_zero.1 (DI vb b0))),hm,yC hv]
  rw [show -32768+(((a.e+16384).toNat+(b.e+16384).toNat:Nat):Int)=a.e+b.e by omega]
 ·rw [if_neg h0,if_neg h0]
end Go.Ab
namespace Go.Ab
open Go Go.IntWalk
set_option maxRecDepth 4000
theorem fg {neg:Bool} {M:Nat} {e:Int} (h:M ≠ 0):aU neg M e=⟨neg,ap (M / 2 ^ tz M),e+tz M⟩:=by
 unfold aU
 rw [if_neg h]
theorem dc {neg:Bool} {e:Int}:aU neg 0 e=aQ:=by
 unfold aU
 rw [if_pos rfl]
theorem rC {neg:Bool} {M k:Nat} {e:Int}:aU neg (M*2 ^ k) e=aU neg M (e+k):=by
 by_cases h:M=0
 ·rw [h,Nat.zero_mul,dc,dc]
 ·have h2:M*2 ^ k ≠ 0:=Nat.mul_ne_zero h (Nat.pos_iff_ne_zero.1 (Nat.two_pow_pos k))
  rw [fg h,fg h2,Nat.mul_comm M,C6 k h,Nat.pow_add,Nat.mul_div_mul_left _ _ (Nat.two_pow_pos k)]
  rw [show e+((k+tz M:Nat):Int)=e+k+tz M by omega]
theorem pA {neg:Bool} {M:Nat} {e:Int} (h:M ≠ 0):ab (aU neg M e).m=M / 2 ^ tz M∧(aU neg M e).e=e+tz M∧M / 2 ^ tz M % 2=1∧ah (M / 2 ^ tz M)+tz M=ah M:=by
 obtain ⟨h1,h2⟩:=pq h
 refine ⟨?_,?_,h2,?_⟩
 ·rw [fg h]
  exact aF _
 ·rw [fg h]
 ·have h3:=da (n:=M / 2 ^ tz M) (tz M) (by omega)
  rw [Nat.mul_comm,← h1] at h3
  exact h3.symm
theorem KN {neg:Bool} {M:Nat} {e:Int} (h:M ≠ 0) (h1:ah M≤4096) (h2 : -16384≤e) (h3:(ah M:Nat)+e≤16384):mu (ah (ab (aU neg M e).m)) (aU neg M e).e=true:=by
 obtain ⟨g1,g2,g3,g4⟩:=pA (neg:=neg) (e:=e) h
 rw [g1,g2]
 have g5:0 < ah (M / 2 ^ tz M):=eu (by omega)
 unfold mu
 rw [decide_eq_true (p:=ah (M / 2 ^ tz M)≤4096) (by omega),decide_eq_true (p := -16384≤e+(tz M:Int)) (by omega),decide_eq_true (p:=e+(tz M:Int)≤16384) (by omega),decide_eq_true (p:=((ah (M / 2 ^ tz M):Nat):Int)+(e+(tz M:Int))≤16384) (by omega)]
 simp
theorem NR {neg:Bool} {M:Nat} {e:Int} (h:mu (ah (ab (aU neg M e).m)) (aU neg M e).e=true):vd (aU neg M e)=true:=by
 by_cases h0:M=0
 ·subst h0
  rw [dc]
  rfl
 ·obtain ⟨g1,g2,g3,g4⟩:=pA (neg:=neg) (e:=e) h0
  have hn:M / 2 ^ tz M ≠ 0:=by omega
  rw [g1] at h
  have hb:=(NI h (Nat.pos_iff_ne_zero.1 (eu hn))).1
  rw [fg h0] at h ⊢
  unfold vd
  have hl:(ap (M / 2 ^ tz M)).length≤128:=aK (by omega)
  have hl0:(ap (M / 2 ^ tz M)).length ≠ 0:=fun h5=>hn (gB.1 (List.length_eq_zero_iff.1 h5))
  have ht:(ap (M / 2 ^ tz M)).getD ((ap (M / 2 ^ tz M)).length - 1) 0 ≠ 0:=(yd _).resolve_left (fun h5=>hn (gB.1 h5))
  have ho:(ap (M / 2 ^ tz M)).getD 0 0 % 2=1:=by
   rw [jf hn]
   show (M / 2 ^ tz M) % 4294967296 % 2=1
   omega
  rw [aF,if_neg hl0,decide_eq_true (p:=(ap (M / 2 ^ tz M)).length≤256) (by omega),decide_eq_true ho,decide_eq_true ht]
  exact h
theorem Uz {neg:Bool} {M:Nat} {e:Int} (h1:ah M≤4096) (h2 : -16384≤e) (h3:(ah M:Nat)+e≤16384):nA (aU neg M e)=(aU neg M e,0):=by
 unfold nA
 by_cases h:M=0
 ·subst h
  rw [dc,if_pos (by decide)]
 ·rw [if_pos (KN h h1 h2 h3)]
theorem UA {M:Nat} {e:Int} (h1:ah M≤4096) (h2 : -16384≤e) (h3:(ah M:Nat)+e≤16384):cP (aU false M e)=aU true M e:=by
 by_cases h:M=0
 ·subst h
  rw [dc,dc]
  rfl
 ·have hv:=NR (KN (neg:=false) h h1 h2 h3)
  obtain ⟨g1,g2,g3,g4⟩:=pA (neg:=false) (e:=e) h
  unfold cP
  rw [if_neg]
  ·rw [fg h,fg h]
   rfl
  ·intro h5
   rcases h5 with h5 | h5
   ·rw [hv] at h5
    exact Bool.false_ne_true h5.symm
   ·rw [List.length_eq_zero_iff.1 h5] at g1
    have:ab []=0:=rfl
    omega
theorem NS {neg:Bool} {M:Nat} {e:Int} (h1:ah M≤4096) (h2 : -16384≤e) (h3:(ah M:Nat)+e≤16384):gS neg (nA (aU false M e))=(aU neg M e,0):=by
 rw [Uz h1 h2 h3]
 unfold gS
 cases neg with
 | false=>rw [if_neg (fun h=>Bool.false_ne_true h.2)]
 | true =>
  rw [if_pos ⟨rfl,rfl⟩]
  show (cP (aU false M e),(0:Int))=_
  rw [UA h1 h2 h3]
def B6 (M:Nat) (e p:Int):Nat:=(max (max ((ah M:Nat) - p) (0 - 16384 - e)) 0).toNat
def KO (M k:Nat) (more out:Bool):Nat:=if ((more || decide (M % 2 ^ k ≠ 0)) && out)=true then M / 2 ^ k+1 else M / 2 ^ k
def we (neg out:Bool) (p:Int) (q:Nat) (e:Int):Rd × Int:=if q ≠ 0∧16384 < (ah q:Nat)+e then (if out=true then (aQ,9) else (aU neg (2 ^ p.toNat - 1) (16384 - p),0)) else (aU neg q e,0)
def mU (neg:Bool) (M:Nat) (e:Int) (more:Bool) (p:Int) (up:Bool):Rd × Int:=we neg (neg != up) p (KO M (B6 M e p) more (neg != up)) (e+B6 M e p)
theorem KP {p:Int} {neg up:Bool} {q:Nat} {u:Int} (hp:8≤p∧p≤512) (hq:ah q≤4096) (hu : -16384≤u) (h0:q=0→u≤16384):gS neg (o5 p up q u)=we neg up p q u:=by
 unfold o5 we
 by_cases h:16384 < ((ah q:Nat):Int)+u
 ·have hq0:q ≠ 0:=fun h1=>by
   have:=h0 h1
   rw [h1,lC] at h
   omega
  rw [if_pos h,if_pos (show q ≠ 0∧16384 < ((ah q:Nat):Int)+u from ⟨hq0,h⟩)]
  cases up with
  | true =>
   rw [if_pos rfl,if_pos rfl]
   unfold gS
   rw [if_neg (fun h=>nomatch h.1)]
  | false =>
   rw [if_neg Bool.false_ne_true,if_neg Bool.false_ne_true]
   have hb:=B3 p.toNat
   rw [NS (by omega) (by omega) (by omega)]
 ·rw [if_neg h,if_neg (fun h2=>h h2.2),NS hq hu (by omega)]
theorem PR {neg out:Bool} {p:Int} {M k:Nat} {e:Int}:we neg out p (M*2 ^ k) e=we neg out p M (e+k):=by
 unfold we
 rw [rC]
 by_cases h:M=0
 ·rw [h,Nat.zero_mul,if_neg (fun h=>h.1 rfl),if_neg (fun h=>h.1 rfl)]
 ·have h2:M*2 ^ k ≠ 0:=Nat.mul_ne_zero h (Nat.pos_iff_ne_zero.1 (Nat.two_pow_pos k))
  have h3:(M*2 ^ k ≠ 0∧16384 < ((ah (M*2 ^ k):Nat):Int)+e)=(M ≠ 0∧16384 < ((ah M:Nat):Int)+(e+k)):=by
   rw [da _ h]
   exact propext ⟨fun h4=>⟨h,by omega⟩,fun h4=>⟨h2,by omega⟩⟩
  simp only [h3]
theorem yD (q:Nat):ah (q+1)≤ah q+1:=by
 rw [bl,Nat.pow_succ]
 have:=bl.1 (Nat.le_refl (ah q))
 have:=Nat.two_pow_pos (ah q)
 omega
theorem Sm {neg:Bool} {M:Nat} {e p:Int} {more up:Bool} (hp:8≤p∧p≤512) (hM:M ≠ 0) (hm:more=true→p < (ah M:Nat)):mU neg M e more p up=gS neg (gp M e more p (up != neg)):=by
 have hx:(neg != up)=(up != neg):=by cases neg <;> cases up <;> rfl
 have hb:=eu hM
 unfold mU
 rw [hx]
 unfold gp
 obtain ⟨u,hu⟩:∃ u,cT M e p=u:=⟨_,rfl⟩
 obtain ⟨k,hk⟩:∃ k,B6 M e p=k:=⟨_,rfl⟩
 rw [hu,hk]
 unfold cT at hu
 unfold B6 at hk
 have hu1 : -16384≤u∧e+(ah M:Nat) - p≤u:=by
  split at hu <;> omega
 by_cases hc:u≤e
 ·have hk0:k=0:=by
   split at hu <;> omega
  have hmf:more=false:=by
   cases more with
   | false=>rfl
   | true=>have:=hm rfl; omega
  subst hk0
  subst hmf
  unfold lD KO
  rw [if_pos hc,Nat.pow_zero,Nat.mod_one,show (false || decide ((0:Nat) ≠ 0))=false from rfl,Bool.false_and,if_neg Bool.false_ne_true,Nat.div_one]
  unfold iG
  rw [Bool.and_false,if_neg Bool.false_ne_true]
  have hq:=da (e - u).toNat hM
  rw [KP hp (by rw [hq]; omega) hu1.1 (fun h=>absurd (Nat.mul_eq_zero.1 h) (fun h2=>h2.elim hM (fun h3=>absurd h3 (Nat.pos_iff_ne_zero.1 (Nat.two_pow_pos _)))))]
  rw [PR,show u+(((e - u).toNat:Nat):Int)=e+((0:Nat):Int) by omega]
 ·have hk0:k=(u - e).toNat:=by
   split at hu <;> omega
  unfold lD KO
  rw [if_neg hc,← hk0]
  have hq:ah (M / 2 ^ k)≤513:=by
   rw [du]
   omega
  have hq2:=yD (M / 2 ^ k)
  have h3:iG (up != neg) (M / 2 ^ k,more || decide (M % 2 ^ k ≠ 0))=if ((more || decide (M % 2 ^ k ≠ 0)) && (up != neg))=true then M / 2 ^ k+1 else M / 2 ^ k:=by
   unfold iG
   rw [Bool.and_comm]
  rw [h3]
  rw [KP hp (by split <;> omega) hu1.1]
  ·rw [show e+(k:Int)=u by omega]
  ·intro h4
   split at h4
   ·exact absurd h4 (Nat.succ_ne_zero _)
   ·refine Int.not_lt.1 fun h5 => ?_
    have h6:ah (M / 2 ^ k)=0:=by rw [h4]; rfl
    rw [du] at h6
    split at hu <;> omega
theorem PS {neg:Bool} {M:Nat} {e p:Int} {up:Bool} (hp:8≤p∧p≤512):mU neg M e false p up=ji (bq neg M) e p up:=by
 by_cases hM:M=0
 ·subst hM
  have:bq neg 0=0:=by cases neg <;> rfl
  rw [this,ji,if_pos rfl]
  unfold mU KO we
  rw [Nat.zero_mod,Nat.zero_div]
  rw [show (false || decide ((0:Nat) ≠ 0))=false from rfl,Bool.false_and,if_neg Bool.false_ne_true,if_neg (fun h=>h.1 rfl),dc]
 ·rw [Sm hp hM (fun h=>absurd h Bool.false_ne_true)]
  unfold bq
  rw [zp hM]
theorem u3 {z f p:Int} {up:Bool}:vd (ji z f p up).1=true∧Ok0 (ji z f p up).1:=by
 have h0:vd aQ=true∧Ok0 aQ:=⟨rfl,⟨fun x hx=>(nomatch hx),by decide⟩⟩
 have hc:∀ (q:Nat) (u:Int),vd (nA (aU false q u)).1=true∧Ok0 (nA (aU false q u)).1:=fun q u=>by
  unfold nA
  by_cases h:mu (ah (ab (aU false q u).m)) (aU false q u).e=true
  ·rw [if_pos h]
   have hv:=NR h
   have hb:=rH false q u
   exact ⟨hv,hb,Nat.lt_of_le_of_lt (DK hv hb) (by decide)⟩
  ·rw [if_neg h]
   exact h0
 have he:∀ (up:Bool) (q:Nat) (u:Int),vd (o5 p up q u).1=true∧Ok0 (o5 p up q u).1:=fun up q u=>by
  unfold o5
  split
  ·split
   ·exact h0
   ·exact hc _ _
  ·exact hc _ _
 have hs:∀ (neg:Bool) (r:Rd × Int),(vd r.1=true∧Ok0 r.1)→vd (gS neg r).1=true∧Ok0 (gS neg r).1:=fun neg r hr=>by
  unfold gS cP
  split
  ·show vd (if vd r.1=false∨r.1.m.length=0 then aQ else ⟨!r.1.neg,r.1.m,r.1.e⟩)=true∧Ok0 (if vd r.1=false∨r.1.m.length=0 then aQ else ⟨!r.1.neg,r.1.m,r.1.e⟩)
   split
   ·exact h0
   ·rename_i h5
    have h6:r.1.m.length ≠ 0:=fun h7=>h5 (Or.inr h7)
    refine ⟨?_,hr.2.1,hr.2.2⟩
    have h7:=hr.1
    unfold vd at h7 ⊢
    rw [if_neg h6] at h7 ⊢
    exact h7
  ·exact hr
 unfold ji
 split
 ·exact h0
 ·exact hs _ _ (he _ _ _)
end Go.Ab
namespace Go.Ab
open Go Go.IntWalk
set_option maxRecDepth 4000
def j7:Cmd := .seq (.ops [2,3,4,8,11,12] [⟨(some 52),none,.load 3 true (.t 4)⟩,⟨(some 53),none,.load 3 true (.t 5)⟩,cm 54 2,⟨(some 55),none,.call (.c (.fn F.round_sum [] [])) [(.t 52),(.t 53),(.t 54)]⟩,cm 51 55,co 56 (.ext 0 (.t 51)),co 57 (.ext 1 (.t 51)),⟨(some 11),none,.alloc [.emp,(.v (.int .i64 0)),(.v (.bool false))]⟩,⟨none,none,.store 3 (.t 11) (.t 56)⟩,cm 12 57]) (.seq (.seq (.ops [2,3,4,8,11,12,66] [co 58 (.fadr 0 (.t 11)),⟨(some 59),none,.load 1 false (.t 58)⟩,co 60 (.len false (.t 59)),co 61 (.bin .eql (.t 60) (.c (.v (.int .i64 0)))),cm 62 61,cg 63 62 true (.fadr 2 (.t 11)),⟨(some 64),(some (62,true)),.load 1 false (.t 63)⟩,cg 65 62 true (.un .not (.t 64)),co 66 (.pick (.t 62) (.t 65) (.c (.v (.bool false))))]) (.cond (.t 66) (.seq (.ops [8,9] [co 67 (.build [(.v (.bool false)),.emp,(.v (.int .i64 0))] []),⟨none,none,.store 3 (.t 8) (.t 67)⟩,co 9 (.mv (.c (.v (.int .i64 0))))]) (.ret)) (.skip))) (.seq (.ops [8,9] [co 68 (.fadr 0 (.t 4)),⟨(some 69),none,.load 1 false (.t 68)⟩,cm 70 12,co 71 (.eqc true 0 (.t 69) (.t 70)),⟨(some 72),none,.load 3 true (.t 11)⟩,cm 73 2,cm 74 3,⟨(some 75),none,.call (.c (.fn F.round_signed [] [])) [(.t 71),(.t 72),(.t 73),(.t 74)]⟩,co 76 (.ext 0 (.t 75)),co 77 (.ext 1 (.t 75)),⟨none,none,.store 3 (.t 8) (.t 76)⟩,cm 9 77]) (.ret)))
theorem qx:mO = .seq (.ops [2,3,4,5,8] [⟨(some 4),none,.box 3 (.t 0)⟩,⟨(some 5),none,.box 3 (.t 1)⟩,⟨(some 8),none,.alloc [(.v (.bool false)),.emp,(.v (.int .i64 0))]⟩,co 9 (.mv (.c (.v (.int .i64 0))))]) (.seq (.seq (.ops [2,3,4,5,8,10] [cm 13 2,⟨(some 14),none,.load 3 true (.t 4)⟩,⟨(some 15),none,.load 3 true (.t 5)⟩,⟨(some 16),none,.buildSl 3 [(.v (.bool false)),.emp,(.v (.int .i64 0))] 2 [(0,(.t 14)),(1,(.t 15))]⟩,⟨(some 17),none,.call (.c (.fn F.round_fault [] [])) [(.t 13),(.t 16)]⟩,cm 10 17]) (.seq (.ops [2,3,4,5,8,10,19] [cm 18 10,co 19 (.bin .neq (.t 18) (.c (.v (.int .i64 0))))]) (.cond (.t 19) (.seq (.ops [8,9] [co 20 (.build [(.v (.bool false)),.emp,(.v (.int .i64 0))] []),cm 21 10,⟨none,none,.store 3 (.t 8) (.t 20)⟩,cm 9 21]) (.ret)) (.skip)))) (.seq (.block 0 [2,3,4,5,8] (.seq (.ops [2,3,4,5,8,22] [co 23 (.fadr 1 (.t 4)),⟨(some 24),none,.load 1 false (.t 23)⟩,co 25 (.len false (.t 24)),co 26 (.bin .eql (.t 25) (.c (.v (.int .i64 0)))),cm 22 26]) (.cond (.t 22) (.seq (.ops [8,9] [⟨(some 27),none,.load 3 true (.t 5)⟩,cm 28 2,cm 29 3,⟨(some 30),none,.call (.c (.fn F.round_round [] [])) [(.t 27),(.t 28),(.t 29)]⟩,co 31 (.ext 0 (.t 30)),co 32 (.ext 1 (.t 30)),⟨none,none,.store 3 (.t 8) (.t 31)⟩,cm 9 32]) (.ret)) (.seq (.ops [2,3,4,5,8,33] [co 34 (.fadr 1 (.t 5)),⟨(some 35),none,.load 1 false (.t 34)⟩,co 36 (.len false (.t 35)),co 37 (.bin .eql (.t 36) (.c (.v (.int .i64 0)))),cm 33 37]) (.cond (.t 33) (.seq (.ops [8,9] [⟨(some 38),none,.load 3 true (.t 4)⟩,cm 39 2,cm 40 3,⟨(some 41),none,.call (.c (.fn F.round_round [] [])) [(.t 38),(.t 39),(.t 40)]⟩,co 42 (.ext 0 (.t 41)),co 43 (.ext 1 (.t 41)),⟨none,none,.store 3 (.t 8) (.t 42)⟩,cm 9 43]) (.ret)) (.skip)))))) (.seq (.seq (.dops [2,3,4,5,8,48] [⟨(some 44),none,.load 3 true (.t 4)⟩,⟨(some 45),none,.call (.c (.fn F.dyadic_Top [] [])) [(.t 44)]⟩,⟨(some 46),none,.load 3 true (.t 5)⟩,⟨(some 47),none,.call (.c (.fn F.dyadic_Top [] [])) [(.t 46)]⟩,co 48 (.bin .lss (.t 45) (.t 47))] [(1,2)]) (.cond (.t 48) (.ops [2,3,4,5,8] [⟨(some 49),none,.load 3 true (.t 5)⟩,⟨(some 50),none,.load 3 true (.t 4)⟩,⟨none,none,.store 3 (.t 4) (.t 49)⟩,⟨none,none,.store 3 (.t 5) (.t 50)⟩]) (.skip))) j7))):=rfl
theorem WI {a b:Rd} (oa:Ok0 a) (ob:Ok0 b) (va:vd a=true) (vb:vd b=true) (na:a.m.length ≠ 0) (nb:b.m.length ≠ 0) {p:Int} (hp:8≤p∧p≤512) (ht:aL b≤aL a) :
  ah (qP a b p).1.1≤4120 ∧ -40000≤(qP a b p).1.2.1∧(qP a b p).1.2.1≤40000:=by
 have e1:=iD va na
 have e2:=iD vb nb
 obtain ⟨a1,a2,a3,a4⟩:=cO va oa.lb
 obtain ⟨b1,b2,b3,b4⟩:=cO vb ob.lb
 have l1:=FL (a:=a) (b:=b) (p:=p)
 have l2:=B4 va vb oa.lb ob.lb na nb hp ht
 have ba:=eu (db va na)
 have bb:=eu (db vb nb)
 rw [FN]
 obtain ⟨l,hl⟩:∃ l,mB a b p=l:=⟨_,rfl⟩
 rw [hl] at l1 l2 ⊢
 have hX:ah (ab a.m*2 ^ (a.e - l).toNat)≤4100:=by
  rw [da _ (db va na)]
  omega
 have hY:ah (yZ b l).1≤4100:=by
  unfold yZ
  split
  ·rw [da _ (db vb nb)]
   omega
  ·show ah (_ / _)≤_
   rw [du]
   omega
 generalize (yZ b l).1=Y at hY ⊢
 generalize (yZ b l).2=lost
 generalize ab a.m*2 ^ (a.e - l).toNat=X at hX ⊢
 have hU:ah (kO (Y,lost))≤4101:=by
  unfold kO
  split
  ·have:=yD Y
   show ah (Y+1)≤4101
   omega
  ·show ah Y≤4101
   omega
 have hm:∀ x y:Nat,x≤y→ah y≤4101→ah x≤4101:=fun x y h1 h2=>Sf h1 h2
 generalize hYU:kO (Y,lost)=YU at hU
 unfold FM
 rw [hYU]
 split
 ·have:=sI hX hY
  exact ⟨Nat.le_trans this (by decide),by show -40000≤l; omega,by show l≤40000; omega⟩
 ·split
  ·exact ⟨Nat.le_trans (hm _ _ (Nat.sub_le _ _) hU) (by decide),by show -40000≤l; omega,by show l≤40000; omega⟩
  ·exact ⟨Nat.le_trans (hm _ _ (Nat.sub_le _ _) (Nat.le_trans hX (by decide))) (by decide),by show -40000≤l; omega,by show l≤40000; omega⟩
theorem GY {a b:Rd} (oa:Ok0 a) (ob:Ok0 b) (va:vd a=true) (vb:vd b=true) (na:a.m.length ≠ 0) (nb:b.m.length ≠ 0) {n:Nat} {up:Bool} (hp:8≤n∧n≤512) (ht:aL b≤aL a) (s:am) (h:ac)
  (h2:s 2=I (n:Nat)) (h3:s 3=B up) (h4:s 4 = .ref 4 none 0 0 0) (h5:s 5 = .ref 5 none 0 0 0) (h8:s 8 = .ref 8 none 0 0 0)
  (k4:h 4 = .bx (aj a)) (k5:h 5 = .bx (aj b)) (k8:h 8 = .bx [.v (.bool false),.emp,.v (.int .i64 0)]) (kd:∀ i,i ≠ 4→i ≠ 5→i ≠ 8→i ≠ 16→h i = .dead) :
  eE false [[.o 0 [],.o 2 [],.o 0 []],[]] [.cell 8 3 true,.t 9] 0 (ak R (ae false) j7 s h)=some (rV (KK a b (n:Nat) up),[]):=by
 have hs:=YM oa ob va vb na nb (p:=(n:Nat)) ⟨by omega,by omega⟩ ht
 obtain ⟨g1,g2,g3⟩:=WI oa ob va vb na nb (p:=(n:Nat)) ⟨by omega,by omega⟩ ht
 have hl:(ap (qP a b (n:Nat)).1.1).length≤256:=aK (by omega)
 have hg:=fun neg up=>yA (M:=ap (qP a b (n:Nat)).1.1) (e:=(qP a b (n:Nat)).1.2.1) (n:=n) (more:=(qP a b (n:Nat)).1.2.2) (up:=up) (neg:=neg) (aM _) hl ⟨g2,g3⟩ hp
 unfold KK
 generalize qP a b (n:Nat)=z at hs g1 g2 g3 hl hg ⊢
 obtain ⟨⟨M,l,more⟩,t⟩:=z
 simp only [sV,af,aj,nQ] at hs hg k4 k5
 simp only [aF] at hg
 have hw:=hg (a.neg != t) up
 generalize hr:gS (a.neg != t) (gp M l more (n:Nat) (up != (a.neg != t)))=r at hw
 simp only [rV,af,aj] at hw
 by_cases hM:M=0
 ·have e1:(((ap M).length:Int)=0)=True:=tt (by rw [hM,ck]; rfl)
  cases more with
  | false =>
   rw [if_pos ⟨hM,rfl⟩]
   clear hr
   simp only [j7,rV,af,aj,aQ,go_sem,↓reduceIte,amO,amQ,amP,amR,ne_eq,not_false_eq_true,h2,h3,h4,h5,h8,k4,k5,k8,kd,hs,e1]
  | true =>
   rw [if_neg (fun h=>Bool.false_ne_true h.2.symm)]
   rw [show gS (a.neg != t) (gp M l true (n:Nat) (up != (a.neg != t)))=r from hr]
   clear hr
   simp only [j7,rV,af,aj,go_sem,↓reduceIte,amO,amQ,amP,amR,ne_eq,not_false_eq_true,h2,h3,h4,h5,h8,k4,k5,k8,kd,hs,e1,jh,hw]
 ·have e1:(((ap M).length:Int)=0)=False:=ff (fun h=>hM (gB.1 (List.length_eq_zero_iff.1 (by omega))))
  rw [if_neg (fun h=>hM h.1)]
  rw [show gS (a.neg != t) (gp M l more (n:Nat) (up != (a.neg != t)))=r from hr]
  clear hr
  simp only [j7,rV,af,aj,go_sem,↓reduceIte,amO,amQ,amP,amR,ne_eq,not_false_eq_true,h2,h3,h4,h5,h8,k4,k5,k8,kd,hs,e1,jh,hw]
theorem UB {a b:Rd} (oa:Ok0 a) (ob:Ok0 b) {p:Int} {up:Bool} (h0:aZ p [a,b]=0) (a0:a.m.length ≠ 0) (b0:b.m.length ≠ 0):R F.round_add [af a,af b,I p,B up] []=some (rV (FO a b p up),[]):=by
 refine av AG AF (uN false) rfl ?_
 have hf:R F.round_fault [I p,.sl 3 [[B a.neg,lm a.m,I a.e],[B b.neg,lm b.m,I b.e]]] []=some (I (aZ p [a,b]),[]):=v8 (p:=p) (l:=[a,b]) (fun x hx=>by
  rcases List.mem_cons.1 hx with h | h
  ·rw [h]; exact oa
  ·rw [List.mem_singleton.1 h]; exact ob) (show 2≤100000 by decide)
 rw [h0] at hf
 obtain ⟨v1,hp⟩:=ix h0
 have v4:vd a=true∧vd b=true:=by simpa using v1
 obtain ⟨va,vb⟩:=v4
 have ta:=uX oa
 have tb:=uX ob
 simp only [af,aj] at ta tb
 obtain ⟨n,rfl⟩:=Int.eq_ofNat_of_zero_le (show 0≤p by omega)
 have e1:((a.m.length:Int)=0)=False:=ff (by omega)
 have e2:((b.m.length:Int)=0)=False:=ff (by omega)
 unfold FO
 rw [if_pos h0,if_neg a0,if_neg b0]
 by_cases ht:aL a < aL b
 ·have e3:(aL a < aL b)=True:=tt ht
  rw [if_pos ht]
  simp only [fB,qx,af,aj,go_sem,↓reduceIte,amO,amQ,amP,amR,amS,amT,hf,e1,e2,ta,tb,e3]
  refine GY ob oa vb va b0 a0 (by omega) (by omega) _ _ rfl rfl rfl rfl rfl rfl rfl rfl fun i h4 h5 h8 h16 => ?_
  simp only [bX,h4,h5,h8,h16,if_false]
 ·have e3:(aL a < aL b)=False:=ff ht
  rw [if_neg ht]
  simp only [fB,qx,af,aj,go_sem,↓reduceIte,amO,amQ,amP,amR,amS,amT,hf,e1,e2,ta,tb,e3]
  refine GY oa ob va vb a0 b0 (by omega) (by omega) _ _ rfl rfl rfl rfl rfl rfl rfl rfl fun i h4 h5 h8 h16 => ?_
  simp only [bX,h4,h5,h8,h16,if_false]
theorem NT {a b:Rd} (oa:Ok0 a) (ob:Ok0 b) {p:Int} {up:Bool}:R F.round_add [af a,af b,I p,B up] []=some (rV (iE a b p up),[]):=by
 rw [← WH oa ob]
 by_cases h0:aZ p [a,b]=0
 ·by_cases a0:a.m.length=0
  ·exact B5 oa ob (Or.inr (Or.inl a0))
  ·by_cases b0:b.m.length=0
   ·exact B5 oa ob (Or.inr (Or.inr b0))
   ·exact UB oa ob h0 a0 b0
 ·exact B5 oa ob (Or.inl h0)
theorem UC {a b:Rd} (oa:Ok0 a) (ob:Ok0 b) {p:Int}:R F.round_AddUp [af a,af b,I p] []=some (rV (iE a b p true),[]):=by
 refine av Hu Ht (Bf false) rfl ?_
 have hr:=NT oa ob (p:=p) (up:=true)
 generalize iE a b p true=r at hr ⊢
 simp only [rV,af,aj] at hr
 simp only [lT,wC,rV,af,aj,go_sem,↓reduceIte,amO,amQ,amP,amR,hr]
theorem PT {a b:Rd} (oa:Ok0 a) (ob:Ok0 b) {p:Int}:R F.round_AddDown [af a,af b,I p] []=some (rV (iE a b p false),[]):=by
 refine av Df De (yg false) rfl ?_
 have hr:=NT oa ob (p:=p) (up:=false)
 generalize iE a b p false=r at hr ⊢
 simp only [rV,af,aj] at hr
 simp only [jH,tk,rV,af,aj,go_sem,↓reduceIte,amO,amQ,amP,amR,hr]
theorem yE {a b:Rd} (oa:Ok0 a) (ob:Ok0 b) {p:Int}:R F.round_MulUp [af a,af b,I p] []=some (rV (aO a b p true),[]):=by
 rw [← NQ oa ob]
 exact Uw oa ob
theorem ud {a b:Rd} (oa:Ok0 a) (ob:Ok0 b) {p:Int}:R F.round_MulDown [af a,af b,I p] []=some (rV (aO a b p false),[]):=by
 rw [← NQ oa ob]
 exact PQ oa ob
def nB (d:Rd) (p:Int) (up:Bool):Rd × Int:=if aZ p [d]=0 then ji (zI d) (-16384) p up else (aQ,aZ p [d])
theorem WJ {d:Rd} (ok:Ok0 d) {p:Int}:R F.round_Up [af d,I p] []=some (rV (nB d p true),[]):=by
 have h:=tA ok (p:=p) (up:=true)
 rw [nB,← h]
 exact YK ok
theorem Sn {d:Rd} (ok:Ok0 d) {p:Int}:R F.round_Down [af d,I p] []=some (rV (nB d p false),[]):=by
 have h:=tA ok (p:=p) (up:=false)
 rw [nB,← h]
 exact Uv ok
end Go.Ab
namespace Go.Ab
open Go Go.IntWalk
set_option maxRecDepth 4000
structure Ri where
 lo:Rd
 hi:Rd
 all:Bool
def az (x:Ri):List AV:=[B x.lo.neg,lm x.lo.m,I x.lo.e,B x.hi.neg,lm x.hi.m,I x.hi.e,B x.all]
def ax (x:Ri):AV := .agg (az x)
def jj:Ri:=⟨aQ,aQ,true⟩
structure OkI (x:Ri):Prop where
 lo:Ok0 x.lo
 hi:Ok0 x.hi
def z0 (d:Rd):Bool := !d.neg && (decide (d.m.length=0) && decide (d.e=0))
def vi (x:Ri):Bool:=if x.all=true then z0 x.lo && z0 x.hi else vd x.lo && (vd x.hi && decide (zI x.lo≤zI x.hi))
def kI (x:Ri):Bool := !x.all && vi x
def ey (p:Int):Bool:=decide (8≤p) && decide (p≤512)
theorem sJ {p:Int}:R F.interval_permitted [I p] []=some (B (ey p),[]):=by
 refine av vR vQ (s0 false) rfl ?_
 unfold ey
 by_cases h1:8≤p
 ·have e1:(8≤p)=True:=tt h1
  simp only [dW,jE,go_sem,↓reduceIte,amO,e1,decide_true,Bool.true_and]
 ·have e1:(8≤p)=False:=ff h1
  simp only [dW,jE,go_sem,↓reduceIte,amO,e1,decide_false,Bool.false_and]
theorem nC:R F.interval_Whole [] []=some (ax jj,[]):=by
 refine av A9 A8 (xc false) rfl ?_
 simp only [iL,sd,ax,az,jj,aQ,go_sem,↓reduceIte,amO,amQ,amP,amR]
theorem VE {d:Rd}:R F.interval_Valid_1 [af d] []=some (B (z0 d),[]):=by
 refine av yl yk (uO false) rfl ?_
 unfold z0
 cases hn:d.neg with
 | true=>simp only [cL,fC,af,aj,go_sem,↓reduceIte,amO,amQ,amP,hn,Bool.not_true,Bool.false_and]
 | false =>
  by_cases h1:d.m.length=0
  ·have e1:((d.m.length:Int)=0)=True:=tt (by omega)
   by_cases h2:d.e=0
   ·have e2:(d.e=0)=True:=tt h2
    rw [decide_eq_true h1,decide_eq_true h2]
    simp only [cL,fC,af,aj,go_sem,↓reduceIte,amO,amQ,amP,hn,e1,e2,Bool.not_false,Bool.true_and]
   ·have e2:(d.e=0)=False:=ff h2
    rw [decide_eq_true h1,decide_eq_false h2]
    simp only [cL,fC,af,aj,go_sem,↓reduceIte,amO,amQ,amP,hn,e1,e2,Bool.not_false,Bool.true_and]
  ·have e1:((d.m.length:Int)=0)=False:=ff (by omega)
   rw [decide_eq_false h1]
   simp only [cL,fC,af,aj,go_sem,↓reduceIte,amO,amQ,amP,hn,e1,Bool.not_false,Bool.true_and,Bool.false_and]
theorem NU {x y:Int}:(bp x y≤0)=(x≤y):=by
 unfold bp
 refine propext ?_
 split
 ·omega
 ·split <;> omega
theorem GZ {x:Ri} (ok:OkI x):R F.interval_Valid [ax x] []=some (B (vi x),[]):=by
 refine av Bh Bg (xf false) rfl ?_
 unfold vi
 have zl:=VE (d:=x.lo)
 have zh:=VE (d:=x.hi)
 have vl:=ew ok.lo
 have vh:=ew ok.hi
 have hc:=uZ ok.lo ok.hi
 simp only [af,aj] at zl zh vl vh hc
 cases ha:x.all with
 | true =>
  rw [if_pos rfl]
  cases h1:z0 x.lo with
  | true =>
   rw [h1] at zl
   simp only [cF,eQ,ax,az,go_sem,↓reduceIte,amO,amQ,amP,amR,ha,zl,zh,Bool.true_and]
  | false =>
   rw [h1] at zl
   simp only [cF,eQ,ax,az,go_sem,↓reduceIte,amO,amQ,amP,amR,ha,zl,Bool.false_and]
 | false =>
  rw [if_neg Bool.false_ne_true]
  cases h1:vd x.lo with
  | false =>
   rw [h1] at vl
   simp only [cF,eQ,ax,az,go_sem,↓reduceIte,amO,amQ,amP,amR,ha,vl,Bool.false_and]
  | true =>
   rw [h1] at vl
   cases h2:vd x.hi with
   | false =>
    rw [h2] at vh
    simp only [cF,eQ,ax,az,go_sem,↓reduceIte,amO,amQ,amP,amR,ha,vl,vh,Bool.true_and,Bool.false_and]
   | true =>
    rw [h2] at vh
    rw [h1,h2,if_pos ⟨rfl,rfl⟩] at hc
    simp only [cF,eQ,ax,az,go_sem,↓reduceIte,amO,amQ,amP,amR,ha,vl,vh,hc,NU,Bool.true_and]
theorem B7 {d:Rd} (ok:Ok0 d) (hv:vd d=true):R F.interval_Point [af d] []=some (ax ⟨d,d,false⟩,[]):=by
 refine av A6 A5 (w9 false) rfl ?_
 have vl:=ew ok
 rw [hv] at vl
 simp only [af,aj] at vl
 simp only [iK,r8,af,aj,ax,az,go_sem,↓reduceIte,amO,amQ,amP,amR,vl]
def fp (r s:Rd × Int):Ri:=if r.2=0∧s.2=0 then ⟨r.1,s.1,false⟩ else jj
theorem FP {a b:Rd} {e f:Int}:R F.interval_made [af a,I e,af b,I f] []=some (ax (fp (a,e) (b,f)),[]):=by
 refine av Dh Dg (yh false) rfl ?_
 have hw:=nC
 simp only [ax,az] at hw
 unfold fp
 by_cases h1:e=0
 ·have e1:(e=0)=True:=tt h1
  by_cases h2:f=0
  ·have e2:(f=0)=True:=tt h2
   rw [if_pos ⟨h1,h2⟩]
   simp only [eO,kF,af,aj,ax,az,go_sem,↓reduceIte,amO,amQ,amP,amR,e1,e2]
  ·have e2:(f=0)=False:=ff h2
   rw [if_neg (fun h=>h2 h.2)]
   simp only [eO,kF,af,aj,ax,az,go_sem,↓reduceIte,amO,amQ,amP,amR,e1,e2,hw]
 ·have e1:(e=0)=False:=ff h1
  rw [if_neg (fun h=>h1 h.1)]
  simp only [eO,kF,af,aj,ax,az,go_sem,↓reduceIte,amO,amQ,amP,amR,e1,hw]
end Go.Ab
namespace Go.Ab
open Go Go.IntWalk
set_option maxRecDepth 4000
def dp (l:List Ri):List (List AV):=l.map az
@[go_sem] theorem NV (l:List Ri):(dp l).length=l.length:=by simp [dp]
theorem zq {l:List Ri} {i:Int} {n:Nat} {d:Ri} (hi:i=n) (h:l[n]?=some d):aV (dp l) i=some (.ipt (az d)):=by
 subst hi
 simp [aV,dp,h]
theorem PU (l:List Ri) (ok:∀ d ∈ l,OkI d) (h2:l.length≤100000):∀ (k i:Nat),i+k=l.length→∀ (s:am) (h:ac),s 5 = .sl 7 (dp l)→s 6=I l.length→s 7=I i →
  ∃ hh,au 0 [] (aq (ak R (ae false) dz) [5,6,7] [] s h)=if ((l.drop i).all kI)=true then some (.normal,⟨fun _ => .any,fun _ => .dead⟩) else some (.ret,⟨upd (fun _ => .any) 2 (B false),hh⟩):=by
 intro k
 induction k with
 | zero =>
  intro i hi s h h5 h6 h7
  have e1:((i:Int) < l.length)=False:=ff (by omega)
  rw [List.drop_eq_nil_of_le (by omega),ao,List.all_nil,if_pos rfl]
  refine ⟨fun _ => .dead,?_⟩
  simp only [dz,go_sem,↓reduceIte,amO,h5,h6,h7,e1]
 | succ k ih =>
  intro i hi s h h5 h6 h7
  have hlt:i < l.length:=by omega
  have e1:((i:Int) < l.length)=True:=tt (by omega)
  have e2:aV (dp l) (i:Int)=some (.ipt (az l[i])):=zq rfl (List.getElem?_eq_getElem hlt)
  have e5:IntKind.i64.wrap ((i:Int)+1)=((i+1:Nat):Int):=wi (by omega) (by omega)
  have e3:=GZ (ok l[i] (List.getElem_mem hlt))
  rw [List.drop_eq_getElem_cons hlt,List.all_cons,ao]
  have ih':=ih (i+1) (by omega)
  generalize l[i]=d at e2 e3 ⊢
  simp only [ax] at e3
  simp only [az] at e2 e3
  generalize aq _ _ _=L at ih' ⊢
  unfold kI at ih' ⊢
  cases ha:d.all with
  | true =>
   refine ⟨?hh,?_⟩
   rotate_left
   rw [Bool.not_true,Bool.false_and,Bool.false_and,if_neg Bool.false_ne_true]
   simp only [dz,go_sem,↓reduceIte,amO,amQ,amP,amR,h5,h6,h7,e1,e2,ha]
   rfl
  | false =>
   rw [ha] at e3
   cases hv:vi d with
   | false =>
    rw [hv] at e3
    refine ⟨?hh2,?_⟩
    rotate_left
    rw [Bool.and_false,Bool.false_and,if_neg Bool.false_ne_true]
    simp only [dz,go_sem,↓reduceIte,amO,amQ,amP,amR,h5,h6,h7,e1,e2,e3,ha]
    rfl
   | true =>
    rw [hv] at e3
    rw [Bool.not_false,Bool.true_and,Bool.true_and]
    simp only [dz,go_sem,↓reduceIte,amO,amQ,amP,amR,h5,h6,h7,e1,e2,e3,e5,ha]
    exact ih' _ _ rfl rfl rfl
theorem KQ {l:List Ri} (ok:∀ d ∈ l,OkI d) (h2:l.length≤100000):R F.interval_known [.sl 7 (dp l)] []=some (B (l.all kI),[]):=by
 refine av Bb Ba (xd false) rfl ?_
 have h3:=PU l ok h2 l.length 0 (Nat.zero_add _)
 simp only [List.drop_zero,Int.natCast_zero] at h3
 cases ha:l.all kI with
 | false =>
  rw [ha] at h3
  simp only [if_neg (fun h:false=true=>nomatch h)] at h3 ⊢
  simp only [fZ,no,go_sem,↓reduceIte,amO]
  rw [(h3 _ _ rfl rfl rfl).choose_spec]
  simp only [go_sem,↓reduceIte]
 | true =>
  rw [ha] at h3
  simp only [] at h3 ⊢
  simp only [fZ,no,go_sem,↓reduceIte,amO]
  rw [(h3 _ _ rfl rfl rfl).choose_spec]
  simp only [go_sem,↓reduceIte]
theorem qy {x:Ri} (ok:OkI x):R F.interval_known [.sl 7 [[B x.lo.neg,lm x.lo.m,I x.lo.e,B x.hi.neg,lm x.hi.m,I x.hi.e,B x.all]]] []=some (B (kI x),[]):=by
 have h:=KQ (l:=[x]) (fun d hd=>by rw [List.mem_singleton.1 hd]; exact ok) (show 1≤100000 by decide)
 rw [List.all_cons,List.all_nil,Bool.and_true] at h
 exact h
theorem G0 {x y:Ri} (ox:OkI x) (oy:OkI y):R F.interval_known [.sl 7 [[B x.lo.neg,lm x.lo.m,I x.lo.e,B x.hi.neg,lm x.hi.m,I x.hi.e,B x.all],[B y.lo.neg,lm y.lo.m,I y.lo.e,B y.hi.neg,lm y.hi.m,I y.hi.e,B y.all]]] []=some (B (kI x && kI y),[]):=by
 have h:=KQ (l:=[x,y]) (fun d hd=>by
  rcases List.mem_cons.1 hd with h | h
  ·rw [h]; exact ox
  ·rw [List.mem_singleton.1 h]; exact oy) (show 2≤100000 by decide)
 rw [List.all_cons,List.all_cons,List.all_nil,Bool.and_true] at h
 exact h
def qQ (x y:Ri) (p:Int):Ri:=if (kI x && kI y && ey p)=true then fp (iE x.lo y.lo p false) (iE x.hi y.hi p true) else jj
theorem WK {x y:Ri} (ox:OkI x) (oy:OkI y) {p:Int}:R F.interval_Add [ax x,ax y,I p] []=some (ax (qQ x y p),[]):=by
 refine av EP EO (zO false) rfl ?_
 have hk:=G0 ox oy
 have hp:=sJ (p:=p)
 have hw:=nC
 have hd:=PT ox.lo oy.lo (p:=p)
 have hu:=UC ox.hi oy.hi (p:=p)
 unfold qQ
 generalize iE x.lo y.lo p false=r at hd ⊢
 generalize iE x.hi y.hi p true=q at hu ⊢
 obtain ⟨r1,r2⟩:=r
 obtain ⟨q1,q2⟩:=q
 have hm:=FP (a:=r1) (b:=q1) (e:=r2) (f:=q2)
 generalize fp (r1,r2) (q1,q2)=z at hm ⊢
 simp only [ax,az,rV,af,aj] at hw hd hu hm
 cases h1:(kI x && kI y) with
 | false =>
  rw [h1] at hk
  rw [Bool.false_and,if_neg Bool.false_ne_true]
  simp only [fK,lQ,ax,az,go_sem,↓reduceIte,amO,amQ,amP,amR,amS,hk,hw]
 | true =>
  rw [h1] at hk
  cases h2:ey p with
  | false =>
   rw [h2] at hp
   rw [Bool.true_and,if_neg Bool.false_ne_true]
   simp only [fK,lQ,ax,az,go_sem,↓reduceIte,amO,amQ,amP,amR,amS,hk,hp,hw]
  | true =>
   rw [h2] at hp
   rw [Bool.true_and,if_pos rfl]
   simp only [fK,lQ,ax,az,go_sem,↓reduceIte,amO,amQ,amP,amR,amS,hk,hp,hw,hd,hu,hm]
end Go.Ab
namespace Go.Ab
open Go Go.IntWalk
set_option maxRecDepth 4000
def ce (a b:Rd):Int:=if vd a=true∧vd b=true then bp (zI a) (zI b) else 0
def fP (a b:Rd):Rd:=if ce a b≤0 then a else b
def fq (a b:Rd):Rd:=if 0≤ce a b then a else b
theorem WL {a b:Rd} (oa:Ok0 a) (ob:Ok0 b):R F.interval_less [af a,af b] []=some (af (fP a b),[]):=by
 refine av Dl Dk (yj false) rfl ?_
 have hc:=uZ oa ob
 rw [show (if vd a=true∧vd b=true then bp (zI a) (zI b) else 0)=ce a b from rfl] at hc
 simp only [af,aj] at hc
 unfold fP
 by_cases h:ce a b≤0
 ·have e1:(ce a b≤0)=True:=tt h
  rw [if_pos h]
  simp only [gJ,ov,af,aj,go_sem,↓reduceIte,amO,amQ,amP,amR,hc,e1]
 ·have e1:(ce a b≤0)=False:=ff h
  rw [if_neg h]
  simp only [gJ,ov,af,aj,go_sem,↓reduceIte,amO,amQ,amP,amR,hc,e1]
theorem WM {a b:Rd} (oa:Ok0 a) (ob:Ok0 b):R F.interval_more [af a,af b] []=some (af (fq a b),[]):=by
 refine av Dj Di (yi false) rfl ?_
 have hc:=uZ oa ob
 rw [show (if vd a=true∧vd b=true then bp (zI a) (zI b) else 0)=ce a b from rfl] at hc
 simp only [af,aj] at hc
 unfold fq
 by_cases h:0≤ce a b
 ·have e1:(0≤ce a b)=True:=tt h
  rw [if_pos h]
  simp only [gI,ou,af,aj,go_sem,↓reduceIte,amO,amQ,amP,amR,hc,e1]
 ·have e1:(0≤ce a b)=False:=ff h
  rw [if_neg h]
  simp only [gI,ou,af,aj,go_sem,↓reduceIte,amO,amQ,amP,amR,hc,e1]
theorem wg {x:Ri} (h:kI x=true):vd x.lo=true∧vd x.hi=true∧zI x.lo≤zI x.hi∧x.all=false:=by
 unfold kI vi at h
 cases ha:x.all with
 | true =>
  rw [ha] at h
  exact absurd h Bool.false_ne_true
 | false =>
  rw [ha] at h
  simpa using h
theorem amE {x:Ri} (h1:vd x.lo=true) (h2:vd x.hi=true) (h3:zI x.lo≤zI x.hi) (h4:x.all=false):kI x=true:=by
 unfold kI vi
 rw [h4,h1,h2,decide_eq_true h3]
 rfl
def u4 (x:Ri):Int:=if 0 < br x.lo then 1 else if br x.hi < 0 then -1 else 0
theorem UD {x:Ri} (ok:OkI x) (hx:kI x=true):R F.interval_Sign [ax x] []=some (I (u4 x),[]):=by
 refine av Dv Du (yp false) rfl ?_
 obtain ⟨v1,v2,v3,v4⟩:=wg hx
 have hk:=qy ok
 rw [hx] at hk
 have s1:=vY ok.lo v1
 have s2:=vY ok.hi v2
 simp only [af,aj] at s1 s2
 unfold u4
 by_cases h1:0 < br x.lo
 ·have e1:(0 < br x.lo)=True:=tt h1
  rw [if_pos h1]
  simp only [eV,kJ,ax,az,go_sem,↓reduceIte,amO,amQ,amP,amR,amS,hk,s1,e1]
 ·have e1:(0 < br x.lo)=False:=ff h1
  rw [if_neg h1]
  by_cases h2:br x.hi < 0
  ·have e2:(br x.hi < 0)=True:=tt h2
   rw [if_pos h2]
   simp only [eV,kJ,ax,az,go_sem,↓reduceIte,amO,amQ,amP,amR,amS,hk,s1,e1,s2,e2]
  ·have e2:(br x.hi < 0)=False:=ff h2
   rw [if_neg h2]
   simp only [eV,kJ,ax,az,go_sem,↓reduceIte,amO,amQ,amP,amR,amS,hk,s1,e1,s2,e2]
def gT (d:Rd):Rd:=if vd d=false∨d.m.length=0 then aQ else ⟨false,d.m,d.e⟩
theorem bw:vd aQ=true∧Ok0 aQ:=⟨rfl,⟨fun x hx=>(nomatch hx),by decide⟩⟩
theorem ib {d:Rd} (ok:Ok0 d):Ok0 (gT d):=by
 unfold gT
 split
 ·exact bw.2
 ·exact ⟨ok.1,ok.2⟩
def sK (x:Ri):Rd:=if u4 x=0 then aQ else fP (gT x.lo) (gT x.hi)
def yF (x:Ri):Rd:=fq (gT x.lo) (gT x.hi)
theorem YN {x:Ri} (ok:OkI x) (hx:kI x=true):R F.interval_Mig [ax x] []=some (.tup [af (sK x),B true],[]):=by
 refine av Fi Fh (zU false) rfl ?_
 have hk:=qy ok
 rw [hx] at hk
 have hs:=UD ok hx
 have a1:=DG ok.lo
 have a2:=DG ok.hi
 rw [show (if vd x.lo=false∨x.lo.m.length=0 then aQ else (⟨false,x.lo.m,x.lo.e⟩:Rd))=gT x.lo from rfl] at a1
 rw [show (if vd x.hi=false∨x.hi.m.length=0 then aQ else (⟨false,x.hi.m,x.hi.e⟩:Rd))=gT x.hi from rfl] at a2
 have hl:=WL (ib ok.lo) (ib ok.hi)
 unfold sK
 generalize gT x.lo=b1 at a1 hl ⊢
 generalize gT x.hi=b2 at a2 hl ⊢
 generalize fP b1 b2=b3 at hl ⊢
 simp only [ax,az,af,aj] at hs a1 a2 hl
 by_cases h1:u4 x=0
 ·have e1:(u4 x=0)=True:=tt h1
  rw [if_pos h1]
  simp only [iq,pk,ax,az,af,aj,aQ,go_sem,↓reduceIte,amO,amQ,amP,amR,amS,hk,hs,e1]
 ·have e1:(u4 x=0)=False:=ff h1
  rw [if_neg h1]
  simp only [iq,pk,ax,az,af,aj,go_sem,↓reduceIte,amO,amQ,amP,amR,amS,amT,hk,hs,e1,a1,a2,hl]
theorem YO {x:Ri} (ok:OkI x) (hx:kI x=true):R F.interval_Mag [ax x] []=some (.tup [af (yF x),B true],[]):=by
 refine av Fk Fj (zV false) rfl ?_
 have hk:=qy ok
 rw [hx] at hk
 have a1:=DG ok.lo
 have a2:=DG ok.hi
 rw [show (if vd x.lo=false∨x.lo.m.length=0 then aQ else (⟨false,x.lo.m,x.lo.e⟩:Rd))=gT x.lo from rfl] at a1
 rw [show (if vd x.hi=false∨x.hi.m.length=0 then aQ else (⟨false,x.hi.m,x.hi.e⟩:Rd))=gT x.hi from rfl] at a2
 have hl:=WM (ib ok.lo) (ib ok.hi)
 unfold yF
 generalize gT x.lo=b1 at a1 hl ⊢
 generalize gT x.hi=b2 at a2 hl ⊢
 generalize fq b1 b2=b3 at hl ⊢
 simp only [af,aj] at a1 a2 hl
 simp only [kH,uF,ax,az,af,aj,go_sem,↓reduceIte,amO,amQ,amP,amR,amS,amT,hk,a1,a2,hl]
def mC (x:Ri):Ri:=if kI x=true then ⟨sK x,yF x,false⟩ else jj
theorem WN {x:Ri} (ok:OkI x):R F.interval_Abs [ax x] []=some (ax (mC x),[]):=by
 refine av E6 E5 (zR false) rfl ?_
 have hk:=qy ok
 have hw:=nC
 unfold mC
 simp only [ax,az] at hw
 cases hx:kI x with
 | false =>
  rw [hx] at hk
  rw [if_neg Bool.false_ne_true]
  simp only [im,pi,ax,az,go_sem,↓reduceIte,amO,amQ,amP,amR,amS,hk,hw]
 | true =>
  rw [hx] at hk
  rw [if_pos rfl]
  have h1:=YN ok hx
  have h2:=YO ok hx
  generalize sK x=b1 at h1 ⊢
  generalize yF x=b2 at h2 ⊢
  simp only [ax,az,af,aj] at h1 h2
  simp only [im,pi,ax,az,go_sem,↓reduceIte,amO,amQ,amP,amR,amS,hk,h1,h2]
end Go.Ab
namespace Go.Ab
open Go Go.IntWalk
set_option maxRecDepth 4000
set_option maxHeartbeats 1000000
def jS (dn up:Rd→Rd→Rd × Int) (pr:Nat→Rd × Rd):Nat→Nat→Rd × Rd→Option (Rd × Rd)
 | 0,_,o=>some o
 | k+1,i,o=>if (dn (pr i).1 (pr i).2).2=0∧(up (pr i).1 (pr i).2).2=0 then
   jS dn up pr k (i+1) (if ce (dn (pr i).1 (pr i).2).1 o.1 < 0 then (dn (pr i).1 (pr i).2).1 else o.1,if 0 < ce (up (pr i).1 (pr i).2).1 o.2 then (up (pr i).1 (pr i).2).1 else o.2)
  else none
def kP (dn up:Rd→Rd→Rd × Int) (pr:Nat→Rd × Rd):Option (Rd × Rd) :=
 if (dn (pr 0).1 (pr 0).2).2=0∧(up (pr 0).1 (pr 0).2).2=0 then jS dn up pr 3 1 ((dn (pr 0).1 (pr 0).2).1,(up (pr 0).1 (pr 0).2).1) else none
def wU:Option (Rd × Rd)→Ri
 | some o=>⟨o.1,o.2,false⟩
 | none=>jj
def zt (x:Option (Ex × St)) (o:Option (Rd × Rd)):Prop:=match o with
 | some q=>∃ hh,x=some (.normal,⟨upd (upd (fun _ => .any) 12 (.ref 12 none 0 0 0)) 10 (.ref 10 none 0 0 0),hh⟩)∧hh 10 = .bx [.v (.bool false),.emp,.v (.int .i64 0),.v (.bool false),.emp,.v (.int .i64 0),.v (.bool false)]∧hh 12 = .bx (az ⟨q.1,q.2,false⟩)
 | none=>∃ hh,x=some (.ret,⟨upd (fun _ => .any) 10 (.ref 10 none 0 0 0),hh⟩)∧hh 10 = .bx (az jj)
theorem fh {a b:Rd} {p:Int} {up:Bool}:Ok0 (aO a b p up).1:=by
 unfold aO
 split
 ·exact u3.2
 ·exact bw.2
theorem So {p:Int} {A:AV} {pr:Nat→Rd × Rd} (hA:dJ [10,12] A=A) (hidx:∀ i:Nat,i < 4→y4 4 6 true A (I i)=some (.agg [B (pr i).1.neg,lm (pr i).1.m,I (pr i).1.e,B (pr i).2.neg,lm (pr i).2.m,I (pr i).2.e]))
  (hok:∀ i,Ok0 (pr i).1∧Ok0 (pr i).2):∀ (k i:Nat),i+k=4→1≤i→∀ (lo hi:Rd) (s:am) (h:ac),Ok0 lo→Ok0 hi→s 2=I p→s 3 = .fn F.round_MulDown [] []→s 4 = .fn F.round_MulUp [] []→s 10 = .ref 10 none 0 0 0→s 12 = .ref 12 none 0 0 0→s 40=A→s 41=I i →
  h 10 = .bx [.v (.bool false),.emp,.v (.int .i64 0),.v (.bool false),.emp,.v (.int .i64 0),.v (.bool false)]→h 12 = .bx (az ⟨lo,hi,false⟩) →
  zt (au 0 [10,12] (aq (ak R (ae false) aP) [2,3,4,10,12,40,41] [10,12] s h)) (jS (fun a b=>aO a b p false) (fun a b=>aO a b p true) pr k i (lo,hi)):=by
 intro k
 induction k with
 | zero =>
  intro i hi4 h1 lo hi s h olo ohi h2 h3 h4 h10 h12 h40 h41 k10 k12
  have e1:((i:Int) < 4)=False:=ff (by omega)
  simp only [az] at k12
  rw [ao]
  refine ⟨?hh0,?_,?_,?_⟩
  rotate_left
  ·simp only [aP,go_sem,↓reduceIte,amO,amT,h2,h3,h4,h10,h12,h40,h41,k10,k12,hA,e1]
   rfl
  ·rfl
  ·rfl
 | succ k ih =>
  intro i hi4 h1 lo hi s h olo ohi h2 h3 h4 h10 h12 h40 h41 k10 k12
  have e1:((i:Int) < 4)=True:=tt (by omega)
  have e0:((i:Int)=0)=False:=ff (by omega)
  have ei:=hidx i (by omega)
  have e5:IntKind.i64.wrap ((i:Int)+1)=((i+1:Nat):Int):=wi (by omega) (by omega)
  have hd:=ud (hok i).1 (hok i).2 (p:=p)
  have hu:=yE (hok i).1 (hok i).2 (p:=p)
  have hw:=nC
  have okd:=fh (a:=(pr i).1) (b:=(pr i).2) (p:=p) (up:=false)
  have oku:=fh (a:=(pr i).1) (b:=(pr i).2) (p:=p) (up:=true)
  have c1:=uZ okd olo
  have c2:=uZ oku ohi
  rw [show ∀ a b:Rd,(if vd a=true∧vd b=true then bp (zI a) (zI b) else 0)=ce a b from fun _ _=>rfl] at c1 c2
  have ih':=ih (i+1) (by omega) (by omega)
  unfold jS
  simp only [az] at k12
  show zt _ (if (aO (pr i).1 (pr i).2 p false).2=0∧(aO (pr i).1 (pr i).2 p true).2=0 then _ else none)
  generalize aO (pr i).1 (pr i).2 p false=r at hd okd c1 ⊢
  generalize aO (pr i).1 (pr i).2 p true=q at hu oku c2 ⊢
  obtain ⟨r1,r2⟩:=r
  obtain ⟨q1,q2⟩:=q
  show zt _ (if r2=0∧q2=0 then jS (fun a b=>aO a b p false) (fun a b=>aO a b p true) pr k (i+1) (if ce r1 lo < 0 then r1 else lo,if 0 < ce q1 hi then q1 else hi) else none)
  simp only [rV,af,aj,ax,az,jj,aQ] at hd hu hw c1 c2
  rw [ao]
  generalize aq _ _ _=L at ih' ⊢
  by_cases hr:r2=0
  ·have er:(r2=0)=True:=tt hr
   by_cases hq:q2=0
   ·have eq:(q2=0)=True:=tt hq
    rw [if_pos (show r2=0∧q2=0 from ⟨hr,hq⟩)]
    by_cases g1:ce r1 lo < 0
    ·have f1:(ce r1 lo < 0)=True:=tt g1
     by_cases g2:0 < ce q1 hi
     ·have f2:(0 < ce q1 hi)=True:=tt g2
      rw [if_pos g1,if_pos g2]
      simp only [aP,Int.cast_ofNat_Int,go_sem,↓reduceIte,amO,amQ,amP,amR,amU,amW,amV,amT,h2,h3,h4,h10,h12,h40,h41,k10,k12,hA,e1,e0,ei,hd,hu,er,eq,c1,c2,f1,f2,e5]
      exact ih' r1 q1 _ _ okd oku rfl rfl rfl rfl rfl rfl rfl rfl rfl
     ·have f2:(0 < ce q1 hi)=False:=ff g2
      rw [if_pos g1,if_neg g2]
      simp only [aP,Int.cast_ofNat_Int,go_sem,↓reduceIte,amO,amQ,amP,amR,amU,amW,amV,amT,h2,h3,h4,h10,h12,h40,h41,k10,k12,hA,e1,e0,ei,hd,hu,er,eq,c1,c2,f1,f2,e5]
      exact ih' r1 hi _ _ okd ohi rfl rfl rfl rfl rfl rfl rfl rfl rfl
    ·have f1:(ce r1 lo < 0)=False:=ff g1
     by_cases g2:0 < ce q1 hi
     ·have f2:(0 < ce q1 hi)=True:=tt g2
      rw [if_neg g1,if_pos g2]
      simp only [aP,Int.cast_ofNat_Int,go_sem,↓reduceIte,amO,amQ,amP,amR,amU,amW,amV,amT,h2,h3,h4,h10,h12,h40,h41,k10,k12,hA,e1,e0,ei,hd,hu,er,eq,c1,c2,f1,f2,e5]
      exact ih' lo q1 _ _ olo oku rfl rfl rfl rfl rfl rfl rfl rfl rfl
     ·have f2:(0 < ce q1 hi)=False:=ff g2
      rw [if_neg g1,if_neg g2]
      simp only [aP,Int.cast_ofNat_Int,go_sem,↓reduceIte,amO,amQ,amP,amR,amU,amW,amV,amT,h2,h3,h4,h10,h12,h40,h41,k10,k12,hA,e1,e0,ei,hd,hu,er,eq,c1,c2,f1,f2,e5]
      exact ih' lo hi _ _ olo ohi rfl rfl rfl rfl rfl rfl rfl rfl rfl
   ·have eq:(q2=0)=False:=ff hq
    rw [if_neg (show ¬(r2=0∧q2=0) from fun h=>hq h.2)]
    refine ⟨?hh1,?_,?_⟩
    rotate_left
    ·simp only [aP,Int.cast_ofNat_Int,go_sem,↓reduceIte,amO,amQ,amP,amR,amU,amW,amV,amT,h2,h3,h4,h10,h12,h40,h41,k10,k12,hA,e1,ei,hd,hu,er,eq,hw]
     rfl
    ·rfl
  ·have er:(r2=0)=False:=ff hr
   rw [if_neg (show ¬(r2=0∧q2=0) from fun h=>hr h.1)]
   refine ⟨?hh2,?_,?_⟩
   rotate_left
   ·simp only [aP,Int.cast_ofNat_Int,go_sem,↓reduceIte,amO,amQ,amP,amR,amU,amW,amV,amT,h2,h3,h4,h10,h12,h40,h41,k10,k12,hA,e1,ei,hd,hu,er,hw]
    rfl
   ·rfl
theorem PV {p:Int} {A:AV} {pr:Nat→Rd × Rd} (hA:dJ [10,12] A=A) (hidx:∀ i:Nat,i < 4→y4 4 6 true A (I i)=some (.agg [B (pr i).1.neg,lm (pr i).1.m,I (pr i).1.e,B (pr i).2.neg,lm (pr i).2.m,I (pr i).2.e]))
  (hok:∀ i,Ok0 (pr i).1∧Ok0 (pr i).2) (s:am) (h:ac) (h2:s 2=I p) (h3:s 3 = .fn F.round_MulDown [] []) (h4:s 4 = .fn F.round_MulUp [] []) (h10:s 10 = .ref 10 none 0 0 0) (h12:s 12 = .ref 12 none 0 0 0) (h40:s 40=A) (h41:s 41=I 0)
  (k10:h 10 = .bx [.v (.bool false),.emp,.v (.int .i64 0),.v (.bool false),.emp,.v (.int .i64 0),.v (.bool false)]) (k12:h 12 = .bx [.v (.bool false),.emp,.v (.int .i64 0),.v (.bool false),.emp,.v (.int .i64 0),.v (.bool false)]) :
  zt (au 0 [10,12] (aq (ak R (ae false) aP) [2,3,4,10,12,40,41] [10,12] s h)) (kP (fun a b=>aO a b p false) (fun a b=>aO a b p true) pr):=by
 have ei:=hidx 0 (by decide)
 simp only [Int.natCast_zero] at ei
 have hd:=ud (hok 0).1 (hok 0).2 (p:=p)
 have hu:=yE (hok 0).1 (hok 0).2 (p:=p)
 have hw:=nC
 have okd:=fh (a:=(pr 0).1) (b:=(pr 0).2) (p:=p) (up:=false)
 have oku:=fh (a:=(pr 0).1) (b:=(pr 0).2) (p:=p) (up:=true)
 have ih':=So (p:=p) (A:=A) (pr:=pr) hA hidx hok 3 1 rfl (by decide)
 unfold kP
 show zt _ (if (aO (pr 0).1 (pr 0).2 p false).2=0∧(aO (pr 0).1 (pr 0).2 p true).2=0 then jS (fun a b=>aO a b p false) (fun a b=>aO a b p true) pr 3 1 ((aO (pr 0).1 (pr 0).2 p false).1,(aO (pr 0).1 (pr 0).2 p true).1) else none)
 generalize aO (pr 0).1 (pr 0).2 p false=r at hd okd ⊢
 generalize aO (pr 0).1 (pr 0).2 p true=q at hu oku ⊢
 obtain ⟨r1,r2⟩:=r
 obtain ⟨q1,q2⟩:=q
 show zt _ (if r2=0∧q2=0 then jS (fun a b=>aO a b p false) (fun a b=>aO a b p true) pr 3 1 (r1,q1) else none)
 simp only [rV,af,aj,ax,az,jj,aQ] at hd hu hw
 rw [ao]
 generalize aq _ _ _=L at ih' ⊢
 have e5:IntKind.i64.wrap 1=1:=rfl
 have e6:IntKind.i64.wrap (0+1)=1:=rfl
 by_cases hr:r2=0
 ·have er:(r2=0)=True:=tt hr
  by_cases hq:q2=0
  ·have eq:(q2=0)=True:=tt hq
   rw [if_pos (show r2=0∧q2=0 from ⟨hr,hq⟩)]
   simp only [aP,Int.cast_ofNat_Int,go_sem,↓reduceIte,amO,amQ,amP,amR,amU,amW,amV,amT,h2,h3,h4,h10,h12,h40,h41,k10,k12,hA,ei,hd,hu,er,eq,e6]
   exact ih' r1 q1 _ _ okd oku rfl rfl rfl rfl rfl rfl rfl rfl rfl
  ·have eq:(q2=0)=False:=ff hq
   rw [if_neg (show ¬(r2=0∧q2=0) from fun h=>hq h.2)]
   refine ⟨?hh3,?_,?_⟩
   rotate_left
   ·simp only [aP,Int.cast_ofNat_Int,go_sem,↓reduceIte,amO,amQ,amP,amR,amU,amW,amV,amT,h2,h3,h4,h10,h12,h40,h41,k10,k12,hA,ei,hd,hu,er,eq,hw]
    rfl
   ·rfl
 ·have er:(r2=0)=False:=ff hr
  rw [if_neg (show ¬(r2=0∧q2=0) from fun h=>hr h.1)]
  refine ⟨?hh4,?_,?_⟩
  rotate_left
  ·simp only [aP,Int.cast_ofNat_Int,go_sem,↓reduceIte,amO,amQ,amP,amR,amU,amW,amV,amT,h2,h3,h4,h10,h12,h40,h41,k10,k12,hA,ei,hd,hu,er,hw]
   rfl
  ·rfl
def pc (x y:Ri) (i:Nat):Rd × Rd:=match i with
 | 0=>(x.lo,y.lo)
 | 1=>(x.lo,y.hi)
 | 2=>(x.hi,y.lo)
 | _=>(x.hi,y.hi)
def pB (x y:Ri) (p:Int):Ri:=if (kI x && kI y && ey p)=true then wU (kP (fun a b=>aO a b p false) (fun a b=>aO a b p true) (pc x y)) else jj
def mD:Cmd := .seq (.seq (.ops [2,3,4,10,12,40,41] [⟨(some 40),none,.load 24 true (.t 11)⟩,co 41 (.mv (.c (.v (.int .i64 0))))]) (.block 0 [10,12] (.loop [2,3,4,10,12,40,41] [10,12] aP))) (.seq (.ops [10] [⟨(some 95),none,.load 7 true (.t 12)⟩,⟨none,none,.store 7 (.t 10) (.t 95)⟩]) (.ret))
theorem ue:th = .seq (.ops [2,3,4,5,6,10] [⟨(some 5),none,.box 7 (.t 0)⟩,⟨(some 6),none,.box 7 (.t 1)⟩,⟨(some 10),none,.alloc [(.v (.bool false)),.emp,(.v (.int .i64 0)),(.v (.bool false)),.emp,(.v (.int .i64 0)),(.v (.bool false))]⟩]) (.seq (.ops [2,3,4,10,11] [co 19 (.fadr 0 (.t 5)),⟨(some 20),none,.load 3 true (.t 19)⟩,co 21 (.fadr 0 (.t 6)),⟨(some 22),none,.load 3 true (.t 21)⟩,co 23 (.build [(.v (.bool false)),.emp,(.v (.int .i64 0)),(.v (.bool false)),.emp,(.v (.int .i64 0))] [(0,3,(.t 20)),(3,3,(.t 22))]),co 24 (.fadr 0 (.t 5)),⟨(some 25),none,.load 3 true (.t 24)⟩,co 26 (.fadr 3 (.t 6)),⟨(some 27),none,.load 3 true (.t 26)⟩,co 28 (.build [(.v (.bool false)),.emp,(.v (.int .i64 0)),(.v (.bool false)),.emp,(.v (.int .i64 0))] [(0,3,(.t 25)),(3,3,(.t 27))]),co 29 (.fadr 3 (.t 5)),⟨(some 30),none,.load 3 true (.t 29)⟩,co 31 (.fadr 0 (.t 6)),⟨(some 32),none,.load 3 true (.t 31)⟩,co 33 (.build [(.v (.bool false)),.emp,(.v (.int .i64 0)),(.v (.bool false)),.emp,(.v (.int .i64 0))] [(0,3,(.t 30)),(3,3,(.t 32))]),co 34 (.fadr 3 (.t 5)),⟨(some 35),none,.load 3 true (.t 34)⟩,co 36 (.fadr 3 (.t 6)),⟨(some 37),none,.load 3 true (.t 36)⟩,co 38 (.build [(.v (.bool false)),.emp,(.v (.int .i64 0)),(.v (.bool false)),.emp,(.v (.int .i64 0))] [(0,3,(.t 35)),(3,3,(.t 37))]),co 39 (.build [(.v (.bool false)),.emp,(.v (.int .i64 0)),(.v (.bool false)),.emp,(.v (.int .i64 0)),(.v (.bool false)),.emp,(.v (.int .i64 0)),(.v (.bool false)),.emp,(.v (.int .i64 0)),(.v (.bool false)),.emp,(.v (.int .i64 0)),(.v (.bool false)),.emp,(.v (.int .i64 0)),(.v (.bool false)),.emp,(.v (.int .i64 0)),(.v (.bool false)),.emp,(.v (.int .i64 0))] [(0,6,(.t 23)),(6,6,(.t 28)),(12,6,(.t 33)),(18,6,(.t 38))]),⟨(some 11),none,.alloc [(.v (.bool false)),.emp,(.v (.int .i64 0)),(.v (.bool false)),.emp,(.v (.int .i64 0)),(.v (.bool false)),.emp,(.v (.int .i64 0)),(.v (.bool false)),.emp,(.v (.int .i64 0)),(.v (.bool false)),.emp,(.v (.int .i64 0)),(.v (.bool false)),.emp,(.v (.int .i64 0)),(.v (.bool false)),.emp,(.v (.int .i64 0)),(.v (.bool false)),.emp,(.v (.int .i64 0))]⟩,⟨none,none,.store 24 (.t 11) (.t 39)⟩]) (.seq (.ops [2,3,4,10,11,12] [⟨(some 12),none,.alloc [(.v (.bool false)),.emp,(.v (.int .i64 0)),(.v (.bool false)),.emp,(.v (.int .i64 0)),(.v (.bool false))]⟩]) mD)):=rfl
theorem Sp {x y:Ri} (ox:OkI x) (oy:OkI y) (i:Nat):Ok0 (pc x y i).1∧Ok0 (pc x y i).2:=by
 unfold pc
 split
 ·exact ⟨ox.1,oy.1⟩
 ·exact ⟨ox.1,oy.2⟩
 ·exact ⟨ox.2,oy.1⟩
 ·exact ⟨ox.2,oy.2⟩
def PW (x y:Ri):List AV:=[B x.lo.neg,lm x.lo.m,I x.lo.e,B y.lo.neg,lm y.lo.m,I y.lo.e,B x.lo.neg,lm x.lo.m,I x.lo.e,B y.hi.neg,lm y.hi.m,I y.hi.e,B x.hi.neg,lm x.hi.m,I x.hi.e,B y.lo.neg,lm y.lo.m,I y.lo.e,B x.hi.neg,lm x.hi.m,I x.hi.e,B y.hi.neg,lm y.hi.m,I y.hi.e]
theorem Sq {x y:Ri} (ox:OkI x) (oy:OkI y) {p:Int} (s:am) (h:ac) (h2:s 2=I p) (h3:s 3 = .fn F.round_MulDown [] []) (h4:s 4 = .fn F.round_MulUp [] []) (h10:s 10 = .ref 10 none 0 0 0) (h11:s 11 = .ref 11 none 0 0 0) (h12:s 12 = .ref 12 none 0 0 0)
  (k10:h 10 = .bx [.v (.bool false),.emp,.v (.int .i64 0),.v (.bool false),.emp,.v (.int .i64 0),.v (.bool false)]) (k11:h 11 = .bx (PW x y)) (k12:h 12 = .bx [.v (.bool false),.emp,.v (.int .i64 0),.v (.bool false),.emp,.v (.int .i64 0),.v (.bool false)]) :
  eE false [[.o 0 [],.o 2 [],.o 0 [],.o 0 [],.o 2 [],.o 0 [],.o 0 []]] [.cell 10 7 true] 0 (ak R (ae false) mD s h)=some (ax (wU (kP (fun a b=>aO a b p false) (fun a b=>aO a b p true) (pc x y))),[]):=by
 obtain ⟨A,hAe⟩:∃ A:AV,A = .agg (PW x y):=⟨_,rfl⟩
 have hA:dJ [10,12] A=A:=by
  rw [hAe]
  rfl
 have hf:=PV (p:=p) (A:=A) (pr:=pc x y) hA (fun i hi=>by
  rw [hAe]
  match i,hi with
  | 0,_=>rfl
  | 1,_=>rfl
  | 2,_=>rfl
  | 3,_=>rfl) (Sp ox oy)
 have hl:dZ h 24 true (.ref 11 none 0 0 0)=some (A,h,[]):=by
  rw [hAe]
  simp only [PW] at k11 ⊢
  simp only [go_sem,↓reduceIte,amQ,amP,amR,k11]
 have hP:∀ (s:am) (h:ac),s 2=I p→s 3 = .fn F.round_MulDown [] []→s 4 = .fn F.round_MulUp [] []→s 10 = .ref 10 none 0 0 0→s 12 = .ref 12 none 0 0 0→s 40=A→s 41=I 0→h 10 = .bx [.v (.bool false),.emp,.v (.int .i64 0),.v (.bool false),.emp,.v (.int .i64 0),.v (.bool false)]→h 12 = .bx [.v (.bool false),.emp,.v (.int .i64 0),.v (.bool false),.emp,.v (.int .i64 0),.v (.bool false)] →
   eE false [[.o 0 [],.o 2 [],.o 0 [],.o 0 [],.o 2 [],.o 0 [],.o 0 []]] [.cell 10 7 true] 0 (bo (au 0 [10,12] (aq (ak R (ae false) aP) [2,3,4,10,12,40,41] [10,12] s h)) (ak R (ae false) (.seq (.ops [10] [⟨(some 95),none,.load 7 true (.t 12)⟩,⟨none,none,.store 7 (.t 10) (.t 95)⟩]) (.ret))))=some (ax (wU (kP (fun a b=>aO a b p false) (fun a b=>aO a b p true) (pc x y))),[]):=fun s h a2 a3 a4 a10 a12 a40 a41 b10 b12=>by
  have hg:=hf s h a2 a3 a4 a10 a12 a40 a41 b10 b12
  cases ho:kP (fun a b=>aO a b p false) (fun a b=>aO a b p true) (pc x y) with
  | none =>
   rw [ho] at hg
   obtain ⟨hh,g1,g2⟩:=hg
   rw [g1]
   simp only [az,jj,aQ] at g2
   simp only [wU,jj,ax,az,aQ,g2,go_sem,↓reduceIte,amQ,amP,amR]
  | some q =>
   rw [ho] at hg
   obtain ⟨hh,g1,g2,g3⟩:=hg
   rw [g1]
   simp only [az] at g2 g3
   simp only [wU,ax,az,g2,g3,go_sem,↓reduceIte,amO,amQ,amP,amR]
 unfold mD
 generalize hLL:aq (ak R (ae false) aP) [2,3,4,10,12,40,41] [10,12]=L at hP
 have hX:∀ s h,ak R (ae false) (.loop [2,3,4,10,12,40,41] [10,12] aP) s h=L s h:=fun s h=>by rw [← hLL]; rfl
 clear hAe hf
 show eE _ _ _ _ (bo (bo (ak R (ae false) (.ops [2,3,4,10,12,40,41] [⟨(some 40),none,.load 24 true (.t 11)⟩,co 41 (.mv (.c (.v (.int .i64 0))))]) s h) fun s h=>au 0 [10,12] (ak R (ae false) (.loop [2,3,4,10,12,40,41] [10,12] aP) s h)) _)=_
 simp only [hX]
 simp only [go_sem,↓reduceIte,amO,h2,h3,h4,h10,h11,h12,hl]
 exact hP _ _ rfl rfl rfl rfl rfl rfl rfl k10 k12
theorem WO {x y:Ri} (ox:OkI x) (oy:OkI y) {p:Int}:R F.interval_four [ax x,ax y,I p,.fn F.round_MulDown [] [],.fn F.round_MulUp [] []] []=some (ax (wU (kP (fun a b=>aO a b p false) (fun a b=>aO a b p true) (pc x y))),[]):=by
 refine av Db Da (ye false) rfl ?_
 simp only [jF,ue,ax,az,go_sem,↓reduceIte,amO,amQ,amP,amR]
 exact Sq ox oy _ _ rfl rfl rfl rfl rfl rfl rfl rfl rfl
theorem NW {x y:Ri} (ox:OkI x) (oy:OkI y) {p:Int}:R F.interval_Mul [ax x,ax y,I p] []=some (ax (pB x y p),[]):=by
 refine av EN EM (zN false) rfl ?_
 have hk:=G0 ox oy
 have hp:=sJ (p:=p)
 have hw:=nC
 have hf:=WO ox oy (p:=p)
 unfold pB
 generalize wU (kP (fun a b=>aO a b p false) (fun a b=>aO a b p true) (pc x y))=z at hf ⊢
 simp only [ax,az] at hw hf
 cases h1:(kI x && kI y) with
 | false =>
  rw [h1] at hk
  rw [Bool.false_and,if_neg Bool.false_ne_true]
  simp only [fJ,lP,ax,az,go_sem,↓reduceIte,amO,amQ,amP,amR,amS,hk,hw]
 | true =>
  rw [h1] at hk
  cases h2:ey p with
  | false =>
   rw [h2] at hp
   rw [Bool.true_and,if_neg Bool.false_ne_true]
   simp only [fJ,lP,ax,az,go_sem,↓reduceIte,amO,amQ,amP,amR,amS,hk,hp,hw]
  | true =>
   rw [h2] at hp
   rw [Bool.true_and,if_pos rfl]
   simp only [fJ,lP,ax,az,go_sem,↓reduceIte,amO,amQ,amP,amR,amS,hk,hp,hf]
end Go.Ab
namespace Go.Ab
open Go Go.IntWalk
set_option maxRecDepth 4000
set_option maxHeartbeats 1000000
def cQ (d:Rd) (p:Int) (up:Bool):Nat→Rd × Int→Rd × Int
 | 0,r=>r
 | k+1,r=>if r.2=0 then cQ d p up k (aO r.1 d p up) else r
def pw (d:Rd) (n:Nat) (p:Int) (up:Bool):Rd × Int:=cQ d p up (n - 1) (nB d p up)
theorem u5 {d:Rd} {p:Int} {up:Bool}:Ok0 (nB d p up).1:=by
 unfold nB
 split
 ·exact u3.2
 ·exact bw.2
theorem YP {d:Rd} {p:Int} {up:Bool}:∀ (k:Nat) (r:Rd × Int),Ok0 r.1→Ok0 (cQ d p up k r).1:=by
 intro k
 induction k with
 | zero=>exact fun r h=>h
 | succ k ih =>
  intro r h
  unfold cQ
  split
  ·exact ih _ fh
  ·exact h
theorem PX {d:Rd} {n:Nat} {p:Int} {up:Bool}:Ok0 (pw d n p up).1:=YP _ _ u5
def fH:Cmd := .seq (.seq (.ops [1,2,4,5,10,12,13,14] [co 14 (.mv (.c (.v (.int .i64 1))))]) (.block 0 [10,12,13] (.loop [1,2,4,5,10,12,13,14] [5,10,12] aJ))) (.seq (.ops [10,11] [⟨(some 39),none,.load 3 true (.t 12)⟩,cm 40 13,⟨none,none,.store 3 (.t 10) (.t 39)⟩,cm 11 40]) (.ret))
theorem mw:sj = .seq (.ops [1,2,3,4,5,10] [⟨(some 5),none,.box 3 (.t 0)⟩,⟨(some 10),none,.alloc [(.v (.bool false)),.emp,(.v (.int .i64 0))]⟩,co 11 (.mv (.c (.v (.int .i64 0))))]) (.seq (.ops [1,2,4,5,10,12,13] [cm 16 3,⟨(some 17),none,.load 3 true (.t 5)⟩,cm 18 2,⟨(some 19),none,.call (.t 16) [(.t 17),(.t 18)]⟩,cm 15 19,co 20 (.ext 0 (.t 15)),co 21 (.ext 1 (.t 15)),⟨(some 12),none,.alloc [(.v (.bool false)),.emp,(.v (.int .i64 0))]⟩,⟨none,none,.store 3 (.t 12) (.t 20)⟩,cm 13 21]) fH):=rfl
theorem Sr {d:Rd} (ok:Ok0 d) {p:Int} {n:Nat} (hn:n≤100000):∀ (k i:Nat),i+k=n→∀ (r:Rd × Int),Ok0 r.1→∀ (s:am) (h:ac),s 1=I n→s 2=I p→s 4 = .fn F.round_MulUp [] []→s 5 = .ref 5 none 0 0 0→s 10 = .ref 10 none 0 0 0→s 12 = .ref 12 none 0 0 0→s 13=I r.2→s 14=I i →
  h 5 = .bx (aj d)→h 10 = .bx [.v (.bool false),.emp,.v (.int .i64 0)]→h 12 = .bx (aj r.1) →
  ∃ hh,au 0 [10,12,13] (aq (ak R (ae false) aJ) [1,2,4,5,10,12,13,14] [5,10,12] s h)=some (.normal,⟨upd (upd (upd (fun _ => .any) 13 (I (cQ d p true k r).2)) 12 (.ref 12 none 0 0 0)) 10 (.ref 10 none 0 0 0),hh⟩)∧hh 10 = .bx [.v (.bool false),.emp,.v (.int .i64 0)]∧hh 12 = .bx (aj (cQ d p true k r).1):=by
 intro k
 induction k with
 | zero =>
  intro i hi r hr s h h1 h2 h4 h5 h10 h12 h13 h14 k5 k10 k12
  have e1:((i:Int) < n)=False:=ff (by omega)
  obtain ⟨r1,r2⟩:=r
  simp only [aj] at k5 k12
  rw [ao]
  refine ⟨?hh0,?_,?_,?_⟩
  rotate_left
  ·simp only [aJ,cQ,go_sem,↓reduceIte,amO,amT,h1,h2,h4,h5,h10,h12,h13,h14,k5,k10,k12,e1]
   rfl
  ·rfl
  ·rfl
 | succ k ih =>
  intro i hi r hr s h h1 h2 h4 h5 h10 h12 h13 h14 k5 k10 k12
  have e1:((i:Int) < n)=True:=tt (by omega)
  have e5:IntKind.i64.wrap ((i:Int)+1)=((i+1:Nat):Int):=wi (by omega) (by omega)
  obtain ⟨r1,r2⟩:=r
  have hm:=yE hr ok (p:=p)
  have okm:=fh (a:=r1) (b:=d) (p:=p) (up:=true)
  have ih':=ih (i+1) (by omega)
  unfold cQ
  show ∃ hh,_=some (Ex.normal,(⟨upd (upd (upd (fun _=>AV.any) 13 (I (if r2=0 then cQ d p true k (aO r1 d p true) else (r1,r2)).2)) 12 _) 10 _,hh⟩:St))∧_∧hh 12 = .bx (aj (if r2=0 then cQ d p true k (aO r1 d p true) else (r1,r2)).1)
  generalize aO r1 d p true=q at hm okm ⊢
  obtain ⟨q1,q2⟩:=q
  simp only [rV,af,aj] at hm k5 k12
  rw [ao]
  by_cases hr:r2=0
  ·have er:(r2=0)=True:=tt hr
   rw [if_pos hr]
   generalize aq _ _ _=L at ih' ⊢
   simp only [aJ,aj,go_sem,↓reduceIte,amO,amQ,amP,amR,amT,h1,h2,h4,h5,h10,h12,h13,h14,k5,k10,k12,e1,er,hm,e5]
   exact ih' (q1,q2) okm _ _ rfl rfl rfl rfl rfl rfl rfl rfl rfl rfl rfl
  ·have er:(r2=0)=False:=ff hr
   rw [if_neg hr]
   refine ⟨?hh1,?_,?_,?_⟩
   rotate_left
   ·simp only [aJ,go_sem,↓reduceIte,amO,amT,h1,h2,h4,h5,h10,h12,h13,h14,k5,k10,k12,e1,er]
    rfl
   ·rfl
   ·rfl
theorem Ss {d:Rd} (ok:Ok0 d) {p:Int} {n:Nat} (hn:n≤100000) {r:Rd × Int} (hr:Ok0 r.1) (s:am) (h:ac) (h1:s 1=I n) (h2:s 2=I p) (h4:s 4 = .fn F.round_MulUp [] []) (h5:s 5 = .ref 5 none 0 0 0) (h10:s 10 = .ref 10 none 0 0 0) (h12:s 12 = .ref 12 none 0 0 0) (h13:s 13=I r.2)
  (k5:h 5 = .bx (aj d)) (k10:h 10 = .bx [.v (.bool false),.emp,.v (.int .i64 0)]) (k12:h 12 = .bx (aj r.1)) :
  eE false [[.o 0 [],.o 2 [],.o 0 []],[]] [.cell 10 3 true,.t 11] 0 (ak R (ae false) fH s h)=some (rV (cQ d p true (n - 1) r),[]):=by
 have hl:∀ (s:am) (h:ac),s 1=I n→s 2=I p→s 4 = .fn F.round_MulUp [] []→s 5 = .ref 5 none 0 0 0→s 10 = .ref 10 none 0 0 0→s 12 = .ref 12 none 0 0 0→s 13=I r.2→s 14=I 1 →
  h 5 = .bx (aj d)→h 10 = .bx [.v (.bool false),.emp,.v (.int .i64 0)]→h 12 = .bx (aj r.1) →
  ∃ hh,au 0 [10,12,13] (aq (ak R (ae false) aJ) [1,2,4,5,10,12,13,14] [5,10,12] s h)=some (.normal,⟨upd (upd (upd (fun _ => .any) 13 (I (cQ d p true (n - 1) r).2)) 12 (.ref 12 none 0 0 0)) 10 (.ref 10 none 0 0 0),hh⟩)∧hh 10 = .bx [.v (.bool false),.emp,.v (.int .i64 0)]∧hh 12 = .bx (aj (cQ d p true (n - 1) r).1):=by
  by_cases h0:n=0
  ·intro s h a1 a2 a4 a5 a10 a12 a13 a14 b5 b10 b12
   have e1:((1:Int) < (n:Nat))=False:=ff (by omega)
   subst h0
   obtain ⟨r1,r2⟩:=r
   simp only [aj] at b5 b12
   rw [ao]
   refine ⟨?hh0,?_,?_,?_⟩
   rotate_left
   ·simp only [aJ,cQ,go_sem,↓reduceIte,amO,amY,amT,a1,a2,a4,a5,a10,a12,a13,a14,b5,b10,b12,e1]
    rfl
   ·rfl
   ·rfl
  ·have:=Sr ok (p:=p) hn (n - 1) 1 (by omega) r hr
   intro s h a1 a2 a4 a5 a10 a12 a13 a14
   exact this s h a1 a2 a4 a5 a10 a12 a13 a14
 generalize cQ d p true (n - 1) r=q at hl ⊢
 obtain ⟨r1,r2⟩:=r
 obtain ⟨q1,q2⟩:=q
 have hP:∀ (s:am) (h:ac),s 1=I n→s 2=I p→s 4 = .fn F.round_MulUp [] []→s 5 = .ref 5 none 0 0 0→s 10 = .ref 10 none 0 0 0→s 12 = .ref 12 none 0 0 0→s 13=I r2→s 14=I 1 →
  h 5 = .bx (aj d)→h 10 = .bx [.v (.bool false),.emp,.v (.int .i64 0)]→h 12 = .bx (aj r1) →
  eE false [[.o 0 [],.o 2 [],.o 0 []],[]] [.cell 10 3 true,.t 11] 0 (bo (au 0 [10,12,13] (aq (ak R (ae false) aJ) [1,2,4,5,10,12,13,14] [5,10,12] s h)) (ak R (ae false) (.seq (.ops [10,11] [⟨(some 39),none,.load 3 true (.t 12)⟩,cm 40 13,⟨none,none,.store 3 (.t 10) (.t 39)⟩,cm 11 40]) (.ret))))=some (rV (q1,q2),[]):=fun s h a1 a2 a4 a5 a10 a12 a13 a14 b5 b10 b12=>by
  obtain ⟨hh,g1,g2,g3⟩:=hl s h a1 a2 a4 a5 a10 a12 a13 a14 b5 b10 b12
  rw [g1]
  simp only [aj] at g3
  simp only [rV,af,aj,g2,g3,go_sem,↓reduceIte,amO,amQ,amP,amR]
 unfold fH
 generalize hLL:aq (ak R (ae false) aJ) [1,2,4,5,10,12,13,14] [5,10,12]=L at hP
 have hX:∀ s h,ak R (ae false) (.loop [1,2,4,5,10,12,13,14] [5,10,12] aJ) s h=L s h:=fun s h=>by rw [← hLL]; rfl
 show eE _ _ _ _ (bo (bo (ak R (ae false) (.ops [1,2,4,5,10,12,13,14] [co 14 (.mv (.c (.v (.int .i64 1))))]) s h) fun s h=>au 0 [10,12,13] (ak R (ae false) (.loop [1,2,4,5,10,12,13,14] [5,10,12] aJ) s h)) _)=_
 simp only [hX]
 simp only [go_sem,↓reduceIte,amO,h1,h2,h4,h5,h10,h12,h13]
 exact hP _ _ rfl rfl rfl rfl rfl rfl rfl rfl k5 k10 k12
theorem WP {d:Rd} (ok:Ok0 d) {p:Int} {n:Nat} (hn:n≤100000):R F.interval_power [af d,I n,I p,.fn F.round_Up [] [],.fn F.round_MulUp [] []] []=some (rV (pw d n p true),[]):=by
 refine av sA sz (pb false) rfl ?_
 have hr:=WJ ok (p:=p)
 have okr:=u5 (d:=d) (p:=p) (up:=true)
 have ht:=Ss ok (p:=p) hn okr
 unfold pw
 generalize nB d p true=r at hr okr ht ⊢
 obtain ⟨r1,r2⟩:=r
 simp only [rV,af,aj] at hr
 simp only [gb,mw,af,aj,go_sem,↓reduceIte,amO,amQ,amP,amR,hr]
 exact ht _ _ rfl rfl rfl rfl rfl rfl rfl rfl rfl rfl
theorem Su {d:Rd} (ok:Ok0 d) {p:Int} {n:Nat} (hn:n≤100000):∀ (k i:Nat),i+k=n→∀ (r:Rd × Int),Ok0 r.1→∀ (s:am) (h:ac),s 1=I n→s 2=I p→s 4 = .fn F.round_MulDown [] []→s 5 = .ref 5 none 0 0 0→s 10 = .ref 10 none 0 0 0→s 12 = .ref 12 none 0 0 0→s 13=I r.2→s 14=I i →
  h 5 = .bx (aj d)→h 10 = .bx [.v (.bool false),.emp,.v (.int .i64 0)]→h 12 = .bx (aj r.1) →
  ∃ hh,au 0 [10,12,13] (aq (ak R (ae false) aJ) [1,2,4,5,10,12,13,14] [5,10,12] s h)=some (.normal,⟨upd (upd (upd (fun _ => .any) 13 (I (cQ d p false k r).2)) 12 (.ref 12 none 0 0 0)) 10 (.ref 10 none 0 0 0),hh⟩)∧hh 10 = .bx [.v (.bool false),.emp,.v (.int .i64 0)]∧hh 12 = .bx (aj (cQ d p false k r).1):=by
 intro k
 induction k with
 | zero =>
  intro i hi r hr s h h1 h2 h4 h5 h10 h12 h13 h14 k5 k10 k12
  have e1:((i:Int) < n)=False:=ff (by omega)
  obtain ⟨r1,r2⟩:=r
  simp only [aj] at k5 k12
  rw [ao]
  refine ⟨?hh0,?_,?_,?_⟩
  rotate_left
  ·simp only [aJ,cQ,go_sem,↓reduceIte,amO,amT,h1,h2,h4,h5,h10,h12,h13,h14,k5,k10,k12,e1]
   rfl
  ·rfl
  ·rfl
 | succ k ih =>
  intro i hi r hr s h h1 h2 h4 h5 h10 h12 h13 h14 k5 k10 k12
  have e1:((i:Int) < n)=True:=tt (by omega)
  have e5:IntKind.i64.wrap ((i:Int)+1)=((i+1:Nat):Int):=wi (by omega) (by omega)
  obtain ⟨r1,r2⟩:=r
  have hm:=ud hr ok (p:=p)
  have okm:=fh (a:=r1) (b:=d) (p:=p) (up:=false)
  have ih':=ih (i+1) (by omega)
  unfold cQ
  show ∃ hh,_=some (Ex.normal,(⟨upd (upd (upd (fun _=>AV.any) 13 (I (if r2=0 then cQ d p false k (aO r1 d p false) else (r1,r2)).2)) 12 _) 10 _,hh⟩:St))∧_∧hh 12 = .bx (aj (if r2=0 then cQ d p false k (aO r1 d p false) else (r1,r2)).1)
  generalize aO r1 d p false=q at hm okm ⊢
  obtain ⟨q1,q2⟩:=q
  simp only [rV,af,aj] at hm k5 k12
  rw [ao]
  by_cases hr:r2=0
  ·have er:(r2=0)=True:=tt hr
   rw [if_pos hr]
   generalize aq _ _ _=L at ih' ⊢
   simp only [aJ,aj,go_sem,↓reduceIte,amO,amQ,amP,amR,amT,h1,h2,h4,h5,h10,h12,h13,h14,k5,k10,k12,e1,er,hm,e5]
   exact ih' (q1,q2) okm _ _ rfl rfl rfl rfl rfl rfl rfl rfl rfl rfl rfl
  ·have er:(r2=0)=False:=ff hr
   rw [if_neg hr]
   refine ⟨?hh1,?_,?_,?_⟩
   rotate_left
   ·simp only [aJ,go_sem,↓reduceIte,amO,amT,h1,h2,h4,h5,h10,h12,h13,h14,k5,k10,k12,e1,er]
    rfl
   ·rfl
   ·rfl
theorem Sv {d:Rd} (ok:Ok0 d) {p:Int} {n:Nat} (hn:n≤100000) {r:Rd × Int} (hr:Ok0 r.1) (s:am) (h:ac) (h1:s 1=I n) (h2:s 2=I p) (h4:s 4 = .fn F.round_MulDown [] []) (h5:s 5 = .ref 5 none 0 0 0) (h10:s 10 = .ref 10 none 0 0 0) (h12:s 12 = .ref 12 none 0 0 0) (h13:s 13=I r.2)
  (k5:h 5 = .bx (aj d)) (k10:h 10 = .bx [.v (.bool false),.emp,.v (.int .i64 0)]) (k12:h 12 = .bx (aj r.1)) :
  eE false [[.o 0 [],.o 2 [],.o 0 []],[]] [.cell 10 3 true,.t 11] 0 (ak R (ae false) fH s h)=some (rV (cQ d p false (n - 1) r),[]):=by
 have hl:∀ (s:am) (h:ac),s 1=I n→s 2=I p→s 4 = .fn F.round_MulDown [] []→s 5 = .ref 5 none 0 0 0→s 10 = .ref 10 none 0 0 0→s 12 = .ref 12 none 0 0 0→s 13=I r.2→s 14=I 1 →
  h 5 = .bx (aj d)→h 10 = .bx [.v (.bool false),.emp,.v (.int .i64 0)]→h 12 = .bx (aj r.1) →
  ∃ hh,au 0 [10,12,13] (aq (ak R (ae false) aJ) [1,2,4,5,10,12,13,14] [5,10,12] s h)=some (.normal,⟨upd (upd (upd (fun _ => .any) 13 (I (cQ d p false (n - 1) r).2)) 12 (.ref 12 none 0 0 0)) 10 (.ref 10 none 0 0 0),hh⟩)∧hh 10 = .bx [.v (.bool false),.emp,.v (.int .i64 0)]∧hh 12 = .bx (aj (cQ d p false (n - 1) r).1):=by
  by_cases h0:n=0
  ·intro s h a1 a2 a4 a5 a10 a12 a13 a14 b5 b10 b12
   have e1:((1:Int) < (n:Nat))=False:=ff (by omega)
   subst h0
   obtain ⟨r1,r2⟩:=r
   simp only [aj] at b5 b12
   rw [ao]
   refine ⟨?hh0,?_,?_,?_⟩
   rotate_left
   ·simp only [aJ,cQ,go_sem,↓reduceIte,amO,amY,amT,a1,a2,a4,a5,a10,a12,a13,a14,b5,b10,b12,e1]
    rfl
   ·rfl
   ·rfl
  ·have:=Su ok (p:=p) hn (n - 1) 1 (by omega) r hr
   intro s h a1 a2 a4 a5 a10 a12 a13 a14
   exact this s h a1 a2 a4 a5 a10 a12 a13 a14
 generalize cQ d p false (n - 1) r=q at hl ⊢
 obtain ⟨r1,r2⟩:=r
 obtain ⟨q1,q2⟩:=q
 have hP:∀ (s:am) (h:ac),s 1=I n→s 2=I p→s 4 = .fn F.round_MulDown [] []→s 5 = .ref 5 none 0 0 0→s 10 = .ref 10 none 0 0 0→s 12 = .ref 12 none 0 0 0→s 13=I r2→s 14=I 1 →
  h 5 = .bx (aj d)→h 10 = .bx [.v (.bool false),.emp,.v (.int .i64 0)]→h 12 = .bx (aj r1) →
  eE false [[.o 0 [],.o 2 [],.o 0 []],[]] [.cell 10 3 true,.t 11] 0 (bo (au 0 [10,12,13] (aq (ak R (ae false) aJ) [1,2,4,5,10,12,13,14] [5,10,12] s h)) (ak R (ae false) (.seq (.ops [10,11] [⟨(some 39),none,.load 3 true (.t 12)⟩,cm 40 13,⟨none,none,.store 3 (.t 10) (.t 39)⟩,cm 11 40]) (.ret))))=some (rV (q1,q2),[]):=fun s h a1 a2 a4 a5 a10 a12 a13 a14 b5 b10 b12=>by
  obtain ⟨hh,g1,g2,g3⟩:=hl s h a1 a2 a4 a5 a10 a12 a13 a14 b5 b10 b12
  rw [g1]
  simp only [aj] at g3
  simp only [rV,af,aj,g2,g3,go_sem,↓reduceIte,amO,amQ,amP,amR]
 unfold fH
 generalize hLL:aq (ak R (ae false) aJ) [1,2,4,5,10,12,13,14] [5,10,12]=L at hP
 have hX:∀ s h,ak R (ae false) (.loop [1,2,4,5,10,12,13,14] [5,10,12] aJ) s h=L s h:=fun s h=>by rw [← hLL]; rfl
 show eE _ _ _ _ (bo (bo (ak R (ae false) (.ops [1,2,4,5,10,12,13,14] [co 14 (.mv (.c (.v (.int .i64 1))))]) s h) fun s h=>au 0 [10,12,13] (ak R (ae false) (.loop [1,2,4,5,10,12,13,14] [5,10,12] aJ) s h)) _)=_
 simp only [hX]
 simp only [go_sem,↓reduceIte,amO,h1,h2,h4,h5,h10,h12,h13]
 exact hP _ _ rfl rfl rfl rfl rfl rfl rfl rfl k5 k10 k12
theorem WQ {d:Rd} (ok:Ok0 d) {p:Int} {n:Nat} (hn:n≤100000):R F.interval_power [af d,I n,I p,.fn F.round_Down [] [],.fn F.round_MulDown [] []] []=some (rV (pw d n p false),[]):=by
 refine av sA sz (pb false) rfl ?_
 have hr:=Sn ok (p:=p)
 have okr:=u5 (d:=d) (p:=p) (up:=false)
 have ht:=Sv ok (p:=p) hn okr
 unfold pw
 generalize nB d p false=r at hr okr ht ⊢
 obtain ⟨r1,r2⟩:=r
 simp only [rV,af,aj] at hr
 simp only [gb,mw,af,aj,go_sem,↓reduceIte,amO,amQ,amP,amR,hr]
 exact ht _ _ rfl rfl rfl rfl rfl rfl rfl rfl rfl rfl
end Go.Ab
namespace Go.Ab
open Go Go.IntWalk
set_option maxRecDepth 4000
set_option maxHeartbeats 1000000
def sS (d:Rd):Int:=if vd d=false∨d.m.length=0 then 0 else if d.neg=true then -1 else 1
theorem mp {d:Rd} (ok:Ok0 d):Ok0 (cP d):=by
 unfold cP
 split
 ·exact bw.2
 ·exact ⟨ok.1,ok.2⟩
theorem YQ {d:Rd} (h:sS d < 0) : ¬ sS (cP d) < 0:=by
 unfold sS at h
 split at h
 ·omega
 ·split at h
  ·rename_i h1 h2
   unfold sS cP
   rw [if_neg h1]
   split
   ·decide
   ·simp [h2]
  ·omega
def nD (d:Rd) (n:Nat) (p:Int) (up:Bool):Rd × Int:=if sS d < 0 then (cP (pw (cP d) n p (!up)).1,(pw (cP d) n p (!up)).2) else pw d n p up
theorem NX {d:Rd} (ok:Ok0 d) (hs : ¬ sS d < 0) {p:Int} {n:Nat} (hn:n≤100000) {up:Bool}:R F.interval_end [af d,I n,I p,B up] []=some (rV (pw d n p up),[]):=by
 refine av uM uL (qW false) rfl ?_
 have h1:=FI ok
 rw [show (if vd d=false∨d.m.length=0 then (0:Int) else if d.neg=true then -1 else 1)=sS d from rfl] at h1
 have e1:(sS d < 0)=False:=ff hs
 cases up with
 | true =>
  have h2:=WP ok (p:=p) hn
  generalize pw d n p true=q at h2 ⊢
  obtain ⟨q1,q2⟩:=q
  simp only [rV,af,aj] at h1 h2
  simp only [fN,lU,rV,af,aj,go_sem,↓reduceIte,amO,amQ,amP,amR,h1,e1,h2]
 | false =>
  have h2:=WQ ok (p:=p) hn
  generalize pw d n p false=q at h2 ⊢
  obtain ⟨q1,q2⟩:=q
  simp only [rV,af,aj] at h1 h2
  simp only [fN,lU,rV,af,aj,go_sem,↓reduceIte,amO,amQ,amP,amR,h1,e1,h2]
theorem DL {d:Rd} (ok:Ok0 d) {p:Int} {n:Nat} (hn:n≤100000) {up:Bool}:R F.interval_end [af d,I n,I p,B up] []=some (rV (nD d n p up),[]):=by
 unfold nD
 by_cases hs:sS d < 0
 ·rw [if_pos hs]
  refine av uM uL (qW false) rfl ?_
  have h1:=FI ok
  rw [show (if vd d=false∨d.m.length=0 then (0:Int) else if d.neg=true then -1 else 1)=sS d from rfl] at h1
  have e1:(sS d < 0)=True:=tt hs
  have h2:=KH ok
  rw [show (if vd d=false∨d.m.length=0 then aQ else (⟨!d.neg,d.m,d.e⟩:Rd))=cP d from rfl] at h2
  have h3:=NX (mp ok) (YQ hs) (p:=p) hn (up := !up)
  have okq:=PX (d:=cP d) (n:=n) (p:=p) (up := !up)
  generalize cP d=nd at h2 h3 okq ⊢
  generalize pw nd n p (!up)=q at h3 okq ⊢
  obtain ⟨q1,q2⟩:=q
  have h4:=KH (d:=q1) okq
  rw [show (if vd q1=false∨q1.m.length=0 then aQ else (⟨!q1.neg,q1.m,q1.e⟩:Rd))=cP q1 from rfl] at h4
  generalize hnq:cP q1=nq at h4
  show _=some (rV (nq,q2),[])
  simp only [rV,af,aj] at h1 h2 h3 h4
  simp only [fN,lU,rV,af,aj,go_sem,↓reduceIte,amO,amQ,amP,amR,h1,e1,h2,h3,h4]
 ·rw [if_neg hs]
  exact NX ok hs hn
def one:Rd:=⟨false,[1],0⟩
theorem YR:R F.dyadic_Int [I 1] []=some (af one,[]):=by
 have h:=YL (n:=1) (by unfold I64; omega)
 have h2:aU (decide ((1:Int) < 0)) (1:Int).natAbs 0=one:=by
  show aU false 1 0=one
  rw [fg (by decide),sy (by decide)]
  show (⟨false,ap 1,0⟩:Rd)=one
  rw [jf (by decide)]
  show (⟨false,1::ap 0,0⟩:Rd)=one
  rw [ck]
  rfl
 rw [h2] at h
 exact h
theorem DM:vd one=true∧Ok0 one:=⟨by decide,⟨fun x hx=>by rw [List.mem_singleton.1 hx]; decide,by decide⟩⟩
def mE (x:Ri) (n:Nat) (p:Int):Ri:=if (kI x && ey p && decide (n≤16))=true then (if n=0 then ⟨one,one,false⟩ else
 fp (nD (if n % 2=0 then mC x else x).lo n p false) (nD (if n % 2=0 then mC x else x).hi n p true)) else jj
theorem B8 {a b:Rd} (oa:Ok0 a) (ob:Ok0 b):Ok0 (fP a b):=by
 unfold fP
 split
 ·exact oa
 ·exact ob
theorem sL {a b:Rd} (oa:Ok0 a) (ob:Ok0 b):Ok0 (fq a b):=by
 unfold fq
 split
 ·exact oa
 ·exact ob
theorem FQ {x:Ri} (ok:OkI x):OkI (mC x):=by
 unfold mC
 split
 ·refine ⟨?_,sL (ib ok.lo) (ib ok.hi)⟩
  show Ok0 (sK x)
  unfold sK
  split
  ·exact bw.2
  ·exact B8 (ib ok.lo) (ib ok.hi)
 ·exact ⟨bw.2,bw.2⟩
theorem NY {d:Rd} (ok:Ok0 d) {n:Nat} {p:Int} {up:Bool}:Ok0 (nD d n p up).1:=by
 unfold nD
 split
 ·exact mp PX
 ·exact PX
theorem yG {x:Ri} (ok:OkI x) {p:Int} {n:Nat} (hn:n≤100000):R F.interval_Power [ax x,I n,I p] []=some (ax (mE x n p),[]):=by
 refine av Be Bd (xe false) rfl ?_
 have hk:=qy ok
 have hp:=sJ (p:=p)
 have hw:=nC
 have n0:((n:Int) < 0)=False:=ff (by omega)
 unfold mE
 simp only [ax,az] at hw
 cases h1:kI x with
 | false =>
  rw [h1] at hk
  rw [Bool.false_and,Bool.false_and,if_neg Bool.false_ne_true]
  simp only [bU,dS,ax,az,go_sem,↓reduceIte,amO,amQ,amP,amR,amS,hk,hw]
 | true =>
  rw [h1] at hk
  cases h2:ey p with
  | false =>
   rw [h2] at hp
   rw [Bool.true_and,Bool.false_and,if_neg Bool.false_ne_true]
   simp only [bU,dS,ax,az,go_sem,↓reduceIte,amO,amQ,amP,amR,amS,hk,hp,hw]
  | true =>
   rw [h2] at hp
   rw [Bool.true_and,Bool.true_and]
   by_cases h3:n≤16
   ·have e3:(16 < (n:Int))=False:=ff (by omega)
    rw [if_pos (decide_eq_true h3)]
    by_cases h4:n=0
    ·have e4:((n:Int)=0)=True:=tt (by omega)
     rw [if_pos h4]
     have g1:=YR
     have g2:=B7 DM.2 DM.1
     simp only [one,ax,az,af,aj] at g1 g2
     simp only [bU,dS,one,ax,az,go_sem,↓reduceIte,amO,amQ,amP,amR,amS,hk,hp,n0,e3,e4,g1,g2]
    ·have e4:((n:Int)=0)=False:=ff (by omega)
     rw [if_neg h4]
     by_cases h5:n % 2=0
     ·have e5:((n:Int).tmod 2=0)=True:=tt (by rw [Int.tmod_eq_emod_of_nonneg (by omega)]; omega)
      rw [if_pos h5]
      have ha:=WN ok
      have oa:=FQ ok
      generalize mC x=y at ha oa ⊢
      have g1:=DL oa.lo hn (p:=p) (up:=false)
      have g2:=DL oa.hi hn (p:=p) (up:=true)
      generalize nD y.lo n p false=r at g1 ⊢
      generalize nD y.hi n p true=q at g2 ⊢
      obtain ⟨r1,r2⟩:=r
      obtain ⟨q1,q2⟩:=q
      have hm:=FP (a:=r1) (b:=q1) (e:=r2) (f:=q2)
      generalize fp (r1,r2) (q1,q2)=z at hm ⊢
      simp only [ax,az,af,aj,rV] at ha g1 g2 hm
      simp only [bU,dS,ax,az,go_sem,↓reduceIte,amO,amQ,amP,amR,amS,amX,hk,hp,n0,e3,e4,e5,ha,g1,g2,hm]
     ·have e5:((n:Int).tmod 2=0)=False:=ff (by rw [Int.tmod_eq_emod_of_nonneg (by omega)]; omega)
      rw [if_neg h5]
      have g1:=DL ok.lo hn (p:=p) (up:=false)
      have g2:=DL ok.hi hn (p:=p) (up:=true)
      generalize nD x.lo n p false=r at g1 ⊢
      generalize nD x.hi n p true=q at g2 ⊢
      obtain ⟨r1,r2⟩:=r
      obtain ⟨q1,q2⟩:=q
      have hm:=FP (a:=r1) (b:=q1) (e:=r2) (f:=q2)
      generalize fp (r1,r2) (q1,q2)=z at hm ⊢
      simp only [ax,az,af,aj,rV] at g1 g2 hm
      simp only [bU,dS,ax,az,go_sem,↓reduceIte,amO,amQ,amP,amR,amS,amX,hk,hp,n0,e3,e4,e5,g1,g2,hm]
   ·have e3:(16 < (n:Int))=True:=tt (by omega)
    rw [if_neg (fun h=>h3 (of_decide_eq_true h))]
    simp only [bU,dS,ax,az,go_sem,↓reduceIte,amO,amQ,amP,amR,amS,hk,hp,n0,e3,hw]
def wh (x:Ri) (e:Nat) (p:Int):Ri:=if e≤16 then mE x e p else pB (mE x 16 p) (mE x (e - 16) p) p
theorem KR {r s:Rd × Int} (h1:Ok0 r.1) (h2:Ok0 s.1):OkI (fp r s):=by
 unfold fp
 split
 ·exact ⟨h1,h2⟩
 ·exact ⟨bw.2,bw.2⟩
theorem u6 {x:Ri} (ok:OkI x) {n:Nat} {p:Int}:OkI (mE x n p):=by
 unfold mE
 have h:OkI (if n % 2=0 then mC x else x):=by
  split
  ·exact FQ ok
  ·exact ok
 split
 ·split
  ·exact ⟨DM.2,DM.2⟩
  ·exact KR (NY h.1) (NY h.2)
 ·exact ⟨bw.2,bw.2⟩
theorem WR {x:Ri} (ok:OkI x) {p:Int} {e:Nat} (hn:e≤100000):R F.bound_power [ax x,I e,I p] []=some (ax (wh x e p),[]):=by
 refine av Hp Ho (A7 false) rfl ?_
 unfold wh
 by_cases h1:e≤16
 ·have e1:((e:Int)≤16)=True:=tt (by omega)
  rw [if_pos h1]
  have h2:=yG ok hn (p:=p)
  generalize mE x e p=z at h2 ⊢
  simp only [ax,az] at h2
  simp only [iU,qI,ax,az,go_sem,↓reduceIte,amO,amQ,amP,amR,e1,h2]
 ·have e1:((e:Int)≤16)=False:=ff (by omega)
  rw [if_neg h1]
  have h2:=yG ok (show 16≤100000 by decide) (p:=p)
  have h3:=yG ok (show e - 16≤100000 by omega) (p:=p)
  have o2:=u6 ok (n:=16) (p:=p)
  have o3:=u6 ok (n:=e - 16) (p:=p)
  have w1:IntKind.i64.wrap ((e:Int) - 16)=((e - 16:Nat):Int):=wi (by omega) (by omega)
  generalize mE x 16 p=z2 at h2 o2 ⊢
  generalize mE x (e - 16) p=z3 at h3 o3 ⊢
  have h4:=NW o2 o3 (p:=p)
  generalize pB z2 z3 p=z4 at h4 ⊢
  simp only [ax,az,Int.cast_ofNat_Int] at h2 h3 h4
  simp only [iU,qI,ax,az,go_sem,↓reduceIte,amO,amQ,amP,amR,amS,amT,e1,h2,h3,h4,w1]
end Go.Ab
namespace Go.Ab
open Go Go.IntWalk
set_option maxRecDepth 4000
set_option maxHeartbeats 1000000
def dO (l:List Int):List (List AV):=l.map fun (n:Int)=>[I n]
@[go_sem] theorem WS (l:List Int):(dO l).length=l.length:=by simp [dO]
theorem mq {l:List Int} {i:Int} {n:Nat} {d:Int} (hi:i=n) (h:l[n]?=some d):aV (dO l) i=some (.ipt [I d]):=by
 subst hi
 simp [aV,dO,h]
theorem ae7 (x:Int):(x != x)=false:=by simp
theorem KS {x:Int}:R F.cmp_isNaN_int_ [I x] []=some (B false,[]):=by
 refine av BL BK (xp false) rfl ?_
 simp only [iO,sp,go_sem,↓reduceIte,amO]
theorem Sw {x y:Int}:R F.cmp_Compare_int_ [I x,I y] []=some (I (bp x y),[]):=by
 refine av yr yq (uQ false) rfl ?_
 have h1:=KS (x:=x)
 have h2:=KS (x:=y)
 unfold bp
 by_cases e1:x < y
 ·have f1:(x < y)=True:=tt e1
  rw [if_pos e1]
  simp only [dA,ir,go_sem,↓reduceIte,amO,amQ,amP,h1,h2,f1]
 ·have f1:(x < y)=False:=ff e1
  rw [if_neg e1]
  by_cases e2:y < x
  ·have f2:(y < x)=True:=tt e2
   rw [if_pos e2]
   simp only [dA,ir,go_sem,↓reduceIte,amO,amQ,amP,h1,h2,f1,f2]
  ·have f2:(y < x)=False:=ff e2
   rw [if_neg e2]
   simp only [dA,ir,go_sem,↓reduceIte,amO,amQ,amP,h1,h2,f1,f2]
def sM:List Int→List Int→Int
 | [],[]=>0
 | [],_::_ => -1
 | _::_,[]=>1
 | x::xs,y::ys=>if bp x y=0 then sM xs ys else bp x y
theorem UE {a b:List Int} (hl:a.length=b.length) (h2:a.length≤100000):∀ (k i:Nat),i+k=a.length→∀ (s:am) (h:ac),s 0 = .sl 1 (dO a)→s 1 = .sl 1 (dO b)→s 9 = .sl 1 (dO a)→s 10=I a.length→s 11=I i →
  ∃ hh,au 0 [0,1] (aq (ak R (ae false) bZ) [0,1,9,10,11] [] s h)=if sM (a.drop i) (b.drop i)=0 then some (.normal,⟨upd (upd (fun _ => .any) 1 (.sl 1 (dO b))) 0 (.sl 1 (dO a)),fun _ => .dead⟩) else some (.ret,⟨upd (fun _ => .any) 4 (I (sM (a.drop i) (b.drop i))),hh⟩):=by
 intro k
 induction k with
 | zero =>
  intro i hi s h h0 h1 h9 h10 h11
  have e1:((i:Int) < a.length)=False:=ff (by omega)
  rw [List.drop_eq_nil_of_le (by omega),List.drop_eq_nil_of_le (by omega),ao]
  refine ⟨fun _ => .dead,?_⟩
  show _=if (0:Int)=0 then _ else _
  rw [if_pos rfl]
  simp only [bZ,go_sem,↓reduceIte,amO,h0,h1,h9,h10,h11,e1]
 | succ k ih =>
  intro i hi s h h0 h1 h9 h10 h11
  have hlt:i < a.length:=by omega
  have hlt2:i < b.length:=by omega
  have e1:((i:Int) < a.length)=True:=tt (by omega)
  have e4:((b.length:Int)≤(i:Int))=False:=ff (by omega)
  have e2:aV (dO a) (i:Int)=some (.ipt [I a[i]]):=mq rfl (List.getElem?_eq_getElem hlt)
  have e3:aV (dO b) (i:Int)=some (.ipt [I b[i]]):=mq rfl (List.getElem?_eq_getElem hlt2)
  have e5:IntKind.i64.wrap ((i:Int)+1)=((i+1:Nat):Int):=wi (by omega) (by omega)
  rw [List.drop_eq_getElem_cons hlt,List.drop_eq_getElem_cons hlt2,ao]
  have ih':=ih (i+1) (by omega)
  have hc:=Sw (x:=a[i]) (y:=b[i])
  generalize a[i]=x at e2 hc ⊢
  generalize b[i]=y at e3 hc ⊢
  generalize aq _ _ _=L at ih' ⊢
  unfold sM
  by_cases hz:bp x y=0
  ·have e6:(bp x y=0)=True:=tt hz
   simp only [if_pos hz]
   simp only [bZ,go_sem,↓reduceIte,amO,amQ,amP,h0,h1,h9,h10,h11,e1,e2,e3,e4,e5,hc,e6]
   exact ih' _ _ rfl rfl rfl rfl rfl
  ·have e6:(bp x y=0)=False:=ff hz
   simp only [if_neg hz]
   refine ⟨?hh,?_⟩
   rotate_left
   simp only [bZ,go_sem,↓reduceIte,amO,amQ,amP,h0,h1,h9,h10,h11,e1,e2,e3,e4,hc,e6]
   rfl
theorem PY {a b:List Int} (hl:a.length=b.length) (h2:a.length≤100000):R F.slices_Compare_int_int_ [.sl 1 (dO a),.sl 1 (dO b)] []=some (I (sM a b),[]):=by
 refine av ry rx (pu false) rfl ?_
 have h3:=UE hl h2 a.length 0 (Nat.zero_add _)
 simp only [List.drop_zero,Int.natCast_zero] at h3
 by_cases hz:sM a b=0
 ·simp only [if_pos hz] at h3
  have e1:((a.length:Int) < b.length)=False:=ff (by omega)
  simp only [cw,go,go_sem,↓reduceIte,amO]
  rw [(h3 _ _ rfl rfl rfl rfl rfl).choose_spec,hz]
  simp only [go_sem,↓reduceIte,amO,e1]
 ·simp only [if_neg hz] at h3
  simp only [cw,go,go_sem,↓reduceIte,amO]
  rw [(h3 _ _ rfl rfl rfl rfl rfl).choose_spec]
  simp only [go_sem,↓reduceIte]
def cc:List Int→Int
 | []=>0
 | x::l=>x+cc l
def sm (l:List Int):Prop:=l.length≤1000∧∀ x ∈ l,0≤x∧x≤32
theorem B9 {l:List Int} {i:Nat} (h:i < l.length):cc (l.take (i+1))=cc (l.take i)+l[i]:=by
 induction l generalizing i with
 | nil=>exact absurd h (Nat.not_lt_zero _)
 | cons a l ih =>
  cases i with
  | zero=>simp [cc]
  | succ i =>
   have:=ih (i:=i) (by simpa using h)
   simp only [List.take_succ_cons,cc,List.getElem_cons_succ]
   rw [this]
   omega
theorem KT {l:List Int} (h:∀ x ∈ l,0≤x∧x≤32):0≤cc l∧cc l≤32*l.length:=by
 induction l with
 | nil=>exact ⟨Int.le_refl _,Int.le_refl _⟩
 | cons a l ih =>
  have h1:=h a (List.mem_cons_self ..)
  have h2:=ih (fun x hx=>h x (List.mem_cons_of_mem _ hx))
  simp only [cc,List.length_cons]
  omega
theorem UF {a:List Int} (h2:sm a):∀ (k i:Nat),i+k=a.length→∀ (s:am) (h:ac),s 3=I (cc (a.take i))→s 6 = .sl 1 (dO a)→s 7=I a.length→s 8=I i →
  au 0 [3] (aq (ak R (ae false) jJ) [3,6,7,8] [] s h)=some (.normal,⟨upd (fun _ => .any) 3 (I (cc a)),fun _ => .dead⟩):=by
 intro k
 induction k with
 | zero =>
  intro i hi s h h3 h6 h7 h8
  have e1:((i:Int) < a.length)=False:=ff (by omega)
  rw [List.take_of_length_le (by omega)] at h3
  rw [ao]
  simp only [jJ,go_sem,↓reduceIte,amO,h3,h6,h7,h8,e1]
 | succ k ih =>
  intro i hi s h h3 h6 h7 h8
  have hlt:i < a.length:=by omega
  obtain ⟨g1,g2⟩:=h2
  have e1:((i:Int) < a.length)=True:=tt (by omega)
  have e2:aV (dO a) (i:Int)=some (.ipt [I a[i]]):=mq rfl (List.getElem?_eq_getElem hlt)
  have e5:IntKind.i64.wrap ((i:Int)+1)=((i+1:Nat):Int):=wi (by omega) (by omega)
  have b1:=KT (l:=a.take i) (fun x hx=>g2 x (List.mem_of_mem_take hx))
  have b2:=g2 a[i] (List.getElem_mem hlt)
  have b3:(a.take i).length≤1000:=by simp only [List.length_take]; omega
  have e6:IntKind.i64.wrap (cc (a.take i)+a[i])=cc (a.take (i+1)):=by
   rw [B9 hlt]
   exact i64_in _ ⟨by omega,by omega⟩
  have ih':=ih (i+1) (by omega)
  generalize a[i]=x at e2 e6 ⊢
  rw [ao]
  generalize aq _ _ _=L at ih' ⊢
  simp only [jJ,go_sem,↓reduceIte,amO,h3,h6,h7,h8,e1,e2,e5,e6]
  exact ih' _ _ rfl rfl rfl rfl
theorem tB {a:List Int} (h2:sm a):R F.poly_degree [.sl 1 (dO a)] []=some (I (cc a),[]):=by
 refine av HR HQ (Bt false) rfl ?_
 have h3:=UF h2 a.length 0 (Nat.zero_add _)
 simp only [List.take_zero,cc,Int.natCast_zero] at h3
 simp only [lZ,wH,go_sem,↓reduceIte,amO]
 rw [h3 _ _ rfl rfl rfl rfl]
 simp only [go_sem,↓reduceIte]
def sN (a b:List Int):Int:=if bp (cc a) (cc b)=0 then sM b a else bp (cc a) (cc b)
theorem UG {a b:List Int} (ha:sm a) (hb:sm b) (hl:a.length=b.length):R F.poly_order [.sl 1 (dO a),.sl 1 (dO b)] []=some (I (sN a b),[]):=by
 refine av J5 J4 (Dq false) rfl ?_
 have d1:=tB ha
 have d2:=tB hb
 have d3:=Sw (x:=cc a) (y:=cc b)
 have d4:=PY hl.symm (by have:=hb.1; omega)
 unfold sN
 by_cases hz:bp (cc a) (cc b)=0
 ·have e6:(bp (cc a) (cc b)=0)=True:=tt hz
  rw [if_pos hz]
  simp only [j3,si,go_sem,↓reduceIte,amO,amQ,amP,d1,d2,d3,d4,e6]
 ·have e6:(bp (cc a) (cc b)=0)=False:=ff hz
  rw [if_neg hz]
  simp only [j3,si,go_sem,↓reduceIte,amO,amQ,amP,d1,d2,d3,e6]
end Go.Ab
namespace Go.Ab
open Go Go.IntWalk
set_option maxRecDepth 4000
set_option maxHeartbeats 1000000
structure Rt where
 exps:List Int
 c:Rd
structure Rp where
 vars:Int
 terms:List Rt
def dY (t:Rt):List AV:=[.sl 1 (dO t.exps),B t.c.neg,lm t.c.m,I t.c.e]
def ez (l:List Rt):List (List AV):=l.map dY
def cI (a:Rp):AV := .agg [I a.vars,.sl 4 (ez a.terms)]
@[go_sem] theorem WT (l:List Rt):(ez l).length=l.length:=by simp [ez]
theorem pC {l:List Rt} {i:Int} {n:Nat} {d:Rt} (hi:i=n) (h:l[n]?=some d):aV (ez l) i=some (.ipt (dY d)):=by
 subst hi
 simp [aV,ez,h]
theorem G1 {α:Type} {f:α→α} {l:List α} (h:∀ x ∈ l,f x=x):l.map f=l:=(List.map_congr_left (g:=fun c=>c) h).trans (List.map_id' _)
@[go_sem] theorem ajz (l:List Rt):(ez l).map (cp [.o 2 [],.o 0 [],.o 2 [],.o 0 []])=ez l:=by
 refine G1 fun x hx => ?_
 simp only [ez,List.mem_map] at hx
 obtain ⟨t,ht,rfl⟩:=hx
 simp only [dY,go_sem]
structure OkT (t:Rt):Prop where
 c:Ok0 t.c
 len:t.exps.length≤100000
structure OkP (a:Rp):Prop where
 t:∀ t ∈ a.terms,OkT t
def o6 (e:Int):Bool:=decide (e < 0) || decide (32 < e)
theorem YS {e:Int}:R F.poly_Valid_1 [I e] []=some (B (o6 e),[]):=by
 refine av Fe Fd (zS false) rfl ?_
 unfold o6
 by_cases h:e < 0
 ·have e1:(e < 0)=True:=tt h
  simp only [ip,pj,go_sem,↓reduceIte,amO,e1,decide_true,Bool.true_or]
 ·have e1:(e < 0)=False:=ff h
  simp only [ip,pj,go_sem,↓reduceIte,amO,e1,decide_false,Bool.false_or]
theorem UH {l:List Int} (h2:l.length≤100000):R F.slices_ContainsFunc_int_int_ [.sl 1 (dO l),.fn F.poly_Valid_1 [] []] []=some (B (l.any o6),[]):=by
 let p:List AV→Bool:=fun row=>match row with | [.v (.int _ e)]=>o6 e | _=>false
 have h1:=yu (k:=1) (g:=false) (f:=F.poly_Valid_1) (rows:=dO l) (p:=p) qq qp (oW false) rfl (nf false _) (by rw [WS]; omega) (fun row hr=>by
  simp only [dO,List.mem_map] at hr
  obtain ⟨e,he,rfl⟩:=hr
  refine ⟨I e,rfl,rfl,?_⟩
  simp only [go_sem,YS,p])
 have h2:=uU (k:=1) oV oU (mT false) rfl (nf false _) (pt false) (by simp only [go_sem]) h1
 have h3:(dO l).any p=l.any o6:=by
  unfold dO
  rw [List.any_map]
  rfl
 rw [h3] at h2
 exact h2
def u7 (v:Int) (t:Rt):Bool:=decide ((t.exps.length:Int)=v) && (vd t.c && (decide (t.c.m.length ≠ 0) && (!(t.exps.any o6) && decide (cc t.exps≤32))))
def KU:Option Rt→Rt→Bool
 | none,_=>true
 | some q,t=>decide (sN q.exps t.exps < 0)
def AH (v:Int):Option Rt→List Rt→Bool
 | _,[]=>true
 | pr,t::l=>u7 v t && (KU pr t && AH v (some t) l)
theorem u9 {v:Int} {t:Rt} (h:u7 v t=true):(t.exps.length:Int)=v∧vd t.c=true∧t.c.m.length ≠ 0∧t.exps.any o6=false∧cc t.exps≤32:=by
 unfold u7 at h
 simpa using h
theorem nR {l:List Int} (h:l.any o6=false):∀ x ∈ l,0≤x∧x≤32:=by
 intro x hx
 have h1:=List.any_eq_false.1 h x hx
 unfold o6 at h1
 simp only [Bool.or_eq_true,decide_eq_true_eq,not_or] at h1
 omega
theorem WU {a:Rp} (ok:OkP a) (hv:a.vars≤8) (h2:a.terms.length≤500):∀ (k i:Nat),i+k=a.terms.length→∀ (pr:Option Rt),(i=0→pr=none)→(0 < i→∃ q,pr=some q∧a.terms[i - 1]?=some q∧u7 a.vars q=true) →
  ∀ (s:am) (h:ac),s 1 = .ref 1 none 0 0 0→s 20 = .sl 4 (ez a.terms)→s 21=I a.terms.length→s 22=I i→h 1 = .bx [I a.vars,.sl 4 (ez a.terms)] →
  ∃ hh,au 0 [] (aq (ak R (ae false) bM) [1,20,21,22] [1] s h)=if AH a.vars pr (a.terms.drop i)=true then some (.normal,⟨fun _ => .any,hh⟩) else some (.ret,⟨upd (fun _ => .any) 2 (B false),hh⟩):=by
 intro k
 induction k with
 | zero =>
  intro i hi pr p0 p1 s h h1 h20 h21 h22 k1
  have e1:((i:Int) < a.terms.length)=False:=ff (by omega)
  rw [List.drop_eq_nil_of_le (by omega),ao]
  refine ⟨?hh0,?_⟩
  rotate_left
  show _=if true=true then _ else _
  rw [if_pos rfl]
  simp only [bM,go_sem,↓reduceIte,amO,amT,h1,h20,h21,h22,k1,e1]
  rfl
 | succ k ih =>
  intro i hi pr p0 p1 s h h1 h20 h21 h22 k1
  have hlt:i < a.terms.length:=by omega
  have e1:((i:Int) < a.terms.length)=True:=tt (by omega)
  have e2:aV (ez a.terms) (i:Int)=some (.ipt (dY a.terms[i])):=pC rfl (List.getElem?_eq_getElem hlt)
  have e5:IntKind.i64.wrap ((i:Int)+1)=((i+1:Nat):Int):=wi (by omega) (by omega)
  have okt:=ok.t a.terms[i] (List.getElem_mem hlt)
  have hnext:a.terms[i+1 - 1]?=some a.terms[i]:=List.getElem?_eq_getElem hlt
  rw [List.drop_eq_getElem_cons hlt,ao]
  have ih':=ih (i+1) (by omega) (some a.terms[i]) (fun h=>absurd h (Nat.succ_ne_zero _))
  generalize a.terms[i]=t at e2 okt ih' hnext ⊢
  generalize aq _ _ _=L at ih' ⊢
  have hvd:=ew okt.c
  have hct:=UH okt.len
  simp only [dY] at e2
  simp only [af,aj] at hvd
  unfold AH
  cases hb:u7 a.vars t with
  | false =>
   simp only [Bool.false_and,if_neg Bool.false_ne_true]
   unfold u7 at hb
   by_cases c1:(t.exps.length:Int)=a.vars
   ·have f1:((t.exps.length:Int)=a.vars)=True:=tt c1
    rw [decide_eq_true c1,Bool.true_and] at hb
    cases c2:vd t.c with
    | false =>
     rw [c2] at hvd
     refine ⟨?hh2,?_⟩
     rotate_left
     simp only [bM,go_sem,↓reduceIte,amO,amQ,amP,amR,amT,h1,h20,h21,h22,k1,e1,e2,f1,hvd]
     rfl
    | true =>
     rw [c2] at hvd hb
     rw [Bool.true_and] at hb
     by_cases c3:t.c.m.length=0
     ·have f3:((t.c.m.length:Int)=0)=True:=tt (by omega)
      refine ⟨?hh3,?_⟩
      rotate_left
      simp only [bM,go_sem,↓reduceIte,amO,amQ,amP,amR,amT,h1,h20,h21,h22,k1,e1,e2,f1,hvd,f3]
      rfl
     ·have f3:((t.c.m.length:Int)=0)=False:=ff (by omega)
      rw [decide_eq_true c3,Bool.true_and] at hb
      cases c4:t.exps.any o6 with
      | true =>
       rw [c4] at hct
       refine ⟨?hh4,?_⟩
       rotate_left
       simp only [bM,go_sem,↓reduceIte,amO,amQ,amP,amR,amT,h1,h20,h21,h22,k1,e1,e2,f1,hvd,f3,hct]
       rfl
      | false =>
       rw [c4] at hct hb
       rw [Bool.not_false,Bool.true_and] at hb
       have hdg:=tB (a:=t.exps) ⟨by omega,nR c4⟩
       have f5:(32 < cc t.exps)=True:=tt (by have:=of_decide_eq_false hb; omega)
       refine ⟨?hh5,?_⟩
       rotate_left
       simp only [bM,go_sem,↓reduceIte,amO,amQ,amP,amR,amT,h1,h20,h21,h22,k1,e1,e2,f1,hvd,f3,hct,hdg,f5]
       rfl
   ·have f1:((t.exps.length:Int)=a.vars)=False:=ff c1
    refine ⟨?hh1,?_⟩
    rotate_left
    simp only [bM,go_sem,↓reduceIte,amO,amQ,amP,amR,amT,h1,h20,h21,h22,k1,e1,e2,f1]
    rfl
  | true =>
   obtain ⟨c1,c2,c3,c4,c5⟩:=u9 hb
   have f1:((t.exps.length:Int)=a.vars)=True:=tt c1
   rw [c2] at hvd
   have f3:((t.c.m.length:Int)=0)=False:=ff (by omega)
   rw [c4] at hct
   have hdg:=tB (a:=t.exps) ⟨by omega,nR c4⟩
   have f5:(32 < cc t.exps)=False:=ff (by omega)
   simp only [Bool.true_and]
   by_cases hi0:i=0
   ·have f6:(0 < (i:Int))=False:=ff (by omega)
    rw [p0 hi0]
    simp only [KU,Bool.true_and]
    simp only [bM,go_sem,↓reduceIte,amO,amQ,amP,amR,amT,h1,h20,h21,h22,k1,e1,e2,f1,hvd,f3,hct,hdg,f5,f6,e5]
    exact ih' (fun _=>⟨t,rfl,hnext,hb⟩) _ _ rfl rfl rfl rfl rfl
   ·have f6:(0 < (i:Int))=True:=tt (by omega)
    obtain ⟨q,q1,q2,q3⟩:=p1 (by omega)
    obtain ⟨d1,d2,d3,d4,d5⟩:=u9 q3
    rw [q1]
    have e7:IntKind.i64.wrap ((i:Int) - 1)=((i - 1:Nat):Int):=wi (by omega) (by omega)
    have e8:aV (ez a.terms) ((i - 1:Nat):Int)=some (.ipt (dY q)):=pC rfl q2
    simp only [dY] at e8
    have ho:=UG (a:=q.exps) (b:=t.exps) ⟨by omega,nR d4⟩ ⟨by omega,nR c4⟩ (by omega)
    simp only [KU]
    by_cases c6:sN q.exps t.exps < 0
    ·have f7:(0≤sN q.exps t.exps)=False:=ff (by omega)
     simp only [decide_eq_true c6,Bool.true_and]
     simp only [bM,go_sem,↓reduceIte,amO,amQ,amP,amR,amS,amT,h1,h20,h21,h22,k1,e1,e2,f1,hvd,f3,hct,hdg,f5,f6,e5,e7,e8,ho,f7]
     exact ih' (fun _=>⟨t,rfl,hnext,hb⟩) _ _ rfl rfl rfl rfl rfl
    ·have f7:(0≤sN q.exps t.exps)=True:=tt (by omega)
     simp only [decide_eq_false c6,Bool.false_and,if_neg Bool.false_ne_true]
     refine ⟨?hh7,?_⟩
     rotate_left
     simp only [bM,go_sem,↓reduceIte,amO,amQ,amP,amR,amS,amT,h1,h20,h21,h22,k1,e1,e2,f1,hvd,f3,hct,hdg,f5,f6,e7,e8,ho,f7]
     rfl
def vp (a:Rp):Bool:=decide (0≤a.vars) && (decide (a.vars≤8) && (decide (a.terms.length≤500) && AH a.vars none a.terms))
theorem Sx {a:Rp} (ok:OkP a):R F.poly_Valid [cI a] []=some (B (vp a),[]):=by
 refine av JY JX (Dn false) rfl ?_
 unfold vp
 by_cases c1:0≤a.vars
 ·have f1:(a.vars < 0)=False:=ff (by omega)
  rw [decide_eq_true c1,Bool.true_and]
  by_cases c2:a.vars≤8
  ·have f2:(8 < a.vars)=False:=ff (by omega)
   rw [decide_eq_true c2,Bool.true_and]
   by_cases c3:a.terms.length≤500
   ·have f3:(500 < (a.terms.length:Int))=False:=ff (by omega)
    rw [decide_eq_true c3,Bool.true_and]
    have h3:=WU ok c2 c3 a.terms.length 0 (Nat.zero_add _) none (fun _=>rfl) (fun h=>absurd h (Nat.lt_irrefl _))
    simp only [List.drop_zero,Int.natCast_zero] at h3
    cases hb:AH a.vars none a.terms with
    | true =>
     rw [hb] at h3
     simp only [] at h3
     simp only [eB,iW,cI,go_sem,↓reduceIte,amO,amQ,amP,f1,f2,f3]
     rw [(h3 _ _ rfl rfl rfl rfl rfl).choose_spec]
     simp only [go_sem,↓reduceIte]
    | false =>
     rw [hb] at h3
     simp only [if_neg Bool.false_ne_true] at h3
     simp only [eB,iW,cI,go_sem,↓reduceIte,amO,amQ,amP,f1,f2,f3]
     rw [(h3 _ _ rfl rfl rfl rfl rfl).choose_spec]
     simp only [go_sem,↓reduceIte]
   ·have f3:(500 < (a.terms.length:Int))=True:=tt (by omega)
    rw [decide_eq_false c3,Bool.false_and]
    simp only [eB,iW,cI,go_sem,↓reduceIte,amO,amQ,amP,f1,f2,f3]
  ·have f2:(8 < a.vars)=True:=tt (by omega)
   rw [decide_eq_false c2,Bool.false_and]
   simp only [eB,iW,cI,go_sem,↓reduceIte,amO,amQ,amP,f1,f2]
 ·have f1:(a.vars < 0)=True:=tt (by omega)
  rw [decide_eq_false c1,Bool.false_and]
  simp only [eB,iW,cI,go_sem,↓reduceIte,amO,amQ,amP,f1]
end Go.Ab
namespace Go.Ab
open Go Go.IntWalk
set_option maxRecDepth 4000
set_option maxHeartbeats 1000000
@[go_sem] theorem ajA (l:List Ri):(dp l).map (cp [.o 0 [],.o 2 [],.o 0 [],.o 0 [],.o 2 [],.o 0 [],.o 0 []])=dp l:=by
 refine G1 fun x hx => ?_
 simp only [dp,List.mem_map] at hx
 obtain ⟨t,ht,rfl⟩:=hx
 simp only [az,go_sem]
theorem PZ {x:Ri} (ok:OkI x):R F.bound_domain_1 [ax x] []=some (B (!kI x),[]):=by
 refine av Bk Bj (xg false) rfl ?_
 have hv:=GZ ok
 simp only [ax,az] at hv
 unfold kI
 cases h1:vi x with
 | false =>
  rw [h1] at hv
  rw [Bool.and_false]
  simp only [ga,ns,ax,az,go_sem,↓reduceIte,amO,amQ,amP,amR,hv,Bool.not_false]
 | true =>
  rw [h1] at hv
  rw [Bool.and_true,Bool.not_not]
  simp only [ga,ns,ax,az,go_sem,↓reduceIte,amO,amQ,amP,amR,hv]
theorem UI {l:List Ri} (ok:∀ x ∈ l,OkI x) (h2:l.length≤100000):R F.slices_ContainsFunc_api_Interval_api_Interval_ [.sl 7 (dp l),.fn F.bound_domain_1 [] []] []=some (B (l.any fun x => !kI x),[]):=by
 let p:List AV→Bool:=fun row=>match row with | [.v (.bool n1),.sl _ m1,.v (.int _ e1),.v (.bool n2),.sl _ m2,.v (.int _ e2),.v (.bool a)] => !kI ⟨⟨n1,m1.map (fun r=>match r with | [.v (.int _ x)]=>x.toNat | _=>0),e1⟩,⟨n2,m2.map (fun r=>match r with | [.v (.int _ x)]=>x.toNat | _=>0),e2⟩,a⟩ | _=>false
 have hmm:∀ m:List Nat,(aE m).map (fun r=>match r with | [.v (.int _ x)]=>x.toNat | _=>0)=m:=fun m=>by
  unfold aE
  rw [List.map_map]
  exact (List.map_congr_left (g:=fun c=>c) fun x _=>by simp).trans (List.map_id' _)
 have hp:∀ x:Ri,p (az x) = !kI x:=fun x=>by
  show (!kI ⟨⟨x.lo.neg,(aE x.lo.m).map _,x.lo.e⟩,⟨x.hi.neg,(aE x.hi.m).map _,x.hi.e⟩,x.all⟩)=_
  rw [hmm,hmm]
 have h1:=yu (k:=7) (g:=true) (f:=F.bound_domain_1) (rows:=dp l) (p:=p) dw dv (c8 false) rfl (nf false _) (by rw [NV]; omega) (fun row hr=>by
  simp only [dp,List.mem_map] at hr
  obtain ⟨x,hx,rfl⟩:=hr
  have hd:=PZ (ok x hx)
  refine ⟨ax x,rfl,rfl,?_⟩
  rw [hp]
  simp only [ax,az] at hd
  simp only [ax,az,go_sem,hd])
 have h2:=uU (k:=7) cZ cY (cH false) rfl (nf false _) (dm false) (by simp only [go_sem]) h1
 have h3:(dp l).any p=l.any fun x => !kI x:=by
  unfold dp
  rw [List.any_map]
  congr 1
  funext x
  exact hp x
 rw [h3] at h2
 exact h2
def sO (a:Rp) (dom:List Ri):Bool:=vp a && (decide ((dom.length:Int)=a.vars) && !(dom.any fun x => !kI x))
theorem Sy {a:Rp} {dom:List Ri} (oa:OkP a) (od:∀ x ∈ dom,OkI x) (h2:dom.length≤100000):R F.bound_domain [cI a,.sl 7 (dp dom)] []=some (B (sO a dom),[]):=by
 refine av EW EV (zP false) rfl ?_
 have hv:=Sx oa
 have hc:=UI od h2
 simp only [cI] at hv
 unfold sO
 cases h1:vp a with
 | false =>
  rw [h1] at hv
  rw [Bool.false_and]
  simp only [fM,lR,cI,go_sem,↓reduceIte,amO,amQ,amP,amR,hv]
 | true =>
  rw [h1] at hv
  rw [Bool.true_and]
  by_cases h3:(dom.length:Int)=a.vars
  ·have e3:((dom.length:Int)=a.vars)=True:=tt h3
   rw [decide_eq_true h3,Bool.true_and]
   simp only [fM,lR,cI,go_sem,↓reduceIte,amO,amQ,amP,amR,hv,e3,hc]
  ·have e3:((dom.length:Int)=a.vars)=False:=ff h3
   rw [decide_eq_false h3,Bool.false_and]
   simp only [fM,lR,cI,go_sem,↓reduceIte,amO,amQ,amP,amR,hv,e3]
theorem WV {a:Rp} {dom:List Ri} (oa:OkP a) (od:∀ x ∈ dom,OkI x) (h2:dom.length≤100000) {p:Int}:R F.bound_fits [cI a,.sl 7 (dp dom),I p] []=some (B (sO a dom && ey p),[]):=by
 refine av JJ JI (C8 false) rfl ?_
 have hd:=Sy oa od h2
 simp only [cI] at hd
 unfold ey
 cases h1:sO a dom with
 | false =>
  rw [h1] at hd
  rw [Bool.false_and]
  simp only [g8,oi,cI,go_sem,↓reduceIte,amO,amQ,amP,amR,hd]
 | true =>
  rw [h1] at hd
  rw [Bool.true_and]
  by_cases h3:8≤p
  ·have e3:(8≤p)=True:=tt h3
   simp only [g8,oi,cI,go_sem,↓reduceIte,amO,amQ,amP,amR,hd,e3,decide_true,Bool.true_and]
  ·have e3:(8≤p)=False:=ff h3
   simp only [g8,oi,cI,go_sem,↓reduceIte,amO,amQ,amP,amR,hd,e3,decide_false,Bool.false_and]
theorem UJ:R F.bound_whole [] []=some (ax jj,[]):=by
 refine av Hn Hm (A4 false) rfl ?_
 simp only [lO,wA,ax,az,jj,aQ,go_sem,↓reduceIte,amO,amQ,amP,amR]
def AI (p:Int):List Ri→List Int→Ri→Ri
 | d::ds,e::es,x=>AI p ds es (if 0 < e then pB x (wh d e.toNat p) p else x)
 | _,_,x=>x
theorem YT {dn up:Rd→Rd→Rd × Int} {pr:Nat→Rd × Rd} (h1:∀ a b,Ok0 (dn a b).1) (h2:∀ a b,Ok0 (up a b).1):OkI (wU (kP dn up pr)):=by
 have hN:∀ (k i:Nat) (o:Rd × Rd),Ok0 o.1→Ok0 o.2→OkI (wU (jS dn up pr k i o)):=by
  intro k
  induction k with
  | zero=>exact fun i o g1 g2=>⟨g1,g2⟩
  | succ k ih =>
   intro i o g1 g2
   unfold jS
   split
   ·refine ih _ _ ?_ ?_
    ·show Ok0 (if _ then _ else _)
     split
     ·exact h1 _ _
     ·exact g1
    ·show Ok0 (if _ then _ else _)
     split
     ·exact h2 _ _
     ·exact g2
   ·exact ⟨bw.2,bw.2⟩
 unfold kP
 split
 ·exact hN _ _ _ (h1 _ _) (h2 _ _)
 ·exact ⟨bw.2,bw.2⟩
theorem zu {x y:Ri} {p:Int}:OkI (pB x y p):=by
 unfold pB
 split
 ·exact YT (fun _ _=>fh) (fun _ _=>fh)
 ·exact ⟨bw.2,bw.2⟩
theorem zw {a b:Rd} {p:Int} {up:Bool}:Ok0 (iE a b p up).1:=by
 unfold iE
 split
 ·exact u3.2
 ·exact bw.2
theorem NZ {x y:Ri} {p:Int}:OkI (qQ x y p):=by
 unfold qQ
 split
 ·exact KR zw zw
 ·exact ⟨bw.2,bw.2⟩
theorem N0 {x:Ri} (ok:OkI x) {e:Nat} {p:Int}:OkI (wh x e p):=by
 unfold wh
 split
 ·exact u6 ok
 ·exact zu
theorem Sz {p:Int}:∀ (ds:List Ri) (es:List Int) (x:Ri),OkI x→OkI (AI p ds es x):=by
 intro ds
 induction ds with
 | nil=>exact fun es x h=>by cases es <;> exact h
 | cons d ds ih =>
  intro es x h
  cases es with
  | nil=>exact h
  | cons e es =>
   unfold AI
   refine ih _ _ ?_
   split
   ·exact zu
   ·exact h
theorem aby {dom:List Ri} (od:∀ x ∈ dom,OkI x) {es:List Int} (hl:dom.length=es.length) (h2:dom.length≤100000) (he:∀ e ∈ es,0≤e∧e≤32) {p:Int} {c3 c6 c7 c9:List AV} {rw':AV} {n j:Int}
  (q3:bh [3,6,7,9,10] (.bx c3)=true) (q6:bh [3,6,7,9,10] (.bx c6)=true) (q7:bh [3,6,7,9,10] (.bx c7)=true) (q9:bh [3,6,7,9,10] (.bx c9)=true) (qr:dJ [3,6,7,9,10] rw'=rw') :
  ∀ (k i:Nat),i+k=es.length→∀ (x:Ri),OkI x→∀ (s:am) (h:ac),s 1 = .sl 7 (dp dom)→s 2=I p→s 6 = .ref 6 none 0 0 0→s 7 = .ref 7 none 0 0 0→s 10 = .ref 10 none 0 0 0→s 22=rw'→s 23=I n→s 24=I j→s 32 = .sl 1 (dO es)→s 33=I es.length→s 34=I i →
  h 3 = .bx c3→h 6 = .bx c6→h 7 = .bx c7→h 9 = .bx c9→h 10 = .bx (az x) →
  ∃ hh,au 2 [1,2,6,7,10,22,23,24] (aq (ak R (ae false) dR) [1,2,6,7,10,22,23,24,32,33,34] [3,6,7,9,10] s h)=some (.normal,⟨upd (upd (upd (upd (upd (upd (upd (upd (fun _ => .any) 24 (I j)) 23 (I n)) 22 rw') 10 (.ref 10 none 0 0 0)) 7 (.ref 7 none 0 0 0)) 6 (.ref 6 none 0 0 0)) 2 (I p)) 1 (.sl 7 (dp dom)),hh⟩) ∧
   hh 3 = .bx c3∧hh 6 = .bx c6∧hh 7 = .bx c7∧hh 10 = .bx (az (AI p (dom.drop i) (es.drop i) x))∧∀ a,a ≠ 3→a ≠ 6→a ≠ 7→a ≠ 9→a ≠ 10→hh a = .dead:=by
 intro k
 induction k with
 | zero =>
  intro i hi x ox s h h1 h2' h6 h7 h10 h22 h23 h24 h32 h33 h34 k3 k6 k7 k9 k10
  have e1:((i:Int) < es.length)=False:=ff (by omega)
  rw [List.drop_eq_nil_of_le (by omega),List.drop_eq_nil_of_le (by omega),ao]
  simp only [az] at k10
  refine ⟨?hh0,?_,?_,?_,?_,?_,?_⟩
  rotate_left
  ·simp only [dR,go_sem,↓reduceIte,amO,amT,h1,h2',h6,h7,h10,h22,h23,h24,h32,h33,h34,k3,k6,k7,k9,k10,q3,q6,q7,q9,qr,e1]
   rfl
  ·rfl
  ·rfl
  ·rfl
  ·rfl
  ·intro a a3 a6 a7 a9 a10
   simp only [bX,a3,a6,a7,a9,a10,if_false]
 | succ k ih =>
  intro i hi x ox s h h1 h2' h6 h7 h10 h22 h23 h24 h32 h33 h34 k3 k6 k7 k9 k10
  have hlt:i < es.length:=by omega
  have hlt2:i < dom.length:=by omega
  have e1:((i:Int) < es.length)=True:=tt (by omega)
  have e2:aV (dO es) (i:Int)=some (.ipt [I es[i]]):=mq rfl (List.getElem?_eq_getElem hlt)
  have e3:aV (dp dom) (i:Int)=some (.ipt (az dom[i])):=zq rfl (List.getElem?_eq_getElem hlt2)
  have e5:IntKind.i64.wrap ((i:Int)+1)=((i+1:Nat):Int):=wi (by omega) (by omega)
  have oki:=od dom[i] (List.getElem_mem hlt2)
  have hb:=he es[i] (List.getElem_mem hlt)
  rw [List.drop_eq_getElem_cons hlt,List.drop_eq_getElem_cons hlt2,ao]
  have ih':=ih (i+1) (by omega)
  unfold AI
  generalize es[i]=e at e2 hb ⊢
  generalize dom[i]=d at e3 oki ⊢
  obtain ⟨m,rfl⟩:=Int.eq_ofNat_of_zero_le hb.1
  rw [Int.toNat_natCast]
  have hpw:=WR oki (e:=m) (by omega) (p:=p)
  have opw:=N0 oki (e:=m) (p:=p)
  generalize wh d m p=y at hpw opw ⊢
  have hmu:=NW ox opw (p:=p)
  have omu:=zu (x:=x) (y:=y) (p:=p)
  generalize pB x y p=z at hmu omu ⊢
  generalize aq _ _ _=L at ih' ⊢
  simp only [ax,az] at e3 hpw hmu k10
  by_cases hm:0 < (m:Int)
  ·have f1:(0 < (m:Int))=True:=tt hm
   rw [if_pos hm]
   simp only [dR,go_sem,↓reduceIte,amO,amQ,amP,amR,amS,amT,h1,h2',h6,h7,h10,h22,h23,h24,h32,h33,h34,k3,k6,k7,k9,k10,q3,q6,q7,q9,qr,e1,e2,e3,f1,hpw,hmu,e5]
   exact ih' z omu _ _ rfl rfl rfl rfl rfl rfl rfl rfl rfl rfl rfl rfl rfl rfl rfl rfl
  ·have f1:(0 < (m:Int))=False:=ff hm
   rw [if_neg hm]
   simp only [dR,go_sem,↓reduceIte,amO,amQ,amP,amR,amS,amT,h1,h2',h6,h7,h10,h22,h23,h24,h32,h33,h34,k3,k6,k7,k9,k10,q3,q6,q7,q9,qr,e1,e2,e3,f1,hpw,hmu,e5]
   exact ih' x ox _ _ rfl rfl rfl rfl rfl rfl rfl rfl rfl rfl rfl rfl rfl rfl rfl rfl
end Go.Ab
namespace Go.Ab
open Go Go.IntWalk
set_option maxRecDepth 4000
set_option maxHeartbeats 1000000
def DN (p:Int) (dom:List Ri):List Rt→Ri→Ri
 | [],s=>s
 | t::l,s=>DN p dom l (qQ s (AI p dom t.exps ⟨t.c,t.c,false⟩) p)
theorem N1 {v:Int}:∀ (l:List Rt) (pr:Option Rt),AH v pr l=true→∀ t ∈ l,u7 v t=true:=by
 intro l
 induction l with
 | nil=>exact fun pr h t ht=>nomatch ht
 | cons a l ih =>
  intro pr h t ht
  unfold AH at h
  simp only [Bool.and_eq_true] at h
  rcases List.mem_cons.1 ht with h1 | h1
  ·rw [h1]
   exact h.1
  ·exact ih _ h.2.2 t h1
theorem SA {a:Rp} {dom:List Ri} (oa:OkP a) (od:∀ x ∈ dom,OkI x) (hv:∀ t ∈ a.terms,u7 a.vars t=true) (hl:(dom.length:Int)=a.vars) (h8:a.vars≤8) (h5:a.terms.length≤500) {p:Int} :
  ∀ (k i:Nat),i+k=a.terms.length→∀ (x:Ri),OkI x→∀ (s:am) (h:ac),s 1 = .sl 7 (dp dom)→s 2=I p→s 6 = .ref 6 none 0 0 0→s 7 = .ref 7 none 0 0 0→s 22 = .sl 4 (ez a.terms)→s 23=I a.terms.length→s 24=I i →
  h 3 = .bx [I a.vars,.sl 4 (ez a.terms)]→h 6 = .bx [.v (.bool false),.emp,.v (.int .i64 0),.v (.bool false),.emp,.v (.int .i64 0),.v (.bool false)]→h 7 = .bx (az x) →
  ∃ hh,au 0 [6,7] (aq (ak R (ae false) eL) [1,2,6,7,22,23,24] [3,6,7] s h)=some (.normal,⟨upd (upd (fun _ => .any) 7 (.ref 7 none 0 0 0)) 6 (.ref 6 none 0 0 0),hh⟩)∧hh 6 = .bx [.v (.bool false),.emp,.v (.int .i64 0),.v (.bool false),.emp,.v (.int .i64 0),.v (.bool false)]∧hh 7 = .bx (az (DN p dom (a.terms.drop i) x)):=by
 intro k
 induction k with
 | zero =>
  intro i hi x ox s h h1 h2 h6 h7 h22 h23 h24 k3 k6 k7
  have e1:((i:Int) < a.terms.length)=False:=ff (by omega)
  rw [List.drop_eq_nil_of_le (by omega),ao]
  simp only [az] at k7
  refine ⟨?hh0,?_,?_,?_⟩
  rotate_left
  ·simp only [eL,go_sem,↓reduceIte,amO,amT,h1,h2,h6,h7,h22,h23,h24,k3,k6,k7,e1]
   rfl
  ·rfl
  ·rfl
 | succ k ih =>
  intro i hi x ox s h h1 h2 h6 h7 h22 h23 h24 k3 k6 k7
  have hlt:i < a.terms.length:=by omega
  have e1:((i:Int) < a.terms.length)=True:=tt (by omega)
  have e2:aV (ez a.terms) (i:Int)=some (.ipt (dY a.terms[i])):=pC rfl (List.getElem?_eq_getElem hlt)
  have e5:IntKind.i64.wrap ((i:Int)+1)=((i+1:Nat):Int):=wi (by omega) (by omega)
  have okt:=oa.t a.terms[i] (List.getElem_mem hlt)
  obtain ⟨c1,c2,c3,c4,c5⟩:=u9 (hv a.terms[i] (List.getElem_mem hlt))
  rw [List.drop_eq_getElem_cons hlt,ao]
  have ih':=ih (i+1) (by omega)
  unfold DN
  generalize a.terms[i]=t at e2 okt c1 c2 c3 c4 c5 ⊢
  have hpt:=B7 okt.c c2
  have hin:=aby (dom:=dom) od (es:=t.exps) (by omega) (by omega) (nR c4) (p:=p) (c3:=[I a.vars,.sl 4 (ez a.terms)]) (c6:=[.v (.bool false),.emp,.v (.int .i64 0),.v (.bool false),.emp,.v (.int .i64 0),.v (.bool false)]) (c7:=az x) (c9:=dY t) (rw' := .sl 4 (ez a.terms)) (n:=a.terms.length) (j:=i) rfl rfl rfl rfl rfl t.exps.length 0 (Nat.zero_add _) ⟨t.c,t.c,false⟩ ⟨okt.c,okt.c⟩
  simp only [List.drop_zero,Int.natCast_zero] at hin
  have oy:=Sz (p:=p) dom t.exps ⟨t.c,t.c,false⟩ ⟨okt.c,okt.c⟩
  generalize AI p dom t.exps ⟨t.c,t.c,false⟩=y at hin oy ⊢
  have hadd:=WK ox oy (p:=p)
  have oz:=NZ (x:=x) (y:=y) (p:=p)
  generalize qQ x y p=z at hadd oz ⊢
  generalize hL0:aq (ak R (ae false) dR) [1,2,6,7,10,22,23,24,32,33,34] [3,6,7,9,10]=L0 at hin
  have hin2:∀ (S:am) (H:ac) (X:Option (Ex × St)),au 2 [1,2,6,7,10,22,23,24] (L0 S H)=X→S 1 = .sl 7 (dp dom)→S 2=I p→S 6 = .ref 6 none 0 0 0→S 7 = .ref 7 none 0 0 0→S 10 = .ref 10 none 0 0 0→S 22 = .sl 4 (ez a.terms)→S 23=I a.terms.length→S 24=I i→S 32 = .sl 1 (dO t.exps)→S 33=I t.exps.length→S 34=I 0 →
   H 3 = .bx [I a.vars,.sl 4 (ez a.terms)]→H 6 = .bx [.v (.bool false),.emp,.v (.int .i64 0),.v (.bool false),.emp,.v (.int .i64 0),.v (.bool false)]→H 7 = .bx (az x)→H 9 = .bx (dY t)→H 10 = .bx (az ⟨t.c,t.c,false⟩) →
   ∃ hh,X=some (.normal,⟨upd (upd (upd (upd (upd (upd (upd (upd (fun _ => .any) 24 (I i)) 23 (I a.terms.length)) 22 (.sl 4 (ez a.terms))) 10 (.ref 10 none 0 0 0)) 7 (.ref 7 none 0 0 0)) 6 (.ref 6 none 0 0 0)) 2 (I p)) 1 (.sl 7 (dp dom)),hh⟩) ∧
    hh 3 = .bx [I a.vars,.sl 4 (ez a.terms)]∧hh 6 = .bx [.v (.bool false),.emp,.v (.int .i64 0),.v (.bool false),.emp,.v (.int .i64 0),.v (.bool false)]∧hh 7 = .bx (az x)∧hh 10 = .bx (az y)∧∀ a,a ≠ 3→a ≠ 6→a ≠ 7→a ≠ 9→a ≠ 10→hh a = .dead:=fun S H X hX=>by
   rw [← hX]
   exact hin S H
  have hX:∀ s h,ak R (ae false) (.loop [1,2,6,7,10,22,23,24,32,33,34] [3,6,7,9,10] dR) s h=L0 s h:=fun s h=>by rw [← hL0]; rfl
  clear hL0
  generalize aq _ _ _=L at ih' ⊢
  clear hin
  simp only [dY] at e2 hin2
  simp only [ax,az,af,aj] at hpt hadd k7 hin2
  simp only [eL,hX,go_sem,↓reduceIte,amO,amQ,amP,amR,amT,h1,h2,h6,h7,h22,h23,h24,k3,k6,k7,e1,e2,hpt]
  generalize hB:au 2 [1,2,6,7,10,22,23,24] (L0 _ _)=X
  obtain ⟨hh,g0,g3,g6,g7,g10,gd⟩:=hin2 _ _ _ hB rfl rfl rfl rfl rfl rfl rfl rfl rfl rfl rfl rfl rfl rfl rfl rfl
  rw [g0]
  simp only [go_sem,↓reduceIte,amO,amQ,amP,amR,ne_eq,not_false_eq_true,g7,g10,gd,hadd,e5]
  refine ih' z oz _ _ ?_ ?_ ?_ ?_ ?_ ?_ ?_ ?_ ?_ ?_
  all_goals first | rfl | exact g3 | exact g6
def sP (a:Rp) (dom:List Ri) (p:Int):Ri:=if (sO a dom && ey p)=true then DN p dom a.terms ⟨aQ,aQ,false⟩ else jj
theorem UK {a:Rp} {dom:List Ri} (oa:OkP a) (od:∀ x ∈ dom,OkI x) (h2:dom.length≤100000) {p:Int}:R F.bound_Naive [cI a,.sl 7 (dp dom),I p] []=some (ax (sP a dom p),[]):=by
 refine av Hk Hj (A3 false) rfl ?_
 have hf:=WV oa od h2 (p:=p)
 have hw:=UJ
 unfold sP
 simp only [cI] at hf
 simp only [ax,az] at hw
 cases hb:(sO a dom && ey p) with
 | false =>
  rw [hb] at hf
  rw [if_neg Bool.false_ne_true]
  simp only [iS,qH,cI,ax,az,go_sem,↓reduceIte,amO,amQ,amP,amR,hf,hw]
 | true =>
  rw [hb] at hf
  rw [if_pos rfl]
  simp only [sO,vp,Bool.and_eq_true,decide_eq_true_eq] at hb
  obtain ⟨⟨⟨v1,v2,v3,v4⟩,v5,v6⟩,v7⟩:=hb
  have ho:=SA oa od (N1 _ _ v4) v5 v2 v3 (p:=p) a.terms.length 0 (Nat.zero_add _) ⟨aQ,aQ,false⟩ ⟨bw.2,bw.2⟩
  simp only [List.drop_zero,Int.natCast_zero] at ho
  generalize DN p dom a.terms ⟨aQ,aQ,false⟩=z at ho ⊢
  have hpt:=B7 bw.2 bw.1
  generalize hL0:aq (ak R (ae false) eL) [1,2,6,7,22,23,24] [3,6,7]=L0 at ho
  have hX:∀ s h,ak R (ae false) (.loop [1,2,6,7,22,23,24] [3,6,7] eL) s h=L0 s h:=fun s h=>by rw [← hL0]; rfl
  clear hL0
  have ho2:∀ (S:am) (H:ac) (X:Option (Ex × St)),au 0 [6,7] (L0 S H)=X→S 1 = .sl 7 (dp dom)→S 2=I p→S 6 = .ref 6 none 0 0 0→S 7 = .ref 7 none 0 0 0→S 22 = .sl 4 (ez a.terms)→S 23=I a.terms.length→S 24=I 0 →
   H 3 = .bx [I a.vars,.sl 4 (ez a.terms)]→H 6 = .bx [.v (.bool false),.emp,.v (.int .i64 0),.v (.bool false),.emp,.v (.int .i64 0),.v (.bool false)]→H 7 = .bx (az ⟨aQ,aQ,false⟩) →
   ∃ hh,X=some (.normal,⟨upd (upd (fun _ => .any) 7 (.ref 7 none 0 0 0)) 6 (.ref 6 none 0 0 0),hh⟩)∧hh 6 = .bx [.v (.bool false),.emp,.v (.int .i64 0),.v (.bool false),.emp,.v (.int .i64 0),.v (.bool false)]∧hh 7 = .bx (az z):=fun S H X hX=>by
   rw [← hX]
   exact ho S H
  clear ho
  simp only [ax,az,af,aj,aQ] at hpt ho2
  simp only [iS,qH,hX,cI,ax,az,go_sem,↓reduceIte,amO,amQ,amP,amR,hf,hpt]
  generalize hB:au 0 [6,7] (L0 _ _)=X
  obtain ⟨hh,g0,g6,g7⟩:=ho2 _ _ _ hB rfl rfl rfl rfl rfl rfl rfl rfl rfl rfl
  rw [g0]
  simp only [go_sem,↓reduceIte,amO,amQ,amP,amR,g6,g7]
end Go.Ab
namespace Go.Ab
open Go Go.IntWalk
set_option maxRecDepth 4000
set_option maxHeartbeats 1000000
theorem j8 {n:Nat} {i:Int} (hi:i=n) (hn:n < 18446744073709551616):cU .and (.v (.int .u64 i)) (.v (.int .u64 4294967295))=some (.v (.int .u64 ((n % 4294967296:Nat):Int))):=by
 subst hi
 rw [Ny]
 have e:(BitVec.ofInt IntKind.u64.bits (n:Int) &&& BitVec.ofInt IntKind.u64.bits 4294967295).toNat=n % 4294967296:=by
  show (BitVec.ofInt 64 (n:Int) &&& BitVec.ofInt 64 4294967295).toNat=n % 4294967296
  rw [BitVec.toNat_and]
  have e2:(BitVec.ofInt 64 (n:Int)).toNat=n:=by
   simp
   omega
  rw [e2,show (BitVec.ofInt 64 4294967295).toNat=2 ^ 32 - 1 from by decide,Nat.and_two_pow_sub_one_eq_mod]
 rw [e]
 rw [cf rfl (by omega)]
theorem KV {n:Nat} {i:Int} (hi:i=n) (hn:n < 4294967296):cU .and (.v (.int .u32 i)) (.v (.int .u32 1))=some (.v (.int .u32 ((n % 2:Nat):Int))):=by
 subst hi
 rw [Ny]
 have e:(BitVec.ofInt IntKind.u32.bits (n:Int) &&& BitVec.ofInt IntKind.u32.bits 1).toNat=n % 2:=by
  show (BitVec.ofInt 32 (n:Int) &&& BitVec.ofInt 32 1).toNat=n % 2
  rw [BitVec.toNat_and]
  have e2:(BitVec.ofInt 32 (n:Int)).toNat=n:=by
   simp
   omega
  rw [e2,show (BitVec.ofInt 32 1).toNat=2 ^ 1 - 1 from by decide,Nat.and_two_pow_sub_one_eq_mod]
 rw [e]
 rw [nN rfl (by omega)]
theorem P0 (m:List Nat) (h2:m.length < 4611686018427387904):∀ (n:Nat),n≤m.length→∀ (s:am) (h:ac),s 0=lm m→s 3=I n →
  au 0 [0,3] (aq (ak R (ae false) wG) [0,3] [] s h)=some (.normal,⟨upd (upd (fun _ => .any) 3 (I (fG m n))) 0 (lm m),fun _ => .dead⟩):=yv m h2
theorem pD {m:List Nat} (hb:Lb m) (h:m.length≤10000000):R F.r02_trim [lm m] []=some (lm (ap (ab m)),[]):=by
 refine av Ps Pr (HK false) rfl ?_
 have h1:kU 1 (lm m) none (some (I (fG m m.length:Nat))) none=some (lm (ap (ab m))):=by
  rw [uS (a:=0) (b:=fG m m.length) rfl (nv rfl (mS _ _)) (mS _ _),List.drop_zero,Nat.sub_zero,vP hb]
 have hl:=bN m hb
 have e1:((ap (ab m)).length*4≤140737488355328)=True:=tt (by omega)
 simp only [pQ,CV,go_sem,↓reduceIte,amO,amR,amS,P0 m (by omega) m.length (Nat.le_refl _),h1,B0,e1,List.nil_append,List.length_nil,true_or,Nat.zero_add,Nat.le_refl,List.replicate_zero]
theorem SB:∀ (x b:Nat),x < 4294967296→b+ah x≤100000000→∀ (s:am) (h:ac),s 3=I b→s 4=U x →
  au 0 [3] (aq (ak R (ae false) mY) [3,4] [] s h)=some (.normal,⟨upd (fun _ => .any) 3 (I (b+ah x:Nat)),fun _ => .dead⟩):=by
 intro x
 induction x using Nat.strongRecOn with
 | ind x ih =>
  intro b hx hb s h h3 h4
  rw [ao]
  by_cases h0:x=0
  ·have e1:(0 < (x:Int))=False:=ff (by omega)
   rw [h0,lC,Nat.add_zero]
   rw [h0] at e1 h4
   simp only [mY,go_sem,↓reduceIte,amO,h3,h4,e1]
  ·have e1:(0 < (x:Int))=True:=tt (by omega)
   have e2:=vV (n:=x) (k:=1) (kk := .u64) (j:=1) rfl rfl (by omega)
   have e3:IntKind.i64.wrap ((b:Int)+1)=((b+1:Nat):Int):=wi (by omega) (by omega)
   have e4:ah x=1+ah (x / 2 ^ 1):=by
    have h5:=du x 1
    have h6:=eu h0
    omega
   have ih':=ih (x / 2 ^ 1) (by omega) (b+1) (by omega) (by omega)
   rw [show b+ah x=b+1+ah (x / 2 ^ 1) by omega]
   generalize aq _ _ _=L at ih' ⊢
   simp only [mY,go_sem,↓reduceIte,amO,h3,h4,e1,e2,e3]
   exact ih' _ _ rfl rfl
theorem KW {m:List Nat} (hb:Lb m) (h:m.length≤1000000) (hc:pW m):R F.r02_bits [lm m] []=some (I (ah (ab m):Nat),[]):=by
 refine av Pu Pt (HN false) rfl ?_
 by_cases h0:m.length=0
 ·have:m=[]:=List.length_eq_zero_iff.1 h0
  subst this
  simp only [mQ,vM,go_sem,↓reduceIte,amO,List.length_nil,Int.natCast_zero,ab,lC]
 ·have e1:((m.length:Int)=0)=False:=ff (by omega)
  have e2:IntKind.i64.wrap ((m.length:Int) - 1)=((m.length - 1:Nat):Int):=wi (by omega) (by omega)
  have e3:IntKind.i64.wrap (32*((m.length - 1:Nat):Int))=((32*(m.length - 1):Nat):Int):=wi (by omega) (by omega)
  have e4:aV (aE m) ((m.length - 1:Nat):Int)=some (.ipt [U (m.getD (m.length - 1) 0:Nat)]):=aX rfl (by omega)
  have hx:=bd hb (m.length - 1)
  have e5:=SB (m.getD (m.length - 1) 0) (32*(m.length - 1)) hx (by have:=(bl (k:=32)).2 hx; omega)
  have e6:32*(m.length - 1)+ah (m.getD (m.length - 1) 0)=ah (ab m):=by
   have hne:m ≠ []:=fun h=>h0 (by rw [h]; rfl)
   have h7:=KF (yc hc hne)
   rw [pp hb hc] at h7
   exact h7.symm
  rw [e6] at e5
  simp only [mQ,vM,go_sem,↓reduceIte,amO,e1,e2,e3,e4]
  rw [e5 _ _ rfl rfl]
  simp only [go_sem,↓reduceIte]
theorem KX {m:List Nat} (hb:Lb m) (n:Nat):m.getD (n / 32) 0 / 2 ^ (n % 32) % 2=ab m / 2 ^ n % 2:=by
 have h1:ab m / 2 ^ n=ab (m.drop (n / 32)) / 2 ^ (n % 32):=by
  rw [ny hb,Nat.div_div_eq_div_mul,jp]
 rw [h1,dM]
 have hr:n % 32 < 32:=Nat.mod_lt _ (by omega)
 have e:(4294967296:Nat)=2 ^ (n % 32)*(2*2 ^ (31 - n % 32)):=by
  rw [← Nat.pow_succ',← Nat.pow_add,show n % 32+(31 - n % 32+1)=32 by omega]
 generalize ab (m.drop (n / 32+1))=w
 rw [show 4294967296*w=2 ^ (n % 32)*(2*(2 ^ (31 - n % 32)*w)) by
  conv=>lhs; rw [e]
  rw [Nat.mul_assoc,Nat.mul_assoc],Nat.add_mul_div_left _ _ (Nat.two_pow_pos _),Nat.add_mul_mod_self_left]
theorem SC {n:Nat} (h:n ≠ 0) {k:Nat} (hk:k≤tz n):n / 2 ^ k % 2=if k=tz n then 1 else 0:=by
 obtain ⟨h1,h2⟩:=pq h
 by_cases hh:k=tz n
 ·rw [if_pos hh,hh]
  exact h2
 ·rw [if_neg hh]
  obtain ⟨j,hj⟩:∃ j,tz n=k+(j+1):=⟨tz n - k - 1,by omega⟩
  have h3:n=2 ^ k*(2*(2 ^ j*(n / 2 ^ tz n))):=by
   conv=>lhs; rw [h1,hj]
   rw [Nat.pow_add,Nat.pow_succ,hj,Nat.pow_add,Nat.pow_succ]
   ac_rfl
  rw [h3,Nat.mul_div_cancel_left _ (Nat.two_pow_pos k),Nat.mul_mod_right]
theorem P1 {m:List Nat} (hb:Lb m) (h:m.length≤1000000) (hv:ab m ≠ 0):∀ (k i:Nat),i+k=tz (ab m)→∀ (s:am) (h:ac),s 0=lm m→s 3=I i →
  au 0 [3] (aq (ak R (ae false) lY) [0,3] [] s h)=some (.normal,⟨upd (fun _ => .any) 3 (I (tz (ab m):Nat)),fun _ => .dead⟩):=by
 have htz:tz (ab m) < 32*m.length:=by
  refine IC hv ?_
  have:=bC hb
  rw [Nat.pow_mul]
  exact this
 intro k
 induction k with
 | zero =>
  intro i hi s h h0 h3
  have hi':i=tz (ab m):=by omega
  have e1:=mn (n:=i) (m:=32) (j:=32) rfl rfl (by omega) (by omega)
  have e2:=nO (n:=i) (m:=32) (j:=32) rfl rfl (by omega)
  have e3:aV (aE m) ((i / 32:Nat):Int)=some (.ipt [U (m.getD (i / 32) 0:Nat)]):=aX rfl (by omega)
  have hx:=bd hb (i / 32)
  have e4:IntKind.u64.wrap ((i % 32:Nat):Int)=((i % 32:Nat):Int):=cf rfl (by omega)
  have e5:=vV (n:=m.getD (i / 32) 0) (k:=i % 32) (kk := .u64) (j:=((i % 32:Nat):Int)) rfl rfl (by omega)
  have e6:=KV (n:=m.getD (i / 32) 0 / 2 ^ (i % 32)) rfl (Nat.lt_of_le_of_lt (Nat.div_le_self _ _) hx)
  have e7:=KX hb i
  rw [SC hv (by omega),if_pos hi'] at e7
  rw [e7] at e6
  rw [ao]
  rw [← hi']
  simp only [lY,go_sem,↓reduceIte,amO,amX,h0,h3,e1,e2,e3,e4,e5,e6,Int.natCast_one]
 | succ k ih =>
  intro i hi s h h0 h3
  have e1:=mn (n:=i) (m:=32) (j:=32) rfl rfl (by omega) (by omega)
  have e2:=nO (n:=i) (m:=32) (j:=32) rfl rfl (by omega)
  have e3:aV (aE m) ((i / 32:Nat):Int)=some (.ipt [U (m.getD (i / 32) 0:Nat)]):=aX rfl (by omega)
  have hx:=bd hb (i / 32)
  have e4:IntKind.u64.wrap ((i % 32:Nat):Int)=((i % 32:Nat):Int):=cf rfl (by omega)
  have e5:=vV (n:=m.getD (i / 32) 0) (k:=i % 32) (kk := .u64) (j:=((i % 32:Nat):Int)) rfl rfl (by omega)
  have e6:=KV (n:=m.getD (i / 32) 0 / 2 ^ (i % 32)) rfl (Nat.lt_of_le_of_lt (Nat.div_le_self _ _) hx)
  have e7:=KX hb i
  rw [SC hv (by omega),if_neg (by omega)] at e7
  rw [e7] at e6
  have e8:IntKind.i64.wrap ((i:Int)+1)=((i+1:Nat):Int):=wi (by omega) (by omega)
  have ih':=ih (i+1) (by omega)
  rw [ao]
  generalize aq _ _ _=L at ih' ⊢
  simp only [lY,go_sem,↓reduceIte,amO,h0,h3,e1,e2,e3,e4,e5,e6,e8,Int.natCast_zero]
  exact ih' _ _ rfl rfl
theorem SD {m:List Nat} (hb:Lb m) (h:m.length≤1000000) (hv:ab m ≠ 0):R F.r02_zeros [lm m] []=some (I (tz (ab m):Nat),[]):=by
 refine av MV MU (Fa false) rfl ?_
 have h3:=P1 hb h hv (tz (ab m)) 0 (Nat.zero_add _)
 simp only [Int.natCast_zero] at h3
 simp only [oF,Ay,go_sem,↓reduceIte,amO]
 rw [h3 _ _ rfl rfl]
 simp only [go_sem,↓reduceIte]
end Go.Ab
namespace Go.Ab
open Go Go.IntWalk
set_option maxRecDepth 4000
set_option maxHeartbeats 1000000
theorem SE {a:List Nat} (ha:Lb a) {n q:Nat} (h1:a.length≤100000) (hq:q≤100000):∀ (k i:Nat),i+k=a.length→∀ (s:am) (h:ac),s 0=lm a→s 1=I (n:Nat)→s 5 = .rsl 11 none 1 0 (q+i)→s 6=W (bP a (n % 32) i:Nat)→s 7=I i →
  h 11 = .ar 1 (aE (List.replicate q 0++eD a (n % 32) i))→h 34 = .dead →
  au 0 [5,6] (aq (ak R (ae false) mZ) [0,1,5,6,7] [11,34] s h) =
   some (.normal,⟨upd (upd (fun _ => .any) 6 (W (bP a (n % 32) a.length:Nat))) 5 (.rsl 11 none 1 0 (q+a.length)),upd (upd (fun _ => .dead) 34 .dead) 11 (.ar 1 (aE (List.replicate q 0++eD a (n % 32) a.length)))⟩):=by
 intro k
 induction k with
 | zero =>
  intro i hi s h h0 g1 h5 h6 h7 hh hh2
  have:i=a.length:=by omega
  subst this
  rw [ao]
  simp only [mZ,go_sem,↓reduceIte,amO,amT,h0,g1,h5,h6,h7,hh,hh2,Int.lt_irrefl]
 | succ k ih =>
  intro i hi s h h0 g1 h5 h6 h7 hh hh2
  have ih':=ih (i+1) (by omega)
  have hx:=bd ha i
  have hr:n % 32 < 32:=Nat.mod_lt _ (by omega)
  have hc:=qv ha (r:=n % 32) i
  have hp:2 ^ (n % 32)≤2 ^ 31:=Nat.pow_le_pow_right (by omega) (by omega)
  have hxp:a.getD i 0*2 ^ (n % 32)≤4294967295*2 ^ 31:=Nat.mul_le_mul (by omega) hp
  have e1:((i:Int) < (a.length:Int))=True:=tt (by omega)
  have e2:aV (aE a) (i:Int)=some (.ipt [U (a.getD i 0:Nat)]):=aX rfl (by omega)
  have e3:IntKind.i64.wrap ((i:Int)+1)=((i+1:Nat):Int):=wi (by omega) (by omega)
  have e4:IntKind.u64.wrap (a.getD i 0:Int)=(a.getD i 0:Int):=cf rfl (by omega)
  have e5:=nO (n:=n) (m:=32) (j:=32) rfl rfl (by omega)
  have e5':IntKind.u64.wrap ((n % 32:Nat):Int)=((n % 32:Nat):Int):=cf rfl (by omega)
  have e6:=zm (n:=a.getD i 0) (k:=n % 32) (kk := .u64) (j:=((n % 32:Nat):Int)) rfl rfl (by omega) (by omega)
  have e7:=PL (m:=a.getD i 0*2 ^ (n % 32)) (n:=bP a (n % 32) i) rfl rfl (by omega) (by omega)
  rw [yw hc] at e7
  have e10:=j8 (n:=a.getD i 0*2 ^ (n % 32)+bP a (n % 32) i) rfl (by omega)
  have e8:IntKind.u32.wrap (((a.getD i 0*2 ^ (n % 32)+bP a (n % 32) i) % 4294967296:Nat):Int)=(((a.getD i 0*2 ^ (n % 32)+bP a (n % 32) i) % 4294967296:Nat):Int):=nN rfl (by omega)
  have e9:=gW (n:=a.getD i 0*2 ^ (n % 32)+bP a (n % 32) i) (k:=32) (kk := .u64) (j:=32) rfl rfl (by omega)
  have f1:aE (List.replicate q 0++eD a (n % 32) i)++[[U ((a.getD i 0*2 ^ (n % 32)+bP a (n % 32) i) % 4294967296:Nat)]]=aE (List.replicate q 0++eD a (n % 32) (i+1)):=by
   rw [show [[U ((a.getD i 0*2 ^ (n % 32)+bP a (n % 32) i) % 4294967296:Nat)]]=aE [(a.getD i 0*2 ^ (n % 32)+bP a (n % 32) i) % 4294967296] from rfl,rA,List.append_assoc]
   simp [eD,List.range_succ]
  have f2:(q+i=(List.replicate q 0++eD a (n % 32) i).length)=True:=tt (by simp [iw])
  have f3:((q+i+1)*4≤140737488355328)=True:=tt (by omega)
  rw [ao]
  generalize aq _ _ _=L at ih' ⊢
  simp only [mZ,go_sem,↓reduceIte,amO,amR,amS,amT,h0,g1,h5,h6,h7,hh,hh2,e1,e2,e3,e4,e5,e5',e6,e7,e8,e9,e10,f1,f2,f3,true_or,Nat.zero_add,Nat.le_refl]
  exact ih' _ _ rfl rfl rfl rfl rfl rfl rfl
theorem KY {a:List Nat} (ha:Lb a) {n:Nat} (h1:a.length≤10000) (hn:n≤100000):R F.r02_left [lm a,I n] []=some (lm (ap (ab a*2 ^ n)),[]):=by
 refine av Pw Pv (HO false) rfl ?_
 have hc:=qv ha (r:=n % 32) a.length
 have hp:2 ^ (n % 32)≤2 ^ 31:=Nat.pow_le_pow_right (by omega) (by have:n % 32 < 32:=Nat.mod_lt _ (by omega); omega)
 have e1:=mn (n:=n) (m:=32) (j:=32) rfl rfl (by omega) (by omega)
 have e4:=jo (i:=((n / 32:Nat):Int)) (j:=((n / 32:Nat):Int)) rfl rfl (Nat.le_refl _) (by omega)
 have e5:(n / 32*4≤140737488355328)=True:=tt (by omega)
 have e6:=SE ha (n:=n) (q:=n / 32) (by omega) (by omega) a.length 0 (by omega)
 have e7:aE (List.replicate (n / 32) 0)=aE (List.replicate (n / 32) 0++eD a (n % 32) 0):=by simp [eD]
 have e8:IntKind.u32.wrap ((bP a (n % 32) a.length:Nat):Int)=((bP a (n % 32) a.length:Nat):Int):=nN rfl (by omega)
 have hall:=FH ha n
 have f1:aE (List.replicate (n / 32) 0++eD a (n % 32) a.length)++[[U (bP a (n % 32) a.length:Nat)]]=aE (bI (n / 32+a.length+1) (ab a*2 ^ n)):=by
  rw [← hall,show [[U (bP a (n % 32) a.length:Nat)]]=aE [bP a (n % 32) a.length] from rfl,rA]
 have f2:(n / 32+a.length=(List.replicate (n / 32) 0++eD a (n % 32) a.length).length)=True:=tt (by simp [iw])
 have f3:((n / 32+a.length+1)*4≤140737488355328)=True:=tt (by omega)
 have ht:=pD (gC (n / 32+a.length+1) (ab a*2 ^ n)) (by rw [bk]; omega)
 have hv:ab (bI (n / 32+a.length+1) (ab a*2 ^ n))=ab a*2 ^ n:=by
  rw [et,Nat.mod_eq_of_lt]
  have h:=bC ha
  have h2:2 ^ n≤4294967296 ^ (n / 32+1):=by
   rw [show (4294967296:Nat)=2 ^ 32 from rfl,← Nat.pow_mul]
   exact Nat.pow_le_pow_right (by omega) (by omega)
  rw [show n / 32+a.length+1=a.length+(n / 32+1) from by omega,Nat.pow_add]
  exact Nat.mul_lt_mul_of_lt_of_le h h2 (Nat.pow_pos (by omega))
 rw [hv] at ht
 have f4:(aE (bI (n / 32+a.length+1) (ab a*2 ^ n))).take (n / 32+a.length+1)=aE (bI (n / 32+a.length+1) (ab a*2 ^ n)):=by
  rw [List.take_of_length_le]
  rw [uR,bk]
  exact Nat.le_refl _
 simp only [pR,CW,go_sem,↓reduceIte,amO,e1,e4,e5,nM,e7]
 rw [e6 _ _ rfl rfl rfl rfl rfl rfl rfl]
 simp only [go_sem,↓reduceIte,amO,amQ,amP,amR,amS,e8,f1,f2,f3,f4,true_or,Nat.zero_add,Nat.le_refl,bk,ht]
def jq (d:Nat) (out:List Nat) (x:AV) (o:Ob):Prop:=(out=[]∧x = .emp∧o = .dead)∨(0 < out.length∧x = .rsl d none 1 0 out.length∧o = .ar 1 (aE out))
theorem jk {d v:Nat}:jq d ([]++[v]) (.rsl d none 1 0 1) (.ar 1 [[U (v:Nat)]]):=Or.inr ⟨by simp,rfl,rfl⟩
theorem gU {d v:Nat} {out:List Nat}:jq d (out++[v]) (.rsl d none 1 0 (out.length+1)) (.ar 1 (aE (out++[v]))):=Or.inr ⟨by simp,by rw [List.length_append]; rfl,rfl⟩
theorem fW (out:List Nat) (v:Nat):aE out++[[U (v:Nat)]]=aE (out++[v]):=by simp [aE]
theorem G2 (a:List Nat) (r i:Nat):dk a r (i+1)=dk a r i++[iC a r i]:=by simp [dk,List.range_succ]
theorem P2 {a:List Nat} (ha:Lb a) {n:Nat} (h1:a.length≤100000):∀ (k i:Nat),i+k=a.length→∀ (s:am) (h:ac),s 0=lm a→s 1=I (n:Nat)→s 6=I i→jq 51 (dk a (n % 32) i) (s 5) (h 51) →
  ∃ x hh,au 0 [5] (aq (ak R (ae false) cB) [0,1,5,6] [51] s h)=some (.normal,⟨upd (fun _ => .any) 5 x,hh⟩)∧jq 51 (dk a (n % 32) a.length) x (hh 51)∧∀ a,a ≠ 51→hh a = .dead:=by
 intro k
 induction k with
 | zero =>
  intro i hi s h h0 g1 h6 hacc
  have:i=a.length:=by omega
  subst this
  rw [ao]
  rcases hacc with ⟨g2,h5,hh⟩ | ⟨g2,h5,hh⟩
  ·refine ⟨.emp,?hh0,?_,Or.inl ⟨g2,rfl,?_⟩,?_⟩
   rotate_left
   ·simp only [cB,go_sem,↓reduceIte,amO,h0,g1,h5,h6,hh,Int.lt_irrefl]
    rfl
   ·rfl
   ·intro b hb
    simp only [bX,hb,if_false]
  ·refine ⟨.rsl 51 none 1 0 (dk a (n % 32) a.length).length,?hh1,?_,Or.inr ⟨g2,rfl,?_⟩,?_⟩
   rotate_left
   ·simp only [cB,go_sem,↓reduceIte,amO,amT,h0,g1,h5,h6,hh,Int.lt_irrefl]
    rfl
   ·rfl
   ·intro b hb
    simp only [bX,hb,if_false]
 | succ k ih =>
  intro i hi s h h0 g1 h6 hacc
  have ih':=ih (i+1) (by omega)
  have hx:=bd ha i
  have hy:=bd ha (i+1)
  have hr:n % 32 < 32:=Nat.mod_lt _ (by omega)
  have e1:((i:Int) < (a.length:Int))=True:=tt (by omega)
  have e2:aV (aE a) (i:Int)=some (.ipt [U (a.getD i 0:Nat)]):=aX rfl (by omega)
  have e3:IntKind.i64.wrap ((i:Int)+1)=((i+1:Nat):Int):=wi (by omega) (by omega)
  have e4:IntKind.u64.wrap (a.getD i 0:Int)=(a.getD i 0:Int):=cf rfl (by omega)
  have e5:=nO (n:=n) (m:=32) (j:=32) rfl rfl (by omega)
  have e5':IntKind.u64.wrap ((n % 32:Nat):Int)=((n % 32:Nat):Int):=cf rfl (by omega)
  have q1:((dk a (n % 32) i).length+1)*4≤140737488355328:=by rw [gt]; omega
  have f3:=tt q1
  have hlt:∀ w:Nat,w < 18446744073709551616→w / 2 ^ (n % 32) < 18446744073709551616:=fun w hw=>Nat.lt_of_le_of_lt (Nat.div_le_self _ _) hw
  rw [ao]
  rw [G2] at ih'
  generalize aq _ _ _=L at ih' ⊢
  by_cases hl:i+1 < a.length
  ·have f1:(((i+1:Nat):Int) < (a.length:Int))=True:=tt (by omega)
   have f2:aV (aE a) ((i+1:Nat):Int)=some (.ipt [U (a.getD (i+1) 0:Nat)]):=aX rfl hl
   have f5:IntKind.u64.wrap (a.getD (i+1) 0:Int)=(a.getD (i+1) 0:Int):=cf rfl (by omega)
   have f6:=zm (n:=a.getD (i+1) 0) (k:=32) (kk := .u64) (j:=32) rfl rfl (by omega) (by omega)
   have f7:=PL (m:=a.getD i 0) (n:=a.getD (i+1) 0*2 ^ 32) rfl rfl (by omega) (by omega)
   rw [Nat.or_comm,yw hx,show a.getD (i+1) 0*2 ^ 32+a.getD i 0=a.getD i 0+4294967296*a.getD (i+1) 0 by omega] at f7
   have f8:=gW (n:=a.getD i 0+4294967296*a.getD (i+1) 0) (k:=n % 32) (kk := .u64) (j:=((n % 32:Nat):Int)) rfl rfl (by omega)
   have f9:=j8 (n:=(a.getD i 0+4294967296*a.getD (i+1) 0) / 2 ^ (n % 32)) rfl (hlt _ (by omega))
   rw [show (a.getD i 0+4294967296*a.getD (i+1) 0) / 2 ^ (n % 32) % 4294967296=iC a (n % 32) i from rfl] at f9
   have f10:IntKind.u32.wrap ((iC a (n % 32) i:Nat):Int)=((iC a (n % 32) i:Nat):Int):=nN rfl (Nat.mod_lt _ (by omega))
   rcases hacc with ⟨g2,h5,hh⟩ | ⟨g2,h5,hh⟩
   ·simp only [cB,go_sem,↓reduceIte,amO,amQ,amP,amR,amS,h0,g1,h5,h6,hh,e1,e2,e3,e4,e5,e5',f1,f2,f5,f6,f7,f8,f9,f10]
    rw [g2] at ih'
    exact ih' _ _ rfl rfl rfl jk
   ·simp only [cB,go_sem,↓reduceIte,amO,amR,amS,amT,h0,g1,h5,h6,hh,e1,e2,e3,e4,e5,e5',f1,f2,f3,f5,f6,f7,f8,f9,f10,true_or,Nat.zero_add,Nat.le_refl,fW]
    exact ih' _ _ rfl rfl rfl gU
  ·have f1:(((i+1:Nat):Int) < (a.length:Int))=False:=ff (by omega)
   have hz:a.getD (i+1) 0=0:=by
    rw [List.getD_eq_getElem?_getD,List.getElem?_eq_none (by omega)]
    rfl
   have f8:=gW (n:=a.getD i 0) (k:=n % 32) (kk := .u64) (j:=((n % 32:Nat):Int)) rfl rfl (by omega)
   have f9:=j8 (n:=a.getD i 0 / 2 ^ (n % 32)) rfl (hlt _ (by omega))
   rw [show a.getD i 0 / 2 ^ (n % 32) % 4294967296=iC a (n % 32) i by unfold iC; rw [hz,Nat.mul_zero,Nat.add_zero]] at f9
   have f10:IntKind.u32.wrap ((iC a (n % 32) i:Nat):Int)=((iC a (n % 32) i:Nat):Int):=nN rfl (Nat.mod_lt _ (by omega))
   rcases hacc with ⟨g2,h5,hh⟩ | ⟨g2,h5,hh⟩
   ·simp only [cB,go_sem,↓reduceIte,amO,amQ,amP,amR,amS,h0,g1,h5,h6,hh,e1,e2,e3,e4,e5,e5',f1,f8,f9,f10]
    rw [g2] at ih'
    exact ih' _ _ rfl rfl rfl jk
   ·simp only [cB,go_sem,↓reduceIte,amO,amR,amS,amT,h0,g1,h5,h6,hh,e1,e2,e3,e4,e5,e5',f1,f3,f8,f9,f10,true_or,Nat.zero_add,Nat.le_refl,fW]
    exact ih' _ _ rfl rfl rfl gU
theorem lE (m:List Nat):(aE m).take m.length=aE m:=by
 rw [List.take_of_length_le]
 rw [uR]
 exact Nat.le_refl _
theorem SF {a:List Nat} (ha:Lb a) {n:Nat} (h1:a.length≤10000) (hn:n≤1000000):R F.r02_right [lm a,I n] []=some (lm (ap (ab a / 2 ^ n)),[]):=by
 refine av MX MW (Fb false) rfl ?_
 have e1:=mn (n:=n) (m:=32) (j:=32) rfl rfl (by omega) (by omega)
 by_cases hq:a.length≤n / 32
 ·have e2:((a.length:Int)≤((n / 32:Nat):Int))=True:=tt (by omega)
  have hz:ab a / 2 ^ n=0:=by
   rw [← jp n,← Nat.div_div_eq_div_mul,← ny ha,List.drop_of_length_le hq]
   exact Nat.zero_div _
  rw [hz,ck]
  simp only [lu,tS,go_sem,↓reduceIte,amO,e1,e2]
 ·have e2:((a.length:Int)≤((n / 32:Nat):Int))=False:=ff (by omega)
  have e3:kU 1 (lm a) (some (I (n / 32:Nat))) none none=some (lm (a.drop (n / 32))):=by
   rw [uS (a:=n / 32) (b:=a.length) (nv rfl (by omega)) rfl (Nat.le_refl _),List.take_of_length_le (by rw [List.length_drop]; omega)]
  have hd:=mf ha (n / 32)
  have hl:(a.drop (n / 32)).length≤10000:=by rw [List.length_drop]; omega
  have hv:ab a / 2 ^ n=ab (a.drop (n / 32)) / 2 ^ (n % 32):=by
   rw [ny ha,Nat.div_div_eq_div_mul,jp]
  rw [hv]
  have hr:=P2 hd (n:=n) (by omega) (a.drop (n / 32)).length 0 (Nat.zero_add _)
  simp only [Int.natCast_zero] at hr
  have hall:=BY hd (r:=n % 32) (by have:n % 32 < 32:=Nat.mod_lt _ (by omega); omega)
  have hL:=gt (a.drop (n / 32)) (n % 32) (a.drop (n / 32)).length
  have hLb:Lb (dk (a.drop (n / 32)) (n % 32) (a.drop (n / 32)).length):=by
   rw [hall]
   exact gC _ _
  have hvv:ab (dk (a.drop (n / 32)) (n % 32) (a.drop (n / 32)).length)=ab (a.drop (n / 32)) / 2 ^ (n % 32):=by
   rw [hall,et,Nat.mod_eq_of_lt]
   exact Nat.lt_of_le_of_lt (Nat.div_le_self _ _) (bC hd)
  generalize a.drop (n / 32)=m at e3 hd hl hr hall hL hLb hvv ⊢
  have ht:=pD hLb (by rw [hL]; omega)
  rw [hvv] at ht
  have q0:jq 51 (dk m (n % 32) 0) .emp .dead:=Or.inl ⟨rfl,rfl,rfl⟩
  generalize hLL:aq (ak R (ae false) cB) [0,1,5,6] [51]=L at hr
  have hX:∀ s h,ak R (ae false) (.loop [0,1,5,6] [51] cB) s h=L s h:=fun s h=>by rw [← hLL]; rfl
  clear hLL
  generalize dk m (n % 32) 0=o0 at hr q0
  generalize dk m (n % 32) m.length=out at hr hall hL hLb hvv ht
  generalize ap (ab m / 2 ^ (n % 32))=res at ht ⊢
  have hr2:∀ (S:am) (H:ac) (X:Option (Ex × St)),au 0 [5] (L S H)=X→S 0=lm m→S 1=I n→S 6=I 0→S 5 = .emp→H 51 = .dead→∃ x hh,X=some (.normal,⟨upd (fun _ => .any) 5 x,hh⟩)∧jq 51 out x (hh 51)∧∀ a,a ≠ 51→hh a = .dead:=fun S H X hX a0 a1 a6 a5 b=>by
   rw [← hX]
   exact hr S H a0 a1 a6 (by rw [a5,b]; exact q0)
  simp only [lu,tS,hX,go_sem,↓reduceIte,amO,e1,e2,e3]
  generalize hB:au 0 [5] (L _ _)=X
  obtain ⟨x,hh,g0,hacc,gd⟩:=hr2 _ _ _ hB rfl rfl rfl rfl rfl
  rw [g0]
  rcases hacc with ⟨c1,c2,c3⟩ | ⟨c1,c2,c3⟩
  ·rw [c1] at ht
   simp only [go_sem,↓reduceIte,amO,amQ,amP,c2,ht,ne_eq,not_false_eq_true,gd]
  ·simp only [go_sem,↓reduceIte,amO,amQ,amP,c2,c3,ht,ne_eq,not_false_eq_true,gd,lE,Nat.zero_add,Nat.le_refl]
end Go.Ab
namespace Go.Ab
open Go Go.IntWalk
set_option maxRecDepth 4000
set_option maxHeartbeats 1000000
theorem rJ {m:List Nat} {i:Nat} (h:m.length≤i):m.getD i 0=0:=by
 rw [List.getD_eq_getElem?_getD,List.getElem?_eq_none h]
 rfl
theorem G3 (a b:List Nat) (i:Nat):bQ a b (i+1)=bQ a b i++[oX a b i]:=by simp [bQ,List.range_succ]
theorem G4 (a b:List Nat) (i:Nat):cz a b (i+1)=cz a b i++[oY a b i]:=by simp [cz,List.range_succ]
theorem SG {a b:List Nat} (ha:Lb a) (hb:Lb b) (h1:a.length≤100000) (h2:b.length≤100000):∀ (k i:Nat),i+k=max a.length b.length→∀ (s:am) (h:ac),s 0=lm a→s 1=lm b→s 6=W (bS a b i:Nat)→s 7=I i→jq 49 (bQ a b i) (s 5) (h 49) →
  ∃ x hh,au 0 [5,6] (aq (ak R (ae false) bV) [0,1,5,6,7] [49] s h)=some (.normal,⟨upd (upd (fun _ => .any) 6 (W (bS a b (max a.length b.length):Nat))) 5 x,hh⟩)∧jq 49 (bQ a b (max a.length b.length)) x (hh 49)∧∀ a,a ≠ 49→hh a = .dead:=by
 intro k
 induction k with
 | zero =>
  intro i hi s h h0 g1 h6 h7 hacc
  have e1:((i:Int) < (a.length:Int))=False:=ff (by omega)
  have e2:((i:Int) < (b.length:Int))=False:=ff (by omega)
  have:i=max a.length b.length:=by omega
  rw [← this]
  rw [ao]
  rcases hacc with ⟨g2,h5,hh⟩ | ⟨g2,h5,hh⟩
  ·refine ⟨.emp,?hh0,?_,Or.inl ⟨g2,rfl,?_⟩,?_⟩
   rotate_left
   ·simp only [bV,go_sem,↓reduceIte,amO,h0,g1,h5,h6,h7,hh,e1,e2]
    rfl
   ·rfl
   ·intro b hb
    simp only [bX,hb,if_false]
  ·refine ⟨.rsl 49 none 1 0 (bQ a b i).length,?hh1,?_,Or.inr ⟨g2,rfl,?_⟩,?_⟩
   rotate_left
   ·simp only [bV,go_sem,↓reduceIte,amO,amT,h0,g1,h5,h6,h7,hh,e1,e2]
    rfl
   ·rfl
   ·intro b hb
    simp only [bX,hb,if_false]
 | succ k ih =>
  intro i hi s h h0 g1 h6 h7 hacc
  have ih':=ih (i+1) (by omega)
  have hx:=bd ha i
  have hy:=bd hb i
  have hc:=qt ha hb i
  have e3:IntKind.i64.wrap ((i:Int)+1)=((i+1:Nat):Int):=wi (by omega) (by omega)
  have q1:((bQ a b i).length+1)*4≤140737488355328:=by rw [cD]; omega
  have f3:=tt q1
  have e4:IntKind.u64.wrap (a.getD i 0:Int)=(a.getD i 0:Int):=cf rfl (by omega)
  have e5:IntKind.u64.wrap (b.getD i 0:Int)=(b.getD i 0:Int):=cf rfl (by omega)
  have f8:=gW (n:=a.getD i 0+b.getD i 0+bS a b i) (k:=32) (kk := .u64) (j:=32) rfl rfl (by omega)
  rw [show (a.getD i 0+b.getD i 0+bS a b i) / 2 ^ 32=bS a b (i+1) from rfl] at f8
  have f9:=j8 (n:=a.getD i 0+b.getD i 0+bS a b i) rfl (by omega)
  rw [show (a.getD i 0+b.getD i 0+bS a b i) % 4294967296=oX a b i from rfl] at f9
  have f10:IntKind.u32.wrap ((oX a b i:Nat):Int)=((oX a b i:Nat):Int):=nN rfl (Nat.mod_lt _ (by omega))
  rw [ao]
  rw [G3] at ih'
  generalize aq _ _ _=L at ih' ⊢
  by_cases hla:i < a.length
  ·have e1:((i:Int) < (a.length:Int))=True:=tt (by omega)
   have e2:aV (aE a) (i:Int)=some (.ipt [U (a.getD i 0:Nat)]):=aX rfl hla
   have w1:IntKind.u64.wrap ((bS a b i:Int)+(a.getD i 0:Int))=((a.getD i 0+bS a b i:Nat):Int):=cf (by omega) (by omega)
   by_cases hlb:i < b.length
   ·have e6:((i:Int) < (b.length:Int))=True:=tt (by omega)
    have e7:aV (aE b) (i:Int)=some (.ipt [U (b.getD i 0:Nat)]):=aX rfl hlb
    have w2:IntKind.u64.wrap (((a.getD i 0+bS a b i:Nat):Int)+(b.getD i 0:Int))=((a.getD i 0+b.getD i 0+bS a b i:Nat):Int):=cf (by omega) (by omega)
    rcases hacc with ⟨g2,h5,hh⟩ | ⟨g2,h5,hh⟩
    ·simp only [bV,go_sem,↓reduceIte,amO,amQ,amP,amR,amS,h0,g1,h5,h6,h7,hh,e1,e2,e3,e4,e5,e6,e7,w1,w2,f8,f9,f10]
     rw [g2] at ih'
     exact ih' _ _ rfl rfl rfl rfl jk
    ·simp only [bV,go_sem,↓reduceIte,amO,amR,amS,amT,h0,g1,h5,h6,h7,hh,e1,e2,e3,e4,e5,e6,e7,w1,w2,f3,f8,f9,f10,true_or,Nat.zero_add,Nat.le_refl,fW]
     exact ih' _ _ rfl rfl rfl rfl gU
   ·have e6:((i:Int) < (b.length:Int))=False:=ff (by omega)
    have hz:=rJ (m:=b) (i:=i) (by omega)
    have w2:((a.getD i 0+bS a b i:Nat):Int)=((a.getD i 0+b.getD i 0+bS a b i:Nat):Int):=by omega
    rw [w2] at w1
    rcases hacc with ⟨g2,h5,hh⟩ | ⟨g2,h5,hh⟩
    ·simp only [bV,go_sem,↓reduceIte,amO,amQ,amP,amR,amS,h0,g1,h5,h6,h7,hh,e1,e2,e3,e4,e6,w1,f8,f9,f10]
     rw [g2] at ih'
     exact ih' _ _ rfl rfl rfl rfl jk
    ·simp only [bV,go_sem,↓reduceIte,amO,amR,amS,amT,h0,g1,h5,h6,h7,hh,e1,e2,e3,e4,e6,w1,f3,f8,f9,f10,true_or,Nat.zero_add,Nat.le_refl,fW]
     exact ih' _ _ rfl rfl rfl rfl gU
  ·have e1:((i:Int) < (a.length:Int))=False:=ff (by omega)
   have hlb:i < b.length:=by omega
   have e6:((i:Int) < (b.length:Int))=True:=tt (by omega)
   have e7:aV (aE b) (i:Int)=some (.ipt [U (b.getD i 0:Nat)]):=aX rfl hlb
   have hz:=rJ (m:=a) (i:=i) (by omega)
   have w2:IntKind.u64.wrap ((bS a b i:Int)+(b.getD i 0:Int))=((a.getD i 0+b.getD i 0+bS a b i:Nat):Int):=cf (by omega) (by omega)
   rcases hacc with ⟨g2,h5,hh⟩ | ⟨g2,h5,hh⟩
   ·simp only [bV,go_sem,↓reduceIte,amO,amQ,amP,amR,amS,h0,g1,h5,h6,h7,hh,e1,e3,e5,e6,e7,w2,f8,f9,f10]
    rw [g2] at ih'
    exact ih' _ _ rfl rfl rfl rfl jk
   ·simp only [bV,go_sem,↓reduceIte,amO,amR,amS,amT,h0,g1,h5,h6,h7,hh,e1,e3,e5,e6,e7,w2,f3,f8,f9,f10,true_or,Nat.zero_add,Nat.le_refl,fW]
    exact ih' _ _ rfl rfl rfl rfl gU
theorem KZ {a b:List Nat} (ha:Lb a) (hb:Lb b) {L:Nat} (h1:a.length≤L) (h2:b.length≤L):ab (bQ a b L++[bS a b L])=ab a+ab b:=by
 have h:=BU a b L
 rw [List.take_of_length_le h1,List.take_of_length_le h2] at h
 rw [di,cD,← h]
 simp [ab]
theorem UL {a b:List Nat} (ha:Lb a) (hb:Lb b) (h1:a.length≤10000) (h2:b.length≤10000):R F.r02_plus [lm a,lm b] []=some (lm (ap (ab a+ab b)),[]):=by
 refine av Py Px (HP false) rfl ?_
 obtain ⟨M,hM⟩:∃ M,max a.length b.length=M:=⟨_,rfl⟩
 have hr:=SG ha hb (by omega) (by omega) M 0 (by omega)
 simp only [Int.natCast_zero] at hr
 rw [hM] at hr
 have hsv:=KZ ha hb (L:=M) (by omega) (by omega)
 have hc:=qt ha hb M
 have hL:=cD a b M
 have hLb:=FG a b M
 have q0:jq 49 (bQ a b 0) .emp .dead:=Or.inl ⟨rfl,rfl,rfl⟩
 have c0:bS a b 0=0:=rfl
 rw [c0] at hr
 simp only [Int.natCast_zero] at hr
 generalize bQ a b 0=o0 at hr q0
 generalize bQ a b M=out at hr hsv hL hLb
 generalize bS a b M=c at hr hsv hc
 have ht:=pD (m:=out++[c]) (iv.2 ⟨hLb,dh.2 ⟨by omega,sx⟩⟩) (by rw [List.length_append]; simp; omega)
 rw [hsv] at ht
 have e8:IntKind.u32.wrap (c:Int)=(c:Int):=nN rfl (by omega)
 have q1:(out.length+1)*4≤140737488355328:=by omega
 have f3:=tt q1
 have f4:=lE (out++[c])
 rw [show (out++[c]).length=out.length+1 by simp] at f4
 generalize ap (ab a+ab b)=res at ht ⊢
 generalize hLL:aq (ak R (ae false) bV) [0,1,5,6,7] [49]=L at hr
 have hX:∀ s h,ak R (ae false) (.loop [0,1,5,6,7] [49] bV) s h=L s h:=fun s h=>by rw [← hLL]; rfl
 clear hLL
 have hr2:∀ (S:am) (H:ac) (X:Option (Ex × St)),au 0 [5,6] (L S H)=X→S 0=lm a→S 1=lm b→S 6=W 0→S 7=I 0→S 5 = .emp→H 49 = .dead→∃ x hh,X=some (.normal,⟨upd (upd (fun _ => .any) 6 (W c)) 5 x,hh⟩)∧jq 49 out x (hh 49)∧∀ a,a ≠ 49→hh a = .dead:=fun S H X hX a0 a1 a6 a7 a5 b=>by
  rw [← hX]
  exact hr S H a0 a1 a6 a7 (by rw [a5,b]; exact q0)
 simp only [pS,CX,hX,go_sem,↓reduceIte,amO]
 generalize hB:au 0 [5,6] (L _ _)=X
 obtain ⟨x,hh,g0,hacc,gd⟩:=hr2 _ _ _ hB rfl rfl rfl rfl rfl rfl
 rw [g0]
 rcases hacc with ⟨c1,c2,c3⟩ | ⟨c1,c2,c3⟩
 ·rw [c1] at ht
  have ht':R F.r02_trim [.sl 1 [[U c]]] []=some (lm res,[]):=ht
  simp only [go_sem,↓reduceIte,amO,amQ,amP,amR,amS,c2,e8,ht',ne_eq,not_false_eq_true,gd]
 ·simp only [go_sem,↓reduceIte,amO,amQ,amP,amR,amS,c2,c3,e8,f3,f4,ht,ne_eq,not_false_eq_true,gd,fW,true_or,Nat.zero_add,Nat.le_refl,List.length_singleton,uR,List.length_append]
theorem P3 {a b:List Nat} (ha:Lb a) (hb:Lb b) (h1:a.length≤100000):∀ (k i:Nat),i+k=a.length→∀ (s:am) (h:ac),s 0=lm a→s 1=lm b→s 6=W (dx a b i:Nat)→s 7=I i→jq 41 (cz a b i) (s 5) (h 41) →
  ∃ x hh,au 0 [5] (aq (ak R (ae false) cC) [0,1,5,6,7] [41] s h)=some (.normal,⟨upd (fun _ => .any) 5 x,hh⟩)∧jq 41 (cz a b a.length) x (hh 41)∧∀ a,a ≠ 41→hh a = .dead:=by
 intro k
 induction k with
 | zero =>
  intro i hi s h h0 g1 h6 h7 hacc
  have e1:((i:Int) < (a.length:Int))=False:=ff (by omega)
  have:i=a.length:=by omega
  rw [← this]
  rw [ao]
  rcases hacc with ⟨g2,h5,hh⟩ | ⟨g2,h5,hh⟩
  ·refine ⟨.emp,?hh0,?_,Or.inl ⟨g2,rfl,?_⟩,?_⟩
   rotate_left
   ·simp only [cC,go_sem,↓reduceIte,amO,h0,g1,h5,h6,h7,hh,e1]
    rfl
   ·rfl
   ·intro b hb
    simp only [bX,hb,if_false]
  ·refine ⟨.rsl 41 none 1 0 (cz a b i).length,?hh1,?_,Or.inr ⟨g2,rfl,?_⟩,?_⟩
   rotate_left
   ·simp only [cC,go_sem,↓reduceIte,amO,amT,h0,g1,h5,h6,h7,hh,e1]
    rfl
   ·rfl
   ·intro b hb
    simp only [bX,hb,if_false]
 | succ k ih =>
  intro i hi s h h0 g1 h6 h7 hacc
  have ih':=ih (i+1) (by omega)
  have hx:=bd ha i
  have hy:=bd hb i
  have hc:=qu a b i
  have hla:i < a.length:=by omega
  have e1:((i:Int) < (a.length:Int))=True:=tt (by omega)
  have e2:aV (aE a) (i:Int)=some (.ipt [U (a.getD i 0:Nat)]):=aX rfl hla
  have e3:IntKind.i64.wrap ((i:Int)+1)=((i+1:Nat):Int):=wi (by omega) (by omega)
  have q1:((cz a b i).length+1)*4≤140737488355328:=by rw [fk]; omega
  have f3:=tt q1
  have e4:IntKind.u64.wrap (a.getD i 0:Int)=(a.getD i 0:Int):=cf rfl (by omega)
  have e5:IntKind.u64.wrap (b.getD i 0:Int)=(b.getD i 0:Int):=cf rfl (by omega)
  have w3:IntKind.u64.wrap ((a.getD i 0:Int)+4294967296)=((a.getD i 0+4294967296:Nat):Int):=cf (by omega) (by omega)
  have w4:IntKind.u64.wrap (((a.getD i 0+4294967296:Nat):Int) - ((b.getD i 0+dx a b i:Nat):Int))=((a.getD i 0+4294967296 - b.getD i 0 - dx a b i:Nat):Int):=cf (by omega) (by omega)
  have f8:=gW (n:=a.getD i 0+4294967296 - b.getD i 0 - dx a b i) (k:=32) (kk := .u64) (j:=32) rfl rfl (by omega)
  have w5:IntKind.u64.wrap (1 - (((a.getD i 0+4294967296 - b.getD i 0 - dx a b i) / 2 ^ 32:Nat):Int))=((dx a b (i+1):Nat):Int):=by
   refine cf ?_ (by have:=qu a b (i+1); omega)
   show _=(((if a.getD i 0 < b.getD i 0+dx a b i then 1 else 0:Nat)):Int)
   split <;> omega
  have f9:=j8 (n:=a.getD i 0+4294967296 - b.getD i 0 - dx a b i) rfl (by omega)
  rw [show (a.getD i 0+4294967296 - b.getD i 0 - dx a b i) % 4294967296=oY a b i from rfl] at f9
  have f10:IntKind.u32.wrap ((oY a b i:Nat):Int)=((oY a b i:Nat):Int):=nN rfl (Nat.mod_lt _ (by omega))
  rw [ao]
  rw [G4] at ih'
  generalize aq _ _ _=L at ih' ⊢
  by_cases hlb:i < b.length
  ·have e6:((i:Int) < (b.length:Int))=True:=tt (by omega)
   have e7:aV (aE b) (i:Int)=some (.ipt [U (b.getD i 0:Nat)]):=aX rfl hlb
   have w2:IntKind.u64.wrap ((dx a b i:Int)+(b.getD i 0:Int))=((b.getD i 0+dx a b i:Nat):Int):=cf (by omega) (by omega)
   rcases hacc with ⟨g2,h5,hh⟩ | ⟨g2,h5,hh⟩
   ·simp only [cC,go_sem,↓reduceIte,amO,amQ,amP,amR,amS,h0,g1,h5,h6,h7,hh,e1,e2,e3,e4,e5,e6,e7,w2,w3,w4,w5,f8,f9,f10]
    rw [g2] at ih'
    exact ih' _ _ rfl rfl rfl rfl jk
   ·simp only [cC,go_sem,↓reduceIte,amO,amR,amS,amT,h0,g1,h5,h6,h7,hh,e1,e2,e3,e4,e5,e6,e7,w2,w3,w4,w5,f3,f8,f9,f10,true_or,Nat.zero_add,Nat.le_refl,fW]
    exact ih' _ _ rfl rfl rfl rfl gU
  ·have e6:((i:Int) < (b.length:Int))=False:=ff (by omega)
   have hz:=rJ (m:=b) (i:=i) (by omega)
   have w2:((b.getD i 0+dx a b i:Nat):Int)=(dx a b i:Int):=by omega
   rw [w2] at w4
   rcases hacc with ⟨g2,h5,hh⟩ | ⟨g2,h5,hh⟩
   ·simp only [cC,go_sem,↓reduceIte,amO,amQ,amP,amR,amS,h0,g1,h5,h6,h7,hh,e1,e2,e3,e4,e6,w3,w4,w5,f8,f9,f10]
    rw [g2] at ih'
    exact ih' _ _ rfl rfl rfl rfl jk
   ·simp only [cC,go_sem,↓reduceIte,amO,amR,amS,amT,h0,g1,h5,h6,h7,hh,e1,e2,e3,e4,e6,w3,w4,w5,f3,f8,f9,f10,true_or,Nat.zero_add,Nat.le_refl,fW]
    exact ih' _ _ rfl rfl rfl rfl gU
theorem G5 {a b:List Nat} (ha:Lb a) (hb:Lb b) (h1:a.length≤10000) (h2:b.length≤a.length) (hv:ab b≤ab a):R F.r02_minus [lm a,lm b] []=some (lm (ap (ab a - ab b)),[]):=by
 refine av MZ MY (Fc false) rfl ?_
 have hr:=P3 ha hb (by omega) a.length 0 (by omega)
 simp only [Int.natCast_zero] at hr
 have hall:=BX ha hb h2 hv
 have hsv:ab (cz a b a.length)=ab a - ab b:=by
  rw [hall,et,Nat.mod_eq_of_lt]
  exact Nat.lt_of_le_of_lt (Nat.sub_le _ _) (bC ha)
 have hL:=fk a b a.length
 have hLb:=zk a b a.length
 have q0:jq 41 (cz a b 0) .emp .dead:=Or.inl ⟨rfl,rfl,rfl⟩
 have c0:dx a b 0=0:=rfl
 rw [c0] at hr
 simp only [Int.natCast_zero] at hr
 clear hall
 generalize cz a b 0=o0 at hr q0
 generalize cz a b a.length=out at hr hsv hL hLb
 have ht:=pD (m:=out) hLb (by omega)
 rw [hsv] at ht
 generalize ap (ab a - ab b)=res at ht ⊢
 generalize hLL:aq (ak R (ae false) cC) [0,1,5,6,7] [41]=L at hr
 have hX:∀ s h,ak R (ae false) (.loop [0,1,5,6,7] [41] cC) s h=L s h:=fun s h=>by rw [← hLL]; rfl
 clear hLL
 have hr2:∀ (S:am) (H:ac) (X:Option (Ex × St)),au 0 [5] (L S H)=X→S 0=lm a→S 1=lm b→S 6=W 0→S 7=I 0→S 5 = .emp→H 41 = .dead→∃ x hh,X=some (.normal,⟨upd (fun _ => .any) 5 x,hh⟩)∧jq 41 out x (hh 41)∧∀ a,a ≠ 41→hh a = .dead:=fun S H X hX a0 a1 a6 a7 a5 b=>by
  rw [← hX]
  exact hr S H a0 a1 a6 a7 (by rw [a5,b]; exact q0)
 simp only [oH,Az,hX,go_sem,↓reduceIte,amO]
 generalize hB:au 0 [5] (L _ _)=X
 obtain ⟨x,hh,g0,hacc,gd⟩:=hr2 _ _ _ hB rfl rfl rfl rfl rfl rfl
 rw [g0]
 rcases hacc with ⟨c1,c2,c3⟩ | ⟨c1,c2,c3⟩
 ·rw [c1] at ht
  simp only [go_sem,↓reduceIte,amO,amQ,amP,c2,ht,ne_eq,not_false_eq_true,gd]
 ·simp only [go_sem,↓reduceIte,amO,amQ,amP,c2,c3,ht,ne_eq,not_false_eq_true,gd,lE,Nat.zero_add,Nat.le_refl]
end Go.Ab
namespace Go.Ab
open Go Go.IntWalk
set_option maxRecDepth 4000
set_option maxHeartbeats 1000000
theorem SH {a b:List Nat} (ha:Lb a) (hb:Lb b) (hl:a.length=b.length) (h2:a.length≤100000):∀ (k:Nat),k≤a.length→∀ (s:am) (h:ac),s 0=lm a→s 1=lm b→s 5=I ((k:Int) - 1) →
  bo (au 0 [] (aq (ak R (ae false) ch) [0,1,5] [] s h)) (ak R (ae false) fe)=some (.ret,⟨upd (fun _ => .any) 4 (I (aY (ab (a.take k)) (ab (b.take k)))),fun _ => .dead⟩):=by
 intro k
 induction k with
 | zero =>
  intro hk s h h0 h1 h5
  rw [ao]
  generalize aq _ _ _=L
  have e1:(0≤((0:Nat):Int) - 1)=False:=ff (by omega)
  have e2:aY (ab []) (ab [])=0:=rfl
  simp only [ch,fe,go_sem,↓reduceIte,amO,h0,h1,h5,e1,e2]
 | succ k ih =>
  intro hk s h h0 h1 h5
  have ih':=ih (by omega)
  have e1:(0≤((k+1:Nat):Int) - 1)=True:=tt (by omega)
  have e2:aV (aE a) (((k+1:Nat):Int) - 1)=some (.ipt [U (a.getD k 0:Nat)]):=aX (by omega) (by omega)
  have e3:aV (aE b) (((k+1:Nat):Int) - 1)=some (.ipt [U (b.getD k 0:Nat)]):=aX (by omega) (by omega)
  have e4:IntKind.i64.wrap (((k+1:Nat):Int) - 1 - 1)=(k:Int) - 1:=by rw [i64_in] <;> omega
  have va:=dX a k
  have vb:=dX b k
  have la:=bC (jg ha k)
  have lb:=bC (jg hb k)
  rw [List.length_take,Nat.min_eq_left (by omega)] at la lb
  rw [ao]
  generalize aq _ _ _=L at ih' ⊢
  rcases Nat.lt_trichotomy (a.getD k 0) (b.getD k 0) with hlt | heq | hgt
  ·have e5:((a.getD k 0:Int) < (b.getD k 0:Int))=True:=tt (by omega)
   have e6:aY (ab (a.take (k+1))) (ab (b.take (k+1))) = -1:=by
    have:4294967296 ^ k*(a.getD k 0+1)≤4294967296 ^ k*b.getD k 0:=Nat.mul_le_mul_left _ hlt
    rw [Nat.mul_add] at this
    simp only [aY]
    rw [if_pos (by omega)]
   simp only [ch,fe,go_sem,↓reduceIte,amO,h0,h1,h5,e1,e2,e3,e5,e6]
  ·have e5:((a.getD k 0:Int) < (b.getD k 0:Int))=False:=ff (by omega)
   have e7:((b.getD k 0:Int) < (a.getD k 0:Int))=False:=ff (by omega)
   have e6:aY (ab (a.take (k+1))) (ab (b.take (k+1)))=aY (ab (a.take k)) (ab (b.take k)):=by
    rw [va,vb,heq]
    simp only [aY]
    repeat' split
    all_goals first | rfl | omega
   simp only [ch,go_sem,↓reduceIte,amO,h0,h1,h5,e1,e2,e3,e5,e6,e7,e4]
   exact ih' _ _ rfl rfl rfl
  ·have e5:((a.getD k 0:Int) < (b.getD k 0:Int))=False:=ff (by omega)
   have e7:((b.getD k 0:Int) < (a.getD k 0:Int))=True:=tt (by omega)
   have e6:aY (ab (a.take (k+1))) (ab (b.take (k+1)))=1:=by
    have:4294967296 ^ k*(b.getD k 0+1)≤4294967296 ^ k*a.getD k 0:=Nat.mul_le_mul_left _ hgt
    rw [Nat.mul_add] at this
    simp only [aY]
    rw [if_neg (by omega),if_pos (by omega)]
   simp only [ch,fe,go_sem,↓reduceIte,amO,h0,h1,h5,e1,e2,e3,e5,e6,e7]
theorem AJ {a b:List Nat} (ha:Lb a) (hb:Lb b) (h1:a.length≤100000) (h2:b.length≤100000) (hc:a.length=b.length∨(pW a∧pW b)):R F.r02_compare [lm a,lm b] []=some (I (aY (ab a) (ab b)),[]):=by
 refine av HA Hz (Bi false) rfl ?_
 by_cases hl:a.length=b.length
 ·have e1:((a.length:Int)=(b.length:Int))=True:=tt (by omega)
  have e2:IntKind.i64.wrap ((b.length:Int) - 1)=(b.length:Int) - 1:=i64_in _ ⟨by omega,by omega⟩
  have e3:IntKind.i64.wrap ((a.length:Int) - 1)=(a.length:Int) - 1:=i64_in _ ⟨by omega,by omega⟩
  have hL:=SH ha hb hl h1 a.length (Nat.le_refl _)
  rw [List.take_length,hl,List.take_length,← hl] at hL
  generalize hLL:aq (ak R (ae false) ch) [0,1,5] []=L at hL
  have hX:∀ s h,ak R (ae false) (.loop [0,1,5] [] ch) s h=L s h:=fun s h=>by rw [← hLL]; rfl
  have hL2:∀ s h,s 0=lm a→s 1=lm b→s 5=I ((a.length:Int) - 1)→eE false [[]] [.t 4] 0 (bo (au 0 [] (L s h)) (ak R (ae false) (.seq (.ops [4] [co 4 (.mv (.c (.v (.int .i64 0))))]) (.ret))))=some (I (aY (ab a) (ab b)),[]):=fun s h a0 a1 a5=>by
   rw [show (.seq (.ops [4] [co 4 (.mv (.c (.v (.int .i64 0))))]) (.ret):Cmd)=fe from rfl,hL s h a0 a1 a5]
   simp only [go_sem,↓reduceIte]
  show eE false [[]] [.t 4] 0 (ak R (ae false) jY _ _)=_
  unfold jY
  show eE false [[]] [.t 4] 0 (bo (ak R (ae false) (.ops [0,1] [co 4 (.mv (.c (.v (.int .i64 0))))]) _ _) fun s h=>bo (ak R (ae false) (.seq (.ops [0,1,10] [cm 6 0,co 7 (.len false (.t 6)),cm 8 1,co 9 (.len false (.t 8)),co 10 (.bin .neq (.t 7) (.t 9))]) (.cond (.t 10) (.seq (.seq (.ops [15] [cm 11 0,co 12 (.len false (.t 11)),cm 13 1,co 14 (.len false (.t 13)),co 15 (.bin .lss (.t 12) (.t 14))]) (.cond (.t 15) (.seq (.ops [4] [co 4 (.mv (.c (.v (.int .i64 (-1)))))]) (.ret)) (.skip))) (.seq (.ops [4] [co 4 (.mv (.c (.v (.int .i64 1))))]) (.ret))) (.skip))) s h) fun s h=>bo (bo (ak R (ae false) (.ops [0,1,5] [cm 16 0,co 17 (.len false (.t 16)),co 18 (.bin .sub (.t 17) (.c (.v (.int .i64 1)))),cm 5 18]) s h) fun s h=>au 0 [] (ak R (ae false) (.loop [0,1,5] [] ch) s h)) (ak R (ae false) (.seq (.ops [4] [co 4 (.mv (.c (.v (.int .i64 0))))]) (.ret))))=_
  simp only [hX]
  generalize hT:ak R (ae false) (.seq (.ops [4] [co 4 (.mv (.c (.v (.int .i64 0))))]) (.ret))=T at hL2 ⊢
  simp only [go_sem,↓reduceIte,amO,e1,e3]
  exact hL2 _ _ rfl rfl rfl
 ·have e1:((a.length:Int)=(b.length:Int))=False:=ff (by omega)
  obtain ⟨ca,cb⟩:=hc.resolve_left hl
  by_cases hlt:a.length < b.length
  ·have e2:((a.length:Int) < (b.length:Int))=True:=tt (by omega)
   have e3:aY (ab a) (ab b) = -1:=by
    have:=mm (x:=ab a) (y:=ab b) (by rw [pp ha ca,pp hb cb]; exact hlt)
    unfold aY
    rw [if_pos this]
   rw [e3]
   simp only [iV,jY,go_sem,↓reduceIte,amO,e1,e2]
  ·have e2:((a.length:Int) < (b.length:Int))=False:=ff (by omega)
   have e3:aY (ab a) (ab b)=1:=by
    have:=mm (x:=ab b) (y:=ab a) (by rw [pp ha ca,pp hb cb]; omega)
    unfold aY
    rw [if_neg (by omega),if_pos this]
   rw [e3]
   simp only [iV,jY,go_sem,↓reduceIte,amO,e1,e2]
theorem tC {m:List Nat} {i:Nat} (hb:Lb m) (h:m.length≤10000000):R F.r01_at [lm m,I i] []=some (W (m.getD i 0:Nat),[]):=by
 refine av Ua T9 (Nc false) rfl ?_
 by_cases hi:i < m.length
 ·have e1:((i:Int) < (m.length:Int))=True:=tt (by omega)
  have e2:aV (aE m) (i:Int)=some (.ipt [U (m.getD i 0:Nat)]):=aX rfl hi
  have hx:=bd hb i
  have e3:IntKind.u64.wrap (m.getD i 0:Int)=(m.getD i 0:Int):=cf rfl (by omega)
  simp only [qo,AW,go_sem,↓reduceIte,amO,e1,e2,e3]
 ·have e1:((i:Int) < (m.length:Int))=False:=ff (by omega)
  have e2:=rJ (m:=m) (i:=i) (by omega)
  rw [e2]
  simp only [qo,AW,go_sem,↓reduceIte,amO,e1,Int.natCast_zero]
theorem nE {m:List Nat} (hb:Lb m) (h:m.length≤10000000):R F.r01_Trim [lm m] []=some (lm (ap (ab m)),[]):=by
 refine av PE PD (Ie false) rfl ?_
 have h1:kU 1 (lm m) none (some (I (fG m m.length:Nat))) none=some (lm (ap (ab m))):=by
  rw [uS (a:=0) (b:=fG m m.length) rfl (nv rfl (mS _ _)) (mS _ _),List.drop_zero,Nat.sub_zero,vP hb]
 have hl:=bN m hb
 have e1:((ap (ab m)).length*4≤140737488355328)=True:=tt (by omega)
 have hL:∀ (n:Nat),n≤m.length→∀ (s:am) (h:ac),s 0=lm m→s 3=I n →
  au 0 [0,3] (aq (ak R (ae false) wL) [0,3] [] s h)=some (.normal,⟨upd (upd (fun _ => .any) 3 (I (fG m n))) 0 (lm m),fun _ => .dead⟩):=yv m (by omega)
 simp only [pV,C1,go_sem,↓reduceIte,amO,amR,amS,hL m.length (Nat.le_refl _),h1,B0,e1,List.nil_append,List.length_nil,true_or,Nat.zero_add,Nat.le_refl,List.replicate_zero]
theorem P4 {a b:List Nat} (ha:Lb a) (hb:Lb b) (hl:a.length≤100000) (h2:b.length≤100000):∀ (k:Nat),k≤100000→∀ (s:am) (h:ac),s 0=lm a→s 1=lm b→s 5=I ((k:Int) - 1) →
  bo (au 0 [] (aq (ak R (ae false) en) [0,1,5] [] s h)) (ak R (ae false) fe)=some (.ret,⟨upd (fun _ => .any) 4 (I (aY (ab (a.take k)) (ab (b.take k)))),fun _ => .dead⟩):=by
 intro k
 induction k with
 | zero =>
  intro hk s h h0 h1 h5
  rw [ao]
  generalize aq _ _ _=L
  have e1:(0≤((0:Nat):Int) - 1)=False:=ff (by omega)
  have e2:aY (ab []) (ab [])=0:=rfl
  simp only [en,fe,go_sem,↓reduceIte,amO,h0,h1,h5,e1,e2]
 | succ k ih =>
  intro hk s h h0 h1 h5
  have ih':=ih (by omega)
  have e1:(0≤(k:Int))=True:=tt (by omega)
  have ek:((k+1:Nat):Int) - 1=(k:Int):=by omega
  have e2:=tC (m:=a) (i:=k) ha (by omega)
  have e3:=tC (m:=b) (i:=k) hb (by omega)
  have e4:IntKind.i64.wrap ((k:Int) - 1)=(k:Int) - 1:=by rw [i64_in] <;> omega
  have va:=dX a k
  have vb:=dX b k
  have la:=Nat.lt_of_lt_of_le (bC (jg ha k)) (Nat.pow_le_pow_right (by decide) (show (a.take k).length≤k by rw [List.length_take]; omega))
  have lb:=Nat.lt_of_lt_of_le (bC (jg hb k)) (Nat.pow_le_pow_right (by decide) (show (b.take k).length≤k by rw [List.length_take]; omega))
  rw [ek] at h5
  rw [ao]
  generalize aq _ _ _=L at ih' ⊢
  rcases Nat.lt_trichotomy (a.getD k 0) (b.getD k 0) with hlt | heq | hgt
  ·have e5:((a.getD k 0:Int) < (b.getD k 0:Int))=True:=tt (by omega)
   have e6:aY (ab (a.take (k+1))) (ab (b.take (k+1))) = -1:=by
    have:4294967296 ^ k*(a.getD k 0+1)≤4294967296 ^ k*b.getD k 0:=Nat.mul_le_mul_left _ hlt
    rw [Nat.mul_add] at this
    simp only [aY]
    rw [if_pos (by omega)]
   simp only [en,fe,go_sem,↓reduceIte,amO,amQ,amP,h0,h1,h5,e1,e2,e3,e5,e6]
  ·have e5:((a.getD k 0:Int) < (b.getD k 0:Int))=False:=ff (by omega)
   have e7:((b.getD k 0:Int) < (a.getD k 0:Int))=False:=ff (by omega)
   have e6:aY (ab (a.take (k+1))) (ab (b.take (k+1)))=aY (ab (a.take k)) (ab (b.take k)):=by
    rw [va,vb,heq]
    simp only [aY]
    repeat' split
    all_goals first | rfl | omega
   simp only [en,go_sem,↓reduceIte,amO,amQ,amP,h0,h1,h5,e1,e2,e3,e5,e6,e7,e4]
   exact ih' _ _ rfl rfl rfl
  ·have e5:((a.getD k 0:Int) < (b.getD k 0:Int))=False:=ff (by omega)
   have e7:((b.getD k 0:Int) < (a.getD k 0:Int))=True:=tt (by omega)
   have e6:aY (ab (a.take (k+1))) (ab (b.take (k+1)))=1:=by
    have:4294967296 ^ k*(b.getD k 0+1)≤4294967296 ^ k*a.getD k 0:=Nat.mul_le_mul_left _ hgt
    rw [Nat.mul_add] at this
    simp only [aY]
    rw [if_neg (by omega),if_pos (by omega)]
   simp only [en,fe,go_sem,↓reduceIte,amO,amQ,amP,h0,h1,h5,e1,e2,e3,e5,e6,e7]
theorem WW {a b:List Nat} (ha:Lb a) (hb:Lb b) (h1:a.length≤100000) (h2:b.length≤100000):R F.r01_Cmp [lm a,lm b] []=some (I (aY (ab a) (ab b)),[]):=by
 refine av RU RT (Kl false) rfl ?_
 obtain ⟨M,hM⟩:∃ M,max a.length b.length=M:=⟨_,rfl⟩
 have e1:(if (a.length:Int) < (b.length:Int) then (b.length:Int) else (a.length:Int))=(M:Int):=by
  split <;> omega
 have e2:IntKind.i64.wrap ((M:Int) - 1)=(M:Int) - 1:=i64_in _ ⟨by omega,by omega⟩
 have hL:=P4 ha hb h1 h2 M (by omega)
 rw [List.take_of_length_le (show a.length≤M by omega),List.take_of_length_le (show b.length≤M by omega)] at hL
 generalize hLL:aq (ak R (ae false) en) [0,1,5] []=L at hL
 have hX:∀ s h,ak R (ae false) (.loop [0,1,5] [] en) s h=L s h:=fun s h=>by rw [← hLL]; rfl
 have hL2:∀ s h,s 0=lm a→s 1=lm b→s 5=I ((M:Int) - 1)→eE false [[]] [.t 4] 0 (bo (au 0 [] (L s h)) (ak R (ae false) (.seq (.ops [4] [co 4 (.mv (.c (.v (.int .i64 0))))]) (.ret))))=some (I (aY (ab a) (ab b)),[]):=fun s h a0 a1 a5=>by
  rw [show (.seq (.ops [4] [co 4 (.mv (.c (.v (.int .i64 0))))]) (.ret):Cmd)=fe from rfl,hL s h a0 a1 a5]
  simp only [go_sem,↓reduceIte]
 show eE false [[]] [.t 4] 0 (ak R (ae false) x5 _ _)=_
 unfold x5
 show eE false [[]] [.t 4] 0 (bo (ak R (ae false) (.ops [0,1] [co 4 (.mv (.c (.v (.int .i64 0))))]) _ _) fun s h=>bo (bo (ak R (ae false) (.ops [0,1,5] [cm 6 0,co 7 (.len false (.t 6)),cm 8 1,co 9 (.len false (.t 8)),co 10 (.mnx false (.t 7) [(.t 9)]),co 11 (.bin .sub (.t 10) (.c (.v (.int .i64 1)))),cm 5 11]) s h) fun s h=>au 0 [] (ak R (ae false) (.loop [0,1,5] [] en) s h)) (ak R (ae false) (.seq (.ops [4] [co 4 (.mv (.c (.v (.int .i64 0))))]) (.ret))))=_
 simp only [hX]
 generalize hT:ak R (ae false) (.seq (.ops [4] [co 4 (.mv (.c (.v (.int .i64 0))))]) (.ret))=T at hL2 ⊢
 simp only [go_sem,↓reduceIte,amO,e1,e2]
 exact hL2 _ _ rfl rfl rfl
end Go.Ab
namespace Go.Ab
open Go Go.IntWalk
set_option maxRecDepth 4000
set_option maxHeartbeats 1000000
theorem P5:∀ (x b:Nat),x < 4294967296→b+ah x≤100000000→∀ (s:am) (h:ac),s 4=I b→s 5=U x →
  au 2 [4] (aq (ak R (ae false) hJ) [4,5] [] s h)=some (.normal,⟨upd (fun _ => .any) 4 (I (b+ah x:Nat)),fun _ => .dead⟩):=by
 intro x
 induction x using Nat.strongRecOn with
 | ind x ih =>
  intro b hx hb s h h3 h4
  rw [ao]
  by_cases h0:x=0
  ·have e1:(0 < (x:Int))=False:=ff (by omega)
   rw [h0,lC,Nat.add_zero]
   rw [h0] at e1 h4
   simp only [hJ,go_sem,↓reduceIte,amO,h3,h4,e1]
  ·have e1:(0 < (x:Int))=True:=tt (by omega)
   have e2:=vV (n:=x) (k:=1) (kk := .u64) (j:=1) rfl rfl (by omega)
   have e3:IntKind.i64.wrap ((b:Int)+1)=((b+1:Nat):Int):=wi (by omega) (by omega)
   have e4:ah x=1+ah (x / 2 ^ 1):=by
    have h5:=du x 1
    have h6:=eu h0
    omega
   have ih':=ih (x / 2 ^ 1) (by omega) (b+1) (by omega) (by omega)
   rw [show b+ah x=b+1+ah (x / 2 ^ 1) by omega]
   generalize aq _ _ _=L at ih' ⊢
   simp only [hJ,go_sem,↓reduceIte,amO,h3,h4,e1,e2,e3]
   exact ih' _ _ rfl rfl
theorem SI {y x j:Nat} (hy:y < 4294967296 ^ j) (hx:x ≠ 0):ah (y+4294967296 ^ j*x)=32*j+ah x:=by
 have e:(4294967296:Nat) ^ j=2 ^ (32*j):=by
  rw [Nat.pow_mul]
 rw [e] at hy ⊢
 have h1:2 ^ (32*j)≤y+2 ^ (32*j)*x:=Nat.le_trans (Nat.le_mul_of_pos_right _ (Nat.pos_of_ne_zero hx)) (Nat.le_add_left _ _)
 rw [qw _ h1,Nat.add_mul_div_left _ _ (Nat.two_pow_pos _),Nat.div_eq_of_lt hy,Nat.zero_add]
theorem SJ {m:List Nat} (hb:Lb m) (hl:m.length≤100000):∀ (k:Nat),k≤m.length→∀ (s:am) (h:ac),s 0=lm m→s 3=I ((k:Int) - 1) →
  bo (au 0 [] (aq (ak R (ae false) dL) [0,3] [] s h)) (ak R (ae false) (.seq (.ops [2] [co 2 (.mv (.c (.v (.int .i64 0))))]) (.ret)))=some (.ret,⟨upd (fun _ => .any) 2 (I (ah (ab (m.take k)):Nat)),fun _ => .dead⟩):=by
 intro k
 induction k with
 | zero =>
  intro hk s h h0 h3
  rw [ao]
  generalize aq _ _ _=L
  have e1:(0≤((0:Nat):Int) - 1)=False:=ff (by omega)
  have e2:((ah (ab []):Nat):Int)=0:=rfl
  simp only [dL,go_sem,↓reduceIte,amO,h0,h3,e1,List.take_zero,e2]
 | succ k ih =>
  intro hk s h h0 h3
  have ih':=ih (by omega)
  have ek:((k+1:Nat):Int) - 1=(k:Int):=by omega
  rw [ek] at h3
  have e1:(0≤(k:Int))=True:=tt (by omega)
  have e2:aV (aE m) (k:Int)=some (.ipt [U (m.getD k 0:Nat)]):=aX rfl (by omega)
  have e4:IntKind.i64.wrap ((k:Int) - 1)=(k:Int) - 1:=by rw [i64_in] <;> omega
  have hx:=bd hb k
  have va:=dX m k
  have la:=bC (jg hb k)
  rw [List.length_take,Nat.min_eq_left (by omega)] at la
  rw [ao]
  by_cases hz:m.getD k 0=0
  ·have e3:((m.getD k 0:Int)=0)=True:=tt (by omega)
   have e6:ab (m.take (k+1))=ab (m.take k):=by rw [va,hz,Nat.mul_zero,Nat.add_zero]
   rw [e6]
   generalize aq _ _ _=L at ih' ⊢
   generalize hT:ak R (ae false) (.seq (.ops [2] [co 2 (.mv (.c (.v (.int .i64 0))))]) (.ret))=T at ih' ⊢
   simp only [dL,go_sem,↓reduceIte,amO,h0,h3,e1,e2,e3,e4]
   exact ih' _ _ rfl rfl
  ·have e3:((m.getD k 0:Int)=0)=False:=ff (by omega)
   have e6:=SI la hz
   rw [← va] at e6
   rw [e6]
   have e5:IntKind.i64.wrap (32*(k:Int))=((32*k:Nat):Int):=wi (by omega) (by omega)
   have hbl:=(bl (k:=32)).2 hx
   have e7:=P5 (m.getD k 0) (32*k) hx (by omega)
   generalize aq (ak R (ae false) dL) _ _=L
   generalize hLL:aq (ak R (ae false) hJ) [4,5] []=L0 at e7
   have hX:∀ s h,ak R (ae false) (.loop [4,5] [] hJ) s h=L0 s h:=fun s h=>by rw [← hLL]; rfl
   simp only [dL,hX,go_sem,↓reduceIte,amO,h0,h3,e1,e2,e3,e5]
   rw [e7 _ _ rfl rfl]
   simp only [go_sem,↓reduceIte]
theorem K0 {m:List Nat} (hb:Lb m) (hl:m.length≤100000):R F.r01_Bits [lm m] []=some (I (ah (ab m):Nat),[]):=by
 refine av PG PF (If false) rfl ?_
 have e2:IntKind.i64.wrap ((m.length:Int) - 1)=(m.length:Int) - 1:=i64_in _ ⟨by omega,by omega⟩
 have hL:=SJ hb hl m.length (Nat.le_refl _)
 rw [List.take_length] at hL
 generalize hLL:aq (ak R (ae false) dL) [0,3] []=L at hL
 have hX:∀ s h,ak R (ae false) (.loop [0,3] [] dL) s h=L s h:=fun s h=>by rw [← hLL]; rfl
 show eE false [[]] [.t 2] 0 (ak R (ae false) vN _ _)=_
 unfold vN
 show eE false [[]] [.t 2] 0 (bo (ak R (ae false) (.ops [0] [co 2 (.mv (.c (.v (.int .i64 0))))]) _ _) fun s h=>bo (bo (ak R (ae false) (.ops [0,3] [cm 6 0,co 7 (.len false (.t 6)),co 8 (.bin .sub (.t 7) (.c (.v (.int .i64 1)))),cm 3 8]) s h) fun s h=>au 0 [] (ak R (ae false) (.loop [0,3] [] dL) s h)) (ak R (ae false) (.seq (.ops [2] [co 2 (.mv (.c (.v (.int .i64 0))))]) (.ret))))=_
 simp only [hX]
 generalize hT:ak R (ae false) (.seq (.ops [2] [co 2 (.mv (.c (.v (.int .i64 0))))]) (.ret))=T at hL ⊢
 simp only [go_sem,↓reduceIte,amO,e2]
 rw [hL _ _ rfl rfl]
 simp only [go_sem,↓reduceIte]
theorem SK {a b:List Nat} (ha:Lb a) (hb:Lb b) (h1:a.length≤100000) (h2:b.length≤100000) {N:Nat} (hN:max a.length b.length≤N) (hN2:N≤100001) (hNc:bS a b N=0) (hc:∀ i,i < N→i < max a.length b.length∨0 < bS a b i):∀ (k i:Nat),i+k=N→∀ (s:am) (h:ac),s 0=lm a→s 1=lm b→s 6=W (bS a b i:Nat)→s 7=I i→jq 36 (bQ a b i) (s 5) (h 36) →
  ∃ x hh,au 0 [5] (aq (ak R (ae false) dH) [0,1,5,6,7] [36] s h)=some (.normal,⟨upd (fun _ => .any) 5 x,hh⟩)∧jq 36 (bQ a b N) x (hh 36)∧∀ a,a ≠ 36→hh a = .dead:=by
 have em:(if (a.length:Int) < (b.length:Int) then (b.length:Int) else (a.length:Int))=((max a.length b.length:Nat):Int):=by
  split <;> omega
 intro k
 induction k with
 | zero =>
  intro i hi s h h0 g1 h6 h7 hacc
  have:i=N:=by omega
  subst this
  rw [hNc] at h6
  have e1:((i:Int) < ((max a.length b.length:Nat):Int))=False:=ff (by omega)
  rw [ao]
  rcases hacc with ⟨g2,h5,hh⟩ | ⟨g2,h5,hh⟩
  ·refine ⟨.emp,?hh0,?_,Or.inl ⟨g2,rfl,?_⟩,?_⟩
   rotate_left
   ·simp only [dH,go_sem,↓reduceIte,amO,h0,g1,h5,h6,h7,hh,em,e1,Int.natCast_zero,Int.lt_irrefl]
    rfl
   ·rfl
   ·intro b hb
    simp only [bX,hb,if_false]
  ·refine ⟨.rsl 36 none 1 0 (bQ a b i).length,?hh1,?_,Or.inr ⟨g2,rfl,?_⟩,?_⟩
   rotate_left
   ·simp only [dH,go_sem,↓reduceIte,amO,amT,h0,g1,h5,h6,h7,hh,em,e1,Int.natCast_zero,Int.lt_irrefl]
    rfl
   ·rfl
   ·intro b hb
    simp only [bX,hb,if_false]
 | succ k ih =>
  intro i hi s h h0 g1 h6 h7 hacc
  have ih':=ih (i+1) (by omega)
  have hx:=bd ha i
  have hy:=bd hb i
  have hcl:=qt ha hb i
  have t1:=tC (m:=a) (i:=i) ha (by omega)
  have t2:=tC (m:=b) (i:=i) hb (by omega)
  have e3:IntKind.i64.wrap ((i:Int)+1)=((i+1:Nat):Int):=wi (by omega) (by omega)
  have q1:((bQ a b i).length+1)*4≤140737488355328:=by rw [cD]; omega
  have f3:=tt q1
  have w1:IntKind.u64.wrap ((a.getD i 0:Int)+(b.getD i 0:Int))=((a.getD i 0+b.getD i 0:Nat):Int):=cf (by omega) (by omega)
  have w2:IntKind.u64.wrap (((a.getD i 0+b.getD i 0:Nat):Int)+(bS a b i:Int))=((a.getD i 0+b.getD i 0+bS a b i:Nat):Int):=cf (by omega) (by omega)
  have f8:=gW (n:=a.getD i 0+b.getD i 0+bS a b i) (k:=32) (kk := .u64) (j:=32) rfl rfl (by omega)
  rw [show (a.getD i 0+b.getD i 0+bS a b i) / 2 ^ 32=bS a b (i+1) from rfl] at f8
  have f9:=j8 (n:=a.getD i 0+b.getD i 0+bS a b i) rfl (by omega)
  rw [show (a.getD i 0+b.getD i 0+bS a b i) % 4294967296=oX a b i from rfl] at f9
  have f10:IntKind.u32.wrap ((oX a b i:Nat):Int)=((oX a b i:Nat):Int):=nN rfl (Nat.mod_lt _ (by omega))
  rw [ao]
  rw [G3] at ih'
  generalize aq _ _ _=L at ih' ⊢
  by_cases hlt:i < max a.length b.length
  ·have e1:((i:Int) < ((max a.length b.length:Nat):Int))=True:=tt (by omega)
   rcases hacc with ⟨g2,h5,hh⟩ | ⟨g2,h5,hh⟩
   ·simp only [dH,go_sem,↓reduceIte,amO,amQ,amP,amR,amS,h0,g1,h5,h6,h7,hh,em,e1,e3,t1,t2,w1,w2,f8,f9,f10]
    rw [g2] at ih'
    exact ih' _ _ rfl rfl rfl rfl jk
   ·simp only [dH,go_sem,↓reduceIte,amO,amQ,amP,amR,amS,amT,h0,g1,h5,h6,h7,hh,em,e1,e3,t1,t2,w1,w2,f3,f8,f9,f10,true_or,Nat.zero_add,Nat.le_refl,fW]
    exact ih' _ _ rfl rfl rfl rfl gU
  ·have e1:((i:Int) < ((max a.length b.length:Nat):Int))=False:=ff (by omega)
   have e2:(0 < (bS a b i:Int))=True:=tt (by have:=hc i (by omega); omega)
   rcases hacc with ⟨g2,h5,hh⟩ | ⟨g2,h5,hh⟩
   ·simp only [dH,go_sem,↓reduceIte,amO,amQ,amP,amR,amS,h0,g1,h5,h6,h7,hh,em,e1,e2,e3,t1,t2,w1,w2,f8,f9,f10]
    rw [g2] at ih'
    exact ih' _ _ rfl rfl rfl rfl jk
   ·simp only [dH,go_sem,↓reduceIte,amO,amQ,amP,amR,amS,amT,h0,g1,h5,h6,h7,hh,em,e1,e2,e3,t1,t2,w1,w2,f3,f8,f9,f10,true_or,Nat.zero_add,Nat.le_refl,fW]
    exact ih' _ _ rfl rfl rfl rfl gU
theorem WX {a b:List Nat} (ha:Lb a) (hb:Lb b) (h1:a.length≤10000) (h2:b.length≤10000):R F.r01_Add [lm a,lm b] []=some (lm (ap (ab a+ab b)),[]):=by
 refine av RZ RY (Kn false) rfl ?_
 obtain ⟨N,hN,hN2,hNc,hcc⟩:∃ N,max a.length b.length≤N∧N≤10001∧bS a b N=0∧∀ i,i < N→i < max a.length b.length∨0 < bS a b i:=by
  obtain ⟨M,hM⟩:∃ M,max a.length b.length=M:=⟨_,rfl⟩
  have h3:=qt ha hb M
  by_cases h0:bS a b M=0
  ·exact ⟨M,by omega,by omega,h0,fun i hi=>Or.inl (by omega)⟩
  ·refine ⟨M+1,by omega,by omega,?_,fun i hi => ?_⟩
   ·show (a.getD M 0+b.getD M 0+bS a b M) / 4294967296=0
    rw [rJ (by omega),rJ (by omega)]
    omega
   ·by_cases hiM:i < M
    ·exact Or.inl (by omega)
    ·have:i=M:=by omega
     rw [this]
     exact Or.inr (by omega)
 have hr:=SK ha hb (by omega) (by omega) hN (by omega) hNc hcc N 0 (by omega)
 simp only [Int.natCast_zero] at hr
 have hsv:=KZ ha hb (L:=N) (by omega) (by omega)
 rw [hNc,di] at hsv
 have hsv2:ab (bQ a b N)=ab a+ab b:=by
  rw [← hsv]
  simp [ab]
 have hL:=cD a b N
 have hLb:=FG a b N
 have q0:jq 36 (bQ a b 0) .emp .dead:=Or.inl ⟨rfl,rfl,rfl⟩
 have c0:bS a b 0=0:=rfl
 rw [c0] at hr
 simp only [Int.natCast_zero] at hr
 clear hsv
 generalize bQ a b 0=o0 at hr q0
 generalize bQ a b N=out at hr hsv2 hL hLb
 have ht:=nE (m:=out) hLb (by omega)
 rw [hsv2] at ht
 generalize ap (ab a+ab b)=res at ht ⊢
 generalize hLL:aq (ak R (ae false) dH) [0,1,5,6,7] [36]=L at hr
 have hX:∀ s h,ak R (ae false) (.loop [0,1,5,6,7] [36] dH) s h=L s h:=fun s h=>by rw [← hLL]; rfl
 clear hLL
 have hr2:∀ (S:am) (H:ac) (X:Option (Ex × St)),au 0 [5] (L S H)=X→S 0=lm a→S 1=lm b→S 6=W 0→S 7=I 0→S 5 = .emp→H 36 = .dead→∃ x hh,X=some (.normal,⟨upd (fun _ => .any) 5 x,hh⟩)∧jq 36 out x (hh 36)∧∀ a,a ≠ 36→hh a = .dead:=fun S H X hX a0 a1 a6 a7 a5 b=>by
  rw [← hX]
  exact hr S H a0 a1 a6 a7 (by rw [a5,b]; exact q0)
 simp only [rr,GS,hX,go_sem,↓reduceIte,amO]
 generalize hB:au 0 [5] (L _ _)=X
 obtain ⟨x,hh,g0,hacc,gd⟩:=hr2 _ _ _ hB rfl rfl rfl rfl rfl rfl
 rw [g0]
 rcases hacc with ⟨c1,c2,c3⟩ | ⟨c1,c2,c3⟩
 ·rw [c1] at ht
  simp only [go_sem,↓reduceIte,amO,amQ,amP,c2,ht,ne_eq,not_false_eq_true,gd]
 ·simp only [go_sem,↓reduceIte,amO,amQ,amP,c2,c3,ht,ne_eq,not_false_eq_true,gd,lE,Nat.zero_add,Nat.le_refl]
theorem SL {a b:List Nat} (ha:Lb a) (hb:Lb b) (h1:a.length≤100000) (h2:b.length≤100000):∀ (k i:Nat),i+k=a.length→∀ (s:am) (h:ac),s 0=lm a→s 1=lm b→s 6=W (dx a b i:Nat)→s 7=I i→jq 30 (cz a b i) (s 5) (h 30) →
  ∃ x hh,au 0 [5] (aq (ak R (ae false) fE) [0,1,5,6,7] [30] s h)=some (.normal,⟨upd (fun _ => .any) 5 x,hh⟩)∧jq 30 (cz a b a.length) x (hh 30)∧∀ a,a ≠ 30→hh a = .dead:=by
 intro k
 induction k with
 | zero =>
  intro i hi s h h0 g1 h6 h7 hacc
  have e1:((i:Int) < (a.length:Int))=False:=ff (by omega)
  have:i=a.length:=by omega
  rw [← this]
  rw [ao]
  rcases hacc with ⟨g2,h5,hh⟩ | ⟨g2,h5,hh⟩
  ·refine ⟨.emp,?hh0,?_,Or.inl ⟨g2,rfl,?_⟩,?_⟩
   rotate_left
   ·simp only [fE,go_sem,↓reduceIte,amO,h0,g1,h5,h6,h7,hh,e1]
    rfl
   ·rfl
   ·intro b hb
    simp only [bX,hb,if_false]
  ·refine ⟨.rsl 30 none 1 0 (cz a b i).length,?hh1,?_,Or.inr ⟨g2,rfl,?_⟩,?_⟩
   rotate_left
   ·simp only [fE,go_sem,↓reduceIte,amO,amT,h0,g1,h5,h6,h7,hh,e1]
    rfl
   ·rfl
   ·intro b hb
    simp only [bX,hb,if_false]
 | succ k ih =>
  intro i hi s h h0 g1 h6 h7 hacc
  have ih':=ih (i+1) (by omega)
  have hx:=bd ha i
  have hy:=bd hb i
  have hc:=qu a b i
  have t1:=tC (m:=a) (i:=i) ha (by omega)
  have t2:=tC (m:=b) (i:=i) hb (by omega)
  have e1:((i:Int) < (a.length:Int))=True:=tt (by omega)
  have e3:IntKind.i64.wrap ((i:Int)+1)=((i+1:Nat):Int):=wi (by omega) (by omega)
  have q1:((cz a b i).length+1)*4≤140737488355328:=by rw [fk]; omega
  have f3:=tt q1
  have w3:IntKind.u64.wrap ((a.getD i 0:Int)+4294967296)=((a.getD i 0+4294967296:Nat):Int):=cf (by omega) (by omega)
  have w4:IntKind.u64.wrap (((a.getD i 0+4294967296:Nat):Int) - (b.getD i 0:Int))=((a.getD i 0+4294967296 - b.getD i 0:Nat):Int):=cf (by omega) (by omega)
  have w6:IntKind.u64.wrap (((a.getD i 0+4294967296 - b.getD i 0:Nat):Int) - (dx a b i:Int))=((a.getD i 0+4294967296 - b.getD i 0 - dx a b i:Nat):Int):=cf (by omega) (by omega)
  have f8:=gW (n:=a.getD i 0+4294967296 - b.getD i 0 - dx a b i) (k:=32) (kk := .u64) (j:=32) rfl rfl (by omega)
  have w5:IntKind.u64.wrap (1 - (((a.getD i 0+4294967296 - b.getD i 0 - dx a b i) / 2 ^ 32:Nat):Int))=((dx a b (i+1):Nat):Int):=by
   refine cf ?_ (by have:=qu a b (i+1); omega)
   show _=(((if a.getD i 0 < b.getD i 0+dx a b i then 1 else 0:Nat)):Int)
   split <;> omega
  have f9:=j8 (n:=a.getD i 0+4294967296 - b.getD i 0 - dx a b i) rfl (by omega)
  rw [show (a.getD i 0+4294967296 - b.getD i 0 - dx a b i) % 4294967296=oY a b i from rfl] at f9
  have f10:IntKind.u32.wrap ((oY a b i:Nat):Int)=((oY a b i:Nat):Int):=nN rfl (Nat.mod_lt _ (by omega))
  rw [ao]
  rw [G4] at ih'
  generalize aq _ _ _=L at ih' ⊢
  rcases hacc with ⟨g2,h5,hh⟩ | ⟨g2,h5,hh⟩
  ·simp only [fE,go_sem,↓reduceIte,amO,amQ,amP,amR,amS,h0,g1,h5,h6,h7,hh,e1,e3,t1,t2,w3,w4,w5,w6,f8,f9,f10]
   rw [g2] at ih'
   exact ih' _ _ rfl rfl rfl rfl jk
  ·simp only [fE,go_sem,↓reduceIte,amO,amQ,amP,amR,amS,amT,h0,g1,h5,h6,h7,hh,e1,e3,t1,t2,w3,w4,w5,w6,f3,f8,f9,f10,true_or,Nat.zero_add,Nat.le_refl,fW]
   exact ih' _ _ rfl rfl rfl rfl gU
theorem WY {a b:List Nat} (ha:Lb a) (hb:Lb b) (h1:a.length≤10000) (h2:b.length≤a.length) (hv:ab b≤ab a):R F.r01_Sub [lm a,lm b] []=some (lm (ap (ab a - ab b)),[]):=by
 refine av R1 R0 (Kq false) rfl ?_
 have hr:=SL ha hb (by omega) (by omega) a.length 0 (by omega)
 simp only [Int.natCast_zero] at hr
 have hall:=BX ha hb h2 hv
 have hsv:ab (cz a b a.length)=ab a - ab b:=by
  rw [hall,et,Nat.mod_eq_of_lt]
  exact Nat.lt_of_le_of_lt (Nat.sub_le _ _) (bC ha)
 have hL:=fk a b a.length
 have hLb:=zk a b a.length
 have q0:jq 30 (cz a b 0) .emp .dead:=Or.inl ⟨rfl,rfl,rfl⟩
 have c0:dx a b 0=0:=rfl
 rw [c0] at hr
 simp only [Int.natCast_zero] at hr
 clear hall
 generalize cz a b 0=o0 at hr q0
 generalize cz a b a.length=out at hr hsv hL hLb
 have ht:=nE (m:=out) hLb (by omega)
 rw [hsv] at ht
 generalize ap (ab a - ab b)=res at ht ⊢
 generalize hLL:aq (ak R (ae false) fE) [0,1,5,6,7] [30]=L at hr
 have hX:∀ s h,ak R (ae false) (.loop [0,1,5,6,7] [30] fE) s h=L s h:=fun s h=>by rw [← hLL]; rfl
 clear hLL
 have hr2:∀ (S:am) (H:ac) (X:Option (Ex × St)),au 0 [5] (L S H)=X→S 0=lm a→S 1=lm b→S 6=W 0→S 7=I 0→S 5 = .emp→H 30 = .dead→∃ x hh,X=some (.normal,⟨upd (fun _ => .any) 5 x,hh⟩)∧jq 30 out x (hh 30)∧∀ a,a ≠ 30→hh a = .dead:=fun S H X hX a0 a1 a6 a7 a5 b=>by
  rw [← hX]
  exact hr S H a0 a1 a6 a7 (by rw [a5,b]; exact q0)
 simp only [ru,GT,hX,go_sem,↓reduceIte,amO]
 generalize hB:au 0 [5] (L _ _)=X
 obtain ⟨x,hh,g0,hacc,gd⟩:=hr2 _ _ _ hB rfl rfl rfl rfl rfl rfl
 rw [g0]
 rcases hacc with ⟨c1,c2,c3⟩ | ⟨c1,c2,c3⟩
 ·rw [c1] at ht
  simp only [go_sem,↓reduceIte,amO,amQ,amP,c2,ht,ne_eq,not_false_eq_true,gd]
 ·simp only [go_sem,↓reduceIte,amO,amQ,amP,c2,c3,ht,ne_eq,not_false_eq_true,gd,lE,Nat.zero_add,Nat.le_refl]
end Go.Ab
