/-
  The statement BoundLinear holds of the given program: its card, with the tied table of bits.TrailingZeros32; no further conditions. Part C2.
-/
import Derived.Test.YtlfcbamejofhkaaGreatDoorC1
open Nat renaming reduceEqDiff → alS, reduceAdd → alT, reduceMul → alU, reduceLeDiff → alV, reduceLT → alW, reduceBEq → alX
open Int renaming reduceEq → al0
namespace Go.Ab
open Go Go.IntWalk
set_option maxRecDepth 4000
theorem Ta {N k:Nat} {f u:Int} {more:Bool} (hm:more=decide (N % 2 ^ k ≠ 0)) (hu:more=true→f+k < u):kJ (N / 2 ^ k) (f+k) more u=kJ N f false u:=by
 unfold kJ
 by_cases h:u≤f+k
 ·rw [if_pos h]
  have hf:more=false:=by
   cases more with
   | false=>rfl
   | true=>exact absurd (hu rfl) (by omega)
  subst hf
  have h0:N % 2 ^ k=0:=by
   have:=of_decide_eq_false hm.symm
   omega
  obtain ⟨M,rfl⟩:=Nat.dvd_of_mod_eq_zero h0
  rw [Nat.mul_div_cancel_left _ (Nat.two_pow_pos k)]
  by_cases h2:u≤f
  ·rw [if_pos h2,show (f+k - u).toNat=k+(f - u).toNat by omega,Nat.pow_add,Nat.mul_comm (2 ^ k) M,Nat.mul_assoc]
  ·rw [if_neg h2]
   obtain ⟨j,hj⟩:∃ j,(f+k - u).toNat=j:=⟨_,rfl⟩
   obtain ⟨i,hi⟩:∃ i,(u - f).toNat=i:=⟨_,rfl⟩
   have hk:k=i+j:=by omega
   rw [hj,hi,hk,Nat.pow_add,Nat.mul_assoc,Nat.mul_div_cancel_left _ (Nat.two_pow_pos i),Nat.mul_mod_right,Nat.mul_comm M]
   rfl
 ·rw [if_neg h,if_neg (by omega)]
  obtain ⟨j,hj⟩:∃ j,(u - (f+k)).toNat=j:=⟨_,rfl⟩
  rw [show (u - f).toNat=k+j by omega,hj,Nat.pow_add,Nat.div_div_eq_div_mul,Nat.mod_mul,hm]
  refine Prod.ext rfl ?_
  show (decide (N % 2 ^ k ≠ 0) || decide (N / 2 ^ k % 2 ^ j ≠ 0))=(false || decide (N % 2 ^ k+2 ^ k*(N / 2 ^ k % 2 ^ j) ≠ 0))
  have h2:=Nat.two_pow_pos k
  rw [Bool.false_or,← Bool.decide_or]
  congr 1
  refine propext ⟨fun h3 h4 => ?_,fun h3 => ?_⟩
  ·obtain ⟨h5,h6⟩:=Nat.add_eq_zero_iff.1 h4
   rcases Nat.mul_eq_zero.1 h6 with h7 | h7
   ·omega
   ·exact h3.elim (fun h8=>h8 h5) (fun h8=>h8 h7)
  ·by_cases h5:N % 2 ^ k=0
   ·refine Or.inr fun h6=>h3 ?_
    rw [h5,h6,Nat.mul_zero]
   ·exact Or.inl h5
theorem QB {N k:Nat} {f p:Int} (hM:N / 2 ^ k ≠ 0):cL (N / 2 ^ k) (f+k) p=cL N f p:=by
 have h1:=cS hM
 rw [di] at h1
 unfold cL
 rw [di,show f+(k:Int)+((af N - k:Nat):Int) - p=f+(af N:Nat) - p by omega]
theorem L8 {N k:Nat} {f p:Int} {more up:Bool} (hM:N / 2 ^ k ≠ 0) (hm:more=decide (N % 2 ^ k ≠ 0)) (hp:more=true→p < (af (N / 2 ^ k):Nat)):gC (N / 2 ^ k) (f+k) more p up=gC N f false p up:=by
 unfold gC
 have hu:more=true→f+k < cL (N / 2 ^ k) (f+k) p:=fun h=>by
  have:=hp h
  unfold cL
  split <;> omega
 rw [Ta hm hu,QB hM]
theorem Fg {M k:Nat} {f p:Int} {up:Bool} (hM:M ≠ 0):gC (M*2 ^ k) f false p up=gC M (f+k) false p up:=by
 have h1:M*2 ^ k / 2 ^ k=M:=Nat.mul_div_cancel _ (Nat.two_pow_pos k)
 have:=L8 (N:=M*2 ^ k) (k:=k) (f:=f) (p:=p) (more:=false) (up:=up) (by rw [h1]; exact hM) (by rw [Nat.mul_mod_left]; rfl) (fun h=>absurd h Bool.false_ne_true)
 rw [h1] at this
 exact this.symm
def kK (z f p:Int) (up:Bool):Rd × Int:=if z=0 then (aH,0) else hJ (decide (z < 0)) (gC z.natAbs f false p (up != decide (z < 0)))
theorem D6 {n:Nat} {f p:Int} {up neg:Bool} (h:n ≠ 0):kK (if neg=true then -(n:Int) else n) f p up=hJ neg (gC n f false p (up != neg)):=by
 unfold kK
 cases neg with
 | true =>
  rw [if_pos rfl,if_neg (by omega),show decide (-(n:Int) < 0)=true from decide_eq_true (by omega),Int.natAbs_neg,Int.natAbs_natCast]
 | false =>
  rw [if_neg Bool.false_ne_true,if_neg (by omega),show decide ((n:Int) < 0)=false from decide_eq_false (by omega),Int.natAbs_natCast]
theorem Fh {z f p:Int} {k:Nat} {up:Bool}:kK (z*2 ^ k) f p up=kK z (f+k) p up:=by
 unfold kK
 by_cases h:z=0
 ·rw [h,Int.zero_mul,if_pos rfl,if_pos rfl]
 ·have h2:(0:Int) < 2 ^ k:=Int.pow_pos (by decide)
  have h3:z*2 ^ k ≠ 0:=fun h3=>by
   rcases Int.mul_eq_zero.1 h3 with h4 | h4
   ·exact h h4
   ·omega
  have h4:decide (z*2 ^ k < 0)=decide (z < 0):=by
   congr 1
   refine propext ⟨fun h5 => ?_,fun h5=>Int.mul_neg_of_neg_of_pos h5 h2⟩
   refine Int.not_le.1 fun h6 => ?_
   have:=Int.mul_nonneg h6 (Int.le_of_lt h2)
   omega
  rw [if_neg h,if_neg h3,h4,Int.natAbs_mul,Int.natAbs_pow,show (2:Int).natAbs=2 from rfl,Fg (fun h5=>h (Int.natAbs_eq_zero.1 h5))]
end Go.Ab
namespace Go.Ab
open Go Go.IntWalk
set_option maxRecDepth 4000
def bk (neg:Bool) (n:Nat):Int:=if neg=true then -(n:Int) else n
theorem eM (n:Nat):bk true n = -(n:Int):=rfl
theorem eN (n:Nat):bk false n=(n:Int):=rfl
def Jd (an:Bool) (p:Int) (up:Bool) (s:(Nat × Int × Bool) × Bool):Rd × Int:=if s.1.1=0∧s.1.2.2=false then (aH,0) else hJ (an != s.2) (gC s.1.1 s.1.2.1 s.1.2.2 p (up != (an != s.2)))
theorem uR {an:Bool} {p:Int} {up:Bool} {N K:Nat} {f:Int} {more t:Bool} (hM:N / 2 ^ K ≠ 0) (hm:more=decide (N % 2 ^ K ≠ 0)) (hp:more=true→p < (af (N / 2 ^ K):Nat)) :
  Jd an p up ((N / 2 ^ K,f+K,more),t)=kK (bk (an != t) N) f p up:=by
 have h0:N ≠ 0:=fun h=>by
  rw [h,Nat.zero_div] at hM
  exact hM rfl
 unfold bk
 rw [D6 h0,Jd,if_neg (fun h=>hM h.1)]
 show hJ (an != t) (gC (N / 2 ^ K) (f+K) more p (up != (an != t)))=_
 rw [L8 hM hm hp]
theorem Tb {x Y K:Nat} {f p:Int} {up an bn:Bool} (hx:x ≠ 0) (hlost:Y % 2 ^ K ≠ 0→p < (af (x - (Y / 2 ^ K+1)):Nat)∧p < (af (x+Y / 2 ^ K):Nat)∧Y / 2 ^ K+1 < x) :
  Jd an p up (D3 an bn x (Y / 2 ^ K) (f+K) (decide (Y % 2 ^ K ≠ 0)))=kK (bk an (x*2 ^ K)+bk bn Y) f p up:=by
 have h2:=Nat.two_pow_pos K
 have hd:=Nat.div_add_mod Y (2 ^ K)
 have hlt:=Nat.mod_lt Y h2
 unfold D3
 by_cases hs:an=bn
 ·subst hs
  rw [if_pos rfl]
  have e1:x+Y / 2 ^ K=(x*2 ^ K+Y) / 2 ^ K:=by
   rw [Nat.mul_comm x,Nat.mul_add_div h2]
  have e2:(x*2 ^ K+Y) % 2 ^ K=Y % 2 ^ K:=by
   rw [Nat.mul_comm x,Nat.mul_add_mod]
  have e3:bk an (x*2 ^ K)+bk an Y=bk (an != false) (x*2 ^ K+Y):=by
   cases an
   ·show bk false _+bk false _=bk false _
    rw [eN,eN,eN]
    omega
   ·show bk true _+bk true _=bk true _
    rw [eM,eM,eM]
    omega
  rw [e3,e1,uR]
  ·rw [← e1]
   exact fun h=>hx (Nat.add_eq_zero_iff.1 h).1
  ·rw [e2]
  ·intro h
   rw [← e1]
   exact (hlost (of_decide_eq_true h)).2.1
 ·have hbn:bn = !an:=by
   cases an <;> cases bn <;> first | rfl | exact absurd rfl hs
  subst hbn
  rw [if_neg hs]
  by_cases hl:Y % 2 ^ K ≠ 0
  ·obtain ⟨g1,g2,g3⟩:=hlost hl
   have e0:kg (Y / 2 ^ K,decide (Y % 2 ^ K ≠ 0))=Y / 2 ^ K+1:=by
    unfold kg
    rw [if_pos (decide_eq_true hl)]
   rw [e0,if_neg (by omega)]
   obtain ⟨y,hy⟩:∃ y,Y / 2 ^ K=y:=⟨_,rfl⟩
   rw [hy] at hd g1 g2 g3 ⊢
   have e1:(x - (y+1))*2 ^ K+(2 ^ K - Y % 2 ^ K)=x*2 ^ K - Y:=by
    have e4:(x - (y+1))*2 ^ K=x*2 ^ K - (2 ^ K*y+2 ^ K):=by
     rw [Nat.sub_mul,Nat.add_mul,Nat.one_mul,Nat.mul_comm y]
    have e5:2 ^ K*y+2 ^ K≤x*2 ^ K:=by
     have:(y+1)*2 ^ K≤x*2 ^ K:=Nat.mul_le_mul_right _ (by omega)
     rw [Nat.add_mul,Nat.one_mul,Nat.mul_comm y] at this
     exact this
    omega
   have e6:(x*2 ^ K - Y) / 2 ^ K=x - (y+1):=by
    rw [← e1,Nat.mul_comm (x - (y+1)),Nat.mul_add_div h2,Nat.div_eq_of_lt (by omega)]
    rfl
   have e7:(x*2 ^ K - Y) % 2 ^ K=2 ^ K - Y % 2 ^ K:=by
    rw [← e1,Nat.mul_comm (x - (y+1)),Nat.mul_add_mod,Nat.mod_eq_of_lt (by omega)]
   have e8:Y≤x*2 ^ K:=by
    have:(y+1)*2 ^ K≤x*2 ^ K:=Nat.mul_le_mul_right _ (by omega)
    rw [Nat.add_mul,Nat.one_mul,Nat.mul_comm y] at this
    omega
   have e3:bk an (x*2 ^ K)+bk (!an) Y=bk (an != false) (x*2 ^ K - Y):=by
    cases an
    ·show bk false _+bk true _=bk false _
     simp only [eM,eN]
     omega
    ·show bk true _+bk false _=bk true _
     simp only [eM,eN]
     omega
   rw [e3,← e6,uR]
   ·rw [e6]
    omega
   ·rw [e7]
    rw [decide_eq_true hl]
    exact (decide_eq_true (by omega)).symm
   ·intro _
    rw [e6]
    exact g1
  ·have hl0:Y % 2 ^ K=0:=by omega
   have e0:kg (Y / 2 ^ K,decide (Y % 2 ^ K ≠ 0))=Y / 2 ^ K:=by
    unfold kg
    rw [if_neg (fun h=>hl (of_decide_eq_true h))]
   rw [e0,hl0,show decide ((0:Nat) ≠ 0)=false from rfl]
   rw [hl0,Nat.add_zero] at hd
   obtain ⟨y,hy⟩:∃ y,Y / 2 ^ K=y:=⟨_,rfl⟩
   rw [hy] at hd ⊢
   subst hd
   by_cases hxy:x < y
   ·rw [if_pos hxy]
    have e6:((y - x)*2 ^ K) / 2 ^ K=y - x:=Nat.mul_div_cancel _ h2
    have e9:x*2 ^ K≤y*2 ^ K:=Nat.mul_le_mul_right _ (by omega)
    have e3:bk an (x*2 ^ K)+bk (!an) (2 ^ K*y)=bk (an != true) ((y - x)*2 ^ K):=by
     rw [Nat.sub_mul,Nat.mul_comm _ y]
     cases an
     ·show bk false _+bk true _=bk true _
      simp only [eM,eN]
      omega
     ·show bk true _+bk false _=bk false _
      simp only [eM,eN]
      omega
    rw [e3]
    have:=uR (an:=an) (p:=p) (up:=up) (N:=(y - x)*2 ^ K) (K:=K) (f:=f) (more:=false) (t:=true) (by rw [e6]; omega) (by rw [Nat.mul_mod_left]; rfl) (fun h=>absurd h Bool.false_ne_true)
    rw [e6] at this
    exact this
   ·rw [if_neg hxy]
    by_cases hE:x=y
    ·subst hE
     have e3:bk an (x*2 ^ K)+bk (!an) (2 ^ K*x)=0:=by
      rw [Nat.mul_comm _ x]
      cases an
      ·show bk false _+bk true _=0
       simp only [eM,eN]
       omega
      ·show bk true _+bk false _=0
       simp only [eM,eN]
       omega
     rw [e3,Jd,if_pos ⟨Nat.sub_self x,rfl⟩,kK,if_pos rfl]
    ·have e6:((x - y)*2 ^ K) / 2 ^ K=x - y:=Nat.mul_div_cancel _ h2
     have e9:y*2 ^ K≤x*2 ^ K:=Nat.mul_le_mul_right _ (by omega)
     have e3:bk an (x*2 ^ K)+bk (!an) (2 ^ K*y)=bk (an != false) ((x - y)*2 ^ K):=by
      rw [Nat.sub_mul,Nat.mul_comm _ y]
      cases an
      ·show bk false _+bk true _=bk false _
       simp only [eM,eN]
       omega
      ·show bk true _+bk false _=bk true _
       simp only [eM,eN]
       omega
     rw [e3]
     have:=uR (an:=an) (p:=p) (up:=up) (N:=(x - y)*2 ^ K) (K:=K) (f:=f) (more:=false) (t:=false) (by rw [e6]; omega) (by rw [Nat.mul_mod_left]; rfl) (fun h=>absurd h Bool.false_ne_true)
     rw [e6] at this
     exact this
end Go.Ab
namespace Go.Ab
open Go Go.IntWalk
set_option maxRecDepth 4000
theorem aaQ {b:Rd} {l:Int} (h1 : -40000≤l) (h2 : -40000≤b.e):yZ b l=(ab b.m*2 ^ (b.e+40000).toNat / 2 ^ (l+40000).toNat,decide (ab b.m*2 ^ (b.e+40000).toNat % 2 ^ (l+40000).toNat ≠ 0)):=by
 unfold yZ
 by_cases h:l≤b.e
 ·rw [if_pos h,show (b.e+40000).toNat=(b.e - l).toNat+(l+40000).toNat by omega,Nat.pow_add,← Nat.mul_assoc,Nat.mul_div_cancel _ (Nat.two_pow_pos _),Nat.mul_mod_left]
  rfl
 ·have h3:=Nat.two_pow_pos (b.e+40000).toNat
  rw [if_neg h,show (l+40000).toNat=(l - b.e).toNat+(b.e+40000).toNat by omega,Nat.pow_add,Nat.mul_div_mul_right _ _ h3,Nat.mul_mod_mul_right]
  refine Prod.ext rfl ?_
  show decide _=decide _
  congr 1
  refine propext ⟨fun h4 h5 => ?_,fun h4 h5=>h4 ?_⟩
  ·rcases Nat.mul_eq_zero.1 h5 with h6 | h6
   ·exact h4 h6
   ·omega
  ·rw [h5,Nat.zero_mul]
theorem Je {d:Rd} {k:Nat} (h : -16384≤d.e) (n:Nat) (hn:n=(d.e+16384).toNat+k):zI d*2 ^ k=bk d.neg (ab d.m*2 ^ n):=by
 subst hn
 have h1:(mg d:Int)*2 ^ k=((ab d.m*2 ^ ((d.e+16384).toNat+k):Nat):Int):=by
  unfold mg
  rw [Nat.pow_add,← Nat.mul_assoc,Int.natCast_mul _ (2 ^ k),Int.natCast_pow]
  rfl
 unfold zI bk
 cases d.neg with
 | true=>rw [if_pos rfl,if_pos rfl,Int.neg_mul,h1]
 | false=>rw [if_neg Bool.false_ne_true,if_neg Bool.false_ne_true,h1]
theorem QC {a b:Rd} {p:Int} (h:b.e < lX a b p):2 < aK a - aK b∧lX a b p≤aK a - p - 8:=by
 unfold lX at h ⊢
 by_cases h1:aK a - aK b≤2
 ·rw [if_pos h1] at h
  split at h <;> omega
 ·rw [if_neg h1]
  split <;> omega
theorem L9 {a b:Rd} (oa:Ok0 a) (ob:Ok0 b) (va:vd a=true) (vb:vd b=true) (na:a.m.length ≠ 0) (nb:b.m.length ≠ 0) {p:Int} {up:Bool} (hp:8≤p∧p≤512) (ht:aK b≤aK a) :
  Jc a b p up=kK (zI a+zI b) (-16384) p up:=by
 have e1:=ia va na
 have e2:=ia vb nb
 obtain ⟨a1,a2,a3,a4⟩:=dS va oa.lb
 obtain ⟨b1,b2,b3,b4⟩:=dS vb ob.lb
 have l1:=D0 (a:=a) (b:=b) (p:=p)
 have l2:=AK va vb oa.lb ob.lb na nb hp ht
 have l3:=QC (a:=a) (b:=b) (p:=p)
 have ba:=cS (cU va na)
 have bb:=cS (cU vb nb)
 show Jd a.neg p up (qj a b p)=_
 rw [D4]
 obtain ⟨l,hl⟩:∃ l,lX a b p=l:=⟨_,rfl⟩
 rw [hl] at l1 l2 l3 ⊢
 obtain ⟨K,hK⟩:∃ K,(l+40000).toNat=K:=⟨_,rfl⟩
 obtain ⟨n1,hn1⟩:∃ n,(a.e - l).toNat=n:=⟨_,rfl⟩
 obtain ⟨n2,hn2⟩:∃ n,(b.e+40000).toNat=n:=⟨_,rfl⟩
 have hx:ab a.m*2 ^ n1 ≠ 0:=Nat.mul_ne_zero (cU va na) (Nat.pos_iff_ne_zero.1 (Nat.two_pow_pos _))
 rw [aaQ (by omega) (by omega),hK,hn1,hn2]
 have bx:af (ab a.m*2 ^ n1)=af (ab a.m)+n1:=cT _ (cU va na)
 have by':af (ab b.m*2 ^ n2 / 2 ^ K)=af (ab b.m)+n2 - K:=by rw [di,cT _ (cU vb nb)]
 have hlK:l = -40000+(K:Int):=by omega
 rw [hlK,Tb hx]
 ·obtain ⟨k,hk⟩:∃ k:Nat,k=23616:=⟨_,rfl⟩
  rw [Nat.mul_assoc,← Nat.pow_add,← Je (k:=k) a2 (n1+K) (by omega),← Je (k:=k) b2 n2 (by omega),← Int.add_mul,Fh,show (-40000:Int)+(k:Nat) = -16384 by omega]
 ·intro hne
  have hb:b.e < l:=by
   refine Int.not_le.1 fun h=>hne ?_
   rw [show n2=(b.e - l).toNat+K by omega,Nat.pow_add,← Nat.mul_assoc,Nat.mul_mod_left]
  obtain ⟨g1,g2⟩:=l3 hb
  obtain ⟨X,hX⟩:∃ X,ab a.m*2 ^ n1=X:=⟨_,rfl⟩
  obtain ⟨Y,hY⟩:∃ Y,ab b.m*2 ^ n2 / 2 ^ K=Y:=⟨_,rfl⟩
  rw [hX] at bx ⊢
  rw [hY] at by' ⊢
  obtain ⟨t,hT⟩:∃ t,af X=t+4:=⟨af X - 4,by omega⟩
  have hX2:2 ^ (t+3)≤X:=iK.1 (by omega)
  have hY2:Y < 2 ^ (t+1):=bh.1 (by omega)
  have q1:2 ^ (t+3)=4*2 ^ (t+1):=by rw [Nat.pow_succ,Nat.pow_succ]; omega
  have q2:2 ^ (t+2)=2*2 ^ (t+1):=by rw [Nat.pow_succ]; omega
  have g3:t+2 < af (X - (Y+1)):=iK.2 (by omega)
  have g4:t+3 < af (X+Y):=iK.2 (by omega)
  exact ⟨by omega,by omega,by omega⟩
def kL (a b:Rd) (p:Int) (up:Bool):Rd × Int:=if bj p [a,b]=0 then kK (zI a+zI b) (-16384) p up else (aH,bj p [a,b])
def aep (a b:Rd) (p:Int) (up:Bool):Rd × Int:=if bj p [a,b]=0 then kK (zI a*zI b) (-32768) p up else (aH,bj p [a,b])
theorem iL {d:Rd} (h:d.m.length=0):zI d=0:=by
 unfold zI
 rw [DX h]
 split <;> rfl
theorem VT {p:Int} {up:Bool} (hp:8≤p∧p≤512):gC 0 0 false p up=(aH,0):=by
 have hu : -600≤cL 0 0 p∧cL 0 0 p≤0:=by
  unfold cL
  rw [kH]
  split <;> omega
 unfold gC
 obtain ⟨u,he⟩:∃ u,cL 0 0 p=u:=⟨_,rfl⟩
 rw [he] at hu ⊢
 have hq:ic up (kJ 0 0 false u)=0:=by
  unfold kJ ic
  rw [if_pos (show u≤0 by omega),Nat.zero_mul,Bool.and_false,if_neg Bool.false_ne_true]
 unfold oB
 rw [hq,kH,if_neg (by omega)]
 unfold aV dj
 rw [if_pos rfl,if_pos (by decide)]
theorem Fi {d:Rd} (ok:Ok0 d) {p:Int} {up:Bool}:pS d p up=if bj p [d]=0 then kK (zI d) (-16384) p up else (aH,bj p [d]):=by
 unfold pS
 by_cases h0:bj p [d]=0
 ·obtain ⟨v1,v2,v3⟩:=pT h0
  have v4:vd d=true:=by simpa using v1
  obtain ⟨h1,h2,h3,h4⟩:=dS v4 ok.lb
  rw [if_pos h0,if_pos h0]
  by_cases hd:d.m.length=0
  ·have hz:=qU v4 hd
   subst hz
   rw [iL rfl,kK,if_pos rfl]
   show hJ false (gC 0 0 false p (up != false))=_
   rw [VT ⟨v2,v3⟩]
   rfl
  ·have hv:=cU v4 hd
   have hm:=Qx v4 hd
   unfold zI
   rw [D6 (by omega)]
   unfold mg
   rw [Fg hv,show -16384+(((d.e+16384).toNat:Nat):Int)=d.e by omega]
 ·rw [if_neg h0,if_neg h0]
theorem VU {a b:Rd} (oa:Ok0 a) (ob:Ok0 b) {p:Int} {up:Bool}:D5 a b p up=kL a b p up:=by
 unfold D5 kL
 by_cases h0:bj p [a,b]=0
 ·obtain ⟨v1,hp⟩:=pT h0
  have v4:vd a=true∧vd b=true:=by simpa using v1
  have f1:∀ d,vd d=true→bj p [d]=0:=fun d hd=>by
   unfold bj
   rw [if_pos (by simpa using hd),if_pos hp]
  rw [if_pos h0,if_pos h0]
  by_cases a0:a.m.length=0
  ·rw [if_pos a0,Fi ob,if_pos (f1 b v4.2),iL a0,Int.zero_add]
  rw [if_neg a0]
  by_cases b0:b.m.length=0
  ·rw [if_pos b0,Fi oa,if_pos (f1 a v4.1),iL b0,Int.add_zero]
  rw [if_neg b0]
  by_cases ht:aK a < aK b
  ·rw [if_pos ht,L9 ob oa v4.2 v4.1 b0 a0 hp (by omega),Int.add_comm]
  ·rw [if_neg ht,L9 oa ob v4.1 v4.2 a0 b0 hp (by omega)]
 ·rw [if_neg h0,if_neg h0]
end Go.Ab
namespace Go.Ab
open Go Go.IntWalk
set_option maxRecDepth 4000
theorem fB {neg:Bool} {M:Nat} {e:Int} (h:M ≠ 0):aV neg M e=⟨neg,ap (M / 2 ^ tz M),e+tz M⟩:=by
 unfold aV
 rw [if_neg h]
theorem cC {neg:Bool} {e:Int}:aV neg 0 e=aH:=by
 unfold aV
 rw [if_pos rfl]
theorem qO {neg:Bool} {M k:Nat} {e:Int}:aV neg (M*2 ^ k) e=aV neg M (e+k):=by
 by_cases h:M=0
 ·rw [h,Nat.zero_mul,cC,cC]
 ·have h2:M*2 ^ k ≠ 0:=Nat.mul_ne_zero h (Nat.pos_iff_ne_zero.1 (Nat.two_pow_pos k))
  rw [fB h,fB h2,Nat.mul_comm M,BS k h,Nat.pow_add,Nat.mul_div_mul_left _ _ (Nat.two_pow_pos k)]
  rw [show e+((k+tz M:Nat):Int)=e+k+tz M by omega]
theorem o6 {neg:Bool} {M:Nat} {e:Int} (h:M ≠ 0):ab (aV neg M e).m=M / 2 ^ tz M∧(aV neg M e).e=e+tz M∧M / 2 ^ tz M % 2=1∧af (M / 2 ^ tz M)+tz M=af M:=by
 obtain ⟨h1,h2⟩:=m9 h
 refine ⟨?_,?_,h2,?_⟩
 ·rw [fB h]
  exact aD _
 ·rw [fB h]
 ·have h3:=cT (n:=M / 2 ^ tz M) (tz M) (by omega)
  rw [Nat.mul_comm,← h1] at h3
  exact h3.symm
theorem Jf {neg:Bool} {M:Nat} {e:Int} (h:M ≠ 0) (h1:af M≤4096) (h2 : -16384≤e) (h3:(af M:Nat)+e≤16384):iS (af (ab (aV neg M e).m)) (aV neg M e).e=true:=by
 obtain ⟨g1,g2,g3,g4⟩:=o6 (neg:=neg) (e:=e) h
 rw [g1,g2]
 have g5:0 < af (M / 2 ^ tz M):=cS (by omega)
 unfold iS
 rw [decide_eq_true (p:=af (M / 2 ^ tz M)≤4096) (by omega),decide_eq_true (p := -16384≤e+(tz M:Int)) (by omega),decide_eq_true (p:=e+(tz M:Int)≤16384) (by omega),decide_eq_true (p:=((af (M / 2 ^ tz M):Nat):Int)+(e+(tz M:Int))≤16384) (by omega)]
 simp
theorem x6 {neg:Bool} {M:Nat} {e:Int} (h:iS (af (ab (aV neg M e).m)) (aV neg M e).e=true):vd (aV neg M e)=true:=by
 by_cases h0:M=0
 ·subst h0
  rw [cC]
  rfl
 ·obtain ⟨g1,g2,g3,g4⟩:=o6 (neg:=neg) (e:=e) h0
  have hn:M / 2 ^ tz M ≠ 0:=by omega
  rw [g1] at h
  have hb:=(x4 h (Nat.pos_iff_ne_zero.1 (cS hn))).1
  rw [fB h0] at h ⊢
  unfold vd
  have hl:(ap (M / 2 ^ tz M)).length≤128:=aJ (by omega)
  have hl0:(ap (M / 2 ^ tz M)).length ≠ 0:=fun h5=>hn (gg.1 (List.length_eq_zero_iff.1 h5))
  have ht:(ap (M / 2 ^ tz M)).getD ((ap (M / 2 ^ tz M)).length - 1) 0 ≠ 0:=(wR _).resolve_left (fun h5=>hn (gg.1 h5))
  have ho:(ap (M / 2 ^ tz M)).getD 0 0 % 2=1:=by
   rw [lG hn]
   show (M / 2 ^ tz M) % 4294967296 % 2=1
   omega
  rw [aD,if_neg hl0,decide_eq_true (p:=(ap (M / 2 ^ tz M)).length≤256) (by omega),decide_eq_true ho,decide_eq_true ht]
  exact h
theorem Tc {neg:Bool} {M:Nat} {e:Int} (h1:af M≤4096) (h2 : -16384≤e) (h3:(af M:Nat)+e≤16384):dj (aV neg M e)=(aV neg M e,0):=by
 unfold dj
 by_cases h:M=0
 ·subst h
  rw [cC,if_pos (by decide)]
 ·rw [if_pos (Jf h h1 h2 h3)]
theorem Td {M:Nat} {e:Int} (h1:af M≤4096) (h2 : -16384≤e) (h3:(af M:Nat)+e≤16384):oC (aV false M e)=aV true M e:=by
 by_cases h:M=0
 ·subst h
  rw [cC,cC]
  rfl
 ·have hv:=x6 (Jf (neg:=false) h h1 h2 h3)
  obtain ⟨g1,g2,g3,g4⟩:=o6 (neg:=false) (e:=e) h
  unfold oC
  rw [if_neg]
  ·rw [fB h,fB h]
   rfl
  ·intro h5
   rcases h5 with h5 | h5
   ·rw [hv] at h5
    exact Bool.false_ne_true h5.symm
   ·rw [List.length_eq_zero_iff.1 h5] at g1
    have:ab []=0:=rfl
    omega
theorem Ma {neg:Bool} {M:Nat} {e:Int} (h1:af M≤4096) (h2 : -16384≤e) (h3:(af M:Nat)+e≤16384):hJ neg (dj (aV false M e))=(aV neg M e,0):=by
 rw [Tc h1 h2 h3]
 unfold hJ
 cases neg with
 | false=>rw [if_neg (fun h=>Bool.false_ne_true h.2)]
 | true =>
  rw [if_pos ⟨rfl,rfl⟩]
  show (oC (aV false M e),(0:Int))=_
  rw [Td h1 h2 h3]
def AM (M:Nat) (e p:Int):Nat:=(max (max ((af M:Nat) - p) (0 - 16384 - e)) 0).toNat
def Jg (M k:Nat) (more out:Bool):Nat:=if ((more || decide (M % 2 ^ k ≠ 0)) && out)=true then M / 2 ^ k+1 else M / 2 ^ k
def uS (neg out:Bool) (p:Int) (q:Nat) (e:Int):Rd × Int:=if q ≠ 0∧16384 < (af q:Nat)+e then (if out=true then (aH,9) else (aV neg (2 ^ p.toNat - 1) (16384 - p),0)) else (aV neg q e,0)
def mn (neg:Bool) (M:Nat) (e:Int) (more:Bool) (p:Int) (up:Bool):Rd × Int:=uS neg (neg != up) p (Jg M (AM M e p) more (neg != up)) (e+AM M e p)
theorem Jh {p:Int} {neg up:Bool} {q:Nat} {u:Int} (hp:8≤p∧p≤512) (hq:af q≤4096) (hu : -16384≤u) (h0:q=0→u≤16384):hJ neg (oB p up q u)=uS neg up p q u:=by
 unfold oB uS
 by_cases h:16384 < ((af q:Nat):Int)+u
 ·have hq0:q ≠ 0:=fun h1=>by
   have:=h0 h1
   rw [h1,kH] at h
   omega
  rw [if_pos h,if_pos (show q ≠ 0∧16384 < ((af q:Nat):Int)+u from ⟨hq0,h⟩)]
  cases up with
  | true =>
   rw [if_pos rfl,if_pos rfl]
   unfold hJ
   rw [if_neg (fun h=>nomatch h.1)]
  | false =>
   rw [if_neg Bool.false_ne_true,if_neg Bool.false_ne_true]
   have hb:=AJ p.toNat
   rw [Ma (by omega) (by omega) (by omega)]
 ·rw [if_neg h,if_neg (fun h2=>h h2.2),Ma hq hu (by omega)]
theorem Oe {neg out:Bool} {p:Int} {M k:Nat} {e:Int}:uS neg out p (M*2 ^ k) e=uS neg out p M (e+k):=by
 unfold uS
 rw [qO]
 by_cases h:M=0
 ·rw [h,Nat.zero_mul,if_neg (fun h=>h.1 rfl),if_neg (fun h=>h.1 rfl)]
 ·have h2:M*2 ^ k ≠ 0:=Nat.mul_ne_zero h (Nat.pos_iff_ne_zero.1 (Nat.two_pow_pos k))
  have h3:(M*2 ^ k ≠ 0∧16384 < ((af (M*2 ^ k):Nat):Int)+e)=(M ≠ 0∧16384 < ((af M:Nat):Int)+(e+k)):=by
   rw [cT _ h]
   exact propext ⟨fun h4=>⟨h,by omega⟩,fun h4=>⟨h2,by omega⟩⟩
  simp only [h3]
theorem xk (q:Nat):af (q+1)≤af q+1:=by
 rw [bh,Nat.pow_succ]
 have:=bh.1 (Nat.le_refl (af q))
 have:=Nat.two_pow_pos (af q)
 omega
theorem QD {neg:Bool} {M:Nat} {e p:Int} {more up:Bool} (hp:8≤p∧p≤512) (hM:M ≠ 0) (hm:more=true→p < (af M:Nat)):mn neg M e more p up=hJ neg (gC M e more p (up != neg)):=by
 have hx:(neg != up)=(up != neg):=by cases neg <;> cases up <;> rfl
 have hb:=cS hM
 unfold mn
 rw [hx]
 unfold gC
 obtain ⟨u,hu⟩:∃ u,cL M e p=u:=⟨_,rfl⟩
 obtain ⟨k,hk⟩:∃ k,AM M e p=k:=⟨_,rfl⟩
 rw [hu,hk]
 unfold cL at hu
 unfold AM at hk
 have hu1 : -16384≤u∧e+(af M:Nat) - p≤u:=by
  split at hu <;> omega
 by_cases hc:u≤e
 ·have hk0:k=0:=by
   split at hu <;> omega
  have hmf:more=false:=by
   cases more with
   | false=>rfl
   | true=>have:=hm rfl; omega
  subst hk0
  subst hmf
  unfold kJ Jg
  rw [if_pos hc,Nat.pow_zero,Nat.mod_one,show (false || decide ((0:Nat) ≠ 0))=false from rfl,Bool.false_and,if_neg Bool.false_ne_true,Nat.div_one]
  unfold ic
  rw [Bool.and_false,if_neg Bool.false_ne_true]
  have hq:=cT (e - u).toNat hM
  rw [Jh hp (by rw [hq]; omega) hu1.1 (fun h=>absurd (Nat.mul_eq_zero.1 h) (fun h2=>h2.elim hM (fun h3=>absurd h3 (Nat.pos_iff_ne_zero.1 (Nat.two_pow_pos _)))))]
  rw [Oe,show u+(((e - u).toNat:Nat):Int)=e+((0:Nat):Int) by omega]
 ·have hk0:k=(u - e).toNat:=by
   split at hu <;> omega
  unfold kJ Jg
  rw [if_neg hc,← hk0]
  have hq:af (M / 2 ^ k)≤513:=by
   rw [di]
   omega
  have hq2:=xk (M / 2 ^ k)
  have h3:ic (up != neg) (M / 2 ^ k,more || decide (M % 2 ^ k ≠ 0))=if ((more || decide (M % 2 ^ k ≠ 0)) && (up != neg))=true then M / 2 ^ k+1 else M / 2 ^ k:=by
   unfold ic
   rw [Bool.and_comm]
  rw [h3]
  rw [Jh hp (by split <;> omega) hu1.1]
  ·rw [show e+(k:Int)=u by omega]
  ·intro h4
   split at h4
   ·exact absurd h4 (Nat.succ_ne_zero _)
   ·refine Int.not_lt.1 fun h5 => ?_
    have h6:af (M / 2 ^ k)=0:=by rw [h4]; rfl
    rw [di] at h6
    split at hu <;> omega
theorem Of {neg:Bool} {M:Nat} {e p:Int} {up:Bool} (hp:8≤p∧p≤512):mn neg M e false p up=kK (bk neg M) e p up:=by
 by_cases hM:M=0
 ·subst hM
  have:bk neg 0=0:=by cases neg <;> rfl
  rw [this,kK,if_pos rfl]
  unfold mn Jg uS
  rw [Nat.zero_mod,Nat.zero_div]
  rw [show (false || decide ((0:Nat) ≠ 0))=false from rfl,Bool.false_and,if_neg Bool.false_ne_true,if_neg (fun h=>h.1 rfl),cC]
 ·rw [QD hp hM (fun h=>absurd h Bool.false_ne_true)]
  unfold bk
  rw [D6 hM]
theorem Yb {z f p:Int} {up:Bool}:vd (kK z f p up).1=true∧Ok0 (kK z f p up).1:=by
 have h0:vd aH=true∧Ok0 aH:=⟨rfl,⟨fun x hx=>(nomatch hx),by decide⟩⟩
 have hc:∀ (q:Nat) (u:Int),vd (dj (aV false q u)).1=true∧Ok0 (dj (aV false q u)).1:=fun q u=>by
  unfold dj
  by_cases h:iS (af (ab (aV false q u).m)) (aV false q u).e=true
  ·rw [if_pos h]
   have hv:=x6 h
   have hb:=o4 false q u
   exact ⟨hv,hb,Nat.lt_of_le_of_lt (tL hv hb) (by decide)⟩
  ·rw [if_neg h]
   exact h0
 have he:∀ (up:Bool) (q:Nat) (u:Int),vd (oB p up q u).1=true∧Ok0 (oB p up q u).1:=fun up q u=>by
  unfold oB
  split
  ·split
   ·exact h0
   ·exact hc _ _
  ·exact hc _ _
 have hs:∀ (neg:Bool) (r:Rd × Int),(vd r.1=true∧Ok0 r.1)→vd (hJ neg r).1=true∧Ok0 (hJ neg r).1:=fun neg r hr=>by
  unfold hJ oC
  split
  ·show vd (if vd r.1=false∨r.1.m.length=0 then aH else ⟨!r.1.neg,r.1.m,r.1.e⟩)=true∧Ok0 (if vd r.1=false∨r.1.m.length=0 then aH else ⟨!r.1.neg,r.1.m,r.1.e⟩)
   split
   ·exact h0
   ·rename_i h5
    have h6:r.1.m.length ≠ 0:=fun h7=>h5 (Or.inr h7)
    refine ⟨?_,hr.2.1,hr.2.2⟩
    have h7:=hr.1
    unfold vd at h7 ⊢
    rw [if_neg h6] at h7 ⊢
    exact h7
  ·exact hr
 unfold kK
 split
 ·exact h0
 ·exact hs _ _ (he _ _ _)
end Go.Ab
namespace Go.Ab
open Go Go.IntWalk
set_option maxRecDepth 4000
def jE:Cmd := .seq (.ops [2,3,4,8,11,12] [⟨(some 52),none,.load 3 true (.t 4)⟩,⟨(some 53),none,.load 3 true (.t 5)⟩,cm 54 2,⟨(some 55),none,.call (.c (.fn F.round_sum [] [])) [(.t 52),(.t 53),(.t 54)]⟩,cm 51 55,co 56 (.ext 0 (.t 51)),co 57 (.ext 1 (.t 51)),⟨(some 11),none,.alloc [.emp,(.v (.int .i64 0)),(.v (.bool false))]⟩,⟨none,none,.store 3 (.t 11) (.t 56)⟩,cm 12 57]) (.seq (.seq (.ops [2,3,4,8,11,12,66] [co 58 (.fadr 0 (.t 11)),⟨(some 59),none,.load 1 false (.t 58)⟩,co 60 (.len false (.t 59)),co 61 (.bin .eql (.t 60) (.c (.v (.int .i64 0)))),cm 62 61,cg 63 62 true (.fadr 2 (.t 11)),⟨(some 64),(some (62,true)),.load 1 false (.t 63)⟩,cg 65 62 true (.un .not (.t 64)),co 66 (.pick (.t 62) (.t 65) (.c (.v (.bool false))))]) (.cond (.t 66) (.seq (.ops [8,9] [co 67 (.build [(.v (.bool false)),.emp,(.v (.int .i64 0))] []),⟨none,none,.store 3 (.t 8) (.t 67)⟩,co 9 (.mv (.c (.v (.int .i64 0))))]) (.ret)) (.skip))) (.seq (.ops [8,9] [co 68 (.fadr 0 (.t 4)),⟨(some 69),none,.load 1 false (.t 68)⟩,cm 70 12,co 71 (.eqc true 0 (.t 69) (.t 70)),⟨(some 72),none,.load 3 true (.t 11)⟩,cm 73 2,cm 74 3,⟨(some 75),none,.call (.c (.fn F.round_signed [] [])) [(.t 71),(.t 72),(.t 73),(.t 74)]⟩,co 76 (.ext 0 (.t 75)),co 77 (.ext 1 (.t 75)),⟨none,none,.store 3 (.t 8) (.t 76)⟩,cm 9 77]) (.ret)))
theorem pU:mf = .seq (.ops [2,3,4,5,8] [⟨(some 4),none,.box 3 (.t 0)⟩,⟨(some 5),none,.box 3 (.t 1)⟩,⟨(some 8),none,.alloc [(.v (.bool false)),.emp,(.v (.int .i64 0))]⟩,co 9 (.mv (.c (.v (.int .i64 0))))]) (.seq (.seq (.ops [2,3,4,5,8,10] [cm 13 2,⟨(some 14),none,.load 3 true (.t 4)⟩,⟨(some 15),none,.load 3 true (.t 5)⟩,⟨(some 16),none,.buildSl 3 [(.v (.bool false)),.emp,(.v (.int .i64 0))] 2 [(0,(.t 14)),(1,(.t 15))]⟩,⟨(some 17),none,.call (.c (.fn F.round_fault [] [])) [(.t 13),(.t 16)]⟩,cm 10 17]) (.seq (.ops [2,3,4,5,8,10,19] [cm 18 10,co 19 (.bin .neq (.t 18) (.c (.v (.int .i64 0))))]) (.cond (.t 19) (.seq (.ops [8,9] [co 20 (.build [(.v (.bool false)),.emp,(.v (.int .i64 0))] []),cm 21 10,⟨none,none,.store 3 (.t 8) (.t 20)⟩,cm 9 21]) (.ret)) (.skip)))) (.seq (.block 0 [2,3,4,5,8] (.seq (.ops [2,3,4,5,8,22] [co 23 (.fadr 1 (.t 4)),⟨(some 24),none,.load 1 false (.t 23)⟩,co 25 (.len false (.t 24)),co 26 (.bin .eql (.t 25) (.c (.v (.int .i64 0)))),cm 22 26]) (.cond (.t 22) (.seq (.ops [8,9] [⟨(some 27),none,.load 3 true (.t 5)⟩,cm 28 2,cm 29 3,⟨(some 30),none,.call (.c (.fn F.round_round [] [])) [(.t 27),(.t 28),(.t 29)]⟩,co 31 (.ext 0 (.t 30)),co 32 (.ext 1 (.t 30)),⟨none,none,.store 3 (.t 8) (.t 31)⟩,cm 9 32]) (.ret)) (.seq (.ops [2,3,4,5,8,33] [co 34 (.fadr 1 (.t 5)),⟨(some 35),none,.load 1 false (.t 34)⟩,co 36 (.len false (.t 35)),co 37 (.bin .eql (.t 36) (.c (.v (.int .i64 0)))),cm 33 37]) (.cond (.t 33) (.seq (.ops [8,9] [⟨(some 38),none,.load 3 true (.t 4)⟩,cm 39 2,cm 40 3,⟨(some 41),none,.call (.c (.fn F.round_round [] [])) [(.t 38),(.t 39),(.t 40)]⟩,co 42 (.ext 0 (.t 41)),co 43 (.ext 1 (.t 41)),⟨none,none,.store 3 (.t 8) (.t 42)⟩,cm 9 43]) (.ret)) (.skip)))))) (.seq (.seq (.dops [2,3,4,5,8,48] [⟨(some 44),none,.load 3 true (.t 4)⟩,⟨(some 45),none,.call (.c (.fn F.dyadic_Top [] [])) [(.t 44)]⟩,⟨(some 46),none,.load 3 true (.t 5)⟩,⟨(some 47),none,.call (.c (.fn F.dyadic_Top [] [])) [(.t 46)]⟩,co 48 (.bin .lss (.t 45) (.t 47))] [(1,2)]) (.cond (.t 48) (.ops [2,3,4,5,8] [⟨(some 49),none,.load 3 true (.t 5)⟩,⟨(some 50),none,.load 3 true (.t 4)⟩,⟨none,none,.store 3 (.t 4) (.t 49)⟩,⟨none,none,.store 3 (.t 5) (.t 50)⟩]) (.skip))) jE))):=rfl
theorem VV {a b:Rd} (oa:Ok0 a) (ob:Ok0 b) (va:vd a=true) (vb:vd b=true) (na:a.m.length ≠ 0) (nb:b.m.length ≠ 0) {p:Int} (hp:8≤p∧p≤512) (ht:aK b≤aK a) :
  af (qj a b p).1.1≤4120 ∧ -40000≤(qj a b p).1.2.1∧(qj a b p).1.2.1≤40000:=by
 have e1:=ia va na
 have e2:=ia vb nb
 obtain ⟨a1,a2,a3,a4⟩:=dS va oa.lb
 obtain ⟨b1,b2,b3,b4⟩:=dS vb ob.lb
 have l1:=D0 (a:=a) (b:=b) (p:=p)
 have l2:=AK va vb oa.lb ob.lb na nb hp ht
 have ba:=cS (cU va na)
 have bb:=cS (cU vb nb)
 rw [D4]
 obtain ⟨l,hl⟩:∃ l,lX a b p=l:=⟨_,rfl⟩
 rw [hl] at l1 l2 ⊢
 have hX:af (ab a.m*2 ^ (a.e - l).toNat)≤4100:=by
  rw [cT _ (cU va na)]
  omega
 have hY:af (yZ b l).1≤4100:=by
  unfold yZ
  split
  ·rw [cT _ (cU vb nb)]
   omega
  ·show af (_ / _)≤_
   rw [di]
   omega
 generalize (yZ b l).1=Y at hY ⊢
 generalize (yZ b l).2=lost
 generalize ab a.m*2 ^ (a.e - l).toNat=X at hX ⊢
 have hU:af (kg (Y,lost))≤4101:=by
  unfold kg
  split
  ·have:=xk Y
   show af (Y+1)≤4101
   omega
  ·show af Y≤4101
   omega
 have hm:∀ x y:Nat,x≤y→af y≤4101→af x≤4101:=fun x y h1 h2=>Qw h1 h2
 generalize hYU:kg (Y,lost)=YU at hU
 unfold D3
 rw [hYU]
 split
 ·have:=rO hX hY
  exact ⟨Nat.le_trans this (by decide),by show -40000≤l; omega,by show l≤40000; omega⟩
 ·split
  ·exact ⟨Nat.le_trans (hm _ _ (Nat.sub_le _ _) hU) (by decide),by show -40000≤l; omega,by show l≤40000; omega⟩
  ·exact ⟨Nat.le_trans (hm _ _ (Nat.sub_le _ _) (Nat.le_trans hX (by decide))) (by decide),by show -40000≤l; omega,by show l≤40000; omega⟩
theorem Fj {a b:Rd} (oa:Ok0 a) (ob:Ok0 b) (va:vd a=true) (vb:vd b=true) (na:a.m.length ≠ 0) (nb:b.m.length ≠ 0) {n:Nat} {up:Bool} (hp:8≤n∧n≤512) (ht:aK b≤aK a) (s:aj) (h:ac)
  (h2:s 2=I (n:Nat)) (h3:s 3=B up) (h4:s 4 = .ref 4 none 0 0 0) (h5:s 5 = .ref 5 none 0 0 0) (h8:s 8 = .ref 8 none 0 0 0)
  (k4:h 4 = .bx (am a)) (k5:h 5 = .bx (am b)) (k8:h 8 = .bx [.v (.bool false),.emp,.v (.int .i64 0)]) (kd:∀ i,i ≠ 4→i ≠ 5→i ≠ 8→i ≠ 16→h i = .dead) :
  iY false [[.o 0 [],.o 2 [],.o 0 []],[]] [.cell 8 3 true,.t 9] 0 (ak R (ae false) jE s h)=some (rV (Jc a b (n:Nat) up),[]):=by
 have hs:=Ya oa ob va vb na nb (p:=(n:Nat)) ⟨by omega,by omega⟩ ht
 obtain ⟨g1,g2,g3⟩:=VV oa ob va vb na nb (p:=(n:Nat)) ⟨by omega,by omega⟩ ht
 have hl:(ap (qj a b (n:Nat)).1.1).length≤256:=aJ (by omega)
 have hg:=fun neg up=>Ff (M:=ap (qj a b (n:Nat)).1.1) (e:=(qj a b (n:Nat)).1.2.1) (n:=n) (more:=(qj a b (n:Nat)).1.2.2) (up:=up) (neg:=neg) (aL _) hl ⟨g2,g3⟩ hp
 unfold Jc
 generalize qj a b (n:Nat)=z at hs g1 g2 g3 hl hg ⊢
 obtain ⟨⟨M,l,more⟩,t⟩:=z
 simp only [sV,ai,am,oz] at hs hg k4 k5
 simp only [aD] at hg
 have hw:=hg (a.neg != t) up
 generalize hr:hJ (a.neg != t) (gC M l more (n:Nat) (up != (a.neg != t)))=r at hw
 simp only [rV,ai,am] at hw
 by_cases hM:M=0
 ·have e1:(((ap M).length:Int)=0)=True:=tt (by rw [hM,cO]; rfl)
  cases more with
  | false =>
   rw [if_pos ⟨hM,rfl⟩]
   clear hr
   simp only [jE,rV,ai,am,aH,go_sem,↓reduceIte,alS,alU,alT,alV,ne_eq,not_false_eq_true,h2,h3,h4,h5,h8,k4,k5,k8,kd,hs,e1]
  | true =>
   rw [if_neg (fun h=>Bool.false_ne_true h.2.symm)]
   rw [show hJ (a.neg != t) (gC M l true (n:Nat) (up != (a.neg != t)))=r from hr]
   clear hr
   simp only [jE,rV,ai,am,go_sem,↓reduceIte,alS,alU,alT,alV,ne_eq,not_false_eq_true,h2,h3,h4,h5,h8,k4,k5,k8,kd,hs,e1,jD,hw]
 ·have e1:(((ap M).length:Int)=0)=False:=ff (fun h=>hM (gg.1 (List.length_eq_zero_iff.1 (by omega))))
  rw [if_neg (fun h=>hM h.1)]
  rw [show hJ (a.neg != t) (gC M l more (n:Nat) (up != (a.neg != t)))=r from hr]
  clear hr
  simp only [jE,rV,ai,am,go_sem,↓reduceIte,alS,alU,alT,alV,ne_eq,not_false_eq_true,h2,h3,h4,h5,h8,k4,k5,k8,kd,hs,e1,jD,hw]
theorem Te {a b:Rd} (oa:Ok0 a) (ob:Ok0 b) {p:Int} {up:Bool} (h0:bj p [a,b]=0) (a0:a.m.length ≠ 0) (b0:b.m.length ≠ 0):R F.round_add [ai a,ai b,I p,B up] []=some (rV (D5 a b p up),[]):=by
 refine aB zg zf (tC false) rfl ?_
 have hf:R F.round_fault [I p,.sl 3 [[B a.neg,lm a.m,I a.e],[B b.neg,lm b.m,I b.e]]] []=some (I (bj p [a,b]),[]):=AH (p:=p) (l:=[a,b]) (fun x hx=>by
  rcases List.mem_cons.1 hx with h | h
  ·rw [h]; exact oa
  ·rw [List.mem_singleton.1 h]; exact ob) (show 2≤100000 by decide)
 rw [h0] at hf
 obtain ⟨v1,hp⟩:=pT h0
 have v4:vd a=true∧vd b=true:=by simpa using v1
 obtain ⟨va,vb⟩:=v4
 have ta:=tJ oa
 have tb:=tJ ob
 simp only [ai,am] at ta tb
 obtain ⟨n,rfl⟩:=Int.eq_ofNat_of_zero_le (show 0≤p by omega)
 have e1:((a.m.length:Int)=0)=False:=ff (by omega)
 have e2:((b.m.length:Int)=0)=False:=ff (by omega)
 unfold D5
 rw [if_pos h0,if_neg a0,if_neg b0]
 by_cases ht:aK a < aK b
 ·have e3:(aK a < aK b)=True:=tt ht
  rw [if_pos ht]
  simp only [eV,pU,ai,am,go_sem,↓reduceIte,alS,alU,alT,alV,alW,alX,hf,e1,e2,ta,tb,e3]
  refine Fj ob oa vb va b0 a0 (by omega) (by omega) _ _ rfl rfl rfl rfl rfl rfl rfl rfl fun i h4 h5 h8 h16 => ?_
  simp only [cY,h4,h5,h8,h16,if_false]
 ·have e3:(aK a < aK b)=False:=ff ht
  rw [if_neg ht]
  simp only [eV,pU,ai,am,go_sem,↓reduceIte,alS,alU,alT,alV,alW,alX,hf,e1,e2,ta,tb,e3]
  refine Fj oa ob va vb a0 b0 (by omega) (by omega) _ _ rfl rfl rfl rfl rfl rfl rfl rfl fun i h4 h5 h8 h16 => ?_
  simp only [cY,h4,h5,h8,h16,if_false]
theorem Mb {a b:Rd} (oa:Ok0 a) (ob:Ok0 b) {p:Int} {up:Bool}:R F.round_add [ai a,ai b,I p,B up] []=some (rV (kL a b p up),[]):=by
 rw [← VU oa ob]
 by_cases h0:bj p [a,b]=0
 ·by_cases a0:a.m.length=0
  ·exact AL oa ob (Or.inr (Or.inl a0))
  ·by_cases b0:b.m.length=0
   ·exact AL oa ob (Or.inr (Or.inr b0))
   ·exact Te oa ob h0 a0 b0
 ·exact AL oa ob (Or.inl h0)
theorem Tf {a b:Rd} (oa:Ok0 a) (ob:Ok0 b) {p:Int}:R F.round_AddUp [ai a,ai b,I p] []=some (rV (kL a b p true),[]):=by
 refine aB Gh Gg (zS false) rfl ?_
 have hr:=Mb oa ob (p:=p) (up:=true)
 generalize kL a b p true=r at hr ⊢
 simp only [rV,ai,am] at hr
 simp only [ls,vk,rV,ai,am,go_sem,↓reduceIte,alS,alU,alT,alV,hr]
theorem Og {a b:Rd} (oa:Ok0 a) (ob:Ok0 b) {p:Int}:R F.round_AddDown [ai a,ai b,I p] []=some (rV (kL a b p false),[]):=by
 refine aB B3 B2 (wV false) rfl ?_
 have hr:=Mb oa ob (p:=p) (up:=false)
 generalize kL a b p false=r at hr ⊢
 simp only [rV,ai,am] at hr
 simp only [jf,sg,rV,ai,am,go_sem,↓reduceIte,alS,alU,alT,alV,hr]
def qk (d:Rd) (p:Int) (up:Bool):Rd × Int:=if bj p [d]=0 then kK (zI d) (-16384) p up else (aH,bj p [d])
end Go.Ab
namespace Go.Ab
open Go Go.IntWalk
set_option maxRecDepth 4000
structure Ri where
 lo:Rd
 hi:Rd
 all:Bool
def bu (x:Ri):List AV:=[B x.lo.neg,lm x.lo.m,I x.lo.e,B x.hi.neg,lm x.hi.m,I x.hi.e,B x.all]
def bv (x:Ri):AV := .agg (bu x)
def qr:Ri:=⟨aH,aH,true⟩
structure OkI (x:Ri):Prop where
 lo:Ok0 x.lo
 hi:Ok0 x.hi
def z0 (d:Rd):Bool := !d.neg && (decide (d.m.length=0) && decide (d.e=0))
def vi (x:Ri):Bool:=if x.all=true then z0 x.lo && z0 x.hi else vd x.lo && (vd x.hi && decide (zI x.lo≤zI x.hi))
def kI (x:Ri):Bool := !x.all && vi x
def kM (p:Int):Bool:=decide (8≤p) && decide (p≤512)
theorem UB {d:Rd}:R F.interval_Valid_1 [ai d] []=some (B (z0 d),[]):=by
 refine aB w9 w7 (tD false) rfl ?_
 unfold z0
 cases hn:d.neg with
 | true=>simp only [cG,eW,ai,am,go_sem,↓reduceIte,alS,alU,alT,hn,Bool.not_true,Bool.false_and]
 | false =>
  by_cases h1:d.m.length=0
  ·have e1:((d.m.length:Int)=0)=True:=tt (by omega)
   by_cases h2:d.e=0
   ·have e2:(d.e=0)=True:=tt h2
    rw [decide_eq_true h1,decide_eq_true h2]
    simp only [cG,eW,ai,am,go_sem,↓reduceIte,alS,alU,alT,hn,e1,e2,Bool.not_false,Bool.true_and]
   ·have e2:(d.e=0)=False:=ff h2
    rw [decide_eq_true h1,decide_eq_false h2]
    simp only [cG,eW,ai,am,go_sem,↓reduceIte,alS,alU,alT,hn,e1,e2,Bool.not_false,Bool.true_and]
  ·have e1:((d.m.length:Int)=0)=False:=ff (by omega)
   rw [decide_eq_false h1]
   simp only [cG,eW,ai,am,go_sem,↓reduceIte,alS,alU,alT,hn,e1,Bool.not_false,Bool.true_and,Bool.false_and]
theorem Mc {x y:Int}:(bw x y≤0)=(x≤y):=by
 unfold bw
 refine propext ?_
 split
 ·omega
 ·split <;> omega
theorem QE {x:Ri} (ok:OkI x):R F.interval_Valid [bv x] []=some (B (vi x),[]):=by
 refine aB zX zW (vQ false) rfl ?_
 unfold vi
 have zl:=UB (d:=x.lo)
 have zh:=UB (d:=x.hi)
 have vl:=gx ok.lo
 have vh:=gx ok.hi
 have hc:=VO ok.lo ok.hi
 simp only [ai,am] at zl zh vl vh hc
 cases ha:x.all with
 | true =>
  rw [if_pos rfl]
  cases h1:z0 x.lo with
  | true =>
   rw [h1] at zl
   simp only [cA,eD,bv,bu,go_sem,↓reduceIte,alS,alU,alT,alV,ha,zl,zh,Bool.true_and]
  | false =>
   rw [h1] at zl
   simp only [cA,eD,bv,bu,go_sem,↓reduceIte,alS,alU,alT,alV,ha,zl,Bool.false_and]
 | false =>
  rw [if_neg Bool.false_ne_true]
  cases h1:vd x.lo with
  | false =>
   rw [h1] at vl
   simp only [cA,eD,bv,bu,go_sem,↓reduceIte,alS,alU,alT,alV,ha,vl,Bool.false_and]
  | true =>
   rw [h1] at vl
   cases h2:vd x.hi with
   | false =>
    rw [h2] at vh
    simp only [cA,eD,bv,bu,go_sem,↓reduceIte,alS,alU,alT,alV,ha,vl,vh,Bool.true_and,Bool.false_and]
   | true =>
    rw [h2] at vh
    rw [h1,h2,if_pos ⟨rfl,rfl⟩] at hc
    simp only [cA,eD,bv,bu,go_sem,↓reduceIte,alS,alU,alT,alV,ha,vl,vh,hc,Mc,Bool.true_and]
def uT (r s:Rd × Int):Ri:=if r.2=0∧s.2=0 then ⟨r.1,s.1,false⟩ else qr
end Go.Ab
namespace Go.Ab
open Go Go.IntWalk
set_option maxRecDepth 4000
def dB (l:List Ri):List (List AV):=l.map bu
@[go_sem] theorem Md (l:List Ri):(dB l).length=l.length:=by simp [dB]
theorem VW {l:List Ri} {i:Int} {n:Nat} {d:Ri} (hi:i=n) (h:l[n]?=some d):aN (dB l) i=some (.ipt (bu d)):=by
 subst hi
 simp [aN,dB,h]
end Go.Ab
namespace Go.Ab
open Go Go.IntWalk
set_option maxRecDepth 4000
theorem fe:vd aH=true∧Ok0 aH:=⟨rfl,⟨fun x hx=>(nomatch hx),by decide⟩⟩
end Go.Ab
namespace Go.Ab
open Go Go.IntWalk
set_option maxRecDepth 4000
set_option maxHeartbeats 1000000
end Go.Ab
namespace Go.Ab
open Go Go.IntWalk
set_option maxRecDepth 4000
set_option maxHeartbeats 1000000
def pwN (d:Rd) (p:Int) (up:Bool):Nat→Rd × Int→Rd × Int
 | 0,r=>r
 | k+1,r=>if r.2=0 then pwN d p up k (aep r.1 d p up) else r
def pw (d:Rd) (n:Nat) (p:Int) (up:Bool):Rd × Int:=pwN d p up (n - 1) (qk d p up)
end Go.Ab
namespace Go.Ab
open Go Go.IntWalk
set_option maxRecDepth 4000
set_option maxHeartbeats 1000000
theorem VX {d:Rd} (ok:Ok0 d):Ok0 (oC d):=by
 unfold oC
 split
 ·exact fe.2
 ·exact ⟨ok.1,ok.2⟩
def one:Rd:=⟨false,[1],0⟩
end Go.Ab
namespace Go.Ab
open Go Go.IntWalk
set_option maxRecDepth 4000
set_option maxHeartbeats 1000000
def dp (l:List Int):List (List AV):=l.map fun (n:Int)=>[I n]
@[go_sem] theorem VY (l:List Int):(dp l).length=l.length:=by simp [dp]
theorem jP {l:List Int} {i:Int} {n:Nat} {d:Int} (hi:i=n) (h:l[n]?=some d):aN (dp l) i=some (.ipt [I d]):=by
 subst hi
 simp [aN,dp,h]
theorem Ji {x:Int}:R F.cmp_isNaN_int_ [I x] []=some (B false,[]):=by
 refine aB Ak Aj (vV false) rfl ?_
 simp only [ik,rA,go_sem,↓reduceIte,alS]
theorem QF {x y:Int}:R F.cmp_Compare_int_ [I x,I y] []=some (I (bw x y),[]):=by
 refine aB wX wW (tA false) rfl ?_
 have h1:=Ji (x:=x)
 have h2:=Ji (x:=y)
 unfold bw
 by_cases e1:x < y
 ·have f1:(x < y)=True:=tt e1
  rw [if_pos e1]
  simp only [du,gV,go_sem,↓reduceIte,alS,alU,alT,h1,h2,f1]
 ·have f1:(x < y)=False:=ff e1
  rw [if_neg e1]
  by_cases e2:y < x
  ·have f2:(y < x)=True:=tt e2
   rw [if_pos e2]
   simp only [du,gV,go_sem,↓reduceIte,alS,alU,alT,h1,h2,f1,f2]
  ·have f2:(y < x)=False:=ff e2
   rw [if_neg e2]
   simp only [du,gV,go_sem,↓reduceIte,alS,alU,alT,h1,h2,f1,f2]
def rP:List Int→List Int→Int
 | [],[]=>0
 | [],_::_ => -1
 | _::_,[]=>1
 | x::xs,y::ys=>if bw x y=0 then rP xs ys else bw x y
theorem Tg {a b:List Int} (hl:a.length=b.length) (h2:a.length≤100000):∀ (k i:Nat),i+k=a.length→∀ (s:aj) (h:ac),s 0 = .sl 1 (dp a)→s 1 = .sl 1 (dp b)→s 9 = .sl 1 (dp a)→s 10=I a.length→s 11=I i →
  ∃ hh,au 0 [0,1] (aq (ak R (ae false) b8) [0,1,9,10,11] [] s h)=if rP (a.drop i) (b.drop i)=0 then some (.normal,⟨upd (upd (fun _ => .any) 1 (.sl 1 (dp b))) 0 (.sl 1 (dp a)),fun _ => .dead⟩) else some (.ret,⟨upd (fun _ => .any) 4 (I (rP (a.drop i) (b.drop i))),hh⟩):=by
 intro k
 induction k with
 | zero =>
  intro i hi s h h0 h1 h9 h10 h11
  have e1:((i:Int) < a.length)=False:=ff (by omega)
  rw [List.drop_eq_nil_of_le (by omega),List.drop_eq_nil_of_le (by omega),ao]
  refine ⟨fun _ => .dead,?_⟩
  show _=if (0:Int)=0 then _ else _
  rw [if_pos rfl]
  simp only [b8,go_sem,↓reduceIte,alS,h0,h1,h9,h10,h11,e1]
 | succ k ih =>
  intro i hi s h h0 h1 h9 h10 h11
  have hlt:i < a.length:=by omega
  have hlt2:i < b.length:=by omega
  have e1:((i:Int) < a.length)=True:=tt (by omega)
  have e4:((b.length:Int)≤(i:Int))=False:=ff (by omega)
  have e2:aN (dp a) (i:Int)=some (.ipt [I a[i]]):=jP rfl (List.getElem?_eq_getElem hlt)
  have e3:aN (dp b) (i:Int)=some (.ipt [I b[i]]):=jP rfl (List.getElem?_eq_getElem hlt2)
  have e5:IntKind.i64.wrap ((i:Int)+1)=((i+1:Nat):Int):=wi (by omega) (by omega)
  rw [List.drop_eq_getElem_cons hlt,List.drop_eq_getElem_cons hlt2,ao]
  have ih':=ih (i+1) (by omega)
  have hc:=QF (x:=a[i]) (y:=b[i])
  generalize a[i]=x at e2 hc ⊢
  generalize b[i]=y at e3 hc ⊢
  generalize aq _ _ _=L at ih' ⊢
  unfold rP
  by_cases hz:bw x y=0
  ·have e6:(bw x y=0)=True:=tt hz
   simp only [if_pos hz]
   simp only [b8,go_sem,↓reduceIte,alS,alU,alT,h0,h1,h9,h10,h11,e1,e2,e3,e4,e5,hc,e6]
   exact ih' _ _ rfl rfl rfl rfl rfl
  ·have e6:(bw x y=0)=False:=ff hz
   simp only [if_neg hz]
   refine ⟨?hh,?_⟩
   rotate_left
   simp only [b8,go_sem,↓reduceIte,alS,alU,alT,h0,h1,h9,h10,h11,e1,e2,e3,e4,hc,e6]
   rfl
theorem Oh {a b:List Int} (hl:a.length=b.length) (h2:a.length≤100000):R F.slices_Compare_int_int_ [.sl 1 (dp a),.sl 1 (dp b)] []=some (I (rP a b),[]):=by
 refine aB qL qK (oW false) rfl ?_
 have h3:=Tg hl h2 a.length 0 (Nat.zero_add _)
 simp only [List.drop_zero,Int.natCast_zero] at h3
 by_cases hz:rP a b=0
 ·simp only [if_pos hz] at h3
  have e1:((a.length:Int) < b.length)=False:=ff (by omega)
  simp only [ck,fQ,go_sem,↓reduceIte,alS]
  rw [(h3 _ _ rfl rfl rfl rfl rfl).choose_spec,hz]
  simp only [go_sem,↓reduceIte,alS,e1]
 ·simp only [if_neg hz] at h3
  simp only [ck,fQ,go_sem,↓reduceIte,alS]
  rw [(h3 _ _ rfl rfl rfl rfl rfl).choose_spec]
  simp only [go_sem,↓reduceIte]
def bl:List Int→Int
 | []=>0
 | x::l=>x+bl l
def sm (l:List Int):Prop:=l.length≤1000∧∀ x ∈ l,0≤x∧x≤32
theorem AN {l:List Int} {i:Nat} (h:i < l.length):bl (l.take (i+1))=bl (l.take i)+l[i]:=by
 induction l generalizing i with
 | nil=>exact absurd h (Nat.not_lt_zero _)
 | cons a l ih =>
  cases i with
  | zero=>simp [bl]
  | succ i =>
   have:=ih (i:=i) (by simpa using h)
   simp only [List.take_succ_cons,bl,List.getElem_cons_succ]
   rw [this]
   omega
theorem Jj {l:List Int} (h:∀ x ∈ l,0≤x∧x≤32):0≤bl l∧bl l≤32*l.length:=by
 induction l with
 | nil=>exact ⟨Int.le_refl _,Int.le_refl _⟩
 | cons a l ih =>
  have h1:=h a (List.mem_cons_self ..)
  have h2:=ih (fun x hx=>h x (List.mem_cons_of_mem _ hx))
  simp only [bl,List.length_cons]
  omega
theorem Th {a:List Int} (h2:sm a):∀ (k i:Nat),i+k=a.length→∀ (s:aj) (h:ac),s 3=I (bl (a.take i))→s 6 = .sl 1 (dp a)→s 7=I a.length→s 8=I i →
  au 0 [3] (aq (ak R (ae false) je) [3,6,7,8] [] s h)=some (.normal,⟨upd (fun _ => .any) 3 (I (bl a)),fun _ => .dead⟩):=by
 intro k
 induction k with
 | zero =>
  intro i hi s h h3 h6 h7 h8
  have e1:((i:Int) < a.length)=False:=ff (by omega)
  rw [List.take_of_length_le (by omega)] at h3
  rw [ao]
  simp only [je,go_sem,↓reduceIte,alS,h3,h6,h7,h8,e1]
 | succ k ih =>
  intro i hi s h h3 h6 h7 h8
  have hlt:i < a.length:=by omega
  obtain ⟨g1,g2⟩:=h2
  have e1:((i:Int) < a.length)=True:=tt (by omega)
  have e2:aN (dp a) (i:Int)=some (.ipt [I a[i]]):=jP rfl (List.getElem?_eq_getElem hlt)
  have e5:IntKind.i64.wrap ((i:Int)+1)=((i+1:Nat):Int):=wi (by omega) (by omega)
  have b1:=Jj (l:=a.take i) (fun x hx=>g2 x (List.mem_of_mem_take hx))
  have b2:=g2 a[i] (List.getElem_mem hlt)
  have b3:(a.take i).length≤1000:=by simp only [List.length_take]; omega
  have e6:IntKind.i64.wrap (bl (a.take i)+a[i])=bl (a.take (i+1)):=by
   rw [AN hlt]
   exact i64_in _ ⟨by omega,by omega⟩
  have ih':=ih (i+1) (by omega)
  generalize a[i]=x at e2 e6 ⊢
  rw [ao]
  generalize aq _ _ _=L at ih' ⊢
  simp only [je,go_sem,↓reduceIte,alS,h3,h6,h7,h8,e1,e2,e5,e6]
  exact ih' _ _ rfl rfl rfl rfl
theorem pV {a:List Int} (h2:sm a):R F.poly_degree [.sl 1 (dp a)] []=some (I (bl a),[]):=by
 refine aB F4 F3 (zO false) rfl ?_
 have h3:=Th h2 a.length 0 (Nat.zero_add _)
 simp only [List.take_zero,bl,Int.natCast_zero] at h3
 simp only [ll,vj,go_sem,↓reduceIte,alS]
 rw [h3 _ _ rfl rfl rfl rfl]
 simp only [go_sem,↓reduceIte]
def jp (a b:List Int):Int:=if bw (bl a) (bl b)=0 then rP b a else bw (bl a) (bl b)
theorem Ti {a b:List Int} (ha:sm a) (hb:sm b) (hl:a.length=b.length):R F.poly_order [.sl 1 (dp a),.sl 1 (dp b)] []=some (I (jp a b),[]):=by
 refine aB Iw Iv (B0 false) rfl ?_
 have d1:=pV ha
 have d2:=pV hb
 have d3:=QF (x:=bl a) (y:=bl b)
 have d4:=Oh hl.symm (by have:=hb.1; omega)
 unfold jp
 by_cases hz:bw (bl a) (bl b)=0
 ·have e6:(bw (bl a) (bl b)=0)=True:=tt hz
  rw [if_pos hz]
  simp only [jx,rt,go_sem,↓reduceIte,alS,alU,alT,d1,d2,d3,d4,e6]
 ·have e6:(bw (bl a) (bl b)=0)=False:=ff hz
  rw [if_neg hz]
  simp only [jx,rt,go_sem,↓reduceIte,alS,alU,alT,d1,d2,d3,e6]
end Go.Ab
namespace Go.Ab
open Go Go.IntWalk
set_option maxRecDepth 4000
set_option maxHeartbeats 1000000
structure Rt where
 exps:List Int
 c:Rd
structure Rp where
 vars:Int
 terms:List Rt
def cV (t:Rt):List AV:=[.sl 1 (dp t.exps),B t.c.neg,lm t.c.m,I t.c.e]
def cW (l:List Rt):List (List AV):=l.map cV
def a8 (a:Rp):AV := .agg [I a.vars,.sl 4 (cW a.terms)]
@[go_sem] theorem VZ (l:List Rt):(cW l).length=l.length:=by simp [cW]
theorem iM {l:List Rt} {i:Int} {n:Nat} {d:Rt} (hi:i=n) (h:l[n]?=some d):aN (cW l) i=some (.ipt (cV d)):=by
 subst hi
 simp [aN,cW,h]
theorem xn {α:Type} {f:α→α} {l:List α} (h:∀ x ∈ l,f x=x):l.map f=l:=(List.map_congr_left (g:=fun c=>c) h).trans (List.map_id' _)
@[go_sem] theorem ai0 (l:List Rt):(cW l).map (b9 [.o 2 [],.o 0 [],.o 2 [],.o 0 []])=cW l:=by
 refine xn fun x hx => ?_
 simp only [cW,List.mem_map] at hx
 obtain ⟨t,ht,rfl⟩:=hx
 simp only [cV,go_sem]
structure OkT (t:Rt):Prop where
 c:Ok0 t.c
 len:t.exps.length≤100000
structure OkP (a:Rp):Prop where
 t:∀ t ∈ a.terms,OkT t
def oD (e:Int):Bool:=decide (e < 0) || decide (32 < e)
theorem Yc {e:Int}:R F.poly_Valid_1 [I e] []=some (B (oD e),[]):=by
 refine aB Dv Du (yt false) rfl ?_
 unfold oD
 by_cases h:e < 0
 ·have e1:(e < 0)=True:=tt h
  simp only [gT,oO,go_sem,↓reduceIte,alS,e1,decide_true,Bool.true_or]
 ·have e1:(e < 0)=False:=ff h
  simp only [gT,oO,go_sem,↓reduceIte,alS,e1,decide_false,Bool.false_or]
theorem Tj {l:List Int} (h2:l.length≤100000):R F.slices_ContainsFunc_int_int_ [.sl 1 (dp l),.fn F.poly_Valid_1 [] []] []=some (B (l.any oD),[]):=by
 let p:List AV→Bool:=fun row=>match row with | [.v (.int _ e)]=>oD e | _=>false
 have h1:=xe (k:=1) (g:=false) (f:=F.poly_Valid_1) (rows:=dp l) (p:=p) pM pL (oj false) rfl (mF false _) (by rw [VY]; omega) (fun row hr=>by
  simp only [dp,List.mem_map] at hr
  obtain ⟨e,he,rfl⟩:=hr
  refine ⟨I e,rfl,rfl,?_⟩
  simp only [go_sem,Yc,p])
 have h2:=tG (k:=1) oi og (mm false) rfl (mF false _) (oV false) (by simp only [go_sem]) h1
 have h3:(dp l).any p=l.any oD:=by
  unfold dp
  rw [List.any_map]
  rfl
 rw [h3] at h2
 exact h2
def xp (v:Int) (t:Rt):Bool:=decide ((t.exps.length:Int)=v) && (vd t.c && (decide (t.c.m.length ≠ 0) && (!(t.exps.any oD) && decide (bl t.exps≤32))))
def Jk:Option Rt→Rt→Bool
 | none,_=>true
 | some q,t=>decide (jp q.exps t.exps < 0)
def nh (v:Int):Option Rt→List Rt→Bool
 | _,[]=>true
 | pr,t::l=>xp v t && (Jk pr t && nh v (some t) l)
theorem xq {v:Int} {t:Rt} (h:xp v t=true):(t.exps.length:Int)=v∧vd t.c=true∧t.c.m.length ≠ 0∧t.exps.any oD=false∧bl t.exps≤32:=by
 unfold xp at h
 simpa using h
theorem o7 {l:List Int} (h:l.any oD=false):∀ x ∈ l,0≤x∧x≤32:=by
 intro x hx
 have h1:=List.any_eq_false.1 h x hx
 unfold oD at h1
 simp only [Bool.or_eq_true,decide_eq_true_eq,not_or] at h1
 omega
theorem V0 {a:Rp} (ok:OkP a) (hv:a.vars≤8) (h2:a.terms.length≤500):∀ (k i:Nat),i+k=a.terms.length→∀ (pr:Option Rt),(i=0→pr=none)→(0 < i→∃ q,pr=some q∧a.terms[i - 1]?=some q∧xp a.vars q=true) →
  ∀ (s:aj) (h:ac),s 1 = .ref 1 none 0 0 0→s 20 = .sl 4 (cW a.terms)→s 21=I a.terms.length→s 22=I i→h 1 = .bx [I a.vars,.sl 4 (cW a.terms)] →
  ∃ hh,au 0 [] (aq (ak R (ae false) bQ) [1,20,21,22] [1] s h)=if nh a.vars pr (a.terms.drop i)=true then some (.normal,⟨fun _ => .any,hh⟩) else some (.ret,⟨upd (fun _ => .any) 2 (B false),hh⟩):=by
 intro k
 induction k with
 | zero =>
  intro i hi pr p0 p1 s h h1 h20 h21 h22 k1
  have e1:((i:Int) < a.terms.length)=False:=ff (by omega)
  rw [List.drop_eq_nil_of_le (by omega),ao]
  refine ⟨?hh0,?_⟩
  rotate_left
  show _=if true=true then _ else _
  rw [if_pos rfl]
  simp only [bQ,go_sem,↓reduceIte,alS,alX,h1,h20,h21,h22,k1,e1]
  rfl
 | succ k ih =>
  intro i hi pr p0 p1 s h h1 h20 h21 h22 k1
  have hlt:i < a.terms.length:=by omega
  have e1:((i:Int) < a.terms.length)=True:=tt (by omega)
  have e2:aN (cW a.terms) (i:Int)=some (.ipt (cV a.terms[i])):=iM rfl (List.getElem?_eq_getElem hlt)
  have e5:IntKind.i64.wrap ((i:Int)+1)=((i+1:Nat):Int):=wi (by omega) (by omega)
  have okt:=ok.t a.terms[i] (List.getElem_mem hlt)
  have hnext:a.terms[i+1 - 1]?=some a.terms[i]:=List.getElem?_eq_getElem hlt
  rw [List.drop_eq_getElem_cons hlt,ao]
  have ih':=ih (i+1) (by omega) (some a.terms[i]) (fun h=>absurd h (Nat.succ_ne_zero _))
  generalize a.terms[i]=t at e2 okt ih' hnext ⊢
  generalize aq _ _ _=L at ih' ⊢
  have hvd:=gx okt.c
  have hct:=Tj okt.len
  simp only [cV] at e2
  simp only [ai,am] at hvd
  unfold nh
  cases hb:xp a.vars t with
  | false =>
   simp only [Bool.false_and,if_neg Bool.false_ne_true]
   unfold xp at hb
   by_cases c1:(t.exps.length:Int)=a.vars
   ·have f1:((t.exps.length:Int)=a.vars)=True:=tt c1
    rw [decide_eq_true c1,Bool.true_and] at hb
    cases c2:vd t.c with
    | false =>
     rw [c2] at hvd
     refine ⟨?hh2,?_⟩
     rotate_left
     simp only [bQ,go_sem,↓reduceIte,alS,alU,alT,alV,alX,h1,h20,h21,h22,k1,e1,e2,f1,hvd]
     rfl
    | true =>
     rw [c2] at hvd hb
     rw [Bool.true_and] at hb
     by_cases c3:t.c.m.length=0
     ·have f3:((t.c.m.length:Int)=0)=True:=tt (by omega)
      refine ⟨?hh3,?_⟩
      rotate_left
      simp only [bQ,go_sem,↓reduceIte,alS,alU,alT,alV,alX,h1,h20,h21,h22,k1,e1,e2,f1,hvd,f3]
      rfl
     ·have f3:((t.c.m.length:Int)=0)=False:=ff (by omega)
      rw [decide_eq_true c3,Bool.true_and] at hb
      cases c4:t.exps.any oD with
      | true =>
       rw [c4] at hct
       refine ⟨?hh4,?_⟩
       rotate_left
       simp only [bQ,go_sem,↓reduceIte,alS,alU,alT,alV,alX,h1,h20,h21,h22,k1,e1,e2,f1,hvd,f3,hct]
       rfl
      | false =>
       rw [c4] at hct hb
       rw [Bool.not_false,Bool.true_and] at hb
       have hdg:=pV (a:=t.exps) ⟨by omega,o7 c4⟩
       have f5:(32 < bl t.exps)=True:=tt (by have:=of_decide_eq_false hb; omega)
       refine ⟨?hh5,?_⟩
       rotate_left
       simp only [bQ,go_sem,↓reduceIte,alS,alU,alT,alV,alX,h1,h20,h21,h22,k1,e1,e2,f1,hvd,f3,hct,hdg,f5]
       rfl
   ·have f1:((t.exps.length:Int)=a.vars)=False:=ff c1
    refine ⟨?hh1,?_⟩
    rotate_left
    simp only [bQ,go_sem,↓reduceIte,alS,alU,alT,alV,alX,h1,h20,h21,h22,k1,e1,e2,f1]
    rfl
  | true =>
   obtain ⟨c1,c2,c3,c4,c5⟩:=xq hb
   have f1:((t.exps.length:Int)=a.vars)=True:=tt c1
   rw [c2] at hvd
   have f3:((t.c.m.length:Int)=0)=False:=ff (by omega)
   rw [c4] at hct
   have hdg:=pV (a:=t.exps) ⟨by omega,o7 c4⟩
   have f5:(32 < bl t.exps)=False:=ff (by omega)
   simp only [Bool.true_and]
   by_cases hi0:i=0
   ·have f6:(0 < (i:Int))=False:=ff (by omega)
    rw [p0 hi0]
    simp only [Jk,Bool.true_and]
    simp only [bQ,go_sem,↓reduceIte,alS,alU,alT,alV,alX,h1,h20,h21,h22,k1,e1,e2,f1,hvd,f3,hct,hdg,f5,f6,e5]
    exact ih' (fun _=>⟨t,rfl,hnext,hb⟩) _ _ rfl rfl rfl rfl rfl
   ·have f6:(0 < (i:Int))=True:=tt (by omega)
    obtain ⟨q,q1,q2,q3⟩:=p1 (by omega)
    obtain ⟨d1,d2,d3,d4,d5⟩:=xq q3
    rw [q1]
    have e7:IntKind.i64.wrap ((i:Int) - 1)=((i - 1:Nat):Int):=wi (by omega) (by omega)
    have e8:aN (cW a.terms) ((i - 1:Nat):Int)=some (.ipt (cV q)):=iM rfl q2
    simp only [cV] at e8
    have ho:=Ti (a:=q.exps) (b:=t.exps) ⟨by omega,o7 d4⟩ ⟨by omega,o7 c4⟩ (by omega)
    simp only [Jk]
    by_cases c6:jp q.exps t.exps < 0
    ·have f7:(0≤jp q.exps t.exps)=False:=ff (by omega)
     simp only [decide_eq_true c6,Bool.true_and]
     simp only [bQ,go_sem,↓reduceIte,alS,alU,alT,alV,alW,alX,h1,h20,h21,h22,k1,e1,e2,f1,hvd,f3,hct,hdg,f5,f6,e5,e7,e8,ho,f7]
     exact ih' (fun _=>⟨t,rfl,hnext,hb⟩) _ _ rfl rfl rfl rfl rfl
    ·have f7:(0≤jp q.exps t.exps)=True:=tt (by omega)
     simp only [decide_eq_false c6,Bool.false_and,if_neg Bool.false_ne_true]
     refine ⟨?hh7,?_⟩
     rotate_left
     simp only [bQ,go_sem,↓reduceIte,alS,alU,alT,alV,alW,alX,h1,h20,h21,h22,k1,e1,e2,f1,hvd,f3,hct,hdg,f5,f6,e7,e8,ho,f7]
     rfl
def vp (a:Rp):Bool:=decide (0≤a.vars) && (decide (a.vars≤8) && (decide (a.terms.length≤500) && nh a.vars none a.terms))
theorem xr {a:Rp} (ok:OkP a):R F.poly_Valid [a8 a] []=some (B (vp a),[]):=by
 refine aB Ij Ii (BW false) rfl ?_
 unfold vp
 by_cases c1:0≤a.vars
 ·have f1:(a.vars < 0)=False:=ff (by omega)
  rw [decide_eq_true c1,Bool.true_and]
  by_cases c2:a.vars≤8
  ·have f2:(8 < a.vars)=False:=ff (by omega)
   rw [decide_eq_true c2,Bool.true_and]
   by_cases c3:a.terms.length≤500
   ·have f3:(500 < (a.terms.length:Int))=False:=ff (by omega)
    rw [decide_eq_true c3,Bool.true_and]
    have h3:=V0 ok c2 c3 a.terms.length 0 (Nat.zero_add _) none (fun _=>rfl) (fun h=>absurd h (Nat.lt_irrefl _))
    simp only [List.drop_zero,Int.natCast_zero] at h3
    cases hb:nh a.vars none a.terms with
    | true =>
     rw [hb] at h3
     simp only [] at h3
     simp only [eh,iu,a8,go_sem,↓reduceIte,alS,alU,alT,f1,f2,f3]
     rw [(h3 _ _ rfl rfl rfl rfl rfl).choose_spec]
     simp only [go_sem,↓reduceIte]
    | false =>
     rw [hb] at h3
     simp only [if_neg Bool.false_ne_true] at h3
     simp only [eh,iu,a8,go_sem,↓reduceIte,alS,alU,alT,f1,f2,f3]
     rw [(h3 _ _ rfl rfl rfl rfl rfl).choose_spec]
     simp only [go_sem,↓reduceIte]
   ·have f3:(500 < (a.terms.length:Int))=True:=tt (by omega)
    rw [decide_eq_false c3,Bool.false_and]
    simp only [eh,iu,a8,go_sem,↓reduceIte,alS,alU,alT,f1,f2,f3]
  ·have f2:(8 < a.vars)=True:=tt (by omega)
   rw [decide_eq_false c2,Bool.false_and]
   simp only [eh,iu,a8,go_sem,↓reduceIte,alS,alU,alT,f1,f2]
 ·have f1:(a.vars < 0)=True:=tt (by omega)
  rw [decide_eq_false c1,Bool.false_and]
  simp only [eh,iu,a8,go_sem,↓reduceIte,alS,alU,alT,f1]
end Go.Ab
namespace Go.Ab
open Go Go.IntWalk
set_option maxRecDepth 4000
set_option maxHeartbeats 1000000
@[go_sem] theorem ai1 (l:List Ri):(dB l).map (b9 [.o 0 [],.o 2 [],.o 0 [],.o 0 [],.o 2 [],.o 0 [],.o 0 []])=dB l:=by
 refine xn fun x hx => ?_
 simp only [dB,List.mem_map] at hx
 obtain ⟨t,ht,rfl⟩:=hx
 simp only [bu,go_sem]
theorem Oi {x:Ri} (ok:OkI x):R F.bound_domain_1 [bv x] []=some (B (!kI x),[]):=by
 refine aB zZ zY (vR false) rfl ?_
 have hv:=QE ok
 simp only [bv,bu] at hv
 unfold kI
 cases h1:vi x with
 | false =>
  rw [h1] at hv
  rw [Bool.and_false]
  simp only [fG,mP,bv,bu,go_sem,↓reduceIte,alS,alU,alT,alV,hv,Bool.not_false]
 | true =>
  rw [h1] at hv
  rw [Bool.and_true,Bool.not_not]
  simp only [fG,mP,bv,bu,go_sem,↓reduceIte,alS,alU,alT,alV,hv]
theorem Tk {l:List Ri} (ok:∀ x ∈ l,OkI x) (h2:l.length≤100000):R F.slices_ContainsFunc_api_Interval_api_Interval_ [.sl 7 (dB l),.fn F.bound_domain_1 [] []] []=some (B (l.any fun x => !kI x),[]):=by
 let p:List AV→Bool:=fun row=>match row with | [.v (.bool n1),.sl _ m1,.v (.int _ e1),.v (.bool n2),.sl _ m2,.v (.int _ e2),.v (.bool a)] => !kI ⟨⟨n1,m1.map (fun r=>match r with | [.v (.int _ x)]=>x.toNat | _=>0),e1⟩,⟨n2,m2.map (fun r=>match r with | [.v (.int _ x)]=>x.toNat | _=>0),e2⟩,a⟩ | _=>false
 have hmm:∀ m:List Nat,(aC m).map (fun r=>match r with | [.v (.int _ x)]=>x.toNat | _=>0)=m:=fun m=>by
  unfold aC
  rw [List.map_map]
  exact (List.map_congr_left (g:=fun c=>c) fun x _=>by simp).trans (List.map_id' _)
 have hp:∀ x:Ri,p (bu x) = !kI x:=fun x=>by
  show (!kI ⟨⟨x.lo.neg,(aC x.lo.m).map _,x.lo.e⟩,⟨x.hi.neg,(aC x.hi.m).map _,x.hi.e⟩,x.all⟩)=_
  rw [hmm,hmm]
 have h1:=xe (k:=7) (g:=true) (f:=F.bound_domain_1) (rows:=dB l) (p:=p) dm dk (cR false) rfl (mF false _) (by rw [Md]; omega) (fun row hr=>by
  simp only [dB,List.mem_map] at hr
  obtain ⟨x,hx,rfl⟩:=hr
  have hd:=Oi (ok x hx)
  refine ⟨bv x,rfl,rfl,?_⟩
  rw [hp]
  simp only [bv,bu] at hd
  simp only [bv,bu,go_sem,hd])
 have h2:=tG (k:=7) cQ cP (cB false) rfl (mF false _) (df false) (by simp only [go_sem]) h1
 have h3:(dB l).any p=l.any fun x => !kI x:=by
  unfold dB
  rw [List.any_map]
  congr 1
  funext x
  exact hp x
 rw [h3] at h2
 exact h2
def rQ (a:Rp) (dom:List Ri):Bool:=vp a && (decide ((dom.length:Int)=a.vars) && !(dom.any fun x => !kI x))
theorem QG {a:Rp} {dom:List Ri} (oa:OkP a) (od:∀ x ∈ dom,OkI x) (h2:dom.length≤100000):R F.bound_domain [a8 a,.sl 7 (dB dom)] []=some (B (rQ a dom),[]):=by
 refine aB Dy Dx (yu false) rfl ?_
 have hv:=xr oa
 have hc:=Tk od h2
 simp only [a8] at hv
 unfold rQ
 cases h1:vp a with
 | false =>
  rw [h1] at hv
  rw [Bool.false_and]
  simp only [fm,lr,a8,go_sem,↓reduceIte,alS,alU,alT,alV,hv]
 | true =>
  rw [h1] at hv
  rw [Bool.true_and]
  by_cases h3:(dom.length:Int)=a.vars
  ·have e3:((dom.length:Int)=a.vars)=True:=tt h3
   rw [decide_eq_true h3,Bool.true_and]
   simp only [fm,lr,a8,go_sem,↓reduceIte,alS,alU,alT,alV,hv,e3,hc]
  ·have e3:((dom.length:Int)=a.vars)=False:=ff h3
   rw [decide_eq_false h3,Bool.false_and]
   simp only [fm,lr,a8,go_sem,↓reduceIte,alS,alU,alT,alV,hv,e3]
theorem V1 {a:Rp} {dom:List Ri} (oa:OkP a) (od:∀ x ∈ dom,OkI x) (h2:dom.length≤100000) {p:Int}:R F.bound_fits [a8 a,.sl 7 (dB dom),I p] []=some (B (rQ a dom && kM p),[]):=by
 refine aB Ir Iq (BY false) rfl ?_
 have hd:=QG oa od h2
 simp only [a8] at hd
 unfold kM
 cases h1:rQ a dom with
 | false =>
  rw [h1] at hd
  rw [Bool.false_and]
  simp only [gG,nJ,a8,go_sem,↓reduceIte,alS,alU,alT,alV,hd]
 | true =>
  rw [h1] at hd
  rw [Bool.true_and]
  by_cases h3:8≤p
  ·have e3:(8≤p)=True:=tt h3
   simp only [gG,nJ,a8,go_sem,↓reduceIte,alS,alU,alT,alV,hd,e3,decide_true,Bool.true_and]
  ·have e3:(8≤p)=False:=ff h3
   simp only [gG,nJ,a8,go_sem,↓reduceIte,alS,alU,alT,alV,hd,e3,decide_false,Bool.false_and]
theorem Tl:R F.bound_whole [] []=some (bv qr,[]):=by
 refine aB FZ FY (zN false) rfl ?_
 simp only [lj,vg,bv,bu,qr,aH,go_sem,↓reduceIte,alS,alU,alT,alV]
end Go.Ab
namespace Go.Ab
open Go Go.IntWalk
set_option maxRecDepth 4000
set_option maxHeartbeats 1000000
theorem V2 {v:Int}:∀ (l:List Rt) (pr:Option Rt),nh v pr l=true→∀ t ∈ l,xp v t=true:=by
 intro l
 induction l with
 | nil=>exact fun pr h t ht=>nomatch ht
 | cons a l ih =>
  intro pr h t ht
  unfold nh at h
  simp only [Bool.and_eq_true] at h
  rcases List.mem_cons.1 ht with h1 | h1
  ·rw [h1]
   exact h.1
  ·exact ih _ h.2.2 t h1
end Go.Ab
namespace Go.Ab
open Go Go.IntWalk
set_option maxRecDepth 4000
set_option maxHeartbeats 1000000
theorem kN {n:Nat} {i:Int} (hi:i=n) (hn:n < 18446744073709551616):cd .and (.v (.int .u64 i)) (.v (.int .u64 4294967295))=some (.v (.int .u64 ((n % 4294967296:Nat):Int))):=by
 subst hi
 rw [LS]
 have e:(BitVec.ofInt IntKind.u64.bits (n:Int) &&& BitVec.ofInt IntKind.u64.bits 4294967295).toNat=n % 4294967296:=by
  show (BitVec.ofInt 64 (n:Int) &&& BitVec.ofInt 64 4294967295).toNat=n % 4294967296
  rw [BitVec.toNat_and]
  have e2:(BitVec.ofInt 64 (n:Int)).toNat=n:=by
   simp
   omega
  rw [e2,show (BitVec.ofInt 64 4294967295).toNat=2 ^ 32 - 1 from by decide,Nat.and_two_pow_sub_one_eq_mod]
 rw [e]
 rw [cf rfl (by omega)]
theorem Jl {n:Nat} {i:Int} (hi:i=n) (hn:n < 4294967296):cd .and (.v (.int .u32 i)) (.v (.int .u32 1))=some (.v (.int .u32 ((n % 2:Nat):Int))):=by
 subst hi
 rw [LS]
 have e:(BitVec.ofInt IntKind.u32.bits (n:Int) &&& BitVec.ofInt IntKind.u32.bits 1).toNat=n % 2:=by
  show (BitVec.ofInt 32 (n:Int) &&& BitVec.ofInt 32 1).toNat=n % 2
  rw [BitVec.toNat_and]
  have e2:(BitVec.ofInt 32 (n:Int)).toNat=n:=by
   simp
   omega
  rw [e2,show (BitVec.ofInt 32 1).toNat=2 ^ 1 - 1 from by decide,Nat.and_two_pow_sub_one_eq_mod]
 rw [e]
 rw [oo rfl (by omega)]
theorem Oj (m:List Nat) (h2:m.length < 4611686018427387904):∀ (n:Nat),n≤m.length→∀ (s:aj) (h:ac),s 0=lm m→s 3=I n →
  au 0 [0,3] (aq (ak R (ae false) vn) [0,3] [] s h)=some (.normal,⟨upd (upd (fun _ => .any) 3 (I (eZ m n))) 0 (lm m),fun _ => .dead⟩):=xf m h2
theorem o8 {m:List Nat} (hb:Lb m) (h:m.length≤10000000):R F.r02_trim [lm m] []=some (lm (ap (ab m)),[]):=by
 refine aB NZ NY (Gl false) rfl ?_
 have h1:kn 1 (lm m) none (some (I (eZ m m.length:Nat))) none=some (lm (ap (ab m))):=by
  rw [tF (a:=0) (b:=eZ m m.length) rfl (mT rfl (mj _ _)) (mj _ _),List.drop_zero,Nat.sub_zero,uF hb]
 have hl:=bS m hb
 have e1:((ap (ab m)).length*4≤140737488355328)=True:=tt (by omega)
 simp only [pm,BJ,go_sem,↓reduceIte,alS,alV,alW,Oj m (by omega) m.length (Nat.le_refl _),h1,AF,e1,List.nil_append,List.length_nil,true_or,Nat.zero_add,Nat.le_refl,List.replicate_zero]
theorem QH:∀ (x b:Nat),x < 4294967296→b+af x≤100000000→∀ (s:aj) (h:ac),s 3=I b→s 4=U x →
  au 0 [3] (aq (ak R (ae false) mw) [3,4] [] s h)=some (.normal,⟨upd (fun _ => .any) 3 (I (b+af x:Nat)),fun _ => .dead⟩):=by
 intro x
 induction x using Nat.strongRecOn with
 | ind x ih =>
  intro b hx hb s h h3 h4
  rw [ao]
  by_cases h0:x=0
  ·have e1:(0 < (x:Int))=False:=ff (by omega)
   rw [h0,kH,Nat.add_zero]
   rw [h0] at e1 h4
   simp only [mw,go_sem,↓reduceIte,alS,h3,h4,e1]
  ·have e1:(0 < (x:Int))=True:=tt (by omega)
   have e2:=uM (n:=x) (k:=1) (kk := .u64) (j:=1) rfl rfl (by omega)
   have e3:IntKind.i64.wrap ((b:Int)+1)=((b+1:Nat):Int):=wi (by omega) (by omega)
   have e4:af x=1+af (x / 2 ^ 1):=by
    have h5:=di x 1
    have h6:=cS h0
    omega
   have ih':=ih (x / 2 ^ 1) (by omega) (b+1) (by omega) (by omega)
   rw [show b+af x=b+1+af (x / 2 ^ 1) by omega]
   generalize aq _ _ _=L at ih' ⊢
   simp only [mw,go_sem,↓reduceIte,alS,h3,h4,e1,e2,e3]
   exact ih' _ _ rfl rfl
theorem Jm {m:List Nat} (hb:Lb m) (h:m.length≤1000000) (hc:pp m):R F.r02_bits [lm m] []=some (I (af (ab m):Nat),[]):=by
 refine aB NR NQ (Gb false) rfl ?_
 by_cases h0:m.length=0
 ·have:m=[]:=List.length_eq_zero_iff.1 h0
  subst this
  simp only [l9,uz,go_sem,↓reduceIte,alS,List.length_nil,Int.natCast_zero,ab,kH]
 ·have e1:((m.length:Int)=0)=False:=ff (by omega)
  have e2:IntKind.i64.wrap ((m.length:Int) - 1)=((m.length - 1:Nat):Int):=wi (by omega) (by omega)
  have e3:IntKind.i64.wrap (32*((m.length - 1:Nat):Int))=((32*(m.length - 1):Nat):Int):=wi (by omega) (by omega)
  have e4:aN (aC m) ((m.length - 1:Nat):Int)=some (.ipt [U (m.getD (m.length - 1) 0:Nat)]):=aS rfl (by omega)
  have hx:=aZ hb (m.length - 1)
  have e5:=QH (m.getD (m.length - 1) 0) (32*(m.length - 1)) hx (by have:=(bh (k:=32)).2 hx; omega)
  have e6:32*(m.length - 1)+af (m.getD (m.length - 1) 0)=af (ab m):=by
   have hne:m ≠ []:=fun h=>h0 (by rw [h]; rfl)
   have h7:=I7 (wQ hc hne)
   rw [oU hb hc] at h7
   exact h7.symm
  rw [e6] at e5
  simp only [l9,uz,go_sem,↓reduceIte,alS,e1,e2,e3,e4]
  rw [e5 _ _ rfl rfl]
  simp only [go_sem,↓reduceIte]
theorem Jn {m:List Nat} (hb:Lb m) (n:Nat):m.getD (n / 32) 0 / 2 ^ (n % 32) % 2=ab m / 2 ^ n % 2:=by
 have h1:ab m / 2 ^ n=ab (m.drop (n / 32)) / 2 ^ (n % 32):=by
  rw [mV hb,Nat.div_div_eq_div_mul,iR]
 rw [h1,dF]
 have hr:n % 32 < 32:=Nat.mod_lt _ (by omega)
 have e:(4294967296:Nat)=2 ^ (n % 32)*(2*2 ^ (31 - n % 32)):=by
  rw [← Nat.pow_succ',← Nat.pow_add,show n % 32+(31 - n % 32+1)=32 by omega]
 generalize ab (m.drop (n / 32+1))=w
 rw [show 4294967296*w=2 ^ (n % 32)*(2*(2 ^ (31 - n % 32)*w)) by
  conv=>lhs; rw [e]
  rw [Nat.mul_assoc,Nat.mul_assoc],Nat.add_mul_div_left _ _ (Nat.two_pow_pos _),Nat.add_mul_mod_self_left]
theorem QI {n:Nat} (h:n ≠ 0) {k:Nat} (hk:k≤tz n):n / 2 ^ k % 2=if k=tz n then 1 else 0:=by
 obtain ⟨h1,h2⟩:=m9 h
 by_cases hh:k=tz n
 ·rw [if_pos hh,hh]
  exact h2
 ·rw [if_neg hh]
  obtain ⟨j,hj⟩:∃ j,tz n=k+(j+1):=⟨tz n - k - 1,by omega⟩
  have h3:n=2 ^ k*(2*(2 ^ j*(n / 2 ^ tz n))):=by
   conv=>lhs; rw [h1,hj]
   rw [Nat.pow_add,Nat.pow_succ,hj,Nat.pow_add,Nat.pow_succ]
   ac_rfl
  rw [h3,Nat.mul_div_cancel_left _ (Nat.two_pow_pos k),Nat.mul_mod_right]
theorem Ol {m:List Nat} (hb:Lb m) (h:m.length≤1000000) (hv:ab m ≠ 0):∀ (k i:Nat),i+k=tz (ab m)→∀ (s:aj) (h:ac),s 0=lm m→s 3=I i →
  au 0 [3] (aq (ak R (ae false) lv) [0,3] [] s h)=some (.normal,⟨upd (fun _ => .any) 3 (I (tz (ab m):Nat)),fun _ => .dead⟩):=by
 have htz:tz (ab m) < 32*m.length:=by
  refine G4 hv ?_
  have:=bD hb
  rw [Nat.pow_mul]
  exact this
 intro k
 induction k with
 | zero =>
  intro i hi s h h0 h3
  have hi':i=tz (ab m):=by omega
  have e1:=lL (n:=i) (m:=32) (j:=32) rfl rfl (by omega) (by omega)
  have e2:=nf (n:=i) (m:=32) (j:=32) rfl rfl (by omega)
  have e3:aN (aC m) ((i / 32:Nat):Int)=some (.ipt [U (m.getD (i / 32) 0:Nat)]):=aS rfl (by omega)
  have hx:=aZ hb (i / 32)
  have e4:IntKind.u64.wrap ((i % 32:Nat):Int)=((i % 32:Nat):Int):=cf rfl (by omega)
  have e5:=uM (n:=m.getD (i / 32) 0) (k:=i % 32) (kk := .u64) (j:=((i % 32:Nat):Int)) rfl rfl (by omega)
  have e6:=Jl (n:=m.getD (i / 32) 0 / 2 ^ (i % 32)) rfl (Nat.lt_of_le_of_lt (Nat.div_le_self _ _) hx)
  have e7:=Jn hb i
  rw [QI hv (by omega),if_pos hi'] at e7
  rw [e7] at e6
  rw [ao]
  rw [← hi']
  simp only [lv,go_sem,↓reduceIte,alS,al0,h0,h3,e1,e2,e3,e4,e5,e6,Int.natCast_one]
 | succ k ih =>
  intro i hi s h h0 h3
  have e1:=lL (n:=i) (m:=32) (j:=32) rfl rfl (by omega) (by omega)
  have e2:=nf (n:=i) (m:=32) (j:=32) rfl rfl (by omega)
  have e3:aN (aC m) ((i / 32:Nat):Int)=some (.ipt [U (m.getD (i / 32) 0:Nat)]):=aS rfl (by omega)
  have hx:=aZ hb (i / 32)
  have e4:IntKind.u64.wrap ((i % 32:Nat):Int)=((i % 32:Nat):Int):=cf rfl (by omega)
  have e5:=uM (n:=m.getD (i / 32) 0) (k:=i % 32) (kk := .u64) (j:=((i % 32:Nat):Int)) rfl rfl (by omega)
  have e6:=Jl (n:=m.getD (i / 32) 0 / 2 ^ (i % 32)) rfl (Nat.lt_of_le_of_lt (Nat.div_le_self _ _) hx)
  have e7:=Jn hb i
  rw [QI hv (by omega),if_neg (by omega)] at e7
  rw [e7] at e6
  have e8:IntKind.i64.wrap ((i:Int)+1)=((i+1:Nat):Int):=wi (by omega) (by omega)
  have ih':=ih (i+1) (by omega)
  rw [ao]
  generalize aq _ _ _=L at ih' ⊢
  simp only [lv,go_sem,↓reduceIte,alS,h0,h3,e1,e2,e3,e4,e5,e6,e8,Int.natCast_zero]
  exact ih' _ _ rfl rfl
theorem QJ {m:List Nat} (hb:Lb m) (h:m.length≤1000000) (hv:ab m ≠ 0):R F.r02_zeros [lm m] []=some (I (tz (ab m):Nat),[]):=by
 refine aB Lj Li (DB false) rfl ?_
 have h3:=Ol hb h hv (tz (ab m)) 0 (Nat.zero_add _)
 simp only [Int.natCast_zero] at h3
 simp only [nW,y6,go_sem,↓reduceIte,alS]
 rw [h3 _ _ rfl rfl]
 simp only [go_sem,↓reduceIte]
end Go.Ab
namespace Go.Ab
open Go Go.IntWalk
set_option maxRecDepth 4000
set_option maxHeartbeats 1000000
theorem QK {a:List Nat} (ha:Lb a) {n q:Nat} (h1:a.length≤100000) (hq:q≤100000):∀ (k i:Nat),i+k=a.length→∀ (s:aj) (h:ac),s 0=lm a→s 1=I (n:Nat)→s 5 = .rsl 11 none 1 0 (q+i)→s 6=W (bT a (n % 32) i:Nat)→s 7=I i →
  h 11 = .ar 1 (aC (List.replicate q 0++ej a (n % 32) i))→h 34 = .dead →
  au 0 [5,6] (aq (ak R (ae false) my) [0,1,5,6,7] [11,34] s h) =
   some (.normal,⟨upd (upd (fun _ => .any) 6 (W (bT a (n % 32) a.length:Nat))) 5 (.rsl 11 none 1 0 (q+a.length)),upd (upd (fun _ => .dead) 34 .dead) 11 (.ar 1 (aC (List.replicate q 0++ej a (n % 32) a.length)))⟩):=by
 intro k
 induction k with
 | zero =>
  intro i hi s h h0 g1 h5 h6 h7 hh hh2
  have:i=a.length:=by omega
  subst this
  rw [ao]
  simp only [my,go_sem,↓reduceIte,alS,alX,h0,g1,h5,h6,h7,hh,hh2,Int.lt_irrefl]
 | succ k ih =>
  intro i hi s h h0 g1 h5 h6 h7 hh hh2
  have ih':=ih (i+1) (by omega)
  have hx:=aZ ha i
  have hr:n % 32 < 32:=Nat.mod_lt _ (by omega)
  have hc:=pP ha (r:=n % 32) i
  have hp:2 ^ (n % 32)≤2 ^ 31:=Nat.pow_le_pow_right (by omega) (by omega)
  have hxp:a.getD i 0*2 ^ (n % 32)≤4294967295*2 ^ 31:=Nat.mul_le_mul (by omega) hp
  have e1:((i:Int) < (a.length:Int))=True:=tt (by omega)
  have e2:aN (aC a) (i:Int)=some (.ipt [U (a.getD i 0:Nat)]):=aS rfl (by omega)
  have e3:IntKind.i64.wrap ((i:Int)+1)=((i+1:Nat):Int):=wi (by omega) (by omega)
  have e4:IntKind.u64.wrap (a.getD i 0:Int)=(a.getD i 0:Int):=cf rfl (by omega)
  have e5:=nf (n:=n) (m:=32) (j:=32) rfl rfl (by omega)
  have e5':IntKind.u64.wrap ((n % 32:Nat):Int)=((n % 32:Nat):Int):=cf rfl (by omega)
  have e6:=xZ (n:=a.getD i 0) (k:=n % 32) (kk := .u64) (j:=((n % 32:Nat):Int)) rfl rfl (by omega) (by omega)
  have e7:=N8 (m:=a.getD i 0*2 ^ (n % 32)) (n:=bT a (n % 32) i) rfl rfl (by omega) (by omega)
  rw [xg hc] at e7
  have e10:=kN (n:=a.getD i 0*2 ^ (n % 32)+bT a (n % 32) i) rfl (by omega)
  have e8:IntKind.u32.wrap (((a.getD i 0*2 ^ (n % 32)+bT a (n % 32) i) % 4294967296:Nat):Int)=(((a.getD i 0*2 ^ (n % 32)+bT a (n % 32) i) % 4294967296:Nat):Int):=oo rfl (by omega)
  have e9:=io (n:=a.getD i 0*2 ^ (n % 32)+bT a (n % 32) i) (k:=32) (kk := .u64) (j:=32) rfl rfl (by omega)
  have f1:aC (List.replicate q 0++ej a (n % 32) i)++[[U ((a.getD i 0*2 ^ (n % 32)+bT a (n % 32) i) % 4294967296:Nat)]]=aC (List.replicate q 0++ej a (n % 32) (i+1)):=by
   rw [show [[U ((a.getD i 0*2 ^ (n % 32)+bT a (n % 32) i) % 4294967296:Nat)]]=aC [(a.getD i 0*2 ^ (n % 32)+bT a (n % 32) i) % 4294967296] from rfl,qM,List.append_assoc]
   simp [ej,List.range_succ]
  have f2:(q+i=(List.replicate q 0++ej a (n % 32) i).length)=True:=tt (by simp [gZ])
  have f3:((q+i+1)*4≤140737488355328)=True:=tt (by omega)
  rw [ao]
  generalize aq _ _ _=L at ih' ⊢
  simp only [my,go_sem,↓reduceIte,alS,alV,alW,alX,h0,g1,h5,h6,h7,hh,hh2,e1,e2,e3,e4,e5,e5',e6,e7,e8,e9,e10,f1,f2,f3,true_or,Nat.zero_add,Nat.le_refl]
  exact ih' _ _ rfl rfl rfl rfl rfl rfl rfl
theorem Jo {a:List Nat} (ha:Lb a) {n:Nat} (h1:a.length≤10000) (hn:n≤100000):R F.r02_left [lm a,I n] []=some (lm (ap (ab a*2 ^ n)),[]):=by
 refine aB NT NS (Gc false) rfl ?_
 have hc:=pP ha (r:=n % 32) a.length
 have hp:2 ^ (n % 32)≤2 ^ 31:=Nat.pow_le_pow_right (by omega) (by have:n % 32 < 32:=Nat.mod_lt _ (by omega); omega)
 have e1:=lL (n:=n) (m:=32) (j:=32) rfl rfl (by omega) (by omega)
 have e4:=fU (i:=((n / 32:Nat):Int)) (j:=((n / 32:Nat):Int)) rfl rfl (Nat.le_refl _) (by omega)
 have e5:(n / 32*4≤140737488355328)=True:=tt (by omega)
 have e6:=QK ha (n:=n) (q:=n / 32) (by omega) (by omega) a.length 0 (by omega)
 have e7:aC (List.replicate (n / 32) 0)=aC (List.replicate (n / 32) 0++ej a (n % 32) 0):=by simp [ej]
 have e8:IntKind.u32.wrap ((bT a (n % 32) a.length:Nat):Int)=((bT a (n % 32) a.length:Nat):Int):=oo rfl (by omega)
 have hall:=DW ha n
 have f1:aC (List.replicate (n / 32) 0++ej a (n % 32) a.length)++[[U (bT a (n % 32) a.length:Nat)]]=aC (bR (n / 32+a.length+1) (ab a*2 ^ n)):=by
  rw [← hall,show [[U (bT a (n % 32) a.length:Nat)]]=aC [bT a (n % 32) a.length] from rfl,qM]
 have f2:(n / 32+a.length=(List.replicate (n / 32) 0++ej a (n % 32) a.length).length)=True:=tt (by simp [gZ])
 have f3:((n / 32+a.length+1)*4≤140737488355328)=True:=tt (by omega)
 have ht:=o8 (gh (n / 32+a.length+1) (ab a*2 ^ n)) (by rw [be]; omega)
 have hv:ab (bR (n / 32+a.length+1) (ab a*2 ^ n))=ab a*2 ^ n:=by
  rw [eI,Nat.mod_eq_of_lt]
  have h:=bD ha
  have h2:2 ^ n≤4294967296 ^ (n / 32+1):=by
   rw [show (4294967296:Nat)=2 ^ 32 from rfl,← Nat.pow_mul]
   exact Nat.pow_le_pow_right (by omega) (by omega)
  rw [show n / 32+a.length+1=a.length+(n / 32+1) from by omega,Nat.pow_add]
  exact Nat.mul_lt_mul_of_lt_of_le h h2 (Nat.pow_pos (by omega))
 rw [hv] at ht
 have f4:(aC (bR (n / 32+a.length+1) (ab a*2 ^ n))).take (n / 32+a.length+1)=aC (bR (n / 32+a.length+1) (ab a*2 ^ n)):=by
  rw [List.take_of_length_le]
  rw [tE,be]
  exact Nat.le_refl _
 simp only [pk,BC,go_sem,↓reduceIte,alS,e1,e4,e5,nc,e7]
 rw [e6 _ _ rfl rfl rfl rfl rfl rfl rfl]
 simp only [go_sem,↓reduceIte,alS,alU,alT,alV,alW,e8,f1,f2,f3,f4,true_or,Nat.zero_add,Nat.le_refl,be,ht]
def iU (d:Nat) (out:List Nat) (x:AV) (o:Ob):Prop:=(out=[]∧x = .emp∧o = .dead)∨(0 < out.length∧x = .rsl d none 1 0 out.length∧o = .ar 1 (aC out))
theorem iN {d v:Nat}:iU d ([]++[v]) (.rsl d none 1 0 1) (.ar 1 [[U (v:Nat)]]):=Or.inr ⟨by simp,rfl,rfl⟩
theorem gy {d v:Nat} {out:List Nat}:iU d (out++[v]) (.rsl d none 1 0 (out.length+1)) (.ar 1 (aC (out++[v]))):=Or.inr ⟨by simp,by rw [List.length_append]; rfl,rfl⟩
theorem fC (out:List Nat) (v:Nat):aC out++[[U (v:Nat)]]=aC (out++[v]):=by simp [aC]
theorem Fk (a:List Nat) (r i:Nat):de a r (i+1)=de a r i++[hH a r i]:=by simp [de,List.range_succ]
theorem Om {a:List Nat} (ha:Lb a) {n:Nat} (h1:a.length≤100000):∀ (k i:Nat),i+k=a.length→∀ (s:aj) (h:ac),s 0=lm a→s 1=I (n:Nat)→s 6=I i→iU 51 (de a (n % 32) i) (s 5) (h 51) →
  ∃ x hh,au 0 [5] (aq (ak R (ae false) cu) [0,1,5,6] [51] s h)=some (.normal,⟨upd (fun _ => .any) 5 x,hh⟩)∧iU 51 (de a (n % 32) a.length) x (hh 51)∧∀ a,a ≠ 51→hh a = .dead:=by
 intro k
 induction k with
 | zero =>
  intro i hi s h h0 g1 h6 hacc
  have:i=a.length:=by omega
  subst this
  rw [ao]
  rcases hacc with ⟨g2,h5,hh⟩ | ⟨g2,h5,hh⟩
  ·refine ⟨.emp,?hh0,?_,Or.inl ⟨g2,rfl,?_⟩,?_⟩
   rotate_left
   ·simp only [cu,go_sem,↓reduceIte,alS,h0,g1,h5,h6,hh,Int.lt_irrefl]
    rfl
   ·rfl
   ·intro b hb
    simp only [cY,hb,if_false]
  ·refine ⟨.rsl 51 none 1 0 (de a (n % 32) a.length).length,?hh1,?_,Or.inr ⟨g2,rfl,?_⟩,?_⟩
   rotate_left
   ·simp only [cu,go_sem,↓reduceIte,alS,alX,h0,g1,h5,h6,hh,Int.lt_irrefl]
    rfl
   ·rfl
   ·intro b hb
    simp only [cY,hb,if_false]
 | succ k ih =>
  intro i hi s h h0 g1 h6 hacc
  have ih':=ih (i+1) (by omega)
  have hx:=aZ ha i
  have hy:=aZ ha (i+1)
  have hr:n % 32 < 32:=Nat.mod_lt _ (by omega)
  have e1:((i:Int) < (a.length:Int))=True:=tt (by omega)
  have e2:aN (aC a) (i:Int)=some (.ipt [U (a.getD i 0:Nat)]):=aS rfl (by omega)
  have e3:IntKind.i64.wrap ((i:Int)+1)=((i+1:Nat):Int):=wi (by omega) (by omega)
  have e4:IntKind.u64.wrap (a.getD i 0:Int)=(a.getD i 0:Int):=cf rfl (by omega)
  have e5:=nf (n:=n) (m:=32) (j:=32) rfl rfl (by omega)
  have e5':IntKind.u64.wrap ((n % 32:Nat):Int)=((n % 32:Nat):Int):=cf rfl (by omega)
  have q1:((de a (n % 32) i).length+1)*4≤140737488355328:=by rw [fV]; omega
  have f3:=tt q1
  have hlt:∀ w:Nat,w < 18446744073709551616→w / 2 ^ (n % 32) < 18446744073709551616:=fun w hw=>Nat.lt_of_le_of_lt (Nat.div_le_self _ _) hw
  rw [ao]
  rw [Fk] at ih'
  generalize aq _ _ _=L at ih' ⊢
  by_cases hl:i+1 < a.length
  ·have f1:(((i+1:Nat):Int) < (a.length:Int))=True:=tt (by omega)
   have f2:aN (aC a) ((i+1:Nat):Int)=some (.ipt [U (a.getD (i+1) 0:Nat)]):=aS rfl hl
   have f5:IntKind.u64.wrap (a.getD (i+1) 0:Int)=(a.getD (i+1) 0:Int):=cf rfl (by omega)
   have f6:=xZ (n:=a.getD (i+1) 0) (k:=32) (kk := .u64) (j:=32) rfl rfl (by omega) (by omega)
   have f7:=N8 (m:=a.getD i 0) (n:=a.getD (i+1) 0*2 ^ 32) rfl rfl (by omega) (by omega)
   rw [Nat.or_comm,xg hx,show a.getD (i+1) 0*2 ^ 32+a.getD i 0=a.getD i 0+4294967296*a.getD (i+1) 0 by omega] at f7
   have f8:=io (n:=a.getD i 0+4294967296*a.getD (i+1) 0) (k:=n % 32) (kk := .u64) (j:=((n % 32:Nat):Int)) rfl rfl (by omega)
   have f9:=kN (n:=(a.getD i 0+4294967296*a.getD (i+1) 0) / 2 ^ (n % 32)) rfl (hlt _ (by omega))
   rw [show (a.getD i 0+4294967296*a.getD (i+1) 0) / 2 ^ (n % 32) % 4294967296=hH a (n % 32) i from rfl] at f9
   have f10:IntKind.u32.wrap ((hH a (n % 32) i:Nat):Int)=((hH a (n % 32) i:Nat):Int):=oo rfl (Nat.mod_lt _ (by omega))
   rcases hacc with ⟨g2,h5,hh⟩ | ⟨g2,h5,hh⟩
   ·simp only [cu,go_sem,↓reduceIte,alS,alU,alT,alV,alW,h0,g1,h5,h6,hh,e1,e2,e3,e4,e5,e5',f1,f2,f5,f6,f7,f8,f9,f10]
    rw [g2] at ih'
    exact ih' _ _ rfl rfl rfl iN
   ·simp only [cu,go_sem,↓reduceIte,alS,alV,alW,alX,h0,g1,h5,h6,hh,e1,e2,e3,e4,e5,e5',f1,f2,f3,f5,f6,f7,f8,f9,f10,true_or,Nat.zero_add,Nat.le_refl,fC]
    exact ih' _ _ rfl rfl rfl gy
  ·have f1:(((i+1:Nat):Int) < (a.length:Int))=False:=ff (by omega)
   have hz:a.getD (i+1) 0=0:=by
    rw [List.getD_eq_getElem?_getD,List.getElem?_eq_none (by omega)]
    rfl
   have f8:=io (n:=a.getD i 0) (k:=n % 32) (kk := .u64) (j:=((n % 32:Nat):Int)) rfl rfl (by omega)
   have f9:=kN (n:=a.getD i 0 / 2 ^ (n % 32)) rfl (hlt _ (by omega))
   rw [show a.getD i 0 / 2 ^ (n % 32) % 4294967296=hH a (n % 32) i by unfold hH; rw [hz,Nat.mul_zero,Nat.add_zero]] at f9
   have f10:IntKind.u32.wrap ((hH a (n % 32) i:Nat):Int)=((hH a (n % 32) i:Nat):Int):=oo rfl (Nat.mod_lt _ (by omega))
   rcases hacc with ⟨g2,h5,hh⟩ | ⟨g2,h5,hh⟩
   ·simp only [cu,go_sem,↓reduceIte,alS,alU,alT,alV,alW,h0,g1,h5,h6,hh,e1,e2,e3,e4,e5,e5',f1,f8,f9,f10]
    rw [g2] at ih'
    exact ih' _ _ rfl rfl rfl iN
   ·simp only [cu,go_sem,↓reduceIte,alS,alV,alW,alX,h0,g1,h5,h6,hh,e1,e2,e3,e4,e5,e5',f1,f3,f8,f9,f10,true_or,Nat.zero_add,Nat.le_refl,fC]
    exact ih' _ _ rfl rfl rfl gy
theorem kO (m:List Nat):(aC m).take m.length=aC m:=by
 rw [List.take_of_length_le]
 rw [tE]
 exact Nat.le_refl _
theorem QL {a:List Nat} (ha:Lb a) {n:Nat} (h1:a.length≤10000) (hn:n≤1000000):R F.r02_right [lm a,I n] []=some (lm (ap (ab a / 2 ^ n)),[]):=by
 refine aB Ll Lk (DC false) rfl ?_
 have e1:=lL (n:=n) (m:=32) (j:=32) rfl rfl (by omega) (by omega)
 by_cases hq:a.length≤n / 32
 ·have e2:((a.length:Int)≤((n / 32:Nat):Int))=True:=tt (by omega)
  have hz:ab a / 2 ^ n=0:=by
   rw [← iR n,← Nat.div_div_eq_div_mul,← mV ha,List.drop_of_length_le hq]
   exact Nat.zero_div _
  rw [hz,cO]
  simp only [kD,sM,go_sem,↓reduceIte,alS,e1,e2]
 ·have e2:((a.length:Int)≤((n / 32:Nat):Int))=False:=ff (by omega)
  have e3:kn 1 (lm a) (some (I (n / 32:Nat))) none none=some (lm (a.drop (n / 32))):=by
   rw [tF (a:=n / 32) (b:=a.length) (mT rfl (by omega)) rfl (Nat.le_refl _),List.take_of_length_le (by rw [List.length_drop]; omega)]
  have hd:=lH ha (n / 32)
  have hl:(a.drop (n / 32)).length≤10000:=by rw [List.length_drop]; omega
  have hv:ab a / 2 ^ n=ab (a.drop (n / 32)) / 2 ^ (n % 32):=by
   rw [mV ha,Nat.div_div_eq_div_mul,iR]
  rw [hv]
  have hr:=Om hd (n:=n) (by omega) (a.drop (n / 32)).length 0 (Nat.zero_add _)
  simp only [Int.natCast_zero] at hr
  have hall:=AD hd (r:=n % 32) (by have:n % 32 < 32:=Nat.mod_lt _ (by omega); omega)
  have hL:=fV (a.drop (n / 32)) (n % 32) (a.drop (n / 32)).length
  have hLb:Lb (de (a.drop (n / 32)) (n % 32) (a.drop (n / 32)).length):=by
   rw [hall]
   exact gh _ _
  have hvv:ab (de (a.drop (n / 32)) (n % 32) (a.drop (n / 32)).length)=ab (a.drop (n / 32)) / 2 ^ (n % 32):=by
   rw [hall,eI,Nat.mod_eq_of_lt]
   exact Nat.lt_of_le_of_lt (Nat.div_le_self _ _) (bD hd)
  generalize a.drop (n / 32)=m at e3 hd hl hr hall hL hLb hvv ⊢
  have ht:=o8 hLb (by rw [hL]; omega)
  rw [hvv] at ht
  have q0:iU 51 (de m (n % 32) 0) .emp .dead:=Or.inl ⟨rfl,rfl,rfl⟩
  generalize hLL:aq (ak R (ae false) cu) [0,1,5,6] [51]=L at hr
  have hX:∀ s h,ak R (ae false) (.loop [0,1,5,6] [51] cu) s h=L s h:=fun s h=>by rw [← hLL]; rfl
  clear hLL
  generalize de m (n % 32) 0=o0 at hr q0
  generalize de m (n % 32) m.length=out at hr hall hL hLb hvv ht
  generalize ap (ab m / 2 ^ (n % 32))=res at ht ⊢
  have hr2:∀ (S:aj) (H:ac) (X:Option (Ex × St)),au 0 [5] (L S H)=X→S 0=lm m→S 1=I n→S 6=I 0→S 5 = .emp→H 51 = .dead→∃ x hh,X=some (.normal,⟨upd (fun _ => .any) 5 x,hh⟩)∧iU 51 out x (hh 51)∧∀ a,a ≠ 51→hh a = .dead:=fun S H X hX a0 a1 a6 a5 b=>by
   rw [← hX]
   exact hr S H a0 a1 a6 (by rw [a5,b]; exact q0)
  simp only [kD,sM,hX,go_sem,↓reduceIte,alS,e1,e2,e3]
  generalize hB:au 0 [5] (L _ _)=X
  obtain ⟨x,hh,g0,hacc,gd⟩:=hr2 _ _ _ hB rfl rfl rfl rfl rfl
  rw [g0]
  rcases hacc with ⟨c1,c2,c3⟩ | ⟨c1,c2,c3⟩
  ·rw [c1] at ht
   simp only [go_sem,↓reduceIte,alS,alU,alT,c2,ht,ne_eq,not_false_eq_true,gd]
  ·simp only [go_sem,↓reduceIte,alS,alU,alT,c2,c3,ht,ne_eq,not_false_eq_true,gd,kO,Nat.zero_add,Nat.le_refl]
end Go.Ab
namespace Go.Ab
open Go Go.IntWalk
set_option maxRecDepth 4000
set_option maxHeartbeats 1000000
theorem qW {m:List Nat} {i:Nat} (h:m.length≤i):m.getD i 0=0:=by
 rw [List.getD_eq_getElem?_getD,List.getElem?_eq_none h]
 rfl
theorem Fl (a b:List Nat) (i:Nat):bV a b (i+1)=bV a b i++[ov a b i]:=by simp [bV,List.range_succ]
theorem Fm (a b:List Nat) (i:Nat):cq a b (i+1)=cq a b i++[ow a b i]:=by simp [cq,List.range_succ]
theorem QM {a b:List Nat} (ha:Lb a) (hb:Lb b) (h1:a.length≤100000) (h2:b.length≤100000):∀ (k i:Nat),i+k=max a.length b.length→∀ (s:aj) (h:ac),s 0=lm a→s 1=lm b→s 6=W (bX a b i:Nat)→s 7=I i→iU 49 (bV a b i) (s 5) (h 49) →
  ∃ x hh,au 0 [5,6] (aq (ak R (ae false) b5) [0,1,5,6,7] [49] s h)=some (.normal,⟨upd (upd (fun _ => .any) 6 (W (bX a b (max a.length b.length):Nat))) 5 x,hh⟩)∧iU 49 (bV a b (max a.length b.length)) x (hh 49)∧∀ a,a ≠ 49→hh a = .dead:=by
 intro k
 induction k with
 | zero =>
  intro i hi s h h0 g1 h6 h7 hacc
  have e1:((i:Int) < (a.length:Int))=False:=ff (by omega)
  have e2:((i:Int) < (b.length:Int))=False:=ff (by omega)
  have:i=max a.length b.length:=by omega
  rw [← this]
  rw [ao]
  rcases hacc with ⟨g2,h5,hh⟩ | ⟨g2,h5,hh⟩
  ·refine ⟨.emp,?hh0,?_,Or.inl ⟨g2,rfl,?_⟩,?_⟩
   rotate_left
   ·simp only [b5,go_sem,↓reduceIte,alS,h0,g1,h5,h6,h7,hh,e1,e2]
    rfl
   ·rfl
   ·intro b hb
    simp only [cY,hb,if_false]
  ·refine ⟨.rsl 49 none 1 0 (bV a b i).length,?hh1,?_,Or.inr ⟨g2,rfl,?_⟩,?_⟩
   rotate_left
   ·simp only [b5,go_sem,↓reduceIte,alS,alX,h0,g1,h5,h6,h7,hh,e1,e2]
    rfl
   ·rfl
   ·intro b hb
    simp only [cY,hb,if_false]
 | succ k ih =>
  intro i hi s h h0 g1 h6 h7 hacc
  have ih':=ih (i+1) (by omega)
  have hx:=aZ ha i
  have hy:=aZ hb i
  have hc:=pN ha hb i
  have e3:IntKind.i64.wrap ((i:Int)+1)=((i+1:Nat):Int):=wi (by omega) (by omega)
  have q1:((bV a b i).length+1)*4≤140737488355328:=by rw [cw]; omega
  have f3:=tt q1
  have e4:IntKind.u64.wrap (a.getD i 0:Int)=(a.getD i 0:Int):=cf rfl (by omega)
  have e5:IntKind.u64.wrap (b.getD i 0:Int)=(b.getD i 0:Int):=cf rfl (by omega)
  have f8:=io (n:=a.getD i 0+b.getD i 0+bX a b i) (k:=32) (kk := .u64) (j:=32) rfl rfl (by omega)
  rw [show (a.getD i 0+b.getD i 0+bX a b i) / 2 ^ 32=bX a b (i+1) from rfl] at f8
  have f9:=kN (n:=a.getD i 0+b.getD i 0+bX a b i) rfl (by omega)
  rw [show (a.getD i 0+b.getD i 0+bX a b i) % 4294967296=ov a b i from rfl] at f9
  have f10:IntKind.u32.wrap ((ov a b i:Nat):Int)=((ov a b i:Nat):Int):=oo rfl (Nat.mod_lt _ (by omega))
  rw [ao]
  rw [Fl] at ih'
  generalize aq _ _ _=L at ih' ⊢
  by_cases hla:i < a.length
  ·have e1:((i:Int) < (a.length:Int))=True:=tt (by omega)
   have e2:aN (aC a) (i:Int)=some (.ipt [U (a.getD i 0:Nat)]):=aS rfl hla
   have w1:IntKind.u64.wrap ((bX a b i:Int)+(a.getD i 0:Int))=((a.getD i 0+bX a b i:Nat):Int):=cf (by omega) (by omega)
   by_cases hlb:i < b.length
   ·have e6:((i:Int) < (b.length:Int))=True:=tt (by omega)
    have e7:aN (aC b) (i:Int)=some (.ipt [U (b.getD i 0:Nat)]):=aS rfl hlb
    have w2:IntKind.u64.wrap (((a.getD i 0+bX a b i:Nat):Int)+(b.getD i 0:Int))=((a.getD i 0+b.getD i 0+bX a b i:Nat):Int):=cf (by omega) (by omega)
    rcases hacc with ⟨g2,h5,hh⟩ | ⟨g2,h5,hh⟩
    ·simp only [b5,go_sem,↓reduceIte,alS,alU,alT,alV,alW,h0,g1,h5,h6,h7,hh,e1,e2,e3,e4,e5,e6,e7,w1,w2,f8,f9,f10]
     rw [g2] at ih'
     exact ih' _ _ rfl rfl rfl rfl iN
    ·simp only [b5,go_sem,↓reduceIte,alS,alV,alW,alX,h0,g1,h5,h6,h7,hh,e1,e2,e3,e4,e5,e6,e7,w1,w2,f3,f8,f9,f10,true_or,Nat.zero_add,Nat.le_refl,fC]
     exact ih' _ _ rfl rfl rfl rfl gy
   ·have e6:((i:Int) < (b.length:Int))=False:=ff (by omega)
    have hz:=qW (m:=b) (i:=i) (by omega)
    have w2:((a.getD i 0+bX a b i:Nat):Int)=((a.getD i 0+b.getD i 0+bX a b i:Nat):Int):=by omega
    rw [w2] at w1
    rcases hacc with ⟨g2,h5,hh⟩ | ⟨g2,h5,hh⟩
    ·simp only [b5,go_sem,↓reduceIte,alS,alU,alT,alV,alW,h0,g1,h5,h6,h7,hh,e1,e2,e3,e4,e6,w1,f8,f9,f10]
     rw [g2] at ih'
     exact ih' _ _ rfl rfl rfl rfl iN
    ·simp only [b5,go_sem,↓reduceIte,alS,alV,alW,alX,h0,g1,h5,h6,h7,hh,e1,e2,e3,e4,e6,w1,f3,f8,f9,f10,true_or,Nat.zero_add,Nat.le_refl,fC]
     exact ih' _ _ rfl rfl rfl rfl gy
  ·have e1:((i:Int) < (a.length:Int))=False:=ff (by omega)
   have hlb:i < b.length:=by omega
   have e6:((i:Int) < (b.length:Int))=True:=tt (by omega)
   have e7:aN (aC b) (i:Int)=some (.ipt [U (b.getD i 0:Nat)]):=aS rfl hlb
   have hz:=qW (m:=a) (i:=i) (by omega)
   have w2:IntKind.u64.wrap ((bX a b i:Int)+(b.getD i 0:Int))=((a.getD i 0+b.getD i 0+bX a b i:Nat):Int):=cf (by omega) (by omega)
   rcases hacc with ⟨g2,h5,hh⟩ | ⟨g2,h5,hh⟩
   ·simp only [b5,go_sem,↓reduceIte,alS,alU,alT,alV,alW,h0,g1,h5,h6,h7,hh,e1,e3,e5,e6,e7,w2,f8,f9,f10]
    rw [g2] at ih'
    exact ih' _ _ rfl rfl rfl rfl iN
   ·simp only [b5,go_sem,↓reduceIte,alS,alV,alW,alX,h0,g1,h5,h6,h7,hh,e1,e3,e5,e6,e7,w2,f3,f8,f9,f10,true_or,Nat.zero_add,Nat.le_refl,fC]
    exact ih' _ _ rfl rfl rfl rfl gy
theorem Jp {a b:List Nat} (ha:Lb a) (hb:Lb b) {L:Nat} (h1:a.length≤L) (h2:b.length≤L):ab (bV a b L++[bX a b L])=ab a+ab b:=by
 have h:=Az a b L
 rw [List.take_of_length_le h1,List.take_of_length_le h2] at h
 rw [db,cw,← h]
 simp [ab]
theorem Tm {a b:List Nat} (ha:Lb a) (hb:Lb b) (h1:a.length≤10000) (h2:b.length≤10000):R F.r02_plus [lm a,lm b] []=some (lm (ap (ab a+ab b)),[]):=by
 refine aB NV NU (Gd false) rfl ?_
 obtain ⟨M,hM⟩:∃ M,max a.length b.length=M:=⟨_,rfl⟩
 have hr:=QM ha hb (by omega) (by omega) M 0 (by omega)
 simp only [Int.natCast_zero] at hr
 rw [hM] at hr
 have hsv:=Jp ha hb (L:=M) (by omega) (by omega)
 have hc:=pN ha hb M
 have hL:=cw a b M
 have hLb:=DV a b M
 have q0:iU 49 (bV a b 0) .emp .dead:=Or.inl ⟨rfl,rfl,rfl⟩
 have c0:bX a b 0=0:=rfl
 rw [c0] at hr
 simp only [Int.natCast_zero] at hr
 generalize bV a b 0=o0 at hr q0
 generalize bV a b M=out at hr hsv hL hLb
 generalize bX a b M=c at hr hsv hc
 have ht:=o8 (m:=out++[c]) (gY.2 ⟨hLb,da.2 ⟨by omega,rH⟩⟩) (by rw [List.length_append]; simp; omega)
 rw [hsv] at ht
 have e8:IntKind.u32.wrap (c:Int)=(c:Int):=oo rfl (by omega)
 have q1:(out.length+1)*4≤140737488355328:=by omega
 have f3:=tt q1
 have f4:=kO (out++[c])
 rw [show (out++[c]).length=out.length+1 by simp] at f4
 generalize ap (ab a+ab b)=res at ht ⊢
 generalize hLL:aq (ak R (ae false) b5) [0,1,5,6,7] [49]=L at hr
 have hX:∀ s h,ak R (ae false) (.loop [0,1,5,6,7] [49] b5) s h=L s h:=fun s h=>by rw [← hLL]; rfl
 clear hLL
 have hr2:∀ (S:aj) (H:ac) (X:Option (Ex × St)),au 0 [5,6] (L S H)=X→S 0=lm a→S 1=lm b→S 6=W 0→S 7=I 0→S 5 = .emp→H 49 = .dead→∃ x hh,X=some (.normal,⟨upd (upd (fun _ => .any) 6 (W c)) 5 x,hh⟩)∧iU 49 out x (hh 49)∧∀ a,a ≠ 49→hh a = .dead:=fun S H X hX a0 a1 a6 a7 a5 b=>by
  rw [← hX]
  exact hr S H a0 a1 a6 a7 (by rw [a5,b]; exact q0)
 simp only [pl,BD,hX,go_sem,↓reduceIte,alS]
 generalize hB:au 0 [5,6] (L _ _)=X
 obtain ⟨x,hh,g0,hacc,gd⟩:=hr2 _ _ _ hB rfl rfl rfl rfl rfl rfl
 rw [g0]
 rcases hacc with ⟨c1,c2,c3⟩ | ⟨c1,c2,c3⟩
 ·rw [c1] at ht
  have ht':R F.r02_trim [.sl 1 [[U c]]] []=some (lm res,[]):=ht
  simp only [go_sem,↓reduceIte,alS,alU,alT,alV,alW,c2,e8,ht',ne_eq,not_false_eq_true,gd]
 ·simp only [go_sem,↓reduceIte,alS,alU,alT,alV,alW,c2,c3,e8,f3,f4,ht,ne_eq,not_false_eq_true,gd,fC,true_or,Nat.zero_add,Nat.le_refl,List.length_singleton,tE,List.length_append]
theorem On {a b:List Nat} (ha:Lb a) (hb:Lb b) (h1:a.length≤100000):∀ (k i:Nat),i+k=a.length→∀ (s:aj) (h:ac),s 0=lm a→s 1=lm b→s 6=W (dn a b i:Nat)→s 7=I i→iU 41 (cq a b i) (s 5) (h 41) →
  ∃ x hh,au 0 [5] (aq (ak R (ae false) ct) [0,1,5,6,7] [41] s h)=some (.normal,⟨upd (fun _ => .any) 5 x,hh⟩)∧iU 41 (cq a b a.length) x (hh 41)∧∀ a,a ≠ 41→hh a = .dead:=by
 intro k
 induction k with
 | zero =>
  intro i hi s h h0 g1 h6 h7 hacc
  have e1:((i:Int) < (a.length:Int))=False:=ff (by omega)
  have:i=a.length:=by omega
  rw [← this]
  rw [ao]
  rcases hacc with ⟨g2,h5,hh⟩ | ⟨g2,h5,hh⟩
  ·refine ⟨.emp,?hh0,?_,Or.inl ⟨g2,rfl,?_⟩,?_⟩
   rotate_left
   ·simp only [ct,go_sem,↓reduceIte,alS,h0,g1,h5,h6,h7,hh,e1]
    rfl
   ·rfl
   ·intro b hb
    simp only [cY,hb,if_false]
  ·refine ⟨.rsl 41 none 1 0 (cq a b i).length,?hh1,?_,Or.inr ⟨g2,rfl,?_⟩,?_⟩
   rotate_left
   ·simp only [ct,go_sem,↓reduceIte,alS,alX,h0,g1,h5,h6,h7,hh,e1]
    rfl
   ·rfl
   ·intro b hb
    simp only [cY,hb,if_false]
 | succ k ih =>
  intro i hi s h h0 g1 h6 h7 hacc
  have ih':=ih (i+1) (by omega)
  have hx:=aZ ha i
  have hy:=aZ hb i
  have hc:=pO a b i
  have hla:i < a.length:=by omega
  have e1:((i:Int) < (a.length:Int))=True:=tt (by omega)
  have e2:aN (aC a) (i:Int)=some (.ipt [U (a.getD i 0:Nat)]):=aS rfl hla
  have e3:IntKind.i64.wrap ((i:Int)+1)=((i+1:Nat):Int):=wi (by omega) (by omega)
  have q1:((cq a b i).length+1)*4≤140737488355328:=by rw [eL]; omega
  have f3:=tt q1
  have e4:IntKind.u64.wrap (a.getD i 0:Int)=(a.getD i 0:Int):=cf rfl (by omega)
  have e5:IntKind.u64.wrap (b.getD i 0:Int)=(b.getD i 0:Int):=cf rfl (by omega)
  have w3:IntKind.u64.wrap ((a.getD i 0:Int)+4294967296)=((a.getD i 0+4294967296:Nat):Int):=cf (by omega) (by omega)
  have w4:IntKind.u64.wrap (((a.getD i 0+4294967296:Nat):Int) - ((b.getD i 0+dn a b i:Nat):Int))=((a.getD i 0+4294967296 - b.getD i 0 - dn a b i:Nat):Int):=cf (by omega) (by omega)
  have f8:=io (n:=a.getD i 0+4294967296 - b.getD i 0 - dn a b i) (k:=32) (kk := .u64) (j:=32) rfl rfl (by omega)
  have w5:IntKind.u64.wrap (1 - (((a.getD i 0+4294967296 - b.getD i 0 - dn a b i) / 2 ^ 32:Nat):Int))=((dn a b (i+1):Nat):Int):=by
   refine cf ?_ (by have:=pO a b (i+1); omega)
   show _=(((if a.getD i 0 < b.getD i 0+dn a b i then 1 else 0:Nat)):Int)
   split <;> omega
  have f9:=kN (n:=a.getD i 0+4294967296 - b.getD i 0 - dn a b i) rfl (by omega)
  rw [show (a.getD i 0+4294967296 - b.getD i 0 - dn a b i) % 4294967296=ow a b i from rfl] at f9
  have f10:IntKind.u32.wrap ((ow a b i:Nat):Int)=((ow a b i:Nat):Int):=oo rfl (Nat.mod_lt _ (by omega))
  rw [ao]
  rw [Fm] at ih'
  generalize aq _ _ _=L at ih' ⊢
  by_cases hlb:i < b.length
  ·have e6:((i:Int) < (b.length:Int))=True:=tt (by omega)
   have e7:aN (aC b) (i:Int)=some (.ipt [U (b.getD i 0:Nat)]):=aS rfl hlb
   have w2:IntKind.u64.wrap ((dn a b i:Int)+(b.getD i 0:Int))=((b.getD i 0+dn a b i:Nat):Int):=cf (by omega) (by omega)
   rcases hacc with ⟨g2,h5,hh⟩ | ⟨g2,h5,hh⟩
   ·simp only [ct,go_sem,↓reduceIte,alS,alU,alT,alV,alW,h0,g1,h5,h6,h7,hh,e1,e2,e3,e4,e5,e6,e7,w2,w3,w4,w5,f8,f9,f10]
    rw [g2] at ih'
    exact ih' _ _ rfl rfl rfl rfl iN
   ·simp only [ct,go_sem,↓reduceIte,alS,alV,alW,alX,h0,g1,h5,h6,h7,hh,e1,e2,e3,e4,e5,e6,e7,w2,w3,w4,w5,f3,f8,f9,f10,true_or,Nat.zero_add,Nat.le_refl,fC]
    exact ih' _ _ rfl rfl rfl rfl gy
  ·have e6:((i:Int) < (b.length:Int))=False:=ff (by omega)
   have hz:=qW (m:=b) (i:=i) (by omega)
   have w2:((b.getD i 0+dn a b i:Nat):Int)=(dn a b i:Int):=by omega
   rw [w2] at w4
   rcases hacc with ⟨g2,h5,hh⟩ | ⟨g2,h5,hh⟩
   ·simp only [ct,go_sem,↓reduceIte,alS,alU,alT,alV,alW,h0,g1,h5,h6,h7,hh,e1,e2,e3,e4,e6,w3,w4,w5,f8,f9,f10]
    rw [g2] at ih'
    exact ih' _ _ rfl rfl rfl rfl iN
   ·simp only [ct,go_sem,↓reduceIte,alS,alV,alW,alX,h0,g1,h5,h6,h7,hh,e1,e2,e3,e4,e6,w3,w4,w5,f3,f8,f9,f10,true_or,Nat.zero_add,Nat.le_refl,fC]
    exact ih' _ _ rfl rfl rfl rfl gy
theorem Fo {a b:List Nat} (ha:Lb a) (hb:Lb b) (h1:a.length≤10000) (h2:b.length≤a.length) (hv:ab b≤ab a):R F.r02_minus [lm a,lm b] []=some (lm (ap (ab a - ab b)),[]):=by
 refine aB Ld Lc (Dw false) rfl ?_
 have hr:=On ha hb (by omega) a.length 0 (by omega)
 simp only [Int.natCast_zero] at hr
 have hall:=AC ha hb h2 hv
 have hsv:ab (cq a b a.length)=ab a - ab b:=by
  rw [hall,eI,Nat.mod_eq_of_lt]
  exact Nat.lt_of_le_of_lt (Nat.sub_le _ _) (bD ha)
 have hL:=eL a b a.length
 have hLb:=xY a b a.length
 have q0:iU 41 (cq a b 0) .emp .dead:=Or.inl ⟨rfl,rfl,rfl⟩
 have c0:dn a b 0=0:=rfl
 rw [c0] at hr
 simp only [Int.natCast_zero] at hr
 clear hall
 generalize cq a b 0=o0 at hr q0
 generalize cq a b a.length=out at hr hsv hL hLb
 have ht:=o8 (m:=out) hLb (by omega)
 rw [hsv] at ht
 generalize ap (ab a - ab b)=res at ht ⊢
 generalize hLL:aq (ak R (ae false) ct) [0,1,5,6,7] [41]=L at hr
 have hX:∀ s h,ak R (ae false) (.loop [0,1,5,6,7] [41] ct) s h=L s h:=fun s h=>by rw [← hLL]; rfl
 clear hLL
 have hr2:∀ (S:aj) (H:ac) (X:Option (Ex × St)),au 0 [5] (L S H)=X→S 0=lm a→S 1=lm b→S 6=W 0→S 7=I 0→S 5 = .emp→H 41 = .dead→∃ x hh,X=some (.normal,⟨upd (fun _ => .any) 5 x,hh⟩)∧iU 41 out x (hh 41)∧∀ a,a ≠ 41→hh a = .dead:=fun S H X hX a0 a1 a6 a7 a5 b=>by
  rw [← hX]
  exact hr S H a0 a1 a6 a7 (by rw [a5,b]; exact q0)
 simp only [nR,y4,hX,go_sem,↓reduceIte,alS]
 generalize hB:au 0 [5] (L _ _)=X
 obtain ⟨x,hh,g0,hacc,gd⟩:=hr2 _ _ _ hB rfl rfl rfl rfl rfl rfl
 rw [g0]
 rcases hacc with ⟨c1,c2,c3⟩ | ⟨c1,c2,c3⟩
 ·rw [c1] at ht
  simp only [go_sem,↓reduceIte,alS,alU,alT,c2,ht,ne_eq,not_false_eq_true,gd]
 ·simp only [go_sem,↓reduceIte,alS,alU,alT,c2,c3,ht,ne_eq,not_false_eq_true,gd,kO,Nat.zero_add,Nat.le_refl]
end Go.Ab
namespace Go.Ab
open Go Go.IntWalk
set_option maxRecDepth 4000
set_option maxHeartbeats 1000000
theorem QN {a b:List Nat} (ha:Lb a) (hb:Lb b) (hl:a.length=b.length) (h2:a.length≤100000):∀ (k:Nat),k≤a.length→∀ (s:aj) (h:ac),s 0=lm a→s 1=lm b→s 5=I ((k:Int) - 1) →
  bm (au 0 [] (aq (ak R (ae false) ce) [0,1,5] [] s h)) (ak R (ae false) eJ)=some (.ret,⟨upd (fun _ => .any) 4 (I (aT (ab (a.take k)) (ab (b.take k)))),fun _ => .dead⟩):=by
 intro k
 induction k with
 | zero =>
  intro hk s h h0 h1 h5
  rw [ao]
  generalize aq _ _ _=L
  have e1:(0≤((0:Nat):Int) - 1)=False:=ff (by omega)
  have e2:aT (ab []) (ab [])=0:=rfl
  simp only [ce,eJ,go_sem,↓reduceIte,alS,h0,h1,h5,e1,e2]
 | succ k ih =>
  intro hk s h h0 h1 h5
  have ih':=ih (by omega)
  have e1:(0≤((k+1:Nat):Int) - 1)=True:=tt (by omega)
  have e2:aN (aC a) (((k+1:Nat):Int) - 1)=some (.ipt [U (a.getD k 0:Nat)]):=aS (by omega) (by omega)
  have e3:aN (aC b) (((k+1:Nat):Int) - 1)=some (.ipt [U (b.getD k 0:Nat)]):=aS (by omega) (by omega)
  have e4:IntKind.i64.wrap (((k+1:Nat):Int) - 1 - 1)=(k:Int) - 1:=by rw [i64_in] <;> omega
  have va:=dN a k
  have vb:=dN b k
  have la:=bD (iJ ha k)
  have lb:=bD (iJ hb k)
  rw [List.length_take,Nat.min_eq_left (by omega)] at la lb
  rw [ao]
  generalize aq _ _ _=L at ih' ⊢
  rcases Nat.lt_trichotomy (a.getD k 0) (b.getD k 0) with hlt | heq | hgt
  ·have e5:((a.getD k 0:Int) < (b.getD k 0:Int))=True:=tt (by omega)
   have e6:aT (ab (a.take (k+1))) (ab (b.take (k+1))) = -1:=by
    have:4294967296 ^ k*(a.getD k 0+1)≤4294967296 ^ k*b.getD k 0:=Nat.mul_le_mul_left _ hlt
    rw [Nat.mul_add] at this
    simp only [aT]
    rw [if_pos (by omega)]
   simp only [ce,eJ,go_sem,↓reduceIte,alS,h0,h1,h5,e1,e2,e3,e5,e6]
  ·have e5:((a.getD k 0:Int) < (b.getD k 0:Int))=False:=ff (by omega)
   have e7:((b.getD k 0:Int) < (a.getD k 0:Int))=False:=ff (by omega)
   have e6:aT (ab (a.take (k+1))) (ab (b.take (k+1)))=aT (ab (a.take k)) (ab (b.take k)):=by
    rw [va,vb,heq]
    simp only [aT]
    repeat' split
    all_goals first | rfl | omega
   simp only [ce,go_sem,↓reduceIte,alS,h0,h1,h5,e1,e2,e3,e5,e6,e7,e4]
   exact ih' _ _ rfl rfl rfl
  ·have e5:((a.getD k 0:Int) < (b.getD k 0:Int))=False:=ff (by omega)
   have e7:((b.getD k 0:Int) < (a.getD k 0:Int))=True:=tt (by omega)
   have e6:aT (ab (a.take (k+1))) (ab (b.take (k+1)))=1:=by
    have:4294967296 ^ k*(b.getD k 0+1)≤4294967296 ^ k*a.getD k 0:=Nat.mul_le_mul_left _ hgt
    rw [Nat.mul_add] at this
    simp only [aT]
    rw [if_neg (by omega),if_pos (by omega)]
   simp only [ce,eJ,go_sem,↓reduceIte,alS,h0,h1,h5,e1,e2,e3,e5,e6,e7]
theorem zi {a b:List Nat} (ha:Lb a) (hb:Lb b) (h1:a.length≤100000) (h2:b.length≤100000) (hc:a.length=b.length∨(pp a∧pp b)):R F.r02_compare [lm a,lm b] []=some (I (aT (ab a) (ab b)),[]):=by
 refine aB F9 F8 (zQ false) rfl ?_
 by_cases hl:a.length=b.length
 ·have e1:((a.length:Int)=(b.length:Int))=True:=tt (by omega)
  have e2:IntKind.i64.wrap ((b.length:Int) - 1)=(b.length:Int) - 1:=i64_in _ ⟨by omega,by omega⟩
  have e3:IntKind.i64.wrap ((a.length:Int) - 1)=(a.length:Int) - 1:=i64_in _ ⟨by omega,by omega⟩
  have hL:=QN ha hb hl h1 a.length (Nat.le_refl _)
  rw [List.take_length,hl,List.take_length,← hl] at hL
  generalize hLL:aq (ak R (ae false) ce) [0,1,5] []=L at hL
  have hX:∀ s h,ak R (ae false) (.loop [0,1,5] [] ce) s h=L s h:=fun s h=>by rw [← hLL]; rfl
  have hL2:∀ s h,s 0=lm a→s 1=lm b→s 5=I ((a.length:Int) - 1)→iY false [[]] [.t 4] 0 (bm (au 0 [] (L s h)) (ak R (ae false) (.seq (.ops [4] [co 4 (.mv (.c (.v (.int .i64 0))))]) (.ret))))=some (I (aT (ab a) (ab b)),[]):=fun s h a0 a1 a5=>by
   rw [show (.seq (.ops [4] [co 4 (.mv (.c (.v (.int .i64 0))))]) (.ret):Cmd)=eJ from rfl,hL s h a0 a1 a5]
   simp only [go_sem,↓reduceIte]
  show iY false [[]] [.t 4] 0 (ak R (ae false) jz _ _)=_
  unfold jz
  show iY false [[]] [.t 4] 0 (bm (ak R (ae false) (.ops [0,1] [co 4 (.mv (.c (.v (.int .i64 0))))]) _ _) fun s h=>bm (ak R (ae false) (.seq (.ops [0,1,10] [cm 6 0,co 7 (.len false (.t 6)),cm 8 1,co 9 (.len false (.t 8)),co 10 (.bin .neq (.t 7) (.t 9))]) (.cond (.t 10) (.seq (.seq (.ops [15] [cm 11 0,co 12 (.len false (.t 11)),cm 13 1,co 14 (.len false (.t 13)),co 15 (.bin .lss (.t 12) (.t 14))]) (.cond (.t 15) (.seq (.ops [4] [co 4 (.mv (.c (.v (.int .i64 (-1)))))]) (.ret)) (.skip))) (.seq (.ops [4] [co 4 (.mv (.c (.v (.int .i64 1))))]) (.ret))) (.skip))) s h) fun s h=>bm (bm (ak R (ae false) (.ops [0,1,5] [cm 16 0,co 17 (.len false (.t 16)),co 18 (.bin .sub (.t 17) (.c (.v (.int .i64 1)))),cm 5 18]) s h) fun s h=>au 0 [] (ak R (ae false) (.loop [0,1,5] [] ce) s h)) (ak R (ae false) (.seq (.ops [4] [co 4 (.mv (.c (.v (.int .i64 0))))]) (.ret))))=_
  simp only [hX]
  generalize hT:ak R (ae false) (.seq (.ops [4] [co 4 (.mv (.c (.v (.int .i64 0))))]) (.ret))=T at hL2 ⊢
  simp only [go_sem,↓reduceIte,alS,e1,e3]
  exact hL2 _ _ rfl rfl rfl
 ·have e1:((a.length:Int)=(b.length:Int))=False:=ff (by omega)
  obtain ⟨ca,cb⟩:=hc.resolve_left hl
  by_cases hlt:a.length < b.length
  ·have e2:((a.length:Int) < (b.length:Int))=True:=tt (by omega)
   have e3:aT (ab a) (ab b) = -1:=by
    have:=lK (x:=ab a) (y:=ab b) (by rw [oU ha ca,oU hb cb]; exact hlt)
    unfold aT
    rw [if_pos this]
   rw [e3]
   simp only [iw,jz,go_sem,↓reduceIte,alS,e1,e2]
  ·have e2:((a.length:Int) < (b.length:Int))=False:=ff (by omega)
   have e3:aT (ab a) (ab b)=1:=by
    have:=lK (x:=ab b) (y:=ab a) (by rw [oU ha ca,oU hb cb]; omega)
    unfold aT
    rw [if_neg (by omega),if_pos this]
   rw [e3]
   simp only [iw,jz,go_sem,↓reduceIte,alS,e1,e2]
theorem su {m:List Nat} {i:Nat} (hb:Lb m) (h:m.length≤10000000):R F.r01_at [lm m,I i] []=some (W (m.getD i 0:Nat),[]):=by
 refine aB SQ SP (Lw false) rfl ?_
 by_cases hi:i < m.length
 ·have e1:((i:Int) < (m.length:Int))=True:=tt (by omega)
  have e2:aN (aC m) (i:Int)=some (.ipt [U (m.getD i 0:Nat)]):=aS rfl hi
  have hx:=aZ hb i
  have e3:IntKind.u64.wrap (m.getD i 0:Int)=(m.getD i 0:Int):=cf rfl (by omega)
  simp only [pK,zJ,go_sem,↓reduceIte,alS,e1,e2,e3]
 ·have e1:((i:Int) < (m.length:Int))=False:=ff (by omega)
  have e2:=qW (m:=m) (i:=i) (by omega)
  rw [e2]
  simp only [pK,zJ,go_sem,↓reduceIte,alS,e1,Int.natCast_zero]
theorem mX {m:List Nat} (hb:Lb m) (h:m.length≤10000000):R F.r01_Trim [lm m] []=some (lm (ap (ab m)),[]):=by
 refine aB N1 N0 (GH false) rfl ?_
 have h1:kn 1 (lm m) none (some (I (eZ m m.length:Nat))) none=some (lm (ap (ab m))):=by
  rw [tF (a:=0) (b:=eZ m m.length) rfl (mT rfl (mj _ _)) (mj _ _),List.drop_zero,Nat.sub_zero,uF hb]
 have hl:=bS m hb
 have e1:((ap (ab m)).length*4≤140737488355328)=True:=tt (by omega)
 have hL:∀ (n:Nat),n≤m.length→∀ (s:aj) (h:ac),s 0=lm m→s 3=I n →
  au 0 [0,3] (aq (ak R (ae false) vB) [0,3] [] s h)=some (.normal,⟨upd (upd (fun _ => .any) 3 (I (eZ m n))) 0 (lm m),fun _ => .dead⟩):=xf m (by omega)
 simp only [pn,BM,go_sem,↓reduceIte,alS,alV,alW,hL m.length (Nat.le_refl _),h1,AF,e1,List.nil_append,List.length_nil,true_or,Nat.zero_add,Nat.le_refl,List.replicate_zero]
theorem Oo {a b:List Nat} (ha:Lb a) (hb:Lb b) (hl:a.length≤100000) (h2:b.length≤100000):∀ (k:Nat),k≤100000→∀ (s:aj) (h:ac),s 0=lm a→s 1=lm b→s 5=I ((k:Int) - 1) →
  bm (au 0 [] (aq (ak R (ae false) d8) [0,1,5] [] s h)) (ak R (ae false) eJ)=some (.ret,⟨upd (fun _ => .any) 4 (I (aT (ab (a.take k)) (ab (b.take k)))),fun _ => .dead⟩):=by
 intro k
 induction k with
 | zero =>
  intro hk s h h0 h1 h5
  rw [ao]
  generalize aq _ _ _=L
  have e1:(0≤((0:Nat):Int) - 1)=False:=ff (by omega)
  have e2:aT (ab []) (ab [])=0:=rfl
  simp only [d8,eJ,go_sem,↓reduceIte,alS,h0,h1,h5,e1,e2]
 | succ k ih =>
  intro hk s h h0 h1 h5
  have ih':=ih (by omega)
  have e1:(0≤(k:Int))=True:=tt (by omega)
  have ek:((k+1:Nat):Int) - 1=(k:Int):=by omega
  have e2:=su (m:=a) (i:=k) ha (by omega)
  have e3:=su (m:=b) (i:=k) hb (by omega)
  have e4:IntKind.i64.wrap ((k:Int) - 1)=(k:Int) - 1:=by rw [i64_in] <;> omega
  have va:=dN a k
  have vb:=dN b k
  have la:=Nat.lt_of_lt_of_le (bD (iJ ha k)) (Nat.pow_le_pow_right (by decide) (show (a.take k).length≤k by rw [List.length_take]; omega))
  have lb:=Nat.lt_of_lt_of_le (bD (iJ hb k)) (Nat.pow_le_pow_right (by decide) (show (b.take k).length≤k by rw [List.length_take]; omega))
  rw [ek] at h5
  rw [ao]
  generalize aq _ _ _=L at ih' ⊢
  rcases Nat.lt_trichotomy (a.getD k 0) (b.getD k 0) with hlt | heq | hgt
  ·have e5:((a.getD k 0:Int) < (b.getD k 0:Int))=True:=tt (by omega)
   have e6:aT (ab (a.take (k+1))) (ab (b.take (k+1))) = -1:=by
    have:4294967296 ^ k*(a.getD k 0+1)≤4294967296 ^ k*b.getD k 0:=Nat.mul_le_mul_left _ hlt
    rw [Nat.mul_add] at this
    simp only [aT]
    rw [if_pos (by omega)]
   simp only [d8,eJ,go_sem,↓reduceIte,alS,alU,alT,h0,h1,h5,e1,e2,e3,e5,e6]
  ·have e5:((a.getD k 0:Int) < (b.getD k 0:Int))=False:=ff (by omega)
   have e7:((b.getD k 0:Int) < (a.getD k 0:Int))=False:=ff (by omega)
   have e6:aT (ab (a.take (k+1))) (ab (b.take (k+1)))=aT (ab (a.take k)) (ab (b.take k)):=by
    rw [va,vb,heq]
    simp only [aT]
    repeat' split
    all_goals first | rfl | omega
   simp only [d8,go_sem,↓reduceIte,alS,alU,alT,h0,h1,h5,e1,e2,e3,e5,e6,e7,e4]
   exact ih' _ _ rfl rfl rfl
  ·have e5:((a.getD k 0:Int) < (b.getD k 0:Int))=False:=ff (by omega)
   have e7:((b.getD k 0:Int) < (a.getD k 0:Int))=True:=tt (by omega)
   have e6:aT (ab (a.take (k+1))) (ab (b.take (k+1)))=1:=by
    have:4294967296 ^ k*(b.getD k 0+1)≤4294967296 ^ k*a.getD k 0:=Nat.mul_le_mul_left _ hgt
    rw [Nat.mul_add] at this
    simp only [aT]
    rw [if_neg (by omega),if_pos (by omega)]
   simp only [d8,eJ,go_sem,↓reduceIte,alS,alU,alT,h0,h1,h5,e1,e2,e3,e5,e6,e7]
theorem V3 {a b:List Nat} (ha:Lb a) (hb:Lb b) (h1:a.length≤100000) (h2:b.length≤100000):R F.r01_Cmp [lm a,lm b] []=some (I (aT (ab a) (ab b)),[]):=by
 refine aB Qe Qd (IL false) rfl ?_
 obtain ⟨M,hM⟩:∃ M,max a.length b.length=M:=⟨_,rfl⟩
 have e1:(if (a.length:Int) < (b.length:Int) then (b.length:Int) else (a.length:Int))=(M:Int):=by
  split <;> omega
 have e2:IntKind.i64.wrap ((M:Int) - 1)=(M:Int) - 1:=i64_in _ ⟨by omega,by omega⟩
 have hL:=Oo ha hb h1 h2 M (by omega)
 rw [List.take_of_length_le (show a.length≤M by omega),List.take_of_length_le (show b.length≤M by omega)] at hL
 generalize hLL:aq (ak R (ae false) d8) [0,1,5] []=L at hL
 have hX:∀ s h,ak R (ae false) (.loop [0,1,5] [] d8) s h=L s h:=fun s h=>by rw [← hLL]; rfl
 have hL2:∀ s h,s 0=lm a→s 1=lm b→s 5=I ((M:Int) - 1)→iY false [[]] [.t 4] 0 (bm (au 0 [] (L s h)) (ak R (ae false) (.seq (.ops [4] [co 4 (.mv (.c (.v (.int .i64 0))))]) (.ret))))=some (I (aT (ab a) (ab b)),[]):=fun s h a0 a1 a5=>by
  rw [show (.seq (.ops [4] [co 4 (.mv (.c (.v (.int .i64 0))))]) (.ret):Cmd)=eJ from rfl,hL s h a0 a1 a5]
  simp only [go_sem,↓reduceIte]
 show iY false [[]] [.t 4] 0 (ak R (ae false) wK _ _)=_
 unfold wK
 show iY false [[]] [.t 4] 0 (bm (ak R (ae false) (.ops [0,1] [co 4 (.mv (.c (.v (.int .i64 0))))]) _ _) fun s h=>bm (bm (ak R (ae false) (.ops [0,1,5] [cm 6 0,co 7 (.len false (.t 6)),cm 8 1,co 9 (.len false (.t 8)),co 10 (.mnx false (.t 7) [(.t 9)]),co 11 (.bin .sub (.t 10) (.c (.v (.int .i64 1)))),cm 5 11]) s h) fun s h=>au 0 [] (ak R (ae false) (.loop [0,1,5] [] d8) s h)) (ak R (ae false) (.seq (.ops [4] [co 4 (.mv (.c (.v (.int .i64 0))))]) (.ret))))=_
 simp only [hX]
 generalize hT:ak R (ae false) (.seq (.ops [4] [co 4 (.mv (.c (.v (.int .i64 0))))]) (.ret))=T at hL2 ⊢
 simp only [go_sem,↓reduceIte,alS,e1,e2]
 exact hL2 _ _ rfl rfl rfl
end Go.Ab
namespace Go.Ab
open Go Go.IntWalk
set_option maxRecDepth 4000
set_option maxHeartbeats 1000000
theorem Oq:∀ (x b:Nat),x < 4294967296→b+af x≤100000000→∀ (s:aj) (h:ac),s 4=I b→s 5=U x →
  au 2 [4] (aq (ak R (ae false) gJ) [4,5] [] s h)=some (.normal,⟨upd (fun _ => .any) 4 (I (b+af x:Nat)),fun _ => .dead⟩):=by
 intro x
 induction x using Nat.strongRecOn with
 | ind x ih =>
  intro b hx hb s h h3 h4
  rw [ao]
  by_cases h0:x=0
  ·have e1:(0 < (x:Int))=False:=ff (by omega)
   rw [h0,kH,Nat.add_zero]
   rw [h0] at e1 h4
   simp only [gJ,go_sem,↓reduceIte,alS,h3,h4,e1]
  ·have e1:(0 < (x:Int))=True:=tt (by omega)
   have e2:=uM (n:=x) (k:=1) (kk := .u64) (j:=1) rfl rfl (by omega)
   have e3:IntKind.i64.wrap ((b:Int)+1)=((b+1:Nat):Int):=wi (by omega) (by omega)
   have e4:af x=1+af (x / 2 ^ 1):=by
    have h5:=di x 1
    have h6:=cS h0
    omega
   have ih':=ih (x / 2 ^ 1) (by omega) (b+1) (by omega) (by omega)
   rw [show b+af x=b+1+af (x / 2 ^ 1) by omega]
   generalize aq _ _ _=L at ih' ⊢
   simp only [gJ,go_sem,↓reduceIte,alS,h3,h4,e1,e2,e3]
   exact ih' _ _ rfl rfl
theorem QO {y x j:Nat} (hy:y < 4294967296 ^ j) (hx:x ≠ 0):af (y+4294967296 ^ j*x)=32*j+af x:=by
 have e:(4294967296:Nat) ^ j=2 ^ (32*j):=by
  rw [Nat.pow_mul]
 rw [e] at hy ⊢
 have h1:2 ^ (32*j)≤y+2 ^ (32*j)*x:=Nat.le_trans (Nat.le_mul_of_pos_right _ (Nat.pos_of_ne_zero hx)) (Nat.le_add_left _ _)
 rw [pQ _ h1,Nat.add_mul_div_left _ _ (Nat.two_pow_pos _),Nat.div_eq_of_lt hy,Nat.zero_add]
theorem QP {m:List Nat} (hb:Lb m) (hl:m.length≤100000):∀ (k:Nat),k≤m.length→∀ (s:aj) (h:ac),s 0=lm m→s 3=I ((k:Int) - 1) →
  bm (au 0 [] (aq (ak R (ae false) dE) [0,3] [] s h)) (ak R (ae false) (.seq (.ops [2] [co 2 (.mv (.c (.v (.int .i64 0))))]) (.ret)))=some (.ret,⟨upd (fun _ => .any) 2 (I (af (ab (m.take k)):Nat)),fun _ => .dead⟩):=by
 intro k
 induction k with
 | zero =>
  intro hk s h h0 h3
  rw [ao]
  generalize aq _ _ _=L
  have e1:(0≤((0:Nat):Int) - 1)=False:=ff (by omega)
  have e2:((af (ab []):Nat):Int)=0:=rfl
  simp only [dE,go_sem,↓reduceIte,alS,h0,h3,e1,List.take_zero,e2]
 | succ k ih =>
  intro hk s h h0 h3
  have ih':=ih (by omega)
  have ek:((k+1:Nat):Int) - 1=(k:Int):=by omega
  rw [ek] at h3
  have e1:(0≤(k:Int))=True:=tt (by omega)
  have e2:aN (aC m) (k:Int)=some (.ipt [U (m.getD k 0:Nat)]):=aS rfl (by omega)
  have e4:IntKind.i64.wrap ((k:Int) - 1)=(k:Int) - 1:=by rw [i64_in] <;> omega
  have hx:=aZ hb k
  have va:=dN m k
  have la:=bD (iJ hb k)
  rw [List.length_take,Nat.min_eq_left (by omega)] at la
  rw [ao]
  by_cases hz:m.getD k 0=0
  ·have e3:((m.getD k 0:Int)=0)=True:=tt (by omega)
   have e6:ab (m.take (k+1))=ab (m.take k):=by rw [va,hz,Nat.mul_zero,Nat.add_zero]
   rw [e6]
   generalize aq _ _ _=L at ih' ⊢
   generalize hT:ak R (ae false) (.seq (.ops [2] [co 2 (.mv (.c (.v (.int .i64 0))))]) (.ret))=T at ih' ⊢
   simp only [dE,go_sem,↓reduceIte,alS,h0,h3,e1,e2,e3,e4]
   exact ih' _ _ rfl rfl
  ·have e3:((m.getD k 0:Int)=0)=False:=ff (by omega)
   have e6:=QO la hz
   rw [← va] at e6
   rw [e6]
   have e5:IntKind.i64.wrap (32*(k:Int))=((32*k:Nat):Int):=wi (by omega) (by omega)
   have hbl:=(bh (k:=32)).2 hx
   have e7:=Oq (m.getD k 0) (32*k) hx (by omega)
   generalize aq (ak R (ae false) dE) _ _=L
   generalize hLL:aq (ak R (ae false) gJ) [4,5] []=L0 at e7
   have hX:∀ s h,ak R (ae false) (.loop [4,5] [] gJ) s h=L0 s h:=fun s h=>by rw [← hLL]; rfl
   simp only [dE,hX,go_sem,↓reduceIte,alS,h0,h3,e1,e2,e3,e5]
   rw [e7 _ _ rfl rfl]
   simp only [go_sem,↓reduceIte]
theorem Jq {m:List Nat} (hb:Lb m) (hl:m.length≤100000):R F.r01_Bits [lm m] []=some (I (af (ab m):Nat),[]):=by
 refine aB N3 N2 (GI false) rfl ?_
 have e2:IntKind.i64.wrap ((m.length:Int) - 1)=(m.length:Int) - 1:=i64_in _ ⟨by omega,by omega⟩
 have hL:=QP hb hl m.length (Nat.le_refl _)
 rw [List.take_length] at hL
 generalize hLL:aq (ak R (ae false) dE) [0,3] []=L at hL
 have hX:∀ s h,ak R (ae false) (.loop [0,3] [] dE) s h=L s h:=fun s h=>by rw [← hLL]; rfl
 show iY false [[]] [.t 2] 0 (ak R (ae false) uC _ _)=_
 unfold uC
 show iY false [[]] [.t 2] 0 (bm (ak R (ae false) (.ops [0] [co 2 (.mv (.c (.v (.int .i64 0))))]) _ _) fun s h=>bm (bm (ak R (ae false) (.ops [0,3] [cm 6 0,co 7 (.len false (.t 6)),co 8 (.bin .sub (.t 7) (.c (.v (.int .i64 1)))),cm 3 8]) s h) fun s h=>au 0 [] (ak R (ae false) (.loop [0,3] [] dE) s h)) (ak R (ae false) (.seq (.ops [2] [co 2 (.mv (.c (.v (.int .i64 0))))]) (.ret))))=_
 simp only [hX]
 generalize hT:ak R (ae false) (.seq (.ops [2] [co 2 (.mv (.c (.v (.int .i64 0))))]) (.ret))=T at hL ⊢
 simp only [go_sem,↓reduceIte,alS,e2]
 rw [hL _ _ rfl rfl]
 simp only [go_sem,↓reduceIte]
theorem QQ {a b:List Nat} (ha:Lb a) (hb:Lb b) (h1:a.length≤100000) (h2:b.length≤100000) {N:Nat} (hN:max a.length b.length≤N) (hN2:N≤100001) (hNc:bX a b N=0) (hc:∀ i,i < N→i < max a.length b.length∨0 < bX a b i):∀ (k i:Nat),i+k=N→∀ (s:aj) (h:ac),s 0=lm a→s 1=lm b→s 6=W (bX a b i:Nat)→s 7=I i→iU 36 (bV a b i) (s 5) (h 36) →
  ∃ x hh,au 0 [5] (aq (ak R (ae false) dA) [0,1,5,6,7] [36] s h)=some (.normal,⟨upd (fun _ => .any) 5 x,hh⟩)∧iU 36 (bV a b N) x (hh 36)∧∀ a,a ≠ 36→hh a = .dead:=by
 have em:(if (a.length:Int) < (b.length:Int) then (b.length:Int) else (a.length:Int))=((max a.length b.length:Nat):Int):=by
  split <;> omega
 intro k
 induction k with
 | zero =>
  intro i hi s h h0 g1 h6 h7 hacc
  have:i=N:=by omega
  subst this
  rw [hNc] at h6
  have e1:((i:Int) < ((max a.length b.length:Nat):Int))=False:=ff (by omega)
  rw [ao]
  rcases hacc with ⟨g2,h5,hh⟩ | ⟨g2,h5,hh⟩
  ·refine ⟨.emp,?hh0,?_,Or.inl ⟨g2,rfl,?_⟩,?_⟩
   rotate_left
   ·simp only [dA,go_sem,↓reduceIte,alS,h0,g1,h5,h6,h7,hh,em,e1,Int.natCast_zero,Int.lt_irrefl]
    rfl
   ·rfl
   ·intro b hb
    simp only [cY,hb,if_false]
  ·refine ⟨.rsl 36 none 1 0 (bV a b i).length,?hh1,?_,Or.inr ⟨g2,rfl,?_⟩,?_⟩
   rotate_left
   ·simp only [dA,go_sem,↓reduceIte,alS,alX,h0,g1,h5,h6,h7,hh,em,e1,Int.natCast_zero,Int.lt_irrefl]
    rfl
   ·rfl
   ·intro b hb
    simp only [cY,hb,if_false]
 | succ k ih =>
  intro i hi s h h0 g1 h6 h7 hacc
  have ih':=ih (i+1) (by omega)
  have hx:=aZ ha i
  have hy:=aZ hb i
  have hcl:=pN ha hb i
  have t1:=su (m:=a) (i:=i) ha (by omega)
  have t2:=su (m:=b) (i:=i) hb (by omega)
  have e3:IntKind.i64.wrap ((i:Int)+1)=((i+1:Nat):Int):=wi (by omega) (by omega)
  have q1:((bV a b i).length+1)*4≤140737488355328:=by rw [cw]; omega
  have f3:=tt q1
  have w1:IntKind.u64.wrap ((a.getD i 0:Int)+(b.getD i 0:Int))=((a.getD i 0+b.getD i 0:Nat):Int):=cf (by omega) (by omega)
  have w2:IntKind.u64.wrap (((a.getD i 0+b.getD i 0:Nat):Int)+(bX a b i:Int))=((a.getD i 0+b.getD i 0+bX a b i:Nat):Int):=cf (by omega) (by omega)
  have f8:=io (n:=a.getD i 0+b.getD i 0+bX a b i) (k:=32) (kk := .u64) (j:=32) rfl rfl (by omega)
  rw [show (a.getD i 0+b.getD i 0+bX a b i) / 2 ^ 32=bX a b (i+1) from rfl] at f8
  have f9:=kN (n:=a.getD i 0+b.getD i 0+bX a b i) rfl (by omega)
  rw [show (a.getD i 0+b.getD i 0+bX a b i) % 4294967296=ov a b i from rfl] at f9
  have f10:IntKind.u32.wrap ((ov a b i:Nat):Int)=((ov a b i:Nat):Int):=oo rfl (Nat.mod_lt _ (by omega))
  rw [ao]
  rw [Fl] at ih'
  generalize aq _ _ _=L at ih' ⊢
  by_cases hlt:i < max a.length b.length
  ·have e1:((i:Int) < ((max a.length b.length:Nat):Int))=True:=tt (by omega)
   rcases hacc with ⟨g2,h5,hh⟩ | ⟨g2,h5,hh⟩
   ·simp only [dA,go_sem,↓reduceIte,alS,alU,alT,alV,alW,h0,g1,h5,h6,h7,hh,em,e1,e3,t1,t2,w1,w2,f8,f9,f10]
    rw [g2] at ih'
    exact ih' _ _ rfl rfl rfl rfl iN
   ·simp only [dA,go_sem,↓reduceIte,alS,alU,alT,alV,alW,alX,h0,g1,h5,h6,h7,hh,em,e1,e3,t1,t2,w1,w2,f3,f8,f9,f10,true_or,Nat.zero_add,Nat.le_refl,fC]
    exact ih' _ _ rfl rfl rfl rfl gy
  ·have e1:((i:Int) < ((max a.length b.length:Nat):Int))=False:=ff (by omega)
   have e2:(0 < (bX a b i:Int))=True:=tt (by have:=hc i (by omega); omega)
   rcases hacc with ⟨g2,h5,hh⟩ | ⟨g2,h5,hh⟩
   ·simp only [dA,go_sem,↓reduceIte,alS,alU,alT,alV,alW,h0,g1,h5,h6,h7,hh,em,e1,e2,e3,t1,t2,w1,w2,f8,f9,f10]
    rw [g2] at ih'
    exact ih' _ _ rfl rfl rfl rfl iN
   ·simp only [dA,go_sem,↓reduceIte,alS,alU,alT,alV,alW,alX,h0,g1,h5,h6,h7,hh,em,e1,e2,e3,t1,t2,w1,w2,f3,f8,f9,f10,true_or,Nat.zero_add,Nat.le_refl,fC]
    exact ih' _ _ rfl rfl rfl rfl gy
theorem V4 {a b:List Nat} (ha:Lb a) (hb:Lb b) (h1:a.length≤10000) (h2:b.length≤10000):R F.r01_Add [lm a,lm b] []=some (lm (ap (ab a+ab b)),[]):=by
 refine aB Qi Qh (IN false) rfl ?_
 obtain ⟨N,hN,hN2,hNc,hcc⟩:∃ N,max a.length b.length≤N∧N≤10001∧bX a b N=0∧∀ i,i < N→i < max a.length b.length∨0 < bX a b i:=by
  obtain ⟨M,hM⟩:∃ M,max a.length b.length=M:=⟨_,rfl⟩
  have h3:=pN ha hb M
  by_cases h0:bX a b M=0
  ·exact ⟨M,by omega,by omega,h0,fun i hi=>Or.inl (by omega)⟩
  ·refine ⟨M+1,by omega,by omega,?_,fun i hi => ?_⟩
   ·show (a.getD M 0+b.getD M 0+bX a b M) / 4294967296=0
    rw [qW (by omega),qW (by omega)]
    omega
   ·by_cases hiM:i < M
    ·exact Or.inl (by omega)
    ·have:i=M:=by omega
     rw [this]
     exact Or.inr (by omega)
 have hr:=QQ ha hb (by omega) (by omega) hN (by omega) hNc hcc N 0 (by omega)
 simp only [Int.natCast_zero] at hr
 have hsv:=Jp ha hb (L:=N) (by omega) (by omega)
 rw [hNc,db] at hsv
 have hsv2:ab (bV a b N)=ab a+ab b:=by
  rw [← hsv]
  simp [ab]
 have hL:=cw a b N
 have hLb:=DV a b N
 have q0:iU 36 (bV a b 0) .emp .dead:=Or.inl ⟨rfl,rfl,rfl⟩
 have c0:bX a b 0=0:=rfl
 rw [c0] at hr
 simp only [Int.natCast_zero] at hr
 clear hsv
 generalize bV a b 0=o0 at hr q0
 generalize bV a b N=out at hr hsv2 hL hLb
 have ht:=mX (m:=out) hLb (by omega)
 rw [hsv2] at ht
 generalize ap (ab a+ab b)=res at ht ⊢
 generalize hLL:aq (ak R (ae false) dA) [0,1,5,6,7] [36]=L at hr
 have hX:∀ s h,ak R (ae false) (.loop [0,1,5,6,7] [36] dA) s h=L s h:=fun s h=>by rw [← hLL]; rfl
 clear hLL
 have hr2:∀ (S:aj) (H:ac) (X:Option (Ex × St)),au 0 [5] (L S H)=X→S 0=lm a→S 1=lm b→S 6=W 0→S 7=I 0→S 5 = .emp→H 36 = .dead→∃ x hh,X=some (.normal,⟨upd (fun _ => .any) 5 x,hh⟩)∧iU 36 out x (hh 36)∧∀ a,a ≠ 36→hh a = .dead:=fun S H X hX a0 a1 a6 a7 a5 b=>by
  rw [← hX]
  exact hr S H a0 a1 a6 a7 (by rw [a5,b]; exact q0)
 simp only [qI,Fa,hX,go_sem,↓reduceIte,alS]
 generalize hB:au 0 [5] (L _ _)=X
 obtain ⟨x,hh,g0,hacc,gd⟩:=hr2 _ _ _ hB rfl rfl rfl rfl rfl rfl
 rw [g0]
 rcases hacc with ⟨c1,c2,c3⟩ | ⟨c1,c2,c3⟩
 ·rw [c1] at ht
  simp only [go_sem,↓reduceIte,alS,alU,alT,c2,ht,ne_eq,not_false_eq_true,gd]
 ·simp only [go_sem,↓reduceIte,alS,alU,alT,c2,c3,ht,ne_eq,not_false_eq_true,gd,kO,Nat.zero_add,Nat.le_refl]
theorem QR {a b:List Nat} (ha:Lb a) (hb:Lb b) (h1:a.length≤100000) (h2:b.length≤100000):∀ (k i:Nat),i+k=a.length→∀ (s:aj) (h:ac),s 0=lm a→s 1=lm b→s 6=W (dn a b i:Nat)→s 7=I i→iU 30 (cq a b i) (s 5) (h 30) →
  ∃ x hh,au 0 [5] (aq (ak R (ae false) eX) [0,1,5,6,7] [30] s h)=some (.normal,⟨upd (fun _ => .any) 5 x,hh⟩)∧iU 30 (cq a b a.length) x (hh 30)∧∀ a,a ≠ 30→hh a = .dead:=by
 intro k
 induction k with
 | zero =>
  intro i hi s h h0 g1 h6 h7 hacc
  have e1:((i:Int) < (a.length:Int))=False:=ff (by omega)
  have:i=a.length:=by omega
  rw [← this]
  rw [ao]
  rcases hacc with ⟨g2,h5,hh⟩ | ⟨g2,h5,hh⟩
  ·refine ⟨.emp,?hh0,?_,Or.inl ⟨g2,rfl,?_⟩,?_⟩
   rotate_left
   ·simp only [eX,go_sem,↓reduceIte,alS,h0,g1,h5,h6,h7,hh,e1]
    rfl
   ·rfl
   ·intro b hb
    simp only [cY,hb,if_false]
  ·refine ⟨.rsl 30 none 1 0 (cq a b i).length,?hh1,?_,Or.inr ⟨g2,rfl,?_⟩,?_⟩
   rotate_left
   ·simp only [eX,go_sem,↓reduceIte,alS,alX,h0,g1,h5,h6,h7,hh,e1]
    rfl
   ·rfl
   ·intro b hb
    simp only [cY,hb,if_false]
 | succ k ih =>
  intro i hi s h h0 g1 h6 h7 hacc
  have ih':=ih (i+1) (by omega)
  have hx:=aZ ha i
  have hy:=aZ hb i
  have hc:=pO a b i
  have t1:=su (m:=a) (i:=i) ha (by omega)
  have t2:=su (m:=b) (i:=i) hb (by omega)
  have e1:((i:Int) < (a.length:Int))=True:=tt (by omega)
  have e3:IntKind.i64.wrap ((i:Int)+1)=((i+1:Nat):Int):=wi (by omega) (by omega)
  have q1:((cq a b i).length+1)*4≤140737488355328:=by rw [eL]; omega
  have f3:=tt q1
  have w3:IntKind.u64.wrap ((a.getD i 0:Int)+4294967296)=((a.getD i 0+4294967296:Nat):Int):=cf (by omega) (by omega)
  have w4:IntKind.u64.wrap (((a.getD i 0+4294967296:Nat):Int) - (b.getD i 0:Int))=((a.getD i 0+4294967296 - b.getD i 0:Nat):Int):=cf (by omega) (by omega)
  have w6:IntKind.u64.wrap (((a.getD i 0+4294967296 - b.getD i 0:Nat):Int) - (dn a b i:Int))=((a.getD i 0+4294967296 - b.getD i 0 - dn a b i:Nat):Int):=cf (by omega) (by omega)
  have f8:=io (n:=a.getD i 0+4294967296 - b.getD i 0 - dn a b i) (k:=32) (kk := .u64) (j:=32) rfl rfl (by omega)
  have w5:IntKind.u64.wrap (1 - (((a.getD i 0+4294967296 - b.getD i 0 - dn a b i) / 2 ^ 32:Nat):Int))=((dn a b (i+1):Nat):Int):=by
   refine cf ?_ (by have:=pO a b (i+1); omega)
   show _=(((if a.getD i 0 < b.getD i 0+dn a b i then 1 else 0:Nat)):Int)
   split <;> omega
  have f9:=kN (n:=a.getD i 0+4294967296 - b.getD i 0 - dn a b i) rfl (by omega)
  rw [show (a.getD i 0+4294967296 - b.getD i 0 - dn a b i) % 4294967296=ow a b i from rfl] at f9
  have f10:IntKind.u32.wrap ((ow a b i:Nat):Int)=((ow a b i:Nat):Int):=oo rfl (Nat.mod_lt _ (by omega))
  rw [ao]
  rw [Fm] at ih'
  generalize aq _ _ _=L at ih' ⊢
  rcases hacc with ⟨g2,h5,hh⟩ | ⟨g2,h5,hh⟩
  ·simp only [eX,go_sem,↓reduceIte,alS,alU,alT,alV,alW,h0,g1,h5,h6,h7,hh,e1,e3,t1,t2,w3,w4,w5,w6,f8,f9,f10]
   rw [g2] at ih'
   exact ih' _ _ rfl rfl rfl rfl iN
  ·simp only [eX,go_sem,↓reduceIte,alS,alU,alT,alV,alW,alX,h0,g1,h5,h6,h7,hh,e1,e3,t1,t2,w3,w4,w5,w6,f3,f8,f9,f10,true_or,Nat.zero_add,Nat.le_refl,fC]
   exact ih' _ _ rfl rfl rfl rfl gy
theorem V5 {a b:List Nat} (ha:Lb a) (hb:Lb b) (h1:a.length≤10000) (h2:b.length≤a.length) (hv:ab b≤ab a):R F.r01_Sub [lm a,lm b] []=some (lm (ap (ab a - ab b)),[]):=by
 refine aB Qk Qj (IR false) rfl ?_
 have hr:=QR ha hb (by omega) (by omega) a.length 0 (by omega)
 simp only [Int.natCast_zero] at hr
 have hall:=AC ha hb h2 hv
 have hsv:ab (cq a b a.length)=ab a - ab b:=by
  rw [hall,eI,Nat.mod_eq_of_lt]
  exact Nat.lt_of_le_of_lt (Nat.sub_le _ _) (bD ha)
 have hL:=eL a b a.length
 have hLb:=xY a b a.length
 have q0:iU 30 (cq a b 0) .emp .dead:=Or.inl ⟨rfl,rfl,rfl⟩
 have c0:dn a b 0=0:=rfl
 rw [c0] at hr
 simp only [Int.natCast_zero] at hr
 clear hall
 generalize cq a b 0=o0 at hr q0
 generalize cq a b a.length=out at hr hsv hL hLb
 have ht:=mX (m:=out) hLb (by omega)
 rw [hsv] at ht
 generalize ap (ab a - ab b)=res at ht ⊢
 generalize hLL:aq (ak R (ae false) eX) [0,1,5,6,7] [30]=L at hr
 have hX:∀ s h,ak R (ae false) (.loop [0,1,5,6,7] [30] eX) s h=L s h:=fun s h=>by rw [← hLL]; rfl
 clear hLL
 have hr2:∀ (S:aj) (H:ac) (X:Option (Ex × St)),au 0 [5] (L S H)=X→S 0=lm a→S 1=lm b→S 6=W 0→S 7=I 0→S 5 = .emp→H 30 = .dead→∃ x hh,X=some (.normal,⟨upd (fun _ => .any) 5 x,hh⟩)∧iU 30 out x (hh 30)∧∀ a,a ≠ 30→hh a = .dead:=fun S H X hX a0 a1 a6 a7 a5 b=>by
  rw [← hX]
  exact hr S H a0 a1 a6 a7 (by rw [a5,b]; exact q0)
 simp only [qJ,Fb,hX,go_sem,↓reduceIte,alS]
 generalize hB:au 0 [5] (L _ _)=X
 obtain ⟨x,hh,g0,hacc,gd⟩:=hr2 _ _ _ hB rfl rfl rfl rfl rfl rfl
 rw [g0]
 rcases hacc with ⟨c1,c2,c3⟩ | ⟨c1,c2,c3⟩
 ·rw [c1] at ht
  simp only [go_sem,↓reduceIte,alS,alU,alT,c2,ht,ne_eq,not_false_eq_true,gd]
 ·simp only [go_sem,↓reduceIte,alS,alU,alT,c2,c3,ht,ne_eq,not_false_eq_true,gd,kO,Nat.zero_add,Nat.le_refl]
end Go.Ab
