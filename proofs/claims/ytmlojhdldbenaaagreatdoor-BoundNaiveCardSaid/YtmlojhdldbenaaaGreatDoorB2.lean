/-
  The statement BoundNaive holds of the given program: its card, with the tied table of bits.TrailingZeros32; no further conditions. Part B2.
-/
import Derived.KernelRfl
import Derived.Test.YtmlojhdldbenaaaGreatDoorB1
namespace Go.Ab
def ab:List Nat→Nat
 | []=>0
 | x::l=>x+4294967296*ab l
def Lb (m:List Nat):Prop:=∀ x ∈ m,x < 4294967296
def bI:Nat→Nat→List Nat
 | 0,_=>[]
 | k+1,n=>n % 4294967296::bI k (n / 4294967296)
def ap (n:Nat):List Nat:=if h:n=0 then [] else n % 4294967296::ap (n / 4294967296)
termination_by n
decreasing_by omega
theorem ck:ap 0=[]:=by rw [ap]; rfl
theorem jf {n:Nat} (h:n ≠ 0):ap n=n % 4294967296::ap (n / 4294967296):=by rw [ap,dif_neg h]
theorem gB {n:Nat}:ap n=[]↔n=0:=by
 constructor
 ·intro h
  by_cases hn:n=0
  ·exact hn
  ·rw [jf hn] at h; cases h
 ·rintro rfl; exact ck
theorem aF (n:Nat):ab (ap n)=n:=by
 induction n using Nat.strongRecOn with
 | ind n ih =>
  by_cases h:n=0
  ·subst h; rw [ck]; rfl
  ·rw [jf h,ab,ih _ (by omega)]
   omega
theorem aM (n:Nat):Lb (ap n):=by
 induction n using Nat.strongRecOn with
 | ind n ih =>
  by_cases h:n=0
  ·subst h; rw [ck]; intro x hx; simp at hx
  ·rw [jf h]
   intro x hx
   rcases List.mem_cons.1 hx with rfl | hx
   ·omega
   ·exact ih _ (by omega) x hx
theorem sx:Lb []:=fun x hx=>by simp at hx
theorem dh {x:Nat} {l:List Nat}:Lb (x::l)↔x < 4294967296∧Lb l:=by
 constructor
 ·intro h; exact ⟨h x (by simp),fun y hy=>h y (by simp [hy])⟩
 ·rintro ⟨h1,h2⟩ y hy
  rcases List.mem_cons.1 hy with rfl | hy
  ·exact h1
  ·exact h2 y hy
theorem iv {l r:List Nat}:Lb (l++r)↔Lb l∧Lb r:=by
 constructor
 ·intro h; exact ⟨fun x hx=>h x (by simp [hx]),fun x hx=>h x (by simp [hx])⟩
 ·rintro ⟨h1,h2⟩ x hx
  rcases List.mem_append.1 hx with hx | hx
  ·exact h1 x hx
  ·exact h2 x hx
theorem jg {l:List Nat} (h:Lb l) (n:Nat):Lb (l.take n):=fun x hx=>h x (List.mem_of_mem_take hx)
theorem mf {l:List Nat} (h:Lb l) (n:Nat):Lb (l.drop n):=fun x hx=>h x (List.mem_of_mem_drop hx)
theorem bd {l:List Nat} (h:Lb l) (i:Nat):l.getD i 0 < 4294967296:=by
 rw [List.getD_eq_getElem?_getD]
 cases hq:l[i]? with
 | none=>simp
 | some x=>exact h x (List.mem_of_getElem? hq)
theorem di (l r:List Nat):ab (l++r)=ab l+4294967296 ^ l.length*ab r:=by
 induction l with
 | nil=>simp [ab]
 | cons x l ih =>
  simp only [List.cons_append,ab,ih,List.length_cons,Nat.pow_succ,Nat.mul_add]
  have:4294967296*(4294967296 ^ l.length*ab r)=4294967296 ^ l.length*4294967296*ab r:=by
   rw [Nat.mul_comm (4294967296 ^ l.length) 4294967296,Nat.mul_assoc]
  omega
theorem bC {l:List Nat} (h:Lb l):ab l < 4294967296 ^ l.length:=by
 induction l with
 | nil=>simp [ab]
 | cons x l ih =>
  obtain ⟨h1,h2⟩:=dh.1 h
  have:=ih h2
  simp only [ab,List.length_cons,Nat.pow_succ]
  omega
theorem bk (k n:Nat):(bI k n).length=k:=by
 induction k generalizing n with
 | zero=>rfl
 | succ k ih=>simp [bI,ih]
theorem gC (k n:Nat):Lb (bI k n):=by
 induction k generalizing n with
 | zero=>exact sx
 | succ k ih=>exact dh.2 ⟨by omega,ih _⟩
theorem et (k n:Nat):ab (bI k n)=n % 4294967296 ^ k:=by
 induction k generalizing n with
 | zero=>simp [bI,ab,Nat.mod_one]
 | succ k ih =>
  rw [bI,ab,ih,Nat.pow_succ,Nat.mul_comm (4294967296 ^ k),Nat.mod_mul]
theorem pn {l:List Nat} (h:Lb l):bI l.length (ab l)=l:=by
 induction l with
 | nil=>rfl
 | cons x l ih =>
  obtain ⟨h1,h2⟩:=dh.1 h
  simp only [List.length_cons,bI,ab]
  rw [show (x+4294967296*ab l) % 4294967296=x from by omega,show (x+4294967296*ab l) / 4294967296=ab l from by omega,ih h2]
theorem ajm {l r:List Nat} (h1:Lb l) (h2:Lb r) (hl:l.length=r.length) (hv:ab l=ab r):l=r:=by
 rw [← pn h1,← pn h2,hl,hv]
theorem GU (n:Nat):ab (List.replicate n 0)=0:=by
 induction n with
 | zero=>rfl
 | succ n ih=>simp [List.replicate_succ,ab,ih]
def fG (m:List Nat):Nat→Nat
 | 0=>0
 | n+1=>if m.getD n 0=0 then fG m n else n+1
theorem mS (m:List Nat):∀ n,fG m n≤n
 | 0=>Nat.le_refl _
 | n+1=>by
  unfold fG
  have:=mS m n
  split <;> omega
theorem NC (m:List Nat):∀ n,fG m n=0∨m.getD (fG m n - 1) 0 ≠ 0
 | 0 => .inl rfl
 | n+1=>by
  unfold fG
  split
  ·exact NC m n
  ·rename_i h
   exact .inr h
theorem JC (m:List Nat):∀ n i,fG m n≤i→i < n→m.getD i 0=0
 | 0,i,_,h=>by omega
 | n+1,i,h1,h2=>by
  unfold fG at h1
  split at h1
  ·rename_i h
   by_cases e:i=n
   ·rw [e]; exact h
   ·exact JC m n i h1 (by omega)
  ·omega
def pW (m:List Nat):Prop:=m=[]∨m.getD (m.length - 1) 0 ≠ 0
theorem po (x:Nat) (l:List Nat) (i:Nat):(x::l).getD (i+1) 0=l.getD i 0:=by simp [List.getD_eq_getElem?_getD]
theorem C5 {x:Nat} {l:List Nat} (h:pW (x::l)):pW l:=by
 rcases h with h | h
 ·cases h
 ·cases l with
  | nil=>exact .inl rfl
  | cons y l =>
   refine .inr ?_
   simp only [List.length_cons,Nat.add_sub_cancel] at h ⊢
   rwa [po] at h
theorem yc {l:List Nat} (h:pW l) (hne:l ≠ []):ab l ≠ 0:=by
 induction l with
 | nil=>exact absurd rfl hne
 | cons x l ih =>
  cases l with
  | nil =>
   rcases h with h | h
   ·cases h
   ·simp at h
    simp [ab]
    exact h
  | cons y l =>
   have:=ih (C5 h) (by simp)
   rw [ab]
   omega
theorem pp {l:List Nat} (h1:Lb l) (h2:pW l):ap (ab l)=l:=by
 induction l with
 | nil=>exact ck
 | cons x l ih =>
  obtain ⟨h3,h4⟩:=dh.1 h1
  rw [jf (yc h2 (by simp)),ab,show (x+4294967296*ab l) % 4294967296=x from by omega,show (x+4294967296*ab l) / 4294967296=ab l from by omega,ih h4 (C5 h2)]
theorem yd (n:Nat):pW (ap n):=by
 induction n using Nat.strongRecOn with
 | ind n ih =>
  by_cases h:n=0
  ·subst h; rw [ck]; exact .inl rfl
  ·rw [jf h]
   refine .inr ?_
   rcases ih (n / 4294967296) (by omega) with h2 | h2
   ·have h3:=gB.1 h2
    rw [h2]
    simp
    omega
   ·cases hq:ap (n / 4294967296) with
    | nil =>
     have h3:=gB.1 hq
     simp
     omega
    | cons y l =>
     rw [hq] at h2
     simp only [List.length_cons,Nat.add_sub_cancel] at h2 ⊢
     rw [po]
     exact h2
theorem JD (m:List Nat):ab (m.take (fG m m.length))=ab m:=by
 have h:m=m.take (fG m m.length)++m.drop (fG m m.length):=(List.take_append_drop _ _).symm
 have hz:m.drop (fG m m.length)=List.replicate (m.length - fG m m.length) 0:=by
  rw [List.eq_replicate_iff]
  refine ⟨by simp,fun x hx => ?_⟩
  obtain ⟨i,hi⟩:=List.getElem?_of_mem hx
  rw [List.getElem?_drop] at hi
  have hl:=(List.getElem?_eq_some_iff.1 hi).1
  have:=JC m m.length (fG m m.length+i) (by omega) hl
  rw [List.getD_eq_getElem?_getD,hi] at this
  exact this
 conv=>rhs; rw [h]
 rw [di,hz,GU]
 simp
theorem EH (m:List Nat):pW (m.take (fG m m.length)):=by
 have hl:=mS m m.length
 rcases NC m m.length with h | h
 ·rw [h]; exact .inl rfl
 ·by_cases h0:fG m m.length=0
  ·rw [h0]; exact .inl rfl
  ·refine .inr ?_
   rw [List.length_take,Nat.min_eq_left hl,List.getD_eq_getElem?_getD,List.getElem?_take,if_pos (by omega),← List.getD_eq_getElem?_getD]
   exact h
theorem vP {m:List Nat} (h:Lb m):m.take (fG m m.length)=ap (ab m):=by
 rw [← pp (jg h _) (EH m),JD]
theorem fU {n k:Nat} (h:n < 4294967296 ^ k):(ap n).length≤k:=by
 induction k generalizing n with
 | zero =>
  simp at h
  subst h
  rw [ck]
  simp
 | succ k ih =>
  by_cases h0:n=0
  ·subst h0; rw [ck]; simp
  ·rw [jf h0,List.length_cons]
   have:=ih (n:=n / 4294967296) (by
    rw [Nat.pow_succ] at h
    exact Nat.div_lt_of_lt_mul (by rw [Nat.mul_comm]; exact h))
   omega
theorem hR (n:Nat):n < 4294967296 ^ (ap n).length:=by
 have:=bC (aM n)
 rwa [aF] at this
theorem Re {n:Nat} (h:n ≠ 0):4294967296 ^ ((ap n).length - 1)≤n:=by
 induction n using Nat.strongRecOn with
 | ind n ih =>
  rw [jf h,List.length_cons,Nat.add_sub_cancel]
  by_cases h0:n / 4294967296=0
  ·rw [h0,ck]; simp; omega
  ·have h1:=ih _ (by omega) h0
   have h2:(ap (n / 4294967296)).length ≠ 0:=by
    intro e
    exact h0 (gB.1 (List.length_eq_zero_iff.1 e))
   obtain ⟨k,hk⟩:∃ k,(ap (n / 4294967296)).length=k+1:=⟨_,(Nat.succ_pred_eq_of_pos (by omega)).symm⟩
   rw [hk] at h1 ⊢
   simp only [Nat.add_sub_cancel] at h1
   rw [Nat.pow_succ]
   omega
theorem ZX {k n:Nat} (h:n < 4294967296 ^ k):ap (ab (bI k n))=ap n:=by
 rw [et,Nat.mod_eq_of_lt h]
def tz (n:Nat):Nat:=if h:n=0 then 0 else if n % 2=1 then 0 else tz (n / 2)+1
termination_by n
decreasing_by omega
theorem sy {n:Nat} (h:n % 2=1):tz n=0:=by
 rw [tz,dif_neg (by omega),if_pos h]
theorem JE {n:Nat} (h:n ≠ 0):tz (2*n)=tz n+1:=by
 rw [tz,dif_neg (by omega),if_neg (by omega),Nat.mul_div_cancel_left n (by decide)]
theorem C6 {n:Nat} (k:Nat) (h:n ≠ 0):tz (2 ^ k*n)=k+tz n:=by
 induction k with
 | zero=>rw [Nat.pow_zero,Nat.one_mul,Nat.zero_add]
 | succ k ih =>
  rw [Nat.pow_succ,Nat.mul_comm (2 ^ k) 2,Nat.mul_assoc,JE (Nat.mul_ne_zero (Nat.ne_of_gt (Nat.two_pow_pos k)) h),ih]
  omega
theorem pq {n:Nat} (h:n ≠ 0):n=2 ^ tz n*(n / 2 ^ tz n)∧n / 2 ^ tz n % 2=1:=by
 induction n using Nat.strongRecOn with
 | ind n ih =>
  by_cases h1:n % 2=1
  ·rw [sy h1,Nat.pow_zero,Nat.div_one,Nat.one_mul]
   exact ⟨rfl,h1⟩
  ·have hn:n=2*(n / 2):=by omega
   have h2:n / 2 ≠ 0:=by omega
   obtain ⟨e1,e2⟩:=ih (n / 2) (by omega) h2
   have e3:tz n=tz (n / 2)+1:=by
    conv=>lhs; rw [hn]
    exact JE h2
   have e4:n / 2 ^ (tz (n / 2)+1)=n / 2 / 2 ^ tz (n / 2):=by rw [Nat.pow_succ,Nat.mul_comm,Nat.div_div_eq_div_mul]
   rw [e3,e4]
   refine ⟨?_,e2⟩
   rw [Nat.pow_succ,Nat.mul_comm (2 ^ tz (n / 2)) 2,Nat.mul_assoc,← e1]
   exact hn
theorem X7 {x k:Nat} (y:Nat) (h:x ≠ 0) (hx:x < 2 ^ k):tz (x+2 ^ k*y)=tz x:=by
 obtain ⟨e1,e2⟩:=pq h
 generalize x / 2 ^ tz x=q at e1 e2
 have hle:2 ^ tz x≤x:=by
  conv=>rhs; rw [e1]
  exact Nat.le_mul_of_pos_right _ (by omega)
 have hk:tz x < k:=(Nat.pow_lt_pow_iff_right (by decide:1 < 2)).1 (Nat.lt_of_le_of_lt hle hx)
 generalize hz:2 ^ (k - tz x - 1)*y=z
 have e3:x+2 ^ k*y=2 ^ tz x*(q+2*z):=by
  have e4:2 ^ k=2 ^ tz x*(2*2 ^ (k - tz x - 1)):=by
   rw [← Nat.pow_succ',← Nat.pow_add]
   congr 1
   omega
  rw [Nat.mul_add,← e1,e4,← hz]
  simp only [Nat.mul_assoc]
 have e5:(q+2*z) % 2=1:=by omega
 rw [e3,C6 _ (by omega),sy e5,Nat.add_zero]
theorem IC {x k:Nat} (h:x ≠ 0) (hx:x < 2 ^ k):tz x < k:=by
 obtain ⟨e1,e2⟩:=pq h
 generalize x / 2 ^ tz x=q at e1 e2
 have hle:2 ^ tz x≤x:=by
  conv=>rhs; rw [e1]
  exact Nat.le_mul_of_pos_right _ (by omega)
 exact (Nat.pow_lt_pow_iff_right (by decide:1 < 2)).1 (Nat.lt_of_le_of_lt hle hx)
def GV:Nat→Nat→Nat
 | 0,_=>0
 | k+1,n=>if n % 2=1 then 0 else GV k (n / 2)+1
theorem X8:∀ (k x:Nat),x ≠ 0→x < 2 ^ k→GV k x=tz x:=by
 intro k
 induction k with
 | zero=>intro x h0 h1; omega
 | succ k ih =>
  intro x h0 h1
  unfold GV
  by_cases h:x % 2=1
  ·rw [if_pos h,sy h]
  ·rw [if_neg h,ih (x / 2) (by omega) (by rw [Nat.pow_succ] at h1; omega)]
   have:=JE (n:=x / 2) (by omega)
   rw [show 2*(x / 2)=x by omega] at this
   exact this.symm
def Vl (as:List AV) (hs:List Ob):Option (AV × List Ob):=match as with
 | [.v (.int .u32 n)]=>if 0 < n∧n < 4294967296∧hs=[] then some (.v (.int .i64 (GV 32 n.toNat:Nat)),[]) else none
 | _=>none
def X9:List (Nat × (List AV→List Ob→Option (AV × List Ob))):=[(F.bits_TrailingZeros32,Vl)]
def ai:Env:=⟨fun f=>X9.lookup f,fun f=>Vk.lookup f,⟨fun f=>(mdL.lookup f).getD [],fun f=>(shL.lookup f).getD [],fun f=>keepL.contains f,false⟩⟩
def ae (b:Bool):Mode:={ ai.md with nm:=b }
noncomputable def R:eH:=cW ai
theorem Ya {f:FuncId} {fd:FD} {args:List AV} {hs:List Ob} {r:AV × List Ob} (b:Bool) (hE:ai.E f=none) (hC:ai.C f=some fd) (hk:ai.md.keep f=b) (h1:args.length=fd.np) (h2:hs.length≤1000)
  (hz:eE b fd.rs fd.res hs.length (ak R (ae b) fd.body (rR args) (aB hs))=some r):R f args hs=some r:=by
 refine GF hE hC ?_
 unfold OZ
 rw [if_pos ⟨h1,h2⟩]
 subst hk
 exact hz
@[go_sem] theorem akL (b:Bool):(ae b).nm=b:=_root_.id rfl
@[go_sem] theorem nf (b f):(ae b).m f=[]:=_root_.id rfl
@[go_sem] theorem aeU (b h d f as):d7 R (ae b) h d as (.fn f [] [])=(ef h [] as).bind (O1 R (ae b) d f):=Js d (nf b f)
theorem AZ:ai.C F.l24_BoundNaive=some dt:=by kernel_rfl
theorem A1:ai.E F.l24_BoundNaive=none:=by kernel_rfl
@[go_sem] theorem Ta (b):(ae b).sh F.l24_BoundNaive=[[.o 0 [],.o 5 [.o 2 [],.o 0 [],.o 2 [],.o 0 []]],[.o 8 [.o 0 [],.o 2 [],.o 0 [],.o 0 [],.o 2 [],.o 0 [],.o 0 []]],[]]:=_root_.id (by kernel_rfl)
@[go_sem] theorem w7 (b):(ae b).keep F.l24_BoundNaive=false:=_root_.id (by kernel_rfl)
@[go_sem] theorem Yb (b):(ae b).sh F.l24_awake=[]:=_root_.id (by kernel_rfl)
@[go_sem] theorem V3 (b):(ae b).keep F.l24_awake=false:=_root_.id (by kernel_rfl)
theorem Rf:ai.C F.l24_few=some lN:=by kernel_rfl
theorem Rg:ai.E F.l24_few=none:=by kernel_rfl
@[go_sem] theorem aba (b):(ae b).sh F.l24_few=[[.o 0 [],.o 5 [.o 2 [],.o 0 [],.o 2 [],.o 0 []]]]:=_root_.id (by kernel_rfl)
@[go_sem] theorem JF (b):(ae b).keep F.l24_few=false:=_root_.id (by kernel_rfl)
theorem O6:ai.C F.l24_near=some mJ:=by kernel_rfl
theorem O7:ai.E F.l24_near=none:=by kernel_rfl
@[go_sem] theorem ZY (b):(ae b).sh F.l24_near=[[.o 8 [.o 0 [],.o 2 [],.o 0 [],.o 0 [],.o 2 [],.o 0 [],.o 0 []]]]:=_root_.id (by kernel_rfl)
@[go_sem] theorem Hi (b):(ae b).keep F.l24_near=false:=_root_.id (by kernel_rfl)
theorem Mj:ai.C F.l24_equal=some lj:=by kernel_rfl
theorem Mk:ai.E F.l24_equal=none:=by kernel_rfl
@[go_sem] theorem Yc (b):(ae b).sh F.l24_equal=[[.o 0 [],.o 2 [],.o 0 [],.o 0 [],.o 2 [],.o 0 [],.o 0 []],[.o 0 [],.o 2 [],.o 0 [],.o 0 [],.o 2 [],.o 0 [],.o 0 []]]:=_root_.id (by kernel_rfl)
@[go_sem] theorem EI (b):(ae b).keep F.l24_equal=false:=_root_.id (by kernel_rfl)
theorem Hj:ai.C F.bound_Naive=some iS:=by kernel_rfl
theorem Hk:ai.E F.bound_Naive=none:=by kernel_rfl
@[go_sem] theorem V4 (b):(ae b).sh F.bound_Naive=[[.o 0 [],.o 5 [.o 2 [],.o 0 [],.o 2 [],.o 0 []]],[.o 8 [.o 0 [],.o 2 [],.o 0 [],.o 0 [],.o 2 [],.o 0 [],.o 0 []]],[]]:=_root_.id (by kernel_rfl)
@[go_sem] theorem A3 (b):(ae b).keep F.bound_Naive=false:=_root_.id (by kernel_rfl)
theorem Ml:ai.C F.r24_Naive=some iT:=by kernel_rfl
theorem Mm:ai.E F.r24_Naive=none:=by kernel_rfl
@[go_sem] theorem Yd (b):(ae b).sh F.r24_Naive=[[.o 0 [],.o 5 [.o 2 [],.o 0 [],.o 2 [],.o 0 []]],[.o 8 [.o 0 [],.o 2 [],.o 0 [],.o 0 [],.o 2 [],.o 0 [],.o 0 []]],[]]:=_root_.id (by kernel_rfl)
@[go_sem] theorem EJ (b):(ae b).keep F.r24_Naive=false:=_root_.id (by kernel_rfl)
theorem Mn:ai.C F.r05_Equal=some og:=by kernel_rfl
theorem Mo:ai.E F.r05_Equal=none:=by kernel_rfl
@[go_sem] theorem Ye (b):(ae b).sh F.r05_Equal=[[.o 0 [],.o 2 [],.o 0 [],.o 0 [],.o 2 [],.o 0 [],.o 0 []],[.o 0 [],.o 2 [],.o 0 [],.o 0 [],.o 2 [],.o 0 [],.o 0 []]]:=_root_.id (by kernel_rfl)
@[go_sem] theorem EK (b):(ae b).keep F.r05_Equal=false:=_root_.id (by kernel_rfl)
theorem jO:ai.C F.slices_ContainsFunc_api_Term_api_Term_=some cd:=by kernel_rfl
theorem jP:ai.E F.slices_ContainsFunc_api_Term_api_Term_=none:=by kernel_rfl
@[go_sem] theorem vg (b):(ae b).sh F.slices_ContainsFunc_api_Term_api_Term_=[[.o 5 [.o 2 [],.o 0 [],.o 2 [],.o 0 []]],[]]:=_root_.id (by kernel_rfl)
@[go_sem] theorem iH (b):(ae b).keep F.slices_ContainsFunc_api_Term_api_Term_=false:=_root_.id (by kernel_rfl)
theorem Mp:ai.C F.l24_few_1=some lk:=by kernel_rfl
theorem Mq:ai.E F.l24_few_1=none:=by kernel_rfl
@[go_sem] theorem Yf (b):(ae b).sh F.l24_few_1=[[.o 2 [],.o 0 [],.o 2 [],.o 0 []]]:=_root_.id (by kernel_rfl)
@[go_sem] theorem EL (b):(ae b).keep F.l24_few_1=false:=_root_.id (by kernel_rfl)
theorem O8:ai.C F.l24_long=some kc:=by kernel_rfl
theorem O9:ai.E F.l24_long=none:=by kernel_rfl
@[go_sem] theorem ZZ (b):(ae b).sh F.l24_long=[[.o 0 [],.o 2 [],.o 0 []]]:=_root_.id (by kernel_rfl)
@[go_sem] theorem Hl (b):(ae b).keep F.l24_long=false:=_root_.id (by kernel_rfl)
theorem cY:ai.C F.slices_ContainsFunc_api_Interval_api_Interval_=some bE:=by kernel_rfl
theorem cZ:ai.E F.slices_ContainsFunc_api_Interval_api_Interval_=none:=by kernel_rfl
@[go_sem] theorem rG (b):(ae b).sh F.slices_ContainsFunc_api_Interval_api_Interval_=[[.o 8 [.o 0 [],.o 2 [],.o 0 [],.o 0 [],.o 2 [],.o 0 [],.o 0 []]],[]]:=_root_.id (by kernel_rfl)
@[go_sem] theorem cH (b):(ae b).keep F.slices_ContainsFunc_api_Interval_api_Interval_=false:=_root_.id (by kernel_rfl)
theorem JG:ai.C F.l24_near_1=some jX:=by kernel_rfl
theorem JH:ai.E F.l24_near_1=none:=by kernel_rfl
@[go_sem] theorem Xk (b):(ae b).sh F.l24_near_1=[[.o 0 [],.o 2 [],.o 0 [],.o 0 [],.o 2 [],.o 0 [],.o 0 []]]:=_root_.id (by kernel_rfl)
@[go_sem] theorem C7 (b):(ae b).keep F.l24_near_1=false:=_root_.id (by kernel_rfl)
theorem JI:ai.C F.bound_fits=some g8:=by kernel_rfl
theorem JJ:ai.E F.bound_fits=none:=by kernel_rfl
@[go_sem] theorem Xl (b):(ae b).sh F.bound_fits=[[.o 0 [],.o 5 [.o 2 [],.o 0 [],.o 2 [],.o 0 []]],[.o 8 [.o 0 [],.o 2 [],.o 0 [],.o 0 [],.o 2 [],.o 0 [],.o 0 []]],[]]:=_root_.id (by kernel_rfl)
@[go_sem] theorem C8 (b):(ae b).keep F.bound_fits=false:=_root_.id (by kernel_rfl)
theorem Hm:ai.C F.bound_whole=some lO:=by kernel_rfl
theorem Hn:ai.E F.bound_whole=none:=by kernel_rfl
@[go_sem] theorem V5 (b):(ae b).sh F.bound_whole=[]:=_root_.id (by kernel_rfl)
@[go_sem] theorem A4 (b):(ae b).keep F.bound_whole=false:=_root_.id (by kernel_rfl)
theorem A5:ai.C F.interval_Point=some iK:=by kernel_rfl
theorem A6:ai.E F.interval_Point=none:=by kernel_rfl
@[go_sem] theorem Tb (b):(ae b).sh F.interval_Point=[[.o 0 [],.o 2 [],.o 0 []]]:=_root_.id (by kernel_rfl)
@[go_sem] theorem w9 (b):(ae b).keep F.interval_Point=false:=_root_.id (by kernel_rfl)
theorem EM:ai.C F.interval_Mul=some fJ:=by kernel_rfl
theorem EN:ai.E F.interval_Mul=none:=by kernel_rfl
@[go_sem] theorem Vm (b):(ae b).sh F.interval_Mul=[[.o 0 [],.o 2 [],.o 0 [],.o 0 [],.o 2 [],.o 0 [],.o 0 []],[.o 0 [],.o 2 [],.o 0 [],.o 0 [],.o 2 [],.o 0 [],.o 0 []],[]]:=_root_.id (by kernel_rfl)
@[go_sem] theorem zN (b):(ae b).keep F.interval_Mul=false:=_root_.id (by kernel_rfl)
theorem Ho:ai.C F.bound_power=some iU:=by kernel_rfl
theorem Hp:ai.E F.bound_power=none:=by kernel_rfl
@[go_sem] theorem V6 (b):(ae b).sh F.bound_power=[[.o 0 [],.o 2 [],.o 0 [],.o 0 [],.o 2 [],.o 0 [],.o 0 []],[],[]]:=_root_.id (by kernel_rfl)
@[go_sem] theorem A7 (b):(ae b).keep F.bound_power=false:=_root_.id (by kernel_rfl)
theorem EO:ai.C F.interval_Add=some fK:=by kernel_rfl
theorem EP:ai.E F.interval_Add=none:=by kernel_rfl
@[go_sem] theorem Vn (b):(ae b).sh F.interval_Add=[[.o 0 [],.o 2 [],.o 0 [],.o 0 [],.o 2 [],.o 0 [],.o 0 []],[.o 0 [],.o 2 [],.o 0 [],.o 0 [],.o 2 [],.o 0 [],.o 0 []],[]]:=_root_.id (by kernel_rfl)
@[go_sem] theorem zO (b):(ae b).keep F.interval_Add=false:=_root_.id (by kernel_rfl)
theorem JK:ai.C F.r24_Domain=some fS:=by kernel_rfl
theorem JL:ai.E F.r24_Domain=none:=by kernel_rfl
@[go_sem] theorem Xm (b):(ae b).sh F.r24_Domain=[[.o 0 [],.o 5 [.o 2 [],.o 0 [],.o 2 [],.o 0 []]],[.o 8 [.o 0 [],.o 2 [],.o 0 [],.o 0 [],.o 2 [],.o 0 [],.o 0 []]]]:=_root_.id (by kernel_rfl)
@[go_sem] theorem C9 (b):(ae b).keep F.r24_Domain=false:=_root_.id (by kernel_rfl)
theorem Pa:ai.C F.r03_Prec=some mK:=by kernel_rfl
theorem Pb:ai.E F.r03_Prec=none:=by kernel_rfl
@[go_sem] theorem Z0 (b):(ae b).sh F.r03_Prec=[]:=_root_.id (by kernel_rfl)
@[go_sem] theorem Hq (b):(ae b).keep F.r03_Prec=false:=_root_.id (by kernel_rfl)
theorem Mr:ai.C F.r05_Whole=some oj:=by kernel_rfl
theorem Ms:ai.E F.r05_Whole=none:=by kernel_rfl
@[go_sem] theorem Yg (b):(ae b).sh F.r05_Whole=[]:=_root_.id (by kernel_rfl)
@[go_sem] theorem EQ (b):(ae b).keep F.r05_Whole=false:=_root_.id (by kernel_rfl)
theorem Mt:ai.C F.r05_Point=some om:=by kernel_rfl
theorem Mu:ai.E F.r05_Point=none:=by kernel_rfl
@[go_sem] theorem Yh (b):(ae b).sh F.r05_Point=[[.o 0 [],.o 2 [],.o 0 []]]:=_root_.id (by kernel_rfl)
@[go_sem] theorem ER (b):(ae b).keep F.r05_Point=false:=_root_.id (by kernel_rfl)
theorem Rh:ai.C F.r05_Mul=some jB:=by kernel_rfl
theorem Rj:ai.E F.r05_Mul=none:=by kernel_rfl
@[go_sem] theorem abb (b):(ae b).sh F.r05_Mul=[[.o 0 [],.o 2 [],.o 0 [],.o 0 [],.o 2 [],.o 0 [],.o 0 []],[.o 0 [],.o 2 [],.o 0 [],.o 0 [],.o 2 [],.o 0 [],.o 0 []],[]]:=_root_.id (by kernel_rfl)
@[go_sem] theorem JM (b):(ae b).keep F.r05_Mul=false:=_root_.id (by kernel_rfl)
theorem Mv:ai.C F.r24_power=some lq:=by kernel_rfl
theorem Mw:ai.E F.r24_power=none:=by kernel_rfl
@[go_sem] theorem Yi (b):(ae b).sh F.r24_power=[[.o 0 [],.o 2 [],.o 0 [],.o 0 [],.o 2 [],.o 0 [],.o 0 []],[],[]]:=_root_.id (by kernel_rfl)
@[go_sem] theorem ES (b):(ae b).keep F.r24_power=false:=_root_.id (by kernel_rfl)
theorem Rk:ai.C F.r05_Add=some jC:=by kernel_rfl
theorem Rl:ai.E F.r05_Add=none:=by kernel_rfl
@[go_sem] theorem abc (b):(ae b).sh F.r05_Add=[[.o 0 [],.o 2 [],.o 0 [],.o 0 [],.o 2 [],.o 0 [],.o 0 []],[.o 0 [],.o 2 [],.o 0 [],.o 0 [],.o 2 [],.o 0 [],.o 0 []],[]]:=_root_.id (by kernel_rfl)
@[go_sem] theorem JN (b):(ae b).keep F.r05_Add=false:=_root_.id (by kernel_rfl)
theorem Rm:ai.C F.r02_Int=some rl:=by kernel_rfl
theorem Rn:ai.E F.r02_Int=none:=by kernel_rfl
@[go_sem] theorem abd (b):(ae b).sh F.r02_Int=[]:=_root_.id (by kernel_rfl)
@[go_sem] theorem JO (b):(ae b).keep F.r02_Int=false:=_root_.id (by kernel_rfl)
theorem Mx:ai.C F.r02_Equal=some oo:=by kernel_rfl
theorem My:ai.E F.r02_Equal=none:=by kernel_rfl
@[go_sem] theorem Yj (b):(ae b).sh F.r02_Equal=[[.o 0 [],.o 2 [],.o 0 []],[.o 0 [],.o 2 [],.o 0 []]]:=_root_.id (by kernel_rfl)
@[go_sem] theorem ET (b):(ae b).keep F.r02_Equal=false:=_root_.id (by kernel_rfl)
theorem Mz:ai.C F.r05_Valid=some fy:=by kernel_rfl
theorem MA:ai.E F.r05_Valid=none:=by kernel_rfl
@[go_sem] theorem Yk (b):(ae b).sh F.r05_Valid=[[.o 0 [],.o 2 [],.o 0 [],.o 0 [],.o 2 [],.o 0 [],.o 0 []]]:=_root_.id (by kernel_rfl)
@[go_sem] theorem EU (b):(ae b).keep F.r05_Valid=false:=_root_.id (by kernel_rfl)
theorem Ro:ai.C F.r02_Cmp=some ej:=by kernel_rfl
theorem Rq:ai.E F.r02_Cmp=none:=by kernel_rfl
@[go_sem] theorem abe (b):(ae b).sh F.r02_Cmp=[[.o 0 [],.o 2 [],.o 0 []],[.o 0 [],.o 2 [],.o 0 []]]:=_root_.id (by kernel_rfl)
@[go_sem] theorem JP (b):(ae b).keep F.r02_Cmp=false:=_root_.id (by kernel_rfl)
theorem kR:ai.C F.slices_IndexFunc_api_Term_api_Term_=some cK:=by kernel_rfl
theorem kS:ai.E F.slices_IndexFunc_api_Term_api_Term_=none:=by kernel_rfl
@[go_sem] theorem kx (b):(ae b).sh F.slices_IndexFunc_api_Term_api_Term_=[[.o 5 [.o 2 [],.o 0 [],.o 2 [],.o 0 []]],[]]:=_root_.id (by kernel_rfl)
@[go_sem] theorem jQ (b):(ae b).keep F.slices_IndexFunc_api_Term_api_Term_=false:=_root_.id (by kernel_rfl)
theorem dv:ai.C F.slices_IndexFunc_api_Interval_api_Interval_=some bH:=by kernel_rfl
theorem dw:ai.E F.slices_IndexFunc_api_Interval_api_Interval_=none:=by kernel_rfl
@[go_sem] theorem dm (b):(ae b).sh F.slices_IndexFunc_api_Interval_api_Interval_=[[.o 8 [.o 0 [],.o 2 [],.o 0 [],.o 0 [],.o 2 [],.o 0 [],.o 0 []]],[]]:=_root_.id (by kernel_rfl)
@[go_sem] theorem c8 (b):(ae b).keep F.slices_IndexFunc_api_Interval_api_Interval_=false:=_root_.id (by kernel_rfl)
theorem EV:ai.C F.bound_domain=some fM:=by kernel_rfl
theorem EW:ai.E F.bound_domain=none:=by kernel_rfl
@[go_sem] theorem Vo (b):(ae b).sh F.bound_domain=[[.o 0 [],.o 5 [.o 2 [],.o 0 [],.o 2 [],.o 0 []]],[.o 8 [.o 0 [],.o 2 [],.o 0 [],.o 0 [],.o 2 [],.o 0 [],.o 0 []]]]:=_root_.id (by kernel_rfl)
@[go_sem] theorem zP (b):(ae b).keep F.bound_domain=false:=_root_.id (by kernel_rfl)
theorem EX:ai.C F.dyadic_Valid=some cM:=by kernel_rfl
theorem EY:ai.E F.dyadic_Valid=none:=by kernel_rfl
@[go_sem] theorem Vp (b):(ae b).sh F.dyadic_Valid=[[.o 0 [],.o 2 [],.o 0 []]]:=_root_.id (by kernel_rfl)
@[go_sem] theorem zQ (b):(ae b).keep F.dyadic_Valid=false:=_root_.id (by kernel_rfl)
theorem A8:ai.C F.interval_Whole=some iL:=by kernel_rfl
theorem A9:ai.E F.interval_Whole=none:=by kernel_rfl
@[go_sem] theorem Tc (b):(ae b).sh F.interval_Whole=[]:=_root_.id (by kernel_rfl)
@[go_sem] theorem xc (b):(ae b).keep F.interval_Whole=false:=_root_.id (by kernel_rfl)
theorem Ba:ai.C F.interval_known=some fZ:=by kernel_rfl
theorem Bb:ai.E F.interval_known=none:=by kernel_rfl
@[go_sem] theorem Td (b):(ae b).sh F.interval_known=[[.o 8 [.o 0 [],.o 2 [],.o 0 [],.o 0 [],.o 2 [],.o 0 [],.o 0 []]]]:=_root_.id (by kernel_rfl)
@[go_sem] theorem xd (b):(ae b).keep F.interval_known=false:=_root_.id (by kernel_rfl)
theorem vQ:ai.C F.interval_permitted=some dW:=by kernel_rfl
theorem vR:ai.E F.interval_permitted=none:=by kernel_rfl
@[go_sem] theorem ND (b):(ae b).sh F.interval_permitted=[]:=_root_.id (by kernel_rfl)
@[go_sem] theorem s0 (b):(ae b).keep F.interval_permitted=false:=_root_.id (by kernel_rfl)
theorem Da:ai.C F.interval_four=some jF:=by kernel_rfl
theorem Db:ai.E F.interval_four=none:=by kernel_rfl
@[go_sem] theorem TZ (b):(ae b).sh F.interval_four=[[.o 0 [],.o 2 [],.o 0 [],.o 0 [],.o 2 [],.o 0 [],.o 0 []],[.o 0 [],.o 2 [],.o 0 [],.o 0 [],.o 2 [],.o 0 [],.o 0 []],[],[],[]]:=_root_.id (by kernel_rfl)
@[go_sem] theorem ye (b):(ae b).keep F.interval_four=false:=_root_.id (by kernel_rfl)
theorem Dc:ai.C F.round_MulDown=some jG:=by kernel_rfl
theorem Dd:ai.E F.round_MulDown=none:=by kernel_rfl
@[go_sem] theorem T0 (b):(ae b).sh F.round_MulDown=[[.o 0 [],.o 2 [],.o 0 []],[.o 0 [],.o 2 [],.o 0 []],[]]:=_root_.id (by kernel_rfl)
@[go_sem] theorem yf (b):(ae b).keep F.round_MulDown=false:=_root_.id (by kernel_rfl)
theorem Hr:ai.C F.round_MulUp=some lS:=by kernel_rfl
theorem Hs:ai.E F.round_MulUp=none:=by kernel_rfl
@[go_sem] theorem V7 (b):(ae b).sh F.round_MulUp=[[.o 0 [],.o 2 [],.o 0 []],[.o 0 [],.o 2 [],.o 0 []],[]]:=_root_.id (by kernel_rfl)
@[go_sem] theorem Bc (b):(ae b).keep F.round_MulUp=false:=_root_.id (by kernel_rfl)
theorem Bd:ai.C F.interval_Power=some bU:=by kernel_rfl
theorem Be:ai.E F.interval_Power=none:=by kernel_rfl
@[go_sem] theorem Te (b):(ae b).sh F.interval_Power=[[.o 0 [],.o 2 [],.o 0 [],.o 0 [],.o 2 [],.o 0 [],.o 0 []],[],[]]:=_root_.id (by kernel_rfl)
@[go_sem] theorem xe (b):(ae b).keep F.interval_Power=false:=_root_.id (by kernel_rfl)
theorem De:ai.C F.round_AddDown=some jH:=by kernel_rfl
theorem Df:ai.E F.round_AddDown=none:=by kernel_rfl
@[go_sem] theorem T1 (b):(ae b).sh F.round_AddDown=[[.o 0 [],.o 2 [],.o 0 []],[.o 0 [],.o 2 [],.o 0 []],[]]:=_root_.id (by kernel_rfl)
@[go_sem] theorem yg (b):(ae b).keep F.round_AddDown=false:=_root_.id (by kernel_rfl)
theorem Ht:ai.C F.round_AddUp=some lT:=by kernel_rfl
theorem Hu:ai.E F.round_AddUp=none:=by kernel_rfl
@[go_sem] theorem V8 (b):(ae b).sh F.round_AddUp=[[.o 0 [],.o 2 [],.o 0 []],[.o 0 [],.o 2 [],.o 0 []],[]]:=_root_.id (by kernel_rfl)
@[go_sem] theorem Bf (b):(ae b).keep F.round_AddUp=false:=_root_.id (by kernel_rfl)
theorem Dg:ai.C F.interval_made=some eO:=by kernel_rfl
theorem Dh:ai.E F.interval_made=none:=by kernel_rfl
@[go_sem] theorem T2 (b):(ae b).sh F.interval_made=[[.o 0 [],.o 2 [],.o 0 []],[],[.o 0 [],.o 2 [],.o 0 []],[]]:=_root_.id (by kernel_rfl)
@[go_sem] theorem yh (b):(ae b).keep F.interval_made=false:=_root_.id (by kernel_rfl)
theorem MB:ai.C F.r23_Valid=some fA:=by kernel_rfl
theorem MC:ai.E F.r23_Valid=none:=by kernel_rfl
@[go_sem] theorem Yl (b):(ae b).sh F.r23_Valid=[[.o 0 [],.o 5 [.o 2 [],.o 0 [],.o 2 [],.o 0 []]]]:=_root_.id (by kernel_rfl)
@[go_sem] theorem EZ (b):(ae b).keep F.r23_Valid=false:=_root_.id (by kernel_rfl)
theorem Pc:ai.C F.r05_Prec=some mL:=by kernel_rfl
theorem Pd:ai.E F.r05_Prec=none:=by kernel_rfl
@[go_sem] theorem Z1 (b):(ae b).sh F.r05_Prec=[]:=_root_.id (by kernel_rfl)
@[go_sem] theorem Hv (b):(ae b).keep F.r05_Prec=false:=_root_.id (by kernel_rfl)
theorem MD:ai.C F.r05_known=some lr:=by kernel_rfl
theorem ME:ai.E F.r05_known=none:=by kernel_rfl
@[go_sem] theorem Ym (b):(ae b).sh F.r05_known=[[.o 0 [],.o 2 [],.o 0 [],.o 0 [],.o 2 [],.o 0 [],.o 0 []]]:=_root_.id (by kernel_rfl)
@[go_sem] theorem E0 (b):(ae b).keep F.r05_known=false:=_root_.id (by kernel_rfl)
theorem Pe:ai.C F.r05_ends=some pP:=by kernel_rfl
theorem Pf:ai.E F.r05_ends=none:=by kernel_rfl
@[go_sem] theorem Z2 (b):(ae b).sh F.r05_ends=[[.o 0 [],.o 2 [],.o 0 [],.o 0 [],.o 2 [],.o 0 [],.o 0 []],[.o 0 [],.o 2 [],.o 0 [],.o 0 [],.o 2 [],.o 0 [],.o 0 []]]:=_root_.id (by kernel_rfl)
@[go_sem] theorem Hw (b):(ae b).keep F.r05_ends=false:=_root_.id (by kernel_rfl)
theorem Rr:ai.C F.r03_Mul=some oq:=by kernel_rfl
theorem Rs:ai.E F.r03_Mul=none:=by kernel_rfl
@[go_sem] theorem abf (b):(ae b).sh F.r03_Mul=[[.o 0 [],.o 2 [],.o 0 []],[.o 0 [],.o 2 [],.o 0 []],[],[]]:=_root_.id (by kernel_rfl)
@[go_sem] theorem JQ (b):(ae b).keep F.r03_Mul=false:=_root_.id (by kernel_rfl)
theorem MF:ai.C F.r05_least=some ls:=by kernel_rfl
theorem MG:ai.E F.r05_least=none:=by kernel_rfl
@[go_sem] theorem Yn (b):(ae b).sh F.r05_least=[[.o 0 [],.o 2 [],.o 0 []],[.o 0 [],.o 2 [],.o 0 []]]:=_root_.id (by kernel_rfl)
@[go_sem] theorem E1 (b):(ae b).keep F.r05_least=false:=_root_.id (by kernel_rfl)
theorem Pg:ai.C F.r05_most=some mM:=by kernel_rfl
theorem Ph:ai.E F.r05_most=none:=by kernel_rfl
@[go_sem] theorem Z3 (b):(ae b).sh F.r05_most=[[.o 0 [],.o 2 [],.o 0 []],[.o 0 [],.o 2 [],.o 0 []]]:=_root_.id (by kernel_rfl)
@[go_sem] theorem Hx (b):(ae b).keep F.r05_most=false:=_root_.id (by kernel_rfl)
theorem MH:ai.C F.r05_Power=some el:=by kernel_rfl
theorem MI:ai.E F.r05_Power=none:=by kernel_rfl
@[go_sem] theorem Yo (b):(ae b).sh F.r05_Power=[[.o 0 [],.o 2 [],.o 0 [],.o 0 [],.o 2 [],.o 0 [],.o 0 []],[],[]]:=_root_.id (by kernel_rfl)
@[go_sem] theorem E2 (b):(ae b).keep F.r05_Power=false:=_root_.id (by kernel_rfl)
theorem Ru:ai.C F.r03_Add=some ot:=by kernel_rfl
theorem Rw:ai.E F.r03_Add=none:=by kernel_rfl
@[go_sem] theorem abg (b):(ae b).sh F.r03_Add=[[.o 0 [],.o 2 [],.o 0 []],[.o 0 [],.o 2 [],.o 0 []],[],[]]:=_root_.id (by kernel_rfl)
@[go_sem] theorem JR (b):(ae b).keep F.r03_Add=false:=_root_.id (by kernel_rfl)
theorem Pi:ai.C F.r05_made=some kh:=by kernel_rfl
theorem Pj:ai.E F.r05_made=none:=by kernel_rfl
@[go_sem] theorem Z4 (b):(ae b).sh F.r05_made=[[.o 0 [],.o 2 [],.o 0 []],[],[.o 0 [],.o 2 [],.o 0 []],[]]:=_root_.id (by kernel_rfl)
@[go_sem] theorem Hy (b):(ae b).keep F.r05_made=false:=_root_.id (by kernel_rfl)
theorem T3:ai.C F.r02_Of=some qh:=by kernel_rfl
theorem T4:ai.E F.r02_Of=none:=by kernel_rfl
@[go_sem] theorem adv (b):(ae b).sh F.r02_Of=[[],[.o 2 []],[]]:=_root_.id (by kernel_rfl)
@[go_sem] theorem MJ (b):(ae b).keep F.r02_Of=false:=_root_.id (by kernel_rfl)
theorem Bg:ai.C F.interval_Valid=some cF:=by kernel_rfl
theorem Bh:ai.E F.interval_Valid=none:=by kernel_rfl
@[go_sem] theorem Tf (b):(ae b).sh F.interval_Valid=[[.o 0 [],.o 2 [],.o 0 [],.o 0 [],.o 2 [],.o 0 [],.o 0 []]]:=_root_.id (by kernel_rfl)
@[go_sem] theorem xf (b):(ae b).keep F.interval_Valid=false:=_root_.id (by kernel_rfl)
theorem Di:ai.C F.interval_more=some gI:=by kernel_rfl
theorem Dj:ai.E F.interval_more=none:=by kernel_rfl
@[go_sem] theorem T5 (b):(ae b).sh F.interval_more=[[.o 0 [],.o 2 [],.o 0 []],[.o 0 [],.o 2 [],.o 0 []]]:=_root_.id (by kernel_rfl)
@[go_sem] theorem yi (b):(ae b).keep F.interval_more=false:=_root_.id (by kernel_rfl)
theorem Dk:ai.C F.interval_less=some gJ:=by kernel_rfl
theorem Dl:ai.E F.interval_less=none:=by kernel_rfl
@[go_sem] theorem T6 (b):(ae b).sh F.interval_less=[[.o 0 [],.o 2 [],.o 0 []],[.o 0 [],.o 2 [],.o 0 []]]:=_root_.id (by kernel_rfl)
@[go_sem] theorem yj (b):(ae b).keep F.interval_less=false:=_root_.id (by kernel_rfl)
theorem JS:ai.C F.dyadic_Cmp=some dK:=by kernel_rfl
theorem JT:ai.E F.dyadic_Cmp=none:=by kernel_rfl
@[go_sem] theorem Xn (b):(ae b).sh F.dyadic_Cmp=[[.o 0 [],.o 2 [],.o 0 []],[.o 0 [],.o 2 [],.o 0 []]]:=_root_.id (by kernel_rfl)
@[go_sem] theorem Dm (b):(ae b).keep F.dyadic_Cmp=false:=_root_.id (by kernel_rfl)
theorem Hz:ai.C F.r02_compare=some iV:=by kernel_rfl
theorem HA:ai.E F.r02_compare=none:=by kernel_rfl
@[go_sem] theorem V9 (b):(ae b).sh F.r02_compare=[[.o 2 []],[.o 2 []]]:=_root_.id (by kernel_rfl)
@[go_sem] theorem Bi (b):(ae b).keep F.r02_compare=false:=_root_.id (by kernel_rfl)
theorem Pk:ai.C F.r05_zero=some iB:=by kernel_rfl
theorem Pm:ai.E F.r05_zero=none:=by kernel_rfl
@[go_sem] theorem Z5 (b):(ae b).sh F.r05_zero=[[.o 0 [],.o 2 [],.o 0 []]]:=_root_.id (by kernel_rfl)
@[go_sem] theorem HB (b):(ae b).keep F.r05_zero=false:=_root_.id (by kernel_rfl)
theorem MK:ai.C F.r02_Valid=some cu:=by kernel_rfl
theorem ML:ai.E F.r02_Valid=none:=by kernel_rfl
@[go_sem] theorem Yp (b):(ae b).sh F.r02_Valid=[[.o 0 [],.o 2 [],.o 0 []]]:=_root_.id (by kernel_rfl)
@[go_sem] theorem E3 (b):(ae b).keep F.r02_Valid=false:=_root_.id (by kernel_rfl)
theorem Pn:ai.C F.r02_Sign=some ki:=by kernel_rfl
theorem Po:ai.E F.r02_Sign=none:=by kernel_rfl
@[go_sem] theorem Z6 (b):(ae b).sh F.r02_Sign=[[.o 0 [],.o 2 [],.o 0 []]]:=_root_.id (by kernel_rfl)
@[go_sem] theorem HC (b):(ae b).keep F.r02_Sign=false:=_root_.id (by kernel_rfl)
theorem Rx:ai.C F.r02_Top=some oA:=by kernel_rfl
theorem Ry:ai.E F.r02_Top=none:=by kernel_rfl
@[go_sem] theorem abh (b):(ae b).sh F.r02_Top=[[.o 0 [],.o 2 [],.o 0 []]]:=_root_.id (by kernel_rfl)
@[go_sem] theorem JU (b):(ae b).keep F.r02_Top=false:=_root_.id (by kernel_rfl)
theorem Rz:ai.C F.r02_Sum=some il:=by kernel_rfl
theorem RA:ai.E F.r02_Sum=none:=by kernel_rfl
@[go_sem] theorem abi (b):(ae b).sh F.r02_Sum=[[.o 0 [],.o 2 [],.o 0 []],[.o 0 [],.o 2 [],.o 0 []]]:=_root_.id (by kernel_rfl)
@[go_sem] theorem JV (b):(ae b).keep F.r02_Sum=false:=_root_.id (by kernel_rfl)
theorem RB:ai.C F.r02_Neg=some oB:=by kernel_rfl
theorem RE:ai.E F.r02_Neg=none:=by kernel_rfl
@[go_sem] theorem abj (b):(ae b).sh F.r02_Neg=[[.o 0 [],.o 2 [],.o 0 []]]:=_root_.id (by kernel_rfl)
@[go_sem] theorem JW (b):(ae b).keep F.r02_Neg=false:=_root_.id (by kernel_rfl)
theorem JX:ai.C F.poly_Valid=some eB:=by kernel_rfl
theorem JY:ai.E F.poly_Valid=none:=by kernel_rfl
@[go_sem] theorem Xo (b):(ae b).sh F.poly_Valid=[[.o 0 [],.o 5 [.o 2 [],.o 0 [],.o 2 [],.o 0 []]]]:=_root_.id (by kernel_rfl)
@[go_sem] theorem Dn (b):(ae b).keep F.poly_Valid=false:=_root_.id (by kernel_rfl)
theorem Bj:ai.C F.bound_domain_1=some ga:=by kernel_rfl
theorem Bk:ai.E F.bound_domain_1=none:=by kernel_rfl
@[go_sem] theorem Tg (b):(ae b).sh F.bound_domain_1=[[.o 0 [],.o 2 [],.o 0 [],.o 0 [],.o 2 [],.o 0 [],.o 0 []]]:=_root_.id (by kernel_rfl)
@[go_sem] theorem xg (b):(ae b).keep F.bound_domain_1=false:=_root_.id (by kernel_rfl)
theorem Bl:ai.C F.dyadic_inRange=some cG:=by kernel_rfl
theorem Bm:ai.E F.dyadic_inRange=none:=by kernel_rfl
@[go_sem] theorem Th (b):(ae b).sh F.dyadic_inRange=[[.o 0 [],.o 2 [],.o 0 []]]:=_root_.id (by kernel_rfl)
@[go_sem] theorem xh (b):(ae b).keep F.dyadic_inRange=false:=_root_.id (by kernel_rfl)
theorem MM:ai.C F.round_mul=some gL:=by kernel_rfl
theorem MN:ai.E F.round_mul=none:=by kernel_rfl
@[go_sem] theorem Yq (b):(ae b).sh F.round_mul=[[.o 0 [],.o 2 [],.o 0 []],[.o 0 [],.o 2 [],.o 0 []],[],[]]:=_root_.id (by kernel_rfl)
@[go_sem] theorem E4 (b):(ae b).keep F.round_mul=false:=_root_.id (by kernel_rfl)
theorem JZ:ai.C F.dyadic_Int=some jZ:=by kernel_rfl
theorem J0:ai.E F.dyadic_Int=none:=by kernel_rfl
@[go_sem] theorem Xp (b):(ae b).sh F.dyadic_Int=[]:=_root_.id (by kernel_rfl)
@[go_sem] theorem Do (b):(ae b).keep F.dyadic_Int=false:=_root_.id (by kernel_rfl)
theorem E5:ai.C F.interval_Abs=some im:=by kernel_rfl
theorem E6:ai.E F.interval_Abs=none:=by kernel_rfl
@[go_sem] theorem Vq (b):(ae b).sh F.interval_Abs=[[.o 0 [],.o 2 [],.o 0 [],.o 0 [],.o 2 [],.o 0 [],.o 0 []]]:=_root_.id (by kernel_rfl)
@[go_sem] theorem zR (b):(ae b).keep F.interval_Abs=false:=_root_.id (by kernel_rfl)
theorem uL:ai.C F.interval_end=some fN:=by kernel_rfl
theorem uM:ai.E F.interval_end=none:=by kernel_rfl
@[go_sem] theorem Vr (b):(ae b).sh F.interval_end=[[.o 0 [],.o 2 [],.o 0 []],[],[],[]]:=_root_.id (by kernel_rfl)
@[go_sem] theorem qW (b):(ae b).keep F.interval_end=false:=_root_.id (by kernel_rfl)
theorem AF:ai.C F.round_add=some fB:=by kernel_rfl
theorem AG:ai.E F.round_add=none:=by kernel_rfl
@[go_sem] theorem Yr (b):(ae b).sh F.round_add=[[.o 0 [],.o 2 [],.o 0 []],[.o 0 [],.o 2 [],.o 0 []],[],[]]:=_root_.id (by kernel_rfl)
@[go_sem] theorem uN (b):(ae b).keep F.round_add=false:=_root_.id (by kernel_rfl)
theorem Pp:ai.C F.r23_term=some gr:=by kernel_rfl
theorem Pq:ai.E F.r23_term=none:=by kernel_rfl
@[go_sem] theorem Z7 (b):(ae b).sh F.r23_term=[[],[.o 2 [],.o 0 [],.o 2 [],.o 0 []]]:=_root_.id (by kernel_rfl)
@[go_sem] theorem HD (b):(ae b).keep F.r23_term=false:=_root_.id (by kernel_rfl)
theorem HE:ai.C F.r23_Compare=some eT:=by kernel_rfl
theorem HF:ai.E F.r23_Compare=none:=by kernel_rfl
@[go_sem] theorem Wa (b):(ae b).sh F.r23_Compare=[[.o 2 []],[.o 2 []]]:=_root_.id (by kernel_rfl)
@[go_sem] theorem Bn (b):(ae b).keep F.r23_Compare=false:=_root_.id (by kernel_rfl)
theorem MO:ai.C F.r03_fault=some gM:=by kernel_rfl
theorem MP:ai.E F.r03_fault=none:=by kernel_rfl
@[go_sem] theorem Ys (b):(ae b).sh F.r03_fault=[[.o 0 [],.o 2 [],.o 0 []],[.o 0 [],.o 2 [],.o 0 []],[]]:=_root_.id (by kernel_rfl)
@[go_sem] theorem E7 (b):(ae b).keep F.r03_fault=false:=_root_.id (by kernel_rfl)
theorem MQ:ai.C F.r03_exact=some oC:=by kernel_rfl
theorem MR:ai.E F.r03_exact=none:=by kernel_rfl
@[go_sem] theorem Yt (b):(ae b).sh F.r03_exact=[[.o 0 [],.o 2 [],.o 0 []],[],[]]:=_root_.id (by kernel_rfl)
@[go_sem] theorem E8 (b):(ae b).keep F.r03_exact=false:=_root_.id (by kernel_rfl)
theorem HG:ai.C F.r02_Product=some lW:=by kernel_rfl
theorem HH:ai.E F.r02_Product=none:=by kernel_rfl
@[go_sem] theorem Wb (b):(ae b).sh F.r02_Product=[[.o 0 [],.o 2 [],.o 0 []],[.o 0 [],.o 2 [],.o 0 []]]:=_root_.id (by kernel_rfl)
@[go_sem] theorem Bo (b):(ae b).keep F.r02_Product=false:=_root_.id (by kernel_rfl)
theorem RF:ai.C F.r05_Abs=some oD:=by kernel_rfl
theorem RG:ai.E F.r05_Abs=none:=by kernel_rfl
@[go_sem] theorem abk (b):(ae b).sh F.r05_Abs=[[.o 0 [],.o 2 [],.o 0 [],.o 0 [],.o 2 [],.o 0 [],.o 0 []]]:=_root_.id (by kernel_rfl)
@[go_sem] theorem J1 (b):(ae b).keep F.r05_Abs=false:=_root_.id (by kernel_rfl)
theorem HI:ai.C F.r05_powDown=some lX:=by kernel_rfl
theorem HJ:ai.E F.r05_powDown=none:=by kernel_rfl
@[go_sem] theorem Wc (b):(ae b).sh F.r05_powDown=[[.o 0 [],.o 2 [],.o 0 []],[],[]]:=_root_.id (by kernel_rfl)
@[go_sem] theorem Bp (b):(ae b).keep F.r05_powDown=false:=_root_.id (by kernel_rfl)
theorem MS:ai.C F.r05_powUp=some oE:=by kernel_rfl
theorem MT:ai.E F.r05_powUp=none:=by kernel_rfl
@[go_sem] theorem Yu (b):(ae b).sh F.r05_powUp=[[.o 0 [],.o 2 [],.o 0 []],[],[]]:=_root_.id (by kernel_rfl)
@[go_sem] theorem E9 (b):(ae b).keep F.r05_powUp=false:=_root_.id (by kernel_rfl)
theorem Pr:ai.C F.r02_trim=some pQ:=by kernel_rfl
theorem Ps:ai.E F.r02_trim=none:=by kernel_rfl
@[go_sem] theorem Z8 (b):(ae b).sh F.r02_trim=[[.o 2 []]]:=_root_.id (by kernel_rfl)
@[go_sem] theorem HK (b):(ae b).keep F.r02_trim=false:=_root_.id (by kernel_rfl)
theorem MU:ai.C F.r02_zeros=some oF:=by kernel_rfl
theorem MV:ai.E F.r02_zeros=none:=by kernel_rfl
@[go_sem] theorem Yv (b):(ae b).sh F.r02_zeros=[[.o 2 []]]:=_root_.id (by kernel_rfl)
@[go_sem] theorem Fa (b):(ae b).keep F.r02_zeros=false:=_root_.id (by kernel_rfl)
theorem MW:ai.C F.r02_right=some lu:=by kernel_rfl
theorem MX:ai.E F.r02_right=none:=by kernel_rfl
@[go_sem] theorem Yw (b):(ae b).sh F.r02_right=[[.o 2 []],[]]:=_root_.id (by kernel_rfl)
@[go_sem] theorem Fb (b):(ae b).keep F.r02_right=false:=_root_.id (by kernel_rfl)
theorem yk:ai.C F.interval_Valid_1=some cL:=by kernel_rfl
theorem yl:ai.E F.interval_Valid_1=none:=by kernel_rfl
@[go_sem] theorem Qx (b):(ae b).sh F.interval_Valid_1=[[.o 0 [],.o 2 [],.o 0 []]]:=_root_.id (by kernel_rfl)
@[go_sem] theorem uO (b):(ae b).keep F.interval_Valid_1=false:=_root_.id (by kernel_rfl)
theorem HL:ai.C F.dyadic_Sign=some eU:=by kernel_rfl
theorem HM:ai.E F.dyadic_Sign=none:=by kernel_rfl
@[go_sem] theorem Wd (b):(ae b).sh F.dyadic_Sign=[[.o 0 [],.o 2 [],.o 0 []]]:=_root_.id (by kernel_rfl)
@[go_sem] theorem Bq (b):(ae b).keep F.dyadic_Sign=false:=_root_.id (by kernel_rfl)
theorem Br:ai.C F.dyadic_compare=some eA:=by kernel_rfl
theorem Bs:ai.E F.dyadic_compare=none:=by kernel_rfl
@[go_sem] theorem Ti (b):(ae b).sh F.dyadic_compare=[[.o 0 [],.o 2 [],.o 0 []],[.o 0 [],.o 2 [],.o 0 []]]:=_root_.id (by kernel_rfl)
@[go_sem] theorem xi (b):(ae b).keep F.dyadic_compare=false:=_root_.id (by kernel_rfl)
theorem J2:ai.C F.dyadic_Mul=some de:=by kernel_rfl
theorem J3:ai.E F.dyadic_Mul=none:=by kernel_rfl
@[go_sem] theorem Xq (b):(ae b).sh F.dyadic_Mul=[[.o 0 [],.o 2 [],.o 0 []],[.o 0 [],.o 2 [],.o 0 []]]:=_root_.id (by kernel_rfl)
@[go_sem] theorem Dp (b):(ae b).keep F.dyadic_Mul=false:=_root_.id (by kernel_rfl)
theorem Pt:ai.C F.r02_bits=some mQ:=by kernel_rfl
theorem Pu:ai.E F.r02_bits=none:=by kernel_rfl
@[go_sem] theorem Z9 (b):(ae b).sh F.r02_bits=[[.o 2 []]]:=_root_.id (by kernel_rfl)
@[go_sem] theorem HN (b):(ae b).keep F.r02_bits=false:=_root_.id (by kernel_rfl)
theorem Pv:ai.C F.r02_left=some pR:=by kernel_rfl
theorem Pw:ai.E F.r02_left=none:=by kernel_rfl
@[go_sem] theorem aaa (b):(ae b).sh F.r02_left=[[.o 2 []],[]]:=_root_.id (by kernel_rfl)
@[go_sem] theorem HO (b):(ae b).keep F.r02_left=false:=_root_.id (by kernel_rfl)
theorem Px:ai.C F.r02_plus=some pS:=by kernel_rfl
theorem Py:ai.E F.r02_plus=none:=by kernel_rfl
@[go_sem] theorem aab (b):(ae b).sh F.r02_plus=[[.o 2 []],[.o 2 []]]:=_root_.id (by kernel_rfl)
@[go_sem] theorem HP (b):(ae b).keep F.r02_plus=false:=_root_.id (by kernel_rfl)
theorem MY:ai.C F.r02_minus=some oH:=by kernel_rfl
theorem MZ:ai.E F.r02_minus=none:=by kernel_rfl
@[go_sem] theorem Yx (b):(ae b).sh F.r02_minus=[[.o 2 []],[.o 2 []]]:=_root_.id (by kernel_rfl)
@[go_sem] theorem Fc (b):(ae b).keep F.r02_minus=false:=_root_.id (by kernel_rfl)
theorem oU:ai.C F.slices_ContainsFunc_int_int_=some d9:=by kernel_rfl
theorem oV:ai.E F.slices_ContainsFunc_int_int_=none:=by kernel_rfl
@[go_sem] theorem Co (b):(ae b).sh F.slices_ContainsFunc_int_int_=[[.o 2 []],[]]:=_root_.id (by kernel_rfl)
@[go_sem] theorem mT (b):(ae b).keep F.slices_ContainsFunc_int_int_=false:=_root_.id (by kernel_rfl)
theorem Fd:ai.C F.poly_Valid_1=some ip:=by kernel_rfl
theorem Fe:ai.E F.poly_Valid_1=none:=by kernel_rfl
@[go_sem] theorem Vs (b):(ae b).sh F.poly_Valid_1=[]:=_root_.id (by kernel_rfl)
@[go_sem] theorem zS (b):(ae b).keep F.poly_Valid_1=false:=_root_.id (by kernel_rfl)
theorem HQ:ai.C F.poly_degree=some lZ:=by kernel_rfl
theorem HR:ai.E F.poly_degree=none:=by kernel_rfl
@[go_sem] theorem We (b):(ae b).sh F.poly_degree=[[.o 2 []]]:=_root_.id (by kernel_rfl)
@[go_sem] theorem Bt (b):(ae b).keep F.poly_degree=false:=_root_.id (by kernel_rfl)
theorem J4:ai.C F.poly_order=some j3:=by kernel_rfl
theorem J5:ai.E F.poly_order=none:=by kernel_rfl
@[go_sem] theorem Xr (b):(ae b).sh F.poly_order=[[.o 2 []],[.o 2 []]]:=_root_.id (by kernel_rfl)
@[go_sem] theorem Dq (b):(ae b).keep F.poly_order=false:=_root_.id (by kernel_rfl)
theorem HS:ai.C F.dyadic_size=some l4:=by kernel_rfl
theorem HT:ai.E F.dyadic_size=none:=by kernel_rfl
@[go_sem] theorem Wf (b):(ae b).sh F.dyadic_size=[[.o 2 []]]:=_root_.id (by kernel_rfl)
@[go_sem] theorem Bu (b):(ae b).keep F.dyadic_size=false:=_root_.id (by kernel_rfl)
theorem HU:ai.C F.round_fault=some gx:=by kernel_rfl
theorem HV:ai.E F.round_fault=none:=by kernel_rfl
@[go_sem] theorem Wg (b):(ae b).sh F.round_fault=[[],[.o 4 [.o 0 [],.o 2 [],.o 0 []]]]:=_root_.id (by kernel_rfl)
@[go_sem] theorem Bv (b):(ae b).keep F.round_fault=false:=_root_.id (by kernel_rfl)
theorem HW:ai.C F.natural_Mul=some iY:=by kernel_rfl
theorem HX:ai.E F.natural_Mul=none:=by kernel_rfl
@[go_sem] theorem Wh (b):(ae b).sh F.natural_Mul=[[.o 2 []],[.o 2 []]]:=_root_.id (by kernel_rfl)
@[go_sem] theorem Bw (b):(ae b).keep F.natural_Mul=false:=_root_.id (by kernel_rfl)
theorem Ff:ai.C F.round_signed=some fO:=by kernel_rfl
theorem Fg:ai.E F.round_signed=none:=by kernel_rfl
@[go_sem] theorem Vt (b):(ae b).sh F.round_signed=[[],[.o 2 [],.o 0 [],.o 0 []],[],[]]:=_root_.id (by kernel_rfl)
@[go_sem] theorem zT (b):(ae b).keep F.round_signed=false:=_root_.id (by kernel_rfl)
theorem ym:ai.C F.dyadic_canonical=some eI:=by kernel_rfl
theorem yn:ai.E F.dyadic_canonical=none:=by kernel_rfl
@[go_sem] theorem Qy (b):(ae b).sh F.dyadic_canonical=[[],[.o 2 []],[]]:=_root_.id (by kernel_rfl)
@[go_sem] theorem uP (b):(ae b).keep F.dyadic_canonical=false:=_root_.id (by kernel_rfl)
theorem Fh:ai.C F.interval_Mig=some iq:=by kernel_rfl
theorem Fi:ai.E F.interval_Mig=none:=by kernel_rfl
@[go_sem] theorem Vu (b):(ae b).sh F.interval_Mig=[[.o 0 [],.o 2 [],.o 0 [],.o 0 [],.o 2 [],.o 0 [],.o 0 []]]:=_root_.id (by kernel_rfl)
@[go_sem] theorem zU (b):(ae b).keep F.interval_Mig=false:=_root_.id (by kernel_rfl)
theorem Fj:ai.C F.interval_Mag=some kH:=by kernel_rfl
theorem Fk:ai.E F.interval_Mag=none:=by kernel_rfl
@[go_sem] theorem Vv (b):(ae b).sh F.interval_Mag=[[.o 0 [],.o 2 [],.o 0 [],.o 0 [],.o 2 [],.o 0 [],.o 0 []]]:=_root_.id (by kernel_rfl)
@[go_sem] theorem zV (b):(ae b).keep F.interval_Mag=false:=_root_.id (by kernel_rfl)
theorem J6:ai.C F.dyadic_Neg=some hF:=by kernel_rfl
theorem J7:ai.E F.dyadic_Neg=none:=by kernel_rfl
@[go_sem] theorem Xs (b):(ae b).sh F.dyadic_Neg=[[.o 0 [],.o 2 [],.o 0 []]]:=_root_.id (by kernel_rfl)
@[go_sem] theorem Dr (b):(ae b).keep F.dyadic_Neg=false:=_root_.id (by kernel_rfl)
theorem sz:ai.C F.interval_power=some gb:=by kernel_rfl
theorem sA:ai.E F.interval_power=none:=by kernel_rfl
@[go_sem] theorem Tj (b):(ae b).sh F.interval_power=[[.o 0 [],.o 2 [],.o 0 []],[],[],[],[]]:=_root_.id (by kernel_rfl)
@[go_sem] theorem pb (b):(ae b).keep F.interval_power=false:=_root_.id (by kernel_rfl)
theorem Pz:ai.C F.round_Up=some pT:=by kernel_rfl
theorem PA:ai.E F.round_Up=none:=by kernel_rfl
@[go_sem] theorem aac (b):(ae b).sh F.round_Up=[[.o 0 [],.o 2 [],.o 0 []],[]]:=_root_.id (by kernel_rfl)
@[go_sem] theorem HY (b):(ae b).keep F.round_Up=false:=_root_.id (by kernel_rfl)
theorem J8:ai.C F.round_Down=some m5:=by kernel_rfl
theorem J9:ai.E F.round_Down=none:=by kernel_rfl
@[go_sem] theorem Xt (b):(ae b).sh F.round_Down=[[.o 0 [],.o 2 [],.o 0 []],[]]:=_root_.id (by kernel_rfl)
@[go_sem] theorem Ds (b):(ae b).keep F.round_Down=false:=_root_.id (by kernel_rfl)
theorem HZ:ai.C F.round_round=some iZ:=by kernel_rfl
theorem H0:ai.E F.round_round=none:=by kernel_rfl
@[go_sem] theorem Wi (b):(ae b).sh F.round_round=[[.o 0 [],.o 2 [],.o 0 []],[],[]]:=_root_.id (by kernel_rfl)
@[go_sem] theorem Bx (b):(ae b).keep F.round_round=false:=_root_.id (by kernel_rfl)
theorem Ka:ai.C F.dyadic_Top=some hG:=by kernel_rfl
theorem Kb:ai.E F.dyadic_Top=none:=by kernel_rfl
@[go_sem] theorem Xu (b):(ae b).sh F.dyadic_Top=[[.o 0 [],.o 2 [],.o 0 []]]:=_root_.id (by kernel_rfl)
@[go_sem] theorem Dt (b):(ae b).keep F.dyadic_Top=false:=_root_.id (by kernel_rfl)
theorem M0:ai.C F.round_sum=some gO:=by kernel_rfl
theorem M1:ai.E F.round_sum=none:=by kernel_rfl
@[go_sem] theorem Yy (b):(ae b).sh F.round_sum=[[.o 0 [],.o 2 [],.o 0 []],[.o 0 [],.o 2 [],.o 0 []],[]]:=_root_.id (by kernel_rfl)
@[go_sem] theorem Fl (b):(ae b).keep F.round_sum=false:=_root_.id (by kernel_rfl)
theorem RH:ai.C F.r23_sum=some ro:=by kernel_rfl
theorem RI:ai.E F.r23_sum=none:=by kernel_rfl
@[go_sem] theorem abl (b):(ae b).sh F.r23_sum=[[.o 2 []]]:=_root_.id (by kernel_rfl)
@[go_sem] theorem Kc (b):(ae b).keep F.r23_sum=false:=_root_.id (by kernel_rfl)
theorem RJ:ai.C F.r03_Cut=some jK:=by kernel_rfl
theorem RK:ai.E F.r03_Cut=none:=by kernel_rfl
@[go_sem] theorem abm (b):(ae b).sh F.r03_Cut=[[],[.o 2 []],[],[],[],[]]:=_root_.id (by kernel_rfl)
@[go_sem] theorem Kd (b):(ae b).keep F.r03_Cut=false:=_root_.id (by kernel_rfl)
theorem M2:ai.C F.r02_times=some oM:=by kernel_rfl
theorem M3:ai.E F.r02_times=none:=by kernel_rfl
@[go_sem] theorem Yz (b):(ae b).sh F.r02_times=[[.o 2 []],[.o 2 []]]:=_root_.id (by kernel_rfl)
@[go_sem] theorem Fm (b):(ae b).keep F.r02_times=false:=_root_.id (by kernel_rfl)
theorem RL:ai.C F.r05_Mig=some oN:=by kernel_rfl
theorem RM:ai.E F.r05_Mig=none:=by kernel_rfl
@[go_sem] theorem abn (b):(ae b).sh F.r05_Mig=[[.o 0 [],.o 2 [],.o 0 [],.o 0 [],.o 2 [],.o 0 [],.o 0 []]]:=_root_.id (by kernel_rfl)
@[go_sem] theorem Ke (b):(ae b).keep F.r05_Mig=false:=_root_.id (by kernel_rfl)
theorem RN:ai.C F.r05_Mag=some rp:=by kernel_rfl
theorem RP:ai.E F.r05_Mag=none:=by kernel_rfl
@[go_sem] theorem abo (b):(ae b).sh F.r05_Mag=[[.o 0 [],.o 2 [],.o 0 [],.o 0 [],.o 2 [],.o 0 [],.o 0 []]]:=_root_.id (by kernel_rfl)
@[go_sem] theorem Kf (b):(ae b).keep F.r05_Mag=false:=_root_.id (by kernel_rfl)
theorem M4:ai.C F.r03_Round=some lz:=by kernel_rfl
theorem M5:ai.E F.r03_Round=none:=by kernel_rfl
@[go_sem] theorem YA (b):(ae b).sh F.r03_Round=[[.o 0 [],.o 2 [],.o 0 []],[],[]]:=_root_.id (by kernel_rfl)
@[go_sem] theorem Fo (b):(ae b).keep F.r03_Round=false:=_root_.id (by kernel_rfl)
theorem H1:ai.C F.natural_Cmp=some gy:=by kernel_rfl
theorem H2:ai.E F.natural_Cmp=none:=by kernel_rfl
@[go_sem] theorem Wj (b):(ae b).sh F.natural_Cmp=[[.o 2 []],[.o 2 []]]:=_root_.id (by kernel_rfl)
@[go_sem] theorem By (b):(ae b).keep F.natural_Cmp=false:=_root_.id (by kernel_rfl)
theorem Bz:ai.C F.dyadic_shifted=some iM:=by kernel_rfl
theorem BA:ai.E F.dyadic_shifted=none:=by kernel_rfl
@[go_sem] theorem Tk (b):(ae b).sh F.dyadic_shifted=[[.o 2 []],[]]:=_root_.id (by kernel_rfl)
@[go_sem] theorem xj (b):(ae b).keep F.dyadic_shifted=false:=_root_.id (by kernel_rfl)
theorem BB:ai.C F.dyadic_checked=some ge:=by kernel_rfl
theorem BC:ai.E F.dyadic_checked=none:=by kernel_rfl
@[go_sem] theorem Tl (b):(ae b).sh F.dyadic_checked=[[.o 0 [],.o 2 [],.o 0 []]]:=_root_.id (by kernel_rfl)
@[go_sem] theorem xk (b):(ae b).keep F.dyadic_checked=false:=_root_.id (by kernel_rfl)
theorem Du:ai.C F.interval_Sign=some eV:=by kernel_rfl
theorem Dv:ai.E F.interval_Sign=none:=by kernel_rfl
@[go_sem] theorem T7 (b):(ae b).sh F.interval_Sign=[[.o 0 [],.o 2 [],.o 0 [],.o 0 [],.o 2 [],.o 0 [],.o 0 []]]:=_root_.id (by kernel_rfl)
@[go_sem] theorem yp (b):(ae b).keep F.interval_Sign=false:=_root_.id (by kernel_rfl)
theorem qp:ai.C F.slices_IndexFunc_int_int_=some eW:=by kernel_rfl
theorem qq:ai.E F.slices_IndexFunc_int_int_=none:=by kernel_rfl
@[go_sem] theorem pt (b):(ae b).sh F.slices_IndexFunc_int_int_=[[.o 2 []],[]]:=_root_.id (by kernel_rfl)
@[go_sem] theorem oW (b):(ae b).keep F.slices_IndexFunc_int_int_=false:=_root_.id (by kernel_rfl)
theorem yq:ai.C F.cmp_Compare_int_=some dA:=by kernel_rfl
theorem yr:ai.E F.cmp_Compare_int_=none:=by kernel_rfl
@[go_sem] theorem Qz (b):(ae b).sh F.cmp_Compare_int_=[]:=_root_.id (by kernel_rfl)
@[go_sem] theorem uQ (b):(ae b).keep F.cmp_Compare_int_=false:=_root_.id (by kernel_rfl)
theorem rx:ai.C F.slices_Compare_int_int_=some cw:=by kernel_rfl
theorem ry:ai.E F.slices_Compare_int_int_=none:=by kernel_rfl
@[go_sem] theorem H3 (b):(ae b).sh F.slices_Compare_int_int_=[[.o 2 []],[.o 2 []]]:=_root_.id (by kernel_rfl)
@[go_sem] theorem pu (b):(ae b).keep F.slices_Compare_int_int_=false:=_root_.id (by kernel_rfl)
theorem Fq:ai.C F.natural_Bits=some it:=by kernel_rfl
theorem Fr:ai.E F.natural_Bits=none:=by kernel_rfl
@[go_sem] theorem Vw (b):(ae b).sh F.natural_Bits=[[.o 2 []]]:=_root_.id (by kernel_rfl)
@[go_sem] theorem zW (b):(ae b).keep F.natural_Bits=false:=_root_.id (by kernel_rfl)
theorem Dw:ai.C F.round_precise=some gP:=by kernel_rfl
theorem Dx:ai.E F.round_precise=none:=by kernel_rfl
@[go_sem] theorem T8 (b):(ae b).sh F.round_precise=[]:=_root_.id (by kernel_rfl)
@[go_sem] theorem yt (b):(ae b).keep F.round_precise=false:=_root_.id (by kernel_rfl)
theorem Ft:ai.C F.natural_long=some kK:=by kernel_rfl
theorem Fu:ai.E F.natural_long=none:=by kernel_rfl
@[go_sem] theorem Vx (b):(ae b).sh F.natural_long=[[.o 2 [.o 2 []]]]:=_root_.id (by kernel_rfl)
@[go_sem] theorem zX (b):(ae b).keep F.natural_long=false:=_root_.id (by kernel_rfl)
theorem Fv:ai.C F.natural_done=some iu:=by kernel_rfl
theorem Fw:ai.E F.natural_done=none:=by kernel_rfl
@[go_sem] theorem Vy (b):(ae b).sh F.natural_done=[[.o 2 []]]:=_root_.id (by kernel_rfl)
@[go_sem] theorem zY (b):(ae b).keep F.natural_done=false:=_root_.id (by kernel_rfl)
theorem H4:ai.C F.natural_mul=some l7:=by kernel_rfl
theorem H5:ai.E F.natural_mul=none:=by kernel_rfl
@[go_sem] theorem Wk (b):(ae b).sh F.natural_mul=[[.o 2 []],[.o 2 []]]:=_root_.id (by kernel_rfl)
@[go_sem] theorem BD (b):(ae b).keep F.natural_mul=false:=_root_.id (by kernel_rfl)
theorem Fx:ai.C F.natural_trim=some kL:=by kernel_rfl
theorem Fy:ai.E F.natural_trim=none:=by kernel_rfl
@[go_sem] theorem Vz (b):(ae b).sh F.natural_trim=[[.o 2 []]]:=_root_.id (by kernel_rfl)
@[go_sem] theorem zZ (b):(ae b).keep F.natural_trim=false:=_root_.id (by kernel_rfl)
theorem M6:ai.C F.round_cut=some i8:=by kernel_rfl
theorem M7:ai.E F.round_cut=none:=by kernel_rfl
@[go_sem] theorem YB (b):(ae b).sh F.round_cut=[[.o 2 [],.o 0 [],.o 0 []],[],[]]:=_root_.id (by kernel_rfl)
@[go_sem] theorem Fz (b):(ae b).keep F.round_cut=false:=_root_.id (by kernel_rfl)
theorem BE:ai.C F.dyadic_trimmed=some iN:=by kernel_rfl
theorem BF:ai.E F.dyadic_trimmed=none:=by kernel_rfl
@[go_sem] theorem Tm (b):(ae b).sh F.dyadic_trimmed=[[.o 2 []]]:=_root_.id (by kernel_rfl)
@[go_sem] theorem xn (b):(ae b).keep F.dyadic_trimmed=false:=_root_.id (by kernel_rfl)
theorem Kg:ai.C F.dyadic_low=some m6:=by kernel_rfl
theorem Kh:ai.E F.dyadic_low=none:=by kernel_rfl
@[go_sem] theorem Xv (b):(ae b).sh F.dyadic_low=[[.o 2 []]]:=_root_.id (by kernel_rfl)
@[go_sem] theorem Dy (b):(ae b).keep F.dyadic_low=false:=_root_.id (by kernel_rfl)
theorem H6:ai.C F.natural_Shr=some gz:=by kernel_rfl
theorem H7:ai.E F.natural_Shr=none:=by kernel_rfl
@[go_sem] theorem Wl (b):(ae b).sh F.natural_Shr=[[.o 2 []],[]]:=_root_.id (by kernel_rfl)
@[go_sem] theorem BG (b):(ae b).keep F.natural_Shr=false:=_root_.id (by kernel_rfl)
theorem pv:ai.C F.slices_Clip_uint32_uint32_=some cS:=by kernel_rfl
theorem px:ai.E F.slices_Clip_uint32_uint32_=none:=by kernel_rfl
@[go_sem] theorem El (b):(ae b).sh F.slices_Clip_uint32_uint32_=[[.o 2 []]]:=_root_.id (by kernel_rfl)
@[go_sem] theorem nT (b):(ae b).keep F.slices_Clip_uint32_uint32_=false:=_root_.id (by kernel_rfl)
theorem o7:ai.C F.slices_Clone_uint32_uint32_=some cN:=by kernel_rfl
theorem o8:ai.E F.slices_Clone_uint32_uint32_=none:=by kernel_rfl
@[go_sem] theorem Dz (b):(ae b).sh F.slices_Clone_uint32_uint32_=[[.o 2 []]]:=_root_.id (by kernel_rfl)
@[go_sem] theorem nu (b):(ae b).keep F.slices_Clone_uint32_uint32_=false:=_root_.id (by kernel_rfl)
theorem Ki:ai.C F.dyadic_Abs=some hH:=by kernel_rfl
theorem Kj:ai.E F.dyadic_Abs=none:=by kernel_rfl
@[go_sem] theorem Xw (b):(ae b).sh F.dyadic_Abs=[[.o 0 [],.o 2 [],.o 0 []]]:=_root_.id (by kernel_rfl)
@[go_sem] theorem DA (b):(ae b).keep F.dyadic_Abs=false:=_root_.id (by kernel_rfl)
theorem PB:ai.C F.round_of=some pU:=by kernel_rfl
theorem PC:ai.E F.round_of=none:=by kernel_rfl
@[go_sem] theorem aad (b):(ae b).sh F.round_of=[[.o 0 [],.o 2 [],.o 0 []]]:=_root_.id (by kernel_rfl)
@[go_sem] theorem H8 (b):(ae b).keep F.round_of=false:=_root_.id (by kernel_rfl)
theorem M8:ai.C F.round_shl=some oR:=by kernel_rfl
theorem M9:ai.E F.round_shl=none:=by kernel_rfl
@[go_sem] theorem YC (b):(ae b).sh F.round_shl=[[.o 2 []],[]]:=_root_.id (by kernel_rfl)
@[go_sem] theorem FA (b):(ae b).keep F.round_shl=false:=_root_.id (by kernel_rfl)
theorem Na:ai.C F.round_shr=some lA:=by kernel_rfl
theorem Nb:ai.E F.round_shr=none:=by kernel_rfl
@[go_sem] theorem YD (b):(ae b).sh F.round_shr=[[.o 2 []],[]]:=_root_.id (by kernel_rfl)
@[go_sem] theorem FB (b):(ae b).keep F.round_shr=false:=_root_.id (by kernel_rfl)
theorem H9:ai.C F.natural_Add=some ja:=by kernel_rfl
theorem Ia:ai.E F.natural_Add=none:=by kernel_rfl
@[go_sem] theorem Wm (b):(ae b).sh F.natural_Add=[[.o 2 []],[.o 2 []]]:=_root_.id (by kernel_rfl)
@[go_sem] theorem BH (b):(ae b).keep F.natural_Add=false:=_root_.id (by kernel_rfl)
theorem Ib:ai.C F.natural_Sub=some gA:=by kernel_rfl
theorem Ic:ai.E F.natural_Sub=none:=by kernel_rfl
@[go_sem] theorem Wn (b):(ae b).sh F.natural_Sub=[[.o 2 []],[.o 2 []]]:=_root_.id (by kernel_rfl)
@[go_sem] theorem BI (b):(ae b).keep F.natural_Sub=false:=_root_.id (by kernel_rfl)
theorem PD:ai.C F.r01_Trim=some pV:=by kernel_rfl
theorem PE:ai.E F.r01_Trim=none:=by kernel_rfl
@[go_sem] theorem aae (b):(ae b).sh F.r01_Trim=[[.o 2 []]]:=_root_.id (by kernel_rfl)
@[go_sem] theorem Ie (b):(ae b).keep F.r01_Trim=false:=_root_.id (by kernel_rfl)
theorem PF:ai.C F.r01_Bits=some tY:=by kernel_rfl
theorem PG:ai.E F.r01_Bits=none:=by kernel_rfl
@[go_sem] theorem aaf (b):(ae b).sh F.r01_Bits=[[.o 2 []]]:=_root_.id (by kernel_rfl)
@[go_sem] theorem If (b):(ae b).keep F.r01_Bits=false:=_root_.id (by kernel_rfl)
theorem RQ:ai.C F.r01_Shr=some oS:=by kernel_rfl
theorem RR:ai.E F.r01_Shr=none:=by kernel_rfl
@[go_sem] theorem abp (b):(ae b).sh F.r01_Shr=[[.o 2 []],[]]:=_root_.id (by kernel_rfl)
@[go_sem] theorem Kk (b):(ae b).keep F.r01_Shr=false:=_root_.id (by kernel_rfl)
theorem RT:ai.C F.r01_Cmp=some vO:=by kernel_rfl
theorem RU:ai.E F.r01_Cmp=none:=by kernel_rfl
@[go_sem] theorem abq (b):(ae b).sh F.r01_Cmp=[[.o 2 []],[.o 2 []]]:=_root_.id (by kernel_rfl)
@[go_sem] theorem Kl (b):(ae b).keep F.r01_Cmp=false:=_root_.id (by kernel_rfl)
theorem RW:ai.C F.r01_Shl=some rq:=by kernel_rfl
theorem RX:ai.E F.r01_Shl=none:=by kernel_rfl
@[go_sem] theorem abr (b):(ae b).sh F.r01_Shl=[[.o 2 []],[]]:=_root_.id (by kernel_rfl)
@[go_sem] theorem Km (b):(ae b).keep F.r01_Shl=false:=_root_.id (by kernel_rfl)
theorem RY:ai.C F.r01_Add=some rr:=by kernel_rfl
theorem RZ:ai.E F.r01_Add=none:=by kernel_rfl
@[go_sem] theorem abt (b):(ae b).sh F.r01_Add=[[.o 2 []],[.o 2 []]]:=_root_.id (by kernel_rfl)
@[go_sem] theorem Kn (b):(ae b).keep F.r01_Add=false:=_root_.id (by kernel_rfl)
theorem FC:ai.C F.r03_greatest=some kN:=by kernel_rfl
theorem FE:ai.E F.r03_greatest=none:=by kernel_rfl
@[go_sem] theorem VA (b):(ae b).sh F.r03_greatest=[]:=_root_.id (by kernel_rfl)
@[go_sem] theorem z6 (b):(ae b).keep F.r03_greatest=false:=_root_.id (by kernel_rfl)
theorem PH:ai.C F.r05_Sign=some kj:=by kernel_rfl
theorem PI:ai.E F.r05_Sign=none:=by kernel_rfl
@[go_sem] theorem aag (b):(ae b).sh F.r05_Sign=[[.o 0 [],.o 2 [],.o 0 [],.o 0 [],.o 2 [],.o 0 [],.o 0 []]]:=_root_.id (by kernel_rfl)
@[go_sem] theorem Ig (b):(ae b).keep F.r05_Sign=false:=_root_.id (by kernel_rfl)
theorem Ih:ai.C F.natural_Shl=some eX:=by kernel_rfl
theorem Ii:ai.E F.natural_Shl=none:=by kernel_rfl
@[go_sem] theorem Wo (b):(ae b).sh F.natural_Shl=[[.o 2 []],[]]:=_root_.id (by kernel_rfl)
@[go_sem] theorem BJ (b):(ae b).keep F.natural_Shl=false:=_root_.id (by kernel_rfl)
theorem BK:ai.C F.cmp_isNaN_int_=some iO:=by kernel_rfl
theorem BL:ai.E F.cmp_isNaN_int_=none:=by kernel_rfl
@[go_sem] theorem Tn (b):(ae b).sh F.cmp_isNaN_int_=[]:=_root_.id (by kernel_rfl)
@[go_sem] theorem xp (b):(ae b).keep F.cmp_isNaN_int_=false:=_root_.id (by kernel_rfl)
theorem Ko:ai.C F.bits_Len32=some fT:=by kernel_rfl
theorem Kp:ai.E F.bits_Len32=none:=by kernel_rfl
@[go_sem] theorem Xx (b):(ae b).sh F.bits_Len32=[]:=_root_.id (by kernel_rfl)
@[go_sem] theorem DB (b):(ae b).keep F.bits_Len32=false:=_root_.id (by kernel_rfl)
theorem ky:ai.C F.slices_ContainsFunc_Suint32_Suint32_=some cx:=by kernel_rfl
theorem kz:ai.E F.slices_ContainsFunc_Suint32_Suint32_=none:=by kernel_rfl
@[go_sem] theorem wS (b):(ae b).sh F.slices_ContainsFunc_Suint32_Suint32_=[[.o 2 [.o 2 []]],[]]:=_root_.id (by kernel_rfl)
@[go_sem] theorem jl (b):(ae b).keep F.slices_ContainsFunc_Suint32_Suint32_=false:=_root_.id (by kernel_rfl)
theorem BM:ai.C F.natural_long_1=some iP:=by kernel_rfl
theorem BN:ai.E F.natural_long_1=none:=by kernel_rfl
@[go_sem] theorem To (b):(ae b).sh F.natural_long_1=[[.o 2 []]]:=_root_.id (by kernel_rfl)
@[go_sem] theorem xq (b):(ae b).keep F.natural_long_1=false:=_root_.id (by kernel_rfl)
theorem Ij:ai.C F.dyadic_Make=some eY:=by kernel_rfl
theorem Ik:ai.E F.dyadic_Make=none:=by kernel_rfl
@[go_sem] theorem Wp (b):(ae b).sh F.dyadic_Make=[[],[.o 2 []],[]]:=_root_.id (by kernel_rfl)
@[go_sem] theorem BO (b):(ae b).keep F.dyadic_Make=false:=_root_.id (by kernel_rfl)
@[go_sem] theorem L4 (b):(ae b).sh F.bits_TrailingZeros32=[]:=_root_.id (by kernel_rfl)
@[go_sem] theorem ID (b):(ae b).keep F.bits_TrailingZeros32=false:=_root_.id (by kernel_rfl)
theorem Il:ai.C F.natural_shr=some jc:=by kernel_rfl
theorem Im:ai.E F.natural_shr=none:=by kernel_rfl
@[go_sem] theorem Wq (b):(ae b).sh F.natural_shr=[[.o 2 []],[]]:=_root_.id (by kernel_rfl)
@[go_sem] theorem BP (b):(ae b).keep F.natural_shr=false:=_root_.id (by kernel_rfl)
theorem In:ai.C F.natural_add=some jd:=by kernel_rfl
theorem Io:ai.E F.natural_add=none:=by kernel_rfl
@[go_sem] theorem Wr (b):(ae b).sh F.natural_add=[[.o 2 []],[.o 2 []]]:=_root_.id (by kernel_rfl)
@[go_sem] theorem BQ (b):(ae b).keep F.natural_add=false:=_root_.id (by kernel_rfl)
theorem Ip:ai.C F.natural_sub=some l8:=by kernel_rfl
theorem Iq:ai.E F.natural_sub=none:=by kernel_rfl
@[go_sem] theorem Ws (b):(ae b).sh F.natural_sub=[[.o 2 []],[.o 2 []]]:=_root_.id (by kernel_rfl)
@[go_sem] theorem BR (b):(ae b).keep F.natural_sub=false:=_root_.id (by kernel_rfl)
theorem T9:ai.C F.r01_at=some qo:=by kernel_rfl
theorem Ua:ai.E F.r01_at=none:=by kernel_rfl
@[go_sem] theorem adw (b):(ae b).sh F.r01_at=[[.o 2 []],[]]:=_root_.id (by kernel_rfl)
@[go_sem] theorem Nc (b):(ae b).keep F.r01_at=false:=_root_.id (by kernel_rfl)
theorem R0:ai.C F.r01_Sub=some ru:=by kernel_rfl
theorem R1:ai.E F.r01_Sub=none:=by kernel_rfl
@[go_sem] theorem abu (b):(ae b).sh F.r01_Sub=[[.o 2 []],[.o 2 []]]:=_root_.id (by kernel_rfl)
@[go_sem] theorem Kq (b):(ae b).keep F.r01_Sub=false:=_root_.id (by kernel_rfl)
theorem Ir:ai.C F.natural_shl=some l9:=by kernel_rfl
theorem Is:ai.E F.natural_shl=none:=by kernel_rfl
@[go_sem] theorem Wt (b):(ae b).sh F.natural_shl=[[.o 2 []],[]]:=_root_.id (by kernel_rfl)
@[go_sem] theorem BS (b):(ae b).keep F.natural_shl=false:=_root_.id (by kernel_rfl)
theorem It:ai.C F.dyadic_Bits=some je:=by kernel_rfl
theorem Iu:ai.E F.dyadic_Bits=none:=by kernel_rfl
@[go_sem] theorem Wu (b):(ae b).sh F.dyadic_Bits=[[.o 0 [],.o 2 [],.o 0 []]]:=_root_.id (by kernel_rfl)
@[go_sem] theorem BT (b):(ae b).keep F.dyadic_Bits=false:=_root_.id (by kernel_rfl)
theorem mh:ai.C F.slices_IndexFunc_Suint32_Suint32_=some cX:=by kernel_rfl
theorem mj:ai.E F.slices_IndexFunc_Suint32_Suint32_=none:=by kernel_rfl
@[go_sem] theorem lB (b):(ae b).sh F.slices_IndexFunc_Suint32_Suint32_=[[.o 2 [.o 2 []]],[]]:=_root_.id (by kernel_rfl)
@[go_sem] theorem kA (b):(ae b).keep F.slices_IndexFunc_Suint32_Suint32_=false:=_root_.id (by kernel_rfl)
theorem z7:ai.C F.dyadic_exponent=some fF:=by kernel_rfl
theorem z8:ai.E F.dyadic_exponent=none:=by kernel_rfl
@[go_sem] theorem R2 (b):(ae b).sh F.dyadic_exponent=[]:=_root_.id (by kernel_rfl)
@[go_sem] theorem vS (b):(ae b).keep F.dyadic_exponent=false:=_root_.id (by kernel_rfl)
theorem Kr:ai.C F.bits_Add32=some m9:=by kernel_rfl
theorem Ks:ai.E F.bits_Add32=none:=by kernel_rfl
@[go_sem] theorem Xy (b):(ae b).sh F.bits_Add32=[]:=_root_.id (by kernel_rfl)
@[go_sem] theorem DC (b):(ae b).keep F.bits_Add32=false:=_root_.id (by kernel_rfl)
theorem Kt:ai.C F.bits_Sub32=some nc:=by kernel_rfl
theorem Ku:ai.E F.bits_Sub32=none:=by kernel_rfl
@[go_sem] theorem Xz (b):(ae b).sh F.bits_Sub32=[]:=_root_.id (by kernel_rfl)
@[go_sem] theorem DD (b):(ae b).keep F.bits_Sub32=false:=_root_.id (by kernel_rfl)
end Go.Ab
