/-
  The statement BoundLinear holds of the given program: its card, with the tied table of bits.TrailingZeros32; no further conditions. Part B2.
-/
import Derived.KernelRfl
import Derived.Test.YtlfcbamejofhkaaGreatDoorB1
namespace Go.Ab
def ab:List Nat→Nat
 | []=>0
 | x::l=>x+4294967296*ab l
def Lb (m:List Nat):Prop:=∀ x ∈ m,x < 4294967296
def bR:Nat→Nat→List Nat
 | 0,_=>[]
 | k+1,n=>n % 4294967296::bR k (n / 4294967296)
def ap (n:Nat):List Nat:=if h:n=0 then [] else n % 4294967296::ap (n / 4294967296)
termination_by n
decreasing_by omega
theorem cO:ap 0=[]:=by rw [ap]; rfl
theorem lG {n:Nat} (h:n ≠ 0):ap n=n % 4294967296::ap (n / 4294967296):=by rw [ap,dif_neg h]
theorem gg {n:Nat}:ap n=[]↔n=0:=by
 constructor
 ·intro h
  by_cases hn:n=0
  ·exact hn
  ·rw [lG hn] at h; cases h
 ·rintro rfl; exact cO
theorem aD (n:Nat):ab (ap n)=n:=by
 induction n using Nat.strongRecOn with
 | ind n ih =>
  by_cases h:n=0
  ·subst h; rw [cO]; rfl
  ·rw [lG h,ab,ih _ (by omega)]
   omega
theorem aL (n:Nat):Lb (ap n):=by
 induction n using Nat.strongRecOn with
 | ind n ih =>
  by_cases h:n=0
  ·subst h; rw [cO]; intro x hx; simp at hx
  ·rw [lG h]
   intro x hx
   rcases List.mem_cons.1 hx with rfl | hx
   ·omega
   ·exact ih _ (by omega) x hx
theorem rH:Lb []:=fun x hx=>by simp at hx
theorem da {x:Nat} {l:List Nat}:Lb (x::l)↔x < 4294967296∧Lb l:=by
 constructor
 ·intro h; exact ⟨h x (by simp),fun y hy=>h y (by simp [hy])⟩
 ·rintro ⟨h1,h2⟩ y hy
  rcases List.mem_cons.1 hy with rfl | hy
  ·exact h1
  ·exact h2 y hy
theorem gY {l r:List Nat}:Lb (l++r)↔Lb l∧Lb r:=by
 constructor
 ·intro h; exact ⟨fun x hx=>h x (by simp [hx]),fun x hx=>h x (by simp [hx])⟩
 ·rintro ⟨h1,h2⟩ x hx
  rcases List.mem_append.1 hx with hx | hx
  ·exact h1 x hx
  ·exact h2 x hx
theorem iJ {l:List Nat} (h:Lb l) (n:Nat):Lb (l.take n):=fun x hx=>h x (List.mem_of_mem_take hx)
theorem lH {l:List Nat} (h:Lb l) (n:Nat):Lb (l.drop n):=fun x hx=>h x (List.mem_of_mem_drop hx)
theorem aZ {l:List Nat} (h:Lb l) (i:Nat):l.getD i 0 < 4294967296:=by
 rw [List.getD_eq_getElem?_getD]
 cases hq:l[i]? with
 | none=>simp
 | some x=>exact h x (List.mem_of_getElem? hq)
theorem db (l r:List Nat):ab (l++r)=ab l+4294967296 ^ l.length*ab r:=by
 induction l with
 | nil=>simp [ab]
 | cons x l ih =>
  simp only [List.cons_append,ab,ih,List.length_cons,Nat.pow_succ,Nat.mul_add]
  have:4294967296*(4294967296 ^ l.length*ab r)=4294967296 ^ l.length*4294967296*ab r:=by
   rw [Nat.mul_comm (4294967296 ^ l.length) 4294967296,Nat.mul_assoc]
  omega
theorem bD {l:List Nat} (h:Lb l):ab l < 4294967296 ^ l.length:=by
 induction l with
 | nil=>simp [ab]
 | cons x l ih =>
  obtain ⟨h1,h2⟩:=da.1 h
  have:=ih h2
  simp only [ab,List.length_cons,Nat.pow_succ]
  omega
theorem be (k n:Nat):(bR k n).length=k:=by
 induction k generalizing n with
 | zero=>rfl
 | succ k ih=>simp [bR,ih]
theorem gh (k n:Nat):Lb (bR k n):=by
 induction k generalizing n with
 | zero=>exact rH
 | succ k ih=>exact da.2 ⟨by omega,ih _⟩
theorem eI (k n:Nat):ab (bR k n)=n % 4294967296 ^ k:=by
 induction k generalizing n with
 | zero=>simp [bR,ab,Nat.mod_one]
 | succ k ih =>
  rw [bR,ab,ih,Nat.pow_succ,Nat.mul_comm (4294967296 ^ k),Nat.mod_mul]
theorem uE {l:List Nat} (h:Lb l):bR l.length (ab l)=l:=by
 induction l with
 | nil=>rfl
 | cons x l ih =>
  obtain ⟨h1,h2⟩:=da.1 h
  simp only [List.length_cons,bR,ab]
  rw [show (x+4294967296*ab l) % 4294967296=x from by omega,show (x+4294967296*ab l) / 4294967296=ab l from by omega,ih h2]
theorem Fc (n:Nat):ab (List.replicate n 0)=0:=by
 induction n with
 | zero=>rfl
 | succ n ih=>simp [List.replicate_succ,ab,ih]
def eZ (m:List Nat):Nat→Nat
 | 0=>0
 | n+1=>if m.getD n 0=0 then eZ m n else n+1
theorem mj (m:List Nat):∀ n,eZ m n≤n
 | 0=>Nat.le_refl _
 | n+1=>by
  unfold eZ
  have:=mj m n
  split <;> omega
theorem LW (m:List Nat):∀ n,eZ m n=0∨m.getD (eZ m n - 1) 0 ≠ 0
 | 0 => .inl rfl
 | n+1=>by
  unfold eZ
  split
  ·exact LW m n
  ·rename_i h
   exact .inr h
theorem H6 (m:List Nat):∀ n i,eZ m n≤i→i < n→m.getD i 0=0
 | 0,i,_,h=>by omega
 | n+1,i,h1,h2=>by
  unfold eZ at h1
  split at h1
  ·rename_i h
   by_cases e:i=n
   ·rw [e]; exact h
   ·exact H6 m n i h1 (by omega)
  ·omega
def pp (m:List Nat):Prop:=m=[]∨m.getD (m.length - 1) 0 ≠ 0
theorem oT (x:Nat) (l:List Nat) (i:Nat):(x::l).getD (i+1) 0=l.getD i 0:=by simp [List.getD_eq_getElem?_getD]
theorem BR {x:Nat} {l:List Nat} (h:pp (x::l)):pp l:=by
 rcases h with h | h
 ·cases h
 ·cases l with
  | nil=>exact .inl rfl
  | cons y l =>
   refine .inr ?_
   simp only [List.length_cons,Nat.add_sub_cancel] at h ⊢
   rwa [oT] at h
theorem wQ {l:List Nat} (h:pp l) (hne:l ≠ []):ab l ≠ 0:=by
 induction l with
 | nil=>exact absurd rfl hne
 | cons x l ih =>
  cases l with
  | nil =>
   rcases h with h | h
   ·cases h
   ·simp at h
    simp [ab]
    exact h
  | cons y l =>
   have:=ih (BR h) (by simp)
   rw [ab]
   omega
theorem oU {l:List Nat} (h1:Lb l) (h2:pp l):ap (ab l)=l:=by
 induction l with
 | nil=>exact cO
 | cons x l ih =>
  obtain ⟨h3,h4⟩:=da.1 h1
  rw [lG (wQ h2 (by simp)),ab,show (x+4294967296*ab l) % 4294967296=x from by omega,show (x+4294967296*ab l) / 4294967296=ab l from by omega,ih h4 (BR h2)]
theorem wR (n:Nat):pp (ap n):=by
 induction n using Nat.strongRecOn with
 | ind n ih =>
  by_cases h:n=0
  ·subst h; rw [cO]; exact .inl rfl
  ·rw [lG h]
   refine .inr ?_
   rcases ih (n / 4294967296) (by omega) with h2 | h2
   ·have h3:=gg.1 h2
    rw [h2]
    simp
    omega
   ·cases hq:ap (n / 4294967296) with
    | nil =>
     have h3:=gg.1 hq
     simp
     omega
    | cons y l =>
     rw [hq] at h2
     simp only [List.length_cons,Nat.add_sub_cancel] at h2 ⊢
     rw [oT]
     exact h2
theorem H7 (m:List Nat):ab (m.take (eZ m m.length))=ab m:=by
 have h:m=m.take (eZ m m.length)++m.drop (eZ m m.length):=(List.take_append_drop _ _).symm
 have hz:m.drop (eZ m m.length)=List.replicate (m.length - eZ m m.length) 0:=by
  rw [List.eq_replicate_iff]
  refine ⟨by simp,fun x hx => ?_⟩
  obtain ⟨i,hi⟩:=List.getElem?_of_mem hx
  rw [List.getElem?_drop] at hi
  have hl:=(List.getElem?_eq_some_iff.1 hi).1
  have:=H6 m m.length (eZ m m.length+i) (by omega) hl
  rw [List.getD_eq_getElem?_getD,hi] at this
  exact this
 conv=>rhs; rw [h]
 rw [db,hz,Fc]
 simp
theorem Dd (m:List Nat):pp (m.take (eZ m m.length)):=by
 have hl:=mj m m.length
 rcases LW m m.length with h | h
 ·rw [h]; exact .inl rfl
 ·by_cases h0:eZ m m.length=0
  ·rw [h0]; exact .inl rfl
  ·refine .inr ?_
   rw [List.length_take,Nat.min_eq_left hl,List.getD_eq_getElem?_getD,List.getElem?_take,if_pos (by omega),← List.getD_eq_getElem?_getD]
   exact h
theorem uF {m:List Nat} (h:Lb m):m.take (eZ m m.length)=ap (ab m):=by
 rw [← oU (iJ h _) (Dd m),H7]
theorem fy {n k:Nat} (h:n < 4294967296 ^ k):(ap n).length≤k:=by
 induction k generalizing n with
 | zero =>
  simp at h
  subst h
  rw [cO]
  simp
 | succ k ih =>
  by_cases h0:n=0
  ·subst h0; rw [cO]; simp
  ·rw [lG h0,List.length_cons]
   have:=ih (n:=n / 4294967296) (by
    rw [Nat.pow_succ] at h
    exact Nat.div_lt_of_lt_mul (by rw [Nat.mul_comm]; exact h))
   omega
theorem gK (n:Nat):n < 4294967296 ^ (ap n).length:=by
 have:=bD (aL n)
 rwa [aD] at this
theorem PI {n:Nat} (h:n ≠ 0):4294967296 ^ ((ap n).length - 1)≤n:=by
 induction n using Nat.strongRecOn with
 | ind n ih =>
  rw [lG h,List.length_cons,Nat.add_sub_cancel]
  by_cases h0:n / 4294967296=0
  ·rw [h0,cO]; simp; omega
  ·have h1:=ih _ (by omega) h0
   have h2:(ap (n / 4294967296)).length ≠ 0:=by
    intro e
    exact h0 (gg.1 (List.length_eq_zero_iff.1 e))
   obtain ⟨k,hk⟩:∃ k,(ap (n / 4294967296)).length=k+1:=⟨_,(Nat.succ_pred_eq_of_pos (by omega)).symm⟩
   rw [hk] at h1 ⊢
   simp only [Nat.add_sub_cancel] at h1
   rw [Nat.pow_succ]
   omega
def tz (n:Nat):Nat:=if h:n=0 then 0 else if n % 2=1 then 0 else tz (n / 2)+1
termination_by n
decreasing_by omega
theorem wS {n:Nat} (h:n % 2=1):tz n=0:=by
 rw [tz,dif_neg (by omega),if_pos h]
theorem H8 {n:Nat} (h:n ≠ 0):tz (2*n)=tz n+1:=by
 rw [tz,dif_neg (by omega),if_neg (by omega),Nat.mul_div_cancel_left n (by decide)]
theorem BS {n:Nat} (k:Nat) (h:n ≠ 0):tz (2 ^ k*n)=k+tz n:=by
 induction k with
 | zero=>rw [Nat.pow_zero,Nat.one_mul,Nat.zero_add]
 | succ k ih =>
  rw [Nat.pow_succ,Nat.mul_comm (2 ^ k) 2,Nat.mul_assoc,H8 (Nat.mul_ne_zero (Nat.ne_of_gt (Nat.two_pow_pos k)) h),ih]
  omega
theorem m9 {n:Nat} (h:n ≠ 0):n=2 ^ tz n*(n / 2 ^ tz n)∧n / 2 ^ tz n % 2=1:=by
 induction n using Nat.strongRecOn with
 | ind n ih =>
  by_cases h1:n % 2=1
  ·rw [wS h1,Nat.pow_zero,Nat.div_one,Nat.one_mul]
   exact ⟨rfl,h1⟩
  ·have hn:n=2*(n / 2):=by omega
   have h2:n / 2 ≠ 0:=by omega
   obtain ⟨e1,e2⟩:=ih (n / 2) (by omega) h2
   have e3:tz n=tz (n / 2)+1:=by
    conv=>lhs; rw [hn]
    exact H8 h2
   have e4:n / 2 ^ (tz (n / 2)+1)=n / 2 / 2 ^ tz (n / 2):=by rw [Nat.pow_succ,Nat.mul_comm,Nat.div_div_eq_div_mul]
   rw [e3,e4]
   refine ⟨?_,e2⟩
   rw [Nat.pow_succ,Nat.mul_comm (2 ^ tz (n / 2)) 2,Nat.mul_assoc,← e1]
   exact hn
theorem Xq {x k:Nat} (y:Nat) (h:x ≠ 0) (hx:x < 2 ^ k):tz (x+2 ^ k*y)=tz x:=by
 obtain ⟨e1,e2⟩:=m9 h
 generalize x / 2 ^ tz x=q at e1 e2
 have hle:2 ^ tz x≤x:=by
  conv=>rhs; rw [e1]
  exact Nat.le_mul_of_pos_right _ (by omega)
 have hk:tz x < k:=(Nat.pow_lt_pow_iff_right (by decide:1 < 2)).1 (Nat.lt_of_le_of_lt hle hx)
 generalize hz:2 ^ (k - tz x - 1)*y=z
 have e3:x+2 ^ k*y=2 ^ tz x*(q+2*z):=by
  have e4:2 ^ k=2 ^ tz x*(2*2 ^ (k - tz x - 1)):=by
   rw [← Nat.pow_succ',← Nat.pow_add]
   congr 1
   omega
  rw [Nat.mul_add,← e1,e4,← hz]
  simp only [Nat.mul_assoc]
 have e5:(q+2*z) % 2=1:=by omega
 rw [e3,BS _ (by omega),wS e5,Nat.add_zero]
theorem G4 {x k:Nat} (h:x ≠ 0) (hx:x < 2 ^ k):tz x < k:=by
 obtain ⟨e1,e2⟩:=m9 h
 generalize x / 2 ^ tz x=q at e1 e2
 have hle:2 ^ tz x≤x:=by
  conv=>rhs; rw [e1]
  exact Nat.le_mul_of_pos_right _ (by omega)
 exact (Nat.pow_lt_pow_iff_right (by decide:1 < 2)).1 (Nat.lt_of_le_of_lt hle hx)
def Fd:Nat→Nat→Nat
 | 0,_=>0
 | k+1,n=>if n % 2=1 then 0 else Fd k (n / 2)+1
theorem Xr:∀ (k x:Nat),x ≠ 0→x < 2 ^ k→Fd k x=tz x:=by
 intro k
 induction k with
 | zero=>intro x h0 h1; omega
 | succ k ih =>
  intro x h0 h1
  unfold Fd
  by_cases h:x % 2=1
  ·rw [if_pos h,wS h]
  ·rw [if_neg h,ih (x / 2) (by omega) (by rw [Nat.pow_succ] at h1; omega)]
   have:=H8 (n:=x / 2) (by omega)
   rw [show 2*(x / 2)=x by omega] at this
   exact this.symm
def T2 (as:List AV) (hs:List Ob):Option (AV × List Ob):=match as with
 | [.v (.int .u32 n)]=>if 0 < n∧n < 4294967296∧hs=[] then some (.v (.int .i64 (Fd 32 n.toNat:Nat)),[]) else none
 | _=>none
def Xs:List (Nat × (List AV→List Ob→Option (AV × List Ob))):=[(F.bits_TrailingZeros32,T2)]
def ah:Env:=⟨fun f=>Xs.lookup f,fun f=>T1.lookup f,⟨fun f=>(mdL.lookup f).getD [],fun f=>(shL.lookup f).getD [],fun f=>keepL.contains f,false⟩⟩
def ae (b:Bool):Mode:={ ah.md with nm:=b }
noncomputable def R:er:=dh ah
theorem Xt {f:FuncId} {fd:FD} {args:List AV} {hs:List Ob} {r:AV × List Ob} (b:Bool) (hE:ah.E f=none) (hC:ah.C f=some fd) (hk:ah.md.keep f=b) (h1:args.length=fd.np) (h2:hs.length≤1000)
  (hz:iY b fd.rs fd.res hs.length (ak R (ae b) fd.body (re args) (ax hs))=some r):R f args hs=some r:=by
 refine EY hE hC ?_
 unfold Nn
 rw [if_pos ⟨h1,h2⟩]
 subst hk
 exact hz
@[go_sem] theorem ake (b:Bool):(ae b).nm=b:=_root_.id rfl
@[go_sem] theorem mF (b f):(ae b).m f=[]:=_root_.id rfl
@[go_sem] theorem aed (b h d f as):dP R (ae b) h d as (.fn f [] [])=(dV h [] as).bind (Np R (ae b) d f):=HU d (mF b f)
theorem yl:ah.C F.l24_BoundLinear=some aX:=by kernel_rfl
theorem ym:ah.E F.l24_BoundLinear=none:=by kernel_rfl
@[go_sem] theorem PJ (b):(ae b).sh F.l24_BoundLinear=[[.o 0 [],.o 5 [.o 2 [],.o 0 [],.o 2 [],.o 0 []]],[.o 8 [.o 0 [],.o 2 [],.o 0 [],.o 0 [],.o 2 [],.o 0 [],.o 0 []]],[]]:=_root_.id (by kernel_rfl)
@[go_sem] theorem uG (b):(ae b).keep F.l24_BoundLinear=false:=_root_.id (by kernel_rfl)
@[go_sem] theorem Xu (b):(ae b).sh F.l24_awake=[]:=_root_.id (by kernel_rfl)
@[go_sem] theorem UY (b):(ae b).keep F.l24_awake=false:=_root_.id (by kernel_rfl)
theorem PK:ah.C F.l24_few=some kZ:=by kernel_rfl
theorem PL:ah.E F.l24_few=none:=by kernel_rfl
@[go_sem] theorem aax (b):(ae b).sh F.l24_few=[[.o 0 [],.o 5 [.o 2 [],.o 0 [],.o 2 [],.o 0 []]]]:=_root_.id (by kernel_rfl)
@[go_sem] theorem H9 (b):(ae b).keep F.l24_few=false:=_root_.id (by kernel_rfl)
theorem Nv:ah.C F.l24_near=some l6:=by kernel_rfl
theorem Nw:ah.E F.l24_near=none:=by kernel_rfl
@[go_sem] theorem Zi (b):(ae b).sh F.l24_near=[[.o 8 [.o 0 [],.o 2 [],.o 0 [],.o 0 [],.o 2 [],.o 0 [],.o 0 []]]]:=_root_.id (by kernel_rfl)
@[go_sem] theorem FO (b):(ae b).keep F.l24_near=false:=_root_.id (by kernel_rfl)
theorem De:ah.C F.bound_Linear=some fk:=by kernel_rfl
theorem Df:ah.E F.bound_Linear=none:=by kernel_rfl
@[go_sem] theorem T3 (b):(ae b).sh F.bound_Linear=[[.o 0 [],.o 5 [.o 2 [],.o 0 [],.o 2 [],.o 0 []]]]:=_root_.id (by kernel_rfl)
@[go_sem] theorem yn (b):(ae b).keep F.bound_Linear=false:=_root_.id (by kernel_rfl)
theorem Ia:ah.C F.r24_Linear=some gE:=by kernel_rfl
theorem Ib:ah.E F.r24_Linear=none:=by kernel_rfl
@[go_sem] theorem Ws (b):(ae b).sh F.r24_Linear=[[.o 0 [],.o 5 [.o 2 [],.o 0 [],.o 2 [],.o 0 []]]]:=_root_.id (by kernel_rfl)
@[go_sem] theorem BT (b):(ae b).keep F.r24_Linear=false:=_root_.id (by kernel_rfl)
theorem dK:ah.C F.slices_EqualFunc_api_Dyadic_Sapi_Dyadic_api_Dyadic_api_Dyadic_=some aP:=by kernel_rfl
theorem dL:ah.E F.slices_EqualFunc_api_Dyadic_Sapi_Dyadic_api_Dyadic_api_Dyadic_=none:=by kernel_rfl
@[go_sem] theorem mG (b):(ae b).sh F.slices_EqualFunc_api_Dyadic_Sapi_Dyadic_api_Dyadic_api_Dyadic_=[[.o 4 [.o 0 [],.o 2 [],.o 0 []]],[.o 4 [.o 0 [],.o 2 [],.o 0 []]],[]]:=_root_.id (by kernel_rfl)
@[go_sem] theorem dq (b):(ae b).keep F.slices_EqualFunc_api_Dyadic_Sapi_Dyadic_api_Dyadic_api_Dyadic_=false:=_root_.id (by kernel_rfl)
theorem Nx:ah.C F.l24_same=some pi:=by kernel_rfl
theorem Ny:ah.E F.l24_same=none:=by kernel_rfl
@[go_sem] theorem Zj (b):(ae b).sh F.l24_same=[[.o 0 [],.o 2 [],.o 0 []],[.o 0 [],.o 2 [],.o 0 []]]:=_root_.id (by kernel_rfl)
@[go_sem] theorem FP (b):(ae b).keep F.l24_same=false:=_root_.id (by kernel_rfl)
theorem Ic:ah.C F.r24_Domain=some fv:=by kernel_rfl
theorem Ie:ah.E F.r24_Domain=none:=by kernel_rfl
@[go_sem] theorem Wt (b):(ae b).sh F.r24_Domain=[[.o 0 [],.o 5 [.o 2 [],.o 0 [],.o 2 [],.o 0 []]],[.o 8 [.o 0 [],.o 2 [],.o 0 [],.o 0 [],.o 2 [],.o 0 [],.o 0 []]]]:=_root_.id (by kernel_rfl)
@[go_sem] theorem BU (b):(ae b).keep F.r24_Domain=false:=_root_.id (by kernel_rfl)
theorem Nz:ah.C F.r03_Prec=some l7:=by kernel_rfl
theorem NA:ah.E F.r03_Prec=none:=by kernel_rfl
@[go_sem] theorem Zk (b):(ae b).sh F.r03_Prec=[]:=_root_.id (by kernel_rfl)
@[go_sem] theorem FQ (b):(ae b).keep F.r03_Prec=false:=_root_.id (by kernel_rfl)
theorem FR:ah.C F.r24_Corners=some lh:=by kernel_rfl
theorem FS:ah.E F.r24_Corners=none:=by kernel_rfl
@[go_sem] theorem UZ (b):(ae b).sh F.r24_Corners=[[.o 0 [],.o 5 [.o 2 [],.o 0 [],.o 2 [],.o 0 []]],[.o 8 [.o 0 [],.o 2 [],.o 0 [],.o 0 [],.o 2 [],.o 0 [],.o 0 []]]]:=_root_.id (by kernel_rfl)
@[go_sem] theorem zL (b):(ae b).keep F.r24_Corners=false:=_root_.id (by kernel_rfl)
theorem PM:ah.C F.r02_Cmp=some d6:=by kernel_rfl
theorem PN:ah.E F.r02_Cmp=none:=by kernel_rfl
@[go_sem] theorem aay (b):(ae b).sh F.r02_Cmp=[[.o 0 [],.o 2 [],.o 0 []],[.o 0 [],.o 2 [],.o 0 []]]:=_root_.id (by kernel_rfl)
@[go_sem] theorem If (b):(ae b).keep F.r02_Cmp=false:=_root_.id (by kernel_rfl)
theorem KM:ah.C F.l24_equal=some kz:=by kernel_rfl
theorem KN:ah.E F.l24_equal=none:=by kernel_rfl
@[go_sem] theorem Xv (b):(ae b).sh F.l24_equal=[[.o 0 [],.o 2 [],.o 0 [],.o 0 [],.o 2 [],.o 0 [],.o 0 []],[.o 0 [],.o 2 [],.o 0 [],.o 0 [],.o 2 [],.o 0 [],.o 0 []]]:=_root_.id (by kernel_rfl)
@[go_sem] theorem Dg (b):(ae b).keep F.l24_equal=false:=_root_.id (by kernel_rfl)
theorem yp:ah.C F.bound_Bernstein=some gQ:=by kernel_rfl
theorem yq:ah.E F.bound_Bernstein=none:=by kernel_rfl
@[go_sem] theorem PO (b):(ae b).sh F.bound_Bernstein=[[.o 0 [],.o 5 [.o 2 [],.o 0 [],.o 2 [],.o 0 []]],[.o 8 [.o 0 [],.o 2 [],.o 0 [],.o 0 [],.o 2 [],.o 0 [],.o 0 []]],[]]:=_root_.id (by kernel_rfl)
@[go_sem] theorem uH (b):(ae b).keep F.bound_Bernstein=false:=_root_.id (by kernel_rfl)
theorem KO:ah.C F.r05_Round=some it:=by kernel_rfl
theorem KP:ah.E F.r05_Round=none:=by kernel_rfl
@[go_sem] theorem Xw (b):(ae b).sh F.r05_Round=[[.o 0 [],.o 2 [],.o 0 [],.o 0 [],.o 2 [],.o 0 [],.o 0 []],[]]:=_root_.id (by kernel_rfl)
@[go_sem] theorem Dh (b):(ae b).keep F.r05_Round=false:=_root_.id (by kernel_rfl)
theorem NB:ah.C F.r23_Eval=some jH:=by kernel_rfl
theorem NC:ah.E F.r23_Eval=none:=by kernel_rfl
@[go_sem] theorem Zl (b):(ae b).sh F.r23_Eval=[[.o 0 [],.o 5 [.o 2 [],.o 0 [],.o 2 [],.o 0 []]],[.o 4 [.o 0 [],.o 2 [],.o 0 []]]]:=_root_.id (by kernel_rfl)
@[go_sem] theorem FT (b):(ae b).keep F.r23_Eval=false:=_root_.id (by kernel_rfl)
theorem Wu:ah.C F.bound_Naive=some oM:=by kernel_rfl
theorem Wv:ah.E F.bound_Naive=none:=by kernel_rfl
@[go_sem] theorem U0 (b):(ae b).sh F.bound_Naive=[[.o 0 [],.o 5 [.o 2 [],.o 0 [],.o 2 [],.o 0 []]],[.o 8 [.o 0 [],.o 2 [],.o 0 [],.o 0 [],.o 2 [],.o 0 [],.o 0 []]],[]]:=_root_.id (by kernel_rfl)
@[go_sem] theorem Sp (b):(ae b).keep F.bound_Naive=false:=_root_.id (by kernel_rfl)
theorem KQ:ah.C F.r05_Equal=some nD:=by kernel_rfl
theorem KR:ah.E F.r05_Equal=none:=by kernel_rfl
@[go_sem] theorem Xx (b):(ae b).sh F.r05_Equal=[[.o 0 [],.o 2 [],.o 0 [],.o 0 [],.o 2 [],.o 0 [],.o 0 []],[.o 0 [],.o 2 [],.o 0 [],.o 0 [],.o 2 [],.o 0 [],.o 0 []]]:=_root_.id (by kernel_rfl)
@[go_sem] theorem Di (b):(ae b).keep F.r05_Equal=false:=_root_.id (by kernel_rfl)
theorem jl:ah.C F.slices_ContainsFunc_api_Term_api_Term_=some cc:=by kernel_rfl
theorem jm:ah.E F.slices_ContainsFunc_api_Term_api_Term_=none:=by kernel_rfl
@[go_sem] theorem tP (b):(ae b).sh F.slices_ContainsFunc_api_Term_api_Term_=[[.o 5 [.o 2 [],.o 0 [],.o 2 [],.o 0 []]],[]]:=_root_.id (by kernel_rfl)
@[go_sem] theorem ie (b):(ae b).keep F.slices_ContainsFunc_api_Term_api_Term_=false:=_root_.id (by kernel_rfl)
theorem KS:ah.C F.l24_few_1=some kA:=by kernel_rfl
theorem KT:ah.E F.l24_few_1=none:=by kernel_rfl
@[go_sem] theorem Xy (b):(ae b).sh F.l24_few_1=[[.o 2 [],.o 0 [],.o 2 [],.o 0 []]]:=_root_.id (by kernel_rfl)
@[go_sem] theorem Dj (b):(ae b).keep F.l24_few_1=false:=_root_.id (by kernel_rfl)
theorem ND:ah.C F.l24_long=some jI:=by kernel_rfl
theorem NE:ah.E F.l24_long=none:=by kernel_rfl
@[go_sem] theorem Zm (b):(ae b).sh F.l24_long=[[.o 0 [],.o 2 [],.o 0 []]]:=_root_.id (by kernel_rfl)
@[go_sem] theorem FU (b):(ae b).keep F.l24_long=false:=_root_.id (by kernel_rfl)
theorem cP:ah.C F.slices_ContainsFunc_api_Interval_api_Interval_=some bF:=by kernel_rfl
theorem cQ:ah.E F.slices_ContainsFunc_api_Interval_api_Interval_=none:=by kernel_rfl
@[go_sem] theorem qT (b):(ae b).sh F.slices_ContainsFunc_api_Interval_api_Interval_=[[.o 8 [.o 0 [],.o 2 [],.o 0 [],.o 0 [],.o 2 [],.o 0 [],.o 0 []]],[]]:=_root_.id (by kernel_rfl)
@[go_sem] theorem cB (b):(ae b).keep F.slices_ContainsFunc_api_Interval_api_Interval_=false:=_root_.id (by kernel_rfl)
theorem Ig:ah.C F.l24_near_1=some jv:=by kernel_rfl
theorem Ih:ah.E F.l24_near_1=none:=by kernel_rfl
@[go_sem] theorem Ww (b):(ae b).sh F.l24_near_1=[[.o 0 [],.o 2 [],.o 0 [],.o 0 [],.o 2 [],.o 0 [],.o 0 []]]:=_root_.id (by kernel_rfl)
@[go_sem] theorem BV (b):(ae b).keep F.l24_near_1=false:=_root_.id (by kernel_rfl)
theorem Ii:ah.C F.poly_Valid=some eh:=by kernel_rfl
theorem Ij:ah.E F.poly_Valid=none:=by kernel_rfl
@[go_sem] theorem Wx (b):(ae b).sh F.poly_Valid=[[.o 0 [],.o 5 [.o 2 [],.o 0 [],.o 2 [],.o 0 []]]]:=_root_.id (by kernel_rfl)
@[go_sem] theorem BW (b):(ae b).keep F.poly_Valid=false:=_root_.id (by kernel_rfl)
theorem FV:ah.C F.poly_Degree=some fX:=by kernel_rfl
theorem FW:ah.E F.poly_Degree=none:=by kernel_rfl
@[go_sem] theorem U1 (b):(ae b).sh F.poly_Degree=[[.o 0 [],.o 5 [.o 2 [],.o 0 [],.o 2 [],.o 0 []]]]:=_root_.id (by kernel_rfl)
@[go_sem] theorem zM (b):(ae b).keep F.poly_Degree=false:=_root_.id (by kernel_rfl)
theorem rW:ah.C F.slices_Index_int_int_=some d7:=by kernel_rfl
theorem rX:ah.E F.slices_Index_int_int_=none:=by kernel_rfl
@[go_sem] theorem Ik (b):(ae b).sh F.slices_Index_int_int_=[[.o 2 []],[]]:=_root_.id (by kernel_rfl)
@[go_sem] theorem qi (b):(ae b).keep F.slices_Index_int_int_=false:=_root_.id (by kernel_rfl)
theorem KU:ah.C F.r23_Valid=some eS:=by kernel_rfl
theorem KV:ah.E F.r23_Valid=none:=by kernel_rfl
@[go_sem] theorem Xz (b):(ae b).sh F.r23_Valid=[[.o 0 [],.o 5 [.o 2 [],.o 0 [],.o 2 [],.o 0 []]]]:=_root_.id (by kernel_rfl)
@[go_sem] theorem Dk (b):(ae b).keep F.r23_Valid=false:=_root_.id (by kernel_rfl)
theorem Il:ah.C F.r23_Degree=some gF:=by kernel_rfl
theorem Im:ah.E F.r23_Degree=none:=by kernel_rfl
@[go_sem] theorem Wy (b):(ae b).sh F.r23_Degree=[[.o 0 [],.o 5 [.o 2 [],.o 0 [],.o 2 [],.o 0 []]]]:=_root_.id (by kernel_rfl)
@[go_sem] theorem BX (b):(ae b).keep F.r23_Degree=false:=_root_.id (by kernel_rfl)
theorem KW:ah.C F.r02_Equal=some nF:=by kernel_rfl
theorem KX:ah.E F.r02_Equal=none:=by kernel_rfl
@[go_sem] theorem XA (b):(ae b).sh F.r02_Equal=[[.o 0 [],.o 2 [],.o 0 []],[.o 0 [],.o 2 [],.o 0 []]]:=_root_.id (by kernel_rfl)
@[go_sem] theorem Dl (b):(ae b).keep F.r02_Equal=false:=_root_.id (by kernel_rfl)
theorem KY:ah.C F.r05_Valid=some eT:=by kernel_rfl
theorem KZ:ah.E F.r05_Valid=none:=by kernel_rfl
@[go_sem] theorem XB (b):(ae b).sh F.r05_Valid=[[.o 0 [],.o 2 [],.o 0 [],.o 0 [],.o 2 [],.o 0 [],.o 0 []]]:=_root_.id (by kernel_rfl)
@[go_sem] theorem Dm (b):(ae b).keep F.r05_Valid=false:=_root_.id (by kernel_rfl)
theorem wT:ah.C F.r24_Corner=some jw:=by kernel_rfl
theorem wU:ah.E F.r24_Corner=none:=by kernel_rfl
@[go_sem] theorem Wz (b):(ae b).sh F.r24_Corner=[[.o 8 [.o 0 [],.o 2 [],.o 0 [],.o 0 [],.o 2 [],.o 0 [],.o 0 []]],[]]:=_root_.id (by kernel_rfl)
@[go_sem] theorem sp (b):(ae b).keep F.r24_Corner=false:=_root_.id (by kernel_rfl)
theorem NF:ah.C F.r02_Sign=some jL:=by kernel_rfl
theorem NG:ah.E F.r02_Sign=none:=by kernel_rfl
@[go_sem] theorem Zn (b):(ae b).sh F.r02_Sign=[[.o 0 [],.o 2 [],.o 0 []]]:=_root_.id (by kernel_rfl)
@[go_sem] theorem FX (b):(ae b).keep F.r02_Sign=false:=_root_.id (by kernel_rfl)
theorem PP:ah.C F.r02_Top=some nH:=by kernel_rfl
theorem PQ:ah.E F.r02_Top=none:=by kernel_rfl
@[go_sem] theorem aaz (b):(ae b).sh F.r02_Top=[[.o 0 [],.o 2 [],.o 0 []]]:=_root_.id (by kernel_rfl)
@[go_sem] theorem In (b):(ae b).keep F.r02_Top=false:=_root_.id (by kernel_rfl)
theorem PR:ah.C F.r02_Sum=some gR:=by kernel_rfl
theorem PS:ah.E F.r02_Sum=none:=by kernel_rfl
@[go_sem] theorem aaA (b):(ae b).sh F.r02_Sum=[[.o 0 [],.o 2 [],.o 0 []],[.o 0 [],.o 2 [],.o 0 []]]:=_root_.id (by kernel_rfl)
@[go_sem] theorem Io (b):(ae b).keep F.r02_Sum=false:=_root_.id (by kernel_rfl)
theorem PT:ah.C F.r02_Neg=some nI:=by kernel_rfl
theorem PU:ah.E F.r02_Neg=none:=by kernel_rfl
@[go_sem] theorem aaB (b):(ae b).sh F.r02_Neg=[[.o 0 [],.o 2 [],.o 0 []]]:=_root_.id (by kernel_rfl)
@[go_sem] theorem Ip (b):(ae b).keep F.r02_Neg=false:=_root_.id (by kernel_rfl)
theorem Iq:ah.C F.bound_fits=some gG:=by kernel_rfl
theorem Ir:ah.E F.bound_fits=none:=by kernel_rfl
@[go_sem] theorem WA (b):(ae b).sh F.bound_fits=[[.o 0 [],.o 5 [.o 2 [],.o 0 [],.o 2 [],.o 0 []]],[.o 8 [.o 0 [],.o 2 [],.o 0 [],.o 0 [],.o 2 [],.o 0 [],.o 0 []]],[]]:=_root_.id (by kernel_rfl)
@[go_sem] theorem BY (b):(ae b).keep F.bound_fits=false:=_root_.id (by kernel_rfl)
theorem FY:ah.C F.bound_whole=some lj:=by kernel_rfl
theorem FZ:ah.E F.bound_whole=none:=by kernel_rfl
@[go_sem] theorem U2 (b):(ae b).sh F.bound_whole=[]:=_root_.id (by kernel_rfl)
@[go_sem] theorem zN (b):(ae b).keep F.bound_whole=false:=_root_.id (by kernel_rfl)
theorem Is:ah.C F.bound_line=some ch:=by kernel_rfl
theorem It:ah.E F.bound_line=none:=by kernel_rfl
@[go_sem] theorem WB (b):(ae b).sh F.bound_line=[[.o 0 [],.o 2 [],.o 0 []],[.o 0 [],.o 2 [],.o 0 []],[.o 0 [],.o 2 [],.o 0 [],.o 0 [],.o 2 [],.o 0 [],.o 0 []],[]]:=_root_.id (by kernel_rfl)
@[go_sem] theorem BZ (b):(ae b).keep F.bound_line=false:=_root_.id (by kernel_rfl)
@[go_sem] theorem T4 (b):(ae b).sh F.bound_gridOf=[[.o 0 [],.o 5 [.o 2 [],.o 0 [],.o 2 [],.o 0 []]],[]]:=_root_.id (by kernel_rfl)
@[go_sem] theorem Rm (b):(ae b).keep F.bound_gridOf=false:=_root_.id (by kernel_rfl)
@[go_sem] theorem PV (b):(ae b).sh F.bound_grid_unit=[[],[],[.o 0 [],.o 2 [],.o 0 [],.o 0 [],.o 2 [],.o 0 [],.o 0 []]]:=_root_.id (by kernel_rfl)
@[go_sem] theorem NH (b):(ae b).keep F.bound_grid_unit=false:=_root_.id (by kernel_rfl)
@[go_sem] theorem Ku (b):(ae b).sh F.bound_grid_bernstein=[]:=_root_.id (by kernel_rfl)
@[go_sem] theorem G5 (b):(ae b).keep F.bound_grid_bernstein=false:=_root_.id (by kernel_rfl)
@[go_sem] theorem Sq (b):(ae b).sh F.interval_Hull=[[.o 0 [],.o 2 [],.o 0 [],.o 0 [],.o 2 [],.o 0 [],.o 0 []],[.o 0 [],.o 2 [],.o 0 [],.o 0 [],.o 2 [],.o 0 [],.o 0 []]]:=_root_.id (by kernel_rfl)
@[go_sem] theorem PW (b):(ae b).keep F.interval_Hull=false:=_root_.id (by kernel_rfl)
theorem NI:ah.C F.r05_Prec=some l8:=by kernel_rfl
theorem NJ:ah.E F.r05_Prec=none:=by kernel_rfl
@[go_sem] theorem Zo (b):(ae b).sh F.r05_Prec=[]:=_root_.id (by kernel_rfl)
@[go_sem] theorem F0 (b):(ae b).keep F.r05_Prec=false:=_root_.id (by kernel_rfl)
theorem K0:ah.C F.r05_known=some kB:=by kernel_rfl
theorem K1:ah.E F.r05_known=none:=by kernel_rfl
@[go_sem] theorem XC (b):(ae b).sh F.r05_known=[[.o 0 [],.o 2 [],.o 0 [],.o 0 [],.o 2 [],.o 0 [],.o 0 []]]:=_root_.id (by kernel_rfl)
@[go_sem] theorem Dn (b):(ae b).keep F.r05_known=false:=_root_.id (by kernel_rfl)
theorem K2:ah.C F.r05_Whole=some nK:=by kernel_rfl
theorem K3:ah.E F.r05_Whole=none:=by kernel_rfl
@[go_sem] theorem XD (b):(ae b).sh F.r05_Whole=[]:=_root_.id (by kernel_rfl)
@[go_sem] theorem Do (b):(ae b).keep F.r05_Whole=false:=_root_.id (by kernel_rfl)
theorem K4:ah.C F.r03_Round=some kC:=by kernel_rfl
theorem K5:ah.E F.r03_Round=none:=by kernel_rfl
@[go_sem] theorem XE (b):(ae b).sh F.r03_Round=[[.o 0 [],.o 2 [],.o 0 []],[],[]]:=_root_.id (by kernel_rfl)
@[go_sem] theorem Dp (b):(ae b).keep F.r03_Round=false:=_root_.id (by kernel_rfl)
theorem NK:ah.C F.r05_made=some jM:=by kernel_rfl
theorem NL:ah.E F.r05_made=none:=by kernel_rfl
@[go_sem] theorem Zp (b):(ae b).sh F.r05_made=[[.o 0 [],.o 2 [],.o 0 []],[],[.o 0 [],.o 2 [],.o 0 []],[]]:=_root_.id (by kernel_rfl)
@[go_sem] theorem F1 (b):(ae b).keep F.r05_made=false:=_root_.id (by kernel_rfl)
theorem Dq:ah.C F.dyadic_Valid=some cH:=by kernel_rfl
theorem Dr:ah.E F.dyadic_Valid=none:=by kernel_rfl
@[go_sem] theorem T5 (b):(ae b).sh F.dyadic_Valid=[[.o 0 [],.o 2 [],.o 0 []]]:=_root_.id (by kernel_rfl)
@[go_sem] theorem yr (b):(ae b).keep F.dyadic_Valid=false:=_root_.id (by kernel_rfl)
theorem K6:ah.C F.r02_Valid=some cj:=by kernel_rfl
theorem K7:ah.E F.r02_Valid=none:=by kernel_rfl
@[go_sem] theorem XF (b):(ae b).sh F.r02_Valid=[[.o 0 [],.o 2 [],.o 0 []]]:=_root_.id (by kernel_rfl)
@[go_sem] theorem Ds (b):(ae b).keep F.r02_Valid=false:=_root_.id (by kernel_rfl)
theorem K8:ah.C F.r23_times=some nL:=by kernel_rfl
theorem K9:ah.E F.r23_times=none:=by kernel_rfl
@[go_sem] theorem XG (b):(ae b).sh F.r23_times=[[.o 0 [],.o 2 [],.o 0 []],[.o 0 [],.o 2 [],.o 0 []],[]]:=_root_.id (by kernel_rfl)
@[go_sem] theorem Dt (b):(ae b).keep F.r23_times=false:=_root_.id (by kernel_rfl)
theorem PX:ah.C F.r02_Add=some lk:=by kernel_rfl
theorem PY:ah.E F.r02_Add=none:=by kernel_rfl
@[go_sem] theorem aaC (b):(ae b).sh F.r02_Add=[[.o 0 [],.o 2 [],.o 0 []],[.o 0 [],.o 2 [],.o 0 []]]:=_root_.id (by kernel_rfl)
@[go_sem] theorem Iu (b):(ae b).keep F.r02_Add=false:=_root_.id (by kernel_rfl)
theorem acO:ah.C F.r02_Int=some uw:=by kernel_rfl
theorem acP:ah.E F.r02_Int=none:=by kernel_rfl
@[go_sem] theorem aaD (b):(ae b).sh F.r02_Int=[]:=_root_.id (by kernel_rfl)
@[go_sem] theorem XH (b):(ae b).keep F.r02_Int=false:=_root_.id (by kernel_rfl)
theorem Sr:ah.C F.interval_Point=some lR:=by kernel_rfl
theorem Ss:ah.E F.interval_Point=none:=by kernel_rfl
@[go_sem] theorem Rn (b):(ae b).sh F.interval_Point=[[.o 0 [],.o 2 [],.o 0 []]]:=_root_.id (by kernel_rfl)
@[go_sem] theorem OU (b):(ae b).keep F.interval_Point=false:=_root_.id (by kernel_rfl)
theorem U3:ah.C F.interval_Mul=some nM:=by kernel_rfl
theorem U4:ah.E F.interval_Mul=none:=by kernel_rfl
@[go_sem] theorem T6 (b):(ae b).sh F.interval_Mul=[[.o 0 [],.o 2 [],.o 0 [],.o 0 [],.o 2 [],.o 0 [],.o 0 []],[.o 0 [],.o 2 [],.o 0 [],.o 0 [],.o 2 [],.o 0 [],.o 0 []],[]]:=_root_.id (by kernel_rfl)
@[go_sem] theorem Ro (b):(ae b).keep F.interval_Mul=false:=_root_.id (by kernel_rfl)
theorem WC:ah.C F.bound_power=some oN:=by kernel_rfl
theorem WD:ah.E F.bound_power=none:=by kernel_rfl
@[go_sem] theorem U5 (b):(ae b).sh F.bound_power=[[.o 0 [],.o 2 [],.o 0 [],.o 0 [],.o 2 [],.o 0 [],.o 0 []],[],[]]:=_root_.id (by kernel_rfl)
@[go_sem] theorem Su (b):(ae b).keep F.bound_power=false:=_root_.id (by kernel_rfl)
theorem U6:ah.C F.interval_Add=some nN:=by kernel_rfl
theorem U7:ah.E F.interval_Add=none:=by kernel_rfl
@[go_sem] theorem T7 (b):(ae b).sh F.interval_Add=[[.o 0 [],.o 2 [],.o 0 [],.o 0 [],.o 2 [],.o 0 [],.o 0 []],[.o 0 [],.o 2 [],.o 0 [],.o 0 [],.o 2 [],.o 0 [],.o 0 []],[]]:=_root_.id (by kernel_rfl)
@[go_sem] theorem Rq (b):(ae b).keep F.interval_Add=false:=_root_.id (by kernel_rfl)
theorem ki:ah.C F.slices_IndexFunc_api_Term_api_Term_=some cF:=by kernel_rfl
theorem kj:ah.E F.slices_IndexFunc_api_Term_api_Term_=none:=by kernel_rfl
@[go_sem] theorem jY (b):(ae b).sh F.slices_IndexFunc_api_Term_api_Term_=[[.o 5 [.o 2 [],.o 0 [],.o 2 [],.o 0 []]],[]]:=_root_.id (by kernel_rfl)
@[go_sem] theorem jn (b):(ae b).keep F.slices_IndexFunc_api_Term_api_Term_=false:=_root_.id (by kernel_rfl)
theorem dk:ah.C F.slices_IndexFunc_api_Interval_api_Interval_=some bK:=by kernel_rfl
theorem dm:ah.E F.slices_IndexFunc_api_Interval_api_Interval_=none:=by kernel_rfl
@[go_sem] theorem df (b):(ae b).sh F.slices_IndexFunc_api_Interval_api_Interval_=[[.o 8 [.o 0 [],.o 2 [],.o 0 [],.o 0 [],.o 2 [],.o 0 [],.o 0 []]],[]]:=_root_.id (by kernel_rfl)
@[go_sem] theorem cR (b):(ae b).keep F.slices_IndexFunc_api_Interval_api_Interval_=false:=_root_.id (by kernel_rfl)
theorem og:ah.C F.slices_ContainsFunc_int_int_=some dR:=by kernel_rfl
theorem oi:ah.E F.slices_ContainsFunc_int_int_=none:=by kernel_rfl
@[go_sem] theorem A5 (b):(ae b).sh F.slices_ContainsFunc_int_int_=[[.o 2 []],[]]:=_root_.id (by kernel_rfl)
@[go_sem] theorem mm (b):(ae b).keep F.slices_ContainsFunc_int_int_=false:=_root_.id (by kernel_rfl)
theorem Du:ah.C F.poly_Valid_1=some gT:=by kernel_rfl
theorem Dv:ah.E F.poly_Valid_1=none:=by kernel_rfl
@[go_sem] theorem T8 (b):(ae b).sh F.poly_Valid_1=[]:=_root_.id (by kernel_rfl)
@[go_sem] theorem yt (b):(ae b).keep F.poly_Valid_1=false:=_root_.id (by kernel_rfl)
theorem F3:ah.C F.poly_degree=some ll:=by kernel_rfl
theorem F4:ah.E F.poly_degree=none:=by kernel_rfl
@[go_sem] theorem U8 (b):(ae b).sh F.poly_degree=[[.o 2 []]]:=_root_.id (by kernel_rfl)
@[go_sem] theorem zO (b):(ae b).keep F.poly_degree=false:=_root_.id (by kernel_rfl)
theorem Iv:ah.C F.poly_order=some jx:=by kernel_rfl
theorem Iw:ah.E F.poly_order=none:=by kernel_rfl
@[go_sem] theorem WE (b):(ae b).sh F.poly_order=[[.o 2 []],[.o 2 []]]:=_root_.id (by kernel_rfl)
@[go_sem] theorem B0 (b):(ae b).keep F.poly_order=false:=_root_.id (by kernel_rfl)
theorem NM:ah.C F.r23_term=some fT:=by kernel_rfl
theorem NN:ah.E F.r23_term=none:=by kernel_rfl
@[go_sem] theorem Zq (b):(ae b).sh F.r23_term=[[],[.o 2 [],.o 0 [],.o 2 [],.o 0 []]]:=_root_.id (by kernel_rfl)
@[go_sem] theorem F5 (b):(ae b).keep F.r23_term=false:=_root_.id (by kernel_rfl)
theorem F6:ah.C F.r23_Compare=some eA:=by kernel_rfl
theorem F7:ah.E F.r23_Compare=none:=by kernel_rfl
@[go_sem] theorem U9 (b):(ae b).sh F.r23_Compare=[[.o 2 []],[.o 2 []]]:=_root_.id (by kernel_rfl)
@[go_sem] theorem zP (b):(ae b).keep F.r23_Compare=false:=_root_.id (by kernel_rfl)
theorem PZ:ah.C F.r23_sum=some qG:=by kernel_rfl
theorem P0:ah.E F.r23_sum=none:=by kernel_rfl
@[go_sem] theorem aaE (b):(ae b).sh F.r23_sum=[[.o 2 []]]:=_root_.id (by kernel_rfl)
@[go_sem] theorem Ix (b):(ae b).keep F.r23_sum=false:=_root_.id (by kernel_rfl)
theorem F8:ah.C F.r02_compare=some iw:=by kernel_rfl
theorem F9:ah.E F.r02_compare=none:=by kernel_rfl
@[go_sem] theorem Va (b):(ae b).sh F.r02_compare=[[.o 2 []],[.o 2 []]]:=_root_.id (by kernel_rfl)
@[go_sem] theorem zQ (b):(ae b).keep F.r02_compare=false:=_root_.id (by kernel_rfl)
theorem NO:ah.C F.r05_zero=some hG:=by kernel_rfl
theorem NP:ah.E F.r05_zero=none:=by kernel_rfl
@[go_sem] theorem Zr (b):(ae b).sh F.r05_zero=[[.o 0 [],.o 2 [],.o 0 []]]:=_root_.id (by kernel_rfl)
@[go_sem] theorem Ga (b):(ae b).keep F.r05_zero=false:=_root_.id (by kernel_rfl)
theorem NQ:ah.C F.r02_bits=some l9:=by kernel_rfl
theorem NR:ah.E F.r02_bits=none:=by kernel_rfl
@[go_sem] theorem Zs (b):(ae b).sh F.r02_bits=[[.o 2 []]]:=_root_.id (by kernel_rfl)
@[go_sem] theorem Gb (b):(ae b).keep F.r02_bits=false:=_root_.id (by kernel_rfl)
theorem NS:ah.C F.r02_left=some pk:=by kernel_rfl
theorem NT:ah.E F.r02_left=none:=by kernel_rfl
@[go_sem] theorem Zt (b):(ae b).sh F.r02_left=[[.o 2 []],[]]:=_root_.id (by kernel_rfl)
@[go_sem] theorem Gc (b):(ae b).keep F.r02_left=false:=_root_.id (by kernel_rfl)
theorem Sv:ah.C F.r02_Of=some pE:=by kernel_rfl
theorem Sw:ah.E F.r02_Of=none:=by kernel_rfl
@[go_sem] theorem acQ (b):(ae b).sh F.r02_Of=[[],[.o 2 []],[]]:=_root_.id (by kernel_rfl)
@[go_sem] theorem La (b):(ae b).keep F.r02_Of=false:=_root_.id (by kernel_rfl)
theorem NU:ah.C F.r02_plus=some pl:=by kernel_rfl
theorem NV:ah.E F.r02_plus=none:=by kernel_rfl
@[go_sem] theorem Zu (b):(ae b).sh F.r02_plus=[[.o 2 []],[.o 2 []]]:=_root_.id (by kernel_rfl)
@[go_sem] theorem Gd (b):(ae b).keep F.r02_plus=false:=_root_.id (by kernel_rfl)
theorem Lc:ah.C F.r02_minus=some nR:=by kernel_rfl
theorem Ld:ah.E F.r02_minus=none:=by kernel_rfl
@[go_sem] theorem XI (b):(ae b).sh F.r02_minus=[[.o 2 []],[.o 2 []]]:=_root_.id (by kernel_rfl)
@[go_sem] theorem Dw (b):(ae b).keep F.r02_minus=false:=_root_.id (by kernel_rfl)
theorem Dx:ah.C F.bound_domain=some fm:=by kernel_rfl
theorem Dy:ah.E F.bound_domain=none:=by kernel_rfl
@[go_sem] theorem T9 (b):(ae b).sh F.bound_domain=[[.o 0 [],.o 5 [.o 2 [],.o 0 [],.o 2 [],.o 0 []]],[.o 8 [.o 0 [],.o 2 [],.o 0 [],.o 0 [],.o 2 [],.o 0 [],.o 0 []]]]:=_root_.id (by kernel_rfl)
@[go_sem] theorem yu (b):(ae b).keep F.bound_domain=false:=_root_.id (by kernel_rfl)
theorem Ge:ah.C F.dyadic_Sign=some eB:=by kernel_rfl
theorem Gf:ah.E F.dyadic_Sign=none:=by kernel_rfl
@[go_sem] theorem Vb (b):(ae b).sh F.dyadic_Sign=[[.o 0 [],.o 2 [],.o 0 []]]:=_root_.id (by kernel_rfl)
@[go_sem] theorem zR (b):(ae b).keep F.dyadic_Sign=false:=_root_.id (by kernel_rfl)
theorem Iy:ah.C F.dyadic_Mul=some cX:=by kernel_rfl
theorem Iz:ah.E F.dyadic_Mul=none:=by kernel_rfl
@[go_sem] theorem WF (b):(ae b).sh F.dyadic_Mul=[[.o 0 [],.o 2 [],.o 0 []],[.o 0 [],.o 2 [],.o 0 []]]:=_root_.id (by kernel_rfl)
@[go_sem] theorem B1 (b):(ae b).keep F.dyadic_Mul=false:=_root_.id (by kernel_rfl)
theorem B2:ah.C F.round_AddDown=some jf:=by kernel_rfl
theorem B3:ah.E F.round_AddDown=none:=by kernel_rfl
@[go_sem] theorem Sx (b):(ae b).sh F.round_AddDown=[[.o 0 [],.o 2 [],.o 0 []],[.o 0 [],.o 2 [],.o 0 []],[]]:=_root_.id (by kernel_rfl)
@[go_sem] theorem wV (b):(ae b).keep F.round_AddDown=false:=_root_.id (by kernel_rfl)
theorem Gg:ah.C F.round_AddUp=some ls:=by kernel_rfl
theorem Gh:ah.E F.round_AddUp=none:=by kernel_rfl
@[go_sem] theorem Vc (b):(ae b).sh F.round_AddUp=[[.o 0 [],.o 2 [],.o 0 []],[.o 0 [],.o 2 [],.o 0 []],[]]:=_root_.id (by kernel_rfl)
@[go_sem] theorem zS (b):(ae b).keep F.round_AddUp=false:=_root_.id (by kernel_rfl)
theorem XJ:ah.C F.dyadic_Int=some p8:=by kernel_rfl
theorem XK:ah.E F.dyadic_Int=none:=by kernel_rfl
@[go_sem] theorem WG (b):(ae b).sh F.dyadic_Int=[]:=_root_.id (by kernel_rfl)
@[go_sem] theorem Ua (b):(ae b).keep F.dyadic_Int=false:=_root_.id (by kernel_rfl)
theorem Sy:ah.C F.interval_known=some lS:=by kernel_rfl
theorem Sz:ah.E F.interval_known=none:=by kernel_rfl
@[go_sem] theorem Rr (b):(ae b).sh F.interval_known=[[.o 8 [.o 0 [],.o 2 [],.o 0 [],.o 0 [],.o 2 [],.o 0 [],.o 0 []]]]:=_root_.id (by kernel_rfl)
@[go_sem] theorem OV (b):(ae b).keep F.interval_known=false:=_root_.id (by kernel_rfl)
theorem SA:ah.C F.interval_Whole=some lT:=by kernel_rfl
theorem SB:ah.E F.interval_Whole=none:=by kernel_rfl
@[go_sem] theorem Rs (b):(ae b).sh F.interval_Whole=[]:=_root_.id (by kernel_rfl)
@[go_sem] theorem OW (b):(ae b).keep F.interval_Whole=false:=_root_.id (by kernel_rfl)
theorem Ub:ah.C F.interval_less=some mK:=by kernel_rfl
theorem Uc:ah.E F.interval_less=none:=by kernel_rfl
@[go_sem] theorem SC (b):(ae b).sh F.interval_less=[[.o 0 [],.o 2 [],.o 0 []],[.o 0 [],.o 2 [],.o 0 []]]:=_root_.id (by kernel_rfl)
@[go_sem] theorem P1 (b):(ae b).keep F.interval_less=false:=_root_.id (by kernel_rfl)
theorem Ud:ah.C F.interval_more=some mL:=by kernel_rfl
theorem Ue:ah.E F.interval_more=none:=by kernel_rfl
@[go_sem] theorem SD (b):(ae b).sh F.interval_more=[[.o 0 [],.o 2 [],.o 0 []],[.o 0 [],.o 2 [],.o 0 []]]:=_root_.id (by kernel_rfl)
@[go_sem] theorem P2 (b):(ae b).keep F.interval_more=false:=_root_.id (by kernel_rfl)
theorem Le:ah.C F.r03_fault=some go:=by kernel_rfl
theorem Lf:ah.E F.r03_fault=none:=by kernel_rfl
@[go_sem] theorem XL (b):(ae b).sh F.r03_fault=[[.o 0 [],.o 2 [],.o 0 []],[.o 0 [],.o 2 [],.o 0 []],[]]:=_root_.id (by kernel_rfl)
@[go_sem] theorem Dz (b):(ae b).keep F.r03_fault=false:=_root_.id (by kernel_rfl)
theorem Lg:ah.C F.r03_exact=some nT:=by kernel_rfl
theorem Lh:ah.E F.r03_exact=none:=by kernel_rfl
@[go_sem] theorem XM (b):(ae b).sh F.r03_exact=[[.o 0 [],.o 2 [],.o 0 []],[],[]]:=_root_.id (by kernel_rfl)
@[go_sem] theorem DA (b):(ae b).keep F.r03_exact=false:=_root_.id (by kernel_rfl)
theorem IA:ah.C F.dyadic_Neg=some gH:=by kernel_rfl
theorem IB:ah.E F.dyadic_Neg=none:=by kernel_rfl
@[go_sem] theorem WH (b):(ae b).sh F.dyadic_Neg=[[.o 0 [],.o 2 [],.o 0 []]]:=_root_.id (by kernel_rfl)
@[go_sem] theorem B4 (b):(ae b).keep F.dyadic_Neg=false:=_root_.id (by kernel_rfl)
theorem zT:ah.C F.dyadic_inRange=some cz:=by kernel_rfl
theorem zU:ah.E F.dyadic_inRange=none:=by kernel_rfl
@[go_sem] theorem Ru (b):(ae b).sh F.dyadic_inRange=[[.o 0 [],.o 2 [],.o 0 []]]:=_root_.id (by kernel_rfl)
@[go_sem] theorem vP (b):(ae b).keep F.dyadic_inRange=false:=_root_.id (by kernel_rfl)
theorem P3:ah.C F.r02_Mul=some lu:=by kernel_rfl
theorem P4:ah.E F.r02_Mul=none:=by kernel_rfl
@[go_sem] theorem aaF (b):(ae b).sh F.r02_Mul=[[.o 0 [],.o 2 [],.o 0 []],[.o 0 [],.o 2 [],.o 0 []]]:=_root_.id (by kernel_rfl)
@[go_sem] theorem IC (b):(ae b).keep F.r02_Mul=false:=_root_.id (by kernel_rfl)
theorem Gi:ah.C F.r02_Checked=some iy:=by kernel_rfl
theorem Gj:ah.E F.r02_Checked=none:=by kernel_rfl
@[go_sem] theorem Vd (b):(ae b).sh F.r02_Checked=[[.o 0 [],.o 2 [],.o 0 []]]:=_root_.id (by kernel_rfl)
@[go_sem] theorem zV (b):(ae b).keep F.r02_Checked=false:=_root_.id (by kernel_rfl)
theorem NW:ah.C F.interval_permitted=some iz:=by kernel_rfl
theorem NX:ah.E F.interval_permitted=none:=by kernel_rfl
@[go_sem] theorem LX (b):(ae b).sh F.interval_permitted=[]:=_root_.id (by kernel_rfl)
@[go_sem] theorem Kv (b):(ae b).keep F.interval_permitted=false:=_root_.id (by kernel_rfl)
theorem Uf:ah.C F.interval_four=some mM:=by kernel_rfl
theorem Ug:ah.E F.interval_four=none:=by kernel_rfl
@[go_sem] theorem SE (b):(ae b).sh F.interval_four=[[.o 0 [],.o 2 [],.o 0 [],.o 0 [],.o 2 [],.o 0 [],.o 0 []],[.o 0 [],.o 2 [],.o 0 [],.o 0 [],.o 2 [],.o 0 [],.o 0 []],[],[],[]]:=_root_.id (by kernel_rfl)
@[go_sem] theorem P5 (b):(ae b).keep F.interval_four=false:=_root_.id (by kernel_rfl)
theorem Uh:ah.C F.round_MulDown=some mN:=by kernel_rfl
theorem Ui:ah.E F.round_MulDown=none:=by kernel_rfl
@[go_sem] theorem SF (b):(ae b).sh F.round_MulDown=[[.o 0 [],.o 2 [],.o 0 []],[.o 0 [],.o 2 [],.o 0 []],[]]:=_root_.id (by kernel_rfl)
@[go_sem] theorem P6 (b):(ae b).keep F.round_MulDown=false:=_root_.id (by kernel_rfl)
theorem WI:ah.C F.round_MulUp=some oP:=by kernel_rfl
theorem WJ:ah.E F.round_MulUp=none:=by kernel_rfl
@[go_sem] theorem Ve (b):(ae b).sh F.round_MulUp=[[.o 0 [],.o 2 [],.o 0 []],[.o 0 [],.o 2 [],.o 0 []],[]]:=_root_.id (by kernel_rfl)
@[go_sem] theorem SG (b):(ae b).keep F.round_MulUp=false:=_root_.id (by kernel_rfl)
theorem SH:ah.C F.interval_Power=some lU:=by kernel_rfl
theorem SI:ah.E F.interval_Power=none:=by kernel_rfl
@[go_sem] theorem Rw (b):(ae b).sh F.interval_Power=[[.o 0 [],.o 2 [],.o 0 [],.o 0 [],.o 2 [],.o 0 [],.o 0 []],[],[]]:=_root_.id (by kernel_rfl)
@[go_sem] theorem OX (b):(ae b).keep F.interval_Power=false:=_root_.id (by kernel_rfl)
theorem Uj:ah.C F.interval_made=some mO:=by kernel_rfl
theorem Uk:ah.E F.interval_made=none:=by kernel_rfl
@[go_sem] theorem SJ (b):(ae b).sh F.interval_made=[[.o 0 [],.o 2 [],.o 0 []],[],[.o 0 [],.o 2 [],.o 0 []],[]]:=_root_.id (by kernel_rfl)
@[go_sem] theorem P7 (b):(ae b).keep F.interval_made=false:=_root_.id (by kernel_rfl)
theorem zW:ah.C F.interval_Valid=some cA:=by kernel_rfl
theorem zX:ah.E F.interval_Valid=none:=by kernel_rfl
@[go_sem] theorem Rx (b):(ae b).sh F.interval_Valid=[[.o 0 [],.o 2 [],.o 0 [],.o 0 [],.o 2 [],.o 0 [],.o 0 []]]:=_root_.id (by kernel_rfl)
@[go_sem] theorem vQ (b):(ae b).keep F.interval_Valid=false:=_root_.id (by kernel_rfl)
theorem ID:ah.C F.dyadic_Cmp=some dD:=by kernel_rfl
theorem IE:ah.E F.dyadic_Cmp=none:=by kernel_rfl
@[go_sem] theorem WK (b):(ae b).sh F.dyadic_Cmp=[[.o 0 [],.o 2 [],.o 0 []],[.o 0 [],.o 2 [],.o 0 []]]:=_root_.id (by kernel_rfl)
@[go_sem] theorem B5 (b):(ae b).keep F.dyadic_Cmp=false:=_root_.id (by kernel_rfl)
theorem pL:ah.C F.slices_IndexFunc_int_int_=some eE:=by kernel_rfl
theorem pM:ah.E F.slices_IndexFunc_int_int_=none:=by kernel_rfl
@[go_sem] theorem oV (b):(ae b).sh F.slices_IndexFunc_int_int_=[[.o 2 []],[]]:=_root_.id (by kernel_rfl)
@[go_sem] theorem oj (b):(ae b).keep F.slices_IndexFunc_int_int_=false:=_root_.id (by kernel_rfl)
theorem wW:ah.C F.cmp_Compare_int_=some du:=by kernel_rfl
theorem wX:ah.E F.cmp_Compare_int_=none:=by kernel_rfl
@[go_sem] theorem OY (b):(ae b).sh F.cmp_Compare_int_=[]:=_root_.id (by kernel_rfl)
@[go_sem] theorem tA (b):(ae b).keep F.cmp_Compare_int_=false:=_root_.id (by kernel_rfl)
theorem qK:ah.C F.slices_Compare_int_int_=some ck:=by kernel_rfl
theorem qL:ah.E F.slices_Compare_int_int_=none:=by kernel_rfl
@[go_sem] theorem Gk (b):(ae b).sh F.slices_Compare_int_int_=[[.o 2 []],[.o 2 []]]:=_root_.id (by kernel_rfl)
@[go_sem] theorem oW (b):(ae b).keep F.slices_Compare_int_int_=false:=_root_.id (by kernel_rfl)
theorem NY:ah.C F.r02_trim=some pm:=by kernel_rfl
theorem NZ:ah.E F.r02_trim=none:=by kernel_rfl
@[go_sem] theorem Zv (b):(ae b).sh F.r02_trim=[[.o 2 []]]:=_root_.id (by kernel_rfl)
@[go_sem] theorem Gl (b):(ae b).keep F.r02_trim=false:=_root_.id (by kernel_rfl)
theorem Li:ah.C F.r02_zeros=some nW:=by kernel_rfl
theorem Lj:ah.E F.r02_zeros=none:=by kernel_rfl
@[go_sem] theorem XN (b):(ae b).sh F.r02_zeros=[[.o 2 []]]:=_root_.id (by kernel_rfl)
@[go_sem] theorem DB (b):(ae b).keep F.r02_zeros=false:=_root_.id (by kernel_rfl)
theorem Lk:ah.C F.r02_right=some kD:=by kernel_rfl
theorem Ll:ah.E F.r02_right=none:=by kernel_rfl
@[go_sem] theorem XO (b):(ae b).sh F.r02_right=[[.o 2 []],[]]:=_root_.id (by kernel_rfl)
@[go_sem] theorem DC (b):(ae b).keep F.r02_right=false:=_root_.id (by kernel_rfl)
theorem zY:ah.C F.bound_domain_1=some fG:=by kernel_rfl
theorem zZ:ah.E F.bound_domain_1=none:=by kernel_rfl
@[go_sem] theorem Ry (b):(ae b).sh F.bound_domain_1=[[.o 0 [],.o 2 [],.o 0 [],.o 0 [],.o 2 [],.o 0 [],.o 0 []]]:=_root_.id (by kernel_rfl)
@[go_sem] theorem vR (b):(ae b).keep F.bound_domain_1=false:=_root_.id (by kernel_rfl)
theorem Gm:ah.C F.dyadic_size=some lw:=by kernel_rfl
theorem Gn:ah.E F.dyadic_size=none:=by kernel_rfl
@[go_sem] theorem Vf (b):(ae b).sh F.dyadic_size=[[.o 2 []]]:=_root_.id (by kernel_rfl)
@[go_sem] theorem z6 (b):(ae b).keep F.dyadic_size=false:=_root_.id (by kernel_rfl)
theorem Gp:ah.C F.natural_Mul=some iA:=by kernel_rfl
theorem Gq:ah.E F.natural_Mul=none:=by kernel_rfl
@[go_sem] theorem Vg (b):(ae b).sh F.natural_Mul=[[.o 2 []],[.o 2 []]]:=_root_.id (by kernel_rfl)
@[go_sem] theorem z7 (b):(ae b).keep F.natural_Mul=false:=_root_.id (by kernel_rfl)
theorem z8:ah.C F.dyadic_checked=some fH:=by kernel_rfl
theorem z9:ah.E F.dyadic_checked=none:=by kernel_rfl
@[go_sem] theorem Rz (b):(ae b).sh F.dyadic_checked=[[.o 0 [],.o 2 [],.o 0 []]]:=_root_.id (by kernel_rfl)
@[go_sem] theorem vS (b):(ae b).keep F.dyadic_checked=false:=_root_.id (by kernel_rfl)
theorem wY:ah.C F.dyadic_canonical=some et:=by kernel_rfl
theorem wZ:ah.E F.dyadic_canonical=none:=by kernel_rfl
@[go_sem] theorem OZ (b):(ae b).sh F.dyadic_canonical=[[],[.o 2 []],[]]:=_root_.id (by kernel_rfl)
@[go_sem] theorem tB (b):(ae b).keep F.dyadic_canonical=false:=_root_.id (by kernel_rfl)
theorem zf:ah.C F.round_add=some eV:=by kernel_rfl
theorem zg:ah.E F.round_add=none:=by kernel_rfl
@[go_sem] theorem XP (b):(ae b).sh F.round_add=[[.o 0 [],.o 2 [],.o 0 []],[.o 0 [],.o 2 [],.o 0 []],[],[]]:=_root_.id (by kernel_rfl)
@[go_sem] theorem tC (b):(ae b).keep F.round_add=false:=_root_.id (by kernel_rfl)
theorem Ul:ah.C F.interval_Sign=some mR:=by kernel_rfl
theorem Um:ah.E F.interval_Sign=none:=by kernel_rfl
@[go_sem] theorem SK (b):(ae b).sh F.interval_Sign=[[.o 0 [],.o 2 [],.o 0 [],.o 0 [],.o 2 [],.o 0 [],.o 0 []]]:=_root_.id (by kernel_rfl)
@[go_sem] theorem P8 (b):(ae b).keep F.interval_Sign=false:=_root_.id (by kernel_rfl)
theorem P9:ah.C F.r03_Cut=some jg:=by kernel_rfl
theorem Qa:ah.E F.r03_Cut=none:=by kernel_rfl
@[go_sem] theorem aaG (b):(ae b).sh F.r03_Cut=[[],[.o 2 []],[],[],[],[]]:=_root_.id (by kernel_rfl)
@[go_sem] theorem IF (b):(ae b).keep F.r03_Cut=false:=_root_.id (by kernel_rfl)
theorem oF:ah.C F.slices_Clone_uint32_uint32_=some cI:=by kernel_rfl
theorem oG:ah.E F.slices_Clone_uint32_uint32_=none:=by kernel_rfl
@[go_sem] theorem B6 (b):(ae b).sh F.slices_Clone_uint32_uint32_=[[.o 2 []]]:=_root_.id (by kernel_rfl)
@[go_sem] theorem mS (b):(ae b).keep F.slices_Clone_uint32_uint32_=false:=_root_.id (by kernel_rfl)
theorem IG:ah.C F.dyadic_Top=some gI:=by kernel_rfl
theorem IH:ah.E F.dyadic_Top=none:=by kernel_rfl
@[go_sem] theorem WL (b):(ae b).sh F.dyadic_Top=[[.o 0 [],.o 2 [],.o 0 []]]:=_root_.id (by kernel_rfl)
@[go_sem] theorem B7 (b):(ae b).keep F.dyadic_Top=false:=_root_.id (by kernel_rfl)
theorem Aa:ah.C F.dyadic_shifted=some ij:=by kernel_rfl
theorem Ac:ah.E F.dyadic_shifted=none:=by kernel_rfl
@[go_sem] theorem RA (b):(ae b).sh F.dyadic_shifted=[[.o 2 []],[]]:=_root_.id (by kernel_rfl)
@[go_sem] theorem vT (b):(ae b).keep F.dyadic_shifted=false:=_root_.id (by kernel_rfl)
theorem Gr:ah.C F.natural_Add=some iB:=by kernel_rfl
theorem Gs:ah.E F.natural_Add=none:=by kernel_rfl
@[go_sem] theorem Vh (b):(ae b).sh F.natural_Add=[[.o 2 []],[.o 2 []]]:=_root_.id (by kernel_rfl)
@[go_sem] theorem Ad (b):(ae b).keep F.natural_Add=false:=_root_.id (by kernel_rfl)
theorem Gt:ah.C F.natural_Cmp=some fZ:=by kernel_rfl
theorem Gu:ah.E F.natural_Cmp=none:=by kernel_rfl
@[go_sem] theorem Vi (b):(ae b).sh F.natural_Cmp=[[.o 2 []],[.o 2 []]]:=_root_.id (by kernel_rfl)
@[go_sem] theorem Ae (b):(ae b).keep F.natural_Cmp=false:=_root_.id (by kernel_rfl)
theorem Gv:ah.C F.natural_Sub=some ga:=by kernel_rfl
theorem Gw:ah.E F.natural_Sub=none:=by kernel_rfl
@[go_sem] theorem Vj (b):(ae b).sh F.natural_Sub=[[.o 2 []],[.o 2 []]]:=_root_.id (by kernel_rfl)
@[go_sem] theorem Af (b):(ae b).keep F.natural_Sub=false:=_root_.id (by kernel_rfl)
theorem Gx:ah.C F.r02_Product=some lz:=by kernel_rfl
theorem Gy:ah.E F.r02_Product=none:=by kernel_rfl
@[go_sem] theorem Vk (b):(ae b).sh F.r02_Product=[[.o 0 [],.o 2 [],.o 0 []],[.o 0 [],.o 2 [],.o 0 []]]:=_root_.id (by kernel_rfl)
@[go_sem] theorem Ag (b):(ae b).keep F.r02_Product=false:=_root_.id (by kernel_rfl)
theorem Zw:ah.C F.round_mul=some rz:=by kernel_rfl
theorem Zx:ah.E F.round_mul=none:=by kernel_rfl
@[go_sem] theorem XQ (b):(ae b).sh F.round_mul=[[.o 0 [],.o 2 [],.o 0 []],[.o 0 [],.o 2 [],.o 0 []],[],[]]:=_root_.id (by kernel_rfl)
@[go_sem] theorem Vl (b):(ae b).keep F.round_mul=false:=_root_.id (by kernel_rfl)
theorem Vm:ah.C F.interval_Abs=some nY:=by kernel_rfl
theorem Vn:ah.E F.interval_Abs=none:=by kernel_rfl
@[go_sem] theorem Un (b):(ae b).sh F.interval_Abs=[[.o 0 [],.o 2 [],.o 0 [],.o 0 [],.o 2 [],.o 0 [],.o 0 []]]:=_root_.id (by kernel_rfl)
@[go_sem] theorem RB (b):(ae b).keep F.interval_Abs=false:=_root_.id (by kernel_rfl)
theorem Vo:ah.C F.interval_end=some nZ:=by kernel_rfl
theorem Vp:ah.E F.interval_end=none:=by kernel_rfl
@[go_sem] theorem Uo (b):(ae b).sh F.interval_end=[[.o 0 [],.o 2 [],.o 0 []],[],[],[]]:=_root_.id (by kernel_rfl)
@[go_sem] theorem RE (b):(ae b).keep F.interval_end=false:=_root_.id (by kernel_rfl)
theorem w7:ah.C F.interval_Valid_1=some cG:=by kernel_rfl
theorem w9:ah.E F.interval_Valid_1=none:=by kernel_rfl
@[go_sem] theorem O0 (b):(ae b).sh F.interval_Valid_1=[[.o 0 [],.o 2 [],.o 0 []]]:=_root_.id (by kernel_rfl)
@[go_sem] theorem tD (b):(ae b).keep F.interval_Valid_1=false:=_root_.id (by kernel_rfl)
theorem Ah:ah.C F.dyadic_compare=some d9:=by kernel_rfl
theorem Ai:ah.E F.dyadic_compare=none:=by kernel_rfl
@[go_sem] theorem RF (b):(ae b).sh F.dyadic_compare=[[.o 0 [],.o 2 [],.o 0 []],[.o 0 [],.o 2 [],.o 0 []]]:=_root_.id (by kernel_rfl)
@[go_sem] theorem vU (b):(ae b).keep F.dyadic_compare=false:=_root_.id (by kernel_rfl)
theorem Aj:ah.C F.cmp_isNaN_int_=some ik:=by kernel_rfl
theorem Ak:ah.E F.cmp_isNaN_int_=none:=by kernel_rfl
@[go_sem] theorem RG (b):(ae b).sh F.cmp_isNaN_int_=[]:=_root_.id (by kernel_rfl)
@[go_sem] theorem vV (b):(ae b).keep F.cmp_isNaN_int_=false:=_root_.id (by kernel_rfl)
theorem DD:ah.C F.natural_Bits=some gW:=by kernel_rfl
theorem DE:ah.E F.natural_Bits=none:=by kernel_rfl
@[go_sem] theorem Up (b):(ae b).sh F.natural_Bits=[[.o 2 []]]:=_root_.id (by kernel_rfl)
@[go_sem] theorem yv (b):(ae b).keep F.natural_Bits=false:=_root_.id (by kernel_rfl)
theorem DF:ah.C F.natural_long=some j8:=by kernel_rfl
theorem DG:ah.E F.natural_long=none:=by kernel_rfl
@[go_sem] theorem Uq (b):(ae b).sh F.natural_long=[[.o 2 [.o 2 []]]]:=_root_.id (by kernel_rfl)
@[go_sem] theorem yw (b):(ae b).keep F.natural_long=false:=_root_.id (by kernel_rfl)
theorem DH:ah.C F.natural_done=some gX:=by kernel_rfl
theorem DI:ah.E F.natural_done=none:=by kernel_rfl
@[go_sem] theorem Ur (b):(ae b).sh F.natural_done=[[.o 2 []]]:=_root_.id (by kernel_rfl)
@[go_sem] theorem yx (b):(ae b).keep F.natural_done=false:=_root_.id (by kernel_rfl)
theorem Gz:ah.C F.natural_mul=some lA:=by kernel_rfl
theorem GA:ah.E F.natural_mul=none:=by kernel_rfl
@[go_sem] theorem Vq (b):(ae b).sh F.natural_mul=[[.o 2 []],[.o 2 []]]:=_root_.id (by kernel_rfl)
@[go_sem] theorem Al (b):(ae b).keep F.natural_mul=false:=_root_.id (by kernel_rfl)
theorem DJ:ah.C F.natural_trim=some j9:=by kernel_rfl
theorem DK:ah.E F.natural_trim=none:=by kernel_rfl
@[go_sem] theorem Us (b):(ae b).sh F.natural_trim=[[.o 2 []]]:=_root_.id (by kernel_rfl)
@[go_sem] theorem yy (b):(ae b).keep F.natural_trim=false:=_root_.id (by kernel_rfl)
theorem Am:ah.C F.dyadic_trimmed=some il:=by kernel_rfl
theorem An:ah.E F.dyadic_trimmed=none:=by kernel_rfl
@[go_sem] theorem RH (b):(ae b).sh F.dyadic_trimmed=[[.o 2 []]]:=_root_.id (by kernel_rfl)
@[go_sem] theorem vW (b):(ae b).keep F.dyadic_trimmed=false:=_root_.id (by kernel_rfl)
theorem II:ah.C F.dyadic_low=some mA:=by kernel_rfl
theorem IJ:ah.E F.dyadic_low=none:=by kernel_rfl
@[go_sem] theorem WM (b):(ae b).sh F.dyadic_low=[[.o 2 []]]:=_root_.id (by kernel_rfl)
@[go_sem] theorem B8 (b):(ae b).keep F.dyadic_low=false:=_root_.id (by kernel_rfl)
theorem GB:ah.C F.natural_Shr=some gb:=by kernel_rfl
theorem GC:ah.E F.natural_Shr=none:=by kernel_rfl
@[go_sem] theorem Vr (b):(ae b).sh F.natural_Shr=[[.o 2 []],[]]:=_root_.id (by kernel_rfl)
@[go_sem] theorem Ao (b):(ae b).keep F.natural_Shr=false:=_root_.id (by kernel_rfl)
theorem oX:ah.C F.slices_Clip_uint32_uint32_=some cK:=by kernel_rfl
theorem oY:ah.E F.slices_Clip_uint32_uint32_=none:=by kernel_rfl
@[go_sem] theorem CP (b):(ae b).sh F.slices_Clip_uint32_uint32_=[[.o 2 []]]:=_root_.id (by kernel_rfl)
@[go_sem] theorem nl (b):(ae b).keep F.slices_Clip_uint32_uint32_=false:=_root_.id (by kernel_rfl)
theorem GD:ah.C F.round_fault=some ge:=by kernel_rfl
theorem GE:ah.E F.round_fault=none:=by kernel_rfl
@[go_sem] theorem Vs (b):(ae b).sh F.round_fault=[[],[.o 4 [.o 0 [],.o 2 [],.o 0 []]]]:=_root_.id (by kernel_rfl)
@[go_sem] theorem Ap (b):(ae b).keep F.round_fault=false:=_root_.id (by kernel_rfl)
theorem GF:ah.C F.round_round=some iD:=by kernel_rfl
theorem GG:ah.E F.round_round=none:=by kernel_rfl
@[go_sem] theorem Vt (b):(ae b).sh F.round_round=[[.o 0 [],.o 2 [],.o 0 []],[],[]]:=_root_.id (by kernel_rfl)
@[go_sem] theorem Aq (b):(ae b).keep F.round_round=false:=_root_.id (by kernel_rfl)
theorem Lm:ah.C F.round_sum=some gr:=by kernel_rfl
theorem Ln:ah.E F.round_sum=none:=by kernel_rfl
@[go_sem] theorem XR (b):(ae b).sh F.round_sum=[[.o 0 [],.o 2 [],.o 0 []],[.o 0 [],.o 2 [],.o 0 []],[]]:=_root_.id (by kernel_rfl)
@[go_sem] theorem DL (b):(ae b).keep F.round_sum=false:=_root_.id (by kernel_rfl)
theorem DM:ah.C F.round_signed=some fp:=by kernel_rfl
theorem DN:ah.E F.round_signed=none:=by kernel_rfl
@[go_sem] theorem Ut (b):(ae b).sh F.round_signed=[[],[.o 2 [],.o 0 [],.o 0 []],[],[]]:=_root_.id (by kernel_rfl)
@[go_sem] theorem yz (b):(ae b).keep F.round_signed=false:=_root_.id (by kernel_rfl)
theorem N0:ah.C F.r01_Trim=some pn:=by kernel_rfl
theorem N1:ah.E F.r01_Trim=none:=by kernel_rfl
@[go_sem] theorem Zy (b):(ae b).sh F.r01_Trim=[[.o 2 []]]:=_root_.id (by kernel_rfl)
@[go_sem] theorem GH (b):(ae b).keep F.r01_Trim=false:=_root_.id (by kernel_rfl)
theorem N2:ah.C F.r01_Bits=some sN:=by kernel_rfl
theorem N3:ah.E F.r01_Bits=none:=by kernel_rfl
@[go_sem] theorem Zz (b):(ae b).sh F.r01_Bits=[[.o 2 []]]:=_root_.id (by kernel_rfl)
@[go_sem] theorem GI (b):(ae b).keep F.r01_Bits=false:=_root_.id (by kernel_rfl)
theorem Qb:ah.C F.r01_Shr=some n4:=by kernel_rfl
theorem Qc:ah.E F.r01_Shr=none:=by kernel_rfl
@[go_sem] theorem aaH (b):(ae b).sh F.r01_Shr=[[.o 2 []],[]]:=_root_.id (by kernel_rfl)
@[go_sem] theorem IK (b):(ae b).keep F.r01_Shr=false:=_root_.id (by kernel_rfl)
theorem Qd:ah.C F.r01_Cmp=some uD:=by kernel_rfl
theorem Qe:ah.E F.r01_Cmp=none:=by kernel_rfl
@[go_sem] theorem aaI (b):(ae b).sh F.r01_Cmp=[[.o 2 []],[.o 2 []]]:=_root_.id (by kernel_rfl)
@[go_sem] theorem IL (b):(ae b).keep F.r01_Cmp=false:=_root_.id (by kernel_rfl)
theorem Qf:ah.C F.r01_Shl=some qH:=by kernel_rfl
theorem Qg:ah.E F.r01_Shl=none:=by kernel_rfl
@[go_sem] theorem aaJ (b):(ae b).sh F.r01_Shl=[[.o 2 []],[]]:=_root_.id (by kernel_rfl)
@[go_sem] theorem IM (b):(ae b).keep F.r01_Shl=false:=_root_.id (by kernel_rfl)
theorem Qh:ah.C F.r01_Add=some qI:=by kernel_rfl
theorem Qi:ah.E F.r01_Add=none:=by kernel_rfl
@[go_sem] theorem aaK (b):(ae b).sh F.r01_Add=[[.o 2 []],[.o 2 []]]:=_root_.id (by kernel_rfl)
@[go_sem] theorem IN (b):(ae b).keep F.r01_Add=false:=_root_.id (by kernel_rfl)
theorem DO:ah.C F.r03_greatest=some kf:=by kernel_rfl
theorem DP:ah.E F.r03_greatest=none:=by kernel_rfl
@[go_sem] theorem Uu (b):(ae b).sh F.r03_greatest=[]:=_root_.id (by kernel_rfl)
@[go_sem] theorem yA (b):(ae b).keep F.r03_greatest=false:=_root_.id (by kernel_rfl)
theorem GJ:ah.C F.natural_Shl=some eF:=by kernel_rfl
theorem GK:ah.E F.natural_Shl=none:=by kernel_rfl
@[go_sem] theorem Vu (b):(ae b).sh F.natural_Shl=[[.o 2 []],[]]:=_root_.id (by kernel_rfl)
@[go_sem] theorem Ar (b):(ae b).keep F.natural_Shl=false:=_root_.id (by kernel_rfl)
theorem GL:ah.C F.natural_add=some iE:=by kernel_rfl
theorem GM:ah.E F.natural_add=none:=by kernel_rfl
@[go_sem] theorem Vv (b):(ae b).sh F.natural_add=[[.o 2 []],[.o 2 []]]:=_root_.id (by kernel_rfl)
@[go_sem] theorem As (b):(ae b).keep F.natural_add=false:=_root_.id (by kernel_rfl)
theorem GN:ah.C F.natural_sub=some lC:=by kernel_rfl
theorem GO:ah.E F.natural_sub=none:=by kernel_rfl
@[go_sem] theorem Vw (b):(ae b).sh F.natural_sub=[[.o 2 []],[.o 2 []]]:=_root_.id (by kernel_rfl)
@[go_sem] theorem At (b):(ae b).keep F.natural_sub=false:=_root_.id (by kernel_rfl)
theorem Lo:ah.C F.r02_times=some n6:=by kernel_rfl
theorem Lp:ah.E F.r02_times=none:=by kernel_rfl
@[go_sem] theorem XS (b):(ae b).sh F.r02_times=[[.o 2 []],[.o 2 []]]:=_root_.id (by kernel_rfl)
@[go_sem] theorem DQ (b):(ae b).keep F.r02_times=false:=_root_.id (by kernel_rfl)
theorem Vx:ah.C F.interval_Mig=some n7:=by kernel_rfl
theorem Vy:ah.E F.interval_Mig=none:=by kernel_rfl
@[go_sem] theorem Uv (b):(ae b).sh F.interval_Mig=[[.o 0 [],.o 2 [],.o 0 [],.o 0 [],.o 2 [],.o 0 [],.o 0 []]]:=_root_.id (by kernel_rfl)
@[go_sem] theorem RI (b):(ae b).keep F.interval_Mig=false:=_root_.id (by kernel_rfl)
theorem Vz:ah.C F.interval_Mag=some n8:=by kernel_rfl
theorem VA:ah.E F.interval_Mag=none:=by kernel_rfl
@[go_sem] theorem Uw (b):(ae b).sh F.interval_Mag=[[.o 0 [],.o 2 [],.o 0 [],.o 0 [],.o 2 [],.o 0 [],.o 0 []]]:=_root_.id (by kernel_rfl)
@[go_sem] theorem RJ (b):(ae b).keep F.interval_Mag=false:=_root_.id (by kernel_rfl)
theorem SL:ah.C F.interval_power=some lV:=by kernel_rfl
theorem SM:ah.E F.interval_power=none:=by kernel_rfl
@[go_sem] theorem RK (b):(ae b).sh F.interval_power=[[.o 0 [],.o 2 [],.o 0 []],[],[],[],[]]:=_root_.id (by kernel_rfl)
@[go_sem] theorem O1 (b):(ae b).keep F.interval_power=false:=_root_.id (by kernel_rfl)
theorem aaL:ah.C F.round_Up=some sO:=by kernel_rfl
theorem aaM:ah.E F.round_Up=none:=by kernel_rfl
@[go_sem] theorem ZA (b):(ae b).sh F.round_Up=[[.o 0 [],.o 2 [],.o 0 []],[]]:=_root_.id (by kernel_rfl)
@[go_sem] theorem WN (b):(ae b).keep F.round_Up=false:=_root_.id (by kernel_rfl)
theorem XT:ah.C F.round_Down=some qf:=by kernel_rfl
theorem XU:ah.E F.round_Down=none:=by kernel_rfl
@[go_sem] theorem WO (b):(ae b).sh F.round_Down=[[.o 0 [],.o 2 [],.o 0 []],[]]:=_root_.id (by kernel_rfl)
@[go_sem] theorem Ux (b):(ae b).keep F.round_Down=false:=_root_.id (by kernel_rfl)
theorem IP:ah.C F.bits_Len32=some fx:=by kernel_rfl
theorem IQ:ah.E F.bits_Len32=none:=by kernel_rfl
@[go_sem] theorem WP (b):(ae b).sh F.bits_Len32=[]:=_root_.id (by kernel_rfl)
@[go_sem] theorem B9 (b):(ae b).keep F.bits_Len32=false:=_root_.id (by kernel_rfl)
theorem jZ:ah.C F.slices_ContainsFunc_Suint32_Suint32_=some cp:=by kernel_rfl
theorem j1:ah.E F.slices_ContainsFunc_Suint32_Suint32_=none:=by kernel_rfl
@[go_sem] theorem vG (b):(ae b).sh F.slices_ContainsFunc_Suint32_Suint32_=[[.o 2 [.o 2 []]],[]]:=_root_.id (by kernel_rfl)
@[go_sem] theorem iO (b):(ae b).keep F.slices_ContainsFunc_Suint32_Suint32_=false:=_root_.id (by kernel_rfl)
theorem Au:ah.C F.natural_long_1=some im:=by kernel_rfl
theorem Av:ah.E F.natural_long_1=none:=by kernel_rfl
@[go_sem] theorem RL (b):(ae b).sh F.natural_long_1=[[.o 2 []]]:=_root_.id (by kernel_rfl)
@[go_sem] theorem vX (b):(ae b).keep F.natural_long_1=false:=_root_.id (by kernel_rfl)
@[go_sem] theorem Kw (b):(ae b).sh F.bits_TrailingZeros32=[]:=_root_.id (by kernel_rfl)
@[go_sem] theorem G6 (b):(ae b).keep F.bits_TrailingZeros32=false:=_root_.id (by kernel_rfl)
theorem GP:ah.C F.natural_shr=some iH:=by kernel_rfl
theorem GQ:ah.E F.natural_shr=none:=by kernel_rfl
@[go_sem] theorem VB (b):(ae b).sh F.natural_shr=[[.o 2 []],[]]:=_root_.id (by kernel_rfl)
@[go_sem] theorem Aw (b):(ae b).keep F.natural_shr=false:=_root_.id (by kernel_rfl)
theorem Ca:ah.C F.round_precise=some gw:=by kernel_rfl
theorem Cb:ah.E F.round_precise=none:=by kernel_rfl
@[go_sem] theorem SN (b):(ae b).sh F.round_precise=[]:=_root_.id (by kernel_rfl)
@[go_sem] theorem xc (b):(ae b).keep F.round_precise=false:=_root_.id (by kernel_rfl)
theorem N4:ah.C F.round_of=some po:=by kernel_rfl
theorem N5:ah.E F.round_of=none:=by kernel_rfl
@[go_sem] theorem ZB (b):(ae b).sh F.round_of=[[.o 0 [],.o 2 [],.o 0 []]]:=_root_.id (by kernel_rfl)
@[go_sem] theorem GR (b):(ae b).keep F.round_of=false:=_root_.id (by kernel_rfl)
theorem Lq:ah.C F.round_shl=some oe:=by kernel_rfl
theorem Lr:ah.E F.round_shl=none:=by kernel_rfl
@[go_sem] theorem XV (b):(ae b).sh F.round_shl=[[.o 2 []],[]]:=_root_.id (by kernel_rfl)
@[go_sem] theorem DR (b):(ae b).keep F.round_shl=false:=_root_.id (by kernel_rfl)
theorem Ls:ah.C F.round_shr=some kF:=by kernel_rfl
theorem Lt:ah.E F.round_shr=none:=by kernel_rfl
@[go_sem] theorem XW (b):(ae b).sh F.round_shr=[[.o 2 []],[]]:=_root_.id (by kernel_rfl)
@[go_sem] theorem DS (b):(ae b).keep F.round_shr=false:=_root_.id (by kernel_rfl)
theorem Lu:ah.C F.round_cut=some iI:=by kernel_rfl
theorem Lv:ah.E F.round_cut=none:=by kernel_rfl
@[go_sem] theorem XX (b):(ae b).sh F.round_cut=[[.o 2 [],.o 0 [],.o 0 []],[],[]]:=_root_.id (by kernel_rfl)
@[go_sem] theorem DT (b):(ae b).keep F.round_cut=false:=_root_.id (by kernel_rfl)
theorem WQ:ah.C F.dyadic_Bits=some oS:=by kernel_rfl
theorem WR:ah.E F.dyadic_Bits=none:=by kernel_rfl
@[go_sem] theorem VC (b):(ae b).sh F.dyadic_Bits=[[.o 0 [],.o 2 [],.o 0 []]]:=_root_.id (by kernel_rfl)
@[go_sem] theorem SO (b):(ae b).keep F.dyadic_Bits=false:=_root_.id (by kernel_rfl)
theorem SP:ah.C F.r01_at=some pK:=by kernel_rfl
theorem SQ:ah.E F.r01_at=none:=by kernel_rfl
@[go_sem] theorem acR (b):(ae b).sh F.r01_at=[[.o 2 []],[]]:=_root_.id (by kernel_rfl)
@[go_sem] theorem Lw (b):(ae b).keep F.r01_at=false:=_root_.id (by kernel_rfl)
theorem Qj:ah.C F.r01_Sub=some qJ:=by kernel_rfl
theorem Qk:ah.E F.r01_Sub=none:=by kernel_rfl
@[go_sem] theorem aaN (b):(ae b).sh F.r01_Sub=[[.o 2 []],[.o 2 []]]:=_root_.id (by kernel_rfl)
@[go_sem] theorem IR (b):(ae b).keep F.r01_Sub=false:=_root_.id (by kernel_rfl)
theorem GS:ah.C F.natural_shl=some lE:=by kernel_rfl
theorem GT:ah.E F.natural_shl=none:=by kernel_rfl
@[go_sem] theorem VD (b):(ae b).sh F.natural_shl=[[.o 2 []],[]]:=_root_.id (by kernel_rfl)
@[go_sem] theorem Ax (b):(ae b).keep F.natural_shl=false:=_root_.id (by kernel_rfl)
theorem IS:ah.C F.bits_Add32=some mD:=by kernel_rfl
theorem IT:ah.E F.bits_Add32=none:=by kernel_rfl
@[go_sem] theorem WS (b):(ae b).sh F.bits_Add32=[]:=_root_.id (by kernel_rfl)
@[go_sem] theorem Cc (b):(ae b).keep F.bits_Add32=false:=_root_.id (by kernel_rfl)
theorem IU:ah.C F.bits_Sub32=some mE:=by kernel_rfl
theorem IV:ah.E F.bits_Sub32=none:=by kernel_rfl
@[go_sem] theorem WT (b):(ae b).sh F.bits_Sub32=[]:=_root_.id (by kernel_rfl)
@[go_sem] theorem Cd (b):(ae b).keep F.bits_Sub32=false:=_root_.id (by kernel_rfl)
theorem XY:ah.C F.dyadic_Abs=some qh:=by kernel_rfl
theorem XZ:ah.E F.dyadic_Abs=none:=by kernel_rfl
@[go_sem] theorem WU (b):(ae b).sh F.dyadic_Abs=[[.o 0 [],.o 2 [],.o 0 []]]:=_root_.id (by kernel_rfl)
@[go_sem] theorem Uy (b):(ae b).keep F.dyadic_Abs=false:=_root_.id (by kernel_rfl)
theorem lI:ah.C F.slices_IndexFunc_Suint32_Suint32_=some cN:=by kernel_rfl
theorem lJ:ah.E F.slices_IndexFunc_Suint32_Suint32_=none:=by kernel_rfl
@[go_sem] theorem kG (b):(ae b).sh F.slices_IndexFunc_Suint32_Suint32_=[[.o 2 [.o 2 []]],[]]:=_root_.id (by kernel_rfl)
@[go_sem] theorem j2 (b):(ae b).keep F.slices_IndexFunc_Suint32_Suint32_=false:=_root_.id (by kernel_rfl)
theorem GU:ah.C F.dyadic_Make=some eH:=by kernel_rfl
theorem GV:ah.E F.dyadic_Make=none:=by kernel_rfl
@[go_sem] theorem VE (b):(ae b).sh F.dyadic_Make=[[],[.o 2 []],[]]:=_root_.id (by kernel_rfl)
@[go_sem] theorem Ay (b):(ae b).keep F.dyadic_Make=false:=_root_.id (by kernel_rfl)
theorem yB:ah.C F.dyadic_exponent=some eY:=by kernel_rfl
theorem yC:ah.E F.dyadic_exponent=none:=by kernel_rfl
@[go_sem] theorem Ql (b):(ae b).sh F.dyadic_exponent=[]:=_root_.id (by kernel_rfl)
@[go_sem] theorem uI (b):(ae b).keep F.dyadic_exponent=false:=_root_.id (by kernel_rfl)
end Go.Ab
