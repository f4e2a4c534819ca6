/-
  A law of ranges holds at every input that the statement speaks of, under the conditions that its card names. Part F1.
-/
import Derived.Test.YtfdhicohflnjnaaGreatDoorE1
open Nat renaming reduceAdd → am3, reduceMul → am4, reduceLeDiff → am5, reduceLT → am6, reduceBEq → am7
open Int renaming reduceLT → am8, reduceToNat → am9, reduceLE → ana, reduceEq → anb
set_option linter.all false
namespace Go.Ab
open Go Go.IntWalk
set_option maxRecDepth 4000
set_option maxHeartbeats 4000000
def pQ (n:Nat):Rat:=((2 ^ n:Int):Rat)
def eQ (n:Nat):Rat:=1 / pQ n
theorem VH (n:Nat):0 < pQ n:=by
 have:(0:Int) < 2 ^ n:=Int.pow_pos (by decide);unfold pQ;exact_mod_cast this
theorem C1 (n:Nat):eQ n*pQ n=1:=by
 grind [VH,eQ]
theorem N2 (n:Nat):0 < eQ n:=by
 have h:=C1 n;refine Rat.not_le.1 fun hn=>?_;have:=Rat.mul_le_mul_of_nonneg_right hn (Rat.le_of_lt (VH n));grind
def EQ:Rat:=eQ 16384
theorem Af:0 < EQ:=N2 _
def qv (d:Rd):Rat:=(zI d:Rat)*EQ
theorem Ag {a b:Int} (h:a≤b):(a:Rat)≤b:=by exact_mod_cast h
theorem DY {a b:Rd}:qv a≤qv b↔zI a≤zI b:=by
 unfold qv;constructor
 ·intro h;refine Int.not_lt.1 fun hc=>?_;have h1:(zI b:Rat) < zI a:=by exact_mod_cast hc
  have:=Rat.mul_lt_mul_of_pos_right h1 Af;grind
 grind [Rat.mul_le_mul_of_nonneg_right,Ag,Rat.le_of_lt,Af]
theorem C2:qv aP=0:=by
 unfold qv;rw [ez rfl];grind
theorem Ah {d:Rd} (h:vd d=true):qv (dw d)=-qv d∧vd (dw d)=true:=by
 obtain ⟨a,b⟩:=Ja h;unfold qv;rw [a,Rat.intCast_neg];grind
def In (q:Rat) (x:Ri):Prop:=x=cQ∨x.all=false∧VI x∧qv x.lo≤q∧q≤qv x.hi
theorem In.vi {q:Rat} {x:Ri} (h:In q x):VI x:=by
 rcases h with rfl | h
 ·exact NP
 grind
theorem In.ok {q:Rat} {x:Ri} (h:In q x):OkI x:=⟨h.vi.1.2,h.vi.2.2⟩
theorem In.k {q:Rat} {x:Ri} (h:In q x):x=cQ∧kI x=false∨kI x=true∧qv x.lo≤q∧q≤qv x.hi:=by
 rcases h with rfl | ⟨h1,h2,h3,h4⟩
 ·exact Or.inl ⟨rfl,rfl⟩
 ·exact Or.inr ⟨ad5 h2.1.1 h2.2.1 (DY.1 (Rat.le_trans h3 h4)) h1,h3,h4⟩
theorem In.v {q:Rat} {x:Ri} (h:In q x):Ab.vi x=true:=by
 rcases h.k with ⟨rfl,_⟩ | ⟨h,_⟩
 ·rfl
 ·unfold kI at h;grind
theorem LH {q:Rat} {r s:Rd × Int} (vr:vd r.1=true∧Ok0 r.1) (vs:vd s.1=true∧Ok0 s.1) (h1:r.2=0→qv r.1≤q) (h2:s.2=0→q≤qv s.1):In q (nS r s):=by
 unfold nS;split
 ·next h=>exact Or.inr ⟨rfl,⟨vr,vs⟩,h1 h.1,h2 h.2⟩
 ·exact Or.inl rfl
theorem sE {d:Rd} (h:vd d=true) (ok:Ok0 d):In (qv d) ⟨d,d,false⟩:=Or.inr ⟨rfl,⟨⟨h,ok⟩,⟨h,ok⟩⟩,Rat.le_refl,Rat.le_refl⟩
theorem Ai {p:Int} (hp:di p=true):8≤p∧p≤512:=by
 simp_all [di,Bool.and_eq_true,decide_eq_true_eq]
theorem Hh {a b:Rd} {p:Int} (ha:vd a=true) (hb:vd b=true) (hp:di p=true):bp p [a,b]=0:=by
 grind [Ai,bp]
theorem Hi {a b:Rd} {p:Int} {up:Bool} (ha:vd a=true) (hb:vd b=true) (hp:di p=true) (h:(eM a b p up).2=0):(up=true→qv a+qv b≤qv (eM a b p up).1)∧(up=false→qv (eM a b p up).1≤qv a+qv b):=by
 unfold eM at h ⊢;rw [if_pos (Hh ha hb hp)] at h ⊢;have hh:(up=true→zI a+zI b≤zI (kN (zI a+zI b) (-16384) p up).1*2 ^ 0)∧(up=false→zI (kN (zI a+zI b) (-16384) p up).1*2 ^ 0≤zI a+zI b):=DV (j:=0) (Ai hp) h;obtain ⟨h1,h2⟩:=hh;simp only [Int.pow_zero,Int.mul_one] at h1 h2;have e:qv a+qv b=((zI a+zI b:Int):Rat)*EQ:=by unfold qv; grind
 rw [e];exact ⟨fun hu=>Rat.mul_le_mul_of_nonneg_right (Ag (h1 hu)) (Rat.le_of_lt Af),fun hu=>Rat.mul_le_mul_of_nonneg_right (Ag (h2 hu)) (Rat.le_of_lt Af)⟩
theorem Hj {z r:Int} (n:Nat):(z≤r*2 ^ n→(z:Rat)*eQ n*eQ n≤r*eQ n)∧(r*2 ^ n≤z→(r:Rat)*eQ n≤z*eQ n*eQ n):=by
 have e:(r:Rat)*eQ n=((r*2 ^ n:Int):Rat)*eQ n*eQ n:=by
  rw [Rat.intCast_mul,show (((2:Int) ^ n:Int):Rat)=pQ n from rfl];grind [C1]
 rw [e];have h0:=Rat.le_of_lt (N2 n);exact ⟨fun h=>Rat.mul_le_mul_of_nonneg_right (Rat.mul_le_mul_of_nonneg_right (Ag h) h0) h0,fun h=>Rat.mul_le_mul_of_nonneg_right (Rat.mul_le_mul_of_nonneg_right (Ag h) h0) h0⟩
theorem Hk {a b:Rd} {p:Int} {up:Bool} (ha:vd a=true) (hb:vd b=true) (hp:di p=true) (h:(fl a b p up).2=0):(up=true→qv a*qv b≤qv (fl a b p up).1)∧(up=false→qv (fl a b p up).1≤qv a*qv b):=by
 unfold fl at h ⊢;rw [if_pos (Hh ha hb hp)] at h ⊢;obtain ⟨h1,h2⟩:=DV (j:=16384) (Ai hp) h;have e:qv a*qv b=((zI a*zI b:Int):Rat)*EQ*EQ:=by unfold qv; grind
 rw [e];exact ⟨fun hu=>(Hj _).1 (h1 hu),fun hu=>(Hj _).2 (h2 hu)⟩
theorem DZ {x y:Ri} {a b:Rat} {p:Int} (hx:In a x) (hy:In b y):In (a+b) (oP x y p):=by
 unfold oP;split
 ·next h =>
  simp only [Bool.and_eq_true] at h;obtain ⟨⟨kx,ky⟩,hp⟩:=h;rcases hx.k with ⟨rfl,h⟩ | ⟨_,x1,x2⟩
  ·grind
  rcases hy.k with ⟨rfl,h⟩ | ⟨_,y1,y2⟩
  ·grind
  have ok:∀ {a b:Rd} {up:Bool},vd (eM a b p up).1=true∧Ok0 (eM a b p up).1:=fun {a b up}=>by
   grind [eM,sz,bm]
  refine LH ok ok (fun h=>?_) (fun h=>?_)
  ·have:=(Hi hx.vi.1.1 hy.vi.1.1 hp h).2 rfl;grind
  ·have:=(Hi hx.vi.2.1 hy.vi.2.1 hp h).1 rfl;grind
 ·exact Or.inl rfl
theorem Z6 {x:Ri} {a:Rat} (hx:In a x):In (-a) (C0 x):=by
 unfold C0;split
 ·next h =>
  rcases hx.k with ⟨rfl,h1⟩ | ⟨_,x1,x2⟩
  ·grind
  have n1:=Ah hx.vi.1.1;have n2:=Ah hx.vi.2.1;exact Or.inr ⟨rfl,⟨⟨n2.2,ri hx.ok.hi⟩,⟨n1.2,ri hx.ok.lo⟩⟩,by grind,by grind⟩
 ·exact Or.inl rfl
theorem Z7 {x y:Ri} {a b:Rat} {p:Int} (hx:In a x) (hy:In b y):In (a - b) (Tt x y p):=by
 have:=DZ (p:=p) hx (Z6 hy);rw [show a+-b=a - b by grind] at this;exact this
theorem C3 {a b:Rd} (ha:vd a=true) (hb:vd b=true):(ce a b < 0→qv a≤qv b)∧(¬ce a b < 0→qv b≤qv a)∧(0 < ce a b→qv b≤qv a)∧(¬0 < ce a b→qv a≤qv b)∧(ce a b≤0↔qv a≤qv b)∧(0≤ce a b↔qv b≤qv a):=by
 unfold ce;grind [DY,bI]
theorem D0 {a b:Rd} (ha:vd a=true∧Ok0 a) (hb:vd b=true∧Ok0 b):qv (fM a b)≤qv a∧qv (fM a b)≤qv b∧vd (fM a b)=true∧Ok0 (fM a b)∧(∀ q,q≤qv a→q≤qv b→q≤qv (fM a b)):=by
 obtain ⟨c1,c2,c3,c4,c5,c6⟩:=C3 ha.1 hb.1;grind [fM,Rat.le_refl]
theorem D3 {a b:Rd} (ha:vd a=true∧Ok0 a) (hb:vd b=true∧Ok0 b):qv a≤qv (fN a b)∧qv b≤qv (fN a b)∧vd (fN a b)=true∧Ok0 (fN a b)∧(∀ q,qv a≤q→qv b≤q→qv (fN a b)≤q):=by
 obtain ⟨c1,c2,c3,c4,c5,c6⟩:=C3 ha.1 hb.1;grind [fN,Rat.le_refl]
theorem Bd {x y:Ri} {a b:Rat} (hx:In a x) (hy:In b y):(In a (Bc x y)∧In b (Bc x y)):=by
 unfold Bc;split
 ·next h =>
  rcases hx.k with ⟨rfl,h1⟩ | ⟨_,x1,x2⟩
  ·grind
  rcases hy.k with ⟨rfl,h1⟩ | ⟨_,y1,y2⟩
  ·grind
  obtain ⟨l1,l2,l3,l4,l5⟩:=D0 hx.vi.1 hy.vi.1;obtain ⟨m1,m2,m3,m4,m5⟩:=D3 hx.vi.2 hy.vi.2;exact ⟨Or.inr ⟨rfl,⟨⟨l3,l4⟩,⟨m3,m4⟩⟩,by grind,by grind⟩,Or.inr ⟨rfl,⟨⟨l3,l4⟩,⟨m3,m4⟩⟩,by grind,by grind⟩⟩
 ·exact ⟨Or.inl rfl,Or.inl rfl⟩
theorem XW {x y:Ri} {q:Rat} (hx:In q x) (hy:In q y):(nU x y).2=true∧In q (nU x y).1:=by
 unfold nU;rw [if_pos (by rw [hx.v,hy.v]; rfl)];rcases hx with rfl | ⟨ha,hv,h1,h2⟩
 ·rw [if_pos (show cQ.all=true from rfl)];grind
 ·rw [if_neg (by grind)];rcases hy with rfl | ⟨hb,hw,h3,h4⟩
  ·exact ⟨rfl,Or.inr ⟨ha,hv,h1,h2⟩⟩
  ·rw [if_neg (by grind)];obtain ⟨l1,l2,l3,l4,l5⟩:=D0 hv.2 hw.2;obtain ⟨m1,m2,m3,m4,m5⟩:=D3 hv.1 hw.1;have a:=l5 q h2 h4;have b:=m5 q h1 h3;rw [if_pos ((C3 m3 l3).2.2.2.2.1.2 (Rat.le_trans b a))];exact ⟨rfl,Or.inr ⟨rfl,⟨⟨m3,m4⟩,⟨l3,l4⟩⟩,b,a⟩⟩
theorem Q4 {dn up:Rd→Rd→Rd × Int} {pr:Nat→Rd × Rd} (okd:∀ a b,vd (dn a b).1=true∧Ok0 (dn a b).1) (oku:∀ a b,vd (up a b).1=true∧Ok0 (up a b).1) {v:Nat→Rat}
  (hd:∀ i,i < 4→(dn (pr i).1 (pr i).2).2=0→qv (dn (pr i).1 (pr i).2).1≤v i) (hu:∀ i,i < 4→(up (pr i).1 (pr i).2).2=0→v i≤qv (up (pr i).1 (pr i).2).1) {q:Rat} (hq:∀ lo hi:Rat,(∀ i,i < 4→lo≤v i∧v i≤hi)→lo≤q∧q≤hi):In q (Ad (nT dn up pr)):=by
 have key:∀ (k i:Nat) (o:Rd × Rd),i+k=4→(vd o.1=true∧Ok0 o.1)→(vd o.2=true∧Ok0 o.2)→(∀ j,j < i→qv o.1≤v j∧v j≤qv o.2)→In q (Ad (sB dn up pr k i o)):=by
  intro k;induction k with
  | zero =>
   intro i o hi v1 v2 h;have:=hq _ _ fun j hj=>h j (by omega);exact Or.inr ⟨rfl,⟨v1,v2⟩,this.1,this.2⟩
  | succ k ih =>
   intro i o hi v1 v2 h;unfold sB;split
   ·next he =>
    have od:=okd (pr i).1 (pr i).2;have ou:=oku (pr i).1 (pr i).2;obtain ⟨c1,c2,_,_⟩:=C3 od.1 v1.1;obtain ⟨_,_,c3,c4,_⟩:=C3 ou.1 v2.1;grind
   ·exact Or.inl rfl
 unfold nT;split
 ·grind
 ·exact Or.inl rfl
theorem Jj {xl xh x y lo hi:Rat} (h1:xl≤x) (h2:x≤xh) (a:lo≤xl*y∧xl*y≤hi) (b:lo≤xh*y∧xh*y≤hi):lo≤x*y∧x*y≤hi:=by
 by_cases h:0≤y
 ·have:=Rat.mul_le_mul_of_nonneg_right h1 h;have:=Rat.mul_le_mul_of_nonneg_right h2 h;grind
 ·have h:0≤-y:=by grind
  have:=Rat.mul_le_mul_of_nonneg_right h1 h;have:=Rat.mul_le_mul_of_nonneg_right h2 h;grind
theorem Q5 {xl xh x yl yh y lo hi:Rat} (h1:xl≤x) (h2:x≤xh) (h3:yl≤y) (h4:y≤yh) (a:lo≤xl*yl∧xl*yl≤hi) (b:lo≤xl*yh∧xl*yh≤hi) (c:lo≤xh*yl∧xh*yl≤hi) (d:lo≤xh*yh∧xh*yh≤hi):lo≤x*y∧x*y≤hi:=by
 grind [Rat.mul_comm,Jj]
theorem wz {x y:Ri} {a b:Rat} {p:Int} (hx:In a x) (hy:In b y):In (a*b) (nv x y p):=by
 unfold nv;split
 ·next h =>
  simp only [Bool.and_eq_true] at h;obtain ⟨⟨kx,ky⟩,hp⟩:=h;rcases hx.k with ⟨rfl,h⟩ | ⟨_,x1,x2⟩
  ·grind
  rcases hy.k with ⟨rfl,h⟩ | ⟨_,y1,y2⟩
  ·grind
  have ok:∀ (up:Bool) (a b:Rd),vd (fl a b p up).1=true∧Ok0 (fl a b p up).1:=fun up a b=>by
   grind [fl,sz,bm]
  have hv:∀ i,vd (ku x y i).1=true∧vd (ku x y i).2=true:=fun i=>by
   unfold ku;split
   ·exact ⟨hx.vi.1.1,hy.vi.1.1⟩
   ·exact ⟨hx.vi.1.1,hy.vi.2.1⟩
   ·exact ⟨hx.vi.2.1,hy.vi.1.1⟩
   ·exact ⟨hx.vi.2.1,hy.vi.2.1⟩
  refine Q4 (v:=fun i=>qv (ku x y i).1*qv (ku x y i).2) (ok false) (ok true) (fun i _ h=>(Hk (hv i).1 (hv i).2 hp h).2 rfl) (fun i _ h=>(Hk (hv i).1 (hv i).2 hp h).1 rfl) fun lo hi h=>?_;exact Q5 x1 x2 y1 y2 (h 0 (by decide)) (h 1 (by decide)) (h 2 (by decide)) (h 3 (by decide))
 ·exact Or.inl rfl
abbrev LF:=G→Rat
def oS (W v:G):Nat→Rat
 | 0=>0
 | d+1=>oS W v d+W d*v d
def kO (d:Nat) (L:LF):Prop:=∃ W,∀ v,L v=oS W v d
theorem VJ {W v w:G}:∀ d:Nat,(∀ j,j < d→v j=w j)→oS W v d=oS W w d
 | 0,_=>rfl
 | d+1,h=>by simp only [oS]; rw [VJ d fun j hj=>h j (by omega),h d (by omega)]
theorem Q6 {W v w:G} {a b:Rat}:∀ d:Nat,oS W (fun j=>a*v j+b*w j) d=a*oS W v d+b*oS W w d
 | 0=>by grind [oS]
 | d+1=>by simp only [oS]; rw [Q6 d]; grind
theorem YL {U W v:G} {a b:Rat}:∀ d:Nat,oS (fun j=>a*U j+b*W j) v d=a*oS U v d+b*oS W v d
 | 0=>by grind [oS]
 | d+1=>by simp only [oS]; rw [YL d]; grind
theorem kO.cg {d:Nat} {L:LF} (h:kO d L) {v w:G} (e:∀ j,j < d→v j=w j):L v=L w:=by
 obtain ⟨W,h⟩:=h;rw [h,h,VJ d e]
theorem kO.lin {d:Nat} {L:LF} (h:kO d L) {v w:G} {a b:Rat}:L (fun j=>a*v j+b*w j)=a*L v+b*L w:=by
 obtain ⟨W,h⟩:=h;rw [h,h,h,Q6 d]
theorem kO.zero {d:Nat} {L:LF} (h:kO d L):L (fun _=>0)=0:=by
 have:=h.lin (v:=fun _=>0) (w:=fun _=>0) (a:=0) (b:=0);grind
theorem kO.swap {d c:Nat} {L P:LF} (h:kO d L) (hP:kO c P) (f:Nat→Nat→Rat):P (fun j=>L (fun r=>f r j))=L (fun r=>P (fun j=>f r j)):=by
 obtain ⟨W,hP⟩:=hP;simp only [hP];clear hP;induction c with
 | zero=>exact h.zero.symm
 | succ c ih =>
  simp only [oS];have:=h.lin (v:=fun r=>oS W (fun j=>f r j) c) (w:=fun r=>f r c) (a:=1) (b:=W c);grind
theorem VK {d i:Nat} (h:i < d):kO d fun v=>v i:=by
 refine ⟨fun j=>if j=i then 1 else 0,fun v=>?_⟩;have:∀ c,oS (fun j=>if j=i then 1 else 0) v c=if i < c then v i else 0:=by
  intro c;induction c with
  | zero=>rfl
  | succ c ih =>
   simp only [oS,ih];grind
 grind
theorem kO.comb {d:Nat} {L M:LF} (h:kO d L) (h':kO d M) (a b:Rat):kO d fun v=>a*L v+b*M v:=by
 obtain ⟨W,h⟩:=h;obtain ⟨U,h'⟩:=h';exact ⟨fun j=>a*W j+b*U j,fun v=>by
  show a*L v+b*M v=_;rw [YL,h,h']⟩
theorem XX {d:Nat}:kO d fun _=>0:=⟨fun _=>0,fun v=>by
 induction d with
 | zero=>rfl
 | succ d ih=>grind [oS]⟩
theorem C4 {x:Rat} {d:Nat}:∀ c i:Nat,i+c≤d→kO d fun v=>pl x v i c
 | 0,_,_=>XX
 | c+1,i,h=>by
  have:=(VK (d:=d) (i:=i) (by omega)).comb (C4 (x:=x) c (i+1) (by omega)) 1 x;simp only [Rat.one_mul] at this;exact this
theorem Hl {t:Rat} {d:Nat}:∀ n i:Nat,i+n < d→kO d fun v=>dc t v n i
 | 0,i,h=>VK h
 | n+1,i,h=>(Hl (t:=t) n i (by omega)).comb (Hl n (i+1) (by omega)) (1 - t) t
theorem N3 {t lo hi:Rat} (h0:0≤t) (h1:t≤1) {v:G}:∀ n i:Nat,(∀ j,i≤j→j≤i+n→lo≤v j∧v j≤hi)→lo≤dc t v n i∧dc t v n i≤hi
 | 0,i,h=>h i (Nat.le_refl _) (Nat.le_refl _)
 | n+1,i,h=>by
  have a:=N3 h0 h1 n i fun j a b=>h j a (by omega);have b:=N3 h0 h1 n (i+1) fun j a b=>h j (by omega) (by omega);have h2:0≤1 - t:=by grind
  simp only [dc];have q1:=Rat.mul_le_mul_of_nonneg_left a.1 h2;have q2:=Rat.mul_le_mul_of_nonneg_left a.2 h2;have q3:=Rat.mul_le_mul_of_nonneg_left b.1 h0;have q4:=Rat.mul_le_mul_of_nonneg_left b.2 h0;grind
def eR:List (Nat × LF)→Nat→Nat→G→Rat
 | [],_,i,g=>g i
 | p::ls,s,i,g=>p.2 fun j=>eR ls (s*(p.1+1)) (i+j*s) g
def sO:List (Nat × LF)→Nat→Nat
 | [],s=>s
 | p::ls,s=>sO ls (s*(p.1+1))
def Hm (ls:List (Nat × LF)):Prop:=∀ p ∈ ls,kO (p.1+1) p.2
theorem VL {g1 g2:G}:∀ (ls:List (Nat × LF)),Hm ls→∀ s i:Nat,(∀ q,q*s+s≤sO ls s→g1 (i+q*s)=g2 (i+q*s))→eR ls s i g1=eR ls s i g2
 | [],_,s,i,h=>by
  have:=h 0 (by grind [sO]);grind [eR]
 | p::ls,ok,s,i,h=>by
  refine (ok p (by simp)).cg fun j hj=>VL ls (fun q hq=>ok q (by grind)) _ _ fun q hq=>?_;have e:i+j*s+q*(s*(p.1+1))=i+(j+q*(p.1+1))*s:=by grind
  rw [e];refine h _ (Nat.le_trans ?_ hq);have:(j+1)*s≤(p.1+1)*s:=Nat.mul_le_mul_right _ hj;grind
theorem FX {c:Nat} {P:LF} (hP:kO c P) {g:G} (a:Nat→Nat):∀ (ls:List (Nat × LF)),Hm ls→∀ s i:Nat,P (fun j=>eR ls s (i+a j) g)=eR ls s i fun i'=>P fun j=>g (i'+a j)
 | [],_,_,_=>rfl
 | p::ls,ok,s,i=>by
  show P (fun j=>p.2 fun r=>eR ls (s*(p.1+1)) (i+a j+r*s) g)=p.2 fun r=>eR ls (s*(p.1+1)) (i+r*s) _;rw [(ok p (by simp)).swap hP];refine congrArg p.2 (funext fun r=>?_);rw [← FX hP a ls (fun q hq=>ok q (by grind))];grind
theorem N4 {d:Nat} {P B:LF} (hP:kO (d+1) P) (hB:kO (d+1) B) {post:List (Nat × LF)} (op:Hm post) {g g':G}:∀ (pre:List (Nat × LF)),Hm pre→∀ s i:Nat,i < s →
  (∀ i0 q,i0 < sO pre s→q*(sO pre s*(d+1))+sO pre s*(d+1)≤sO post (sO pre s*(d+1))→P (fun j=>g (i0+q*(sO pre s*(d+1))+j*sO pre s))=B (fun j=>g' (i0+q*(sO pre s*(d+1))+j*sO pre s))) →
  eR (pre++(d,P)::post) s i g=eR (pre++(d,B)::post) s i g'
 | [],_,s,i,hi,h=>by
  show P (fun j=>eR post (s*(d+1)) (i+j*s) g)=B (fun j=>eR post (s*(d+1)) (i+j*s) g');rw [FX hP _ post op,FX hB _ post op];exact VL post op _ _ fun q hq=>h i q hi hq
 | p::pre,ok,s,i,hi,h=>by
  refine (ok p (by simp)).cg fun j hj=>N4 hP hB op pre (fun q hq=>ok q (by simp [hq])) _ _ ?_ h;have:j*s≤p.1*s:=Nat.mul_le_mul_right _ (by omega);grind
theorem Q7 {lo hi:Rat} {g:G}:∀ (ls:List (Nat × LF)),(∀ p ∈ ls,∀ v:G,(∀ j,j≤p.1→lo≤v j∧v j≤hi)→lo≤p.2 v∧p.2 v≤hi)→∀ s i:Nat,(∀ q,q*s+s≤sO ls s→lo≤g (i+q*s)∧g (i+q*s)≤hi)→lo≤eR ls s i g∧eR ls s i g≤hi
 | [],_,s,i,h=>by
  have:=h 0 (by grind [sO]);grind [eR]
 | p::ls,ok,s,i,h=>by
  refine ok p (by simp) _ fun j hj=>Q7 ls (fun q hq=>ok q (by grind)) _ _ fun q hq=>?_;have e:i+j*s+q*(s*(p.1+1))=i+(j+q*(p.1+1))*s:=by grind
  rw [e];refine h _ (Nat.le_trans ?_ hq);have:j*s≤p.1*s:=Nat.mul_le_mul_right _ hj;grind
def ps (op:Nat→G→G) (s n:Nat):Nat→Nat→G→G
 | 0,_,g=>g
 | k+1,i,g=>ps op s n k (i+1) (if i / s % (n+1)=0 then op i g else g)
theorem Z8 {s n f f' m m':Nat} (hs:0 < s) (h1:f / s % (n+1)=0) (h2:f' / s % (n+1)=0) (hm:m≤n) (hm':m'≤n) (e:f+m*s=f'+m'*s):f=f':=by
 have h3:(f+m*s) / s % (n+1)=m:=by
  rw [Nat.add_mul_div_right _ _ hs,Nat.add_mod,h1,Nat.zero_add,Nat.mod_mod,Nat.mod_eq_of_lt (by omega)]
 have h4:(f'+m'*s) / s % (n+1)=m':=by
  rw [Nat.add_mul_div_right _ _ hs,Nat.add_mod,h2,Nat.zero_add,Nat.mod_mod,Nat.mod_eq_of_lt (by omega)]
 grind
theorem aed {L L':LF} {s n:Nat} (hs:0 < s) (cL:kO (n+1) L) (cL':kO (n+1) L') {op:Nat→G→G} (hop:∀ f g,(∀ a,(∀ m,m≤n→a ≠ f+m*s)→op f g a=g a)∧L (fun m=>g (f+m*s))=L' (fun m=>op f g (f+m*s))) :
  ∀ (k i:Nat) (g:G),(∀ f m,f < i→f / s % (n+1)=0→m≤n→ps op s n k i g (f+m*s)=g (f+m*s))∧∀ f,i≤f→f < i+k→f / s % (n+1)=0→L (fun m=>g (f+m*s))=L' (fun m=>ps op s n k i g (f+m*s)):=by
 intro k;induction k with
 | zero=>exact fun i g=>⟨fun _ _ _ _ _=>rfl,fun f h1 h2=>by omega⟩
 | succ k ih =>
  intro i g;have e:ps op s n (k+1) i g=ps op s n k (i+1) (if i / s % (n+1)=0 then op i g else g):=rfl;rw [e];have hg:∀ f m,f ≠ i→f / s % (n+1)=0→m≤n→(if i / s % (n+1)=0 then op i g else g) (f+m*s)=g (f+m*s):=fun f m hf h0 hm=>by
   grind [Z8]
  have hi:i / s % (n+1)=0→L (fun m=>g (i+m*s))=L' (fun m=>(if i / s % (n+1)=0 then op i g else g) (i+m*s)):=fun h=>by
   simp_all
  generalize (if i / s % (n+1)=0 then op i g else g)=g1 at *
  obtain ⟨a,b⟩:=ih (i+1) g1;refine ⟨fun f m hf h0 hm=>by rw [a f m (by omega) h0 hm,hg f m (by omega) h0 hm],fun f h1 h2 h0=>?_⟩;by_cases hq:f=i
  ·subst hq;rw [hi h0];exact cL'.cg fun m hm=>(a f m (by omega) h0 (by omega)).symm
  ·rw [← b f (by omega) (by omega) h0];exact cL.cg fun m hm=>(hg f m hq h0 (by omega)).symm
def dl (a:Nat):G:=fun b=>if b=a then 1 else 0
theorem Jk {a c:Rat} {g h:G}:∀ (ls:List (Nat × LF)),Hm ls→∀ s i:Nat,eR ls s i (fun b=>a*g b+c*h b)=a*eR ls s i g+c*eR ls s i h
 | [],_,_,_=>rfl
 | p::ls,ok,s,i=>by
  show p.2 (fun j=>eR ls _ (i+j*s) _)=a*p.2 _+c*p.2 _;rw [← (ok p (by simp)).lin];refine congrArg p.2 (funext fun j=>?_);exact Jk ls (fun q hq=>ok q (by grind)) _ _
theorem abT {ls:List (Nat × LF)} (ok:Hm ls) {s i a:Nat} {g:G} {y:Rat}:eR ls s i (gs g a y)=eR ls s i g+(y - g a)*eR ls s i (dl a):=by
 have:gs g a y=fun b=>1*g b+(y - g a)*dl a b:=by
  grind [gs,dl]
 rw [this,Jk ls ok];grind
def jO:List Nat→List Rat→List (Nat × LF)
 | d::ds,x::xs=>(d,fun v=>pl x v 0 (d+1))::jO ds xs
 | _,_=>[]
theorem D4:∀ (ds:List Nat) (xs:List Rat),Hm (jO ds xs)
 | d::ds,x::xs=>fun p hp=>by
  rcases List.mem_cons.1 hp with rfl | hp
  ·simp_all [C4]
  ·exact D4 ds xs p hp
 | [],_=>fun _ h=>by grind [jO]
 | _::_,[]=>fun _ h=>by grind [jO]
def C5:List Rat→List Nat→Rat
 | x::xs,e::es=>x ^ e*C5 xs es
 | _,_=>1
def kP:List Nat→List Nat→Nat→Nat
 | d::ds,e::es,s=>e*s+kP ds es (s*(d+1))
 | _,_,_=>0
def Hn:List Nat→List Nat→Prop
 | d::ds,e::es=>e≤d∧Hn ds es
 | [],[]=>True
 | _,_=>False
theorem YM {x y:Rat} {e:Nat}:∀ c i:Nat,(e < i→pl x (fun j=>if j=e then y else 0) i c=0)∧(i≤e→e < i+c→pl x (fun j=>if j=e then y else 0) i c=x ^ (e - i)*y)
 | 0,i=>⟨fun _=>rfl,fun h1 h2=>by omega⟩
 | c+1,i=>by
  obtain ⟨a,b⟩:=YM (x:=x) (y:=y) (e:=e) c (i+1);simp only [pl];constructor
  ·grind
  ·intro h1 h2;by_cases h:i=e
   ·subst h;grind
   ·rw [if_neg h,b (by omega) (by omega),show e - i=e - (i+1)+1 by omega,Rat.pow_succ];grind
theorem YN {s i i0 j e:Nat} (h1:i < s) (h2:i0 < s):i+j*s=i0+e*s↔i=i0∧j=e:=by
 constructor
 ·intro h;have a:(i+j*s) % s=i:=by rw [Nat.add_mul_mod_self_right,Nat.mod_eq_of_lt h1]
  have b:(i0+e*s) % s=i0:=by rw [Nat.add_mul_mod_self_right,Nat.mod_eq_of_lt h2]
  have c:i=i0:=by grind
  subst c;exact ⟨rfl,Nat.eq_of_mul_eq_mul_right (by omega) (Nat.add_left_cancel h)⟩
 grind
theorem xO {s i j d:Nat} (h:i < s) (hj:j≤d):i+j*s < s*(d+1):=by
 have:j*s≤d*s:=Nat.mul_le_mul_right _ hj;grind
theorem Q8:∀ (ds es:List Nat) (xs:List Rat),Hn ds es→xs.length=ds.length→∀ s i i0:Nat,i < s→i0 < s→eR (jO ds xs) s i (dl (i0+kP ds es s))=if i=i0 then C5 xs es else 0
 | [],[],xs,_,hx,s,i,i0,_,_=>by
  have:xs=[]:=List.length_eq_zero_iff.1 hx;subst this;rfl
 | d::ds,e::es,x::xs,h,hx,s,i,i0,h1,h2=>by
  show pl x (fun j=>eR (jO ds xs) (s*(d+1)) (i+j*s) (dl (i0+(e*s+kP ds es (s*(d+1)))))) 0 (d+1)=_;have hc:=(C4 (x:=x) (d:=d+1) (d+1) 0 (by simp)).cg (v:=fun j=>eR (jO ds xs) (s*(d+1)) (i+j*s) (dl (i0+(e*s+kP ds es (s*(d+1)))))) (w:=fun j=>if j=e then (if i=i0 then C5 xs es else 0) else 0) (fun j hj=>by
   rw [← Nat.add_assoc,Q8 ds es xs h.2 (by grind) (s*(d+1)) _ _ (xO h1 (by omega)) (xO h2 h.1)];grind [YN])
  rw [hc,(YM (d+1) 0).2 (by omega) (by have:=h.1; omega)];by_cases ha:i=i0
  ·rw [if_pos ha,if_pos ha]; rfl
  grind
 | [],_::_,_,h,_,_,_,_,_,_=>h.elim
 | _::_,[],_,h,_,_,_,_,_,_=>h.elim
 | _::_,_::_,[],_,hx,_,_,_,_,_=>by grind
theorem VM:∀ (ds es:List Nat) (xs:List Rat),Hn ds es→xs.length=ds.length→∀ s i0:Nat,i0 < s→i0+kP ds es s < sO (jO ds xs) s
 | [],[],xs,_,hx,s,i0,h2=>by
  exact h2
 | d::ds,e::es,x::xs,h,hx,s,i0,h2=>by
  show i0+(e*s+kP ds es (s*(d+1))) < sO (jO ds xs) (s*(d+1));rw [← Nat.add_assoc];exact VM ds es xs h.2 (by grind) _ _ (xO h2 h.1)
 | [],_::_,_,h,_,_,_,_=>h.elim
 | _::_,[],_,h,_,_,_,_=>h.elim
 | _::_,_::_,[],_,hx,_,_,_=>by grind
theorem Q9:∀ (ds es es':List Nat),Hn ds es→Hn ds es'→∀ s i i0:Nat,i < s→i0 < s→i+kP ds es s=i0+kP ds es' s→i=i0∧es=es'
 | [],[],[],_,_,_,_,_,_,_,h=>⟨h,rfl⟩
 | d::ds,e::es,e'::es',h,h',s,i,i0,h1,h2,hq=>by
  have:i+(e*s+kP ds es (s*(d+1)))=i0+(e'*s+kP ds es' (s*(d+1))):=hq;rw [← Nat.add_assoc,← Nat.add_assoc] at this;obtain ⟨a,b⟩:=Q9 ds es es' h.2 h'.2 _ _ _ (xO h1 h.1) (xO h2 h'.1) this;obtain ⟨c,d⟩:=(YN h1 h2).1 a;exact ⟨c,by rw [d,b]⟩
 | [],_::_,_,h,_,_,_,_,_,_,_=>h.elim
 | _::_,[],_,h,_,_,_,_,_,_,_=>h.elim
 | [],[],_::_,_,h,_,_,_,_,_,_=>h.elim
 | _::_,_::_,[],_,h,_,_,_,_,_,_=>h.elim
theorem Jl {y:Rat} (h:0 < y):0 < y⁻¹:=by
 refine Rat.not_le.1 fun hn=>?_;have:=Rat.mul_le_mul_of_nonneg_right hn (Rat.le_of_lt h);grind
theorem Ra {y z:Rat} (h1:0 < y) (h2:y≤z):z⁻¹≤y⁻¹:=by
 have a:=Jl h1;have b:=Jl (show 0 < z by grind);have c:=Rat.mul_le_mul_of_nonneg_right (Rat.mul_le_mul_of_nonneg_right h2 (Rat.le_of_lt a)) (Rat.le_of_lt b);rw [show y*y⁻¹*z⁻¹=z⁻¹ by grind,show z*y⁻¹*z⁻¹=y⁻¹ by grind] at c;omega
theorem VN {y z:Rat} (h:0 < y∧y≤z∨y≤z∧z < 0):z⁻¹≤y⁻¹:=by
 rcases h with ⟨h1,h2⟩ | ⟨h2,h1⟩
 ·grind [Ra]
 ·have:=Ra (y:=-z) (z:=-y) (by grind) (by grind);grind
theorem nV {d:Rd}:(d.neg=true→zI d=-(mg d:Int))∧(d.neg=false→zI d=mg d):=by
 simp_all [zI,if_pos]
theorem abU {a b:Rd} {p:Int} {w:Bool} {N:Nat} (hN:N=16384) (oa:Ok0 a) (ob:Ok0 b) (va:vd a=true) (vb:vd b=true) (hp:8≤p∧p≤512) (a0:a.m.length ≠ 0) (b0:b.m.length ≠ 0)
  (h:(dh (aa a.m*2 ^ p7 a b p / aa b.m) (a.e - p7 a b p - b.e) (decide (aa a.m*2 ^ p7 a b p % aa b.m ≠ 0)) p w).2=0) :
  ∃ n:Nat,zI (dh (aa a.m*2 ^ p7 a b p / aa b.m) (a.e - p7 a b p - b.e) (decide (aa a.m*2 ^ p7 a b p % aa b.m ≠ 0)) p w).1=n∧(w=true→mg a*2 ^ N≤n*mg b)∧(w=false→n*mg b≤mg a*2 ^ N):=by
 obtain ⟨a1,a2,a3,a4⟩:=ey va oa.lb;obtain ⟨b1,b2,b3,b4⟩:=ey vb ob.lb;have hA:=cP va a0;have hB:=cP vb b0;have hk:p7 a b p=(p+3+af (aa b.m) - af (aa a.m)).toNat:=rfl;generalize p7 a b p=k at *
 have hm2:=dH k hA;have hbM:p < (af (aa a.m*2 ^ k / aa b.m):Nat):=by
  have h1:2 ^ (af (aa a.m*2 ^ k) - 1)≤aa a.m*2 ^ k:=Je (by omega);have h2:aa b.m < 2 ^ af (aa b.m):=bv.1 (Nat.le_refl _);have h3:2 ^ p.toNat*aa b.m≤aa a.m*2 ^ k:=by
   refine Nat.le_trans (Nat.mul_le_mul_left _ (Nat.le_of_lt h2)) (Nat.le_trans ?_ h1);rw [← Nat.pow_add];exact Nat.pow_le_pow_right (by decide) (by omega)
  have h4:2 ^ p.toNat≤aa a.m*2 ^ k / aa b.m:=(Nat.le_div_iff_mul_le (Nat.pos_of_ne_zero hB)).2 h3;have h5:=jU.2 h4;omega
 have hdm:=Nat.div_add_mod (aa a.m*2 ^ k) (aa b.m);have hml:=Nat.mod_lt (aa a.m*2 ^ k) (Nat.pos_of_ne_zero hB);generalize aa a.m*2 ^ k / aa b.m=M at *
 generalize hR:aa a.m*2 ^ k % aa b.m=R at *
 obtain ⟨n,n1,n2,n3⟩:=FV (s:=(a.e+16384).toNat+N) (t:=k+(b.e+16384).toNat) (fun h0=>by grind [oM]) hp (by omega) (fun _=>hbM) h;refine ⟨n,n1,fun hw=>?_,fun hw=>?_⟩
 ·have g:=n2 hw;have h1:aa a.m*2 ^ k≤(M+(decide (R ≠ 0)).toNat)*aa b.m:=by
   rw [← hdm,Nat.add_mul,Nat.mul_comm M];by_cases h0:R=0
   all_goals grind
  refine Nat.le_of_mul_le_mul_right ?_ (Nat.two_pow_pos k);have h2:=Nat.mul_le_mul_right (2 ^ ((a.e+16384).toNat+N)) h1;have h3:=Nat.mul_le_mul_right (aa b.m) g;unfold mg;grind
 ·have g:=n3 hw;have h1:M*aa b.m≤aa a.m*2 ^ k:=by
   grind
  refine Nat.le_of_mul_le_mul_right ?_ (Nat.two_pow_pos k);have h2:=Nat.mul_le_mul_right (2 ^ ((a.e+16384).toNat+N)) h1;have h3:=Nat.mul_le_mul_right (aa b.m) g;unfold mg;grind
theorem Kz {A B n:Nat} (k:Nat) (hB:0 < B):(A*2 ^ k≤n*B→(A:Rat)*(B:Rat)⁻¹≤n*eQ k)∧(n*B≤A*2 ^ k→(n:Rat)*eQ k≤(A:Rat)*(B:Rat)⁻¹):=by
 have hb:(0:Rat) < B:=by exact_mod_cast hB
 have hi:=Jl hb;have hk:=N2 k;have hm:=C1 k;have e1:((A*2 ^ k:Nat):Rat)=A*pQ k:=by
  simp_all [pQ,Rat.natCast_mul,Rat.natCast_pow,Rat.intCast_pow]
 have e2:((n*B:Nat):Rat)=n*B:=Rat.natCast_mul _ _;have r1:(A:Rat)*(B:Rat)⁻¹=A*pQ k*(eQ k*(B:Rat)⁻¹):=by grind
 have r2:(n:Rat)*eQ k=n*B*(eQ k*(B:Rat)⁻¹):=by grind
 have hc:0≤eQ k*(B:Rat)⁻¹:=Rat.mul_nonneg (Rat.le_of_lt hk) (Rat.le_of_lt hi);rw [r1,r2,← e1,← e2];exact ⟨fun h=>Rat.mul_le_mul_of_nonneg_right (by exact_mod_cast h) hc,fun h=>Rat.mul_le_mul_of_nonneg_right (by exact_mod_cast h) hc⟩
theorem VO {a b:Rd} {p:Int} {up:Bool} (va:vd a=true∧Ok0 a) (vb:vd b=true∧Ok0 b) (hb:qv b ≠ 0) (hp:di p=true) (h:(kK a b p up).2=0):(up=true→qv a*(qv b)⁻¹≤qv (kK a b p up).1)∧(up=false→qv (kK a b p up).1≤qv a*(qv b)⁻¹):=by
 unfold kK at h ⊢;rw [if_pos (Hh va.1 vb.1 hp)] at h ⊢;have b0:b.m.length ≠ 0:=fun h0=>hb (by grind);rw [if_neg b0] at h ⊢;by_cases a0:a.m.length=0
 ·rw [if_pos a0,C2]
  simp_all [qv,ez]
 rw [if_neg a0] at h ⊢;obtain ⟨N,hN⟩:∃ N:Nat,N=16384:=⟨_,rfl⟩;have hcut:=fun w hw=>abU (w:=w) hN va.2 vb.2 va.1 vb.1 (Ai hp) a0 b0 hw;have hmb:=Aa vb.1 b0;have hE:=Af;generalize hc:dh (aa a.m*2 ^ p7 a b p / aa b.m) (a.e - p7 a b p - b.e) (decide (aa a.m*2 ^ p7 a b p % aa b.m ≠ 0)) p=c at *
 have hvc:∀ w,vd (c w).1=true:=fun w=>by rw [← hc]; exact QT
 have hq:qv a*(qv b)⁻¹=if (a.neg != b.neg)=true then -((mg a:Rat)*(mg b:Rat)⁻¹) else (mg a:Rat)*(mg b:Rat)⁻¹:=by
  unfold qv;have i1:((-(mg a:Int):Int):Rat)=-(mg a:Rat):=by rfl
  have i2:((-(mg b:Int):Int):Rat)=-(mg b:Rat):=by rfl
  have i3:((mg a:Int):Rat)=(mg a:Rat):=rfl;have i4:((mg b:Int):Rat)=(mg b:Rat):=rfl;cases ha:a.neg <;> cases hb:b.neg
  ·rw [nV.2 ha,nV.2 hb,i3,i4,if_neg (by decide)]; grind
  ·rw [nV.2 ha,nV.1 hb,i3,i2,if_pos (by decide)]; grind
  ·rw [nV.1 ha,nV.2 hb,i1,i4,if_pos (by decide)]; grind
  ·rw [nV.1 ha,nV.1 hb,i1,i2,if_neg (by decide)]; grind
 rw [hq];generalize (a.neg != b.neg)=sg at *
 unfold iC at h ⊢;cases sg with
 | true =>
  have h2:(c (up != true)).2=0:=by
   grind
  rw [if_pos (show (c (up != true)).2=0∧true=true from ⟨h2,rfl⟩),if_pos (show true=true from rfl)];obtain ⟨n,n1,n2,n3⟩:=hcut _ h2;rw [(Ah (hvc _)).1];have e:qv (c (up != true)).1=(n:Rat)*eQ N:=by unfold qv; rw [n1,hN]; rfl
  grind [Kz,mg]
 | false =>
  have hn:¬((c (up != false)).2=0∧false=true):=fun h1=>Bool.false_ne_true h1.2;rw [if_neg hn] at h;obtain ⟨n,n1,n2,n3⟩:=hcut _ h;have e:qv (c (up != false)).1=(n:Rat)*eQ N:=by unfold qv; rw [n1,hN]; rfl
  grind [Kz,mg]
theorem Be {d:Rd} (h:vd d=true):(0 < bY d↔0 < qv d)∧(bY d < 0↔qv d < 0):=by
 have hE:=Af;unfold bY;by_cases h0:d.m.length=0
 ·simp_all [qv,ez,if_pos]
 ·have hm:=Aa h h0;have hq:(0:Rat) < (mg d:Rat)*EQ:=Rat.mul_pos (by exact_mod_cast hm) hE;cases hn:d.neg with
  | true =>
   have:qv d=-((mg d:Rat)*EQ):=by unfold qv; rw [nV.1 hn,Rat.intCast_neg,Rat.intCast_natCast]; grind
   grind
  | false =>
   have:qv d=(mg d:Rat)*EQ:=by unfold qv; rw [nV.2 hn]; rfl
   grind
theorem Rb {x y:Ri} {a b:Rat} {p:Int} (hx:In a x) (hy:In b y):In (a / b) (Ji x y p):=by
 unfold Ji;split
 ·next h =>
  simp only [Bool.and_eq_true] at h;obtain ⟨⟨kx,ky⟩,hp⟩:=h;rcases hx.k with ⟨rfl,h⟩ | ⟨_,x1,x2⟩
  ·grind
  rcases hy.k with ⟨rfl,h⟩ | ⟨_,y1,y2⟩
  ·grind
  split
  ·exact Or.inl rfl
  ·next hs =>
   have hpr:∀ i,((ku x y i).1=x.lo∨(ku x y i).1=x.hi)∧((ku x y i).2=y.lo∨(ku x y i).2=y.hi):=fun i=>by
    unfold ku;grind
   have hsg:0 < qv y.lo∨qv y.hi < 0:=by
    unfold EZ at hs;by_cases g1:0 < bY y.lo
    ·exact Or.inl ((Be hy.vi.1.1).1.1 g1)
    ·by_cases g2:bY y.hi < 0
     ·exact Or.inr ((Be hy.vi.2.1).2.1 g2)
     omega
   have hv:∀ i,(vd (ku x y i).1=true∧Ok0 (ku x y i).1)∧(vd (ku x y i).2=true∧Ok0 (ku x y i).2)∧qv (ku x y i).2 ≠ 0:=fun i=>by
    obtain ⟨h1,h2⟩:=hpr i;refine ⟨?_,?_,?_⟩
    ·rcases h1 with h1 | h1 <;> rw [h1]
     ·exact hx.vi.1
     ·exact hx.vi.2
    ·rcases h2 with h1 | h1 <;> rw [h1]
     ·exact hy.vi.1
     ·exact hy.vi.2
    grind
   refine Q4 (dn:=fun a b=>kK a b p false) (up:=fun a b=>kK a b p true) (v:=fun i=>qv (ku x y i).1*(qv (ku x y i).2)⁻¹) (fun _ _=>DW) (fun _ _=>DW) (fun i _ h=>(VO (hv i).1 (hv i).2.1 (hv i).2.2 hp h).2 rfl) (fun i _ h=>(VO (hv i).1 (hv i).2.1 (hv i).2.2 hp h).1 rfl) fun lo hi h=>?_;have i1:(qv y.hi)⁻¹≤b⁻¹:=VN (by grind);have i2:b⁻¹≤(qv y.lo)⁻¹:=VN (by grind);exact Q5 x1 x2 i1 i2 (h 1 (by decide)) (h 0 (by decide)) (h 3 (by decide)) (h 2 (by decide))
 ·exact Or.inl rfl
theorem VP {z p:Int} {j:Nat} {up:Bool} (hp:8≤p∧p≤512) (hz:0≤z) (h:(kN z (-16384 - (j:Int)) p up).2=0):0≤zI (kN z (-16384 - (j:Int)) p up).1:=by
 unfold kN at h ⊢;by_cases h0:z=0
 ·rw [if_pos h0,ez rfl];omega
 ·rw [if_neg h0,decide_eq_false (by omega)] at h ⊢;unfold iC at h ⊢;rw [if_neg (fun h1=>Bool.false_ne_true h1.2)] at h ⊢;obtain ⟨n,g1,_⟩:=FV (s:=0) (t:=j) (by omega) hp (by omega) (fun h=>absurd h Bool.false_ne_true) h;omega
theorem Tu {d:Rd}:0≤qv d↔0≤zI d:=by
 rw [← C2,DY,ez rfl]
theorem abV {d:Rd} {p:Int} {up:Bool} (v:vd d=true) (hp:di p=true) (h:(iY d p up).2=0):(0≤qv d→0≤qv (iY d p up).1)∧(up=true→qv d≤qv (iY d p up).1)∧(up=false→qv (iY d p up).1≤qv d):=by
 refine ⟨fun hd=>?_,?_,?_⟩
 ·rw [Tu] at hd ⊢;have hp2:=Ai hp;have hf:bp p [d]=0:=by grind [bp]
  unfold iY at h ⊢;rw [if_pos hf] at h ⊢;exact VP (j:=0) hp2 hd h
 ·rintro rfl
  exact DY.2 (ZW v hp h)
 ·rintro rfl
  exact DY.2 (ZV v hp h)
theorem Z9 {a b:Rd} {p:Int} {up:Bool} (ha:vd a=true) (hb:vd b=true) (hp:di p=true) (h1:0≤qv a) (h2:0≤qv b) (h:(fl a b p up).2=0):0≤qv (fl a b p up).1:=by
 rw [Tu] at *
 unfold fl at h ⊢;rw [if_pos (Hh ha hb hp)] at h ⊢;exact VP (j:=16384) (Ai hp) (Int.mul_nonneg h1 h2) h
theorem N5 {d:Rd} {p:Int} {up:Bool}:vd (iY d p up).1=true∧Ok0 (iY d p up).1:=by
 grind [iY,sz,bm]
theorem VQ {a b:Rd} {p:Int} {up:Bool}:vd (fl a b p up).1=true∧Ok0 (fl a b p up).1:=by
 grind [fl,sz,bm]
theorem Tv {d:Rd} {p:Int} {up:Bool}:∀ (k:Nat) (r:Rd × Int),(vd r.1=true∧Ok0 r.1)→vd (iP d p up k r).1=true∧Ok0 (iP d p up k r).1
 | 0,_,h=>h
 | k+1,r,h=>by
  unfold iP;split
  ·exact Tv k _ VQ
  ·exact h
theorem YO {d:Rd} {p:Int} {up:Bool} (v:vd d=true) (hp:di p=true) (h0:0≤qv d):∀ (k m:Nat) (r:Rd × Int),vd r.1=true→(r.2=0→0≤qv r.1∧(up=true→qv d ^ m≤qv r.1)∧(up=false→qv r.1≤qv d ^ m))→(iP d p up k r).2=0 →
  (up=true→qv d ^ (m+k)≤qv (iP d p up k r).1)∧(up=false→qv (iP d p up k r).1≤qv d ^ (m+k))
 | 0,m,r,_,h,he=>(h he).2
 | k+1,m,r,vr,h,he=>by
  unfold iP at he ⊢;by_cases hr:r.2=0
  ·rw [if_pos hr] at he ⊢;obtain ⟨a,b,c⟩:=h hr;rw [show m+(k+1)=m+1+k by omega];refine YO v hp h0 k (m+1) _ VQ.1 (fun hm=>⟨Z9 vr v hp a h0 hm,fun hu=>?_,fun hu=>?_⟩) he
   ·have h1:=(Hk vr v hp hm).1 hu;have h2:=Rat.mul_le_mul_of_nonneg_right (b hu) h0;grind [Rat.pow_succ,Rat.le_trans]
   grind [Hk,Rat.mul_le_mul_of_nonneg_right,Rat.pow_succ,Rat.le_trans]
  grind
theorem abW {d:Rd} {p:Int} {up:Bool} {n:Nat} (v:vd d=true) (hp:di p=true) (h0:0≤qv d) (hn:1≤n) (he:(pw d n p up).2=0):(up=true→qv d ^ n≤qv (pw d n p up).1)∧(up=false→qv (pw d n p up).1≤qv d ^ n):=by
 have:=YO v hp h0 (n - 1) 1 (iY d p up) N5.1 (fun h=>by
  grind [abV,qv]) he
 rw [show 1+(n - 1)=n by omega] at this;exact this
theorem qt {x:Rat}:∀ n:Nat,(-x) ^ (2*n+1)=-(x ^ (2*n+1))
 | 0=>by grind
 | n+1=>by
  have:=qt (x:=x) n;grind
theorem C6 {x:Rat}:∀ n:Nat,(-x) ^ (2*n)=x ^ (2*n)
 | 0=>by grind
 | n+1=>by
  have:=C6 (x:=x) n;grind
theorem Ho {x:Rat} (h:0≤x):∀ n:Nat,0≤x ^ n
 | 0=>by grind
 | n+1=>by rw [Rat.pow_succ]; exact Rat.mul_nonneg (Ho h n) h
theorem C7 {x y:Rat} (h:0≤x) (h1:x≤y):∀ n:Nat,x ^ n≤y ^ n
 | 0=>by grind
 | n+1=>by
  rw [Rat.pow_succ,Rat.pow_succ];have a:=Rat.mul_le_mul_of_nonneg_right (C7 h h1 n) h;have b:=Rat.mul_le_mul_of_nonneg_left h1 (Ho (Rat.le_trans h h1) n);exact Rat.le_trans a b
theorem Tw {x y:Rat} (h1:x≤y) (n:Nat):x ^ (2*n+1)≤y ^ (2*n+1):=by
 by_cases hx:0≤x
 ·grind [C7]
 ·by_cases hy:0≤y
  ·have a:=Ho (show 0≤-x by grind) (2*n+1);grind [Ho,qt]
  ·have:=C7 (x:=-y) (y:=-x) (by grind) (by grind) (2*n+1);grind [qt]
theorem abX {d:Rd} (v:vd d=true):sS d < 0↔qv d < 0:=by
 rw [← (Be v).2];grind [sS,bY]
theorem Hp {d:Rd} {p:Int} {up:Bool} {n:Nat} (v:vd d=true) (hp:di p=true) (hn:1≤n) (ho:n % 2=1∨0≤qv d) (he:(oQ d n p up).2=0):(up=true→qv d ^ n≤qv (oQ d n p up).1)∧(up=false→qv (oQ d n p up).1≤qv d ^ n):=by
 unfold oQ at he ⊢;by_cases hs:sS d < 0
 ·rw [if_pos hs] at he ⊢;have hq:=(abX v).1 hs;obtain ⟨n1,n2⟩:=Ah v;have hodd:n=2*(n / 2)+1:=by
   grind
  have hw:=abW n2 hp (by grind) hn he;grind [vd,pw,dw,Tv,N5,qv,Ah,qt]
 ·rw [if_neg hs] at he ⊢;exact abW v hp (Rat.not_lt.1 fun h=>hs ((abX v).2 h)) hn he
theorem VR {d:Rd} (v:vd d=true) (ok:Ok0 d):(vd (lL d)=true∧Ok0 (lL d))∧0≤qv (lL d)∧(qv (lL d)=qv d∨qv (lL d)=-qv d):=by
 unfold lL;by_cases h0:d.m.length=0
 ·rw [if_pos (Or.inr h0),C2]
  simp_all [qv,ez,bm,Rat.le_refl]
 ·rw [if_neg (by grind)];have hm:mg ⟨false,d.m,d.e⟩=mg d:=rfl;have h1:zI ⟨false,d.m,d.e⟩=mg d:=by rw [nV.2 rfl,hm]
  refine ⟨⟨?_,ok.1,ok.2⟩,?_,?_⟩
  ·simp_all [vd,if_neg]
  ·grind [Tu]
  ·unfold qv;rw [h1];cases hn:d.neg with
   | true =>
    rw [nV.1 hn,Rat.intCast_neg];grind
   | false =>
    left;rw [nV.2 hn]
theorem aaa {x:Ri} {a b:Rat} (hx:In a x) (hb:0≤b) (hab:b=a∨b=-a):In b (vC x)∧(kI x=true→0≤qv (vC x).lo∧(vC x).all=false):=by
 unfold vC;by_cases h:kI x=true
 ·rw [if_pos h];rcases hx.k with ⟨rfl,h1⟩ | ⟨_,x1,x2⟩
  ·grind
  obtain ⟨l1,l2,l3⟩:=VR hx.vi.1.1 hx.vi.1.2;obtain ⟨h1,h2,h3⟩:=VR hx.vi.2.1 hx.vi.2.2;obtain ⟨m1,m2,m3,m4,m5⟩:=D3 l1 h1;obtain ⟨n1,n2,n3,n4,n5⟩:=D0 l1 h1;have hmag:b≤qv (I2 x):=by
   grind [I2]
  have hmig:(vd (xJ x)=true∧Ok0 (xJ x))∧0≤qv (xJ x)∧qv (xJ x)≤b:=by
   unfold xJ;split
   ·grind [C2,bm,Rat.le_refl]
   ·next hs =>
    have hsg:0 < qv x.lo∨qv x.hi < 0:=by
     unfold EZ at hs;by_cases g1:0 < bY x.lo
     ·exact Or.inl ((Be hx.vi.1.1).1.1 g1)
     ·by_cases g2:bY x.hi < 0
      ·exact Or.inr ((Be hx.vi.2.1).2.1 g2)
      omega
    grind
  exact ⟨Or.inr ⟨rfl,⟨hmig.1,⟨m3,m4⟩⟩,hmig.2.2,hmag⟩,fun _=>⟨hmig.2.1,rfl⟩⟩
 ·rw [if_neg h];exact ⟨Or.inl rfl,fun hk=>absurd hk h⟩
theorem N6:qv one=1:=by
 obtain ⟨N,hN⟩:∃ N:Nat,N=16384:=⟨_,rfl⟩;have hm:mg one=2 ^ N:=by
  unfold mg;rw [show (one.e+16384).toNat=N by rw [hN]; rfl];exact Nat.one_mul _
 unfold qv EQ;rw [nV.2 rfl,hm,← hN,show (((2 ^ N:Nat):Int):Rat)=pQ N by grind [pQ,Int.natCast_pow]];grind [C1]
theorem Hq {d:Rd} {p:Int} {up:Bool} {n:Nat}:vd (oQ d n p up).1=true∧Ok0 (oQ d n p up).1:=by
 grind [oQ,vd,pw,Tv,N5,Ah,ri]
theorem Jm {x:Ri} {a:Rat} {n:Nat} {p:Int} (hx:In a x):In (a ^ n) (vD x n p):=by
 unfold vD;split
 ·next h =>
  simp only [Bool.and_eq_true] at h;obtain ⟨⟨kx,hp⟩,_⟩:=h;split
  ·next h0 =>
   subst h0;rw [Rat.pow_zero,← N6];exact sE kv.1 kv.2
  ·next h0 =>
   by_cases he:n % 2=0
   ·rw [if_pos he];obtain ⟨b,hb,hab⟩:∃ b:Rat,0≤b∧(b=a∨b=-a):=by
     grind
    obtain ⟨h1,h2⟩:=aaa hx hb hab;obtain ⟨g1,g2⟩:=h2 kx;have hpw:a ^ n=b ^ n:=by
     rcases hab with rfl | rfl
     ·rfl
     ·rw [show n=2*(n / 2) by omega,C6]
    rw [hpw];rcases h1 with hW | ⟨_,hv,y1,y2⟩
    ·rw [hW] at g2;exact absurd g2 (by decide)
    refine LH Hq Hq (fun h=>?_) (fun h=>?_)
    ·exact Rat.le_trans ((Hp hv.1.1 hp (by omega) (Or.inr g1) h).2 rfl) (C7 g1 y1 n)
    ·exact Rat.le_trans (C7 (Rat.le_trans g1 y1) y2 n) ((Hp hv.2.1 hp (by omega) (Or.inr (Rat.le_trans g1 (Rat.le_trans y1 y2))) h).1 rfl)
   ·rw [if_neg he];rcases hx.k with ⟨rfl,h1⟩ | ⟨_,x1,x2⟩
    ·grind
    have ho:n=2*(n / 2)+1:=by omega
    have le:∀ {x y:Rat},x≤y→x ^ n≤y ^ n:=fun h=>by
     grind [Tw]
    refine LH Hq Hq (fun h=>?_) (fun h=>?_)
    ·exact Rat.le_trans ((Hp hx.vi.1.1 hp (by omega) (Or.inl (by omega)) h).2 rfl) (le x1)
    ·exact Rat.le_trans (le x2) ((Hp hx.vi.2.1 hp (by omega) (Or.inl (by omega)) h).1 rfl)
 ·exact Or.inl rfl
theorem Rc {x:Rat} {m:Nat}:∀ n:Nat,x ^ m*x ^ n=x ^ (m+n)
 | 0=>by grind
 | n+1=>by rw [Rat.pow_succ,← Rat.mul_assoc,Rc n,← Nat.add_assoc,Rat.pow_succ]
theorem aab {x:Ri} {a:Rat} {n:Nat} {p:Int} (hx:In a x):In (a ^ n) (A4 x n p):=by
 unfold A4;split
 ·exact Jm hx
 ·have:=wz (p:=p) (Jm (n:=16) (p:=p) hx) (Jm (n:=n - 16) (p:=p) hx);grind [Rc]
def VS:List Rat→List Ri→Prop
 | x::xs,d::ds=>In x d∧VS xs ds
 | [],[]=>True
 | _,_=>False
def yC (es:List Int):List Nat:=es.map Int.toNat
def fv (xs:List Rat):List Rt→Rat
 | []=>0
 | t::l=>qv t.c*C5 xs (yC t.exps)+fv xs l
theorem VU {p:Int}:∀ (xs:List Rat) (ds:List Ri) (es:List Int) (x:Ri) (q:Rat),VS xs ds→ds.length=es.length→In q x→In (q*C5 xs (yC es)) (Hc p ds es x)
 | [],[],[],x,q,_,_,h=>by
  show In (q*1) x;grind
 | y::xs,d::ds,e::es,x,q,hl,hd,h=>by
  show In (q*(y ^ e.toNat*C5 xs (yC es))) (Hc p ds es (if 0 < e then nv x (A4 d e.toNat p) p else x));rw [← Rat.mul_assoc];refine VU xs ds es _ _ hl.2 (by grind) ?_;split
  ·exact wz h (aab hl.1)
  ·rw [show e.toNat=0 by omega,Rat.pow_zero,Rat.mul_one];omega
 | [],_::_,_,_,_,hl,_,_=>hl.elim
 | _::_,[],_,_,_,hl,_,_=>hl.elim
 | _::_,_::_,[],_,_,_,hd,_=>by grind
 | [],[],_::_,_,_,_,hd,_=>by grind
theorem VV {p:Int} {xs:List Rat} {dom:List Ri} (hl:VS xs dom):∀ (l:List Rt) (s:Ri) (q:Rat),(∀ t ∈ l,vd t.c=true∧Ok0 t.c∧dom.length=t.exps.length)→In q s→In (q+fv xs l) (NE p dom l s)
 | [],s,q,_,h=>by
  show In (q+0) s;grind
 | t::l,s,q,ht,h=>by
  obtain ⟨a,b,c⟩:=ht t (by simp);show In (q+(qv t.c*C5 xs (yC t.exps)+fv xs l)) _;rw [← Rat.add_assoc];exact VV hl l _ _ (fun u hu=>ht u (by simp [hu])) (DZ h (VU xs dom _ _ _ hl c (sE a b)))
theorem VW {a:Rp} {dom:List Ri} {xs:List Rat} {p:Int} (oa:OkP a) (hl:VS xs dom):In (fv xs a.terms) (jD a dom p):=by
 unfold jD;split
 ·next h =>
  unfold kJ at h;simp only [Bool.and_eq_true,decide_eq_true_eq] at h;obtain ⟨⟨hv,hd,_⟩,_⟩:=h;unfold vp at hv;simp only [Bool.and_eq_true,decide_eq_true_eq] at hv;have:=VV (p:=p) hl a.terms ⟨aP,aP,false⟩ 0 (fun t ht=>by
   have h1:=uM (I8 _ _ hv.2.2.2 t ht);exact ⟨h1.2.1,(oa.t t ht).c,by omega⟩) (by rw [← C2]; exact sE bm.1 bm.2)
  grind
 ·exact Or.inl rfl
theorem KA {a b:List Int} (h:dx a b < 0):b ≠ a:=by
 grind [Vy]
def p0:Rp:=⟨0,[]⟩
def abY (v:Int):Option (List Rt)→Rp × Int
 | none=>(p0,9)
 | some l=>if 500 < l.length then (p0,5) else (⟨v,l⟩,0)
def aia (a b:List Int):List Int:=List.zipWith (·+·) a b
structure Pv (v:Int) (a:Rp):Prop where
 v:a.vars=v
 p:vp a=true
 o:OkP a
theorem Pv.cl {v:Int} {a:Rp} (h:Pv v a):Cl v a.terms:=by
 have:=(To h.o h.p).1;rw [h.v] at this;omega
theorem N7 {a:AV} (h:aB a=true):fT a=[]:=by cases a <;> simp [aB] at h <;> rfl
theorem Re {a:AV} (h:aB a=true) (l:List Nat):bg l a=true:=by cases a <;> simp [aB] at h <;> simp [bg,h]
theorem N8 {a:AV} (h:aB a=true) (g:Nat→Nat):kB g a=a:=by cases a <;> simp [aB] at h <;> rfl
theorem Bg {α β:Type} {f:α→List β}:∀ {l:List α},(∀ x ∈ l,f x=[])→l.flatMap f=[]
 | [],_=>rfl
 | x::l,h=>by
  simp_all
theorem Rf {a:AV} (h:dat a=true):bT a=[]:=by
 cases a <;> simp only [dat] at h <;> first | exact N7 h | skip
 ·exact Bg fun x hx=>N7 (List.all_eq_true.1 h x hx)
 ·simp [aB] at h;obtain ⟨rfl,rfl⟩:=h;rfl
theorem VX {a:AV} (h:dat a=true) (l:List Nat):aV l a=true:=by
 cases a <;> simp only [dat] at h <;> first | exact Re h l | skip
 all_goals grind [aV,List.all_eq_true,Re,aB]
theorem Rg {a:AV} (h:dat a=true) (g:Nat→Nat):dM g a=a:=by
 cases a <;> simp only [dat] at h <;> first | exact N8 h g | skip
 ·rename_i cs;show AV.agg (cs.map (kB g))=_;rw [(List.map_congr_left (g:=fun c=>c) fun x hx=>N8 (List.all_eq_true.1 h x hx) g).trans (List.map_id' cs)]
 ·simp [aB] at h;obtain ⟨rfl,rfl⟩:=h;rfl
theorem abZ {a:AV} (h:dat a=true) (hp:ac):cR hp 0 a=some (a,hp,[]):=by
 by_cases hagg:∃ cs,a=.agg cs
 ·grind [dat,cR,sI,i7]
 ·have h2:aB a=true:=by cases a <;> first | exact h | exact absurd ⟨_,rfl⟩ hagg
  cases a <;> first | (simp [aB] at h2; done) | rfl | skip
theorem D5 (hp:ac):∀ {l:List AV},l.all dat=true→bZ hp [] l=some (l,hp,[])
 | [],_=>rfl
 | a::l,h=>by
  simp only [List.all_cons,Bool.and_eq_true] at h;simp only [bZ,List.headD_nil,abZ h.1,Option.bind_some,List.tail_nil,D5 hp h.2,List.append_nil]
structure OC (o:Ob):Prop where
 cl:∀ l,aM l o=true
 ids:lj o=[]
 ren:∀ g,cZ g o=o
 nd:cM o=false
structure RT (r:AV):Prop where
 ren:∀ g,H8 g r=r
 mat:∀ n h,mat n h r=(r,h)
 ok:∀ l,jH l r=true
theorem tO:∀ l:List AV,ru [] l=[]
 | []=>rfl
 | a::l=>by
  show (if (0:Nat)=2 then _ else [])++ru [] l=[];rw [tO l];rfl
theorem N9 {f:FuncId} {h:ac} {d id:Nat} {zas as':List AV} {o o':Ob} {res:AV} (hm:(aG false).m f=[]) (hk:(aG false).keep f=false) (hn:br ((aG false).sh f) (.ref id none 0 0 0::zas)=.ref id none 0 0 0::as') (hd:zas.all dat=true) (hd':as'.all dat=true)
  (hh:h id=o) (ho:OC o) (ho':OC o') (hb:bf o=true→bf o'=true) (hR:R f (.ref 1000 none 0 0 0::as') [o]=some (res,[o'])) (hr:RT res) (h8:cG res≤8) (hfr:dp h (2000+8*d) (cG res)=true) :
  bE R (aG false) h d (.ref id none 0 0 0::zas) (.fn f [] [])=some (res,upd h id o',[(id,true)]):=by
 have h1:bZ h [] (.ref id none 0 0 0::zas)=some (.ref id none 0 0 0::zas,h,[]):=by
  simp only [bZ,cR,Option.bind_some,List.tail_nil,D5 h hd,List.append_nil]
 have hp:bJ [] ((AV.ref id none 0 0 0::zas).flatMap bT)=[id]:=by
  rw [List.flatMap_cons,Bg fun x hx=>Rf (List.all_eq_true.1 hd x hx)];rfl
 have hre:cf h 40 [id] 0=[id]:=by
  simp [cf,hh,ho.ids,bJ]
 have h3:bo [id] id=1000:=by simp [bo]
 have hall:(AV.ref id none 0 0 0::as').all (aV [id])=true:=by
  grind [aV,bg,VX]
 have hmap:(AV.ref id none 0 0 0::as').map (dM (bo [id]))=.ref 1000 none 0 0 0::as':=by
  rw [List.map_cons,(List.map_congr_left (g:=fun c=>c) fun x hx=>Rg (List.all_eq_true.1 hd' x hx) _).trans (List.map_id' as')];grind [dM,kB]
 have hob:([id].map fun a=>cZ (bo [id]) (h a))=[o]:=by simp [hh,ho.ren]
 have hids:([id].all fun a=>aM [id] (h a) && !cM (h a))=true:=by simp [hh,ho.cl,ho.nd]
 unfold bE;rw [if_neg (by grind [pL])];simp only [dU,hm,List.nil_append,List.append_nil,h1,Option.bind_some,hp,hre,hn];unfold kR;rw [hall,hids,hmap,hob,hR,Bool.and_self,if_pos rfl,Option.bind_some,hk,hm,tO];unfold fF;have hbf:dz h [] [id] [o']=true:=by
  have:=ho'.nd;grind [bf,dz]
 have hend:vQ h [id] [] (res,[o'])=true:=by
  simp [vQ,H9,hr.ok,ho'.cl]
 rw [if_pos ⟨rfl,by simp,h8,hfr,hbf,hend⟩];simp [dS,gA,hr.mat,hr.ren,ho'.ren]
theorem oT {f:FuncId} {h:ac} {d id:Nat} {zas:List AV} {r:Option R3} (hm:(aG false).m f=[]) (hd:zas.all dat=true) (hc:bE R (aG false) h d (.ref id none 0 0 0::zas) (.fn f [] [])=r):AE R (aG false) d f (.ref id none 0 0 0::zas,h,[])=r:=by
 have h1:bZ h [] (.ref id none 0 0 0::zas)=some (.ref id none 0 0 0::zas,h,[]):=by
  simp only [bZ,cR,Option.bind_some,List.tail_nil,D5 h hd,List.append_nil]
 rw [AF d hm,h1] at hc;exact hc
theorem ab0:RT (.tup []):=⟨fun _=>rfl,fun _ _=>rfl,fun _=>rfl⟩
theorem Tx {h:ac} {o:Ob} {rs:List (List Sh)} {vs us:List AV} {r:AV} (h0:((vs.flatMap bT).filter fun i=>!aR i)=[]) (h1:h 1000=o) (ho:aM [1000] o=true) (h2:rA h vs=some us) (h3:vS (br rs us)=r):uS rs 1 h vs=some (r,[o]):=by
 have hp:cp 1=[1000]:=rfl;unfold uS;rw [h0,hp,h2,if_pos (by grind [jl])];grind
structure ColE (v:Int) (l ts:List Rt) (e:Int) (c':AV) (l':List Rt) (e':Int):Prop where
 c:YK c' l'
 r:(e'=0∧e=0∧Bb l ts=some l')∨(e'=9∧(e=0→Bb l ts=none))
theorem ColE.fin {v:Int} {ts:List Rt} {c':AV} {l':List Rt} {e':Int} (h:ColE v [] ts 0 c' l' e'):(if e'=0 then abY v (some l') else (p0,e'))=abY v (Bb [] ts):=by
 rcases h.r with ⟨h1,_,h2⟩ | ⟨h1,h2⟩
 ·rw [if_pos h1,h2]
 ·rw [h1,if_neg (by decide),h2 rfl];rfl
def t2 (v:Int) (c:AV):Ob:=.bx [I v,c]
theorem lmB (m:List Nat):(az m).map (fun r=>match r with | [.v (.int _ x)]=>x.toNat | _=>0)=m:=by
 grind [az,List.map_map,List.map_congr_left,List.map_id']
def plC (a:Rp):List AV:=[I a.vars,.sl 4 (df a.terms)]
def VY (l:List Rp):List (List AV):=l.map plC
@[go_sem] theorem ald (l:List Rp):(VY l).length=l.length:=by simp [VY]
@[go_sem] theorem aib (l:List Rt):(df l).map (cX [.o 2 [],.o 0 [],.o 0 [],.o 0 []])=df l:=by
 refine uK fun x hx=>?_;simp only [df,List.mem_map] at hx;obtain ⟨t,ht,rfl⟩:=hx;simp only [en,go_sem]
@[go_sem] theorem ale (l:List Rp):(VY l).map (cX [.o 0 [],.o 5 [.o 2 [],.o 0 [],.o 0 [],.o 0 []]])=VY l:=by
 refine uK fun x hx=>?_;simp only [VY,List.mem_map] at hx;obtain ⟨t,ht,rfl⟩:=hx;simp only [plC,go_sem]
structure Res (r:Rp × Int):Prop where
 cl:Cl r.1.vars r.1.terms
 len:r.1.terms.length≤100000
 z:r.2=0∨r.1=p0
def cur (a b:List Int) (i:Nat):List Int:=(aia a b).take i++a.drop i
theorem ColE.app {v:Int} {l r r2:List Rt} {e:Int} {c1:AV} {l1:List Rt} {e1:Int} {c':AV} {l':List Rt} {e':Int} (h1:ColE v l r e c1 l1 e1) (h2:ColE v l1 r2 e1 c' l' e'):ColE v l (r++r2) e c' l' e':=by
 refine ⟨h2.c,?_⟩;rw [NZ];rcases h1.r with ⟨a1,a2,a3⟩ | ⟨a1,a2⟩
 ·rw [a3];rcases h2.r with ⟨b1,b2,b3⟩ | ⟨b1,b2⟩
  ·exact .inl ⟨b1,a2,b3⟩
  ·exact .inr ⟨b1,fun _=>b2 a1⟩
 ·rcases h2.r with ⟨b1,b2,b3⟩ | ⟨b1,b2⟩
  ·omega
  ·exact .inr ⟨b1,fun h=>by rw [a2 h]; rfl⟩
theorem ColE.nx {v:Int} {l r:List Rt} {e:Int} {c1:AV} {l1:List Rt} {e1:Int} (h:ColE v l r e c1 l1 e1) (hC:e=0→Cl v l) (hr:∀ t ∈ r,VT v t):(e1=0∨e1=9)∧(e1=0→e=0∧Cl v l1∧l1.length≤l.length+r.length):=by
 rcases h.r with ⟨a1,a2,a3⟩ | ⟨a1,a2⟩
 ·exact ⟨.inl a1,fun _=>⟨a2,QZ (hC a2) hr a3⟩⟩
 ·exact ⟨.inr a1,fun h=>by omega⟩
def IsL (x:AV) (l:List Rt):Prop:=x=.sl 4 (df l)∨(x=.emp∧l=[])
theorem IsL.keep {x:AV} {l:List Rt} (h:IsL x l) (hs:List Nat):aaL hs x=x:=by
 rcases h with rfl | ⟨rfl,_⟩ <;> rfl
theorem Oa {f:FuncId} {fd:FD} {args:List AV} {o:Ob} {r:AV × List Ob} (hE:dK.E f=none) (hC:dK.C f=some fd) (hk:dK.md.keep f=true) (h1:args.length=fd.np)
  (hz:gx true fd.rs fd.res 1 (ak R (aG true) fd.body (n8 args) (upd (fun _=>.dead) 1000 o))=some r):R f args [o]=some r:=by
 refine GU true hE hC hk h1 (by simp) ?_;rw [N0];exact hz
theorem art {f:FuncId} {h:ac} {d id:Nat} {zas as':List AV} {o o':Ob} {res:AV} (hm:(aG false).m f=[]) (hk:(aG false).keep f=true) (hn:br ((aG false).sh f) (zas++[.ref id none 0 0 0])=as'++[.ref id none 0 0 0]) (hd:zas.all dat=true) (hd':as'.all dat=true)
  (hh:h id=o) (ho:OC o) (ho':OC o') (hb:bf o=true→bf o'=true) (hR:R f (as'++[.ref 1000 none 0 0 0]) [o]=some (res,[o'])) (hr:RT res) (h8:cG res≤8) (hfr:dp h (2000+8*d) (cG res)=true) :
  bE R (aG false) h d zas (.fn f [] [.ref id none 0 0 0])=some (res,upd h id o',[]):=by
 have hin:∀ l:List AV,l.all dat=true→bZ h [] (l++[.ref id none 0 0 0])=some (l++[.ref id none 0 0 0],h,[]):=by
  intro l;induction l with
  | nil=>intro _; rfl
  | cons x l ih =>
   intro h2;simp only [List.all_cons,Bool.and_eq_true] at h2;simp only [List.cons_append,bZ,List.headD_nil,abZ h2.1,Option.bind_some,List.tail_nil,ih h2.2,List.append_nil]
 have h1:=hin zas hd;have hp:bJ [] ((zas++[AV.ref id none 0 0 0]).flatMap bT)=[id]:=by
  rw [List.flatMap_append,Bg fun x hx=>Rf (List.all_eq_true.1 hd x hx)];rfl
 have hre:cf h 40 [id] 0=[id]:=by
  simp [cf,hh,ho.ids,bJ]
 have h3:bo [id] id=1000:=by simp [bo]
 have hall:(as'++[AV.ref id none 0 0 0]).all (aV [id])=true:=by
  rw [List.all_append,Bool.and_eq_true];exact ⟨List.all_eq_true.2 fun x hx=>VX (List.all_eq_true.1 hd' x hx) _,by simp [aV,bg]⟩
 have hmap:(as'++[AV.ref id none 0 0 0]).map (dM (bo [id]))=as'++[.ref 1000 none 0 0 0]:=by
  rw [List.map_append,(List.map_congr_left (g:=fun c=>c) fun x hx=>Rg (List.all_eq_true.1 hd' x hx) _).trans (List.map_id' as')];simp [dM,kB,h3]
 have hob:([id].map fun a=>cZ (bo [id]) (h a))=[o]:=by simp [hh,ho.ren]
 have hids:([id].all fun a=>aM [id] (h a) && !cM (h a))=true:=by simp [hh,ho.cl,ho.nd]
 unfold bE;rw [if_neg (by simp [pL,hm])];simp only [dU,hm,List.nil_append,h1,Option.bind_some,hp,hre,hn];unfold kR;rw [hall,hids,hmap,hob,hR,Bool.and_self,if_pos rfl,Option.bind_some,hk,hm,tO];unfold fF;have hbf:dz h [] [id] [o']=true:=by
  have:=ho'.nd;cases h5:bf o with
  | false=>simp [dz,hh,h5,this]
  | true=>simp [dz,hh,h5,hb h5,this]
 have hend:vQ h [id] [] (res,[o'])=true:=by
  simp [vQ,H9,hr.ok,ho'.cl]
 rw [if_pos ⟨rfl,by simp,h8,hfr,hbf,hend⟩];simp [dS,gA,hr.mat,hr.ren,ho'.ren]
theorem ColE.nil {v:Int} {l:List Rt} {c:AV} {e:Int} (hc:YK c l) (he:e=0∨e=9):ColE v l [] e c l e:=by
 refine ⟨hc,?_⟩;rcases he with rfl | rfl
 ·exact .inl ⟨rfl,rfl,rfl⟩
 ·exact .inr ⟨rfl,fun h=>by omega⟩
structure Bf (v:Int) (l A:List Rt):Prop where
 cl:Cl v l
 lt:∀ q ∈ l,∀ t ∈ A,dx q.exps t.exps < 0
theorem Bf.nil {v:Int} (A:List Rt):Bf v [] A:=⟨Cl.nil _,fun q h=>by grind⟩
theorem Bf.drop {v:Int} {l A:List Rt} {t:Rt} (h:Bf v l (t::A)):Bf v l A:=⟨h.cl,fun q hq x hx=>h.lt q hq x (by grind)⟩
theorem Cl.tail {v:Int} {l:List Rt} {t:Rt} (h:Cl v (t::l)):Cl v l:=⟨fun q hq=>h.t q (by grind),(List.pairwise_cons.1 h.s).2⟩
theorem Bf.push {v:Int} {l A:List Rt} {t:Rt} {d:Rd} (h:Bf v l (t::A)) (hA:Cl v (t::A)) (vt:VT v ⟨t.exps,d⟩):Bf v (l++[⟨t.exps,d⟩]) A:=by
 refine ⟨⟨fun q hq=>?_,?_⟩,fun q hq x hx=>?_⟩
 ·rcases List.mem_append.1 hq with h1 | h1
  ·exact h.cl.t q h1
  grind
 ·rw [List.pairwise_append];refine ⟨h.cl.s,List.pairwise_singleton _ _,fun q hq x hx=>?_⟩;rw [List.mem_singleton.1 hx];exact h.lt q hq t (by simp)
 ·rcases List.mem_append.1 hq with h1 | h1
  ·exact h.lt q h1 x (by grind)
  ·rw [List.mem_singleton.1 h1];exact (List.pairwise_cons.1 hA.s).1 x hx
def Jn (blk:Option (Ex × St)) (i1 i2:Nat) (S:ae) (v':Int) (l1 l2 r1 r2:List Rt):Prop :=
 ∃ hh c1 c2,blk=some (.normal,⟨S,hh⟩)∧hh 4=.bx [I 0,.emp]∧hh 5=.bx [I 0,.emp]∧hh i1=t3 v' c1 0∧hh i2=t3 v' c2 0∧YK c1 (l1++r1)∧YK c2 (l2++r2)
theorem Jn.p1 {blk:Option (Ex × St)} {i1 i2:Nat} {S:ae} {v':Int} {l1 l2 r1 r2:List Rt} {t:Rt} (h:Jn blk i1 i2 S v' (l1++[t]) l2 r1 r2):Jn blk i1 i2 S v' l1 l2 (t::r1) r2:=by
 obtain ⟨hh,c1,c2,h1,h2,h3,h4,h5,h6,h7⟩:=h;exact ⟨hh,c1,c2,h1,h2,h3,h4,h5,by rwa [List.append_cons],h7⟩
theorem Jn.p2 {blk:Option (Ex × St)} {i1 i2:Nat} {S:ae} {v':Int} {l1 l2 r1 r2:List Rt} {t:Rt} (h:Jn blk i1 i2 S v' l1 (l2++[t]) r1 r2):Jn blk i1 i2 S v' l1 l2 r1 (t::r2):=by
 obtain ⟨hh,c1,c2,h1,h2,h3,h4,h5,h6,h7⟩:=h;exact ⟨hh,c1,c2,h1,h2,h3,h4,h5,h6,by rwa [List.append_cons]⟩
def bd (ds:List Int) (cs:List Ri) (p:Int):Ob:=.bx [.osl 1 (bw ds),.osl 7 (bB cs),I p]
def FY:List Int→Int→Int
 | [],n=>n
 | d::l,n=>FY l (n*(d+1))
theorem lP (a b:AV) (k:Nat) (r:List (List AV)):jc 0 (.bx [.osl k r,a,b])=some (k,r):=rfl
theorem rl (h:ac) (n:Nat) (g:Bool) (i j:Nat) (r:List (List AV)):kQ h n g 1 i j (some (1,r))=(r[i]?).bind fun row=>(jG n g row j).map fun a=>(a,h,[]):=rfl
theorem XY {ds:List Int} {cs:List Ri} {p:Int} {m:Nat} (hm:m≤ds.length) (h8:m≤1000) (hb:∀ d ∈ ds,0≤d∧d≤32) :
  ∀ (k i:Nat),i+k=m→∀ (n:Int),0≤n→n*33 ^ k≤10000000000000→∀ (s:ae) (h:ac),s 5=I n→s 13=.rsl 1000 (some 0) 1 0 m→s 14=I m→s 15=I i→h 1000=bd ds cs p →
  ∃ hh,ap 0 [5] (aq (ak R (aG true) fZ) [5,13,14,15] [1000] s h)=some (.normal,⟨upd (fun _=>.any) 5 (I (FY ((ds.take m).drop i) n)),hh⟩)∧hh 1000=bd ds cs p:=by
 intro k;induction k with
 | zero =>
  intro i hi n h0 hn s h g5 g13 g14 g15 k1000;have e1:((i:Int) < (m:Int))=False:=ff (by omega);rw [List.drop_eq_nil_of_le (by grind),ai];refine ⟨?hh0,?_,?_⟩;rotate_left
  ·simp only [fZ,bd,go_sem,am7,g5,g13,g14,g15,k1000,e1];rfl
  ·rfl
 | succ k ih =>
  intro i hi n h0 hn s h g5 g13 g14 g15 k1000;have hlt2:i < (ds.take m).length:=by grind
  have e1:((i:Int) < (m:Int))=True:=tt (by omega);have e2:(bw ds)[i]?=some [I (ds.take m)[i]]:=by
   unfold bw;rw [List.getElem?_map,List.getElem_take,List.getElem?_eq_getElem (by omega)];rfl
  have e5:IntKind.i64.wrap ((i:Int)+1)=((i+1:Nat):Int):=wi (by omega) (by omega);rw [List.drop_eq_getElem_cons hlt2];have hd:=hb (ds.take m)[i] (List.mem_of_mem_take (List.getElem_mem hlt2));generalize (ds.take m)[i]=d at e2 hd ⊢;have e6:(0≤(i:Int))=True:=tt (by omega);have e3:IntKind.i64.wrap (d+1)=d+1:=i64_in _ ⟨by omega,by omega⟩;have hn2:n*(d+1)*33 ^ k≤n*33 ^ (k+1):=by
   rw [Int.pow_succ,Int.mul_comm _ 33,← Int.mul_assoc];exact Int.mul_le_mul_of_nonneg_right (Int.mul_le_mul_of_nonneg_left (by omega) h0) (Int.pow_nonneg (by decide))
  have hp1:(1:Int)≤33 ^ k:=by
   have:=Int.pow_pos (n:=33) (m:=k) (by decide);omega
  have hn0:0≤n*(d+1):=Int.mul_nonneg h0 (by omega);have hn3:n*(d+1)≤10000000000000:=by
   have:=Int.mul_le_mul_of_nonneg_left hp1 hn0;omega
  have e4:IntKind.i64.wrap (n*(d+1))=n*(d+1):=i64_in _ ⟨by omega,by omega⟩;have ih':=ih (i+1) (by omega) (n*(d+1)) hn0 (by omega);rw [ai];simp only [bd] at k1000;simp only [fZ,go_sem,am7,g5,g13,g14,g15,k1000,e1,e2,e3,e4,e5,e6,Int.toNat_natCast,Nat.zero_add,lP,rl];exact ih' _ _ rfl rfl rfl rfl rfl
theorem aee {ds:List Int} {cs:List Ri} {p:Int} {m:Nat} (hm:m≤ds.length) (h8:m≤8) (hb:∀ d ∈ ds,0≤d∧d≤32) (s:ae) (h:ac) (X:Option (Ex × St)) (hX:ap 0 [5] (aq (ak R (aG true) fZ) [5,13,14,15] [1000] s h)=X) (g5:s 5=I 1) (g13:s 13=.rsl 1000 (some 0) 1 0 m) (g14:s 14=I m) (g15:s 15=I 0) (k1000:h 1000=bd ds cs p) :
  ∃ hh,X=some (.normal,⟨upd (fun _=>.any) 5 (I (FY (ds.take m) 1)),hh⟩)∧hh 1000=bd ds cs p:=by
 subst hX;exact XY hm (by omega) hb m 0 (Nat.zero_add _) 1 (by decide) (by
  have:(33:Int) ^ m≤33 ^ 8:=by
   have h1:33 ^ m≤33 ^ 8:=Nat.pow_le_pow_right (by decide) h8;grind
  omega) s h g5 g13 g14 g15 k1000
theorem rm (ds:List Int):(bw ds).length=ds.length:=by simp [bw]
theorem aac {ds:List Int} {cs:List Ri} {p:Int} {m:Nat} (hm:m≤ds.length) (h8:m≤8) (hb:∀ d ∈ ds,0≤d∧d≤32):R F.bound_grid_step [.ref 1000 none 0 0 0,I m] [bd ds cs p]=some (I (FY (ds.take m) 1),[bd ds cs p]):=by
 refine Oa Ek Ej (sw false) rfl ?_;have hl:=aee (ds:=ds) (cs:=cs) (p:=p) hm h8 hb;have e1:eu 1 (.rsl 1000 (some 0) 1 0 ds.length) none (some (I (m:Int))) none=some (.rsl 1000 (some 0) 1 0 m):=by
  grind [eu,kw,jK]
 simp only [oC,vH,go_sem,am4,am3,bd,rm,e1];generalize hX:ap 0 [5] _=X;obtain ⟨hh,rfl,q⟩:=hl _ _ _ hX rfl rfl rfl rfl rfl;exact Tx rfl q rfl (by rfl) (by rfl)
def BM (c1 c2:dP):Prop:=∀ f a hs r,c1 f a hs=some r→c2 f a hs=some r
section
variable {c1 c2:dP} {md:Mode}
theorem P3 (hc:BM c1 c2) {h:ac} {d:Nat} {zas:List AV} {f:AV} {r:R3} (hz:dU c1 md h d zas f=some r):dU c2 md h d zas f=some r:=by
 cases f <;> simp only [dU] at hz ⊢ <;> try (cases hz; done)
 simp only [Option.bind_eq_some_iff] at hz ⊢;obtain ⟨p,e1,e2⟩:=hz;unfold kR at e2 ⊢;split at e2
 ·rename_i hcc;simp only [Option.bind_eq_some_iff] at e2;obtain ⟨q,e3,e4⟩:=e2;refine ⟨p,e1,?_⟩;rw [if_pos hcc];simp only [Option.bind_eq_some_iff];exact ⟨q,hc _ _ _ _ e3,e4⟩
 ·cases e2
theorem Hr (hc:BM c1 c2) {h:ac} {d:Nat} {zas:List AV} {f:AV} {r:R3} (hz:bE c1 md h d zas f=some r):bE c2 md h d zas f=some r:=by
 unfold bE at hz ⊢;split at hz
 ·rename_i hb;rw [if_pos hb];cases f <;> simp only [Ls] at hz ⊢ <;> try (cases hz; done)
  simp only [Option.bind_eq_some_iff] at hz ⊢;obtain ⟨p,e1,q,e3,e4⟩:=hz;exact ⟨p,e1,q,hc _ _ _ _ e3,e4⟩
 ·rename_i hb;rw [if_neg hb];exact P3 hc hz
theorem KB (hc:BM c1 c2) {d:Nat} {op:AOp} {s:ae} {h:ac} {r:R3} (hz:step c1 md d op s h=some r):step c2 md d op s h=some r:=by
 cases op with
 | call f zas=>exact Hr hc hz
 | callC f zas =>
  simp only [step,Option.bind_eq_some_iff] at hz ⊢;obtain ⟨q,e1,e2⟩:=hz;exact ⟨q,Hr hc e1,e2⟩
 | _=>exact hz
theorem KC (hc:BM c1 c2) {d:Option Nat} {op:AOp} {s:ae} {h:ac} {t:St} (hz:cA md.nm s d (step c1 md (d.getD 0) op s h)=some t):cA md.nm s d (step c2 md (d.getD 0) op s h)=some t:=by
 cases hs:step c1 md (d.getD 0) op s h with
 | none=>rw [hs] at hz; cases hz
 | some r =>
  rw [hs] at hz;rw [KB hc hs];exact hz
theorem Ty (hc:BM c1 c2) {o:COp} {s:ae} {h:ac} {t:St} (hz:iQ c1 md o s h=some t):iQ c2 md o s h=some t:=by
 unfold iQ at hz ⊢;cases hg:o.g with
 | none=>rw [hg] at hz; exact KC hc hz
 | some g =>
  rw [hg] at hz;simp only at hz ⊢;unfold ik at hz ⊢;split at hz
  ·split at hz
   ·rename_i hb;simp only [if_pos hb];exact KC hc hz
   ·rename_i hb;simp only [if_neg hb];exact hz
  ·exact hz
  ·cases hz
theorem xP (hc:BM c1 c2):∀ {l:List COp} {s:ae} {h:ac} {t:St},aC c1 md l s h=some t→aC c2 md l s h=some t
 | [],s,h,t,hz=>hz
 | o::l,s,h,t,hz=>by
  simp only [aC,aT] at hz;split at hz
  ·cases hz
  ·rename_i t1 ht1;simp only [aC,aT,Ty hc ht1,xP hc hz]
theorem Hs (hc:BM c1 c2) {d:Option Nat} {op:AOp} {s:ae} {h:ac} {f:ac→Fp} {t:St × Fp} (hz:jI s d f (step c1 md (d.getD 0) op s h)=some t):jI s d f (step c2 md (d.getD 0) op s h)=some t:=by
 cases hs:step c1 md (d.getD 0) op s h with
 | none=>rw [hs] at hz; cases hz
 | some r =>
  rw [hs] at hz;rw [KB hc hs];exact hz
theorem Tz (hc:BM c1 c2) {o:COp} {s:ae} {h:ac} {t:St × Fp} (hz:cU c1 md o s h=some t):cU c2 md o s h=some t:=by
 unfold cU at hz ⊢;cases hg:o.g with
 | none=>rw [hg] at hz; exact Hs hc hz
 | some g =>
  rw [hg] at hz;simp only at hz ⊢;unfold lT at hz ⊢;split at hz
  ·split at hz
   ·rename_i hb;simp only [if_pos hb];exact Hs hc hz
   ·rename_i hb;simp only [if_neg hb];exact hz
  ·exact hz
  ·cases hz
theorem C8 (hc:BM c1 c2):∀ {l:List COp} {s:ae} {h:ac} {t:St × List Fp},fg c1 md l s h=some t→fg c2 md l s h=some t
 | [],s,h,t,hz=>hz
 | o::l,s,h,t,hz=>by
  simp only [fg,Option.bind_eq_some_iff] at hz;obtain ⟨r,e1,q,e2,e3⟩:=hz;simp only [fg,Tz hc e1,C8 hc e2,Option.bind_some,e3]
theorem TA (hc:BM c1 c2) {l:List COp} {ps:List (Nat × Nat)} {s:ae} {h:ac} {t:St} (hz:lU c1 md l ps s h=some t):lU c2 md l ps s h=some t:=by
 unfold lU at hz ⊢;cases hb:tW ps with
 | none =>
  rw [hb] at hz;simp only [uo,Option.bind_eq_some_iff] at hz;obtain ⟨q,e1,e2⟩:=hz;simp only [uo,C8 hc e1,Option.bind_some,e2]
 | some b =>
  rw [hb] at hz;simp only [Ao,Option.bind_eq_some_iff] at hz;obtain ⟨q,e1,e2⟩:=hz;split at e2
  ·rename_i hps;simp only [aT] at e2;split at e2
   ·cases e2
   ·rename_i t1 ht1;simp only [Ao,C8 hc e1,Option.bind_some,if_pos hps,ht1,aT,xP hc e2]
  ·cases e2
theorem C9 {b1 b2:ae→ac→Option (Ex × St)} {ks hs:List Nat} (ih:∀ {s:ae} {h:ac} {r:Ex × St},b1 s h=some r→b2 s h=some r) :
  ∀ (m:Nat) {j:Nat},m≤j→∀ {s:ae} {h:ac} {r:Ex × St},ng b1 ks hs m s h=some r→ng b2 ks hs j s h=some r
 | 0,j,hj,s,h,r,hz=>by simp [ng] at hz
 | m+1,j,hj,s,h,r,hz=>by
  obtain ⟨j,rfl⟩:∃ j',j=j'+1:=⟨j - 1,by omega⟩;simp only [ng] at hz ⊢;split at hz
  ·rename_i hc;rw [if_pos hc];cases hb:b1 (mk .any (fun i=>aaL hs (s i)) ks) (mk .dead h hs) with
   | none=>rw [hb] at hz; cases hz
   | some q =>
    rw [hb] at hz;rw [ih hb];obtain ⟨ex,t⟩:=q;cases ex with
    | normal=>exact C9 ih m (by omega) hz
    | exit id=>exact hz
    | ret=>exact hz
  ·cases hz
theorem gw (hc:BM c1 c2) {lf lf':Nat} (hl:lf≤lf'):∀ (c:Cmd) {s:ae} {h:ac} {r:Ex × St},bF c1 md lf c s h=some r→bF c2 md lf' c s h=some r
 | .skip,s,h,r,hz=>hz
 | .ops ks l,s,h,r,hz=>by
  simp only [bF,aT] at hz;split at hz
  ·cases hz
  ·rename_i t1 ht1;simp only [bF,xP hc ht1,aT];exact hz
 | .dops ks l ps,s,h,r,hz=>by
  simp only [bF,aT] at hz;split at hz
  ·cases hz
  ·rename_i t1 ht1;simp only [bF,TA hc ht1,aT];exact hz
 | .seq a b,s,h,r,hz=>by
  simp only [bF,cj] at hz;split at hz
  ·cases hz
  ·rename_i t1 ht1;simp only [bF,cj,gw hc hl a ht1,gw hc hl b hz]
  ·rename_i i t1 ht1;simp only [bF,cj,gw hc hl a ht1];exact hz
  ·rename_i t1 ht1;simp only [bF,cj,gw hc hl a ht1];exact hz
 | .cond c a b,s,h,r,hz=>by
  simp only [bF,lV] at hz;split at hz
  ·rename_i t ht;cases t with
   | true=>simp only [bF,lV,ht,if_true]; exact gw hc hl a hz
   | false=>simp only [bF,lV,ht,Bool.false_eq_true,if_false]; exact gw hc hl b hz
  ·cases hz
 | .block id ks a,s,h,r,hz=>by
  simp only [bF,ap] at hz;split at hz
  ·cases hz
  ·rename_i t1 ht1;simp only [bF,ap,gw hc hl a ht1];exact hz
  ·rename_i i t1 ht1;simp only [bF,ap,gw hc hl a ht1];exact hz
  ·rename_i t1 ht1;simp only [bF,ap,gw hc hl a ht1];exact hz
 | .loop ks hs a,s,h,r,hz=>by
  simp only [bF] at hz ⊢;exact C9 (fun hh=>gw hc hl a hh) lf hl hz
 | .exit id,s,h,r,hz=>hz
 | .ret,s,h,r,hz=>hz
 | .frz is a,s,h,r,hz=>by
  simp only [bF,aT] at hz;split at hz
  ·cases hz
  ·rename_i t1 ht1;simp only [bF,aT,ht1];exact gw hc hl a hz
end
theorem ab1:Option.any aU (some AV.emp)=false:=rfl
theorem ab2 {h:ac} {id id2 k n:Nat} {rows:List (List AV)} {a:AV} {z:Int} (h1:h id2=.ar k rows) (hn:n=rows.length) (h2:h id=.bx [.any,.any,.any]) (hne:id ≠ id2) :
  Fa id 0 [.rsl id2 none k 0 n,.emp,I z] (a,h,[])=some (a,upd (upd (upd (upd h id2 .dead) id (.bx [.osl k rows,.any,.any])) id (.bx [.osl k rows,.emp,.any])) id (.bx [.osl k rows,.emp,I z]),[(id2,false)]):=by
 have h3:upd h id2 .dead id=.bx [.any,.any,.any]:=by
  simp_all [upd,if_neg]
 have e1:∀ (g:ac) o,upd g id o id=o:=fun g o=>by simp_all [upd,if_pos]
 have k1:∀ K,nD K .emp=.emp:=fun K=>rfl;have k2:∀ K,nD K (I z)=I z:=fun K=>rfl
 simp_all [aU,aB,I,Fa,mz,Bp,JS,E9,vP]
def wo:List Int→Int→Option Int
 | [],n=>some n
 | d::l,n=>if 400 < n*(d+1) then none else wo l (n*(d+1))
def Gr2 (blk:Option (Ex × St)) (o2 g:Ob):Option Int→Prop
 | some n=>∃ hh,blk=some (.normal,⟨upd (upd (upd (fun _=>.any) 11 (I n)) 6 (.ref 24 none 0 0 0)) 2 (.ref 2 none 0 0 0),hh⟩)∧hh 2=o2∧hh 24=g∧(∀ a,a ≠ 2→a ≠ 24→hh a=.dead)
 | none=>∃ hh,blk=some (.ret,⟨upd (upd (fun _=>.any) 5 (B false)) 4 (.v (.pointer none)),hh⟩)
theorem XZ {ds:List Int} {p:Int} {m:Nat} (hm:m=ds.length) (h8:m≤1000) (hb:∀ d ∈ ds,0≤d∧d≤32) {o2:Ob} (c2:∀ l,aM l o2=true) :
  ∀ (k i:Nat),i+k=m→∀ (n:Int),0≤n→n≤400→∀ (s:ae) (h:ac),s 2=.ref 2 none 0 0 0→s 6=.ref 24 none 0 0 0→s 11=I n→s 60=.rsl 24 (some 0) 1 0 m→s 61=I m→s 62=I i→h 2=o2→h 21=.dead→h 24=.bx [.osl 1 (bw ds),.emp,I p]→h 2624=.dead →
  Gr2 (ap 4 [2,6,11] (aq (ak R (aG false) eJ) [2,6,11,60,61,62] [2,21,24,2624] s h)) o2 (.bx [.osl 1 (bw ds),.emp,I p]) (wo (ds.drop i) n):=by
 intro k;induction k with
 | zero =>
  intro i hi n h0 hn s h g2 g6 g11 g60 g61 g62 k2 k21 k24 k2624;have e1:((i:Int) < (m:Int))=False:=ff (by omega);have hc:=c2 [2,21,24,2624];rw [List.drop_eq_nil_of_le (by omega),ai];refine ⟨?hh0,?_,?_,?_,?_⟩;rotate_left
  ·simp only [eJ,go_sem,am7,g2,g6,g11,g60,g61,g62,k2,k21,k24,k2624,hc,e1];rfl
  all_goals simp_all [acj,if_false,ite_self]
 | succ k ih =>
  intro i hi n h0 hn s h g2 g6 g11 g60 g61 g62 k2 k21 k24 k2624;have hlt:i < ds.length:=by omega
  have e1:((i:Int) < (m:Int))=True:=tt (by omega);have e2:(bw ds)[i]?=some [I ds[i]]:=by
   grind [bw]
  have e5:IntKind.i64.wrap ((i:Int)+1)=((i+1:Nat):Int):=wi (by omega) (by omega);have hc:=c2 [2,21,24,2624];rw [List.drop_eq_getElem_cons hlt];have hd:=hb ds[i] (List.getElem_mem hlt);generalize ds[i]=d at e2 hd ⊢;have e6:(0≤(i:Int))=True:=tt (by omega);have e3:IntKind.i64.wrap (d+1)=d+1:=i64_in _ ⟨by omega,by omega⟩;have hn0:0≤n*(d+1):=Int.mul_nonneg h0 (by omega);have hn3:n*(d+1)≤400*33:=Int.mul_le_mul hn (by omega) (by omega) (by decide);have e4:IntKind.i64.wrap (n*(d+1))=n*(d+1):=i64_in _ ⟨by omega,by omega⟩;have ih':=ih (i+1) (by omega) (n*(d+1)) hn0;have hrow:wo (d::ds.drop (i+1)) n=if 400 < n*(d+1) then none else wo (ds.drop (i+1)) (n*(d+1)):=rfl
  rw [hrow,ai];by_cases hq:400 < n*(d+1)
  ·have e7:(400 < n*(d+1))=True:=eq_true hq;rw [if_pos hq];refine ⟨?hh1,?_⟩;rotate_left
   ·simp only [eJ,go_sem,am7,g2,g6,g11,g60,g61,g62,k2,k21,k24,k2624,hc,e1,e2,e3,e4,e6,e7,Int.toNat_natCast,Nat.zero_add,lP,rl];rfl
  ·have e7:(400 < n*(d+1))=False:=eq_false hq;simp only [eJ,go_sem,am7,g2,g6,g11,g60,g61,g62,k2,k21,k24,k2624,hc,e1,e2,e3,e4,e5,e6,e7,Int.toNat_natCast,Nat.zero_add,lP,rl];refine ih' (by omega) _ _ ?_ ?_ ?_ ?_ ?_ ?_ ?_ ?_ ?_ ?_
   all_goals first | rfl | assumption
theorem aef {ds:List Int} {p:Int} {m:Nat} (hm:m=ds.length) (h8:m≤1000) (hb:∀ d ∈ ds,0≤d∧d≤32) {o2:Ob} (c2:∀ l,aM l o2=true) (s:ae) (h:ac) (X:Option (Ex × St)) (hX:ap 4 [2,6,11] (aq (ak R (aG false) eJ) [2,6,11,60,61,62] [2,21,24,2624] s h)=X) (g2:s 2=.ref 2 none 0 0 0) (g6:s 6=.ref 24 none 0 0 0) (g11:s 11=I 1) (g60:s 60=.rsl 24 (some 0) 1 0 m) (g61:s 61=I m) (g62:s 62=I 0) (k2:h 2=o2) (k21:h 21=.dead) (k24:h 24=.bx [.osl 1 (bw ds),.emp,I p]) (k2624:h 2624=.dead) :
  Gr2 X o2 (.bx [.osl 1 (bw ds),.emp,I p]) (wo ds 1):=by
 subst hX;exact XZ hm h8 hb c2 m 0 (Nat.zero_add _) 1 (by decide) (by decide) s h g2 g6 g11 g60 g61 g62 k2 k21 k24 k2624
theorem aad (h:ac) (i:Nat) (xs:List AV) (a b:AV) (r:List (List AV)):An h 1 24 0 1 i 0 xs [] (.bx [.osl 1 r,a,b])=(nc 1 1 i 0 xs 1 r).map fun q=>(.und,upd h 24 (.bx [.osl 1 q,a,b]),[]):=rfl
theorem Da {f:FuncId} {h:ac} {d id:Nat} {zas as':List AV} {o o':Ob} {res:AV} (hm:(aG false).m f=[]) (hk:(aG false).keep f=true) (hn:br ((aG false).sh f) (.ref id none 0 0 0::zas)=.ref id none 0 0 0::as') (hd:zas.all dat=true) (hd':as'.all dat=true)
  (hh:h id=o) (ho:OC o) (ho':OC o') (hb:bf o=true→bf o'=true) (hR:R f (.ref 1000 none 0 0 0::as') [o]=some (res,[o'])) (hr:RT res) (h8:cG res≤8) (hfr:dp h (2000+8*d) (cG res)=true) :
  bE R (aG false) h d (.ref id none 0 0 0::zas) (.fn f [] [])=some (res,upd h id o',[]):=by
 have h1:bZ h [] (.ref id none 0 0 0::zas)=some (.ref id none 0 0 0::zas,h,[]):=by
  simp only [bZ,cR,Option.bind_some,List.tail_nil,D5 h hd,List.append_nil]
 have hp:bJ [] ((AV.ref id none 0 0 0::zas).flatMap bT)=[id]:=by
  rw [List.flatMap_cons,Bg fun x hx=>Rf (List.all_eq_true.1 hd x hx)];rfl
 have hre:cf h 40 [id] 0=[id]:=by
  simp [cf,hh,ho.ids,bJ]
 have h3:bo [id] id=1000:=by simp [bo]
 have hall:(AV.ref id none 0 0 0::as').all (aV [id])=true:=by
  grind [aV,bg,VX]
 have hmap:(AV.ref id none 0 0 0::as').map (dM (bo [id]))=.ref 1000 none 0 0 0::as':=by
  rw [List.map_cons,(List.map_congr_left (g:=fun c=>c) fun x hx=>Rg (List.all_eq_true.1 hd' x hx) _).trans (List.map_id' as')];grind [dM,kB]
 have hob:([id].map fun a=>cZ (bo [id]) (h a))=[o]:=by simp [hh,ho.ren]
 have hids:([id].all fun a=>aM [id] (h a) && !cM (h a))=true:=by simp [hh,ho.cl,ho.nd]
 unfold bE;rw [if_neg (by grind [pL])];simp only [dU,hm,List.nil_append,List.append_nil,h1,Option.bind_some,hp,hre,hn];unfold kR;rw [hall,hids,hmap,hob,hR,Bool.and_self,if_pos rfl,Option.bind_some,hk,hm,tO];unfold fF;have hbf:dz h [] [id] [o']=true:=by
  have:=ho'.nd;grind [bf,dz]
 have hend:vQ h [id] [] (res,[o'])=true:=by
  simp [vQ,H9,hr.ok,ho'.cl]
 rw [if_pos ⟨rfl,by simp,h8,hfr,hbf,hend⟩];simp [dS,gA,hr.mat,hr.ren,ho'.ren]
theorem bu (ds:List Int) (cs:List Ri) (p:Int):OC (bd ds cs p):=⟨fun _=>rfl,rfl,fun _=>rfl,rfl⟩
theorem aic (z:Int):RT (I z):=⟨fun _=>rfl,fun _ _=>rfl,fun _=>rfl⟩
theorem Db {ds:List Int} {cs:List Ri} {p:Int} {m:Nat} (hm:m≤ds.length) (h8:m≤8) (hb:∀ d ∈ ds,0≤d∧d≤32) {h:ac} {d id:Nat} (hh:h id=bd ds cs p) (hd:h (2000+8*d)=.dead) :
  bE R (aG false) h d [.ref id none 0 0 0,I m] (.fn F.bound_grid_step [] [])=some (I (FY (ds.take m) 1),upd h id (bd ds cs p),[]) :=
 Da (iO false) (sw false) (as':=[I m]) (by simp only [go_sem]) rfl rfl hh (bu _ _ _) (bu _ _ _) (fun _=>rfl) (aac hm h8 hb) (aic _) (Nat.le_of_ble_eq_true rfl) (by grind [dp,cG,cM])
theorem rn (a b:AV) (k:Nat) (r:List (List AV)):jc 1 (.bx [a,.osl k r,b])=some (k,r):=rfl
theorem aeg {f:FuncId} {fd:FD} {args:List AV} {os:List Ob} {r:AV × List Ob} (hE:dK.E f=none) (hC:dK.C f=some fd) (hk:dK.md.keep f=false) (h1:args.length=fd.np) (h2:os.length≤1000)
  (hz:gx false fd.rs fd.res os.length (ak R (aG false) fd.body (n8 args) (aj os))=some r):R f args os=some r :=
 GU false hE hC hk h1 h2 hz
theorem Oc (a b c d e:Ob):aj [a,b,c,d,e]=upd (upd (upd (upd (upd (fun _=>.dead) 1004 e) 1003 d) 1002 c) 1001 b) 1000 a:=by
 funext i;unfold aj upd;by_cases h0:i=1000
 ·simp_all
 by_cases h1:i=1001
 ·simp_all
 by_cases h2:i=1002
 ·simp_all
 by_cases h3:i=1003
 ·simp_all
 by_cases h4:i=1004
 ·simp_all
 simp only [h0,h1,h2,h3,h4,if_false];by_cases h5:1000≤i
 ·rw [if_pos h5,List.getElem?_eq_none (by simp; omega)]; rfl
 grind
theorem Od (a b c:Ob):aj [a,b,c]=upd (upd (upd (fun _=>.dead) 1002 c) 1001 b) 1000 a:=by
 funext i;unfold aj upd;by_cases h0:i=1000
 ·simp_all
 by_cases h1:i=1001
 ·simp_all
 by_cases h2:i=1002
 ·simp_all
 simp only [h0,h1,h2,if_false];by_cases h5:1000≤i
 ·rw [if_pos h5,List.getElem?_eq_none (by grind)]; rfl
 grind
def dL (x:Ri):Ob:=.bx [B x.lo.neg,lm x.lo.m,I x.lo.e,B x.hi.neg,lm x.hi.m,I x.hi.e,B x.all]
theorem dy (x:Ri):OC (dL x):=⟨fun _=>rfl,rfl,fun _=>rfl,rfl⟩
theorem TB {l st n:Int} {lo w:Ri} {ds:List Int} {cs cs':List Ri} {p:Int} (hR:R F.bound_grid_unit_1 [I l,I st,.ref 1000 none 0 0 0,.ref 1001 none 0 0 0,.ref 1002 none 0 0 0,.ref 1003 none 0 0 0] [.bx [I n],.bx [.ref 1004 none 0 0 0],dL lo,dL w,bd ds cs p]=some (.tup [],[.bx [I n],.bx [.ref 1004 none 0 0 0],dL lo,dL w,bd ds cs' p])) {h:ac} {d:Nat} (h0:h 1000=bd ds cs p) (h1:h 1001=.bx [I n]) (h2:h 1002=.bx [.ref 1000 none 0 0 0]) (h3:h 1003=dL lo) (h4:h 1004=dL w) (hf:h (2000+8*d)=.dead) :
  bE R (aG false) h d [I l,I st] (.fn F.bound_grid_unit_1 [] [.ref 1001 none 0 0 0,.ref 1002 none 0 0 0,.ref 1003 none 0 0 0,.ref 1004 none 0 0 0])=some (.tup [],upd (upd (upd (upd (upd h 1001 (.bx [I n])) 1002 (.bx [.ref 1000 none 0 0 0])) 1003 (dL lo)) 1004 (dL w)) 1000 (bd ds cs' p),[(1001,true),(1002,true),(1003,true),(1004,true),(1000,true)]):=by
 have hre:cf h 40 [1001,1002,1003,1004] 0=[1001,1002,1003,1004,1000]:=by
  have i0:lj (bd ds cs p)=[]:=(bu ds cs p).ids;have i1:lj (.bx [I n])=[]:=rfl;have i2:lj (.bx [.ref 1000 none 0 0 0])=[1000]:=rfl;have i3:lj (dL lo)=[]:=(dy lo).ids;have i4:lj (dL w)=[]:=(dy w).ids
  simp_all [cf,bJ]
 unfold bE;rw [if_neg (by simp [pL,eX.1.2.1])];have hin:bZ h [] [I l,I st,.ref 1001 none 0 0 0,.ref 1002 none 0 0 0,.ref 1003 none 0 0 0,.ref 1004 none 0 0 0]=some ([I l,I st,.ref 1001 none 0 0 0,.ref 1002 none 0 0 0,.ref 1003 none 0 0 0,.ref 1004 none 0 0 0],h,[]):=rfl;have hids:bJ [] ([I l,I st,AV.ref 1001 none 0 0 0,.ref 1002 none 0 0 0,.ref 1003 none 0 0 0,.ref 1004 none 0 0 0].flatMap bT)=[1001,1002,1003,1004]:=rfl;simp only [dU,eX.1.2.1,List.nil_append,List.cons_append,hin,Option.bind_some,hids,hre,eX.1.1];have hn:br [] [I l,I st,AV.ref 1001 none 0 0 0,.ref 1002 none 0 0 0,.ref 1003 none 0 0 0,.ref 1004 none 0 0 0]=[I l,I st,AV.ref 1001 none 0 0 0,.ref 1002 none 0 0 0,.ref 1003 none 0 0 0,.ref 1004 none 0 0 0]:=rfl;rw [hn];unfold kR;have hob:([1001,1002,1003,1004,1000].map fun a=>cZ (bo [1001,1002,1003,1004,1000]) (h a))=[.bx [I n],.bx [.ref 1004 none 0 0 0],dL lo,dL w,bd ds cs p]:=by
  simp only [List.map,h0,h1,h2,h3,h4];rfl
 have hcl:([1001,1002,1003,1004,1000].all fun a=>aM [1001,1002,1003,1004,1000] (h a) && !cM (h a))=true:=by
  simp only [List.all_cons,List.all_nil,h0,h1,h2,h3,h4];rfl
 rw [hob,hcl,if_pos (by rfl)];rw [show [I l,I st,AV.ref 1001 none 0 0 0,.ref 1002 none 0 0 0,.ref 1003 none 0 0 0,.ref 1004 none 0 0 0].map (dM (bo [1001,1002,1003,1004,1000]))=[I l,I st,.ref 1000 none 0 0 0,.ref 1001 none 0 0 0,.ref 1002 none 0 0 0,.ref 1003 none 0 0 0] from rfl,hR,Option.bind_some,eX.1.2.2.2,eX.1.2.1,tO];unfold fF;rw [if_pos ⟨rfl,Nat.le_of_ble_eq_true rfl,Nat.le_of_ble_eq_true rfl,by simp [dp,cG],by grind [dz,dL,bd,bf,cM],rfl⟩];rfl
theorem TC {l st n:Int} {ds:List Int} {cs cs':List Ri} {p:Int} (hR:R F.bound_grid_bernstein_1 [I l,I st,.ref 1000 none 0 0 0,.ref 1001 none 0 0 0] [.bx [I n],.bx [.ref 1002 none 0 0 0],bd ds cs p]=some (.tup [],[.bx [I n],.bx [.ref 1002 none 0 0 0],bd ds cs' p])) {h:ac} {d:Nat} (h0:h 1000=bd ds cs p) (h1:h 1001=.bx [I n]) (h2:h 1002=.bx [.ref 1000 none 0 0 0]) (hf:h (2000+8*d)=.dead) :
  bE R (aG false) h d [I l,I st] (.fn F.bound_grid_bernstein_1 [] [.ref 1001 none 0 0 0,.ref 1002 none 0 0 0])=some (.tup [],upd (upd (upd h 1001 (.bx [I n])) 1002 (.bx [.ref 1000 none 0 0 0])) 1000 (bd ds cs' p),[(1001,true),(1002,true),(1000,true)]):=by
 have hre:cf h 40 [1001,1002] 0=[1001,1002,1000]:=by
  have i0:lj (bd ds cs p)=[]:=(bu ds cs p).ids;have i1:lj (.bx [I n])=[]:=rfl;have i2:lj (.bx [.ref 1000 none 0 0 0])=[1000]:=rfl
  simp_all [cf,bJ]
 unfold bE;rw [if_neg (by simp [pL,de.1.2.1])];have hin:bZ h [] [I l,I st,.ref 1001 none 0 0 0,.ref 1002 none 0 0 0]=some ([I l,I st,.ref 1001 none 0 0 0,.ref 1002 none 0 0 0],h,[]):=rfl;have hids:bJ [] ([I l,I st,AV.ref 1001 none 0 0 0,.ref 1002 none 0 0 0].flatMap bT)=[1001,1002]:=rfl;simp only [dU,de.1.2.1,List.nil_append,List.cons_append,hin,Option.bind_some,hids,hre,de.1.1];have hn:br [] [I l,I st,AV.ref 1001 none 0 0 0,.ref 1002 none 0 0 0]=[I l,I st,AV.ref 1001 none 0 0 0,.ref 1002 none 0 0 0]:=rfl;rw [hn];unfold kR;have hob:([1001,1002,1000].map fun a=>cZ (bo [1001,1002,1000]) (h a))=[.bx [I n],.bx [.ref 1002 none 0 0 0],bd ds cs p]:=by
  simp only [List.map,h0,h1,h2];rfl
 have hcl:([1001,1002,1000].all fun a=>aM [1001,1002,1000] (h a) && !cM (h a))=true:=by
  simp only [List.all_cons,List.all_nil,h0,h1,h2];rfl
 rw [hob,hcl,if_pos (by rfl)];rw [show [I l,I st,AV.ref 1001 none 0 0 0,.ref 1002 none 0 0 0].map (dM (bo [1001,1002,1000]))=[I l,I st,.ref 1000 none 0 0 0,.ref 1001 none 0 0 0] from rfl,hR,Option.bind_some,de.1.2.2.2,de.1.2.1,tO];unfold fF;rw [if_pos ⟨rfl,Nat.le_of_ble_eq_true rfl,Nat.le_of_ble_eq_true rfl,by simp [dp,cG],by grind [dz,bd,bf,cM],rfl⟩];rfl
theorem Oe {f:FuncId} {h:ac} {d:Nat} {zas as':List AV} {r:Option R3} (hm:(aG false).m f=[]) (hd:bZ h [] zas=some (as',h,[])) (hc:bE R (aG false) h d zas (.fn f [] [])=r):AE R (aG false) d f (as',h,[])=r:=by
 grind [AF]
theorem Ht {i:Nat} {m:Int} {lo w:Ri} {ds:List Int} {cs cs':List Ri} {p:Int} (hR:R F.bound_grid_lines [.ref 1000 none 0 0 0,I i,.fn F.bound_grid_unit_1 [] [.ref 1001 none 0 0 0,.ref 1002 none 0 0 0,.ref 1003 none 0 0 0,.ref 1004 none 0 0 0]] [bd ds cs p,.bx [I m],.bx [.ref 1000 none 0 0 0],dL lo,dL w]=some (.tup [],[bd ds cs' p,.bx [I m],.bx [.ref 1000 none 0 0 0],dL lo,dL w])) {h:ac} {d:Nat} (h0:h 1000=bd ds cs p) (h1:h 8=.bx [I m]) (h2:h 3=.bx [.ref 1000 none 0 0 0]) (h3:h 6=dL lo) (h4:h 7=dL w) (hf:h (2000+8*d)=.dead) :
  bE R (aG false) h d [.ref 1000 none 0 0 0,I i,.fn F.bound_grid_unit_1 [] [.ref 8 none 0 0 0,.ref 3 none 0 0 0,.ref 6 none 0 0 0,.ref 7 none 0 0 0]] (.fn F.bound_grid_lines [] [])=some (.tup [],upd (upd (upd (upd (upd h 1000 (bd ds cs' p)) 8 (.bx [I m])) 3 (.bx [.ref 1000 none 0 0 0])) 6 (dL lo)) 7 (dL w),[(1000,true),(8,true),(3,true),(6,true),(7,true)]):=by
 have hre:cf h 40 [1000,8,3,6,7] 0=[1000,8,3,6,7]:=by
  have i0:lj (bd ds cs p)=[]:=(bu _ _ p).ids;have i1:lj (.bx [I m])=[]:=rfl;have i2:lj (.bx [.ref 1000 none 0 0 0])=[1000]:=rfl;have i3:lj (dL lo)=[]:=(dy lo).ids;have i4:lj (dL w)=[]:=(dy w).ids
  simp_all [cf,bJ]
 unfold bE;rw [if_neg (by simp [pL,bA.1.2.1])];have hin:bZ h [] [.ref 1000 none 0 0 0,I i,.fn F.bound_grid_unit_1 [] [.ref 8 none 0 0 0,.ref 3 none 0 0 0,.ref 6 none 0 0 0,.ref 7 none 0 0 0]]=some ([.ref 1000 none 0 0 0,I i,.fn F.bound_grid_unit_1 [] [.ref 8 none 0 0 0,.ref 3 none 0 0 0,.ref 6 none 0 0 0,.ref 7 none 0 0 0]],h,[]):=rfl;have hids:bJ [] ([AV.ref 1000 none 0 0 0,I i,.fn F.bound_grid_unit_1 [] [.ref 8 none 0 0 0,.ref 3 none 0 0 0,.ref 6 none 0 0 0,.ref 7 none 0 0 0]].flatMap bT)=[1000,8,3,6,7]:=rfl;simp only [dU,bA.1.2.1,List.nil_append,List.append_nil,hin,Option.bind_some,hids,hre,bA.1.1];have hn:br [] [AV.ref 1000 none 0 0 0,I i,.fn F.bound_grid_unit_1 [] [.ref 8 none 0 0 0,.ref 3 none 0 0 0,.ref 6 none 0 0 0,.ref 7 none 0 0 0]]=[AV.ref 1000 none 0 0 0,I i,.fn F.bound_grid_unit_1 [] [.ref 8 none 0 0 0,.ref 3 none 0 0 0,.ref 6 none 0 0 0,.ref 7 none 0 0 0]]:=rfl;rw [hn];unfold kR;have hob:([1000,8,3,6,7].map fun a=>cZ (bo [1000,8,3,6,7]) (h a))=[bd ds cs p,.bx [I m],.bx [.ref 1000 none 0 0 0],dL lo,dL w]:=by
  simp only [List.map,h0,h1,h2,h3,h4];rfl
 have hcl:([1000,8,3,6,7].all fun a=>aM [1000,8,3,6,7] (h a) && !cM (h a))=true:=by
  simp only [List.all_cons,List.all_nil,h0,h1,h2,h3,h4];rfl
 rw [hob,hcl,if_pos (by rfl)];rw [show [AV.ref 1000 none 0 0 0,I i,.fn F.bound_grid_unit_1 [] [.ref 8 none 0 0 0,.ref 3 none 0 0 0,.ref 6 none 0 0 0,.ref 7 none 0 0 0]].map (dM (bo [1000,8,3,6,7]))=[.ref 1000 none 0 0 0,I i,.fn F.bound_grid_unit_1 [] [.ref 1001 none 0 0 0,.ref 1002 none 0 0 0,.ref 1003 none 0 0 0,.ref 1004 none 0 0 0]] from rfl,hR,Option.bind_some,bA.1.2.2.2,bA.1.2.1,tO];unfold fF;rw [if_pos ⟨rfl,Nat.le_of_ble_eq_true rfl,Nat.le_of_ble_eq_true rfl,by simp [dp,cG],by grind [dz,dL,bd,bf,cM],rfl⟩];rfl
theorem Hu {i:Nat} {m:Int} {ds:List Int} {cs cs':List Ri} {p:Int} (hR:R F.bound_grid_lines [.ref 1000 none 0 0 0,I i,.fn F.bound_grid_bernstein_1 [] [.ref 1001 none 0 0 0,.ref 1002 none 0 0 0]] [bd ds cs p,.bx [I m],.bx [.ref 1000 none 0 0 0]]=some (.tup [],[bd ds cs' p,.bx [I m],.bx [.ref 1000 none 0 0 0]])) {h:ac} {d:Nat} (h0:h 1000=bd ds cs p) (h1:h 4=.bx [I m]) (h2:h 2=.bx [.ref 1000 none 0 0 0]) (hf:h (2000+8*d)=.dead) :
  bE R (aG false) h d [.ref 1000 none 0 0 0,I i,.fn F.bound_grid_bernstein_1 [] [.ref 4 none 0 0 0,.ref 2 none 0 0 0]] (.fn F.bound_grid_lines [] [])=some (.tup [],upd (upd (upd h 1000 (bd ds cs' p)) 4 (.bx [I m])) 2 (.bx [.ref 1000 none 0 0 0]),[(1000,true),(4,true),(2,true)]):=by
 have hre:cf h 40 [1000,4,2] 0=[1000,4,2]:=by
  have i0:lj (bd ds cs p)=[]:=(bu _ _ p).ids;have i1:lj (.bx [I m])=[]:=rfl;have i2:lj (.bx [.ref 1000 none 0 0 0])=[1000]:=rfl
  simp_all [cf,bJ]
 unfold bE;rw [if_neg (by simp [pL,bA.1.2.1])];have hin:bZ h [] [.ref 1000 none 0 0 0,I i,.fn F.bound_grid_bernstein_1 [] [.ref 4 none 0 0 0,.ref 2 none 0 0 0]]=some ([.ref 1000 none 0 0 0,I i,.fn F.bound_grid_bernstein_1 [] [.ref 4 none 0 0 0,.ref 2 none 0 0 0]],h,[]):=rfl;have hids:bJ [] ([AV.ref 1000 none 0 0 0,I i,.fn F.bound_grid_bernstein_1 [] [.ref 4 none 0 0 0,.ref 2 none 0 0 0]].flatMap bT)=[1000,4,2]:=rfl;simp only [dU,bA.1.2.1,List.nil_append,List.append_nil,hin,Option.bind_some,hids,hre,bA.1.1];have hn:br [] [AV.ref 1000 none 0 0 0,I i,.fn F.bound_grid_bernstein_1 [] [.ref 4 none 0 0 0,.ref 2 none 0 0 0]]=[AV.ref 1000 none 0 0 0,I i,.fn F.bound_grid_bernstein_1 [] [.ref 4 none 0 0 0,.ref 2 none 0 0 0]]:=rfl;rw [hn];unfold kR;have hob:([1000,4,2].map fun a=>cZ (bo [1000,4,2]) (h a))=[bd ds cs p,.bx [I m],.bx [.ref 1000 none 0 0 0]]:=by
  simp only [List.map,h0,h1,h2];rfl
 have hcl:([1000,4,2].all fun a=>aM [1000,4,2] (h a) && !cM (h a))=true:=by
  simp only [List.all_cons,List.all_nil,h0,h1,h2];rfl
 rw [hob,hcl,if_pos (by rfl)];rw [show [AV.ref 1000 none 0 0 0,I i,.fn F.bound_grid_bernstein_1 [] [.ref 4 none 0 0 0,.ref 2 none 0 0 0]].map (dM (bo [1000,4,2]))=[.ref 1000 none 0 0 0,I i,.fn F.bound_grid_bernstein_1 [] [.ref 1001 none 0 0 0,.ref 1002 none 0 0 0]] from rfl,hR,Option.bind_some,bA.1.2.2.2,bA.1.2.1,tO];unfold fF;rw [if_pos ⟨rfl,Nat.le_of_ble_eq_true rfl,Nat.le_of_ble_eq_true rfl,by simp [dp,cG],by grind [dz,bd,bf,cM],rfl⟩];rfl
theorem VZ {h:ac} {id id2:Nat} {cs:List AV} {a:AV} (h1:h id2=.bx cs) (h2:h id=.bx [.any]):Fa id 0 [.ref id2 none 0 0 0] (a,h,[])=some (a,upd h id (.bx [.ref id2 none 0 0 0]),[]):=by
 simp_all [aU,Fa,mz,Bp,inP,E9,vP]
theorem TD (h:ac) (d:Nat) (r q:List (List AV)) (p:Int) (b:Bool):j6 h d (some (.tup [.obx [.osl 1 r,.osl 7 q,I p],B b],[]))=if cM (h (2000+8*d)) && cM (h (2000+8*d+1)) then some (.tup [.ref (2000+8*d) none 0 0 0,B b],upd h (2000+8*d) (.bx [.osl 1 r,.osl 7 q,I p]),[]) else none:=by
 simp [j6,cG,jH,fE,ji,aB,aU,aV,bg,dp,mat,bQ,da]
theorem wA (h:ac) (n:Nat) (g:Bool) (i j:Nat) (r:List (List AV)):kQ h n g 7 i j (some (7,r))=(r[i]?).bind fun row=>(jG n g row j).map fun a=>(a,h,[]):=rfl
theorem aae {ds:List Int} {cs:List Ri} {p:Int} {x y:Ri} (ox:OkI x) (oy:OkI y):R F.bound_grid_add [.ref 1000 none 0 0 0,ax x,ax y] [bd ds cs p]=some (ax (oP x y p),[bd ds cs p]):=by
 refine Oa anp ano (agm false) rfl ?_;have h:=IZ ox oy (p:=p);generalize oP x y p=z at *
 simp only [ax,aA] at h;simp only [vI,wY,ax,aA,bd,go_sem,am4,am3,am5,h];exact Tx rfl rfl rfl (by rfl) (by simp only [go_sem])
theorem aaf {ds:List Int} {cs:List Ri} {p:Int} {x y:Ri} (ox:OkI x) (oy:OkI y):R F.bound_grid_mul [.ref 1000 none 0 0 0,ax x,ax y] [bd ds cs p]=some (ax (nv x y p),[bd ds cs p]):=by
 refine Oa anr anq (ago false) rfl ?_;have h:=I3 ox oy (p:=p);generalize nv x y p=z at *
 simp only [ax,aA] at h;simp only [vJ,wZ,ax,aA,bd,go_sem,am4,am3,am5,h];exact Tx rfl rfl rfl (by rfl) (by simp only [go_sem])
theorem YP (x:Ri):RT (ax x):=⟨fun _=>rfl,fun _ _=>rfl,fun _=>rfl⟩
theorem KD {ds:List Int} {cs:List Ri} {p:Int} {x y:Ri} (ox:OkI x) (oy:OkI y) {h:ac} {d id:Nat} (hh:h id=bd ds cs p) (hd:h (2000+8*d)=.dead) :
  AE R (aG false) d F.bound_grid_add ([.ref id none 0 0 0,ax x,ax y],h,[])=some (ax (oP x y p),upd h id (bd ds cs p),[]) :=
 oT (agk false) rfl (Da (agk false) (agm false) (as':=[ax x,ax y]) (by rw [anm]; simp only [ax,aA,go_sem]) rfl rfl hh (bu _ _ _) (bu _ _ _) (fun _=>rfl) (aae ox oy) (YP _) (Nat.le_of_ble_eq_true rfl) (by simp [dp,ax,cG,hd,cM]))
theorem yD {ds:List Int} {cs:List Ri} {p:Int} {x y:Ri} (ox:OkI x) (oy:OkI y) {h:ac} {d id:Nat} (hh:h id=bd ds cs p) (hd:h (2000+8*d)=.dead) :
  AE R (aG false) d F.bound_grid_mul ([.ref id none 0 0 0,ax x,ax y],h,[])=some (ax (nv x y p),upd h id (bd ds cs p),[]) :=
 oT (agl false) rfl (Da (agl false) (ago false) (as':=[ax x,ax y]) (by rw [ann]; simp only [ax,aA,go_sem]) rfl rfl hh (bu _ _ _) (bu _ _ _) (fun _=>rfl) (aaf ox oy) (YP _) (Nat.le_of_ble_eq_true rfl) (by simp [dp,ax,cG,hd,cM]))
theorem D6 {α:Type} {f:α→List AV} (h:∀ x,sJ (f x) (f x)=true):∀ l:List α,Bq (l.map f) (l.map f)=true
 | []=>rfl
 | a::l=>by simp only [List.map,Bq,h,D6 h l,Bool.true_and]
theorem aeh (z:Int):sJ [I z] [I z]=true:=by simp [sJ,LY,LX]
theorem ab3 (x:Ri):sJ (aA x) (aA x)=true:=by
 have h:∀ m:List Nat,Bq (az m) (az m)=true:=D6 fun x=>by simp [sJ,LY,LX]
 simp [aA,sJ,LY,LX,lm,h]
theorem ab4 (ds:List Int) (cs:List Ri) (p:Int):Dw (bd ds cs p) (bd ds cs p)=true:=by
 have h1:Bq (bw ds) (bw ds)=true:=D6 aeh ds;have h2:Bq (bB cs) (bB cs)=true:=D6 ab3 cs;simp [bd,Dw,sJ,LY,LX,h1,h2]
theorem TE {h h':ac} {d id:Nat} {ds:List Int} {cs:List Ri} {p:Int} {x y:Ri} (hi:id < 2000) (hh:h id=bd ds cs p) (hh':h' id=bd ds cs p):fV h d [.ref id none 0 0 0,ax x,ax y] h'=some ([id],[2000+8*d]):=by
 have hre:cf h 40 [id] 0=[id]:=by simp [cf,hh,(bu ds cs p).ids,bJ]
 have hc:BU h h' [id]=[]:=by simp [BU,hh,hh',ab4]
 show (if _ then _ else if _ then some ((cf h 40 [id] 0).map cH,(BU h h' (cf h 40 [id] 0)).map cH++[2000+8*d]) else none)=_;rw [hre,hc,if_neg (by simp [dat,aB]),if_pos (by rfl)];simp [cH,hi]
def gh (N:Nat) (cs:List Ri) (g:G):Prop:=cs.length=N∧∀ k x,cs[k]?=some x→In (g k) x
theorem gh.get {N:Nat} {cs:List Ri} {g:G} (h:gh N cs g) {k:Nat} (hk:k < N):∃ x,cs[k]?=some x∧In (g k) x:=by
 have:k < cs.length:=by rw [h.1]; exact hk
 exact ⟨cs[k],List.getElem?_eq_getElem this,h.2 k _ (List.getElem?_eq_getElem this)⟩
theorem gh.set {N:Nat} {cs:List Ri} {g:G} (h:gh N cs g) {k:Nat} {x:Ri} {y:Rat} (hx:In y x):gh N (cs.set k x) (gs g k y):=by
 refine ⟨by rw [List.length_set]; exact h.1,fun j z hz=>?_⟩;rw [List.getElem?_set] at hz;unfold gs;by_cases hj:k=j
 ·subst hj;rw [if_pos rfl] at hz;rw [if_pos rfl];split at hz
  ·cases hz;exact hx
  ·exact nomatch hz
 ·rw [if_neg hj] at hz;rw [if_neg fun h=>hj h.symm];exact h.2 j z hz
def Rh (n:Nat) (lo w:Ri) (ds:List Int) (cs:List Ri) (p:Int) (h:ac):Prop:=h 1000=.bx [I n]∧h 1001=.bx [.ref 1004 none 0 0 0]∧h 1002=dL lo∧h 1003=dL w∧h 1004=bd ds cs p
theorem Aj (id:Nat) (h:ac) (i:Nat) (xs:List AV) (a b:AV) (r:List (List AV)):An h 7 id 1 7 i 0 xs [] (.bx [a,.osl 7 r,b])=(nc 7 7 i 0 xs 7 r).map fun q=>(.und,upd h id (.bx [a,.osl 7 q,b]),[]):=rfl
theorem Ak {cs:List Ri} {k:Nat} {u:Ri} (hk:k < cs.length):nc 7 7 k 0 (aA u) 7 (bB cs)=some (bB (cs.set k u)):=by
 have h1:(bB cs)[k]?=some (aA cs[k]):=by unfold bB; rw [List.getElem?_map,List.getElem?_eq_getElem hk]; rfl
 unfold nc;rw [if_pos rfl,h1];simp [setRow,aA,bB,List.map_set]
attribute [-go_sem] uA in
theorem aag {ds:List Int} {p:Int} {N f st i n:Nat} {lo w:Ri} {l:Rat} (hl:In l lo) (hN:f+n*st < N) (hN4:N≤400) (hn:n≤400):∀ (k:Nat),i+k≤n→∀ (cs:List Ri) (g:G),gh N cs g→∀ (s:ae) (h:ac) (X:Option (Ex × St)),ap 2 [0,1,2,3,4,5,13,14] (aq (ak R (aG false) fj) [0,1,2,3,4,5,8,9,13,14] [1000,1001,1002,1003,1004] s h)=X →
  s 0=I f→s 1=I st→s 2=.ref 1000 none 0 0 0→s 3=.ref 1001 none 0 0 0→s 4=.ref 1002 none 0 0 0→s 5=.ref 1003 none 0 0 0→s 8=I i→s 9=I ((i:Int)+k - 1)→s 13=I n→s 14=I i→Rh n lo w ds cs p h →
  ∃ hh cs',X=some (.normal,⟨upd (upd (upd (upd (upd (upd (upd (upd (fun _=>.any) 14 (I i)) 13 (I n)) 5 (.ref 1003 none 0 0 0)) 4 (.ref 1002 none 0 0 0)) 3 (.ref 1001 none 0 0 0)) 2 (.ref 1000 none 0 0 0)) 1 (I st)) 0 (I f),hh⟩)∧Rh n lo w ds cs' p hh∧gh N cs' (E4 l (fun j=>f+j*st) i k g):=by
 intro k;induction k with
 | zero =>
  intro hk cs g he s h X hX g0 g1 g2 g3 g4 g5 g8 g9 g13 g14 ho;subst hX;obtain ⟨k0,k1,k2,k3,k4⟩:=ho;have e1:((i:Int)≤(i:Int)+((0:Nat):Int) - 1)=False:=eq_false (by omega);have hg:=(bu ds cs p).cl [1000,1001,1002,1003,1004];have hlo:=(dy lo).cl [1000,1001,1002,1003,1004];have hw:=(dy w).cl [1000,1001,1002,1003,1004];rw [ai];refine ⟨?hh0,cs,?_,?_,he⟩;rotate_left
  ·simp only [fj,go_sem,am7,g0,g1,g2,g3,g4,g5,g8,g9,g13,g14,k0,k1,k2,k3,k4,hg,hlo,hw,e1];rfl
  ·exact ⟨rfl,rfl,rfl,rfl,rfl⟩
 | succ k ih =>
  intro hk cs g he s h X hX g0 g1 g2 g3 g4 g5 g8 g9 g13 g14 ho;subst hX;obtain ⟨k0,k1,k2,k3,k4⟩:=ho;have hm1:(i+k)*st≤n*st:=Nat.mul_le_mul_right _ (by omega);have hm2:(i+k+1)*st≤n*st:=Nat.mul_le_mul_right _ (by omega);have hs2:(i+k+1)*st=(i+k)*st+st:=by rw [Nat.add_mul,Nat.one_mul]
  have e1:((i:Int)≤(i:Int)+((k+1:Nat):Int) - 1)=True:=eq_true (by omega);have w1:IntKind.i64.wrap (((i:Int)+((k+1:Nat):Int) - 1)*st)=(((i+k)*st:Nat):Int):=by
   rw [show ((i:Int)+((k+1:Nat):Int) - 1)=((i+k:Nat):Int) by omega,← Int.natCast_mul];exact i64_in _ ⟨by omega,by omega⟩
  have w2:IntKind.i64.wrap ((f:Int)+(((i+k)*st:Nat):Int))=((f+(i+k)*st:Nat):Int):=wi (by omega) (by omega);have w3:IntKind.i64.wrap (((f+(i+k)*st:Nat):Int)+(st:Int))=((f+(i+k+1)*st:Nat):Int):=wi (by omega) (by omega);have w4:IntKind.i64.wrap ((i:Int)+((k+1:Nat):Int) - 1 - 1)=(i:Int)+(k:Int) - 1:=by rw [i64_in _ ⟨by omega,by omega⟩]; omega
  obtain ⟨x,x1,x2⟩:=he.get (k:=f+(i+k)*st) (by omega);obtain ⟨y,y1,y2⟩:=he.get (k:=f+(i+k+1)*st) (by omega);have hg:=(bu ds cs p).cl [1000,1001,1002,1003,1004];have hlo:=(dy lo).cl [1000,1001,1002,1003,1004];have hw:=(dy w).cl [1000,1001,1002,1003,1004];have cm:=fun (h:ac) (d:Nat) hh hd=>yD (ds:=ds) (cs:=cs) (p:=p) (h:=h) (d:=d) (id:=1004) hl.ok y2.ok hh hd;have pm:=wz (p:=p) hl y2;have ca:=fun (h:ac) (d:Nat) hh hd=>KD (ds:=ds) (cs:=cs) (p:=p) (h:=h) (d:=d) (id:=1004) x2.ok pm.ok hh hd;have pa:=DZ (p:=p) x2 pm;have q1:(bB cs)[f+(i+k)*st]?=some (aA x):=by unfold bB; rw [List.getElem?_map,x1]; rfl
  have q2:(bB cs)[f+(i+k+1)*st]?=some (aA y):=by unfold bB; rw [List.getElem?_map,y1]; rfl
  have i1:(0≤((f+(i+k)*st:Nat):Int))=True:=eq_true (by omega);have i2:(0≤((f+(i+k+1)*st:Nat):Int))=True:=eq_true (by omega);have i3:(((f+(i+k)*st:Nat):Int) < (cs.length:Int))=True:=eq_true (by rw [he.1]; omega);have i4:(((f+(i+k+1)*st:Nat):Int) < (cs.length:Int))=True:=eq_true (by rw [he.1]; omega);have sr1:∀ u:Ri,nc 7 7 (f+(i+k)*st) 0 (aA u) 7 (bB cs)=some (bB (cs.set (f+(i+k)*st) u)):=fun u=>Ak (by rw [he.1]; omega);have ih':=ih (by omega) _ _ (he.set (k:=f+(i+k)*st) pa);rw [ai];generalize aq _ _ _=L at ih' ⊢;generalize nv lo y p=z at *
  generalize oP x z p=u at *
  simp only [bd,ax,aA] at cm ca;simp only [aA] at q1 q2 sr1;simp only [bd] at k4 hg;simp only [dL] at k2 k3 hlo hw;simp only [fj,go_sem,am4,am3,am5,am6,am7,g0,g1,g2,g3,g4,g5,g8,g9,g13,g14,k0,k1,k2,k3,k4,hg,hlo,hw,e1,w1,w2,w3,w4,i1,i2,i3,i4,rn,wA,Int.toNat_natCast,Nat.zero_add,q1,q2];rw [cm _ _ rfl rfl];have fp:=fun (h h':ac) (d:Nat) (x y:Ri)=>TE (h:=h) (h':=h') (d:=d) (id:=1004) (ds:=ds) (cs:=cs) (p:=p) (x:=x) (y:=y) (by decide);simp only [bd,ax,aA] at fp;simp only [go_sem,am4,am3,fp];rw [ca _ _ rfl rfl];simp only [go_sem,am4,am3,am5,am6,am7,fp,i1,i3,Int.toNat_natCast,Nat.zero_add,Aj,sr1,w4];exact ih' _ _ _ rfl rfl rfl rfl rfl rfl rfl rfl rfl rfl rfl ⟨rfl,rfl,rfl,rfl,rfl⟩
theorem aah {ds:List Int} {p:Int} {N f st n:Nat} {lo w:Ri} {l:Rat} (hl:In l lo) (hN:f+n*st < N) (hN4:N≤400) (hn:n≤400):∀ (k i:Nat),i+k=n→∀ (cs:List Ri) (g:G),gh N cs g→∀ (s:ae) (h:ac) (X:Option (Ex × St)),ap 0 [0,1,2,3,5] (aq (ak R (aG false) gW) [0,1,2,3,4,5,13,14] [1000,1001,1002,1003,1004] s h)=X →
  s 0=I f→s 1=I st→s 2=.ref 1000 none 0 0 0→s 3=.ref 1001 none 0 0 0→s 4=.ref 1002 none 0 0 0→s 5=.ref 1003 none 0 0 0→s 13=I n→s 14=I i→Rh n lo w ds cs p h →
  ∃ hh cs',X=some (.normal,⟨upd (upd (upd (upd (upd (fun _=>.any) 5 (.ref 1003 none 0 0 0)) 3 (.ref 1001 none 0 0 0)) 2 (.ref 1000 none 0 0 0)) 1 (I st)) 0 (I f),hh⟩)∧Rh n lo w ds cs' p hh∧(∀ a,a ≠ 1000→a ≠ 1001→a ≠ 1002→a ≠ 1003→a ≠ 1004→hh a=.dead)∧gh N cs' (E5 l (fun j=>f+j*st) k i g):=by
 intro k;induction k with
 | zero =>
  intro i hk cs g he s h X hX g0 g1 g2 g3 g4 g5 g13 g14 ho;subst hX;obtain ⟨k0,k1,k2,k3,k4⟩:=ho;have e1:((i:Int) < n)=False:=eq_false (by omega);have hg:=(bu ds cs p).cl [1000,1001,1002,1003,1004];have hlo:=(dy lo).cl [1000,1001,1002,1003,1004];have hw:=(dy w).cl [1000,1001,1002,1003,1004];rw [ai];refine ⟨?hh0,cs,?_,?_,?_,he⟩;rotate_left
  ·simp only [gW,go_sem,am4,am3,am5,am6,am7,g0,g1,g2,g3,g4,g5,g13,g14,k0,k1,k2,k3,k4,hg,hlo,hw,e1];rfl
  ·exact ⟨rfl,rfl,rfl,rfl,rfl⟩
  ·intro a a1 a2 a3 a4 a5;simp only [acj,a1,a2,a3,a4,a5,if_false]
 | succ k ih =>
  intro i hk cs g he s h X hX g0 g1 g2 g3 g4 g5 g13 g14 ho;subst hX;have ho':=ho;obtain ⟨k0,k1,k2,k3,k4⟩:=ho;have e1:((i:Int) < n)=True:=eq_true (by omega);have w1:IntKind.i64.wrap ((n:Int) - 1)=(i:Int)+((k+1:Nat):Int) - 1:=by rw [i64_in _ ⟨by omega,by omega⟩]; omega
  have w2:IntKind.i64.wrap ((i:Int)+1)=((i+1:Nat):Int):=wi (by omega) (by omega);have hg:=(bu ds cs p).cl [1000,1001,1002,1003,1004];have hlo:=(dy lo).cl [1000,1001,1002,1003,1004];have hw:=(dy w).cl [1000,1001,1002,1003,1004];have hu:=aag (ds:=ds) (p:=p) (w:=w) hl hN hN4 hn (i:=i) (k+1) (by omega) cs g he;have ih':=ih (i+1) (by omega);rw [ai];generalize aq _ _ _=L at ih' ⊢;simp only [gW,go_sem,am4,am3,am5,am6,am7,g0,g1,g2,g3,g4,g5,g13,g14,k0,k1,k2,k3,k4,hg,hlo,hw,e1,w1];generalize hX:ap 2 _ _=X;obtain ⟨hh,cs',rfl,ho2,he2⟩:=hu _ _ _ hX rfl rfl rfl rfl rfl rfl rfl rfl rfl rfl ⟨rfl,rfl,rfl,rfl,rfl⟩;simp only [go_sem,am7,w2];exact ih' cs' _ he2 _ _ _ rfl rfl rfl rfl rfl rfl rfl rfl rfl ho2
attribute [-go_sem] uA in
theorem aai {ds:List Int} {p:Int} {N f st n:Nat} {lo w:Ri} {u:Rat} (hw:In u w) (hN:f+n*st < N) (hN4:N≤400) (hn:n≤400):∀ (k j:Nat),j+k=n+1→∀ (cs:List Ri) (g:G),gh N cs g→∀ (sc:Ri) (b:Rat),In b sc→∀ (s:ae) (h:ac) (X:Option (Ex × St)),ap 4 [] (aq (ak R (aG false) fh) [0,1,2,3,5,11,12] [11,1000,1001,1002,1003,1004] s h)=X →
  s 0=I f→s 1=I st→s 2=.ref 1000 none 0 0 0→s 3=.ref 1001 none 0 0 0→s 5=.ref 1003 none 0 0 0→s 11=.ref 11 none 0 0 0→s 12=I j→h 11=dL sc→Rh n lo w ds cs p h →
  ∃ hh cs',X=some (.normal,⟨fun _=>.any,hh⟩)∧Rh n lo w ds cs' p hh∧gh N cs' (Ky u (fun j=>f+j*st) k j b g):=by
 intro k;induction k with
 | zero =>
  intro j hk cs g he sc b hb s h X hX g0 g1 g2 g3 g5 g11 g12 k11 ho;subst hX;obtain ⟨k0,k1,k2,k3,k4⟩:=ho;have e1:((j:Int)≤n)=False:=eq_false (by omega);have hg:=(bu ds cs p).cl [11,1000,1001,1002,1003,1004];have hlo:=(dy lo).cl [11,1000,1001,1002,1003,1004];have hw:=(dy w).cl [11,1000,1001,1002,1003,1004];have hs:=(dy sc).cl [11,1000,1001,1002,1003,1004];rw [ai];refine ⟨?hh0,cs,?_,?_,he⟩;rotate_left
  ·simp only [fh,go_sem,am4,am3,am5,am6,am7,g0,g1,g2,g3,g5,g11,g12,k0,k1,k2,k3,k4,k11,hg,hlo,hw,hs,e1];rfl
  ·exact ⟨rfl,rfl,rfl,rfl,rfl⟩
 | succ k ih =>
  intro j hk cs g he sc b hb s h X hX g0 g1 g2 g3 g5 g11 g12 k11 ho;subst hX;obtain ⟨k0,k1,k2,k3,k4⟩:=ho;have hm1:j*st≤n*st:=Nat.mul_le_mul_right _ (by omega);have e1:((j:Int)≤n)=True:=eq_true (by omega);have w1:IntKind.i64.wrap ((j:Int)*st)=((j*st:Nat):Int):=wi (Int.natCast_mul ..).symm (by omega);have w2:IntKind.i64.wrap ((f:Int)+((j*st:Nat):Int))=((f+j*st:Nat):Int):=wi (by omega) (by omega);have w4:IntKind.i64.wrap ((j:Int)+1)=((j+1:Nat):Int):=wi (by omega) (by omega);obtain ⟨x,x1,x2⟩:=he.get (k:=f+j*st) (by omega);have hg:=(bu ds cs p).cl [11,1000,1001,1002,1003,1004];have hlo:=(dy lo).cl [11,1000,1001,1002,1003,1004];have hwo:=(dy w).cl [11,1000,1001,1002,1003,1004];have hs:=(dy sc).cl [11,1000,1001,1002,1003,1004];have cm:=fun (h:ac) (d:Nat) hh hd=>yD (ds:=ds) (cs:=cs) (p:=p) (h:=h) (d:=d) (id:=1004) hb.ok hw.ok hh hd;have pm:=wz (p:=p) hb hw;have ca:=fun (h:ac) (d:Nat) hh hd=>yD (ds:=ds) (cs:=cs) (p:=p) (h:=h) (d:=d) (id:=1004) x2.ok pm.ok hh hd;have pa:=wz (p:=p) x2 pm;have q1:(bB cs)[f+j*st]?=some (aA x):=by unfold bB; rw [List.getElem?_map,x1]; rfl
  have i1:(0≤((f+j*st:Nat):Int))=True:=eq_true (by omega);have i3:(((f+j*st:Nat):Int) < (cs.length:Int))=True:=eq_true (by rw [he.1]; omega);have sr1:∀ u:Ri,nc 7 7 (f+j*st) 0 (aA u) 7 (bB cs)=some (bB (cs.set (f+j*st) u)):=fun u=>Ak (by rw [he.1]; omega);have ih':=ih (j+1) (by omega) _ _ (he.set (k:=f+j*st) pa) _ _ pm;rw [ai];generalize aq _ _ _=L at ih' ⊢;generalize nv sc w p=z at *
  generalize nv x z p=v at *
  simp only [bd,ax,aA] at cm ca;simp only [aA] at q1 sr1;simp only [bd] at k4 hg;simp only [dL] at k2 k3 k11 hlo hwo hs;simp only [fh,go_sem,am4,am3,am5,am6,am7,g0,g1,g2,g3,g5,g11,g12,k0,k1,k2,k3,k4,k11,hg,hlo,hwo,hs,e1];rw [cm _ _ rfl rfl];have fp:=fun (h h':ac) (d:Nat) (x y:Ri)=>TE (h:=h) (h':=h') (d:=d) (id:=1004) (ds:=ds) (cs:=cs) (p:=p) (x:=x) (y:=y) (by decide);simp only [bd,ax,aA] at fp;simp only [go_sem,am4,am3,am5,am6,am7,w1,w2,i1,i3,rn,wA,Int.toNat_natCast,Nat.zero_add,q1];rw [ca _ _ rfl rfl];simp only [go_sem,am4,am3,am5,am6,am7,fp,i1,i3,Int.toNat_natCast,Nat.zero_add,Aj,sr1,w4];exact ih' _ _ _ rfl rfl rfl rfl rfl rfl rfl rfl rfl ⟨rfl,rfl,rfl,rfl,rfl⟩
theorem Hv {n:Nat} {h:ac} {os:List Ob} (hm:(cp n).map h=os) (hc:(os.all fun o=>aM (cp n) o)=true):uS [] n h []=some (.tup [],os):=by
 have h1:((cp n).all fun i=>aM (cp n) (h i))=true:=by
  rw [← hm,List.all_map] at hc;exact hc
 unfold uS;rw [h1,hm];rfl
theorem D7 {f:FuncId} {fd:FD} {args:List AV} {os:List Ob} {α:Type} {r:α→AV × List Ob} {P:α→Prop} (hE:dK.E f=none) (hC:dK.C f=some fd) (hk:dK.md.keep f=false) (h1:args.length=fd.np) (h2:os.length≤1000)
  (hz:∃ a,gx false fd.rs fd.res os.length (ak R (aG false) fd.body (n8 args) (aj os))=some (r a)∧P a):∃ a,R f args os=some (r a)∧P a:=by
 obtain ⟨a,h3,h4⟩:=hz;exact ⟨a,aeg hE hC hk h1 h2 h3,h4⟩
theorem X1 {ds:List Int} {cs:List Ri} {p:Int} {N f st n:Nat} {lo w:Ri} {l u:Rat} {g:G} (hl:In l lo) (hw:In u w) (he:gh N cs g) (hN:f+n*st < N) (hN4:N≤400) (hn:n≤400) :
  ∃ cs',R F.bound_grid_unit_1 [I f,I st,.ref 1000 none 0 0 0,.ref 1001 none 0 0 0,.ref 1002 none 0 0 0,.ref 1003 none 0 0 0] [.bx [I n],.bx [.ref 1004 none 0 0 0],dL lo,dL w,bd ds cs p]=some (.tup [],[.bx [I n],.bx [.ref 1004 none 0 0 0],dL lo,dL w,bd ds cs' p])∧gh N cs' (Hf l u n (fun j=>f+j*st) g):=by
 have h2:=aah (ds:=ds) (p:=p) (w:=w) hl hN hN4 hn n 0 (Nat.zero_add _) cs g he;have h3:=fun (cs:List Ri) (g:G) he=>aai (ds:=ds) (p:=p) (lo:=lo) (n:=n) (st:=st) (f:=f) hw hN hN4 hn n 1 (Nat.add_comm _ _) cs g he ⟨one,one,false⟩ 1 (by rw [← N6]; exact sE kv.1 kv.2);have hi:=Ny;have hp:=jC kv.2 kv.1;refine D7 eX.2.1 eX.2.2 (eX.1.2.2.2 false) rfl (Nat.le_of_ble_eq_true rfl) ?_;have hgo:=(bu ds cs p).cl [1000,1001,1002,1003,1004];have hlo:=(dy lo).cl [1000,1001,1002,1003,1004];have hwo:=(dy w).cl [1000,1001,1002,1003,1004];simp only [ag,am,ax,aA] at hi hp;simp only [rW,sL,Oc,go_sem,am4,am3,am5,am6,am7];generalize hX:ap 0 _ _=X;obtain ⟨hh,cs1,rfl,ho,hd,he1⟩:=h2 _ _ _ hX rfl rfl rfl rfl rfl rfl rfl rfl ⟨rfl,rfl,rfl,rfl,rfl⟩;obtain ⟨k0,k1,k2,k3,k4⟩:=ho;have d1:=hd 2456 (by decide) (by decide) (by decide) (by decide) (by decide);have d2:=hd 2464 (by decide) (by decide) (by decide) (by decide) (by decide);have d3:=hd 11 (by decide) (by decide) (by decide) (by decide) (by decide);simp only [go_sem,am4,am3,am5,am6,am7,hi,hp,d1,d2,d3];generalize hX:ap 4 _ _=X;obtain ⟨hh2,cs2,rfl,ho,he2⟩:=h3 cs1 _ he1 _ _ _ hX rfl rfl rfl rfl rfl rfl rfl rfl ⟨k0,k1,k2,k3,k4⟩;obtain ⟨k0,k1,k2,k3,k4⟩:=ho;refine ⟨cs2,?_,he2⟩;simp only [go_sem,am4,am3,am5,am6,am7];have hp5:cp 5=[1000,1001,1002,1003,1004]:=rfl;refine Hv (by rw [hp5]; simp only [List.map,k0,k1,k2,k3,k4]) ?_;simp only [hp5,List.all_cons,List.all_nil,(bu ds cs2 p).cl,hlo,hwo];rfl
def qS (n:Nat):Rd:=bG false n 0
theorem Rj {n:Nat} (hn:n≤1000):(vd (qS n)=true∧Ok0 (qS n))∧qv (qS n)=n:=by
 have hr:nQ (af (aa (qS n).m)) (qS n).e=true:=by
  unfold qS;by_cases h0:n=0
  ·subst h0;rfl
  ·obtain ⟨g1,g2,g3,g4⟩:=A3 (neg:=false) (e:=0) h0;have hb:af n≤10:=bv.2 (by omega);rw [g1,g2];unfold nQ;simp only [Bool.or_eq_true,Bool.and_eq_true,decide_eq_true_eq];omega
 have hv:vd (qS n)=true:=IW hr;have hb:Lb (qS n).m:=ww false n 0;refine ⟨⟨hv,hb,Nat.lt_of_le_of_lt (Ac hv hb) (by decide)⟩,?_⟩;have hc:gz (qS n)=(qS n,0):=by
  simp_all [gz,if_pos]
 have hz:zI (gz (qS n)).1=_:=NT (q:=n) (u:=0) (by decide) (by grind [gz,qS]);rw [hc] at hz;obtain ⟨N,hN⟩:∃ N:Nat,N=16384:=⟨_,rfl⟩;rw [show ((0:Int)+16384).toNat=N by omega] at hz;unfold qv EQ;rw [hz,← hN,show (((n*2 ^ N:Nat):Int):Rat)=n*pQ N by rw [Int.natCast_mul,Int.natCast_pow,Rat.intCast_mul]; rfl];grind [C1]
theorem V0 {n:Nat} (hn:n≤1000):R F.dyadic_Int [I n] []=some (ag (qS n),[]):=by
 have:=UW (n:=(n:Int)) (by grind [I64]);exact this
def Rk (n:Nat) (ds:List Int) (cs:List Ri) (p:Int) (h:ac):Prop:=h 1000=.bx [I n]∧h 1001=.bx [.ref 1002 none 0 0 0]∧h 1002=bd ds cs p∧h 1003=.dead
theorem ab5 {h h':ac} {d:Nat} {l:List AV} (hl:l.all dat=true):fV h d l h'=some ([],[2000+8*d]):=by
 rw [uA,if_pos hl]
attribute [-go_sem] uA in
theorem aaj {ds:List Int} {p:Int} {N f st n:Nat} (hN:f+n*st < N) (hN4:N≤400) (hn:n≤400):∀ (k j:Nat),j+k=n→∀ (cs:List Ri) (g:G),gh N cs g→∀ (sc:Ri) (b:Rat),In b sc→∀ (s:ae) (h:ac) (X:Option (Ex × St)),ap 0 [0,1,2,3] (aq (ak R (aG false) eP) [0,1,2,3,6,7] [6,1000,1001,1002,1003] s h)=X →
  s 0=I f→s 1=I st→s 2=.ref 1000 none 0 0 0→s 3=.ref 1001 none 0 0 0→s 6=.ref 6 none 0 0 0→s 7=I (j+1:Nat)→h 6=dL sc→Rk n ds cs p h →
  ∃ hh cs',X=some (.normal,⟨upd (upd (upd (upd (fun _=>.any) 3 (.ref 1001 none 0 0 0)) 2 (.ref 1000 none 0 0 0)) 1 (I st)) 0 (I f),hh⟩)∧Rk n ds cs' p hh∧gh N cs' (E6 n (fun j=>f+j*st) k (j+1) b g):=by
 intro k;induction k with
 | zero =>
  intro j hk cs g he sc b hb s h X hX g0 g1 g2 g3 g6 g7 k6 ho;subst hX;obtain ⟨k0,k1,k2,k3⟩:=ho;have e1:(((j+1:Nat):Int)≤n)=False:=eq_false (by omega);have hg:=(bu ds cs p).cl [6,1000,1001,1002,1003];have hs:=(dy sc).cl [6,1000,1001,1002,1003];rw [ai];refine ⟨?hh0,cs,?_,?_,he⟩;rotate_left
  ·simp only [eP,go_sem,am4,am3,am5,am6,am7,g0,g1,g2,g3,g6,g7,k0,k1,k2,k3,k6,hg,hs,e1];rfl
  ·exact ⟨rfl,rfl,rfl,rfl⟩
 | succ k ih =>
  intro j hk cs g he sc b hb s h X hX g0 g1 g2 g3 g6 g7 k6 ho;subst hX;obtain ⟨k0,k1,k2,k3⟩:=ho;have hm1:(j+1)*st≤n*st:=Nat.mul_le_mul_right _ (by omega);have e1:(((j+1:Nat):Int)≤n)=True:=eq_true (by omega);have w0:IntKind.i64.wrap ((n:Int) - ((j+1:Nat):Int))=(k:Int):=wi (by omega) (by omega);have w5:IntKind.i64.wrap ((k:Int)+1)=((k+1:Nat):Int):=wi (by omega) (by omega);have w1:IntKind.i64.wrap (((j+1:Nat):Int)*st)=(((j+1)*st:Nat):Int):=wi (Int.natCast_mul ..).symm (by omega);have w2:IntKind.i64.wrap ((f:Int)+(((j+1)*st:Nat):Int))=((f+(j+1)*st:Nat):Int):=wi (by omega) (by omega);have w4:IntKind.i64.wrap (((j+1:Nat):Int)+1)=((j+1+1:Nat):Int):=wi (by omega) (by omega);obtain ⟨x,x1,x2⟩:=he.get (k:=f+(j+1)*st) (by omega);have hg:=(bu ds cs p).cl [6,1000,1001,1002,1003];have hs:=(dy sc).cl [6,1000,1001,1002,1003];obtain ⟨t1,t2⟩:=Rj (n:=k+1) (by omega);obtain ⟨u1,u2⟩:=Rj (n:=j+1) (by omega);have ci1:=V0 (n:=k+1) (by omega);have ci2:=V0 (n:=j+1) (by omega);have cp1:=jC t1.2 t1.1;have cp2:=jC u1.2 u1.1;have ip1:=sE t1.1 t1.2;have ip2:=sE u1.1 u1.2;rw [t2] at ip1;rw [u2] at ip2;have cm:=fun (h:ac) (d:Nat) hh hd=>yD (ds:=ds) (cs:=cs) (p:=p) (h:=h) (d:=d) (id:=1002) hb.ok ip1.ok hh hd;have pm:=wz (p:=p) hb ip1;have cd:=Q2 pm.ok ip2.ok (p:=p);have pd:=Rb (p:=p) pm ip2;have cd2:=Q2 x2.ok pd.ok (p:=p);have pd2:=Rb (p:=p) x2 pd;have hbe:b*((n:Rat) - (j+1:Nat)+1) / (j+1:Nat)=b*((k+1:Nat):Rat) / ((j+1:Nat):Rat):=by
   have:(n:Rat)=(j+(k+1):Nat):=by rw [hk]
   grind
  have q1:(bB cs)[f+(j+1)*st]?=some (aA x):=by grind [bB]
  have i1:(0≤((f+(j+1)*st:Nat):Int))=True:=eq_true (by omega);have i3:(((f+(j+1)*st:Nat):Int) < (cs.length:Int))=True:=eq_true (by grind);have sr1:∀ u:Ri,nc 7 7 (f+(j+1)*st) 0 (aA u) 7 (bB cs)=some (bB (cs.set (f+(j+1)*st) u)):=fun u=>Ak (by grind);have ih':=ih (j+1) (by omega) _ _ (he.set (k:=f+(j+1)*st) pd2) _ _ pd;have hdv:E6 n (fun j=>f+j*st) (k+1) (j+1) b g=E6 n (fun j=>f+j*st) k (j+1+1) (b*((k+1:Nat):Rat) / ((j+1:Nat):Rat)) (gs g (f+(j+1)*st) (g (f+(j+1)*st) / (b*((k+1:Nat):Rat) / ((j+1:Nat):Rat)))):=by
   rw [← hbe];rfl
  rw [hdv,ai];generalize aq _ _ _=L at ih' ⊢;generalize qS (k+1)=c1 at *
  generalize qS (j+1)=c2 at *
  generalize nv sc ⟨c1,c1,false⟩ p=z at *
  generalize Ji z ⟨c2,c2,false⟩ p=v at *
  generalize Ji x v p=y at *
  simp only [bd,ax,aA] at cm;simp only [ag,am,ax,aA] at ci1 ci2 cp1 cp2 cd cd2;simp only [aA] at q1 sr1;simp only [bd] at k2 hg;simp only [dL] at k6 hs;simp only [eP,go_sem,am4,am3,am5,am6,am7,g0,g1,g2,g3,g6,g7,k0,k1,k2,k3,k6,hg,hs,e1,w0,w5,ci1,cp1];have fp:=fun (h h':ac) (d:Nat) (x y:Ri)=>TE (h:=h) (h':=h') (d:=d) (id:=1002) (ds:=ds) (cs:=cs) (p:=p) (x:=x) (y:=y) (by decide);simp only [bd,ax,aA] at fp;have fp1:=fun (h h':ac) (d:Nat)=>fp h h' d sc ⟨c1,c1,false⟩;rw [cm _ _ rfl rfl];simp only [go_sem,am4,am3,am5,am6,am7,fp1,ab5,ci2,cp2,cd,w1,w2,i1,i3,rn,wA,Int.toNat_natCast,Nat.zero_add,q1,cd2,Aj,sr1,w4];exact ih' _ _ _ rfl rfl rfl rfl rfl rfl rfl rfl ⟨rfl,rfl,rfl,rfl⟩
attribute [-go_sem] uA in
theorem aak {ds:List Int} {p:Int} {N f st n j:Nat} (hN:f+n*st < N) (hN4:N≤400) (hn:n≤400):∀ (k:Nat),j+k≤n→∀ (cs:List Ri) (g:G),gh N cs g→∀ (s:ae) (h:ac) (X:Option (Ex × St)),ap 4 [0,1,2,3,8] (aq (ak R (aG false) dj) [0,1,2,3,8,9] [1000,1001,1002,1003] s h)=X →
  s 0=I f→s 1=I st→s 2=.ref 1000 none 0 0 0→s 3=.ref 1001 none 0 0 0→s 8=I (j+1:Nat)→s 9=I (j+k:Nat)→Rk n ds cs p h →
  ∃ hh cs',X=some (.normal,⟨upd (upd (upd (upd (upd (fun _=>.any) 8 (I (j+1:Nat))) 3 (.ref 1001 none 0 0 0)) 2 (.ref 1000 none 0 0 0)) 1 (I st)) 0 (I f),hh⟩)∧Rk n ds cs' p hh∧gh N cs' (Hd (fun j=>f+j*st) j k g):=by
 intro k;induction k with
 | zero =>
  intro hk cs g he s h X hX g0 g1 g2 g3 g8 g9 ho;subst hX;obtain ⟨k0,k1,k2,k3⟩:=ho;have e1:(((j+1:Nat):Int)≤((j+0:Nat):Int))=False:=eq_false (by omega);have hg:=(bu ds cs p).cl [1000,1001,1002,1003];rw [ai];refine ⟨?hh0,cs,?_,?_,he⟩;rotate_left
  ·simp only [dj,go_sem,am4,am3,am5,am6,am7,g0,g1,g2,g3,g8,g9,k0,k1,k2,k3,hg,e1];rfl
  ·exact ⟨rfl,rfl,rfl,rfl⟩
 | succ k ih =>
  intro hk cs g he s h X hX g0 g1 g2 g3 g8 g9 ho;subst hX;obtain ⟨k0,k1,k2,k3⟩:=ho;have hm1:(j+k+1)*st≤n*st:=Nat.mul_le_mul_right _ (by omega);have hs2:(j+k+1)*st=(j+k)*st+st:=by grind
  have e1:(((j+1:Nat):Int)≤((j+(k+1):Nat):Int))=True:=eq_true (by omega);have w0:IntKind.i64.wrap (((j+(k+1):Nat):Int) - 1)=((j+k:Nat):Int):=wi (by omega) (by omega);have w1:IntKind.i64.wrap (((j+(k+1):Nat):Int)*st)=(((j+k+1)*st:Nat):Int):=wi (Int.natCast_mul ..).symm (by omega);have w2:IntKind.i64.wrap ((f:Int)+(((j+k+1)*st:Nat):Int))=((f+(j+k+1)*st:Nat):Int):=wi (by omega) (by omega);have w3:IntKind.i64.wrap (((j+k:Nat):Int)*st)=(((j+k)*st:Nat):Int):=wi (Int.natCast_mul ..).symm (by omega);have w4:IntKind.i64.wrap ((f:Int)+(((j+k)*st:Nat):Int))=((f+(j+k)*st:Nat):Int):=wi (by omega) (by omega);obtain ⟨x,x1,x2⟩:=he.get (k:=f+(j+k+1)*st) (by omega);obtain ⟨y,y1,y2⟩:=he.get (k:=f+(j+k)*st) (by omega);have hg:=(bu ds cs p).cl [1000,1001,1002,1003];have ca:=fun (h:ac) (d:Nat) hh hd=>KD (ds:=ds) (cs:=cs) (p:=p) (h:=h) (d:=d) (id:=1002) x2.ok y2.ok hh hd;have pa:=DZ (p:=p) x2 y2;have q1:(bB cs)[f+(j+k+1)*st]?=some (aA x):=by grind [bB]
  have q2:(bB cs)[f+(j+k)*st]?=some (aA y):=by grind [bB]
  have i1:(0≤((f+(j+k+1)*st:Nat):Int))=True:=eq_true (by omega);have i2:(0≤((f+(j+k)*st:Nat):Int))=True:=eq_true (by omega);have i3:(((f+(j+k+1)*st:Nat):Int) < (cs.length:Int))=True:=eq_true (by grind);have i4:(((f+(j+k)*st:Nat):Int) < (cs.length:Int))=True:=eq_true (by grind);have sr1:∀ u:Ri,nc 7 7 (f+(j+k+1)*st) 0 (aA u) 7 (bB cs)=some (bB (cs.set (f+(j+k+1)*st) u)):=fun u=>Ak (by grind);have ih':=ih (by omega) _ _ (he.set (k:=f+(j+k+1)*st) pa);have fp:=fun (h h':ac) (d:Nat) (x y:Ri)=>TE (h:=h) (h':=h') (d:=d) (id:=1002) (ds:=ds) (cs:=cs) (p:=p) (x:=x) (y:=y) (by decide);simp only [bd,ax,aA] at fp;rw [ai];generalize aq _ _ _=L at ih' ⊢;generalize oP x y p=z at *
  simp only [bd,ax,aA] at ca;simp only [aA] at q1 q2 sr1;simp only [bd] at k2 hg;simp only [dj,go_sem,am4,am3,am5,am6,am7,g0,g1,g2,g3,g8,g9,k0,k1,k2,k3,hg,e1,w0,w1,w2,w3,w4,i1,i2,i3,i4,rn,wA,Int.toNat_natCast,Nat.zero_add,q1,q2];rw [ca _ _ rfl rfl];simp only [go_sem,am4,am3,am5,am6,am7,fp,w0,i1,i3,Int.toNat_natCast,Nat.zero_add,Aj,sr1];exact ih' _ _ _ rfl rfl rfl rfl rfl rfl rfl ⟨rfl,rfl,rfl,rfl⟩
theorem aal {ds:List Int} {p:Int} {N f st n:Nat} (hN:f+n*st < N) (hN4:N≤400) (hn:n≤400):∀ (k j:Nat),j+k=n→∀ (cs:List Ri) (g:G),gh N cs g→∀ (s:ae) (h:ac) (X:Option (Ex × St)),ap 2 [] (aq (ak R (aG false) eO) [0,1,2,3,8] [1000,1001,1002,1003] s h)=X →
  s 0=I f→s 1=I st→s 2=.ref 1000 none 0 0 0→s 3=.ref 1001 none 0 0 0→s 8=I (j+1:Nat)→Rk n ds cs p h →
  ∃ hh cs',X=some (.normal,⟨fun _=>.any,hh⟩)∧Rk n ds cs' p hh∧gh N cs' (He (fun j=>f+j*st) k j g):=by
 intro k;induction k with
 | zero =>
  intro j hk cs g he s h X hX g0 g1 g2 g3 g8 ho;subst hX;obtain ⟨k0,k1,k2,k3⟩:=ho;have e1:(((j+1:Nat):Int)≤n)=False:=eq_false (by omega);have hg:=(bu ds cs p).cl [1000,1001,1002,1003];rw [ai];refine ⟨?hh0,cs,?_,?_,he⟩;rotate_left
  ·simp only [eO,go_sem,am4,am3,am5,am6,am7,g0,g1,g2,g3,g8,k0,k1,k2,k3,hg,e1];rfl
  ·exact ⟨rfl,rfl,rfl,rfl⟩
 | succ k ih =>
  intro j hk cs g he s h X hX g0 g1 g2 g3 g8 ho;subst hX;obtain ⟨k0,k1,k2,k3⟩:=ho;have e1:(((j+1:Nat):Int)≤n)=True:=eq_true (by omega);have w2:IntKind.i64.wrap (((j+1:Nat):Int)+1)=((j+1+1:Nat):Int):=wi (by omega) (by omega);have hg:=(bu ds cs p).cl [1000,1001,1002,1003];have hu:=aak (ds:=ds) (p:=p) hN hN4 hn (j:=j) (k+1) (by omega) cs g he;have ih':=ih (j+1) (by omega);rw [ai];simp only [eO,go_sem,am4,am3,am5,am6,am7,g0,g1,g2,g3,g8,k0,k1,k2,k3,hg,e1];generalize hX:ap 4 _ _=X;obtain ⟨hh,cs',rfl,ho2,he2⟩:=hu _ _ _ hX rfl rfl rfl rfl rfl (by rw [hk]; rfl) ⟨rfl,rfl,rfl,rfl⟩;simp only [go_sem,am4,am3,am5,am6,am7,w2];exact ih' cs' _ he2 _ _ _ rfl rfl rfl rfl rfl rfl ho2
theorem X3 {ds:List Int} {cs:List Ri} {p:Int} {N f st n:Nat} {g:G} (he:gh N cs g) (hN:f+n*st < N) (hN4:N≤400) (hn:n≤400) :
  ∃ cs',R F.bound_grid_bernstein_1 [I f,I st,.ref 1000 none 0 0 0,.ref 1001 none 0 0 0] [.bx [I n],.bx [.ref 1002 none 0 0 0],bd ds cs p]=some (.tup [],[.bx [I n],.bx [.ref 1002 none 0 0 0],bd ds cs' p])∧gh N cs' (Hg n (fun j=>f+j*st) g):=by
 have h2:=aaj (ds:=ds) (p:=p) hN hN4 hn n 0 (Nat.zero_add _) cs g he ⟨one,one,false⟩ 1 (by rw [← N6]; exact sE kv.1 kv.2);have h3:=fun (cs:List Ri) (g:G) he=>aal (ds:=ds) (p:=p) (n:=n) (st:=st) (f:=f) hN hN4 hn n 0 (Nat.zero_add _) cs g he;have hi:=Ny;have hp:=jC kv.2 kv.1;refine D7 de.2.1 de.2.2 (de.1.2.2.2 false) rfl (Nat.le_of_ble_eq_true rfl) ?_;simp only [ag,am,ax,aA] at hi hp;simp only [nI,oF,Od,go_sem,am4,am3,am5,am6,am7,hi,hp];generalize hX:ap 0 _ _=X;obtain ⟨hh,cs1,rfl,ho,he1⟩:=h2 _ _ _ hX rfl rfl rfl rfl rfl rfl rfl ⟨rfl,rfl,rfl,rfl⟩;obtain ⟨k0,k1,k2,k3⟩:=ho;simp only [go_sem,am4,am3,am5,am6,am7];generalize hX:ap 2 _ _=X;obtain ⟨hh2,cs2,rfl,ho,he2⟩:=h3 cs1 _ he1 _ _ _ hX rfl rfl rfl rfl rfl ⟨k0,k1,k2,k3⟩;obtain ⟨k0,k1,k2,k3⟩:=ho;refine ⟨cs2,?_,he2⟩;have hp3:cp 3=[1000,1001,1002]:=rfl;refine Hv (by grind) ?_;rfl
noncomputable def uO:Cmd:=.ops [0,1,2,6,15,16] [cm 32 2,cm 33 7,cm 34 6,⟨(some 35),none,.call (.t 32) [.t 33,.t 34]⟩]
theorem xQ:lz=.seq (.ops [0,1,2,6,15,16,17] [b2 17 .lss 16 15]) (.seq (.cond (.t 17) (.skip) (.exit 0)) (.seq (.block 1 [0,1,2,6,15,16] (.seq (.ops [0,1,2,6,7,15,16] [cm 18 16,cm 7 18]) (.seq (.dops [0,1,2,6,7,15,16,31] [cm 19 7,cm 20 6,b2 21 .quo 19 20,cm 22 0,nk 23 22,fa 24 0 23,ld 25 1 24,cm 26 1,co 27 (.iadrS 1 (.t 25) (.t 26)),ld 28 1 27,co 29 (.bin .add (.t 28) (.c (I 1))),b2 30 .rem 21 29,co 31 (.bin .eql (.t 30) (.c (I 0)))] []) (.cond (.t 31) uO (.skip))))) (.ops [0,1,2,6,15,16] [co 36 (.bin .add (.t 16) (.c (I 1))),cm 16 36]))):=rfl
structure LnO (cl:AV) (ds:List Int) (p:Int) (N k st n:Nat) (op:Nat→G→G) (o1 o2 o3 o4:Ob):Prop where
 c1:aM [1000,1001,1002,1003,1004] o1=true
 c2:aM [1000,1001,1002,1003,1004] o2=true
 c3:aM [1000,1001,1002,1003,1004] o3=true
 c4:aM [1000,1001,1002,1003,1004] o4=true
 c5:aaL [1000,1001,1002,1003,1004] cl=cl
 run:∀ (f:Nat) (cs:List Ri) (g:G),gh N cs g→f < N→f / st % (n+1)=0→∀ (s:ae) (h:ac) (X:Option (Ex × St)),ak R (aG false) uO s h=X→s 0=.ref 1000 none 0 0 0→s 1=I k→s 2=cl→s 6=I st→s 7=I f→s 15=I N→s 16=I f→h 1000=bd ds cs p→h 1001=o1→h 1002=o2→h 1003=o3→h 1004=o4→h 2280=.dead →
  ∃ cs' hh,X=some (.normal,⟨upd (upd (upd (upd (upd (upd (fun _=>.any) 16 (I f)) 15 (I N)) 6 (I st)) 2 cl) 1 (I k)) 0 (.ref 1000 none 0 0 0),hh⟩)∧hh 1000=bd ds cs' p∧hh 1001=o1∧hh 1002=o2∧hh 1003=o3∧hh 1004=o4∧gh N cs' (op f g)
theorem Hw {cl:AV} {ds:List Int} {p:Int} {N k st n:Nat} {op:Nat→G→G} {o1 o2 o3 o4:Ob} (L:LnO cl ds p N k st n op o1 o2 o3 o4) (hN4:N≤400) (hs:0 < st) (hst:st≤400) (hn:n≤400) (hk:ds[k]?=some (n:Int)) :
  ∀ (m i:Nat),i+m=N→∀ (cs:List Ri) (g:G),gh N cs g→∀ (s:ae) (h:ac) (X:Option (Ex × St)),ap 0 [] (aq (ak R (aG false) lz) [0,1,2,6,15,16] [1000,1001,1002,1003,1004] s h)=X →
  s 0=.ref 1000 none 0 0 0→s 1=I k→s 2=cl→s 6=I st→s 15=I N→s 16=I i→h 1000=bd ds cs p→h 1001=o1→h 1002=o2→h 1003=o3→h 1004=o4 →
  ∃ cs' hh,X=some (.normal,⟨fun _=>.any,hh⟩)∧hh 1000=bd ds cs' p∧hh 1001=o1∧hh 1002=o2∧hh 1003=o3∧hh 1004=o4∧gh N cs' (ps op st n m i g):=by
 obtain ⟨c1,c2,c3,c4,c5,lr⟩:=L;intro m;induction m with
 | zero =>
  intro i hm cs g he s h X hX g0 g1 g2 g6 g15 g16 k0 k1 k2 k3 k4;subst hX;have e1:((i:Int) < N)=False:=eq_false (by omega);have hg:=(bu ds cs p).cl [1000,1001,1002,1003,1004];rw [ai];refine ⟨cs,?hh0,?_,?_,?_,?_,?_,?_,he⟩;rotate_left
  ·simp only [xQ,go_sem,am4,am3,am5,am6,am7,g0,g1,g2,g6,g15,g16,k0,k1,k2,k3,k4,hg,c1,c2,c3,c4,c5,e1];rfl
  all_goals rfl
 | succ m ih =>
  intro i hm cs g he s h X hX g0 g1 g2 g6 g15 g16 k0 k1 k2 k3 k4;subst hX;have e1:((i:Int) < N)=True:=eq_true (by omega);have hg:=(bu ds cs p).cl [1000,1001,1002,1003,1004];have w1:IntKind.i64.wrap (Int.tdiv (i:Int) st)=((i / st:Nat):Int):=by
   have:=Nat.div_le_self i st;grind [wi]
  have w2:IntKind.i64.wrap ((n:Int)+1)=((n+1:Nat):Int):=wi (by omega) (by omega);have w4:IntKind.i64.wrap ((i:Int)+1)=((i+1:Nat):Int):=wi (by omega) (by omega);have d1:((st:Int)=0)=False:=eq_false (by omega);have d2:(((n+1:Nat):Int)=0)=False:=eq_false (by omega);have hr:=lr i cs g he (by omega);have ih':=ih (i+1) (by omega);have hps:ps op st n (m+1) i g=ps op st n m (i+1) (if i / st % (n+1)=0 then op i g else g):=rfl;rw [hps,ai];generalize aq _ _ _=L at ih' ⊢;have hkl:k < ds.length:=(List.getElem?_eq_some_iff.1 hk).1;have i1:(0≤(k:Int))=True:=eq_true (by omega);have i2:((k:Int) < (ds.length:Int))=True:=eq_true (by omega);have q1:(bw ds)[k]?=some [I n]:=by grind [bw]
  by_cases h0:i / st % (n+1)=0
  ·have e2:(Int.tmod ((i / st:Nat):Int) ((n+1:Nat):Int)=0)=True:=eq_true (by grind);rw [if_pos h0];have hr:=hr h0;simp only [bd] at k0 hg;simp only [xQ,go_sem,am4,am3,am5,am6,am7,g0,g1,g2,g6,g15,g16,k0,k1,k2,k3,k4,hg,c1,c2,c3,c4,c5,e1,e2,w1,w2,d1,d2,lP,rl,q1,i1,i2,Int.toNat_natCast,Nat.zero_add];generalize hX:ak R (aG false) uO _ _=X;obtain ⟨cs',hh,rfl,r0,r1,r2,r3,r4,he2⟩:=hr _ _ _ hX rfl rfl rfl rfl rfl rfl rfl rfl rfl rfl rfl rfl rfl;simp only [go_sem,am4,am3,am5,am6,am7,w4,c5];exact ih' cs' _ he2 _ _ _ rfl rfl rfl rfl rfl rfl rfl r0 r1 r2 r3 r4
  ·have e2:(Int.tmod ((i / st:Nat):Int) ((n+1:Nat):Int)=0)=False:=eq_false (by grind);rw [if_neg h0];simp only [bd] at k0 hg;simp only [xQ,go_sem,am4,am3,am5,am6,am7,g0,g1,g2,g6,g15,g16,k0,k1,k2,k3,k4,hg,c1,c2,c3,c4,c5,e1,e2,w1,w2,w4,d1,d2,lP,rl,q1,i1,i2,Int.toNat_natCast,Nat.zero_add];exact ih' cs g he _ _ _ rfl rfl rfl rfl rfl rfl rfl rfl rfl rfl rfl rfl
def dI (l:List Nat):List Int:=l.map Int.ofNat
def be:List Nat→Nat→Nat
 | [],n=>n
 | d::l,n=>be l (n*(d+1))
theorem D8:∀ (ds:List Nat) (n:Nat),FY (dI ds) (n:Int)=(be ds n:Nat)
 | [],_=>rfl
 | d::ds,n=>by
  show FY (dI ds) ((n:Int)*(Int.ofNat d+1))=(be ds (n*(d+1)):Nat);rw [← D8 ds (n*(d+1)),Int.natCast_mul];rfl
theorem jF:∀ (ds:List Nat) (n:Nat),0 < n→n≤be ds n
 | [],_,_=>Nat.le_refl _
 | d::ds,n,h=>Nat.le_trans (Nat.le_mul_of_pos_right n (Nat.succ_pos d)) (jF ds _ (Nat.mul_pos h (Nat.succ_pos d)))
theorem FZ:∀ (ds:List Nat) (n:Nat),be ds n=n*be ds 1
 | [],n=>(Nat.mul_one n).symm
 | d::ds,n=>by
  show be ds (n*(d+1))=n*be ds (1*(d+1));rw [FZ ds (n*(d+1)),FZ ds (1*(d+1)),Nat.one_mul,Nat.mul_assoc]
theorem Bh:∀ (ds:List Nat) (k n d:Nat),ds[k]?=some d→be ds n=be (ds.take k) n*(d+1)*be (ds.drop (k+1)) 1
 | d'::ds,0,n,d,h=>by
  have:d'=d:=by grind
  subst this;exact FZ ds _
 | d'::ds,k+1,n,d,h=>Bh ds k (n*(d'+1)) d (by grind)
 | [],_,_,_,h=>by grind
theorem Rl {N st n H f:Nat} (hN:N=st*(n+1)*H) (hs:0 < st) (hf:f < N) (h0:f / st % (n+1)=0):f+n*st < N:=by
 have h1:=Nat.div_add_mod f st;have h2:=Nat.mod_lt f hs;have h3:=Nat.div_add_mod (f / st) (n+1);rw [h0,Nat.add_zero] at h3;generalize f / st / (n+1)=q at *
 have h4:q < H:=by
  refine Nat.lt_of_mul_lt_mul_left (a:=st*(n+1)) ?_;rw [← hN,Nat.mul_assoc,h3];omega
 have h5:st*(n+1)*(q+1)≤N:=by
  rw [hN];exact Nat.mul_le_mul_left _ h4
 rw [← h3] at h1;grind
theorem V1 {dn:List Nat} {cs:List Ri} {p:Int} {k n:Nat} {lo w:Ri} {l u:Rat} {g:G} (hl:In l lo) (hw:In u w) (hk:dn[k]?=some n) (h8:dn.length≤8) (hb:∀ d ∈ dn,d≤32) (hN4:be dn 1≤400) (he:gh (be dn 1) cs g) :
  ∃ cs',R F.bound_grid_lines [.ref 1000 none 0 0 0,I k,.fn F.bound_grid_unit_1 [] [.ref 1001 none 0 0 0,.ref 1002 none 0 0 0,.ref 1003 none 0 0 0,.ref 1004 none 0 0 0]] [bd (dI dn) cs p,.bx [I n],.bx [.ref 1000 none 0 0 0],dL lo,dL w]=some (.tup [],[bd (dI dn) cs' p,.bx [I n],.bx [.ref 1000 none 0 0 0],dL lo,dL w]) ∧
   gh (be dn 1) cs' (ps (fun f=>Hf l u n (fun j=>f+j*be (dn.take k) 1)) (be (dn.take k) 1) n (be dn 1) 0 g):=by
 have hkl:k < dn.length:=(List.getElem?_eq_some_iff.1 hk).1;have hn:n≤32:=hb n (List.mem_of_getElem? hk);have hbI:∀ d ∈ dI dn,0≤d∧d≤32:=fun d hd=>by
  obtain ⟨x,hx,rfl⟩:=List.mem_map.1 hd;grind
 have hsp:=Bh dn k 1 n hk;have hs0:=jF (dn.take k) 1 (by decide);have hst:be (dn.take k) 1≤400:=by
  refine Nat.le_trans ?_ hN4;rw [hsp,Nat.mul_assoc];exact Nat.le_mul_of_pos_right _ (Nat.mul_pos (Nat.succ_pos n) (jF _ 1 (by decide)))
 have hstep:=fun (h:ac) (d:Nat) (hh:h 1000=bd (dI dn) cs p) (hd:h (2000+8*d)=.dead)=>oT (iO false) rfl (Db (m:=k) (by grind [dI]) (by omega) hbI (d:=d) hh hd);rw [show (dI dn).take k=dI (dn.take k) from (List.map_take ..).symm,show (1:Int)=((1:Nat):Int) from rfl,D8] at hstep;generalize be (dn.take k) 1=st at *
 generalize be dn 1=N at *
 have L:LnO (.fn F.bound_grid_unit_1 [] [.ref 1001 none 0 0 0,.ref 1002 none 0 0 0,.ref 1003 none 0 0 0,.ref 1004 none 0 0 0]) (dI dn) p N k st n (fun f=>Hf l u n (fun j=>f+j*st)) (.bx [I n]) (.bx [.ref 1000 none 0 0 0]) (dL lo) (dL w):=by
  refine ⟨rfl,rfl,(dy lo).cl _,(dy w).cl _,rfl,?_⟩;intro f cs g he hf h0 s h X hX g0 g1 g2 g6 g7 g15 g16 k0 k1 k2 k3 k4 kd;subst hX;obtain ⟨cs',hR,he'⟩:=X1 (ds:=dI dn) (p:=p) hl hw he (Rl hsp (by omega) hf h0) hN4 (by omega);have hc:=TB hR (d:=35) k0 k1 k2 k3 k4 kd;refine ⟨cs',?hh0,?_,?_,?_,?_,?_,?_,he'⟩;rotate_left
  ·simp only [uO,go_sem,am4,am3,am5,am6,am7,g0,g1,g2,g6,g7,g15,g16,hc];rfl
  all_goals rfl
 refine D7 bA.2.1 bA.2.2 (bA.1.2.2.2 false) rfl (Nat.le_of_ble_eq_true rfl) ?_;have hll:=Hw L hN4 (by omega) hst (by omega) (by grind [dI]) N 0 (Nat.zero_add _) cs g he;simp only [nn,oE,Oc,go_sem,am4,am3,am5,am6,am7];rw [hstep _ _ rfl rfl];have hlen:(cs.length:Int)=N:=by rw [he.1]
 have hgo:=(bu (dI dn) cs p).cl [1000,1001,1002,1003,1004];simp only [bd] at hgo ⊢;simp only [go_sem,am4,am3,am5,am6,am7,hlen,hgo,(dy lo).cl,(dy w).cl];generalize hX:ap 0 _ _=X;obtain ⟨cs',hh,rfl,k0,k1,k2,k3,k4,he2⟩:=hll _ _ _ hX rfl rfl rfl rfl rfl rfl rfl rfl rfl rfl rfl;refine ⟨cs',?_,he2⟩;have hp5:cp 5=[1000,1001,1002,1003,1004]:=rfl;refine Hv (by grind [List.map,bd]) ?_;rfl
theorem V3 {dn:List Nat} {cs:List Ri} {p:Int} {k n:Nat} {g:G} (hk:dn[k]?=some n) (h8:dn.length≤8) (hb:∀ d ∈ dn,d≤32) (hN4:be dn 1≤400) (he:gh (be dn 1) cs g) :
  ∃ cs',R F.bound_grid_lines [.ref 1000 none 0 0 0,I k,.fn F.bound_grid_bernstein_1 [] [.ref 1001 none 0 0 0,.ref 1002 none 0 0 0]] [bd (dI dn) cs p,.bx [I n],.bx [.ref 1000 none 0 0 0]]=some (.tup [],[bd (dI dn) cs' p,.bx [I n],.bx [.ref 1000 none 0 0 0]]) ∧
   gh (be dn 1) cs' (ps (fun f=>Hg n (fun j=>f+j*be (dn.take k) 1)) (be (dn.take k) 1) n (be dn 1) 0 g):=by
 have hkl:k < dn.length:=(List.getElem?_eq_some_iff.1 hk).1;have hn:n≤32:=hb n (List.mem_of_getElem? hk);have hbI:∀ d ∈ dI dn,0≤d∧d≤32:=fun d hd=>by
  obtain ⟨x,hx,rfl⟩:=List.mem_map.1 hd;grind
 have hsp:=Bh dn k 1 n hk;have hs0:=jF (dn.take k) 1 (by decide);have hst:be (dn.take k) 1≤400:=by
  refine Nat.le_trans ?_ hN4;rw [hsp,Nat.mul_assoc];exact Nat.le_mul_of_pos_right _ (Nat.mul_pos (Nat.succ_pos n) (jF _ 1 (by decide)))
 have hstep:=fun (h:ac) (d:Nat) (hh:h 1000=bd (dI dn) cs p) (hd:h (2000+8*d)=.dead)=>oT (iO false) rfl (Db (m:=k) (by grind [dI]) (by omega) hbI (d:=d) hh hd);rw [show (dI dn).take k=dI (dn.take k) from (List.map_take ..).symm,show (1:Int)=((1:Nat):Int) from rfl,D8] at hstep;generalize be (dn.take k) 1=st at *
 generalize be dn 1=N at *
 have L:LnO (.fn F.bound_grid_bernstein_1 [] [.ref 1001 none 0 0 0,.ref 1002 none 0 0 0]) (dI dn) p N k st n (fun f=>Hg n (fun j=>f+j*st)) (.bx [I n]) (.bx [.ref 1000 none 0 0 0]) .dead .dead:=by
  refine ⟨rfl,rfl,rfl,rfl,rfl,?_⟩;intro f cs g he hf h0 s h X hX g0 g1 g2 g6 g7 g15 g16 k0 k1 k2 k3 k4 kd;subst hX;obtain ⟨cs',hR,he'⟩:=X3 (ds:=dI dn) (p:=p) he (Rl hsp (by omega) hf h0) hN4 (by omega);have hc:=TC hR (d:=35) k0 k1 k2 kd;refine ⟨cs',?hh0,?_,?_,?_,?_,?_,?_,he'⟩;rotate_left
  ·simp only [uO,go_sem,am4,am3,am5,am6,am7,g0,g1,g2,g6,g7,g15,g16,hc];rfl
  all_goals first | rfl | assumption
 refine D7 bA.2.1 bA.2.2 (bA.1.2.2.2 false) rfl (Nat.le_of_ble_eq_true rfl) ?_;have hll:=Hw L hN4 (by omega) hst (by omega) (by grind [dI]) N 0 (Nat.zero_add _) cs g he;simp only [nn,oE,Od,go_sem,am4,am3,am5,am6,am7];rw [hstep _ _ rfl rfl];have hlen:(cs.length:Int)=N:=by rw [he.1]
 have hgo:=(bu (dI dn) cs p).cl [1000,1001,1002,1003,1004];simp only [bd] at hgo ⊢;simp only [go_sem,am4,am3,am5,am6,am7,hlen,hgo];generalize hX:ap 0 _ _=X;obtain ⟨cs',hh,rfl,k0,k1,k2,k3,k4,he2⟩:=hll _ _ _ hX rfl rfl rfl rfl rfl rfl rfl rfl rfl rfl rfl;refine ⟨cs',?_,he2⟩;have hp5:cp 3=[1000,1001,1002]:=rfl;refine Hv (by grind [List.map,bd]) ?_;rfl
theorem aam {dn:List Nat} {cs:List Ri} {p:Int} {k n:Nat} {g:G} (hk:dn[k]?=some n) (h8:dn.length≤8) (hb:∀ d ∈ dn,d≤32) (hN4:be dn 1≤400) (he:gh (be dn 1) cs g) :
  ∃ cs',R F.bound_grid_bernstein [.ref 1000 none 0 0 0,I k] [bd (dI dn) cs p]=some (.tup [],[bd (dI dn) cs' p])∧gh (be dn 1) cs' (ps (fun f=>Hg n (fun j=>f+j*be (dn.take k) 1)) (be (dn.take k) 1) n (be dn 1) 0 g):=by
 obtain ⟨cs',hR,he'⟩:=V3 (p:=p) hk h8 hb hN4 he;refine ⟨cs',Tp fk.2.1 fk.2.2 (fk.1.2.2.2 false) rfl ?_,he'⟩;have e3:(bw (dI dn))[k]?=some [I n]:=by grind [bw,dI]
 have e7:(0≤(k:Int))=True:=eq_true (by omega);have e8:((k:Int) < ((dI dn).length:Int))=True:=eq_true (by grind [dI]);have hl:=fun (h:ac) (d:Nat) h0 h1 h2 hf=>Oe (bA.1.2.1 false) rfl (Hu hR (h:=h) (d:=d) h0 h1 h2 hf);simp only [bd] at hl ⊢;simp only [pG,qg,go_sem,am4,am3,am5,am6,am7,Nat.zero_add];rw [VZ (cs:=[.osl 1 (bw (dI dn)),.osl 7 (bB cs),I p]) rfl rfl];simp only [go_sem,am4,am3,am5,am6,am7,e3,e7,e8,rm,Int.toNat_natCast,Nat.zero_add,lP,rl];rw [hl _ _ rfl rfl rfl rfl];rfl
theorem aan {dn:List Nat} {cs:List Ri} {p:Int} {k n:Nat} {b:Ri} {g:G} (vl:vd b.lo=true∧Ok0 b.lo) (vh:vd b.hi=true∧Ok0 b.hi) (hk:dn[k]?=some n) (h8:dn.length≤8) (hb:∀ d ∈ dn,d≤32) (hN4:be dn 1≤400) (he:gh (be dn 1) cs g) :
  ∃ cs',R F.bound_grid_unit [.ref 1000 none 0 0 0,I k,ax b] [bd (dI dn) cs p]=some (.tup [],[bd (dI dn) cs' p])∧gh (be dn 1) cs' (ps (fun f=>Hf (qv b.lo) (qv b.hi - qv b.lo) n (fun j=>f+j*be (dn.take k) 1)) (be (dn.take k) 1) n (be dn 1) 0 g):=by
 have i1:=sE vl.1 vl.2;have i2:=sE vh.1 vh.2;have i3:=Z7 (p:=p) i2 i1;obtain ⟨cs',hR,he'⟩:=V1 (p:=p) i1 i3 hk h8 hb hN4 he;refine ⟨cs',Tp iN.2.1 iN.2.2 (iN.1.2.2.2 false) rfl ?_,he'⟩;have e3:(bw (dI dn))[k]?=some [I n]:=by grind [bw,dI]
 have e7:(0≤(k:Int))=True:=eq_true (by omega);have e8:((k:Int) < ((dI dn).length:Int))=True:=eq_true (by grind [dI]);have hl:=fun (h:ac) (d:Nat) h0 h1 h2 h3 h4 hf=>Oe (bA.1.2.1 false) rfl (Ht hR (h:=h) (d:=d) h0 h1 h2 h3 h4 hf);have p1:=jC vl.2 vl.1;have p2:=jC vh.2 vh.1;have p3:=Z4 i2.ok i1.ok (p:=p);simp only [bd,dL] at hl ⊢;simp only [ag,am,ax,aA] at p1 p2 p3;simp only [uB,vF,ax,aA,go_sem,am4,am3,am5,am6,am7,Nat.zero_add];rw [VZ (cs:=[.osl 1 (bw (dI dn)),.osl 7 (bB cs),I p]) rfl rfl];simp only [go_sem,am4,am3,am5,am6,am7,e3,e7,e8,rm,Int.toNat_natCast,Nat.zero_add,lP,rl,p1,p2,p3];rw [hl _ _ rfl rfl rfl rfl rfl rfl];rfl
theorem X4 {n:Nat} (hn:n≤400):R F.bits_Mul64 [W 1,W n] []=some (.tup [W 0,W n],[]):=by
 refine aE anD rfl ?_;have a1:cK .and (W 1) (W 4294967295)=some (W 1):=rfl;have a2:cK .and (W n) (W 4294967295)=some (W n):=by
  rw [xK rfl (by omega),Nat.mod_eq_of_lt (by omega)]
 have s1:cK .shr (W 1) (W 32)=some (W 0):=rfl;have s2:cK .shr (W n) (W 32)=some (W 0):=(mr (i:=(n:Int)) (j:=32) (k:=32) rfl rfl (by decide)).trans (by grind);have s3:cK .shr (W 0) (W 32)=some (W 0):=rfl;have a3:cK .and (W 0) (W 4294967295)=some (W 0):=rfl;have w1:IntKind.u64.wrap (1*(n:Int))=n:=cI (by omega) (by omega);have w2:IntKind.u64.wrap (0*(n:Int))=0:=by rw [Int.zero_mul]; rfl
 have w3:IntKind.u64.wrap ((0:Int)+0)=0:=rfl;have w4:IntKind.u64.wrap ((1:Int)*0)=0:=rfl;have w5:IntKind.u64.wrap ((0:Int)*0)=0:=rfl;simp only [BF,Cy,go_sem,am4,am3,am5,am6,am7,a1,a2,a3,s1,s2,s3,w1,w2,w3,w4,w5]
theorem aao {n:Nat} (hn:n≤400):R F.bits_Mul [W 1,W n] []=some (.tup [W 0,W n],[]):=by
 refine aE anH rfl ?_;have h:=X4 hn;simp only [EM,GJ,go_sem,am4,am3,am5,am6,am7,h]
theorem X5 {X Z:List AV} {N:Nat} (hN:N≤400) (c:List Bool):∀ (k m:Nat),N - m≤k→1≤m→m≤N→∀ (s:ae) (h:ac) (Y:Option (Ex × St)),ap 0 [7] (aq (ak R (aG false) bP) [7,8] [30] s h)=Y →
  s 7=.rsl 30 none 7 0 N→s 8=I m→h 30=.ar 7 (List.replicate m X++List.replicate (N - m) Z) →
  ∃ hh,Y=some (.normal,⟨upd (fun _=>.any) 7 (.rsl 30 none 7 0 N),hh⟩)∧hh 30=.ar 7 (List.replicate N X):=by
 intro k;induction k with
 | zero =>
  intro m hk h1 hm s h Y hY g7 g8 k30;subst hY;have e:m=N:=by omega
  subst e;have e1:((m:Int) < m)=False:=eq_false (by omega);rw [Nat.sub_self,List.replicate_zero,List.append_nil] at k30;rw [ai];refine ⟨?hh0,?_,?_⟩;rotate_left
  ·simp only [bP,go_sem,am4,am3,am5,am6,am7,g7,g8,k30,e1];rfl
  ·rfl
 | succ k ih =>
  intro m hk h1 hm s h Y hY g7 g8 k30;by_cases hq:m=N
  ·exact ih m (by omega) h1 hm s h Y hY g7 g8 k30
  subst hY;have e1:((m:Int) < N)=True:=eq_true (by omega);have e2:eu 7 (.rsl 30 none 7 0 N) (some (I (m:Int))) none none=some (.rsl 30 none 7 m (N - m)):=by grind [eu,kw,jK]
  have e3:eu 7 (.rsl 30 none 7 0 N) none (some (I (m:Int))) none=some (.rsl 30 none 7 0 m):=by grind [eu,kw,jK]
  obtain ⟨q,hq2⟩:∃ q,min (N - m) m=q:=⟨_,rfl⟩;have hq3:min m (N - m)=q:=by omega
  have ih':=ih (m+q) (by omega) (by omega) (by omega);have hl:(List.replicate m X++List.replicate (N - m) Z).length=N:=by grind
  have t1:List.take q (List.replicate m X++List.replicate (N - m) Z)=List.replicate q X:=by
   grind
  have t2:List.take m (List.replicate m X++List.replicate (N - m) Z)=List.replicate m X:=by
   grind
  have t3:List.drop (m+q) (List.replicate m X++List.replicate (N - m) Z)=List.replicate (N - (m+q)) Z:=by
   rw [List.drop_append,List.drop_eq_nil_of_le (by simp),List.length_replicate,List.nil_append,List.drop_replicate];grind
  have t4:List.replicate m X++List.replicate q X=List.replicate (m+q) X:=List.replicate_append_replicate;have e4:(0+q≤N)=True:=eq_true (by omega);have e5:(m≤N)=True:=eq_true hm;have w1:IntKind.i64.wrap ((m:Int)+(q:Int))=((m+q:Nat):Int):=wi (by omega) (by omega);rw [ai];simp only [bP,go_sem,am4,am3,am5,am6,am7,g7,g8,k30,e1,e2,e3,hq2,hq3,hl,t1,t2,t3,t4,e4,e5,List.length_replicate,w1];exact ih' _ _ _ rfl rfl rfl rfl
theorem V4 {x:Ri} {n:Nat} (h1:1≤n) (hn:n≤400):R F.slices_Repeat_api_Interval_api_Interval_ [.sl 7 [aA x],I n] []=some (.osl 7 (bB (List.replicate n x)),[]):=by
 refine aE acm rfl ?_;have hm:=aao hn;have w1:IntKind.u64.wrap 1=1:=by decide
 have w2:((0+1:Nat):Int)=1:=rfl;have w3:IntKind.u64.wrap (n:Int)=n:=cI rfl (by omega);have w4:IntKind.i64.wrap (n:Int)=n:=wi rfl (by omega);have e1:((0:Int) < 0)=False:=ff (by decide);have e2:((n:Int) < 0)=False:=eq_false (by omega);have e3:(9223372036854775807 < (n:Int))=False:=eq_false (by omega);have z1:oW (.v (.int .i64 (n:Int))) (.v (.int .i64 (n:Int)))=some (n,n):=by
  simp only [oW];grind
 have z2:(n*88≤140737488355328)=True:=eq_true (by omega);have tk:∀ A:List AV,List.take n [A]=[A]:=fun A=>List.take_of_length_le (by omega);have hmin:min 1 n=1:=Nat.min_eq_left h1;have dr:List.drop 1 (List.replicate n [B false,.emp,I 0,B false,.emp,I 0,B false])=List.replicate (n - 1) [B false,.emp,I 0,B false,.emp,I 0,B false]:=List.drop_replicate;have hl:=X5 (X:=aA x) (Z:=[B false,.emp,I 0,B false,.emp,I 0,B false]) hn [] n 1 (by omega) (Nat.le_refl _) h1;simp only [fu,fG,aA,go_sem,am4,am3,am5,am6,am7,List.length_cons,List.length_nil,w1,w2,w3,w4,hm,e1,e2,e3,z1,z2,tk,hmin,dr,Nat.zero_le,List.length_replicate,true_and,Int.natCast_one];generalize hX:ap 0 _ _=X;obtain ⟨hh,rfl,q⟩:=hl _ _ _ hX rfl rfl rfl;simp only [go_sem,am4,am3,am5,am6,am7,q,List.length_replicate,Nat.zero_add,Nat.le_refl,if_true,Option.bind_some,Option.map_some];grind [bB,List.map_replicate]
theorem Of {l:List Nat} {i:Nat} (h:i < l.length):(dI l)[i]?=some ((l.getD i 0:Nat):Int):=by
 grind [dI]
theorem ab6 {l:List Nat} {i:Nat} (h:i < l.length):(bw (dI l))[i]?=some [I (l.getD i 0:Nat)]:=by
 grind [bw,Of]
theorem uP (l:List Nat):(dI l).length=l.length:=by simp [dI]
def Mx (dn dn' es:List Nat) (i:Nat):Prop:=dn'.length=dn.length∧(∀ d ∈ dn',d≤32)∧(∀ j,dn.getD j 0≤dn'.getD j 0)∧∀ j,i≤j→es.getD j 0≤dn'.getD j 0
theorem aap {v:Nat} {p:Int} (h8:v≤8) {es:List Nat} (hes:es.length=v) (he32:∀ e ∈ es,e≤32) {o2 o8:Ob} (c2:∀ l,aM l o2=true) (c8:∀ l,aM l o8=true) {A:List Rt} {nA iA:Int} :
  ∀ (k i:Nat),i+k=v→∀ dn:List Nat,dn.length=v→(∀ d ∈ dn,d≤32)→∀ (s:ae) (h:ac) (X:Option (Ex × St)),ap 2 [2,6,26,27,28] (aq (ak R (aG false) iJ) [2,6,26,27,28,33,34,35] [2,8,21,24,2624] s h)=X→s 2=.ref 2 none 0 0 0→s 6=.ref 24 none 0 0 0→s 26=.sl 4 (df A)→s 27=I nA→s 28=I iA→s 33=.sl 1 (bw (dI es))→s 34=I v→s 35=I i→h 2=o2→h 8=o8→h 21=.dead→h 24=.bx [.osl 1 (bw (dI dn)),.emp,I p]→h 2624=.dead →
  ∃ hh dn',X=some (.normal,⟨upd (upd (upd (upd (upd (fun _=>.any) 28 (I iA)) 27 (I nA)) 26 (.sl 4 (df A))) 6 (.ref 24 none 0 0 0)) 2 (.ref 2 none 0 0 0),hh⟩)∧hh 2=o2∧hh 24=.bx [.osl 1 (bw (dI dn')),.emp,I p]∧hh 21=.dead∧hh 2624=.dead∧Mx dn dn' es i:=by
 intro k;induction k with
 | zero =>
  intro i hi dn hd hb s h X hX g2 g6 g26 g27 g28 g33 g34 g35 k2 k8 k21 k24 k2624;subst hX;have e1:((i:Int) < (v:Int))=False:=ff (by omega);have hc:=c2 [2,8,21,24,2624];have hc8:=c8 [2,8,21,24,2624];rw [ai];refine ⟨?hh0,dn,?_,?_,?_,?_,?_,rfl,hb,fun _=>Nat.le_refl _,fun j hj=>?_⟩;rotate_left
  ·simp only [iJ,go_sem,am4,am3,am5,am6,am7,g2,g6,g26,g27,g28,g33,g34,g35,k2,k8,k21,k24,k2624,hc,hc8,e1];rfl
  ·rfl
  ·rfl
  ·rfl
  ·rfl
  grind
 | succ k ih =>
  intro i hi dn hd hb s h X hX g2 g6 g26 g27 g28 g33 g34 g35 k2 k8 k21 k24 k2624;subst hX;have hlt:i < v:=by omega
  have e1:((i:Int) < (v:Int))=True:=tt (by omega);have e2:=ab6 (l:=dn) (i:=i) (by omega);have e3:aZ (bw (dI es)) (i:Int)=some (.ipt [I (es.getD i 0:Nat)]):=lM rfl (Of (by omega));have e5:IntKind.i64.wrap ((i:Int)+1)=((i+1:Nat):Int):=wi (by omega) (by omega);have e6:(0≤(i:Int))=True:=tt (by omega);have e7:((i:Int) < ((dI dn).length:Int))=True:=eq_true (by grind [uP]);have hc:=c2 [2,8,21,24,2624];have hc8:=c8 [2,8,21,24,2624];obtain ⟨m,hm⟩:∃ m,max (dn.getD i 0) (es.getD i 0)=m:=⟨_,rfl⟩;have em:(if ((dn.getD i 0:Nat):Int) < ((es.getD i 0:Nat):Int) then ((es.getD i 0:Nat):Int) else ((dn.getD i 0:Nat):Int))=(m:Int):=by
   omega
  have e4:nc 1 1 i 0 [I (m:Int)] 1 (bw (dI dn))=some (bw (dI (dn.set i m))):=by
   simp_all [nc,if_pos,setRow,bw,dI,List.map_set]
  have hms:∀ d ∈ dn.set i m,d≤32:=fun d hd2=>by
   rcases List.mem_or_eq_of_mem_set hd2 with h | h
   ·exact hb d h
   ·subst h;have h1:dn.getD i 0≤32:=by
     rw [List.getD_eq_getElem?_getD,List.getElem?_eq_getElem (by omega)];exact hb _ (List.getElem_mem _)
    have h2:es.getD i 0≤32:=by
     rw [List.getD_eq_getElem?_getD,List.getElem?_eq_getElem (by omega)];exact he32 _ (List.getElem_mem _)
    omega
  have ih':=ih (i+1) (by omega) (dn.set i m) (by rw [List.length_set]; exact hd) hms;rw [ai];generalize aq _ _ _=L at ih' ⊢;simp only [iJ,go_sem,am4,am3,am5,am6,am7,g2,g6,g26,g27,g28,g33,g34,g35,k2,k8,k21,k24,k2624,hc,hc8,e1,e2,e3,e5,e6,e7,Int.toNat_natCast,Nat.zero_add,lP,rl,aad,em,e4];generalize hX:ap 2 _ _=X;obtain ⟨hh,dn',q1,q2,q3,q4,q5,m1,m2,m3,m4⟩:=ih' _ _ _ hX rfl rfl rfl rfl rfl rfl rfl rfl rfl rfl rfl rfl rfl;refine ⟨hh,dn',q1,q2,q3,q4,q5,by rw [m1,List.length_set],m2,fun j=>?_,fun j hj=>?_⟩
  all_goals grind
def Nt (v:Nat) (t:Rt) (es:List Nat):Prop:=t.exps=dI es∧es.length=v∧∀ e ∈ es,e≤32
theorem aaq {v:Nat} {p:Int} (h8:v≤8) {A:List Rt} {E:List (List Nat)} (hA:A.length=E.length) (h5:A.length≤500) (hn:∀ (i:Nat) (t:Rt) (es:List Nat),A[i]?=some t→E[i]?=some es→Nt v t es) {o2:Ob} (c2:∀ l,aM l o2=true) :
  ∀ (k i:Nat),i+k=A.length→∀ dn:List Nat,dn.length=v→(∀ d ∈ dn,d≤32)→∀ (s:ae) (h:ac) (X:Option (Ex × St)),ap 0 [2,6] (aq (ak R (aG false) kV) [2,6,26,27,28] [2,21,24,2624] s h)=X→s 2=.ref 2 none 0 0 0→s 6=.ref 24 none 0 0 0→s 26=.sl 4 (df A)→s 27=I A.length→s 28=I i→h 2=o2→h 21=.dead→h 24=.bx [.osl 1 (bw (dI dn)),.emp,I p]→h 2624=.dead →
  ∃ hh dn',X=some (.normal,⟨upd (upd (fun _=>.any) 6 (.ref 24 none 0 0 0)) 2 (.ref 2 none 0 0 0),hh⟩)∧hh 2=o2∧hh 24=.bx [.osl 1 (bw (dI dn')),.emp,I p]∧hh 21=.dead∧hh 2624=.dead∧dn'.length=v∧(∀ d ∈ dn',d≤32)∧(∀ j,dn.getD j 0≤dn'.getD j 0)∧∀ (a:Nat) (es:List Nat),i≤a→E[a]?=some es→∀ j,es.getD j 0≤dn'.getD j 0:=by
 intro k;induction k with
 | zero =>
  intro i hi dn hd hb s h X hX g2 g6 g26 g27 g28 k2 k21 k24 k2624;subst hX;have e1:((i:Int) < (A.length:Int))=False:=ff (by omega);have hc:=c2 [2,21,24,2624];rw [ai];refine ⟨?hh0,dn,?_,?_,?_,?_,?_,hd,hb,fun _=>Nat.le_refl _,fun a es ha he=>?_⟩;rotate_left
  ·simp only [kV,go_sem,am4,am3,am5,am6,am7,g2,g6,g26,g27,g28,k2,k21,k24,k2624,hc,e1];rfl
  ·rfl
  ·rfl
  ·rfl
  ·rfl
  grind
 | succ k ih =>
  intro i hi dn hd hb s h X hX g2 g6 g26 g27 g28 k2 k21 k24 k2624;subst hX;have e1:((i:Int) < (A.length:Int))=True:=tt (by omega);obtain ⟨t,ht⟩:∃ t,A[i]?=some t:=⟨_,List.getElem?_eq_getElem (by omega)⟩;obtain ⟨es,hes⟩:∃ es,E[i]?=some es:=⟨_,List.getElem?_eq_getElem (by omega)⟩;obtain ⟨n1,n2,n3⟩:=hn i t es ht hes;have e2:aZ (df A) (i:Int)=some (.ipt (en t)):=pE rfl ht;have e5:IntKind.i64.wrap ((i:Int)+1)=((i+1:Nat):Int):=wi (by omega) (by omega);have hc:=c2 [2,21,24,2624];have hg:=aap (p:=p) h8 n2 n3 c2 (o8:=.bx [.sl 1 (bw (dI es)),B t.c.neg,lm t.c.m,I t.c.e]) (fun _=>rfl) (A:=A) (nA:=A.length) (iA:=i) v 0 (Nat.zero_add _) dn hd hb;have e3:(bw (dI es)).length=v:=by rw [rm,uP,n2]
  rw [en,n1] at e2;have ih':=ih (i+1) (by omega);rw [ai];simp only [kV,go_sem,am4,am3,am5,am6,am7,g2,g6,g26,g27,g28,k2,k21,k24,k2624,hc,e1,e2,e3];generalize hX:ap 2 _ _=X;obtain ⟨hh,dn',rfl,q2,q24,q21,q2624,m1,m2,m3,m4⟩:=hg _ _ _ hX rfl rfl rfl rfl rfl rfl rfl rfl rfl rfl rfl rfl rfl;simp only [go_sem,am4,am3,am5,am6,am7,e5];generalize hX:ap 0 _ _=X;obtain ⟨hh2,dn2,r1,r2,r3,r4,r5,u1,u2,u3,u4⟩:=ih' dn' (by omega) m2 _ _ _ hX rfl rfl rfl rfl rfl q2 q21 q24 q2624;grind
theorem KE:∀ (l:List Nat) (d n:Nat),be (l++[d]) n=be l n*(d+1)
 | [],_,_=>rfl
 | a::l,d,n=>KE l d (n*(a+1))
theorem V5 {dn:List Nat} {i:Nat} (h:i < dn.length):be (dn.take (i+1)) 1=be (dn.take i) 1*(dn.getD i 0+1):=by
 grind [List.take_add_one,KE]
theorem X6 {dn es:List Nat} {i s:Nat} (h:i < dn.length) (h2:i < es.length):kP (dn.drop i) (es.drop i) s=es.getD i 0*s+kP (dn.drop (i+1)) (es.drop (i+1)) (s*(dn.getD i 0+1)):=by
 rw [List.drop_eq_getElem_cons h,List.drop_eq_getElem_cons h2,List.getD_eq_getElem?_getD,List.getD_eq_getElem?_getD,List.getElem?_eq_getElem h,List.getElem?_eq_getElem h2];rfl
theorem aar {dn es:List Nat} {cs:List Ri} {p:Int} {v:Nat} (h8:v≤8) (hd:dn.length=v) (hb:∀ d ∈ dn,d≤32) (hN4:be dn 1≤400) (hes:es.length=v) (he32:∀ e ∈ es,e≤32) {o2 o15:Ob} (c2:∀ l,aM l o2=true) (c15:∀ l,aM l o15=true) {A:List Rt} {nA iA:Int} :
  ∀ (k i:Nat),i+k=v→∀ (at_:Nat),at_+kP (dn.drop i) (es.drop i) (be (dn.take i) 1)≤400→∀ (s:ae) (h:ac) (X:Option (Ex × St)),ap 8 [6,15,16,82,83,84] (aq (ak R (aG false) gl) [6,15,16,82,83,84,89,90,91] [2,15,21,24,2624] s h)=X→s 6=.ref 24 none 0 0 0→s 15=.ref 15 none 0 0 0→s 16=I at_→s 82=.sl 4 (df A)→s 83=I nA→s 84=I iA→s 89=.sl 1 (bw (dI es))→s 90=I v→s 91=I i→h 2=o2→h 15=o15→h 21=.dead→h 24=bd (dI dn) cs p→h 2624=.dead →
  ∃ hh,X=some (.normal,⟨upd (upd (upd (upd (upd (upd (fun _=>.any) 84 (I iA)) 83 (I nA)) 82 (.sl 4 (df A))) 16 (I (at_+kP (dn.drop i) (es.drop i) (be (dn.take i) 1):Nat))) 15 (.ref 15 none 0 0 0)) 6 (.ref 24 none 0 0 0),hh⟩)∧hh 2=o2∧hh 15=o15∧hh 24=bd (dI dn) cs p∧(∀ a,a ≠ 2→a ≠ 15→a ≠ 24→hh a=.dead):=by
 intro k;induction k with
 | zero =>
  intro i hi at_ hat s h X hX g6 g15 g16 g82 g83 g84 g89 g90 g91 k2 k15 k21 k24 k2624;subst hX;have e1:((i:Int) < (v:Int))=False:=ff (by omega);have hc:=c2 [2,15,21,24,2624];have hc15:=c15 [2,15,21,24,2624];have hg:=(bu (dI dn) cs p).cl [2,15,21,24,2624];rw [List.drop_eq_nil_of_le (show dn.length≤i by omega)];have hp0:∀ s,kP [] (es.drop i) s=0:=fun s=>by grind [kP]
  rw [hp0,Nat.add_zero,ai];refine ⟨?hh0,?_,?_,?_,?_,?_⟩;rotate_left
  ·simp only [gl,go_sem,am4,am3,am5,am6,am7,g6,g15,g16,g82,g83,g84,g89,g90,g91,k2,k15,k21,k24,k2624,hc,hc15,hg,e1];rfl
  all_goals simp_all [acj,if_false,ite_self]
 | succ k ih =>
  intro i hi at_ hat s h X hX g6 g15 g16 g82 g83 g84 g89 g90 g91 k2 k15 k21 k24 k2624;subst hX;have e1:((i:Int) < (v:Int))=True:=tt (by omega);have e3:aZ (bw (dI es)) (i:Int)=some (.ipt [I (es.getD i 0:Nat)]):=lM rfl (Of (by omega));have e5:IntKind.i64.wrap ((i:Int)+1)=((i+1:Nat):Int):=wi (by omega) (by omega);have hbI:∀ d ∈ dI dn,0≤d∧d≤32:=fun d hd=>by
   obtain ⟨x,hx,rfl⟩:=List.mem_map.1 hd;grind
  have hst:=fun (h:ac) (d:Nat) (hh:h 24=bd (dI dn) cs p) (hd:h (2000+8*d)=.dead)=>oT (iO false) rfl (Db (m:=i) (by grind [uP]) (by omega) hbI (d:=d) hh hd);rw [show (dI dn).take i=dI (dn.take i) from (List.map_take ..).symm,show (1:Int)=((1:Nat):Int) from rfl,D8] at hst;rw [X6 (by omega) (by omega),← V5 (by omega),← Nat.add_assoc] at hat ⊢;have ih':=ih (i+1) (by omega) (at_+es.getD i 0*be (dn.take i) 1) hat;generalize be (dn.take i) 1=st at *
  generalize es.getD i 0=e at *
  have w1:IntKind.i64.wrap ((e:Int)*(st:Int))=((e*st:Nat):Int):=wi (Int.natCast_mul ..).symm (by omega);have w2:IntKind.i64.wrap ((at_:Int)+((e*st:Nat):Int))=((at_+e*st:Nat):Int):=wi (by omega) (by omega);have hc:=c2 [2,15,21,24,2624];have hc15:=c15 [2,15,21,24,2624];have hg:=(bu (dI dn) cs p).cl [2,15,21,24,2624];rw [ai];simp only [gl,go_sem,am4,am3,am5,am6,am7,g6,g15,g16,g82,g83,g84,g89,g90,g91,k2,k15,k21,k24,k2624,hc,hc15,hg,e1,e3];rw [hst _ _ rfl rfl];simp only [go_sem,am4,am3,am5,am6,am7,w1,w2,e5];exact ih' _ _ _ rfl rfl rfl rfl rfl rfl rfl rfl rfl rfl rfl rfl rfl rfl rfl
def gT (dn:List Nat):List Rt→List (List Nat)→G→G
 | t::l,es::r,g=>gT dn l r (gs g (kP dn es 1) (qv t.c))
 | _,_,g=>g
theorem aas {dn:List Nat} {p:Int} {v:Nat} (h8:v≤8) (hd:dn.length=v) (hb:∀ d ∈ dn,d≤32) (hN4:be dn 1≤400) {A:List Rt} {E:List (List Nat)} (hA:A.length=E.length) (h5:A.length≤500) (hn:∀ (i:Nat) (t:Rt) (es:List Nat),A[i]?=some t→E[i]?=some es→Nt v t es∧kP dn es 1 < be dn 1∧vd t.c=true∧Ok0 t.c) {o2:Ob} (c2:∀ l,aM l o2=true) :
  ∀ (k i:Nat),i+k=A.length→∀ (cs:List Ri) (g:G),gh (be dn 1) cs g→∀ (s:ae) (h:ac) (X:Option (Ex × St)),ap 6 [6] (aq (ak R (aG false) iI) [6,82,83,84] [2,21,24,2624] s h)=X→s 6=.ref 24 none 0 0 0→s 82=.sl 4 (df A)→s 83=I A.length→s 84=I i→h 2=o2→h 21=.dead→h 24=bd (dI dn) cs p→h 2624=.dead →
  ∃ hh cs',X=some (.normal,⟨upd (fun _=>.any) 6 (.ref 24 none 0 0 0),hh⟩)∧hh 24=bd (dI dn) cs' p∧gh (be dn 1) cs' (gT dn (A.drop i) (E.drop i) g):=by
 intro k;induction k with
 | zero =>
  intro i hi cs g he s h X hX g6 g82 g83 g84 k2 k21 k24 k2624;subst hX;have e1:((i:Int) < (A.length:Int))=False:=ff (by omega);have hc:=c2 [2,21,24,2624];have hg:=(bu (dI dn) cs p).cl [2,21,24,2624];rw [List.drop_eq_nil_of_le (show A.length≤i by omega),ai];refine ⟨?hh0,cs,?_,?_,he⟩;rotate_left
  ·simp only [iI,go_sem,am4,am3,am5,am6,am7,g6,g82,g83,g84,k2,k21,k24,k2624,hc,hg,e1];rfl
  ·rfl
 | succ k ih =>
  intro i hi cs g he s h X hX g6 g82 g83 g84 k2 k21 k24 k2624;subst hX;have hlt:i < A.length:=by omega
  have e1:((i:Int) < (A.length:Int))=True:=tt (by omega);obtain ⟨t,ht⟩:∃ t,A[i]?=some t:=⟨_,List.getElem?_eq_getElem hlt⟩;obtain ⟨es,hes⟩:∃ es,E[i]?=some es:=⟨_,List.getElem?_eq_getElem (by omega)⟩;obtain ⟨⟨n1,n2,n3⟩,n4,n5,n6⟩:=hn i t es ht hes;have hgT:gT dn (A.drop i) (E.drop i) g=gT dn (A.drop (i+1)) (E.drop (i+1)) (gs g (kP dn es 1) (qv t.c)):=by
   have h1:A[i]=t:=Option.some.inj (by rw [← ht,List.getElem?_eq_getElem hlt]);have h2:E[i]'(by omega)=es:=Option.some.inj (by rw [← hes,List.getElem?_eq_getElem (by omega)]);rw [List.drop_eq_getElem_cons hlt,List.drop_eq_getElem_cons (by omega:i < E.length),h1,h2];rfl
  have e2:aZ (df A) (i:Int)=some (.ipt (en t)):=pE rfl ht;have e5:IntKind.i64.wrap ((i:Int)+1)=((i+1:Nat):Int):=wi (by omega) (by omega);have e3:(bw (dI es)).length=v:=by rw [rm,uP,n2]
  rw [en,n1] at e2;have h0:=aar (cs:=cs) (p:=p) h8 hd hb hN4 n2 n3 c2 (o15:=.bx [.sl 1 (bw (dI es)),B t.c.neg,lm t.c.m,I t.c.e]) (fun _=>rfl) (A:=A) (nA:=A.length) (iA:=i) v 0 (Nat.zero_add _) 0 (by
   show 0+kP dn es 1≤400;omega)
  have hp0:0+kP (dn.drop 0) (es.drop 0) (be (dn.take 0) 1)=kP dn es 1:=Nat.zero_add _;rw [hp0] at h0;have hpt:=jC n6 n5;have ih':=ih (i+1) (by omega) _ _ (he.set (k:=kP dn es 1) (sE n5 n6));rw [hgT];generalize kP dn es 1=P at *
  have i1:(0≤(P:Int))=True:=eq_true (by omega);have i2:((P:Int) < (cs.length:Int))=True:=eq_true (by rw [he.1]; omega);have sr1:nc 7 7 P 0 (aA ⟨t.c,t.c,false⟩) 7 (bB cs)=some (bB (cs.set P ⟨t.c,t.c,false⟩)):=Ak (by grind);have hc:=c2 [2,21,24,2624];have hg:=(bu (dI dn) cs p).cl [2,21,24,2624];simp only [ag,am,ax,aA] at hpt;simp only [aA] at sr1;rw [ai];simp only [iI,go_sem,am4,am3,am5,am6,am7,g6,g82,g83,g84,k2,k21,k24,k2624,hc,hg,e1,e2,e3];generalize hX:ap 8 _ _=X;obtain ⟨hh,rfl,q2,q15,q24,qd⟩:=h0 _ _ _ hX rfl rfl rfl rfl rfl rfl rfl rfl rfl rfl rfl rfl rfl rfl;have b1:=qd 2888 (by decide) (by decide) (by decide);have b2:=qd 2624 (by decide) (by decide) (by decide);have b3:=qd 21 (by decide) (by decide) (by decide);simp only [bd] at q24;simp only [go_sem,am4,am3,am5,am6,am7,q15,q24,b1,hpt,i1,i2,Int.toNat_natCast,Nat.zero_add,Aj,sr1,e5];exact ih' _ _ _ rfl rfl rfl rfl rfl q2 b3 rfl b2
theorem V6:∀ (dn es:List Nat),dn.length=es.length→(∀ j,es.getD j 0≤dn.getD j 0)→Hn dn es
 | [],[],_,_=>trivial
 | d::dn,e::es,h,hj=>⟨hj 0,V6 dn es (by grind) fun j=>hj (j+1)⟩
 | [],_::_,h,_=>by grind
 | _::_,[],h,_=>by grind
theorem F0:∀ (dn:List Nat) (xs:List Rat),xs.length=dn.length→∀ n,sO (jO dn xs) n=be dn n
 | [],[],_,_=>rfl
 | d::dn,x::xs,h,n=>F0 dn xs (by grind) (n*(d+1))
 | [],_::_,h,_=>by grind
 | _::_,[],h,_=>by grind
theorem Rm:∀ (dn:List Nat) (n:Nat),n≤400→wo (dI dn) (n:Int)=none∨wo (dI dn) (n:Int)=some ((be dn n:Nat):Int)∧be dn n≤400
 | [],n,h=>Or.inr ⟨rfl,h⟩
 | d::dn,n,h=>by
  have e:wo (dI (d::dn)) (n:Int)=if 400 < (n:Int)*(Int.ofNat d+1) then none else wo (dI dn) ((n:Int)*(Int.ofNat d+1)):=rfl
  have e2:(n:Int)*(Int.ofNat d+1)=((n*(d+1):Nat):Int):=by rfl
  rw [e,e2];split
  ·exact Or.inl rfl
  ·exact Rm dn (n*(d+1)) (by omega)
def GP (v:Nat) (A:List Rt) (E:List (List Nat)) (p:Int) (r:AV × List Ob):Prop:=r=(.tup [.v (.pointer none),B false],[])∨∃ dn cs,r=(.tup [.obx [.osl 1 (bw (dI dn)),.osl 7 (bB cs),I p],B true],[])∧dn.length=v∧(∀ d ∈ dn,d≤32)∧(∀ es ∈ E,Hn dn es)∧be dn 1≤400∧gh (be dn 1) cs (gT dn A E fun _=>0)
theorem V7 {v:Nat} {p:Int} (h8:v≤8) {A:List Rt} {E:List (List Nat)} (hA:A.length=E.length) (h5:A.length≤500) (hn:∀ (i:Nat) (t:Rt) (es:List Nat),A[i]?=some t→E[i]?=some es→Nt v t es∧vd t.c=true∧Ok0 t.c) :
  ∃ r,R F.bound_gridOf [.agg [I v,.sl 4 (df A)],I p] []=some r∧GP v A E p r:=by
 have z1:oW (.v (.int .i64 (v:Int))) (.v (.int .i64 (v:Int)))=some (v,v):=by
  simp only [oW];grind
 have z2:(v*8≤140737488355328)=True:=eq_true (by omega);have zr:List.replicate v [I 0]=bw (dI (List.replicate v 0)):=by grind [bw,dI,List.map_replicate]
 have hl:(bw (dI (List.replicate v 0))).length=v:=by grind
 have h4:=aaq (p:=p) h8 hA h5 (fun i t es h1 h2=>(hn i t es h1 h2).1) (o2:=.bx [I v,.sl 4 (df A)]) (fun _=>rfl) A.length 0 (Nat.zero_add _) (List.replicate v 0) (by simp) (fun d hd=>by grind);have hrl:=QG A;refine D7 (r:=fun a=>a) Iv.2.1 Iv.2.2 (Iv.1.2.2.2 false) rfl (Nat.le_of_ble_eq_true rfl) ?_;have hh0:aj []=fun _=>.dead:=by funext i; simp [aj]
 simp only [yb,zA,hh0,go_sem,am4,am3,am5,am6,am7,List.length_nil,z1,z2,zr];rw [ab2 (k:=1) (rows:=bw (dI (List.replicate v 0))) rfl hl.symm rfl (by decide)];simp only [go_sem,am4,am3,am5,am6,am7];generalize hX:ap 0 _ _=X;obtain ⟨hh,dn,rfl,q2,q24,q21,q2624,d1,d2,d3,d4⟩:=h4 _ _ _ hX rfl rfl rfl rfl rfl rfl rfl rfl rfl;have hdl:(dI dn).length=v:=by rw [uP,d1]
 have hbI:∀ d ∈ dI dn,0≤d∧d≤32:=fun d hd=>by
  obtain ⟨x,hx,rfl⟩:=List.mem_map.1 hd;grind
 simp only [go_sem,am4,am3,am5,am6,am7,q2,q24,q21,q2624,hdl,rm];generalize hX:ap 4 _ _=X;have hM:=aef (ds:=dI dn) (p:=p) hdl.symm (by omega) hbI (o2:=.bx [I v,.sl 4 (df A)]) (fun _=>rfl) _ _ _ hX rfl rfl rfl rfl rfl rfl q2 q21 q24 q2624;rcases Rm dn 1 (by decide) with hm | ⟨hm,h4⟩
 ·rw [show (1:Int)=((1:Nat):Int) from rfl,hm] at hM;obtain ⟨hh2,rfl⟩:=hM;refine ⟨_,?_,Or.inl rfl⟩;simp only [go_sem,am4,am3,am5,am6,am7]
 rw [show (1:Int)=((1:Nat):Int) from rfl,hm] at hM;obtain ⟨hh,rfl,q2,q24,qd⟩:=hM;have hle:∀ es ∈ E,Hn dn es:=fun es he=>by
  obtain ⟨i,hi⟩:=List.getElem?_of_mem he;have hiE:=(List.getElem?_eq_some_iff.1 hi).1;have:=(hn i _ es (List.getElem?_eq_getElem (by omega)) hi).1.2.1;exact V6 dn es (by omega) (d4 i es (Nat.zero_le _) hi)
 have hpt:=jC bm.2 bm.1;have hrp:=V4 (x:=E3) (jF dn 1 (by decide)) h4;have h1:=aas (p:=p) h8 d1 d2 h4 hA h5 (fun i t es h1 h2=>by
  obtain ⟨a,b,c⟩:=hn i t es h1 h2;refine ⟨a,?_,b,c⟩;have hL:=hle es (List.mem_of_getElem? h2);have:=VM dn es (List.replicate dn.length 0) hL (by simp) 1 0 (by decide)
  simp_all [F0,Nat.zero_add]) (o2:=.bx [I v,.sl 4 (df A)]) (fun _=>rfl) A.length 0 (Nat.zero_add _) (List.replicate (be dn 1) E3) (fun _=>0) ⟨by simp,fun k x hx=>by
   rw [List.getElem?_replicate] at hx;split at hx
   ·cases hx;rw [← C2];exact sE bm.1 bm.2
   grind⟩
 generalize List.replicate (be dn 1) E3=cs0 at hrp h1;have b1:=qd 2600 (by decide) (by decide);have b2:=qd 76 (by decide) (by decide);have b3:=qd 2624 (by decide) (by decide);have b4:=qd 21 (by decide) (by decide);simp only [ag,am,ax,aA,aP,E3] at hpt hrp;simp only [aA,go_sem,am4,am3,am5,am6,am7,q24,b1,b2,b3,hpt,hrp];rw [Tq (h:=upd (upd (upd hh 76 _) 76 _) 2624 (.ar 7 (bB cs0))) (id:=24) (p:=1) (id2:=2624) (k:=7) (n:=cs0.length) rfl (IY _).symm q24 (by decide) (by grind)];simp only [go_sem,am4,am3,am5,am6,am7,ab1,Bool.false_eq_true,q2,hrl];generalize hX:ap 6 _ _=X;obtain ⟨hh2,cs2,rfl,r24,he2⟩:=h1 _ _ _ hX rfl rfl rfl rfl q2 b4 rfl rfl;refine ⟨_,?_,Or.inr ⟨dn,cs2,rfl,d1,d2,hle,h4,he2⟩⟩;simp only [bd] at r24;simp only [go_sem,am4,am3,am5,am6,am7,r24];rw [if_pos (by rfl)];have e:ni hh2 (.ref 24 none 0 0 0)=some (.obx [.osl 1 (bw (dI dn)),.osl 7 (bB cs2),I p]):=by
  have hp:aR 24=false:=rfl;simp [ni,jk,RF,r24,hp];exact ⟨rfl,rfl,rfl⟩
 rw [e];rfl
def lQ:List Nat→List Rat→List (Nat × LF)
 | d::ds,t::ts=>(d,fun v=>dc t v d 0)::lQ ds ts
 | _,_=>[]
theorem V8:∀ (ds:List Nat) (ts:List Rat),Hm (lQ ds ts)
 | d::ds,t::ts=>fun p hp=>by
  rcases List.mem_cons.1 hp with rfl | hp
  ·simp_all [Hl]
  ·exact V8 ds ts p hp
 | [],_=>fun _ h=>by grind [lQ]
 | _::_,[]=>fun _ h=>by grind [lQ]
theorem Jo:∀ (dn:List Nat) (ts:List Rat),ts.length=dn.length→∀ n,sO (lQ dn ts) n=be dn n
 | [],[],_,_=>rfl
 | d::dn,x::xs,h,n=>Jo dn xs (by grind) (n*(d+1))
 | [],_::_,h,_=>by grind
 | _::_,[],h,_=>by grind
theorem Oh:∀ (dn:List Nat) (ts:List Rat),ts.length=dn.length→∀ d t,lQ (dn++[d]) (ts++[t])=lQ dn ts++[(d,fun v=>dc t v d 0)]
 | [],[],_,_,_=>rfl
 | d::dn,x::xs,h,d',t'=>by
  show _::lQ (dn++[d']) (xs++[t'])=_::(lQ dn xs++_);rw [Oh dn xs (by simpa using h)]
 | [],_::_,h,_,_=>by grind
 | _::_,[],h,_,_=>by grind
theorem Oi:∀ (a b:List Nat) (n:Nat),be (a++b) n=be b (be a n)
 | [],_,_=>rfl
 | d::a,b,n=>Oi a b (n*(d+1))
theorem X7 {dn1 dn2:List Nat} {n N:Nat} {xs2 ts1:List Rat} (h1:ts1.length=dn1.length) (h2:xs2.length=dn2.length) (hN:N=be (dn1++n::dn2) 1) {x t lo w:Rat} (hx:x=lo+w*t) (g:G) :
  eR (lQ dn1 ts1++(n,fun v=>pl x v 0 (n+1))::jO dn2 xs2) 1 0 g =
   eR (lQ dn1 ts1++(n,fun v=>dc t v n 0)::jO dn2 xs2) 1 0 (ps (fun f=>Hg n (fun j=>f+j*be dn1 1)) (be dn1 1) n N 0 (ps (fun f=>Hf lo w n (fun j=>f+j*be dn1 1)) (be dn1 1) n N 0 g)):=by
 have hs:=jF dn1 1 (by decide);have ht1:=Jo dn1 ts1 h1 1;have ht2:=F0 dn2 xs2 h2;rw [Oi] at hN;have hN:N=be dn2 (be dn1 1*(n+1)):=hN;generalize be dn1 1=s at *
 have hi:∀ f a b:Nat,f+a*s=f+b*s↔a=b:=fun f a b=>⟨fun h=>Nat.eq_of_mul_eq_mul_right (by omega) (Nat.add_left_cancel h),fun h=>by rw [h]⟩;have c1:kO (n+1) fun v=>pl x v 0 (n+1):=C4 _ _ (by simp);have c2:kO (n+1) fun v=>pl t v 0 (n+1):=C4 _ _ (by simp);have c3:kO (n+1) fun v=>dc t v n 0:=Hl _ _ (by simp);have key:∀ (L L':LF) (op:Nat→G→G) (g:G),kO (n+1) L→kO (n+1) L'→(∀ f g,(∀ a,(∀ m,m≤n→a ≠ f+m*s)→op f g a=g a)∧L (fun m=>g (f+m*s))=L' (fun m=>op f g (f+m*s))) →
   eR (lQ dn1 ts1++(n,L)::jO dn2 xs2) 1 0 g=eR (lQ dn1 ts1++(n,L')::jO dn2 xs2) 1 0 (ps op s n N 0 g):=fun L L' op g hL hL' hop=>by
  refine N4 hL hL' (D4 dn2 xs2) (lQ dn1 ts1) (V8 dn1 ts1) 1 0 (by decide) fun i0 q hi0 hq=>?_;rw [ht1] at hi0 hq ⊢;refine (aed (by omega) hL hL' hop N 0 g).2 _ (Nat.zero_le _) ?_ ?_
  ·grind
  ·have e:i0+q*(s*(n+1))=i0+q*(n+1)*s:=by grind
   rw [e,Nat.add_mul_div_right _ _ (by omega),Nat.div_eq_of_lt hi0,Nat.zero_add,Nat.mul_mod_left]
 rw [key _ _ (fun f=>Hf lo w n (fun j=>f+j*s)) g c1 c2 fun f g=>abR hx (hi f) n g];exact key _ _ (fun f=>Hg n (fun j=>f+j*s)) _ c2 c3 fun f g=>abS (hi f) n g
theorem V9 {dn:List Nat} {xs:List Rat} (hx:xs.length=dn.length):∀ (A:List Rt) (E:List (List Nat)) (g:G),A.length=E.length→(∀ es ∈ E,Hn dn es)→E.Nodup→(∀ es ∈ E,g (kP dn es 1)=0)→(∀ (i:Nat) (t:Rt) (es:List Nat),A[i]?=some t→E[i]?=some es→t.exps=dI es) →
  eR (jO dn xs) 1 0 (gT dn A E g)=eR (jO dn xs) 1 0 g+fv xs A
 | [],[],g,_,_,_,_,_=>by
  show _=_+0;rw [Rat.add_zero];rfl
 | t::A,es::E,g,hA,hle,hnd,h0,hE=>by
  obtain ⟨hn1,hn2⟩:=List.nodup_cons.1 hnd;have hes:=hE 0 t es rfl rfl;have hxn:yC t.exps=es:=by
   rw [hes];unfold yC dI;rw [List.map_map];exact (List.map_congr_left (g:=fun c=>c) fun x _=>by simp).trans (List.map_id' _)
  show eR (jO dn xs) 1 0 (gT dn A E (gs g (kP dn es 1) (qv t.c)))=_;rw [V9 hx A E _ (by grind) (fun e he=>hle e (by grind)) hn2 (fun e he=>by
   unfold gs;rw [if_neg fun hq=>?_]
   ·grind
   ·have:=(Q9 dn e es (hle e (by grind)) (hle es (by simp)) 1 0 0 (by decide) (by decide) (by omega)).2;grind) fun i u e h1 h2=>hE (i+1) u e h1 h2]
  rw [abT (D4 dn xs),h0 es (by simp)];have hm:=Q8 dn es xs (hle es (by simp)) hx 1 0 0 (by decide) (by decide);grind [qv,C5,yC,fv]
 | [],_::_,_,h,_,_,_,_=>by grind
 | _::_,[],_,h,_,_,_,_=>by grind
theorem X8 {ls:List (Nat × LF)} (ok:Hm ls) (s i:Nat):eR ls s i (fun _=>0)=0:=by
 have:=Jk (a:=0) (c:=0) (g:=fun _=>0) (h:=fun _=>0) ls ok s i;grind
theorem ab7 {lo hi:Rat} {g:G} {dn:List Nat} {ts:List Rat} (hl:ts.length=dn.length) (ht:∀ t ∈ ts,0≤t∧t≤1) (h:∀ k,k < be dn 1→lo≤g k∧g k≤hi):lo≤eR (lQ dn ts) 1 0 g∧eR (lQ dn ts) 1 0 g≤hi:=by
 refine Q7 (lQ dn ts) ?_ 1 0 fun q hq=>?_
 ·have:∀ (dn:List Nat) (ts:List Rat),(∀ t ∈ ts,0≤t∧t≤1)→∀ p ∈ lQ dn ts,∀ v:G,(∀ j,j≤p.1→lo≤v j∧v j≤hi)→lo≤p.2 v∧p.2 v≤hi:=by
   intro dn;induction dn with
   | nil=>grind [lQ]
   | cons d dn ih =>
    intro ts ht p hp v hv;cases ts with
    | nil=>grind [lQ]
    | cons t ts =>
     rcases List.mem_cons.1 hp with rfl | hp
     all_goals grind [N3]
  exact this dn ts ht
 grind [Jo]
theorem Oj {l:List Int} (h:∀ e ∈ l,0≤e):l=dI (yC l):=by
 grind [dI,yC,List.map_map,List.map_congr_left,Int.toNat_of_nonneg,List.map_id']
def Dc (l:List Rt):List (List Nat):=l.map fun t=>yC t.exps
theorem X9 {v:Int} {l:List Rt} (c:Cl v l):(Dc l).Nodup:=by
 have h1:l.Pairwise fun a b=>a.exps ≠ b.exps:=c.s.imp fun h=>(KA h).symm;unfold Dc;rw [List.nodup_iff_pairwise_ne,List.pairwise_map];refine List.Pairwise.imp_of_mem (fun {a b} ha hb h he=>h ?_) h1;rw [Oj fun e hx=>((c.t a ha).b e hx).1,Oj fun e hx=>((c.t b hb).b e hx).1,he]
theorem YQ {v:Nat} {l:List Rt} (c:Cl v l) (i:Nat) (t:Rt) (es:List Nat) (h1:l[i]?=some t) (h2:(Dc l)[i]?=some es):Nt v t es∧vd t.c=true∧Ok0 t.c:=by
 have hm:=c.t t (List.mem_of_getElem? h1);unfold Dc at h2;rw [List.getElem?_map,h1] at h2;have h2:yC t.exps=es:=Option.some.inj h2;subst h2;refine ⟨⟨Oj fun e hx=>(hm.b e hx).1,?_,fun e he=>?_⟩,hm.vc,hm.c⟩
 ·have:=hm.len;grind [yC,List.length_map]
 ·obtain ⟨z,hz,rfl⟩:=List.mem_map.1 he;have:=hm.b z hz;omega
def qo (o:Option Rd):Rat:=qv (o.getD aP)
theorem Jp {x:Rat}:∀ (l:List Rt) (o0 o1:Option Rd),(∀ t ∈ l,t.exps=[0]∧o0=none∨t.exps=[1]∧o1=none)→l.Pairwise (fun a b=>a.exps ≠ b.exps)→∃ p0 p1,tM l [o0,o1]=[p0,p1]∧qo p0+qo p1*x=qo o0+qo o1*x+fv [x] l
 | [],o0,o1,_,_=>⟨o0,o1,rfl,by show _=_+0; grind⟩
 | t::l,o0,o1,h,hp=>by
  obtain ⟨p1,p2⟩:=List.pairwise_cons.1 hp;have q0:qo none=0:=C2;unfold tM;rcases h t (by simp) with ⟨he,rfl⟩ | ⟨he,rfl⟩
  ·have hs:[none,o1].set (pZ 1 t.exps 0+1).toNat (some t.c)=[some t.c,o1]:=by rw [he]; rfl
   rw [hs];obtain ⟨a,b,e1,e2⟩:=Jp (x:=x) l (some t.c) o1 (fun u hu=>by
    grind) p2
   refine ⟨a,b,e1,?_⟩;rw [e2];show qv t.c+_+_=_+(qv t.c*C5 [x] (yC t.exps)+fv [x] l);rw [he,q0];show _=_+(qv t.c*(x ^ 0*1)+_);grind
  ·have hs:[o0,none].set (pZ 1 t.exps 0+1).toNat (some t.c)=[o0,some t.c]:=by rw [he]; rfl
   rw [hs];obtain ⟨a,b,e1,e2⟩:=Jp (x:=x) l o0 (some t.c) (fun u hu=>by
    grind) p2
   refine ⟨a,b,e1,?_⟩;rw [e2];show _+qv t.c*x+_=_+(qv t.c*C5 [x] (yC t.exps)+fv [x] l);rw [he,q0];show _=_+(qv t.c*(x ^ 1*1)+_);grind
theorem Wa {a:Rp} (oa:OkP a) (hl:yA a=true) (h1:a.vars=1) (x:Rat):∃ c m,A8 a=[c,m]∧fv [x] a.terms=qv c+qv m*x:=by
 obtain ⟨hv,hd⟩:=ZT hl;obtain ⟨cl,_⟩:=To oa hv;obtain ⟨p0,p1,e1,e2⟩:=Jp (x:=x) a.terms none none (fun t ht=>by
  obtain ⟨s1,s2,s3,s4,s5⟩:=DT hv ht;obtain ⟨e,he⟩:=ZU (s2.trans h1);have h3:=s1.2 e (by grind);grind [bH]) (cl.s.imp fun h=>(KA h).symm)
 refine ⟨p0.getD aP,p1.getD aP,?_,?_⟩
 ·simp_all [A8,QK,tM]
 grind [qo,C2,p0]
theorem Ya {c m:Rd} {b:Ri} {x:Rat} {p:Int} (vc:vd c=true∧Ok0 c) (vm:vd m=true∧Ok0 m) (hp:di p=true) (hb:In x b) (hk:kI b=true):In (qv c+qv m*x) (A9 c m b p):=by
 rcases hb.k with ⟨rfl,h1⟩ | ⟨_,x1,x2⟩
 ·grind
 have hq:∀ {y:Rd},(jE m y).2=0→qv (jE m y).1=qv m*qv y:=fun {y} h=>by
  have h1:=ZS h;have h2:=(Hj (z:=zI m*zI y) (r:=zI (jE m y).1) 16384).1 (Int.le_of_eq h1.symm);have h3:=(Hj (z:=zI m*zI y) (r:=zI (jE m y).1) 16384).2 (Int.le_of_eq h1);unfold qv EQ;grind
 unfold A9 Tm;split
 ·next h =>
  have v1:=DU m (Ku m b);have v2:=DU m (Kv m b);have ok:∀ {a b:Rd} {up:Bool},vd (eM a b p up).1=true∧Ok0 (eM a b p up).1:=fun {a b up}=>by
   grind [eM,sz,bm]
  have hm:qv m*qv (Ku m b)≤qv m*x∧qv m*x≤qv m*qv (Kv m b):=by
   unfold Ku Kv;by_cases hs:bY m < 0
   ·have h0:=(Be vm.1).2.1 hs;have a:=Rat.mul_le_mul_of_nonneg_left x1 (show 0≤-qv m by grind);have b:=Rat.mul_le_mul_of_nonneg_left x2 (show 0≤-qv m by grind);grind
   ·have h0:0≤qv m:=Rat.not_lt.1 fun h=>hs ((Be vm.1).2.2 h);grind [Rat.mul_le_mul_of_nonneg_left]
  refine LH ok ok (fun h=>?_) (fun h=>?_)
  all_goals grind [Hi]
 ·exact Or.inl rfl
def sF:List Ri→List Rat→List Rat→Prop
 | b::dom,x::xs,t::ts=>x=qv b.lo+(qv b.hi - qv b.lo)*t∧0≤t∧t≤1∧sF dom xs ts
 | [],[],[]=>True
 | _,_,_=>False
theorem sF.len:∀ {dom:List Ri} {xs ts:List Rat},sF dom xs ts→xs.length=dom.length∧ts.length=dom.length
 | _::_,_::_,_::_,h=>by
  obtain ⟨a,b⟩:=sF.len h.2.2.2;grind
 | [],[],[],_=>⟨rfl,rfl⟩
 | [],_::_,_,h=>h.elim
 | [],[],_::_,h=>h.elim
 | _::_,[],_,h=>h.elim
 | _::_,_::_,[],h=>h.elim
theorem sF.get:∀ {dom:List Ri} {xs ts:List Rat},sF dom xs ts→∀ {i:Nat} {b:Ri},dom[i]?=some b→∃ x t,xs[i]?=some x∧ts[i]?=some t∧x=qv b.lo+(qv b.hi - qv b.lo)*t
 | b::_,x::_,t::_,h,0,b',hb=>by
  have:b=b':=by grind
  subst this;exact ⟨x,t,rfl,rfl,h.1⟩
 | _::_,_::_,_::_,h,i+1,b,hb=>sF.get h.2.2.2 (i:=i) (by grind)
 | [],_,_,_,_,_,hb=>by grind
 | _::_,[],_,h,_,_,_=>h.elim
 | _::_,_::_,[],h,_,_,_=>h.elim
theorem sF.t01:∀ {dom:List Ri} {xs ts:List Rat},sF dom xs ts→∀ t ∈ ts,0≤t∧t≤1
 | _::_,_::_,_::_,h,t,ht=>by
  rcases List.mem_cons.1 ht with rfl | ht
  ·exact ⟨h.2.1,h.2.2.1⟩
  ·exact sF.t01 h.2.2.2 t ht
 | [],[],[],_,t,ht=>by grind
 | [],_::_,_,h,_,_=>h.elim
 | [],[],_::_,h,_,_=>h.elim
 | _::_,[],_,h,_,_=>h.elim
 | _::_,_::_,[],h,_,_=>h.elim
theorem Yb {dn:List Nat} {i n:Nat} (h:dn[i]?=some n):dn.take i++n::dn.drop (i+1)=dn∧dn.drop i=n::dn.drop (i+1)∧dn.take (i+1)=dn.take i++[n]:=by
 grind [List.take_append_drop,List.take_add_one]
theorem aat {dom:List Ri} {dn:List Nat} {p:Int} {v:Nat} (h8:v≤8) (hd:dn.length=v) (hdl:dom.length=v) (hb:∀ d ∈ dn,d≤32) (hN4:be dn 1≤400) (od:∀ b ∈ dom,VI b) {c6:List AV} (hc6:aM [6,2368] (.bx c6)=true) :
  ∀ (k i:Nat),i+k=v→∀ (cs:List Ri) (g:G),gh (be dn 1) cs g→∀ (s:ae) (h:ac) (X:Option (Ex × St)),ap 0 [6,9] (aq (ak R (aG false) iV) [1,6,9,56,57] [6,2368] s h)=X→s 1=.sl 7 (bB dom)→s 6=.ref 6 none 0 0 0→s 9=.ref 2368 none 0 0 0→s 56=I v→s 57=I i→h 6=.bx c6→h 2368=bd (dI dn) cs p →
  ∃ hh cs' g',X=some (.normal,⟨upd (upd (fun _=>.any) 9 (.ref 2368 none 0 0 0)) 6 (.ref 6 none 0 0 0),hh⟩)∧hh 6=.bx c6∧hh 2368=bd (dI dn) cs' p∧(∀ a,a ≠ 6→a ≠ 2368→hh a=.dead)∧gh (be dn 1) cs' g' ∧
   ∀ xs ts:List Rat,sF dom xs ts→eR (lQ (dn.take i) (ts.take i)++jO (dn.drop i) (xs.drop i)) 1 0 g=eR (lQ dn ts) 1 0 g':=by
 intro k;induction k with
 | zero =>
  intro i hi cs g he s h X hX g1 g6 g9 g56 g57 k6 k2368;subst hX;have e1:((i:Int) < (v:Int))=False:=ff (by omega);have hg:=(bu (dI dn) cs p).cl [6,2368];rw [ai];refine ⟨?hh0,cs,g,?_,?_,?_,?_,he,fun xs ts hp=>?_⟩;rotate_left
  ·simp only [iV,go_sem,am4,am3,am5,am6,am7,g1,g6,g9,g56,g57,k6,k2368,hc6,hg,e1];rfl
  ·rfl
  ·rfl
  ·simp_all [acj,if_false]
  ·obtain ⟨l1,l2⟩:=hp.len;rw [List.take_of_length_le (by omega),List.take_of_length_le (by omega),List.drop_eq_nil_of_le (by omega)];show eR (lQ dn ts++[]) 1 0 g=_;grind
 | succ k ih =>
  intro i hi cs g he s h X hX g1 g6 g9 g56 g57 k6 k2368;subst hX;have hlt:i < v:=by omega
  have e1:((i:Int) < (v:Int))=True:=tt (by omega);obtain ⟨b,hb0⟩:∃ b,dom[i]?=some b:=⟨_,List.getElem?_eq_getElem (by omega)⟩;obtain ⟨n,hn⟩:∃ n,dn[i]?=some n:=⟨_,List.getElem?_eq_getElem (by omega)⟩;have e2:aZ (bB dom) (i:Int)=some (.ipt (aA b)):=DO rfl hb0;have e5:IntKind.i64.wrap ((i:Int)+1)=((i+1:Nat):Int):=wi (by omega) (by omega);have vb:=od b (List.mem_of_getElem? hb0);have hg:=(bu (dI dn) cs p).cl [6,2368];obtain ⟨cs1,hR1,he1⟩:=aan (p:=p) vb.1 vb.2 hn (by omega) hb hN4 he;obtain ⟨cs2,hR2,he2⟩:=aam (p:=p) hn (by omega) hb hN4 he1;have hu:=fun (h:ac) (d:Nat) (hh:h 2368=bd (dI dn) cs p) (hd:h (2000+8*d)=.dead)=>oT (iN.1.2.1 false) (by rfl) (N9 (iN.1.2.1 false) (iN.1.2.2.2 false) (zas:=[I i,ax b]) (as':=[I i,ax b]) (by rw [iN.1.1]; simp only [ax,aA,go_sem]) rfl rfl hh (bu _ _ _) (bu _ _ _) (fun _=>rfl) hR1 ab0 (d:=d) (by decide) rfl);have hbn:=fun (h:ac) (d:Nat) (hh:h 2368=bd (dI dn) cs1 p) (hd:h (2000+8*d)=.dead)=>oT (fk.1.2.1 false) (by rfl) (N9 (fk.1.2.1 false) (fk.1.2.2.2 false) (zas:=[I i]) (as':=[I i]) (by rw [fk.1.1]; rfl) rfl rfl hh (bu _ _ _) (bu _ _ _) (fun _=>rfl) hR2 ab0 (d:=d) (by decide) rfl);have ih':=ih (i+1) (by omega) _ _ he2;rw [ai];generalize aq _ _ _=L at ih' ⊢;simp only [ax,aA] at e2 hu;simp only [iV,go_sem,am4,am3,am5,am6,am7,g1,g6,g9,g56,g57,k6,k2368,hc6,hg,e1,e2];rw [hu _ _ rfl rfl];simp only [go_sem,am4,am3,am5,am6,am7];rw [hbn _ _ rfl rfl];simp only [go_sem,am4,am3,am5,am6,am7,e5];generalize hX:ap 0 _ _=X;obtain ⟨hh,cs',g',q1,q2,q3,q4,q5,q6⟩:=ih' _ _ _ hX rfl rfl rfl rfl rfl rfl rfl;refine ⟨hh,cs',g',q1,q2,q3,q4,q5,fun xs ts hp=>?_⟩;obtain ⟨l1,l2⟩:=hp.len;obtain ⟨x,t,hx,ht,hxt⟩:=hp.get hb0;rw [← q6 xs ts hp];obtain ⟨d1,d2,d3⟩:=Yb hn;have hxd:xs.drop i=x::xs.drop (i+1):=by
   grind [List.drop_eq_getElem_cons]
  have htd:ts.take (i+1)=ts.take i++[t]:=by
   grind [List.take_add_one]
  rw [d2,d3,hxd,htd,Oh _ _ (by grind),List.append_assoc];exact X7 (by grind) (by grind) (by rw [d1]) hxt g
theorem aau {ds:List Int} {p:Int} {N:Nat} (hN:N≤400) {cs:List Ri} {g:G} (he:gh N cs g) {c6:List AV} (hc6:aM [6,12,2368] (.bx c6)=true):∀ (k i:Nat),i+k=N→∀ out:Ri,OkI out→(∀ j,j < i→In (g j) out)→(∃ q,In q out)→∀ (s:ae) (h:ac) (X:Option (Ex × St)),ap 2 [6,12] (aq (ak R (aG false) iU) [6,12,80,81,82] [6,12,2368] s h)=X →
  s 6=.ref 6 none 0 0 0→s 12=.ref 12 none 0 0 0→s 80=.rsl 2368 (some 1) 7 0 N→s 81=I N→s 82=I i→h 6=.bx c6→h 12=dL out→h 2368=bd ds cs p →
  ∃ hh out',X=some (.normal,⟨upd (upd (fun _=>.any) 12 (.ref 12 none 0 0 0)) 6 (.ref 6 none 0 0 0),hh⟩)∧hh 6=.bx c6∧hh 12=dL out'∧OkI out'∧(∀ j,j < N→In (g j) out'):=by
 intro k;induction k with
 | zero =>
  intro i hi out oo ho hq s h X hX g6 g12 g80 g81 g82 k6 k12 k2368;subst hX;have e1:((i:Int) < (N:Int))=False:=ff (by omega);have hg:=(bu ds cs p).cl [6,12,2368];have hoc:=(dy out).cl [6,12,2368];rw [ai];refine ⟨?hh0,out,?_,?_,?_,oo,fun j hj=>ho j (by omega)⟩;rotate_left
  ·simp only [iU,go_sem,am4,am3,am5,am6,am7,g6,g12,g80,g81,g82,k6,k12,k2368,hc6,hg,hoc,e1];rfl
  ·rfl
  ·rfl
 | succ k ih =>
  intro i hi out oo ho hq s h X hX g6 g12 g80 g81 g82 k6 k12 k2368;subst hX;have e1:((i:Int) < (N:Int))=True:=tt (by omega);have e5:IntKind.i64.wrap ((i:Int)+1)=((i+1:Nat):Int):=wi (by omega) (by omega);obtain ⟨x,x1,x2⟩:=he.get (k:=i) (by omega);have q1:(bB cs)[i]?=some (aA x):=by grind [bB]
  have i1:(0≤(i:Int))=True:=eq_true (by omega);have hg:=(bu ds cs p).cl [6,12,2368];have hoc:=(dy out).cl [6,12,2368];have ch:=XU oo x2.ok;have ih':=ih (i+1) (by omega) (Bc out x) (by
   obtain ⟨q,hq⟩:=hq;exact (Bd hq x2).1.ok) (fun j hj=>by
   obtain ⟨q,hq⟩:=hq;by_cases hji:j=i
   ·subst hji;exact (Bd hq x2).2
   ·exact (Bd (ho j (by omega)) x2).1) ⟨_,(Bd hq.choose_spec x2).1⟩
  rw [ai];simp only [ax,aA] at ch;simp only [aA] at q1;simp only [bd] at k2368 hg;simp only [dL] at k12 hoc;simp only [iU,go_sem,am4,am3,am5,am6,am7,g6,g12,g80,g81,g82,k6,k12,k2368,hc6,hg,hoc,e1,i1,rn,wA,Int.toNat_natCast,Nat.zero_add,q1,ch,e5];exact ih' _ _ _ rfl rfl rfl rfl rfl rfl rfl rfl rfl
def BrG (a:Rp) (dom:List Ri) (p:Int) (b:Ri):Prop:=(∀ xs ts:List Rat,sF dom xs ts→In (fv xs a.terms) b)∧((kJ a dom && di p)=false→b=cQ)
theorem sF.inL:∀ {dom:List Ri} {xs ts:List Rat},(∀ b ∈ dom,kI b=true∧VI b)→sF dom xs ts→VS xs dom
 | b::_,x::_,t::_,hk,h=>by
  obtain ⟨h1,h2,h3,h4⟩:=h;obtain ⟨k1,k2⟩:=hk b (by simp);refine ⟨Or.inr ⟨?_,k2,?_⟩,sF.inL (fun b hb=>hk b (by grind)) h4⟩
  ·unfold kI at k1;grind
  ·have hle:qv b.lo≤qv b.hi:=by
    rw [DY];unfold kI vi at k1;grind
   have a:=Rat.mul_nonneg (show 0≤qv b.hi - qv b.lo by grind) h2;have b:=Rat.mul_nonneg (show 0≤qv b.hi - qv b.lo by grind) (show 0≤1 - t by grind);grind
 | [],[],[],_,_=>trivial
 | [],_::_,_,_,h=>h.elim
 | [],[],_::_,_,h=>h.elim
 | _::_,[],_,_,h=>h.elim
 | _::_,_::_,[],_,h=>h.elim
theorem Wb {a:Rp} {dom:List Ri} (od:∀ x ∈ dom,OkI x) (hd:kJ a dom=true):vp a=true∧(dom.length:Int)=a.vars∧∀ b ∈ dom,kI b=true∧VI b:=by
 unfold kJ at hd;simp only [Bool.and_eq_true,decide_eq_true_eq,Bool.not_eq_true',List.any_eq_false] at hd;refine ⟨hd.1,hd.2.1,fun b hb=>?_⟩;have h1:kI b=true:=by
  grind
 have h2:=h1;unfold kI vi at h2;cases ha:b.all with
 | true=>grind
 | false =>
  rw [ha] at h2;simp at h2;have:=od b hb;exact ⟨h1,⟨h2.1,this.lo⟩,⟨h2.2.1,this.hi⟩⟩
theorem Yc {a:Rp} {dom:List Ri} (oa:OkP a) (od:∀ x ∈ dom,OkI x) (h2:dom.length≤100000) {p:Int}:∃ b,R F.bound_Bernstein [bL a,.sl 7 (bB dom),I p] []=some (ax b,[])∧BrG a dom p b:=by
 have hf:=DQ oa od h2 (p:=p);have hw:=A5;cases hq:(kJ a dom && di p) with
 | false =>
  rw [hq] at hf;refine ⟨cQ,?_,fun _ _ _=>Or.inl rfl,fun _=>rfl⟩;refine aE go rfl ?_;simp only [bL,ax,aA,cQ,aP] at hf hw;simp only [dX,gk,bL,ax,aA,cQ,aP,go_sem,am4,am3,am5,am6,am7,hf,hw]
 | true =>
  rw [hq] at hf;have hdp:=hq;rw [Bool.and_eq_true] at hdp;obtain ⟨hd,hp⟩:=hdp;obtain ⟨hv,hl,hk⟩:=Wb od hd;obtain ⟨cl,v0,v8,h5⟩:=To oa hv;have nf:(kJ a dom && di p)=false→∀ b:Ri,b=cQ:=fun h=>by grind
  by_cases hlin:yA a=true∧a.vars=1
  ·obtain ⟨x,rfl⟩:∃ x,dom=[x]:=List.length_eq_one_iff.1 (by omega);obtain ⟨c,m,e1,_⟩:=Wa oa hlin.1 hlin.2 0;have hx:=hk x (by simp);obtain ⟨k1,_⟩:=QQ oa hv;rw [e1] at k1;refine ⟨A9 c m x p,XJ oa od (by omega) hlin.1 hlin.2 e1 rfl,fun xs ts hpt=>?_,fun h=>nf h _⟩;obtain ⟨l1,l2⟩:=hpt.len;obtain ⟨y,rfl⟩:∃ y,xs=[y]:=List.length_eq_one_iff.1 l1;have hin:=sF.inL (fun b hb=>hk b hb) hpt;obtain ⟨c',m',e3,e2⟩:=Wa oa hlin.1 hlin.2 y;rw [e1] at e3;injection e3 with g1 g2
   injection g2 with g2
   subst g1;subst g2;rw [e2];exact Ya (k1 c (by simp)) (k1 m (by simp)) hp hin.1 hx.1
  ·obtain ⟨v,hvv⟩:=Int.eq_ofNat_of_zero_le v0;have hL:=Kt oa;obtain ⟨r,hg,hgp⟩:=V7 (v:=v) (p:=p) (by omega) (A:=a.terms) (E:=Dc a.terms) (by simp [Dc]) h5 (fun i t es h1 h2=>YQ (hvv ▸ cl) i t es h1 h2);have hcc:∃ L b,NR a=.tup [vO L,B b]∧(b=true→¬a.vars=1):=by
    grind [NR,absurd]
   obtain ⟨L,bl,e1,e2⟩:=hcc;rw [e1] at hL;have hVI:∀ b ∈ dom,VI b:=fun b hb=>(hk b hb).2;rcases hgp with rfl | ⟨dn,cs,rfl,d1,d2,d3,d4,he⟩
   ·refine ⟨cQ,?_,fun _ _ _=>Or.inl rfl,fun _=>rfl⟩;refine aE go rfl ?_;rw [← hvv] at hg;simp only [bL,ax,aA,cQ,aP,vO] at hf hw hL;cases bl with
    | true =>
     have e3:(a.vars=1)=False:=eq_false (e2 rfl);simp only [dX,gk,bL,ax,aA,cQ,aP,go_sem,am4,am3,am5,am6,am7,hf,hw,hL,e3,hg]
    | false =>
     simp only [dX,gk,bL,ax,aA,cQ,aP,go_sem,am4,am3,am5,am6,am7,hf,hw,hL,hg]
   ·have hdl:dom.length=v:=by omega
    have hbg:=aat (p:=p) (c6:=[B false,.emp,I 0,B false,.emp,I 0,B false]) (by omega) d1 hdl d2 d4 hVI rfl v 0 (Nat.zero_add _) cs _ he;rw [← hvv] at hg;have hval:∀ xs:List Rat,xs.length=dn.length→eR (jO dn xs) 1 0 (gT dn a.terms (Dc a.terms) fun _=>0)=fv xs a.terms:=fun xs hx=>by
     rw [V9 hx a.terms (Dc a.terms) (fun _=>0) (by simp [Dc]) d3 (X9 cl) (fun _ _=>rfl) fun i t es h1 h2=>(YQ (hvv ▸ cl) i t es h1 h2).1.1,X8 (D4 dn xs),Rat.zero_add]
    have hfin:∀ (b:Ri) (g':G),(∀ xs ts:List Rat,sF dom xs ts→eR (lQ (dn.take 0) (ts.take 0)++jO (dn.drop 0) (xs.drop 0)) 1 0 (gT dn a.terms (Dc a.terms) fun _=>0)=eR (lQ dn ts) 1 0 g')→(∀ j,j < be dn 1→In (g' j) b)→BrG a dom p b:=fun b g' h1 h2=>by
     refine ⟨fun xs ts hpt=>?_,fun h=>nf h _⟩;obtain ⟨l1,l2⟩:=hpt.len;have h3:=h1 xs ts hpt;have h4:eR (jO dn xs) 1 0 (gT dn a.terms (Dc a.terms) fun _=>0)=eR (lQ dn ts) 1 0 g':=h3;rw [hval xs (by omega)] at h4;rw [h4];rcases (h2 0 (jF dn 1 (by decide))).k with ⟨hW,_⟩ | ⟨hkb,_⟩
     ·exact Or.inl hW
     ·have h5:∀ j,j < be dn 1→qv b.lo≤g' j∧g' j≤qv b.hi:=fun j hj=>by
       rcases (h2 j hj).k with ⟨rfl,hn⟩ | ⟨_,h6⟩
       all_goals grind
      have h6:=ab7 (by omega) hpt.t01 h5;refine Or.inr ⟨?_,(h2 0 (jF dn 1 (by decide))).vi,h6.1,h6.2⟩;grind [kI]
    have hh0:aj []=fun _=>.dead:=by funext i; simp [aj]
    refine D7 (r:=fun b=>(ax b,[])) go.2.1 go.2.2 (go.1.2.2.2 false) rfl (Nat.le_of_ble_eq_true rfl) ?_;simp only [bL,ax,aA,vO] at hf hL;have e3:bl=true→(a.vars=1)=False:=fun h=>eq_false (e2 h);have e4:(0:Int) < (be dn 1:Nat):=by grind [jF]
    cases bl
    all_goals
     simp only [dX,gk,bL,ax,aA,hh0,go_sem,am4,am3,am5,am6,am7,hf,hL,e3,hg,TD];generalize hX:ap 0 _ _=X;obtain ⟨hh,cs',g',rfl,q6,q2368,qd,he',hv'⟩:=hbg _ _ _ hX rfl rfl rfl (by rw [uP,d1]; rfl) rfl rfl rfl;obtain ⟨x,x1,x2⟩:=he'.get (k:=0) (jF dn 1 (by decide));have hhl:=aau (ds:=dI dn) (p:=p) d4 he' (c6:=[B false,.emp,I 0,B false,.emp,I 0,B false]) rfl (be dn 1) 0 (Nat.zero_add _) x x2.ok (fun j hj=>absurd hj (Nat.not_lt_zero j)) ⟨_,x2⟩;have q1:(bB cs')[0]?=some (aA x):=by unfold bB; rw [List.getElem?_map,x1]; rfl
     have i2:(0 < (cs'.length:Int))=True:=eq_true (by rw [he'.1]; exact e4);have d12:=qd 12 (by decide) (by decide);have hgo:=(bu (dI dn) cs' p).cl [6,12,2368];simp only [bd] at q2368 hgo;simp only [aA] at q1;simp only [go_sem,am4,am3,am5,am6,am7,q6,q2368,d12,i2,Int.le_refl,Int.toNat_zero,rn,wA,q1];generalize hX:ap 2 _ _=X;obtain ⟨hh2,out,rfl,r6,r12,oo,hin⟩:=hhl _ _ _ hX rfl rfl (by rw [he'.1]; rfl) (by rw [he'.1]; rfl) rfl q6 rfl q2368;refine ⟨out,?_,hfin out g' hv' hin⟩;simp only [dL] at r12;simp only [go_sem,am4,am3,am5,am6,am7,r6,r12]
def aoJ (x:Ri) (d:Rd):Bool:=vi x && vd d && (x.all || decide (zI x.lo≤zI d) && decide (zI d≤zI x.hi))
theorem ao6 {x:Ri} {d:Rd} (ox:OkI x) (od:Ok0 d):R F.interval_Has [ax x,ag d] []=some (B (aoJ x d),[]):=by
 refine aE aoQ rfl ?_;have v1:=yx ox;have v2:=gg od;have c1:=wv ox.lo od;have c2:=wv od ox.hi;unfold aoJ;cases h1:vi x with
 | false =>
  rw [h1] at v1;simp only [ax,aA,ag,am] at v1 v2;simp only [anW,an1,ax,aA,ag,am,go_sem,am4,am3,am5,am6,am7,v1,v2]
 | true =>
  rw [h1] at v1;cases h2:vd d with
  | false =>
   rw [h2] at v2;simp only [ax,aA,ag,am] at v1 v2;simp only [anW,an1,ax,aA,ag,am,go_sem,am4,am3,am5,am6,am7,v1,v2]
  | true =>
   rw [h2] at v2;cases h3:x.all with
   | true =>
    simp only [ax,aA,ag,am,h3] at v1 v2;simp only [anW,an1,ax,aA,ag,am,go_sem,am4,am3,am5,am6,am7,v1,v2,h3]
   | false =>
    have hl:vd x.lo=true∧vd x.hi=true:=by
     unfold vi at h1;rw [h3] at h1;simp at h1;exact ⟨h1.1,h1.2.1⟩
    rw [if_pos ⟨hl.1,h2⟩] at c1;rw [if_pos ⟨h2,hl.2⟩] at c2;have e1:=@QA (zI x.lo) (zI d);have e2:=@QA (zI d) (zI x.hi);generalize bI (zI x.lo) (zI d)=q1 at c1 e1;generalize bI (zI d) (zI x.hi)=q2 at c2 e2;simp only [ax,aA,ag,am,h3] at v1 v2 c1 c2;by_cases h4:zI x.lo≤zI d
    ·simp only [anW,an1,ax,aA,ag,am,go_sem,am4,am3,am5,am6,am7,v1,v2,h3,c1,c2,e1,e2,h4]
    ·simp only [anW,an1,ax,aA,ag,am,go_sem,am4,am3,am5,am6,am7,v1,v2,h3,c1,e1,h4]
theorem aoS {x:Ri} {d:Rd} (h:In (qv d) x) (hd:vd d=true):aoJ x d=true:=by
 unfold aoJ;rw [h.v,hd];rcases h with rfl | ⟨h1,_,h3,h4⟩
 ·rfl
 ·rw [DY] at h3 h4;simp [h3,h4]
def u8R (l:List Nat):List (List AV):=l.map fun k=>[.v (.int .u8 (k:Nat))]
@[go_sem] theorem aqq (l:List Nat):(u8R l).length=l.length:=by simp [u8R]
def apr (d:Nat) (out:List Rd) (x:AV) (o:Ob):Prop:=(out=[]∧x=.emp∧o=.dead)∨(0 < out.length∧x=.rsl d none 3 0 out.length∧o=.ar 3 (yu out))
def D9 (a:Rp) (dom:List Ri) (p:Int) (b:Ri):Ri:=if (kJ a dom && di p)=true then (if (nU (jD a dom p) b).2=true then (nU (jD a dom p) b).1 else cQ) else cQ
theorem Ol {a:Rp} {dom:List Ri} (oa:OkP a) (od:∀ x ∈ dom,OkI x) (h2:dom.length≤100000) {p:Int} {b:Ri} (ob:OkI b) (hb:(kJ a dom && di p)=true→R F.bound_Bernstein [bL a,.sl 7 (bB dom),I p] []=some (ax b,[])) :
  R F.bound_Best [bL a,.sl 7 (bB dom),I p] []=some (ax (D9 a dom p b),[]):=by
 refine aE MU rfl ?_;have hf:=DQ oa od h2 (p:=p);have hw:=A5;have hn:=NF oa od h2 (p:=p);have on:=Vt (a:=a) (dom:=dom) (p:=p);have hm:=XV (x:=jD a dom p) (y:=b) ⟨on.1.2,on.2.2⟩ ob;unfold D9;generalize jD a dom p=n at hn hm ⊢;generalize nU n b=q at hm ⊢;obtain ⟨m1,m2⟩:=q;cases hq:(kJ a dom && di p) with
 | false =>
  rw [hq] at hf;simp only [bL,ax,aA,cQ,aP] at hf hw;simp only [mF,rK,bL,ax,aA,cQ,aP,go_sem,am4,am3,am5,hf,hw]
 | true =>
  rw [hq] at hf
  replace hb:=hb hq
  simp only [bL,ax,aA,cQ,aP] at hf hw hn hb hm;cases m2 with
  | true =>
   simp only [mF,rK,bL,ax,aA,go_sem,am4,am3,am5,am6,am7,hf,hw,hn,hb,hm]
  | false =>
   simp only [mF,rK,bL,ax,aA,cQ,aP,go_sem,am4,am3,am5,am6,am7,hf,hw,hn,hb,hm]
theorem VI.ok' {x:Ri} (h:VI x):OkI x:=⟨h.1.2,h.2.2⟩
def apZ (X:Option (Ex × St)):Option Rd→Prop
 | some d=>∃ hh,X=some (.normal,⟨upd (upd (fun _=>.any) 6 (.ref 6 none 0 0 0)) 3 (.ref 3 none 0 0 0),hh⟩)∧hh 3=.bx [B d.neg,lm d.m,I d.e]∧hh 6=.bx zb
 | none=>∃ hh,X=some (.ret,⟨upd (upd (fun _=>.any) 7 (B false)) 6 (.ref 6 none 0 0 0),hh⟩)∧hh 6=.bx zb
theorem apB {x:Rd} (ox:Ok0 x) {n:Nat} (hn:n≤100000):∀ (k i:Nat),i+k=n→∀ (c:Rd),Ok0 c→∀ (s:ae) (h:ac),s 3=.ref 3 none 0 0 0→s 4=.ref 4 none 0 0 0→s 6=.ref 6 none 0 0 0→s 10=I n→s 11=I i→h 3=.bx [B c.neg,lm c.m,I c.e]→h 4=.bx [B x.neg,lm x.m,I x.e]→h 6=.bx zb →
  apZ (ap 0 [3,6] (aq (ak R (aG false) anY) [3,4,6,10,11] [3,4,6] s h)) (an3 x k c):=by
 intro k;induction k with
 | zero =>
  intro i hi c oc s h g3 g4 g6 g10 g11 k3 k4 k6;have e1:((i:Int) < (n:Int))=False:=ff (by omega);rw [ai];refine ⟨?hh0,?_,?_,?_⟩;rotate_left
  ·simp only [anY,go_sem,am7,g3,g4,g6,g10,g11,k3,k4,k6,e1];rfl
  ·rfl
  ·rfl
 | succ k ih =>
  intro i hi c oc s h g3 g4 g6 g10 g11 k3 k4 k6;have e1:((i:Int) < (n:Int))=True:=tt (by omega);have e5:IntKind.i64.wrap ((i:Int)+1)=((i+1:Nat):Int):=wi (by omega) (by omega);have hm:=QO oc ox;have om:=(DU c x).2;have ih':=ih (i+1) (by omega);rw [ai];generalize aq _ _ _=L at ih' ⊢;unfold an3;generalize jE c x=r at hm om ⊢;obtain ⟨r1,r2⟩:=r;simp only [rV,ag,am] at hm;by_cases h0:r2=0
  ·subst h0;rw [if_pos rfl];simp only [anY,go_sem,am4,am3,am5,am7,g3,g4,g6,g10,g11,k3,k4,k6,e1,e5,hm];exact ih' r1 om _ _ rfl rfl rfl rfl rfl rfl rfl rfl
  ·rw [if_neg h0];have e2:(r2=0)=False:=ff h0;refine ⟨?hh1,?_,?_⟩;rotate_left
   ·simp only [anY,go_sem,am4,am3,am5,am7,g3,g4,g6,g10,g11,k3,k4,k6,e1,hm,e2];rfl
   ·rfl
theorem ap9 {x:Rd} (ox:Ok0 x) {n:Nat} (hn:n≤100000) {c:Rd} (oc:Ok0 c) (s:ae) (h:ac) (X:Option (Ex × St)) (hX:ap 0 [3,6] (aq (ak R (aG false) anY) [3,4,6,10,11] [3,4,6] s h)=X) (g3:s 3=.ref 3 none 0 0 0) (g4:s 4=.ref 4 none 0 0 0) (g6:s 6=.ref 6 none 0 0 0) (g10:s 10=I n) (g11:s 11=I 0) (k3:h 3=.bx [B c.neg,lm c.m,I c.e]) (k4:h 4=.bx [B x.neg,lm x.m,I x.e]) (k6:h 6=.bx zb) :
  apZ X (an3 x n c):=by
 subst hX;exact apB ox hn n 0 (Nat.zero_add _) c oc s h g3 g4 g6 g10 g11 k3 k4 k6
theorem apv {c x:Rd} (oc:Ok0 c) (ox:Ok0 x) {n:Nat} (hn:n≤100000):R F.poly_times [ag c,ag x,I n] []=some (.tup [ag (aoM x n c).1,B (aoM x n c).2],[]):=by
 refine aE aoZ rfl ?_;have hl:=ap9 ox hn oc;simp only [aos,aoF,ag,am,go_sem,am3];generalize hX:ap 0 [3,6] _=X;have hT:=hl _ _ _ hX rfl rfl rfl rfl rfl rfl rfl rfl;unfold aoM;cases ht:an3 x n c with
 | some d =>
  rw [ht] at hT;obtain ⟨hh,rfl,q3,q6⟩:=hT;simp only [go_sem,am4,am3,am5,q3,q6]
 | none =>
  rw [ht] at hT;obtain ⟨hh,rfl,q6⟩:=hT;simp only [go_sem,am4,am3,am5,q6];rfl
theorem ap0 {d:Rd} (ok:Ok0 d):R F.poly_Eval_1 [.agg (am d)] []=some (B (!vd d),[]):=by
 refine aE aou rfl ?_;have hv:=gg ok;simp only [ag,am] at hv;simp only [aoq,aoB,am,go_sem,am4,am3,am5,hv]
def rdB:List AV→Rd
 | [.v (.bool n),.sl _ m,.v (.int _ e)]=>⟨n,m.map (fun r=>match r with | [.v (.int _ x)]=>x.toNat | _=>0),e⟩
 | _=>aP
theorem apI (d:Rd):rdB (am d)=d:=congrArg (fun m=>(⟨d.neg,m,d.e⟩:Rd)) (lmB d.m)
theorem apC {f:FuncId} {p:Rd→Bool} (hm:(aG false).m f=[]) (hs:(aG false).sh f=[[.o 0 [],.o 2 [],.o 0 []]]) {l:List Rd} (h2:l.length≤100000) (hf:∀ d ∈ l,R f [.agg (am d)] []=some (B (p d),[])):R F.slices_ContainsFunc_api_Dyadic_api_Dyadic_ [.sl 3 (yu l),.fn f [] []] []=some (B (l.any p),[]):=by
 have h1:=CN (k:=3) (g:=true) (f:=f) (rows:=yu l) (p:=fun r=>p (rdB r)) anK.2.1 anK.2.2 (anK.1.2.2.2 false) rfl hm (by rw [akK]; omega) (fun row hr=>by
  simp only [yu,List.mem_map] at hr;obtain ⟨t,ht,rfl⟩:=hr;have hd:=hf t ht;refine ⟨.agg (am t),rfl,rfl,?_⟩;rw [apI];simp only [am] at hd;simp only [am,go_sem,hs,hd])
 have h2:=zT (k:=3) anP.2.1 anP.2.2 (anP.1.2.2.2 false) rfl (anK.1.2.1 false) (anK.1.1 false) (by simp only [go_sem]) h1;have h3:(yu l).any (fun r=>p (rdB r))=l.any p:=by
  unfold yu;rw [List.any_map];congr 1;funext t;exact congrArg p (apI t)
 rw [h3] at h2;exact h2
theorem apk:∀ l:List Rd,(l.any fun d=>!vd d)=!l.all vd
 | []=>rfl
 | d::l=>by rw [List.any_cons,List.all_cons,Bool.not_and,apk l]
theorem apD {l:List Rd} (ol:∀ d ∈ l,Ok0 d) (h2:l.length≤100000):R F.slices_ContainsFunc_api_Dyadic_api_Dyadic_ [.sl 3 (yu l),.fn F.poly_Eval_1 [] []] []=some (B (!l.all vd),[]):=by
 have h:=apC (aou.1.2.1 false) (aou.1.1 false) h2 (p:=fun d=>!vd d) (fun d hd=>ap0 (ol d hd));rw [apk] at h;exact h
def EvI (X:Option (Ex × St)) (S:ae) (o2:Ob) (c6:List AV):Option Rd→Prop
 | some d=>∃ hh,X=some (.normal,⟨S,hh⟩)∧hh 2=o2∧hh 4=.bx zb∧hh 6=.bx c6∧hh 9=.bx [B d.neg,lm d.m,I d.e]∧∀ a,a ≠ 2→a ≠ 4→a ≠ 6→a ≠ 8→a ≠ 9→hh a=.dead
 | none=>∃ hh,X=some (.ret,⟨upd (upd (fun _=>.any) 5 (I 9)) 4 (.ref 4 none 0 0 0),hh⟩)∧hh 4=.bx zb
theorem apE {es:List Int} {xs:List Rd} (ox:∀ d ∈ xs,Ok0 d) (hl:es.length=xs.length) (hb:∀ e ∈ es,0≤e∧e≤32) (h8:es.length≤1000) {o2 o8:Ob} (c2:∀ l,aM l o2=true) (c8:∀ l,aM l o8=true) {c6:List AV} (k6c:∀ l,c6.all (gI l)=true) {A:List Rt} {nA iA:Int} :
  ∀ (k i:Nat),i+k=es.length→∀ (c:Rd),Ok0 c→∀ (s:ae) (h:ac),s 1=.sl 3 (yu xs)→s 4=.ref 4 none 0 0 0→s 6=.ref 6 none 0 0 0→s 9=.ref 9 none 0 0 0→s 31=.sl 4 (df A)→s 32=I nA→s 33=I iA→s 40=.sl 1 (bw es)→s 41=I es.length→s 42=I i→h 2=o2→h 4=.bx zb→h 6=.bx c6→h 8=o8→h 9=.bx [B c.neg,lm c.m,I c.e] →
  EvI (ap 2 [1,4,6,9,31,32,33] (aq (ak R (aG false) anX) [1,4,6,9,31,32,33,40,41,42] [2,4,6,8,9] s h)) (upd (upd (upd (upd (upd (upd (upd (fun _=>.any) 33 (I iA)) 32 (I nA)) 31 (.sl 4 (df A))) 9 (.ref 9 none 0 0 0)) 6 (.ref 6 none 0 0 0)) 4 (.ref 4 none 0 0 0)) 1 (.sl 3 (yu xs))) o2 c6 (an0 (es.drop i) (xs.drop i) c):=by
 intro k;induction k with
 | zero =>
  intro i hi c oc s h g1 g4 g6 g9 g31 g32 g33 g40 g41 g42 k2 k4 k6 k8 k9;have e1:((i:Int) < (es.length:Int))=False:=ff (by omega);rw [List.drop_eq_nil_of_le (show es.length≤i by omega),ai];have hc2:=c2 [2,4,6,8,9];have hc8:=c8 [2,4,6,8,9];have hc6:=k6c [2,4,6,8,9];refine ⟨?hh0,?_,?_,?_,?_,?_,?_⟩;rotate_left
  ·simp only [anX,go_sem,am7,g1,g4,g6,g9,g31,g32,g33,g40,g41,g42,k2,k4,k6,k8,k9,hc2,hc8,hc6,e1];rfl
  ·rfl
  ·rfl
  ·rfl
  ·rfl
  ·intro a a1 a2 a3 a4 a5;simp only [acj,a1,a2,a3,a4,a5,if_false]
 | succ k ih =>
  intro i hi c oc s h g1 g4 g6 g9 g31 g32 g33 g40 g41 g42 k2 k4 k6 k8 k9;have hlt:i < es.length:=by omega
  have hlt2:i < xs.length:=by omega
  have e1:((i:Int) < (es.length:Int))=True:=tt (by omega);have e2:aZ (yu xs) (i:Int)=some (.ipt (am xs[i])):=Zn rfl (List.getElem?_eq_getElem hlt2);have e3:aZ (bw es) (i:Int)=some (.ipt [I es[i]]):=lM rfl (List.getElem?_eq_getElem hlt);have e5:IntKind.i64.wrap ((i:Int)+1)=((i+1:Nat):Int):=wi (by omega) (by omega);have od:=ox xs[i] (List.getElem_mem hlt2);obtain ⟨r1,r2⟩:=hb es[i] (List.getElem_mem hlt);have ih':=ih (i+1) (by omega);rw [apm hlt hlt2,ai];generalize aq _ _ _=L at ih' ⊢;generalize es[i]=e at e3 r1 r2 ⊢;obtain ⟨n,rfl⟩:=Int.eq_ofNat_of_zero_le r1;rw [Int.toNat_natCast];generalize xs[i]=x at e2 od ⊢;have hm:=apv oc od (n:=n) (by omega);have hok:=aoG (x:=x) n c;unfold aoM at hm;have hc2:=c2 [2,4,6,8,9];have hc8:=c8 [2,4,6,8,9];have hc6:=k6c [2,4,6,8,9];cases hT:an3 x n c with
  | some d =>
   have oc2:=hok d oc hT;rw [hT] at hm;simp only [ag,am] at hm e2;rw [Option.bind_some];simp only [anX,go_sem,am4,am3,am5,am6,am7,g1,g4,g6,g9,g31,g32,g33,g40,g41,g42,k2,k4,k6,k8,k9,hc2,hc8,hc6,e1,e2,e3,e5,hm];exact ih' d oc2 _ _ rfl rfl rfl rfl rfl rfl rfl rfl rfl rfl rfl rfl rfl rfl rfl
  | none =>
   rw [hT] at hm;simp only [ag,am,aP] at hm e2;refine ⟨?hh1,?_,?_⟩;rotate_left
   ·simp only [anX,go_sem,am4,am3,am5,am6,am7,g1,g4,g6,g9,g31,g32,g33,g40,g41,g42,k2,k4,k6,k8,k9,hc2,hc8,hc6,e1,e2,e3,hm];rfl
   ·rfl
theorem aqa {es:List Int} {xs:List Rd} (ox:∀ d ∈ xs,Ok0 d) (hl:es.length=xs.length) (hb:∀ e ∈ es,0≤e∧e≤32) (h8:es.length≤1000) {o2 o8:Ob} (c2:∀ l,aM l o2=true) (c8:∀ l,aM l o8=true) {c6:List AV} (k6c:∀ l,c6.all (gI l)=true) {A:List Rt} {nA iA:Int} {c:Rd} (oc:Ok0 c) (s:ae) (h:ac) (X:Option (Ex × St)) (hX:ap 2 [1,4,6,9,31,32,33] (aq (ak R (aG false) anX) [1,4,6,9,31,32,33,40,41,42] [2,4,6,8,9] s h)=X)
  (g1:s 1=.sl 3 (yu xs)) (g4:s 4=.ref 4 none 0 0 0) (g6:s 6=.ref 6 none 0 0 0) (g9:s 9=.ref 9 none 0 0 0) (g31:s 31=.sl 4 (df A)) (g32:s 32=I nA) (g33:s 33=I iA) (g40:s 40=.sl 1 (bw es)) (g41:s 41=I es.length) (g42:s 42=I 0) (k2:h 2=o2) (k4:h 4=.bx zb) (k6:h 6=.bx c6) (k8:h 8=o8) (k9:h 9=.bx [B c.neg,lm c.m,I c.e]) :
  EvI X (upd (upd (upd (upd (upd (upd (upd (fun _=>.any) 33 (I iA)) 32 (I nA)) 31 (.sl 4 (df A))) 9 (.ref 9 none 0 0 0)) 6 (.ref 6 none 0 0 0)) 4 (.ref 4 none 0 0 0)) 1 (.sl 3 (yu xs))) o2 c6 (an0 es xs c):=by
 subst hX;exact apE ox hl hb h8 c2 c8 k6c es.length 0 (Nat.zero_add _) c oc s h g1 g4 g6 g9 g31 g32 g33 g40 g41 g42 k2 k4 k6 k8 k9
theorem ao7:∀ {es:List Int} {xs:List Rd} {c d:Rd},Ok0 c→an0 es xs c=some d→Ok0 d
 | e::es,x::xs,c,d,oc,h=>by
  unfold an0 at h;rw [Option.bind_eq_some_iff] at h;obtain ⟨y,h1,h2⟩:=h;exact ao7 (aoG _ c y oc h1) h2
 | [],_,c,d,oc,h=>by cases h; exact oc
 | _::_,[],c,d,oc,h=>by cases h; exact oc
def IsD (c:List AV) (q:Rd):Prop:=c=[B q.neg,lm q.m,I q.e]∨(c=zb∧q=aP)
theorem IsD.cl {c:List AV} {q:Rd} (h:IsD c q) (l:List Nat):c.all (gI l)=true:=by
 rcases h with rfl | ⟨rfl,_⟩ <;> rfl
def EvO (X:Option (Ex × St)) (r:Rd × Int):Prop:=(r.2=0∧∃ hh c6,X=some (.normal,⟨upd (upd (fun _=>.any) 6 (.ref 6 none 0 0 0)) 4 (.ref 4 none 0 0 0),hh⟩)∧hh 4=.bx zb∧hh 6=.bx c6∧IsD c6 r.1) ∨
 (r=(aP,9)∧∃ hh,X=some (.ret,⟨upd (upd (fun _=>.any) 5 (I 9)) 4 (.ref 4 none 0 0 0),hh⟩)∧hh 4=.bx zb)
theorem apF {v:Int} {A:List Rt} {xs:List Rd} (ox:∀ d ∈ xs,Ok0 d) (hx:(xs.length:Int)=v) (hA:∀ t ∈ A,VT v t) (hn:A.length≤100000) {o2:Ob} (c2:∀ l,aM l o2=true) :
  ∀ (k i:Nat),i+k=A.length→∀ (q:Rd),Ok0 q→∀ (c6:List AV),IsD c6 q→∀ (s:ae) (h:ac),s 1=.sl 3 (yu xs)→s 4=.ref 4 none 0 0 0→s 6=.ref 6 none 0 0 0→s 31=.sl 4 (df A)→s 32=I A.length→s 33=I i→h 2=o2→h 4=.bx zb→h 6=.bx c6 →
  EvO (ap 0 [4,6] (aq (ak R (aG false) an6) [1,4,6,31,32,33] [2,4,6] s h)) (aod xs (A.drop i) q):=by
 intro k;induction k with
 | zero =>
  intro i hi q oq c6 hq s h g1 g4 g6 g31 g32 g33 k2 k4 k6;have e1:((i:Int) < (A.length:Int))=False:=ff (by omega);have hc2:=c2 [2,4,6];have hc6:=hq.cl [2,4,6];rw [List.drop_eq_nil_of_le (by omega),ai];refine .inl ⟨rfl,?hh0,c6,?_,?_,?_,hq⟩;rotate_left
  ·simp only [an6,go_sem,am7,g1,g4,g6,g31,g32,g33,k2,k4,k6,hc2,hc6,e1];rfl
  ·rfl
  ·rfl
 | succ k ih =>
  intro i hi q oq c6 hq s h g1 g4 g6 g31 g32 g33 k2 k4 k6;have hlt:i < A.length:=by omega
  have e1:((i:Int) < (A.length:Int))=True:=tt (by omega);have e2:aZ (df A) (i:Int)=some (.ipt (en A[i])):=pE rfl (List.getElem?_eq_getElem hlt);have e5:IntKind.i64.wrap ((i:Int)+1)=((i+1:Nat):Int):=wi (by omega) (by omega);have vt:=hA _ (List.getElem_mem hlt);have ih':=ih (i+1) (by omega);rw [List.drop_eq_getElem_cons hlt];generalize A[i]=t at e2 vt ⊢;have hlen:=vt.len;have hl1:=aqa ox (es:=t.exps) (by omega) vt.b (by have:=vt.v8; omega) c2 (o8:=.bx [.sl 1 (bw t.exps),B t.c.neg,lm t.c.m,I t.c.e]) (fun _=>rfl) (fun l=>hq.cl l) (A:=A) (nA:=(A.length:Int)) (iA:=(i:Int)) vt.c;have hok:=fun d=>ao7 (es:=t.exps) (xs:=xs) (c:=t.c) (d:=d) vt.c;have hc2:=c2 [2,4,6];have hc6:=hq.cl [2,4,6];rw [ai];generalize aq _ _ _=L at ih' ⊢;simp only [en] at e2;simp only [an6,go_sem,am4,am3,am5,am7,g1,g4,g6,g31,g32,g33,k2,k4,k6,hc2,hc6,e1,e2];generalize hXX:ap 2 _ _=X;have hM:=hl1 _ _ _ hXX rfl rfl rfl rfl rfl rfl rfl rfl rfl rfl rfl rfl rfl rfl rfl;cases hr:an0 t.exps xs t.c with
  | none =>
   rw [hr] at hM;obtain ⟨hh,rfl,q4⟩:=hM;rw [aoU hr];refine .inr ⟨rfl,hh,?_,q4⟩;simp only [go_sem]
  | some d =>
   rw [hr] at hM;obtain ⟨hh,rfl,q2,q4,q6,q9,qd⟩:=hM;rw [aoT hr];have hadd:=apN oq (hok d hr);have oadd:=(ZP q d).2;have d1:hh 2512=.dead:=qd _ (by decide) (by decide) (by decide) (by decide) (by decide);have d2:hh 2513=.dead:=qd _ (by decide) (by decide) (by decide) (by decide) (by decide);have d3:hh 13=.dead:=qd _ (by decide) (by decide) (by decide) (by decide) (by decide);generalize Jc q d=r at hadd oadd ⊢;obtain ⟨r1,r2⟩:=r;simp only [rV,ag,am] at hadd;by_cases h0:r2=0
   ·subst h0;rw [if_pos rfl];rcases hq with rfl | ⟨rfl,rfl⟩
    ·simp only [go_sem,am4,am3,am5,q4,q6,q9,d1,d2,d3,hadd,e5];refine ih' r1 oadd _ (.inl rfl) _ _ ?_ ?_ ?_ ?_ ?_ ?_ ?_ ?_ ?_
     all_goals first | rfl | assumption | (simp only [acj,Nat.reduceEqDiff,↓reduceIte,q2,q4]; done)
    ·simp only [aP] at hadd;simp only [go_sem,am4,am3,am5,q4,q6,q9,d1,d2,d3,hadd,e5];refine ih' r1 oadd _ (.inl rfl) _ _ ?_ ?_ ?_ ?_ ?_ ?_ ?_ ?_ ?_
     all_goals first | rfl | assumption | (simp only [acj,Nat.reduceEqDiff,↓reduceIte,q2,q4]; done)
   ·rw [if_neg h0];have f1:(r2=0)=False:=ff h0;rcases hq with rfl | ⟨rfl,rfl⟩
    ·refine .inr ⟨rfl,?hh1,?_,?_⟩;rotate_left
     ·simp only [go_sem,am4,am3,am5,q4,q6,q9,d1,d2,d3,hadd,f1];rfl
     ·rfl
    ·simp only [aP] at hadd;refine .inr ⟨rfl,?hh2,?_,?_⟩;rotate_left
     ·simp only [go_sem,am4,am3,am5,q4,q6,q9,d1,d2,d3,hadd,f1];rfl
     ·rfl
theorem aqb {v:Int} {A:List Rt} {xs:List Rd} (ox:∀ d ∈ xs,Ok0 d) (hx:(xs.length:Int)=v) (hA:∀ t ∈ A,VT v t) (hn:A.length≤100000) {o2:Ob} (c2:∀ l,aM l o2=true) (s:ae) (h:ac) (X:Option (Ex × St)) (hX:ap 0 [4,6] (aq (ak R (aG false) an6) [1,4,6,31,32,33] [2,4,6] s h)=X)
  (g1:s 1=.sl 3 (yu xs)) (g4:s 4=.ref 4 none 0 0 0) (g6:s 6=.ref 6 none 0 0 0) (g31:s 31=.sl 4 (df A)) (g32:s 32=I A.length) (g33:s 33=I 0) (k2:h 2=o2) (k4:h 4=.bx zb) (k6:h 6=.bx zb) :
  EvO X (aod xs A aP):=by
 subst hX;exact apF ox hx hA hn c2 A.length 0 (Nat.zero_add _) aP bm.2 zb (.inr ⟨rfl,rfl⟩) s h g1 g4 g6 g31 g32 g33 k2 k4 k6
theorem apG {a:Rp} {xs:List Rd} (oa:OkP a) (ox:∀ d ∈ xs,Ok0 d) (h2:xs.length≤100000):R F.poly_Eval [bL a,vO xs] []=some (rV (aov a xs),[]):=by
 refine aE apc rfl ?_;have hv:=CV oa;have hc:=apD ox h2;simp only [bL] at hv;unfold aov apX;cases va:vp a with
 | false =>
  rw [va] at hv;rw [Bool.false_and,if_neg Bool.false_ne_true];simp only [an7,aoi,bL,vO,go_sem,am4,am3,am5,hv];rfl
 | true =>
  rw [va] at hv;by_cases hl:(xs.length:Int)=a.vars
  ·have e1:((xs.length:Int)=a.vars)=True:=eq_true hl;rw [Bool.true_and,decide_eq_true hl,Bool.true_and];cases hav:xs.all vd with
   | false =>
    rw [hav] at hc;rw [if_neg Bool.false_ne_true];simp only [an7,aoi,bL,vO,go_sem,am4,am3,am5,hv,e1,hc,Bool.not_false,Bool.not_true];rfl
   | true =>
    rw [hav] at hc;rw [if_pos rfl];obtain ⟨ka,a0,a8,al⟩:=To oa va;have hlo:=aqb ox hl ka.t (by omega) (o2:=.bx [I a.vars,.sl 4 (df a.terms)]) (fun _=>rfl);simp only [an7,aoi,bL,vO,go_sem,am4,am3,am5,hv,e1,hc,Bool.not_true];generalize hX:ap 0 [4,6] _=X;have hO:=hlo _ _ _ hX rfl rfl rfl rfl rfl rfl rfl rfl rfl;generalize aod xs a.terms aP=r at hO ⊢;obtain ⟨r1,r2⟩:=r;rcases hO with ⟨h0,hh,c6,rfl,q4,q6,hd⟩ | ⟨h0,hh,rfl,q4⟩
    ·have h0':r2=0:=h0;subst h0';rcases hd with rfl | ⟨rfl,hr⟩
     ·simp only [rV,ag,am,go_sem,am4,am3,am5,q4,q6]
     ·have hr':r1=aP:=hr;subst hr';simp only [go_sem,am4,am3,am5,q4,q6];rfl
    ·cases h0;simp only [go_sem,am4,am3,am5,q4];rfl
  ·have e1:((xs.length:Int)=a.vars)=False:=eq_false hl;rw [Bool.true_and,decide_eq_false hl,Bool.false_and,if_neg Bool.false_ne_true];simp only [an7,aoi,bL,vO,go_sem,am4,am3,am5,hv,e1];rfl
theorem ao8 {xs:List Rd}:∀ (l:List Rt) (s:Rd),vd s=true→Ok0 s→vd (aod xs l s).1=true∧Ok0 (aod xs l s).1
 | [],s,h1,h2=>⟨h1,h2⟩
 | t::l,s,h1,h2=>by
  cases hp:an0 t.exps xs t.c with
  | none =>
   rw [aoU hp];exact bm
  | some d =>
   rw [aoT hp];split
   ·exact ao8 l _ (ZP s d).1 (ZP s d).2
   ·exact bm
theorem apw (a:Rp) (xs:List Rd):vd (aov a xs).1=true∧Ok0 (aov a xs).1:=by
 unfold aov;split
 ·exact ao8 _ _ bm.1 bm.2
 ·exact bm
theorem ap2 {a b:Rd} (h:(jE a b).2=0):qv (jE a b).1=qv a*qv b:=by
 have e:=ZS h;have e2:=C1 16384;have e3:(zI (jE a b).1:Rat)*pQ 16384=(zI a:Rat)*zI b:=by
  unfold pQ;rw [← Rat.intCast_mul,← Rat.intCast_mul,e]
 unfold qv EQ;generalize eQ 16384=x at e2 ⊢;generalize pQ 16384=y at e2 e3;generalize (zI (jE a b).1:Rat)=m at e3 ⊢
 calc m*x=m*(x*y)*x:=by rw [e2,Rat.mul_one]
  _=(m*y)*x*x:=by grind
  _=_:=by rw [e3]; grind
theorem ap3 {a b:Rd} (h:(Jc a b).2=0):qv (Jc a b).1=qv a+qv b:=by
 unfold qv;rw [apf h,Rat.intCast_add,Rat.add_mul]
theorem ao9 {x:Rd}:∀ {n:Nat} {c d:Rd},an3 x n c=some d→qv d=qv c*qv x ^ n
 | 0,c,d,h=>by
  cases h;rw [Rat.pow_zero,Rat.mul_one]
 | n+1,c,d,h=>by
  unfold an3 at h;split at h
  ·rename_i h0;rw [ao9 h,ap2 h0,Rat.pow_succ];grind
  ·cases h
theorem apl:∀ {es:List Int} {xs:List Rd} {c d:Rd},an0 es xs c=some d→qv d=qv c*C5 (xs.map qv) (yC es)
 | e::es,x::xs,c,d,h=>by
  simp only [an0,Option.bind_eq_some_iff] at h;obtain ⟨m,h1,h2⟩:=h;show qv d=qv c*(qv x ^ e.toNat*C5 (xs.map qv) (yC es));rw [apl h2,ao9 h1,Rat.mul_assoc]
 | [],xs,c,d,h=>by
  simp only [an0] at h;cases h;cases xs <;> simp [yC,C5]
 | e::es,[],c,d,h=>by
  simp only [an0] at h;cases h;simp [yC,C5]
theorem apx {xs:List Rd}:∀ {l:List Rt} {s:Rd},(aod xs l s).2=0→qv (aod xs l s).1=qv s+fv (xs.map qv) l
 | [],s,_=>by
  simp only [aod,fv];grind
 | t::l,s,h=>by
  unfold aod at h ⊢;cases hp:an0 t.exps xs t.c with
  | none=>rw [hp] at h; simp at h
  | some d =>
   rw [hp] at h;simp only at h ⊢;split at h
   ·rename_i h0;rw [if_pos h0,apx h,ap3 h0,apl hp];show _=qv s+(qv t.c*C5 (xs.map qv) (yC t.exps)+fv (xs.map qv) l);grind
   ·simp at h
theorem apQ {a:Rp} {xs:List Rd} (h:(aov a xs).2=0):qv (aov a xs).1=fv (xs.map qv) a.terms:=by
 unfold aov at h ⊢;split at h
 ·rename_i he;rw [if_pos he,apx h,C2];grind
 ·simp at h
theorem arY {k j:Nat} (hj:j≤64):cK .shr (I k) (I j)=some (I ((k / 2 ^ j:Nat):Int)):=by
 simp_all [zu,if_neg,IntKind.bits,Option.some.injEq,AV.v.injEq,Value.int.injEq,true_and,Int.fdiv_eq_ediv_of_nonneg,Int.pow_nonneg,Nat.min_eq_left]
theorem arE {n:Nat} (h:n < 9223372036854775808):cK .and (I n) (I 1)=some (I ((n % 2:Nat):Int)):=by
 rw [Ik];have e:(BitVec.ofInt IntKind.i64.bits (n:Int) &&& BitVec.ofInt IntKind.i64.bits 1).toNat=n % 2:=by
  show (BitVec.ofInt 64 (n:Int) &&& BitVec.ofInt 64 1).toNat=n % 2;rw [BitVec.toNat_and];have e2:(BitVec.ofInt 64 (n:Int)).toNat=n:=by
   rw [BitVec.toNat_ofInt];omega
  rw [e2,show (BitVec.ofInt 64 (1:Int)).toNat=1 from rfl,Nat.and_one_is_mod]
 rw [e,i64_in] <;> omega
def cE (dom:List Ri) (k j:Nat):Rd:=if k / 2 ^ j % 2=1 then (dom.getD j cQ).hi else (dom.getD j cQ).lo
def cN (dom:List Ri) (k i:Nat):List Rd:=(List.range i).map (cE dom k)
theorem aqX {dom k i}:(cN dom k i).length=i:=by simp [cN]
theorem arg {dom k i}:cN dom k (i+1)=cN dom k i++[cE dom k i]:=by simp [cN,List.range_succ]
theorem apV {d:Nat} {out:List Rd} {r:Rd}:apr d (out++[r]) (.rsl d none 3 0 (out.length+1)) (.ar 3 (yu out++[[B r.neg,lm r.m,I r.e]])) :=
 Or.inr ⟨by simp,by simp,by simp [yu,am]⟩
theorem arf {dom:List Ri} {k:Nat} (h1:dom.length≤60) (hk:k < 9223372036854775808):∀ (m i:Nat),i+m=dom.length→∀ (s:ae) (h:ac),s 0=.sl 7 (bB dom)→s 1=I k→s 6=I i →
  (apr 25 (cN dom k i) (s 5) (h 25)∧h 33=.dead∨apr 33 (cN dom k i) (s 5) (h 33)∧h 25=.dead) →
  ∃ x hh,ap 0 [5] (aq (ak R (aG false) aoz) [0,1,5,6] [25,33] s h)=some (.normal,⟨upd (fun _=>.any) 5 x,hh⟩) ∧
   (apr 25 (cN dom k dom.length) x (hh 25)∨apr 33 (cN dom k dom.length) x (hh 33)):=by
 intro m;induction m with
 | zero =>
  intro i hi s h k0 k1 k6 hacc;have:i=dom.length:=by omega
  subst this;rw [ai];rcases hacc with ⟨⟨g2,h5,hh⟩ | ⟨g2,h5,hh⟩,hz⟩ | ⟨⟨g2,h5,hh⟩ | ⟨g2,h5,hh⟩,hz⟩
  ·refine ⟨.emp,?hh0,?_,Or.inl (Or.inl ⟨g2,rfl,?_⟩)⟩;rotate_left
   ·simp only [aoz,go_sem,am4,am3,am5,am6,am7,k0,k1,k6,h5,hh,hz,Int.lt_irrefl];rfl
   ·rfl
  ·refine ⟨.rsl 25 none 3 0 (cN dom k dom.length).length,?hh1,?_,Or.inl (Or.inr ⟨g2,rfl,?_⟩)⟩;rotate_left
   ·simp only [aoz,go_sem,am4,am3,am5,am6,am7,k0,k1,k6,h5,hh,hz,Int.lt_irrefl];rfl
   ·rfl
  ·refine ⟨.emp,?hh2,?_,Or.inr (Or.inl ⟨g2,rfl,?_⟩)⟩;rotate_left
   ·simp only [aoz,go_sem,am4,am3,am5,am6,am7,k0,k1,k6,h5,hh,hz,Int.lt_irrefl];rfl
   ·rfl
  ·refine ⟨.rsl 33 none 3 0 (cN dom k dom.length).length,?hh3,?_,Or.inr (Or.inr ⟨g2,rfl,?_⟩)⟩;rotate_left
   ·simp only [aoz,go_sem,am4,am3,am5,am6,am7,k0,k1,k6,h5,hh,hz,Int.lt_irrefl];rfl
   ·rfl
 | succ m ih =>
  intro i hi s h k0 k1 k6 hacc;have ih':=ih (i+1) (by omega);have hlt:i < dom.length:=by omega
  have e1:((i:Int) < (dom.length:Int))=True:=tt (by omega);have e2:aZ (bB dom) (i:Int)=some (.ipt (aA dom[i])):=DO rfl (List.getElem?_eq_getElem hlt);have e3:IntKind.i64.wrap ((i:Int)+1)=((i+1:Nat):Int):=wi (by omega) (by omega);have e4:=arY (k:=k) (j:=i) (by omega);have e5:=arE (n:=k / 2 ^ i) (Nat.lt_of_le_of_lt (Nat.div_le_self _ _) hk);have eg:dom.getD i cQ=dom[i]:=by simp [hlt]
  have q1:((cN dom k i).length+1)*40≤140737488355328:=by rw [aqX]; omega
  have f3:=tt q1;rw [ai];rw [arg] at ih';unfold cE at ih';rw [eg] at ih';generalize aq _ _ _=L at ih' ⊢;generalize dom[i]=x at e2 ih';generalize cN dom k i=out at hacc q1 f3 ih' ⊢;have hb:k / 2 ^ i % 2=1∨k / 2 ^ i % 2=0:=by omega
  generalize k / 2 ^ i=q at e4 e5 hb ih';generalize q % 2=b at e5 hb ih';simp only [aA] at e2;rcases hb with rfl | rfl
  ·rw [if_pos rfl] at ih';rcases hacc with ⟨⟨rfl,h5,hh⟩ | ⟨g2,h5,hh⟩,hz⟩ | ⟨⟨rfl,h5,hh⟩ | ⟨g2,h5,hh⟩,hz⟩
   ·simp only [aoz,go_sem,am4,am3,am5,am6,am7,k0,k1,k6,h5,hh,hz,e1,e2,e3,e4,e5,Int.natCast_one];exact ih' _ _ rfl rfl rfl (Or.inl ⟨apV,rfl⟩)
   ·simp only [aoz,go_sem,am4,am3,am5,am6,am7,k0,k1,k6,h5,hh,hz,e1,e2,e3,e4,e5,f3,true_or,Nat.zero_add,Nat.le_refl,Int.natCast_one];exact ih' _ _ rfl rfl rfl (Or.inl ⟨apV,rfl⟩)
   ·simp only [aoz,go_sem,am4,am3,am5,am6,am7,k0,k1,k6,h5,hh,hz,e1,e2,e3,e4,e5,Int.natCast_one];exact ih' _ _ rfl rfl rfl (Or.inl ⟨apV,rfl⟩)
   ·simp only [aoz,go_sem,am4,am3,am5,am6,am7,k0,k1,k6,h5,hh,hz,e1,e2,e3,e4,e5,f3,true_or,Nat.zero_add,Nat.le_refl,Int.natCast_one];exact ih' _ _ rfl rfl rfl (Or.inr ⟨apV,rfl⟩)
  ·rw [if_neg (by decide)] at ih';rcases hacc with ⟨⟨rfl,h5,hh⟩ | ⟨g2,h5,hh⟩,hz⟩ | ⟨⟨rfl,h5,hh⟩ | ⟨g2,h5,hh⟩,hz⟩
   ·simp only [aoz,go_sem,am4,am3,am5,am6,am7,k0,k1,k6,h5,hh,hz,e1,e2,e3,e4,e5,Int.natCast_zero,anb];exact ih' _ _ rfl rfl rfl (Or.inr ⟨apV,rfl⟩)
   ·simp only [aoz,go_sem,am4,am3,am5,am6,am7,k0,k1,k6,h5,hh,hz,e1,e2,e3,e4,e5,f3,true_or,Nat.zero_add,Nat.le_refl,Int.natCast_zero,anb];exact ih' _ _ rfl rfl rfl (Or.inl ⟨apV,rfl⟩)
   ·simp only [aoz,go_sem,am4,am3,am5,am6,am7,k0,k1,k6,h5,hh,hz,e1,e2,e3,e4,e5,Int.natCast_zero,anb];exact ih' _ _ rfl rfl rfl (Or.inr ⟨apV,rfl⟩)
   ·simp only [aoz,go_sem,am4,am3,am5,am6,am7,k0,k1,k6,h5,hh,hz,e1,e2,e3,e4,e5,f3,true_or,Nat.zero_add,Nat.le_refl,Int.natCast_zero,anb];exact ih' _ _ rfl rfl rfl (Or.inr ⟨apV,rfl⟩)
theorem arm {dom:List Ri} {k:Nat} (h1:dom.length≤60) (hk:k < 9223372036854775808):R F.r24_Corner [.sl 7 (bB dom),I k] []=some (vO (cN dom k dom.length),[]):=by
 refine aE aq4 rfl ?_;have hlp:=arf h1 hk dom.length 0 (Nat.zero_add _);generalize hL:aq (ak R (aG false) aoz) [0,1,5,6] [25,33]=L at hlp;have hXL:∀ s h,ak R (aG false) (.loop [0,1,5,6] [25,33] aoz) s h=L s h:=fun s h=>by rw [← hL]; rfl
 clear hL;have hlp2:∀ (S:ae) (H:ac) (X:Option (Ex × St)),ap 0 [5] (L S H)=X→S 0=.sl 7 (bB dom)→S 1=I k→S 6=I 0→S 5=.emp→H 25=.dead→H 33=.dead →
   ∃ x hh,X=some (.normal,⟨upd (fun _=>.any) 5 x,hh⟩)∧(apr 25 (cN dom k dom.length) x (hh 25)∨apr 33 (cN dom k dom.length) x (hh 33)):=fun S H X hX k0 k1 k6 k5 a b=>by
  rw [← hX];exact hlp S H k0 k1 k6 (Or.inl ⟨Or.inl ⟨rfl,k5,a⟩,b⟩)
 clear hlp;simp only [aqz,aqN,hXL,go_sem,am4,am3,am5,am6,am7];generalize hX2:ap 0 [5] (L _ _)=X;obtain ⟨x,hh,g0,hacc⟩:=hlp2 _ _ _ hX2 rfl rfl rfl rfl rfl rfl;rw [g0];generalize cN dom k dom.length=out at hacc ⊢;rcases hacc with (⟨rfl,rfl,h⟩ | ⟨g,rfl,h⟩) | (⟨rfl,rfl,h⟩ | ⟨g,rfl,h⟩)
 ·simp only [go_sem,am4,am3,am5,am6,am7,h,vO,yu,List.map_nil]
 ·simp only [go_sem,am4,am3,am5,am6,am7,h,vO,Nat.zero_add,Nat.le_refl,true_and,and_true]
 ·simp only [go_sem,am4,am3,am5,am6,am7,h,vO,yu,List.map_nil]
 ·simp only [go_sem,am4,am3,am5,am6,am7,h,vO,Nat.zero_add,Nat.le_refl,true_and,and_true]
theorem arZ {a:Rp} {dom:List Ri} {k n:Nat} {o6:List Rd} (h1:dom.length≤60) (hk:k < 9223372036854775808):∀ (m i:Nat),i+m=dom.length→∀ (s:ae) (h:ac),s 1=.sl 7 (bB dom)→s 2=.ref 2 none 0 0 0→s 7=I k→s 19=I n→s 20=I k →
  s 23=.sl 7 (bB dom)→s 24=I dom.length→s 25=I i→h 2=.bx [I a.vars,.sl 4 (df a.terms)]→apr 57 o6 (s 6) (h 57)→apr 43 (cN dom k i) (s 8) (h 43) →
  ∃ x6 x hh,ap 2 [1,2,6,8,19,20] (aq (ak R (aG false) aob) [1,2,6,7,8,19,20,23,24,25] [2,43,57] s h) =
   some (.normal,⟨upd (upd (upd (upd (upd (upd (fun _=>.any) 20 (I k)) 19 (I n)) 8 x) 6 x6) 2 (.ref 2 none 0 0 0)) 1 (.sl 7 (bB dom)),hh⟩) ∧
   apr 57 o6 x6 (hh 57)∧apr 43 (cN dom k dom.length) x (hh 43)∧hh 2=.bx [I a.vars,.sl 4 (df a.terms)]∧∀ a,a ≠ 2→a ≠ 43→a ≠ 57→hh a=.dead:=by
 intro m;induction m with
 | zero =>
  intro i hi s h k1 k2 k7 k19 k20 k23 k24 k25 q2 h6 h8;have:i=dom.length:=by omega
  subst this;rw [ai];rcases h6 with ⟨g6,h6,hh6⟩ | ⟨g6,h6,hh6⟩ <;> rcases h8 with ⟨g8,h8,hh8⟩ | ⟨g8,h8,hh8⟩
  ·refine ⟨.emp,.emp,?h0,?_,Or.inl ⟨g6,rfl,?_⟩,Or.inl ⟨g8,rfl,?_⟩,?_,?_⟩;rotate_left
   ·simp only [aob,List.tail_cons,go_sem,am4,am3,am5,am6,am7,k1,k2,k7,k19,k20,k23,k24,k25,q2,h6,h8,hh6,hh8,Int.lt_irrefl];rfl
   ·rfl
   ·rfl
   ·rfl
   ·intro b hb hb' hb'';simp only [acj,hb,hb',hb'',if_false]
  ·refine ⟨.emp,.rsl 43 none 3 0 (cN dom k dom.length).length,?h1,?_,Or.inl ⟨g6,rfl,?_⟩,Or.inr ⟨g8,rfl,?_⟩,?_,?_⟩;rotate_left
   ·simp only [aob,List.tail_cons,go_sem,am4,am3,am5,am6,am7,k1,k2,k7,k19,k20,k23,k24,k25,q2,h6,h8,hh6,hh8,Int.lt_irrefl];rfl
   ·rfl
   ·rfl
   ·rfl
   ·intro b hb hb' hb'';simp only [acj,hb,hb',hb'',if_false]
  ·refine ⟨.rsl 57 none 3 0 o6.length,.emp,?h2,?_,Or.inr ⟨g6,rfl,?_⟩,Or.inl ⟨g8,rfl,?_⟩,?_,?_⟩;rotate_left
   ·simp only [aob,List.tail_cons,go_sem,am4,am3,am5,am6,am7,k1,k2,k7,k19,k20,k23,k24,k25,q2,h6,h8,hh6,hh8,Int.lt_irrefl];rfl
   ·rfl
   ·rfl
   ·rfl
   ·intro b hb hb' hb'';simp only [acj,hb,hb',hb'',if_false]
  ·refine ⟨.rsl 57 none 3 0 o6.length,.rsl 43 none 3 0 (cN dom k dom.length).length,?h3,?_,Or.inr ⟨g6,rfl,?_⟩,Or.inr ⟨g8,rfl,?_⟩,?_,?_⟩;rotate_left
   ·simp only [aob,List.tail_cons,go_sem,am4,am3,am5,am6,am7,k1,k2,k7,k19,k20,k23,k24,k25,q2,h6,h8,hh6,hh8,Int.lt_irrefl];rfl
   ·rfl
   ·rfl
   ·rfl
   ·intro b hb hb' hb'';simp only [acj,hb,hb',hb'',if_false]
 | succ m ih =>
  intro i hi s h k1 k2 k7 k19 k20 k23 k24 k25 q2 h6 h8;have ih':=ih (i+1) (by omega);have hlt:i < dom.length:=by omega
  have e1:((i:Int) < (dom.length:Int))=True:=tt (by omega);have e2:aZ (bB dom) (i:Int)=some (.ipt (aA dom[i])):=DO rfl (List.getElem?_eq_getElem hlt);have e3:IntKind.i64.wrap ((i:Int)+1)=((i+1:Nat):Int):=wi (by omega) (by omega);have e4:=arY (k:=k) (j:=i) (by omega);have e5:=arE (n:=k / 2 ^ i) (Nat.lt_of_le_of_lt (Nat.div_le_self _ _) hk);have eg:dom.getD i cQ=dom[i]:=by simp [hlt]
  have q1:((cN dom k i).length+1)*40≤140737488355328:=by rw [aqX]; omega
  have f3:=tt q1;rw [ai];rw [arg] at ih';unfold cE at ih';rw [eg] at ih';generalize aq _ _ _=L at ih' ⊢;generalize dom[i]=x at e2 ih';generalize cN dom k i=out at h8 q1 f3 ih' ⊢;have hb:k / 2 ^ i % 2=1∨k / 2 ^ i % 2=0:=by omega
  generalize k / 2 ^ i=q at e4 e5 hb ih';generalize q % 2=b at e5 hb ih';simp only [aA] at e2;rcases hb with rfl | rfl
  ·rw [if_pos rfl] at ih';rcases h6 with ⟨g6,h6,hh6⟩ | ⟨g6,h6,hh6⟩ <;> rcases h8 with ⟨rfl,h8,hh8⟩ | ⟨g8,h8,hh8⟩
   ·simp only [aob,List.tail_cons,go_sem,am4,am3,am5,am6,am7,k1,k2,k7,k19,k20,k23,k24,k25,q2,h6,h8,hh6,hh8,e1,e2,e3,e4,e5,Int.natCast_one,ana,am8,am9,Int.cast_ofNat_Int];exact ih' _ _ rfl rfl rfl rfl rfl rfl rfl rfl rfl (Or.inl ⟨g6,rfl,rfl⟩) apV
   ·simp only [aob,List.tail_cons,go_sem,am4,am3,am5,am6,am7,k1,k2,k7,k19,k20,k23,k24,k25,q2,h6,h8,hh6,hh8,e1,e2,e3,e4,e5,f3,Int.natCast_one,ana,am8,am9,Int.cast_ofNat_Int,true_or,Nat.zero_add,Nat.le_refl];exact ih' _ _ rfl rfl rfl rfl rfl rfl rfl rfl rfl (Or.inl ⟨g6,rfl,rfl⟩) apV
   ·simp only [aob,List.tail_cons,go_sem,am4,am3,am5,am6,am7,k1,k2,k7,k19,k20,k23,k24,k25,q2,h6,h8,hh6,hh8,e1,e2,e3,e4,e5,Int.natCast_one,ana,am8,am9,Int.cast_ofNat_Int];exact ih' _ _ rfl rfl rfl rfl rfl rfl rfl rfl rfl (Or.inr ⟨g6,rfl,rfl⟩) apV
   ·simp only [aob,List.tail_cons,go_sem,am4,am3,am5,am6,am7,k1,k2,k7,k19,k20,k23,k24,k25,q2,h6,h8,hh6,hh8,e1,e2,e3,e4,e5,f3,Int.natCast_one,ana,am8,am9,Int.cast_ofNat_Int,true_or,Nat.zero_add,Nat.le_refl];exact ih' _ _ rfl rfl rfl rfl rfl rfl rfl rfl rfl (Or.inr ⟨g6,rfl,rfl⟩) apV
  ·rw [if_neg (by decide)] at ih';rcases h6 with ⟨g6,h6,hh6⟩ | ⟨g6,h6,hh6⟩ <;> rcases h8 with ⟨rfl,h8,hh8⟩ | ⟨g8,h8,hh8⟩
   ·simp only [aob,List.tail_cons,go_sem,am4,am3,am5,am6,am7,k1,k2,k7,k19,k20,k23,k24,k25,q2,h6,h8,hh6,hh8,e1,e2,e3,e4,e5,Int.natCast_zero,ana,am8,am9,Int.cast_ofNat_Int];exact ih' _ _ rfl rfl rfl rfl rfl rfl rfl rfl rfl (Or.inl ⟨g6,rfl,rfl⟩) apV
   ·simp only [aob,List.tail_cons,go_sem,am4,am3,am5,am6,am7,k1,k2,k7,k19,k20,k23,k24,k25,q2,h6,h8,hh6,hh8,e1,e2,e3,e4,e5,f3,Int.natCast_zero,ana,am8,am9,Int.cast_ofNat_Int,true_or,Nat.zero_add,Nat.le_refl];exact ih' _ _ rfl rfl rfl rfl rfl rfl rfl rfl rfl (Or.inl ⟨g6,rfl,rfl⟩) apV
   ·simp only [aob,List.tail_cons,go_sem,am4,am3,am5,am6,am7,k1,k2,k7,k19,k20,k23,k24,k25,q2,h6,h8,hh6,hh8,e1,e2,e3,e4,e5,Int.natCast_zero,ana,am8,am9,Int.cast_ofNat_Int];exact ih' _ _ rfl rfl rfl rfl rfl rfl rfl rfl rfl (Or.inr ⟨g6,rfl,rfl⟩) apV
   ·simp only [aob,List.tail_cons,go_sem,am4,am3,am5,am6,am7,k1,k2,k7,k19,k20,k23,k24,k25,q2,h6,h8,hh6,hh8,e1,e2,e3,e4,e5,f3,Int.natCast_zero,ana,am8,am9,Int.cast_ofNat_Int,true_or,Nat.zero_add,Nat.le_refl];exact ih' _ _ rfl rfl rfl rfl rfl rfl rfl rfl rfl (Or.inr ⟨g6,rfl,rfl⟩) apV
def crE (a:Rp) (dom:List Ri) (k:Nat):Rd × Int:=aov a (cN dom k dom.length)
def crA (a:Rp) (dom:List Ri):Nat→Nat→List Rd→List Rd × Int
 | 0,_,o=>(o,0)
 | n+1,k,o=>if (crE a dom k).2=0 then crA a dom n (k+1) (o++[(crE a dom k).1]) else ([],(crE a dom k).2)
theorem ar7 {dom:List Ri} (od:∀ x ∈ dom,OkI x) {k j:Nat}:Ok0 (cE dom k j):=by
 have:OkI (dom.getD j cQ):=by
  rcases Nat.lt_or_ge j dom.length with h | h
  ·rw [show dom.getD j cQ=dom[j] by simp [h]];exact od _ (List.getElem_mem h)
  ·rw [show dom.getD j cQ=cQ by simp [List.getD_eq_getElem?_getD,List.getElem?_eq_none h]];exact NP.ok'
 unfold cE;split
 ·exact this.hi
 ·exact this.lo
theorem arF {dom:List Ri} (od:∀ x ∈ dom,OkI x) {k i:Nat}:∀ d ∈ cN dom k i,Ok0 d:=fun d hd=>by
 obtain ⟨j,_,rfl⟩:=List.mem_map.1 hd;exact ar7 od
def arn (d:Nat) (r:List Rd × Int) (X:Option (Ex × St)):Prop :=
 (r.2=0→∃ x hh,X=some (.normal,⟨upd (fun _=>.any) 6 x,hh⟩)∧apr d r.1 x (hh d))∧(r.2 ≠ 0→∃ hh,X=some (.ret,⟨upd (upd (fun _=>.any) 5 (I r.2)) 4 .emp,hh⟩))
theorem arK {a:Rp} {dom:List Ri} {n:Nat} (oa:OkP a) (od:∀ x ∈ dom,OkI x) (h1:dom.length≤60) (hn:n≤100000):∀ (m k:Nat) (o:List Rd),k+m=n→o.length≤k→∀ (s:ae) (h:ac),s 1=.sl 7 (bB dom)→s 2=.ref 2 none 0 0 0→s 19=I n→s 20=I k →
  h 2=.bx [I a.vars,.sl 4 (df a.terms)]→apr 57 o (s 6) (h 57)→arn 57 (crA a dom m k o) (ap 0 [6] (aq (ak R (aG false) apU) [1,2,6,19,20] [2,57] s h)):=by
 intro m;induction m with
 | zero =>
  intro k o hk ho s h k1 k2 k19 k20 q2 h6;have:k=n:=by omega
  subst this;rw [ai];refine ⟨fun _=>?_,fun h=>absurd rfl h⟩;rcases h6 with ⟨g6,h6,hh6⟩ | ⟨g6,h6,hh6⟩
  ·refine ⟨.emp,?h0,?_,Or.inl ⟨g6,rfl,?_⟩⟩;rotate_left
   ·simp only [apU,go_sem,am4,am3,am5,am6,am7,k1,k2,k19,k20,q2,h6,hh6,Int.lt_irrefl];rfl
   ·rfl
  ·refine ⟨.rsl 57 none 3 0 o.length,?h1,?_,Or.inr ⟨g6,rfl,?_⟩⟩;rotate_left
   ·simp only [apU,go_sem,am4,am3,am5,am6,am7,k1,k2,k19,k20,q2,h6,hh6,Int.lt_irrefl];rfl
   ·rfl
 | succ m ih =>
  intro k o hk ho s h k1 k2 k19 k20 q2 h6;have e1:((k:Int) < (n:Int))=True:=tt (by omega);have e3:IntKind.i64.wrap ((k:Int)+1)=((k+1:Nat):Int):=wi (by omega) (by omega);have q1:(o.length+1)*40≤140737488355328:=by omega
  have f3:=tt q1;have hev:=apG oa (xs:=cN dom k dom.length) (arF od) (by rw [aqX]; omega);have hin:=arZ (a:=a) (k:=k) (n:=n) (o6:=o) h1 (by omega) dom.length 0 (Nat.zero_add _);have ih':=ih (k+1) (o++[(crE a dom k).1]) (by omega) (by simp; omega);unfold crA;change R F.poly_Eval [bL a,vO (cN dom k dom.length)] []=some (rV (crE a dom k),[]) at hev;generalize crE a dom k=v at hev ih' ⊢;rw [ai];generalize aq (ak R (aG false) apU) _ _=L at ih' ⊢;generalize hL0:aq (ak R (aG false) aob) [1,2,6,7,8,19,20,23,24,25] [2,43,57]=L0 at hin;have hX:∀ s h,ak R (aG false) (.loop [1,2,6,7,8,19,20,23,24,25] [2,43,57] aob) s h=L0 s h:=fun s h=>by rw [← hL0]; rfl
  clear hL0;have hin2:∀ (S:ae) (H:ac) (X:Option (Ex × St)),ap 2 [1,2,6,8,19,20] (L0 S H)=X→S 1=.sl 7 (bB dom)→S 2=.ref 2 none 0 0 0→S 7=I k→S 19=I n→S 20=I k→S 23=.sl 7 (bB dom)→S 24=I dom.length→S 25=I 0 →
    H 2=.bx [I a.vars,.sl 4 (df a.terms)]→S 8=.emp→H 43=.dead→apr 57 o (S 6) (H 57) →
    ∃ x6 x hh,X=some (.normal,⟨upd (upd (upd (upd (upd (upd (fun _=>.any) 20 (I k)) 19 (I n)) 8 x) 6 x6) 2 (.ref 2 none 0 0 0)) 1 (.sl 7 (bB dom)),hh⟩) ∧
     apr 57 o x6 (hh 57)∧apr 43 (cN dom k dom.length) x (hh 43)∧hh 2=.bx [I a.vars,.sl 4 (df a.terms)]∧∀ a,a ≠ 2→a ≠ 43→a ≠ 57→hh a=.dead:=fun S H X hX a1 a2 a3 a4 a5 a6 a7 a8 a9 b1 b2 b3=>by
   rw [← hX];exact hin S H a1 a2 a3 a4 a5 a6 a7 a8 a9 b3 (Or.inl ⟨rfl,b1,b2⟩)
  clear hin;generalize cN dom k dom.length=pts at hev hin2;have et:(yu pts).take pts.length=yu pts:=by rw [← akK,List.take_length]
  simp only [bL,vO,rV,ag,am] at hev;rcases h6 with ⟨g6,h6,hh6⟩ | ⟨g6,h6,hh6⟩
  all_goals
   simp only [apU,hX,go_sem,am4,am3,am5,am6,am7,k1,k2,k19,k20,q2,h6,hh6,e1];generalize hB:ap 2 [1,2,6,8,19,20] (L0 _ _)=X
  ·obtain ⟨x6,x,hh,g0,c6,c8,g2,gd⟩:=hin2 _ _ _ hB rfl rfl rfl rfl rfl rfl rfl rfl rfl rfl rfl (Or.inl ⟨g6,rfl,rfl⟩);rw [g0];subst g6;rcases c6 with ⟨_,rfl,c6⟩ | ⟨g6,_⟩
   ·by_cases hz:v.2=0
    ·rw [if_pos hz];rcases c8 with ⟨rfl,rfl,c8⟩ | ⟨g8,rfl,c8⟩
     ·simp only [yu,List.map_nil] at hev;simp only [go_sem,am4,am3,am5,am6,am7,g2,gd,c6,c8,hev,hz,e3,ne_eq,not_false_eq_true];exact ih' _ _ rfl rfl rfl rfl g2 apV
     ·simp only [Nat.zero_add,Nat.le_refl,et,go_sem,am4,am3,am5,am6,am7,g2,gd,c6,c8,hev,hz,e3,ne_eq,not_false_eq_true];exact ih' _ _ rfl rfl rfl rfl g2 apV
    ·rw [if_neg hz];refine ⟨fun h=>absurd h hz,fun _=>?_⟩;rcases c8 with ⟨rfl,rfl,c8⟩ | ⟨g8,rfl,c8⟩
     ·simp only [yu,List.map_nil] at hev;simp only [go_sem,am4,am3,am5,am6,am7,g2,gd,c6,c8,hev,hz,e3,ne_eq,not_false_eq_true];exact ⟨_,rfl⟩
     ·simp only [Nat.zero_add,Nat.le_refl,et,go_sem,am4,am3,am5,am6,am7,g2,gd,c6,c8,hev,hz,e3,ne_eq,not_false_eq_true];exact ⟨_,rfl⟩
   ·exact absurd g6 (by simp)
  ·obtain ⟨x6,x,hh,g0,c6,c8,g2,gd⟩:=hin2 _ _ _ hB rfl rfl rfl rfl rfl rfl rfl rfl rfl rfl rfl (Or.inr ⟨g6,rfl,rfl⟩);rw [g0];rcases c6 with ⟨c6,_⟩ | ⟨_,rfl,c6⟩
   ·rw [c6] at g6;exact absurd g6 (by simp)
   ·by_cases hz:v.2=0
    ·rw [if_pos hz];rcases c8 with ⟨rfl,rfl,c8⟩ | ⟨g8,rfl,c8⟩
     ·simp only [yu,List.map_nil] at hev;simp only [go_sem,am4,am3,am5,am6,am7,g2,gd,c6,c8,hev,hz,e3,f3,ne_eq,not_false_eq_true,true_or,Nat.zero_add,Nat.le_refl];exact ih' _ _ rfl rfl rfl rfl g2 apV
     ·simp only [Nat.zero_add,Nat.le_refl,et,go_sem,am4,am3,am5,am6,am7,g2,gd,c6,c8,hev,hz,e3,f3,ne_eq,not_false_eq_true,true_or];exact ih' _ _ rfl rfl rfl rfl g2 apV
    ·rw [if_neg hz];refine ⟨fun h=>absurd h hz,fun _=>?_⟩;rcases c8 with ⟨rfl,rfl,c8⟩ | ⟨g8,rfl,c8⟩
     ·simp only [yu,List.map_nil] at hev;simp only [go_sem,am4,am3,am5,am6,am7,g2,gd,c6,c8,hev,hz,e3,ne_eq,not_false_eq_true];exact ⟨_,rfl⟩
     ·simp only [Nat.zero_add,Nat.le_refl,et,go_sem,am4,am3,am5,am6,am7,g2,gd,c6,c8,hev,hz,e3,ne_eq,not_false_eq_true];exact ⟨_,rfl⟩
theorem ar0 {n:Nat} (h:n≤60):cK .shl (I 1) (I n)=some (I ((2 ^ n:Nat):Int)):=by
 rw [DH,if_neg (by omega)];have e:min (n:Int).toNat IntKind.i64.bits=n:=by
  show min (n:Int).toNat 64=n;omega
 have h2:2 ^ n≤2 ^ 60:=Nat.pow_le_pow_right (by decide) h;have e2:(1:Int)*2 ^ n=((2 ^ n:Nat):Int):=by rw [Int.one_mul]; simp
 rw [e,e2];generalize 2 ^ n=q at h2 ⊢;rw [i64_in] <;> omega
def aqv (a:Rp) (dom:List Ri):List Rd × Int:=if kJ a dom=true then crA a dom (2 ^ dom.length) 0 [] else ([],1)
def aqT (r:List Rd × Int):AV:=.tup [vO r.1,I r.2]
theorem aq6 (a:Rp) (dom:List Ri):∀ (n k:Nat) (o:List Rd),(crA a dom n k o).2 ≠ 0→(crA a dom n k o).1=[]
 | 0,_,_,h=>absurd rfl h
 | n+1,k,o,h=>by
  unfold crA at h ⊢;split at h
  ·rename_i h0;rw [if_pos h0];exact aq6 a dom n (k+1) _ h
  ·rename_i h0;rw [if_neg h0]
theorem aro {a:Rp} {dom:List Ri} (oa:OkP a) (od:∀ x ∈ dom,OkI x) (h1:dom.length≤16):R F.bound_Corners [bL a,.sl 7 (bB dom)] []=some (aqT (aqv a dom),[]):=by
 refine aE aqW rfl ?_;have hdm:=Va oa od (by omega);unfold aqv;simp only [bL] at hdm;cases hd:kJ a dom with
 | false =>
  rw [hd] at hdm;rw [if_neg Bool.false_ne_true];simp only [aqi,aqo,aqT,bL,vO,yu,List.map_nil,go_sem,am4,am3,am5,am6,am7,hdm]
 | true =>
  rw [hd] at hdm;rw [if_pos rfl];obtain ⟨hv,hl,hk⟩:=Wb od hd;have h2:2 ^ dom.length≤100000:=Nat.le_trans (Nat.pow_le_pow_right (by decide) h1) (by decide);have hlp:=arK oa od (by omega) h2 (2 ^ dom.length) 0 [] (Nat.zero_add _) (Nat.le_refl _);have e0:=ar0 (n:=dom.length) (by omega);rw [hl] at e0;have hne:=aq6 a dom (2 ^ dom.length) 0 [];generalize crA a dom (2 ^ dom.length) 0 []=r at hlp hne ⊢;generalize 2 ^ dom.length=n at *
  generalize hL:aq (ak R (aG false) apU) [1,2,6,19,20] [2,57]=L at hlp;have hX:∀ s h,ak R (aG false) (.loop [1,2,6,19,20] [2,57] apU) s h=L s h:=fun s h=>by rw [← hL]; rfl
  clear hL;have hlp2:∀ (S:ae) (H:ac) (X:Option (Ex × St)),ap 0 [6] (L S H)=X→S 1=.sl 7 (bB dom)→S 2=.ref 2 none 0 0 0→S 19=I n→S 20=I 0→H 2=.bx [I a.vars,.sl 4 (df a.terms)]→S 6=.emp→H 57=.dead→arn 57 r X:=fun S H X hX a1 a2 a3 a4 a5 a6 a7=>by
   rw [← hX];exact hlp S H a1 a2 a3 a4 a5 (Or.inl ⟨rfl,a6,a7⟩)
  clear hlp;simp only [aqi,aqo,aqT,bL,go_sem,am4,am3,am5,am6,am7,hdm,e0,hX];generalize hB:ap 0 [6] (L _ _)=X;obtain ⟨p1,p2⟩:=hlp2 _ _ _ hB rfl rfl rfl rfl rfl rfl rfl;by_cases hz:r.2=0
  ·obtain ⟨x,hh,g0,hacc⟩:=p1 hz;rw [g0];rcases hacc with ⟨h3,rfl,h4⟩ | ⟨h3,rfl,h4⟩
   ·simp only [go_sem,am4,am3,am5,am6,am7,h4,h3,hz,vO,yu,List.map_nil]
   ·simp only [go_sem,am4,am3,am5,am6,am7,h4,hz,vO,Nat.zero_add,Nat.le_refl,true_and,and_true]
  ·obtain ⟨hh,g0⟩:=p2 hz;rw [g0];simp only [go_sem,am4,am3,am5,am6,am7,hne hz,vO,yu,List.map_nil]
theorem arA {a:Rp} {dom:List Ri} (oa:OkP a) (od:∀ x ∈ dom,OkI x) (h1:dom.length≤16) {n:Nat} (e2:2 ^ dom.length=n):∀ (m k:Nat) (o:List Rd),k+m=n→o.length≤k→∀ (s:ae) (h:ac),s 1=.sl 7 (bB dom)→s 2=.ref 2 none 0 0 0→s 7=I k →
  h 2=.bx [I a.vars,.sl 4 (df a.terms)]→apr 35 o (s 6) (h 35)→arn 35 (crA a dom m k o) (ap 0 [6] (aq (ak R (aG false) aph) [1,2,6,7] [2,35] s h)):=by
 have hn:n≤100000:=by rw [← e2]; exact Nat.le_trans (Nat.pow_le_pow_right (by decide) h1) (by decide)
 have e0:=ar0 (n:=dom.length) (by omega);rw [e2] at e0;intro m;induction m with
 | zero =>
  intro k o hk ho s h k1 k2 k7 q2 h6;have:k=n:=by omega
  subst this;rw [ai];refine ⟨fun _=>?_,fun h=>absurd rfl h⟩;rcases h6 with ⟨g6,h6,hh6⟩ | ⟨g6,h6,hh6⟩
  ·refine ⟨.emp,?h0,?_,Or.inl ⟨g6,rfl,?_⟩⟩;rotate_left
   ·simp only [aph,go_sem,am4,am3,am5,am6,am7,k1,k2,k7,q2,h6,hh6,e0,Int.lt_irrefl];rfl
   ·rfl
  ·refine ⟨.rsl 35 none 3 0 o.length,?h1,?_,Or.inr ⟨g6,rfl,?_⟩⟩;rotate_left
   ·simp only [aph,go_sem,am4,am3,am5,am6,am7,k1,k2,k7,q2,h6,hh6,e0,Int.lt_irrefl];rfl
   ·rfl
 | succ m ih =>
  intro k o hk ho s h k1 k2 k7 q2 h6;have e1:((k:Int) < (n:Int))=True:=tt (by omega);have e3:IntKind.i64.wrap ((k:Int)+1)=((k+1:Nat):Int):=wi (by omega) (by omega);have q1:(o.length+1)*40≤140737488355328:=by omega
  have f3:=tt q1;have hco:=arm (dom:=dom) (k:=k) (by omega) (by omega);have hev:=ars oa (xs:=cN dom k dom.length) (arF od) (by rw [aqX]; omega);have ih':=ih (k+1) (o++[(crE a dom k).1]) (by omega) (by simp; omega);unfold crA;change R F.r23_Eval [bL a,vO (cN dom k dom.length)] []=some (rV (crE a dom k),[]) at hev;generalize crE a dom k=v at hev ih' ⊢;rw [ai];generalize aq (ak R (aG false) aph) _ _=L at ih' ⊢;generalize cN dom k dom.length=pts at hev hco;simp only [bL,vO,rV,ag,am] at hev hco;by_cases hz:v.2=0
  ·rw [if_pos hz];rcases h6 with ⟨rfl,h6,hh6⟩ | ⟨g6,h6,hh6⟩
   ·simp only [aph,go_sem,am4,am3,am5,am6,am7,k1,k2,k7,q2,h6,hh6,e0,e1,e3,hco,hev,hz];exact ih' _ _ rfl rfl rfl rfl apV
   ·simp only [aph,go_sem,am4,am3,am5,am6,am7,k1,k2,k7,q2,h6,hh6,e0,e1,e3,f3,hco,hev,hz,true_or,Nat.zero_add,Nat.le_refl];exact ih' _ _ rfl rfl rfl rfl apV
  ·rw [if_neg hz];refine ⟨fun h=>absurd h hz,fun _=>?_⟩;rcases h6 with ⟨rfl,h6,hh6⟩ | ⟨g6,h6,hh6⟩
   ·simp only [aph,go_sem,am4,am3,am5,am6,am7,k1,k2,k7,q2,h6,hh6,e0,e1,e3,hco,hev,hz];exact ⟨_,rfl⟩
   ·simp only [aph,go_sem,am4,am3,am5,am6,am7,k1,k2,k7,q2,h6,hh6,e0,e1,e3,hco,hev,hz];exact ⟨_,rfl⟩
theorem aq7 {a:Rp} {dom:List Ri} (oa:OkP a) (od:∀ x ∈ dom,OkI x) (h1:dom.length≤16):R F.r24_Corners [bL a,.sl 7 (bB dom)] []=some (aqT (aqv a dom),[]):=by
 refine aE aq1 rfl ?_;have hdm:=PZ oa od (by omega);unfold aqv;simp only [bL] at hdm;cases hd:kJ a dom with
 | false =>
  rw [hd] at hdm;rw [if_neg Bool.false_ne_true];simp only [aqj,aqy,aqT,bL,vO,yu,List.map_nil,go_sem,am4,am3,am5,am6,am7,hdm]
 | true =>
  rw [hd] at hdm;rw [if_pos rfl];have hlp:=arA oa od h1 rfl (2 ^ dom.length) 0 [] (Nat.zero_add _) (Nat.le_refl _);have hne:=aq6 a dom (2 ^ dom.length) 0 [];generalize crA a dom (2 ^ dom.length) 0 []=r at hlp hne ⊢;generalize hL:aq (ak R (aG false) aph) [1,2,6,7] [2,35]=L at hlp;have hX:∀ s h,ak R (aG false) (.loop [1,2,6,7] [2,35] aph) s h=L s h:=fun s h=>by rw [← hL]; rfl
  clear hL;have hlp2:∀ (S:ae) (H:ac) (X:Option (Ex × St)),ap 0 [6] (L S H)=X→S 1=.sl 7 (bB dom)→S 2=.ref 2 none 0 0 0→S 7=I 0→H 2=.bx [I a.vars,.sl 4 (df a.terms)]→S 6=.emp→H 35=.dead→arn 35 r X:=fun S H X hX a1 a2 a3 a5 a6 a7=>by
   rw [← hX];exact hlp S H a1 a2 a3 a5 (Or.inl ⟨rfl,a6,a7⟩)
  clear hlp;simp only [aqj,aqy,aqT,bL,go_sem,am4,am3,am5,am6,am7,hdm,hX];generalize hB:ap 0 [6] (L _ _)=X;obtain ⟨p1,p2⟩:=hlp2 _ _ _ hB rfl rfl rfl rfl rfl rfl;by_cases hz:r.2=0
  ·obtain ⟨x,hh,g0,hacc⟩:=p1 hz;rw [g0];rcases hacc with ⟨h3,rfl,h4⟩ | ⟨h3,rfl,h4⟩
   ·simp only [go_sem,am4,am3,am5,am6,am7,h4,h3,hz,vO,yu,List.map_nil]
   ·simp only [go_sem,am4,am3,am5,am6,am7,h4,hz,vO,Nat.zero_add,Nat.le_refl,true_and,and_true]
  ·obtain ⟨hh,g0⟩:=p2 hz;rw [g0];simp only [go_sem,am4,am3,am5,am6,am7,hne hz,vO,yu,List.map_nil]
theorem aq8 {f g:FuncId} {h:ac} {d id:Nat} {zas as':List AV} {o o':Ob} {res:AV} (hm:(aG false).m f=[]) (hk:(aG false).keep f=false) (hn:br ((aG false).sh f) (zas++[.fn g [] [.ref id none 0 0 0]])=as'++[.fn g [] [.ref id none 0 0 0]]) (hd:zas.all dat=true) (hd':as'.all dat=true)
  (hh:h id=o) (ho:OC o) (ho':OC o') (hb:bf o=true→bf o'=true) (hR:R f (as'++[.fn g [] [.ref 1000 none 0 0 0]]) [o]=some (res,[o'])) (hr:RT res) (h8:cG res≤8) (hfr:dp h (2000+8*d) (cG res)=true) :
  bE R (aG false) h d (zas++[.fn g [] [.ref id none 0 0 0]]) (.fn f [] [])=some (res,upd h id o',[(id,true)]):=by
 have hin:∀ l:List AV,l.all dat=true→bZ h [] (l++[.fn g [] [.ref id none 0 0 0]])=some (l++[.fn g [] [.ref id none 0 0 0]],h,[]):=by
  intro l;induction l with
  | nil=>intro _; rfl
  | cons x l ih =>
   intro h2;simp only [List.all_cons,Bool.and_eq_true] at h2;simp only [List.cons_append,bZ,List.headD_nil,abZ h2.1,Option.bind_some,List.tail_nil,ih h2.2,List.append_nil]
 have h1:=hin zas hd;have hp:bJ [] ((zas++[AV.fn g [] [.ref id none 0 0 0]]).flatMap bT)=[id]:=by
  rw [List.flatMap_append,Bg fun x hx=>Rf (List.all_eq_true.1 hd x hx)];rfl
 have hre:cf h 40 [id] 0=[id]:=by
  simp [cf,hh,ho.ids,bJ]
 have h3:bo [id] id=1000:=by simp [bo]
 have hall:(as'++[AV.fn g [] [.ref id none 0 0 0]]).all (aV [id])=true:=by
  rw [List.all_append,Bool.and_eq_true];exact ⟨List.all_eq_true.2 fun x hx=>VX (List.all_eq_true.1 hd' x hx) _,by simp [aV,bg]⟩
 have hmap:(as'++[AV.fn g [] [.ref id none 0 0 0]]).map (dM (bo [id]))=as'++[.fn g [] [.ref 1000 none 0 0 0]]:=by
  rw [List.map_append,(List.map_congr_left (g:=fun c=>c) fun x hx=>Rg (List.all_eq_true.1 hd' x hx) _).trans (List.map_id' as')];simp [dM,kB,h3]
 have hob:([id].map fun a=>cZ (bo [id]) (h a))=[o]:=by simp [hh,ho.ren]
 have hids:([id].all fun a=>aM [id] (h a) && !cM (h a))=true:=by simp [hh,ho.cl,ho.nd]
 unfold bE;rw [if_neg (by simp [pL,hm])];simp only [dU,hm,List.nil_append,List.append_nil,h1,Option.bind_some,hp,hre,hn];unfold kR;rw [hall,hids,hmap,hob,hR,Bool.and_self,if_pos rfl,Option.bind_some,hk,hm,tO];unfold fF;have hbf:dz h [] [id] [o']=true:=by
  have:=ho'.nd;cases h5:bf o with
  | false=>simp [dz,hh,h5,this]
  | true=>simp [dz,hh,h5,hb h5,this]
 have hend:vQ h [id] [] (res,[o'])=true:=by
  simp [vQ,H9,hr.ok,ho'.cl]
 rw [if_pos ⟨rfl,by simp,h8,hfr,hbf,hend⟩];simp [dS,gA,hr.mat,hr.ren,ho'.ren]
theorem ar1 (b:Bool):RT (B b):=⟨fun _=>rfl,fun _ _=>rfl,fun _=>rfl⟩
theorem aqQ (x:Ri):OC (.bx (aA x)):=⟨fun _=>rfl,rfl,fun _=>rfl,rfl⟩
theorem arL {x:Ri} {d:Rd} (ox:OkI x) (od:Ok0 d):R F.l24_BoundCorners_1 [ag d,.ref 1000 none 0 0 0] [.bx (aA x)]=some (B (!aoJ x d),[.bx (aA x)]):=by
 refine Oa aqJ aqI (aql false) rfl ?_;have h:=ao6 ox od;generalize aoJ x d=b at h ⊢;simp only [ax,aA,ag,am] at h;simp only [aqg,aqp,aA,ag,am,go_sem,am4,am3,am5,am6,am7,h];exact Tx rfl rfl rfl rfl rfl
theorem arB {x:Ri} {d0:Rd} (ox:OkI x) (od:Ok0 d0) {h:ac} {d id:Nat} (hh:h id=.bx (aA x)) (hf:h (2000+8*d)=.dead) :
  bE R (aG false) h d [.agg [B d0.neg,lm d0.m,I d0.e]] (.fn F.l24_BoundCorners_1 [] [.ref id none 0 0 0])=some (B (!aoJ x d0),upd h id (.bx (aA x)),[]) :=
 art (aqt false) (aql false) (as':=[ag d0]) (by rw [aqG]; simp only [ag,am,go_sem,List.cons_append,List.nil_append]) rfl rfl hh (aqQ x) (aqQ x) (fun h=>h) (arL ox od) (ar1 _) (Nat.le_of_ble_eq_true rfl) (by simp [dp,cG,hf,cM])
theorem aru {x:Ri} {l:List Rd} (ox:OkI x) (ol:∀ d ∈ l,Ok0 d) (hl:l.length≤100000):∀ (rest:List Rd) (n:Nat),l.drop n=rest→n≤l.length→∀ (s:ae) (h:ac),s 0=vO l→s 1=.fn F.l24_BoundCorners_1 [] [.ref 1000 none 0 0 0]→s 7=I l.length→s 8=I n→h 1000=.bx (aA x) →
  ∃ hh,cj (ap 0 [] (aq (ak R (aG false) an5) [0,1,7,8] [1000] s h)) (ak R (aG false) II)=some (.ret,⟨upd (fun _=>.any) 4 (I (CM (fun d=>!aoJ x d) rest n)),hh⟩)∧hh 1000=.bx (aA x):=by
 intro rest;induction rest with
 | nil =>
  intro n hd hn s h h0 h1 h7 h8 h9;have e:n=l.length:=by
   have:=congrArg List.length hd;grind
  subst e;rw [ai];refine ⟨?hh0,?_,?_⟩;rotate_left
  ·simp only [an5,II,aA,go_sem,am4,am3,am5,am6,am7,h0,h1,h7,h8,h9,vO,Int.lt_irrefl,CM];rfl
  ·rfl
 | cons r rest ih =>
  intro n hd hn s h h0 h1 h7 h8 h9;have hlt:n < l.length:=by
   grind
  have hr:l[n]?=some r:=by
   have:=congrArg (·[0]?) hd;grind
  have ih':=ih (n+1) (by rw [← List.drop_drop,hd]; rfl) hlt;have e1:((n:Int) < (l.length:Int))=True:=eq_true (by omega);have e2:=Zn (i:=(n:Int)) rfl hr;have e3:IntKind.i64.wrap ((n:Int)+1)=((n+1:Nat):Int):=by grind [i64_in]
  have hc:=fun (h:ac) (d:Nat)=>arB (h:=h) (d:=d) (id:=1000) ox (ol r (List.mem_of_getElem? hr));rw [ai];generalize aq _ _ _=L at ih' ⊢;simp only [CM];simp only [aA,am] at e2 hc h9;rcases (by cases aoJ x r <;> simp:aoJ x r=false∨aoJ x r=true) with hb | hb
  ·rw [hb] at hc;simp only [an5,aA,go_sem,am4,am3,am5,am6,am7,h0,h1,h7,h8,h9,vO,e1,e2];rw [hc _ _ rfl rfl];simp only [II,go_sem,am4,am3,am5,am6,am7,hb,Bool.not_false];exact ⟨_,rfl,rfl⟩
  ·rw [hb] at hc;simp only [an5,aA,go_sem,am4,am3,am5,am6,am7,h0,h1,h7,h8,h9,vO,e1,e2];rw [hc _ _ rfl rfl];simp only [go_sem,am4,am3,am5,am6,am7,hb,e3,Bool.not_true,Bool.false_ne_true];exact ih' _ _ rfl rfl rfl rfl rfl
theorem arM {x:Ri} {l:List Rd} (ox:OkI x) (ol:∀ d ∈ l,Ok0 d) (hl:l.length≤100000) :
  R F.slices_IndexFunc_api_Dyadic_api_Dyadic_ [vO l,.fn F.l24_BoundCorners_1 [] [.ref 1000 none 0 0 0]] [.bx (aA x)]=some (I (CM (fun d=>!aoJ x d) l 0),[.bx (aA x)]):=by
 refine Tp anK.2.1 anK.2.2 (anK.1.2.2.2 false) rfl ?_;have hL:=aru ox ol hl l 0 rfl (Nat.zero_le _);generalize hL0:aq (ak R (aG false) an5) [0,1,7,8] [1000]=L at hL;have hX:∀ s h,ak R (aG false) (.loop [0,1,7,8] [1000] an5) s h=L s h:=fun s h=>by rw [← hL0]; rfl
 clear hL0;have hL2:∀ (S:ae) (H:ac) (X:Option (Ex × St)),cj (ap 0 [] (L S H)) (ak R (aG false) II)=X→S 0=vO l→S 1=.fn F.l24_BoundCorners_1 [] [.ref 1000 none 0 0 0]→S 7=I l.length→S 8=I (0:Nat)→H 1000=.bx (aA x) →
   ∃ hh,X=some (.ret,⟨upd (fun _=>.any) 4 (I (CM (fun d=>!aoJ x d) l 0)),hh⟩)∧hh 1000=.bx (aA x):=fun S H X hX a b c d e=>by
  rw [← hX];exact hL S H a b c d e
 clear hL;generalize CM (fun d=>!aoJ x d) l 0=q at hL2 ⊢;have hc:aoa=.seq (.ops [0,1] [co 4 (.mv (.c (.v (.int .i64 0))))]) (.seq (.seq (.ops [0,1,7,8] [cm 6 0,co 7 (.len false (.t 6)),co 8 (.mv (.c (.v (.int .i64 0))))]) (.block 0 [] (.loop [0,1,7,8] [1000] an5))) II):=rfl;simp only [anV,hc,ac9,hX,go_sem,am4,am3,am5,am6,am7,vO];generalize hB:cj (ap 0 [] (L _ _)) (ak R (aG false) II)=X;obtain ⟨hh,e,e9⟩:=hL2 _ _ _ hB rfl rfl (by simp only [go_sem,am4,am3,am5,am6,am7,vO]) rfl rfl;rw [e];simp only [go_sem,am4,am3,am5,am6,am7];exact Tx rfl e9 rfl rfl rfl
theorem arC {x:Ri} {l:List Rd} (ox:OkI x) (ol:∀ d ∈ l,Ok0 d) (hl:l.length≤100000) :
  R F.slices_ContainsFunc_api_Dyadic_api_Dyadic_ [vO l,.fn F.l24_BoundCorners_1 [] [.ref 1000 none 0 0 0]] [.bx (aA x)]=some (B (l.any fun d=>!aoJ x d),[.bx (aA x)]):=by
 refine Tp anP.2.1 anP.2.2 (anP.1.2.2.2 false) rfl ?_;have hi:=arM ox ol hl;have ha:=Nc (fun d=>!aoJ x d) l 0;generalize CM (fun d=>!aoJ x d) l 0=q at hi ha;generalize (l.any fun d=>!aoJ x d)=b at ha ⊢;have hc:=fun (h:ac) (d:Nat) (hh:h 1000=.bx (aA x)) (hf:h (2000+8*d)=.dead)=>aq8 (f:=F.slices_IndexFunc_api_Dyadic_api_Dyadic_) (g:=F.l24_BoundCorners_1) (h:=h) (d:=d) (id:=1000) (zas:=[vO l]) (as':=[vO l]) (anK.1.2.1 false) (anK.1.2.2.2 false)
  (by rw [anK.1.1]; simp only [vO,go_sem,List.cons_append,List.nil_append]) rfl rfl hh (aqQ x) (aqQ x) (fun h=>h) hi (aic _) (Nat.le_of_ble_eq_true rfl) (by simp [dp,cG,hf,cM])
 simp only [vO,List.cons_append,List.nil_append,go_sem,am4,am3,am5,am6,am7] at hc;simp only [anR,an4,go_sem,am4,am3,am5,am6,am7,vO];rw [hc _ _ rfl rfl];simp only [go_sem,am4,am3,am5,am6,am7,ha];exact Tx rfl rfl rfl rfl rfl
theorem arv (a:Rp) (dom:List Ri):∀ (n k:Nat) (o:List Rd),(∀ d ∈ o,vd d=true∧Ok0 d)→(∀ d ∈ (crA a dom n k o).1,vd d=true∧Ok0 d)∧(crA a dom n k o).1.length≤o.length+n
 | 0,_,o,h=>⟨h,Nat.le_refl _⟩
 | n+1,k,o,h=>by
  unfold crA;split
  ·obtain ⟨h1,h2⟩:=arv a dom n (k+1) (o++[(crE a dom k).1]) fun d hd=>by
    rcases List.mem_append.1 hd with hd | hd
    ·exact h d hd
    ·rw [List.mem_singleton.1 hd];exact apw a _
   refine ⟨h1,?_⟩;rw [List.length_append,List.length_singleton] at h2;omega
  ·exact ⟨fun d hd=>(by cases hd),Nat.zero_le _⟩
theorem arw (a:Rp) (dom:List Ri):∀ (n k:Nat) (o:List Rd),(crA a dom n k o).2=0→∀ d ∈ (crA a dom n k o).1,d ∈ o∨∃ j,(crE a dom j).2=0∧d=(crE a dom j).1
 | 0,_,o,_,d,hd=>Or.inl hd
 | n+1,k,o,h,d,hd=>by
  unfold crA at h hd;split at h
  ·rename_i h0;rw [if_pos h0] at hd;rcases arw a dom n (k+1) _ h d hd with h1 | h1
   ·rcases List.mem_append.1 h1 with h1 | h1
    ·exact Or.inl h1
    ·exact Or.inr ⟨k,h0,List.mem_singleton.1 h1⟩
   ·exact Or.inr h1
  ·rename_i h0;exact absurd h h0
theorem arN {b:Ri} {dom:List Ri} {k n:Nat}:cN (b::dom) k (n+1)=(if k % 2=1 then b.hi else b.lo)::cN dom (k / 2) n:=by
 unfold cN;rw [List.range_succ_eq_map,List.map_cons,List.map_map];congr 1
 ·simp [cE]
 ·refine List.map_congr_left fun j _=>?_;simp [cE,Nat.pow_succ,Nat.mul_comm _ 2,Nat.div_div_eq_div_mul]
theorem arG:∀ (dom:List Ri) (k:Nat),∃ ts,sF dom ((cN dom k dom.length).map qv) ts
 | [],k=>⟨[],by simp [cN,sF]⟩
 | b::dom,k=>by
  obtain ⟨ts,h⟩:=arG dom (k / 2);rw [List.length_cons,arN,List.map_cons];split
  ·exact ⟨1::ts,by grind,by decide,Rat.le_refl,h⟩
  ·exact ⟨0::ts,by grind,Rat.le_refl,by decide,h⟩
theorem arO {a:Rp} {dom:List Ri} (haw:R F.l24_awake [] []=some (B true,[])) (oc:∀ t ∈ a.terms,Ok0 t.c) (od:∀ x ∈ dom,OkI x):R F.l24_BoundCorners [bL a,.sl 7 (bB dom)] []=some (B true,[]):=by
 refine aE aqP rfl ?_;have hfw:=aby (a:=a);have hn:=ZI (l:=dom);simp only [bL] at hfw;cases h1:Tk a with
 | false =>
  rw [h1] at hfw;simp only [apW,ap7,bL,go_sem,am4,am3,am5,am6,am7,haw,hfw]
 | true =>
  rw [h1] at hfw;cases h2:LE dom with
  | false =>
   rw [h2] at hn;simp only [apW,ap7,bL,go_sem,am4,am3,am5,am6,am7,haw,hfw,hn]
  | true =>
   rw [h2] at hn;unfold Tk at h1;unfold LE at h2;simp only [Bool.and_eq_true,decide_eq_true_eq,Bool.not_eq_true'] at h1 h2;have oa:OkP a:=⟨fun t ht=>⟨oc t ht,by
    have:=List.any_eq_false.1 h1.2.2 t ht;unfold A7 at this;simp only [Bool.or_eq_true,decide_eq_true_eq,not_or] at this;omega⟩⟩
   have c1:=aro oa od (by omega);have c2:=aq7 oa od (by omega);have ok:(∀ d ∈ (aqv a dom).1,vd d=true∧Ok0 d)∧(aqv a dom).1.length≤100000:=by
    unfold aqv;split
    ·obtain ⟨k1,k2⟩:=arv a dom (2 ^ dom.length) 0 [] fun d hd=>by cases hd
     refine ⟨k1,Nat.le_trans k2 ?_⟩;have:2 ^ dom.length≤2 ^ 16:=Nat.pow_le_pow_right (by decide) (by omega);simpa using Nat.le_trans this (by decide)
    ·exact ⟨fun d hd=>(by cases hd),Nat.zero_le _⟩
   have hE:=arW (l:=(aqv a dom).1) (fun d hd=>⟨(ok.1 d hd).2.lb,Nat.le_trans (Ac (ok.1 d hd).1 (ok.1 d hd).2.lb) (by decide)⟩) ok.2;obtain ⟨b,hB,hbr,hbn⟩:=Yc oa od (by omega) (p:=60);have hbo:OkI b∧OkI (D9 a dom 60 b)∧((aqv a dom).2=0→(aqv a dom).1.any (fun d=>!aoJ (D9 a dom 60 b) d)=false):=by
    cases hq:(kJ a dom && di 60) with
    | false =>
     have hb:=hbn hq;subst hb;have bW:D9 a dom 60 cQ=cQ:=by unfold D9; rw [hq]; rfl
     rw [bW];refine ⟨NP.ok',NP.ok',fun h=>?_⟩;rw [show di 60=true from rfl,Bool.and_true] at hq;unfold aqv at h;rw [hq,if_neg Bool.false_ne_true] at h;exact absurd h (by decide)
    | true =>
     have hq2:=hq;rw [Bool.and_eq_true] at hq2;obtain ⟨hv,hl,hk⟩:=Wb od hq2.1;have key:∀ k,In (fv ((cN dom k dom.length).map qv) a.terms) b∧In (fv ((cN dom k dom.length).map qv) a.terms) (D9 a dom 60 b):=fun k=>by
      obtain ⟨ts,hpt⟩:=arG dom k;have i1:=VW (p:=60) oa (sF.inL hk hpt);have i2:=hbr _ _ hpt;obtain ⟨m1,m2⟩:=XW i1 i2;refine ⟨i2,?_⟩;unfold D9;rw [if_pos hq,if_pos m1];exact m2
     refine ⟨(key 0).1.ok,(key 0).2.ok,fun h=>?_⟩;rw [List.any_eq_false];intro d hd;unfold aqv at h hd;rw [if_pos hq2.1] at h hd;rcases arw a dom _ _ _ h d hd with h3 | ⟨j,h3,rfl⟩
     ·cases h3
     ·have h4:=(key j).2;rw [← apQ h3] at h4;rw [show aoJ (D9 a dom 60 b) (crE a dom j).1=true from aoS h4 (apw a _).1];decide
   obtain ⟨o1,o2,hany⟩:=hbo;have hX:=Ol oa od (by omega) (p:=60) (b:=b) o1 (fun _=>hB);have hco:=arC o2 (fun d hd=>(ok.1 d hd).2) ok.2;generalize aqv a dom=r at *
   generalize D9 a dom 60 b=z at *
   have hcc:=fun (h:ac) (d:Nat) (hh:h 9=.bx (aA z)) (hf:h (2000+8*d)=.dead)=>aq8 (f:=F.slices_ContainsFunc_api_Dyadic_api_Dyadic_) (g:=F.l24_BoundCorners_1) (h:=h) (d:=d) (id:=9) (zas:=[vO r.1]) (as':=[vO r.1]) (anP.1.2.1 false) (anP.1.2.2.2 false)
    (by rw [anP.1.1]; simp only [vO,go_sem,List.cons_append,List.nil_append]) rfl rfl hh (aqQ z) (aqQ z) (fun h=>h) hco (ar1 _) (Nat.le_of_ble_eq_true rfl) (by simp [dp,cG,hf,cM])
   simp only [vO,List.cons_append,List.nil_append,go_sem,am4,am3,am5,am6,am7] at hcc;simp only [bL,ax,aA,aqT,vO] at c1 c2 hE hX hcc;by_cases hz:r.2=0
   ·rw [hany hz] at hcc;simp only [apW,ap7,bL,go_sem,am4,am3,am5,am6,am7,haw,hfw,hn,c1,c2,hE,hX,hz];rw [hcc _ _ rfl rfl];simp only [go_sem,am4,am3,am5,am6,am7]
   ·simp only [apW,ap7,bL,go_sem,am4,am3,am5,am6,am7,haw,hfw,hn,c1,c2,hE,hX,hz]
noncomputable def y7:Env:=⟨fun f=>LB.lookup f,dK.C,dK.md⟩
noncomputable def R0:dP:=dO y7
theorem Al {f:FuncId} {fd:FD} {args:List AV} {hs:List Ob} {r:AV × List Ob} (hE:y7.E f=none) (hC:y7.C f=some fd) (hk:y7.md.keep f=false) (h1:args.length=fd.np) (h2:hs.length≤1000)
  (hz:gx false fd.rs fd.res hs.length (ak R0 (aG false) fd.body (n8 args) (aj hs))=some r):R0 f args hs=some r:=by
 refine Co hE hC ?_;unfold MH;rw [if_pos ⟨h1,h2⟩,hk];exact hz
theorem sG (o:Ob):aj [o]=upd (fun _=>.dead) 1000 o:=by
 funext i;unfold aj upd;by_cases h:i=1000
 ·subst h;rfl
 ·rw [if_neg h];split
  ·rw [List.getElem?_eq_none (by simp; omega)];rfl
  ·rfl
theorem Ye {r:List AV} {rs:List (List AV)} (h:(rs.length+1)*8≤140737488355328):R0 F.slices_Clone_int_int_ [.sl 1 (r::rs)] []=some (.osl 1 (r::rs),[]):=by
 refine Al (fd:=ju) (by kernel_rfl) (by kernel_rfl) (by kernel_rfl) rfl (by decide) ?_;have e1:((rs.length+1)*8≤140737488355328)=True:=eq_true h;have e2:Dq false (.sl 1 (r::rs))=some (B false):=rfl;simp only [ju,pH,go_sem,am5,am6,e1,e2,List.length_cons,List.length_nil,Nat.zero_add,Nat.zero_le,Nat.le_refl,true_and,true_or,List.nil_append]
theorem Yf:eu 4 .emp (some (I 0)) none none=some .emp:=rfl
theorem aaw {r:List AV}:R0 F.slices_Insert_api_Term_api_Term_ [.emp,I 0,.sl 4 [r]] []=some (.osl 4 [r],[]):=by
 refine Al (fd:=aW) (by kernel_rfl) (by kernel_rfl) (by kernel_rfl) rfl (by decide) ?_;have e1:((1:Int)=0)=False:=by decide
 simp only [aW,cu,go_sem,am4,am3,am5,am6,Yf,List.length_cons,List.length_nil,Int.natCast_one,e1,Nat.zero_add]
theorem tP {n i:Nat} (h:i≤n):kw n (some (I i)) none none=some (i,n):=by
 simp only [kw,jK,Option.bind_some];rw [if_pos ⟨by omega,by omega⟩];rfl
theorem Wc {id k l0 n i:Nat} (h:i≤n):eu k (.rsl id none k l0 n) (some (I i)) none none=some (.rsl id none k (l0+i) (n - i)):=by
 simp only [eu,if_true,tP h,Option.map_some,Option.isNone_none]
theorem Jq {h:ac} {j k n:Nat} {rows:List (List AV)} (hj:aR j=false) (hh:h j=.ar k rows) (hn:n=rows.length) (hc:aM [1000] (h 1000)=true):uS [[]] 1 h [.rsl j none k 0 n]=some (.osl k rows,[h 1000]):=by
 subst hn;have hp:cp 1=[1000]:=rfl;unfold uS;rw [if_pos]
 ·simp [rA,ni,jk,hj,hh,wE,vS,br,nrmV,nrmL,hp]
 ·simp [hp,hc,jl,bT,fT,hj]
theorem Wd {r:List AV} {rows:List (List AV)} {n:Nat} (hn:n=rows.length) (hb:(n+1)*64≤140737488355328):R0 F.slices_Insert_api_Term_api_Term_ [.rsl 1000 none 4 0 n,I n,.sl 4 [r]] [.ar 4 rows]=some (.osl 4 (rows++[r]),[.dead]):=by
 refine Al (fd:=aW) (by kernel_rfl) (by kernel_rfl) (by kernel_rfl) rfl (by simp) ?_;subst hn;rw [sG];have e1:((1:Int)=0)=False:=by decide
 have e2:=Wc (id:=1000) (k:=4) (l0:=0) (Nat.le_refl rows.length);have e3:((rows.length+1)*64≤140737488355328)=True:=eq_true hb;have e4:(rows.length+1≤rows.length)=False:=eq_false (by omega);have e5:∀ h,LP h 25 4 64 1000 4 0 rows.length [r] 4 rows=cY (upd h 1000 .dead) 25 4 (rows++[r]) (rows.length+1) [(1000,false)]:=fun h=>by
  simp only [LP,List.length_singleton];rw [if_neg (by omega),if_pos ⟨trivial,trivial,trivial,trivial,hb⟩]
 simp only [aW,cu,go_sem,am4,am3,am5,am6,List.length_cons,List.length_nil,Int.natCast_one,e1,e2,e3,e4,e5,Nat.zero_add,Nat.add_zero,Nat.sub_self,or_self,Nat.le_refl,List.length_append];exact Jq rfl rfl (by simp) rfl
theorem ab8 {f:FuncId} {g:List AV→List Ob→Option (AV × List Ob)} {args:List AV} {hs:List Ob} (hE:y7.E f=some g):R0 f args hs=g args hs:=Fg hE
theorem aax {h:ac} {d:Nat} {r:List AV} {rows:List (List AV)} {lo m:Nat} (hh:h 1000=.ar 4 rows) (hd:h (2000+8*d)=.dead) :
  bE R0 (aG false) h d [.sl 4 [r],.rsl 1000 none 4 lo m] (.fn F.slices_overlaps_api_Term_ [] [])=some (B false,upd h 1000 (.ar 4 rows),[(1000,true)]):=by
 have hm:(aG false).m F.slices_overlaps_api_Term_=[0,1]:=by kernel_rfl
 have hs:(aG false).sh F.slices_overlaps_api_Term_=[]:=by kernel_rfl
 have hk:(aG false).keep F.slices_overlaps_api_Term_=false:=by kernel_rfl
 have hf:R0 F.slices_overlaps_api_Term_ [.sl 4 [r],.rsl 1000 none 4 lo m] [.ar 4 rows]=some (B false,[.ar 4 rows]):=by
  rw [ab8 (g:=Qm 4) (by kernel_rfl)];simp [Qm]
 have hb:pL (aG false) [.sl 4 [r],.rsl 1000 none 4 lo m] (.fn F.slices_overlaps_api_Term_ [] [])=false:=by
  simp [pL,hm]
 have hr:cf h 40 [1000] 0=[1000]:=by
  simp [cf,hh,lj,bJ]
 have hn:cG (B false)=1:=rfl;unfold bE;rw [if_neg (by rw [hb]; exact Bool.false_ne_true)];have h1:bZ h [0,1] [.sl 4 [r],.rsl 1000 none 4 lo m]=some ([.sl 4 [r],.rsl 1000 none 4 lo m],h,[]):=by
  simp [bZ,cR,sI,fS,aB]
 have h2:bJ [] ([AV.sl 4 [r],.rsl 1000 none 4 lo m].flatMap bT)=[1000]:=by
  simp [bT,fT,bJ]
 have h3:bo [1000] 1000=1000:=rfl;simp only [dU,hm,List.nil_append,List.append_nil,h1,Option.bind_some,h2,hr,hs];simp [kR,br,aV,bg,hh,aM,cM,dM,kB,h3,cZ,hf,fF,hn,dp,hd,dz,bf,vQ,H9,ru,fT,jH,fE,Em,dS,mat,da,gA,hk,H8,hm]
theorem KF {id k l0 n i:Nat}:eu k (.rsl id none k l0 n) (some (I i)) none none=(kw n (some (I i)) none none).map fun p=>.rsl id none k (l0+p.1) (p.2 - p.1):=by
 simp only [eu,if_true,Option.isNone_none]
theorem We {n c i:Nat} (h:i≤c):jK n c (some (I i))=some i:=by
 simp only [jK];rw [if_pos ⟨by omega,by omega⟩];rfl
theorem aay {r:List AV} {rows:List (List AV)} {n i:Nat} (hn:n=rows.length) (hi:i < n) (hb:(n+1)*64≤140737488355328) :
  R0 F.slices_Insert_api_Term_api_Term_ [.rsc 1000 4 0 n n,I i,.sl 4 [r]] [.ar 4 rows]=some (.osl 4 (rows.take i++r::rows.drop i),[.ar 4 rows]):=by
 refine Al (fd:=aW) (by kernel_rfl) (by kernel_rfl) (by kernel_rfl) rfl (by simp) ?_;rw [sG];have e1:((1:Int)=0)=False:=by decide
 have e2:((i:Int)=(n:Int))=False:=eq_false (by omega);have e3:IntKind.i64.wrap ((n:Int)+1)=((n+1:Nat):Int):=wi (by omega) (by omega);have e4:((n:Int) < ((n+1:Nat):Int))=True:=eq_true (by omega);have e5:IntKind.i64.wrap (((n+1:Nat):Int) - (i:Int))=((n+1 - i:Nat):Int):=wi (by omega) (by omega);have e6:IntKind.i64.wrap ((i:Int)+1)=((i+1:Nat):Int):=wi (by omega) (by omega);have b1:=tP (n:=n) (i:=i) (by omega);have b2:=We (n:=n) (c:=n) (i:=i) (by omega);have b3:=tP (n:=n+1) (i:=i) (by omega);have b4:=tP (n:=n+1) (i:=i+1) (by omega);have f1:((0:Int) < ((n+1 - i:Nat):Int))=True:=eq_true (by omega);have f2:(n < i+((n+1 - i:Nat):Int).toNat)=True:=eq_true (by omega);have f3:i+((n+1 - i:Nat):Int).toNat=n+1:=by omega
 have f4:(i≤rows.length)=True:=eq_true (by omega);have f5:((n+1)*64≤140737488355328)=True:=eq_true hb;have f6:(n < n+1)=True:=eq_true (by omega);obtain ⟨A,hA⟩:∃ A,rows.take i++List.replicate ((n+1 - i:Nat):Int).toNat [AV.emp,B false,AV.emp,I 0]=A:=⟨_,rfl⟩;have a1:A.length=n+1:=by rw [← hA,List.length_append,List.length_take,List.length_replicate]; omega
 have a2:A.take i=rows.take i:=by
  rw [← hA,List.take_append_of_le_length (by rw [List.length_take]; omega),List.take_of_length_le (by rw [List.length_take]; omega)]
 have a3:(i≤A.length)=True:=eq_true (by omega);obtain ⟨D,hD⟩:∃ D,A.take i++[r]++A.drop (i+1)=D:=⟨_,rfl⟩;have d1:D.length=n+1:=by
  rw [← hD,List.length_append,List.length_append,List.length_take,List.length_drop,List.length_singleton];omega
 have d2:D.take (i+1)=rows.take i++[r]:=by
  rw [← hD,a2,List.take_append_of_le_length (by rw [List.length_append,List.length_take,List.length_singleton]; omega),List.take_of_length_le (by rw [List.length_append,List.length_take,List.length_singleton]; omega)]
 have d3:(i+1≤D.length)=True:=eq_true (by omega);have t1:List.take (n+1 - i) [r]=[r]:=List.take_of_length_le (by rw [List.length_singleton]; omega);have t2:(rows.drop i).take (n - i)=rows.drop i:=List.take_of_length_le (by rw [List.length_drop]; omega);have t3:(1=min 1 (n+1 - i))=True:=eq_true (by omega);have t4:n+1 - (i+1)=n - i:=by omega
 have t5:(i+(n - i)≤rows.length)=True:=eq_true (by omega);have t6:(rows.drop i).length=n - i:=by rw [List.length_drop]; omega
 have t7:D.drop (i+1+(n - i))=[]:=List.drop_eq_nil_of_le (by omega);simp only [aW,cu,go_sem,am4,am3,am5,am6,List.length_cons,List.length_nil,Int.natCast_one,e1,e2,e3,e4,e5,e6,b1,b2,b3,b4,f1,f2,f3,f4,f5,f6,hA,hD,a3,d3,t1,t2,t3,t4,t5,t6,t7,Nat.min_self,Nat.zero_add,Nat.add_zero,Nat.sub_self,or_self,Nat.le_refl,KF,and_self];rw [d2];have hfin:rows.take i++[r]++rows.drop i=rows.take i++r::rows.drop i:=by rw [List.append_assoc]; rfl
 rw [hfin];exact Jq rfl rfl (by rw [List.length_append,List.length_take,List.length_cons,List.length_drop]; omega) rfl
theorem aaz {r:List AV} {rows:List (List AV)} {n i c:Nat} (hn:n=rows.length) (hi:i < n) (hc:n+1≤c) (hb:(n+1)*64≤140737488355328) :
  R0 F.slices_Insert_api_Term_api_Term_ [.rsc 1000 4 0 n c,I i,.sl 4 [r]] [.ar 4 rows]=some (.osl 4 (rows.take i++r::rows.drop i),[.dead]):=by
 refine Al (fd:=aW) (by kernel_rfl) (by kernel_rfl) (by kernel_rfl) rfl (by simp) ?_;rw [sG];have e1:((1:Int)=0)=False:=by decide
 have e2:((i:Int)=(n:Int))=False:=eq_false (by omega);have e3:IntKind.i64.wrap ((n:Int)+1)=((n+1:Nat):Int):=wi (by omega) (by omega);have e4:((c:Int) < ((n+1:Nat):Int))=False:=eq_false (by omega);have e6:IntKind.i64.wrap ((i:Int)+1)=((i+1:Nat):Int):=wi (by omega) (by omega);have b1:=tP (n:=n) (i:=i) (by omega);have b2:=We (n:=n) (c:=c) (i:=n+1) hc;have b3:=tP (n:=n+1) (i:=i) (by omega);have b4:=tP (n:=n+1) (i:=i+1) (by omega);have o1:=fun (h:ac) (h0:h 1000=.ar 4 rows) (h1:h (2000+8*67)=.dead)=>aax (r:=r) (lo:=i+1) (m:=n - i) h0 h1;have t1:List.take (n+1 - i) [r]=[r]:=List.take_of_length_le (by rw [List.length_singleton]; omega);have t2:(rows.drop i).take (n - i)=rows.drop i:=List.take_of_length_le (by rw [List.length_drop]; omega);have t3:(1=min 1 (n+1 - i))=True:=eq_true (by omega);have t4:n+1 - (i+1)=n - i:=by omega
 have t5:(i+(n - i)≤rows.length)=True:=eq_true (by omega);have t6:(rows.drop i).length=n - i:=by rw [List.length_drop]; omega
 have t8:min (n - i) (n+1 - i)=n - i:=by omega
 have t9:(n - i=min (n+1 - i) (n - i))=True:=eq_true (by omega);have f4:(i+1≤rows.length)=True:=eq_true (by omega);have t7:rows.drop (i+1+(n - i))=[]:=List.drop_eq_nil_of_le (by omega);obtain ⟨A,hA⟩:∃ A,rows.take (i+1)++rows.drop i=A:=⟨_,rfl⟩;have a1:A.length=n+1:=by
  rw [← hA,List.length_append,List.length_take,List.length_drop];omega
 have a2:A.take i=rows.take i:=by
  rw [← hA,List.take_append_of_le_length (by rw [List.length_take]; omega),List.take_take,Nat.min_eq_left (by omega)]
 have a4:A.drop (i+1)=rows.drop i:=by
  rw [← hA,List.drop_append_of_le_length (by rw [List.length_take]; omega),List.drop_eq_nil_of_le (by rw [List.length_take]; omega),List.nil_append]
 have a3:(i≤A.length)=True:=eq_true (by omega);simp only [aW,cu,go_sem,am4,am3,am5,am6,List.length_cons,List.length_nil,Int.natCast_one,e1,e2,e3,e4,e6,b1,b2,b3,b4,t4,Nat.zero_add];rw [o1 _ rfl rfl];simp only [go_sem,am4,am3,am5,am6,am7,List.length_cons,List.length_nil,Int.natCast_one,e1,e2,e3,e4,e6,b1,b2,b3,b4,t1,t2,t3,t4,t5,t6,t7,t8,t9,f4,a3,hA,Nat.zero_add,Nat.add_zero,Nat.sub_self,or_self,Nat.le_refl,KF,and_self];rw [a2,a4,show rows.take i++[r]++rows.drop i=rows.take i++r::rows.drop i by rw [List.append_assoc]; rfl];exact Jq rfl rfl (by rw [List.length_append,List.length_take,List.length_cons,List.length_drop]; omega) rfl
abbrev F1:=List (Nat × List AV × AV)
def Om:F1→FuncId→List AV→Option AV
 | [],_,_=>none
 | x::l,f,args=>if x.1=f then (if sJ x.2.1 args=true then some x.2.2 else Om l f args) else Om l f args
def Rn (a:Option AV) (hs:List Ob) (b:Option (AV × List Ob)):Option (AV × List Ob):=match a,hs with
 | some r,[]=>some (r,[])
 | _,_=>b
def Jr (e:Env) (T:F1):Nat→dP
 | 0=>fun _ _ _=>none
 | n+1=>fun f args hs=>Rn (Om T f args) hs (match e.E f with
  | some g=>g args hs
  | none=>(e.C f).bind fun fd=>BX (Jr e T n) { e.md with nm:=e.md.keep f } n fd args hs)
theorem Js {e:Env}:∀ {T:F1} {f:FuncId} {args:List AV} {r:AV},(∀ x ∈ T,dO e x.1 x.2.1 []=some (x.2.2,[]))→Om T f args=some r→dO e f args []=some (r,[])
 | [],f,args,r,_,h=>by cases h
 | x::l,f,args,r,ht,h=>by
  unfold Om at h;split at h
  ·rename_i h1;split at h
   ·rename_i h2;cases h;have:=ht x (by simp);rw [h1,rD h2] at this;exact this
   ·exact Js (fun y hy=>ht y (by simp [hy])) h
  ·exact Js (fun y hy=>ht y (by simp [hy])) h
theorem mU {call:dP} {md:Mode} {lf:Nat}:∀ (c:Cmd) {s:ae} {h:ac} {r:Ex × St},bF call md lf c s h=some r→ak call md c s h=some r
 | .skip,s,h,r,hz=>hz
 | .ops ks l,s,h,r,hz=>hz
 | .dops ks l ps,s,h,r,hz=>hz
 | .seq a b,s,h,r,hz=>by
  simp only [bF,cj] at hz;split at hz
  ·cases hz
  ·rename_i t1 ht1;simp only [ak,cj,mU a ht1,mU b hz]
  ·rename_i i t1 ht1;simp only [ak,cj,mU a ht1];exact hz
  ·rename_i t1 ht1;simp only [ak,cj,mU a ht1];exact hz
 | .cond c a b,s,h,r,hz=>by
  simp only [bF,lV] at hz;split at hz
  ·rename_i t ht;cases t with
   | true=>simp only [ak,lV,ht,if_true]; exact mU a hz
   | false=>simp only [ak,lV,ht,Bool.false_eq_true,if_false]; exact mU b hz
  ·cases hz
 | .block id ks a,s,h,r,hz=>by
  simp only [bF,ap] at hz;split at hz
  ·cases hz
  ·rename_i t1 ht1;simp only [ak,ap,mU a ht1];exact hz
  ·rename_i i t1 ht1;simp only [ak,ap,mU a ht1];exact hz
  ·rename_i t1 ht1;simp only [ak,ap,mU a ht1];exact hz
 | .loop ks hs a,s,h,r,hz=>by
  simp only [bF] at hz;simp only [ak,aq];rw [kD];exact ⟨lf,fun k hk=>C9 (fun hh=>mU a hh) lf hk hz⟩
 | .exit id,s,h,r,hz=>hz
 | .ret,s,h,r,hz=>hz
 | .frz is a,s,h,r,hz=>by
  simp only [bF,aT] at hz;split at hz
  ·cases hz
  ·rename_i t1 ht1;simp only [ak,aT,ht1];exact mU a hz
theorem Ro {e:Env} {T:F1} (ht:∀ x ∈ T,dO e x.1 x.2.1 []=some (x.2.2,[])):∀ n,BM (Jr e T n) (dO e)
 | 0=>fun f a hs r hz=>by cases hz
 | n+1=>fun f a hs r hz=>by
  have old:(match e.E f with | some g=>g a hs | none=>(e.C f).bind fun fd=>BX (Jr e T n) { e.md with nm:=e.md.keep f } n fd a hs)=some r→dO e f a hs=some r:=by
   intro hz;split at hz
   ·rename_i g hE;rw [Fg hE];exact hz
   ·rename_i hE;simp only [Option.bind_eq_some_iff] at hz;obtain ⟨fd,hC,hz⟩:=hz;refine Co hE hC ?_;unfold BX at hz;unfold MH;split at hz
    ·rename_i hcc;rw [if_pos hcc];cases hx:bF (Jr e T n) { e.md with nm:=e.md.keep f } n fd.body (n8 a) (aj hs) with
     | none=>rw [hx] at hz; cases hz
     | some q =>
      rw [hx] at hz;rw [mU fd.body (gw (Ro ht n) (Nat.le_refl n) fd.body hx)];exact hz
    ·cases hz
  unfold Jr at hz;unfold Rn at hz;split at hz
  ·rename_i r' hl;cases hz;exact Js ht hl
  ·exact old hz
theorem ah {e:Env}:∀ x ∈ ([]:F1),dO e x.1 x.2.1 []=some (x.2.2,[]):=fun _ h=>by cases h
theorem ab {e:Env} {x:Nat × List AV × AV} {T:F1} (h1:dO e x.1 x.2.1 []=some (x.2.2,[])) (h2:∀ x ∈ T,dO e x.1 x.2.1 []=some (x.2.2,[])):∀ y ∈ x::T,dO e y.1 y.2.1 []=some (y.2.2,[]):=fun y hy=>by
 rcases List.mem_cons.1 hy with rfl | hy
 ·exact h1
 ·exact h2 y hy
theorem aF {e:Env} (T:F1) (n:Nat) (x:Nat × List AV × AV) (ht:∀ x ∈ T,dO e x.1 x.2.1 []=some (x.2.2,[])) (h:Jr e T n x.1 x.2.1 []=some (x.2.2,[])):dO e x.1 x.2.1 []=some (x.2.2,[]):=Ro ht n _ _ _ _ h
end Go.Ab
