/-
  PolySums holds at every input that the statement speaks of, under the conditions that its card names. Part C1.
-/
import Derived.Test.YtaffadijdjgmdaaGreatDoorB1
namespace Go.Ab
open Go
section
variable {call:cI} {md:Mode} {s:af} {h:aa}
@[go_sem] theorem abB:au call md .skip s h=some (.normal,⟨s,h⟩):=_root_.id rfl
@[go_sem] theorem ac7 (ks l):au call md (.ops ks l) s h=aI (an call md l s h) fun s h=>some (.normal,⟨mk .any s ks,h⟩):=_root_.id rfl
@[go_sem] theorem ac8 (is a):au call md (.frz is a) s h=aI (nB md.nm is s h) (au call md a):=_root_.id rfl
@[go_sem] theorem abC (ks l ps):au call md (.dops ks l ps) s h=aI (iP call md l ps s h) fun s h=>some (.normal,⟨mk .any s ks,h⟩):=_root_.id rfl
@[go_sem] theorem Tt (a b):au call md (.seq a b) s h=cp (au call md a s h) (au call md b):=_root_.id rfl
@[go_sem] theorem abD (c a b):au call md (.cond c a b) s h=iQ (au call md a s h) (au call md b s h) (ev s c):=_root_.id rfl
@[go_sem] theorem Zk (id ks a):au call md (.block id ks a) s h=aB id ks (au call md a s h):=_root_.id rfl
@[go_sem] theorem abE (ks hs a):au call md (.loop ks hs a) s h=aD (au call md a) ks hs s h:=_root_.id rfl
@[go_sem] theorem abF (i):au call md (.exit i) s h=some (.exit i,⟨s,h⟩):=_root_.id rfl
@[go_sem] theorem ac9:au call md .ret s h=some (.ret,⟨s,h⟩):=_root_.id rfl
@[go_sem] theorem Ql (s h f):cp (some (.normal,⟨s,h⟩)) f=f s h:=_root_.id rfl
@[go_sem] theorem Tu (i t f):cp (some (.exit i,t)) f=some (.exit i,t):=_root_.id rfl
@[go_sem] theorem VD (t f):cp (some (.ret,t)) f=some (.ret,t):=_root_.id rfl
@[go_sem] theorem SS (id ks i t):aB id ks (some (.exit i,t))=if i=id then some (.normal,⟨mk .any t.s ks,t.h⟩) else some (.exit i,t):=_root_.id rfl
@[go_sem] theorem PG (id ks t):aB id ks (some (.normal,t))=some (.normal,⟨mk .any t.s ks,t.h⟩):=_root_.id rfl
@[go_sem] theorem Tv (id ks t):aB id ks (some (.ret,t))=some (.ret,t):=_root_.id rfl
@[go_sem] theorem Tw (a b):iQ a b (.v (.bool true))=a:=_root_.id rfl
@[go_sem] theorem ST (a b):iQ a b (.v (.bool false))=b:=_root_.id rfl
@[go_sem] theorem Qm (g t):CP g (some (.normal,t))=g t.s t.h:=_root_.id rfl
@[go_sem] theorem Tx (g i t):CP g (some (.exit i,t))=some (.exit i,t):=_root_.id rfl
@[go_sem] theorem VE (g t):CP g (some (.ret,t))=some (.ret,t):=_root_.id rfl
@[go_sem] theorem Ty {β:Type} (s h) (f:af→aa→Option β):aI (some ⟨s,h⟩) f=f s h:=_root_.id rfl
@[go_sem] theorem VF {β:Type} (c:Prop) [Decidable c] (x y:Option St) (f:af→aa→Option β):aI (if c then x else y) f=if c then aI x f else aI y f:=by split <;> rfl
@[go_sem] theorem VG (c:Prop) [Decidable c] (x y:Option (Ex × St)) (f:af→aa→Option (Ex × St)):cp (if c then x else y) f=if c then cp x f else cp y f:=by split <;> rfl
@[go_sem] theorem Zl:an call md [] s h=some ⟨s,h⟩:=_root_.id rfl
@[go_sem] theorem yz (d op rest):an call md (⟨some d,none,.p op⟩::rest) s h=(cX s op).bind fun a=>an call md rest (upd s d a) h:=by
 simp only [an,fx,step,pI]
 cases cX s op with
 | none=>rfl
 | some a=>simp only [Option.map_some,bB,g9,if_true]; rfl
def cm (d n:Nat):COp:=⟨some d,none,.p (.mv (.t n))⟩
def co (d:Nat) (op:POp):COp:=⟨some d,none,.p op⟩
def cg (d j:Nat) (w:Bool) (op:POp):COp:=⟨some d,some (j,w),.p op⟩
@[go_sem] theorem abG (d n rest):an call md (cm d n::rest) s h=an call md rest (upd s d (s n)) h:=yz d (.mv (.t n)) rest
@[go_sem] theorem abH (d op rest):an call md (co d op::rest) s h=(cX s op).bind fun a=>an call md rest (upd s d a) h:=yz d op rest
@[go_sem] theorem abI (d j w op rest):an call md (cg d j w op::rest) s h=aI (eM (some d) w ((cX s op).map fun a=>⟨upd s d a,h⟩) s h (s j)) (an call md rest):=by
 have:bB md.nm s (some d) (step call md d (.p op) s h)=(cX s op).map fun a=>⟨upd s d a,h⟩:=by
  simp only [step,pI]
  cases cX s op with
  | none=>rfl
  | some a=>simp only [Option.map_some,bB,g9,if_true]; rfl
 show aI (eM (some d) w (bB md.nm s (some d) (step call md d (.p op) s h)) s h (s j)) _=_
 rw [this]
def b2 (d:Nat) (op:BinOp) (a b:Nat):COp:=⟨some d,none,.p (.bin op (.t a) (.t b))⟩
def fa (d k a:Nat):COp:=⟨some d,none,.p (.fadr k (.t a))⟩
def nk (d a:Nat):COp:=⟨some d,none,.p (.nilck (.t a))⟩
def ld (d k a:Nat):COp:=⟨some d,none,.load k false (.t a)⟩
def la (d k a:Nat):COp:=⟨some d,none,.load k true (.t a)⟩
def ca (d f:Nat) (zas:List Opd):COp:=⟨some d,none,.call (.c (.fn f [] [])) zas⟩
def sr (k:Nat) (x y:Opd):COp:=⟨none,none,.store k x y⟩
def al (d:Nat) (z:List AV):COp:=⟨some d,none,.alloc z⟩
def bx (d k:Nat) (x:Opd):COp:=⟨some d,none,.box k x⟩
@[go_sem] theorem abJ (d op a b rest):an call md (b2 d op a b::rest) s h=(c8 op (s a) (s b)).bind fun a=>an call md rest (upd s d a) h:=yz d (.bin op (.t a) (.t b)) rest
@[go_sem] theorem abK (d k a rest):an call md (fa d k a::rest) s h=(n8 k (s a)).bind fun a=>an call md rest (upd s d a) h:=yz d (.fadr k (.t a)) rest
@[go_sem] theorem abL (d a rest):an call md (nk d a::rest) s h=(tM (s a)).bind fun a=>an call md rest (upd s d a) h:=yz d (.nilck (.t a)) rest
@[go_sem] theorem abM (d k a rest):an call md (ld d k a::rest) s h=aI (bB md.nm s (some d) (dJ h k false (s a))) (an call md rest):=_root_.id rfl
@[go_sem] theorem abN (d k a rest):an call md (la d k a::rest) s h=aI (bB md.nm s (some d) (dJ h k true (s a))) (an call md rest):=_root_.id rfl
@[go_sem] theorem abO (d f zas rest):an call md (ca d f zas::rest) s h=aI (bB md.nm s (some d) (aj call md h d (zas.map (ev s)) (.fn f [] []))) (an call md rest):=_root_.id rfl
@[go_sem] theorem abP (k x y rest):an call md (sr k x y::rest) s h=aI (bB md.nm s none (fh h k (ev s x) (ev s y))) (an call md rest):=_root_.id rfl
@[go_sem] theorem abQ (d z rest):an call md (al d z::rest) s h=aI (bB md.nm s (some d) (fj h d z [])) (an call md rest):=_root_.id rfl
@[go_sem] theorem abR (d k x rest):an call md (bx d k x::rest) s h=aI (bB md.nm s (some d) (pG h d k (ev s x))) (an call md rest):=_root_.id rfl
@[go_sem] theorem ada (d j w op rest):an call md (⟨d,some (j,w),op⟩::rest) s h=aI (eM d w (bB md.nm s d (step call md (d.getD 0) op s h)) s h (s j)) (an call md rest):=_root_.id rfl
@[go_sem] theorem VH (d z rest):an call md (⟨some d,none,.alloc z⟩::rest) s h=aI (bB md.nm s (some d) (fj h d z [])) (an call md rest):=_root_.id rfl
@[go_sem] theorem Zm (d k x rest):an call md (⟨some d,none,.box k x⟩::rest) s h=aI (bB md.nm s (some d) (pG h d k (ev s x))) (an call md rest):=_root_.id rfl
@[go_sem] theorem SU (d k z n ps rest):an call md (⟨some d,none,.buildSl k z n ps⟩::rest) s h=aI (bB md.nm s (some d) ((cP k h (List.replicate n z) (ps.map fun p=>(p.1,ev s p.2))).bind fun q=>bF q.2.1 d k q.1 n q.2.2)) (an call md rest):=_root_.id rfl
@[go_sem] theorem Xm (d k z b l c rest):an call md (⟨some d,none,.mkSl k z b l c⟩::rest) s h=aI (bB md.nm s (some d) ((r9 (ev s l) (ev s c)).bind fun p=>if p.2*b≤140737488355328 then bF h d k (List.replicate p.1 z) p.1 [] else none)) (an call md rest):=_root_.id rfl
@[go_sem] theorem Xn (d k g x rest):an call md (⟨some d,none,.load k g x⟩::rest) s h=aI (bB md.nm s (some d) (dJ h k g (ev s x))) (an call md rest):=_root_.id rfl
@[go_sem] theorem VJ (d k x y rest):an call md (⟨d,none,.store k x y⟩::rest) s h=aI (bB md.nm s d (fh h k (ev s x) (ev s y))) (an call md rest):=_root_.id rfl
@[go_sem] theorem Zn (d k b x y rest):an call md (⟨some d,none,.app k b x y⟩::rest) s h=aI (bB md.nm s (some d) (wL h d k b (ev s x) (ev s y))) (an call md rest):=_root_.id rfl
@[go_sem] theorem Xo (d f zas rest):an call md (⟨some d,none,.call f zas⟩::rest) s h=aI (bB md.nm s (some d) (aj call md h d (zas.map (ev s)) (ev s f))) (an call md rest):=_root_.id rfl
@[go_sem] theorem VK (f zas rest):an call md (⟨none,none,.call f zas⟩::rest) s h=aI (bB md.nm s none (aj call md h 0 (zas.map (ev s)) (ev s f))) (an call md rest):=_root_.id rfl
@[go_sem] theorem Xp (nm:Bool) (s d x h):bB nm s (some d) (some (x,h,[]))=some ⟨upd s d x,h⟩:=by simp only [bB,g9,if_true]; rfl
@[go_sem] theorem VL (nm:Bool) (s x h):bB nm s none (some (x,h,[]))=some ⟨s,h⟩:=by simp only [bB,g9,if_true]; rfl
@[go_sem] theorem abS (d op):step call md d (.p op) s h=pI h (cX s op):=_root_.id rfl
@[go_sem] theorem VM (d k g x):step call md d (.load k g x) s h=dJ h k g (ev s x):=_root_.id rfl
@[go_sem] theorem VN (d f zas):step call md d (.call f zas) s h=aj call md h d (zas.map (ev s)) (ev s f):=_root_.id rfl
@[go_sem] theorem Tz (d k x y):step call md d (.store k x y) s h=fh h k (ev s x) (ev s y):=_root_.id rfl
@[go_sem] theorem TA (d z):step call md d (.alloc z) s h=fj h d z []:=_root_.id rfl
@[go_sem] theorem Xq (d k x):step call md d (.box k x) s h=pG h d k (ev s x):=_root_.id rfl
@[go_sem] theorem Qn (d k z n ps):step call md d (.buildSl k z n ps) s h=(cP k h (List.replicate n z) (ps.map fun p=>(p.1,ev s p.2))).bind fun q=>bF q.2.1 d k q.1 n q.2.2:=_root_.id rfl
@[go_sem] theorem VO (d k z b l c):step call md d (.mkSl k z b l c) s h=(r9 (ev s l) (ev s c)).bind fun p=>if p.2*b≤140737488355328 then bF h d k (List.replicate p.1 z) p.1 [] else none:=_root_.id rfl
@[go_sem] theorem VP (h a):pI h (some a)=some (a,h,[]):=_root_.id rfl
@[go_sem] theorem TB (d st s h):eM d true st s h (.v (.bool true))=st:=_root_.id rfl
@[go_sem] theorem TC (d st s h):eM d false st s h (.v (.bool false))=st:=_root_.id rfl
@[go_sem] theorem TD (d st s h):eM (some d) true st s h (.v (.bool false))=some ⟨upd s d .und,h⟩:=_root_.id rfl
@[go_sem] theorem TE (d st s h):eM (some d) false st s h (.v (.bool true))=some ⟨upd s d .und,h⟩:=_root_.id rfl
@[go_sem] theorem SV (d w st s h):eM (some d) w st s h .und=some ⟨upd s d .und,h⟩:=_root_.id rfl
@[go_sem] theorem ado (s n):ev s (.t n)=s n:=_root_.id rfl
@[go_sem] theorem adp (s a):ev s (.c a)=a:=_root_.id rfl
@[go_sem] theorem Xr (s):evo s none=none:=_root_.id rfl
@[go_sem] theorem Xs (s x):evo s (some x)=some (ev s x):=_root_.id rfl
@[go_sem] theorem abT {α:Type} (s:Nat→α) (d:Nat) (x:α) (i:Nat):upd s d x i=if i=d then x else s i:=_root_.id rfl
@[go_sem] theorem abU {α:Type} (d:α) (f:Nat→α):mk d f []=fun _=>d:=_root_.id rfl
@[go_sem] theorem Zo {α:Type} (d:α) (f:Nat→α) (i l):mk d f (i::l)=upd (mk d f l) i (f i):=_root_.id rfl
@[go_sem] theorem adq (x):cX s (.mv x)=some (ev s x):=_root_.id rfl
@[go_sem] theorem abV (c a b):cX s (.pick c a b)=vm (ev s c) (ev s a) (ev s b):=_root_.id rfl
@[go_sem] theorem Zp (x):cX s (.nilck x)=tM (ev s x):=_root_.id rfl
@[go_sem] theorem abW (n x):cX s (.nilq n x)=vn n (ev s x):=_root_.id rfl
@[go_sem] theorem adb (op x y):cX s (.bin op x y)=c8 op (ev s x) (ev s y):=_root_.id rfl
@[go_sem] theorem adr (op x):cX s (.un op x)=C1 op (ev s x):=_root_.id rfl
@[go_sem] theorem ads (k x):cX s (.cv k x)=Jv k (ev s x):=_root_.id rfl
@[go_sem] theorem adc (x):cX s (.cv0 x)=Hw (ev s x):=_root_.id rfl
@[go_sem] theorem ade (k x lo hi mx):cX s (.slc k x lo hi mx)=cx k (ev s x) (evo s lo) (evo s hi) (evo s mx):=_root_.id rfl
@[go_sem] theorem abX (x lo hi):cX s (.slcS x lo hi)=CG (ev s x) (evo s lo) (evo s hi):=_root_.id rfl
@[go_sem] theorem abY (o x):cX s (.fadr o x)=n8 o (ev s x):=_root_.id rfl
@[go_sem] theorem adf (o k g x):cX s (.fld o k g x)=C3 o k g (ev s x):=_root_.id rfl
@[go_sem] theorem Zq (k x i):cX s (.iadrS k x i)=lz k (ev s x) (ev s i):=_root_.id rfl
@[go_sem] theorem Zr (n k x i):cX s (.iadrA n k x i)=rk n k (ev s x) (ev s i):=_root_.id rfl
@[go_sem] theorem abZ (x i):cX s (.idxS x i)=vo (ev s x) (ev s i):=_root_.id rfl
@[go_sem] theorem ab0 (n k g x i):cX s (.idxA n k g x i)=CH n k g (ev s x) (ev s i):=_root_.id rfl
@[go_sem] theorem adg (i x):cX s (.ext i x)=C4 i (ev s x):=_root_.id rfl
@[go_sem] theorem adh (m x):cX s (.len m x)=io m (ev s x):=_root_.id rfl
@[go_sem] theorem adi (m t x y):cX s (.eqc m t x y)=C0 m t (ev s x) (ev s y):=_root_.id rfl
@[go_sem] theorem ab1 (x):cX s (.capp x)=zk (ev s x):=_root_.id rfl
@[go_sem] theorem adj (m x ys):cX s (.mnx m x ys)=qK m (ev s x) (ys.map (ev s)):=_root_.id rfl
@[go_sem] theorem Zs (z ps):cX s (.build z ps)=(mB z (ps.map fun p=>(p.1,p.2.1,ev s p.2.2))).map .agg:=_root_.id rfl
@[go_sem] theorem adk (f a b):cX s (.mkF f a b)=some (.fn f (a.map (ev s)) (b.map (ev s))):=_root_.id rfl
@[go_sem] theorem VQ (a b):vm (.v (.bool true)) a b=some a:=_root_.id rfl
@[go_sem] theorem TF (a b):vm (.v (.bool false)) a b=some b:=_root_.id rfl
@[go_sem] theorem Xt (id sub k i j):tM (.ref id sub k i j)=some (.ref id sub k i j):=_root_.id rfl
@[go_sem] theorem Xu (cs):tM (.ipt cs)=some (.ipt cs):=_root_.id rfl
@[go_sem] theorem Zt (f a b):tM (.fn f a b)=some (.fn f a b):=_root_.id rfl
theorem ig (op a b):c8 op (.v a) (.v b)=(eC op a b).map .v:=_root_.id rfl
@[go_sem] theorem Zu (k a b):c8 .add (.v (.int k a)) (.v (.int k b))=some (.v (.int k (k.wrap (a+b)))):=by simp [ig,eC,j9]
@[go_sem] theorem Zv (k a b):c8 .sub (.v (.int k a)) (.v (.int k b))=some (.v (.int k (k.wrap (a - b)))):=by simp [ig,eC,j9]
@[go_sem] theorem Zw (k a b):c8 .mul (.v (.int k a)) (.v (.int k b))=some (.v (.int k (k.wrap (a*b)))):=by simp [ig,eC,j9]
@[go_sem] theorem On (k a b):c8 .quo (.v (.int k a)) (.v (.int k b))=if b=0 then none else some (.v (.int k (k.wrap (a.tdiv b)))):=by simp only [ig,eC,j9,if_true]; split <;> rfl
@[go_sem] theorem GU (k a b):c8 .rem (.v (.int k a)) (.v (.int k b))=if b=0 then none else some (.v (.int k (a.tmod b))):=by simp only [ig,eC,j9,if_true]; split <;> rfl
@[go_sem] theorem GV (k a b):c8 .and (.v (.int k a)) (.v (.int k b))=some (.v (.int k (k.wrap ((BitVec.ofInt k.bits a &&& BitVec.ofInt k.bits b).toNat)))):=by simp [ig,eC,j9]
@[go_sem] theorem Qo (k a b):c8 .or (.v (.int k a)) (.v (.int k b))=some (.v (.int k (k.wrap ((BitVec.ofInt k.bits a ||| BitVec.ofInt k.bits b).toNat)))):=by simp [ig,eC,j9]
@[go_sem] theorem Oo (k k' a b):c8 .shl (.v (.int k a)) (.v (.int k' b))=if b < 0 then none else some (.v (.int k (k.wrap (a*2 ^ (min b.toNat k.bits))))):=by simp only [ig,eC,LH]; split <;> rfl
@[go_sem] theorem zD (k k' a b):c8 .shr (.v (.int k a)) (.v (.int k' b))=if b < 0 then none else some (.v (.int k (a.fdiv (2 ^ (min b.toNat k.bits))))):=by simp only [ig,eC,LI]; split <;> rfl
@[go_sem] theorem Zx (k a b):c8 .lss (.v (.int k a)) (.v (.int k b))=some (B (decide (a < b))):=by simp [ig,eC,j9]
@[go_sem] theorem Zy (k a b):c8 .leq (.v (.int k a)) (.v (.int k b))=some (B (decide (a≤b))):=by simp [ig,eC,j9]
@[go_sem] theorem Zz (k a b):c8 .gtr (.v (.int k a)) (.v (.int k b))=some (B (decide (b < a))):=by simp [ig,eC,j9]
@[go_sem] theorem ZA (k a b):c8 .geq (.v (.int k a)) (.v (.int k b))=some (B (decide (b≤a))):=by simp [ig,eC,j9]
@[go_sem] theorem ZB (k a b):c8 .eql (.v (.int k a)) (.v (.int k b))=some (B (decide (a=b))):=by simp [ig,eC,j9]; rfl
@[go_sem] theorem ZC (k a b):c8 .neq (.v (.int k a)) (.v (.int k b))=some (B (!decide (a=b))):=by simp [ig,eC,j9,bne]; rfl
@[go_sem] theorem ab2 (k a):C1 .neg (.v (.int k a))=some (.v (.int k (k.wrap (0 - a)))):=_root_.id rfl
@[go_sem] theorem ab3 (k a):C1 .xor (.v (.int k a))=some (.v (.int k (k.wrap ((BitVec.ofInt k.bits (if k.signed then -1 else k.max) ^^^ BitVec.ofInt k.bits a).toNat)))):=_root_.id rfl
@[go_sem] theorem ZD (k a b):c8 .xor (.v (.int k a)) (.v (.int k b))=some (.v (.int k (k.wrap ((BitVec.ofInt k.bits a ^^^ BitVec.ofInt k.bits b).toNat)))):=by simp [ig,eC,j9]
@[go_sem] theorem ab4 (b):C1 .not (.v (.bool b))=some (B (!b)):=_root_.id rfl
@[go_sem] theorem ab5 (k k' n):Jv k (.v (.int k' n))=some (.v (.int k (k.wrap n))):=_root_.id rfl
@[go_sem] theorem Xv (o id sub k i j):n8 o (.ref id sub k i j)=some (.ref id sub k i (j+o)):=_root_.id rfl
@[go_sem] theorem Xw (o cs):n8 o (.ipt cs)=some (.ipt (cs.drop o)):=_root_.id rfl
@[go_sem] theorem ZE (o k g cs):C3 o k g (.agg cs)=gF k g cs o:=_root_.id rfl
@[go_sem] theorem VR (k cs o):gF k false cs o=cs[o]?:=_root_.id rfl
@[go_sem] theorem Xx (k cs o):gF k true cs o=if o+k≤cs.length then some (.agg ((cs.drop o).take k)) else none:=_root_.id rfl
@[go_sem] theorem ZF (k rows k' i):lz k (.sl k rows) (.v (.int k' i))=aX rows i:=by simp [lz]
@[go_sem] theorem Xy (k id sub lo n k' i):lz k (.rsl id sub k lo n) (.v (.int k' i))=if 0≤i∧i < n then some (.ref id sub k (lo+i.toNat) 0) else none:=by simp [lz]
@[go_sem] theorem VS (n k id sub k' a j kk i):rk n k (.ref id sub k' a j) (.v (.int kk i))=if 0≤i∧i < n then some (.ref id sub k' a (j+i.toNat*k)) else none:=_root_.id rfl
@[go_sem] theorem VU (n k cs kk i):rk n k (.ipt cs) (.v (.int kk i))=if 0≤i∧i < n then some (.ipt (cs.drop (i.toNat*k))) else none:=_root_.id rfl
@[go_sem] theorem ZG (i vs):C4 i (.tup vs)=vs[i]?:=_root_.id rfl
@[go_sem] theorem ab6 (k rows):io false (.sl k rows)=some (I rows.length):=_root_.id rfl
@[go_sem] theorem ZH:io false .emp=some (I 0):=_root_.id rfl
@[go_sem] theorem ZI (a b c d n):io false (.rsl a b c d n)=some (I n):=_root_.id rfl
@[go_sem] theorem ZJ (x):io true (.v (.string x))=some (I x.size):=_root_.id rfl
@[go_sem] theorem Xz (m a):qK m a []=some a:=_root_.id rfl
@[go_sem] theorem VV (m a b l):qK m a (b::l)=(zl m a b).bind fun c=>qK m c l:=_root_.id rfl
@[go_sem] theorem ZK (k k' x y):zl true (.v (.int k x)) (.v (.int k' y))=some (.v (.int k (if y < x then y else x))):=_root_.id rfl
@[go_sem] theorem ZL (k k' x y):zl false (.v (.int k x)) (.v (.int k' y))=some (.v (.int k (if x < y then y else x))):=_root_.id rfl
@[go_sem] theorem XA (m a b):C0 m 0 (.v (.bool a)) (.v (.bool b))=some (B (m != (a == b))):=_root_.id rfl
@[go_sem] theorem VW (z):mB z []=some z:=_root_.id rfl
@[go_sem] theorem TG (z o k a ps):mB z ((o,k,a)::ps)=(dg a).bind fun cs=>if cs.length=k∧o+k≤z.length then mB (setRow z o cs) ps else none:=_root_.id rfl
@[go_sem] theorem VX (cs):dg (.agg cs)=some cs:=_root_.id rfl
@[go_sem] theorem ZM (x):dg (.v x)=some [.v x]:=_root_.id rfl
@[go_sem] theorem VY:dg .emp=some [.emp]:=_root_.id rfl
@[go_sem] theorem XB (k r):dg (.sl k r)=some [.sl k r]:=_root_.id rfl
@[go_sem] theorem VZ (a b c d e):dg (.rsl a b c d e)=some [.rsl a b c d e]:=_root_.id rfl
@[go_sem] theorem V0 (a b c d e):dg (.ref a b c d e)=some [.ref a b c d e]:=_root_.id rfl
@[go_sem] theorem XC (f a b):dg (.fn f a b)=some [.fn f a b]:=_root_.id rfl
@[go_sem] theorem TH (r j):setRow r j []=r:=_root_.id rfl
@[go_sem] theorem SW (r j c cs):setRow r j (c::cs)=setRow (r.set j c) (j+1) cs:=_root_.id rfl
@[go_sem] theorem XD (h k g cs):dJ h k g (.ipt cs)=(gF k g cs 0).map fun a=>(a,h,[]):=_root_.id rfl
@[go_sem] theorem XE (h k g id k0 i j):dJ h k g (.ref id none k0 i j)=od h k g id k0 i j (h id):=_root_.id rfl
@[go_sem] theorem XF (h k g id p k0 i j):dJ h k g (.ref id (some p) k0 i j)=iM h k g k0 i j (fM p (h id)):=_root_.id rfl
@[go_sem] theorem XG (h k g id k0 i j cs):od h k g id k0 i j (.bx cs)=r7 h id (i*k0+j) k g cs:=_root_.id rfl
@[go_sem] theorem XH (h k g id k0 i j k' rows):od h k g id k0 i j (.ar k' rows)=iM h k g k0 i j (some (k',rows)):=_root_.id rfl
@[go_sem] theorem XI (h k g id k0 i j k' rows):od h k g id k0 i j (.fz k' rows)=iM h k g k0 i j (some (k',rows)):=_root_.id rfl
@[go_sem] theorem TI (h id p k cs):r7 h id p k false cs=(cs[p]?).map fun c=>(n9 id p c,h,[]):=_root_.id rfl
@[go_sem] theorem V1 (h id p k cs):r7 h id p k true cs=if p+k≤cs.length then (if ((cs.drop p).take k).any aL then some (.agg (((cs.map fw).drop p).take k),upd h id (.bx (cs.map fw)),[(id,true)]) else some (.agg ((cs.drop p).take k),h,[])) else none:=_root_.id rfl
@[go_sem] theorem ZN (id p x):n9 id p (.v x)=.v x:=_root_.id rfl
@[go_sem] theorem V2 (id p):n9 id p .emp=.emp:=_root_.id rfl
@[go_sem] theorem XJ (id p k r):n9 id p (.sl k r)=.sl k r:=_root_.id rfl
@[go_sem] theorem V3 (id p a b c d e):n9 id p (.ref a b c d e)=.ref a b c d e:=_root_.id rfl
@[go_sem] theorem XK (id p f a b):n9 id p (.fn f a b)=.fn f a b:=_root_.id rfl
@[go_sem] theorem V4 (id p k r):n9 id p (.osl k r)=.rsl id (some p) k 0 r.length:=_root_.id rfl
@[go_sem] theorem TJ (h k g i j k' rows):iM h k g k' i j (some (k',rows))=(rows[i]?).bind fun row=>(gF k g row j).map fun a=>(a,h,[]):=by simp [iM]
@[go_sem] theorem ZO (x):aL (.v x)=false:=_root_.id rfl
@[go_sem] theorem V5:aL .emp=false:=_root_.id rfl
@[go_sem] theorem XL (k r):aL (.sl k r)=false:=_root_.id rfl
@[go_sem] theorem V6 (k r):aL (.osl k r)=true:=_root_.id rfl
@[go_sem] theorem V7 (a b c d e):aL (.ref a b c d e)=false:=_root_.id rfl
@[go_sem] theorem XM (f a b):aL (.fn f a b)=false:=_root_.id rfl
@[go_sem] theorem ab7 (x):ak (.v x)=true:=_root_.id rfl
@[go_sem] theorem XN:ak .emp=true:=_root_.id rfl
@[go_sem] theorem ZP (k r):ak (.sl k r)=true:=_root_.id rfl
@[go_sem] theorem XO (a b c d e):ak (.rsl a b c d e)=false:=_root_.id rfl
@[go_sem] theorem XP (a b c d e):ak (.ref a b c d e)=false:=_root_.id rfl
@[go_sem] theorem XQ (f):ak (.fn f [] [])=true:=_root_.id rfl
@[go_sem] theorem ZQ (cs):dat (.agg cs)=cs.all ak:=_root_.id rfl
@[go_sem] theorem adl (x):dat (.v x)=true:=_root_.id rfl
@[go_sem] theorem ZR:dat .emp=true:=_root_.id rfl
@[go_sem] theorem ab8 (k r):dat (.sl k r)=true:=_root_.id rfl
@[go_sem] theorem ZS (a b c d e):dat (.rsl a b c d e)=false:=_root_.id rfl
@[go_sem] theorem ZT (a b c d e):dat (.ref a b c d e)=false:=_root_.id rfl
@[go_sem] theorem ZU (f):dat (.fn f [] [])=true:=_root_.id rfl
@[go_sem] theorem XR (h d cs ks):fj h d cs ks=pF h d (.ref d none 0 0 0) (.bx cs) ks (h d):=_root_.id rfl
@[go_sem] theorem V8 (h d a o ks):pF h d a o ks .dead=some (a,upd h d o,ks):=_root_.id rfl
@[go_sem] theorem TK (h d k rows n ks):bF h d k rows n ks=pF h d (.rsl d none k 0 n) (.ar k rows) ks (h d):=_root_.id rfl
@[go_sem] theorem ab9 (h d k x):pG h d k x=(dg x).bind fun xs=>if xs.length=k then (if xs.all ak then fj h d xs [] else (fj h d (List.replicate k .any) []).bind (LK d 0 xs)) else none:=_root_.id rfl
@[go_sem] theorem Qp (k h rows):cP k h rows []=some (rows,h,[]):=_root_.id rfl
@[go_sem] theorem PH (k h rows i a ps):cP k h rows ((i,a)::ps)=(dg a).bind fun cs=>if cs.length=k∧i < rows.length then (dn h cs).bind fun q=>(cP k q.2.1 (rows.set i q.1) ps).bind fun r=>some (r.1,r.2.1,q.2.2++r.2.2) else none:=_root_.id rfl
@[go_sem] theorem V9 (h):dn h []=some ([],h,[]):=_root_.id rfl
@[go_sem] theorem TL (h a l):dn h (a::l)=(c9 h a).bind fun p=>(dn p.2.1 l).bind fun q=>some (p.1::q.1,q.2.1,p.2.2++q.2.2):=_root_.id rfl
@[go_sem] theorem aca (h x):c9 h (.v x)=some (.v x,h,[]):=_root_.id rfl
@[go_sem] theorem XS (h):c9 h .emp=some (.emp,h,[]):=_root_.id rfl
@[go_sem] theorem ZV (h k r):c9 h (.sl k r)=some (.sl k r,h,[]):=_root_.id rfl
@[go_sem] theorem ZW (h f):c9 h (.fn f [] [])=some (.fn f [] [],h,[]):=_root_.id rfl
@[go_sem] theorem XT (h id k lo n):c9 h (.rsl id none k lo n)=iq h id k lo n (h id):=_root_.id rfl
@[go_sem] theorem Wa (h id p k lo n):c9 h (.rsl id (some p) k lo n)=tN h id p k lo n (h id):=_root_.id rfl
@[go_sem] theorem ZX (h id k lo n rows):iq h id k lo n (.ar k rows)=if lo+n≤rows.length then some (ip k lo n rows,upd h id (.fz k rows),[]) else none:=by simp [iq]
@[go_sem] theorem ZY (h id k lo n rows):iq h id k lo n (.fz k rows)=if lo+n≤rows.length then some (ip k lo n rows,h,[]) else none:=by simp [iq]
@[go_sem] theorem ZZ (k lo n rows):ip k lo n rows=.sl k ((rows.drop lo).take n):=_root_.id rfl
@[go_sem] theorem Wb (h k id k0 i j x):fh h k (.ref id none k0 i j) x=(dg x).bind fun xs=>if xs.length=k then qM h k id k0 i j xs (h id) else none:=_root_.id rfl
@[go_sem] theorem Wc (h k id p k0 i j x):fh h k (.ref id (some p) k0 i j) x=(dg x).bind fun xs=>if xs.length=k then (dn h xs).bind fun q=>vr q.2.1 k id p k0 i j q.1 q.2.2 (q.2.1 id) else none:=_root_.id rfl
@[go_sem] theorem Z0 (h k id k0 i j xs cs):qM h k id k0 i j xs (.bx cs)=zm h id (i*k0+j) k xs cs:=_root_.id rfl
@[go_sem] theorem Z1 (h k id k0 i j xs k' rows):qM h k id k0 i j xs (.ar k' rows)=(dn h xs).bind fun q=>zn q.2.1 id k k0 i j q.1 q.2.2 (q.2.1 id):=_root_.id rfl
@[go_sem] theorem Z2 (h id k k0 i j xs ks k' rows):zn h id k k0 i j xs ks (.ar k' rows)=(tO k k0 i j xs k' rows).map fun q=>(.und,upd h id (.ar k' q),ks):=_root_.id rfl
@[go_sem] theorem Z3 (k k0 i j cs rows):tO k k0 i j cs k0 rows=(rows[i]?).bind fun row=>if j+k≤row.length then some (rows.set i (setRow row j cs)) else none:=by simp [tO]
@[go_sem] theorem Z4 (h id p k xs cs):zm h id p k xs cs=if p+k≤cs.length then (if xs.all ak then some (.und,upd h id (.bx (setRow cs p xs)),if ((cs.drop p).take k).any aL then [(id,true)] else []) else (lC h id p xs.length xs).map fun q=>(.und,q.1,q.2)) else none:=_root_.id rfl
@[go_sem] theorem Z5 (hs x):eB hs (.v x)=.v x:=_root_.id rfl
@[go_sem] theorem Wd (hs):eB hs .emp=.emp:=_root_.id rfl
@[go_sem] theorem XU (hs k r):eB hs (.sl k r)=.sl k r:=_root_.id rfl
@[go_sem] theorem We (hs):eB hs .any=.any:=_root_.id rfl
@[go_sem] theorem Wf (hs cs):eB hs (.ipt cs)=.ipt cs:=_root_.id rfl
@[go_sem] theorem Wg (hs id sub k lo n):eB hs (.rsl id sub k lo n)=if hs.contains id then .rsl id sub k lo n else .any:=_root_.id rfl
@[go_sem] theorem Wh (hs id sub k lo n):eB hs (.ref id sub k lo n)=if hs.contains id then .ref id sub k lo n else .any:=_root_.id rfl
@[go_sem] theorem Wi (hs cs):eB hs (.agg cs)=if cs.all (knownL hs) then .agg cs else .any:=_root_.id rfl
@[go_sem] theorem Wj (hs f):eB hs (.fn f [] [])=.fn f [] []:=_root_.id rfl
@[go_sem] theorem XV (hs f a b):eB hs (.fn f a b)=if a.all (knownL hs) && b.all (knownL hs) then .fn f a b else .any:=_root_.id rfl
@[go_sem] theorem XW (hs x):knownL hs (.v x)=true:=_root_.id rfl
@[go_sem] theorem TM (hs):knownL hs .emp=true:=_root_.id rfl
@[go_sem] theorem Wk (hs k r):knownL hs (.sl k r)=true:=_root_.id rfl
@[go_sem] theorem TN (hs id a b c d):knownL hs (.ref id a b c d)=hs.contains id:=_root_.id rfl
@[go_sem] theorem Qq (hs):aU hs .dead=true:=_root_.id rfl
@[go_sem] theorem TO (hs k r):aU hs (.ar k r)=true:=_root_.id rfl
@[go_sem] theorem TP (hs k r):aU hs (.fz k r)=true:=_root_.id rfl
@[go_sem] theorem TQ (hs cs):aU hs (.bx cs)=cs.all (d7 hs):=_root_.id rfl
@[go_sem] theorem Wl (hs x):d7 hs (.v x)=true:=_root_.id rfl
@[go_sem] theorem SX (hs):d7 hs .emp=true:=_root_.id rfl
@[go_sem] theorem TR (hs k r):d7 hs (.sl k r)=true:=_root_.id rfl
@[go_sem] theorem SY (hs k r):d7 hs (.osl k r)=true:=_root_.id rfl
@[go_sem] theorem SZ (hs id a b c):d7 hs (.ref id none a b c)=hs.contains id:=by simp [d7,aL,aK,aN]
@[go_sem] theorem S0 (hs f):d7 hs (.fn f [] [])=true:=_root_.id rfl
@[go_sem] theorem TS {α β:Type} (f:α→β) (a):Option.map f (some a)=some (f a):=_root_.id rfl
@[go_sem] theorem TT {α β:Type} (f:α→β):Option.map f none=none:=_root_.id rfl
@[go_sem] theorem S1 {α β:Type} (f:α→Option β) (a):(some a).bind f=f a:=_root_.id rfl
@[go_sem] theorem S2 {α β:Type} (f:α→Option β):(none:Option α).bind f=none:=_root_.id rfl
@[go_sem] theorem S3 {α:Type} (a b:α):(some a).getD b=a:=_root_.id rfl
@[go_sem] theorem Wm {α:Type} (p:α→Bool):[].all p=true:=_root_.id rfl
@[go_sem] theorem TU {α:Type} (p:α→Bool) (a l):(a::l).all p=(p a && l.all p):=_root_.id rfl
@[go_sem] theorem Wn {α:Type} (p:α→Bool):[].any p=false:=_root_.id rfl
@[go_sem] theorem TV {α:Type} (p:α→Bool) (a l):(a::l).any p=(p a || l.any p):=_root_.id rfl
@[go_sem] theorem TW {α:Type} (a:α) (l):(a::l)[0]?=some a:=_root_.id rfl
@[go_sem] theorem TY {α:Type} (a:α) (l) (n:Nat):(a::l)[n+1]?=l[n]?:=_root_.id rfl
@[go_sem] theorem Wo {α β:Type} (f:α→β):[].map f=[]:=_root_.id rfl
@[go_sem] theorem TZ {α β:Type} (f:α→β) (a l):(a::l).map f=f a::l.map f:=_root_.id rfl
@[go_sem] theorem XX {α β:Type} (f:α→List β):[].flatMap f=[]:=_root_.id rfl
@[go_sem] theorem Wp {α β:Type} (f:α→List β) (a l):(a::l).flatMap f=f a++l.flatMap f:=_root_.id rfl
@[go_sem] theorem Wq {α:Type} (l:List α):l++[]=l:=List.append_nil l
@[go_sem] theorem Wr {α:Type} (l:List α):[]++l=l:=_root_.id rfl
@[go_sem] theorem T0 {α:Type} (a:α) (l r):(a::l)++r=a::(l++r):=_root_.id rfl
@[go_sem] theorem Ws {α:Type}:([]:List α).length=0:=_root_.id rfl
@[go_sem] theorem T1 {α:Type} (a:α) (l):(a::l).length=l.length+1:=_root_.id rfl
@[go_sem] theorem S4 {α:Type} (l:List α):l.drop 0=l:=_root_.id rfl
@[go_sem] theorem S5 {α:Type} (a:α) (l) (n:Nat):(a::l).drop (n+1)=l.drop n:=_root_.id rfl
@[go_sem] theorem S6 {α:Type} (l:List α):l.take 0=[]:=_root_.id rfl
@[go_sem] theorem S7 {α:Type} (a:α) (l) (n:Nat):(a::l).take (n+1)=a::l.take n:=_root_.id rfl
@[go_sem] theorem Qr {α:Type} (p:α→Bool):[].filter p=[]:=_root_.id rfl
@[go_sem] theorem T2 {α:Type} (a b:α) (l):(a::l).set 0 b=b::l:=_root_.id rfl
@[go_sem] theorem T3 {α:Type} (a b:α) (l) (n:Nat):(a::l).set (n+1) b=a::l.set n b:=_root_.id rfl
@[go_sem] theorem acb {α:Type} (a:α):List.replicate 0 a=[]:=_root_.id rfl
@[go_sem] theorem acd {α:Type} (a:α):List.replicate 1 a=[a]:=_root_.id rfl
@[go_sem] theorem ace {α:Type} (a:α):List.replicate 2 a=[a,a]:=_root_.id rfl
@[go_sem] theorem acf {α:Type} (a:α):List.replicate 3 a=[a,a,a]:=_root_.id rfl
@[go_sem] theorem acg {α:Type} (a:α):List.replicate 4 a=[a,a,a,a]:=_root_.id rfl
@[go_sem] theorem ach {α:Type} (a:α):List.replicate 5 a=[a,a,a,a,a]:=_root_.id rfl
@[go_sem] theorem adt:decide True=true:=_root_.id rfl
@[go_sem] theorem adu:decide False=false:=_root_.id rfl
@[go_sem] theorem Z6 (b:Bool):(true && b)=b:=_root_.id rfl
@[go_sem] theorem Z7 (b:Bool):(false && b)=false:=_root_.id rfl
@[go_sem] theorem aci (b:Bool):(true || b)=true:=_root_.id rfl
@[go_sem] theorem acj (b:Bool):(false || b)=b:=_root_.id rfl
@[go_sem] theorem Z8:(!true)=false:=_root_.id rfl
@[go_sem] theorem Z9:(!false)=true:=_root_.id rfl
@[go_sem] theorem aaa (b:Bool):(b && true)=b:=Bool.and_true b
@[go_sem] theorem adv:(false=true)=False:=by simp
@[go_sem] theorem adm {α:Type} (a:α):(a=a)=True:=by simp
@[go_sem] theorem ack (p:Prop):(True∧p)=p:=by simp
@[go_sem] theorem aab (p:Prop):(p∧True)=p:=by simp
@[go_sem] theorem acl (p:Prop):(False∧p)=False:=by simp
@[go_sem] theorem acm:(¬ False)=True:=by simp
@[go_sem] theorem acn:(¬ True)=False:=by simp
@[go_sem] theorem XY (nm rs res n t):oT nm rs res n (some (.ret,t))=pJ nm rs res n t.s t.h:=_root_.id rfl
@[go_sem] theorem S8 (nm rs res n t):oT nm rs res n (some (.normal,t))=pJ nm rs res n t.s t.h:=_root_.id rfl
@[go_sem] theorem Wt (nm rs res n s h):pJ nm rs res n s h=(mF s h res).bind fun q=>if iN nm q.2.2 then mG rs n q.2.1 q.1 else none:=_root_.id rfl
@[go_sem] theorem aco (nm:Bool):iN nm []=true:=g9 nm
@[go_sem] theorem Wu (s h):mF s h []=some ([],h,[]):=_root_.id rfl
@[go_sem] theorem aac (s h n l):mF s h (.t n::l)=(mF s h l).bind fun q=>some (Dg q.2.2 (s n)::q.1,q.2.1,q.2.2):=_root_.id rfl
@[go_sem] theorem T4 (s h n k g l):mF s h (.cell n k g::l)=(dJ h k g (s n)).bind fun p=>(mF (d6 p.2.2 s) p.2.1 l).bind fun q=>some (Dg q.2.2 p.1::q.1,q.2.1,p.2.2++q.2.2):=_root_.id rfl
@[go_sem] theorem XZ (a):Dg [] a=a:=_root_.id rfl
@[go_sem] theorem Wv (s):d6 [] s=s:=_root_.id rfl
@[go_sem] theorem acp (rs h vs):mG rs 0 h vs=if eF ((vs.flatMap bh).filter fun i=>!aF i) then (kF h vs).map fun us=>(jS (aM rs us),[]) else none:=by simp [mG,bI]
@[go_sem] theorem Ww (h):kF h []=some []:=_root_.id rfl
@[go_sem] theorem T5 (h a l):kF h (a::l)=(kd h a).bind fun b=>(kF h l).bind fun q=>some (b::q):=_root_.id rfl
@[go_sem] theorem acq (h x):kd h (.v x)=some (.v x):=_root_.id rfl
@[go_sem] theorem X1 (h):kd h .emp=some .emp:=_root_.id rfl
@[go_sem] theorem aad (h k r):kd h (.sl k r)=some (.sl k r):=_root_.id rfl
@[go_sem] theorem X3 (h cs):kd h (.agg cs)=(fA h cs).map .agg:=_root_.id rfl
@[go_sem] theorem X4 (h id k lo n):kd h (.rsl id none k lo n)=if aF id then none else oR k lo n (h id):=_root_.id rfl
@[go_sem] theorem aae (k lo n rows):oR k lo n (.ar k rows)=if lo+n≤rows.length then (if lo=0∧n=rows.length then some (.osl k rows) else some (ip k lo n rows)) else none:=by simp [oR]
@[go_sem] theorem aaf (k lo n rows):oR k lo n (.fz k rows)=if lo+n≤rows.length then some (ip k lo n rows) else none:=by simp [oR]
@[go_sem] theorem Wx (h):fA h []=some []:=_root_.id rfl
@[go_sem] theorem aag (h x l):fA h (.v x::l)=(fA h l).bind fun q=>some (.v x::q):=_root_.id rfl
@[go_sem] theorem Wy (h l):fA h (.emp::l)=(fA h l).bind fun q=>some (.emp::q):=_root_.id rfl
@[go_sem] theorem X5 (h k r l):fA h (.sl k r::l)=(fA h l).bind fun q=>some (.sl k r::q):=_root_.id rfl
@[go_sem] theorem Wz (h id k lo n l):fA h (.rsl id none k lo n::l)=(fy h (.rsl id none k lo n)).bind fun b=>(oS b).bind fun c=>(fA h l).bind fun q=>some (c::q):=_root_.id rfl
@[go_sem] theorem X6 (h id k lo n):fy h (.rsl id none k lo n)=if aF id then none else oR k lo n (h id):=_root_.id rfl
@[go_sem] theorem X7 (k r):oS (.osl k r)=some (.sl k r):=_root_.id rfl
@[go_sem] theorem aah (k r):oS (.sl k r)=some (.sl k r):=_root_.id rfl
@[go_sem] theorem aai (a):jS [a]=a:=_root_.id rfl
@[go_sem] theorem aaj (a b l):jS (a::b::l)=.tup (a::b::l):=_root_.id rfl
@[go_sem] theorem aak:jS []=.tup []:=_root_.id rfl
@[go_sem] theorem WA (l):aM [] l=l:=by cases l <;> simp [aM]
@[go_sem] theorem T6 (s):aM s []=[]:=by cases s <;> simp [aM]
@[go_sem] theorem T7 (s ss a l):aM (s::ss) (a::l)=nrmV s a::aM ss l:=_root_.id rfl
@[go_sem] theorem Me (a):nrmV [] a=a:=by cases a <;> simp [nrmV,nrmL,bQ]
@[go_sem] theorem X8 (ss cs):nrmV ss (.agg cs)=.agg (bQ ss cs):=_root_.id rfl
@[go_sem] theorem acr (ss x):nrmV ss (.v x)=.v x:=by
 show nrmL _ _=_
 generalize ss.headD (.o 0 [])=s
 obtain ⟨k,cs⟩:=s
 cases k <;> simp [nrmL]
@[go_sem] theorem X9 (k cs ss):nrmV (.o (k+1) cs::ss) .emp=.sl k []:=by simp [nrmV,nrmL]
@[go_sem] theorem aal (k cs ss k' rows):nrmV (.o (k+1) cs::ss) (.sl k' rows)=.sl k' (rows.map (bQ cs)):=by simp [nrmV,nrmL]
@[go_sem] theorem Ya (k cs ss k' rows):nrmV (.o (k+1) cs::ss) (.osl k' rows)=.sl k' (rows.map (bQ cs)):=by simp [nrmV,nrmL]
@[go_sem] theorem Mf (l):bQ [] l=l:=by cases l <;> simp [bQ]
@[go_sem] theorem WB (l):bQ l []=[]:=by cases l <;> simp [bQ]
@[go_sem] theorem WC (s ss a l):bQ (s::ss) (a::l)=nrmL s a::bQ ss l:=by simp [bQ]
@[go_sem] theorem acs (cs a):nrmL (.o 0 cs) a=a:=by simp [nrmL]
@[go_sem] theorem Yb (k cs):nrmL (.o (k+1) cs) .emp=.sl k []:=by simp [nrmL]
@[go_sem] theorem aam (k cs k' rows):nrmL (.o (k+1) cs) (.sl k' rows)=.sl k' (rows.map (bQ cs)):=by simp [nrmL]
@[go_sem] theorem act (k cs x):nrmL (.o k cs) (.v x)=.v x:=by cases k <;> simp [nrmL]
@[go_sem] theorem acu (x):bh (.v x)=[]:=_root_.id rfl
@[go_sem] theorem Yc:bh .emp=[]:=_root_.id rfl
@[go_sem] theorem aan (k r):bh (.sl k r)=[]:=_root_.id rfl
@[go_sem] theorem Yd (cs):bh (.agg cs)=cs.flatMap cz:=_root_.id rfl
@[go_sem] theorem Ye (a b c d e):bh (.rsl a b c d e)=[a]:=_root_.id rfl
@[go_sem] theorem acv (x):cz (.v x)=[]:=_root_.id rfl
@[go_sem] theorem Yf:cz .emp=[]:=_root_.id rfl
@[go_sem] theorem aao (k r):cz (.sl k r)=[]:=_root_.id rfl
@[go_sem] theorem Yg (a b c d e):cz (.rsl a b c d e)=[a]:=_root_.id rfl
@[go_sem] theorem T8:eF []=true:=_root_.id rfl
@[go_sem] theorem T9 (a):eF [a]=true:=_root_.id rfl
@[go_sem] theorem aap (args i):oU args i=(args[i]?).getD .any:=_root_.id rfl
@[go_sem] theorem Iq:ae []=fun _=>.dead:=by funext i; simp [ae]
@[go_sem] theorem WD (i):aF i=decide (1000≤i∧i < 2000):=_root_.id rfl
def gp (h:aa) (d:Nat):Option (AV × List Ob)→Option R3
 | some (r,[])=>if b9 r≤8∧cN h (2000+8*d) (b9 r)=true∧dU [] r=true then some ((mat (2000+8*d) h r).1,(mat (2000+8*d) h r).2,[]) else none
 | _=>none
theorem eO {c:AV} {ids:List Nat} {n:Nat} (hn:2000≤n) (hc:aN [] c=true∨(∃ k lo m,c=.rsl n none k lo m)∨∃ k i j,c=.ref n none k i j):fV (bE ids) c=c:=by
 have hb:bE ids n=n:=by unfold bE; rw [if_neg (by omega)]
 rcases hc with hc | ⟨k,lo,m,rfl⟩ | ⟨k,i,j,rfl⟩
 ·cases c <;> simp [aN] at hc <;> rfl
 ·simp [fV,hb]
 ·simp [fV,hb]
theorem A6 {r:AV} {n:Nat} (hn:2000≤n) (h:aa) (ids:List Nat) (hr:cQ [] r=true):cU (bE ids) (bK n h r).1=(bK n h r).1:=by
 cases r <;> simp only [cQ] at hr <;> simp only [bK]
 case osl=>simp only [cU]; exact eO hn (.inr (.inl ⟨_,_,_,rfl⟩))
 case obx=>simp only [cU]; exact eO hn (.inr (.inr ⟨_,_,_,rfl⟩))
 case agg cs =>
  simp only [aK,List.all_eq_true] at hr
  simp only [cU,AV.agg.injEq]
  exact (List.map_congr_left (g:=fun c=>c) fun c hc=>eO hn (.inl (hr c hc))).trans (List.map_id' cs)
 case fn f x y =>
  simp only [aK,Bool.and_eq_true,List.all_eq_true] at hr
  simp only [cU,AV.fn.injEq,true_and]
  exact ⟨(List.map_congr_left (g:=fun c=>c) fun c hc=>eO hn (.inl (hr.1 c hc))).trans (List.map_id' x),(List.map_congr_left (g:=fun c=>c) fun c hc=>eO hn (.inl (hr.2 c hc))).trans (List.map_id' y)⟩
 all_goals
  simp only [cU]
  exact eO hn (.inl hr)
theorem A7 (ids:List Nat):∀ {l:List AV} {n:Nat} {h:aa},2000≤n→l.all (cQ [])=true→(bi n h l).1.map (cU (bE ids))=(bi n h l).1
 | [],n,h,_,_=>rfl
 | c::l,n,h,hn,hr=>by
  simp only [List.all_cons,Bool.and_eq_true] at hr
  simp only [bi,List.map_cons]
  rw [A6 hn h ids hr.1,A7 ids (by omega) hr.2]
theorem Mg {r:AV} {n:Nat} (hn:2000≤n) (h:aa) (ids:List Nat) (hr:dU [] r=true):sd (bE ids) (mat n h r).1=(mat n h r).1:=by
 cases r with
 | tup vs =>
  simp only [dU] at hr
  simp only [mat,sd,AV.tup.injEq]
  exact A7 ids hn hr
 | _ =>
  simp only [dU] at hr
  have:=A6 hn h ids hr
  simp only [mat]
  simp only [bK] at this ⊢
  exact this
theorem A8:∀ l:List AV,jP [] l=[]
 | []=>rfl
 | a::l=>by simp [jP,A8 l]
theorem qv {f:FuncId} {args:List AV} (d:Nat) (hm:md.m f=[]) (hd:args.all dat=true):aj call md h d args (.fn f [] [])=gp h d (call f (aM (md.sh f) args) []):=by
 have hin:ag h [] args=some (args,h,[]):=by
  have:∀ (l:List AV),l.all dat=true→ag h [] l=some (l,h,[]):=by
   intro l
   induction l with
   | nil=>intro _; rfl
   | cons a l ih =>
    intro hd
    simp only [List.all_cons,Bool.and_eq_true] at hd
    have ha:bD h 0 a=some (a,h,[]):=by
     have h1:=hd.1
     by_cases hagg:∃ cs,a=.agg cs
     ·obtain ⟨cs,rfl⟩:=hagg
      simp only [dat] at h1
      simp only [bD,lA]
      rw [fH h1 h]
      rfl
     ·have h2:ak a=true:=by cases a <;> first | exact h1 | exact absurd ⟨_,rfl⟩ hagg
      cases a <;> first | (simp [ak] at h2; done) | rfl | skip
    simp only [ag,List.headD_nil,ha,Option.bind_some,List.tail_nil,ih hd.2,List.append_nil]
  exact this args hd
 have hids:args.flatMap bh=[]:=by
  rw [List.flatMap_eq_nil_iff]
  exact fun c hc=>Dv (List.all_eq_true.1 hd c hc)
 have hren:(aM (md.sh f) args).map (cU (aY []))=aM (md.sh f) args∧(aM (md.sh f) args).all (aK [])=true:=by
  have key:∀ c ∈ aM (md.sh f) args,dat c=true:=by
   intro c hc
   obtain ⟨i,hi⟩:=List.getElem?_of_mem hc
   obtain ⟨c0,h1,h2⟩:=mn _ _ _ _ hi
   have h0:=List.all_eq_true.1 hd c0 (List.mem_of_getElem? h1)
   rcases h2 with rfl | ⟨ss,rfl⟩
   ·exact h0
   ·cases c0 <;> simp only [dat] at h0 <;> simp only [nrmV,dat] <;> try (have:=pQ (s:=ss.headD (.o 0 [])) h0; revert this; generalize nrmL _ _=q; intro this; cases q <;> first | exact this | simp [ak] at this)
    rename_i cs
    rw [List.all_eq_true]
    intro c hc
    obtain ⟨i,hi⟩:=List.getElem?_of_mem hc
    obtain ⟨c0,h1,h2⟩:=pP _ _ _ _ hi
    have h3:=List.all_eq_true.1 h0 c0 (List.mem_of_getElem? h1)
    rcases h2 with rfl | ⟨s,rfl⟩
    ·exact h3
    ·exact pQ h3
  refine ⟨(List.map_congr_left (g:=fun c=>c) fun c hc=>?_).trans (List.map_id' _),?_⟩
  ·have:=key c hc
   cases c <;> simp only [dat] at this <;> first | rfl | skip
   all_goals first
    | (simp [ak] at this; done)
    | skip
   ·rename_i cs
    simp only [cU,AV.agg.injEq]
    refine (List.map_congr_left (g:=fun c=>c) fun c hc=>?_).trans (List.map_id' cs)
    have h3:=List.all_eq_true.1 this c hc
    cases c <;> simp [ak] at h3 <;> rfl
   ·rename_i g x y
    simp [ak] at this
    obtain ⟨rfl,rfl⟩:=this
    rfl
  ·rw [List.all_eq_true]
   intro c hc
   have:=key c hc
   cases c <;> simp only [dat] at this <;> first | rfl | skip
   all_goals first
    | (simp [ak] at this; done)
    | skip
   ·rename_i cs
    simp only [aK,List.all_eq_true]
    intro c hc
    have h3:=List.all_eq_true.1 this c hc
    cases c <;> simp [ak] at h3 <;> simp [aN,h3]
   ·rename_i g x y
    simp [ak] at this
    obtain ⟨rfl,rfl⟩:=this
    rfl
 unfold aj
 rw [if_neg (by simp [jC,hm])]
 simp only [dh,hm,List.nil_append,List.append_nil,hin,Option.bind_some,hids,bp,AR,jQ,hren.2,List.all_nil,Bool.and_self,if_true,hren.1,List.map_nil,A8]
 cases hr:call f (aM (md.sh f) args) [] with
 | none=>rfl
 | some q =>
  obtain ⟨r,os⟩:=q
  cases os with
  | cons o os=>simp only [Option.bind_some,d8,gp]; simp
  | nil =>
   simp only [Option.bind_some,d8,gp,List.length_nil,Nat.zero_le,true_and,dz,oe,tP,List.all_nil,Bool.true_and,Bool.and_true,pH,bI,List.range'_zero,ck,dC]
   by_cases hc:b9 r≤8∧cN h (2000+8*d) (b9 r)=true∧dU [] r=true
   ·rw [if_pos hc,if_pos hc,Mg (by omega) h [] hc.2.2]
    simp
   ·rw [if_neg hc,if_neg hc]
def aA (call:cI) (md:Mode) (d:Nat) (f:FuncId) (p:List AV × aa × K):Option R3 :=
 jQ call md p.2.1 d f (bX p.2.1 40 (bp [] (p.1.flatMap bh)) 0) (aM (md.sh f) p.1) p.2.2
theorem ah {f:FuncId} {args:List AV} (d:Nat) (hm:md.m f=[]):aj call md h d args (.fn f [] [])=(ag h [] args).bind (aA call md d f):=by
 unfold aj
 rw [if_neg (by simp [jC,hm])]
 simp only [dh,hm,List.nil_append,List.append_nil]
 rfl
@[go_sem] theorem WE {f:FuncId} {zs:List AV} (d:Nat) (hm:md.m f=[]) (hd:zs.all dat=true):aA call md d f (zs,h,[])=gp h d (call f (aM (md.sh f) zs) []):=by
 rw [← qv d hm hd,ah d hm]
 have hin:∀ (l:List AV),l.all dat=true→ag h [] l=some (l,h,[]):=by
  intro l
  induction l with
  | nil=>intro _; rfl
  | cons a l ih =>
   intro hd
   simp only [List.all_cons,Bool.and_eq_true] at hd
   have ha:bD h 0 a=some (a,h,[]):=by
    have h1:=hd.1
    by_cases hagg:∃ cs,a=.agg cs
    ·obtain ⟨cs,rfl⟩:=hagg
     simp only [dat] at h1
     simp only [bD,lA]
     rw [fH h1 h]
     rfl
    ·have h2:ak a=true:=by cases a <;> first | exact h1 | exact absurd ⟨_,rfl⟩ hagg
     cases a <;> first | (simp [ak] at h2; done) | rfl | skip
   simp only [ag,List.headD_nil,ha,Option.bind_some,List.tail_nil,ih hd.2,List.append_nil]
 rw [hin zs hd]
 rfl
@[go_sem] theorem Ua (h):ag h [] []=some ([],h,[]):=_root_.id rfl
@[go_sem] theorem S9 (h a l):ag h [] (a::l)=(bD h 0 a).bind fun p=>(ag p.2.1 [] l).bind fun q=>some (p.1::q.1,q.2.1,p.2.2++q.2.2):=_root_.id rfl
@[go_sem] theorem aaq (h x):bD h 0 (.v x)=some (.v x,h,[]):=_root_.id rfl
@[go_sem] theorem WF (h):bD h 0 .emp=some (.emp,h,[]):=_root_.id rfl
@[go_sem] theorem Yh (h k r):bD h 0 (.sl k r)=some (.sl k r,h,[]):=_root_.id rfl
@[go_sem] theorem Yi (h f a b):bD h 0 (.fn f a b)=some (.fn f a b,h,[]):=_root_.id rfl
@[go_sem] theorem WG (h a b c d):bD h 0 (.ref a none b c d)=some (.ref a none b c d,h,[]):=_root_.id rfl
@[go_sem] theorem WH (h cs):bD h 0 (.ipt cs)=some (.ipt cs,h,[]):=_root_.id rfl
@[go_sem] theorem WI (h id k lo n):bD h 0 (.rsl id none k lo n)=iq h id k lo n (h id):=_root_.id rfl
@[go_sem] theorem Ub (h id p k lo n):bD h 0 (.rsl id (some p) k lo n)=tN h id p k lo n (h id):=_root_.id rfl
@[go_sem] theorem WJ (h cs):bD h 0 (.agg cs)=(dn h cs).bind fun p=>some (.agg p.1,p.2):=_root_.id rfl
@[go_sem] theorem aar (h d x):gp h d (some (.v x,[]))=if cN h (2000+8*d) 1=true then some (.v x,h,[]) else none:=by
 simp [gp,b9,dU,cQ,aK,aN,mat,bK]
@[go_sem] theorem Mh (h d k r):gp h d (some (.sl k r,[]))=if cN h (2000+8*d) 1=true then some (.sl k r,h,[]) else none:=by
 simp [gp,b9,dU,cQ,aK,aN,mat,bK]
@[go_sem] theorem WK (h d cs) (hd:cs.all ak=true):gp h d (some (.agg cs,[]))=if cN h (2000+8*d) 1=true then some (.agg cs,h,[]) else none:=by
 have:cs.all (aN [])=true:=by
  rw [List.all_eq_true] at hd ⊢
  intro c hc
  have:=hd c hc
  cases c <;> simp [ak] at this <;> simp [aN,this]
 simp only [gp,b9,dU,cQ,aK,mat,bK,this,and_true]
 simp
@[go_sem] theorem WL (h d vs) (h8:vs.length≤8) (hd:vs.all dat=true):gp h d (some (.tup vs,[]))=if cN h (2000+8*d) vs.length=true then some (.tup vs,h,[]) else none:=by
 have h1:vs.all (cQ [])=true:=by
  rw [List.all_eq_true] at hd ⊢
  intro c hc
  have:=hd c hc
  cases c <;> simp only [dat] at this <;> simp only [cQ,aK] <;> try (simp [ak] at this <;> simp [aN,this]; done)
  rename_i cs
  rw [List.all_eq_true] at this ⊢
  intro c hc
  have:=this c hc
  cases c <;> simp [ak] at this <;> simp [aN,this]
 have h2:∀ (l:List AV) (n:Nat) (g:aa),l.all dat=true→bi n g l=(l,g):=by
  intro l
  induction l with
  | nil=>intro n g _; rfl
  | cons c l ih =>
   intro n g hd
   simp only [List.all_cons,Bool.and_eq_true] at hd
   have hc:bK n g c=(c,g):=by
    have:=hd.1
    cases c <;> simp only [dat,ak] at this <;> first | rfl | (cases this; done)
   simp only [bi,hc,ih _ _ hd.2]
 simp only [gp,b9,dU,h1,mat,h2 vs _ _ hd,h8,true_and,and_true]
@[go_sem] theorem WM (h d k r):gp h d (some (.osl k r,[]))=if cN h (2000+8*d) 1=true then some (.rsl (2000+8*d) none k 0 r.length,upd h (2000+8*d) (.ar k r),[]) else none:=by
 simp [gp,b9,dU,cQ,mat,bK]
@[go_sem] theorem Uc (h n):cN h n 0=true:=_root_.id rfl
@[go_sem] theorem Ud (h n m):cN h n (m+1)=(cY (h n) && cN h (n+1) m):=_root_.id rfl
@[go_sem] theorem Ta:cY .dead=true:=_root_.id rfl
def br (call:cI) (md:Mode) (ps:List (Nat × Nat)):List Fp→List COp→af→aa→Option St
 | acc,[],s,h=>if ps.all (mi acc)=true then some ⟨s,h⟩ else none
 | acc,o::rest,s,h=>(bR call md o s h).bind fun r=>br call md ps (acc++[r.2]) rest r.1.s r.1.h
theorem GW (ps:List (Nat × Nat)):∀ (l:List COp) (acc:List Fp) (s:af) (h:aa),br call md ps acc l s h=(dj call md l s h).bind fun r=>if ps.all (mi (acc++r.2))=true then some r.1 else none
 | [],acc,s,h=>by simp only [br,dj,Option.bind_some,List.append_nil]
 | o::l,acc,s,h=>by
  simp only [br,dj]
  cases bR call md o s h with
  | none=>rfl
  | some r =>
   simp only [Option.bind_some]
   rw [GW ps l]
   cases dj call md l r.1.s r.1.h with
   | none=>rfl
   | some q=>simp only [Option.bind_some,List.append_assoc,List.singleton_append]
@[go_sem] theorem WN:oh []=none:=_root_.id rfl
@[go_sem] theorem Ue (p g l):oh ((p,g)::l)=if 1000000≤p then some (p - 1000000,g) else none:=_root_.id rfl
theorem DV (l ps):ou call md l ps s h=br call md ps [] l s h:=by
 rw [GW]
 rfl
theorem Oq (ps) (l:List COp) (h0:oh ps=none):iP call md l ps s h=br call md ps [] l s h:=by
 unfold iP
 rw [h0]
 exact DV l ps
def Mi (call:cI) (md:Mode) (m g:Nat) (ps:List (Nat × Nat)) (l:List COp) (s:af) (h:aa):Option St :=
 aI (br call md ps [] (l.take m) s h) fun s h=>aI (jR md.nm g s h) (an call md (l.drop m))
@[go_sem] theorem Yj (l ps):iP call md l ps s h=match oh ps with
  | some q=>Mi call md q.1 q.2 ps.tail l s h
  | none=>br call md ps [] l s h:=by
 cases hb:oh ps with
 | none=>exact Oq ps l hb
 | some q =>
  unfold iP
  rw [hb]
  simp only [Mi,se]
  rw [← DV _ _,ou]
  cases dj call md (l.take q.1) s h with
  | none=>rfl
  | some r =>
   simp only [Option.bind_some]
   split <;> rfl
def dV (call:cI) (md:Mode) (ps:List (Nat × Nat)) (acc:List Fp) (rest:List COp) (s:af) (d:Option Nat) (f:aa→Fp):Option R3→Option St
 | some (x,h,[])=>br call md ps (acc++[f h]) rest (bY s d x) h
 | _=>none
theorem cu (ps acc) (o:COp) (rest) (hg:o.g=none):br call md ps acc (o::rest) s h=dV call md ps acc rest s o.d (cV (o.d.getD 0) o.op s h) (step call md (o.d.getD 0) o.op s h):=by
 simp only [br,bR,hg,eA]
 cases step call md (o.d.getD 0) o.op s h with
 | none=>rfl
 | some r =>
  obtain ⟨x,h',ks⟩:=r
  cases ks <;> rfl
@[go_sem] theorem Yk (ps acc):br call md ps acc [] s h=if ps.all (mi acc)=true then some ⟨s,h⟩ else none:=_root_.id rfl
@[go_sem] theorem vG (ps acc d op rest):br call md ps acc (co d op::rest) s h=(cX s op).bind fun a=>br call md ps (acc++[some ([],[])]) rest (upd s d a) h:=by
 rw [cu _ _ _ _ rfl]
 simp only [co,step,pI]
 cases cX s op <;> rfl
@[go_sem] theorem aas (ps acc d n rest):br call md ps acc (cm d n::rest) s h=br call md ps (acc++[some ([],[])]) rest (upd s d (s n)) h:=vG ps acc d (.mv (.t n)) rest
@[go_sem] theorem WO (ps acc d k g x rest):br call md ps acc (⟨some d,none,.load k g x⟩::rest) s h=dV call md ps acc rest s (some d) (fun _=>kc (ev s x)) (dJ h k g (ev s x)):=cu _ _ _ _ rfl
@[go_sem] theorem Uf (ps acc d k x y rest):br call md ps acc (⟨d,none,.store k x y⟩::rest) s h=dV call md ps acc rest s d (fun _=>og (ev s y) (ev s x)) (fh h k (ev s x) (ev s y)):=cu _ _ _ _ rfl
@[go_sem] theorem WP (ps acc d f zas rest):br call md ps acc (⟨some d,none,.call f zas⟩::rest) s h=dV call md ps acc rest s (some d) (eE h d (gG (zas.map (ev s)) (ev s f))) (aj call md h d (zas.map (ev s)) (ev s f)):=cu _ _ _ _ rfl
@[go_sem] theorem Ug (ps acc d z rest):br call md ps acc (⟨some d,none,.alloc z⟩::rest) s h=dV call md ps acc rest s (some d) (fun _=>some ([],[bJ d])) (fj h d z []):=cu _ _ _ _ rfl
@[go_sem] theorem Yl (ps acc d k x rest):br call md ps acc (⟨some d,none,.box k x⟩::rest) s h=dV call md ps acc rest s (some d) (fun _=>if dat (ev s x)=true then some ([],[bJ d]) else none) (pG h d k (ev s x)):=cu _ _ _ _ rfl
@[go_sem] theorem Qs (ps acc d k z n qs rest):br call md ps acc (⟨some d,none,.buildSl k z n qs⟩::rest) s h=dV call md ps acc rest s (some d) (fun _=>if (qs.all fun p=>dat (ev s p.2))=true then some ([],[bJ d]) else none) ((cP k h (List.replicate n z) (qs.map fun p=>(p.1,ev s p.2))).bind fun q=>bF q.2.1 d k q.1 n q.2.2):=cu _ _ _ _ rfl
@[go_sem] theorem aat (ps acc d op a b rest):br call md ps acc (b2 d op a b::rest) s h=(c8 op (s a) (s b)).bind fun a=>br call md ps (acc++[some ([],[])]) rest (upd s d a) h:=vG ps acc d (.bin op (.t a) (.t b)) rest
@[go_sem] theorem aau (ps acc d k a rest):br call md ps acc (fa d k a::rest) s h=(n8 k (s a)).bind fun a=>br call md ps (acc++[some ([],[])]) rest (upd s d a) h:=vG ps acc d (.fadr k (.t a)) rest
@[go_sem] theorem aav (ps acc d a rest):br call md ps acc (nk d a::rest) s h=(tM (s a)).bind fun a=>br call md ps (acc++[some ([],[])]) rest (upd s d a) h:=vG ps acc d (.nilck (.t a)) rest
@[go_sem] theorem aaw (ps acc d k a rest):br call md ps acc (ld d k a::rest) s h=dV call md ps acc rest s (some d) (fun _=>kc (s a)) (dJ h k false (s a)):=cu _ _ _ _ rfl
@[go_sem] theorem aax (ps acc d k a rest):br call md ps acc (la d k a::rest) s h=dV call md ps acc rest s (some d) (fun _=>kc (s a)) (dJ h k true (s a)):=cu _ _ _ _ rfl
@[go_sem] theorem aay (ps acc d f zas rest):br call md ps acc (ca d f zas::rest) s h=dV call md ps acc rest s (some d) (eE h d (gG (zas.map (ev s)) (.fn f [] []))) (aj call md h d (zas.map (ev s)) (.fn f [] [])):=cu _ _ _ _ rfl
@[go_sem] theorem aaz (ps acc k x y rest):br call md ps acc (sr k x y::rest) s h=dV call md ps acc rest s none (fun _=>og (ev s y) (ev s x)) (fh h k (ev s x) (ev s y)):=cu _ _ _ _ rfl
@[go_sem] theorem aaA (ps acc d z rest):br call md ps acc (al d z::rest) s h=dV call md ps acc rest s (some d) (fun _=>some ([],[bJ d])) (fj h d z []):=cu _ _ _ _ rfl
@[go_sem] theorem aaB (ps acc d k x rest):br call md ps acc (bx d k x::rest) s h=dV call md ps acc rest s (some d) (fun _=>if dat (ev s x)=true then some ([],[bJ d]) else none) (pG h d k (ev s x)):=cu _ _ _ _ rfl
@[go_sem] theorem WQ (ps acc rest s d f x h):dV call md ps acc rest s (some d) f (some (x,h,[]))=br call md ps (acc++[f h]) rest (upd s d x) h:=_root_.id rfl
@[go_sem] theorem Uh (ps acc rest s f x h):dV call md ps acc rest s none f (some (x,h,[]))=br call md ps (acc++[f h]) rest s h:=_root_.id rfl
theorem Qt (ps acc) (o:COp) (j w rest) (hg:o.g=some (j,w)) {b:Bool} (hb:s j=.v (.bool b)):br call md ps acc (o::rest) s h =
  if b=w then dV call md ps acc rest s o.d (cV (o.d.getD 0) o.op s h) (step call md (o.d.getD 0) o.op s h) else br call md ps (acc++[some ([],[])]) rest (bY s o.d .und) h:=by
 simp only [br,bR,hg,hb,iO]
 split
 ·simp only [eA]
  cases step call md (o.d.getD 0) o.op s h with
  | none=>rfl
  | some r =>
   obtain ⟨x,h',ks⟩:=r
   cases ks <;> rfl
 ·rfl
def DW (call:cI) (md:Mode) (ps:List (Nat × Nat)) (acc:List Fp) (rest:List COp) (s:af) (h:aa) (d:Option Nat) (w:Bool) (op:AOp):AV→Option St
 | .v (.bool b)=>if b=w then dV call md ps acc rest s d (cV (d.getD 0) op s h) (step call md (d.getD 0) op s h) else br call md ps (acc++[some ([],[])]) rest (bY s d .und) h
 | .und=>br call md ps (acc++[some ([],[])]) rest (bY s d .und) h
 | _=>none
@[go_sem] theorem Ot (ps acc d j w op rest):br call md ps acc (⟨d,some (j,w),op⟩::rest) s h=DW call md ps acc rest s h d w op (s j):=by
 by_cases hb:∃ b,s j=.v (.bool b)
 ·obtain ⟨b,hb⟩:=hb
  rw [Qt ps acc ⟨d,some (j,w),op⟩ j w rest rfl hb,hb]
  rfl
 ·simp only [br,bR]
  cases hq:s j <;> first | rfl | skip
  rename_i x
  cases x <;> first | rfl | exact absurd ⟨_,hq⟩ hb
@[go_sem] theorem aaC (ps acc d j w op rest):br call md ps acc (cg d j w op::rest) s h=DW call md ps acc rest s h (some d) w (.p op) (s j):=Ot ps acc (some d) j w (.p op) rest
@[go_sem] theorem acw (ps acc rest s h d op):DW call md ps acc rest s h (some d) true op (.v (.bool true))=dV call md ps acc rest s (some d) (cV d op s h) (step call md d op s h):=_root_.id rfl
@[go_sem] theorem acx (ps acc rest s h d op):DW call md ps acc rest s h (some d) false op (.v (.bool false))=dV call md ps acc rest s (some d) (cV d op s h) (step call md d op s h):=_root_.id rfl
@[go_sem] theorem acy (ps acc rest s h d op):DW call md ps acc rest s h (some d) true op (.v (.bool false))=br call md ps (acc++[some ([],[])]) rest (upd s d .und) h:=_root_.id rfl
@[go_sem] theorem acz (ps acc rest s h d op):DW call md ps acc rest s h (some d) false op (.v (.bool true))=br call md ps (acc++[some ([],[])]) rest (upd s d .und) h:=_root_.id rfl
@[go_sem] theorem aaD (ps acc rest s h d w op):DW call md ps acc rest s h (some d) w op .und=br call md ps (acc++[some ([],[])]) rest (upd s d .und) h:=_root_.id rfl
@[go_sem] theorem adw (d op h'):cV d (.p op) s h h'=some ([],[]):=_root_.id rfl
@[go_sem] theorem aaE (d k g x h'):cV d (.load k g x) s h h'=kc (ev s x):=_root_.id rfl
@[go_sem] theorem aaF (d f zas h'):cV d (.call f zas) s h h'=eE h d (gG (zas.map (ev s)) (ev s f)) h':=_root_.id rfl
@[go_sem] theorem Ym (d z h'):cV d (.alloc z) s h h'=some ([],[bJ d]):=_root_.id rfl
@[go_sem] theorem acA (d k x h'):cV d (.box k x) s h h'=if dat (ev s x)=true then some ([],[bJ d]) else none:=_root_.id rfl
@[go_sem] theorem Ui (cs):kc (.ipt cs)=some ([],[]):=_root_.id rfl
@[go_sem] theorem Tb (id k i j):kc (.ref id none k i j)=some ([bJ id],[]):=_root_.id rfl
@[go_sem] theorem Tc (id p k i j):kc (.ref id (some p) k i j)=some ([bJ id],[]):=_root_.id rfl
@[go_sem] theorem WR (y id sub k i j):og y (.ref id sub k i j)=if dat y=true then some ([bJ id],[bJ id]) else none:=_root_.id rfl
@[go_sem] theorem acB (i):bJ i=if i < 2000 then i else i - i % 8:=_root_.id rfl
@[go_sem] theorem WS (l f a b):gG l (.fn f a b)=a++l++b:=_root_.id rfl
@[go_sem] theorem WT (h d l h'):eE h d l h'=if l.all dat=true then some ([],[2000+8*d]) else if l.all kE=true then some ((bX h 40 (bp [] (l.flatMap bh)) 0).map bJ,(AG h h' (bX h 40 (bp [] (l.flatMap bh)) 0)).map bJ++[2000+8*d]) else none:=_root_.id rfl
@[go_sem] theorem Uj (l i j):mi l (i,j)=(match l[i]?,l[j]? with | some a,some b=>gA a b | _,_=>false):=_root_.id rfl
@[go_sem] theorem Yn (a b):gA (some a) (some b)=(oQ a.2 (b.1++b.2) && oQ b.2 a.1):=_root_.id rfl
@[go_sem] theorem Yo (b):gA none (some b)=(b.1.isEmpty && b.2.isEmpty):=_root_.id rfl
@[go_sem] theorem Yp (a):gA (some a) none=(a.1.isEmpty && a.2.isEmpty):=_root_.id rfl
@[go_sem] theorem Yq (b):oQ [] b=true:=_root_.id rfl
@[go_sem] theorem WU (a l b):oQ (a::l) b=(!b.contains a && oQ l b):=_root_.id rfl
@[go_sem] theorem Uk (a:Nat):[].contains a=false:=_root_.id rfl
@[go_sem] theorem Td (a b:Nat) (l:List Nat):(b::l).contains a=(a == b || l.contains a):=by rw [List.contains_cons]
@[go_sem] theorem Yr (s d x h p l):bB false s (some d) (some (x,h,p::l))=some ⟨upd (d6 (p::l) s) d x,h⟩:=_root_.id rfl
@[go_sem] theorem WV (s x h p l):bB false s none (some (x,h,p::l))=some ⟨d6 (p::l) s,h⟩:=_root_.id rfl
@[go_sem] theorem aaG (p l s) (i:Nat):d6 (p::l) s i=k7 (p::l) (s i):=_root_.id rfl
@[go_sem] theorem adn (ks x):k7 ks (.v x)=.v x:=_root_.id rfl
@[go_sem] theorem aaH (ks):k7 ks .any=.any:=_root_.id rfl
@[go_sem] theorem aaI (ks):k7 ks .und=.und:=_root_.id rfl
@[go_sem] theorem aaJ (ks):k7 ks .emp=.emp:=_root_.id rfl
@[go_sem] theorem acC (ks k r):k7 ks (.sl k r)=.sl k r:=_root_.id rfl
@[go_sem] theorem aaK (ks cs):k7 ks (.ipt cs)=.ipt cs:=_root_.id rfl
@[go_sem] theorem aaL (ks f):k7 ks (.fn f [] [])=.fn f [] []:=_root_.id rfl
@[go_sem] theorem aaM (ks id sub k lo n):k7 ks (.rsl id sub k lo n)=if dI ks id sub=true then .any else .rsl id sub k lo n:=_root_.id rfl
@[go_sem] theorem aaN (ks id sub k lo n):k7 ks (.ref id sub k lo n)=if dI ks id sub=true then .any else .ref id sub k lo n:=_root_.id rfl
@[go_sem] theorem aaO (ks cs):k7 ks (.agg cs)=if cs.any (iL ks)=true then .any else .agg cs:=_root_.id rfl
@[go_sem] theorem acD (ks f a b):k7 ks (.fn f a b)=if (a.any (iL ks) || b.any (iL ks))=true then .any else .fn f a b:=_root_.id rfl
@[go_sem] theorem aaP (ks vs):k7 ks (.tup vs)=if vs.any (qL ks)=true then .any else .tup vs:=_root_.id rfl
@[go_sem] theorem acE (ks x):qL ks (.v x)=false:=_root_.id rfl
@[go_sem] theorem aaQ (ks k r):qL ks (.sl k r)=false:=_root_.id rfl
@[go_sem] theorem acF (ks x):iL ks (.v x)=false:=_root_.id rfl
@[go_sem] theorem Ys (ks):iL ks .emp=false:=_root_.id rfl
@[go_sem] theorem aaR (ks k r):iL ks (.sl k r)=false:=_root_.id rfl
@[go_sem] theorem Yt (ks id sub k i j):iL ks (.ref id sub k i j)=dI ks id sub:=_root_.id rfl
@[go_sem] theorem Yu (id sub):dI [] id sub=false:=_root_.id rfl
@[go_sem] theorem Yv (a:Nat) (b:Bool) (l:K) (id:Nat) (sub:Option Nat):dI ((a,b)::l) id sub=((a == id && (!b || sub.isSome)) || dI l id sub):=by simp [dI]
@[go_sem] theorem Qu {α:Type}:(none:Option α).isSome=false:=_root_.id rfl
@[go_sem] theorem Qv {α:Type} (a:α):(some a).isSome=true:=_root_.id rfl
@[go_sem] theorem acG (h d k b x y):wL h d k b x y=(kD h k y).bind fun ys=>match x with
 | .emp=>if ys.length*b≤140737488355328 then zo h d k ys else none
 | .rsl id none k' lo n=>C7 h d k b id k' lo n ys (h id)
 | .rsl id (some p) k' lo n=>LL h d k b id p k' lo n ys (h id)
 | _=>none:=_root_.id rfl
@[go_sem] theorem WW (h k):kD h k .emp=some []:=_root_.id rfl
@[go_sem] theorem Mj (h k r):kD h k (.sl k r)=some r:=by simp [kD]
@[go_sem] theorem WX (h k id sub lo n):kD h k (.rsl id sub k lo n)=dy k lo n (mC h id sub):=by simp [kD]
@[go_sem] theorem Te (h id):mC h id none=lB (h id):=_root_.id rfl
@[go_sem] theorem WY (k r):lB (.ar k r)=some (k,r):=_root_.id rfl
@[go_sem] theorem WZ (k r):lB (.fz k r)=some (k,r):=_root_.id rfl
@[go_sem] theorem Qw (k lo n r):dy k lo n (some (k,r))=if lo+n≤r.length then some ((r.drop lo).take n) else none:=by simp [dy]
@[go_sem] theorem aaS (h d k b id lo n ys r):C7 h d k b id k lo n ys (.ar k r)=if lo=0∧n=r.length∧(id < 1000∨2000≤id)∧(n+ys.length)*b≤140737488355328 then
   some (.rsl id none k 0 (n+ys.length),upd h id (.ar k (r++ys)),[(id,false)]) else wK h d k b id k lo n ys k r:=by simp [C7]
@[go_sem] theorem Yw (h d k):zo h d k []=some (.emp,h,[]):=_root_.id rfl
@[go_sem] theorem W0 (h d k y ys):zo h d k (y::ys)=bF h d k (y::ys) (ys.length+1) []:=_root_.id rfl
end
def F.l23_PolySums:FuncId:=3
def F.l23_awake:FuncId:=9
def F.l23_great:FuncId:=10
def F.poly_Add:FuncId:=11
def F.r23_Add:FuncId:=12
def F.poly_Sub:FuncId:=13
def F.l23_is:FuncId:=14
def F.poly_Mul:FuncId:=15
def F.poly_Derive:FuncId:=20
def F.r23_Valid:FuncId:=25
def F.poly_Valid:FuncId:=26
def F.poly_Degree:FuncId:=27
def F.r23_Same:FuncId:=30
def F.l23_variable:FuncId:=32
def F.poly_Text:FuncId:=33
def F.slices_ContainsFunc_api_Poly_api_Poly_:FuncId:=34
def F.l23_great_1:FuncId:=35
def F.slices_ContainsFunc_api_Term_api_Term_:FuncId:=36
def F.l23_great_1_1:FuncId:=37
def F.poly_pair:FuncId:=38
def F.poly_empty:FuncId:=39
def F.slices_Concat_api_Term_api_Term_:FuncId:=40
def F.poly_collector_add:FuncId:=41
def F.poly_collector_done:FuncId:=42
def F.r02_Neg:FuncId:=43
def F.r23_Collect:FuncId:=44
def F.r23_finish:FuncId:=45
def F.dyadic_Neg:FuncId:=46
def F.l23_zero:FuncId:=47
def F.dyadic_Mul:FuncId:=48
def F.slices_Clone_int_int_:FuncId:=49
def F.dyadic_Valid:FuncId:=53
def F.r02_Valid:FuncId:=54
def F.dyadic_Int:FuncId:=55
def F.dyadic_Add:FuncId:=59
def F.r02_Add:FuncId:=61
def F.r23_term:FuncId:=63
def F.r23_Compare:FuncId:=64
def F.slices_ContainsFunc_int_int_:FuncId:=65
def F.poly_Valid_1:FuncId:=66
def F.poly_degree:FuncId:=67
def F.poly_order:FuncId:=68
def F.r23_sum:FuncId:=69
def F.r23_number:FuncId:=74
def F.slices_ContainsFunc_string_string_:FuncId:=75
def F.poly_Text_1:FuncId:=76
def F.lex_Name:FuncId:=77
def F.dyadic_Text:FuncId:=78
def F.strconv_Itoa:FuncId:=79
def F.slices_IndexFunc_api_Poly_api_Poly_:FuncId:=80
def F.slices_IndexFunc_api_Term_api_Term_:FuncId:=81
def F.slices_Grow_api_Term_api_Term_:FuncId:=82
def F.slices_BinarySearchFunc_api_Term_api_Term_Sint_:FuncId:=83
def F.poly_collector_add_1:FuncId:=84
def F.slices_Insert_api_Term_api_Term_:FuncId:=85
def F.poly_copied:FuncId:=86
def F.slices_Delete_api_Term_api_Term_:FuncId:=87
def F.slices_Clone_uint32_uint32_:FuncId:=88
def F.dyadic_size:FuncId:=89
def F.natural_Mul:FuncId:=90
def F.dyadic_checked:FuncId:=91
def F.dyadic_canonical:FuncId:=92
def F.r02_Checked:FuncId:=93
def F.dyadic_inRange:FuncId:=96
def F.r02_bits:FuncId:=97
def F.r02_Of:FuncId:=98
def F.dyadic_sum:FuncId:=99
def F.r02_Sum:FuncId:=100
def F.slices_IndexFunc_int_int_:FuncId:=101
def F.cmp_Compare_int_:FuncId:=102
def F.slices_Compare_int_int_:FuncId:=103
def F.slices_IndexFunc_string_string_:FuncId:=106
def F.lex_word:FuncId:=107
def F.lex_Keyword:FuncId:=108
def F.natural_Text:FuncId:=109
def F.strings_Builder_WriteString:FuncId:=111
def F.strings_Builder_String:FuncId:=112
def F.internal_strconv_Itoa:FuncId:=113
def F.slices_overlaps_api_Term_:FuncId:=114
def F.slices_rotateRight_api_Term_:FuncId:=115
def F.natural_Bits:FuncId:=116
def F.natural_long:FuncId:=117
def F.natural_done:FuncId:=118
def F.natural_mul:FuncId:=119
def F.natural_trim:FuncId:=120
def F.dyadic_trimmed:FuncId:=121
def F.dyadic_low:FuncId:=122
def F.natural_Shr:FuncId:=123
def F.slices_Clip_uint32_uint32_:FuncId:=124
def F.r02_trim:FuncId:=126
def F.r02_zeros:FuncId:=127
def F.r02_right:FuncId:=128
def F.dyadic_Top:FuncId:=129
def F.dyadic_shifted:FuncId:=130
def F.natural_Add:FuncId:=131
def F.natural_Cmp:FuncId:=132
def F.natural_Sub:FuncId:=133
def F.r02_left:FuncId:=134
def F.r02_plus:FuncId:=135
def F.r02_compare:FuncId:=136
def F.r02_minus:FuncId:=137
def F.cmp_isNaN_int_:FuncId:=138
def F.lex_class:FuncId:=139
def F.natural_short:FuncId:=140
def F.strconv_FormatUint:FuncId:=141
def F.strings_Repeat:FuncId:=142
def F.slices_Reverse_string_string_:FuncId:=143
def F.strings_Join:FuncId:=144
def F.strings_Builder_copyCheck:FuncId:=145
def F.internal_strconv_FormatInt:FuncId:=146
def F.slices_rotateLeft_api_Term_:FuncId:=147
def F.bits_Len32:FuncId:=148
def F.slices_ContainsFunc_Suint32_Suint32_:FuncId:=149
def F.natural_long_1:FuncId:=150
def F.bits_TrailingZeros32:FuncId:=151
def F.natural_shr:FuncId:=152
def F.natural_Shl:FuncId:=153
def F.natural_add:FuncId:=154
def F.natural_sub:FuncId:=155
def F.strings_IndexByte:FuncId:=156
def F.bits_Div32:FuncId:=157
def F.internal_strconv_FormatUint:FuncId:=158
def F.bits_Mul:FuncId:=159
def F.strings_HasPrefix:FuncId:=160
def F.strings_Builder_Grow:FuncId:=161
def F.strings_Builder_Len:FuncId:=162
def F.internal_abi_NoEscape:FuncId:=163
def F.internal_strconv_small:FuncId:=164
def F.internal_strconv_numDigits:FuncId:=165
def F.internal_strconv_formatBase10:FuncId:=166
def F.internal_strconv_formatBits:FuncId:=167
def F.slices_Reverse_api_Term_api_Term_:FuncId:=168
def F.slices_IndexFunc_Suint32_Suint32_:FuncId:=169
def F.natural_shl:FuncId:=170
def F.bits_Add32:FuncId:=171
def F.bits_Sub32:FuncId:=172
def F.internal_stringslite_IndexByte:FuncId:=173
def F.bits_Mul32:FuncId:=174
def F.bits_Mul64:FuncId:=175
def F.internal_stringslite_HasPrefix:FuncId:=176
def F.strings_Builder_grow:FuncId:=177
def F.internal_strconv_log10Pow2:FuncId:=178
def F.bits_Len64:FuncId:=179
def F.internal_strconv_bool2_int_:FuncId:=180
def F.internal_strconv_isPowerOfTwo:FuncId:=181
def F.bits_TrailingZeros:FuncId:=182
def F.internal_bytealg_IndexByteString:FuncId:=183
def F.internal_bytealg_MakeNoZero:FuncId:=184
def F.bits_TrailingZeros64:FuncId:=185
end Go.Ab
