/-
  A law of polynomials holds at every input that the statement speaks of, under the conditions that its card names. Part C1.
-/
import Derived.Test.YtfagcngkipbnlaaGreatDoorB1
namespace Go.Ab
open Go
section
variable {call:cT} {md:Mode} {s:af} {h:aa}
@[go_sem] theorem ack:az call md .skip s h=some (.normal,⟨s,h⟩):=_root_.id rfl
@[go_sem] theorem adP (ks l):az call md (.ops ks l) s h=aK (am call md l s h) fun s h=>some (.normal,⟨mk .any s ks,h⟩):=_root_.id rfl
@[go_sem] theorem adQ (is a):az call md (.frz is a) s h=aK (pe md.nm is s h) (az call md a):=_root_.id rfl
@[go_sem] theorem acl (ks l ps):az call md (.dops ks l ps) s h=aK (jJ call md l ps s h) fun s h=>some (.normal,⟨mk .any s ks,h⟩):=_root_.id rfl
@[go_sem] theorem Ud (a b):az call md (.seq a b) s h=dD (az call md a s h) (az call md b):=_root_.id rfl
@[go_sem] theorem acm (c a b):az call md (.cond c a b) s h=jK (az call md a s h) (az call md b s h) (ev s c):=_root_.id rfl
@[go_sem] theorem ZY (id ks a):az call md (.block id ks a) s h=aI id ks (az call md a s h):=_root_.id rfl
@[go_sem] theorem acn (ks hs a):az call md (.loop ks hs a) s h=aU (az call md a) ks hs s h:=_root_.id rfl
@[go_sem] theorem aco (i):az call md (.exit i) s h=some (.exit i,⟨s,h⟩):=_root_.id rfl
@[go_sem] theorem adR:az call md .ret s h=some (.ret,⟨s,h⟩):=_root_.id rfl
@[go_sem] theorem Rx (s h f):dD (some (.normal,⟨s,h⟩)) f=f s h:=_root_.id rfl
@[go_sem] theorem Ue (i t f):dD (some (.exit i,t)) f=some (.exit i,t):=_root_.id rfl
@[go_sem] theorem Wg (t f):dD (some (.ret,t)) f=some (.ret,t):=_root_.id rfl
@[go_sem] theorem TN (id ks i t):aI id ks (some (.exit i,t))=if i=id then some (.normal,⟨mk .any t.s ks,t.h⟩) else some (.exit i,t):=_root_.id rfl
@[go_sem] theorem QV (id ks t):aI id ks (some (.normal,t))=some (.normal,⟨mk .any t.s ks,t.h⟩):=_root_.id rfl
@[go_sem] theorem Uf (id ks t):aI id ks (some (.ret,t))=some (.ret,t):=_root_.id rfl
@[go_sem] theorem Ug (a b):jK a b (.v (.bool true))=a:=_root_.id rfl
@[go_sem] theorem TO (a b):jK a b (.v (.bool false))=b:=_root_.id rfl
@[go_sem] theorem Ry (g t):EQ g (some (.normal,t))=g t.s t.h:=_root_.id rfl
@[go_sem] theorem Uh (g i t):EQ g (some (.exit i,t))=some (.exit i,t):=_root_.id rfl
@[go_sem] theorem Wh (g t):EQ g (some (.ret,t))=some (.ret,t):=_root_.id rfl
@[go_sem] theorem Ui {β:Type} (s h) (f:af→aa→Option β):aK (some ⟨s,h⟩) f=f s h:=_root_.id rfl
@[go_sem] theorem Wi {β:Type} (c:Prop) [Decidable c] (x y:Option St) (f:af→aa→Option β):aK (if c then x else y) f=if c then aK x f else aK y f:=by split <;> rfl
@[go_sem] theorem Wj (c:Prop) [Decidable c] (x y:Option (Ex × St)) (f:af→aa→Option (Ex × St)):dD (if c then x else y) f=if c then dD x f else dD y f:=by split <;> rfl
@[go_sem] theorem ZZ:am call md [] s h=some ⟨s,h⟩:=_root_.id rfl
@[go_sem] theorem AT (d op rest):am call md (⟨some d,none,.p op⟩::rest) s h=(dp s op).bind fun a=>am call md rest (upd s d a) h:=by
 simp only [am,fW,step,ri]
 cases dp s op with
 | none=>rfl
 | some a=>simp only [Option.map_some,bK,iJ,if_true]; rfl
def cm (d n:Nat):COp:=⟨some d,none,.p (.mv (.t n))⟩
def co (d:Nat) (op:POp):COp:=⟨some d,none,.p op⟩
def cg (d j:Nat) (w:Bool) (op:POp):COp:=⟨some d,some (j,w),.p op⟩
@[go_sem] theorem acp (d n rest):am call md (cm d n::rest) s h=am call md rest (upd s d (s n)) h:=AT d (.mv (.t n)) rest
@[go_sem] theorem acq (d op rest):am call md (co d op::rest) s h=(dp s op).bind fun a=>am call md rest (upd s d a) h:=AT d op rest
@[go_sem] theorem acr (d j w op rest):am call md (cg d j w op::rest) s h=aK (fv (some d) w ((dp s op).map fun a=>⟨upd s d a,h⟩) s h (s j)) (am call md rest):=by
 have:bK md.nm s (some d) (step call md d (.p op) s h)=(dp s op).map fun a=>⟨upd s d a,h⟩:=by
  simp only [step,ri]
  cases dp s op with
  | none=>rfl
  | some a=>simp only [Option.map_some,bK,iJ,if_true]; rfl
 show aK (fv (some d) w (bK md.nm s (some d) (step call md d (.p op) s h)) s h (s j)) _=_
 rw [this]
def b2 (d:Nat) (op:BinOp) (a b:Nat):COp:=⟨some d,none,.p (.bin op (.t a) (.t b))⟩
def fa (d k a:Nat):COp:=⟨some d,none,.p (.fadr k (.t a))⟩
def nk (d a:Nat):COp:=⟨some d,none,.p (.nilck (.t a))⟩
def ld (d k a:Nat):COp:=⟨some d,none,.load k false (.t a)⟩
def la (d k a:Nat):COp:=⟨some d,none,.load k true (.t a)⟩
def ca (d f:Nat) (zas:List Opd):COp:=⟨some d,none,.call (.c (.fn f [] [])) zas⟩
def sr (k:Nat) (x y:Opd):COp:=⟨none,none,.store k x y⟩
def al (d:Nat) (z:List AV):COp:=⟨some d,none,.alloc z⟩
def bx (d k:Nat) (x:Opd):COp:=⟨some d,none,.box k x⟩
@[go_sem] theorem acs (d op a b rest):am call md (b2 d op a b::rest) s h=(dI op (s a) (s b)).bind fun a=>am call md rest (upd s d a) h:=AT d (.bin op (.t a) (.t b)) rest
@[go_sem] theorem act (d k a rest):am call md (fa d k a::rest) s h=(pM k (s a)).bind fun a=>am call md rest (upd s d a) h:=AT d (.fadr k (.t a)) rest
@[go_sem] theorem acu (d a rest):am call md (nk d a::rest) s h=(wg (s a)).bind fun a=>am call md rest (upd s d a) h:=AT d (.nilck (.t a)) rest
@[go_sem] theorem acv (d k a rest):am call md (ld d k a::rest) s h=aK (bK md.nm s (some d) (dU h k false (s a))) (am call md rest):=_root_.id rfl
@[go_sem] theorem acw (d k a rest):am call md (la d k a::rest) s h=aK (bK md.nm s (some d) (dU h k true (s a))) (am call md rest):=_root_.id rfl
@[go_sem] theorem acx (d f zas rest):am call md (ca d f zas::rest) s h=aK (bK md.nm s (some d) (ai call md h d (zas.map (ev s)) (.fn f [] []))) (am call md rest):=_root_.id rfl
@[go_sem] theorem acy (k x y rest):am call md (sr k x y::rest) s h=aK (bK md.nm s none (fJ h k (ev s x) (ev s y))) (am call md rest):=_root_.id rfl
@[go_sem] theorem acz (d z rest):am call md (al d z::rest) s h=aK (bK md.nm s (some d) (fK h d z [])) (am call md rest):=_root_.id rfl
@[go_sem] theorem acA (d k x rest):am call md (bx d k x::rest) s h=aK (bK md.nm s (some d) (rg h d k (ev s x))) (am call md rest):=_root_.id rfl
@[go_sem] theorem adS (d j w op rest):am call md (⟨d,some (j,w),op⟩::rest) s h=aK (fv d w (bK md.nm s d (step call md (d.getD 0) op s h)) s h (s j)) (am call md rest):=_root_.id rfl
@[go_sem] theorem Wk (d z rest):am call md (⟨some d,none,.alloc z⟩::rest) s h=aK (bK md.nm s (some d) (fK h d z [])) (am call md rest):=_root_.id rfl
@[go_sem] theorem Z0 (d k x rest):am call md (⟨some d,none,.box k x⟩::rest) s h=aK (bK md.nm s (some d) (rg h d k (ev s x))) (am call md rest):=_root_.id rfl
@[go_sem] theorem TP (d k z n ps rest):am call md (⟨some d,none,.buildSl k z n ps⟩::rest) s h=aK (bK md.nm s (some d) ((cY k h (List.replicate n z) (ps.map fun p=>(p.1,ev s p.2))).bind fun q=>bO q.2.1 d k q.1 n q.2.2)) (am call md rest):=_root_.id rfl
@[go_sem] theorem XW (d k z b l c rest):am call md (⟨some d,none,.mkSl k z b l c⟩::rest) s h=aK (bK md.nm s (some d) ((uj (ev s l) (ev s c)).bind fun p=>if p.2*b≤140737488355328 then bO h d k (List.replicate p.1 z) p.1 [] else none)) (am call md rest):=_root_.id rfl
@[go_sem] theorem XX (d k g x rest):am call md (⟨some d,none,.load k g x⟩::rest) s h=aK (bK md.nm s (some d) (dU h k g (ev s x))) (am call md rest):=_root_.id rfl
@[go_sem] theorem Wl (d k x y rest):am call md (⟨d,none,.store k x y⟩::rest) s h=aK (bK md.nm s d (fJ h k (ev s x) (ev s y))) (am call md rest):=_root_.id rfl
@[go_sem] theorem Z3 (d k b x y rest):am call md (⟨some d,none,.app k b x y⟩::rest) s h=aK (bK md.nm s (some d) (yM h d k b (ev s x) (ev s y))) (am call md rest):=_root_.id rfl
@[go_sem] theorem XY (d f zas rest):am call md (⟨some d,none,.call f zas⟩::rest) s h=aK (bK md.nm s (some d) (ai call md h d (zas.map (ev s)) (ev s f))) (am call md rest):=_root_.id rfl
@[go_sem] theorem Wm (f zas rest):am call md (⟨none,none,.call f zas⟩::rest) s h=aK (bK md.nm s none (ai call md h 0 (zas.map (ev s)) (ev s f))) (am call md rest):=_root_.id rfl
@[go_sem] theorem XZ (nm:Bool) (s d x h):bK nm s (some d) (some (x,h,[]))=some ⟨upd s d x,h⟩:=by simp only [bK,iJ,if_true]; rfl
@[go_sem] theorem Wn (nm:Bool) (s x h):bK nm s none (some (x,h,[]))=some ⟨s,h⟩:=by simp only [bK,iJ,if_true]; rfl
@[go_sem] theorem acB (d op):step call md d (.p op) s h=ri h (dp s op):=_root_.id rfl
@[go_sem] theorem Wo (d k g x):step call md d (.load k g x) s h=dU h k g (ev s x):=_root_.id rfl
@[go_sem] theorem Wp (d f zas):step call md d (.call f zas) s h=ai call md h d (zas.map (ev s)) (ev s f):=_root_.id rfl
@[go_sem] theorem Uj (d k x y):step call md d (.store k x y) s h=fJ h k (ev s x) (ev s y):=_root_.id rfl
@[go_sem] theorem Uk (d z):step call md d (.alloc z) s h=fK h d z []:=_root_.id rfl
@[go_sem] theorem X1 (d k x):step call md d (.box k x) s h=rg h d k (ev s x):=_root_.id rfl
@[go_sem] theorem Rz (d k z n ps):step call md d (.buildSl k z n ps) s h=(cY k h (List.replicate n z) (ps.map fun p=>(p.1,ev s p.2))).bind fun q=>bO q.2.1 d k q.1 n q.2.2:=_root_.id rfl
@[go_sem] theorem Wq (d k z b l c):step call md d (.mkSl k z b l c) s h=(uj (ev s l) (ev s c)).bind fun p=>if p.2*b≤140737488355328 then bO h d k (List.replicate p.1 z) p.1 [] else none:=_root_.id rfl
@[go_sem] theorem Wr (h a):ri h (some a)=some (a,h,[]):=_root_.id rfl
@[go_sem] theorem Ul (d st s h):fv d true st s h (.v (.bool true))=st:=_root_.id rfl
@[go_sem] theorem Um (d st s h):fv d false st s h (.v (.bool false))=st:=_root_.id rfl
@[go_sem] theorem Un (d st s h):fv (some d) true st s h (.v (.bool false))=some ⟨upd s d .und,h⟩:=_root_.id rfl
@[go_sem] theorem Uo (d st s h):fv (some d) false st s h (.v (.bool true))=some ⟨upd s d .und,h⟩:=_root_.id rfl
@[go_sem] theorem TQ (d w st s h):fv (some d) w st s h .und=some ⟨upd s d .und,h⟩:=_root_.id rfl
@[go_sem] theorem ad5 (s n):ev s (.t n)=s n:=_root_.id rfl
@[go_sem] theorem ad6 (s a):ev s (.c a)=a:=_root_.id rfl
@[go_sem] theorem X3 (s):evo s none=none:=_root_.id rfl
@[go_sem] theorem X4 (s x):evo s (some x)=some (ev s x):=_root_.id rfl
@[go_sem] theorem acC {α:Type} (s:Nat→α) (d:Nat) (x:α) (i:Nat):upd s d x i=if i=d then x else s i:=_root_.id rfl
@[go_sem] theorem acD {α:Type} (d:α) (f:Nat→α):mk d f []=fun _=>d:=_root_.id rfl
@[go_sem] theorem Z4 {α:Type} (d:α) (f:Nat→α) (i l):mk d f (i::l)=upd (mk d f l) i (f i):=_root_.id rfl
@[go_sem] theorem ad7 (x):dp s (.mv x)=some (ev s x):=_root_.id rfl
@[go_sem] theorem acE (c a b):dp s (.pick c a b)=xC (ev s c) (ev s a) (ev s b):=_root_.id rfl
@[go_sem] theorem Z5 (x):dp s (.nilck x)=wg (ev s x):=_root_.id rfl
@[go_sem] theorem acF (n x):dp s (.nilq n x)=xD n (ev s x):=_root_.id rfl
@[go_sem] theorem adT (op x y):dp s (.bin op x y)=dI op (ev s x) (ev s y):=_root_.id rfl
@[go_sem] theorem ad8 (op x):dp s (.un op x)=E3 op (ev s x):=_root_.id rfl
@[go_sem] theorem ad9 (k x):dp s (.cv k x)=KW k (ev s x):=_root_.id rfl
@[go_sem] theorem adU (x):dp s (.cv0 x)=Jp (ev s x):=_root_.id rfl
@[go_sem] theorem adV (k x lo hi mx):dp s (.slc k x lo hi mx)=dJ k (ev s x) (evo s lo) (evo s hi) (evo s mx):=_root_.id rfl
@[go_sem] theorem acG (x lo hi):dp s (.slcS x lo hi)=EH (ev s x) (evo s lo) (evo s hi):=_root_.id rfl
@[go_sem] theorem acH (o x):dp s (.fadr o x)=pM o (ev s x):=_root_.id rfl
@[go_sem] theorem adW (o k g x):dp s (.fld o k g x)=E5 o k g (ev s x):=_root_.id rfl
@[go_sem] theorem Z6 (k x i):dp s (.iadrS k x i)=mD k (ev s x) (ev s i):=_root_.id rfl
@[go_sem] theorem Z7 (n k x i):dp s (.iadrA n k x i)=s7 n k (ev s x) (ev s i):=_root_.id rfl
@[go_sem] theorem acI (x i):dp s (.idxS x i)=xE (ev s x) (ev s i):=_root_.id rfl
@[go_sem] theorem acJ (n k g x i):dp s (.idxA n k g x i)=EI n k g (ev s x) (ev s i):=_root_.id rfl
@[go_sem] theorem adX (i x):dp s (.ext i x)=E6 i (ev s x):=_root_.id rfl
@[go_sem] theorem adY (m x):dp s (.len m x)=jd m (ev s x):=_root_.id rfl
@[go_sem] theorem adZ (m t x y):dp s (.eqc m t x y)=E2 m t (ev s x) (ev s y):=_root_.id rfl
@[go_sem] theorem acK (x):dp s (.capp x)=BK (ev s x):=_root_.id rfl
@[go_sem] theorem ad0 (m x ys):dp s (.mnx m x ys)=sA m (ev s x) (ys.map (ev s)):=_root_.id rfl
@[go_sem] theorem Z8 (z ps):dp s (.build z ps)=(nW z (ps.map fun p=>(p.1,p.2.1,ev s p.2.2))).map .agg:=_root_.id rfl
@[go_sem] theorem ad1 (f a b):dp s (.mkF f a b)=some (.fn f (a.map (ev s)) (b.map (ev s))):=_root_.id rfl
@[go_sem] theorem Ws (a b):xC (.v (.bool true)) a b=some a:=_root_.id rfl
@[go_sem] theorem Up (a b):xC (.v (.bool false)) a b=some b:=_root_.id rfl
@[go_sem] theorem X5 (id sub k i j):wg (.ref id sub k i j)=some (.ref id sub k i j):=_root_.id rfl
@[go_sem] theorem X6 (cs):wg (.ipt cs)=some (.ipt cs):=_root_.id rfl
@[go_sem] theorem Z9 (f a b):wg (.fn f a b)=some (.fn f a b):=_root_.id rfl
theorem iX (op a b):dI op (.v a) (.v b)=(fl op a b).map .v:=_root_.id rfl
@[go_sem] theorem aaa (k a b):dI .add (.v (.int k a)) (.v (.int k b))=some (.v (.int k (k.wrap (a+b)))):=by simp [iX,fl,lj]
@[go_sem] theorem aab (k a b):dI .sub (.v (.int k a)) (.v (.int k b))=some (.v (.int k (k.wrap (a - b)))):=by simp [iX,fl,lj]
@[go_sem] theorem aac (k a b):dI .mul (.v (.int k a)) (.v (.int k b))=some (.v (.int k (k.wrap (a*b)))):=by simp [iX,fl,lj]
@[go_sem] theorem PG (k a b):dI .quo (.v (.int k a)) (.v (.int k b))=if b=0 then none else some (.v (.int k (k.wrap (a.tdiv b)))):=by simp only [iX,fl,lj,if_true]; split <;> rfl
@[go_sem] theorem IE (k a b):dI .rem (.v (.int k a)) (.v (.int k b))=if b=0 then none else some (.v (.int k (a.tmod b))):=by simp only [iX,fl,lj,if_true]; split <;> rfl
@[go_sem] theorem aad (k a b):dI .and (.v (.int k a)) (.v (.int k b))=some (.v (.int k (k.wrap ((BitVec.ofInt k.bits a &&& BitVec.ofInt k.bits b).toNat)))):=by simp [iX,fl,lj]
@[go_sem] theorem RA (k a b):dI .or (.v (.int k a)) (.v (.int k b))=some (.v (.int k (k.wrap ((BitVec.ofInt k.bits a ||| BitVec.ofInt k.bits b).toNat)))):=by simp [iX,fl,lj]
@[go_sem] theorem PH (k k' a b):dI .shl (.v (.int k a)) (.v (.int k' b))=if b < 0 then none else some (.v (.int k (k.wrap (a*2 ^ (min b.toNat k.bits))))):=by simp only [iX,fl,MZ]; split <;> rfl
@[go_sem] theorem BZ (k k' a b):dI .shr (.v (.int k a)) (.v (.int k' b))=if b < 0 then none else some (.v (.int k (a.fdiv (2 ^ (min b.toNat k.bits))))):=by simp only [iX,fl,M0]; split <;> rfl
@[go_sem] theorem aae (k a b):dI .lss (.v (.int k a)) (.v (.int k b))=some (B (decide (a < b))):=by simp [iX,fl,lj]
@[go_sem] theorem aaf (k a b):dI .leq (.v (.int k a)) (.v (.int k b))=some (B (decide (a≤b))):=by simp [iX,fl,lj]
@[go_sem] theorem aag (k a b):dI .gtr (.v (.int k a)) (.v (.int k b))=some (B (decide (b < a))):=by simp [iX,fl,lj]
@[go_sem] theorem aah (k a b):dI .geq (.v (.int k a)) (.v (.int k b))=some (B (decide (b≤a))):=by simp [iX,fl,lj]
@[go_sem] theorem aai (k a b):dI .eql (.v (.int k a)) (.v (.int k b))=some (B (decide (a=b))):=by simp [iX,fl,lj]; rfl
@[go_sem] theorem aaj (k a b):dI .neq (.v (.int k a)) (.v (.int k b))=some (B (!decide (a=b))):=by simp [iX,fl,lj,bne]; rfl
@[go_sem] theorem acL (k a):E3 .neg (.v (.int k a))=some (.v (.int k (k.wrap (0 - a)))):=_root_.id rfl
@[go_sem] theorem acM (k a):E3 .xor (.v (.int k a))=some (.v (.int k (k.wrap ((BitVec.ofInt k.bits (if k.signed then -1 else k.max) ^^^ BitVec.ofInt k.bits a).toNat)))):=_root_.id rfl
@[go_sem] theorem aak (k a b):dI .xor (.v (.int k a)) (.v (.int k b))=some (.v (.int k (k.wrap ((BitVec.ofInt k.bits a ^^^ BitVec.ofInt k.bits b).toNat)))):=by simp [iX,fl,lj]
@[go_sem] theorem acN (b):E3 .not (.v (.bool b))=some (B (!b)):=_root_.id rfl
@[go_sem] theorem acO (k k' n):KW k (.v (.int k' n))=some (.v (.int k (k.wrap n))):=_root_.id rfl
@[go_sem] theorem X7 (o id sub k i j):pM o (.ref id sub k i j)=some (.ref id sub k i (j+o)):=_root_.id rfl
@[go_sem] theorem X8 (o cs):pM o (.ipt cs)=some (.ipt (cs.drop o)):=_root_.id rfl
@[go_sem] theorem aal (o k g cs):E5 o k g (.agg cs)=ik k g cs o:=_root_.id rfl
@[go_sem] theorem Wt (k cs o):ik k false cs o=cs[o]?:=_root_.id rfl
@[go_sem] theorem X9 (k cs o):ik k true cs o=if o+k≤cs.length then some (.agg ((cs.drop o).take k)) else none:=_root_.id rfl
@[go_sem] theorem aam (k rows k' i):mD k (.sl k rows) (.v (.int k' i))=bH rows i:=by simp [mD]
@[go_sem] theorem Ya (k id sub lo n k' i):mD k (.rsl id sub k lo n) (.v (.int k' i))=if 0≤i∧i < n then some (.ref id sub k (lo+i.toNat) 0) else none:=by simp [mD]
@[go_sem] theorem Wu (n k id sub k' a j kk i):s7 n k (.ref id sub k' a j) (.v (.int kk i))=if 0≤i∧i < n then some (.ref id sub k' a (j+i.toNat*k)) else none:=_root_.id rfl
@[go_sem] theorem Wv (n k cs kk i):s7 n k (.ipt cs) (.v (.int kk i))=if 0≤i∧i < n then some (.ipt (cs.drop (i.toNat*k))) else none:=_root_.id rfl
@[go_sem] theorem aan (i vs):E6 i (.tup vs)=vs[i]?:=_root_.id rfl
@[go_sem] theorem acP (k rows):jd false (.sl k rows)=some (I rows.length):=_root_.id rfl
@[go_sem] theorem aao:jd false .emp=some (I 0):=_root_.id rfl
@[go_sem] theorem aap (a b c d n):jd false (.rsl a b c d n)=some (I n):=_root_.id rfl
@[go_sem] theorem aaq (x):jd true (.v (.string x))=some (I x.size):=_root_.id rfl
@[go_sem] theorem Yb (m a):sA m a []=some a:=_root_.id rfl
@[go_sem] theorem Ww (m a b l):sA m a (b::l)=(BL m a b).bind fun c=>sA m c l:=_root_.id rfl
@[go_sem] theorem aar (k k' x y):BL true (.v (.int k x)) (.v (.int k' y))=some (.v (.int k (if y < x then y else x))):=_root_.id rfl
@[go_sem] theorem aas (k k' x y):BL false (.v (.int k x)) (.v (.int k' y))=some (.v (.int k (if x < y then y else x))):=_root_.id rfl
@[go_sem] theorem Yc (m a b):E2 m 0 (.v (.bool a)) (.v (.bool b))=some (B (m != (a == b))):=_root_.id rfl
@[go_sem] theorem Wx (z):nW z []=some z:=_root_.id rfl
@[go_sem] theorem Uq (z o k a ps):nW z ((o,k,a)::ps)=(dy a).bind fun cs=>if cs.length=k∧o+k≤z.length then nW (setRow z o cs) ps else none:=_root_.id rfl
@[go_sem] theorem Wy (cs):dy (.agg cs)=some cs:=_root_.id rfl
@[go_sem] theorem aat (x):dy (.v x)=some [.v x]:=_root_.id rfl
@[go_sem] theorem Wz:dy .emp=some [.emp]:=_root_.id rfl
@[go_sem] theorem Yd (k r):dy (.sl k r)=some [.sl k r]:=_root_.id rfl
@[go_sem] theorem WA (a b c d e):dy (.rsl a b c d e)=some [.rsl a b c d e]:=_root_.id rfl
@[go_sem] theorem WB (a b c d e):dy (.ref a b c d e)=some [.ref a b c d e]:=_root_.id rfl
@[go_sem] theorem Ye (f a b):dy (.fn f a b)=some [.fn f a b]:=_root_.id rfl
@[go_sem] theorem Ur (r j):setRow r j []=r:=_root_.id rfl
@[go_sem] theorem TR (r j c cs):setRow r j (c::cs)=setRow (r.set j c) (j+1) cs:=_root_.id rfl
@[go_sem] theorem Yf (h k g cs):dU h k g (.ipt cs)=(ik k g cs 0).map fun a=>(a,h,[]):=_root_.id rfl
@[go_sem] theorem Yg (h k g id k0 i j):dU h k g (.ref id none k0 i j)=pO h k g id k0 i j (h id):=_root_.id rfl
@[go_sem] theorem Yh (h k g id p k0 i j):dU h k g (.ref id (some p) k0 i j)=jE h k g k0 i j (gx p (h id)):=_root_.id rfl
@[go_sem] theorem Yi (h k g id k0 i j cs):pO h k g id k0 i j (.bx cs)=ug h id (i*k0+j) k g cs:=_root_.id rfl
@[go_sem] theorem Yj (h k g id k0 i j k' rows):pO h k g id k0 i j (.ar k' rows)=jE h k g k0 i j (some (k',rows)):=_root_.id rfl
@[go_sem] theorem Yk (h k g id k0 i j k' rows):pO h k g id k0 i j (.fz k' rows)=jE h k g k0 i j (some (k',rows)):=_root_.id rfl
@[go_sem] theorem Us (h id p k cs):ug h id p k false cs=(cs[p]?).map fun c=>(pN id p c,h,[]):=_root_.id rfl
@[go_sem] theorem WC (h id p k cs):ug h id p k true cs=if p+k≤cs.length then (if ((cs.drop p).take k).any aN then some (.agg (((cs.map gG).drop p).take k),upd h id (.bx (cs.map gG)),[(id,true)]) else some (.agg ((cs.drop p).take k),h,[])) else none:=_root_.id rfl
@[go_sem] theorem aau (id p x):pN id p (.v x)=.v x:=_root_.id rfl
@[go_sem] theorem WD (id p):pN id p .emp=.emp:=_root_.id rfl
@[go_sem] theorem Yl (id p k r):pN id p (.sl k r)=.sl k r:=_root_.id rfl
@[go_sem] theorem WE (id p a b c d e):pN id p (.ref a b c d e)=.ref a b c d e:=_root_.id rfl
@[go_sem] theorem Ym (id p f a b):pN id p (.fn f a b)=.fn f a b:=_root_.id rfl
@[go_sem] theorem WF (id p k r):pN id p (.osl k r)=.rsl id (some p) k 0 r.length:=_root_.id rfl
@[go_sem] theorem Ut (h k g i j k' rows):jE h k g k' i j (some (k',rows))=(rows[i]?).bind fun row=>(ik k g row j).map fun a=>(a,h,[]):=by simp [jE]
@[go_sem] theorem aav (x):aN (.v x)=false:=_root_.id rfl
@[go_sem] theorem WG:aN .emp=false:=_root_.id rfl
@[go_sem] theorem Yn (k r):aN (.sl k r)=false:=_root_.id rfl
@[go_sem] theorem WH (k r):aN (.osl k r)=true:=_root_.id rfl
@[go_sem] theorem WI (a b c d e):aN (.ref a b c d e)=false:=_root_.id rfl
@[go_sem] theorem Yo (f a b):aN (.fn f a b)=false:=_root_.id rfl
@[go_sem] theorem acQ (x):ak (.v x)=true:=_root_.id rfl
@[go_sem] theorem Yp:ak .emp=true:=_root_.id rfl
@[go_sem] theorem aaw (k r):ak (.sl k r)=true:=_root_.id rfl
@[go_sem] theorem Yq (a b c d e):ak (.rsl a b c d e)=false:=_root_.id rfl
@[go_sem] theorem Yr (a b c d e):ak (.ref a b c d e)=false:=_root_.id rfl
@[go_sem] theorem Ys (f):ak (.fn f [] [])=true:=_root_.id rfl
@[go_sem] theorem aax (cs):dat (.agg cs)=cs.all ak:=_root_.id rfl
@[go_sem] theorem ad2 (x):dat (.v x)=true:=_root_.id rfl
@[go_sem] theorem aay:dat .emp=true:=_root_.id rfl
@[go_sem] theorem acR (k r):dat (.sl k r)=true:=_root_.id rfl
@[go_sem] theorem aaz (a b c d e):dat (.rsl a b c d e)=false:=_root_.id rfl
@[go_sem] theorem aaA (a b c d e):dat (.ref a b c d e)=false:=_root_.id rfl
@[go_sem] theorem aaB (f):dat (.fn f [] [])=true:=_root_.id rfl
@[go_sem] theorem Yt (h d cs ks):fK h d cs ks=rf h d (.ref d none 0 0 0) (.bx cs) ks (h d):=_root_.id rfl
@[go_sem] theorem WJ (h d a o ks):rf h d a o ks .dead=some (a,upd h d o,ks):=_root_.id rfl
@[go_sem] theorem Uu (h d k rows n ks):bO h d k rows n ks=rf h d (.rsl d none k 0 n) (.ar k rows) ks (h d):=_root_.id rfl
@[go_sem] theorem acS (h d k x):rg h d k x=(dy x).bind fun xs=>if xs.length=k then (if xs.all ak then fK h d xs [] else (fK h d (List.replicate k .any) []).bind (M2 d 0 xs)) else none:=_root_.id rfl
@[go_sem] theorem RB (k h rows):cY k h rows []=some (rows,h,[]):=_root_.id rfl
@[go_sem] theorem QW (k h rows i a ps):cY k h rows ((i,a)::ps)=(dy a).bind fun cs=>if cs.length=k∧i < rows.length then (dB h cs).bind fun q=>(cY k q.2.1 (rows.set i q.1) ps).bind fun r=>some (r.1,r.2.1,q.2.2++r.2.2) else none:=_root_.id rfl
@[go_sem] theorem WK (h):dB h []=some ([],h,[]):=_root_.id rfl
@[go_sem] theorem Uv (h a l):dB h (a::l)=(du h a).bind fun p=>(dB p.2.1 l).bind fun q=>some (p.1::q.1,q.2.1,p.2.2++q.2.2):=_root_.id rfl
@[go_sem] theorem acT (h x):du h (.v x)=some (.v x,h,[]):=_root_.id rfl
@[go_sem] theorem Yu (h):du h .emp=some (.emp,h,[]):=_root_.id rfl
@[go_sem] theorem aaC (h k r):du h (.sl k r)=some (.sl k r,h,[]):=_root_.id rfl
@[go_sem] theorem aaD (h f):du h (.fn f [] [])=some (.fn f [] [],h,[]):=_root_.id rfl
@[go_sem] theorem Yv (h id k lo n):du h (.rsl id none k lo n)=jf h id k lo n (h id):=_root_.id rfl
@[go_sem] theorem WL (h id p k lo n):du h (.rsl id (some p) k lo n)=wj h id p k lo n (h id):=_root_.id rfl
@[go_sem] theorem aaE (h id k lo n rows):jf h id k lo n (.ar k rows)=if lo+n≤rows.length then some (je k lo n rows,upd h id (.fz k rows),[]) else none:=by simp [jf]
@[go_sem] theorem aaF (h id k lo n rows):jf h id k lo n (.fz k rows)=if lo+n≤rows.length then some (je k lo n rows,h,[]) else none:=by simp [jf]
@[go_sem] theorem aaG (k lo n rows):je k lo n rows=.sl k ((rows.drop lo).take n):=_root_.id rfl
@[go_sem] theorem WM (h k id k0 i j x):fJ h k (.ref id none k0 i j) x=(dy x).bind fun xs=>if xs.length=k then sC h k id k0 i j xs (h id) else none:=_root_.id rfl
@[go_sem] theorem WN (h k id p k0 i j x):fJ h k (.ref id (some p) k0 i j) x=(dy x).bind fun xs=>if xs.length=k then (dB h xs).bind fun q=>xF q.2.1 k id p k0 i j q.1 q.2.2 (q.2.1 id) else none:=_root_.id rfl
@[go_sem] theorem aaH (h k id k0 i j xs cs):sC h k id k0 i j xs (.bx cs)=BM h id (i*k0+j) k xs cs:=_root_.id rfl
@[go_sem] theorem aaI (h k id k0 i j xs k' rows):sC h k id k0 i j xs (.ar k' rows)=(dB h xs).bind fun q=>BN q.2.1 id k k0 i j q.1 q.2.2 (q.2.1 id):=_root_.id rfl
@[go_sem] theorem aaJ (h id k k0 i j xs ks k' rows):BN h id k k0 i j xs ks (.ar k' rows)=(wk k k0 i j xs k' rows).map fun q=>(.und,upd h id (.ar k' q),ks):=_root_.id rfl
@[go_sem] theorem aaK (k k0 i j cs rows):wk k k0 i j cs k0 rows=(rows[i]?).bind fun row=>if j+k≤row.length then some (rows.set i (setRow row j cs)) else none:=by simp [wk]
@[go_sem] theorem aaL (h id p k xs cs):BM h id p k xs cs=if p+k≤cs.length then (if xs.all ak then some (.und,upd h id (.bx (setRow cs p xs)),if ((cs.drop p).take k).any aN then [(id,true)] else []) else (mG h id p xs.length xs).map fun q=>(.und,q.1,q.2)) else none:=_root_.id rfl
@[go_sem] theorem aaM (hs x):ez hs (.v x)=.v x:=_root_.id rfl
@[go_sem] theorem WO (hs):ez hs .emp=.emp:=_root_.id rfl
@[go_sem] theorem Yw (hs k r):ez hs (.sl k r)=.sl k r:=_root_.id rfl
@[go_sem] theorem WP (hs):ez hs .any=.any:=_root_.id rfl
@[go_sem] theorem WQ (hs cs):ez hs (.ipt cs)=.ipt cs:=_root_.id rfl
@[go_sem] theorem WR (hs id sub k lo n):ez hs (.rsl id sub k lo n)=if hs.contains id then .rsl id sub k lo n else .any:=_root_.id rfl
@[go_sem] theorem WS (hs id sub k lo n):ez hs (.ref id sub k lo n)=if hs.contains id then .ref id sub k lo n else .any:=_root_.id rfl
@[go_sem] theorem WT (hs cs):ez hs (.agg cs)=if cs.all (knownL hs) then .agg cs else .any:=_root_.id rfl
@[go_sem] theorem WU (hs f):ez hs (.fn f [] [])=.fn f [] []:=_root_.id rfl
@[go_sem] theorem Yx (hs f a b):ez hs (.fn f a b)=if a.all (knownL hs) && b.all (knownL hs) then .fn f a b else .any:=_root_.id rfl
@[go_sem] theorem Yy (hs x):knownL hs (.v x)=true:=_root_.id rfl
@[go_sem] theorem Uw (hs):knownL hs .emp=true:=_root_.id rfl
@[go_sem] theorem WV (hs k r):knownL hs (.sl k r)=true:=_root_.id rfl
@[go_sem] theorem Ux (hs id a b c d):knownL hs (.ref id a b c d)=hs.contains id:=_root_.id rfl
@[go_sem] theorem RE (hs):aA hs .dead=true:=_root_.id rfl
@[go_sem] theorem Uy (hs k r):aA hs (.ar k r)=true:=_root_.id rfl
@[go_sem] theorem Uz (hs k r):aA hs (.fz k r)=true:=_root_.id rfl
@[go_sem] theorem UA (hs cs):aA hs (.bx cs)=cs.all (eH hs):=_root_.id rfl
@[go_sem] theorem WX (hs x):eH hs (.v x)=true:=_root_.id rfl
@[go_sem] theorem TS (hs):eH hs .emp=true:=_root_.id rfl
@[go_sem] theorem UB (hs k r):eH hs (.sl k r)=true:=_root_.id rfl
@[go_sem] theorem TT (hs k r):eH hs (.osl k r)=true:=_root_.id rfl
@[go_sem] theorem TU (hs id a b c):eH hs (.ref id none a b c)=hs.contains id:=by simp [eH,aN,aJ,aO]
@[go_sem] theorem TV (hs f):eH hs (.fn f [] [])=true:=_root_.id rfl
@[go_sem] theorem UC {α β:Type} (f:α→β) (a):Option.map f (some a)=some (f a):=_root_.id rfl
@[go_sem] theorem UD {α β:Type} (f:α→β):Option.map f none=none:=_root_.id rfl
@[go_sem] theorem TW {α β:Type} (f:α→Option β) (a):(some a).bind f=f a:=_root_.id rfl
@[go_sem] theorem TY {α β:Type} (f:α→Option β):(none:Option α).bind f=none:=_root_.id rfl
@[go_sem] theorem TZ {α:Type} (a b:α):(some a).getD b=a:=_root_.id rfl
@[go_sem] theorem WY {α:Type} (p:α→Bool):[].all p=true:=_root_.id rfl
@[go_sem] theorem UE {α:Type} (p:α→Bool) (a l):(a::l).all p=(p a && l.all p):=_root_.id rfl
@[go_sem] theorem WZ {α:Type} (p:α→Bool):[].any p=false:=_root_.id rfl
@[go_sem] theorem UF {α:Type} (p:α→Bool) (a l):(a::l).any p=(p a || l.any p):=_root_.id rfl
@[go_sem] theorem UG {α:Type} (a:α) (l):(a::l)[0]?=some a:=_root_.id rfl
@[go_sem] theorem UH {α:Type} (a:α) (l) (n:Nat):(a::l)[n+1]?=l[n]?:=_root_.id rfl
@[go_sem] theorem W0 {α β:Type} (f:α→β):[].map f=[]:=_root_.id rfl
@[go_sem] theorem UI {α β:Type} (f:α→β) (a l):(a::l).map f=f a::l.map f:=_root_.id rfl
@[go_sem] theorem Yz {α β:Type} (f:α→List β):[].flatMap f=[]:=_root_.id rfl
@[go_sem] theorem W7 {α β:Type} (f:α→List β) (a l):(a::l).flatMap f=f a++l.flatMap f:=_root_.id rfl
@[go_sem] theorem W8 {α:Type} (l:List α):l++[]=l:=List.append_nil l
@[go_sem] theorem W9 {α:Type} (l:List α):[]++l=l:=_root_.id rfl
@[go_sem] theorem UJ {α:Type} (a:α) (l r):(a::l)++r=a::(l++r):=_root_.id rfl
@[go_sem] theorem Xa {α:Type}:([]:List α).length=0:=_root_.id rfl
@[go_sem] theorem UK {α:Type} (a:α) (l):(a::l).length=l.length+1:=_root_.id rfl
@[go_sem] theorem T0 {α:Type} (l:List α):l.drop 0=l:=_root_.id rfl
@[go_sem] theorem T1 {α:Type} (a:α) (l) (n:Nat):(a::l).drop (n+1)=l.drop n:=_root_.id rfl
@[go_sem] theorem T2 {α:Type} (l:List α):l.take 0=[]:=_root_.id rfl
@[go_sem] theorem T3 {α:Type} (a:α) (l) (n:Nat):(a::l).take (n+1)=a::l.take n:=_root_.id rfl
@[go_sem] theorem RF {α:Type} (p:α→Bool):[].filter p=[]:=_root_.id rfl
@[go_sem] theorem UL {α:Type} (a b:α) (l):(a::l).set 0 b=b::l:=_root_.id rfl
@[go_sem] theorem UM {α:Type} (a b:α) (l) (n:Nat):(a::l).set (n+1) b=a::l.set n b:=_root_.id rfl
@[go_sem] theorem acU {α:Type} (a:α):List.replicate 0 a=[]:=_root_.id rfl
@[go_sem] theorem acV {α:Type} (a:α):List.replicate 1 a=[a]:=_root_.id rfl
@[go_sem] theorem acW {α:Type} (a:α):List.replicate 2 a=[a,a]:=_root_.id rfl
@[go_sem] theorem acX {α:Type} (a:α):List.replicate 3 a=[a,a,a]:=_root_.id rfl
@[go_sem] theorem acY {α:Type} (a:α):List.replicate 4 a=[a,a,a,a]:=_root_.id rfl
@[go_sem] theorem acZ {α:Type} (a:α):List.replicate 5 a=[a,a,a,a,a]:=_root_.id rfl
@[go_sem] theorem aea:decide True=true:=_root_.id rfl
@[go_sem] theorem aeb:decide False=false:=_root_.id rfl
@[go_sem] theorem aaN (b:Bool):(true && b)=b:=_root_.id rfl
@[go_sem] theorem aaO (b:Bool):(false && b)=false:=_root_.id rfl
@[go_sem] theorem ac0 (b:Bool):(true || b)=true:=_root_.id rfl
@[go_sem] theorem ac1 (b:Bool):(false || b)=b:=_root_.id rfl
@[go_sem] theorem aaP:(!true)=false:=_root_.id rfl
@[go_sem] theorem aaQ:(!false)=true:=_root_.id rfl
@[go_sem] theorem aaR (b:Bool):(b && true)=b:=Bool.and_true b
@[go_sem] theorem aec:(false=true)=False:=by simp
@[go_sem] theorem ad3 {α:Type} (a:α):(a=a)=True:=by simp
@[go_sem] theorem ac2 (p:Prop):(True∧p)=p:=by simp
@[go_sem] theorem aaS (p:Prop):(p∧True)=p:=by simp
@[go_sem] theorem ac3 (p:Prop):(False∧p)=False:=by simp
@[go_sem] theorem ac4:(¬ False)=True:=by simp
@[go_sem] theorem ac5:(¬ True)=False:=by simp
@[go_sem] theorem YA (nm rs res n t):rk nm rs res n (some (.ret,t))=rj nm rs res n t.s t.h:=_root_.id rfl
@[go_sem] theorem T4 (nm rs res n t):rk nm rs res n (some (.normal,t))=rj nm rs res n t.s t.h:=_root_.id rfl
@[go_sem] theorem Xb (nm rs res n s h):rj nm rs res n s h=(n5 s h res).bind fun q=>if jH nm q.2.2 then n6 rs n q.2.1 q.1 else none:=_root_.id rfl
@[go_sem] theorem ac6 (nm:Bool):jH nm []=true:=iJ nm
@[go_sem] theorem Xc (s h):n5 s h []=some ([],h,[]):=_root_.id rfl
@[go_sem] theorem aaT (s h n l):n5 s h (.t n::l)=(n5 s h l).bind fun q=>some (Fh q.2.2 (s n)::q.1,q.2.1,q.2.2):=_root_.id rfl
@[go_sem] theorem UN (s h n k g l):n5 s h (.cell n k g::l)=(dU h k g (s n)).bind fun p=>(n5 (eG p.2.2 s) p.2.1 l).bind fun q=>some (Fh q.2.2 p.1::q.1,q.2.1,p.2.2++q.2.2):=_root_.id rfl
@[go_sem] theorem YB (a):Fh [] a=a:=_root_.id rfl
@[go_sem] theorem Xd (s):eG [] s=s:=_root_.id rfl
@[go_sem] theorem ac7 (rs h vs):n6 rs 0 h vs=if fm ((vs.flatMap bk).filter fun i=>!aG i) then (lP h vs).map fun us=>(kP (aM rs us),[]) else none:=by simp [n6,bS]
@[go_sem] theorem Xe (h):lP h []=some []:=_root_.id rfl
@[go_sem] theorem UO (h a l):lP h (a::l)=(ll h a).bind fun b=>(lP h l).bind fun q=>some (b::q):=_root_.id rfl
@[go_sem] theorem ac8 (h x):ll h (.v x)=some (.v x):=_root_.id rfl
@[go_sem] theorem YC (h):ll h .emp=some .emp:=_root_.id rfl
@[go_sem] theorem aaU (h k r):ll h (.sl k r)=some (.sl k r):=_root_.id rfl
@[go_sem] theorem YD (h cs):ll h (.agg cs)=(fY h cs).map .agg:=_root_.id rfl
@[go_sem] theorem YE (h id k lo n):ll h (.rsl id none k lo n)=if aG id then none else qq k lo n (h id):=_root_.id rfl
@[go_sem] theorem aaV (k lo n rows):qq k lo n (.ar k rows)=if lo+n≤rows.length then (if lo=0∧n=rows.length then some (.osl k rows) else some (je k lo n rows)) else none:=by simp [qq]
@[go_sem] theorem aaW (k lo n rows):qq k lo n (.fz k rows)=if lo+n≤rows.length then some (je k lo n rows) else none:=by simp [qq]
@[go_sem] theorem Xf (h):fY h []=some []:=_root_.id rfl
@[go_sem] theorem aaX (h x l):fY h (.v x::l)=(fY h l).bind fun q=>some (.v x::q):=_root_.id rfl
@[go_sem] theorem Xg (h l):fY h (.emp::l)=(fY h l).bind fun q=>some (.emp::q):=_root_.id rfl
@[go_sem] theorem YF (h k r l):fY h (.sl k r::l)=(fY h l).bind fun q=>some (.sl k r::q):=_root_.id rfl
@[go_sem] theorem Xh (h id k lo n l):fY h (.rsl id none k lo n::l)=(fX h (.rsl id none k lo n)).bind fun b=>(qt b).bind fun c=>(fY h l).bind fun q=>some (c::q):=_root_.id rfl
@[go_sem] theorem YG (h id k lo n):fX h (.rsl id none k lo n)=if aG id then none else qq k lo n (h id):=_root_.id rfl
@[go_sem] theorem YH (k r):qt (.osl k r)=some (.sl k r):=_root_.id rfl
@[go_sem] theorem aaY (k r):qt (.sl k r)=some (.sl k r):=_root_.id rfl
@[go_sem] theorem aaZ (a):kP [a]=a:=_root_.id rfl
@[go_sem] theorem aa0 (a b l):kP (a::b::l)=.tup (a::b::l):=_root_.id rfl
@[go_sem] theorem aa1:kP []=.tup []:=_root_.id rfl
@[go_sem] theorem Xi (l):aM [] l=l:=by cases l <;> simp [aM]
@[go_sem] theorem UP (s):aM s []=[]:=by cases s <;> simp [aM]
@[go_sem] theorem UQ (s ss a l):aM (s::ss) (a::l)=nrmV s a::aM ss l:=_root_.id rfl
@[go_sem] theorem Nu (a):nrmV [] a=a:=by cases a <;> simp [nrmV,nrmL,ce]
@[go_sem] theorem YI (ss cs):nrmV ss (.agg cs)=.agg (ce ss cs):=_root_.id rfl
@[go_sem] theorem ac9 (ss x):nrmV ss (.v x)=.v x:=by
 show nrmL _ _=_
 generalize ss.headD (.o 0 [])=s
 obtain ⟨k,cs⟩:=s
 cases k <;> simp [nrmL]
@[go_sem] theorem YJ (k cs ss):nrmV (.o (k+1) cs::ss) .emp=.sl k []:=by simp [nrmV,nrmL]
@[go_sem] theorem aa2 (k cs ss k' rows):nrmV (.o (k+1) cs::ss) (.sl k' rows)=.sl k' (rows.map (ce cs)):=by simp [nrmV,nrmL]
@[go_sem] theorem YK (k cs ss k' rows):nrmV (.o (k+1) cs::ss) (.osl k' rows)=.sl k' (rows.map (ce cs)):=by simp [nrmV,nrmL]
@[go_sem] theorem Nv (l):ce [] l=l:=by cases l <;> simp [ce]
@[go_sem] theorem Xj (l):ce l []=[]:=by cases l <;> simp [ce]
@[go_sem] theorem Xk (s ss a l):ce (s::ss) (a::l)=nrmL s a::ce ss l:=by simp [ce]
@[go_sem] theorem ada (cs a):nrmL (.o 0 cs) a=a:=by simp [nrmL]
@[go_sem] theorem YL (k cs):nrmL (.o (k+1) cs) .emp=.sl k []:=by simp [nrmL]
@[go_sem] theorem aa3 (k cs k' rows):nrmL (.o (k+1) cs) (.sl k' rows)=.sl k' (rows.map (ce cs)):=by simp [nrmL]
@[go_sem] theorem adb (k cs x):nrmL (.o k cs) (.v x)=.v x:=by cases k <;> simp [nrmL]
@[go_sem] theorem adc (x):bk (.v x)=[]:=_root_.id rfl
@[go_sem] theorem YM:bk .emp=[]:=_root_.id rfl
@[go_sem] theorem aa4 (k r):bk (.sl k r)=[]:=_root_.id rfl
@[go_sem] theorem YN (cs):bk (.agg cs)=cs.flatMap cP:=_root_.id rfl
@[go_sem] theorem YO (a b c d e):bk (.rsl a b c d e)=[a]:=_root_.id rfl
@[go_sem] theorem ade (x):cP (.v x)=[]:=_root_.id rfl
@[go_sem] theorem YP:cP .emp=[]:=_root_.id rfl
@[go_sem] theorem aa5 (k r):cP (.sl k r)=[]:=_root_.id rfl
@[go_sem] theorem YQ (a b c d e):cP (.rsl a b c d e)=[a]:=_root_.id rfl
@[go_sem] theorem UR:fm []=true:=_root_.id rfl
@[go_sem] theorem US (a):fm [a]=true:=_root_.id rfl
@[go_sem] theorem aa6 (args i):pf args i=(args[i]?).getD .any:=_root_.id rfl
@[go_sem] theorem Ki:ae []=fun _=>.dead:=by funext i; simp [ae]
@[go_sem] theorem Xl (i):aG i=decide (1000≤i∧i < 2000):=_root_.id rfl
def gY (h:aa) (d:Nat):Option (AV × List Ob)→Option R3
 | some (r,[])=>if cf r≤8∧cx h (2000+8*d) (cf r)=true∧ey [] r=true then some ((mat (2000+8*d) h r).1,(mat (2000+8*d) h r).2,[]) else none
 | _=>none
theorem fx {c:AV} {ids:List Nat} {n:Nat} (hn:2000≤n) (hc:aO [] c=true∨(∃ k lo m,c=.rsl n none k lo m)∨∃ k i j,c=.ref n none k i j):fV (bN ids) c=c:=by
 have hb:bN ids n=n:=by unfold bN; rw [if_neg (by omega)]
 rcases hc with hc | ⟨k,lo,m,rfl⟩ | ⟨k,i,j,rfl⟩
 ·cases c <;> simp [aO] at hc <;> rfl
 ·simp [fV,hb]
 ·simp [fV,hb]
theorem Dc {r:AV} {n:Nat} (hn:2000≤n) (h:aa) (ids:List Nat) (hr:cZ [] r=true):cQ (bN ids) (bU n h r).1=(bU n h r).1:=by
 cases r <;> simp only [cZ] at hr <;> simp only [bU]
 case osl=>simp only [cQ]; exact fx hn (.inr (.inl ⟨_,_,_,rfl⟩))
 case obx=>simp only [cQ]; exact fx hn (.inr (.inr ⟨_,_,_,rfl⟩))
 case agg cs =>
  simp only [aJ,List.all_eq_true] at hr
  simp only [cQ,AV.agg.injEq]
  exact (List.map_congr_left (g:=fun c=>c) fun c hc=>fx hn (.inl (hr c hc))).trans (List.map_id' cs)
 case fn f x y =>
  simp only [aJ,Bool.and_eq_true,List.all_eq_true] at hr
  simp only [cQ,AV.fn.injEq,true_and]
  exact ⟨(List.map_congr_left (g:=fun c=>c) fun c hc=>fx hn (.inl (hr.1 c hc))).trans (List.map_id' x),(List.map_congr_left (g:=fun c=>c) fun c hc=>fx hn (.inl (hr.2 c hc))).trans (List.map_id' y)⟩
 all_goals
  simp only [cQ]
  exact fx hn (.inl hr)
theorem Dd (ids:List Nat):∀ {l:List AV} {n:Nat} {h:aa},2000≤n→l.all (cZ [])=true→(bp n h l).1.map (cQ (bN ids))=(bp n h l).1
 | [],n,h,_,_=>rfl
 | c::l,n,h,hn,hr=>by
  simp only [List.all_cons,Bool.and_eq_true] at hr
  simp only [bp,List.map_cons]
  rw [Dc hn h ids hr.1,Dd ids (by omega) hr.2]
theorem Nw {r:AV} {n:Nat} (hn:2000≤n) (h:aa) (ids:List Nat) (hr:ey [] r=true):uo (bN ids) (mat n h r).1=(mat n h r).1:=by
 cases r with
 | tup vs =>
  simp only [ey] at hr
  simp only [mat,uo,AV.tup.injEq]
  exact Dd ids hn hr
 | _ =>
  simp only [ey] at hr
  have:=Dc hn h ids hr
  simp only [mat]
  simp only [bU] at this ⊢
  exact this
theorem De:∀ l:List AV,kN [] l=[]
 | []=>rfl
 | a::l=>by simp [kN,De l]
theorem sg {f:FuncId} {args:List AV} (d:Nat) (hm:md.m f=[]) (hd:args.all dat=true):ai call md h d args (.fn f [] [])=gY h d (call f (aM (md.sh f) args) []):=by
 have hin:ah h [] args=some (args,h,[]):=by
  have:∀ (l:List AV),l.all dat=true→ah h [] l=some (l,h,[]):=by
   intro l
   induction l with
   | nil=>intro _; rfl
   | cons a l ih =>
    intro hd
    simp only [List.all_cons,Bool.and_eq_true] at hd
    have ha:bM h 0 a=some (a,h,[]):=by
     have h1:=hd.1
     by_cases hagg:∃ cs,a=.agg cs
     ·obtain ⟨cs,rfl⟩:=hagg
      simp only [dat] at h1
      simp only [bM,mE]
      rw [gp h1 h]
      rfl
     ·have h2:ak a=true:=by cases a <;> first | exact h1 | exact absurd ⟨_,rfl⟩ hagg
      cases a <;> first | (simp [ak] at h2; done) | rfl | skip
    simp only [ah,List.headD_nil,ha,Option.bind_some,List.tail_nil,ih hd.2,List.append_nil]
  exact this args hd
 have hids:args.flatMap bk=[]:=by
  rw [List.flatMap_eq_nil_iff]
  exact fun c hc=>Fz (List.all_eq_true.1 hd c hc)
 have hren:(aM (md.sh f) args).map (cQ (aV []))=aM (md.sh f) args∧(aM (md.sh f) args).all (aJ [])=true:=by
  have key:∀ c ∈ aM (md.sh f) args,dat c=true:=by
   intro c hc
   obtain ⟨i,hi⟩:=List.getElem?_of_mem hc
   obtain ⟨c0,h1,h2⟩:=nI _ _ _ _ hi
   have h0:=List.all_eq_true.1 hd c0 (List.mem_of_getElem? h1)
   rcases h2 with rfl | ⟨ss,rfl⟩
   ·exact h0
   ·cases c0 <;> simp only [dat] at h0 <;> simp only [nrmV,dat] <;> try (have:=rr (s:=ss.headD (.o 0 [])) h0; revert this; generalize nrmL _ _=q; intro this; cases q <;> first | exact this | simp [ak] at this)
    rename_i cs
    rw [List.all_eq_true]
    intro c hc
    obtain ⟨i,hi⟩:=List.getElem?_of_mem hc
    obtain ⟨c0,h1,h2⟩:=rq _ _ _ _ hi
    have h3:=List.all_eq_true.1 h0 c0 (List.mem_of_getElem? h1)
    rcases h2 with rfl | ⟨s,rfl⟩
    ·exact h3
    ·exact rr h3
  refine ⟨(List.map_congr_left (g:=fun c=>c) fun c hc=>?_).trans (List.map_id' _),?_⟩
  ·have:=key c hc
   cases c <;> simp only [dat] at this <;> first | rfl | skip
   all_goals first
    | (simp [ak] at this; done)
    | skip
   ·rename_i cs
    simp only [cQ,AV.agg.injEq]
    refine (List.map_congr_left (g:=fun c=>c) fun c hc=>?_).trans (List.map_id' cs)
    have h3:=List.all_eq_true.1 this c hc
    cases c <;> simp [ak] at h3 <;> rfl
   ·rename_i g x y
    simp [ak] at this
    obtain ⟨rfl,rfl⟩:=this
    rfl
  ·rw [List.all_eq_true]
   intro c hc
   have:=key c hc
   cases c <;> simp only [dat] at this <;> first | rfl | skip
   all_goals first
    | (simp [ak] at this; done)
    | skip
   ·rename_i cs
    simp only [aJ,List.all_eq_true]
    intro c hc
    have h3:=List.all_eq_true.1 this c hc
    cases c <;> simp [ak] at h3 <;> simp [aO,h3]
   ·rename_i g x y
    simp [ak] at this
    obtain ⟨rfl,rfl⟩:=this
    rfl
 unfold ai
 rw [if_neg (by simp [jG,hm])]
 simp only [dq,hm,List.nil_append,List.append_nil,hin,Option.bind_some,hids,bo,C1,jF,hren.2,List.all_nil,Bool.and_self,if_true,hren.1,List.map_nil,De]
 cases hr:call f (aM (md.sh f) args) [] with
 | none=>rfl
 | some q =>
  obtain ⟨r,os⟩:=q
  cases os with
  | cons o os=>simp only [Option.bind_some,dZ,gY]; simp
  | nil =>
   simp only [Option.bind_some,dZ,gY,List.length_nil,Nat.zero_le,true_and,cU,mP,uq,List.all_nil,Bool.true_and,Bool.and_true,rh,bS,List.range'_zero,cz,dC]
   by_cases hc:cf r≤8∧cx h (2000+8*d) (cf r)=true∧ey [] r=true
   ·rw [if_pos hc,if_pos hc,Nw (by omega) h [] hc.2.2]
    simp
   ·rw [if_neg hc,if_neg hc]
def aD (call:cT) (md:Mode) (d:Nat) (f:FuncId) (p:List AV × aa × K):Option R3 :=
 jF call md p.2.1 d f (bJ p.2.1 40 (bo [] (p.1.flatMap bk)) 0) (aM (md.sh f) p.1) p.2.2
theorem aj {f:FuncId} {args:List AV} (d:Nat) (hm:md.m f=[]):ai call md h d args (.fn f [] [])=(ah h [] args).bind (aD call md d f):=by
 unfold ai
 rw [if_neg (by simp [jG,hm])]
 simp only [dq,hm,List.nil_append,List.append_nil]
 rfl
@[go_sem] theorem Xm {f:FuncId} {zs:List AV} (d:Nat) (hm:md.m f=[]) (hd:zs.all dat=true):aD call md d f (zs,h,[])=gY h d (call f (aM (md.sh f) zs) []):=by
 rw [← sg d hm hd,aj d hm]
 have hin:∀ (l:List AV),l.all dat=true→ah h [] l=some (l,h,[]):=by
  intro l
  induction l with
  | nil=>intro _; rfl
  | cons a l ih =>
   intro hd
   simp only [List.all_cons,Bool.and_eq_true] at hd
   have ha:bM h 0 a=some (a,h,[]):=by
    have h1:=hd.1
    by_cases hagg:∃ cs,a=.agg cs
    ·obtain ⟨cs,rfl⟩:=hagg
     simp only [dat] at h1
     simp only [bM,mE]
     rw [gp h1 h]
     rfl
    ·have h2:ak a=true:=by cases a <;> first | exact h1 | exact absurd ⟨_,rfl⟩ hagg
     cases a <;> first | (simp [ak] at h2; done) | rfl | skip
   simp only [ah,List.headD_nil,ha,Option.bind_some,List.tail_nil,ih hd.2,List.append_nil]
 rw [hin zs hd]
 rfl
@[go_sem] theorem UT (h):ah h [] []=some ([],h,[]):=_root_.id rfl
@[go_sem] theorem T5 (h a l):ah h [] (a::l)=(bM h 0 a).bind fun p=>(ah p.2.1 [] l).bind fun q=>some (p.1::q.1,q.2.1,p.2.2++q.2.2):=_root_.id rfl
@[go_sem] theorem aa7 (h x):bM h 0 (.v x)=some (.v x,h,[]):=_root_.id rfl
@[go_sem] theorem Xn (h):bM h 0 .emp=some (.emp,h,[]):=_root_.id rfl
@[go_sem] theorem YR (h k r):bM h 0 (.sl k r)=some (.sl k r,h,[]):=_root_.id rfl
@[go_sem] theorem YS (h f a b):bM h 0 (.fn f a b)=some (.fn f a b,h,[]):=_root_.id rfl
@[go_sem] theorem Xo (h a b c d):bM h 0 (.ref a none b c d)=some (.ref a none b c d,h,[]):=_root_.id rfl
@[go_sem] theorem Xp (h cs):bM h 0 (.ipt cs)=some (.ipt cs,h,[]):=_root_.id rfl
@[go_sem] theorem Xq (h id k lo n):bM h 0 (.rsl id none k lo n)=jf h id k lo n (h id):=_root_.id rfl
@[go_sem] theorem UU (h id p k lo n):bM h 0 (.rsl id (some p) k lo n)=wj h id p k lo n (h id):=_root_.id rfl
@[go_sem] theorem Xr (h cs):bM h 0 (.agg cs)=(dB h cs).bind fun p=>some (.agg p.1,p.2):=_root_.id rfl
@[go_sem] theorem aa8 (h d x):gY h d (some (.v x,[]))=if cx h (2000+8*d) 1=true then some (.v x,h,[]) else none:=by
 simp [gY,cf,ey,cZ,aJ,aO,mat,bU]
@[go_sem] theorem Nx (h d k r):gY h d (some (.sl k r,[]))=if cx h (2000+8*d) 1=true then some (.sl k r,h,[]) else none:=by
 simp [gY,cf,ey,cZ,aJ,aO,mat,bU]
@[go_sem] theorem Xs (h d cs) (hd:cs.all ak=true):gY h d (some (.agg cs,[]))=if cx h (2000+8*d) 1=true then some (.agg cs,h,[]) else none:=by
 have:cs.all (aO [])=true:=by
  rw [List.all_eq_true] at hd ⊢
  intro c hc
  have:=hd c hc
  cases c <;> simp [ak] at this <;> simp [aO,this]
 simp only [gY,cf,ey,cZ,aJ,mat,bU,this,and_true]
 simp
@[go_sem] theorem Xt (h d vs) (h8:vs.length≤8) (hd:vs.all dat=true):gY h d (some (.tup vs,[]))=if cx h (2000+8*d) vs.length=true then some (.tup vs,h,[]) else none:=by
 have h1:vs.all (cZ [])=true:=by
  rw [List.all_eq_true] at hd ⊢
  intro c hc
  have:=hd c hc
  cases c <;> simp only [dat] at this <;> simp only [cZ,aJ] <;> try (simp [ak] at this <;> simp [aO,this]; done)
  rename_i cs
  rw [List.all_eq_true] at this ⊢
  intro c hc
  have:=this c hc
  cases c <;> simp [ak] at this <;> simp [aO,this]
 have h2:∀ (l:List AV) (n:Nat) (g:aa),l.all dat=true→bp n g l=(l,g):=by
  intro l
  induction l with
  | nil=>intro n g _; rfl
  | cons c l ih =>
   intro n g hd
   simp only [List.all_cons,Bool.and_eq_true] at hd
   have hc:bU n g c=(c,g):=by
    have:=hd.1
    cases c <;> simp only [dat,ak] at this <;> first | rfl | (cases this; done)
   simp only [bp,hc,ih _ _ hd.2]
 simp only [gY,cf,ey,h1,mat,h2 vs _ _ hd,h8,true_and,and_true]
@[go_sem] theorem Xu (h d k r):gY h d (some (.osl k r,[]))=if cx h (2000+8*d) 1=true then some (.rsl (2000+8*d) none k 0 r.length,upd h (2000+8*d) (.ar k r),[]) else none:=by
 simp [gY,cf,ey,cZ,mat,bU]
@[go_sem] theorem UV (h n):cx h n 0=true:=_root_.id rfl
@[go_sem] theorem UW (h n m):cx h n (m+1)=(cD (h n) && cx h (n+1) m):=_root_.id rfl
@[go_sem] theorem T6:cD .dead=true:=_root_.id rfl
def bA (call:cT) (md:Mode) (ps:List (Nat × Nat)):List Fp→List COp→af→aa→Option St
 | acc,[],s,h=>if ps.all (nF acc)=true then some ⟨s,h⟩ else none
 | acc,o::rest,s,h=>(cj call md o s h).bind fun r=>bA call md ps (acc++[r.2]) rest r.1.s r.1.h
theorem IF (ps:List (Nat × Nat)):∀ (l:List COp) (acc:List Fp) (s:af) (h:aa),bA call md ps acc l s h=(dA call md l s h).bind fun r=>if ps.all (nF (acc++r.2))=true then some r.1 else none
 | [],acc,s,h=>by simp only [bA,dA,Option.bind_some,List.append_nil]
 | o::l,acc,s,h=>by
  simp only [bA,dA]
  cases cj call md o s h with
  | none=>rfl
  | some r =>
   simp only [Option.bind_some]
   rw [IF ps l]
   cases dA call md l r.1.s r.1.h with
   | none=>rfl
   | some q=>simp only [Option.bind_some,List.append_assoc,List.singleton_append]
@[go_sem] theorem Xv:pQ []=none:=_root_.id rfl
@[go_sem] theorem UX (p g l):pQ ((p,g)::l)=if 1000000≤p then some (p - 1000000,g) else none:=_root_.id rfl
theorem F0 (l ps):pW call md l ps s h=bA call md ps [] l s h:=by
 rw [IF]
 rfl
theorem PI (ps) (l:List COp) (h0:pQ ps=none):jJ call md l ps s h=bA call md ps [] l s h:=by
 unfold jJ
 rw [h0]
 exact F0 l ps
def Ny (call:cT) (md:Mode) (m g:Nat) (ps:List (Nat × Nat)) (l:List COp) (s:af) (h:aa):Option St :=
 aK (bA call md ps [] (l.take m) s h) fun s h=>aK (kO md.nm g s h) (am call md (l.drop m))
@[go_sem] theorem YT (l ps):jJ call md l ps s h=match pQ ps with
  | some q=>Ny call md q.1 q.2 ps.tail l s h
  | none=>bA call md ps [] l s h:=by
 cases hb:pQ ps with
 | none=>exact PI ps l hb
 | some q =>
  unfold jJ
  rw [hb]
  simp only [Ny,ur]
  rw [← F0 _ _,pW]
  cases dA call md (l.take q.1) s h with
  | none=>rfl
  | some r =>
   simp only [Option.bind_some]
   split <;> rfl
def eA (call:cT) (md:Mode) (ps:List (Nat × Nat)) (acc:List Fp) (rest:List COp) (s:af) (d:Option Nat) (f:aa→Fp):Option R3→Option St
 | some (x,h,[])=>bA call md ps (acc++[f h]) rest (cr s d x) h
 | _=>none
theorem cH (ps acc) (o:COp) (rest) (hg:o.g=none):bA call md ps acc (o::rest) s h=eA call md ps acc rest s o.d (dh (o.d.getD 0) o.op s h) (step call md (o.d.getD 0) o.op s h):=by
 simp only [bA,cj,hg,fh]
 cases step call md (o.d.getD 0) o.op s h with
 | none=>rfl
 | some r =>
  obtain ⟨x,h',ks⟩:=r
  cases ks <;> rfl
@[go_sem] theorem YV (ps acc):bA call md ps acc [] s h=if ps.all (nF acc)=true then some ⟨s,h⟩ else none:=_root_.id rfl
@[go_sem] theorem xP (ps acc d op rest):bA call md ps acc (co d op::rest) s h=(dp s op).bind fun a=>bA call md ps (acc++[some ([],[])]) rest (upd s d a) h:=by
 rw [cH _ _ _ _ rfl]
 simp only [co,step,ri]
 cases dp s op <;> rfl
@[go_sem] theorem aa9 (ps acc d n rest):bA call md ps acc (cm d n::rest) s h=bA call md ps (acc++[some ([],[])]) rest (upd s d (s n)) h:=xP ps acc d (.mv (.t n)) rest
@[go_sem] theorem Xw (ps acc d k g x rest):bA call md ps acc (⟨some d,none,.load k g x⟩::rest) s h=eA call md ps acc rest s (some d) (fun _=>lk (ev s x)) (dU h k g (ev s x)):=cH _ _ _ _ rfl
@[go_sem] theorem UY (ps acc d k x y rest):bA call md ps acc (⟨d,none,.store k x y⟩::rest) s h=eA call md ps acc rest s d (fun _=>pP (ev s y) (ev s x)) (fJ h k (ev s x) (ev s y)):=cH _ _ _ _ rfl
@[go_sem] theorem Xx (ps acc d f zas rest):bA call md ps acc (⟨some d,none,.call f zas⟩::rest) s h=eA call md ps acc rest s (some d) (dO h d (il (zas.map (ev s)) (ev s f))) (ai call md h d (zas.map (ev s)) (ev s f)):=cH _ _ _ _ rfl
@[go_sem] theorem UZ (ps acc d z rest):bA call md ps acc (⟨some d,none,.alloc z⟩::rest) s h=eA call md ps acc rest s (some d) (fun _=>some ([],[bB d])) (fK h d z []):=cH _ _ _ _ rfl
@[go_sem] theorem YW (ps acc d k x rest):bA call md ps acc (⟨some d,none,.box k x⟩::rest) s h=eA call md ps acc rest s (some d) (fun _=>if dat (ev s x)=true then some ([],[bB d]) else none) (rg h d k (ev s x)):=cH _ _ _ _ rfl
@[go_sem] theorem RG (ps acc d k z n qs rest):bA call md ps acc (⟨some d,none,.buildSl k z n qs⟩::rest) s h=eA call md ps acc rest s (some d) (fun _=>if (qs.all fun p=>dat (ev s p.2))=true then some ([],[bB d]) else none) ((cY k h (List.replicate n z) (qs.map fun p=>(p.1,ev s p.2))).bind fun q=>bO q.2.1 d k q.1 n q.2.2):=cH _ _ _ _ rfl
@[go_sem] theorem aba (ps acc d op a b rest):bA call md ps acc (b2 d op a b::rest) s h=(dI op (s a) (s b)).bind fun a=>bA call md ps (acc++[some ([],[])]) rest (upd s d a) h:=xP ps acc d (.bin op (.t a) (.t b)) rest
@[go_sem] theorem abb (ps acc d k a rest):bA call md ps acc (fa d k a::rest) s h=(pM k (s a)).bind fun a=>bA call md ps (acc++[some ([],[])]) rest (upd s d a) h:=xP ps acc d (.fadr k (.t a)) rest
@[go_sem] theorem abc (ps acc d a rest):bA call md ps acc (nk d a::rest) s h=(wg (s a)).bind fun a=>bA call md ps (acc++[some ([],[])]) rest (upd s d a) h:=xP ps acc d (.nilck (.t a)) rest
@[go_sem] theorem abd (ps acc d k a rest):bA call md ps acc (ld d k a::rest) s h=eA call md ps acc rest s (some d) (fun _=>lk (s a)) (dU h k false (s a)):=cH _ _ _ _ rfl
@[go_sem] theorem abe (ps acc d k a rest):bA call md ps acc (la d k a::rest) s h=eA call md ps acc rest s (some d) (fun _=>lk (s a)) (dU h k true (s a)):=cH _ _ _ _ rfl
@[go_sem] theorem abf (ps acc d f zas rest):bA call md ps acc (ca d f zas::rest) s h=eA call md ps acc rest s (some d) (dO h d (il (zas.map (ev s)) (.fn f [] []))) (ai call md h d (zas.map (ev s)) (.fn f [] [])):=cH _ _ _ _ rfl
@[go_sem] theorem abg (ps acc k x y rest):bA call md ps acc (sr k x y::rest) s h=eA call md ps acc rest s none (fun _=>pP (ev s y) (ev s x)) (fJ h k (ev s x) (ev s y)):=cH _ _ _ _ rfl
@[go_sem] theorem abh (ps acc d z rest):bA call md ps acc (al d z::rest) s h=eA call md ps acc rest s (some d) (fun _=>some ([],[bB d])) (fK h d z []):=cH _ _ _ _ rfl
@[go_sem] theorem abi (ps acc d k x rest):bA call md ps acc (bx d k x::rest) s h=eA call md ps acc rest s (some d) (fun _=>if dat (ev s x)=true then some ([],[bB d]) else none) (rg h d k (ev s x)):=cH _ _ _ _ rfl
@[go_sem] theorem Xy (ps acc rest s d f x h):eA call md ps acc rest s (some d) f (some (x,h,[]))=bA call md ps (acc++[f h]) rest (upd s d x) h:=_root_.id rfl
@[go_sem] theorem U0 (ps acc rest s f x h):eA call md ps acc rest s none f (some (x,h,[]))=bA call md ps (acc++[f h]) rest s h:=_root_.id rfl
theorem RH (ps acc) (o:COp) (j w rest) (hg:o.g=some (j,w)) {b:Bool} (hb:s j=.v (.bool b)):bA call md ps acc (o::rest) s h =
  if b=w then eA call md ps acc rest s o.d (dh (o.d.getD 0) o.op s h) (step call md (o.d.getD 0) o.op s h) else bA call md ps (acc++[some ([],[])]) rest (cr s o.d .und) h:=by
 simp only [bA,cj,hg,hb,jI]
 split
 ·simp only [fh]
  cases step call md (o.d.getD 0) o.op s h with
  | none=>rfl
  | some r =>
   obtain ⟨x,h',ks⟩:=r
   cases ks <;> rfl
 ·rfl
def F1 (call:cT) (md:Mode) (ps:List (Nat × Nat)) (acc:List Fp) (rest:List COp) (s:af) (h:aa) (d:Option Nat) (w:Bool) (op:AOp):AV→Option St
 | .v (.bool b)=>if b=w then eA call md ps acc rest s d (dh (d.getD 0) op s h) (step call md (d.getD 0) op s h) else bA call md ps (acc++[some ([],[])]) rest (cr s d .und) h
 | .und=>bA call md ps (acc++[some ([],[])]) rest (cr s d .und) h
 | _=>none
@[go_sem] theorem PJ (ps acc d j w op rest):bA call md ps acc (⟨d,some (j,w),op⟩::rest) s h=F1 call md ps acc rest s h d w op (s j):=by
 by_cases hb:∃ b,s j=.v (.bool b)
 ·obtain ⟨b,hb⟩:=hb
  rw [RH ps acc ⟨d,some (j,w),op⟩ j w rest rfl hb,hb]
  rfl
 ·simp only [bA,cj]
  cases hq:s j <;> first | rfl | skip
  rename_i x
  cases x <;> first | rfl | exact absurd ⟨_,hq⟩ hb
@[go_sem] theorem abj (ps acc d j w op rest):bA call md ps acc (cg d j w op::rest) s h=F1 call md ps acc rest s h (some d) w (.p op) (s j):=PJ ps acc (some d) j w (.p op) rest
@[go_sem] theorem adf (ps acc rest s h d op):F1 call md ps acc rest s h (some d) true op (.v (.bool true))=eA call md ps acc rest s (some d) (dh d op s h) (step call md d op s h):=_root_.id rfl
@[go_sem] theorem adg (ps acc rest s h d op):F1 call md ps acc rest s h (some d) false op (.v (.bool false))=eA call md ps acc rest s (some d) (dh d op s h) (step call md d op s h):=_root_.id rfl
@[go_sem] theorem adh (ps acc rest s h d op):F1 call md ps acc rest s h (some d) true op (.v (.bool false))=bA call md ps (acc++[some ([],[])]) rest (upd s d .und) h:=_root_.id rfl
@[go_sem] theorem adi (ps acc rest s h d op):F1 call md ps acc rest s h (some d) false op (.v (.bool true))=bA call md ps (acc++[some ([],[])]) rest (upd s d .und) h:=_root_.id rfl
@[go_sem] theorem abk (ps acc rest s h d w op):F1 call md ps acc rest s h (some d) w op .und=bA call md ps (acc++[some ([],[])]) rest (upd s d .und) h:=_root_.id rfl
@[go_sem] theorem aed (d op h'):dh d (.p op) s h h'=some ([],[]):=_root_.id rfl
@[go_sem] theorem abl (d k g x h'):dh d (.load k g x) s h h'=lk (ev s x):=_root_.id rfl
@[go_sem] theorem abm (d f zas h'):dh d (.call f zas) s h h'=dO h d (il (zas.map (ev s)) (ev s f)) h':=_root_.id rfl
@[go_sem] theorem YX (d z h'):dh d (.alloc z) s h h'=some ([],[bB d]):=_root_.id rfl
@[go_sem] theorem adj (d k x h'):dh d (.box k x) s h h'=if dat (ev s x)=true then some ([],[bB d]) else none:=_root_.id rfl
@[go_sem] theorem U1 (cs):lk (.ipt cs)=some ([],[]):=_root_.id rfl
@[go_sem] theorem T7 (id k i j):lk (.ref id none k i j)=some ([bB id],[]):=_root_.id rfl
@[go_sem] theorem T8 (id p k i j):lk (.ref id (some p) k i j)=some ([bB id],[]):=_root_.id rfl
@[go_sem] theorem Xz (y id sub k i j):pP y (.ref id sub k i j)=if dat y=true then some ([bB id],[bB id]) else none:=_root_.id rfl
@[go_sem] theorem adk (i):bB i=if i < 2000 then i else i - i % 8:=_root_.id rfl
@[go_sem] theorem XA (l f a b):il l (.fn f a b)=a++l++b:=_root_.id rfl
@[go_sem] theorem Lz (h d l h'):dO h d l h'=if l.all dat=true then some ([],[2000+8*d]) else if l.all lO=true then some ((bJ h 40 (bo [] (l.flatMap bk)) 0).map bB,(wn h h' (bJ h 40 (bo [] (l.flatMap bk)) 0)).map bB++[2000+8*d]) else none:=_root_.id rfl
@[go_sem] theorem U2 (l i j):nF l (i,j)=(match l[i]?,l[j]? with | some a,some b=>fw a b | _,_=>false):=_root_.id rfl
@[go_sem] theorem YY (a b):fw (some a) (some b)=(jg a.2 (b.1++b.2) && jg b.2 a.1):=_root_.id rfl
@[go_sem] theorem YZ (b):fw none (some b)=(b.1.isEmpty && b.2.isEmpty):=_root_.id rfl
@[go_sem] theorem Y0 (a):fw (some a) none=(a.1.isEmpty && a.2.isEmpty):=_root_.id rfl
@[go_sem] theorem Y3 (b):jg [] b=true:=_root_.id rfl
@[go_sem] theorem XB (a l b):jg (a::l) b=(!b.contains a && jg l b):=_root_.id rfl
@[go_sem] theorem U3 (a:Nat):[].contains a=false:=_root_.id rfl
@[go_sem] theorem T9 (a b:Nat) (l:List Nat):(b::l).contains a=(a == b || l.contains a):=by rw [List.contains_cons]
@[go_sem] theorem Y4 (s d x h p l):bK false s (some d) (some (x,h,p::l))=some ⟨upd (eG (p::l) s) d x,h⟩:=_root_.id rfl
@[go_sem] theorem XC (s x h p l):bK false s none (some (x,h,p::l))=some ⟨eG (p::l) s,h⟩:=_root_.id rfl
@[go_sem] theorem abn (p l s) (i:Nat):eG (p::l) s i=mf (p::l) (s i):=_root_.id rfl
@[go_sem] theorem ad4 (ks x):mf ks (.v x)=.v x:=_root_.id rfl
@[go_sem] theorem abo (ks):mf ks .any=.any:=_root_.id rfl
@[go_sem] theorem abp (ks):mf ks .und=.und:=_root_.id rfl
@[go_sem] theorem abq (ks):mf ks .emp=.emp:=_root_.id rfl
@[go_sem] theorem adl (ks k r):mf ks (.sl k r)=.sl k r:=_root_.id rfl
@[go_sem] theorem abr (ks cs):mf ks (.ipt cs)=.ipt cs:=_root_.id rfl
@[go_sem] theorem abt (ks f):mf ks (.fn f [] [])=.fn f [] []:=_root_.id rfl
@[go_sem] theorem abu (ks id sub k lo n):mf ks (.rsl id sub k lo n)=if dT ks id sub=true then .any else .rsl id sub k lo n:=_root_.id rfl
@[go_sem] theorem abv (ks id sub k lo n):mf ks (.ref id sub k lo n)=if dT ks id sub=true then .any else .ref id sub k lo n:=_root_.id rfl
@[go_sem] theorem abw (ks cs):mf ks (.agg cs)=if cs.any (jD ks)=true then .any else .agg cs:=_root_.id rfl
@[go_sem] theorem adm (ks f a b):mf ks (.fn f a b)=if (a.any (jD ks) || b.any (jD ks))=true then .any else .fn f a b:=_root_.id rfl
@[go_sem] theorem abx (ks vs):mf ks (.tup vs)=if vs.any (sB ks)=true then .any else .tup vs:=_root_.id rfl
@[go_sem] theorem adn (ks x):sB ks (.v x)=false:=_root_.id rfl
@[go_sem] theorem aby (ks k r):sB ks (.sl k r)=false:=_root_.id rfl
@[go_sem] theorem ado (ks x):jD ks (.v x)=false:=_root_.id rfl
@[go_sem] theorem Y5 (ks):jD ks .emp=false:=_root_.id rfl
@[go_sem] theorem abz (ks k r):jD ks (.sl k r)=false:=_root_.id rfl
@[go_sem] theorem Y6 (ks id sub k i j):jD ks (.ref id sub k i j)=dT ks id sub:=_root_.id rfl
@[go_sem] theorem Y7 (id sub):dT [] id sub=false:=_root_.id rfl
@[go_sem] theorem Y8 (a:Nat) (b:Bool) (l:K) (id:Nat) (sub:Option Nat):dT ((a,b)::l) id sub=((a == id && (!b || sub.isSome)) || dT l id sub):=by simp [dT]
@[go_sem] theorem RI {α:Type}:(none:Option α).isSome=false:=_root_.id rfl
@[go_sem] theorem RJ {α:Type} (a:α):(some a).isSome=true:=_root_.id rfl
@[go_sem] theorem adp (h d k b x y):yM h d k b x y=(lN h k y).bind fun ys=>match x with
 | .emp=>if ys.length*b≤140737488355328 then BO h d k ys else none
 | .rsl id none k' lo n=>E9 h d k b id k' lo n ys (h id)
 | .rsl id (some p) k' lo n=>M3 h d k b id p k' lo n ys (h id)
 | _=>none:=_root_.id rfl
@[go_sem] theorem XD (h k):lN h k .emp=some []:=_root_.id rfl
@[go_sem] theorem Nz (h k r):lN h k (.sl k r)=some r:=by simp [lN]
@[go_sem] theorem XE (h k id sub lo n):lN h k (.rsl id sub k lo n)=dN k lo n (nX h id sub):=by simp [lN]
@[go_sem] theorem Ua (h id):nX h id none=mF (h id):=_root_.id rfl
@[go_sem] theorem XF (k r):mF (.ar k r)=some (k,r):=_root_.id rfl
@[go_sem] theorem XG (k r):mF (.fz k r)=some (k,r):=_root_.id rfl
@[go_sem] theorem RK (k lo n r):dN k lo n (some (k,r))=if lo+n≤r.length then some ((r.drop lo).take n) else none:=by simp [dN]
@[go_sem] theorem abA (h d k b id lo n ys r):E9 h d k b id k lo n ys (.ar k r)=if lo=0∧n=r.length∧(id < 1000∨2000≤id)∧(n+ys.length)*b≤140737488355328 then
   some (.rsl id none k 0 (n+ys.length),upd h id (.ar k (r++ys)),[(id,false)]) else yL h d k b id k lo n ys k r:=by simp [E9]
@[go_sem] theorem Y9 (h d k):BO h d k []=some (.emp,h,[]):=_root_.id rfl
@[go_sem] theorem XH (h d k y ys):BO h d k (y::ys)=bO h d k (y::ys) (ys.length+1) []:=_root_.id rfl
end
def F.l23_PolyValues:FuncId:=4
def F.l23_awake:FuncId:=7
def F.l23_great:FuncId:=8
def F.l23_long:FuncId:=9
def F.poly_Derive:FuncId:=12
def F.poly_Eval:FuncId:=15
def F.r23_Eval:FuncId:=16
def F.l23_number:FuncId:=17
def F.r23_Valid:FuncId:=18
def F.poly_Valid:FuncId:=19
def F.poly_Degree:FuncId:=20
def F.poly_Add:FuncId:=25
def F.poly_Mul:FuncId:=26
def F.poly_Sub:FuncId:=27
def F.l23_variable:FuncId:=28
def F.poly_Text:FuncId:=29
def F.slices_ContainsFunc_api_Poly_api_Poly_:FuncId:=30
def F.l23_great_1:FuncId:=31
def F.slices_ContainsFunc_api_Term_api_Term_:FuncId:=32
def F.l23_great_1_1:FuncId:=33
def F.slices_ContainsFunc_api_Dyadic_api_Dyadic_:FuncId:=34
def F.l23_long_1:FuncId:=35
def F.dyadic_Valid:FuncId:=36
def F.poly_empty:FuncId:=37
def F.dyadic_Mul:FuncId:=38
def F.poly_collector_add:FuncId:=39
def F.poly_collector_done:FuncId:=40
def F.r02_Valid:FuncId:=41
def F.r02_Mul:FuncId:=42
def F.dyadic_Int:FuncId:=43
def F.slices_Clone_int_int_:FuncId:=44
def F.poly_Eval_1:FuncId:=47
def F.poly_times:FuncId:=48
def F.dyadic_Add:FuncId:=49
def F.r23_times:FuncId:=50
def F.r02_Add:FuncId:=51
def F.slices_Equal_uint32_uint32_:FuncId:=52
def F.r23_term:FuncId:=53
def F.r23_Compare:FuncId:=54
def F.slices_ContainsFunc_int_int_:FuncId:=55
def F.poly_Valid_1:FuncId:=56
def F.poly_degree:FuncId:=57
def F.poly_order:FuncId:=58
def F.r23_sum:FuncId:=59
def F.poly_pair:FuncId:=65
def F.slices_Concat_api_Term_api_Term_:FuncId:=66
def F.dyadic_Neg:FuncId:=67
def F.slices_ContainsFunc_string_string_:FuncId:=68
def F.poly_Text_1:FuncId:=69
def F.lex_Name:FuncId:=70
def F.dyadic_Text:FuncId:=71
def F.strconv_Itoa:FuncId:=72
def F.slices_IndexFunc_api_Poly_api_Poly_:FuncId:=73
def F.slices_IndexFunc_api_Term_api_Term_:FuncId:=74
def F.slices_IndexFunc_api_Dyadic_api_Dyadic_:FuncId:=75
def F.dyadic_inRange:FuncId:=76
def F.dyadic_size:FuncId:=77
def F.natural_Mul:FuncId:=78
def F.dyadic_checked:FuncId:=79
def F.dyadic_canonical:FuncId:=80
def F.slices_BinarySearchFunc_api_Term_api_Term_Sint_:FuncId:=81
def F.poly_collector_add_1:FuncId:=82
def F.slices_Insert_api_Term_api_Term_:FuncId:=83
def F.poly_copied:FuncId:=84
def F.slices_Delete_api_Term_api_Term_:FuncId:=85
def F.r02_bits:FuncId:=86
def F.r02_Checked:FuncId:=87
def F.r02_Product:FuncId:=88
def F.r02_Of:FuncId:=89
def F.dyadic_sum:FuncId:=90
def F.r02_Sum:FuncId:=91
def F.slices_IndexFunc_int_int_:FuncId:=92
def F.cmp_Compare_int_:FuncId:=93
def F.slices_Compare_int_int_:FuncId:=94
def F.slices_Grow_api_Term_api_Term_:FuncId:=97
def F.slices_Clone_uint32_uint32_:FuncId:=98
def F.slices_IndexFunc_string_string_:FuncId:=99
def F.lex_word:FuncId:=100
def F.lex_Keyword:FuncId:=101
def F.natural_Text:FuncId:=102
def F.strings_Builder_WriteString:FuncId:=104
def F.strings_Builder_String:FuncId:=105
def F.internal_strconv_Itoa:FuncId:=106
def F.natural_Bits:FuncId:=107
def F.natural_long:FuncId:=108
def F.natural_done:FuncId:=109
def F.natural_mul:FuncId:=110
def F.natural_trim:FuncId:=111
def F.dyadic_trimmed:FuncId:=112
def F.dyadic_low:FuncId:=113
def F.natural_Shr:FuncId:=114
def F.slices_Clip_uint32_uint32_:FuncId:=115
def F.slices_overlaps_api_Term_:FuncId:=116
def F.slices_rotateRight_api_Term_:FuncId:=117
def F.r02_times:FuncId:=118
def F.r02_trim:FuncId:=119
def F.r02_zeros:FuncId:=120
def F.r02_right:FuncId:=121
def F.dyadic_Top:FuncId:=122
def F.dyadic_shifted:FuncId:=123
def F.natural_Add:FuncId:=124
def F.natural_Cmp:FuncId:=125
def F.natural_Sub:FuncId:=126
def F.r02_left:FuncId:=127
def F.r02_plus:FuncId:=128
def F.r02_compare:FuncId:=129
def F.r02_minus:FuncId:=130
def F.cmp_isNaN_int_:FuncId:=131
def F.lex_class:FuncId:=132
def F.natural_short:FuncId:=133
def F.strconv_FormatUint:FuncId:=134
def F.strings_Repeat:FuncId:=135
def F.slices_Reverse_string_string_:FuncId:=136
def F.strings_Join:FuncId:=137
def F.strings_Builder_copyCheck:FuncId:=138
def F.internal_strconv_FormatInt:FuncId:=139
def F.bits_Len32:FuncId:=140
def F.slices_ContainsFunc_Suint32_Suint32_:FuncId:=141
def F.natural_long_1:FuncId:=142
def F.bits_TrailingZeros32:FuncId:=143
def F.natural_shr:FuncId:=144
def F.slices_rotateLeft_api_Term_:FuncId:=145
def F.natural_Shl:FuncId:=146
def F.natural_add:FuncId:=147
def F.natural_sub:FuncId:=148
def F.strings_IndexByte:FuncId:=149
def F.bits_Div32:FuncId:=150
def F.internal_strconv_FormatUint:FuncId:=151
def F.bits_Mul:FuncId:=152
def F.strings_HasPrefix:FuncId:=153
def F.strings_Builder_Grow:FuncId:=154
def F.strings_Builder_Len:FuncId:=155
def F.internal_abi_NoEscape:FuncId:=156
def F.internal_strconv_small:FuncId:=157
def F.internal_strconv_numDigits:FuncId:=158
def F.internal_strconv_formatBase10:FuncId:=159
def F.internal_strconv_formatBits:FuncId:=160
def F.slices_IndexFunc_Suint32_Suint32_:FuncId:=161
def F.slices_Reverse_api_Term_api_Term_:FuncId:=162
def F.natural_shl:FuncId:=163
def F.bits_Add32:FuncId:=164
def F.bits_Sub32:FuncId:=165
def F.internal_stringslite_IndexByte:FuncId:=166
def F.bits_Mul32:FuncId:=167
def F.bits_Mul64:FuncId:=168
def F.internal_stringslite_HasPrefix:FuncId:=169
def F.strings_Builder_grow:FuncId:=170
def F.internal_strconv_log10Pow2:FuncId:=171
def F.bits_Len64:FuncId:=172
def F.internal_strconv_bool2_int_:FuncId:=173
def F.internal_strconv_isPowerOfTwo:FuncId:=174
def F.bits_TrailingZeros:FuncId:=175
def F.internal_bytealg_IndexByteString:FuncId:=176
def F.internal_bytealg_MakeNoZero:FuncId:=177
def F.bits_TrailingZeros64:FuncId:=178
end Go.Ab
