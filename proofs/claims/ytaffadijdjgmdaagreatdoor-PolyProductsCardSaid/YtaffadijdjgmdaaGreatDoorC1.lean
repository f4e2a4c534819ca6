/-
  A law of polynomials holds at every input that the statement speaks of, under the conditions that its card names. Part C1.
-/
import Derived.Test.YtaffadijdjgmdaaGreatDoorB1
namespace Go.Ab
open Go
section
variable {call:cT} {md:Mode} {s:af} {h:aa}
@[go_sem] theorem acd:az call md .skip s h=some (.normal,⟨s,h⟩):=_root_.id rfl
@[go_sem] theorem adI (ks l):az call md (.ops ks l) s h=aK (am call md l s h) fun s h=>some (.normal,⟨mk .any s ks,h⟩):=_root_.id rfl
@[go_sem] theorem adJ (is a):az call md (.frz is a) s h=aK (o5 md.nm is s h) (az call md a):=_root_.id rfl
@[go_sem] theorem ace (ks l ps):az call md (.dops ks l ps) s h=aK (jG call md l ps s h) fun s h=>some (.normal,⟨mk .any s ks,h⟩):=_root_.id rfl
@[go_sem] theorem Uc (a b):az call md (.seq a b) s h=dD (az call md a s h) (az call md b):=_root_.id rfl
@[go_sem] theorem acf (c a b):az call md (.cond c a b) s h=jH (az call md a s h) (az call md b s h) (ev s c):=_root_.id rfl
@[go_sem] theorem ZR (id ks a):az call md (.block id ks a) s h=aI id ks (az call md a s h):=_root_.id rfl
@[go_sem] theorem acg (ks hs a):az call md (.loop ks hs a) s h=aU (az call md a) ks hs s h:=_root_.id rfl
@[go_sem] theorem ach (i):az call md (.exit i) s h=some (.exit i,⟨s,h⟩):=_root_.id rfl
@[go_sem] theorem adK:az call md .ret s h=some (.ret,⟨s,h⟩):=_root_.id rfl
@[go_sem] theorem Rn (s h f):dD (some (.normal,⟨s,h⟩)) f=f s h:=_root_.id rfl
@[go_sem] theorem Ud (i t f):dD (some (.exit i,t)) f=some (.exit i,t):=_root_.id rfl
@[go_sem] theorem Wa (t f):dD (some (.ret,t)) f=some (.ret,t):=_root_.id rfl
@[go_sem] theorem TM (id ks i t):aI id ks (some (.exit i,t))=if i=id then some (.normal,⟨mk .any t.s ks,t.h⟩) else some (.exit i,t):=_root_.id rfl
@[go_sem] theorem QO (id ks t):aI id ks (some (.normal,t))=some (.normal,⟨mk .any t.s ks,t.h⟩):=_root_.id rfl
@[go_sem] theorem Ue (id ks t):aI id ks (some (.ret,t))=some (.ret,t):=_root_.id rfl
@[go_sem] theorem Uf (a b):jH a b (.v (.bool true))=a:=_root_.id rfl
@[go_sem] theorem TN (a b):jH a b (.v (.bool false))=b:=_root_.id rfl
@[go_sem] theorem Ro (g t):EJ g (some (.normal,t))=g t.s t.h:=_root_.id rfl
@[go_sem] theorem Ug (g i t):EJ g (some (.exit i,t))=some (.exit i,t):=_root_.id rfl
@[go_sem] theorem Wb (g t):EJ g (some (.ret,t))=some (.ret,t):=_root_.id rfl
@[go_sem] theorem Uh {β:Type} (s h) (f:af→aa→Option β):aK (some ⟨s,h⟩) f=f s h:=_root_.id rfl
@[go_sem] theorem Wc {β:Type} (c:Prop) [Decidable c] (x y:Option St) (f:af→aa→Option β):aK (if c then x else y) f=if c then aK x f else aK y f:=by split <;> rfl
@[go_sem] theorem Wd (c:Prop) [Decidable c] (x y:Option (Ex × St)) (f:af→aa→Option (Ex × St)):dD (if c then x else y) f=if c then dD x f else dD y f:=by split <;> rfl
@[go_sem] theorem ZS:am call md [] s h=some ⟨s,h⟩:=_root_.id rfl
@[go_sem] theorem AM (d op rest):am call md (⟨some d,none,.p op⟩::rest) s h=(dp s op).bind fun a=>am call md rest (upd s d a) h:=by
 simp only [am,fU,step,re]
 cases dp s op with
 | none=>rfl
 | some a=>simp only [Option.map_some,bK,iG,if_true]; rfl
def cm (d n:Nat):COp:=⟨some d,none,.p (.mv (.t n))⟩
def co (d:Nat) (op:POp):COp:=⟨some d,none,.p op⟩
def cg (d j:Nat) (w:Bool) (op:POp):COp:=⟨some d,some (j,w),.p op⟩
@[go_sem] theorem aci (d n rest):am call md (cm d n::rest) s h=am call md rest (upd s d (s n)) h:=AM d (.mv (.t n)) rest
@[go_sem] theorem acj (d op rest):am call md (co d op::rest) s h=(dp s op).bind fun a=>am call md rest (upd s d a) h:=AM d op rest
@[go_sem] theorem ack (d j w op rest):am call md (cg d j w op::rest) s h=aK (ft (some d) w ((dp s op).map fun a=>⟨upd s d a,h⟩) s h (s j)) (am call md rest):=by
 have:bK md.nm s (some d) (step call md d (.p op) s h)=(dp s op).map fun a=>⟨upd s d a,h⟩:=by
  simp only [step,re]
  cases dp s op with
  | none=>rfl
  | some a=>simp only [Option.map_some,bK,iG,if_true]; rfl
 show aK (ft (some d) w (bK md.nm s (some d) (step call md d (.p op) s h)) s h (s j)) _=_
 rw [this]
def b2 (d:Nat) (op:BinOp) (a b:Nat):COp:=⟨some d,none,.p (.bin op (.t a) (.t b))⟩
def fa (d k a:Nat):COp:=⟨some d,none,.p (.fadr k (.t a))⟩
def nk (d a:Nat):COp:=⟨some d,none,.p (.nilck (.t a))⟩
def ld (d k a:Nat):COp:=⟨some d,none,.load k false (.t a)⟩
def la (d k a:Nat):COp:=⟨some d,none,.load k true (.t a)⟩
def ca (d f:Nat) (zas:List Opd):COp:=⟨some d,none,.call (.c (.fn f [] [])) zas⟩
def sr (k:Nat) (x y:Opd):COp:=⟨none,none,.store k x y⟩
def al (d:Nat) (z:List AV):COp:=⟨some d,none,.alloc z⟩
def bx (d k:Nat) (x:Opd):COp:=⟨some d,none,.box k x⟩
@[go_sem] theorem acl (d op a b rest):am call md (b2 d op a b::rest) s h=(dI op (s a) (s b)).bind fun a=>am call md rest (upd s d a) h:=AM d (.bin op (.t a) (.t b)) rest
@[go_sem] theorem acm (d k a rest):am call md (fa d k a::rest) s h=(pI k (s a)).bind fun a=>am call md rest (upd s d a) h:=AM d (.fadr k (.t a)) rest
@[go_sem] theorem acn (d a rest):am call md (nk d a::rest) s h=(vZ (s a)).bind fun a=>am call md rest (upd s d a) h:=AM d (.nilck (.t a)) rest
@[go_sem] theorem aco (d k a rest):am call md (ld d k a::rest) s h=aK (bK md.nm s (some d) (dU h k false (s a))) (am call md rest):=_root_.id rfl
@[go_sem] theorem acp (d k a rest):am call md (la d k a::rest) s h=aK (bK md.nm s (some d) (dU h k true (s a))) (am call md rest):=_root_.id rfl
@[go_sem] theorem acq (d f zas rest):am call md (ca d f zas::rest) s h=aK (bK md.nm s (some d) (ai call md h d (zas.map (ev s)) (.fn f [] []))) (am call md rest):=_root_.id rfl
@[go_sem] theorem acr (k x y rest):am call md (sr k x y::rest) s h=aK (bK md.nm s none (fH h k (ev s x) (ev s y))) (am call md rest):=_root_.id rfl
@[go_sem] theorem acs (d z rest):am call md (al d z::rest) s h=aK (bK md.nm s (some d) (fI h d z [])) (am call md rest):=_root_.id rfl
@[go_sem] theorem act (d k x rest):am call md (bx d k x::rest) s h=aK (bK md.nm s (some d) (qY h d k (ev s x))) (am call md rest):=_root_.id rfl
@[go_sem] theorem adL (d j w op rest):am call md (⟨d,some (j,w),op⟩::rest) s h=aK (ft d w (bK md.nm s d (step call md (d.getD 0) op s h)) s h (s j)) (am call md rest):=_root_.id rfl
@[go_sem] theorem We (d z rest):am call md (⟨some d,none,.alloc z⟩::rest) s h=aK (bK md.nm s (some d) (fI h d z [])) (am call md rest):=_root_.id rfl
@[go_sem] theorem ZT (d k x rest):am call md (⟨some d,none,.box k x⟩::rest) s h=aK (bK md.nm s (some d) (qY h d k (ev s x))) (am call md rest):=_root_.id rfl
@[go_sem] theorem TO (d k z n ps rest):am call md (⟨some d,none,.buildSl k z n ps⟩::rest) s h=aK (bK md.nm s (some d) ((cY k h (List.replicate n z) (ps.map fun p=>(p.1,ev s p.2))).bind fun q=>bO q.2.1 d k q.1 n q.2.2)) (am call md rest):=_root_.id rfl
@[go_sem] theorem XQ (d k z b l c rest):am call md (⟨some d,none,.mkSl k z b l c⟩::rest) s h=aK (bK md.nm s (some d) ((ud (ev s l) (ev s c)).bind fun p=>if p.2*b≤140737488355328 then bO h d k (List.replicate p.1 z) p.1 [] else none)) (am call md rest):=_root_.id rfl
@[go_sem] theorem XR (d k g x rest):am call md (⟨some d,none,.load k g x⟩::rest) s h=aK (bK md.nm s (some d) (dU h k g (ev s x))) (am call md rest):=_root_.id rfl
@[go_sem] theorem Wf (d k x y rest):am call md (⟨d,none,.store k x y⟩::rest) s h=aK (bK md.nm s d (fH h k (ev s x) (ev s y))) (am call md rest):=_root_.id rfl
@[go_sem] theorem ZU (d k b x y rest):am call md (⟨some d,none,.app k b x y⟩::rest) s h=aK (bK md.nm s (some d) (yI h d k b (ev s x) (ev s y))) (am call md rest):=_root_.id rfl
@[go_sem] theorem XS (d f zas rest):am call md (⟨some d,none,.call f zas⟩::rest) s h=aK (bK md.nm s (some d) (ai call md h d (zas.map (ev s)) (ev s f))) (am call md rest):=_root_.id rfl
@[go_sem] theorem Wg (f zas rest):am call md (⟨none,none,.call f zas⟩::rest) s h=aK (bK md.nm s none (ai call md h 0 (zas.map (ev s)) (ev s f))) (am call md rest):=_root_.id rfl
@[go_sem] theorem XT (nm:Bool) (s d x h):bK nm s (some d) (some (x,h,[]))=some ⟨upd s d x,h⟩:=by simp only [bK,iG,if_true]; rfl
@[go_sem] theorem Wh (nm:Bool) (s x h):bK nm s none (some (x,h,[]))=some ⟨s,h⟩:=by simp only [bK,iG,if_true]; rfl
@[go_sem] theorem acu (d op):step call md d (.p op) s h=re h (dp s op):=_root_.id rfl
@[go_sem] theorem Wi (d k g x):step call md d (.load k g x) s h=dU h k g (ev s x):=_root_.id rfl
@[go_sem] theorem Wj (d f zas):step call md d (.call f zas) s h=ai call md h d (zas.map (ev s)) (ev s f):=_root_.id rfl
@[go_sem] theorem Ui (d k x y):step call md d (.store k x y) s h=fH h k (ev s x) (ev s y):=_root_.id rfl
@[go_sem] theorem Uj (d z):step call md d (.alloc z) s h=fI h d z []:=_root_.id rfl
@[go_sem] theorem XU (d k x):step call md d (.box k x) s h=qY h d k (ev s x):=_root_.id rfl
@[go_sem] theorem Rq (d k z n ps):step call md d (.buildSl k z n ps) s h=(cY k h (List.replicate n z) (ps.map fun p=>(p.1,ev s p.2))).bind fun q=>bO q.2.1 d k q.1 n q.2.2:=_root_.id rfl
@[go_sem] theorem Wk (d k z b l c):step call md d (.mkSl k z b l c) s h=(ud (ev s l) (ev s c)).bind fun p=>if p.2*b≤140737488355328 then bO h d k (List.replicate p.1 z) p.1 [] else none:=_root_.id rfl
@[go_sem] theorem Wl (h a):re h (some a)=some (a,h,[]):=_root_.id rfl
@[go_sem] theorem Uk (d st s h):ft d true st s h (.v (.bool true))=st:=_root_.id rfl
@[go_sem] theorem Ul (d st s h):ft d false st s h (.v (.bool false))=st:=_root_.id rfl
@[go_sem] theorem Um (d st s h):ft (some d) true st s h (.v (.bool false))=some ⟨upd s d .und,h⟩:=_root_.id rfl
@[go_sem] theorem Un (d st s h):ft (some d) false st s h (.v (.bool true))=some ⟨upd s d .und,h⟩:=_root_.id rfl
@[go_sem] theorem TP (d w st s h):ft (some d) w st s h .und=some ⟨upd s d .und,h⟩:=_root_.id rfl
@[go_sem] theorem adY (s n):ev s (.t n)=s n:=_root_.id rfl
@[go_sem] theorem adZ (s a):ev s (.c a)=a:=_root_.id rfl
@[go_sem] theorem XV (s):evo s none=none:=_root_.id rfl
@[go_sem] theorem XW (s x):evo s (some x)=some (ev s x):=_root_.id rfl
@[go_sem] theorem acv {α:Type} (s:Nat→α) (d:Nat) (x:α) (i:Nat):upd s d x i=if i=d then x else s i:=_root_.id rfl
@[go_sem] theorem acw {α:Type} (d:α) (f:Nat→α):mk d f []=fun _=>d:=_root_.id rfl
@[go_sem] theorem ZV {α:Type} (d:α) (f:Nat→α) (i l):mk d f (i::l)=upd (mk d f l) i (f i):=_root_.id rfl
@[go_sem] theorem ad0 (x):dp s (.mv x)=some (ev s x):=_root_.id rfl
@[go_sem] theorem acx (c a b):dp s (.pick c a b)=xy (ev s c) (ev s a) (ev s b):=_root_.id rfl
@[go_sem] theorem ZW (x):dp s (.nilck x)=vZ (ev s x):=_root_.id rfl
@[go_sem] theorem acy (n x):dp s (.nilq n x)=xz n (ev s x):=_root_.id rfl
@[go_sem] theorem adM (op x y):dp s (.bin op x y)=dI op (ev s x) (ev s y):=_root_.id rfl
@[go_sem] theorem ad1 (op x):dp s (.un op x)=EU op (ev s x):=_root_.id rfl
@[go_sem] theorem ad2 (k x):dp s (.cv k x)=KP k (ev s x):=_root_.id rfl
@[go_sem] theorem adN (x):dp s (.cv0 x)=Ji (ev s x):=_root_.id rfl
@[go_sem] theorem adO (k x lo hi mx):dp s (.slc k x lo hi mx)=dJ k (ev s x) (evo s lo) (evo s hi) (evo s mx):=_root_.id rfl
@[go_sem] theorem acz (x lo hi):dp s (.slcS x lo hi)=EA (ev s x) (evo s lo) (evo s hi):=_root_.id rfl
@[go_sem] theorem acA (o x):dp s (.fadr o x)=pI o (ev s x):=_root_.id rfl
@[go_sem] theorem adP (o k g x):dp s (.fld o k g x)=EW o k g (ev s x):=_root_.id rfl
@[go_sem] theorem ZX (k x i):dp s (.iadrS k x i)=mA k (ev s x) (ev s i):=_root_.id rfl
@[go_sem] theorem ZY (n k x i):dp s (.iadrA n k x i)=sT n k (ev s x) (ev s i):=_root_.id rfl
@[go_sem] theorem acB (x i):dp s (.idxS x i)=xA (ev s x) (ev s i):=_root_.id rfl
@[go_sem] theorem acC (n k g x i):dp s (.idxA n k g x i)=EB n k g (ev s x) (ev s i):=_root_.id rfl
@[go_sem] theorem adQ (i x):dp s (.ext i x)=EX i (ev s x):=_root_.id rfl
@[go_sem] theorem adR (m x):dp s (.len m x)=i9 m (ev s x):=_root_.id rfl
@[go_sem] theorem adS (m t x y):dp s (.eqc m t x y)=ET m t (ev s x) (ev s y):=_root_.id rfl
@[go_sem] theorem acD (x):dp s (.capp x)=BD (ev s x):=_root_.id rfl
@[go_sem] theorem adT (m x ys):dp s (.mnx m x ys)=sw m (ev s x) (ys.map (ev s)):=_root_.id rfl
@[go_sem] theorem ZZ (z ps):dp s (.build z ps)=(nS z (ps.map fun p=>(p.1,p.2.1,ev s p.2.2))).map .agg:=_root_.id rfl
@[go_sem] theorem adU (f a b):dp s (.mkF f a b)=some (.fn f (a.map (ev s)) (b.map (ev s))):=_root_.id rfl
@[go_sem] theorem Wm (a b):xy (.v (.bool true)) a b=some a:=_root_.id rfl
@[go_sem] theorem Uo (a b):xy (.v (.bool false)) a b=some b:=_root_.id rfl
@[go_sem] theorem XX (id sub k i j):vZ (.ref id sub k i j)=some (.ref id sub k i j):=_root_.id rfl
@[go_sem] theorem XY (cs):vZ (.ipt cs)=some (.ipt cs):=_root_.id rfl
@[go_sem] theorem Z0 (f a b):vZ (.fn f a b)=some (.fn f a b):=_root_.id rfl
theorem iU (op a b):dI op (.v a) (.v b)=(fj op a b).map .v:=_root_.id rfl
@[go_sem] theorem Z3 (k a b):dI .add (.v (.int k a)) (.v (.int k b))=some (.v (.int k (k.wrap (a+b)))):=by simp [iU,fj,kZ]
@[go_sem] theorem Z4 (k a b):dI .sub (.v (.int k a)) (.v (.int k b))=some (.v (.int k (k.wrap (a - b)))):=by simp [iU,fj,kZ]
@[go_sem] theorem Z5 (k a b):dI .mul (.v (.int k a)) (.v (.int k b))=some (.v (.int k (k.wrap (a*b)))):=by simp [iU,fj,kZ]
@[go_sem] theorem Py (k a b):dI .quo (.v (.int k a)) (.v (.int k b))=if b=0 then none else some (.v (.int k (k.wrap (a.tdiv b)))):=by simp only [iU,fj,kZ,if_true]; split <;> rfl
@[go_sem] theorem Ix (k a b):dI .rem (.v (.int k a)) (.v (.int k b))=if b=0 then none else some (.v (.int k (a.tmod b))):=by simp only [iU,fj,kZ,if_true]; split <;> rfl
@[go_sem] theorem Z6 (k a b):dI .and (.v (.int k a)) (.v (.int k b))=some (.v (.int k (k.wrap ((BitVec.ofInt k.bits a &&& BitVec.ofInt k.bits b).toNat)))):=by simp [iU,fj,kZ]
@[go_sem] theorem Rr (k a b):dI .or (.v (.int k a)) (.v (.int k b))=some (.v (.int k (k.wrap ((BitVec.ofInt k.bits a ||| BitVec.ofInt k.bits b).toNat)))):=by simp [iU,fj,kZ]
@[go_sem] theorem Pz (k k' a b):dI .shl (.v (.int k a)) (.v (.int k' b))=if b < 0 then none else some (.v (.int k (k.wrap (a*2 ^ (min b.toNat k.bits))))):=by simp only [iU,fj,MS]; split <;> rfl
@[go_sem] theorem BS (k k' a b):dI .shr (.v (.int k a)) (.v (.int k' b))=if b < 0 then none else some (.v (.int k (a.fdiv (2 ^ (min b.toNat k.bits))))):=by simp only [iU,fj,MT]; split <;> rfl
@[go_sem] theorem Z7 (k a b):dI .lss (.v (.int k a)) (.v (.int k b))=some (B (decide (a < b))):=by simp [iU,fj,kZ]
@[go_sem] theorem Z8 (k a b):dI .leq (.v (.int k a)) (.v (.int k b))=some (B (decide (a≤b))):=by simp [iU,fj,kZ]
@[go_sem] theorem Z9 (k a b):dI .gtr (.v (.int k a)) (.v (.int k b))=some (B (decide (b < a))):=by simp [iU,fj,kZ]
@[go_sem] theorem aaa (k a b):dI .geq (.v (.int k a)) (.v (.int k b))=some (B (decide (b≤a))):=by simp [iU,fj,kZ]
@[go_sem] theorem aab (k a b):dI .eql (.v (.int k a)) (.v (.int k b))=some (B (decide (a=b))):=by simp [iU,fj,kZ]; rfl
@[go_sem] theorem aac (k a b):dI .neq (.v (.int k a)) (.v (.int k b))=some (B (!decide (a=b))):=by simp [iU,fj,kZ,bne]; rfl
@[go_sem] theorem acE (k a):EU .neg (.v (.int k a))=some (.v (.int k (k.wrap (0 - a)))):=_root_.id rfl
@[go_sem] theorem acF (k a):EU .xor (.v (.int k a))=some (.v (.int k (k.wrap ((BitVec.ofInt k.bits (if k.signed then -1 else k.max) ^^^ BitVec.ofInt k.bits a).toNat)))):=_root_.id rfl
@[go_sem] theorem aad (k a b):dI .xor (.v (.int k a)) (.v (.int k b))=some (.v (.int k (k.wrap ((BitVec.ofInt k.bits a ^^^ BitVec.ofInt k.bits b).toNat)))):=by simp [iU,fj,kZ]
@[go_sem] theorem acG (b):EU .not (.v (.bool b))=some (B (!b)):=_root_.id rfl
@[go_sem] theorem acH (k k' n):KP k (.v (.int k' n))=some (.v (.int k (k.wrap n))):=_root_.id rfl
@[go_sem] theorem XZ (o id sub k i j):pI o (.ref id sub k i j)=some (.ref id sub k i (j+o)):=_root_.id rfl
@[go_sem] theorem X1 (o cs):pI o (.ipt cs)=some (.ipt (cs.drop o)):=_root_.id rfl
@[go_sem] theorem aae (o k g cs):EW o k g (.agg cs)=ie k g cs o:=_root_.id rfl
@[go_sem] theorem Wn (k cs o):ie k false cs o=cs[o]?:=_root_.id rfl
@[go_sem] theorem X3 (k cs o):ie k true cs o=if o+k≤cs.length then some (.agg ((cs.drop o).take k)) else none:=_root_.id rfl
@[go_sem] theorem aaf (k rows k' i):mA k (.sl k rows) (.v (.int k' i))=bH rows i:=by simp [mA]
@[go_sem] theorem X4 (k id sub lo n k' i):mA k (.rsl id sub k lo n) (.v (.int k' i))=if 0≤i∧i < n then some (.ref id sub k (lo+i.toNat) 0) else none:=by simp [mA]
@[go_sem] theorem Wo (n k id sub k' a j kk i):sT n k (.ref id sub k' a j) (.v (.int kk i))=if 0≤i∧i < n then some (.ref id sub k' a (j+i.toNat*k)) else none:=_root_.id rfl
@[go_sem] theorem Wp (n k cs kk i):sT n k (.ipt cs) (.v (.int kk i))=if 0≤i∧i < n then some (.ipt (cs.drop (i.toNat*k))) else none:=_root_.id rfl
@[go_sem] theorem aag (i vs):EX i (.tup vs)=vs[i]?:=_root_.id rfl
@[go_sem] theorem acI (k rows):i9 false (.sl k rows)=some (I rows.length):=_root_.id rfl
@[go_sem] theorem aah:i9 false .emp=some (I 0):=_root_.id rfl
@[go_sem] theorem aai (a b c d n):i9 false (.rsl a b c d n)=some (I n):=_root_.id rfl
@[go_sem] theorem aaj (x):i9 true (.v (.string x))=some (I x.size):=_root_.id rfl
@[go_sem] theorem X5 (m a):sw m a []=some a:=_root_.id rfl
@[go_sem] theorem Wq (m a b l):sw m a (b::l)=(BE m a b).bind fun c=>sw m c l:=_root_.id rfl
@[go_sem] theorem aak (k k' x y):BE true (.v (.int k x)) (.v (.int k' y))=some (.v (.int k (if y < x then y else x))):=_root_.id rfl
@[go_sem] theorem aal (k k' x y):BE false (.v (.int k x)) (.v (.int k' y))=some (.v (.int k (if x < y then y else x))):=_root_.id rfl
@[go_sem] theorem X6 (m a b):ET m 0 (.v (.bool a)) (.v (.bool b))=some (B (m != (a == b))):=_root_.id rfl
@[go_sem] theorem Wr (z):nS z []=some z:=_root_.id rfl
@[go_sem] theorem Up (z o k a ps):nS z ((o,k,a)::ps)=(dy a).bind fun cs=>if cs.length=k∧o+k≤z.length then nS (setRow z o cs) ps else none:=_root_.id rfl
@[go_sem] theorem Ws (cs):dy (.agg cs)=some cs:=_root_.id rfl
@[go_sem] theorem aam (x):dy (.v x)=some [.v x]:=_root_.id rfl
@[go_sem] theorem Wt:dy .emp=some [.emp]:=_root_.id rfl
@[go_sem] theorem X7 (k r):dy (.sl k r)=some [.sl k r]:=_root_.id rfl
@[go_sem] theorem Wu (a b c d e):dy (.rsl a b c d e)=some [.rsl a b c d e]:=_root_.id rfl
@[go_sem] theorem Wv (a b c d e):dy (.ref a b c d e)=some [.ref a b c d e]:=_root_.id rfl
@[go_sem] theorem X8 (f a b):dy (.fn f a b)=some [.fn f a b]:=_root_.id rfl
@[go_sem] theorem Uq (r j):setRow r j []=r:=_root_.id rfl
@[go_sem] theorem TQ (r j c cs):setRow r j (c::cs)=setRow (r.set j c) (j+1) cs:=_root_.id rfl
@[go_sem] theorem X9 (h k g cs):dU h k g (.ipt cs)=(ie k g cs 0).map fun a=>(a,h,[]):=_root_.id rfl
@[go_sem] theorem Ya (h k g id k0 i j):dU h k g (.ref id none k0 i j)=pK h k g id k0 i j (h id):=_root_.id rfl
@[go_sem] theorem Yb (h k g id p k0 i j):dU h k g (.ref id (some p) k0 i j)=jB h k g k0 i j (gr p (h id)):=_root_.id rfl
@[go_sem] theorem Yc (h k g id k0 i j cs):pK h k g id k0 i j (.bx cs)=tZ h id (i*k0+j) k g cs:=_root_.id rfl
@[go_sem] theorem Yd (h k g id k0 i j k' rows):pK h k g id k0 i j (.ar k' rows)=jB h k g k0 i j (some (k',rows)):=_root_.id rfl
@[go_sem] theorem Ye (h k g id k0 i j k' rows):pK h k g id k0 i j (.fz k' rows)=jB h k g k0 i j (some (k',rows)):=_root_.id rfl
@[go_sem] theorem Ur (h id p k cs):tZ h id p k false cs=(cs[p]?).map fun c=>(pJ id p c,h,[]):=_root_.id rfl
@[go_sem] theorem Ww (h id p k cs):tZ h id p k true cs=if p+k≤cs.length then (if ((cs.drop p).take k).any aN then some (.agg (((cs.map gD).drop p).take k),upd h id (.bx (cs.map gD)),[(id,true)]) else some (.agg ((cs.drop p).take k),h,[])) else none:=_root_.id rfl
@[go_sem] theorem aan (id p x):pJ id p (.v x)=.v x:=_root_.id rfl
@[go_sem] theorem Wx (id p):pJ id p .emp=.emp:=_root_.id rfl
@[go_sem] theorem Yf (id p k r):pJ id p (.sl k r)=.sl k r:=_root_.id rfl
@[go_sem] theorem Wy (id p a b c d e):pJ id p (.ref a b c d e)=.ref a b c d e:=_root_.id rfl
@[go_sem] theorem Yg (id p f a b):pJ id p (.fn f a b)=.fn f a b:=_root_.id rfl
@[go_sem] theorem Wz (id p k r):pJ id p (.osl k r)=.rsl id (some p) k 0 r.length:=_root_.id rfl
@[go_sem] theorem Us (h k g i j k' rows):jB h k g k' i j (some (k',rows))=(rows[i]?).bind fun row=>(ie k g row j).map fun a=>(a,h,[]):=by simp [jB]
@[go_sem] theorem aao (x):aN (.v x)=false:=_root_.id rfl
@[go_sem] theorem WA:aN .emp=false:=_root_.id rfl
@[go_sem] theorem Yh (k r):aN (.sl k r)=false:=_root_.id rfl
@[go_sem] theorem WB (k r):aN (.osl k r)=true:=_root_.id rfl
@[go_sem] theorem WC (a b c d e):aN (.ref a b c d e)=false:=_root_.id rfl
@[go_sem] theorem Yi (f a b):aN (.fn f a b)=false:=_root_.id rfl
@[go_sem] theorem acJ (x):ak (.v x)=true:=_root_.id rfl
@[go_sem] theorem Yj:ak .emp=true:=_root_.id rfl
@[go_sem] theorem aap (k r):ak (.sl k r)=true:=_root_.id rfl
@[go_sem] theorem Yk (a b c d e):ak (.rsl a b c d e)=false:=_root_.id rfl
@[go_sem] theorem Yl (a b c d e):ak (.ref a b c d e)=false:=_root_.id rfl
@[go_sem] theorem Ym (f):ak (.fn f [] [])=true:=_root_.id rfl
@[go_sem] theorem aaq (cs):dat (.agg cs)=cs.all ak:=_root_.id rfl
@[go_sem] theorem adV (x):dat (.v x)=true:=_root_.id rfl
@[go_sem] theorem aar:dat .emp=true:=_root_.id rfl
@[go_sem] theorem acK (k r):dat (.sl k r)=true:=_root_.id rfl
@[go_sem] theorem aas (a b c d e):dat (.rsl a b c d e)=false:=_root_.id rfl
@[go_sem] theorem aat (a b c d e):dat (.ref a b c d e)=false:=_root_.id rfl
@[go_sem] theorem aau (f):dat (.fn f [] [])=true:=_root_.id rfl
@[go_sem] theorem Yn (h d cs ks):fI h d cs ks=qX h d (.ref d none 0 0 0) (.bx cs) ks (h d):=_root_.id rfl
@[go_sem] theorem WD (h d a o ks):qX h d a o ks .dead=some (a,upd h d o,ks):=_root_.id rfl
@[go_sem] theorem Ut (h d k rows n ks):bO h d k rows n ks=qX h d (.rsl d none k 0 n) (.ar k rows) ks (h d):=_root_.id rfl
@[go_sem] theorem acL (h d k x):qY h d k x=(dy x).bind fun xs=>if xs.length=k then (if xs.all ak then fI h d xs [] else (fI h d (List.replicate k .any) []).bind (MV d 0 xs)) else none:=_root_.id rfl
@[go_sem] theorem Rs (k h rows):cY k h rows []=some (rows,h,[]):=_root_.id rfl
@[go_sem] theorem QP (k h rows i a ps):cY k h rows ((i,a)::ps)=(dy a).bind fun cs=>if cs.length=k∧i < rows.length then (dB h cs).bind fun q=>(cY k q.2.1 (rows.set i q.1) ps).bind fun r=>some (r.1,r.2.1,q.2.2++r.2.2) else none:=_root_.id rfl
@[go_sem] theorem WE (h):dB h []=some ([],h,[]):=_root_.id rfl
@[go_sem] theorem Uu (h a l):dB h (a::l)=(du h a).bind fun p=>(dB p.2.1 l).bind fun q=>some (p.1::q.1,q.2.1,p.2.2++q.2.2):=_root_.id rfl
@[go_sem] theorem acM (h x):du h (.v x)=some (.v x,h,[]):=_root_.id rfl
@[go_sem] theorem Yo (h):du h .emp=some (.emp,h,[]):=_root_.id rfl
@[go_sem] theorem aav (h k r):du h (.sl k r)=some (.sl k r,h,[]):=_root_.id rfl
@[go_sem] theorem aaw (h f):du h (.fn f [] [])=some (.fn f [] [],h,[]):=_root_.id rfl
@[go_sem] theorem Yp (h id k lo n):du h (.rsl id none k lo n)=jc h id k lo n (h id):=_root_.id rfl
@[go_sem] theorem WF (h id p k lo n):du h (.rsl id (some p) k lo n)=wd h id p k lo n (h id):=_root_.id rfl
@[go_sem] theorem aax (h id k lo n rows):jc h id k lo n (.ar k rows)=if lo+n≤rows.length then some (ja k lo n rows,upd h id (.fz k rows),[]) else none:=by simp [jc]
@[go_sem] theorem aay (h id k lo n rows):jc h id k lo n (.fz k rows)=if lo+n≤rows.length then some (ja k lo n rows,h,[]) else none:=by simp [jc]
@[go_sem] theorem aaz (k lo n rows):ja k lo n rows=.sl k ((rows.drop lo).take n):=_root_.id rfl
@[go_sem] theorem WG (h k id k0 i j x):fH h k (.ref id none k0 i j) x=(dy x).bind fun xs=>if xs.length=k then sy h k id k0 i j xs (h id) else none:=_root_.id rfl
@[go_sem] theorem WH (h k id p k0 i j x):fH h k (.ref id (some p) k0 i j) x=(dy x).bind fun xs=>if xs.length=k then (dB h xs).bind fun q=>xB q.2.1 k id p k0 i j q.1 q.2.2 (q.2.1 id) else none:=_root_.id rfl
@[go_sem] theorem aaA (h k id k0 i j xs cs):sy h k id k0 i j xs (.bx cs)=BF h id (i*k0+j) k xs cs:=_root_.id rfl
@[go_sem] theorem aaB (h k id k0 i j xs k' rows):sy h k id k0 i j xs (.ar k' rows)=(dB h xs).bind fun q=>BG q.2.1 id k k0 i j q.1 q.2.2 (q.2.1 id):=_root_.id rfl
@[go_sem] theorem aaC (h id k k0 i j xs ks k' rows):BG h id k k0 i j xs ks (.ar k' rows)=(we k k0 i j xs k' rows).map fun q=>(.und,upd h id (.ar k' q),ks):=_root_.id rfl
@[go_sem] theorem aaD (k k0 i j cs rows):we k k0 i j cs k0 rows=(rows[i]?).bind fun row=>if j+k≤row.length then some (rows.set i (setRow row j cs)) else none:=by simp [we]
@[go_sem] theorem aaE (h id p k xs cs):BF h id p k xs cs=if p+k≤cs.length then (if xs.all ak then some (.und,upd h id (.bx (setRow cs p xs)),if ((cs.drop p).take k).any aN then [(id,true)] else []) else (mD h id p xs.length xs).map fun q=>(.und,q.1,q.2)) else none:=_root_.id rfl
@[go_sem] theorem aaF (hs x):ew hs (.v x)=.v x:=_root_.id rfl
@[go_sem] theorem WI (hs):ew hs .emp=.emp:=_root_.id rfl
@[go_sem] theorem Yq (hs k r):ew hs (.sl k r)=.sl k r:=_root_.id rfl
@[go_sem] theorem WJ (hs):ew hs .any=.any:=_root_.id rfl
@[go_sem] theorem WK (hs cs):ew hs (.ipt cs)=.ipt cs:=_root_.id rfl
@[go_sem] theorem WL (hs id sub k lo n):ew hs (.rsl id sub k lo n)=if hs.contains id then .rsl id sub k lo n else .any:=_root_.id rfl
@[go_sem] theorem WM (hs id sub k lo n):ew hs (.ref id sub k lo n)=if hs.contains id then .ref id sub k lo n else .any:=_root_.id rfl
@[go_sem] theorem WN (hs cs):ew hs (.agg cs)=if cs.all (knownL hs) then .agg cs else .any:=_root_.id rfl
@[go_sem] theorem WO (hs f):ew hs (.fn f [] [])=.fn f [] []:=_root_.id rfl
@[go_sem] theorem Yr (hs f a b):ew hs (.fn f a b)=if a.all (knownL hs) && b.all (knownL hs) then .fn f a b else .any:=_root_.id rfl
@[go_sem] theorem Ys (hs x):knownL hs (.v x)=true:=_root_.id rfl
@[go_sem] theorem Uv (hs):knownL hs .emp=true:=_root_.id rfl
@[go_sem] theorem WP (hs k r):knownL hs (.sl k r)=true:=_root_.id rfl
@[go_sem] theorem Uw (hs id a b c d):knownL hs (.ref id a b c d)=hs.contains id:=_root_.id rfl
@[go_sem] theorem Ru (hs):aA hs .dead=true:=_root_.id rfl
@[go_sem] theorem Ux (hs k r):aA hs (.ar k r)=true:=_root_.id rfl
@[go_sem] theorem Uy (hs k r):aA hs (.fz k r)=true:=_root_.id rfl
@[go_sem] theorem Uz (hs cs):aA hs (.bx cs)=cs.all (eF hs):=_root_.id rfl
@[go_sem] theorem WQ (hs x):eF hs (.v x)=true:=_root_.id rfl
@[go_sem] theorem TR (hs):eF hs .emp=true:=_root_.id rfl
@[go_sem] theorem UA (hs k r):eF hs (.sl k r)=true:=_root_.id rfl
@[go_sem] theorem TS (hs k r):eF hs (.osl k r)=true:=_root_.id rfl
@[go_sem] theorem TT (hs id a b c):eF hs (.ref id none a b c)=hs.contains id:=by simp [eF,aN,aJ,aO]
@[go_sem] theorem TU (hs f):eF hs (.fn f [] [])=true:=_root_.id rfl
@[go_sem] theorem UB {α β:Type} (f:α→β) (a):Option.map f (some a)=some (f a):=_root_.id rfl
@[go_sem] theorem UC {α β:Type} (f:α→β):Option.map f none=none:=_root_.id rfl
@[go_sem] theorem TV {α β:Type} (f:α→Option β) (a):(some a).bind f=f a:=_root_.id rfl
@[go_sem] theorem TW {α β:Type} (f:α→Option β):(none:Option α).bind f=none:=_root_.id rfl
@[go_sem] theorem TY {α:Type} (a b:α):(some a).getD b=a:=_root_.id rfl
@[go_sem] theorem WR {α:Type} (p:α→Bool):[].all p=true:=_root_.id rfl
@[go_sem] theorem UD {α:Type} (p:α→Bool) (a l):(a::l).all p=(p a && l.all p):=_root_.id rfl
@[go_sem] theorem WS {α:Type} (p:α→Bool):[].any p=false:=_root_.id rfl
@[go_sem] theorem UE {α:Type} (p:α→Bool) (a l):(a::l).any p=(p a || l.any p):=_root_.id rfl
@[go_sem] theorem UF {α:Type} (a:α) (l):(a::l)[0]?=some a:=_root_.id rfl
@[go_sem] theorem UG {α:Type} (a:α) (l) (n:Nat):(a::l)[n+1]?=l[n]?:=_root_.id rfl
@[go_sem] theorem WT {α β:Type} (f:α→β):[].map f=[]:=_root_.id rfl
@[go_sem] theorem UH {α β:Type} (f:α→β) (a l):(a::l).map f=f a::l.map f:=_root_.id rfl
@[go_sem] theorem Yt {α β:Type} (f:α→List β):[].flatMap f=[]:=_root_.id rfl
@[go_sem] theorem WU {α β:Type} (f:α→List β) (a l):(a::l).flatMap f=f a++l.flatMap f:=_root_.id rfl
@[go_sem] theorem WV {α:Type} (l:List α):l++[]=l:=List.append_nil l
@[go_sem] theorem WX {α:Type} (l:List α):[]++l=l:=_root_.id rfl
@[go_sem] theorem UI {α:Type} (a:α) (l r):(a::l)++r=a::(l++r):=_root_.id rfl
@[go_sem] theorem WY {α:Type}:([]:List α).length=0:=_root_.id rfl
@[go_sem] theorem UJ {α:Type} (a:α) (l):(a::l).length=l.length+1:=_root_.id rfl
@[go_sem] theorem TZ {α:Type} (l:List α):l.drop 0=l:=_root_.id rfl
@[go_sem] theorem T0 {α:Type} (a:α) (l) (n:Nat):(a::l).drop (n+1)=l.drop n:=_root_.id rfl
@[go_sem] theorem T1 {α:Type} (l:List α):l.take 0=[]:=_root_.id rfl
@[go_sem] theorem T2 {α:Type} (a:α) (l) (n:Nat):(a::l).take (n+1)=a::l.take n:=_root_.id rfl
@[go_sem] theorem Rw {α:Type} (p:α→Bool):[].filter p=[]:=_root_.id rfl
@[go_sem] theorem UK {α:Type} (a b:α) (l):(a::l).set 0 b=b::l:=_root_.id rfl
@[go_sem] theorem UL {α:Type} (a b:α) (l) (n:Nat):(a::l).set (n+1) b=a::l.set n b:=_root_.id rfl
@[go_sem] theorem acN {α:Type} (a:α):List.replicate 0 a=[]:=_root_.id rfl
@[go_sem] theorem acO {α:Type} (a:α):List.replicate 1 a=[a]:=_root_.id rfl
@[go_sem] theorem acP {α:Type} (a:α):List.replicate 2 a=[a,a]:=_root_.id rfl
@[go_sem] theorem acQ {α:Type} (a:α):List.replicate 3 a=[a,a,a]:=_root_.id rfl
@[go_sem] theorem acR {α:Type} (a:α):List.replicate 4 a=[a,a,a,a]:=_root_.id rfl
@[go_sem] theorem acS {α:Type} (a:α):List.replicate 5 a=[a,a,a,a,a]:=_root_.id rfl
@[go_sem] theorem ad3:decide True=true:=_root_.id rfl
@[go_sem] theorem ad4:decide False=false:=_root_.id rfl
@[go_sem] theorem aaG (b:Bool):(true && b)=b:=_root_.id rfl
@[go_sem] theorem aaH (b:Bool):(false && b)=false:=_root_.id rfl
@[go_sem] theorem acT (b:Bool):(true || b)=true:=_root_.id rfl
@[go_sem] theorem acU (b:Bool):(false || b)=b:=_root_.id rfl
@[go_sem] theorem aaI:(!true)=false:=_root_.id rfl
@[go_sem] theorem aaJ:(!false)=true:=_root_.id rfl
@[go_sem] theorem aaK (b:Bool):(b && true)=b:=Bool.and_true b
@[go_sem] theorem ad5:(false=true)=False:=by simp
@[go_sem] theorem adW {α:Type} (a:α):(a=a)=True:=by simp
@[go_sem] theorem acV (p:Prop):(True∧p)=p:=by simp
@[go_sem] theorem aaL (p:Prop):(p∧True)=p:=by simp
@[go_sem] theorem acW (p:Prop):(False∧p)=False:=by simp
@[go_sem] theorem acX:(¬ False)=True:=by simp
@[go_sem] theorem acY:(¬ True)=False:=by simp
@[go_sem] theorem Yu (nm rs res n t):rg nm rs res n (some (.ret,t))=rf nm rs res n t.s t.h:=_root_.id rfl
@[go_sem] theorem T3 (nm rs res n t):rg nm rs res n (some (.normal,t))=rf nm rs res n t.s t.h:=_root_.id rfl
@[go_sem] theorem WZ (nm rs res n s h):rf nm rs res n s h=(nW s h res).bind fun q=>if jE nm q.2.2 then nX rs n q.2.1 q.1 else none:=_root_.id rfl
@[go_sem] theorem acZ (nm:Bool):jE nm []=true:=iG nm
@[go_sem] theorem W0 (s h):nW s h []=some ([],h,[]):=_root_.id rfl
@[go_sem] theorem aaM (s h n l):nW s h (.t n::l)=(nW s h l).bind fun q=>some (Fa q.2.2 (s n)::q.1,q.2.1,q.2.2):=_root_.id rfl
@[go_sem] theorem UM (s h n k g l):nW s h (.cell n k g::l)=(dU h k g (s n)).bind fun p=>(nW (eE p.2.2 s) p.2.1 l).bind fun q=>some (Fa q.2.2 p.1::q.1,q.2.1,p.2.2++q.2.2):=_root_.id rfl
@[go_sem] theorem Yv (a):Fa [] a=a:=_root_.id rfl
@[go_sem] theorem W7 (s):eE [] s=s:=_root_.id rfl
@[go_sem] theorem ac0 (rs h vs):nX rs 0 h vs=if fk ((vs.flatMap bk).filter fun i=>!aG i) then (lM h vs).map fun us=>(kM (aM rs us),[]) else none:=by simp [nX,bS]
@[go_sem] theorem W8 (h):lM h []=some []:=_root_.id rfl
@[go_sem] theorem UN (h a l):lM h (a::l)=(lh h a).bind fun b=>(lM h l).bind fun q=>some (b::q):=_root_.id rfl
@[go_sem] theorem ac1 (h x):lh h (.v x)=some (.v x):=_root_.id rfl
@[go_sem] theorem Yw (h):lh h .emp=some .emp:=_root_.id rfl
@[go_sem] theorem aaN (h k r):lh h (.sl k r)=some (.sl k r):=_root_.id rfl
@[go_sem] theorem Yx (h cs):lh h (.agg cs)=(fW h cs).map .agg:=_root_.id rfl
@[go_sem] theorem Yy (h id k lo n):lh h (.rsl id none k lo n)=if aG id then none else qm k lo n (h id):=_root_.id rfl
@[go_sem] theorem aaO (k lo n rows):qm k lo n (.ar k rows)=if lo+n≤rows.length then (if lo=0∧n=rows.length then some (.osl k rows) else some (ja k lo n rows)) else none:=by simp [qm]
@[go_sem] theorem aaP (k lo n rows):qm k lo n (.fz k rows)=if lo+n≤rows.length then some (ja k lo n rows) else none:=by simp [qm]
@[go_sem] theorem W9 (h):fW h []=some []:=_root_.id rfl
@[go_sem] theorem aaQ (h x l):fW h (.v x::l)=(fW h l).bind fun q=>some (.v x::q):=_root_.id rfl
@[go_sem] theorem Xa (h l):fW h (.emp::l)=(fW h l).bind fun q=>some (.emp::q):=_root_.id rfl
@[go_sem] theorem Yz (h k r l):fW h (.sl k r::l)=(fW h l).bind fun q=>some (.sl k r::q):=_root_.id rfl
@[go_sem] theorem Xb (h id k lo n l):fW h (.rsl id none k lo n::l)=(fV h (.rsl id none k lo n)).bind fun b=>(qn b).bind fun c=>(fW h l).bind fun q=>some (c::q):=_root_.id rfl
@[go_sem] theorem YA (h id k lo n):fV h (.rsl id none k lo n)=if aG id then none else qm k lo n (h id):=_root_.id rfl
@[go_sem] theorem YB (k r):qn (.osl k r)=some (.sl k r):=_root_.id rfl
@[go_sem] theorem aaR (k r):qn (.sl k r)=some (.sl k r):=_root_.id rfl
@[go_sem] theorem aaS (a):kM [a]=a:=_root_.id rfl
@[go_sem] theorem aaT (a b l):kM (a::b::l)=.tup (a::b::l):=_root_.id rfl
@[go_sem] theorem aaU:kM []=.tup []:=_root_.id rfl
@[go_sem] theorem Xc (l):aM [] l=l:=by cases l <;> simp [aM]
@[go_sem] theorem UO (s):aM s []=[]:=by cases s <;> simp [aM]
@[go_sem] theorem UP (s ss a l):aM (s::ss) (a::l)=nrmV s a::aM ss l:=_root_.id rfl
@[go_sem] theorem Nn (a):nrmV [] a=a:=by cases a <;> simp [nrmV,nrmL,ce]
@[go_sem] theorem YC (ss cs):nrmV ss (.agg cs)=.agg (ce ss cs):=_root_.id rfl
@[go_sem] theorem ac2 (ss x):nrmV ss (.v x)=.v x:=by
 show nrmL _ _=_
 generalize ss.headD (.o 0 [])=s
 obtain ⟨k,cs⟩:=s
 cases k <;> simp [nrmL]
@[go_sem] theorem YD (k cs ss):nrmV (.o (k+1) cs::ss) .emp=.sl k []:=by simp [nrmV,nrmL]
@[go_sem] theorem aaV (k cs ss k' rows):nrmV (.o (k+1) cs::ss) (.sl k' rows)=.sl k' (rows.map (ce cs)):=by simp [nrmV,nrmL]
@[go_sem] theorem YE (k cs ss k' rows):nrmV (.o (k+1) cs::ss) (.osl k' rows)=.sl k' (rows.map (ce cs)):=by simp [nrmV,nrmL]
@[go_sem] theorem No (l):ce [] l=l:=by cases l <;> simp [ce]
@[go_sem] theorem Xd (l):ce l []=[]:=by cases l <;> simp [ce]
@[go_sem] theorem Xe (s ss a l):ce (s::ss) (a::l)=nrmL s a::ce ss l:=by simp [ce]
@[go_sem] theorem ac3 (cs a):nrmL (.o 0 cs) a=a:=by simp [nrmL]
@[go_sem] theorem YF (k cs):nrmL (.o (k+1) cs) .emp=.sl k []:=by simp [nrmL]
@[go_sem] theorem aaW (k cs k' rows):nrmL (.o (k+1) cs) (.sl k' rows)=.sl k' (rows.map (ce cs)):=by simp [nrmL]
@[go_sem] theorem ac4 (k cs x):nrmL (.o k cs) (.v x)=.v x:=by cases k <;> simp [nrmL]
@[go_sem] theorem ac5 (x):bk (.v x)=[]:=_root_.id rfl
@[go_sem] theorem YG:bk .emp=[]:=_root_.id rfl
@[go_sem] theorem aaX (k r):bk (.sl k r)=[]:=_root_.id rfl
@[go_sem] theorem YH (cs):bk (.agg cs)=cs.flatMap cP:=_root_.id rfl
@[go_sem] theorem YI (a b c d e):bk (.rsl a b c d e)=[a]:=_root_.id rfl
@[go_sem] theorem ac6 (x):cP (.v x)=[]:=_root_.id rfl
@[go_sem] theorem YJ:cP .emp=[]:=_root_.id rfl
@[go_sem] theorem aaY (k r):cP (.sl k r)=[]:=_root_.id rfl
@[go_sem] theorem YK (a b c d e):cP (.rsl a b c d e)=[a]:=_root_.id rfl
@[go_sem] theorem UQ:fk []=true:=_root_.id rfl
@[go_sem] theorem UR (a):fk [a]=true:=_root_.id rfl
@[go_sem] theorem aaZ (args i):o6 args i=(args[i]?).getD .any:=_root_.id rfl
@[go_sem] theorem Kb:ae []=fun _=>.dead:=by funext i; simp [ae]
@[go_sem] theorem Xf (i):aG i=decide (1000≤i∧i < 2000):=_root_.id rfl
def gV (h:aa) (d:Nat):Option (AV × List Ob)→Option R3
 | some (r,[])=>if cf r≤8∧cx h (2000+8*d) (cf r)=true∧eu [] r=true then some ((mat (2000+8*d) h r).1,(mat (2000+8*d) h r).2,[]) else none
 | _=>none
theorem fv {c:AV} {ids:List Nat} {n:Nat} (hn:2000≤n) (hc:aO [] c=true∨(∃ k lo m,c=.rsl n none k lo m)∨∃ k i j,c=.ref n none k i j):fT (bN ids) c=c:=by
 have hb:bN ids n=n:=by unfold bN; rw [if_neg (by omega)]
 rcases hc with hc | ⟨k,lo,m,rfl⟩ | ⟨k,i,j,rfl⟩
 ·cases c <;> simp [aO] at hc <;> rfl
 ·simp [fT,hb]
 ·simp [fT,hb]
theorem C5 {r:AV} {n:Nat} (hn:2000≤n) (h:aa) (ids:List Nat) (hr:cZ [] r=true):cQ (bN ids) (bU n h r).1=(bU n h r).1:=by
 cases r <;> simp only [cZ] at hr <;> simp only [bU]
 case osl=>simp only [cQ]; exact fv hn (.inr (.inl ⟨_,_,_,rfl⟩))
 case obx=>simp only [cQ]; exact fv hn (.inr (.inr ⟨_,_,_,rfl⟩))
 case agg cs =>
  simp only [aJ,List.all_eq_true] at hr
  simp only [cQ,AV.agg.injEq]
  exact (List.map_congr_left (g:=fun c=>c) fun c hc=>fv hn (.inl (hr c hc))).trans (List.map_id' cs)
 case fn f x y =>
  simp only [aJ,Bool.and_eq_true,List.all_eq_true] at hr
  simp only [cQ,AV.fn.injEq,true_and]
  exact ⟨(List.map_congr_left (g:=fun c=>c) fun c hc=>fv hn (.inl (hr.1 c hc))).trans (List.map_id' x),(List.map_congr_left (g:=fun c=>c) fun c hc=>fv hn (.inl (hr.2 c hc))).trans (List.map_id' y)⟩
 all_goals
  simp only [cQ]
  exact fv hn (.inl hr)
theorem C6 (ids:List Nat):∀ {l:List AV} {n:Nat} {h:aa},2000≤n→l.all (cZ [])=true→(bp n h l).1.map (cQ (bN ids))=(bp n h l).1
 | [],n,h,_,_=>rfl
 | c::l,n,h,hn,hr=>by
  simp only [List.all_cons,Bool.and_eq_true] at hr
  simp only [bp,List.map_cons]
  rw [C5 hn h ids hr.1,C6 ids (by omega) hr.2]
theorem Np {r:AV} {n:Nat} (hn:2000≤n) (h:aa) (ids:List Nat) (hr:eu [] r=true):ug (bN ids) (mat n h r).1=(mat n h r).1:=by
 cases r with
 | tup vs =>
  simp only [eu] at hr
  simp only [mat,ug,AV.tup.injEq]
  exact C6 ids hn hr
 | _ =>
  simp only [eu] at hr
  have:=C5 hn h ids hr
  simp only [mat]
  simp only [bU] at this ⊢
  exact this
theorem C7:∀ l:List AV,kK [] l=[]
 | []=>rfl
 | a::l=>by simp [kK,C7 l]
theorem rZ {f:FuncId} {args:List AV} (d:Nat) (hm:md.m f=[]) (hd:args.all dat=true):ai call md h d args (.fn f [] [])=gV h d (call f (aM (md.sh f) args) []):=by
 have hin:ah h [] args=some (args,h,[]):=by
  have:∀ (l:List AV),l.all dat=true→ah h [] l=some (l,h,[]):=by
   intro l
   induction l with
   | nil=>intro _; rfl
   | cons a l ih =>
    intro hd
    simp only [List.all_cons,Bool.and_eq_true] at hd
    have ha:bM h 0 a=some (a,h,[]):=by
     have h1:=hd.1
     by_cases hagg:∃ cs,a=.agg cs
     ·obtain ⟨cs,rfl⟩:=hagg
      simp only [dat] at h1
      simp only [bM,mB]
      rw [gl h1 h]
      rfl
     ·have h2:ak a=true:=by cases a <;> first | exact h1 | exact absurd ⟨_,rfl⟩ hagg
      cases a <;> first | (simp [ak] at h2; done) | rfl | skip
    simp only [ah,List.headD_nil,ha,Option.bind_some,List.tail_nil,ih hd.2,List.append_nil]
  exact this args hd
 have hids:args.flatMap bk=[]:=by
  rw [List.flatMap_eq_nil_iff]
  exact fun c hc=>Fr (List.all_eq_true.1 hd c hc)
 have hren:(aM (md.sh f) args).map (cQ (aV []))=aM (md.sh f) args∧(aM (md.sh f) args).all (aJ [])=true:=by
  have key:∀ c ∈ aM (md.sh f) args,dat c=true:=by
   intro c hc
   obtain ⟨i,hi⟩:=List.getElem?_of_mem hc
   obtain ⟨c0,h1,h2⟩:=nE _ _ _ _ hi
   have h0:=List.all_eq_true.1 hd c0 (List.mem_of_getElem? h1)
   rcases h2 with rfl | ⟨ss,rfl⟩
   ·exact h0
   ·cases c0 <;> simp only [dat] at h0 <;> simp only [nrmV,dat] <;> try (have:=rn (s:=ss.headD (.o 0 [])) h0; revert this; generalize nrmL _ _=q; intro this; cases q <;> first | exact this | simp [ak] at this)
    rename_i cs
    rw [List.all_eq_true]
    intro c hc
    obtain ⟨i,hi⟩:=List.getElem?_of_mem hc
    obtain ⟨c0,h1,h2⟩:=rm _ _ _ _ hi
    have h3:=List.all_eq_true.1 h0 c0 (List.mem_of_getElem? h1)
    rcases h2 with rfl | ⟨s,rfl⟩
    ·exact h3
    ·exact rn h3
  refine ⟨(List.map_congr_left (g:=fun c=>c) fun c hc=>?_).trans (List.map_id' _),?_⟩
  ·have:=key c hc
   cases c <;> simp only [dat] at this <;> first | rfl | skip
   all_goals first
    | (simp [ak] at this; done)
    | skip
   ·rename_i cs
    simp only [cQ,AV.agg.injEq]
    refine (List.map_congr_left (g:=fun c=>c) fun c hc=>?_).trans (List.map_id' cs)
    have h3:=List.all_eq_true.1 this c hc
    cases c <;> simp [ak] at h3 <;> rfl
   ·rename_i g x y
    simp [ak] at this
    obtain ⟨rfl,rfl⟩:=this
    rfl
  ·rw [List.all_eq_true]
   intro c hc
   have:=key c hc
   cases c <;> simp only [dat] at this <;> first | rfl | skip
   all_goals first
    | (simp [ak] at this; done)
    | skip
   ·rename_i cs
    simp only [aJ,List.all_eq_true]
    intro c hc
    have h3:=List.all_eq_true.1 this c hc
    cases c <;> simp [ak] at h3 <;> simp [aO,h3]
   ·rename_i g x y
    simp [ak] at this
    obtain ⟨rfl,rfl⟩:=this
    rfl
 unfold ai
 rw [if_neg (by simp [jD,hm])]
 simp only [dq,hm,List.nil_append,List.append_nil,hin,Option.bind_some,hids,bo,CU,jC,hren.2,List.all_nil,Bool.and_self,if_true,hren.1,List.map_nil,C7]
 cases hr:call f (aM (md.sh f) args) [] with
 | none=>rfl
 | some q =>
  obtain ⟨r,os⟩:=q
  cases os with
  | cons o os=>simp only [Option.bind_some,dZ,gV]; simp
  | nil =>
   simp only [Option.bind_some,dZ,gV,List.length_nil,Nat.zero_le,true_and,cU,mM,ui,List.all_nil,Bool.true_and,Bool.and_true,qZ,bS,List.range'_zero,cz,dC]
   by_cases hc:cf r≤8∧cx h (2000+8*d) (cf r)=true∧eu [] r=true
   ·rw [if_pos hc,if_pos hc,Np (by omega) h [] hc.2.2]
    simp
   ·rw [if_neg hc,if_neg hc]
def aD (call:cT) (md:Mode) (d:Nat) (f:FuncId) (p:List AV × aa × K):Option R3 :=
 jC call md p.2.1 d f (bJ p.2.1 40 (bo [] (p.1.flatMap bk)) 0) (aM (md.sh f) p.1) p.2.2
theorem aj {f:FuncId} {args:List AV} (d:Nat) (hm:md.m f=[]):ai call md h d args (.fn f [] [])=(ah h [] args).bind (aD call md d f):=by
 unfold ai
 rw [if_neg (by simp [jD,hm])]
 simp only [dq,hm,List.nil_append,List.append_nil]
 rfl
@[go_sem] theorem Xg {f:FuncId} {zs:List AV} (d:Nat) (hm:md.m f=[]) (hd:zs.all dat=true):aD call md d f (zs,h,[])=gV h d (call f (aM (md.sh f) zs) []):=by
 rw [← rZ d hm hd,aj d hm]
 have hin:∀ (l:List AV),l.all dat=true→ah h [] l=some (l,h,[]):=by
  intro l
  induction l with
  | nil=>intro _; rfl
  | cons a l ih =>
   intro hd
   simp only [List.all_cons,Bool.and_eq_true] at hd
   have ha:bM h 0 a=some (a,h,[]):=by
    have h1:=hd.1
    by_cases hagg:∃ cs,a=.agg cs
    ·obtain ⟨cs,rfl⟩:=hagg
     simp only [dat] at h1
     simp only [bM,mB]
     rw [gl h1 h]
     rfl
    ·have h2:ak a=true:=by cases a <;> first | exact h1 | exact absurd ⟨_,rfl⟩ hagg
     cases a <;> first | (simp [ak] at h2; done) | rfl | skip
   simp only [ah,List.headD_nil,ha,Option.bind_some,List.tail_nil,ih hd.2,List.append_nil]
 rw [hin zs hd]
 rfl
@[go_sem] theorem US (h):ah h [] []=some ([],h,[]):=_root_.id rfl
@[go_sem] theorem T4 (h a l):ah h [] (a::l)=(bM h 0 a).bind fun p=>(ah p.2.1 [] l).bind fun q=>some (p.1::q.1,q.2.1,p.2.2++q.2.2):=_root_.id rfl
@[go_sem] theorem aa0 (h x):bM h 0 (.v x)=some (.v x,h,[]):=_root_.id rfl
@[go_sem] theorem Xh (h):bM h 0 .emp=some (.emp,h,[]):=_root_.id rfl
@[go_sem] theorem YL (h k r):bM h 0 (.sl k r)=some (.sl k r,h,[]):=_root_.id rfl
@[go_sem] theorem YM (h f a b):bM h 0 (.fn f a b)=some (.fn f a b,h,[]):=_root_.id rfl
@[go_sem] theorem Xi (h a b c d):bM h 0 (.ref a none b c d)=some (.ref a none b c d,h,[]):=_root_.id rfl
@[go_sem] theorem Xj (h cs):bM h 0 (.ipt cs)=some (.ipt cs,h,[]):=_root_.id rfl
@[go_sem] theorem Xk (h id k lo n):bM h 0 (.rsl id none k lo n)=jc h id k lo n (h id):=_root_.id rfl
@[go_sem] theorem UT (h id p k lo n):bM h 0 (.rsl id (some p) k lo n)=wd h id p k lo n (h id):=_root_.id rfl
@[go_sem] theorem Xl (h cs):bM h 0 (.agg cs)=(dB h cs).bind fun p=>some (.agg p.1,p.2):=_root_.id rfl
@[go_sem] theorem aa1 (h d x):gV h d (some (.v x,[]))=if cx h (2000+8*d) 1=true then some (.v x,h,[]) else none:=by
 simp [gV,cf,eu,cZ,aJ,aO,mat,bU]
@[go_sem] theorem Nq (h d k r):gV h d (some (.sl k r,[]))=if cx h (2000+8*d) 1=true then some (.sl k r,h,[]) else none:=by
 simp [gV,cf,eu,cZ,aJ,aO,mat,bU]
@[go_sem] theorem Xm (h d cs) (hd:cs.all ak=true):gV h d (some (.agg cs,[]))=if cx h (2000+8*d) 1=true then some (.agg cs,h,[]) else none:=by
 have:cs.all (aO [])=true:=by
  rw [List.all_eq_true] at hd ⊢
  intro c hc
  have:=hd c hc
  cases c <;> simp [ak] at this <;> simp [aO,this]
 simp only [gV,cf,eu,cZ,aJ,mat,bU,this,and_true]
 simp
@[go_sem] theorem Xn (h d vs) (h8:vs.length≤8) (hd:vs.all dat=true):gV h d (some (.tup vs,[]))=if cx h (2000+8*d) vs.length=true then some (.tup vs,h,[]) else none:=by
 have h1:vs.all (cZ [])=true:=by
  rw [List.all_eq_true] at hd ⊢
  intro c hc
  have:=hd c hc
  cases c <;> simp only [dat] at this <;> simp only [cZ,aJ] <;> try (simp [ak] at this <;> simp [aO,this]; done)
  rename_i cs
  rw [List.all_eq_true] at this ⊢
  intro c hc
  have:=this c hc
  cases c <;> simp [ak] at this <;> simp [aO,this]
 have h2:∀ (l:List AV) (n:Nat) (g:aa),l.all dat=true→bp n g l=(l,g):=by
  intro l
  induction l with
  | nil=>intro n g _; rfl
  | cons c l ih =>
   intro n g hd
   simp only [List.all_cons,Bool.and_eq_true] at hd
   have hc:bU n g c=(c,g):=by
    have:=hd.1
    cases c <;> simp only [dat,ak] at this <;> first | rfl | (cases this; done)
   simp only [bp,hc,ih _ _ hd.2]
 simp only [gV,cf,eu,h1,mat,h2 vs _ _ hd,h8,true_and,and_true]
@[go_sem] theorem Xo (h d k r):gV h d (some (.osl k r,[]))=if cx h (2000+8*d) 1=true then some (.rsl (2000+8*d) none k 0 r.length,upd h (2000+8*d) (.ar k r),[]) else none:=by
 simp [gV,cf,eu,cZ,mat,bU]
@[go_sem] theorem UU (h n):cx h n 0=true:=_root_.id rfl
@[go_sem] theorem UV (h n m):cx h n (m+1)=(cD (h n) && cx h (n+1) m):=_root_.id rfl
@[go_sem] theorem T5:cD .dead=true:=_root_.id rfl
def bA (call:cT) (md:Mode) (ps:List (Nat × Nat)):List Fp→List COp→af→aa→Option St
 | acc,[],s,h=>if ps.all (ny acc)=true then some ⟨s,h⟩ else none
 | acc,o::rest,s,h=>(cj call md o s h).bind fun r=>bA call md ps (acc++[r.2]) rest r.1.s r.1.h
theorem Iy (ps:List (Nat × Nat)):∀ (l:List COp) (acc:List Fp) (s:af) (h:aa),bA call md ps acc l s h=(dA call md l s h).bind fun r=>if ps.all (ny (acc++r.2))=true then some r.1 else none
 | [],acc,s,h=>by simp only [bA,dA,Option.bind_some,List.append_nil]
 | o::l,acc,s,h=>by
  simp only [bA,dA]
  cases cj call md o s h with
  | none=>rfl
  | some r =>
   simp only [Option.bind_some]
   rw [Iy ps l]
   cases dA call md l r.1.s r.1.h with
   | none=>rfl
   | some q=>simp only [Option.bind_some,List.append_assoc,List.singleton_append]
@[go_sem] theorem Xp:pM []=none:=_root_.id rfl
@[go_sem] theorem UW (p g l):pM ((p,g)::l)=if 1000000≤p then some (p - 1000000,g) else none:=_root_.id rfl
theorem FT (l ps):pR call md l ps s h=bA call md ps [] l s h:=by
 rw [Iy]
 rfl
theorem PA (ps) (l:List COp) (h0:pM ps=none):jG call md l ps s h=bA call md ps [] l s h:=by
 unfold jG
 rw [h0]
 exact FT l ps
def Nr (call:cT) (md:Mode) (m g:Nat) (ps:List (Nat × Nat)) (l:List COp) (s:af) (h:aa):Option St :=
 aK (bA call md ps [] (l.take m) s h) fun s h=>aK (kL md.nm g s h) (am call md (l.drop m))
@[go_sem] theorem YN (l ps):jG call md l ps s h=match pM ps with
  | some q=>Nr call md q.1 q.2 ps.tail l s h
  | none=>bA call md ps [] l s h:=by
 cases hb:pM ps with
 | none=>exact PA ps l hb
 | some q =>
  unfold jG
  rw [hb]
  simp only [Nr,uj]
  rw [← FT _ _,pR]
  cases dA call md (l.take q.1) s h with
  | none=>rfl
  | some r =>
   simp only [Option.bind_some]
   split <;> rfl
def ey (call:cT) (md:Mode) (ps:List (Nat × Nat)) (acc:List Fp) (rest:List COp) (s:af) (d:Option Nat) (f:aa→Fp):Option R3→Option St
 | some (x,h,[])=>bA call md ps (acc++[f h]) rest (cr s d x) h
 | _=>none
theorem cH (ps acc) (o:COp) (rest) (hg:o.g=none):bA call md ps acc (o::rest) s h=ey call md ps acc rest s o.d (dh (o.d.getD 0) o.op s h) (step call md (o.d.getD 0) o.op s h):=by
 simp only [bA,cj,hg,fe]
 cases step call md (o.d.getD 0) o.op s h with
 | none=>rfl
 | some r =>
  obtain ⟨x,h',ks⟩:=r
  cases ks <;> rfl
@[go_sem] theorem YO (ps acc):bA call md ps acc [] s h=if ps.all (ny acc)=true then some ⟨s,h⟩ else none:=_root_.id rfl
@[go_sem] theorem xL (ps acc d op rest):bA call md ps acc (co d op::rest) s h=(dp s op).bind fun a=>bA call md ps (acc++[some ([],[])]) rest (upd s d a) h:=by
 rw [cH _ _ _ _ rfl]
 simp only [co,step,re]
 cases dp s op <;> rfl
@[go_sem] theorem aa2 (ps acc d n rest):bA call md ps acc (cm d n::rest) s h=bA call md ps (acc++[some ([],[])]) rest (upd s d (s n)) h:=xL ps acc d (.mv (.t n)) rest
@[go_sem] theorem Xq (ps acc d k g x rest):bA call md ps acc (⟨some d,none,.load k g x⟩::rest) s h=ey call md ps acc rest s (some d) (fun _=>lg (ev s x)) (dU h k g (ev s x)):=cH _ _ _ _ rfl
@[go_sem] theorem UX (ps acc d k x y rest):bA call md ps acc (⟨d,none,.store k x y⟩::rest) s h=ey call md ps acc rest s d (fun _=>pL (ev s y) (ev s x)) (fH h k (ev s x) (ev s y)):=cH _ _ _ _ rfl
@[go_sem] theorem Xr (ps acc d f zas rest):bA call md ps acc (⟨some d,none,.call f zas⟩::rest) s h=ey call md ps acc rest s (some d) (dO h d (ig (zas.map (ev s)) (ev s f))) (ai call md h d (zas.map (ev s)) (ev s f)):=cH _ _ _ _ rfl
@[go_sem] theorem UY (ps acc d z rest):bA call md ps acc (⟨some d,none,.alloc z⟩::rest) s h=ey call md ps acc rest s (some d) (fun _=>some ([],[bB d])) (fI h d z []):=cH _ _ _ _ rfl
@[go_sem] theorem YP (ps acc d k x rest):bA call md ps acc (⟨some d,none,.box k x⟩::rest) s h=ey call md ps acc rest s (some d) (fun _=>if dat (ev s x)=true then some ([],[bB d]) else none) (qY h d k (ev s x)):=cH _ _ _ _ rfl
@[go_sem] theorem Rx (ps acc d k z n qs rest):bA call md ps acc (⟨some d,none,.buildSl k z n qs⟩::rest) s h=ey call md ps acc rest s (some d) (fun _=>if (qs.all fun p=>dat (ev s p.2))=true then some ([],[bB d]) else none) ((cY k h (List.replicate n z) (qs.map fun p=>(p.1,ev s p.2))).bind fun q=>bO q.2.1 d k q.1 n q.2.2):=cH _ _ _ _ rfl
@[go_sem] theorem aa3 (ps acc d op a b rest):bA call md ps acc (b2 d op a b::rest) s h=(dI op (s a) (s b)).bind fun a=>bA call md ps (acc++[some ([],[])]) rest (upd s d a) h:=xL ps acc d (.bin op (.t a) (.t b)) rest
@[go_sem] theorem aa4 (ps acc d k a rest):bA call md ps acc (fa d k a::rest) s h=(pI k (s a)).bind fun a=>bA call md ps (acc++[some ([],[])]) rest (upd s d a) h:=xL ps acc d (.fadr k (.t a)) rest
@[go_sem] theorem aa5 (ps acc d a rest):bA call md ps acc (nk d a::rest) s h=(vZ (s a)).bind fun a=>bA call md ps (acc++[some ([],[])]) rest (upd s d a) h:=xL ps acc d (.nilck (.t a)) rest
@[go_sem] theorem aa6 (ps acc d k a rest):bA call md ps acc (ld d k a::rest) s h=ey call md ps acc rest s (some d) (fun _=>lg (s a)) (dU h k false (s a)):=cH _ _ _ _ rfl
@[go_sem] theorem aa7 (ps acc d k a rest):bA call md ps acc (la d k a::rest) s h=ey call md ps acc rest s (some d) (fun _=>lg (s a)) (dU h k true (s a)):=cH _ _ _ _ rfl
@[go_sem] theorem aa8 (ps acc d f zas rest):bA call md ps acc (ca d f zas::rest) s h=ey call md ps acc rest s (some d) (dO h d (ig (zas.map (ev s)) (.fn f [] []))) (ai call md h d (zas.map (ev s)) (.fn f [] [])):=cH _ _ _ _ rfl
@[go_sem] theorem aa9 (ps acc k x y rest):bA call md ps acc (sr k x y::rest) s h=ey call md ps acc rest s none (fun _=>pL (ev s y) (ev s x)) (fH h k (ev s x) (ev s y)):=cH _ _ _ _ rfl
@[go_sem] theorem aba (ps acc d z rest):bA call md ps acc (al d z::rest) s h=ey call md ps acc rest s (some d) (fun _=>some ([],[bB d])) (fI h d z []):=cH _ _ _ _ rfl
@[go_sem] theorem abb (ps acc d k x rest):bA call md ps acc (bx d k x::rest) s h=ey call md ps acc rest s (some d) (fun _=>if dat (ev s x)=true then some ([],[bB d]) else none) (qY h d k (ev s x)):=cH _ _ _ _ rfl
@[go_sem] theorem Xs (ps acc rest s d f x h):ey call md ps acc rest s (some d) f (some (x,h,[]))=bA call md ps (acc++[f h]) rest (upd s d x) h:=_root_.id rfl
@[go_sem] theorem UZ (ps acc rest s f x h):ey call md ps acc rest s none f (some (x,h,[]))=bA call md ps (acc++[f h]) rest s h:=_root_.id rfl
theorem Ry (ps acc) (o:COp) (j w rest) (hg:o.g=some (j,w)) {b:Bool} (hb:s j=.v (.bool b)):bA call md ps acc (o::rest) s h =
  if b=w then ey call md ps acc rest s o.d (dh (o.d.getD 0) o.op s h) (step call md (o.d.getD 0) o.op s h) else bA call md ps (acc++[some ([],[])]) rest (cr s o.d .und) h:=by
 simp only [bA,cj,hg,hb,jF]
 split
 ·simp only [fe]
  cases step call md (o.d.getD 0) o.op s h with
  | none=>rfl
  | some r =>
   obtain ⟨x,h',ks⟩:=r
   cases ks <;> rfl
 ·rfl
def FU (call:cT) (md:Mode) (ps:List (Nat × Nat)) (acc:List Fp) (rest:List COp) (s:af) (h:aa) (d:Option Nat) (w:Bool) (op:AOp):AV→Option St
 | .v (.bool b)=>if b=w then ey call md ps acc rest s d (dh (d.getD 0) op s h) (step call md (d.getD 0) op s h) else bA call md ps (acc++[some ([],[])]) rest (cr s d .und) h
 | .und=>bA call md ps (acc++[some ([],[])]) rest (cr s d .und) h
 | _=>none
@[go_sem] theorem PB (ps acc d j w op rest):bA call md ps acc (⟨d,some (j,w),op⟩::rest) s h=FU call md ps acc rest s h d w op (s j):=by
 by_cases hb:∃ b,s j=.v (.bool b)
 ·obtain ⟨b,hb⟩:=hb
  rw [Ry ps acc ⟨d,some (j,w),op⟩ j w rest rfl hb,hb]
  rfl
 ·simp only [bA,cj]
  cases hq:s j <;> first | rfl | skip
  rename_i x
  cases x <;> first | rfl | exact absurd ⟨_,hq⟩ hb
@[go_sem] theorem abc (ps acc d j w op rest):bA call md ps acc (cg d j w op::rest) s h=FU call md ps acc rest s h (some d) w (.p op) (s j):=PB ps acc (some d) j w (.p op) rest
@[go_sem] theorem ac7 (ps acc rest s h d op):FU call md ps acc rest s h (some d) true op (.v (.bool true))=ey call md ps acc rest s (some d) (dh d op s h) (step call md d op s h):=_root_.id rfl
@[go_sem] theorem ac8 (ps acc rest s h d op):FU call md ps acc rest s h (some d) false op (.v (.bool false))=ey call md ps acc rest s (some d) (dh d op s h) (step call md d op s h):=_root_.id rfl
@[go_sem] theorem ac9 (ps acc rest s h d op):FU call md ps acc rest s h (some d) true op (.v (.bool false))=bA call md ps (acc++[some ([],[])]) rest (upd s d .und) h:=_root_.id rfl
@[go_sem] theorem ada (ps acc rest s h d op):FU call md ps acc rest s h (some d) false op (.v (.bool true))=bA call md ps (acc++[some ([],[])]) rest (upd s d .und) h:=_root_.id rfl
@[go_sem] theorem abd (ps acc rest s h d w op):FU call md ps acc rest s h (some d) w op .und=bA call md ps (acc++[some ([],[])]) rest (upd s d .und) h:=_root_.id rfl
@[go_sem] theorem ad6 (d op h'):dh d (.p op) s h h'=some ([],[]):=_root_.id rfl
@[go_sem] theorem abe (d k g x h'):dh d (.load k g x) s h h'=lg (ev s x):=_root_.id rfl
@[go_sem] theorem abf (d f zas h'):dh d (.call f zas) s h h'=dO h d (ig (zas.map (ev s)) (ev s f)) h':=_root_.id rfl
@[go_sem] theorem YQ (d z h'):dh d (.alloc z) s h h'=some ([],[bB d]):=_root_.id rfl
@[go_sem] theorem adb (d k x h'):dh d (.box k x) s h h'=if dat (ev s x)=true then some ([],[bB d]) else none:=_root_.id rfl
@[go_sem] theorem U0 (cs):lg (.ipt cs)=some ([],[]):=_root_.id rfl
@[go_sem] theorem T6 (id k i j):lg (.ref id none k i j)=some ([bB id],[]):=_root_.id rfl
@[go_sem] theorem T7 (id p k i j):lg (.ref id (some p) k i j)=some ([bB id],[]):=_root_.id rfl
@[go_sem] theorem Xt (y id sub k i j):pL y (.ref id sub k i j)=if dat y=true then some ([bB id],[bB id]) else none:=_root_.id rfl
@[go_sem] theorem adc (i):bB i=if i < 2000 then i else i - i % 8:=_root_.id rfl
@[go_sem] theorem Xu (l f a b):ig l (.fn f a b)=a++l++b:=_root_.id rfl
@[go_sem] theorem Ls (h d l h'):dO h d l h'=if l.all dat=true then some ([],[2000+8*d]) else if l.all lL=true then some ((bJ h 40 (bo [] (l.flatMap bk)) 0).map bB,(wj h h' (bJ h 40 (bo [] (l.flatMap bk)) 0)).map bB++[2000+8*d]) else none:=_root_.id rfl
@[go_sem] theorem U1 (l i j):ny l (i,j)=(match l[i]?,l[j]? with | some a,some b=>fu a b | _,_=>false):=_root_.id rfl
@[go_sem] theorem YR (a b):fu (some a) (some b)=(jd a.2 (b.1++b.2) && jd b.2 a.1):=_root_.id rfl
@[go_sem] theorem YS (b):fu none (some b)=(b.1.isEmpty && b.2.isEmpty):=_root_.id rfl
@[go_sem] theorem YT (a):fu (some a) none=(a.1.isEmpty && a.2.isEmpty):=_root_.id rfl
@[go_sem] theorem YV (b):jd [] b=true:=_root_.id rfl
@[go_sem] theorem Xv (a l b):jd (a::l) b=(!b.contains a && jd l b):=_root_.id rfl
@[go_sem] theorem U2 (a:Nat):[].contains a=false:=_root_.id rfl
@[go_sem] theorem T8 (a b:Nat) (l:List Nat):(b::l).contains a=(a == b || l.contains a):=by rw [List.contains_cons]
@[go_sem] theorem YW (s d x h p l):bK false s (some d) (some (x,h,p::l))=some ⟨upd (eE (p::l) s) d x,h⟩:=_root_.id rfl
@[go_sem] theorem Xw (s x h p l):bK false s none (some (x,h,p::l))=some ⟨eE (p::l) s,h⟩:=_root_.id rfl
@[go_sem] theorem abg (p l s) (i:Nat):eE (p::l) s i=l8 (p::l) (s i):=_root_.id rfl
@[go_sem] theorem adX (ks x):l8 ks (.v x)=.v x:=_root_.id rfl
@[go_sem] theorem abh (ks):l8 ks .any=.any:=_root_.id rfl
@[go_sem] theorem abi (ks):l8 ks .und=.und:=_root_.id rfl
@[go_sem] theorem abj (ks):l8 ks .emp=.emp:=_root_.id rfl
@[go_sem] theorem ade (ks k r):l8 ks (.sl k r)=.sl k r:=_root_.id rfl
@[go_sem] theorem abk (ks cs):l8 ks (.ipt cs)=.ipt cs:=_root_.id rfl
@[go_sem] theorem abl (ks f):l8 ks (.fn f [] [])=.fn f [] []:=_root_.id rfl
@[go_sem] theorem abm (ks id sub k lo n):l8 ks (.rsl id sub k lo n)=if dT ks id sub=true then .any else .rsl id sub k lo n:=_root_.id rfl
@[go_sem] theorem abn (ks id sub k lo n):l8 ks (.ref id sub k lo n)=if dT ks id sub=true then .any else .ref id sub k lo n:=_root_.id rfl
@[go_sem] theorem abo (ks cs):l8 ks (.agg cs)=if cs.any (jA ks)=true then .any else .agg cs:=_root_.id rfl
@[go_sem] theorem adf (ks f a b):l8 ks (.fn f a b)=if (a.any (jA ks) || b.any (jA ks))=true then .any else .fn f a b:=_root_.id rfl
@[go_sem] theorem abp (ks vs):l8 ks (.tup vs)=if vs.any (sx ks)=true then .any else .tup vs:=_root_.id rfl
@[go_sem] theorem adg (ks x):sx ks (.v x)=false:=_root_.id rfl
@[go_sem] theorem abq (ks k r):sx ks (.sl k r)=false:=_root_.id rfl
@[go_sem] theorem adh (ks x):jA ks (.v x)=false:=_root_.id rfl
@[go_sem] theorem YX (ks):jA ks .emp=false:=_root_.id rfl
@[go_sem] theorem abr (ks k r):jA ks (.sl k r)=false:=_root_.id rfl
@[go_sem] theorem YY (ks id sub k i j):jA ks (.ref id sub k i j)=dT ks id sub:=_root_.id rfl
@[go_sem] theorem YZ (id sub):dT [] id sub=false:=_root_.id rfl
@[go_sem] theorem Y0 (a:Nat) (b:Bool) (l:K) (id:Nat) (sub:Option Nat):dT ((a,b)::l) id sub=((a == id && (!b || sub.isSome)) || dT l id sub):=by simp [dT]
@[go_sem] theorem Rz {α:Type}:(none:Option α).isSome=false:=_root_.id rfl
@[go_sem] theorem RA {α:Type} (a:α):(some a).isSome=true:=_root_.id rfl
@[go_sem] theorem adi (h d k b x y):yI h d k b x y=(lK h k y).bind fun ys=>match x with
 | .emp=>if ys.length*b≤140737488355328 then BH h d k ys else none
 | .rsl id none k' lo n=>E2 h d k b id k' lo n ys (h id)
 | .rsl id (some p) k' lo n=>MW h d k b id p k' lo n ys (h id)
 | _=>none:=_root_.id rfl
@[go_sem] theorem Xx (h k):lK h k .emp=some []:=_root_.id rfl
@[go_sem] theorem Ns (h k r):lK h k (.sl k r)=some r:=by simp [lK]
@[go_sem] theorem Xy (h k id sub lo n):lK h k (.rsl id sub k lo n)=dN k lo n (nT h id sub):=by simp [lK]
@[go_sem] theorem T9 (h id):nT h id none=mC (h id):=_root_.id rfl
@[go_sem] theorem Xz (k r):mC (.ar k r)=some (k,r):=_root_.id rfl
@[go_sem] theorem XA (k r):mC (.fz k r)=some (k,r):=_root_.id rfl
@[go_sem] theorem RB (k lo n r):dN k lo n (some (k,r))=if lo+n≤r.length then some ((r.drop lo).take n) else none:=by simp [dN]
@[go_sem] theorem abt (h d k b id lo n ys r):E2 h d k b id k lo n ys (.ar k r)=if lo=0∧n=r.length∧(id < 1000∨2000≤id)∧(n+ys.length)*b≤140737488355328 then
   some (.rsl id none k 0 (n+ys.length),upd h id (.ar k (r++ys)),[(id,false)]) else yH h d k b id k lo n ys k r:=by simp [E2]
@[go_sem] theorem Y3 (h d k):BH h d k []=some (.emp,h,[]):=_root_.id rfl
@[go_sem] theorem XB (h d k y ys):BH h d k (y::ys)=bO h d k (y::ys) (ys.length+1) []:=_root_.id rfl
end
def F.l23_PolyProducts:FuncId:=4
def F.l23_awake:FuncId:=9
def F.l23_great:FuncId:=10
def F.poly_Add:FuncId:=11
def F.poly_Sub:FuncId:=13
def F.l23_is:FuncId:=14
def F.poly_Mul:FuncId:=15
def F.r23_Mul:FuncId:=16
def F.poly_Derive:FuncId:=20
def F.r23_Valid:FuncId:=25
def F.poly_Valid:FuncId:=26
def F.poly_Degree:FuncId:=27
def F.r23_Degree:FuncId:=28
def F.r23_Same:FuncId:=30
def F.l23_variable:FuncId:=32
def F.poly_Text:FuncId:=33
def F.slices_ContainsFunc_api_Poly_api_Poly_:FuncId:=34
def F.l23_great_1:FuncId:=35
def F.slices_ContainsFunc_api_Term_api_Term_:FuncId:=36
def F.l23_great_1_1:FuncId:=37
def F.poly_pair:FuncId:=38
def F.poly_empty:FuncId:=39
def F.slices_Concat_api_Term_api_Term_:FuncId:=40
def F.poly_collector_add:FuncId:=41
def F.poly_collector_done:FuncId:=42
def F.r23_Collect:FuncId:=44
def F.r23_finish:FuncId:=45
def F.dyadic_Neg:FuncId:=46
def F.l23_zero:FuncId:=47
def F.dyadic_Mul:FuncId:=48
def F.slices_Clone_int_int_:FuncId:=49
def F.r02_Mul:FuncId:=50
def F.dyadic_Valid:FuncId:=53
def F.r02_Valid:FuncId:=54
def F.dyadic_Int:FuncId:=55
def F.dyadic_Add:FuncId:=59
def F.r02_Add:FuncId:=61
def F.r23_term:FuncId:=63
def F.r23_Compare:FuncId:=64
def F.slices_ContainsFunc_int_int_:FuncId:=65
def F.poly_Valid_1:FuncId:=66
def F.poly_degree:FuncId:=67
def F.poly_order:FuncId:=68
def F.r23_sum:FuncId:=69
def F.r23_number:FuncId:=74
def F.slices_ContainsFunc_string_string_:FuncId:=75
def F.poly_Text_1:FuncId:=76
def F.lex_Name:FuncId:=77
def F.dyadic_Text:FuncId:=78
def F.strconv_Itoa:FuncId:=79
def F.slices_IndexFunc_api_Poly_api_Poly_:FuncId:=80
def F.slices_IndexFunc_api_Term_api_Term_:FuncId:=81
def F.slices_Grow_api_Term_api_Term_:FuncId:=82
def F.slices_BinarySearchFunc_api_Term_api_Term_Sint_:FuncId:=83
def F.poly_collector_add_1:FuncId:=84
def F.slices_Insert_api_Term_api_Term_:FuncId:=85
def F.poly_copied:FuncId:=86
def F.slices_Delete_api_Term_api_Term_:FuncId:=87
def F.slices_Clone_uint32_uint32_:FuncId:=88
def F.dyadic_size:FuncId:=89
def F.natural_Mul:FuncId:=90
def F.dyadic_checked:FuncId:=91
def F.dyadic_canonical:FuncId:=92
def F.r02_Checked:FuncId:=93
def F.r02_Product:FuncId:=94
def F.dyadic_inRange:FuncId:=96
def F.r02_bits:FuncId:=97
def F.r02_Of:FuncId:=98
def F.dyadic_sum:FuncId:=99
def F.r02_Sum:FuncId:=100
def F.slices_IndexFunc_int_int_:FuncId:=101
def F.cmp_Compare_int_:FuncId:=102
def F.slices_Compare_int_int_:FuncId:=103
def F.slices_IndexFunc_string_string_:FuncId:=106
def F.lex_word:FuncId:=107
def F.lex_Keyword:FuncId:=108
def F.natural_Text:FuncId:=109
def F.strings_Builder_WriteString:FuncId:=111
def F.strings_Builder_String:FuncId:=112
def F.internal_strconv_Itoa:FuncId:=113
def F.slices_overlaps_api_Term_:FuncId:=114
def F.slices_rotateRight_api_Term_:FuncId:=115
def F.natural_Bits:FuncId:=116
def F.natural_long:FuncId:=117
def F.natural_done:FuncId:=118
def F.natural_mul:FuncId:=119
def F.natural_trim:FuncId:=120
def F.dyadic_trimmed:FuncId:=121
def F.dyadic_low:FuncId:=122
def F.natural_Shr:FuncId:=123
def F.slices_Clip_uint32_uint32_:FuncId:=124
def F.r02_times:FuncId:=125
def F.r02_trim:FuncId:=126
def F.r02_zeros:FuncId:=127
def F.r02_right:FuncId:=128
def F.dyadic_Top:FuncId:=129
def F.dyadic_shifted:FuncId:=130
def F.natural_Add:FuncId:=131
def F.natural_Cmp:FuncId:=132
def F.natural_Sub:FuncId:=133
def F.r02_left:FuncId:=134
def F.r02_plus:FuncId:=135
def F.r02_compare:FuncId:=136
def F.r02_minus:FuncId:=137
def F.cmp_isNaN_int_:FuncId:=138
def F.lex_class:FuncId:=139
def F.natural_short:FuncId:=140
def F.strconv_FormatUint:FuncId:=141
def F.strings_Repeat:FuncId:=142
def F.slices_Reverse_string_string_:FuncId:=143
def F.strings_Join:FuncId:=144
def F.strings_Builder_copyCheck:FuncId:=145
def F.internal_strconv_FormatInt:FuncId:=146
def F.slices_rotateLeft_api_Term_:FuncId:=147
def F.bits_Len32:FuncId:=148
def F.slices_ContainsFunc_Suint32_Suint32_:FuncId:=149
def F.natural_long_1:FuncId:=150
def F.bits_TrailingZeros32:FuncId:=151
def F.natural_shr:FuncId:=152
def F.natural_Shl:FuncId:=153
def F.natural_add:FuncId:=154
def F.natural_sub:FuncId:=155
def F.strings_IndexByte:FuncId:=156
def F.bits_Div32:FuncId:=157
def F.internal_strconv_FormatUint:FuncId:=158
def F.bits_Mul:FuncId:=159
def F.strings_HasPrefix:FuncId:=160
def F.strings_Builder_Grow:FuncId:=161
def F.strings_Builder_Len:FuncId:=162
def F.internal_abi_NoEscape:FuncId:=163
def F.internal_strconv_small:FuncId:=164
def F.internal_strconv_numDigits:FuncId:=165
def F.internal_strconv_formatBase10:FuncId:=166
def F.internal_strconv_formatBits:FuncId:=167
def F.slices_Reverse_api_Term_api_Term_:FuncId:=168
def F.slices_IndexFunc_Suint32_Suint32_:FuncId:=169
def F.natural_shl:FuncId:=170
def F.bits_Add32:FuncId:=171
def F.bits_Sub32:FuncId:=172
def F.internal_stringslite_IndexByte:FuncId:=173
def F.bits_Mul32:FuncId:=174
def F.bits_Mul64:FuncId:=175
def F.internal_stringslite_HasPrefix:FuncId:=176
def F.strings_Builder_grow:FuncId:=177
def F.internal_strconv_log10Pow2:FuncId:=178
def F.bits_Len64:FuncId:=179
def F.internal_strconv_bool2_int_:FuncId:=180
def F.internal_strconv_isPowerOfTwo:FuncId:=181
def F.bits_TrailingZeros:FuncId:=182
def F.internal_bytealg_IndexByteString:FuncId:=183
def F.internal_bytealg_MakeNoZero:FuncId:=184
def F.bits_TrailingZeros64:FuncId:=185
end Go.Ab
