/-
  A law of polynomials holds at every input that the statement speaks of, under the conditions that its card names. Part C1.
-/
import Derived.Test.YtkmighmagkmboaaGreatDoorB1
namespace Go.Ab
open Go
section
variable {call:cT} {md:Mode} {s:af} {h:aa}
@[go_sem] theorem acE:az call md .skip s h=some (.normal,⟨s,h⟩):=_root_.id rfl
@[go_sem] theorem aea (ks l):az call md (.ops ks l) s h=aK (ao call md l s h) fun s h=>some (.normal,⟨mk .any s ks,h⟩):=_root_.id rfl
@[go_sem] theorem aeb (is a):az call md (.frz is a) s h=aK (pg md.nm is s h) (az call md a):=_root_.id rfl
@[go_sem] theorem acF (ks l ps):az call md (.dops ks l ps) s h=aK (jM call md l ps s h) fun s h=>some (.normal,⟨mk .any s ks,h⟩):=_root_.id rfl
@[go_sem] theorem UC (a b):az call md (.seq a b) s h=dG (az call md a s h) (az call md b):=_root_.id rfl
@[go_sem] theorem acG (c a b):az call md (.cond c a b) s h=jN (az call md a s h) (az call md b s h) (ev s c):=_root_.id rfl
@[go_sem] theorem aak (id ks a):az call md (.block id ks a) s h=aI id ks (az call md a s h):=_root_.id rfl
@[go_sem] theorem acH (ks hs a):az call md (.loop ks hs a) s h=aU (az call md a) ks hs s h:=_root_.id rfl
@[go_sem] theorem acI (i):az call md (.exit i) s h=some (.exit i,⟨s,h⟩):=_root_.id rfl
@[go_sem] theorem aec:az call md .ret s h=some (.ret,⟨s,h⟩):=_root_.id rfl
@[go_sem] theorem RR (s h f):dG (some (.normal,⟨s,h⟩)) f=f s h:=_root_.id rfl
@[go_sem] theorem UD (i t f):dG (some (.exit i,t)) f=some (.exit i,t):=_root_.id rfl
@[go_sem] theorem Wy (t f):dG (some (.ret,t)) f=some (.ret,t):=_root_.id rfl
@[go_sem] theorem Ub (id ks i t):aI id ks (some (.exit i,t))=if i=id then some (.normal,⟨mk .any t.s ks,t.h⟩) else some (.exit i,t):=_root_.id rfl
@[go_sem] theorem Ra (id ks t):aI id ks (some (.normal,t))=some (.normal,⟨mk .any t.s ks,t.h⟩):=_root_.id rfl
@[go_sem] theorem UE (id ks t):aI id ks (some (.ret,t))=some (.ret,t):=_root_.id rfl
@[go_sem] theorem UF (a b):jN a b (.v (.bool true))=a:=_root_.id rfl
@[go_sem] theorem Uc (a b):jN a b (.v (.bool false))=b:=_root_.id rfl
@[go_sem] theorem RU (g t):EQ g (some (.normal,t))=g t.s t.h:=_root_.id rfl
@[go_sem] theorem UG (g i t):EQ g (some (.exit i,t))=some (.exit i,t):=_root_.id rfl
@[go_sem] theorem Wz (g t):EQ g (some (.ret,t))=some (.ret,t):=_root_.id rfl
@[go_sem] theorem UH {β:Type} (s h) (f:af→aa→Option β):aK (some ⟨s,h⟩) f=f s h:=_root_.id rfl
@[go_sem] theorem WA {β:Type} (c:Prop) [Decidable c] (x y:Option St) (f:af→aa→Option β):aK (if c then x else y) f=if c then aK x f else aK y f:=by split <;> rfl
@[go_sem] theorem WB (c:Prop) [Decidable c] (x y:Option (Ex × St)) (f:af→aa→Option (Ex × St)):dG (if c then x else y) f=if c then dG x f else dG y f:=by split <;> rfl
@[go_sem] theorem aal:ao call md [] s h=some ⟨s,h⟩:=_root_.id rfl
@[go_sem] theorem AW (d op rest):ao call md (⟨some d,none,.p op⟩::rest) s h=(dp s op).bind fun a=>ao call md rest (upd s d a) h:=by
 simp only [ao,gb,step,rm]
 cases dp s op with
 | none=>rfl
 | some a=>simp only [Option.map_some,bN,iN,if_true]; rfl
def cm (d n:Nat):COp:=⟨some d,none,.p (.mv (.t n))⟩
def co (d:Nat) (op:POp):COp:=⟨some d,none,.p op⟩
def cg (d j:Nat) (w:Bool) (op:POp):COp:=⟨some d,some (j,w),.p op⟩
@[go_sem] theorem acJ (d n rest):ao call md (cm d n::rest) s h=ao call md rest (upd s d (s n)) h:=AW d (.mv (.t n)) rest
@[go_sem] theorem acK (d op rest):ao call md (co d op::rest) s h=(dp s op).bind fun a=>ao call md rest (upd s d a) h:=AW d op rest
@[go_sem] theorem acL (d j w op rest):ao call md (cg d j w op::rest) s h=aK (fC (some d) w ((dp s op).map fun a=>⟨upd s d a,h⟩) s h (s j)) (ao call md rest):=by
 have:bN md.nm s (some d) (step call md d (.p op) s h)=(dp s op).map fun a=>⟨upd s d a,h⟩:=by
  simp only [step,rm]
  cases dp s op with
  | none=>rfl
  | some a=>simp only [Option.map_some,bN,iN,if_true]; rfl
 show aK (fC (some d) w (bN md.nm s (some d) (step call md d (.p op) s h)) s h (s j)) _=_
 rw [this]
def b2 (d:Nat) (op:BinOp) (a b:Nat):COp:=⟨some d,none,.p (.bin op (.t a) (.t b))⟩
def fa (d k a:Nat):COp:=⟨some d,none,.p (.fadr k (.t a))⟩
def nk (d a:Nat):COp:=⟨some d,none,.p (.nilck (.t a))⟩
def ld (d k a:Nat):COp:=⟨some d,none,.load k false (.t a)⟩
def la (d k a:Nat):COp:=⟨some d,none,.load k true (.t a)⟩
def ca (d f:Nat) (zas:List Opd):COp:=⟨some d,none,.call (.c (.fn f [] [])) zas⟩
def sr (k:Nat) (x y:Opd):COp:=⟨none,none,.store k x y⟩
def al (d:Nat) (z:List AV):COp:=⟨some d,none,.alloc z⟩
def bx (d k:Nat) (x:Opd):COp:=⟨some d,none,.box k x⟩
@[go_sem] theorem acM (d op a b rest):ao call md (b2 d op a b::rest) s h=(dB op (s a) (s b)).bind fun a=>ao call md rest (upd s d a) h:=AW d (.bin op (.t a) (.t b)) rest
@[go_sem] theorem acN (d k a rest):ao call md (fa d k a::rest) s h=(pM k (s a)).bind fun a=>ao call md rest (upd s d a) h:=AW d (.fadr k (.t a)) rest
@[go_sem] theorem acO (d a rest):ao call md (nk d a::rest) s h=(vY (s a)).bind fun a=>ao call md rest (upd s d a) h:=AW d (.nilck (.t a)) rest
@[go_sem] theorem acP (d k a rest):ao call md (ld d k a::rest) s h=aK (bN md.nm s (some d) (dW h k false (s a))) (ao call md rest):=_root_.id rfl
@[go_sem] theorem acQ (d k a rest):ao call md (la d k a::rest) s h=aK (bN md.nm s (some d) (dW h k true (s a))) (ao call md rest):=_root_.id rfl
@[go_sem] theorem acR (d f zas rest):ao call md (ca d f zas::rest) s h=aK (bN md.nm s (some d) (aj call md h d (zas.map (ev s)) (.fn f [] []))) (ao call md rest):=_root_.id rfl
@[go_sem] theorem acS (k x y rest):ao call md (sr k x y::rest) s h=aK (bN md.nm s none (fN h k (ev s x) (ev s y))) (ao call md rest):=_root_.id rfl
@[go_sem] theorem acT (d z rest):ao call md (al d z::rest) s h=aK (bN md.nm s (some d) (fO h d z [])) (ao call md rest):=_root_.id rfl
@[go_sem] theorem acU (d k x rest):ao call md (bx d k x::rest) s h=aK (bN md.nm s (some d) (rk h d k (ev s x))) (ao call md rest):=_root_.id rfl
@[go_sem] theorem aed (d j w op rest):ao call md (⟨d,some (j,w),op⟩::rest) s h=aK (fC d w (bN md.nm s d (step call md (d.getD 0) op s h)) s h (s j)) (ao call md rest):=_root_.id rfl
@[go_sem] theorem WC (d z rest):ao call md (⟨some d,none,.alloc z⟩::rest) s h=aK (bN md.nm s (some d) (fO h d z [])) (ao call md rest):=_root_.id rfl
@[go_sem] theorem aam (d k x rest):ao call md (⟨some d,none,.box k x⟩::rest) s h=aK (bN md.nm s (some d) (rk h d k (ev s x))) (ao call md rest):=_root_.id rfl
@[go_sem] theorem Ud (d k z n ps rest):ao call md (⟨some d,none,.buildSl k z n ps⟩::rest) s h=aK (bN md.nm s (some d) ((cZ k h (List.replicate n z) (ps.map fun p=>(p.1,ev s p.2))).bind fun q=>bR q.2.1 d k q.1 n q.2.2)) (ao call md rest):=_root_.id rfl
@[go_sem] theorem Yi (d k z b l c rest):ao call md (⟨some d,none,.mkSl k z b l c⟩::rest) s h=aK (bN md.nm s (some d) ((ue (ev s l) (ev s c)).bind fun p=>if p.2*b≤140737488355328 then bR h d k (List.replicate p.1 z) p.1 [] else none)) (ao call md rest):=_root_.id rfl
@[go_sem] theorem Yj (d k g x rest):ao call md (⟨some d,none,.load k g x⟩::rest) s h=aK (bN md.nm s (some d) (dW h k g (ev s x))) (ao call md rest):=_root_.id rfl
@[go_sem] theorem WD (d k x y rest):ao call md (⟨d,none,.store k x y⟩::rest) s h=aK (bN md.nm s d (fN h k (ev s x) (ev s y))) (ao call md rest):=_root_.id rfl
@[go_sem] theorem aan (d k b x y rest):ao call md (⟨some d,none,.app k b x y⟩::rest) s h=aK (bN md.nm s (some d) (yM h d k b (ev s x) (ev s y))) (ao call md rest):=_root_.id rfl
@[go_sem] theorem Yk (d f zas rest):ao call md (⟨some d,none,.call f zas⟩::rest) s h=aK (bN md.nm s (some d) (aj call md h d (zas.map (ev s)) (ev s f))) (ao call md rest):=_root_.id rfl
@[go_sem] theorem WE (f zas rest):ao call md (⟨none,none,.call f zas⟩::rest) s h=aK (bN md.nm s none (aj call md h 0 (zas.map (ev s)) (ev s f))) (ao call md rest):=_root_.id rfl
@[go_sem] theorem Yl (nm:Bool) (s d x h):bN nm s (some d) (some (x,h,[]))=some ⟨upd s d x,h⟩:=by simp only [bN,iN,if_true]; rfl
@[go_sem] theorem WF (nm:Bool) (s x h):bN nm s none (some (x,h,[]))=some ⟨s,h⟩:=by simp only [bN,iN,if_true]; rfl
@[go_sem] theorem acV (d op):step call md d (.p op) s h=rm h (dp s op):=_root_.id rfl
@[go_sem] theorem WG (d k g x):step call md d (.load k g x) s h=dW h k g (ev s x):=_root_.id rfl
@[go_sem] theorem WH (d f zas):step call md d (.call f zas) s h=aj call md h d (zas.map (ev s)) (ev s f):=_root_.id rfl
@[go_sem] theorem UI (d k x y):step call md d (.store k x y) s h=fN h k (ev s x) (ev s y):=_root_.id rfl
@[go_sem] theorem UJ (d z):step call md d (.alloc z) s h=fO h d z []:=_root_.id rfl
@[go_sem] theorem Ym (d k x):step call md d (.box k x) s h=rk h d k (ev s x):=_root_.id rfl
@[go_sem] theorem RW (d k z n ps):step call md d (.buildSl k z n ps) s h=(cZ k h (List.replicate n z) (ps.map fun p=>(p.1,ev s p.2))).bind fun q=>bR q.2.1 d k q.1 n q.2.2:=_root_.id rfl
@[go_sem] theorem WI (d k z b l c):step call md d (.mkSl k z b l c) s h=(ue (ev s l) (ev s c)).bind fun p=>if p.2*b≤140737488355328 then bR h d k (List.replicate p.1 z) p.1 [] else none:=_root_.id rfl
@[go_sem] theorem WJ (h a):rm h (some a)=some (a,h,[]):=_root_.id rfl
@[go_sem] theorem UK (d st s h):fC d true st s h (.v (.bool true))=st:=_root_.id rfl
@[go_sem] theorem UL (d st s h):fC d false st s h (.v (.bool false))=st:=_root_.id rfl
@[go_sem] theorem UM (d st s h):fC (some d) true st s h (.v (.bool false))=some ⟨upd s d .und,h⟩:=_root_.id rfl
@[go_sem] theorem UN (d st s h):fC (some d) false st s h (.v (.bool true))=some ⟨upd s d .und,h⟩:=_root_.id rfl
@[go_sem] theorem Ue (d w st s h):fC (some d) w st s h .und=some ⟨upd s d .und,h⟩:=_root_.id rfl
@[go_sem] theorem aeq (s n):ev s (.t n)=s n:=_root_.id rfl
@[go_sem] theorem aer (s a):ev s (.c a)=a:=_root_.id rfl
@[go_sem] theorem Yn (s):evo s none=none:=_root_.id rfl
@[go_sem] theorem Yo (s x):evo s (some x)=some (ev s x):=_root_.id rfl
@[go_sem] theorem acW {α:Type} (s:Nat→α) (d:Nat) (x:α) (i:Nat):upd s d x i=if i=d then x else s i:=_root_.id rfl
@[go_sem] theorem acX {α:Type} (d:α) (f:Nat→α):mk d f []=fun _=>d:=_root_.id rfl
@[go_sem] theorem aao {α:Type} (d:α) (f:Nat→α) (i l):mk d f (i::l)=upd (mk d f l) i (f i):=_root_.id rfl
@[go_sem] theorem aes (x):dp s (.mv x)=some (ev s x):=_root_.id rfl
@[go_sem] theorem acY (c a b):dp s (.pick c a b)=xB (ev s c) (ev s a) (ev s b):=_root_.id rfl
@[go_sem] theorem aap (x):dp s (.nilck x)=vY (ev s x):=_root_.id rfl
@[go_sem] theorem acZ (n x):dp s (.nilq n x)=xC n (ev s x):=_root_.id rfl
@[go_sem] theorem aee (op x y):dp s (.bin op x y)=dB op (ev s x) (ev s y):=_root_.id rfl
@[go_sem] theorem aet (op x):dp s (.un op x)=E2 op (ev s x):=_root_.id rfl
@[go_sem] theorem aeu (k x):dp s (.cv k x)=K9 k (ev s x):=_root_.id rfl
@[go_sem] theorem aef (x):dp s (.cv0 x)=Jy (ev s x):=_root_.id rfl
@[go_sem] theorem aeg (k x lo hi mx):dp s (.slc k x lo hi mx)=dK k (ev s x) (evo s lo) (evo s hi) (evo s mx):=_root_.id rfl
@[go_sem] theorem ac0 (x lo hi):dp s (.slcS x lo hi)=EH (ev s x) (evo s lo) (evo s hi):=_root_.id rfl
@[go_sem] theorem ac1 (o x):dp s (.fadr o x)=pM o (ev s x):=_root_.id rfl
@[go_sem] theorem aeh (o k g x):dp s (.fld o k g x)=E4 o k g (ev s x):=_root_.id rfl
@[go_sem] theorem aaq (k x i):dp s (.iadrS k x i)=mJ k (ev s x) (ev s i):=_root_.id rfl
@[go_sem] theorem aar (n k x i):dp s (.iadrA n k x i)=td n k (ev s x) (ev s i):=_root_.id rfl
@[go_sem] theorem ac2 (x i):dp s (.idxS x i)=xD (ev s x) (ev s i):=_root_.id rfl
@[go_sem] theorem ac3 (n k g x i):dp s (.idxA n k g x i)=EI n k g (ev s x) (ev s i):=_root_.id rfl
@[go_sem] theorem aei (i x):dp s (.ext i x)=E5 i (ev s x):=_root_.id rfl
@[go_sem] theorem aej (m x):dp s (.len m x)=jh m (ev s x):=_root_.id rfl
@[go_sem] theorem aek (m t x y):dp s (.eqc m t x y)=EZ m t (ev s x) (ev s y):=_root_.id rfl
@[go_sem] theorem ac4 (x):dp s (.capp x)=BH (ev s x):=_root_.id rfl
@[go_sem] theorem ael (m x ys):dp s (.mnx m x ys)=sC m (ev s x) (ys.map (ev s)):=_root_.id rfl
@[go_sem] theorem aas (z ps):dp s (.build z ps)=(nZ z (ps.map fun p=>(p.1,p.2.1,ev s p.2.2))).map .agg:=_root_.id rfl
@[go_sem] theorem aem (f a b):dp s (.mkF f a b)=some (.fn f (a.map (ev s)) (b.map (ev s))):=_root_.id rfl
@[go_sem] theorem WK (a b):xB (.v (.bool true)) a b=some a:=_root_.id rfl
@[go_sem] theorem UO (a b):xB (.v (.bool false)) a b=some b:=_root_.id rfl
@[go_sem] theorem Yp (id sub k i j):vY (.ref id sub k i j)=some (.ref id sub k i j):=_root_.id rfl
@[go_sem] theorem Yq (cs):vY (.ipt cs)=some (.ipt cs):=_root_.id rfl
@[go_sem] theorem aat (f a b):vY (.fn f a b)=some (.fn f a b):=_root_.id rfl
theorem i7 (op a b):dB op (.v a) (.v b)=(fv op a b).map .v:=_root_.id rfl
@[go_sem] theorem aau (k a b):dB .add (.v (.int k a)) (.v (.int k b))=some (.v (.int k (k.wrap (a+b)))):=by simp [i7,fv,lw]
@[go_sem] theorem aav (k a b):dB .sub (.v (.int k a)) (.v (.int k b))=some (.v (.int k (k.wrap (a - b)))):=by simp [i7,fv,lw]
@[go_sem] theorem aaw (k a b):dB .mul (.v (.int k a)) (.v (.int k b))=some (.v (.int k (k.wrap (a*b)))):=by simp [i7,fv,lw]
@[go_sem] theorem P0 (k a b):dB .quo (.v (.int k a)) (.v (.int k b))=if b=0 then none else some (.v (.int k (k.wrap (a.tdiv b)))):=by simp only [i7,fv,lw,if_true]; split <;> rfl
@[go_sem] theorem IG (k a b):dB .rem (.v (.int k a)) (.v (.int k b))=if b=0 then none else some (.v (.int k (a.tmod b))):=by simp only [i7,fv,lw,if_true]; split <;> rfl
@[go_sem] theorem aax (k a b):dB .and (.v (.int k a)) (.v (.int k b))=some (.v (.int k (k.wrap ((BitVec.ofInt k.bits a &&& BitVec.ofInt k.bits b).toNat)))):=by simp [i7,fv,lw]
@[go_sem] theorem RX (k a b):dB .or (.v (.int k a)) (.v (.int k b))=some (.v (.int k (k.wrap ((BitVec.ofInt k.bits a ||| BitVec.ofInt k.bits b).toNat)))):=by simp [i7,fv,lw]
@[go_sem] theorem P1 (k k' a b):dB .shl (.v (.int k a)) (.v (.int k' b))=if b < 0 then none else some (.v (.int k (k.wrap (a*2 ^ (min b.toNat k.bits))))):=by simp only [i7,fv,Nc]; split <;> rfl
@[go_sem] theorem BW (k k' a b):dB .shr (.v (.int k a)) (.v (.int k' b))=if b < 0 then none else some (.v (.int k (a.fdiv (2 ^ (min b.toNat k.bits))))):=by simp only [i7,fv,Nd]; split <;> rfl
@[go_sem] theorem aay (k a b):dB .lss (.v (.int k a)) (.v (.int k b))=some (B (decide (a < b))):=by simp [i7,fv,lw]
@[go_sem] theorem aaz (k a b):dB .leq (.v (.int k a)) (.v (.int k b))=some (B (decide (a≤b))):=by simp [i7,fv,lw]
@[go_sem] theorem aaA (k a b):dB .gtr (.v (.int k a)) (.v (.int k b))=some (B (decide (b < a))):=by simp [i7,fv,lw]
@[go_sem] theorem aaB (k a b):dB .geq (.v (.int k a)) (.v (.int k b))=some (B (decide (b≤a))):=by simp [i7,fv,lw]
@[go_sem] theorem aaC (k a b):dB .eql (.v (.int k a)) (.v (.int k b))=some (B (decide (a=b))):=by simp [i7,fv,lw]; rfl
@[go_sem] theorem aaD (k a b):dB .neq (.v (.int k a)) (.v (.int k b))=some (B (!decide (a=b))):=by simp [i7,fv,lw,bne]; rfl
@[go_sem] theorem ac5 (k a):E2 .neg (.v (.int k a))=some (.v (.int k (k.wrap (0 - a)))):=_root_.id rfl
@[go_sem] theorem ac6 (k a):E2 .xor (.v (.int k a))=some (.v (.int k (k.wrap ((BitVec.ofInt k.bits (if k.signed then -1 else k.max) ^^^ BitVec.ofInt k.bits a).toNat)))):=_root_.id rfl
@[go_sem] theorem aaE (k a b):dB .xor (.v (.int k a)) (.v (.int k b))=some (.v (.int k (k.wrap ((BitVec.ofInt k.bits a ^^^ BitVec.ofInt k.bits b).toNat)))):=by simp [i7,fv,lw]
@[go_sem] theorem ac7 (b):E2 .not (.v (.bool b))=some (B (!b)):=_root_.id rfl
@[go_sem] theorem ac8 (k k' n):K9 k (.v (.int k' n))=some (.v (.int k (k.wrap n))):=_root_.id rfl
@[go_sem] theorem Yr (o id sub k i j):pM o (.ref id sub k i j)=some (.ref id sub k i (j+o)):=_root_.id rfl
@[go_sem] theorem Ys (o cs):pM o (.ipt cs)=some (.ipt (cs.drop o)):=_root_.id rfl
@[go_sem] theorem aaF (o k g cs):E4 o k g (.agg cs)=im k g cs o:=_root_.id rfl
@[go_sem] theorem WL (k cs o):im k false cs o=cs[o]?:=_root_.id rfl
@[go_sem] theorem Yt (k cs o):im k true cs o=if o+k≤cs.length then some (.agg ((cs.drop o).take k)) else none:=_root_.id rfl
@[go_sem] theorem aaG (k rows k' i):mJ k (.sl k rows) (.v (.int k' i))=bH rows i:=by simp [mJ]
@[go_sem] theorem Yu (k id sub lo n k' i):mJ k (.rsl id sub k lo n) (.v (.int k' i))=if 0≤i∧i < n then some (.ref id sub k (lo+i.toNat) 0) else none:=by simp [mJ]
@[go_sem] theorem WM (n k id sub k' a j kk i):td n k (.ref id sub k' a j) (.v (.int kk i))=if 0≤i∧i < n then some (.ref id sub k' a (j+i.toNat*k)) else none:=_root_.id rfl
@[go_sem] theorem WN (n k cs kk i):td n k (.ipt cs) (.v (.int kk i))=if 0≤i∧i < n then some (.ipt (cs.drop (i.toNat*k))) else none:=_root_.id rfl
@[go_sem] theorem aaH (i vs):E5 i (.tup vs)=vs[i]?:=_root_.id rfl
@[go_sem] theorem ac9 (k rows):jh false (.sl k rows)=some (I rows.length):=_root_.id rfl
@[go_sem] theorem aaI:jh false .emp=some (I 0):=_root_.id rfl
@[go_sem] theorem aaJ (a b c d n):jh false (.rsl a b c d n)=some (I n):=_root_.id rfl
@[go_sem] theorem aaK (x):jh true (.v (.string x))=some (I x.size):=_root_.id rfl
@[go_sem] theorem Yv (m a):sC m a []=some a:=_root_.id rfl
@[go_sem] theorem WO (m a b l):sC m a (b::l)=(BI m a b).bind fun c=>sC m c l:=_root_.id rfl
@[go_sem] theorem aaL (k k' x y):BI true (.v (.int k x)) (.v (.int k' y))=some (.v (.int k (if y < x then y else x))):=_root_.id rfl
@[go_sem] theorem aaM (k k' x y):BI false (.v (.int k x)) (.v (.int k' y))=some (.v (.int k (if x < y then y else x))):=_root_.id rfl
@[go_sem] theorem Yw (m a b):EZ m 0 (.v (.bool a)) (.v (.bool b))=some (B (m != (a == b))):=_root_.id rfl
@[go_sem] theorem WP (z):nZ z []=some z:=_root_.id rfl
@[go_sem] theorem UP (z o k a ps):nZ z ((o,k,a)::ps)=(dA a).bind fun cs=>if cs.length=k∧o+k≤z.length then nZ (setRow z o cs) ps else none:=_root_.id rfl
@[go_sem] theorem WQ (cs):dA (.agg cs)=some cs:=_root_.id rfl
@[go_sem] theorem aaN (x):dA (.v x)=some [.v x]:=_root_.id rfl
@[go_sem] theorem WR:dA .emp=some [.emp]:=_root_.id rfl
@[go_sem] theorem Yx (k r):dA (.sl k r)=some [.sl k r]:=_root_.id rfl
@[go_sem] theorem WS (a b c d e):dA (.rsl a b c d e)=some [.rsl a b c d e]:=_root_.id rfl
@[go_sem] theorem WT (a b c d e):dA (.ref a b c d e)=some [.ref a b c d e]:=_root_.id rfl
@[go_sem] theorem Yy (f a b):dA (.fn f a b)=some [.fn f a b]:=_root_.id rfl
@[go_sem] theorem UQ (r j):setRow r j []=r:=_root_.id rfl
@[go_sem] theorem Uf (r j c cs):setRow r j (c::cs)=setRow (r.set j c) (j+1) cs:=_root_.id rfl
@[go_sem] theorem Yz (h k g cs):dW h k g (.ipt cs)=(im k g cs 0).map fun a=>(a,h,[]):=_root_.id rfl
@[go_sem] theorem YA (h k g id k0 i j):dW h k g (.ref id none k0 i j)=pO h k g id k0 i j (h id):=_root_.id rfl
@[go_sem] theorem YB (h k g id p k0 i j):dW h k g (.ref id (some p) k0 i j)=jH h k g k0 i j (gz p (h id)):=_root_.id rfl
@[go_sem] theorem YC (h k g id k0 i j cs):pO h k g id k0 i j (.bx cs)=ub h id (i*k0+j) k g cs:=_root_.id rfl
@[go_sem] theorem YD (h k g id k0 i j k' rows):pO h k g id k0 i j (.ar k' rows)=jH h k g k0 i j (some (k',rows)):=_root_.id rfl
@[go_sem] theorem YE (h k g id k0 i j k' rows):pO h k g id k0 i j (.fz k' rows)=jH h k g k0 i j (some (k',rows)):=_root_.id rfl
@[go_sem] theorem UR (h id p k cs):ub h id p k false cs=(cs[p]?).map fun c=>(pN id p c,h,[]):=_root_.id rfl
@[go_sem] theorem WU (h id p k cs):ub h id p k true cs=if p+k≤cs.length then (if ((cs.drop p).take k).any aN then some (.agg (((cs.map gK).drop p).take k),upd h id (.bx (cs.map gK)),[(id,true)]) else some (.agg ((cs.drop p).take k),h,[])) else none:=_root_.id rfl
@[go_sem] theorem aaO (id p x):pN id p (.v x)=.v x:=_root_.id rfl
@[go_sem] theorem WV (id p):pN id p .emp=.emp:=_root_.id rfl
@[go_sem] theorem YF (id p k r):pN id p (.sl k r)=.sl k r:=_root_.id rfl
@[go_sem] theorem WX (id p a b c d e):pN id p (.ref a b c d e)=.ref a b c d e:=_root_.id rfl
@[go_sem] theorem YG (id p f a b):pN id p (.fn f a b)=.fn f a b:=_root_.id rfl
@[go_sem] theorem WY (id p k r):pN id p (.osl k r)=.rsl id (some p) k 0 r.length:=_root_.id rfl
@[go_sem] theorem US (h k g i j k' rows):jH h k g k' i j (some (k',rows))=(rows[i]?).bind fun row=>(im k g row j).map fun a=>(a,h,[]):=by simp [jH]
@[go_sem] theorem aaP (x):aN (.v x)=false:=_root_.id rfl
@[go_sem] theorem WZ:aN .emp=false:=_root_.id rfl
@[go_sem] theorem YH (k r):aN (.sl k r)=false:=_root_.id rfl
@[go_sem] theorem W0 (k r):aN (.osl k r)=true:=_root_.id rfl
@[go_sem] theorem W7 (a b c d e):aN (.ref a b c d e)=false:=_root_.id rfl
@[go_sem] theorem YI (f a b):aN (.fn f a b)=false:=_root_.id rfl
@[go_sem] theorem ada (x):ak (.v x)=true:=_root_.id rfl
@[go_sem] theorem YJ:ak .emp=true:=_root_.id rfl
@[go_sem] theorem aaQ (k r):ak (.sl k r)=true:=_root_.id rfl
@[go_sem] theorem YK (a b c d e):ak (.rsl a b c d e)=false:=_root_.id rfl
@[go_sem] theorem YL (a b c d e):ak (.ref a b c d e)=false:=_root_.id rfl
@[go_sem] theorem YM (f):ak (.fn f [] [])=true:=_root_.id rfl
@[go_sem] theorem aaR (cs):dat (.agg cs)=cs.all ak:=_root_.id rfl
@[go_sem] theorem aen (x):dat (.v x)=true:=_root_.id rfl
@[go_sem] theorem aaS:dat .emp=true:=_root_.id rfl
@[go_sem] theorem adb (k r):dat (.sl k r)=true:=_root_.id rfl
@[go_sem] theorem aaT (a b c d e):dat (.rsl a b c d e)=false:=_root_.id rfl
@[go_sem] theorem aaU (a b c d e):dat (.ref a b c d e)=false:=_root_.id rfl
@[go_sem] theorem aaV (f):dat (.fn f [] [])=true:=_root_.id rfl
@[go_sem] theorem YN (h d cs ks):fO h d cs ks=rj h d (.ref d none 0 0 0) (.bx cs) ks (h d):=_root_.id rfl
@[go_sem] theorem W8 (h d a o ks):rj h d a o ks .dead=some (a,upd h d o,ks):=_root_.id rfl
@[go_sem] theorem UT (h d k rows n ks):bR h d k rows n ks=rj h d (.rsl d none k 0 n) (.ar k rows) ks (h d):=_root_.id rfl
@[go_sem] theorem adc (h d k x):rk h d k x=(dA x).bind fun xs=>if xs.length=k then (if xs.all ak then fO h d xs [] else (fO h d (List.replicate k .any) []).bind (Ng d 0 xs)) else none:=_root_.id rfl
@[go_sem] theorem RY (k h rows):cZ k h rows []=some (rows,h,[]):=_root_.id rfl
@[go_sem] theorem Rb (k h rows i a ps):cZ k h rows ((i,a)::ps)=(dA a).bind fun cs=>if cs.length=k∧i < rows.length then (dE h cs).bind fun q=>(cZ k q.2.1 (rows.set i q.1) ps).bind fun r=>some (r.1,r.2.1,q.2.2++r.2.2) else none:=_root_.id rfl
@[go_sem] theorem W9 (h):dE h []=some ([],h,[]):=_root_.id rfl
@[go_sem] theorem UU (h a l):dE h (a::l)=(dv h a).bind fun p=>(dE p.2.1 l).bind fun q=>some (p.1::q.1,q.2.1,p.2.2++q.2.2):=_root_.id rfl
@[go_sem] theorem ade (h x):dv h (.v x)=some (.v x,h,[]):=_root_.id rfl
@[go_sem] theorem YO (h):dv h .emp=some (.emp,h,[]):=_root_.id rfl
@[go_sem] theorem aaW (h k r):dv h (.sl k r)=some (.sl k r,h,[]):=_root_.id rfl
@[go_sem] theorem aaX (h f):dv h (.fn f [] [])=some (.fn f [] [],h,[]):=_root_.id rfl
@[go_sem] theorem YP (h id k lo n):dv h (.rsl id none k lo n)=jj h id k lo n (h id):=_root_.id rfl
@[go_sem] theorem Xa (h id p k lo n):dv h (.rsl id (some p) k lo n)=wc h id p k lo n (h id):=_root_.id rfl
@[go_sem] theorem aaY (h id k lo n rows):jj h id k lo n (.ar k rows)=if lo+n≤rows.length then some (ji k lo n rows,upd h id (.fz k rows),[]) else none:=by simp [jj]
@[go_sem] theorem aaZ (h id k lo n rows):jj h id k lo n (.fz k rows)=if lo+n≤rows.length then some (ji k lo n rows,h,[]) else none:=by simp [jj]
@[go_sem] theorem aa0 (k lo n rows):ji k lo n rows=.sl k ((rows.drop lo).take n):=_root_.id rfl
@[go_sem] theorem Xb (h k id k0 i j x):fN h k (.ref id none k0 i j) x=(dA x).bind fun xs=>if xs.length=k then sE h k id k0 i j xs (h id) else none:=_root_.id rfl
@[go_sem] theorem Xc (h k id p k0 i j x):fN h k (.ref id (some p) k0 i j) x=(dA x).bind fun xs=>if xs.length=k then (dE h xs).bind fun q=>xE q.2.1 k id p k0 i j q.1 q.2.2 (q.2.1 id) else none:=_root_.id rfl
@[go_sem] theorem aa1 (h k id k0 i j xs cs):sE h k id k0 i j xs (.bx cs)=BJ h id (i*k0+j) k xs cs:=_root_.id rfl
@[go_sem] theorem aa2 (h k id k0 i j xs k' rows):sE h k id k0 i j xs (.ar k' rows)=(dE h xs).bind fun q=>BK q.2.1 id k k0 i j q.1 q.2.2 (q.2.1 id):=_root_.id rfl
@[go_sem] theorem aa3 (h id k k0 i j xs ks k' rows):BK h id k k0 i j xs ks (.ar k' rows)=(wd k k0 i j xs k' rows).map fun q=>(.und,upd h id (.ar k' q),ks):=_root_.id rfl
@[go_sem] theorem aa4 (k k0 i j cs rows):wd k k0 i j cs k0 rows=(rows[i]?).bind fun row=>if j+k≤row.length then some (rows.set i (setRow row j cs)) else none:=by simp [wd]
@[go_sem] theorem aa5 (h id p k xs cs):BJ h id p k xs cs=if p+k≤cs.length then (if xs.all ak then some (.und,upd h id (.bx (setRow cs p xs)),if ((cs.drop p).take k).any aN then [(id,true)] else []) else (mM h id p xs.length xs).map fun q=>(.und,q.1,q.2)) else none:=_root_.id rfl
@[go_sem] theorem aa6 (hs x):eF hs (.v x)=.v x:=_root_.id rfl
@[go_sem] theorem Xd (hs):eF hs .emp=.emp:=_root_.id rfl
@[go_sem] theorem YQ (hs k r):eF hs (.sl k r)=.sl k r:=_root_.id rfl
@[go_sem] theorem Xe (hs):eF hs .any=.any:=_root_.id rfl
@[go_sem] theorem Xf (hs cs):eF hs (.ipt cs)=.ipt cs:=_root_.id rfl
@[go_sem] theorem Xg (hs id sub k lo n):eF hs (.rsl id sub k lo n)=if hs.contains id then .rsl id sub k lo n else .any:=_root_.id rfl
@[go_sem] theorem Xh (hs id sub k lo n):eF hs (.ref id sub k lo n)=if hs.contains id then .ref id sub k lo n else .any:=_root_.id rfl
@[go_sem] theorem Xi (hs cs):eF hs (.agg cs)=if cs.all (knownL hs) then .agg cs else .any:=_root_.id rfl
@[go_sem] theorem Xj (hs f):eF hs (.fn f [] [])=.fn f [] []:=_root_.id rfl
@[go_sem] theorem YR (hs f a b):eF hs (.fn f a b)=if a.all (knownL hs) && b.all (knownL hs) then .fn f a b else .any:=_root_.id rfl
@[go_sem] theorem YS (hs x):knownL hs (.v x)=true:=_root_.id rfl
@[go_sem] theorem UV (hs):knownL hs .emp=true:=_root_.id rfl
@[go_sem] theorem Xk (hs k r):knownL hs (.sl k r)=true:=_root_.id rfl
@[go_sem] theorem UW (hs id a b c d):knownL hs (.ref id a b c d)=hs.contains id:=_root_.id rfl
@[go_sem] theorem RZ (hs):aB hs .dead=true:=_root_.id rfl
@[go_sem] theorem UX (hs k r):aB hs (.ar k r)=true:=_root_.id rfl
@[go_sem] theorem UY (hs k r):aB hs (.fz k r)=true:=_root_.id rfl
@[go_sem] theorem UZ (hs cs):aB hs (.bx cs)=cs.all (en hs):=_root_.id rfl
@[go_sem] theorem Xl (hs x):en hs (.v x)=true:=_root_.id rfl
@[go_sem] theorem Ug (hs):en hs .emp=true:=_root_.id rfl
@[go_sem] theorem U0 (hs k r):en hs (.sl k r)=true:=_root_.id rfl
@[go_sem] theorem Uh (hs k r):en hs (.osl k r)=true:=_root_.id rfl
@[go_sem] theorem Ui (hs id a b c):en hs (.ref id none a b c)=hs.contains id:=by simp [en,aN,aJ,aO]
@[go_sem] theorem Uj (hs f):en hs (.fn f [] [])=true:=_root_.id rfl
@[go_sem] theorem U1 {α β:Type} (f:α→β) (a):Option.map f (some a)=some (f a):=_root_.id rfl
@[go_sem] theorem U2 {α β:Type} (f:α→β):Option.map f none=none:=_root_.id rfl
@[go_sem] theorem Uk {α β:Type} (f:α→Option β) (a):(some a).bind f=f a:=_root_.id rfl
@[go_sem] theorem Ul {α β:Type} (f:α→Option β):(none:Option α).bind f=none:=_root_.id rfl
@[go_sem] theorem Um {α:Type} (a b:α):(some a).getD b=a:=_root_.id rfl
@[go_sem] theorem Xm {α:Type} (p:α→Bool):[].all p=true:=_root_.id rfl
@[go_sem] theorem U3 {α:Type} (p:α→Bool) (a l):(a::l).all p=(p a && l.all p):=_root_.id rfl
@[go_sem] theorem Xn {α:Type} (p:α→Bool):[].any p=false:=_root_.id rfl
@[go_sem] theorem U4 {α:Type} (p:α→Bool) (a l):(a::l).any p=(p a || l.any p):=_root_.id rfl
@[go_sem] theorem U5 {α:Type} (a:α) (l):(a::l)[0]?=some a:=_root_.id rfl
@[go_sem] theorem U6 {α:Type} (a:α) (l) (n:Nat):(a::l)[n+1]?=l[n]?:=_root_.id rfl
@[go_sem] theorem Xo {α β:Type} (f:α→β):[].map f=[]:=_root_.id rfl
@[go_sem] theorem U7 {α β:Type} (f:α→β) (a l):(a::l).map f=f a::l.map f:=_root_.id rfl
@[go_sem] theorem YT {α β:Type} (f:α→List β):[].flatMap f=[]:=_root_.id rfl
@[go_sem] theorem Xp {α β:Type} (f:α→List β) (a l):(a::l).flatMap f=f a++l.flatMap f:=_root_.id rfl
@[go_sem] theorem Xq {α:Type} (l:List α):l++[]=l:=List.append_nil l
@[go_sem] theorem Xr {α:Type} (l:List α):[]++l=l:=_root_.id rfl
@[go_sem] theorem U8 {α:Type} (a:α) (l r):(a::l)++r=a::(l++r):=_root_.id rfl
@[go_sem] theorem Xs {α:Type}:([]:List α).length=0:=_root_.id rfl
@[go_sem] theorem U9 {α:Type} (a:α) (l):(a::l).length=l.length+1:=_root_.id rfl
@[go_sem] theorem Un {α:Type} (l:List α):l.drop 0=l:=_root_.id rfl
@[go_sem] theorem Uo {α:Type} (a:α) (l) (n:Nat):(a::l).drop (n+1)=l.drop n:=_root_.id rfl
@[go_sem] theorem Up {α:Type} (l:List α):l.take 0=[]:=_root_.id rfl
@[go_sem] theorem Uq {α:Type} (a:α) (l) (n:Nat):(a::l).take (n+1)=a::l.take n:=_root_.id rfl
@[go_sem] theorem R1 {α:Type} (p:α→Bool):[].filter p=[]:=_root_.id rfl
@[go_sem] theorem Va {α:Type} (a b:α) (l):(a::l).set 0 b=b::l:=_root_.id rfl
@[go_sem] theorem Vb {α:Type} (a b:α) (l) (n:Nat):(a::l).set (n+1) b=a::l.set n b:=_root_.id rfl
@[go_sem] theorem adf {α:Type} (a:α):List.replicate 0 a=[]:=_root_.id rfl
@[go_sem] theorem adg {α:Type} (a:α):List.replicate 1 a=[a]:=_root_.id rfl
@[go_sem] theorem adh {α:Type} (a:α):List.replicate 2 a=[a,a]:=_root_.id rfl
@[go_sem] theorem adi {α:Type} (a:α):List.replicate 3 a=[a,a,a]:=_root_.id rfl
@[go_sem] theorem adj {α:Type} (a:α):List.replicate 4 a=[a,a,a,a]:=_root_.id rfl
@[go_sem] theorem adk {α:Type} (a:α):List.replicate 5 a=[a,a,a,a,a]:=_root_.id rfl
@[go_sem] theorem aev:decide True=true:=_root_.id rfl
@[go_sem] theorem aew:decide False=false:=_root_.id rfl
@[go_sem] theorem aa7 (b:Bool):(true && b)=b:=_root_.id rfl
@[go_sem] theorem aa8 (b:Bool):(false && b)=false:=_root_.id rfl
@[go_sem] theorem adl (b:Bool):(true || b)=true:=_root_.id rfl
@[go_sem] theorem adm (b:Bool):(false || b)=b:=_root_.id rfl
@[go_sem] theorem aa9:(!true)=false:=_root_.id rfl
@[go_sem] theorem aba:(!false)=true:=_root_.id rfl
@[go_sem] theorem abb (b:Bool):(b && true)=b:=Bool.and_true b
@[go_sem] theorem aex:(false=true)=False:=by simp
@[go_sem] theorem aeo {α:Type} (a:α):(a=a)=True:=by simp
@[go_sem] theorem adn (p:Prop):(True∧p)=p:=by simp
@[go_sem] theorem abc (p:Prop):(p∧True)=p:=by simp
@[go_sem] theorem ado (p:Prop):(False∧p)=False:=by simp
@[go_sem] theorem adp:(¬ False)=True:=by simp
@[go_sem] theorem adq:(¬ True)=False:=by simp
@[go_sem] theorem YV (nm rs res n t):ajf nm rs res n (some (.ret,t))=rn nm rs res n t.s t.h:=_root_.id rfl
@[go_sem] theorem Ur (nm rs res n t):ajf nm rs res n (some (.normal,t))=rn nm rs res n t.s t.h:=_root_.id rfl
@[go_sem] theorem Xt (nm rs res n s h):rn nm rs res n s h=(n8 s h res).bind fun q=>if jK nm q.2.2 then n9 rs n q.2.1 q.1 else none:=_root_.id rfl
@[go_sem] theorem adr (nm:Bool):jK nm []=true:=iN nm
@[go_sem] theorem Xu (s h):n8 s h []=some ([],h,[]):=_root_.id rfl
@[go_sem] theorem abd (s h n l):n8 s h (.t n::l)=(n8 s h l).bind fun q=>some (Fg q.2.2 (s n)::q.1,q.2.1,q.2.2):=_root_.id rfl
@[go_sem] theorem Vc (s h n k g l):n8 s h (.cell n k g::l)=(dW h k g (s n)).bind fun p=>(n8 (eN p.2.2 s) p.2.1 l).bind fun q=>some (Fg q.2.2 p.1::q.1,q.2.1,p.2.2++q.2.2):=_root_.id rfl
@[go_sem] theorem YW (a):Fg [] a=a:=_root_.id rfl
@[go_sem] theorem Xv (s):eN [] s=s:=_root_.id rfl
@[go_sem] theorem ads (rs h vs):n9 rs 0 h vs=if fw ((vs.flatMap bk).filter fun i=>!aG i) then (lX h vs).map fun us=>(kX (aM rs us),[]) else none:=by simp [n9,bU]
@[go_sem] theorem Xw (h):lX h []=some []:=_root_.id rfl
@[go_sem] theorem Vd (h a l):lX h (a::l)=(lA h a).bind fun b=>(lX h l).bind fun q=>some (b::q):=_root_.id rfl
@[go_sem] theorem adt (h x):lA h (.v x)=some (.v x):=_root_.id rfl
@[go_sem] theorem YX (h):lA h .emp=some .emp:=_root_.id rfl
@[go_sem] theorem abe (h k r):lA h (.sl k r)=some (.sl k r):=_root_.id rfl
@[go_sem] theorem YY (h cs):lA h (.agg cs)=(gg h cs).map .agg:=_root_.id rfl
@[go_sem] theorem YZ (h id k lo n):lA h (.rsl id none k lo n)=if aG id then none else qq k lo n (h id):=_root_.id rfl
@[go_sem] theorem abf (k lo n rows):qq k lo n (.ar k rows)=if lo+n≤rows.length then (if lo=0∧n=rows.length then some (.osl k rows) else some (ji k lo n rows)) else none:=by simp [qq]
@[go_sem] theorem abg (k lo n rows):qq k lo n (.fz k rows)=if lo+n≤rows.length then some (ji k lo n rows) else none:=by simp [qq]
@[go_sem] theorem Xx (h):gg h []=some []:=_root_.id rfl
@[go_sem] theorem abh (h x l):gg h (.v x::l)=(gg h l).bind fun q=>some (.v x::q):=_root_.id rfl
@[go_sem] theorem Xy (h l):gg h (.emp::l)=(gg h l).bind fun q=>some (.emp::q):=_root_.id rfl
@[go_sem] theorem Y0 (h k r l):gg h (.sl k r::l)=(gg h l).bind fun q=>some (.sl k r::q):=_root_.id rfl
@[go_sem] theorem Xz (h id k lo n l):gg h (.rsl id none k lo n::l)=(ge h (.rsl id none k lo n)).bind fun b=>(qt b).bind fun c=>(gg h l).bind fun q=>some (c::q):=_root_.id rfl
@[go_sem] theorem Y3 (h id k lo n):ge h (.rsl id none k lo n)=if aG id then none else qq k lo n (h id):=_root_.id rfl
@[go_sem] theorem Y4 (k r):qt (.osl k r)=some (.sl k r):=_root_.id rfl
@[go_sem] theorem abi (k r):qt (.sl k r)=some (.sl k r):=_root_.id rfl
@[go_sem] theorem abj (a):kX [a]=a:=_root_.id rfl
@[go_sem] theorem abk (a b l):kX (a::b::l)=.tup (a::b::l):=_root_.id rfl
@[go_sem] theorem abl:kX []=.tup []:=_root_.id rfl
@[go_sem] theorem XA (l):aM [] l=l:=by cases l <;> simp [aM]
@[go_sem] theorem Ve (s):aM s []=[]:=by cases s <;> simp [aM]
@[go_sem] theorem Vf (s ss a l):aM (s::ss) (a::l)=nrmV s a::aM ss l:=_root_.id rfl
@[go_sem] theorem NH (a):nrmV [] a=a:=by cases a <;> simp [nrmV,nrmL,cf]
@[go_sem] theorem Y5 (ss cs):nrmV ss (.agg cs)=.agg (cf ss cs):=_root_.id rfl
@[go_sem] theorem adu (ss x):nrmV ss (.v x)=.v x:=by
 show nrmL _ _=_
 generalize ss.headD (.o 0 [])=s
 obtain ⟨k,cs⟩:=s
 cases k <;> simp [nrmL]
@[go_sem] theorem Y6 (k cs ss):nrmV (.o (k+1) cs::ss) .emp=.sl k []:=by simp [nrmV,nrmL]
@[go_sem] theorem abm (k cs ss k' rows):nrmV (.o (k+1) cs::ss) (.sl k' rows)=.sl k' (rows.map (cf cs)):=by simp [nrmV,nrmL]
@[go_sem] theorem Y7 (k cs ss k' rows):nrmV (.o (k+1) cs::ss) (.osl k' rows)=.sl k' (rows.map (cf cs)):=by simp [nrmV,nrmL]
@[go_sem] theorem NI (l):cf [] l=l:=by cases l <;> simp [cf]
@[go_sem] theorem XB (l):cf l []=[]:=by cases l <;> simp [cf]
@[go_sem] theorem XC (s ss a l):cf (s::ss) (a::l)=nrmL s a::cf ss l:=by simp [cf]
@[go_sem] theorem adv (cs a):nrmL (.o 0 cs) a=a:=by simp [nrmL]
@[go_sem] theorem Y8 (k cs):nrmL (.o (k+1) cs) .emp=.sl k []:=by simp [nrmL]
@[go_sem] theorem abn (k cs k' rows):nrmL (.o (k+1) cs) (.sl k' rows)=.sl k' (rows.map (cf cs)):=by simp [nrmL]
@[go_sem] theorem adw (k cs x):nrmL (.o k cs) (.v x)=.v x:=by cases k <;> simp [nrmL]
@[go_sem] theorem adx (x):bk (.v x)=[]:=_root_.id rfl
@[go_sem] theorem Y9:bk .emp=[]:=_root_.id rfl
@[go_sem] theorem abo (k r):bk (.sl k r)=[]:=_root_.id rfl
@[go_sem] theorem Za (cs):bk (.agg cs)=cs.flatMap cP:=_root_.id rfl
@[go_sem] theorem Zb (a b c d e):bk (.rsl a b c d e)=[a]:=_root_.id rfl
@[go_sem] theorem ady (x):cP (.v x)=[]:=_root_.id rfl
@[go_sem] theorem Zc:cP .emp=[]:=_root_.id rfl
@[go_sem] theorem abp (k r):cP (.sl k r)=[]:=_root_.id rfl
@[go_sem] theorem Zd (a b c d e):cP (.rsl a b c d e)=[a]:=_root_.id rfl
@[go_sem] theorem Vg:fw []=true:=_root_.id rfl
@[go_sem] theorem Vh (a):fw [a]=true:=_root_.id rfl
@[go_sem] theorem abq (args i):pi args i=(args[i]?).getD .any:=_root_.id rfl
@[go_sem] theorem Kr:ae []=fun _=>.dead:=by funext i; simp [ae]
@[go_sem] theorem XD (i):aG i=decide (1000≤i∧i < 2000):=_root_.id rfl
def hG (h:aa) (d:Nat):Option (AV × List Ob)→Option R3
 | some (r,[])=>if ch r≤8∧cr h (2000+8*d) (ch r)=true∧eE [] r=true then some ((mat (2000+8*d) h r).1,(mat (2000+8*d) h r).2,[]) else none
 | _=>none
theorem fE {c:AV} {ids:List Nat} {n:Nat} (hn:2000≤n) (hc:aO [] c=true∨(∃ k lo m,c=.rsl n none k lo m)∨∃ k i j,c=.ref n none k i j):fZ (bQ ids) c=c:=by
 have hb:bQ ids n=n:=by unfold bQ; rw [if_neg (by omega)]
 rcases hc with hc | ⟨k,lo,m,rfl⟩ | ⟨k,i,j,rfl⟩
 ·cases c <;> simp [aO] at hc <;> rfl
 ·simp [fZ,hb]
 ·simp [fZ,hb]
theorem Dd {r:AV} {n:Nat} (hn:2000≤n) (h:aa) (ids:List Nat) (hr:da [] r=true):cQ (bQ ids) (bW n h r).1=(bW n h r).1:=by
 cases r <;> simp only [da] at hr <;> simp only [bW]
 case osl=>simp only [cQ]; exact fE hn (.inr (.inl ⟨_,_,_,rfl⟩))
 case obx=>simp only [cQ]; exact fE hn (.inr (.inr ⟨_,_,_,rfl⟩))
 case agg cs =>
  simp only [aJ,List.all_eq_true] at hr
  simp only [cQ,AV.agg.injEq]
  exact (List.map_congr_left (g:=fun c=>c) fun c hc=>fE hn (.inl (hr c hc))).trans (List.map_id' cs)
 case fn f x y =>
  simp only [aJ,Bool.and_eq_true,List.all_eq_true] at hr
  simp only [cQ,AV.fn.injEq,true_and]
  exact ⟨(List.map_congr_left (g:=fun c=>c) fun c hc=>fE hn (.inl (hr.1 c hc))).trans (List.map_id' x),(List.map_congr_left (g:=fun c=>c) fun c hc=>fE hn (.inl (hr.2 c hc))).trans (List.map_id' y)⟩
 all_goals
  simp only [cQ]
  exact fE hn (.inl hr)
theorem De (ids:List Nat):∀ {l:List AV} {n:Nat} {h:aa},2000≤n→l.all (da [])=true→(bq n h l).1.map (cQ (bQ ids))=(bq n h l).1
 | [],n,h,_,_=>rfl
 | c::l,n,h,hn,hr=>by
  simp only [List.all_cons,Bool.and_eq_true] at hr
  simp only [bq,List.map_cons]
  rw [Dd hn h ids hr.1,De ids (by omega) hr.2]
theorem NJ {r:AV} {n:Nat} (hn:2000≤n) (h:aa) (ids:List Nat) (hr:eE [] r=true):ui (bQ ids) (mat n h r).1=(mat n h r).1:=by
 cases r with
 | tup vs =>
  simp only [eE] at hr
  simp only [mat,ui,AV.tup.injEq]
  exact De ids hn hr
 | _ =>
  simp only [eE] at hr
  have:=Dd hn h ids hr
  simp only [mat]
  simp only [bW] at this ⊢
  exact this
theorem Df:∀ l:List AV,kV [] l=[]
 | []=>rfl
 | a::l=>by simp [kV,Df l]
theorem sn {f:FuncId} {args:List AV} (d:Nat) (hm:md.m f=[]) (hd:args.all dat=true):aj call md h d args (.fn f [] [])=hG h d (call f (aM (md.sh f) args) []):=by
 have hin:ah h [] args=some (args,h,[]):=by
  have:∀ (l:List AV),l.all dat=true→ah h [] l=some (l,h,[]):=by
   intro l
   induction l with
   | nil=>intro _; rfl
   | cons a l ih =>
    intro hd
    simp only [List.all_cons,Bool.and_eq_true] at hd
    have ha:bP h 0 a=some (a,h,[]):=by
     have h1:=hd.1
     by_cases hagg:∃ cs,a=.agg cs
     ·obtain ⟨cs,rfl⟩:=hagg
      simp only [dat] at h1
      simp only [bP,mK]
      rw [gr h1 h]
      rfl
     ·have h2:ak a=true:=by cases a <;> first | exact h1 | exact absurd ⟨_,rfl⟩ hagg
      cases a <;> first | (simp [ak] at h2; done) | rfl | skip
    simp only [ah,List.headD_nil,ha,Option.bind_some,List.tail_nil,ih hd.2,List.append_nil]
  exact this args hd
 have hids:args.flatMap bk=[]:=by
  rw [List.flatMap_eq_nil_iff]
  exact fun c hc=>Fy (List.all_eq_true.1 hd c hc)
 have hren:(aM (md.sh f) args).map (cQ (aV []))=aM (md.sh f) args∧(aM (md.sh f) args).all (aJ [])=true:=by
  have key:∀ c ∈ aM (md.sh f) args,dat c=true:=by
   intro c hc
   obtain ⟨i,hi⟩:=List.getElem?_of_mem hc
   obtain ⟨c0,h1,h2⟩:=nJ _ _ _ _ hi
   have h0:=List.all_eq_true.1 hd c0 (List.mem_of_getElem? h1)
   rcases h2 with rfl | ⟨ss,rfl⟩
   ·exact h0
   ·cases c0 <;> simp only [dat] at h0 <;> simp only [nrmV,dat] <;> try (have:=ry (s:=ss.headD (.o 0 [])) h0; revert this; generalize nrmL _ _=q; intro this; cases q <;> first | exact this | simp [ak] at this)
    rename_i cs
    rw [List.all_eq_true]
    intro c hc
    obtain ⟨i,hi⟩:=List.getElem?_of_mem hc
    obtain ⟨c0,h1,h2⟩:=rx _ _ _ _ hi
    have h3:=List.all_eq_true.1 h0 c0 (List.mem_of_getElem? h1)
    rcases h2 with rfl | ⟨s,rfl⟩
    ·exact h3
    ·exact ry h3
  refine ⟨(List.map_congr_left (g:=fun c=>c) fun c hc=>?_).trans (List.map_id' _),?_⟩
  ·have:=key c hc
   cases c <;> simp only [dat] at this <;> first | rfl | skip
   all_goals first
    | (simp [ak] at this; done)
    | skip
   ·rename_i cs
    simp only [cQ,AV.agg.injEq]
    refine (List.map_congr_left (g:=fun c=>c) fun c hc=>?_).trans (List.map_id' cs)
    have h3:=List.all_eq_true.1 this c hc
    cases c <;> simp [ak] at h3 <;> rfl
   ·rename_i g x y
    simp [ak] at this
    obtain ⟨rfl,rfl⟩:=this
    rfl
  ·rw [List.all_eq_true]
   intro c hc
   have:=key c hc
   cases c <;> simp only [dat] at this <;> first | rfl | skip
   all_goals first
    | (simp [ak] at this; done)
    | skip
   ·rename_i cs
    simp only [aJ,List.all_eq_true]
    intro c hc
    have h3:=List.all_eq_true.1 this c hc
    cases c <;> simp [ak] at h3 <;> simp [aO,h3]
   ·rename_i g x y
    simp [ak] at this
    obtain ⟨rfl,rfl⟩:=this
    rfl
 unfold aj
 rw [if_neg (by simp [jJ,hm])]
 simp only [dq,hm,List.nil_append,List.append_nil,hin,Option.bind_some,hids,bp,C2,jI,hren.2,List.all_nil,Bool.and_self,if_true,hren.1,List.map_nil,Df]
 cases hr:call f (aM (md.sh f) args) [] with
 | none=>rfl
 | some q =>
  obtain ⟨r,os⟩:=q
  cases os with
  | cons o os=>simp only [Option.bind_some,et,hG]; simp
  | nil =>
   simp only [Option.bind_some,et,hG,List.length_nil,Nat.zero_le,true_and,cU,mU,uj,List.all_nil,Bool.true_and,Bool.and_true,rl,bU,List.range'_zero,cB,dF]
   by_cases hc:ch r≤8∧cr h (2000+8*d) (ch r)=true∧eE [] r=true
   ·rw [if_pos hc,if_pos hc,NJ (by omega) h [] hc.2.2]
    simp
   ·rw [if_neg hc,if_neg hc]
def aE (call:cT) (md:Mode) (d:Nat) (f:FuncId) (p:List AV × aa × K):Option R3 :=
 jI call md p.2.1 d f (bM p.2.1 40 (bp [] (p.1.flatMap bk)) 0) (aM (md.sh f) p.1) p.2.2
theorem ai {f:FuncId} {args:List AV} (d:Nat) (hm:md.m f=[]):aj call md h d args (.fn f [] [])=(ah h [] args).bind (aE call md d f):=by
 unfold aj
 rw [if_neg (by simp [jJ,hm])]
 simp only [dq,hm,List.nil_append,List.append_nil]
 rfl
@[go_sem] theorem XE {f:FuncId} {zs:List AV} (d:Nat) (hm:md.m f=[]) (hd:zs.all dat=true):aE call md d f (zs,h,[])=hG h d (call f (aM (md.sh f) zs) []):=by
 rw [← sn d hm hd,ai d hm]
 have hin:∀ (l:List AV),l.all dat=true→ah h [] l=some (l,h,[]):=by
  intro l
  induction l with
  | nil=>intro _; rfl
  | cons a l ih =>
   intro hd
   simp only [List.all_cons,Bool.and_eq_true] at hd
   have ha:bP h 0 a=some (a,h,[]):=by
    have h1:=hd.1
    by_cases hagg:∃ cs,a=.agg cs
    ·obtain ⟨cs,rfl⟩:=hagg
     simp only [dat] at h1
     simp only [bP,mK]
     rw [gr h1 h]
     rfl
    ·have h2:ak a=true:=by cases a <;> first | exact h1 | exact absurd ⟨_,rfl⟩ hagg
     cases a <;> first | (simp [ak] at h2; done) | rfl | skip
   simp only [ah,List.headD_nil,ha,Option.bind_some,List.tail_nil,ih hd.2,List.append_nil]
 rw [hin zs hd]
 rfl
@[go_sem] theorem Vi (h):ah h [] []=some ([],h,[]):=_root_.id rfl
@[go_sem] theorem Us (h a l):ah h [] (a::l)=(bP h 0 a).bind fun p=>(ah p.2.1 [] l).bind fun q=>some (p.1::q.1,q.2.1,p.2.2++q.2.2):=_root_.id rfl
@[go_sem] theorem abr (h x):bP h 0 (.v x)=some (.v x,h,[]):=_root_.id rfl
@[go_sem] theorem XF (h):bP h 0 .emp=some (.emp,h,[]):=_root_.id rfl
@[go_sem] theorem Ze (h k r):bP h 0 (.sl k r)=some (.sl k r,h,[]):=_root_.id rfl
@[go_sem] theorem Zf (h f a b):bP h 0 (.fn f a b)=some (.fn f a b,h,[]):=_root_.id rfl
@[go_sem] theorem XG (h a b c d):bP h 0 (.ref a none b c d)=some (.ref a none b c d,h,[]):=_root_.id rfl
@[go_sem] theorem XH (h cs):bP h 0 (.ipt cs)=some (.ipt cs,h,[]):=_root_.id rfl
@[go_sem] theorem XI (h id k lo n):bP h 0 (.rsl id none k lo n)=jj h id k lo n (h id):=_root_.id rfl
@[go_sem] theorem Vj (h id p k lo n):bP h 0 (.rsl id (some p) k lo n)=wc h id p k lo n (h id):=_root_.id rfl
@[go_sem] theorem XJ (h cs):bP h 0 (.agg cs)=(dE h cs).bind fun p=>some (.agg p.1,p.2):=_root_.id rfl
@[go_sem] theorem abt (h d x):hG h d (some (.v x,[]))=if cr h (2000+8*d) 1=true then some (.v x,h,[]) else none:=by
 simp [hG,ch,eE,da,aJ,aO,mat,bW]
@[go_sem] theorem NK (h d k r):hG h d (some (.sl k r,[]))=if cr h (2000+8*d) 1=true then some (.sl k r,h,[]) else none:=by
 simp [hG,ch,eE,da,aJ,aO,mat,bW]
@[go_sem] theorem XK (h d cs) (hd:cs.all ak=true):hG h d (some (.agg cs,[]))=if cr h (2000+8*d) 1=true then some (.agg cs,h,[]) else none:=by
 have:cs.all (aO [])=true:=by
  rw [List.all_eq_true] at hd ⊢
  intro c hc
  have:=hd c hc
  cases c <;> simp [ak] at this <;> simp [aO,this]
 simp only [hG,ch,eE,da,aJ,mat,bW,this,and_true]
 simp
@[go_sem] theorem XL (h d vs) (h8:vs.length≤8) (hd:vs.all dat=true):hG h d (some (.tup vs,[]))=if cr h (2000+8*d) vs.length=true then some (.tup vs,h,[]) else none:=by
 have h1:vs.all (da [])=true:=by
  rw [List.all_eq_true] at hd ⊢
  intro c hc
  have:=hd c hc
  cases c <;> simp only [dat] at this <;> simp only [da,aJ] <;> try (simp [ak] at this <;> simp [aO,this]; done)
  rename_i cs
  rw [List.all_eq_true] at this ⊢
  intro c hc
  have:=this c hc
  cases c <;> simp [ak] at this <;> simp [aO,this]
 have h2:∀ (l:List AV) (n:Nat) (g:aa),l.all dat=true→bq n g l=(l,g):=by
  intro l
  induction l with
  | nil=>intro n g _; rfl
  | cons c l ih =>
   intro n g hd
   simp only [List.all_cons,Bool.and_eq_true] at hd
   have hc:bW n g c=(c,g):=by
    have:=hd.1
    cases c <;> simp only [dat,ak] at this <;> first | rfl | (cases this; done)
   simp only [bq,hc,ih _ _ hd.2]
 simp only [hG,ch,eE,h1,mat,h2 vs _ _ hd,h8,true_and,and_true]
@[go_sem] theorem XM (h d k r):hG h d (some (.osl k r,[]))=if cr h (2000+8*d) 1=true then some (.rsl (2000+8*d) none k 0 r.length,upd h (2000+8*d) (.ar k r),[]) else none:=by
 simp [hG,ch,eE,da,mat,bW]
@[go_sem] theorem Vk (h n):cr h n 0=true:=_root_.id rfl
@[go_sem] theorem Vl (h n m):cr h n (m+1)=(cz (h n) && cr h (n+1) m):=_root_.id rfl
@[go_sem] theorem Ut:cz .dead=true:=_root_.id rfl
def bC (call:cT) (md:Mode) (ps:List (Nat × Nat)):List Fp→List COp→af→aa→Option St
 | acc,[],s,h=>if ps.all (nG acc)=true then some ⟨s,h⟩ else none
 | acc,o::rest,s,h=>(cj call md o s h).bind fun r=>bC call md ps (acc++[r.2]) rest r.1.s r.1.h
theorem IH (ps:List (Nat × Nat)):∀ (l:List COp) (acc:List Fp) (s:af) (h:aa),bC call md ps acc l s h=(dD call md l s h).bind fun r=>if ps.all (nG (acc++r.2))=true then some r.1 else none
 | [],acc,s,h=>by simp only [bC,dD,Option.bind_some,List.append_nil]
 | o::l,acc,s,h=>by
  simp only [bC,dD]
  cases cj call md o s h with
  | none=>rfl
  | some r =>
   simp only [Option.bind_some]
   rw [IH ps l]
   cases dD call md l r.1.s r.1.h with
   | none=>rfl
   | some q=>simp only [Option.bind_some,List.append_assoc,List.singleton_append]
@[go_sem] theorem XN:pQ []=none:=_root_.id rfl
@[go_sem] theorem Vm (p g l):pQ ((p,g)::l)=if 1000000≤p then some (p - 1000000,g) else none:=_root_.id rfl
theorem FZ (l ps):pX call md l ps s h=bC call md ps [] l s h:=by
 rw [IH]
 rfl
theorem P2 (ps) (l:List COp) (h0:pQ ps=none):jM call md l ps s h=bC call md ps [] l s h:=by
 unfold jM
 rw [h0]
 exact FZ l ps
def NL (call:cT) (md:Mode) (m g:Nat) (ps:List (Nat × Nat)) (l:List COp) (s:af) (h:aa):Option St :=
 aK (bC call md ps [] (l.take m) s h) fun s h=>aK (kW md.nm g s h) (ao call md (l.drop m))
@[go_sem] theorem Zg (l ps):jM call md l ps s h=match pQ ps with
  | some q=>NL call md q.1 q.2 ps.tail l s h
  | none=>bC call md ps [] l s h:=by
 cases hb:pQ ps with
 | none=>exact P2 ps l hb
 | some q =>
  unfold jM
  rw [hb]
  simp only [NL,uk]
  rw [← FZ _ _,pX]
  cases dD call md (l.take q.1) s h with
  | none=>rfl
  | some r =>
   simp only [Option.bind_some]
   split <;> rfl
def eG (call:cT) (md:Mode) (ps:List (Nat × Nat)) (acc:List Fp) (rest:List COp) (s:af) (d:Option Nat) (f:aa→Fp):Option R3→Option St
 | some (x,h,[])=>bC call md ps (acc++[f h]) rest (cu s d x) h
 | _=>none
theorem cH (ps acc) (o:COp) (rest) (hg:o.g=none):bC call md ps acc (o::rest) s h=eG call md ps acc rest s o.d (di (o.d.getD 0) o.op s h) (step call md (o.d.getD 0) o.op s h):=by
 simp only [bC,cj,hg,fq]
 cases step call md (o.d.getD 0) o.op s h with
 | none=>rfl
 | some r =>
  obtain ⟨x,h',ks⟩:=r
  cases ks <;> rfl
@[go_sem] theorem Zh (ps acc):bC call md ps acc [] s h=if ps.all (nG acc)=true then some ⟨s,h⟩ else none:=_root_.id rfl
@[go_sem] theorem xO (ps acc d op rest):bC call md ps acc (co d op::rest) s h=(dp s op).bind fun a=>bC call md ps (acc++[some ([],[])]) rest (upd s d a) h:=by
 rw [cH _ _ _ _ rfl]
 simp only [co,step,rm]
 cases dp s op <;> rfl
@[go_sem] theorem abu (ps acc d n rest):bC call md ps acc (cm d n::rest) s h=bC call md ps (acc++[some ([],[])]) rest (upd s d (s n)) h:=xO ps acc d (.mv (.t n)) rest
@[go_sem] theorem XO (ps acc d k g x rest):bC call md ps acc (⟨some d,none,.load k g x⟩::rest) s h=eG call md ps acc rest s (some d) (fun _=>lz (ev s x)) (dW h k g (ev s x)):=cH _ _ _ _ rfl
@[go_sem] theorem Vn (ps acc d k x y rest):bC call md ps acc (⟨d,none,.store k x y⟩::rest) s h=eG call md ps acc rest s d (fun _=>pP (ev s y) (ev s x)) (fN h k (ev s x) (ev s y)):=cH _ _ _ _ rfl
@[go_sem] theorem XP (ps acc d f zas rest):bC call md ps acc (⟨some d,none,.call f zas⟩::rest) s h=eG call md ps acc rest s (some d) (dt h d (io (zas.map (ev s)) (ev s f))) (aj call md h d (zas.map (ev s)) (ev s f)):=cH _ _ _ _ rfl
@[go_sem] theorem Vo (ps acc d z rest):bC call md ps acc (⟨some d,none,.alloc z⟩::rest) s h=eG call md ps acc rest s (some d) (fun _=>some ([],[bJ d])) (fO h d z []):=cH _ _ _ _ rfl
@[go_sem] theorem Zi (ps acc d k x rest):bC call md ps acc (⟨some d,none,.box k x⟩::rest) s h=eG call md ps acc rest s (some d) (fun _=>if dat (ev s x)=true then some ([],[bJ d]) else none) (rk h d k (ev s x)):=cH _ _ _ _ rfl
@[go_sem] theorem R2 (ps acc d k z n qs rest):bC call md ps acc (⟨some d,none,.buildSl k z n qs⟩::rest) s h=eG call md ps acc rest s (some d) (fun _=>if (qs.all fun p=>dat (ev s p.2))=true then some ([],[bJ d]) else none) ((cZ k h (List.replicate n z) (qs.map fun p=>(p.1,ev s p.2))).bind fun q=>bR q.2.1 d k q.1 n q.2.2):=cH _ _ _ _ rfl
@[go_sem] theorem abv (ps acc d op a b rest):bC call md ps acc (b2 d op a b::rest) s h=(dB op (s a) (s b)).bind fun a=>bC call md ps (acc++[some ([],[])]) rest (upd s d a) h:=xO ps acc d (.bin op (.t a) (.t b)) rest
@[go_sem] theorem abw (ps acc d k a rest):bC call md ps acc (fa d k a::rest) s h=(pM k (s a)).bind fun a=>bC call md ps (acc++[some ([],[])]) rest (upd s d a) h:=xO ps acc d (.fadr k (.t a)) rest
@[go_sem] theorem abx (ps acc d a rest):bC call md ps acc (nk d a::rest) s h=(vY (s a)).bind fun a=>bC call md ps (acc++[some ([],[])]) rest (upd s d a) h:=xO ps acc d (.nilck (.t a)) rest
@[go_sem] theorem aby (ps acc d k a rest):bC call md ps acc (ld d k a::rest) s h=eG call md ps acc rest s (some d) (fun _=>lz (s a)) (dW h k false (s a)):=cH _ _ _ _ rfl
@[go_sem] theorem abz (ps acc d k a rest):bC call md ps acc (la d k a::rest) s h=eG call md ps acc rest s (some d) (fun _=>lz (s a)) (dW h k true (s a)):=cH _ _ _ _ rfl
@[go_sem] theorem abA (ps acc d f zas rest):bC call md ps acc (ca d f zas::rest) s h=eG call md ps acc rest s (some d) (dt h d (io (zas.map (ev s)) (.fn f [] []))) (aj call md h d (zas.map (ev s)) (.fn f [] [])):=cH _ _ _ _ rfl
@[go_sem] theorem abB (ps acc k x y rest):bC call md ps acc (sr k x y::rest) s h=eG call md ps acc rest s none (fun _=>pP (ev s y) (ev s x)) (fN h k (ev s x) (ev s y)):=cH _ _ _ _ rfl
@[go_sem] theorem abC (ps acc d z rest):bC call md ps acc (al d z::rest) s h=eG call md ps acc rest s (some d) (fun _=>some ([],[bJ d])) (fO h d z []):=cH _ _ _ _ rfl
@[go_sem] theorem abD (ps acc d k x rest):bC call md ps acc (bx d k x::rest) s h=eG call md ps acc rest s (some d) (fun _=>if dat (ev s x)=true then some ([],[bJ d]) else none) (rk h d k (ev s x)):=cH _ _ _ _ rfl
@[go_sem] theorem XQ (ps acc rest s d f x h):eG call md ps acc rest s (some d) f (some (x,h,[]))=bC call md ps (acc++[f h]) rest (upd s d x) h:=_root_.id rfl
@[go_sem] theorem Vp (ps acc rest s f x h):eG call md ps acc rest s none f (some (x,h,[]))=bC call md ps (acc++[f h]) rest s h:=_root_.id rfl
theorem R4 (ps acc) (o:COp) (j w rest) (hg:o.g=some (j,w)) {b:Bool} (hb:s j=.v (.bool b)):bC call md ps acc (o::rest) s h =
  if b=w then eG call md ps acc rest s o.d (di (o.d.getD 0) o.op s h) (step call md (o.d.getD 0) o.op s h) else bC call md ps (acc++[some ([],[])]) rest (cu s o.d .und) h:=by
 simp only [bC,cj,hg,hb,jL]
 split
 ·simp only [fq]
  cases step call md (o.d.getD 0) o.op s h with
  | none=>rfl
  | some r =>
   obtain ⟨x,h',ks⟩:=r
   cases ks <;> rfl
 ·rfl
def F0 (call:cT) (md:Mode) (ps:List (Nat × Nat)) (acc:List Fp) (rest:List COp) (s:af) (h:aa) (d:Option Nat) (w:Bool) (op:AOp):AV→Option St
 | .v (.bool b)=>if b=w then eG call md ps acc rest s d (di (d.getD 0) op s h) (step call md (d.getD 0) op s h) else bC call md ps (acc++[some ([],[])]) rest (cu s d .und) h
 | .und=>bC call md ps (acc++[some ([],[])]) rest (cu s d .und) h
 | _=>none
@[go_sem] theorem P3 (ps acc d j w op rest):bC call md ps acc (⟨d,some (j,w),op⟩::rest) s h=F0 call md ps acc rest s h d w op (s j):=by
 by_cases hb:∃ b,s j=.v (.bool b)
 ·obtain ⟨b,hb⟩:=hb
  rw [R4 ps acc ⟨d,some (j,w),op⟩ j w rest rfl hb,hb]
  rfl
 ·simp only [bC,cj]
  cases hq:s j <;> first | rfl | skip
  rename_i x
  cases x <;> first | rfl | exact absurd ⟨_,hq⟩ hb
@[go_sem] theorem abE (ps acc d j w op rest):bC call md ps acc (cg d j w op::rest) s h=F0 call md ps acc rest s h (some d) w (.p op) (s j):=P3 ps acc (some d) j w (.p op) rest
@[go_sem] theorem adz (ps acc rest s h d op):F0 call md ps acc rest s h (some d) true op (.v (.bool true))=eG call md ps acc rest s (some d) (di d op s h) (step call md d op s h):=_root_.id rfl
@[go_sem] theorem adA (ps acc rest s h d op):F0 call md ps acc rest s h (some d) false op (.v (.bool false))=eG call md ps acc rest s (some d) (di d op s h) (step call md d op s h):=_root_.id rfl
@[go_sem] theorem adB (ps acc rest s h d op):F0 call md ps acc rest s h (some d) true op (.v (.bool false))=bC call md ps (acc++[some ([],[])]) rest (upd s d .und) h:=_root_.id rfl
@[go_sem] theorem adC (ps acc rest s h d op):F0 call md ps acc rest s h (some d) false op (.v (.bool true))=bC call md ps (acc++[some ([],[])]) rest (upd s d .und) h:=_root_.id rfl
@[go_sem] theorem abF (ps acc rest s h d w op):F0 call md ps acc rest s h (some d) w op .und=bC call md ps (acc++[some ([],[])]) rest (upd s d .und) h:=_root_.id rfl
@[go_sem] theorem aey (d op h'):di d (.p op) s h h'=some ([],[]):=_root_.id rfl
@[go_sem] theorem abG (d k g x h'):di d (.load k g x) s h h'=lz (ev s x):=_root_.id rfl
@[go_sem] theorem abH (d f zas h'):di d (.call f zas) s h h'=dt h d (io (zas.map (ev s)) (ev s f)) h':=_root_.id rfl
@[go_sem] theorem Zj (d z h'):di d (.alloc z) s h h'=some ([],[bJ d]):=_root_.id rfl
@[go_sem] theorem adD (d k x h'):di d (.box k x) s h h'=if dat (ev s x)=true then some ([],[bJ d]) else none:=_root_.id rfl
@[go_sem] theorem Vq (cs):lz (.ipt cs)=some ([],[]):=_root_.id rfl
@[go_sem] theorem Uu (id k i j):lz (.ref id none k i j)=some ([bJ id],[]):=_root_.id rfl
@[go_sem] theorem Uv (id p k i j):lz (.ref id (some p) k i j)=some ([bJ id],[]):=_root_.id rfl
@[go_sem] theorem XR (y id sub k i j):pP y (.ref id sub k i j)=if dat y=true then some ([bJ id],[bJ id]) else none:=_root_.id rfl
@[go_sem] theorem adE (i):bJ i=if i < 2000 then i else i - i % 8:=_root_.id rfl
@[go_sem] theorem XS (l f a b):io l (.fn f a b)=a++l++b:=_root_.id rfl
@[go_sem] theorem LM (h d l h'):dt h d l h'=if l.all dat=true then some ([],[2000+8*d]) else if l.all lW=true then some ((bM h 40 (bp [] (l.flatMap bk)) 0).map bJ,(wh h h' (bM h 40 (bp [] (l.flatMap bk)) 0)).map bJ++[2000+8*d]) else none:=_root_.id rfl
@[go_sem] theorem Vr (l i j):nG l (i,j)=(match l[i]?,l[j]? with | some a,some b=>fD a b | _,_=>false):=_root_.id rfl
@[go_sem] theorem Zk (a b):fD (some a) (some b)=(jk a.2 (b.1++b.2) && jk b.2 a.1):=_root_.id rfl
@[go_sem] theorem Zl (b):fD none (some b)=(b.1.isEmpty && b.2.isEmpty):=_root_.id rfl
@[go_sem] theorem Zm (a):fD (some a) none=(a.1.isEmpty && a.2.isEmpty):=_root_.id rfl
@[go_sem] theorem Zn (b):jk [] b=true:=_root_.id rfl
@[go_sem] theorem XT (a l b):jk (a::l) b=(!b.contains a && jk l b):=_root_.id rfl
@[go_sem] theorem Vs (a:Nat):[].contains a=false:=_root_.id rfl
@[go_sem] theorem Uw (a b:Nat) (l:List Nat):(b::l).contains a=(a == b || l.contains a):=by rw [List.contains_cons]
@[go_sem] theorem Zo (s d x h p l):bN false s (some d) (some (x,h,p::l))=some ⟨upd (eN (p::l) s) d x,h⟩:=_root_.id rfl
@[go_sem] theorem XU (s x h p l):bN false s none (some (x,h,p::l))=some ⟨eN (p::l) s,h⟩:=_root_.id rfl
@[go_sem] theorem abI (p l s) (i:Nat):eN (p::l) s i=mr (p::l) (s i):=_root_.id rfl
@[go_sem] theorem aep (ks x):mr ks (.v x)=.v x:=_root_.id rfl
@[go_sem] theorem abJ (ks):mr ks .any=.any:=_root_.id rfl
@[go_sem] theorem abK (ks):mr ks .und=.und:=_root_.id rfl
@[go_sem] theorem abL (ks):mr ks .emp=.emp:=_root_.id rfl
@[go_sem] theorem adF (ks k r):mr ks (.sl k r)=.sl k r:=_root_.id rfl
@[go_sem] theorem abM (ks cs):mr ks (.ipt cs)=.ipt cs:=_root_.id rfl
@[go_sem] theorem abN (ks f):mr ks (.fn f [] [])=.fn f [] []:=_root_.id rfl
@[go_sem] theorem abO (ks id sub k lo n):mr ks (.rsl id sub k lo n)=if dV ks id sub=true then .any else .rsl id sub k lo n:=_root_.id rfl
@[go_sem] theorem abP (ks id sub k lo n):mr ks (.ref id sub k lo n)=if dV ks id sub=true then .any else .ref id sub k lo n:=_root_.id rfl
@[go_sem] theorem abQ (ks cs):mr ks (.agg cs)=if cs.any (jG ks)=true then .any else .agg cs:=_root_.id rfl
@[go_sem] theorem adG (ks f a b):mr ks (.fn f a b)=if (a.any (jG ks) || b.any (jG ks))=true then .any else .fn f a b:=_root_.id rfl
@[go_sem] theorem abR (ks vs):mr ks (.tup vs)=if vs.any (sD ks)=true then .any else .tup vs:=_root_.id rfl
@[go_sem] theorem adH (ks x):sD ks (.v x)=false:=_root_.id rfl
@[go_sem] theorem abS (ks k r):sD ks (.sl k r)=false:=_root_.id rfl
@[go_sem] theorem adI (ks x):jG ks (.v x)=false:=_root_.id rfl
@[go_sem] theorem Zp (ks):jG ks .emp=false:=_root_.id rfl
@[go_sem] theorem abT (ks k r):jG ks (.sl k r)=false:=_root_.id rfl
@[go_sem] theorem Zq (ks id sub k i j):jG ks (.ref id sub k i j)=dV ks id sub:=_root_.id rfl
@[go_sem] theorem Zr (id sub):dV [] id sub=false:=_root_.id rfl
@[go_sem] theorem Zs (a:Nat) (b:Bool) (l:K) (id:Nat) (sub:Option Nat):dV ((a,b)::l) id sub=((a == id && (!b || sub.isSome)) || dV l id sub):=by simp [dV]
@[go_sem] theorem R5 {α:Type}:(none:Option α).isSome=false:=_root_.id rfl
@[go_sem] theorem R6 {α:Type} (a:α):(some a).isSome=true:=_root_.id rfl
@[go_sem] theorem adJ (h d k b x y):yM h d k b x y=(lV h k y).bind fun ys=>match x with
 | .emp=>if ys.length*b≤140737488355328 then BL h d k ys else none
 | .rsl id none k' lo n=>E8 h d k b id k' lo n ys (h id)
 | .rsl id (some p) k' lo n=>Nh h d k b id p k' lo n ys (h id)
 | _=>none:=_root_.id rfl
@[go_sem] theorem XV (h k):lV h k .emp=some []:=_root_.id rfl
@[go_sem] theorem NM (h k r):lV h k (.sl k r)=some r:=by simp [lV]
@[go_sem] theorem XW (h k id sub lo n):lV h k (.rsl id sub k lo n)=dO k lo n (n5 h id sub):=by simp [lV]
@[go_sem] theorem Ux (h id):n5 h id none=mL (h id):=_root_.id rfl
@[go_sem] theorem XX (k r):mL (.ar k r)=some (k,r):=_root_.id rfl
@[go_sem] theorem XY (k r):mL (.fz k r)=some (k,r):=_root_.id rfl
@[go_sem] theorem R7 (k lo n r):dO k lo n (some (k,r))=if lo+n≤r.length then some ((r.drop lo).take n) else none:=by simp [dO]
@[go_sem] theorem abU (h d k b id lo n ys r):E8 h d k b id k lo n ys (.ar k r)=if lo=0∧n=r.length∧(id < 1000∨2000≤id)∧(n+ys.length)*b≤140737488355328 then
   some (.rsl id none k 0 (n+ys.length),upd h id (.ar k (r++ys)),[(id,false)]) else yL h d k b id k lo n ys k r:=by simp [E8]
@[go_sem] theorem Zt (h d k):BL h d k []=some (.emp,h,[]):=_root_.id rfl
@[go_sem] theorem XZ (h d k y ys):BL h d k (y::ys)=bR h d k (y::ys) (ys.length+1) []:=_root_.id rfl
end
def F.l23_PolyParts:FuncId:=6
def F.l23_awake:FuncId:=8
def F.l23_great:FuncId:=9
def F.poly_Text:FuncId:=10
def F.poly_Derive:FuncId:=13
def F.poly_Mul:FuncId:=14
def F.poly_Add:FuncId:=15
def F.l23_long:FuncId:=17
def F.dyadic_Add:FuncId:=21
def F.poly_Sub:FuncId:=22
def F.dyadic_Sub:FuncId:=23
def F.dyadic_Mul:FuncId:=24
def F.poly_Split:FuncId:=26
def F.r23_Split:FuncId:=27
def F.r23_Same:FuncId:=28
def F.poly_Round:FuncId:=29
def F.r23_Round:FuncId:=30
def F.l23_is:FuncId:=31
def F.poly_Fix:FuncId:=32
def F.r23_Fix:FuncId:=33
def F.poly_Valid:FuncId:=34
def F.poly_Degree:FuncId:=35
def F.l23_variable:FuncId:=36
def F.slices_ContainsFunc_api_Poly_api_Poly_:FuncId:=37
def F.l23_great_1:FuncId:=38
def F.slices_ContainsFunc_api_Term_api_Term_:FuncId:=39
def F.l23_great_1_1:FuncId:=40
def F.slices_ContainsFunc_string_string_:FuncId:=41
def F.poly_Text_1:FuncId:=42
def F.lex_Name:FuncId:=43
def F.dyadic_Text:FuncId:=44
def F.strconv_Itoa:FuncId:=45
def F.r23_Valid:FuncId:=46
def F.poly_empty:FuncId:=50
def F.dyadic_Int:FuncId:=51
def F.slices_Clone_int_int_:FuncId:=52
def F.poly_collector_add:FuncId:=53
def F.poly_collector_done:FuncId:=54
def F.poly_pair:FuncId:=55
def F.slices_Concat_api_Term_api_Term_:FuncId:=56
def F.dyadic_Cmp:FuncId:=60
def F.slices_ContainsFunc_api_Dyadic_api_Dyadic_:FuncId:=61
def F.l23_long_1:FuncId:=62
def F.dyadic_Valid:FuncId:=64
def F.poly_times:FuncId:=65
def F.dyadic_sum:FuncId:=67
def F.dyadic_Neg:FuncId:=68
def F.dyadic_size:FuncId:=69
def F.natural_Mul:FuncId:=70
def F.dyadic_checked:FuncId:=71
def F.dyadic_canonical:FuncId:=72
def F.poly_degree:FuncId:=73
def F.r23_sum:FuncId:=74
def F.r23_Compare:FuncId:=75
def F.r23_number:FuncId:=76
def F.round_Near:FuncId:=77
def F.r03_Near:FuncId:=78
def F.r02_Add:FuncId:=79
def F.r02_Neg:FuncId:=80
def F.l23_zero:FuncId:=81
def F.r02_Valid:FuncId:=82
def F.r23_times:FuncId:=83
def F.r23_Collect:FuncId:=84
def F.slices_ContainsFunc_int_int_:FuncId:=85
def F.poly_Valid_1:FuncId:=86
def F.poly_order:FuncId:=87
def F.slices_IndexFunc_api_Poly_api_Poly_:FuncId:=88
def F.slices_IndexFunc_api_Term_api_Term_:FuncId:=89
def F.slices_IndexFunc_string_string_:FuncId:=90
def F.lex_word:FuncId:=91
def F.lex_Keyword:FuncId:=92
def F.natural_Text:FuncId:=93
def F.strings_Builder_WriteString:FuncId:=95
def F.strings_Builder_String:FuncId:=96
def F.internal_strconv_Itoa:FuncId:=97
def F.r23_term:FuncId:=98
def F.slices_BinarySearchFunc_api_Term_api_Term_Sint_:FuncId:=103
def F.poly_collector_add_1:FuncId:=104
def F.slices_Insert_api_Term_api_Term_:FuncId:=105
def F.poly_copied:FuncId:=106
def F.slices_Delete_api_Term_api_Term_:FuncId:=107
def F.slices_Grow_api_Term_api_Term_:FuncId:=108
def F.dyadic_Sign:FuncId:=109
def F.dyadic_compare:FuncId:=110
def F.slices_IndexFunc_api_Dyadic_api_Dyadic_:FuncId:=111
def F.dyadic_inRange:FuncId:=112
def F.dyadic_Top:FuncId:=113
def F.dyadic_shifted:FuncId:=114
def F.natural_Add:FuncId:=115
def F.natural_Cmp:FuncId:=116
def F.natural_Sub:FuncId:=117
def F.slices_Clone_uint32_uint32_:FuncId:=118
def F.natural_Bits:FuncId:=119
def F.natural_long:FuncId:=120
def F.natural_done:FuncId:=121
def F.natural_mul:FuncId:=122
def F.natural_trim:FuncId:=123
def F.dyadic_trimmed:FuncId:=124
def F.dyadic_low:FuncId:=125
def F.natural_Shr:FuncId:=126
def F.slices_Clip_uint32_uint32_:FuncId:=127
def F.round_Down:FuncId:=128
def F.round_Up:FuncId:=129
def F.r03_Round:FuncId:=130
def F.r02_Cmp:FuncId:=131
def F.r02_Sum:FuncId:=132
def F.r02_Checked:FuncId:=133
def F.r02_bits:FuncId:=134
def F.r02_Mul:FuncId:=135
def F.slices_IndexFunc_int_int_:FuncId:=136
def F.cmp_Compare_int_:FuncId:=137
def F.slices_Compare_int_int_:FuncId:=138
def F.lex_class:FuncId:=139
def F.natural_short:FuncId:=140
def F.strconv_FormatUint:FuncId:=141
def F.strings_Repeat:FuncId:=142
def F.slices_Reverse_string_string_:FuncId:=143
def F.strings_Join:FuncId:=144
def F.strings_Builder_copyCheck:FuncId:=145
def F.internal_strconv_FormatInt:FuncId:=146
def F.r02_trim:FuncId:=150
def F.slices_overlaps_api_Term_:FuncId:=152
def F.slices_rotateRight_api_Term_:FuncId:=153
def F.natural_Shl:FuncId:=154
def F.natural_add:FuncId:=155
def F.natural_sub:FuncId:=156
def F.bits_Len32:FuncId:=157
def F.slices_ContainsFunc_Suint32_Suint32_:FuncId:=158
def F.natural_long_1:FuncId:=159
def F.bits_TrailingZeros32:FuncId:=160
def F.natural_shr:FuncId:=161
def F.round_round:FuncId:=162
def F.r03_fault:FuncId:=163
def F.r03_exact:FuncId:=164
def F.r02_Sign:FuncId:=165
def F.r02_Top:FuncId:=166
def F.r02_left:FuncId:=167
def F.r02_Of:FuncId:=168
def F.r02_plus:FuncId:=169
def F.r02_compare:FuncId:=170
def F.r02_minus:FuncId:=171
def F.r02_Product:FuncId:=172
def F.cmp_isNaN_int_:FuncId:=173
def F.strings_IndexByte:FuncId:=174
def F.bits_Div32:FuncId:=175
def F.internal_strconv_FormatUint:FuncId:=176
def F.strings_Builder_Grow:FuncId:=179
def F.internal_abi_NoEscape:FuncId:=181
def F.internal_strconv_small:FuncId:=182
def F.internal_strconv_numDigits:FuncId:=183
def F.internal_strconv_formatBase10:FuncId:=184
def F.internal_strconv_formatBits:FuncId:=185
def F.natural_shl:FuncId:=190
def F.bits_Add32:FuncId:=191
def F.bits_Sub32:FuncId:=192
def F.slices_IndexFunc_Suint32_Suint32_:FuncId:=193
def F.round_fault:FuncId:=194
def F.round_signed:FuncId:=195
def F.round_of:FuncId:=196
def F.r03_Prec:FuncId:=197
def F.r03_Cut:FuncId:=198
def F.r02_zeros:FuncId:=199
def F.r02_right:FuncId:=200
def F.r02_times:FuncId:=201
def F.internal_stringslite_IndexByte:FuncId:=202
def F.round_precise:FuncId:=213
def F.round_cut:FuncId:=214
def F.r01_Trim:FuncId:=215
def F.r01_Bits:FuncId:=216
def F.r01_Shr:FuncId:=217
def F.r01_Cmp:FuncId:=218
def F.r01_Shl:FuncId:=219
def F.r01_Add:FuncId:=220
def F.r03_greatest:FuncId:=221
def F.internal_bytealg_IndexByteString:FuncId:=222
def F.round_shl:FuncId:=225
def F.round_shr:FuncId:=226
def F.dyadic_Make:FuncId:=227
def F.r01_at:FuncId:=228
def F.r01_Sub:FuncId:=229
def F.dyadic_exponent:FuncId:=230
end Go.Ab
