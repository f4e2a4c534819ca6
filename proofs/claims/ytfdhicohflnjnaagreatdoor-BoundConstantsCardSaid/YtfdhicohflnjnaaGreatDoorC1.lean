/-
  A law of ranges holds at every input that the statement speaks of, under the conditions that its card names. Part C1.
-/
import Derived.Test.YtfdhicohflnjnaaGreatDoorB1
namespace Go.Ab
open Go
section
variable {call:dG} {md:Mode} {s:ag} {h:ab}
@[go_sem] theorem asR:am call md .skip s h=some (.normal,⟨s,h⟩):=_root_.id rfl
@[go_sem] theorem aua (ks l):am call md (.ops ks l) s h=bc (aF call md l s h) fun s h=>some (.normal,⟨mk .any s ks,h⟩):=_root_.id rfl
@[go_sem] theorem aub (is a):am call md (.frz is a) s h=bc (rT md.nm is s h) (am call md a):=_root_.id rfl
@[go_sem] theorem asS (ks l ps):am call md (.dops ks l ps) s h=bc (lC call md l ps s h) fun s h=>some (.normal,⟨mk .any s ks,h⟩):=_root_.id rfl
@[go_sem] theorem akE (a b):am call md (.seq a b) s h=bX (am call md a s h) (am call md b):=_root_.id rfl
@[go_sem] theorem asT (c a b):am call md (.cond c a b) s h=lD (am call md a s h) (am call md b s h) (ev s c):=_root_.id rfl
@[go_sem] theorem aqA (id ks a):am call md (.block id ks a) s h=aB id ks (am call md a s h):=_root_.id rfl
@[go_sem] theorem asU (ks hs a):am call md (.loop ks hs a) s h=aD (am call md a) ks hs s h:=_root_.id rfl
@[go_sem] theorem asV (i):am call md (.exit i) s h=some (.exit i,⟨s,h⟩):=_root_.id rfl
@[go_sem] theorem auc:am call md .ret s h=some (.ret,⟨s,h⟩):=_root_.id rfl
@[go_sem] theorem ain (s h f):bX (some (.normal,⟨s,h⟩)) f=f s h:=_root_.id rfl
@[go_sem] theorem akF (i t f):bX (some (.exit i,t)) f=some (.exit i,t):=_root_.id rfl
@[go_sem] theorem amo (t f):bX (some (.ret,t)) f=some (.ret,t):=_root_.id rfl
@[go_sem] theorem aj2 (id ks i t):aB id ks (some (.exit i,t))=if i=id then some (.normal,⟨mk .any t.s ks,t.h⟩) else some (.exit i,t):=_root_.id rfl
@[go_sem] theorem ahu (id ks t):aB id ks (some (.normal,t))=some (.normal,⟨mk .any t.s ks,t.h⟩):=_root_.id rfl
@[go_sem] theorem akG (id ks t):aB id ks (some (.ret,t))=some (.ret,t):=_root_.id rfl
@[go_sem] theorem akH (a b):lD a b (.v (.bool true))=a:=_root_.id rfl
@[go_sem] theorem aj3 (a b):lD a b (.v (.bool false))=b:=_root_.id rfl
@[go_sem] theorem aio (g t):Oy g (some (.normal,t))=g t.s t.h:=_root_.id rfl
@[go_sem] theorem akI (g i t):Oy g (some (.exit i,t))=some (.exit i,t):=_root_.id rfl
@[go_sem] theorem amp (g t):Oy g (some (.ret,t))=some (.ret,t):=_root_.id rfl
@[go_sem] theorem akJ {β:Type} (s h) (f:ag→ab→Option β):bc (some ⟨s,h⟩) f=f s h:=_root_.id rfl
@[go_sem] theorem amq {β:Type} (c:Prop) [Decidable c] (x y:Option St) (f:ag→ab→Option β):bc (if c then x else y) f=if c then bc x f else bc y f:=by split <;> rfl
@[go_sem] theorem amr (c:Prop) [Decidable c] (x y:Option (Ex × St)) (f:ag→ab→Option (Ex × St)):bX (if c then x else y) f=if c then bX x f else bX y f:=by split <;> rfl
@[go_sem] theorem aqB:aF call md [] s h=some ⟨s,h⟩:=_root_.id rfl
@[go_sem] theorem Hq (d op rest):aF call md (⟨some d,none,.p op⟩::rest) s h=(en s op).bind fun a=>aF call md rest (upd s d a) h:=by
 simp only [aF,iy,step,vO]
 cases en s op with
 | none=>rfl
 | some a=>simp only [Option.map_some,cz,ke,if_true]; rfl
def cm (d n:Nat):COp:=⟨some d,none,.p (.mv (.t n))⟩
def co (d:Nat) (op:POp):COp:=⟨some d,none,.p op⟩
def cg (d j:Nat) (w:Bool) (op:POp):COp:=⟨some d,some (j,w),.p op⟩
@[go_sem] theorem asW (d n rest):aF call md (cm d n::rest) s h=aF call md rest (upd s d (s n)) h:=Hq d (.mv (.t n)) rest
@[go_sem] theorem asX (d op rest):aF call md (co d op::rest) s h=(en s op).bind fun a=>aF call md rest (upd s d a) h:=Hq d op rest
@[go_sem] theorem asY (d j w op rest):aF call md (cg d j w op::rest) s h=bc (gR (some d) w ((en s op).map fun a=>⟨upd s d a,h⟩) s h (s j)) (aF call md rest):=by
 have:cz md.nm s (some d) (step call md d (.p op) s h)=(en s op).map fun a=>⟨upd s d a,h⟩:=by
  simp only [step,vO]
  cases en s op with
  | none=>rfl
  | some a=>simp only [Option.map_some,cz,ke,if_true]; rfl
 show bc (gR (some d) w (cz md.nm s (some d) (step call md d (.p op) s h)) s h (s j)) _=_
 rw [this]
def b2 (d:Nat) (op:BinOp) (a b:Nat):COp:=⟨some d,none,.p (.bin op (.t a) (.t b))⟩
def fa (d k a:Nat):COp:=⟨some d,none,.p (.fadr k (.t a))⟩
def nk (d a:Nat):COp:=⟨some d,none,.p (.nilck (.t a))⟩
def ld (d k a:Nat):COp:=⟨some d,none,.load k false (.t a)⟩
def la (d k a:Nat):COp:=⟨some d,none,.load k true (.t a)⟩
def ca (d f:Nat) (zas:List Opd):COp:=⟨some d,none,.call (.c (.fn f [] [])) zas⟩
def sr (k:Nat) (x y:Opd):COp:=⟨none,none,.store k x y⟩
def al (d:Nat) (z:List AV):COp:=⟨some d,none,.alloc z⟩
def bx (d k:Nat) (x:Opd):COp:=⟨some d,none,.box k x⟩
@[go_sem] theorem asZ (d op a b rest):aF call md (b2 d op a b::rest) s h=(dZ op (s a) (s b)).bind fun a=>aF call md rest (upd s d a) h:=Hq d (.bin op (.t a) (.t b)) rest
@[go_sem] theorem as0 (d k a rest):aF call md (fa d k a::rest) s h=(sO k (s a)).bind fun a=>aF call md rest (upd s d a) h:=Hq d (.fadr k (.t a)) rest
@[go_sem] theorem as1 (d a rest):aF call md (nk d a::rest) s h=(Bc (s a)).bind fun a=>aF call md rest (upd s d a) h:=Hq d (.nilck (.t a)) rest
@[go_sem] theorem as2 (d k a rest):aF call md (ld d k a::rest) s h=bc (cz md.nm s (some d) (fw h k false (s a))) (aF call md rest):=_root_.id rfl
@[go_sem] theorem as3 (d k a rest):aF call md (la d k a::rest) s h=bc (cz md.nm s (some d) (fw h k true (s a))) (aF call md rest):=_root_.id rfl
@[go_sem] theorem as4 (d f zas rest):aF call md (ca d f zas::rest) s h=bc (cz md.nm s (some d) (bA call md h d (zas.map (ev s)) (.fn f [] []))) (aF call md rest):=_root_.id rfl
@[go_sem] theorem as5 (k x y rest):aF call md (sr k x y::rest) s h=bc (cz md.nm s none (ib h k (ev s x) (ev s y))) (aF call md rest):=_root_.id rfl
@[go_sem] theorem as6 (d z rest):aF call md (al d z::rest) s h=bc (cz md.nm s (some d) (ic h d z [])) (aF call md rest):=_root_.id rfl
@[go_sem] theorem as7 (d k x rest):aF call md (bx d k x::rest) s h=bc (cz md.nm s (some d) (vM h d k (ev s x))) (aF call md rest):=_root_.id rfl
@[go_sem] theorem aud (d j w op rest):aF call md (⟨d,some (j,w),op⟩::rest) s h=bc (gR d w (cz md.nm s d (step call md (d.getD 0) op s h)) s h (s j)) (aF call md rest):=_root_.id rfl
@[go_sem] theorem ams (d z rest):aF call md (⟨some d,none,.alloc z⟩::rest) s h=bc (cz md.nm s (some d) (ic h d z [])) (aF call md rest):=_root_.id rfl
@[go_sem] theorem aqC (d k x rest):aF call md (⟨some d,none,.box k x⟩::rest) s h=bc (cz md.nm s (some d) (vM h d k (ev s x))) (aF call md rest):=_root_.id rfl
@[go_sem] theorem aj4 (d k z n ps rest):aF call md (⟨some d,none,.buildSl k z n ps⟩::rest) s h=bc (cz md.nm s (some d) ((dT k h (List.replicate n z) (ps.map fun p=>(p.1,ev s p.2))).bind fun q=>cG q.2.1 d k q.1 n q.2.2)) (aF call md rest):=_root_.id rfl
@[go_sem] theorem an2 (d k z b l c rest):aF call md (⟨some d,none,.mkSl k z b l c⟩::rest) s h=bc (cz md.nm s (some d) ((lz (ev s l) (ev s c)).bind fun p=>if p.2*b≤140737488355328 then cG h d k (List.replicate p.1 z) p.1 [] else none)) (aF call md rest):=_root_.id rfl
@[go_sem] theorem an3 (d k g x rest):aF call md (⟨some d,none,.load k g x⟩::rest) s h=bc (cz md.nm s (some d) (fw h k g (ev s x))) (aF call md rest):=_root_.id rfl
@[go_sem] theorem amt (d k x y rest):aF call md (⟨d,none,.store k x y⟩::rest) s h=bc (cz md.nm s d (ib h k (ev s x) (ev s y))) (aF call md rest):=_root_.id rfl
@[go_sem] theorem aqD (d k b x y rest):aF call md (⟨some d,none,.app k b x y⟩::rest) s h=bc (cz md.nm s (some d) (Jp h d k b (ev s x) (ev s y))) (aF call md rest):=_root_.id rfl
@[go_sem] theorem an4 (d f zas rest):aF call md (⟨some d,none,.call f zas⟩::rest) s h=bc (cz md.nm s (some d) (bA call md h d (zas.map (ev s)) (ev s f))) (aF call md rest):=_root_.id rfl
@[go_sem] theorem amu (f zas rest):aF call md (⟨none,none,.call f zas⟩::rest) s h=bc (cz md.nm s none (bA call md h 0 (zas.map (ev s)) (ev s f))) (aF call md rest):=_root_.id rfl
@[go_sem] theorem an5 (nm:Bool) (s d x h):cz nm s (some d) (some (x,h,[]))=some ⟨upd s d x,h⟩:=by simp only [cz,ke,if_true]; rfl
@[go_sem] theorem amv (nm:Bool) (s x h):cz nm s none (some (x,h,[]))=some ⟨s,h⟩:=by simp only [cz,ke,if_true]; rfl
@[go_sem] theorem as8 (d op):step call md d (.p op) s h=vO h (en s op):=_root_.id rfl
@[go_sem] theorem amw (d k g x):step call md d (.load k g x) s h=fw h k g (ev s x):=_root_.id rfl
@[go_sem] theorem amx (d f zas):step call md d (.call f zas) s h=bA call md h d (zas.map (ev s)) (ev s f):=_root_.id rfl
@[go_sem] theorem akK (d k x y):step call md d (.store k x y) s h=ib h k (ev s x) (ev s y):=_root_.id rfl
@[go_sem] theorem akL (d z):step call md d (.alloc z) s h=ic h d z []:=_root_.id rfl
@[go_sem] theorem an6 (d k x):step call md d (.box k x) s h=vM h d k (ev s x):=_root_.id rfl
@[go_sem] theorem aip (d k z n ps):step call md d (.buildSl k z n ps) s h=(dT k h (List.replicate n z) (ps.map fun p=>(p.1,ev s p.2))).bind fun q=>cG q.2.1 d k q.1 n q.2.2:=_root_.id rfl
@[go_sem] theorem amy (d k z b l c):step call md d (.mkSl k z b l c) s h=(lz (ev s l) (ev s c)).bind fun p=>if p.2*b≤140737488355328 then cG h d k (List.replicate p.1 z) p.1 [] else none:=_root_.id rfl
@[go_sem] theorem amz (h a):vO h (some a)=some (a,h,[]):=_root_.id rfl
@[go_sem] theorem akM (d st s h):gR d true st s h (.v (.bool true))=st:=_root_.id rfl
@[go_sem] theorem akN (d st s h):gR d false st s h (.v (.bool false))=st:=_root_.id rfl
@[go_sem] theorem akO (d st s h):gR (some d) true st s h (.v (.bool false))=some ⟨upd s d .und,h⟩:=_root_.id rfl
@[go_sem] theorem akP (d st s h):gR (some d) false st s h (.v (.bool true))=some ⟨upd s d .und,h⟩:=_root_.id rfl
@[go_sem] theorem aj5 (d w st s h):gR (some d) w st s h .und=some ⟨upd s d .und,h⟩:=_root_.id rfl
@[go_sem] theorem auq (s n):ev s (.t n)=s n:=_root_.id rfl
@[go_sem] theorem aur (s a):ev s (.c a)=a:=_root_.id rfl
@[go_sem] theorem an7 (s):evo s none=none:=_root_.id rfl
@[go_sem] theorem an8 (s x):evo s (some x)=some (ev s x):=_root_.id rfl
@[go_sem] theorem as9 {α:Type} (s:Nat→α) (d:Nat) (x:α) (i:Nat):upd s d x i=if i=d then x else s i:=_root_.id rfl
@[go_sem] theorem ata {α:Type} (d:α) (f:Nat→α):mk d f []=fun _=>d:=_root_.id rfl
@[go_sem] theorem aqE {α:Type} (d:α) (f:Nat→α) (i l):mk d f (i::l)=upd (mk d f l) i (f i):=_root_.id rfl
@[go_sem] theorem aus (x):en s (.mv x)=some (ev s x):=_root_.id rfl
@[go_sem] theorem atb (c a b):en s (.pick c a b)=C0 (ev s c) (ev s a) (ev s b):=_root_.id rfl
@[go_sem] theorem aqF (x):en s (.nilck x)=Bc (ev s x):=_root_.id rfl
@[go_sem] theorem atc (n x):en s (.nilq n x)=C1 n (ev s x):=_root_.id rfl
@[go_sem] theorem aue (op x y):en s (.bin op x y)=dZ op (ev s x) (ev s y):=_root_.id rfl
@[go_sem] theorem aut (op x):en s (.un op x)=OP op (ev s x):=_root_.id rfl
@[go_sem] theorem auu (k x):en s (.cv k x)=YB k (ev s x):=_root_.id rfl
@[go_sem] theorem auf (x):en s (.cv0 x)=VG (ev s x):=_root_.id rfl
@[go_sem] theorem aug (k x lo hi mx):en s (.slc k x lo hi mx)=eO k (ev s x) (evo s lo) (evo s hi) (evo s mx):=_root_.id rfl
@[go_sem] theorem atd (x lo hi):en s (.slcS x lo hi)=On (ev s x) (evo s lo) (evo s hi):=_root_.id rfl
@[go_sem] theorem ate (o x):en s (.fadr o x)=sO o (ev s x):=_root_.id rfl
@[go_sem] theorem auh (o k g x):en s (.fld o k g x)=OR o k g (ev s x):=_root_.id rfl
@[go_sem] theorem aqG (k x i):en s (.iadrS k x i)=po k (ev s x) (ev s i):=_root_.id rfl
@[go_sem] theorem aqH (n k x i):en s (.iadrA n k x i)=yr n k (ev s x) (ev s i):=_root_.id rfl
@[go_sem] theorem atf (x i):en s (.idxS x i)=C2 (ev s x) (ev s i):=_root_.id rfl
@[go_sem] theorem atg (n k g x i):en s (.idxA n k g x i)=C3 n k g (ev s x) (ev s i):=_root_.id rfl
@[go_sem] theorem aui (i x):en s (.ext i x)=OS i (ev s x):=_root_.id rfl
@[go_sem] theorem auj (m x):en s (.len m x)=ky m (ev s x):=_root_.id rfl
@[go_sem] theorem auk (m t x y):en s (.eqc m t x y)=OO m t (ev s x) (ev s y):=_root_.id rfl
@[go_sem] theorem ath (x):en s (.capp x)=OT (ev s x):=_root_.id rfl
@[go_sem] theorem aul (m x ys):en s (.mnx m x ys)=xE m (ev s x) (ys.map (ev s)):=_root_.id rfl
@[go_sem] theorem aqI (z ps):en s (.build z ps)=(qC z (ps.map fun p=>(p.1,p.2.1,ev s p.2.2))).map .agg:=_root_.id rfl
@[go_sem] theorem aum (f a b):en s (.mkF f a b)=some (.fn f (a.map (ev s)) (b.map (ev s))):=_root_.id rfl
@[go_sem] theorem amA (a b):C0 (.v (.bool true)) a b=some a:=_root_.id rfl
@[go_sem] theorem akQ (a b):C0 (.v (.bool false)) a b=some b:=_root_.id rfl
@[go_sem] theorem an9 (id sub k i j):Bc (.ref id sub k i j)=some (.ref id sub k i j):=_root_.id rfl
@[go_sem] theorem aoa (cs):Bc (.ipt cs)=some (.ipt cs):=_root_.id rfl
@[go_sem] theorem aqJ (f a b):Bc (.fn f a b)=some (.fn f a b):=_root_.id rfl
theorem kq (op a b):dZ op (.v a) (.v b)=(gJ op a b).map .v:=_root_.id rfl
@[go_sem] theorem aqK (k a b):dZ .add (.v (.int k a)) (.v (.int k b))=some (.v (.int k (k.wrap (a+b)))):=by simp [kq,gJ,nf]
@[go_sem] theorem aqL (k a b):dZ .sub (.v (.int k a)) (.v (.int k b))=some (.v (.int k (k.wrap (a - b)))):=by simp [kq,gJ,nf]
@[go_sem] theorem aqM (k a b):dZ .mul (.v (.int k a)) (.v (.int k b))=some (.v (.int k (k.wrap (a*b)))):=by simp [kq,gJ,nf]
@[go_sem] theorem afu (k a b):dZ .quo (.v (.int k a)) (.v (.int k b))=if b=0 then none else some (.v (.int k (k.wrap (a.tdiv b)))):=by simp only [kq,gJ,nf,if_true]; split <;> rfl
@[go_sem] theorem Uz (k a b):dZ .rem (.v (.int k a)) (.v (.int k b))=if b=0 then none else some (.v (.int k (a.tmod b))):=by simp only [kq,gJ,nf,if_true]; split <;> rfl
@[go_sem] theorem UA (k a b):dZ .and (.v (.int k a)) (.v (.int k b))=some (.v (.int k (k.wrap ((BitVec.ofInt k.bits a &&& BitVec.ofInt k.bits b).toNat)))):=by simp [kq,gJ,nf]
@[go_sem] theorem aiq (k a b):dZ .or (.v (.int k a)) (.v (.int k b))=some (.v (.int k (k.wrap ((BitVec.ofInt k.bits a ||| BitVec.ofInt k.bits b).toNat)))):=by simp [kq,gJ,nf]
@[go_sem] theorem afv (k k' a b):dZ .shl (.v (.int k a)) (.v (.int k' b))=if b < 0 then none else some (.v (.int k (k.wrap (a*2 ^ (min b.toNat k.bits))))):=by simp only [kq,gJ,abJ]; split <;> rfl
@[go_sem] theorem JA (k k' a b):dZ .shr (.v (.int k a)) (.v (.int k' b))=if b < 0 then none else some (.v (.int k (a.fdiv (2 ^ (min b.toNat k.bits))))):=by simp only [kq,gJ,abK]; split <;> rfl
@[go_sem] theorem aqN (k a b):dZ .lss (.v (.int k a)) (.v (.int k b))=some (B (decide (a < b))):=by simp [kq,gJ,nf]
@[go_sem] theorem aqO (k a b):dZ .leq (.v (.int k a)) (.v (.int k b))=some (B (decide (a≤b))):=by simp [kq,gJ,nf]
@[go_sem] theorem aqP (k a b):dZ .gtr (.v (.int k a)) (.v (.int k b))=some (B (decide (b < a))):=by simp [kq,gJ,nf]
@[go_sem] theorem aqQ (k a b):dZ .geq (.v (.int k a)) (.v (.int k b))=some (B (decide (b≤a))):=by simp [kq,gJ,nf]
@[go_sem] theorem aqR (k a b):dZ .eql (.v (.int k a)) (.v (.int k b))=some (B (decide (a=b))):=by simp [kq,gJ,nf]; rfl
@[go_sem] theorem aqS (k a b):dZ .neq (.v (.int k a)) (.v (.int k b))=some (B (!decide (a=b))):=by simp [kq,gJ,nf,bne]; rfl
@[go_sem] theorem ati (k a):OP .neg (.v (.int k a))=some (.v (.int k (k.wrap (0 - a)))):=_root_.id rfl
@[go_sem] theorem atj (k a):OP .xor (.v (.int k a))=some (.v (.int k (k.wrap ((BitVec.ofInt k.bits (if k.signed then -1 else k.max) ^^^ BitVec.ofInt k.bits a).toNat)))):=_root_.id rfl
@[go_sem] theorem aqT (k a b):dZ .xor (.v (.int k a)) (.v (.int k b))=some (.v (.int k (k.wrap ((BitVec.ofInt k.bits a ^^^ BitVec.ofInt k.bits b).toNat)))):=by simp [kq,gJ,nf]
@[go_sem] theorem atk (b):OP .not (.v (.bool b))=some (B (!b)):=_root_.id rfl
@[go_sem] theorem atl (k k' n):YB k (.v (.int k' n))=some (.v (.int k (k.wrap n))):=_root_.id rfl
@[go_sem] theorem aob (o id sub k i j):sO o (.ref id sub k i j)=some (.ref id sub k i (j+o)):=_root_.id rfl
@[go_sem] theorem aoc (o cs):sO o (.ipt cs)=some (.ipt (cs.drop o)):=_root_.id rfl
@[go_sem] theorem aqU (o k g cs):OR o k g (.agg cs)=iu k g cs o:=_root_.id rfl
@[go_sem] theorem amB (k cs o):iu k false cs o=cs[o]?:=_root_.id rfl
@[go_sem] theorem aod (k cs o):iu k true cs o=if o+k≤cs.length then some (.agg ((cs.drop o).take k)) else none:=_root_.id rfl
@[go_sem] theorem aqV (k rows k' i):po k (.sl k rows) (.v (.int k' i))=bu rows i:=by simp [po]
@[go_sem] theorem aoe (k id sub lo n k' i):po k (.rsl id sub k lo n) (.v (.int k' i))=if 0≤i∧i < n then some (.ref id sub k (lo+i.toNat) 0) else none:=by simp [po]
@[go_sem] theorem amC (n k id sub k' a j kk i):yr n k (.ref id sub k' a j) (.v (.int kk i))=if 0≤i∧i < n then some (.ref id sub k' a (j+i.toNat*k)) else none:=_root_.id rfl
@[go_sem] theorem amD (n k cs kk i):yr n k (.ipt cs) (.v (.int kk i))=if 0≤i∧i < n then some (.ipt (cs.drop (i.toNat*k))) else none:=_root_.id rfl
@[go_sem] theorem aqW (i vs):OS i (.tup vs)=vs[i]?:=_root_.id rfl
@[go_sem] theorem atn (k rows):ky false (.sl k rows)=some (I rows.length):=_root_.id rfl
@[go_sem] theorem aqX:ky false .emp=some (I 0):=_root_.id rfl
@[go_sem] theorem aqY (a b c d n):ky false (.rsl a b c d n)=some (I n):=_root_.id rfl
@[go_sem] theorem aqZ (x):ky true (.v (.string x))=some (I x.size):=_root_.id rfl
@[go_sem] theorem aof (m a):xE m a []=some a:=_root_.id rfl
@[go_sem] theorem amE (m a b l):xE m a (b::l)=(Jl m a b).bind fun c=>xE m c l:=_root_.id rfl
@[go_sem] theorem aq0 (k k' x y):Jl true (.v (.int k x)) (.v (.int k' y))=some (.v (.int k (if y < x then y else x))):=_root_.id rfl
@[go_sem] theorem aq1 (k k' x y):Jl false (.v (.int k x)) (.v (.int k' y))=some (.v (.int k (if x < y then y else x))):=_root_.id rfl
@[go_sem] theorem aog (m a b):OO m 0 (.v (.bool a)) (.v (.bool b))=some (B (m != (a == b))):=_root_.id rfl
@[go_sem] theorem amF (z):qC z []=some z:=_root_.id rfl
@[go_sem] theorem akR (z o k a ps):qC z ((o,k,a)::ps)=(eN a).bind fun cs=>if cs.length=k∧o+k≤z.length then qC (setRow z o cs) ps else none:=_root_.id rfl
@[go_sem] theorem amG (cs):eN (.agg cs)=some cs:=_root_.id rfl
@[go_sem] theorem aq2 (x):eN (.v x)=some [.v x]:=_root_.id rfl
@[go_sem] theorem amH:eN .emp=some [.emp]:=_root_.id rfl
@[go_sem] theorem aoh (k r):eN (.sl k r)=some [.sl k r]:=_root_.id rfl
@[go_sem] theorem amI (a b c d e):eN (.rsl a b c d e)=some [.rsl a b c d e]:=_root_.id rfl
@[go_sem] theorem amJ (a b c d e):eN (.ref a b c d e)=some [.ref a b c d e]:=_root_.id rfl
@[go_sem] theorem aoi (f a b):eN (.fn f a b)=some [.fn f a b]:=_root_.id rfl
@[go_sem] theorem akS (r j):setRow r j []=r:=_root_.id rfl
@[go_sem] theorem aj6 (r j c cs):setRow r j (c::cs)=setRow (r.set j c) (j+1) cs:=_root_.id rfl
@[go_sem] theorem aoj (h k g cs):fw h k g (.ipt cs)=(iu k g cs 0).map fun a=>(a,h,[]):=_root_.id rfl
@[go_sem] theorem aok (h k g id k0 i j):fw h k g (.ref id none k0 i j)=sQ h k g id k0 i j (h id):=_root_.id rfl
@[go_sem] theorem aol (h k g id p k0 i j):fw h k g (.ref id (some p) k0 i j)=jI h k g k0 i j (go p (h id)):=_root_.id rfl
@[go_sem] theorem aom (h k g id k0 i j cs):sQ h k g id k0 i j (.bx cs)=ze h id (i*k0+j) k g cs:=_root_.id rfl
@[go_sem] theorem aon (h k g id k0 i j k' rows):sQ h k g id k0 i j (.ar k' rows)=jI h k g k0 i j (some (k',rows)):=_root_.id rfl
@[go_sem] theorem aoo (h k g id k0 i j k' rows):sQ h k g id k0 i j (.fz k' rows)=jI h k g k0 i j (some (k',rows)):=_root_.id rfl
@[go_sem] theorem akT (h id p k cs):ze h id p k false cs=(cs[p]?).map fun c=>(sP id p c,h,[]):=_root_.id rfl
@[go_sem] theorem amK (h id p k cs):ze h id p k true cs=if p+k≤cs.length then (if ((cs.drop p).take k).any bd then some (.agg (((cs.map iX).drop p).take k),upd h id (.bx (cs.map iX)),[(id,true)]) else some (.agg ((cs.drop p).take k),h,[])) else none:=_root_.id rfl
@[go_sem] theorem aq3 (id p x):sP id p (.v x)=.v x:=_root_.id rfl
@[go_sem] theorem amL (id p):sP id p .emp=.emp:=_root_.id rfl
@[go_sem] theorem aoq (id p k r):sP id p (.sl k r)=.sl k r:=_root_.id rfl
@[go_sem] theorem amM (id p a b c d e):sP id p (.ref a b c d e)=.ref a b c d e:=_root_.id rfl
@[go_sem] theorem aor (id p f a b):sP id p (.fn f a b)=.fn f a b:=_root_.id rfl
@[go_sem] theorem amN (id p k r):sP id p (.osl k r)=.rsl id (some p) k 0 r.length:=_root_.id rfl
@[go_sem] theorem akU (h k g i j k' rows):jI h k g k' i j (some (k',rows))=(rows[i]?).bind fun row=>(iu k g row j).map fun a=>(a,h,[]):=by simp [jI]
@[go_sem] theorem aq4 (x):bd (.v x)=false:=_root_.id rfl
@[go_sem] theorem amO:bd .emp=false:=_root_.id rfl
@[go_sem] theorem aos (k r):bd (.sl k r)=false:=_root_.id rfl
@[go_sem] theorem amP (k r):bd (.osl k r)=true:=_root_.id rfl
@[go_sem] theorem amQ (a b c d e):bd (.ref a b c d e)=false:=_root_.id rfl
@[go_sem] theorem aot (f a b):bd (.fn f a b)=false:=_root_.id rfl
@[go_sem] theorem ato (x):aA (.v x)=true:=_root_.id rfl
@[go_sem] theorem aou:aA .emp=true:=_root_.id rfl
@[go_sem] theorem aq5 (k r):aA (.sl k r)=true:=_root_.id rfl
@[go_sem] theorem aov (a b c d e):aA (.rsl a b c d e)=false:=_root_.id rfl
@[go_sem] theorem aow (a b c d e):aA (.ref a b c d e)=false:=_root_.id rfl
@[go_sem] theorem aox (f):aA (.fn f [] [])=true:=_root_.id rfl
@[go_sem] theorem aq6 (cs):dat (.agg cs)=cs.all aA:=_root_.id rfl
@[go_sem] theorem aun (x):dat (.v x)=true:=_root_.id rfl
@[go_sem] theorem aq7:dat .emp=true:=_root_.id rfl
@[go_sem] theorem atp (k r):dat (.sl k r)=true:=_root_.id rfl
@[go_sem] theorem aq8 (a b c d e):dat (.rsl a b c d e)=false:=_root_.id rfl
@[go_sem] theorem aq9 (a b c d e):dat (.ref a b c d e)=false:=_root_.id rfl
@[go_sem] theorem ara (f):dat (.fn f [] [])=true:=_root_.id rfl
@[go_sem] theorem aoy (h d cs ks):ic h d cs ks=vL h d (.ref d none 0 0 0) (.bx cs) ks (h d):=_root_.id rfl
@[go_sem] theorem amR (h d a o ks):vL h d a o ks .dead=some (a,upd h d o,ks):=_root_.id rfl
@[go_sem] theorem akV (h d k rows n ks):cG h d k rows n ks=vL h d (.rsl d none k 0 n) (.ar k rows) ks (h d):=_root_.id rfl
@[go_sem] theorem atq (h d k x):vM h d k x=(eN x).bind fun xs=>if xs.length=k then (if xs.all aA then ic h d xs [] else (ic h d (List.replicate k .any) []).bind (EP d 0 xs)) else none:=_root_.id rfl
@[go_sem] theorem air (k h rows):dT k h rows []=some (rows,h,[]):=_root_.id rfl
@[go_sem] theorem ahv (k h rows i a ps):dT k h rows ((i,a)::ps)=(eN a).bind fun cs=>if cs.length=k∧i < rows.length then (eS h cs).bind fun q=>(dT k q.2.1 (rows.set i q.1) ps).bind fun r=>some (r.1,r.2.1,q.2.2++r.2.2) else none:=_root_.id rfl
@[go_sem] theorem amS (h):eS h []=some ([],h,[]):=_root_.id rfl
@[go_sem] theorem akW (h a l):eS h (a::l)=(ey h a).bind fun p=>(eS p.2.1 l).bind fun q=>some (p.1::q.1,q.2.1,p.2.2++q.2.2):=_root_.id rfl
@[go_sem] theorem atr (h x):ey h (.v x)=some (.v x,h,[]):=_root_.id rfl
@[go_sem] theorem aoz (h):ey h .emp=some (.emp,h,[]):=_root_.id rfl
@[go_sem] theorem arb (h k r):ey h (.sl k r)=some (.sl k r,h,[]):=_root_.id rfl
@[go_sem] theorem arc (h f):ey h (.fn f [] [])=some (.fn f [] [],h,[]):=_root_.id rfl
@[go_sem] theorem aoA (h id k lo n):ey h (.rsl id none k lo n)=kB h id k lo n (h id):=_root_.id rfl
@[go_sem] theorem amT (h id p k lo n):ey h (.rsl id (some p) k lo n)=Be h id p k lo n (h id):=_root_.id rfl
@[go_sem] theorem ard (h id k lo n rows):kB h id k lo n (.ar k rows)=if lo+n≤rows.length then some (kz k lo n rows,upd h id (.fz k rows),[]) else none:=by simp [kB]
@[go_sem] theorem are (h id k lo n rows):kB h id k lo n (.fz k rows)=if lo+n≤rows.length then some (kz k lo n rows,h,[]) else none:=by simp [kB]
@[go_sem] theorem arf (k lo n rows):kz k lo n rows=.sl k ((rows.drop lo).take n):=_root_.id rfl
@[go_sem] theorem amU (h k id k0 i j x):ib h k (.ref id none k0 i j) x=(eN x).bind fun xs=>if xs.length=k then xG h k id k0 i j xs (h id) else none:=_root_.id rfl
@[go_sem] theorem amV (h k id p k0 i j x):ib h k (.ref id (some p) k0 i j) x=(eN x).bind fun xs=>if xs.length=k then (eS h xs).bind fun q=>xd q.2.1 k id p k0 i j q.1 q.2.2 (q.2.1 id) else none:=_root_.id rfl
@[go_sem] theorem arg (h k id k0 i j xs cs):xG h k id k0 i j xs (.bx cs)=Jm h id (i*k0+j) k xs cs:=_root_.id rfl
@[go_sem] theorem arh (h k id k0 i j xs k' rows):xG h k id k0 i j xs (.ar k' rows)=(eS h xs).bind fun q=>Jn q.2.1 id k k0 i j q.1 q.2.2 (q.2.1 id):=_root_.id rfl
@[go_sem] theorem ari (h id k k0 i j xs ks k' rows):Jn h id k k0 i j xs ks (.ar k' rows)=(rS k k0 i j xs k' rows).map fun q=>(.und,upd h id (.ar k' q),ks):=_root_.id rfl
@[go_sem] theorem arj (k k0 i j cs rows):rS k k0 i j cs k0 rows=(rows[i]?).bind fun row=>if j+k≤row.length then some (rows.set i (setRow row j cs)) else none:=by simp [rS]
@[go_sem] theorem ark (h id p k xs cs):Jm h id p k xs cs=if p+k≤cs.length then (if xs.all aA then some (.und,upd h id (.bx (setRow cs p xs)),if ((cs.drop p).take k).any bd then [(id,true)] else []) else (lZ h id p xs.length xs).map fun q=>(.und,q.1,q.2)) else none:=_root_.id rfl
@[go_sem] theorem arl (hs x):eH hs (.v x)=.v x:=_root_.id rfl
@[go_sem] theorem amW (hs):eH hs .emp=.emp:=_root_.id rfl
@[go_sem] theorem aoB (hs k r):eH hs (.sl k r)=.sl k r:=_root_.id rfl
@[go_sem] theorem amX (hs):eH hs .any=.any:=_root_.id rfl
@[go_sem] theorem amY (hs cs):eH hs (.ipt cs)=.ipt cs:=_root_.id rfl
@[go_sem] theorem amZ (hs id sub k lo n):eH hs (.rsl id sub k lo n)=if hs.contains id then .rsl id sub k lo n else .any:=_root_.id rfl
@[go_sem] theorem am0 (hs id sub k lo n):eH hs (.ref id sub k lo n)=if hs.contains id then .ref id sub k lo n else .any:=_root_.id rfl
@[go_sem] theorem am1 (hs cs):eH hs (.agg cs)=if cs.all (knownL hs) then .agg cs else .any:=_root_.id rfl
@[go_sem] theorem am2 (hs f):eH hs (.fn f [] [])=.fn f [] []:=_root_.id rfl
@[go_sem] theorem aoC (hs f a b):eH hs (.fn f a b)=if a.all (knownL hs) && b.all (knownL hs) then .fn f a b else .any:=_root_.id rfl
@[go_sem] theorem aoD (hs x):knownL hs (.v x)=true:=_root_.id rfl
@[go_sem] theorem akX (hs):knownL hs .emp=true:=_root_.id rfl
@[go_sem] theorem am3 (hs k r):knownL hs (.sl k r)=true:=_root_.id rfl
@[go_sem] theorem akY (hs id a b c d):knownL hs (.ref id a b c d)=hs.contains id:=_root_.id rfl
@[go_sem] theorem ais (hs):aT hs .dead=true:=_root_.id rfl
@[go_sem] theorem akZ (hs k r):aT hs (.ar k r)=true:=_root_.id rfl
@[go_sem] theorem ak0 (hs k r):aT hs (.fz k r)=true:=_root_.id rfl
@[go_sem] theorem ak1 (hs cs):aT hs (.bx cs)=cs.all (gp hs):=_root_.id rfl
@[go_sem] theorem am4 (hs x):gp hs (.v x)=true:=_root_.id rfl
@[go_sem] theorem aj7 (hs):gp hs .emp=true:=_root_.id rfl
@[go_sem] theorem ak2 (hs k r):gp hs (.sl k r)=true:=_root_.id rfl
@[go_sem] theorem aj8 (hs k r):gp hs (.osl k r)=true:=_root_.id rfl
@[go_sem] theorem aj9 (hs id a b c):gp hs (.ref id none a b c)=hs.contains id:=by simp [gp,bd,aZ,bj]
@[go_sem] theorem aka (hs f):gp hs (.fn f [] [])=true:=_root_.id rfl
@[go_sem] theorem ak3 {α β:Type} (f:α→β) (a):Option.map f (some a)=some (f a):=_root_.id rfl
@[go_sem] theorem ak4 {α β:Type} (f:α→β):Option.map f none=none:=_root_.id rfl
@[go_sem] theorem akb {α β:Type} (f:α→Option β) (a):(some a).bind f=f a:=_root_.id rfl
@[go_sem] theorem akc {α β:Type} (f:α→Option β):(none:Option α).bind f=none:=_root_.id rfl
@[go_sem] theorem akd {α:Type} (a b:α):(some a).getD b=a:=_root_.id rfl
@[go_sem] theorem am5 {α:Type} (p:α→Bool):[].all p=true:=_root_.id rfl
@[go_sem] theorem ak5 {α:Type} (p:α→Bool) (a l):(a::l).all p=(p a && l.all p):=_root_.id rfl
@[go_sem] theorem am6 {α:Type} (p:α→Bool):[].any p=false:=_root_.id rfl
@[go_sem] theorem ak6 {α:Type} (p:α→Bool) (a l):(a::l).any p=(p a || l.any p):=_root_.id rfl
@[go_sem] theorem ak7 {α:Type} (a:α) (l):(a::l)[0]?=some a:=_root_.id rfl
@[go_sem] theorem ak8 {α:Type} (a:α) (l) (n:Nat):(a::l)[n+1]?=l[n]?:=_root_.id rfl
@[go_sem] theorem am7 {α β:Type} (f:α→β):[].map f=[]:=_root_.id rfl
@[go_sem] theorem ak9 {α β:Type} (f:α→β) (a l):(a::l).map f=f a::l.map f:=_root_.id rfl
@[go_sem] theorem aoE {α β:Type} (f:α→List β):[].flatMap f=[]:=_root_.id rfl
@[go_sem] theorem am8 {α β:Type} (f:α→List β) (a l):(a::l).flatMap f=f a++l.flatMap f:=_root_.id rfl
@[go_sem] theorem am9 {α:Type} (l:List α):l++[]=l:=List.append_nil l
@[go_sem] theorem ana {α:Type} (l:List α):[]++l=l:=_root_.id rfl
@[go_sem] theorem ala {α:Type} (a:α) (l r):(a::l)++r=a::(l++r):=_root_.id rfl
@[go_sem] theorem anb {α:Type}:([]:List α).length=0:=_root_.id rfl
@[go_sem] theorem alb {α:Type} (a:α) (l):(a::l).length=l.length+1:=_root_.id rfl
@[go_sem] theorem ake {α:Type} (l:List α):l.drop 0=l:=_root_.id rfl
@[go_sem] theorem akf {α:Type} (a:α) (l) (n:Nat):(a::l).drop (n+1)=l.drop n:=_root_.id rfl
@[go_sem] theorem akg {α:Type} (l:List α):l.take 0=[]:=_root_.id rfl
@[go_sem] theorem akh {α:Type} (a:α) (l) (n:Nat):(a::l).take (n+1)=a::l.take n:=_root_.id rfl
@[go_sem] theorem ait {α:Type} (p:α→Bool):[].filter p=[]:=_root_.id rfl
@[go_sem] theorem alc {α:Type} (a b:α) (l):(a::l).set 0 b=b::l:=_root_.id rfl
@[go_sem] theorem ald {α:Type} (a b:α) (l) (n:Nat):(a::l).set (n+1) b=a::l.set n b:=_root_.id rfl
@[go_sem] theorem ats {α:Type} (a:α):List.replicate 0 a=[]:=_root_.id rfl
@[go_sem] theorem att {α:Type} (a:α):List.replicate 1 a=[a]:=_root_.id rfl
@[go_sem] theorem atu {α:Type} (a:α):List.replicate 2 a=[a,a]:=_root_.id rfl
@[go_sem] theorem atv {α:Type} (a:α):List.replicate 3 a=[a,a,a]:=_root_.id rfl
@[go_sem] theorem atw {α:Type} (a:α):List.replicate 4 a=[a,a,a,a]:=_root_.id rfl
@[go_sem] theorem atx {α:Type} (a:α):List.replicate 5 a=[a,a,a,a,a]:=_root_.id rfl
@[go_sem] theorem auv:decide True=true:=_root_.id rfl
@[go_sem] theorem auw:decide False=false:=_root_.id rfl
@[go_sem] theorem arm (b:Bool):(true && b)=b:=_root_.id rfl
@[go_sem] theorem arn (b:Bool):(false && b)=false:=_root_.id rfl
@[go_sem] theorem aty (b:Bool):(true || b)=true:=_root_.id rfl
@[go_sem] theorem atz (b:Bool):(false || b)=b:=_root_.id rfl
@[go_sem] theorem aro:(!true)=false:=_root_.id rfl
@[go_sem] theorem arp:(!false)=true:=_root_.id rfl
@[go_sem] theorem arq (b:Bool):(b && true)=b:=Bool.and_true b
@[go_sem] theorem aux:(false=true)=False:=by simp
@[go_sem] theorem auo {α:Type} (a:α):(a=a)=True:=by simp
@[go_sem] theorem atA (p:Prop):(True∧p)=p:=by simp
@[go_sem] theorem arr (p:Prop):(p∧True)=p:=by simp
@[go_sem] theorem atB (p:Prop):(False∧p)=False:=by simp
@[go_sem] theorem atC:(¬ False)=True:=by simp
@[go_sem] theorem atD:(¬ True)=False:=by simp
@[go_sem] theorem aoF (nm rs res n t):gq nm rs res n (some (.ret,t))=vP nm rs res n t.s t.h:=_root_.id rfl
@[go_sem] theorem aki (nm rs res n t):gq nm rs res n (some (.normal,t))=vP nm rs res n t.s t.h:=_root_.id rfl
@[go_sem] theorem anc (nm rs res n s h):vP nm rs res n s h=(qG s h res).bind fun q=>if lA nm q.2.2 then qH rs n q.2.1 q.1 else none:=_root_.id rfl
@[go_sem] theorem atE (nm:Bool):lA nm []=true:=ke nm
@[go_sem] theorem ane (s h):qG s h []=some ([],h,[]):=_root_.id rfl
@[go_sem] theorem ars (s h n l):qG s h (.t n::l)=(qG s h l).bind fun q=>some (O2 q.2.2 (s n)::q.1,q.2.1,q.2.2):=_root_.id rfl
@[go_sem] theorem ale (s h n k g l):qG s h (.cell n k g::l)=(fw h k g (s n)).bind fun p=>(qG (gl p.2.2 s) p.2.1 l).bind fun q=>some (O2 q.2.2 p.1::q.1,q.2.1,p.2.2++q.2.2):=_root_.id rfl
@[go_sem] theorem aoG (a):O2 [] a=a:=_root_.id rfl
@[go_sem] theorem anf (s):gl [] s=s:=_root_.id rfl
@[go_sem] theorem atF (rs h vs):qH rs 0 h vs=if gL ((vs.flatMap bI).filter fun i=>!aY i) then (nV h vs).map fun us=>(pG (bg rs us),[]) else none:=by simp [qH,cN]
@[go_sem] theorem ang (h):nV h []=some []:=_root_.id rfl
@[go_sem] theorem alf (h a l):nV h (a::l)=(ni h a).bind fun b=>(nV h l).bind fun q=>some (b::q):=_root_.id rfl
@[go_sem] theorem atG (h x):ni h (.v x)=some (.v x):=_root_.id rfl
@[go_sem] theorem aoH (h):ni h .emp=some .emp:=_root_.id rfl
@[go_sem] theorem art (h k r):ni h (.sl k r)=some (.sl k r):=_root_.id rfl
@[go_sem] theorem aoI (h cs):ni h (.agg cs)=(iD h cs).map .agg:=_root_.id rfl
@[go_sem] theorem aoJ (h id k lo n):ni h (.rsl id none k lo n)=if aY id then none else tQ k lo n (h id):=_root_.id rfl
@[go_sem] theorem aru (k lo n rows):tQ k lo n (.ar k rows)=if lo+n≤rows.length then (if lo=0∧n=rows.length then some (.osl k rows) else some (kz k lo n rows)) else none:=by simp [tQ]
@[go_sem] theorem arv (k lo n rows):tQ k lo n (.fz k rows)=if lo+n≤rows.length then some (kz k lo n rows) else none:=by simp [tQ]
@[go_sem] theorem anh (h):iD h []=some []:=_root_.id rfl
@[go_sem] theorem arw (h x l):iD h (.v x::l)=(iD h l).bind fun q=>some (.v x::q):=_root_.id rfl
@[go_sem] theorem ani (h l):iD h (.emp::l)=(iD h l).bind fun q=>some (.emp::q):=_root_.id rfl
@[go_sem] theorem aoK (h k r l):iD h (.sl k r::l)=(iD h l).bind fun q=>some (.sl k r::q):=_root_.id rfl
@[go_sem] theorem anj (h id k lo n l):iD h (.rsl id none k lo n::l)=(iC h (.rsl id none k lo n)).bind fun b=>(tT b).bind fun c=>(iD h l).bind fun q=>some (c::q):=_root_.id rfl
@[go_sem] theorem aoL (h id k lo n):iC h (.rsl id none k lo n)=if aY id then none else tQ k lo n (h id):=_root_.id rfl
@[go_sem] theorem aoM (k r):tT (.osl k r)=some (.sl k r):=_root_.id rfl
@[go_sem] theorem arx (k r):tT (.sl k r)=some (.sl k r):=_root_.id rfl
@[go_sem] theorem ary (a):pG [a]=a:=_root_.id rfl
@[go_sem] theorem arz (a b l):pG (a::b::l)=.tup (a::b::l):=_root_.id rfl
@[go_sem] theorem arA:pG []=.tup []:=_root_.id rfl
@[go_sem] theorem ank (l):bg [] l=l:=by cases l <;> simp [bg]
@[go_sem] theorem alg (s):bg s []=[]:=by cases s <;> simp [bg]
@[go_sem] theorem alh (s ss a l):bg (s::ss) (a::l)=nrmV s a::bg ss l:=_root_.id rfl
@[go_sem] theorem acd (a):nrmV [] a=a:=by cases a <;> simp [nrmV,nrmL,cX]
@[go_sem] theorem aoN (ss cs):nrmV ss (.agg cs)=.agg (cX ss cs):=_root_.id rfl
@[go_sem] theorem atH (ss x):nrmV ss (.v x)=.v x:=by
 show nrmL _ _=_
 generalize ss.headD (.o 0 [])=s
 obtain ⟨k,cs⟩:=s
 cases k <;> simp [nrmL]
@[go_sem] theorem aoO (k cs ss):nrmV (.o (k+1) cs::ss) .emp=.sl k []:=by simp [nrmV,nrmL]
@[go_sem] theorem arB (k cs ss k' rows):nrmV (.o (k+1) cs::ss) (.sl k' rows)=.sl k' (rows.map (cX cs)):=by simp [nrmV,nrmL]
@[go_sem] theorem aoP (k cs ss k' rows):nrmV (.o (k+1) cs::ss) (.osl k' rows)=.sl k' (rows.map (cX cs)):=by simp [nrmV,nrmL]
@[go_sem] theorem ace (l):cX [] l=l:=by cases l <;> simp [cX]
@[go_sem] theorem anl (l):cX l []=[]:=by cases l <;> simp [cX]
@[go_sem] theorem anm (s ss a l):cX (s::ss) (a::l)=nrmL s a::cX ss l:=by simp [cX]
@[go_sem] theorem atI (cs a):nrmL (.o 0 cs) a=a:=by simp [nrmL]
@[go_sem] theorem aoQ (k cs):nrmL (.o (k+1) cs) .emp=.sl k []:=by simp [nrmL]
@[go_sem] theorem arC (k cs k' rows):nrmL (.o (k+1) cs) (.sl k' rows)=.sl k' (rows.map (cX cs)):=by simp [nrmL]
@[go_sem] theorem atJ (k cs x):nrmL (.o k cs) (.v x)=.v x:=by cases k <;> simp [nrmL]
@[go_sem] theorem atK (x):bI (.v x)=[]:=_root_.id rfl
@[go_sem] theorem aoR:bI .emp=[]:=_root_.id rfl
@[go_sem] theorem arD (k r):bI (.sl k r)=[]:=_root_.id rfl
@[go_sem] theorem aoS (cs):bI (.agg cs)=cs.flatMap dM:=_root_.id rfl
@[go_sem] theorem aoT (a b c d e):bI (.rsl a b c d e)=[a]:=_root_.id rfl
@[go_sem] theorem atL (x):dM (.v x)=[]:=_root_.id rfl
@[go_sem] theorem aoU:dM .emp=[]:=_root_.id rfl
@[go_sem] theorem arE (k r):dM (.sl k r)=[]:=_root_.id rfl
@[go_sem] theorem aoV (a b c d e):dM (.rsl a b c d e)=[a]:=_root_.id rfl
@[go_sem] theorem ali:gL []=true:=_root_.id rfl
@[go_sem] theorem alj (a):gL [a]=true:=_root_.id rfl
@[go_sem] theorem arF (args i):oT args i=(args[i]?).getD .any:=_root_.id rfl
@[go_sem] theorem WC:ak []=fun _=>.dead:=by funext i; simp [ak]
@[go_sem] theorem ann (i):aY i=decide (1000≤i∧i < 2000):=_root_.id rfl
def iG (h:ab) (d:Nat):Option (AV × List Ob)→Option R3
 | some (r,[])=>if cx r≤8∧cV h (2000+8*d) (cx r)=true∧fG [] r=true then some ((mat (2000+8*d) h r).1,(mat (2000+8*d) h r).2,[]) else none
 | _=>none
theorem gS {c:AV} {ids:List Nat} {n:Nat} (hn:2000≤n) (hc:bj [] c=true∨(∃ k lo m,c=.rsl n none k lo m)∨∃ k i j,c=.ref n none k i j):iw (cF ids) c=c:=by
 have hb:cF ids n=n:=by unfold cF; rw [if_neg (by omega)]
 rcases hc with hc | ⟨k,lo,m,rfl⟩ | ⟨k,i,j,rfl⟩
 ·cases c <;> simp [bj] at hc <;> rfl
 ·simp [iw,hb]
 ·simp [iw,hb]
theorem Mb {r:AV} {n:Nat} (hn:2000≤n) (h:ab) (ids:List Nat) (hr:dH [] r=true):dh (cF ids) (cM n h r).1=(cM n h r).1:=by
 cases r <;> simp only [dH] at hr <;> simp only [cM]
 case osl=>simp only [dh]; exact gS hn (.inr (.inl ⟨_,_,_,rfl⟩))
 case obx=>simp only [dh]; exact gS hn (.inr (.inr ⟨_,_,_,rfl⟩))
 case agg cs =>
  simp only [aZ,List.all_eq_true] at hr
  simp only [dh,AV.agg.injEq]
  exact (List.map_congr_left (g:=fun c=>c) fun c hc=>gS hn (.inl (hr c hc))).trans (List.map_id' cs)
 case fn f x y =>
  simp only [aZ,Bool.and_eq_true,List.all_eq_true] at hr
  simp only [dh,AV.fn.injEq,true_and]
  exact ⟨(List.map_congr_left (g:=fun c=>c) fun c hc=>gS hn (.inl (hr.1 c hc))).trans (List.map_id' x),(List.map_congr_left (g:=fun c=>c) fun c hc=>gS hn (.inl (hr.2 c hc))).trans (List.map_id' y)⟩
 all_goals
  simp only [dh]
  exact gS hn (.inl hr)
theorem Mc (ids:List Nat):∀ {l:List AV} {n:Nat} {h:ab},2000≤n→l.all (dH [])=true→(bP n h l).1.map (dh (cF ids))=(bP n h l).1
 | [],n,h,_,_=>rfl
 | c::l,n,h,hn,hr=>by
  simp only [List.all_cons,Bool.and_eq_true] at hr
  simp only [bP,List.map_cons]
  rw [Mb hn h ids hr.1,Mc ids (by omega) hr.2]
theorem acf {r:AV} {n:Nat} (hn:2000≤n) (h:ab) (ids:List Nat) (hr:fG [] r=true):zf (cF ids) (mat n h r).1=(mat n h r).1:=by
 cases r with
 | tup vs =>
  simp only [fG] at hr
  simp only [mat,zf,AV.tup.injEq]
  exact Mc ids hn hr
 | _ =>
  simp only [fG] at hr
  have:=Mb hn h ids hr
  simp only [mat]
  simp only [cM] at this ⊢
  exact this
theorem Md:∀ l:List AV,mR [] l=[]
 | []=>rfl
 | a::l=>by simp [mR,Md l]
theorem xj {f:FuncId} {args:List AV} (d:Nat) (hm:md.m f=[]) (hd:args.all dat=true):bA call md h d args (.fn f [] [])=iG h d (call f (bg (md.sh f) args) []):=by
 have hin:bH h [] args=some (args,h,[]):=by
  have:∀ (l:List AV),l.all dat=true→bH h [] l=some (l,h,[]):=by
   intro l
   induction l with
   | nil=>intro _; rfl
   | cons a l ih =>
    intro hd
    simp only [List.all_cons,Bool.and_eq_true] at hd
    have ha:ct h 0 a=some (a,h,[]):=by
     have h1:=hd.1
     by_cases hagg:∃ cs,a=.agg cs
     ·obtain ⟨cs,rfl⟩:=hagg
      simp only [dat] at h1
      simp only [ct,pp]
      rw [iM h1 h]
      rfl
     ·have h2:aA a=true:=by cases a <;> first | exact h1 | exact absurd ⟨_,rfl⟩ hagg
      cases a <;> first | (simp [aA] at h2; done) | rfl | skip
    simp only [bH,List.headD_nil,ha,Option.bind_some,List.tail_nil,ih hd.2,List.append_nil]
  exact this args hd
 have hids:args.flatMap bI=[]:=by
  rw [List.flatMap_eq_nil_iff]
  exact fun c hc=>Ph (List.all_eq_true.1 hd c hc)
 have hren:(bg (md.sh f) args).map (dh (bm []))=bg (md.sh f) args∧(bg (md.sh f) args).all (aZ [])=true:=by
  have key:∀ c ∈ bg (md.sh f) args,dat c=true:=by
   intro c hc
   obtain ⟨i,hi⟩:=List.getElem?_of_mem hc
   obtain ⟨c0,h1,h2⟩:=qo _ _ _ _ hi
   have h0:=List.all_eq_true.1 hd c0 (List.mem_of_getElem? h1)
   rcases h2 with rfl | ⟨ss,rfl⟩
   ·exact h0
   ·cases c0 <;> simp only [dat] at h0 <;> simp only [nrmV,dat] <;> try (have:=vW (s:=ss.headD (.o 0 [])) h0; revert this; generalize nrmL _ _=q; intro this; cases q <;> first | exact this | simp [aA] at this)
    rename_i cs
    rw [List.all_eq_true]
    intro c hc
    obtain ⟨i,hi⟩:=List.getElem?_of_mem hc
    obtain ⟨c0,h1,h2⟩:=vV _ _ _ _ hi
    have h3:=List.all_eq_true.1 h0 c0 (List.mem_of_getElem? h1)
    rcases h2 with rfl | ⟨s,rfl⟩
    ·exact h3
    ·exact vW h3
  refine ⟨(List.map_congr_left (g:=fun c=>c) fun c hc=>?_).trans (List.map_id' _),?_⟩
  ·have:=key c hc
   cases c <;> simp only [dat] at this <;> first | rfl | skip
   all_goals first
    | (simp [aA] at this; done)
    | skip
   ·rename_i cs
    simp only [dh,AV.agg.injEq]
    refine (List.map_congr_left (g:=fun c=>c) fun c hc=>?_).trans (List.map_id' cs)
    have h3:=List.all_eq_true.1 this c hc
    cases c <;> simp [aA] at h3 <;> rfl
   ·rename_i g x y
    simp [aA] at this
    obtain ⟨rfl,rfl⟩:=this
    rfl
  ·rw [List.all_eq_true]
   intro c hc
   have:=key c hc
   cases c <;> simp only [dat] at this <;> first | rfl | skip
   all_goals first
    | (simp [aA] at this; done)
    | skip
   ·rename_i cs
    simp only [aZ,List.all_eq_true]
    intro c hc
    have h3:=List.all_eq_true.1 this c hc
    cases c <;> simp [aA] at h3 <;> simp [bj,h3]
   ·rename_i g x y
    simp [aA] at this
    obtain ⟨rfl,rfl⟩:=this
    rfl
 unfold bA
 rw [if_neg (by simp [iY,hm])]
 simp only [dm,hm,List.nil_append,List.append_nil,hin,Option.bind_some,hids,bE,LV,ix,hren.2,List.all_nil,Bool.and_self,if_true,hren.1,List.map_nil,Md]
 cases hr:call f (bg (md.sh f) args) [] with
 | none=>rfl
 | some q =>
  obtain ⟨r,os⟩:=q
  cases os with
  | cons o os=>simp only [Option.bind_some,dN,iG]; simp
  | nil =>
   simp only [Option.bind_some,dN,iG,List.length_nil,Nat.zero_le,true_and,cW,pF,zg,List.all_nil,Bool.true_and,Bool.and_true,vN,cN,List.range'_zero,dt,eU]
   by_cases hc:cx r≤8∧cV h (2000+8*d) (cx r)=true∧fG [] r=true
   ·rw [if_pos hc,if_pos hc,acf (by omega) h [] hc.2.2]
    simp
   ·rw [if_neg hc,if_neg hc]
def Hr (call:dG) (md:Mode) (d:Nat) (f:FuncId) (p:List AV × ab × K):Option R3 :=
 ix call md p.2.1 d f (bW p.2.1 40 (bE [] (p.1.flatMap bI)) 0) (bg (md.sh f) p.1) p.2.2
theorem zJ {f:FuncId} {args:List AV} (d:Nat) (hm:md.m f=[]):bA call md h d args (.fn f [] [])=(bH h [] args).bind (Hr call md d f):=by
 unfold bA
 rw [if_neg (by simp [iY,hm])]
 simp only [dm,hm,List.nil_append,List.append_nil]
 rfl
@[go_sem] theorem ano {f:FuncId} {zs:List AV} (d:Nat) (hm:md.m f=[]) (hd:zs.all dat=true):Hr call md d f (zs,h,[])=iG h d (call f (bg (md.sh f) zs) []):=by
 rw [← xj d hm hd,zJ d hm]
 have hin:∀ (l:List AV),l.all dat=true→bH h [] l=some (l,h,[]):=by
  intro l
  induction l with
  | nil=>intro _; rfl
  | cons a l ih =>
   intro hd
   simp only [List.all_cons,Bool.and_eq_true] at hd
   have ha:ct h 0 a=some (a,h,[]):=by
    have h1:=hd.1
    by_cases hagg:∃ cs,a=.agg cs
    ·obtain ⟨cs,rfl⟩:=hagg
     simp only [dat] at h1
     simp only [ct,pp]
     rw [iM h1 h]
     rfl
    ·have h2:aA a=true:=by cases a <;> first | exact h1 | exact absurd ⟨_,rfl⟩ hagg
     cases a <;> first | (simp [aA] at h2; done) | rfl | skip
   simp only [bH,List.headD_nil,ha,Option.bind_some,List.tail_nil,ih hd.2,List.append_nil]
 rw [hin zs hd]
 rfl
@[go_sem] theorem alk (h):bH h [] []=some ([],h,[]):=_root_.id rfl
@[go_sem] theorem akj (h a l):bH h [] (a::l)=(ct h 0 a).bind fun p=>(bH p.2.1 [] l).bind fun q=>some (p.1::q.1,q.2.1,p.2.2++q.2.2):=_root_.id rfl
@[go_sem] theorem arG (h x):ct h 0 (.v x)=some (.v x,h,[]):=_root_.id rfl
@[go_sem] theorem anp (h):ct h 0 .emp=some (.emp,h,[]):=_root_.id rfl
@[go_sem] theorem aoW (h k r):ct h 0 (.sl k r)=some (.sl k r,h,[]):=_root_.id rfl
@[go_sem] theorem aoX (h f a b):ct h 0 (.fn f a b)=some (.fn f a b,h,[]):=_root_.id rfl
@[go_sem] theorem anq (h a b c d):ct h 0 (.ref a none b c d)=some (.ref a none b c d,h,[]):=_root_.id rfl
@[go_sem] theorem anr (h cs):ct h 0 (.ipt cs)=some (.ipt cs,h,[]):=_root_.id rfl
@[go_sem] theorem ans (h id k lo n):ct h 0 (.rsl id none k lo n)=kB h id k lo n (h id):=_root_.id rfl
@[go_sem] theorem alm (h id p k lo n):ct h 0 (.rsl id (some p) k lo n)=Be h id p k lo n (h id):=_root_.id rfl
@[go_sem] theorem ant (h cs):ct h 0 (.agg cs)=(eS h cs).bind fun p=>some (.agg p.1,p.2):=_root_.id rfl
@[go_sem] theorem arH (h d x):iG h d (some (.v x,[]))=if cV h (2000+8*d) 1=true then some (.v x,h,[]) else none:=by
 simp [iG,cx,fG,dH,aZ,bj,mat,cM]
@[go_sem] theorem acg (h d k r):iG h d (some (.sl k r,[]))=if cV h (2000+8*d) 1=true then some (.sl k r,h,[]) else none:=by
 simp [iG,cx,fG,dH,aZ,bj,mat,cM]
@[go_sem] theorem anu (h d cs) (hd:cs.all aA=true):iG h d (some (.agg cs,[]))=if cV h (2000+8*d) 1=true then some (.agg cs,h,[]) else none:=by
 have:cs.all (bj [])=true:=by
  rw [List.all_eq_true] at hd ⊢
  intro c hc
  have:=hd c hc
  cases c <;> simp [aA] at this <;> simp [bj,this]
 simp only [iG,cx,fG,dH,aZ,mat,cM,this,and_true]
 simp
@[go_sem] theorem anv (h d vs) (h8:vs.length≤8) (hd:vs.all dat=true):iG h d (some (.tup vs,[]))=if cV h (2000+8*d) vs.length=true then some (.tup vs,h,[]) else none:=by
 have h1:vs.all (dH [])=true:=by
  rw [List.all_eq_true] at hd ⊢
  intro c hc
  have:=hd c hc
  cases c <;> simp only [dat] at this <;> simp only [dH,aZ] <;> try (simp [aA] at this <;> simp [bj,this]; done)
  rename_i cs
  rw [List.all_eq_true] at this ⊢
  intro c hc
  have:=this c hc
  cases c <;> simp [aA] at this <;> simp [bj,this]
 have h2:∀ (l:List AV) (n:Nat) (g:ab),l.all dat=true→bP n g l=(l,g):=by
  intro l
  induction l with
  | nil=>intro n g _; rfl
  | cons c l ih =>
   intro n g hd
   simp only [List.all_cons,Bool.and_eq_true] at hd
   have hc:cM n g c=(c,g):=by
    have:=hd.1
    cases c <;> simp only [dat,aA] at this <;> first | rfl | (cases this; done)
   simp only [bP,hc,ih _ _ hd.2]
 simp only [iG,cx,fG,h1,mat,h2 vs _ _ hd,h8,true_and,and_true]
@[go_sem] theorem anw (h d k r):iG h d (some (.osl k r,[]))=if cV h (2000+8*d) 1=true then some (.rsl (2000+8*d) none k 0 r.length,upd h (2000+8*d) (.ar k r),[]) else none:=by
 simp [iG,cx,fG,dH,mat,cM]
@[go_sem] theorem aln (h n):cV h n 0=true:=_root_.id rfl
@[go_sem] theorem alo (h n m):cV h n (m+1)=(cf (h n) && cV h (n+1) m):=_root_.id rfl
@[go_sem] theorem akk:cf .dead=true:=_root_.id rfl
def bY (call:dG) (md:Mode) (ps:List (Nat × Nat)):List Fp→List COp→ag→ab→Option St
 | acc,[],s,h=>if ps.all (ql acc)=true then some ⟨s,h⟩ else none
 | acc,o::rest,s,h=>(db call md o s h).bind fun r=>bY call md ps (acc++[r.2]) rest r.1.s r.1.h
theorem UB (ps:List (Nat × Nat)):∀ (l:List COp) (acc:List Fp) (s:ag) (h:ab),bY call md ps acc l s h=(eQ call md l s h).bind fun r=>if ps.all (ql (acc++r.2))=true then some r.1 else none
 | [],acc,s,h=>by simp only [bY,eQ,Option.bind_some,List.append_nil]
 | o::l,acc,s,h=>by
  simp only [bY,eQ]
  cases db call md o s h with
  | none=>rfl
  | some r =>
   simp only [Option.bind_some]
   rw [UB ps l]
   cases eQ call md l r.1.s r.1.h with
   | none=>rfl
   | some q=>simp only [Option.bind_some,List.append_assoc,List.singleton_append]
@[go_sem] theorem anx:sT []=none:=_root_.id rfl
@[go_sem] theorem alp (p g l):sT ((p,g)::l)=if 1000000≤p then some (p - 1000000,g) else none:=_root_.id rfl
theorem PK (l ps):th call md l ps s h=bY call md ps [] l s h:=by
 rw [UB]
 rfl
theorem afw (ps) (l:List COp) (h0:sT ps=none):lC call md l ps s h=bY call md ps [] l s h:=by
 unfold lC
 rw [h0]
 exact PK l ps
def ach (call:dG) (md:Mode) (m g:Nat) (ps:List (Nat × Nat)) (l:List COp) (s:ag) (h:ab):Option St :=
 bc (bY call md ps [] (l.take m) s h) fun s h=>bc (mS md.nm g s h) (aF call md (l.drop m))
@[go_sem] theorem aoY (l ps):lC call md l ps s h=match sT ps with
  | some q=>ach call md q.1 q.2 ps.tail l s h
  | none=>bY call md ps [] l s h:=by
 cases hb:sT ps with
 | none=>exact afw ps l hb
 | some q =>
  unfold lC
  rw [hb]
  simp only [ach,zi]
  rw [← PK _ _,th]
  cases eQ call md (l.take q.1) s h with
  | none=>rfl
  | some r =>
   simp only [Option.bind_some]
   split <;> rfl
def fI (call:dG) (md:Mode) (ps:List (Nat × Nat)) (acc:List Fp) (rest:List COp) (s:ag) (d:Option Nat) (f:ab→Fp):Option R3→Option St
 | some (x,h,[])=>bY call md ps (acc++[f h]) rest (di s d x) h
 | _=>none
theorem dp (ps acc) (o:COp) (rest) (hg:o.g=none):bY call md ps acc (o::rest) s h=fI call md ps acc rest s o.d (ed (o.d.getD 0) o.op s h) (step call md (o.d.getD 0) o.op s h):=by
 simp only [bY,db,hg,gF]
 cases step call md (o.d.getD 0) o.op s h with
 | none=>rfl
 | some r =>
  obtain ⟨x,h',ks⟩:=r
  cases ks <;> rfl
@[go_sem] theorem aoZ (ps acc):bY call md ps acc [] s h=if ps.all (ql acc)=true then some ⟨s,h⟩ else none:=_root_.id rfl
@[go_sem] theorem Df (ps acc d op rest):bY call md ps acc (co d op::rest) s h=(en s op).bind fun a=>bY call md ps (acc++[some ([],[])]) rest (upd s d a) h:=by
 rw [dp _ _ _ _ rfl]
 simp only [co,step,vO]
 cases en s op <;> rfl
@[go_sem] theorem arI (ps acc d n rest):bY call md ps acc (cm d n::rest) s h=bY call md ps (acc++[some ([],[])]) rest (upd s d (s n)) h:=Df ps acc d (.mv (.t n)) rest
@[go_sem] theorem anz (ps acc d k g x rest):bY call md ps acc (⟨some d,none,.load k g x⟩::rest) s h=fI call md ps acc rest s (some d) (fun _=>ng (ev s x)) (fw h k g (ev s x)):=dp _ _ _ _ rfl
@[go_sem] theorem alq (ps acc d k x y rest):bY call md ps acc (⟨d,none,.store k x y⟩::rest) s h=fI call md ps acc rest s d (fun _=>sR (ev s y) (ev s x)) (ib h k (ev s x) (ev s y)):=dp _ _ _ _ rfl
@[go_sem] theorem anA (ps acc d f zas rest):bY call md ps acc (⟨some d,none,.call f zas⟩::rest) s h=fI call md ps acc rest s (some d) (gK h d (jJ (zas.map (ev s)) (ev s f))) (bA call md h d (zas.map (ev s)) (ev s f)):=dp _ _ _ _ rfl
@[go_sem] theorem alr (ps acc d z rest):bY call md ps acc (⟨some d,none,.alloc z⟩::rest) s h=fI call md ps acc rest s (some d) (fun _=>some ([],[cI d])) (ic h d z []):=dp _ _ _ _ rfl
@[go_sem] theorem ao0 (ps acc d k x rest):bY call md ps acc (⟨some d,none,.box k x⟩::rest) s h=fI call md ps acc rest s (some d) (fun _=>if dat (ev s x)=true then some ([],[cI d]) else none) (vM h d k (ev s x)):=dp _ _ _ _ rfl
@[go_sem] theorem aiu (ps acc d k z n qs rest):bY call md ps acc (⟨some d,none,.buildSl k z n qs⟩::rest) s h=fI call md ps acc rest s (some d) (fun _=>if (qs.all fun p=>dat (ev s p.2))=true then some ([],[cI d]) else none) ((dT k h (List.replicate n z) (qs.map fun p=>(p.1,ev s p.2))).bind fun q=>cG q.2.1 d k q.1 n q.2.2):=dp _ _ _ _ rfl
@[go_sem] theorem arJ (ps acc d op a b rest):bY call md ps acc (b2 d op a b::rest) s h=(dZ op (s a) (s b)).bind fun a=>bY call md ps (acc++[some ([],[])]) rest (upd s d a) h:=Df ps acc d (.bin op (.t a) (.t b)) rest
@[go_sem] theorem arK (ps acc d k a rest):bY call md ps acc (fa d k a::rest) s h=(sO k (s a)).bind fun a=>bY call md ps (acc++[some ([],[])]) rest (upd s d a) h:=Df ps acc d (.fadr k (.t a)) rest
@[go_sem] theorem arL (ps acc d a rest):bY call md ps acc (nk d a::rest) s h=(Bc (s a)).bind fun a=>bY call md ps (acc++[some ([],[])]) rest (upd s d a) h:=Df ps acc d (.nilck (.t a)) rest
@[go_sem] theorem arM (ps acc d k a rest):bY call md ps acc (ld d k a::rest) s h=fI call md ps acc rest s (some d) (fun _=>ng (s a)) (fw h k false (s a)):=dp _ _ _ _ rfl
@[go_sem] theorem arN (ps acc d k a rest):bY call md ps acc (la d k a::rest) s h=fI call md ps acc rest s (some d) (fun _=>ng (s a)) (fw h k true (s a)):=dp _ _ _ _ rfl
@[go_sem] theorem arO (ps acc d f zas rest):bY call md ps acc (ca d f zas::rest) s h=fI call md ps acc rest s (some d) (gK h d (jJ (zas.map (ev s)) (.fn f [] []))) (bA call md h d (zas.map (ev s)) (.fn f [] [])):=dp _ _ _ _ rfl
@[go_sem] theorem arP (ps acc k x y rest):bY call md ps acc (sr k x y::rest) s h=fI call md ps acc rest s none (fun _=>sR (ev s y) (ev s x)) (ib h k (ev s x) (ev s y)):=dp _ _ _ _ rfl
@[go_sem] theorem arQ (ps acc d z rest):bY call md ps acc (al d z::rest) s h=fI call md ps acc rest s (some d) (fun _=>some ([],[cI d])) (ic h d z []):=dp _ _ _ _ rfl
@[go_sem] theorem arR (ps acc d k x rest):bY call md ps acc (bx d k x::rest) s h=fI call md ps acc rest s (some d) (fun _=>if dat (ev s x)=true then some ([],[cI d]) else none) (vM h d k (ev s x)):=dp _ _ _ _ rfl
@[go_sem] theorem anB (ps acc rest s d f x h):fI call md ps acc rest s (some d) f (some (x,h,[]))=bY call md ps (acc++[f h]) rest (upd s d x) h:=_root_.id rfl
@[go_sem] theorem als (ps acc rest s f x h):fI call md ps acc rest s none f (some (x,h,[]))=bY call md ps (acc++[f h]) rest s h:=_root_.id rfl
theorem aiv (ps acc) (o:COp) (j w rest) (hg:o.g=some (j,w)) {b:Bool} (hb:s j=.v (.bool b)):bY call md ps acc (o::rest) s h =
  if b=w then fI call md ps acc rest s o.d (ed (o.d.getD 0) o.op s h) (step call md (o.d.getD 0) o.op s h) else bY call md ps (acc++[some ([],[])]) rest (di s o.d .und) h:=by
 simp only [bY,db,hg,hb,lB]
 split
 ·simp only [gF]
  cases step call md (o.d.getD 0) o.op s h with
  | none=>rfl
  | some r =>
   obtain ⟨x,h',ks⟩:=r
   cases ks <;> rfl
 ·rfl
def PL (call:dG) (md:Mode) (ps:List (Nat × Nat)) (acc:List Fp) (rest:List COp) (s:ag) (h:ab) (d:Option Nat) (w:Bool) (op:AOp):AV→Option St
 | .v (.bool b)=>if b=w then fI call md ps acc rest s d (ed (d.getD 0) op s h) (step call md (d.getD 0) op s h) else bY call md ps (acc++[some ([],[])]) rest (di s d .und) h
 | .und=>bY call md ps (acc++[some ([],[])]) rest (di s d .und) h
 | _=>none
@[go_sem] theorem afx (ps acc d j w op rest):bY call md ps acc (⟨d,some (j,w),op⟩::rest) s h=PL call md ps acc rest s h d w op (s j):=by
 by_cases hb:∃ b,s j=.v (.bool b)
 ·obtain ⟨b,hb⟩:=hb
  rw [aiv ps acc ⟨d,some (j,w),op⟩ j w rest rfl hb,hb]
  rfl
 ·simp only [bY,db]
  cases hq:s j <;> first | rfl | skip
  rename_i x
  cases x <;> first | rfl | exact absurd ⟨_,hq⟩ hb
@[go_sem] theorem arS (ps acc d j w op rest):bY call md ps acc (cg d j w op::rest) s h=PL call md ps acc rest s h (some d) w (.p op) (s j):=afx ps acc (some d) j w (.p op) rest
@[go_sem] theorem atM (ps acc rest s h d op):PL call md ps acc rest s h (some d) true op (.v (.bool true))=fI call md ps acc rest s (some d) (ed d op s h) (step call md d op s h):=_root_.id rfl
@[go_sem] theorem atN (ps acc rest s h d op):PL call md ps acc rest s h (some d) false op (.v (.bool false))=fI call md ps acc rest s (some d) (ed d op s h) (step call md d op s h):=_root_.id rfl
@[go_sem] theorem atO (ps acc rest s h d op):PL call md ps acc rest s h (some d) true op (.v (.bool false))=bY call md ps (acc++[some ([],[])]) rest (upd s d .und) h:=_root_.id rfl
@[go_sem] theorem atP (ps acc rest s h d op):PL call md ps acc rest s h (some d) false op (.v (.bool true))=bY call md ps (acc++[some ([],[])]) rest (upd s d .und) h:=_root_.id rfl
@[go_sem] theorem arT (ps acc rest s h d w op):PL call md ps acc rest s h (some d) w op .und=bY call md ps (acc++[some ([],[])]) rest (upd s d .und) h:=_root_.id rfl
@[go_sem] theorem auy (d op h'):ed d (.p op) s h h'=some ([],[]):=_root_.id rfl
@[go_sem] theorem arU (d k g x h'):ed d (.load k g x) s h h'=ng (ev s x):=_root_.id rfl
@[go_sem] theorem arV (d f zas h'):ed d (.call f zas) s h h'=gK h d (jJ (zas.map (ev s)) (ev s f)) h':=_root_.id rfl
@[go_sem] theorem ao1 (d z h'):ed d (.alloc z) s h h'=some ([],[cI d]):=_root_.id rfl
@[go_sem] theorem atQ (d k x h'):ed d (.box k x) s h h'=if dat (ev s x)=true then some ([],[cI d]) else none:=_root_.id rfl
@[go_sem] theorem alt (cs):ng (.ipt cs)=some ([],[]):=_root_.id rfl
@[go_sem] theorem akl (id k i j):ng (.ref id none k i j)=some ([cI id],[]):=_root_.id rfl
@[go_sem] theorem akm (id p k i j):ng (.ref id (some p) k i j)=some ([cI id],[]):=_root_.id rfl
@[go_sem] theorem anC (y id sub k i j):sR y (.ref id sub k i j)=if dat y=true then some ([cI id],[cI id]) else none:=_root_.id rfl
@[go_sem] theorem atS (i):cI i=if i < 2000 then i else i - i % 8:=_root_.id rfl
@[go_sem] theorem anD (l f a b):jJ l (.fn f a b)=a++l++b:=_root_.id rfl
@[go_sem] theorem anE (h d l h'):gK h d l h'=if l.all dat=true then some ([],[2000+8*d]) else if l.all nU=true then some ((bW h 40 (bE [] (l.flatMap bI)) 0).map cI,(LJ h h' (bW h 40 (bE [] (l.flatMap bI)) 0)).map cI++[2000+8*d]) else none:=_root_.id rfl
@[go_sem] theorem alu (l i j):ql l (i,j)=(match l[i]?,l[j]? with | some a,some b=>jE a b | _,_=>false):=_root_.id rfl
@[go_sem] theorem ao2 (a b):jE (some a) (some b)=(tP a.2 (b.1++b.2) && tP b.2 a.1):=_root_.id rfl
@[go_sem] theorem ao3 (b):jE none (some b)=(b.1.isEmpty && b.2.isEmpty):=_root_.id rfl
@[go_sem] theorem ao4 (a):jE (some a) none=(a.1.isEmpty && a.2.isEmpty):=_root_.id rfl
@[go_sem] theorem ao5 (b):tP [] b=true:=_root_.id rfl
@[go_sem] theorem anF (a l b):tP (a::l) b=(!b.contains a && tP l b):=_root_.id rfl
@[go_sem] theorem alv (a:Nat):[].contains a=false:=_root_.id rfl
@[go_sem] theorem akn (a b:Nat) (l:List Nat):(b::l).contains a=(a == b || l.contains a):=by rw [List.contains_cons]
@[go_sem] theorem ao6 (s d x h p l):cz false s (some d) (some (x,h,p::l))=some ⟨upd (gl (p::l) s) d x,h⟩:=_root_.id rfl
@[go_sem] theorem anG (s x h p l):cz false s none (some (x,h,p::l))=some ⟨gl (p::l) s,h⟩:=_root_.id rfl
@[go_sem] theorem arW (p l s) (i:Nat):gl (p::l) s i=mQ (p::l) (s i):=_root_.id rfl
@[go_sem] theorem aup (ks x):mQ ks (.v x)=.v x:=_root_.id rfl
@[go_sem] theorem arX (ks):mQ ks .any=.any:=_root_.id rfl
@[go_sem] theorem arY (ks):mQ ks .und=.und:=_root_.id rfl
@[go_sem] theorem arZ (ks):mQ ks .emp=.emp:=_root_.id rfl
@[go_sem] theorem atT (ks k r):mQ ks (.sl k r)=.sl k r:=_root_.id rfl
@[go_sem] theorem ar0 (ks cs):mQ ks (.ipt cs)=.ipt cs:=_root_.id rfl
@[go_sem] theorem ar1 (ks f):mQ ks (.fn f [] [])=.fn f [] []:=_root_.id rfl
@[go_sem] theorem ar2 (ks id sub k lo n):mQ ks (.rsl id sub k lo n)=if fF ks id sub=true then .any else .rsl id sub k lo n:=_root_.id rfl
@[go_sem] theorem ar3 (ks id sub k lo n):mQ ks (.ref id sub k lo n)=if fF ks id sub=true then .any else .ref id sub k lo n:=_root_.id rfl
@[go_sem] theorem ar4 (ks cs):mQ ks (.agg cs)=if cs.any (lw ks)=true then .any else .agg cs:=_root_.id rfl
@[go_sem] theorem atU (ks f a b):mQ ks (.fn f a b)=if (a.any (lw ks) || b.any (lw ks))=true then .any else .fn f a b:=_root_.id rfl
@[go_sem] theorem ar5 (ks vs):mQ ks (.tup vs)=if vs.any (xF ks)=true then .any else .tup vs:=_root_.id rfl
@[go_sem] theorem atV (ks x):xF ks (.v x)=false:=_root_.id rfl
@[go_sem] theorem ar6 (ks k r):xF ks (.sl k r)=false:=_root_.id rfl
@[go_sem] theorem atW (ks x):lw ks (.v x)=false:=_root_.id rfl
@[go_sem] theorem ao7 (ks):lw ks .emp=false:=_root_.id rfl
@[go_sem] theorem ar7 (ks k r):lw ks (.sl k r)=false:=_root_.id rfl
@[go_sem] theorem ao8 (ks id sub k i j):lw ks (.ref id sub k i j)=fF ks id sub:=_root_.id rfl
@[go_sem] theorem ao9 (id sub):fF [] id sub=false:=_root_.id rfl
@[go_sem] theorem apa (a:Nat) (b:Bool) (l:K) (id:Nat) (sub:Option Nat):fF ((a,b)::l) id sub=((a == id && (!b || sub.isSome)) || fF l id sub):=by simp [fF]
@[go_sem] theorem aiw {α:Type}:(none:Option α).isSome=false:=_root_.id rfl
@[go_sem] theorem aix {α:Type} (a:α):(some a).isSome=true:=_root_.id rfl
@[go_sem] theorem atX (h d k b x y):Jp h d k b x y=(nT h k y).bind fun ys=>match x with
 | .emp=>if ys.length*b≤140737488355328 then Jo h d k ys else none
 | .rsl id none k' lo n=>OU h d k b id k' lo n ys (h id)
 | .rsl id (some p) k' lo n=>abM h d k b id p k' lo n ys (h id)
 | _=>none:=_root_.id rfl
@[go_sem] theorem anH (h k):nT h k .emp=some []:=_root_.id rfl
@[go_sem] theorem aci (h k r):nT h k (.sl k r)=some r:=by simp [nT]
@[go_sem] theorem anI (h k id sub lo n):nT h k (.rsl id sub k lo n)=fp k lo n (qD h id sub):=by simp [nT]
@[go_sem] theorem ako (h id):qD h id none=pq (h id):=_root_.id rfl
@[go_sem] theorem anJ (k r):pq (.ar k r)=some (k,r):=_root_.id rfl
@[go_sem] theorem anK (k r):pq (.fz k r)=some (k,r):=_root_.id rfl
@[go_sem] theorem aiy (k lo n r):fp k lo n (some (k,r))=if lo+n≤r.length then some ((r.drop lo).take n) else none:=by simp [fp]
@[go_sem] theorem ar8 (h d k b id lo n ys r):OU h d k b id k lo n ys (.ar k r)=if lo=0∧n=r.length∧(id < 1000∨2000≤id)∧(n+ys.length)*b≤140737488355328 then
   some (.rsl id none k 0 (n+ys.length),upd h id (.ar k (r++ys)),[(id,false)]) else EQ h d k b id k lo n ys k r:=by simp [OU]
@[go_sem] theorem apb (h d k):Jo h d k []=some (.emp,h,[]):=_root_.id rfl
@[go_sem] theorem anL (h d k y ys):Jo h d k (y::ys)=cG h d k (y::ys) (ys.length+1) []:=_root_.id rfl
end
def F.l24_BoundConstants:FuncId:=7
def F.l24_awake:FuncId:=9
def F.l24_near:FuncId:=11
def F.bound_Naive:FuncId:=12
def F.bound_Bernstein:FuncId:=13
def F.bound_Best:FuncId:=14
def F.r05_Valid:FuncId:=18
def F.l24_equal:FuncId:=19
def F.interval_Point:FuncId:=22
def F.dyadic_Cmp:FuncId:=23
def F.interval_Meet:FuncId:=24
def F.l24_long:FuncId:=34
def F.r02_Valid:FuncId:=35
def F.poly_Const:FuncId:=36
def F.interval_Round:FuncId:=37
def F.slices_ContainsFunc_api_Interval_api_Interval_:FuncId:=38
def F.l24_BoundConstants_1:FuncId:=39
def F.interval_Whole:FuncId:=40
def F.r23_Valid:FuncId:=41
def F.r05_Inside:FuncId:=42
def F.interval_Add:FuncId:=44
def F.interval_Sub:FuncId:=46
def F.interval_Mul:FuncId:=47
def F.l24_d:FuncId:=48
def F.r05_Equal:FuncId:=49
def F.l24_near_1:FuncId:=52
def F.bound_fits:FuncId:=53
def F.bound_whole:FuncId:=54
def F.bound_power:FuncId:=55
def F.bound_Linear:FuncId:=56
def F.bound_line:FuncId:=57
def F.bound_gridOf:FuncId:=58
def F.bound_grid_unit:FuncId:=59
def F.bound_grid_bernstein:FuncId:=60
def F.interval_Hull:FuncId:=61
def F.r02_Cmp:FuncId:=64
def F.r05_zero:FuncId:=65
def F.dyadic_Valid:FuncId:=69
def F.dyadic_Sign:FuncId:=70
def F.dyadic_compare:FuncId:=71
def F.interval_Valid:FuncId:=72
def F.interval_more:FuncId:=73
def F.interval_less:FuncId:=74
def F.poly_Valid:FuncId:=75
def F.dyadic_Add:FuncId:=78
def F.bound_domain:FuncId:=79
def F.r02_Equal:FuncId:=82
def F.r02_bits:FuncId:=84
def F.poly_empty:FuncId:=85
def F.poly_collector_add:FuncId:=86
def F.poly_collector_done:FuncId:=87
def F.interval_known:FuncId:=88
def F.interval_permitted:FuncId:=89
def F.round_Down:FuncId:=90
def F.round_Up:FuncId:=91
def F.interval_made:FuncId:=92
def F.slices_IndexFunc_api_Interval_api_Interval_:FuncId:=93
def F.r23_term:FuncId:=94
def F.r23_Compare:FuncId:=95
def F.round_AddDown:FuncId:=98
def F.round_AddUp:FuncId:=99
def F.dyadic_Mul:FuncId:=100
def F.dyadic_Int:FuncId:=101
def F.slices_Clone_int_int_:FuncId:=102
def F.interval_Neg:FuncId:=103
def F.interval_four:FuncId:=104
def F.round_MulDown:FuncId:=105
def F.round_MulUp:FuncId:=106
def F.r02_Int:FuncId:=107
def F.interval_Power:FuncId:=109
def F.poly_Degree:FuncId:=110
def F.slices_Index_int_int_:FuncId:=111
def F.slices_Repeat_api_Interval_api_Interval_:FuncId:=112
def F.bound_grid_step:FuncId:=113
def F.bound_grid_lines:FuncId:=114
def F.bound_grid_unit_1:FuncId:=115
def F.bound_grid_add:FuncId:=116
def F.bound_grid_mul:FuncId:=117
def F.bound_grid_bernstein_1:FuncId:=118
def F.interval_Div:FuncId:=119
def F.r02_Sign:FuncId:=120
def F.r02_Top:FuncId:=121
def F.r02_Sum:FuncId:=122
def F.r02_Neg:FuncId:=123
def F.r02_Of:FuncId:=126
def F.dyadic_inRange:FuncId:=127
def F.dyadic_Top:FuncId:=128
def F.natural_Cmp:FuncId:=129
def F.dyadic_shifted:FuncId:=130
def F.interval_Valid_1:FuncId:=131
def F.slices_ContainsFunc_int_int_:FuncId:=132
def F.poly_Valid_1:FuncId:=133
def F.poly_degree:FuncId:=134
def F.poly_order:FuncId:=135
def F.dyadic_sum:FuncId:=136
def F.bound_domain_1:FuncId:=137
def F.r02_compare:FuncId:=139
def F.slices_BinarySearchFunc_api_Term_api_Term_Sint_:FuncId:=140
def F.poly_collector_add_1:FuncId:=141
def F.slices_Insert_api_Term_api_Term_:FuncId:=142
def F.poly_copied:FuncId:=143
def F.slices_Delete_api_Term_api_Term_:FuncId:=144
def F.round_round:FuncId:=145
def F.r23_sum:FuncId:=146
def F.round_add:FuncId:=148
def F.dyadic_size:FuncId:=149
def F.natural_Mul:FuncId:=150
def F.dyadic_checked:FuncId:=151
def F.dyadic_canonical:FuncId:=152
def F.dyadic_Neg:FuncId:=153
def F.round_mul:FuncId:=154
def F.interval_Abs:FuncId:=155
def F.interval_end:FuncId:=156
def F.bits_Mul:FuncId:=157
def F.interval_Sign:FuncId:=158
def F.round_DivDown:FuncId:=159
def F.round_DivUp:FuncId:=160
def F.r02_left:FuncId:=161
def F.r02_plus:FuncId:=162
def F.r02_minus:FuncId:=163
def F.r02_trim:FuncId:=164
def F.r02_zeros:FuncId:=165
def F.r02_right:FuncId:=166
def F.natural_trim:FuncId:=167
def F.natural_Shl:FuncId:=168
def F.slices_IndexFunc_int_int_:FuncId:=169
def F.cmp_Compare_int_:FuncId:=170
def F.slices_Compare_int_int_:FuncId:=171
def F.natural_Add:FuncId:=172
def F.natural_Sub:FuncId:=173
def F.slices_overlaps_api_Term_:FuncId:=175
def F.slices_rotateRight_api_Term_:FuncId:=176
def F.slices_Clone_uint32_uint32_:FuncId:=177
def F.round_fault:FuncId:=178
def F.round_signed:FuncId:=179
def F.round_of:FuncId:=180
def F.round_sum:FuncId:=181
def F.natural_Bits:FuncId:=182
def F.natural_long:FuncId:=183
def F.natural_done:FuncId:=184
def F.natural_mul:FuncId:=185
def F.dyadic_trimmed:FuncId:=186
def F.dyadic_low:FuncId:=187
def F.natural_Shr:FuncId:=188
def F.slices_Clip_uint32_uint32_:FuncId:=189
def F.interval_Mig:FuncId:=190
def F.interval_Mag:FuncId:=191
def F.interval_power:FuncId:=192
def F.bits_Mul32:FuncId:=193
def F.bits_Mul64:FuncId:=194
def F.round_div:FuncId:=195
def F.natural_shl:FuncId:=196
def F.cmp_isNaN_int_:FuncId:=197
def F.natural_add:FuncId:=198
def F.natural_sub:FuncId:=199
def F.round_precise:FuncId:=202
def F.round_cut:FuncId:=203
def F.round_shl:FuncId:=204
def F.round_shr:FuncId:=205
def F.bits_Len32:FuncId:=206
def F.slices_ContainsFunc_Suint32_Suint32_:FuncId:=207
def F.natural_long_1:FuncId:=208
def F.bits_TrailingZeros32:FuncId:=209
def F.natural_shr:FuncId:=210
def F.dyadic_Abs:FuncId:=211
def F.dyadic_Bits:FuncId:=212
def F.natural_DivMod:FuncId:=213
def F.bits_Add32:FuncId:=214
def F.bits_Sub32:FuncId:=215
def F.dyadic_Make:FuncId:=218
def F.slices_IndexFunc_Suint32_Suint32_:FuncId:=219
def F.natural_divide:FuncId:=220
def F.dyadic_exponent:FuncId:=221
def F.natural_short:FuncId:=222
def F.bits_LeadingZeros32:FuncId:=223
def F.natural_guess:FuncId:=224
def F.natural_take:FuncId:=225
def F.bits_Div32:FuncId:=226
def F.natural_digit:FuncId:=227
end Go.Ab
