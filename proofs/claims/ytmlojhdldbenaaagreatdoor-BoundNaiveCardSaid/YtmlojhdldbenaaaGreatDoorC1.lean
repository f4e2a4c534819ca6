/-
  The statement BoundNaive holds of the given program: its card, with the tied table of bits.TrailingZeros32; no further conditions. Part C1.
-/
import Derived.IntWalk
import Derived.Test.YtmlojhdldbenaaaGreatDoorB2
open Nat renaming reduceEqDiff → amO, reduceAdd → amP, reduceMul → amQ, reduceLeDiff → amR, reduceLT → amS, reduceBEq → amT
open Int renaming reduceLT → amU, reduceToNat → amV
namespace Go.Ab
open Go Go.IntWalk
def aE (m:List Nat):List (List AV):=m.map fun (x:Nat)=>[U (x:Int)]
def lm (m:List Nat):AV := .sl 1 (aE m)
theorem rz (m:List Nat):(aE m).length=m.length:=by simp [aE]
@[go_sem] theorem sB (l:List (List AV)):l.map (cp [])=l:=(List.map_congr_left (g:=fun c=>c) fun c _=>TU c).trans (List.map_id' _)
@[go_sem] theorem aeV (hs m):dJ hs (lm m)=lm m:=_root_.id rfl
@[go_sem] theorem adx (hs m):knownL hs (lm m)=true:=_root_.id rfl
@[go_sem] theorem abv (hs m):eK hs (lm m)=true:=_root_.id rfl
@[go_sem] theorem akM (ks m):mG ks (lm m)=lm m:=_root_.id rfl
@[go_sem] theorem ajn (ks m):kq ks (lm m)=false:=_root_.id rfl
@[go_sem] theorem ajo (ks m):tE ks (lm m)=false:=_root_.id rfl
@[go_sem] theorem akN (m):ko false (lm m)=some (I (m.length:Nat)):=by simp [lm,ko,aE]
@[go_sem] theorem ajp (m k i):mF 1 (lm m) (.v (.int k i))=aV (aE m) i:=by simp [lm,mF]
@[go_sem] theorem Wv (k ss m):nrmV (.o (k+1) []::ss) (lm m)=lm m:=by simp [lm,nrmV,nrmL,sB]
@[go_sem] theorem aeW (k cs ss m):nrmV (.o (k+1) [.o 0 cs]::ss) (lm m)=lm m:=by
 have:(aE m).map (cp [.o 0 cs])=aE m:=by
  refine (List.map_congr_left (g:=fun c=>c) fun c _ => ?_).trans (List.map_id' _)
  cases c with
  | nil=>simp [cp]
  | cons a l=>simp [cp,nrmL]
 simp [lm,nrmV,nrmL,this]
@[go_sem] theorem ajq (k m):nrmL (.o (k+1) []) (lm m)=lm m:=by simp [lm,nrmL,sB]
@[go_sem] theorem ajr (h m):nj h (lm m)=some (lm m):=_root_.id rfl
@[go_sem] theorem aeX (h m l):gl h (lm m::l)=(gl h l).bind fun q=>some (lm m::q):=_root_.id rfl
@[go_sem] theorem ajs (m):bT (lm m)=[]:=_root_.id rfl
@[go_sem] theorem ajt (m):gh (lm m)=[]:=_root_.id rfl
@[go_sem] theorem akO (m):dat (lm m)=true:=_root_.id rfl
@[go_sem] theorem aju (m):aD (lm m)=true:=_root_.id rfl
@[go_sem] theorem aeY (m):aR (lm m)=false:=_root_.id rfl
@[go_sem] theorem aeZ (m):dB (lm m)=some [lm m]:=_root_.id rfl
@[go_sem] theorem ajv (h m):fv h (lm m)=some (lm m,h,[]):=_root_.id rfl
@[go_sem] theorem ae0 (h m):cR h 0 (lm m)=some (lm m,h,[]):=_root_.id rfl
@[go_sem] theorem ae1 (id p m):pH id p (lm m)=lm m:=_root_.id rfl
@[go_sem] theorem ae2 (h d m):jz h d (some (lm m,[]))=if gi h (2000+8*d) 1=true then some (lm m,h,[]) else none:=TW h d 1 (aE m)
@[go_sem] theorem akP (m:List Nat):AV.sl 1 (aE m)=lm m:=_root_.id rfl
@[go_sem] theorem ae3 (p:Nat→Bool) (a:Nat):iQ (List.filter p [a])=true:=by
 simp only [List.filter]
 split <;> rfl
@[go_sem] theorem uR (m:List Nat):(aE m).length=m.length:=by simp [aE]
@[go_sem] theorem akQ:AV.sl 1 []=lm []:=_root_.id rfl
@[go_sem] theorem ady (cs ss):nrmV (.o 2 cs::ss) .emp=lm []:=by simp [nrmV,nrmL,lm,aE]
@[go_sem] theorem adz (cs):nrmL (.o 2 cs) .emp=lm []:=by simp [nrmL,lm,aE]
@[go_sem] theorem ajw (k ss m):nrmV (.o (k+1) []::ss) (.sl 1 (aE m))=lm m:=Wv k ss m
@[go_sem] theorem ae4 (k ss m):nrmV (.o (k+1) []::ss) (.osl 1 (aE m))=lm m:=by simp [lm,nrmV,nrmL,sB]
theorem aX {m:List Nat} {i:Int} {n:Nat} (hi:i=n) (h:n < m.length):aV (aE m) i=some (.ipt [U (m.getD n 0:Nat)]):=by
 subst hi
 simp [aV,aE,h]
theorem kl {m:List Nat} {n:Nat} (h:n < m.length):(aE m)[n]?=some [U (m.getD n 0:Nat)]:=by
 simp [aE,h]
theorem Kv (m:List Nat) (n:Nat):(aE m).take n=aE (m.take n):=by simp [aE,List.map_take]
theorem Ub (m:List Nat) (n:Nat):(aE m).drop n=aE (m.drop n):=by simp [aE,List.map_drop]
theorem rA (m l:List Nat):aE m++aE l=aE (m++l):=by simp [aE]
theorem km (m:List Nat) (n x:Nat):(aE m).set n [U (x:Nat)]=aE (m.set n x):=by simp [aE,List.map_set]
theorem nM (n:Nat):List.replicate n [AV.v (.int .u32 0)]=aE (List.replicate n 0):=by simp [aE]
theorem uS {m:List Nat} {lo hi:Option AV} {a b:Nat} (hlo:nU 0 b lo=some a) (hhi:nU m.length m.length hi=some b) (hb:b≤m.length):kU 1 (lm m) lo hi none=some (lm ((m.drop a).take (b - a))):=by
 simp only [lm,kU,vj,rz,if_true,hhi,hlo,Option.bind_some,Option.map_some,xt,Bool.false_eq_true,if_false,Kv,Ub]
theorem Uc (d n:Nat):nU d n none=some d:=_root_.id rfl
theorem nv {d n:Nat} {k:IntKind} {i:Int} {a:Nat} (hi:i=a) (h:a≤n):nU d n (some (.v (.int k i)))=some a:=by
 subst hi
 simp [nU,h]
theorem av {f:FuncId} {fd:FD} {args:List AV} {r:AV × List Ob} (hE:ai.E f=none) (hC:ai.C f=some fd) (hk:ai.md.keep f=false) (h1:args.length=fd.np)
  (hz:eE false fd.rs fd.res 0 (ak R (ae false) fd.body (rR args) (fun _ => .dead))=some r):R f args []=some r:=by
 refine Ya false hE hC hk h1 (Nat.zero_le _) ?_
 rw [O0]
 exact hz
end Go.Ab
namespace Go.Ab
open Go Go.IntWalk
set_option maxRecDepth 4000
def uT (k:Nat) (g:Bool):Cmd := .seq (.ops [0,1,7,8,9] [co 9 (.bin .lss (.t 8) (.t 7))]) (.seq (.cond (.t 9) (.skip) (.exit 0)) (.seq (.block 1 [0,1,7,8] (.seq (.ops [0,1,5,7,8] [cm 10 8,cm 5 10]) (.seq (.ops [0,1,5,7,8,16] [cm 11 1,cm 12 0,cm 13 5,co 14 (.iadrS k (.t 12) (.t 13)),⟨(some 15),none,.load k g (.t 14)⟩,⟨(some 16),none,.call (.t 11) [(.t 15)]⟩]) (.cond (.t 16) (.seq (.ops [4] [cm 17 5,cm 4 17]) (.ret)) (.skip))))) (.ops [0,1,7,8] [co 18 (.bin .add (.t 8) (.c (.v (.int .i64 1)))),cm 8 18])))
def zj:Cmd := .seq (.ops [4] [co 4 (.mv (.c (.v (.int .i64 (-1)))))]) (.ret)
def sC {α:Type} (p:α→Bool):List α→Nat→Int
 | [],_ => -1
 | r::rs,n=>if p r=true then n else sC p rs (n+1)
theorem Kw {α:Type} (p:α→Bool):∀ (l:List α) (n:Nat),decide (0≤sC p l n)=l.any p
 | [],n=>rfl
 | r::rs,n=>by
  simp only [sC,List.any_cons]
  by_cases h:p r=true
  ·simp [h]
  ·simp [h,Kw p rs (n+1)]
theorem Ud {α β:Type} (p:β→Bool) (f:α→β):∀ (l:List α) (n:Nat),sC p (l.map f) n=sC (fun a=>p (f a)) l n
 | [],n=>rfl
 | r::rs,n=>by simp only [List.map_cons,sC,Ud p f rs (n+1)]
theorem Ue {k:Nat} {g:Bool} {f:FuncId} {rows:List (List AV)} {p:List AV→Bool} (hm:(ae false).m f=[]) (hl:rows.length < 4611686018427387904)
  (hf:∀ row ∈ rows,∃ a,iI k g row 0=some a∧dat a=true∧R f (bm ((ae false).sh f) [a]) []=some (B (p row),[])):∀ (rest:List (List AV)) (n:Nat),rows.drop n=rest→n≤rows.length →
  ∀ (s:am) (h:ac),s 0 = .sl k rows→s 1 = .fn f [] []→s 7=I rows.length→s 8=I n →
   bo (au 0 [] (aq (ak R (ae false) (uT k g)) [0,1,7,8] [] s h)) (ak R (ae false) zj)=some (.ret,⟨upd (fun _ => .any) 4 (I (sC p rest n)),fun _ => .dead⟩):=by
 intro rest
 induction rest with
 | nil =>
  intro n hd hn s h h0 h1 h7 h8
  have e:n=rows.length:=by
   have:=congrArg List.length hd
   simp at this
   omega
  subst e
  rw [ao]
  generalize aq _ _ _=L
  simp only [uT,zj,go_sem,h0,h1,h7,h8,↓reduceIte,amO,Int.lt_irrefl,sC]
 | cons r rest ih =>
  intro n hd hn s h h0 h1 h7 h8
  have hlt:n < rows.length:=by
   have:=congrArg List.length hd
   simp at this
   omega
  have hr:rows[n]?=some r:=by
   have:=congrArg (·[0]?) hd
   simpa using this
  obtain ⟨a,ha,hda,hc⟩:=hf r (List.mem_of_getElem? hr)
  have ih':=ih (n+1) (by rw [← List.drop_drop,hd]; rfl) hlt
  have e1:((n:Int) < (rows.length:Int))=True:=eq_true (by omega)
  have e2:aV rows (n:Int)=some (.ipt r):=by simp [aV,hr]
  have e3:IntKind.i64.wrap ((n:Int)+1)=((n+1:Nat):Int):=by rw [i64_in] <;> omega
  rw [ao]
  generalize aq _ _ _=L at ih' ⊢
  simp only [uT,go_sem,h0,h1,h7,h8,↓reduceIte,amO,e1,e2,ha,te _ hm,hda,hc,amQ,amP,sC]
  cases hp:p r with
  | true=>simp only [go_sem,↓reduceIte]
  | false =>
   simp only [go_sem,↓reduceIte,amO,e3]
   exact ih' _ _ rfl rfl rfl rfl
theorem yu {fi:FuncId} {fd:FD} {k:Nat} {g:Bool} (hE:ai.E fi=none) (hC:ai.C fi=some fd) (hk:ai.md.keep fi=false)
  (hfd:fd=⟨2,[[]],[.t 4],.seq (.ops [0,1] [co 4 (.mv (.c (.v (.int .i64 0))))]) (.seq (.seq (.ops [0,1,7,8] [cm 6 0,co 7 (.len false (.t 6)),co 8 (.mv (.c (.v (.int .i64 0))))]) (.block 0 [] (.loop [0,1,7,8] [] (uT k g)))) zj)⟩)
  {f:FuncId} {rows:List (List AV)} {p:List AV→Bool} (hm:(ae false).m f=[]) (hl:rows.length < 4611686018427387904)
  (hf:∀ row ∈ rows,∃ a,iI k g row 0=some a∧dat a=true∧R f (bm ((ae false).sh f) [a]) []=some (B (p row),[])):R fi [.sl k rows,.fn f [] []] []=some (I (sC p rows 0),[]):=by
 subst hfd
 refine av hE hC hk rfl ?_
 have hL:=Ue (k:=k) (g:=g) hm hl hf rows 0 rfl (Nat.zero_le _)
 simp only [go_sem,↓reduceIte,amO,aak]
 rw [hL _ _ (by simp only [go_sem,↓reduceIte]) (by simp only [go_sem,↓reduceIte,amO]) (by simp only [go_sem,↓reduceIte,amO]) (by simp only [go_sem,↓reduceIte,amO]; rfl)]
 simp only [go_sem,↓reduceIte]
def amD (k:Nat) (g:Bool):FD:=⟨2,[[]],[.t 4],.seq (.ops [0,1] [co 4 (.mv (.c (.v (.int .i64 0))))]) (.seq (.seq (.ops [0,1,7,8] [cm 6 0,co 7 (.len false (.t 6)),co 8 (.mv (.c (.v (.int .i64 0))))]) (.block 0 [] (.loop [0,1,7,8] [] (uT k g)))) zj)⟩
def R4 (fi:FuncId):FD:=⟨2,[[]],[.t 4],.seq (.ops [0,1] [co 4 (.mv (.c (.v (.bool false))))]) (.seq (.ops [4] [cm 5 0,cm 6 1,⟨(some 7),none,.call (.c (.fn fi [] [])) [(.t 5),(.t 6)]⟩,co 8 (.bin .geq (.t 7) (.c (.v (.int .i64 0)))),cm 4 8]) (.ret))⟩
theorem uU {ci fi:FuncId} {fd:FD} {k:Nat} (hE:ai.E ci=none) (hC:ai.C ci=some fd) (hk:ai.md.keep ci=false) (hfd:fd=R4 fi) (hm:(ae false).m fi=[]) {cs:List Sh} (hsh:(ae false).sh fi=[[.o (k+1) cs],[]])
  {rows:List (List AV)} {f:FuncId} {p:List AV→Bool} (hr:rows.map (cp cs)=rows) (h:R fi [.sl k rows,.fn f [] []] []=some (I (sC p rows 0),[])):R ci [.sl k rows,.fn f [] []] []=some (B (rows.any p),[]):=by
 subst hfd
 refine av hE hC hk rfl ?_
 simp only [R4,go_sem,↓reduceIte,amO,te _ hm,hsh,hr,h,TT,Kw]
end Go.Ab
namespace Go.Ab
open Go Go.IntWalk
set_option maxRecDepth 4000
theorem cf {i:Int} {n:Nat} (h:i=n) (hn:n < 18446744073709551616):IntKind.u64.wrap i=n:=by rw [u64_in] <;> omega
theorem nN {i:Int} {n:Nat} (h:i=n) (hn:n < 4294967296):IntKind.u32.wrap i=n:=by rw [u32_in] <;> omega
theorem wi {i:Int} {n:Nat} (h:i=n) (hn:n < 9223372036854775808):IntKind.i64.wrap i=n:=by rw [i64_in] <;> omega
theorem FF {i:Int} {n:Nat} (h:i=n):IntKind.u32.wrap i=((n % 4294967296:Nat):Int):=by rw [IntKind.wrap_u32]; omega
theorem gW {i:Int} {n k:Nat} {kk:IntKind} {j:Int} (h:i=n) (hj:j=k) (hk:k≤64):cU .shr (.v (.int .u64 i)) (.v (.int kk j))=some (.v (.int .u64 ((n / 2 ^ k:Nat):Int))):=by
 subst h hj
 rw [Ey,if_neg (by omega)]
 have:min (k:Int).toNat IntKind.u64.bits=k:=by simp [IntKind.bits]; omega
 rw [this]
 simp only [Option.some.injEq,AV.v.injEq,Value.int.injEq,true_and]
 rw [Int.fdiv_eq_ediv_of_nonneg _ (Int.pow_nonneg (by omega))]
 simp
theorem Kx {x y c:Nat} (hx:x < 4294967296) (hy:y < 4294967296) (hc:c≤1):R F.bits_Add32 [U x,U y,U c] []=some (.tup [U (((x+y+c) % 4294967296:Nat)),U (((x+y+c) / 4294967296:Nat))],[]):=by
 refine av Ks Kr (DC false) rfl ?_
 have e1:IntKind.u64.wrap (x:Int)=x:=cf rfl (by omega)
 have e2:IntKind.u64.wrap (y:Int)=y:=cf rfl (by omega)
 have e3:IntKind.u64.wrap (c:Int)=c:=cf rfl (by omega)
 have e4:IntKind.u64.wrap ((x:Int)+y)=((x+y:Nat):Int):=cf (by omega) (by omega)
 have e5:IntKind.u64.wrap (((x+y:Nat):Int)+c)=((x+y+c:Nat):Int):=cf (by omega) (by omega)
 have e6:IntKind.u32.wrap ((x+y+c:Nat):Int)=(((x+y+c) % 4294967296:Nat):Int):=FF rfl
 have e7:=gW (n:=x+y+c) (k:=32) (kk := .u64) (j:=32) rfl rfl (by omega)
 have e8:IntKind.u32.wrap (((x+y+c) / 2 ^ 32:Nat):Int)=(((x+y+c) / 4294967296:Nat):Int):=nN rfl (by omega)
 simp only [m9,x8,go_sem,↓reduceIte,amO,e1,e2,e3,e4,e5,e6,e7,e8]
theorem Ww {k:IntKind} {n:Int} (h:n ≠ 0):xt (some (.v (.int k n)))=false:=by
 unfold xt
 split
 ·rename_i h2; simp at h2; exact absurd h2.2 h
 ·rfl
theorem Wx {m:List Nat} (h:m.length ≠ 0):kU 1 (lm m) none (some (I (m.length:Nat))) (some (I (m.length:Nat)))=some (lm m):=by
 have hz:xt (some (I (m.length:Nat)))=false:=Ww (by omega)
 have h1:nU m.length m.length (some (I (m.length:Nat)))=some m.length:=nv rfl (Nat.le_refl _)
 simp only [kU,lm,rz,vj,h1,Uc,hz,if_true,Option.bind_some,Option.map_some,Bool.false_eq_true,if_false,List.drop_zero,Nat.sub_zero,Kv,List.take_length]
theorem NE (m:List Nat):R F.slices_Clip_uint32_uint32_ [lm m] []=some (lm m,[]):=by
 refine av px pv (nT false) rfl ?_
 by_cases h:m.length=0
 ·have:m=[]:=List.length_eq_zero_iff.1 h
  subst this
  rfl
 ·simp only [cS,i9,go_sem,↓reduceIte,amO,Wx h]
theorem yv (m:List Nat) (h2:m.length < 4611686018427387904):∀ (n:Nat),n≤m.length→∀ (s:am) (h:ac),s 0=lm m→s 3=I n →
  au 0 [0,3] (aq (ak R (ae false) gg) [0,3] [] s h)=some (.normal,⟨upd (upd (fun _ => .any) 3 (I (fG m n))) 0 (lm m),fun _ => .dead⟩):=by
 intro n
 induction n with
 | zero =>
  intro h1 s h h3 h4
  rw [ao]
  simp only [gg,go_sem,h3,h4,fG,↓reduceIte,amO,Int.natCast_zero,Int.lt_irrefl]
 | succ n ih =>
  intro h1 s h h3 h4
  have hn:n < m.length:=h1
  have e3:IntKind.i64.wrap ((n:Int)+1 - 1)=n:=wi (by omega) (by omega)
  have e1:aV (aE m) (n:Int)=some (.ipt [U (m.getD n 0:Nat)]):=aX rfl hn
  have e2:((0:Int) < (n:Int)+1)=True:=eq_true (by omega)
  have ih':=ih (by omega)
  rw [ao]
  generalize aq _ _ _=L at ih' ⊢
  by_cases hz:m.getD n 0=0
  ·simp only [gg,go_sem,h3,h4,fG,↓reduceIte,amO,Int.natCast_add,Int.natCast_one,e3,e1,e2,hz,Int.natCast_zero]
   exact ih' _ _ rfl rfl
  ·simp only [gg,go_sem,h3,h4,fG,↓reduceIte,amO,Int.natCast_add,Int.natCast_one,e3,e1,e2,hz,Int.natCast_eq_zero]
theorem dj {m:List Nat} (hb:Lb m) (h:m.length < 4611686018427387904):R F.natural_trim [lm m] []=some (lm (ap (ab m)),[]):=by
 refine av Fy Fx (zZ false) rfl ?_
 have h1:kU 1 (lm m) none (some (I (fG m m.length:Nat))) none=some (lm (ap (ab m))):=by
  rw [uS (a:=0) (b:=fG m m.length) rfl (nv rfl (mS _ _)) (mS _ _),List.drop_zero,Nat.sub_zero,vP hb]
 simp only [kL,uI,go_sem,↓reduceIte,amO,yv m h m.length (Nat.le_refl _),h1]
def VB (l:List (List Nat)):AV := .sl 1 (l.map fun m=>[lm m])
theorem Wy (l:List (List Nat)) (cs:List Sh):(l.map fun m=>[lm m]).map (cp [.o 2 cs])=l.map fun m=>[nrmL (.o 2 cs) (lm m)]:=by
 simp [List.map_map,cp]
theorem R5 (m:List Nat):R F.natural_long_1 [lm m] []=some (B (decide (256 < m.length)),[]):=by
 refine av BN BM (xq false) rfl ?_
 have e:decide ((256:Int) < (m.length:Int))=decide (256 < m.length):=by rw [decide_eq_decide]; omega
 simp only [iP,sq,go_sem,↓reduceIte,amO,e]
theorem NF {l:List (List Nat)} (hl:l.length < 4611686018427387904):R F.natural_long [VB l] []=some (B (l.any fun m=>decide (256 < m.length)),[]):=by
 refine av Fu Ft (zX false) rfl ?_
 let p:List AV→Bool:=fun row=>match row with | [.sl _ rows]=>decide (256 < rows.length) | _=>false
 have hp:∀ m:List Nat,p [lm m]=decide (256 < m.length):=fun m=>by simp [p,lm,rz]
 have hn:(l.map fun m=>[lm m]).map (cp [.o 2 []])=l.map fun m=>[lm m]:=by
  rw [Wy]
  simp only [go_sem]
 have h1:=yu (k:=1) (g:=false) (f:=F.natural_long_1) (rows:=l.map fun m=>[lm m]) (p:=p) mj mh (kA false) rfl (nf false _) (by simpa using hl) (fun row hr=>by
  simp only [List.mem_map] at hr
  obtain ⟨m,hm,rfl⟩:=hr
  refine ⟨lm m,rfl,rfl,?_⟩
  simp only [go_sem,R5,hp])
 have h2:=uU (k:=1) kz ky (jl false) rfl (nf false _) (lB false) hn h1
 have h3:(l.map fun m=>[lm m]).any p=l.any fun m=>decide (256 < m.length):=by
  rw [List.any_map]
  congr 1
  funext m
  exact hp m
 rw [h3] at h2
 simp only [kK,uH,VB,go_sem,↓reduceIte,amO,te _ (nf false _),hn,h2]
end Go.Ab
namespace Go.Ab
open Go Go.IntWalk
set_option maxRecDepth 4000
theorem tt {p:Prop} (h:p):p=True:=eq_true h
theorem ff {p:Prop} (h : ¬ p):p=False:=eq_false h
theorem jR (a:List Nat):R F.natural_long [.sl 1 [[lm a]]] []=some (B (decide (256 < a.length)),[]):=by
 have:=NF (l:=[a]) (by simp)
 simpa [VB] using this
theorem nw (a b:List Nat):R F.natural_long [.sl 1 [[lm a],[lm b]]] []=some (B (decide (256 < a.length) || decide (256 < b.length)),[]):=by
 have:=NF (l:=[a,b]) (by simp)
 simpa [VB] using this
def fj (n:Nat):AV:=if 256 < (ap n).length then .tup [lm [],I 9] else .tup [lm (ap n),I 0]
theorem uV {m:List Nat} (hb:Lb m) (h:m.length < 4611686018427387904):R F.natural_done [lm m] []=some (fj (ab m),[]):=by
 refine av Fw Fv (zY false) rfl ?_
 by_cases hl:256 < (ap (ab m)).length
 ·simp only [iu,pm,fj,go_sem,↓reduceIte,amO,amQ,amP,amR,amS,dj hb h,jR,hl]
 ·simp only [iu,pm,fj,go_sem,↓reduceIte,amO,amQ,amP,amR,amS,dj hb h,jR,hl,NE]
theorem wT {a:List Nat} {i:Nat} (h:i < a.length):ab (a.take (i+1))=ab (a.take i)+4294967296 ^ i*a.getD i 0:=by
 rw [List.take_add_one,di]
 have:a[i]?.toList=[a.getD i 0]:=by simp [h]
 rw [this,List.length_take,Nat.min_eq_left (by omega)]
 simp [ab]
theorem Nd {a:List Nat} {i:Nat} (h:a.length≤i):ab (a.take (i+1))=ab (a.take i)+4294967296 ^ i*a.getD i 0:=by
 rw [List.take_of_length_le (by omega),List.take_of_length_le h]
 simp [List.getD_eq_getElem?_getD,List.getElem?_eq_none h]
theorem dX (a:List Nat) (i:Nat):ab (a.take (i+1))=ab (a.take i)+4294967296 ^ i*a.getD i 0:=by
 rcases Nat.lt_or_ge i a.length with h | h
 ·exact wT h
 ·exact Nd h
def NG (n i:Nat):Nat:=n / 4294967296 ^ i % 4294967296
theorem Uf {k n i:Nat} (h:i < k):(bI k n)[i]?=some (NG n i):=by
 induction k generalizing n i with
 | zero=>omega
 | succ k ih =>
  cases i with
  | zero=>simp [bI,NG]
  | succ i =>
   simp only [bI,List.getElem?_cons_succ]
   rw [ih (by omega)]
   simp only [NG,Nat.pow_succ,Nat.mul_comm _ 4294967296,Nat.div_div_eq_div_mul]
theorem Ky {k n:Nat} {l:List Nat} (hl:l.length=k) (h:∀ i,i < k→l.getD i 0=NG n i):l=bI k n:=by
 refine List.ext_getElem? fun i => ?_
 rcases Nat.lt_or_ge i k with hi | hi
 ·rw [Uf hi]
  have:=h i hi
  rw [List.getD_eq_getElem?_getD,List.getElem?_eq_getElem (by omega)] at this
  rw [List.getElem?_eq_getElem (by omega)]
  exact congrArg some this
 ·rw [List.getElem?_eq_none (by omega),List.getElem?_eq_none (by rw [bk]; omega)]
def bS (a b:List Nat):Nat→Nat
 | 0=>0
 | i+1=>(a.getD i 0+b.getD i 0+bS a b i) / 4294967296
def oX (a b:List Nat) (i:Nat):Nat:=(a.getD i 0+b.getD i 0+bS a b i) % 4294967296
theorem qt {a b:List Nat} (ha:Lb a) (hb:Lb b):∀ i,bS a b i≤1
 | 0=>by simp [bS]
 | i+1=>by
  have h1:=bd ha i
  have h2:=bd hb i
  have h3:=qt ha hb i
  simp only [bS]
  omega
def bQ (a b:List Nat) (i:Nat):List Nat:=(List.range i).map (oX a b)
theorem sD (f:Nat→Nat) (i:Nat):ab ((List.range (i+1)).map f)=ab ((List.range i).map f)+4294967296 ^ i*f i:=by
 rw [List.range_succ,List.map_append,di]
 simp [ab]
theorem BU (a b:List Nat):∀ i,ab (bQ a b i)+4294967296 ^ i*bS a b i=ab (a.take i)+ab (b.take i)
 | 0=>by simp [bQ,bS,ab]
 | i+1=>by
  have ih:=BU a b i
  rw [dX a i,dX b i]
  simp only [bQ] at ih ⊢
  rw [sD,Nat.pow_succ]
  have e:bS a b (i+1)*4294967296+oX a b i=a.getD i 0+b.getD i 0+bS a b i:=by
   simp only [bS,oX]
   omega
  have h1:4294967296 ^ i*4294967296*bS a b (i+1)+4294967296 ^ i*oX a b i=4294967296 ^ i*(a.getD i 0+b.getD i 0+bS a b i):=by
   rw [← e,Nat.mul_add,Nat.mul_assoc,Nat.mul_comm 4294967296]
  simp only [Nat.mul_add] at h1
  omega
theorem cD (a b:List Nat) (i:Nat):(bQ a b i).length=i:=by simp [bQ]
theorem FG (a b:List Nat) (i:Nat):Lb (bQ a b i):=fun x hx=>by
 simp only [bQ,List.mem_map] at hx
 obtain ⟨j,_,rfl⟩:=hx
 simp only [oX]
 omega
theorem Ug {a b:List Nat} (ha:Lb a) (hb:Lb b) (hl:b.length≤a.length):bQ a b a.length++[bS a b a.length]=bI (a.length+1) (ab a+ab b):=by
 have h:=BU a b a.length
 rw [List.take_length,List.take_of_length_le hl] at h
 have h1:Lb (bQ a b a.length++[bS a b a.length]):=iv.2 ⟨FG _ _ _,dh.2 ⟨by have:=qt ha hb a.length; omega,sx⟩⟩
 have h2:ab (bQ a b a.length++[bS a b a.length])=ab a+ab b:=by
  rw [di,cD]
  simp only [ab]
  omega
 rw [← h2]
 have:=pn h1
 simpa [cD] using this.symm
theorem py {α:Type} (l:List α) (n:Nat) (x z:α) (h:0 < n):(l++List.replicate n z).set l.length x=(l++[x])++List.replicate (n - 1) z:=by
 obtain ⟨n,rfl⟩:∃ m,n=m+1:=⟨n - 1,by omega⟩
 rw [List.replicate_succ,List.set_append_right _ _ (Nat.le_refl _)]
 simp
theorem Uh {a b:List Nat} (ha:Lb a) (hb:Lb b) (hl:b.length≤a.length) (h2:a.length < 4611686018427387904):∀ (k i:Nat),i+k=a.length→∀ (s:am) (h:ac),s 0=lm a→s 1=lm b→s 5 = .rsl 20 none 1 0 (a.length+1)→s 6=U (bS a b i:Nat) →
  s 21=lm a→s 22=I (a.length:Nat)→s 23=I i→h 20 = .ar 1 (aE (bQ a b i++List.replicate (k+1) 0)) →
  au 0 [0,5,6] (aq (ak R (ae false) eZ) [0,1,5,6,21,22,23] [20] s h) =
   some (.normal,⟨upd (upd (upd (fun _ => .any) 6 (U (bS a b a.length:Nat))) 5 (.rsl 20 none 1 0 (a.length+1))) 0 (lm a),upd (fun _ => .dead) 20 (.ar 1 (aE (bQ a b a.length++[0])))⟩):=by
 intro k
 induction k with
 | zero =>
  intro i hi s h h0 h1 h5 h6 h21 h22 h23 hh
  have:i=a.length:=by omega
  subst this
  rw [ao]
  simp only [eZ,go_sem,↓reduceIte,amO,amP,h0,h1,h5,h6,h21,h22,h23,hh,Int.lt_irrefl,List.contains_cons,BEq.rfl,Bool.true_or]
 | succ k ih =>
  intro i hi s h h0 h1 h5 h6 h21 h22 h23 hh
  have ih':=ih (i+1) (by omega)
  have e1:((i:Int) < (a.length:Int))=True:=tt (by omega)
  have e2:aV (aE a) (i:Int)=some (.ipt [U (a.getD i 0:Nat)]):=aX rfl (by omega)
  have e3:IntKind.i64.wrap ((i:Int)+1)=((i+1:Nat):Int):=wi (by omega) (by omega)
  have e4:(0≤(i:Int))=True:=tt (by omega)
  have e5:((i:Int) < ((a.length+1:Nat):Int))=True:=tt (by omega)
  have e6:=Kx (bd ha i) (bd hb i) (qt ha hb i)
  have e7:(aE (bQ a b i++List.replicate (k+1+1) 0))[i]?=some [U (0:Nat)]:=by
   rw [kl (by simp [cD])]
   simp [List.getD_eq_getElem?_getD,cD]
  have e8:(aE (bQ a b i++List.replicate (k+1+1) 0)).set i [U ((a.getD i 0+b.getD i 0+bS a b i) % 4294967296:Nat)]=aE (bQ a b (i+1)++List.replicate (k+1) 0):=by
   rw [km]
   have:=py (bQ a b i) (k+1+1) (oX a b i) 0 (by omega)
   rw [cD] at this
   rw [show (a.getD i 0+b.getD i 0+bS a b i) % 4294967296=oX a b i from rfl,this]
   simp [bQ,List.range_succ]
  rw [ao]
  generalize aq _ _ _=L at ih' ⊢
  by_cases hb':i < b.length
  ·have e9:((i:Int) < (b.length:Int))=True:=tt (by omega)
   have e10:aV (aE b) (i:Int)=some (.ipt [U (b.getD i 0:Nat)]):=aX rfl hb'
   simp only [eZ,go_sem,↓reduceIte,amO,amQ,amP,amR,h0,h1,h5,h6,h21,h22,h23,hh,List.contains_cons,BEq.rfl,Bool.true_or,e1,e2,e3,e4,e5,e6,e7,e8,e9,e10,Int.toNat_natCast,Nat.zero_add]
   exact ih' _ _ rfl rfl rfl rfl rfl rfl rfl rfl
  ·have e9:((i:Int) < (b.length:Int))=False:=ff (by omega)
   have e10:b.getD i 0=0:=by simp [List.getD_eq_getElem?_getD,List.getElem?_eq_none (show b.length≤i from by omega)]
   have e6':=Kx (bd ha i) (y:=0) (by omega) (qt ha hb i)
   simp only [Int.natCast_zero] at e6'
   have e8':(aE (bQ a b i++List.replicate (k+1+1) 0)).set i [U ((a.getD i 0+0+bS a b i) % 4294967296:Nat)]=aE (bQ a b (i+1)++List.replicate (k+1) 0):=by
    have e8':=e8
    rw [e10] at e8'
    exact e8'
   simp only [eZ,go_sem,↓reduceIte,amO,amQ,amP,amR,h0,h1,h5,h6,h21,h22,h23,hh,List.contains_cons,BEq.rfl,Bool.true_or,e1,e2,e3,e4,e5,e7,e8',e9,Int.toNat_natCast,Nat.zero_add,e6']
   refine ih' _ _ rfl rfl rfl ?_ rfl rfl rfl rfl
   simp only [bS,e10]
   rfl
theorem jo {i j:Int} {l c:Nat} (hi:i=l) (hj:j=c) (h:l≤c) (hc:c < 9223372036854775808):vn (I i) (I j)=some (l,c):=by
 subst hi hj
 simp only [vn]
 rw [if_pos (by omega)]
 simp
def BV:Cmd := .seq (.ops [0,1,5] [cm 17 0,co 18 (.len false (.t 17)),co 19 (.bin .add (.t 18) (.c (.v (.int .i64 1)))),⟨(some 20),none,.mkSl 1 [(.v (.int .u32 0))] 4 (.t 19) (.t 19)⟩,cm 5 20]) (.seq (.ops [0,1,5,6] [co 6 (.mv (.c (.v (.int .u32 0))))]) (.seq (.seq (.ops [0,1,5,6,21,22,23] [cm 21 0,co 22 (.len false (.t 21)),co 23 (.mv (.c (.v (.int .i64 0))))]) (.block 0 [0,5,6] (.loop [0,1,5,6,21,22,23] [20] eZ))) (.seq (.ops [5] [cm 47 5,cm 48 0,co 49 (.len false (.t 48)),cm 50 6,co 51 (.iadrS 1 (.t 47) (.t 49)),⟨none,none,.store 1 (.t 51) (.t 50)⟩]) (.seq (.ops [4] [cm 52 5,cm 4 52]) (.ret)))))
theorem Kz {a b:List Nat} (ha:Lb a) (hb:Lb b) (hl:b.length≤a.length) (h2:a.length≤100000):∀ (s:am),s 0=lm a→s 1=lm b →
  ak R (ae false) BV s (fun _ => .dead)=some (.ret,⟨upd (fun _ => .any) 4 (.rsl 20 none 1 0 (a.length+1)),upd (upd (fun _ => .dead) 20 (.ar 1 (aE (bQ a b a.length++[0])))) 20 (.ar 1 (aE (bI (a.length+1) (ab a+ab b))))⟩):=by
 intro s h0 h1
 have e1:IntKind.i64.wrap ((a.length:Int)+1)=((a.length+1:Nat):Int):=wi (by omega) (by omega)
 have e2:=jo (i:=((a.length+1:Nat):Int)) (j:=((a.length+1:Nat):Int)) (l:=a.length+1) (c:=a.length+1) rfl rfl (Nat.le_refl _) (by omega)
 have e3:((a.length+1)*4≤140737488355328)=True:=tt (by omega)
 have e4:=Uh ha hb hl (by omega) a.length 0 (by omega)
 have e5:aE (List.replicate (a.length+1) 0)=aE (bQ a b 0++List.replicate (a.length+1) 0):=rfl
 have e6:(0≤(a.length:Int))=True:=tt (by omega)
 have e7:((a.length:Int) < ((a.length+1:Nat):Int))=True:=tt (by omega)
 have e8:(aE (bQ a b a.length++[0]))[a.length]?=some [U (0:Nat)]:=by
  rw [kl (by simp [cD])]
  simp [List.getD_eq_getElem?_getD,cD]
 have e9:(aE (bQ a b a.length++[0])).set a.length [U (bS a b a.length:Nat)]=aE (bI (a.length+1) (ab a+ab b)):=by
  rw [km]
  have:=py (bQ a b a.length) 1 (bS a b a.length) 0 (by omega)
  rw [cD] at this
  rw [show [0]=List.replicate 1 0 from rfl,this]
  simp only [Nat.sub_self,List.replicate_zero,List.append_nil]
  rw [Ug ha hb hl]
 simp only [BV,go_sem,↓reduceIte,amO,h0,h1,e1,e2,e3,nM,e5]
 rw [e4 _ _ rfl rfl rfl rfl rfl rfl rfl rfl]
 simp only [go_sem,↓reduceIte,amO,amR,e6,e7,e8,e9,Int.toNat_natCast,Nat.zero_add]
theorem KA:wO = .seq (.ops [0,1] [co 4 (.mv (.c .emp))]) (.seq (.seq (.ops [0,1,14] [cm 10 0,co 11 (.len false (.t 10)),cm 12 1,co 13 (.len false (.t 12)),co 14 (.bin .lss (.t 11) (.t 13))]) (.cond (.t 14) (.ops [0,1] [cm 15 1,cm 16 0,cm 0 15,cm 1 16]) (.skip))) BV):=rfl
theorem R6 {a b:List Nat} (ha:Lb a) (hb:Lb b) (h1:a.length≤100000) (h2:b.length≤100000):R F.natural_add [lm a,lm b] []=some (lm (bI (max a.length b.length+1) (ab a+ab b)),[]):=by
 refine av Io In (BQ false) rfl ?_
 by_cases h:a.length < b.length
 ·have e1:((a.length:Int) < (b.length:Int))=True:=tt (by omega)
  have e2:=Kz hb ha (by omega) h2
  simp only [jd,KA,go_sem,↓reduceIte,amO,e1]
  rw [e2 _ rfl rfl]
  simp only [go_sem,↓reduceIte,amR,bk,Nat.zero_add,Nat.le_refl]
  rw [Nat.max_eq_right (by omega),Nat.add_comm (ab a)]
 ·have e1:((a.length:Int) < (b.length:Int))=False:=ff (by omega)
  have e2:=Kz ha hb (by omega) h1
  simp only [jd,KA,go_sem,↓reduceIte,amO,e1]
  rw [e2 _ rfl rfl]
  simp only [go_sem,↓reduceIte,amR,bk,Nat.zero_add,Nat.le_refl]
  rw [Nat.max_eq_left (by omega)]
theorem R7 {a b:List Nat} (ha:Lb a) (hb:Lb b) (h1:a.length≤256) (h2:b.length≤256):R F.natural_Add [lm a,lm b] []=some (fj (ab a+ab b),[]):=by
 refine av Ia H9 (BH false) rfl ?_
 have e1:(256 < a.length)=False:=ff (by omega)
 have e2:(256 < b.length)=False:=ff (by omega)
 have e3:ab (bI (max a.length b.length+1) (ab a+ab b))=ab a+ab b:=by
  rw [et,Nat.mod_eq_of_lt]
  have h1:=bC ha
  have h2:=bC hb
  have h3:4294967296 ^ a.length≤4294967296 ^ max a.length b.length:=Nat.pow_le_pow_right (by omega) (by omega)
  have h4:4294967296 ^ b.length≤4294967296 ^ max a.length b.length:=Nat.pow_le_pow_right (by omega) (by omega)
  rw [Nat.pow_succ]
  omega
 have e4:=uV (gC (max a.length b.length+1) (ab a+ab b)) (by rw [bk]; omega)
 rw [e3] at e4
 unfold fj at e4 ⊢
 by_cases hl:256 < (ap (ab a+ab b)).length
 ·simp only [hl,if_true] at e4 ⊢
  simp only [ja,qM,go_sem,↓reduceIte,amO,amQ,amP,amR,amS,e1,e2,nw,R6 ha hb (by omega) (by omega),e4]
 ·simp only [hl,if_false] at e4 ⊢
  simp only [ja,qM,go_sem,↓reduceIte,amO,amQ,amP,amR,amS,e1,e2,nw,R6 ha hb (by omega) (by omega),e4]
end Go.Ab
namespace Go.Ab
open Go Go.IntWalk
set_option maxRecDepth 4000
def aY (x y:Nat):Int:=if x < y then -1 else if y < x then 1 else 0
theorem mm {x y:Nat} (h:(ap x).length < (ap y).length):x < y:=by
 have h1:=hR x
 have hy:y ≠ 0:=by rintro rfl; rw [ck] at h; simp at h
 have h2:=Re hy
 have h3:4294967296 ^ (ap x).length≤4294967296 ^ ((ap y).length - 1):=Nat.pow_le_pow_right (by omega) (by omega)
 omega
def fe:Cmd := .seq (.ops [4] [co 4 (.mv (.c (.v (.int .i64 0))))]) (.ret)
theorem Ui {a b:List Nat} (ha:Lb a) (hb:Lb b) (hl:a.length=b.length) (h2:a.length≤100000):∀ (k:Nat),k≤a.length→∀ (s:am) (h:ac),s 0=lm a→s 1=lm b→s 5=I ((k:Int) - 1) →
  bo (au 0 [] (aq (ak R (ae false) dT) [0,1,5] [] s h)) (ak R (ae false) fe)=some (.ret,⟨upd (fun _ => .any) 4 (I (aY (ab (a.take k)) (ab (b.take k)))),fun _ => .dead⟩):=by
 intro k
 induction k with
 | zero =>
  intro hk s h h0 h1 h5
  rw [ao]
  generalize aq _ _ _=L
  have e1:(0≤((0:Nat):Int) - 1)=False:=ff (by omega)
  have e2:aY (ab []) (ab [])=0:=rfl
  simp only [dT,fe,go_sem,↓reduceIte,amO,h0,h1,h5,e1,e2]
 | succ k ih =>
  intro hk s h h0 h1 h5
  have ih':=ih (by omega)
  have e1:(0≤((k+1:Nat):Int) - 1)=True:=tt (by omega)
  have e2:aV (aE a) (((k+1:Nat):Int) - 1)=some (.ipt [U (a.getD k 0:Nat)]):=aX (by omega) (by omega)
  have e3:aV (aE b) (((k+1:Nat):Int) - 1)=some (.ipt [U (b.getD k 0:Nat)]):=aX (by omega) (by omega)
  have e4:IntKind.i64.wrap (((k+1:Nat):Int) - 1 - 1)=(k:Int) - 1:=by rw [i64_in] <;> omega
  have va:=dX a k
  have vb:=dX b k
  have la:=bC (jg ha k)
  have lb:=bC (jg hb k)
  rw [List.length_take,Nat.min_eq_left (by omega)] at la lb
  rw [ao]
  generalize aq _ _ _=L at ih' ⊢
  rcases Nat.lt_trichotomy (a.getD k 0) (b.getD k 0) with hlt | heq | hgt
  ·have e5:((a.getD k 0:Int) < (b.getD k 0:Int))=True:=tt (by omega)
   have e6:aY (ab (a.take (k+1))) (ab (b.take (k+1))) = -1:=by
    have:4294967296 ^ k*(a.getD k 0+1)≤4294967296 ^ k*b.getD k 0:=Nat.mul_le_mul_left _ hlt
    rw [Nat.mul_add] at this
    simp only [aY]
    rw [if_pos (by omega)]
   simp only [dT,fe,go_sem,↓reduceIte,amO,h0,h1,h5,e1,e2,e3,e5,e6]
  ·have e5:((a.getD k 0:Int) < (b.getD k 0:Int))=False:=ff (by omega)
   have e7:((b.getD k 0:Int) < (a.getD k 0:Int))=False:=ff (by omega)
   have e6:aY (ab (a.take (k+1))) (ab (b.take (k+1)))=aY (ab (a.take k)) (ab (b.take k)):=by
    rw [va,vb,heq]
    simp only [aY]
    repeat' split
    all_goals first | rfl | omega
   simp only [dT,go_sem,↓reduceIte,amO,h0,h1,h5,e1,e2,e3,e5,e6,e7,e4]
   exact ih' _ _ rfl rfl rfl
  ·have e5:((a.getD k 0:Int) < (b.getD k 0:Int))=False:=ff (by omega)
   have e7:((b.getD k 0:Int) < (a.getD k 0:Int))=True:=tt (by omega)
   have e6:aY (ab (a.take (k+1))) (ab (b.take (k+1)))=1:=by
    have:4294967296 ^ k*(b.getD k 0+1)≤4294967296 ^ k*a.getD k 0:=Nat.mul_le_mul_left _ hgt
    rw [Nat.mul_add] at this
    simp only [aY]
    rw [if_neg (by omega),if_pos (by omega)]
   simp only [dT,fe,go_sem,↓reduceIte,amO,h0,h1,h5,e1,e2,e3,e5,e6,e7]
theorem BW:wJ = .seq (.ops [0,1] [co 4 (.mv (.c (.v (.int .i64 0))))]) (.seq (.ops [0,1] [cm 6 0,⟨(some 7),none,.call (.c (.fn F.natural_trim [] [])) [(.t 6)]⟩,cm 8 1,⟨(some 9),none,.call (.c (.fn F.natural_trim [] [])) [(.t 8)]⟩,cm 0 7,cm 1 9]) (.seq (.seq (.ops [0,1,14] [cm 10 0,co 11 (.len false (.t 10)),cm 12 1,co 13 (.len false (.t 12)),co 14 (.bin .neq (.t 11) (.t 13))]) (.cond (.t 14) (.seq (.seq (.ops [19] [cm 15 0,co 16 (.len false (.t 15)),cm 17 1,co 18 (.len false (.t 17)),co 19 (.bin .lss (.t 16) (.t 18))]) (.cond (.t 19) (.seq (.ops [4] [co 4 (.mv (.c (.v (.int .i64 (-1)))))]) (.ret)) (.skip))) (.seq (.ops [4] [co 4 (.mv (.c (.v (.int .i64 1))))]) (.ret))) (.skip))) (.seq (.seq (.ops [0,1,5] [cm 20 0,co 21 (.len false (.t 20)),co 22 (.bin .sub (.t 21) (.c (.v (.int .i64 1)))),cm 5 22]) (.block 0 [] (.loop [0,1,5] [] dT))) fe))):=rfl
theorem bN (m:List Nat) (h:Lb m):(ap (ab m)).length≤m.length:=fU (bC h)
theorem uW {a b:List Nat} (ha:Lb a) (hb:Lb b) (h1:a.length≤100000) (h2:b.length≤100000):R F.natural_Cmp [lm a,lm b] []=some (I (aY (ab a) (ab b)),[]):=by
 refine av H2 H1 (By false) rfl ?_
 have la:=bN a ha
 have lb:=bN b hb
 rcases Nat.lt_trichotomy (ap (ab a)).length (ap (ab b)).length with hlt | heq | hgt
 ·have e1:((ap (ab a)).length:Int)=((ap (ab b)).length:Int)↔False:=⟨fun h=>by omega,False.elim⟩
  have e2:(((ap (ab a)).length:Int) < ((ap (ab b)).length:Int))=True:=tt (by omega)
  have e3:aY (ab a) (ab b) = -1:=by simp [aY,mm hlt]
  simp only [gy,BW,go_sem,↓reduceIte,amO,amQ,amP,dj ha (by omega),dj hb (by omega),e1,e2,e3]
 ·have e1:(((ap (ab a)).length:Int)=((ap (ab b)).length:Int))=True:=tt (by omega)
  have e2:IntKind.i64.wrap (((ap (ab b)).length:Int) - 1)=((ap (ab b)).length:Int) - 1:=by rw [i64_in] <;> omega
  have e3:=Ui (aM (ab a)) (aM (ab b)) heq (by omega) (ap (ab a)).length (Nat.le_refl _)
  rw [List.take_length,heq,List.take_length,aF,aF] at e3
  simp only [gy,BW,go_sem,↓reduceIte,amO,amQ,amP,dj ha (by omega),dj hb (by omega),heq,e2]
  rw [e3 _ _ rfl rfl rfl]
  simp only [go_sem,↓reduceIte]
 ·have e1:((ap (ab a)).length:Int)=((ap (ab b)).length:Int)↔False:=⟨fun h=>by omega,False.elim⟩
  have e2:(((ap (ab a)).length:Int) < ((ap (ab b)).length:Int))=False:=ff (by omega)
  have e3:aY (ab a) (ab b)=1:=by
   have:=mm hgt
   simp only [aY]
   rw [if_neg (by omega),if_pos this]
  simp only [gy,BW,go_sem,↓reduceIte,amO,amQ,amP,dj ha (by omega),dj hb (by omega),e1,e2,e3]
theorem Wz (v:BitVec 32):v.toNat / 2147483648=if v.msb=true then 1 else 0:=by
 have h:=v.isLt
 rw [BitVec.msb_eq_decide]
 split <;> rename_i h1 <;> simp at h1 <;> omega
theorem PJ {x y c:Nat} (hx:x < 4294967296) (hy:y < 4294967296) (hc:c≤1) (D:BitVec 32) (hD:D.toNat=(x+4294967296 - y - c) % 4294967296) :
  ((~~~(BitVec.ofNat 32 x) &&& BitVec.ofNat 32 y) ||| (~~~(BitVec.ofNat 32 x ^^^ BitVec.ofNat 32 y) &&& D)).toNat / 2147483648=if x < y+c then 1 else 0:=by
 rw [Wz]
 have h1:(BitVec.ofNat 32 x).msb=decide (2147483648≤x):=by rw [BitVec.msb_eq_decide]; simp; omega
 have h2:(BitVec.ofNat 32 y).msb=decide (2147483648≤y):=by rw [BitVec.msb_eq_decide]; simp; omega
 have h3:D.msb=decide (2147483648≤(x+4294967296 - y - c) % 4294967296):=by rw [BitVec.msb_eq_decide,hD]
 rw [BitVec.msb_or,BitVec.msb_and,BitVec.msb_and,BitVec.msb_not,BitVec.msb_not,BitVec.msb_xor,h1,h2,h3]
 by_cases a1:2147483648≤x <;> by_cases a2:2147483648≤y <;> by_cases a3:x < y+c <;> simp [a1,a2,a3] <;> omega
theorem ofI (n:Nat):BitVec.ofInt 32 (n:Int)=BitVec.ofNat 32 n:=by simp
theorem adA (v:BitVec 32):BitVec.ofInt 32 (v.toNat:Int)=v:=by simp
theorem ae5 (v:BitVec 32):IntKind.u32.wrap (v.toNat:Int)=(v.toNat:Int):=by
 have:=v.isLt
 rw [IntKind.wrap_u32]
 omega
theorem KB {x y c:Nat} (hx:x < 4294967296) (hy:y < 4294967296) (hc:c≤1):R F.bits_Sub32 [U x,U y,U c] []=some (.tup [U (((x+4294967296 - y - c) % 4294967296:Nat)),U ((if x < y+c then 1 else 0:Nat))],[]):=by
 refine av Ku Kt (DD false) rfl ?_
 have e1:IntKind.u32.wrap ((x:Int) - y)=(((x+4294967296 - y) % 4294967296:Nat):Int):=by rw [IntKind.wrap_u32]; omega
 have e2:IntKind.u32.wrap ((((x+4294967296 - y) % 4294967296:Nat):Int) - c)=(((x+4294967296 - y - c) % 4294967296:Nat):Int):=by rw [IntKind.wrap_u32]; omega
 have b:IntKind.u32.bits=32:=rfl
 have e3:BitVec.ofInt 32 (if IntKind.u32.signed=true then (-1:Int) else IntKind.u32.max)=BitVec.allOnes 32:=by decide
 have e4:∀ v:BitVec 32,BitVec.allOnes 32 ^^^ v = ~~~v:=fun v=>BitVec.not_def.symm
 have e5:∀ v:BitVec 32,BitVec.ofNat 32 v.toNat=v:=fun v=>by simp
 have key:=PJ hx hy hc (BitVec.ofNat 32 ((x+4294967296 - y - c) % 4294967296)) (by simp)
 have sh:∀ v:BitVec 32,cU .shr (.v (.int .u32 (v.toNat:Int))) (.v (.int .u64 31))=some (.v (.int .u32 ((v.toNat / 2147483648:Nat):Int))):=fun v=>by
  rw [Ey,if_neg (by decide)]
  simp only [b,show min (31:Int).toNat 32=31 from rfl,Option.some.injEq,AV.v.injEq,Value.int.injEq,true_and]
  rw [Int.fdiv_eq_ediv_of_nonneg _ (by decide)]
  omega
 simp only [nc,x9,go_sem,↓reduceIte,amO,e1,e2,ofI,e3,e5,ae5,sh]
 rw [← e4,← e4] at key
 exact congrArg (fun n:Nat=>some (AV.tup [AV.v (Value.int IntKind.u32 ((x+4294967296 - y - c) % 4294967296:Nat)),U (n:Int)],([]:List Ob))) key
theorem akS {x y c:Nat}:(if x < y+c then 1 else 0:Nat)≤1:=by split <;> omega
def dx (a b:List Nat):Nat→Nat
 | 0=>0
 | i+1=>if a.getD i 0 < b.getD i 0+dx a b i then 1 else 0
def oY (a b:List Nat) (i:Nat):Nat:=(a.getD i 0+4294967296 - b.getD i 0 - dx a b i) % 4294967296
def cz (a b:List Nat) (i:Nat):List Nat:=(List.range i).map (oY a b)
theorem qu (a b:List Nat) (i:Nat):dx a b i≤1:=by
 cases i with
 | zero=>simp [dx]
 | succ i=>simp only [dx]; split <;> omega
theorem KC {a b:List Nat} (ha:Lb a) (hb:Lb b):∀ i,ab (cz a b i)+ab (b.take i)=ab (a.take i)+4294967296 ^ i*dx a b i
 | 0=>by simp [cz,dx,ab]
 | i+1=>by
  have ih:=KC ha hb i
  rw [dX a i,dX b i]
  simp only [cz] at ih ⊢
  rw [sD,Nat.pow_succ]
  have h1:=bd ha i
  have h2:=bd hb i
  have h3:=qu a b i
  have e:oY a b i+b.getD i 0+dx a b i=a.getD i 0+4294967296*dx a b (i+1):=by
   simp only [oY,dx]
   split <;> omega
  have h4:4294967296 ^ i*(oY a b i+b.getD i 0+dx a b i)=4294967296 ^ i*(a.getD i 0+4294967296*dx a b (i+1)):=by rw [e]
  simp only [Nat.mul_add] at h4
  rw [← Nat.mul_assoc] at h4
  omega
theorem fk (a b:List Nat) (i:Nat):(cz a b i).length=i:=by simp [cz]
theorem zk (a b:List Nat) (i:Nat):Lb (cz a b i):=fun x hx=>by
 simp only [cz,List.mem_map] at hx
 obtain ⟨j,_,rfl⟩:=hx
 simp only [oY]
 omega
theorem BX {a b:List Nat} (ha:Lb a) (hb:Lb b) (hl:b.length≤a.length) (hv:ab b≤ab a):cz a b a.length=bI a.length (ab a - ab b):=by
 have h:=KC ha hb a.length
 rw [List.take_length,List.take_of_length_le hl] at h
 have h1:=bC (zk a b a.length)
 rw [fk] at h1
 have hz:dx a b a.length=0:=by
  have:=qu a b a.length
  rcases Nat.eq_zero_or_pos (dx a b a.length) with h0 | h0
  ·exact h0
  ·have:dx a b a.length=1:=by omega
   rw [this] at h
   omega
 rw [hz] at h
 have h2:=pn (zk a b a.length)
 rw [fk,show ab (cz a b a.length)=ab a - ab b from by omega] at h2
 exact h2.symm
theorem Uj {a b:List Nat} (ha:Lb a) (hb:Lb b) (h2:a.length≤100000):∀ (k i:Nat),i+k=a.length→∀ (s:am) (h:ac),s 1=lm b→s 5 = .rsl 16 none 1 0 a.length→s 6=U (dx a b i:Nat) →
  s 17=lm a→s 18=I (a.length:Nat)→s 19=I i→h 16 = .ar 1 (aE (cz a b i++List.replicate k 0)) →
  au 0 [5] (aq (ak R (ae false) gR) [1,5,6,17,18,19] [16] s h) =
   some (.normal,⟨upd (fun _ => .any) 5 (.rsl 16 none 1 0 a.length),upd (fun _ => .dead) 16 (.ar 1 (aE (cz a b a.length)))⟩):=by
 intro k
 induction k with
 | zero =>
  intro i hi s h h1 h5 h6 h17 h18 h19 hh
  have:i=a.length:=by omega
  subst this
  rw [ao]
  simp only [List.replicate_zero,List.append_nil] at hh
  simp only [gR,go_sem,↓reduceIte,amO,amT,h1,h5,h6,h17,h18,h19,hh,Int.lt_irrefl]
 | succ k ih =>
  intro i hi s h h1 h5 h6 h17 h18 h19 hh
  have ih':=ih (i+1) (by omega)
  have e1:((i:Int) < (a.length:Int))=True:=tt (by omega)
  have e2:aV (aE a) (i:Int)=some (.ipt [U (a.getD i 0:Nat)]):=aX rfl (by omega)
  have e3:IntKind.i64.wrap ((i:Int)+1)=((i+1:Nat):Int):=wi (by omega) (by omega)
  have e4:(0≤(i:Int))=True:=tt (by omega)
  have e7:(aE (cz a b i++List.replicate (k+1) 0))[i]?=some [U (0:Nat)]:=by
   rw [kl (by simp [fk])]
   simp [List.getD_eq_getElem?_getD,fk]
  have e8:(aE (cz a b i++List.replicate (k+1) 0)).set i [U ((a.getD i 0+4294967296 - b.getD i 0 - dx a b i) % 4294967296:Nat)]=aE (cz a b (i+1)++List.replicate k 0):=by
   rw [km]
   have:=py (cz a b i) (k+1) (oY a b i) 0 (by omega)
   rw [fk] at this
   rw [show (a.getD i 0+4294967296 - b.getD i 0 - dx a b i) % 4294967296=oY a b i from rfl,this]
   simp [cz,List.range_succ]
  rw [ao]
  generalize aq _ _ _=L at ih' ⊢
  by_cases hb':i < b.length
  ·have e6:=KB (bd ha i) (bd hb i) (qu a b i)
   have e9:((i:Int) < (b.length:Int))=True:=tt (by omega)
   have e10:aV (aE b) (i:Int)=some (.ipt [U (b.getD i 0:Nat)]):=aX rfl hb'
   simp only [gR,go_sem,↓reduceIte,amO,amQ,amP,amR,amT,h1,h5,h6,h17,h18,h19,hh,e1,e2,e3,e4,e6,e7,e8,e9,e10,Int.toNat_natCast,Nat.zero_add]
   exact ih' _ _ rfl rfl rfl rfl rfl rfl rfl
  ·have e9:((i:Int) < (b.length:Int))=False:=ff (by omega)
   have e10:b.getD i 0=0:=by simp [List.getD_eq_getElem?_getD,List.getElem?_eq_none (show b.length≤i from by omega)]
   have e6':=KB (bd ha i) (y:=0) (by omega) (qu a b i)
   simp only [Int.natCast_zero] at e6'
   have e8':(aE (cz a b i++List.replicate (k+1) 0)).set i [U ((a.getD i 0+4294967296 - 0 - dx a b i) % 4294967296:Nat)]=aE (cz a b (i+1)++List.replicate k 0):=by
    have e8':=e8
    rw [e10] at e8'
    exact e8'
   simp only [gR,go_sem,↓reduceIte,amO,amQ,amP,amR,amT,h1,h5,h6,h17,h18,h19,hh,e1,e2,e3,e4,e6',e7,e8',e9,Int.toNat_natCast,Nat.zero_add]
   refine ih' _ _ rfl rfl ?_ rfl rfl rfl rfl
   simp only [dx,e10,Nat.zero_add]
   rfl
theorem R8 {a b:List Nat} (ha:Lb a) (hb:Lb b) (h1:a.length≤100000) (h2:b.length≤100000) (hv:ab b≤ab a):R F.natural_sub [lm a,lm b] []=some (lm (bI (ap (ab a)).length (ab a - ab b)),[]):=by
 refine av Iq Ip (BR false) rfl ?_
 have la:=bN a ha
 have lb:(ap (ab b)).length≤(ap (ab a)).length:=by
  rcases Nat.lt_or_ge (ap (ab a)).length (ap (ab b)).length with h | h
  ·have:=mm h; omega
  ·exact h
 have e2:=jo (i:=((ap (ab a)).length:Int)) (j:=((ap (ab a)).length:Int)) rfl rfl (Nat.le_refl _) (by omega)
 have e3:((ap (ab a)).length*4≤140737488355328)=True:=tt (by omega)
 have e4:=Uj (aM (ab a)) (aM (ab b)) (by omega) (ap (ab a)).length 0 (by omega)
 have e5:aE (List.replicate (ap (ab a)).length 0)=aE (cz (ap (ab a)) (ap (ab b)) 0++List.replicate (ap (ab a)).length 0):=rfl
 have e6:=BX (aM (ab a)) (aM (ab b)) lb (by rw [aF,aF]; exact hv)
 rw [aF,aF] at e6
 simp only [l8,wP,go_sem,↓reduceIte,amO,amQ,amP,dj ha (by omega),dj hb (by omega),e2,e3,nM,e5]
 rw [e4 _ _ rfl rfl rfl rfl rfl rfl rfl]
 simp only [go_sem,↓reduceIte,amR,amS,e6,bk,Nat.zero_add,Nat.le_refl]
theorem R9 {a b:List Nat} (ha:Lb a) (hb:Lb b) (h1:a.length≤256) (h2:b.length≤256):R F.natural_Sub [lm a,lm b] []=some (if ab a < ab b then .tup [lm [],I 2] else fj (ab a - ab b),[]):=by
 refine av Ic Ib (BI false) rfl ?_
 have e1:(256 < a.length)=False:=ff (by omega)
 have e2:(256 < b.length)=False:=ff (by omega)
 by_cases hv:ab a < ab b
 ·have e3:aY (ab a) (ab b) = -1:=by simp [aY,hv]
  simp only [gA,m8,go_sem,↓reduceIte,amO,amQ,amP,amR,amS,amU,e1,e2,nw,uW ha hb (by omega) (by omega),e3,hv]
 ·have e3:(aY (ab a) (ab b) < 0)=False:=ff (by simp only [aY]; split <;> (try split) <;> omega)
  have e5:ab (bI (ap (ab a)).length (ab a - ab b))=ab a - ab b:=by
   rw [et,Nat.mod_eq_of_lt]
   have:=hR (ab a)
   omega
  have e4:=uV (gC (ap (ab a)).length (ab a - ab b)) (by rw [bk]; have:=bN a ha; omega)
  rw [e5] at e4
  unfold fj at e4 ⊢
  by_cases hl:256 < (ap (ab a - ab b)).length
  ·simp only [hl,if_true] at e4 ⊢
   simp only [gA,m8,go_sem,↓reduceIte,amO,amQ,amP,amR,amS,e1,e2,nw,uW ha hb (by omega) (by omega),e3,hv,R8 ha hb (by omega) (by omega) (by omega),e4]
  ·simp only [hl,if_false] at e4 ⊢
   simp only [gA,m8,go_sem,↓reduceIte,amO,amQ,amP,amR,amS,e1,e2,nw,uW ha hb (by omega) (by omega),e3,hv,R8 ha hb (by omega) (by omega) (by omega),e4]
end Go.Ab
namespace Go.Ab
open Go Go.IntWalk
set_option maxRecDepth 4000
def mi (x:Nat):Nat→List Nat→List Nat→List Nat × Nat
 | c,y::bs,o::s=>(((x*y+o+c) % 4294967296)::(mi x ((x*y+o+c) / 4294967296) bs s).1,(mi x ((x*y+o+c) / 4294967296) bs s).2)
 | c,_,s=>(s,c)
theorem KD (x:Nat):∀ (bs s r:List Nat) (c:Nat),bs.length≤s.length→mi x c bs (s++r)=((mi x c bs s).1++r,(mi x c bs s).2)
 | [],s,r,c,_=>by simp [mi]
 | y::bs,[],r,c,h=>by simp at h
 | y::bs,o::s,r,c,h=>by
  have ih:=KD x bs s r ((x*y+o+c) / 4294967296) (by simpa using h)
  simp only [List.cons_append,mi,ih]
theorem tw (x:Nat):∀ (bs s:List Nat) (c:Nat),(mi x c bs s).1.length=s.length
 | [],s,c=>by simp [mi]
 | y::bs,[],c=>by simp [mi]
 | y::bs,o::s,c=>by simp [mi,tw x bs s]
theorem VC (x:Nat):∀ (bs s:List Nat) (c:Nat),Lb s→Lb (mi x c bs s).1
 | [],s,c,h=>by simpa [mi] using h
 | y::bs,[],c,h=>by simpa [mi] using h
 | y::bs,o::s,c,h=>by
  simp only [mi]
  exact dh.2 ⟨by omega,VC x bs s _ (dh.1 h).2⟩
theorem KE {x y o c:Nat} (hx:x < 4294967296) (hy:y < 4294967296) (ho:o < 4294967296) (hc:c < 4294967296):x*y+o+c < 18446744073709551616:=by
 have:x*y≤4294967295*4294967295:=Nat.mul_le_mul (by omega) (by omega)
 omega
theorem vT {x:Nat} (hx:x < 4294967296):∀ (bs s:List Nat) (c:Nat),Lb bs→Lb s→c < 4294967296→(mi x c bs s).2 < 4294967296
 | [],s,c,_,_,hc=>by simpa [mi] using hc
 | y::bs,[],c,_,_,hc=>by simpa [mi] using hc
 | y::bs,o::s,c,hb,hs,hc=>by
  simp only [mi]
  have:=KE hx (dh.1 hb).1 (dh.1 hs).1 hc
  exact vT hx bs s _ (dh.1 hb).2 (dh.1 hs).2 (by omega)
theorem Sa (x:Nat):∀ (bs s:List Nat) (c:Nat),bs.length=s.length→ab (mi x c bs s).1+4294967296 ^ s.length*(mi x c bs s).2=ab s+x*ab bs+c
 | [],[],c,_=>by simp [mi,ab]
 | [],o::s,c,h=>by simp at h
 | y::bs,[],c,h=>by simp at h
 | y::bs,o::s,c,h=>by
  have ih:=Sa x bs s ((x*y+o+c) / 4294967296) (by simpa using h)
  simp only [mi,ab,List.length_cons,Nat.pow_succ]
  have e1:4294967296 ^ s.length*4294967296*(mi x ((x*y+o+c) / 4294967296) bs s).2=4294967296*(4294967296 ^ s.length*(mi x ((x*y+o+c) / 4294967296) bs s).2):=by
   rw [Nat.mul_comm (4294967296 ^ s.length) 4294967296,Nat.mul_assoc]
  have e2:x*(y+4294967296*ab bs)=x*y+4294967296*(x*ab bs):=by
   rw [Nat.mul_add]
   congr 1
   rw [← Nat.mul_assoc,Nat.mul_comm x,Nat.mul_assoc]
  rw [e1,e2]
  omega
theorem PK {a b:List Nat} (hb:Lb b) {x i n:Nat} (hx:x < 4294967296) (h2:b.length≤100000) (hi:i≤100000):∀ (bs:List Nat) (k:Nat) (D S:List Nat) (c:Nat),b.drop k=bs→k≤b.length→D.length=i+k→bs.length≤S.length→(D++S).length=n→Lb S→c < 4294967296 →
  ∀ (s:am) (h:ac),s 18=lm a→s 19=I (a.length:Nat)→s 20=I i→s 1=lm b→s 5 = .rsl 17 none 1 0 n→s 6=I i→s 7=U x→s 8=W c→s 25=lm b→s 26=I (b.length:Nat)→s 27=I k→h 17 = .ar 1 (aE (D++S)) →
  au 2 [1,5,6,8,18,19,20] (aq (ak R (ae false) jL) [1,5,6,7,8,18,19,20,25,26,27] [17] s h) =
   some (.normal,⟨upd (upd (upd (upd (upd (upd (upd (fun _ => .any) 20 (I i)) 19 (I (a.length:Nat))) 18 (lm a)) 8 (W ((mi x c bs S).2:Nat))) 6 (I i)) 5 (.rsl 17 none 1 0 n)) 1 (lm b),upd (fun _ => .dead) 17 (.ar 1 (aE (D++(mi x c bs S).1)))⟩):=by
 intro bs
 induction bs with
 | nil =>
  intro k D S c hd hk hD hS hn hLS hc s h h18 h19 h20 h1 h5 h6 h7 h8 h25 h26 h27 hh
  have:k=b.length:=by
   have:=congrArg List.length hd
   simp at this
   omega
  subst this
  rw [ao]
  simp only [jL,go_sem,↓reduceIte,amO,amT,h18,h19,h20,h1,h5,h6,h7,h8,h25,h26,h27,hh,Int.lt_irrefl,mi]
 | cons y bs ih =>
  intro k D S c hd hk hD hS hn hLS hc s h h18 h19 h20 h1 h5 h6 h7 h8 h25 h26 h27 hh
  obtain ⟨o,S,rfl⟩:∃ o S',S=o::S':=by
   cases S with
   | nil=>simp at hS
   | cons o S=>exact ⟨o,S,rfl⟩
  have hlt:k < b.length:=by
   have:=congrArg List.length hd
   simp at this
   omega
  have hy:b.getD k 0=y:=by
   have:=congrArg (·[0]?) hd
   simp only [List.getElem?_drop,Nat.add_zero,List.getElem?_cons_zero] at this
   rw [List.getD_eq_getElem?_getD,this]
   rfl
  have hyb:y < 4294967296:=by rw [← hy]; exact bd hb k
  have hob:o < 4294967296:=(dh.1 hLS).1
  have hml:=KE hx hyb hob hc
  have hxy:x*y < 18446744073709551616:=by omega
  have ih':=ih (k+1) (D++[(x*y+o+c) % 4294967296]) S ((x*y+o+c) / 4294967296) (by rw [← List.drop_drop,hd]; rfl) hlt (by simp [hD]; omega) (by simpa using hS) (by simpa using hn) (dh.1 hLS).2 (by omega)
  have e1:((k:Int) < (b.length:Int))=True:=tt (by omega)
  have e2:aV (aE b) (k:Int)=some (.ipt [U (y:Nat)]):=by rw [aX rfl hlt,hy]
  have e3:IntKind.i64.wrap ((k:Int)+1)=((k+1:Nat):Int):=wi (by omega) (by omega)
  have e4:IntKind.i64.wrap ((i:Int)+(k:Int))=((i+k:Nat):Int):=wi (by omega) (by omega)
  have e5:(0≤((i+k:Nat):Int))=True:=tt (by omega)
  have hin:i+k < n:=by rw [← hn]; simp [hD]
  have e6:(((i+k:Nat):Int) < (n:Int))=True:=tt (by omega)
  have e7:(aE (D++o::S))[i+k]?=some [U (o:Nat)]:=by
   rw [kl (by simp [hD])]
   simp [List.getD_eq_getElem?_getD,hD]
  have f1:IntKind.u64.wrap (x:Int)=x:=cf rfl (by omega)
  have f2:IntKind.u64.wrap (y:Int)=y:=cf rfl (by omega)
  have f3:IntKind.u64.wrap ((x:Int)*(y:Int))=((x*y:Nat):Int):=cf (by simp) hxy
  have f4:IntKind.u64.wrap (o:Int)=o:=cf rfl (by omega)
  have f5:IntKind.u64.wrap (((x*y:Nat):Int)+(o:Int))=((x*y+o:Nat):Int):=cf (by omega) (by omega)
  have f6:IntKind.u64.wrap (((x*y+o:Nat):Int)+(c:Int))=((x*y+o+c:Nat):Int):=cf (by omega) (by omega)
  have f7:IntKind.u32.wrap ((x*y+o+c:Nat):Int)=(((x*y+o+c) % 4294967296:Nat):Int):=FF rfl
  have f8:=gW (n:=x*y+o+c) (k:=32) (kk := .u64) (j:=32) rfl rfl (by omega)
  have f9:(aE (D++o::S)).set (i+k) [U ((x*y+o+c) % 4294967296:Nat)]=aE (D++[(x*y+o+c) % 4294967296]++S):=by
   rw [km,← hD,List.set_append_right _ _ (Nat.le_refl _)]
   simp
  rw [ao]
  generalize aq _ _ _=L at ih' ⊢
  simp only [jL,go_sem,↓reduceIte,amO,amR,amT,h18,h19,h20,h1,h5,h6,h7,h8,h25,h26,h27,hh,e1,e2,e3,e4,e5,e6,e7,f1,f2,f3,f4,f5,f6,f7,f8,f9,Int.toNat_natCast,Nat.zero_add,mi]
  rw [ih' _ _ rfl rfl rfl rfl rfl rfl rfl rfl rfl rfl rfl rfl]
  simp only [List.append_assoc,List.singleton_append]
def aT (a b:List Nat) (i:Nat):List Nat:=bI (i+b.length) (ab (a.take i)*ab b)
theorem GW {a b:List Nat} (ha:Lb a) (hb:Lb b) {i:Nat} (hi:i < a.length) :
  (aT a b i).take i++((mi (a.getD i 0) 0 b ((aT a b i).drop i)).1++[(mi (a.getD i 0) 0 b ((aT a b i).drop i)).2])=aT a b (i+1):=by
 have hx:=bd ha i
 have hP:(aT a b i).length=i+b.length:=bk _ _
 have hLP:Lb (aT a b i):=gC _ _
 have hS:((aT a b i).drop i).length=b.length:=by simp [hP]
 have h1:=Sa (a.getD i 0) b ((aT a b i).drop i) 0 hS.symm
 have h2:=vT hx b ((aT a b i).drop i) 0 hb (mf hLP i) (by omega)
 have h3:=VC (a.getD i 0) b ((aT a b i).drop i) 0 (mf hLP i)
 have h4:=tw (a.getD i 0) b ((aT a b i).drop i) 0
 have hvP:ab (aT a b i)=ab (a.take i)*ab b:=by
  unfold aT
  rw [et,Nat.mod_eq_of_lt]
  have e1:=bC (jg ha i)
  have e2:=bC hb
  rw [List.length_take,Nat.min_eq_left (by omega)] at e1
  rw [Nat.pow_add]
  exact Nat.mul_lt_mul'' e1 e2
 have hsplit:ab (aT a b i)=ab ((aT a b i).take i)+4294967296 ^ i*ab ((aT a b i).drop i):=by
  conv=>lhs; rw [← List.take_append_drop i (aT a b i)]
  rw [di,List.length_take,hP,Nat.min_eq_left (by omega)]
 have hLb:Lb ((aT a b i).take i++((mi (a.getD i 0) 0 b ((aT a b i).drop i)).1++[(mi (a.getD i 0) 0 b ((aT a b i).drop i)).2])) :=
  iv.2 ⟨jg hLP i,iv.2 ⟨h3,dh.2 ⟨h2,sx⟩⟩⟩
 have hval:ab ((aT a b i).take i++((mi (a.getD i 0) 0 b ((aT a b i).drop i)).1++[(mi (a.getD i 0) 0 b ((aT a b i).drop i)).2]))=ab (a.take (i+1))*ab b:=by
  rw [di,di,List.length_take,hP,Nat.min_eq_left (by omega),h4,dX a i,Nat.add_mul,← hvP,hsplit]
  simp only [ab,Nat.mul_zero,Nat.add_zero] at h1 ⊢
  rw [h1,Nat.mul_add,Nat.mul_assoc]
  omega
 have hlen:((aT a b i).take i++((mi (a.getD i 0) 0 b ((aT a b i).drop i)).1++[(mi (a.getD i 0) 0 b ((aT a b i).drop i)).2])).length=i+1+b.length:=by
  simp only [List.length_append,List.length_take,hP,h4,hS,List.length_cons,List.length_nil]
  omega
 have:=pn hLb
 rw [hlen,hval] at this
 exact this.symm
theorem Uk {a b:List Nat} (ha:Lb a) (hb:Lb b) (h1:a.length≤100000) (h2:b.length≤100000):∀ (k i:Nat),i+k=a.length→∀ (s:am) (h:ac),s 1=lm b→s 5 = .rsl 17 none 1 0 (a.length+b.length) →
  s 18=lm a→s 19=I (a.length:Nat)→s 20=I i→h 17 = .ar 1 (aE (aT a b i++List.replicate k 0)) →
  au 0 [5] (aq (ak R (ae false) jM) [1,5,18,19,20] [17] s h) =
   some (.normal,⟨upd (fun _ => .any) 5 (.rsl 17 none 1 0 (a.length+b.length)),upd (fun _ => .dead) 17 (.ar 1 (aE (aT a b a.length)))⟩):=by
 intro k
 induction k with
 | zero =>
  intro i hi s h h1 h5 h18 h19 h20 hh
  have:i=a.length:=by omega
  subst this
  rw [ao]
  simp only [List.replicate_zero,List.append_nil] at hh
  simp only [jM,go_sem,↓reduceIte,amO,amT,h1,h5,h18,h19,h20,hh,Int.lt_irrefl]
 | succ k ih =>
  intro i hi s h g1 h5 h18 h19 h20 hh
  have ih':=ih (i+1) (by omega)
  have hx:=bd ha i
  have hP:(aT a b i).length=i+b.length:=bk _ _
  have hLP:Lb (aT a b i):=gC _ _
  have hsp:aT a b i++List.replicate (k+1) 0=(aT a b i).take i++((aT a b i).drop i++List.replicate (k+1) 0):=by rw [← List.append_assoc,List.take_append_drop]
  have e1:((i:Int) < (a.length:Int))=True:=tt (by omega)
  have e2:aV (aE a) (i:Int)=some (.ipt [U (a.getD i 0:Nat)]):=aX rfl (by omega)
  have e3:IntKind.i64.wrap ((i:Int)+1)=((i+1:Nat):Int):=wi (by omega) (by omega)
  have e4:IntKind.i64.wrap ((i:Int)+(b.length:Int))=((i+b.length:Nat):Int):=wi (by omega) (by omega)
  have e5:(0≤((i+b.length:Nat):Int))=True:=tt (by omega)
  have e6:(((i+b.length:Nat):Int) < ((a.length+b.length:Nat):Int))=True:=tt (by omega)
  have lp:=PK (a:=a) hb (x:=a.getD i 0) (i:=i) (n:=a.length+b.length) hx h2 (by omega) b 0 ((aT a b i).take i) ((aT a b i).drop i++List.replicate (k+1) 0) 0 rfl (Nat.zero_le _) (by simp [hP]) (by simp [hP]) (by simp [hP]; omega)
   (iv.2 ⟨mf hLP i,fun y hy=>by rw [List.eq_of_mem_replicate hy]; omega⟩) (by omega)
  rw [KD _ _ _ _ _ (by simp [hP])] at lp
  have ml:(mi (a.getD i 0) 0 b ((aT a b i).drop i)).1.length=b.length:=by rw [tw]; simp [hP]
  have mc:=vT hx b ((aT a b i).drop i) 0 hb (mf hLP i) (by omega)
  have ps:=GW ha hb (show i < a.length from by omega)
  rw [hsp] at hh
  generalize mi (a.getD i 0) 0 b ((aT a b i).drop i)=r at *
  have f1:IntKind.u32.wrap (r.2:Int)=(r.2:Int):=nN rfl mc
  have hlen:((aT a b i).take i++r.1).length=i+b.length:=by simp [hP,ml]
  have e7:(aE ((aT a b i).take i++(r.1++List.replicate (k+1) 0)))[i+b.length]?=some [U (0:Nat)]:=by
   rw [← List.append_assoc,kl (by simp [hP,ml]),List.getD_eq_getElem?_getD,List.getElem?_append_right (by omega)]
   simp [hlen]
  have e8:(aE ((aT a b i).take i++(r.1++List.replicate (k+1) 0))).set (i+b.length) [U (r.2:Nat)]=aE (aT a b (i+1)++List.replicate k 0):=by
   rw [← List.append_assoc,km]
   have:=py ((aT a b i).take i++r.1) (k+1) r.2 0 (by omega)
   rw [hlen] at this
   have e:(aT a b i).take i++r.1++[r.2]=aT a b (i+1):=by rw [List.append_assoc]; exact ps
   rw [this,e]
   rfl
  rw [ao]
  generalize aq _ _ _=L at ih' ⊢
  simp only [jM,go_sem,↓reduceIte,amO,amT,g1,h5,h18,h19,h20,hh,e1,e2]
  rw [lp _ _ rfl rfl rfl rfl rfl rfl rfl rfl rfl rfl rfl rfl]
  simp only [go_sem,↓reduceIte,amO,amR,e3,e4,e5,e6,e7,e8,f1,Int.toNat_natCast,Nat.zero_add]
  exact ih' _ _ rfl rfl rfl rfl rfl rfl
theorem YE {a b:List Nat} (ha:Lb a) (hb:Lb b) (h1:a.length≤100000) (h2:b.length≤100000):R F.natural_mul [lm a,lm b] []=some (lm (bI (a.length+b.length) (ab a*ab b)),[]):=by
 refine av H5 H4 (BD false) rfl ?_
 have e1:IntKind.i64.wrap ((a.length:Int)+(b.length:Int))=((a.length+b.length:Nat):Int):=wi (by omega) (by omega)
 have e2:=jo (i:=((a.length+b.length:Nat):Int)) (j:=((a.length+b.length:Nat):Int)) rfl rfl (Nat.le_refl _) (by omega)
 have e3:((a.length+b.length)*4≤140737488355328)=True:=tt (by omega)
 have e4:=Uk ha hb h1 h2 a.length 0 (by omega)
 have e0:aT a b 0=List.replicate b.length 0:=by
  have:∀ n,bI n 0=List.replicate n 0:=fun n=>by
   induction n with
   | zero=>rfl
   | succ n ih=>simp [bI,ih,List.replicate_succ]
  simp [aT,ab,this]
 have e5:aE (List.replicate (a.length+b.length) 0)=aE (aT a b 0++List.replicate a.length 0):=by
  rw [e0,List.replicate_append_replicate,Nat.add_comm]
 have e6:aT a b a.length=bI (a.length+b.length) (ab a*ab b):=by rw [aT,List.take_length]
 simp only [l7,wK,go_sem,↓reduceIte,amO,e1,e2,e3,nM,e5]
 rw [e4 _ _ rfl rfl rfl rfl rfl rfl]
 simp only [go_sem,↓reduceIte,amR,amS,e6,bk,Nat.zero_add,Nat.le_refl]
theorem Sb {a b:List Nat} (ha:Lb a) (hb:Lb b) (h1:a.length≤256) (h2:b.length≤256):R F.natural_Mul [lm a,lm b] []=some (fj (ab a*ab b),[]):=by
 refine av HX HW (Bw false) rfl ?_
 have e1:(256 < a.length)=False:=ff (by omega)
 have e2:(256 < b.length)=False:=ff (by omega)
 have la:=bN a ha
 have lb:=bN b hb
 have e3:=YE (aM (ab a)) (aM (ab b)) (by omega) (by omega)
 rw [aF,aF] at e3
 have e4:=uV (gC ((ap (ab a)).length+(ap (ab b)).length) (ab a*ab b)) (by rw [bk]; omega)
 rw [et,Nat.mod_eq_of_lt (by rw [Nat.pow_add]; exact Nat.mul_lt_mul'' (hR _) (hR _))] at e4
 unfold fj at e4 ⊢
 by_cases hl:256 < (ap (ab a*ab b)).length
 ·simp only [hl,if_true] at e4 ⊢
  simp only [iY,qK,go_sem,↓reduceIte,amO,amQ,amP,amR,amS,e1,e2,nw,dj ha (by omega),dj hb (by omega),e3,e4]
 ·simp only [hl,if_false] at e4 ⊢
  simp only [iY,qK,go_sem,↓reduceIte,amO,amQ,amP,amR,amS,e1,e2,nw,dj ha (by omega),dj hb (by omega),e3,e4]
end Go.Ab
namespace Go.Ab
open Go Go.IntWalk
set_option maxRecDepth 4000
theorem nO {n m:Nat} {i j:Int} (hi:i=n) (hj:j=m) (hm:m ≠ 0):cU .rem (.v (.int .i64 i)) (.v (.int .i64 j))=some (.v (.int .i64 ((n % m:Nat):Int))):=by
 subst hi hj
 rw [Nx,if_neg (by omega),Int.tmod_eq_emod_of_nonneg (by omega)]
 rfl
theorem mn {n m:Nat} {i j:Int} (hi:i=n) (hj:j=m) (hm:m ≠ 0) (hn:n < 9223372036854775808):cU .quo (.v (.int .i64 i)) (.v (.int .i64 j))=some (.v (.int .i64 ((n / m:Nat):Int))):=by
 subst hi hj
 rw [VY,if_neg (by omega),Int.tdiv_eq_ediv_of_nonneg (by omega)]
 have:n / m≤n:=Nat.div_le_self _ _
 rw [wi (n:=n / m) (by simp) (by omega)]
theorem zm {n k:Nat} {i:Int} {kk:IntKind} {j:Int} (hi:i=n) (hj:j=k) (hk:k≤64) (h:n*2 ^ k < 18446744073709551616):cU .shl (.v (.int .u64 i)) (.v (.int kk j))=some (.v (.int .u64 ((n*2 ^ k:Nat):Int))):=by
 subst hi hj
 rw [VZ,if_neg (by omega)]
 have:min (k:Int).toNat IntKind.u64.bits=k:=by simp [IntKind.bits]; omega
 rw [this,cf (n:=n*2 ^ k) (by simp) h]
theorem PL {m n:Nat} {i j:Int} (hi:i=m) (hj:j=n) (hm:m < 18446744073709551616) (hn:n < 18446744073709551616):cU .or (.v (.int .u64 i)) (.v (.int .u64 j))=some (.v (.int .u64 ((m ||| n:Nat):Int))):=by
 subst hi hj
 rw [Rc]
 have e:(BitVec.ofInt IntKind.u64.bits (m:Int) ||| BitVec.ofInt IntKind.u64.bits (n:Int)).toNat=m ||| n:=by
  show (BitVec.ofInt 64 (m:Int) ||| BitVec.ofInt 64 (n:Int)).toNat=m ||| n
  rw [BitVec.toNat_or]
  simp
  rw [Nat.mod_eq_of_lt hm,Nat.mod_eq_of_lt hn]
 rw [e]
 rw [cf rfl (Nat.or_lt_two_pow (n:=64) hm hn)]
theorem yw {x c k:Nat} (hc:c < 2 ^ k):x*2 ^ k ||| c=x*2 ^ k+c:=by
 have:=Nat.shiftLeft_add_eq_or_of_lt hc x
 rw [Nat.shiftLeft_eq] at this
 exact this.symm
def bP (a:List Nat) (r:Nat):Nat→Nat
 | 0=>0
 | i+1=>(a.getD i 0*2 ^ r+bP a r i) / 4294967296
def eD (a:List Nat) (r i:Nat):List Nat:=(List.range i).map fun j=>(a.getD j 0*2 ^ r+bP a r j) % 4294967296
theorem qv {a:List Nat} (ha:Lb a) {r:Nat}:∀ i,bP a r i < 2 ^ r
 | 0=>by simp only [bP]; exact Nat.two_pow_pos r
 | i+1=>by
  have ih:=qv ha (r:=r) i
  have:=bd ha i
  simp only [bP]
  rw [Nat.div_lt_iff_lt_mul (by omega)]
  have h1:a.getD i 0*2 ^ r+2 ^ r≤4294967296*2 ^ r:=by
   rw [← Nat.succ_mul]
   exact Nat.mul_le_mul_right _ (by omega)
  rw [Nat.mul_comm 4294967296] at h1
  omega
theorem iw (a:List Nat) (r i:Nat):(eD a r i).length=i:=by simp [eD]
theorem YF (a:List Nat) (r i:Nat):Lb (eD a r i):=fun x hx=>by
 simp only [eD,List.mem_map] at hx
 obtain ⟨j,_,rfl⟩:=hx
 omega
theorem NH (a:List Nat) (r:Nat):∀ i,ab (eD a r i)+4294967296 ^ i*bP a r i=ab (a.take i)*2 ^ r
 | 0=>by simp [eD,bP,ab]
 | i+1=>by
  have ih:=NH a r i
  rw [dX a i]
  simp only [eD] at ih ⊢
  rw [sD,Nat.pow_succ]
  have e:bP a r (i+1)*4294967296+(a.getD i 0*2 ^ r+bP a r i) % 4294967296=a.getD i 0*2 ^ r+bP a r i:=by
   simp only [bP]
   omega
  have h1:4294967296 ^ i*(bP a r (i+1)*4294967296+(a.getD i 0*2 ^ r+bP a r i) % 4294967296)=4294967296 ^ i*(a.getD i 0*2 ^ r+bP a r i):=by rw [e]
  simp only [Nat.mul_add] at h1
  have h2:4294967296 ^ i*4294967296*bP a r (i+1)=4294967296 ^ i*(bP a r (i+1)*4294967296):=by rw [Nat.mul_assoc,Nat.mul_comm 4294967296]
  have h3:(ab (a.take i)+4294967296 ^ i*a.getD i 0)*2 ^ r=ab (a.take i)*2 ^ r+4294967296 ^ i*(a.getD i 0*2 ^ r):=by rw [Nat.add_mul,Nat.mul_assoc]
  omega
theorem Ul {a:List Nat} (ha:Lb a) {n q:Nat} (h1:a.length≤100000) (hq:q≤100000):∀ (k i:Nat),i+k=a.length→∀ (s:am) (h:ac),s 1=I (n:Nat)→s 5 = .rsl 20 none 1 0 (q+i)→s 6=W (bP a (n % 32) i:Nat)→s 21=lm a→s 22=I (a.length:Nat)→s 23=I i →
  h 20 = .ar 1 (aE (List.replicate q 0++eD a (n % 32) i))→h 38 = .dead →
  au 0 [5,6] (aq (ak R (ae false) jN) [1,5,6,21,22,23] [20,38] s h) =
   some (.normal,⟨upd (upd (fun _ => .any) 6 (W (bP a (n % 32) a.length:Nat))) 5 (.rsl 20 none 1 0 (q+a.length)),upd (upd (fun _ => .dead) 38 .dead) 20 (.ar 1 (aE (List.replicate q 0++eD a (n % 32) a.length)))⟩):=by
 intro k
 induction k with
 | zero =>
  intro i hi s h g1 h5 h6 h21 h22 h23 hh hh2
  have:i=a.length:=by omega
  subst this
  rw [ao]
  simp only [jN,go_sem,↓reduceIte,amO,amT,g1,h5,h6,h21,h22,h23,hh,hh2,Int.lt_irrefl]
 | succ k ih =>
  intro i hi s h g1 h5 h6 h21 h22 h23 hh hh2
  have ih':=ih (i+1) (by omega)
  have hx:=bd ha i
  have hr:n % 32 < 32:=Nat.mod_lt _ (by omega)
  have hc:=qv ha (r:=n % 32) i
  have hp:2 ^ (n % 32)≤2 ^ 31:=Nat.pow_le_pow_right (by omega) (by omega)
  have hxp:a.getD i 0*2 ^ (n % 32)≤4294967295*2 ^ 31:=Nat.mul_le_mul (by omega) hp
  have e1:((i:Int) < (a.length:Int))=True:=tt (by omega)
  have e2:aV (aE a) (i:Int)=some (.ipt [U (a.getD i 0:Nat)]):=aX rfl (by omega)
  have e3:IntKind.i64.wrap ((i:Int)+1)=((i+1:Nat):Int):=wi (by omega) (by omega)
  have e4:IntKind.u64.wrap (a.getD i 0:Int)=(a.getD i 0:Int):=cf rfl (by omega)
  have e5:=nO (n:=n) (m:=32) (j:=32) rfl rfl (by omega)
  have e6:=zm (n:=a.getD i 0) (k:=n % 32) (kk := .i64) rfl rfl (by omega) (by omega)
  have e7:=PL (m:=a.getD i 0*2 ^ (n % 32)) (n:=bP a (n % 32) i) rfl rfl (by omega) (by omega)
  rw [yw hc] at e7
  have e8:IntKind.u32.wrap ((a.getD i 0*2 ^ (n % 32)+bP a (n % 32) i:Nat):Int)=(((a.getD i 0*2 ^ (n % 32)+bP a (n % 32) i) % 4294967296:Nat):Int):=FF rfl
  have e9:=gW (n:=a.getD i 0*2 ^ (n % 32)+bP a (n % 32) i) (k:=32) (kk := .u64) (j:=32) rfl rfl (by omega)
  have f1:aE (List.replicate q 0++eD a (n % 32) i)++[[U ((a.getD i 0*2 ^ (n % 32)+bP a (n % 32) i) % 4294967296:Nat)]]=aE (List.replicate q 0++eD a (n % 32) (i+1)):=by
   rw [show [[U ((a.getD i 0*2 ^ (n % 32)+bP a (n % 32) i) % 4294967296:Nat)]]=aE [(a.getD i 0*2 ^ (n % 32)+bP a (n % 32) i) % 4294967296] from rfl,rA,List.append_assoc]
   simp [eD,List.range_succ]
  have f2:(q+i=(List.replicate q 0++eD a (n % 32) i).length)=True:=tt (by simp [iw])
  have f3:((q+i+1)*4≤140737488355328)=True:=tt (by omega)
  rw [ao]
  generalize aq _ _ _=L at ih' ⊢
  simp only [jN,go_sem,↓reduceIte,amO,amR,amS,amT,g1,h5,h6,h21,h22,h23,hh,hh2,e1,e2,e3,e4,e5,e6,e7,e8,e9,f1,f2,f3,true_or,Nat.zero_add,Nat.le_refl]
  exact ih' _ _ rfl rfl rfl rfl rfl rfl rfl rfl
theorem jp (n:Nat):4294967296 ^ (n / 32)*2 ^ (n % 32)=2 ^ n:=by
 rw [show (4294967296:Nat)=2 ^ 32 from rfl,← Nat.pow_mul,← Nat.pow_add]
 congr 1
 omega
theorem FH {a:List Nat} (ha:Lb a) (n:Nat):List.replicate (n / 32) 0++eD a (n % 32) a.length++[bP a (n % 32) a.length]=bI (n / 32+a.length+1) (ab a*2 ^ n):=by
 have hr:n % 32 < 32:=Nat.mod_lt _ (by omega)
 have hc:=qv ha (r:=n % 32) a.length
 have hp:2 ^ (n % 32)≤2 ^ 31:=Nat.pow_le_pow_right (by omega) (by omega)
 have h:=NH a (n % 32) a.length
 rw [List.take_length] at h
 have hLb:Lb (List.replicate (n / 32) 0++eD a (n % 32) a.length++[bP a (n % 32) a.length]) :=
  iv.2 ⟨iv.2 ⟨fun y hy=>by rw [List.eq_of_mem_replicate hy]; omega,YF _ _ _⟩,dh.2 ⟨by omega,sx⟩⟩
 have hv:ab (List.replicate (n / 32) 0++eD a (n % 32) a.length++[bP a (n % 32) a.length])=ab a*2 ^ n:=by
  rw [List.append_assoc,di,GU,di,iw,List.length_replicate]
  simp only [ab,Nat.mul_zero,Nat.add_zero,Nat.zero_add]
  rw [h,← jp n,Nat.mul_left_comm]
 have:=pn hLb
 rw [hv] at this
 rw [← this]
 congr 1
 simp [iw]
 omega
theorem Sc {a:List Nat} (ha:Lb a) {n:Nat} (h1:a.length≤100000) (hn:n≤65536):R F.natural_shl [lm a,I n] []=some (lm (bI (n / 32+(ap (ab a)).length+1) (ab a*2 ^ n)),[]):=by
 refine av Is Ir (BS false) rfl ?_
 have la:=bN a ha
 have hc:=qv (aM (ab a)) (r:=n % 32) (ap (ab a)).length
 have hp:2 ^ (n % 32)≤2 ^ 31:=Nat.pow_le_pow_right (by omega) (by have:n % 32 < 32:=Nat.mod_lt _ (by omega); omega)
 have e1:=mn (n:=n) (m:=32) (j:=32) rfl rfl (by omega) (by omega)
 have e2:IntKind.i64.wrap (((n / 32:Nat):Int)+((ap (ab a)).length:Int))=((n / 32+(ap (ab a)).length:Nat):Int):=wi (by omega) (by omega)
 have e3:IntKind.i64.wrap (((n / 32+(ap (ab a)).length:Nat):Int)+1)=((n / 32+(ap (ab a)).length+1:Nat):Int):=wi (by omega) (by omega)
 have e4:=jo (i:=((n / 32:Nat):Int)) (j:=((n / 32+(ap (ab a)).length+1:Nat):Int)) rfl rfl (by omega) (by omega)
 have e5:((n / 32+(ap (ab a)).length+1)*4≤140737488355328)=True:=tt (by omega)
 have e6:=Ul (aM (ab a)) (n:=n) (q:=n / 32) (by omega) (by omega) (ap (ab a)).length 0 (by omega)
 have e7:aE (List.replicate (n / 32) 0)=aE (List.replicate (n / 32) 0++eD (ap (ab a)) (n % 32) 0):=by simp [eD]
 have e8:IntKind.u32.wrap ((bP (ap (ab a)) (n % 32) (ap (ab a)).length:Nat):Int)=((bP (ap (ab a)) (n % 32) (ap (ab a)).length:Nat):Int):=nN rfl (by omega)
 have f1:aE (List.replicate (n / 32) 0++eD (ap (ab a)) (n % 32) (ap (ab a)).length)++[[U (bP (ap (ab a)) (n % 32) (ap (ab a)).length:Nat)]]=aE (bI (n / 32+(ap (ab a)).length+1) (ab a*2 ^ n)):=by
  have:=FH (aM (ab a)) n
  rw [aF] at this
  rw [← this,show [[U (bP (ap (ab a)) (n % 32) (ap (ab a)).length:Nat)]]=aE [bP (ap (ab a)) (n % 32) (ap (ab a)).length] from rfl,rA]
 have f2:(n / 32+(ap (ab a)).length=(List.replicate (n / 32) 0++eD (ap (ab a)) (n % 32) (ap (ab a)).length).length)=True:=tt (by simp [iw])
 simp only [l9,wQ,go_sem,↓reduceIte,amO,amQ,amP,dj ha (by omega),e1,e2,e3,e4,e5,nM,e7]
 rw [e6 _ _ rfl rfl rfl rfl rfl rfl rfl rfl]
 simp only [go_sem,↓reduceIte,amO,amR,amS,e8,f1,f2,e5,true_or,Nat.zero_add,Nat.le_refl,bk]
theorem Sd {a:List Nat} (ha:Lb a) {n:Int} (h1:a.length≤256):R F.natural_Shl [lm a,I n] []=some (if n < 0∨65536 < n then .tup [lm [],I 2] else fj (ab a*2 ^ n.toNat),[]):=by
 refine av Ii Ih (BJ false) rfl ?_
 have e1:(256 < a.length)=False:=ff (by omega)
 by_cases hn:n < 0
 ·simp only [eX,j4,go_sem,↓reduceIte,amO,amQ,amP,amR,amS,e1,jR,hn,true_or]
 by_cases hn2:65536 < n
 ·simp only [eX,j4,go_sem,↓reduceIte,amO,amQ,amP,amR,amS,e1,jR,hn,hn2,or_true]
 obtain ⟨m,rfl⟩:=Int.eq_ofNat_of_zero_le (show 0≤n by omega)
 have la:=bN a ha
 have e3:ab (bI (m / 32+(ap (ab a)).length+1) (ab a*2 ^ m))=ab a*2 ^ m:=by
  rw [et,Nat.mod_eq_of_lt]
  have h:=hR (ab a)
  have h2:2 ^ m≤4294967296 ^ (m / 32+1):=by
   rw [show (4294967296:Nat)=2 ^ 32 from rfl,← Nat.pow_mul]
   exact Nat.pow_le_pow_right (by omega) (by omega)
  rw [show m / 32+(ap (ab a)).length+1=(ap (ab a)).length+(m / 32+1) from by omega,Nat.pow_add]
  exact Nat.mul_lt_mul_of_lt_of_le h h2 (Nat.pow_pos (by omega))
 have e4:=uV (gC (m / 32+(ap (ab a)).length+1) (ab a*2 ^ m)) (by rw [bk]; omega)
 rw [e3] at e4
 unfold fj at e4 ⊢
 by_cases hl:256 < (ap (ab a*2 ^ m)).length
 ·simp only [hl,if_true] at e4
  simp only [eX,j4,go_sem,↓reduceIte,amO,amQ,amP,amR,amS,e1,jR,hn,hn2,Sc ha (n:=m) (by omega) (by omega),e4,or_false,Int.toNat_natCast,hl]
 ·simp only [hl,if_false] at e4
  simp only [eX,j4,go_sem,↓reduceIte,amO,amQ,amP,amR,amS,e1,jR,hn,hn2,Sc ha (n:=m) (by omega) (by omega),e4,or_false,Int.toNat_natCast,hl]
theorem ny {l:List Nat} (h:Lb l) (i:Nat):ab (l.drop i)=ab l / 4294967296 ^ i:=by
 rcases Nat.lt_or_ge l.length i with hi | hi
 ·rw [List.drop_of_length_le (by omega)]
  have:=bC h
  have h2:4294967296 ^ l.length≤4294967296 ^ i:=Nat.pow_le_pow_right (by omega) (by omega)
  rw [Nat.div_eq_of_lt (by omega)]
  rfl
 ·have h1:ab l=ab (l.take i)+4294967296 ^ i*ab (l.drop i):=by
   conv=>lhs; rw [← List.take_append_drop i l]
   rw [di,List.length_take,Nat.min_eq_left hi]
  have h2:=bC (jg h i)
  rw [List.length_take,Nat.min_eq_left hi] at h2
  rw [h1,Nat.add_mul_div_left _ _ (Nat.pow_pos (by omega)),Nat.div_eq_of_lt h2]
  omega
theorem dM (l:List Nat) (i:Nat):ab (l.drop i)=l.getD i 0+4294967296*ab (l.drop (i+1)):=by
 rcases Nat.lt_or_ge i l.length with hi | hi
 ·rw [List.drop_eq_getElem_cons hi,ab]
  simp [List.getD_eq_getElem?_getD,hi]
 ·rw [List.drop_of_length_le hi,List.drop_of_length_le (by omega)]
  simp [List.getD_eq_getElem?_getD,List.getElem?_eq_none hi,ab]
def iC (a:List Nat) (r i:Nat):Nat:=(a.getD i 0+4294967296*a.getD (i+1) 0) / 2 ^ r % 4294967296
theorem WA {a:List Nat} (ha:Lb a) {r:Nat} (hr:r≤32) (i:Nat):iC a r i=NG (ab a / 2 ^ r) i:=by
 unfold iC NG
 have e0:ab a / 2 ^ r / 4294967296 ^ i=ab (a.drop i) / 2 ^ r:=by rw [Nat.div_div_eq_div_mul,Nat.mul_comm,← Nat.div_div_eq_div_mul,← ny ha]
 rw [e0,dM a i,dM a (i+1)]
 generalize ab (a.drop (i+1+1))=w
 have e:(4294967296:Nat)=2 ^ r*2 ^ (32 - r):=by rw [← Nat.pow_add,show r+(32 - r)=32 from by omega]
 have h1:a.getD i 0+4294967296*(a.getD (i+1) 0+4294967296*w)=(a.getD i 0+4294967296*a.getD (i+1) 0)+2 ^ r*(2 ^ (32 - r)*4294967296*w):=by
  have:2 ^ r*(2 ^ (32 - r)*4294967296*w)=4294967296*4294967296*w:=by
   rw [← Nat.mul_assoc,← Nat.mul_assoc,← e]
  rw [this,Nat.mul_add]
  omega
 rw [h1,Nat.add_mul_div_left _ _ (Nat.two_pow_pos r),Nat.mul_assoc,Nat.mul_left_comm,Nat.add_mul_mod_self_left]
def dk (a:List Nat) (r i:Nat):List Nat:=(List.range i).map (iC a r)
theorem gt (a:List Nat) (r i:Nat):(dk a r i).length=i:=by simp [dk]
theorem BY {a:List Nat} (ha:Lb a) {r:Nat} (hr:r≤32):dk a r a.length=bI a.length (ab a / 2 ^ r):=by
 refine Ky (gt _ _ _) fun i hi => ?_
 rw [← WA ha hr]
 simp [dk,hi]
theorem Um {a:List Nat} (ha:Lb a) {n:Nat} (h1:a.length≤100000):∀ (k i:Nat),i+k=a.length→∀ (s:am) (h:ac),s 0=lm a→s 1=I (n:Nat)→s 5 = .rsl 22 none 1 0 a.length→s 23=lm a→s 24=I (a.length:Nat)→s 25=I i →
  h 22 = .ar 1 (aE (dk a (n % 32) i++List.replicate k 0)) →
  au 0 [5] (aq (ak R (ae false) gQ) [0,1,5,23,24,25] [22] s h) =
   some (.normal,⟨upd (fun _ => .any) 5 (.rsl 22 none 1 0 a.length),upd (fun _ => .dead) 22 (.ar 1 (aE (dk a (n % 32) a.length)))⟩):=by
 intro k
 induction k with
 | zero =>
  intro i hi s h h0 g1 h5 h23 h24 h25 hh
  have:i=a.length:=by omega
  subst this
  rw [ao]
  simp only [List.replicate_zero,List.append_nil] at hh
  simp only [gQ,go_sem,↓reduceIte,amO,amT,h0,g1,h5,h23,h24,h25,hh,Int.lt_irrefl]
 | succ k ih =>
  intro i hi s h h0 g1 h5 h23 h24 h25 hh
  have ih':=ih (i+1) (by omega)
  have hx:=bd ha i
  have hy:=bd ha (i+1)
  have hr:n % 32 < 32:=Nat.mod_lt _ (by omega)
  have e1:((i:Int) < (a.length:Int))=True:=tt (by omega)
  have e2:aV (aE a) (i:Int)=some (.ipt [U (a.getD i 0:Nat)]):=aX rfl (by omega)
  have e3:IntKind.i64.wrap ((i:Int)+1)=((i+1:Nat):Int):=wi (by omega) (by omega)
  have e4:IntKind.u64.wrap (a.getD i 0:Int)=(a.getD i 0:Int):=cf rfl (by omega)
  have e5:=nO (n:=n) (m:=32) (j:=32) rfl rfl (by omega)
  have e6:(0≤(i:Int))=True:=tt (by omega)
  have e7:(aE (dk a (n % 32) i++List.replicate (k+1) 0))[i]?=some [U (0:Nat)]:=by
   rw [kl (by simp [gt])]
   simp [List.getD_eq_getElem?_getD,gt]
  have e8:(aE (dk a (n % 32) i++List.replicate (k+1) 0)).set i [U (iC a (n % 32) i:Nat)]=aE (dk a (n % 32) (i+1)++List.replicate k 0):=by
   rw [km]
   have:=py (dk a (n % 32) i) (k+1) (iC a (n % 32) i) 0 (by omega)
   rw [gt] at this
   rw [this]
   simp [dk,List.range_succ]
  rw [ao]
  generalize aq _ _ _=L at ih' ⊢
  by_cases hl:i+1 < a.length
  ·have f1:(((i+1:Nat):Int) < (a.length:Int))=True:=tt (by omega)
   have f2:aV (aE a) ((i+1:Nat):Int)=some (.ipt [U (a.getD (i+1) 0:Nat)]):=aX rfl hl
   have f3:IntKind.u64.wrap (a.getD (i+1) 0:Int)=(a.getD (i+1) 0:Int):=cf rfl (by omega)
   have f4:=zm (n:=a.getD (i+1) 0) (k:=32) (kk := .u64) (j:=32) rfl rfl (by omega) (by omega)
   have f5:=PL (m:=a.getD i 0) (n:=a.getD (i+1) 0*2 ^ 32) rfl rfl (by omega) (by omega)
   rw [Nat.or_comm,yw (show a.getD i 0 < 2 ^ 32 from by omega)] at f5
   have f6:=gW (n:=a.getD (i+1) 0*2 ^ 32+a.getD i 0) (k:=n % 32) (kk := .i64) rfl rfl (by omega)
   have f7:IntKind.u32.wrap (((a.getD (i+1) 0*2 ^ 32+a.getD i 0) / 2 ^ (n % 32):Nat):Int)=((iC a (n % 32) i:Nat):Int):=by
    rw [FF rfl]
    unfold iC
    rw [show a.getD (i+1) 0*2 ^ 32+a.getD i 0=a.getD i 0+4294967296*a.getD (i+1) 0 from by omega]
   simp only [gQ,go_sem,↓reduceIte,amO,amR,amT,h0,g1,h5,h23,h24,h25,hh,e1,e2,e3,e4,e5,e6,e7,e8,f1,f2,f3,f4,f5,f6,f7,Int.toNat_natCast,Nat.zero_add]
   exact ih' _ _ rfl rfl rfl rfl rfl rfl rfl
  ·have f1:(((i+1:Nat):Int) < (a.length:Int))=False:=ff (by omega)
   have f2:a.getD (i+1) 0=0:=by simp [List.getD_eq_getElem?_getD,List.getElem?_eq_none (show a.length≤i+1 from by omega)]
   have f6:=gW (n:=a.getD i 0) (k:=n % 32) (kk := .i64) rfl rfl (by omega)
   have f7:IntKind.u32.wrap ((a.getD i 0 / 2 ^ (n % 32):Nat):Int)=((iC a (n % 32) i:Nat):Int):=by
    rw [FF rfl]
    unfold iC
    rw [f2]
    rfl
   simp only [gQ,go_sem,↓reduceIte,amO,amR,amT,h0,g1,h5,h23,h24,h25,hh,e1,e2,e3,e4,e5,e6,e7,e8,f1,f6,f7,Int.toNat_natCast,Nat.zero_add]
   exact ih' _ _ rfl rfl rfl rfl rfl rfl rfl
theorem YG {a:List Nat} (ha:Lb a) {n:Nat} (h1:a.length≤100000) (hn:n≤100000000):R F.natural_shr [lm a,I n] []=some (lm (bI ((ap (ab a)).length - n / 32) (ab a / 2 ^ n)),[]):=by
 refine av Im Il (BP false) rfl ?_
 have la:=bN a ha
 have e1:=mn (n:=n) (m:=32) (j:=32) rfl rfl (by omega) (by omega)
 by_cases hl:(ap (ab a)).length≤n / 32
 ·have e2:(((ap (ab a)).length:Int)≤((n / 32:Nat):Int))=True:=tt (by omega)
  have e3:bI ((ap (ab a)).length - n / 32) (ab a / 2 ^ n)=[]:=by rw [show (ap (ab a)).length - n / 32=0 from by omega]; rfl
  simp only [jc,qN,go_sem,↓reduceIte,amO,amQ,amP,dj ha (by omega),e1,e2,e3]
 ·have e2:(((ap (ab a)).length:Int)≤((n / 32:Nat):Int))=False:=ff (by omega)
  have hD:((ap (ab a)).drop (n / 32)).length=(ap (ab a)).length - n / 32:=by simp
  have hLD:Lb ((ap (ab a)).drop (n / 32)):=mf (aM _) _
  have e3:kU 1 (lm (ap (ab a))) (some (I (n / 32:Nat))) none none=some (lm ((ap (ab a)).drop (n / 32))):=by
   rw [uS (a:=n / 32) (b:=(ap (ab a)).length) (nv rfl (by omega)) rfl (Nat.le_refl _),List.take_of_length_le (by omega)]
  have hv:ab ((ap (ab a)).drop (n / 32)) / 2 ^ (n % 32)=ab a / 2 ^ n:=by
   rw [ny (aM _),aF,Nat.div_div_eq_div_mul,jp]
  have e6:=BY hLD (r:=n % 32) (by omega)
  rw [hv,hD] at e6
  generalize (ap (ab a)).drop (n / 32)=D at *
  have e4:=jo (i:=(D.length:Int)) (j:=(D.length:Int)) rfl rfl (Nat.le_refl _) (by omega)
  have e5:(D.length*4≤140737488355328)=True:=tt (by omega)
  have e7:=Um hLD (n:=n) (by omega) D.length 0 (by omega)
  have e8:aE (List.replicate D.length 0)=aE (dk D (n % 32) 0++List.replicate D.length 0):=by simp [dk]
  rw [← hD] at e6 ⊢
  simp only [jc,qN,go_sem,↓reduceIte,amO,amQ,amP,dj ha (by omega),e1,e2,e3,e4,e5,nM,e8]
  rw [e7 _ _ rfl rfl rfl rfl rfl rfl rfl]
  simp only [go_sem,↓reduceIte,amR,amS,e6,bk,Nat.zero_add,Nat.le_refl]
theorem Se {a:List Nat} (ha:Lb a) {n:Int} (h1:a.length≤256):R F.natural_Shr [lm a,I n] []=some (if n < 0∨65536 < n then .tup [lm [],I 2] else .tup [lm (ap (ab a / 2 ^ n.toNat)),I 0],[]):=by
 refine av H7 H6 (BG false) rfl ?_
 have e1:(256 < a.length)=False:=ff (by omega)
 by_cases hn:n < 0
 ·simp only [gz,m7,go_sem,↓reduceIte,amO,amQ,amP,amR,amS,e1,jR,hn,true_or]
 by_cases hn2:65536 < n
 ·simp only [gz,m7,go_sem,↓reduceIte,amO,amQ,amP,amR,amS,e1,jR,hn,hn2,or_true]
 obtain ⟨m,rfl⟩:=Int.eq_ofNat_of_zero_le (show 0≤n by omega)
 have la:=bN a ha
 have hlt:=hR (ab a)
 have h32:ab a / 2 ^ m < 4294967296 ^ ((ap (ab a)).length - m / 32):=by
  rw [Nat.div_lt_iff_lt_mul (Nat.two_pow_pos m),← jp m]
  refine Nat.lt_of_lt_of_le hlt ?_
  rw [← Nat.mul_assoc,← Nat.pow_add]
  refine Nat.le_trans (Nat.pow_le_pow_right (by omega) (show (ap (ab a)).length≤(ap (ab a)).length - m / 32+m / 32 by omega)) (Nat.le_mul_of_pos_right _ (Nat.two_pow_pos _))
 have e3:ab (bI ((ap (ab a)).length - m / 32) (ab a / 2 ^ m))=ab a / 2 ^ m:=by
  rw [et,Nat.mod_eq_of_lt h32]
 have e4:=uV (gC ((ap (ab a)).length - m / 32) (ab a / 2 ^ m)) (by rw [bk]; omega)
 rw [e3] at e4
 have hl : ¬ 256 < (ap (ab a / 2 ^ m)).length:=by
  have:=fU h32
  omega
 unfold fj at e4
 simp only [hl,if_false] at e4
 simp only [gz,m7,go_sem,↓reduceIte,amO,amQ,amP,amR,amS,e1,jR,hn,hn2,YG ha (n:=m) (by omega) (by omega),e4,or_false,Int.toNat_natCast]
end Go.Ab
namespace Go.Ab
open Go Go.IntWalk
set_option maxRecDepth 4000
def ah (n:Nat):Nat:=if n=0 then 0 else n.log2+1
theorem bl {n k:Nat}:ah n≤k↔n < 2 ^ k:=by
 unfold ah
 split
 ·rename_i h
  subst h
  exact ⟨fun _=>Nat.two_pow_pos k,fun _=>Nat.zero_le _⟩
 ·rename_i h
  rw [Nat.succ_le_iff]
  exact Nat.log2_lt h
theorem BZ {q k:Nat} (h:ah q≤k):ah (q+1)≤k+1:=by
 rw [bl] at h ⊢
 rw [Nat.pow_succ]
 omega
theorem Un {n k:Nat} (h:n≤k):ah (2 ^ n - 1)≤k:=bl.2 (by
 have h1:=Nat.two_pow_pos n
 have h2:=Nat.pow_le_pow_right (n:=2) (by decide) h
 omega)
theorem Uo (k:Nat):ah 1≤k+1:=bl.2 (Nat.one_lt_two_pow (by omega))
theorem Sf {x y k:Nat} (h:x≤y) (h2:ah y≤k):ah x≤k:=bl.2 (Nat.lt_of_le_of_lt h (bl.1 h2))
theorem nP {n k:Nat}:k < ah n↔2 ^ k≤n:=by
 have := @bl n k
 omega
theorem lC:ah 0=0:=rfl
theorem eu {n:Nat} (h:n ≠ 0):0 < ah n:=by
 rw [nP]
 omega
theorem du (n k:Nat):ah (n / 2 ^ k)=ah n - k:=by
 have h:∀ j,ah (n / 2 ^ k)≤j↔ah n - k≤j:=fun j=>by
  rw [bl,Nat.div_lt_iff_lt_mul (Nat.two_pow_pos k),← Nat.pow_add,← bl]
  omega
 have h1:=(h _).1 (Nat.le_refl _)
 have h2:=(h _).2 (Nat.le_refl _)
 omega
theorem da {n:Nat} (k:Nat) (hn:n ≠ 0):ah (n*2 ^ k)=ah n+k:=by
 have h:=du (n*2 ^ k) k
 rw [Nat.mul_div_cancel _ (Nat.two_pow_pos k)] at h
 have h2:k < ah (n*2 ^ k):=by
  rw [nP]
  exact Nat.le_mul_of_pos_left _ (by omega)
 omega
def IE:ByteArray:=⟨#[0,1,2,2,3,3,3,3,4,4,4,4,4,4,4,4,5,5,5,5,5,5,5,5,5,5,5,5,5,5,5,5,6,6,6,6,6,6,6,6,6,6,6,6,6,6,6,6,6,6,6,6,6,6,6,6,6,6,6,6,6,6,6,6,7,7,7,7,7,7,7,7,7,7,7,7,7,7,7,7,7,7,7,7,7,7,7,7,7,7,7,7,7,7,7,7,7,7,7,7,7,7,7,7,7,7,7,7,7,7,7,7,7,7,7,7,7,7,7,7,7,7,7,7,7,7,7,7,8,8,8,8,8,8,8,8,8,8,8,8,8,8,8,8,8,8,8,8,8,8,8,8,8,8,8,8,8,8,8,8,8,8,8,8,8,8,8,8,8,8,8,8,8,8,8,8,8,8,8,8,8,8,8,8,8,8,8,8,8,8,8,8,8,8,8,8,8,8,8,8,8,8,8,8,8,8,8,8,8,8,8,8,8,8,8,8,8,8,8,8,8,8,8,8,8,8,8,8,8,8,8,8,8,8,8,8,8,8,8,8,8,8,8,8,8,8,8,8,8,8,8,8,8,8,8,8]⟩
theorem Up:((List.range 256).all fun x=>(IE[x]?).map (·.toNat) == some (ah x))=true:=by decide +kernel
theorem PM {x:Nat} (h:x < 256):y3 (.v (.string IE)) (.v (.int .u8 x))=some (.v (.int .u8 (ah x:Nat))):=by
 have:=List.all_eq_true.1 Up x (List.mem_range.2 h)
 simp only [beq_iff_eq] at this
 simp only [y3]
 rw [if_pos (by omega),Int.toNat_natCast]
 cases hq:IE[x]? with
 | none=>rw [hq] at this; cases this
 | some y =>
  rw [hq] at this
  simp only [Option.map_some,Option.some.injEq] at this ⊢
  rw [this]
theorem vU:x7 = .seq (.ops [0,2] [co 2 (.mv (.c (.v (.int .i64 0))))]) (.seq (.seq (.ops [0,2,4] [cm 3 0,co 4 (.bin .geq (.t 3) (.c (.v (.int .u32 65536))))]) (.cond (.t 4) (.seq (.ops [0] [cm 5 0,co 6 (.bin .shr (.t 5) (.c (.v (.int .u64 16)))),cm 0 6]) (.ops [0,2] [co 2 (.mv (.c (.v (.int .i64 16))))])) (.skip))) (.seq (.seq (.ops [0,2,8] [cm 7 0,co 8 (.bin .geq (.t 7) (.c (.v (.int .u32 256))))]) (.cond (.t 8) (.seq (.ops [0,2] [cm 9 0,co 10 (.bin .shr (.t 9) (.c (.v (.int .u64 8)))),cm 0 10]) (.ops [0,2] [cm 11 2,co 12 (.bin .add (.t 11) (.c (.v (.int .i64 8)))),cm 2 12])) (.skip))) (.seq (.ops [2] [cm 13 2,cm 14 0,co 15 (.cv .u8 (.t 14)),co 16 (.idxS (.c (.v (.string IE))) (.t 15)),co 17 (.cv .i64 (.t 16)),co 18 (.bin .add (.t 13) (.t 17)),cm 2 18]) (.ret)))):=rfl
theorem w8 {i:Int} {n:Nat} (h:i=n) (hn:n < 256):IntKind.u8.wrap i=n:=by rw [IntKind.wrap_u8]; omega
theorem vV {n k:Nat} {i:Int} {kk:IntKind} {j:Int} (hi:i=n) (hj:j=k) (hk:k≤32):cU .shr (.v (.int .u32 i)) (.v (.int kk j))=some (.v (.int .u32 ((n / 2 ^ k:Nat):Int))):=by
 subst hi hj
 rw [Ey,if_neg (by omega)]
 have:min (k:Int).toNat IntKind.u32.bits=k:=by simp [IntKind.bits]; omega
 rw [this]
 simp only [Option.some.injEq,AV.v.injEq,Value.int.injEq,true_and]
 rw [Int.fdiv_eq_ediv_of_nonneg _ (Int.pow_nonneg (by omega))]
 simp
theorem qw {x:Nat} (k:Nat) (h:2 ^ k≤x):ah x=k+ah (x / 2 ^ k):=by
 have:=du x k
 have:=nP.2 h
 omega
theorem Uq {x:Nat} (hx:x < 4294967296):R F.bits_Len32 [U x] []=some (I (ah x:Nat),[]):=by
 refine av Kp Ko (DB false) rfl ?_
 have fin:∀ {y:Nat},y < 256→∀ {n:Nat},n≤24→IntKind.u8.wrap (y:Int)=y∧IntKind.i64.wrap (ah y:Int)=(ah y:Int)∧IntKind.i64.wrap ((n:Int)+(ah y:Int))=((n+ah y:Nat):Int):=fun {y} hy {n} hn=>by
  have:ah y≤8:=bl.2 hy
  exact ⟨w8 rfl hy,wi rfl (by omega),wi (by omega) (by omega)⟩
 have s16:=vV (n:=x) (k:=16) (kk := .u64) (j:=16) rfl rfl (by omega)
 by_cases h1:65536≤x
 ·have e1:((65536:Int)≤(x:Int))=True:=tt (by omega)
  have b1:=qw 16 h1
  have s8:=vV (n:=x / 2 ^ 16) (k:=8) (kk := .u64) (j:=8) rfl rfl (by omega)
  by_cases h2:256≤x / 2 ^ 16
  ·have e2:((256:Int)≤((x / 2 ^ 16:Nat):Int))=True:=tt (by omega)
   have b2:=qw 8 h2
   have hy:x / 2 ^ 16 / 2 ^ 8 < 256:=by omega
   obtain ⟨f1,f2,f3⟩:=fin hy (n:=24) (by omega)
   have g:IntKind.i64.wrap (24:Int)=24:=by rw [i64_in] <;> omega
   have f3':IntKind.i64.wrap ((24:Int)+(ah (x / 2 ^ 16 / 2 ^ 8):Int))=((ah x:Nat):Int):=by rw [b1,b2]; rw [wi (n:=24+ah (x / 2 ^ 16 / 2 ^ 8)) (by omega) (by have:=(bl (k:=8)).2 hy; omega)]; omega
   simp only [fT,vU,go_sem,↓reduceIte,amO,e1,s16,e2,s8,g,f1,PM hy,f2,f3',Int.reduceAdd]
  ·have e2:((256:Int)≤((x / 2 ^ 16:Nat):Int))=False:=ff (by omega)
   have hy:x / 2 ^ 16 < 256:=by omega
   obtain ⟨f1,f2,f3⟩:=fin hy (n:=16) (by omega)
   have f3':IntKind.i64.wrap ((16:Int)+(ah (x / 2 ^ 16):Int))=((ah x:Nat):Int):=by rw [b1]; rw [wi (n:=16+ah (x / 2 ^ 16)) (by omega) (by have:=(bl (k:=8)).2 hy; omega)]
   simp only [fT,vU,go_sem,↓reduceIte,amO,amU,amV,e1,s16,e2,f1,PM hy,f2,f3']
 ·have e1:((65536:Int)≤(x:Int))=False:=ff (by omega)
  have s8:=vV (n:=x) (k:=8) (kk := .u64) (j:=8) rfl rfl (by omega)
  by_cases h2:256≤x
  ·have e2:((256:Int)≤(x:Int))=True:=tt (by omega)
   have b2:=qw 8 h2
   have hy:x / 2 ^ 8 < 256:=by omega
   obtain ⟨f1,f2,f3⟩:=fin hy (n:=8) (by omega)
   have g:IntKind.i64.wrap (8:Int)=8:=by rw [i64_in] <;> omega
   have f3':IntKind.i64.wrap ((8:Int)+(ah (x / 2 ^ 8):Int))=((ah x:Nat):Int):=by rw [b2]; rw [wi (n:=8+ah (x / 2 ^ 8)) (by omega) (by have:=(bl (k:=8)).2 hy; omega)]
   simp only [fT,vU,go_sem,↓reduceIte,amO,amU,amV,e1,e2,s8,g,f1,PM hy,f2,f3',Int.reduceAdd]
  ·have e2:((256:Int)≤(x:Int))=False:=ff (by omega)
   have hy:x < 256:=by omega
   obtain ⟨f1,f2,f3⟩:=fin hy (n:=0) (by omega)
   have f3':IntKind.i64.wrap ((0:Int)+(ah x:Int))=((ah x:Nat):Int):=by rw [wi (n:=ah x) (by omega) (by have:=(bl (k:=8)).2 hy; omega)]
   simp only [fT,vU,go_sem,↓reduceIte,amO,amU,amV,e1,e2,f1,PM hy,f2,f3']
theorem KF {n:Nat} (h:n ≠ 0):ah n=32*((ap n).length - 1)+ah ((ap n).getD ((ap n).length - 1) 0):=by
 induction n using Nat.strongRecOn with
 | ind n ih =>
  rw [jf h,List.length_cons,Nat.add_sub_cancel]
  by_cases h0:n / 4294967296=0
  ·rw [h0,ck]
   simp
   congr 1
   omega
  ·have h1:=ih _ (by omega) h0
   have h2:(ap (n / 4294967296)).length ≠ 0:=by
    intro e
    exact h0 (gB.1 (List.length_eq_zero_iff.1 e))
   obtain ⟨k,hk⟩:∃ k,(ap (n / 4294967296)).length=k+1:=⟨_,(Nat.succ_pred_eq_of_pos (by omega)).symm⟩
   rw [hk] at h1 ⊢
   rw [po]
   simp only [Nat.add_sub_cancel] at h1
   have h3:=qw (x:=n) 32 (by omega)
   rw [show (2:Nat) ^ 32=4294967296 from rfl,h1] at h3
   omega
theorem zn {m:List Nat} (hb:Lb m) (h1:m.length≤100000):R F.natural_Bits [lm m] []=some (I (ah (ab m):Nat),[]):=by
 refine av Fr Fq (zW false) rfl ?_
 have la:=bN m hb
 by_cases h:ab m=0
 ·have e1:((0:Nat):Int)=0:=rfl
  simp only [it,pl,go_sem,↓reduceIte,amO,amQ,amP,dj hb (by omega),h,ck,e1,lC]
 ·have hne:(ap (ab m)).length ≠ 0:=fun e=>h (gB.1 (List.length_eq_zero_iff.1 e))
  have e1:(((ap (ab m)).length:Int)=0)=False:=ff (by omega)
  have e2:IntKind.i64.wrap (((ap (ab m)).length:Int) - 1)=(((ap (ab m)).length - 1:Nat):Int):=wi (by omega) (by omega)
  have e3:IntKind.i64.wrap (32*(((ap (ab m)).length - 1:Nat):Int))=((32*((ap (ab m)).length - 1):Nat):Int):=wi (by omega) (by omega)
  have e4:aV (aE (ap (ab m))) (((ap (ab m)).length - 1:Nat):Int)=some (.ipt [U ((ap (ab m)).getD ((ap (ab m)).length - 1) 0:Nat)]):=aX rfl (by omega)
  have e5:=Uq (bd (aM (ab m)) ((ap (ab m)).length - 1))
  have e6:ah ((ap (ab m)).getD ((ap (ab m)).length - 1) 0)≤32:=bl.2 (bd (aM (ab m)) _)
  have e7:IntKind.i64.wrap (((32*((ap (ab m)).length - 1):Nat):Int)+(ah ((ap (ab m)).getD ((ap (ab m)).length - 1) 0):Int))=((ah (ab m):Nat):Int):=by
   rw [KF h]
   exact wi (by omega) (by omega)
  simp only [it,pl,go_sem,↓reduceIte,amO,amQ,amP,dj hb (by omega),e1,e2,e3,e4,e5,e7]
end Go.Ab
namespace Go.Ab
open Go Go.IntWalk
set_option maxRecDepth 4000
structure Rd where
 neg:Bool
 m:List Nat
 e:Int
def aj (d:Rd):List AV:=[B d.neg,lm d.m,I d.e]
def af (d:Rd):AV := .agg (aj d)
def aQ:Rd:=⟨false,[],0⟩
def mu (n:Nat) (e:Int):Bool:=decide (n=0) || (decide (n≤4096) && (decide (-16384≤e) && (decide (e≤16384) && decide ((n:Int)+e≤16384))))
def vd (d:Rd):Bool:=if d.m.length=0 then !d.neg && decide (d.e=0) else decide (d.m.length≤256) && (decide (d.m.getD 0 0 % 2=1) && (decide (d.m.getD (d.m.length - 1) 0 ≠ 0) && mu (ah (ab d.m)) d.e))
theorem mo {m:List Nat} (hb:Lb m) (h1:m.length≤100000):R F.dyadic_size [lm m] []=some (I (ah (ab m):Nat),[]):=by
 refine av HT HS (Bu false) rfl ?_
 simp only [l4,wI,go_sem,↓reduceIte,amO,amQ,amP,zn hb h1]
theorem DE {d:Rd} (hb:Lb d.m) (h1:d.m.length≤100000):R F.dyadic_inRange [af d] []=some (B (mu (ah (ab d.m)) d.e),[]):=by
 refine av Bm Bl (xh false) rfl ?_
 unfold mu
 have hn:ah (ab d.m)=0↔((ah (ab d.m):Nat):Int)=0:=by omega
 by_cases a1:ah (ab d.m)=0
 ·have e9:=mo hb h1
  rw [a1,Int.natCast_zero] at e9
  simp only [cG,eR,af,aj,go_sem,↓reduceIte,amO,amQ,amP,amR,e9,a1]
 have e1:(((ah (ab d.m):Nat):Int)=0)=False:=ff (by omega)
 by_cases a2 : ¬ (ah (ab d.m)≤4096)
 ·have e2:(((ah (ab d.m):Nat):Int)≤4096)=False:=ff (by omega)
  simp only [cG,eR,af,aj,go_sem,↓reduceIte,amO,amQ,amP,mo hb h1,e1,a1,e2,a2]
 replace a2:=Decidable.not_not.1 a2
 have e2:(((ah (ab d.m):Nat):Int)≤4096)=True:=tt (by omega)
 by_cases a3 : ¬ (-16384≤d.e)
 ·simp only [cG,eR,af,aj,go_sem,↓reduceIte,amO,amQ,amP,mo hb h1,e1,a1,e2,a2,a3]
 replace a3:=Decidable.not_not.1 a3
 by_cases a4 : ¬ (d.e≤16384)
 ·simp only [cG,eR,af,aj,go_sem,↓reduceIte,amO,amQ,amP,mo hb h1,e1,a1,e2,a2,a3,a4]
 replace a4:=Decidable.not_not.1 a4
 have e3:IntKind.i64.wrap (((ah (ab d.m):Nat):Int)+d.e)=((ah (ab d.m):Nat):Int)+d.e:=by rw [i64_in]; omega
 simp only [cG,eR,af,aj,go_sem,↓reduceIte,amO,amQ,amP,mo hb h1,e1,a1,e2,a2,a3,a4,e3]
def I64 (n:Int):Prop := -9223372036854775808≤n∧n < 9223372036854775808
structure Ok0 (d:Rd):Prop where
 lb:Lb d.m
 len:d.m.length < 4611686018427387904
theorem ew {d:Rd} (ok:Ok0 d):R F.dyadic_Valid [af d] []=some (B (vd d),[]):=by
 refine av EY EX (zQ false) rfl ?_
 unfold vd
 have hl:=ok.len
 by_cases a0:d.m.length=0
 ·rw [if_pos a0]
  have e1:((d.m.length:Int)=0)=True:=tt (by omega)
  cases hn:d.neg with
  | true=>simp only [cM,eN,af,aj,hn,go_sem,↓reduceIte,amO,amQ,amP,e1]
  | false=>simp only [cM,eN,af,aj,hn,go_sem,↓reduceIte,amO,amQ,amP,e1]
 rw [if_neg a0]
 have e1:((d.m.length:Int)=0)=False:=ff (by omega)
 by_cases a1 : ¬ d.m.length≤256
 ·have e2:((d.m.length:Int)≤256)=False:=ff (by omega)
  rw [decide_eq_false a1,Bool.false_and]
  simp only [cM,eN,af,aj,go_sem,↓reduceIte,amO,amQ,amP,amR,e1,e2]
 replace a1:=Decidable.not_not.1 a1
 have e2:((d.m.length:Int)≤256)=True:=tt (by omega)
 have e3:aV (aE d.m) 0=some (.ipt [U (d.m.getD 0 0:Nat)]):=aX rfl (by omega)
 have e4:cU .rem (.v (.int .u32 (d.m.getD 0 0:Nat))) (.v (.int .u32 2))=some (.v (.int .u32 ((d.m.getD 0 0 % 2:Nat):Int))):=by
  rw [Nx,if_neg (by decide),Int.tmod_eq_emod_of_nonneg (by omega)]
  rfl
 rw [decide_eq_true a1,Bool.true_and]
 by_cases a2 : ¬ d.m.getD 0 0 % 2=1
 ·have e5:(((d.m.getD 0 0 % 2:Nat):Int)=1)=False:=ff (by omega)
  rw [decide_eq_false a2,Bool.false_and]
  simp only [cM,eN,af,aj,go_sem,↓reduceIte,amO,amQ,amP,amR,e1,e2,e3,e4,e5]
 replace a2:=Decidable.not_not.1 a2
 have e5:(((d.m.getD 0 0 % 2:Nat):Int)=1)=True:=tt (by omega)
 rw [decide_eq_true a2,Bool.true_and]
 have e6:IntKind.i64.wrap ((d.m.length:Int) - 1)=((d.m.length - 1:Nat):Int):=wi (by omega) (by omega)
 have e7:aV (aE d.m) ((d.m.length - 1:Nat):Int)=some (.ipt [U (d.m.getD (d.m.length - 1) 0:Nat)]):=aX rfl (by omega)
 by_cases a3:d.m.getD (d.m.length - 1) 0=0
 ·have e8:((d.m.getD (d.m.length - 1) 0:Int)=0)=True:=tt (by omega)
  rw [decide_eq_false (p:=d.m.getD (d.m.length - 1) 0 ≠ 0) (fun h=>h a3),Bool.false_and]
  simp only [cM,eN,af,aj,go_sem,↓reduceIte,amO,amQ,amP,amR,e1,e2,e3,e4,e5,e6,e7,e8]
 have e8:((d.m.getD (d.m.length - 1) 0:Int)=0)=False:=ff (by omega)
 rw [decide_eq_true (p:=d.m.getD (d.m.length - 1) 0 ≠ 0) a3,Bool.true_and]
 have e9:=DE (d:=d) ok.lb (by omega)
 simp only [af,aj] at e9
 simp only [cM,eN,af,aj,go_sem,↓reduceIte,amO,amQ,amP,amR,e1,e2,e3,e4,e5,e6,e7,e8,e9]
theorem FI {d:Rd} (ok:Ok0 d):R F.dyadic_Sign [af d] []=some (I (if vd d=false∨d.m.length=0 then 0 else if d.neg=true then -1 else 1),[]):=by
 refine av HM HL (Bq false) rfl ?_
 have hl:=ok.len
 have e9:=ew ok
 simp only [af,aj] at e9
 cases hv:vd d with
 | false =>
  rw [hv] at e9
  rw [if_pos (Or.inl rfl)]
  simp only [eU,j2,af,aj,go_sem,↓reduceIte,amO,amQ,amP,amR,e9]
 | true =>
  rw [hv] at e9
  by_cases a0:d.m.length=0
  ·have e1:((d.m.length:Int)=0)=True:=tt (by omega)
   rw [if_pos (Or.inr a0)]
   simp only [eU,j2,af,aj,go_sem,↓reduceIte,amO,amQ,amP,amR,e9,e1]
  ·have e1:((d.m.length:Int)=0)=False:=ff (by omega)
   rw [if_neg (fun h=>h.elim (fun h=>nomatch h) a0)]
   cases hn:d.neg with
   | true =>
    rw [hn] at e9
    rw [if_pos rfl]
    simp only [eU,j2,af,aj,hn,go_sem,↓reduceIte,amO,amQ,amP,amR,e9,e1]
   | false =>
    rw [hn] at e9
    rw [if_neg (fun h=>nomatch h)]
    simp only [eU,j2,af,aj,hn,go_sem,↓reduceIte,amO,amQ,amP,amR,e9,e1]
end Go.Ab
namespace Go.Ab
open Go Go.IntWalk
set_option maxRecDepth 4000
theorem PN (m:List Nat) (h2:m.length < 4611686018427387904):∀ (n:Nat),n≤m.length→∀ (s:am) (h:ac),s 0=lm m→s 3=I n →
  au 0 [0,3] (aq (ak R (ae false) eJ) [0,3] [] s h)=some (.normal,⟨upd (upd (fun _ => .any) 3 (I (fG m n))) 0 (lm m),fun _ => .dead⟩):=by
 intro n
 induction n with
 | zero =>
  intro h1 s h h3 h4
  rw [ao]
  simp only [eJ,go_sem,h3,h4,fG,↓reduceIte,amO,Int.natCast_zero,Int.lt_irrefl]
 | succ n ih =>
  intro h1 s h h3 h4
  have hn:n < m.length:=h1
  have e3:IntKind.i64.wrap ((n:Int)+1 - 1)=n:=wi (by omega) (by omega)
  have e1:aV (aE m) (n:Int)=some (.ipt [U (m.getD n 0:Nat)]):=aX rfl hn
  have e2:((0:Int) < (n:Int)+1)=True:=eq_true (by omega)
  have ih':=ih (by omega)
  rw [ao]
  generalize aq _ _ _=L at ih' ⊢
  by_cases hz:m.getD n 0=0
  ·simp only [eJ,go_sem,h3,h4,fG,↓reduceIte,amO,Int.natCast_add,Int.natCast_one,e3,e1,e2,hz,Int.natCast_zero]
   exact ih' _ _ rfl rfl
  ·simp only [eJ,go_sem,h3,h4,fG,↓reduceIte,amO,Int.natCast_add,Int.natCast_one,e3,e1,e2,hz,Int.natCast_eq_zero]
theorem KG {m:List Nat} (hb:Lb m) (h:m.length < 4611686018427387904):R F.dyadic_trimmed [lm m] []=some (lm (ap (ab m)),[]):=by
 refine av BF BE (xn false) rfl ?_
 have h1:kU 1 (lm m) none (some (I (fG m m.length:Nat))) none=some (lm (ap (ab m))):=by
  rw [uS (a:=0) (b:=fG m m.length) rfl (nv rfl (mS _ _)) (mS _ _),List.drop_zero,Nat.sub_zero,vP hb]
 simp only [iN,so,go_sem,↓reduceIte,amO,PN m h m.length (Nat.le_refl _),h1]
theorem tZ {e:Int}:R F.dyadic_exponent [I e] []=some (B (decide (-32768≤e) && decide (e≤32768)),[]):=by
 refine av z8 z7 (vS false) rfl ?_
 by_cases a1 : ¬ (-32768≤e)
 ·simp only [fF,mA,go_sem,↓reduceIte,amO,a1]
 replace a1:=Decidable.not_not.1 a1
 simp only [fF,mA,go_sem,↓reduceIte,amO,a1]
theorem DF {d:Rd} (hb:Lb d.m) (h1:d.m.length≤100000):R F.dyadic_checked [af d] []=some (if mu (ah (ab d.m)) d.e=true then .tup [af d,I 0] else .tup [af aQ,I 9],[]):=by
 refine av BC BB (xk false) rfl ?_
 have e9:=DE hb h1
 simp only [af,aj] at e9
 cases hv:mu (ah (ab d.m)) d.e with
 | false =>
  rw [hv] at e9
  rw [if_neg (fun h=>nomatch h)]
  simp only [ge,nt,af,aj,aQ,go_sem,↓reduceIte,amO,amQ,amP,amR,e9]
 | true =>
  rw [hv] at e9
  rw [if_pos rfl]
  simp only [ge,nt,af,aj,go_sem,↓reduceIte,amO,amQ,amP,amR,e9]
theorem B0 (h:ac) (m:List Nat):mV h 1 (lm m)=some (aE m):=TY h 1 _
theorem adC (m:List Nat):((aE m).drop 0).take (0+m.length)=aE m:=by
 rw [List.drop_zero,Nat.zero_add,← rz m,List.take_length]
theorem B1 {m:List Nat} (h0:m ≠ []) (h1:m.length≤100000):R F.slices_Clone_uint32_uint32_ [lm m] []=some (lm m,[]):=by
 refine av o8 o7 (nu false) rfl ?_
 have e1:Cp false (lm m)=some (B false):=by
  cases m with
  | nil=>exact absurd rfl h0
  | cons x m=>rfl
 have e2:((True∨False)∧(0+m.length)*4≤140737488355328)=True:=eq_true ⟨Or.inl trivial,by omega⟩
 have e3:(0+(0+m.length)≤m.length)=True:=eq_true (by omega)
 have e4:(0+m.length=m.length)=True:=eq_true (by omega)
 simp only [cN,iF,go_sem,↓reduceIte,amO,amR,amS,e1,B0,e2,e3,e4]
end Go.Ab
namespace Go.Ab
open Go Go.IntWalk
set_option maxRecDepth 4000
theorem ub:ai.E F.bits_TrailingZeros32=some Vl:=by kernel_rfl
theorem yx {x:Nat} (h:x ≠ 0) (hx:x < 4294967296):R F.bits_TrailingZeros32 [U x] []=some (I (tz x:Nat),[]):=by
 unfold R
 rw [Jr ub]
 show (if 0 < (x:Int)∧(x:Int) < 4294967296∧([]:List Ob)=[] then some (I (GV 32 (x:Int).toNat:Nat),([]:List Ob)) else none)=_
 rw [if_pos ⟨by omega,by omega,rfl⟩,Int.toNat_natCast,X8 32 x h (by omega)]
theorem Ur (m:List Nat) (hb:Lb m) (h2:m.length≤100000):∀ (k i:Nat),i+k=m.length→ab (m.drop i) ≠ 0→∀ (s:am) (h:ac),s 6=lm m→s 7=I m.length→s 8=I i→s 3=I (32*i:Nat) →
  au 0 [3] (aq (ak R (ae false) kM) [3,6,7,8] [] s h)=some (.ret,⟨upd (fun _ => .any) 2 (I (32*i+tz (ab (m.drop i)):Nat)),fun _ => .dead⟩):=by
 intro k
 induction k with
 | zero =>
  intro i hi hv
  rw [List.drop_eq_nil_of_le (by omega)] at hv
  exact absurd rfl hv
 | succ k ih =>
  intro i hi hv s h h6 h7 h8 h3
  have e1:((i:Int) < m.length)=True:=tt (by omega)
  have e2:aV (aE m) (i:Int)=some (.ipt [U (m.getD i 0:Nat)]):=aX rfl (by omega)
  have hx:m.getD i 0 < 4294967296:=bd hb i
  rw [dM] at hv
  rw [ao]
  have e4:IntKind.i64.wrap (((32*i:Nat):Int)+32)=((32*(i+1):Nat):Int):=wi (by omega) (by omega)
  have e5:IntKind.i64.wrap ((i:Int)+1)=((i+1:Nat):Int):=wi (by omega) (by omega)
  by_cases hz:m.getD i 0=0
  ·have e3:((m.getD i 0:Int)=0)=True:=tt (by omega)
   have hv':ab (m.drop (i+1)) ≠ 0:=by
    intro h0
    rw [hz,h0] at hv
    exact hv rfl
   have ih':=ih (i+1) (by omega) hv'
   have e6:tz (ab (m.drop i))=32+tz (ab (m.drop (i+1))):=by
    rw [dM,hz,Nat.zero_add]
    exact C6 32 hv'
   have e7:32*i+tz (ab (m.drop i))=32*(i+1)+tz (ab (m.drop (i+1))):=by omega
   rw [e7]
   generalize aq _ _ _=L at ih' ⊢
   simp only [kM,go_sem,↓reduceIte,amO,h3,h6,h7,h8,e1,e2,e3,e4,e5]
   exact ih' _ _ rfl rfl rfl rfl
  ·have e3:((m.getD i 0:Int)=0)=False:=ff (by omega)
   have e6:tz (ab (m.drop i))=tz (m.getD i 0):=by
    rw [dM]
    exact X7 (k:=32) _ hz hx
   have e8:tz (m.getD i 0) < 32:=IC (k:=32) hz hx
   have e7:IntKind.i64.wrap (((32*i:Nat):Int)+(tz (m.getD i 0):Nat))=((32*i+tz (m.getD i 0):Nat):Int):=wi (by omega) (by omega)
   rw [e6]
   simp only [kM,go_sem,↓reduceIte,amO,amQ,amP,h3,h6,h7,h8,e1,e2,e3,yx hz hx,e7]
theorem YH {m:List Nat} (hb:Lb m) (h1:m.length≤100000) (hv:ab m ≠ 0):R F.dyadic_low [lm m] []=some (I (tz (ab m):Nat),[]):=by
 refine av Kh Kg (Dy false) rfl ?_
 have h3:=Ur m hb h1 m.length 0 (Nat.zero_add _) hv
 simp only [Nat.mul_zero,Nat.zero_add,List.drop_zero,Int.natCast_zero] at h3
 simp only [m6,x3,go_sem,↓reduceIte,amO]
 rw [h3 _ _ rfl rfl rfl rfl]
 simp only [go_sem,↓reduceIte]
def aU (neg:Bool) (M:Nat) (e:Int):Rd:=if M=0 then aQ else ⟨neg,ap (M / 2 ^ tz M),e+tz M⟩
def Exq (e:Int):Prop := -1000000≤e∧e≤1000000
theorem sE {neg:Bool} {m:List Nat} {e:Int} (hb:Lb m) (h1:m.length≤256) (he:Exq e):R F.dyadic_canonical [B neg,lm m,I e] []=some (af (aU neg (ab m) e),[]):=by
 refine av yn ym (uP false) rfl ?_
 obtain ⟨he1,he2⟩:=he
 unfold aU
 by_cases h0:ab m=0
 ·have hd:R F.dyadic_trimmed [lm m] []=some (lm [],[]):=by
   rw [KG hb (by omega),h0,ck]
  have e0:(([]:List Nat).length:Int)=0:=rfl
  rw [if_pos h0]
  simp only [eI,lw,af,aj,aQ,go_sem,↓reduceIte,amO,amQ,amP,amR,hd,List.length_nil,Int.natCast_zero]
 have hn:ap (ab m) ≠ []:=fun h=>h0 (gB.1 h)
 have hl:0 < (ap (ab m)).length:=by
  cases h:ap (ab m) with
  | nil=>exact absurd h hn
  | cons x l=>exact Nat.succ_pos _
 have hl2:(ap (ab m)).length≤256:=Nat.le_trans (bN m hb) h1
 have hdb:Lb (ap (ab m)):=aM _
 have e1:(((ap (ab m)).length:Int)=0)=False:=ff (by omega)
 have ht:tz (ab m) < 32*256:=IC (k:=32*256) h0 (by
  have:=bC hb
  have h3:4294967296 ^ m.length≤4294967296 ^ 256:=Nat.pow_le_pow_right (by decide) h1
  have h4:(2:Nat) ^ (32*256)=4294967296 ^ 256:=Nat.pow_mul 2 32 256
  rw [h4]
  exact Nat.lt_of_lt_of_le this h3)
 have hlow:=YH hdb (by omega) (by rw [aF]; exact h0)
 rw [aF] at hlow
 have hs:=Se (n:=(tz (ab m):Nat)) hdb hl2
 rw [if_neg (by omega),aF,Int.toNat_natCast] at hs
 have hq:ap (ab m / 2 ^ tz (ab m)) ≠ []:=by
  intro h
  have:=(pq h0).2
  rw [gB.1 h] at this
  exact absurd this (by decide)
 have hq2:(ap (ab m / 2 ^ tz (ab m))).length≤100000:=by
  have h5:(ap (ab m / 2 ^ tz (ab m))).length≤m.length:=fU (Nat.lt_of_le_of_lt (Nat.div_le_self _ _) (bC hb))
  omega
 have hc:=B1 hq hq2
 have e2:IntKind.i64.wrap (e+(tz (ab m):Nat))=e+(tz (ab m):Nat):=by rw [i64_in]; omega
 rw [if_neg h0]
 simp only [eI,lw,af,aj,go_sem,↓reduceIte,amO,amQ,amP,amR,KG hb (Nat.lt_of_le_of_lt h1 (by decide)),e1,hlow,hs,hc,NE,e2]
end Go.Ab
namespace Go.Ab
open Go Go.IntWalk
set_option maxRecDepth 4000
theorem yy {d:Rd} (h:vd d=true) (h0:d.m.length ≠ 0):d.m.length≤256∧d.m.getD 0 0 % 2=1∧d.m.getD (d.m.length - 1) 0 ≠ 0∧mu (ah (ab d.m)) d.e=true:=by
 unfold vd at h
 rw [if_neg h0] at h
 simp only [Bool.and_eq_true,decide_eq_true_eq] at h
 exact h
theorem zo {d:Rd} (h:vd d=true) (h0:d.m.length=0):d=aQ:=by
 unfold vd at h
 rw [if_pos h0] at h
 simp only [Bool.and_eq_true,decide_eq_true_eq,Bool.not_eq_true'] at h
 obtain ⟨n,m,e⟩:=d
 obtain ⟨h1,h2⟩:=h
 simp only at h1 h2 h0
 rw [aQ,h1,h2,List.length_eq_zero_iff.1 h0]
theorem NI {n:Nat} {e:Int} (h:mu n e=true) (h0:n ≠ 0):n≤4096 ∧ -16384≤e∧e≤16384∧(n:Int)+e≤16384:=by
 unfold mu at h
 simp only [Bool.or_eq_true,Bool.and_eq_true,decide_eq_true_eq] at h
 exact h.resolve_left h0
theorem cO {d:Rd} (h:vd d=true) (hb:Lb d.m):d.m.length≤256 ∧ -16384≤d.e∧d.e≤16384∧ah (ab d.m)≤4096:=by
 by_cases h0:d.m.length=0
 ·rw [zo h h0]
  exact ⟨by decide,by decide,by decide,by decide⟩
 obtain ⟨h1,h2,h3,h4⟩:=yy h h0
 have hv:ab d.m ≠ 0:=by
  intro hz
  have:=dM d.m 0
  rw [List.drop_zero] at this
  omega
 have hn:ah (ab d.m) ≠ 0:=by
  have:=eu hv
  omega
 obtain ⟨h5,h6,h7,h8⟩:=NI h4 hn
 exact ⟨h1,h6,h7,h5⟩
def aL (d:Rd):Int:=if vd d=false∨d.m.length=0 then 0 else (ah (ab d.m):Nat)+d.e
theorem uX {d:Rd} (ok:Ok0 d):R F.dyadic_Top [af d] []=some (I (aL d),[]):=by
 refine av Kb Ka (Dt false) rfl ?_
 have hl:=ok.len
 have e9:=ew ok
 simp only [af,aj] at e9
 unfold aL
 cases hv:vd d with
 | false =>
  rw [hv] at e9
  rw [if_pos (Or.inl rfl)]
  simp only [hG,oK,af,aj,go_sem,↓reduceIte,amO,amQ,amP,amR,e9]
 | true =>
  rw [hv] at e9
  by_cases a0:d.m.length=0
  ·have e1:((d.m.length:Int)=0)=True:=tt (by omega)
   rw [if_pos (Or.inr a0)]
   simp only [hG,oK,af,aj,go_sem,↓reduceIte,amO,amQ,amP,amR,e9,e1]
  ·have e1:((d.m.length:Int)=0)=False:=ff (by omega)
   rw [if_neg (fun h=>h.elim (fun h=>nomatch h) a0)]
   obtain ⟨h1,h2,h3,h4⟩:=cO hv ok.lb
   have e2:IntKind.i64.wrap (((ah (ab d.m):Nat):Int)+d.e)=((ah (ab d.m):Nat):Int)+d.e:=by rw [i64_in]; omega
   simp only [hG,oK,af,aj,go_sem,↓reduceIte,amO,amQ,amP,amR,amS,amT,e9,e1,mo ok.lb (Nat.le_trans h1 (by decide)),e2]
theorem ae6 {d:Rd} (ok:Ok0 d):R F.dyadic_Bits [af d] []=some (I (if vd d=true then (ah (ab d.m):Nat) else 0),[]):=by
 refine av Iu It (BT false) rfl ?_
 have e9:=ew ok
 simp only [af,aj] at e9
 cases hv:vd d with
 | false =>
  rw [hv] at e9
  rw [if_neg (fun h=>nomatch h)]
  simp only [je,qO,af,aj,go_sem,↓reduceIte,amO,amQ,amP,amR,e9]
 | true =>
  rw [hv] at e9
  rw [if_pos rfl]
  obtain ⟨h1,h2,h3,h4⟩:=cO hv ok.lb
  simp only [je,qO,af,aj,go_sem,↓reduceIte,amO,amQ,amP,amR,e9,mo ok.lb (Nat.le_trans h1 (by decide))]
theorem KH {d:Rd} (ok:Ok0 d):R F.dyadic_Neg [af d] []=some (af (if vd d=false∨d.m.length=0 then aQ else ⟨!d.neg,d.m,d.e⟩),[]):=by
 refine av J7 J6 (Dr false) rfl ?_
 have hl:=ok.len
 have e9:=ew ok
 simp only [af,aj] at e9
 cases hv:vd d with
 | false =>
  rw [hv] at e9
  rw [if_pos (Or.inl rfl)]
  simp only [hF,oJ,af,aj,aQ,go_sem,↓reduceIte,amO,amQ,amP,amR,e9]
 | true =>
  rw [hv] at e9
  by_cases a0:d.m.length=0
  ·have e1:((d.m.length:Int)=0)=True:=tt (by omega)
   rw [if_pos (Or.inr a0)]
   simp only [hF,oJ,af,aj,aQ,go_sem,↓reduceIte,amO,amQ,amP,amR,e9,e1]
  ·have e1:((d.m.length:Int)=0)=False:=ff (by omega)
   rw [if_neg (fun h=>h.elim (fun h=>nomatch h) a0)]
   obtain ⟨h1,h2,h3,h4⟩:=cO hv ok.lb
   have hc:=B1 (m:=d.m) (fun h=>a0 (by rw [h]; rfl)) (Nat.le_trans h1 (by decide))
   simp only [hF,oJ,af,aj,go_sem,↓reduceIte,amO,amQ,amP,amR,amS,amT,e9,e1,hc]
theorem DG {d:Rd} (ok:Ok0 d):R F.dyadic_Abs [af d] []=some (af (if vd d=false∨d.m.length=0 then aQ else ⟨false,d.m,d.e⟩),[]):=by
 refine av Kj Ki (DA false) rfl ?_
 have hl:=ok.len
 have e9:=ew ok
 simp only [af,aj] at e9
 cases hv:vd d with
 | false =>
  rw [hv] at e9
  rw [if_pos (Or.inl rfl)]
  simp only [hH,oQ,af,aj,aQ,go_sem,↓reduceIte,amO,amQ,amP,amR,e9]
 | true =>
  rw [hv] at e9
  by_cases a0:d.m.length=0
  ·have e1:((d.m.length:Int)=0)=True:=tt (by omega)
   rw [if_pos (Or.inr a0)]
   simp only [hH,oQ,af,aj,aQ,go_sem,↓reduceIte,amO,amQ,amP,amR,e9,e1]
  ·have e1:((d.m.length:Int)=0)=False:=ff (by omega)
   rw [if_neg (fun h=>h.elim (fun h=>nomatch h) a0)]
   obtain ⟨h1,h2,h3,h4⟩:=cO hv ok.lb
   have hc:=B1 (m:=d.m) (fun h=>a0 (by rw [h]; rfl)) (Nat.le_trans h1 (by decide))
   simp only [hH,oQ,af,aj,go_sem,↓reduceIte,amO,amQ,amP,amR,amS,amT,e9,e1,hc]
end Go.Ab
namespace Go.Ab
open Go Go.IntWalk
set_option maxRecDepth 4000
theorem DH {m:List Nat} (hb:Lb m) (h1:m.length≤256) {k:Nat} (hk:k≤65536) (hl:(ap (ab m*2 ^ k)).length≤256):R F.dyadic_shifted [lm m,I k] []=some (lm (ap (ab m*2 ^ k)),[]):=by
 refine av BA Bz (xj false) rfl ?_
 have hs:=Sd (n:=(k:Nat)) hb h1
 rw [if_neg (by omega),Int.toNat_natCast,fj,if_neg (by omega)] at hs
 simp only [iM,sk,go_sem,↓reduceIte,amO,amQ,amP,amR,hs]
theorem WB {neg:Bool} {m:List Nat} {e:Int} (hb:Lb m) (hl:m.length < 4611686018427387904):R F.dyadic_Make [B neg,lm m,I e] []=some (if 256 < m.length∨e < -32768∨32768 < e then .tup [af aQ,I 1]
  else if mu (ah (ab (aU neg (ab m) e).m)) (aU neg (ab m) e).e=true then .tup [af (aU neg (ab m) e),I 0] else .tup [af aQ,I 9],[]):=by
 refine av Ik Ij (BO false) rfl ?_
 by_cases a1:256 < m.length
 ·have e1:((256:Int) < m.length)=True:=tt (by omega)
  rw [if_pos (Or.inl a1)]
  simp only [eY,j5,af,aj,aQ,go_sem,↓reduceIte,amO,amQ,amP,amR,e1]
 have e1:((256:Int) < m.length)=False:=ff (by omega)
 by_cases a2:e < -32768∨32768 < e
 ·have e2:(decide (-32768≤e) && decide (e≤32768))=false:=by
   rcases a2 with a2 | a2
   ·rw [decide_eq_false (by omega),Bool.false_and]
   ·rw [decide_eq_false (p:=e≤32768) (by omega),Bool.and_false]
  rw [if_pos (Or.inr a2)]
  simp only [eY,j5,af,aj,aQ,go_sem,↓reduceIte,amO,amQ,amP,amR,e1,tZ,e2]
 have e2:(decide (-32768≤e) && decide (e≤32768))=true:=by
  rw [decide_eq_true (by omega),decide_eq_true (by omega)]
  rfl
 rw [if_neg (fun h=>h.elim a1 a2)]
 have hc:=sE (neg:=neg) (e:=e) hb (by omega) ⟨by omega,by omega⟩
 have hL:Lb (aU neg (ab m) e).m:=by
  unfold aU
  split
  ·exact fun x hx=>nomatch hx
  ·exact aM _
 have hN:(aU neg (ab m) e).m.length≤100000:=by
  unfold aU
  split
  ·exact Nat.zero_le _
  ·have h5:(ap (ab m / 2 ^ tz (ab m))).length≤m.length:=fU (Nat.lt_of_le_of_lt (Nat.div_le_self _ _) (bC hb))
   exact Nat.le_trans h5 (by omega)
 have hd:=DF hL hN
 generalize aU neg (ab m) e=d at hc hd ⊢
 simp only [af,aj] at hc hd
 cases hv:mu (ah (ab d.m)) d.e with
 | false =>
  rw [hv,if_neg (fun h=>nomatch h)] at hd
  rw [if_neg (fun h=>nomatch h)]
  simp only [eY,j5,af,aj,aQ,go_sem,↓reduceIte,amO,amQ,amP,amR,e1,tZ,e2,hc,hd]
 | true =>
  rw [hv,if_pos rfl] at hd
  rw [if_pos rfl]
  simp only [eY,j5,af,aj,go_sem,↓reduceIte,amO,amQ,amP,amR,e1,tZ,e2,hc,hd]
def mg (d:Rd):Nat:=ab d.m*2 ^ (d.e+16384).toNat
def zI (d:Rd):Int:=if d.neg=true then -(mg d:Int) else mg d
theorem Us {x y k:Nat} (hk:0 < k):aY (x*k) (y*k)=aY x y:=by
 unfold aY
 have h1:(x*k < y*k)↔x < y:=Nat.mul_lt_mul_right hk
 have h2:(y*k < x*k)↔y < x:=Nat.mul_lt_mul_right hk
 by_cases a:x < y
 ·rw [if_pos a,if_pos (h1.2 a)]
 ·rw [if_neg a,if_neg (fun h=>a (h1.1 h))]
  by_cases b:y < x
  ·rw [if_pos b,if_pos (h2.2 b)]
  ·rw [if_neg b,if_neg (fun h=>b (h2.1 h))]
theorem vW {x y:Nat} (h:ah x < ah y):x < y:=by
 have h1:=(bl (n:=x) (k:=ah x)).1 (Nat.le_refl _)
 have h2:=nP.1 h
 omega
theorem db {d:Rd} (h:vd d=true) (h0:d.m.length ≠ 0):ab d.m ≠ 0:=by
 obtain ⟨h1,h2,h3,h4⟩:=yy h h0
 intro hz
 have:=dM d.m 0
 rw [List.drop_zero] at this
 omega
theorem uY {d:Rd} (h:vd d=true) (hb:Lb d.m) (h0:d.m.length ≠ 0):(ah (mg d):Int)=aL d+16384:=by
 obtain ⟨h1,h2,h3,h4⟩:=cO h hb
 unfold mg aL
 rw [da _ (db h h0),if_neg (fun h'=>h'.elim (fun h''=>by rw [h] at h''; exact nomatch h'') h0)]
 omega
theorem vX {d:Rd} {e:Int} (h1 : -16384≤e) (h2:e≤d.e):mg d=ab d.m*2 ^ (d.e - e).toNat*2 ^ (e+16384).toNat:=by
 unfold mg
 rw [Nat.mul_assoc,← Nat.pow_add]
 congr 2
 omega
theorem aK {n k:Nat} (h:ah n≤32*k):(ap n).length≤k:=by
 refine fU ?_
 have:=bl.1 h
 rw [Nat.pow_mul] at this
 exact this
theorem PO {a b:Rd} (oa:Ok0 a) (ob:Ok0 b) (va:vd a=true) (vb:vd b=true) (na:a.m.length ≠ 0) (nb:b.m.length ≠ 0):R F.dyadic_compare [af a,af b] []=some (I (aY (mg a) (mg b)),[]):=by
 refine av Bs Br (xi false) rfl ?_
 have ta:=uX oa
 have tb:=uX ob
 have ba:=uY va oa.lb na
 have bb:=uY vb ob.lb nb
 simp only [af,aj] at ta tb
 by_cases h1:aL a < aL b
 ·have h2:aY (mg a) (mg b) = -1:=by
   rw [aY,if_pos (vW (by omega))]
  have e1:(aL a < aL b)=True:=tt h1
  rw [h2]
  simp only [eA,jI,af,aj,go_sem,↓reduceIte,amO,amQ,amP,amR,amS,amT,ta,tb,e1]
 have e1:(aL a < aL b)=False:=ff h1
 by_cases h2:aL b < aL a
 ·have h3:aY (mg a) (mg b)=1:=by
   have:=vW (x:=mg b) (y:=mg a) (by omega)
   rw [aY,if_neg (by omega),if_pos this]
  have e2:(aL b < aL a)=True:=tt h2
  rw [h3]
  simp only [eA,jI,af,aj,go_sem,↓reduceIte,amO,amQ,amP,amR,amS,amT,ta,tb,e1,e2]
 have e2:(aL b < aL a)=False:=ff h2
 obtain ⟨a1,a2,a3,a4⟩:=cO va oa.lb
 obtain ⟨b1,b2,b3,b4⟩:=cO vb ob.lb
 obtain ⟨e,hm⟩:∃ e,(if b.e < a.e then b.e else a.e)=e:=⟨_,rfl⟩
 have hea:e≤a.e∧e≤b.e∧(e=a.e∨e=b.e):=by
  split at hm <;> omega
 obtain ⟨m1,m2,m3⟩:=hea
 have ka:IntKind.i64.wrap (a.e - e)=(((a.e - e).toNat:Nat):Int):=wi (by omega) (by omega)
 have kb:IntKind.i64.wrap (b.e - e)=(((b.e - e).toNat:Nat):Int):=wi (by omega) (by omega)
 have hta:aL a=(ah (ab a.m):Nat)+a.e:=by
  rw [aL,if_neg (fun h'=>h'.elim (fun h''=>by rw [va] at h''; exact nomatch h'') na)]
 have htb:aL b=(ah (ab b.m):Nat)+b.e:=by
  rw [aL,if_neg (fun h'=>h'.elim (fun h''=>by rw [vb] at h''; exact nomatch h'') nb)]
 have la:(ap (ab a.m*2 ^ (a.e - e).toNat)).length≤256:=aK (by
  rw [da _ (db va na)]
  omega)
 have lb:(ap (ab b.m*2 ^ (b.e - e).toNat)).length≤256:=aK (by
  rw [da _ (db vb nb)]
  omega)
 have sa:=DH oa.lb a1 (k:=(a.e - e).toNat) (by omega) la
 have sb:=DH ob.lb b1 (k:=(b.e - e).toNat) (by omega) lb
 have hc:=uW (aM (ab a.m*2 ^ (a.e - e).toNat)) (aM (ab b.m*2 ^ (b.e - e).toNat)) (Nat.le_trans la (by decide)) (Nat.le_trans lb (by decide))
 rw [aF,aF,← Us (k:=2 ^ (e+16384).toNat) (Nat.two_pow_pos _),← vX (by omega) m1,← vX (by omega) m2] at hc
 simp only [eA,jI,af,aj,go_sem,↓reduceIte,amO,amQ,amP,amR,amS,amT,ta,tb,e1,e2,hm,ka,kb,sa,sb,hc]
end Go.Ab
namespace Go.Ab
open Go Go.IntWalk
set_option maxRecDepth 4000
def bp (x y:Int):Int:=if x < y then -1 else if y < x then 1 else 0
def br (d:Rd):Int:=if d.m.length=0 then 0 else if d.neg=true then -1 else 1
theorem FJ {d:Rd} (h0:d.m.length=0):mg d=0:=by
 unfold mg
 rw [List.length_eq_zero_iff.1 h0]
 exact Nat.zero_mul _
theorem DI {d:Rd} (h:vd d=true) (h0:d.m.length ≠ 0):0 < mg d :=
 Nat.mul_pos (Nat.pos_of_ne_zero (db h h0)) (Nat.two_pow_pos _)
theorem sF (d:Rd) (h:vd d=true):(br d=0∧zI d=0∧d.m.length=0)∨(br d = -1∧zI d = -(mg d:Int)∧0 < mg d∧d.m.length ≠ 0)∨(br d=1∧zI d=mg d∧0 < mg d∧d.m.length ≠ 0):=by
 unfold br zI
 by_cases h0:d.m.length=0
 ·refine Or.inl ⟨if_pos h0,?_,h0⟩
  rw [FJ h0]
  split <;> rfl
 ·rw [if_neg h0]
  have:=DI h h0
  by_cases hn:d.neg=true
  ·exact Or.inr (Or.inl ⟨if_pos hn,if_pos hn,this,h0⟩)
  ·exact Or.inr (Or.inr ⟨if_neg hn,if_neg hn,this,h0⟩)
theorem vY {d:Rd} (ok:Ok0 d) (hv:vd d=true):R F.dyadic_Sign [af d] []=some (I (br d),[]):=by
 rw [FI ok]
 unfold br
 by_cases h0:d.m.length=0
 ·rw [if_pos (Or.inr h0),if_pos h0]
 ·rw [if_neg (fun h'=>h'.elim (fun h''=>by rw [hv] at h''; exact nomatch h'') h0),if_neg h0]
theorem uZ {a b:Rd} (oa:Ok0 a) (ob:Ok0 b):R F.dyadic_Cmp [af a,af b] []=some (I (if vd a=true∧vd b=true then bp (zI a) (zI b) else 0),[]):=by
 refine av JT JS (Dm false) rfl ?_
 have va:=ew oa
 have vb:=ew ob
 simp only [af,aj] at va vb
 cases ha:vd a with
 | false =>
  rw [ha] at va
  rw [if_neg (fun h=>nomatch h.1)]
  simp only [dK,gK,af,aj,go_sem,↓reduceIte,amO,amQ,amP,amR,va]
 | true =>
 rw [ha] at va
 cases hb:vd b with
 | false =>
  rw [hb] at vb
  rw [if_neg (fun h=>nomatch h.2)]
  simp only [dK,gK,af,aj,go_sem,↓reduceIte,amO,amQ,amP,amR,va,vb]
 | true =>
 rw [hb] at vb
 rw [if_pos ⟨rfl,rfl⟩]
 have sa:=vY oa ha
 have sb:=vY ob hb
 have ca:=sF a ha
 have cb:=sF b hb
 simp only [af,aj] at sa sb
 by_cases h1:br a < br b
 ·have e1:(br a < br b)=True:=tt h1
  have e2:bp (zI a) (zI b) = -1:=if_pos (by omega)
  rw [e2]
  simp only [dK,gK,af,aj,go_sem,↓reduceIte,amO,amQ,amP,amR,amS,amT,va,vb,sa,sb,e1]
 have e1:(br a < br b)=False:=ff h1
 by_cases h2:br b < br a
 ·have e2:(br b < br a)=True:=tt h2
  have e3:bp (zI a) (zI b)=1:=by rw [bp,if_neg (by omega),if_pos (by omega)]
  rw [e3]
  simp only [dK,gK,af,aj,go_sem,↓reduceIte,amO,amQ,amP,amR,amS,amT,va,vb,sa,sb,e1,e2]
 have e2:(br b < br a)=False:=ff h2
 by_cases h3:br a=0
 ·have e3:(br a=0)=True:=tt h3
  have e4:bp (zI a) (zI b)=0:=by rw [bp,if_neg (by omega),if_neg (by omega)]
  rw [e4]
  simp only [dK,gK,af,aj,go_sem,↓reduceIte,amO,amQ,amP,amR,amS,amT,va,vb,sa,sb,e1,e2,e3]
 have e3:(br a=0)=False:=ff h3
 have hc:=PO oa ob ha hb (by omega) (by omega)
 simp only [af,aj] at hc
 have e4:IntKind.i64.wrap (br a*aY (mg a) (mg b))=bp (zI a) (zI b):=by
  have hp:br a*aY (mg a) (mg b)=bp (zI a) (zI b):=by
   rcases ca with ca | ca | ca
   ·omega
   ·rw [ca.1,ca.2.1]
    rw [show zI b = -(mg b:Int) by omega]
    unfold aY bp
    by_cases x:mg a < mg b
    ·rw [if_pos x,if_neg (by omega),if_pos (by omega)]; rfl
    ·by_cases y:mg b < mg a
     ·rw [if_neg x,if_pos y,if_pos (by omega)]; rfl
     ·rw [if_neg x,if_neg y,if_neg (by omega),if_neg (by omega)]; rfl
   ·rw [ca.1,ca.2.1]
    rw [show zI b=(mg b:Int) by omega]
    unfold aY bp
    by_cases x:mg a < mg b
    ·rw [if_pos x,if_pos (by omega)]; rfl
    ·by_cases y:mg b < mg a
     ·rw [if_neg x,if_pos y,if_neg (by omega),if_pos (by omega)]; rfl
     ·rw [if_neg x,if_neg y,if_neg (by omega),if_neg (by omega)]; rfl
  rw [hp]
  unfold bp
  split
  ·decide
  ·split <;> decide
 simp only [dK,gK,af,aj,go_sem,↓reduceIte,amO,amQ,amP,amR,amS,amT,va,vb,sa,sb,e1,e2,e3,hc,e4]
end Go.Ab
namespace Go.Ab
open Go Go.IntWalk
set_option maxRecDepth 4000
theorem oZ (x y:Nat):ah (x*y)≤ah x+ah y:=by
 rw [bl,Nat.pow_add]
 exact Nat.mul_lt_mul'' (bl.1 (Nat.le_refl _)) (bl.1 (Nat.le_refl _))
theorem rH (neg:Bool) (M:Nat) (e:Int):Lb (aU neg M e).m:=by
 unfold aU
 split
 ·exact fun x hx=>nomatch hx
 ·exact aM _
theorem sG {neg:Bool} {M:Nat} {e:Int} {k:Nat} (h:ah M≤32*k):(aU neg M e).m.length≤k:=by
 unfold aU
 split
 ·exact Nat.zero_le _
 ·refine aK ?_
  rw [du]
  omega
def vZ (d:Rd):AV:=if mu (ah (ab d.m)) d.e=true then .tup [af d,I 0] else .tup [af aQ,I 9]
def VD (a b:Rd):AV:=if vd a=true∧vd b=true then if a.m.length=0∨b.m.length=0 then .tup [af aQ,I 0] else if 4096 < ah (ab a.m)+ah (ab b.m) - 1 then .tup [af aQ,I 9] else vZ (aU (a.neg != b.neg) (ab a.m*ab b.m) (a.e+b.e)) else .tup [af aQ,I 1]
theorem jh (a b:Bool):(true != (a == b))=(a != b):=by cases a <;> cases b <;> rfl
theorem ajx {a b:Rd} (oa:Ok0 a) (ob:Ok0 b):R F.dyadic_Mul [af a,af b] []=some (VD a b,[]):=by
 refine av J3 J2 (Dp false) rfl ?_
 unfold VD
 have va:=ew oa
 have vb:=ew ob
 simp only [af,aj] at va vb
 cases ha:vd a with
 | false =>
  rw [ha] at va
  rw [if_neg (fun h=>nomatch h.1)]
  simp only [de,fD,af,aj,aQ,go_sem,↓reduceIte,amO,amQ,amP,amR,va]
 | true =>
 rw [ha] at va
 cases hb:vd b with
 | false =>
  rw [hb] at vb
  rw [if_neg (fun h=>nomatch h.2)]
  simp only [de,fD,af,aj,aQ,go_sem,↓reduceIte,amO,amQ,amP,amR,va,vb]
 | true =>
 rw [hb] at vb
 rw [if_pos ⟨rfl,rfl⟩]
 by_cases a0:a.m.length=0
 ·have e1:((a.m.length:Int)=0)=True:=tt (by omega)
  rw [if_pos (Or.inl a0)]
  simp only [de,fD,af,aj,aQ,go_sem,↓reduceIte,amO,amQ,amP,amR,va,vb,e1]
 have e1:((a.m.length:Int)=0)=False:=ff (by omega)
 by_cases b0:b.m.length=0
 ·have e2:((b.m.length:Int)=0)=True:=tt (by omega)
  rw [if_pos (Or.inr b0)]
  simp only [de,fD,af,aj,aQ,go_sem,↓reduceIte,amO,amQ,amP,amR,va,vb,e1,e2]
 have e2:((b.m.length:Int)=0)=False:=ff (by omega)
 rw [if_neg (fun h=>h.elim a0 b0)]
 obtain ⟨a1,a2,a3,a4⟩:=cO ha oa.lb
 obtain ⟨b1,b2,b3,b4⟩:=cO hb ob.lb
 have za:=mo oa.lb (Nat.le_trans a1 (by decide))
 have zb:=mo ob.lb (Nat.le_trans b1 (by decide))
 have pa:=eu (db ha a0)
 have w1:IntKind.i64.wrap (((ah (ab a.m):Nat):Int)+(ah (ab b.m):Nat))=((ah (ab a.m)+ah (ab b.m):Nat):Int):=wi (by omega) (by omega)
 have w2:IntKind.i64.wrap (((ah (ab a.m)+ah (ab b.m):Nat):Int) - 1)=((ah (ab a.m)+ah (ab b.m) - 1:Nat):Int):=wi (by omega) (by omega)
 by_cases c0:4096 < ah (ab a.m)+ah (ab b.m) - 1
 ·have e3:((4096:Int) < ((ah (ab a.m)+ah (ab b.m) - 1:Nat):Int))=True:=tt (by omega)
  rw [if_pos c0]
  simp only [de,fD,af,aj,aQ,go_sem,↓reduceIte,amO,amQ,amP,amR,amS,amT,va,vb,e1,e2,za,zb,w1,w2,e3]
 have e3:((4096:Int) < ((ah (ab a.m)+ah (ab b.m) - 1:Nat):Int))=False:=ff (by omega)
 rw [if_neg c0]
 have hp:=oZ (ab a.m) (ab b.m)
 have hl:(ap (ab a.m*ab b.m)).length≤129:=aK (by omega)
 have hm:=Sb oa.lb ob.lb a1 b1
 rw [fj,if_neg (by omega)] at hm
 have w3:IntKind.i64.wrap (a.e+b.e)=a.e+b.e:=i64_in _ ⟨by omega,by omega⟩
 have hc:=sE (neg:=a.neg != b.neg) (e:=a.e+b.e) (aM (ab a.m*ab b.m)) (Nat.le_trans hl (by decide)) ⟨by omega,by omega⟩
 rw [aF] at hc
 have hd:=DF (rH (a.neg != b.neg) (ab a.m*ab b.m) (a.e+b.e)) (Nat.le_trans (sG (k:=129) (by omega)) (by decide))
 unfold vZ
 generalize aU (a.neg != b.neg) (ab a.m*ab b.m) (a.e+b.e)=d at hc hd ⊢
 simp only [af,aj] at hc hd
 cases hv:mu (ah (ab d.m)) d.e with
 | false =>
  rw [hv,if_neg (fun h=>nomatch h)] at hd
  rw [if_neg (fun h=>nomatch h)]
  simp only [de,fD,af,aj,aQ,go_sem,↓reduceIte,amO,amQ,amP,amR,amS,amT,va,vb,e1,e2,za,zb,w1,w2,w3,e3,hm,jh,hc,hd]
 | true =>
  rw [hv,if_pos rfl] at hd
  rw [if_pos rfl]
  simp only [de,fD,af,aj,go_sem,↓reduceIte,amO,amQ,amP,amR,amS,amT,va,vb,e1,e2,za,zb,w1,w2,w3,e3,hm,jh,hc,hd]
theorem DJ {p:Int}:R F.round_precise [I p] []=some (B (decide (8≤p) && decide (p≤512)),[]):=by
 refine av Dx Dw (yt false) rfl ?_
 by_cases a1 : ¬ (8≤p)
 ·simp only [gP,oP,go_sem,↓reduceIte,amO,a1]
 replace a1:=Decidable.not_not.1 a1
 simp only [gP,oP,go_sem,↓reduceIte,amO,a1]
end Go.Ab
namespace Go.Ab
open Go Go.IntWalk
set_option maxRecDepth 4000
theorem sH {m:List Nat} (hb:Lb m):ah (ab m)≤32*m.length:=by
 rw [bl,Nat.pow_mul]
 exact bC hb
def nQ (m:List Nat) (e:Int) (more:Bool):AV := .agg [lm m,I e,B more]
theorem abw {d:Rd}:R F.round_of [af d] []=some (nQ d.m d.e false,[]):=by
 refine av PC PB (H8 false) rfl ?_
 simp only [pU,C0,af,aj,nQ,go_sem,↓reduceIte,amO,amQ,amP,amR]
theorem rI {m:List Nat} (hb:Lb m) (h1:m.length≤256) {k:Nat} (hk:k≤65536) (hl:(ap (ab m*2 ^ k)).length≤256):R F.round_shl [lm m,I k] []=some (lm (ap (ab m*2 ^ k)),[]):=by
 refine av M9 M8 (FA false) rfl ?_
 have hs:=Sd (n:=(k:Nat)) hb h1
 rw [if_neg (by omega),Int.toNat_natCast,fj,if_neg (by omega)] at hs
 simp only [oR,AE,go_sem,↓reduceIte,amO,amQ,amP,amR,hs]
theorem Sg {x y:Nat}:aY x y=0↔x=y:=by
 unfold aY
 constructor
 ·intro h
  split at h
  ·exact nomatch h
  ·split at h
   ·exact nomatch h
   ·omega
 ·intro h
  rw [if_neg (by omega),if_neg (by omega)]
theorem Ut {x n:Nat}:x / 2 ^ (min n (ah x))=x / 2 ^ n∧(x / 2 ^ (min n (ah x))*2 ^ (min n (ah x))=x↔x % 2 ^ n=0):=by
 by_cases h:n≤ah x
 ·rw [Nat.min_eq_left h]
  refine ⟨rfl,?_⟩
  have:=Nat.div_add_mod x (2 ^ n)
  rw [Nat.mul_comm] at this
  omega
 ·have hb:x < 2 ^ ah x:=bl.1 (Nat.le_refl _)
  have hn:x < 2 ^ n:=bl.1 (by omega)
  rw [Nat.min_eq_right (by omega),Nat.div_eq_of_lt hb,Nat.div_eq_of_lt hn,Nat.mod_eq_of_lt hn,Nat.zero_mul]
  exact ⟨rfl,⟨fun h=>h.symm,fun h=>h.symm⟩⟩
theorem FK {m:List Nat} (hb:Lb m) (h1:m.length≤256) {n:Nat} (hn:n < 4611686018427387904):R F.round_shr [lm m,I n] []=some (.tup [lm (ap (ab m / 2 ^ n)),B (decide (ab m % 2 ^ n ≠ 0))],[]):=by
 refine av Nb Na (FB false) rfl ?_
 have hB:=zn hb (Nat.le_trans h1 (by decide))
 have hlen:=sH hb
 obtain ⟨q1,q2⟩:=Ut (x:=ab m) (n:=n)
 generalize hk:min n (ah (ab m))=k at q1 q2
 have k1:k≤8192:=by omega
 have hs:=Se (n:=(k:Nat)) hb h1
 rw [if_neg (by omega),Int.toNat_natCast,q1] at hs
 rw [q1] at q2
 have hle:ab m / 2 ^ n*2 ^ k≤ab m:=by
  rw [← q1]
  exact Nat.div_mul_le_self _ _
 have l1:(ap (ab m / 2 ^ n)).length≤m.length:=fU (Nat.lt_of_le_of_lt (Nat.div_le_self _ _) (bC hb))
 have l2:(ap (ab m / 2 ^ n*2 ^ k)).length≤m.length:=fU (Nat.lt_of_le_of_lt hle (bC hb))
 have hl:=rI (aM (ab m / 2 ^ n)) (by omega) (k:=k) (by omega) (by rw [aF]; omega)
 rw [aF] at hl
 have hc:=uW (aM (ab m / 2 ^ n*2 ^ k)) hb (by omega) (by omega)
 rw [aF] at hc
 have hz:decide (ab m % 2 ^ n ≠ 0) = !decide (aY (ab m / 2 ^ n*2 ^ k) (ab m)=0):=by
  rw [← decide_not,decide_eq_decide,ne_eq,not_congr (Sg.trans q2)]
 rw [hz]
 generalize aY (ab m / 2 ^ n*2 ^ k) (ab m)=c at hc ⊢
 by_cases h:ah (ab m) < n
 ·have e2:k=ah (ab m):=by omega
  have e1:((k:Int) < n)=True:=tt (by omega)
  rw [← e2] at hB
  simp only [lA,tX,go_sem,↓reduceIte,amO,amQ,amP,amR,hB,e1,hs,hl,hc]
 ·have e1:(((ah (ab m):Nat):Int) < n)=False:=ff (by omega)
  have e2:k=n:=by omega
  subst e2
  simp only [lA,tX,go_sem,↓reduceIte,amO,amQ,amP,amR,hB,e1,hs,hl,hc]
end Go.Ab
namespace Go.Ab
open Go Go.IntWalk
set_option maxRecDepth 4000
def NJ (l:List Rd):List (List AV):=l.map aj
def KI (l:List Rd):AV := .sl 3 (NJ l)
@[go_sem] theorem ajy (l:List Rd):(NJ l).length=l.length:=by simp [NJ]
theorem WC {l:List Rd} {i:Int} {n:Nat} {d:Rd} (hi:i=n) (h:l[n]?=some d):aV (NJ l) i=some (.ipt (aj d)):=by
 subst hi
 simp [aV,NJ,h]
theorem PP (p:Int) (l:List Rd) (ok:∀ d ∈ l,Ok0 d) (h2:l.length≤100000):∀ (k i:Nat),i+k=l.length→∀ (s:am) (h:ac),s 0=I p→s 7=KI l→s 8=I l.length→s 9=I i →
  ∃ hh,au 0 [0] (aq (ak R (ae false) gN) [0,7,8,9] [] s h)=if ((l.drop i).all vd)=true then some (.normal,⟨upd (fun _ => .any) 0 (I p),fun _ => .dead⟩) else some (.ret,⟨upd (fun _ => .any) 4 (I 1),hh⟩):=by
 intro k
 induction k with
 | zero =>
  intro i hi s h h0 h7 h8 h9
  have e1:((i:Int) < l.length)=False:=ff (by omega)
  rw [List.drop_eq_nil_of_le (by omega),ao,List.all_nil,if_pos rfl]
  refine ⟨fun _ => .dead,?_⟩
  simp only [gN,go_sem,↓reduceIte,amO,h0,h7,h8,h9,e1]
 | succ k ih =>
  intro i hi s h h0 h7 h8 h9
  have hlt:i < l.length:=by omega
  have e1:((i:Int) < l.length)=True:=tt (by omega)
  have e2:aV (NJ l) (i:Int)=some (.ipt (aj l[i])):=WC rfl (List.getElem?_eq_getElem hlt)
  have e5:IntKind.i64.wrap ((i:Int)+1)=((i+1:Nat):Int):=wi (by omega) (by omega)
  have e3:=ew (ok l[i] (List.getElem_mem hlt))
  rw [List.drop_eq_getElem_cons hlt,List.all_cons,ao]
  have ih':=ih (i+1) (by omega)
  generalize l[i]=d at e2 e3 ⊢
  simp only [af] at e3
  simp only [aj] at e2 e3
  generalize aq _ _ _=L at ih' ⊢
  cases hv:vd d with
  | false =>
   rw [hv] at e3
   refine ⟨?hh,?_⟩
   rotate_left
   rw [Bool.false_and,if_neg Bool.false_ne_true]
   simp only [gN,go_sem,↓reduceIte,amO,amQ,amP,amR,h0,h7,h8,h9,KI,e1,e2,e3]
   rfl
  | true =>
   rw [hv] at e3
   rw [Bool.true_and]
   simp only [gN,go_sem,↓reduceIte,amO,amQ,amP,amR,h0,h7,h8,h9,KI,e1,e2,e3,e5]
   exact ih' _ _ rfl rfl rfl rfl
def aZ (p:Int) (l:List Rd):Int:=if l.all vd=true then (if 8≤p∧p≤512 then 0 else 2) else 1
theorem v8 {p:Int} {l:List Rd} (ok:∀ d ∈ l,Ok0 d) (h2:l.length≤100000):R F.round_fault [I p,KI l] []=some (I (aZ p l),[]):=by
 refine av HV HU (Bv false) rfl ?_
 have h3:=PP p l ok h2 l.length 0 (Nat.zero_add _)
 simp only [List.drop_zero,Int.natCast_zero] at h3
 unfold aZ
 cases ha:l.all vd with
 | false =>
  rw [ha] at h3
  simp only [if_neg (fun h:false=true=>nomatch h)] at h3 ⊢
  simp only [gx,m0,go_sem,↓reduceIte,amO,KI]
  rw [(h3 _ _ rfl rfl rfl rfl).choose_spec]
  simp only [go_sem,↓reduceIte]
 | true =>
  rw [ha] at h3
  simp only [] at h3 ⊢
  by_cases hp:8≤p∧p≤512
  ·have e1:(decide (8≤p) && decide (p≤512))=true:=by rw [decide_eq_true hp.1,decide_eq_true hp.2]; rfl
   have e2:=DJ (p:=p)
   rw [e1] at e2
   rw [if_pos hp]
   simp only [gx,m0,go_sem,↓reduceIte,amO,KI]
   rw [(h3 _ _ rfl rfl rfl rfl).choose_spec]
   simp only [go_sem,↓reduceIte,amQ,amP,e2]
  ·have e1:(decide (8≤p) && decide (p≤512))=false:=by
    by_cases h8:8≤p
    ·rw [decide_eq_false (p:=p≤512) (fun h=>hp ⟨h8,h⟩),Bool.and_false]
    ·rw [decide_eq_false h8,Bool.false_and]
   have e2:=DJ (p:=p)
   rw [e1] at e2
   rw [if_neg hp]
   simp only [gx,m0,go_sem,↓reduceIte,amO,KI]
   rw [(h3 _ _ rfl rfl rfl rfl).choose_spec]
   simp only [go_sem,↓reduceIte,amQ,amP,e2]
end Go.Ab
namespace Go.Ab
open Go Go.IntWalk
set_option maxRecDepth 4000
def bW:Cmd := .seq (.seq (.ops [1,2,6,8,9,55] [cm 52 2,cm 53 52,cg 54 53 true (.mv (.t 10)),co 55 (.pick (.t 53) (.t 54) (.c (.v (.bool false))))]) (.cond (.t 55) (.ops [1,2,6,8,9] [cm 57 9,⟨(some 58),none,.buildSl 1 [(.v (.int .u32 0))] 1 [(0,(.c (.v (.int .u32 1))))]⟩,⟨(some 59),none,.call (.c (.fn F.natural_Add [] [])) [(.t 57),(.t 58)]⟩,cm 56 59,co 60 (.ext 0 (.t 56)),co 61 (.ext 1 (.t 56)),cm 9 60]) (.skip))) (.seq (.seq (.ops [1,2,6,8,9,66] [cm 62 9,⟨(some 63),none,.call (.c (.fn F.natural_Bits [] [])) [(.t 62)]⟩,cm 64 8,co 65 (.bin .add (.t 63) (.t 64)),co 66 (.bin .gtr (.t 65) (.c (.v (.int .i64 16384))))]) (.cond (.t 66) (.seq (.seq (.ops [1,6,67] [cm 67 2]) (.cond (.t 67) (.seq (.ops [6,7] [co 68 (.build [(.v (.bool false)),.emp,(.v (.int .i64 0))] []),⟨none,none,.store 3 (.t 6) (.t 68)⟩,co 7 (.mv (.c (.v (.int .i64 9))))]) (.ret)) (.skip))) (.seq (.ops [1,6,9] [⟨(some 70),none,.buildSl 1 [(.v (.int .u32 0))] 1 [(0,(.c (.v (.int .u32 1))))]⟩,cm 71 1,⟨(some 72),none,.call (.c (.fn F.round_shl [] [])) [(.t 70),(.t 71)]⟩,⟨(some 73),none,.buildSl 1 [(.v (.int .u32 0))] 1 [(0,(.c (.v (.int .u32 1))))]⟩,⟨(some 74),none,.call (.c (.fn F.natural_Sub [] [])) [(.t 72),(.t 73)]⟩,cm 69 74,co 75 (.ext 0 (.t 69)),co 76 (.ext 1 (.t 69)),cm 9 75]) (.ops [6,8,9] [cm 77 1,co 78 (.bin .sub (.c (.v (.int .i64 16384))) (.t 77)),cm 8 78]))) (.skip))) (.seq (.ops [6,7] [cm 79 9,cm 80 8,⟨(some 81),none,.call (.c (.fn F.dyadic_Make [] [])) [(.c (.v (.bool false))),(.t 79),(.t 80)]⟩,co 82 (.ext 0 (.t 81)),co 83 (.ext 1 (.t 81)),⟨none,none,.store 3 (.t 6) (.t 82)⟩,cm 7 83]) (.ret)))
theorem nz:AD = .seq (.ops [1,2,3,6] [⟨(some 3),none,.box 3 (.t 0)⟩,⟨(some 6),none,.alloc [(.v (.bool false)),.emp,(.v (.int .i64 0))]⟩,co 7 (.mv (.c (.v (.int .i64 0))))]) (.seq (.dops [1,2,3,6,8] [co 13 (.fadr 1 (.t 3)),⟨(some 14),none,.load 1 false (.t 13)⟩,co 15 (.fadr 0 (.t 3)),⟨(some 16),none,.load 1 false (.t 15)⟩,⟨(some 17),none,.call (.c (.fn F.natural_Bits [] [])) [(.t 16)]⟩,co 18 (.bin .add (.t 14) (.t 17)),cm 19 1,co 20 (.bin .sub (.t 18) (.t 19)),co 21 (.mnx false (.t 20) [(.c (.v (.int .i64 (-16384))))]),cm 8 21] [(1,4)]) (.seq (.dops [1,2,3,6,8,10] [co 22 (.fadr 0 (.t 3)),⟨(some 23),none,.load 1 false (.t 22)⟩,co 24 (.fadr 2 (.t 3)),⟨(some 25),none,.load 1 false (.t 24)⟩,cm 9 23,cm 10 25] []) (.seq (.seq (.ops [1,2,3,6,8,10,29] [co 26 (.fadr 1 (.t 3)),⟨(some 27),none,.load 1 false (.t 26)⟩,cm 28 8,co 29 (.bin .geq (.t 27) (.t 28))]) (.cond (.t 29) (.ops [1,2,6,8,9,10] [co 30 (.fadr 0 (.t 3)),⟨(some 31),none,.load 1 false (.t 30)⟩,co 32 (.fadr 1 (.t 3)),⟨(some 33),none,.load 1 false (.t 32)⟩,cm 34 8,co 35 (.bin .sub (.t 33) (.t 34)),⟨(some 36),none,.call (.c (.fn F.round_shl [] [])) [(.t 31),(.t 35)]⟩,cm 9 36]) (.seq (.ops [1,2,6,8,10,11,12] [co 38 (.fadr 0 (.t 3)),⟨(some 39),none,.load 1 false (.t 38)⟩,cm 40 8,co 41 (.fadr 1 (.t 3)),⟨(some 42),none,.load 1 false (.t 41)⟩,co 43 (.bin .sub (.t 40) (.t 42)),⟨(some 44),none,.call (.c (.fn F.round_shr [] [])) [(.t 39),(.t 43)]⟩,cm 37 44,co 45 (.ext 0 (.t 37)),co 46 (.ext 1 (.t 37)),cm 11 45,cm 12 46]) (.ops [1,2,6,8,9,10] [cm 47 11,cm 48 10,cm 49 48,cg 50 49 false (.mv (.t 12)),co 51 (.pick (.t 49) (.c (.v (.bool true))) (.t 50)),cm 9 47,cm 10 51])))) bW))):=rfl
def cT (M:Nat) (e:Int) (p:Int):Int:=if e+(ah M:Nat) - p < -16384 then -16384 else e+(ah M:Nat) - p
def lD (M:Nat) (e:Int) (more:Bool) (u:Int):Nat × Bool:=if u≤e then (M*2 ^ (e - u).toNat,more) else (M / 2 ^ (u - e).toNat,more || decide (M % 2 ^ (u - e).toNat ≠ 0))
def iG (up:Bool) (q:Nat × Bool):Nat:=if (up && q.2)=true then q.1+1 else q.1
def rB (q:Nat) (u:Int):AV:=vZ (aU false q u)
def KJ (p:Int) (up:Bool) (q:Nat) (u:Int):AV:=if 16384 < (ah q:Nat)+u then (if up=true then .tup [af aQ,I 9] else rB (2 ^ p.toNat - 1) (16384 - p)) else rB q u
theorem NK {q:Nat} {u:Int} (hq:ah q≤8192) (h1 : -32768≤u) (h2:u≤32768):R F.dyadic_Make [B false,lm (ap q),I u] []=some (rB q u,[]):=by
 have hl:(ap q).length≤256:=aK (by omega)
 rw [WB (aM q) (Nat.lt_of_le_of_lt hl (by decide)),if_neg (by omega),aF]
 rfl
theorem Si {q:Nat} (hq:ah q≤8000):R F.natural_Add [lm (ap q),lm [1]] []=some (.tup [lm (ap (q+1)),I 0],[]):=by
 have hl:(ap q).length≤250:=aK (by omega)
 have h1:Lb [1]:=fun x hx=>by
  rw [List.mem_singleton.1 hx]
  decide
 have h2:ah (q+1)≤8001:=BZ hq
 have hl2:(ap (q+1)).length≤256:=aK (by omega)
 rw [R7 (aM q) h1 (by omega) (by decide),aF]
 show some (fj (q+1),[])=_
 rw [fj,if_neg (by omega)]
theorem pz:ab [1]=1:=rfl
theorem yz:Lb [1]:=fun x hx=>by
 rw [List.mem_singleton.1 hx]
 decide
theorem YI (n:Nat) (hn:n≤1000):R F.round_shl [lm [1],I (n:Nat)] []=some (lm (ap (2 ^ n)),[])∧R F.natural_Sub [lm (ap (2 ^ n)),lm [1]] []=some (.tup [lm (ap (2 ^ n - 1)),I 0],[]):=by
 have hb:ah (2 ^ n)≤n+1:=by
  rw [bl]
  exact Nat.pow_lt_pow_right (by decide) (Nat.lt_succ_self n)
 have h1:(ap (2 ^ n)).length≤256:=aK (by omega)
 have h2:=rI yz (by decide) (k:=n) (by omega) (by rw [pz,Nat.one_mul]; exact h1)
 rw [pz,Nat.one_mul] at h2
 have h3:=R9 (aM (2 ^ n)) yz h1 (by decide)
 have h4:0 < 2 ^ n:=Nat.two_pow_pos n
 have h5:ah (2 ^ n - 1)≤n:=by
  rw [bl]
  omega
 have h6:(ap (2 ^ n - 1)).length≤256:=aK (by omega)
 rw [aF,pz,if_neg (by omega),fj,if_neg (by omega)] at h3
 exact ⟨h2,h3⟩
theorem o4:AV.sl 1 [[AV.v (.int .u32 1)]]=lm [1]:=rfl
theorem B2 {n:Nat} {u:Int} {up more:Bool} {q:Nat} (hp:8≤n∧n≤512) (hq:ah q≤7000) (hu : -16384≤u∧u≤60000) (s:am) (z:Ob)
  (h1:s 1=I (n:Nat)) (h2:s 2=B up) (h6:s 6 = .ref 6 none 0 0 0) (h8:s 8=I u) (h9:s 9=lm (ap q)) (h10:s 10=B more) :
  eE false [[.o 0 [],.o 2 [],.o 0 []],[]] [.cell 6 3 true,.t 7] 0 (ak R (ae false) bW s (upd (upd (fun _ => .dead) 3 z) 6 (.bx [.v (.bool false),.emp,.v (.int .i64 0)])))=some (KJ (n:Nat) up (iG up (q,more)) u,[]):=by
 have hi:=Si (q:=q) (by omega)
 obtain ⟨t1,t2⟩:=YI n (by omega)
 have hb:ah (iG up (q,more))≤7001:=by
  unfold iG
  split
  ·exact BZ hq
  ·exact Nat.le_trans hq (by decide)
 have hB:=zn (aM (iG up (q,more))) (Nat.le_trans (aK (k:=256) (by omega)) (by decide))
 rw [aF] at hB
 have w1:IntKind.i64.wrap (((ah (iG up (q,more)):Nat):Int)+u)=((ah (iG up (q,more)):Nat):Int)+u:=i64_in _ ⟨by omega,by omega⟩
 have w2:IntKind.i64.wrap (16384 - (n:Int))=16384 - (n:Int):=i64_in _ ⟨by omega,by omega⟩
 have hm2:R F.dyadic_Make [B false,lm (ap (2 ^ n - 1)),I (16384 - (n:Int))] []=some (rB (2 ^ n - 1) (16384 - (n:Int)),[]):=NK (Un (by omega)) (by omega) (by omega)
 unfold KJ
 by_cases ho:16384 < ((ah (iG up (q,more)):Nat):Int)+u
 ·have e1:(16384 < ((ah (iG up (q,more)):Nat):Int)+u)=True:=tt ho
  rw [if_pos ho,Int.toNat_natCast]
  clear ho hb
  cases up with
  | false =>
   simp only [iG,Bool.false_and,if_neg Bool.false_ne_true] at hB w1 e1 ⊢
   unfold rB vZ at hm2 ⊢
   generalize aU false (2 ^ n - 1) (16384 - (n:Int))=dd at hm2 ⊢
   simp only [af,aj] at hm2
   cases hv:mu (ah (ab dd.m)) dd.e with
   | true =>
    rw [hv] at hm2
    rw [if_pos rfl] at hm2 ⊢
    simp only [bW,af,aj,go_sem,↓reduceIte,amO,amQ,amP,amR,amS,h1,h2,h6,h8,h9,h10,hB,w1,e1,w2,t1,t2,o4,hm2]
   | false =>
    rw [hv] at hm2
    rw [if_neg Bool.false_ne_true] at hm2 ⊢
    simp only [bW,af,aj,aQ,go_sem,↓reduceIte,amO,amQ,amP,amR,amS,h1,h2,h6,h8,h9,h10,hB,w1,e1,w2,t1,t2,o4,hm2]
  | true =>
   cases more with
   | false =>
    simp only [iG,Bool.and_false,if_neg Bool.false_ne_true] at hB w1 e1 ⊢
    simp only [bW,af,aj,aQ,go_sem,↓reduceIte,amO,amQ,amP,amR,amS,h1,h2,h6,h8,h9,h10,hB,w1,e1]
   | true =>
    simp only [iG,Bool.and_true,if_true] at hB w1 e1 ⊢
    simp only [bW,af,aj,aQ,go_sem,↓reduceIte,amO,amQ,amP,amR,amS,h1,h2,h6,h8,h9,h10,hB,w1,e1,hi,o4]
 ·have e1:(16384 < ((ah (iG up (q,more)):Nat):Int)+u)=False:=ff ho
  rw [if_neg ho]
  have hm:=NK (q:=iG up (q,more)) (u:=u) (by omega) (by omega) (by omega)
  clear ho hb
  cases up with
  | false =>
   simp only [iG,Bool.false_and,if_neg Bool.false_ne_true] at hB w1 e1 hm ⊢
   unfold rB vZ at hm ⊢
   generalize aU false q u=dd at hm ⊢
   simp only [af,aj] at hm
   cases hv:mu (ah (ab dd.m)) dd.e with
   | true =>
    rw [hv] at hm
    rw [if_pos rfl] at hm ⊢
    simp only [bW,af,aj,go_sem,↓reduceIte,amO,amQ,amP,amR,amS,h1,h2,h6,h8,h9,h10,hB,w1,e1,hm]
   | false =>
    rw [hv] at hm
    rw [if_neg Bool.false_ne_true] at hm ⊢
    simp only [bW,af,aj,aQ,go_sem,↓reduceIte,amO,amQ,amP,amR,amS,h1,h2,h6,h8,h9,h10,hB,w1,e1,hm]
  | true =>
   cases more with
   | false =>
    simp only [iG,Bool.and_false,if_neg Bool.false_ne_true] at hB w1 e1 hm ⊢
    unfold rB vZ at hm ⊢
    generalize aU false q u=dd at hm ⊢
    simp only [af,aj] at hm
    cases hv:mu (ah (ab dd.m)) dd.e with
    | true =>
     rw [hv] at hm
     rw [if_pos rfl] at hm ⊢
     simp only [bW,af,aj,go_sem,↓reduceIte,amO,amQ,amP,amR,amS,h1,h2,h6,h8,h9,h10,hB,w1,e1,hm]
    | false =>
     rw [hv] at hm
     rw [if_neg Bool.false_ne_true] at hm ⊢
     simp only [bW,af,aj,aQ,go_sem,↓reduceIte,amO,amQ,amP,amR,amS,h1,h2,h6,h8,h9,h10,hB,w1,e1,hm]
   | true =>
    simp only [iG,Bool.and_true,if_true] at hB w1 e1 hm ⊢
    unfold rB vZ at hm ⊢
    generalize aU false (q+1) u=dd at hm ⊢
    simp only [af,aj] at hm
    cases hv:mu (ah (ab dd.m)) dd.e with
    | true =>
     rw [hv] at hm
     rw [if_pos rfl] at hm ⊢
     simp only [bW,af,aj,go_sem,↓reduceIte,amO,amQ,amP,amR,amS,h1,h2,h6,h8,h9,h10,hB,w1,e1,hi,o4,hm]
    | false =>
     rw [hv] at hm
     rw [if_neg Bool.false_ne_true] at hm ⊢
     simp only [bW,af,aj,aQ,go_sem,↓reduceIte,amO,amQ,amP,amR,amS,h1,h2,h6,h8,h9,h10,hB,w1,e1,hi,o4,hm]
theorem YJ {M:List Nat} (hb:Lb M) (hl:M.length≤256) {e:Int} {n:Nat} {more up:Bool} (he : -40000≤e∧e≤40000) (hp:8≤n∧n≤512):R F.round_cut [nQ M e more,I (n:Nat),B up] []=some (KJ (n:Nat) up (iG up (lD (ab M) e more (cT (ab M) e (n:Nat)))) (cT (ab M) e (n:Nat)),[]):=by
 refine av M7 M6 (Fz false) rfl ?_
 have hB:=zn hb (Nat.le_trans hl (by decide))
 have hlen:=sH hb
 have w1:IntKind.i64.wrap (e+(ah (ab M):Nat))=e+(ah (ab M):Nat):=i64_in _ ⟨by omega,by omega⟩
 have w2:IntKind.i64.wrap (e+(ah (ab M):Nat) - (n:Nat))=e+(ah (ab M):Nat) - (n:Nat):=i64_in _ ⟨by omega,by omega⟩
 obtain ⟨u,hu⟩:∃ u,cT (ab M) e (n:Nat)=u:=⟨_,rfl⟩
 rw [hu]
 unfold cT at hu
 unfold lD
 have hu1 : -16384≤u∧e+(ah (ab M):Nat) - (n:Nat)≤u∧(u = -16384∨u=e+(ah (ab M):Nat) - (n:Nat)):=by
  split at hu <;> omega
 by_cases hc:u≤e
 ·have e1:(u≤e)=True:=tt hc
  rw [if_pos hc]
  have w3:IntKind.i64.wrap (e - u)=(((e - u).toNat:Nat):Int):=wi (by omega) (by omega)
  have hq:ah (ab M*2 ^ (e - u).toNat)≤7000:=by
   by_cases h0:ab M=0
   ·rw [h0,Nat.zero_mul]
    exact Nat.zero_le _
   ·rw [da _ h0]
    omega
  by_cases h64:(e - u).toNat≤65536
  ·have hs:=rI hb (by omega) (k:=(e - u).toNat) h64 (aK (by omega))
   simp only [i8,nz,nQ,go_sem,↓reduceIte,amO,amQ,amP,amS,amT,hB,w1,w2,hu,e1,w3,hs]
   exact B2 hp hq (by omega) _ _ rfl rfl rfl rfl rfl rfl
  ·omega
 ·have e1:(u≤e)=False:=ff hc
  rw [if_neg hc]
  have w3:IntKind.i64.wrap (u - e)=(((u - e).toNat:Nat):Int):=wi (by omega) (by omega)
  have hs:=FK hb (by omega) (n:=(u - e).toNat) (by omega)
  have hq:ah (ab M / 2 ^ (u - e).toNat)≤7000:=by
   rw [du]
   omega
  cases more with
  | false =>
   rw [Bool.false_or]
   simp only [i8,nz,nQ,go_sem,↓reduceIte,amO,amQ,amP,amR,amS,amT,hB,w1,w2,hu,e1,w3,hs]
   exact B2 hp hq (by omega) _ _ rfl rfl rfl rfl rfl rfl
  | true =>
   rw [Bool.true_or]
   simp only [i8,nz,nQ,go_sem,↓reduceIte,amO,amQ,amP,amR,amS,amT,hB,w1,w2,hu,e1,w3,hs]
   exact B2 hp hq (by omega) _ _ rfl rfl rfl rfl rfl rfl
end Go.Ab
namespace Go.Ab
open Go Go.IntWalk
set_option maxRecDepth 4000
def nA (d:Rd):Rd × Int:=if mu (ah (ab d.m)) d.e=true then (d,0) else (aQ,9)
def o5 (p:Int) (up:Bool) (q:Nat) (u:Int):Rd × Int:=if 16384 < (ah q:Nat)+u then (if up=true then (aQ,9) else nA (aU false (2 ^ p.toNat - 1) (16384 - p))) else nA (aU false q u)
def rV (r:Rd × Int):AV := .tup [af r.1,I r.2]
theorem NL (d:Rd):vZ d=rV (nA d):=by
 unfold vZ nA
 split <;> rfl
theorem WD (p:Int) (up:Bool) (q:Nat) (u:Int):KJ p up q u=rV (o5 p up q u):=by
 unfold KJ o5 rB
 split
 ·split
  ·rfl
  ·exact NL _
 ·exact NL _
theorem B3 (n:Nat):ah (2 ^ n - 1)≤n:=by
 rw [bl]
 have:=Nat.two_pow_pos n
 omega
theorem WE (p:Int) (up:Bool) (q:Nat) (u:Int):Lb (o5 p up q u).1.m:=by
 have h0:Lb aQ.m:=fun x hx=>nomatch hx
 have hc:∀ d:Rd,Lb d.m→Lb (nA d).1.m:=fun d hd=>by
  unfold nA
  split
  ·exact hd
  ·exact h0
 unfold o5
 split
 ·split
  ·exact h0
  ·exact hc _ (rH _ _ _)
 ·exact hc _ (rH _ _ _)
theorem Uu (p:Int) (up:Bool) (q:Nat) (u:Int) (hp:p.toNat≤8000) (hq:ah q≤8000):(o5 p up q u).1.m.length≤256:=by
 have h0:aQ.m.length≤256:=Nat.zero_le _
 have hc:∀ d:Rd,d.m.length≤256→(nA d).1.m.length≤256:=fun d hd=>by
  unfold nA
  split
  ·exact hd
  ·exact h0
 unfold o5
 split
 ·split
  ·exact h0
  ·exact hc _ (sG (Nat.le_trans (B3 _) (by omega)))
 ·exact hc _ (sG (by omega))
def cP (d:Rd):Rd:=if vd d=false∨d.m.length=0 then aQ else ⟨!d.neg,d.m,d.e⟩
def gp (M:Nat) (e:Int) (more:Bool) (p:Int) (up:Bool):Rd × Int:=o5 p up (iG up (lD M e more (cT M e p))) (cT M e p)
def gS (neg:Bool) (r:Rd × Int):Rd × Int:=if r.2=0∧neg=true then (cP r.1,r.2) else r
theorem Sj {M:Nat} {e:Int} {more up:Bool} {n:Nat} (hM:ah M≤8192) (hp:8≤n∧n≤512) (he : -40000≤e∧e≤40000):ah (iG up (lD M e more (cT M e (n:Nat))))≤7001:=by
 have hq:ah (lD M e more (cT M e (n:Nat))).1≤7000:=by
  obtain ⟨u,hu⟩:∃ u,cT M e (n:Nat)=u:=⟨_,rfl⟩
  rw [hu]
  unfold cT at hu
  have hu1 : -16384≤u∧e+(ah M:Nat) - (n:Nat)≤u∧(u = -16384∨u=e+(ah M:Nat) - (n:Nat)):=by
   split at hu <;> omega
  unfold lD
  split
  ·by_cases h0:M=0
   ·rw [h0,Nat.zero_mul]
    exact Nat.zero_le _
   ·rw [da _ h0]
    omega
  ·rw [du]
   omega
 generalize lD M e more (cT M e (n:Nat))=q at hq ⊢
 unfold iG
 split
 ·exact BZ hq
 ·exact Nat.le_trans hq (by decide)
theorem yA {M:List Nat} (hb:Lb M) (hl:M.length≤256) {e:Int} {n:Nat} {more up neg:Bool} (he : -40000≤e∧e≤40000) (hp:8≤n∧n≤512):R F.round_signed [B neg,nQ M e more,I (n:Nat),B up] []=some (rV (gS neg (gp (ab M) e more (n:Nat) (up != neg))),[]):=by
 refine av Fg Ff (zT false) rfl ?_
 have hc:=YJ (more:=more) (up:=up != neg) hb hl he hp
 have hlen:=sH hb
 have hB:=Sj (M:=ab M) (e:=e) (more:=more) (up:=up != neg) (by omega) hp he
 rw [WD] at hc
 have hL:=WE (n:Nat) (up != neg) (iG (up != neg) (lD (ab M) e more (cT (ab M) e (n:Nat)))) (cT (ab M) e (n:Nat))
 have hN:=Uu (n:Nat) (up != neg) (iG (up != neg) (lD (ab M) e more (cT (ab M) e (n:Nat)))) (cT (ab M) e (n:Nat)) (by omega) (by omega)
 unfold gp
 generalize o5 (n:Nat) (up != neg) (iG (up != neg) (lD (ab M) e more (cT (ab M) e (n:Nat)))) (cT (ab M) e (n:Nat))=r at hc hL hN ⊢
 obtain ⟨d,x⟩:=r
 have hn:=KH (d:=d) ⟨hL,Nat.lt_of_le_of_lt hN (by decide)⟩
 simp only [rV,af,aj,nQ] at hc hn
 unfold gS cP
 by_cases hx:x=0
 ·have e1:(x=0)=True:=tt hx
  cases neg with
  | false =>
   rw [if_neg (fun h=>nomatch h.2)]
   simp only [fO,l5,rV,af,aj,nQ,go_sem,↓reduceIte,amO,amQ,amP,amR,jh,hc,e1]
  | true =>
   rw [if_pos ⟨hx,rfl⟩]
   generalize (if vd d=false∨d.m.length=0 then aQ else (⟨!d.neg,d.m,d.e⟩:Rd))=d2 at hn ⊢
   simp only [fO,l5,rV,af,aj,nQ,go_sem,↓reduceIte,amO,amQ,amP,amR,jh,hc,e1,hn]
 ·have e1:(x=0)=False:=ff hx
  rw [if_neg (fun h=>hx h.1)]
  simp only [fO,l5,rV,af,aj,nQ,go_sem,↓reduceIte,amO,amQ,amP,amR,jh,hc,e1]
end Go.Ab
namespace Go.Ab
open Go Go.IntWalk
set_option maxRecDepth 4000
def j6 (d:Rd) (p:Int) (up:Bool):Rd × Int:=if aZ p [d]=0 then gS d.neg (gp (ab d.m) d.e false p (up != d.neg)) else (aQ,aZ p [d])
theorem ix {p:Int} {l:List Rd} (h:aZ p l=0):l.all vd=true∧8≤p∧p≤512:=by
 unfold aZ at h
 split at h
 ·rename_i h1
  split at h
  ·rename_i h2
   exact ⟨h1,h2⟩
  ·exact nomatch h
 ·exact nomatch h
theorem DK {d:Rd} (h:vd d=true) (hb:Lb d.m):d.m.length≤128:=by
 obtain ⟨h1,h2,h3,h4⟩:=cO h hb
 by_cases h0:d.m.length=0
 ·omega
 obtain ⟨g1,g2,g3,g4⟩:=yy h h0
 have h5:4294967296 ^ (d.m.length - 1)≤ab d.m:=by
  have h6:=wT (a:=d.m) (i:=d.m.length - 1) (by omega)
  rw [show d.m.length - 1+1=d.m.length by omega,List.take_length] at h6
  rw [h6]
  exact Nat.le_trans (Nat.le_mul_of_pos_right _ (Nat.pos_of_ne_zero g3)) (Nat.le_add_left _ _)
 have h7:32*(d.m.length - 1) < ah (ab d.m):=by
  rw [nP,Nat.pow_mul]
  exact h5
 omega
theorem v9 {d:Rd} (ok:Ok0 d) {p:Int} {up:Bool}:R F.round_round [af d,I p,B up] []=some (rV (j6 d p up),[]):=by
 refine av H0 HZ (Bx false) rfl ?_
 have hf:R F.round_fault [I p,.sl 3 [[B d.neg,lm d.m,I d.e]]] []=some (I (aZ p [d]),[]):=v8 (p:=p) (l:=[d]) (fun x hx=>by rw [List.mem_singleton.1 hx]; exact ok) (show 1≤100000 by decide)
 unfold j6
 by_cases h0:aZ p [d]=0
 ·obtain ⟨v1,v2,v3⟩:=ix h0
  have v4:vd d=true:=by simpa using v1
  obtain ⟨h1,h2,h3,h4⟩:=cO v4 ok.lb
  have h5:=DK v4 ok.lb
  rw [if_pos h0]
  rw [h0] at hf
  obtain ⟨n,rfl⟩:=Int.eq_ofNat_of_zero_le (show 0≤p by omega)
  have hs:=yA (M:=d.m) (e:=d.e) (n:=n) (more:=false) (up:=up) (neg:=d.neg) ok.lb (by omega) ⟨by omega,by omega⟩ ⟨by omega,by omega⟩
  have ho:=abw (d:=d)
  generalize gS d.neg (gp (ab d.m) d.e false (n:Nat) (up != d.neg))=r at hs ⊢
  simp only [rV,af,aj,nQ] at hs ho
  simp only [iZ,qL,rV,af,aj,go_sem,↓reduceIte,amO,amQ,amP,amR,amS,amT,hf,hs,ho]
 ·have e1:(aZ p [d]=0)=False:=ff h0
  rw [if_neg h0]
  simp only [iZ,qL,rV,af,aj,aQ,go_sem,↓reduceIte,amO,amQ,amP,amR,amS,hf,e1]
theorem YK {d:Rd} (ok:Ok0 d) {p:Int}:R F.round_Up [af d,I p] []=some (rV (j6 d p true),[]):=by
 refine av PA Pz (HY false) rfl ?_
 have hr:=v9 ok (p:=p) (up:=true)
 generalize j6 d p true=r at hr ⊢
 simp only [rV,af,aj] at hr
 simp only [pT,CY,rV,af,aj,go_sem,↓reduceIte,amO,amQ,amP,amR,hr]
theorem Uv {d:Rd} (ok:Ok0 d) {p:Int}:R F.round_Down [af d,I p] []=some (rV (j6 d p false),[]):=by
 refine av J9 J8 (Ds false) rfl ?_
 have hr:=v9 ok (p:=p) (up:=false)
 generalize j6 d p false=r at hr ⊢
 simp only [rV,af,aj] at hr
 simp only [m5,xZ,rV,af,aj,go_sem,↓reduceIte,amO,amQ,amP,amR,hr]
end Go.Ab
namespace Go.Ab
open Go Go.IntWalk
set_option maxRecDepth 4000
def yB (a b:Rd) (p:Int) (up:Bool):Rd × Int:=if aZ p [a,b]=0 then (if a.m.length=0∨b.m.length=0 then (aQ,0) else gS (a.neg != b.neg) (gp (ab a.m*ab b.m) (a.e+b.e) false p (up != (a.neg != b.neg)))) else (aQ,aZ p [a,b])
theorem NM {a b:Rd} (oa:Ok0 a) (ob:Ok0 b) {p:Int} {up:Bool}:R F.round_mul [af a,af b,I p,B up] []=some (rV (yB a b p up),[]):=by
 refine av MN MM (E4 false) rfl ?_
 have hf:R F.round_fault [I p,.sl 3 [[B a.neg,lm a.m,I a.e],[B b.neg,lm b.m,I b.e]]] []=some (I (aZ p [a,b]),[]):=v8 (p:=p) (l:=[a,b]) (fun x hx=>by
  rcases List.mem_cons.1 hx with h | h
  ·rw [h]; exact oa
  ·rw [List.mem_singleton.1 h]; exact ob) (show 2≤100000 by decide)
 unfold yB
 by_cases h0:aZ p [a,b]=0
 ·obtain ⟨v1,v2,v3⟩:=ix h0
  have v4:vd a=true∧vd b=true:=by simpa using v1
  obtain ⟨va,vb⟩:=v4
  obtain ⟨a1,a2,a3,a4⟩:=cO va oa.lb
  obtain ⟨b1,b2,b3,b4⟩:=cO vb ob.lb
  rw [if_pos h0]
  rw [h0] at hf
  by_cases a0:a.m.length=0
  ·have e1:((a.m.length:Int)=0)=True:=tt (by omega)
   rw [if_pos (Or.inl a0)]
   simp only [gL,mN,rV,af,aj,aQ,go_sem,↓reduceIte,amO,amQ,amP,amR,amS,hf,e1]
  have e1:((a.m.length:Int)=0)=False:=ff (by omega)
  by_cases b0:b.m.length=0
  ·have e2:((b.m.length:Int)=0)=True:=tt (by omega)
   rw [if_pos (Or.inr b0)]
   simp only [gL,mN,rV,af,aj,aQ,go_sem,↓reduceIte,amO,amQ,amP,amR,amS,hf,e1,e2]
  have e2:((b.m.length:Int)=0)=False:=ff (by omega)
  rw [if_neg (fun h=>h.elim a0 b0)]
  obtain ⟨n,rfl⟩:=Int.eq_ofNat_of_zero_le (show 0≤p by omega)
  have hp:=oZ (ab a.m) (ab b.m)
  have hl:(ap (ab a.m*ab b.m)).length≤256:=aK (by omega)
  have hm:=Sb oa.lb ob.lb a1 b1
  rw [fj,if_neg (by omega)] at hm
  have w3:IntKind.i64.wrap (a.e+b.e)=a.e+b.e:=i64_in _ ⟨by omega,by omega⟩
  have hs:=yA (M:=ap (ab a.m*ab b.m)) (e:=a.e+b.e) (n:=n) (more:=false) (up:=up) (neg:=a.neg != b.neg) (aM _) hl ⟨by omega,by omega⟩ ⟨by omega,by omega⟩
  rw [aF] at hs
  generalize gS (a.neg != b.neg) (gp (ab a.m*ab b.m) (a.e+b.e) false (n:Nat) (up != (a.neg != b.neg)))=r at hs ⊢
  simp only [rV,af,aj,nQ] at hs
  simp only [gL,mN,rV,af,aj,go_sem,↓reduceIte,amO,amQ,amP,amR,amS,hf,e1,e2,hm,w3,jh,hs]
 ·have e1:(aZ p [a,b]=0)=False:=ff h0
  rw [if_neg h0]
  simp only [gL,mN,rV,af,aj,aQ,go_sem,↓reduceIte,amO,amQ,amP,amR,amS,hf,e1]
theorem Uw {a b:Rd} (oa:Ok0 a) (ob:Ok0 b) {p:Int}:R F.round_MulUp [af a,af b,I p] []=some (rV (yB a b p true),[]):=by
 refine av Hs Hr (Bc false) rfl ?_
 have hr:=NM oa ob (p:=p) (up:=true)
 generalize yB a b p true=r at hr ⊢
 simp only [rV,af,aj] at hr
 simp only [lS,wB,rV,af,aj,go_sem,↓reduceIte,amO,amQ,amP,amR,hr]
theorem PQ {a b:Rd} (oa:Ok0 a) (ob:Ok0 b) {p:Int}:R F.round_MulDown [af a,af b,I p] []=some (rV (yB a b p false),[]):=by
 refine av Dd Dc (yf false) rfl ?_
 have hr:=NM oa ob (p:=p) (up:=false)
 generalize yB a b p false=r at hr ⊢
 simp only [rV,af,aj] at hr
 simp only [jG,tj,rV,af,aj,go_sem,↓reduceIte,amO,amQ,amP,amR,hr]
end Go.Ab
namespace Go.Ab
open Go Go.IntWalk
set_option maxRecDepth 4000
theorem YL {n:Int} (hn:I64 n):R F.dyadic_Int [I n] []=some (af (aU (decide (n < 0)) n.natAbs 0),[]):=by
 refine av J0 JZ (Do false) rfl ?_
 obtain ⟨h1,h2⟩:=hn
 obtain ⟨x,hx⟩:∃ x:Nat,n.natAbs=x:=⟨_,rfl⟩
 have hv:ab [x % 4294967296,x / 4294967296]=x:=by
  show x % 4294967296+4294967296*(x / 4294967296+4294967296*0)=x
  omega
 have hL:Lb [x % 4294967296,x / 4294967296]:=fun y hy=>by
  rcases List.mem_cons.1 hy with h | h
  ·omega
  ·rw [List.mem_singleton.1 h]
   omega
 have hc:∀ neg,R F.dyadic_canonical [B neg,.sl 1 [[.v (.int .u32 ((x % 4294967296:Nat):Int))],[.v (.int .u32 ((x / 4294967296:Nat):Int))]],I 0] []=some (af (aU neg x 0),[]):=fun neg=>by
  have:=sE (neg:=neg) (e:=0) hL (by show 2≤256; decide) ⟨by decide,by decide⟩
  rw [hv] at this
  exact this
 have w2:IntKind.u32.wrap (x:Int)=((x % 4294967296:Nat):Int):=FF rfl
 have w3:IntKind.u32.wrap ((x / 4294967296:Nat):Int)=((x / 4294967296:Nat):Int):=nN rfl (by omega)
 have w4:cU .shr (.v (.int .u64 (x:Int))) (.v (.int .u64 32))=some (.v (.int .u64 ((x / 4294967296:Nat):Int))):=gW (k:=32) rfl rfl (by decide)
 rw [hx]
 by_cases h0:n < 0
 ·have e1:(n < 0)=True:=tt h0
  have w5:IntKind.u64.wrap (0 - IntKind.u64.wrap n)=(x:Int):=by
   have q:∀ z:Int,IntKind.u64.wrap z=z % 18446744073709551616:=fun z=>rfl
   rw [q,q]
   omega
  have hc':=hc (decide (n < 0))
  generalize aU (decide (n < 0)) x 0=d at hc' ⊢
  rw [decide_eq_true h0] at hc'
  simp only [af,aj] at hc'
  simp only [jZ,sf,af,aj,go_sem,↓reduceIte,amO,amQ,amP,amR,amS,e1,w2,w3,w4,w5,hc']
 ·have e1:(n < 0)=False:=ff h0
  have w5:IntKind.u64.wrap n=(x:Int):=cf (by omega) (by omega)
  have hc':=hc (decide (n < 0))
  generalize aU (decide (n < 0)) x 0=d at hc' ⊢
  rw [decide_eq_false h0] at hc'
  simp only [af,aj] at hc'
  simp only [jZ,sf,af,aj,go_sem,↓reduceIte,amO,amQ,amP,amR,amS,e1,w2,w3,w4,w5,hc']
end Go.Ab
namespace Go.Ab
open Go Go.IntWalk
set_option maxRecDepth 4000
def mB (a b:Rd) (p:Int):Int :=
 if aL a - aL b≤2 then (if b.e < (if aL a - p - 8 < a.e then aL a - p - 8 else a.e) then b.e else (if aL a - p - 8 < a.e then aL a - p - 8 else a.e))
 else (if aL a - p - 8 < a.e then aL a - p - 8 else a.e)
def yZ (b:Rd) (l:Int):Nat × Bool:=if l≤b.e then (ab b.m*2 ^ (b.e - l).toNat,false) else (ab b.m / 2 ^ (l - b.e).toNat,decide (ab b.m % 2 ^ (l - b.e).toNat ≠ 0))
def kO (y:Nat × Bool):Nat:=if y.2=true then y.1+1 else y.1
def qP (a b:Rd) (p:Int):(Nat × Int × Bool) × Bool :=
 let l:=mB a b p
 let x:=ab a.m*2 ^ (a.e - l).toNat
 let y:=yZ b l
 if a.neg=b.neg then ((x+y.1,l,y.2),false)
 else if x < kO y then ((kO y - x,l,false),true)
 else ((x - kO y,l,y.2),false)
theorem FL {a b:Rd} {p:Int}:mB a b p≤a.e:=by
 unfold mB
 have h:(if aL a - p - 8 < a.e then aL a - p - 8 else a.e)≤a.e:=by
  split <;> omega
 generalize (if aL a - p - 8 < a.e then aL a - p - 8 else a.e)=z at h ⊢
 split
 ·split <;> omega
 ·exact h
theorem iD {d:Rd} (h:vd d=true) (h0:d.m.length ≠ 0):aL d=(ah (ab d.m):Nat)+d.e:=by
 rw [aL,if_neg (fun h'=>h'.elim (fun h''=>by rw [h] at h''; exact nomatch h'') h0)]
theorem B4 {a b:Rd} {p:Int} (va:vd a=true) (vb:vd b=true) (la:Lb a.m) (lb:Lb b.m) (na:a.m.length ≠ 0) (nb:b.m.length ≠ 0) (hp:8≤p∧p≤512) (ht:aL b≤aL a) :
  aL a - mB a b p≤4098:=by
 obtain ⟨a1,a2,a3,a4⟩:=cO va la
 obtain ⟨b1,b2,b3,b4⟩:=cO vb lb
 have e1:=iD va na
 have e2:=iD vb nb
 unfold mB
 have h:aL a - (if aL a - p - 8 < a.e then aL a - p - 8 else a.e)≤4098:=by
  split <;> omega
 generalize (if aL a - p - 8 < a.e then aL a - p - 8 else a.e)=z at h ⊢
 split
 ·split <;> omega
 ·exact h
end Go.Ab
namespace Go.Ab
open Go Go.IntWalk
set_option maxRecDepth 4000
def fV:Cmd := .seq (.seq (.ops [6,8,9,10,11,68] [co 64 (.fadr 0 (.t 3)),⟨(some 65),none,.load 1 false (.t 64)⟩,co 66 (.fadr 0 (.t 4)),⟨(some 67),none,.load 1 false (.t 66)⟩,co 68 (.eqc false 0 (.t 65) (.t 67))]) (.cond (.t 68) (.seq (.ops [6,8,11,12] [cm 70 9,cm 71 10,⟨(some 72),none,.call (.c (.fn F.natural_Add [] [])) [(.t 70),(.t 71)]⟩,cm 69 72,co 73 (.ext 0 (.t 69)),co 74 (.ext 1 (.t 69)),cm 12 73,cm 13 74]) (.seq (.ops [6,7] [cm 75 12,cm 76 8,cm 77 11,co 78 (.build [.emp,(.v (.int .i64 0)),(.v (.bool false))] [(0,1,(.t 75)),(1,1,(.t 76)),(2,1,(.t 77))]),⟨none,none,.store 3 (.t 6) (.t 78)⟩,co 7 (.mv (.c (.v (.bool false))))]) (.ret))) (.skip))) (.seq (.seq (.ops [6,8,9,10,11,79] [cm 79 11]) (.cond (.t 79) (.ops [6,8,9,10,11] [cm 81 10,⟨(some 82),none,.buildSl 1 [(.v (.int .u32 0))] 1 [(0,(.c (.v (.int .u32 1))))]⟩,⟨(some 83),none,.call (.c (.fn F.natural_Add [] [])) [(.t 81),(.t 82)]⟩,cm 80 83,co 84 (.ext 0 (.t 80)),co 85 (.ext 1 (.t 80)),cm 10 84]) (.skip))) (.seq (.seq (.ops [6,8,9,10,11,89] [cm 86 9,cm 87 10,⟨(some 88),none,.call (.c (.fn F.natural_Cmp [] [])) [(.t 86),(.t 87)]⟩,co 89 (.bin .lss (.t 88) (.c (.v (.int .i64 0))))]) (.cond (.t 89) (.seq (.ops [6,8,14] [cm 91 10,cm 92 9,⟨(some 93),none,.call (.c (.fn F.natural_Sub [] [])) [(.t 91),(.t 92)]⟩,cm 90 93,co 94 (.ext 0 (.t 90)),co 95 (.ext 1 (.t 90)),cm 14 94,cm 15 95]) (.seq (.ops [6,7] [cm 96 14,cm 97 8,co 98 (.build [.emp,(.v (.int .i64 0)),(.v (.bool false))] [(0,1,(.t 96)),(1,1,(.t 97)),(2,1,(.c (.v (.bool false))))]),⟨none,none,.store 3 (.t 6) (.t 98)⟩,co 7 (.mv (.c (.v (.bool true))))]) (.ret))) (.skip))) (.seq (.ops [6,8,11,16] [cm 100 9,cm 101 10,⟨(some 102),none,.call (.c (.fn F.natural_Sub [] [])) [(.t 100),(.t 101)]⟩,cm 99 102,co 103 (.ext 0 (.t 99)),co 104 (.ext 1 (.t 99)),cm 16 103,cm 17 104]) (.seq (.ops [6,7] [cm 105 16,cm 106 8,cm 107 11,co 108 (.build [.emp,(.v (.int .i64 0)),(.v (.bool false))] [(0,1,(.t 105)),(1,1,(.t 106)),(2,1,(.t 107))]),⟨none,none,.store 3 (.t 6) (.t 108)⟩,co 7 (.mv (.c (.v (.bool false))))]) (.ret)))))
theorem iy:AA = .seq (.ops [2,3,4,6] [⟨(some 3),none,.box 3 (.t 0)⟩,⟨(some 4),none,.box 3 (.t 1)⟩,⟨(some 6),none,.alloc [.emp,(.v (.int .i64 0)),(.v (.bool false))]⟩,co 7 (.mv (.c (.v (.bool false))))]) (.seq (.dops [3,4,6,8] [co 18 (.fadr 2 (.t 3)),⟨(some 19),none,.load 1 false (.t 18)⟩,⟨(some 20),none,.load 3 true (.t 3)⟩,⟨(some 21),none,.call (.c (.fn F.dyadic_Top [] [])) [(.t 20)]⟩,cm 22 2,co 23 (.bin .sub (.t 21) (.t 22)),co 24 (.bin .sub (.t 23) (.c (.v (.int .i64 8)))),co 25 (.mnx true (.t 19) [(.t 24)]),cm 8 25] [(1,3)]) (.seq (.seq (.dops [3,4,6,8,31] [⟨(some 26),none,.load 3 true (.t 3)⟩,⟨(some 27),none,.call (.c (.fn F.dyadic_Top [] [])) [(.t 26)]⟩,⟨(some 28),none,.load 3 true (.t 4)⟩,⟨(some 29),none,.call (.c (.fn F.dyadic_Top [] [])) [(.t 28)]⟩,co 30 (.bin .sub (.t 27) (.t 29)),co 31 (.bin .leq (.t 30) (.c (.v (.int .i64 2))))] [(1,2)]) (.cond (.t 31) (.ops [3,4,6,8] [cm 32 8,co 33 (.fadr 2 (.t 4)),⟨(some 34),none,.load 1 false (.t 33)⟩,co 35 (.mnx true (.t 32) [(.t 34)]),cm 8 35]) (.skip))) (.seq (.ops [3,4,6,8,9] [co 36 (.fadr 1 (.t 3)),⟨(some 37),none,.load 1 false (.t 36)⟩,co 38 (.fadr 2 (.t 3)),⟨(some 39),none,.load 1 false (.t 38)⟩,cm 40 8,co 41 (.bin .sub (.t 39) (.t 40)),⟨(some 42),none,.call (.c (.fn F.round_shl [] [])) [(.t 37),(.t 41)]⟩,cm 9 42]) (.seq (.ops [3,4,6,8,9] [co 10 (.mv (.c .emp))]) (.seq (.ops [3,4,6,8,9,11] [co 11 (.mv (.c (.v (.bool false))))]) (.seq (.seq (.ops [3,4,6,8,9,11,46] [co 43 (.fadr 2 (.t 4)),⟨(some 44),none,.load 1 false (.t 43)⟩,cm 45 8,co 46 (.bin .geq (.t 44) (.t 45))]) (.cond (.t 46) (.ops [3,4,6,8,9,10,11] [co 47 (.fadr 1 (.t 4)),⟨(some 48),none,.load 1 false (.t 47)⟩,co 49 (.fadr 2 (.t 4)),⟨(some 50),none,.load 1 false (.t 49)⟩,cm 51 8,co 52 (.bin .sub (.t 50) (.t 51)),⟨(some 53),none,.call (.c (.fn F.round_shl [] [])) [(.t 48),(.t 52)]⟩,cm 10 53]) (.ops [3,4,6,8,9,10,11] [co 55 (.fadr 1 (.t 4)),⟨(some 56),none,.load 1 false (.t 55)⟩,cm 57 8,co 58 (.fadr 2 (.t 4)),⟨(some 59),none,.load 1 false (.t 58)⟩,co 60 (.bin .sub (.t 57) (.t 59)),⟨(some 61),none,.call (.c (.fn F.round_shr [] [])) [(.t 56),(.t 60)]⟩,cm 54 61,co 62 (.ext 0 (.t 54)),co 63 (.ext 1 (.t 54)),cm 10 62,cm 11 63]))) fV)))))):=rfl
def FM (an bn:Bool) (X Y:Nat) (l:Int) (lost:Bool):(Nat × Int × Bool) × Bool :=
 if an=bn then ((X+Y,l,lost),false) else if X < kO (Y,lost) then ((kO (Y,lost) - X,l,false),true) else ((X - kO (Y,lost),l,lost),false)
def sV (r:(Nat × Int × Bool) × Bool):AV := .tup [nQ (ap r.1.1) r.1.2.1 r.1.2.2,B r.2]
theorem sI {x y k:Nat} (hx:ah x≤k) (hy:ah y≤k):ah (x+y)≤k+1:=by
 rw [bl] at hx hy ⊢
 rw [Nat.pow_succ]
 omega
theorem WF {x y:Nat} (hx:ah x≤5000) (hy:ah y≤5000):R F.natural_Add [lm (ap x),lm (ap y)] []=some (.tup [lm (ap (x+y)),I 0],[]):=by
 have h1:(ap x).length≤200:=aK (by omega)
 have h2:(ap y).length≤200:=aK (by omega)
 have h3:=sI hx hy
 have h4:(ap (x+y)).length≤200:=aK (by omega)
 rw [R7 (aM x) (aM y) (by omega) (by omega),aF,aF,fj,if_neg (by omega)]
theorem NN {x y:Nat} (hx:ah x≤5000) (hy:ah y≤5000) (h:y≤x):R F.natural_Sub [lm (ap x),lm (ap y)] []=some (.tup [lm (ap (x - y)),I 0],[]):=by
 have h1:(ap x).length≤200:=aK (by omega)
 have h2:(ap y).length≤200:=aK (by omega)
 have h3:ah (x - y)≤5000:=by
  rw [bl] at hx ⊢
  omega
 have h4:(ap (x - y)).length≤200:=aK (by omega)
 rw [R9 (aM x) (aM y) (by omega) (by omega),aF,aF,if_neg (by omega),fj,if_neg (by omega)]
theorem wc {an bn:Bool} {ma mb:AV} {ea eb:AV} {X Y:Nat} {l:Int} {lost:Bool} (hX:ah X≤4100) (hY:ah Y≤4100) (s:am)
  (h3:s 3 = .ref 3 none 0 0 0) (h4:s 4 = .ref 4 none 0 0 0) (h6:s 6 = .ref 6 none 0 0 0) (h8:s 8=I l) (h9:s 9=lm (ap X)) (h10:s 10=lm (ap Y)) (h11:s 11=B lost) :
  eE false [[.o 2 [],.o 0 [],.o 0 []],[]] [.cell 6 3 true,.t 7] 0 (ak R (ae false) fV s (upd (upd (upd (fun _ => .dead) 3 (.bx [.v (.bool an),ma,ea])) 4 (.bx [.v (.bool bn),mb,eb])) 6 (.bx [.emp,.v (.int .i64 0),.v (.bool false)])))=some (sV (FM an bn X Y l lost),[]):=by
 unfold FM
 by_cases hs:an=bn
 ·subst hs
  rw [if_pos rfl]
  have e1:(false != (an == an))=true:=by cases an <;> rfl
  have ha:=WF (x:=X) (y:=Y) (by omega) (by omega)
  simp only [fV,sV,nQ,go_sem,↓reduceIte,amO,amQ,amP,amR,h3,h4,h6,h8,h9,h10,h11,e1,ha]
 ·rw [if_neg hs]
  have e1:(false != (an == bn))=false:=by cases an <;> cases bn <;> first | rfl | exact absurd rfl hs
  have hU:ah (kO (Y,lost))≤4101:=by
   unfold kO
   split
   ·exact sI hY (Uo _)
   ·exact Nat.le_trans hY (by decide)
  have hi:=Si (q:=Y) (by omega)
  have hc:=uW (aM X) (aM (kO (Y,lost))) (Nat.le_trans (aK (k:=200) (by omega)) (by decide)) (Nat.le_trans (aK (k:=200) (by omega)) (by decide))
  rw [aF,aF] at hc
  by_cases hx:X < kO (Y,lost)
  ·have ha:=NN (x:=kO (Y,lost)) (y:=X) (by omega) (by omega) (by omega)
   rw [if_pos hx]
   rw [aY,if_pos hx] at hc
   cases lost with
   | false =>
    simp only [kO,if_neg Bool.false_ne_true] at hc ha ⊢
    simp only [fV,sV,nQ,go_sem,↓reduceIte,amO,amQ,amP,amR,amS,amU,h3,h4,h6,h8,h9,h10,h11,e1,hc,ha]
   | true =>
    simp only [kO,if_true] at hc ha ⊢
    simp only [fV,sV,nQ,go_sem,↓reduceIte,amO,amQ,amP,amR,amS,amU,h3,h4,h6,h8,h9,h10,h11,e1,o4,hi,hc,ha]
  ·have ha:=NN (x:=X) (y:=kO (Y,lost)) (by omega) (by omega) (by omega)
   rw [if_neg hx]
   have hd:(aY X (kO (Y,lost)) < 0)=False:=ff (by
    unfold aY
    rw [if_neg hx]
    split <;> decide)
   cases lost with
   | false =>
    simp only [kO,if_neg Bool.false_ne_true] at hc ha hd ⊢
    simp only [fV,sV,nQ,go_sem,↓reduceIte,amO,amQ,amP,amR,amS,h3,h4,h6,h8,h9,h10,h11,e1,hc,hd,ha]
   | true =>
    simp only [kO,if_true] at hc ha hd ⊢
    simp only [fV,sV,nQ,go_sem,↓reduceIte,amO,amQ,amP,amR,amS,h3,h4,h6,h8,h9,h10,h11,e1,o4,hi,hc,hd,ha]
end Go.Ab
namespace Go.Ab
open Go Go.IntWalk
set_option maxRecDepth 4000
theorem FN (a b:Rd) (p:Int):qP a b p=FM a.neg b.neg (ab a.m*2 ^ (a.e - mB a b p).toNat) (yZ b (mB a b p)).1 (mB a b p) (yZ b (mB a b p)).2:=rfl
theorem YM {a b:Rd} (oa:Ok0 a) (ob:Ok0 b) (va:vd a=true) (vb:vd b=true) (na:a.m.length ≠ 0) (nb:b.m.length ≠ 0) {p:Int} (hp:8≤p∧p≤512) (ht:aL b≤aL a) :
  R F.round_sum [af a,af b,I p] []=some (sV (qP a b p),[]):=by
 refine av M1 M0 (Fl false) rfl ?_
 have ta:=uX oa
 have tb:=uX ob
 simp only [af,aj] at ta tb
 have e1:=iD va na
 have e2:=iD vb nb
 obtain ⟨a1,a2,a3,a4⟩:=cO va oa.lb
 obtain ⟨b1,b2,b3,b4⟩:=cO vb ob.lb
 have l1:=FL (a:=a) (b:=b) (p:=p)
 have l2:=B4 va vb oa.lb ob.lb na nb hp ht
 have w1:IntKind.i64.wrap (aL a - p)=aL a - p:=i64_in _ ⟨by omega,by omega⟩
 have w2:IntKind.i64.wrap (aL a - p - 8)=aL a - p - 8:=i64_in _ ⟨by omega,by omega⟩
 have w3:IntKind.i64.wrap (aL a - aL b)=aL a - aL b:=i64_in _ ⟨by omega,by omega⟩
 rw [FN]
 obtain ⟨l,hl⟩:∃ l,mB a b p=l:=⟨_,rfl⟩
 rw [hl] at l1 l2 ⊢
 unfold mB at hl
 obtain ⟨z,hz⟩:∃ z,(if aL a - p - 8 < a.e then aL a - p - 8 else a.e)=z:=⟨_,rfl⟩
 rw [hz] at hl
 have w4:IntKind.i64.wrap (a.e - l)=(((a.e - l).toNat:Nat):Int):=wi (by omega) (by omega)
 have hX:ah (ab a.m*2 ^ (a.e - l).toNat)≤4100:=by
  rw [da _ (db va na)]
  omega
 have sX:=rI oa.lb a1 (k:=(a.e - l).toNat) (by omega) (aK (by omega))
 by_cases h2:aL a - aL b≤2
 ·have f1:(aL a - aL b≤2)=True:=tt h2
  rw [if_pos h2] at hl
  by_cases hb:l≤b.e
  ·have f2:(l≤b.e)=True:=tt hb
   have w5:IntKind.i64.wrap (b.e - l)=(((b.e - l).toNat:Nat):Int):=wi (by omega) (by omega)
   have hY:ah (ab b.m*2 ^ (b.e - l).toNat)≤4100:=by
    rw [da _ (db vb nb)]
    omega
   have sY:=rI ob.lb b1 (k:=(b.e - l).toNat) (by omega) (aK (by omega))
   rw [yZ,if_pos hb]
   simp only [gO,iy,af,aj,go_sem,↓reduceIte,amO,amQ,amP,amR,amS,amT,ta,tb,w1,w2,w3,w4,w5,hz,hl,f1,f2,sX,sY]
   exact wc hX hY _ rfl rfl rfl rfl rfl rfl rfl
  ·have f2:(l≤b.e)=False:=ff hb
   have w5:IntKind.i64.wrap (l - b.e)=(((l - b.e).toNat:Nat):Int):=wi (by omega) (by omega)
   have hY:ah (ab b.m / 2 ^ (l - b.e).toNat)≤4100:=by
    rw [du]
    omega
   have sY:=FK ob.lb b1 (n:=(l - b.e).toNat) (by omega)
   rw [yZ,if_neg hb]
   simp only [gO,iy,af,aj,go_sem,↓reduceIte,amO,amQ,amP,amR,amS,amT,ta,tb,w1,w2,w3,w4,w5,hz,hl,f1,f2,sX,sY]
   exact wc hX hY _ rfl rfl rfl rfl rfl rfl rfl
 ·have f1:(aL a - aL b≤2)=False:=ff h2
  rw [if_neg h2] at hl
  by_cases hb:l≤b.e
  ·have f2:(l≤b.e)=True:=tt hb
   have w5:IntKind.i64.wrap (b.e - l)=(((b.e - l).toNat:Nat):Int):=wi (by omega) (by omega)
   have hY:ah (ab b.m*2 ^ (b.e - l).toNat)≤4100:=by
    rw [da _ (db vb nb)]
    omega
   have sY:=rI ob.lb b1 (k:=(b.e - l).toNat) (by omega) (aK (by omega))
   rw [yZ,if_pos hb]
   simp only [gO,iy,af,aj,go_sem,↓reduceIte,amO,amQ,amP,amR,amS,amT,ta,tb,w1,w2,w3,w4,w5,hz,hl,f1,f2,sX,sY]
   exact wc hX hY _ rfl rfl rfl rfl rfl rfl rfl
  ·have f2:(l≤b.e)=False:=ff hb
   have w5:IntKind.i64.wrap (l - b.e)=(((l - b.e).toNat:Nat):Int):=wi (by omega) (by omega)
   have hY:ah (ab b.m / 2 ^ (l - b.e).toNat)≤4100:=by
    rw [du]
    omega
   have sY:=FK ob.lb b1 (n:=(l - b.e).toNat) (by omega)
   rw [yZ,if_neg hb]
   simp only [gO,iy,af,aj,go_sem,↓reduceIte,amO,amQ,amP,amR,amS,amT,ta,tb,w1,w2,w3,w4,w5,hz,hl,f1,f2,sX,sY]
   exact wc hX hY _ rfl rfl rfl rfl rfl rfl rfl
end Go.Ab
namespace Go.Ab
open Go Go.IntWalk
set_option maxRecDepth 4000
def KK (a b:Rd) (p:Int) (up:Bool):Rd × Int :=
 let s:=qP a b p
 if s.1.1=0∧s.1.2.2=false then (aQ,0) else gS (a.neg != s.2) (gp s.1.1 s.1.2.1 s.1.2.2 p (up != (a.neg != s.2)))
def FO (a b:Rd) (p:Int) (up:Bool):Rd × Int :=
 if aZ p [a,b]=0 then (if a.m.length=0 then j6 b p up else if b.m.length=0 then j6 a p up else if aL a < aL b then KK b a p up else KK a b p up)
 else (aQ,aZ p [a,b])
theorem B5 {a b:Rd} (oa:Ok0 a) (ob:Ok0 b) {p:Int} {up:Bool} (h:aZ p [a,b] ≠ 0∨a.m.length=0∨b.m.length=0):R F.round_add [af a,af b,I p,B up] []=some (rV (FO a b p up),[]):=by
 refine av AG AF (uN false) rfl ?_
 have hf:R F.round_fault [I p,.sl 3 [[B a.neg,lm a.m,I a.e],[B b.neg,lm b.m,I b.e]]] []=some (I (aZ p [a,b]),[]):=v8 (p:=p) (l:=[a,b]) (fun x hx=>by
  rcases List.mem_cons.1 hx with h | h
  ·rw [h]; exact oa
  ·rw [List.mem_singleton.1 h]; exact ob) (show 2≤100000 by decide)
 have ra:=v9 oa (p:=p) (up:=up)
 have rb:=v9 ob (p:=p) (up:=up)
 unfold FO
 generalize j6 a p up=qa at ra ⊢
 generalize j6 b p up=qb at rb ⊢
 simp only [rV,af,aj] at ra rb
 by_cases h0:aZ p [a,b]=0
 ·rw [if_pos h0]
  rw [h0] at hf
  by_cases a0:a.m.length=0
  ·have e1:((a.m.length:Int)=0)=True:=tt (by omega)
   rw [if_pos a0]
   simp only [fB,mO,rV,af,aj,go_sem,↓reduceIte,amO,amQ,amP,amR,amS,hf,e1,rb]
  have e1:((a.m.length:Int)=0)=False:=ff (by omega)
  have b0:b.m.length=0:=(h.resolve_left (fun h'=>h' h0)).resolve_left a0
  have e2:((b.m.length:Int)=0)=True:=tt (by omega)
  rw [if_neg a0,if_pos b0]
  simp only [fB,mO,rV,af,aj,go_sem,↓reduceIte,amO,amQ,amP,amR,amS,hf,e1,e2,ra]
 ·have e1:(aZ p [a,b]=0)=False:=ff h0
  rw [if_neg h0]
  simp only [fB,mO,rV,af,aj,aQ,go_sem,↓reduceIte,amO,amQ,amP,amR,amS,hf,e1]
end Go.Ab
