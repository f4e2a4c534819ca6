/-
  The statement BoundLinear holds of the given program: its card, with the tied table of bits.TrailingZeros32; no further conditions. Part C1.
-/
import Derived.IntWalk
import Derived.Test.YtlfcbamejofhkaaGreatDoorB2
open Nat renaming reduceEqDiff → alS, reduceAdd → alT, reduceMul → alU, reduceLeDiff → alV, reduceLT → alW, reduceBEq → alX
open Int renaming reduceLT → alY, reduceToNat → alZ
namespace Go.Ab
open Go Go.IntWalk
def aC (m:List Nat):List (List AV):=m.map fun (x:Nat)=>[U (x:Int)]
def lm (m:List Nat):AV := .sl 1 (aC m)
theorem uJ (m:List Nat):(aC m).length=m.length:=by simp [aC]
@[go_sem] theorem rI (l:List (List AV)):l.map (b9 [])=l:=(List.map_congr_left (g:=fun c=>c) fun c _=>Sl c).trans (List.map_id' _)
@[go_sem] theorem aee (hs m):eK hs (lm m)=lm m:=_root_.id rfl
@[go_sem] theorem acS (hs m):knownL hs (lm m)=true:=_root_.id rfl
@[go_sem] theorem aaO (hs m):cZ hs (lm m)=true:=_root_.id rfl
@[go_sem] theorem akf (ks m):lZ ks (lm m)=lm m:=_root_.id rfl
@[go_sem] theorem aiP (ks m):jS ks (lm m)=false:=_root_.id rfl
@[go_sem] theorem aiQ (ks m):sw ks (lm m)=false:=_root_.id rfl
@[go_sem] theorem akg (m):jR false (lm m)=some (I (m.length:Nat)):=by simp [lm,jR,aC]
@[go_sem] theorem aiR (m k i):lY 1 (lm m) (.v (.int k i))=aN (aC m) i:=by simp [lm,lY]
@[go_sem] theorem VF (k ss m):nrmV (.o (k+1) []::ss) (lm m)=lm m:=by simp [lm,nrmV,nrmL,rI]
@[go_sem] theorem aef (k cs ss m):nrmV (.o (k+1) [.o 0 cs]::ss) (lm m)=lm m:=by
 have:(aC m).map (b9 [.o 0 cs])=aC m:=by
  refine (List.map_congr_left (g:=fun c=>c) fun c _ => ?_).trans (List.map_id' _)
  cases c with
  | nil=>simp [b9]
  | cons a l=>simp [b9,nrmL]
 simp [lm,nrmV,nrmL,this]
@[go_sem] theorem aiS (k m):nrmL (.o (k+1) []) (lm m)=lm m:=by simp [lm,nrmL,rI]
@[go_sem] theorem aiT (h m):mI h (lm m)=some (lm m):=_root_.id rfl
@[go_sem] theorem aeg (h m l):fN h (lm m::l)=(fN h l).bind fun q=>some (lm m::q):=_root_.id rfl
@[go_sem] theorem aiU (m):bY (lm m)=[]:=_root_.id rfl
@[go_sem] theorem aiV (m):fJ (lm m)=[]:=_root_.id rfl
@[go_sem] theorem akh (m):dat (lm m)=true:=_root_.id rfl
@[go_sem] theorem aiW (m):aA (lm m)=true:=_root_.id rfl
@[go_sem] theorem aeh (m):aO (lm m)=false:=_root_.id rfl
@[go_sem] theorem aei (m):dv (lm m)=some [lm m]:=_root_.id rfl
@[go_sem] theorem aiX (h m):eP h (lm m)=some (lm m,h,[]):=_root_.id rfl
@[go_sem] theorem aej (h m):cJ h 0 (lm m)=some (lm m,h,[]):=_root_.id rfl
@[go_sem] theorem aek (id p m):pb id p (lm m)=lm m:=_root_.id rfl
@[go_sem] theorem ael (h d m):ja h d (some (lm m,[]))=if fK h (2000+8*d) 1=true then some (lm m,h,[]) else none:=Sn h d 1 (aC m)
@[go_sem] theorem aki (m:List Nat):AV.sl 1 (aC m)=lm m:=_root_.id rfl
@[go_sem] theorem aem (p:Nat→Bool) (a:Nat):iq (List.filter p [a])=true:=by
 simp only [List.filter]
 split <;> rfl
@[go_sem] theorem tE (m:List Nat):(aC m).length=m.length:=by simp [aC]
@[go_sem] theorem akj:AV.sl 1 []=lm []:=_root_.id rfl
@[go_sem] theorem acT (cs ss):nrmV (.o 2 cs::ss) .emp=lm []:=by simp [nrmV,nrmL,lm,aC]
@[go_sem] theorem acU (cs):nrmL (.o 2 cs) .emp=lm []:=by simp [nrmL,lm,aC]
@[go_sem] theorem aiY (k ss m):nrmV (.o (k+1) []::ss) (.sl 1 (aC m))=lm m:=VF k ss m
@[go_sem] theorem aen (k ss m):nrmV (.o (k+1) []::ss) (.osl 1 (aC m))=lm m:=by simp [lm,nrmV,nrmL,rI]
theorem aS {m:List Nat} {i:Int} {n:Nat} (hi:i=n) (h:n < m.length):aN (aC m) i=some (.ipt [U (m.getD n 0:Nat)]):=by
 subst hi
 simp [aN,aC,h]
theorem jN {m:List Nat} {n:Nat} (h:n < m.length):(aC m)[n]?=some [U (m.getD n 0:Nat)]:=by
 simp [aC,h]
theorem IW (m:List Nat) (n:Nat):(aC m).take n=aC (m.take n):=by simp [aC,List.map_take]
theorem SR (m:List Nat) (n:Nat):(aC m).drop n=aC (m.drop n):=by simp [aC,List.map_drop]
theorem qM (m l:List Nat):aC m++aC l=aC (m++l):=by simp [aC]
theorem jO (m:List Nat) (n x:Nat):(aC m).set n [U (x:Nat)]=aC (m.set n x):=by simp [aC,List.map_set]
theorem nc (n:Nat):List.replicate n [AV.v (.int .u32 0)]=aC (List.replicate n 0):=by simp [aC]
theorem tF {m:List Nat} {lo hi:Option AV} {a b:Nat} (hlo:nn 0 b lo=some a) (hhi:nn m.length m.length hi=some b) (hb:b≤m.length):kn 1 (lm m) lo hi none=some (lm ((m.drop a).take (b - a))):=by
 simp only [lm,kn,tQ,uJ,if_true,hhi,hlo,Option.bind_some,Option.map_some,vZ,Bool.false_eq_true,if_false,IW,SR]
theorem SS (d n:Nat):nn d n none=some d:=_root_.id rfl
theorem mT {d n:Nat} {k:IntKind} {i:Int} {a:Nat} (hi:i=a) (h:a≤n):nn d n (some (.v (.int k i)))=some a:=by
 subst hi
 simp [nn,h]
theorem aB {f:FuncId} {fd:FD} {args:List AV} {r:AV × List Ob} (hE:ah.E f=none) (hC:ah.C f=some fd) (hk:ah.md.keep f=false) (h1:args.length=fd.np)
  (hz:iY false fd.rs fd.res 0 (ak R (ae false) fd.body (re args) (fun _ => .dead))=some r):R f args []=some r:=by
 refine Xt false hE hC hk h1 (Nat.zero_le _) ?_
 rw [No]
 exact hz
end Go.Ab
namespace Go.Ab
open Go Go.IntWalk
set_option maxRecDepth 4000
def xX (k:Nat) (g:Bool):Cmd := .seq (.ops [0,1,7,8,9] [co 9 (.bin .lss (.t 8) (.t 7))]) (.seq (.cond (.t 9) (.skip) (.exit 0)) (.seq (.block 1 [0,1,7,8] (.seq (.ops [0,1,5,7,8] [cm 10 8,cm 5 10]) (.seq (.ops [0,1,5,7,8,16] [cm 11 1,cm 12 0,cm 13 5,co 14 (.iadrS k (.t 12) (.t 13)),⟨(some 15),none,.load k g (.t 14)⟩,⟨(some 16),none,.call (.t 11) [(.t 15)]⟩]) (.cond (.t 16) (.seq (.ops [4] [cm 17 5,cm 4 17]) (.ret)) (.skip))))) (.ops [0,1,7,8] [co 18 (.bin .add (.t 8) (.c (.v (.int .i64 1)))),cm 8 18])))
def DU:Cmd := .seq (.ops [4] [co 4 (.mv (.c (.v (.int .i64 (-1)))))]) (.ret)
def xd {α:Type} (p:α→Bool):List α→Nat→Int
 | [],_ => -1
 | r::rs,n=>if p r=true then n else xd p rs (n+1)
theorem IX {α:Type} (p:α→Bool):∀ (l:List α) (n:Nat),decide (0≤xd p l n)=l.any p
 | [],n=>rfl
 | r::rs,n=>by
  simp only [xd,List.any_cons]
  by_cases h:p r=true
  ·simp [h]
  ·simp [h,IX p rs (n+1)]
theorem ST {k:Nat} {g:Bool} {f:FuncId} {rows:List (List AV)} {p:List AV→Bool} (hm:(ae false).m f=[]) (hl:rows.length < 4611686018427387904)
  (hf:∀ row ∈ rows,∃ a,ig k g row 0=some a∧dat a=true∧R f (bi ((ae false).sh f) [a]) []=some (B (p row),[])):∀ (rest:List (List AV)) (n:Nat),rows.drop n=rest→n≤rows.length →
  ∀ (s:aj) (h:ac),s 0 = .sl k rows→s 1 = .fn f [] []→s 7=I rows.length→s 8=I n →
   bm (au 0 [] (aq (ak R (ae false) (xX k g)) [0,1,7,8] [] s h)) (ak R (ae false) DU)=some (.ret,⟨upd (fun _ => .any) 4 (I (xd p rest n)),fun _ => .dead⟩):=by
 intro rest
 induction rest with
 | nil =>
  intro n hd hn s h h0 h1 h7 h8
  have e:n=rows.length:=by
   have:=congrArg List.length hd
   simp at this
   omega
  subst e
  rw [ao]
  generalize aq _ _ _=L
  simp only [xX,DU,go_sem,h0,h1,h7,h8,↓reduceIte,alS,Int.lt_irrefl,xd]
 | cons r rest ih =>
  intro n hd hn s h h0 h1 h7 h8
  have hlt:n < rows.length:=by
   have:=congrArg List.length hd
   simp at this
   omega
  have hr:rows[n]?=some r:=by
   have:=congrArg (·[0]?) hd
   simpa using this
  obtain ⟨a,ha,hda,hc⟩:=hf r (List.mem_of_getElem? hr)
  have ih':=ih (n+1) (by rw [← List.drop_drop,hd]; rfl) hlt
  have e1:((n:Int) < (rows.length:Int))=True:=eq_true (by omega)
  have e2:aN rows (n:Int)=some (.ipt r):=by simp [aN,hr]
  have e3:IntKind.i64.wrap ((n:Int)+1)=((n+1:Nat):Int):=by rw [i64_in] <;> omega
  rw [ao]
  generalize aq _ _ _=L at ih' ⊢
  simp only [xX,go_sem,h0,h1,h7,h8,↓reduceIte,alS,e1,e2,ha,r9 _ hm,hda,hc,alU,alT,xd]
  cases hp:p r with
  | true=>simp only [go_sem,↓reduceIte]
  | false =>
   simp only [go_sem,↓reduceIte,alS,e3]
   exact ih' _ _ rfl rfl rfl rfl
theorem xe {fi:FuncId} {fd:FD} {k:Nat} {g:Bool} (hE:ah.E fi=none) (hC:ah.C fi=some fd) (hk:ah.md.keep fi=false)
  (hfd:fd=⟨2,[[]],[.t 4],.seq (.ops [0,1] [co 4 (.mv (.c (.v (.int .i64 0))))]) (.seq (.seq (.ops [0,1,7,8] [cm 6 0,co 7 (.len false (.t 6)),co 8 (.mv (.c (.v (.int .i64 0))))]) (.block 0 [] (.loop [0,1,7,8] [] (xX k g)))) DU)⟩)
  {f:FuncId} {rows:List (List AV)} {p:List AV→Bool} (hm:(ae false).m f=[]) (hl:rows.length < 4611686018427387904)
  (hf:∀ row ∈ rows,∃ a,ig k g row 0=some a∧dat a=true∧R f (bi ((ae false).sh f) [a]) []=some (B (p row),[])):R fi [.sl k rows,.fn f [] []] []=some (I (xd p rows 0),[]):=by
 subst hfd
 refine aB hE hC hk rfl ?_
 have hL:=ST (k:=k) (g:=g) hm hl hf rows 0 rfl (Nat.zero_le _)
 simp only [go_sem,↓reduceIte,alS,ZF]
 rw [hL _ _ (by simp only [go_sem,↓reduceIte]) (by simp only [go_sem,↓reduceIte,alS]) (by simp only [go_sem,↓reduceIte,alS]) (by simp only [go_sem,↓reduceIte,alS]; rfl)]
 simp only [go_sem,↓reduceIte]
def Qm (fi:FuncId):FD:=⟨2,[[]],[.t 4],.seq (.ops [0,1] [co 4 (.mv (.c (.v (.bool false))))]) (.seq (.ops [4] [cm 5 0,cm 6 1,⟨(some 7),none,.call (.c (.fn fi [] [])) [(.t 5),(.t 6)]⟩,co 8 (.bin .geq (.t 7) (.c (.v (.int .i64 0)))),cm 4 8]) (.ret))⟩
theorem tG {ci fi:FuncId} {fd:FD} {k:Nat} (hE:ah.E ci=none) (hC:ah.C ci=some fd) (hk:ah.md.keep ci=false) (hfd:fd=Qm fi) (hm:(ae false).m fi=[]) {cs:List Sh} (hsh:(ae false).sh fi=[[.o (k+1) cs],[]])
  {rows:List (List AV)} {f:FuncId} {p:List AV→Bool} (hr:rows.map (b9 cs)=rows) (h:R fi [.sl k rows,.fn f [] []] []=some (I (xd p rows 0),[])):R ci [.sl k rows,.fn f [] []] []=some (B (rows.any p),[]):=by
 subst hfd
 refine aB hE hC hk rfl ?_
 simp only [Qm,go_sem,↓reduceIte,alS,r9 _ hm,hsh,hr,h,Sk,IX]
end Go.Ab
namespace Go.Ab
open Go Go.IntWalk
set_option maxRecDepth 4000
theorem cf {i:Int} {n:Nat} (h:i=n) (hn:n < 18446744073709551616):IntKind.u64.wrap i=n:=by rw [u64_in] <;> omega
theorem oo {i:Int} {n:Nat} (h:i=n) (hn:n < 4294967296):IntKind.u32.wrap i=n:=by rw [u32_in] <;> omega
theorem wi {i:Int} {n:Nat} (h:i=n) (hn:n < 9223372036854775808):IntKind.i64.wrap i=n:=by rw [i64_in] <;> omega
theorem IY {i:Int} {n:Nat} (h:i=n):IntKind.u32.wrap i=((n % 4294967296:Nat):Int):=by rw [IntKind.wrap_u32]; omega
theorem io {i:Int} {n k:Nat} {kk:IntKind} {j:Int} (h:i=n) (hj:j=k) (hk:k≤64):cd .shr (.v (.int .u64 i)) (.v (.int kk j))=some (.v (.int .u64 ((n / 2 ^ k:Nat):Int))):=by
 subst h hj
 rw [CZ,if_neg (by omega)]
 have:min (k:Int).toNat IntKind.u64.bits=k:=by simp [IntKind.bits]; omega
 rw [this]
 simp only [Option.some.injEq,AV.v.injEq,Value.int.injEq,true_and]
 rw [Int.fdiv_eq_ediv_of_nonneg _ (Int.pow_nonneg (by omega))]
 simp
theorem IZ {x y c:Nat} (hx:x < 4294967296) (hy:y < 4294967296) (hc:c≤1):R F.bits_Add32 [U x,U y,U c] []=some (.tup [U (((x+y+c) % 4294967296:Nat)),U (((x+y+c) / 4294967296:Nat))],[]):=by
 refine aB IT IS (Cc false) rfl ?_
 have e1:IntKind.u64.wrap (x:Int)=x:=cf rfl (by omega)
 have e2:IntKind.u64.wrap (y:Int)=y:=cf rfl (by omega)
 have e3:IntKind.u64.wrap (c:Int)=c:=cf rfl (by omega)
 have e4:IntKind.u64.wrap ((x:Int)+y)=((x+y:Nat):Int):=cf (by omega) (by omega)
 have e5:IntKind.u64.wrap (((x+y:Nat):Int)+c)=((x+y+c:Nat):Int):=cf (by omega) (by omega)
 have e6:IntKind.u32.wrap ((x+y+c:Nat):Int)=(((x+y+c) % 4294967296:Nat):Int):=IY rfl
 have e7:=io (n:=x+y+c) (k:=32) (kk := .u64) (j:=32) rfl rfl (by omega)
 have e8:IntKind.u32.wrap (((x+y+c) / 2 ^ 32:Nat):Int)=(((x+y+c) / 4294967296:Nat):Int):=oo rfl (by omega)
 simp only [mD,wN,go_sem,↓reduceIte,alS,e1,e2,e3,e4,e5,e6,e7,e8]
theorem VG {k:IntKind} {n:Int} (h:n ≠ 0):vZ (some (.v (.int k n)))=false:=by
 unfold vZ
 split
 ·rename_i h2; simp at h2; exact absurd h2.2 h
 ·rfl
theorem VH {m:List Nat} (h:m.length ≠ 0):kn 1 (lm m) none (some (I (m.length:Nat))) (some (I (m.length:Nat)))=some (lm m):=by
 have hz:vZ (some (I (m.length:Nat)))=false:=VG (by omega)
 have h1:nn m.length m.length (some (I (m.length:Nat)))=some m.length:=mT rfl (Nat.le_refl _)
 simp only [kn,lm,uJ,tQ,h1,SS,hz,if_true,Option.bind_some,Option.map_some,Bool.false_eq_true,if_false,List.drop_zero,Nat.sub_zero,IW,List.take_length]
theorem LY (m:List Nat):R F.slices_Clip_uint32_uint32_ [lm m] []=some (lm m,[]):=by
 refine aB oY oX (nl false) rfl ?_
 by_cases h:m.length=0
 ·have:m=[]:=List.length_eq_zero_iff.1 h
  subst this
  rfl
 ·simp only [cK,iC,go_sem,↓reduceIte,alS,VH h]
theorem xf (m:List Nat) (h2:m.length < 4611686018427387904):∀ (n:Nat),n≤m.length→∀ (s:aj) (h:ac),s 0=lm m→s 3=I n →
  au 0 [0,3] (aq (ak R (ae false) fI) [0,3] [] s h)=some (.normal,⟨upd (upd (fun _ => .any) 3 (I (eZ m n))) 0 (lm m),fun _ => .dead⟩):=by
 intro n
 induction n with
 | zero =>
  intro h1 s h h3 h4
  rw [ao]
  simp only [fI,go_sem,h3,h4,eZ,↓reduceIte,alS,Int.natCast_zero,Int.lt_irrefl]
 | succ n ih =>
  intro h1 s h h3 h4
  have hn:n < m.length:=h1
  have e3:IntKind.i64.wrap ((n:Int)+1 - 1)=n:=wi (by omega) (by omega)
  have e1:aN (aC m) (n:Int)=some (.ipt [U (m.getD n 0:Nat)]):=aS rfl hn
  have e2:((0:Int) < (n:Int)+1)=True:=eq_true (by omega)
  have ih':=ih (by omega)
  rw [ao]
  generalize aq _ _ _=L at ih' ⊢
  by_cases hz:m.getD n 0=0
  ·simp only [fI,go_sem,h3,h4,eZ,↓reduceIte,alS,Int.natCast_add,Int.natCast_one,e3,e1,e2,hz,Int.natCast_zero]
   exact ih' _ _ rfl rfl
  ·simp only [fI,go_sem,h3,h4,eZ,↓reduceIte,alS,Int.natCast_add,Int.natCast_one,e3,e1,e2,hz,Int.natCast_eq_zero]
theorem dc {m:List Nat} (hb:Lb m) (h:m.length < 4611686018427387904):R F.natural_trim [lm m] []=some (lm (ap (ab m)),[]):=by
 refine aB DK DJ (yy false) rfl ?_
 have h1:kn 1 (lm m) none (some (I (eZ m m.length:Nat))) none=some (lm (ap (ab m))):=by
  rw [tF (a:=0) (b:=eZ m m.length) rfl (mT rfl (mj _ _)) (mj _ _),List.drop_zero,Nat.sub_zero,uF hb]
 simp only [j9,tu,go_sem,↓reduceIte,alS,xf m h m.length (Nat.le_refl _),h1]
def Uz (l:List (List Nat)):AV := .sl 1 (l.map fun m=>[lm m])
theorem VJ (l:List (List Nat)) (cs:List Sh):(l.map fun m=>[lm m]).map (b9 [.o 2 cs])=l.map fun m=>[nrmL (.o 2 cs) (lm m)]:=by
 simp [List.map_map,b9]
theorem Qn (m:List Nat):R F.natural_long_1 [lm m] []=some (B (decide (256 < m.length)),[]):=by
 refine aB Av Au (vX false) rfl ?_
 have e:decide ((256:Int) < (m.length:Int))=decide (256 < m.length):=by rw [decide_eq_decide]; omega
 simp only [im,rD,go_sem,↓reduceIte,alS,e]
theorem LZ {l:List (List Nat)} (hl:l.length < 4611686018427387904):R F.natural_long [Uz l] []=some (B (l.any fun m=>decide (256 < m.length)),[]):=by
 refine aB DG DF (yw false) rfl ?_
 let p:List AV→Bool:=fun row=>match row with | [.sl _ rows]=>decide (256 < rows.length) | _=>false
 have hp:∀ m:List Nat,p [lm m]=decide (256 < m.length):=fun m=>by simp [p,lm,uJ]
 have hn:(l.map fun m=>[lm m]).map (b9 [.o 2 []])=l.map fun m=>[lm m]:=by
  rw [VJ]
  simp only [go_sem]
 have h1:=xe (k:=1) (g:=false) (f:=F.natural_long_1) (rows:=l.map fun m=>[lm m]) (p:=p) lJ lI (j2 false) rfl (mF false _) (by simpa using hl) (fun row hr=>by
  simp only [List.mem_map] at hr
  obtain ⟨m,hm,rfl⟩:=hr
  refine ⟨lm m,rfl,rfl,?_⟩
  simp only [go_sem,Qn,hp])
 have h2:=tG (k:=1) j1 jZ (iO false) rfl (mF false _) (kG false) hn h1
 have h3:(l.map fun m=>[lm m]).any p=l.any fun m=>decide (256 < m.length):=by
  rw [List.any_map]
  congr 1
  funext m
  exact hp m
 rw [h3] at h2
 simp only [j8,tr,Uz,go_sem,↓reduceIte,alS,r9 _ (mF false _),hn,h2]
end Go.Ab
namespace Go.Ab
open Go Go.IntWalk
set_option maxRecDepth 4000
theorem tt {p:Prop} (h:p):p=True:=eq_true h
theorem ff {p:Prop} (h : ¬ p):p=False:=eq_false h
theorem jo (a:List Nat):R F.natural_long [.sl 1 [[lm a]]] []=some (B (decide (256 < a.length)),[]):=by
 have:=LZ (l:=[a]) (by simp)
 simpa [Uz] using this
theorem mU (a b:List Nat):R F.natural_long [.sl 1 [[lm a],[lm b]]] []=some (B (decide (256 < a.length) || decide (256 < b.length)),[]):=by
 have:=LZ (l:=[a,b]) (by simp)
 simpa [Uz] using this
def fq (n:Nat):AV:=if 256 < (ap n).length then .tup [lm [],I 9] else .tup [lm (ap n),I 0]
theorem tH {m:List Nat} (hb:Lb m) (h:m.length < 4611686018427387904):R F.natural_done [lm m] []=some (fq (ab m),[]):=by
 refine aB DI DH (yx false) rfl ?_
 by_cases hl:256 < (ap (ab m)).length
 ·simp only [gX,oR,fq,go_sem,↓reduceIte,alS,alU,alT,alV,alW,dc hb h,jo,hl]
 ·simp only [gX,oR,fq,go_sem,↓reduceIte,alS,alU,alT,alV,alW,dc hb h,jo,hl,LY]
theorem vH {a:List Nat} {i:Nat} (h:i < a.length):ab (a.take (i+1))=ab (a.take i)+4294967296 ^ i*a.getD i 0:=by
 rw [List.take_add_one,db]
 have:a[i]?.toList=[a.getD i 0]:=by simp [h]
 rw [this,List.length_take,Nat.min_eq_left (by omega)]
 simp [ab]
theorem Lx {a:List Nat} {i:Nat} (h:a.length≤i):ab (a.take (i+1))=ab (a.take i)+4294967296 ^ i*a.getD i 0:=by
 rw [List.take_of_length_le (by omega),List.take_of_length_le h]
 simp [List.getD_eq_getElem?_getD,List.getElem?_eq_none h]
theorem dN (a:List Nat) (i:Nat):ab (a.take (i+1))=ab (a.take i)+4294967296 ^ i*a.getD i 0:=by
 rcases Nat.lt_or_ge i a.length with h | h
 ·exact vH h
 ·exact Lx h
def L4 (n i:Nat):Nat:=n / 4294967296 ^ i % 4294967296
theorem SU {k n i:Nat} (h:i < k):(bR k n)[i]?=some (L4 n i):=by
 induction k generalizing n i with
 | zero=>omega
 | succ k ih =>
  cases i with
  | zero=>simp [bR,L4]
  | succ i =>
   simp only [bR,List.getElem?_cons_succ]
   rw [ih (by omega)]
   simp only [L4,Nat.pow_succ,Nat.mul_comm _ 4294967296,Nat.div_div_eq_div_mul]
theorem I0 {k n:Nat} {l:List Nat} (hl:l.length=k) (h:∀ i,i < k→l.getD i 0=L4 n i):l=bR k n:=by
 refine List.ext_getElem? fun i => ?_
 rcases Nat.lt_or_ge i k with hi | hi
 ·rw [SU hi]
  have:=h i hi
  rw [List.getD_eq_getElem?_getD,List.getElem?_eq_getElem (by omega)] at this
  rw [List.getElem?_eq_getElem (by omega)]
  exact congrArg some this
 ·rw [List.getElem?_eq_none (by omega),List.getElem?_eq_none (by rw [be]; omega)]
def bX (a b:List Nat):Nat→Nat
 | 0=>0
 | i+1=>(a.getD i 0+b.getD i 0+bX a b i) / 4294967296
def ov (a b:List Nat) (i:Nat):Nat:=(a.getD i 0+b.getD i 0+bX a b i) % 4294967296
theorem pN {a b:List Nat} (ha:Lb a) (hb:Lb b):∀ i,bX a b i≤1
 | 0=>by simp [bX]
 | i+1=>by
  have h1:=aZ ha i
  have h2:=aZ hb i
  have h3:=pN ha hb i
  simp only [bX]
  omega
def bV (a b:List Nat) (i:Nat):List Nat:=(List.range i).map (ov a b)
theorem rJ (f:Nat→Nat) (i:Nat):ab ((List.range (i+1)).map f)=ab ((List.range i).map f)+4294967296 ^ i*f i:=by
 rw [List.range_succ,List.map_append,db]
 simp [ab]
theorem Az (a b:List Nat):∀ i,ab (bV a b i)+4294967296 ^ i*bX a b i=ab (a.take i)+ab (b.take i)
 | 0=>by simp [bV,bX,ab]
 | i+1=>by
  have ih:=Az a b i
  rw [dN a i,dN b i]
  simp only [bV] at ih ⊢
  rw [rJ,Nat.pow_succ]
  have e:bX a b (i+1)*4294967296+ov a b i=a.getD i 0+b.getD i 0+bX a b i:=by
   simp only [bX,ov]
   omega
  have h1:4294967296 ^ i*4294967296*bX a b (i+1)+4294967296 ^ i*ov a b i=4294967296 ^ i*(a.getD i 0+b.getD i 0+bX a b i):=by
   rw [← e,Nat.mul_add,Nat.mul_assoc,Nat.mul_comm 4294967296]
  simp only [Nat.mul_add] at h1
  omega
theorem cw (a b:List Nat) (i:Nat):(bV a b i).length=i:=by simp [bV]
theorem DV (a b:List Nat) (i:Nat):Lb (bV a b i):=fun x hx=>by
 simp only [bV,List.mem_map] at hx
 obtain ⟨j,_,rfl⟩:=hx
 simp only [ov]
 omega
theorem SV {a b:List Nat} (ha:Lb a) (hb:Lb b) (hl:b.length≤a.length):bV a b a.length++[bX a b a.length]=bR (a.length+1) (ab a+ab b):=by
 have h:=Az a b a.length
 rw [List.take_length,List.take_of_length_le hl] at h
 have h1:Lb (bV a b a.length++[bX a b a.length]):=gY.2 ⟨DV _ _ _,da.2 ⟨by have:=pN ha hb a.length; omega,rH⟩⟩
 have h2:ab (bV a b a.length++[bX a b a.length])=ab a+ab b:=by
  rw [db,cw]
  simp only [ab]
  omega
 rw [← h2]
 have:=uE h1
 simpa [cw] using this.symm
theorem oZ {α:Type} (l:List α) (n:Nat) (x z:α) (h:0 < n):(l++List.replicate n z).set l.length x=(l++[x])++List.replicate (n - 1) z:=by
 obtain ⟨n,rfl⟩:∃ m,n=m+1:=⟨n - 1,by omega⟩
 rw [List.replicate_succ,List.set_append_right _ _ (Nat.le_refl _)]
 simp
theorem SW {a b:List Nat} (ha:Lb a) (hb:Lb b) (hl:b.length≤a.length) (h2:a.length < 4611686018427387904):∀ (k i:Nat),i+k=a.length→∀ (s:aj) (h:ac),s 0=lm a→s 1=lm b→s 5 = .rsl 20 none 1 0 (a.length+1)→s 6=U (bX a b i:Nat) →
  s 21=lm a→s 22=I (a.length:Nat)→s 23=I i→h 20 = .ar 1 (aC (bV a b i++List.replicate (k+1) 0)) →
  au 0 [0,5,6] (aq (ak R (ae false) eG) [0,1,5,6,21,22,23] [20] s h) =
   some (.normal,⟨upd (upd (upd (fun _ => .any) 6 (U (bX a b a.length:Nat))) 5 (.rsl 20 none 1 0 (a.length+1))) 0 (lm a),upd (fun _ => .dead) 20 (.ar 1 (aC (bV a b a.length++[0])))⟩):=by
 intro k
 induction k with
 | zero =>
  intro i hi s h h0 h1 h5 h6 h21 h22 h23 hh
  have:i=a.length:=by omega
  subst this
  rw [ao]
  simp only [eG,go_sem,↓reduceIte,alS,alT,h0,h1,h5,h6,h21,h22,h23,hh,Int.lt_irrefl,List.contains_cons,BEq.rfl,Bool.true_or]
 | succ k ih =>
  intro i hi s h h0 h1 h5 h6 h21 h22 h23 hh
  have ih':=ih (i+1) (by omega)
  have e1:((i:Int) < (a.length:Int))=True:=tt (by omega)
  have e2:aN (aC a) (i:Int)=some (.ipt [U (a.getD i 0:Nat)]):=aS rfl (by omega)
  have e3:IntKind.i64.wrap ((i:Int)+1)=((i+1:Nat):Int):=wi (by omega) (by omega)
  have e4:(0≤(i:Int))=True:=tt (by omega)
  have e5:((i:Int) < ((a.length+1:Nat):Int))=True:=tt (by omega)
  have e6:=IZ (aZ ha i) (aZ hb i) (pN ha hb i)
  have e7:(aC (bV a b i++List.replicate (k+1+1) 0))[i]?=some [U (0:Nat)]:=by
   rw [jN (by simp [cw])]
   simp [List.getD_eq_getElem?_getD,cw]
  have e8:(aC (bV a b i++List.replicate (k+1+1) 0)).set i [U ((a.getD i 0+b.getD i 0+bX a b i) % 4294967296:Nat)]=aC (bV a b (i+1)++List.replicate (k+1) 0):=by
   rw [jO]
   have:=oZ (bV a b i) (k+1+1) (ov a b i) 0 (by omega)
   rw [cw] at this
   rw [show (a.getD i 0+b.getD i 0+bX a b i) % 4294967296=ov a b i from rfl,this]
   simp [bV,List.range_succ]
  rw [ao]
  generalize aq _ _ _=L at ih' ⊢
  by_cases hb':i < b.length
  ·have e9:((i:Int) < (b.length:Int))=True:=tt (by omega)
   have e10:aN (aC b) (i:Int)=some (.ipt [U (b.getD i 0:Nat)]):=aS rfl hb'
   simp only [eG,go_sem,↓reduceIte,alS,alU,alT,alV,h0,h1,h5,h6,h21,h22,h23,hh,List.contains_cons,BEq.rfl,Bool.true_or,e1,e2,e3,e4,e5,e6,e7,e8,e9,e10,Int.toNat_natCast,Nat.zero_add]
   exact ih' _ _ rfl rfl rfl rfl rfl rfl rfl rfl
  ·have e9:((i:Int) < (b.length:Int))=False:=ff (by omega)
   have e10:b.getD i 0=0:=by simp [List.getD_eq_getElem?_getD,List.getElem?_eq_none (show b.length≤i from by omega)]
   have e6':=IZ (aZ ha i) (y:=0) (by omega) (pN ha hb i)
   simp only [Int.natCast_zero] at e6'
   have e8':(aC (bV a b i++List.replicate (k+1+1) 0)).set i [U ((a.getD i 0+0+bX a b i) % 4294967296:Nat)]=aC (bV a b (i+1)++List.replicate (k+1) 0):=by
    have e8':=e8
    rw [e10] at e8'
    exact e8'
   simp only [eG,go_sem,↓reduceIte,alS,alU,alT,alV,h0,h1,h5,h6,h21,h22,h23,hh,List.contains_cons,BEq.rfl,Bool.true_or,e1,e2,e3,e4,e5,e7,e8',e9,Int.toNat_natCast,Nat.zero_add,e6']
   refine ih' _ _ rfl rfl rfl ?_ rfl rfl rfl rfl
   simp only [bX,e10]
   rfl
theorem fU {i j:Int} {l c:Nat} (hi:i=l) (hj:j=c) (h:l≤c) (hc:c < 9223372036854775808):tT (I i) (I j)=some (l,c):=by
 subst hi hj
 simp only [tT]
 rw [if_pos (by omega)]
 simp
def AA:Cmd := .seq (.ops [0,1,5] [cm 17 0,co 18 (.len false (.t 17)),co 19 (.bin .add (.t 18) (.c (.v (.int .i64 1)))),⟨(some 20),none,.mkSl 1 [(.v (.int .u32 0))] 4 (.t 19) (.t 19)⟩,cm 5 20]) (.seq (.ops [0,1,5,6] [co 6 (.mv (.c (.v (.int .u32 0))))]) (.seq (.seq (.ops [0,1,5,6,21,22,23] [cm 21 0,co 22 (.len false (.t 21)),co 23 (.mv (.c (.v (.int .i64 0))))]) (.block 0 [0,5,6] (.loop [0,1,5,6,21,22,23] [20] eG))) (.seq (.ops [5] [cm 47 5,cm 48 0,co 49 (.len false (.t 48)),cm 50 6,co 51 (.iadrS 1 (.t 47) (.t 49)),⟨none,none,.store 1 (.t 51) (.t 50)⟩]) (.seq (.ops [4] [cm 52 5,cm 4 52]) (.ret)))))
theorem I1 {a b:List Nat} (ha:Lb a) (hb:Lb b) (hl:b.length≤a.length) (h2:a.length≤100000):∀ (s:aj),s 0=lm a→s 1=lm b →
  ak R (ae false) AA s (fun _ => .dead)=some (.ret,⟨upd (fun _ => .any) 4 (.rsl 20 none 1 0 (a.length+1)),upd (upd (fun _ => .dead) 20 (.ar 1 (aC (bV a b a.length++[0])))) 20 (.ar 1 (aC (bR (a.length+1) (ab a+ab b))))⟩):=by
 intro s h0 h1
 have e1:IntKind.i64.wrap ((a.length:Int)+1)=((a.length+1:Nat):Int):=wi (by omega) (by omega)
 have e2:=fU (i:=((a.length+1:Nat):Int)) (j:=((a.length+1:Nat):Int)) (l:=a.length+1) (c:=a.length+1) rfl rfl (Nat.le_refl _) (by omega)
 have e3:((a.length+1)*4≤140737488355328)=True:=tt (by omega)
 have e4:=SW ha hb hl (by omega) a.length 0 (by omega)
 have e5:aC (List.replicate (a.length+1) 0)=aC (bV a b 0++List.replicate (a.length+1) 0):=rfl
 have e6:(0≤(a.length:Int))=True:=tt (by omega)
 have e7:((a.length:Int) < ((a.length+1:Nat):Int))=True:=tt (by omega)
 have e8:(aC (bV a b a.length++[0]))[a.length]?=some [U (0:Nat)]:=by
  rw [jN (by simp [cw])]
  simp [List.getD_eq_getElem?_getD,cw]
 have e9:(aC (bV a b a.length++[0])).set a.length [U (bX a b a.length:Nat)]=aC (bR (a.length+1) (ab a+ab b)):=by
  rw [jO]
  have:=oZ (bV a b a.length) 1 (bX a b a.length) 0 (by omega)
  rw [cw] at this
  rw [show [0]=List.replicate 1 0 from rfl,this]
  simp only [Nat.sub_self,List.replicate_zero,List.append_nil]
  rw [SV ha hb hl]
 simp only [AA,go_sem,↓reduceIte,alS,h0,h1,e1,e2,e3,nc,e5]
 rw [e4 _ _ rfl rfl rfl rfl rfl rfl rfl rfl]
 simp only [go_sem,↓reduceIte,alS,alV,e6,e7,e8,e9,Int.toNat_natCast,Nat.zero_add]
theorem I2:vC = .seq (.ops [0,1] [co 4 (.mv (.c .emp))]) (.seq (.seq (.ops [0,1,14] [cm 10 0,co 11 (.len false (.t 10)),cm 12 1,co 13 (.len false (.t 12)),co 14 (.bin .lss (.t 11) (.t 13))]) (.cond (.t 14) (.ops [0,1] [cm 15 1,cm 16 0,cm 0 15,cm 1 16]) (.skip))) AA):=rfl
theorem Qo {a b:List Nat} (ha:Lb a) (hb:Lb b) (h1:a.length≤100000) (h2:b.length≤100000):R F.natural_add [lm a,lm b] []=some (lm (bR (max a.length b.length+1) (ab a+ab b)),[]):=by
 refine aB GM GL (As false) rfl ?_
 by_cases h:a.length < b.length
 ·have e1:((a.length:Int) < (b.length:Int))=True:=tt (by omega)
  have e2:=I1 hb ha (by omega) h2
  simp only [iE,I2,go_sem,↓reduceIte,alS,e1]
  rw [e2 _ rfl rfl]
  simp only [go_sem,↓reduceIte,alV,be,Nat.zero_add,Nat.le_refl]
  rw [Nat.max_eq_right (by omega),Nat.add_comm (ab a)]
 ·have e1:((a.length:Int) < (b.length:Int))=False:=ff (by omega)
  have e2:=I1 ha hb (by omega) h1
  simp only [iE,I2,go_sem,↓reduceIte,alS,e1]
  rw [e2 _ rfl rfl]
  simp only [go_sem,↓reduceIte,alV,be,Nat.zero_add,Nat.le_refl]
  rw [Nat.max_eq_left (by omega)]
theorem Qp {a b:List Nat} (ha:Lb a) (hb:Lb b) (h1:a.length≤256) (h2:b.length≤256):R F.natural_Add [lm a,lm b] []=some (fq (ab a+ab b),[]):=by
 refine aB Gs Gr (Ad false) rfl ?_
 have e1:(256 < a.length)=False:=ff (by omega)
 have e2:(256 < b.length)=False:=ff (by omega)
 have e3:ab (bR (max a.length b.length+1) (ab a+ab b))=ab a+ab b:=by
  rw [eI,Nat.mod_eq_of_lt]
  have h1:=bD ha
  have h2:=bD hb
  have h3:4294967296 ^ a.length≤4294967296 ^ max a.length b.length:=Nat.pow_le_pow_right (by omega) (by omega)
  have h4:4294967296 ^ b.length≤4294967296 ^ max a.length b.length:=Nat.pow_le_pow_right (by omega) (by omega)
  rw [Nat.pow_succ]
  omega
 have e4:=tH (gh (max a.length b.length+1) (ab a+ab b)) (by rw [be]; omega)
 rw [e3] at e4
 unfold fq at e4 ⊢
 by_cases hl:256 < (ap (ab a+ab b)).length
 ·simp only [hl,if_true] at e4 ⊢
  simp only [iB,qd,go_sem,↓reduceIte,alS,alU,alT,alV,alW,e1,e2,mU,Qo ha hb (by omega) (by omega),e4]
 ·simp only [hl,if_false] at e4 ⊢
  simp only [iB,qd,go_sem,↓reduceIte,alS,alU,alT,alV,alW,e1,e2,mU,Qo ha hb (by omega) (by omega),e4]
end Go.Ab
namespace Go.Ab
open Go Go.IntWalk
set_option maxRecDepth 4000
def aT (x y:Nat):Int:=if x < y then -1 else if y < x then 1 else 0
theorem lK {x y:Nat} (h:(ap x).length < (ap y).length):x < y:=by
 have h1:=gK x
 have hy:y ≠ 0:=by rintro rfl; rw [cO] at h; simp at h
 have h2:=PI hy
 have h3:4294967296 ^ (ap x).length≤4294967296 ^ ((ap y).length - 1):=Nat.pow_le_pow_right (by omega) (by omega)
 omega
def eJ:Cmd := .seq (.ops [4] [co 4 (.mv (.c (.v (.int .i64 0))))]) (.ret)
theorem SX {a b:List Nat} (ha:Lb a) (hb:Lb b) (hl:a.length=b.length) (h2:a.length≤100000):∀ (k:Nat),k≤a.length→∀ (s:aj) (h:ac),s 0=lm a→s 1=lm b→s 5=I ((k:Int) - 1) →
  bm (au 0 [] (aq (ak R (ae false) dJ) [0,1,5] [] s h)) (ak R (ae false) eJ)=some (.ret,⟨upd (fun _ => .any) 4 (I (aT (ab (a.take k)) (ab (b.take k)))),fun _ => .dead⟩):=by
 intro k
 induction k with
 | zero =>
  intro hk s h h0 h1 h5
  rw [ao]
  generalize aq _ _ _=L
  have e1:(0≤((0:Nat):Int) - 1)=False:=ff (by omega)
  have e2:aT (ab []) (ab [])=0:=rfl
  simp only [dJ,eJ,go_sem,↓reduceIte,alS,h0,h1,h5,e1,e2]
 | succ k ih =>
  intro hk s h h0 h1 h5
  have ih':=ih (by omega)
  have e1:(0≤((k+1:Nat):Int) - 1)=True:=tt (by omega)
  have e2:aN (aC a) (((k+1:Nat):Int) - 1)=some (.ipt [U (a.getD k 0:Nat)]):=aS (by omega) (by omega)
  have e3:aN (aC b) (((k+1:Nat):Int) - 1)=some (.ipt [U (b.getD k 0:Nat)]):=aS (by omega) (by omega)
  have e4:IntKind.i64.wrap (((k+1:Nat):Int) - 1 - 1)=(k:Int) - 1:=by rw [i64_in] <;> omega
  have va:=dN a k
  have vb:=dN b k
  have la:=bD (iJ ha k)
  have lb:=bD (iJ hb k)
  rw [List.length_take,Nat.min_eq_left (by omega)] at la lb
  rw [ao]
  generalize aq _ _ _=L at ih' ⊢
  rcases Nat.lt_trichotomy (a.getD k 0) (b.getD k 0) with hlt | heq | hgt
  ·have e5:((a.getD k 0:Int) < (b.getD k 0:Int))=True:=tt (by omega)
   have e6:aT (ab (a.take (k+1))) (ab (b.take (k+1))) = -1:=by
    have:4294967296 ^ k*(a.getD k 0+1)≤4294967296 ^ k*b.getD k 0:=Nat.mul_le_mul_left _ hlt
    rw [Nat.mul_add] at this
    simp only [aT]
    rw [if_pos (by omega)]
   simp only [dJ,eJ,go_sem,↓reduceIte,alS,h0,h1,h5,e1,e2,e3,e5,e6]
  ·have e5:((a.getD k 0:Int) < (b.getD k 0:Int))=False:=ff (by omega)
   have e7:((b.getD k 0:Int) < (a.getD k 0:Int))=False:=ff (by omega)
   have e6:aT (ab (a.take (k+1))) (ab (b.take (k+1)))=aT (ab (a.take k)) (ab (b.take k)):=by
    rw [va,vb,heq]
    simp only [aT]
    repeat' split
    all_goals first | rfl | omega
   simp only [dJ,go_sem,↓reduceIte,alS,h0,h1,h5,e1,e2,e3,e5,e6,e7,e4]
   exact ih' _ _ rfl rfl rfl
  ·have e5:((a.getD k 0:Int) < (b.getD k 0:Int))=False:=ff (by omega)
   have e7:((b.getD k 0:Int) < (a.getD k 0:Int))=True:=tt (by omega)
   have e6:aT (ab (a.take (k+1))) (ab (b.take (k+1)))=1:=by
    have:4294967296 ^ k*(b.getD k 0+1)≤4294967296 ^ k*a.getD k 0:=Nat.mul_le_mul_left _ hgt
    rw [Nat.mul_add] at this
    simp only [aT]
    rw [if_neg (by omega),if_pos (by omega)]
   simp only [dJ,eJ,go_sem,↓reduceIte,alS,h0,h1,h5,e1,e2,e3,e5,e6,e7]
theorem AB:vq = .seq (.ops [0,1] [co 4 (.mv (.c (.v (.int .i64 0))))]) (.seq (.ops [0,1] [cm 6 0,⟨(some 7),none,.call (.c (.fn F.natural_trim [] [])) [(.t 6)]⟩,cm 8 1,⟨(some 9),none,.call (.c (.fn F.natural_trim [] [])) [(.t 8)]⟩,cm 0 7,cm 1 9]) (.seq (.seq (.ops [0,1,14] [cm 10 0,co 11 (.len false (.t 10)),cm 12 1,co 13 (.len false (.t 12)),co 14 (.bin .neq (.t 11) (.t 13))]) (.cond (.t 14) (.seq (.seq (.ops [19] [cm 15 0,co 16 (.len false (.t 15)),cm 17 1,co 18 (.len false (.t 17)),co 19 (.bin .lss (.t 16) (.t 18))]) (.cond (.t 19) (.seq (.ops [4] [co 4 (.mv (.c (.v (.int .i64 (-1)))))]) (.ret)) (.skip))) (.seq (.ops [4] [co 4 (.mv (.c (.v (.int .i64 1))))]) (.ret))) (.skip))) (.seq (.seq (.ops [0,1,5] [cm 20 0,co 21 (.len false (.t 20)),co 22 (.bin .sub (.t 21) (.c (.v (.int .i64 1)))),cm 5 22]) (.block 0 [] (.loop [0,1,5] [] dJ))) eJ))):=rfl
theorem bS (m:List Nat) (h:Lb m):(ap (ab m)).length≤m.length:=fy (bD h)
theorem tI {a b:List Nat} (ha:Lb a) (hb:Lb b) (h1:a.length≤100000) (h2:b.length≤100000):R F.natural_Cmp [lm a,lm b] []=some (I (aT (ab a) (ab b)),[]):=by
 refine aB Gu Gt (Ae false) rfl ?_
 have la:=bS a ha
 have lb:=bS b hb
 rcases Nat.lt_trichotomy (ap (ab a)).length (ap (ab b)).length with hlt | heq | hgt
 ·have e1:((ap (ab a)).length:Int)=((ap (ab b)).length:Int)↔False:=⟨fun h=>by omega,False.elim⟩
  have e2:(((ap (ab a)).length:Int) < ((ap (ab b)).length:Int))=True:=tt (by omega)
  have e3:aT (ab a) (ab b) = -1:=by simp [aT,lK hlt]
  simp only [fZ,AB,go_sem,↓reduceIte,alS,alU,alT,dc ha (by omega),dc hb (by omega),e1,e2,e3]
 ·have e1:(((ap (ab a)).length:Int)=((ap (ab b)).length:Int))=True:=tt (by omega)
  have e2:IntKind.i64.wrap (((ap (ab b)).length:Int) - 1)=((ap (ab b)).length:Int) - 1:=by rw [i64_in] <;> omega
  have e3:=SX (aL (ab a)) (aL (ab b)) heq (by omega) (ap (ab a)).length (Nat.le_refl _)
  rw [List.take_length,heq,List.take_length,aD,aD] at e3
  simp only [fZ,AB,go_sem,↓reduceIte,alS,alU,alT,dc ha (by omega),dc hb (by omega),heq,e2]
  rw [e3 _ _ rfl rfl rfl]
  simp only [go_sem,↓reduceIte]
 ·have e1:((ap (ab a)).length:Int)=((ap (ab b)).length:Int)↔False:=⟨fun h=>by omega,False.elim⟩
  have e2:(((ap (ab a)).length:Int) < ((ap (ab b)).length:Int))=False:=ff (by omega)
  have e3:aT (ab a) (ab b)=1:=by
   have:=lK hgt
   simp only [aT]
   rw [if_neg (by omega),if_pos this]
  simp only [fZ,AB,go_sem,↓reduceIte,alS,alU,alT,dc ha (by omega),dc hb (by omega),e1,e2,e3]
theorem VK (v:BitVec 32):v.toNat / 2147483648=if v.msb=true then 1 else 0:=by
 have h:=v.isLt
 rw [BitVec.msb_eq_decide]
 split <;> rename_i h1 <;> simp at h1 <;> omega
theorem N6 {x y c:Nat} (hx:x < 4294967296) (hy:y < 4294967296) (hc:c≤1) (D:BitVec 32) (hD:D.toNat=(x+4294967296 - y - c) % 4294967296) :
  ((~~~(BitVec.ofNat 32 x) &&& BitVec.ofNat 32 y) ||| (~~~(BitVec.ofNat 32 x ^^^ BitVec.ofNat 32 y) &&& D)).toNat / 2147483648=if x < y+c then 1 else 0:=by
 rw [VK]
 have h1:(BitVec.ofNat 32 x).msb=decide (2147483648≤x):=by rw [BitVec.msb_eq_decide]; simp; omega
 have h2:(BitVec.ofNat 32 y).msb=decide (2147483648≤y):=by rw [BitVec.msb_eq_decide]; simp; omega
 have h3:D.msb=decide (2147483648≤(x+4294967296 - y - c) % 4294967296):=by rw [BitVec.msb_eq_decide,hD]
 rw [BitVec.msb_or,BitVec.msb_and,BitVec.msb_and,BitVec.msb_not,BitVec.msb_not,BitVec.msb_xor,h1,h2,h3]
 by_cases a1:2147483648≤x <;> by_cases a2:2147483648≤y <;> by_cases a3:x < y+c <;> simp [a1,a2,a3] <;> omega
theorem ofI (n:Nat):BitVec.ofInt 32 (n:Int)=BitVec.ofNat 32 n:=by simp
theorem aeo (v:BitVec 32):IntKind.u32.wrap (v.toNat:Int)=(v.toNat:Int):=by
 have:=v.isLt
 rw [IntKind.wrap_u32]
 omega
theorem I3 {x y c:Nat} (hx:x < 4294967296) (hy:y < 4294967296) (hc:c≤1):R F.bits_Sub32 [U x,U y,U c] []=some (.tup [U (((x+4294967296 - y - c) % 4294967296:Nat)),U ((if x < y+c then 1 else 0:Nat))],[]):=by
 refine aB IV IU (Cd false) rfl ?_
 have e1:IntKind.u32.wrap ((x:Int) - y)=(((x+4294967296 - y) % 4294967296:Nat):Int):=by rw [IntKind.wrap_u32]; omega
 have e2:IntKind.u32.wrap ((((x+4294967296 - y) % 4294967296:Nat):Int) - c)=(((x+4294967296 - y - c) % 4294967296:Nat):Int):=by rw [IntKind.wrap_u32]; omega
 have b:IntKind.u32.bits=32:=rfl
 have e3:BitVec.ofInt 32 (if IntKind.u32.signed=true then (-1:Int) else IntKind.u32.max)=BitVec.allOnes 32:=by decide
 have e4:∀ v:BitVec 32,BitVec.allOnes 32 ^^^ v = ~~~v:=fun v=>BitVec.not_def.symm
 have e5:∀ v:BitVec 32,BitVec.ofNat 32 v.toNat=v:=fun v=>by simp
 have key:=N6 hx hy hc (BitVec.ofNat 32 ((x+4294967296 - y - c) % 4294967296)) (by simp)
 have sh:∀ v:BitVec 32,cd .shr (.v (.int .u32 (v.toNat:Int))) (.v (.int .u64 31))=some (.v (.int .u32 ((v.toNat / 2147483648:Nat):Int))):=fun v=>by
  rw [CZ,if_neg (by decide)]
  simp only [b,show min (31:Int).toNat 32=31 from rfl,Option.some.injEq,AV.v.injEq,Value.int.injEq,true_and]
  rw [Int.fdiv_eq_ediv_of_nonneg _ (by decide)]
  omega
 simp only [mE,wO,go_sem,↓reduceIte,alS,e1,e2,ofI,e3,e5,aeo,sh]
 rw [← e4,← e4] at key
 exact congrArg (fun n:Nat=>some (AV.tup [AV.v (Value.int IntKind.u32 ((x+4294967296 - y - c) % 4294967296:Nat)),U (n:Int)],([]:List Ob))) key
def dn (a b:List Nat):Nat→Nat
 | 0=>0
 | i+1=>if a.getD i 0 < b.getD i 0+dn a b i then 1 else 0
def ow (a b:List Nat) (i:Nat):Nat:=(a.getD i 0+4294967296 - b.getD i 0 - dn a b i) % 4294967296
def cq (a b:List Nat) (i:Nat):List Nat:=(List.range i).map (ow a b)
theorem pO (a b:List Nat) (i:Nat):dn a b i≤1:=by
 cases i with
 | zero=>simp [dn]
 | succ i=>simp only [dn]; split <;> omega
theorem I4 {a b:List Nat} (ha:Lb a) (hb:Lb b):∀ i,ab (cq a b i)+ab (b.take i)=ab (a.take i)+4294967296 ^ i*dn a b i
 | 0=>by simp [cq,dn,ab]
 | i+1=>by
  have ih:=I4 ha hb i
  rw [dN a i,dN b i]
  simp only [cq] at ih ⊢
  rw [rJ,Nat.pow_succ]
  have h1:=aZ ha i
  have h2:=aZ hb i
  have h3:=pO a b i
  have e:ow a b i+b.getD i 0+dn a b i=a.getD i 0+4294967296*dn a b (i+1):=by
   simp only [ow,dn]
   split <;> omega
  have h4:4294967296 ^ i*(ow a b i+b.getD i 0+dn a b i)=4294967296 ^ i*(a.getD i 0+4294967296*dn a b (i+1)):=by rw [e]
  simp only [Nat.mul_add] at h4
  rw [← Nat.mul_assoc] at h4
  omega
theorem eL (a b:List Nat) (i:Nat):(cq a b i).length=i:=by simp [cq]
theorem xY (a b:List Nat) (i:Nat):Lb (cq a b i):=fun x hx=>by
 simp only [cq,List.mem_map] at hx
 obtain ⟨j,_,rfl⟩:=hx
 simp only [ow]
 omega
theorem AC {a b:List Nat} (ha:Lb a) (hb:Lb b) (hl:b.length≤a.length) (hv:ab b≤ab a):cq a b a.length=bR a.length (ab a - ab b):=by
 have h:=I4 ha hb a.length
 rw [List.take_length,List.take_of_length_le hl] at h
 have h1:=bD (xY a b a.length)
 rw [eL] at h1
 have hz:dn a b a.length=0:=by
  have:=pO a b a.length
  rcases Nat.eq_zero_or_pos (dn a b a.length) with h0 | h0
  ·exact h0
  ·have:dn a b a.length=1:=by omega
   rw [this] at h
   omega
 rw [hz] at h
 have h2:=uE (xY a b a.length)
 rw [eL,show ab (cq a b a.length)=ab a - ab b from by omega] at h2
 exact h2.symm
theorem SY {a b:List Nat} (ha:Lb a) (hb:Lb b) (h2:a.length≤100000):∀ (k i:Nat),i+k=a.length→∀ (s:aj) (h:ac),s 1=lm b→s 5 = .rsl 16 none 1 0 a.length→s 6=U (dn a b i:Nat) →
  s 17=lm a→s 18=I (a.length:Nat)→s 19=I i→h 16 = .ar 1 (aC (cq a b i++List.replicate k 0)) →
  au 0 [5] (aq (ak R (ae false) gt) [1,5,6,17,18,19] [16] s h) =
   some (.normal,⟨upd (fun _ => .any) 5 (.rsl 16 none 1 0 a.length),upd (fun _ => .dead) 16 (.ar 1 (aC (cq a b a.length)))⟩):=by
 intro k
 induction k with
 | zero =>
  intro i hi s h h1 h5 h6 h17 h18 h19 hh
  have:i=a.length:=by omega
  subst this
  rw [ao]
  simp only [List.replicate_zero,List.append_nil] at hh
  simp only [gt,go_sem,↓reduceIte,alS,alX,h1,h5,h6,h17,h18,h19,hh,Int.lt_irrefl]
 | succ k ih =>
  intro i hi s h h1 h5 h6 h17 h18 h19 hh
  have ih':=ih (i+1) (by omega)
  have e1:((i:Int) < (a.length:Int))=True:=tt (by omega)
  have e2:aN (aC a) (i:Int)=some (.ipt [U (a.getD i 0:Nat)]):=aS rfl (by omega)
  have e3:IntKind.i64.wrap ((i:Int)+1)=((i+1:Nat):Int):=wi (by omega) (by omega)
  have e4:(0≤(i:Int))=True:=tt (by omega)
  have e7:(aC (cq a b i++List.replicate (k+1) 0))[i]?=some [U (0:Nat)]:=by
   rw [jN (by simp [eL])]
   simp [List.getD_eq_getElem?_getD,eL]
  have e8:(aC (cq a b i++List.replicate (k+1) 0)).set i [U ((a.getD i 0+4294967296 - b.getD i 0 - dn a b i) % 4294967296:Nat)]=aC (cq a b (i+1)++List.replicate k 0):=by
   rw [jO]
   have:=oZ (cq a b i) (k+1) (ow a b i) 0 (by omega)
   rw [eL] at this
   rw [show (a.getD i 0+4294967296 - b.getD i 0 - dn a b i) % 4294967296=ow a b i from rfl,this]
   simp [cq,List.range_succ]
  rw [ao]
  generalize aq _ _ _=L at ih' ⊢
  by_cases hb':i < b.length
  ·have e6:=I3 (aZ ha i) (aZ hb i) (pO a b i)
   have e9:((i:Int) < (b.length:Int))=True:=tt (by omega)
   have e10:aN (aC b) (i:Int)=some (.ipt [U (b.getD i 0:Nat)]):=aS rfl hb'
   simp only [gt,go_sem,↓reduceIte,alS,alU,alT,alV,alX,h1,h5,h6,h17,h18,h19,hh,e1,e2,e3,e4,e6,e7,e8,e9,e10,Int.toNat_natCast,Nat.zero_add]
   exact ih' _ _ rfl rfl rfl rfl rfl rfl rfl
  ·have e9:((i:Int) < (b.length:Int))=False:=ff (by omega)
   have e10:b.getD i 0=0:=by simp [List.getD_eq_getElem?_getD,List.getElem?_eq_none (show b.length≤i from by omega)]
   have e6':=I3 (aZ ha i) (y:=0) (by omega) (pO a b i)
   simp only [Int.natCast_zero] at e6'
   have e8':(aC (cq a b i++List.replicate (k+1) 0)).set i [U ((a.getD i 0+4294967296 - 0 - dn a b i) % 4294967296:Nat)]=aC (cq a b (i+1)++List.replicate k 0):=by
    have e8':=e8
    rw [e10] at e8'
    exact e8'
   simp only [gt,go_sem,↓reduceIte,alS,alU,alT,alV,alX,h1,h5,h6,h17,h18,h19,hh,e1,e2,e3,e4,e6',e7,e8',e9,Int.toNat_natCast,Nat.zero_add]
   refine ih' _ _ rfl rfl ?_ rfl rfl rfl rfl
   simp only [dn,e10,Nat.zero_add]
   rfl
theorem Qq {a b:List Nat} (ha:Lb a) (hb:Lb b) (h1:a.length≤100000) (h2:b.length≤100000) (hv:ab b≤ab a):R F.natural_sub [lm a,lm b] []=some (lm (bR (ap (ab a)).length (ab a - ab b)),[]):=by
 refine aB GO GN (At false) rfl ?_
 have la:=bS a ha
 have lb:(ap (ab b)).length≤(ap (ab a)).length:=by
  rcases Nat.lt_or_ge (ap (ab a)).length (ap (ab b)).length with h | h
  ·have:=lK h; omega
  ·exact h
 have e2:=fU (i:=((ap (ab a)).length:Int)) (j:=((ap (ab a)).length:Int)) rfl rfl (Nat.le_refl _) (by omega)
 have e3:((ap (ab a)).length*4≤140737488355328)=True:=tt (by omega)
 have e4:=SY (aL (ab a)) (aL (ab b)) (by omega) (ap (ab a)).length 0 (by omega)
 have e5:aC (List.replicate (ap (ab a)).length 0)=aC (cq (ap (ab a)) (ap (ab b)) 0++List.replicate (ap (ab a)).length 0):=rfl
 have e6:=AC (aL (ab a)) (aL (ab b)) lb (by rw [aD,aD]; exact hv)
 rw [aD,aD] at e6
 simp only [lC,vD,go_sem,↓reduceIte,alS,alU,alT,dc ha (by omega),dc hb (by omega),e2,e3,nc,e5]
 rw [e4 _ _ rfl rfl rfl rfl rfl rfl rfl]
 simp only [go_sem,↓reduceIte,alV,alW,e6,be,Nat.zero_add,Nat.le_refl]
theorem Qr {a b:List Nat} (ha:Lb a) (hb:Lb b) (h1:a.length≤256) (h2:b.length≤256):R F.natural_Sub [lm a,lm b] []=some (if ab a < ab b then .tup [lm [],I 2] else fq (ab a - ab b),[]):=by
 refine aB Gw Gv (Af false) rfl ?_
 have e1:(256 < a.length)=False:=ff (by omega)
 have e2:(256 < b.length)=False:=ff (by omega)
 by_cases hv:ab a < ab b
 ·have e3:aT (ab a) (ab b) = -1:=by simp [aT,hv]
  simp only [ga,mz,go_sem,↓reduceIte,alS,alU,alT,alV,alW,alY,e1,e2,mU,tI ha hb (by omega) (by omega),e3,hv]
 ·have e3:(aT (ab a) (ab b) < 0)=False:=ff (by simp only [aT]; split <;> (try split) <;> omega)
  have e5:ab (bR (ap (ab a)).length (ab a - ab b))=ab a - ab b:=by
   rw [eI,Nat.mod_eq_of_lt]
   have:=gK (ab a)
   omega
  have e4:=tH (gh (ap (ab a)).length (ab a - ab b)) (by rw [be]; have:=bS a ha; omega)
  rw [e5] at e4
  unfold fq at e4 ⊢
  by_cases hl:256 < (ap (ab a - ab b)).length
  ·simp only [hl,if_true] at e4 ⊢
   simp only [ga,mz,go_sem,↓reduceIte,alS,alU,alT,alV,alW,e1,e2,mU,tI ha hb (by omega) (by omega),e3,hv,Qq ha hb (by omega) (by omega) (by omega),e4]
  ·simp only [hl,if_false] at e4 ⊢
   simp only [ga,mz,go_sem,↓reduceIte,alS,alU,alT,alV,alW,e1,e2,mU,tI ha hb (by omega) (by omega),e3,hv,Qq ha hb (by omega) (by omega) (by omega),e4]
end Go.Ab
namespace Go.Ab
open Go Go.IntWalk
set_option maxRecDepth 4000
def mi (x:Nat):Nat→List Nat→List Nat→List Nat × Nat
 | c,y::bs,o::s=>(((x*y+o+c) % 4294967296)::(mi x ((x*y+o+c) / 4294967296) bs s).1,(mi x ((x*y+o+c) / 4294967296) bs s).2)
 | c,_,s=>(s,c)
theorem I5 (x:Nat):∀ (bs s r:List Nat) (c:Nat),bs.length≤s.length→mi x c bs (s++r)=((mi x c bs s).1++r,(mi x c bs s).2)
 | [],s,r,c,_=>by simp [mi]
 | y::bs,[],r,c,h=>by simp at h
 | y::bs,o::s,r,c,h=>by
  have ih:=I5 x bs s r ((x*y+o+c) / 4294967296) (by simpa using h)
  simp only [List.cons_append,mi,ih]
theorem sq (x:Nat):∀ (bs s:List Nat) (c:Nat),(mi x c bs s).1.length=s.length
 | [],s,c=>by simp [mi]
 | y::bs,[],c=>by simp [mi]
 | y::bs,o::s,c=>by simp [mi,sq x bs s]
theorem UA (x:Nat):∀ (bs s:List Nat) (c:Nat),Lb s→Lb (mi x c bs s).1
 | [],s,c,h=>by simpa [mi] using h
 | y::bs,[],c,h=>by simpa [mi] using h
 | y::bs,o::s,c,h=>by
  simp only [mi]
  exact da.2 ⟨by omega,UA x bs s _ (da.1 h).2⟩
theorem I6 {x y o c:Nat} (hx:x < 4294967296) (hy:y < 4294967296) (ho:o < 4294967296) (hc:c < 4294967296):x*y+o+c < 18446744073709551616:=by
 have:x*y≤4294967295*4294967295:=Nat.mul_le_mul (by omega) (by omega)
 omega
theorem uK {x:Nat} (hx:x < 4294967296):∀ (bs s:List Nat) (c:Nat),Lb bs→Lb s→c < 4294967296→(mi x c bs s).2 < 4294967296
 | [],s,c,_,_,hc=>by simpa [mi] using hc
 | y::bs,[],c,_,_,hc=>by simpa [mi] using hc
 | y::bs,o::s,c,hb,hs,hc=>by
  simp only [mi]
  have:=I6 hx (da.1 hb).1 (da.1 hs).1 hc
  exact uK hx bs s _ (da.1 hb).2 (da.1 hs).2 (by omega)
theorem Qs (x:Nat):∀ (bs s:List Nat) (c:Nat),bs.length=s.length→ab (mi x c bs s).1+4294967296 ^ s.length*(mi x c bs s).2=ab s+x*ab bs+c
 | [],[],c,_=>by simp [mi,ab]
 | [],o::s,c,h=>by simp at h
 | y::bs,[],c,h=>by simp at h
 | y::bs,o::s,c,h=>by
  have ih:=Qs x bs s ((x*y+o+c) / 4294967296) (by simpa using h)
  simp only [mi,ab,List.length_cons,Nat.pow_succ]
  have e1:4294967296 ^ s.length*4294967296*(mi x ((x*y+o+c) / 4294967296) bs s).2=4294967296*(4294967296 ^ s.length*(mi x ((x*y+o+c) / 4294967296) bs s).2):=by
   rw [Nat.mul_comm (4294967296 ^ s.length) 4294967296,Nat.mul_assoc]
  have e2:x*(y+4294967296*ab bs)=x*y+4294967296*(x*ab bs):=by
   rw [Nat.mul_add]
   congr 1
   rw [← Nat.mul_assoc,Nat.mul_comm x,Nat.mul_assoc]
  rw [e1,e2]
  omega
theorem N7 {a b:List Nat} (hb:Lb b) {x i n:Nat} (hx:x < 4294967296) (h2:b.length≤100000) (hi:i≤100000):∀ (bs:List Nat) (k:Nat) (D S:List Nat) (c:Nat),b.drop k=bs→k≤b.length→D.length=i+k→bs.length≤S.length→(D++S).length=n→Lb S→c < 4294967296 →
  ∀ (s:aj) (h:ac),s 18=lm a→s 19=I (a.length:Nat)→s 20=I i→s 1=lm b→s 5 = .rsl 17 none 1 0 n→s 6=I i→s 7=U x→s 8=W c→s 25=lm b→s 26=I (b.length:Nat)→s 27=I k→h 17 = .ar 1 (aC (D++S)) →
  au 2 [1,5,6,8,18,19,20] (aq (ak R (ae false) ji) [1,5,6,7,8,18,19,20,25,26,27] [17] s h) =
   some (.normal,⟨upd (upd (upd (upd (upd (upd (upd (fun _ => .any) 20 (I i)) 19 (I (a.length:Nat))) 18 (lm a)) 8 (W ((mi x c bs S).2:Nat))) 6 (I i)) 5 (.rsl 17 none 1 0 n)) 1 (lm b),upd (fun _ => .dead) 17 (.ar 1 (aC (D++(mi x c bs S).1)))⟩):=by
 intro bs
 induction bs with
 | nil =>
  intro k D S c hd hk hD hS hn hLS hc s h h18 h19 h20 h1 h5 h6 h7 h8 h25 h26 h27 hh
  have:k=b.length:=by
   have:=congrArg List.length hd
   simp at this
   omega
  subst this
  rw [ao]
  simp only [ji,go_sem,↓reduceIte,alS,alX,h18,h19,h20,h1,h5,h6,h7,h8,h25,h26,h27,hh,Int.lt_irrefl,mi]
 | cons y bs ih =>
  intro k D S c hd hk hD hS hn hLS hc s h h18 h19 h20 h1 h5 h6 h7 h8 h25 h26 h27 hh
  obtain ⟨o,S,rfl⟩:∃ o S',S=o::S':=by
   cases S with
   | nil=>simp at hS
   | cons o S=>exact ⟨o,S,rfl⟩
  have hlt:k < b.length:=by
   have:=congrArg List.length hd
   simp at this
   omega
  have hy:b.getD k 0=y:=by
   have:=congrArg (·[0]?) hd
   simp only [List.getElem?_drop,Nat.add_zero,List.getElem?_cons_zero] at this
   rw [List.getD_eq_getElem?_getD,this]
   rfl
  have hyb:y < 4294967296:=by rw [← hy]; exact aZ hb k
  have hob:o < 4294967296:=(da.1 hLS).1
  have hml:=I6 hx hyb hob hc
  have hxy:x*y < 18446744073709551616:=by omega
  have ih':=ih (k+1) (D++[(x*y+o+c) % 4294967296]) S ((x*y+o+c) / 4294967296) (by rw [← List.drop_drop,hd]; rfl) hlt (by simp [hD]; omega) (by simpa using hS) (by simpa using hn) (da.1 hLS).2 (by omega)
  have e1:((k:Int) < (b.length:Int))=True:=tt (by omega)
  have e2:aN (aC b) (k:Int)=some (.ipt [U (y:Nat)]):=by rw [aS rfl hlt,hy]
  have e3:IntKind.i64.wrap ((k:Int)+1)=((k+1:Nat):Int):=wi (by omega) (by omega)
  have e4:IntKind.i64.wrap ((i:Int)+(k:Int))=((i+k:Nat):Int):=wi (by omega) (by omega)
  have e5:(0≤((i+k:Nat):Int))=True:=tt (by omega)
  have hin:i+k < n:=by rw [← hn]; simp [hD]
  have e6:(((i+k:Nat):Int) < (n:Int))=True:=tt (by omega)
  have e7:(aC (D++o::S))[i+k]?=some [U (o:Nat)]:=by
   rw [jN (by simp [hD])]
   simp [List.getD_eq_getElem?_getD,hD]
  have f1:IntKind.u64.wrap (x:Int)=x:=cf rfl (by omega)
  have f2:IntKind.u64.wrap (y:Int)=y:=cf rfl (by omega)
  have f3:IntKind.u64.wrap ((x:Int)*(y:Int))=((x*y:Nat):Int):=cf (by simp) hxy
  have f4:IntKind.u64.wrap (o:Int)=o:=cf rfl (by omega)
  have f5:IntKind.u64.wrap (((x*y:Nat):Int)+(o:Int))=((x*y+o:Nat):Int):=cf (by omega) (by omega)
  have f6:IntKind.u64.wrap (((x*y+o:Nat):Int)+(c:Int))=((x*y+o+c:Nat):Int):=cf (by omega) (by omega)
  have f7:IntKind.u32.wrap ((x*y+o+c:Nat):Int)=(((x*y+o+c) % 4294967296:Nat):Int):=IY rfl
  have f8:=io (n:=x*y+o+c) (k:=32) (kk := .u64) (j:=32) rfl rfl (by omega)
  have f9:(aC (D++o::S)).set (i+k) [U ((x*y+o+c) % 4294967296:Nat)]=aC (D++[(x*y+o+c) % 4294967296]++S):=by
   rw [jO,← hD,List.set_append_right _ _ (Nat.le_refl _)]
   simp
  rw [ao]
  generalize aq _ _ _=L at ih' ⊢
  simp only [ji,go_sem,↓reduceIte,alS,alV,alX,h18,h19,h20,h1,h5,h6,h7,h8,h25,h26,h27,hh,e1,e2,e3,e4,e5,e6,e7,f1,f2,f3,f4,f5,f6,f7,f8,f9,Int.toNat_natCast,Nat.zero_add,mi]
  rw [ih' _ _ rfl rfl rfl rfl rfl rfl rfl rfl rfl rfl rfl rfl]
  simp only [List.append_assoc,List.singleton_append]
def aR (a b:List Nat) (i:Nat):List Nat:=bR (i+b.length) (ab (a.take i)*ab b)
theorem Fe {a b:List Nat} (ha:Lb a) (hb:Lb b) {i:Nat} (hi:i < a.length) :
  (aR a b i).take i++((mi (a.getD i 0) 0 b ((aR a b i).drop i)).1++[(mi (a.getD i 0) 0 b ((aR a b i).drop i)).2])=aR a b (i+1):=by
 have hx:=aZ ha i
 have hP:(aR a b i).length=i+b.length:=be _ _
 have hLP:Lb (aR a b i):=gh _ _
 have hS:((aR a b i).drop i).length=b.length:=by simp [hP]
 have h1:=Qs (a.getD i 0) b ((aR a b i).drop i) 0 hS.symm
 have h2:=uK hx b ((aR a b i).drop i) 0 hb (lH hLP i) (by omega)
 have h3:=UA (a.getD i 0) b ((aR a b i).drop i) 0 (lH hLP i)
 have h4:=sq (a.getD i 0) b ((aR a b i).drop i) 0
 have hvP:ab (aR a b i)=ab (a.take i)*ab b:=by
  unfold aR
  rw [eI,Nat.mod_eq_of_lt]
  have e1:=bD (iJ ha i)
  have e2:=bD hb
  rw [List.length_take,Nat.min_eq_left (by omega)] at e1
  rw [Nat.pow_add]
  exact Nat.mul_lt_mul'' e1 e2
 have hsplit:ab (aR a b i)=ab ((aR a b i).take i)+4294967296 ^ i*ab ((aR a b i).drop i):=by
  conv=>lhs; rw [← List.take_append_drop i (aR a b i)]
  rw [db,List.length_take,hP,Nat.min_eq_left (by omega)]
 have hLb:Lb ((aR a b i).take i++((mi (a.getD i 0) 0 b ((aR a b i).drop i)).1++[(mi (a.getD i 0) 0 b ((aR a b i).drop i)).2])) :=
  gY.2 ⟨iJ hLP i,gY.2 ⟨h3,da.2 ⟨h2,rH⟩⟩⟩
 have hval:ab ((aR a b i).take i++((mi (a.getD i 0) 0 b ((aR a b i).drop i)).1++[(mi (a.getD i 0) 0 b ((aR a b i).drop i)).2]))=ab (a.take (i+1))*ab b:=by
  rw [db,db,List.length_take,hP,Nat.min_eq_left (by omega),h4,dN a i,Nat.add_mul,← hvP,hsplit]
  simp only [ab,Nat.mul_zero,Nat.add_zero] at h1 ⊢
  rw [h1,Nat.mul_add,Nat.mul_assoc]
  omega
 have hlen:((aR a b i).take i++((mi (a.getD i 0) 0 b ((aR a b i).drop i)).1++[(mi (a.getD i 0) 0 b ((aR a b i).drop i)).2])).length=i+1+b.length:=by
  simp only [List.length_append,List.length_take,hP,h4,hS,List.length_cons,List.length_nil]
  omega
 have:=uE hLb
 rw [hlen,hval] at this
 exact this.symm
theorem SZ {a b:List Nat} (ha:Lb a) (hb:Lb b) (h1:a.length≤100000) (h2:b.length≤100000):∀ (k i:Nat),i+k=a.length→∀ (s:aj) (h:ac),s 1=lm b→s 5 = .rsl 17 none 1 0 (a.length+b.length) →
  s 18=lm a→s 19=I (a.length:Nat)→s 20=I i→h 17 = .ar 1 (aC (aR a b i++List.replicate k 0)) →
  au 0 [5] (aq (ak R (ae false) jj) [1,5,18,19,20] [17] s h) =
   some (.normal,⟨upd (fun _ => .any) 5 (.rsl 17 none 1 0 (a.length+b.length)),upd (fun _ => .dead) 17 (.ar 1 (aC (aR a b a.length)))⟩):=by
 intro k
 induction k with
 | zero =>
  intro i hi s h h1 h5 h18 h19 h20 hh
  have:i=a.length:=by omega
  subst this
  rw [ao]
  simp only [List.replicate_zero,List.append_nil] at hh
  simp only [jj,go_sem,↓reduceIte,alS,alX,h1,h5,h18,h19,h20,hh,Int.lt_irrefl]
 | succ k ih =>
  intro i hi s h g1 h5 h18 h19 h20 hh
  have ih':=ih (i+1) (by omega)
  have hx:=aZ ha i
  have hP:(aR a b i).length=i+b.length:=be _ _
  have hLP:Lb (aR a b i):=gh _ _
  have hsp:aR a b i++List.replicate (k+1) 0=(aR a b i).take i++((aR a b i).drop i++List.replicate (k+1) 0):=by rw [← List.append_assoc,List.take_append_drop]
  have e1:((i:Int) < (a.length:Int))=True:=tt (by omega)
  have e2:aN (aC a) (i:Int)=some (.ipt [U (a.getD i 0:Nat)]):=aS rfl (by omega)
  have e3:IntKind.i64.wrap ((i:Int)+1)=((i+1:Nat):Int):=wi (by omega) (by omega)
  have e4:IntKind.i64.wrap ((i:Int)+(b.length:Int))=((i+b.length:Nat):Int):=wi (by omega) (by omega)
  have e5:(0≤((i+b.length:Nat):Int))=True:=tt (by omega)
  have e6:(((i+b.length:Nat):Int) < ((a.length+b.length:Nat):Int))=True:=tt (by omega)
  have lp:=N7 (a:=a) hb (x:=a.getD i 0) (i:=i) (n:=a.length+b.length) hx h2 (by omega) b 0 ((aR a b i).take i) ((aR a b i).drop i++List.replicate (k+1) 0) 0 rfl (Nat.zero_le _) (by simp [hP]) (by simp [hP]) (by simp [hP]; omega)
   (gY.2 ⟨lH hLP i,fun y hy=>by rw [List.eq_of_mem_replicate hy]; omega⟩) (by omega)
  rw [I5 _ _ _ _ _ (by simp [hP])] at lp
  have ml:(mi (a.getD i 0) 0 b ((aR a b i).drop i)).1.length=b.length:=by rw [sq]; simp [hP]
  have mc:=uK hx b ((aR a b i).drop i) 0 hb (lH hLP i) (by omega)
  have ps:=Fe ha hb (show i < a.length from by omega)
  rw [hsp] at hh
  generalize mi (a.getD i 0) 0 b ((aR a b i).drop i)=r at *
  have f1:IntKind.u32.wrap (r.2:Int)=(r.2:Int):=oo rfl mc
  have hlen:((aR a b i).take i++r.1).length=i+b.length:=by simp [hP,ml]
  have e7:(aC ((aR a b i).take i++(r.1++List.replicate (k+1) 0)))[i+b.length]?=some [U (0:Nat)]:=by
   rw [← List.append_assoc,jN (by simp [hP,ml]),List.getD_eq_getElem?_getD,List.getElem?_append_right (by omega)]
   simp [hlen]
  have e8:(aC ((aR a b i).take i++(r.1++List.replicate (k+1) 0))).set (i+b.length) [U (r.2:Nat)]=aC (aR a b (i+1)++List.replicate k 0):=by
   rw [← List.append_assoc,jO]
   have:=oZ ((aR a b i).take i++r.1) (k+1) r.2 0 (by omega)
   rw [hlen] at this
   have e:(aR a b i).take i++r.1++[r.2]=aR a b (i+1):=by rw [List.append_assoc]; exact ps
   rw [this,e]
   rfl
  rw [ao]
  generalize aq _ _ _=L at ih' ⊢
  simp only [jj,go_sem,↓reduceIte,alS,alX,g1,h5,h18,h19,h20,hh,e1,e2]
  rw [lp _ _ rfl rfl rfl rfl rfl rfl rfl rfl rfl rfl rfl rfl]
  simp only [go_sem,↓reduceIte,alS,alV,e3,e4,e5,e6,e7,e8,f1,Int.toNat_natCast,Nat.zero_add]
  exact ih' _ _ rfl rfl rfl rfl rfl rfl
theorem X1 {a b:List Nat} (ha:Lb a) (hb:Lb b) (h1:a.length≤100000) (h2:b.length≤100000):R F.natural_mul [lm a,lm b] []=some (lm (bR (a.length+b.length) (ab a*ab b)),[]):=by
 refine aB GA Gz (Al false) rfl ?_
 have e1:IntKind.i64.wrap ((a.length:Int)+(b.length:Int))=((a.length+b.length:Nat):Int):=wi (by omega) (by omega)
 have e2:=fU (i:=((a.length+b.length:Nat):Int)) (j:=((a.length+b.length:Nat):Int)) rfl rfl (Nat.le_refl _) (by omega)
 have e3:((a.length+b.length)*4≤140737488355328)=True:=tt (by omega)
 have e4:=SZ ha hb h1 h2 a.length 0 (by omega)
 have e0:aR a b 0=List.replicate b.length 0:=by
  have:∀ n,bR n 0=List.replicate n 0:=fun n=>by
   induction n with
   | zero=>rfl
   | succ n ih=>simp [bR,ih,List.replicate_succ]
  simp [aR,ab,this]
 have e5:aC (List.replicate (a.length+b.length) 0)=aC (aR a b 0++List.replicate a.length 0):=by
  rw [e0,List.replicate_append_replicate,Nat.add_comm]
 have e6:aR a b a.length=bR (a.length+b.length) (ab a*ab b):=by rw [aR,List.take_length]
 simp only [lA,vw,go_sem,↓reduceIte,alS,e1,e2,e3,nc,e5]
 rw [e4 _ _ rfl rfl rfl rfl rfl rfl]
 simp only [go_sem,↓reduceIte,alV,alW,e6,be,Nat.zero_add,Nat.le_refl]
theorem X3 {a b:List Nat} (ha:Lb a) (hb:Lb b) (h1:a.length≤256) (h2:b.length≤256):R F.natural_Mul [lm a,lm b] []=some (fq (ab a*ab b),[]):=by
 refine aB Gq Gp (z7 false) rfl ?_
 have e1:(256 < a.length)=False:=ff (by omega)
 have e2:(256 < b.length)=False:=ff (by omega)
 have la:=bS a ha
 have lb:=bS b hb
 have e3:=X1 (aL (ab a)) (aL (ab b)) (by omega) (by omega)
 rw [aD,aD] at e3
 have e4:=tH (gh ((ap (ab a)).length+(ap (ab b)).length) (ab a*ab b)) (by rw [be]; omega)
 rw [eI,Nat.mod_eq_of_lt (by rw [Nat.pow_add]; exact Nat.mul_lt_mul'' (gK _) (gK _))] at e4
 unfold fq at e4 ⊢
 by_cases hl:256 < (ap (ab a*ab b)).length
 ·simp only [hl,if_true] at e4 ⊢
  simp only [iA,qc,go_sem,↓reduceIte,alS,alU,alT,alV,alW,e1,e2,mU,dc ha (by omega),dc hb (by omega),e3,e4]
 ·simp only [hl,if_false] at e4 ⊢
  simp only [iA,qc,go_sem,↓reduceIte,alS,alU,alT,alV,alW,e1,e2,mU,dc ha (by omega),dc hb (by omega),e3,e4]
end Go.Ab
namespace Go.Ab
open Go Go.IntWalk
set_option maxRecDepth 4000
theorem nf {n m:Nat} {i j:Int} (hi:i=n) (hj:j=m) (hm:m ≠ 0):cd .rem (.v (.int .i64 i)) (.v (.int .i64 j))=some (.v (.int .i64 ((n % m:Nat):Int))):=by
 subst hi hj
 rw [LR,if_neg (by omega),Int.tmod_eq_emod_of_nonneg (by omega)]
 rfl
theorem lL {n m:Nat} {i j:Int} (hi:i=n) (hj:j=m) (hm:m ≠ 0) (hn:n < 9223372036854775808):cd .quo (.v (.int .i64 i)) (.v (.int .i64 j))=some (.v (.int .i64 ((n / m:Nat):Int))):=by
 subst hi hj
 rw [UU,if_neg (by omega),Int.tdiv_eq_ediv_of_nonneg (by omega)]
 have:n / m≤n:=Nat.div_le_self _ _
 rw [wi (n:=n / m) (by simp) (by omega)]
theorem xZ {n k:Nat} {i:Int} {kk:IntKind} {j:Int} (hi:i=n) (hj:j=k) (hk:k≤64) (h:n*2 ^ k < 18446744073709551616):cd .shl (.v (.int .u64 i)) (.v (.int kk j))=some (.v (.int .u64 ((n*2 ^ k:Nat):Int))):=by
 subst hi hj
 rw [UV,if_neg (by omega)]
 have:min (k:Int).toNat IntKind.u64.bits=k:=by simp [IntKind.bits]; omega
 rw [this,cf (n:=n*2 ^ k) (by simp) h]
theorem N8 {m n:Nat} {i j:Int} (hi:i=m) (hj:j=n) (hm:m < 18446744073709551616) (hn:n < 18446744073709551616):cd .or (.v (.int .u64 i)) (.v (.int .u64 j))=some (.v (.int .u64 ((m ||| n:Nat):Int))):=by
 subst hi hj
 rw [PG]
 have e:(BitVec.ofInt IntKind.u64.bits (m:Int) ||| BitVec.ofInt IntKind.u64.bits (n:Int)).toNat=m ||| n:=by
  show (BitVec.ofInt 64 (m:Int) ||| BitVec.ofInt 64 (n:Int)).toNat=m ||| n
  rw [BitVec.toNat_or]
  simp
  rw [Nat.mod_eq_of_lt hm,Nat.mod_eq_of_lt hn]
 rw [e]
 rw [cf rfl (Nat.or_lt_two_pow (n:=64) hm hn)]
theorem xg {x c k:Nat} (hc:c < 2 ^ k):x*2 ^ k ||| c=x*2 ^ k+c:=by
 have:=Nat.shiftLeft_add_eq_or_of_lt hc x
 rw [Nat.shiftLeft_eq] at this
 exact this.symm
def bT (a:List Nat) (r:Nat):Nat→Nat
 | 0=>0
 | i+1=>(a.getD i 0*2 ^ r+bT a r i) / 4294967296
def ej (a:List Nat) (r i:Nat):List Nat:=(List.range i).map fun j=>(a.getD j 0*2 ^ r+bT a r j) % 4294967296
theorem pP {a:List Nat} (ha:Lb a) {r:Nat}:∀ i,bT a r i < 2 ^ r
 | 0=>by simp only [bT]; exact Nat.two_pow_pos r
 | i+1=>by
  have ih:=pP ha (r:=r) i
  have:=aZ ha i
  simp only [bT]
  rw [Nat.div_lt_iff_lt_mul (by omega)]
  have h1:a.getD i 0*2 ^ r+2 ^ r≤4294967296*2 ^ r:=by
   rw [← Nat.succ_mul]
   exact Nat.mul_le_mul_right _ (by omega)
  rw [Nat.mul_comm 4294967296] at h1
  omega
theorem gZ (a:List Nat) (r i:Nat):(ej a r i).length=i:=by simp [ej]
theorem X4 (a:List Nat) (r i:Nat):Lb (ej a r i):=fun x hx=>by
 simp only [ej,List.mem_map] at hx
 obtain ⟨j,_,rfl⟩:=hx
 omega
theorem L5 (a:List Nat) (r:Nat):∀ i,ab (ej a r i)+4294967296 ^ i*bT a r i=ab (a.take i)*2 ^ r
 | 0=>by simp [ej,bT,ab]
 | i+1=>by
  have ih:=L5 a r i
  rw [dN a i]
  simp only [ej] at ih ⊢
  rw [rJ,Nat.pow_succ]
  have e:bT a r (i+1)*4294967296+(a.getD i 0*2 ^ r+bT a r i) % 4294967296=a.getD i 0*2 ^ r+bT a r i:=by
   simp only [bT]
   omega
  have h1:4294967296 ^ i*(bT a r (i+1)*4294967296+(a.getD i 0*2 ^ r+bT a r i) % 4294967296)=4294967296 ^ i*(a.getD i 0*2 ^ r+bT a r i):=by rw [e]
  simp only [Nat.mul_add] at h1
  have h2:4294967296 ^ i*4294967296*bT a r (i+1)=4294967296 ^ i*(bT a r (i+1)*4294967296):=by rw [Nat.mul_assoc,Nat.mul_comm 4294967296]
  have h3:(ab (a.take i)+4294967296 ^ i*a.getD i 0)*2 ^ r=ab (a.take i)*2 ^ r+4294967296 ^ i*(a.getD i 0*2 ^ r):=by rw [Nat.add_mul,Nat.mul_assoc]
  omega
theorem S0 {a:List Nat} (ha:Lb a) {n q:Nat} (h1:a.length≤100000) (hq:q≤100000):∀ (k i:Nat),i+k=a.length→∀ (s:aj) (h:ac),s 1=I (n:Nat)→s 5 = .rsl 20 none 1 0 (q+i)→s 6=W (bT a (n % 32) i:Nat)→s 21=lm a→s 22=I (a.length:Nat)→s 23=I i →
  h 20 = .ar 1 (aC (List.replicate q 0++ej a (n % 32) i))→h 38 = .dead →
  au 0 [5,6] (aq (ak R (ae false) jk) [1,5,6,21,22,23] [20,38] s h) =
   some (.normal,⟨upd (upd (fun _ => .any) 6 (W (bT a (n % 32) a.length:Nat))) 5 (.rsl 20 none 1 0 (q+a.length)),upd (upd (fun _ => .dead) 38 .dead) 20 (.ar 1 (aC (List.replicate q 0++ej a (n % 32) a.length)))⟩):=by
 intro k
 induction k with
 | zero =>
  intro i hi s h g1 h5 h6 h21 h22 h23 hh hh2
  have:i=a.length:=by omega
  subst this
  rw [ao]
  simp only [jk,go_sem,↓reduceIte,alS,alX,g1,h5,h6,h21,h22,h23,hh,hh2,Int.lt_irrefl]
 | succ k ih =>
  intro i hi s h g1 h5 h6 h21 h22 h23 hh hh2
  have ih':=ih (i+1) (by omega)
  have hx:=aZ ha i
  have hr:n % 32 < 32:=Nat.mod_lt _ (by omega)
  have hc:=pP ha (r:=n % 32) i
  have hp:2 ^ (n % 32)≤2 ^ 31:=Nat.pow_le_pow_right (by omega) (by omega)
  have hxp:a.getD i 0*2 ^ (n % 32)≤4294967295*2 ^ 31:=Nat.mul_le_mul (by omega) hp
  have e1:((i:Int) < (a.length:Int))=True:=tt (by omega)
  have e2:aN (aC a) (i:Int)=some (.ipt [U (a.getD i 0:Nat)]):=aS rfl (by omega)
  have e3:IntKind.i64.wrap ((i:Int)+1)=((i+1:Nat):Int):=wi (by omega) (by omega)
  have e4:IntKind.u64.wrap (a.getD i 0:Int)=(a.getD i 0:Int):=cf rfl (by omega)
  have e5:=nf (n:=n) (m:=32) (j:=32) rfl rfl (by omega)
  have e6:=xZ (n:=a.getD i 0) (k:=n % 32) (kk := .i64) rfl rfl (by omega) (by omega)
  have e7:=N8 (m:=a.getD i 0*2 ^ (n % 32)) (n:=bT a (n % 32) i) rfl rfl (by omega) (by omega)
  rw [xg hc] at e7
  have e8:IntKind.u32.wrap ((a.getD i 0*2 ^ (n % 32)+bT a (n % 32) i:Nat):Int)=(((a.getD i 0*2 ^ (n % 32)+bT a (n % 32) i) % 4294967296:Nat):Int):=IY rfl
  have e9:=io (n:=a.getD i 0*2 ^ (n % 32)+bT a (n % 32) i) (k:=32) (kk := .u64) (j:=32) rfl rfl (by omega)
  have f1:aC (List.replicate q 0++ej a (n % 32) i)++[[U ((a.getD i 0*2 ^ (n % 32)+bT a (n % 32) i) % 4294967296:Nat)]]=aC (List.replicate q 0++ej a (n % 32) (i+1)):=by
   rw [show [[U ((a.getD i 0*2 ^ (n % 32)+bT a (n % 32) i) % 4294967296:Nat)]]=aC [(a.getD i 0*2 ^ (n % 32)+bT a (n % 32) i) % 4294967296] from rfl,qM,List.append_assoc]
   simp [ej,List.range_succ]
  have f2:(q+i=(List.replicate q 0++ej a (n % 32) i).length)=True:=tt (by simp [gZ])
  have f3:((q+i+1)*4≤140737488355328)=True:=tt (by omega)
  rw [ao]
  generalize aq _ _ _=L at ih' ⊢
  simp only [jk,go_sem,↓reduceIte,alS,alV,alW,alX,g1,h5,h6,h21,h22,h23,hh,hh2,e1,e2,e3,e4,e5,e6,e7,e8,e9,f1,f2,f3,true_or,Nat.zero_add,Nat.le_refl]
  exact ih' _ _ rfl rfl rfl rfl rfl rfl rfl rfl
theorem iR (n:Nat):4294967296 ^ (n / 32)*2 ^ (n % 32)=2 ^ n:=by
 rw [show (4294967296:Nat)=2 ^ 32 from rfl,← Nat.pow_mul,← Nat.pow_add]
 congr 1
 omega
theorem DW {a:List Nat} (ha:Lb a) (n:Nat):List.replicate (n / 32) 0++ej a (n % 32) a.length++[bT a (n % 32) a.length]=bR (n / 32+a.length+1) (ab a*2 ^ n):=by
 have hr:n % 32 < 32:=Nat.mod_lt _ (by omega)
 have hc:=pP ha (r:=n % 32) a.length
 have hp:2 ^ (n % 32)≤2 ^ 31:=Nat.pow_le_pow_right (by omega) (by omega)
 have h:=L5 a (n % 32) a.length
 rw [List.take_length] at h
 have hLb:Lb (List.replicate (n / 32) 0++ej a (n % 32) a.length++[bT a (n % 32) a.length]) :=
  gY.2 ⟨gY.2 ⟨fun y hy=>by rw [List.eq_of_mem_replicate hy]; omega,X4 _ _ _⟩,da.2 ⟨by omega,rH⟩⟩
 have hv:ab (List.replicate (n / 32) 0++ej a (n % 32) a.length++[bT a (n % 32) a.length])=ab a*2 ^ n:=by
  rw [List.append_assoc,db,Fc,db,gZ,List.length_replicate]
  simp only [ab,Nat.mul_zero,Nat.add_zero,Nat.zero_add]
  rw [h,← iR n,Nat.mul_left_comm]
 have:=uE hLb
 rw [hv] at this
 rw [← this]
 congr 1
 simp [gZ]
 omega
theorem Qt {a:List Nat} (ha:Lb a) {n:Nat} (h1:a.length≤100000) (hn:n≤65536):R F.natural_shl [lm a,I n] []=some (lm (bR (n / 32+(ap (ab a)).length+1) (ab a*2 ^ n)),[]):=by
 refine aB GT GS (Ax false) rfl ?_
 have la:=bS a ha
 have hc:=pP (aL (ab a)) (r:=n % 32) (ap (ab a)).length
 have hp:2 ^ (n % 32)≤2 ^ 31:=Nat.pow_le_pow_right (by omega) (by have:n % 32 < 32:=Nat.mod_lt _ (by omega); omega)
 have e1:=lL (n:=n) (m:=32) (j:=32) rfl rfl (by omega) (by omega)
 have e2:IntKind.i64.wrap (((n / 32:Nat):Int)+((ap (ab a)).length:Int))=((n / 32+(ap (ab a)).length:Nat):Int):=wi (by omega) (by omega)
 have e3:IntKind.i64.wrap (((n / 32+(ap (ab a)).length:Nat):Int)+1)=((n / 32+(ap (ab a)).length+1:Nat):Int):=wi (by omega) (by omega)
 have e4:=fU (i:=((n / 32:Nat):Int)) (j:=((n / 32+(ap (ab a)).length+1:Nat):Int)) rfl rfl (by omega) (by omega)
 have e5:((n / 32+(ap (ab a)).length+1)*4≤140737488355328)=True:=tt (by omega)
 have e6:=S0 (aL (ab a)) (n:=n) (q:=n / 32) (by omega) (by omega) (ap (ab a)).length 0 (by omega)
 have e7:aC (List.replicate (n / 32) 0)=aC (List.replicate (n / 32) 0++ej (ap (ab a)) (n % 32) 0):=by simp [ej]
 have e8:IntKind.u32.wrap ((bT (ap (ab a)) (n % 32) (ap (ab a)).length:Nat):Int)=((bT (ap (ab a)) (n % 32) (ap (ab a)).length:Nat):Int):=oo rfl (by omega)
 have f1:aC (List.replicate (n / 32) 0++ej (ap (ab a)) (n % 32) (ap (ab a)).length)++[[U (bT (ap (ab a)) (n % 32) (ap (ab a)).length:Nat)]]=aC (bR (n / 32+(ap (ab a)).length+1) (ab a*2 ^ n)):=by
  have:=DW (aL (ab a)) n
  rw [aD] at this
  rw [← this,show [[U (bT (ap (ab a)) (n % 32) (ap (ab a)).length:Nat)]]=aC [bT (ap (ab a)) (n % 32) (ap (ab a)).length] from rfl,qM]
 have f2:(n / 32+(ap (ab a)).length=(List.replicate (n / 32) 0++ej (ap (ab a)) (n % 32) (ap (ab a)).length).length)=True:=tt (by simp [gZ])
 simp only [lE,vF,go_sem,↓reduceIte,alS,alU,alT,dc ha (by omega),e1,e2,e3,e4,e5,nc,e7]
 rw [e6 _ _ rfl rfl rfl rfl rfl rfl rfl rfl]
 simp only [go_sem,↓reduceIte,alS,alV,alW,e8,f1,f2,e5,true_or,Nat.zero_add,Nat.le_refl,be]
theorem Qu {a:List Nat} (ha:Lb a) {n:Int} (h1:a.length≤256):R F.natural_Shl [lm a,I n] []=some (if n < 0∨65536 < n then .tup [lm [],I 2] else fq (ab a*2 ^ n.toNat),[]):=by
 refine aB GK GJ (Ar false) rfl ?_
 have e1:(256 < a.length)=False:=ff (by omega)
 by_cases hn:n < 0
 ·simp only [eF,jB,go_sem,↓reduceIte,alS,alU,alT,alV,alW,e1,jo,hn,true_or]
 by_cases hn2:65536 < n
 ·simp only [eF,jB,go_sem,↓reduceIte,alS,alU,alT,alV,alW,e1,jo,hn,hn2,or_true]
 obtain ⟨m,rfl⟩:=Int.eq_ofNat_of_zero_le (show 0≤n by omega)
 have la:=bS a ha
 have e3:ab (bR (m / 32+(ap (ab a)).length+1) (ab a*2 ^ m))=ab a*2 ^ m:=by
  rw [eI,Nat.mod_eq_of_lt]
  have h:=gK (ab a)
  have h2:2 ^ m≤4294967296 ^ (m / 32+1):=by
   rw [show (4294967296:Nat)=2 ^ 32 from rfl,← Nat.pow_mul]
   exact Nat.pow_le_pow_right (by omega) (by omega)
  rw [show m / 32+(ap (ab a)).length+1=(ap (ab a)).length+(m / 32+1) from by omega,Nat.pow_add]
  exact Nat.mul_lt_mul_of_lt_of_le h h2 (Nat.pow_pos (by omega))
 have e4:=tH (gh (m / 32+(ap (ab a)).length+1) (ab a*2 ^ m)) (by rw [be]; omega)
 rw [e3] at e4
 unfold fq at e4 ⊢
 by_cases hl:256 < (ap (ab a*2 ^ m)).length
 ·simp only [hl,if_true] at e4
  simp only [eF,jB,go_sem,↓reduceIte,alS,alU,alT,alV,alW,e1,jo,hn,hn2,Qt ha (n:=m) (by omega) (by omega),e4,or_false,Int.toNat_natCast,hl]
 ·simp only [hl,if_false] at e4
  simp only [eF,jB,go_sem,↓reduceIte,alS,alU,alT,alV,alW,e1,jo,hn,hn2,Qt ha (n:=m) (by omega) (by omega),e4,or_false,Int.toNat_natCast,hl]
theorem mV {l:List Nat} (h:Lb l) (i:Nat):ab (l.drop i)=ab l / 4294967296 ^ i:=by
 rcases Nat.lt_or_ge l.length i with hi | hi
 ·rw [List.drop_of_length_le (by omega)]
  have:=bD h
  have h2:4294967296 ^ l.length≤4294967296 ^ i:=Nat.pow_le_pow_right (by omega) (by omega)
  rw [Nat.div_eq_of_lt (by omega)]
  rfl
 ·have h1:ab l=ab (l.take i)+4294967296 ^ i*ab (l.drop i):=by
   conv=>lhs; rw [← List.take_append_drop i l]
   rw [db,List.length_take,Nat.min_eq_left hi]
  have h2:=bD (iJ h i)
  rw [List.length_take,Nat.min_eq_left hi] at h2
  rw [h1,Nat.add_mul_div_left _ _ (Nat.pow_pos (by omega)),Nat.div_eq_of_lt h2]
  omega
theorem dF (l:List Nat) (i:Nat):ab (l.drop i)=l.getD i 0+4294967296*ab (l.drop (i+1)):=by
 rcases Nat.lt_or_ge i l.length with hi | hi
 ·rw [List.drop_eq_getElem_cons hi,ab]
  simp [List.getD_eq_getElem?_getD,hi]
 ·rw [List.drop_of_length_le hi,List.drop_of_length_le (by omega)]
  simp [List.getD_eq_getElem?_getD,List.getElem?_eq_none hi,ab]
def hH (a:List Nat) (r i:Nat):Nat:=(a.getD i 0+4294967296*a.getD (i+1) 0) / 2 ^ r % 4294967296
theorem VL {a:List Nat} (ha:Lb a) {r:Nat} (hr:r≤32) (i:Nat):hH a r i=L4 (ab a / 2 ^ r) i:=by
 unfold hH L4
 have e0:ab a / 2 ^ r / 4294967296 ^ i=ab (a.drop i) / 2 ^ r:=by rw [Nat.div_div_eq_div_mul,Nat.mul_comm,← Nat.div_div_eq_div_mul,← mV ha]
 rw [e0,dF a i,dF a (i+1)]
 generalize ab (a.drop (i+1+1))=w
 have e:(4294967296:Nat)=2 ^ r*2 ^ (32 - r):=by rw [← Nat.pow_add,show r+(32 - r)=32 from by omega]
 have h1:a.getD i 0+4294967296*(a.getD (i+1) 0+4294967296*w)=(a.getD i 0+4294967296*a.getD (i+1) 0)+2 ^ r*(2 ^ (32 - r)*4294967296*w):=by
  have:2 ^ r*(2 ^ (32 - r)*4294967296*w)=4294967296*4294967296*w:=by
   rw [← Nat.mul_assoc,← Nat.mul_assoc,← e]
  rw [this,Nat.mul_add]
  omega
 rw [h1,Nat.add_mul_div_left _ _ (Nat.two_pow_pos r),Nat.mul_assoc,Nat.mul_left_comm,Nat.add_mul_mod_self_left]
def de (a:List Nat) (r i:Nat):List Nat:=(List.range i).map (hH a r)
theorem fV (a:List Nat) (r i:Nat):(de a r i).length=i:=by simp [de]
theorem AD {a:List Nat} (ha:Lb a) {r:Nat} (hr:r≤32):de a r a.length=bR a.length (ab a / 2 ^ r):=by
 refine I0 (fV _ _ _) fun i hi => ?_
 rw [← VL ha hr]
 simp [de,hi]
theorem S1 {a:List Nat} (ha:Lb a) {n:Nat} (h1:a.length≤100000):∀ (k i:Nat),i+k=a.length→∀ (s:aj) (h:ac),s 0=lm a→s 1=I (n:Nat)→s 5 = .rsl 22 none 1 0 a.length→s 23=lm a→s 24=I (a.length:Nat)→s 25=I i →
  h 22 = .ar 1 (aC (de a (n % 32) i++List.replicate k 0)) →
  au 0 [5] (aq (ak R (ae false) gu) [0,1,5,23,24,25] [22] s h) =
   some (.normal,⟨upd (fun _ => .any) 5 (.rsl 22 none 1 0 a.length),upd (fun _ => .dead) 22 (.ar 1 (aC (de a (n % 32) a.length)))⟩):=by
 intro k
 induction k with
 | zero =>
  intro i hi s h h0 g1 h5 h23 h24 h25 hh
  have:i=a.length:=by omega
  subst this
  rw [ao]
  simp only [List.replicate_zero,List.append_nil] at hh
  simp only [gu,go_sem,↓reduceIte,alS,alX,h0,g1,h5,h23,h24,h25,hh,Int.lt_irrefl]
 | succ k ih =>
  intro i hi s h h0 g1 h5 h23 h24 h25 hh
  have ih':=ih (i+1) (by omega)
  have hx:=aZ ha i
  have hy:=aZ ha (i+1)
  have hr:n % 32 < 32:=Nat.mod_lt _ (by omega)
  have e1:((i:Int) < (a.length:Int))=True:=tt (by omega)
  have e2:aN (aC a) (i:Int)=some (.ipt [U (a.getD i 0:Nat)]):=aS rfl (by omega)
  have e3:IntKind.i64.wrap ((i:Int)+1)=((i+1:Nat):Int):=wi (by omega) (by omega)
  have e4:IntKind.u64.wrap (a.getD i 0:Int)=(a.getD i 0:Int):=cf rfl (by omega)
  have e5:=nf (n:=n) (m:=32) (j:=32) rfl rfl (by omega)
  have e6:(0≤(i:Int))=True:=tt (by omega)
  have e7:(aC (de a (n % 32) i++List.replicate (k+1) 0))[i]?=some [U (0:Nat)]:=by
   rw [jN (by simp [fV])]
   simp [List.getD_eq_getElem?_getD,fV]
  have e8:(aC (de a (n % 32) i++List.replicate (k+1) 0)).set i [U (hH a (n % 32) i:Nat)]=aC (de a (n % 32) (i+1)++List.replicate k 0):=by
   rw [jO]
   have:=oZ (de a (n % 32) i) (k+1) (hH a (n % 32) i) 0 (by omega)
   rw [fV] at this
   rw [this]
   simp [de,List.range_succ]
  rw [ao]
  generalize aq _ _ _=L at ih' ⊢
  by_cases hl:i+1 < a.length
  ·have f1:(((i+1:Nat):Int) < (a.length:Int))=True:=tt (by omega)
   have f2:aN (aC a) ((i+1:Nat):Int)=some (.ipt [U (a.getD (i+1) 0:Nat)]):=aS rfl hl
   have f3:IntKind.u64.wrap (a.getD (i+1) 0:Int)=(a.getD (i+1) 0:Int):=cf rfl (by omega)
   have f4:=xZ (n:=a.getD (i+1) 0) (k:=32) (kk := .u64) (j:=32) rfl rfl (by omega) (by omega)
   have f5:=N8 (m:=a.getD i 0) (n:=a.getD (i+1) 0*2 ^ 32) rfl rfl (by omega) (by omega)
   rw [Nat.or_comm,xg (show a.getD i 0 < 2 ^ 32 from by omega)] at f5
   have f6:=io (n:=a.getD (i+1) 0*2 ^ 32+a.getD i 0) (k:=n % 32) (kk := .i64) rfl rfl (by omega)
   have f7:IntKind.u32.wrap (((a.getD (i+1) 0*2 ^ 32+a.getD i 0) / 2 ^ (n % 32):Nat):Int)=((hH a (n % 32) i:Nat):Int):=by
    rw [IY rfl]
    unfold hH
    rw [show a.getD (i+1) 0*2 ^ 32+a.getD i 0=a.getD i 0+4294967296*a.getD (i+1) 0 from by omega]
   simp only [gu,go_sem,↓reduceIte,alS,alV,alX,h0,g1,h5,h23,h24,h25,hh,e1,e2,e3,e4,e5,e6,e7,e8,f1,f2,f3,f4,f5,f6,f7,Int.toNat_natCast,Nat.zero_add]
   exact ih' _ _ rfl rfl rfl rfl rfl rfl rfl
  ·have f1:(((i+1:Nat):Int) < (a.length:Int))=False:=ff (by omega)
   have f2:a.getD (i+1) 0=0:=by simp [List.getD_eq_getElem?_getD,List.getElem?_eq_none (show a.length≤i+1 from by omega)]
   have f6:=io (n:=a.getD i 0) (k:=n % 32) (kk := .i64) rfl rfl (by omega)
   have f7:IntKind.u32.wrap ((a.getD i 0 / 2 ^ (n % 32):Nat):Int)=((hH a (n % 32) i:Nat):Int):=by
    rw [IY rfl]
    unfold hH
    rw [f2]
    rfl
   simp only [gu,go_sem,↓reduceIte,alS,alV,alX,h0,g1,h5,h23,h24,h25,hh,e1,e2,e3,e4,e5,e6,e7,e8,f1,f6,f7,Int.toNat_natCast,Nat.zero_add]
   exact ih' _ _ rfl rfl rfl rfl rfl rfl rfl
theorem X5 {a:List Nat} (ha:Lb a) {n:Nat} (h1:a.length≤100000) (hn:n≤100000000):R F.natural_shr [lm a,I n] []=some (lm (bR ((ap (ab a)).length - n / 32) (ab a / 2 ^ n)),[]):=by
 refine aB GQ GP (Aw false) rfl ?_
 have la:=bS a ha
 have e1:=lL (n:=n) (m:=32) (j:=32) rfl rfl (by omega) (by omega)
 by_cases hl:(ap (ab a)).length≤n / 32
 ·have e2:(((ap (ab a)).length:Int)≤((n / 32:Nat):Int))=True:=tt (by omega)
  have e3:bR ((ap (ab a)).length - n / 32) (ab a / 2 ^ n)=[]:=by rw [show (ap (ab a)).length - n / 32=0 from by omega]; rfl
  simp only [iH,qg,go_sem,↓reduceIte,alS,alU,alT,dc ha (by omega),e1,e2,e3]
 ·have e2:(((ap (ab a)).length:Int)≤((n / 32:Nat):Int))=False:=ff (by omega)
  have hD:((ap (ab a)).drop (n / 32)).length=(ap (ab a)).length - n / 32:=by simp
  have hLD:Lb ((ap (ab a)).drop (n / 32)):=lH (aL _) _
  have e3:kn 1 (lm (ap (ab a))) (some (I (n / 32:Nat))) none none=some (lm ((ap (ab a)).drop (n / 32))):=by
   rw [tF (a:=n / 32) (b:=(ap (ab a)).length) (mT rfl (by omega)) rfl (Nat.le_refl _),List.take_of_length_le (by omega)]
  have hv:ab ((ap (ab a)).drop (n / 32)) / 2 ^ (n % 32)=ab a / 2 ^ n:=by
   rw [mV (aL _),aD,Nat.div_div_eq_div_mul,iR]
  have e6:=AD hLD (r:=n % 32) (by omega)
  rw [hv,hD] at e6
  generalize (ap (ab a)).drop (n / 32)=D at *
  have e4:=fU (i:=(D.length:Int)) (j:=(D.length:Int)) rfl rfl (Nat.le_refl _) (by omega)
  have e5:(D.length*4≤140737488355328)=True:=tt (by omega)
  have e7:=S1 hLD (n:=n) (by omega) D.length 0 (by omega)
  have e8:aC (List.replicate D.length 0)=aC (de D (n % 32) 0++List.replicate D.length 0):=by simp [de]
  rw [← hD] at e6 ⊢
  simp only [iH,qg,go_sem,↓reduceIte,alS,alU,alT,dc ha (by omega),e1,e2,e3,e4,e5,nc,e8]
  rw [e7 _ _ rfl rfl rfl rfl rfl rfl rfl]
  simp only [go_sem,↓reduceIte,alV,alW,e6,be,Nat.zero_add,Nat.le_refl]
theorem Qv {a:List Nat} (ha:Lb a) {n:Int} (h1:a.length≤256):R F.natural_Shr [lm a,I n] []=some (if n < 0∨65536 < n then .tup [lm [],I 2] else .tup [lm (ap (ab a / 2 ^ n.toNat)),I 0],[]):=by
 refine aB GC GB (Ao false) rfl ?_
 have e1:(256 < a.length)=False:=ff (by omega)
 by_cases hn:n < 0
 ·simp only [gb,mB,go_sem,↓reduceIte,alS,alU,alT,alV,alW,e1,jo,hn,true_or]
 by_cases hn2:65536 < n
 ·simp only [gb,mB,go_sem,↓reduceIte,alS,alU,alT,alV,alW,e1,jo,hn,hn2,or_true]
 obtain ⟨m,rfl⟩:=Int.eq_ofNat_of_zero_le (show 0≤n by omega)
 have la:=bS a ha
 have hlt:=gK (ab a)
 have h32:ab a / 2 ^ m < 4294967296 ^ ((ap (ab a)).length - m / 32):=by
  rw [Nat.div_lt_iff_lt_mul (Nat.two_pow_pos m),← iR m]
  refine Nat.lt_of_lt_of_le hlt ?_
  rw [← Nat.mul_assoc,← Nat.pow_add]
  refine Nat.le_trans (Nat.pow_le_pow_right (by omega) (show (ap (ab a)).length≤(ap (ab a)).length - m / 32+m / 32 by omega)) (Nat.le_mul_of_pos_right _ (Nat.two_pow_pos _))
 have e3:ab (bR ((ap (ab a)).length - m / 32) (ab a / 2 ^ m))=ab a / 2 ^ m:=by
  rw [eI,Nat.mod_eq_of_lt h32]
 have e4:=tH (gh ((ap (ab a)).length - m / 32) (ab a / 2 ^ m)) (by rw [be]; omega)
 rw [e3] at e4
 have hl : ¬ 256 < (ap (ab a / 2 ^ m)).length:=by
  have:=fy h32
  omega
 unfold fq at e4
 simp only [hl,if_false] at e4
 simp only [gb,mB,go_sem,↓reduceIte,alS,alU,alT,alV,alW,e1,jo,hn,hn2,X5 ha (n:=m) (by omega) (by omega),e4,or_false,Int.toNat_natCast]
end Go.Ab
namespace Go.Ab
open Go Go.IntWalk
set_option maxRecDepth 4000
def af (n:Nat):Nat:=if n=0 then 0 else n.log2+1
theorem bh {n k:Nat}:af n≤k↔n < 2 ^ k:=by
 unfold af
 split
 ·rename_i h
  subst h
  exact ⟨fun _=>Nat.two_pow_pos k,fun _=>Nat.zero_le _⟩
 ·rename_i h
  rw [Nat.succ_le_iff]
  exact Nat.log2_lt h
theorem AE {q k:Nat} (h:af q≤k):af (q+1)≤k+1:=by
 rw [bh] at h ⊢
 rw [Nat.pow_succ]
 omega
theorem S2 {n k:Nat} (h:n≤k):af (2 ^ n - 1)≤k:=bh.2 (by
 have h1:=Nat.two_pow_pos n
 have h2:=Nat.pow_le_pow_right (n:=2) (by decide) h
 omega)
theorem S3 (k:Nat):af 1≤k+1:=bh.2 (Nat.one_lt_two_pow (by omega))
theorem Qw {x y k:Nat} (h:x≤y) (h2:af y≤k):af x≤k:=bh.2 (Nat.lt_of_le_of_lt h (bh.1 h2))
theorem iK {n k:Nat}:k < af n↔2 ^ k≤n:=by
 have := @bh n k
 omega
theorem kH:af 0=0:=rfl
theorem cS {n:Nat} (h:n ≠ 0):0 < af n:=by
 rw [iK]
 omega
theorem di (n k:Nat):af (n / 2 ^ k)=af n - k:=by
 have h:∀ j,af (n / 2 ^ k)≤j↔af n - k≤j:=fun j=>by
  rw [bh,Nat.div_lt_iff_lt_mul (Nat.two_pow_pos k),← Nat.pow_add,← bh]
  omega
 have h1:=(h _).1 (Nat.le_refl _)
 have h2:=(h _).2 (Nat.le_refl _)
 omega
theorem cT {n:Nat} (k:Nat) (hn:n ≠ 0):af (n*2 ^ k)=af n+k:=by
 have h:=di (n*2 ^ k) k
 rw [Nat.mul_div_cancel _ (Nat.two_pow_pos k)] at h
 have h2:k < af (n*2 ^ k):=by
  rw [iK]
  exact Nat.le_mul_of_pos_left _ (by omega)
 omega
def G7:ByteArray:=⟨#[0,1,2,2,3,3,3,3,4,4,4,4,4,4,4,4,5,5,5,5,5,5,5,5,5,5,5,5,5,5,5,5,6,6,6,6,6,6,6,6,6,6,6,6,6,6,6,6,6,6,6,6,6,6,6,6,6,6,6,6,6,6,6,6,7,7,7,7,7,7,7,7,7,7,7,7,7,7,7,7,7,7,7,7,7,7,7,7,7,7,7,7,7,7,7,7,7,7,7,7,7,7,7,7,7,7,7,7,7,7,7,7,7,7,7,7,7,7,7,7,7,7,7,7,7,7,7,7,8,8,8,8,8,8,8,8,8,8,8,8,8,8,8,8,8,8,8,8,8,8,8,8,8,8,8,8,8,8,8,8,8,8,8,8,8,8,8,8,8,8,8,8,8,8,8,8,8,8,8,8,8,8,8,8,8,8,8,8,8,8,8,8,8,8,8,8,8,8,8,8,8,8,8,8,8,8,8,8,8,8,8,8,8,8,8,8,8,8,8,8,8,8,8,8,8,8,8,8,8,8,8,8,8,8,8,8,8,8,8,8,8,8,8,8,8,8,8,8,8,8,8,8,8,8,8,8]⟩
theorem S4:((List.range 256).all fun x=>(G7[x]?).map (·.toNat) == some (af x))=true:=by decide +kernel
theorem N9 {x:Nat} (h:x < 256):xM (.v (.string G7)) (.v (.int .u8 x))=some (.v (.int .u8 (af x:Nat))):=by
 have:=List.all_eq_true.1 S4 x (List.mem_range.2 h)
 simp only [beq_iff_eq] at this
 simp only [xM]
 rw [if_pos (by omega),Int.toNat_natCast]
 cases hq:G7[x]? with
 | none=>rw [hq] at this; cases this
 | some y =>
  rw [hq] at this
  simp only [Option.map_some,Option.some.injEq] at this ⊢
  rw [this]
theorem uL:wM = .seq (.ops [0,2] [co 2 (.mv (.c (.v (.int .i64 0))))]) (.seq (.seq (.ops [0,2,4] [cm 3 0,co 4 (.bin .geq (.t 3) (.c (.v (.int .u32 65536))))]) (.cond (.t 4) (.seq (.ops [0] [cm 5 0,co 6 (.bin .shr (.t 5) (.c (.v (.int .u64 16)))),cm 0 6]) (.ops [0,2] [co 2 (.mv (.c (.v (.int .i64 16))))])) (.skip))) (.seq (.seq (.ops [0,2,8] [cm 7 0,co 8 (.bin .geq (.t 7) (.c (.v (.int .u32 256))))]) (.cond (.t 8) (.seq (.ops [0,2] [cm 9 0,co 10 (.bin .shr (.t 9) (.c (.v (.int .u64 8)))),cm 0 10]) (.ops [0,2] [cm 11 2,co 12 (.bin .add (.t 11) (.c (.v (.int .i64 8)))),cm 2 12])) (.skip))) (.seq (.ops [2] [cm 13 2,cm 14 0,co 15 (.cv .u8 (.t 14)),co 16 (.idxS (.c (.v (.string G7))) (.t 15)),co 17 (.cv .i64 (.t 16)),co 18 (.bin .add (.t 13) (.t 17)),cm 2 18]) (.ret)))):=rfl
theorem w8 {i:Int} {n:Nat} (h:i=n) (hn:n < 256):IntKind.u8.wrap i=n:=by rw [IntKind.wrap_u8]; omega
theorem uM {n k:Nat} {i:Int} {kk:IntKind} {j:Int} (hi:i=n) (hj:j=k) (hk:k≤32):cd .shr (.v (.int .u32 i)) (.v (.int kk j))=some (.v (.int .u32 ((n / 2 ^ k:Nat):Int))):=by
 subst hi hj
 rw [CZ,if_neg (by omega)]
 have:min (k:Int).toNat IntKind.u32.bits=k:=by simp [IntKind.bits]; omega
 rw [this]
 simp only [Option.some.injEq,AV.v.injEq,Value.int.injEq,true_and]
 rw [Int.fdiv_eq_ediv_of_nonneg _ (Int.pow_nonneg (by omega))]
 simp
theorem pQ {x:Nat} (k:Nat) (h:2 ^ k≤x):af x=k+af (x / 2 ^ k):=by
 have:=di x k
 have:=iK.2 h
 omega
theorem S5 {x:Nat} (hx:x < 4294967296):R F.bits_Len32 [U x] []=some (I (af x:Nat),[]):=by
 refine aB IQ IP (B9 false) rfl ?_
 have fin:∀ {y:Nat},y < 256→∀ {n:Nat},n≤24→IntKind.u8.wrap (y:Int)=y∧IntKind.i64.wrap (af y:Int)=(af y:Int)∧IntKind.i64.wrap ((n:Int)+(af y:Int))=((n+af y:Nat):Int):=fun {y} hy {n} hn=>by
  have:af y≤8:=bh.2 hy
  exact ⟨w8 rfl hy,wi rfl (by omega),wi (by omega) (by omega)⟩
 have s16:=uM (n:=x) (k:=16) (kk := .u64) (j:=16) rfl rfl (by omega)
 by_cases h1:65536≤x
 ·have e1:((65536:Int)≤(x:Int))=True:=tt (by omega)
  have b1:=pQ 16 h1
  have s8:=uM (n:=x / 2 ^ 16) (k:=8) (kk := .u64) (j:=8) rfl rfl (by omega)
  by_cases h2:256≤x / 2 ^ 16
  ·have e2:((256:Int)≤((x / 2 ^ 16:Nat):Int))=True:=tt (by omega)
   have b2:=pQ 8 h2
   have hy:x / 2 ^ 16 / 2 ^ 8 < 256:=by omega
   obtain ⟨f1,f2,f3⟩:=fin hy (n:=24) (by omega)
   have g:IntKind.i64.wrap (24:Int)=24:=by rw [i64_in] <;> omega
   have f3':IntKind.i64.wrap ((24:Int)+(af (x / 2 ^ 16 / 2 ^ 8):Int))=((af x:Nat):Int):=by rw [b1,b2]; rw [wi (n:=24+af (x / 2 ^ 16 / 2 ^ 8)) (by omega) (by have:=(bh (k:=8)).2 hy; omega)]; omega
   simp only [fx,uL,go_sem,↓reduceIte,alS,e1,s16,e2,s8,g,f1,N9 hy,f2,f3',Int.reduceAdd]
  ·have e2:((256:Int)≤((x / 2 ^ 16:Nat):Int))=False:=ff (by omega)
   have hy:x / 2 ^ 16 < 256:=by omega
   obtain ⟨f1,f2,f3⟩:=fin hy (n:=16) (by omega)
   have f3':IntKind.i64.wrap ((16:Int)+(af (x / 2 ^ 16):Int))=((af x:Nat):Int):=by rw [b1]; rw [wi (n:=16+af (x / 2 ^ 16)) (by omega) (by have:=(bh (k:=8)).2 hy; omega)]
   simp only [fx,uL,go_sem,↓reduceIte,alS,alY,alZ,e1,s16,e2,f1,N9 hy,f2,f3']
 ·have e1:((65536:Int)≤(x:Int))=False:=ff (by omega)
  have s8:=uM (n:=x) (k:=8) (kk := .u64) (j:=8) rfl rfl (by omega)
  by_cases h2:256≤x
  ·have e2:((256:Int)≤(x:Int))=True:=tt (by omega)
   have b2:=pQ 8 h2
   have hy:x / 2 ^ 8 < 256:=by omega
   obtain ⟨f1,f2,f3⟩:=fin hy (n:=8) (by omega)
   have g:IntKind.i64.wrap (8:Int)=8:=by rw [i64_in] <;> omega
   have f3':IntKind.i64.wrap ((8:Int)+(af (x / 2 ^ 8):Int))=((af x:Nat):Int):=by rw [b2]; rw [wi (n:=8+af (x / 2 ^ 8)) (by omega) (by have:=(bh (k:=8)).2 hy; omega)]
   simp only [fx,uL,go_sem,↓reduceIte,alS,alY,alZ,e1,e2,s8,g,f1,N9 hy,f2,f3',Int.reduceAdd]
  ·have e2:((256:Int)≤(x:Int))=False:=ff (by omega)
   have hy:x < 256:=by omega
   obtain ⟨f1,f2,f3⟩:=fin hy (n:=0) (by omega)
   have f3':IntKind.i64.wrap ((0:Int)+(af x:Int))=((af x:Nat):Int):=by rw [wi (n:=af x) (by omega) (by have:=(bh (k:=8)).2 hy; omega)]
   simp only [fx,uL,go_sem,↓reduceIte,alS,alY,alZ,e1,e2,f1,N9 hy,f2,f3']
theorem I7 {n:Nat} (h:n ≠ 0):af n=32*((ap n).length - 1)+af ((ap n).getD ((ap n).length - 1) 0):=by
 induction n using Nat.strongRecOn with
 | ind n ih =>
  rw [lG h,List.length_cons,Nat.add_sub_cancel]
  by_cases h0:n / 4294967296=0
  ·rw [h0,cO]
   simp
   congr 1
   omega
  ·have h1:=ih _ (by omega) h0
   have h2:(ap (n / 4294967296)).length ≠ 0:=by
    intro e
    exact h0 (gg.1 (List.length_eq_zero_iff.1 e))
   obtain ⟨k,hk⟩:∃ k,(ap (n / 4294967296)).length=k+1:=⟨_,(Nat.succ_pred_eq_of_pos (by omega)).symm⟩
   rw [hk] at h1 ⊢
   rw [oT]
   simp only [Nat.add_sub_cancel] at h1
   have h3:=pQ (x:=n) 32 (by omega)
   rw [show (2:Nat) ^ 32=4294967296 from rfl,h1] at h3
   omega
theorem x3 {m:List Nat} (hb:Lb m) (h1:m.length≤100000):R F.natural_Bits [lm m] []=some (I (af (ab m):Nat),[]):=by
 refine aB DE DD (yv false) rfl ?_
 have la:=bS m hb
 by_cases h:ab m=0
 ·have e1:((0:Nat):Int)=0:=rfl
  simp only [gW,oQ,go_sem,↓reduceIte,alS,alU,alT,dc hb (by omega),h,cO,e1,kH]
 ·have hne:(ap (ab m)).length ≠ 0:=fun e=>h (gg.1 (List.length_eq_zero_iff.1 e))
  have e1:(((ap (ab m)).length:Int)=0)=False:=ff (by omega)
  have e2:IntKind.i64.wrap (((ap (ab m)).length:Int) - 1)=(((ap (ab m)).length - 1:Nat):Int):=wi (by omega) (by omega)
  have e3:IntKind.i64.wrap (32*(((ap (ab m)).length - 1:Nat):Int))=((32*((ap (ab m)).length - 1):Nat):Int):=wi (by omega) (by omega)
  have e4:aN (aC (ap (ab m))) (((ap (ab m)).length - 1:Nat):Int)=some (.ipt [U ((ap (ab m)).getD ((ap (ab m)).length - 1) 0:Nat)]):=aS rfl (by omega)
  have e5:=S5 (aZ (aL (ab m)) ((ap (ab m)).length - 1))
  have e6:af ((ap (ab m)).getD ((ap (ab m)).length - 1) 0)≤32:=bh.2 (aZ (aL (ab m)) _)
  have e7:IntKind.i64.wrap (((32*((ap (ab m)).length - 1):Nat):Int)+(af ((ap (ab m)).getD ((ap (ab m)).length - 1) 0):Int))=((af (ab m):Nat):Int):=by
   rw [I7 h]
   exact wi (by omega) (by omega)
  simp only [gW,oQ,go_sem,↓reduceIte,alS,alU,alT,dc hb (by omega),e1,e2,e3,e4,e5,e7]
end Go.Ab
namespace Go.Ab
open Go Go.IntWalk
set_option maxRecDepth 4000
structure Rd where
 neg:Bool
 m:List Nat
 e:Int
def am (d:Rd):List AV:=[B d.neg,lm d.m,I d.e]
def ai (d:Rd):AV := .agg (am d)
def aH:Rd:=⟨false,[],0⟩
def iS (n:Nat) (e:Int):Bool:=decide (n=0) || (decide (n≤4096) && (decide (-16384≤e) && (decide (e≤16384) && decide ((n:Int)+e≤16384))))
def vd (d:Rd):Bool:=if d.m.length=0 then !d.neg && decide (d.e=0) else decide (d.m.length≤256) && (decide (d.m.getD 0 0 % 2=1) && (decide (d.m.getD (d.m.length - 1) 0 ≠ 0) && iS (af (ab d.m)) d.e))
theorem ng {m:List Nat} (hb:Lb m) (h1:m.length≤100000):R F.dyadic_size [lm m] []=some (I (af (ab m):Nat),[]):=by
 refine aB Gn Gm (z6 false) rfl ?_
 simp only [lw,vo,go_sem,↓reduceIte,alS,alU,alT,x3 hb h1]
theorem Ce {d:Rd} (hb:Lb d.m) (h1:d.m.length≤100000):R F.dyadic_inRange [ai d] []=some (B (iS (af (ab d.m)) d.e),[]):=by
 refine aB zU zT (vP false) rfl ?_
 unfold iS
 have hn:af (ab d.m)=0↔((af (ab d.m):Nat):Int)=0:=by omega
 by_cases a1:af (ab d.m)=0
 ·have e9:=ng hb h1
  rw [a1,Int.natCast_zero] at e9
  simp only [cz,eC,ai,am,go_sem,↓reduceIte,alS,alU,alT,alV,e9,a1]
 have e1:(((af (ab d.m):Nat):Int)=0)=False:=ff (by omega)
 by_cases a2 : ¬ (af (ab d.m)≤4096)
 ·have e2:(((af (ab d.m):Nat):Int)≤4096)=False:=ff (by omega)
  simp only [cz,eC,ai,am,go_sem,↓reduceIte,alS,alU,alT,ng hb h1,e1,a1,e2,a2]
 replace a2:=Decidable.not_not.1 a2
 have e2:(((af (ab d.m):Nat):Int)≤4096)=True:=tt (by omega)
 by_cases a3 : ¬ (-16384≤d.e)
 ·simp only [cz,eC,ai,am,go_sem,↓reduceIte,alS,alU,alT,ng hb h1,e1,a1,e2,a2,a3]
 replace a3:=Decidable.not_not.1 a3
 by_cases a4 : ¬ (d.e≤16384)
 ·simp only [cz,eC,ai,am,go_sem,↓reduceIte,alS,alU,alT,ng hb h1,e1,a1,e2,a2,a3,a4]
 replace a4:=Decidable.not_not.1 a4
 have e3:IntKind.i64.wrap (((af (ab d.m):Nat):Int)+d.e)=((af (ab d.m):Nat):Int)+d.e:=by rw [i64_in]; omega
 simp only [cz,eC,ai,am,go_sem,↓reduceIte,alS,alU,alT,ng hb h1,e1,a1,e2,a2,a3,a4,e3]
structure Ok0 (d:Rd):Prop where
 lb:Lb d.m
 len:d.m.length < 4611686018427387904
theorem gx {d:Rd} (ok:Ok0 d):R F.dyadic_Valid [ai d] []=some (B (vd d),[]):=by
 refine aB Dr Dq (yr false) rfl ?_
 unfold vd
 have hl:=ok.len
 by_cases a0:d.m.length=0
 ·rw [if_pos a0]
  have e1:((d.m.length:Int)=0)=True:=tt (by omega)
  cases hn:d.neg with
  | true=>simp only [cH,ey,ai,am,hn,go_sem,↓reduceIte,alS,alU,alT,e1]
  | false=>simp only [cH,ey,ai,am,hn,go_sem,↓reduceIte,alS,alU,alT,e1]
 rw [if_neg a0]
 have e1:((d.m.length:Int)=0)=False:=ff (by omega)
 by_cases a1 : ¬ d.m.length≤256
 ·have e2:((d.m.length:Int)≤256)=False:=ff (by omega)
  rw [decide_eq_false a1,Bool.false_and]
  simp only [cH,ey,ai,am,go_sem,↓reduceIte,alS,alU,alT,alV,e1,e2]
 replace a1:=Decidable.not_not.1 a1
 have e2:((d.m.length:Int)≤256)=True:=tt (by omega)
 have e3:aN (aC d.m) 0=some (.ipt [U (d.m.getD 0 0:Nat)]):=aS rfl (by omega)
 have e4:cd .rem (.v (.int .u32 (d.m.getD 0 0:Nat))) (.v (.int .u32 2))=some (.v (.int .u32 ((d.m.getD 0 0 % 2:Nat):Int))):=by
  rw [LR,if_neg (by decide),Int.tmod_eq_emod_of_nonneg (by omega)]
  rfl
 rw [decide_eq_true a1,Bool.true_and]
 by_cases a2 : ¬ d.m.getD 0 0 % 2=1
 ·have e5:(((d.m.getD 0 0 % 2:Nat):Int)=1)=False:=ff (by omega)
  rw [decide_eq_false a2,Bool.false_and]
  simp only [cH,ey,ai,am,go_sem,↓reduceIte,alS,alU,alT,alV,e1,e2,e3,e4,e5]
 replace a2:=Decidable.not_not.1 a2
 have e5:(((d.m.getD 0 0 % 2:Nat):Int)=1)=True:=tt (by omega)
 rw [decide_eq_true a2,Bool.true_and]
 have e6:IntKind.i64.wrap ((d.m.length:Int) - 1)=((d.m.length - 1:Nat):Int):=wi (by omega) (by omega)
 have e7:aN (aC d.m) ((d.m.length - 1:Nat):Int)=some (.ipt [U (d.m.getD (d.m.length - 1) 0:Nat)]):=aS rfl (by omega)
 by_cases a3:d.m.getD (d.m.length - 1) 0=0
 ·have e8:((d.m.getD (d.m.length - 1) 0:Int)=0)=True:=tt (by omega)
  rw [decide_eq_false (p:=d.m.getD (d.m.length - 1) 0 ≠ 0) (fun h=>h a3),Bool.false_and]
  simp only [cH,ey,ai,am,go_sem,↓reduceIte,alS,alU,alT,alV,e1,e2,e3,e4,e5,e6,e7,e8]
 have e8:((d.m.getD (d.m.length - 1) 0:Int)=0)=False:=ff (by omega)
 rw [decide_eq_true (p:=d.m.getD (d.m.length - 1) 0 ≠ 0) a3,Bool.true_and]
 have e9:=Ce (d:=d) ok.lb (by omega)
 simp only [ai,am] at e9
 simp only [cH,ey,ai,am,go_sem,↓reduceIte,alS,alU,alT,alV,e1,e2,e3,e4,e5,e6,e7,e8,e9]
theorem VM {d:Rd} (ok:Ok0 d):R F.dyadic_Sign [ai d] []=some (I (if vd d=false∨d.m.length=0 then 0 else if d.neg=true then -1 else 1),[]):=by
 refine aB Gf Ge (zR false) rfl ?_
 have hl:=ok.len
 have e9:=gx ok
 simp only [ai,am] at e9
 cases hv:vd d with
 | false =>
  rw [hv] at e9
  rw [if_pos (Or.inl rfl)]
  simp only [eB,jA,ai,am,go_sem,↓reduceIte,alS,alU,alT,alV,e9]
 | true =>
  rw [hv] at e9
  by_cases a0:d.m.length=0
  ·have e1:((d.m.length:Int)=0)=True:=tt (by omega)
   rw [if_pos (Or.inr a0)]
   simp only [eB,jA,ai,am,go_sem,↓reduceIte,alS,alU,alT,alV,e9,e1]
  ·have e1:((d.m.length:Int)=0)=False:=ff (by omega)
   rw [if_neg (fun h=>h.elim (fun h=>nomatch h) a0)]
   cases hn:d.neg with
   | true =>
    rw [hn] at e9
    rw [if_pos rfl]
    simp only [eB,jA,ai,am,hn,go_sem,↓reduceIte,alS,alU,alT,alV,e9,e1]
   | false =>
    rw [hn] at e9
    rw [if_neg (fun h=>nomatch h)]
    simp only [eB,jA,ai,am,hn,go_sem,↓reduceIte,alS,alU,alT,alV,e9,e1]
end Go.Ab
namespace Go.Ab
open Go Go.IntWalk
set_option maxRecDepth 4000
theorem Oa (m:List Nat) (h2:m.length < 4611686018427387904):∀ (n:Nat),n≤m.length→∀ (s:aj) (h:ac),s 0=lm m→s 3=I n →
  au 0 [0,3] (aq (ak R (ae false) eu) [0,3] [] s h)=some (.normal,⟨upd (upd (fun _ => .any) 3 (I (eZ m n))) 0 (lm m),fun _ => .dead⟩):=by
 intro n
 induction n with
 | zero =>
  intro h1 s h h3 h4
  rw [ao]
  simp only [eu,go_sem,h3,h4,eZ,↓reduceIte,alS,Int.natCast_zero,Int.lt_irrefl]
 | succ n ih =>
  intro h1 s h h3 h4
  have hn:n < m.length:=h1
  have e3:IntKind.i64.wrap ((n:Int)+1 - 1)=n:=wi (by omega) (by omega)
  have e1:aN (aC m) (n:Int)=some (.ipt [U (m.getD n 0:Nat)]):=aS rfl hn
  have e2:((0:Int) < (n:Int)+1)=True:=eq_true (by omega)
  have ih':=ih (by omega)
  rw [ao]
  generalize aq _ _ _=L at ih' ⊢
  by_cases hz:m.getD n 0=0
  ·simp only [eu,go_sem,h3,h4,eZ,↓reduceIte,alS,Int.natCast_add,Int.natCast_one,e3,e1,e2,hz,Int.natCast_zero]
   exact ih' _ _ rfl rfl
  ·simp only [eu,go_sem,h3,h4,eZ,↓reduceIte,alS,Int.natCast_add,Int.natCast_one,e3,e1,e2,hz,Int.natCast_eq_zero]
theorem I8 {m:List Nat} (hb:Lb m) (h:m.length < 4611686018427387904):R F.dyadic_trimmed [lm m] []=some (lm (ap (ab m)),[]):=by
 refine aB An Am (vW false) rfl ?_
 have h1:kn 1 (lm m) none (some (I (eZ m m.length:Nat))) none=some (lm (ap (ab m))):=by
  rw [tF (a:=0) (b:=eZ m m.length) rfl (mT rfl (mj _ _)) (mj _ _),List.drop_zero,Nat.sub_zero,uF hb]
 simp only [il,rB,go_sem,↓reduceIte,alS,Oa m h m.length (Nat.le_refl _),h1]
theorem sQ {e:Int}:R F.dyadic_exponent [I e] []=some (B (decide (-32768≤e) && decide (e≤32768)),[]):=by
 refine aB yC yB (uI false) rfl ?_
 by_cases a1 : ¬ (-32768≤e)
 ·simp only [eY,lW,go_sem,↓reduceIte,alS,a1]
 replace a1:=Decidable.not_not.1 a1
 simp only [eY,lW,go_sem,↓reduceIte,alS,a1]
theorem Cf {d:Rd} (hb:Lb d.m) (h1:d.m.length≤100000):R F.dyadic_checked [ai d] []=some (if iS (af (ab d.m)) d.e=true then .tup [ai d,I 0] else .tup [ai aH,I 9],[]):=by
 refine aB z9 z8 (vS false) rfl ?_
 have e9:=Ce hb h1
 simp only [ai,am] at e9
 cases hv:iS (af (ab d.m)) d.e with
 | false =>
  rw [hv] at e9
  rw [if_neg (fun h=>nomatch h)]
  simp only [fH,mQ,ai,am,aH,go_sem,↓reduceIte,alS,alU,alT,alV,e9]
 | true =>
  rw [hv] at e9
  rw [if_pos rfl]
  simp only [fH,mQ,ai,am,go_sem,↓reduceIte,alS,alU,alT,alV,e9]
theorem AF (h:ac) (m:List Nat):mp h 1 (lm m)=some (aC m):=So h 1 _
theorem I9 {m:List Nat} (h0:m ≠ []) (h1:m.length≤100000):R F.slices_Clone_uint32_uint32_ [lm m] []=some (lm m,[]):=by
 refine aB oG oF (mS false) rfl ?_
 have e1:A6 false (lm m)=some (B false):=by
  cases m with
  | nil=>exact absurd rfl h0
  | cons x m=>rfl
 have e2:((True∨False)∧(0+m.length)*4≤140737488355328)=True:=eq_true ⟨Or.inl trivial,by omega⟩
 have e3:(0+(0+m.length)≤m.length)=True:=eq_true (by omega)
 have e4:(0+m.length=m.length)=True:=eq_true (by omega)
 simp only [cI,ib,go_sem,↓reduceIte,alS,alV,alW,e1,AF,e2,e3,e4]
end Go.Ab
namespace Go.Ab
open Go Go.IntWalk
set_option maxRecDepth 4000
theorem sR:ah.E F.bits_TrailingZeros32=some T2:=by kernel_rfl
theorem xh {x:Nat} (h:x ≠ 0) (hx:x < 4294967296):R F.bits_TrailingZeros32 [U x] []=some (I (tz x:Nat),[]):=by
 unfold R
 rw [HT sR]
 show (if 0 < (x:Int)∧(x:Int) < 4294967296∧([]:List Ob)=[] then some (I (Fd 32 (x:Int).toNat:Nat),([]:List Ob)) else none)=_
 rw [if_pos ⟨by omega,by omega,rfl⟩,Int.toNat_natCast,Xr 32 x h (by omega)]
theorem S6 (m:List Nat) (hb:Lb m) (h2:m.length≤100000):∀ (k i:Nat),i+k=m.length→ab (m.drop i) ≠ 0→∀ (s:aj) (h:ac),s 6=lm m→s 7=I m.length→s 8=I i→s 3=I (32*i:Nat) →
  au 0 [3] (aq (ak R (ae false) ke) [3,6,7,8] [] s h)=some (.ret,⟨upd (fun _ => .any) 2 (I (32*i+tz (ab (m.drop i)):Nat)),fun _ => .dead⟩):=by
 intro k
 induction k with
 | zero =>
  intro i hi hv
  rw [List.drop_eq_nil_of_le (by omega)] at hv
  exact absurd rfl hv
 | succ k ih =>
  intro i hi hv s h h6 h7 h8 h3
  have e1:((i:Int) < m.length)=True:=tt (by omega)
  have e2:aN (aC m) (i:Int)=some (.ipt [U (m.getD i 0:Nat)]):=aS rfl (by omega)
  have hx:m.getD i 0 < 4294967296:=aZ hb i
  rw [dF] at hv
  rw [ao]
  have e4:IntKind.i64.wrap (((32*i:Nat):Int)+32)=((32*(i+1):Nat):Int):=wi (by omega) (by omega)
  have e5:IntKind.i64.wrap ((i:Int)+1)=((i+1:Nat):Int):=wi (by omega) (by omega)
  by_cases hz:m.getD i 0=0
  ·have e3:((m.getD i 0:Int)=0)=True:=tt (by omega)
   have hv':ab (m.drop (i+1)) ≠ 0:=by
    intro h0
    rw [hz,h0] at hv
    exact hv rfl
   have ih':=ih (i+1) (by omega) hv'
   have e6:tz (ab (m.drop i))=32+tz (ab (m.drop (i+1))):=by
    rw [dF,hz,Nat.zero_add]
    exact BS 32 hv'
   have e7:32*i+tz (ab (m.drop i))=32*(i+1)+tz (ab (m.drop (i+1))):=by omega
   rw [e7]
   generalize aq _ _ _=L at ih' ⊢
   simp only [ke,go_sem,↓reduceIte,alS,h3,h6,h7,h8,e1,e2,e3,e4,e5]
   exact ih' _ _ rfl rfl rfl rfl
  ·have e3:((m.getD i 0:Int)=0)=False:=ff (by omega)
   have e6:tz (ab (m.drop i))=tz (m.getD i 0):=by
    rw [dF]
    exact Xq (k:=32) _ hz hx
   have e8:tz (m.getD i 0) < 32:=G4 (k:=32) hz hx
   have e7:IntKind.i64.wrap (((32*i:Nat):Int)+(tz (m.getD i 0):Nat))=((32*i+tz (m.getD i 0):Nat):Int):=wi (by omega) (by omega)
   rw [e6]
   simp only [ke,go_sem,↓reduceIte,alS,alU,alT,h3,h6,h7,h8,e1,e2,e3,xh hz hx,e7]
theorem X6 {m:List Nat} (hb:Lb m) (h1:m.length≤100000) (hv:ab m ≠ 0):R F.dyadic_low [lm m] []=some (I (tz (ab m):Nat),[]):=by
 refine aB IJ II (B8 false) rfl ?_
 have h3:=S6 m hb h1 m.length 0 (Nat.zero_add _) hv
 simp only [Nat.mul_zero,Nat.zero_add,List.drop_zero,Int.natCast_zero] at h3
 simp only [mA,wH,go_sem,↓reduceIte,alS]
 rw [h3 _ _ rfl rfl rfl rfl]
 simp only [go_sem,↓reduceIte]
def aV (neg:Bool) (M:Nat) (e:Int):Rd:=if M=0 then aH else ⟨neg,ap (M / 2 ^ tz M),e+tz M⟩
def Exq (e:Int):Prop := -1000000≤e∧e≤1000000
theorem xi {neg:Bool} {m:List Nat} {e:Int} (hb:Lb m) (h1:m.length≤256) (he:Exq e):R F.dyadic_canonical [B neg,lm m,I e] []=some (ai (aV neg (ab m) e),[]):=by
 refine aB wZ wY (tB false) rfl ?_
 obtain ⟨he1,he2⟩:=he
 unfold aV
 by_cases h0:ab m=0
 ·have hd:R F.dyadic_trimmed [lm m] []=some (lm [],[]):=by
   rw [I8 hb (by omega),h0,cO]
  have e0:(([]:List Nat).length:Int)=0:=rfl
  rw [if_pos h0]
  simp only [et,kE,ai,am,aH,go_sem,↓reduceIte,alS,alU,alT,alV,hd,List.length_nil,Int.natCast_zero]
 have hn:ap (ab m) ≠ []:=fun h=>h0 (gg.1 h)
 have hl:0 < (ap (ab m)).length:=by
  cases h:ap (ab m) with
  | nil=>exact absurd h hn
  | cons x l=>exact Nat.succ_pos _
 have hl2:(ap (ab m)).length≤256:=Nat.le_trans (bS m hb) h1
 have hdb:Lb (ap (ab m)):=aL _
 have e1:(((ap (ab m)).length:Int)=0)=False:=ff (by omega)
 have ht:tz (ab m) < 32*256:=G4 (k:=32*256) h0 (by
  have:=bD hb
  have h3:4294967296 ^ m.length≤4294967296 ^ 256:=Nat.pow_le_pow_right (by decide) h1
  have h4:(2:Nat) ^ (32*256)=4294967296 ^ 256:=Nat.pow_mul 2 32 256
  rw [h4]
  exact Nat.lt_of_lt_of_le this h3)
 have hlow:=X6 hdb (by omega) (by rw [aD]; exact h0)
 rw [aD] at hlow
 have hs:=Qv (n:=(tz (ab m):Nat)) hdb hl2
 rw [if_neg (by omega),aD,Int.toNat_natCast] at hs
 have hq:ap (ab m / 2 ^ tz (ab m)) ≠ []:=by
  intro h
  have:=(m9 h0).2
  rw [gg.1 h] at this
  exact absurd this (by decide)
 have hq2:(ap (ab m / 2 ^ tz (ab m))).length≤100000:=by
  have h5:(ap (ab m / 2 ^ tz (ab m))).length≤m.length:=fy (Nat.lt_of_le_of_lt (Nat.div_le_self _ _) (bD hb))
  omega
 have hc:=I9 hq hq2
 have e2:IntKind.i64.wrap (e+(tz (ab m):Nat))=e+(tz (ab m):Nat):=by rw [i64_in]; omega
 rw [if_neg h0]
 simp only [et,kE,ai,am,go_sem,↓reduceIte,alS,alU,alT,alV,I8 hb (Nat.lt_of_le_of_lt h1 (by decide)),e1,hlow,hs,hc,LY,e2]
end Go.Ab
namespace Go.Ab
open Go Go.IntWalk
set_option maxRecDepth 4000
theorem pR {d:Rd} (h:vd d=true) (h0:d.m.length ≠ 0):d.m.length≤256∧d.m.getD 0 0 % 2=1∧d.m.getD (d.m.length - 1) 0 ≠ 0∧iS (af (ab d.m)) d.e=true:=by
 unfold vd at h
 rw [if_neg h0] at h
 simp only [Bool.and_eq_true,decide_eq_true_eq] at h
 exact h
theorem qU {d:Rd} (h:vd d=true) (h0:d.m.length=0):d=aH:=by
 unfold vd at h
 rw [if_pos h0] at h
 simp only [Bool.and_eq_true,decide_eq_true_eq,Bool.not_eq_true'] at h
 obtain ⟨n,m,e⟩:=d
 obtain ⟨h1,h2⟩:=h
 simp only at h1 h2 h0
 rw [aH,h1,h2,List.length_eq_zero_iff.1 h0]
theorem x4 {n:Nat} {e:Int} (h:iS n e=true) (h0:n ≠ 0):n≤4096 ∧ -16384≤e∧e≤16384∧(n:Int)+e≤16384:=by
 unfold iS at h
 simp only [Bool.or_eq_true,Bool.and_eq_true,decide_eq_true_eq] at h
 exact h.resolve_left h0
theorem dS {d:Rd} (h:vd d=true) (hb:Lb d.m):d.m.length≤256 ∧ -16384≤d.e∧d.e≤16384∧af (ab d.m)≤4096:=by
 by_cases h0:d.m.length=0
 ·rw [qU h h0]
  exact ⟨by decide,by decide,by decide,by decide⟩
 obtain ⟨h1,h2,h3,h4⟩:=pR h h0
 have hv:ab d.m ≠ 0:=by
  intro hz
  have:=dF d.m 0
  rw [List.drop_zero] at this
  omega
 have hn:af (ab d.m) ≠ 0:=by
  have:=cS hv
  omega
 obtain ⟨h5,h6,h7,h8⟩:=x4 h4 hn
 exact ⟨h1,h6,h7,h5⟩
def aK (d:Rd):Int:=if vd d=false∨d.m.length=0 then 0 else (af (ab d.m):Nat)+d.e
theorem tJ {d:Rd} (ok:Ok0 d):R F.dyadic_Top [ai d] []=some (I (aK d),[]):=by
 refine aB IH IG (B7 false) rfl ?_
 have hl:=ok.len
 have e9:=gx ok
 simp only [ai,am] at e9
 unfold aK
 cases hv:vd d with
 | false =>
  rw [hv] at e9
  rw [if_pos (Or.inl rfl)]
  simp only [gI,nX,ai,am,go_sem,↓reduceIte,alS,alU,alT,alV,e9]
 | true =>
  rw [hv] at e9
  by_cases a0:d.m.length=0
  ·have e1:((d.m.length:Int)=0)=True:=tt (by omega)
   rw [if_pos (Or.inr a0)]
   simp only [gI,nX,ai,am,go_sem,↓reduceIte,alS,alU,alT,alV,e9,e1]
  ·have e1:((d.m.length:Int)=0)=False:=ff (by omega)
   rw [if_neg (fun h=>h.elim (fun h=>nomatch h) a0)]
   obtain ⟨h1,h2,h3,h4⟩:=dS hv ok.lb
   have e2:IntKind.i64.wrap (((af (ab d.m):Nat):Int)+d.e)=((af (ab d.m):Nat):Int)+d.e:=by rw [i64_in]; omega
   simp only [gI,nX,ai,am,go_sem,↓reduceIte,alS,alU,alT,alV,alW,alX,e9,e1,ng ok.lb (Nat.le_trans h1 (by decide)),e2]
theorem X7 {d:Rd} (ok:Ok0 d):R F.dyadic_Neg [ai d] []=some (ai (if vd d=false∨d.m.length=0 then aH else ⟨!d.neg,d.m,d.e⟩),[]):=by
 refine aB IB IA (B4 false) rfl ?_
 have hl:=ok.len
 have e9:=gx ok
 simp only [ai,am] at e9
 cases hv:vd d with
 | false =>
  rw [hv] at e9
  rw [if_pos (Or.inl rfl)]
  simp only [gH,nU,ai,am,aH,go_sem,↓reduceIte,alS,alU,alT,alV,e9]
 | true =>
  rw [hv] at e9
  by_cases a0:d.m.length=0
  ·have e1:((d.m.length:Int)=0)=True:=tt (by omega)
   rw [if_pos (Or.inr a0)]
   simp only [gH,nU,ai,am,aH,go_sem,↓reduceIte,alS,alU,alT,alV,e9,e1]
  ·have e1:((d.m.length:Int)=0)=False:=ff (by omega)
   rw [if_neg (fun h=>h.elim (fun h=>nomatch h) a0)]
   obtain ⟨h1,h2,h3,h4⟩:=dS hv ok.lb
   have hc:=I9 (m:=d.m) (fun h=>a0 (by rw [h]; rfl)) (Nat.le_trans h1 (by decide))
   simp only [gH,nU,ai,am,go_sem,↓reduceIte,alS,alU,alT,alV,alW,alX,e9,e1,hc]
end Go.Ab
namespace Go.Ab
open Go Go.IntWalk
set_option maxRecDepth 4000
theorem Cg {m:List Nat} (hb:Lb m) (h1:m.length≤256) {k:Nat} (hk:k≤65536) (hl:(ap (ab m*2 ^ k)).length≤256):R F.dyadic_shifted [lm m,I k] []=some (lm (ap (ab m*2 ^ k)),[]):=by
 refine aB Ac Aa (vT false) rfl ?_
 have hs:=Qu (n:=(k:Nat)) hb h1
 rw [if_neg (by omega),Int.toNat_natCast,fq,if_neg (by omega)] at hs
 simp only [ij,ry,go_sem,↓reduceIte,alS,alU,alT,alV,hs]
theorem VN {neg:Bool} {m:List Nat} {e:Int} (hb:Lb m) (hl:m.length < 4611686018427387904):R F.dyadic_Make [B neg,lm m,I e] []=some (if 256 < m.length∨e < -32768∨32768 < e then .tup [ai aH,I 1]
  else if iS (af (ab (aV neg (ab m) e).m)) (aV neg (ab m) e).e=true then .tup [ai (aV neg (ab m) e),I 0] else .tup [ai aH,I 9],[]):=by
 refine aB GV GU (Ay false) rfl ?_
 by_cases a1:256 < m.length
 ·have e1:((256:Int) < m.length)=True:=tt (by omega)
  rw [if_pos (Or.inl a1)]
  simp only [eH,jC,ai,am,aH,go_sem,↓reduceIte,alS,alU,alT,alV,e1]
 have e1:((256:Int) < m.length)=False:=ff (by omega)
 by_cases a2:e < -32768∨32768 < e
 ·have e2:(decide (-32768≤e) && decide (e≤32768))=false:=by
   rcases a2 with a2 | a2
   ·rw [decide_eq_false (by omega),Bool.false_and]
   ·rw [decide_eq_false (p:=e≤32768) (by omega),Bool.and_false]
  rw [if_pos (Or.inr a2)]
  simp only [eH,jC,ai,am,aH,go_sem,↓reduceIte,alS,alU,alT,alV,e1,sQ,e2]
 have e2:(decide (-32768≤e) && decide (e≤32768))=true:=by
  rw [decide_eq_true (by omega),decide_eq_true (by omega)]
  rfl
 rw [if_neg (fun h=>h.elim a1 a2)]
 have hc:=xi (neg:=neg) (e:=e) hb (by omega) ⟨by omega,by omega⟩
 have hL:Lb (aV neg (ab m) e).m:=by
  unfold aV
  split
  ·exact fun x hx=>nomatch hx
  ·exact aL _
 have hN:(aV neg (ab m) e).m.length≤100000:=by
  unfold aV
  split
  ·exact Nat.zero_le _
  ·have h5:(ap (ab m / 2 ^ tz (ab m))).length≤m.length:=fy (Nat.lt_of_le_of_lt (Nat.div_le_self _ _) (bD hb))
   exact Nat.le_trans h5 (by omega)
 have hd:=Cf hL hN
 generalize aV neg (ab m) e=d at hc hd ⊢
 simp only [ai,am] at hc hd
 cases hv:iS (af (ab d.m)) d.e with
 | false =>
  rw [hv,if_neg (fun h=>nomatch h)] at hd
  rw [if_neg (fun h=>nomatch h)]
  simp only [eH,jC,ai,am,aH,go_sem,↓reduceIte,alS,alU,alT,alV,e1,sQ,e2,hc,hd]
 | true =>
  rw [hv,if_pos rfl] at hd
  rw [if_pos rfl]
  simp only [eH,jC,ai,am,go_sem,↓reduceIte,alS,alU,alT,alV,e1,sQ,e2,hc,hd]
def mg (d:Rd):Nat:=ab d.m*2 ^ (d.e+16384).toNat
def zI (d:Rd):Int:=if d.neg=true then -(mg d:Int) else mg d
theorem S7 {x y k:Nat} (hk:0 < k):aT (x*k) (y*k)=aT x y:=by
 unfold aT
 have h1:(x*k < y*k)↔x < y:=Nat.mul_lt_mul_right hk
 have h2:(y*k < x*k)↔y < x:=Nat.mul_lt_mul_right hk
 by_cases a:x < y
 ·rw [if_pos a,if_pos (h1.2 a)]
 ·rw [if_neg a,if_neg (fun h=>a (h1.1 h))]
  by_cases b:y < x
  ·rw [if_pos b,if_pos (h2.2 b)]
  ·rw [if_neg b,if_neg (fun h=>b (h2.1 h))]
theorem uN {x y:Nat} (h:af x < af y):x < y:=by
 have h1:=(bh (n:=x) (k:=af x)).1 (Nat.le_refl _)
 have h2:=iK.1 h
 omega
theorem cU {d:Rd} (h:vd d=true) (h0:d.m.length ≠ 0):ab d.m ≠ 0:=by
 obtain ⟨h1,h2,h3,h4⟩:=pR h h0
 intro hz
 have:=dF d.m 0
 rw [List.drop_zero] at this
 omega
theorem tK {d:Rd} (h:vd d=true) (hb:Lb d.m) (h0:d.m.length ≠ 0):(af (mg d):Int)=aK d+16384:=by
 obtain ⟨h1,h2,h3,h4⟩:=dS h hb
 unfold mg aK
 rw [cT _ (cU h h0),if_neg (fun h'=>h'.elim (fun h''=>by rw [h] at h''; exact nomatch h'') h0)]
 omega
theorem uO {d:Rd} {e:Int} (h1 : -16384≤e) (h2:e≤d.e):mg d=ab d.m*2 ^ (d.e - e).toNat*2 ^ (e+16384).toNat:=by
 unfold mg
 rw [Nat.mul_assoc,← Nat.pow_add]
 congr 2
 omega
theorem aJ {n k:Nat} (h:af n≤32*k):(ap n).length≤k:=by
 refine fy ?_
 have:=bh.1 h
 rw [Nat.pow_mul] at this
 exact this
theorem Oc {a b:Rd} (oa:Ok0 a) (ob:Ok0 b) (va:vd a=true) (vb:vd b=true) (na:a.m.length ≠ 0) (nb:b.m.length ≠ 0):R F.dyadic_compare [ai a,ai b] []=some (I (aT (mg a) (mg b)),[]):=by
 refine aB Ai Ah (vU false) rfl ?_
 have ta:=tJ oa
 have tb:=tJ ob
 have ba:=tK va oa.lb na
 have bb:=tK vb ob.lb nb
 simp only [ai,am] at ta tb
 by_cases h1:aK a < aK b
 ·have h2:aT (mg a) (mg b) = -1:=by
   rw [aT,if_pos (uN (by omega))]
  have e1:(aK a < aK b)=True:=tt h1
  rw [h2]
  simp only [d9,jh,ai,am,go_sem,↓reduceIte,alS,alU,alT,alV,alW,alX,ta,tb,e1]
 have e1:(aK a < aK b)=False:=ff h1
 by_cases h2:aK b < aK a
 ·have h3:aT (mg a) (mg b)=1:=by
   have:=uN (x:=mg b) (y:=mg a) (by omega)
   rw [aT,if_neg (by omega),if_pos this]
  have e2:(aK b < aK a)=True:=tt h2
  rw [h3]
  simp only [d9,jh,ai,am,go_sem,↓reduceIte,alS,alU,alT,alV,alW,alX,ta,tb,e1,e2]
 have e2:(aK b < aK a)=False:=ff h2
 obtain ⟨a1,a2,a3,a4⟩:=dS va oa.lb
 obtain ⟨b1,b2,b3,b4⟩:=dS vb ob.lb
 obtain ⟨e,hm⟩:∃ e,(if b.e < a.e then b.e else a.e)=e:=⟨_,rfl⟩
 have hea:e≤a.e∧e≤b.e∧(e=a.e∨e=b.e):=by
  split at hm <;> omega
 obtain ⟨m1,m2,m3⟩:=hea
 have ka:IntKind.i64.wrap (a.e - e)=(((a.e - e).toNat:Nat):Int):=wi (by omega) (by omega)
 have kb:IntKind.i64.wrap (b.e - e)=(((b.e - e).toNat:Nat):Int):=wi (by omega) (by omega)
 have hta:aK a=(af (ab a.m):Nat)+a.e:=by
  rw [aK,if_neg (fun h'=>h'.elim (fun h''=>by rw [va] at h''; exact nomatch h'') na)]
 have htb:aK b=(af (ab b.m):Nat)+b.e:=by
  rw [aK,if_neg (fun h'=>h'.elim (fun h''=>by rw [vb] at h''; exact nomatch h'') nb)]
 have la:(ap (ab a.m*2 ^ (a.e - e).toNat)).length≤256:=aJ (by
  rw [cT _ (cU va na)]
  omega)
 have lb:(ap (ab b.m*2 ^ (b.e - e).toNat)).length≤256:=aJ (by
  rw [cT _ (cU vb nb)]
  omega)
 have sa:=Cg oa.lb a1 (k:=(a.e - e).toNat) (by omega) la
 have sb:=Cg ob.lb b1 (k:=(b.e - e).toNat) (by omega) lb
 have hc:=tI (aL (ab a.m*2 ^ (a.e - e).toNat)) (aL (ab b.m*2 ^ (b.e - e).toNat)) (Nat.le_trans la (by decide)) (Nat.le_trans lb (by decide))
 rw [aD,aD,← S7 (k:=2 ^ (e+16384).toNat) (Nat.two_pow_pos _),← uO (by omega) m1,← uO (by omega) m2] at hc
 simp only [d9,jh,ai,am,go_sem,↓reduceIte,alS,alU,alT,alV,alW,alX,ta,tb,e1,e2,hm,ka,kb,sa,sb,hc]
end Go.Ab
namespace Go.Ab
open Go Go.IntWalk
set_option maxRecDepth 4000
def bw (x y:Int):Int:=if x < y then -1 else if y < x then 1 else 0
def bU (d:Rd):Int:=if d.m.length=0 then 0 else if d.neg=true then -1 else 1
theorem DX {d:Rd} (h0:d.m.length=0):mg d=0:=by
 unfold mg
 rw [List.length_eq_zero_iff.1 h0]
 exact Nat.zero_mul _
theorem Qx {d:Rd} (h:vd d=true) (h0:d.m.length ≠ 0):0 < mg d :=
 Nat.mul_pos (Nat.pos_of_ne_zero (cU h h0)) (Nat.two_pow_pos _)
theorem rK (d:Rd) (h:vd d=true):(bU d=0∧zI d=0∧d.m.length=0)∨(bU d = -1∧zI d = -(mg d:Int)∧0 < mg d∧d.m.length ≠ 0)∨(bU d=1∧zI d=mg d∧0 < mg d∧d.m.length ≠ 0):=by
 unfold bU zI
 by_cases h0:d.m.length=0
 ·refine Or.inl ⟨if_pos h0,?_,h0⟩
  rw [DX h0]
  split <;> rfl
 ·rw [if_neg h0]
  have:=Qx h h0
  by_cases hn:d.neg=true
  ·exact Or.inr (Or.inl ⟨if_pos hn,if_pos hn,this,h0⟩)
  ·exact Or.inr (Or.inr ⟨if_neg hn,if_neg hn,this,h0⟩)
theorem AG {d:Rd} (ok:Ok0 d) (hv:vd d=true):R F.dyadic_Sign [ai d] []=some (I (bU d),[]):=by
 rw [VM ok]
 unfold bU
 by_cases h0:d.m.length=0
 ·rw [if_pos (Or.inr h0),if_pos h0]
 ·rw [if_neg (fun h'=>h'.elim (fun h''=>by rw [hv] at h''; exact nomatch h'') h0),if_neg h0]
theorem VO {a b:Rd} (oa:Ok0 a) (ob:Ok0 b):R F.dyadic_Cmp [ai a,ai b] []=some (I (if vd a=true∧vd b=true then bw (zI a) (zI b) else 0),[]):=by
 refine aB IE ID (B5 false) rfl ?_
 have va:=gx oa
 have vb:=gx ob
 simp only [ai,am] at va vb
 cases ha:vd a with
 | false =>
  rw [ha] at va
  rw [if_neg (fun h=>nomatch h.1)]
  simp only [dD,gp,ai,am,go_sem,↓reduceIte,alS,alU,alT,alV,va]
 | true =>
 rw [ha] at va
 cases hb:vd b with
 | false =>
  rw [hb] at vb
  rw [if_neg (fun h=>nomatch h.2)]
  simp only [dD,gp,ai,am,go_sem,↓reduceIte,alS,alU,alT,alV,va,vb]
 | true =>
 rw [hb] at vb
 rw [if_pos ⟨rfl,rfl⟩]
 have sa:=AG oa ha
 have sb:=AG ob hb
 have ca:=rK a ha
 have cb:=rK b hb
 simp only [ai,am] at sa sb
 by_cases h1:bU a < bU b
 ·have e1:(bU a < bU b)=True:=tt h1
  have e2:bw (zI a) (zI b) = -1:=if_pos (by omega)
  rw [e2]
  simp only [dD,gp,ai,am,go_sem,↓reduceIte,alS,alU,alT,alV,alW,alX,va,vb,sa,sb,e1]
 have e1:(bU a < bU b)=False:=ff h1
 by_cases h2:bU b < bU a
 ·have e2:(bU b < bU a)=True:=tt h2
  have e3:bw (zI a) (zI b)=1:=by rw [bw,if_neg (by omega),if_pos (by omega)]
  rw [e3]
  simp only [dD,gp,ai,am,go_sem,↓reduceIte,alS,alU,alT,alV,alW,alX,va,vb,sa,sb,e1,e2]
 have e2:(bU b < bU a)=False:=ff h2
 by_cases h3:bU a=0
 ·have e3:(bU a=0)=True:=tt h3
  have e4:bw (zI a) (zI b)=0:=by rw [bw,if_neg (by omega),if_neg (by omega)]
  rw [e4]
  simp only [dD,gp,ai,am,go_sem,↓reduceIte,alS,alU,alT,alV,alW,alX,va,vb,sa,sb,e1,e2,e3]
 have e3:(bU a=0)=False:=ff h3
 have hc:=Oc oa ob ha hb (by omega) (by omega)
 simp only [ai,am] at hc
 have e4:IntKind.i64.wrap (bU a*aT (mg a) (mg b))=bw (zI a) (zI b):=by
  have hp:bU a*aT (mg a) (mg b)=bw (zI a) (zI b):=by
   rcases ca with ca | ca | ca
   ·omega
   ·rw [ca.1,ca.2.1]
    rw [show zI b = -(mg b:Int) by omega]
    unfold aT bw
    by_cases x:mg a < mg b
    ·rw [if_pos x,if_neg (by omega),if_pos (by omega)]; rfl
    ·by_cases y:mg b < mg a
     ·rw [if_neg x,if_pos y,if_pos (by omega)]; rfl
     ·rw [if_neg x,if_neg y,if_neg (by omega),if_neg (by omega)]; rfl
   ·rw [ca.1,ca.2.1]
    rw [show zI b=(mg b:Int) by omega]
    unfold aT bw
    by_cases x:mg a < mg b
    ·rw [if_pos x,if_pos (by omega)]; rfl
    ·by_cases y:mg b < mg a
     ·rw [if_neg x,if_pos y,if_neg (by omega),if_pos (by omega)]; rfl
     ·rw [if_neg x,if_neg y,if_neg (by omega),if_neg (by omega)]; rfl
  rw [hp]
  unfold bw
  split
  ·decide
  ·split <;> decide
 simp only [dD,gp,ai,am,go_sem,↓reduceIte,alS,alU,alT,alV,alW,alX,va,vb,sa,sb,e1,e2,e3,hc,e4]
end Go.Ab
namespace Go.Ab
open Go Go.IntWalk
set_option maxRecDepth 4000
theorem rL (x y:Nat):af (x*y)≤af x+af y:=by
 rw [bh,Nat.pow_add]
 exact Nat.mul_lt_mul'' (bh.1 (Nat.le_refl _)) (bh.1 (Nat.le_refl _))
theorem o4 (neg:Bool) (M:Nat) (e:Int):Lb (aV neg M e).m:=by
 unfold aV
 split
 ·exact fun x hx=>nomatch hx
 ·exact aL _
theorem rM {neg:Bool} {M:Nat} {e:Int} {k:Nat} (h:af M≤32*k):(aV neg M e).m.length≤k:=by
 unfold aV
 split
 ·exact Nat.zero_le _
 ·refine aJ ?_
  rw [di]
  omega
def uP (d:Rd):AV:=if iS (af (ab d.m)) d.e=true then .tup [ai d,I 0] else .tup [ai aH,I 9]
def G8 (a b:Rd):AV:=if vd a=true∧vd b=true then if a.m.length=0∨b.m.length=0 then .tup [ai aH,I 0] else if 4096 < af (ab a.m)+af (ab b.m) - 1 then .tup [ai aH,I 9] else uP (aV (a.neg != b.neg) (ab a.m*ab b.m) (a.e+b.e)) else .tup [ai aH,I 1]
theorem jD (a b:Bool):(true != (a == b))=(a != b):=by cases a <;> cases b <;> rfl
theorem VP {a b:Rd} (oa:Ok0 a) (ob:Ok0 b):R F.dyadic_Mul [ai a,ai b] []=some (G8 a b,[]):=by
 refine aB Iz Iy (B1 false) rfl ?_
 unfold G8
 have va:=gx oa
 have vb:=gx ob
 simp only [ai,am] at va vb
 cases ha:vd a with
 | false =>
  rw [ha] at va
  rw [if_neg (fun h=>nomatch h.1)]
  simp only [cX,eU,ai,am,aH,go_sem,↓reduceIte,alS,alU,alT,alV,va]
 | true =>
 rw [ha] at va
 cases hb:vd b with
 | false =>
  rw [hb] at vb
  rw [if_neg (fun h=>nomatch h.2)]
  simp only [cX,eU,ai,am,aH,go_sem,↓reduceIte,alS,alU,alT,alV,va,vb]
 | true =>
 rw [hb] at vb
 rw [if_pos ⟨rfl,rfl⟩]
 by_cases a0:a.m.length=0
 ·have e1:((a.m.length:Int)=0)=True:=tt (by omega)
  rw [if_pos (Or.inl a0)]
  simp only [cX,eU,ai,am,aH,go_sem,↓reduceIte,alS,alU,alT,alV,va,vb,e1]
 have e1:((a.m.length:Int)=0)=False:=ff (by omega)
 by_cases b0:b.m.length=0
 ·have e2:((b.m.length:Int)=0)=True:=tt (by omega)
  rw [if_pos (Or.inr b0)]
  simp only [cX,eU,ai,am,aH,go_sem,↓reduceIte,alS,alU,alT,alV,va,vb,e1,e2]
 have e2:((b.m.length:Int)=0)=False:=ff (by omega)
 rw [if_neg (fun h=>h.elim a0 b0)]
 obtain ⟨a1,a2,a3,a4⟩:=dS ha oa.lb
 obtain ⟨b1,b2,b3,b4⟩:=dS hb ob.lb
 have za:=ng oa.lb (Nat.le_trans a1 (by decide))
 have zb:=ng ob.lb (Nat.le_trans b1 (by decide))
 have pa:=cS (cU ha a0)
 have w1:IntKind.i64.wrap (((af (ab a.m):Nat):Int)+(af (ab b.m):Nat))=((af (ab a.m)+af (ab b.m):Nat):Int):=wi (by omega) (by omega)
 have w2:IntKind.i64.wrap (((af (ab a.m)+af (ab b.m):Nat):Int) - 1)=((af (ab a.m)+af (ab b.m) - 1:Nat):Int):=wi (by omega) (by omega)
 by_cases c0:4096 < af (ab a.m)+af (ab b.m) - 1
 ·have e3:((4096:Int) < ((af (ab a.m)+af (ab b.m) - 1:Nat):Int))=True:=tt (by omega)
  rw [if_pos c0]
  simp only [cX,eU,ai,am,aH,go_sem,↓reduceIte,alS,alU,alT,alV,alW,alX,va,vb,e1,e2,za,zb,w1,w2,e3]
 have e3:((4096:Int) < ((af (ab a.m)+af (ab b.m) - 1:Nat):Int))=False:=ff (by omega)
 rw [if_neg c0]
 have hp:=rL (ab a.m) (ab b.m)
 have hl:(ap (ab a.m*ab b.m)).length≤129:=aJ (by omega)
 have hm:=X3 oa.lb ob.lb a1 b1
 rw [fq,if_neg (by omega)] at hm
 have w3:IntKind.i64.wrap (a.e+b.e)=a.e+b.e:=i64_in _ ⟨by omega,by omega⟩
 have hc:=xi (neg:=a.neg != b.neg) (e:=a.e+b.e) (aL (ab a.m*ab b.m)) (Nat.le_trans hl (by decide)) ⟨by omega,by omega⟩
 rw [aD] at hc
 have hd:=Cf (o4 (a.neg != b.neg) (ab a.m*ab b.m) (a.e+b.e)) (Nat.le_trans (rM (k:=129) (by omega)) (by decide))
 unfold uP
 generalize aV (a.neg != b.neg) (ab a.m*ab b.m) (a.e+b.e)=d at hc hd ⊢
 simp only [ai,am] at hc hd
 cases hv:iS (af (ab d.m)) d.e with
 | false =>
  rw [hv,if_neg (fun h=>nomatch h)] at hd
  rw [if_neg (fun h=>nomatch h)]
  simp only [cX,eU,ai,am,aH,go_sem,↓reduceIte,alS,alU,alT,alV,alW,alX,va,vb,e1,e2,za,zb,w1,w2,w3,e3,hm,jD,hc,hd]
 | true =>
  rw [hv,if_pos rfl] at hd
  rw [if_pos rfl]
  simp only [cX,eU,ai,am,go_sem,↓reduceIte,alS,alU,alT,alV,alW,alX,va,vb,e1,e2,za,zb,w1,w2,w3,e3,hm,jD,hc,hd]
theorem Ch {p:Int}:R F.round_precise [I p] []=some (B (decide (8≤p) && decide (p≤512)),[]):=by
 refine aB Cb Ca (xc false) rfl ?_
 by_cases a1 : ¬ (8≤p)
 ·simp only [gw,n9,go_sem,↓reduceIte,alS,a1]
 replace a1:=Decidable.not_not.1 a1
 simp only [gw,n9,go_sem,↓reduceIte,alS,a1]
end Go.Ab
namespace Go.Ab
open Go Go.IntWalk
set_option maxRecDepth 4000
theorem rN {m:List Nat} (hb:Lb m):af (ab m)≤32*m.length:=by
 rw [bh,Nat.pow_mul]
 exact bD hb
def oz (m:List Nat) (e:Int) (more:Bool):AV := .agg [lm m,I e,B more]
theorem aaP {d:Rd}:R F.round_of [ai d] []=some (oz d.m d.e false,[]):=by
 refine aB N5 N4 (GR false) rfl ?_
 simp only [po,BO,ai,am,oz,go_sem,↓reduceIte,alS,alU,alT,alV]
theorem qV {m:List Nat} (hb:Lb m) (h1:m.length≤256) {k:Nat} (hk:k≤65536) (hl:(ap (ab m*2 ^ k)).length≤256):R F.round_shl [lm m,I k] []=some (lm (ap (ab m*2 ^ k)),[]):=by
 refine aB Lr Lq (DR false) rfl ?_
 have hs:=Qu (n:=(k:Nat)) hb h1
 rw [if_neg (by omega),Int.toNat_natCast,fq,if_neg (by omega)] at hs
 simp only [oe,zd,go_sem,↓reduceIte,alS,alU,alT,alV,hs]
theorem Qy {x y:Nat}:aT x y=0↔x=y:=by
 unfold aT
 constructor
 ·intro h
  split at h
  ·exact nomatch h
  ·split at h
   ·exact nomatch h
   ·omega
 ·intro h
  rw [if_neg (by omega),if_neg (by omega)]
theorem S8 {x n:Nat}:x / 2 ^ (min n (af x))=x / 2 ^ n∧(x / 2 ^ (min n (af x))*2 ^ (min n (af x))=x↔x % 2 ^ n=0):=by
 by_cases h:n≤af x
 ·rw [Nat.min_eq_left h]
  refine ⟨rfl,?_⟩
  have:=Nat.div_add_mod x (2 ^ n)
  rw [Nat.mul_comm] at this
  omega
 ·have hb:x < 2 ^ af x:=bh.1 (Nat.le_refl _)
  have hn:x < 2 ^ n:=bh.1 (by omega)
  rw [Nat.min_eq_right (by omega),Nat.div_eq_of_lt hb,Nat.div_eq_of_lt hn,Nat.mod_eq_of_lt hn,Nat.zero_mul]
  exact ⟨rfl,⟨fun h=>h.symm,fun h=>h.symm⟩⟩
theorem DY {m:List Nat} (hb:Lb m) (h1:m.length≤256) {n:Nat} (hn:n < 4611686018427387904):R F.round_shr [lm m,I n] []=some (.tup [lm (ap (ab m / 2 ^ n)),B (decide (ab m % 2 ^ n ≠ 0))],[]):=by
 refine aB Lt Ls (DS false) rfl ?_
 have hB:=x3 hb (Nat.le_trans h1 (by decide))
 have hlen:=rN hb
 obtain ⟨q1,q2⟩:=S8 (x:=ab m) (n:=n)
 generalize hk:min n (af (ab m))=k at q1 q2
 have k1:k≤8192:=by omega
 have hs:=Qv (n:=(k:Nat)) hb h1
 rw [if_neg (by omega),Int.toNat_natCast,q1] at hs
 rw [q1] at q2
 have hle:ab m / 2 ^ n*2 ^ k≤ab m:=by
  rw [← q1]
  exact Nat.div_mul_le_self _ _
 have l1:(ap (ab m / 2 ^ n)).length≤m.length:=fy (Nat.lt_of_le_of_lt (Nat.div_le_self _ _) (bD hb))
 have l2:(ap (ab m / 2 ^ n*2 ^ k)).length≤m.length:=fy (Nat.lt_of_le_of_lt hle (bD hb))
 have hl:=qV (aL (ab m / 2 ^ n)) (by omega) (k:=k) (by omega) (by rw [aD]; omega)
 rw [aD] at hl
 have hc:=tI (aL (ab m / 2 ^ n*2 ^ k)) hb (by omega) (by omega)
 rw [aD] at hc
 have hz:decide (ab m % 2 ^ n ≠ 0) = !decide (aT (ab m / 2 ^ n*2 ^ k) (ab m)=0):=by
  rw [← decide_not,decide_eq_decide,ne_eq,not_congr (Qy.trans q2)]
 rw [hz]
 generalize aT (ab m / 2 ^ n*2 ^ k) (ab m)=c at hc ⊢
 by_cases h:af (ab m) < n
 ·have e2:k=af (ab m):=by omega
  have e1:((k:Int) < n)=True:=tt (by omega)
  rw [← e2] at hB
  simp only [kF,sP,go_sem,↓reduceIte,alS,alU,alT,alV,hB,e1,hs,hl,hc]
 ·have e1:(((af (ab m):Nat):Int) < n)=False:=ff (by omega)
  have e2:k=n:=by omega
  subst e2
  simp only [kF,sP,go_sem,↓reduceIte,alS,alU,alT,alV,hB,e1,hs,hl,hc]
end Go.Ab
namespace Go.Ab
open Go Go.IntWalk
set_option maxRecDepth 4000
def iT (l:List Rd):List (List AV):=l.map am
def bG (l:List Rd):AV := .sl 3 (iT l)
@[go_sem] theorem aiZ (l:List Rd):(iT l).length=l.length:=by simp [iT]
theorem x5 {l:List Rd} {i:Int} {n:Nat} {d:Rd} (hi:i=n) (h:l[n]?=some d):aN (iT l) i=some (.ipt (am d)):=by
 subst hi
 simp [aN,iT,h]
theorem Od (p:Int) (l:List Rd) (ok:∀ d ∈ l,Ok0 d) (h2:l.length≤100000):∀ (k i:Nat),i+k=l.length→∀ (s:aj) (h:ac),s 0=I p→s 7=bG l→s 8=I l.length→s 9=I i →
  ∃ hh,au 0 [0] (aq (ak R (ae false) gq) [0,7,8,9] [] s h)=if ((l.drop i).all vd)=true then some (.normal,⟨upd (fun _ => .any) 0 (I p),fun _ => .dead⟩) else some (.ret,⟨upd (fun _ => .any) 4 (I 1),hh⟩):=by
 intro k
 induction k with
 | zero =>
  intro i hi s h h0 h7 h8 h9
  have e1:((i:Int) < l.length)=False:=ff (by omega)
  rw [List.drop_eq_nil_of_le (by omega),ao,List.all_nil,if_pos rfl]
  refine ⟨fun _ => .dead,?_⟩
  simp only [gq,go_sem,↓reduceIte,alS,h0,h7,h8,h9,e1]
 | succ k ih =>
  intro i hi s h h0 h7 h8 h9
  have hlt:i < l.length:=by omega
  have e1:((i:Int) < l.length)=True:=tt (by omega)
  have e2:aN (iT l) (i:Int)=some (.ipt (am l[i])):=x5 rfl (List.getElem?_eq_getElem hlt)
  have e5:IntKind.i64.wrap ((i:Int)+1)=((i+1:Nat):Int):=wi (by omega) (by omega)
  have e3:=gx (ok l[i] (List.getElem_mem hlt))
  rw [List.drop_eq_getElem_cons hlt,List.all_cons,ao]
  have ih':=ih (i+1) (by omega)
  generalize l[i]=d at e2 e3 ⊢
  simp only [ai] at e3
  simp only [am] at e2 e3
  generalize aq _ _ _=L at ih' ⊢
  cases hv:vd d with
  | false =>
   rw [hv] at e3
   refine ⟨?hh,?_⟩
   rotate_left
   rw [Bool.false_and,if_neg Bool.false_ne_true]
   simp only [gq,go_sem,↓reduceIte,alS,alU,alT,alV,h0,h7,h8,h9,bG,e1,e2,e3]
   rfl
  | true =>
   rw [hv] at e3
   rw [Bool.true_and]
   simp only [gq,go_sem,↓reduceIte,alS,alU,alT,alV,h0,h7,h8,h9,bG,e1,e2,e3,e5]
   exact ih' _ _ rfl rfl rfl rfl
def bj (p:Int) (l:List Rd):Int:=if l.all vd=true then (if 8≤p∧p≤512 then 0 else 2) else 1
theorem AH {p:Int} {l:List Rd} (ok:∀ d ∈ l,Ok0 d) (h2:l.length≤100000):R F.round_fault [I p,bG l] []=some (I (bj p l),[]):=by
 refine aB GE GD (Ap false) rfl ?_
 have h3:=Od p l ok h2 l.length 0 (Nat.zero_add _)
 simp only [List.drop_zero,Int.natCast_zero] at h3
 unfold bj
 cases ha:l.all vd with
 | false =>
  rw [ha] at h3
  simp only [if_neg (fun h:false=true=>nomatch h)] at h3 ⊢
  simp only [ge,mC,go_sem,↓reduceIte,alS,bG]
  rw [(h3 _ _ rfl rfl rfl rfl).choose_spec]
  simp only [go_sem,↓reduceIte]
 | true =>
  rw [ha] at h3
  simp only [] at h3 ⊢
  by_cases hp:8≤p∧p≤512
  ·have e1:(decide (8≤p) && decide (p≤512))=true:=by rw [decide_eq_true hp.1,decide_eq_true hp.2]; rfl
   have e2:=Ch (p:=p)
   rw [e1] at e2
   rw [if_pos hp]
   simp only [ge,mC,go_sem,↓reduceIte,alS,bG]
   rw [(h3 _ _ rfl rfl rfl rfl).choose_spec]
   simp only [go_sem,↓reduceIte,alU,alT,e2]
  ·have e1:(decide (8≤p) && decide (p≤512))=false:=by
    by_cases h8:8≤p
    ·rw [decide_eq_false (p:=p≤512) (fun h=>hp ⟨h8,h⟩),Bool.and_false]
    ·rw [decide_eq_false h8,Bool.false_and]
   have e2:=Ch (p:=p)
   rw [e1] at e2
   rw [if_neg hp]
   simp only [ge,mC,go_sem,↓reduceIte,alS,bG]
   rw [(h3 _ _ rfl rfl rfl rfl).choose_spec]
   simp only [go_sem,↓reduceIte,alU,alT,e2]
end Go.Ab
namespace Go.Ab
open Go Go.IntWalk
set_option maxRecDepth 4000
def b6:Cmd := .seq (.seq (.ops [1,2,6,8,9,55] [cm 52 2,cm 53 52,cg 54 53 true (.mv (.t 10)),co 55 (.pick (.t 53) (.t 54) (.c (.v (.bool false))))]) (.cond (.t 55) (.ops [1,2,6,8,9] [cm 57 9,⟨(some 58),none,.buildSl 1 [(.v (.int .u32 0))] 1 [(0,(.c (.v (.int .u32 1))))]⟩,⟨(some 59),none,.call (.c (.fn F.natural_Add [] [])) [(.t 57),(.t 58)]⟩,cm 56 59,co 60 (.ext 0 (.t 56)),co 61 (.ext 1 (.t 56)),cm 9 60]) (.skip))) (.seq (.seq (.ops [1,2,6,8,9,66] [cm 62 9,⟨(some 63),none,.call (.c (.fn F.natural_Bits [] [])) [(.t 62)]⟩,cm 64 8,co 65 (.bin .add (.t 63) (.t 64)),co 66 (.bin .gtr (.t 65) (.c (.v (.int .i64 16384))))]) (.cond (.t 66) (.seq (.seq (.ops [1,6,67] [cm 67 2]) (.cond (.t 67) (.seq (.ops [6,7] [co 68 (.build [(.v (.bool false)),.emp,(.v (.int .i64 0))] []),⟨none,none,.store 3 (.t 6) (.t 68)⟩,co 7 (.mv (.c (.v (.int .i64 9))))]) (.ret)) (.skip))) (.seq (.ops [1,6,9] [⟨(some 70),none,.buildSl 1 [(.v (.int .u32 0))] 1 [(0,(.c (.v (.int .u32 1))))]⟩,cm 71 1,⟨(some 72),none,.call (.c (.fn F.round_shl [] [])) [(.t 70),(.t 71)]⟩,⟨(some 73),none,.buildSl 1 [(.v (.int .u32 0))] 1 [(0,(.c (.v (.int .u32 1))))]⟩,⟨(some 74),none,.call (.c (.fn F.natural_Sub [] [])) [(.t 72),(.t 73)]⟩,cm 69 74,co 75 (.ext 0 (.t 69)),co 76 (.ext 1 (.t 69)),cm 9 75]) (.ops [6,8,9] [cm 77 1,co 78 (.bin .sub (.c (.v (.int .i64 16384))) (.t 77)),cm 8 78]))) (.skip))) (.seq (.ops [6,7] [cm 79 9,cm 80 8,⟨(some 81),none,.call (.c (.fn F.dyadic_Make [] [])) [(.c (.v (.bool false))),(.t 79),(.t 80)]⟩,co 82 (.ext 0 (.t 81)),co 83 (.ext 1 (.t 81)),⟨none,none,.store 3 (.t 6) (.t 82)⟩,cm 7 83]) (.ret)))
theorem mW:ze = .seq (.ops [1,2,3,6] [⟨(some 3),none,.box 3 (.t 0)⟩,⟨(some 6),none,.alloc [(.v (.bool false)),.emp,(.v (.int .i64 0))]⟩,co 7 (.mv (.c (.v (.int .i64 0))))]) (.seq (.dops [1,2,3,6,8] [co 13 (.fadr 1 (.t 3)),⟨(some 14),none,.load 1 false (.t 13)⟩,co 15 (.fadr 0 (.t 3)),⟨(some 16),none,.load 1 false (.t 15)⟩,⟨(some 17),none,.call (.c (.fn F.natural_Bits [] [])) [(.t 16)]⟩,co 18 (.bin .add (.t 14) (.t 17)),cm 19 1,co 20 (.bin .sub (.t 18) (.t 19)),co 21 (.mnx false (.t 20) [(.c (.v (.int .i64 (-16384))))]),cm 8 21] [(1,4)]) (.seq (.dops [1,2,3,6,8,10] [co 22 (.fadr 0 (.t 3)),⟨(some 23),none,.load 1 false (.t 22)⟩,co 24 (.fadr 2 (.t 3)),⟨(some 25),none,.load 1 false (.t 24)⟩,cm 9 23,cm 10 25] []) (.seq (.seq (.ops [1,2,3,6,8,10,29] [co 26 (.fadr 1 (.t 3)),⟨(some 27),none,.load 1 false (.t 26)⟩,cm 28 8,co 29 (.bin .geq (.t 27) (.t 28))]) (.cond (.t 29) (.ops [1,2,6,8,9,10] [co 30 (.fadr 0 (.t 3)),⟨(some 31),none,.load 1 false (.t 30)⟩,co 32 (.fadr 1 (.t 3)),⟨(some 33),none,.load 1 false (.t 32)⟩,cm 34 8,co 35 (.bin .sub (.t 33) (.t 34)),⟨(some 36),none,.call (.c (.fn F.round_shl [] [])) [(.t 31),(.t 35)]⟩,cm 9 36]) (.seq (.ops [1,2,6,8,10,11,12] [co 38 (.fadr 0 (.t 3)),⟨(some 39),none,.load 1 false (.t 38)⟩,cm 40 8,co 41 (.fadr 1 (.t 3)),⟨(some 42),none,.load 1 false (.t 41)⟩,co 43 (.bin .sub (.t 40) (.t 42)),⟨(some 44),none,.call (.c (.fn F.round_shr [] [])) [(.t 39),(.t 43)]⟩,cm 37 44,co 45 (.ext 0 (.t 37)),co 46 (.ext 1 (.t 37)),cm 11 45,cm 12 46]) (.ops [1,2,6,8,9,10] [cm 47 11,cm 48 10,cm 49 48,cg 50 49 false (.mv (.t 12)),co 51 (.pick (.t 49) (.c (.v (.bool true))) (.t 50)),cm 9 47,cm 10 51])))) b6))):=rfl
def cL (M:Nat) (e:Int) (p:Int):Int:=if e+(af M:Nat) - p < -16384 then -16384 else e+(af M:Nat) - p
def kJ (M:Nat) (e:Int) (more:Bool) (u:Int):Nat × Bool:=if u≤e then (M*2 ^ (e - u).toNat,more) else (M / 2 ^ (u - e).toNat,more || decide (M % 2 ^ (u - e).toNat ≠ 0))
def ic (up:Bool) (q:Nat × Bool):Nat:=if (up && q.2)=true then q.1+1 else q.1
def qN (q:Nat) (u:Int):AV:=uP (aV false q u)
def Ja (p:Int) (up:Bool) (q:Nat) (u:Int):AV:=if 16384 < (af q:Nat)+u then (if up=true then .tup [ai aH,I 9] else qN (2 ^ p.toNat - 1) (16384 - p)) else qN q u
theorem L6 {q:Nat} {u:Int} (hq:af q≤8192) (h1 : -32768≤u) (h2:u≤32768):R F.dyadic_Make [B false,lm (ap q),I u] []=some (qN q u,[]):=by
 have hl:(ap q).length≤256:=aJ (by omega)
 rw [VN (aL q) (Nat.lt_of_le_of_lt hl (by decide)),if_neg (by omega),aD]
 rfl
theorem Qz {q:Nat} (hq:af q≤8000):R F.natural_Add [lm (ap q),lm [1]] []=some (.tup [lm (ap (q+1)),I 0],[]):=by
 have hl:(ap q).length≤250:=aJ (by omega)
 have h1:Lb [1]:=fun x hx=>by
  rw [List.mem_singleton.1 hx]
  decide
 have h2:af (q+1)≤8001:=AE hq
 have hl2:(ap (q+1)).length≤256:=aJ (by omega)
 rw [Qp (aL q) h1 (by omega) (by decide),aD]
 show some (fq (q+1),[])=_
 rw [fq,if_neg (by omega)]
theorem o5:ab [1]=1:=rfl
theorem xj:Lb [1]:=fun x hx=>by
 rw [List.mem_singleton.1 hx]
 decide
theorem X8 (n:Nat) (hn:n≤1000):R F.round_shl [lm [1],I (n:Nat)] []=some (lm (ap (2 ^ n)),[])∧R F.natural_Sub [lm (ap (2 ^ n)),lm [1]] []=some (.tup [lm (ap (2 ^ n - 1)),I 0],[]):=by
 have hb:af (2 ^ n)≤n+1:=by
  rw [bh]
  exact Nat.pow_lt_pow_right (by decide) (Nat.lt_succ_self n)
 have h1:(ap (2 ^ n)).length≤256:=aJ (by omega)
 have h2:=qV xj (by decide) (k:=n) (by omega) (by rw [o5,Nat.one_mul]; exact h1)
 rw [o5,Nat.one_mul] at h2
 have h3:=Qr (aL (2 ^ n)) xj h1 (by decide)
 have h4:0 < 2 ^ n:=Nat.two_pow_pos n
 have h5:af (2 ^ n - 1)≤n:=by
  rw [bh]
  omega
 have h6:(ap (2 ^ n - 1)).length≤256:=aJ (by omega)
 rw [aD,o5,if_neg (by omega),fq,if_neg (by omega)] at h3
 exact ⟨h2,h3⟩
theorem oA:AV.sl 1 [[AV.v (.int .u32 1)]]=lm [1]:=rfl
theorem AI {n:Nat} {u:Int} {up more:Bool} {q:Nat} (hp:8≤n∧n≤512) (hq:af q≤7000) (hu : -16384≤u∧u≤60000) (s:aj) (z:Ob)
  (h1:s 1=I (n:Nat)) (h2:s 2=B up) (h6:s 6 = .ref 6 none 0 0 0) (h8:s 8=I u) (h9:s 9=lm (ap q)) (h10:s 10=B more) :
  iY false [[.o 0 [],.o 2 [],.o 0 []],[]] [.cell 6 3 true,.t 7] 0 (ak R (ae false) b6 s (upd (upd (fun _ => .dead) 3 z) 6 (.bx [.v (.bool false),.emp,.v (.int .i64 0)])))=some (Ja (n:Nat) up (ic up (q,more)) u,[]):=by
 have hi:=Qz (q:=q) (by omega)
 obtain ⟨t1,t2⟩:=X8 n (by omega)
 have hb:af (ic up (q,more))≤7001:=by
  unfold ic
  split
  ·exact AE hq
  ·exact Nat.le_trans hq (by decide)
 have hB:=x3 (aL (ic up (q,more))) (Nat.le_trans (aJ (k:=256) (by omega)) (by decide))
 rw [aD] at hB
 have w1:IntKind.i64.wrap (((af (ic up (q,more)):Nat):Int)+u)=((af (ic up (q,more)):Nat):Int)+u:=i64_in _ ⟨by omega,by omega⟩
 have w2:IntKind.i64.wrap (16384 - (n:Int))=16384 - (n:Int):=i64_in _ ⟨by omega,by omega⟩
 have hm2:R F.dyadic_Make [B false,lm (ap (2 ^ n - 1)),I (16384 - (n:Int))] []=some (qN (2 ^ n - 1) (16384 - (n:Int)),[]):=L6 (S2 (by omega)) (by omega) (by omega)
 unfold Ja
 by_cases ho:16384 < ((af (ic up (q,more)):Nat):Int)+u
 ·have e1:(16384 < ((af (ic up (q,more)):Nat):Int)+u)=True:=tt ho
  rw [if_pos ho,Int.toNat_natCast]
  clear ho hb
  cases up with
  | false =>
   simp only [ic,Bool.false_and,if_neg Bool.false_ne_true] at hB w1 e1 ⊢
   unfold qN uP at hm2 ⊢
   generalize aV false (2 ^ n - 1) (16384 - (n:Int))=dd at hm2 ⊢
   simp only [ai,am] at hm2
   cases hv:iS (af (ab dd.m)) dd.e with
   | true =>
    rw [hv] at hm2
    rw [if_pos rfl] at hm2 ⊢
    simp only [b6,ai,am,go_sem,↓reduceIte,alS,alU,alT,alV,alW,h1,h2,h6,h8,h9,h10,hB,w1,e1,w2,t1,t2,oA,hm2]
   | false =>
    rw [hv] at hm2
    rw [if_neg Bool.false_ne_true] at hm2 ⊢
    simp only [b6,ai,am,aH,go_sem,↓reduceIte,alS,alU,alT,alV,alW,h1,h2,h6,h8,h9,h10,hB,w1,e1,w2,t1,t2,oA,hm2]
  | true =>
   cases more with
   | false =>
    simp only [ic,Bool.and_false,if_neg Bool.false_ne_true] at hB w1 e1 ⊢
    simp only [b6,ai,am,aH,go_sem,↓reduceIte,alS,alU,alT,alV,alW,h1,h2,h6,h8,h9,h10,hB,w1,e1]
   | true =>
    simp only [ic,Bool.and_true,if_true] at hB w1 e1 ⊢
    simp only [b6,ai,am,aH,go_sem,↓reduceIte,alS,alU,alT,alV,alW,h1,h2,h6,h8,h9,h10,hB,w1,e1,hi,oA]
 ·have e1:(16384 < ((af (ic up (q,more)):Nat):Int)+u)=False:=ff ho
  rw [if_neg ho]
  have hm:=L6 (q:=ic up (q,more)) (u:=u) (by omega) (by omega) (by omega)
  clear ho hb
  cases up with
  | false =>
   simp only [ic,Bool.false_and,if_neg Bool.false_ne_true] at hB w1 e1 hm ⊢
   unfold qN uP at hm ⊢
   generalize aV false q u=dd at hm ⊢
   simp only [ai,am] at hm
   cases hv:iS (af (ab dd.m)) dd.e with
   | true =>
    rw [hv] at hm
    rw [if_pos rfl] at hm ⊢
    simp only [b6,ai,am,go_sem,↓reduceIte,alS,alU,alT,alV,alW,h1,h2,h6,h8,h9,h10,hB,w1,e1,hm]
   | false =>
    rw [hv] at hm
    rw [if_neg Bool.false_ne_true] at hm ⊢
    simp only [b6,ai,am,aH,go_sem,↓reduceIte,alS,alU,alT,alV,alW,h1,h2,h6,h8,h9,h10,hB,w1,e1,hm]
  | true =>
   cases more with
   | false =>
    simp only [ic,Bool.and_false,if_neg Bool.false_ne_true] at hB w1 e1 hm ⊢
    unfold qN uP at hm ⊢
    generalize aV false q u=dd at hm ⊢
    simp only [ai,am] at hm
    cases hv:iS (af (ab dd.m)) dd.e with
    | true =>
     rw [hv] at hm
     rw [if_pos rfl] at hm ⊢
     simp only [b6,ai,am,go_sem,↓reduceIte,alS,alU,alT,alV,alW,h1,h2,h6,h8,h9,h10,hB,w1,e1,hm]
    | false =>
     rw [hv] at hm
     rw [if_neg Bool.false_ne_true] at hm ⊢
     simp only [b6,ai,am,aH,go_sem,↓reduceIte,alS,alU,alT,alV,alW,h1,h2,h6,h8,h9,h10,hB,w1,e1,hm]
   | true =>
    simp only [ic,Bool.and_true,if_true] at hB w1 e1 hm ⊢
    unfold qN uP at hm ⊢
    generalize aV false (q+1) u=dd at hm ⊢
    simp only [ai,am] at hm
    cases hv:iS (af (ab dd.m)) dd.e with
    | true =>
     rw [hv] at hm
     rw [if_pos rfl] at hm ⊢
     simp only [b6,ai,am,go_sem,↓reduceIte,alS,alU,alT,alV,alW,h1,h2,h6,h8,h9,h10,hB,w1,e1,hi,oA,hm]
    | false =>
     rw [hv] at hm
     rw [if_neg Bool.false_ne_true] at hm ⊢
     simp only [b6,ai,am,aH,go_sem,↓reduceIte,alS,alU,alT,alV,alW,h1,h2,h6,h8,h9,h10,hB,w1,e1,hi,oA,hm]
theorem X9 {M:List Nat} (hb:Lb M) (hl:M.length≤256) {e:Int} {n:Nat} {more up:Bool} (he : -40000≤e∧e≤40000) (hp:8≤n∧n≤512):R F.round_cut [oz M e more,I (n:Nat),B up] []=some (Ja (n:Nat) up (ic up (kJ (ab M) e more (cL (ab M) e (n:Nat)))) (cL (ab M) e (n:Nat)),[]):=by
 refine aB Lv Lu (DT false) rfl ?_
 have hB:=x3 hb (Nat.le_trans hl (by decide))
 have hlen:=rN hb
 have w1:IntKind.i64.wrap (e+(af (ab M):Nat))=e+(af (ab M):Nat):=i64_in _ ⟨by omega,by omega⟩
 have w2:IntKind.i64.wrap (e+(af (ab M):Nat) - (n:Nat))=e+(af (ab M):Nat) - (n:Nat):=i64_in _ ⟨by omega,by omega⟩
 obtain ⟨u,hu⟩:∃ u,cL (ab M) e (n:Nat)=u:=⟨_,rfl⟩
 rw [hu]
 unfold cL at hu
 unfold kJ
 have hu1 : -16384≤u∧e+(af (ab M):Nat) - (n:Nat)≤u∧(u = -16384∨u=e+(af (ab M):Nat) - (n:Nat)):=by
  split at hu <;> omega
 by_cases hc:u≤e
 ·have e1:(u≤e)=True:=tt hc
  rw [if_pos hc]
  have w3:IntKind.i64.wrap (e - u)=(((e - u).toNat:Nat):Int):=wi (by omega) (by omega)
  have hq:af (ab M*2 ^ (e - u).toNat)≤7000:=by
   by_cases h0:ab M=0
   ·rw [h0,Nat.zero_mul]
    exact Nat.zero_le _
   ·rw [cT _ h0]
    omega
  by_cases h64:(e - u).toNat≤65536
  ·have hs:=qV hb (by omega) (k:=(e - u).toNat) h64 (aJ (by omega))
   simp only [iI,mW,oz,go_sem,↓reduceIte,alS,alU,alT,alW,alX,hB,w1,w2,hu,e1,w3,hs]
   exact AI hp hq (by omega) _ _ rfl rfl rfl rfl rfl rfl
  ·omega
 ·have e1:(u≤e)=False:=ff hc
  rw [if_neg hc]
  have w3:IntKind.i64.wrap (u - e)=(((u - e).toNat:Nat):Int):=wi (by omega) (by omega)
  have hs:=DY hb (by omega) (n:=(u - e).toNat) (by omega)
  have hq:af (ab M / 2 ^ (u - e).toNat)≤7000:=by
   rw [di]
   omega
  cases more with
  | false =>
   rw [Bool.false_or]
   simp only [iI,mW,oz,go_sem,↓reduceIte,alS,alU,alT,alV,alW,alX,hB,w1,w2,hu,e1,w3,hs]
   exact AI hp hq (by omega) _ _ rfl rfl rfl rfl rfl rfl
  | true =>
   rw [Bool.true_or]
   simp only [iI,mW,oz,go_sem,↓reduceIte,alS,alU,alT,alV,alW,alX,hB,w1,w2,hu,e1,w3,hs]
   exact AI hp hq (by omega) _ _ rfl rfl rfl rfl rfl rfl
end Go.Ab
namespace Go.Ab
open Go Go.IntWalk
set_option maxRecDepth 4000
def dj (d:Rd):Rd × Int:=if iS (af (ab d.m)) d.e=true then (d,0) else (aH,9)
def oB (p:Int) (up:Bool) (q:Nat) (u:Int):Rd × Int:=if 16384 < (af q:Nat)+u then (if up=true then (aH,9) else dj (aV false (2 ^ p.toNat - 1) (16384 - p))) else dj (aV false q u)
def rV (r:Rd × Int):AV := .tup [ai r.1,I r.2]
theorem DZ (d:Rd):uP d=rV (dj d):=by
 unfold uP dj
 split <;> rfl
theorem VQ (p:Int) (up:Bool) (q:Nat) (u:Int):Ja p up q u=rV (oB p up q u):=by
 unfold Ja oB qN
 split
 ·split
  ·rfl
  ·exact DZ _
 ·exact DZ _
theorem AJ (n:Nat):af (2 ^ n - 1)≤n:=by
 rw [bh]
 have:=Nat.two_pow_pos n
 omega
theorem VR (p:Int) (up:Bool) (q:Nat) (u:Int):Lb (oB p up q u).1.m:=by
 have h0:Lb aH.m:=fun x hx=>nomatch hx
 have hc:∀ d:Rd,Lb d.m→Lb (dj d).1.m:=fun d hd=>by
  unfold dj
  split
  ·exact hd
  ·exact h0
 unfold oB
 split
 ·split
  ·exact h0
  ·exact hc _ (o4 _ _ _)
 ·exact hc _ (o4 _ _ _)
theorem S9 (p:Int) (up:Bool) (q:Nat) (u:Int) (hp:p.toNat≤8000) (hq:af q≤8000):(oB p up q u).1.m.length≤256:=by
 have h0:aH.m.length≤256:=Nat.zero_le _
 have hc:∀ d:Rd,d.m.length≤256→(dj d).1.m.length≤256:=fun d hd=>by
  unfold dj
  split
  ·exact hd
  ·exact h0
 unfold oB
 split
 ·split
  ·exact h0
  ·exact hc _ (rM (Nat.le_trans (AJ _) (by omega)))
 ·exact hc _ (rM (by omega))
def oC (d:Rd):Rd:=if vd d=false∨d.m.length=0 then aH else ⟨!d.neg,d.m,d.e⟩
def gC (M:Nat) (e:Int) (more:Bool) (p:Int) (up:Bool):Rd × Int:=oB p up (ic up (kJ M e more (cL M e p))) (cL M e p)
def hJ (neg:Bool) (r:Rd × Int):Rd × Int:=if r.2=0∧neg=true then (oC r.1,r.2) else r
theorem QA {M:Nat} {e:Int} {more up:Bool} {n:Nat} (hM:af M≤8192) (hp:8≤n∧n≤512) (he : -40000≤e∧e≤40000):af (ic up (kJ M e more (cL M e (n:Nat))))≤7001:=by
 have hq:af (kJ M e more (cL M e (n:Nat))).1≤7000:=by
  obtain ⟨u,hu⟩:∃ u,cL M e (n:Nat)=u:=⟨_,rfl⟩
  rw [hu]
  unfold cL at hu
  have hu1 : -16384≤u∧e+(af M:Nat) - (n:Nat)≤u∧(u = -16384∨u=e+(af M:Nat) - (n:Nat)):=by
   split at hu <;> omega
  unfold kJ
  split
  ·by_cases h0:M=0
   ·rw [h0,Nat.zero_mul]
    exact Nat.zero_le _
   ·rw [cT _ h0]
    omega
  ·rw [di]
   omega
 generalize kJ M e more (cL M e (n:Nat))=q at hq ⊢
 unfold ic
 split
 ·exact AE hq
 ·exact Nat.le_trans hq (by decide)
theorem Ff {M:List Nat} (hb:Lb M) (hl:M.length≤256) {e:Int} {n:Nat} {more up neg:Bool} (he : -40000≤e∧e≤40000) (hp:8≤n∧n≤512):R F.round_signed [B neg,oz M e more,I (n:Nat),B up] []=some (rV (hJ neg (gC (ab M) e more (n:Nat) (up != neg))),[]):=by
 refine aB DN DM (yz false) rfl ?_
 have hc:=X9 (more:=more) (up:=up != neg) hb hl he hp
 have hlen:=rN hb
 have hB:=QA (M:=ab M) (e:=e) (more:=more) (up:=up != neg) (by omega) hp he
 rw [VQ] at hc
 have hL:=VR (n:Nat) (up != neg) (ic (up != neg) (kJ (ab M) e more (cL (ab M) e (n:Nat)))) (cL (ab M) e (n:Nat))
 have hN:=S9 (n:Nat) (up != neg) (ic (up != neg) (kJ (ab M) e more (cL (ab M) e (n:Nat)))) (cL (ab M) e (n:Nat)) (by omega) (by omega)
 unfold gC
 generalize oB (n:Nat) (up != neg) (ic (up != neg) (kJ (ab M) e more (cL (ab M) e (n:Nat)))) (cL (ab M) e (n:Nat))=r at hc hL hN ⊢
 obtain ⟨d,x⟩:=r
 have hn:=X7 (d:=d) ⟨hL,Nat.lt_of_le_of_lt hN (by decide)⟩
 simp only [rV,ai,am,oz] at hc hn
 unfold hJ oC
 by_cases hx:x=0
 ·have e1:(x=0)=True:=tt hx
  cases neg with
  | false =>
   rw [if_neg (fun h=>nomatch h.2)]
   simp only [fp,lB,rV,ai,am,oz,go_sem,↓reduceIte,alS,alU,alT,alV,jD,hc,e1]
  | true =>
   rw [if_pos ⟨hx,rfl⟩]
   generalize (if vd d=false∨d.m.length=0 then aH else (⟨!d.neg,d.m,d.e⟩:Rd))=d2 at hn ⊢
   simp only [fp,lB,rV,ai,am,oz,go_sem,↓reduceIte,alS,alU,alT,alV,jD,hc,e1,hn]
 ·have e1:(x=0)=False:=ff hx
  rw [if_neg (fun h=>hx h.1)]
  simp only [fp,lB,rV,ai,am,oz,go_sem,↓reduceIte,alS,alU,alT,alV,jD,hc,e1]
end Go.Ab
namespace Go.Ab
open Go Go.IntWalk
set_option maxRecDepth 4000
def pS (d:Rd) (p:Int) (up:Bool):Rd × Int:=if bj p [d]=0 then hJ d.neg (gC (ab d.m) d.e false p (up != d.neg)) else (aH,bj p [d])
theorem pT {p:Int} {l:List Rd} (h:bj p l=0):l.all vd=true∧8≤p∧p≤512:=by
 unfold bj at h
 split at h
 ·rename_i h1
  split at h
  ·rename_i h2
   exact ⟨h1,h2⟩
  ·exact nomatch h
 ·exact nomatch h
theorem tL {d:Rd} (h:vd d=true) (hb:Lb d.m):d.m.length≤128:=by
 obtain ⟨h1,h2,h3,h4⟩:=dS h hb
 by_cases h0:d.m.length=0
 ·omega
 obtain ⟨g1,g2,g3,g4⟩:=pR h h0
 have h5:4294967296 ^ (d.m.length - 1)≤ab d.m:=by
  have h6:=vH (a:=d.m) (i:=d.m.length - 1) (by omega)
  rw [show d.m.length - 1+1=d.m.length by omega,List.take_length] at h6
  rw [h6]
  exact Nat.le_trans (Nat.le_mul_of_pos_right _ (Nat.pos_of_ne_zero g3)) (Nat.le_add_left _ _)
 have h7:32*(d.m.length - 1) < af (ab d.m):=by
  rw [iK,Nat.pow_mul]
  exact h5
 omega
theorem Jb {d:Rd} (ok:Ok0 d) {p:Int} {up:Bool}:R F.round_round [ai d,I p,B up] []=some (rV (pS d p up),[]):=by
 refine aB GG GF (Aq false) rfl ?_
 have hf:R F.round_fault [I p,.sl 3 [[B d.neg,lm d.m,I d.e]]] []=some (I (bj p [d]),[]):=AH (p:=p) (l:=[d]) (fun x hx=>by rw [List.mem_singleton.1 hx]; exact ok) (show 1≤100000 by decide)
 unfold pS
 by_cases h0:bj p [d]=0
 ·obtain ⟨v1,v2,v3⟩:=pT h0
  have v4:vd d=true:=by simpa using v1
  obtain ⟨h1,h2,h3,h4⟩:=dS v4 ok.lb
  have h5:=tL v4 ok.lb
  rw [if_pos h0]
  rw [h0] at hf
  obtain ⟨n,rfl⟩:=Int.eq_ofNat_of_zero_le (show 0≤p by omega)
  have hs:=Ff (M:=d.m) (e:=d.e) (n:=n) (more:=false) (up:=up) (neg:=d.neg) ok.lb (by omega) ⟨by omega,by omega⟩ ⟨by omega,by omega⟩
  have ho:=aaP (d:=d)
  generalize hJ d.neg (gC (ab d.m) d.e false (n:Nat) (up != d.neg))=r at hs ⊢
  simp only [rV,ai,am,oz] at hs ho
  simp only [iD,qe,rV,ai,am,go_sem,↓reduceIte,alS,alU,alT,alV,alW,alX,hf,hs,ho]
 ·have e1:(bj p [d]=0)=False:=ff h0
  rw [if_neg h0]
  simp only [iD,qe,rV,ai,am,aH,go_sem,↓reduceIte,alS,alU,alT,alV,alW,hf,e1]
end Go.Ab
namespace Go.Ab
open Go Go.IntWalk
set_option maxRecDepth 4000
end Go.Ab
namespace Go.Ab
open Go Go.IntWalk
set_option maxRecDepth 4000
end Go.Ab
namespace Go.Ab
open Go Go.IntWalk
set_option maxRecDepth 4000
def lX (a b:Rd) (p:Int):Int :=
 if aK a - aK b≤2 then (if b.e < (if aK a - p - 8 < a.e then aK a - p - 8 else a.e) then b.e else (if aK a - p - 8 < a.e then aK a - p - 8 else a.e))
 else (if aK a - p - 8 < a.e then aK a - p - 8 else a.e)
def yZ (b:Rd) (l:Int):Nat × Bool:=if l≤b.e then (ab b.m*2 ^ (b.e - l).toNat,false) else (ab b.m / 2 ^ (l - b.e).toNat,decide (ab b.m % 2 ^ (l - b.e).toNat ≠ 0))
def kg (y:Nat × Bool):Nat:=if y.2=true then y.1+1 else y.1
def qj (a b:Rd) (p:Int):(Nat × Int × Bool) × Bool :=
 let l:=lX a b p
 let x:=ab a.m*2 ^ (a.e - l).toNat
 let y:=yZ b l
 if a.neg=b.neg then ((x+y.1,l,y.2),false)
 else if x < kg y then ((kg y - x,l,false),true)
 else ((x - kg y,l,y.2),false)
theorem D0 {a b:Rd} {p:Int}:lX a b p≤a.e:=by
 unfold lX
 have h:(if aK a - p - 8 < a.e then aK a - p - 8 else a.e)≤a.e:=by
  split <;> omega
 generalize (if aK a - p - 8 < a.e then aK a - p - 8 else a.e)=z at h ⊢
 split
 ·split <;> omega
 ·exact h
theorem ia {d:Rd} (h:vd d=true) (h0:d.m.length ≠ 0):aK d=(af (ab d.m):Nat)+d.e:=by
 rw [aK,if_neg (fun h'=>h'.elim (fun h''=>by rw [h] at h''; exact nomatch h'') h0)]
theorem AK {a b:Rd} {p:Int} (va:vd a=true) (vb:vd b=true) (la:Lb a.m) (lb:Lb b.m) (na:a.m.length ≠ 0) (nb:b.m.length ≠ 0) (hp:8≤p∧p≤512) (ht:aK b≤aK a) :
  aK a - lX a b p≤4098:=by
 obtain ⟨a1,a2,a3,a4⟩:=dS va la
 obtain ⟨b1,b2,b3,b4⟩:=dS vb lb
 have e1:=ia va na
 have e2:=ia vb nb
 unfold lX
 have h:aK a - (if aK a - p - 8 < a.e then aK a - p - 8 else a.e)≤4098:=by
  split <;> omega
 generalize (if aK a - p - 8 < a.e then aK a - p - 8 else a.e)=z at h ⊢
 split
 ·split <;> omega
 ·exact h
end Go.Ab
namespace Go.Ab
open Go Go.IntWalk
set_option maxRecDepth 4000
def fA:Cmd := .seq (.seq (.ops [6,8,9,10,11,68] [co 64 (.fadr 0 (.t 3)),⟨(some 65),none,.load 1 false (.t 64)⟩,co 66 (.fadr 0 (.t 4)),⟨(some 67),none,.load 1 false (.t 66)⟩,co 68 (.eqc false 0 (.t 65) (.t 67))]) (.cond (.t 68) (.seq (.ops [6,8,11,12] [cm 70 9,cm 71 10,⟨(some 72),none,.call (.c (.fn F.natural_Add [] [])) [(.t 70),(.t 71)]⟩,cm 69 72,co 73 (.ext 0 (.t 69)),co 74 (.ext 1 (.t 69)),cm 12 73,cm 13 74]) (.seq (.ops [6,7] [cm 75 12,cm 76 8,cm 77 11,co 78 (.build [.emp,(.v (.int .i64 0)),(.v (.bool false))] [(0,1,(.t 75)),(1,1,(.t 76)),(2,1,(.t 77))]),⟨none,none,.store 3 (.t 6) (.t 78)⟩,co 7 (.mv (.c (.v (.bool false))))]) (.ret))) (.skip))) (.seq (.seq (.ops [6,8,9,10,11,79] [cm 79 11]) (.cond (.t 79) (.ops [6,8,9,10,11] [cm 81 10,⟨(some 82),none,.buildSl 1 [(.v (.int .u32 0))] 1 [(0,(.c (.v (.int .u32 1))))]⟩,⟨(some 83),none,.call (.c (.fn F.natural_Add [] [])) [(.t 81),(.t 82)]⟩,cm 80 83,co 84 (.ext 0 (.t 80)),co 85 (.ext 1 (.t 80)),cm 10 84]) (.skip))) (.seq (.seq (.ops [6,8,9,10,11,89] [cm 86 9,cm 87 10,⟨(some 88),none,.call (.c (.fn F.natural_Cmp [] [])) [(.t 86),(.t 87)]⟩,co 89 (.bin .lss (.t 88) (.c (.v (.int .i64 0))))]) (.cond (.t 89) (.seq (.ops [6,8,14] [cm 91 10,cm 92 9,⟨(some 93),none,.call (.c (.fn F.natural_Sub [] [])) [(.t 91),(.t 92)]⟩,cm 90 93,co 94 (.ext 0 (.t 90)),co 95 (.ext 1 (.t 90)),cm 14 94,cm 15 95]) (.seq (.ops [6,7] [cm 96 14,cm 97 8,co 98 (.build [.emp,(.v (.int .i64 0)),(.v (.bool false))] [(0,1,(.t 96)),(1,1,(.t 97)),(2,1,(.c (.v (.bool false))))]),⟨none,none,.store 3 (.t 6) (.t 98)⟩,co 7 (.mv (.c (.v (.bool true))))]) (.ret))) (.skip))) (.seq (.ops [6,8,11,16] [cm 100 9,cm 101 10,⟨(some 102),none,.call (.c (.fn F.natural_Sub [] [])) [(.t 100),(.t 101)]⟩,cm 99 102,co 103 (.ext 0 (.t 99)),co 104 (.ext 1 (.t 99)),cm 16 103,cm 17 104]) (.seq (.ops [6,7] [cm 105 16,cm 106 8,cm 107 11,co 108 (.build [.emp,(.v (.int .i64 0)),(.v (.bool false))] [(0,1,(.t 105)),(1,1,(.t 106)),(2,1,(.t 107))]),⟨none,none,.store 3 (.t 6) (.t 108)⟩,co 7 (.mv (.c (.v (.bool false))))]) (.ret)))))
theorem g8:y8 = .seq (.ops [2,3,4,6] [⟨(some 3),none,.box 3 (.t 0)⟩,⟨(some 4),none,.box 3 (.t 1)⟩,⟨(some 6),none,.alloc [.emp,(.v (.int .i64 0)),(.v (.bool false))]⟩,co 7 (.mv (.c (.v (.bool false))))]) (.seq (.dops [3,4,6,8] [co 18 (.fadr 2 (.t 3)),⟨(some 19),none,.load 1 false (.t 18)⟩,⟨(some 20),none,.load 3 true (.t 3)⟩,⟨(some 21),none,.call (.c (.fn F.dyadic_Top [] [])) [(.t 20)]⟩,cm 22 2,co 23 (.bin .sub (.t 21) (.t 22)),co 24 (.bin .sub (.t 23) (.c (.v (.int .i64 8)))),co 25 (.mnx true (.t 19) [(.t 24)]),cm 8 25] [(1,3)]) (.seq (.seq (.dops [3,4,6,8,31] [⟨(some 26),none,.load 3 true (.t 3)⟩,⟨(some 27),none,.call (.c (.fn F.dyadic_Top [] [])) [(.t 26)]⟩,⟨(some 28),none,.load 3 true (.t 4)⟩,⟨(some 29),none,.call (.c (.fn F.dyadic_Top [] [])) [(.t 28)]⟩,co 30 (.bin .sub (.t 27) (.t 29)),co 31 (.bin .leq (.t 30) (.c (.v (.int .i64 2))))] [(1,2)]) (.cond (.t 31) (.ops [3,4,6,8] [cm 32 8,co 33 (.fadr 2 (.t 4)),⟨(some 34),none,.load 1 false (.t 33)⟩,co 35 (.mnx true (.t 32) [(.t 34)]),cm 8 35]) (.skip))) (.seq (.ops [3,4,6,8,9] [co 36 (.fadr 1 (.t 3)),⟨(some 37),none,.load 1 false (.t 36)⟩,co 38 (.fadr 2 (.t 3)),⟨(some 39),none,.load 1 false (.t 38)⟩,cm 40 8,co 41 (.bin .sub (.t 39) (.t 40)),⟨(some 42),none,.call (.c (.fn F.round_shl [] [])) [(.t 37),(.t 41)]⟩,cm 9 42]) (.seq (.ops [3,4,6,8,9] [co 10 (.mv (.c .emp))]) (.seq (.ops [3,4,6,8,9,11] [co 11 (.mv (.c (.v (.bool false))))]) (.seq (.seq (.ops [3,4,6,8,9,11,46] [co 43 (.fadr 2 (.t 4)),⟨(some 44),none,.load 1 false (.t 43)⟩,cm 45 8,co 46 (.bin .geq (.t 44) (.t 45))]) (.cond (.t 46) (.ops [3,4,6,8,9,10,11] [co 47 (.fadr 1 (.t 4)),⟨(some 48),none,.load 1 false (.t 47)⟩,co 49 (.fadr 2 (.t 4)),⟨(some 50),none,.load 1 false (.t 49)⟩,cm 51 8,co 52 (.bin .sub (.t 50) (.t 51)),⟨(some 53),none,.call (.c (.fn F.round_shl [] [])) [(.t 48),(.t 52)]⟩,cm 10 53]) (.ops [3,4,6,8,9,10,11] [co 55 (.fadr 1 (.t 4)),⟨(some 56),none,.load 1 false (.t 55)⟩,cm 57 8,co 58 (.fadr 2 (.t 4)),⟨(some 59),none,.load 1 false (.t 58)⟩,co 60 (.bin .sub (.t 57) (.t 59)),⟨(some 61),none,.call (.c (.fn F.round_shr [] [])) [(.t 56),(.t 60)]⟩,cm 54 61,co 62 (.ext 0 (.t 54)),co 63 (.ext 1 (.t 54)),cm 10 62,cm 11 63]))) fA)))))):=rfl
def D3 (an bn:Bool) (X Y:Nat) (l:Int) (lost:Bool):(Nat × Int × Bool) × Bool :=
 if an=bn then ((X+Y,l,lost),false) else if X < kg (Y,lost) then ((kg (Y,lost) - X,l,false),true) else ((X - kg (Y,lost),l,lost),false)
def sV (r:(Nat × Int × Bool) × Bool):AV := .tup [oz (ap r.1.1) r.1.2.1 r.1.2.2,B r.2]
theorem rO {x y k:Nat} (hx:af x≤k) (hy:af y≤k):af (x+y)≤k+1:=by
 rw [bh] at hx hy ⊢
 rw [Nat.pow_succ]
 omega
theorem VS {x y:Nat} (hx:af x≤5000) (hy:af y≤5000):R F.natural_Add [lm (ap x),lm (ap y)] []=some (.tup [lm (ap (x+y)),I 0],[]):=by
 have h1:(ap x).length≤200:=aJ (by omega)
 have h2:(ap y).length≤200:=aJ (by omega)
 have h3:=rO hx hy
 have h4:(ap (x+y)).length≤200:=aJ (by omega)
 rw [Qp (aL x) (aL y) (by omega) (by omega),aD,aD,fq,if_neg (by omega)]
theorem L7 {x y:Nat} (hx:af x≤5000) (hy:af y≤5000) (h:y≤x):R F.natural_Sub [lm (ap x),lm (ap y)] []=some (.tup [lm (ap (x - y)),I 0],[]):=by
 have h1:(ap x).length≤200:=aJ (by omega)
 have h2:(ap y).length≤200:=aJ (by omega)
 have h3:af (x - y)≤5000:=by
  rw [bh] at hx ⊢
  omega
 have h4:(ap (x - y)).length≤200:=aJ (by omega)
 rw [Qr (aL x) (aL y) (by omega) (by omega),aD,aD,if_neg (by omega),fq,if_neg (by omega)]
theorem uQ {an bn:Bool} {ma mb:AV} {ea eb:AV} {X Y:Nat} {l:Int} {lost:Bool} (hX:af X≤4100) (hY:af Y≤4100) (s:aj)
  (h3:s 3 = .ref 3 none 0 0 0) (h4:s 4 = .ref 4 none 0 0 0) (h6:s 6 = .ref 6 none 0 0 0) (h8:s 8=I l) (h9:s 9=lm (ap X)) (h10:s 10=lm (ap Y)) (h11:s 11=B lost) :
  iY false [[.o 2 [],.o 0 [],.o 0 []],[]] [.cell 6 3 true,.t 7] 0 (ak R (ae false) fA s (upd (upd (upd (fun _ => .dead) 3 (.bx [.v (.bool an),ma,ea])) 4 (.bx [.v (.bool bn),mb,eb])) 6 (.bx [.emp,.v (.int .i64 0),.v (.bool false)])))=some (sV (D3 an bn X Y l lost),[]):=by
 unfold D3
 by_cases hs:an=bn
 ·subst hs
  rw [if_pos rfl]
  have e1:(false != (an == an))=true:=by cases an <;> rfl
  have ha:=VS (x:=X) (y:=Y) (by omega) (by omega)
  simp only [fA,sV,oz,go_sem,↓reduceIte,alS,alU,alT,alV,h3,h4,h6,h8,h9,h10,h11,e1,ha]
 ·rw [if_neg hs]
  have e1:(false != (an == bn))=false:=by cases an <;> cases bn <;> first | rfl | exact absurd rfl hs
  have hU:af (kg (Y,lost))≤4101:=by
   unfold kg
   split
   ·exact rO hY (S3 _)
   ·exact Nat.le_trans hY (by decide)
  have hi:=Qz (q:=Y) (by omega)
  have hc:=tI (aL X) (aL (kg (Y,lost))) (Nat.le_trans (aJ (k:=200) (by omega)) (by decide)) (Nat.le_trans (aJ (k:=200) (by omega)) (by decide))
  rw [aD,aD] at hc
  by_cases hx:X < kg (Y,lost)
  ·have ha:=L7 (x:=kg (Y,lost)) (y:=X) (by omega) (by omega) (by omega)
   rw [if_pos hx]
   rw [aT,if_pos hx] at hc
   cases lost with
   | false =>
    simp only [kg,if_neg Bool.false_ne_true] at hc ha ⊢
    simp only [fA,sV,oz,go_sem,↓reduceIte,alS,alU,alT,alV,alW,alY,h3,h4,h6,h8,h9,h10,h11,e1,hc,ha]
   | true =>
    simp only [kg,if_true] at hc ha ⊢
    simp only [fA,sV,oz,go_sem,↓reduceIte,alS,alU,alT,alV,alW,alY,h3,h4,h6,h8,h9,h10,h11,e1,oA,hi,hc,ha]
  ·have ha:=L7 (x:=X) (y:=kg (Y,lost)) (by omega) (by omega) (by omega)
   rw [if_neg hx]
   have hd:(aT X (kg (Y,lost)) < 0)=False:=ff (by
    unfold aT
    rw [if_neg hx]
    split <;> decide)
   cases lost with
   | false =>
    simp only [kg,if_neg Bool.false_ne_true] at hc ha hd ⊢
    simp only [fA,sV,oz,go_sem,↓reduceIte,alS,alU,alT,alV,alW,h3,h4,h6,h8,h9,h10,h11,e1,hc,hd,ha]
   | true =>
    simp only [kg,if_true] at hc ha hd ⊢
    simp only [fA,sV,oz,go_sem,↓reduceIte,alS,alU,alT,alV,alW,h3,h4,h6,h8,h9,h10,h11,e1,oA,hi,hc,hd,ha]
end Go.Ab
namespace Go.Ab
open Go Go.IntWalk
set_option maxRecDepth 4000
theorem D4 (a b:Rd) (p:Int):qj a b p=D3 a.neg b.neg (ab a.m*2 ^ (a.e - lX a b p).toNat) (yZ b (lX a b p)).1 (lX a b p) (yZ b (lX a b p)).2:=rfl
theorem Ya {a b:Rd} (oa:Ok0 a) (ob:Ok0 b) (va:vd a=true) (vb:vd b=true) (na:a.m.length ≠ 0) (nb:b.m.length ≠ 0) {p:Int} (hp:8≤p∧p≤512) (ht:aK b≤aK a) :
  R F.round_sum [ai a,ai b,I p] []=some (sV (qj a b p),[]):=by
 refine aB Ln Lm (DL false) rfl ?_
 have ta:=tJ oa
 have tb:=tJ ob
 simp only [ai,am] at ta tb
 have e1:=ia va na
 have e2:=ia vb nb
 obtain ⟨a1,a2,a3,a4⟩:=dS va oa.lb
 obtain ⟨b1,b2,b3,b4⟩:=dS vb ob.lb
 have l1:=D0 (a:=a) (b:=b) (p:=p)
 have l2:=AK va vb oa.lb ob.lb na nb hp ht
 have w1:IntKind.i64.wrap (aK a - p)=aK a - p:=i64_in _ ⟨by omega,by omega⟩
 have w2:IntKind.i64.wrap (aK a - p - 8)=aK a - p - 8:=i64_in _ ⟨by omega,by omega⟩
 have w3:IntKind.i64.wrap (aK a - aK b)=aK a - aK b:=i64_in _ ⟨by omega,by omega⟩
 rw [D4]
 obtain ⟨l,hl⟩:∃ l,lX a b p=l:=⟨_,rfl⟩
 rw [hl] at l1 l2 ⊢
 unfold lX at hl
 obtain ⟨z,hz⟩:∃ z,(if aK a - p - 8 < a.e then aK a - p - 8 else a.e)=z:=⟨_,rfl⟩
 rw [hz] at hl
 have w4:IntKind.i64.wrap (a.e - l)=(((a.e - l).toNat:Nat):Int):=wi (by omega) (by omega)
 have hX:af (ab a.m*2 ^ (a.e - l).toNat)≤4100:=by
  rw [cT _ (cU va na)]
  omega
 have sX:=qV oa.lb a1 (k:=(a.e - l).toNat) (by omega) (aJ (by omega))
 by_cases h2:aK a - aK b≤2
 ·have f1:(aK a - aK b≤2)=True:=tt h2
  rw [if_pos h2] at hl
  by_cases hb:l≤b.e
  ·have f2:(l≤b.e)=True:=tt hb
   have w5:IntKind.i64.wrap (b.e - l)=(((b.e - l).toNat:Nat):Int):=wi (by omega) (by omega)
   have hY:af (ab b.m*2 ^ (b.e - l).toNat)≤4100:=by
    rw [cT _ (cU vb nb)]
    omega
   have sY:=qV ob.lb b1 (k:=(b.e - l).toNat) (by omega) (aJ (by omega))
   rw [yZ,if_pos hb]
   simp only [gr,g8,ai,am,go_sem,↓reduceIte,alS,alU,alT,alV,alW,alX,ta,tb,w1,w2,w3,w4,w5,hz,hl,f1,f2,sX,sY]
   exact uQ hX hY _ rfl rfl rfl rfl rfl rfl rfl
  ·have f2:(l≤b.e)=False:=ff hb
   have w5:IntKind.i64.wrap (l - b.e)=(((l - b.e).toNat:Nat):Int):=wi (by omega) (by omega)
   have hY:af (ab b.m / 2 ^ (l - b.e).toNat)≤4100:=by
    rw [di]
    omega
   have sY:=DY ob.lb b1 (n:=(l - b.e).toNat) (by omega)
   rw [yZ,if_neg hb]
   simp only [gr,g8,ai,am,go_sem,↓reduceIte,alS,alU,alT,alV,alW,alX,ta,tb,w1,w2,w3,w4,w5,hz,hl,f1,f2,sX,sY]
   exact uQ hX hY _ rfl rfl rfl rfl rfl rfl rfl
 ·have f1:(aK a - aK b≤2)=False:=ff h2
  rw [if_neg h2] at hl
  by_cases hb:l≤b.e
  ·have f2:(l≤b.e)=True:=tt hb
   have w5:IntKind.i64.wrap (b.e - l)=(((b.e - l).toNat:Nat):Int):=wi (by omega) (by omega)
   have hY:af (ab b.m*2 ^ (b.e - l).toNat)≤4100:=by
    rw [cT _ (cU vb nb)]
    omega
   have sY:=qV ob.lb b1 (k:=(b.e - l).toNat) (by omega) (aJ (by omega))
   rw [yZ,if_pos hb]
   simp only [gr,g8,ai,am,go_sem,↓reduceIte,alS,alU,alT,alV,alW,alX,ta,tb,w1,w2,w3,w4,w5,hz,hl,f1,f2,sX,sY]
   exact uQ hX hY _ rfl rfl rfl rfl rfl rfl rfl
  ·have f2:(l≤b.e)=False:=ff hb
   have w5:IntKind.i64.wrap (l - b.e)=(((l - b.e).toNat:Nat):Int):=wi (by omega) (by omega)
   have hY:af (ab b.m / 2 ^ (l - b.e).toNat)≤4100:=by
    rw [di]
    omega
   have sY:=DY ob.lb b1 (n:=(l - b.e).toNat) (by omega)
   rw [yZ,if_neg hb]
   simp only [gr,g8,ai,am,go_sem,↓reduceIte,alS,alU,alT,alV,alW,alX,ta,tb,w1,w2,w3,w4,w5,hz,hl,f1,f2,sX,sY]
   exact uQ hX hY _ rfl rfl rfl rfl rfl rfl rfl
end Go.Ab
namespace Go.Ab
open Go Go.IntWalk
set_option maxRecDepth 4000
def Jc (a b:Rd) (p:Int) (up:Bool):Rd × Int :=
 let s:=qj a b p
 if s.1.1=0∧s.1.2.2=false then (aH,0) else hJ (a.neg != s.2) (gC s.1.1 s.1.2.1 s.1.2.2 p (up != (a.neg != s.2)))
def D5 (a b:Rd) (p:Int) (up:Bool):Rd × Int :=
 if bj p [a,b]=0 then (if a.m.length=0 then pS b p up else if b.m.length=0 then pS a p up else if aK a < aK b then Jc b a p up else Jc a b p up)
 else (aH,bj p [a,b])
theorem AL {a b:Rd} (oa:Ok0 a) (ob:Ok0 b) {p:Int} {up:Bool} (h:bj p [a,b] ≠ 0∨a.m.length=0∨b.m.length=0):R F.round_add [ai a,ai b,I p,B up] []=some (rV (D5 a b p up),[]):=by
 refine aB zg zf (tC false) rfl ?_
 have hf:R F.round_fault [I p,.sl 3 [[B a.neg,lm a.m,I a.e],[B b.neg,lm b.m,I b.e]]] []=some (I (bj p [a,b]),[]):=AH (p:=p) (l:=[a,b]) (fun x hx=>by
  rcases List.mem_cons.1 hx with h | h
  ·rw [h]; exact oa
  ·rw [List.mem_singleton.1 h]; exact ob) (show 2≤100000 by decide)
 have ra:=Jb oa (p:=p) (up:=up)
 have rb:=Jb ob (p:=p) (up:=up)
 unfold D5
 generalize pS a p up=qa at ra ⊢
 generalize pS b p up=qb at rb ⊢
 simp only [rV,ai,am] at ra rb
 by_cases h0:bj p [a,b]=0
 ·rw [if_pos h0]
  rw [h0] at hf
  by_cases a0:a.m.length=0
  ·have e1:((a.m.length:Int)=0)=True:=tt (by omega)
   rw [if_pos a0]
   simp only [eV,mf,rV,ai,am,go_sem,↓reduceIte,alS,alU,alT,alV,alW,hf,e1,rb]
  have e1:((a.m.length:Int)=0)=False:=ff (by omega)
  have b0:b.m.length=0:=(h.resolve_left (fun h'=>h' h0)).resolve_left a0
  have e2:((b.m.length:Int)=0)=True:=tt (by omega)
  rw [if_neg a0,if_pos b0]
  simp only [eV,mf,rV,ai,am,go_sem,↓reduceIte,alS,alU,alT,alV,alW,hf,e1,e2,ra]
 ·have e1:(bj p [a,b]=0)=False:=ff h0
  rw [if_neg h0]
  simp only [eV,mf,rV,ai,am,aH,go_sem,↓reduceIte,alS,alU,alT,alV,alW,hf,e1]
end Go.Ab
