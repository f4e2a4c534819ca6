/-
  A law of ranges holds at every input that the statement speaks of, under the conditions that its card names. Part D1.
-/
import Derived.IntWalk
import Derived.Test.YtfdhicohflnjnaaGreatDoorC1
open Nat renaming reduceAdd → am3, reduceMul → am4, reduceLeDiff → am5, reduceLT → am6, reduceBEq → am7, reduceSub → anc
open Int renaming reduceLT → am8, reduceToNat → am9, reduceLE → ana, reduceEq → anb
set_option linter.all false
namespace Go.Ab
open Go Go.IntWalk
set_option maxRecDepth 4000
set_option maxHeartbeats 1000000
def az (m:List Nat):List (List AV):=m.map fun (x:Nat)=>[U (x:Int)]
def lm (m:List Nat):AV:=.sl 1 (az m)
theorem wk (m:List Nat):(az m).length=m.length:=by simp [az]
@[go_sem] theorem xz (l:List (List AV)):l.map (cX [])=l:=(List.map_congr_left (g:=fun c=>c) fun c _=>WO c).trans (List.map_id' _)
@[go_sem] theorem ahE (hs m):aaL hs (lm m)=lm m:=_root_.id rfl
@[go_sem] theorem agb (hs m):knownL hs (lm m)=true:=_root_.id rfl
@[go_sem] theorem ad1 (hs m):gI hs (lm m)=true:=_root_.id rfl
@[go_sem] theorem ams (ks m):nD ks (lm m)=lm m:=_root_.id rfl
@[go_sem] theorem akA (ks m):lR ks (lm m)=false:=_root_.id rfl
@[go_sem] theorem akB (ks m):yF ks (lm m)=false:=_root_.id rfl
@[go_sem] theorem amt (m):lh false (lm m)=some (I (m.length:Nat)):=by simp [lm,lh,az]
@[go_sem] theorem akC (m k i):p8 1 (lm m) (.v (.int k i))=aZ (az m) i:=by simp [lm,p8]
@[go_sem] theorem Zf (k ss m):nrmV (.o (k+1) []::ss) (lm m)=lm m:=by simp [lm,nrmV,nrmL,xz]
@[go_sem] theorem ahF (k cs ss m):nrmV (.o (k+1) [.o 0 cs]::ss) (lm m)=lm m:=by
 simp_all [az,cX,List.map_congr_left,List.map_id',nrmL,lm,nrmV]
@[go_sem] theorem akD (k m):nrmL (.o (k+1) []) (lm m)=lm m:=by simp [lm,nrmL,xz]
@[go_sem] theorem akE (h m):ni h (lm m)=some (lm m):=_root_.id rfl
@[go_sem] theorem ahG (h m l):iR h (lm m::l)=(iR h l).bind fun q=>some (lm m::q):=_root_.id rfl
@[go_sem] theorem akF (m):bT (lm m)=[]:=_root_.id rfl
@[go_sem] theorem akG (m):fT (lm m)=[]:=_root_.id rfl
@[go_sem] theorem amu (m):dat (lm m)=true:=_root_.id rfl
@[go_sem] theorem akH (m):aB (lm m)=true:=_root_.id rfl
@[go_sem] theorem ahH (m):aU (lm m)=false:=_root_.id rfl
@[go_sem] theorem ahI (m):eY (lm m)=some [lm m]:=_root_.id rfl
@[go_sem] theorem akI (h m):fS h (lm m)=some (lm m,h,[]):=_root_.id rfl
@[go_sem] theorem ahJ (h m):cR h 0 (lm m)=some (lm m,h,[]):=_root_.id rfl
@[go_sem] theorem ahK (id p m):tT id p (lm m)=lm m:=_root_.id rfl
@[go_sem] theorem ahL (h d m):j6 h d (some (lm m,[]))=if dp h (2000+8*d) 1=true then some (lm m,h,[]) else none:=WQ h d 1 (az m)
@[go_sem] theorem amv (m:List Nat):AV.sl 1 (az m)=lm m:=_root_.id rfl
@[go_sem] theorem ahM (p:Nat→Bool) (a:Nat):jl (List.filter p [a])=true:=by
 simp only [List.filter];split <;> rfl
@[go_sem] theorem IH (m:List Nat):(az m).length=m.length:=by simp [az]
@[go_sem] theorem amw:AV.sl 1 []=lm []:=_root_.id rfl
@[go_sem] theorem agc (cs ss):nrmV (.o 2 cs::ss) .emp=lm []:=by simp [nrmV,nrmL,lm,az]
@[go_sem] theorem agd (cs):nrmL (.o 2 cs) .emp=lm []:=by simp [nrmL,lm,az]
@[go_sem] theorem akJ (k ss m):nrmV (.o (k+1) []::ss) (.sl 1 (az m))=lm m:=Zf k ss m
@[go_sem] theorem ahN (k ss m):nrmV (.o (k+1) []::ss) (.osl 1 (az m))=lm m:=by simp [lm,nrmV,nrmL,xz]
theorem bh {m:List Nat} {i:Int} {n:Nat} (hi:i=n) (h:n < m.length):aZ (az m) i=some (.ipt [U (m.getD n 0:Nat)]):=by
 grind [aZ,az]
theorem gS {m:List Nat} {n:Nat} (h:n < m.length):(az m)[n]?=some [U (m.getD n 0:Nat)]:=by
 grind [az]
theorem Nb (m:List Nat) (n:Nat):(az m).take n=az (m.take n):=by simp [az,List.map_take]
theorem WY (m:List Nat) (n:Nat):(az m).drop n=az (m.drop n):=by simp [az,List.map_drop]
theorem wl (m l:List Nat):az m++az l=az (m++l):=by simp [az]
theorem jT (m:List Nat) (n x:Nat):(az m).set n [U (x:Nat)]=az (m.set n x):=by simp [az,List.map_set]
theorem tI (n:Nat):List.replicate n [AV.v (.int .u32 0)]=az (List.replicate n 0):=by simp [az]
theorem CL {m:List Nat} {lo hi:Option AV} {a b:Nat} (hlo:jK 0 b lo=some a) (hhi:jK m.length m.length hi=some b) (_hb:b≤m.length):eu 1 (lm m) lo hi none=some (lm ((m.drop a).take (b - a))):=by
 simp_all [lm,eu,kw,wk,if_true,Option.bind_some,Option.map_some,BR,Bool.false_eq_true,if_false,Nb,WY]
theorem WZ (d n:Nat):jK d n none=some d:=_root_.id rfl
theorem oJ {d n:Nat} {k:IntKind} {i:Int} {a:Nat} (hi:i=a) (h:a≤n):jK d n (some (.v (.int k i)))=some a:=by
 grind [jK]
theorem lK {f:FuncId} {fd:FD} {args:List AV} {r:AV × List Ob} (hE:dK.E f=none) (hC:dK.C f=some fd) (hk:dK.md.keep f=false) (h1:args.length=fd.np)
  (hz:gx false fd.rs fd.res 0 (ak R (aG false) fd.body (n8 args) (fun _=>.dead))=some r):R f args []=some r:=by
 simp_all [GU,Nat.zero_le,SD]
theorem aE {f:FuncId} {l:List (List Sh)} {fd:FD} {args:List AV} {r:AV × List Ob} (q:QE f l fd) (h1:args.length=fd.np)
  (hz:gx false fd.rs fd.res 0 (ak R (aG false) fd.body (n8 args) (fun _=>.dead))=some r):R f args []=some r:=lK q.2.1 q.2.2 (q.1.2.2.2 false) h1 hz
noncomputable def DJ (k:Nat) (g:Bool):Cmd:=.seq (.ops [0,1,7,8,9] [co 9 (.bin .lss (.t 8) (.t 7))]) (.seq (.cond (.t 9) (.skip) (.exit 0)) (.seq (.block 1 [0,1,7,8] (.seq (.ops [0,1,5,7,8] [cm 10 8,cm 5 10]) (.seq (.ops [0,1,5,7,8,16] [cm 11 1,cm 12 0,cm 13 5,co 14 (.iadrS k (.t 12) (.t 13)),⟨(some 15),none,.load k g (.t 14)⟩,⟨(some 16),none,.call (.t 11) [(.t 15)]⟩]) (.cond (.t 16) (.seq (.ops [4] [cm 17 5,cm 4 17]) (.ret)) (.skip))))) (.ops [0,1,7,8] [co 18 (.bin .add (.t 8) (.c (.v (.int .i64 1)))),cm 8 18])))
noncomputable def II:Cmd:=.seq (.ops [4] [co 4 (.mv (.c (.v (.int .i64 (-1)))))]) (.ret)
def CM {α:Type} (p:α→Bool):List α→Nat→Int
 | [],_=>-1
 | r::rs,n=>if p r=true then n else CM p rs (n+1)
theorem Nc {α:Type} (p:α→Bool):∀ (l:List α) (n:Nat),decide (0≤CM p l n)=l.any p
 | [],n=>rfl
 | r::rs,n=>by
  simp only [CM,List.any_cons];by_cases h:p r=true
  ·simp [h]
  ·simp [h,Nc p rs (n+1)]
theorem W0 {k:Nat} {g:Bool} {f:FuncId} {rows:List (List AV)} {p:List AV→Bool} {hs:List Nat} (hhs:hs=[]∨hs=[1000]) (hm:(aG false).m f=[]) (hl:rows.length < 4611686018427387904)
  (hf:∀ row ∈ rows,∃ a,jG k g row 0=some a∧dat a=true∧R f (br ((aG false).sh f) [a]) []=some (B (p row),[])):∀ (rest:List (List AV)) (n:Nat),rows.drop n=rest→n≤rows.length →
  ∀ (s:ae) (h:ac),s 0=.sl k rows→s 1=.fn f [] []→s 7=I rows.length→s 8=I n→h 1000=.dead →
   ∃ hh,cj (ap 0 [] (aq (ak R (aG false) (DJ k g)) [0,1,7,8] hs s h)) (ak R (aG false) II)=some (.ret,⟨upd (fun _=>.any) 4 (I (CM p rest n)),hh⟩):=by
 intro rest;induction rest with
 | nil =>
  intro n hd hn s h h0 h1 h7 h8 h9;have e:n=rows.length:=by
   have:=congrArg List.length hd;grind
  subst e;rw [ai];rcases hhs with rfl | rfl <;> exact ⟨_,by simp only [DJ,II,go_sem,h0,h1,h7,h8,h9,Int.lt_irrefl,CM]; rfl⟩
 | cons r rest ih =>
  intro n hd hn s h h0 h1 h7 h8 h9;have hlt:n < rows.length:=by
   grind
  have hr:rows[n]?=some r:=by
   have:=congrArg (·[0]?) hd;grind
  obtain ⟨a,ha,hda,hc⟩:=hf r (List.mem_of_getElem? hr);have ih':=ih (n+1) (by rw [← List.drop_drop,hd]; rfl) hlt;have e1:((n:Int) < (rows.length:Int))=True:=eq_true (by omega);have e2:aZ rows (n:Int)=some (.ipt r):=by grind [aZ]
  have e3:IntKind.i64.wrap ((n:Int)+1)=((n+1:Nat):Int):=by grind [i64_in]
  rw [ai];generalize aq _ _ _=L at ih' ⊢;rcases hhs with rfl | rfl
  all_goals
   simp only [DJ,go_sem,h0,h1,h7,h8,h9,e1,e2,ha,x7 _ hm,hda,hc,am4,am3,CM];cases hp:p r with
   | true=>exact ⟨_,by simp only [go_sem]; rfl⟩
   | false =>
    simp only [go_sem,e3,Bool.false_ne_true];exact ih' _ _ rfl rfl rfl rfl rfl
theorem CN {fi:FuncId} {fd:FD} {k:Nat} {g:Bool} {hs:List Nat} (hE:dK.E fi=none) (hC:dK.C fi=some fd) (hk:dK.md.keep fi=false)
  (hfd:fd=⟨2,[[]],[.t 4],.seq (.ops [0,1] [co 4 (.mv (.c (.v (.int .i64 0))))]) (.seq (.seq (.ops [0,1,7,8] [cm 6 0,co 7 (.len false (.t 6)),co 8 (.mv (.c (.v (.int .i64 0))))]) (.block 0 [] (.loop [0,1,7,8] hs (DJ k g)))) II)⟩)
  {f:FuncId} {rows:List (List AV)} {p:List AV→Bool} (hm:(aG false).m f=[]) (hl:rows.length < 4611686018427387904)
  (hf:∀ row ∈ rows,∃ a,jG k g row 0=some a∧dat a=true∧R f (br ((aG false).sh f) [a]) []=some (B (p row),[])) (hhs:hs=[]∨hs=[1000]:=by simp):R fi [.sl k rows,.fn f [] []] []=some (I (CM p rows 0),[]):=by
 subst hfd;refine lK hE hC hk rfl ?_;have hL:=W0 (k:=k) (g:=g) hhs hm hl hf rows 0 rfl (Nat.zero_le _);simp only [go_sem,ac9];have hL2:∀ (S:ae) (H:ac) (X:Option (Ex × St)),cj (ap 0 [] (aq (ak R (aG false) (DJ k g)) [0,1,7,8] hs S H)) (ak R (aG false) II)=X→S 0=.sl k rows→S 1=.fn f [] []→S 7=I rows.length→S 8=I (0:Nat)→H 1000=.dead →
   ∃ hh,X=some (.ret,⟨upd (fun _=>.any) 4 (I (CM p rows 0)),hh⟩):=fun S H X hX a b c d e=>by
  rw [← hX];exact hL S H a b c d e
 generalize hX:cj (ap 0 [] (aq _ _ hs _ _)) (ak R (aG false) II)=X;obtain ⟨hh,e⟩:=hL2 _ _ _ hX rfl rfl rfl rfl rfl;rw [e];simp only [go_sem]
noncomputable def UD (fi:FuncId):FD:=⟨2,[[]],[.t 4],.seq (.ops [0,1] [co 4 (.mv (.c (.v (.bool false))))]) (.seq (.ops [4] [cm 5 0,cm 6 1,⟨(some 7),none,.call (.c (.fn fi [] [])) [(.t 5),(.t 6)]⟩,co 8 (.bin .geq (.t 7) (.c (.v (.int .i64 0)))),cm 4 8]) (.ret))⟩
theorem zT {ci fi:FuncId} {fd:FD} {k:Nat} (hE:dK.E ci=none) (hC:dK.C ci=some fd) (hk:dK.md.keep ci=false) (hfd:fd=UD fi) (hm:(aG false).m fi=[]) {cs:List Sh} (hsh:(aG false).sh fi=[[.o (k+1) cs],[]])
  {rows:List (List AV)} {f:FuncId} {p:List AV→Bool} (hr:rows.map (cX cs)=rows) (h:R fi [.sl k rows,.fn f [] []] []=some (I (CM p rows 0),[])):R ci [.sl k rows,.fn f [] []] []=some (B (rows.any p),[]):=by
 subst hfd;refine lK hE hC hk rfl ?_;simp only [UD,go_sem,x7 _ hm,hsh,hr,h,WN,Nc]
theorem cI {i:Int} {n:Nat} (h:i=n) (hn:n < 18446744073709551616):IntKind.u64.wrap i=n:=by rw [u64_in] <;> omega
theorem vN {i:Int} {n:Nat} (h:i=n) (hn:n < 4294967296):IntKind.u32.wrap i=n:=by rw [u32_in] <;> omega
theorem wi {i:Int} {n:Nat} (h:i=n) (hn:n < 9223372036854775808):IntKind.i64.wrap i=n:=by rw [i64_in] <;> omega
theorem AN {i:Int} {n:Nat} (h:i=n):IntKind.u32.wrap i=((n % 4294967296:Nat):Int):=by grind [IntKind.wrap_u32]
theorem mr {i:Int} {n k:Nat} {kk:IntKind} {j:Int} (h:i=n) (hj:j=k) (hk:k≤64):cK .shr (.v (.int .u64 i)) (.v (.int kk j))=some (.v (.int .u64 ((n / 2 ^ k:Nat):Int))):=by
 simp_all [zu,if_neg,IntKind.bits,Option.some.injEq,AV.v.injEq,Value.int.injEq,true_and,Int.fdiv_eq_ediv_of_nonneg,Int.pow_nonneg]
theorem FF {x y c:Nat} (hx:x < 4294967296) (hy:y < 4294967296) (hc:c≤1):R F.bits_Add32 [U x,U y,U c] []=some (.tup [U (((x+y+c) % 4294967296:Nat)),U (((x+y+c) / 4294967296:Nat))],[]):=by
 refine aE M9 rfl ?_;have e1:IntKind.u64.wrap (x:Int)=x:=cI rfl (by omega);have e2:IntKind.u64.wrap (y:Int)=y:=cI rfl (by omega);have e3:IntKind.u64.wrap (c:Int)=c:=cI rfl (by omega);have e4:IntKind.u64.wrap ((x:Int)+y)=((x+y:Nat):Int):=cI (by omega) (by omega);have e5:IntKind.u64.wrap (((x+y:Nat):Int)+c)=((x+y+c:Nat):Int):=cI (by omega) (by omega);have e6:IntKind.u32.wrap ((x+y+c:Nat):Int)=(((x+y+c) % 4294967296:Nat):Int):=AN rfl;have e7:=mr (n:=x+y+c) (k:=32) (kk:=.u64) (j:=32) rfl rfl (by omega);have e8:IntKind.u32.wrap (((x+y+c) / 2 ^ 32:Nat):Int)=(((x+y+c) / 4294967296:Nat):Int):=vN rfl (by omega);simp only [vo,CA,go_sem,e1,e2,e3,e4,e5,e6,e7,e8]
theorem Zg {k:IntKind} {n:Int} (h:n ≠ 0):BR (some (.v (.int k n)))=false:=by
 simp_all [BR,absurd]
theorem Zh {m:List Nat} (h:m.length ≠ 0):eu 1 (lm m) none (some (I (m.length:Nat))) (some (I (m.length:Nat)))=some (lm m):=by
 have hz:BR (some (I (m.length:Nat)))=false:=Zg (by omega);have h1:jK m.length m.length (some (I (m.length:Nat)))=some m.length:=oJ rfl (Nat.le_refl _)
 simp_all [eu,lm,wk,kw,WZ,if_true,Option.bind_some,Option.map_some,Bool.false_eq_true,if_false,List.drop_zero,Nat.sub_zero,Nb,List.take_length]
theorem IJ (m:List Nat):R F.slices_Clip_uint32_uint32_ [lm m] []=some (lm m,[]):=by
 refine aE tH rfl ?_;by_cases h:m.length=0
 ·have:m=[]:=List.length_eq_zero_iff.1 h;subst this;rfl
 ·simp only [gy,lJ,go_sem,Zh h]
theorem Kn (m:List Nat) (h2:m.length < 4611686018427387904):∀ (n:Nat),n≤m.length→∀ (s:ae) (h:ac),s 0=lm m→s 3=I n →
  ap 0 [0,3] (aq (ak R (aG false) iL) [0,3] [] s h)=some (.normal,⟨upd (upd (fun _=>.any) 3 (I (i9 m n))) 0 (lm m),fun _=>.dead⟩):=by
 intro n;induction n with
 | zero =>
  intro h1 s h h3 h4;rw [ai];simp only [iL,go_sem,h3,h4,i9,Int.natCast_zero,Int.lt_irrefl]
 | succ n ih =>
  intro h1 s h h3 h4;have hn:n < m.length:=h1;have e3:IntKind.i64.wrap ((n:Int)+1 - 1)=n:=wi (by omega) (by omega);have e1:aZ (az m) (n:Int)=some (.ipt [U (m.getD n 0:Nat)]):=bh rfl hn;have e2:((0:Int) < (n:Int)+1)=True:=eq_true (by omega);have ih':=ih (by omega);rw [ai];by_cases hz:m.getD n 0=0
  ·simp only [iL,go_sem,h3,h4,i9,Int.natCast_add,Int.natCast_one,e3,e1,e2,hz,Int.natCast_zero];exact ih' _ _ rfl rfl
  ·simp only [iL,go_sem,h3,h4,i9,Int.natCast_add,Int.natCast_one,e3,e1,e2,hz,Int.natCast_eq_zero]
theorem cz {m:List Nat} (hb:Lb m) (h:m.length < 4611686018427387904):R F.natural_trim [lm m] []=some (lm (ao (aa m)),[]):=by
 refine aE IA rfl ?_;have h1:eu 1 (lm m) none (some (I (i9 m m.length:Nat))) none=some (lm (ao (aa m))):=by
  rw [CL (a:=0) (b:=i9 m m.length) rfl (oJ rfl (uG _ _)) (uG _ _),List.drop_zero,Nat.sub_zero,Fr hb]
 simp only [si,zG,go_sem,Kn m h m.length (Nat.le_refl _),h1]
def YH (l:List (List Nat)):AV:=.sl 1 (l.map fun m=>[lm m])
theorem Zi (l:List (List Nat)) (cs:List Sh):(l.map fun m=>[lm m]).map (cX [.o 2 cs])=l.map fun m=>[nrmL (.o 2 cs) (lm m)]:=by
 simp [List.map_map,cX]
theorem UE (m:List Nat):R F.natural_long_1 [lm m] []=some (B (decide (256 < m.length)),[]):=by
 refine aE xy rfl ?_;have e:decide ((256:Int) < (m.length:Int))=decide (256 < m.length):=by grind
 simp only [pT,xp,go_sem,e]
theorem Qn {l:List (List Nat)} (hl:l.length < 4611686018427387904):R F.natural_long [YH l] []=some (B (l.any fun m=>decide (256 < m.length)),[]):=by
 refine aE ID rfl ?_
 let p:List AV→Bool:=fun row=>match row with | [.sl _ rows]=>decide (256 < rows.length) | _=>false
 have hp:∀ m:List Nat,p [lm m]=decide (256 < m.length):=fun m=>by grind [lm,wk]
 have hn:(l.map fun m=>[lm m]).map (cX [.o 2 []])=l.map fun m=>[lm m]:=by
  rw [Zi];simp only [go_sem]
 have h1:=CN (k:=1) (g:=false) (f:=F.natural_long_1) (rows:=l.map fun m=>[lm m]) (p:=p) ck.2.1 ck.2.2 (ck.1.2.2.2 false) rfl (xy.1.2.1 false) (by grind) (fun row hr=>by
  simp only [List.mem_map] at hr;obtain ⟨m,hm,rfl⟩:=hr;refine ⟨lm m,rfl,rfl,?_⟩;simp only [go_sem,UE,hp])
 have h2:=zT (k:=1) cC.2.1 cC.2.2 (cC.1.2.2.2 false) rfl (ck.1.2.1 false) (ck.1.1 false) hn h1;have h3:(l.map fun m=>[lm m]).any p=l.any fun m=>decide (256 < m.length):=by
  rw [List.any_map];congr 1;funext m
  simp_all
 rw [h3] at h2;simp only [sk,zJ,YH,go_sem,x7 _ (cC.1.2.1 false),hn,h2]
theorem tt {p:Prop} (h:p):p=True:=eq_true h
theorem ff {p:Prop} (h:¬ p):p=False:=eq_false h
theorem mu (a:List Nat):R F.natural_long [.sl 1 [[lm a]]] []=some (B (decide (256 < a.length)),[]):=by
 have:=Qn (l:=[a]) (by simp);grind [YH]
theorem oK (a b:List Nat):R F.natural_long [.sl 1 [[lm a],[lm b]]] []=some (B (decide (256 < a.length) || decide (256 < b.length)),[]):=by
 have:=Qn (l:=[a,b]) (by simp);grind [YH]
def gX (n:Nat):AV:=if 256 < (ao n).length then .tup [lm [],I 9] else .tup [lm (ao n),I 0]
theorem zU {m:List Nat} (hb:Lb m) (h:m.length < 4611686018427387904):R F.natural_done [lm m] []=some (gX (aa m),[]):=by
 refine aE IE rfl ?_;by_cases hl:256 < (ao (aa m)).length
 ·simp only [nN,tr,gX,go_sem,am4,am3,am5,am6,cz hb h,mu,hl]
 ·simp only [nN,tr,gX,go_sem,am4,am3,am5,am6,cz hb h,mu,hl,IJ]
theorem BK {a:List Nat} {i:Nat} (h:i < a.length):aa (a.take (i+1))=aa (a.take i)+4294967296 ^ i*a.getD i 0:=by
 grind [List.take_add_one,cO,List.length_take,Nat.min_eq_left,aa]
theorem PY {a:List Nat} {i:Nat} (h:a.length≤i):aa (a.take (i+1))=aa (a.take i)+4294967296 ^ i*a.getD i 0:=by
 grind [List.take_of_length_le]
theorem dm (a:List Nat) (i:Nat):aa (a.take (i+1))=aa (a.take i)+4294967296 ^ i*a.getD i 0:=by
 grind [BK,PY]
def Qo (n i:Nat):Nat:=n / 4294967296 ^ i % 4294967296
theorem W7 {k n i:Nat} (h:i < k):(cB k n)[i]?=some (Qo n i):=by
 induction k generalizing n i with
 | zero=>omega
 | succ k ih =>
  cases i with
  | zero=>simp [cB,Qo]
  | succ i =>
   grind [cB,Qo,Nat.pow_succ,Nat.mul_comm,Nat.div_div_eq_div_mul]
theorem Nd {k n:Nat} {l:List Nat} (hl:l.length=k) (h:∀ i,i < k→l.getD i 0=Qo n i):l=cB k n:=by
 refine List.ext_getElem? fun i=>?_;rcases Nat.lt_or_ge i k with hi | hi
 ·simp_all [W7,congrArg]
 grind [bK]
def cry (a b:List Nat):Nat→Nat
 | 0=>0
 | i+1=>(a.getD i 0+b.getD i 0+cry a b i) / 4294967296
def vA (a b:List Nat) (i:Nat):Nat:=(a.getD i 0+b.getD i 0+cry a b i) % 4294967296
theorem xA {a b:List Nat} (ha:Lb a) (hb:Lb b):∀ i,cry a b i≤1
 | 0=>by simp [cry]
 | i+1=>by
  have h1:=bt ha i;have h2:=bt hb i;have h3:=xA ha hb i;simp only [cry];omega
def bV (a b:List Nat) (i:Nat):List Nat:=(List.range i).map (vA a b)
theorem xB (f:Nat→Nat) (i:Nat):aa ((List.range (i+1)).map f)=aa ((List.range i).map f)+4294967296 ^ i*f i:=by
 rw [List.range_succ,List.map_append,cO];simp [aa]
theorem AO (a b:List Nat):∀ i,aa (bV a b i)+4294967296 ^ i*cry a b i=aa (a.take i)+aa (b.take i)
 | 0=>by simp [bV,cry,aa]
 | i+1=>by
  have ih:=AO a b i;rw [dm a i,dm b i];simp only [bV] at ih ⊢;rw [xB,Nat.pow_succ];have e:cry a b (i+1)*4294967296+vA a b i=a.getD i 0+b.getD i 0+cry a b i:=by
   grind [cry,vA]
  grind
theorem dD (a b:List Nat) (i:Nat):(bV a b i).length=i:=by simp [bV]
theorem IK (a b:List Nat) (i:Nat):Lb (bV a b i):=fun x hx=>by
 simp only [bV,List.mem_map] at hx;obtain ⟨j,_,rfl⟩:=hx;simp only [vA];omega
theorem W8 {a b:List Nat} (ha:Lb a) (hb:Lb b) (hl:b.length≤a.length):bV a b a.length++[cry a b a.length]=cB (a.length+1) (aa a+aa b):=by
 have h:=AO a b a.length;rw [List.take_length,List.take_of_length_le hl] at h;have h1:Lb (bV a b a.length++[cry a b a.length]):=i8.2 ⟨IK _ _ _,fH.2 ⟨by grind [xA],CD⟩⟩;have h2:aa (bV a b a.length++[cry a b a.length])=aa a+aa b:=by
  grind [cO,dD,aa]
 have:=AL h1;grind [dD]
theorem xC {α:Type} (l:List α) (n:Nat) (x z:α) (h:0 < n):(l++List.replicate n z).set l.length x=(l++[x])++List.replicate (n - 1) z:=by
 obtain ⟨n,rfl⟩:∃ m,n=m+1:=⟨n - 1,by omega⟩;grind
theorem W9 {a b:List Nat} (ha:Lb a) (hb:Lb b) (_hl:b.length≤a.length) (h2:a.length < 4611686018427387904):∀ (k i:Nat),i+k=a.length→∀ (s:ae) (h:ac),s 0=lm a→s 1=lm b→s 5=.rsl 20 none 1 0 (a.length+1)→s 6=U (cry a b i:Nat) →
  s 21=lm a→s 22=I (a.length:Nat)→s 23=I i→h 20=.ar 1 (az (bV a b i++List.replicate (k+1) 0)) →
  ap 0 [0,5,6] (aq (ak R (aG false) gQ) [0,1,5,6,21,22,23] [20] s h) =
   some (.normal,⟨upd (upd (upd (fun _=>.any) 6 (U (cry a b a.length:Nat))) 5 (.rsl 20 none 1 0 (a.length+1))) 0 (lm a),upd (fun _=>.dead) 20 (.ar 1 (az (bV a b a.length++[0])))⟩):=by
 intro k;induction k with
 | zero =>
  intro i hi s h h0 h1 h5 h6 h21 h22 h23 hh;have:i=a.length:=by omega
  subst this;rw [ai];simp only [gQ,go_sem,am3,h0,h1,h5,h6,h21,h22,h23,hh,Int.lt_irrefl,List.contains_cons,BEq.rfl,Bool.true_or]
 | succ k ih =>
  intro i hi s h h0 h1 h5 h6 h21 h22 h23 hh;have ih':=ih (i+1) (by omega);have e1:((i:Int) < (a.length:Int))=True:=tt (by omega);have e2:aZ (az a) (i:Int)=some (.ipt [U (a.getD i 0:Nat)]):=bh rfl (by omega);have e3:IntKind.i64.wrap ((i:Int)+1)=((i+1:Nat):Int):=wi (by omega) (by omega);have e4:(0≤(i:Int))=True:=tt (by omega);have e5:((i:Int) < ((a.length+1:Nat):Int))=True:=tt (by omega);have e6:=FF (bt ha i) (bt hb i) (xA ha hb i);have e7:(az (bV a b i++List.replicate (k+1+1) 0))[i]?=some [U (0:Nat)]:=by
   grind [gS,dD]
  have e8:(az (bV a b i++List.replicate (k+1+1) 0)).set i [U ((a.getD i 0+b.getD i 0+cry a b i) % 4294967296:Nat)]=az (bV a b (i+1)++List.replicate (k+1) 0):=by
   rw [jT];grind [cry,vA,bV,List.range_succ]
  rw [ai];by_cases hb':i < b.length
  ·have e9:((i:Int) < (b.length:Int))=True:=tt (by omega);have e10:aZ (az b) (i:Int)=some (.ipt [U (b.getD i 0:Nat)]):=bh rfl hb';simp only [gQ,go_sem,am4,am3,am5,h0,h1,h5,h6,h21,h22,h23,hh,List.contains_cons,BEq.rfl,Bool.true_or,e1,e2,e3,e4,e5,e6,e7,e8,e9,e10,Int.toNat_natCast,Nat.zero_add];exact ih' _ _ rfl rfl rfl rfl rfl rfl rfl rfl
  ·have e9:((i:Int) < (b.length:Int))=False:=ff (by omega);have e10:b.getD i 0=0:=by grind
   have e6':=FF (bt ha i) (y:=0) (by omega) (xA ha hb i);simp only [Int.natCast_zero] at e6';have e8':(az (bV a b i++List.replicate (k+1+1) 0)).set i [U ((a.getD i 0+0+cry a b i) % 4294967296:Nat)]=az (bV a b (i+1)++List.replicate (k+1) 0):=by
    grind
   simp only [gQ,go_sem,am4,am3,am5,h0,h1,h5,h6,h21,h22,h23,hh,List.contains_cons,BEq.rfl,Bool.true_or,e1,e2,e3,e4,e5,e7,e8',e9,Int.toNat_natCast,Nat.zero_add,e6'];refine ih' _ _ rfl rfl rfl ?_ rfl rfl rfl rfl;simp only [cry,e10];rfl
theorem lO {i j:Int} {l c:Nat} (hi:i=l) (hj:j=c) (h:l≤c) (hc:c < 9223372036854775808):oW (I i) (I j)=some (l,c):=by
 simp only [oW];grind
noncomputable def FG:Cmd:=.seq (.ops [0,1,5] [cm 17 0,co 18 (.len false (.t 17)),co 19 (.bin .add (.t 18) (.c (.v (.int .i64 1)))),⟨(some 20),none,.mkSl 1 [(.v (.int .u32 0))] 4 (.t 19) (.t 19)⟩,cm 5 20]) (.seq (.ops [0,1,5,6] [co 6 (.mv (.c (.v (.int .u32 0))))]) (.seq (.seq (.ops [0,1,5,6,21,22,23] [cm 21 0,co 22 (.len false (.t 21)),co 23 (.mv (.c (.v (.int .i64 0))))]) (.block 0 [0,5,6] (.loop [0,1,5,6,21,22,23] [20] gQ))) (.seq (.ops [5] [cm 47 5,cm 48 0,co 49 (.len false (.t 48)),cm 50 6,co 51 (.iadrS 1 (.t 47) (.t 49)),⟨none,none,.store 1 (.t 51) (.t 50)⟩]) (.seq (.ops [4] [cm 52 5,cm 4 52]) (.ret)))))
theorem Nf {a b:List Nat} (ha:Lb a) (hb:Lb b) (hl:b.length≤a.length) (h2:a.length≤100000):∀ (s:ae),s 0=lm a→s 1=lm b →
  ak R (aG false) FG s (fun _=>.dead)=some (.ret,⟨upd (fun _=>.any) 4 (.rsl 20 none 1 0 (a.length+1)),upd (upd (fun _=>.dead) 20 (.ar 1 (az (bV a b a.length++[0])))) 20 (.ar 1 (az (cB (a.length+1) (aa a+aa b))))⟩):=by
 intro s h0 h1;have e1:IntKind.i64.wrap ((a.length:Int)+1)=((a.length+1:Nat):Int):=wi (by omega) (by omega);have e2:=lO (i:=((a.length+1:Nat):Int)) (j:=((a.length+1:Nat):Int)) (l:=a.length+1) (c:=a.length+1) rfl rfl (Nat.le_refl _) (by omega);have e3:((a.length+1)*4≤140737488355328)=True:=tt (by omega);have e4:=W9 ha hb hl (by omega) a.length 0 (by omega);have e5:az (List.replicate (a.length+1) 0)=az (bV a b 0++List.replicate (a.length+1) 0):=rfl;have e6:(0≤(a.length:Int))=True:=tt (by omega);have e7:((a.length:Int) < ((a.length+1:Nat):Int))=True:=tt (by omega);have e8:(az (bV a b a.length++[0]))[a.length]?=some [U (0:Nat)]:=by
  grind [gS,dD]
 have e9:(az (bV a b a.length++[0])).set a.length [U (cry a b a.length:Nat)]=az (cB (a.length+1) (aa a+aa b)):=by
  rw [jT]
  simp_all [dD,List.replicate,Nat.sub_self,List.replicate_zero,List.append_nil,W8]
 simp only [FG,go_sem,h0,h1,e1,e2,e3,tI,e5];rw [e4 _ _ rfl rfl rfl rfl rfl rfl rfl rfl];simp only [go_sem,am5,e6,e7,e8,e9,Int.toNat_natCast,Nat.zero_add]
theorem Ng:BH=.seq (.ops [0,1] [co 4 (.mv (.c .emp))]) (.seq (.seq (.ops [0,1,14] [cm 10 0,co 11 (.len false (.t 10)),cm 12 1,co 13 (.len false (.t 12)),co 14 (.bin .lss (.t 11) (.t 13))]) (.cond (.t 14) (.ops [0,1] [cm 15 1,cm 16 0,cm 0 15,cm 1 16]) (.skip))) FG):=rfl
theorem UF {a b:List Nat} (ha:Lb a) (hb:Lb b) (h1:a.length≤100000) (h2:b.length≤100000):R F.natural_add [lm a,lm b] []=some (lm (cB (max a.length b.length+1) (aa a+aa b)),[]):=by
 refine aE Ll rfl ?_;by_cases h:a.length < b.length
 ·have e1:((a.length:Int) < (b.length:Int))=True:=tt (by omega);have e2:=Nf hb ha (by omega) h2;simp only [px,Ng,go_sem,e1];rw [e2 _ rfl rfl];simp only [go_sem,am5,bK,Nat.zero_add,Nat.le_refl];grind
 ·have e1:((a.length:Int) < (b.length:Int))=False:=ff (by omega);have e2:=Nf ha hb (by omega) h1;simp only [px,Ng,go_sem,e1];rw [e2 _ rfl rfl];simp only [go_sem,am5,bK,Nat.zero_add,Nat.le_refl];grind
theorem UG {a b:List Nat} (ha:Lb a) (hb:Lb b) (h1:a.length≤256) (h2:b.length≤256):R F.natural_Add [lm a,lm b] []=some (gX (aa a+aa b),[]):=by
 refine aE Lf rfl ?_;have e1:(256 < a.length)=False:=ff (by omega);have e2:(256 < b.length)=False:=ff (by omega);have e3:aa (cB (max a.length b.length+1) (aa a+aa b))=aa a+aa b:=by
  rw [iw,Nat.mod_eq_of_lt];have h1:=bR ha;have h2:=bR hb;have h3:4294967296 ^ a.length≤4294967296 ^ max a.length b.length:=Nat.pow_le_pow_right (by omega) (by omega);have h4:4294967296 ^ b.length≤4294967296 ^ max a.length b.length:=Nat.pow_le_pow_right (by omega) (by omega);omega
 have e4:=zU (jS (max a.length b.length+1) (aa a+aa b)) (by grind [bK]);rw [e3] at e4;unfold gX at e4 ⊢;by_cases hl:256 < (ao (aa a+aa b)).length
 ·simp only [hl,if_true] at e4 ⊢;simp only [pu,vf,go_sem,am4,am3,am5,am6,e1,e2,oK,UF ha hb (by omega) (by omega),e4]
 ·simp only [hl,if_false] at e4 ⊢;simp only [pu,vf,go_sem,am4,am3,am5,am6,e1,e2,oK,UF ha hb (by omega) (by omega),e4]
def bC (x y:Nat):Int:=if x < y then -1 else if y < x then 1 else 0
theorem mw {x y:Nat} (h:(ao x).length < (ao y).length):x < y:=by
 have h1:=du x;have hy:y ≠ 0:=by grind [ef]
 have h2:=Kl hy;have h3:4294967296 ^ (ao x).length≤4294967296 ^ ((ao y).length - 1):=Nat.pow_le_pow_right (by omega) (by omega);omega
noncomputable def m6:Cmd:=.seq (.ops [4] [co 4 (.mv (.c (.v (.int .i64 0))))]) (.ret)
theorem Xa {a b:List Nat} (ha:Lb a) (hb:Lb b) (hl:a.length=b.length) (h2:a.length≤100000):∀ (k:Nat),k≤a.length→∀ (s:ae) (h:ac),s 0=lm a→s 1=lm b→s 5=I ((k:Int) - 1) →
  cj (ap 0 [] (aq (ak R (aG false) fC) [0,1,5] [] s h)) (ak R (aG false) m6)=some (.ret,⟨upd (fun _=>.any) 4 (I (bC (aa (a.take k)) (aa (b.take k)))),fun _=>.dead⟩):=by
 intro k;induction k with
 | zero =>
  intro hk s h h0 h1 h5;rw [ai];have e1:(0≤((0:Nat):Int) - 1)=False:=ff (by omega);have e2:bC (aa []) (aa [])=0:=rfl;simp only [fC,m6,go_sem,h0,h1,h5,e1,e2]
 | succ k ih =>
  intro hk s h h0 h1 h5;have ih':=ih (by omega);have e1:(0≤((k+1:Nat):Int) - 1)=True:=tt (by omega);have e2:aZ (az a) (((k+1:Nat):Int) - 1)=some (.ipt [U (a.getD k 0:Nat)]):=bh (by omega) (by omega);have e3:aZ (az b) (((k+1:Nat):Int) - 1)=some (.ipt [U (b.getD k 0:Nat)]):=bh (by omega) (by omega);have e4:IntKind.i64.wrap (((k+1:Nat):Int) - 1 - 1)=(k:Int) - 1:=by grind [i64_in]
  have va:=dm a k;have vb:=dm b k;have la:=bR (dC ha k);have lb:=bR (dC hb k);rw [List.length_take,Nat.min_eq_left (by omega)] at la lb;rw [ai];rcases Nat.lt_trichotomy (a.getD k 0) (b.getD k 0) with hlt | heq | hgt
  ·have e5:((a.getD k 0:Int) < (b.getD k 0:Int))=True:=tt (by omega);have e6:bC (aa (a.take (k+1))) (aa (b.take (k+1)))=-1:=by
    have:4294967296 ^ k*(a.getD k 0+1)≤4294967296 ^ k*b.getD k 0:=Nat.mul_le_mul_left _ hlt;rw [Nat.mul_add] at this;simp only [bC];omega
   simp only [fC,m6,go_sem,h0,h1,h5,e1,e2,e3,e5,e6]
  ·have e5:((a.getD k 0:Int) < (b.getD k 0:Int))=False:=ff (by omega);have e7:((b.getD k 0:Int) < (a.getD k 0:Int))=False:=ff (by omega);have e6:bC (aa (a.take (k+1))) (aa (b.take (k+1)))=bC (aa (a.take k)) (aa (b.take k)):=by
    grind [bC]
   simp only [fC,go_sem,h0,h1,h5,e1,e2,e3,e5,e6,e7,e4];exact ih' _ _ rfl rfl rfl
  ·have e5:((a.getD k 0:Int) < (b.getD k 0:Int))=False:=ff (by omega);have e7:((b.getD k 0:Int) < (a.getD k 0:Int))=True:=tt (by omega);have e6:bC (aa (a.take (k+1))) (aa (b.take (k+1)))=1:=by
    have:4294967296 ^ k*(b.getD k 0+1)≤4294967296 ^ k*a.getD k 0:=Nat.mul_le_mul_left _ hgt;rw [Nat.mul_add] at this;simp only [bC];omega
   simp only [fC,m6,go_sem,h0,h1,h5,e1,e2,e3,e5,e6,e7]
theorem FH:By=.seq (.ops [0,1] [co 4 (.mv (.c (.v (.int .i64 0))))]) (.seq (.ops [0,1] [cm 6 0,⟨(some 7),none,.call (.c (.fn F.natural_trim [] [])) [(.t 6)]⟩,cm 8 1,⟨(some 9),none,.call (.c (.fn F.natural_trim [] [])) [(.t 8)]⟩,cm 0 7,cm 1 9]) (.seq (.seq (.ops [0,1,14] [cm 10 0,co 11 (.len false (.t 10)),cm 12 1,co 13 (.len false (.t 12)),co 14 (.bin .neq (.t 11) (.t 13))]) (.cond (.t 14) (.seq (.seq (.ops [19] [cm 15 0,co 16 (.len false (.t 15)),cm 17 1,co 18 (.len false (.t 17)),co 19 (.bin .lss (.t 16) (.t 18))]) (.cond (.t 19) (.seq (.ops [4] [co 4 (.mv (.c (.v (.int .i64 (-1)))))]) (.ret)) (.skip))) (.seq (.ops [4] [co 4 (.mv (.c (.v (.int .i64 1))))]) (.ret))) (.skip))) (.seq (.seq (.ops [0,1,5] [cm 20 0,co 21 (.len false (.t 20)),co 22 (.bin .sub (.t 21) (.c (.v (.int .i64 1)))),cm 5 22]) (.block 0 [] (.loop [0,1,5] [] fC))) m6))):=rfl
theorem bX (m:List Nat) (h:Lb m):(ao (aa m)).length≤m.length:=gu (bR h)
theorem uH {a b:List Nat} (ha:Lb a) (hb:Lb b) (h1:a.length≤100000) (h2:b.length≤100000):R F.natural_Cmp [lm a,lm b] []=some (I (bC (aa a) (aa b)),[]):=by
 refine aE K7 rfl ?_;have la:=bX a ha;rcases Nat.lt_trichotomy (ao (aa a)).length (ao (aa b)).length with hlt | heq | hgt
 ·have e1:((ao (aa a)).length:Int)=((ao (aa b)).length:Int)↔False:=⟨fun h=>by omega,False.elim⟩;have e2:(((ao (aa a)).length:Int) < ((ao (aa b)).length:Int))=True:=tt (by omega);have e3:bC (aa a) (aa b)=-1:=by grind [bC,mw]
  simp only [lB,FH,go_sem,am4,am3,cz ha (by omega),cz hb (by omega),e1,e2,e3]
 ·have e2:IntKind.i64.wrap (((ao (aa b)).length:Int) - 1)=((ao (aa b)).length:Int) - 1:=by grind [i64_in]
  have e3:=Xa (aO (aa a)) (aO (aa b)) heq (by omega) (ao (aa a)).length (Nat.le_refl _);rw [List.take_length,heq,List.take_length,aK,aK] at e3;simp only [lB,FH,go_sem,am4,am3,cz ha (by omega),cz hb (by omega),heq,e2];rw [e3 _ _ rfl rfl rfl];simp only [go_sem]
 ·have e1:((ao (aa a)).length:Int)=((ao (aa b)).length:Int)↔False:=⟨fun h=>by omega,False.elim⟩;have e2:(((ao (aa a)).length:Int) < ((ao (aa b)).length:Int))=False:=ff (by omega);have e3:bC (aa a) (aa b)=1:=by
   have:=mw hgt;simp only [bC];omega
  simp only [lB,FH,go_sem,am4,am3,cz ha (by omega),cz hb (by omega),e1,e2,e3]
theorem Zj (v:BitVec 32):v.toNat / 2147483648=if v.msb=true then 1 else 0:=by
 have h:=v.isLt;grind
theorem SY {x y c:Nat} (hx:x < 4294967296) (hy:y < 4294967296) (hc:c≤1) (D:BitVec 32) (hD:D.toNat=(x+4294967296 - y - c) % 4294967296) :
  ((~~~(BitVec.ofNat 32 x) &&& BitVec.ofNat 32 y) ||| (~~~(BitVec.ofNat 32 x ^^^ BitVec.ofNat 32 y) &&& D)).toNat / 2147483648=if x < y+c then 1 else 0:=by
 grind [Zj,BitVec.ofNat,BitVec.msb_eq_decide,BitVec.msb_or,BitVec.msb_and,BitVec.msb_not,BitVec.msb_xor]
theorem ofI (n:Nat):BitVec.ofInt 32 (n:Int)=BitVec.ofNat 32 n:=by simp
theorem ahO (v:BitVec 32):IntKind.u32.wrap (v.toNat:Int)=(v.toNat:Int):=by
 have:=v.isLt;grind [IntKind.wrap_u32]
theorem Nh {x y c:Nat} (hx:x < 4294967296) (hy:y < 4294967296) (hc:c≤1):R F.bits_Sub32 [U x,U y,U c] []=some (.tup [U (((x+4294967296 - y - c) % 4294967296:Nat)),U ((if x < y+c then 1 else 0:Nat))],[]):=by
 refine aE Na rfl ?_;have e1:IntKind.u32.wrap ((x:Int) - y)=(((x+4294967296 - y) % 4294967296:Nat):Int):=by grind [IntKind.wrap_u32]
 have e2:IntKind.u32.wrap ((((x+4294967296 - y) % 4294967296:Nat):Int) - c)=(((x+4294967296 - y - c) % 4294967296:Nat):Int):=by grind [IntKind.wrap_u32]
 have b:IntKind.u32.bits=32:=rfl;have e3:BitVec.ofInt 32 (if IntKind.u32.signed=true then (-1:Int) else IntKind.u32.max)=BitVec.allOnes 32:=by decide
 have e4:∀ v:BitVec 32,BitVec.allOnes 32 ^^^ v = ~~~v:=fun v=>BitVec.not_def.symm;have e5:∀ v:BitVec 32,BitVec.ofNat 32 v.toNat=v:=fun v=>by simp
 have key:=SY hx hy hc (BitVec.ofNat 32 ((x+4294967296 - y - c) % 4294967296)) (by simp);have sh:∀ v:BitVec 32,cK .shr (.v (.int .u32 (v.toNat:Int))) (.v (.int .u64 31))=some (.v (.int .u32 ((v.toNat / 2147483648:Nat):Int))):=fun v=>by
  simp_all [zu,if_neg,Option.some.injEq,AV.v.injEq,Value.int.injEq,true_and,Int.fdiv_eq_ediv_of_nonneg]
 simp only [vz,CB,go_sem,e1,e2,ofI,e3,e5,ahO,sh];grind
def iq (a b:List Nat):Nat→Nat
 | 0=>0
 | i+1=>if a.getD i 0 < b.getD i 0+iq a b i then 1 else 0
def xD (a b:List Nat) (i:Nat):Nat:=(a.getD i 0+4294967296 - b.getD i 0 - iq a b i) % 4294967296
def fO (a b:List Nat) (i:Nat):List Nat:=(List.range i).map (xD a b)
theorem zV (a b:List Nat) (i:Nat):iq a b i≤1:=by
 cases i with
 | zero=>simp [iq]
 | succ i=>grind [iq]
theorem Ni {a b:List Nat} (ha:Lb a) (hb:Lb b):∀ i,aa (fO a b i)+aa (b.take i)=aa (a.take i)+4294967296 ^ i*iq a b i
 | 0=>by simp [fO,iq,aa]
 | i+1=>by
  have ih:=Ni ha hb i;rw [dm a i,dm b i];simp only [fO] at ih ⊢;rw [xB,Nat.pow_succ];have h1:=bt ha i;have h2:=bt hb i;have h3:=zV a b i;have e:xD a b i+b.getD i 0+iq a b i=a.getD i 0+4294967296*iq a b (i+1):=by
   grind [xD,iq]
  grind
theorem kF (a b:List Nat) (i:Nat):(fO a b i).length=i:=by simp [fO]
theorem IL (a b:List Nat) (i:Nat):Lb (fO a b i):=fun x hx=>by
 simp only [fO,List.mem_map] at hx;obtain ⟨j,_,rfl⟩:=hx;simp only [xD];omega
theorem Nj {a b:List Nat} (ha:Lb a) (hb:Lb b) (hl:b.length≤a.length) (hv:aa b≤aa a):fO a b a.length=cB a.length (aa a - aa b):=by
 have h:=Ni ha hb a.length;rw [List.take_length,List.take_of_length_le hl] at h;have h1:=bR (IL a b a.length);rw [kF] at h1;have hz:iq a b a.length=0:=by
  grind [zV,Nat.eq_zero_or_pos,iq]
 rw [hz] at h;have h2:=AL (IL a b a.length);rw [kF,show aa (fO a b a.length)=aa a - aa b from by omega] at h2;exact h2.symm
theorem Xb {a b:List Nat} (ha:Lb a) (hb:Lb b) (h2:a.length≤100000):∀ (k i:Nat),i+k=a.length→∀ (s:ae) (h:ac),s 1=lm b→s 5=.rsl 16 none 1 0 a.length→s 6=U (iq a b i:Nat) →
  s 17=lm a→s 18=I (a.length:Nat)→s 19=I i→h 16=.ar 1 (az (fO a b i++List.replicate k 0)) →
  ap 0 [5] (aq (ak R (aG false) jA) [1,5,6,17,18,19] [16] s h) =
   some (.normal,⟨upd (fun _=>.any) 5 (.rsl 16 none 1 0 a.length),upd (fun _=>.dead) 16 (.ar 1 (az (fO a b a.length)))⟩):=by
 intro k;induction k with
 | zero =>
  intro i hi s h h1 h5 h6 h17 h18 h19 hh;have:i=a.length:=by omega
  subst this;rw [ai];simp only [jA,go_sem,am7,h1,h5,h6,h17,h18,h19,hh,Int.lt_irrefl]
 | succ k ih =>
  intro i hi s h h1 h5 h6 h17 h18 h19 hh;have ih':=ih (i+1) (by omega);have e1:((i:Int) < (a.length:Int))=True:=tt (by omega);have e2:aZ (az a) (i:Int)=some (.ipt [U (a.getD i 0:Nat)]):=bh rfl (by omega);have e3:IntKind.i64.wrap ((i:Int)+1)=((i+1:Nat):Int):=wi (by omega) (by omega);have e4:(0≤(i:Int))=True:=tt (by omega);have e7:(az (fO a b i++List.replicate (k+1) 0))[i]?=some [U (0:Nat)]:=by
   grind [gS,kF]
  have e8:(az (fO a b i++List.replicate (k+1) 0)).set i [U ((a.getD i 0+4294967296 - b.getD i 0 - iq a b i) % 4294967296:Nat)]=az (fO a b (i+1)++List.replicate k 0):=by
   rw [jT];grind [iq,xD,fO,List.range_succ]
  rw [ai];by_cases hb':i < b.length
  ·have e6:=Nh (bt ha i) (bt hb i) (zV a b i);have e9:((i:Int) < (b.length:Int))=True:=tt (by omega);have e10:aZ (az b) (i:Int)=some (.ipt [U (b.getD i 0:Nat)]):=bh rfl hb';simp only [jA,go_sem,am4,am3,am5,am7,h1,h5,h6,h17,h18,h19,hh,e1,e2,e3,e4,e6,e7,e8,e9,e10,Int.toNat_natCast,Nat.zero_add];exact ih' _ _ rfl rfl rfl rfl rfl rfl rfl
  ·have e9:((i:Int) < (b.length:Int))=False:=ff (by omega);have e10:b.getD i 0=0:=by grind
   have e6':=Nh (bt ha i) (y:=0) (by omega) (zV a b i);simp only [Int.natCast_zero] at e6';have e8':(az (fO a b i++List.replicate (k+1) 0)).set i [U ((a.getD i 0+4294967296 - 0 - iq a b i) % 4294967296:Nat)]=az (fO a b (i+1)++List.replicate k 0):=by
    grind
   simp only [jA,go_sem,am4,am3,am5,am7,h1,h5,h6,h17,h18,h19,hh,e1,e2,e3,e4,e6',e7,e8',e9,Int.toNat_natCast,Nat.zero_add];refine ih' _ _ rfl rfl ?_ rfl rfl rfl rfl;simp only [iq,e10,Nat.zero_add];rfl
theorem UH {a b:List Nat} (ha:Lb a) (hb:Lb b) (h1:a.length≤100000) (h2:b.length≤100000) (hv:aa b≤aa a):R F.natural_sub [lm a,lm b] []=some (lm (cB (ao (aa a)).length (aa a - aa b)),[]):=by
 refine aE Lm rfl ?_;have la:=bX a ha;have lb:(ao (aa b)).length≤(ao (aa a)).length:=by
  rcases Nat.lt_or_ge (ao (aa a)).length (ao (aa b)).length with h | h
  ·have:=mw h; omega
  omega
 have e2:=lO (i:=((ao (aa a)).length:Int)) (j:=((ao (aa a)).length:Int)) rfl rfl (Nat.le_refl _) (by omega);have e3:((ao (aa a)).length*4≤140737488355328)=True:=tt (by omega);have e4:=Xb (aO (aa a)) (aO (aa b)) (by omega) (ao (aa a)).length 0 (by omega);have e5:az (List.replicate (ao (aa a)).length 0)=az (fO (ao (aa a)) (ao (aa b)) 0++List.replicate (ao (aa a)).length 0):=rfl;have e6:=Nj (aO (aa a)) (aO (aa b)) lb (by grind [aK]);rw [aK,aK] at e6;simp only [tD,BI,go_sem,am4,am3,cz ha (by omega),cz hb (by omega),e2,e3,tI,e5];rw [e4 _ _ rfl rfl rfl rfl rfl rfl rfl];simp only [go_sem,am5,am6,e6,bK,Nat.zero_add,Nat.le_refl]
theorem UI {a b:List Nat} (ha:Lb a) (hb:Lb b) (h1:a.length≤256) (h2:b.length≤256):R F.natural_Sub [lm a,lm b] []=some (if aa a < aa b then .tup [lm [],I 2] else gX (aa a - aa b),[]):=by
 refine aE Lg rfl ?_;have e1:(256 < a.length)=False:=ff (by omega);have e2:(256 < b.length)=False:=ff (by omega);by_cases hv:aa a < aa b
 ·have e3:bC (aa a) (aa b)=-1:=by grind [bC]
  simp only [lF,qC,go_sem,am4,am3,am5,am6,am8,e1,e2,oK,uH ha hb (by omega) (by omega),e3,hv]
 ·have e3:(bC (aa a) (aa b) < 0)=False:=ff (by grind [bC]);have e5:aa (cB (ao (aa a)).length (aa a - aa b))=aa a - aa b:=by
   rw [iw,Nat.mod_eq_of_lt];grind [du,aa]
  have e4:=zU (jS (ao (aa a)).length (aa a - aa b)) (by grind [bK,bX]);rw [e5] at e4;unfold gX at e4 ⊢;by_cases hl:256 < (ao (aa a - aa b)).length
  ·simp only [hl,if_true] at e4 ⊢;simp only [lF,qC,go_sem,am4,am3,am5,am6,e1,e2,oK,uH ha hb (by omega) (by omega),e3,hv,UH ha hb (by omega) (by omega) (by omega),e4]
  ·simp only [hl,if_false] at e4 ⊢;simp only [lF,qC,go_sem,am4,am3,am5,am6,e1,e2,oK,uH ha hb (by omega) (by omega),e3,hv,UH ha hb (by omega) (by omega) (by omega),e4]
def mi (x:Nat):Nat→List Nat→List Nat→List Nat × Nat
 | c,y::bs,o::s=>(((x*y+o+c) % 4294967296)::(mi x ((x*y+o+c) / 4294967296) bs s).1,(mi x ((x*y+o+c) / 4294967296) bs s).2)
 | c,_,s=>(s,c)
theorem UJ (x:Nat):∀ (bs s r:List Nat) (c:Nat),bs.length≤s.length→mi x c bs (s++r)=((mi x c bs s).1++r,(mi x c bs s).2)
 | [],s,r,c,_=>by simp [mi]
 | y::bs,[],r,c,h=>by grind
 | y::bs,o::s,r,c,h=>by
  have ih:=UJ x bs s r ((x*y+o+c) / 4294967296) (by simpa using h);simp only [List.cons_append,mi,ih]
theorem CO (x:Nat):∀ (bs s:List Nat) (c:Nat),(mi x c bs s).1.length=s.length
 | [],s,c=>by simp [mi]
 | y::bs,[],c=>by simp [mi]
 | y::bs,o::s,c=>by simp [mi,CO x bs s]
theorem YI (x:Nat):∀ (bs s:List Nat) (c:Nat),Lb s→Lb (mi x c bs s).1
 | [],s,c,h=>by grind [mi]
 | y::bs,[],c,h=>by grind [mi]
 | y::bs,o::s,c,h=>by
  exact fH.2 ⟨by omega,YI x bs s _ (fH.1 h).2⟩
theorem UK {x y o c:Nat} (hx:x < 4294967296) (hy:y < 4294967296) (ho:o < 4294967296) (hc:c < 4294967296):x*y+o+c < 18446744073709551616:=by
 have:x*y≤4294967295*4294967295:=Nat.mul_le_mul (by omega) (by omega);omega
theorem FI {x:Nat} (hx:x < 4294967296):∀ (bs s:List Nat) (c:Nat),Lb bs→Lb s→c < 4294967296→(mi x c bs s).2 < 4294967296
 | [],s,c,_,_,hc=>by grind [mi]
 | y::bs,[],c,_,_,hc=>by grind [mi]
 | y::bs,o::s,c,hb,hs,hc=>by
  have:=UK hx (fH.1 hb).1 (fH.1 hs).1 hc;exact FI hx bs s _ (fH.1 hb).2 (fH.1 hs).2 (by omega)
theorem UM (x:Nat):∀ (bs s:List Nat) (c:Nat),bs.length=s.length→aa (mi x c bs s).1+4294967296 ^ s.length*(mi x c bs s).2=aa s+x*aa bs+c
 | [],[],c,_=>by simp [mi,aa]
 | [],o::s,c,h=>by grind
 | y::bs,[],c,h=>by grind
 | y::bs,o::s,c,h=>by
  have ih:=UM x bs s ((x*y+o+c) / 4294967296) (by grind);simp only [mi,aa,List.length_cons,Nat.pow_succ];grind
theorem SZ {a b:List Nat} (hb:Lb b) {x i n:Nat} (hx:x < 4294967296) (h2:b.length≤100000) (hi:i≤100000):∀ (bs:List Nat) (k:Nat) (D S:List Nat) (c:Nat),b.drop k=bs→k≤b.length→D.length=i+k→bs.length≤S.length→(D++S).length=n→Lb S→c < 4294967296 →
  ∀ (s:ae) (h:ac),s 18=lm a→s 19=I (a.length:Nat)→s 20=I i→s 1=lm b→s 5=.rsl 17 none 1 0 n→s 6=I i→s 7=U x→s 8=W c→s 25=lm b→s 26=I (b.length:Nat)→s 27=I k→h 17=.ar 1 (az (D++S)) →
  ap 2 [1,5,6,8,18,19,20] (aq (ak R (aG false) jz) [1,5,6,7,8,18,19,20,25,26,27] [17] s h) =
   some (.normal,⟨upd (upd (upd (upd (upd (upd (upd (fun _=>.any) 20 (I i)) 19 (I (a.length:Nat))) 18 (lm a)) 8 (W ((mi x c bs S).2:Nat))) 6 (I i)) 5 (.rsl 17 none 1 0 n)) 1 (lm b),upd (fun _=>.dead) 17 (.ar 1 (az (D++(mi x c bs S).1)))⟩):=by
 intro bs;induction bs with
 | nil =>
  intro k D S c hd hk hD hS hn hLS hc s h h18 h19 h20 h1 h5 h6 h7 h8 h25 h26 h27 hh;have:k=b.length:=by
   grind
  subst this;rw [ai];simp only [jz,go_sem,am7,h18,h19,h20,h1,h5,h6,h7,h8,h25,h26,h27,hh,Int.lt_irrefl,mi]
 | cons y bs ih =>
  intro k D S c hd hk hD hS hn hLS hc s h h18 h19 h20 h1 h5 h6 h7 h8 h25 h26 h27 hh;obtain ⟨o,S,rfl⟩:∃ o S',S=o::S':=by
   cases S with
   | nil=>grind
   | cons o S=>grind
  have hlt:k < b.length:=by
   grind
  have hy:b.getD k 0=y:=by
   have:=congrArg (·[0]?) hd;grind
  have hyb:y < 4294967296:=by grind [bt]
  have hob:o < 4294967296:=(fH.1 hLS).1;have hml:=UK hx hyb hob hc;have hxy:x*y < 18446744073709551616:=by omega
  have ih':=ih (k+1) (D++[(x*y+o+c) % 4294967296]) S ((x*y+o+c) / 4294967296) (by rw [← List.drop_drop,hd]; rfl) hlt (by grind) (by grind) (by grind) (fH.1 hLS).2 (by omega);have e1:((k:Int) < (b.length:Int))=True:=tt (by omega);have e2:aZ (az b) (k:Int)=some (.ipt [U (y:Nat)]):=by grind [bh]
  have e3:IntKind.i64.wrap ((k:Int)+1)=((k+1:Nat):Int):=wi (by omega) (by omega);have e4:IntKind.i64.wrap ((i:Int)+(k:Int))=((i+k:Nat):Int):=wi (by omega) (by omega);have e5:(0≤((i+k:Nat):Int))=True:=tt (by omega);have hin:i+k < n:=by grind
  have e6:(((i+k:Nat):Int) < (n:Int))=True:=tt (by omega);have e7:(az (D++o::S))[i+k]?=some [U (o:Nat)]:=by
   grind [gS]
  have f1:IntKind.u64.wrap (x:Int)=x:=cI rfl (by omega);have f2:IntKind.u64.wrap (y:Int)=y:=cI rfl (by omega);have f3:IntKind.u64.wrap ((x:Int)*(y:Int))=((x*y:Nat):Int):=cI (by simp) hxy;have f4:IntKind.u64.wrap (o:Int)=o:=cI rfl (by omega);have f5:IntKind.u64.wrap (((x*y:Nat):Int)+(o:Int))=((x*y+o:Nat):Int):=cI (by omega) (by omega);have f6:IntKind.u64.wrap (((x*y+o:Nat):Int)+(c:Int))=((x*y+o+c:Nat):Int):=cI (by omega) (by omega);have f7:IntKind.u32.wrap ((x*y+o+c:Nat):Int)=(((x*y+o+c) % 4294967296:Nat):Int):=AN rfl;have f8:=mr (n:=x*y+o+c) (k:=32) (kk:=.u64) (j:=32) rfl rfl (by omega);have f9:(az (D++o::S)).set (i+k) [U ((x*y+o+c) % 4294967296:Nat)]=az (D++[(x*y+o+c) % 4294967296]++S):=by
   rw [jT,← hD,List.set_append_right _ _ (Nat.le_refl _)];simp
  rw [ai];generalize aq _ _ _=L at ih' ⊢;simp only [jz,go_sem,am5,am7,h18,h19,h20,h1,h5,h6,h7,h8,h25,h26,h27,hh,e1,e2,e3,e4,e5,e6,e7,f1,f2,f3,f4,f5,f6,f7,f8,f9,Int.toNat_natCast,Nat.zero_add,mi];rw [ih' _ _ rfl rfl rfl rfl rfl rfl rfl rfl rfl rfl rfl rfl];grind
def cw (a b:List Nat) (i:Nat):List Nat:=cB (i+b.length) (aa (a.take i)*aa b)
theorem UN {a b:List Nat} (ha:Lb a) (hb:Lb b) {i:Nat} (hi:i < a.length) :
  (cw a b i).take i++((mi (a.getD i 0) 0 b ((cw a b i).drop i)).1++[(mi (a.getD i 0) 0 b ((cw a b i).drop i)).2])=cw a b (i+1):=by
 have hx:=bt ha i;have hP:(cw a b i).length=i+b.length:=bK _ _;have hLP:Lb (cw a b i):=jS _ _;have hS:((cw a b i).drop i).length=b.length:=by grind
 have h1:=UM (a.getD i 0) b ((cw a b i).drop i) 0 hS.symm;have h2:=FI hx b ((cw a b i).drop i) 0 hb (jh hLP i) (by omega);have h3:=YI (a.getD i 0) b ((cw a b i).drop i) 0 (jh hLP i);have h4:=CO (a.getD i 0) b ((cw a b i).drop i) 0;have hvP:aa (cw a b i)=aa (a.take i)*aa b:=by
  unfold cw;rw [iw,Nat.mod_eq_of_lt];have e1:=bR (dC ha i);have e2:=bR hb;rw [List.length_take,Nat.min_eq_left (by omega)] at e1
  simp_all [Nat.pow_add,Nat.mul_lt_mul'']
 have hsplit:aa (cw a b i)=aa ((cw a b i).take i)+4294967296 ^ i*aa ((cw a b i).drop i):=by
  grind [List.take_append_drop,cw,cO,List.length_take,Nat.min_eq_left]
 have hLb:Lb ((cw a b i).take i++((mi (a.getD i 0) 0 b ((cw a b i).drop i)).1++[(mi (a.getD i 0) 0 b ((cw a b i).drop i)).2])) :=
  i8.2 ⟨dC hLP i,i8.2 ⟨h3,fH.2 ⟨h2,CD⟩⟩⟩
 have hval:aa ((cw a b i).take i++((mi (a.getD i 0) 0 b ((cw a b i).drop i)).1++[(mi (a.getD i 0) 0 b ((cw a b i).drop i)).2]))=aa (a.take (i+1))*aa b:=by
  rw [cO,cO,List.length_take,hP,Nat.min_eq_left (by omega),h4,dm a i,Nat.add_mul,← hvP,hsplit];simp only [aa,Nat.mul_zero,Nat.add_zero] at h1 ⊢;grind
 have hlen:((cw a b i).take i++((mi (a.getD i 0) 0 b ((cw a b i).drop i)).1++[(mi (a.getD i 0) 0 b ((cw a b i).drop i)).2])).length=i+1+b.length:=by
  grind
 have:=AL hLb;rw [hlen,hval] at this;exact this.symm
theorem Xc {a b:List Nat} (ha:Lb a) (hb:Lb b) (h1:a.length≤100000) (h2:b.length≤100000):∀ (k i:Nat),i+k=a.length→∀ (s:ae) (h:ac),s 1=lm b→s 5=.rsl 17 none 1 0 (a.length+b.length) →
  s 18=lm a→s 19=I (a.length:Nat)→s 20=I i→h 17=.ar 1 (az (cw a b i++List.replicate k 0)) →
  ap 0 [5] (aq (ak R (aG false) mn) [1,5,18,19,20] [17] s h) =
   some (.normal,⟨upd (fun _=>.any) 5 (.rsl 17 none 1 0 (a.length+b.length)),upd (fun _=>.dead) 17 (.ar 1 (az (cw a b a.length)))⟩):=by
 intro k;induction k with
 | zero =>
  intro i hi s h h1 h5 h18 h19 h20 hh;have:i=a.length:=by omega
  subst this;rw [ai];simp only [mn,go_sem,am7,h1,h5,h18,h19,h20,hh,Int.lt_irrefl]
 | succ k ih =>
  intro i hi s h g1 h5 h18 h19 h20 hh;have ih':=ih (i+1) (by omega);have hx:=bt ha i;have hP:(cw a b i).length=i+b.length:=bK _ _;have hLP:Lb (cw a b i):=jS _ _;have hsp:cw a b i++List.replicate (k+1) 0=(cw a b i).take i++((cw a b i).drop i++List.replicate (k+1) 0):=by rw [← List.append_assoc,List.take_append_drop]
  have e1:((i:Int) < (a.length:Int))=True:=tt (by omega);have e2:aZ (az a) (i:Int)=some (.ipt [U (a.getD i 0:Nat)]):=bh rfl (by omega);have e3:IntKind.i64.wrap ((i:Int)+1)=((i+1:Nat):Int):=wi (by omega) (by omega);have e4:IntKind.i64.wrap ((i:Int)+(b.length:Int))=((i+b.length:Nat):Int):=wi (by omega) (by omega);have e5:(0≤((i+b.length:Nat):Int))=True:=tt (by omega);have e6:(((i+b.length:Nat):Int) < ((a.length+b.length:Nat):Int))=True:=tt (by omega);have lp:=SZ (a:=a) hb (x:=a.getD i 0) (i:=i) (n:=a.length+b.length) hx h2 (by omega) b 0 ((cw a b i).take i) ((cw a b i).drop i++List.replicate (k+1) 0) 0 rfl (Nat.zero_le _) (by grind) (by grind) (by grind)
   (i8.2 ⟨jh hLP i,fun y hy=>by grind⟩) (by omega)
  rw [UJ _ _ _ _ _ (by grind)] at lp;have ml:(mi (a.getD i 0) 0 b ((cw a b i).drop i)).1.length=b.length:=by grind [CO]
  have mc:=FI hx b ((cw a b i).drop i) 0 hb (jh hLP i) (by omega);have ps:=UN ha hb (show i < a.length from by omega);rw [hsp] at hh;generalize mi (a.getD i 0) 0 b ((cw a b i).drop i)=r at *
  have f1:IntKind.u32.wrap (r.2:Int)=(r.2:Int):=vN rfl mc;have e7:(az ((cw a b i).take i++(r.1++List.replicate (k+1) 0)))[i+b.length]?=some [U (0:Nat)]:=by
   grind [List.append_assoc,gS]
  have e8:(az ((cw a b i).take i++(r.1++List.replicate (k+1) 0))).set (i+b.length) [U (r.2:Nat)]=az (cw a b (i+1)++List.replicate k 0):=by
   grind [List.append_assoc,jT,xC,cw]
  rw [ai];generalize aq _ _ _=L at ih' ⊢;simp only [mn,go_sem,am7,g1,h5,h18,h19,h20,hh,e1,e2];rw [lp _ _ rfl rfl rfl rfl rfl rfl rfl rfl rfl rfl rfl rfl];simp only [go_sem,am5,e3,e4,e5,e6,e7,e8,f1,Int.toNat_natCast,Nat.zero_add];exact ih' _ _ rfl rfl rfl rfl rfl rfl
theorem abe {a b:List Nat} (ha:Lb a) (hb:Lb b) (h1:a.length≤100000) (h2:b.length≤100000):R F.natural_mul [lm a,lm b] []=some (lm (cB (a.length+b.length) (aa a*aa b)),[]):=by
 refine aE Li rfl ?_;have e1:IntKind.i64.wrap ((a.length:Int)+(b.length:Int))=((a.length+b.length:Nat):Int):=wi (by omega) (by omega);have e2:=lO (i:=((a.length+b.length:Nat):Int)) (j:=((a.length+b.length:Nat):Int)) rfl rfl (Nat.le_refl _) (by omega);have e3:((a.length+b.length)*4≤140737488355328)=True:=tt (by omega);have e4:=Xc ha hb h1 h2 a.length 0 (by omega);have e0:cw a b 0=List.replicate b.length 0:=by
  have:∀ n,cB n 0=List.replicate n 0:=fun n=>by
   induction n with
   | zero=>rfl
   | succ n ih=>simp [cB,ih,List.replicate_succ]
  grind [cw,aa]
 have e5:az (List.replicate (a.length+b.length) 0)=az (cw a b 0++List.replicate a.length 0):=by
  rw [e0,List.replicate_append_replicate,Nat.add_comm]
 have e6:cw a b a.length=cB (a.length+b.length) (aa a*aa b):=by rw [cw,List.take_length]
 simp only [tv,BD,go_sem,e1,e2,e3,tI,e5];rw [e4 _ _ rfl rfl rfl rfl rfl rfl];simp only [go_sem,am5,am6,e6,bK,Nat.zero_add,Nat.le_refl]
theorem UO {a b:List Nat} (ha:Lb a) (hb:Lb b) (h1:a.length≤256) (h2:b.length≤256):R F.natural_Mul [lm a,lm b] []=some (gX (aa a*aa b),[]):=by
 refine aE Ld rfl ?_;have e1:(256 < a.length)=False:=ff (by omega);have e2:(256 < b.length)=False:=ff (by omega);have la:=bX a ha;have lb:=bX b hb;have e3:=abe (aO (aa a)) (aO (aa b)) (by omega) (by omega);rw [aK,aK] at e3;have e4:=zU (jS ((ao (aa a)).length+(ao (aa b)).length) (aa a*aa b)) (by grind [bK]);rw [iw,Nat.mod_eq_of_lt (by simp_all [Nat.pow_add,Nat.mul_lt_mul'',du])] at e4;unfold gX at e4 ⊢;by_cases hl:256 < (ao (aa a*aa b)).length
 ·simp only [hl,if_true] at e4 ⊢;simp only [pp,ve,go_sem,am4,am3,am5,am6,e1,e2,oK,cz ha (by omega),cz hb (by omega),e3,e4]
 ·simp only [hl,if_false] at e4 ⊢;simp only [pp,ve,go_sem,am4,am3,am5,am6,e1,e2,oK,cz ha (by omega),cz hb (by omega),e3,e4]
theorem wt {n m:Nat} {i j:Int} (hi:i=n) (hj:j=m) (hm:m ≠ 0):cK .rem (.v (.int .i64 i)) (.v (.int .i64 j))=some (.v (.int .i64 ((n % m:Nat):Int))):=by
 simp_all [DG,if_neg,Int.tmod_eq_emod_of_nonneg]
theorem wu {n m:Nat} {i j:Int} (hi:i=n) (hj:j=m) (hm:m ≠ 0) (hn:n < 9223372036854775808):cK .quo (.v (.int .i64 i)) (.v (.int .i64 j))=some (.v (.int .i64 ((n / m:Nat):Int))):=by
 rw [Ij,if_neg (by omega),Int.tdiv_eq_ediv_of_nonneg (by omega)];have:n / m≤n:=Nat.div_le_self _ _;grind [wi]
theorem yq {n k:Nat} {i:Int} {kk:IntKind} {j:Int} (hi:i=n) (hj:j=k) (hk:k≤64) (h:n*2 ^ k < 18446744073709551616):cK .shl (.v (.int .u64 i)) (.v (.int kk j))=some (.v (.int .u64 ((n*2 ^ k:Nat):Int))):=by
 subst hi hj;rw [DH,if_neg (by omega)];have:min (k:Int).toNat IntKind.u64.bits=k:=by grind [IntKind.bits]
 rw [this,cI (n:=n*2 ^ k) (by simp) h]
theorem FJ {m n:Nat} {i j:Int} (hi:i=m) (hj:j=n) (hm:m < 18446744073709551616) (hn:n < 18446744073709551616):cK .or (.v (.int .u64 i)) (.v (.int .u64 j))=some (.v (.int .u64 ((m ||| n:Nat):Int))):=by
 subst hi hj;rw [GF];have e:(BitVec.ofInt IntKind.u64.bits (m:Int) ||| BitVec.ofInt IntKind.u64.bits (n:Int)).toNat=m ||| n:=by
  show (BitVec.ofInt 64 (m:Int) ||| BitVec.ofInt 64 (n:Int)).toNat=m ||| n
  grind
 rw [e];rw [cI rfl (Nat.or_lt_two_pow (n:=64) hm hn)]
theorem xE {x c k:Nat} (hc:c < 2 ^ k):x*2 ^ k ||| c=x*2 ^ k+c:=by
 have:=Nat.shiftLeft_add_eq_or_of_lt hc x;grind [Nat.shiftLeft_eq]
def dR (a:List Nat) (r:Nat):Nat→Nat
 | 0=>0
 | i+1=>(a.getD i 0*2 ^ r+dR a r i) / 4294967296
def jM (a:List Nat) (r i:Nat):List Nat:=(List.range i).map fun j=>(a.getD j 0*2 ^ r+dR a r j) % 4294967296
theorem zW {a:List Nat} (ha:Lb a) {r:Nat}:∀ i,dR a r i < 2 ^ r
 | 0=>by grind [dR,Nat.two_pow_pos]
 | i+1=>by
  have ih:=zW ha (r:=r) i;have:=bt ha i;simp only [dR];have h1:a.getD i 0*2 ^ r+2 ^ r≤4294967296*2 ^ r:=by
   rw [← Nat.succ_mul];exact Nat.mul_le_mul_right _ (by omega)
  omega
theorem pC (a:List Nat) (r i:Nat):(jM a r i).length=i:=by simp [jM]
theorem abf (a:List Nat) (r i:Nat):Lb (jM a r i):=fun x hx=>by
 simp only [jM,List.mem_map] at hx;omega
theorem Qp (a:List Nat) (r:Nat):∀ i,aa (jM a r i)+4294967296 ^ i*dR a r i=aa (a.take i)*2 ^ r
 | 0=>by simp [jM,dR,aa]
 | i+1=>by
  have ih:=Qp a r i;rw [dm a i];simp only [jM] at ih ⊢;rw [xB,Nat.pow_succ];have e:dR a r (i+1)*4294967296+(a.getD i 0*2 ^ r+dR a r i) % 4294967296=a.getD i 0*2 ^ r+dR a r i:=by
   grind [dR]
  grind
theorem Xd {a:List Nat} (ha:Lb a) {n q:Nat} (h1:a.length≤100000) (hq:q≤100000):∀ (k i:Nat),i+k=a.length→∀ (s:ae) (h:ac),s 1=I (n:Nat)→s 5=.rsl 20 none 1 0 (q+i)→s 6=W (dR a (n % 32) i:Nat)→s 21=lm a→s 22=I (a.length:Nat)→s 23=I i →
  h 20=.ar 1 (az (List.replicate q 0++jM a (n % 32) i))→h 38=.dead →
  ap 0 [5,6] (aq (ak R (aG false) mo) [1,5,6,21,22,23] [20,38] s h) =
   some (.normal,⟨upd (upd (fun _=>.any) 6 (W (dR a (n % 32) a.length:Nat))) 5 (.rsl 20 none 1 0 (q+a.length)),upd (upd (fun _=>.dead) 38 .dead) 20 (.ar 1 (az (List.replicate q 0++jM a (n % 32) a.length)))⟩):=by
 intro k;induction k with
 | zero =>
  intro i hi s h g1 h5 h6 h21 h22 h23 hh hh2;have:i=a.length:=by omega
  subst this;rw [ai];simp only [mo,go_sem,am7,g1,h5,h6,h21,h22,h23,hh,hh2,Int.lt_irrefl]
 | succ k ih =>
  intro i hi s h g1 h5 h6 h21 h22 h23 hh hh2;have ih':=ih (i+1) (by omega);have hx:=bt ha i;have hc:=zW ha (r:=n % 32) i;have hp:2 ^ (n % 32)≤2 ^ 31:=Nat.pow_le_pow_right (by omega) (by omega);have hxp:a.getD i 0*2 ^ (n % 32)≤4294967295*2 ^ 31:=Nat.mul_le_mul (by omega) hp;have e1:((i:Int) < (a.length:Int))=True:=tt (by omega);have e2:aZ (az a) (i:Int)=some (.ipt [U (a.getD i 0:Nat)]):=bh rfl (by omega);have e3:IntKind.i64.wrap ((i:Int)+1)=((i+1:Nat):Int):=wi (by omega) (by omega);have e4:IntKind.u64.wrap (a.getD i 0:Int)=(a.getD i 0:Int):=cI rfl (by omega);have e5:=wt (n:=n) (m:=32) (j:=32) rfl rfl (by omega);have e6:=yq (n:=a.getD i 0) (k:=n % 32) (kk:=.i64) rfl rfl (by omega) (by omega);have e7:=FJ (m:=a.getD i 0*2 ^ (n % 32)) (n:=dR a (n % 32) i) rfl rfl (by omega) (by omega);rw [xE hc] at e7;have e8:IntKind.u32.wrap ((a.getD i 0*2 ^ (n % 32)+dR a (n % 32) i:Nat):Int)=(((a.getD i 0*2 ^ (n % 32)+dR a (n % 32) i) % 4294967296:Nat):Int):=AN rfl;have e9:=mr (n:=a.getD i 0*2 ^ (n % 32)+dR a (n % 32) i) (k:=32) (kk:=.u64) (j:=32) rfl rfl (by omega);have f1:az (List.replicate q 0++jM a (n % 32) i)++[[U ((a.getD i 0*2 ^ (n % 32)+dR a (n % 32) i) % 4294967296:Nat)]]=az (List.replicate q 0++jM a (n % 32) (i+1)):=by
   simp_all [U,dR,az,wl,List.append_assoc,jM,List.range_succ]
  have f2:(q+i=(List.replicate q 0++jM a (n % 32) i).length)=True:=tt (by simp [pC]);have f3:((q+i+1)*4≤140737488355328)=True:=tt (by omega);rw [ai];simp only [mo,go_sem,am5,am6,am7,g1,h5,h6,h21,h22,h23,hh,hh2,e1,e2,e3,e4,e5,e6,e7,e8,e9,f1,f2,f3,true_or,Nat.zero_add,Nat.le_refl];exact ih' _ _ rfl rfl rfl rfl rfl rfl rfl rfl
theorem re (n:Nat):4294967296 ^ (n / 32)*2 ^ (n % 32)=2 ^ n:=by
 rw [show (4294967296:Nat)=2 ^ 32 from rfl,← Nat.pow_mul,← Nat.pow_add];grind
theorem Qq {a:List Nat} (ha:Lb a) (n:Nat):List.replicate (n / 32) 0++jM a (n % 32) a.length++[dR a (n % 32) a.length]=cB (n / 32+a.length+1) (aa a*2 ^ n):=by
 have hc:=zW ha (r:=n % 32) a.length;have hp:2 ^ (n % 32)≤2 ^ 31:=Nat.pow_le_pow_right (by omega) (by omega);have h:=Qp a (n % 32) a.length;have hLb:Lb (List.replicate (n / 32) 0++jM a (n % 32) a.length++[dR a (n % 32) a.length]) :=
  i8.2 ⟨i8.2 ⟨fun y hy=>by grind,abf _ _ _⟩,fH.2 ⟨by omega,CD⟩⟩
 have hv:aa (List.replicate (n / 32) 0++jM a (n % 32) a.length++[dR a (n % 32) a.length])=aa a*2 ^ n:=by
  rw [List.append_assoc,cO,Kk,cO,pC,List.length_replicate];simp only [aa,Nat.mul_zero,Nat.add_zero,Nat.zero_add];grind [re,Nat.mul_left_comm]
 have:=AL hLb;grind [pC]
theorem G4 {a:List Nat} (ha:Lb a) {n:Nat} (h1:a.length≤100000) (hn:n≤65536):R F.natural_shl [lm a,I n] []=some (.osl 1 (az (cB (n / 32+(ao (aa a)).length+1) (aa a*2 ^ n))),[]):=by
 refine aE Lk rfl ?_;have la:=bX a ha;have hc:=zW (aO (aa a)) (r:=n % 32) (ao (aa a)).length;have hp:2 ^ (n % 32)≤2 ^ 31:=Nat.pow_le_pow_right (by omega) (by omega);have e1:=wu (n:=n) (m:=32) (j:=32) rfl rfl (by omega) (by omega);have e2:IntKind.i64.wrap (((n / 32:Nat):Int)+((ao (aa a)).length:Int))=((n / 32+(ao (aa a)).length:Nat):Int):=wi (by omega) (by omega);have e3:IntKind.i64.wrap (((n / 32+(ao (aa a)).length:Nat):Int)+1)=((n / 32+(ao (aa a)).length+1:Nat):Int):=wi (by omega) (by omega);have e4:=lO (i:=((n / 32:Nat):Int)) (j:=((n / 32+(ao (aa a)).length+1:Nat):Int)) rfl rfl (by omega) (by omega);have e5:((n / 32+(ao (aa a)).length+1)*4≤140737488355328)=True:=tt (by omega);have e6:=Xd (aO (aa a)) (n:=n) (q:=n / 32) (by omega) (by omega) (ao (aa a)).length 0 (by omega);have e7:az (List.replicate (n / 32) 0)=az (List.replicate (n / 32) 0++jM (ao (aa a)) (n % 32) 0):=by simp [jM]
 have e8:IntKind.u32.wrap ((dR (ao (aa a)) (n % 32) (ao (aa a)).length:Nat):Int)=((dR (ao (aa a)) (n % 32) (ao (aa a)).length:Nat):Int):=vN rfl (by omega);have f1:az (List.replicate (n / 32) 0++jM (ao (aa a)) (n % 32) (ao (aa a)).length)++[[U (dR (ao (aa a)) (n % 32) (ao (aa a)).length:Nat)]]=az (cB (n / 32+(ao (aa a)).length+1) (aa a*2 ^ n)):=by
  have:=Qq (aO (aa a)) n;rw [aK] at this;rw [← this,show [[U (dR (ao (aa a)) (n % 32) (ao (aa a)).length:Nat)]]=az [dR (ao (aa a)) (n % 32) (ao (aa a)).length] from rfl,wl]
 have f2:(n / 32+(ao (aa a)).length=(List.replicate (n / 32) 0++jM (ao (aa a)) (n % 32) (ao (aa a)).length).length)=True:=tt (by simp [pC]);simp only [tC,BG,go_sem,am4,am3,cz ha (by omega),e1,e2,e3,e4,e5,tI,e7];rw [e6 _ _ rfl rfl rfl rfl rfl rfl rfl rfl];simp only [go_sem,am5,am6,e8,f1,f2,e5,true_or,Nat.zero_add,Nat.le_refl,bK]
theorem UP {a:List Nat} (ha:Lb a) {n:Int} (h1:a.length≤256):R F.natural_Shl [lm a,I n] []=some (if n < 0∨65536 < n then .tup [lm [],I 2] else gX (aa a*2 ^ n.toNat),[]):=by
 refine aE Le rfl ?_;have e1:(256 < a.length)=False:=ff (by omega);by_cases hn:n < 0
 ·simp only [jf,mM,go_sem,am4,am3,am5,am6,e1,mu,hn,true_or]
 by_cases hn2:65536 < n
 ·simp only [jf,mM,go_sem,am4,am3,am5,am6,e1,mu,hn,hn2,or_true]
 obtain ⟨m,rfl⟩:=Int.eq_ofNat_of_zero_le (show 0≤n by omega);have la:=bX a ha;have e3:aa (cB (m / 32+(ao (aa a)).length+1) (aa a*2 ^ m))=aa a*2 ^ m:=by
  rw [iw,Nat.mod_eq_of_lt];have h:=du (aa a);have h2:2 ^ m≤4294967296 ^ (m / 32+1):=by
   rw [show (4294967296:Nat)=2 ^ 32 from rfl,← Nat.pow_mul];exact Nat.pow_le_pow_right (by omega) (by omega)
  rw [show m / 32+(ao (aa a)).length+1=(ao (aa a)).length+(m / 32+1) from by omega,Nat.pow_add]
  simp_all [Nat.mul_lt_mul_of_lt_of_le,Nat.pow_pos]
 have e4:=zU (jS (m / 32+(ao (aa a)).length+1) (aa a*2 ^ m)) (by grind [bK]);rw [e3] at e4;have e5:(az (cB (m / 32+(ao (aa a)).length+1) (aa a*2 ^ m))).take (cB (m / 32+(ao (aa a)).length+1) (aa a*2 ^ m)).length=az (cB (m / 32+(ao (aa a)).length+1) (aa a*2 ^ m)):=List.take_of_length_le (by simp_all [wk,Nat.le_refl]);unfold gX at e4 ⊢;by_cases hl:256 < (ao (aa a*2 ^ m)).length
 ·simp only [jf,mM,go_sem,am4,am3,am5,am6,e1,mu,hn,hn2,G4 ha (n:=m) (by omega) (by omega),e4,e5,or_false,Int.toNat_natCast,hl,Nat.zero_add,Nat.le_refl]
 ·simp only [jf,mM,go_sem,am4,am3,am5,am6,e1,mu,hn,hn2,G4 ha (n:=m) (by omega) (by omega),e4,e5,or_false,Int.toNat_natCast,hl,Nat.zero_add,Nat.le_refl]
theorem qP {l:List Nat} (h:Lb l) (i:Nat):aa (l.drop i)=aa l / 4294967296 ^ i:=by
 rcases Nat.lt_or_ge l.length i with hi | hi
 ·rw [List.drop_of_length_le (by omega)];have:=bR h;have h2:4294967296 ^ l.length≤4294967296 ^ i:=Nat.pow_le_pow_right (by omega) (by omega);rw [Nat.div_eq_of_lt (by omega)];rfl
 ·have h1:aa l=aa (l.take i)+4294967296 ^ i*aa (l.drop i):=by
   grind [List.take_append_drop,cO,List.length_take,Nat.min_eq_left]
  grind [bR,dC,List.length_take,Nat.min_eq_left,Nat.add_mul_div_left,Nat.pow_pos,Nat.div_eq_of_lt]
theorem dv (l:List Nat) (i:Nat):aa (l.drop i)=l.getD i 0+4294967296*aa (l.drop (i+1)):=by
 grind [List.drop_eq_getElem_cons,aa,List.drop_of_length_le]
def oL (a:List Nat) (r i:Nat):Nat:=(a.getD i 0+4294967296*a.getD (i+1) 0) / 2 ^ r % 4294967296
theorem Zk {a:List Nat} (ha:Lb a) {r:Nat} (hr:r≤32) (i:Nat):oL a r i=Qo (aa a / 2 ^ r) i:=by
 unfold oL Qo;have e0:aa a / 2 ^ r / 4294967296 ^ i=aa (a.drop i) / 2 ^ r:=by grind [Nat.div_div_eq_div_mul,Nat.mul_comm,qP]
 rw [e0,dv a i,dv a (i+1)];generalize aa (a.drop (i+1+1))=w;have e:(4294967296:Nat)=2 ^ r*2 ^ (32 - r):=by rw [← Nat.pow_add,show r+(32 - r)=32 from by omega]
 have h1:a.getD i 0+4294967296*(a.getD (i+1) 0+4294967296*w)=(a.getD i 0+4294967296*a.getD (i+1) 0)+2 ^ r*(2 ^ (32 - r)*4294967296*w):=by
  grind
 rw [h1,Nat.add_mul_div_left _ _ (Nat.two_pow_pos r),Nat.mul_assoc,Nat.mul_left_comm,Nat.add_mul_mod_self_left]
def ix (a:List Nat) (r i:Nat):List Nat:=(List.range i).map (oL a r)
theorem m7 (a:List Nat) (r i:Nat):(ix a r i).length=i:=by simp [ix]
theorem Nk {a:List Nat} (ha:Lb a) {r:Nat} (hr:r≤32):ix a r a.length=cB a.length (aa a / 2 ^ r):=by
 grind [Nd,m7,Zk,ix]
theorem Xe {a:List Nat} (ha:Lb a) {n:Nat} (h1:a.length≤100000):∀ (k i:Nat),i+k=a.length→∀ (s:ae) (h:ac),s 0=lm a→s 1=I (n:Nat)→s 5=.rsl 22 none 1 0 a.length→s 23=lm a→s 24=I (a.length:Nat)→s 25=I i →
  h 22=.ar 1 (az (ix a (n % 32) i++List.replicate k 0)) →
  ap 0 [5] (aq (ak R (aG false) jB) [0,1,5,23,24,25] [22] s h) =
   some (.normal,⟨upd (fun _=>.any) 5 (.rsl 22 none 1 0 a.length),upd (fun _=>.dead) 22 (.ar 1 (az (ix a (n % 32) a.length)))⟩):=by
 intro k;induction k with
 | zero =>
  intro i hi s h h0 g1 h5 h23 h24 h25 hh;have:i=a.length:=by omega
  subst this;rw [ai];simp only [List.replicate_zero,List.append_nil] at hh;simp only [jB,go_sem,am7,h0,g1,h5,h23,h24,h25,hh,Int.lt_irrefl]
 | succ k ih =>
  intro i hi s h h0 g1 h5 h23 h24 h25 hh;have ih':=ih (i+1) (by omega);have hx:=bt ha i;have hy:=bt ha (i+1);have hr:n % 32 < 32:=Nat.mod_lt _ (by omega);have e1:((i:Int) < (a.length:Int))=True:=tt (by omega);have e2:aZ (az a) (i:Int)=some (.ipt [U (a.getD i 0:Nat)]):=bh rfl (by omega);have e3:IntKind.i64.wrap ((i:Int)+1)=((i+1:Nat):Int):=wi (by omega) (by omega);have e4:IntKind.u64.wrap (a.getD i 0:Int)=(a.getD i 0:Int):=cI rfl (by omega);have e5:=wt (n:=n) (m:=32) (j:=32) rfl rfl (by omega);have e6:(0≤(i:Int))=True:=tt (by omega);have e7:(az (ix a (n % 32) i++List.replicate (k+1) 0))[i]?=some [U (0:Nat)]:=by
   grind [gS,m7]
  have e8:(az (ix a (n % 32) i++List.replicate (k+1) 0)).set i [U (oL a (n % 32) i:Nat)]=az (ix a (n % 32) (i+1)++List.replicate k 0):=by
   grind [jT,xC,ix,oL,m7,List.range_succ]
  rw [ai];generalize aq _ _ _=L at ih' ⊢;by_cases hl:i+1 < a.length
  ·have f1:(((i+1:Nat):Int) < (a.length:Int))=True:=tt (by omega);have f2:aZ (az a) ((i+1:Nat):Int)=some (.ipt [U (a.getD (i+1) 0:Nat)]):=bh rfl hl;have f3:IntKind.u64.wrap (a.getD (i+1) 0:Int)=(a.getD (i+1) 0:Int):=cI rfl (by omega);have f4:=yq (n:=a.getD (i+1) 0) (k:=32) (kk:=.u64) (j:=32) rfl rfl (by omega) (by omega);have f5:=FJ (m:=a.getD i 0) (n:=a.getD (i+1) 0*2 ^ 32) rfl rfl (by omega) (by omega);rw [Nat.or_comm,xE (show a.getD i 0 < 2 ^ 32 from by omega)] at f5;have f6:=mr (n:=a.getD (i+1) 0*2 ^ 32+a.getD i 0) (k:=n % 32) (kk:=.i64) rfl rfl (by omega);have f7:IntKind.u32.wrap (((a.getD (i+1) 0*2 ^ 32+a.getD i 0) / 2 ^ (n % 32):Nat):Int)=((oL a (n % 32) i:Nat):Int):=by
    grind [AN,oL]
   simp only [jB,go_sem,am5,am7,h0,g1,h5,h23,h24,h25,hh,e1,e2,e3,e4,e5,e6,e7,e8,f1,f2,f3,f4,f5,f6,f7,Int.toNat_natCast,Nat.zero_add];exact ih' _ _ rfl rfl rfl rfl rfl rfl rfl
  ·have f1:(((i+1:Nat):Int) < (a.length:Int))=False:=ff (by omega);have f2:a.getD (i+1) 0=0:=by grind
   have f6:=mr (n:=a.getD i 0) (k:=n % 32) (kk:=.i64) rfl rfl (by omega);have f7:IntKind.u32.wrap ((a.getD i 0 / 2 ^ (n % 32):Nat):Int)=((oL a (n % 32) i:Nat):Int):=by
    rw [AN rfl];grind [oL]
   simp only [jB,go_sem,am5,am7,h0,g1,h5,h23,h24,h25,hh,e1,e2,e3,e4,e5,e6,e7,e8,f1,f6,f7,Int.toNat_natCast,Nat.zero_add];exact ih' _ _ rfl rfl rfl rfl rfl rfl rfl
theorem UQ {a:List Nat} (ha:Lb a) {n:Nat} (h1:a.length≤100000) (hn:n≤100000000):R F.natural_shr [lm a,I n] []=some (lm (cB ((ao (aa a)).length - n / 32) (aa a / 2 ^ n)),[]):=by
 refine aE Ln rfl ?_;have la:=bX a ha;have e1:=wu (n:=n) (m:=32) (j:=32) rfl rfl (by omega) (by omega);by_cases hl:(ao (aa a)).length≤n / 32
 ·have e2:(((ao (aa a)).length:Int)≤((n / 32:Nat):Int))=True:=tt (by omega);have e3:cB ((ao (aa a)).length - n / 32) (aa a / 2 ^ n)=[]:=by rw [show (ao (aa a)).length - n / 32=0 from by omega]; rfl
  simp only [py,vj,go_sem,am4,am3,cz ha (by omega),e1,e2,e3]
 ·have e2:(((ao (aa a)).length:Int)≤((n / 32:Nat):Int))=False:=ff (by omega);have hD:((ao (aa a)).drop (n / 32)).length=(ao (aa a)).length - n / 32:=by simp
  have hLD:Lb ((ao (aa a)).drop (n / 32)):=jh (aO _) _;have e3:eu 1 (lm (ao (aa a))) (some (I (n / 32:Nat))) none none=some (lm ((ao (aa a)).drop (n / 32))):=by
   rw [CL (a:=n / 32) (b:=(ao (aa a)).length) (oJ rfl (by omega)) rfl (Nat.le_refl _),List.take_of_length_le (by omega)]
  have hv:aa ((ao (aa a)).drop (n / 32)) / 2 ^ (n % 32)=aa a / 2 ^ n:=by
   rw [qP (aO _),aK,Nat.div_div_eq_div_mul,re]
  have e6:=Nk hLD (r:=n % 32) (by omega);rw [hv,hD] at e6;generalize (ao (aa a)).drop (n / 32)=D at *
  have e4:=lO (i:=(D.length:Int)) (j:=(D.length:Int)) rfl rfl (Nat.le_refl _) (by omega);have e5:(D.length*4≤140737488355328)=True:=tt (by omega);have e7:=Xe hLD (n:=n) (by omega) D.length 0 (by omega);have e8:az (List.replicate D.length 0)=az (ix D (n % 32) 0++List.replicate D.length 0):=by simp [ix]
  rw [← hD] at e6 ⊢;simp only [py,vj,go_sem,am4,am3,cz ha (by omega),e1,e2,e3,e4,e5,tI,e8];rw [e7 _ _ rfl rfl rfl rfl rfl rfl rfl];simp only [go_sem,am5,am6,e6,bK,Nat.zero_add,Nat.le_refl]
theorem UR {a:List Nat} (ha:Lb a) {n:Int} (h1:a.length≤256):R F.natural_Shr [lm a,I n] []=some (if n < 0∨65536 < n then .tup [lm [],I 2] else .tup [lm (ao (aa a / 2 ^ n.toNat)),I 0],[]):=by
 refine aE Lj rfl ?_;have e1:(256 < a.length)=False:=ff (by omega);by_cases hn:n < 0
 ·simp only [lI,qE,go_sem,am4,am3,am5,am6,e1,mu,hn,true_or]
 by_cases hn2:65536 < n
 ·simp only [lI,qE,go_sem,am4,am3,am5,am6,e1,mu,hn,hn2,or_true]
 obtain ⟨m,rfl⟩:=Int.eq_ofNat_of_zero_le (show 0≤n by omega);have la:=bX a ha;have hlt:=du (aa a);have h32:aa a / 2 ^ m < 4294967296 ^ ((ao (aa a)).length - m / 32):=by
  rw [Nat.div_lt_iff_lt_mul (Nat.two_pow_pos m),← re m];refine Nat.lt_of_lt_of_le hlt ?_;rw [← Nat.mul_assoc,← Nat.pow_add];refine Nat.le_trans (Nat.pow_le_pow_right (by omega) (show (ao (aa a)).length≤(ao (aa a)).length - m / 32+m / 32 by omega)) (Nat.le_mul_of_pos_right _ (Nat.two_pow_pos _))
 have e3:aa (cB ((ao (aa a)).length - m / 32) (aa a / 2 ^ m))=aa a / 2 ^ m:=by
  rw [iw,Nat.mod_eq_of_lt h32]
 have e4:=zU (jS ((ao (aa a)).length - m / 32) (aa a / 2 ^ m)) (by grind [bK]);rw [e3] at e4;have hl:¬ 256 < (ao (aa a / 2 ^ m)).length:=by
  have:=gu h32;omega
 unfold gX at e4;simp only [hl,if_false] at e4;simp only [lI,qE,go_sem,am4,am3,am5,am6,e1,mu,hn,hn2,UQ ha (n:=m) (by omega) (by omega),e4,or_false,Int.toNat_natCast]
def af (n:Nat):Nat:=if n=0 then 0 else n.log2+1
theorem bv {n k:Nat}:af n≤k↔n < 2 ^ k:=by
 unfold af;grind [Nat.succ_le_iff,Nat.log2_lt]
theorem FK {q k:Nat} (h:af q≤k):af (q+1)≤k+1:=by
 rw [bv] at h ⊢;omega
theorem Xf {n k:Nat} (h:n≤k):af (2 ^ n - 1)≤k:=bv.2 (by
 have h1:=Nat.two_pow_pos n;have h2:=Nat.pow_le_pow_right (n:=2) (by decide) h;omega)
theorem Xg (k:Nat):af 1≤k+1:=bv.2 (Nat.one_lt_two_pow (by omega))
theorem yr {x y k:Nat} (h:x≤y) (h2:af y≤k):af x≤k:=bv.2 (Nat.lt_of_le_of_lt h (bv.1 h2))
theorem jU {n k:Nat}:k < af n↔2 ^ k≤n:=by
 have:=@bv n k;omega
theorem oM:af 0=0:=rfl
theorem abD {n:Nat} (h:n ≠ 0):0 < af n:=by
 rw [jU];omega
theorem iy (n k:Nat):af (n / 2 ^ k)=af n - k:=by
 have h:∀ j,af (n / 2 ^ k)≤j↔af n - k≤j:=fun j=>by
  simp_all [bv,Nat.div_lt_iff_lt_mul,Nat.two_pow_pos,Nat.pow_add]
 have h1:=(h _).1 (Nat.le_refl _);have h2:=(h _).2 (Nat.le_refl _);omega
theorem dH {n:Nat} (k:Nat) (hn:n ≠ 0):af (n*2 ^ k)=af n+k:=by
 grind [iy,Nat.mul_div_cancel,Nat.two_pow_pos,af,jU,Nat.le_mul_of_pos_left]
def LC:ByteArray:=⟨#[0,1,2,2,3,3,3,3,4,4,4,4,4,4,4,4,5,5,5,5,5,5,5,5,5,5,5,5,5,5,5,5,6,6,6,6,6,6,6,6,6,6,6,6,6,6,6,6,6,6,6,6,6,6,6,6,6,6,6,6,6,6,6,6,7,7,7,7,7,7,7,7,7,7,7,7,7,7,7,7,7,7,7,7,7,7,7,7,7,7,7,7,7,7,7,7,7,7,7,7,7,7,7,7,7,7,7,7,7,7,7,7,7,7,7,7,7,7,7,7,7,7,7,7,7,7,7,7,8,8,8,8,8,8,8,8,8,8,8,8,8,8,8,8,8,8,8,8,8,8,8,8,8,8,8,8,8,8,8,8,8,8,8,8,8,8,8,8,8,8,8,8,8,8,8,8,8,8,8,8,8,8,8,8,8,8,8,8,8,8,8,8,8,8,8,8,8,8,8,8,8,8,8,8,8,8,8,8,8,8,8,8,8,8,8,8,8,8,8,8,8,8,8,8,8,8,8,8,8,8,8,8,8,8,8,8,8,8,8,8,8,8,8,8,8,8,8,8,8,8,8,8,8,8,8,8]⟩
theorem Xh:((List.range 256).all fun x=>(LC[x]?).map (·.toNat) == some (af x))=true:=by decide +kernel
theorem S0 {x:Nat} (h:x < 256):Dr (.v (.string LC)) (.v (.int .u8 x))=some (.v (.int .u8 (af x:Nat))):=by
 have:=List.all_eq_true.1 Xh x (List.mem_range.2 h);simp only [Dr];grind
theorem AP:Cz=.seq (.ops [0,2] [co 2 (.mv (.c (.v (.int .i64 0))))]) (.seq (.seq (.ops [0,2,4] [cm 3 0,co 4 (.bin .geq (.t 3) (.c (.v (.int .u32 65536))))]) (.cond (.t 4) (.seq (.ops [0] [cm 5 0,co 6 (.bin .shr (.t 5) (.c (.v (.int .u64 16)))),cm 0 6]) (.ops [0,2] [co 2 (.mv (.c (.v (.int .i64 16))))])) (.skip))) (.seq (.seq (.ops [0,2,8] [cm 7 0,co 8 (.bin .geq (.t 7) (.c (.v (.int .u32 256))))]) (.cond (.t 8) (.seq (.ops [0,2] [cm 9 0,co 10 (.bin .shr (.t 9) (.c (.v (.int .u64 8)))),cm 0 10]) (.ops [0,2] [cm 11 2,co 12 (.bin .add (.t 11) (.c (.v (.int .i64 8)))),cm 2 12])) (.skip))) (.seq (.ops [2] [cm 13 2,cm 14 0,co 15 (.cv .u8 (.t 14)),co 16 (.idxS (.c (.v (.string LC))) (.t 15)),co 17 (.cv .i64 (.t 16)),co 18 (.bin .add (.t 13) (.t 17)),cm 2 18]) (.ret)))):=rfl
theorem w8 {i:Int} {n:Nat} (h:i=n) (hn:n < 256):IntKind.u8.wrap i=n:=by grind [IntKind.wrap_u8]
theorem DK {n k:Nat} {i:Int} {kk:IntKind} {j:Int} (hi:i=n) (hj:j=k) (hk:k≤32):cK .shr (.v (.int .u32 i)) (.v (.int kk j))=some (.v (.int .u32 ((n / 2 ^ k:Nat):Int))):=by
 simp_all [zu,if_neg,IntKind.bits,Option.some.injEq,AV.v.injEq,Value.int.injEq,true_and,Int.fdiv_eq_ediv_of_nonneg,Int.pow_nonneg]
theorem yt {x:Nat} (k:Nat) (h:2 ^ k≤x):af x=k+af (x / 2 ^ k):=by
 have:=iy x k;have:=jU.2 h;omega
theorem Nl {x:Nat} (hx:x < 4294967296):R F.bits_Len32 [U x] []=some (I (af x:Nat),[]):=by
 refine aE M7 rfl ?_;have fin:∀ {y:Nat},y < 256→∀ {n:Nat},n≤24→IntKind.u8.wrap (y:Int)=y∧IntKind.i64.wrap (af y:Int)=(af y:Int)∧IntKind.i64.wrap ((n:Int)+(af y:Int))=((n+af y:Nat):Int):=fun {y} hy {n} hn=>by
  have:af y≤8:=bv.2 hy;exact ⟨w8 rfl hy,wi rfl (by omega),wi (by omega) (by omega)⟩
 have s16:=DK (n:=x) (k:=16) (kk:=.u64) (j:=16) rfl rfl (by omega);by_cases h1:65536≤x
 ·have e1:((65536:Int)≤(x:Int))=True:=tt (by omega);have b1:=yt 16 h1;have s8:=DK (n:=x / 2 ^ 16) (k:=8) (kk:=.u64) (j:=8) rfl rfl (by omega);by_cases h2:256≤x / 2 ^ 16
  ·have e2:((256:Int)≤((x / 2 ^ 16:Nat):Int))=True:=tt (by omega);have b2:=yt 8 h2;have hy:x / 2 ^ 16 / 2 ^ 8 < 256:=by omega
   obtain ⟨f1,f2,f3⟩:=fin hy (n:=24) (by omega);have g:IntKind.i64.wrap (24:Int)=24:=by grind [i64_in]
   have f3':IntKind.i64.wrap ((24:Int)+(af (x / 2 ^ 16 / 2 ^ 8):Int))=((af x:Nat):Int):=by grind
   simp only [jR,AP,go_sem,e1,s16,e2,s8,g,f1,S0 hy,f2,f3',Int.reduceAdd]
  ·have e2:((256:Int)≤((x / 2 ^ 16:Nat):Int))=False:=ff (by omega);have hy:x / 2 ^ 16 < 256:=by omega
   obtain ⟨f1,f2,f3⟩:=fin hy (n:=16) (by omega);have f3':IntKind.i64.wrap ((16:Int)+(af (x / 2 ^ 16):Int))=((af x:Nat):Int):=by grind
   simp only [jR,AP,go_sem,am8,am9,e1,s16,e2,f1,S0 hy,f2,f3']
 ·have e1:((65536:Int)≤(x:Int))=False:=ff (by omega);have s8:=DK (n:=x) (k:=8) (kk:=.u64) (j:=8) rfl rfl (by omega);by_cases h2:256≤x
  ·have e2:((256:Int)≤(x:Int))=True:=tt (by omega);have b2:=yt 8 h2;have hy:x / 2 ^ 8 < 256:=by omega
   obtain ⟨f1,f2,f3⟩:=fin hy (n:=8) (by omega);have g:IntKind.i64.wrap (8:Int)=8:=by grind [i64_in]
   have f3':IntKind.i64.wrap ((8:Int)+(af (x / 2 ^ 8):Int))=((af x:Nat):Int):=by grind
   simp only [jR,AP,go_sem,am8,am9,e1,e2,s8,g,f1,S0 hy,f2,f3',Int.reduceAdd]
  ·have e2:((256:Int)≤(x:Int))=False:=ff (by omega);have hy:x < 256:=by omega
   obtain ⟨f1,f2,f3⟩:=fin hy (n:=0) (by omega);have f3':IntKind.i64.wrap ((0:Int)+(af x:Int))=((af x:Nat):Int):=by grind
   simp only [jR,AP,go_sem,am8,am9,e1,e2,f1,S0 hy,f2,f3']
theorem Nm {n:Nat} (h:n ≠ 0):af n=32*((ao n).length - 1)+af ((ao n).getD ((ao n).length - 1) 0):=by
 induction n using Nat.strongRecOn with
 | ind n ih =>
  rw [mZ h,List.length_cons,Nat.add_sub_cancel];by_cases h0:n / 4294967296=0
  ·rw [h0,ef];grind
  ·have h2:(ao (n / 4294967296)).length ≠ 0:=by
    intro e;exact h0 (gR.1 (List.length_eq_zero_iff.1 e))
   have h3:=yt (x:=n) 32 (by omega);grind
theorem zX {m:List Nat} (hb:Lb m) (h1:m.length≤100000):R F.natural_Bits [lm m] []=some (I (af (aa m):Nat),[]):=by
 refine aE IC rfl ?_;have la:=bX m hb;by_cases h:aa m=0
 ·have e1:((0:Nat):Int)=0:=rfl;simp only [nM,tq,go_sem,am4,am3,cz hb (by omega),h,ef,e1,oM]
 ·have hne:(ao (aa m)).length ≠ 0:=fun e=>h (gR.1 (List.length_eq_zero_iff.1 e));have e1:(((ao (aa m)).length:Int)=0)=False:=ff (by omega);have e2:IntKind.i64.wrap (((ao (aa m)).length:Int) - 1)=(((ao (aa m)).length - 1:Nat):Int):=wi (by omega) (by omega);have e3:IntKind.i64.wrap (32*(((ao (aa m)).length - 1:Nat):Int))=((32*((ao (aa m)).length - 1):Nat):Int):=wi (by omega) (by omega);have e4:aZ (az (ao (aa m))) (((ao (aa m)).length - 1:Nat):Int)=some (.ipt [U ((ao (aa m)).getD ((ao (aa m)).length - 1) 0:Nat)]):=bh rfl (by omega);have e5:=Nl (bt (aO (aa m)) ((ao (aa m)).length - 1));have e6:af ((ao (aa m)).getD ((ao (aa m)).length - 1) 0)≤32:=bv.2 (bt (aO (aa m)) _);have e7:IntKind.i64.wrap (((32*((ao (aa m)).length - 1):Nat):Int)+(af ((ao (aa m)).getD ((ao (aa m)).length - 1) 0):Int))=((af (aa m):Nat):Int):=by
   rw [Nm h];exact wi (by omega) (by omega)
  simp only [nM,tq,go_sem,am4,am3,cz hb (by omega),e1,e2,e3,e4,e5,e7]
structure Rd where
 neg:Bool
 m:List Nat
 e:Int
def am (d:Rd):List AV:=[B d.neg,lm d.m,I d.e]
def ag (d:Rd):AV:=.agg (am d)
def aP:Rd:=⟨false,[],0⟩
def nQ (n:Nat) (e:Int):Bool:=decide (n=0) || (decide (n≤4096) && (decide (-16384≤e) && (decide (e≤16384) && decide ((n:Int)+e≤16384))))
def vd (d:Rd):Bool:=if d.m.length=0 then !d.neg && decide (d.e=0) else decide (d.m.length≤256) && (decide (d.m.getD 0 0 % 2=1) && (decide (d.m.getD (d.m.length - 1) 0 ≠ 0) && nQ (af (aa d.m)) d.e))
theorem pD {m:List Nat} (hb:Lb m) (h1:m.length≤100000):R F.dyadic_size [lm m] []=some (I (af (aa m):Nat),[]):=by
 refine aE Lc rfl ?_;simp only [tl,BA,go_sem,am4,am3,zX hb h1]
theorem G5 {d:Rd} (hb:Lb d.m) (h1:d.m.length≤100000):R F.dyadic_inRange [ag d] []=some (B (nQ (af (aa d.m)) d.e),[]):=by
 refine aE Fz rfl ?_;unfold nQ;by_cases a1:af (aa d.m)=0
 ·have e9:=pD hb h1;rw [a1,Int.natCast_zero] at e9;simp only [eL,gP,ag,am,go_sem,am4,am3,am5,e9,a1]
 have e1:(((af (aa d.m):Nat):Int)=0)=False:=ff (by omega);by_cases a2:¬ (af (aa d.m)≤4096)
 ·have e2:(((af (aa d.m):Nat):Int)≤4096)=False:=ff (by omega);simp only [eL,gP,ag,am,go_sem,am4,am3,pD hb h1,e1,a1,e2,a2]
 replace a2:=Decidable.not_not.1 a2
 have e2:(((af (aa d.m):Nat):Int)≤4096)=True:=tt (by omega);by_cases a3:¬ (-16384≤d.e)
 ·simp only [eL,gP,ag,am,go_sem,am4,am3,pD hb h1,e1,a1,e2,a2,a3]
 replace a3:=Decidable.not_not.1 a3
 by_cases a4:¬ (d.e≤16384)
 ·simp only [eL,gP,ag,am,go_sem,am4,am3,pD hb h1,e1,a1,e2,a2,a3,a4]
 replace a4:=Decidable.not_not.1 a4
 have e3:IntKind.i64.wrap (((af (aa d.m):Nat):Int)+d.e)=((af (aa d.m):Nat):Int)+d.e:=by grind [i64_in]
 simp only [eL,gP,ag,am,go_sem,am4,am3,pD hb h1,e1,a1,e2,a2,a3,a4,e3]
def I64 (n:Int):Prop:=-9223372036854775808≤n∧n < 9223372036854775808
structure Ok0 (d:Rd):Prop where
 lb:Lb d.m
 len:d.m.length < 4611686018427387904
theorem gg {d:Rd} (ok:Ok0 d):R F.dyadic_Valid [ag d] []=some (B (vd d),[]):=by
 refine aE Iw rfl ?_;unfold vd;by_cases a0:d.m.length=0
 ·rw [if_pos a0];have e1:((d.m.length:Int)=0)=True:=tt (by omega);cases hn:d.neg with
  | true=>simp only [eN,gM,ag,am,hn,go_sem,am4,am3,e1]
  | false=>simp only [eN,gM,ag,am,hn,go_sem,am4,am3,e1]
 rw [if_neg a0];have e1:((d.m.length:Int)=0)=False:=ff (by omega);by_cases a1:¬ d.m.length≤256
 ·have e2:((d.m.length:Int)≤256)=False:=ff (by omega);rw [decide_eq_false a1,Bool.false_and];simp only [eN,gM,ag,am,go_sem,am4,am3,am5,e1,e2]
 replace a1:=Decidable.not_not.1 a1
 have e2:((d.m.length:Int)≤256)=True:=tt (by omega);have e3:aZ (az d.m) 0=some (.ipt [U (d.m.getD 0 0:Nat)]):=bh rfl (by omega);have e4:cK .rem (.v (.int .u32 (d.m.getD 0 0:Nat))) (.v (.int .u32 2))=some (.v (.int .u32 ((d.m.getD 0 0 % 2:Nat):Int))):=by
  simp_all [DG,if_neg,Int.tmod_eq_emod_of_nonneg]
 rw [decide_eq_true a1,Bool.true_and];by_cases a2:¬ d.m.getD 0 0 % 2=1
 ·have e5:(((d.m.getD 0 0 % 2:Nat):Int)=1)=False:=ff (by omega);rw [decide_eq_false a2,Bool.false_and];simp only [eN,gM,ag,am,go_sem,am4,am3,am5,e1,e2,e3,e4,e5]
 replace a2:=Decidable.not_not.1 a2
 have e5:(((d.m.getD 0 0 % 2:Nat):Int)=1)=True:=tt (by omega);rw [decide_eq_true a2,Bool.true_and];have e6:IntKind.i64.wrap ((d.m.length:Int) - 1)=((d.m.length - 1:Nat):Int):=wi (by omega) (by omega);have e7:aZ (az d.m) ((d.m.length - 1:Nat):Int)=some (.ipt [U (d.m.getD (d.m.length - 1) 0:Nat)]):=bh rfl (by omega);by_cases a3:d.m.getD (d.m.length - 1) 0=0
 ·have e8:((d.m.getD (d.m.length - 1) 0:Int)=0)=True:=tt (by omega);rw [decide_eq_false (p:=d.m.getD (d.m.length - 1) 0 ≠ 0) (fun h=>h a3),Bool.false_and];simp only [eN,gM,ag,am,go_sem,am4,am3,am5,e1,e2,e3,e4,e5,e6,e7,e8]
 have e8:((d.m.getD (d.m.length - 1) 0:Int)=0)=False:=ff (by omega);rw [decide_eq_true (p:=d.m.getD (d.m.length - 1) 0 ≠ 0) a3,Bool.true_and];have e9:=G5 (d:=d) ok.lb (by omega);simp only [ag,am] at e9;simp only [eN,gM,ag,am,go_sem,am4,am3,am5,e1,e2,e3,e4,e5,e6,e7,e8,e9]
theorem IM {d:Rd} (ok:Ok0 d):R F.dyadic_Sign [ag d] []=some (I (if vd d=false∨d.m.length=0 then 0 else if d.neg=true then -1 else 1),[]):=by
 refine aE K3 rfl ?_;have e9:=gg ok;simp only [ag,am] at e9;cases hv:vd d with
 | false =>
  rw [hv] at e9;rw [if_pos (Or.inl rfl)];simp only [jd,mH,ag,am,go_sem,am4,am3,am5,e9]
 | true =>
  rw [hv] at e9;by_cases a0:d.m.length=0
  ·have e1:((d.m.length:Int)=0)=True:=tt (by omega);rw [if_pos (Or.inr a0)];simp only [jd,mH,ag,am,go_sem,am4,am3,am5,e9,e1]
  ·have e1:((d.m.length:Int)=0)=False:=ff (by omega);rw [if_neg (fun h=>h.elim (fun h=>nomatch h) a0)];cases hn:d.neg with
   | true =>
    rw [hn] at e9;simp only [jd,mH,ag,am,hn,go_sem,am4,am3,am5,e9,e1]
   | false =>
    rw [hn] at e9;simp only [jd,mH,ag,am,hn,go_sem,am4,am3,am5,e9,e1]
theorem S1 (m:List Nat) (h2:m.length < 4611686018427387904):∀ (n:Nat),n≤m.length→∀ (s:ae) (h:ac),s 0=lm m→s 3=I n →
  ap 0 [0,3] (aq (ak R (aG false) gG) [0,3] [] s h)=some (.normal,⟨upd (upd (fun _=>.any) 3 (I (i9 m n))) 0 (lm m),fun _=>.dead⟩):=by
 intro n;induction n with
 | zero =>
  intro h1 s h h3 h4;rw [ai];simp only [gG,go_sem,h3,h4,i9,Int.natCast_zero,Int.lt_irrefl]
 | succ n ih =>
  intro h1 s h h3 h4;have hn:n < m.length:=h1;have e3:IntKind.i64.wrap ((n:Int)+1 - 1)=n:=wi (by omega) (by omega);have e1:aZ (az m) (n:Int)=some (.ipt [U (m.getD n 0:Nat)]):=bh rfl hn;have e2:((0:Int) < (n:Int)+1)=True:=eq_true (by omega);have ih':=ih (by omega);rw [ai];by_cases hz:m.getD n 0=0
  ·simp only [gG,go_sem,h3,h4,i9,Int.natCast_add,Int.natCast_one,e3,e1,e2,hz,Int.natCast_zero];exact ih' _ _ rfl rfl
  ·simp only [gG,go_sem,h3,h4,i9,Int.natCast_add,Int.natCast_one,e3,e1,e2,hz,Int.natCast_eq_zero]
theorem Nn {m:List Nat} (hb:Lb m) (h:m.length < 4611686018427387904):R F.dyadic_trimmed [lm m] []=some (lm (ao (aa m)),[]):=by
 refine aE FC rfl ?_;have h1:eu 1 (lm m) none (some (I (i9 m m.length:Nat))) none=some (lm (ao (aa m))):=by
  rw [CL (a:=0) (b:=i9 m m.length) rfl (oJ rfl (uG _ _)) (uG _ _),List.drop_zero,Nat.sub_zero,Fr hb]
 simp only [pR,xi,go_sem,S1 m h m.length (Nat.le_refl _),h1]
theorem yY {e:Int}:R F.dyadic_exponent [I e] []=some (B (decide (-32768≤e) && decide (e≤32768)),[]):=by
 refine aE El rfl ?_;by_cases a1:¬ (-32768≤e)
 ·simp only [kq,pW,go_sem,a1]
 replace a1:=Decidable.not_not.1 a1
 simp only [kq,pW,go_sem,a1]
theorem G6 {d:Rd} (hb:Lb d.m) (h1:d.m.length≤100000):R F.dyadic_checked [ag d] []=some (if nQ (af (aa d.m)) d.e=true then .tup [ag d,I 0] else .tup [ag aP,I 9],[]):=by
 refine aE FB rfl ?_;have e9:=G5 hb h1;simp only [ag,am] at e9;cases hv:nQ (af (aa d.m)) d.e with
 | false =>
  rw [hv] at e9;simp only [kY,qM,ag,am,aP,go_sem,am4,am3,am5,e9]
 | true =>
  rw [hv] at e9;simp only [kY,qM,ag,am,go_sem,am4,am3,am5,e9]
theorem No (h:ac) (m:List Nat):oZ h 1 (lm m)=some (az m):=WS h 1 _
theorem FL {m:List Nat} (h0:m ≠ []) (h1:m.length≤100000):R F.slices_Clone_uint32_uint32_ [lm m] []=some (lm m,[]):=by
 refine aE sH rfl ?_;have e1:Dq false (lm m)=some (B false):=by
  cases m with
  | nil=>grind
  | cons x m=>rfl
 have e2:((True∨False)∧(0+m.length)*4≤140737488355328)=True:=eq_true ⟨Or.inl trivial,by omega⟩;have e3:(0+(0+m.length)≤m.length)=True:=eq_true (by omega);have e4:(0+m.length=m.length)=True:=eq_true (by omega);simp only [gb,kL,go_sem,am5,am6,e1,No,e2,e3,e4]
theorem y5:dK.E F.bits_TrailingZeros32=some YC:=by kernel_rfl
theorem CP {x:Nat} (h:x ≠ 0) (hx:x < 4294967296):R F.bits_TrailingZeros32 [U x] []=some (I (tz x:Nat),[]):=by
 unfold R;rw [Fg y5];show (if 0 < (x:Int)∧(x:Int) < 4294967296∧([]:List Ob)=[] then some (I (Km 32 (x:Int).toNat:Nat),([]:List Ob)) else none)=_;rw [if_pos ⟨by omega,by omega,rfl⟩,Int.toNat_natCast,abb 32 x h (by omega)]
theorem Xi (m:List Nat) (hb:Lb m) (h2:m.length≤100000):∀ (k i:Nat),i+k=m.length→aa (m.drop i) ≠ 0→∀ (s:ae) (h:ac),s 6=lm m→s 7=I m.length→s 8=I i→s 3=I (32*i:Nat) →
  ap 0 [3] (aq (ak R (aG false) nO) [3,6,7,8] [] s h)=some (.ret,⟨upd (fun _=>.any) 2 (I (32*i+tz (aa (m.drop i)):Nat)),fun _=>.dead⟩):=by
 intro k;induction k with
 | zero =>
  intro i hi hv;rw [List.drop_eq_nil_of_le (by omega)] at hv;exact absurd rfl hv
 | succ k ih =>
  intro i hi hv s h h6 h7 h8 h3;have e1:((i:Int) < m.length)=True:=tt (by omega);have e2:aZ (az m) (i:Int)=some (.ipt [U (m.getD i 0:Nat)]):=bh rfl (by omega);have hx:m.getD i 0 < 4294967296:=bt hb i;rw [dv] at hv;rw [ai];have e4:IntKind.i64.wrap (((32*i:Nat):Int)+32)=((32*(i+1):Nat):Int):=wi (by omega) (by omega);have e5:IntKind.i64.wrap ((i:Int)+1)=((i+1:Nat):Int):=wi (by omega) (by omega);by_cases hz:m.getD i 0=0
  ·have e3:((m.getD i 0:Int)=0)=True:=tt (by omega);have hv':aa (m.drop (i+1)) ≠ 0:=by
    omega
   have ih':=ih (i+1) (by omega) hv';have e6:tz (aa (m.drop i))=32+tz (aa (m.drop (i+1))):=by
    rw [dv,hz,Nat.zero_add];exact GT 32 hv'
   have e7:32*i+tz (aa (m.drop i))=32*(i+1)+tz (aa (m.drop (i+1))):=by omega
   rw [e7];simp only [nO,go_sem,h3,h6,h7,h8,e1,e2,e3,e4,e5];exact ih' _ _ rfl rfl rfl rfl
  ·have e3:((m.getD i 0:Int)=0)=False:=ff (by omega);have e6:tz (aa (m.drop i))=tz (m.getD i 0):=by
    rw [dv];exact aba (k:=32) _ hz hx
   have e8:tz (m.getD i 0) < 32:=LA (k:=32) hz hx;have e7:IntKind.i64.wrap (((32*i:Nat):Int)+(tz (m.getD i 0):Nat))=((32*i+tz (m.getD i 0):Nat):Int):=wi (by omega) (by omega);rw [e6];simp only [nO,go_sem,am4,am3,h3,h6,h7,h8,e1,e2,e3,CP hz hx,e7]
theorem abh {m:List Nat} (hb:Lb m) (h1:m.length≤100000) (hv:aa m ≠ 0):R F.dyadic_low [lm m] []=some (I (tz (aa m):Nat),[]):=by
 refine aE M6 rfl ?_;have h3:=Xi m hb h1 m.length 0 (Nat.zero_add _) hv;simp only [Nat.mul_zero,Nat.zero_add,List.drop_zero,Int.natCast_zero] at h3;simp only [vg,Cx,go_sem];rw [h3 _ _ rfl rfl rfl rfl];simp only [go_sem]
def bG (neg:Bool) (M:Nat) (e:Int):Rd:=if M=0 then aP else ⟨neg,ao (M / 2 ^ tz M),e+tz M⟩
def Exq (e:Int):Prop:=-1000000≤e∧e≤1000000
theorem xF {neg:Bool} {m:List Nat} {e:Int} (hb:Lb m) (h1:m.length≤256) (he:Exq e):R F.dyadic_canonical [B neg,lm m,I e] []=some (ag (bG neg (aa m) e),[]):=by
 refine aE CJ rfl ?_;obtain ⟨he1,he2⟩:=he;unfold bG;by_cases h0:aa m=0
 ·have hd:R F.dyadic_trimmed [lm m] []=some (lm [],[]):=by
   grind [Nn,ef]
  rw [if_pos h0];simp only [jJ,oG,ag,am,aP,go_sem,am4,am3,am5,hd,List.length_nil,Int.natCast_zero]
 have hn:ao (aa m) ≠ []:=fun h=>h0 (gR.1 h);have hl:0 < (ao (aa m)).length:=by
  grind
 have hl2:(ao (aa m)).length≤256:=Nat.le_trans (bX m hb) h1;have hdb:Lb (ao (aa m)):=aO _;have e1:(((ao (aa m)).length:Int)=0)=False:=ff (by omega);have ht:tz (aa m) < 32*256:=LA (k:=32*256) h0 (by
  have:=bR hb;have h3:4294967296 ^ m.length≤4294967296 ^ 256:=Nat.pow_le_pow_right (by decide) h1;omega)
 have hlow:=abh hdb (by omega) (by grind [aK]);rw [aK] at hlow;have hs:=UR (n:=(tz (aa m):Nat)) hdb hl2;rw [if_neg (by omega),aK,Int.toNat_natCast] at hs;have hq:ao (aa m / 2 ^ tz (aa m)) ≠ []:=by
  intro h;have:=(tG h0).2;rw [gR.1 h] at this;omega
 have hq2:(ao (aa m / 2 ^ tz (aa m))).length≤100000:=by
  have h5:(ao (aa m / 2 ^ tz (aa m))).length≤m.length:=gu (Nat.lt_of_le_of_lt (Nat.div_le_self _ _) (bR hb));omega
 have hc:=FL hq hq2;have e2:IntKind.i64.wrap (e+(tz (aa m):Nat))=e+(tz (aa m):Nat):=by grind [i64_in]
 rw [if_neg h0];simp only [jJ,oG,ag,am,go_sem,am4,am3,am5,Nn hb (Nat.lt_of_le_of_lt h1 (by decide)),e1,hlow,hs,hc,IJ,e2]
theorem zY {d:Rd} (h:vd d=true) (h0:d.m.length ≠ 0):d.m.length≤256∧d.m.getD 0 0 % 2=1∧d.m.getD (d.m.length - 1) 0 ≠ 0∧nQ (af (aa d.m)) d.e=true:=by
 simp_all [vd,if_neg,Bool.and_eq_true,decide_eq_true_eq]
theorem DL {d:Rd} (h:vd d=true) (h0:d.m.length=0):d=aP:=by
 unfold vd at h;obtain ⟨n,m,e⟩:=d;grind [aP]
theorem DM {n:Nat} {e:Int} (h:nQ n e=true) (h0:n ≠ 0):n≤4096∧-16384≤e∧e≤16384∧(n:Int)+e≤16384:=by
 simp_all [nQ,Bool.or_eq_true,Bool.and_eq_true,decide_eq_true_eq]
theorem ey {d:Rd} (h:vd d=true) (_hb:Lb d.m):d.m.length≤256∧-16384≤d.e∧d.e≤16384∧af (aa d.m)≤4096:=by
 by_cases h0:d.m.length=0
 ·rw [DL h h0];exact ⟨by decide,by decide,by decide,by decide⟩
 obtain ⟨h1,h2,h3,h4⟩:=zY h h0;have hv:aa d.m ≠ 0:=by
  have:=dv d.m 0;grind
 have hn:af (aa d.m) ≠ 0:=by
  grind [abD]
 obtain ⟨h5,h6,h7,h8⟩:=DM h4 hn;omega
def aQ (d:Rd):Int:=if vd d=false∨d.m.length=0 then 0 else (af (aa d.m):Nat)+d.e
theorem zZ {d:Rd} (ok:Ok0 d):R F.dyadic_Top [ag d] []=some (I (aQ d),[]):=by
 refine aE M3 rfl ?_;have e9:=gg ok;simp only [ag,am] at e9;unfold aQ;cases hv:vd d with
 | false =>
  rw [hv] at e9;rw [if_pos (Or.inl rfl)];simp only [mJ,rX,ag,am,go_sem,am4,am3,am5,e9]
 | true =>
  rw [hv] at e9;by_cases a0:d.m.length=0
  ·have e1:((d.m.length:Int)=0)=True:=tt (by omega);rw [if_pos (Or.inr a0)];simp only [mJ,rX,ag,am,go_sem,am4,am3,am5,e9,e1]
  ·have e1:((d.m.length:Int)=0)=False:=ff (by omega);rw [if_neg (fun h=>h.elim (fun h=>nomatch h) a0)];obtain ⟨h1,h2,h3,h4⟩:=ey hv ok.lb;have e2:IntKind.i64.wrap (((af (aa d.m):Nat):Int)+d.e)=((af (aa d.m):Nat):Int)+d.e:=by grind [i64_in]
   simp only [mJ,rX,ag,am,go_sem,am4,am3,am5,am6,am7,e9,e1,pD ok.lb (Nat.le_trans h1 (by decide)),e2]
theorem Np {d:Rd} (ok:Ok0 d):R F.dyadic_Bits [ag d] []=some (I (if vd d=true then (af (aa d.m):Nat) else 0),[]):=by
 refine aE Lo rfl ?_;have e9:=gg ok;simp only [ag,am] at e9;cases hv:vd d with
 | false =>
  rw [hv] at e9;simp only [pz,vk,ag,am,go_sem,am4,am3,am5,e9]
 | true =>
  rw [hv] at e9;obtain ⟨h1,h2,h3,h4⟩:=ey hv ok.lb;simp only [pz,vk,ag,am,go_sem,am4,am3,am5,e9,pD ok.lb (Nat.le_trans h1 (by decide))]
theorem CQ {d:Rd} (ok:Ok0 d):R F.dyadic_Neg [ag d] []=some (ag (if vd d=false∨d.m.length=0 then aP else ⟨!d.neg,d.m,d.e⟩),[]):=by
 refine aE M5 rfl ?_;have e9:=gg ok;simp only [ag,am] at e9;cases hv:vd d with
 | false =>
  rw [hv] at e9;rw [if_pos (Or.inl rfl)];simp only [mL,se,ag,am,aP,go_sem,am4,am3,am5,e9]
 | true =>
  rw [hv] at e9;by_cases a0:d.m.length=0
  ·have e1:((d.m.length:Int)=0)=True:=tt (by omega);rw [if_pos (Or.inr a0)];simp only [mL,se,ag,am,aP,go_sem,am4,am3,am5,e9,e1]
  ·have e1:((d.m.length:Int)=0)=False:=ff (by omega);rw [if_neg (fun h=>h.elim (fun h=>nomatch h) a0)];obtain ⟨h1,h2,h3,h4⟩:=ey hv ok.lb;have hc:=FL (m:=d.m) (fun h=>a0 (by grind)) (Nat.le_trans h1 (by decide));simp only [mL,se,ag,am,go_sem,am4,am3,am5,am6,am7,e9,e1,hc]
theorem G7 {d:Rd} (ok:Ok0 d):R F.dyadic_Abs [ag d] []=some (ag (if vd d=false∨d.m.length=0 then aP else ⟨false,d.m,d.e⟩),[]):=by
 refine aE M8 rfl ?_;have e9:=gg ok;simp only [ag,am] at e9;cases hv:vd d with
 | false =>
  rw [hv] at e9;rw [if_pos (Or.inl rfl)];simp only [mO,su,ag,am,aP,go_sem,am4,am3,am5,e9]
 | true =>
  rw [hv] at e9;by_cases a0:d.m.length=0
  ·have e1:((d.m.length:Int)=0)=True:=tt (by omega);rw [if_pos (Or.inr a0)];simp only [mO,su,ag,am,aP,go_sem,am4,am3,am5,e9,e1]
  ·have e1:((d.m.length:Int)=0)=False:=ff (by omega);rw [if_neg (fun h=>h.elim (fun h=>nomatch h) a0)];obtain ⟨h1,h2,h3,h4⟩:=ey hv ok.lb;have hc:=FL (m:=d.m) (fun h=>a0 (by grind)) (Nat.le_trans h1 (by decide));simp only [mO,su,ag,am,go_sem,am4,am3,am5,am6,am7,e9,e1,hc]
theorem G8 {m:List Nat} (hb:Lb m) (h1:m.length≤256) {k:Nat} (hk:k≤65536) (hl:(ao (aa m*2 ^ k)).length≤256):R F.dyadic_shifted [lm m,I k] []=some (lm (ao (aa m*2 ^ k)),[]):=by
 refine aE FA rfl ?_;have hs:=UP (n:=(k:Nat)) hb h1;rw [if_neg (by omega),Int.toNat_natCast,gX,if_neg (by omega)] at hs;simp only [pP,xc,go_sem,am4,am3,am5,hs]
theorem Zl {neg:Bool} {m:List Nat} {e:Int} (hb:Lb m) (hl:m.length < 4611686018427387904):R F.dyadic_Make [B neg,lm m,I e] []=some (if 256 < m.length∨e < -32768∨32768 < e then .tup [ag aP,I 1]
  else if nQ (af (aa (bG neg (aa m) e).m)) (bG neg (aa m) e).e=true then .tup [ag (bG neg (aa m) e),I 0] else .tup [ag aP,I 9],[]):=by
 refine aE Lp rfl ?_;by_cases a1:256 < m.length
 ·have e1:((256:Int) < m.length)=True:=tt (by omega);rw [if_pos (Or.inl a1)];simp only [jg,mP,ag,am,aP,go_sem,am4,am3,am5,e1]
 have e1:((256:Int) < m.length)=False:=ff (by omega);by_cases a2:e < -32768∨32768 < e
 ·have e2:(decide (-32768≤e) && decide (e≤32768))=false:=by
   grind
  rw [if_pos (Or.inr a2)];simp only [jg,mP,ag,am,aP,go_sem,am4,am3,am5,e1,yY,e2]
 have e2:(decide (-32768≤e) && decide (e≤32768))=true:=by
  grind
 rw [if_neg (fun h=>h.elim a1 a2)];have hc:=xF (neg:=neg) (e:=e) hb (by omega) ⟨by omega,by omega⟩;have hL:Lb (bG neg (aa m) e).m:=by
  unfold bG;split
  ·exact fun x hx=>nomatch hx
  grind [aO]
 have hN:(bG neg (aa m) e).m.length≤100000:=by
  unfold bG;split
  ·exact Nat.zero_le _
  ·have h5:(ao (aa m / 2 ^ tz (aa m))).length≤m.length:=gu (Nat.lt_of_le_of_lt (Nat.div_le_self _ _) (bR hb));grind
 have hd:=G6 hL hN;generalize bG neg (aa m) e=d at hc hd ⊢;simp only [ag,am] at hc hd;cases hv:nQ (af (aa d.m)) d.e with
 | false =>
  rw [hv,if_neg (fun h=>nomatch h)] at hd;simp only [jg,mP,ag,am,aP,go_sem,am4,am3,am5,e1,yY,e2,hc,hd]
 | true =>
  rw [hv,if_pos rfl] at hd;simp only [jg,mP,ag,am,go_sem,am4,am3,am5,e1,yY,e2,hc,hd]
def mg (d:Rd):Nat:=aa d.m*2 ^ (d.e+16384).toNat
def zI (d:Rd):Int:=if d.neg=true then -(mg d:Int) else mg d
theorem Xj {x y k:Nat} (hk:0 < k):bC (x*k) (y*k)=bC x y:=by
 simp_all [bC,Nat.mul_lt_mul_right,if_pos,if_neg]
theorem AQ {x y:Nat} (h:af x < af y):x < y:=by
 have h1:=(bv (n:=x) (k:=af x)).1 (Nat.le_refl _);have h2:=jU.1 h;omega
theorem cP {d:Rd} (h:vd d=true) (h0:d.m.length ≠ 0):aa d.m ≠ 0:=by
 obtain ⟨h1,h2,h3,h4⟩:=zY h h0;have:=dv d.m 0;grind
theorem DN {d:Rd} (h:vd d=true) (hb:Lb d.m) (h0:d.m.length ≠ 0):(af (mg d):Int)=aQ d+16384:=by
 obtain ⟨h1,h2,h3,h4⟩:=ey h hb;unfold mg aQ;rw [dH _ (cP h h0),if_neg (fun h'=>h'.elim (fun h''=>by grind) h0)];omega
theorem AR {d:Rd} {e:Int} (h1:-16384≤e) (h2:e≤d.e):mg d=aa d.m*2 ^ (d.e - e).toNat*2 ^ (e+16384).toNat:=by
 unfold mg;rw [Nat.mul_assoc,← Nat.pow_add];grind
theorem aS {n k:Nat} (h:af n≤32*k):(ao n).length≤k:=by
 refine gu ?_;have:=bv.1 h;grind [Nat.pow_mul]
theorem S2 {a b:Rd} (oa:Ok0 a) (ob:Ok0 b) (va:vd a=true) (vb:vd b=true) (na:a.m.length ≠ 0) (nb:b.m.length ≠ 0):R F.dyadic_compare [ag a,ag b] []=some (I (bC (mg a) (mg b)),[]):=by
 refine aE Fv rfl ?_;have ta:=zZ oa;have tb:=zZ ob;have ba:=DN va oa.lb na;have bb:=DN vb ob.lb nb;simp only [ag,am] at ta tb;by_cases h1:aQ a < aQ b
 ·have h2:bC (mg a) (mg b)=-1:=by
   rw [bC,if_pos (AQ (by omega))]
  have e1:(aQ a < aQ b)=True:=tt h1;rw [h2];simp only [iK,l7,ag,am,go_sem,am4,am3,am5,am6,am7,ta,tb,e1]
 have e1:(aQ a < aQ b)=False:=ff h1;by_cases h2:aQ b < aQ a
 ·have h3:bC (mg a) (mg b)=1:=by
   have:=AQ (x:=mg b) (y:=mg a) (by omega);rw [bC,if_neg (by omega),if_pos this]
  have e2:(aQ b < aQ a)=True:=tt h2;rw [h3];simp only [iK,l7,ag,am,go_sem,am4,am3,am5,am6,am7,ta,tb,e1,e2]
 have e2:(aQ b < aQ a)=False:=ff h2;obtain ⟨a1,a2,a3,a4⟩:=ey va oa.lb;obtain ⟨b1,b2,b3,b4⟩:=ey vb ob.lb;obtain ⟨e,hm⟩:∃ e,(if b.e < a.e then b.e else a.e)=e:=⟨_,rfl⟩;have hea:e≤a.e∧e≤b.e∧(e=a.e∨e=b.e):=by
  omega
 obtain ⟨m1,m2,m3⟩:=hea;have ka:IntKind.i64.wrap (a.e - e)=(((a.e - e).toNat:Nat):Int):=wi (by omega) (by omega);have kb:IntKind.i64.wrap (b.e - e)=(((b.e - e).toNat:Nat):Int):=wi (by omega) (by omega);have hta:aQ a=(af (aa a.m):Nat)+a.e:=by
  simp_all [aQ,if_neg]
 have htb:aQ b=(af (aa b.m):Nat)+b.e:=by
  simp_all [aQ,if_neg]
 have la:(ao (aa a.m*2 ^ (a.e - e).toNat)).length≤256:=aS (by
  grind [dH,cP])
 have lb:(ao (aa b.m*2 ^ (b.e - e).toNat)).length≤256:=aS (by
  grind [dH,cP])
 have sa:=G8 oa.lb a1 (k:=(a.e - e).toNat) (by omega) la;have sb:=G8 ob.lb b1 (k:=(b.e - e).toNat) (by omega) lb;have hc:=uH (aO (aa a.m*2 ^ (a.e - e).toNat)) (aO (aa b.m*2 ^ (b.e - e).toNat)) (Nat.le_trans la (by decide)) (Nat.le_trans lb (by decide));rw [aK,aK,← Xj (k:=2 ^ (e+16384).toNat) (Nat.two_pow_pos _),← AR (by omega) m1,← AR (by omega) m2] at hc;simp only [iK,l7,ag,am,go_sem,am4,am3,am5,am6,am7,ta,tb,e1,e2,hm,ka,kb,sa,sb,hc]
def bI (x y:Int):Int:=if x < y then -1 else if y < x then 1 else 0
def bY (d:Rd):Int:=if d.m.length=0 then 0 else if d.neg=true then -1 else 1
theorem Qs {d:Rd} (h0:d.m.length=0):mg d=0:=by
 unfold mg;rw [List.length_eq_zero_iff.1 h0];exact Nat.zero_mul _
theorem Aa {d:Rd} (h:vd d=true) (h0:d.m.length ≠ 0):0 < mg d :=
 Nat.mul_pos (Nat.pos_of_ne_zero (cP h h0)) (Nat.two_pow_pos _)
theorem AS (d:Rd) (h:vd d=true):(bY d=0∧zI d=0∧d.m.length=0)∨(bY d=-1∧zI d=-(mg d:Int)∧0 < mg d∧d.m.length ≠ 0)∨(bY d=1∧zI d=mg d∧0 < mg d∧d.m.length ≠ 0):=by
 unfold bY zI;by_cases h0:d.m.length=0
 ·grind [Qs]
 ·have:=Aa h h0;grind
theorem xG {d:Rd} (ok:Ok0 d) (hv:vd d=true):R F.dyadic_Sign [ag d] []=some (I (bY d),[]):=by
 simp_all [IM,bY,if_pos,if_neg]
theorem wv {a b:Rd} (oa:Ok0 a) (ob:Ok0 b):R F.dyadic_Cmp [ag a,ag b] []=some (I (if vd a=true∧vd b=true then bI (zI a) (zI b) else 0),[]):=by
 refine aE MW rfl ?_;have va:=gg oa;have vb:=gg ob;simp only [ag,am] at va vb;cases ha:vd a with
 | false =>
  rw [ha] at va;simp only [gp,jp,ag,am,go_sem,am4,am3,am5,va]
 | true =>
 rw [ha] at va;cases hb:vd b with
 | false =>
  rw [hb] at vb;simp only [gp,jp,ag,am,go_sem,am4,am3,am5,va,vb]
 | true =>
 rw [hb] at vb;have sa:=xG oa ha;have sb:=xG ob hb;have ca:=AS a ha;have cb:=AS b hb;simp only [ag,am] at sa sb;by_cases h1:bY a < bY b
 ·have e1:(bY a < bY b)=True:=tt h1;have e2:bI (zI a) (zI b)=-1:=if_pos (by omega);rw [e2];simp only [gp,jp,ag,am,go_sem,am4,am3,am5,am6,am7,va,vb,sa,sb,e1]
 have e1:(bY a < bY b)=False:=ff h1;by_cases h2:bY b < bY a
 ·have e2:(bY b < bY a)=True:=tt h2;have e3:bI (zI a) (zI b)=1:=by rw [bI,if_neg (by omega),if_pos (by omega)]
  rw [e3];simp only [gp,jp,ag,am,go_sem,am4,am3,am5,am6,am7,va,vb,sa,sb,e1,e2]
 have e2:(bY b < bY a)=False:=ff h2;by_cases h3:bY a=0
 ·have e3:(bY a=0)=True:=tt h3;have e4:bI (zI a) (zI b)=0:=by rw [bI,if_neg (by omega),if_neg (by omega)]
  rw [e4];simp only [gp,jp,ag,am,go_sem,am4,am3,am5,am6,am7,va,vb,sa,sb,e1,e2,e3]
 have e3:(bY a=0)=False:=ff h3;have hc:=S2 oa ob ha hb (by omega) (by omega);simp only [ag,am] at hc;have e4:IntKind.i64.wrap (bY a*bC (mg a) (mg b))=bI (zI a) (zI b):=by
  have hp:bY a*bC (mg a) (mg b)=bI (zI a) (zI b):=by
   rcases ca with ca | ca | ca
   ·omega
   ·rw [ca.1,ca.2.1];unfold bC bI;omega
   ·rw [ca.1,ca.2.1];unfold bC bI;omega
  rw [hp];unfold bI;split
  ·decide
  ·split <;> decide
 simp only [gp,jp,ag,am,go_sem,am4,am3,am5,am6,am7,va,vb,sa,sb,e1,e2,e3,hc,e4]
theorem CR (x y:Nat):af (x*y)≤af x+af y:=by
 rw [bv,Nat.pow_add];exact Nat.mul_lt_mul'' (bv.1 (Nat.le_refl _)) (bv.1 (Nat.le_refl _))
theorem ww (neg:Bool) (M:Nat) (e:Int):Lb (bG neg M e).m:=by
 unfold bG;split
 ·exact fun x hx=>nomatch hx
 grind [aO]
theorem FM {neg:Bool} {M:Nat} {e:Int} {k:Nat} (h:af M≤32*k):(bG neg M e).m.length≤k:=by
 unfold bG;split
 ·exact Nat.zero_le _
 ·refine aS ?_;grind [iy]
def AT (d:Rd):AV:=if nQ (af (aa d.m)) d.e=true then .tup [ag d,I 0] else .tup [ag aP,I 9]
def LD (a b:Rd):AV:=if vd a=true∧vd b=true then if a.m.length=0∨b.m.length=0 then .tup [ag aP,I 0] else if 4096 < af (aa a.m)+af (aa b.m) - 1 then .tup [ag aP,I 9] else AT (bG (a.neg != b.neg) (aa a.m*aa b.m) (a.e+b.e)) else .tup [ag aP,I 1]
theorem sx (a b:Bool):(true != (a == b))=(a != b):=by cases a <;> cases b <;> rfl
theorem Zm {a b:Rd} (oa:Ok0 a) (ob:Ok0 b):R F.dyadic_Mul [ag a,ag b] []=some (LD a b,[]):=by
 refine aE M1 rfl ?_;unfold LD;have va:=gg oa;have vb:=gg ob;simp only [ag,am] at va vb;cases ha:vd a with
 | false =>
  rw [ha] at va;simp only [fm,hH,ag,am,aP,go_sem,am4,am3,am5,va]
 | true =>
 rw [ha] at va;cases hb:vd b with
 | false =>
  rw [hb] at vb;simp only [fm,hH,ag,am,aP,go_sem,am4,am3,am5,va,vb]
 | true =>
 rw [hb] at vb;rw [if_pos ⟨rfl,rfl⟩];by_cases a0:a.m.length=0
 ·have e1:((a.m.length:Int)=0)=True:=tt (by omega);rw [if_pos (Or.inl a0)];simp only [fm,hH,ag,am,aP,go_sem,am4,am3,am5,va,vb,e1]
 have e1:((a.m.length:Int)=0)=False:=ff (by omega);by_cases b0:b.m.length=0
 ·have e2:((b.m.length:Int)=0)=True:=tt (by omega);rw [if_pos (Or.inr b0)];simp only [fm,hH,ag,am,aP,go_sem,am4,am3,am5,va,vb,e1,e2]
 have e2:((b.m.length:Int)=0)=False:=ff (by omega);rw [if_neg (fun h=>h.elim a0 b0)];obtain ⟨a1,a2,a3,a4⟩:=ey ha oa.lb;obtain ⟨b1,b2,b3,b4⟩:=ey hb ob.lb;have za:=pD oa.lb (Nat.le_trans a1 (by decide));have zb:=pD ob.lb (Nat.le_trans b1 (by decide));have pa:=abD (cP ha a0);have w1:IntKind.i64.wrap (((af (aa a.m):Nat):Int)+(af (aa b.m):Nat))=((af (aa a.m)+af (aa b.m):Nat):Int):=wi (by omega) (by omega);have w2:IntKind.i64.wrap (((af (aa a.m)+af (aa b.m):Nat):Int) - 1)=((af (aa a.m)+af (aa b.m) - 1:Nat):Int):=wi (by omega) (by omega);by_cases c0:4096 < af (aa a.m)+af (aa b.m) - 1
 ·have e3:((4096:Int) < ((af (aa a.m)+af (aa b.m) - 1:Nat):Int))=True:=tt (by omega);rw [if_pos c0];simp only [fm,hH,ag,am,aP,go_sem,am4,am3,am5,am6,am7,va,vb,e1,e2,za,zb,w1,w2,e3]
 have e3:((4096:Int) < ((af (aa a.m)+af (aa b.m) - 1:Nat):Int))=False:=ff (by omega);rw [if_neg c0];have hp:=CR (aa a.m) (aa b.m);have hl:(ao (aa a.m*aa b.m)).length≤129:=aS (by omega);have hm:=UO oa.lb ob.lb a1 b1;rw [gX,if_neg (by omega)] at hm;have w3:IntKind.i64.wrap (a.e+b.e)=a.e+b.e:=i64_in _ ⟨by omega,by omega⟩;have hc:=xF (neg:=a.neg != b.neg) (e:=a.e+b.e) (aO (aa a.m*aa b.m)) (Nat.le_trans hl (by decide)) ⟨by omega,by omega⟩;rw [aK] at hc;have hd:=G6 (ww (a.neg != b.neg) (aa a.m*aa b.m) (a.e+b.e)) (Nat.le_trans (FM (k:=129) (by omega)) (by decide));unfold AT;generalize bG (a.neg != b.neg) (aa a.m*aa b.m) (a.e+b.e)=d at hc hd ⊢;simp only [ag,am] at hc hd;cases hv:nQ (af (aa d.m)) d.e with
 | false =>
  rw [hv,if_neg (fun h=>nomatch h)] at hd;rw [if_neg (fun h=>nomatch h)];simp only [fm,hH,ag,am,aP,go_sem,am4,am3,am5,am6,am7,va,vb,e1,e2,za,zb,w1,w2,w3,e3,hm,sx,hc,hd]
 | true =>
  rw [hv,if_pos rfl] at hd;rw [if_pos rfl];simp only [fm,hH,ag,am,go_sem,am4,am3,am5,am6,am7,va,vb,e1,e2,za,zb,w1,w2,w3,e3,hm,sx,hc,hd]
theorem G9 {p:Int}:R F.round_precise [I p] []=some (B (decide (8≤p) && decide (p≤512)),[]):=by
 refine aE G3 rfl ?_;by_cases a1:¬ (8≤p)
 ·simp only [mq,so,go_sem,a1]
 replace a1:=Decidable.not_not.1 a1
 simp only [mq,so,go_sem,a1]
theorem AU {m:List Nat} (hb:Lb m):af (aa m)≤32*m.length:=by
 rw [bv,Nat.pow_mul];exact bR hb
def qn (m:List Nat) (e:Int) (more:Bool):AV:=.agg [lm m,I e,B more]
theorem ad2 {d:Rd}:R F.round_of [ag d] []=some (qn d.m d.e false,[]):=by
 refine aE SX rfl ?_;simp only [yW,GN,ag,am,qn,go_sem,am4,am3,am5]
theorem tJ {m:List Nat} (hb:Lb m) (h1:m.length≤256) {k:Nat} (hk:k≤65536) (hl:(ao (aa m*2 ^ k)).length≤256):R F.round_shl [lm m,I k] []=some (lm (ao (aa m*2 ^ k)),[]):=by
 refine aE PV rfl ?_;have hs:=UP (n:=(k:Nat)) hb h1;rw [if_neg (by omega),Int.toNat_natCast,gX,if_neg (by omega)] at hs;simp only [xn,EV,go_sem,am4,am3,am5,hs]
theorem US {x y:Nat}:bC x y=0↔x=y:=by
 unfold bC;constructor
 ·intro h;split at h
  ·exact nomatch h
  ·split at h
   ·exact nomatch h
   ·omega
 ·intro h;rw [if_neg (by omega),if_neg (by omega)]
theorem Xk {x n:Nat}:x / 2 ^ (min n (af x))=x / 2 ^ n∧(x / 2 ^ (min n (af x))*2 ^ (min n (af x))=x↔x % 2 ^ n=0):=by
 by_cases h:n≤af x
 ·rw [Nat.min_eq_left h];refine ⟨rfl,?_⟩;have:=Nat.div_add_mod x (2 ^ n);rw [Nat.mul_comm] at this;omega
 ·have hb:x < 2 ^ af x:=bv.1 (Nat.le_refl _);have hn:x < 2 ^ n:=bv.1 (by omega);rw [Nat.min_eq_right (by omega),Nat.div_eq_of_lt hb,Nat.div_eq_of_lt hn,Nat.mod_eq_of_lt hn,Nat.zero_mul];exact ⟨rfl,⟨fun h=>h.symm,fun h=>h.symm⟩⟩
theorem IN {m:List Nat} (hb:Lb m) (h1:m.length≤256) {n:Nat} (hn:n < 4611686018427387904):R F.round_shr [lm m,I n] []=some (.tup [lm (ao (aa m / 2 ^ n)),B (decide (aa m % 2 ^ n ≠ 0))],[]):=by
 refine aE PW rfl ?_;have hB:=zX hb (Nat.le_trans h1 (by decide));have hlen:=AU hb;obtain ⟨q1,q2⟩:=Xk (x:=aa m) (n:=n);generalize hk:min n (af (aa m))=k at q1 q2;have k1:k≤8192:=by omega
 have hs:=UR (n:=(k:Nat)) hb h1;rw [if_neg (by omega),Int.toNat_natCast,q1] at hs;rw [q1] at q2;have hle:aa m / 2 ^ n*2 ^ k≤aa m:=by
  rw [← q1];exact Nat.div_mul_le_self _ _
 have l1:(ao (aa m / 2 ^ n)).length≤m.length:=gu (Nat.lt_of_le_of_lt (Nat.div_le_self _ _) (bR hb));have l2:(ao (aa m / 2 ^ n*2 ^ k)).length≤m.length:=gu (Nat.lt_of_le_of_lt hle (bR hb));have hl:=tJ (aO (aa m / 2 ^ n)) (by omega) (k:=k) (by omega) (by rw [aK]; omega);rw [aK] at hl;have hc:=uH (aO (aa m / 2 ^ n*2 ^ k)) hb (by omega) (by omega);rw [aK] at hc;have hz:decide (aa m % 2 ^ n ≠ 0)=!decide (bC (aa m / 2 ^ n*2 ^ k) (aa m)=0):=by
  rw [← decide_not,decide_eq_decide,ne_eq,not_congr (US.trans q2)]
 rw [hz];generalize bC (aa m / 2 ^ n*2 ^ k) (aa m)=c at hc ⊢;by_cases h:af (aa m) < n
 ·have e2:k=af (aa m):=by omega
  have e1:((k:Int) < n)=True:=tt (by omega);rw [← e2] at hB;simp only [sq,yX,go_sem,am4,am3,am5,hB,e1,hs,hl,hc]
 ·have e1:(((af (aa m):Nat):Int) < n)=False:=ff (by omega);have e2:k=n:=by omega
  subst e2;simp only [sq,yX,go_sem,am4,am3,am5,hB,e1,hs,hl,hc]
def yu (l:List Rd):List (List AV):=l.map am
def vO (l:List Rd):AV:=.sl 3 (yu l)
@[go_sem] theorem akK (l:List Rd):(yu l).length=l.length:=by simp [yu]
theorem Zn {l:List Rd} {i:Int} {n:Nat} {d:Rd} (hi:i=n) (h:l[n]?=some d):aZ (yu l) i=some (.ipt (am d)):=by
 grind [aZ,yu]
theorem S3 (p:Int) (l:List Rd) (ok:∀ d ∈ l,Ok0 d) (h2:l.length≤100000):∀ (k i:Nat),i+k=l.length→∀ (s:ae) (h:ac),s 0=I p→s 7=vO l→s 8=I l.length→s 9=I i →
  ∃ hh,ap 0 [0] (aq (ak R (aG false) jy) [0,7,8,9] [] s h)=if ((l.drop i).all vd)=true then some (.normal,⟨upd (fun _=>.any) 0 (I p),fun _=>.dead⟩) else some (.ret,⟨upd (fun _=>.any) 4 (I 1),hh⟩):=by
 intro k;induction k with
 | zero =>
  intro i hi s h h0 h7 h8 h9;have e1:((i:Int) < l.length)=False:=ff (by omega);rw [List.drop_eq_nil_of_le (by omega),ai,List.all_nil,if_pos rfl];refine ⟨fun _=>.dead,?_⟩;simp only [jy,go_sem,h0,h7,h8,h9,e1]
 | succ k ih =>
  intro i hi s h h0 h7 h8 h9;have hlt:i < l.length:=by omega
  have e1:((i:Int) < l.length)=True:=tt (by omega);have e2:aZ (yu l) (i:Int)=some (.ipt (am l[i])):=Zn rfl (List.getElem?_eq_getElem hlt);have e5:IntKind.i64.wrap ((i:Int)+1)=((i+1:Nat):Int):=wi (by omega) (by omega);have e3:=gg (ok l[i] (List.getElem_mem hlt));rw [List.drop_eq_getElem_cons hlt,List.all_cons,ai];have ih':=ih (i+1) (by omega);generalize l[i]=d at e2 e3 ⊢;simp only [ag] at e3;simp only [am] at e2 e3;cases hv:vd d with
  | false =>
   rw [hv] at e3;refine ⟨?hh,?_⟩;rotate_left;simp only [jy,go_sem,am4,am3,am5,h0,h7,h8,h9,vO,e1,e2,e3];rfl
  | true =>
   rw [hv] at e3;simp only [jy,go_sem,am4,am3,am5,h0,h7,h8,h9,vO,e1,e2,e3,e5];exact ih' _ _ rfl rfl rfl rfl
def bp (p:Int) (l:List Rd):Int:=if l.all vd=true then (if 8≤p∧p≤512 then 0 else 2) else 1
theorem xH {p:Int} {l:List Rd} (ok:∀ d ∈ l,Ok0 d) (h2:l.length≤100000):R F.round_fault [I p,vO l] []=some (I (bp p l),[]):=by
 refine aE Lh rfl ?_;have h3:=S3 p l ok h2 l.length 0 (Nat.zero_add _);simp only [List.drop_zero,Int.natCast_zero] at h3;unfold bp;cases ha:l.all vd with
 | false =>
  rw [ha] at h3;simp only [lG,qD,go_sem,vO];rw [(h3 _ _ rfl rfl rfl rfl).choose_spec];simp only [go_sem]
 | true =>
  rw [ha] at h3;by_cases hp:8≤p∧p≤512
  ·have e1:(decide (8≤p) && decide (p≤512))=true:=by grind
   have e2:=G9 (p:=p);rw [e1] at e2;rw [if_pos hp];simp only [lG,qD,go_sem,vO];rw [(h3 _ _ rfl rfl rfl rfl).choose_spec];simp only [go_sem,am4,am3,e2]
  ·have e1:(decide (8≤p) && decide (p≤512))=false:=by
    grind
   have e2:=G9 (p:=p);rw [e1] at e2;rw [if_neg hp];simp only [lG,qD,go_sem,vO];rw [(h3 _ _ rfl rfl rfl rfl).choose_spec];simp only [go_sem,am4,am3,e2]
noncomputable def cW:Cmd:=.seq (.seq (.ops [1,2,6,8,9,55] [cm 52 2,cm 53 52,cg 54 53 true (.mv (.t 10)),co 55 (.pick (.t 53) (.t 54) (.c (.v (.bool false))))]) (.cond (.t 55) (.ops [1,2,6,8,9] [cm 57 9,⟨(some 58),none,.buildSl 1 [(.v (.int .u32 0))] 1 [(0,(.c (.v (.int .u32 1))))]⟩,⟨(some 59),none,.call (.c (.fn F.natural_Add [] [])) [(.t 57),(.t 58)]⟩,cm 56 59,co 60 (.ext 0 (.t 56)),co 61 (.ext 1 (.t 56)),cm 9 60]) (.skip))) (.seq (.seq (.ops [1,2,6,8,9,66] [cm 62 9,⟨(some 63),none,.call (.c (.fn F.natural_Bits [] [])) [(.t 62)]⟩,cm 64 8,co 65 (.bin .add (.t 63) (.t 64)),co 66 (.bin .gtr (.t 65) (.c (.v (.int .i64 16384))))]) (.cond (.t 66) (.seq (.seq (.ops [1,6,67] [cm 67 2]) (.cond (.t 67) (.seq (.ops [6,7] [co 68 (.build [(.v (.bool false)),.emp,(.v (.int .i64 0))] []),⟨none,none,.store 3 (.t 6) (.t 68)⟩,co 7 (.mv (.c (.v (.int .i64 9))))]) (.ret)) (.skip))) (.seq (.ops [1,6,9] [⟨(some 70),none,.buildSl 1 [(.v (.int .u32 0))] 1 [(0,(.c (.v (.int .u32 1))))]⟩,cm 71 1,⟨(some 72),none,.call (.c (.fn F.round_shl [] [])) [(.t 70),(.t 71)]⟩,⟨(some 73),none,.buildSl 1 [(.v (.int .u32 0))] 1 [(0,(.c (.v (.int .u32 1))))]⟩,⟨(some 74),none,.call (.c (.fn F.natural_Sub [] [])) [(.t 72),(.t 73)]⟩,cm 69 74,co 75 (.ext 0 (.t 69)),co 76 (.ext 1 (.t 69)),cm 9 75]) (.ops [6,8,9] [cm 77 1,co 78 (.bin .sub (.c (.v (.int .i64 16384))) (.t 77)),cm 8 78]))) (.skip))) (.seq (.ops [6,7] [cm 79 9,cm 80 8,⟨(some 81),none,.call (.c (.fn F.dyadic_Make [] [])) [(.c (.v (.bool false))),(.t 79),(.t 80)]⟩,co 82 (.ext 0 (.t 81)),co 83 (.ext 1 (.t 81)),⟨none,none,.store 3 (.t 6) (.t 82)⟩,cm 7 83]) (.ret)))
theorem qQ:EU=.seq (.ops [1,2,3,6] [⟨(some 3),none,.box 3 (.t 0)⟩,⟨(some 6),none,.alloc [(.v (.bool false)),.emp,(.v (.int .i64 0))]⟩,co 7 (.mv (.c (.v (.int .i64 0))))]) (.seq (.dops [1,2,3,6,8] [co 13 (.fadr 1 (.t 3)),⟨(some 14),none,.load 1 false (.t 13)⟩,co 15 (.fadr 0 (.t 3)),⟨(some 16),none,.load 1 false (.t 15)⟩,⟨(some 17),none,.call (.c (.fn F.natural_Bits [] [])) [(.t 16)]⟩,co 18 (.bin .add (.t 14) (.t 17)),cm 19 1,co 20 (.bin .sub (.t 18) (.t 19)),co 21 (.mnx false (.t 20) [(.c (.v (.int .i64 (-16384))))]),cm 8 21] [(1,4)]) (.seq (.dops [1,2,3,6,8,10] [co 22 (.fadr 0 (.t 3)),⟨(some 23),none,.load 1 false (.t 22)⟩,co 24 (.fadr 2 (.t 3)),⟨(some 25),none,.load 1 false (.t 24)⟩,cm 9 23,cm 10 25] []) (.seq (.seq (.ops [1,2,3,6,8,10,29] [co 26 (.fadr 1 (.t 3)),⟨(some 27),none,.load 1 false (.t 26)⟩,cm 28 8,co 29 (.bin .geq (.t 27) (.t 28))]) (.cond (.t 29) (.ops [1,2,6,8,9,10] [co 30 (.fadr 0 (.t 3)),⟨(some 31),none,.load 1 false (.t 30)⟩,co 32 (.fadr 1 (.t 3)),⟨(some 33),none,.load 1 false (.t 32)⟩,cm 34 8,co 35 (.bin .sub (.t 33) (.t 34)),⟨(some 36),none,.call (.c (.fn F.round_shl [] [])) [(.t 31),(.t 35)]⟩,cm 9 36]) (.seq (.ops [1,2,6,8,10,11,12] [co 38 (.fadr 0 (.t 3)),⟨(some 39),none,.load 1 false (.t 38)⟩,cm 40 8,co 41 (.fadr 1 (.t 3)),⟨(some 42),none,.load 1 false (.t 41)⟩,co 43 (.bin .sub (.t 40) (.t 42)),⟨(some 44),none,.call (.c (.fn F.round_shr [] [])) [(.t 39),(.t 43)]⟩,cm 37 44,co 45 (.ext 0 (.t 37)),co 46 (.ext 1 (.t 37)),cm 11 45,cm 12 46]) (.ops [1,2,6,8,9,10] [cm 47 11,cm 48 10,cm 49 48,cg 50 49 false (.mv (.t 12)),co 51 (.pick (.t 49) (.c (.v (.bool true))) (.t 50)),cm 9 47,cm 10 51])))) cW))):=rfl
def dT (M:Nat) (e:Int) (p:Int):Int:=if e+(af M:Nat) - p < -16384 then -16384 else e+(af M:Nat) - p
def oN (M:Nat) (e:Int) (more:Bool) (u:Int):Nat × Bool:=if u≤e then (M*2 ^ (e - u).toNat,more) else (M / 2 ^ (u - e).toNat,more || decide (M % 2 ^ (u - e).toNat ≠ 0))
def kM (up:Bool) (q:Nat × Bool):Nat:=if (up && q.2)=true then q.1+1 else q.1
def wm (q:Nat) (u:Int):AV:=AT (bG false q u)
def Nq (p:Int) (up:Bool) (q:Nat) (u:Int):AV:=if 16384 < (af q:Nat)+u then (if up=true then .tup [ag aP,I 9] else wm (2 ^ p.toNat - 1) (16384 - p)) else wm q u
theorem Qt {q:Nat} {u:Int} (hq:af q≤8192) (h1:-32768≤u) (h2:u≤32768):R F.dyadic_Make [B false,lm (ao q),I u] []=some (wm q u,[]):=by
 have hl:(ao q).length≤256:=aS (by omega);rw [Zl (aO q) (Nat.lt_of_le_of_lt hl (by decide)),if_neg (by omega),aK];rfl
theorem UT {q:Nat} (hq:af q≤8000):R F.natural_Add [lm (ao q),lm [1]] []=some (.tup [lm (ao (q+1)),I 0],[]):=by
 have hl:(ao q).length≤250:=aS (by omega);have h1:Lb [1]:=fun x hx=>by
  grind
 have h2:af (q+1)≤8001:=FK hq;have hl2:(ao (q+1)).length≤256:=aS (by omega);rw [UG (aO q) h1 (by omega) (by decide),aK];show some (gX (q+1),[])=_
 simp_all [gX,if_neg]
theorem IP:aa [1]=1:=rfl
theorem UU:Lb [1]:=fun x hx=>by
 grind
theorem abi (n:Nat) (hn:n≤1000):R F.round_shl [lm [1],I (n:Nat)] []=some (lm (ao (2 ^ n)),[])∧R F.natural_Sub [lm (ao (2 ^ n)),lm [1]] []=some (.tup [lm (ao (2 ^ n - 1)),I 0],[]):=by
 have hb:af (2 ^ n)≤n+1:=by
  simp_all [bv,Nat.pow_lt_pow_right,Nat.lt_succ_self]
 have h1:(ao (2 ^ n)).length≤256:=aS (by omega);have h2:=tJ UU (by decide) (k:=n) (by omega) (by simp_all [IP,Nat.one_mul]);have h3:=UI (aO (2 ^ n)) UU h1 (by decide);have h4:0 < 2 ^ n:=Nat.two_pow_pos n;have h5:af (2 ^ n - 1)≤n:=by
  rw [bv];omega
 have h6:(ao (2 ^ n - 1)).length≤256:=aS (by omega)
 simp_all [aK,IP,if_neg,gX]
theorem xI:AV.sl 1 [[AV.v (.int .u32 1)]]=lm [1]:=rfl
theorem FN {n:Nat} {u:Int} {up more:Bool} {q:Nat} (hp:8≤n∧n≤512) (hq:af q≤7000) (hu:-16384≤u∧u≤60000) (s:ae) (z:Ob)
  (h1:s 1=I (n:Nat)) (h2:s 2=B up) (h6:s 6=.ref 6 none 0 0 0) (h8:s 8=I u) (h9:s 9=lm (ao q)) (h10:s 10=B more) :
  gx false [[.o 0 [],.o 2 [],.o 0 []],[]] [.cell 6 3 true,.t 7] 0 (ak R (aG false) cW s (upd (upd (fun _=>.dead) 3 z) 6 (.bx [.v (.bool false),.emp,.v (.int .i64 0)])))=some (Nq (n:Nat) up (kM up (q,more)) u,[]):=by
 have hi:=UT (q:=q) (by omega);obtain ⟨t1,t2⟩:=abi n (by omega);have hb:af (kM up (q,more))≤7001:=by
  unfold kM;split
  ·exact FK hq
  grind
 have hB:=zX (aO (kM up (q,more))) (Nat.le_trans (aS (k:=256) (by omega)) (by decide));rw [aK] at hB;have w1:IntKind.i64.wrap (((af (kM up (q,more)):Nat):Int)+u)=((af (kM up (q,more)):Nat):Int)+u:=i64_in _ ⟨by omega,by omega⟩;have w2:IntKind.i64.wrap (16384 - (n:Int))=16384 - (n:Int):=i64_in _ ⟨by omega,by omega⟩;have hm2:R F.dyadic_Make [B false,lm (ao (2 ^ n - 1)),I (16384 - (n:Int))] []=some (wm (2 ^ n - 1) (16384 - (n:Int)),[]):=Qt (Xf (by omega)) (by omega) (by omega);unfold Nq;by_cases ho:16384 < ((af (kM up (q,more)):Nat):Int)+u
 ·have e1:(16384 < ((af (kM up (q,more)):Nat):Int)+u)=True:=tt ho;rw [if_pos ho,Int.toNat_natCast];clear ho hb;cases up with
  | false =>
   simp only [kM,Bool.false_and,if_neg Bool.false_ne_true] at hB w1 e1 ⊢;unfold wm AT at hm2 ⊢;generalize bG false (2 ^ n - 1) (16384 - (n:Int))=dd at hm2 ⊢;simp only [ag,am] at hm2;cases hv:nQ (af (aa dd.m)) dd.e with
   | true =>
    rw [hv] at hm2;rw [if_pos rfl] at hm2 ⊢;simp only [cW,ag,am,go_sem,am4,am3,am5,am6,h1,h2,h6,h8,h9,h10,hB,w1,e1,w2,t1,t2,xI,hm2]
   | false =>
    rw [hv] at hm2;simp only [cW,ag,am,aP,go_sem,am4,am3,am5,am6,h1,h2,h6,h8,h9,h10,hB,w1,e1,w2,t1,t2,xI,hm2]
  | true =>
   cases more with
   | false =>
    simp only [kM,Bool.and_false,if_neg Bool.false_ne_true] at hB w1 e1 ⊢;simp only [cW,ag,am,aP,go_sem,am4,am3,am5,am6,h1,h2,h6,h8,h9,h10,hB,w1,e1]
   | true =>
    simp only [kM,Bool.and_true,if_true] at hB w1 e1 ⊢;simp only [cW,ag,am,aP,go_sem,am4,am3,am5,am6,h1,h2,h6,h8,h9,h10,hB,w1,e1,hi,xI]
 ·have e1:(16384 < ((af (kM up (q,more)):Nat):Int)+u)=False:=ff ho;rw [if_neg ho];have hm:=Qt (q:=kM up (q,more)) (u:=u) (by omega) (by omega) (by omega);clear ho hb;cases up with
  | false =>
   simp only [kM,Bool.false_and,if_neg Bool.false_ne_true] at hB w1 e1 hm ⊢;unfold wm AT at hm ⊢;generalize bG false q u=dd at hm ⊢;simp only [ag,am] at hm;cases hv:nQ (af (aa dd.m)) dd.e with
   | true =>
    rw [hv] at hm;rw [if_pos rfl] at hm ⊢;simp only [cW,ag,am,go_sem,am4,am3,am5,am6,h1,h2,h6,h8,h9,h10,hB,w1,e1,hm]
   | false =>
    rw [hv] at hm;simp only [cW,ag,am,aP,go_sem,am4,am3,am5,am6,h1,h2,h6,h8,h9,h10,hB,w1,e1,hm]
  | true =>
   cases more with
   | false =>
    simp only [kM,Bool.and_false,if_neg Bool.false_ne_true] at hB w1 e1 hm ⊢;unfold wm AT at hm ⊢;generalize bG false q u=dd at hm ⊢;simp only [ag,am] at hm;cases hv:nQ (af (aa dd.m)) dd.e with
    | true =>
     rw [hv] at hm;rw [if_pos rfl] at hm ⊢;simp only [cW,ag,am,go_sem,am4,am3,am5,am6,h1,h2,h6,h8,h9,h10,hB,w1,e1,hm]
    | false =>
     rw [hv] at hm;simp only [cW,ag,am,aP,go_sem,am4,am3,am5,am6,h1,h2,h6,h8,h9,h10,hB,w1,e1,hm]
   | true =>
    simp only [kM,Bool.and_true,if_true] at hB w1 e1 hm ⊢;unfold wm AT at hm ⊢;generalize bG false (q+1) u=dd at hm ⊢;simp only [ag,am] at hm;cases hv:nQ (af (aa dd.m)) dd.e with
    | true =>
     rw [hv] at hm;rw [if_pos rfl] at hm ⊢;simp only [cW,ag,am,go_sem,am4,am3,am5,am6,h1,h2,h6,h8,h9,h10,hB,w1,e1,hi,xI,hm]
    | false =>
     rw [hv] at hm;simp only [cW,ag,am,aP,go_sem,am4,am3,am5,am6,h1,h2,h6,h8,h9,h10,hB,w1,e1,hi,xI,hm]
theorem abj {M:List Nat} (hb:Lb M) (hl:M.length≤256) {e:Int} {n:Nat} {more up:Bool} (he:-40000≤e∧e≤40000) (hp:8≤n∧n≤512):R F.round_cut [qn M e more,I (n:Nat),B up] []=some (Nq (n:Nat) up (kM up (oN (aa M) e more (dT (aa M) e (n:Nat)))) (dT (aa M) e (n:Nat)),[]):=by
 refine aE PU rfl ?_;have hB:=zX hb (Nat.le_trans hl (by decide));have hlen:=AU hb;have w1:IntKind.i64.wrap (e+(af (aa M):Nat))=e+(af (aa M):Nat):=i64_in _ ⟨by omega,by omega⟩;have w2:IntKind.i64.wrap (e+(af (aa M):Nat) - (n:Nat))=e+(af (aa M):Nat) - (n:Nat):=i64_in _ ⟨by omega,by omega⟩;obtain ⟨u,hu⟩:∃ u,dT (aa M) e (n:Nat)=u:=⟨_,rfl⟩;rw [hu];unfold dT at hu;unfold oN;by_cases hc:u≤e
 ·have e1:(u≤e)=True:=tt hc;rw [if_pos hc];have w3:IntKind.i64.wrap (e - u)=(((e - u).toNat:Nat):Int):=wi (by omega) (by omega);have hq:af (aa M*2 ^ (e - u).toNat)≤7000:=by
   grind [dH]
  by_cases h64:(e - u).toNat≤65536
  ·have hs:=tJ hb (by omega) (k:=(e - u).toNat) h64 (aS (by omega));simp only [oI,qQ,qn,go_sem,am4,am3,am5,am6,am7,hB,w1,w2,hu,e1,w3,hs];exact FN hp hq (by omega) _ _ rfl rfl rfl rfl rfl rfl
  omega
 ·have e1:(u≤e)=False:=ff hc;rw [if_neg hc];have w3:IntKind.i64.wrap (u - e)=(((u - e).toNat:Nat):Int):=wi (by omega) (by omega);have hs:=IN hb (by omega) (n:=(u - e).toNat) (by omega);have hq:af (aa M / 2 ^ (u - e).toNat)≤7000:=by
   grind [iy]
  cases more with
  | false =>
   rw [Bool.false_or];simp only [oI,qQ,qn,go_sem,am4,am3,am5,am6,am7,hB,w1,w2,hu,e1,w3,hs];exact FN hp hq (by omega) _ _ rfl rfl rfl rfl rfl rfl
  | true =>
   rw [Bool.true_or];simp only [oI,qQ,qn,go_sem,am4,am3,am5,am6,am7,hB,w1,w2,hu,e1,w3,hs];exact FN hp hq (by omega) _ _ rfl rfl rfl rfl rfl rfl
def gz (d:Rd):Rd × Int:=if nQ (af (aa d.m)) d.e=true then (d,0) else (aP,9)
def sy (p:Int) (up:Bool) (q:Nat) (u:Int):Rd × Int:=if 16384 < (af q:Nat)+u then (if up=true then (aP,9) else gz (bG false (2 ^ p.toNat - 1) (16384 - p))) else gz (bG false q u)
def rV (r:Rd × Int):AV:=.tup [ag r.1,I r.2]
theorem IQ (d:Rd):AT d=rV (gz d):=by
 unfold AT gz;split <;> rfl
theorem Zo (p:Int) (up:Bool) (q:Nat) (u:Int):Nq p up q u=rV (sy p up q u):=by
 unfold Nq sy wm;split
 ·split
  ·rfl
  grind [IQ]
 grind [IQ]
theorem Xl (n:Nat):af (2 ^ n - 1)≤n:=by
 rw [bv];grind
theorem Zp (p:Int) (up:Bool) (q:Nat) (u:Int):Lb (sy p up q u).1.m:=by
 have h0:Lb aP.m:=fun x hx=>nomatch hx
 grind [Lb,gz,sy,ww]
theorem Xm (p:Int) (up:Bool) (q:Nat) (u:Int) (hp:p.toNat≤8000) (hq:af q≤8000):(sy p up q u).1.m.length≤256:=by
 have h0:aP.m.length≤256:=Nat.zero_le _;have hc:∀ d:Rd,d.m.length≤256→(gz d).1.m.length≤256:=fun d hd=>by
  grind [gz]
 grind [sy,FM,Nat.le_trans,Xl]
def dw (d:Rd):Rd:=if vd d=false∨d.m.length=0 then aP else ⟨!d.neg,d.m,d.e⟩
def dh (M:Nat) (e:Int) (more:Bool) (p:Int) (up:Bool):Rd × Int:=sy p up (kM up (oN M e more (dT M e p))) (dT M e p)
def iC (neg:Bool) (r:Rd × Int):Rd × Int:=if r.2=0∧neg=true then (dw r.1,r.2) else r
theorem UV {M:Nat} {e:Int} {more up:Bool} {n:Nat} (hM:af M≤8192) (hp:8≤n∧n≤512) (he:-40000≤e∧e≤40000):af (kM up (oN M e more (dT M e (n:Nat))))≤7001:=by
 have hq:af (oN M e more (dT M e (n:Nat))).1≤7000:=by
  obtain ⟨u,hu⟩:∃ u,dT M e (n:Nat)=u:=⟨_,rfl⟩;rw [hu];unfold dT at hu;unfold oN;split
  ·grind [dH]
  grind [iy]
 unfold kM;split
 ·exact FK hq
 omega
theorem yv {M:List Nat} (hb:Lb M) (hl:M.length≤256) {e:Int} {n:Nat} {more up neg:Bool} (he:-40000≤e∧e≤40000) (hp:8≤n∧n≤512):R F.round_signed [B neg,qn M e more,I (n:Nat),B up] []=some (rV (iC neg (dh (aa M) e more (n:Nat) (up != neg))),[]):=by
 refine aE IB rfl ?_;have hc:=abj (more:=more) (up:=up != neg) hb hl he hp;have hlen:=AU hb;have hB:=UV (M:=aa M) (e:=e) (more:=more) (up:=up != neg) (by omega) hp he;rw [Zo] at hc;have hL:=Zp (n:Nat) (up != neg) (kM (up != neg) (oN (aa M) e more (dT (aa M) e (n:Nat)))) (dT (aa M) e (n:Nat));have hN:=Xm (n:Nat) (up != neg) (kM (up != neg) (oN (aa M) e more (dT (aa M) e (n:Nat)))) (dT (aa M) e (n:Nat)) (by omega) (by omega);unfold dh;generalize sy (n:Nat) (up != neg) (kM (up != neg) (oN (aa M) e more (dT (aa M) e (n:Nat)))) (dT (aa M) e (n:Nat))=r at hc hL hN ⊢;obtain ⟨d,x⟩:=r;have hn:=CQ (d:=d) ⟨hL,Nat.lt_of_le_of_lt hN (by decide)⟩;simp only [rV,ag,am,qn] at hc hn;unfold iC dw;by_cases hx:x=0
 ·have e1:(x=0)=True:=tt hx;cases neg with
  | false =>
   simp only [ko,aeP,rV,ag,am,qn,go_sem,am4,am3,am5,sx,hc,e1]
  | true =>
   simp only [ko,aeP,rV,ag,am,qn,go_sem,am4,am3,am5,sx,hc,e1,hn]
 ·have e1:(x=0)=False:=ff hx;simp only [ko,aeP,rV,ag,am,qn,go_sem,am4,am3,am5,sx,hc,e1]
def mR (d:Rd) (p:Int) (up:Bool):Rd × Int:=if bp p [d]=0 then iC d.neg (dh (aa d.m) d.e false p (up != d.neg)) else (aP,bp p [d])
theorem oO {p:Int} {l:List Rd} (h:bp p l=0):l.all vd=true∧8≤p∧p≤512:=by
 unfold bp at h;split at h
 ·rename_i h1;split at h
  ·rename_i h2;exact ⟨h1,h2⟩
  ·exact nomatch h
 ·exact nomatch h
theorem Ac {d:Rd} (h:vd d=true) (hb:Lb d.m):d.m.length≤128:=by
 obtain ⟨h1,h2,h3,h4⟩:=ey h hb;by_cases h0:d.m.length=0
 ·omega
 obtain ⟨g1,g2,g3,g4⟩:=zY h h0;have h5:4294967296 ^ (d.m.length - 1)≤aa d.m:=by
  have h6:=BK (a:=d.m) (i:=d.m.length - 1) (by omega);rw [show d.m.length - 1+1=d.m.length by omega,List.take_length] at h6;rw [h6];exact Nat.le_trans (Nat.le_mul_of_pos_right _ (Nat.pos_of_ne_zero g3)) (Nat.le_add_left _ _)
 have h7:32*(d.m.length - 1) < af (aa d.m):=by
  rw [jU,Nat.pow_mul];exact h5
 omega
theorem AW {d:Rd} (ok:Ok0 d) {p:Int} {up:Bool}:R F.round_round [ag d,I p,B up] []=some (rV (mR d p up),[]):=by
 refine aE La rfl ?_;have hf:R F.round_fault [I p,.sl 3 [[B d.neg,lm d.m,I d.e]]] []=some (I (bp p [d]),[]):=xH (p:=p) (l:=[d]) (fun x hx=>by rw [List.mem_singleton.1 hx]; exact ok) (show 1≤100000 by decide);unfold mR;by_cases h0:bp p [d]=0
 ·obtain ⟨v1,v2,v3⟩:=oO h0;have v4:vd d=true:=by simpa using v1
  obtain ⟨h1,h2,h3,h4⟩:=ey v4 ok.lb;have h5:=Ac v4 ok.lb;rw [if_pos h0];rw [h0] at hf;obtain ⟨n,rfl⟩:=Int.eq_ofNat_of_zero_le (show 0≤p by omega);have hs:=yv (M:=d.m) (e:=d.e) (n:=n) (more:=false) (up:=up) (neg:=d.neg) ok.lb (by omega) ⟨by omega,by omega⟩ ⟨by omega,by omega⟩;have ho:=ad2 (d:=d);generalize iC d.neg (dh (aa d.m) d.e false (n:Nat) (up != d.neg))=r at hs ⊢;simp only [rV,ag,am,qn] at hs ho;simp only [po,u9,rV,ag,am,go_sem,am4,am3,am5,am6,am7,hf,hs,ho]
 ·have e1:(bp p [d]=0)=False:=ff h0;rw [if_neg h0];simp only [po,u9,rV,ag,am,aP,go_sem,am4,am3,am5,am6,hf,e1]
theorem abk {d:Rd} (ok:Ok0 d) {p:Int}:R F.round_Up [ag d,I p] []=some (rV (mR d p true),[]):=by
 refine aE SQ rfl ?_;have hr:=AW ok (p:=p) (up:=true);generalize mR d p true=r at hr ⊢;simp only [rV,ag,am] at hr;simp only [yQ,GG,rV,ag,am,go_sem,am4,am3,am5,hr]
theorem Xn {d:Rd} (ok:Ok0 d) {p:Int}:R F.round_Down [ag d,I p] []=some (rV (mR d p false),[]):=by
 refine aE M0 rfl ?_;have hr:=AW ok (p:=p) (up:=false);generalize mR d p false=r at hr ⊢;simp only [rV,ag,am] at hr;simp only [uZ,Cq,rV,ag,am,go_sem,am4,am3,am5,hr]
def CS (a b:Rd) (p:Int) (up:Bool):Rd × Int:=if bp p [a,b]=0 then (if a.m.length=0∨b.m.length=0 then (aP,0) else iC (a.neg != b.neg) (dh (aa a.m*aa b.m) (a.e+b.e) false p (up != (a.neg != b.neg)))) else (aP,bp p [a,b])
theorem Qu {a b:Rd} (oa:Ok0 a) (ob:Ok0 b) {p:Int} {up:Bool}:R F.round_mul [ag a,ag b,I p,B up] []=some (rV (CS a b p up),[]):=by
 refine aE PP rfl ?_;have hf:R F.round_fault [I p,.sl 3 [[B a.neg,lm a.m,I a.e],[B b.neg,lm b.m,I b.e]]] []=some (I (bp p [a,b]),[]):=xH (p:=p) (l:=[a,b]) (fun x hx=>by
  rcases List.mem_cons.1 hx with h | h
  ·rw [h]; exact oa
  ·rw [List.mem_singleton.1 h]; exact ob) (show 2≤100000 by decide)
 unfold CS;by_cases h0:bp p [a,b]=0
 ·obtain ⟨v1,v2,v3⟩:=oO h0;have v4:vd a=true∧vd b=true:=by simpa using v1
  obtain ⟨va,vb⟩:=v4;obtain ⟨a1,a2,a3,a4⟩:=ey va oa.lb;obtain ⟨b1,b2,b3,b4⟩:=ey vb ob.lb;rw [if_pos h0];rw [h0] at hf;by_cases a0:a.m.length=0
  ·have e1:((a.m.length:Int)=0)=True:=tt (by omega);rw [if_pos (Or.inl a0)];simp only [lC,qj,rV,ag,am,aP,go_sem,am4,am3,am5,am6,hf,e1]
  have e1:((a.m.length:Int)=0)=False:=ff (by omega);by_cases b0:b.m.length=0
  ·have e2:((b.m.length:Int)=0)=True:=tt (by omega);rw [if_pos (Or.inr b0)];simp only [lC,qj,rV,ag,am,aP,go_sem,am4,am3,am5,am6,hf,e1,e2]
  have e2:((b.m.length:Int)=0)=False:=ff (by omega);rw [if_neg (fun h=>h.elim a0 b0)];obtain ⟨n,rfl⟩:=Int.eq_ofNat_of_zero_le (show 0≤p by omega);have hp:=CR (aa a.m) (aa b.m);have hl:(ao (aa a.m*aa b.m)).length≤256:=aS (by omega);have hm:=UO oa.lb ob.lb a1 b1;rw [gX,if_neg (by omega)] at hm;have w3:IntKind.i64.wrap (a.e+b.e)=a.e+b.e:=i64_in _ ⟨by omega,by omega⟩;have hs:=yv (M:=ao (aa a.m*aa b.m)) (e:=a.e+b.e) (n:=n) (more:=false) (up:=up) (neg:=a.neg != b.neg) (aO _) hl ⟨by omega,by omega⟩ ⟨by omega,by omega⟩;rw [aK] at hs;generalize iC (a.neg != b.neg) (dh (aa a.m*aa b.m) (a.e+b.e) false (n:Nat) (up != (a.neg != b.neg)))=r at hs ⊢;simp only [rV,ag,am,qn] at hs;simp only [lC,qj,rV,ag,am,go_sem,am4,am3,am5,am6,hf,e1,e2,hm,w3,sx,hs]
 ·have e1:(bp p [a,b]=0)=False:=ff h0;rw [if_neg h0];simp only [lC,qj,rV,ag,am,aP,go_sem,am4,am3,am5,am6,hf,e1]
theorem Xo {a b:Rd} (oa:Ok0 a) (ob:Ok0 b) {p:Int}:R F.round_MulUp [ag a,ag b,I p] []=some (rV (CS a b p true),[]):=by
 refine aE mQ rfl ?_;have hr:=Qu oa ob (p:=p) (up:=true);generalize CS a b p true=r at hr ⊢;simp only [rV,ag,am] at hr;simp only [te,Bx,rV,ag,am,go_sem,am4,am3,am5,hr]
theorem S4 {a b:Rd} (oa:Ok0 a) (ob:Ok0 b) {p:Int}:R F.round_MulDown [ag a,ag b,I p] []=some (rV (CS a b p false),[]):=by
 refine aE kr rfl ?_;have hr:=Qu oa ob (p:=p) (up:=false);generalize CS a b p false=r at hr ⊢;simp only [rV,ag,am] at hr;simp only [qK,yf,rV,ag,am,go_sem,am4,am3,am5,hr]
theorem UW {n:Int} (hn:I64 n):R F.dyadic_Int [I n] []=some (ag (bG (decide (n < 0)) n.natAbs 0),[]):=by
 refine aE M2 rfl ?_;obtain ⟨h1,h2⟩:=hn;obtain ⟨x,hx⟩:∃ x:Nat,n.natAbs=x:=⟨_,rfl⟩;have hv:aa [x % 4294967296,x / 4294967296]=x:=by
  show x % 4294967296+4294967296*(x / 4294967296+4294967296*0)=x;omega
 have hL:Lb [x % 4294967296,x / 4294967296]:=fun y hy=>by
  rcases List.mem_cons.1 hy with h | h
  ·omega
  ·rw [List.mem_singleton.1 h];omega
 have hc:∀ neg,R F.dyadic_canonical [B neg,.sl 1 [[.v (.int .u32 ((x % 4294967296:Nat):Int))],[.v (.int .u32 ((x / 4294967296:Nat):Int))]],I 0] []=some (ag (bG neg x 0),[]):=fun neg=>by
  have:=xF (neg:=neg) (e:=0) hL (by show 2≤256; decide) ⟨by decide,by decide⟩;rw [hv] at this;exact this
 have w2:IntKind.u32.wrap (x:Int)=((x % 4294967296:Nat):Int):=AN rfl;have w3:IntKind.u32.wrap ((x / 4294967296:Nat):Int)=((x / 4294967296:Nat):Int):=vN rfl (by omega);have w4:cK .shr (.v (.int .u64 (x:Int))) (.v (.int .u64 32))=some (.v (.int .u64 ((x / 4294967296:Nat):Int))):=mr (k:=32) rfl rfl (by decide);rw [hx];by_cases h0:n < 0
 ·have e1:(n < 0)=True:=tt h0;have w5:IntKind.u64.wrap (0 - IntKind.u64.wrap n)=(x:Int):=by
   have q:∀ z:Int,IntKind.u64.wrap z=z % 18446744073709551616:=fun z=>rfl;rw [q,q];omega
  have hc':=hc (decide (n < 0));generalize bG (decide (n < 0)) x 0=d at hc' ⊢;rw [decide_eq_true h0] at hc';simp only [ag,am] at hc';simp only [qy,wW,ag,am,go_sem,am4,am3,am5,am6,e1,w2,w3,w4,w5,hc']
 ·have e1:(n < 0)=False:=ff h0;have w5:IntKind.u64.wrap n=(x:Int):=cI (by omega) (by omega);have hc':=hc (decide (n < 0));generalize bG (decide (n < 0)) x 0=d at hc' ⊢;rw [decide_eq_false h0] at hc';simp only [ag,am] at hc';simp only [qy,wW,ag,am,go_sem,am4,am3,am5,am6,e1,w2,w3,w4,w5,hc']
def pX (a b:Rd) (p:Int):Int :=
 if aQ a - aQ b≤2 then (if b.e < (if aQ a - p - 8 < a.e then aQ a - p - 8 else a.e) then b.e else (if aQ a - p - 8 < a.e then aQ a - p - 8 else a.e))
 else (if aQ a - p - 8 < a.e then aQ a - p - 8 else a.e)
def yZ (b:Rd) (l:Int):Nat × Bool:=if l≤b.e then (aa b.m*2 ^ (b.e - l).toNat,false) else (aa b.m / 2 ^ (l - b.e).toNat,decide (aa b.m % 2 ^ (l - b.e).toNat ≠ 0))
def nR (y:Nat × Bool):Nat:=if y.2=true then y.1+1 else y.1
def vB (a b:Rd) (p:Int):(Nat × Int × Bool) × Bool :=
 let l:=pX a b p
 let x:=aa a.m*2 ^ (a.e - l).toNat
 let y:=yZ b l
 if a.neg=b.neg then ((x+y.1,l,y.2),false)
 else if x < nR y then ((nR y - x,l,false),true)
 else ((x - nR y,l,y.2),false)
theorem IR {a b:Rd} {p:Int}:pX a b p≤a.e:=by
 unfold pX;have h:(if aQ a - p - 8 < a.e then aQ a - p - 8 else a.e)≤a.e:=by
  split <;> omega
 generalize (if aQ a - p - 8 < a.e then aQ a - p - 8 else a.e)=z at h ⊢;split
 ·split <;> omega
 ·exact h
theorem my {d:Rd} (h:vd d=true) (h0:d.m.length ≠ 0):aQ d=(af (aa d.m):Nat)+d.e:=by
 rw [aQ,if_neg (fun h'=>h'.elim (fun h''=>by rw [h] at h''; exact nomatch h'') h0)]
theorem FO {a b:Rd} {p:Int} (va:vd a=true) (vb:vd b=true) (la:Lb a.m) (lb:Lb b.m) (na:a.m.length ≠ 0) (nb:b.m.length ≠ 0) (hp:8≤p∧p≤512) (ht:aQ b≤aQ a) :
  aQ a - pX a b p≤4098:=by
 obtain ⟨a1,a2,a3,a4⟩:=ey va la;obtain ⟨b1,b2,b3,b4⟩:=ey vb lb;have e1:=my va na;have e2:=my vb nb;unfold pX;have h:aQ a - (if aQ a - p - 8 < a.e then aQ a - p - 8 else a.e)≤4098:=by
  split <;> omega
 generalize (if aQ a - p - 8 < a.e then aQ a - p - 8 else a.e)=z at h ⊢;split
 ·split <;> omega
 ·exact h
noncomputable def iD:Cmd:=.seq (.seq (.ops [6,8,9,10,11,68] [co 64 (.fadr 0 (.t 3)),⟨(some 65),none,.load 1 false (.t 64)⟩,co 66 (.fadr 0 (.t 4)),⟨(some 67),none,.load 1 false (.t 66)⟩,co 68 (.eqc false 0 (.t 65) (.t 67))]) (.cond (.t 68) (.seq (.ops [6,8,11,12] [cm 70 9,cm 71 10,⟨(some 72),none,.call (.c (.fn F.natural_Add [] [])) [(.t 70),(.t 71)]⟩,cm 69 72,co 73 (.ext 0 (.t 69)),co 74 (.ext 1 (.t 69)),cm 12 73,cm 13 74]) (.seq (.ops [6,7] [cm 75 12,cm 76 8,cm 77 11,co 78 (.build [.emp,(.v (.int .i64 0)),(.v (.bool false))] [(0,1,(.t 75)),(1,1,(.t 76)),(2,1,(.t 77))]),⟨none,none,.store 3 (.t 6) (.t 78)⟩,co 7 (.mv (.c (.v (.bool false))))]) (.ret))) (.skip))) (.seq (.seq (.ops [6,8,9,10,11,79] [cm 79 11]) (.cond (.t 79) (.ops [6,8,9,10,11] [cm 81 10,⟨(some 82),none,.buildSl 1 [(.v (.int .u32 0))] 1 [(0,(.c (.v (.int .u32 1))))]⟩,⟨(some 83),none,.call (.c (.fn F.natural_Add [] [])) [(.t 81),(.t 82)]⟩,cm 80 83,co 84 (.ext 0 (.t 80)),co 85 (.ext 1 (.t 80)),cm 10 84]) (.skip))) (.seq (.seq (.ops [6,8,9,10,11,89] [cm 86 9,cm 87 10,⟨(some 88),none,.call (.c (.fn F.natural_Cmp [] [])) [(.t 86),(.t 87)]⟩,co 89 (.bin .lss (.t 88) (.c (.v (.int .i64 0))))]) (.cond (.t 89) (.seq (.ops [6,8,14] [cm 91 10,cm 92 9,⟨(some 93),none,.call (.c (.fn F.natural_Sub [] [])) [(.t 91),(.t 92)]⟩,cm 90 93,co 94 (.ext 0 (.t 90)),co 95 (.ext 1 (.t 90)),cm 14 94,cm 15 95]) (.seq (.ops [6,7] [cm 96 14,cm 97 8,co 98 (.build [.emp,(.v (.int .i64 0)),(.v (.bool false))] [(0,1,(.t 96)),(1,1,(.t 97)),(2,1,(.c (.v (.bool false))))]),⟨none,none,.store 3 (.t 6) (.t 98)⟩,co 7 (.mv (.c (.v (.bool true))))]) (.ret))) (.skip))) (.seq (.ops [6,8,11,16] [cm 100 9,cm 101 10,⟨(some 102),none,.call (.c (.fn F.natural_Sub [] [])) [(.t 100),(.t 101)]⟩,cm 99 102,co 103 (.ext 0 (.t 99)),co 104 (.ext 1 (.t 99)),cm 16 103,cm 17 104]) (.seq (.ops [6,7] [cm 105 16,cm 106 8,cm 107 11,co 108 (.build [.emp,(.v (.int .i64 0)),(.v (.bool false))] [(0,1,(.t 105)),(1,1,(.t 106)),(2,1,(.t 107))]),⟨none,none,.store 3 (.t 6) (.t 108)⟩,co 7 (.mv (.c (.v (.bool false))))]) (.ret)))))
theorem kt:ET=.seq (.ops [2,3,4,6] [⟨(some 3),none,.box 3 (.t 0)⟩,⟨(some 4),none,.box 3 (.t 1)⟩,⟨(some 6),none,.alloc [.emp,(.v (.int .i64 0)),(.v (.bool false))]⟩,co 7 (.mv (.c (.v (.bool false))))]) (.seq (.dops [3,4,6,8] [co 18 (.fadr 2 (.t 3)),⟨(some 19),none,.load 1 false (.t 18)⟩,⟨(some 20),none,.load 3 true (.t 3)⟩,⟨(some 21),none,.call (.c (.fn F.dyadic_Top [] [])) [(.t 20)]⟩,cm 22 2,co 23 (.bin .sub (.t 21) (.t 22)),co 24 (.bin .sub (.t 23) (.c (.v (.int .i64 8)))),co 25 (.mnx true (.t 19) [(.t 24)]),cm 8 25] [(1,3)]) (.seq (.seq (.dops [3,4,6,8,31] [⟨(some 26),none,.load 3 true (.t 3)⟩,⟨(some 27),none,.call (.c (.fn F.dyadic_Top [] [])) [(.t 26)]⟩,⟨(some 28),none,.load 3 true (.t 4)⟩,⟨(some 29),none,.call (.c (.fn F.dyadic_Top [] [])) [(.t 28)]⟩,co 30 (.bin .sub (.t 27) (.t 29)),co 31 (.bin .leq (.t 30) (.c (.v (.int .i64 2))))] [(1,2)]) (.cond (.t 31) (.ops [3,4,6,8] [cm 32 8,co 33 (.fadr 2 (.t 4)),⟨(some 34),none,.load 1 false (.t 33)⟩,co 35 (.mnx true (.t 32) [(.t 34)]),cm 8 35]) (.skip))) (.seq (.ops [3,4,6,8,9] [co 36 (.fadr 1 (.t 3)),⟨(some 37),none,.load 1 false (.t 36)⟩,co 38 (.fadr 2 (.t 3)),⟨(some 39),none,.load 1 false (.t 38)⟩,cm 40 8,co 41 (.bin .sub (.t 39) (.t 40)),⟨(some 42),none,.call (.c (.fn F.round_shl [] [])) [(.t 37),(.t 41)]⟩,cm 9 42]) (.seq (.ops [3,4,6,8,9] [co 10 (.mv (.c .emp))]) (.seq (.ops [3,4,6,8,9,11] [co 11 (.mv (.c (.v (.bool false))))]) (.seq (.seq (.ops [3,4,6,8,9,11,46] [co 43 (.fadr 2 (.t 4)),⟨(some 44),none,.load 1 false (.t 43)⟩,cm 45 8,co 46 (.bin .geq (.t 44) (.t 45))]) (.cond (.t 46) (.ops [3,4,6,8,9,10,11] [co 47 (.fadr 1 (.t 4)),⟨(some 48),none,.load 1 false (.t 47)⟩,co 49 (.fadr 2 (.t 4)),⟨(some 50),none,.load 1 false (.t 49)⟩,cm 51 8,co 52 (.bin .sub (.t 50) (.t 51)),⟨(some 53),none,.call (.c (.fn F.round_shl [] [])) [(.t 48),(.t 52)]⟩,cm 10 53]) (.ops [3,4,6,8,9,10,11] [co 55 (.fadr 1 (.t 4)),⟨(some 56),none,.load 1 false (.t 55)⟩,cm 57 8,co 58 (.fadr 2 (.t 4)),⟨(some 59),none,.load 1 false (.t 58)⟩,co 60 (.bin .sub (.t 57) (.t 59)),⟨(some 61),none,.call (.c (.fn F.round_shr [] [])) [(.t 56),(.t 60)]⟩,cm 54 61,co 62 (.ext 0 (.t 54)),co 63 (.ext 1 (.t 54)),cm 10 62,cm 11 63]))) iD)))))):=rfl
def IS (an bn:Bool) (X Y:Nat) (l:Int) (lost:Bool):(Nat × Int × Bool) × Bool :=
 if an=bn then ((X+Y,l,lost),false) else if X < nR (Y,lost) then ((nR (Y,lost) - X,l,false),true) else ((X - nR (Y,lost),l,lost),false)
def sV (r:(Nat × Int × Bool) × Bool):AV:=.tup [qn (ao r.1.1) r.1.2.1 r.1.2.2,B r.2]
theorem AX {x y k:Nat} (hx:af x≤k) (hy:af y≤k):af (x+y)≤k+1:=by
 rw [bv] at hx hy ⊢;omega
theorem Zq {x y:Nat} (hx:af x≤5000) (hy:af y≤5000):R F.natural_Add [lm (ao x),lm (ao y)] []=some (.tup [lm (ao (x+y)),I 0],[]):=by
 have h1:(ao x).length≤200:=aS (by omega);have h2:(ao y).length≤200:=aS (by omega);have h3:=AX hx hy;have h4:(ao (x+y)).length≤200:=aS (by omega);rw [UG (aO x) (aO y) (by omega) (by omega),aK,aK,gX,if_neg (by omega)]
theorem Qv {x y:Nat} (hx:af x≤5000) (hy:af y≤5000) (h:y≤x):R F.natural_Sub [lm (ao x),lm (ao y)] []=some (.tup [lm (ao (x - y)),I 0],[]):=by
 have h1:(ao x).length≤200:=aS (by omega);have h2:(ao y).length≤200:=aS (by omega);have h3:af (x - y)≤5000:=by
  rw [bv] at hx ⊢;omega
 have h4:(ao (x - y)).length≤200:=aS (by omega);rw [UI (aO x) (aO y) (by omega) (by omega),aK,aK,if_neg (by omega),gX,if_neg (by omega)]
theorem AY {an bn:Bool} {ma mb:AV} {ea eb:AV} {X Y:Nat} {l:Int} {lost:Bool} (hX:af X≤4100) (hY:af Y≤4100) (s:ae)
  (h3:s 3=.ref 3 none 0 0 0) (h4:s 4=.ref 4 none 0 0 0) (h6:s 6=.ref 6 none 0 0 0) (h8:s 8=I l) (h9:s 9=lm (ao X)) (h10:s 10=lm (ao Y)) (h11:s 11=B lost) :
  gx false [[.o 2 [],.o 0 [],.o 0 []],[]] [.cell 6 3 true,.t 7] 0 (ak R (aG false) iD s (upd (upd (upd (fun _=>.dead) 3 (.bx [.v (.bool an),ma,ea])) 4 (.bx [.v (.bool bn),mb,eb])) 6 (.bx [.emp,.v (.int .i64 0),.v (.bool false)])))=some (sV (IS an bn X Y l lost),[]):=by
 unfold IS;by_cases hs:an=bn
 ·subst hs;have e1:(false != (an == an))=true:=by grind
  have ha:=Zq (x:=X) (y:=Y) (by omega) (by omega);simp only [iD,sV,qn,go_sem,am4,am3,am5,h3,h4,h6,h8,h9,h10,h11,e1,ha]
 ·rw [if_neg hs];have e1:(false != (an == bn))=false:=by grind
  have hU:af (nR (Y,lost))≤4101:=by
   unfold nR;split
   ·exact AX hY (Xg _)
   grind
  have hi:=UT (q:=Y) (by omega);have hc:=uH (aO X) (aO (nR (Y,lost))) (Nat.le_trans (aS (k:=200) (by omega)) (by decide)) (Nat.le_trans (aS (k:=200) (by omega)) (by decide));rw [aK,aK] at hc;by_cases hx:X < nR (Y,lost)
  ·have ha:=Qv (x:=nR (Y,lost)) (y:=X) (by omega) (by omega) (by omega);rw [if_pos hx];rw [bC,if_pos hx] at hc;cases lost with
   | false =>
    simp only [nR,if_neg Bool.false_ne_true] at hc ha ⊢;simp only [iD,sV,qn,go_sem,am4,am3,am5,am6,am8,h3,h4,h6,h8,h9,h10,h11,e1,hc,ha]
   | true =>
    simp only [nR,if_true] at hc ha ⊢;simp only [iD,sV,qn,go_sem,am4,am3,am5,am6,am8,h3,h4,h6,h8,h9,h10,h11,e1,xI,hi,hc,ha]
  ·have ha:=Qv (x:=X) (y:=nR (Y,lost)) (by omega) (by omega) (by omega);rw [if_neg hx];have hd:(bC X (nR (Y,lost)) < 0)=False:=ff (by
    unfold bC;omega)
   cases lost with
   | false =>
    simp only [nR,if_neg Bool.false_ne_true] at hc ha hd ⊢;simp only [iD,sV,qn,go_sem,am4,am3,am5,am6,h3,h4,h6,h8,h9,h10,h11,e1,hc,hd,ha]
   | true =>
    simp only [nR,if_true] at hc ha hd ⊢;simp only [iD,sV,qn,go_sem,am4,am3,am5,am6,h3,h4,h6,h8,h9,h10,h11,e1,xI,hi,hc,hd,ha]
theorem IT (a b:Rd) (p:Int):vB a b p=IS a.neg b.neg (aa a.m*2 ^ (a.e - pX a b p).toNat) (yZ b (pX a b p)).1 (pX a b p) (yZ b (pX a b p)).2:=rfl
theorem abl {a b:Rd} (oa:Ok0 a) (ob:Ok0 b) (va:vd a=true) (vb:vd b=true) (na:a.m.length ≠ 0) (nb:b.m.length ≠ 0) {p:Int} (hp:8≤p∧p≤512) (ht:aQ b≤aQ a) :
  R F.round_sum [ag a,ag b,I p] []=some (sV (vB a b p),[]):=by
 refine aE PT rfl ?_;have ta:=zZ oa;have tb:=zZ ob;simp only [ag,am] at ta tb;have e1:=my va na;have e2:=my vb nb;obtain ⟨a1,a2,a3,a4⟩:=ey va oa.lb;obtain ⟨b1,b2,b3,b4⟩:=ey vb ob.lb;have l1:=IR (a:=a) (b:=b) (p:=p);have l2:=FO va vb oa.lb ob.lb na nb hp ht;have w1:IntKind.i64.wrap (aQ a - p)=aQ a - p:=i64_in _ ⟨by omega,by omega⟩;have w2:IntKind.i64.wrap (aQ a - p - 8)=aQ a - p - 8:=i64_in _ ⟨by omega,by omega⟩;have w3:IntKind.i64.wrap (aQ a - aQ b)=aQ a - aQ b:=i64_in _ ⟨by omega,by omega⟩;rw [IT];obtain ⟨l,hl⟩:∃ l,pX a b p=l:=⟨_,rfl⟩;rw [hl] at l1 l2 ⊢;unfold pX at hl;obtain ⟨z,hz⟩:∃ z,(if aQ a - p - 8 < a.e then aQ a - p - 8 else a.e)=z:=⟨_,rfl⟩;rw [hz] at hl;have w4:IntKind.i64.wrap (a.e - l)=(((a.e - l).toNat:Nat):Int):=wi (by omega) (by omega);have hX:af (aa a.m*2 ^ (a.e - l).toNat)≤4100:=by
  grind [dH,cP]
 have sX:=tJ oa.lb a1 (k:=(a.e - l).toNat) (by omega) (aS (by omega));by_cases h2:aQ a - aQ b≤2
 ·have f1:(aQ a - aQ b≤2)=True:=tt h2;rw [if_pos h2] at hl;by_cases hb:l≤b.e
  ·have f2:(l≤b.e)=True:=tt hb;have w5:IntKind.i64.wrap (b.e - l)=(((b.e - l).toNat:Nat):Int):=wi (by omega) (by omega);have hY:af (aa b.m*2 ^ (b.e - l).toNat)≤4100:=by
    grind [dH,cP]
   have sY:=tJ ob.lb b1 (k:=(b.e - l).toNat) (by omega) (aS (by omega));rw [yZ,if_pos hb];simp only [lH,kt,ag,am,go_sem,am4,am3,am5,am6,am7,ta,tb,w1,w2,w3,w4,w5,hz,hl,f1,f2,sX,sY];exact AY hX hY _ rfl rfl rfl rfl rfl rfl rfl
  omega
 ·have f1:(aQ a - aQ b≤2)=False:=ff h2;rw [if_neg h2] at hl;by_cases hb:l≤b.e
  ·have f2:(l≤b.e)=True:=tt hb;have w5:IntKind.i64.wrap (b.e - l)=(((b.e - l).toNat:Nat):Int):=wi (by omega) (by omega);have hY:af (aa b.m*2 ^ (b.e - l).toNat)≤4100:=by
    grind [dH,cP]
   have sY:=tJ ob.lb b1 (k:=(b.e - l).toNat) (by omega) (aS (by omega));rw [yZ,if_pos hb];simp only [lH,kt,ag,am,go_sem,am4,am3,am5,am6,am7,ta,tb,w1,w2,w3,w4,w5,hz,hl,f1,f2,sX,sY];exact AY hX hY _ rfl rfl rfl rfl rfl rfl rfl
  ·have f2:(l≤b.e)=False:=ff hb;have w5:IntKind.i64.wrap (l - b.e)=(((l - b.e).toNat:Nat):Int):=wi (by omega) (by omega);have hY:af (aa b.m / 2 ^ (l - b.e).toNat)≤4100:=by
    grind [iy]
   have sY:=IN ob.lb b1 (n:=(l - b.e).toNat) (by omega);rw [yZ,if_neg hb];simp only [lH,kt,ag,am,go_sem,am4,am3,am5,am6,am7,ta,tb,w1,w2,w3,w4,w5,hz,hl,f1,f2,sX,sY];exact AY hX hY _ rfl rfl rfl rfl rfl rfl rfl
def Nr (a b:Rd) (p:Int) (up:Bool):Rd × Int :=
 let s:=vB a b p
 if s.1.1=0∧s.1.2.2=false then (aP,0) else iC (a.neg != s.2) (dh s.1.1 s.1.2.1 s.1.2.2 p (up != (a.neg != s.2)))
def IU (a b:Rd) (p:Int) (up:Bool):Rd × Int :=
 if bp p [a,b]=0 then (if a.m.length=0 then mR b p up else if b.m.length=0 then mR a p up else if aQ a < aQ b then Nr b a p up else Nr a b p up)
 else (aP,bp p [a,b])
theorem FP {a b:Rd} (oa:Ok0 a) (ob:Ok0 b) {p:Int} {up:Bool} (h:bp p [a,b] ≠ 0∨a.m.length=0∨b.m.length=0):R F.round_add [ag a,ag b,I p,B up] []=some (rV (IU a b p up),[]):=by
 refine aE EX rfl ?_;have hf:R F.round_fault [I p,.sl 3 [[B a.neg,lm a.m,I a.e],[B b.neg,lm b.m,I b.e]]] []=some (I (bp p [a,b]),[]):=xH (p:=p) (l:=[a,b]) (fun x hx=>by
  rcases List.mem_cons.1 hx with h | h
  ·rw [h]; exact oa
  ·rw [List.mem_singleton.1 h]; exact ob) (show 2≤100000 by decide)
 have ra:=AW oa (p:=p) (up:=up);have rb:=AW ob (p:=p) (up:=up);unfold IU;generalize mR a p up=qa at ra ⊢;generalize mR b p up=qb at rb ⊢;simp only [rV,ag,am] at ra rb;by_cases h0:bp p [a,b]=0
 ·rw [if_pos h0];rw [h0] at hf;by_cases a0:a.m.length=0
  ·have e1:((a.m.length:Int)=0)=True:=tt (by omega);rw [if_pos a0];simp only [jw,qi,rV,ag,am,go_sem,am4,am3,am5,am6,hf,e1,rb]
  have e1:((a.m.length:Int)=0)=False:=ff (by omega);have b0:b.m.length=0:=(h.resolve_left (fun h'=>h' h0)).resolve_left a0;have e2:((b.m.length:Int)=0)=True:=tt (by omega);rw [if_neg a0,if_pos b0];simp only [jw,qi,rV,ag,am,go_sem,am4,am3,am5,am6,hf,e1,e2,ra]
 ·have e1:(bp p [a,b]=0)=False:=ff h0;rw [if_neg h0];simp only [jw,qi,rV,ag,am,aP,go_sem,am4,am3,am5,am6,hf,e1]
theorem Xp {N k:Nat} {f u:Int} {more:Bool} (hm:more=decide (N % 2 ^ k ≠ 0)) (hu:more=true→f+k < u):oN (N / 2 ^ k) (f+k) more u=oN N f false u:=by
 unfold oN;by_cases h:u≤f+k
 ·rw [if_pos h];have hf:more=false:=by
   grind
  subst hf;have h0:N % 2 ^ k=0:=by
   grind
  obtain ⟨M,rfl⟩:=Nat.dvd_of_mod_eq_zero h0;rw [Nat.mul_div_cancel_left _ (Nat.two_pow_pos k)];by_cases h2:u≤f
  ·rw [if_pos h2,show (f+k - u).toNat=k+(f - u).toNat by omega,Nat.pow_add,Nat.mul_comm (2 ^ k) M,Nat.mul_assoc]
  ·obtain ⟨j,hj⟩:∃ j,(f+k - u).toNat=j:=⟨_,rfl⟩;obtain ⟨i,hi⟩:∃ i,(u - f).toNat=i:=⟨_,rfl⟩;have hk:k=i+j:=by omega
   grind [Nat.pow_add,Nat.mul_assoc,Nat.mul_div_cancel_left,Nat.two_pow_pos,Nat.mul_mod_right,Nat.mul_comm]
 ·rw [if_neg h,if_neg (by omega)];obtain ⟨j,hj⟩:∃ j,(u - (f+k)).toNat=j:=⟨_,rfl⟩;rw [show (u - f).toNat=k+j by omega,hj,Nat.pow_add,Nat.div_div_eq_div_mul,Nat.mod_mul,hm];refine Prod.ext rfl ?_;show (decide (N % 2 ^ k ≠ 0) || decide (N / 2 ^ k % 2 ^ j ≠ 0))=(false || decide (N % 2 ^ k+2 ^ k*(N / 2 ^ k % 2 ^ j) ≠ 0));rw [Bool.false_or,← Bool.decide_or];congr 1;refine propext ⟨fun h3 h4=>?_,fun h3=>?_⟩
  ·obtain ⟨h5,h6⟩:=Nat.add_eq_zero_iff.1 h4;rcases Nat.mul_eq_zero.1 h6 with h7 | h7
   all_goals omega
  grind
theorem UX {N k:Nat} {f p:Int} (hM:N / 2 ^ k ≠ 0):dT (N / 2 ^ k) (f+k) p=dT N f p:=by
 grind [dT,iy,af]
theorem Qw {N k:Nat} {f p:Int} {more up:Bool} (hM:N / 2 ^ k ≠ 0) (hm:more=decide (N % 2 ^ k ≠ 0)) (hp:more=true→p < (af (N / 2 ^ k):Nat)):dh (N / 2 ^ k) (f+k) more p up=dh N f false p up:=by
 unfold dh;have hu:more=true→f+k < dT (N / 2 ^ k) (f+k) p:=fun h=>by
  grind [dT]
 grind [Xp,UX]
theorem CT {M k:Nat} {f p:Int} {up:Bool} (hM:M ≠ 0):dh (M*2 ^ k) f false p up=dh M (f+k) false p up:=by
 have h1:M*2 ^ k / 2 ^ k=M:=Nat.mul_div_cancel _ (Nat.two_pow_pos k);have:=Qw (N:=M*2 ^ k) (k:=k) (f:=f) (p:=p) (more:=false) (up:=up) (by omega) (by simp_all) (fun h=>absurd h Bool.false_ne_true);grind
def kN (z f p:Int) (up:Bool):Rd × Int:=if z=0 then (aP,0) else iC (decide (z < 0)) (dh z.natAbs f false p (up != decide (z < 0)))
theorem IV {n:Nat} {f p:Int} {up neg:Bool} (h:n ≠ 0):kN (if neg=true then -(n:Int) else n) f p up=iC neg (dh n f false p (up != neg)):=by
 unfold kN;grind
theorem UY {z f p:Int} {k:Nat} {up:Bool}:kN (z*2 ^ k) f p up=kN z (f+k) p up:=by
 unfold kN;by_cases h:z=0
 ·rw [h,Int.zero_mul,if_pos rfl,if_pos rfl]
 ·have h2:(0:Int) < 2 ^ k:=Int.pow_pos (by decide);have h3:z*2 ^ k ≠ 0:=fun h3=>by
   rcases Int.mul_eq_zero.1 h3 with h4 | h4
   all_goals omega
  have h4:decide (z*2 ^ k < 0)=decide (z < 0):=by
   congr 1;refine propext ⟨fun h5=>?_,fun h5=>Int.mul_neg_of_neg_of_pos h5 h2⟩;refine Int.not_le.1 fun h6=>?_;have:=Int.mul_nonneg h6 (Int.le_of_lt h2);omega
  simp_all [if_neg,Int.natAbs_mul,Int.natAbs_pow,CT]
def bO (neg:Bool) (n:Nat):Int:=if neg=true then -(n:Int) else n
theorem gY (n:Nat):bO true n=-(n:Int):=rfl
theorem gZ (n:Nat):bO false n=(n:Int):=rfl
def Ns (an:Bool) (p:Int) (up:Bool) (s:(Nat × Int × Bool) × Bool):Rd × Int:=if s.1.1=0∧s.1.2.2=false then (aP,0) else iC (an != s.2) (dh s.1.1 s.1.2.1 s.1.2.2 p (up != (an != s.2)))
theorem AZ {an:Bool} {p:Int} {up:Bool} {N K:Nat} {f:Int} {more t:Bool} (hM:N / 2 ^ K ≠ 0) (hm:more=decide (N % 2 ^ K ≠ 0)) (hp:more=true→p < (af (N / 2 ^ K):Nat)) :
  Ns an p up ((N / 2 ^ K,f+K,more),t)=kN (bO (an != t) N) f p up:=by
 have h0:N ≠ 0:=fun h=>by
  simp_all
 unfold bO;rw [IV h0,Ns,if_neg (fun h=>hM h.1)];grind [Qw]
theorem Xq {x Y K:Nat} {f p:Int} {up an bn:Bool} (hx:x ≠ 0) (hlost:Y % 2 ^ K ≠ 0→p < (af (x - (Y / 2 ^ K+1)):Nat)∧p < (af (x+Y / 2 ^ K):Nat)∧Y / 2 ^ K+1 < x) :
  Ns an p up (IS an bn x (Y / 2 ^ K) (f+K) (decide (Y % 2 ^ K ≠ 0)))=kN (bO an (x*2 ^ K)+bO bn Y) f p up:=by
 have h2:=Nat.two_pow_pos K;have hd:=Nat.div_add_mod Y (2 ^ K);have hlt:=Nat.mod_lt Y h2;unfold IS;by_cases hs:an=bn
 ·subst hs;rw [if_pos rfl];have e1:x+Y / 2 ^ K=(x*2 ^ K+Y) / 2 ^ K:=by
   grind [Nat.mul_comm,Nat.mul_add_div]
  have e2:(x*2 ^ K+Y) % 2 ^ K=Y % 2 ^ K:=by
   simp_all
  have e3:bO an (x*2 ^ K)+bO an Y=bO (an != false) (x*2 ^ K+Y):=by
   grind [bO,gY]
  rw [e3,e1,AZ]
  all_goals grind
 ·have hbn:bn=!an:=by
   cases an <;> cases bn <;> first | rfl | exact absurd rfl hs
  subst hbn;rw [if_neg hs];by_cases hl:Y % 2 ^ K ≠ 0
  ·obtain ⟨g1,g2,g3⟩:=hlost hl;have e0:nR (Y / 2 ^ K,decide (Y % 2 ^ K ≠ 0))=Y / 2 ^ K+1:=by
    simp_all [nR,if_pos,decide_eq_true]
   rw [e0,if_neg (by omega)];obtain ⟨y,hy⟩:∃ y,Y / 2 ^ K=y:=⟨_,rfl⟩;rw [hy] at hd g1 g2 g3 ⊢;have e1:(x - (y+1))*2 ^ K+(2 ^ K - Y % 2 ^ K)=x*2 ^ K - Y:=by
    have e4:(x - (y+1))*2 ^ K=x*2 ^ K - (2 ^ K*y+2 ^ K):=by
     rw [Nat.sub_mul,Nat.add_mul,Nat.one_mul,Nat.mul_comm y]
    have e5:2 ^ K*y+2 ^ K≤x*2 ^ K:=by
     have:(y+1)*2 ^ K≤x*2 ^ K:=Nat.mul_le_mul_right _ (by omega);grind
    omega
   have e6:(x*2 ^ K - Y) / 2 ^ K=x - (y+1):=by
    rw [← e1,Nat.mul_comm (x - (y+1)),Nat.mul_add_div h2,Nat.div_eq_of_lt (by omega)];rfl
   have e7:(x*2 ^ K - Y) % 2 ^ K=2 ^ K - Y % 2 ^ K:=by
    rw [← e1,Nat.mul_comm (x - (y+1)),Nat.mul_add_mod,Nat.mod_eq_of_lt (by omega)]
   have e3:bO an (x*2 ^ K)+bO (!an) Y=bO (an != false) (x*2 ^ K - Y):=by
    grind [bO,gY,gZ]
   grind [AZ,decide_eq_true]
  ·have hl0:Y % 2 ^ K=0:=by omega
   have e0:nR (Y / 2 ^ K,decide (Y % 2 ^ K ≠ 0))=Y / 2 ^ K:=by
    simp_all [nR,if_neg,of_decide_eq_true]
   rw [e0,hl0,show decide ((0:Nat) ≠ 0)=false from rfl];rw [hl0,Nat.add_zero] at hd;obtain ⟨y,hy⟩:∃ y,Y / 2 ^ K=y:=⟨_,rfl⟩;rw [hy] at hd ⊢;subst hd;by_cases hxy:x < y
   ·rw [if_pos hxy];have e6:((y - x)*2 ^ K) / 2 ^ K=y - x:=Nat.mul_div_cancel _ h2;have e3:bO an (x*2 ^ K)+bO (!an) (2 ^ K*y)=bO (an != true) ((y - x)*2 ^ K):=by
     grind [bO,gY,gZ]
    rw [e3];have:=AZ (an:=an) (p:=p) (up:=up) (N:=(y - x)*2 ^ K) (K:=K) (f:=f) (more:=false) (t:=true) (by omega) (by simp_all) (fun h=>absurd h Bool.false_ne_true);grind
   ·rw [if_neg hxy];by_cases hE:x=y
    ·subst hE;have e3:bO an (x*2 ^ K)+bO (!an) (2 ^ K*x)=0:=by
      grind [bO,gY,gZ]
     simp_all [Ns,if_pos,Nat.sub_self,kN]
    ·have e6:((x - y)*2 ^ K) / 2 ^ K=x - y:=Nat.mul_div_cancel _ h2;have e3:bO an (x*2 ^ K)+bO (!an) (2 ^ K*y)=bO (an != false) ((x - y)*2 ^ K):=by
      grind [bO,gY,gZ]
     rw [e3];have:=AZ (an:=an) (p:=p) (up:=up) (N:=(x - y)*2 ^ K) (K:=K) (f:=f) (more:=false) (t:=false) (by omega) (by simp_all) (fun h=>absurd h Bool.false_ne_true);grind
theorem ad3 {b:Rd} {l:Int} (h1:-40000≤l) (h2:-40000≤b.e):yZ b l=(aa b.m*2 ^ (b.e+40000).toNat / 2 ^ (l+40000).toNat,decide (aa b.m*2 ^ (b.e+40000).toNat % 2 ^ (l+40000).toNat ≠ 0)):=by
 unfold yZ;by_cases h:l≤b.e
 ·rw [if_pos h,show (b.e+40000).toNat=(b.e - l).toNat+(l+40000).toNat by omega,Nat.pow_add,← Nat.mul_assoc,Nat.mul_div_cancel _ (Nat.two_pow_pos _),Nat.mul_mod_left];rfl
 ·have h3:=Nat.two_pow_pos (b.e+40000).toNat;rw [if_neg h,show (l+40000).toNat=(l - b.e).toNat+(b.e+40000).toNat by omega,Nat.pow_add,Nat.mul_div_mul_right _ _ h3,Nat.mul_mod_mul_right];refine Prod.ext rfl ?_;show decide _=decide _;congr 1;refine propext ⟨fun h4 h5=>?_,fun h4 h5=>h4 ?_⟩
  ·rcases Nat.mul_eq_zero.1 h5 with h6 | h6
   all_goals omega
  grind
theorem Nu {d:Rd} {k:Nat} (h:-16384≤d.e) (n:Nat) (hn:n=(d.e+16384).toNat+k):zI d*2 ^ k=bO d.neg (aa d.m*2 ^ n):=by
 have h1:(mg d:Int)*2 ^ k=((aa d.m*2 ^ ((d.e+16384).toNat+k):Nat):Int):=by
  unfold mg;grind
 unfold zI bO;grind
theorem UZ {a b:Rd} {p:Int} (h:b.e < pX a b p):2 < aQ a - aQ b∧pX a b p≤aQ a - p - 8:=by
 unfold pX at h ⊢;omega
theorem Qx {a b:Rd} (oa:Ok0 a) (ob:Ok0 b) (va:vd a=true) (vb:vd b=true) (na:a.m.length ≠ 0) (nb:b.m.length ≠ 0) {p:Int} {up:Bool} (hp:8≤p∧p≤512) (ht:aQ b≤aQ a) :
  Nr a b p up=kN (zI a+zI b) (-16384) p up:=by
 have e1:=my va na;have e2:=my vb nb;obtain ⟨a1,a2,a3,a4⟩:=ey va oa.lb;obtain ⟨b1,b2,b3,b4⟩:=ey vb ob.lb;have l1:=IR (a:=a) (b:=b) (p:=p);have l2:=FO va vb oa.lb ob.lb na nb hp ht;have l3:=UZ (a:=a) (b:=b) (p:=p);show Ns a.neg p up (vB a b p)=_;rw [IT];obtain ⟨l,hl⟩:∃ l,pX a b p=l:=⟨_,rfl⟩;rw [hl] at l1 l2 l3 ⊢;obtain ⟨K,hK⟩:∃ K,(l+40000).toNat=K:=⟨_,rfl⟩;obtain ⟨n1,hn1⟩:∃ n,(a.e - l).toNat=n:=⟨_,rfl⟩;obtain ⟨n2,hn2⟩:∃ n,(b.e+40000).toNat=n:=⟨_,rfl⟩;have hx:aa a.m*2 ^ n1 ≠ 0:=Nat.mul_ne_zero (cP va na) (Nat.pos_iff_ne_zero.1 (Nat.two_pow_pos _));rw [ad3 (by omega) (by omega),hK,hn1,hn2];have bx:af (aa a.m*2 ^ n1)=af (aa a.m)+n1:=dH _ (cP va na);have by':af (aa b.m*2 ^ n2 / 2 ^ K)=af (aa b.m)+n2 - K:=by grind [iy,dH,cP]
 have hlK:l=-40000+(K:Int):=by omega
 rw [hlK,Xq hx]
 ·obtain ⟨k,hk⟩:∃ k:Nat,k=23616:=⟨_,rfl⟩;rw [Nat.mul_assoc,← Nat.pow_add,← Nu (k:=k) a2 (n1+K) (by omega),← Nu (k:=k) b2 n2 (by omega),← Int.add_mul,UY,show (-40000:Int)+(k:Nat)=-16384 by omega]
 ·intro hne;have hb:b.e < l:=by
   refine Int.not_le.1 fun h=>hne ?_;rw [show n2=(b.e - l).toNat+K by omega,Nat.pow_add,← Nat.mul_assoc,Nat.mul_mod_left]
  obtain ⟨X,hX⟩:∃ X,aa a.m*2 ^ n1=X:=⟨_,rfl⟩;obtain ⟨Y,hY⟩:∃ Y,aa b.m*2 ^ n2 / 2 ^ K=Y:=⟨_,rfl⟩;rw [hX] at bx ⊢;rw [hY] at by' ⊢;obtain ⟨t,hT⟩:∃ t,af X=t+4:=⟨af X - 4,by omega⟩;have hX2:2 ^ (t+3)≤X:=jU.1 (by omega);have hY2:Y < 2 ^ (t+1):=bv.1 (by omega);have q1:2 ^ (t+3)=4*2 ^ (t+1):=by grind
  have q2:2 ^ (t+2)=2*2 ^ (t+1):=by grind
  have g3:t+2 < af (X - (Y+1)):=jU.2 (by omega);have g4:t+3 < af (X+Y):=jU.2 (by omega);omega
def eM (a b:Rd) (p:Int) (up:Bool):Rd × Int:=if bp p [a,b]=0 then kN (zI a+zI b) (-16384) p up else (aP,bp p [a,b])
def fl (a b:Rd) (p:Int) (up:Bool):Rd × Int:=if bp p [a,b]=0 then kN (zI a*zI b) (-32768) p up else (aP,bp p [a,b])
theorem ez {d:Rd} (h:d.m.length=0):zI d=0:=by
 grind [zI,Qs]
theorem Zr {p:Int} {up:Bool} (hp:8≤p∧p≤512):dh 0 0 false p up=(aP,0):=by
 have hu:-600≤dT 0 0 p∧dT 0 0 p≤0:=by
  grind [dT,oM]
 unfold dh;obtain ⟨u,he⟩:∃ u,dT 0 0 p=u:=⟨_,rfl⟩;rw [he] at hu ⊢;have hq:kM up (oN 0 0 false u)=0:=by
  simp_all [oN,kM,if_pos,Nat.zero_mul,Bool.and_false,if_neg,Bool.false_ne_true]
 unfold sy;rw [hq,oM,if_neg (by omega)];unfold bG gz;rw [if_pos rfl,if_pos (by decide)]
theorem yw {d:Rd} (ok:Ok0 d) {p:Int} {up:Bool}:mR d p up=if bp p [d]=0 then kN (zI d) (-16384) p up else (aP,bp p [d]):=by
 unfold mR;by_cases h0:bp p [d]=0
 ·obtain ⟨v1,v2,v3⟩:=oO h0;have v4:vd d=true:=by grind
  obtain ⟨h1,h2,h3,h4⟩:=ey v4 ok.lb;rw [if_pos h0,if_pos h0];by_cases hd:d.m.length=0
  ·have hz:=DL v4 hd;subst hz;rw [ez rfl,kN,if_pos rfl];show iC false (dh 0 0 false p (up != false))=_;rw [Zr ⟨v2,v3⟩];rfl
  ·have hm:=Aa v4 hd;unfold zI;rw [IV (by omega)];grind [mg,CT]
 grind
theorem Zs {a b:Rd} (oa:Ok0 a) (ob:Ok0 b) {p:Int} {up:Bool}:IU a b p up=eM a b p up:=by
 unfold IU eM;by_cases h0:bp p [a,b]=0
 ·obtain ⟨v1,hp⟩:=oO h0;have v4:vd a=true∧vd b=true:=by grind
  have f1:∀ d,vd d=true→bp p [d]=0:=fun d hd=>by
   simp_all [bp,if_pos]
  by_cases a0:a.m.length=0
  ·rw [if_pos a0,yw ob,if_pos (f1 b v4.2),ez a0,Int.zero_add]
  rw [if_neg a0];by_cases b0:b.m.length=0
  ·rw [if_pos b0,yw oa,if_pos (f1 a v4.1),ez b0,Int.add_zero]
  rw [if_neg b0];by_cases ht:aQ a < aQ b
  ·rw [if_pos ht,Qx ob oa v4.2 v4.1 b0 a0 hp (by omega),Int.add_comm]
  simp_all [if_neg,Qx]
 grind
theorem Qy {a b:Rd} (oa:Ok0 a) (ob:Ok0 b) {p:Int} {up:Bool}:CS a b p up=fl a b p up:=by
 unfold CS fl;by_cases h0:bp p [a,b]=0
 ·obtain ⟨v1,hp⟩:=oO h0;have v4:vd a=true∧vd b=true:=by grind
  obtain ⟨va,vb⟩:=v4;obtain ⟨a1,a2,a3,a4⟩:=ey va oa.lb;obtain ⟨b1,b2,b3,b4⟩:=ey vb ob.lb;by_cases a0:a.m.length=0
  ·rw [if_pos (Or.inl a0),ez a0,Int.zero_mul,kN,if_pos rfl]
  by_cases b0:b.m.length=0
  ·rw [if_pos (Or.inr b0),ez b0,Int.mul_zero,kN,if_pos rfl]
  have hz:zI a*zI b=bO (a.neg != b.neg) (mg a*mg b):=by
   unfold zI bO;cases a.neg <;> cases b.neg <;> simp [Int.mul_neg,Int.neg_mul]
  have hm:mg a*mg b=aa a.m*aa b.m*2 ^ ((a.e+16384).toNat+(b.e+16384).toNat):=by
   grind [mg,Nat.pow_add]
  have hv:aa a.m*aa b.m ≠ 0:=Nat.mul_ne_zero (cP va a0) (cP vb b0);rw [hz];unfold bO;rw [IV (Nat.mul_ne_zero (Nat.pos_iff_ne_zero.1 (Aa va a0)) (Nat.pos_iff_ne_zero.1 (Aa vb b0))),hm,CT hv];grind
 grind
theorem kG {neg:Bool} {M:Nat} {e:Int} (h:M ≠ 0):bG neg M e=⟨neg,ao (M / 2 ^ tz M),e+tz M⟩:=by
 simp_all [bG,if_neg]
theorem ig {neg:Bool} {e:Int}:bG neg 0 e=aP:=by
 simp_all [bG,if_pos]
theorem wn {neg:Bool} {M k:Nat} {e:Int}:bG neg (M*2 ^ k) e=bG neg M (e+k):=by
 by_cases h:M=0
 ·rw [h,Nat.zero_mul,ig,ig]
 ·have h2:M*2 ^ k ≠ 0:=Nat.mul_ne_zero h (Nat.pos_iff_ne_zero.1 (Nat.two_pow_pos k));rw [kG h,kG h2,Nat.mul_comm M,GT k h,Nat.pow_add,Nat.mul_div_mul_left _ _ (Nat.two_pow_pos k)];grind
theorem A3 {neg:Bool} {M:Nat} {e:Int} (h:M ≠ 0):aa (bG neg M e).m=M / 2 ^ tz M∧(bG neg M e).e=e+tz M∧M / 2 ^ tz M % 2=1∧af (M / 2 ^ tz M)+tz M=af M:=by
 grind [tG,kG,aK,dH,tz,Nat.mul_comm]
theorem IW {neg:Bool} {M:Nat} {e:Int} (h:nQ (af (aa (bG neg M e).m)) (bG neg M e).e=true):vd (bG neg M e)=true:=by
 by_cases h0:M=0
 ·subst h0;rfl
 ·obtain ⟨g1,g2,g3,g4⟩:=A3 (neg:=neg) (e:=e) h0;have hn:M / 2 ^ tz M ≠ 0:=by omega
  rw [g1] at h;have hb:=(DM h (Nat.pos_iff_ne_zero.1 (abD hn))).1;rw [kG h0] at h ⊢;unfold vd;have hl:(ao (M / 2 ^ tz M)).length≤128:=aS (by omega);have hl0:(ao (M / 2 ^ tz M)).length ≠ 0:=fun h5=>hn (gR.1 (List.length_eq_zero_iff.1 h5));have ht:(ao (M / 2 ^ tz M)).getD ((ao (M / 2 ^ tz M)).length - 1) 0 ≠ 0:=(CF _).resolve_left (fun h5=>hn (gR.1 h5));have ho:(ao (M / 2 ^ tz M)).getD 0 0 % 2=1:=by
   grind [mZ,tz]
  rw [aK,if_neg hl0,decide_eq_true (p:=(ao (M / 2 ^ tz M)).length≤256) (by omega),decide_eq_true ho,decide_eq_true ht];grind
theorem U0 (q:Nat):af (q+1)≤af q+1:=by
 rw [bv,Nat.pow_succ];have:=bv.1 (Nat.le_refl (af q));omega
theorem U1 {M:Nat} {f p:Int} {more w neg:Bool}:vd (iC neg (dh M f more p w)).1=true∧Ok0 (iC neg (dh M f more p w)).1:=by
 have h0:vd aP=true∧Ok0 aP:=⟨rfl,⟨fun x hx=>(nomatch hx),by decide⟩⟩;have hc:∀ (q:Nat) (u:Int),vd (gz (bG false q u)).1=true∧Ok0 (gz (bG false q u)).1:=fun q u=>by
  unfold gz;by_cases h:nQ (af (aa (bG false q u).m)) (bG false q u).e=true
  ·rw [if_pos h];have hv:=IW h;have hb:=ww false q u;exact ⟨hv,hb,Nat.lt_of_le_of_lt (Ac hv hb) (by decide)⟩
  grind
 have he:∀ (up:Bool) (q:Nat) (u:Int),vd (sy p up q u).1=true∧Ok0 (sy p up q u).1:=fun up q u=>by
  grind [sy]
 have hs:∀ (neg:Bool) (r:Rd × Int),(vd r.1=true∧Ok0 r.1)→vd (iC neg r).1=true∧Ok0 (iC neg r).1:=fun neg r hr=>by
  unfold iC dw;split
  ·split
   ·omega
   ·refine ⟨?_,hr.2.1,hr.2.2⟩
    simp_all [vd,if_neg]
  omega
 exact hs _ _ (he _ _ _)
theorem sz {z f p:Int} {up:Bool}:vd (kN z f p up).1=true∧Ok0 (kN z f p up).1:=by
 unfold kN;split
 ·exact ⟨rfl,⟨fun x hx=>(nomatch hx),by decide⟩⟩
 ·exact U1
noncomputable def mS:Cmd:=.seq (.ops [2,3,4,8,11,12] [⟨(some 52),none,.load 3 true (.t 4)⟩,⟨(some 53),none,.load 3 true (.t 5)⟩,cm 54 2,⟨(some 55),none,.call (.c (.fn F.round_sum [] [])) [(.t 52),(.t 53),(.t 54)]⟩,cm 51 55,co 56 (.ext 0 (.t 51)),co 57 (.ext 1 (.t 51)),⟨(some 11),none,.alloc [.emp,(.v (.int .i64 0)),(.v (.bool false))]⟩,⟨none,none,.store 3 (.t 11) (.t 56)⟩,cm 12 57]) (.seq (.seq (.ops [2,3,4,8,11,12,66] [co 58 (.fadr 0 (.t 11)),⟨(some 59),none,.load 1 false (.t 58)⟩,co 60 (.len false (.t 59)),co 61 (.bin .eql (.t 60) (.c (.v (.int .i64 0)))),cm 62 61,cg 63 62 true (.fadr 2 (.t 11)),⟨(some 64),(some (62,true)),.load 1 false (.t 63)⟩,cg 65 62 true (.un .not (.t 64)),co 66 (.pick (.t 62) (.t 65) (.c (.v (.bool false))))]) (.cond (.t 66) (.seq (.ops [8,9] [co 67 (.build [(.v (.bool false)),.emp,(.v (.int .i64 0))] []),⟨none,none,.store 3 (.t 8) (.t 67)⟩,co 9 (.mv (.c (.v (.int .i64 0))))]) (.ret)) (.skip))) (.seq (.ops [8,9] [co 68 (.fadr 0 (.t 4)),⟨(some 69),none,.load 1 false (.t 68)⟩,cm 70 12,co 71 (.eqc true 0 (.t 69) (.t 70)),⟨(some 72),none,.load 3 true (.t 11)⟩,cm 73 2,cm 74 3,⟨(some 75),none,.call (.c (.fn F.round_signed [] [])) [(.t 71),(.t 72),(.t 73),(.t 74)]⟩,co 76 (.ext 0 (.t 75)),co 77 (.ext 1 (.t 75)),⟨none,none,.store 3 (.t 8) (.t 76)⟩,cm 9 77]) (.ret)))
theorem uI:qi=.seq (.ops [2,3,4,5,8] [⟨(some 4),none,.box 3 (.t 0)⟩,⟨(some 5),none,.box 3 (.t 1)⟩,⟨(some 8),none,.alloc [(.v (.bool false)),.emp,(.v (.int .i64 0))]⟩,co 9 (.mv (.c (.v (.int .i64 0))))]) (.seq (.seq (.ops [2,3,4,5,8,10] [cm 13 2,⟨(some 14),none,.load 3 true (.t 4)⟩,⟨(some 15),none,.load 3 true (.t 5)⟩,⟨(some 16),none,.buildSl 3 [(.v (.bool false)),.emp,(.v (.int .i64 0))] 2 [(0,(.t 14)),(1,(.t 15))]⟩,⟨(some 17),none,.call (.c (.fn F.round_fault [] [])) [(.t 13),(.t 16)]⟩,cm 10 17]) (.seq (.ops [2,3,4,5,8,10,19] [cm 18 10,co 19 (.bin .neq (.t 18) (.c (.v (.int .i64 0))))]) (.cond (.t 19) (.seq (.ops [8,9] [co 20 (.build [(.v (.bool false)),.emp,(.v (.int .i64 0))] []),cm 21 10,⟨none,none,.store 3 (.t 8) (.t 20)⟩,cm 9 21]) (.ret)) (.skip)))) (.seq (.block 0 [2,3,4,5,8] (.seq (.ops [2,3,4,5,8,22] [co 23 (.fadr 1 (.t 4)),⟨(some 24),none,.load 1 false (.t 23)⟩,co 25 (.len false (.t 24)),co 26 (.bin .eql (.t 25) (.c (.v (.int .i64 0)))),cm 22 26]) (.cond (.t 22) (.seq (.ops [8,9] [⟨(some 27),none,.load 3 true (.t 5)⟩,cm 28 2,cm 29 3,⟨(some 30),none,.call (.c (.fn F.round_round [] [])) [(.t 27),(.t 28),(.t 29)]⟩,co 31 (.ext 0 (.t 30)),co 32 (.ext 1 (.t 30)),⟨none,none,.store 3 (.t 8) (.t 31)⟩,cm 9 32]) (.ret)) (.seq (.ops [2,3,4,5,8,33] [co 34 (.fadr 1 (.t 5)),⟨(some 35),none,.load 1 false (.t 34)⟩,co 36 (.len false (.t 35)),co 37 (.bin .eql (.t 36) (.c (.v (.int .i64 0)))),cm 33 37]) (.cond (.t 33) (.seq (.ops [8,9] [⟨(some 38),none,.load 3 true (.t 4)⟩,cm 39 2,cm 40 3,⟨(some 41),none,.call (.c (.fn F.round_round [] [])) [(.t 38),(.t 39),(.t 40)]⟩,co 42 (.ext 0 (.t 41)),co 43 (.ext 1 (.t 41)),⟨none,none,.store 3 (.t 8) (.t 42)⟩,cm 9 43]) (.ret)) (.skip)))))) (.seq (.seq (.dops [2,3,4,5,8,48] [⟨(some 44),none,.load 3 true (.t 4)⟩,⟨(some 45),none,.call (.c (.fn F.dyadic_Top [] [])) [(.t 44)]⟩,⟨(some 46),none,.load 3 true (.t 5)⟩,⟨(some 47),none,.call (.c (.fn F.dyadic_Top [] [])) [(.t 46)]⟩,co 48 (.bin .lss (.t 45) (.t 47))] [(1,2)]) (.cond (.t 48) (.ops [2,3,4,5,8] [⟨(some 49),none,.load 3 true (.t 5)⟩,⟨(some 50),none,.load 3 true (.t 4)⟩,⟨none,none,.store 3 (.t 4) (.t 49)⟩,⟨none,none,.store 3 (.t 5) (.t 50)⟩]) (.skip))) mS))):=rfl
theorem Zt {a b:Rd} (oa:Ok0 a) (ob:Ok0 b) (va:vd a=true) (vb:vd b=true) (na:a.m.length ≠ 0) (nb:b.m.length ≠ 0) {p:Int} (hp:8≤p∧p≤512) (ht:aQ b≤aQ a) :
  af (vB a b p).1.1≤4120∧-40000≤(vB a b p).1.2.1∧(vB a b p).1.2.1≤40000:=by
 have e1:=my va na;have e2:=my vb nb;obtain ⟨a1,a2,a3,a4⟩:=ey va oa.lb;obtain ⟨b1,b2,b3,b4⟩:=ey vb ob.lb;have l1:=IR (a:=a) (b:=b) (p:=p);have l2:=FO va vb oa.lb ob.lb na nb hp ht;have ba:=abD (cP va na);have bb:=abD (cP vb nb);rw [IT];obtain ⟨l,hl⟩:∃ l,pX a b p=l:=⟨_,rfl⟩;rw [hl] at l1 l2 ⊢;have hX:af (aa a.m*2 ^ (a.e - l).toNat)≤4100:=by
  rw [dH _ (cP va na)];omega
 have hY:af (yZ b l).1≤4100:=by
  unfold yZ;split
  ·rw [dH _ (cP vb nb)];omega
  ·show af (_ / _)≤_;rw [iy];omega
 generalize (yZ b l).1=Y at hY ⊢;generalize (yZ b l).2=lost;generalize aa a.m*2 ^ (a.e - l).toNat=X at hX ⊢;have hU:af (nR (Y,lost))≤4101:=by
  unfold nR;split
  ·have:=U0 Y;show af (Y+1)≤4101;omega
  ·show af Y≤4101;omega
 have hm:∀ x y:Nat,x≤y→af y≤4101→af x≤4101:=fun x y h1 h2=>yr h1 h2;generalize hYU:nR (Y,lost)=YU at hU;unfold IS;rw [hYU];split
 ·have:=AX hX hY;exact ⟨Nat.le_trans this (by decide),by show -40000≤l; omega,by show l≤40000; omega⟩
 ·split
  ·exact ⟨Nat.le_trans (hm _ _ (Nat.sub_le _ _) hU) (by decide),by show -40000≤l; omega,by show l≤40000; omega⟩
  ·exact ⟨Nat.le_trans (hm _ _ (Nat.sub_le _ _) (Nat.le_trans hX (by decide))) (by decide),by show -40000≤l; omega,by show l≤40000; omega⟩
theorem Ko {a b:Rd} (oa:Ok0 a) (ob:Ok0 b) (va:vd a=true) (vb:vd b=true) (na:a.m.length ≠ 0) (nb:b.m.length ≠ 0) {n:Nat} {up:Bool} (hp:8≤n∧n≤512) (ht:aQ b≤aQ a) (s:ae) (h:ac)
  (h2:s 2=I (n:Nat)) (h3:s 3=B up) (h4:s 4=.ref 4 none 0 0 0) (h5:s 5=.ref 5 none 0 0 0) (h8:s 8=.ref 8 none 0 0 0)
  (k4:h 4=.bx (am a)) (k5:h 5=.bx (am b)) (k8:h 8=.bx [.v (.bool false),.emp,.v (.int .i64 0)]) (kd:∀ i,i ≠ 4→i ≠ 5→i ≠ 8→i ≠ 16→h i=.dead) :
  gx false [[.o 0 [],.o 2 [],.o 0 []],[]] [.cell 8 3 true,.t 9] 0 (ak R (aG false) mS s h)=some (rV (Nr a b (n:Nat) up),[]):=by
 have hs:=abl oa ob va vb na nb (p:=(n:Nat)) ⟨by omega,by omega⟩ ht;obtain ⟨g1,g2,g3⟩:=Zt oa ob va vb na nb (p:=(n:Nat)) ⟨by omega,by omega⟩ ht;have hl:(ao (vB a b (n:Nat)).1.1).length≤256:=aS (by omega);have hg:=fun neg up=>yv (M:=ao (vB a b (n:Nat)).1.1) (e:=(vB a b (n:Nat)).1.2.1) (n:=n) (more:=(vB a b (n:Nat)).1.2.2) (up:=up) (neg:=neg) (aO _) hl ⟨g2,g3⟩ hp;unfold Nr;generalize vB a b (n:Nat)=z at hs g1 g2 g3 hl hg ⊢;obtain ⟨⟨M,l,more⟩,t⟩:=z;simp only [sV,ag,am,qn] at hs hg k4 k5;simp only [aK] at hg;have hw:=hg (a.neg != t) up;generalize hr:iC (a.neg != t) (dh M l more (n:Nat) (up != (a.neg != t)))=r at hw;simp only [rV,ag,am] at hw;by_cases hM:M=0
 ·have e1:(((ao M).length:Int)=0)=True:=tt (by rw [hM,ef]; rfl);cases more with
  | false =>
   rw [if_pos ⟨hM,rfl⟩];clear hr;simp only [mS,rV,ag,am,aP,go_sem,am4,am3,am5,ne_eq,not_false_eq_true,h2,h3,h4,h5,h8,k4,k5,k8,kd,hs,e1]
  | true =>
   rw [if_neg (fun h=>Bool.false_ne_true h.2.symm)];rw [show iC (a.neg != t) (dh M l true (n:Nat) (up != (a.neg != t)))=r from hr];clear hr;simp only [mS,rV,ag,am,go_sem,am4,am3,am5,ne_eq,not_false_eq_true,h2,h3,h4,h5,h8,k4,k5,k8,kd,hs,e1,sx,hw]
 ·have e1:(((ao M).length:Int)=0)=False:=ff (fun h=>hM (gR.1 (List.length_eq_zero_iff.1 (by omega))));rw [if_neg (fun h=>hM h.1)];rw [show iC (a.neg != t) (dh M l more (n:Nat) (up != (a.neg != t)))=r from hr];clear hr;simp only [mS,rV,ag,am,go_sem,am4,am3,am5,ne_eq,not_false_eq_true,h2,h3,h4,h5,h8,k4,k5,k8,kd,hs,e1,sx,hw]
theorem Xr {a b:Rd} (oa:Ok0 a) (ob:Ok0 b) {p:Int} {up:Bool} (h0:bp p [a,b]=0) (a0:a.m.length ≠ 0) (b0:b.m.length ≠ 0):R F.round_add [ag a,ag b,I p,B up] []=some (rV (IU a b p up),[]):=by
 refine aE EX rfl ?_;have hf:R F.round_fault [I p,.sl 3 [[B a.neg,lm a.m,I a.e],[B b.neg,lm b.m,I b.e]]] []=some (I (bp p [a,b]),[]):=xH (p:=p) (l:=[a,b]) (fun x hx=>by
  rcases List.mem_cons.1 hx with h | h
  ·rw [h]; exact oa
  ·rw [List.mem_singleton.1 h]; exact ob) (show 2≤100000 by decide)
 rw [h0] at hf;obtain ⟨v1,hp⟩:=oO h0;have v4:vd a=true∧vd b=true:=by simpa using v1
 obtain ⟨va,vb⟩:=v4;have ta:=zZ oa;have tb:=zZ ob;simp only [ag,am] at ta tb;obtain ⟨n,rfl⟩:=Int.eq_ofNat_of_zero_le (show 0≤p by omega);have e1:((a.m.length:Int)=0)=False:=ff (by omega);have e2:((b.m.length:Int)=0)=False:=ff (by omega);unfold IU;rw [if_pos h0,if_neg a0,if_neg b0];by_cases ht:aQ a < aQ b
 ·have e3:(aQ a < aQ b)=True:=tt ht;rw [if_pos ht];simp only [jw,uI,ag,am,go_sem,am4,am3,am5,am6,am7,hf,e1,e2,ta,tb,e3];refine Ko ob oa vb va b0 a0 (by omega) (by omega) _ _ rfl rfl rfl rfl rfl rfl rfl rfl fun i h4 h5 h8 h16=>?_;simp only [acj,h4,h5,h8,h16,if_false]
 ·have e3:(aQ a < aQ b)=False:=ff ht;rw [if_neg ht];simp only [jw,uI,ag,am,go_sem,am4,am3,am5,am6,am7,hf,e1,e2,ta,tb,e3];refine Ko oa ob va vb a0 b0 (by omega) (by omega) _ _ rfl rfl rfl rfl rfl rfl rfl rfl fun i h4 h5 h8 h16=>?_;simp only [acj,h4,h5,h8,h16,if_false]
theorem Qz {a b:Rd} (oa:Ok0 a) (ob:Ok0 b) {p:Int} {up:Bool}:R F.round_add [ag a,ag b,I p,B up] []=some (rV (eM a b p up),[]):=by
 rw [← Zs oa ob];by_cases h0:bp p [a,b]=0
 ·by_cases a0:a.m.length=0
  ·exact FP oa ob (Or.inr (Or.inl a0))
  ·by_cases b0:b.m.length=0
   ·exact FP oa ob (Or.inr (Or.inr b0))
   ·exact Xr oa ob h0 a0 b0
 ·exact FP oa ob (Or.inl h0)
theorem Nv {a b:Rd} (oa:Ok0 a) (ob:Ok0 b) {p:Int}:R F.round_AddUp [ag a,ag b,I p] []=some (rV (eM a b p true),[]):=by
 refine aE K5 rfl ?_;have hr:=Qz oa ob (p:=p) (up:=true);generalize eM a b p true=r at hr ⊢;simp only [rV,ag,am] at hr;simp only [s9,Bw,rV,ag,am,go_sem,am4,am3,am5,hr]
theorem Ha {a b:Rd} (oa:Ok0 a) (ob:Ok0 b) {p:Int}:R F.round_AddDown [ag a,ag b,I p] []=some (rV (eM a b p false),[]):=by
 refine aE G0 rfl ?_;have hr:=Qz oa ob (p:=p) (up:=false);generalize eM a b p false=r at hr ⊢;simp only [rV,ag,am] at hr;simp only [qI,yc,rV,ag,am,go_sem,am4,am3,am5,hr]
theorem Kp {a b:Rd} (oa:Ok0 a) (ob:Ok0 b) {p:Int}:R F.round_MulUp [ag a,ag b,I p] []=some (rV (fl a b p true),[]):=by
 rw [← Qy oa ob];exact Xo oa ob
theorem EY {a b:Rd} (oa:Ok0 a) (ob:Ok0 b) {p:Int}:R F.round_MulDown [ag a,ag b,I p] []=some (rV (fl a b p false),[]):=by
 rw [← Qy oa ob];exact S4 oa ob
def iY (d:Rd) (p:Int) (up:Bool):Rd × Int:=if bp p [d]=0 then kN (zI d) (-16384) p up else (aP,bp p [d])
theorem Zu {d:Rd} (ok:Ok0 d) {p:Int}:R F.round_Up [ag d,I p] []=some (rV (iY d p true),[]):=by
 have h:=yw ok (p:=p) (up:=true);rw [iY,← h];exact abk ok
theorem U2 {d:Rd} (ok:Ok0 d) {p:Int}:R F.round_Down [ag d,I p] []=some (rV (iY d p false),[]):=by
 have h:=yw ok (p:=p) (up:=false);rw [iY,← h];exact Xn ok
structure Ri where
 lo:Rd
 hi:Rd
 all:Bool
def aA (x:Ri):List AV:=[B x.lo.neg,lm x.lo.m,I x.lo.e,B x.hi.neg,lm x.hi.m,I x.hi.e,B x.all]
def ax (x:Ri):AV:=.agg (aA x)
def cQ:Ri:=⟨aP,aP,true⟩
structure OkI (x:Ri):Prop where
 lo:Ok0 x.lo
 hi:Ok0 x.hi
def z0 (d:Rd):Bool:=!d.neg && (decide (d.m.length=0) && decide (d.e=0))
def vi (x:Ri):Bool:=if x.all=true then z0 x.lo && z0 x.hi else vd x.lo && (vd x.hi && decide (zI x.lo≤zI x.hi))
def kI (x:Ri):Bool:=!x.all && vi x
def di (p:Int):Bool:=decide (8≤p) && decide (p≤512)
theorem sA {p:Int}:R F.interval_permitted [I p] []=some (B (di p),[]):=by
 refine aE AM rfl ?_;unfold di;by_cases h1:8≤p
 ·have e1:(8≤p)=True:=tt h1;simp only [ip,me,go_sem,e1,decide_true,Bool.true_and]
 ·have e1:(8≤p)=False:=ff h1;simp only [ip,me,go_sem,e1,decide_false,Bool.false_and]
theorem kH:R F.interval_Whole [] []=some (ax cQ,[]):=by
 refine aE Fu rfl ?_;simp only [pO,wS,ax,aA,cQ,aP,go_sem,am4,am3,am5]
theorem YJ {d:Rd}:R F.interval_Valid_1 [ag d] []=some (B (z0 d),[]):=by
 refine aE CI rfl ?_;unfold z0;cases hn:d.neg with
 | true=>simp only [eU,ia,ag,am,go_sem,am4,am3,hn,Bool.not_true,Bool.false_and]
 | false =>
  by_cases h1:d.m.length=0
  ·have e1:((d.m.length:Int)=0)=True:=tt (by omega);by_cases h2:d.e=0
   ·have e2:(d.e=0)=True:=tt h2;rw [decide_eq_true h1,decide_eq_true h2];simp only [eU,ia,ag,am,go_sem,am4,am3,hn,e1,e2,Bool.not_false,Bool.true_and]
   ·have e2:(d.e=0)=False:=ff h2;rw [decide_eq_true h1,decide_eq_false h2];simp only [eU,ia,ag,am,go_sem,am4,am3,hn,e1,e2,Bool.not_false,Bool.true_and]
  ·have e1:((d.m.length:Int)=0)=False:=ff (by omega);rw [decide_eq_false h1];simp only [eU,ia,ag,am,go_sem,am4,am3,hn,e1,Bool.not_false,Bool.true_and,Bool.false_and]
theorem QA {x y:Int}:(bI x y≤0)=(x≤y):=by
 grind [bI]
theorem yx {x:Ri} (ok:OkI x):R F.interval_Valid [ax x] []=some (B (vi x),[]):=by
 refine aE Fw rfl ?_;unfold vi;have zl:=YJ (d:=x.lo);have zh:=YJ (d:=x.hi);have vl:=gg ok.lo;have vh:=gg ok.hi;have hc:=wv ok.lo ok.hi;simp only [ag,am] at zl zh vl vh hc;cases ha:x.all with
 | true =>
  cases h1:z0 x.lo with
  | true =>
   rw [h1] at zl;simp only [eK,gN,ax,aA,go_sem,am4,am3,am5,ha,zl,zh,Bool.true_and]
  | false =>
   rw [h1] at zl;simp only [eK,gN,ax,aA,go_sem,am4,am3,am5,ha,zl,Bool.false_and]
 | false =>
  cases h1:vd x.lo with
  | false =>
   rw [h1] at vl;simp only [eK,gN,ax,aA,go_sem,am4,am3,am5,ha,vl,Bool.false_and]
  | true =>
   rw [h1] at vl;cases h2:vd x.hi with
   | false =>
    rw [h2] at vh;simp only [eK,gN,ax,aA,go_sem,am4,am3,am5,ha,vl,vh,Bool.true_and,Bool.false_and]
   | true =>
    rw [h2] at vh;rw [h1,h2,if_pos ⟨rfl,rfl⟩] at hc;simp only [eK,gN,ax,aA,go_sem,am4,am3,am5,ha,vl,vh,hc,QA,Bool.true_and]
theorem jC {d:Rd} (ok:Ok0 d) (hv:vd d=true):R F.interval_Point [ag d] []=some (ax ⟨d,d,false⟩,[]):=by
 refine aE Ft rfl ?_;have vl:=gg ok;rw [hv] at vl;simp only [ag,am] at vl;simp only [pN,wR,ag,am,ax,aA,go_sem,am4,am3,am5,vl]
def nS (r s:Rd × Int):Ri:=if r.2=0∧s.2=0 then ⟨r.1,s.1,false⟩ else cQ
theorem IX {a b:Rd} {e f:Int}:R F.interval_made [ag a,I e,ag b,I f] []=some (ax (nS (a,e) (b,f)),[]):=by
 refine aE GZ rfl ?_;have hw:=kH;unfold nS;by_cases h1:e=0
 ·have e1:(e=0)=True:=tt h1;by_cases h2:f=0
  ·have e2:(f=0)=True:=tt h2;simp only [js,nG,ag,am,ax,aA,go_sem,am4,am3,am5,e1,e2]
  ·have e2:(f=0)=False:=ff h2;simp only [js,nG,ag,am,ax,aA,go_sem,am4,am3,am5,e1,e2,hw]
 ·have e1:(e=0)=False:=ff h1;simp only [js,nG,ag,am,ax,aA,go_sem,am4,am3,am5,e1,hw]
def bB (l:List Ri):List (List AV):=l.map aA
@[go_sem] theorem IY (l:List Ri):(bB l).length=l.length:=by simp [bB]
theorem DO {l:List Ri} {i:Int} {n:Nat} {d:Ri} (hi:i=n) (h:l[n]?=some d):aZ (bB l) i=some (.ipt (aA d)):=by
 grind [aZ,bB]
theorem S5 (l:List Ri) (ok:∀ d ∈ l,OkI d) (h2:l.length≤100000):∀ (k i:Nat),i+k=l.length→∀ (s:ae) (h:ac),s 5=.sl 7 (bB l)→s 6=I l.length→s 7=I i →
  ∃ hh,ap 0 [] (aq (ak R (aG false) eS) [5,6,7] [] s h)=if ((l.drop i).all kI)=true then some (.normal,⟨fun _=>.any,fun _=>.dead⟩) else some (.ret,⟨upd (fun _=>.any) 2 (B false),hh⟩):=by
 intro k;induction k with
 | zero =>
  intro i hi s h h5 h6 h7;have e1:((i:Int) < l.length)=False:=ff (by omega);rw [List.drop_eq_nil_of_le (by omega),ai,List.all_nil,if_pos rfl];refine ⟨fun _=>.dead,?_⟩;simp only [eS,go_sem,h5,h6,h7,e1]
 | succ k ih =>
  intro i hi s h h5 h6 h7;have hlt:i < l.length:=by omega
  have e1:((i:Int) < l.length)=True:=tt (by omega);have e2:aZ (bB l) (i:Int)=some (.ipt (aA l[i])):=DO rfl (List.getElem?_eq_getElem hlt);have e5:IntKind.i64.wrap ((i:Int)+1)=((i+1:Nat):Int):=wi (by omega) (by omega);have e3:=yx (ok l[i] (List.getElem_mem hlt));rw [List.drop_eq_getElem_cons hlt,List.all_cons,ai];have ih':=ih (i+1) (by omega);generalize l[i]=d at e2 e3 ⊢;simp only [ax] at e3;simp only [aA] at e2 e3;unfold kI at ih' ⊢;cases ha:d.all with
  | true =>
   refine ⟨?hh,?_⟩;rotate_left;simp only [eS,go_sem,am4,am3,am5,h5,h6,h7,e1,e2,ha];rfl
  | false =>
   rw [ha] at e3;cases hv:vi d with
   | false =>
    rw [hv] at e3;refine ⟨?hh2,?_⟩;rotate_left;simp only [eS,go_sem,am4,am3,am5,h5,h6,h7,e1,e2,e3,ha];rfl
   | true =>
    rw [hv] at e3;simp only [eS,go_sem,am4,am3,am5,h5,h6,h7,e1,e2,e3,e5,ha];exact ih' _ _ rfl rfl rfl
theorem Nw {l:List Ri} (ok:∀ d ∈ l,OkI d) (h2:l.length≤100000):R F.interval_known [.sl 7 (bB l)] []=some (B (l.all kI),[]):=by
 refine aE Fx rfl ?_;have h3:=S5 l ok h2 l.length 0 (Nat.zero_add _);simp only [List.drop_zero,Int.natCast_zero] at h3;cases ha:l.all kI with
 | false =>
  rw [ha] at h3;simp only [kW,qH,go_sem];rw [(h3 _ _ rfl rfl rfl).choose_spec];simp only [go_sem]
 | true =>
  rw [ha] at h3;simp only [kW,qH,go_sem];rw [(h3 _ _ rfl rfl rfl).choose_spec];simp only [go_sem]
theorem rg {x:Ri} (ok:OkI x):R F.interval_known [.sl 7 [[B x.lo.neg,lm x.lo.m,I x.lo.e,B x.hi.neg,lm x.hi.m,I x.hi.e,B x.all]]] []=some (B (kI x),[]):=by
 have h:=Nw (l:=[x]) (fun d hd=>by grind) (show 1≤100000 by decide);rw [List.all_cons,List.all_nil,Bool.and_true] at h;exact h
theorem yy {x y:Ri} (ox:OkI x) (oy:OkI y):R F.interval_known [.sl 7 [[B x.lo.neg,lm x.lo.m,I x.lo.e,B x.hi.neg,lm x.hi.m,I x.hi.e,B x.all],[B y.lo.neg,lm y.lo.m,I y.lo.e,B y.hi.neg,lm y.hi.m,I y.hi.e,B y.all]]] []=some (B (kI x && kI y),[]):=by
 have h:=Nw (l:=[x,y]) (fun d hd=>by
  grind) (show 2≤100000 by decide)
 rw [List.all_cons,List.all_cons,List.all_nil,Bool.and_true] at h;exact h
def oP (x y:Ri) (p:Int):Ri:=if (kI x && kI y && di p)=true then nS (eM x.lo y.lo p false) (eM x.hi y.hi p true) else cQ
theorem IZ {x y:Ri} (ox:OkI x) (oy:OkI y) {p:Int}:R F.interval_Add [ax x,ax y,I p] []=some (ax (oP x y p),[]):=by
 refine aE Ir rfl ?_;have hk:=yy ox oy;have hp:=sA (p:=p);have hw:=kH;have hd:=Ha ox.lo oy.lo (p:=p);have hu:=Nv ox.hi oy.hi (p:=p);unfold oP;generalize eM x.lo y.lo p false=r at hd ⊢;generalize eM x.hi y.hi p true=q at hu ⊢;obtain ⟨r1,r2⟩:=r;obtain ⟨q1,q2⟩:=q;have hm:=IX (a:=r1) (b:=q1) (e:=r2) (f:=q2);simp only [ax,aA,rV,ag,am] at hw hd hu hm;cases h1:(kI x && kI y) with
 | false =>
  rw [h1] at hk;simp only [j7,pe,ax,aA,go_sem,am4,am3,am5,am6,hk,hw]
 | true =>
  rw [h1] at hk;cases h2:di p with
  | false =>
   rw [h2] at hp;simp only [j7,pe,ax,aA,go_sem,am4,am3,am5,am6,hk,hp,hw]
  | true =>
   rw [h2] at hp;simp only [j7,pe,ax,aA,go_sem,am4,am3,am5,am6,hk,hp,hw,hd,hu,hm]
def ce (a b:Rd):Int:=if vd a=true∧vd b=true then bI (zI a) (zI b) else 0
def fM (a b:Rd):Rd:=if ce a b≤0 then a else b
def fN (a b:Rd):Rd:=if 0≤ce a b then a else b
theorem I0 {a b:Rd} (oa:Ok0 a) (ob:Ok0 b):R F.interval_less [ag a,ag b] []=some (ag (fM a b),[]):=by
 refine aE GY rfl ?_;have hc:=wv oa ob;rw [show (if vd a=true∧vd b=true then bI (zI a) (zI b) else 0)=ce a b from rfl] at hc;simp only [ag,am] at hc;unfold fM;by_cases h:ce a b≤0
 ·have e1:(ce a b≤0)=True:=tt h;simp only [l9,rU,ag,am,go_sem,am4,am3,am5,hc,e1]
 ·have e1:(ce a b≤0)=False:=ff h;simp only [l9,rU,ag,am,go_sem,am4,am3,am5,hc,e1]
theorem I1 {a b:Rd} (oa:Ok0 a) (ob:Ok0 b):R F.interval_more [ag a,ag b] []=some (ag (fN a b),[]):=by
 refine aE GX rfl ?_;have hc:=wv oa ob;rw [show (if vd a=true∧vd b=true then bI (zI a) (zI b) else 0)=ce a b from rfl] at hc;simp only [ag,am] at hc;unfold fN;by_cases h:0≤ce a b
 ·have e1:(0≤ce a b)=True:=tt h;simp only [l8,rT,ag,am,go_sem,am4,am3,am5,hc,e1]
 ·have e1:(0≤ce a b)=False:=ff h;simp only [l8,rT,ag,am,go_sem,am4,am3,am5,hc,e1]
theorem ad4 {x:Ri} (h:kI x=true):vd x.lo=true∧vd x.hi=true∧zI x.lo≤zI x.hi∧x.all=false:=by
 unfold kI vi at h;grind
theorem ad5 {x:Ri} (h1:vd x.lo=true) (h2:vd x.hi=true) (h3:zI x.lo≤zI x.hi) (h4:x.all=false):kI x=true:=by
 grind [kI,vi,decide_eq_true]
def EZ (x:Ri):Int:=if 0 < bY x.lo then 1 else if bY x.hi < 0 then -1 else 0
theorem Nx {x:Ri} (ok:OkI x) (hx:kI x=true):R F.interval_Sign [ax x] []=some (I (EZ x),[]):=by
 refine aE G2 rfl ?_;obtain ⟨v1,v2,v3,v4⟩:=ad4 hx;have hk:=rg ok;rw [hx] at hk;have s1:=xG ok.lo v1;have s2:=xG ok.hi v2;simp only [ag,am] at s1 s2;unfold EZ;by_cases h1:0 < bY x.lo
 ·have e1:(0 < bY x.lo)=True:=tt h1;simp only [jx,aaJ,ax,aA,go_sem,am4,am3,am5,am6,hk,s1,e1]
 ·have e1:(0 < bY x.lo)=False:=ff h1;by_cases h2:bY x.hi < 0
  ·have e2:(bY x.hi < 0)=True:=tt h2;simp only [jx,aaJ,ax,aA,go_sem,am4,am3,am5,am6,hk,s1,e1,s2,e2]
  ·have e2:(bY x.hi < 0)=False:=ff h2;simp only [jx,aaJ,ax,aA,go_sem,am4,am3,am5,am6,hk,s1,e1,s2,e2]
def lL (d:Rd):Rd:=if vd d=false∨d.m.length=0 then aP else ⟨false,d.m,d.e⟩
theorem bm:vd aP=true∧Ok0 aP:=⟨rfl,⟨fun x hx=>(nomatch hx),by decide⟩⟩
theorem rh {d:Rd} (ok:Ok0 d):Ok0 (lL d):=by
 unfold lL;split
 ·exact bm.2
 ·exact ⟨ok.1,ok.2⟩
def xJ (x:Ri):Rd:=if EZ x=0 then aP else fM (lL x.lo) (lL x.hi)
def I2 (x:Ri):Rd:=fN (lL x.lo) (lL x.hi)
theorem abm {x:Ri} (ok:OkI x) (hx:kI x=true):R F.interval_Mig [ax x] []=some (.tup [ag (xJ x),B true],[]):=by
 refine aE IF rfl ?_;have hk:=rg ok;rw [hx] at hk;have hs:=Nx ok hx;have a1:=G7 ok.lo;have a2:=G7 ok.hi;rw [show (if vd x.lo=false∨x.lo.m.length=0 then aP else (⟨false,x.lo.m,x.lo.e⟩:Rd))=lL x.lo from rfl] at a1;rw [show (if vd x.hi=false∨x.hi.m.length=0 then aP else (⟨false,x.hi.m,x.hi.e⟩:Rd))=lL x.hi from rfl] at a2;have hl:=I0 (rh ok.lo) (rh ok.hi);unfold xJ;simp only [ax,aA,ag,am] at hs a1 a2 hl;by_cases h1:EZ x=0
 ·have e1:(EZ x=0)=True:=tt h1;simp only [nP,tw,ax,aA,ag,am,aP,go_sem,am4,am3,am5,am6,hk,hs,e1]
 ·have e1:(EZ x=0)=False:=ff h1;simp only [nP,tw,ax,aA,ag,am,go_sem,am4,am3,am5,am6,am7,hk,hs,e1,a1,a2,hl]
theorem abn {x:Ri} (ok:OkI x) (hx:kI x=true):R F.interval_Mag [ax x] []=some (.tup [ag (I2 x),B true],[]):=by
 refine aE IG rfl ?_;have hk:=rg ok;rw [hx] at hk;have a1:=G7 ok.lo;have a2:=G7 ok.hi;rw [show (if vd x.lo=false∨x.lo.m.length=0 then aP else (⟨false,x.lo.m,x.lo.e⟩:Rd))=lL x.lo from rfl] at a1;rw [show (if vd x.hi=false∨x.hi.m.length=0 then aP else (⟨false,x.hi.m,x.hi.e⟩:Rd))=lL x.hi from rfl] at a2;have hl:=I1 (rh ok.lo) (rh ok.hi);unfold I2;simp only [ag,am] at a1 a2 hl;simp only [sn,zK,ax,aA,ag,am,go_sem,am4,am3,am5,am6,am7,hk,a1,a2,hl]
def vC (x:Ri):Ri:=if kI x=true then ⟨xJ x,I2 x,false⟩ else cQ
theorem Zv {x:Ri} (ok:OkI x):R F.interval_Abs [ax x] []=some (ax (vC x),[]):=by
 refine aE Iz rfl ?_;have hk:=rg ok;have hw:=kH;unfold vC;cases hx:kI x with
 | false =>
  rw [hx] at hk;simp only [nK,tp,ax,aA,go_sem,am4,am3,am5,am6,hk,hw]
 | true =>
  rw [hx] at hk;have h1:=abm ok hx;have h2:=abn ok hx;simp only [ax,aA,ag,am] at h1 h2;simp only [nK,tp,ax,aA,go_sem,am4,am3,am5,am6,hk,h1,h2]
def sB (dn up:Rd→Rd→Rd × Int) (pr:Nat→Rd × Rd):Nat→Nat→Rd × Rd→Option (Rd × Rd)
 | 0,_,o=>some o
 | k+1,i,o=>if (dn (pr i).1 (pr i).2).2=0∧(up (pr i).1 (pr i).2).2=0 then
   sB dn up pr k (i+1) (if ce (dn (pr i).1 (pr i).2).1 o.1 < 0 then (dn (pr i).1 (pr i).2).1 else o.1,if 0 < ce (up (pr i).1 (pr i).2).1 o.2 then (up (pr i).1 (pr i).2).1 else o.2)
  else none
def nT (dn up:Rd→Rd→Rd × Int) (pr:Nat→Rd × Rd):Option (Rd × Rd) :=
 if (dn (pr 0).1 (pr 0).2).2=0∧(up (pr 0).1 (pr 0).2).2=0 then sB dn up pr 3 1 ((dn (pr 0).1 (pr 0).2).1,(up (pr 0).1 (pr 0).2).1) else none
def Ad:Option (Rd × Rd)→Ri
 | some o=>⟨o.1,o.2,false⟩
 | none=>cQ
def DP (x:Option (Ex × St)) (o:Option (Rd × Rd)):Prop:=match o with
 | some q=>∃ hh,x=some (.normal,⟨upd (upd (fun _=>.any) 12 (.ref 12 none 0 0 0)) 10 (.ref 10 none 0 0 0),hh⟩)∧hh 10=.bx [.v (.bool false),.emp,.v (.int .i64 0),.v (.bool false),.emp,.v (.int .i64 0),.v (.bool false)]∧hh 12=.bx (aA ⟨q.1,q.2,false⟩)
 | none=>∃ hh,x=some (.ret,⟨upd (fun _=>.any) 10 (.ref 10 none 0 0 0),hh⟩)∧hh 10=.bx (aA cQ)
theorem tK {a b:Rd} {p:Int} {up:Bool}:Ok0 (fl a b p up).1:=by
 unfold fl;split
 ·exact sz.2
 ·exact bm.2
structure Op2 (f:FuncId) (g:Rd→Rd→Rd × Int) (p:Int):Prop where
 ct:∀ {a b:Rd},Ok0 a→Ok0 b→R f [ag a,ag b,I p] []=some (rV (g a b),[])
 ok:∀ {a b:Rd},Ok0 (g a b).1
 s:YE f [[.o 0 [],.o 2 [],.o 0 []],[.o 0 [],.o 2 [],.o 0 []],[]]
 m:YF f []
 k:YG f false
 c:YD f
theorem U3 {p:Int} {A:AV} {pr:Nat→Rd × Rd} {fD fU:FuncId} {dn up:Rd→Rd→Rd × Int} (oD:Op2 fD dn p) (oU:Op2 fU up p) (hA:aaL [10,12] A=A) (hidx:∀ i:Nat,i < 4→Ds 4 6 true A (I i)=some (.agg [B (pr i).1.neg,lm (pr i).1.m,I (pr i).1.e,B (pr i).2.neg,lm (pr i).2.m,I (pr i).2.e]))
  (hok:∀ i,Ok0 (pr i).1∧Ok0 (pr i).2):∀ (k i:Nat),i+k=4→1≤i→∀ (lo hi:Rd) (s:ae) (h:ac),Ok0 lo→Ok0 hi→s 2=I p→s 3=.fn fD [] []→s 4=.fn fU [] []→s 10=.ref 10 none 0 0 0→s 12=.ref 12 none 0 0 0→s 40=A→s 41=I i →
  h 10=.bx [.v (.bool false),.emp,.v (.int .i64 0),.v (.bool false),.emp,.v (.int .i64 0),.v (.bool false)]→h 12=.bx (aA ⟨lo,hi,false⟩) →
  DP (ap 0 [10,12] (aq (ak R (aG false) aY) [2,3,4,10,12,40,41] [10,12] s h)) (sB dn up pr k i (lo,hi)):=by
 intro k;induction k with
 | zero =>
  intro i hi4 h1 lo hi s h olo ohi h2 h3 h4 h10 h12 h40 h41 k10 k12;have e1:((i:Int) < 4)=False:=ff (by omega);simp only [aA] at k12;rw [ai];refine ⟨?hh0,?_,?_,?_⟩;rotate_left
  ·simp only [aY,go_sem,am7,h2,h3,h4,h10,h12,h40,h41,k10,k12,hA,e1];rfl
  ·rfl
  ·rfl
 | succ k ih =>
  intro i hi4 h1 lo hi s h olo ohi h2 h3 h4 h10 h12 h40 h41 k10 k12;have e1:((i:Int) < 4)=True:=tt (by omega);have e0:((i:Int)=0)=False:=ff (by omega);have ei:=hidx i (by omega);have e5:IntKind.i64.wrap ((i:Int)+1)=((i+1:Nat):Int):=wi (by omega) (by omega);have hd:=oD.ct (hok i).1 (hok i).2;have hu:=oU.ct (hok i).1 (hok i).2;have hw:=kH;have okd:=oD.ok (a:=(pr i).1) (b:=(pr i).2);have oku:=oU.ok (a:=(pr i).1) (b:=(pr i).2);have c1:=wv okd olo;have c2:=wv oku ohi;rw [show ∀ a b:Rd,(if vd a=true∧vd b=true then bI (zI a) (zI b) else 0)=ce a b from fun _ _=>rfl] at c1 c2;have ih':=ih (i+1) (by omega) (by omega);unfold sB;simp only [aA] at k12;show DP _ (if (dn (pr i).1 (pr i).2).2=0∧(up (pr i).1 (pr i).2).2=0 then _ else none);generalize dn (pr i).1 (pr i).2=r at hd okd c1 ⊢;generalize up (pr i).1 (pr i).2=q at hu oku c2 ⊢;obtain ⟨r1,r2⟩:=r;obtain ⟨q1,q2⟩:=q;show DP _ (if r2=0∧q2=0 then sB dn up pr k (i+1) (if ce r1 lo < 0 then r1 else lo,if 0 < ce q1 hi then q1 else hi) else none);simp only [rV,ag,am,ax,aA,cQ,aP] at hd hu hw c1 c2;rw [ai];generalize aq _ _ _=L at ih' ⊢;by_cases hr:r2=0
  ·have er:(r2=0)=True:=tt hr;by_cases hq:q2=0
   ·have eq:(q2=0)=True:=tt hq;rw [if_pos (show r2=0∧q2=0 from ⟨hr,hq⟩)];by_cases g1:ce r1 lo < 0
    ·have f1:(ce r1 lo < 0)=True:=tt g1;by_cases g2:0 < ce q1 hi
     ·have f2:(0 < ce q1 hi)=True:=tt g2;rw [if_pos g1,if_pos g2];simp only [aY,Int.cast_ofNat_Int,go_sem,oD.s,oD.m,oD.k,oD.c,oU.s,oU.m,oU.k,oU.c,am4,am3,am5,am8,ana,am9,am7,h2,h3,h4,h10,h12,h40,h41,k10,k12,hA,e1,e0,ei,hd,hu,er,eq,c1,c2,f1,f2,e5];exact ih' r1 q1 _ _ okd oku rfl rfl rfl rfl rfl rfl rfl rfl rfl
     ·have f2:(0 < ce q1 hi)=False:=ff g2;rw [if_pos g1,if_neg g2];simp only [aY,Int.cast_ofNat_Int,go_sem,oD.s,oD.m,oD.k,oD.c,oU.s,oU.m,oU.k,oU.c,am4,am3,am5,am8,ana,am9,am7,h2,h3,h4,h10,h12,h40,h41,k10,k12,hA,e1,e0,ei,hd,hu,er,eq,c1,c2,f1,f2,e5];exact ih' r1 hi _ _ okd ohi rfl rfl rfl rfl rfl rfl rfl rfl rfl
    ·have f1:(ce r1 lo < 0)=False:=ff g1;by_cases g2:0 < ce q1 hi
     ·have f2:(0 < ce q1 hi)=True:=tt g2;rw [if_neg g1,if_pos g2];simp only [aY,Int.cast_ofNat_Int,go_sem,oD.s,oD.m,oD.k,oD.c,oU.s,oU.m,oU.k,oU.c,am4,am3,am5,am8,ana,am9,am7,h2,h3,h4,h10,h12,h40,h41,k10,k12,hA,e1,e0,ei,hd,hu,er,eq,c1,c2,f1,f2,e5];exact ih' lo q1 _ _ olo oku rfl rfl rfl rfl rfl rfl rfl rfl rfl
     ·have f2:(0 < ce q1 hi)=False:=ff g2;rw [if_neg g1,if_neg g2];simp only [aY,Int.cast_ofNat_Int,go_sem,oD.s,oD.m,oD.k,oD.c,oU.s,oU.m,oU.k,oU.c,am4,am3,am5,am8,ana,am9,am7,h2,h3,h4,h10,h12,h40,h41,k10,k12,hA,e1,e0,ei,hd,hu,er,eq,c1,c2,f1,f2,e5];exact ih' lo hi _ _ olo ohi rfl rfl rfl rfl rfl rfl rfl rfl rfl
   ·have eq:(q2=0)=False:=ff hq;rw [if_neg (show ¬(r2=0∧q2=0) from fun h=>hq h.2)];refine ⟨?hh1,?_,?_⟩;rotate_left
    ·simp only [aY,Int.cast_ofNat_Int,go_sem,oD.s,oD.m,oD.k,oD.c,oU.s,oU.m,oU.k,oU.c,am4,am3,am5,am8,ana,am9,am7,h2,h3,h4,h10,h12,h40,h41,k10,k12,hA,e1,ei,hd,hu,er,eq,hw];rfl
    ·rfl
  ·have er:(r2=0)=False:=ff hr;rw [if_neg (show ¬(r2=0∧q2=0) from fun h=>hr h.1)];refine ⟨?hh2,?_,?_⟩;rotate_left
   ·simp only [aY,Int.cast_ofNat_Int,go_sem,oD.s,oD.m,oD.k,oD.c,oU.s,oU.m,oU.k,oU.c,am4,am3,am5,am8,ana,am9,am7,h2,h3,h4,h10,h12,h40,h41,k10,k12,hA,e1,ei,hd,hu,er,hw];rfl
   ·rfl
theorem S6 {p:Int} {A:AV} {pr:Nat→Rd × Rd} {fD fU:FuncId} {dn up:Rd→Rd→Rd × Int} (oD:Op2 fD dn p) (oU:Op2 fU up p) (hA:aaL [10,12] A=A) (hidx:∀ i:Nat,i < 4→Ds 4 6 true A (I i)=some (.agg [B (pr i).1.neg,lm (pr i).1.m,I (pr i).1.e,B (pr i).2.neg,lm (pr i).2.m,I (pr i).2.e]))
  (hok:∀ i,Ok0 (pr i).1∧Ok0 (pr i).2) (s:ae) (h:ac) (h2:s 2=I p) (h3:s 3=.fn fD [] []) (h4:s 4=.fn fU [] []) (h10:s 10=.ref 10 none 0 0 0) (h12:s 12=.ref 12 none 0 0 0) (h40:s 40=A) (h41:s 41=I 0)
  (k10:h 10=.bx [.v (.bool false),.emp,.v (.int .i64 0),.v (.bool false),.emp,.v (.int .i64 0),.v (.bool false)]) (k12:h 12=.bx [.v (.bool false),.emp,.v (.int .i64 0),.v (.bool false),.emp,.v (.int .i64 0),.v (.bool false)]) :
  DP (ap 0 [10,12] (aq (ak R (aG false) aY) [2,3,4,10,12,40,41] [10,12] s h)) (nT dn up pr):=by
 have ei:=hidx 0 (by decide);simp only [Int.natCast_zero] at ei;have hd:=oD.ct (hok 0).1 (hok 0).2;have hu:=oU.ct (hok 0).1 (hok 0).2;have hw:=kH;have okd:=oD.ok (a:=(pr 0).1) (b:=(pr 0).2);have oku:=oU.ok (a:=(pr 0).1) (b:=(pr 0).2);have ih':=U3 (p:=p) (A:=A) (pr:=pr) oD oU hA hidx hok 3 1 rfl (by decide);unfold nT;generalize dn (pr 0).1 (pr 0).2=r at hd okd ⊢;generalize up (pr 0).1 (pr 0).2=q at hu oku ⊢;obtain ⟨r1,r2⟩:=r;obtain ⟨q1,q2⟩:=q;simp only [rV,ag,am,ax,aA,cQ,aP] at hd hu hw;rw [ai];have e6:IntKind.i64.wrap (0+1)=1:=rfl;by_cases hr:r2=0
 ·have er:(r2=0)=True:=tt hr;by_cases hq:q2=0
  ·have eq:(q2=0)=True:=tt hq;simp only [aY,Int.cast_ofNat_Int,go_sem,oD.s,oD.m,oD.k,oD.c,oU.s,oU.m,oU.k,oU.c,am4,am3,am5,am8,ana,am9,am7,h2,h3,h4,h10,h12,h40,h41,k10,k12,hA,ei,hd,hu,er,eq,e6];exact ih' r1 q1 _ _ okd oku rfl rfl rfl rfl rfl rfl rfl rfl rfl
  ·have eq:(q2=0)=False:=ff hq;rw [if_neg (show ¬(r2=0∧q2=0) from fun h=>hq h.2)];refine ⟨?hh3,?_,?_⟩;rotate_left
   ·simp only [aY,Int.cast_ofNat_Int,go_sem,oD.s,oD.m,oD.k,oD.c,oU.s,oU.m,oU.k,oU.c,am4,am3,am5,am8,ana,am9,am7,h2,h3,h4,h10,h12,h40,h41,k10,k12,hA,ei,hd,hu,er,eq,hw];rfl
   ·rfl
 ·have er:(r2=0)=False:=ff hr;rw [if_neg (show ¬(r2=0∧q2=0) from fun h=>hr h.1)];refine ⟨?hh4,?_,?_⟩;rotate_left
  ·simp only [aY,Int.cast_ofNat_Int,go_sem,oD.s,oD.m,oD.k,oD.c,oU.s,oU.m,oU.k,oU.c,am4,am3,am5,am8,ana,am9,am7,h2,h3,h4,h10,h12,h40,h41,k10,k12,hA,ei,hd,hu,er,hw];rfl
  ·rfl
def ku (x y:Ri) (i:Nat):Rd × Rd:=match i with
 | 0=>(x.lo,y.lo)
 | 1=>(x.lo,y.hi)
 | 2=>(x.hi,y.lo)
 | _=>(x.hi,y.hi)
def nv (x y:Ri) (p:Int):Ri:=if (kI x && kI y && di p)=true then Ad (nT (fun a b=>fl a b p false) (fun a b=>fl a b p true) (ku x y)) else cQ
noncomputable def pY:Cmd:=.seq (.seq (.ops [2,3,4,10,12,40,41] [⟨(some 40),none,.load 24 true (.t 11)⟩,co 41 (.mv (.c (.v (.int .i64 0))))]) (.block 0 [10,12] (.loop [2,3,4,10,12,40,41] [10,12] aY))) (.seq (.ops [10] [⟨(some 95),none,.load 7 true (.t 12)⟩,⟨none,none,.store 7 (.t 10) (.t 95)⟩]) (.ret))
theorem y6:ye=.seq (.ops [2,3,4,5,6,10] [⟨(some 5),none,.box 7 (.t 0)⟩,⟨(some 6),none,.box 7 (.t 1)⟩,⟨(some 10),none,.alloc [(.v (.bool false)),.emp,(.v (.int .i64 0)),(.v (.bool false)),.emp,(.v (.int .i64 0)),(.v (.bool false))]⟩]) (.seq (.ops [2,3,4,10,11] [co 19 (.fadr 0 (.t 5)),⟨(some 20),none,.load 3 true (.t 19)⟩,co 21 (.fadr 0 (.t 6)),⟨(some 22),none,.load 3 true (.t 21)⟩,co 23 (.build [(.v (.bool false)),.emp,(.v (.int .i64 0)),(.v (.bool false)),.emp,(.v (.int .i64 0))] [(0,3,(.t 20)),(3,3,(.t 22))]),co 24 (.fadr 0 (.t 5)),⟨(some 25),none,.load 3 true (.t 24)⟩,co 26 (.fadr 3 (.t 6)),⟨(some 27),none,.load 3 true (.t 26)⟩,co 28 (.build [(.v (.bool false)),.emp,(.v (.int .i64 0)),(.v (.bool false)),.emp,(.v (.int .i64 0))] [(0,3,(.t 25)),(3,3,(.t 27))]),co 29 (.fadr 3 (.t 5)),⟨(some 30),none,.load 3 true (.t 29)⟩,co 31 (.fadr 0 (.t 6)),⟨(some 32),none,.load 3 true (.t 31)⟩,co 33 (.build [(.v (.bool false)),.emp,(.v (.int .i64 0)),(.v (.bool false)),.emp,(.v (.int .i64 0))] [(0,3,(.t 30)),(3,3,(.t 32))]),co 34 (.fadr 3 (.t 5)),⟨(some 35),none,.load 3 true (.t 34)⟩,co 36 (.fadr 3 (.t 6)),⟨(some 37),none,.load 3 true (.t 36)⟩,co 38 (.build [(.v (.bool false)),.emp,(.v (.int .i64 0)),(.v (.bool false)),.emp,(.v (.int .i64 0))] [(0,3,(.t 35)),(3,3,(.t 37))]),co 39 (.build [(.v (.bool false)),.emp,(.v (.int .i64 0)),(.v (.bool false)),.emp,(.v (.int .i64 0)),(.v (.bool false)),.emp,(.v (.int .i64 0)),(.v (.bool false)),.emp,(.v (.int .i64 0)),(.v (.bool false)),.emp,(.v (.int .i64 0)),(.v (.bool false)),.emp,(.v (.int .i64 0)),(.v (.bool false)),.emp,(.v (.int .i64 0)),(.v (.bool false)),.emp,(.v (.int .i64 0))] [(0,6,(.t 23)),(6,6,(.t 28)),(12,6,(.t 33)),(18,6,(.t 38))]),⟨(some 11),none,.alloc [(.v (.bool false)),.emp,(.v (.int .i64 0)),(.v (.bool false)),.emp,(.v (.int .i64 0)),(.v (.bool false)),.emp,(.v (.int .i64 0)),(.v (.bool false)),.emp,(.v (.int .i64 0)),(.v (.bool false)),.emp,(.v (.int .i64 0)),(.v (.bool false)),.emp,(.v (.int .i64 0)),(.v (.bool false)),.emp,(.v (.int .i64 0)),(.v (.bool false)),.emp,(.v (.int .i64 0))]⟩,⟨none,none,.store 24 (.t 11) (.t 39)⟩]) (.seq (.ops [2,3,4,10,11,12] [⟨(some 12),none,.alloc [(.v (.bool false)),.emp,(.v (.int .i64 0)),(.v (.bool false)),.emp,(.v (.int .i64 0)),(.v (.bool false))]⟩]) pY)):=rfl
theorem abo {x y:Ri} (ox:OkI x) (oy:OkI y) (i:Nat):Ok0 (ku x y i).1∧Ok0 (ku x y i).2:=by
 unfold ku;split
 ·exact ⟨ox.1,oy.1⟩
 ·exact ⟨ox.1,oy.2⟩
 ·exact ⟨ox.2,oy.1⟩
 ·exact ⟨ox.2,oy.2⟩
def S7 (x y:Ri):List AV:=[B x.lo.neg,lm x.lo.m,I x.lo.e,B y.lo.neg,lm y.lo.m,I y.lo.e,B x.lo.neg,lm x.lo.m,I x.lo.e,B y.hi.neg,lm y.hi.m,I y.hi.e,B x.hi.neg,lm x.hi.m,I x.hi.e,B y.lo.neg,lm y.lo.m,I y.lo.e,B x.hi.neg,lm x.hi.m,I x.hi.e,B y.hi.neg,lm y.hi.m,I y.hi.e]
theorem U4 {x y:Ri} (ox:OkI x) (oy:OkI y) {p:Int} {fD fU:FuncId} {dn up:Rd→Rd→Rd × Int} (oD:Op2 fD dn p) (oU:Op2 fU up p) (s:ae) (h:ac) (h2:s 2=I p) (h3:s 3=.fn fD [] []) (h4:s 4=.fn fU [] []) (h10:s 10=.ref 10 none 0 0 0) (h11:s 11=.ref 11 none 0 0 0) (h12:s 12=.ref 12 none 0 0 0)
  (k10:h 10=.bx [.v (.bool false),.emp,.v (.int .i64 0),.v (.bool false),.emp,.v (.int .i64 0),.v (.bool false)]) (k11:h 11=.bx (S7 x y)) (k12:h 12=.bx [.v (.bool false),.emp,.v (.int .i64 0),.v (.bool false),.emp,.v (.int .i64 0),.v (.bool false)]) :
  gx false [[.o 0 [],.o 2 [],.o 0 [],.o 0 [],.o 2 [],.o 0 [],.o 0 []]] [.cell 10 7 true] 0 (ak R (aG false) pY s h)=some (ax (Ad (nT dn up (ku x y))),[]):=by
 obtain ⟨A,hAe⟩:∃ A:AV,A=.agg (S7 x y):=⟨_,rfl⟩;have hA:aaL [10,12] A=A:=by
  rw [hAe];rfl
 have hf:=S6 (p:=p) (A:=A) (pr:=ku x y) oD oU hA (fun i hi=>by
  rw [hAe]
  match i,hi with
  | 0,_=>rfl
  | 1,_=>rfl
  | 2,_=>rfl
  | 3,_=>rfl) (abo ox oy)
 have hl:fJ h 24 true (.ref 11 none 0 0 0)=some (A,h,[]):=by
  rw [hAe];simp only [S7] at k11 ⊢;simp only [go_sem,am4,am3,am5,k11]
 have hP:∀ (s:ae) (h:ac),s 2=I p→s 3=.fn fD [] []→s 4=.fn fU [] []→s 10=.ref 10 none 0 0 0→s 12=.ref 12 none 0 0 0→s 40=A→s 41=I 0→h 10=.bx [.v (.bool false),.emp,.v (.int .i64 0),.v (.bool false),.emp,.v (.int .i64 0),.v (.bool false)]→h 12=.bx [.v (.bool false),.emp,.v (.int .i64 0),.v (.bool false),.emp,.v (.int .i64 0),.v (.bool false)] →
   gx false [[.o 0 [],.o 2 [],.o 0 [],.o 0 [],.o 2 [],.o 0 [],.o 0 []]] [.cell 10 7 true] 0 (cj (ap 0 [10,12] (aq (ak R (aG false) aY) [2,3,4,10,12,40,41] [10,12] s h)) (ak R (aG false) (.seq (.ops [10] [⟨(some 95),none,.load 7 true (.t 12)⟩,⟨none,none,.store 7 (.t 10) (.t 95)⟩]) (.ret))))=some (ax (Ad (nT dn up (ku x y))),[]):=fun s h a2 a3 a4 a10 a12 a40 a41 b10 b12=>by
  have hg:=hf s h a2 a3 a4 a10 a12 a40 a41 b10 b12;cases ho:nT dn up (ku x y) with
  | none =>
   rw [ho] at hg;obtain ⟨hh,g1,g2⟩:=hg;rw [g1];simp only [Ad,cQ,ax,aA,aP,g2,go_sem,am4,am3,am5]
  | some q =>
   rw [ho] at hg;obtain ⟨hh,g1,g2,g3⟩:=hg;rw [g1];simp only [Ad,ax,aA,g2,g3,go_sem,am4,am3,am5]
 generalize hLL:aq (ak R (aG false) aY) [2,3,4,10,12,40,41] [10,12]=L at hP;have hX:∀ s h,ak R (aG false) (.loop [2,3,4,10,12,40,41] [10,12] aY) s h=L s h:=fun s h=>by rw [← hLL]; rfl
 show gx _ _ _ _ (cj (cj (ak R (aG false) (.ops [2,3,4,10,12,40,41] [⟨(some 40),none,.load 24 true (.t 11)⟩,co 41 (.mv (.c (.v (.int .i64 0))))]) s h) fun s h=>ap 0 [10,12] (ak R (aG false) (.loop [2,3,4,10,12,40,41] [10,12] aY) s h)) _)=_;simp only [hX];simp only [go_sem,h2,h3,h4,h10,h11,h12,hl];exact hP _ _ rfl rfl rfl rfl rfl rfl rfl k10 k12
theorem QB {x y:Ri} (ox:OkI x) (oy:OkI y) {p:Int} {fD fU:FuncId} {dn up:Rd→Rd→Rd × Int} (oD:Op2 fD dn p) (oU:Op2 fU up p):R F.interval_four [ax x,ax y,I p,.fn fD [] [],.fn fU [] []] []=some (ax (Ad (nT dn up (ku x y))),[]):=by
 refine aE G1 rfl ?_;simp only [qJ,y6,ax,aA,go_sem,am4,am3,am5];exact U4 ox oy oD oU _ _ rfl rfl rfl rfl rfl rfl rfl rfl rfl
theorem I3 {x y:Ri} (ox:OkI x) (oy:OkI y) {p:Int}:R F.interval_Mul [ax x,ax y,I p] []=some (ax (nv x y p),[]):=by
 refine aE It rfl ?_;have hk:=yy ox oy;have hp:=sA (p:=p);have hw:=kH;have hf:=QB ox oy (p:=p) (dn:=fun a b=>fl a b p false) (up:=fun a b=>fl a b p true) ⟨fun h1 h2=>EY h1 h2,tK,kr.1.1,kr.1.2.1,kr.1.2.2.2,kr.1.2.2.1⟩ ⟨fun h1 h2=>Kp h1 h2,tK,mQ.1.1,mQ.1.2.1,mQ.1.2.2.2,mQ.1.2.2.1⟩;unfold nv;simp only [ax,aA] at hw hf;cases h1:(kI x && kI y) with
 | false =>
  rw [h1] at hk;simp only [j8,pf,ax,aA,go_sem,am4,am3,am5,am6,hk,hw]
 | true =>
  rw [h1] at hk;cases h2:di p with
  | false =>
   rw [h2] at hp;simp only [j8,pf,ax,aA,go_sem,am4,am3,am5,am6,hk,hp,hw]
  | true =>
   rw [h2] at hp;simp only [j8,pf,ax,aA,go_sem,am4,am3,am5,am6,hk,hp,hf]
def iP (d:Rd) (p:Int) (up:Bool):Nat→Rd × Int→Rd × Int
 | 0,r=>r
 | k+1,r=>if r.2=0 then iP d p up k (fl r.1 d p up) else r
def pw (d:Rd) (n:Nat) (p:Int) (up:Bool):Rd × Int:=iP d p up (n - 1) (iY d p up)
theorem I4 {d:Rd} {p:Int} {up:Bool}:Ok0 (iY d p up).1:=by
 unfold iY;split
 ·exact sz.2
 ·exact bm.2
theorem abp {d:Rd} {p:Int} {up:Bool}:∀ (k:Nat) (r:Rd × Int),Ok0 r.1→Ok0 (iP d p up k r).1:=by
 intro k;induction k with
 | zero=>exact fun r h=>h
 | succ k ih =>
  grind [iP,tK]
theorem S8 {d:Rd} {n:Nat} {p:Int} {up:Bool}:Ok0 (pw d n p up).1:=abp _ _ I4
noncomputable def ij:Cmd:=.seq (.seq (.ops [1,2,4,5,10,12,13,14] [co 14 (.mv (.c (.v (.int .i64 1))))]) (.block 0 [10,12,13] (.loop [1,2,4,5,10,12,13,14] [5,10,12] aL))) (.seq (.ops [10,11] [⟨(some 39),none,.load 3 true (.t 12)⟩,cm 40 13,⟨none,none,.store 3 (.t 10) (.t 39)⟩,cm 11 40]) (.ret))
theorem pJ:xj=.seq (.ops [1,2,3,4,5,10] [⟨(some 5),none,.box 3 (.t 0)⟩,⟨(some 10),none,.alloc [(.v (.bool false)),.emp,(.v (.int .i64 0))]⟩,co 11 (.mv (.c (.v (.int .i64 0))))]) (.seq (.ops [1,2,4,5,10,12,13] [cm 16 3,⟨(some 17),none,.load 3 true (.t 5)⟩,cm 18 2,⟨(some 19),none,.call (.t 16) [(.t 17),(.t 18)]⟩,cm 15 19,co 20 (.ext 0 (.t 15)),co 21 (.ext 1 (.t 15)),⟨(some 12),none,.alloc [(.v (.bool false)),.emp,(.v (.int .i64 0))]⟩,⟨none,none,.store 3 (.t 12) (.t 20)⟩,cm 13 21]) ij):=rfl
theorem U5 {d:Rd} (ok:Ok0 d) {p:Int} {n:Nat} (hn:n≤100000):∀ (k i:Nat),i+k=n→∀ (r:Rd × Int),Ok0 r.1→∀ (s:ae) (h:ac),s 1=I n→s 2=I p→s 4=.fn F.round_MulUp [] []→s 5=.ref 5 none 0 0 0→s 10=.ref 10 none 0 0 0→s 12=.ref 12 none 0 0 0→s 13=I r.2→s 14=I i →
  h 5=.bx (am d)→h 10=.bx [.v (.bool false),.emp,.v (.int .i64 0)]→h 12=.bx (am r.1) →
  ∃ hh,ap 0 [10,12,13] (aq (ak R (aG false) aL) [1,2,4,5,10,12,13,14] [5,10,12] s h)=some (.normal,⟨upd (upd (upd (fun _=>.any) 13 (I (iP d p true k r).2)) 12 (.ref 12 none 0 0 0)) 10 (.ref 10 none 0 0 0),hh⟩)∧hh 10=.bx [.v (.bool false),.emp,.v (.int .i64 0)]∧hh 12=.bx (am (iP d p true k r).1):=by
 intro k;induction k with
 | zero =>
  intro i hi r hr s h h1 h2 h4 h5 h10 h12 h13 h14 k5 k10 k12;have e1:((i:Int) < n)=False:=ff (by omega);rw [ai];refine ⟨?hh0,?_,?_,?_⟩;rotate_left
  ·simp only [aL,iP,go_sem,am7,h1,h2,h4,h5,h10,h12,h13,h14,k5,k10,k12,e1];rfl
  ·rfl
  ·rfl
 | succ k ih =>
  intro i hi r hr s h h1 h2 h4 h5 h10 h12 h13 h14 k5 k10 k12;have e1:((i:Int) < n)=True:=tt (by omega);have e5:IntKind.i64.wrap ((i:Int)+1)=((i+1:Nat):Int):=wi (by omega) (by omega);obtain ⟨r1,r2⟩:=r;have hm:=Kp hr ok (p:=p);have okm:=tK (a:=r1) (b:=d) (p:=p) (up:=true);have ih':=ih (i+1) (by omega);unfold iP;generalize fl r1 d p true=q at hm okm ⊢;obtain ⟨q1,q2⟩:=q;simp only [rV,ag,am] at hm k5 k12;rw [ai];by_cases hr:r2=0
  ·have er:(r2=0)=True:=tt hr;simp only [aL,am,go_sem,am4,am3,am5,am7,h1,h2,h4,h5,h10,h12,h13,h14,k5,k10,k12,e1,er,hm,e5];exact ih' (q1,q2) okm _ _ rfl rfl rfl rfl rfl rfl rfl rfl rfl rfl rfl
  ·have er:(r2=0)=False:=ff hr;rw [if_neg hr];refine ⟨?hh1,?_,?_,?_⟩;rotate_left
   ·simp only [aL,go_sem,am7,h1,h2,h4,h5,h10,h12,h13,h14,k5,k10,k12,e1,er];rfl
   ·rfl
   ·rfl
theorem U6 {d:Rd} (ok:Ok0 d) {p:Int} {n:Nat} (hn:n≤100000) {r:Rd × Int} (hr:Ok0 r.1) (s:ae) (h:ac) (h1:s 1=I n) (h2:s 2=I p) (h4:s 4=.fn F.round_MulUp [] []) (h5:s 5=.ref 5 none 0 0 0) (h10:s 10=.ref 10 none 0 0 0) (h12:s 12=.ref 12 none 0 0 0) (h13:s 13=I r.2)
  (k5:h 5=.bx (am d)) (k10:h 10=.bx [.v (.bool false),.emp,.v (.int .i64 0)]) (k12:h 12=.bx (am r.1)) :
  gx false [[.o 0 [],.o 2 [],.o 0 []],[]] [.cell 10 3 true,.t 11] 0 (ak R (aG false) ij s h)=some (rV (iP d p true (n - 1) r),[]):=by
 have hl:∀ (s:ae) (h:ac),s 1=I n→s 2=I p→s 4=.fn F.round_MulUp [] []→s 5=.ref 5 none 0 0 0→s 10=.ref 10 none 0 0 0→s 12=.ref 12 none 0 0 0→s 13=I r.2→s 14=I 1 →
  h 5=.bx (am d)→h 10=.bx [.v (.bool false),.emp,.v (.int .i64 0)]→h 12=.bx (am r.1) →
  ∃ hh,ap 0 [10,12,13] (aq (ak R (aG false) aL) [1,2,4,5,10,12,13,14] [5,10,12] s h)=some (.normal,⟨upd (upd (upd (fun _=>.any) 13 (I (iP d p true (n - 1) r).2)) 12 (.ref 12 none 0 0 0)) 10 (.ref 10 none 0 0 0),hh⟩)∧hh 10=.bx [.v (.bool false),.emp,.v (.int .i64 0)]∧hh 12=.bx (am (iP d p true (n - 1) r).1):=by
  by_cases h0:n=0
  ·intro s h a1 a2 a4 a5 a10 a12 a13 a14 b5 b10 b12;have e1:((1:Int) < (n:Nat))=False:=ff (by omega);subst h0;rw [ai];refine ⟨?hh0,?_,?_,?_⟩;rotate_left
   ·simp only [aL,iP,go_sem,anc,am7,a1,a2,a4,a5,a10,a12,a13,a14,b5,b10,b12,e1];rfl
   ·rfl
   ·rfl
  ·have:=U5 ok (p:=p) hn (n - 1) 1 (by omega) r hr
   simp_all
 generalize iP d p true (n - 1) r=q at hl ⊢;obtain ⟨r1,r2⟩:=r;obtain ⟨q1,q2⟩:=q;have hP:∀ (s:ae) (h:ac),s 1=I n→s 2=I p→s 4=.fn F.round_MulUp [] []→s 5=.ref 5 none 0 0 0→s 10=.ref 10 none 0 0 0→s 12=.ref 12 none 0 0 0→s 13=I r2→s 14=I 1 →
  h 5=.bx (am d)→h 10=.bx [.v (.bool false),.emp,.v (.int .i64 0)]→h 12=.bx (am r1) →
  gx false [[.o 0 [],.o 2 [],.o 0 []],[]] [.cell 10 3 true,.t 11] 0 (cj (ap 0 [10,12,13] (aq (ak R (aG false) aL) [1,2,4,5,10,12,13,14] [5,10,12] s h)) (ak R (aG false) (.seq (.ops [10,11] [⟨(some 39),none,.load 3 true (.t 12)⟩,cm 40 13,⟨none,none,.store 3 (.t 10) (.t 39)⟩,cm 11 40]) (.ret))))=some (rV (q1,q2),[]):=fun s h a1 a2 a4 a5 a10 a12 a13 a14 b5 b10 b12=>by
  obtain ⟨hh,g1,g2,g3⟩:=hl s h a1 a2 a4 a5 a10 a12 a13 a14 b5 b10 b12;rw [g1];simp only [rV,ag,am,g2,g3,go_sem,am4,am3,am5]
 generalize hLL:aq (ak R (aG false) aL) [1,2,4,5,10,12,13,14] [5,10,12]=L at hP;have hX:∀ s h,ak R (aG false) (.loop [1,2,4,5,10,12,13,14] [5,10,12] aL) s h=L s h:=fun s h=>by rw [← hLL]; rfl
 show gx _ _ _ _ (cj (cj (ak R (aG false) (.ops [1,2,4,5,10,12,13,14] [co 14 (.mv (.c (.v (.int .i64 1))))]) s h) fun s h=>ap 0 [10,12,13] (ak R (aG false) (.loop [1,2,4,5,10,12,13,14] [5,10,12] aL) s h)) _)=_;simp only [hX];simp only [go_sem,h1,h2,h4,h5,h10,h12,h13];exact hP _ _ rfl rfl rfl rfl rfl rfl rfl rfl k5 k10 k12
theorem Zw {d:Rd} (ok:Ok0 d) {p:Int} {n:Nat} (hn:n≤100000):R F.interval_power [ag d,I n,I p,.fn F.round_Up [] [],.fn F.round_MulUp [] []] []=some (rV (pw d n p true),[]):=by
 refine aE xx rfl ?_;have hr:=Zu ok (p:=p);have okr:=I4 (d:=d) (p:=p) (up:=true);have ht:=U6 ok (p:=p) hn okr;simp only [rV,ag,am] at hr;simp only [kZ,pJ,ag,am,go_sem,am4,am3,am5,hr];exact ht _ _ rfl rfl rfl rfl rfl rfl rfl rfl rfl rfl
theorem U7 {d:Rd} (ok:Ok0 d) {p:Int} {n:Nat} (hn:n≤100000):∀ (k i:Nat),i+k=n→∀ (r:Rd × Int),Ok0 r.1→∀ (s:ae) (h:ac),s 1=I n→s 2=I p→s 4=.fn F.round_MulDown [] []→s 5=.ref 5 none 0 0 0→s 10=.ref 10 none 0 0 0→s 12=.ref 12 none 0 0 0→s 13=I r.2→s 14=I i →
  h 5=.bx (am d)→h 10=.bx [.v (.bool false),.emp,.v (.int .i64 0)]→h 12=.bx (am r.1) →
  ∃ hh,ap 0 [10,12,13] (aq (ak R (aG false) aL) [1,2,4,5,10,12,13,14] [5,10,12] s h)=some (.normal,⟨upd (upd (upd (fun _=>.any) 13 (I (iP d p false k r).2)) 12 (.ref 12 none 0 0 0)) 10 (.ref 10 none 0 0 0),hh⟩)∧hh 10=.bx [.v (.bool false),.emp,.v (.int .i64 0)]∧hh 12=.bx (am (iP d p false k r).1):=by
 intro k;induction k with
 | zero =>
  intro i hi r hr s h h1 h2 h4 h5 h10 h12 h13 h14 k5 k10 k12;have e1:((i:Int) < n)=False:=ff (by omega);rw [ai];refine ⟨?hh0,?_,?_,?_⟩;rotate_left
  ·simp only [aL,iP,go_sem,am7,h1,h2,h4,h5,h10,h12,h13,h14,k5,k10,k12,e1];rfl
  ·rfl
  ·rfl
 | succ k ih =>
  intro i hi r hr s h h1 h2 h4 h5 h10 h12 h13 h14 k5 k10 k12;have e1:((i:Int) < n)=True:=tt (by omega);have e5:IntKind.i64.wrap ((i:Int)+1)=((i+1:Nat):Int):=wi (by omega) (by omega);obtain ⟨r1,r2⟩:=r;have hm:=EY hr ok (p:=p);have okm:=tK (a:=r1) (b:=d) (p:=p) (up:=false);have ih':=ih (i+1) (by omega);unfold iP;generalize fl r1 d p false=q at hm okm ⊢;obtain ⟨q1,q2⟩:=q;simp only [rV,ag,am] at hm k5 k12;rw [ai];by_cases hr:r2=0
  ·have er:(r2=0)=True:=tt hr;simp only [aL,am,go_sem,am4,am3,am5,am7,h1,h2,h4,h5,h10,h12,h13,h14,k5,k10,k12,e1,er,hm,e5];exact ih' (q1,q2) okm _ _ rfl rfl rfl rfl rfl rfl rfl rfl rfl rfl rfl
  ·have er:(r2=0)=False:=ff hr;rw [if_neg hr];refine ⟨?hh1,?_,?_,?_⟩;rotate_left
   ·simp only [aL,go_sem,am7,h1,h2,h4,h5,h10,h12,h13,h14,k5,k10,k12,e1,er];rfl
   ·rfl
   ·rfl
theorem U8 {d:Rd} (ok:Ok0 d) {p:Int} {n:Nat} (hn:n≤100000) {r:Rd × Int} (hr:Ok0 r.1) (s:ae) (h:ac) (h1:s 1=I n) (h2:s 2=I p) (h4:s 4=.fn F.round_MulDown [] []) (h5:s 5=.ref 5 none 0 0 0) (h10:s 10=.ref 10 none 0 0 0) (h12:s 12=.ref 12 none 0 0 0) (h13:s 13=I r.2)
  (k5:h 5=.bx (am d)) (k10:h 10=.bx [.v (.bool false),.emp,.v (.int .i64 0)]) (k12:h 12=.bx (am r.1)) :
  gx false [[.o 0 [],.o 2 [],.o 0 []],[]] [.cell 10 3 true,.t 11] 0 (ak R (aG false) ij s h)=some (rV (iP d p false (n - 1) r),[]):=by
 have hl:∀ (s:ae) (h:ac),s 1=I n→s 2=I p→s 4=.fn F.round_MulDown [] []→s 5=.ref 5 none 0 0 0→s 10=.ref 10 none 0 0 0→s 12=.ref 12 none 0 0 0→s 13=I r.2→s 14=I 1 →
  h 5=.bx (am d)→h 10=.bx [.v (.bool false),.emp,.v (.int .i64 0)]→h 12=.bx (am r.1) →
  ∃ hh,ap 0 [10,12,13] (aq (ak R (aG false) aL) [1,2,4,5,10,12,13,14] [5,10,12] s h)=some (.normal,⟨upd (upd (upd (fun _=>.any) 13 (I (iP d p false (n - 1) r).2)) 12 (.ref 12 none 0 0 0)) 10 (.ref 10 none 0 0 0),hh⟩)∧hh 10=.bx [.v (.bool false),.emp,.v (.int .i64 0)]∧hh 12=.bx (am (iP d p false (n - 1) r).1):=by
  by_cases h0:n=0
  ·intro s h a1 a2 a4 a5 a10 a12 a13 a14 b5 b10 b12;have e1:((1:Int) < (n:Nat))=False:=ff (by omega);subst h0;rw [ai];refine ⟨?hh0,?_,?_,?_⟩;rotate_left
   ·simp only [aL,iP,go_sem,anc,am7,a1,a2,a4,a5,a10,a12,a13,a14,b5,b10,b12,e1];rfl
   ·rfl
   ·rfl
  ·have:=U7 ok (p:=p) hn (n - 1) 1 (by omega) r hr
   simp_all
 generalize iP d p false (n - 1) r=q at hl ⊢;obtain ⟨r1,r2⟩:=r;obtain ⟨q1,q2⟩:=q;have hP:∀ (s:ae) (h:ac),s 1=I n→s 2=I p→s 4=.fn F.round_MulDown [] []→s 5=.ref 5 none 0 0 0→s 10=.ref 10 none 0 0 0→s 12=.ref 12 none 0 0 0→s 13=I r2→s 14=I 1 →
  h 5=.bx (am d)→h 10=.bx [.v (.bool false),.emp,.v (.int .i64 0)]→h 12=.bx (am r1) →
  gx false [[.o 0 [],.o 2 [],.o 0 []],[]] [.cell 10 3 true,.t 11] 0 (cj (ap 0 [10,12,13] (aq (ak R (aG false) aL) [1,2,4,5,10,12,13,14] [5,10,12] s h)) (ak R (aG false) (.seq (.ops [10,11] [⟨(some 39),none,.load 3 true (.t 12)⟩,cm 40 13,⟨none,none,.store 3 (.t 10) (.t 39)⟩,cm 11 40]) (.ret))))=some (rV (q1,q2),[]):=fun s h a1 a2 a4 a5 a10 a12 a13 a14 b5 b10 b12=>by
  obtain ⟨hh,g1,g2,g3⟩:=hl s h a1 a2 a4 a5 a10 a12 a13 a14 b5 b10 b12;rw [g1];simp only [rV,ag,am,g2,g3,go_sem,am4,am3,am5]
 generalize hLL:aq (ak R (aG false) aL) [1,2,4,5,10,12,13,14] [5,10,12]=L at hP;have hX:∀ s h,ak R (aG false) (.loop [1,2,4,5,10,12,13,14] [5,10,12] aL) s h=L s h:=fun s h=>by rw [← hLL]; rfl
 show gx _ _ _ _ (cj (cj (ak R (aG false) (.ops [1,2,4,5,10,12,13,14] [co 14 (.mv (.c (.v (.int .i64 1))))]) s h) fun s h=>ap 0 [10,12,13] (ak R (aG false) (.loop [1,2,4,5,10,12,13,14] [5,10,12] aL) s h)) _)=_;simp only [hX];simp only [go_sem,h1,h2,h4,h5,h10,h12,h13];exact hP _ _ rfl rfl rfl rfl rfl rfl rfl rfl k5 k10 k12
theorem Zx {d:Rd} (ok:Ok0 d) {p:Int} {n:Nat} (hn:n≤100000):R F.interval_power [ag d,I n,I p,.fn F.round_Down [] [],.fn F.round_MulDown [] []] []=some (rV (pw d n p false),[]):=by
 refine aE xx rfl ?_;have hr:=U2 ok (p:=p);have okr:=I4 (d:=d) (p:=p) (up:=false);have ht:=U8 ok (p:=p) hn okr;simp only [rV,ag,am] at hr;simp only [kZ,pJ,ag,am,go_sem,am4,am3,am5,hr];exact ht _ _ rfl rfl rfl rfl rfl rfl rfl rfl rfl rfl
def sS (d:Rd):Int:=if vd d=false∨d.m.length=0 then 0 else if d.neg=true then -1 else 1
theorem ri {d:Rd} (ok:Ok0 d):Ok0 (dw d):=by
 unfold dw;split
 ·exact bm.2
 ·exact ⟨ok.1,ok.2⟩
theorem abq {d:Rd} (h:sS d < 0):¬ sS (dw d) < 0:=by
 unfold sS at h;split at h
 ·omega
 ·split at h
  ·unfold sS dw;grind
  omega
def oQ (d:Rd) (n:Nat) (p:Int) (up:Bool):Rd × Int:=if sS d < 0 then (dw (pw (dw d) n p (!up)).1,(pw (dw d) n p (!up)).2) else pw d n p up
theorem QC {d:Rd} (ok:Ok0 d) (hs:¬ sS d < 0) {p:Int} {n:Nat} (hn:n≤100000) {up:Bool}:R F.interval_end [ag d,I n,I p,B up] []=some (rV (pw d n p up),[]):=by
 refine aE zS rfl ?_;have h1:=IM ok;rw [show (if vd d=false∨d.m.length=0 then (0:Int) else if d.neg=true then -1 else 1)=sS d from rfl] at h1;have e1:(sS d < 0)=False:=ff hs;cases up with
 | true =>
  have h2:=Zw ok (p:=p) hn;simp only [rV,ag,am] at h1 h2;simp only [kl,pq,rV,ag,am,go_sem,am4,am3,am5,h1,e1,h2]
 | false =>
  have h2:=Zx ok (p:=p) hn;simp only [rV,ag,am] at h1 h2;simp only [kl,pq,rV,ag,am,go_sem,am4,am3,am5,h1,e1,h2]
theorem Hb {d:Rd} (ok:Ok0 d) {p:Int} {n:Nat} (hn:n≤100000) {up:Bool}:R F.interval_end [ag d,I n,I p,B up] []=some (rV (oQ d n p up),[]):=by
 unfold oQ;by_cases hs:sS d < 0
 ·refine aE zS rfl ?_;have h1:=IM ok;rw [show (if vd d=false∨d.m.length=0 then (0:Int) else if d.neg=true then -1 else 1)=sS d from rfl] at h1;have e1:(sS d < 0)=True:=tt hs;have h2:=CQ ok;rw [show (if vd d=false∨d.m.length=0 then aP else (⟨!d.neg,d.m,d.e⟩:Rd))=dw d from rfl] at h2;have h3:=QC (ri ok) (abq hs) (p:=p) hn (up:=!up);have okq:=S8 (d:=dw d) (n:=n) (p:=p) (up:=!up);generalize dw d=nd at h2 h3 okq ⊢;generalize pw nd n p (!up)=q at h3 okq ⊢;obtain ⟨q1,q2⟩:=q;have h4:=CQ (d:=q1) okq;rw [show (if vd q1=false∨q1.m.length=0 then aP else (⟨!q1.neg,q1.m,q1.e⟩:Rd))=dw q1 from rfl] at h4;simp only [rV,ag,am] at h1 h2 h3 h4;simp only [kl,pq,rV,ag,am,go_sem,am4,am3,am5,h1,e1,h2,h3,h4]
 simp_all [if_neg,QC]
def one:Rd:=⟨false,[1],0⟩
theorem Ny:R F.dyadic_Int [I 1] []=some (ag one,[]):=by
 grind [UW,I64,bG,one,kG,zQ,ao,mZ,ef]
theorem kv:vd one=true∧Ok0 one:=⟨by decide,⟨fun x hx=>by rw [List.mem_singleton.1 hx]; decide,by decide⟩⟩
def vD (x:Ri) (n:Nat) (p:Int):Ri:=if (kI x && di p && decide (n≤16))=true then (if n=0 then ⟨one,one,false⟩ else
 nS (oQ (if n % 2=0 then vC x else x).lo n p false) (oQ (if n % 2=0 then vC x else x).hi n p true)) else cQ
theorem Nz {a b:Rd} (oa:Ok0 a) (ob:Ok0 b):Ok0 (fM a b):=by
 grind [fM]
theorem NA {a b:Rd} (oa:Ok0 a) (ob:Ok0 b):Ok0 (fN a b):=by
 grind [fN]
theorem QD {x:Ri} (ok:OkI x):OkI (vC x):=by
 unfold vC;split
 ·refine ⟨?_,NA (rh ok.lo) (rh ok.hi)⟩;unfold xJ;split
  ·exact bm.2
  ·exact Nz (rh ok.lo) (rh ok.hi)
 ·exact ⟨bm.2,bm.2⟩
theorem QF {d:Rd} (ok:Ok0 d) {n:Nat} {p:Int} {up:Bool}:Ok0 (oQ d n p up).1:=by
 grind [oQ,ri,S8]
theorem CU {x:Ri} (ok:OkI x) {p:Int} {n:Nat} (hn:n≤100000):R F.interval_Power [ax x,I n,I p] []=some (ax (vD x n p),[]):=by
 refine aE Fy rfl ?_;have hk:=rg ok;have hp:=sA (p:=p);have hw:=kH;have n0:((n:Int) < 0)=False:=ff (by omega);unfold vD;simp only [ax,aA] at hw;cases h1:kI x with
 | false =>
  rw [h1] at hk;simp only [dG,fB,ax,aA,go_sem,am4,am3,am5,am6,hk,hw]
 | true =>
  rw [h1] at hk;cases h2:di p with
  | false =>
   rw [h2] at hp;simp only [dG,fB,ax,aA,go_sem,am4,am3,am5,am6,hk,hp,hw]
  | true =>
   rw [h2] at hp;rw [Bool.true_and,Bool.true_and];by_cases h3:n≤16
   ·have e3:(16 < (n:Int))=False:=ff (by omega);rw [if_pos (decide_eq_true h3)];by_cases h4:n=0
    ·have e4:((n:Int)=0)=True:=tt (by omega);rw [if_pos h4];have g1:=Ny;have g2:=jC kv.2 kv.1;simp only [one,ax,aA,ag,am] at g1 g2;simp only [dG,fB,one,ax,aA,go_sem,am4,am3,am5,am6,hk,hp,n0,e3,e4,g1,g2]
    ·have e4:((n:Int)=0)=False:=ff (by omega);rw [if_neg h4];by_cases h5:n % 2=0
     ·have e5:((n:Int).tmod 2=0)=True:=tt (by grind);rw [if_pos h5];have ha:=Zv ok;have oa:=QD ok;generalize vC x=y at ha oa ⊢;have g1:=Hb oa.lo hn (p:=p) (up:=false);have g2:=Hb oa.hi hn (p:=p) (up:=true);generalize oQ y.lo n p false=r at g1 ⊢;generalize oQ y.hi n p true=q at g2 ⊢;obtain ⟨r1,r2⟩:=r;obtain ⟨q1,q2⟩:=q;have hm:=IX (a:=r1) (b:=q1) (e:=r2) (f:=q2);simp only [ax,aA,ag,am,rV] at ha g1 g2 hm;simp only [dG,fB,ax,aA,go_sem,am4,am3,am5,am6,anb,hk,hp,n0,e3,e4,e5,ha,g1,g2,hm]
     ·have e5:((n:Int).tmod 2=0)=False:=ff (by grind);rw [if_neg h5];have g1:=Hb ok.lo hn (p:=p) (up:=false);have g2:=Hb ok.hi hn (p:=p) (up:=true);generalize oQ x.lo n p false=r at g1 ⊢;generalize oQ x.hi n p true=q at g2 ⊢;obtain ⟨r1,r2⟩:=r;obtain ⟨q1,q2⟩:=q;have hm:=IX (a:=r1) (b:=q1) (e:=r2) (f:=q2);simp only [ax,aA,ag,am,rV] at g1 g2 hm;simp only [dG,fB,ax,aA,go_sem,am4,am3,am5,am6,anb,hk,hp,n0,e3,e4,e5,g1,g2,hm]
   ·have e3:(16 < (n:Int))=True:=tt (by omega);rw [if_neg (fun h=>h3 (of_decide_eq_true h))];simp only [dG,fB,ax,aA,go_sem,am4,am3,am5,am6,hk,hp,n0,e3,hw]
def A4 (x:Ri) (e:Nat) (p:Int):Ri:=if e≤16 then vD x e p else nv (vD x 16 p) (vD x (e - 16) p) p
theorem NB {r s:Rd × Int} (h1:Ok0 r.1) (h2:Ok0 s.1):OkI (nS r s):=by
 unfold nS;split
 ·exact ⟨h1,h2⟩
 ·exact ⟨bm.2,bm.2⟩
theorem I5 {x:Ri} (ok:OkI x) {n:Nat} {p:Int}:OkI (vD x n p):=by
 unfold vD;have h:OkI (if n % 2=0 then vC x else x):=by
  grind [QD]
 split
 ·split
  ·exact ⟨kv.2,kv.2⟩
  ·exact NB (QF h.1) (QF h.2)
 ·exact ⟨bm.2,bm.2⟩
theorem Zy {x:Ri} (ok:OkI x) {p:Int} {e:Nat} (hn:e≤100000):R F.bound_power [ax x,I e,I p] []=some (ax (A4 x e p),[]):=by
 refine aE K2 rfl ?_;unfold A4;by_cases h1:e≤16
 ·have e1:((e:Int)≤16)=True:=tt (by omega);rw [if_pos h1];have h2:=CU ok hn (p:=p);simp only [ax,aA] at h2;simp only [pg,uY,ax,aA,go_sem,am4,am3,am5,e1,h2]
 ·have e1:((e:Int)≤16)=False:=ff (by omega);rw [if_neg h1];have h2:=CU ok (show 16≤100000 by decide) (p:=p);have h3:=CU ok (show e - 16≤100000 by omega) (p:=p);have o2:=I5 ok (n:=16) (p:=p);have o3:=I5 ok (n:=e - 16) (p:=p);have w1:IntKind.i64.wrap ((e:Int) - 16)=((e - 16:Nat):Int):=wi (by omega) (by omega);have h4:=I3 o2 o3 (p:=p);simp only [ax,aA,Int.cast_ofNat_Int] at h2 h3 h4;simp only [pg,uY,ax,aA,go_sem,am4,am3,am5,am6,am7,e1,h2,h3,h4,w1]
def bw (l:List Int):List (List AV):=l.map fun (n:Int)=>[I n]
@[go_sem] theorem Zz (l:List Int):(bw l).length=l.length:=by simp [bw]
theorem lM {l:List Int} {i:Int} {n:Nat} {d:Int} (hi:i=n) (h:l[n]?=some d):aZ (bw l) i=some (.ipt [I d]):=by
 grind [aZ,bw]
theorem NC {x:Int}:R F.cmp_isNaN_int_ [I x] []=some (B false,[]):=by
 refine aE FE rfl ?_;simp only [pS,xk,go_sem]
theorem U9 {x y:Int}:R F.cmp_Compare_int_ [I x,I y] []=some (I (bI x y),[]):=by
 refine aE CK rfl ?_;have h1:=NC (x:=x);have h2:=NC (x:=y);unfold bI;by_cases e1:x < y
 ·have f1:(x < y)=True:=tt e1;simp only [gF,kn,go_sem,am4,am3,h1,h2,f1]
 ·have f1:(x < y)=False:=ff e1;by_cases e2:y < x
  ·have f2:(y < x)=True:=tt e2;simp only [gF,kn,go_sem,am4,am3,h1,h2,f1,f2]
  ·have f2:(y < x)=False:=ff e2;simp only [gF,kn,go_sem,am4,am3,h1,h2,f1,f2]
def iE:List Int→List Int→Int
 | [],[]=>0
 | [],_::_=>-1
 | _::_,[]=>1
 | x::xs,y::ys=>if bI x y=0 then iE xs ys else bI x y
theorem Xs {a b:List Int} (hl:a.length=b.length) (h2:a.length≤100000):∀ (k i:Nat),i+k=a.length→∀ (s:ae) (h:ac),s 0=.sl 1 (bw a)→s 1=.sl 1 (bw b)→s 9=.sl 1 (bw a)→s 10=I a.length→s 11=I i →
  ∃ hh,ap 0 [0,1] (aq (ak R (aG false) db) [0,1,9,10,11] [] s h)=if iE (a.drop i) (b.drop i)=0 then some (.normal,⟨upd (upd (fun _=>.any) 1 (.sl 1 (bw b))) 0 (.sl 1 (bw a)),fun _=>.dead⟩) else some (.ret,⟨upd (fun _=>.any) 4 (I (iE (a.drop i) (b.drop i))),hh⟩):=by
 intro k;induction k with
 | zero =>
  intro i hi s h h0 h1 h9 h10 h11;have e1:((i:Int) < a.length)=False:=ff (by omega);rw [List.drop_eq_nil_of_le (by omega),List.drop_eq_nil_of_le (by omega),ai];refine ⟨fun _=>.dead,?_⟩;show _=if (0:Int)=0 then _ else _
  simp only [db,go_sem,h0,h1,h9,h10,h11,e1]
 | succ k ih =>
  intro i hi s h h0 h1 h9 h10 h11;have hlt:i < a.length:=by omega
  have hlt2:i < b.length:=by omega
  have e1:((i:Int) < a.length)=True:=tt (by omega);have e4:((b.length:Int)≤(i:Int))=False:=ff (by omega);have e2:aZ (bw a) (i:Int)=some (.ipt [I a[i]]):=lM rfl (List.getElem?_eq_getElem hlt);have e3:aZ (bw b) (i:Int)=some (.ipt [I b[i]]):=lM rfl (List.getElem?_eq_getElem hlt2);have e5:IntKind.i64.wrap ((i:Int)+1)=((i+1:Nat):Int):=wi (by omega) (by omega);rw [List.drop_eq_getElem_cons hlt,List.drop_eq_getElem_cons hlt2,ai];have ih':=ih (i+1) (by omega);have hc:=U9 (x:=a[i]) (y:=b[i]);generalize a[i]=x at e2 hc ⊢;generalize b[i]=y at e3 hc ⊢;unfold iE;by_cases hz:bI x y=0
  ·have e6:(bI x y=0)=True:=tt hz;simp only [db,go_sem,am4,am3,h0,h1,h9,h10,h11,e1,e2,e3,e4,e5,hc,e6];exact ih' _ _ rfl rfl rfl rfl rfl
  ·have e6:(bI x y=0)=False:=ff hz;refine ⟨?hh,?_⟩;rotate_left;simp only [db,go_sem,am4,am3,h0,h1,h9,h10,h11,e1,e2,e3,e4,hc,e6];rfl
theorem S9 {a b:List Int} (hl:a.length=b.length) (h2:a.length≤100000):R F.slices_Compare_int_int_ [.sl 1 (bw a),.sl 1 (bw b)] []=some (I (iE a b),[]):=by
 refine aE wj rfl ?_;have h3:=Xs hl h2 a.length 0 (Nat.zero_add _);simp only [List.drop_zero,Int.natCast_zero] at h3;by_cases hz:iE a b=0
 ·simp only [if_pos hz] at h3;have e1:((a.length:Int) < b.length)=False:=ff (by omega);simp only [fq,iX,go_sem];rw [(h3 _ _ rfl rfl rfl rfl rfl).choose_spec,hz];simp only [go_sem,e1]
 ·simp only [if_neg hz] at h3;simp only [fq,iX,go_sem];rw [(h3 _ _ rfl rfl rfl rfl rfl).choose_spec];simp only [go_sem]
def bH:List Int→Int
 | []=>0
 | x::l=>x+bH l
def sm (l:List Int):Prop:=l.length≤1000∧∀ x ∈ l,0≤x∧x≤32
theorem FQ {l:List Int} {i:Nat} (h:i < l.length):bH (l.take (i+1))=bH (l.take i)+l[i]:=by
 induction l generalizing i with
 | nil=>grind
 | cons a l ih =>
  cases i with
  | zero=>simp [bH]
  | succ i =>
   have:=ih (i:=i) (by simpa using h);simp only [List.take_succ_cons,bH,List.getElem_cons_succ];omega
theorem ND {l:List Int} (h:∀ x ∈ l,0≤x∧x≤32):0≤bH l∧bH l≤32*l.length:=by
 induction l with
 | nil=>exact ⟨Int.le_refl _,Int.le_refl _⟩
 | cons a l ih =>
  have h1:=h a (List.mem_cons_self ..);have h2:=ih (fun x hx=>h x (List.mem_cons_of_mem _ hx));grind [bH,List.length_cons]
theorem Xt {a:List Int} (h2:sm a):∀ (k i:Nat),i+k=a.length→∀ (s:ae) (h:ac),s 3=I (bH (a.take i))→s 6=.sl 1 (bw a)→s 7=I a.length→s 8=I i →
  ap 0 [3] (aq (ak R (aG false) mj) [3,6,7,8] [] s h)=some (.normal,⟨upd (fun _=>.any) 3 (I (bH a)),fun _=>.dead⟩):=by
 intro k;induction k with
 | zero =>
  intro i hi s h h3 h6 h7 h8;have e1:((i:Int) < a.length)=False:=ff (by omega);rw [List.take_of_length_le (by omega)] at h3;rw [ai];simp only [mj,go_sem,h3,h6,h7,h8,e1]
 | succ k ih =>
  intro i hi s h h3 h6 h7 h8;have hlt:i < a.length:=by omega
  obtain ⟨g1,g2⟩:=h2;have e1:((i:Int) < a.length)=True:=tt (by omega);have e2:aZ (bw a) (i:Int)=some (.ipt [I a[i]]):=lM rfl (List.getElem?_eq_getElem hlt);have e5:IntKind.i64.wrap ((i:Int)+1)=((i+1:Nat):Int):=wi (by omega) (by omega);have b1:=ND (l:=a.take i) (fun x hx=>g2 x (List.mem_of_mem_take hx));have b2:=g2 a[i] (List.getElem_mem hlt);have e6:IntKind.i64.wrap (bH (a.take i)+a[i])=bH (a.take (i+1)):=by
   grind [FQ,i64_in]
  have ih':=ih (i+1) (by omega);rw [ai];simp only [mj,go_sem,h3,h6,h7,h8,e1,e2,e5,e6];exact ih' _ _ rfl rfl rfl rfl
theorem uJ {a:List Int} (h2:sm a):R F.poly_degree [.sl 1 (bw a)] []=some (I (bH a),[]):=by
 refine aE K8 rfl ?_;have h3:=Xt h2 a.length 0 (Nat.zero_add _);simp only [tj,Bz,go_sem];rw [h3 _ _ rfl rfl rfl rfl];simp only [go_sem]
def dx (a b:List Int):Int:=if bI (bH a) (bH b)=0 then iE b a else bI (bH a) (bH b)
theorem Xu {a b:List Int} (ha:sm a) (hb:sm b) (hl:a.length=b.length):R F.poly_order [.sl 1 (bw a),.sl 1 (bw b)] []=some (I (dx a b),[]):=by
 refine aE M4 rfl ?_;have d1:=uJ ha;have d2:=uJ hb;have d3:=U9 (x:=bH a) (y:=bH b);have d4:=S9 hl.symm (by have:=hb.1; omega);unfold dx;by_cases hz:bI (bH a) (bH b)=0
 ·have e6:(bI (bH a) (bH b)=0)=True:=tt hz;simp only [qA,xd,go_sem,am4,am3,d1,d2,d3,d4,e6]
 ·have e6:(bI (bH a) (bH b)=0)=False:=ff hz;simp only [qA,xd,go_sem,am4,am3,d1,d2,d3,e6]
structure Rt where
 exps:List Int
 c:Rd
structure Rp where
 vars:Int
 terms:List Rt
def en (t:Rt):List AV:=[.sl 1 (bw t.exps),B t.c.neg,lm t.c.m,I t.c.e]
def df (l:List Rt):List (List AV):=l.map en
def bL (a:Rp):AV:=.agg [I a.vars,.sl 4 (df a.terms)]
@[go_sem] theorem QG (l:List Rt):(df l).length=l.length:=by simp [df]
theorem pE {l:List Rt} {i:Int} {n:Nat} {d:Rt} (hi:i=n) (h:l[n]?=some d):aZ (df l) i=some (.ipt (en d)):=by
 grind [aZ,df]
theorem uK {α:Type} {f:α→α} {l:List α} (h:∀ x ∈ l,f x=x):l.map f=l:=(List.map_congr_left (g:=fun c=>c) h).trans (List.map_id' _)
@[go_sem] theorem akL (l:List Rt):(df l).map (cX [.o 2 [],.o 0 [],.o 2 [],.o 0 []])=df l:=by
 refine uK fun x hx=>?_;simp only [df,List.mem_map] at hx;obtain ⟨t,ht,rfl⟩:=hx;simp only [en,go_sem]
structure OkT (t:Rt):Prop where
 c:Ok0 t.c
 len:t.exps.length≤100000
structure OkP (a:Rp):Prop where
 t:∀ t ∈ a.terms,OkT t
def sC (e:Int):Bool:=decide (e < 0) || decide (32 < e)
theorem abr {e:Int}:R F.poly_Valid_1 [I e] []=some (B (sC e),[]):=by
 refine aE zR rfl ?_;unfold sC;by_cases h:e < 0
 ·have e1:(e < 0)=True:=tt h;simp only [nJ,th,go_sem,e1,decide_true,Bool.true_or]
 ·have e1:(e < 0)=False:=ff h;simp only [nJ,th,go_sem,e1,decide_false,Bool.false_or]
theorem Xv {l:List Int} (h2:l.length≤100000):R F.slices_ContainsFunc_int_int_ [.sl 1 (bw l),.fn F.poly_Valid_1 [] []] []=some (B (l.any sC),[]):=by
 let p:List AV→Bool:=fun row=>match row with | [.v (.int _ e)]=>sC e | _=>false
 have h1:=CN (k:=1) (g:=false) (f:=F.poly_Valid_1) (rows:=bw l) (p:=p) dk.2.1 dk.2.2 (dk.1.2.2.2 false) rfl (zR.1.2.1 false) (by grind [Zz]) (fun row hr=>by
  simp only [bw,List.mem_map] at hr;obtain ⟨e,he,rfl⟩:=hr;refine ⟨I e,rfl,rfl,?_⟩;simp only [go_sem,abr,p])
 have h2:=zT (k:=1) ge.2.1 ge.2.2 (ge.1.2.2.2 false) rfl (dk.1.2.1 false) (dk.1.1 false) (by simp only [go_sem]) h1;grind [bw,sC,List.any_map]
def BL (v:Int) (t:Rt):Bool:=decide ((t.exps.length:Int)=v) && (vd t.c && (decide (t.c.m.length ≠ 0) && (!(t.exps.any sC) && decide (bH t.exps≤32))))
def I6:Option Rt→Rt→Bool
 | none,_=>true
 | some q,t=>decide (dx q.exps t.exps < 0)
def uL (v:Int):Option Rt→List Rt→Bool
 | _,[]=>true
 | pr,t::l=>BL v t && (I6 pr t && uL v (some t) l)
theorem uM {v:Int} {t:Rt} (h:BL v t=true):(t.exps.length:Int)=v∧vd t.c=true∧t.c.m.length ≠ 0∧t.exps.any sC=false∧bH t.exps≤32:=by
 grind [BL]
theorem pF {l:List Int} (h:l.any sC=false):∀ x ∈ l,0≤x∧x≤32:=by
 simp_all [sC,Bool.or_eq_true,decide_eq_true_eq,not_or]
theorem ZA {a:Rp} (ok:OkP a) (hv:a.vars≤8) (h2:a.terms.length≤500):∀ (k i:Nat),i+k=a.terms.length→∀ (pr:Option Rt),(i=0→pr=none)→(0 < i→∃ q,pr=some q∧a.terms[i - 1]?=some q∧BL a.vars q=true) →
  ∀ (s:ae) (h:ac),s 1=.ref 1 none 0 0 0→s 20=.sl 4 (df a.terms)→s 21=I a.terms.length→s 22=I i→h 1=.bx [I a.vars,.sl 4 (df a.terms)] →
  ∃ hh,ap 0 [] (aq (ak R (aG false) PE) [1,20,21,22] [1] s h)=if uL a.vars pr (a.terms.drop i)=true then some (.normal,⟨fun _=>.any,hh⟩) else some (.ret,⟨upd (fun _=>.any) 2 (B false),hh⟩):=by
 intro k;induction k with
 | zero =>
  intro i hi pr p0 p1 s h h1 h20 h21 h22 k1;have e1:((i:Int) < a.terms.length)=False:=ff (by omega);rw [List.drop_eq_nil_of_le (by omega),ai];refine ⟨?hh0,?_⟩;rotate_left;show _=if true=true then _ else _
  rw [if_pos rfl];simp only [PE,go_sem,am7,h1,h20,h21,h22,k1,e1];rfl
 | succ k ih =>
  intro i hi pr p0 p1 s h h1 h20 h21 h22 k1;have hlt:i < a.terms.length:=by omega
  have e1:((i:Int) < a.terms.length)=True:=tt (by omega);have e2:aZ (df a.terms) (i:Int)=some (.ipt (en a.terms[i])):=pE rfl (List.getElem?_eq_getElem hlt);have e5:IntKind.i64.wrap ((i:Int)+1)=((i+1:Nat):Int):=wi (by omega) (by omega);have okt:=ok.t a.terms[i] (List.getElem_mem hlt);have hnext:a.terms[i+1 - 1]?=some a.terms[i]:=List.getElem?_eq_getElem hlt;rw [List.drop_eq_getElem_cons hlt,ai];have ih':=ih (i+1) (by omega) (some a.terms[i]) (fun h=>absurd h (Nat.succ_ne_zero _));generalize a.terms[i]=t at e2 okt ih' hnext ⊢;generalize aq _ _ _=L at ih' ⊢;have hvd:=gg okt.c;have hct:=Xv okt.len;simp only [en] at e2;simp only [ag,am] at hvd;unfold uL;cases hb:BL a.vars t with
  | false =>
   simp only [Bool.false_and,if_neg Bool.false_ne_true];unfold BL at hb;by_cases c1:(t.exps.length:Int)=a.vars
   ·have f1:((t.exps.length:Int)=a.vars)=True:=tt c1;rw [decide_eq_true c1,Bool.true_and] at hb;cases c2:vd t.c with
    | false =>
     rw [c2] at hvd;refine ⟨?hh2,?_⟩;rotate_left;simp only [PE,go_sem,am4,am3,am5,am7,h1,h20,h21,h22,k1,e1,e2,f1,hvd];rfl
    | true =>
     rw [c2] at hvd hb;rw [Bool.true_and] at hb;by_cases c3:t.c.m.length=0
     ·have f3:((t.c.m.length:Int)=0)=True:=tt (by omega);refine ⟨?hh3,?_⟩;rotate_left;simp only [PE,go_sem,am4,am3,am5,am7,h1,h20,h21,h22,k1,e1,e2,f1,hvd,f3];rfl
     ·have f3:((t.c.m.length:Int)=0)=False:=ff (by omega);rw [decide_eq_true c3,Bool.true_and] at hb;cases c4:t.exps.any sC with
      | true =>
       rw [c4] at hct;refine ⟨?hh4,?_⟩;rotate_left;simp only [PE,go_sem,am4,am3,am5,am7,h1,h20,h21,h22,k1,e1,e2,f1,hvd,f3,hct];rfl
      | false =>
       rw [c4] at hct hb;rw [Bool.not_false,Bool.true_and] at hb;have hdg:=uJ (a:=t.exps) ⟨by omega,pF c4⟩;have f5:(32 < bH t.exps)=True:=tt (by grind);refine ⟨?hh5,?_⟩;rotate_left;simp only [PE,go_sem,am4,am3,am5,am7,h1,h20,h21,h22,k1,e1,e2,f1,hvd,f3,hct,hdg,f5];rfl
   ·have f1:((t.exps.length:Int)=a.vars)=False:=ff c1;refine ⟨?hh1,?_⟩;rotate_left;simp only [PE,go_sem,am4,am3,am5,am7,h1,h20,h21,h22,k1,e1,e2,f1];rfl
  | true =>
   obtain ⟨c1,c2,c3,c4,c5⟩:=uM hb;have f1:((t.exps.length:Int)=a.vars)=True:=tt c1;rw [c2] at hvd;have f3:((t.c.m.length:Int)=0)=False:=ff (by omega);rw [c4] at hct;have hdg:=uJ (a:=t.exps) ⟨by omega,pF c4⟩;have f5:(32 < bH t.exps)=False:=ff (by omega);simp only [Bool.true_and];by_cases hi0:i=0
   ·have f6:(0 < (i:Int))=False:=ff (by omega);rw [p0 hi0];simp only [I6,Bool.true_and];simp only [PE,go_sem,am4,am3,am5,am7,h1,h20,h21,h22,k1,e1,e2,f1,hvd,f3,hct,hdg,f5,f6,e5];exact ih' (fun _=>⟨t,rfl,hnext,hb⟩) _ _ rfl rfl rfl rfl rfl
   ·have f6:(0 < (i:Int))=True:=tt (by omega);obtain ⟨q,q1,q2,q3⟩:=p1 (by omega);obtain ⟨d1,d2,d3,d4,d5⟩:=uM q3;rw [q1];have e7:IntKind.i64.wrap ((i:Int) - 1)=((i - 1:Nat):Int):=wi (by omega) (by omega);have e8:aZ (df a.terms) ((i - 1:Nat):Int)=some (.ipt (en q)):=pE rfl q2;simp only [en] at e8;have ho:=Xu (a:=q.exps) (b:=t.exps) ⟨by omega,pF d4⟩ ⟨by omega,pF c4⟩ (by omega);simp only [I6];by_cases c6:dx q.exps t.exps < 0
    ·have f7:(0≤dx q.exps t.exps)=False:=ff (by omega);simp only [decide_eq_true c6,Bool.true_and];simp only [PE,go_sem,am4,am3,am5,am6,am7,h1,h20,h21,h22,k1,e1,e2,f1,hvd,f3,hct,hdg,f5,f6,e5,e7,e8,ho,f7];exact ih' (fun _=>⟨t,rfl,hnext,hb⟩) _ _ rfl rfl rfl rfl rfl
    ·have f7:(0≤dx q.exps t.exps)=True:=tt (by omega);simp only [decide_eq_false c6,Bool.false_and,if_neg Bool.false_ne_true];refine ⟨?hh7,?_⟩;rotate_left;simp only [PE,go_sem,am4,am3,am5,am6,am7,h1,h20,h21,h22,k1,e1,e2,f1,hvd,f3,hct,hdg,f5,f6,e7,e8,ho,f7];rfl
def vp (a:Rp):Bool:=decide (0≤a.vars) && (decide (a.vars≤8) && (decide (a.terms.length≤500) && uL a.vars none a.terms))
theorem CV {a:Rp} (ok:OkP a):R F.poly_Valid [bL a] []=some (B (vp a),[]):=by
 refine aE MZ rfl ?_;unfold vp;by_cases c1:0≤a.vars
 ·have f1:(a.vars < 0)=False:=ff (by omega);rw [decide_eq_true c1,Bool.true_and];by_cases c2:a.vars≤8
  ·have f2:(8 < a.vars)=False:=ff (by omega);rw [decide_eq_true c2,Bool.true_and];by_cases c3:a.terms.length≤500
   ·have f3:(500 < (a.terms.length:Int))=False:=ff (by omega);rw [decide_eq_true c3,Bool.true_and];have h3:=ZA ok c2 c3 a.terms.length 0 (Nat.zero_add _) none (fun _=>rfl) (fun h=>absurd h (Nat.lt_irrefl _));simp only [List.drop_zero,Int.natCast_zero] at h3;cases hb:uL a.vars none a.terms with
    | true =>
     rw [hb] at h3;simp only [iv,lu,bL,go_sem,am4,am3,f1,f2,f3];rw [(h3 _ _ rfl rfl rfl rfl rfl).choose_spec];simp only [go_sem]
    | false =>
     rw [hb] at h3;simp only [iv,lu,bL,go_sem,am4,am3,f1,f2,f3];rw [(h3 _ _ rfl rfl rfl rfl rfl).choose_spec];simp only [go_sem]
   ·have f3:(500 < (a.terms.length:Int))=True:=tt (by omega);rw [decide_eq_false c3,Bool.false_and];simp only [iv,lu,bL,go_sem,am4,am3,f1,f2,f3]
  ·have f2:(8 < a.vars)=True:=tt (by omega);rw [decide_eq_false c2,Bool.false_and];simp only [iv,lu,bL,go_sem,am4,am3,f1,f2]
 ·have f1:(a.vars < 0)=True:=tt (by omega);rw [decide_eq_false c1,Bool.false_and];simp only [iv,lu,bL,go_sem,am4,am3,f1]
@[go_sem] theorem akM (l:List Ri):(bB l).map (cX [.o 0 [],.o 2 [],.o 0 [],.o 0 [],.o 2 [],.o 0 [],.o 0 []])=bB l:=by
 refine uK fun x hx=>?_;simp only [bB,List.mem_map] at hx;obtain ⟨t,ht,rfl⟩:=hx;simp only [aA,go_sem]
theorem Ta {x:Ri} (ok:OkI x):R F.bound_domain_1 [ax x] []=some (B (!kI x),[]):=by
 refine aE xw rfl ?_;have hv:=yx ok;simp only [ax,aA] at hv;unfold kI;cases h1:vi x with
 | false =>
  rw [h1] at hv;rw [Bool.and_false];simp only [kX,qL,ax,aA,go_sem,am4,am3,am5,hv,Bool.not_false]
 | true =>
  rw [h1] at hv;rw [Bool.and_true,Bool.not_not];simp only [kX,qL,ax,aA,go_sem,am4,am3,am5,hv]
theorem Xw {l:List Ri} (ok:∀ x ∈ l,OkI x) (h2:l.length≤100000):R F.slices_ContainsFunc_api_Interval_api_Interval_ [.sl 7 (bB l),.fn F.bound_domain_1 [] []] []=some (B (l.any fun x=>!kI x),[]):=by
 let p:List AV→Bool:=fun row=>match row with | [.v (.bool n1),.sl _ m1,.v (.int _ e1),.v (.bool n2),.sl _ m2,.v (.int _ e2),.v (.bool a)]=>!kI ⟨⟨n1,m1.map (fun r=>match r with | [.v (.int _ x)]=>x.toNat | _=>0),e1⟩,⟨n2,m2.map (fun r=>match r with | [.v (.int _ x)]=>x.toNat | _=>0),e2⟩,a⟩ | _=>false
 have hmm:∀ m:List Nat,(az m).map (fun r=>match r with | [.v (.int _ x)]=>x.toNat | _=>0)=m:=fun m=>by
  grind [az,List.map_map,List.map_congr_left,List.map_id']
 have hp:∀ x:Ri,p (aA x)=!kI x:=fun x=>by
  show (!kI ⟨⟨x.lo.neg,(az x.lo.m).map _,x.lo.e⟩,⟨x.hi.neg,(az x.hi.m).map _,x.hi.e⟩,x.all⟩)=_
  simp_all
 have h1:=CN (k:=7) (g:=true) (f:=F.bound_domain_1) (rows:=bB l) (p:=p) aJ.2.1 aJ.2.2 (aJ.1.2.2.2 false) rfl (xw.1.2.1 false) (by grind [IY]) (fun row hr=>by
  simp only [bB,List.mem_map] at hr;obtain ⟨x,hx,rfl⟩:=hr;have hd:=Ta (ok x hx);refine ⟨ax x,rfl,rfl,?_⟩;rw [hp];simp only [ax,aA] at hd;simp only [ax,aA,go_sem,hd])
 have h2:=zT (k:=7) bc.2.1 bc.2.2 (bc.1.2.2.2 false) rfl (aJ.1.2.1 false) (aJ.1.1 false) (by simp only [go_sem]) h1;have h3:(bB l).any p=l.any fun x=>!kI x:=by
  unfold bB;rw [List.any_map];congr 1;funext x;exact hp x
 grind
def kJ (a:Rp) (dom:List Ri):Bool:=vp a && (decide ((dom.length:Int)=a.vars) && !(dom.any fun x=>!kI x))
theorem Va {a:Rp} {dom:List Ri} (oa:OkP a) (od:∀ x ∈ dom,OkI x) (h2:dom.length≤100000):R F.bound_domain [bL a,.sl 7 (bB dom)] []=some (B (kJ a dom),[]):=by
 refine aE Ix rfl ?_;have hv:=CV oa;have hc:=Xw od h2;simp only [bL] at hv;unfold kJ;cases h1:vp a with
 | false =>
  rw [h1] at hv;simp only [kg,pj,bL,go_sem,am4,am3,am5,hv]
 | true =>
  rw [h1] at hv;by_cases h3:(dom.length:Int)=a.vars
  ·have e3:((dom.length:Int)=a.vars)=True:=tt h3;simp only [kg,pj,bL,go_sem,am4,am3,am5,hv,e3,hc]
  ·have e3:((dom.length:Int)=a.vars)=False:=ff h3;simp only [kg,pj,bL,go_sem,am4,am3,am5,hv,e3]
theorem DQ {a:Rp} {dom:List Ri} (oa:OkP a) (od:∀ x ∈ dom,OkI x) (h2:dom.length≤100000) {p:Int}:R F.bound_fits [bL a,.sl 7 (bB dom),I p] []=some (B (kJ a dom && di p),[]):=by
 refine aE MX rfl ?_;have hd:=Va oa od h2;simp only [bL] at hd;unfold di;cases h1:kJ a dom with
 | false =>
  rw [h1] at hd;simp only [mG,rP,bL,go_sem,am4,am3,am5,hd]
 | true =>
  rw [h1] at hd;by_cases h3:8≤p
  ·have e3:(8≤p)=True:=tt h3;simp only [mG,rP,bL,go_sem,am4,am3,am5,hd,e3,decide_true,Bool.true_and]
  ·have e3:(8≤p)=False:=ff h3;simp only [mG,rP,bL,go_sem,am4,am3,am5,hd,e3,decide_false,Bool.false_and]
theorem A5:R F.bound_whole [] []=some (ax cQ,[]):=by
 refine aE K1 rfl ?_;simp only [s7,Bu,ax,aA,cQ,aP,go_sem,am4,am3,am5]
def Hc (p:Int):List Ri→List Int→Ri→Ri
 | d::ds,e::es,x=>Hc p ds es (if 0 < e then nv x (A4 d e.toNat p) p else x)
 | _,_,x=>x
theorem abt {dn up:Rd→Rd→Rd × Int} {pr:Nat→Rd × Rd} (h1:∀ a b,Ok0 (dn a b).1) (h2:∀ a b,Ok0 (up a b).1):OkI (Ad (nT dn up pr)):=by
 have hN:∀ (k i:Nat) (o:Rd × Rd),Ok0 o.1→Ok0 o.2→OkI (Ad (sB dn up pr k i o)):=by
  intro k;induction k with
  | zero=>exact fun i o g1 g2=>⟨g1,g2⟩
  | succ k ih =>
   intro i o g1 g2;unfold sB;split
   ·grind
   ·exact ⟨bm.2,bm.2⟩
 unfold nT;split
 ·grind
 ·exact ⟨bm.2,bm.2⟩
theorem I7 {x y:Ri} {p:Int}:OkI (nv x y p):=by
 unfold nv;split
 ·grind [abt,tK]
 ·exact ⟨bm.2,bm.2⟩
theorem DR {a b:Rd} {p:Int} {up:Bool}:Ok0 (eM a b p up).1:=by
 unfold eM;split
 ·exact sz.2
 ·exact bm.2
theorem ZB {x y:Ri} {p:Int}:OkI (oP x y p):=by
 unfold oP;split
 ·grind [NB,DR]
 ·exact ⟨bm.2,bm.2⟩
theorem ZC {x:Ri} (ok:OkI x) {e:Nat} {p:Int}:OkI (A4 x e p):=by
 grind [A4,I5,I7]
theorem abu {p:Int}:∀ (ds:List Ri) (es:List Int) (x:Ri),OkI x→OkI (Hc p ds es x):=by
 intro ds;induction ds with
 | nil=>exact fun es x h=>by cases es <;> exact h
 | cons d ds ih =>
  intro es x h;cases es with
  | nil=>exact h
  | cons e es =>
   grind [Hc,I7]
theorem ad6 {dom:List Ri} (od:∀ x ∈ dom,OkI x) {es:List Int} (hl:dom.length=es.length) (h2:dom.length≤100000) (he:∀ e ∈ es,0≤e∧e≤32) {p:Int} {c3 c6 c7 c9:List AV} {rw':AV} {n j:Int}
  (q3:aM [3,6,7,9,10] (.bx c3)=true) (q6:aM [3,6,7,9,10] (.bx c6)=true) (q7:aM [3,6,7,9,10] (.bx c7)=true) (q9:aM [3,6,7,9,10] (.bx c9)=true) (qr:aaL [3,6,7,9,10] rw'=rw') :
  ∀ (k i:Nat),i+k=es.length→∀ (x:Ri),OkI x→∀ (s:ae) (h:ac),s 1=.sl 7 (bB dom)→s 2=I p→s 6=.ref 6 none 0 0 0→s 7=.ref 7 none 0 0 0→s 10=.ref 10 none 0 0 0→s 22=rw'→s 23=I n→s 24=I j→s 32=.sl 1 (bw es)→s 33=I es.length→s 34=I i →
  h 3=.bx c3→h 6=.bx c6→h 7=.bx c7→h 9=.bx c9→h 10=.bx (aA x) →
  ∃ hh,ap 2 [1,2,6,7,10,22,23,24] (aq (ak R (aG false) dW) [1,2,6,7,10,22,23,24,32,33,34] [3,6,7,9,10] s h)=some (.normal,⟨upd (upd (upd (upd (upd (upd (upd (upd (fun _=>.any) 24 (I j)) 23 (I n)) 22 rw') 10 (.ref 10 none 0 0 0)) 7 (.ref 7 none 0 0 0)) 6 (.ref 6 none 0 0 0)) 2 (I p)) 1 (.sl 7 (bB dom)),hh⟩) ∧
   hh 3=.bx c3∧hh 6=.bx c6∧hh 7=.bx c7∧hh 10=.bx (aA (Hc p (dom.drop i) (es.drop i) x))∧∀ a,a ≠ 3→a ≠ 6→a ≠ 7→a ≠ 9→a ≠ 10→hh a=.dead:=by
 intro k;induction k with
 | zero =>
  intro i hi x ox s h h1 h2' h6 h7 h10 h22 h23 h24 h32 h33 h34 k3 k6 k7 k9 k10;have e1:((i:Int) < es.length)=False:=ff (by omega);rw [List.drop_eq_nil_of_le (by omega),List.drop_eq_nil_of_le (by omega),ai];refine ⟨?hh0,?_,?_,?_,?_,?_,?_⟩;rotate_left
  ·simp only [dW,go_sem,am7,h1,h2',h6,h7,h10,h22,h23,h24,h32,h33,h34,k3,k6,k7,k9,k10,q3,q6,q7,q9,qr,e1];rfl
  ·rfl
  ·rfl
  ·rfl
  ·rfl
  simp_all [acj,if_false]
 | succ k ih =>
  intro i hi x ox s h h1 h2' h6 h7 h10 h22 h23 h24 h32 h33 h34 k3 k6 k7 k9 k10;have hlt:i < es.length:=by omega
  have hlt2:i < dom.length:=by omega
  have e1:((i:Int) < es.length)=True:=tt (by omega);have e2:aZ (bw es) (i:Int)=some (.ipt [I es[i]]):=lM rfl (List.getElem?_eq_getElem hlt);have e3:aZ (bB dom) (i:Int)=some (.ipt (aA dom[i])):=DO rfl (List.getElem?_eq_getElem hlt2);have e5:IntKind.i64.wrap ((i:Int)+1)=((i+1:Nat):Int):=wi (by omega) (by omega);have oki:=od dom[i] (List.getElem_mem hlt2);have hb:=he es[i] (List.getElem_mem hlt);rw [List.drop_eq_getElem_cons hlt,List.drop_eq_getElem_cons hlt2,ai];have ih':=ih (i+1) (by omega);unfold Hc;generalize es[i]=e at e2 hb ⊢;generalize dom[i]=d at e3 oki ⊢;obtain ⟨m,rfl⟩:=Int.eq_ofNat_of_zero_le hb.1;rw [Int.toNat_natCast];have hpw:=Zy oki (e:=m) (by omega) (p:=p);have opw:=ZC oki (e:=m) (p:=p);generalize A4 d m p=y at hpw opw ⊢;have hmu:=I3 ox opw (p:=p);have omu:=I7 (x:=x) (y:=y) (p:=p);generalize nv x y p=z at hmu omu ⊢;simp only [ax,aA] at e3 hpw hmu k10;by_cases hm:0 < (m:Int)
  ·have f1:(0 < (m:Int))=True:=tt hm;simp only [dW,go_sem,am4,am3,am5,am6,am7,h1,h2',h6,h7,h10,h22,h23,h24,h32,h33,h34,k3,k6,k7,k9,k10,q3,q6,q7,q9,qr,e1,e2,e3,f1,hpw,hmu,e5];exact ih' z omu _ _ rfl rfl rfl rfl rfl rfl rfl rfl rfl rfl rfl rfl rfl rfl rfl rfl
  ·have f1:(0 < (m:Int))=False:=ff hm;simp only [dW,go_sem,am4,am3,am5,am6,am7,h1,h2',h6,h7,h10,h22,h23,h24,h32,h33,h34,k3,k6,k7,k9,k10,q3,q6,q7,q9,qr,e1,e2,e3,f1,hpw,hmu,e5];exact ih' x ox _ _ rfl rfl rfl rfl rfl rfl rfl rfl rfl rfl rfl rfl rfl rfl rfl rfl
def NE (p:Int) (dom:List Ri):List Rt→Ri→Ri
 | [],s=>s
 | t::l,s=>NE p dom l (oP s (Hc p dom t.exps ⟨t.c,t.c,false⟩) p)
theorem I8 {v:Int}:∀ (l:List Rt) (pr:Option Rt),uL v pr l=true→∀ t ∈ l,BL v t=true:=by
 intro l;induction l with
 | nil=>grind
 | cons a l ih =>
  intro pr h t ht;unfold uL at h;grind
theorem Vb {a:Rp} {dom:List Ri} (oa:OkP a) (od:∀ x ∈ dom,OkI x) (hv:∀ t ∈ a.terms,BL a.vars t=true) (hl:(dom.length:Int)=a.vars) (h8:a.vars≤8) (h5:a.terms.length≤500) {p:Int} :
  ∀ (k i:Nat),i+k=a.terms.length→∀ (x:Ri),OkI x→∀ (s:ae) (h:ac),s 1=.sl 7 (bB dom)→s 2=I p→s 6=.ref 6 none 0 0 0→s 7=.ref 7 none 0 0 0→s 22=.sl 4 (df a.terms)→s 23=I a.terms.length→s 24=I i →
  h 3=.bx [I a.vars,.sl 4 (df a.terms)]→h 6=.bx [.v (.bool false),.emp,.v (.int .i64 0),.v (.bool false),.emp,.v (.int .i64 0),.v (.bool false)]→h 7=.bx (aA x) →
  ∃ hh,ap 0 [6,7] (aq (ak R (aG false) gJ) [1,2,6,7,22,23,24] [3,6,7] s h)=some (.normal,⟨upd (upd (fun _=>.any) 7 (.ref 7 none 0 0 0)) 6 (.ref 6 none 0 0 0),hh⟩)∧hh 6=.bx [.v (.bool false),.emp,.v (.int .i64 0),.v (.bool false),.emp,.v (.int .i64 0),.v (.bool false)]∧hh 7=.bx (aA (NE p dom (a.terms.drop i) x)):=by
 intro k;induction k with
 | zero =>
  intro i hi x ox s h h1 h2 h6 h7 h22 h23 h24 k3 k6 k7;have e1:((i:Int) < a.terms.length)=False:=ff (by omega);rw [List.drop_eq_nil_of_le (by omega),ai];refine ⟨?hh0,?_,?_,?_⟩;rotate_left
  ·simp only [gJ,go_sem,am7,h1,h2,h6,h7,h22,h23,h24,k3,k6,k7,e1];rfl
  ·rfl
  ·rfl
 | succ k ih =>
  intro i hi x ox s h h1 h2 h6 h7 h22 h23 h24 k3 k6 k7;have hlt:i < a.terms.length:=by omega
  have e1:((i:Int) < a.terms.length)=True:=tt (by omega);have e2:aZ (df a.terms) (i:Int)=some (.ipt (en a.terms[i])):=pE rfl (List.getElem?_eq_getElem hlt);have e5:IntKind.i64.wrap ((i:Int)+1)=((i+1:Nat):Int):=wi (by omega) (by omega);have okt:=oa.t a.terms[i] (List.getElem_mem hlt);obtain ⟨c1,c2,c3,c4,c5⟩:=uM (hv a.terms[i] (List.getElem_mem hlt));rw [List.drop_eq_getElem_cons hlt,ai];have ih':=ih (i+1) (by omega);unfold NE;generalize a.terms[i]=t at e2 okt c1 c2 c3 c4 c5 ⊢;have hpt:=jC okt.c c2;have hin:=ad6 (dom:=dom) od (es:=t.exps) (by omega) (by omega) (pF c4) (p:=p) (c3:=[I a.vars,.sl 4 (df a.terms)]) (c6:=[.v (.bool false),.emp,.v (.int .i64 0),.v (.bool false),.emp,.v (.int .i64 0),.v (.bool false)]) (c7:=aA x) (c9:=en t) (rw':=.sl 4 (df a.terms)) (n:=a.terms.length) (j:=i) rfl rfl rfl rfl rfl t.exps.length 0 (Nat.zero_add _) ⟨t.c,t.c,false⟩ ⟨okt.c,okt.c⟩;simp only [List.drop_zero,Int.natCast_zero] at hin;have oy:=abu (p:=p) dom t.exps ⟨t.c,t.c,false⟩ ⟨okt.c,okt.c⟩;generalize Hc p dom t.exps ⟨t.c,t.c,false⟩=y at hin oy ⊢;have hadd:=IZ ox oy (p:=p);have oz:=ZB (x:=x) (y:=y) (p:=p);generalize oP x y p=z at hadd oz ⊢;generalize hL0:aq (ak R (aG false) dW) [1,2,6,7,10,22,23,24,32,33,34] [3,6,7,9,10]=L0 at hin;have hin2:∀ (S:ae) (H:ac) (X:Option (Ex × St)),ap 2 [1,2,6,7,10,22,23,24] (L0 S H)=X→S 1=.sl 7 (bB dom)→S 2=I p→S 6=.ref 6 none 0 0 0→S 7=.ref 7 none 0 0 0→S 10=.ref 10 none 0 0 0→S 22=.sl 4 (df a.terms)→S 23=I a.terms.length→S 24=I i→S 32=.sl 1 (bw t.exps)→S 33=I t.exps.length→S 34=I 0 →
   H 3=.bx [I a.vars,.sl 4 (df a.terms)]→H 6=.bx [.v (.bool false),.emp,.v (.int .i64 0),.v (.bool false),.emp,.v (.int .i64 0),.v (.bool false)]→H 7=.bx (aA x)→H 9=.bx (en t)→H 10=.bx (aA ⟨t.c,t.c,false⟩) →
   ∃ hh,X=some (.normal,⟨upd (upd (upd (upd (upd (upd (upd (upd (fun _=>.any) 24 (I i)) 23 (I a.terms.length)) 22 (.sl 4 (df a.terms))) 10 (.ref 10 none 0 0 0)) 7 (.ref 7 none 0 0 0)) 6 (.ref 6 none 0 0 0)) 2 (I p)) 1 (.sl 7 (bB dom)),hh⟩) ∧
    hh 3=.bx [I a.vars,.sl 4 (df a.terms)]∧hh 6=.bx [.v (.bool false),.emp,.v (.int .i64 0),.v (.bool false),.emp,.v (.int .i64 0),.v (.bool false)]∧hh 7=.bx (aA x)∧hh 10=.bx (aA y)∧∀ a,a ≠ 3→a ≠ 6→a ≠ 7→a ≠ 9→a ≠ 10→hh a=.dead:=fun S H X hX=>by
   rw [← hX];exact hin S H
  have hX:∀ s h,ak R (aG false) (.loop [1,2,6,7,10,22,23,24,32,33,34] [3,6,7,9,10] dW) s h=L0 s h:=fun s h=>by rw [← hL0]; rfl
  simp only [en] at e2 hin2;simp only [ax,aA,ag,am] at hpt hadd k7 hin2;simp only [gJ,hX,go_sem,am4,am3,am5,am7,h1,h2,h6,h7,h22,h23,h24,k3,k6,k7,e1,e2,hpt];generalize hB:ap 2 [1,2,6,7,10,22,23,24] (L0 _ _)=X;obtain ⟨hh,g0,g3,g6,g7,g10,gd⟩:=hin2 _ _ _ hB rfl rfl rfl rfl rfl rfl rfl rfl rfl rfl rfl rfl rfl rfl rfl rfl;rw [g0];simp only [go_sem,am4,am3,am5,ne_eq,not_false_eq_true,g7,g10,gd,hadd,e5];refine ih' z oz _ _ ?_ ?_ ?_ ?_ ?_ ?_ ?_ ?_ ?_ ?_
  all_goals first | rfl | exact g3 | exact g6
def jD (a:Rp) (dom:List Ri) (p:Int):Ri:=if (kJ a dom && di p)=true then NE p dom a.terms ⟨aP,aP,false⟩ else cQ
theorem NF {a:Rp} {dom:List Ri} (oa:OkP a) (od:∀ x ∈ dom,OkI x) (h2:dom.length≤100000) {p:Int}:R F.bound_Naive [bL a,.sl 7 (bB dom),I p] []=some (ax (jD a dom p),[]):=by
 refine aE K0 rfl ?_;have hf:=DQ oa od h2 (p:=p);have hw:=A5;unfold jD;simp only [bL] at hf;cases hb:(kJ a dom && di p) with
 | false =>
  rw [hb] at hf;simp only [o7,uX,bL,ax,aA,go_sem,am4,am3,am5,hf,hw]
 | true =>
  rw [hb] at hf;simp only [kJ,vp,Bool.and_eq_true,decide_eq_true_eq] at hb;obtain ⟨⟨⟨v1,v2,v3,v4⟩,v5,v6⟩,v7⟩:=hb;have ho:=Vb oa od (I8 _ _ v4) v5 v2 v3 (p:=p) a.terms.length 0 (Nat.zero_add _) ⟨aP,aP,false⟩ ⟨bm.2,bm.2⟩;simp only [List.drop_zero,Int.natCast_zero] at ho;generalize NE p dom a.terms ⟨aP,aP,false⟩=z at ho ⊢;have hpt:=jC bm.2 bm.1;generalize hL0:aq (ak R (aG false) gJ) [1,2,6,7,22,23,24] [3,6,7]=L0 at ho;have hX:∀ s h,ak R (aG false) (.loop [1,2,6,7,22,23,24] [3,6,7] gJ) s h=L0 s h:=fun s h=>by rw [← hL0]; rfl
  have ho2:∀ (S:ae) (H:ac) (X:Option (Ex × St)),ap 0 [6,7] (L0 S H)=X→S 1=.sl 7 (bB dom)→S 2=I p→S 6=.ref 6 none 0 0 0→S 7=.ref 7 none 0 0 0→S 22=.sl 4 (df a.terms)→S 23=I a.terms.length→S 24=I 0 →
   H 3=.bx [I a.vars,.sl 4 (df a.terms)]→H 6=.bx [.v (.bool false),.emp,.v (.int .i64 0),.v (.bool false),.emp,.v (.int .i64 0),.v (.bool false)]→H 7=.bx (aA ⟨aP,aP,false⟩) →
   ∃ hh,X=some (.normal,⟨upd (upd (fun _=>.any) 7 (.ref 7 none 0 0 0)) 6 (.ref 6 none 0 0 0),hh⟩)∧hh 6=.bx [.v (.bool false),.emp,.v (.int .i64 0),.v (.bool false),.emp,.v (.int .i64 0),.v (.bool false)]∧hh 7=.bx (aA z):=fun S H X hX=>by
   rw [← hX];exact ho S H
  simp only [ax,aA,ag,am,aP] at hpt ho2;simp only [o7,uX,hX,bL,ax,aA,go_sem,am4,am3,am5,hf,hpt];generalize hB:ap 0 [6,7] (L0 _ _)=X;obtain ⟨hh,g0,g6,g7⟩:=ho2 _ _ _ hB rfl rfl rfl rfl rfl rfl rfl rfl rfl rfl;rw [g0];simp only [go_sem,am4,am3,am5,g6,g7]
theorem xK {n:Nat} {i:Int} (hi:i=n) (hn:n < 18446744073709551616):cK .and (.v (.int .u64 i)) (.v (.int .u64 4294967295))=some (.v (.int .u64 ((n % 4294967296:Nat):Int))):=by
 rw [Ik];have e:(BitVec.ofInt IntKind.u64.bits (n:Int) &&& BitVec.ofInt IntKind.u64.bits 4294967295).toNat=n % 4294967296:=by
  show (BitVec.ofInt 64 (n:Int) &&& BitVec.ofInt 64 4294967295).toNat=n % 4294967296;rw [BitVec.toNat_and];have e2:(BitVec.ofInt 64 (n:Int)).toNat=n:=by
   grind
  rw [e2,show (BitVec.ofInt 64 4294967295).toNat=2 ^ 32 - 1 from by decide,Nat.and_two_pow_sub_one_eq_mod]
 grind [cI]
theorem NG {n:Nat} {i:Int} (hi:i=n) (hn:n < 4294967296):cK .and (.v (.int .u32 i)) (.v (.int .u32 1))=some (.v (.int .u32 ((n % 2:Nat):Int))):=by
 rw [Ik];have e:(BitVec.ofInt IntKind.u32.bits (n:Int) &&& BitVec.ofInt IntKind.u32.bits 1).toNat=n % 2:=by
  show (BitVec.ofInt 32 (n:Int) &&& BitVec.ofInt 32 1).toNat=n % 2;grind
 grind [vN]
theorem Tb (m:List Nat) (h2:m.length < 4611686018427387904):∀ (n:Nat),n≤m.length→∀ (s:ae) (h:ac),s 0=lm m→s 3=I n →
  ap 0 [0,3] (aq (ak R (aG false) BC) [0,3] [] s h)=some (.normal,⟨upd (upd (fun _=>.any) 3 (I (i9 m n))) 0 (lm m),fun _=>.dead⟩):=Kn m h2
theorem xL {m:List Nat} (hb:Lb m) (h:m.length≤10000000):R F.r02_trim [lm m] []=some (lm (ao (aa m)),[]):=by
 refine aE SW rfl ?_;have h1:eu 1 (lm m) none (some (I (i9 m m.length:Nat))) none=some (lm (ao (aa m))):=by
  rw [CL (a:=0) (b:=i9 m m.length) rfl (oJ rfl (uG _ _)) (uG _ _),List.drop_zero,Nat.sub_zero,Fr hb]
 have hl:=bX m hb;have e1:((ao (aa m)).length*4≤140737488355328)=True:=tt (by omega);simp only [yU,GM,go_sem,am5,am6,Tb m (by omega) m.length (Nat.le_refl _),h1,No,e1,List.nil_append,List.length_nil,true_or,Nat.zero_add,Nat.le_refl,List.replicate_zero]
theorem Vc:∀ (x b:Nat),x < 4294967296→b+af x≤100000000→∀ (s:ae) (h:ac),s 3=I b→s 4=U x →
  ap 0 [3] (aq (ak R (aG false) qx) [3,4] [] s h)=some (.normal,⟨upd (fun _=>.any) 3 (I (b+af x:Nat)),fun _=>.dead⟩):=by
 intro x;induction x using Nat.strongRecOn with
 | ind x ih =>
  intro b hx hb s h h3 h4;rw [ai];by_cases h0:x=0
  ·have e1:(0 < (x:Int))=False:=ff (by omega);rw [h0,oM,Nat.add_zero];simp only [qx,go_sem,h3,h4,e1]
  ·have e1:(0 < (x:Int))=True:=tt (by omega);have e2:=DK (n:=x) (k:=1) (kk:=.u64) (j:=1) rfl rfl (by omega);have e3:IntKind.i64.wrap ((b:Int)+1)=((b+1:Nat):Int):=wi (by omega) (by omega);have e4:af x=1+af (x / 2 ^ 1):=by
    have h5:=iy x 1;grind [abD]
   have ih':=ih (x / 2 ^ 1) (by omega) (b+1) (by omega) (by omega);rw [show b+af x=b+1+af (x / 2 ^ 1) by omega];simp only [qx,go_sem,h3,h4,e1,e2,e3];exact ih' _ _ rfl rfl
theorem NH {m:List Nat} (hb:Lb m) (h:m.length≤1000000) (hc:ui m):R F.r02_bits [lm m] []=some (I (af (aa m):Nat),[]):=by
 refine aE SP rfl ?_;by_cases h0:m.length=0
 ·have:m=[]:=List.length_eq_zero_iff.1 h0;subst this;simp only [ug,AJ,go_sem,List.length_nil,Int.natCast_zero,aa,oM]
 ·have e1:((m.length:Int)=0)=False:=ff (by omega);have e2:IntKind.i64.wrap ((m.length:Int) - 1)=((m.length - 1:Nat):Int):=wi (by omega) (by omega);have e3:IntKind.i64.wrap (32*((m.length - 1:Nat):Int))=((32*(m.length - 1):Nat):Int):=wi (by omega) (by omega);have e4:aZ (az m) ((m.length - 1:Nat):Int)=some (.ipt [U (m.getD (m.length - 1) 0:Nat)]):=bh rfl (by omega);have hx:=bt hb (m.length - 1);have e5:=Vc (m.getD (m.length - 1) 0) (32*(m.length - 1)) hx (by have:=(bv (k:=32)).2 hx; omega);have e6:32*(m.length - 1)+af (m.getD (m.length - 1) 0)=af (aa m):=by
   grind [Nm,CE,tF]
  rw [e6] at e5;simp only [ug,AJ,go_sem,e1,e2,e3,e4];rw [e5 _ _ rfl rfl];simp only [go_sem]
theorem NI {m:List Nat} (hb:Lb m) (n:Nat):m.getD (n / 32) 0 / 2 ^ (n % 32) % 2=aa m / 2 ^ n % 2:=by
 have h1:aa m / 2 ^ n=aa (m.drop (n / 32)) / 2 ^ (n % 32):=by
  rw [qP hb,Nat.div_div_eq_div_mul,re]
 rw [h1,dv];have e:(4294967296:Nat)=2 ^ (n % 32)*(2*2 ^ (31 - n % 32)):=by
  rw [← Nat.pow_succ',← Nat.pow_add,show n % 32+(31 - n % 32+1)=32 by omega]
 simp_all [Nat.mul_assoc,Nat.add_mul_div_left,Nat.two_pow_pos,Nat.add_mul_mod_self_left]
theorem Vd {n:Nat} (h:n ≠ 0) {k:Nat} (hk:k≤tz n):n / 2 ^ k % 2=if k=tz n then 1 else 0:=by
 obtain ⟨h1,h2⟩:=tG h;by_cases hh:k=tz n
 ·grind
 ·obtain ⟨j,hj⟩:∃ j,tz n=k+(j+1):=⟨tz n - k - 1,by omega⟩;have h3:n=2 ^ k*(2*(2 ^ j*(n / 2 ^ tz n))):=by
   grind
  grind [Nat.mul_div_cancel_left,Nat.two_pow_pos,Nat.mul_mod_right]
theorem Tc {m:List Nat} (hb:Lb m) (h:m.length≤1000000) (hv:aa m ≠ 0):∀ (k i:Nat),i+k=tz (aa m)→∀ (s:ae) (h:ac),s 0=lm m→s 3=I i →
  ap 0 [3] (aq (ak R (aG false) pt) [0,3] [] s h)=some (.normal,⟨upd (fun _=>.any) 3 (I (tz (aa m):Nat)),fun _=>.dead⟩):=by
 have htz:tz (aa m) < 32*m.length:=by
  simp_all [LA,bR,Nat.pow_mul]
 intro k;induction k with
 | zero =>
  intro i hi s h h0 h3;have hi':i=tz (aa m):=by omega
  have e1:=wu (n:=i) (m:=32) (j:=32) rfl rfl (by omega) (by omega);have e2:=wt (n:=i) (m:=32) (j:=32) rfl rfl (by omega);have e3:aZ (az m) ((i / 32:Nat):Int)=some (.ipt [U (m.getD (i / 32) 0:Nat)]):=bh rfl (by omega);have hx:=bt hb (i / 32);have e4:IntKind.u64.wrap ((i % 32:Nat):Int)=((i % 32:Nat):Int):=cI rfl (by omega);have e5:=DK (n:=m.getD (i / 32) 0) (k:=i % 32) (kk:=.u64) (j:=((i % 32:Nat):Int)) rfl rfl (by omega);have e6:=NG (n:=m.getD (i / 32) 0 / 2 ^ (i % 32)) rfl (Nat.lt_of_le_of_lt (Nat.div_le_self _ _) hx);have e7:=NI hb i;rw [Vd hv (by omega),if_pos hi'] at e7;rw [e7] at e6;rw [ai];rw [← hi'];simp only [pt,go_sem,anb,h0,h3,e1,e2,e3,e4,e5,e6,Int.natCast_one]
 | succ k ih =>
  intro i hi s h h0 h3;have e1:=wu (n:=i) (m:=32) (j:=32) rfl rfl (by omega) (by omega);have e2:=wt (n:=i) (m:=32) (j:=32) rfl rfl (by omega);have e3:aZ (az m) ((i / 32:Nat):Int)=some (.ipt [U (m.getD (i / 32) 0:Nat)]):=bh rfl (by omega);have hx:=bt hb (i / 32);have e4:IntKind.u64.wrap ((i % 32:Nat):Int)=((i % 32:Nat):Int):=cI rfl (by omega);have e5:=DK (n:=m.getD (i / 32) 0) (k:=i % 32) (kk:=.u64) (j:=((i % 32:Nat):Int)) rfl rfl (by omega);have e6:=NG (n:=m.getD (i / 32) 0 / 2 ^ (i % 32)) rfl (Nat.lt_of_le_of_lt (Nat.div_le_self _ _) hx);have e7:=NI hb i;rw [Vd hv (by omega),if_neg (by omega)] at e7;rw [e7] at e6;have e8:IntKind.i64.wrap ((i:Int)+1)=((i+1:Nat):Int):=wi (by omega) (by omega);have ih':=ih (i+1) (by omega);rw [ai];simp only [pt,go_sem,h0,h3,e1,e2,e3,e4,e5,e6,e8,Int.natCast_zero];exact ih' _ _ rfl rfl
theorem Ve {m:List Nat} (hb:Lb m) (h:m.length≤1000000) (hv:aa m ≠ 0):R F.r02_zeros [lm m] []=some (I (tz (aa m):Nat),[]):=by
 refine aE PR rfl ?_;have h3:=Tc hb h hv (tz (aa m)) 0 (Nat.zero_add _);simp only [xg,ES,go_sem];rw [h3 _ _ rfl rfl];simp only [go_sem]
end Go.Ab
