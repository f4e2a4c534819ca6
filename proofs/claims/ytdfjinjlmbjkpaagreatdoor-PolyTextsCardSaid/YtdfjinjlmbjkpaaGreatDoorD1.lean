/-
  A law of polynomials' texts holds at every input that the statement speaks of, under the conditions that its card names. Part D1.
-/
import Derived.IntWalk
import Derived.Lib.ItoaNum
import Derived.Lib.ItoaMem
import Derived.Laws.Strings
import Derived.Lib.ItoaLen
import Derived.Test.YtdfjinjlmbjkpaaGreatDoorC1
open Nat renaming add_mul → ad8, le_refl → QK, le_trans → QU, lt_of_lt_of_le → aea, mul_comm → aeh, mul_le_mul_right → ad3, pow_succ → ad7, reduceAdd → QG, reduceBEq → QP, reduceLT → QM, reduceLeDiff → QJ, reduceMul → QH, zero_add → QN, zero_le → aei
open Int renaming natCast_zero → aek, reduceEq → adT, reduceLE → adU, reduceLT → adS, toNat_natCast → QT
open Bool renaming and_eq_true → QQ, false_and → ad2, false_eq_true → ad0, true_and → adY
open List renaming append_nil → ad4, drop_eq_getElem_cons → ael, drop_eq_nil_of_le → aej, getElem?_eq_getElem → adW, getElem?_map → aeb, getElem_mem → aee, length_append → ad6, length_cons → adX, length_nil → adZ, map_congr_left → aef, mem_map → aec, mem_of_getElem? → QR, nil_append → aeg, replicate → QI, take_of_length_le → aed
open Option renaming bind_some → QO, map_eq_some_iff → adV, map_some → ad5
set_option linter.all false
namespace Go.Ab
open Go Go.IntWalk Go.Lib
set_option maxRecDepth 100000
set_option maxHeartbeats 2000000
def ao(m:List Nat):List (List AV):=m.map fun(x:Nat)=>[U x]
def lm(m:List Nat):AV:=.sl 1 (ao m)
theorem jT(m):(ao m).length=m.length:=by simp[ao]
@[go_sem] theorem mB(l:List (List AV)):l.map (aU [])=l:=(aef (g:=fun c=>c) fun c _=>Dg c).trans (List.map_id' _)
@[go_sem] theorem Lr(hs m):eE hs (lm m)=lm m:=_root_.id rfl
@[go_sem] theorem Jr(hs m):knownL hs (lm m)=true:=_root_.id rfl
@[go_sem] theorem HO(hs m):fW hs (lm m)=true:=_root_.id rfl
@[go_sem] theorem PZ(ks m):jC ks (lm m)=lm m:=_root_.id rfl
@[go_sem] theorem NP(ks m):fw ks (lm m)=false:=_root_.id rfl
@[go_sem] theorem NQ(ks m):nc ks (lm m)=false:=_root_.id rfl
@[go_sem] theorem P0(m):oB false (lm m)=some (I m.length):=by simp[lm,oB,ao]
@[go_sem] theorem NR(m k i):kJ 1 (lm m) (.v (.int k i))=ey (ao m) i:=by simp[lm,kJ]
@[go_sem] theorem Ep(k ss m):nrmV (.o (k+1) []::ss) (lm m)=lm m:=by simp[lm,nrmV,nrmL,mB]
@[go_sem] theorem Ls(k cs ss m):nrmV (.o (k+1) [.o 0 cs]::ss) (lm m)=lm m:=by
 simp[ao,aU,aef,List.map_id',nrmL,lm,nrmV]
@[go_sem] theorem NS(k m):nrmL (.o (k+1) []) (lm m)=lm m:=by simp[lm,nrmL,mB]
@[go_sem] theorem NT(h m):oF h (lm m)=some (lm m):=_root_.id rfl
@[go_sem] theorem Lt(h m l):gw h (lm m::l)=(gw h l).bind fun q=>some (lm m::q):=_root_.id rfl
@[go_sem] theorem NU(m):bK (lm m)=[]:=_root_.id rfl
@[go_sem] theorem NV(m):eM (lm m)=[]:=_root_.id rfl
@[go_sem] theorem P1(m):dat (lm m)=true:=_root_.id rfl
@[go_sem] theorem NW(m):aq (lm m)=true:=_root_.id rfl
@[go_sem] theorem Lu(m):bT (lm m)=false:=_root_.id rfl
@[go_sem] theorem Lv(m):cX (lm m)=some [lm m]:=_root_.id rfl
@[go_sem] theorem NX(h m):eJ h (lm m)=some (lm m,h,[]):=_root_.id rfl
@[go_sem] theorem Lw(h m):df h 0 (lm m)=some (lm m,h,[]):=_root_.id rfl
@[go_sem] theorem Lx(id p m):lw id p (lm m)=lm m:=_root_.id rfl
@[go_sem] theorem Ly(h d m):fE h d (some (lm m,[]))=if dZ h (2000+8*d) 1=true then some (lm m,h,[])else none:=Di h d 1 (ao m)
@[go_sem] theorem P2(m):AV.sl 1 (ao m)=lm m:=_root_.id rfl
@[go_sem] theorem Lz(p)(a):kN (List.filter p [a])=true:=by
 simp only[List.filter];split<;>rfl
@[go_sem] theorem NY(m):(ao m).length=m.length:=by simp[ao]
@[go_sem] theorem P3:AV.sl 1 []=lm []:=_root_.id rfl
@[go_sem] theorem Js(cs ss):nrmV (.o 2 cs::ss) .emp=lm []:=by simp[nrmV,nrmL,lm,ao]
@[go_sem] theorem Jt(cs):nrmL (.o 2 cs) .emp=lm []:=by simp[nrmL,lm,ao]
@[go_sem] theorem NZ(k ss m):nrmV (.o (k+1) []::ss) (.sl 1 (ao m))=lm m:=Ep k ss m
@[go_sem] theorem LA(k ss m):nrmV (.o (k+1) []::ss) (.osl 1 (ao m))=lm m:=by simp[lm,nrmV,nrmL,mB]
theorem bI{m}{i:Int}{n:Nat}(hi:i=n)(h:n<m.length):ey (ao m) i=some (.ipt [U (m.getD n 0)]):=by
 grind[ey,ao]
theorem qW{m}{n}(h:n<m.length):(ao m)[n]?=some [U (m.getD n 0)]:=by
 grind[ao]
theorem yH(m)(n):(ao m).take n=ao (m.take n):=by simp[ao,List.map_take]
theorem Dr(m)(n):(ao m).drop n=ao (m.drop n):=by simp[ao,List.map_drop]
theorem sW(m l):ao m++ao l=ao (m++l):=by simp[ao]
theorem qX(m)(n x):(ao m).set n [U (x:Nat)]=ao (m.set n x):=by simp[ao,List.map_set]
theorem qY(n):QI n [AV.v (.int .u32 0)]=ao (QI n 0):=by simp[ao]
theorem yI{m}{lo hi}{a b}(hlo:jK 0 b lo=some a)(hhi:jK m.length m.length hi=some b)(_hb:b<=m.length):gO 1 (lm m) lo hi none=some (lm ((m.drop a).take (b-a))):=by
 simp_all[lm,gO,jl,jT,if_true,QO,ad5,Cg,ad0,if_false,yH,Dr]
theorem se(d n):jK d n none=some d:=_root_.id rfl
theorem oT{d n}{k}{i:Int}{a:Nat}(hi:i=a)(h:a<=n):jK d n (some (.v (.int k i)))=some a:=by
 grind[jK]
theorem yJ{f}{fd}{args}{r}(hE:cQ.E f=none)(hC:cQ.C f=some fd)(hk:cQ.md.keep f=false)(h1:args.length=fd.np)
  (hz:oH false fd.rs fd.res 0 (aj R (bA false) fd.body (oI args) (fun _=>.dead))=some r):R f args []=some r:=by
 simp_all[Cz,aei,BE]
theorem aX{f:FuncId}{l:List (List Sh)}{fd:FD}{args:List AV}{r:AV×List Ob}(q:QE f l fd)(h1:args.length=fd.np)
  (hz:oH false fd.rs fd.res 0 (aj R (bA false) fd.body (oI args) (fun _=>.dead))=some r):R f args []=some r:=yJ q.2.1 q.2.2 (q.1.2.2.2 false) h1 hz
noncomputable def n7 (k:Nat) (g:Bool):Cmd:=.seq (.ops [0,1,7,8,9] [co 9 (.bin .lss (.t 8) (.t 7))]) (.seq (.cond (.t 9) (.skip) (.exit 0)) (.seq (.block 1 [0,1,7,8] (.seq (.ops [0,1,5,7,8] [cm 10 8,cm 5 10]) (.seq (.ops [0,1,5,7,8,16] [cm 11 1,cm 12 0,cm 13 5,co 14 (.iadrS k (.t 12) (.t 13)),⟨(some 15),none,.load k g (.t 14)⟩,⟨(some 16),none,.call (.t 11) [(.t 15)]⟩]) (.cond (.t 16) (.seq (.ops [4] [cm 17 5,cm 4 17]) (.ret)) (.skip))))) (.ops [0,1,7,8] [co 18 (.bin .add (.t 8) (.c (.v (.int .i64 1)))),cm 8 18])))
noncomputable def n9:Cmd:=.seq (.ops [4] [co 4 (.mv (.c (.v (.int .i64 (-1)))))]) (.ret)
def oV{α:Type}(p:α->Bool):List α->Nat->Int
 |[],_=>-1
 |r::rs,n=>if p r=true then n else oV p rs (n+1)
theorem yK{α}(p):∀ (l:List α) n,decide (0<=oV p l n)=l.any p
 |[],n=>rfl
 |r::rs,n=>by
  simp only[oV,List.any_cons];by_cases h:p r=true
  ·simp[h]
  ·simp[h,yK p rs (n+1)]
theorem Ds{k}{g}{f}{rows}{p}{hs}(hhs:hs=[]\/hs=[1000])(hm:(bA false).m f=[])(hl:rows.length<4611686018427387904)
  (hf:∀row∈rows,∃a,iZ k g row 0=some a/\dat a=true/\R f (aG ((bA false).sh f) [a]) []=some (B (p row),[])):∀rest (n:Nat),rows.drop n=rest->n<=rows.length->
  ∀s h,s 0=.sl k rows->s 1=.fn f [] []->s 7=I rows.length->s 8=I n->h 1000=.dead->
   ∃hh,bF (aC 0 [] (bX (aj R (bA false) (n7 k g)) [0,1,7,8] hs s h)) (aj R (bA false) n9)=some (.ret,⟨upd (fun _=>.any) 4 (I (oV p rest n)),hh⟩):=by
 intro rest;induction rest with
 |nil=>
  intro n hd hn s h h0 h1 h7 h8 h9;have e:n=rows.length:=by
   have:=congrArg List.length hd;grind
  subst e;rw[aD];rcases hhs with rfl|rfl<;>exact⟨_,by simp only[n7,n9,go_sem,h0,h1,h7,h8,h9,Int.lt_irrefl,oV];rfl⟩
 |cons r rest ih=>
  intro n hd hn s h h0 h1 h7 h8 h9;have hlt:n<rows.length:=by
   grind
  have hr:rows[n]?=some r:=by
   have:=congrArg (·[0]?) hd;grind
  obtain⟨a,ha,hda,hc⟩:=hf r (QR hr);have ih':=ih (n+1) (by rw[←List.drop_drop,hd];rfl) hlt;have e1:(n< (rows.length:Int))=True:=eq_true (by omega);have e2:ey rows n=some (.ipt r):=by grind[ey]
  have e3:IntKind.i64.wrap (n+1)=(n+1):=by grind[i64_in]
  rw[aD];generalize bX _ _ _=L at ih'⊢;rcases hhs with rfl|rfl
  all_goals
   simp only[n7,go_sem,h0,h1,h7,h8,h9,e1,e2,ha,mV _ hm,hda,hc,QH,QG,oV];cases hp:p r with
   |true=>exact⟨_,by simp only[go_sem];rfl⟩
   |false=>
    simp only[go_sem,e3,Bool.false_ne_true];exact ih' _ _ rfl rfl rfl rfl rfl
theorem FO{fi}{fd}{k}{g}{hs}(hE:cQ.E fi=none)(hC:cQ.C fi=some fd)(hk:cQ.md.keep fi=false)
  (hfd:fd=⟨2,[[]],[.t 4],.seq (.ops [0,1] [co 4 (.mv (.c (.v (.int .i64 0))))]) (.seq (.seq (.ops [0,1,7,8] [cm 6 0,co 7 (.len false (.t 6)),co 8 (.mv (.c (.v (.int .i64 0))))]) (.block 0 [] (.loop [0,1,7,8] hs (n7 k g)))) n9)⟩)
  {f} {rows} {p} (hm:(bA false).m f=[]) (hl:rows.length<4611686018427387904)
  (hf:∀row∈rows,∃a,iZ k g row 0=some a/\dat a=true/\R f (aG ((bA false).sh f) [a]) []=some (B (p row),[])) (hhs:hs=[]\/hs=[1000]:=by simp):R fi [.sl k rows,.fn f [] []] []=some (I (oV p rows 0),[]):=by
 subst hfd;refine yJ hE hC hk rfl ?_;have hL:=Ds (k:=k) (g:=g) hhs hm hl hf rows 0 rfl (aei _);simp only[go_sem,GU];have hL2:∀S H X,bF (aC 0 [] (bX (aj R (bA false) (n7 k g)) [0,1,7,8] hs S H)) (aj R (bA false) n9)=X->S 0=.sl k rows->S 1=.fn f [] []->S 7=I rows.length->S 8=I 0->H 1000=.dead->
   ∃hh,X=some (.ret,⟨upd (fun _=>.any) 4 (I (oV p rows 0)),hh⟩):=fun S H X hX a b c d e=>by
  rw[←hX];exact hL S H a b c d e
 generalize hX:bF (aC 0 [] (bX _ _ hs _ _)) (aj R (bA false) n9)=X;obtain⟨hh,e⟩:=hL2 _ _ _ hX rfl rfl rfl rfl rfl;rw[e];simp only[go_sem]
noncomputable def CA (fi:FuncId):FD:=⟨2,[[]],[.t 4],.seq (.ops [0,1] [co 4 (.mv (.c (.v (.bool false))))]) (.seq (.ops [4] [cm 5 0,cm 6 1,⟨(some 7),none,.call (.c (.fn fi [] [])) [(.t 5),(.t 6)]⟩,co 8 (.bin .geq (.t 7) (.c (.v (.int .i64 0)))),cm 4 8]) (.ret))⟩
theorem Es{ci fi}{fd}{k}(hE:cQ.E ci=none)(hC:cQ.C ci=some fd)(hk:cQ.md.keep ci=false)(hfd:fd=CA fi)(hm:(bA false).m fi=[]){cs}(hsh:(bA false).sh fi=[[.o (k+1) cs],[]])
  {rows} {f} {p} (hr:rows.map (aU cs)=rows) (h:R fi [.sl k rows,.fn f [] []] []=some (I (oV p rows 0),[])):R ci [.sl k rows,.fn f [] []] []=some (B (rows.any p),[]):=by
 subst hfd;refine yJ hE hC hk rfl ?_;simp only[CA,go_sem,mV _ hm,hsh,hr,h,Df,yK]
theorem qE{i:Int}{n:Nat}(h:i=n)(hn:n<18446744073709551616):IntKind.u64.wrap i=n:=by rw[u64_in]<;>omega
theorem Ju{i:Int}{n:Nat}(h:i=n)(hn:n<4294967296):IntKind.u32.wrap i=n:=by rw[u32_in]<;>omega
theorem wi{i:Int}{n:Nat}(h:i=n)(hn:n<9223372036854775808):IntKind.i64.wrap i=n:=by rw[i64_in]<;>omega
theorem B1{i:Int}{n:Nat}(h:i=n):IntKind.u32.wrap i=(n%4294967296:Nat):=by grind[IntKind.wrap_u32]
theorem xg{i:Int}{n k:Nat}{kk}{j:Int}(h:i=n)(hj:j=k)(hk:k<=64):bS .shr (.v (.int .u64 i)) (.v (.int kk j))=some (.v (.int .u64 (n/2^k:Nat))):=by
 simp_all[tK,if_neg,IntKind.bits,Option.some.injEq,AV.v.injEq,Value.int.injEq,true_and,Int.fdiv_eq_ediv_of_nonneg,Int.pow_nonneg]
theorem yL{x y c:Nat}(hx:x<4294967296)(hy:y<4294967296)(hc:c<=1):R F.bits_Add32 [U x,U y,U c] []=some (.tup [U (((x+y+c) %4294967296:Nat)),U (((x+y+c)/4294967296:Nat))],[]):=by
 refine aX yF rfl ?_;have e1:IntKind.u64.wrap x=x:=qE rfl (by omega);have e2:IntKind.u64.wrap y=y:=qE rfl (by omega);have e3:IntKind.u64.wrap c=c:=qE rfl (by omega);have e4:IntKind.u64.wrap (x+y)=(x+y:Nat):=qE (by omega) (by omega);have e5:IntKind.u64.wrap ((x+y:Nat)+c)=(x+y+c:Nat):=qE (by omega) (by omega);have e6:IntKind.u32.wrap (x+y+c:Nat)=((x+y+c) %4294967296:Nat):=B1 rfl;have e7:=xg (n:=x+y+c) (k:=32) (kk:=.u64) (j:=32) rfl rfl (by omega);have e8:IntKind.u32.wrap ((x+y+c)/2^32:Nat)=((x+y+c)/4294967296:Nat):=Ju rfl (by omega);simp only[kZ,qA,go_sem,e1,e2,e3,e4,e5,e6,e7,e8]
theorem Et{k}{n}(h:n≠0):Cg (some (.v (.int k n)))=false:=by
 simp_all[Cg,absurd]
theorem Eu{m}(h:m.length≠0):gO 1 (lm m) none (some (I m.length)) (some (I m.length))=some (lm m):=by
 have hz:Cg (some (I m.length))=false:=Et (by omega);have h1:jK m.length m.length (some (I m.length))=some m.length:=oT rfl (QK _)
 simp_all[gO,lm,jT,jl,se,if_true,QO,ad5,ad0,if_false,List.drop_zero,Nat.sub_zero,yH,List.take_length]
theorem Au(m):R F.slices_Clip_uint32_uint32_ [lm m] []=some (lm m,[]):=by
 refine aX ku rfl ?_;by_cases h:m.length=0
 ·have:=List.length_eq_zero_iff.1 h;subst this;rfl
 ·simp only[cw,eW,go_sem,Eu h]
theorem CB(m)(h2:m.length<4611686018427387904):∀ (n:Nat),n<=m.length->∀s h,s 0=lm m->s 3=I n->
  aC 0 [0,3] (bX (aj R (bA false) dA) [0,3] [] s h)=some (.normal,⟨upd (upd (fun _=>.any) 3 (I (ed m n))) 0 (lm m),fun _=>.dead⟩):=by
 intro n;induction n with
 |zero=>
  intro h1 s h h3 h4;rw[aD];simp only[dA,go_sem,h3,h4,ed,aek,Int.lt_irrefl]
 |succ n ih=>
  intro h1 s h h3 h4;have hn:=h1;have e3:IntKind.i64.wrap (n+1-1)=n:=wi (by omega) (by omega);have e1:=bI rfl hn;have e2:(0< (n:Int)+1)=True:=eq_true (by omega);have ih':=ih (by omega);rw[aD];by_cases hz:m.getD n 0=0
  ·simp only[dA,go_sem,h3,h4,ed,Int.natCast_add,Int.natCast_one,e3,e1,e2,hz,aek];exact ih' _ _ rfl rfl
  ·simp only[dA,go_sem,h3,h4,ed,Int.natCast_add,Int.natCast_one,e3,e1,e2,hz,Int.natCast_eq_zero]
theorem cO{m}(hb:Lb m)(h:m.length<4611686018427387904):R F.natural_trim [lm m] []=some (lm (af (ab m)),[]):=by
 refine aX uA rfl ?_;have h1:gO 1 (lm m) none (some (I (ed m m.length))) none=some (lm (af (ab m))):=by
  rw[yI (a:=0) (b:=ed m m.length) rfl (oT rfl (qi _ _)) (qi _ _),List.drop_zero,Nat.sub_zero,xW hb]
 simp only[jQ,nR,go_sem,CB m h m.length (QK _),h1]
def Ea(l:List (List Nat)):AV:=.sl 1 (l.map fun m=>[lm m])
theorem Ew(l:List (List Nat))(cs):(l.map fun m=>[lm m]).map (aU [.o 2 cs])=l.map fun m=>[nrmL (.o 2 cs) (lm m)]:=by
 simp[List.map_map,aU]
theorem CC(m):R F.natural_long_1 [lm m] []=some (B (decide (256<m.length)),[]):=by
 refine aX mA rfl ?_;have e:decide (256< (m.length:Int))=decide (256<m.length):=by grind
 simp only[iN,mu,go_sem,e]
theorem Av{l}(hl:l.length<4611686018427387904):R F.natural_long [Ea l] []=some (B (l.any fun m=>decide (256<m.length)),[]):=by
 refine aX uz rfl ?_
 let p:List AV->Bool:=fun row=>match row with|[.sl _ rows]=>decide (256<rows.length)|_=>false
 have hp:∀m,p [lm m]=decide (256<m.length):=fun m=>by grind[lm,jT]
 have hn:(l.map fun m=>[lm m]).map (aU [.o 2 []])=l.map fun m=>[lm m]:=by
  rw[Ew];simp only[go_sem]
 have h1:=FO (k:=1) (g:=false) (f:=F.natural_long_1) (rows:=l.map fun m=>[lm m]) (p:=p) az.2.1 az.2.2 (az.1.2.2.2 false) rfl (mA.1.2.1 false) (by grind) (fun row hr=>by
  simp only[aec]at hr;obtain⟨m,hm,rfl⟩:=hr;refine⟨lm m,rfl,rfl,?_⟩;simp only[go_sem,CC,hp])
 have h2:=Es (k:=1) aE.2.1 aE.2.2 (aE.1.2.2.2 false) rfl (az.1.2.1 false) (az.1.1 false) hn h1;have h3:(l.map fun m=>[lm m]).any p=l.any fun m=>decide (256<m.length):=by
  rw[List.any_map];congr 1;funext m
  simp_all
 rw[h3]at h2;simp only[jP,nQ,Ea,go_sem,mV _ (aE.1.2.1 false),hn,h2]
theorem tt{p}(h:p):p=True:=eq_true h
theorem ff{p}(h:¬p):p=False:=eq_false h
theorem fM(a):R F.natural_long [.sl 1 [[lm a]]] []=some (B (decide (256<a.length)),[]):=by
 have:=Av (l:=[a]) (by simp);grind[Ea]
theorem mC(a b):R F.natural_long [.sl 1 [[lm a],[lm b]]] []=some (B (decide (256<a.length)||decide (256<b.length)),[]):=by
 have:=Av (l:=[a,b]) (by simp);grind[Ea]
def iD(n:Nat):AV:=if 256< (af n).length then .tup [lm [],I 9]else .tup [lm (af n),I 0]
theorem qZ{m}(hb:Lb m)(h:m.length<4611686018427387904):R F.natural_done [lm m] []=some (iD (ab m),[]):=by
 refine aX uC rfl ?_;by_cases hl:256< (af (ab m)).length
 ·simp only[gy,kh,iD,go_sem,QH,QG,QJ,QM,cO hb h,fM,hl]
 ·simp only[gy,kh,iD,go_sem,QH,QG,QJ,QM,cO hb h,fM,hl,Au]
theorem pJ{a:List Nat}{i}(h:i<a.length):ab (a.take (i+1))=ab (a.take i)+4294967296^i*a.getD i 0:=by
 grind[List.take_add_one,fC,List.length_take,Nat.min_eq_left,ab]
theorem Ae{a:List Nat}{i}(h:a.length<=i):ab (a.take (i+1))=ab (a.take i)+4294967296^i*a.getD i 0:=by
 grind[aed]
theorem gX(a:List Nat)(i):ab (a.take (i+1))=ab (a.take i)+4294967296^i*a.getD i 0:=by
 grind[pJ,Ae]
def Aw(n i:Nat):Nat:=n/4294967296^i%4294967296
theorem Dt{k n i}(h:i<k):(bE k n)[i]?=some (Aw n i):=by
 induction k generalizing n i with
 |zero=>omega
 |succ k ih=>
  cases i with
  |zero=>simp[bE,Aw]
  |succ i=>
   grind[bE,Aw,ad7,aeh,Nat.div_div_eq_div_mul]
theorem yM{k n}{l}(hl:l.length=k)(h:∀i,i<k->l.getD i 0=Aw n i):l=bE k n:=by
 refine List.ext_getElem? fun i=>?_;rcases Nat.lt_or_ge i k with hi|hi
 ·simp_all[Dt,congrArg]
 grind[bO]
def jE(a b:List Nat):Nat->Nat
 |0=>0
 |i+1=>(a.getD i 0+b.getD i 0+jE a b i)/4294967296
def yN(a b:List Nat)(i:Nat):Nat:=(a.getD i 0+b.getD i 0+jE a b i) %4294967296
theorem s7{a b}(ha:Lb a)(hb:Lb b):∀i,jE a b i<=1
 |0=>by simp[jE]
 |i+1=>by
  have h1:=cY ha i;have h2:=cY hb i;have h3:=s7 ha hb i;simp only[jE];omega
def dU(a b:List Nat)(i:Nat):List Nat:=(List.range i).map (yN a b)
theorem mD(f)(i):ab ((List.range (i+1)).map f)=ab ((List.range i).map f)+4294967296^i*f i:=by
 rw[List.range_succ,List.map_append,fC];simp[ab]
theorem yO(a b):∀i,ab (dU a b i)+4294967296^i*jE a b i=ab (a.take i)+ab (b.take i)
 |0=>by simp[dU,jE,ab]
 |i+1=>by
  have ih:=yO a b i;rw[gX a i,gX b i];simp only[dU]at ih⊢;rw[mD,ad7];have e:jE a b (i+1)*4294967296+yN a b i=a.getD i 0+b.getD i 0+jE a b i:=by
   grind[jE,yN]
  grind
theorem iY(a b)(i):(dU a b i).length=i:=by simp[dU]
theorem Ey(a b)(i):Lb (dU a b i):=fun x hx=>by
 simp only[dU,aec]at hx;obtain⟨j,_,rfl⟩:=hx;simp only[yN];omega
theorem Du{a b}(ha:Lb a)(hb:Lb b)(hl:b.length<=a.length):dU a b a.length++[jE a b a.length]=bE (a.length+1) (ab a+ab b):=by
 have h:=yO a b a.length;rw[List.take_length,aed hl]at h;have h1:Lb (dU a b a.length++[jE a b a.length]):=qh.2 ⟨Ey _ _ _,lP.2 ⟨by grind[s7],xT⟩⟩;have h2:ab (dU a b a.length++[jE a b a.length])=ab a+ab b:=by
  grind[fC,iY,ab]
 have:=rH h1;grind[iY]
theorem Dv{α:Type}(l)(n)(x z:α)(h:0<n):(l++QI n z).set l.length x=(l++[x])++QI (n-1) z:=by
 obtain⟨n,rfl⟩:∃m,n=m+1:=⟨n-1,by omega⟩;grind
theorem Dw{a b}(ha:Lb a)(hb:Lb b)(_hl:b.length<=a.length)(h2:a.length<4611686018427387904):∀k i,i+k=a.length->∀s h,s 0=lm a->s 1=lm b->s 5=.rsl 20 none 1 0 (a.length+1)->s 6=U (jE a b i)->
  s 21=lm a->s 22=I a.length->s 23=I i->h 20=.ar 1 (ao (dU a b i++QI (k+1) 0))->
  aC 0 [0,5,6] (bX (aj R (bA false) cM) [0,1,5,6,21,22,23] [20] s h)=
   some (.normal,⟨upd (upd (upd (fun _=>.any) 6 (U (jE a b a.length))) 5 (.rsl 20 none 1 0 (a.length+1))) 0 (lm a),upd (fun _=>.dead) 20 (.ar 1 (ao (dU a b a.length++[0])))⟩):=by
 intro k;induction k with
 |zero=>
  intro i hi s h h0 h1 h5 h6 h21 h22 h23 hh;have:i=a.length:=by omega
  subst this;rw[aD];simp only[cM,go_sem,QG,h0,h1,h5,h6,h21,h22,h23,hh,Int.lt_irrefl,List.contains_cons,BEq.rfl,Bool.true_or]
 |succ k ih=>
  intro i hi s h h0 h1 h5 h6 h21 h22 h23 hh;have ih':=ih (i+1) (by omega);have e1:((i:Int)< (a.length:Int))=True:=tt (by omega);have e2:ey (ao a) (i:Int)=some (.ipt [U (a.getD i 0:Nat)]):=bI rfl (by omega);have e3:IntKind.i64.wrap ((i:Int)+1)=((i+1:Nat):Int):=wi (by omega) (by omega);have e4:(0<=(i:Int))=True:=tt (by omega);have e5:((i:Int)< ((a.length+1:Nat):Int))=True:=tt (by omega);have e6:=yL (cY ha i) (cY hb i) (s7 ha hb i);have e7:(ao (dU a b i++QI (k+1+1) 0))[i]?=some [U (0:Nat)]:=by
   grind[qW,iY]
  have e8:(ao (dU a b i++QI (k+1+1) 0)).set i [U ((a.getD i 0+b.getD i 0+jE a b i) %4294967296:Nat)]=ao (dU a b (i+1)++QI (k+1) 0):=by
   rw[qX];grind[jE,yN,dU,List.range_succ]
  rw[aD];by_cases hb':i<b.length
  ·have e9:((i:Int)< (b.length:Int))=True:=tt (by omega);have e10:=bI rfl hb';simp only[cM,go_sem,QH,QG,QJ,h0,h1,h5,h6,h21,h22,h23,hh,List.contains_cons,BEq.rfl,Bool.true_or,e1,e2,e3,e4,e5,e6,e7,e8,e9,e10,QT,QN];exact ih' _ _ rfl rfl rfl rfl rfl rfl rfl rfl
  ·have e9:((i:Int)< (b.length:Int))=False:=ff (by omega);have e10:b.getD i 0=0:=by grind
   have e6':=yL (cY ha i) (y:=0) (by omega) (s7 ha hb i);simp only[aek]at e6';have e8':(ao (dU a b i++QI (k+1+1) 0)).set i [U ((a.getD i 0+0+jE a b i) %4294967296:Nat)]=ao (dU a b (i+1)++QI (k+1) 0):=by
    grind
   simp only[cM,go_sem,QH,QG,QJ,h0,h1,h5,h6,h21,h22,h23,hh,List.contains_cons,BEq.rfl,Bool.true_or,e1,e2,e3,e4,e5,e7,e8',e9,QT,QN,e6'];refine ih' _ _ rfl rfl rfl ?_ rfl rfl rfl rfl;simp only[jE,e10];rfl
theorem mZ{i j:Int}{l c:Nat}(hi:i=l)(hj:j=c)(h:l<=c)(hc:c<9223372036854775808):sy (I i) (I j)=some (l,c):=by
 simp only[sy];grind
noncomputable def sf:Cmd:=.seq (.ops [0,1,5] [cm 17 0,co 18 (.len false (.t 17)),co 19 (.bin .add (.t 18) (.c (.v (.int .i64 1)))),⟨(some 20),none,.mkSl 1 [(.v (.int .u32 0))] 4 (.t 19) (.t 19)⟩,cm 5 20]) (.seq (.ops [0,1,5,6] [co 6 (.mv (.c (.v (.int .u32 0))))]) (.seq (.seq (.ops [0,1,5,6,21,22,23] [cm 21 0,co 22 (.len false (.t 21)),co 23 (.mv (.c (.v (.int .i64 0))))]) (.block 0 [0,5,6] (.loop [0,1,5,6,21,22,23] [20] cM))) (.seq (.ops [5] [cm 47 5,cm 48 0,co 49 (.len false (.t 48)),cm 50 6,co 51 (.iadrS 1 (.t 47) (.t 49)),⟨none,none,.store 1 (.t 51) (.t 50)⟩]) (.seq (.ops [4] [cm 52 5,cm 4 52]) (.ret)))))
theorem yQ{a b}(ha:Lb a)(hb:Lb b)(hl:b.length<=a.length)(h2:a.length<=100000):∀s,s 0=lm a->s 1=lm b->
  aj R (bA false) sf s (fun _=>.dead)=some (.ret,⟨upd (fun _=>.any) 4 (.rsl 20 none 1 0 (a.length+1)),upd (upd (fun _=>.dead) 20 (.ar 1 (ao (dU a b a.length++[0])))) 20 (.ar 1 (ao (bE (a.length+1) (ab a+ab b))))⟩):=by
 intro s h0 h1;have e1:IntKind.i64.wrap (a.length+1)=(a.length+1:Nat):=wi (by omega) (by omega);have e2:=mZ (i:=(a.length+1:Nat)) (j:=(a.length+1:Nat)) (l:=a.length+1) (c:=a.length+1) rfl rfl (QK _) (by omega);have e3:((a.length+1)*4<=140737488355328)=True:=tt (by omega);have e4:=Dw ha hb hl (by omega) a.length 0 (by omega);have e5:ao (QI (a.length+1) 0)=ao (dU a b 0++QI (a.length+1) 0):=rfl;have e6:(0<=(a.length:Int))=True:=tt (by omega);have e7:(a.length< ((a.length+1:Nat):Int))=True:=tt (by omega);have e8:(ao (dU a b a.length++[0]))[a.length]?=some [U 0]:=by
  grind[qW,iY]
 have e9:(ao (dU a b a.length++[0])).set a.length [U (jE a b a.length)]=ao (bE (a.length+1) (ab a+ab b)):=by
  rw[qX]
  simp_all[iY,QI,Nat.sub_self,List.replicate_zero,ad4,Du]
 simp only[sf,go_sem,h0,h1,e1,e2,e3,qY,e5];rw[e4 _ _ rfl rfl rfl rfl rfl rfl rfl rfl];simp only[go_sem,QJ,e6,e7,e8,e9,QT,QN]
theorem yR:pG=.seq (.ops [0,1] [co 4 (.mv (.c .emp))]) (.seq (.seq (.ops [0,1,14] [cm 10 0,co 11 (.len false (.t 10)),cm 12 1,co 13 (.len false (.t 12)),co 14 (.bin .lss (.t 11) (.t 13))]) (.cond (.t 14) (.ops [0,1] [cm 15 1,cm 16 0,cm 0 15,cm 1 16]) (.skip))) sf):=rfl
theorem CD{a b}(ha:Lb a)(hb:Lb b)(h1:a.length<=100000)(h2:b.length<=100000):R F.natural_add [lm a,lm b] []=some (lm (bE (max a.length b.length+1) (ab a+ab b)),[]):=by
 refine aX wN rfl ?_;by_cases h:a.length<b.length
 ·have e1:(a.length< (b.length:Int))=True:=tt (by omega);have e2:=yQ hb ha (by omega) h2;simp only[iv,yR,go_sem,e1];rw[e2 _ rfl rfl];simp only[go_sem,QJ,bO,QN,QK];grind
 ·have e1:(a.length< (b.length:Int))=False:=ff (by omega);have e2:=yQ ha hb (by omega) h1;simp only[iv,yR,go_sem,e1];rw[e2 _ rfl rfl];simp only[go_sem,QJ,bO,QN,QK];grind
theorem FP{a b}(ha:Lb a)(hb:Lb b)(h1:a.length<=256)(h2:b.length<=256):R F.natural_Add [lm a,lm b] []=some (iD (ab a+ab b),[]):=by
 refine aX wI rfl ?_;have e1:(256<a.length)=False:=ff (by omega);have e2:(256<b.length)=False:=ff (by omega);have e3:ab (bE (max a.length b.length+1) (ab a+ab b))=ab a+ab b:=by
  rw[oR,Nat.mod_eq_of_lt];have h1:=gS ha;have h2:=gS hb;have h3:4294967296^a.length<=4294967296^max a.length b.length:=Nat.pow_le_pow_right (by omega) (by omega);have h4:4294967296^b.length<=4294967296^max a.length b.length:=Nat.pow_le_pow_right (by omega) (by omega);omega
 have e4:=qZ (qT (max a.length b.length+1) (ab a+ab b)) (by grind[bO]);rw[e3]at e4;unfold iD at e4⊢;by_cases hl:256< (af (ab a+ab b)).length
 ·simp only[hl,if_true]at e4⊢;simp only[ij,kX,go_sem,QH,QG,QJ,QM,e1,e2,mC,CD ha hb (by omega) (by omega),e4]
 ·simp only[hl,if_false]at e4⊢;simp only[ij,kX,go_sem,QH,QG,QJ,QM,e1,e2,mC,CD ha hb (by omega) (by omega),e4]
def dV(x y:Nat):Int:=if x<y then-1 else if y<x then 1 else 0
theorem oW{x y}(h:(af x).length< (af y).length):x<y:=by
 have h1:=jg x;have hy:y≠0:=by grind[du]
 have h2:=Ct hy;have h3:4294967296^ (af x).length<=4294967296^ ((af y).length-1):=Nat.pow_le_pow_right (by omega) (by omega);omega
noncomputable def og:Cmd:=.seq (.ops [4] [co 4 (.mv (.c (.v (.int .i64 0))))]) (.ret)
theorem Dx{a b}(ha:Lb a)(hb:Lb b)(hl:a.length=b.length)(h2:a.length<=100000):∀k,k<=a.length->∀s h,s 0=lm a->s 1=lm b->s 5=I (k-1)->
  bF (aC 0 [] (bX (aj R (bA false) bH) [0,1,5] [] s h)) (aj R (bA false) og)=some (.ret,⟨upd (fun _=>.any) 4 (I (dV (ab (a.take k)) (ab (b.take k)))),fun _=>.dead⟩):=by
 intro k;induction k with
 |zero=>
  intro hk s h h0 h1 h5;rw[aD];have e1:(0<=((0:Nat):Int)-1)=False:=ff (by omega);have e2:dV (ab []) (ab [])=0:=rfl;simp only[bH,og,go_sem,h0,h1,h5,e1,e2]
 |succ k ih=>
  intro hk s h h0 h1 h5;have ih':=ih (by omega);have e1:(0<=((k+1:Nat):Int)-1)=True:=tt (by omega);have e2:ey (ao a) ((k+1:Nat)-1)=some (.ipt [U (a.getD k 0)]):=bI (by omega) (by omega);have e3:ey (ao b) ((k+1:Nat)-1)=some (.ipt [U (b.getD k 0)]):=bI (by omega) (by omega);have e4:IntKind.i64.wrap ((k+1:Nat)-1-1)=k-1:=by grind[i64_in]
  have va:=gX a k;have vb:=gX b k;have la:=gS (qS ha k);have lb:=gS (qS hb k);rw[List.length_take,Nat.min_eq_left (by omega)]at la lb;rw[aD];rcases Nat.lt_trichotomy (a.getD k 0) (b.getD k 0)with hlt|heq|hgt
  ·have e5:((a.getD k 0)< (b.getD k 0:Int))=True:=tt (by omega);have e6:dV (ab (a.take (k+1))) (ab (b.take (k+1)))=-1:=by
    have:4294967296^k*(a.getD k 0+1)<=4294967296^k*b.getD k 0:=Nat.mul_le_mul_left _ hlt;rw[Nat.mul_add]at this;simp only[dV];omega
   simp only[bH,og,go_sem,h0,h1,h5,e1,e2,e3,e5,e6]
  ·have e5:((a.getD k 0)< (b.getD k 0:Int))=False:=ff (by omega);have e7:((b.getD k 0)< (a.getD k 0:Int))=False:=ff (by omega);have e6:dV (ab (a.take (k+1))) (ab (b.take (k+1)))=dV (ab (a.take k)) (ab (b.take k)):=by
    grind[dV]
   simp only[bH,go_sem,h0,h1,h5,e1,e2,e3,e5,e6,e7,e4];exact ih' _ _ rfl rfl rfl
  ·have e5:((a.getD k 0)< (b.getD k 0:Int))=False:=ff (by omega);have e7:((b.getD k 0)< (a.getD k 0:Int))=True:=tt (by omega);have e6:dV (ab (a.take (k+1))) (ab (b.take (k+1)))=1:=by
    have:4294967296^k*(b.getD k 0+1)<=4294967296^k*a.getD k 0:=Nat.mul_le_mul_left _ hgt;rw[Nat.mul_add]at this;simp only[dV];omega
   simp only[bH,og,go_sem,h0,h1,h5,e1,e2,e3,e5,e6,e7]
theorem si:pF=.seq (.ops [0,1] [co 4 (.mv (.c (.v (.int .i64 0))))]) (.seq (.ops [0,1] [cm 6 0,⟨(some 7),none,.call (.c (.fn F.natural_trim [] [])) [(.t 6)]⟩,cm 8 1,⟨(some 9),none,.call (.c (.fn F.natural_trim [] [])) [(.t 8)]⟩,cm 0 7,cm 1 9]) (.seq (.seq (.ops [0,1,14] [cm 10 0,co 11 (.len false (.t 10)),cm 12 1,co 13 (.len false (.t 12)),co 14 (.bin .neq (.t 11) (.t 13))]) (.cond (.t 14) (.seq (.seq (.ops [19] [cm 15 0,co 16 (.len false (.t 15)),cm 17 1,co 18 (.len false (.t 17)),co 19 (.bin .lss (.t 16) (.t 18))]) (.cond (.t 19) (.seq (.ops [4] [co 4 (.mv (.c (.v (.int .i64 (-1)))))]) (.ret)) (.skip))) (.seq (.ops [4] [co 4 (.mv (.c (.v (.int .i64 1))))]) (.ret))) (.skip))) (.seq (.seq (.ops [0,1,5] [cm 20 0,co 21 (.len false (.t 20)),co 22 (.bin .sub (.t 21) (.c (.v (.int .i64 1)))),cm 5 22]) (.block 0 [] (.loop [0,1,5] [] bH))) og))):=rfl
theorem dF(m)(h:Lb m):(af (ab m)).length<=m.length:=jf (gS h)
theorem s9{a b}(ha:Lb a)(hb:Lb b)(h1:a.length<=100000)(h2:b.length<=100000):R F.natural_Cmp [lm a,lm b] []=some (I (dV (ab a) (ab b)),[]):=by
 refine aX wJ rfl ?_;have la:=dF a ha;rcases Nat.lt_trichotomy (af (ab a)).length (af (ab b)).length with hlt|heq|hgt
 ·have e1:(af (ab a)).length=((af (ab b)).length:Int)↔False:=⟨fun h=>by omega,False.elim⟩;have e2:((af (ab a)).length< ((af (ab b)).length:Int))=True:=tt (by omega);have e3:dV (ab a) (ab b)=-1:=by grind[dV,oW]
  simp only[eY,si,go_sem,QH,QG,cO ha (by omega),cO hb (by omega),e1,e2,e3]
 ·have e2:IntKind.i64.wrap ((af (ab b)).length-1)=(af (ab b)).length-1:=by grind[i64_in]
  have e3:=Dx (bh (ab a)) (bh (ab b)) heq (by omega) (af (ab a)).length (QK _);rw[List.take_length,heq,List.take_length,aY,aY]at e3;simp only[eY,si,go_sem,QH,QG,cO ha (by omega),cO hb (by omega),heq,e2];rw[e3 _ _ rfl rfl rfl];simp only[go_sem]
 ·have e1:(af (ab a)).length=((af (ab b)).length:Int)↔False:=⟨fun h=>by omega,False.elim⟩;have e2:((af (ab a)).length< ((af (ab b)).length:Int))=False:=ff (by omega);have e3:dV (ab a) (ab b)=1:=by
   have:=oW hgt;simp only[dV];omega
  simp only[eY,si,go_sem,QH,QG,cO ha (by omega),cO hb (by omega),e1,e2,e3]
theorem Ez(v:BitVec 32):v.toNat/2147483648=if v.msb=true then 1 else 0:=by
 have h:=v.isLt;grind
theorem B3{x y c}(hx:x<4294967296)(hy:y<4294967296)(hc:c<=1)(D)(hD:D.toNat=(x+4294967296-y-c) %4294967296):
  ((~~~(BitVec.ofNat 32 x)&&&BitVec.ofNat 32 y)||| (~~~(BitVec.ofNat 32 x^^^BitVec.ofNat 32 y)&&&D)).toNat/2147483648=if x<y+c then 1 else 0:=by
 grind[Ez,BitVec.ofNat,BitVec.msb_eq_decide,BitVec.msb_or,BitVec.msb_and,BitVec.msb_not,BitVec.msb_xor]
theorem P4(n:Nat):BitVec.ofInt 32 n=BitVec.ofNat 32 n:=by simp
theorem LB(v:BitVec 32):IntKind.u32.wrap v.toNat=v.toNat:=by
 have:=v.isLt;grind[IntKind.wrap_u32]
theorem yS{x y c:Nat}(hx:x<4294967296)(hy:y<4294967296)(hc:c<=1):R F.bits_Sub32 [U x,U y,U c] []=some (.tup [U (((x+4294967296-y-c) %4294967296:Nat)),U ((if x<y+c then 1 else 0:Nat))],[]):=by
 refine aX yG rfl ?_;have e1:IntKind.u32.wrap (x-y)=((x+4294967296-y) %4294967296:Nat):=by grind[IntKind.wrap_u32]
 have e2:IntKind.u32.wrap (((x+4294967296-y) %4294967296:Nat)-c)=((x+4294967296-y-c) %4294967296:Nat):=by grind[IntKind.wrap_u32]
 have b:IntKind.u32.bits=32:=rfl;have e3:BitVec.ofInt 32 (if IntKind.u32.signed=true then(-1)else IntKind.u32.max)=BitVec.allOnes 32:=by decide
 have e4:∀v,BitVec.allOnes 32^^^v= ~~~v:=fun v=>BitVec.not_def.symm;have e5:∀v,BitVec.ofNat 32 v.toNat=v:=fun v=>by simp
 have key:=B3 hx hy hc (BitVec.ofNat 32 ((x+4294967296-y-c) %4294967296)) (by simp);have sh:∀v:BitVec 32,bS .shr (.v (.int .u32 (v.toNat:Int))) (.v (.int .u64 31))=some (.v (.int .u32 ((v.toNat/2147483648:Nat):Int))):=fun v=>by
  simp_all[tK,if_neg,Option.some.injEq,AV.v.injEq,Value.int.injEq,true_and,Int.fdiv_eq_ediv_of_nonneg]
 simp only[lg,qB,go_sem,e1,e2,P4,e3,e5,LB,sh];grind
def kS(a b:List Nat):Nat->Nat
 |0=>0
 |i+1=>if a.getD i 0<b.getD i 0+kS a b i then 1 else 0
def yU(a b:List Nat)(i:Nat):Nat:=(a.getD i 0+4294967296-b.getD i 0-kS a b i) %4294967296
def go(a b:List Nat)(i:Nat):List Nat:=(List.range i).map (yU a b)
theorem te(a b)(i):kS a b i<=1:=by
 cases i with
 |zero=>simp[kS]
 |succ i=>grind[kS]
theorem yV{a b}(ha:Lb a)(hb:Lb b):∀i,ab (go a b i)+ab (b.take i)=ab (a.take i)+4294967296^i*kS a b i
 |0=>by simp[go,kS,ab]
 |i+1=>by
  have ih:=yV ha hb i;rw[gX a i,gX b i];simp only[go]at ih⊢;rw[mD,ad7];have h1:=cY ha i;have h2:=cY hb i;have h3:=te a b i;have e:yU a b i+b.getD i 0+kS a b i=a.getD i 0+4294967296*kS a b (i+1):=by
   grind[yU,kS]
  grind
theorem nu(a b)(i):(go a b i).length=i:=by simp[go]
theorem Ax(a b)(i):Lb (go a b i):=fun x hx=>by
 simp only[go,aec]at hx;obtain⟨j,_,rfl⟩:=hx;simp only[yU];omega
theorem Dy{a b}(ha:Lb a)(hb:Lb b)(hl:b.length<=a.length)(hv:ab b<=ab a):go a b a.length=bE a.length (ab a-ab b):=by
 have h:=yV ha hb a.length;rw[List.take_length,aed hl]at h;have h1:=gS (Ax a b a.length);rw[nu]at h1;have hz:kS a b a.length=0:=by
  grind[te,Nat.eq_zero_or_pos,kS]
 rw[hz]at h;have h2:=rH (Ax a b a.length);rw[nu,show ab (go a b a.length)=ab a-ab b from by omega]at h2;exact h2.symm
theorem Dz{a b}(ha:Lb a)(hb:Lb b)(h2:a.length<=100000):∀k i,i+k=a.length->∀s h,s 1=lm b->s 5=.rsl 16 none 1 0 a.length->s 6=U (kS a b i)->
  s 17=lm a->s 18=I a.length->s 19=I i->h 16=.ar 1 (ao (go a b i++QI k 0))->
  aC 0 [5] (bX (aj R (bA false) dO) [1,5,6,17,18,19] [16] s h)=
   some (.normal,⟨upd (fun _=>.any) 5 (.rsl 16 none 1 0 a.length),upd (fun _=>.dead) 16 (.ar 1 (ao (go a b a.length)))⟩):=by
 intro k;induction k with
 |zero=>
  intro i hi s h h1 h5 h6 h17 h18 h19 hh;have:i=a.length:=by omega
  subst this;rw[aD];simp only[dO,go_sem,QP,h1,h5,h6,h17,h18,h19,hh,Int.lt_irrefl]
 |succ k ih=>
  intro i hi s h h1 h5 h6 h17 h18 h19 hh;have ih':=ih (i+1) (by omega);have e1:(i< (a.length:Int))=True:=tt (by omega);have e2:ey (ao a) (i:Int)=some (.ipt [U (a.getD i 0:Nat)]):=bI rfl (by omega);have e3:IntKind.i64.wrap ((i:Int)+1)=((i+1:Nat):Int):=wi (by omega) (by omega);have e4:(0<=(i:Int))=True:=tt (by omega);have e7:(ao (go a b i++QI (k+1) 0))[i]?=some [U (0:Nat)]:=by
   grind[qW,nu]
  have e8:(ao (go a b i++QI (k+1) 0)).set i [U ((a.getD i 0+4294967296-b.getD i 0-kS a b i) %4294967296:Nat)]=ao (go a b (i+1)++QI k 0):=by
   rw[qX];grind[kS,yU,go,List.range_succ]
  rw[aD];by_cases hb':i<b.length
  ·have e6:=yS (cY ha i) (cY hb i) (te a b i);have e9:((i:Int)< (b.length:Int))=True:=tt (by omega);have e10:=bI rfl hb';simp only[dO,go_sem,QH,QG,QJ,QP,h1,h5,h6,h17,h18,h19,hh,e1,e2,e3,e4,e6,e7,e8,e9,e10,QT,QN];exact ih' _ _ rfl rfl rfl rfl rfl rfl rfl
  ·have e9:((i:Int)< (b.length:Int))=False:=ff (by omega);have e10:b.getD i 0=0:=by grind
   have e6':=yS (cY ha i) (y:=0) (by omega) (te a b i);simp only[aek]at e6';have e8':(ao (go a b i++QI (k+1) 0)).set i [U ((a.getD i 0+4294967296-0-kS a b i) %4294967296:Nat)]=ao (go a b (i+1)++QI k 0):=by
    grind
   simp only[dO,go_sem,QH,QG,QJ,QP,h1,h5,h6,h17,h18,h19,hh,e1,e2,e3,e4,e6',e7,e8',e9,QT,QN];refine ih' _ _ rfl rfl ?_ rfl rfl rfl rfl;simp only[kS,e10,QN];rfl
theorem CE{a b}(ha:Lb a)(hb:Lb b)(h1:a.length<=100000)(h2:b.length<=100000)(hv:ab b<=ab a):R F.natural_sub [lm a,lm b] []=some (lm (bE (af (ab a)).length (ab a-ab b)),[]):=by
 refine aX wO rfl ?_;have la:=dF a ha;have lb:(af (ab b)).length<=(af (ab a)).length:=by
  rcases Nat.lt_or_ge (af (ab a)).length (af (ab b)).length with h|h
  ·have:=oW h;omega
  omega
 have e2:=mZ (i:=(af (ab a)).length) (j:=(af (ab a)).length) rfl rfl (QK _) (by omega);have e3:((af (ab a)).length*4<=140737488355328)=True:=tt (by omega);have e4:=Dz (bh (ab a)) (bh (ab b)) (by omega) (af (ab a)).length 0 (by omega);have e5:ao (QI (af (ab a)).length 0)=ao (go (af (ab a)) (af (ab b)) 0++QI (af (ab a)).length 0):=rfl;have e6:=Dy (bh (ab a)) (bh (ab b)) lb (by grind[aY]);rw[aY,aY]at e6;simp only[kl,pH,go_sem,QH,QG,cO ha (by omega),cO hb (by omega),e2,e3,qY,e5];rw[e4 _ _ rfl rfl rfl rfl rfl rfl rfl];simp only[go_sem,QJ,QM,e6,bO,QN,QK]
theorem FQ{a b}(ha:Lb a)(hb:Lb b)(h1:a.length<=256)(h2:b.length<=256):R F.natural_Sub [lm a,lm b] []=some (if ab a<ab b then .tup [lm [],I 2]else iD (ab a-ab b),[]):=by
 refine aX wK rfl ?_;have e1:(256<a.length)=False:=ff (by omega);have e2:(256<b.length)=False:=ff (by omega);by_cases hv:ab a<ab b
 ·have e3:dV (ab a) (ab b)=-1:=by grind[dV]
  simp only[eZ,jj,go_sem,QH,QG,QJ,QM,adS,e1,e2,mC,s9 ha hb (by omega) (by omega),e3,hv]
 ·have e3:(dV (ab a) (ab b)<0)=False:=ff (by grind[dV]);have e5:ab (bE (af (ab a)).length (ab a-ab b))=ab a-ab b:=by
   rw[oR,Nat.mod_eq_of_lt];grind[jg,ab]
  have e4:=qZ (qT (af (ab a)).length (ab a-ab b)) (by grind[bO,dF]);rw[e5]at e4;unfold iD at e4⊢;by_cases hl:256< (af (ab a-ab b)).length
  ·simp only[hl,if_true]at e4⊢;simp only[eZ,jj,go_sem,QH,QG,QJ,QM,e1,e2,mC,s9 ha hb (by omega) (by omega),e3,hv,CE ha hb (by omega) (by omega) (by omega),e4]
  ·simp only[hl,if_false]at e4⊢;simp only[eZ,jj,go_sem,QH,QG,QJ,QM,e1,e2,mC,s9 ha hb (by omega) (by omega),e3,hv,CE ha hb (by omega) (by omega) (by omega),e4]
theorem Ay{n m:Nat}{i j:Int}(hi:i=n)(hj:j=m)(hm:m≠0):bS .rem (.v (.int .i64 i)) (.v (.int .i64 j))=some (.v (.int .i64 (n%m:Nat))):=by
 simp_all[Ap,if_neg,Int.tmod_eq_emod_of_nonneg]
theorem Az{n m:Nat}{i j:Int}(hi:i=n)(hj:j=m)(hm:m≠0)(hn:n<9223372036854775808):bS .quo (.v (.int .i64 i)) (.v (.int .i64 j))=some (.v (.int .i64 (n/m:Nat))):=by
 rw[Ek,if_neg (by omega),Int.tdiv_eq_ediv_of_nonneg (by omega)];have:n/m<=n:=Nat.div_le_self _ _;grind[wi]
theorem Eb{n k:Nat}{i:Int}{kk}{j:Int}(hi:i=n)(hj:j=k)(hk:k<=64)(h:n*2^k<18446744073709551616):bS .shl (.v (.int .u64 i)) (.v (.int kk j))=some (.v (.int .u64 (n*2^k:Nat))):=by
 subst hi hj;rw[El,if_neg (by omega)];have:min (k:Int).toNat IntKind.u64.bits=k:=by grind[IntKind.bits]
 rw[this,qE (n:=n*2^k) (by simp) h]
theorem FR{m n:Nat}{i j:Int}(hi:i=m)(hj:j=n)(hm:m<18446744073709551616)(hn:n<18446744073709551616):bS .or (.v (.int .u64 i)) (.v (.int .u64 j))=some (.v (.int .u64 (m|||n))):=by
 subst hi hj;rw[Fz];have e:(BitVec.ofInt IntKind.u64.bits m|||BitVec.ofInt IntKind.u64.bits n).toNat=m|||n:=by
  show(BitVec.ofInt 64 m|||BitVec.ofInt 64 n).toNat=m|||n
  grind
 rw[e];rw[qE rfl (Nat.or_lt_two_pow (n:=64) hm hn)]
theorem CF{x c k}(hc:c<2^k):x*2^k|||c=x*2^k+c:=by
 have:=Nat.shiftLeft_add_eq_or_of_lt hc x;grind[Nat.shiftLeft_eq]
def fg(a:List Nat)(r:Nat):Nat->Nat
 |0=>0
 |i+1=>(a.getD i 0*2^r+fg a r i)/4294967296
def jF(a:List Nat)(r i:Nat):List Nat:=(List.range i).map fun j=>(a.getD j 0*2^r+fg a r j) %4294967296
theorem tj{a}(ha:Lb a){r}:∀i,fg a r i<2^r
 |0=>by grind[fg,Nat.two_pow_pos]
 |i+1=>by
  have ih:=tj ha (r:=r) i;have:=cY ha i;simp only[fg];have h1:a.getD i 0*2^r+2^r<=4294967296*2^r:=by
   rw[←Nat.succ_mul];exact ad3 _ (by omega)
  omega
theorem lG(a)(r i):(jF a r i).length=i:=by simp[jF]
theorem FS(a)(r i):Lb (jF a r i):=fun x hx=>by
 simp only[jF,aec]at hx;omega
theorem AA(a)(r):∀i,ab (jF a r i)+4294967296^i*fg a r i=ab (a.take i)*2^r
 |0=>by simp[jF,fg,ab]
 |i+1=>by
  have ih:=AA a r i;rw[gX a i];simp only[jF]at ih⊢;rw[mD,ad7];have e:fg a r (i+1)*4294967296+(a.getD i 0*2^r+fg a r i) %4294967296=a.getD i 0*2^r+fg a r i:=by
   grind[fg]
  grind
theorem DA{a}(ha:Lb a){n q}(h1:a.length<=100000)(hq:q<=100000):∀k i,i+k=a.length->∀s h,s 1=I (n:Nat)->s 5=.rsl 20 none 1 0 (q+i)->s 6=W (fg a (n%32) i)->s 21=lm a->s 22=I a.length->s 23=I i->
  h 20=.ar 1 (ao (QI q 0++jF a (n%32) i))->h 38=.dead->
  aC 0 [5,6] (bX (aj R (bA false) fL) [1,5,6,21,22,23] [20,38] s h)=
   some (.normal,⟨upd (upd (fun _=>.any) 6 (W (fg a (n%32) a.length))) 5 (.rsl 20 none 1 0 (q+a.length)),upd (upd (fun _=>.dead) 38 .dead) 20 (.ar 1 (ao (QI q 0++jF a (n%32) a.length)))⟩):=by
 intro k;induction k with
 |zero=>
  intro i hi s h g1 h5 h6 h21 h22 h23 hh hh2;have:i=a.length:=by omega
  subst this;rw[aD];simp only[fL,go_sem,QP,g1,h5,h6,h21,h22,h23,hh,hh2,Int.lt_irrefl]
 |succ k ih=>
  intro i hi s h g1 h5 h6 h21 h22 h23 hh hh2;have ih':=ih (i+1) (by omega);have hx:=cY ha i;have hc:=tj ha (r:=n%32) i;have hp:2^ (n%32)<=2^31:=Nat.pow_le_pow_right (by omega) (by omega);have hxp:a.getD i 0*2^ (n%32)<=4294967295*2^31:=Nat.mul_le_mul (by omega) hp;have e1:(i< (a.length:Int))=True:=tt (by omega);have e2:ey (ao a) i=some (.ipt [U (a.getD i 0)]):=bI rfl (by omega);have e3:IntKind.i64.wrap (i+1)=(i+1:Nat):=wi (by omega) (by omega);have e4:IntKind.u64.wrap (a.getD i 0)=(a.getD i 0):=qE rfl (by omega);have e5:=Ay (n:=n) (m:=32) (j:=32) rfl rfl (by omega);have e6:=Eb (n:=a.getD i 0) (k:=n%32) (kk:=.i64) rfl rfl (by omega) (by omega);have e7:=FR (m:=a.getD i 0*2^ (n%32)) (n:=fg a (n%32) i) rfl rfl (by omega) (by omega);rw[CF hc]at e7;have e8:IntKind.u32.wrap (a.getD i 0*2^ (n%32)+fg a (n%32) i:Nat)=((a.getD i 0*2^ (n%32)+fg a (n%32) i) %4294967296):=B1 rfl;have e9:=xg (n:=a.getD i 0*2^ (n%32)+fg a (n%32) i) (k:=32) (kk:=.u64) (j:=32) rfl rfl (by omega);have f1:ao (QI q 0++jF a (n%32) i)++[[U ((a.getD i 0*2^ (n%32)+fg a (n%32) i) %4294967296)]]=ao (QI q 0++jF a (n%32) (i+1)):=by
   simp_all[U,fg,ao,sW,List.append_assoc,jF,List.range_succ]
  have f2:(q+i=(QI q 0++jF a (n%32) i).length)=True:=tt (by simp[lG]);have f3:((q+i+1)*4<=140737488355328)=True:=tt (by omega);rw[aD];simp only[fL,go_sem,QJ,QM,QP,g1,h5,h6,h21,h22,h23,hh,hh2,e1,e2,e3,e4,e5,e6,e7,e8,e9,f1,f2,f3,true_or,QN,QK];exact ih' _ _ rfl rfl rfl rfl rfl rfl rfl rfl
theorem qF(n):4294967296^ (n/32)*2^ (n%32)=2^n:=by
 rw[show 4294967296=2^32 from rfl,←Nat.pow_mul,←Nat.pow_add];grind
theorem EA{a}(ha:Lb a)(n):QI (n/32) 0++jF a (n%32) a.length++[fg a (n%32) a.length]=bE (n/32+a.length+1) (ab a*2^n):=by
 have hc:=tj ha (r:=n%32) a.length;have hp:2^ (n%32)<=2^31:=Nat.pow_le_pow_right (by omega) (by omega);have h:=AA a (n%32) a.length;have hLb:Lb (QI (n/32) 0++jF a (n%32) a.length++[fg a (n%32) a.length]):=
  qh.2 ⟨qh.2 ⟨fun y hy=>by grind,FS _ _ _⟩,lP.2 ⟨by omega,xT⟩⟩
 have hv:ab (QI (n/32) 0++jF a (n%32) a.length++[fg a (n%32) a.length])=ab a*2^n:=by
  rw[List.append_assoc,fC,uT,fC,lG,List.length_replicate];simp only[ab,Nat.mul_zero,Nat.add_zero,QN];grind[qF,Nat.mul_left_comm]
 have:=rH hLb;grind[lG]
theorem CG{a}(ha:Lb a){n:Nat}(h1:a.length<=100000)(hn:n<=65536):R F.natural_shl [lm a,I n] []=some (.osl 1 (ao (bE (n/32+(af (ab a)).length+1) (ab a*2^n))),[]):=by
 refine aX wQ rfl ?_;have la:=dF a ha;have hc:=tj (bh (ab a)) (r:=n%32) (af (ab a)).length;have hp:2^ (n%32)<=2^31:=Nat.pow_le_pow_right (by omega) (by omega);have e1:=Az (n:=n) (m:=32) (j:=32) rfl rfl (by omega) (by omega);have e2:IntKind.i64.wrap ((n/32:Nat)+(af (ab a)).length)=(n/32+(af (ab a)).length:Nat):=wi (by omega) (by omega);have e3:IntKind.i64.wrap ((n/32+(af (ab a)).length:Nat)+1)=(n/32+(af (ab a)).length+1:Nat):=wi (by omega) (by omega);have e4:=mZ (i:=(n/32:Nat)) (j:=(n/32+(af (ab a)).length+1:Nat)) rfl rfl (by omega) (by omega);have e5:((n/32+(af (ab a)).length+1)*4<=140737488355328)=True:=tt (by omega);have e6:=DA (bh (ab a)) (n:=n) (q:=n/32) (by omega) (by omega) (af (ab a)).length 0 (by omega);have e7:ao (QI (n/32) 0)=ao (QI (n/32) 0++jF (af (ab a)) (n%32) 0):=by simp[jF]
 have e8:IntKind.u32.wrap (fg (af (ab a)) (n%32) (af (ab a)).length)=(fg (af (ab a)) (n%32) (af (ab a)).length):=Ju rfl (by omega);have f1:ao (QI (n/32) 0++jF (af (ab a)) (n%32) (af (ab a)).length)++[[U (fg (af (ab a)) (n%32) (af (ab a)).length)]]=ao (bE (n/32+(af (ab a)).length+1) (ab a*2^n)):=by
  have:=EA (bh (ab a)) n;rw[aY]at this;rw[←this,show [[U (fg (af (ab a)) (n%32) (af (ab a)).length)]]=ao [fg (af (ab a)) (n%32) (af (ab a)).length]from rfl,sW]
 have f2:(n/32+(af (ab a)).length=(QI (n/32) 0++jF (af (ab a)) (n%32) (af (ab a)).length).length)=True:=tt (by simp[lG]);simp only[ko,pI,go_sem,QH,QG,cO ha (by omega),e1,e2,e3,e4,e5,qY,e7];rw[e6 _ _ rfl rfl rfl rfl rfl rfl rfl rfl];simp only[go_sem,QJ,QM,e8,f1,f2,e5,true_or,QN,QK,bO]
theorem FT{a}(ha:Lb a){n}(h1:a.length<=256):R F.natural_Shl [lm a,I n] []=some (if n<0\/65536<n then .tup [lm [],I 2]else iD (ab a*2^n.toNat),[]):=by
 refine aX wM rfl ?_;have e1:(256<a.length)=False:=ff (by omega);by_cases hn:n<0
 ·simp only[dH,fS,go_sem,QH,QG,QJ,QM,e1,fM,hn,true_or]
 by_cases hn2:65536<n
 ·simp only[dH,fS,go_sem,QH,QG,QJ,QM,e1,fM,hn,hn2,or_true]
 obtain⟨m,rfl⟩:=Int.eq_ofNat_of_zero_le (show 0<=n by omega);have la:=dF a ha;have e3:ab (bE (m/32+(af (ab a)).length+1) (ab a*2^m))=ab a*2^m:=by
  rw[oR,Nat.mod_eq_of_lt];have h:=jg (ab a);have h2:2^m<=4294967296^ (m/32+1):=by
   rw[show 4294967296=2^32 from rfl,←Nat.pow_mul];exact Nat.pow_le_pow_right (by omega) (by omega)
  rw[show m/32+(af (ab a)).length+1=(af (ab a)).length+(m/32+1)from by omega,Nat.pow_add]
  simp_all[Nat.mul_lt_mul_of_lt_of_le,Nat.pow_pos]
 have e4:=qZ (qT (m/32+(af (ab a)).length+1) (ab a*2^m)) (by grind[bO]);rw[e3]at e4;have e5:(ao (bE (m/32+(af (ab a)).length+1) (ab a*2^m))).take (bE (m/32+(af (ab a)).length+1) (ab a*2^m)).length=ao (bE (m/32+(af (ab a)).length+1) (ab a*2^m)):=aed (by simp_all[jT,QK]);unfold iD at e4⊢;by_cases hl:256< (af (ab a*2^m)).length
 ·simp only[dH,fS,go_sem,QH,QG,QJ,QM,e1,fM,hn,hn2,CG ha (n:=m) (by omega) (by omega),e4,e5,or_false,QT,hl,QN,QK]
 ·simp only[dH,fS,go_sem,QH,QG,QJ,QM,e1,fM,hn,hn2,CG ha (n:=m) (by omega) (by omega),e4,e5,or_false,QT,hl,QN,QK]
theorem yW{l}(h:Lb l)(i):ab (l.drop i)=ab l/4294967296^i:=by
 rcases Nat.lt_or_ge l.length i with hi|hi
 ·rw[List.drop_of_length_le (by omega)];have:=gS h;have h2:4294967296^l.length<=4294967296^i:=Nat.pow_le_pow_right (by omega) (by omega);rw[Nat.div_eq_of_lt (by omega)];rfl
 ·have h1:ab l=ab (l.take i)+4294967296^i*ab (l.drop i):=by
   grind[List.take_append_drop,fC,List.length_take,Nat.min_eq_left]
  grind[gS,qS,List.length_take,Nat.min_eq_left,Nat.add_mul_div_left,Nat.pow_pos,Nat.div_eq_of_lt]
theorem cu(l:List Nat)(i):ab (l.drop i)=l.getD i 0+4294967296*ab (l.drop (i+1)):=by
 grind[ael,ab,List.drop_of_length_le]
def oZ(a:List Nat)(r i:Nat):Nat:=(a.getD i 0+4294967296*a.getD (i+1) 0)/2^r%4294967296
theorem EB{a}(ha:Lb a){r}(hr:r<=32)(i):oZ a r i=Aw (ab a/2^r) i:=by
 unfold oZ Aw;have e0:ab a/2^r/4294967296^i=ab (a.drop i)/2^r:=by grind[Nat.div_div_eq_div_mul,aeh,yW]
 rw[e0,cu a i,cu a (i+1)];generalize ab (a.drop (i+1+1))=w;have e:4294967296=2^r*2^ (32-r):=by rw[←Nat.pow_add,show r+(32-r)=32 from by omega]
 have h1:a.getD i 0+4294967296*(a.getD (i+1) 0+4294967296*w)=(a.getD i 0+4294967296*a.getD (i+1) 0)+2^r*(2^ (32-r)*4294967296*w):=by
  grind
 rw[h1,Nat.add_mul_div_left _ _ (Nat.two_pow_pos r),Nat.mul_assoc,Nat.mul_left_comm,Nat.add_mul_mod_self_left]
def lh(a:List Nat)(r i:Nat):List Nat:=(List.range i).map (oZ a r)
theorem nv(a)(r i):(lh a r i).length=i:=by simp[lh]
theorem DB{a}(ha:Lb a){r}(hr:r<=32):lh a r a.length=bE a.length (ab a/2^r):=by
 grind[yM,nv,EB,lh]
theorem DC{a}(ha:Lb a){n}(h1:a.length<=100000):∀k i,i+k=a.length->∀s h,s 0=lm a->s 1=I (n:Nat)->s 5=.rsl 22 none 1 0 a.length->s 23=lm a->s 24=I a.length->s 25=I i->
  h 22=.ar 1 (ao (lh a (n%32) i++QI k 0))->
  aC 0 [5] (bX (aj R (bA false) dN) [0,1,5,23,24,25] [22] s h)=
   some (.normal,⟨upd (fun _=>.any) 5 (.rsl 22 none 1 0 a.length),upd (fun _=>.dead) 22 (.ar 1 (ao (lh a (n%32) a.length)))⟩):=by
 intro k;induction k with
 |zero=>
  intro i hi s h h0 g1 h5 h23 h24 h25 hh;have:i=a.length:=by omega
  subst this;rw[aD];simp only[List.replicate_zero,ad4]at hh;simp only[dN,go_sem,QP,h0,g1,h5,h23,h24,h25,hh,Int.lt_irrefl]
 |succ k ih=>
  intro i hi s h h0 g1 h5 h23 h24 h25 hh;have ih':=ih (i+1) (by omega);have hx:=cY ha i;have hy:=cY ha (i+1);have hr:n%32<32:=Nat.mod_lt _ (by omega);have e1:(i< (a.length:Int))=True:=tt (by omega);have e2:ey (ao a) (i:Int)=some (.ipt [U (a.getD i 0:Nat)]):=bI rfl (by omega);have e3:IntKind.i64.wrap ((i:Int)+1)=((i+1:Nat):Int):=wi (by omega) (by omega);have e4:IntKind.u64.wrap (a.getD i 0:Int)=(a.getD i 0:Int):=qE rfl (by omega);have e5:=Ay (n:=n) (m:=32) (j:=32) rfl rfl (by omega);have e6:(0<=(i:Int))=True:=tt (by omega);have e7:(ao (lh a (n%32) i++QI (k+1) 0))[i]?=some [U (0:Nat)]:=by
   grind[qW,nv]
  have e8:(ao (lh a (n%32) i++QI (k+1) 0)).set i [U (oZ a (n%32) i:Nat)]=ao (lh a (n%32) (i+1)++QI k 0):=by
   grind[qX,Dv,lh,oZ,nv,List.range_succ]
  rw[aD];generalize bX _ _ _=L at ih'⊢;by_cases hl:i+1<a.length
  ·have f1:(((i+1:Nat):Int)< (a.length:Int))=True:=tt (by omega);have f2:=bI rfl hl;have f3:IntKind.u64.wrap (a.getD (i+1) 0:Int)=(a.getD (i+1) 0:Int):=qE rfl (by omega);have f4:=Eb (n:=a.getD (i+1) 0) (k:=32) (kk:=.u64) (j:=32) rfl rfl (by omega) (by omega);have f5:=FR (m:=a.getD i 0) (n:=a.getD (i+1) 0*2^32) rfl rfl (by omega) (by omega);rw[Nat.or_comm,CF (show a.getD i 0<2^32 from by omega)]at f5;have f6:=xg (n:=a.getD (i+1) 0*2^32+a.getD i 0) (k:=n%32) (kk:=.i64) rfl rfl (by omega);have f7:IntKind.u32.wrap (((a.getD (i+1) 0*2^32+a.getD i 0)/2^ (n%32):Nat):Int)=((oZ a (n%32) i:Nat):Int):=by
    grind[B1,oZ]
   simp only[dN,go_sem,QJ,QP,h0,g1,h5,h23,h24,h25,hh,e1,e2,e3,e4,e5,e6,e7,e8,f1,f2,f3,f4,f5,f6,f7,QT,QN];exact ih' _ _ rfl rfl rfl rfl rfl rfl rfl
  ·have f1:(((i+1:Nat):Int)< (a.length:Int))=False:=ff (by omega);have f2:a.getD (i+1) 0=0:=by grind
   have f6:=xg (n:=a.getD i 0) (k:=n%32) (kk:=.i64) rfl rfl (by omega);have f7:IntKind.u32.wrap ((a.getD i 0/2^ (n%32):Nat):Int)=((oZ a (n%32) i:Nat):Int):=by
    rw[B1 rfl];grind[oZ]
   simp only[dN,go_sem,QJ,QP,h0,g1,h5,h23,h24,h25,hh,e1,e2,e3,e4,e5,e6,e7,e8,f1,f6,f7,QT,QN];exact ih' _ _ rfl rfl rfl rfl rfl rfl rfl
theorem FU{a}(ha:Lb a){n:Nat}(h1:a.length<=100000)(hn:n<=100000000):R F.natural_shr [lm a,I n] []=some (lm (bE ((af (ab a)).length-n/32) (ab a/2^n)),[]):=by
 refine aX wL rfl ?_;have la:=dF a ha;have e1:=Az (n:=n) (m:=32) (j:=32) rfl rfl (by omega) (by omega);by_cases hl:(af (ab a)).length<=n/32
 ·have e2:((af (ab a)).length<=((n/32:Nat):Int))=True:=tt (by omega);have e3:bE ((af (ab a)).length-n/32) (ab a/2^n)=[]:=by rw[show(af (ab a)).length-n/32=0 from by omega];rfl
  simp only[io,kY,go_sem,QH,QG,cO ha (by omega),e1,e2,e3]
 ·have e2:((af (ab a)).length<=((n/32:Nat):Int))=False:=ff (by omega);have hD:((af (ab a)).drop (n/32)).length=(af (ab a)).length-n/32:=by simp
  have hLD:Lb ((af (ab a)).drop (n/32)):=Ej (bh _) _;have e3:gO 1 (lm (af (ab a))) (some (I (n/32:Nat))) none none=some (lm ((af (ab a)).drop (n/32))):=by
   rw[yI (a:=n/32) (b:=(af (ab a)).length) (oT rfl (by omega)) rfl (QK _),aed (by omega)]
  have hv:ab ((af (ab a)).drop (n/32))/2^ (n%32)=ab a/2^n:=by
   rw[yW (bh _),aY,Nat.div_div_eq_div_mul,qF]
  have e6:=DB hLD (r:=n%32) (by omega);rw[hv,hD]at e6;generalize(af (ab a)).drop (n/32)=D at*
  have e4:=mZ (i:=D.length) (j:=D.length) rfl rfl (QK _) (by omega);have e5:(D.length*4<=140737488355328)=True:=tt (by omega);have e7:=DC hLD (n:=n) (by omega) D.length 0 (by omega);have e8:ao (QI D.length 0)=ao (lh D (n%32) 0++QI D.length 0):=by simp[lh]
  rw[←hD]at e6⊢;simp only[io,kY,go_sem,QH,QG,cO ha (by omega),e1,e2,e3,e4,e5,qY,e8];rw[e7 _ _ rfl rfl rfl rfl rfl rfl rfl];simp only[go_sem,QJ,QM,e6,bO,QN,QK]
theorem FV{a}(ha:Lb a){n}(h1:a.length<=256):R F.natural_Shr [lm a,I n] []=some (if n<0\/65536<n then .tup [lm [],I 2]else .tup [lm (af (ab a/2^n.toNat)),I 0],[]):=by
 refine aX wH rfl ?_;have e1:(256<a.length)=False:=ff (by omega);by_cases hn:n<0
 ·simp only[eU,ji,go_sem,QH,QG,QJ,QM,e1,fM,hn,true_or]
 by_cases hn2:65536<n
 ·simp only[eU,ji,go_sem,QH,QG,QJ,QM,e1,fM,hn,hn2,or_true]
 obtain⟨m,rfl⟩:=Int.eq_ofNat_of_zero_le (show 0<=n by omega);have la:=dF a ha;have hlt:=jg (ab a);have h32:ab a/2^m<4294967296^ ((af (ab a)).length-m/32):=by
  rw[Nat.div_lt_iff_lt_mul (Nat.two_pow_pos m),←qF m];refine aea hlt ?_;rw[←Nat.mul_assoc,←Nat.pow_add];refine QU (Nat.pow_le_pow_right (by omega) (show(af (ab a)).length<=(af (ab a)).length-m/32+m/32 by omega)) (Nat.le_mul_of_pos_right _ (Nat.two_pow_pos _))
 have e3:ab (bE ((af (ab a)).length-m/32) (ab a/2^m))=ab a/2^m:=by
  rw[oR,Nat.mod_eq_of_lt h32]
 have e4:=qZ (qT ((af (ab a)).length-m/32) (ab a/2^m)) (by grind[bO]);rw[e3]at e4;have hl:¬256< (af (ab a/2^m)).length:=by
  have:=jf h32;omega
 unfold iD at e4;simp only[hl,if_false]at e4;simp only[eU,ji,go_sem,QH,QG,QJ,QM,e1,fM,hn,hn2,FU ha (n:=m) (by omega) (by omega),e4,or_false,QT]
attribute [-go_sem] Fz El in
theorem aa2{a b y:Nat}(hay:a<y)(hy:y<4294967296)(hb:b<4294967296):
  R F.bits_Div32 [U a,U b,U y] []=some (.tup [U ((a*4294967296+b)/y:Nat),U ((a*4294967296+b) %y:Nat)],[]):=by
 refine aX WT rfl ?_;have e1:((y:Int)=0)=False:=ff (by omega);have e2:((y:Int)<=(a:Int))=False:=ff (by omega);have c1:IntKind.u64.wrap (a:Int)=a:=qE rfl (by omega);have c2:IntKind.u64.wrap (b:Int)=b:=qE rfl (by omega);have c3:IntKind.u64.wrap (y:Int)=y:=qE rfl (by omega);have e4:=Eb (n:=a) (k:=32) (i:=(a:Int)) (kk:=.u64) (j:=32) rfl rfl (by decide) (by omega);have e5:=FR (m:=a*2^32) (n:=b) (i:=((a*2^32:Nat):Int)) (j:=(b:Int)) rfl rfl (by omega) (by omega);rw[CF (x:=a) (c:=b) (k:=32) (by omega),show a*2^32+b=a*4294967296+b from rfl]at e5;rw[show a*2^32=a*4294967296 from rfl]at e4 e5;obtain⟨N,hN⟩:∃N,a*4294967296+b=N:=⟨_,rfl⟩;rw[hN]at e5⊢;have e6:bS .quo (W N) (W y)=some (W (N/y:Nat)):=by
  rw[Ek,if_neg (by omega),Int.tdiv_eq_ediv_of_nonneg (by omega)];have:N/y<=N:=Nat.div_le_self _ _;rw[qE (n:=N/y) (by simp) (by omega)]
 have e7:bS .rem (W N) (W y)=some (W (N%y:Nat)):=by
  rw[Ap,if_neg (by omega),Int.tmod_eq_emod_of_nonneg (by omega)];rfl
 have hm:=Nat.mod_lt N (show 0<y by omega);have hq:N/y<4294967296:=by
  rw[Nat.div_lt_iff_lt_mul (by omega)];have h3:(a+1)*4294967296<=y*4294967296:=ad3 _ (by omega);rw[aeh 4294967296 y];omega
 have w1:IntKind.u32.wrap ((N/y:Nat):Int)=((N/y:Nat):Int):=Ju rfl hq;have w2:IntKind.u32.wrap ((N%y:Nat):Int)=((N%y:Nat):Int):=Ju rfl (by omega);simp only[wv,yy,go_sem,QH,QG,e1,e2,e4,e5,e6,e7,c1,c2,c3,w1,w2]
def QX(y:Nat):List Nat->List Nat×Nat
 |[]=>([],0)
 |x::l=>(((QX y l).2*4294967296+x)/y::(QX y l).1,((QX y l).2*4294967296+x) %y)
theorem Sv{y}(hy:0<y):∀ {l},Lb l->ab l=ab (QX y l).1*y+(QX y l).2/\(QX y l).2<y/\(QX y l).1.length=l.length
 |[],_=>⟨by simp[QX,ab],hy,rfl⟩
 |x::l,hl=>by
  obtain⟨h1,h2,h3⟩:=Sv hy (l:=l) fun z hz=>hl z (by simp[hz]);unfold QX;refine⟨?_,Nat.mod_lt _ hy,by simp[h3]⟩;show x+4294967296*ab l=(((QX y l).2*4294967296+x)/y+4294967296*ab (QX y l).1)*y+((QX y l).2*4294967296+x) %y;have hm:=Nat.div_add_mod ((QX y l).2*4294967296+x) y;rw[aeh]at hm;rw[ad8,Nat.mul_assoc];generalize((QX y l).2*4294967296+x)/y*y=A at*
  omega
theorem Vu{y}(hy:0<y)(hyb:y<4294967296):∀ {l},Lb l->Lb (QX y l).1
 |[],_=>fun x hx=>(nomatch hx)
 |x::l,hl=>by
  have hl':Lb l:=fun z hz=>hl z (by simp[hz]);have h2:=(Sv hy hl').2.1;have hx:=hl x (by simp);intro z hz;rcases List.mem_cons.1 hz with h|h
  ·rw[h];show((QX y l).2*4294967296+x)/y<4294967296;rw[Nat.div_lt_iff_lt_mul hy];have h3:((QX y l).2+1)*4294967296<=y*4294967296:=ad3 _ (by omega);rw[aeh 4294967296 y];omega
  ·exact Vu hy hyb hl' z h
theorem aa3{a}(ha:Lb a){y:Nat}(hy:0<y)(hyb:y<4294967296)(h1:a.length<=100000):
  ∀m,m<=a.length->∀s h,s 0=lm a->s 1=U y->s 6=.rsl 11 none 1 0 a.length->s 7=U (QX y (a.drop m)).2->s 8=I (m-1)->h 11=.ar 1 (ao (QI m 0++(QX y (a.drop m)).1))->
  ∃hh,aC 0 [6,7] (bX (aj R (bA false) qu) [0,1,6,7,8] [11] s h)=some (.normal,⟨upd (upd (fun _=>.any) 7 (U (QX y a).2)) 6 (.rsl 11 none 1 0 a.length),hh⟩)/\hh 11=.ar 1 (ao (QX y a).1)/\(∀x,x≠11->hh x=.dead):=by
 intro m;induction m with
 |zero=>
  intro hm s h g0 g1 g6 g7 g8 k11;have e1:(0<=((0:Int)-1))=False:=ff (by omega);rw[aD];refine⟨?hh0,?_,?_,?_⟩;rotate_left
  ·simp only[qu,go_sem,g0,g1,g6,g7,g8,k11,e1];rfl
  all_goals simp_all[QY,if_false]
 |succ m ih=>
  intro hm s h g0 g1 g6 g7 g8 k11;have hlt:m<a.length:=by omega
  have hd:a.drop m=a.getD m 0::a.drop (m+1):=by
   simp_all
  have ha':Lb (a.drop (m+1)):=Ej ha _;obtain⟨q1,q2,q3⟩:=Sv hy ha';have e0:((m+1:Nat)-1)=(m:Int):=by omega
  rw[e0]at g8;have e1:(0<=(m:Int))=True:=tt (by omega);have e2:=bI rfl (by omega);have e3:IntKind.i64.wrap (m-1)=m-1:=i64_in _ ⟨by omega,by omega⟩;have e5:(m< (a.length:Int))=True:=tt (by omega);have e6:=aa2 (a:=(QX y (a.drop (m+1))).2) (b:=a.getD m 0) q2 hyb (cY ha m);have ih':=ih (by omega);rw[hd]at ih';have hs1:(QX y (a.getD m 0::a.drop (m+1))).1=((QX y (a.drop (m+1))).2*4294967296+a.getD m 0)/y::(QX y (a.drop (m+1))).1:=rfl;have hs2:(QX y (a.getD m 0::a.drop (m+1))).2=((QX y (a.drop (m+1))).2*4294967296+a.getD m 0) %y:=rfl;rw[hs1,hs2]at ih';generalize((QX y (a.drop (m+1))).2*4294967296+a.getD m 0)/y=qd at*
  have e7:(ao (QI (m+1) 0++(QX y (a.drop (m+1))).1))[m]?=some [U 0]:=by
   rw[qW (by grind),List.getD_eq_getElem?_getD,List.getElem?_append_left (by simp),List.getElem?_replicate,if_pos (by omega)];rfl
  have e8:(ao (QI (m+1) 0++(QX y (a.drop (m+1))).1)).set m [U qd]=ao (QI m 0++qd::(QX y (a.drop (m+1))).1):=by
   rw[qX];rw[List.replicate_succ',List.append_assoc,List.set_append_right _ _ (by simp)];simp
  rw[aD];simp only[qu,go_sem,QH,QG,QJ,QM,QP,g0,g1,g6,g7,g8,k11,e1,e2,e3,e5,e6,e7,e8,QT,QN];exact ih' _ _ rfl rfl rfl rfl rfl rfl
theorem ac7{a}(ha:Lb a){y:Nat}(hy:0<y)(hyb:y<4294967296)(h1:a.length<=100000)(s)(h)(X)(hX:aC 0 [6,7] (bX (aj R (bA false) qu) [0,1,6,7,8] [11] s h)=X)
  (g0:s 0=lm a) (g1:s 1=U y) (g6:s 6=.rsl 11 none 1 0 a.length) (g7:s 7=U 0) (g8:s 8=I (a.length-1)) (k11:h 11=.ar 1 (ao (QI a.length 0))):
  ∃hh,X=some (.normal,⟨upd (upd (fun _=>.any) 7 (U (QX y a).2)) 6 (.rsl 11 none 1 0 a.length),hh⟩)/\hh 11=.ar 1 (ao (QX y a).1)/\(∀x,x≠11->hh x=.dead):=by
 subst hX;have hn:a.drop a.length=[]:=List.drop_of_length_le (QK _);refine aa3 ha hy hyb h1 a.length (QK _) s h g0 g1 g6 ?_ g8 ?_
 ·rw[hn];exact g7
 ·rw[hn];show h 11=.ar 1 (ao (QI a.length 0++[]));grind
theorem aa4{a}(ha:Lb a){y:Nat}(hy:0<y)(hyb:y<4294967296)(h1:a.length<=100000):R F.natural_short [lm a,U y] []=some (.tup [lm (QX y a).1,U (QX y a).2],[]):=by
 refine aX Vg rfl ?_;have hl:=ac7 ha hy hyb h1;have e3:IntKind.i64.wrap (a.length-1)=a.length-1:=i64_in _ ⟨by omega,by omega⟩;have e4:=mZ (i:=a.length) (j:=a.length) rfl rfl (QK _) (by omega);have e5:(a.length*4<=140737488355328)=True:=tt (by omega);simp only[rP,sQ,go_sem,e3,e4,e5,qY];generalize hX:aC 0 _ _=X;obtain⟨hh,rfl,q11,qd⟩:=hl _ _ _ hX rfl rfl rfl rfl rfl rfl;have hlen:=(Sv hy ha).2.2;simp only[go_sem,QJ,QM,q11,hlen,QN,QK]
def FW:Nat->Nat->List UInt8
 |0,_=>[]
 |k+1,r=>FW k (r/10)++[UInt8.ofNat (48+r%10)]
theorem Uo{n:Nat}(h:¬n<10):decDigits n=decDigits (n/10)++[UInt8.ofNat (48+n%10)]:=by
 rw[decDigits,dif_neg h]
theorem XU:∀k n,10^k<=n->decDigits n=decDigits (n/10^k)++FW k n
 |0,n,_=>by simp[FW]
 |k+1,n,h=>by
  have hp:1<=10^k:=Nat.one_le_pow _ _ (by decide);rw[ad7]at h;have h1:10^k<=n/10:=by omega
  rw[Uo (by omega),XU k (n/10) h1,Nat.div_div_eq_div_mul,ad7,aeh 10,List.append_assoc];rfl
theorem WU:∀k n,FW k (n%10^k)=FW k n
 |0,n=>rfl
 |k+1,n=>by
  unfold FW;have h1:n%10^ (k+1)/10=n/10%10^k:=by
   rw[ad7,aeh,Nat.mod_mul_right_div_self]
  have h2:n%10^ (k+1) %10=n%10:=by
   rw[ad7,Nat.mod_mul_left_mod]
  rw[h1,WU k,h2]
theorem UQ:∀k r,r<10^ (k+1)->FW (k+1) r=QI (k+1- (decDigits r).length) 48++decDigits r
 |0,r,h=>by
  have h:r<10:=by simpa using h
  rw[decDigits_length,nDigits_small h,decDigits_one h];simp[FW,Nat.mod_eq_of_lt h]
 |k+1,r,h=>by
  rw[decDigits_length];by_cases h10:r<10
  ·have e0:r/10=0:=by omega
   have e1:FW (k+1) 0=QI (k+1) 48:=by
    rw[UQ k 0 (Nat.pow_pos (by decide)),decDigits_length,nDigits_small (by decide),decDigits_one (by decide),List.replicate_succ'];rfl
   unfold FW;rw[e0,e1,nDigits_small h10,decDigits_one h10,Nat.mod_eq_of_lt h10];rfl
  ·have h1:r/10<10^ (k+1):=by
    rw[ad7]at h;omega
   have ih:=UQ k (r/10) h1;rw[decDigits_length]at ih;have hn:nDigits r=nDigits (r/10)+1:=nDigits_big h10;show FW (k+1) (r/10)++_=_;rw[ih,Uo h10,hn,List.append_assoc,show k+1+1- (nDigits (r/10)+1)=k+1-nDigits (r/10)by omega]
def CH(n:Nat):List (List UInt8):=
 if h:n<1000000000 then [decDigits n]else FW 9 n::CH (n/1000000000)
termination_by n
decreasing_by omega
theorem Th{n:Nat}(h:n<1000000000):CH n=[decDigits n]:=by rw[CH,dif_pos h]
theorem Vv{n:Nat}(h:¬n<1000000000):CH n=FW 9 n::CH (n/1000000000):=by rw[CH,dif_neg h]
theorem ab8(n:Nat):(CH n).reverse.flatten=decDigits n:=by
 induction n using Nat.strongRecOn with
 |_ n ih=>
  by_cases h:n<1000000000
  ·rw[Th h];simp
  ·rw[Vv h,List.reverse_cons,List.flatten_append,ih (n/1000000000) (by omega)];have:=XU 9 n (by omega);rw[this];simp
theorem Z6(n:Nat):QI (9- (decDigits (n%1000000000)).length) 48++decDigits (n%1000000000)=FW 9 n:=by
 have h:=UQ 8 (n%1000000000) (Nat.mod_lt _ (by decide));rw[←h];exact WU 9 n
def S6(n:Nat)(s:List UInt8):List UInt8:=
 if h:n=0 then s else S6 (n/10) (UInt8.ofNat (48+n%10)::s)
termination_by n
decreasing_by omega
theorem WV{s:List UInt8}:S6 0 s=s:=by rw[S6,dif_pos rfl]
theorem Z7{n:Nat}{s:List UInt8}(h:n≠0):S6 n s=S6 (n/10) (UInt8.ofNat (48+n%10)::s):=by rw[S6,dif_neg h]
theorem UR(n:Nat):∀s,n≠0->S6 n s=decDigits n++s:=by
 induction n using Nat.strongRecOn with
 |_ n ih=>
  intro s h;rw[Z7 h];by_cases h10:n<10
  ·rw[show n/10=0 by omega,WV,decDigits_one h10,Nat.mod_eq_of_lt h10];rfl
  ·rw[ih (n/10) (by omega) _ (by omega),Uo h10,List.append_assoc];rfl
section
variable {call:bQ} {md:Mode} {s:ah} {h:ac}
@[go_sem] theorem N0(d k x y rest):ae call md (⟨some d,none,.cpy k x y⟩::rest) s h=ak (aN md.nm s (some d) (Bc h k (ev s x) (ev s y))) (ae call md rest):=_root_.id rfl
@[go_sem] theorem LC(d k x lo hi rest):ae call md (⟨some d,none,.slcM k x lo hi⟩::rest) s h=ak (aN md.nm s (some d) (wV h k (ev s x) (evo s lo) (evo s hi))) (ae call md rest):=_root_.id rfl
@[go_sem] theorem N1(d k z x rest):ae call md (⟨d,none,.clr k z x⟩::rest) s h=ak (aN md.nm s d (Bg h k z (ev s x))) (ae call md rest):=_root_.id rfl
@[go_sem] theorem LD(d k b z x n rest):ae call md (⟨some d,none,.appz k b z x n⟩::rest) s h=ak (aN md.nm s (some d) (wX h d k b z (ev s x) (ev s n))) (ae call md rest):=_root_.id rfl
@[go_sem] theorem LE(d x rest):ae call md (⟨some d,none,.take x⟩::rest) s h=ak (aN md.nm s (some d) (Bj h d (ev s x))) (ae call md rest):=_root_.id rfl
@[go_sem] theorem Jv(d f zas rest):ae call md (⟨some d,none,.callC f zas⟩::rest) s h=ak (aN md.nm s (some d) ((aM call md h d (zas.map (ev s)) (ev s f)).bind (qO d))) (ae call md rest):=_root_.id rfl
@[go_sem] theorem HP(d k z n ps rest):ae call md (⟨some d,none,.buildC k z n ps⟩::rest) s h=ak (aN md.nm s (some d) (((dq k h (QI n z) (ps.map fun p=>(p.1,ev s p.2))).bind fun q=>aT q.2.1 d k q.1 n q.2.2).bind sz)) (ae call md rest):=_root_.id rfl
@[go_sem] theorem GB(d k z n ps):step call md d (.buildC k z n ps) s h=((dq k h (QI n z) (ps.map fun p=>(p.1,ev s p.2))).bind fun q=>aT q.2.1 d k q.1 n q.2.2).bind sz:=_root_.id rfl
@[go_sem] theorem GC(ps acc d k z n qs rest):ax call md ps acc (⟨some d,none,.buildC k z n qs⟩::rest) s h=bY call md ps acc rest s (some d) (fun _=>if(qs.all fun p=>dat (ev s p.2))=true then some ([],[ft d])else none) (((dq k h (QI n z) (qs.map fun p=>(p.1,ev s p.2))).bind fun q=>aT q.2.1 d k q.1 n q.2.2).bind sz):=aK _ _ _ _ rfl
@[go_sem] theorem Jw(d k z n qs h'):jZ d (.buildC k z n qs) s h h'=if(qs.all fun p=>dat (ev s p.2))=true then some ([],[ft d])else none:=_root_.id rfl
@[go_sem] theorem Jx(id k lo n h ks):sz (.rsl id none k lo n,h,ks)=(jV h id k lo n (h id)).map (fun q=>(q.1,q.2.1,ks++q.2.2)):=_root_.id rfl
@[go_sem] theorem LG(ps acc d k x y rest):ax call md ps acc (⟨some d,none,.cpy k x y⟩::rest) s h=bY call md ps acc rest s (some d) (fun _=>none) (Bc h k (ev s x) (ev s y)):=aK _ _ _ _ rfl
@[go_sem] theorem LH(ps acc d k b x y rest):ax call md ps acc (⟨some d,none,.app k b x y⟩::rest) s h=bY call md ps acc rest s (some d) (fun _=>none) (A8 h d k b (ev s x) (ev s y)):=aK _ _ _ _ rfl
@[go_sem] theorem HQ(ps acc d f zas rest):ax call md ps acc (⟨some d,none,.callC f zas⟩::rest) s h=bY call md ps acc rest s (some d) (fun _=>xw d h (lW (zas.map (ev s)) (ev s f))) ((aM call md h d (zas.map (ev s)) (ev s f)).bind (qO d)):=aK _ _ _ _ rfl
@[go_sem] theorem Jy(d h l):xw d h l=if l.all dat=true then some ([],[2000+8*d])else none:=_root_.id rfl
@[go_sem] theorem N2(d k r h ks):qO d (.sl k r,h,ks)=some (.sl k r,h,ks):=_root_.id rfl
@[go_sem] theorem LI(d h ks):qO d (.emp,h,ks)=some (.emp,h,ks):=_root_.id rfl
@[go_sem] theorem LJ(d id k lo n h ks):qO d (.rsl id none k lo n,h,ks)=if id=2000+8*d then(jV h id k lo n (h id)).map (fun q=>(q.1,q.2.1,ks++q.2.2))else none:=_root_.id rfl
@[go_sem] theorem N3(h k id k' lo n y):Bc h k (.rsl id none k' lo n) y=(Ba y).bind fun l=>(kD h k (A9 n y)).bind fun ys=>Bb h id k k' lo n l ys (h id):=_root_.id rfl
@[go_sem] theorem N4(k r):Ba (.sl k r)=some r.length:=_root_.id rfl
@[go_sem] theorem LK(id sub k lo n):Ba (.rsl id sub k lo n)=some n:=_root_.id rfl
@[go_sem] theorem N5(m k r):A9 m (.sl k r)=.sl k (r.take m):=_root_.id rfl
@[go_sem] theorem LL(m id sub k lo n):A9 m (.rsl id sub k lo n)=.rsl id sub k lo (min m n):=_root_.id rfl
@[go_sem] theorem N6(h id k lo n l ys r):Bb h id k k lo n l ys (.ar k r)=if lo<=r.length/\ys.length=min l n then some (.v (.int .i64 ys.length),upd h id (.ar k (r.take lo++ys++r.drop (lo+ys.length))),[])else none:=by simp[Bb]
@[go_sem] theorem LM(h k id l0 n lo hi):wV h k (.rsl id none k l0 n) lo hi=wU h k id l0 lo hi (h id):=by simp[wV]
@[go_sem] theorem LN(h k id l0 lo hi r):wU h k id l0 lo hi (.ar k r)=if hi.isSome=true/\l0<=r.length then(jl (r.length-l0) lo hi none).map fun p=>(.rsl id none k (l0+p.1) (p.2-p.1),h,[])else none:=by simp[wU]
@[go_sem] theorem N7(h k z id lo n):Bg h k z (.rsl id none k lo n)=Be h k id lo n z (h id):=by simp[Bg]
@[go_sem] theorem N8(h k id lo n z r):Be h k id lo n z (.ar k r)=if lo+n<=r.length then some (.tup [],upd h id (.ar k (r.take lo++QI n z++r.drop (lo+n))),[])else none:=by simp[Be]
@[go_sem] theorem LO(h d k b z id i c m):wX h d k b z (.rsc id k 0 i c) (.v (.int .i64 m))=if 0<m/\c<i+m.toNat then wW h d k b id i m.toNat z (h id)else none:=by simp[wX]
@[go_sem] theorem LP(h d k b id i m z r):wW h d k b id i m z (.ar k r)=if i<=r.length/\(i+m)*b<=140737488355328 then aT h d k (r.take i++QI m z) (i+m) []else none:=by simp[wW]
@[go_sem] theorem N9(id k lo n c):oB false (.rsc id k lo n c)=some (I n):=_root_.id rfl
@[go_sem] theorem Oa(id k lo n c):C0 (.rsc id k lo n c)=some (I c):=_root_.id rfl
@[go_sem] theorem Oc(k id l0 n c lo hi mx):gO k (.rsc id k l0 n c) lo hi mx=AR k id l0 n c lo hi mx:=by simp[gO]
@[go_sem] theorem Od(k id l0 n c x):AR k id l0 n c none (some x) none=(jK n c (some x)).map fun r=>.rsc id k l0 r c:=_root_.id rfl
@[go_sem] theorem Oe(k id l0 n c x hi):AR k id l0 n c (some x) hi none=(jl n (some x) hi none).map fun p=>.rsl id none k (l0+p.1) (p.2-p.1):=_root_.id rfl
@[go_sem] theorem Of(ks id k lo n c):jC ks (.rsc id k lo n c)=if iT ks id none=true then .any else .rsc id k lo n c:=_root_.id rfl
@[go_sem] theorem LQ(h d id k i j):Bj h d (.ref id none k i j)=Bh h d id (i*k+j) (h id):=_root_.id rfl
@[go_sem] theorem LR(h d id p cs):Bh h d id p (.bx cs)=wY h d id p cs cs[p]?:=_root_.id rfl
@[go_sem] theorem Jz(h d id p cs k r):wY h d id p cs (some (.osl k r))=aT (upd h id (.bx (cs.set p .any))) d k r r.length [(id,true)]:=_root_.id rfl
@[go_sem] theorem JA(h d id p cs):wY h d id p cs (some .emp)=some (.emp,h,[]):=_root_.id rfl
@[go_sem] theorem LS(nm)(s h):lZ nm [] s h=some ⟨s,h⟩:=_root_.id rfl
@[go_sem] theorem JB(nm)(i l s h):lZ nm (i::l) s h=if 200000<=i then(Bn (i-200000) s h (s (i-200000))).bind (fun r=>if ju nm r.2.2 then lZ nm l r.1 r.2.1 else none)else if 100000<=i then lZ nm l s (Bm h (s (i-100000)))else(Fd i s h (s i)).bind fun r=>if ju nm r.2.2 then lZ nm l r.1 r.2.1 else none:=_root_.id rfl
@[go_sem] theorem HR(ks):ju false ks=true:=_root_.id rfl
@[go_sem] theorem Og(i s h id k lo n):Bn i s h (.rsl id none k lo n)=tE i s h id k lo n (h id):=_root_.id rfl
@[go_sem] theorem Oh(i s h id k lo n c):Bn i s h (.rsc id k lo n c)=tE i s h id k lo n (h id):=_root_.id rfl
@[go_sem] theorem Oi(i s h id k lo n r):tE i s h id k lo n (.ar k r)=if lo=0/\bw i=false/\dY (h i)=true then some (upd (jn [(id,false)] s) i (.rsl i none k 0 n),upd (upd h id .dead) i (.ar k r),[(id,false)])else none:=by simp[tE]
@[go_sem] theorem LT(h id k lo n):Bm h (.rsl id none k lo n)=(match h id with| .ar k rows=>upd h id (.ar k (rows.take (lo+n)))|_=>h):=_root_.id rfl
@[go_sem] theorem Oj(nm)(s h):sB nm 0 s h=some ⟨s,h⟩:=_root_.id rfl
@[go_sem] theorem Ol(nm)(i s h):sB nm (i+1) s h=(D3 i s h (s i)).bind fun r=>if ju nm r.2.2 then some ⟨r.1,r.2.1⟩else none:=_root_.id rfl
@[go_sem] theorem Om(i s h):D3 i s h .emp=some (s,h,[]):=_root_.id rfl
@[go_sem] theorem On(i s h id p k lo n):D3 i s h (.rsl id (some p) k lo n)=if bw i=false then Fc i s h id p k lo n (h id)else none:=_root_.id rfl
@[go_sem] theorem P5(i s h id p k lo n cs):Fc i s h id p k lo n (.bx cs)=D0 i s h id p k lo n cs cs[p]?:=_root_.id rfl
@[go_sem] theorem Oo(i s h id p k lo n cs r):D0 i s h id p k lo n cs (some (.osl k r))=if lo=0/\n=r.length/\dY (h i)=true then some (upd (jn [(id,true)] s) i (.rsl i none k 0 n),upd (upd h id (.bx (cs.set p .any))) i (.ar k r),[(id,true)])else none:=by simp[D0]
@[go_sem] theorem Oq(m g ps l):Dj call md m g ps l s h=ak (ax call md ps [] (l.take m) s h) fun s h=>ak (sB md.nm g s h) (ae call md (l.drop m)):=_root_.id rfl
end
abbrev tx(l:List UInt8):AV:=.v (.string ⟨l.toArray⟩)
def JC(l:List (List UInt8)):List (List AV):=l.map fun r=>[tx r]
theorem Rw{a b:List UInt8}(h:a.length+b.length<=9223372036854775807):bS .add (tx a) (tx b)=some (tx (a++b)):=by
 have e:¬ ((ByteArray.mk a.toArray).size+(ByteArray.mk b.toArray).size:Nat)>IntKind.i64.max:=by
  show¬ ((a.toArray.size+b.toArray.size:Nat):Int)>_;simp only[List.size_toArray];have:IntKind.i64.max=9223372036854775807:=by decide
  omega
 show(fY .add _ _).map AV.v=_;unfold fY JK;simp only[if_neg e,ad5];congr 3
theorem toL{a:List UInt8}:(ByteArray.mk a.toArray).toList=a:=by
 rw[ByteArray.toList_eq]
theorem SO{a b:List UInt8}:bS .eql (tx a) (tx b)=some (B (a==b)):=by
 simp only[tx,bS,fY,JK,toL,ad5]
theorem RG{a:List UInt8}:oB true (tx a)=some (I a.length):=by
 show some (I _)=_;simp[ByteArray.size]
theorem S7{a:List UInt8}{i:Nat}{c:UInt8}{k:IntKind}(h:a[i]?=some c):wS (tx a) (.v (.int k i))=some (.v (.int .u8 c.toNat)):=by
 unfold wS;simp only[Int.natCast_nonneg,if_true,QT];have:(ByteArray.mk a.toArray)[i]?=some c:=by
  obtain⟨h1,h2⟩:=List.getElem?_eq_some_iff.1 h;have h3:i< (ByteArray.mk a.toArray).size:=by simpa [ByteArray.size]using h1
  rw[getElem?_pos (ByteArray.mk a.toArray) i h3];show some ((ByteArray.mk a.toArray).data[i]'(by simpa using h1))=_;simp[h2]
 rw[this];rfl
theorem ab9{d:Nat}(h:d<10):Utf8.encode (48+d:Nat)=⟨[UInt8.ofNat (48+d)].toArray⟩:=by
 match d,h with
 |0,_|1,_|2,_|3,_|4,_|5,_|6,_|7,_|8,_|9,_=>rfl
theorem Vh{d:Nat}{k:IntKind}(h:d<10):EZ (.v (.int k ((48+d:Nat):Int)))=some (tx [UInt8.ofNat (48+d)]):=by
 show some (AV.v (.string (Utf8.encode _)))=_;rw[ab9 h]
abbrev bt(n:Nat)(p:n<2^8):UInt8:=⟨⟨⟨n,p⟩⟩⟩
theorem Zb{n:Nat}(p:n<2^8):bt n p=UInt8.ofNat n:=UInt8.toNat_inj.1 (by simp only[UInt8.toNat_ofNat'];exact(Nat.mod_eq_of_lt p).symm)
theorem WX(n:Nat){p:n<2^8}{a:List UInt8}(h:a.length<=9223372036854775806):bS .add (tx a) (tx [bt n p])=some (tx (a++[UInt8.ofNat n])):=by
 rw[Zb,Rw (by simp only[adX,adZ];omega)]
theorem Vi(n:Nat){p:n<2^8}{a:List UInt8}(h:a.length<=9223372036854775806):bS .add (tx [bt n p]) (tx a)=some (tx (UInt8.ofNat n::a)):=by
 rw[Zb,Rw (by simp only[adX,adZ];omega)];rfl
def S8:List (List UInt8):=[[115,116,97,116,101],[112,97,114,97,109],[105,110],[109,111,100,101],[119,104,101,110],[114,105,115,101,115],[102,97,108,108,115],[103,111,116,111],[119,105,116,104],[116,105,109,101],[101,120,112],[108,111,103],[115,105,110],[99,111,115],[115,113,114,116]]
def isLt(c:Nat):Bool:=decide (97<=c)&&decide (c<=122)||decide (65<=c)&&decide (c<=90)
def TF(c:Nat):Bool:=decide (48<=c)&&decide (c<=57)
def Sw(c:UInt8):Bool:=isLt c.toNat||TF c.toNat||decide (c.toNat=95)
def SP(l:List UInt8):Bool:=!l.isEmpty&&isLt (l.headD 0).toNat&&l.all Sw
def Rx(l:List UInt8):Bool:=SP l&& (decide (l.length<=20)&&!S8.contains l)
abbrev u8(n:Nat):AV:=.v (.int .u8 n)
noncomputable def aa5 (n:Nat):Bool:=match gR cQ 40 F.r12_IsLetter [u8 n] []with
 |some (.v (.bool b),[])=>b==isLt n
 |_=>false
noncomputable def aa6 (n:Nat):Bool:=match gR cQ 40 F.r12_IsDigit [u8 n] []with
 |some (.v (.bool b),[])=>b==TF n
 |_=>false
noncomputable def aa7 (n:Nat):Bool:=match gR cQ 40 F.r12_inRun [u8 n] []with
 |some (.v (.bool b),[])=>b== (isLt n||TF n||decide (n=95)||decide (n=46))
 |_=>false
noncomputable def aa8 (n:Nat):Bool:=match gR cQ 40 F.lex_class [u8 n] []with
 |some (.v (.int .i64 k),[])=>decide (k=2)==isLt n&& (decide (k=3)==TF n&&decide (k=4)==decide (n=95))
 |_=>false
theorem ac8:((List.range 256).all fun n=>aa5 n&& (aa6 n&& (aa7 n&&aa8 n)))=true:=by kernel_rfl
theorem Wn{n:Nat}(h:n<256):aa5 n=true/\aa6 n=true/\aa7 n=true/\aa8 n=true:=by
 have:=List.all_eq_true.1 ac8 n (List.mem_range.2 h);simpa only[QQ]using this
theorem acJ{n:Nat}(h:n<256):R F.r12_IsLetter [u8 n] []=some (B (isLt n),[]):=by
 have h1:=(Wn h).1;unfold aa5 at h1;split at h1
 ·rename_i b e;rw[←eq_of_beq h1];exact Tu e
 ·cases h1
theorem acK{n:Nat}(h:n<256):R F.r12_IsDigit [u8 n] []=some (B (TF n),[]):=by
 have h1:=(Wn h).2.1;unfold aa6 at h1;split at h1
 ·rename_i b e;rw[←eq_of_beq h1];exact Tu e
 ·cases h1
theorem aa9{n:Nat}(h:n<256):R F.r12_inRun [u8 n] []=some (B (isLt n||TF n||decide (n=95)||decide (n=46)),[]):=by
 have h1:=(Wn h).2.2.1;unfold aa7 at h1;split at h1
 ·rename_i b e;rw[←eq_of_beq h1];exact Tu e
 ·cases h1
theorem WY{n:Nat}(h:n<256):∃k,R F.lex_class [u8 n] []=some (I k,[])/\decide (k=2)=isLt n/\decide (k=3)=TF n/\decide (k=4)=decide (n=95):=by
 have h1:=(Wn h).2.2.2;unfold aa8 at h1;split at h1
 ·rename_i k e;simp only[QQ,beq_iff_eq]at h1;exact⟨k,Tu e,h1⟩
 ·cases h1
theorem b8(c:UInt8):c.toNat<256:=c.toNat_lt
theorem aba(c:UInt8):(decide ((c.toNat:Int)=46)||!(isLt c.toNat||TF c.toNat||decide (c.toNat=95)||decide (c.toNat=46)))=!Sw c:=by
 unfold Sw;have e:decide ((c.toNat:Int)=46)=decide (c.toNat=46):=by
  rw[decide_eq_decide];omega
 rw[e];by_cases h:c.toNat=46
 ·rw[h];rfl
 ·rw[decide_eq_false h];simp
theorem abb{s:List UInt8}(hs:s.length<=9223372036854775807):∀rest (n:Nat),s.drop n=rest->n<=s.length->∀ (S:ah) (h:ac),S 0=tx s->S 3=I n->
  aC 0 [0] (bX (aj R (bA false) sT) [0,3] [] S h)=some (if rest.all Sw=true then(.normal,⟨upd (fun _=>.any) 0 (tx s),fun _=>.dead⟩)else(.ret,⟨upd (fun _=>.any) 2 (B false),fun _=>.dead⟩)):=by
 intro rest;induction rest with
 |nil=>
  intro n hd hn S h g0 g3;have e:n=s.length:=by
   have:=congrArg List.length hd;grind
  have e1:((n:Int)< (s.length:Int))=False:=ff (by omega);rw[aD];simp only[sT,go_sem,QH,QG,QJ,QM,QP,adT,adU,adS,decide_false,decide_true,ne_eq,not_false_eq_true,g0,g3,RG,e1,List.all_nil]
 |cons c rest ih=>
  intro n hd hn S h g0 g3;have hlt:n<s.length:=by
   have:=congrArg List.length hd;grind
  have hc:s[n]?=some c:=by
   have:=congrArg (·[0]?) hd;grind
  have ih':=ih (n+1) (by rw[←List.drop_drop,hd];rfl) hlt;have e1:((n:Int)< (s.length:Int))=True:=tt (by omega);have e2:=S7 (k:=.i64) hc;have e3:IntKind.i64.wrap (n+1)=(n+1):=i64_in _ ⟨by omega,by omega⟩;have e4:=aa9 (b8 c);have e5:=aba c;rw[aD];generalize bX _ _ _=L at ih'⊢;rw[List.all_cons];by_cases h46:(c.toNat:Int)=46
  ·have e6:=tt h46;rw[decide_eq_true h46,Bool.true_or]at e5;have e7:Sw c=false:=by simpa using e5.symm
   simp only[sT,go_sem,QH,QG,QJ,QM,QP,adT,adU,adS,decide_false,decide_true,ne_eq,not_false_eq_true,g0,g3,RG,e1,e2,e6,e7,ad2,ad0]
  ·have e6:=ff h46;rw[decide_eq_false h46,Bool.false_or,Bool.not_inj_iff]at e5;rw[e5]at e4;cases hw:Sw c with
   |false=>
    rw[hw]at e4;simp only[sT,go_sem,QH,QG,QJ,QM,QP,adT,adU,adS,decide_false,decide_true,ne_eq,not_false_eq_true,g0,g3,RG,e1,e2,e3,e4,e6,Bool.not_false,ad2,ad0]
   |true=>
    rw[hw]at e4;simp only[sT,go_sem,QH,QG,QJ,QM,QP,adT,adU,adS,decide_false,decide_true,ne_eq,not_false_eq_true,g0,g3,RG,e1,e2,e3,e4,e6,Bool.not_true,adY,ad0];refine ih' _ _ ?_ ?_<;>rfl
theorem abP{a b:List UInt8}:bS .neq (tx a) (tx b)=some (B (a !=b)):=by
 simp only[tx,bS,fY,JK,toL,ad5];rfl
theorem Z8{s:List UInt8}(hs:s.length<=9223372036854775807):R F.r12_wordly [tx s] []=some (B (SP s),[]):=by
 refine aX WS rfl ?_;have hl:∀ (S:ah) (h:ac) (X:Option (Ex×St)),aC 0 [0] (bX (aj R (bA false) sT) [0,3] [] S h)=X->S 0=tx s->S 3=I 0->X=some (if s.all Sw=true then(.normal,⟨upd (fun _=>.any) 0 (tx s),fun _=>.dead⟩)else(.ret,⟨upd (fun _=>.any) 2 (B false),fun _=>.dead⟩)):=fun S h X hX g0 g3=>by
  rw[←hX];exact abb hs s 0 rfl (aei _) S h g0 g3
 simp only[wn,yv,go_sem,QH,QG,QJ,QM,QP,adT,adU,adS,decide_false,decide_true,ne_eq,not_false_eq_true];generalize hX:aC 0 _ _=X;rw[hl _ _ _ hX rfl rfl];unfold SP;cases hw:s.all Sw with
 |false=>simp only[go_sem,QH,QG,QJ,QM,QP,adT,adU,adS,decide_false,decide_true,ne_eq,not_false_eq_true,ad0,Bool.and_false]
 |true=>
  cases s with
  |nil=>
   have e1:=abP (a:=[]) (b:=[]);rw[show((([]:List UInt8) !=[])=false)from rfl]at e1;simp only[tx]at e1;simp only[go_sem,QH,QG,QJ,QM,QP,adT,adU,adS,decide_false,decide_true,ne_eq,not_false_eq_true,e1,tx];rfl
  |cons c l=>
   have e1:=abP (a:=c::l) (b:=[]);rw[show((c::l) !=[])=true from rfl]at e1;simp only[tx]at e1;have e2:wS (tx (c::l)) (I 0)=some (u8 c.toNat):=S7 (i:=0) rfl;simp only[tx]at e2;have e4:=acJ (b8 c);have e3:∀d h,aM R (bA false) h d [u8 c.toNat] (.fn F.r12_IsLetter [] [])=fE h d (some (B (isLt c.toNat),[])):=fun d h=>by
    rw[mV d (Eo.1.2.1 false) rfl,Eo.1.1 false];exact congrArg _ e4
   simp only[go_sem,QH,QG,QJ,QM,QP,adT,adU,adS,decide_false,decide_true,ne_eq,not_false_eq_true,e1,e2,e4,tx,List.isEmpty_cons,List.headD_cons,Bool.not_false,adY,Bool.and_true]
theorem Z9{s:List UInt8}(hs:s.length<=9223372036854775807):∀rest (n:Nat),s.drop n=rest->n<=s.length->∀ (p d:Nat),p<=n->d<=n->∀ (S:ah) (h:ac),S 0=tx s->S 4=I p->S 5=I d->S 6=I n->
  ∃X,aC 0 [0,4,5] (bX (aj R (bA false) rQ) [0,4,5,6] [] S h)=some X/\((∃p' d':Nat,X=(.normal,⟨upd (upd (upd (fun _=>.any) 5 (I d')) 4 (I p')) 0 (tx s),fun _=>.dead⟩))\/X=(.ret,⟨upd (upd (fun _=>.any) 3 (B false)) 2 (I 0),fun _=>.dead⟩)):=by
 intro rest;induction rest with
 |nil=>
  intro n hd hn p d hp hdd S h g0 g4 g5 g6;have e:n=s.length:=by
   have:=congrArg List.length hd;grind
  have e1:((n:Int)< (s.length:Int))=False:=ff (by omega);rw[aD];simp only[rQ,go_sem,QH,QG,QJ,QM,QP,adT,adU,adS,decide_false,decide_true,ne_eq,not_false_eq_true,g0,g4,g5,g6,RG,e1];exact⟨_,rfl,Or.inl ⟨p,d,rfl⟩⟩
 |cons c rest ih=>
  intro n hd hn p d hp hdd S h g0 g4 g5 g6;have hlt:n<s.length:=by
   have:=congrArg List.length hd;grind
  have hc:s[n]?=some c:=by
   have:=congrArg (·[0]?) hd;grind
  have ih':=ih (n+1) (by rw[←List.drop_drop,hd];rfl) hlt;have e1:((n:Int)< (s.length:Int))=True:=tt (by omega);have e2:=S7 (k:=.i64) hc;have e3:IntKind.i64.wrap (n+1)=(n+1):=i64_in _ ⟨by omega,by omega⟩;have w1:IntKind.i64.wrap (p+1)=(p+1):=i64_in _ ⟨by omega,by omega⟩;have w2:IntKind.i64.wrap (d+1)=(d+1):=i64_in _ ⟨by omega,by omega⟩;have e4:=acK (b8 c);rw[aD];generalize bX _ _ _=L at ih'⊢;by_cases h46:(c.toNat:Int)=46
  ·have e6:=tt h46;simp only[rQ,go_sem,QH,QG,QJ,QM,QP,adT,adU,adS,decide_false,decide_true,ne_eq,not_false_eq_true,g0,g4,g5,g6,RG,e1,e2,e3,e6,w1];refine ih' (p+1) d (by omega) (by omega) _ _ ?_ ?_ ?_ ?_<;>rfl
  ·have e6:=ff h46;cases hw:TF c.toNat with
   |false=>
    rw[hw]at e4;simp only[rQ,go_sem,QH,QG,QJ,QM,QP,adT,adU,adS,decide_false,decide_true,ne_eq,not_false_eq_true,g0,g4,g5,g6,RG,e1,e2,e3,e4,e6];exact⟨_,rfl,Or.inr rfl⟩
   |true=>
    rw[hw]at e4;simp only[rQ,go_sem,QH,QG,QJ,QM,QP,adT,adU,adS,decide_false,decide_true,ne_eq,not_false_eq_true,g0,g4,g5,g6,RG,e1,e2,e3,e4,e6,w2];refine ih' p (d+1) (by omega) (by omega) _ _ ?_ ?_ ?_ ?_<;>rfl
theorem Zc{s:List UInt8}(hs:s.length<=9223372036854775807):∃ (n:Int) (b:Bool),R F.r12_numeric [tx s] []=some (.tup [I n,B b],[]):=by
 have hl:∀ (S:ah) (h:ac) (X:Option (Ex×St)),aC 0 [0,4,5] (bX (aj R (bA false) rQ) [0,4,5,6] [] S h)=X->S 0=tx s->S 4=I 0->S 5=I 0->S 6=I 0->
   (∃p' d':Nat,X=some (.normal,⟨upd (upd (upd (fun _=>.any) 5 (I d')) 4 (I p')) 0 (tx s),fun _=>.dead⟩))\/X=some (.ret,⟨upd (upd (fun _=>.any) 3 (B false)) 2 (I 0),fun _=>.dead⟩):=fun S h X hX g0 g4 g5 g6=>by
  obtain⟨Y,h1,h2⟩:=Z9 hs s 0 rfl (aei _) 0 0 (QK _) (QK _) S h g0 g4 g5 g6;rw[←hX,h1];rcases h2 with⟨p,d,rfl⟩|rfl
  ·exact Or.inl ⟨p,d,rfl⟩
  ·exact Or.inr rfl
 suffices hq:∃ (n:Int) (b:Bool),oH false uq.rs uq.res 0 (aj R (bA false) uq.body (oI [tx s]) fun _=>.dead)=some (.tup [I n,B b],[])by
  obtain⟨n,b,hq⟩:=hq;exact⟨n,b,aX Wj rfl hq⟩
 simp only[uq,wr,go_sem,QH,QG,QJ,QM,QP,adT,adU,adS,decide_false,decide_true,ne_eq,not_false_eq_true];generalize hX:aC 0 _ _=X;rcases hl _ _ _ hX rfl rfl rfl rfl with⟨p,d,rfl⟩|rfl
 ·by_cases hp:1< (p:Int)
  ·have e1:=tt hp;simp only[go_sem,QH,QG,QJ,QM,QP,adT,adU,adS,decide_false,decide_true,ne_eq,not_false_eq_true,e1];exact⟨_,_,rfl⟩
  ·have e1:=ff hp;cases s with
   |nil=>
    have e2:=SO (a:=[]) (b:=[]);rw[show((([]:List UInt8)==[])=true)from rfl]at e2;simp only[tx]at e2;simp only[go_sem,QH,QG,QJ,QM,QP,adT,adU,adS,decide_false,decide_true,ne_eq,not_false_eq_true,e1,e2,tx];exact⟨_,_,rfl⟩
   |cons c l=>
    have e2:=SO (a:=c::l) (b:=[]);rw[show(((c::l)==[])=false)from rfl]at e2;have e3:wS (tx (c::l)) (I 0)=some (u8 c.toNat):=S7 (i:=0) rfl;have e4:IntKind.i64.wrap (((l.length+1:Nat):Int)-1)=(l.length:Int):=by
     rw[adX]at hs;rw[i64_in _ ⟨by omega,by omega⟩];omega
    obtain⟨z,hz⟩:∃z,(c::l)[l.length]?=some z:=⟨(c::l)[l.length],adW (by simp)⟩;have e5:=S7 (k:=.i64) hz;have e6:=RG (a:=c::l);rw[adX]at e6;simp only[tx]at e2 e3 e5 e6;by_cases h1:(c.toNat:Int)=46
    ·have e7:=tt h1;simp only[go_sem,QH,QG,QJ,QM,QP,adT,adU,adS,decide_false,decide_true,ne_eq,not_false_eq_true,e1,e2,e3,e7,tx];exact⟨_,_,rfl⟩
    ·have e7:=ff h1;by_cases h2:(z.toNat:Int)=46
     ·have e8:=tt h2;simp only[go_sem,QH,QG,QJ,QM,QP,adT,adU,adS,decide_false,decide_true,ne_eq,not_false_eq_true,e1,e2,e3,e4,e5,e6,e7,e8,tx];exact⟨_,_,rfl⟩
     ·have e8:=ff h2;simp only[go_sem,QH,QG,QJ,QM,QP,adT,adU,adS,decide_false,decide_true,ne_eq,not_false_eq_true,e1,e2,e3,e4,e5,e6,e7,e8,tx];exact⟨_,_,rfl⟩
 ·simp only[go_sem,QH,QG,QJ,QM,QP,adT,adU,adS,decide_false,decide_true,ne_eq,not_false_eq_true];exact⟨_,_,rfl⟩
theorem aca{s:List UInt8}(hs:s.length<=9223372036854775807):∃k e:Int,R F.r12_kind [tx s] []=some (.tup [I k,I e],[])/\decide (k=1)=(SP s&&decide (s.length<=20)):=by
 suffices hq:∃k e:Int,oH false zU.rs zU.res 0 (aj R (bA false) zU.body (oI [tx s]) fun _=>.dead)=some (.tup [I k,I e],[])/\decide (k=1)=(SP s&&decide (s.length<=20))by
  obtain⟨k,e,hq,h2⟩:=hq;exact⟨k,e,aX Y7 rfl hq,h2⟩
 have hw:=Z8 hs;obtain⟨n,b,hn⟩:=Zc hs;have hl:=RG (a:=s);cases h1:SP s with
 |true=>
  rw[h1]at hw;by_cases h2:s.length<=20
  ·have e1:(20< (s.length:Int))=False:=ff (by omega);simp only[zU,BV,go_sem,QH,QG,QJ,QM,QP,adT,adU,adS,decide_false,decide_true,ne_eq,not_false_eq_true,hw,hl,e1,h2];exact⟨_,_,rfl,rfl⟩
  ·have e1:(20< (s.length:Int))=True:=tt (by omega);simp only[zU,BV,go_sem,QH,QG,QJ,QM,QP,adT,adU,adS,decide_false,decide_true,ne_eq,not_false_eq_true,hw,hl,e1,h2];exact⟨_,_,rfl,rfl⟩
 |false=>
  rw[h1]at hw;cases b with
  |false=>
   simp only[zU,BV,go_sem,QH,QG,QJ,QM,QP,adT,adU,adS,decide_false,decide_true,ne_eq,not_false_eq_true,hw,hn];exact⟨_,_,rfl,rfl⟩
  |true=>
   by_cases h2:18<n
   ·have e1:=tt h2;simp only[zU,BV,go_sem,QH,QG,QJ,QM,QP,adT,adU,adS,decide_false,decide_true,ne_eq,not_false_eq_true,hw,hn,e1];exact⟨_,_,rfl,rfl⟩
   ·have e1:=ff h2;simp only[zU,BV,go_sem,QH,QG,QJ,QM,QP,adT,adU,adS,decide_false,decide_true,ne_eq,not_false_eq_true,hw,hn,e1];exact⟨_,_,rfl,rfl⟩
theorem XI:R F.r12_Reserved [] []=some (.sl 1 (JC S8),[]):=Tu (n:=40) (by kernel_rfl)
theorem acb{s:List UInt8}{K:List (List UInt8)}(hK:K.length<=100):∀rest (n:Nat),K.drop n=rest->n<=K.length->∀ (S:ah) (h:ac),S 0=tx s->S 3=.sl 1 (JC K)->S 4=I n->
  aC 0 [] (bX (aj R (bA false) rN) [0,3,4] [] S h)=some (if rest.contains s=true then(.ret,⟨upd (fun _=>.any) 2 (B true),fun _=>.dead⟩)else(.normal,⟨fun _=>.any,fun _=>.dead⟩)):=by
 intro rest;induction rest with
 |nil=>
  intro n hd hn S h g0 g3 g4;have e:n=K.length:=by
   have:=congrArg List.length hd;grind
  have e1:((n:Int)< ((JC K).length:Int))=False:=ff (by simp only[JC,List.length_map];omega);rw[aD];simp only[rN,go_sem,QH,QG,QJ,QM,QP,adT,adU,adS,decide_false,decide_true,ne_eq,not_false_eq_true,g0,g3,g4,e1,List.contains_nil,ad0]
 |cons c rest ih=>
  intro n hd hn S h g0 g3 g4;have hlt:n<K.length:=by
   have:=congrArg List.length hd;grind
  have hc:K[n]?=some c:=by
   have:=congrArg (·[0]?) hd;grind
  have ih':=ih (n+1) (by rw[←List.drop_drop,hd];rfl) hlt;have e1:((n:Int)< ((JC K).length:Int))=True:=tt (by simp only[JC,List.length_map];omega);have e2:ey (JC K) n=some (.ipt [tx c]):=by
   have h2:(JC K)[n]?=some [tx c]:=by
    rw[JC,aeb,hc];rfl
   grind[ey]
  have e3:IntKind.i64.wrap (n+1)=(n+1):=i64_in _ ⟨by omega,by omega⟩;have e4:=SO (a:=c) (b:=s);rw[List.contains_cons,show(s==c)=(c==s)from Bool.beq_comm ..];simp only[tx]at e2 e4 g0;rw[aD];generalize bX _ _ _=L at ih'⊢;cases hb:c==s with
  |true=>
   rw[hb]at e4;simp only[rN,go_sem,QH,QG,QJ,QM,QP,adT,adU,adS,decide_false,decide_true,ne_eq,not_false_eq_true,g0,g3,g4,e1,e2,e3,e4,Bool.true_or]
  |false=>
   rw[hb]at e4;simp only[rN,go_sem,QH,QG,QJ,QM,QP,adT,adU,adS,decide_false,decide_true,ne_eq,not_false_eq_true,g0,g3,g4,e1,e2,e3,e4,Bool.false_or];refine ih' _ _ ?_ ?_ ?_<;>rfl
theorem WZ{s:List UInt8}:R F.r12_Keyword [tx s] []=some (B (S8.contains s),[]):=by
 refine aX Wg rfl ?_;have hr:=XI;have hK:S8.length<=100:=by decide
 generalize S8=K at hK hr⊢;have hl:∀ (S:ah) (h:ac) (X:Option (Ex×St)),aC 0 [] (bX (aj R (bA false) rN) [0,3,4] [] S h)=X->S 0=tx s->S 3=.sl 1 (JC K)->S 4=I 0->X=some (if K.contains s=true then(.ret,⟨upd (fun _=>.any) 2 (B true),fun _=>.dead⟩)else(.normal,⟨fun _=>.any,fun _=>.dead⟩)):=fun S h X hX g0 g3 g4=>by
  rw[←hX];exact acb hK K 0 rfl (aei _) S h g0 g3 g4
 simp only[ug,wh,go_sem,QH,QG,QJ,QM,QP,adT,adU,adS,decide_false,decide_true,ne_eq,not_false_eq_true,hr];generalize hX:aC 0 _ _=X;rw[hl _ _ _ hX rfl rfl rfl];cases hb:K.contains s with
 |true=>simp only[go_sem,QH,QG,QJ,QM,QP,adT,adU,adS,decide_false,decide_true,ne_eq,not_false_eq_true]
 |false=>simp only[go_sem,QH,QG,QJ,QM,QP,adT,adU,adS,decide_false,decide_true,ne_eq,not_false_eq_true,ad0]
theorem aaa{s:List UInt8}(hs:s.length<=9223372036854775807):R F.r12_Name [tx s] []=some (B (Rx s),[]):=by
 refine aX Y0 rfl ?_;obtain⟨k,e,h1,h2⟩:=aca hs;have hk:=WZ (s:=s);have hn:Rx s=(decide (k=1)&&!S8.contains s):=by
  unfold Rx;rw[h2,Bool.and_assoc]
 rw[hn];generalize S8.contains s=b at hk⊢;by_cases h3:k=1
 ·have e1:(k=1)=True:=tt h3;rw[decide_eq_true h3];simp only[zN,BP,go_sem,QH,QG,QJ,QM,QP,adT,adU,adS,decide_false,decide_true,ne_eq,not_false_eq_true,h1,hk,e1,adY]
 ·have e1:(k=1)=False:=ff h3;rw[decide_eq_false h3];simp only[zN,BP,go_sem,QH,QG,QJ,QM,QP,adT,adU,adS,decide_false,decide_true,ne_eq,not_false_eq_true,h1,e1,ad2]
def Y4(X:Option (Ex×St))(b:Bool):Prop:=∃S:ah,X=some (.normal,⟨S,fun _=>.dead⟩)/\S 4=B b
theorem ado{b:Bool}:Y4 (some (.normal,⟨upd (fun _=>.any) 4 (B b),fun _=>.dead⟩)) b:=⟨_,rfl,rfl⟩
theorem Sk{b c:Bool}{X:Option (Ex×St)}{t:AV}(h:Y4 X c):Y4 (gu (some (.normal,⟨upd (upd (fun _=>.any) 4 (B b)) 3 t,fun _=>.dead⟩)) X (B b)) (b||c):=by
 cases b with
 |true=>exact⟨_,rfl,rfl⟩
 |false=>exact h
def XV(s:List UInt8):List UInt8->List (List UInt8)->Bool
 |l,[]=>s==l
 |l,m::K=>s==l||XV s m K
theorem aab{s:List UInt8}:∀K l,XV s l K=(l::K).contains s
 |[],l=>by rw[XV,List.contains_cons,List.contains_nil,Bool.or_false]
 |m::K,l=>by rw[XV,aab K m,List.contains_cons (a:=l)]
theorem Wk{s:List UInt8}:R F.lex_Keyword [tx s] []=some (B (S8.contains s),[]):=by
 refine aX We rfl ?_;have hk:XV s S8.head! S8.tail=S8.contains s:=aab _ _;generalize S8.contains s=K at hk⊢;simp only[tZ,vW,tx,go_sem,QH,QG,QJ,QM,QP,adT,adU,adS,decide_false,decide_true,ne_eq,not_false_eq_true];simp only[go_sem,QH,QG,QJ,QM,QP,adT,adU,adS,decide_false,decide_true,ne_eq,not_false_eq_true,SO];generalize hX:gu _ _ (B _)=X;obtain⟨c,hy,hc⟩:∃c,Y4 X c/\c=XV s S8.head! S8.tail:=⟨_,by rw[←hX];exact Sk (Sk (Sk (Sk (Sk (Sk (Sk (Sk (Sk (Sk (Sk (Sk (Sk (Sk ado))))))))))))),by kernel_rfl⟩;rw[hk]at hc;subst hc;obtain⟨S,rfl,h4⟩:=hy;cases c with
 |true=>simp only[go_sem,QH,QG,QJ,QM,QP,adT,adU,adS,decide_false,decide_true,ne_eq,not_false_eq_true,h4]
 |false=>simp only[go_sem,QH,QG,QJ,QM,QP,adT,adU,adS,decide_false,decide_true,ne_eq,not_false_eq_true,h4,ad0]
theorem abc{s:List UInt8}(hs:s.length<=9223372036854775807):∀rest (n:Nat),s.drop n=rest->n<=s.length->∀ (S:ah) (h:ac),S 0=tx s->S 14=I s.length->S 15=I n->
  aC 0 [] (bX (aj R (bA false) vV) [0,14,15] [] S h)=some (if rest.all Sw=true then(.normal,⟨fun _=>.any,fun _=>.dead⟩)else(.ret,⟨upd (fun _=>.any) 2 (B false),fun _=>.dead⟩)):=by
 intro rest;induction rest with
 |nil=>
  intro n hd hn S h g0 g14 g15;have e:n=s.length:=by
   have:=congrArg List.length hd;grind
  have e1:((n:Int)< (s.length:Int))=False:=ff (by omega);rw[aD];simp only[vV,go_sem,QH,QG,QJ,QM,QP,adT,adU,adS,decide_false,decide_true,ne_eq,not_false_eq_true,g0,g14,g15,e1,List.all_nil]
 |cons c rest ih=>
  intro n hd hn S h g0 g14 g15;have hlt:n<s.length:=by
   have:=congrArg List.length hd;grind
  have hc:s[n]?=some c:=by
   have:=congrArg (·[0]?) hd;grind
  have ih':=ih (n+1) (by rw[←List.drop_drop,hd];rfl) hlt;have e1:((n:Int)< (s.length:Int))=True:=tt (by omega);have e2:=S7 (k:=.i64) hc;have e3:IntKind.i64.wrap (n+1)=(n+1):=i64_in _ ⟨by omega,by omega⟩;obtain⟨k,e4,k1,k2,k3⟩:=WY (b8 c);have hw:Sw c=(decide (k=2)||decide (k=3)||decide (k=4)):=by rw[k1,k2,k3,Sw]
  rw[aD];generalize bX _ _ _=L at ih'⊢;rw[List.all_cons,hw];clear k1 k2 k3 hw;by_cases q1:k=2
  ·have e5:=tt q1;simp only[vV,go_sem,QH,QG,QJ,QM,QP,adT,adU,adS,decide_false,decide_true,ne_eq,not_false_eq_true,g0,g14,g15,e1,e2,e3,e4,e5,Bool.true_or,adY];refine ih' _ _ ?_ ?_ ?_<;>rfl
  ·have e5:=ff q1;by_cases q2:k=3
   ·have e6:=tt q2;simp only[vV,go_sem,QH,QG,QJ,QM,QP,adT,adU,adS,decide_false,decide_true,ne_eq,not_false_eq_true,g0,g14,g15,e1,e2,e3,e4,e5,e6,Bool.true_or,Bool.or_true,adY];refine ih' _ _ ?_ ?_ ?_<;>rfl
   ·have e6:=ff q2;by_cases q3:k=4
    ·have e7:=tt q3;simp only[vV,go_sem,QH,QG,QJ,QM,QP,adT,adU,adS,decide_false,decide_true,ne_eq,not_false_eq_true,g0,g14,g15,e1,e2,e3,e4,e5,e6,e7,Bool.or_true,adY];refine ih' _ _ ?_ ?_ ?_<;>rfl
    ·have e7:=ff q3;simp only[vV,go_sem,QH,QG,QJ,QM,QP,adT,adU,adS,decide_false,decide_true,ne_eq,not_false_eq_true,g0,g14,g15,e1,e2,e3,e4,e5,e6,e7,Bool.or_false,ad2,ad0]
theorem Zd{s:List UInt8}(hs:s.length<=9223372036854775807):R F.lex_word [tx s] []=some (B (SP s),[]):=by
 refine aX Y5 rfl ?_;unfold SP;cases s with
 |nil=>
  have e1:=SO (a:=[]) (b:=[]);rw[show((([]:List UInt8)==[])=true)from rfl]at e1;simp only[tx]at e1;simp only[zS,BS,go_sem,QH,QG,QJ,QM,QP,adT,adU,adS,decide_false,decide_true,ne_eq,not_false_eq_true,e1,tx];rfl
 |cons c l=>
  have hl:∀ (S:ah) (h:ac) (X:Option (Ex×St)),aC 0 [] (bX (aj R (bA false) vV) [0,14,15] [] S h)=X->S 0=tx (c::l)->S 14=I (c::l).length->S 15=I 0->X=some (if(c::l).all Sw=true then(.normal,⟨fun _=>.any,fun _=>.dead⟩)else(.ret,⟨upd (fun _=>.any) 2 (B false),fun _=>.dead⟩)):=fun S h X hX g0 g14 g15=>by
   rw[←hX];exact abc hs (c::l) 0 rfl (aei _) S h g0 g14 g15
  have e1:=SO (a:=c::l) (b:=[]);rw[show(((c::l)==[])=false)from rfl]at e1;have e2:wS (tx (c::l)) (I 0)=some (u8 c.toNat):=S7 (i:=0) rfl;have e3:=RG (a:=c::l);obtain⟨k,e4,k1,k2,k3⟩:=WY (b8 c);rw[List.headD_cons,←k1];clear k1 k2 k3;simp only[List.isEmpty_cons,Bool.not_false,adY];generalize(c::l).all Sw=w at hl⊢;generalize c::l=s at hl e1 e2 e3⊢;simp only[tx]at e1 e2 e3;by_cases q1:k=2
  ·have e5:=tt q1;simp only[zS,BS,go_sem,QH,QG,QJ,QM,QP,adT,adU,adS,decide_false,decide_true,ne_eq,not_false_eq_true,e1,e2,e3,e4,e5,tx,adY];generalize hX:aC 0 [] (bX _ _ _ _ _)=X;rw[hl _ _ _ hX rfl rfl rfl];cases w with
   |true=>simp only[go_sem,QH,QG,QJ,QM,QP,adT,adU,adS,decide_false,decide_true,ne_eq,not_false_eq_true]
   |false=>simp only[go_sem,QH,QG,QJ,QM,QP,adT,adU,adS,decide_false,decide_true,ne_eq,not_false_eq_true,ad0]
  ·have e5:=ff q1;simp only[zS,BS,go_sem,QH,QG,QJ,QM,QP,adT,adU,adS,decide_false,decide_true,ne_eq,not_false_eq_true,e1,e2,e3,e4,e5,tx,ad2]
theorem Ze{s:List UInt8}(hs:s.length<=9223372036854775807):R F.lex_Name [tx s] []=some (B (Rx s),[]):=by
 refine aX YZ rfl ?_;have hw:=Zd hs;have hk:=Wk (s:=s);have hl:=RG (a:=s);unfold Rx;generalize S8.contains s=b at hk⊢;generalize SP s=v at hw⊢;cases v with
 |false=>simp only[zJ,BO,go_sem,QH,QG,QJ,QM,QP,adT,adU,adS,decide_false,decide_true,ne_eq,not_false_eq_true,hw,ad2]
 |true=>
  by_cases h2:s.length<=20
  ·have e1:((s.length:Int)<=20)=True:=tt (by omega);rw[decide_eq_true h2];simp only[zJ,BO,go_sem,QH,QG,QJ,QM,QP,adT,adU,adS,decide_false,decide_true,ne_eq,not_false_eq_true,hw,hk,hl,e1,adY]
  ·have e1:((s.length:Int)<=20)=False:=ff (by omega);rw[decide_eq_false h2];simp only[zJ,BO,go_sem,QH,QG,QJ,QM,QP,adT,adU,adS,decide_false,decide_true,ne_eq,not_false_eq_true,hw,hk,hl,e1,adY,ad2]
def ai(n:Nat):Nat:=if n=0 then 0 else n.log2+1
theorem fX{n k}:ai n<=k↔n<2^k:=by
 unfold ai;grind[Nat.succ_le_iff,Nat.log2_lt]
theorem CI{x y k}(h:x<=y)(h2:ai y<=k):ai x<=k:=fX.2 (Nat.lt_of_le_of_lt h (fX.1 h2))
theorem lQ{n k}:k<ai n↔2^k<=n:=by
 have:=@fX n k;omega
theorem CJ:ai 0=0:=rfl
theorem pe{n}(h:n≠0):0<ai n:=by
 rw[lQ];omega
theorem sj(n k):ai (n/2^k)=ai n-k:=by
 have h:∀j,ai (n/2^k)<=j↔ai n-k<=j:=fun j=>by
  simp_all[fX,Nat.div_lt_iff_lt_mul,Nat.two_pow_pos,Nat.pow_add]
 have h1:=(h _).1 (QK _);have h2:=(h _).2 (QK _);omega
theorem pf{n}(k)(hn:n≠0):ai (n*2^k)=ai n+k:=by
 grind[sj,Nat.mul_div_cancel,Nat.two_pow_pos,ai,lQ,Nat.le_mul_of_pos_left]
def B4:ByteArray:=⟨#[0,1,2,2,3,3,3,3,4,4,4,4,4,4,4,4,5,5,5,5,5,5,5,5,5,5,5,5,5,5,5,5,6,6,6,6,6,6,6,6,6,6,6,6,6,6,6,6,6,6,6,6,6,6,6,6,6,6,6,6,6,6,6,6,7,7,7,7,7,7,7,7,7,7,7,7,7,7,7,7,7,7,7,7,7,7,7,7,7,7,7,7,7,7,7,7,7,7,7,7,7,7,7,7,7,7,7,7,7,7,7,7,7,7,7,7,7,7,7,7,7,7,7,7,7,7,7,7,8,8,8,8,8,8,8,8,8,8,8,8,8,8,8,8,8,8,8,8,8,8,8,8,8,8,8,8,8,8,8,8,8,8,8,8,8,8,8,8,8,8,8,8,8,8,8,8,8,8,8,8,8,8,8,8,8,8,8,8,8,8,8,8,8,8,8,8,8,8,8,8,8,8,8,8,8,8,8,8,8,8,8,8,8,8,8,8,8,8,8,8,8,8,8,8,8,8,8,8,8,8,8,8,8,8,8,8,8,8,8,8,8,8,8,8,8,8,8,8,8,8,8,8,8,8,8,8]⟩
theorem DD:((List.range 256).all fun x=>(B4[x]?).map (·.toNat)==some (ai x))=true:=by decide+kernel
theorem B5{x:Nat}(h:x<256):wS (.v (.string B4)) (.v (.int .u8 x))=some (.v (.int .u8 (ai x))):=by
 have:=List.all_eq_true.1 DD x (List.mem_range.2 h);simp only[wS];grind
theorem pg:qz=.seq (.ops [0,2] [co 2 (.mv (.c (.v (.int .i64 0))))]) (.seq (.seq (.ops [0,2,4] [cm 3 0,co 4 (.bin .geq (.t 3) (.c (.v (.int .u32 65536))))]) (.cond (.t 4) (.seq (.ops [0] [cm 5 0,co 6 (.bin .shr (.t 5) (.c (.v (.int .u64 16)))),cm 0 6]) (.ops [0,2] [co 2 (.mv (.c (.v (.int .i64 16))))])) (.skip))) (.seq (.seq (.ops [0,2,8] [cm 7 0,co 8 (.bin .geq (.t 7) (.c (.v (.int .u32 256))))]) (.cond (.t 8) (.seq (.ops [0,2] [cm 9 0,co 10 (.bin .shr (.t 9) (.c (.v (.int .u64 8)))),cm 0 10]) (.ops [0,2] [cm 11 2,co 12 (.bin .add (.t 11) (.c (.v (.int .i64 8)))),cm 2 12])) (.skip))) (.seq (.ops [2] [cm 13 2,cm 14 0,co 15 (.cv .u8 (.t 14)),co 16 (.idxS (.c (.v (.string B4))) (.t 15)),co 17 (.cv .i64 (.t 16)),co 18 (.bin .add (.t 13) (.t 17)),cm 2 18]) (.ret)))):=rfl
theorem w8{i:Int}{n:Nat}(h:i=n)(hn:n<256):IntKind.u8.wrap i=n:=by grind[IntKind.wrap_u8]
theorem B6{n k:Nat}{i:Int}{kk}{j:Int}(hi:i=n)(hj:j=k)(hk:k<=32):bS .shr (.v (.int .u32 i)) (.v (.int kk j))=some (.v (.int .u32 (n/2^k:Nat))):=by
 simp_all[tK,if_neg,IntKind.bits,Option.some.injEq,AV.v.injEq,Value.int.injEq,true_and,Int.fdiv_eq_ediv_of_nonneg,Int.pow_nonneg]
theorem m8{x}(k)(h:2^k<=x):ai x=k+ai (x/2^k):=by
 have:=sj x k;have:=lQ.2 h;omega
theorem DE{x:Nat}(hx:x<4294967296):R F.bits_Len32 [U x] []=some (I (ai x),[]):=by
 refine aX yE rfl ?_;have fin:∀ {y:Nat},y<256->∀ {n:Nat},n<=24->IntKind.u8.wrap y=y/\IntKind.i64.wrap (ai y)=(ai y)/\IntKind.i64.wrap (n+(ai y))=(n+ai y):=fun{y} hy {n} hn=>by
  have:ai y<=8:=fX.2 hy;exact⟨w8 rfl hy,wi rfl (by omega),wi (by omega) (by omega)⟩
 have s16:=B6 (n:=x) (k:=16) (kk:=.u64) (j:=16) rfl rfl (by omega);by_cases h1:65536<=x
 ·have e1:(65536<=(x:Int))=True:=tt (by omega);have b1:=m8 16 h1;have s8:=B6 (n:=x/2^16) (k:=8) (kk:=.u64) (j:=8) rfl rfl (by omega);by_cases h2:256<=x/2^16
  ·have e2:(256<=((x/2^16:Nat):Int))=True:=tt (by omega);have b2:=m8 8 h2;have hy:x/2^16/2^8<256:=by omega
   obtain⟨f1,f2,f3⟩:=fin hy (n:=24) (by omega);have g:IntKind.i64.wrap 24=24:=by grind[i64_in]
   have f3':IntKind.i64.wrap (24+(ai (x/2^16/2^8)))=(ai x):=by grind
   simp only[dX,pg,go_sem,e1,s16,e2,s8,g,f1,B5 hy,f2,f3',Int.reduceAdd]
  ·have e2:(256<=((x/2^16:Nat):Int))=False:=ff (by omega);have hy:x/2^16<256:=by omega
   obtain⟨f1,f2,f3⟩:=fin hy (n:=16) (by omega);have f3':IntKind.i64.wrap (16+(ai (x/2^16)))=(ai x:Nat):=by grind
   simp only[dX,pg,go_sem,adS,Int.reduceToNat,e1,s16,e2,f1,B5 hy,f2,f3']
 ·have e1:(65536<=(x:Int))=False:=ff (by omega);have s8:=B6 (n:=x) (k:=8) (kk:=.u64) (j:=8) rfl rfl (by omega);by_cases h2:256<=x
  ·have e2:(256<=(x:Int))=True:=tt (by omega);have b2:=m8 8 h2;have hy:x/2^8<256:=by omega
   obtain⟨f1,f2,f3⟩:=fin hy (n:=8) (by omega);have g:IntKind.i64.wrap 8=8:=by grind[i64_in]
   have f3':IntKind.i64.wrap (8+(ai (x/2^8)))=(ai x:Nat):=by grind
   simp only[dX,pg,go_sem,adS,Int.reduceToNat,e1,e2,s8,g,f1,B5 hy,f2,f3',Int.reduceAdd]
  ·have e2:(256<=(x:Int))=False:=ff (by omega);have hy:x<256:=by omega
   obtain⟨f1,f2,f3⟩:=fin hy (n:=0) (by omega);have f3':IntKind.i64.wrap (0+(ai x))=(ai x:Nat):=by grind
   simp only[dX,pg,go_sem,adS,Int.reduceToNat,e1,e2,f1,B5 hy,f2,f3']
theorem DF{n}(h:n≠0):ai n=32*((af n).length-1)+ai ((af n).getD ((af n).length-1) 0):=by
 induction n using Nat.strongRecOn with
 |ind n ih=>
  rw[jD h,adX,Nat.add_sub_cancel];by_cases h0:n/4294967296=0
  ·rw[h0,du];grind
  ·have h2:(af (n/4294967296)).length≠0:=by
    intro e;exact h0 (lM.1 (List.length_eq_zero_iff.1 e))
   have h3:=m8 (x:=n) 32 (by omega);grind
theorem EC{m}(hb:Lb m)(h1:m.length<=100000):R F.natural_Bits [lm m] []=some (I (ai (ab m)),[]):=by
 refine aX uB rfl ?_;have la:=dF m hb;by_cases h:ab m=0
 ·have e1:((0:Nat):Int)=0:=rfl;simp only[gx,kg,go_sem,QH,QG,cO hb (by omega),h,du,e1,CJ]
 ·have hne:(af (ab m)).length≠0:=fun e=>h (lM.1 (List.length_eq_zero_iff.1 e));have e1:(((af (ab m)).length:Int)=0)=False:=ff (by omega);have e2:IntKind.i64.wrap ((af (ab m)).length-1)=((af (ab m)).length-1:Nat):=wi (by omega) (by omega);have e3:IntKind.i64.wrap (32*((af (ab m)).length-1:Nat))=(32*((af (ab m)).length-1):Nat):=wi (by omega) (by omega);have e4:ey (ao (af (ab m))) ((af (ab m)).length-1:Nat)=some (.ipt [U ((af (ab m)).getD ((af (ab m)).length-1) 0)]):=bI rfl (by omega);have e5:=DE (cY (bh (ab m)) ((af (ab m)).length-1));have e6:ai ((af (ab m)).getD ((af (ab m)).length-1) 0)<=32:=fX.2 (cY (bh (ab m)) _);have e7:IntKind.i64.wrap ((32*((af (ab m)).length-1):Nat)+(ai ((af (ab m)).getD ((af (ab m)).length-1) 0)))=(ai (ab m)):=by
   rw[DF h];exact wi (by omega) (by omega)
  simp only[gx,kg,go_sem,QH,QG,cO hb (by omega),e1,e2,e3,e4,e5,e7]
structure Rd where
 neg:Bool
 m:List Nat
 e:Int
def aJ(d:Rd):List AV:=[B d.neg,lm d.m,I d.e]
def av(d:Rd):AV:=.agg (aJ d)
def fT:Rd:=⟨false,[],0⟩
def pK(n:Nat)(e:Int):Bool:=decide (n=0)|| (decide (n<=4096)&& (decide (-16384<=e)&& (decide (e<=16384)&&decide (n+e<=16384))))
def vd(d:Rd):Bool:=if d.m.length=0 then !d.neg&&decide (d.e=0)else decide (d.m.length<=256)&& (decide (d.m.getD 0 0%2=1)&& (decide (d.m.getD (d.m.length-1) 0≠0)&&pK (ai (ab d.m)) d.e))
theorem lR{m}(hb:Lb m)(h1:m.length<=100000):R F.dyadic_size [lm m] []=some (I (ai (ab m)),[]):=by
 refine aX wG rfl ?_;simp only[ke,pA,go_sem,QH,QG,EC hb h1]
theorem tn{d}(hb:Lb d.m)(h1:d.m.length<=100000):R F.dyadic_inRange [av d] []=some (B (pK (ai (ab d.m)) d.e),[]):=by
 refine aX rW rfl ?_;unfold pK;by_cases a1:ai (ab d.m)=0
 ·have e9:=lR hb h1;rw[a1,aek]at e9;simp only[bB,cK,av,aJ,go_sem,QH,QG,QJ,e9,a1]
 have e1:(((ai (ab d.m)):Int)=0)=False:=ff (by omega);by_cases a2:¬ (ai (ab d.m)<=4096)
 ·have e2:(((ai (ab d.m)):Int)<=4096)=False:=ff (by omega);simp only[bB,cK,av,aJ,go_sem,QH,QG,lR hb h1,e1,a1,e2,a2]
 replace a2:=Decidable.not_not.1 a2
 have e2:(((ai (ab d.m)):Int)<=4096)=True:=tt (by omega);by_cases a3:¬ (-16384<=d.e)
 ·simp only[bB,cK,av,aJ,go_sem,QH,QG,lR hb h1,e1,a1,e2,a2,a3]
 replace a3:=Decidable.not_not.1 a3
 by_cases a4:¬ (d.e<=16384)
 ·simp only[bB,cK,av,aJ,go_sem,QH,QG,lR hb h1,e1,a1,e2,a2,a3,a4]
 replace a4:=Decidable.not_not.1 a4
 have e3:IntKind.i64.wrap ((ai (ab d.m))+d.e)=(ai (ab d.m))+d.e:=by grind[i64_in]
 simp only[bB,cK,av,aJ,go_sem,QH,QG,lR hb h1,e1,a1,e2,a2,a3,a4,e3]
structure Ok0 (d:Rd):Prop where
 lb:Lb d.m
 len:d.m.length<4611686018427387904
theorem sk{d}(ok:Ok0 d):R F.dyadic_Valid [av d] []=some (B (vd d),[]):=by
 refine aX uw rfl ?_;unfold vd;by_cases a0:d.m.length=0
 ·rw[if_pos a0];have e1:((d.m.length:Int)=0)=True:=tt (by omega);cases hn:d.neg with
  |true=>simp only[bC,cJ,av,aJ,hn,go_sem,QH,QG,e1]
  |false=>simp only[bC,cJ,av,aJ,hn,go_sem,QH,QG,e1]
 rw[if_neg a0];have e1:((d.m.length:Int)=0)=False:=ff (by omega);by_cases a1:¬d.m.length<=256
 ·have e2:((d.m.length:Int)<=256)=False:=ff (by omega);rw[decide_eq_false a1,ad2];simp only[bC,cJ,av,aJ,go_sem,QH,QG,QJ,e1,e2]
 replace a1:=Decidable.not_not.1 a1
 have e2:((d.m.length:Int)<=256)=True:=tt (by omega);have e3:ey (ao d.m) 0=some (.ipt [U (d.m.getD 0 0)]):=bI rfl (by omega);have e4:bS .rem (.v (.int .u32 (d.m.getD 0 0))) (.v (.int .u32 2))=some (.v (.int .u32 (d.m.getD 0 0%2:Nat))):=by
  simp_all[Ap,if_neg,Int.tmod_eq_emod_of_nonneg]
 rw[decide_eq_true a1,adY];by_cases a2:¬d.m.getD 0 0%2=1
 ·have e5:(((d.m.getD 0 0%2:Nat):Int)=1)=False:=ff (by omega);rw[decide_eq_false a2,ad2];simp only[bC,cJ,av,aJ,go_sem,QH,QG,QJ,e1,e2,e3,e4,e5]
 replace a2:=Decidable.not_not.1 a2
 have e5:(((d.m.getD 0 0%2:Nat):Int)=1)=True:=tt (by omega);rw[decide_eq_true a2,adY];have e6:IntKind.i64.wrap (d.m.length-1)=(d.m.length-1:Nat):=wi (by omega) (by omega);have e7:ey (ao d.m) (d.m.length-1:Nat)=some (.ipt [U (d.m.getD (d.m.length-1) 0)]):=bI rfl (by omega);by_cases a3:d.m.getD (d.m.length-1) 0=0
 ·have e8:((d.m.getD (d.m.length-1) 0:Int)=0)=True:=tt (by omega);rw[decide_eq_false (p:=d.m.getD (d.m.length-1) 0≠0) (fun h=>h a3),ad2];simp only[bC,cJ,av,aJ,go_sem,QH,QG,QJ,e1,e2,e3,e4,e5,e6,e7,e8]
 have e8:((d.m.getD (d.m.length-1) 0:Int)=0)=False:=ff (by omega);rw[decide_eq_true (p:=d.m.getD (d.m.length-1) 0≠0) a3,adY];have e9:=tn (d:=d) ok.lb (by omega);simp only[av,aJ]at e9;simp only[bC,cJ,av,aJ,go_sem,QH,QG,QJ,e1,e2,e3,e4,e5,e6,e7,e8,e9]
theorem B7(m)(h2:m.length<4611686018427387904):∀ (n:Nat),n<=m.length->∀s h,s 0=lm m->s 3=I n->
  aC 0 [0,3] (bX (aj R (bA false) cF) [0,3] [] s h)=some (.normal,⟨upd (upd (fun _=>.any) 3 (I (ed m n))) 0 (lm m),fun _=>.dead⟩):=by
 intro n;induction n with
 |zero=>
  intro h1 s h h3 h4;rw[aD];simp only[cF,go_sem,h3,h4,ed,aek,Int.lt_irrefl]
 |succ n ih=>
  intro h1 s h h3 h4;have hn:=h1;have e3:IntKind.i64.wrap (n+1-1)=n:=wi (by omega) (by omega);have e1:=bI rfl hn;have e2:(0< (n:Int)+1)=True:=eq_true (by omega);have ih':=ih (by omega);rw[aD];by_cases hz:m.getD n 0=0
  ·simp only[cF,go_sem,h3,h4,ed,Int.natCast_add,Int.natCast_one,e3,e1,e2,hz,aek];exact ih' _ _ rfl rfl
  ·simp only[cF,go_sem,h3,h4,ed,Int.natCast_add,Int.natCast_one,e3,e1,e2,hz,Int.natCast_eq_zero]
theorem yX{m}(hb:Lb m)(h:m.length<4611686018427387904):R F.dyadic_trimmed [lm m] []=some (lm (af (ab m)),[]):=by
 refine aX rX rfl ?_;have h1:gO 1 (lm m) none (some (I (ed m m.length))) none=some (lm (af (ab m))):=by
  rw[yI (a:=0) (b:=ed m m.length) rfl (oT rfl (qi _ _)) (qi _ _),List.drop_zero,Nat.sub_zero,xW hb]
 simp only[iL,mq,go_sem,B7 m h m.length (QK _),h1]
theorem B8{d}(hb:Lb d.m)(h1:d.m.length<=100000):R F.dyadic_checked [av d] []=some (if pK (ai (ab d.m)) d.e=true then .tup [av d,I 0]else .tup [av fT,I 9],[]):=by
 refine aX rU rfl ?_;have e9:=tn hb h1;simp only[av,aJ]at e9;cases hv:pK (ai (ab d.m)) d.e with
 |false=>
  rw[hv]at e9;simp only[eH,jz,av,aJ,fT,go_sem,QH,QG,QJ,e9]
 |true=>
  rw[hv]at e9;simp only[eH,jz,av,aJ,go_sem,QH,QG,QJ,e9]
theorem DG(h)(m):kD h 1 (lm m)=some (ao m):=Dk h 1 _
theorem yY{m}(h0:m≠[])(h1:m.length<=100000):R F.slices_Clone_uint32_uint32_ [lm m] []=some (lm m,[]):=by
 have e1:AQ false (lm m)=some (B false):=by
  cases m with
  |nil=>grind
  |cons x m=>rfl
 have e2:((True\/False)/\(0+m.length)*4<=140737488355328)=True:=eq_true ⟨Or.inl trivial,by omega⟩;have e3:=eq_true (by omega);have e4:=eq_true (by omega)
 first
 | (refine yJ E_slices_Clone_uint32_uint32_ C_slices_Clone_uint32_uint32_ (jU.2.2.2 false) rfl ?_;simp only[ef,eB,go_sem,QJ,QM,e1,DG,e2,e3,e4];done)
 | (obtain⟨x,l,rfl⟩:=List.exists_cons_of_ne_nil h0;refine(oQ (g:=Jq) (by kernel_rfl)).trans ?_;show(if((ao l).length+1)*4<=140737488355328 then _ else _)=_;rw[if_pos (by rw[jT];simp at h1;omega)];rfl)
theorem nC:cQ.E F.bits_TrailingZeros32=some Jp:=by kernel_rfl
theorem qG{x:Nat}(h:x≠0)(hx:x<4294967296):R F.bits_TrailingZeros32 [U x] []=some (I (tz x),[]):=by
 unfold R;rw[oQ nC];show(if 0< (x:Int)/\(x:Int)<4294967296/\[]=[]then some (I (Cv 32 (x:Int).toNat),[])else none)=_;rw[if_pos ⟨by omega,by omega,rfl⟩,QT,Fu 32 x h (by omega)]
theorem DH(m)(hb:Lb m)(h2:m.length<=100000):∀k i,i+k=m.length->ab (m.drop i)≠0->∀s h,s 6=lm m->s 7=I m.length->s 8=I i->s 3=I (32*i:Nat)->
  aC 0 [3] (bX (aj R (bA false) gA) [3,6,7,8] [] s h)=some (.ret,⟨upd (fun _=>.any) 2 (I (32*i+tz (ab (m.drop i)):Nat)),fun _=>.dead⟩):=by
 intro k;induction k with
 |zero=>
  intro i hi hv;rw[aej (by omega)]at hv;exact absurd rfl hv
 |succ k ih=>
  intro i hi hv s h h6 h7 h8 h3;have e1:((i:Int)<m.length)=True:=tt (by omega);have e2:ey (ao m) i=some (.ipt [U (m.getD i 0)]):=bI rfl (by omega);have hx:=cY hb i;rw[cu]at hv;rw[aD];have e4:IntKind.i64.wrap ((32*i:Nat)+32)=(32*(i+1):Nat):=wi (by omega) (by omega);have e5:IntKind.i64.wrap (i+1)=(i+1:Nat):=wi (by omega) (by omega);by_cases hz:m.getD i 0=0
  ·have e3:((m.getD i 0:Int)=0)=True:=tt (by omega);have hv':ab (m.drop (i+1))≠0:=by
    omega
   have ih':=ih (i+1) (by omega) hv';have e6:tz (ab (m.drop i))=32+tz (ab (m.drop (i+1))):=by
    rw[cu,hz,QN];exact qk 32 hv'
   have e7:32*i+tz (ab (m.drop i))=32*(i+1)+tz (ab (m.drop (i+1))):=by omega
   rw[e7];simp only[gA,go_sem,h3,h6,h7,h8,e1,e2,e3,e4,e5];exact ih' _ _ rfl rfl rfl rfl
  ·have e3:((m.getD i 0:Int)=0)=False:=ff (by omega);have e6:tz (ab (m.drop i))=tz (m.getD i 0):=by
    rw[cu];exact Ft (k:=32) _ hz hx
   have e8:=D7 (k:=32) hz hx;have e7:IntKind.i64.wrap ((32*i:Nat)+(tz (m.getD i 0)))=(32*i+tz (m.getD i 0):Nat):=wi (by omega) (by omega);rw[e6];simp only[gA,go_sem,QH,QG,h3,h6,h7,h8,e1,e2,e3,qG hz hx,e7]
theorem FX{m}(hb:Lb m)(h1:m.length<=100000)(hv:ab m≠0):R F.dyadic_low [lm m] []=some (I (tz (ab m)),[]):=by
 refine aX yC rfl ?_;have h3:=DH m hb h1 m.length 0 (QN _) hv;simp only[Nat.mul_zero,QN,List.drop_zero,aek]at h3;simp only[kW,qx,go_sem];rw[h3 _ _ rfl rfl rfl rfl];simp only[go_sem]
def B9:Nat->Nat->List Nat
 |0,_=>[]
 |k+1,n=>if n=0 then []else n%4294967296::B9 k (n/4294967296)
theorem AB:∀ {k n},n<4294967296^k->B9 k n=af n
 |0,n,h=>by
  have:=by simpa using h
  subst this;rw[du];rfl
 |k+1,n,h=>by
  unfold B9;split
  ·rename_i h0;rw[h0,du]
  ·rename_i h0;rw[jD h0,AB (Nat.div_lt_of_lt_mul (by rw[ad7]at h;omega))]
def FY(neg:Bool)(M k:Nat)(e:Int):Rd:=if M%2^k=0/\M/2^k%2=1/\M/2^k<4294967296^24 then⟨neg,B9 24 (M/2^k),e+k⟩else⟨neg,af (M/2^tz M),e+tz M⟩
def bN(neg:Bool)(M:Nat)(e:Int):Rd:=if M=0 then fT else FY neg M (Nat.gcd M (2^40000)).log2 e
theorem mE{neg}{M}{e}:bN neg M e=if M=0 then fT else⟨neg,af (M/2^tz M),e+tz M⟩:=by
 unfold bN;split
 ·rfl
 ·generalize Nat.log2 _=k;unfold FY;split
  ·rename_i h0 h;obtain⟨h1,h2,h3⟩:=h;have e1:=(Nat.mul_div_cancel' (Nat.dvd_of_mod_eq_zero h1)).symm;have e2:tz M=k:=by
    rw[e1,qk _ (by omega),nG h2,Nat.add_zero]
   rw[e2,AB h3]
  ·rfl
def JD(e:Int):Prop:=-1000000<=e/\e<=1000000
theorem mF{neg}{m}{e}(hb:Lb m)(h1:m.length<=256)(he:JD e):R F.dyadic_canonical [B neg,lm m,I e] []=some (av (bN neg (ab m) e),[]):=by
 refine aX qC rfl ?_;obtain⟨he1,he2⟩:=he;rw[mE];by_cases h0:ab m=0
 ·have hd:R F.dyadic_trimmed [lm m] []=some (lm [],[]):=by
   grind[yX,du]
  rw[if_pos h0];simp only[dS,gW,av,aJ,fT,go_sem,QH,QG,QJ,hd,adZ,aek]
 have hn:=fun h=>h0 (lM.1 h);have hl:0< (af (ab m)).length:=by
  grind
 have hl2:=QU (dF m hb) h1;have hdb:Lb (af (ab m)):=bh _;have e1:(((af (ab m)).length:Int)=0)=False:=ff (by omega);have ht:=D7 (k:=32*256) h0 (by
  have:=gS hb;have h3:4294967296^m.length<=4294967296^256:=Nat.pow_le_pow_right (by decide) h1;omega)
 have hlow:=FX hdb (by omega) (by grind[aY]);rw[aY]at hlow;have hs:=FV (n:=(tz (ab m))) hdb hl2;rw[if_neg (by omega),aY,QT]at hs;have hq:af (ab m/2^tz (ab m))≠[]:=by
  intro h;have:=(qU h0).2;rw[lM.1 h]at this;omega
 have hq2:(af (ab m/2^tz (ab m))).length<=100000:=by
  have h5:(af (ab m/2^tz (ab m))).length<=m.length:=jf (Nat.lt_of_le_of_lt (Nat.div_le_self _ _) (gS hb));omega
 have hc:=yY hq hq2;have e2:IntKind.i64.wrap (e+(tz (ab m)))=e+(tz (ab m)):=by grind[i64_in]
 rw[if_neg h0];simp only[dS,gW,av,aJ,go_sem,QH,QG,QJ,yX hb (Nat.lt_of_le_of_lt h1 (by decide)),e1,hlow,hs,hc,Au,e2]
theorem mG{d}(h:vd d=true)(h0:d.m.length≠0):d.m.length<=256/\d.m.getD 0 0%2=1/\d.m.getD (d.m.length-1) 0≠0/\pK (ai (ab d.m)) d.e=true:=by
 simp_all[vd,if_neg,QQ,decide_eq_true_eq]
theorem re{d}(h:vd d=true)(h0:d.m.length=0):d=fT:=by
 unfold vd at h;obtain⟨n,m,e⟩:=d;grind[fT]
theorem uD{n}{e}(h:pK n e=true)(h0:n≠0):n<=4096∧-16384<=e/\e<=16384/\n+e<=16384:=by
 simp_all[pK,Bool.or_eq_true,QQ,decide_eq_true_eq]
theorem mH{d}(h:vd d=true)(_hb:Lb d.m):d.m.length<=256∧-16384<=d.e/\d.e<=16384/\ai (ab d.m)<=4096:=by
 by_cases h0:d.m.length=0
 ·rw[re h h0];exact⟨by decide,by decide,by decide,by decide⟩
 obtain⟨h1,h2,h3,h4⟩:=mG h h0;have hv:ab d.m≠0:=by
  have:=cu d.m 0;grind
 have hn:ai (ab d.m)≠0:=by
  grind[pe]
 obtain⟨h5,h6,h7,h8⟩:=uD h4 hn;omega
def bJ(d:Rd):Int:=if vd d=false\/d.m.length=0 then 0 else(ai (ab d.m))+d.e
theorem CK{d}(ok:Ok0 d):R F.dyadic_Top [av d] []=some (I (bJ d),[]):=by
 refine aX yD rfl ?_;have e9:=sk ok;simp only[av,aJ]at e9;unfold bJ;cases hv:vd d with
 |false=>
  rw[hv]at e9;rw[if_pos (Or.inl rfl)];simp only[fR,jS,av,aJ,go_sem,QH,QG,QJ,e9]
 |true=>
  rw[hv]at e9;by_cases a0:d.m.length=0
  ·have e1:((d.m.length:Int)=0)=True:=tt (by omega);rw[if_pos (Or.inr a0)];simp only[fR,jS,av,aJ,go_sem,QH,QG,QJ,e9,e1]
  ·have e1:((d.m.length:Int)=0)=False:=ff (by omega);rw[if_neg (fun h=>h.elim (fun h=>nomatch h) a0)];obtain⟨h1,h2,h3,h4⟩:=mH hv ok.lb;have e2:IntKind.i64.wrap ((ai (ab d.m))+d.e)=(ai (ab d.m))+d.e:=by grind[i64_in]
   simp only[fR,jS,av,aJ,go_sem,QH,QG,QJ,QM,QP,e9,e1,lR ok.lb (QU h1 (by decide)),e2]
theorem tp{m}(hb:Lb m)(h1:m.length<=256){k:Nat}(hk:k<=65536)(hl:(af (ab m*2^k)).length<=256):R F.dyadic_shifted [lm m,I k] []=some (lm (af (ab m*2^k)),[]):=by
 refine aX rZ rfl ?_;have hs:=FT (n:=k) hb h1;rw[if_neg (by omega),QT,iD,if_neg (by omega)]at hs;simp only[iO,my,go_sem,QH,QG,QJ,hs]
def mg(d:Rd):Nat:=ab d.m*2^ (d.e+16384).toNat
def zI(d:Rd):Int:=if d.neg=true then-(mg d)else mg d
theorem oj{d}(h:vd d=true)(h0:d.m.length≠0):ab d.m≠0:=by
 obtain⟨h1,h2,h3,h4⟩:=mG h h0;have:=cu d.m 0;grind
theorem pi{d}{e}(h1:-16384<=e)(h2:e<=d.e):mg d=ab d.m*2^ (d.e-e).toNat*2^ (e+16384).toNat:=by
 unfold mg;rw[Nat.mul_assoc,←Nat.pow_add];grind
theorem aI{n k}(h:ai n<=32*k):(af n).length<=k:=by
 refine jf ?_;have:=fX.1 h;grind[Nat.pow_mul]
def lk(x y:Int):Int:=if x<y then-1 else if y<x then 1 else 0
theorem ED{d}(h0:d.m.length=0):mg d=0:=by
 unfold mg;rw[List.length_eq_zero_iff.1 h0];exact Nat.zero_mul _
theorem AC(neg)(M)(e):Lb (bN neg M e).m:=by
 rw[mE];split
 ·exact fun x hx=>nomatch hx
 grind[bh]
theorem DI{neg}{M}{e}{k}(h:ai M<=32*k):(bN neg M e).m.length<=k:=by
 rw[mE];split
 ·exact aei _
 ·refine aI ?_;grind[sj]
def FZ(d:Rd):AV:=if pK (ai (ab d.m)) d.e=true then .tup [av d,I 0]else .tup [av fT,I 9]
theorem abd{m}(hb:Lb m):ai (ab m)<=32*m.length:=by
 rw[fX,Nat.pow_mul];exact gS hb
def CL(l:List Rd):List (List AV):=l.map aJ
@[go_sem] theorem Ot(l):(CL l).length=l.length:=by simp[CL]
def tq(p:Int)(l:List Rd):Int:=if l.all vd=true then(if 8<=p/\p<=512 then 0 else 2)else 1
def Ec(M:Nat)(e:Int)(p:Int):Int:=if e+(ai M)-p< -16384 then-16384 else e+(ai M)-p
def LU(M:Nat)(e:Int)(more:Bool)(u:Int):Nat×Bool:=if u<=e then(M*2^ (e-u).toNat,more)else(M/2^ (u-e).toNat,more||decide (M%2^ (u-e).toNat≠0))
def P6(up:Bool)(q:Nat×Bool):Nat:=if(up&&q.2)=true then q.1+1 else q.1
def dW(d:Rd):Rd×Int:=if pK (ai (ab d.m)) d.e=true then(d,0)else(fT,9)
def LV(p:Int)(up:Bool)(q:Nat)(u:Int):Rd×Int:=if 16384< (ai q)+u then(if up=true then(fT,9)else dW (bN false (2^p.toNat-1) (16384-p)))else dW (bN false q u)
def rV(r:Rd×Int):AV:=.tup [av r.1,I r.2]
theorem EE(d):FZ d=rV (dW d):=by
 unfold FZ dW;split<;>rfl
def LW(d:Rd):Rd:=if vd d=false\/d.m.length=0 then fT else⟨!d.neg,d.m,d.e⟩
def LX(M:Nat)(e:Int)(more:Bool)(p:Int)(up:Bool):Rd×Int:=LV p up (P6 up (LU M e more (Ec M e p))) (Ec M e p)
def LY(neg:Bool)(r:Rd×Int):Rd×Int:=if r.2=0/\neg=true then(LW r.1,r.2)else r
theorem qH{d}(h:vd d=true)(hb:Lb d.m):d.m.length<=128:=by
 obtain⟨h1,h2,h3,h4⟩:=mH h hb;by_cases h0:d.m.length=0
 ·omega
 obtain⟨g1,g2,g3,g4⟩:=mG h h0;have h5:4294967296^ (d.m.length-1)<=ab d.m:=by
  have h6:=pJ (a:=d.m) (i:=d.m.length-1) (by omega);rw[show d.m.length-1+1=d.m.length by omega,List.take_length]at h6;rw[h6];exact QU (Nat.le_mul_of_pos_right _ (Nat.pos_of_ne_zero g3)) (Nat.le_add_left _ _)
 have h7:32*(d.m.length-1)<ai (ab d.m):=by
  rw[lQ,Nat.pow_mul];exact h5
 omega
theorem kC{d}(h:vd d=true)(h0:d.m.length≠0):bJ d=(ai (ab d.m))+d.e:=by
 rw[bJ,if_neg (fun h'=>h'.elim (fun h''=>by rw[h]at h'';exact nomatch h'') h0)]
theorem y7{x y k}(hx:ai x<=k)(hy:ai y<=k):ai (x+y)<=k+1:=by
 rw[fX]at hx hy⊢;omega
theorem EF{x y}(hx:ai x<=5000)(hy:ai y<=5000):R F.natural_Add [lm (af x),lm (af y)] []=some (.tup [lm (af (x+y)),I 0],[]):=by
 have h1:(af x).length<=200:=aI (by omega);have h2:(af y).length<=200:=aI (by omega);have h3:=y7 hx hy;have h4:(af (x+y)).length<=200:=aI (by omega);rw[FP (bh x) (bh y) (by omega) (by omega),aY,aY,iD,if_neg (by omega)]
theorem AD{x y}(hx:ai x<=5000)(hy:ai y<=5000)(h:y<=x):R F.natural_Sub [lm (af x),lm (af y)] []=some (.tup [lm (af (x-y)),I 0],[]):=by
 have h1:(af x).length<=200:=aI (by omega);have h2:(af y).length<=200:=aI (by omega);have h3:ai (x-y)<=5000:=by
  rw[fX]at hx⊢;omega
 have h4:(af (x-y)).length<=200:=aI (by omega);rw[FQ (bh x) (bh y) (by omega) (by omega),aY,aY,if_neg (by omega),iD,if_neg (by omega)]
def JE(z f p:Int)(up:Bool):Rd×Int:=if z=0 then(fT,0)else LY (decide (z<0)) (LX z.natAbs f false p (up !=decide (z<0)))
def dQ(neg:Bool)(n:Nat):Int:=if neg=true then-n else n
theorem rg(n):dQ true n=-n:=rfl
theorem rh(n):dQ false n=n:=rfl
def LZ(a b:Rd)(p:Int)(up:Bool):Rd×Int:=if tq p [a,b]=0 then JE (zI a*zI b) (-32768) p up else(fT,tq p [a,b])
theorem uE{d}(h:d.m.length=0):zI d=0:=by
 grind[zI,ED]
theorem mI{neg}{M}{e}(h:M≠0):bN neg M e=⟨neg,af (M/2^tz M),e+tz M⟩:=by
 simp_all[mE,if_neg]
theorem m9{neg}{e}:bN neg 0 e=fT:=by
 simp_all[mE,if_pos]
theorem lH{neg}{M k:Nat}{e}:bN neg (M*2^k) e=bN neg M (e+k):=by
 by_cases h:M=0
 ·rw[h,Nat.zero_mul,m9,m9]
 ·have h2:=Nat.mul_ne_zero h (Nat.pos_iff_ne_zero.1 (Nat.two_pow_pos k));rw[mI h,mI h2,aeh M,qk k h,Nat.pow_add,Nat.mul_div_mul_left _ _ (Nat.two_pow_pos k)];grind
theorem y8{neg}{M}{e}(h:M≠0):ab (bN neg M e).m=M/2^tz M/\(bN neg M e).e=e+tz M/\M/2^tz M%2=1/\ai (M/2^tz M)+tz M=ai M:=by
 grind[qU,mI,aY,pf,tz,aeh]
theorem EG{neg}{M}{e}(h:pK (ai (ab (bN neg M e).m)) (bN neg M e).e=true):vd (bN neg M e)=true:=by
 by_cases h0:M=0
 ·subst h0;rfl
 ·obtain⟨g1,g2,g3,g4⟩:=y8 (neg:=neg) (e:=e) h0;have hn:M/2^tz M≠0:=by omega
  rw[g1]at h;have hb:=(uD h (Nat.pos_iff_ne_zero.1 (pe hn))).1;rw[mI h0]at h⊢;unfold vd;have hl:(af (M/2^tz M)).length<=128:=aI (by omega);have hl0:=fun h5=>hn (lM.1 (List.length_eq_zero_iff.1 h5));have ht:=(Cs _).resolve_left (fun h5=>hn (lM.1 h5));have ho:(af (M/2^tz M)).getD 0 0%2=1:=by
   grind[jD,tz]
  rw[aY,if_neg hl0,decide_eq_true (p:=(af (M/2^tz M)).length<=256) (by omega),decide_eq_true ho,decide_eq_true ht];grind
def L4(d:Rd)(p:Int)(up:Bool):Rd×Int:=if tq p [d]=0 then JE (zI d) (-16384) p up else(fT,tq p [d])
structure Ri where
 lo:Rd
 hi:Rd
 all:Bool
def JF(x:Ri):List AV:=[B x.lo.neg,lm x.lo.m,I x.lo.e,B x.hi.neg,lm x.hi.m,I x.hi.e,B x.all]
structure OkI (x:Ri):Prop where
 lo:Ok0 x.lo
 hi:Ok0 x.hi
def z0(d:Rd):Bool:=!d.neg&& (decide (d.m.length=0)&&decide (d.e=0))
def CM(l:List Ri):List (List AV):=l.map JF
@[go_sem] theorem Ou(l):(CM l).length=l.length:=by simp[CM]
theorem CN:vd fT=true/\Ok0 fT:=⟨rfl,⟨fun x hx=>(nomatch hx),by decide⟩⟩
structure Op2 (f:FuncId) (g:Rd->Rd->Rd×Int) (p:Int):Prop where
 ct:∀ {a b:Rd},Ok0 a->Ok0 b->R f [av a,av b,I p] []=some (rV (g a b),[])
 ok:∀ {a b:Rd},Ok0 (g a b).1
 s:Ar f [[.o 0 [],.o 2 [],.o 0 []],[.o 0 [],.o 2 [],.o 0 []],[]]
 m:As f []
 k:At f false
 c:FM f
def JG(d:Rd)(p:Int)(up:Bool):Nat->Rd×Int->Rd×Int
 |0,r=>r
 |k+1,r=>if r.2=0 then JG d p up k (LZ r.1 d p up)else r
def pw(d:Rd)(n:Nat)(p:Int)(up:Bool):Rd×Int:=JG d p up (n-1) (L4 d p up)
def sS(d:Rd):Int:=if vd d=false\/d.m.length=0 then 0 else if d.neg=true then-1 else 1
def one:Rd:=⟨false,[1],0⟩
def ce(l:List Int):List (List AV):=l.map fun n=>[I n]
@[go_sem] theorem uF(l):(ce l).length=l.length:=by simp[ce]
theorem uG{l}{i:Int}{n:Nat}{d}(hi:i=n)(h:l[n]?=some d):ey (ce l) i=some (.ipt [I d]):=by
 grind[ey,ce]
theorem y9{x}:R F.cmp_isNaN_int_ [I x] []=some (B false,[]):=by
 refine aX rY rfl ?_;simp only[iM,mr,go_sem]
theorem CO{x y}:R F.cmp_Compare_int_ [I x,I y] []=some (I (lk x y),[]):=by
 refine aX qD rfl ?_;have h1:=y9 (x:=x);have h2:=y9 (x:=y);unfold lk;by_cases e1:x<y
 ·have f1:=tt e1;simp only[cB,eu,go_sem,QH,QG,h1,h2,f1]
 ·have f1:=ff e1;by_cases e2:y<x
  ·have f2:=tt e2;simp only[cB,eu,go_sem,QH,QG,h1,h2,f1,f2]
  ·have f2:=ff e2;simp only[cB,eu,go_sem,QH,QG,h1,h2,f1,f2]
def gY:List Int->List Int->Int
 |[],[]=>0
 |[],_::_=>-1
 |_::_,[]=>1
 |x::xs,y::ys=>if lk x y=0 then gY xs ys else lk x y
theorem DJ{a b}(hl:a.length=b.length)(h2:a.length<=100000):∀ (k i:Nat),i+k=a.length->∀s h,s 0=.sl 1 (ce a)->s 1=.sl 1 (ce b)->s 9=.sl 1 (ce a)->s 10=I a.length->s 11=I i->
  ∃hh,aC 0 [0,1] (bX (aj R (bA false) aH) [0,1,9,10,11] [] s h)=if gY (a.drop i) (b.drop i)=0 then some (.normal,⟨upd (upd (fun _=>.any) 1 (.sl 1 (ce b))) 0 (.sl 1 (ce a)),fun _=>.dead⟩)else some (.ret,⟨upd (fun _=>.any) 4 (I (gY (a.drop i) (b.drop i))),hh⟩):=by
 intro k;induction k with
 |zero=>
  intro i hi s h h0 h1 h9 h10 h11;have e1:((i:Int)<a.length)=False:=ff (by omega);rw[aej (by omega),aej (by omega),aD];refine⟨fun _=>.dead,?_⟩;show _=if 0=0 then _ else _
  simp only[aH,go_sem,h0,h1,h9,h10,h11,e1]
 |succ k ih=>
  intro i hi s h h0 h1 h9 h10 h11;have hlt:i<a.length:=by omega
  have hlt2:i<b.length:=by omega
  have e1:((i:Int)<a.length)=True:=tt (by omega);have e4:(b.length<=(i:Int))=False:=ff (by omega);have e2:=uG rfl (adW hlt);have e3:=uG rfl (adW hlt2);have e5:IntKind.i64.wrap (i+1)=(i+1:Nat):=wi (by omega) (by omega);rw[ael hlt,ael hlt2,aD];have ih':=ih (i+1) (by omega);have hc:=CO (x:=a[i]) (y:=b[i]);generalize a[i]=x at e2 hc⊢;generalize b[i]=y at e3 hc⊢;unfold gY;by_cases hz:lk x y=0
  ·have e6:=tt hz;simp only[aH,go_sem,QH,QG,h0,h1,h9,h10,h11,e1,e2,e3,e4,e5,hc,e6];exact ih' _ _ rfl rfl rfl rfl rfl
  ·have e6:=ff hz;refine⟨?hh,?_⟩;rotate_left;simp only[aH,go_sem,QH,QG,h0,h1,h9,h10,h11,e1,e2,e3,e4,hc,e6];rfl
theorem Ca{a b}(hl:a.length=b.length)(h2:a.length<=100000):R F.slices_Compare_int_int_ [.sl 1 (ce a),.sl 1 (ce b)] []=some (I (gY a b),[]):=by
 refine aX lF rfl ?_;have h3:=DJ hl h2 a.length 0 (QN _);simp only[List.drop_zero,aek]at h3;by_cases hz:gY a b=0
 ·simp only[if_pos hz]at h3;have e1:((a.length:Int)<b.length)=False:=ff (by omega);simp only[bG,dE,go_sem];rw[(h3 _ _ rfl rfl rfl rfl rfl).choose_spec,hz];simp only[go_sem,e1]
 ·simp only[if_neg hz]at h3;simp only[bG,dE,go_sem];rw[(h3 _ _ rfl rfl rfl rfl rfl).choose_spec];simp only[go_sem]
def dp:List Int->Int
 |[]=>0
 |x::l=>x+dp l
def sm(l:List Int):Prop:=l.length<=1000/\∀x∈l,0<=x/\x<=32
theorem DK{l:List Int}{i}(h):dp (l.take (i+1))=dp (l.take i)+l[i]:=by
 induction l generalizing i with
 |nil=>grind
 |cons a l ih=>
  cases i with
  |zero=>simp[dp]
  |succ i=>
   have:=ih (i:=i) (by simpa using h);simp only[List.take_succ_cons,dp,List.getElem_cons_succ];omega
theorem F0{l}(h:∀x∈l,0<=x/\x<=32):0<=dp l/\dp l<=32*l.length:=by
 induction l with
 |nil=>exact⟨Int.le_refl _,Int.le_refl _⟩
 |cons a l ih=>
  have h1:=h a (List.mem_cons_self ..);have h2:=ih (fun x hx=>h x (List.mem_cons_of_mem _ hx));grind[dp,adX]
theorem DL{a}(h2:sm a):∀k i,i+k=a.length->∀s h,s 3=I (dp (a.take i))->s 6=.sl 1 (ce a)->s 7=I a.length->s 8=I i->
  aC 0 [3] (bX (aj R (bA false) fH) [3,6,7,8] [] s h)=some (.normal,⟨upd (fun _=>.any) 3 (I (dp a)),fun _=>.dead⟩):=by
 intro k;induction k with
 |zero=>
  intro i hi s h h3 h6 h7 h8;have e1:((i:Int)<a.length)=False:=ff (by omega);rw[aed (by omega)]at h3;rw[aD];simp only[fH,go_sem,h3,h6,h7,h8,e1]
 |succ k ih=>
  intro i hi s h h3 h6 h7 h8;have hlt:i<a.length:=by omega
  obtain⟨g1,g2⟩:=h2;have e1:((i:Int)<a.length)=True:=tt (by omega);have e2:=uG rfl (adW hlt);have e5:IntKind.i64.wrap (i+1)=(i+1:Nat):=wi (by omega) (by omega);have b1:=F0 (l:=a.take i) (fun x hx=>g2 x (List.mem_of_mem_take hx));have b2:=g2 a[i] (aee hlt);have e6:IntKind.i64.wrap (dp (a.take i)+a[i])=dp (a.take (i+1)):=by
   grind[DK,i64_in]
  have ih':=ih (i+1) (by omega);rw[aD];simp only[fH,go_sem,h3,h6,h7,h8,e1,e2,e5,e6];exact ih' _ _ rfl rfl rfl rfl
theorem uX{a}(h2:sm a):R F.poly_degree [.sl 1 (ce a)] []=some (I (dp a),[]):=by
 refine aX wE rfl ?_;have h3:=DL h2 a.length 0 (QN _);simp only[j7,pu,go_sem];rw[h3 _ _ rfl rfl rfl rfl];simp only[go_sem]
def aS(a b:List Int):Int:=if lk (dp a) (dp b)=0 then gY b a else lk (dp a) (dp b)
theorem DM{a b}(ha:sm a)(hb:sm b)(hl:a.length=b.length):R F.poly_order [.sl 1 (ce a),.sl 1 (ce b)] []=some (I (aS a b),[]):=by
 refine aX yz rfl ?_;have d1:=uX ha;have d2:=uX hb;have d3:=CO (x:=dp a) (y:=dp b);have d4:=Ca hl.symm (by have:=hb.1;omega);unfold aS;by_cases hz:lk (dp a) (dp b)=0
 ·have e6:=tt hz;simp only[jh,mf,go_sem,QH,QG,d1,d2,d3,d4,e6]
 ·have e6:=ff hz;simp only[jh,mf,go_sem,QH,QG,d1,d2,d3,e6]
structure Rt where
 exps:List Int
 c:Rd
structure Rp where
 vars:Int
 terms:List Rt
def dC(t:Rt):List AV:=[.sl 1 (ce t.exps),B t.c.neg,lm t.c.m,I t.c.e]
def aL(l:List Rt):List (List AV):=l.map dC
def Rg(a:Rp):AV:=.agg [I a.vars,.sl 4 (aL a.terms)]
@[go_sem] theorem jG(l):(aL l).length=l.length:=by simp[aL]
theorem AE{l}{i:Int}{n:Nat}{d}(hi:i=n)(h:l[n]?=some d):ey (aL l) i=some (.ipt (dC d)):=by
 grind[ey,aL]
theorem kT{α:Type}{f}{l:List α}(h:∀x∈l,f x=x):l.map f=l:=(aef (g:=fun c=>c) h).trans (List.map_id' _)
@[go_sem] theorem EH(l):(aL l).map (aU [.o 2 [],.o 0 [],.o 2 [],.o 0 []])=aL l:=by
 refine kT fun x hx=>?_;simp only[aL,aec]at hx;obtain⟨t,ht,rfl⟩:=hx;simp only[dC,go_sem]
structure OkT (t:Rt):Prop where
 c:Ok0 t.c
 len:t.exps.length<=100000
structure OkP (a:Rp):Prop where
 t:∀t∈a.terms,OkT t
def Cb(e:Int):Bool:=decide (e<0)||decide (32<e)
theorem acL{e}:R F.poly_Valid_1 [I e] []=some (B (Cb e),[]):=by
 refine aX Tv rfl ?_;unfold Cb;by_cases h:e<0
 ·have e1:=tt h;simp only[sN,tW,go_sem,e1,decide_true,Bool.true_or]
 ·have e1:=ff h;simp only[sN,tW,go_sem,e1,decide_false,Bool.false_or]
theorem abe{l}(h2:l.length<=100000):R F.slices_ContainsFunc_int_int_ [.sl 1 (ce l),.fn F.poly_Valid_1 [] []] []=some (B (l.any Cb),[]):=by
 let p:List AV->Bool:=fun row=>match row with|[.v (.int _ e)]=>Cb e|_=>false
 have h1:=FO (k:=1) (g:=false) (f:=F.poly_Valid_1) (rows:=ce l) (p:=p) Q7.2.1 Q7.2.2 (Q7.1.2.2.2 false) rfl (Tv.1.2.1 false) (by grind[uF]) (fun row hr=>by
  simp only[ce,aec]at hr;obtain⟨e,he,rfl⟩:=hr;refine⟨I e,rfl,rfl,?_⟩;simp only[go_sem,acL,p])
 have h2:=Es (k:=1) Rj.2.1 Rj.2.2 (Rj.1.2.2.2 false) rfl (Q7.1.2.1 false) (Q7.1.1 false) (by simp only[go_sem]) h1;grind[ce,Cb,List.any_map]
def F1(v:Int)(t:Rt):Bool:=decide (t.exps.length=v)&& (vd t.c&& (decide (t.c.m.length≠0)&& (!(t.exps.any Cb)&&decide (dp t.exps<=32))))
def L5:Option Rt->Rt->Bool
 |none,_=>true
 |some q,t=>decide (aS q.exps t.exps<0)
def Ed(v:Int):Option Rt->List Rt->Bool
 |_,[]=>true
 |pr,t::l=>F1 v t&& (L5 pr t&&Ed v (some t) l)
theorem F3{v}{t}(h:F1 v t=true):t.exps.length=v/\vd t.c=true/\t.c.m.length≠0/\t.exps.any Cb=false/\dp t.exps<=32:=by
 grind[F1]
theorem EI{l:List Int}(h:l.any Cb=false):∀x∈l,0<=x/\x<=32:=by
 simp_all[Cb,Bool.or_eq_true,decide_eq_true_eq,not_or]
theorem acd{a:Rp}(ok:∀t∈a.terms,Ok0 t.c)(hv:a.vars<=8)(h2:a.terms.length<=500):∀k i,i+k=a.terms.length->∀pr,(i=0->pr=none)->(0<i->∃q,pr=some q/\a.terms[i-1]?=some q/\F1 a.vars q=true)->
  ∀s h,s 1=.ref 1 none 0 0 0->s 20=.sl 4 (aL a.terms)->s 21=I a.terms.length->s 22=I i->h 1=.bx [I a.vars,.sl 4 (aL a.terms)]->
  ∃hh,aC 0 [] (bX (aj R (bA false) sL) [1,20,21,22] [1] s h)=if Ed a.vars pr (a.terms.drop i)=true then some (.normal,⟨fun _=>.any,hh⟩)else some (.ret,⟨upd (fun _=>.any) 2 (B false),hh⟩):=by
 intro k;induction k with
 |zero=>
  intro i hi pr p0 p1 s h h1 h20 h21 h22 k1;have e1:((i:Int)<a.terms.length)=False:=ff (by omega);rw[aej (by omega),aD];refine⟨?hh0,?_⟩;rotate_left;show _=if true=true then _ else _
  rw[if_pos rfl];simp only[sL,go_sem,QP,h1,h20,h21,h22,k1,e1];rfl
 |succ k ih=>
  intro i hi pr p0 p1 s h h1 h20 h21 h22 k1;have hlt:i<a.terms.length:=by omega
  have e1:((i:Int)<a.terms.length)=True:=tt (by omega);have e2:=AE rfl (adW hlt);have e5:IntKind.i64.wrap ((i:Int)+1)=((i+1:Nat):Int):=wi (by omega) (by omega);have okt:=ok a.terms[i] (aee hlt);have hnext:=adW hlt;rw[ael hlt,aD];have ih':=ih (i+1) (by omega) (some a.terms[i]) (fun h=>absurd h (Nat.succ_ne_zero _));generalize a.terms[i]=t at e2 okt ih' hnext⊢;generalize bX _ _ _=L at ih'⊢;have hvd:=sk okt;have hct:=fun(h:(t.exps.length:Int)=a.vars)=>abe (l:=t.exps) (by omega);simp only[dC]at e2;simp only[av,aJ]at hvd;unfold Ed;cases hb:F1 a.vars t with
  |false=>
   simp only[ad2,if_neg Bool.false_ne_true];unfold F1 at hb;by_cases c1:t.exps.length=a.vars
   ·have f1:=tt c1;rw[decide_eq_true c1,adY]at hb;cases c2:vd t.c with
    |false=>
     rw[c2]at hvd;refine⟨?hh2,?_⟩;rotate_left;simp only[sL,go_sem,QH,QG,QJ,QP,h1,h20,h21,h22,k1,e1,e2,f1,hvd];rfl
    |true=>
     rw[c2]at hvd hb;rw[adY]at hb;by_cases c3:t.c.m.length=0
     ·have f3:((t.c.m.length:Int)=0)=True:=tt (by omega);refine⟨?hh3,?_⟩;rotate_left;simp only[sL,go_sem,QH,QG,QJ,QP,h1,h20,h21,h22,k1,e1,e2,f1,hvd,f3];rfl
     ·have f3:((t.c.m.length:Int)=0)=False:=ff (by omega);rw[decide_eq_true c3,adY]at hb;have hct:=hct c1;cases c4:t.exps.any Cb with
      |true=>
       rw[c4]at hct;refine⟨?hh4,?_⟩;rotate_left;simp only[sL,go_sem,QH,QG,QJ,QP,h1,h20,h21,h22,k1,e1,e2,f1,hvd,f3,hct];rfl
      |false=>
       rw[c4]at hct hb;rw[Bool.not_false,adY]at hb;have hdg:=uX (a:=t.exps) ⟨by omega,EI c4⟩;have f5:(32<dp t.exps)=True:=tt (by grind);refine⟨?hh5,?_⟩;rotate_left;simp only[sL,go_sem,QH,QG,QJ,QP,h1,h20,h21,h22,k1,e1,e2,f1,hvd,f3,hct,hdg,f5];rfl
   ·have f1:((t.exps.length:Int)=a.vars)=False:=ff c1;refine⟨?hh1,?_⟩;rotate_left;simp only[sL,go_sem,QH,QG,QJ,QP,h1,h20,h21,h22,k1,e1,e2,f1];rfl
  |true=>
   obtain⟨c1,c2,c3,c4,c5⟩:=F3 hb;have f1:((t.exps.length:Int)=a.vars)=True:=tt c1;rw[c2]at hvd;have f3:((t.c.m.length:Int)=0)=False:=ff (by omega);have hct:=hct c1;rw[c4]at hct;have hdg:=uX (a:=t.exps) ⟨by omega,EI c4⟩;have f5:(32<dp t.exps)=False:=ff (by omega);simp only[adY];by_cases hi0:i=0
   ·have f6:(0< (i:Int))=False:=ff (by omega);rw[p0 hi0];simp only[L5,adY];simp only[sL,go_sem,QH,QG,QJ,QP,h1,h20,h21,h22,k1,e1,e2,f1,hvd,f3,hct,hdg,f5,f6,e5];exact ih' (fun _=>⟨t,rfl,hnext,hb⟩) _ _ rfl rfl rfl rfl rfl
   ·have f6:(0< (i:Int))=True:=tt (by omega);obtain⟨q,q1,q2,q3⟩:=p1 (by omega);obtain⟨d1,d2,d3,d4,d5⟩:=F3 q3;rw[q1];have e7:IntKind.i64.wrap ((i:Int)-1)=((i-1:Nat):Int):=wi (by omega) (by omega);have e8:ey (aL a.terms) ((i-1:Nat):Int)=some (.ipt (dC q)):=AE rfl q2;simp only[dC]at e8;have ho:=DM (a:=q.exps) (b:=t.exps) ⟨by omega,EI d4⟩ ⟨by omega,EI c4⟩ (by omega);simp only[L5];by_cases c6:aS q.exps t.exps<0
    ·have f7:(0<=aS q.exps t.exps)=False:=ff (by omega);simp only[decide_eq_true c6,adY];simp only[sL,go_sem,QH,QG,QJ,QM,QP,h1,h20,h21,h22,k1,e1,e2,f1,hvd,f3,hct,hdg,f5,f6,e5,e7,e8,ho,f7];exact ih' (fun _=>⟨t,rfl,hnext,hb⟩) _ _ rfl rfl rfl rfl rfl
    ·have f7:(0<=aS q.exps t.exps)=True:=tt (by omega);simp only[decide_eq_false c6,ad2,if_neg Bool.false_ne_true];refine⟨?hh7,?_⟩;rotate_left;simp only[sL,go_sem,QH,QG,QJ,QM,QP,h1,h20,h21,h22,k1,e1,e2,f1,hvd,f3,hct,hdg,f5,f6,e7,e8,ho,f7];rfl
def vp(a:Rp):Bool:=decide (0<=a.vars)&& (decide (a.vars<=8)&& (decide (a.terms.length<=500)&&Ed a.vars none a.terms))
theorem Zf{a}(ok:∀t∈a.terms,Ok0 t.c):R F.poly_Valid [Rg a] []=some (B (vp a),[]):=by
 refine aX Ub rfl ?_;unfold vp;by_cases c1:0<=a.vars
 ·have f1:(a.vars<0)=False:=ff (by omega);rw[decide_eq_true c1,adY];by_cases c2:a.vars<=8
  ·have f2:(8<a.vars)=False:=ff (by omega);rw[decide_eq_true c2,adY];by_cases c3:a.terms.length<=500
   ·have f3:(500< (a.terms.length:Int))=False:=ff (by omega);rw[decide_eq_true c3,adY];have h3:=acd ok c2 c3 a.terms.length 0 (QN _) none (fun _=>rfl) (fun h=>absurd h (Nat.lt_irrefl _));simp only[List.drop_zero,aek]at h3;cases hb:Ed a.vars none a.terms with
    |true=>
     rw[hb]at h3;simp only[vG,yg,Rg,go_sem,QH,QG,f1,f2,f3];rw[(h3 _ _ rfl rfl rfl rfl rfl).choose_spec];simp only[go_sem]
    |false=>
     rw[hb]at h3;simp only[vG,yg,Rg,go_sem,QH,QG,f1,f2,f3];rw[(h3 _ _ rfl rfl rfl rfl rfl).choose_spec];simp only[go_sem]
   ·have f3:(500< (a.terms.length:Int))=True:=tt (by omega);rw[decide_eq_false c3,ad2];simp only[vG,yg,Rg,go_sem,QH,QG,f1,f2,f3]
  ·have f2:(8<a.vars)=True:=tt (by omega);rw[decide_eq_false c2,ad2];simp only[vG,yg,Rg,go_sem,QH,QG,f1,f2]
 ·have f1:(a.vars<0)=True:=tt (by omega);rw[decide_eq_false c1,ad2];simp only[vG,yg,Rg,go_sem,QH,QG,f1]
theorem aac{a}(ok:OkP a):R F.poly_Valid [Rg a] []=some (B (vp a),[]):=Zf fun t h=>(ok.t t h).c
@[go_sem] theorem Ov(l):(CM l).map (aU [.o 0 [],.o 2 [],.o 0 [],.o 0 [],.o 2 [],.o 0 [],.o 0 []])=CM l:=by
 refine kT fun x hx=>?_;simp only[CM,aec]at hx;obtain⟨t,ht,rfl⟩:=hx;simp only[JF,go_sem]
theorem ace{v}:∀l pr,Ed v pr l=true->∀t∈l,F1 v t=true:=by
 intro l;induction l with
 |nil=>grind
 |cons a l ih=>
  intro pr h t ht;unfold Ed at h;grind
theorem acM{n:Nat}{i:Int}(hi:i=n)(hn:n<4294967296):bS .and (.v (.int .u32 i)) (.v (.int .u32 1))=some (.v (.int .u32 (n%2:Nat))):=by
 rw[Mn];have e:(BitVec.ofInt IntKind.u32.bits n&&&BitVec.ofInt IntKind.u32.bits 1).toNat=n%2:=by
  show(BitVec.ofInt 32 n&&&BitVec.ofInt 32 1).toNat=n%2;grind
 grind[Ju]
theorem Zg(m)(h2:m.length<4611686018427387904):∀ (n:Nat),n<=m.length->∀s h,s 0=lm m->s 3=I n->
  aC 0 [0,3] (bX (aj R (bA false) ws) [0,3] [] s h)=some (.normal,⟨upd (upd (fun _=>.any) 3 (I (ed m n))) 0 (lm m),fun _=>.dead⟩):=CB m h2
theorem W0{m}(hb:Lb m)(h:m.length<=10000000):R F.r02_trim [lm m] []=some (lm (af (ab m)),[]):=by
 refine aX Y9 rfl ?_;have h1:gO 1 (lm m) none (some (I (ed m m.length))) none=some (lm (af (ab m))):=by
  rw[yI (a:=0) (b:=ed m m.length) rfl (oT rfl (qi _ _)) (qi _ _),List.drop_zero,Nat.sub_zero,xW hb]
 have hl:=dF m hb;have e1:((af (ab m)).length*4<=140737488355328)=True:=tt (by omega);simp only[zX,BY,go_sem,QJ,QM,Zg m (by omega) m.length (QK _),h1,DG,e1,aeg,adZ,true_or,QN,QK,List.replicate_zero]
theorem aad:∀x b,x<4294967296->b+ai x<=100000000->∀s h,s 3=I b->s 4=U x->
  aC 0 [3] (bX (aj R (bA false) ww) [3,4] [] s h)=some (.normal,⟨upd (fun _=>.any) 3 (I (b+ai x:Nat)),fun _=>.dead⟩):=by
 intro x;induction x using Nat.strongRecOn with
 |ind x ih=>
  intro b hx hb s h h3 h4;rw[aD];by_cases h0:x=0
  ·have e1:(0< (x:Int))=False:=ff (by omega);rw[h0,CJ,Nat.add_zero];simp only[ww,go_sem,h3,h4,e1]
  ·have e1:(0< (x:Int))=True:=tt (by omega);have e2:=B6 (n:=x) (k:=1) (kk:=.u64) (j:=1) rfl rfl (by omega);have e3:IntKind.i64.wrap (b+1)=(b+1:Nat):=wi (by omega) (by omega);have e4:ai x=1+ai (x/2^1):=by
    have h5:=sj x 1;grind[pe]
   have ih':=ih (x/2^1) (by omega) (b+1) (by omega) (by omega);rw[show b+ai x=b+1+ai (x/2^1)by omega];simp only[ww,go_sem,h3,h4,e1,e2,e3];exact ih' _ _ rfl rfl
theorem abf{m}(hb:Lb m)(h:m.length<=1000000)(hc:oS m):R F.r02_bits [lm m] []=some (I (ai (ab m)),[]):=by
 refine aX Za rfl ?_;by_cases h0:m.length=0
 ·have:=List.length_eq_zero_iff.1 h0;subst this;simp only[Aa,B0,go_sem,adZ,aek,ab,CJ]
 ·have e1:((m.length:Int)=0)=False:=ff (by omega);have e2:IntKind.i64.wrap (m.length-1)=(m.length-1:Nat):=wi (by omega) (by omega);have e3:IntKind.i64.wrap (32*(m.length-1:Nat))=(32*(m.length-1):Nat):=wi (by omega) (by omega);have e4:ey (ao m) (m.length-1:Nat)=some (.ipt [U (m.getD (m.length-1) 0)]):=bI rfl (by omega);have hx:=cY hb (m.length-1);have e5:=aad (m.getD (m.length-1) 0) (32*(m.length-1)) hx (by have:=(fX (k:=32)).2 hx;omega);have e6:32*(m.length-1)+ai (m.getD (m.length-1) 0)=ai (ab m):=by
   grind[DF,Cr,Ao]
  rw[e6]at e5;simp only[Aa,B0,go_sem,e1,e2,e3,e4];rw[e5 _ _ rfl rfl];simp only[go_sem]
theorem abg(m):(ao m).take m.length=ao m:=by
 simp_all[aed,NY,QK]
theorem aae{d}(ok:Ok0 d):R F.r02_Valid [av d] []=some (B (vd d),[]):=by
 refine aX XG rfl ?_;unfold vd;have hl:=ok.len;by_cases a0:d.m.length=0
 ·rw[if_pos a0];have e1:((d.m.length:Int)=0)=True:=tt (by omega);cases hn:d.neg with
  |true=>simp only[yr,zW,av,aJ,hn,go_sem,QH,QG,e1,Bool.not_true,ad2]
  |false=>simp only[yr,zW,av,aJ,hn,go_sem,QH,QG,e1,Bool.not_false,adY]
 rw[if_neg a0];have e1:((d.m.length:Int)=0)=False:=ff (by omega);by_cases a1:¬d.m.length<=256
 ·have e2:(256< (d.m.length:Int))=True:=tt (by omega);rw[decide_eq_false a1,ad2];simp only[yr,zW,av,aJ,go_sem,QH,QG,e1,e2]
 replace a1:=Decidable.not_not.1 a1
 have e2:(256< (d.m.length:Int))=False:=ff (by omega);have e3:ey (ao d.m) 0=some (.ipt [U (d.m.getD 0 0:Nat)]):=bI rfl (by omega);have e6:IntKind.i64.wrap ((d.m.length:Int)-1)=((d.m.length-1:Nat):Int):=wi (by omega) (by omega);have e7:ey (ao d.m) ((d.m.length-1:Nat):Int)=some (.ipt [U (d.m.getD (d.m.length-1) 0:Nat)]):=bI rfl (by omega);have hx:=cY ok.lb 0;rw[decide_eq_true a1,adY];by_cases a3:d.m.getD (d.m.length-1) 0=0
 ·have e8:((d.m.getD (d.m.length-1) 0:Int)=0)=True:=tt (by omega);rw[decide_eq_false (p:=d.m.getD (d.m.length-1) 0≠0) (fun h=>h a3),ad2,Bool.and_false];simp only[yr,zW,av,aJ,go_sem,QH,QG,e1,e2,e6,e7,e8]
 have e8:((d.m.getD (d.m.length-1) 0:Int)=0)=False:=ff (by omega);rw[decide_eq_true (p:=d.m.getD (d.m.length-1) 0≠0) a3,adY];have e4:=acM (n:=d.m.getD 0 0) rfl hx;by_cases a2:¬d.m.getD 0 0%2=1
 ·have e5:(((d.m.getD 0 0%2:Nat):Int)=0)=True:=tt (by omega);rw[decide_eq_false a2,ad2];simp only[yr,zW,av,aJ,go_sem,QH,QG,e1,e2,e3,e4,e5,e6,e7,e8]
 replace a2:=Decidable.not_not.1 a2
 have e5:(((d.m.getD 0 0%2:Nat):Int)=0)=False:=ff (by omega);rw[decide_eq_true a2,adY];have hv:=Cr (Or.inr a3) (fun h=>a0 (by grind));have hbp:=pe hv;unfold pK;rw[decide_eq_false (p:=ai (ab d.m)=0) (by omega),Bool.false_or];by_cases a4:d.e< -16384
 ·have f1:=tt a4;rw[decide_eq_false (p:=-16384<=d.e) (by omega),ad2,Bool.and_false];simp only[yr,zW,av,aJ,go_sem,QH,QG,e1,e2,e3,e4,e5,e6,e7,e8,f1]
 have f1:=ff a4;rw[decide_eq_true (p:=-16384<=d.e) (by omega),adY];by_cases a5:16384<d.e
 ·have f2:=tt a5;rw[decide_eq_false (p:=d.e<=16384) (by omega),ad2,Bool.and_false];simp only[yr,zW,av,aJ,go_sem,QH,QG,e1,e2,e3,e4,e5,e6,e7,e8,f1,f2]
 have f2:=ff a5;rw[decide_eq_true (p:=d.e<=16384) (by omega),adY];have hb:=abf ok.lb (by omega) (Or.inr a3);have hbl:=abd ok.lb;have w1:IntKind.i64.wrap (((ai (ab d.m):Nat):Int)+d.e)=((ai (ab d.m):Nat):Int)+d.e:=i64_in _ ⟨by omega,by omega⟩;by_cases a6:ai (ab d.m)<=4096
 ·have f3:(((ai (ab d.m):Nat):Int)<=4096)=True:=tt (by omega);rw[decide_eq_true a6,adY];simp only[yr,zW,av,aJ,go_sem,QH,QG,e1,e2,e3,e4,e5,e6,e7,e8,f1,f2,hb,f3,w1]
 ·have f3:(((ai (ab d.m):Nat):Int)<=4096)=False:=ff (by omega);rw[decide_eq_false a6,ad2];simp only[yr,zW,av,aJ,go_sem,QH,QG,e1,e2,e3,e4,e5,e6,e7,e8,f1,f2,hb,f3]
theorem DN{d}(h:vd d=true):oS d.m:=by
 by_cases h0:d.m.length=0
 ·exact Or.inl (List.length_eq_zero_iff.1 h0)
 ·exact Or.inr (mG h h0).2.2.1
def jB(z f:Int):Rd:=bN (decide (z<0)) z.natAbs f
theorem ri{neg}{n}{f}:bN neg n f=jB (dQ neg n) f:=by
 unfold jB;by_cases h0:n=0
 ·subst h0;cases neg<;>exact m9.symm
 ·cases neg with
  |false=>
   rw[rh,Int.natAbs_natCast,decide_eq_false (by omega)]
  |true=>
   rw[rg,Int.natAbs_neg,Int.natAbs_natCast,decide_eq_true (by omega)]
theorem F4{n}(h:n%2=1)(k):tz (n*2^k)=k:=by
 rw[aeh,qk k (by omega),nG h,Nat.add_zero]
theorem uH{d}(ok:Ok0 d)(h:vd d=true):jB (zI d) (-16384)=d:=by
 by_cases h0:d.m.length=0
 ·rw[uE h0];have:=re h h0;subst this;exact m9
 ·obtain⟨h1,h2,h3,h4⟩:=mG h h0;obtain⟨g1,g2,g3,g4⟩:=mH h ok.lb;have hz:zI d=dQ d.neg (mg d):=by
   grind[zI,dQ]
  rw[hz,←ri];unfold mg;rw[lH,mI (oj h h0)];have ho:ab d.m%2=1:=by
   have:=cu d.m 0;grind
  rw[nG ho,Nat.pow_zero,Nat.div_one,Ao ok.lb (DN h)];obtain⟨n,m,e⟩:=d;grind
theorem Uc{x y}(h:x<=y):(af x).length<=(af y).length:=Nat.not_lt.1 fun h2=>by
 have:=oW h2;omega
theorem kH(x y):(x<y/\lk x y=-1)\/(x=y/\lk x y=0)\/(y<x/\lk x y=1):=by
 unfold lk;rcases Int.lt_trichotomy x y with h|h|h
 ·exact Or.inl ⟨h,if_pos h⟩
 ·exact Or.inr (Or.inl ⟨h,by rw[if_neg (by omega)];exact if_neg (by omega)⟩)
 ·exact Or.inr (Or.inr ⟨h,by rw[if_neg (by omega)];exact if_pos h⟩)
theorem Zh{a}(h2:sm a):∀k i,i+k=a.length->∀s h,s 0=.sl 1 (ce a)->s 3=I (dp (a.take i))->s 4=I i->
  aC 0 [3] (bX (aj R (bA false) yt) [0,3,4] [] s h)=some (.normal,⟨upd (fun _=>.any) 3 (I (dp a)),fun _=>.dead⟩):=by
 intro k;induction k with
 |zero=>
  intro i hi s h h0 h3 h4;have e1:((i:Int)<a.length)=False:=ff (by omega);rw[aed (by omega)]at h3;rw[aD];simp only[yt,go_sem,h0,h3,h4,e1]
 |succ k ih=>
  intro i hi s h h0 h3 h4;have hlt:i<a.length:=by omega
  obtain⟨g1,g2⟩:=h2;have e1:((i:Int)<a.length)=True:=tt (by omega);have e2:=uG rfl (adW hlt);have e5:IntKind.i64.wrap (i+1)=(i+1:Nat):=wi (by omega) (by omega);have b1:=F0 (l:=a.take i) (fun x hx=>g2 x (List.mem_of_mem_take hx));have b2:=g2 a[i] (aee hlt);have e6:IntKind.i64.wrap (dp (a.take i)+a[i])=dp (a.take (i+1)):=by
   grind[DK,i64_in]
  have ih':=ih (i+1) (by omega);rw[aD];simp only[yt,go_sem,h0,h3,h4,e1,e2,e5,e6];exact ih' _ _ rfl rfl rfl
theorem W7{a}(h2:sm a):R F.r23_sum [.sl 1 (ce a)] []=some (I (dp a),[]):=by
 refine aX Z5 rfl ?_;have h3:=Zh h2 a.length 0 (QN _);simp only[BW,Cx,go_sem];rw[h3 _ _ rfl rfl rfl];simp only[go_sem]
theorem Zi{a b}(hl:a.length=b.length)(h2:a.length<=100000):∀ (k i:Nat),i+k=a.length->∀s h,s 0=.sl 1 (ce a)->s 1=.sl 1 (ce b)->s 7=I i->
  ∃hh,aC 0 [] (bX (aj R (bA false) rM) [0,1,7] [] s h)=if gY (b.drop i) (a.drop i)=0 then some (.normal,⟨fun _=>.any,fun _=>.dead⟩)else some (.ret,⟨upd (fun _=>.any) 4 (I (gY (b.drop i) (a.drop i))),hh⟩):=by
 intro k;induction k with
 |zero=>
  intro i hi s h h0 h1 h7;have e1:((i:Int)<a.length)=False:=ff (by omega);rw[aej (by omega),aej (by omega),aD];refine⟨fun _=>.dead,?_⟩;show _=if 0=0 then _ else _
  simp only[rM,go_sem,h0,h1,h7,e1]
 |succ k ih=>
  intro i hi s h h0 h1 h7;have hlt:i<a.length:=by omega
  have hlt2:i<b.length:=by omega
  have e1:((i:Int)<a.length)=True:=tt (by omega);have e2:=uG rfl (adW hlt);have e3:=uG rfl (adW hlt2);have e5:IntKind.i64.wrap (i+1)=(i+1:Nat):=wi (by omega) (by omega);rw[ael hlt,ael hlt2,aD];have ih':=ih (i+1) (by omega);generalize a[i]=x at e2⊢;generalize b[i]=y at e3⊢;unfold gY;rcases kH y x with⟨g,e⟩| ⟨g,e⟩| ⟨g,e⟩
  ·have e6:=tt g;simp only[e,↓reduceIte,adT,Int.reduceNeg];refine⟨?hh1,?_⟩;rotate_left;simp only[rM,go_sem,h0,h1,h7,e1,e2,e3,e6];rfl
  ·have e6:(y<x)=False:=ff (by omega);have e7:(x<y)=False:=ff (by omega);simp only[e,↓reduceIte];simp only[rM,go_sem,h0,h1,h7,e1,e2,e3,e5,e6,e7];exact ih' _ _ rfl rfl rfl
  ·have e6:(y<x)=False:=ff (by omega);have e7:(x<y)=True:=tt (by omega);simp only[e,↓reduceIte,adT];refine⟨?hh2,?_⟩;rotate_left;simp only[rM,go_sem,h0,h1,h7,e1,e2,e3,e6,e7];rfl
theorem W8{a b}(ha:sm a)(hb:sm b)(hl:a.length=b.length):R F.r23_Compare [.sl 1 (ce a),.sl 1 (ce b)] []=some (I (aS a b),[]):=by
 refine aX Wf rfl ?_;have d1:=W7 ha;have d2:=W7 hb;have h3:=Zi hl (by have:=ha.1;omega) a.length 0 (QN _);simp only[List.drop_zero,aek]at h3;unfold aS;rcases kH (dp a) (dp b)with⟨g,e⟩| ⟨g,e⟩| ⟨g,e⟩
 ·have e6:=tt g;rw[e,if_neg (by decide)];simp only[ue,vZ,go_sem,QH,QG,d1,d2,e6]
 ·have e6:(dp a<dp b)=False:=ff (by omega);have e7:(dp b<dp a)=False:=ff (by omega);rw[e,if_pos rfl];by_cases hz:gY b a=0
  ·simp only[if_pos hz]at h3;simp only[ue,vZ,go_sem,QH,QG,d1,d2,e6,e7];rw[(h3 _ _ rfl rfl rfl).choose_spec,hz];simp only[go_sem]
  ·simp only[if_neg hz]at h3;simp only[ue,vZ,go_sem,QH,QG,d1,d2,e6,e7];rw[(h3 _ _ rfl rfl rfl).choose_spec];simp only[go_sem]
 ·have e6:(dp a<dp b)=False:=ff (by omega);have e7:(dp b<dp a)=True:=tt (by omega);rw[e,if_neg (by decide)];simp only[ue,vZ,go_sem,QH,QG,d1,d2,e6,e7]
theorem aaf{t:Rt}(h2:t.exps.length<=1000):∀ (k i:Nat),i+k=t.exps.length->(∀x∈t.exps.take i,0<=x/\x<=32)->∀ (s:ah) (h:ac),s 3=.ref 3 none 0 0 0->s 5=I (dp (t.exps.take i))->s 6=I i->h 3=.bx (dC t)->
  ∃hh,aC 0 [5] (bX (aj R (bA false) vX) [3,5,6] [3] s h)=if(t.exps.drop i).any Cb=true then some (.ret,⟨upd (fun _=>.any) 4 (B false),hh⟩)else some (.normal,⟨upd (fun _=>.any) 5 (I (dp t.exps)),hh⟩):=by
 intro k;induction k with
 |zero=>
  intro i hi hg s h h3 h5 h6 k3;have e1:((i:Int)<t.exps.length)=False:=ff (by omega);rw[aed (by omega)]at h5;rw[aej (by omega),aD];simp only[dC]at k3;refine⟨?hh,?_⟩;rotate_left;show _=if false=true then _ else _
  simp only[vX,go_sem,QH,QG,QP,h3,h5,h6,k3,e1];rfl
 |succ k ih=>
  intro i hi hg s h h3 h5 h6 k3;have hlt:i<t.exps.length:=by omega
  have e1:((i:Int)<t.exps.length)=True:=tt (by omega);have e2:ey (ce t.exps) (i:Int)=some (.ipt [I t.exps[i]]):=uG rfl (adW hlt);have e5:IntKind.i64.wrap ((i:Int)+1)=((i+1:Nat):Int):=wi (by omega) (by omega);have b1:=F0 hg;have b3:(t.exps.take i).length<=1000:=by grind
  have ih':=ih (i+1) (by omega);have htk:t.exps.take (i+1)=t.exps.take i++[t.exps[i]]:=by simp_all
  have hst:=DK hlt;rw[ael hlt,List.any_cons,aD];simp only[dC]at k3;rw[hst]at ih';rw[htk]at ih';generalize t.exps[i]=x at e2 ih'⊢;unfold Cb at ih'⊢;by_cases g1:x<0
  ·have e6:(x<0)=True:=tt g1;simp only[decide_eq_true g1,Bool.true_or];refine⟨?hh1,?_⟩;rotate_left;simp only[vX,go_sem,QH,QG,QP,h3,h5,h6,k3,e1,e2,e6];rfl
  ·have e6:(x<0)=False:=ff g1;by_cases g2:32<x
   ·have e7:(32<x)=True:=tt g2;simp only[decide_eq_false g1,decide_eq_true g2,Bool.false_or,Bool.true_or];refine⟨?hh2,?_⟩;rotate_left;simp only[vX,go_sem,QH,QG,QP,h3,h5,h6,k3,e1,e2,e6,e7];rfl
   ·have e7:(32<x)=False:=ff g2;have e8:IntKind.i64.wrap (dp (t.exps.take i)+x)=dp (t.exps.take i)+x:=i64_in _ ⟨by omega,by omega⟩;simp only[vX,go_sem,QH,QG,QP,h3,h5,h6,k3,e1,e2,e5,e6,e7,e8];exact ih' (fun y hy=>by
     grind) _ _ rfl rfl rfl rfl
theorem aag{v:Int}{t:Rt}(ok:Ok0 t.c)(hv:v<=1000):R F.r23_term [I v,.agg (dC t)] []=some (B (F1 v t),[]):=by
 refine aX Y6 rfl ?_;have hvd:=aae ok;simp only[av,aJ]at hvd;unfold F1;by_cases c1:(t.exps.length:Int)=v
 ·have f1:((t.exps.length:Int)=v)=True:=tt c1;cases c2:vd t.c with
  |false=>
   rw[c2]at hvd;simp only[zT,BU,dC,go_sem,QH,QG,QJ,f1,hvd]
  |true=>
   rw[c2]at hvd;by_cases c3:t.c.m.length=0
   ·have f3:((t.c.m.length:Int)=0)=True:=tt (by omega);rw[decide_eq_false (p:=t.c.m.length≠0) (fun h=>h c3),ad2];simp only[zT,BU,dC,go_sem,QH,QG,QJ,f1,hvd,f3]
   ·have f3:((t.c.m.length:Int)=0)=False:=ff (by omega);rw[decide_eq_true (p:=t.c.m.length≠0) c3,adY];have hL:=aaf (t:=t) (by omega) t.exps.length 0 (QN _) (fun x hx=>by grind);generalize hLL:bX (aj R (bA false) vX) [3,5,6] [3]=L at hL;have hX:∀s h,aj R (bA false) (.loop [3,5,6] [3] vX) s h=L s h:=fun s h=>by rw[←hLL];rfl
    have hL2:∀ (S:ah) (H:ac) (X:Option (Ex×St)),aC 0 [5] (L S H)=X->S 3=.ref 3 none 0 0 0->S 5=I 0->S 6=I 0->H 3=.bx (dC t)->∃hh,X=if t.exps.any Cb=true then some (.ret,⟨upd (fun _=>.any) 4 (B false),hh⟩)else some (.normal,⟨upd (fun _=>.any) 5 (I (dp t.exps)),hh⟩):=fun S H X hX=>by
     rw[←hX];exact hL S H
    cases c4:t.exps.any Cb with
    |true=>
     simp only[c4]at hL2;simp only[zT,BU,hX,dC,go_sem,QH,QG,QJ,f1,hvd,f3];generalize hB:aC 0 [5] (L _ _)=X;obtain⟨hh,g0⟩:=hL2 _ _ _ hB rfl rfl rfl rfl;rw[g0];simp only[go_sem]
    |false=>
     simp only[c4,if_neg Bool.false_ne_true]at hL2;simp only[zT,BU,hX,dC,go_sem,QH,QG,QJ,f1,hvd,f3];generalize hB:aC 0 [5] (L _ _)=X;obtain⟨hh,g0⟩:=hL2 _ _ _ hB rfl rfl rfl rfl;rw[g0];simp only[go_sem]
 ·have f1:((t.exps.length:Int)=v)=False:=ff c1;simp only[zT,BU,dC,go_sem,QH,QG,f1]
theorem aah{a:Rp}(ok:∀t∈a.terms,Ok0 t.c)(hv:a.vars<=8)(h2:a.terms.length<=500):∀ (k i:Nat),i+k=a.terms.length->∀ (pr:Option Rt),(i=0->pr=none)->(0<i->∃q,pr=some q/\a.terms[i-1]?=some q/\F1 a.vars q=true)->
  ∀ (s:ah) (h:ac),s 1=.ref 1 none 0 0 0->s 3=I i->h 1=.bx [I a.vars,.sl 4 (aL a.terms)]->
  ∃hh,aC 0 [] (bX (aj R (bA false) tT) [1,3] [1] s h)=if Ed a.vars pr (a.terms.drop i)=true then some (.normal,⟨fun _=>.any,hh⟩)else some (.ret,⟨upd (fun _=>.any) 2 (B false),hh⟩):=by
 intro k;induction k with
 |zero=>
  intro i hi pr p0 p1 s h h1 h3 k1;have e1:((i:Int)<a.terms.length)=False:=ff (by omega);rw[aej (by omega),aD];refine⟨?hh0,?_⟩;rotate_left;show _=if true=true then _ else _
  rw[if_pos rfl];simp only[tT,go_sem,QH,QG,QP,h1,h3,k1,e1];rfl
 |succ k ih=>
  intro i hi pr p0 p1 s h h1 h3 k1;have hlt:i<a.terms.length:=by omega
  have e1:((i:Int)<a.terms.length)=True:=tt (by omega);have e2:ey (aL a.terms) (i:Int)=some (.ipt (dC a.terms[i])):=AE rfl (adW hlt);have e5:IntKind.i64.wrap ((i:Int)+1)=((i+1:Nat):Int):=wi (by omega) (by omega);have okt:=ok a.terms[i] (aee hlt);have hnext:a.terms[i+1-1]?=some a.terms[i]:=adW hlt;rw[ael hlt,aD];have ih':=ih (i+1) (by omega) (some a.terms[i]) (fun h=>absurd h (Nat.succ_ne_zero _));generalize a.terms[i]=t at e2 okt ih' hnext⊢;have htm:=aag okt (v:=a.vars) (by omega);simp only[dC]at e2 htm;unfold Ed;cases hb:F1 a.vars t with
  |false=>
   rw[hb]at htm;refine⟨?hh2,?_⟩;rotate_left;simp only[tT,go_sem,QH,QG,QJ,QM,QP,h1,h3,k1,e1,e2,htm];rfl
  |true=>
   rw[hb]at htm;obtain⟨c1,c2,c3,c4,c5⟩:=F3 hb;by_cases hi0:i=0
   ·have f6:(0< (i:Int))=False:=ff (by omega);rw[p0 hi0];simp only[tT,go_sem,QH,QG,QJ,QM,QP,h1,h3,k1,e1,e2,htm,f6,e5];exact ih' (fun _=>⟨t,rfl,hnext,hb⟩) _ _ rfl rfl rfl
   ·have f6:(0< (i:Int))=True:=tt (by omega);obtain⟨q,q1,q2,q3⟩:=p1 (by omega);obtain⟨d1,d2,d3,d4,d5⟩:=F3 q3;rw[q1];have e7:IntKind.i64.wrap ((i:Int)-1)=((i-1:Nat):Int):=wi (by omega) (by omega);have e8:ey (aL a.terms) ((i-1:Nat):Int)=some (.ipt (dC q)):=AE rfl q2;simp only[dC]at e8;have ho:=W8 (a:=q.exps) (b:=t.exps) ⟨by omega,EI d4⟩ ⟨by omega,EI c4⟩ (by omega);simp only[L5];by_cases c6:aS q.exps t.exps<0
    ·have f7:(0<=aS q.exps t.exps)=False:=ff (by omega);simp only[decide_eq_true c6,adY];simp only[tT,go_sem,QH,QG,QJ,QM,QP,h1,h3,k1,e1,e2,htm,f6,e5,e7,e8,ho,f7];exact ih' (fun _=>⟨t,rfl,hnext,hb⟩) _ _ rfl rfl rfl
    ·have f7:(0<=aS q.exps t.exps)=True:=tt (by omega);simp only[decide_eq_false c6,ad2,if_neg Bool.false_ne_true];refine⟨?hh7,?_⟩;rotate_left;simp only[tT,go_sem,QH,QG,QJ,QM,QP,h1,h3,k1,e1,e2,htm,f6,e7,e8,ho,f7];rfl
theorem XJ{a:Rp}(ok:∀t∈a.terms,Ok0 t.c):R F.r23_Valid [Rg a] []=some (B (vp a),[]):=by
 refine aX XF rfl ?_;unfold vp;by_cases c1:0<=a.vars
 ·have f1:(a.vars<0)=False:=ff (by omega);rw[decide_eq_true c1,adY];by_cases c2:a.vars<=8
  ·have f2:(8<a.vars)=False:=ff (by omega);rw[decide_eq_true c2,adY];by_cases c3:a.terms.length<=500
   ·have f3:(500< (a.terms.length:Int))=False:=ff (by omega);rw[decide_eq_true c3,adY];have h3:=aah ok c2 c3 a.terms.length 0 (QN _) none (fun _=>rfl) (fun h=>absurd h (Nat.lt_irrefl _));simp only[List.drop_zero,aek]at h3;cases hb:Ed a.vars none a.terms with
    |true=>
     rw[hb]at h3;simp only[yi,zL,Rg,go_sem,QH,QG,f1,f2,f3];rw[(h3 _ _ rfl rfl rfl).choose_spec];simp only[go_sem]
    |false=>
     rw[hb]at h3;simp only[yi,zL,Rg,go_sem,QH,QG,f1,f2,f3];rw[(h3 _ _ rfl rfl rfl).choose_spec];simp only[go_sem]
   ·have f3:(500< (a.terms.length:Int))=True:=tt (by omega);rw[decide_eq_false c3,ad2];simp only[yi,zL,Rg,go_sem,QH,QG,f1,f2,f3]
  ·have f2:(8<a.vars)=True:=tt (by omega);rw[decide_eq_false c2,ad2];simp only[yi,zL,Rg,go_sem,QH,QG,f1,f2]
 ·have f1:(a.vars<0)=True:=tt (by omega);rw[decide_eq_false c1,ad2];simp only[yi,zL,Rg,go_sem,QH,QG,f1]
theorem Zj{a:Rp}(ok:OkP a):R F.r23_Valid [Rg a] []=some (B (vp a),[]):=XJ fun t h=>(ok.t t h).c
theorem Sx:∀k n,n<10^ (k+1)->nDigits n<=k+1
 |0,n,h=>by rw[nDigits_small (by simpa using h)];exact QK _
 |k+1,n,h=>by
  by_cases h10:n<10
  ·rw[nDigits_small h10];omega
  ·rw[nDigits_big h10];have:=Sx k (n/10) (by rw[ad7]at h;omega);omega
def SJ:List (Int×List UInt8)->List UInt8->List UInt8
 |[],s=>s
 | (n,w)::l,s=>SJ l (if 1<n then(if 0<n then s++([42]++w)else s)++([94]++itoa n)else if 0<n then s++([42]++w)else s)
theorem Vw:∀ (l:List (Int×List UInt8)) (s:List UInt8),(∀p∈l,p.2.length<=20/\p.1<=9223372036854775807)->(SJ l s).length<=s.length+43*l.length
 |[],s,_=>by simp[SJ]
 | (n,w)::l,s,h=>by
  obtain⟨h1,h2⟩:=h (n,w) (by simp);simp only at h1 h2;unfold SJ;have ih:=fun s=>Vw l s fun p hp=>h p (by simp[hp]);refine QU (ih _) ?_;rw[adX];split
  ·have h3:(itoa n).length<=21:=itoa_length_le n (by omega) h2;split
   ·simp only[ad6,adX,adZ];omega
   ·omega
  ·split
   ·simp only[ad6,adX,adZ];omega
   ·omega
def dyS(n:Bool)(v:Nat)(e:Int):List UInt8:=(if n then [45]else [])++decDigits v++[112]++itoa e
theorem acf{n:Bool}{v K:Nat}{e:Int}(hv:v<10^ (K+1))(h0:-9223372036854775808<=e)(h1:e<=9223372036854775807):(dyS n v e).length<=K+30:=by
 have h2:=Sx K v hv;have h3:=itoa_length_le e h0 h1;rw[←decDigits_length]at h2;unfold dyS;cases n<;>simp<;>omega
attribute [-go_sem] Fz El in
theorem acg{a:List Nat}(ha:Lb a)(h1:a.length<=100000):
  ∀m,m<=a.length->∀ (s:ah) (h:ac),s 0=lm a->s 1=W 10->s 6=.rsl 12 none 1 0 a.length->s 7=W (QX 10 (a.drop m)).2->s 8=I (m-1)->h 12=.ar 1 (ao (QI m 0++(QX 10 (a.drop m)).1))->
  ∃hh,aC 0 [6,7] (bX (aj R (bA false) ut) [0,1,6,7,8] [12] s h)=some (.normal,⟨upd (upd (fun _=>.any) 7 (W (QX 10 a).2)) 6 (.rsl 12 none 1 0 a.length),hh⟩)/\hh 12=.ar 1 (ao (QX 10 a).1)/\(∀x,x≠12->hh x=.dead):=by
 intro m;induction m with
 |zero=>
  intro hm s h g0 g1 g6 g7 g8 k11;have e1:(0<=((0:Int)-1))=False:=ff (by omega);rw[aD];refine⟨?hh0,?_,?_,?_⟩;rotate_left
  ·simp only[ut,go_sem,g0,g1,g6,g7,g8,k11,e1];rfl
  all_goals simp_all[QY,if_false]
 |succ m ih=>
  intro hm s h g0 g1 g6 g7 g8 k11;have hlt:m<a.length:=by omega
  have hd:a.drop m=a.getD m 0::a.drop (m+1):=by
   simp_all
  have ha':Lb (a.drop (m+1)):=Ej ha _;obtain⟨q1,q2,q3⟩:=Sv (y:=10) (by decide) ha';have e0:((m+1:Nat)-1)=(m:Int):=by omega
  rw[e0]at g8;have e1:(0<=(m:Int))=True:=tt (by omega);have e2:=bI (m:=a) (i:=(m:Int)) rfl hlt;have e3:IntKind.i64.wrap (m-1)=m-1:=i64_in _ ⟨by omega,by omega⟩;have e5:(m< (a.length:Int))=True:=tt (by omega);have hx:=cY ha m;have ih':=ih (by omega);rw[hd]at ih';have hs1:(QX 10 (a.getD m 0::a.drop (m+1))).1=((QX 10 (a.drop (m+1))).2*4294967296+a.getD m 0)/10::(QX 10 (a.drop (m+1))).1:=rfl;have hs2:(QX 10 (a.getD m 0::a.drop (m+1))).2=((QX 10 (a.drop (m+1))).2*4294967296+a.getD m 0) %10:=rfl;rw[hs1,hs2]at ih';generalize hr:(QX 10 (a.drop (m+1))).2=r at*
  generalize a.getD m 0=x at*
  have c2:IntKind.u64.wrap (x:Int)=x:=qE rfl (by omega);have f4:=Eb (n:=r) (k:=32) (i:=(r:Int)) (kk:=.u64) (j:=32) rfl rfl (by decide) (by omega);have f5:=FR (m:=r*2^32) (n:=x) (i:=((r*2^32:Nat):Int)) (j:=(x:Int)) rfl rfl (by omega) (by omega);rw[CF (x:=r) (c:=x) (k:=32) (by omega),show r*2^32+x=r*4294967296+x from rfl]at f5;rw[show r*2^32=r*4294967296 from rfl]at f4 f5;obtain⟨N,hN⟩:∃N,r*4294967296+x=N:=⟨_,rfl⟩;rw[hN]at f5 ih';have f6:bS .quo (W N) (W 10)=some (W (N/10:Nat)):=by
   rw[Ek,if_neg (by omega),Int.tdiv_eq_ediv_of_nonneg (by omega)];rw[qE (n:=N/10) (by simp) (by omega)]
  have f7:bS .rem (W N) (W 10)=some (W (N%10:Nat)):=by
   rw[Ap,if_neg (by omega),Int.tmod_eq_emod_of_nonneg (by omega)];rfl
  have w1:IntKind.u32.wrap ((N/10:Nat):Int)=((N/10:Nat):Int):=Ju rfl (by omega);generalize N/10=qd at*
  have e7:(ao (QI (m+1) 0++(QX 10 (a.drop (m+1))).1))[m]?=some [U 0]:=by
   rw[qW (by grind),List.getD_eq_getElem?_getD,List.getElem?_append_left (by simp),List.getElem?_replicate,if_pos (by omega)];rfl
  have e8:(ao (QI (m+1) 0++(QX 10 (a.drop (m+1))).1)).set m [U qd]=ao (QI m 0++qd::(QX 10 (a.drop (m+1))).1):=by
   rw[qX];rw[List.replicate_succ',List.append_assoc,List.set_append_right _ _ (by simp)];simp
  rw[aD];simp only[ut,go_sem,QH,QG,QJ,QM,QP,g0,g1,g6,g7,g8,k11,e1,e2,e3,e5,e7,e8,c2,f4,f5,f6,f7,w1,QT,QN];exact ih' _ _ rfl rfl rfl rfl rfl rfl
theorem Zk{a:List Nat}(ha:Lb a)(h1:a.length<=100000):R F.r02_small [lm a,W 10] []=some (.tup [lm (af (ab a/10)),W ((ab a%10:Nat):Int)],[]):=by
 refine aX XH rfl ?_;have hl:∀ (s:ah) (h:ac) (X:Option (Ex×St)),aC 0 [6,7] (bX (aj R (bA false) ut) [0,1,6,7,8] [12] s h)=X->s 0=lm a->s 1=W 10->s 6=.rsl 12 none 1 0 a.length->s 7=W 0->s 8=I (a.length-1)->h 12=.ar 1 (ao (QI a.length 0))->
   ∃hh,X=some (.normal,⟨upd (upd (fun _=>.any) 7 (W (QX 10 a).2)) 6 (.rsl 12 none 1 0 a.length),hh⟩)/\hh 12=.ar 1 (ao (QX 10 a).1)/\(∀x,x≠12->hh x=.dead):=fun s h X hX g0 g1 g6 g7 g8 k=>by
  subst hX;have hn:a.drop a.length=[]:=List.drop_of_length_le (QK _);refine acg ha h1 a.length (QK _) s h g0 g1 g6 ?_ g8 ?_
  ·rw[hn];exact g7
  ·rw[hn];show h 12=.ar 1 (ao (QI a.length 0++[]));rw[ad4];exact k
 obtain⟨q1,q2,q3⟩:=Sv (y:=10) (by decide) ha;have hb:=Vu (y:=10) (by decide) (by decide) ha;have ev:ab (QX 10 a).1=ab a/10:=by omega
 have er:(QX 10 a).2=ab a%10:=by omega
 have e3:IntKind.i64.wrap (a.length-1)=a.length-1:=i64_in _ ⟨by omega,by omega⟩;have e4:=mZ (i:=a.length) (j:=a.length) rfl rfl (QK _) (by omega);have e5:(a.length*4<=140737488355328)=True:=tt (by omega);have ht:=W0 hb (by omega);rw[ev]at ht;rw[er]at hl;have et:(ao (QX 10 a).1).take a.length=ao (QX 10 a).1:=by rw[←q3,abg]
 simp only[yw,zZ,go_sem,e3,e4,e5,qY];generalize hX:aC 0 _ _=X;obtain⟨hh,rfl,q11,qd⟩:=hl _ _ _ hX rfl rfl rfl rfl rfl rfl;simp only[go_sem,QH,QG,QJ,QM,QP,adT,adU,adS,decide_false,decide_true,ne_eq,not_false_eq_true,q11,qd,q3,et,QN,QK,ht]
theorem Zl{d:Nat}(h:d<10):IntKind.i32.wrap ((48+d:Nat):Int)=((48+d:Nat):Int):=by
 revert h;revert d;decide
theorem adp{n:Nat}(h:n≠0):0< (af n).length:=by
 rw[jD h];exact Nat.succ_pos _
theorem abh:∀ (K n:Nat) (s:List UInt8),n<10^K->s.length+K<=1000000->(af n).length<=100000->∀ (S:ah) (h:ac),S 0=lm (af n)->S 3=tx s->
  aC 0 [3] (bX (aj R (bA false) rO) [0,3] [] S h)=some (.normal,⟨upd (fun _=>.any) 3 (tx (S6 n s)),fun _=>.dead⟩):=by
 have stop:∀ (s:List UInt8) (S:ah) (h:ac),S 0=lm (af 0)->S 3=tx s->aC 0 [3] (bX (aj R (bA false) rO) [0,3] [] S h)=some (.normal,⟨upd (fun _=>.any) 3 (tx (S6 0 s)),fun _=>.dead⟩):=fun s S h g0 g3=>by
  have e1:(0< ((af 0).length:Int))=False:=ff (by rw[show af 0=[]by rw[af,dif_pos rfl]];decide);rw[WV,aD];simp only[rO,go_sem,QH,QG,QJ,QM,QP,adT,adU,adS,decide_false,decide_true,g0,g3,e1]
 intro K;induction K with
 |zero=>
  intro n s hn hs hd S h g0 g3;obtain rfl:n=0:=by simpa using hn
  exact stop s S h g0 g3
 |succ K ih=>
  intro n s hn hs hd S h g0 g3;by_cases h0:n=0
  ·subst h0;exact stop s S h g0 g3
  have e1:(0< ((af n).length:Int))=True:=tt (by have:=adp h0;omega);have hsm:=Zk (bh n) hd;rw[aY]at hsm;have hm:n%10<10:=Nat.mod_lt _ (by decide);have w1:IntKind.i64.wrap ((n%10:Nat):Int)=((n%10:Nat):Int):=wi rfl (by omega);have w2:IntKind.i64.wrap (48+((n%10:Nat):Int))=((48+n%10:Nat):Int):=wi (by omega) (by omega);have w3:=Zl hm;have w4:=Vh (k:=.i32) hm;have w5:=Rw (a:=[UInt8.ofNat (48+n%10)]) (b:=s) (by simp only[adX,adZ];omega);have hd2:(af (n/10)).length<=(af n).length:=Uc (Nat.div_le_self _ _);have ih':=ih (n/10) ([UInt8.ofNat (48+n%10)]++s) (by rw[ad7]at hn;omega) (by simp only[ad6,adX,adZ];omega) (by omega);rw[Z7 h0,aD];generalize bX _ _ _=L at ih'⊢;simp only[rO,go_sem,QH,QG,QJ,QM,QP,adT,adU,adS,decide_false,decide_true,g0,g3,e1,hsm,w1,w2,w3,w4,w5];refine ih' _ _ ?_ ?_<;>rfl
theorem Vx{a:List Nat}(ha:Lb a):ab a<10^ (10*a.length):=by
 refine aea (gS ha) ?_;rw[Nat.pow_mul];exact Nat.pow_le_pow_left (by decide) _
theorem Vj{a:List Nat}(ha:Lb a):(decDigits (ab a)).length<=10*a.length+1:=by
 rw[decDigits_length];exact Sx _ _ (Nat.lt_trans (Vx ha) (Nat.pow_lt_pow_right (by decide) (Nat.lt_succ_self _)))
theorem acN(n:Nat):(decDigits n==[])=false:=by
 cases h:decDigits n with
 |nil=>
  have:=decDigits_length n;rw[h,nDigits]at this;split at this<;>simp at this
 |cons x l=>rfl
theorem Ud{a:List Nat}(ha:Lb a)(h1:a.length<=10000):R F.r02_Decimal [lm a] []=some (tx (decDigits (ab a)),[]):=by
 refine aX Wh rfl ?_;have hl:∀ (S:ah) (h:ac) (X:Option (Ex×St)),aC 0 [3] (bX (aj R (bA false) rO) [0,3] [] S h)=X->S 0=lm (af (ab a))->S 3=tx []->X=some (.normal,⟨upd (fun _=>.any) 3 (tx (S6 (ab a) [])),fun _=>.dead⟩):=fun S h X hX g0 g3=>by
  rw[←hX];exact abh (10*a.length) (ab a) [] (Vx ha) (by simp only[adZ];omega) (QU (dF a ha) (by omega)) S h g0 g3
 have ht:=W0 ha (by omega);simp only[ui,wk,go_sem,QH,QG,QJ,QM,QP,adT,adU,adS,decide_false,decide_true,ne_eq,not_false_eq_true,ht];generalize hX:aC 0 _ _=X;rw[hl _ _ _ hX rfl rfl];have e2:bS .eql (tx (S6 (ab a) [])) (tx [])=some (B (decide (ab a=0))):=by
  rw[SO];by_cases h0:ab a=0
  ·rw[h0,WV];rfl
  ·rw[UR _ _ h0,ad4,acN,decide_eq_false h0]
 have e3:tx (decDigits 0)=tx [48]:=by(rw[decDigits_one (by decide)];rfl)
 simp only[tx]at e2;by_cases h0:ab a=0
 ·simp only[h0,decide_true]at e2;rw[h0,e3];simp only[go_sem,QH,QG,QJ,QM,QP,adT,adU,adS,decide_false,decide_true,ne_eq,not_false_eq_true,tx,e2];rfl
 ·rw[decide_eq_false h0,UR _ _ h0,ad4]at e2;rw[UR _ _ h0,ad4];simp only[go_sem,QH,QG,QJ,QM,QP,adT,adU,adS,decide_false,decide_true,ne_eq,not_false_eq_true,tx,e2]
theorem W9{e:Int}(h0:-4294967296<e)(h1:e<4294967296):R F.r02_integer [I e] []=some (tx (itoa e),[]):=by
 refine aX Wi rfl ?_;have w1:IntKind.i64.wrap (0-e)=0-e:=i64_in _ ⟨by omega,by omega⟩;obtain⟨n,hn⟩:∃n,e.natAbs=n:=⟨_,rfl⟩;have hL:Lb [n]:=lP.2 ⟨by omega,xT⟩;have hd:R F.r02_Decimal [.sl 1 [[U n]]] []=some (tx (decDigits (ab [n])),[]):=Ud hL (by simp);rw[show ab [n]=n by simp[ab]]at hd;have hlen:=Vj hL;rw[show ab [n]=n by simp[ab]]at hlen;simp only[adX,adZ]at hlen;unfold itoa;by_cases hs:e<0
 ·have e1:=tt hs;have w2:IntKind.u32.wrap (0-e)=n:=Ju (by omega) (by omega);have w5:=fun p=>Vi 45 (p:=p) (a:=decDigits n) (by omega);rw[if_pos hs,hn];simp only[uj,wl,go_sem,QH,QG,QJ,QM,QP,adT,adU,adS,decide_false,decide_true,ne_eq,not_false_eq_true,e1,w1,w2,hd,w5];rfl
 ·have e1:=ff hs;have w2:IntKind.u32.wrap e=n:=Ju (by omega) (by omega);rw[if_neg hs,show e.toNat=n by omega];simp only[uj,wl,go_sem,QH,QG,QJ,QM,QP,adT,adU,adS,decide_false,decide_true,ne_eq,not_false_eq_true,e1,w2,hd]
def RP(d:Rd):List UInt8:=if d.m.length=0 then [48]else dyS d.neg (ab d.m) d.e
theorem aai{d:Rd}(hb:Lb d.m)(h1:d.m.length<=1000)(h2:-1000000<=d.e)(h3:d.e<=1000000):R F.r02_Text [av d] []=some (tx (RP d),[]):=by
 refine aX Y3 rfl ?_;obtain⟨neg,m,e⟩:=d;simp only at hb h1 h2 h3;unfold RP dyS;simp only;have hd:=Ud hb (by omega);have hi:=W9 (e:=e) (by omega) (by omega);have l1:=Vj hb;have l2:=itoa_length_le e (by omega) (by omega);have w1:=fun p=>WX 112 (p:=p) (a:=decDigits (ab m)) (by omega);have w2:=Rw (a:=decDigits (ab m)++[UInt8.ofNat 112]) (b:=itoa e) (by simp only[ad6,adX,adZ];omega);have w3:=fun p=>Vi 45 (p:=p) (a:=decDigits (ab m)++[UInt8.ofNat 112]++itoa e) (by simp only[ad6,adX,adZ];omega);by_cases h0:m.length=0
 ·have e1:((m.length:Int)=0)=True:=tt (by omega);rw[if_pos h0];simp only[zO,BQ,av,aJ,go_sem,QH,QG,QJ,QM,QP,adT,adU,adS,decide_false,decide_true,ne_eq,not_false_eq_true,e1];rfl
 ·have e1:((m.length:Int)=0)=False:=ff (by omega);rw[if_neg h0];cases neg with
  |false=>
   simp only[zO,BQ,av,aJ,go_sem,QH,QG,QJ,QM,QP,adT,adU,adS,decide_false,decide_true,ne_eq,not_false_eq_true,e1,hd,hi,w1,w2];rfl
  |true=>
   simp only[zO,BQ,av,aJ,go_sem,QH,QG,QJ,QM,QP,adT,adU,adS,decide_false,decide_true,ne_eq,not_false_eq_true,e1,hd,hi,w1,w2,w3];rfl
theorem abi:∀ (K n:Nat) (s:List UInt8),n<10^ (K+1)->n<9223372036854775807->s.length+K<=1000000->∀ (S:ah) (h:ac),S 0=I n->S 3=tx s->
  aC 0 [2] (bX (aj R (bA false) rL) [0,3] [] S h)=some (.ret,⟨upd (fun _=>.any) 2 (tx (decDigits n++s)),fun _=>.dead⟩):=by
 intro K;induction K with
 |zero=>
  intro n s hn hb hs S h g0 g3;have hn:n<10:=by simpa using hn
  have f1:bS .rem (I n) (I 10)=some (I ((n%10:Nat):Int)):=by
   rw[Ap,if_neg (by omega),Int.tmod_eq_emod_of_nonneg (by omega)];rfl
  have f2:bS .quo (I n) (I 10)=some (I 0):=by
   rw[Ek,if_neg (by omega),Int.tdiv_eq_ediv_of_nonneg (by omega),show((n:Int)/10)=0 by omega];rfl
  have w2:IntKind.i64.wrap (48+((n%10:Nat):Int))=((48+n%10:Nat):Int):=wi (by omega) (by omega);have w3:=Zl (d:=n%10) (by omega);have w4:=Vh (d:=n%10) (k:=.i32) (by omega);have w5:=Rw (a:=[UInt8.ofNat (48+n%10)]) (b:=s) (by simp only[adX,adZ];omega);rw[decDigits_one hn,aD];rw[show n%10=n by omega]at*
  simp only[rL,go_sem,QH,QG,QJ,QM,QP,adT,adU,adS,decide_false,decide_true,ne_eq,not_false_eq_true,g0,g3,f1,f2,w2,w3,w4,w5]
 |succ K ih=>
  intro n s hn hb hs S h g0 g3;by_cases h10:n<10
  ·have f1:bS .rem (I n) (I 10)=some (I ((n%10:Nat):Int)):=by
    rw[Ap,if_neg (by omega),Int.tmod_eq_emod_of_nonneg (by omega)];rfl
   have f2:bS .quo (I n) (I 10)=some (I 0):=by
    rw[Ek,if_neg (by omega),Int.tdiv_eq_ediv_of_nonneg (by omega),show((n:Int)/10)=0 by omega];rfl
   have w2:IntKind.i64.wrap (48+((n%10:Nat):Int))=((48+n%10:Nat):Int):=wi (by omega) (by omega);have w3:=Zl (d:=n%10) (by omega);have w4:=Vh (d:=n%10) (k:=.i32) (by omega);have w5:=Rw (a:=[UInt8.ofNat (48+n%10)]) (b:=s) (by simp only[adX,adZ];omega);rw[decDigits_one h10,aD];rw[show n%10=n by omega]at*
   simp only[rL,go_sem,QH,QG,QJ,QM,QP,adT,adU,adS,decide_false,decide_true,ne_eq,not_false_eq_true,g0,g3,f1,f2,w2,w3,w4,w5]
  ·have f1:bS .rem (I n) (I 10)=some (I ((n%10:Nat):Int)):=by
    rw[Ap,if_neg (by omega),Int.tmod_eq_emod_of_nonneg (by omega)];rfl
   have f2:bS .quo (I n) (I 10)=some (I ((n/10:Nat):Int)):=by
    rw[Ek,if_neg (by omega),Int.tdiv_eq_ediv_of_nonneg (by omega),i64_in _ ⟨by omega,by omega⟩];rfl
   have w2:IntKind.i64.wrap (48+((n%10:Nat):Int))=((48+n%10:Nat):Int):=wi (by omega) (by omega);have w3:=Zl (d:=n%10) (by omega);have w4:=Vh (d:=n%10) (k:=.i32) (by omega);have w5:=Rw (a:=[UInt8.ofNat (48+n%10)]) (b:=s) (by simp only[adX,adZ];omega);have ih':=ih (n/10) ([UInt8.ofNat (48+n%10)]++s) (by rw[ad7]at hn;omega) (by omega) (by simp only[ad6,adX,adZ];omega);have e1:(((n/10:Nat):Int)=0)=False:=ff (by omega);rw[Uo h10,List.append_assoc,aD];generalize bX _ _ _=L at ih'⊢;simp only[rL,go_sem,QH,QG,QJ,QM,QP,adT,adU,adS,decide_false,decide_true,ne_eq,not_false_eq_true,g0,g3,f1,f2,w2,w3,w4,w5,e1];refine ih' _ _ ?_ ?_<;>rfl
theorem Xa{n:Nat}(hn:n<1000):R F.r23_decimal [I n] []=some (tx (decDigits n),[]):=by
 refine aX Wd rfl ?_;have hl:∀ (S:ah) (h:ac) (X:Option (Ex×St)),aC 0 [2] (bX (aj R (bA false) rL) [0,3] [] S h)=X->S 0=I n->S 3=tx []->X=some (.ret,⟨upd (fun _=>.any) 2 (tx (decDigits n)),fun _=>.dead⟩):=fun S h X hX g0 g3=>by
  rw[←hX,abi 2 n [] (by omega) (by omega) (by simp) S h g0 g3,ad4]
 simp only[tU,vL,go_sem,QH,QG,QJ,QM,QP,adT,adU,adS,decide_false,decide_true,ne_eq,not_false_eq_true];generalize hX:aC 0 _ _=X;rw[hl _ _ _ hX rfl rfl];simp only[go_sem,QH,QG,QJ,QM,QP,adT,adU,adS,decide_false,decide_true,ne_eq,not_false_eq_true]
structure Len1 (x:Ri):Prop where
 lo:Lb x.lo.m/\x.lo.m.length<=100000
 hi:Lb x.hi.m/\x.hi.m.length<=100000
def VI(x:Ri):Prop:=(vd x.lo=true/\Ok0 x.lo)/\(vd x.hi=true/\Ok0 x.hi)
theorem VI.len{x}(h:VI x):Len1 x:=⟨⟨h.1.2.1,QU (qH h.1.1 h.1.2.1) (by decide)⟩,⟨h.2.2.1,QU (qH h.2.1 h.2.2.1) (by decide)⟩⟩
theorem Vk{a}(h:vp a=true):0<=a.vars/\a.vars<=8/\a.terms.length<=500/\Ed a.vars none a.terms=true:=by
 simp_all[vp,QQ,decide_eq_true_eq]
theorem XW{a}(h:vp a=true){t}(ht:t∈a.terms):sm t.exps/\t.exps.length=a.vars/\vd t.c=true/\t.c.m.length≠0/\dp t.exps<=32:=by
 obtain⟨v1,v2,v3,v4⟩:=Vk h;obtain⟨c1,c2,c3,c4,c5⟩:=F3 (ace _ _ v4 t ht);exact⟨⟨by omega,EI c4⟩,c1,c2,c3,c5⟩
@[go_sem] theorem Ow(l:List (List UInt8)):(JC l).length=l.length:=by simp[JC]
theorem Vy{l:List (List UInt8)}{i:Int}{n:Nat}{d:List UInt8}(hi:i=n)(h:l[n]?=some d):ey (JC l) i=some (.ipt [tx d]):=by
 grind[ey,JC]
theorem abR{s:List UInt8}{p q r}(h:s.length<=9223372036854775804):bS .add (tx s) (tx [bt 32 p,bt 43 q,bt 32 r])=some (tx (s++[32,43,32])):=by
 rw[Rw (by simp only[adX,adZ];omega)];rfl
def Ue(n:Nat)(w s:List UInt8):List UInt8:=if 1<n then s++[42]++w++[94]++decDigits n else if 0<n then s++[42]++w else s
theorem abS{n:Nat}{w s:List UInt8}{l:List (Int×List UInt8)}:SJ (((n:Int),w)::l) s=SJ l (Ue n w s):=by
 unfold Ue;rw[SJ];by_cases h1:1<n
 ·rw[if_pos h1,if_pos (by omega),if_pos (by omega),itoa,if_neg (by omega),QT];simp
 ·rw[if_neg h1,if_neg (by omega)];by_cases h0:0<n
  ·rw[if_pos h0,if_pos (by omega)];simp
  ·rw[if_neg h0,if_neg (by omega)]
theorem XX{n:Nat}{w s:List UInt8}(hn:n<=32)(hw:w.length<=20):(Ue n w s).length<=s.length+43:=by
 have h:=Sx 1 n (by omega);rw[←decDigits_length]at h;unfold Ue;split
 ·simp only[ad6,adX,adZ];omega
 ·split
  ·simp only[ad6,adX,adZ];omega
  ·omega
theorem abj{a:Rp}{N:List (List UInt8)}{t:Rt}{k:Nat}(hk:a.terms[k]?=some t)(hx:t.exps.length=a.vars)(hv:a.vars<=8)(hN:N.length=a.vars)(hw:∀w∈N,w.length<=20)(he:∀x∈t.exps,0<=x/\x<=32):
  ∀ (d i:Nat),i+d=t.exps.length->∀ (s:List UInt8),s.length+43*d<=1000000000->∀ (S:ah) (h:ac),S 1=.sl 1 (JC N)->S 2=.ref 2 none 0 0 0->S 7=tx s->S 8=I k->S 9=I i->h 2=.bx [I a.vars,.sl 4 (aL a.terms)]->
  ∃hh,aC 4 [1,2,7,8] (bX (aj R (bA false) po) [1,2,7,8,9] [2] S h)=some (.normal,⟨upd (upd (upd (upd (fun _=>.any) 8 (I k)) 7 (tx (SJ ((t.exps.zip N).drop i) s))) 2 (.ref 2 none 0 0 0)) 1 (.sl 1 (JC N)),hh⟩)/\hh 2=.bx [I a.vars,.sl 4 (aL a.terms)]/\(∀x,x≠2->hh x=.dead):=by
 intro d;induction d with
 |zero=>
  intro i hi s hs S h g1 g2 g7 g8 g9 k2;have e1:((i:Int)<a.vars)=False:=ff (by omega);rw[aej (by simp only[List.length_zip];omega),SJ,aD];refine⟨?hh0,?_,?_,?_⟩;rotate_left
  ·simp only[po,go_sem,QH,QG,QJ,QM,QP,adT,adU,adS,decide_false,decide_true,ne_eq,not_false_eq_true,g1,g2,g7,g8,g9,k2,e1];rfl
  all_goals simp_all[QY,if_false]
 |succ d ih=>
  intro i hi s hs S h g1 g2 g7 g8 g9 k2;have hlt:i<t.exps.length:=by omega
  have hltN:i<N.length:=by omega
  have e1:((i:Int)<a.vars)=True:=tt (by omega);have e2:ey (aL a.terms) (k:Int)=some (.ipt (dC t)):=AE rfl hk;simp only[dC]at e2;have e4:ey (JC N) (i:Int)=some (.ipt [tx N[i]]):=Vy rfl (adW hltN);have e5:IntKind.i64.wrap ((i:Int)+1)=((i+1:Nat):Int):=wi (by omega) (by omega);obtain⟨n,hn⟩:∃n:Nat,t.exps[i]=n:=⟨t.exps[i].toNat,by have:=he _ (aee hlt);omega⟩;have hn32:n<=32:=by have:=he _ (aee hlt);omega
  have e3:ey (ce t.exps) (i:Int)=some (.ipt [I n]):=by rw[←hn];exact uG rfl (adW hlt)
  have hz:(t.exps.zip N).drop i=((n:Int),N[i])::(t.exps.zip N).drop (i+1):=by
   rw[ael (by simp only[List.length_zip];omega),List.getElem_zip,hn]
  have hw0:=hw _ (aee hltN);rw[hz,abS,aD];have h3:(Ue n N[i] s).length<=s.length+43:=XX hn32 hw0;have ih':=ih (i+1) (by omega) (Ue n N[i] s) (by omega);generalize(t.exps.zip N).drop (i+1)=zl at ih'⊢;generalize N[i]=w at*
  generalize t.exps=exps at*
  unfold Ue at ih'⊢;have w1:=fun p=>WX 42 (p:=p) (a:=s) (by omega);have w2:=Rw (a:=s++[UInt8.ofNat 42]) (b:=w) (by simp only[ad6,adX,adZ];omega);by_cases h1:1<n
  ·have f1:(1< (n:Int))=True:=tt (by omega);have f0:(0< (n:Int))=True:=tt (by omega);have w3:=fun p=>WX 94 (p:=p) (a:=s++[UInt8.ofNat 42]++w) (by simp only[ad6,adX,adZ];omega);have hd:=Xa (n:=n) (by omega);have hdl:=Sx 1 n (by omega);rw[←decDigits_length]at hdl;have w4:=Rw (a:=s++[UInt8.ofNat 42]++w++[UInt8.ofNat 94]) (b:=decDigits n) (by simp only[ad6,adX,adZ];omega);rw[if_pos h1]at ih'⊢;generalize bX _ _ _=L at ih'⊢;simp only[po,go_sem,QH,QG,QJ,QM,QP,adT,adU,adS,decide_false,decide_true,ne_eq,not_false_eq_true,g1,g2,g7,g8,g9,k2,e1,e2,e3,e4,e5,f0,f1,w1,w2,w3,w4,hd,QT];refine ih' _ _ ?_ ?_ ?_ ?_ ?_ ?_<;>first|rfl|simp_all[QY]
  ·have f1:(1< (n:Int))=False:=ff (by omega);rw[if_neg h1]at ih'⊢;by_cases h0:0<n
   ·have f0:(0< (n:Int))=True:=tt (by omega);rw[if_pos h0]at ih'⊢;generalize bX _ _ _=L at ih'⊢;simp only[po,go_sem,QH,QG,QJ,QM,QP,adT,adU,adS,decide_false,decide_true,ne_eq,not_false_eq_true,g1,g2,g7,g8,g9,k2,e1,e2,e3,e4,e5,f0,f1,w1,w2,QT];refine ih' _ _ ?_ ?_ ?_ ?_ ?_ ?_<;>first|rfl|simp_all[QY]
   ·have f0:(0< (n:Int))=False:=ff (by omega);rw[if_neg h0]at ih'⊢;generalize bX _ _ _=L at ih'⊢;simp only[po,go_sem,QH,QG,QJ,QM,QP,adT,adU,adS,decide_false,decide_true,ne_eq,not_false_eq_true,g1,g2,g7,g8,g9,k2,e1,e2,e3,e4,e5,f0,f1,w1,w2,QT];refine ih' _ _ ?_ ?_ ?_ ?_ ?_ ?_<;>first|rfl|simp_all[QY]
theorem XY{d:Rd}(hb:Lb d.m)(hd:vd d=true):(RP d).length<=1400:=by
 have h1:=qH hd hb;obtain⟨_,h2,h3,_⟩:=mH hd hb;unfold RP;split
 ·simp
 ·refine QU (acf (K:=10*d.m.length) (Nat.lt_trans (Vx hb) (Nat.pow_lt_pow_right (by decide) (Nat.lt_succ_self _))) (by omega) (by omega)) (by omega)
theorem aaj{t:Rt}{N:List (List UInt8)}(hw:∀w∈N,w.length<=20)(he:∀x∈t.exps,0<=x/\x<=32):∀p∈t.exps.zip N,p.2.length<=20/\p.1<=9223372036854775807:=fun p hp=>by
 obtain⟨h1,h2⟩:=List.of_mem_zip (a:=p.1) (b:=p.2) hp;have:=he _ h1;exact⟨hw _ h2,by omega⟩
def UI(N:List (List UInt8)):Bool->List Rt->List UInt8->List UInt8
 |_,[],s=>s
 |b,t::l,s=>UI N true l (SJ (t.exps.zip N) ((if b=true then s++[32,43,32]else s)++RP t.c))
theorem abk{a:Rp}{N:List (List UInt8)}(oa:OkP a)(hp:vp a=true)(hN:N.length=a.vars)(hw:∀w∈N,w.length<=20):
  ∀ (d k:Nat),k+d=a.terms.length->∀ (s:List UInt8),s.length+2000*d<=100000000->∀ (S:ah) (h:ac),S 1=.sl 1 (JC N)->S 2=.ref 2 none 0 0 0->S 7=tx s->S 8=I k->h 2=.bx [I a.vars,.sl 4 (aL a.terms)]->
  ∃hh,aC 2 [7] (bX (aj R (bA false) vg) [1,2,7,8] [2] S h)=some (.normal,⟨upd (fun _=>.any) 7 (tx (UI N (decide (0<k)) (a.terms.drop k) s)),hh⟩):=by
 obtain⟨hv0,hv,ht,_⟩:=Vk hp;intro d;induction d with
 |zero=>
  intro k hk s hs S h g1 g2 g7 g8 k2;have e1:((k:Int)< (a.terms.length:Int))=False:=ff (by omega);rw[aej (by omega),UI,aD];refine⟨?hh0,?_⟩;rotate_left;simp only[vg,go_sem,QH,QG,QJ,QM,QP,adT,adU,adS,decide_false,decide_true,ne_eq,not_false_eq_true,g1,g2,g7,g8,k2,e1];rfl
 |succ d ih=>
  intro k hk s hs S h g1 g2 g7 g8 k2;have hlt:k<a.terms.length:=by omega
  have e1:((k:Int)< (a.terms.length:Int))=True:=tt (by omega);obtain⟨hsm,hx,hvd,hne,_⟩:=XW hp (aee hlt);have okt:=oa.t _ (aee hlt);have hk':=adW hlt;have e5:IntKind.i64.wrap ((k:Int)+1)=((k+1:Nat):Int):=wi (by omega) (by omega);rw[ael hlt,UI,aD];have ih':=ih (k+1) (by omega);generalize a.terms[k]=t at*
  have e2:ey (aL a.terms) (k:Int)=some (.ipt (dC t)):=AE rfl hk';simp only[dC]at e2;have hdl:=XY okt.c.lb hvd;obtain⟨q1,q2,q3,_⟩:=mH hvd okt.c.lb;have hT:=aai okt.c.lb (by omega) (by omega) (by omega);simp only[av,aJ]at hT;have hzl:=Vw (t.exps.zip N) ((if decide (0<k)=true then s++[32,43,32]else s)++RP t.c) (aaj hw hsm.2);have hzz:(t.exps.zip N).length<=8:=by
   rw[List.length_zip];omega
  have hpl:((if decide (0<k)=true then s++[32,43,32]else s)).length<=s.length+3:=by
   split
   ·simp only[ad6,adX,adZ];omega
   ·omega
  have hpl2:((if decide (0<k)=true then s++[32,43,32]else s)++RP t.c).length<=s.length+3+1400:=by
   rw[ad6];omega
  have hL0:=abj (N:=N) hk' hx hv hN hw hsm.2 t.exps.length 0 (QN _) ((if decide (0<k)=true then s++[32,43,32]else s)++RP t.c) (by omega);rw[List.drop_zero]at hL0;have w2:=Rw (a:=if decide (0<k)=true then s++[32,43,32]else s) (b:=RP t.c) (by omega);have ih2:=ih' (SJ (t.exps.zip N) ((if decide (0<k)=true then s++[32,43,32]else s)++RP t.c)) (by omega);rw[show decide (0<k+1)=true from decide_eq_true (Nat.succ_pos _)]at ih2;generalize SJ (t.exps.zip N) ((if decide (0<k)=true then s++[32,43,32]else s)++RP t.c)=z at hL0 ih2⊢;have w1:=fun p q r=>abR (s:=s) (p:=p) (q:=q) (r:=r) (by omega);have hX0:∀ (S:ah) (h:ac) (X:Option (Ex×St)),aC 4 [1,2,7,8] (bX (aj R (bA false) po) [1,2,7,8,9] [2] S h)=X->S 1=.sl 1 (JC N)->S 2=.ref 2 none 0 0 0->S 7=tx ((if decide (0<k)=true then s++[32,43,32]else s)++RP t.c)->S 8=I k->S 9=I 0->h 2=.bx [I a.vars,.sl 4 (aL a.terms)]->
    ∃hh,X=some (.normal,⟨upd (upd (upd (upd (fun _=>.any) 8 (I k)) 7 (tx z)) 2 (.ref 2 none 0 0 0)) 1 (.sl 1 (JC N)),hh⟩)/\hh 2=.bx [I a.vars,.sl 4 (aL a.terms)]/\(∀x,x≠2->hh x=.dead):=fun S h X hX a1 a2 a3 a4 a5 a6=>by
   rw[←hX];exact hL0 S h a1 a2 a3 a4 a5 a6
  generalize bX (aj R (bA false) vg) [1,2,7,8] [2]=L at ih2⊢;by_cases h0:0<k
  ·have f0:(0< (k:Int))=True:=tt (by omega);simp only[decide_eq_true h0,if_true]at w2 hX0;simp only[vg,go_sem,QH,QG,QJ,QM,QP,adT,adU,adS,decide_false,decide_true,ne_eq,not_false_eq_true,g1,g2,g7,g8,k2,e1,e2,f0,w1,w2,hT];generalize hX:aC 4 _ _=X;obtain⟨hh,rfl,q11,qd⟩:=hX0 _ _ _ hX rfl rfl rfl rfl rfl (by simp_all[QY]);simp only[go_sem,QH,QG,QJ,QM,QP,adT,adU,adS,decide_false,decide_true,ne_eq,not_false_eq_true,e5];refine ih2 _ _ ?_ ?_ ?_ ?_ ?_<;>first|rfl|simp_all[QY]
  ·have f0:(0< (k:Int))=False:=ff (by omega);simp only[decide_eq_false h0,ad0,if_false]at w2 hX0;simp only[vg,go_sem,QH,QG,QJ,QM,QP,adT,adU,adS,decide_false,decide_true,ne_eq,not_false_eq_true,g1,g2,g7,g8,k2,e1,e2,f0,w2,hT];generalize hX:aC 4 _ _=X;obtain⟨hh,rfl,q11,qd⟩:=hX0 _ _ _ hX rfl rfl rfl rfl rfl (by simp_all[QY]);simp only[go_sem,QH,QG,QJ,QM,QP,adT,adU,adS,decide_false,decide_true,ne_eq,not_false_eq_true,e5];refine ih2 _ _ ?_ ?_ ?_ ?_ ?_<;>first|rfl|simp_all[QY]
theorem abl{a:Rp}{N:List (List UInt8)}(hN:N.length<=8)(hs:∀r∈N,r.length<=9223372036854775807):∀rest (n:Nat),N.drop n=rest->n<=N.length->∀ (S:ah) (h:ac),S 1=.sl 1 (JC N)->S 2=.ref 2 none 0 0 0->S 6=I n->h 2=.bx [I a.vars,.sl 4 (aL a.terms)]->
  ∃hh,aC 0 [1,2] (bX (aj R (bA false) vj) [1,2,6] [2] S h)=some (if rest.all Rx=true then(.normal,⟨upd (upd (fun _=>.any) 2 (.ref 2 none 0 0 0)) 1 (.sl 1 (JC N)),hh⟩)else(.ret,⟨upd (upd (fun _=>.any) 5 (I 1)) 4 (tx []),hh⟩))/\hh 2=.bx [I a.vars,.sl 4 (aL a.terms)]:=by
 intro rest;induction rest with
 |nil=>
  intro n hd hn S h g1 g2 g6 k2;have e:n=N.length:=by
   have:=congrArg List.length hd;grind
  have e1:((n:Int)< (N.length:Int))=False:=ff (by omega);rw[aD];refine⟨?hh0,?_,?_⟩;rotate_left
  ·simp only[vj,go_sem,QH,QG,QJ,QM,QP,adT,adU,adS,decide_false,decide_true,ne_eq,not_false_eq_true,g1,g2,g6,k2,e1,List.all_nil];rfl
  all_goals simp_all[QY,if_false]
 |cons c rest ih=>
  intro n hd hn S h g1 g2 g6 k2;have hlt:n<N.length:=by
   have:=congrArg List.length hd;grind
  have hc:N[n]?=some c:=by
   have:=congrArg (·[0]?) hd;grind
  have ih':=ih (n+1) (by rw[←List.drop_drop,hd];rfl) hlt;have e1:((n:Int)< (N.length:Int))=True:=tt (by omega);have e2:ey (JC N) (n:Int)=some (.ipt [tx c]):=Vy rfl hc;have e3:IntKind.i64.wrap (n+1)=((n+1:Nat):Int):=i64_in _ ⟨by omega,by omega⟩;have e4:=aaa (hs c (QR hc));rw[aD];generalize bX _ _ _=L at ih'⊢;rw[List.all_cons];cases hw:Rx c with
  |false=>
   rw[hw]at e4;simp only[vj,go_sem,QH,QG,QJ,QM,QP,adT,adU,adS,decide_false,decide_true,ne_eq,not_false_eq_true,g1,g2,g6,k2,e1,e2,e4,hw,ad2,ad0];refine⟨_,rfl,?_⟩
   simp_all[QY,if_false]
  |true=>
   rw[hw]at e4;simp only[vj,go_sem,QH,QG,QJ,QM,QP,adT,adU,adS,decide_false,decide_true,ne_eq,not_false_eq_true,g1,g2,g6,k2,e1,e2,e3,e4,hw,adY,ad0];refine ih' _ _ ?_ ?_ ?_ ?_<;>first|rfl|simp_all[QY]
def TG(a:Rp)(N:List (List UInt8)):List UInt8:=if a.terms.length=0 then [48]else UI N false a.terms []
def Vl(a:Rp)(N:List (List UInt8)):Bool:=vp a&& (decide ((N.length:Int)=a.vars)&&N.all Rx)
def Vm(a:Rp)(N:List (List UInt8)):AV:=if Vl a N=true then .tup [tx (TG a N),I 0]else .tup [tx [],I 1]
theorem V6{w:List UInt8}(h:Rx w=true):w.length<=20:=by
 unfold Rx at h;simp only[QQ,decide_eq_true_eq]at h;exact h.2.1
theorem aak{a:Rp}{N:List (List UInt8)}(oa:OkP a)(hs:∀r∈N,r.length<=9223372036854775807)(hN:N.length<4611686018427387904):R F.r23_Text [Rg a,.sl 1 (JC N)] []=some (Vm a N,[]):=by
 refine aX Vf rfl ?_;have hv:=Zj oa;simp only[Rg]at hv;unfold Vm Vl;cases hp:vp a with
 |false=>
  rw[hp]at hv;simp only[zE,BH,Rg,go_sem,QH,QG,QJ,QM,QP,adT,adU,adS,decide_false,decide_true,ne_eq,not_false_eq_true,hv,ad2,ad0]
 |true=>
  rw[hp]at hv;obtain⟨hv0,hv8,ht,_⟩:=Vk hp;by_cases hl:(N.length:Int)=a.vars
  ·have e1:((N.length:Int)=a.vars)=True:=tt hl;rw[decide_eq_true hl];have hX0:∀ (S:ah) (h:ac) (X:Option (Ex×St)),aC 0 [1,2] (bX (aj R (bA false) vj) [1,2,6] [2] S h)=X->S 1=.sl 1 (JC N)->S 2=.ref 2 none 0 0 0->S 6=I 0->h 2=.bx [I a.vars,.sl 4 (aL a.terms)]->
     ∃hh,X=some (if N.all Rx=true then(.normal,⟨upd (upd (fun _=>.any) 2 (.ref 2 none 0 0 0)) 1 (.sl 1 (JC N)),hh⟩)else(.ret,⟨upd (upd (fun _=>.any) 5 (I 1)) 4 (tx []),hh⟩))/\hh 2=.bx [I a.vars,.sl 4 (aL a.terms)]:=fun S h X hX a1 a2 a3 a4=>by
    rw[←hX];exact abl (by omega) hs N 0 rfl (aei _) S h a1 a2 a3 a4
   cases hw:N.all Rx with
   |false=>
    simp only[hw,ad0,if_false]at hX0;simp only[zE,BH,Rg,go_sem,QH,QG,QJ,QM,QP,adT,adU,adS,decide_false,decide_true,ne_eq,not_false_eq_true,hv,e1,adY,ad0];generalize hX:aC 0 _ _=X;obtain⟨hh,rfl,q11⟩:=hX0 _ _ _ hX rfl rfl rfl rfl;simp only[go_sem,QH,QG,QJ,QM,QP,adT,adU,adS,decide_false,decide_true,ne_eq,not_false_eq_true]
   |true=>
    simp only[hw,if_true]at hX0;have hw20:∀w∈N,w.length<=20:=fun w h=>V6 (List.all_eq_true.1 hw w h);by_cases h0:a.terms.length=0
    ·have e2:((a.terms.length:Int)=0)=True:=tt (by omega);unfold TG;rw[if_pos h0];simp only[zE,BH,Rg,go_sem,QH,QG,QJ,QM,QP,adT,adU,adS,decide_false,decide_true,ne_eq,not_false_eq_true,hv,e1,adY,ad0];generalize hX:aC 0 _ _=X;obtain⟨hh,rfl,q11⟩:=hX0 _ _ _ hX rfl rfl rfl rfl;simp only[go_sem,QH,QG,QJ,QM,QP,adT,adU,adS,decide_false,decide_true,ne_eq,not_false_eq_true,q11,e2];rfl
    ·have e2:((a.terms.length:Int)=0)=False:=ff (by omega);unfold TG;rw[if_neg h0];have hX1:∀ (S:ah) (h:ac) (X:Option (Ex×St)),aC 2 [7] (bX (aj R (bA false) vg) [1,2,7,8] [2] S h)=X->S 1=.sl 1 (JC N)->S 2=.ref 2 none 0 0 0->S 7=tx []->S 8=I 0->h 2=.bx [I a.vars,.sl 4 (aL a.terms)]->
       ∃hh,X=some (.normal,⟨upd (fun _=>.any) 7 (tx (UI N false a.terms [])),hh⟩):=fun S h X hX a1 a2 a3 a4 a5=>by
      rw[←hX];exact abk oa hp hl hw20 a.terms.length 0 (QN _) [] (by simp only[adZ];omega) S h a1 a2 a3 a4 a5
     simp only[zE,BH,Rg,go_sem,QH,QG,QJ,QM,QP,adT,adU,adS,decide_false,decide_true,ne_eq,not_false_eq_true,hv,e1,adY,ad0];generalize hX:aC 0 _ _=X;obtain⟨hh,rfl,q11⟩:=hX0 _ _ _ hX rfl rfl rfl rfl;simp only[go_sem,QH,QG,QJ,QM,QP,adT,adU,adS,decide_false,decide_true,ne_eq,not_false_eq_true,q11,e2];generalize hX:aC 2 _ _=X;obtain⟨hh,rfl⟩:=hX1 _ _ _ hX rfl rfl rfl rfl q11;simp only[go_sem,QH,QG,QJ,QM,QP,adT,adU,adS,decide_false,decide_true,ne_eq,not_false_eq_true]
  ·have e1:((N.length:Int)=a.vars)=False:=ff hl;rw[decide_eq_false hl];simp only[zE,BH,Rg,go_sem,QH,QG,QJ,QM,QP,adT,adU,adS,decide_false,decide_true,ne_eq,not_false_eq_true,hv,e1,ad2,Bool.and_false,ad0]
def X1:List (List AV)->Option (List Nat)
 |[]=>some []
 |[.v (.int .u32 k)]::l=>if 0<=k/\k<4294967296 then(X1 l).map (k.toNat::·)else none
 |_=>none
theorem aal:∀ {m:List Nat},Lb m->X1 (ao m)=some m
 |[],_=>rfl
 |x::m,h=>by
  obtain⟨h1,h2⟩:=lP.1 h;have ih:=aal h2;simp only[ao,List.map_cons]at ih⊢;rw[X1,if_pos ⟨by omega,by omega⟩,ih];simp
theorem aam:∀ {rows:List (List AV)} {m:List Nat},X1 rows=some m->rows=ao m/\Lb m
 |[],m,h=>by cases h;exact⟨rfl,xT⟩
 |r::l,m,h=>by
  unfold X1 at h;split at h
  ·simp at*
  ·rename_i k l' e;cases e;split at h
   ·rename_i hk;simp only[adV]at h;obtain⟨m',h1,rfl⟩:=h;obtain⟨rfl,h2⟩:=aam h1;refine⟨?_,lP.2 ⟨by omega,h2⟩⟩;simp only[ao,List.map_cons];rw[Int.toNat_of_nonneg hk.1]
   ·cases h
  ·cases h
def TQ(zas:List AV)(hs:List Ob):Option (AV×List Ob):=match zas,hs with
 |[.agg [.v (.bool n),.sl 1 rows,.v (.int .i64 e)]],[]=>(X1 rows).bind fun m=>if vd ⟨n,m,e⟩=true/\m.length≠0 then some (.tup [tx (RP ⟨n,m,e⟩),I 0],[])else none
 |_,_=>none
noncomputable def Uf:Env:=⟨fun f=>if f=F.dyadic_Text then some TQ else cQ.E f,cQ.C,cQ.md⟩
noncomputable def R1:bQ:=bp Uf
theorem Vz:cQ.E F.dyadic_Text=none:=by kernel_rfl
theorem VA:cQ.C F.dyadic_Text=none:=by kernel_rfl
theorem Ug{f:FuncId}{args:List AV}{hs:List Ob}{r:AV×List Ob}(h:R f args hs=some r):R1 f args hs=some r:=
 aa0 (e1:=cQ) (e2:=Uf) rfl (fun f g hg=>by
  show(if f=F.dyadic_Text then some TQ else cQ.E f)=some g;rw[if_neg (fun h=>by rw[h,Vz]at hg;cases hg),hg]) (fun f fd he hc=>⟨by
  show(if f=F.dyadic_Text then some TQ else cQ.E f)=none;rw[if_neg (fun h=>by rw[h,VA]at hc;cases hc),he],hc⟩) _ _ _ _ h
theorem abT{f:FuncId}{fd:FD}{args:List AV}{r:AV×List Ob}(hd:f≠F.dyadic_Text)(hE:cQ.E f=none)(hC:cQ.C f=some fd)(hk:cQ.md.keep f=false)(h1:args.length=fd.np)
  (hz:oH false fd.rs fd.res 0 (aj R1 (bA false) fd.body (oI args) fun _=>.dead)=some r):R1 f args []=some r:=by
 refine uQ (e:=Uf) (by show(if f=F.dyadic_Text then some TQ else cQ.E f)=none;rw[if_neg hd,hE]) hC ?_;unfold BA;rw[if_pos ⟨h1,by simp⟩];show oH (cQ.md.keep f) _ _ _ (aj R1 {cQ.md with nm:=cQ.md.keep f} _ _ _)=_;rw[hk,BE];exact hz
theorem Ti{f:FuncId}(hm:∀b,(bA b).m f=[])(b:Bool)(h:ac)(d:Nat)(zas:List AV):aM R1 (bA b) h d zas (.fn f [] [])=(bU h [] zas).bind (BF R1 (bA b) d f):=xX d (hm b)
theorem abm{d:Rd}(hb:Lb d.m)(hv:vd d=true)(h0:d.m.length≠0):R1 F.dyadic_Text [av d] []=some (.tup [tx (RP d),I 0],[]):=by
 have h:R1 F.dyadic_Text=TQ:=by
  funext a hs;exact oQ (e:=Uf) (by show(if F.dyadic_Text=F.dyadic_Text then some TQ else cQ.E F.dyadic_Text)=_;rw[if_pos rfl])
 rw[h];obtain⟨n,m,e⟩:=d;simp only at hb hv h0;simp only[TQ,av,aJ,lm,aal hb,QO];rw[if_pos ⟨hv,h0⟩]
theorem aan{w:List UInt8}(hs:w.length<=9223372036854775807):R F.poly_Text_1 [tx w] []=some (B (!Rx w),[]):=by
 refine aX TP rfl ?_;have h:=Ze hs;simp only[tQ,vJ,go_sem,QH,QG,QJ,QM,QP,adT,adU,adS,decide_false,decide_true,ne_eq,not_false_eq_true,h]
theorem abn{N:List (List UInt8)}(hs:∀r∈N,r.length<=9223372036854775807)(hN:N.length<4611686018427387904):R F.slices_ContainsFunc_string_string_ [.sl 1 (JC N),.fn F.poly_Text_1 [] []] []=some (B (!N.all Rx),[]):=by
 let p:List AV->Bool:=fun row=>match row with|[.v (.string x)]=>!Rx x.data.toList|_=>false
 have hp:∀w:List UInt8,p [tx w]=!Rx w:=fun w=>rfl;have h1:=FO (k:=1) (g:=false) (f:=F.poly_Text_1) (rows:=JC N) (p:=p) Q3.2.1 Q3.2.2 (Q3.1.2.2.2 false) rfl (TP.1.2.1 false) (by rw[Ow];exact hN) (fun row hr=>by
  simp only[JC,aec]at hr;obtain⟨m,hm,rfl⟩:=hr;refine⟨tx m,rfl,rfl,?_⟩;simp only[go_sem,aan (hs m hm),hp])
 have hn:(JC N).map (aU [])=JC N:=kT fun x _=>by simp only[go_sem]
 have h2:=Es (k:=1) Q6.2.1 Q6.2.2 (Q6.1.2.2.2 false) rfl (Q3.1.2.1 false) (Q3.1.1 false) hn h1;have h3:(JC N).any p=!N.all Rx:=by
  rw[JC,List.any_map,List.not_all_eq_any_not];rfl
 rw[h3]at h2;exact h2
def P7:Option Rd->List AV
 |none=>[B false,.emp,I 0]
 |some d=>aJ d
def JH(l:List (Option Rd)):List (List AV):=l.map P7
@[go_sem] theorem Ox(l):(JH l).length=l.length:=by simp[JH]
def gZ(a b:Rd):Rd×Int:=if(vd a&&vd b)=true then dW (jB (zI a+zI b) (-16384))else(fT,1)
theorem EJ{z f}:vd (dW (jB z f)).1=true/\Ok0 (dW (jB z f)).1:=by
 unfold dW jB;by_cases h:pK (ai (ab (bN (decide (z<0)) z.natAbs f).m)) (bN (decide (z<0)) z.natAbs f).e=true
 ·rw[if_pos h];have hv:=EG h;have hb:=AC (decide (z<0)) z.natAbs f;exact⟨hv,hb,Nat.lt_of_le_of_lt (qH hv hb) (by decide)⟩
 simp_all[if_neg,CN]
theorem EK(a b):vd (gZ a b).1=true/\Ok0 (gZ a b).1:=by
 grind[gZ,EJ,CN]
theorem AF{d}(h:vd d=true)(h0:d.m.length≠0):ab d.m%2=1:=by
 obtain⟨h1,h2,h3,h4⟩:=mG h h0;cases hm:d.m with
 |nil=>grind
 |cons x l=>
  grind[ab]
@[go_sem] theorem Oy(l):(CL l).map (aU [.o 0 [],.o 2 [],.o 0 []])=CL l:=by
 refine kT fun x hx=>?_;simp only[CL,aec]at hx;obtain⟨t,ht,rfl⟩:=hx;simp only[aJ,go_sem]
theorem ze{d}(h:vd d=true):dW d=(d,0):=by
 unfold dW;by_cases h0:d.m.length=0
 ·rw[re h h0];rfl
 simp_all[if_pos,mG]
theorem uY{d}(ok:Ok0 d)(h:vd d=true):bN d.neg (ab d.m) d.e=d:=by
 have h1:=uH ok h;obtain⟨g1,g2,g3,g4⟩:=mH h ok.lb;have hz:zI d=dQ d.neg (mg d):=rfl;rw[hz,←ri]at h1;grind[mg,lH]
theorem AG{N k}{neg}(ho:N%2=1)(hb:4096<ai N):dW (bN neg (N*2^k) (-16384))=(fT,9):=by
 have h0:N≠0:=by omega
 rw[lH];obtain⟨g1,g2,g3,g4⟩:=y8 (neg:=neg) (e:=-16384+k) h0;have ht:=F4 ho 0;rw[Nat.pow_zero,Nat.mul_one]at ht;unfold dW;rw[if_neg];intro h2;rw[g1,ht,Nat.pow_zero,Nat.div_one]at h2;have h3:=(uD h2 (by omega)).1;omega
theorem zf{a b}(oa:Ok0 a)(ob:Ok0 b)(va:vd a=true)(vb:vd b=true)(na:a.m.length≠0)(nb:b.m.length≠0){e}(he:e=if b.e<a.e then b.e else a.e)(h:4097<bJ a-e)(hg:1<bJ a-bJ b):
  dW (jB (zI a+zI b) (-16384))=(fT,9)/\dW (jB (zI b+zI a) (-16384))=(fT,9):=by
 obtain⟨a1,a2,a3,a4⟩:=mH va oa.lb;obtain⟨b1,b2,b3,b4⟩:=mH vb ob.lb;have e1:=kC va na;have e2:=kC vb nb;have he1:-16384<=e/\e<=a.e/\e<=b.e/\(e=a.e\/e=b.e):=by
  omega
 have hne:=by omega
 have z1:zI a=dQ a.neg (ab a.m*2^ (a.e-e).toNat*2^ (e+16384).toNat):=by
  grind[zI,dQ,mg,pi]
 have z2:zI b=dQ b.neg (ab b.m*2^ (b.e-e).toNat*2^ (e+16384).toNat):=by
  rw[show zI b=dQ b.neg (mg b)from rfl,pi he1.1 he1.2.2.1]
 have bx:(ai (ab a.m*2^ (a.e-e).toNat))=bJ a-e:=by
  grind[pf,oj]
 have by':(ai (ab b.m*2^ (b.e-e).toNat))=bJ b-e:=by
  grind
 have oX:=AF va na;have oY:=AF vb nb;have odd:(ab a.m*2^ (a.e-e).toNat+ab b.m*2^ (b.e-e).toNat) %2=1:=by
  rcases he1.2.2.2 with h1|h1
  ·omega
  ·obtain⟨k,hk⟩:∃k,(a.e-e).toNat=k+1:=⟨(a.e-e).toNat-1,by omega⟩;rw[show(b.e-e).toNat=0 by omega,hk,Nat.pow_zero,Nat.mul_one,ad7,←Nat.mul_assoc];omega
 rw[Int.add_comm (zI b),and_self,z1,z2];generalize ab a.m*2^ (a.e-e).toNat=x at bx odd⊢;generalize ab b.m*2^ (b.e-e).toNat=y at by' odd⊢;generalize(e+16384).toNat=k;have hx:2^ (ai x-1)<=x:=lQ.1 (by omega);have hy:y<2^ (ai x-2):=by
  have h3:y<2^ai y:=fX.1 (QK _);grind[aea,Nat.pow_le_pow_right]
 have hp:2^ (ai x-1)=2^ (ai x-2)*2:=by
  rw[←ad7];grind
 have hbig:∀N,x-y<=N->4096<ai N:=fun N hN=>by
  have h5:ai x-2<ai N:=lQ.2 (by omega);omega
 have hsum:∀n z,jB (dQ n (z*2^k)) (-16384)=bN n (z*2^k) (-16384):=fun n z=>ri.symm;by_cases hs:a.neg=b.neg
 ·have hz:dQ a.neg (x*2^k)+dQ b.neg (y*2^k)=dQ a.neg ((x+y)*2^k):=by
   rw[←hs,ad8];cases a.neg
   all_goals grind[rh,rg]
  grind[AG]
 ·have hbn:b.neg=!a.neg:=by
   grind
  have hz:dQ a.neg (x*2^k)+dQ b.neg (y*2^k)=dQ a.neg ((x-y)*2^k):=by
   grind[Bool.not_true,rh,rg]
  rw[hz,hsum];exact AG (by omega) (hbig _ (QK _))
noncomputable def fj:Cmd:=.seq (.dops [2,3,4,6,9,10] [fa 65 1 2,ld 66 1 65,fa 67 2 2,ld 68 1 67,cm 69 6,b2 70 .sub 68 69,ca 71 F.dyadic_shifted [.t 66,.t 70],fa 72 1 3,ld 73 1 72,fa 74 2 3,ld 75 1 74,cm 76 6,b2 77 .sub 75 76,ca 78 F.dyadic_shifted [.t 73,.t 77],cm 9 71,cm 10 78] [(6,8),(6,10)]) (.seq (.seq (.ops [2,3,4,6,9,10,83] [fa 79 0 2,ld 80 1 79,fa 81 0 3,ld 82 1 81,co 83 (.eqc false 0 (.t 80) (.t 82))]) (.cond (.t 83) (.seq (.ops [2,4,6,11] [cm 85 9,cm 86 10,ca 87 F.natural_Add [.t 85,.t 86],cm 84 87,co 88 (.ext 0 (.t 84)),co 89 (.ext 1 (.t 84)),cm 11 88,cm 12 89]) (.seq (.ops [4,5] [fa 90 0 2,ld 91 1 90,cm 92 11,cm 93 6,ca 94 F.dyadic_canonical [.t 91,.t 92,.t 93],ca 95 F.dyadic_checked [.t 94],co 96 (.ext 0 (.t 95)),co 97 (.ext 1 (.t 95)),sr 3 (.t 4) (.t 96),cm 5 97]) (.ret))) (.skip))) (.seq (.seq (.ops [2,3,4,6,9,10,101] [cm 98 9,cm 99 10,ca 100 F.natural_Cmp [.t 98,.t 99],co 101 (.bin .lss (.t 100) (.c (I 0)))]) (.cond (.t 101) (.ops [2,4,6,9,10] [la 102 3 3,cm 103 10,cm 104 9,sr 3 (.t 2) (.t 102),cm 9 103,cm 10 104]) (.skip))) (.seq (.ops [2,4,6,13] [cm 106 9,cm 107 10,ca 108 F.natural_Sub [.t 106,.t 107],cm 105 108,co 109 (.ext 0 (.t 105)),co 110 (.ext 1 (.t 105)),cm 13 109,cm 14 110]) (.seq (.ops [4,5] [fa 111 0 2,ld 112 1 111,cm 113 13,cm 114 6,ca 115 F.dyadic_canonical [.t 112,.t 113,.t 114],ca 116 F.dyadic_checked [.t 115],co 117 (.ext 0 (.t 116)),co 118 (.ext 1 (.t 116)),sr 3 (.t 4) (.t 117),cm 5 118]) (.ret)))))
theorem gp:jR=.seq (.ops [2,3,4] [bx 2 3 (.t 0),bx 3 3 (.t 1),al 4 [B false,.emp,I 0],co 5 (.mv (.c (I 0)))]) (.seq (.seq (.ops [2,3,4,24] [fa 15 1 2,ld 16 1 15,co 17 (.len false (.t 16)),co 18 (.bin .eql (.t 17) (.c (I 0))),cm 19 18,cg 20 19 false (.fadr 1 (.t 3)),⟨(some 21),(some (19,false)),.load 1 false (.t 20)⟩,cg 22 19 false (.len false (.t 21)),cg 23 19 false (.bin .eql (.t 22) (.c (I 0))),co 24 (.pick (.t 19) (.c (B true)) (.t 23))]) (.cond (.t 24) (.seq (.seq (.ops [2,3,4,28] [fa 25 1 2,ld 26 1 25,co 27 (.len false (.t 26)),co 28 (.bin .eql (.t 27) (.c (I 0)))]) (.cond (.t 28) (.ops [2,4] [la 29 3 3,sr 3 (.t 2) (.t 29)]) (.skip))) (.seq (.ops [4,5] [fa 30 0 2,ld 31 1 30,fa 32 1 2,ld 33 1 32,fa 34 2 2,ld 35 1 34,ca 36 F.dyadic_canonical [.t 31,.t 33,.t 35],sr 3 (.t 4) (.t 36),co 5 (.mv (.c (I 0)))]) (.ret))) (.skip))) (.seq (.ops [2,3,4,6] [fa 37 2 2,ld 38 1 37,fa 39 2 3,ld 40 1 39,co 41 (.mnx true (.t 38) [.t 40]),cm 6 41]) (.seq (.dops [2,3,4,6,7,8] [la 42 3 2,ca 43 F.dyadic_Top [.t 42],la 44 3 3,ca 45 F.dyadic_Top [.t 44],cm 7 43,cm 8 45] [(1,2)]) (.seq (.seq (.ops [2,3,4,6,63] [cm 46 7,cm 47 8,co 48 (.mnx false (.t 46) [.t 47]),cm 49 6,b2 50 .sub 48 49,co 51 (.bin .gtr (.t 50) (.c (I 4097))),cm 52 51,cg 53 52 true (.mv (.t 7)),cg 54 52 true (.mv (.t 8)),cg 55 52 true (.bin .sub (.t 53) (.t 54)),cg 56 52 true (.bin .gtr (.t 55) (.c (I 1))),cg 57 52 true (.mv (.t 56)),cg 58 57 false (.mv (.t 8)),cg 59 57 false (.mv (.t 7)),cg 60 57 false (.bin .sub (.t 58) (.t 59)),cg 61 57 false (.bin .gtr (.t 60) (.c (I 1))),cg 62 52 true (.pick (.t 57) (.c (B true)) (.t 61)),co 63 (.pick (.t 52) (.t 62) (.c (B false)))]) (.cond (.t 63) (.seq (.ops [4,5] [co 64 (.build [B false,.emp,I 0] []),sr 3 (.t 4) (.t 64),co 5 (.mv (.c (I 9)))]) (.ret)) (.skip))) fj)))):=rfl
theorem CP{a b}(oa:Ok0 a)(ob:Ok0 b)(va:vd a=true)(vb:vd b=true)(na:a.m.length≠0)(nb:b.m.length≠0){e}(he1:-16384<=e/\e<=a.e/\e<=b.e)(hX:bJ a-e<=5000)(hY:bJ b-e<=5000)(s)
  (h2:s 2=.ref 2 none 0 0 0) (h3:s 3=.ref 3 none 0 0 0) (h4:s 4=.ref 4 none 0 0 0) (h6:s 6=I e):
  oH false [[.o 0 [],.o 2 [],.o 0 []],[]] [.cell 4 3 true,.t 5] 0 (aj R (bA false) fj s (upd (upd (upd (fun _=>.dead) 2 (.bx (aJ a))) 3 (.bx (aJ b))) 4 (.bx [B false,.emp,I 0])))=some (rV (dW (jB (zI a+zI b) (-16384))),[]):=by
 obtain⟨a1,a2,a3,a4⟩:=mH va oa.lb;obtain⟨b1,b2,b3,b4⟩:=mH vb ob.lb;have e1:=kC va na;have e2:=kC vb nb;have w1:IntKind.i64.wrap (a.e-e)=(((a.e-e).toNat:Nat):Int):=wi (by omega) (by omega);have w2:IntKind.i64.wrap (b.e-e)=(((b.e-e).toNat:Nat):Int):=wi (by omega) (by omega);have z1:zI a=dQ a.neg (ab a.m*2^ (a.e-e).toNat*2^ (e+16384).toNat):=by
  grind[zI,dQ,mg,pi]
 have z2:zI b=dQ b.neg (ab b.m*2^ (b.e-e).toNat*2^ (e+16384).toNat):=by
  rw[show zI b=dQ b.neg (mg b)from rfl,pi he1.1 he1.2.2]
 have bx:ai (ab a.m*2^ (a.e-e).toNat)<=5000:=by
  grind[pf,oj]
 have by':ai (ab b.m*2^ (b.e-e).toNat)<=5000:=by
  grind[pf,oj]
 have l1:=tp oa.lb a1 (k:=(a.e-e).toNat) (by omega) (QU (aI (k:=157) (by omega)) (by decide));have l2:=tp ob.lb b1 (k:=(b.e-e).toNat) (by omega) (QU (aI (k:=157) (by omega)) (by decide));rw[z1,z2];generalize ab a.m*2^ (a.e-e).toNat=x at l1 bx⊢;generalize ab b.m*2^ (b.e-e).toNat=y at l2 by'⊢;have hsum:∀ (n:Bool) (z:Nat),bN n z e=jB (dQ n (z*2^ (e+16384).toNat)) (-16384):=fun n z=>by
  rw[←ri,lH,show-16384+((e+16384).toNat:Nat)=e by omega]
 have lx:(af x).length<=157:=aI (by omega);have ly:(af y).length<=157:=aI (by omega);have hq:JD e:=⟨by omega,by omega⟩;have hcp:=s9 (bh x) (bh y) (by omega) (by omega);rw[aY,aY]at hcp;have CH:∀ (n:Bool) (z:Nat),ai z<=5001->R F.dyadic_canonical [B n,lm (af z),I e] []=some (av (bN n z e),[])/\R F.dyadic_checked [av (bN n z e)] []=some (rV (dW (bN n z e)),[]):=fun n z hz=>by
  have hl:(af z).length<=157:=aI (by omega);have c1:=mF (neg:=n) (m:=af z) (e:=e) (bh z) (by omega) hq;rw[aY]at c1;refine⟨c1,?_⟩;rw[B8 (AC n z e) (QU (DI (k:=157) (by omega)) (by decide))];exact congrArg (fun v=>some (v,[])) (EE _)
 by_cases hs:a.neg=b.neg
 ·have p1:=EF (x:=x) (y:=y) bx by';obtain⟨c1,c2⟩:=CH a.neg (x+y) (y7 bx by');have hz:dQ a.neg (x*2^ (e+16384).toNat)+dQ b.neg (y*2^ (e+16384).toNat)=dQ a.neg ((x+y)*2^ (e+16384).toNat):=by
   rw[←hs,ad8];cases a.neg
   all_goals grind[rh,rg]
  rw[hz,←hsum];generalize bN a.neg (x+y) e=r at c1 c2⊢;generalize dW r=q at c2⊢;obtain⟨q1,q2⟩:=q;have hs2:(a.neg==b.neg)=true:=by grind
  have hs3:(false != (a.neg==b.neg))=true:=by grind
  simp only[rV,av,aJ]at c1 c2;simp only[fj,rV,av,aJ,go_sem,QH,QG,QJ,QM,QP,h2,h3,h4,h6,w1,w2,l1,l2,hs3,p1,c1,c2]
 ·have hs2:(a.neg==b.neg)=false:=by
   grind
  have hs3:(false != (a.neg==b.neg))=false:=by grind
  have hbn:b.neg=!a.neg:=by
   grind
  have hb1:∀u v:Nat,ai u<=5000->ai (u-v)<=5001:=fun u v hu=>CI (Nat.sub_le u v) (QU hu (by decide));by_cases hlt:x<y
  ·have e5:(dV x y<0)=True:=tt (by simp_all[dV,if_pos]);have m1:=AD (x:=y) (y:=x) by' bx (by omega);obtain⟨c1,c2⟩:=CH b.neg (y-x) (hb1 _ _ by');have hz:dQ a.neg (x*2^ (e+16384).toNat)+dQ b.neg (y*2^ (e+16384).toNat)=dQ b.neg ((y-x)*2^ (e+16384).toNat):=by
    grind[Bool.not_true,rh,rg]
   rw[hz,←hsum];generalize bN b.neg (y-x) e=r at c1 c2⊢;generalize dW r=q at c2⊢;obtain⟨q1,q2⟩:=q;simp only[rV,av,aJ]at c1 c2;simp only[fj,rV,av,aJ,go_sem,QH,QG,QJ,QM,QP,h2,h3,h4,h6,w1,w2,l1,l2,hs3,hcp,e5,m1,c1,c2]
  ·have e5:(dV x y<0)=False:=ff (by unfold dV;omega);have m1:=AD (x:=x) (y:=y) bx by' (by omega);obtain⟨c1,c2⟩:=CH a.neg (x-y) (hb1 _ _ bx);have hz:dQ a.neg (x*2^ (e+16384).toNat)+dQ b.neg (y*2^ (e+16384).toNat)=dQ a.neg ((x-y)*2^ (e+16384).toNat):=by
    grind[Bool.not_true,rh,rg]
   rw[hz,←hsum];generalize bN a.neg (x-y) e=r at c1 c2⊢;generalize dW r=q at c2⊢;obtain⟨q1,q2⟩:=q;simp only[rV,av,aJ]at c1 c2;simp only[fj,rV,av,aJ,go_sem,QH,QG,QJ,QM,QP,h2,h3,h4,h6,w1,w2,l1,l2,hs3,hcp,e5,m1,c1,c2]
theorem EL{a b}(oa:Ok0 a)(ob:Ok0 b)(va:vd a=true)(vb:vd b=true):R F.dyadic_sum [av a,av b] []=some (rV (dW (jB (zI a+zI b) (-16384))),[]):=by
 refine aX yB rfl ?_;by_cases a0:a.m.length=0
 ·have e1:((a.m.length:Int)=0)=True:=tt (by omega);have hz:=re va a0;obtain⟨b1,b2,b3,b4⟩:=mH vb ob.lb;have c1:=mF (neg:=b.neg) (m:=b.m) (e:=b.e) ob.lb (by omega) ⟨by omega,by omega⟩;have hr:=uY ob vb;have hk:dW (jB (zI a+zI b) (-16384))=(b,0):=by
   simp_all[uE,Int.zero_add,uH,ze]
  rw[hr]at c1;rw[hk];simp only[av,aJ]at c1;simp only[dv,jR,rV,av,aJ,go_sem,QH,QG,QJ,e1,c1]
 have e1:((a.m.length:Int)=0)=False:=ff (by omega);obtain⟨a1,a2,a3,a4⟩:=mH va oa.lb;by_cases b0:b.m.length=0
 ·have e2:((b.m.length:Int)=0)=True:=tt (by omega);have c1:=mF (neg:=a.neg) (m:=a.m) (e:=a.e) oa.lb (by omega) ⟨by omega,by omega⟩;have hr:=uY oa va;have hk:dW (jB (zI a+zI b) (-16384))=(a,0):=by
   simp_all[uE,Int.add_zero,uH,ze]
  rw[hr]at c1;rw[hk];simp only[av,aJ]at c1;simp only[dv,jR,rV,av,aJ,go_sem,QH,QG,QJ,e1,e2,c1]
 have e2:((b.m.length:Int)=0)=False:=ff (by omega);obtain⟨b1,b2,b3,b4⟩:=mH vb ob.lb;have ta:=CK oa;have tb:=CK ob;have q1:=kC va a0;have q2:=kC vb b0;have p1:=pe (oj va a0);have p2:=pe (oj vb b0);simp only[av,aJ]at ta tb;have g1:=fun h2 h3=>(zf oa ob va vb a0 b0 rfl h2 h3).1;have g2:=fun h2 h3=>(zf ob oa vb va b0 a0 rfl h2 h3).2;obtain⟨e,he⟩:∃e,(if b.e<a.e then b.e else a.e)=e:=⟨_,rfl⟩;have he2:(if a.e<b.e then a.e else b.e)=e:=by
  omega
 rw[he]at g1;rw[he2]at g2;have he1:-16384<=e/\e<=a.e/\e<=b.e:=by
  omega
 obtain⟨M,hM⟩:∃M,(if bJ a<bJ b then bJ b else bJ a)=M:=⟨_,rfl⟩;have w1:IntKind.i64.wrap (M-e)=M-e:=i64_in _ ⟨by omega,by omega⟩;have w2:IntKind.i64.wrap (bJ a-bJ b)=bJ a-bJ b:=i64_in _ ⟨by omega,by omega⟩;have w3:IntKind.i64.wrap (bJ b-bJ a)=bJ b-bJ a:=i64_in _ ⟨by omega,by omega⟩;by_cases h1:4097<M-e
 ·have f1:=tt h1;by_cases h2:1<bJ a-bJ b
  ·have f2:=tt h2;rw[g1 (by omega) h2];simp only[dv,gp,rV,fT,av,aJ,go_sem,QH,QG,QJ,QM,QP,e1,e2,he,ta,tb,hM,w1,w2,f1,f2]
  ·have f2:(1<bJ a-bJ b)=False:=ff h2;by_cases h3:1<bJ b-bJ a
   ·have f3:(1<bJ b-bJ a)=True:=tt h3;rw[g2 (by omega) h3];simp only[dv,gp,rV,fT,av,aJ,go_sem,QH,QG,QJ,QM,QP,e1,e2,he,ta,tb,hM,w1,w2,w3,f1,f2,f3]
   omega
 ·have f1:(4097<M-e)=False:=ff h1;simp only[dv,gp,rV,av,aJ,go_sem,QH,QG,QJ,QM,QP,e1,e2,he,ta,tb,hM,w1,f1];exact CP oa ob va vb a0 b0 he1 (by omega) (by omega) _ rfl rfl rfl rfl
theorem EM{a b}(oa:Ok0 a)(ob:Ok0 b):R F.dyadic_Add [av a,av b] []=some (rV (gZ a b),[]):=by
 refine aX yA rfl ?_;have v1:=sk oa;have v2:=sk ob;simp only[av,aJ]at v1 v2;unfold gZ;cases va:vd a with
 |false=>
  rw[va]at v1;simp only[fP,jN,rV,fT,av,aJ,go_sem,QH,QG,QJ,v1]
 |true=>
  rw[va]at v1;cases vb:vd b with
  |false=>
   rw[vb]at v2;simp only[fP,jN,rV,fT,av,aJ,go_sem,QH,QG,QJ,v1,v2]
  |true=>
   rw[vb]at v2;have hs:=EL oa ob va vb;simp only[rV,av,aJ]at hs;simp only[fP,jN,rV,av,aJ,go_sem,QH,QG,QJ,v1,v2,hs]
theorem uZ:∀ {a b},a.length=b.length->gY b a=-gY a b
 |[],[],_=>rfl
 |x::a,y::b,h=>by
  unfold gY;rcases kH x y with⟨g,e⟩| ⟨g,e⟩| ⟨g,e⟩<;>rcases kH y x with⟨g',e'⟩| ⟨g',e'⟩| ⟨g',e'⟩<;>rw[e,e']<;>first|omega| (simp;done)|skip
  exact uZ (by simpa using h)
 |[],_::_,h=>by grind
 |_::_,[],h=>by grind
theorem AH:∀ {a b c},a.length=b.length->b.length=c.length->(gY a b<=0->gY b c<0->gY a c<0)/\(gY a b<0->gY b c<=0->gY a c<0)
 |[],[],[],_,_=>⟨fun _ h=>by omega,fun h _=>by omega⟩
 |x::a,y::b,z::c,h,h'=>by
  have ih:=AH (a:=a) (b:=b) (c:=c) (by grind) (by grind);unfold gY;rcases kH x y with⟨g,e⟩| ⟨g,e⟩| ⟨g,e⟩<;>rcases kH y z with⟨g',e'⟩| ⟨g',e'⟩| ⟨g',e'⟩<;>rcases kH x z with⟨g2,e2⟩| ⟨g2,e2⟩| ⟨g2,e2⟩<;>rw[e,e',e2]<;>first|omega|skip
  all_goals first|exact ih|omega
 |[],[],_::_,_,h=>by grind
 |[],_::_,_,h,_=>by grind
 |_::_,[],_,h,_=>by grind
 |_::_,_::_,[],_,h=>by grind
theorem qI{a b}(h:a.length=b.length):aS b a=-aS a b:=by
 unfold aS;rcases kH (dp a) (dp b)with⟨g,e⟩| ⟨g,e⟩| ⟨g,e⟩<;>rcases kH (dp b) (dp a)with⟨g',e'⟩| ⟨g',e'⟩| ⟨g',e'⟩<;>rw[e,e']<;>first|omega| (simp;done)|skip
 grind[uZ]
theorem uI{a b c}(h:a.length=b.length)(h':b.length=c.length):(aS a b<=0->aS b c<0->aS a c<0)/\(aS a b<0->aS b c<=0->aS a c<0):=by
 have ih:=AH (a:=c) (b:=b) (c:=a) h'.symm h.symm;unfold aS;rcases kH (dp a) (dp b)with⟨g,e⟩| ⟨g,e⟩| ⟨g,e⟩<;>rcases kH (dp b) (dp c)with⟨g',e'⟩| ⟨g',e'⟩| ⟨g',e'⟩<;>rcases kH (dp a) (dp c)with⟨g2,e2⟩| ⟨g2,e2⟩| ⟨g2,e2⟩<;>rw[e,e',e2]<;>first|omega|skip
 all_goals first|exact⟨fun x y=>ih.2 y x,fun x y=>ih.1 y x⟩|omega
structure VT (v:Int) (t:Rt):Prop where
 c:Ok0 t.c
 len:(t.exps.length:Int)=v
 v8:v<=8
 vc:vd t.c=true
 nz:t.c.m.length≠0
 b:∀e∈t.exps,0<=e/\e<=32
 d:dp t.exps<=32
theorem VT.sm{v}{t}(h:VT v t):sm t.exps:=⟨by have:=h.len;have:=h.v8;omega,h.b⟩
theorem VT.ok{v}{t}(h:VT v t):OkT t:=⟨h.c,by have:=h.len;have:=h.v8;omega⟩
theorem VT.l2{v}{t q}(h:VT v t)(h2:VT v q):t.exps.length=q.exps.length:=by have:=h.len;have:=h2.len;omega
structure Cl (v:Int) (l:List Rt):Prop where
 t:∀t∈l,VT v t
 s:l.Pairwise fun a b=>aS a.exps b.exps<0
theorem Cl.nil(v):Cl v []:=⟨(fun _ h=>nomatch h),List.Pairwise.nil⟩
theorem Cl.cons{v}{q}{l}(h:Cl v (q::l)):VT v q/\(∀t∈l,aS q.exps t.exps<0)/\Cl v l:=
 ⟨h.t q (by simp),(List.pairwise_cons.1 h.s).1,fun t ht=>h.t t (by grind),(List.pairwise_cons.1 h.s).2⟩
theorem Cl.mk'{v}{q}{l}(h1:VT v q)(h2:∀t∈l,aS q.exps t.exps<0)(h3:Cl v l):Cl v (q::l):=
 ⟨fun t ht=>(List.mem_cons.1 ht).elim (fun e=>e▸h1) (h3.t t),List.pairwise_cons.2 ⟨h2,h3.s⟩⟩
theorem CQ{v}(hv:v<=8):∀l pr,(∀t∈l,OkT t)->Ed v pr l=true->Cl v l/\∀q,pr=some q->q.exps.length=v->∀t∈l,aS q.exps t.exps<0
 |[],pr,_,_=>⟨Cl.nil v,fun _ _ _ t ht=>by grind⟩
 |t::l,pr,ok,h=>by
  unfold Ed at h;simp only[QQ]at h;obtain⟨h1,h2,h3⟩:=h;obtain⟨g1,g2⟩:=CQ hv l (some t) (fun x hx=>ok x (by grind)) h3;obtain⟨k1,k2,k3,k4,k5⟩:=F3 h1;have vt:VT v t:=⟨(ok t (by simp)).c,k1,hv,k2,k3,EI k4,k5⟩;have gt:=g2 t rfl k1;refine⟨Cl.mk' vt gt g1,fun q hq hl x hx=>?_⟩;subst hq;have h4:=of_decide_eq_true h2;rcases List.mem_cons.1 hx with rfl|hx
  ·omega
  ·exact(uI (by omega) (vt.l2 (g1.t x hx))).1 (by omega) (gt x hx)
theorem HS{a}(oa:OkP a)(h:vp a=true):Cl a.vars a.terms/\0<=a.vars/\a.vars<=8/\a.terms.length<=500:=by
 unfold vp at h;simp only[QQ,decide_eq_true_eq]at h;exact⟨(CQ h.2.1 _ none oa.t h.2.2.2).1,h.1,h.2.1,h.2.2.1⟩
def au:List Rt->List Int->Nat
 |[],_=>0
 |q::l,x=>if aS q.exps x<0 then au l x+1 else 0
def nD:List Rt->Rt->Option (List Rt)
 |[],t=>some [t]
 |q::l,t=>if aS q.exps t.exps<0 then(nD l t).map (q::·)else if aS q.exps t.exps=0 then(if(gZ q.c t.c).2=0 then some (if(gZ q.c t.c).1.m.length=0 then l else⟨q.exps,(gZ q.c t.c).1⟩::l)else none)else some (t::q::l)
theorem uJ:∀l x,au l x<=l.length
 |[],x=>QK _
 |q::l,x=>by
  unfold au;split
  all_goals simp_all[Nat.succ_le_succ,uJ,aei]
theorem AI:∀ {l} {x} {i} {q},i<au l x->l[i]?=some q->aS q.exps x<0
 |[],x,i,q,h,_=>by grind
 |p::l,x,i,q,h,hq=>by
  unfold au at h;split at h
  ·cases i with
   |zero=>grind
   |succ i=>exact AI (l:=l) (i:=i) (by omega) (by grind)
  omega
theorem uK:∀ {l} {x} {q},l[au l x]?=some q->0<=aS q.exps x
 |[],x,q,h=>by grind
 |p::l,x,q,h=>by
  unfold au at h;split at h
  ·exact uK (l:=l) (by grind)
  grind
theorem EN{v}{l}{x}(c:Cl v l)(hx:x.length=v){i}{q}(hi:au l x<i)(h:l[i]?=some q):0<aS q.exps x:=by
 have hlt:=(List.getElem?_eq_some_iff.1 h).1;have h1:l[au l x]?=some l[au l x]:=adW (by omega);have h2:=uK h1;have h3:=(List.getElem?_eq_some_iff.1 h).2;have h4:aS (l[au l x]).exps q.exps<0:=by
  rw[←h3];exact List.pairwise_iff_getElem.1 c.s _ _ (by omega) hlt hi
 have v1:=c.t _ (aee (by omega:au l x<l.length));have v2:=c.t q (QR h);generalize l[au l x]=p at*
 have l1:x.length=p.exps.length:=by have:=v1.len;omega
 have h5:=(uI l1 (v1.l2 v2)).1 (by grind[qI]) h4;rw[qI (by have:=v2.len;omega)];omega
theorem AJ:∀l t,nD l t=match l[au l t.exps]? with
  |none=>some (l.take (au l t.exps)++t::l.drop (au l t.exps))
  |some q=>if aS q.exps t.exps=0 then(if(gZ q.c t.c).2=0 then some (if(gZ q.c t.c).1.m.length=0 then l.take (au l t.exps)++l.drop (au l t.exps+1)else l.set (au l t.exps) ⟨q.exps,(gZ q.c t.c).1⟩)else none)else some (l.take (au l t.exps)++t::l.drop (au l t.exps))
 |[],t=>rfl
 |q::l,t=>by
  unfold nD au;by_cases h:aS q.exps t.exps<0
  ·simp only[if_pos h,List.getElem?_cons_succ];rw[AJ l t];cases l[au l t.exps]? with
   |none=>rfl
   |some p=>
    simp only[];split
    ·split
     ·split<;>rfl
     ·rfl
    ·rfl
  grind
theorem AK{v}:∀ {l l'} {t},Cl v l->VT v t->nD l t=some l'->Cl v l'/\∀q,q.length=v->(∀x∈l,aS q x.exps<0)->aS q t.exps<0->∀x∈l',aS q x.exps<0
 |[],l',t,c,vt,h=>by
  cases h;grind[Cl.mk']
 |p::l,l',t,c,vt,h=>by
  obtain⟨c1,c2,c3⟩:=c.cons;unfold nD at h;split at h
  ·rename_i h1;rw[adV]at h;obtain⟨l2,h2,rfl⟩:=h;obtain⟨g1,g2⟩:=AK c3 vt h2;refine⟨Cl.mk' c1 (g2 p.exps c1.len c2 h1) g1,fun q hq k1 k2 x hx=>?_⟩;grind
  ·split at h
   ·split at h
    ·cases h;split
     ·grind
     ·rename_i h4;obtain⟨a1,a2⟩:=EK p.c t.c;refine⟨Cl.mk' ⟨a2,c1.len,c1.v8,a1,h4,c1.b,c1.d⟩ c2 c3,fun q hq k1 k2 x hx=>?_⟩;grind
    grind
   ·cases h;have h3:aS t.exps p.exps<0:=by
     rw[qI (c1.l2 vt)];omega
    refine⟨Cl.mk' vt (fun x hx=>?_) c,fun q hq k1 k2 x hx=>?_⟩
    ·rcases List.mem_cons.1 hx with rfl|hx
     ·omega
     ·exact(uI (vt.l2 c1) (c1.l2 (c3.t x hx))).1 (by omega) (c2 x hx)
    grind
theorem zg:∀ {l l'} {t},nD l t=some l'->l'.length<=l.length+1
 |[],l',t,h=>by cases h;simp
 |p::l,l',t,h=>by
  unfold nD at h;split at h
  ·rw[adV]at h;obtain⟨l2,h2,rfl⟩:=h;simpa using zg h2
  grind
def so:List Rt->List Rt->Option (List Rt)
 |l,[]=>some l
 |l,t::ts=>(nD l t).bind fun l'=>so l' ts
theorem AL{t}{x}(ht:sm t.exps)(hx:sm x)(hl:t.exps.length=x.length):R F.poly_collector_add_1 [.agg (dC t),.sl 1 (ce x)] []=some (I (aS t.exps x),[]):=by
 refine aX ns rfl ?_;have ho:=DM ht hx hl;simp only[dT,iX,dC,go_sem,QH,QG,ho]
theorem EO{v}{l}{x}(c:Cl v l)(hx:sm x)(hl:x.length=v)(h2:l.length<=1000000):∀k i j,j-i<=k->i<=au l x->au l x<=j->j<=l.length->∀s h,s 0=.sl 4 (aL l)->s 1=.sl 1 (ce x)->s 2=.fn F.poly_collector_add_1 [] []->s 8=I l.length->s 9=I i->s 10=I j->
  aC 0 [0,1,2,8,9] (bX (aj R (bA false) am) [0,1,2,8,9,10] [] s h)=some (.normal,⟨upd (upd (upd (upd (upd (fun _=>.any) 9 (I (au l x))) 8 (I l.length)) 2 (.fn F.poly_collector_add_1 [] [])) 1 (.sl 1 (ce x))) 0 (.sl 4 (aL l)),fun _=>.dead⟩):=by
 intro k;induction k with
 |zero=>
  intro i j hk hi hj hn s h h0 h1 h2' h8 h9 h10;have e1:(i< (j:Int))=False:=ff (by omega);obtain rfl:i=au l x:=by omega
  rw[aD];simp only[am,go_sem,h0,h1,h2',h8,h9,h10,e1]
 |succ k ih=>
  intro i j hk hi hj hn s h h0 h1 h2' h8 h9 h10;by_cases hij:i<j
  ·have e1:(i< (j:Int))=True:=tt (by omega);have e2:IntKind.i64.wrap (i+j)=(i+j:Nat):=wi (by omega) (by omega);have hlt:(i+j)/2<l.length:=by omega
   have g1:IntKind.u64.wrap ((i+j:Nat))=((i+j:Nat):Int):=qE rfl (by omega);have g2:((1:Int)<0)=False:=ff (by decide);have g3:Int.fdiv ((i+j:Nat):Int) (2^ (min (Int.toNat 1) 64))=(((i+j)/2:Nat):Int):=by
    grind
   have g4:IntKind.i64.wrap (((i+j)/2:Nat):Int)=(((i+j)/2:Nat):Int):=wi (by omega) (by omega);have e3:=AE rfl (adW hlt);have q:=c.t _ (aee hlt);have hc:=AL q.sm hx (by have:=q.len;omega);have p1:aS (l[(i+j)/2]).exps x<0->(i+j)/2<au l x:=fun ho=>by
    rcases Nat.lt_trichotomy ((i+j)/2) (au l x)with h|h|h
    ·omega
    ·have:=uK (l:=l) (x:=x) (q:=l[(i+j)/2]) (by grind);omega
    ·have:=EN c hl h (adW hlt);omega
   have p2:¬aS (l[(i+j)/2]).exps x<0->au l x<=(i+j)/2:=fun ho=>by
    grind[absurd,AI]
   have i1:=ih ((i+j)/2+1) j (by omega);have i2:=ih i ((i+j)/2) (by omega) hi;generalize l[(i+j)/2]=t at e3 q hc p1 p2;rw[aD];generalize bX _ _ _=L at i1 i2⊢;simp only[dC]at hc e3;by_cases ho:aS t.exps x<0
   ·have e4:=tt ho;have e5:IntKind.i64.wrap ((((i+j)/2:Nat):Int)+1)=(((i+j)/2+1:Nat):Int):=wi (by omega) (by omega);have:=p1 ho;simp only[am,go_sem,QH,QG,QJ,h0,h1,h2',h8,h9,h10,e1,e2,g1,g2,g3,g4,e3,hc,e4,e5];exact i1 (by omega) hj hn _ _ rfl rfl rfl rfl rfl rfl
   ·have e4:=ff ho;have:=p2 ho;simp only[am,go_sem,QH,QG,QJ,h0,h1,h2',h8,h9,h10,e1,e2,g1,g2,g3,g4,e3,hc,e4];exact i2 this (by omega) _ _ rfl rfl rfl rfl rfl rfl
  grind
def qJ(l:List Rt)(x:List Int):Bool:=match l[au l x]? with
 |some q=>decide (aS q.exps x=0)
 |none=>false
theorem Cc{v}{l}{x}(c:Cl v l)(hx:sm x)(hl:x.length=v)(h2:l.length<=1000000):R F.slices_BinarySearchFunc_api_Term_api_Term_Sint_ [.sl 4 (aL l),.sl 1 (ce x),.fn F.poly_collector_add_1 [] []] []=some (.tup [I (au l x),B (qJ l x)],[]):=by
 refine yJ dK dJ (aQ false) rfl ?_;have h3:=EO c hx hl h2 l.length 0 l.length (by omega) (aei _) (uJ l x) (QK _);simp only[aB,bc,go_sem];rw[h3 _ _ rfl rfl rfl rfl rfl rfl];unfold qJ;cases hq:l[au l x]? with
 |none=>
  have:=List.getElem?_eq_none_iff.1 hq;have e1:((au l x)< (l.length:Int))=False:=ff (by omega);simp only[go_sem,e1]
 |some q=>
  have hlt:=(List.getElem?_eq_some_iff.1 hq).1;have e1:((au l x)< (l.length:Int))=True:=tt (by omega);have vq:=c.t q (QR hq);have hc:=AL vq.sm hx (by have:=vq.len;omega);have e3:=AE rfl hq;simp only[dC]at hc e3;by_cases ho:aS q.exps x=0
  ·have e4:=tt ho;simp only[go_sem,QH,QG,QJ,e1,e3,hc,e4,decide_true]
  ·have e4:=ff ho;simp only[go_sem,QH,QG,QJ,e1,e3,hc,e4,decide_false]
theorem u9{d}(hn:d.m.length≠0)(h1:d.m.length<=100000):R F.poly_copied [av d] []=some (av d,[]):=by
 refine aX wF rfl ?_;have hc:=yY (m:=d.m) (fun h=>hn (by grind)) h1;simp only[j8,py,av,aJ,go_sem,QH,QG,QJ,hc]
theorem AM{h}{d id p n}{cs}{rows}{x}(hh:h id=.bx cs)(hp:cs[p]?=some (.osl 4 rows))(hn:n=rows.length)(hx:∃r,x=.sl 1 r):
  aM R (bA false) h d [.rsl id (some p) 4 0 n,x,.fn F.poly_collector_add_1 [] []] (.fn F.slices_BinarySearchFunc_api_Term_api_Term_Sint_ [] [])=(R F.slices_BinarySearchFunc_api_Term_api_Term_Sint_ (aG [[.o 5 [.o 2 [],.o 0 [],.o 2 [],.o 0 []]],[.o 2 []],[]] [.sl 4 rows,x,.fn F.poly_collector_add_1 [] []]) []).bind (C5 h):=by
 obtain⟨r,rfl⟩:=hx;unfold aM
 simp_all[if_pos,jY,be,Bl,wZ,C4,E6,pM,lI,xp,lJ,aeg,ad4,aW]
theorem DO(o):aO [o]=upd (fun _=>.dead) 1000 o:=by
 unfold aO upd;grind
theorem tr{f}{fd}{args}{o}{r}(hE:cQ.E f=none)(hC:cQ.C f=some fd)(hk:cQ.md.keep f=false)(h1:args.length=fd.np)
  (hz:oH false fd.rs fd.res 1 (aj R (bA false) fd.body (oI args) (upd (fun _=>.dead) 1000 o))=some r):R f args [o]=some r:=by
 grind[Cz,DO]
theorem xi{f}{g}{args}{hs}(hE:cQ.E f=some g):R f args hs=g args hs:=oQ hE
theorem CR:R F.slices_Clone_int_int_ [.sl 1 []] []=some (.sl 1 [],[]):=by
 rw[xi (g:=FK) (by kernel_rfl)];rfl
theorem CS{x}{l}(h:l.length<=1000000):R F.slices_Clone_int_int_ [.sl 1 (ce (x::l))] []=some (.osl 1 (ce (x::l)),[]):=by
 rw[xi (g:=FK) (by kernel_rfl)];show(if(((ce l).length+1)*8<=140737488355328)then _ else _)=_;rw[if_pos (by grind[uF])];rfl
def zi(c:AV)(l:List Rt):Prop:=c=.osl 4 (aL l)\/(c=.emp/\l=[])
def t3(v:Int)(c:AV)(e:Int):Ob:=.bx [I v,c,I e]
theorem oA{h}{v e}{c}{l}(hc:zi c l)(hh:h 1000=t3 v c e):pT [] 1 h []=some (.tup [],[t3 v c e]):=by
 have hp:oC 1=[1000]:=rfl;have h2:bo [1000] (t3 v c e)=true:=by
  rcases hc with rfl| ⟨rfl,_⟩<;>rfl
 grind[pT,kN,mP,oG,aG]
theorem DP{v e}{c x}{d}{l}(hc:zi c l)(he:e≠0):R F.poly_collector_add [.ref 1000 none 0 0 0,x,av d] [t3 v c e]=some (.tup [],[t3 v c e]):=by
 refine tr ap.2.1 ap.2.2 (ap.1.2.2.2 false) rfl ?_;have e1:=ff he;simp only[aZ,bZ,t3,av,aJ,go_sem,QH,QG,e1];exact oA hc rfl
theorem rk(h)(i)(b):C5 h (.tup [I i,B b],[])=some (.tup [I i,B b],h,[]):=rfl
theorem pj{h}{id p id2 k n}{rows}{cs}(h1:h id2=.ar k rows)(hn:n=rows.length)(h2:h id=.bx cs)(hne:id≠id2)(hp:p<cs.length):
  nF h id p 1 [.rsl id2 none k 0 n]=some (upd (upd h id2 .dead) id (.bx (cs.set p (.osl k rows))),(id2,false)::(if cs[p]?.any bT then [(id,true)]else [])):=by
 simp_all[upd,if_neg,nF,HU,HT,E3,DY]
theorem F5{l}{t}{n i}(hn:n=l.length)(hi:i<=n)(h2:n<=1000000):R F.slices_Insert_api_Term_api_Term_ [.rsl 1000 none 4 0 n,I i,.sl 4 [dC t]] [.ar 4 (aL l)]=some (.osl 4 (aL (l.take i++t::l.drop i)),[.dead]):=by
 rw[xi (g:=Dm 4 64) (by kernel_rfl)];show(if 4=4/\4=4/\4=4/\n=(aL l).length/\0<=(i:Int)/\i<=(n:Int)/\(n+1)*64<=140737488355328 then some (AV.osl 4 ((aL l).take (i:Int).toNat++dC t::(aL l).drop (i:Int).toNat),[Ob.dead])else none)=_;rw[if_pos ⟨rfl,rfl,rfl,by rw[jG,hn],by omega,by omega,by omega⟩,QT];simp[aL,List.map_take,List.map_drop]
theorem EP{t}:R F.slices_Insert_api_Term_api_Term_ [.emp,I 0,.sl 4 [dC t]] []=some (.osl 4 (aL [t]),[]):=by
 rw[xi (g:=Dm 4 64) (by kernel_rfl)];rfl
theorem CT(t):nrmV [.o 5 [.o 2 [],.o 0 [],.o 2 [],.o 0 []]] (.sl 4 [dC t])=.sl 4 [dC t]:=by
 have:=EH [t];simp only[aL,List.map_cons,List.map_nil]at this;simp only[nrmV,List.headD_cons,nrmL,List.map_cons,List.map_nil,this]
theorem DQ{l}{t}{h}{d a b n i}(ha:h a=.ar 4 (aL l))(hb:h b=.ar 4 [dC t])(hab:a≠b)(_hda:2000+8*d≠a)(hdb:2000+8*d≠b)(hd:h (2000+8*d)=.dead)(hn:n=l.length)(hi:i<=n)(h2:n<=1000000):
  aM R (bA false) h d [.rsl a none 4 0 n,.v (.int .i64 i),.rsl b none 4 0 1] (.fn F.slices_Insert_api_Term_api_Term_ [] [])=
   some (.rsl (2000+8*d) none 4 0 (l.length+1),upd (upd (upd h b (.fz 4 [dC t])) a .dead) (2000+8*d) (.ar 4 (aL (l.take i++t::l.drop i))),[(a,true),(a,false)]):=by
 have hm:=dB false;have hs:=dm false;have hk:=cS false;have hf:=F5 (t:=t) hn hi h2;have hb':jY (bA false) [.rsl a none 4 0 n,.v (.int .i64 i),.rsl b none 4 0 1] (.fn F.slices_Insert_api_Term_api_Term_ [] [])=false:=by
  grind[jY]
 have h1:bU h [2,0,0] [.rsl a none 4 0 n,.v (.int .i64 i),.rsl b none 4 0 1]=some ([.rsl a none 4 0 n,.v (.int .i64 i),.sl 4 [dC t]],upd h b (.fz 4 [dC t]),[]):=by
  simp_all[bU,df,xk,eJ,aq,C3,jV,jo]
 have g1:upd h b (.fz 4 [dC t]) a=.ar 4 (aL l):=by
  simp_all[upd,if_neg]
 have g2:upd h b (.fz 4 [dC t]) (2000+8*d)=.dead:=by
  simp_all[upd,if_neg]
 have hr:fy (upd h b (.fz 4 [dC t])) 40 [a] 0=[a]:=by
  grind[fy,Bk,bV]
 have hp:bV [] ([AV.rsl a none 4 0 n,.v (.int .i64 i),.sl 4 [dC t]].flatMap bK)=[a]:=by
  simp[bK,eM,bV]
 have h3:dh [a] a=1000:=by simp[dh]
 have hnr:jt (.osl 4 (aL (l.take i++t::l.drop i)))=1:=rfl;have hlen:(aL (l.take i++t::l.drop i)).length=l.length+1:=by
  grind[jG,ad6,List.length_take,adX,List.length_drop]
 have hnm:aG [[],[],[.o 5 [.o 2 [],.o 0 [],.o 2 [],.o 0 []]]] [.rsl a none 4 0 n,.v (.int .i64 i),.sl 4 [dC t]]=[.rsl a none 4 0 n,.v (.int .i64 i),.sl 4 [dC t]]:=by
  simp only[aG,CT];rfl
 unfold aM;simp only[eN,hm,aeg,ad4,h1,QO,hp,hr,hs,hnm];simp[lB,cj,bD,g1,bo,dY,ez,jL,h3,jq,hf,jX,hnr,dZ,g2,jW,bf,qN,tC,mK,eM,eC,dL,xt,mM,mat,ge,mL,hk,pN,hm,hlen]
 simp_all[dD,if_neg,Aj]
theorem DR{h}{d}{r}{i}{b}(hR:R F.slices_BinarySearchFunc_api_Term_api_Term_Sint_ [.sl 4 [],nrmV [.o 2 []] (.sl 1 r),.fn F.poly_collector_add_1 [] []] []=some (.tup [I i,B b],[]))(h0:h (2000+8*d)=.dead)(h1:h (2000+8*d+1)=.dead):
  aM R (bA false) h d [.emp,.sl 1 r,.fn F.poly_collector_add_1 [] []] (.fn F.slices_BinarySearchFunc_api_Term_api_Term_Sint_ [] [])=some (.tup [I i,B b],h,[]):=by
 have hm:=be false;have hs:=aW false;have hk:=aQ false;have hb':jY (bA false) [.emp,.sl 1 r,.fn F.poly_collector_add_1 [] []] (.fn F.slices_BinarySearchFunc_api_Term_api_Term_Sint_ [] [])=false:=by
  grind[jY,Bl]
 have h3:bU h [3,0,0] [.emp,.sl 1 r,.fn F.poly_collector_add_1 [] []]=some ([.emp,.sl 1 r,.fn F.poly_collector_add_1 [] []],h,[]):=by
  simp[bU,df,xk,eJ,aq]
 have hp:bV [] ([AV.emp,.sl 1 r,.fn F.poly_collector_add_1 [] []].flatMap bK)=[]:=by
  simp[bK,eM,bV]
 have hnm:aG [[.o 5 [.o 2 [],.o 0 [],.o 2 [],.o 0 []]],[.o 2 []],[]] [.emp,.sl 1 r,.fn F.poly_collector_add_1 [] []]=[.sl 4 [],nrmV [.o 2 []] (.sl 1 r),.fn F.poly_collector_add_1 [] []]:=by
  rfl
 obtain⟨q,hq⟩:∃q,nrmV [.o 2 []] (.sl 1 r)=.sl 1 q:=⟨_,rfl⟩;rw[hq]at hR hnm;have hr:∀n,fy h n [] 0=[]:=fun n=>by cases n<;>rfl
 unfold aM;rw[if_neg (by grind)];simp only[eN,aeg,ad4,QO, *];simp[lB,cj,bD,ez,jL,jX,jt,dZ,dY,jW,qN,tC,mK,eC,dL,xt,mM,mat,ng,ge,mL,pN, *]
theorem CU{t}{h}{d b}(hb:h b=.ar 4 [dC t])(hdb:2000+8*d≠b)(hd:h (2000+8*d)=.dead):
  aM R (bA false) h d [.emp,.v (.int .i64 0),.rsl b none 4 0 1] (.fn F.slices_Insert_api_Term_api_Term_ [] [])=some (.rsl (2000+8*d) none 4 0 1,upd (upd h b (.fz 4 [dC t])) (2000+8*d) (.ar 4 (aL [t])),[]):=by
 have hm:=dB false;have hs:=dm false;have hk:=cS false;have hf:=EP (t:=t);have hb':jY (bA false) [.emp,.v (.int .i64 0),.rsl b none 4 0 1] (.fn F.slices_Insert_api_Term_api_Term_ [] [])=false:=by
  grind[jY]
 have h1:bU h [2,0,0] [.emp,.v (.int .i64 0),.rsl b none 4 0 1]=some ([.emp,.v (.int .i64 0),.sl 4 [dC t]],upd h b (.fz 4 [dC t]),[]):=by
  simp[bU,df,xk,eJ,aq,hb,jV,jo]
 have g2:upd h b (.fz 4 [dC t]) (2000+8*d)=.dead:=by
  simp_all[upd,if_neg]
 have hp:bV [] ([AV.emp,.v (.int .i64 0),.sl 4 [dC t]].flatMap bK)=[]:=by
  simp[bK,eM,bV]
 have hnr:jt (.osl 4 (aL [t]))=1:=rfl;have hnm:aG [[],[],[.o 5 [.o 2 [],.o 0 [],.o 2 [],.o 0 []]]] [.emp,.v (.int .i64 0),.sl 4 [dC t]]=[.emp,.v (.int .i64 0),.sl 4 [dC t]]:=by
  simp only[aG,CT];rfl
 have hr:∀h n,fy h n [] 0=[]:=fun h n=>by cases n<;>rfl
 have hlen:(aL [t]).length=1:=rfl;unfold aM;simp only[eN,aeg,ad4,QO, *];simp[lB,cj,bD,ez,jL,jX,dZ,dY,jW,qN,tC,mK,eM,eC,dL,xt,mM,mat,ge,mL,pN, *]
 simp_all[dD,if_neg]
def P8(x:List Int):Prop:=R F.slices_Clone_int_int_ [.sl 1 (ce x)] []=some (.osl 1 (ce x),[])\/R F.slices_Clone_int_int_ [.sl 1 (ce x)] []=some (.sl 1 (ce x),[])
theorem CV:∀ {x},x.length<=100000->P8 x
 |[],_=>.inr CR
 |x::l,h=>.inl (CS (by grind))
theorem zj{v v'}{l}{t}(c:Cl v l)(vt:VT v t)(hl:l.length<=1000000)(hf:qJ l t.exps=false):
  R F.poly_collector_add [.ref 1000 none 0 0 0,.sl 1 (ce t.exps),av t.c] [t3 v' (.osl 4 (aL l)) 0]=some (.tup [],[t3 v' (.osl 4 (aL (l.take (au l t.exps)++t::l.drop (au l t.exps)))) 0]):=by
 refine tr ap.2.1 ap.2.2 (ap.1.2.2.2 false) rfl ?_;have hbs:=Cc c vt.sm vt.len hl;rw[hf]at hbs;have hcp:=u9 vt.nz (QU (qH vt.vc vt.c.lb) (by decide));simp only[av,aJ]at hcp;have k1:(ce t.exps).take t.exps.length=ce t.exps:=aed (by simp_all[uF,QK]);have hlen:(l.take (au l t.exps)++t::l.drop (au l t.exps)).length=l.length+1:=by
  grind
 have hp:=uJ l t.exps;simp only[aZ,bZ,t3,av,aJ,go_sem,QH,QG];rw[AM rfl rfl (jG l).symm ⟨_,rfl⟩];rcases CV vt.ok.len with hcv|hcv
 all_goals
  simp only[go_sem,QH,QG,QJ,QM,QP,hbs,rk,hcv,hcp,QN,QK,k1];rw[DQ rfl rfl (by decide) (by decide) (by decide) rfl rfl hp hl];generalize l.take (au l t.exps)++t::l.drop (au l t.exps)=L at hlen⊢;simp only[go_sem,QH,QG,QJ,QP];rw[if_pos (by rfl),pj rfl (by rw[jG,hlen]) rfl (by decide) (aea (by decide) (QK 3))];simp only[go_sem];exact oA (.inl rfl) rfl
theorem DS{v'}{v}{t}(vt:VT v t):
  R F.poly_collector_add [.ref 1000 none 0 0 0,.sl 1 (ce t.exps),av t.c] [t3 v' .emp 0]=some (.tup [],[t3 v' (.osl 4 (aL [t])) 0]):=by
 refine tr ap.2.1 ap.2.2 (ap.1.2.2.2 false) rfl ?_;have hbs:=Cc (l:=[]) (Cl.nil v) vt.sm vt.len (aei _);rw[show au [] t.exps=0 from rfl,show qJ [] t.exps=false from rfl,aek]at hbs;have hcp:=u9 vt.nz (QU (qH vt.vc vt.c.lb) (by decide));simp only[av,aJ]at hcp;have k1:(ce t.exps).take t.exps.length=ce t.exps:=aed (by simp_all[uF,QK]);have k2:nrmV [.o 2 []] (.sl 1 (ce t.exps))=.sl 1 (ce t.exps):=by
  simp only[go_sem]
 simp only[aZ,bZ,t3,av,aJ,go_sem,QH,QG];rw[DR (by rw[k2];exact hbs) rfl rfl];rcases CV vt.ok.len with hcv|hcv
 all_goals
  simp only[go_sem,QH,QG,QJ,QM,hcv,hcp,QN,QK,k1];rw[CU rfl (by decide) rfl];simp only[go_sem,QH,QG,QJ];rw[if_pos (by rfl),pj rfl (show 1=(aL [t]).length from rfl) rfl (by decide) (aea (by decide) (QK 3))];simp only[go_sem];exact oA (.inl rfl) rfl
theorem Wl{n:Nat}(h:n<18446744073709551616):R F.strconv_FormatUint [W n,I 10] []=some (tx (decDigits n),[]):=by
 rw[xi (g:=D9 PU) (by kernel_rfl)];have h1:(0<=(n:Int)/\(n:Int)<18446744073709551616):=⟨by omega,by omega⟩;simp only[D9,Cy,ad5,PU,if_pos h1,QT]
theorem X3{n:Int}(h0:-9223372036854775808<=n)(h1:n<=9223372036854775807):R F.strconv_Itoa [I n] []=some (tx (itoa n),[]):=by
 rw[xi (g:=D9 PT) (by kernel_rfl)];simp only[D9,Cy,ad5,PT,if_pos (show _/\_ from⟨h0,h1⟩)]
theorem ach{c:Nat}{x:UInt8}:repeatL [x] c=QI c x:=by
 induction c with
 |zero=>rfl
 |succ c ih=>rw[repeatL,ih,List.replicate_succ];rfl
theorem aao{c:Nat}{p}(h:c<=1000):R F.strings_Repeat [tx [bt 48 p],I c] []=some (tx (QI c 48),[]):=by
 rw[xi (g:=D9 PV) (by kernel_rfl),Zb];have h1:(0<=(c:Int)/\(c:Int)<=1000/\(ByteArray.mk [UInt8.ofNat 48].toArray).size<=1000):=⟨by omega,by omega,by decide⟩;simp only[D9,Cy,ad5,PV,if_pos h1,QT,ach];rfl
theorem X4:∀l:List (List UInt8),FL (JC l)=some (l.map fun r=>⟨r.toArray⟩)
 |[]=>rfl
 |r::l=>by
  have:=X4 l;simp only[JC,List.map_cons,FL]at this⊢;rw[this];rfl
theorem Uh:∀l:List (List UInt8),joinTail [] l=l.flatten
 |[]=>rfl
 |r::l=>by
  have:=Uh l;unfold joinTail at this⊢;simp only[List.map_cons,List.flatten_cons,aeg]at this⊢;rw[this]
theorem aap(l:List (List UInt8)):join l []=l.flatten:=by
 cases l with
 |nil=>rfl
 |cons r l=>rw[join_cons,Uh,List.flatten_cons]
theorem aci{l:List (List UInt8)}(h0:l≠[])(h:l.length<=1000)(h2:l.flatten.length<=140737488355328):R F.strings_Join [.sl 1 (JC l),tx []] []=some (tx l.flatten,[]):=by
 rw[xi (g:=PS PX) (by kernel_rfl)];have hs:=X4 l;have hj:PX (l.map fun r=>ByteArray.mk r.toArray) ⟨#[]⟩=l.flatten:=by
  unfold PX;rw[←aap];congr 1;rw[List.map_map];exact(aef fun r _=>rfl).trans (List.map_id _)
 obtain⟨r,l',rfl⟩:∃r l',l=r::l':=by
  cases l with
  |nil=>exact absurd rfl h0
  |cons r l=>exact⟨r,l,rfl⟩
 simp only[JC,List.map_cons]at hs⊢;unfold PS;simp only[hs,QO];simp only[List.map_cons]at hj;rw[hj,if_pos ⟨by simpa using h,h2⟩]
theorem VB{m:List (List UInt8)}{i:Nat}{x:List UInt8}:(JC m).set i [tx x]=JC (m.set i x):=by
 simp[JC,List.map_set]
theorem Zm{m:List (List UInt8)}{i:Nat}{x:List UInt8}(h:m[i]?=some x):(JC m)[i]?=some [tx x]:=by
 simp[JC,h]
def X5(l m:List (List UInt8))(i:Nat):Prop:=m.length=l.length/\∀k,k<l.length->m[k]?=if k<i\/l.length<=k+i then l[l.length-1-k]? else l[k]?
theorem ac9{l m:List (List UInt8)}{i:Nat}{x y:List UInt8}(h:X5 l m i)(hi:2*i+1<l.length)(hx:m[i]?=some x)(hy:m[l.length-1-i]?=some y):X5 l ((m.set i y).set (l.length-1-i) x) (i+1):=by
 obtain⟨h1,h2⟩:=h;refine⟨by simp[h1],fun k hk=>?_⟩;have hx2:=h2 i (by omega);rw[hx,if_neg (by omega)]at hx2;have hy2:=h2 (l.length-1-i) (by omega);rw[hy,if_neg (by omega)]at hy2;rw[List.getElem?_set,List.getElem?_set];by_cases a1:l.length-1-i=k
 ·rw[if_pos a1,if_pos (by simp[h1];omega),if_pos (Or.inr (by omega)),hx2];congr 1;omega
 ·rw[if_neg a1];by_cases a2:i=k
  ·rw[if_pos a2,if_pos (by omega),if_pos (Or.inl (by omega)),hy2];congr 1;omega
  ·rw[if_neg a2,h2 k hk];by_cases a3:k<i\/l.length<=k+i
   ·rw[if_pos a3,if_pos (by omega)]
   ·rw[if_neg a3,if_neg (by omega)]
theorem acj{l m:List (List UInt8)}{i:Nat}(h:X5 l m i)(hi:l.length<=2*i+1):m=l.reverse:=by
 obtain⟨h1,h2⟩:=h;apply List.ext_getElem?;intro k;by_cases hk:k<l.length
 ·rw[h2 k hk,List.getElem?_reverse hk];by_cases a3:k<i\/l.length<=k+i
  ·rw[if_pos a3]
  ·rw[if_neg a3];congr 1;omega
 ·rw[List.getElem?_eq_none (by omega),List.getElem?_eq_none (by simp;omega)]
theorem ada{l:List (List UInt8)}:X5 l l 0:=⟨rfl,fun k hk=>by rw[if_neg (by omega)]⟩
theorem abo{l:List (List UInt8)}(hl:l.length<=1000000):∀ (d i:Nat) (m:List (List UInt8)),l.length<=2*i+1+2*d->2*i<=l.length+1->X5 l m i->∀ (S:ah) (h:ac),S 0=.rsl 1000 none 1 0 l.length->S 2=I i->S 3=I (l.length-1-i)->h 1000=.ar 1 (JC m)->
  ∃hh,aC 0 [] (bX (aj R (bA false) iK) [0,2,3] [1000] S h)=some (.normal,⟨fun _=>.any,hh⟩)/\hh 1000=.ar 1 (JC l.reverse):=by
 have stop:∀ (i:Nat) (m:List (List UInt8)),l.length<=2*i+1->X5 l m i->∀ (S:ah) (h:ac),S 0=.rsl 1000 none 1 0 l.length->S 2=I i->S 3=I (l.length-1-i)->h 1000=.ar 1 (JC m)->
   ∃hh,aC 0 [] (bX (aj R (bA false) iK) [0,2,3] [1000] S h)=some (.normal,⟨fun _=>.any,hh⟩)/\hh 1000=.ar 1 (JC l.reverse):=fun i m hi hr S h g0 g2 g3 k1000=>by
  have e1:((i:Int)< (l.length:Int)-1-i)=False:=ff (by omega);rw[acj hr hi]at k1000;rw[aD];simp only[iK,go_sem,QH,QG,QJ,QM,QP,adT,adU,adS,decide_false,decide_true,ne_eq,not_false_eq_true,g0,g2,g3,k1000,e1];refine⟨_,rfl,?_⟩
  simp_all[QY,if_false]
 intro d;induction d with
 |zero=>
  intro i m h1 h2 hr S h g0 g2 g3 k1000;exact stop i m (by omega) hr S h g0 g2 g3 k1000
 |succ d ih=>
  intro i m h1 h2 hr S h g0 g2 g3 k1000;by_cases hs:l.length<=2*i+1
  ·exact stop i m hs hr S h g0 g2 g3 k1000
  have e1:((i:Int)< (l.length:Int)-1-i)=True:=tt (by omega);have hml:=hr.1;obtain⟨x,hx⟩:∃x,m[i]?=some x:=⟨_,adW (by omega)⟩;obtain⟨y,hy⟩:∃y,m[l.length-1-i]?=some y:=⟨_,adW (by omega)⟩;have hr':=ac9 hr (by omega) hx hy;have ih':=ih (i+1) _ (by omega) (by omega) hr';have ej:((l.length:Int)-1-i)=((l.length-1-i:Nat):Int):=by omega
  have g1:=Zm hx;have g4:=Zm hy;have e3:IntKind.i64.wrap ((i:Int)+1)=((i+1:Nat):Int):=wi (by omega) (by omega);have e4:IntKind.i64.wrap (((l.length-1-i:Nat):Int)-1)=(l.length:Int)-1- ((i+1:Nat):Int):=by
   rw[i64_in _ ⟨by omega,by omega⟩];omega
  rw[ej]at g3 e1;have c1:(0<=(i:Int))=True:=tt (by omega);have c2:((i:Int)< (l.length:Int))=True:=tt (by omega);have c3:(0<=((l.length-1-i:Nat):Int))=True:=tt (by omega);have c4:(((l.length-1-i:Nat):Int)< (l.length:Int))=True:=tt (by omega);have hmm:m.length=l.length:=hml;generalize hJ:l.length-1-i=J at*
  have g5:((JC m).set i [tx y])[J]?=some [tx y]:=by
   rw[VB];refine Zm ?_;rw[List.getElem?_set_ne (by omega),hy]
  have e8:((JC m).set i [tx y]).set J [tx x]=JC ((m.set i y).set J x):=by rw[VB,VB]
  rw[aD];generalize bX _ _ _=L at ih'⊢;simp only[tx]at g1 g4 g5 e8;simp only[iK,go_sem,QH,QG,QJ,QM,QP,adT,adU,adS,decide_false,decide_true,ne_eq,not_false_eq_true,g0,g2,g3,k1000,e1,e3,e4,c1,c2,c3,c4,g1,g4,g5,e8,QT,QN];refine ih' _ _ ?_ ?_ ?_ ?_<;>rfl
theorem acO{ks:List Nat}{l:List (List UInt8)}:bo ks (.ar 1 (JC l))=true:=by
 simp[bo,JC,bD]
theorem acP{hh:ac}{l:List (List UInt8)}(h:hh 1000=.ar 1 (JC l)):pT [] 1 hh []=some (.tup [],[.ar 1 (JC l)]):=by
 simp[pT,oC,h,acO,kN,mP,oG,aG]
theorem Zn{l:List (List UInt8)}(hl:l.length<=1000000):R F.slices_Reverse_string_string_ [.rsl 1000 none 1 0 l.length] [.ar 1 (JC l)]=some (.tup [],[.ar 1 (JC l.reverse)]):=by
 refine tr R8 R7 (Rn false) rfl ?_;have hX0:∀ (S:ah) (h:ac) (X:Option (Ex×St)),aC 0 [] (bX (aj R (bA false) iK) [0,2,3] [1000] S h)=X->S 0=.rsl 1000 none 1 0 l.length->S 2=I 0->S 3=I (l.length-1)->h 1000=.ar 1 (JC l)->
   ∃hh,X=some (.normal,⟨fun _=>.any,hh⟩)/\hh 1000=.ar 1 (JC l.reverse):=fun S h X hX g0 g2 g3 k=>by
  rw[←hX];exact abo hl l.length 0 l (by omega) (by omega) ada S h g0 g2 (by rw[g3];simp) k
 have e3:IntKind.i64.wrap ((l.length:Int)-1)=(l.length:Int)-1:=i64_in _ ⟨by omega,by omega⟩;simp only[jA,jJ,go_sem,QH,QG,QJ,QM,QP,adT,adU,adS,decide_false,decide_true,ne_eq,not_false_eq_true,e3];generalize hX:aC 0 _ _=X;obtain⟨hh,rfl,q11⟩:=hX0 _ _ _ hX rfl rfl rfl rfl;simp only[go_sem,QH,QG,QJ,QM,QP,adT,adU,adS,decide_false,decide_true,ne_eq,not_false_eq_true,acP q11]
end Go.Ab
