/-
  A law of tapes on models holds at every input that the statement speaks of, under the conditions that its card names. Part D1.
-/
import Derived.IntWalk
import Derived.Test.YtighajjmobfadaaGreatDoorC1
open Nat renaming add_mul → aC8, add_zero → aDm, div_add_mod → aDC, le_refl → aCJ, le_trans → aCP, lt_of_le_of_lt → aDe, lt_of_lt_of_le → aDF, min_eq_left → aDx, mod_eq_of_lt → aDq, mod_lt → aDj, mul_assoc → aC9, mul_comm → aC6, mul_le_mul_left → aDD, mul_le_mul_right → aCS, pow_add → aCU, pow_le_pow_right → aDn, pow_succ → aDw, reduceSub → aDi, two_pow_pos → aC1, zero_add → aCI, zero_le → aC7
open Int renaming eq_ofNat_of_zero_le → aDG, lt_irrefl → aDl, natCast_zero → aDf, reduceEq → aCZ, reduceLE → aC2, reduceLT → aCV, reduceToNat → aDg, toNat_natCast → aCQ
open Bool renaming and_eq_true → aCK, and_false → aDH, false_and → aCO, false_eq_true → aDy, false_ne_true → aCR, true_and → aCM
open List renaming all_cons → aDb, append_assoc → aDr, append_nil → aCY, cons_append → aDd, drop_eq_getElem_cons → aC4, drop_eq_nil_of_le → aC3, drop_zero → aDI, getElem_mem → aC0, length_cons → aDp, length_nil → aDs, length_replicate → aDK, length_take → aCW, map_congr_left → aDk, map_id' → aDu, mem_map → aDz, nil_append → aCT, replicate → aCG, take_of_length_le → aCX
open Option renaming bind_some → aCN, map_some → aDt
set_option linter.all false
namespace Go.Ab
open Go Go.IntWalk
set_option maxRecDepth 4000
set_option maxHeartbeats 1000000
variable{M N n q y:Nat}{an more neg:Bool}{e f i j p u:Int}{fD fU:FuncId}{l:List Int}{m:List Nat}
def aE(m:List Nat):List (List AV):=m.map fun(x:Nat)=>[U x]
def lm(m:List Nat):AV:=.sl 1 (aE m)
theorem EY(m):(aE m).length=m.length:=by simp[aE]
theorem F8(l:List (List AV)):l.map (eP [])=l:=(aDk (g:=fun c=>c) fun c _=>Xu c).trans (aDu _)
theorem axA(hs m):iQ hs (lm m)=lm m:=θ _
theorem avF(hs m):knownL hs (lm m)=true:=θ _
theorem atu(hs m):hF hs (lm m)=true:=θ _
theorem aBU(ks m):wt ks (lm m)=lm m:=θ _
theorem az6(ks m):tW ks (lm m)=false:=θ _
theorem az7(ks m):Hs ks (lm m)=false:=θ _
theorem aBV(m):sF false (lm m)=some (I m.length):=by simp[lm,sF,aE]
theorem az8(m k i):zH 1 (lm m) (.v (.int k i))=aZ (aE m) i:=by simp[lm,zH]
theorem amW(k ss m):nrmV (.o (k+1) []::ss) (lm m)=lm m:=by simp[lm,nrmV,nrmL,F8]
theorem axB(k cs ss m):nrmV (.o (k+1) [.o 0 cs]::ss) (lm m)=lm m:=by
 simp_all[aE,eP,aDk,aDu,nrmL,lm,nrmV]
theorem az9(k m):nrmL (.o (k+1) []) (lm m)=lm m:=by simp[lm,nrmL,F8]
theorem aAa(h m):uj h (lm m)=some (lm m):=θ _
theorem axC(h m l):oF h (lm m::l)=(oF h l).bind fun q=>some (lm m::q):=θ _
theorem aAb(m):cH (lm m)=[]:=θ _
theorem aAc(m):gL (lm m)=[]:=θ _
theorem aBW(m):dat (lm m)=true:=θ _
theorem aAd(m):aJ (lm m)=true:=θ _
theorem axD(m):bE (lm m)=false:=θ _
theorem axE(m):jH (lm m)=some [lm m]:=θ _
theorem aAe(h m):gW h (lm m)=some (lm m,h,[]):=θ _
theorem axF(h m):ef h 0 (lm m)=some (lm m,h,[]):=θ _
theorem axG(id p m):Du id p (lm m)=lm m:=θ _
theorem axH(h d m):mY h d (some (lm m,[]))=if cr h (2000+8*d) 1=true then some (lm m,h,[])else none:=ajU h d 1 (aE m)
theorem aBX(m):AV.sl 1 (aE m)=lm m:=θ _
theorem axI(p)(a):mF (List.filter p [a])=true:=by
 simp only[List.filter];split<;>rfl
theorem MJ(m):(aE m).length=m.length:=by simp[aE]
theorem ap5:AV.sl 1 []=lm []:=θ _
theorem avG(cs ss):nrmV (.o 2 cs::ss) .emp=lm []:=by simp[nrmV,nrmL,lm,aE]
theorem avH(cs):nrmL (.o 2 cs) .emp=lm []:=by simp[nrmL,lm,aE]
theorem aAf(k ss m):nrmV (.o (k+1) []::ss) (.sl 1 (aE m))=lm m:=amW k ss m
theorem axJ(k ss m):nrmV (.o (k+1) []::ss) (.osl 1 (aE m))=lm m:=by simp[lm,nrmV,nrmL,F8]
theorem bI{m}(hi:i=n)(h:n<m.length):aZ (aE m) i=some (.ipt [U (m.getD n 0)]):=by
 grind[aZ,aE]
theorem jY{m}{n}(h:n<m.length):(aE m)[n]?=some [U (m.getD n 0)]:=by
 grind[aE]
theorem Yd(m)(n):(aE m).take n=aE (m.take n):=by simp[aE,List.map_take]
theorem aj3(m)(n):(aE m).drop n=aE (m.drop n):=by simp[aE,List.map_drop]
theorem EZ(m l):aE m++aE l=aE (m++l):=by simp[aE]
theorem ns(m)(n x):(aE m).set n [U (x:Nat)]=aE (m.set n x):=by simp[aE,List.map_set]
theorem A9(n):aCG n [AV.v (.int .u32 0)]=aE (aCG n 0):=by simp[aE]
theorem Lx{m}{lo hi}{a b}(hlo:lG 0 b lo=some a)(hhi:lG m.length m.length hi=some b)(_hb:b<=m.length):fA 1 (lm m) lo hi none=some (lm ((m.drop a).take (b-a))):=by
 simp_all[lm,fA,lP,EY,if_true,aCN,aDt,KG,aDy,if_false,Yd,aj3]
theorem O8(d n):lG d n none=some d:=θ _
theorem xr{d n}{k}{a:Nat}(hi:i=a)(h:a<=n):lG d n (some (.v (.int k i)))=some a:=by
 grind[lG]
theorem aeI{f}{fd}{args}{r}(hE:cW.E f=none)(hC:cW.C f=some fd)(hk:cW.md.keep f=false)(h1:args.length=fd.np)
  (hz:kj false fd.rs fd.res 0 (am R (az false) fd.body (wk args) (fun _=>.dead))=some r):R f args []=some r:=by
 simp_all[Qy,aC7,aeg]
theorem au{f:FuncId}{l:List (List Sh)}{fd:FD}{args:List AV}{r:AV×List Ob}(q:QE f l fd)(h1:args.length=fd.np)
  (hz:kj false fd.rs fd.res 0 (am R (az false) fd.body (wk args) (fun _=>.dead))=some r):R f args []=some r:=aeI q.2.1 q.2.2 (q.1.2.2.2 false) h1 hz
noncomputable def l7 (k:Nat) (g:Bool):Cmd:=.seq (.ops [0,1,7,8,9] [co 9 (.bin .lss (.t 8) (.t 7))]) (.seq (.cond (.t 9) (.skip) (.exit 0)) (.seq (.block 1 [0,1,7,8] (.seq (.ops [0,1,5,7,8] [cm 10 8,cm 5 10]) (.seq (.ops [0,1,5,7,8,16] [cm 11 1,cm 12 0,cm 13 5,co 14 (.iadrS k (.t 12) (.t 13)),⟨(some 15),none,.load k g (.t 14)⟩,⟨(some 16),none,.call (.t 11) [(.t 15)]⟩]) (.cond (.t 16) (.seq (.ops [4] [cm 17 5,cm 4 17]) (.ret)) (.skip))))) (.ops [0,1,7,8] [co 18 (.bin .add (.t 8) (.c (.v (.int .i64 1)))),cm 8 18])))
noncomputable def jZ:Cmd:=.seq (.ops [4] [co 4 (.mv (.c (.v (.int .i64 (-1)))))]) (.ret)
def uH{α:Type}(p:α->Bool):List α->Nat->Int
 |[],_=>-1
 |r::rs,n=>if p r=true then n else uH p rs (n+1)
theorem Jx{α}(p):∀ (l:List α) n,decide (0<=uH p l n)=l.any p
 |[],n=>rfl
 |r::rs,n=>by
  simp only[uH,List.any_cons];by_cases h:p r=true
  ·simp[h]
  ·simp[h,Jx p rs (n+1)]
attribute [go_sem] F8 axA avF atu aBU az6 az7 aBV az8 amW axB az9 aAa axC aAb aAc aBW aAd axD axE aAe axF axG axH aBX axI MJ ap5 avG avH aAf axJ
theorem aj4{k}{g}{f}{rows}{p}{hs}(hhs:hs=[]\/hs=[1000])(hm:(az false).m f=[])(hl:rows.length<4611686018427387904)
  (hf:∀row∈rows,∃a,mr k g row 0=some a/\dat a=true/\R f (bA ((az false).sh f) [a]) []=some (B (p row),[])):∀rest (n:Nat),rows.drop n=rest->n<=rows.length->
  ∀s h,s 0=.sl k rows->s 1=.fn f [] []->s 7=I rows.length->s 8=I n->h 1000=.dead->
   ∃hh,cF (ak 0 [] (av (am R (az false) (l7 k g)) [0,1,7,8] hs s h)) (am R (az false) jZ)=some (.ret,⟨upd bk 4 (I (uH p rest n)),hh⟩):=by
 intro rest;induction rest with
 |nil=>
  intro n hd hn s h h0 h1 h7 h8 h9;have e:n=rows.length:=by
   have:=congrArg List.length hd;grind
  subst e;rw[ah];rcases hhs with rfl|rfl<;>exact⟨_,by simp only[l7,jZ,go_sem,h0,h1,h7,h8,h9,aDl,uH];rfl⟩
 |cons r rest ih=>
  intro n hd hn s h h0 h1 h7 h8 h9;have hlt:n<rows.length:=by
   grind
  have hr:rows[n]?=some r:=by
   have:=congrArg (·[0]?) hd;grind
  obtain⟨a,ha,hda,hc⟩:=hf r (List.mem_of_getElem? hr);have ih':=ih (n+1) (by rw[←List.drop_drop,hd];rfl) hlt;have e1:(n< (rows.length:Int))=True:=eq_true ω;have e2:aZ rows n=some (.ipt r):=by grind[aZ]
  have e3:aG (n+1)=(n+1:Nat):=by grind[i64_in]
  rw[ah];generalize av _ _ _=L at ih'⊢;rcases hhs with rfl|rfl
  all_goals
   simp only[l7,go_sem,h0,h1,h7,h8,h9,e1,e2,ha,DR _ hm,hda,hc,uH];cases hp:p r with
   |true=>exact⟨_,by simp only[go_sem];rfl⟩
   |false=>
    simp only[go_sem,e3,aCR];exact ih' _ _ rfl rfl rfl rfl rfl
theorem Ye{fi}{fd}{k}{g}{hs}(hE:cW.E fi=none)(hC:cW.C fi=some fd)(hk:cW.md.keep fi=false)
  (hfd:fd=⟨2,[[]],[.t 4],.seq (.ops [0,1] [co 4 (.mv (.c (.v (.int .i64 0))))]) (.seq (.seq (.ops [0,1,7,8] [cm 6 0,co 7 (.len false (.t 6)),co 8 (.mv (.c (.v (.int .i64 0))))]) (.block 0 [] (.loop [0,1,7,8] hs (l7 k g)))) jZ)⟩)
  {f} {rows} {p} (hm:(az false).m f=[]) (hl:rows.length<4611686018427387904)
  (hf:∀row∈rows,∃a,mr k g row 0=some a/\dat a=true/\R f (bA ((az false).sh f) [a]) []=some (B (p row),[])) (hhs:hs=[]\/hs=[1000]:=by simp):R fi [.sl k rows,.fn f [] []] []=some (I (uH p rows 0),[]):=by
 subst hfd;refine aeI hE hC hk rfl ?_;have hL:=aj4 (k:=k) (g:=g) hhs hm hl hf rows 0 rfl (aC7 _);simp only[go_sem,aef];have hL2:∀S H X,cF (ak 0 [] (av (am R (az false) (l7 k g)) [0,1,7,8] hs S H)) (am R (az false) jZ)=X->S 0=.sl k rows->S 1=.fn f [] []->S 7=I rows.length->S 8=I 0->H 1000=.dead->
   ∃hh,X=some (.ret,⟨upd bk 4 (I (uH p rows 0)),hh⟩):=fun S H X hX a b c d e=>by
  rw[←hX];exact hL S H a b c d e
 generalize hX:cF (ak 0 [] (av _ _ hs _ _)) (am R (az false) jZ)=X;obtain⟨hh,e⟩:=hL2 _ _ _ hX rfl rfl rfl rfl rfl;rw[e];simp only[go_sem]
noncomputable def Ly (fi:FuncId):FD:=⟨2,[[]],[.t 4],.seq (.ops [0,1] [co 4 (.mv (.c (.v (.bool false))))]) (.seq (.ops [4] [cm 5 0,cm 6 1,⟨(some 7),none,.call (.c (.fn fi [] [])) [(.t 5),(.t 6)]⟩,co 8 (.bin .geq (.t 7) (.c (.v (.int .i64 0)))),cm 4 8]) (.ret))⟩
theorem SN{ci fi}{fd}{k}(hE:cW.E ci=none)(hC:cW.C ci=some fd)(hk:cW.md.keep ci=false)(hfd:fd=Ly fi)(hm:(az false).m fi=[]){cs}(hsh:(az false).sh fi=[[.o (k+1) cs],[]])
  {rows} {f} {p} (hr:rows.map (eP cs)=rows) (h:R fi [.sl k rows,.fn f [] []] []=some (I (uH p rows 0),[])):R ci [.sl k rows,.fn f [] []] []=some (B (rows.any p),[]):=by
 subst hfd;refine aeI hE hC hk rfl ?_;simp only[Ly,go_sem,DR _ hm,hsh,hr,h,ajS,Jx]
theorem dG(h:i=n)(hn:n<18446744073709551616):IntKind.u64.wrap i=n:=by rw[u64_in]<;>omega
theorem CG(h:i=n)(hn:n<4294967296):IntKind.u32.wrap i=n:=by rw[u32_in]<;>omega
theorem wi(h:i=n:=by omega)(hn:n<9223372036854775808:=by omega):IntKind.i64.wrap i=n:=by rw[i64_in]<;>omega
theorem Jy(h:i=n):IntKind.u32.wrap i=(n%4294967296:Nat):=by grind[IntKind.wrap_u32]
theorem qE{k:Nat}{kk}(h:i=n)(hj:j=k)(hk:k<=64):eX .shr (.v (.int .u64 i)) (.v (.int kk j))=some (.v (.int .u64 (n/2^k:Nat))):=by
 simp_all[H1,if_neg,IntKind.bits,Option.some.injEq,AV.v.injEq,Value.int.injEq,true_and,Int.fdiv_eq_ediv_of_nonneg,Int.pow_nonneg]
theorem O9{x c:Nat}(hx:x<4294967296)(hy:y<4294967296)(hc:c<=1):R fag [U x,U y,U c] []=some (.tup [U (((x+y+c) %4294967296:Nat)),U (((x+y+c)/4294967296:Nat))],[]):=by
 refine au X9 rfl ?_;have e1:IntKind.u64.wrap x=x:=dG rfl ω;have e2:IntKind.u64.wrap y=y:=dG rfl ω;have e3:IntKind.u64.wrap c=c:=dG rfl ω;have e4:IntKind.u64.wrap (x+y)=(x+y:Nat):=dG ω ω;have e5:IntKind.u64.wrap ((x+y:Nat)+c)=(x+y+c:Nat):=dG ω ω;have e6:IntKind.u32.wrap (x+y+c:Nat)=((x+y+c) %4294967296:Nat):=Jy rfl;have e7:=qE (n:=x+y+c) (k:=32) (kk:=.u64) (j:=32) rfl rfl ω;have e8:IntKind.u32.wrap ((x+y+c)/2^32:Nat)=((x+y+c)/4294967296:Nat):=CG rfl ω;simp only[Es,go_sem,e1,e2,e3,e4,e5,e6,e7,e8]
theorem amX{k}{n}(h:n≠0):KG (some (.v (.int k n)))=false:=by
 simp_all[KG,absurd]
theorem amY{m}(h:m.length≠0):fA 1 (lm m) none (some (I m.length)) (some (I m.length))=some (lm m):=by
 have hz:KG (some (I m.length))=false:=amX ω;have h1:lG m.length m.length (some (I m.length))=some m.length:=xr rfl (aCJ _)
 simp_all[fA,lm,EY,lP,O8,if_true,aCN,aDt,aDy,if_false,aDI,Nat.sub_zero,Yd,List.take_length]
theorem SO(m):R fd7 [lm m] []=some (lm m,[]):=by
 refine au C4 rfl ?_;by_cases h:m.length=0
 ·have:=List.length_eq_zero_iff.1 h;subst this;rfl
 ·simp only[lA,go_sem,amY h]
theorem Uu(m)(h2:m.length<4611686018427387904):∀ (n:Nat),n<=m.length->∀s h,s 0=lm m->s 3=I n->
  ak 0 [0,3] (av (am R (az false) nS) [0,3] [] s h)=some (.normal,⟨upd (upd bk 3 (I (oV m n))) 0 (lm m),fun _=>.dead⟩):=by
 intro n;induction n with
 |zero=>
  intro h1 s h h3 h4;rw[ah];simp only[nS,go_sem,h3,h4,oV,aDf,aDl]
 |succ n ih=>
  intro h1 s h h3 h4;have hn:=h1;have e3:aG (n+1-1)=n:=wi ω ω;have e1:=bI rfl hn;have e2:(0< (n:Int)+1)=True:=eq_true ω;have ih':=ih ω;rw[ah];by_cases hz:m.getD n 0=0
  ·simp only[nS,go_sem,h3,h4,oV,Int.natCast_add,Int.natCast_one,e3,e1,e2,hz,aDf];exact ih' _ _ rfl rfl
  ·simp only[nS,go_sem,h3,h4,oV,Int.natCast_add,Int.natCast_one,e3,e1,e2,hz,Int.natCast_eq_zero]
theorem dZ{m}(hb:Lb m)(h:m.length<4611686018427387904):R fcP [lm m] []=some (lm (aA (ab m)),[]):=by
 refine au SF rfl ?_;have h1:fA 1 (lm m) none (some (I (oV m m.length))) none=some (lm (aA (ab m))):=by
  rw[Lx (a:=0) (b:=oV m m.length) rfl (xr rfl (FX _ _)) (FX _ _),aDI,Nat.sub_zero,OE hb]
 simp only[B6,H7,go_sem,Uu m h m.length (aCJ _),h1]
def llm(l:List (List Nat)):AV:=.sl 1 (l.map fun m=>[lm m])
theorem amZ(l:List (List Nat))(cs):(l.map fun m=>[lm m]).map (eP [.o 2 cs])=l.map fun m=>[nrmL (.o 2 cs) (lm m)]:=by
 simp[List.map_map,eP]
theorem agM(m):R fcG [lm m] []=some (B (decide (256<m.length)),[]):=by
 refine au F5 rfl ?_;have e:decide (256< (m.length:Int))=decide (256<m.length):=γ
 simp only[zi,go_sem,e]
theorem abF{l}(hl:l.length<4611686018427387904):R fcF [llm l] []=some (B (l.any fun m=>decide (256<m.length)),[]):=by
 refine au SD rfl ?_
 let p:List AV->Bool:=fun row=>match row with|[.sl _ rows]=>decide (256<rows.length)|_=>false
 have hp:∀m,p [lm m]=decide (256<m.length):=fun m=>by grind[lm,EY]
 have hn:(l.map fun m=>[lm m]).map (eP [.o 2 []])=l.map fun m=>[lm m]:=by
  rw[amZ];simp only[go_sem]
 have h1:=Ye (k:=1) (g:=false) (f:=fcG) (rows:=l.map fun m=>[lm m]) (p:=p) dF.2.1 dF.2.2 (dF.1.2.2.2 false) rfl (F5.1.2.1 false) γ (fun row hr=>by
  simp only[aDz]at hr;obtain⟨m,hm,rfl⟩:=hr;refine⟨lm m,rfl,rfl,?_⟩;simp only[go_sem,agM,hp])
 have h2:=SN (k:=1) eA.2.1 eA.2.2 (eA.1.2.2.2 false) rfl (dF.1.2.1 false) (dF.1.1 false) hn h1;have h3:(l.map fun m=>[lm m]).any p=l.any fun m=>decide (256<m.length):=by
  rw[List.any_map];congr 1;funext m
  simp_all
 rw[h3]at h2;simp only[B5,llm,go_sem,DR _ (eA.1.2.1 false),hn,h2]
theorem tt{p}(h:p:=by omega):p=True:=eq_true h
theorem ff{p}(h:¬p:=by omega):p=False:=eq_false h
theorem uI(a):R fcF [.sl 1 [[lm a]]] []=some (B (decide (256<a.length)),[]):=by
 have:=abF (l:=[a]) σ;grind[llm]
theorem xt(a b):R fcF [.sl 1 [[lm a],[lm b]]] []=some (B (decide (256<a.length)||decide (256<b.length)),[]):=by
 have:=abF (l:=[a,b]) σ;grind[llm]
def mA(n:Nat):AV:=if 256< (aA n).length then .tup [lm [],I 9]else .tup [lm (aA n),I 0]
theorem Il{m}(hb:Lb m)(h:m.length<4611686018427387904):R fcC [lm m] []=some (mA (ab m),[]):=by
 refine au SE rfl ?_;by_cases hl:256< (aA (ab m)).length
 ·simp only[wE,mA,go_sem,dZ hb h,uI,hl]
 ·simp only[wE,mA,go_sem,dZ hb h,uI,hl,SO]
theorem Kt{a:List Nat}{i}(h:i<a.length):ab (a.take (i+1))=ab (a.take i)+4294967296^i*a.getD i 0:=by
 grind[List.take_add_one,ez,aCW,aDx,ab]
theorem aa9{a:List Nat}{i}(h:a.length<=i):ab (a.take (i+1))=ab (a.take i)+4294967296^i*a.getD i 0:=by
 grind[aCX]
theorem fX(a:List Nat)(i):ab (a.take (i+1))=ab (a.take i)+4294967296^i*a.getD i 0:=by
 grind[Kt,aa9]
def lmb(n i:Nat):Nat:=n/4294967296^i%4294967296
theorem aj5{k n i}(h:i<k):(dO k n)[i]?=some (lmb n i):=by
 induction k generalizing n i with
 |zero=>omega
 |succ k ih=>
  cases i with
  |zero=>simp[dO,lmb]
  |succ i=>
   grind[dO,lmb,aDw,aC6,Nat.div_div_eq_div_mul]
theorem Yf{k n}{l}(hl:l.length=k)(h:∀i,i<k->l.getD i 0=lmb n i):l=dO k n:=by
 refine List.ext_getElem? fun i=>?_;rcases Nat.lt_or_ge i k with hi|hi
 ·simp_all[aj5,congrArg]
 grind[cZ]
def fw(a b:List Nat):Nat->Nat
 |0=>0
 |i+1=>(a.getD i 0+b.getD i 0+fw a b i)/4294967296
def HO(a b:List Nat)(i:Nat):Nat:=(a.getD i 0+b.getD i 0+fw a b i) %4294967296
theorem F9{a b}(ha:Lb a)(hb:Lb b):∀i,fw a b i<=1
 |0=>by simp[fw]
 |i+1=>by
  have h1:=bZ ha i;have h2:=bZ hb i;have h3:=F9 ha hb i;simp only[fw];omega
def dH(a b:List Nat)(i:Nat):List Nat:=(List.range i).map (HO a b)
theorem Ga(f)(i):ab ((List.range (i+1)).map f)=ab ((List.range i).map f)+4294967296^i*f i:=by
 rw[List.range_succ,List.map_append,ez];simp[ab]
theorem Jz(a b):∀i,ab (dH a b i)+4294967296^i*fw a b i=ab (a.take i)+ab (b.take i)
 |0=>by simp[dH,fw,ab]
 |i+1=>by
  have ih:=Jz a b i;rw[fX a i,fX b i];simp only[dH]at ih⊢;rw[Ga,aDw];have e:fw a b (i+1)*4294967296+HO a b i=a.getD i 0+b.getD i 0+fw a b i:=by
   grind[fw,HO]
  grind
theorem ko(a b)(i):(dH a b i).length=i:=by simp[dH]
theorem SP(a b)(i):Lb (dH a b i):=fun x hx=>by
 simp only[dH,aDz]at hx;obtain⟨j,_,rfl⟩:=hx;simp only[HO];omega
theorem aj6{a b}(ha:Lb a)(hb:Lb b)(hl:b.length<=a.length):dH a b a.length++[fw a b a.length]=dO (a.length+1) (ab a+ab b):=by
 have h:=Jz a b a.length;rw[List.take_length,aCX hl]at h;have h1:Lb (dH a b a.length++[fw a b a.length]):=mN.2 ⟨SP _ _ _,ig.2 ⟨by grind[F9],If⟩⟩;have h2:ab (dH a b a.length++[fw a b a.length])=ab a+ab b:=by
  grind[ez,ko,ab]
 have:=Jm h1;grind[ko]
theorem Pa{α:Type}(l)(n)(x z:α)(h:0<n):(l++aCG n z).set l.length x=(l++[x])++aCG (n-1) z:=by
 obtain⟨n,rfl⟩:∃m,n=m+1:=⟨n-1,by omega⟩;grind
theorem aj7{a b}(ha:Lb a)(hb:Lb b)(_hl:b.length<=a.length)(h2:a.length<4611686018427387904):∀k i,i+k=a.length->∀s h,s 0=lm a->s 1=lm b->s 5=.rsl 20 none 1 0 (a.length+1)->s 6=U (fw a b i)->
  s 21=lm a->s 22=I a.length->s 23=I i->h 20=.ar 1 (aE (dH a b i++aCG (k+1) 0))->
  ak 0 [0,5,6] (av (am R (az false) lY) [0,1,5,6,21,22,23] [20] s h)=
   some (.normal,⟨upd (upd (upd bk 6 (U (fw a b a.length))) 5 (.rsl 20 none 1 0 (a.length+1))) 0 (lm a),upd (fun _=>.dead) 20 (.ar 1 (aE (dH a b a.length++[0])))⟩):=by
 intro k;induction k with
 |zero=>
  intro i hi s h h0 h1 h5 h6 h21 h22 h23 hh;have:i=a.length:=ω
  subst this;rw[ah];simp only[lY,go_sem,h0,h1,h5,h6,h21,h22,h23,hh,aDl,List.contains_cons,BEq.rfl,Bool.true_or]
 |succ k ih=>
  intro i hi s h h0 h1 h5 h6 h21 h22 h23 hh;have ih':=ih (i+1) ω;have e1:((i:Int)< (a.length:Int))=True:=tt ω;have e2:aZ (aE a) (i:Int)=some (.ipt [U (a.getD i 0:Nat)]):=bI rfl ω;have e3:aG ((i:Int)+1)=((i+1:Nat):Int):=wi ω ω;have e4:(0<=(i:Int))=True:=tt ω;have e5:((i:Int)< ((a.length+1:Nat):Int))=True:=tt ω;have e6:=O9 (bZ ha i) (bZ hb i) (F9 ha hb i);have e7:(aE (dH a b i++aCG (k+1+1) 0))[i]?=some [U (0:Nat)]:=by
   grind[jY,ko]
  have e8:(aE (dH a b i++aCG (k+1+1) 0)).set i [U ((a.getD i 0+b.getD i 0+fw a b i) %4294967296:Nat)]=aE (dH a b (i+1)++aCG (k+1) 0):=by
   rw[ns];grind[fw,HO,dH,List.range_succ]
  rw[ah];by_cases hb':i<b.length
  ·have e9:((i:Int)< (b.length:Int))=True:=tt ω;have e10:aZ (aE b) (i:Int)=some (.ipt [U (b.getD i 0:Nat)]):=bI rfl hb';simp only[lY,go_sem,h0,h1,h5,h6,h21,h22,h23,hh,List.contains_cons,BEq.rfl,Bool.true_or,e1,e2,e3,e4,e5,e6,e7,e8,e9,e10,aCQ,aCI];exact ih' _ _ rfl rfl rfl rfl rfl rfl rfl rfl
  ·have e9:((i:Int)< (b.length:Int))=False:=ff ω;have e10:b.getD i 0=0:=γ
   have e6':=O9 (bZ ha i) (y:=0) ω (F9 ha hb i);simp only[aDf]at e6';have e8':(aE (dH a b i++aCG (k+1+1) 0)).set i [U ((a.getD i 0+0+fw a b i) %4294967296:Nat)]=aE (dH a b (i+1)++aCG (k+1) 0):=by
    grind
   simp only[lY,go_sem,h0,h1,h5,h6,h21,h22,h23,hh,List.contains_cons,BEq.rfl,Bool.true_or,e1,e2,e3,e4,e5,e7,e8',e9,aCQ,aCI,e6'];refine ih' _ _ rfl rfl rfl ?_ rfl rfl rfl rfl;simp only[fw,e10];rfl
theorem rH{l c:Nat}(hi:i=l)(hj:j=c)(h:l<=c)(hc:c<9223372036854775808):qA (I i) (I j)=some (l,c):=by
 simp only[qA];grind
noncomputable def Pb:Cmd:=.seq (.ops [0,1,5] [cm 17 0,co 18 (.len false (.t 17)),co 19 (.bin .add (.t 18) (.c (.v (.int .i64 1)))),⟨(some 20),none,.mkSl 1 [(.v (.int .u32 0))] 4 (.t 19) (.t 19)⟩,cm 5 20]) (.seq (.ops [0,1,5,6] [co 6 (.mv (.c (.v (.int .u32 0))))]) (.seq (.seq (.ops [0,1,5,6,21,22,23] [cm 21 0,co 22 (.len false (.t 21)),co 23 (.mv (.c (.v (.int .i64 0))))]) (.block 0 [0,5,6] (.loop [0,1,5,6,21,22,23] [20] lY))) (.seq (.ops [5] [cm 47 5,cm 48 0,co 49 (.len false (.t 48)),cm 50 6,co 51 (.iadrS 1 (.t 47) (.t 49)),⟨none,none,.store 1 (.t 51) (.t 50)⟩]) (.seq (.ops [4] [cm 52 5,cm 4 52]) (.ret)))))
theorem Yg{a b}(ha:Lb a)(hb:Lb b)(hl:b.length<=a.length)(h2:a.length<=100000):∀s,s 0=lm a->s 1=lm b->
  am R (az false) Pb s (fun _=>.dead)=some (.ret,⟨upd bk 4 (.rsl 20 none 1 0 (a.length+1)),upd (upd (fun _=>.dead) 20 (.ar 1 (aE (dH a b a.length++[0])))) 20 (.ar 1 (aE (dO (a.length+1) (ab a+ab b))))⟩):=by
 intro s h0 h1;have e1:aG (a.length+1)=(a.length+1:Nat):=wi ω ω;have e2:=rH (i:=(a.length+1:Nat)) (j:=(a.length+1:Nat)) (l:=a.length+1) (c:=a.length+1) rfl rfl (aCJ _) ω;have e3:((a.length+1)*4<=140737488355328)=True:=tt ω;have e4:=aj7 ha hb hl ω a.length 0 ω;have e5:aE (aCG (a.length+1) 0)=aE (dH a b 0++aCG (a.length+1) 0):=rfl;have e6:(0<=(a.length:Int))=True:=tt ω;have e7:(a.length< ((a.length+1:Nat):Int))=True:=tt ω;have e8:(aE (dH a b a.length++[0]))[a.length]?=some [U 0]:=by
  grind[jY,ko]
 have e9:(aE (dH a b a.length++[0])).set a.length [U (fw a b a.length)]=aE (dO (a.length+1) (ab a+ab b)):=by
  rw[ns]
  simp_all[ko,aCG,Nat.sub_self,List.replicate_zero,aCY,aj6]
 simp only[Pb,go_sem,h0,h1,e1,e2,e3,A9,e5];rw[e4 _ _ rfl rfl rfl rfl rfl rfl rfl rfl];simp only[go_sem,e6,e7,e8,e9,aCQ,aCI]
theorem Yh:Kn=.seq (.ops [0,1] [co 4 (.mv (.c .emp))]) (.seq (.seq (.ops [0,1,14] [cm 10 0,co 11 (.len false (.t 10)),cm 12 1,co 13 (.len false (.t 12)),co 14 (.bin .lss (.t 11) (.t 13))]) (.cond (.t 14) (.ops [0,1] [cm 15 1,cm 16 0,cm 0 15,cm 1 16]) (.skip))) Pb):=rfl
theorem agN{a b}(ha:Lb a)(hb:Lb b)(h1:a.length<=100000)(h2:b.length<=100000):R fcz [lm a,lm b] []=some (lm (dO (max a.length b.length+1) (ab a+ab b)),[]):=by
 refine au V6 rfl ?_;by_cases h:a.length<b.length
 ·have e1:(a.length< (b.length:Int))=True:=tt ω;have e2:=Yg hb ha ω h2;simp only[yw,Yh,go_sem,e1];rw[e2 _ rfl rfl];simp only[go_sem,cZ,aCI,aCJ];grind
 ·have e1:(a.length< (b.length:Int))=False:=ff ω;have e2:=Yg ha hb ω h1;simp only[yw,Yh,go_sem,e1];rw[e2 _ rfl rfl];simp only[go_sem,cZ,aCI,aCJ];grind
theorem agO{a b}(ha:Lb a)(hb:Lb b)(h1:a.length<=256)(h2:b.length<=256):R fcr [lm a,lm b] []=some (mA (ab a+ab b),[]):=by
 refine au V3 rfl ?_;have e1:(256<a.length)=False:=ff ω;have e2:(256<b.length)=False:=ff ω;have e3:ab (dO (max a.length b.length+1) (ab a+ab b))=ab a+ab b:=by
  rw[l6,aDq];have h1:=di ha;have h2:=di hb;have h3:4294967296^a.length<=4294967296^max a.length b.length:=aDn ω ω;have h4:4294967296^b.length<=4294967296^max a.length b.length:=aDn ω ω;omega
 have e4:=Il (ni (max a.length b.length+1) (ab a+ab b)) (by grind[cZ]);rw[e3]at e4;unfold mA at e4⊢;by_cases hl:256< (aA (ab a+ab b)).length
 ·simp only[hl,if_true]at e4⊢;simp only[yv,go_sem,e1,e2,xt,agN ha hb ω ω,e4]
 ·simp only[hl,if_false]at e4⊢;simp only[yv,go_sem,e1,e2,xt,agN ha hb ω ω,e4]
def cK(x y:Nat):Int:=if x<y then-1 else if y<x then 1 else 0
theorem uJ{x y}(h:(aA x).length< (aA y).length):x<y:=by
 have h1:=iP x;have hy:y≠0:=by grind[go]
 have h2:=Ur hy;have h3:4294967296^ (aA x).length<=4294967296^ ((aA y).length-1):=aDn ω ω;omega
noncomputable def vY:Cmd:=.seq (.ops [4] [co 4 (.mv (.c (.v (.int .i64 0))))]) (.ret)
theorem aj8{a b}(ha:Lb a)(hb:Lb b)(hl:a.length=b.length)(h2:a.length<=100000):∀k,k<=a.length->∀s h,s 0=lm a->s 1=lm b->s 5=I (k-1)->
  cF (ak 0 [] (av (am R (az false) jS) [0,1,5] [] s h)) (am R (az false) vY)=some (.ret,⟨upd bk 4 (I (cK (ab (a.take k)) (ab (b.take k)))),fun _=>.dead⟩):=by
 intro k;induction k with
 |zero=>
  intro hk s h h0 h1 h5;rw[ah];have e1:(0<=((0:Nat):Int)-1)=False:=ff;have e2:cK (ab []) (ab [])=0:=rfl;simp only[jS,vY,go_sem,h0,h1,h5,e1,e2]
 |succ k ih=>
  intro hk s h h0 h1 h5;have ih':=ih ω;have e1:(0<=((k+1:Nat):Int)-1)=True:=tt;have e2:aZ (aE a) ((k+1:Nat)-1)=some (.ipt [U (a.getD k 0)]):=bI ω ω;have e3:aZ (aE b) ((k+1:Nat)-1)=some (.ipt [U (b.getD k 0)]):=bI ω ω;have e4:aG ((k+1:Nat)-1-1)=k-1:=by grind[i64_in]
  have va:=fX a k;have vb:=fX b k;have la:=di (gH ha k);have lb:=di (gH hb k);rw[aCW,aDx ω]at la lb;rw[ah];rcases Nat.lt_trichotomy (a.getD k 0) (b.getD k 0)with hlt|heq|hgt
  ·have e5:((a.getD k 0)< (b.getD k 0:Int))=True:=tt;have e6:cK (ab (a.take (k+1))) (ab (b.take (k+1)))=-1:=by
    have:4294967296^k*(a.getD k 0+1)<=4294967296^k*b.getD k 0:=aDD _ hlt;rw[Nat.mul_add]at this;simp only[cK];omega
   simp only[jS,vY,go_sem,h0,h1,h5,e1,e2,e3,e5,e6]
  ·have e5:((a.getD k 0)< (b.getD k 0:Int))=False:=ff;have e7:((b.getD k 0)< (a.getD k 0:Int))=False:=ff;have e6:cK (ab (a.take (k+1))) (ab (b.take (k+1)))=cK (ab (a.take k)) (ab (b.take k)):=by
    grind[cK]
   simp only[jS,go_sem,h0,h1,h5,e1,e2,e3,e5,e6,e7,e4];exact ih' _ _ rfl rfl rfl
  ·have e5:((a.getD k 0:Int)< (b.getD k 0:Int))=False:=ff;have e7:((b.getD k 0:Int)< (a.getD k 0:Int))=True:=tt;have e6:cK (ab (a.take (k+1))) (ab (b.take (k+1)))=1:=by
    have:4294967296^k*(b.getD k 0+1)<=4294967296^k*a.getD k 0:=aDD _ hgt;rw[Nat.mul_add]at this;simp only[cK];omega
   simp only[jS,vY,go_sem,h0,h1,h5,e1,e2,e3,e5,e6,e7]
theorem Pc:Kj=.seq (.ops [0,1] [co 4 (.mv (.c (.v (.int .i64 0))))]) (.seq (.ops [0,1] [cm 6 0,⟨(some 7),none,.call (.c (.fn fcP [] [])) [(.t 6)]⟩,cm 8 1,⟨(some 9),none,.call (.c (.fn fcP [] [])) [(.t 8)]⟩,cm 0 7,cm 1 9]) (.seq (.seq (.ops [0,1,14] [cm 10 0,co 11 (.len false (.t 10)),cm 12 1,co 13 (.len false (.t 12)),co 14 (.bin .neq (.t 11) (.t 13))]) (.cond (.t 14) (.seq (.seq (.ops [19] [cm 15 0,co 16 (.len false (.t 15)),cm 17 1,co 18 (.len false (.t 17)),co 19 (.bin .lss (.t 16) (.t 18))]) (.cond (.t 19) (.seq (.ops [4] [co 4 (.mv (.c (.v (.int .i64 (-1)))))]) (.ret)) (.skip))) (.seq (.ops [4] [co 4 (.mv (.c (.v (.int .i64 1))))]) (.ret))) (.skip))) (.seq (.seq (.ops [0,1,5] [cm 20 0,co 21 (.len false (.t 20)),co 22 (.bin .sub (.t 21) (.c (.v (.int .i64 1)))),cm 5 22]) (.block 0 [] (.loop [0,1,5] [] jS))) vY))):=rfl
theorem dU(m)(h:Lb m):(aA (ab m)).length<=m.length:=lq (di h)
theorem Cf{a b}(ha:Lb a)(hb:Lb b)(h1:a.length<=100000)(h2:b.length<=100000):R fct [lm a,lm b] []=some (I (cK (ab a) (ab b)),[]):=by
 refine au VU rfl ?_;have la:=dU a ha;rcases Nat.lt_trichotomy (aA (ab a)).length (aA (ab b)).length with hlt|heq|hgt
 ·have e1:(aA (ab a)).length=((aA (ab b)).length:Int)↔False:=⟨fun h=>by omega,False.elim⟩;have e2:((aA (ab a)).length< ((aA (ab b)).length:Int))=True:=tt;have e3:cK (ab a) (ab b)=-1:=by grind[cK,uJ]
  simp only[s9,Pc,go_sem,dZ ha ω,dZ hb ω,e1,e2,e3]
 ·have e2:aG ((aA (ab b)).length-1)=(aA (ab b)).length-1:=by grind[i64_in]
  have e3:=aj8 (bh (ab a)) (bh (ab b)) heq ω (aA (ab a)).length (aCJ _);rw[List.take_length,heq,List.take_length,aT,aT]at e3;simp only[s9,Pc,go_sem,dZ ha ω,dZ hb ω,heq,e2];rw[e3 _ _ rfl rfl rfl];simp only[go_sem]
 ·have e1:(aA (ab a)).length=((aA (ab b)).length:Int)↔False:=⟨fun h=>by omega,False.elim⟩;have e2:((aA (ab a)).length< ((aA (ab b)).length:Int))=False:=ff;have e3:cK (ab a) (ab b)=1:=by
   have:=uJ hgt;simp only[cK];omega
  simp only[s9,Pc,go_sem,dZ ha ω,dZ hb ω,e1,e2,e3]
theorem am0(v:BitVec 32):v.toNat/2147483648=if v.msb=true then 1 else 0:=by
 have h:=v.isLt;grind
theorem aeJ{x y c}(hx:x<4294967296)(hy:y<4294967296)(hc:c<=1)(D)(hD:D.toNat=(x+4294967296-y-c) %4294967296):
  ((~~~(BitVec.ofNat 32 x)&&&BitVec.ofNat 32 y)||| (~~~(BitVec.ofNat 32 x^^^BitVec.ofNat 32 y)&&&D)).toNat/2147483648=if x<y+c then 1 else 0:=by
 grind[am0,BitVec.ofNat,BitVec.msb_eq_decide,BitVec.msb_or,BitVec.msb_and,BitVec.msb_not,BitVec.msb_xor]
theorem ofI(n:Nat):BitVec.ofInt 32 n=BitVec.ofNat 32 n:=σ
theorem axK(v:BitVec 32):IntKind.u32.wrap v.toNat=v.toNat:=by
 have:=v.isLt;grind[IntKind.wrap_u32]
theorem Yi{x c:Nat}(hx:x<4294967296)(hy:y<4294967296)(hc:c<=1):R fan [U x,U y,U c] []=some (.tup [U (((x+4294967296-y-c) %4294967296:Nat)),U ((if x<y+c then 1 else 0:Nat))],[]):=by
 refine au Ya rfl ?_;have e1:IntKind.u32.wrap (x-y)=((x+4294967296-y) %4294967296:Nat):=by grind[IntKind.wrap_u32]
 have e2:IntKind.u32.wrap (((x+4294967296-y) %4294967296:Nat)-c)=((x+4294967296-y-c) %4294967296:Nat):=by grind[IntKind.wrap_u32]
 have b:IntKind.u32.bits=32:=rfl;have e3:BitVec.ofInt 32 (if IntKind.u32.signed=true then(-1)else IntKind.u32.max)=BitVec.allOnes 32:=δ
 have e4:∀v,BitVec.allOnes 32^^^v= ~~~v:=fun v=>BitVec.not_def.symm;have e5:∀v,BitVec.ofNat 32 v.toNat=v:=fun v=>by simp
 have key:=aeJ hx hy hc (BitVec.ofNat 32 ((x+4294967296-y-c) %4294967296)) σ;have sh:∀v:BitVec 32,eX .shr (.v (.int .u32 (v.toNat:Int))) (.v (.int .u64 31))=some (.v (.int .u32 ((v.toNat/2147483648:Nat):Int))):=fun v=>by
  simp_all[H1,if_neg,Option.some.injEq,AV.v.injEq,Value.int.injEq,true_and,Int.fdiv_eq_ediv_of_nonneg]
 simp only[Et,go_sem,e1,e2,ofI,e3,e5,axK,sh];grind
def qJ(a b:List Nat):Nat->Nat
 |0=>0
 |i+1=>if a.getD i 0<b.getD i 0+qJ a b i then 1 else 0
def JA(a b:List Nat)(i:Nat):Nat:=(a.getD i 0+4294967296-b.getD i 0-qJ a b i) %4294967296
def lB(a b:List Nat)(i:Nat):List Nat:=(List.range i).map (JA a b)
theorem Im(a b)(i):qJ a b i<=1:=by
 cases i with
 |zero=>simp[qJ]
 |succ i=>grind[qJ]
theorem Yj{a b}(ha:Lb a)(hb:Lb b):∀i,ab (lB a b i)+ab (b.take i)=ab (a.take i)+4294967296^i*qJ a b i
 |0=>by simp[lB,qJ,ab]
 |i+1=>by
  have ih:=Yj ha hb i;rw[fX a i,fX b i];simp only[lB]at ih⊢;rw[Ga,aDw];have h1:=bZ ha i;have h2:=bZ hb i;have h3:=Im a b i;have e:JA a b i+b.getD i 0+qJ a b i=a.getD i 0+4294967296*qJ a b (i+1):=by
   grind[JA,qJ]
  grind
theorem zQ(a b)(i):(lB a b i).length=i:=by simp[lB]
theorem SQ(a b)(i):Lb (lB a b i):=fun x hx=>by
 simp only[lB,aDz]at hx;obtain⟨j,_,rfl⟩:=hx;simp only[JA];omega
theorem Yk{a b}(ha:Lb a)(hb:Lb b)(hl:b.length<=a.length)(hv:ab b<=ab a):lB a b a.length=dO a.length (ab a-ab b):=by
 have h:=Yj ha hb a.length;rw[List.take_length,aCX hl]at h;have h1:=di (SQ a b a.length);rw[zQ]at h1;have hz:qJ a b a.length=0:=by
  grind[Im,Nat.eq_zero_or_pos,qJ]
 rw[hz]at h;have h2:=Jm (SQ a b a.length);rw[zQ,show ab (lB a b a.length)=ab a-ab b from by omega]at h2;exact h2.symm
theorem aj9{a b}(ha:Lb a)(hb:Lb b)(h2:a.length<=100000):∀k i,i+k=a.length->∀s h,s 1=lm b->s 5=.rsl 16 none 1 0 a.length->s 6=U (qJ a b i)->
  s 17=lm a->s 18=I a.length->s 19=I i->h 16=.ar 1 (aE (lB a b i++aCG k 0))->
  ak 0 [5] (av (am R (az false) qf) [1,5,6,17,18,19] [16] s h)=
   some (.normal,⟨upd bk 5 (.rsl 16 none 1 0 a.length),upd (fun _=>.dead) 16 (.ar 1 (aE (lB a b a.length)))⟩):=by
 intro k;induction k with
 |zero=>
  intro i hi s h h1 h5 h6 h17 h18 h19 hh;have:i=a.length:=ω
  subst this;rw[ah];simp only[qf,go_sem,h1,h5,h6,h17,h18,h19,hh,aDl]
 |succ k ih=>
  intro i hi s h h1 h5 h6 h17 h18 h19 hh;have ih':=ih (i+1) ω;have e1:((i:Int)< (a.length:Int))=True:=tt;have e2:aZ (aE a) (i:Int)=some (.ipt [U (a.getD i 0:Nat)]):=bI rfl ω;have e3:aG ((i:Int)+1)=((i+1:Nat):Int):=wi;have e4:(0<=(i:Int))=True:=tt;have e7:(aE (lB a b i++aCG (k+1) 0))[i]?=some [U (0:Nat)]:=by
   grind[jY,zQ]
  have e8:(aE (lB a b i++aCG (k+1) 0)).set i [U ((a.getD i 0+4294967296-b.getD i 0-qJ a b i) %4294967296:Nat)]=aE (lB a b (i+1)++aCG k 0):=by
   rw[ns];grind[qJ,JA,lB,List.range_succ]
  rw[ah];by_cases hb':i<b.length
  ·have e6:=Yi (bZ ha i) (bZ hb i) (Im a b i);have e9:((i:Int)< (b.length:Int))=True:=tt;have e10:aZ (aE b) (i:Int)=some (.ipt [U (b.getD i 0:Nat)]):=bI rfl hb';simp only[qf,go_sem,h1,h5,h6,h17,h18,h19,hh,e1,e2,e3,e4,e6,e7,e8,e9,e10,aCQ,aCI];exact ih' _ _ rfl rfl rfl rfl rfl rfl rfl
  ·have e9:((i:Int)< (b.length:Int))=False:=ff;have e10:b.getD i 0=0:=γ
   have e6':=Yi (bZ ha i) (y:=0) ω (Im a b i);simp only[aDf]at e6';have e8':(aE (lB a b i++aCG (k+1) 0)).set i [U ((a.getD i 0+4294967296-0-qJ a b i) %4294967296:Nat)]=aE (lB a b (i+1)++aCG k 0):=by
    grind
   simp only[qf,go_sem,h1,h5,h6,h17,h18,h19,hh,e1,e2,e3,e4,e6',e7,e8',e9,aCQ,aCI];refine ih' _ _ rfl rfl ?_ rfl rfl rfl rfl;simp only[qJ,e10,aCI];rfl
theorem agP{a b}(ha:Lb a)(hb:Lb b)(h1:a.length<=100000)(h2:b.length<=100000)(hv:ab b<=ab a):R fcM [lm a,lm b] []=some (lm (dO (aA (ab a)).length (ab a-ab b)),[]):=by
 refine au V7 rfl ?_;have la:=dU a ha;have lb:(aA (ab b)).length<=(aA (ab a)).length:=by
  rcases Nat.lt_or_ge (aA (ab a)).length (aA (ab b)).length with h|h
  ·have:=uJ h;omega
  omega
 have e2:=rH (i:=(aA (ab a)).length) (j:=(aA (ab a)).length) rfl rfl (aCJ _) ω;have e3:((aA (ab a)).length*4<=140737488355328)=True:=tt;have e4:=aj9 (bh (ab a)) (bh (ab b)) ω (aA (ab a)).length 0 ω;have e5:aE (aCG (aA (ab a)).length 0)=aE (lB (aA (ab a)) (aA (ab b)) 0++aCG (aA (ab a)).length 0):=rfl;have e6:=Yk (bh (ab a)) (bh (ab b)) lb (by grind[aT]);rw[aT,aT]at e6;simp only[C2,Ko,go_sem,dZ ha ω,dZ hb ω,e2,e3,A9,e5];rw[e4 _ _ rfl rfl rfl rfl rfl rfl rfl];simp only[go_sem,e6,cZ,aCI,aCJ]
theorem agQ{a b}(ha:Lb a)(hb:Lb b)(h1:a.length<=256)(h2:b.length<=256):R fcy [lm a,lm b] []=some (if ab a<ab b then .tup [lm [],I 2]else mA (ab a-ab b),[]):=by
 refine au V4 rfl ?_;have e1:(256<a.length)=False:=ff;have e2:(256<b.length)=False:=ff;by_cases hv:ab a<ab b
 ·have e3:cK (ab a) (ab b)=-1:=by grind[cK]
  simp only[tj,go_sem,aCV,e1,e2,xt,Cf ha hb ω ω,e3,hv]
 ·have e3:(cK (ab a) (ab b)<0)=False:=ff (by grind[cK]);have e5:ab (dO (aA (ab a)).length (ab a-ab b))=ab a-ab b:=by
   rw[l6,aDq];grind[iP,ab]
  have e4:=Il (ni (aA (ab a)).length (ab a-ab b)) (by grind[cZ,dU]);rw[e5]at e4;unfold mA at e4⊢;by_cases hl:256< (aA (ab a-ab b)).length
  ·simp only[hl,if_true]at e4⊢;simp only[tj,go_sem,e1,e2,xt,Cf ha hb ω ω,e3,hv,agP ha hb ω ω ω,e4]
  ·simp only[hl,if_false]at e4⊢;simp only[tj,go_sem,e1,e2,xt,Cf ha hb ω ω,e3,hv,agP ha hb ω ω ω,e4]
def mi(x:Nat):Nat->List Nat->List Nat->List Nat×Nat
 |c,y::bs,o::s=>(((x*y+o+c) %4294967296)::(mi x ((x*y+o+c)/4294967296) bs s).1,(mi x ((x*y+o+c)/4294967296) bs s).2)
 |c,_,s=>(s,c)
theorem Yl(x):∀bs s r c,bs.length<=s.length->mi x c bs (s++r)=((mi x c bs s).1++r,(mi x c bs s).2)
 |[],s,r,c,_=>by simp[mi]
 |y::bs,[],r,c,h=>by grind
 |y::bs,o::s,r,c,h=>by
  have ih:=Yl x bs s r ((x*y+o+c)/4294967296) (by simpa using h);simp only[aDd,mi,ih]
theorem G4(x):∀bs s c,(mi x c bs s).1.length=s.length
 |[],s,c=>by simp[mi]
 |y::bs,[],c=>by simp[mi]
 |y::bs,o::s,c=>by simp[mi,G4 x bs s]
theorem amd(x):∀bs s c,Lb s->Lb (mi x c bs s).1
 |[],s,c,h=>by grind[mi]
 |y::bs,[],c,h=>by grind[mi]
 |y::bs,o::s,c,h=>by
  exact ig.2 ⟨by omega,amd x bs s _ (ig.1 h).2⟩
theorem Ym{x y o c}(hx:x<4294967296)(hy:y<4294967296)(ho:o<4294967296)(hc:c<4294967296):x*y+o+c<18446744073709551616:=by
 have:x*y<=4294967295*4294967295:=Nat.mul_le_mul ω ω;omega
theorem JB{x}(hx:x<4294967296):∀bs s c,Lb bs->Lb s->c<4294967296->(mi x c bs s).2<4294967296
 |[],s,c,_,_,hc=>by grind[mi]
 |y::bs,[],c,_,_,hc=>by grind[mi]
 |y::bs,o::s,c,hb,hs,hc=>by
  have:=Ym hx (ig.1 hb).1 (ig.1 hs).1 hc;exact JB hx bs s _ (ig.1 hb).2 (ig.1 hs).2 ω
theorem agR(x):∀bs s c,bs.length=s.length->ab (mi x c bs s).1+4294967296^s.length*(mi x c bs s).2=ab s+x*ab bs+c
 |[],[],c,_=>by simp[mi,ab]
 |[],o::s,c,h=>by grind
 |y::bs,[],c,h=>by grind
 |y::bs,o::s,c,h=>by
  have ih:=agR x bs s ((x*y+o+c)/4294967296) γ;simp only[mi,ab,aDp,aDw];grind
theorem aeK{a b}(hb:Lb b){x i n:Nat}(hx:x<4294967296)(h2:b.length<=100000)(hi:i<=100000):∀bs k D S (c:Nat),b.drop k=bs->k<=b.length->D.length=i+k->bs.length<=S.length->(D++S).length=n->Lb S->c<4294967296->
  ∀s h,s 18=lm a->s 19=I a.length->s 20=I i->s 1=lm b->s 5=.rsl 17 none 1 0 n->s 6=I i->s 7=U x->s 8=W c->s 25=lm b->s 26=I b.length->s 27=I k->h 17=.ar 1 (aE (D++S))->
  ak 2 [1,5,6,8,18,19,20] (av (am R (az false) pX) [1,5,6,7,8,18,19,20,25,26,27] [17] s h)=
   some (.normal,⟨upd (upd (upd (upd (upd (upd (upd bk 20 (I i)) 19 (I a.length)) 18 (lm a)) 8 (W (mi x c bs S).2)) 6 (I i)) 5 (.rsl 17 none 1 0 n)) 1 (lm b),upd (fun _=>.dead) 17 (.ar 1 (aE (D++(mi x c bs S).1)))⟩):=by
 intro bs;induction bs with
 |nil=>
  intro k D S c hd hk hD hS hn hLS hc s h h18 h19 h20 h1 h5 h6 h7 h8 h25 h26 h27 hh;have:k=b.length:=by
   grind
  subst this;rw[ah];simp only[pX,go_sem,h18,h19,h20,h1,h5,h6,h7,h8,h25,h26,h27,hh,aDl,mi]
 |cons y bs ih=>
  intro k D S c hd hk hD hS hn hLS hc s h h18 h19 h20 h1 h5 h6 h7 h8 h25 h26 h27 hh;obtain⟨o,S,rfl⟩:∃o S',S=o::S':=by
   cases S with
   |nil=>grind
   |cons o S=>grind
  have hlt:k<b.length:=by
   grind
  have hy:b.getD k 0=y:=by
   have:=congrArg (·[0]?) hd;grind
  have hyb:y<4294967296:=by grind[bZ]
  have hob:=(ig.1 hLS).1;have hml:=Ym hx hyb hob hc;have hxy:x*y<18446744073709551616:=ω
  have ih':=ih (k+1) (D++[(x*y+o+c) %4294967296]) S ((x*y+o+c)/4294967296) (by rw[←List.drop_drop,hd];rfl) hlt γ γ γ (ig.1 hLS).2 ω;have e1:((k:Int)< (b.length:Int))=True:=tt;have e2:aZ (aE b) (k:Int)=some (.ipt [U (y:Nat)]):=by grind[bI]
  have e3:aG ((k:Int)+1)=((k+1:Nat):Int):=wi;have e4:aG ((i:Int)+(k:Int))=((i+k:Nat):Int):=wi;have e5:(0<=((i+k:Nat):Int))=True:=tt;have hin:i+k<n:=γ
  have e6:(((i+k:Nat):Int)< (n:Int))=True:=tt;have e7:(aE (D++o::S))[i+k]?=some [U (o:Nat)]:=by
   grind[jY]
  have f1:IntKind.u64.wrap (x:Int)=x:=dG rfl ω;have f2:IntKind.u64.wrap (y:Int)=y:=dG rfl ω;have f3:IntKind.u64.wrap ((x:Int)*(y:Int))=((x*y:Nat):Int):=dG σ hxy;have f4:IntKind.u64.wrap (o:Int)=o:=dG rfl ω;have f5:IntKind.u64.wrap (((x*y:Nat):Int)+(o:Int))=((x*y+o:Nat):Int):=dG ω ω;have f6:IntKind.u64.wrap (((x*y+o:Nat):Int)+(c:Int))=((x*y+o+c:Nat):Int):=dG ω ω;have f7:IntKind.u32.wrap ((x*y+o+c:Nat):Int)=(((x*y+o+c) %4294967296:Nat):Int):=Jy rfl;have f8:=qE (n:=x*y+o+c) (k:=32) (kk:=.u64) (j:=32) rfl rfl ω;have f9:(aE (D++o::S)).set (i+k) [U ((x*y+o+c) %4294967296:Nat)]=aE (D++[(x*y+o+c) %4294967296]++S):=by
   rw[ns,←hD,List.set_append_right _ _ (aCJ _)];simp
  rw[ah];generalize av _ _ _=L at ih'⊢;simp only[pX,go_sem,h18,h19,h20,h1,h5,h6,h7,h8,h25,h26,h27,hh,e1,e2,e3,e4,e5,e6,e7,f1,f2,f3,f4,f5,f6,f7,f8,f9,aCQ,aCI,mi];rw[ih' _ _ rfl rfl rfl rfl rfl rfl rfl rfl rfl rfl rfl rfl];grind
def cz(a b:List Nat)(i:Nat):List Nat:=dO (i+b.length) (ab (a.take i)*ab b)
theorem Uv{a b}(ha:Lb a)(hb:Lb b){i}(hi:i<a.length):
  (cz a b i).take i++((mi (a.getD i 0) 0 b ((cz a b i).drop i)).1++[(mi (a.getD i 0) 0 b ((cz a b i).drop i)).2])=cz a b (i+1):=by
 have hx:=bZ ha i;have hP:(cz a b i).length=i+b.length:=cZ _ _;have hLP:Lb (cz a b i):=ni _ _;have hS:((cz a b i).drop i).length=b.length:=γ
 have h1:=agR (a.getD i 0) b ((cz a b i).drop i) 0 hS.symm;have h2:=JB hx b ((cz a b i).drop i) 0 hb (lZ hLP i) ω;have h3:=amd (a.getD i 0) b ((cz a b i).drop i) 0 (lZ hLP i);have h4:=G4 (a.getD i 0) b ((cz a b i).drop i) 0;have Ho:ab (cz a b i)=ab (a.take i)*ab b:=by
  unfold cz;rw[l6,aDq];have e1:=di (gH ha i);have e2:=di hb;rw[aCW,aDx ω]at e1
  simp_all[aCU,Nat.mul_lt_mul'']
 have hsplit:ab (cz a b i)=ab ((cz a b i).take i)+4294967296^i*ab ((cz a b i).drop i):=by
  grind[List.take_append_drop,cz,ez,aCW,aDx]
 have hLb:=
  mN.2 ⟨gH hLP i,mN.2 ⟨h3,ig.2 ⟨h2,If⟩⟩⟩
 have hval:ab ((cz a b i).take i++((mi (a.getD i 0) 0 b ((cz a b i).drop i)).1++[(mi (a.getD i 0) 0 b ((cz a b i).drop i)).2]))=ab (a.take (i+1))*ab b:=by
  rw[ez,ez,aCW,hP,aDx ω,h4,fX a i,aC8,←Ho,hsplit];simp only[ab,Nat.mul_zero,aDm]at h1⊢;grind
 have hlen:((cz a b i).take i++((mi (a.getD i 0) 0 b ((cz a b i).drop i)).1++[(mi (a.getD i 0) 0 b ((cz a b i).drop i)).2])).length=i+1+b.length:=by
  grind
 have:=Jm hLb;rw[hlen,hval]at this;exact this.symm
theorem aka{a b}(ha:Lb a)(hb:Lb b)(h1:a.length<=100000)(h2:b.length<=100000):∀k i,i+k=a.length->∀s h,s 1=lm b->s 5=.rsl 17 none 1 0 (a.length+b.length)->
  s 18=lm a->s 19=I a.length->s 20=I i->h 17=.ar 1 (aE (cz a b i++aCG k 0))->
  ak 0 [5] (av (am R (az false) uz) [1,5,18,19,20] [17] s h)=
   some (.normal,⟨upd bk 5 (.rsl 17 none 1 0 (a.length+b.length)),upd (fun _=>.dead) 17 (.ar 1 (aE (cz a b a.length)))⟩):=by
 intro k;induction k with
 |zero=>
  intro i hi s h h1 h5 h18 h19 h20 hh;have:i=a.length:=ω
  subst this;rw[ah];simp only[uz,go_sem,h1,h5,h18,h19,h20,hh,aDl]
 |succ k ih=>
  intro i hi s h g1 h5 h18 h19 h20 hh;have ih':=ih (i+1) ω;have hx:=bZ ha i;have hP:(cz a b i).length=i+b.length:=cZ _ _;have hLP:Lb (cz a b i):=ni _ _;have hsp:cz a b i++aCG (k+1) 0=(cz a b i).take i++((cz a b i).drop i++aCG (k+1) 0):=by rw[←aDr,List.take_append_drop]
  have e1:((i:Int)< (a.length:Int))=True:=tt;have e2:aZ (aE a) (i:Int)=some (.ipt [U (a.getD i 0:Nat)]):=bI rfl ω;have e3:aG ((i:Int)+1)=((i+1:Nat):Int):=wi;have e4:aG ((i:Int)+(b.length:Int))=((i+b.length:Nat):Int):=wi;have e5:(0<=((i+b.length:Nat):Int))=True:=tt;have e6:(((i+b.length:Nat):Int)< ((a.length+b.length:Nat):Int))=True:=tt;have lp:=aeK (a:=a) hb (x:=a.getD i 0) (i:=i) (n:=a.length+b.length) hx h2 ω b 0 ((cz a b i).take i) ((cz a b i).drop i++aCG (k+1) 0) 0 rfl (aC7 _) γ γ γ
   (mN.2 ⟨lZ hLP i,fun y hy=>by grind⟩) ω
  rw[Yl _ _ _ _ _ γ]at lp;have ml:(mi (a.getD i 0) 0 b ((cz a b i).drop i)).1.length=b.length:=by grind[G4]
  have mc:=JB hx b ((cz a b i).drop i) 0 hb (lZ hLP i) ω;have ps:=Uv ha hb (show i<a.length from by omega);rw[hsp]at hh;generalize mi (a.getD i 0) 0 b ((cz a b i).drop i)=r at*
  have f1:=CG rfl mc;have e7:(aE ((cz a b i).take i++(r.1++aCG (k+1) 0)))[i+b.length]?=some [U (0:Nat)]:=by
   grind[aDr,jY]
  have e8:(aE ((cz a b i).take i++(r.1++aCG (k+1) 0))).set (i+b.length) [U (r.2:Nat)]=aE (cz a b (i+1)++aCG k 0):=by
   grind[aDr,ns,Pa,cz]
  rw[ah];generalize av _ _ _=L at ih'⊢;simp only[uz,go_sem,g1,h5,h18,h19,h20,hh,e1,e2];rw[lp _ _ rfl rfl rfl rfl rfl rfl rfl rfl rfl rfl rfl rfl];simp only[go_sem,e3,e4,e5,e6,e7,e8,f1,aCQ,aCI];exact ih' _ _ rfl rfl rfl rfl rfl rfl
theorem ap6{a b}(ha:Lb a)(hb:Lb b)(h1:a.length<=100000)(h2:b.length<=100000):R fcH [lm a,lm b] []=some (lm (dO (a.length+b.length) (ab a*ab b)),[]):=by
 refine au VY rfl ?_;have e1:aG (a.length+b.length)=(a.length+b.length:Nat):=wi;have e2:=rH (i:=(a.length+b.length:Nat)) (j:=(a.length+b.length:Nat)) rfl rfl (aCJ _) ω;have e3:((a.length+b.length)*4<=140737488355328)=True:=tt;have e4:=aka ha hb h1 h2 a.length 0 ω;have e0:cz a b 0=aCG b.length 0:=by
  have:∀n,dO n 0=aCG n 0:=fun n=>by
   induction n with
   |zero=>rfl
   |succ n ih=>simp[dO,ih,List.replicate_succ]
  grind[cz,ab]
 have e5:aE (aCG (a.length+b.length) 0)=aE (cz a b 0++aCG a.length 0):=by
  rw[e0,List.replicate_append_replicate,Nat.add_comm]
 have e6:cz a b a.length=dO (a.length+b.length) (ab a*ab b):=by rw[cz,List.take_length]
 simp only[C0,Kl,go_sem,e1,e2,e3,A9,e5];rw[e4 _ _ rfl rfl rfl rfl rfl rfl];simp only[go_sem,e6,cZ,aCI,aCJ]
theorem agS{a b}(ha:Lb a)(hb:Lb b)(h1:a.length<=256)(h2:b.length<=256):R fcv [lm a,lm b] []=some (mA (ab a*ab b),[]):=by
 refine au VO rfl ?_;have e1:(256<a.length)=False:=ff;have e2:(256<b.length)=False:=ff;have la:=dU a ha;have lb:=dU b hb;have e3:=ap6 (bh (ab a)) (bh (ab b)) ω ω;rw[aT,aT]at e3;have e4:=Il (ni ((aA (ab a)).length+(aA (ab b)).length) (ab a*ab b)) (by grind[cZ]);rw[l6,aDq (by simp_all[aCU,Nat.mul_lt_mul'',iP])]at e4;unfold mA at e4⊢;by_cases hl:256< (aA (ab a*ab b)).length
 ·simp only[hl,if_true]at e4⊢;simp only[yk,go_sem,e1,e2,xt,dZ ha ω,dZ hb ω,e3,e4]
 ·simp only[hl,if_false]at e4⊢;simp only[yk,go_sem,e1,e2,xt,dZ ha ω,dZ hb ω,e3,e4]
theorem Fb{m:Nat}(hi:i=n)(hj:j=m)(hm:m≠0):eX .rem (.v (.int .i64 i)) (.v (.int .i64 j))=some (.v (.int .i64 (n%m:Nat))):=by
 simp_all[MG,if_neg,Int.tmod_eq_emod_of_nonneg]
theorem Fc{m:Nat}(hi:i=n)(hj:j=m)(hm:m≠0)(hn:n<9223372036854775808):eX .quo (.v (.int .i64 i)) (.v (.int .i64 j))=some (.v (.int .i64 (n/m:Nat))):=by
 rw[R9,if_neg ω,Int.tdiv_eq_ediv_of_nonneg ω];have:n/m<=n:=Nat.div_le_self _ _;grind[wi]
theorem G5{k:Nat}{kk}(hi:i=n)(hj:j=k)(hk:k<=64)(h:n*2^k<18446744073709551616):eX .shl (.v (.int .u64 i)) (.v (.int kk j))=some (.v (.int .u64 (n*2^k:Nat))):=by
 subst hi hj;rw[MH,if_neg ω];have:min (k:Int).toNat IntKind.u64.bits=k:=by grind[IntKind.bits]
 rw[this,dG (n:=n*2^k) σ h]
theorem Pd{m:Nat}(hi:i=m)(hj:j=n)(hm:m<18446744073709551616)(hn:n<18446744073709551616):eX .or (.v (.int .u64 i)) (.v (.int .u64 j))=some (.v (.int .u64 (m|||n:Nat))):=by
 subst hi hj;rw[Qm];have e:(BitVec.ofInt IntKind.u64.bits m|||BitVec.ofInt IntKind.u64.bits n).toNat=m|||n:=by
  show(BitVec.ofInt 64 m|||BitVec.ofInt 64 n).toNat=m|||n
  grind
 rw[e];rw[dG rfl (Nat.or_lt_two_pow (n:=64) hm hn)]
theorem Gb{x c k}(hc:c<2^k):x*2^k|||c=x*2^k+c:=by
 have:=Nat.shiftLeft_add_eq_or_of_lt hc x;grind[Nat.shiftLeft_eq]
def j5(a:List Nat)(r:Nat):Nat->Nat
 |0=>0
 |i+1=>(a.getD i 0*2^r+j5 a r i)/4294967296
def qK(a:List Nat)(r i:Nat):List Nat:=(List.range i).map fun j=>(a.getD j 0*2^r+j5 a r j) %4294967296
theorem Io{a}(ha:Lb a){r}:∀i,j5 a r i<2^r
 |0=>by grind[j5,aC1]
 |i+1=>by
  have ih:=Io ha (r:=r) i;have:=bZ ha i;simp only[j5];have h1:a.getD i 0*2^r+2^r<=4294967296*2^r:=by
   rw[←Nat.succ_mul];exact aCS _ ω
  omega
theorem yB(a)(r i):(qK a r i).length=i:=by simp[qK]
theorem ap7(a)(r i):Lb (qK a r i):=fun x hx=>by
 simp only[qK,aDz]at hx;omega
theorem abH(a)(r):∀i,ab (qK a r i)+4294967296^i*j5 a r i=ab (a.take i)*2^r
 |0=>by simp[qK,j5,ab]
 |i+1=>by
  have ih:=abH a r i;rw[fX a i];simp only[qK]at ih⊢;rw[Ga,aDw];have e:j5 a r (i+1)*4294967296+(a.getD i 0*2^r+j5 a r i) %4294967296=a.getD i 0*2^r+j5 a r i:=by
   grind[j5]
  grind
theorem akb{a}(ha:Lb a){n q}(h1:a.length<=100000)(hq:q<=100000):∀k i,i+k=a.length->∀s h,s 1=I (n:Nat)->s 5=.rsl 20 none 1 0 (q+i)->s 6=W (j5 a (n%32) i)->s 21=lm a->s 22=I a.length->s 23=I i->
  h 20=.ar 1 (aE (aCG q 0++qK a (n%32) i))->h 38=.dead->
  ak 0 [5,6] (av (am R (az false) uE) [1,5,6,21,22,23] [20,38] s h)=
   some (.normal,⟨upd (upd bk 6 (W (j5 a (n%32) a.length))) 5 (.rsl 20 none 1 0 (q+a.length)),upd (upd (fun _=>.dead) 38 .dead) 20 (.ar 1 (aE (aCG q 0++qK a (n%32) a.length)))⟩):=by
 intro k;induction k with
 |zero=>
  intro i hi s h g1 h5 h6 h21 h22 h23 hh hh2;have:i=a.length:=ω
  subst this;rw[ah];simp only[uE,go_sem,g1,h5,h6,h21,h22,h23,hh,hh2,aDl]
 |succ k ih=>
  intro i hi s h g1 h5 h6 h21 h22 h23 hh hh2;have ih':=ih (i+1) ω;have hx:=bZ ha i;have hc:=Io ha (r:=n%32) i;have hp:2^ (n%32)<=2^31:=aDn ω ω;have hxp:a.getD i 0*2^ (n%32)<=4294967295*2^31:=Nat.mul_le_mul ω hp;have e1:(i< (a.length:Int))=True:=tt;have e2:aZ (aE a) i=some (.ipt [U (a.getD i 0)]):=bI rfl ω;have e3:aG (i+1)=(i+1:Nat):=wi;have e4:IntKind.u64.wrap (a.getD i 0)=(a.getD i 0):=dG rfl ω;have e5:=Fb (n:=n) (m:=32) (j:=32) rfl rfl ω;have e6:=G5 (n:=a.getD i 0) (k:=n%32) (kk:=.i64) rfl rfl ω ω;have e7:=Pd (m:=a.getD i 0*2^ (n%32)) (n:=j5 a (n%32) i) rfl rfl ω ω;rw[Gb hc]at e7;have e8:IntKind.u32.wrap (a.getD i 0*2^ (n%32)+j5 a (n%32) i:Nat)=((a.getD i 0*2^ (n%32)+j5 a (n%32) i) %4294967296:Nat):=Jy rfl;have e9:=qE (n:=a.getD i 0*2^ (n%32)+j5 a (n%32) i) (k:=32) (kk:=.u64) (j:=32) rfl rfl ω;have f1:aE (aCG q 0++qK a (n%32) i)++[[U ((a.getD i 0*2^ (n%32)+j5 a (n%32) i) %4294967296:Nat)]]=aE (aCG q 0++qK a (n%32) (i+1)):=by
   simp_all[U,j5,aE,EZ,aDr,qK,List.range_succ]
  have f2:(q+i=(aCG q 0++qK a (n%32) i).length)=True:=tt (by simp[yB]);have f3:((q+i+1)*4<=140737488355328)=True:=tt;rw[ah];simp only[uE,go_sem,g1,h5,h6,h21,h22,h23,hh,hh2,e1,e2,e3,e4,e5,e6,e7,e8,e9,f1,f2,f3,true_or,aCI,aCJ];exact ih' _ _ rfl rfl rfl rfl rfl rfl rfl rfl
theorem Ba(n):4294967296^ (n/32)*2^ (n%32)=2^n:=by
 rw[show 4294967296=2^32 from rfl,←Nat.pow_mul,←aCU];grind
theorem abI{a}(ha:Lb a)(n):aCG (n/32) 0++qK a (n%32) a.length++[j5 a (n%32) a.length]=dO (n/32+a.length+1) (ab a*2^n):=by
 have hc:=Io ha (r:=n%32) a.length;have hp:2^ (n%32)<=2^31:=aDn ω ω;have h:=abH a (n%32) a.length;have hLb:Lb (aCG (n/32) 0++qK a (n%32) a.length++[j5 a (n%32) a.length]):=
  mN.2 ⟨mN.2 ⟨fun y hy=>by grind,ap7 _ _ _⟩,ig.2 ⟨by omega,If⟩⟩
 have hv:ab (aCG (n/32) 0++qK a (n%32) a.length++[j5 a (n%32) a.length])=ab a*2^n:=by
  rw[aDr,ez,Uq,ez,yB,aDK];simp only[ab,Nat.mul_zero,aDm,aCI];grind[Ba,Nat.mul_left_comm]
 have:=Jm hLb;grind[yB]
theorem QX{a}(ha:Lb a)(h1:a.length<=100000)(hn:n<=65536):R fcJ [lm a,I n] []=some (.osl 1 (aE (dO (n/32+(aA (ab a)).length+1) (ab a*2^n))),[]):=by
 refine au V5 rfl ?_;have la:=dU a ha;have hc:=Io (bh (ab a)) (r:=n%32) (aA (ab a)).length;have hp:2^ (n%32)<=2^31:=aDn ω ω;have e1:=Fc (n:=n) (m:=32) (j:=32) rfl rfl ω ω;have e2:aG ((n/32:Nat)+(aA (ab a)).length)=(n/32+(aA (ab a)).length:Nat):=wi;have e3:aG ((n/32+(aA (ab a)).length:Nat)+1)=(n/32+(aA (ab a)).length+1:Nat):=wi;have e4:=rH (i:=(n/32:Nat)) (j:=(n/32+(aA (ab a)).length+1:Nat)) rfl rfl ω ω;have e5:((n/32+(aA (ab a)).length+1)*4<=140737488355328)=True:=tt;have e6:=akb (bh (ab a)) (n:=n) (q:=n/32) ω ω (aA (ab a)).length 0 ω;have e7:aE (aCG (n/32) 0)=aE (aCG (n/32) 0++qK (aA (ab a)) (n%32) 0):=by simp[qK]
 have e8:IntKind.u32.wrap (j5 (aA (ab a)) (n%32) (aA (ab a)).length:Nat)=(j5 (aA (ab a)) (n%32) (aA (ab a)).length:Nat):=CG rfl ω;have f1:aE (aCG (n/32) 0++qK (aA (ab a)) (n%32) (aA (ab a)).length)++[[U (j5 (aA (ab a)) (n%32) (aA (ab a)).length)]]=aE (dO (n/32+(aA (ab a)).length+1) (ab a*2^n)):=by
  have:=abI (bh (ab a)) n;rw[aT]at this;rw[←this,show [[U (j5 (aA (ab a)) (n%32) (aA (ab a)).length)]]=aE [j5 (aA (ab a)) (n%32) (aA (ab a)).length]from rfl,EZ]
 have f2:(n/32+(aA (ab a)).length=(aCG (n/32) 0++qK (aA (ab a)) (n%32) (aA (ab a)).length).length)=True:=tt (by simp[yB]);simp only[C1,Km,go_sem,dZ ha ω,e1,e2,e3,e4,e5,A9,e7];rw[e6 _ _ rfl rfl rfl rfl rfl rfl rfl rfl];simp only[go_sem,e8,f1,f2,e5,true_or,aCI,aCJ,cZ]
theorem agT{a}(ha:Lb a){n}(h1:a.length<=256):R fcw [lm a,I n] []=some (if n<0\/65536<n then .tup [lm [],I 2]else mA (ab a*2^n.toNat),[]):=by
 refine au V0 rfl ?_;have e1:(256<a.length)=False:=ff;by_cases hn:n<0
 ·simp only[pz,go_sem,e1,uI,hn,true_or]
 by_cases hn2:65536<n
 ·simp only[pz,go_sem,e1,uI,hn,hn2,or_true]
 obtain⟨m,rfl⟩:=aDG (show 0<=n by omega);have la:=dU a ha;have e3:ab (dO (m/32+(aA (ab a)).length+1) (ab a*2^m))=ab a*2^m:=by
  rw[l6,aDq];have h:=iP (ab a);have h2:2^m<=4294967296^ (m/32+1):=by
   rw[show 4294967296=2^32 from rfl,←Nat.pow_mul];exact aDn ω ω
  rw[show m/32+(aA (ab a)).length+1=(aA (ab a)).length+(m/32+1)from by omega,aCU]
  simp_all[Nat.mul_lt_mul_of_lt_of_le,Nat.pow_pos]
 have e4:=Il (ni (m/32+(aA (ab a)).length+1) (ab a*2^m)) (by grind[cZ]);rw[e3]at e4;have e5:(aE (dO (m/32+(aA (ab a)).length+1) (ab a*2^m))).take (dO (m/32+(aA (ab a)).length+1) (ab a*2^m)).length=aE (dO (m/32+(aA (ab a)).length+1) (ab a*2^m)):=aCX (by simp_all[EY,aCJ]);unfold mA at e4⊢;by_cases hl:256< (aA (ab a*2^m)).length
 ·simp only[pz,go_sem,e1,uI,hn,hn2,QX ha (n:=m) ω ω,e4,e5,or_false,aCQ,hl,aCI,aCJ]
 ·simp only[pz,go_sem,e1,uI,hn,hn2,QX ha (n:=m) ω ω,e4,e5,or_false,aCQ,hl,aCI,aCJ]
theorem AH{l}(h:Lb l)(i):ab (l.drop i)=ab l/4294967296^i:=by
 rcases Nat.lt_or_ge l.length i with hi|hi
 ·rw[List.drop_of_length_le ω];have:=di h;have h2:4294967296^l.length<=4294967296^i:=aDn ω ω;rw[Nat.div_eq_of_lt ω];rfl
 ·have h1:ab l=ab (l.take i)+4294967296^i*ab (l.drop i):=by
   grind[List.take_append_drop,ez,aCW,aDx]
  grind[di,gH,aCW,aDx,Nat.add_mul_div_left,Nat.pow_pos,Nat.div_eq_of_lt]
theorem gA(l:List Nat)(i):ab (l.drop i)=l.getD i 0+4294967296*ab (l.drop (i+1)):=by
 grind[aC4,ab,List.drop_of_length_le]
def xu(a:List Nat)(r i:Nat):Nat:=(a.getD i 0+4294967296*a.getD (i+1) 0)/2^r%4294967296
theorem am1{a}(ha:Lb a){r}(hr:r<=32)(i):xu a r i=lmb (ab a/2^r) i:=by
 unfold xu lmb;have e0:ab a/2^r/4294967296^i=ab (a.drop i)/2^r:=by grind[Nat.div_div_eq_div_mul,aC6,AH]
 rw[e0,gA a i,gA a (i+1)];generalize ab (a.drop (i+1+1))=w;have e:4294967296=2^r*2^ (32-r):=by rw[←aCU,show r+(32-r)=32 from by omega]
 have h1:a.getD i 0+4294967296*(a.getD (i+1) 0+4294967296*w)=(a.getD i 0+4294967296*a.getD (i+1) 0)+2^r*(2^ (32-r)*4294967296*w):=by
  grind
 rw[h1,Nat.add_mul_div_left _ _ (aC1 r),aC9,Nat.mul_left_comm,Nat.add_mul_mod_self_left]
def qi(a:List Nat)(r i:Nat):List Nat:=(List.range i).map (xu a r)
theorem zS(a)(r i):(qi a r i).length=i:=by simp[qi]
theorem Yn{a}(ha:Lb a){r}(hr:r<=32):qi a r a.length=dO a.length (ab a/2^r):=by
 grind[Yf,zS,am1,qi]
theorem akc{a}(ha:Lb a){n}(h1:a.length<=100000):∀k i,i+k=a.length->∀s h,s 0=lm a->s 1=I (n:Nat)->s 5=.rsl 22 none 1 0 a.length->s 23=lm a->s 24=I a.length->s 25=I i->
  h 22=.ar 1 (aE (qi a (n%32) i++aCG k 0))->
  ak 0 [5] (av (am R (az false) pY) [0,1,5,23,24,25] [22] s h)=
   some (.normal,⟨upd bk 5 (.rsl 22 none 1 0 a.length),upd (fun _=>.dead) 22 (.ar 1 (aE (qi a (n%32) a.length)))⟩):=by
 intro k;induction k with
 |zero=>
  intro i hi s h h0 g1 h5 h23 h24 h25 hh;have:i=a.length:=ω
  subst this;rw[ah];simp only[List.replicate_zero,aCY]at hh;simp only[pY,go_sem,h0,g1,h5,h23,h24,h25,hh,aDl]
 |succ k ih=>
  intro i hi s h h0 g1 h5 h23 h24 h25 hh;have ih':=ih (i+1) ω;have hx:=bZ ha i;have hy:=bZ ha (i+1);have hr:n%32<32:=aDj _ ω;have e1:((i:Int)< (a.length:Int))=True:=tt;have e2:aZ (aE a) (i:Int)=some (.ipt [U (a.getD i 0:Nat)]):=bI rfl ω;have e3:aG ((i:Int)+1)=((i+1:Nat):Int):=wi;have e4:IntKind.u64.wrap (a.getD i 0:Int)=(a.getD i 0:Int):=dG rfl ω;have e5:=Fb (n:=n) (m:=32) (j:=32) rfl rfl ω;have e6:(0<=(i:Int))=True:=tt;have e7:(aE (qi a (n%32) i++aCG (k+1) 0))[i]?=some [U (0:Nat)]:=by
   grind[jY,zS]
  have e8:(aE (qi a (n%32) i++aCG (k+1) 0)).set i [U (xu a (n%32) i:Nat)]=aE (qi a (n%32) (i+1)++aCG k 0):=by
   grind[ns,Pa,qi,xu,zS,List.range_succ]
  rw[ah];generalize av _ _ _=L at ih'⊢;by_cases hl:i+1<a.length
  ·have f1:(((i+1:Nat):Int)< (a.length:Int))=True:=tt;have f2:=bI rfl hl;have f3:IntKind.u64.wrap (a.getD (i+1) 0:Int)=(a.getD (i+1) 0:Int):=dG rfl ω;have f4:=G5 (n:=a.getD (i+1) 0) (k:=32) (kk:=.u64) (j:=32) rfl rfl ω ω;have f5:=Pd (m:=a.getD i 0) (n:=a.getD (i+1) 0*2^32) rfl rfl ω ω;rw[Nat.or_comm,Gb (show a.getD i 0<2^32 from by omega)]at f5;have f6:=qE (n:=a.getD (i+1) 0*2^32+a.getD i 0) (k:=n%32) (kk:=.i64) rfl rfl ω;have f7:IntKind.u32.wrap (((a.getD (i+1) 0*2^32+a.getD i 0)/2^ (n%32):Nat):Int)=((xu a (n%32) i:Nat):Int):=by
    grind[Jy,xu]
   simp only[pY,go_sem,h0,g1,h5,h23,h24,h25,hh,e1,e2,e3,e4,e5,e6,e7,e8,f1,f2,f3,f4,f5,f6,f7,aCQ,aCI];exact ih' _ _ rfl rfl rfl rfl rfl rfl rfl
  ·have f1:(((i+1:Nat):Int)< (a.length:Int))=False:=ff;have f2:a.getD (i+1) 0=0:=γ
   have f6:=qE (n:=a.getD i 0) (k:=n%32) (kk:=.i64) rfl rfl ω;have f7:IntKind.u32.wrap ((a.getD i 0/2^ (n%32):Nat):Int)=((xu a (n%32) i:Nat):Int):=by
    rw[Jy rfl];grind[xu]
   simp only[pY,go_sem,h0,g1,h5,h23,h24,h25,hh,e1,e2,e3,e4,e5,e6,e7,e8,f1,f6,f7,aCQ,aCI];exact ih' _ _ rfl rfl rfl rfl rfl rfl rfl
theorem agU{a}(ha:Lb a)(h1:a.length<=100000)(hn:n<=100000000):R fcL [lm a,I n] []=some (lm (dO ((aA (ab a)).length-n/32) (ab a/2^n)),[]):=by
 refine au V1 rfl ?_;have la:=dU a ha;have e1:=Fc (n:=n) (m:=32) (j:=32) rfl rfl ω ω;by_cases hl:(aA (ab a)).length<=n/32
 ·have e2:((aA (ab a)).length<=((n/32:Nat):Int))=True:=tt;have e3:dO ((aA (ab a)).length-n/32) (ab a/2^n)=[]:=by rw[show(aA (ab a)).length-n/32=0 from by omega];rfl
  simp only[yu,Ep,go_sem,dZ ha ω,e1,e2,e3]
 ·have e2:((aA (ab a)).length<=((n/32:Nat):Int))=False:=ff;have hD:((aA (ab a)).drop (n/32)).length=(aA (ab a)).length-n/32:=σ
  have hLD:Lb ((aA (ab a)).drop (n/32)):=lZ (bh _) _;have e3:fA 1 (lm (aA (ab a))) (some (I (n/32:Nat))) none none=some (lm ((aA (ab a)).drop (n/32))):=by
   rw[Lx (a:=n/32) (b:=(aA (ab a)).length) (xr rfl ω) rfl (aCJ _),aCX ω]
  have hv:ab ((aA (ab a)).drop (n/32))/2^ (n%32)=ab a/2^n:=by
   rw[AH (bh _),aT,Nat.div_div_eq_div_mul,Ba]
  have e6:=Yn hLD (r:=n%32) ω;rw[hv,hD]at e6;generalize(aA (ab a)).drop (n/32)=D at*
  have e4:=rH (i:=D.length) (j:=D.length) rfl rfl (aCJ _) ω;have e5:(D.length*4<=140737488355328)=True:=tt;have e7:=akc hLD (n:=n) ω D.length 0 ω;have e8:aE (aCG D.length 0)=aE (qi D (n%32) 0++aCG D.length 0):=by simp[qi]
  rw[←hD]at e6⊢;simp only[yu,Ep,go_sem,dZ ha ω,e1,e2,e3,e4,e5,A9,e8];rw[e7 _ _ rfl rfl rfl rfl rfl rfl rfl];simp only[go_sem,e6,cZ,aCI,aCJ]
theorem agV{a}(ha:Lb a){n}(h1:a.length<=256):R fcx [lm a,I n] []=some (if n<0\/65536<n then .tup [lm [],I 2]else .tup [lm (aA (ab a/2^n.toNat)),I 0],[]):=by
 refine au VW rfl ?_;have e1:(256<a.length)=False:=ff;by_cases hn:n<0
 ·simp only[te,go_sem,e1,uI,hn,true_or]
 by_cases hn2:65536<n
 ·simp only[te,go_sem,e1,uI,hn,hn2,or_true]
 obtain⟨m,rfl⟩:=aDG (show 0<=n by omega);have la:=dU a ha;have hlt:=iP (ab a);have h32:ab a/2^m<4294967296^ ((aA (ab a)).length-m/32):=by
  rw[Nat.div_lt_iff_lt_mul (aC1 m),←Ba m];refine aDF hlt ?_;rw[←aC9,←aCU];refine aCP (aDn ω (show(aA (ab a)).length<=(aA (ab a)).length-m/32+m/32 by omega)) (Nat.le_mul_of_pos_right _ (aC1 _))
 have e3:ab (dO ((aA (ab a)).length-m/32) (ab a/2^m))=ab a/2^m:=by
  rw[l6,aDq h32]
 have e4:=Il (ni ((aA (ab a)).length-m/32) (ab a/2^m)) (by grind[cZ]);rw[e3]at e4;have hl:¬256< (aA (ab a/2^m)).length:=by
  have:=lq h32;omega
 unfold mA at e4;simp only[hl,if_false]at e4;simp only[te,go_sem,e1,uI,hn,hn2,agU ha (n:=m) ω ω,e4,or_false,aCQ]
def ag(n:Nat):Nat:=if n=0 then 0 else n.log2+1
theorem bH{n k}:ag n<=k↔n<2^k:=by
 unfold ag;grind[Nat.succ_le_iff,Nat.log2_lt]
theorem Pe{q k}(h:ag q<=k):ag (q+1)<=k+1:=by
 rw[bH]at h⊢;omega
theorem akd{n k}(h:n<=k):ag (2^n-1)<=k:=bH.2 (by
 have h1:=aC1 n;have h2:=aDn (n:=2) δ h;omega)
theorem ake(k):ag 1<=k+1:=bH.2 (Nat.one_lt_two_pow ω)
theorem Bb{x y k}(h:x<=y)(h2:ag y<=k):ag x<=k:=bH.2 (aDe h (bH.1 h2))
theorem kW{n k}:k<ag n↔2^k<=n:=by
 have:=@bH n k;omega
theorem tN:ag 0=0:=rfl
theorem gM{n}(h:n≠0):0<ag n:=by
 rw[kW];omega
theorem l8(n k):ag (n/2^k)=ag n-k:=by
 have h:∀j,ag (n/2^k)<=j↔ag n-k<=j:=fun j=>by
  simp_all[bH,Nat.div_lt_iff_lt_mul,aC1,aCU]
 have h1:=(h _).1 (aCJ _);have h2:=(h _).2 (aCJ _);omega
theorem dJ{n}(k)(hn:n≠0):ag (n*2^k)=ag n+k:=by
 grind[l8,Nat.mul_div_cancel,aC1,ag,kW,Nat.le_mul_of_pos_left]
def aeL:ByteArray:=⟨#[0,1,2,2,3,3,3,3,4,4,4,4,4,4,4,4,5,5,5,5,5,5,5,5,5,5,5,5,5,5,5,5,6,6,6,6,6,6,6,6,6,6,6,6,6,6,6,6,6,6,6,6,6,6,6,6,6,6,6,6,6,6,6,6,7,7,7,7,7,7,7,7,7,7,7,7,7,7,7,7,7,7,7,7,7,7,7,7,7,7,7,7,7,7,7,7,7,7,7,7,7,7,7,7,7,7,7,7,7,7,7,7,7,7,7,7,7,7,7,7,7,7,7,7,7,7,7,7,8,8,8,8,8,8,8,8,8,8,8,8,8,8,8,8,8,8,8,8,8,8,8,8,8,8,8,8,8,8,8,8,8,8,8,8,8,8,8,8,8,8,8,8,8,8,8,8,8,8,8,8,8,8,8,8,8,8,8,8,8,8,8,8,8,8,8,8,8,8,8,8,8,8,8,8,8,8,8,8,8,8,8,8,8,8,8,8,8,8,8,8,8,8,8,8,8,8,8,8,8,8,8,8,8,8,8,8,8,8,8,8,8,8,8,8,8,8,8,8,8,8,8,8,8,8,8,8]⟩
theorem akf:((List.range 256).all fun x=>(aeL[x]?).map (·.toNat)==some (ag x))=true:=by decide+kernel
theorem aeM{x:Nat}(h:x<256):Mr (.v (.string aeL)) (.v (.int .u8 x))=some (.v (.int .u8 (ag x))):=by
 have:=List.all_eq_true.1 akf x (List.mem_range.2 h);simp only[Mr];grind
theorem JC:Ln=.seq (.ops [0,2] [co 2 (.mv (.c (.v (.int .i64 0))))]) (.seq (.seq (.ops [0,2,4] [cm 3 0,co 4 (.bin .geq (.t 3) (.c (.v (.int .u32 65536))))]) (.cond (.t 4) (.seq (.ops [0] [cm 5 0,co 6 (.bin .shr (.t 5) (.c (.v (.int .u64 16)))),cm 0 6]) (.ops [0,2] [co 2 (.mv (.c (.v (.int .i64 16))))])) (.skip))) (.seq (.seq (.ops [0,2,8] [cm 7 0,co 8 (.bin .geq (.t 7) (.c (.v (.int .u32 256))))]) (.cond (.t 8) (.seq (.ops [0,2] [cm 9 0,co 10 (.bin .shr (.t 9) (.c (.v (.int .u64 8)))),cm 0 10]) (.ops [0,2] [cm 11 2,co 12 (.bin .add (.t 11) (.c (.v (.int .i64 8)))),cm 2 12])) (.skip))) (.seq (.ops [2] [cm 13 2,cm 14 0,co 15 (.cv .u8 (.t 14)),co 16 (.idxS (.c (.v (.string aeL))) (.t 15)),co 17 (.cv .i64 (.t 16)),co 18 (.bin .add (.t 13) (.t 17)),cm 2 18]) (.ret)))):=rfl
theorem w8(h:i=n)(hn:n<256):IntKind.u8.wrap i=n:=by grind[IntKind.wrap_u8]
theorem MK{k:Nat}{kk}(hi:i=n)(hj:j=k)(hk:k<=32):eX .shr (.v (.int .u32 i)) (.v (.int kk j))=some (.v (.int .u32 (n/2^k:Nat))):=by
 simp_all[H1,if_neg,IntKind.bits,Option.some.injEq,AV.v.injEq,Value.int.injEq,true_and,Int.fdiv_eq_ediv_of_nonneg,Int.pow_nonneg]
theorem G6{x}(k)(h:2^k<=x):ag x=k+ag (x/2^k):=by
 have:=l8 x k;have:=kW.2 h;omega
theorem Yo{x:Nat}(hx:x<4294967296):R faj [U x] []=some (I (ag x),[]):=by
 refine au X8 rfl ?_;have fin:∀ {y:Nat},y<256->∀ {n:Nat},n<=24->IntKind.u8.wrap y=y/\IntKind.i64.wrap (ag y)=(ag y)/\IntKind.i64.wrap (n+(ag y))=(n+ag y:Nat):=fun{y} hy {n} hn=>by
  have:ag y<=8:=bH.2 hy;exact⟨w8 rfl hy,wi rfl ω,wi ω ω⟩
 have s16:=MK (n:=x) (k:=16) (kk:=.u64) (j:=16) rfl rfl ω;by_cases h1:65536<=x
 ·have e1:(65536<=(x:Int))=True:=tt;have b1:=G6 16 h1;have s8:=MK (n:=x/2^16) (k:=8) (kk:=.u64) (j:=8) rfl rfl ω;by_cases h2:256<=x/2^16
  ·have e2:(256<=((x/2^16:Nat):Int))=True:=tt;have b2:=G6 8 h2;have hy:x/2^16/2^8<256:=ω
   obtain⟨f1,f2,f3⟩:=fin hy (n:=24) ω;have g:aG 24=24:=by grind[i64_in]
   have f3':aG (24+(ag (x/2^16/2^8)))=(ag x:Nat):=γ
   simp only[qT,JC,go_sem,e1,s16,e2,s8,g,f1,aeM hy,f2,f3',Int.reduceAdd]
  ·have e2:(256<=((x/2^16:Nat):Int))=False:=ff;have hy:x/2^16<256:=ω
   obtain⟨f1,f2,f3⟩:=fin hy (n:=16) ω;have f3':aG ((16:Int)+(ag (x/2^16):Int))=((ag x:Nat):Int):=γ
   simp only[qT,JC,go_sem,aCV,aDg,e1,s16,e2,f1,aeM hy,f2,f3']
 ·have e1:((65536:Int)<=(x:Int))=False:=ff;have s8:=MK (n:=x) (k:=8) (kk:=.u64) (j:=8) rfl rfl ω;by_cases h2:256<=x
  ·have e2:((256:Int)<=(x:Int))=True:=tt;have b2:=G6 8 h2;have hy:x/2^8<256:=ω
   obtain⟨f1,f2,f3⟩:=fin hy (n:=8) ω;have g:aG (8:Int)=8:=by grind[i64_in]
   have f3':aG ((8:Int)+(ag (x/2^8):Int))=((ag x:Nat):Int):=γ
   simp only[qT,JC,go_sem,aCV,aDg,e1,e2,s8,g,f1,aeM hy,f2,f3',Int.reduceAdd]
  ·have e2:((256:Int)<=(x:Int))=False:=ff;have hy:x<256:=ω
   obtain⟨f1,f2,f3⟩:=fin hy (n:=0) ω;have f3':aG ((0:Int)+(ag x:Int))=((ag x:Nat):Int):=γ
   simp only[qT,JC,go_sem,aCV,aDg,e1,e2,f1,aeM hy,f2,f3']
theorem Yp{n}(h:n≠0):ag n=32*((aA n).length-1)+ag ((aA n).getD ((aA n).length-1) 0):=by
 induction n using Nat.strongRecOn with
 |ind n ih=>
  rw[qU h,aDp,Nat.add_sub_cancel];by_cases h0:n/4294967296=0
  ·rw[h0,go];grind
  ·have h2:(aA (n/4294967296)).length≠0:=by
    intro e;exact h0 (pB.1 (List.length_eq_zero_iff.1 e))
   have h3:=G6 (x:=n) 32 ω;grind
theorem Ip{m}(hb:Lb m)(h1:m.length<=100000):R fcs [lm m] []=some (I (ag (ab m)),[]):=by
 refine au SB rfl ?_;have la:=dU m hb;by_cases h:ab m=0
 ·have e1:((0:Nat):Int)=0:=rfl;simp only[wD,go_sem,dZ hb ω,h,go,e1,tN]
 ·have hne:(aA (ab m)).length≠0:=fun e=>h (pB.1 (List.length_eq_zero_iff.1 e));have e1:(((aA (ab m)).length:Int)=0)=False:=ff;have e2:aG ((aA (ab m)).length-1)=((aA (ab m)).length-1:Nat):=wi;have e3:aG (32*((aA (ab m)).length-1:Nat))=(32*((aA (ab m)).length-1):Nat):=wi;have e4:aZ (aE (aA (ab m))) ((aA (ab m)).length-1:Nat)=some (.ipt [U ((aA (ab m)).getD ((aA (ab m)).length-1) 0)]):=bI rfl ω;have e5:=Yo (bZ (bh (ab m)) ((aA (ab m)).length-1));have e6:ag ((aA (ab m)).getD ((aA (ab m)).length-1) 0)<=32:=bH.2 (bZ (bh (ab m)) _);have e7:IntKind.i64.wrap ((32*((aA (ab m)).length-1):Nat)+(ag ((aA (ab m)).getD ((aA (ab m)).length-1) 0)))=(ag (ab m):Nat):=by
   rw[Yp h];exact wi ω ω
  simp only[wD,go_sem,dZ hb ω,e1,e2,e3,e4,e5,e7]
structure Rd where
 neg:Bool
 m:List Nat
 e:Int
def ai(d:Rd):List AV:=[B d.neg,lm d.m,I d.e]
def af(d:Rd):AV:=.agg (ai d)
def aB:Rd:=⟨false,[],0⟩
def rI(n:Nat)(e:Int):Bool:=decide (n=0)|| (decide (n<=4096)&& (decide (-16384<=e)&& (decide (e<=16384)&&decide (n+e<=16384))))
def vd(d:Rd):Bool:=if d.m.length=0 then !d.neg&&decide (d.e=0)else decide (d.m.length<=256)&& (decide (d.m.getD 0 0%2=1)&& (decide (d.m.getD (d.m.length-1) 0≠0)&&rI (ag (ab d.m)) d.e))
theorem yC{m}(hb:Lb m)(h1:m.length<=100000):R fa5 [lm m] []=some (I (ag (ab m)),[]):=by
 refine au VN rfl ?_;simp only[CV,go_sem,Ip hb h1]
theorem QY{d}(hb:Lb d.m)(h1:d.m.length<=100000):R fa2 [af d] []=some (B (rI (ag (ab d.m)) d.e),[]):=by
 refine au OS rfl ?_;unfold rI;by_cases a1:ag (ab d.m)=0
 ·have e9:=yC hb h1;rw[a1,aDf]at e9;simp only[jl,af,ai,go_sem,e9,a1]
 have e1:(((ag (ab d.m)):Int)=0)=False:=ff;by_cases a2:¬ (ag (ab d.m)<=4096)
 ·have e2:(((ag (ab d.m)):Int)<=4096)=False:=ff;simp only[jl,af,ai,go_sem,yC hb h1,e1,a1,e2,a2]
 replace a2:=Decidable.not_not.1 a2
 have e2:(((ag (ab d.m)):Int)<=4096)=True:=tt;by_cases a3:¬ (-16384<=d.e)
 ·simp only[jl,af,ai,go_sem,yC hb h1,e1,a1,e2,a2,a3]
 replace a3:=Decidable.not_not.1 a3
 by_cases a4:¬ (d.e<=16384)
 ·simp only[jl,af,ai,go_sem,yC hb h1,e1,a1,e2,a2,a3,a4]
 replace a4:=Decidable.not_not.1 a4
 have e3:aG ((ag (ab d.m):Nat)+d.e)=(ag (ab d.m):Nat)+d.e:=by grind[i64_in]
 simp only[jl,af,ai,go_sem,yC hb h1,e1,a1,e2,a2,a3,a4,e3]
def Ku(n:Int):Prop:=-9223372036854775808<=n/\n<9223372036854775808
structure Ok0 (d:Rd):Prop where
 lb:Lb d.m
 len:d.m.length<4611686018427387904
theorem eS{d}(ok:Ok0 d):R faX [af d] []=some (B (vd d),[]):=by
 refine au Sw rfl ?_;unfold vd;by_cases a0:d.m.length=0
 ·rw[if_pos a0];have e1:((d.m.length:Int)=0)=True:=tt;cases hn:d.neg with
  |true=>simp only[jy,af,ai,hn,go_sem,e1]
  |false=>simp only[jy,af,ai,hn,go_sem,e1]
 rw[if_neg a0];have e1:((d.m.length:Int)=0)=False:=ff;by_cases a1:¬d.m.length<=256
 ·have e2:((d.m.length:Int)<=256)=False:=ff;rw[decide_eq_false a1,aCO];simp only[jy,af,ai,go_sem,e1,e2]
 replace a1:=Decidable.not_not.1 a1
 have e2:((d.m.length:Int)<=256)=True:=tt;have e3:aZ (aE d.m) 0=some (.ipt [U (d.m.getD 0 0)]):=bI rfl ω;have e4:eX .rem (.v (.int .u32 (d.m.getD 0 0))) (.v (.int .u32 2))=some (.v (.int .u32 (d.m.getD 0 0%2:Nat))):=by
  simp_all[MG,if_neg,Int.tmod_eq_emod_of_nonneg]
 rw[decide_eq_true a1,aCM];by_cases a2:¬d.m.getD 0 0%2=1
 ·have e5:(((d.m.getD 0 0%2:Nat):Int)=1)=False:=ff;rw[decide_eq_false a2,aCO];simp only[jy,af,ai,go_sem,e1,e2,e3,e4,e5]
 replace a2:=Decidable.not_not.1 a2
 have e5:(((d.m.getD 0 0%2:Nat):Int)=1)=True:=tt;rw[decide_eq_true a2,aCM];have e6:aG (d.m.length-1)=(d.m.length-1:Nat):=wi;have e7:aZ (aE d.m) (d.m.length-1:Nat)=some (.ipt [U (d.m.getD (d.m.length-1) 0)]):=bI rfl ω;by_cases a3:d.m.getD (d.m.length-1) 0=0
 ·have e8:((d.m.getD (d.m.length-1) 0:Int)=0)=True:=tt;rw[decide_eq_false (p:=d.m.getD (d.m.length-1) 0≠0) (fun h=>h a3),aCO];simp only[jy,af,ai,go_sem,e1,e2,e3,e4,e5,e6,e7,e8]
 have e8:((d.m.getD (d.m.length-1) 0:Int)=0)=False:=ff;rw[decide_eq_true (p:=d.m.getD (d.m.length-1) 0≠0) a3,aCM];have e9:=QY (d:=d) ok.lb ω;simp only[af,ai]at e9;simp only[jy,af,ai,go_sem,e1,e2,e3,e4,e5,e6,e7,e8,e9]
theorem SR{d}(ok:Ok0 d):R faU [af d] []=some (I (if vd d=false\/d.m.length=0 then 0 else if d.neg=true then-1 else 1),[]):=by
 refine au VH rfl ?_;have e9:=eS ok;simp only[af,ai]at e9;cases hv:vd d with
 |false=>
  rw[hv]at e9;rw[if_pos (Or.inl rfl)];simp only[pu,af,ai,go_sem,e9]
 |true=>
  rw[hv]at e9;by_cases a0:d.m.length=0
  ·have e1:((d.m.length:Int)=0)=True:=tt;rw[if_pos (Or.inr a0)];simp only[pu,af,ai,go_sem,e9,e1]
  ·have e1:((d.m.length:Int)=0)=False:=ff;rw[if_neg (fun h=>h.elim (fun h=>nomatch h) a0)];cases hn:d.neg with
   |true=>
    rw[hn]at e9;simp only[pu,af,ai,hn,go_sem,e9,e1]
   |false=>
    rw[hn]at e9;simp only[pu,af,ai,hn,go_sem,e9,e1]
theorem aeN(m)(h2:m.length<4611686018427387904):∀ (n:Nat),n<=m.length->∀s h,s 0=lm m->s 3=I n->
  ak 0 [0,3] (av (am R (az false) lK) [0,3] [] s h)=some (.normal,⟨upd (upd bk 3 (I (oV m n))) 0 (lm m),fun _=>.dead⟩):=by
 intro n;induction n with
 |zero=>
  intro h1 s h h3 h4;rw[ah];simp only[lK,go_sem,h3,h4,oV,aDf,aDl]
 |succ n ih=>
  intro h1 s h h3 h4;have hn:=h1;have e3:aG (n+1-1)=n:=wi;have e1:=bI rfl hn;have e2:(0< (n:Int)+1)=True:=tt;have ih':=ih ω;rw[ah];by_cases hz:m.getD n 0=0
  ·simp only[lK,go_sem,h3,h4,oV,Int.natCast_add,Int.natCast_one,e3,e1,e2,hz,aDf];exact ih' _ _ rfl rfl
  ·simp only[lK,go_sem,h3,h4,oV,Int.natCast_add,Int.natCast_one,e3,e1,e2,hz,Int.natCast_eq_zero]
theorem Yq{m}(hb:Lb m)(h:m.length<4611686018427387904):R fa7 [lm m] []=some (lm (aA (ab m)),[]):=by
 refine au O0 rfl ?_;have h1:fA 1 (lm m) none (some (I (oV m m.length))) none=some (lm (aA (ab m))):=by
  rw[Lx (a:=0) (b:=oV m m.length) rfl (xr rfl (FX _ _)) (FX _ _),aDI,Nat.sub_zero,OE hb]
 simp only[y9,FR,go_sem,aeN m h m.length (aCJ _),h1]
theorem zT{e}:R fa1 [I e] []=some (B (decide (-32768<=e)&&decide (e<=32768)),[]):=by
 refine au Nw rfl ?_;by_cases a1:¬ (-32768<=e)
 ·simp only[rz,go_sem,a1]
 replace a1:=Decidable.not_not.1 a1
 simp only[rz,go_sem,a1]
theorem Cg{d}(hb:Lb d.m)(h1:d.m.length<=100000):R faZ [af d] []=some (if rI (ag (ab d.m)) d.e=true then .tup [af d,I 0]else .tup [af aB,I 9],[]):=by
 refine au OU rfl ?_;have e9:=QY hb h1;simp only[af,ai]at e9;cases hv:rI (ag (ab d.m)) d.e with
 |false=>
  rw[hv]at e9;simp only[sv,af,ai,aB,go_sem,e9]
 |true=>
  rw[hv]at e9;simp only[sv,af,ai,go_sem,e9]
theorem Yr(h)(m):xS h 1 (lm m)=some (aE m):=ajW h 1 _
theorem JD{m}(h0:m≠[])(h1:m.length<=100000):R fd9 [lm m] []=some (lm m,[]):=by
 refine au Cv rfl ?_;have e1:Mq false (lm m)=some (B false):=by
  cases m with
  |nil=>grind
  |cons x m=>rfl
 have e2:((True\/False)/\(0+m.length)*4<=140737488355328)=True:=eq_true ⟨Or.inl trivial,by omega⟩;have e3:(0+(0+m.length)<=m.length)=True:=tt;have e4:(0+m.length=m.length)=True:=tt;simp only[kD,go_sem,e1,Yr,e2,e3,e4]
theorem HP:cW.E fao=some tzF:=by kernel_rfl
theorem Lz{x:Nat}(h:x≠0)(hx:x<4294967296):R fao [U x] []=some (I (tz x),[]):=by
 unfold R;rw[Jc HP];show(if 0< (x:Int)/\(x:Int)<4294967296/\[]=[]then some (I (Us 32 (x:Int).toNat),[])else none)=_;rw[if_pos ⟨by omega,by omega,rfl⟩,aCQ,ap2 32 x h ω]
theorem akg(m)(hb:Lb m)(h2:m.length<=100000):∀k i,i+k=m.length->ab (m.drop i)≠0->∀s h,s 6=lm m->s 7=I m.length->s 8=I i->s 3=I (32*i:Nat)->
  ak 0 [3] (av (am R (az false) wC) [3,6,7,8] [] s h)=some (.ret,⟨upd bk 2 (I (32*i+tz (ab (m.drop i)):Nat)),fun _=>.dead⟩):=by
 intro k;induction k with
 |zero=>
  intro i hi hv;rw[aC3 ω]at hv;exact absurd rfl hv
 |succ k ih=>
  intro i hi hv s h h6 h7 h8 h3;have e1:((i:Int)<m.length)=True:=tt;have e2:aZ (aE m) i=some (.ipt [U (m.getD i 0)]):=bI rfl ω;have hx:=bZ hb i;rw[gA]at hv;rw[ah];have e4:aG ((32*i:Nat)+32)=(32*(i+1):Nat):=wi;have e5:aG (i+1)=(i+1:Nat):=wi;by_cases hz:m.getD i 0=0
  ·have e3:((m.getD i 0:Int)=0)=True:=tt;have hv':ab (m.drop (i+1))≠0:=by
    omega
   have ih':=ih (i+1) ω hv';have e6:tz (ab (m.drop i))=32+tz (ab (m.drop (i+1))):=by
    rw[gA,hz,aCI];exact Lr 32 hv'
   have e7:32*i+tz (ab (m.drop i))=32*(i+1)+tz (ab (m.drop (i+1))):=ω
   rw[e7];simp only[wC,go_sem,h3,h6,h7,h8,e1,e2,e3,e4,e5];exact ih' _ _ rfl rfl rfl rfl
  ·have e3:((m.getD i 0:Int)=0)=False:=ff;have e6:tz (ab (m.drop i))=tz (m.getD i 0):=by
    rw[gA];exact ap1 (k:=32) _ hz hx
   have e8:=Wh (k:=32) hz hx;have e7:IntKind.i64.wrap ((32*i:Nat)+(tz (m.getD i 0)))=(32*i+tz (m.getD i 0):Nat):=wi;rw[e6];simp only[wC,go_sem,h3,h6,h7,h8,e1,e2,e3,Lz hz hx,e7]
theorem ap8{m}(hb:Lb m)(h1:m.length<=100000)(hv:ab m≠0):R fa3 [lm m] []=some (I (tz (ab m)),[]):=by
 refine au X1 rfl ?_;have h3:=akg m hb h1 m.length 0 (aCI _) hv;simp only[Nat.mul_zero,aCI,aDI,aDf]at h3;simp only[En,Lm,go_sem];rw[h3 _ _ rfl rfl rfl rfl];simp only[go_sem]
def aeO:Nat->Nat->List Nat
 |0,_=>[]
 |k+1,n=>if n=0 then []else n%4294967296::aeO k (n/4294967296)
theorem abJ:∀ {k n:Nat},n<4294967296^k->aeO k n=aA n
 |0,n,h=>by
  have:n=0:=by simpa using h
  subst this;rw[go];rfl
 |k+1,n,h=>by
  unfold aeO;split
  ·rename_i h0;rw[h0,go]
  ·rename_i h0;rw[qU h0,abJ (Nat.div_lt_of_lt_mul (by rw[aDw]at h;omega))]
def ap9(neg:Bool)(M k:Nat)(e:Int):Rd:=if M%2^k=0/\M/2^k%2=1/\M/2^k<4294967296^24 then⟨neg,aeO 24 (M/2^k),e+k⟩else⟨neg,aA (M/2^tz M),e+tz M⟩
def bg(neg:Bool)(M:Nat)(e:Int):Rd:=if M=0 then aB else ap9 neg M (Nat.gcd M (2^40000)).log2 e
theorem xw:bg neg M e=if M=0 then aB else⟨neg,aA (M/2^tz M),e+tz M⟩:=by
 unfold bg;split
 ·rfl
 ·generalize Nat.log2 _=k;unfold ap9;split
  ·rename_i h0 h;obtain⟨h1,h2,h3⟩:=h;have e1:M=2^k*(M/2^k):=(Nat.mul_div_cancel' (Nat.dvd_of_mod_eq_zero h1)).symm;have e2:tz M=k:=by
    rw[e1,Lr _ ω,xp h2,aDm]
   rw[e2,abJ h3]
  ·rfl
def Exq(e:Int):Prop:=-1000000<=e/\e<=1000000
theorem mO{neg}{m}{e}(hb:Lb m)(h1:m.length<=256)(he:Exq e):R faY [B neg,lm m,I e] []=some (af (bg neg (ab m) e),[]):=by
 refine au Lv rfl ?_;obtain⟨he1,he2⟩:=he;rw[xw];by_cases h0:ab m=0
 ·have hd:R fa7 [lm m] []=some (lm [],[]):=by
   grind[Yq,go]
  rw[if_pos h0];simp only[qC,af,ai,aB,go_sem,hd,aDs,aDf]
 have hn:=fun h=>h0 (pB.1 h);have hl:0< (aA (ab m)).length:=by
  grind
 have hl2:=aCP (dU m hb) h1;have hdb:Lb (aA (ab m)):=bh _;have e1:(((aA (ab m)).length:Int)=0)=False:=ff;have ht:=Wh (k:=32*256) h0 (by
  have:=di hb;have h3:4294967296^m.length<=4294967296^256:=aDn δ h1;omega)
 have hlow:=ap8 hdb ω (by grind[aT]);rw[aT]at hlow;have hs:=agV (n:=(tz (ab m))) hdb hl2;rw[if_neg ω,aT,aCQ]at hs;have hq:aA (ab m/2^tz (ab m))≠[]:=by
  intro h;have:=(yz h0).2;rw[pB.1 h]at this;omega
 have hq2:(aA (ab m/2^tz (ab m))).length<=100000:=by
  have h5:(aA (ab m/2^tz (ab m))).length<=m.length:=lq (aDe (Nat.div_le_self _ _) (di hb));omega
 have hc:=JD hq hq2;have e2:aG (e+(tz (ab m)))=e+(tz (ab m)):=by grind[i64_in]
 rw[if_neg h0];simp only[qC,af,ai,go_sem,Yq hb (aDe h1 δ),e1,hlow,hs,hc,SO,e2]
theorem zU{d}(h:vd d=true)(h0:d.m.length≠0):d.m.length<=256/\d.m.getD 0 0%2=1/\d.m.getD (d.m.length-1) 0≠0/\rI (ag (ab d.m)) d.e=true:=by
 simp_all[vd,if_neg,aCK,decide_eq_true_eq]
theorem vZ{d}(h:vd d=true)(h0:d.m.length=0):d=aB:=by
 unfold vd at h;obtain⟨n,m,e⟩:=d;grind[aB]
theorem C6{n}{e}(h:rI n e=true)(h0:n≠0):n<=4096∧-16384<=e/\e<=16384/\n+e<=16384:=by
 simp_all[rI,Bool.or_eq_true,aCK,decide_eq_true_eq]
theorem dj{d}(h:vd d=true)(_hb:Lb d.m):d.m.length<=256∧-16384<=d.e/\d.e<=16384/\ag (ab d.m)<=4096:=by
 by_cases h0:d.m.length=0
 ·rw[vZ h h0];exact⟨by decide,by decide,by decide,by decide⟩
 obtain⟨h1,h2,h3,h4⟩:=zU h h0;have hv:ab d.m≠0:=by
  have:=gA d.m 0;grind
 have hn:ag (ab d.m)≠0:=by
  grind[gM]
 obtain⟨h5,h6,h7,h8⟩:=C6 h4 hn;omega
def aN(d:Rd):Int:=if vd d=false\/d.m.length=0 then 0 else(ag (ab d.m))+d.e
theorem zV{d}(ok:Ok0 d):R faW [af d] []=some (I (aN d),[]):=by
 refine au XX rfl ?_;have e9:=eS ok;simp only[af,ai]at e9;unfold aN;cases hv:vd d with
 |false=>
  rw[hv]at e9;rw[if_pos (Or.inl rfl)];simp only[vA,af,ai,go_sem,e9]
 |true=>
  rw[hv]at e9;by_cases a0:d.m.length=0
  ·have e1:((d.m.length:Int)=0)=True:=tt;rw[if_pos (Or.inr a0)];simp only[vA,af,ai,go_sem,e9,e1]
  ·have e1:((d.m.length:Int)=0)=False:=ff;rw[if_neg (fun h=>h.elim (fun h=>nomatch h) a0)];obtain⟨h1,h2,h3,h4⟩:=dj hv ok.lb;have e2:aG ((ag (ab d.m):Nat)+d.e)=(ag (ab d.m):Nat)+d.e:=by grind[i64_in]
   simp only[vA,af,ai,go_sem,e9,e1,yC ok.lb (aCP h1 δ),e2]
theorem Pf{d}(ok:Ok0 d):R faN [af d] []=some (I (if vd d=true then(ag (ab d.m))else 0),[]):=by
 refine au VG rfl ?_;have e9:=eS ok;simp only[af,ai]at e9;cases hv:vd d with
 |false=>
  rw[hv]at e9;simp only[yf,af,ai,go_sem,e9]
 |true=>
  rw[hv]at e9;obtain⟨h1,h2,h3,h4⟩:=dj hv ok.lb;simp only[yf,af,ai,go_sem,e9,yC ok.lb (aCP h1 δ)]
theorem Ch{d}(ok:Ok0 d):R faS [af d] []=some (af (if vd d=false\/d.m.length=0 then aB else⟨!d.neg,d.m,d.e⟩),[]):=by
 refine au XR rfl ?_;have e9:=eS ok;simp only[af,ai]at e9;cases hv:vd d with
 |false=>
  rw[hv]at e9;rw[if_pos (Or.inl rfl)];simp only[ve,af,ai,aB,go_sem,e9]
 |true=>
  rw[hv]at e9;by_cases a0:d.m.length=0
  ·have e1:((d.m.length:Int)=0)=True:=tt;rw[if_pos (Or.inr a0)];simp only[ve,af,ai,aB,go_sem,e9,e1]
  ·have e1:((d.m.length:Int)=0)=False:=ff;rw[if_neg (fun h=>h.elim (fun h=>nomatch h) a0)];obtain⟨h1,h2,h3,h4⟩:=dj hv ok.lb;have hc:=JD (m:=d.m) (fun h=>a0 γ) (aCP h1 δ);simp only[ve,af,ai,go_sem,e9,e1,hc]
theorem LA{d}(ok:Ok0 d):R faL [af d] []=some (af (if vd d=false\/d.m.length=0 then aB else⟨false,d.m,d.e⟩),[]):=by
 refine au XY rfl ?_;have e9:=eS ok;simp only[af,ai]at e9;cases hv:vd d with
 |false=>
  rw[hv]at e9;rw[if_pos (Or.inl rfl)];simp only[vC,af,ai,aB,go_sem,e9]
 |true=>
  rw[hv]at e9;by_cases a0:d.m.length=0
  ·have e1:((d.m.length:Int)=0)=True:=tt;rw[if_pos (Or.inr a0)];simp only[vC,af,ai,aB,go_sem,e9,e1]
  ·have e1:((d.m.length:Int)=0)=False:=ff;rw[if_neg (fun h=>h.elim (fun h=>nomatch h) a0)];obtain⟨h1,h2,h3,h4⟩:=dj hv ok.lb;have hc:=JD (m:=d.m) (fun h=>a0 γ) (aCP h1 δ);simp only[vC,af,ai,go_sem,e9,e1,hc]
theorem E2(hb:Lb m)(h1:m.length<=256){k:Nat}(hk:k<=65536)(hl:(aA (ab m*2^k)).length<=256):R fa4 [lm m,I k] []=some (lm (aA (ab m*2^k)),[]):=by
 refine au OV rfl ?_;have hs:=agT (n:=(k:Nat)) hb h1;rw[if_neg ω,aCQ,mA,if_neg ω]at hs;simp only[y6,go_sem,hs]
theorem am2(hb:Lb m)(hl:m.length<4611686018427387904):R faQ [B neg,lm m,I e] []=some (if 256<m.length\/e< -32768\/32768<e then .tup [af aB,I 1]
  else if rI (ag (ab (bg neg (ab m) e).m)) (bg neg (ab m) e).e=true then .tup [af (bg neg (ab m) e),I 0]else .tup [af aB,I 9],[]):=by
 refine au V8 rfl ?_;by_cases a1:256<m.length
 ·have e1:((256:Int)<m.length)=True:=tt;rw[if_pos (Or.inl a1)];simp only[pA,af,ai,aB,go_sem,e1]
 have e1:((256:Int)<m.length)=False:=ff;by_cases a2:e< -32768\/32768<e
 ·have e2:(decide (-32768<=e)&&decide (e<=32768))=false:=by
   grind
  rw[if_pos (Or.inr a2)];simp only[pA,af,ai,aB,go_sem,e1,zT,e2]
 have e2:(decide (-32768<=e)&&decide (e<=32768))=true:=by
  grind
 rw[if_neg (fun h=>h.elim a1 a2)];have hc:=mO (neg:=neg) (e:=e) hb ω ⟨by omega,by omega⟩;have hL:Lb (bg neg (ab m) e).m:=by
  rw[xw];split
  ·exact fun x hx=>nomatch hx
  grind[bh]
 have hN:(bg neg (ab m) e).m.length<=100000:=by
  rw[xw];split
  ·exact aC7 _
  ·have h5:(aA (ab m/2^tz (ab m))).length<=m.length:=lq (aDe (Nat.div_le_self _ _) (di hb));grind
 have hd:=Cg hL hN;generalize bg neg (ab m) e=d at hc hd⊢;simp only[af,ai]at hc hd;cases hv:rI (ag (ab d.m)) d.e with
 |false=>
  rw[hv,if_neg (fun h=>nomatch h)]at hd;simp only[pA,af,ai,aB,go_sem,e1,zT,e2,hc,hd]
 |true=>
  rw[hv,if_pos rfl]at hd;simp only[pA,af,ai,go_sem,e1,zT,e2,hc,hd]
def mg(d:Rd):Nat:=ab d.m*2^ (d.e+16384).toNat
def zI(d:Rd):Int:=if d.neg=true then-(mg d:Int)else mg d
theorem akh{x k:Nat}(hk:0<k):cK (x*k) (y*k)=cK x y:=by
 simp_all[cK,Nat.mul_lt_mul_right,if_pos,if_neg]
theorem JE{x:Nat}(h:ag x<ag y):x<y:=by
 have h1:=(bH (n:=x) (k:=ag x)).1 (aCJ _);have h2:=kW.1 h;omega
variable{d:Rd}
theorem dQ(h:vd d=true)(h0:d.m.length≠0):ab d.m≠0:=by
 obtain⟨h1,h2,h3,h4⟩:=zU h h0;have:=gA d.m 0;grind
theorem Iq(h:vd d=true)(hb:Lb d.m)(h0:d.m.length≠0):(ag (mg d):Int)=aN d+16384:=by
 obtain⟨h1,h2,h3,h4⟩:=dj h hb;unfold mg aN;rw[dJ _ (dQ h h0),if_neg (fun h'=>h'.elim (fun h''=>by grind) h0)];omega
theorem xx(h1:-16384<=e)(h2:e<=d.e):mg d=ab d.m*2^ (d.e-e).toNat*2^ (e+16384).toNat:=by
 unfold mg;rw[aC9,←aCU];grind
theorem aX{k:Nat}(h:ag n<=32*k):(aA n).length<=k:=by
 refine lq ?_;have:=bH.1 h;grind[Nat.pow_mul]
variable{a b:Rd}
theorem aeP(oa:Ok0 a)(ob:Ok0 b)(va:vd a=true)(vb:vd b=true)(na:a.m.length≠0)(nb:b.m.length≠0):R fa0 [af a,af b] []=some (I (cK (mg a) (mg b)),[]):=by
 refine au OT rfl ?_;have ta:=zV oa;have tb:=zV ob;have ba:=Iq va oa.lb na;have bb:=Iq vb ob.lb nb;simp only[af,ai]at ta tb;by_cases h1:aN a<aN b
 ·have h2:cK (mg a) (mg b)=-1:=by
   rw[cK,if_pos (JE ω)]
  have e1:(aN a<aN b)=True:=tt h1;rw[h2];simp only[nP,af,ai,go_sem,ta,tb,e1]
 have e1:(aN a<aN b)=False:=ff h1;by_cases h2:aN b<aN a
 ·have h3:cK (mg a) (mg b)=1:=by
   have:=JE (x:=mg b) (y:=mg a) ω;rw[cK,if_neg ω,if_pos this]
  have e2:(aN b<aN a)=True:=tt h2;rw[h3];simp only[nP,af,ai,go_sem,ta,tb,e1,e2]
 have e2:(aN b<aN a)=False:=ff h2;obtain⟨a1,a2,a3,a4⟩:=dj va oa.lb;obtain⟨b1,b2,b3,b4⟩:=dj vb ob.lb;obtain⟨e,hm⟩:∃e,(if b.e<a.e then b.e else a.e)=e:=⟨_,rfl⟩;have hea:e<=a.e/\e<=b.e/\(e=a.e\/e=b.e):=by
  omega
 obtain⟨m1,m2,m3⟩:=hea;have ka:aG (a.e-e)=(((a.e-e).toNat:Nat):Int):=wi;have kb:aG (b.e-e)=(((b.e-e).toNat:Nat):Int):=wi;have hta:aN a=(ag (ab a.m):Nat)+a.e:=by
  simp_all[aN,if_neg]
 have htb:aN b=(ag (ab b.m):Nat)+b.e:=by
  simp_all[aN,if_neg]
 have la:(aA (ab a.m*2^ (a.e-e).toNat)).length<=256:=aX (by
  grind[dJ,dQ])
 have lb:(aA (ab b.m*2^ (b.e-e).toNat)).length<=256:=aX (by
  grind[dJ,dQ])
 have sa:=E2 oa.lb a1 (k:=(a.e-e).toNat) ω la;have sb:=E2 ob.lb b1 (k:=(b.e-e).toNat) ω lb;have hc:=Cf (bh (ab a.m*2^ (a.e-e).toNat)) (bh (ab b.m*2^ (b.e-e).toNat)) (aCP la δ) (aCP lb δ);rw[aT,aT,←akh (k:=2^ (e+16384).toNat) (aC1 _),←xx ω m1,←xx ω m2]at hc;simp only[nP,af,ai,go_sem,ta,tb,e1,e2,hm,ka,kb,sa,sb,hc]
def cM(x y:Int):Int:=if x<y then-1 else if y<x then 1 else 0
def cX(d:Rd):Int:=if d.m.length=0 then 0 else if d.neg=true then-1 else 1
theorem SS(h0:d.m.length=0):mg d=0:=by
 unfold mg;rw[List.length_eq_zero_iff.1 h0];exact Nat.zero_mul _
theorem Ir(h:vd d=true)(h0:d.m.length≠0):0<mg d:=
 Nat.mul_pos (Nat.pos_of_ne_zero (dQ h h0)) (aC1 _)
theorem Gc(d:Rd)(h:vd d=true):(cX d=0/\zI d=0/\d.m.length=0)\/(cX d=-1/\zI d=-(mg d:Int)/\0<mg d/\d.m.length≠0)\/(cX d=1/\zI d=mg d/\0<mg d/\d.m.length≠0):=by
 unfold cX zI;by_cases h0:d.m.length=0
 ·grind[SS]
 ·have:=Ir h h0;grind
theorem AI(ok:Ok0 d)(hv:vd d=true):R faU [af d] []=some (I (cX d),[]):=by
 simp_all[SR,cX,if_pos,if_neg]
theorem pG(oa:Ok0 a)(ob:Ok0 b):R faO [af a,af b] []=some (I (if vd a=true/\vd b=true then cM (zI a) (zI b)else 0),[]):=by
 refine au XK rfl ?_;have va:=eS oa;have vb:=eS ob;simp only[af,ai]at va vb;cases ha:vd a with
 |false=>
  rw[ha]at va;simp only[kZ,af,ai,go_sem,va]
 |true=>
 rw[ha]at va;cases hb:vd b with
 |false=>
  rw[hb]at vb;simp only[kZ,af,ai,go_sem,va,vb]
 |true=>
 rw[hb]at vb;have sa:=AI oa ha;have sb:=AI ob hb;have ca:=Gc a ha;have cb:=Gc b hb;simp only[af,ai]at sa sb;by_cases h1:cX a<cX b
 ·have e1:(cX a<cX b)=True:=tt h1;have e2:cM (zI a) (zI b)=-1:=if_pos ω;rw[e2];simp only[kZ,af,ai,go_sem,va,vb,sa,sb,e1]
 have e1:(cX a<cX b)=False:=ff h1;by_cases h2:cX b<cX a
 ·have e2:(cX b<cX a)=True:=tt h2;have e3:cM (zI a) (zI b)=1:=by rw[cM,if_neg ω,if_pos ω]
  rw[e3];simp only[kZ,af,ai,go_sem,va,vb,sa,sb,e1,e2]
 have e2:(cX b<cX a)=False:=ff h2;by_cases h3:cX a=0
 ·have e3:(cX a=0)=True:=tt h3;have e4:cM (zI a) (zI b)=0:=by rw[cM,if_neg ω,if_neg ω]
  rw[e4];simp only[kZ,af,ai,go_sem,va,vb,sa,sb,e1,e2,e3]
 have e3:(cX a=0)=False:=ff h3;have hc:=aeP oa ob ha hb ω ω;simp only[af,ai]at hc;have e4:IntKind.i64.wrap (cX a*cK (mg a) (mg b))=cM (zI a) (zI b):=by
  have hp:cX a*cK (mg a) (mg b)=cM (zI a) (zI b):=by
   rcases ca with ca|ca|ca
   ·omega
   ·rw[ca.1,ca.2.1];unfold cK cM;omega
   ·rw[ca.1,ca.2.1];unfold cK cM;omega
  rw[hp];unfold cM;split
  ·decide
  ·split<;>decide
 simp only[kZ,af,ai,go_sem,va,vb,sa,sb,e1,e2,e3,hc,e4]
theorem tw(x y:Nat):ag (x*y)<=ag x+ag y:=by
 rw[bH,aCU];exact Nat.mul_lt_mul'' (bH.1 (aCJ _)) (bH.1 (aCJ _))
theorem qW(neg:Bool)(M:Nat)(e:Int):Lb (bg neg M e).m:=by
 rw[xw];split
 ·exact fun x hx=>nomatch hx
 grind[bh]
theorem qj{k:Nat}(h:ag M<=32*k):(bg neg M e).m.length<=k:=by
 rw[xw];split
 ·exact aC7 _
 ·refine aX ?_;grind[l8]
def JF(d:Rd):AV:=if rI (ag (ab d.m)) d.e=true then .tup [af d,I 0]else .tup [af aB,I 9]
def Wj(a b:Rd):AV:=if vd a=true/\vd b=true then if a.m.length=0\/b.m.length=0 then .tup [af aB,I 0]else if 4096<ag (ab a.m)+ag (ab b.m)-1 then .tup [af aB,I 9]else JF (bg (a.neg !=b.neg) (ab a.m*ab b.m) (a.e+b.e))else .tup [af aB,I 1]
theorem xz(a b:Bool):(true != (a==b))=(a !=b):=by cases a<;>cases b<;>rfl
theorem am3(oa:Ok0 a)(ob:Ok0 b):R faR [af a,af b] []=some (Wj a b,[]):=by
 refine au XP rfl ?_;unfold Wj;have va:=eS oa;have vb:=eS ob;simp only[af,ai]at va vb;cases ha:vd a with
 |false=>
  rw[ha]at va;simp only[jO,af,ai,aB,go_sem,va]
 |true=>
 rw[ha]at va;cases hb:vd b with
 |false=>
  rw[hb]at vb;simp only[jO,af,ai,aB,go_sem,va,vb]
 |true=>
 rw[hb]at vb;rw[if_pos ⟨rfl,rfl⟩];by_cases a0:a.m.length=0
 ·have e1:((a.m.length:Int)=0)=True:=tt;rw[if_pos (Or.inl a0)];simp only[jO,af,ai,aB,go_sem,va,vb,e1]
 have e1:((a.m.length:Int)=0)=False:=ff;by_cases b0:b.m.length=0
 ·have e2:((b.m.length:Int)=0)=True:=tt;rw[if_pos (Or.inr b0)];simp only[jO,af,ai,aB,go_sem,va,vb,e1,e2]
 have e2:((b.m.length:Int)=0)=False:=ff;rw[if_neg (fun h=>h.elim a0 b0)];obtain⟨a1,a2,a3,a4⟩:=dj ha oa.lb;obtain⟨b1,b2,b3,b4⟩:=dj hb ob.lb;have za:=yC oa.lb (aCP a1 δ);have zb:=yC ob.lb (aCP b1 δ);have pa:=gM (dQ ha a0);have w1:aG (((ag (ab a.m):Nat):Int)+(ag (ab b.m):Nat))=((ag (ab a.m)+ag (ab b.m):Nat):Int):=wi;have w2:aG (((ag (ab a.m)+ag (ab b.m):Nat):Int)-1)=((ag (ab a.m)+ag (ab b.m)-1:Nat):Int):=wi;by_cases c0:4096<ag (ab a.m)+ag (ab b.m)-1
 ·have e3:((4096:Int)< ((ag (ab a.m)+ag (ab b.m)-1:Nat):Int))=True:=tt;rw[if_pos c0];simp only[jO,af,ai,aB,go_sem,va,vb,e1,e2,za,zb,w1,w2,e3]
 have e3:((4096:Int)< ((ag (ab a.m)+ag (ab b.m)-1:Nat):Int))=False:=ff;rw[if_neg c0];have hp:=tw (ab a.m) (ab b.m);have hl:(aA (ab a.m*ab b.m)).length<=129:=aX ω;have hm:=agS oa.lb ob.lb a1 b1;rw[mA,if_neg ω]at hm;have w3:aG (a.e+b.e)=a.e+b.e:=i64_in _ ⟨by omega,by omega⟩;have hc:=mO (neg:=a.neg !=b.neg) (e:=a.e+b.e) (bh (ab a.m*ab b.m)) (aCP hl δ) ⟨by omega,by omega⟩;rw[aT]at hc;have hd:=Cg (qW (a.neg !=b.neg) (ab a.m*ab b.m) (a.e+b.e)) (aCP (qj (k:=129) ω) δ);unfold JF;generalize bg (a.neg !=b.neg) (ab a.m*ab b.m) (a.e+b.e)=d at hc hd⊢;simp only[af,ai]at hc hd;cases hv:rI (ag (ab d.m)) d.e with
 |false=>
  rw[hv,if_neg (fun h=>nomatch h)]at hd;rw[if_neg (fun h=>nomatch h)];simp only[jO,af,ai,aB,go_sem,va,vb,e1,e2,za,zb,w1,w2,w3,e3,hm,xz,hc,hd]
 |true=>
  rw[hv,if_pos rfl]at hd;rw[if_pos rfl];simp only[jO,af,ai,go_sem,va,vb,e1,e2,za,zb,w1,w2,w3,e3,hm,xz,hc,hd]
theorem QZ:R fd0 [I p] []=some (B (decide (8<=p)&&decide (p<=512)),[]):=by
 refine au QO rfl ?_;by_cases a1:¬ (8<=p)
 ·simp only[uw,go_sem,a1]
 replace a1:=Decidable.not_not.1 a1
 simp only[uw,go_sem,a1]
theorem xH(hb:Lb m):ag (ab m)<=32*m.length:=by
 rw[bH,Nat.pow_mul];exact di hb
def zW(m:List Nat)(e:Int)(more:Bool):AV:=.agg [lm m,I e,B more]
theorem atv:R fdZ [af d] []=some (zW d.m d.e false,[]):=by
 refine au aeF rfl ?_;simp only[HJ,af,ai,zW,go_sem]
theorem C7(hb:Lb m)(h1:m.length<=256){k:Nat}(hk:k<=65536)(hl:(aA (ab m*2^k)).length<=256):R fd2 [lm m,I k] []=some (lm (aA (ab m*2^k)),[]):=by
 refine au aa5 rfl ?_;have hs:=agT (n:=(k:Nat)) hb h1;rw[if_neg ω,aCQ,mA,if_neg ω]at hs;simp only[FS,go_sem,hs]
theorem agW{x:Nat}:cK x y=0↔x=y:=by
 unfold cK;constructor
 ·intro h;split at h
  ·exact nomatch h
  ·split at h
   ·exact nomatch h
   ·omega
 ·intro h;rw[if_neg ω,if_neg ω]
theorem aki{x:Nat}:x/2^ (min n (ag x))=x/2^n/\(x/2^ (min n (ag x))*2^ (min n (ag x))=x↔x%2^n=0):=by
 by_cases h:n<=ag x
 ·rw[aDx h];refine⟨rfl,?_⟩;have:=aDC x (2^n);rw[aC6]at this;omega
 ·have hb:x<2^ag x:=bH.1 (aCJ _);have hn:x<2^n:=bH.1 ω;rw[Nat.min_eq_right ω,Nat.div_eq_of_lt hb,Nat.div_eq_of_lt hn,aDq hn,Nat.zero_mul];exact⟨rfl,⟨fun h=>h.symm,fun h=>h.symm⟩⟩
theorem abK(hb:Lb m)(h1:m.length<=256)(hn:n<4611686018427387904):R fd3 [lm m,I n] []=some (.tup [lm (aA (ab m/2^n)),B (decide (ab m%2^n≠0))],[]):=by
 refine au aa7 rfl ?_;have hB:=Ip hb (aCP h1 δ);have hlen:=xH hb;obtain⟨q1,q2⟩:=aki (x:=ab m) (n:=n);generalize hk:min n (ag (ab m))=k at q1 q2;have k1:k<=8192:=ω
 have hs:=agV (n:=(k:Nat)) hb h1;rw[if_neg ω,aCQ,q1]at hs;rw[q1]at q2;have hle:ab m/2^n*2^k<=ab m:=by
  rw[←q1];exact Nat.div_mul_le_self _ _
 have l1:(aA (ab m/2^n)).length<=m.length:=lq (aDe (Nat.div_le_self _ _) (di hb));have l2:(aA (ab m/2^n*2^k)).length<=m.length:=lq (aDe hle (di hb));have hl:=C7 (bh (ab m/2^n)) ω (k:=k) ω (by rw[aT];omega);rw[aT]at hl;have hc:=Cf (bh (ab m/2^n*2^k)) hb ω ω;rw[aT]at hc;have hz:decide (ab m%2^n≠0)=!decide (cK (ab m/2^n*2^k) (ab m)=0):=by
  rw[←decide_not,decide_eq_decide,ne_eq,not_congr (agW.trans q2)]
 rw[hz];generalize cK (ab m/2^n*2^k) (ab m)=c at hc⊢;by_cases h:ag (ab m)<n
 ·have e2:k=ag (ab m):=ω
  have e1:((k:Int)<n)=True:=tt;rw[←e2]at hB;simp only[Cb,go_sem,hB,e1,hs,hl,hc]
 ·have e1:(((ag (ab m):Nat):Int)<n)=False:=ff;have e2:k=n:=ω
  subst e2;simp only[Cb,go_sem,hB,e1,hs,hl,hc]
def wG(l:List Rd):List (List AV):=l.map ai
def eC(l:List Rd):AV:=.sl 3 (wG l)
@[go_sem] theorem am4(l:List Rd):(wG l).length=l.length:=by simp[wG]
theorem ML{l:List Rd}(hi:i=n)(h:l[n]?=some d):aZ (wG l) i=some (.ipt (ai d)):=by
 grind[aZ,wG]
theorem aeQ(p:Int)(l:List Rd)(ok:∀d∈l,Ok0 d)(h2:l.length<=100000):∀ (k i:Nat),i+k=l.length->∀ (s:ap) (h:ae),s 0=I p->s 7=eC l->s 8=I l.length->s 9=I i->
  ∃hh,ak 0 [0] (av (am R (az false) pR) [0,7,8,9] [] s h)=if((l.drop i).all vd)=true then some (.normal,⟨upd bk 0 (I p),fun _=>.dead⟩)else some (.ret,⟨upd bk 4 (I 1),hh⟩):=by
 intro k;induction k with
 |zero=>
  intro i hi s h h0 h7 h8 h9;have e1:((i:Int)<l.length)=False:=ff;rw[aC3 ω,ah,List.all_nil,if_pos rfl];refine⟨fun _=>.dead,?_⟩;simp only[pR,go_sem,h0,h7,h8,h9,e1]
 |succ k ih=>
  intro i hi s h h0 h7 h8 h9;have hlt:i<l.length:=ω
  have e1:((i:Int)<l.length)=True:=tt;have e2:aZ (wG l) (i:Int)=some (.ipt (ai l[i])):=ML rfl (List.getElem?_eq_getElem hlt);have e5:aG ((i:Int)+1)=((i+1:Nat):Int):=wi;have e3:=eS (ok l[i] (aC0 hlt));rw[aC4 hlt,aDb,ah];have ih':=ih (i+1) ω;generalize l[i]=d at e2 e3⊢;simp only[af]at e3;simp only[ai]at e2 e3;cases hv:vd d with
  |false=>
   rw[hv]at e3;refine⟨?hh,?_⟩;rotate_left;simp only[pR,go_sem,h0,h7,h8,h9,eC,e1,e2,e3];rfl
  |true=>
   rw[hv]at e3;simp only[pR,go_sem,h0,h7,h8,h9,eC,e1,e2,e3,e5];exact ih' _ _ rfl rfl rfl rfl
def aY(p:Int)(l:List Rd):Int:=if l.all vd=true then(if 8<=p/\p<=512 then 0 else 2)else 1
theorem C8{l:List Rd}(ok:∀d∈l,Ok0 d)(h2:l.length<=100000):R fdX [I p,eC l] []=some (I (aY p l),[]):=by
 refine au VF rfl ?_;have h3:=aeQ p l ok h2 l.length 0 (aCI _);simp only[aDI,aDf]at h3;unfold aY;cases ha:l.all vd with
 |false=>
  rw[ha]at h3;simp only[sR,Ah,go_sem,eC];rw[(h3 _ _ rfl rfl rfl rfl).choose_spec];simp only[go_sem]
 |true=>
  rw[ha]at h3;by_cases hp:8<=p/\p<=512
  ·have e1:(decide (8<=p)&&decide (p<=512))=true:=γ
   have e2:=QZ (p:=p);rw[e1]at e2;rw[if_pos hp];simp only[sR,Ah,go_sem,eC];rw[(h3 _ _ rfl rfl rfl rfl).choose_spec];simp only[go_sem,e2]
  ·have e1:(decide (8<=p)&&decide (p<=512))=false:=by
    grind
   have e2:=QZ (p:=p);rw[e1]at e2;rw[if_neg hp];simp only[sR,Ah,go_sem,eC];rw[(h3 _ _ rfl rfl rfl rfl).choose_spec];simp only[go_sem,e2]
noncomputable def fL:Cmd:=.seq (.seq (.ops [1,2,6,8,9,55] [cm 52 2,cm 53 52,cg 54 53 true (.mv (.t 10)),co 55 (.pick (.t 53) (.t 54) (.c (.v (.bool false))))]) (.cond (.t 55) (.ops [1,2,6,8,9] [cm 57 9,⟨(some 58),none,.buildSl 1 [(.v (.int .u32 0))] 1 [(0,(.c (.v (.int .u32 1))))]⟩,⟨(some 59),none,.call (.c (.fn fcr [] [])) [(.t 57),(.t 58)]⟩,cm 56 59,co 60 (.ext 0 (.t 56)),co 61 (.ext 1 (.t 56)),cm 9 60]) (.skip))) (.seq (.seq (.ops [1,2,6,8,9,66] [cm 62 9,⟨(some 63),none,.call (.c (.fn fcs [] [])) [(.t 62)]⟩,cm 64 8,co 65 (.bin .add (.t 63) (.t 64)),co 66 (.bin .gtr (.t 65) (.c (.v (.int .i64 16384))))]) (.cond (.t 66) (.seq (.seq (.ops [1,6,67] [cm 67 2]) (.cond (.t 67) (.seq (.ops [6,7] [co 68 (.build [(.v (.bool false)),.emp,(.v (.int .i64 0))] []),⟨none,none,.store 3 (.t 6) (.t 68)⟩,co 7 (.mv (.c (.v (.int .i64 9))))]) (.ret)) (.skip))) (.seq (.ops [1,6,9] [⟨(some 70),none,.buildSl 1 [(.v (.int .u32 0))] 1 [(0,(.c (.v (.int .u32 1))))]⟩,cm 71 1,⟨(some 72),none,.call (.c (.fn fd2 [] [])) [(.t 70),(.t 71)]⟩,⟨(some 73),none,.buildSl 1 [(.v (.int .u32 0))] 1 [(0,(.c (.v (.int .u32 1))))]⟩,⟨(some 74),none,.call (.c (.fn fcy [] [])) [(.t 72),(.t 73)]⟩,cm 69 74,co 75 (.ext 0 (.t 69)),co 76 (.ext 1 (.t 69)),cm 9 75]) (.ops [6,8,9] [cm 77 1,co 78 (.bin .sub (.c (.v (.int .i64 16384))) (.t 77)),cm 8 78]))) (.skip))) (.seq (.ops [6,7] [cm 79 9,cm 80 8,⟨(some 81),none,.call (.c (.fn faQ [] [])) [(.c (.v (.bool false))),(.t 79),(.t 80)]⟩,co 82 (.ext 0 (.t 81)),co 83 (.ext 1 (.t 81)),⟨none,none,.store 3 (.t 6) (.t 82)⟩,cm 7 83]) (.ret)))
theorem AJ:N8=.seq (.ops [1,2,3,6] [⟨(some 3),none,.box 3 (.t 0)⟩,⟨(some 6),none,.alloc [(.v (.bool false)),.emp,(.v (.int .i64 0))]⟩,co 7 (.mv (.c (.v (.int .i64 0))))]) (.seq (.dops [1,2,3,6,8] [co 13 (.fadr 1 (.t 3)),⟨(some 14),none,.load 1 false (.t 13)⟩,co 15 (.fadr 0 (.t 3)),⟨(some 16),none,.load 1 false (.t 15)⟩,⟨(some 17),none,.call (.c (.fn fcs [] [])) [(.t 16)]⟩,co 18 (.bin .add (.t 14) (.t 17)),cm 19 1,co 20 (.bin .sub (.t 18) (.t 19)),co 21 (.mnx false (.t 20) [(.c (.v (.int .i64 (-16384))))]),cm 8 21] [(1,4)]) (.seq (.dops [1,2,3,6,8,10] [co 22 (.fadr 0 (.t 3)),⟨(some 23),none,.load 1 false (.t 22)⟩,co 24 (.fadr 2 (.t 3)),⟨(some 25),none,.load 1 false (.t 24)⟩,cm 9 23,cm 10 25] []) (.seq (.seq (.ops [1,2,3,6,8,10,29] [co 26 (.fadr 1 (.t 3)),⟨(some 27),none,.load 1 false (.t 26)⟩,cm 28 8,co 29 (.bin .geq (.t 27) (.t 28))]) (.cond (.t 29) (.ops [1,2,6,8,9,10] [co 30 (.fadr 0 (.t 3)),⟨(some 31),none,.load 1 false (.t 30)⟩,co 32 (.fadr 1 (.t 3)),⟨(some 33),none,.load 1 false (.t 32)⟩,cm 34 8,co 35 (.bin .sub (.t 33) (.t 34)),⟨(some 36),none,.call (.c (.fn fd2 [] [])) [(.t 31),(.t 35)]⟩,cm 9 36]) (.seq (.ops [1,2,6,8,10,11,12] [co 38 (.fadr 0 (.t 3)),⟨(some 39),none,.load 1 false (.t 38)⟩,cm 40 8,co 41 (.fadr 1 (.t 3)),⟨(some 42),none,.load 1 false (.t 41)⟩,co 43 (.bin .sub (.t 40) (.t 42)),⟨(some 44),none,.call (.c (.fn fd3 [] [])) [(.t 39),(.t 43)]⟩,cm 37 44,co 45 (.ext 0 (.t 37)),co 46 (.ext 1 (.t 37)),cm 11 45,cm 12 46]) (.ops [1,2,6,8,9,10] [cm 47 11,cm 48 10,cm 49 48,cg 50 49 false (.mv (.t 12)),co 51 (.pick (.t 49) (.c (.v (.bool true))) (.t 50)),cm 9 47,cm 10 51])))) fL))):=rfl
def fk(M:Nat)(e:Int)(p:Int):Int:=if e+(ag M:Nat)-p< -16384 then-16384 else e+(ag M:Nat)-p
def qk(M:Nat)(e:Int)(more:Bool)(u:Int):Nat×Bool:=if u<=e then(M*2^ (e-u).toNat,more)else(M/2^ (u-e).toNat,more||decide (M%2^ (u-e).toNat≠0))
def nu(up:Bool)(q:Nat×Bool):Nat:=if(up&&q.2)=true then q.1+1 else q.1
def E3(q:Nat)(u:Int):AV:=JF (bg false q u)
def Ys(p:Int)(up:Bool)(q:Nat)(u:Int):AV:=if 16384< (ag q:Nat)+u then(if up=true then .tup [af aB,I 9]else E3 (2^p.toNat-1) (16384-p))else E3 q u
theorem abL(hq:ag q<=8192)(h1:-32768<=u)(h2:u<=32768):R faQ [B false,lm (aA q),I u] []=some (E3 q u,[]):=by
 have hl:(aA q).length<=256:=aX ω;rw[am2 (bh q) (aDe hl δ),if_neg ω,aT];rfl
theorem agX(hq:ag q<=8000):R fcr [lm (aA q),lm [1]] []=some (.tup [lm (aA (q+1)),I 0],[]):=by
 have hl:(aA q).length<=250:=aX ω;have h1:Lb [1]:=fun x hx=>by
  grind
 have h2:ag (q+1)<=8001:=Pe hq;have hl2:(aA (q+1)).length<=256:=aX ω;rw[agO (bh q) h1 ω δ,aT];show some (mA (q+1),[])=_
 simp_all[mA,if_neg]
theorem abM:ab [1]=1:=rfl
theorem agY:Lb [1]:=fun x hx=>by
 grind
theorem aqa(n:Nat)(hn:n<=1000):R fd2 [lm [1],I (n:Nat)] []=some (lm (aA (2^n)),[])/\R fcy [lm (aA (2^n)),lm [1]] []=some (.tup [lm (aA (2^n-1)),I 0],[]):=by
 have hb:ag (2^n)<=n+1:=by
  simp_all[bH,Nat.pow_lt_pow_right,Nat.lt_succ_self]
 have h1:(aA (2^n)).length<=256:=aX ω;have h2:=C7 agY δ (k:=n) ω (by simp_all[abM,Nat.one_mul]);have h3:=agQ (bh (2^n)) agY h1 δ;have h4:0<2^n:=aC1 n;have h5:ag (2^n-1)<=n:=by
  rw[bH];omega
 have h6:(aA (2^n-1)).length<=256:=aX ω
 simp_all[aT,abM,if_neg,mA]
theorem Ge:AV.sl 1 [[AV.v (.int .u32 1)]]=lm [1]:=rfl
theorem Pg{up:Bool}(hp:8<=n/\n<=512)(hq:ag q<=7000)(hu:-16384<=u/\u<=60000)(s:ap)(z:Ob)
  (h1:s 1=I (n:Nat)) (h2:s 2=B up) (h6:s 6=ac 6) (h8:s 8=I u) (h9:s 9=lm (aA q)) (h10:s 10=B more):
  kj false [[.o 0 [],.o 2 [],.o 0 []],[]] [.cell 6 3 true,.t 7] 0 (am R (az false) fL s (upd (upd (fun _=>.dead) 3 z) 6 (.bx [.v (.bool false),.emp,.v (.int .i64 0)])))=some (Ys (n:Nat) up (nu up (q,more)) u,[]):=by
 have hi:=agX (q:=q) ω;obtain⟨t1,t2⟩:=aqa n ω;have hb:ag (nu up (q,more))<=7001:=by
  unfold nu;split
  ·exact Pe hq
  grind
 have hB:=Ip (bh (nu up (q,more))) (aCP (aX (k:=256) ω) δ);rw[aT]at hB;have w1:aG (((ag (nu up (q,more)):Nat):Int)+u)=((ag (nu up (q,more)):Nat):Int)+u:=i64_in _ ⟨by omega,by omega⟩;have w2:aG (16384- (n:Int))=16384- (n:Int):=i64_in _ ⟨by omega,by omega⟩;have hm2:R faQ [B false,lm (aA (2^n-1)),I (16384- (n:Int))] []=some (E3 (2^n-1) (16384- (n:Int)),[]):=abL (akd ω) ω ω;unfold Ys;by_cases ho:16384< ((ag (nu up (q,more)):Nat):Int)+u
 ·have e1:(16384< ((ag (nu up (q,more)):Nat):Int)+u)=True:=tt ho;rw[if_pos ho,aCQ];clear ho hb;cases up with
  |false=>
   simp only[nu,aCO,if_neg aCR]at hB w1 e1⊢;unfold E3 JF at hm2⊢;generalize bg false (2^n-1) (16384- (n:Int))=dd at hm2⊢;simp only[af,ai]at hm2;cases hv:rI (ag (ab dd.m)) dd.e with
   |true=>
    rw[hv]at hm2;rw[if_pos rfl]at hm2⊢;simp only[fL,af,ai,go_sem,h1,h2,h6,h8,h9,h10,hB,w1,e1,w2,t1,t2,Ge,hm2]
   |false=>
    rw[hv]at hm2;simp only[fL,af,ai,aB,go_sem,h1,h2,h6,h8,h9,h10,hB,w1,e1,w2,t1,t2,Ge,hm2]
  |true=>
   cases more with
   |false=>
    simp only[nu,aDH,if_neg aCR]at hB w1 e1⊢;simp only[fL,af,ai,aB,go_sem,h1,h2,h6,h8,h9,h10,hB,w1,e1]
   |true=>
    simp only[nu,Bool.and_true,if_true]at hB w1 e1⊢;simp only[fL,af,ai,aB,go_sem,h1,h2,h6,h8,h9,h10,hB,w1,e1,hi,Ge]
 ·have e1:(16384< ((ag (nu up (q,more)):Nat):Int)+u)=False:=ff ho;rw[if_neg ho];have hm:=abL (q:=nu up (q,more)) (u:=u) ω ω ω;clear ho hb;cases up with
  |false=>
   simp only[nu,aCO,if_neg aCR]at hB w1 e1 hm⊢;unfold E3 JF at hm⊢;generalize bg false q u=dd at hm⊢;simp only[af,ai]at hm;cases hv:rI (ag (ab dd.m)) dd.e with
   |true=>
    rw[hv]at hm;rw[if_pos rfl]at hm⊢;simp only[fL,af,ai,go_sem,h1,h2,h6,h8,h9,h10,hB,w1,e1,hm]
   |false=>
    rw[hv]at hm;simp only[fL,af,ai,aB,go_sem,h1,h2,h6,h8,h9,h10,hB,w1,e1,hm]
  |true=>
   cases more with
   |false=>
    simp only[nu,aDH,if_neg aCR]at hB w1 e1 hm⊢;unfold E3 JF at hm⊢;generalize bg false q u=dd at hm⊢;simp only[af,ai]at hm;cases hv:rI (ag (ab dd.m)) dd.e with
    |true=>
     rw[hv]at hm;rw[if_pos rfl]at hm⊢;simp only[fL,af,ai,go_sem,h1,h2,h6,h8,h9,h10,hB,w1,e1,hm]
    |false=>
     rw[hv]at hm;simp only[fL,af,ai,aB,go_sem,h1,h2,h6,h8,h9,h10,hB,w1,e1,hm]
   |true=>
    simp only[nu,Bool.and_true,if_true]at hB w1 e1 hm⊢;unfold E3 JF at hm⊢;generalize bg false (q+1) u=dd at hm⊢;simp only[af,ai]at hm;cases hv:rI (ag (ab dd.m)) dd.e with
    |true=>
     rw[hv]at hm;rw[if_pos rfl]at hm⊢;simp only[fL,af,ai,go_sem,h1,h2,h6,h8,h9,h10,hB,w1,e1,hi,Ge,hm]
    |false=>
     rw[hv]at hm;simp only[fL,af,ai,aB,go_sem,h1,h2,h6,h8,h9,h10,hB,w1,e1,hi,Ge,hm]
theorem aqb{M:List Nat}(hb:Lb M)(hl:M.length<=256){up:Bool}(he:-40000<=e/\e<=40000)(hp:8<=n/\n<=512):R fdV [zW M e more,I (n:Nat),B up] []=some (Ys (n:Nat) up (nu up (qk (ab M) e more (fk (ab M) e (n:Nat)))) (fk (ab M) e (n:Nat)),[]):=by
 refine au aa8 rfl ?_;have hB:=Ip hb (aCP hl δ);have hlen:=xH hb;have w1:aG (e+(ag (ab M):Nat))=e+(ag (ab M):Nat):=i64_in _ ⟨by omega,by omega⟩;have w2:aG (e+(ag (ab M):Nat)- (n:Nat))=e+(ag (ab M):Nat)- (n:Nat):=i64_in _ ⟨by omega,by omega⟩;obtain⟨u,hu⟩:∃u,fk (ab M) e (n:Nat)=u:=⟨_,rfl⟩;rw[hu];unfold fk at hu;unfold qk;by_cases hc:u<=e
 ·have e1:(u<=e)=True:=tt hc;rw[if_pos hc];have w3:aG (e-u)=(((e-u).toNat:Nat):Int):=wi;have hq:ag (ab M*2^ (e-u).toNat)<=7000:=by
   grind[dJ]
  by_cases h64:(e-u).toNat<=65536
  ·have hs:=C7 hb ω (k:=(e-u).toNat) h64 (aX ω);simp only[xd,AJ,zW,go_sem,hB,w1,w2,hu,e1,w3,hs];exact Pg hp hq ω _ _ rfl rfl rfl rfl rfl rfl
  omega
 ·have e1:(u<=e)=False:=ff hc;rw[if_neg hc];have w3:aG (u-e)=(((u-e).toNat:Nat):Int):=wi;have hs:=abK hb ω (n:=(u-e).toNat) ω;have hq:ag (ab M/2^ (u-e).toNat)<=7000:=by
   grind[l8]
  cases more with
  |false=>
   rw[Bool.false_or];simp only[xd,AJ,zW,go_sem,hB,w1,w2,hu,e1,w3,hs];exact Pg hp hq ω _ _ rfl rfl rfl rfl rfl rfl
  |true=>
   rw[Bool.true_or];simp only[xd,AJ,zW,go_sem,hB,w1,w2,hu,e1,w3,hs];exact Pg hp hq ω _ _ rfl rfl rfl rfl rfl rfl
def cI(d:Rd):Rd×Int:=if rI (ag (ab d.m)) d.e=true then(d,0)else(aB,9)
def uK(p:Int)(up:Bool)(q:Nat)(u:Int):Rd×Int:=if 16384< (ag q:Nat)+u then(if up=true then(aB,9)else cI (bg false (2^p.toNat-1) (16384-p)))else cI (bg false q u)
def rV(r:Rd×Int):AV:=.tup [af r.1,I r.2]
theorem MM(d:Rd):JF d=rV (cI d):=by
 unfold JF cI;split<;>rfl
theorem am5(p:Int)(up:Bool)(q:Nat)(u:Int):Ys p up q u=rV (uK p up q u):=by
 unfold Ys uK E3;split
 ·split
  ·rfl
  grind[MM]
 grind[MM]
theorem Yt(n:Nat):ag (2^n-1)<=n:=by
 rw[bH];grind
theorem am6(p:Int)(up:Bool)(q:Nat)(u:Int):Lb (uK p up q u).1.m:=by
 have h0:Lb aB.m:=fun x hx=>nomatch hx
 grind[Lb,cI,uK,qW]
theorem akj(p:Int)(up:Bool)(q:Nat)(u:Int)(hp:p.toNat<=8000)(hq:ag q<=8000):(uK p up q u).1.m.length<=256:=by
 have h0:aB.m.length<=256:=aC7 _;have hc:∀d:Rd,d.m.length<=256->(cI d).1.m.length<=256:=fun d hd=>by
  grind[cI]
 grind[uK,qj,aCP,Yt]
def ed(d:Rd):Rd:=if vd d=false\/d.m.length=0 then aB else⟨!d.neg,d.m,d.e⟩
def df(M:Nat)(e:Int)(more:Bool)(p:Int)(up:Bool):Rd×Int:=uK p up (nu up (qk M e more (fk M e p))) (fk M e p)
def iX(neg:Bool)(r:Rd×Int):Rd×Int:=if r.2=0/\neg=true then(ed r.1,r.2)else r
theorem agZ{up:Bool}(hM:ag M<=8192)(hp:8<=n/\n<=512)(he:-40000<=e/\e<=40000):ag (nu up (qk M e more (fk M e (n:Nat))))<=7001:=by
 have hq:ag (qk M e more (fk M e (n:Nat))).1<=7000:=by
  obtain⟨u,hu⟩:∃u,fk M e (n:Nat)=u:=⟨_,rfl⟩;rw[hu];unfold fk at hu;unfold qk;split
  ·grind[dJ]
  grind[l8]
 unfold nu;split
 ·exact Pe hq
 omega
theorem G7{M:List Nat}(hb:Lb M)(hl:M.length<=256){up:Bool}(he:-40000<=e/\e<=40000)(hp:8<=n/\n<=512):R fd4 [B neg,zW M e more,I (n:Nat),B up] []=some (rV (iX neg (df (ab M) e more (n:Nat) (up !=neg))),[]):=by
 refine au SC rfl ?_;have hc:=aqb (more:=more) (up:=up !=neg) hb hl he hp;have hlen:=xH hb;have hB:=agZ (M:=ab M) (e:=e) (more:=more) (up:=up !=neg) ω hp he;rw[am5]at hc;have hL:=am6 (n:Nat) (up !=neg) (nu (up !=neg) (qk (ab M) e more (fk (ab M) e (n:Nat)))) (fk (ab M) e (n:Nat));have hN:=akj (n:Nat) (up !=neg) (nu (up !=neg) (qk (ab M) e more (fk (ab M) e (n:Nat)))) (fk (ab M) e (n:Nat)) ω ω;unfold df;generalize uK (n:Nat) (up !=neg) (nu (up !=neg) (qk (ab M) e more (fk (ab M) e (n:Nat)))) (fk (ab M) e (n:Nat))=r at hc hL hN⊢;obtain⟨d,x⟩:=r;have hn:=Ch (d:=d) ⟨hL,aDe hN δ⟩;simp only[rV,af,ai,zW]at hc hn;unfold iX ed;by_cases hx:x=0
 ·have e1:(x=0)=True:=tt hx;cases neg with
  |false=>
   simp only[rB,rV,af,ai,zW,go_sem,xz,hc,e1]
  |true=>
   simp only[rB,rV,af,ai,zW,go_sem,xz,hc,e1,hn]
 ·have e1:(x=0)=False:=ff hx;simp only[rB,rV,af,ai,zW,go_sem,xz,hc,e1]
def vG(d:Rd)(p:Int)(up:Bool):Rd×Int:=if aY p [d]=0 then iX d.neg (df (ab d.m) d.e false p (up !=d.neg))else(aB,aY p [d])
theorem xI{l:List Rd}(h:aY p l=0):l.all vd=true/\8<=p/\p<=512:=by
 unfold aY at h;split at h
 ·rename_i h1;split at h
  ·rename_i h2;exact⟨h1,h2⟩
  ·exact nomatch h
 ·exact nomatch h
theorem D3(h:vd d=true)(hb:Lb d.m):d.m.length<=128:=by
 obtain⟨h1,h2,h3,h4⟩:=dj h hb;by_cases h0:d.m.length=0
 ·omega
 obtain⟨g1,g2,g3,g4⟩:=zU h h0;have h5:4294967296^ (d.m.length-1)<=ab d.m:=by
  have h6:=Kt (a:=d.m) (i:=d.m.length-1) ω;rw[show d.m.length-1+1=d.m.length by omega,List.take_length]at h6;rw[h6];exact aCP (Nat.le_mul_of_pos_right _ (Nat.pos_of_ne_zero g3)) (Nat.le_add_left _ _)
 have h7:32*(d.m.length-1)<ag (ab d.m):=by
  rw[kW,Nat.pow_mul];exact h5
 omega
theorem JG(ok:Ok0 d){up:Bool}:R fd1 [af d,I p,B up] []=some (rV (vG d p up),[]):=by
 refine au VX rfl ?_;have hf:R fdX [I p,.sl 3 [[B d.neg,lm d.m,I d.e]]] []=some (I (aY p [d]),[]):=C8 (p:=p) (l:=[d]) (fun x hx=>by rw[List.mem_singleton.1 hx];exact ok) (show 1<=100000 by decide);unfold vG;by_cases h0:aY p [d]=0
 ·obtain⟨v1,v2,v3⟩:=xI h0;have v4:vd d=true:=by simpa using v1
  obtain⟨h1,h2,h3,h4⟩:=dj v4 ok.lb;have h5:=D3 v4 ok.lb;rw[if_pos h0];rw[h0]at hf;obtain⟨n,rfl⟩:=aDG (show 0<=p by omega);have hs:=G7 (M:=d.m) (e:=d.e) (n:=n) (more:=false) (up:=up) (neg:=d.neg) ok.lb ω ⟨by omega,by omega⟩ ⟨by omega,by omega⟩;have ho:=atv (d:=d);generalize iX d.neg (df (ab d.m) d.e false (n:Nat) (up !=d.neg))=r at hs⊢;simp only[rV,af,ai,zW]at hs ho;simp only[yq,rV,af,ai,go_sem,hf,hs,ho]
 ·have e1:(aY p [d]=0)=False:=ff h0;rw[if_neg h0];simp only[yq,rV,af,ai,aB,go_sem,hf,e1]
theorem aqc(ok:Ok0 d):R fdT [af d,I p] []=some (rV (vG d p true),[]):=by
 refine au aeE rfl ?_;have hr:=JG ok (p:=p) (up:=true);generalize vG d p true=r at hr⊢;simp only[rV,af,ai]at hr;simp only[HI,rV,af,ai,go_sem,hr]
theorem akk(ok:Ok0 d):R fdO [af d,I p] []=some (rV (vG d p false),[]):=by
 refine au X7 rfl ?_;have hr:=JG ok (p:=p) (up:=false);generalize vG d p false=r at hr⊢;simp only[rV,af,ai]at hr;simp only[Eo,rV,af,ai,go_sem,hr]
def LB(a b:Rd)(p:Int)(up:Bool):Rd×Int:=if aY p [a,b]=0 then(if a.m.length=0\/b.m.length=0 then(aB,0)else iX (a.neg !=b.neg) (df (ab a.m*ab b.m) (a.e+b.e) false p (up != (a.neg !=b.neg))))else(aB,aY p [a,b])
theorem abN(oa:Ok0 a)(ob:Ok0 b){up:Bool}:R fdY [af a,af b,I p,B up] []=some (rV (LB a b p up),[]):=by
 refine au aa1 rfl ?_;have hf:R fdX [I p,.sl 3 [[B a.neg,lm a.m,I a.e],[B b.neg,lm b.m,I b.e]]] []=some (I (aY p [a,b]),[]):=C8 (p:=p) (l:=[a,b]) (fun x hx=>by
  rcases List.mem_cons.1 hx with h|h
  ·rw[h];exact oa
  ·rw[List.mem_singleton.1 h];exact ob) (show 2<=100000 by decide)
 unfold LB;by_cases h0:aY p [a,b]=0
 ·obtain⟨v1,v2,v3⟩:=xI h0;have v4:vd a=true/\vd b=true:=by simpa using v1
  obtain⟨va,vb⟩:=v4;obtain⟨a1,a2,a3,a4⟩:=dj va oa.lb;obtain⟨b1,b2,b3,b4⟩:=dj vb ob.lb;rw[if_pos h0];rw[h0]at hf;by_cases a0:a.m.length=0
  ·have e1:((a.m.length:Int)=0)=True:=tt;rw[if_pos (Or.inl a0)];simp only[sW,rV,af,ai,aB,go_sem,hf,e1]
  have e1:((a.m.length:Int)=0)=False:=ff;by_cases b0:b.m.length=0
  ·have e2:((b.m.length:Int)=0)=True:=tt;rw[if_pos (Or.inr b0)];simp only[sW,rV,af,ai,aB,go_sem,hf,e1,e2]
  have e2:((b.m.length:Int)=0)=False:=ff;rw[if_neg (fun h=>h.elim a0 b0)];obtain⟨n,rfl⟩:=aDG (show 0<=p by omega);have hp:=tw (ab a.m) (ab b.m);have hl:(aA (ab a.m*ab b.m)).length<=256:=aX ω;have hm:=agS oa.lb ob.lb a1 b1;rw[mA,if_neg ω]at hm;have w3:aG (a.e+b.e)=a.e+b.e:=i64_in _ ⟨by omega,by omega⟩;have hs:=G7 (M:=aA (ab a.m*ab b.m)) (e:=a.e+b.e) (n:=n) (more:=false) (up:=up) (neg:=a.neg !=b.neg) (bh _) hl ⟨by omega,by omega⟩ ⟨by omega,by omega⟩;rw[aT]at hs;generalize iX (a.neg !=b.neg) (df (ab a.m*ab b.m) (a.e+b.e) false (n:Nat) (up != (a.neg !=b.neg)))=r at hs⊢;simp only[rV,af,ai,zW]at hs;simp only[sW,rV,af,ai,go_sem,hf,e1,e2,hm,w3,xz,hs]
 ·have e1:(aY p [a,b]=0)=False:=ff h0;rw[if_neg h0];simp only[sW,rV,af,ai,aB,go_sem,hf,e1]
theorem akl(oa:Ok0 a)(ob:Ok0 b):R fdR [af a,af b,I p] []=some (rV (LB a b p true),[]):=by
 refine au vE rfl ?_;have hr:=abN oa ob (p:=p) (up:=true);generalize LB a b p true=r at hr⊢;simp only[rV,af,ai]at hr;simp only[CS,rV,af,ai,go_sem,hr]
theorem aeR(oa:Ok0 a)(ob:Ok0 b):R fdQ [af a,af b,I p] []=some (rV (LB a b p false),[]):=by
 refine au rF rfl ?_;have hr:=abN oa ob (p:=p) (up:=false);generalize LB a b p false=r at hr⊢;simp only[rV,af,ai]at hr;simp only[Au,rV,af,ai,go_sem,hr]
theorem D4{n:Int}(hn:Ku n):R faP [I n] []=some (af (bg (decide (n<0)) n.natAbs 0),[]):=by
 refine au XM rfl ?_;obtain⟨h1,h2⟩:=hn;obtain⟨x,hx⟩:∃x:Nat,n.natAbs=x:=⟨_,rfl⟩;have hv:ab [x%4294967296,x/4294967296]=x:=by
  show x%4294967296+4294967296*(x/4294967296+4294967296*0)=x;omega
 have hL:Lb [x%4294967296,x/4294967296]:=fun y hy=>by
  rcases List.mem_cons.1 hy with h|h
  ·omega
  ·rw[List.mem_singleton.1 h];omega
 have hc:∀neg,R faY [B neg,.sl 1 [[.v (.int .u32 ((x%4294967296:Nat):Int))],[.v (.int .u32 ((x/4294967296:Nat):Int))]],I 0] []=some (af (bg neg x 0),[]):=fun neg=>by
  have:=mO (neg:=neg) (e:=0) hL (by show 2<=256;decide) ⟨by decide,by decide⟩;rw[hv]at this;exact this
 have w2:IntKind.u32.wrap (x:Int)=((x%4294967296:Nat):Int):=Jy rfl;have w3:IntKind.u32.wrap ((x/4294967296:Nat):Int)=((x/4294967296:Nat):Int):=CG rfl ω;have w4:eX .shr (.v (.int .u64 (x:Int))) (.v (.int .u64 32))=some (.v (.int .u64 ((x/4294967296:Nat):Int))):=qE (k:=32) rfl rfl δ;rw[hx];by_cases h0:n<0
 ·have e1:(n<0)=True:=tt h0;have w5:IntKind.u64.wrap (0-IntKind.u64.wrap n)=(x:Int):=by
   have q:∀z:Int,IntKind.u64.wrap z=z%18446744073709551616:=fun z=>rfl;rw[q,q];omega
  have hc':=hc (decide (n<0));generalize bg (decide (n<0)) x 0=d at hc'⊢;rw[decide_eq_true h0]at hc';simp only[af,ai]at hc';simp only[Af,af,ai,go_sem,e1,w2,w3,w4,w5,hc']
 ·have e1:(n<0)=False:=ff h0;have w5:IntKind.u64.wrap n=(x:Int):=dG ω ω;have hc':=hc (decide (n<0));generalize bg (decide (n<0)) x 0=d at hc'⊢;rw[decide_eq_false h0]at hc';simp only[af,ai]at hc';simp only[Af,af,ai,go_sem,e1,w2,w3,w4,w5,hc']
def zB(a b:Rd)(p:Int):Int:=
 if aN a-aN b<=2 then(if b.e< (if aN a-p-8<a.e then aN a-p-8 else a.e)then b.e else(if aN a-p-8<a.e then aN a-p-8 else a.e))
 else(if aN a-p-8<a.e then aN a-p-8 else a.e)
def yZ(b:Rd)(l:Int):Nat×Bool:=if l<=b.e then(ab b.m*2^ (b.e-l).toNat,false)else(ab b.m/2^ (l-b.e).toNat,decide (ab b.m%2^ (l-b.e).toNat≠0))
def wH(y:Nat×Bool):Nat:=if y.2=true then y.1+1 else y.1
def Ey(a b:Rd)(p:Int):(Nat×Int×Bool)×Bool:=
 let l:=zB a b p
 let x:=ab a.m*2^ (a.e-l).toNat
 let y:=yZ b l
 if a.neg=b.neg then((x+y.1,l,y.2),false)
 else if x<wH y then((wH y-x,l,false),true)
 else((x-wH y,l,y.2),false)
theorem ST:zB a b p<=a.e:=by
 unfold zB;have h:(if aN a-p-8<a.e then aN a-p-8 else a.e)<=a.e:=by
  split<;>omega
 generalize(if aN a-p-8<a.e then aN a-p-8 else a.e)=z at h⊢;split
 ·split<;>omega
 ·exact h
theorem jq(h:vd d=true)(h0:d.m.length≠0):aN d=(ag (ab d.m):Nat)+d.e:=by
 rw[aN,if_neg (fun h'=>h'.elim (fun h''=>by rw[h]at h'';exact nomatch h'') h0)]
theorem Ph(va:vd a=true)(vb:vd b=true)(la:Lb a.m)(lb:Lb b.m)(na:a.m.length≠0)(nb:b.m.length≠0)(hp:8<=p/\p<=512)(ht:aN b<=aN a):
  aN a-zB a b p<=4098:=by
 obtain⟨a1,a2,a3,a4⟩:=dj va la;obtain⟨b1,b2,b3,b4⟩:=dj vb lb;have e1:=jq va na;have e2:=jq vb nb;unfold zB;have h:aN a- (if aN a-p-8<a.e then aN a-p-8 else a.e)<=4098:=by
  split<;>omega
 generalize(if aN a-p-8<a.e then aN a-p-8 else a.e)=z at h⊢;split
 ·split<;>omega
 ·exact h
noncomputable def nK:Cmd:=.seq (.seq (.ops [6,8,9,10,11,68] [co 64 (.fadr 0 (.t 3)),⟨(some 65),none,.load 1 false (.t 64)⟩,co 66 (.fadr 0 (.t 4)),⟨(some 67),none,.load 1 false (.t 66)⟩,co 68 (.eqc false 0 (.t 65) (.t 67))]) (.cond (.t 68) (.seq (.ops [6,8,11,12] [cm 70 9,cm 71 10,⟨(some 72),none,.call (.c (.fn fcr [] [])) [(.t 70),(.t 71)]⟩,cm 69 72,co 73 (.ext 0 (.t 69)),co 74 (.ext 1 (.t 69)),cm 12 73,cm 13 74]) (.seq (.ops [6,7] [cm 75 12,cm 76 8,cm 77 11,co 78 (.build [.emp,(.v (.int .i64 0)),(.v (.bool false))] [(0,1,(.t 75)),(1,1,(.t 76)),(2,1,(.t 77))]),⟨none,none,.store 3 (.t 6) (.t 78)⟩,co 7 (.mv (.c (.v (.bool false))))]) (.ret))) (.skip))) (.seq (.seq (.ops [6,8,9,10,11,79] [cm 79 11]) (.cond (.t 79) (.ops [6,8,9,10,11] [cm 81 10,⟨(some 82),none,.buildSl 1 [(.v (.int .u32 0))] 1 [(0,(.c (.v (.int .u32 1))))]⟩,⟨(some 83),none,.call (.c (.fn fcr [] [])) [(.t 81),(.t 82)]⟩,cm 80 83,co 84 (.ext 0 (.t 80)),co 85 (.ext 1 (.t 80)),cm 10 84]) (.skip))) (.seq (.seq (.ops [6,8,9,10,11,89] [cm 86 9,cm 87 10,⟨(some 88),none,.call (.c (.fn fct [] [])) [(.t 86),(.t 87)]⟩,co 89 (.bin .lss (.t 88) (.c (.v (.int .i64 0))))]) (.cond (.t 89) (.seq (.ops [6,8,14] [cm 91 10,cm 92 9,⟨(some 93),none,.call (.c (.fn fcy [] [])) [(.t 91),(.t 92)]⟩,cm 90 93,co 94 (.ext 0 (.t 90)),co 95 (.ext 1 (.t 90)),cm 14 94,cm 15 95]) (.seq (.ops [6,7] [cm 96 14,cm 97 8,co 98 (.build [.emp,(.v (.int .i64 0)),(.v (.bool false))] [(0,1,(.t 96)),(1,1,(.t 97)),(2,1,(.c (.v (.bool false))))]),⟨none,none,.store 3 (.t 6) (.t 98)⟩,co 7 (.mv (.c (.v (.bool true))))]) (.ret))) (.skip))) (.seq (.ops [6,8,11,16] [cm 100 9,cm 101 10,⟨(some 102),none,.call (.c (.fn fcy [] [])) [(.t 100),(.t 101)]⟩,cm 99 102,co 103 (.ext 0 (.t 99)),co 104 (.ext 1 (.t 99)),cm 16 103,cm 17 104]) (.seq (.ops [6,7] [cm 105 16,cm 106 8,cm 107 11,co 108 (.build [.emp,(.v (.int .i64 0)),(.v (.bool false))] [(0,1,(.t 105)),(1,1,(.t 106)),(2,1,(.t 107))]),⟨none,none,.store 3 (.t 6) (.t 108)⟩,co 7 (.mv (.c (.v (.bool false))))]) (.ret)))))
theorem xJ:N7=.seq (.ops [2,3,4,6] [⟨(some 3),none,.box 3 (.t 0)⟩,⟨(some 4),none,.box 3 (.t 1)⟩,⟨(some 6),none,.alloc [.emp,(.v (.int .i64 0)),(.v (.bool false))]⟩,co 7 (.mv (.c (.v (.bool false))))]) (.seq (.dops [3,4,6,8] [co 18 (.fadr 2 (.t 3)),⟨(some 19),none,.load 1 false (.t 18)⟩,⟨(some 20),none,.load 3 true (.t 3)⟩,⟨(some 21),none,.call (.c (.fn faW [] [])) [(.t 20)]⟩,cm 22 2,co 23 (.bin .sub (.t 21) (.t 22)),co 24 (.bin .sub (.t 23) (.c (.v (.int .i64 8)))),co 25 (.mnx true (.t 19) [(.t 24)]),cm 8 25] [(1,3)]) (.seq (.seq (.dops [3,4,6,8,31] [⟨(some 26),none,.load 3 true (.t 3)⟩,⟨(some 27),none,.call (.c (.fn faW [] [])) [(.t 26)]⟩,⟨(some 28),none,.load 3 true (.t 4)⟩,⟨(some 29),none,.call (.c (.fn faW [] [])) [(.t 28)]⟩,co 30 (.bin .sub (.t 27) (.t 29)),co 31 (.bin .leq (.t 30) (.c (.v (.int .i64 2))))] [(1,2)]) (.cond (.t 31) (.ops [3,4,6,8] [cm 32 8,co 33 (.fadr 2 (.t 4)),⟨(some 34),none,.load 1 false (.t 33)⟩,co 35 (.mnx true (.t 32) [(.t 34)]),cm 8 35]) (.skip))) (.seq (.ops [3,4,6,8,9] [co 36 (.fadr 1 (.t 3)),⟨(some 37),none,.load 1 false (.t 36)⟩,co 38 (.fadr 2 (.t 3)),⟨(some 39),none,.load 1 false (.t 38)⟩,cm 40 8,co 41 (.bin .sub (.t 39) (.t 40)),⟨(some 42),none,.call (.c (.fn fd2 [] [])) [(.t 37),(.t 41)]⟩,cm 9 42]) (.seq (.ops [3,4,6,8,9] [co 10 (.mv (.c .emp))]) (.seq (.ops [3,4,6,8,9,11] [co 11 (.mv (.c (.v (.bool false))))]) (.seq (.seq (.ops [3,4,6,8,9,11,46] [co 43 (.fadr 2 (.t 4)),⟨(some 44),none,.load 1 false (.t 43)⟩,cm 45 8,co 46 (.bin .geq (.t 44) (.t 45))]) (.cond (.t 46) (.ops [3,4,6,8,9,10,11] [co 47 (.fadr 1 (.t 4)),⟨(some 48),none,.load 1 false (.t 47)⟩,co 49 (.fadr 2 (.t 4)),⟨(some 50),none,.load 1 false (.t 49)⟩,cm 51 8,co 52 (.bin .sub (.t 50) (.t 51)),⟨(some 53),none,.call (.c (.fn fd2 [] [])) [(.t 48),(.t 52)]⟩,cm 10 53]) (.ops [3,4,6,8,9,10,11] [co 55 (.fadr 1 (.t 4)),⟨(some 56),none,.load 1 false (.t 55)⟩,cm 57 8,co 58 (.fadr 2 (.t 4)),⟨(some 59),none,.load 1 false (.t 58)⟩,co 60 (.bin .sub (.t 57) (.t 59)),⟨(some 61),none,.call (.c (.fn fd3 [] [])) [(.t 56),(.t 60)]⟩,cm 54 61,co 62 (.ext 0 (.t 54)),co 63 (.ext 1 (.t 54)),cm 10 62,cm 11 63]))) nK)))))):=rfl
def SU(an bn:Bool)(X Y:Nat)(l:Int)(lost:Bool):(Nat×Int×Bool)×Bool:=
 if an=bn then((X+Y,l,lost),false)else if X<wH (Y,lost)then((wH (Y,lost)-X,l,false),true)else((X-wH (Y,lost),l,lost),false)
def sV(r:(Nat×Int×Bool)×Bool):AV:=.tup [zW (aA r.1.1) r.1.2.1 r.1.2.2,B r.2]
theorem C9{x k:Nat}(hx:ag x<=k)(hy:ag y<=k):ag (x+y)<=k+1:=by
 rw[bH]at hx hy⊢;omega
theorem abO{x:Nat}(hx:ag x<=5000)(hy:ag y<=5000):R fcr [lm (aA x),lm (aA y)] []=some (.tup [lm (aA (x+y)),I 0],[]):=by
 have h1:(aA x).length<=200:=aX ω;have h2:(aA y).length<=200:=aX ω;have h3:=C9 hx hy;have h4:(aA (x+y)).length<=200:=aX ω;rw[agO (bh x) (bh y) ω ω,aT,aT,mA,if_neg ω]
theorem MN{x:Nat}(hx:ag x<=5000)(hy:ag y<=5000)(h:y<=x):R fcy [lm (aA x),lm (aA y)] []=some (.tup [lm (aA (x-y)),I 0],[]):=by
 have h1:(aA x).length<=200:=aX ω;have h2:(aA y).length<=200:=aX ω;have h3:ag (x-y)<=5000:=by
  rw[bH]at hx⊢;omega
 have h4:(aA (x-y)).length<=200:=aX ω;rw[agQ (bh x) (bh y) ω ω,aT,aT,if_neg ω,mA,if_neg ω]
theorem Pi{an bn:Bool}{ma mb:AV}{ea eb:AV}{X Y:Nat}{l:Int}{lost:Bool}(hX:ag X<=4100)(hY:ag Y<=4100)(s:ap)
  (h3:s 3=ac 3) (h4:s 4=ac 4) (h6:s 6=ac 6) (h8:s 8=I l) (h9:s 9=lm (aA X)) (h10:s 10=lm (aA Y)) (h11:s 11=B lost):
  kj false [[.o 2 [],.o 0 [],.o 0 []],[]] [.cell 6 3 true,.t 7] 0 (am R (az false) nK s (upd (upd (upd (fun _=>.dead) 3 (.bx [.v (.bool an),ma,ea])) 4 (.bx [.v (.bool bn),mb,eb])) 6 (.bx [.emp,.v (.int .i64 0),.v (.bool false)])))=some (sV (SU an bn X Y l lost),[]):=by
 unfold SU;by_cases hs:an=bn
 ·subst hs;have e1:(false != (an==an))=true:=γ
  have ha:=abO (x:=X) (y:=Y) ω ω;simp only[nK,sV,zW,go_sem,h3,h4,h6,h8,h9,h10,h11,e1,ha]
 ·rw[if_neg hs];have e1:(false != (an==bn))=false:=γ
  have hU:ag (wH (Y,lost))<=4101:=by
   unfold wH;split
   ·exact C9 hY (ake _)
   grind
  have hi:=agX (q:=Y) ω;have hc:=Cf (bh X) (bh (wH (Y,lost))) (aCP (aX (k:=200) ω) δ) (aCP (aX (k:=200) ω) δ);rw[aT,aT]at hc;by_cases hx:X<wH (Y,lost)
  ·have ha:=MN (x:=wH (Y,lost)) (y:=X) ω ω ω;rw[if_pos hx];rw[cK,if_pos hx]at hc;cases lost with
   |false=>
    simp only[wH,if_neg aCR]at hc ha⊢;simp only[nK,sV,zW,go_sem,aCV,h3,h4,h6,h8,h9,h10,h11,e1,hc,ha]
   |true=>
    simp only[wH,if_true]at hc ha⊢;simp only[nK,sV,zW,go_sem,aCV,h3,h4,h6,h8,h9,h10,h11,e1,Ge,hi,hc,ha]
  ·have ha:=MN (x:=X) (y:=wH (Y,lost)) ω ω ω;rw[if_neg hx];have hd:(cK X (wH (Y,lost))<0)=False:=ff (by
    unfold cK;omega)
   cases lost with
   |false=>
    simp only[wH,if_neg aCR]at hc ha hd⊢;simp only[nK,sV,zW,go_sem,h3,h4,h6,h8,h9,h10,h11,e1,hc,hd,ha]
   |true=>
    simp only[wH,if_true]at hc ha hd⊢;simp only[nK,sV,zW,go_sem,h3,h4,h6,h8,h9,h10,h11,e1,Ge,hi,hc,hd,ha]
theorem SV(a b:Rd)(p:Int):Ey a b p=SU a.neg b.neg (ab a.m*2^ (a.e-zB a b p).toNat) (yZ b (zB a b p)).1 (zB a b p) (yZ b (zB a b p)).2:=rfl
theorem aqd(oa:Ok0 a)(ob:Ok0 b)(va:vd a=true)(vb:vd b=true)(na:a.m.length≠0)(nb:b.m.length≠0)(hp:8<=p/\p<=512)(ht:aN b<=aN a):
  R fd5 [af a,af b,I p] []=some (sV (Ey a b p),[]):=by
 refine au aa4 rfl ?_;have ta:=zV oa;have tb:=zV ob;simp only[af,ai]at ta tb;have e1:=jq va na;have e2:=jq vb nb;obtain⟨a1,a2,a3,a4⟩:=dj va oa.lb;obtain⟨b1,b2,b3,b4⟩:=dj vb ob.lb;have l1:=ST (a:=a) (b:=b) (p:=p);have l2:=Ph va vb oa.lb ob.lb na nb hp ht;have w1:aG (aN a-p)=aN a-p:=i64_in _ ⟨by omega,by omega⟩;have w2:aG (aN a-p-8)=aN a-p-8:=i64_in _ ⟨by omega,by omega⟩;have w3:aG (aN a-aN b)=aN a-aN b:=i64_in _ ⟨by omega,by omega⟩;rw[SV];obtain⟨l,hl⟩:∃l,zB a b p=l:=⟨_,rfl⟩;rw[hl]at l1 l2⊢;unfold zB at hl;obtain⟨z,hz⟩:∃z,(if aN a-p-8<a.e then aN a-p-8 else a.e)=z:=⟨_,rfl⟩;rw[hz]at hl;have w4:aG (a.e-l)=(((a.e-l).toNat:Nat):Int):=wi;have hX:ag (ab a.m*2^ (a.e-l).toNat)<=4100:=by
  grind[dJ,dQ]
 have sX:=C7 oa.lb a1 (k:=(a.e-l).toNat) ω (aX ω);by_cases h2:aN a-aN b<=2
 ·have f1:(aN a-aN b<=2)=True:=tt h2;rw[if_pos h2]at hl;by_cases hb:l<=b.e
  ·have f2:(l<=b.e)=True:=tt hb;have w5:aG (b.e-l)=(((b.e-l).toNat:Nat):Int):=wi;have hY:ag (ab b.m*2^ (b.e-l).toNat)<=4100:=by
    grind[dJ,dQ]
   have sY:=C7 ob.lb b1 (k:=(b.e-l).toNat) ω (aX ω);rw[yZ,if_pos hb];simp only[w9,xJ,af,ai,go_sem,ta,tb,w1,w2,w3,w4,w5,hz,hl,f1,f2,sX,sY];exact Pi hX hY _ rfl rfl rfl rfl rfl rfl rfl
  omega
 ·have f1:(aN a-aN b<=2)=False:=ff h2;rw[if_neg h2]at hl;by_cases hb:l<=b.e
  ·have f2:(l<=b.e)=True:=tt hb;have w5:aG (b.e-l)=(((b.e-l).toNat:Nat):Int):=wi;have hY:ag (ab b.m*2^ (b.e-l).toNat)<=4100:=by
    grind[dJ,dQ]
   have sY:=C7 ob.lb b1 (k:=(b.e-l).toNat) ω (aX ω);rw[yZ,if_pos hb];simp only[w9,xJ,af,ai,go_sem,ta,tb,w1,w2,w3,w4,w5,hz,hl,f1,f2,sX,sY];exact Pi hX hY _ rfl rfl rfl rfl rfl rfl rfl
  ·have f2:(l<=b.e)=False:=ff hb;have w5:aG (l-b.e)=(((l-b.e).toNat:Nat):Int):=wi;have hY:ag (ab b.m/2^ (l-b.e).toNat)<=4100:=by
    grind[l8]
   have sY:=abK ob.lb b1 (n:=(l-b.e).toNat) ω;rw[yZ,if_neg hb];simp only[w9,xJ,af,ai,go_sem,ta,tb,w1,w2,w3,w4,w5,hz,hl,f1,f2,sX,sY];exact Pi hX hY _ rfl rfl rfl rfl rfl rfl rfl
def Yu(a b:Rd)(p:Int)(up:Bool):Rd×Int:=
 let s:=Ey a b p
 if s.1.1=0/\s.1.2.2=false then(aB,0)else iX (a.neg !=s.2) (df s.1.1 s.1.2.1 s.1.2.2 p (up != (a.neg !=s.2)))
def SW(a b:Rd)(p:Int)(up:Bool):Rd×Int:=
 if aY p [a,b]=0 then(if a.m.length=0 then vG b p up else if b.m.length=0 then vG a p up else if aN a<aN b then Yu b a p up else Yu a b p up)
 else(aB,aY p [a,b])
theorem Pj(oa:Ok0 a)(ob:Ok0 b){up:Bool}(h:aY p [a,b]≠0\/a.m.length=0\/b.m.length=0):R fdU [af a,af b,I p,B up] []=some (rV (SW a b p up),[]):=by
 refine au N9 rfl ?_;have hf:R fdX [I p,.sl 3 [[B a.neg,lm a.m,I a.e],[B b.neg,lm b.m,I b.e]]] []=some (I (aY p [a,b]),[]):=C8 (p:=p) (l:=[a,b]) (fun x hx=>by
  rcases List.mem_cons.1 hx with h|h
  ·rw[h];exact oa
  ·rw[List.mem_singleton.1 h];exact ob) (show 2<=100000 by decide)
 have ra:=JG oa (p:=p) (up:=up);have rb:=JG ob (p:=p) (up:=up);unfold SW;generalize vG a p up=qa at ra⊢;generalize vG b p up=qb at rb⊢;simp only[rV,af,ai]at ra rb;by_cases h0:aY p [a,b]=0
 ·rw[if_pos h0];rw[h0]at hf;by_cases a0:a.m.length=0
  ·have e1:((a.m.length:Int)=0)=True:=tt;rw[if_pos a0];simp only[pW,zN,rV,af,ai,go_sem,hf,e1,rb]
  have e1:((a.m.length:Int)=0)=False:=ff;have b0:b.m.length=0:=(h.resolve_left (fun h'=>h' h0)).resolve_left a0;have e2:((b.m.length:Int)=0)=True:=tt;rw[if_neg a0,if_pos b0];simp only[pW,zN,rV,af,ai,go_sem,hf,e1,e2,ra]
 ·have e1:(aY p [a,b]=0)=False:=ff h0;rw[if_neg h0];simp only[pW,zN,rV,af,ai,aB,go_sem,hf,e1]
theorem akm{k:Nat}(hm:more=decide (N%2^k≠0))(hu:more=true->f+k<u):qk (N/2^k) (f+k) more u=qk N f false u:=by
 unfold qk;by_cases h:u<=f+k
 ·rw[if_pos h];have hf:more=false:=by
   grind
  subst hf;have h0:N%2^k=0:=by
   grind
  obtain⟨M,rfl⟩:=Nat.dvd_of_mod_eq_zero h0;rw[Nat.mul_div_cancel_left _ (aC1 k)];by_cases h2:u<=f
  ·rw[if_pos h2,show(f+k-u).toNat=k+(f-u).toNat by omega,aCU,aC6 (2^k) M,aC9]
  ·obtain⟨j,hj⟩:∃j,(f+k-u).toNat=j:=⟨_,rfl⟩;obtain⟨i,hi⟩:∃i,(u-f).toNat=i:=⟨_,rfl⟩;have hk:k=i+j:=ω
   grind[aCU,aC9,Nat.mul_div_cancel_left,aC1,Nat.mul_mod_right,aC6]
 ·rw[if_neg h,if_neg ω];obtain⟨j,hj⟩:∃j,(u- (f+k)).toNat=j:=⟨_,rfl⟩;rw[show(u-f).toNat=k+j by omega,hj,aCU,Nat.div_div_eq_div_mul,Nat.mod_mul,hm];refine Prod.ext rfl ?_;show(decide (N%2^k≠0)||decide (N/2^k%2^j≠0))=(false||decide (N%2^k+2^k*(N/2^k%2^j)≠0));rw[Bool.false_or,←Bool.decide_or];congr 1;refine propext ⟨fun h3 h4=>?_,fun h3=>?_⟩
  ·obtain⟨h5,h6⟩:=Nat.add_eq_zero_iff.1 h4;rcases Nat.mul_eq_zero.1 h6 with h7|h7
   all_goals omega
  grind
theorem ag0{k:Nat}(hM:N/2^k≠0):fk (N/2^k) (f+k) p=fk N f p:=by
 grind[fk,l8,ag]
theorem abP{k:Nat}{up:Bool}(hM:N/2^k≠0)(hm:more=decide (N%2^k≠0))(hp:more=true->p< (ag (N/2^k):Nat)):df (N/2^k) (f+k) more p up=df N f false p up:=by
 unfold df;have hu:more=true->f+k<fk (N/2^k) (f+k) p:=fun h=>by
  grind[fk]
 grind[akm,ag0]
theorem LC{k:Nat}{up:Bool}(hM:M≠0):df (M*2^k) f false p up=df M (f+k) false p up:=by
 have h1:M*2^k/2^k=M:=Nat.mul_div_cancel _ (aC1 k);have:=abP (N:=M*2^k) (k:=k) (f:=f) (p:=p) (more:=false) (up:=up) ω (by simp_all) (fun h=>absurd h aCR);grind
def iL(z f p:Int)(up:Bool):Rd×Int:=if z=0 then(aB,0)else iX (decide (z<0)) (df z.natAbs f false p (up !=decide (z<0)))
theorem MO{up:Bool}(h:n≠0):iL (if neg=true then-(n:Int)else n) f p up=iX neg (df n f false p (up !=neg)):=by
 unfold iL;grind
theorem D5{z:Int}{k:Nat}{up:Bool}:iL (z*2^k) f p up=iL z (f+k) p up:=by
 unfold iL;by_cases h:z=0
 ·rw[h,Int.zero_mul,if_pos rfl,if_pos rfl]
 ·have h2:(0:Int)<2^k:=Int.pow_pos δ;have h3:z*2^k≠0:=fun h3=>by
   rcases Int.mul_eq_zero.1 h3 with h4|h4
   all_goals omega
  have h4:decide (z*2^k<0)=decide (z<0):=by
   congr 1;refine propext ⟨fun h5=>?_,fun h5=>Int.mul_neg_of_neg_of_pos h5 h2⟩;refine Int.not_le.1 fun h6=>?_;have:=Int.mul_nonneg h6 (Int.le_of_lt h2);omega
  simp_all[if_neg,Int.natAbs_mul,Int.natAbs_pow,LC]
def bL(neg:Bool)(n:Nat):Int:=if neg=true then-(n:Int)else n
theorem rJ(n:Nat):bL true n=-(n:Int):=rfl
theorem qF(n:Nat):bL false n=(n:Int):=rfl
def Yv(an:Bool)(p:Int)(up:Bool)(s:(Nat×Int×Bool)×Bool):Rd×Int:=if s.1.1=0/\s.1.2.2=false then(aB,0)else iX (an !=s.2) (df s.1.1 s.1.2.1 s.1.2.2 p (up != (an !=s.2)))
theorem JH{up:Bool}{K:Nat}{t:Bool}(hM:N/2^K≠0)(hm:more=decide (N%2^K≠0))(hp:more=true->p< (ag (N/2^K):Nat)):
  Yv an p up ((N/2^K,f+K,more),t)=iL (bL (an !=t) N) f p up:=by
 have h0:N≠0:=fun h=>by
  simp_all
 unfold bL;rw[MO h0,Yv,if_neg (fun h=>hM h.1)];grind[abP]
theorem akn{x Y K:Nat}{up bn:Bool}(hx:x≠0)(hlost:Y%2^K≠0->p< (ag (x- (Y/2^K+1)):Nat)/\p< (ag (x+Y/2^K):Nat)/\Y/2^K+1<x):
  Yv an p up (SU an bn x (Y/2^K) (f+K) (decide (Y%2^K≠0)))=iL (bL an (x*2^K)+bL bn Y) f p up:=by
 have h2:=aC1 K;have hd:=aDC Y (2^K);have hlt:=aDj Y h2;unfold SU;by_cases hs:an=bn
 ·subst hs;rw[if_pos rfl];have e1:x+Y/2^K=(x*2^K+Y)/2^K:=by
   grind[aC6,Nat.mul_add_div]
  have e2:(x*2^K+Y) %2^K=Y%2^K:=by
   simp_all
  have e3:bL an (x*2^K)+bL an Y=bL (an !=false) (x*2^K+Y):=by
   grind[bL,rJ]
  rw[e3,e1,JH]
  all_goals grind
 ·have hbn:bn=!an:=by
   cases an<;>cases bn<;>first|rfl|exact absurd rfl hs
  subst hbn;rw[if_neg hs];by_cases hl:Y%2^K≠0
  ·obtain⟨g1,g2,g3⟩:=hlost hl;have e0:wH (Y/2^K,decide (Y%2^K≠0))=Y/2^K+1:=by
    simp_all[wH,if_pos,decide_eq_true]
   rw[e0,if_neg ω];obtain⟨y,hy⟩:∃y,Y/2^K=y:=⟨_,rfl⟩;rw[hy]at hd g1 g2 g3⊢;have e1:(x- (y+1))*2^K+(2^K-Y%2^K)=x*2^K-Y:=by
    have e4:(x- (y+1))*2^K=x*2^K- (2^K*y+2^K):=by
     rw[Nat.sub_mul,aC8,Nat.one_mul,aC6 y]
    have e5:2^K*y+2^K<=x*2^K:=by
     have:(y+1)*2^K<=x*2^K:=aCS _ ω;grind
    omega
   have e6:(x*2^K-Y)/2^K=x- (y+1):=by
    rw[←e1,aC6 (x- (y+1)),Nat.mul_add_div h2,Nat.div_eq_of_lt ω];rfl
   have e7:(x*2^K-Y) %2^K=2^K-Y%2^K:=by
    rw[←e1,aC6 (x- (y+1)),Nat.mul_add_mod,aDq ω]
   have e3:bL an (x*2^K)+bL (!an) Y=bL (an !=false) (x*2^K-Y):=by
    grind[bL,rJ,qF]
   grind[JH,decide_eq_true]
  ·have hl0:Y%2^K=0:=ω
   have e0:wH (Y/2^K,decide (Y%2^K≠0))=Y/2^K:=by
    simp_all[wH,if_neg,of_decide_eq_true]
   rw[e0,hl0,show decide ((0:Nat)≠0)=false from rfl];rw[hl0,aDm]at hd;obtain⟨y,hy⟩:∃y,Y/2^K=y:=⟨_,rfl⟩;rw[hy]at hd⊢;subst hd;by_cases hxy:x<y
   ·rw[if_pos hxy];have e6:((y-x)*2^K)/2^K=y-x:=Nat.mul_div_cancel _ h2;have e3:bL an (x*2^K)+bL (!an) (2^K*y)=bL (an !=true) ((y-x)*2^K):=by
     grind[bL,rJ,qF]
    rw[e3];have:=JH (an:=an) (p:=p) (up:=up) (N:=(y-x)*2^K) (K:=K) (f:=f) (more:=false) (t:=true) ω (by simp_all) (fun h=>absurd h aCR);grind
   ·rw[if_neg hxy];by_cases hE:x=y
    ·subst hE;have e3:bL an (x*2^K)+bL (!an) (2^K*x)=0:=by
      grind[bL,rJ,qF]
     simp_all[Yv,if_pos,Nat.sub_self,iL]
    ·have e6:((x-y)*2^K)/2^K=x-y:=Nat.mul_div_cancel _ h2;have e3:bL an (x*2^K)+bL (!an) (2^K*y)=bL (an !=false) ((x-y)*2^K):=by
      grind[bL,rJ,qF]
     rw[e3];have:=JH (an:=an) (p:=p) (up:=up) (N:=(x-y)*2^K) (K:=K) (f:=f) (more:=false) (t:=false) ω (by simp_all) (fun h=>absurd h aCR);grind
theorem atw{l:Int}(h1:-40000<=l)(h2:-40000<=b.e):yZ b l=(ab b.m*2^ (b.e+40000).toNat/2^ (l+40000).toNat,decide (ab b.m*2^ (b.e+40000).toNat%2^ (l+40000).toNat≠0)):=by
 unfold yZ;by_cases h:l<=b.e
 ·rw[if_pos h,show(b.e+40000).toNat=(b.e-l).toNat+(l+40000).toNat by omega,aCU,←aC9,Nat.mul_div_cancel _ (aC1 _),Nat.mul_mod_left];rfl
 ·have h3:=aC1 (b.e+40000).toNat;rw[if_neg h,show(l+40000).toNat=(l-b.e).toNat+(b.e+40000).toNat by omega,aCU,Nat.mul_div_mul_right _ _ h3,Nat.mul_mod_mul_right];refine Prod.ext rfl ?_;show decide _=decide _;congr 1;refine propext ⟨fun h4 h5=>?_,fun h4 h5=>h4 ?_⟩
  ·rcases Nat.mul_eq_zero.1 h5 with h6|h6
   all_goals omega
  grind
theorem Yw{k:Nat}(h:-16384<=d.e)(n:Nat)(hn:n=(d.e+16384).toNat+k):zI d*2^k=bL d.neg (ab d.m*2^n):=by
 have h1:(mg d:Int)*2^k=((ab d.m*2^ ((d.e+16384).toNat+k):Nat):Int):=by
  unfold mg;grind
 unfold zI bL;grind
theorem ag1(h:b.e<zB a b p):2<aN a-aN b/\zB a b p<=aN a-p-8:=by
 unfold zB at h⊢;omega
theorem abQ(oa:Ok0 a)(ob:Ok0 b)(va:vd a=true)(vb:vd b=true)(na:a.m.length≠0)(nb:b.m.length≠0){up:Bool}(hp:8<=p/\p<=512)(ht:aN b<=aN a):
  Yu a b p up=iL (zI a+zI b) (-16384) p up:=by
 have e1:=jq va na;have e2:=jq vb nb;obtain⟨a1,a2,a3,a4⟩:=dj va oa.lb;obtain⟨b1,b2,b3,b4⟩:=dj vb ob.lb;have l1:=ST (a:=a) (b:=b) (p:=p);have l2:=Ph va vb oa.lb ob.lb na nb hp ht;have l3:=ag1 (a:=a) (b:=b) (p:=p);show Yv a.neg p up (Ey a b p)=_;rw[SV];obtain⟨l,hl⟩:∃l,zB a b p=l:=⟨_,rfl⟩;rw[hl]at l1 l2 l3⊢;obtain⟨K,hK⟩:∃K,(l+40000).toNat=K:=⟨_,rfl⟩;obtain⟨n1,hn1⟩:∃n,(a.e-l).toNat=n:=⟨_,rfl⟩;obtain⟨n2,hn2⟩:∃n,(b.e+40000).toNat=n:=⟨_,rfl⟩;have hx:ab a.m*2^n1≠0:=Nat.mul_ne_zero (dQ va na) (Nat.pos_iff_ne_zero.1 (aC1 _));rw[atw ω ω,hK,hn1,hn2];have bx:ag (ab a.m*2^n1)=ag (ab a.m)+n1:=dJ _ (dQ va na);have by':ag (ab b.m*2^n2/2^K)=ag (ab b.m)+n2-K:=by grind[l8,dJ,dQ]
 have hlK:l=-40000+(K:Int):=ω
 rw[hlK,akn hx]
 ·obtain⟨k,hk⟩:∃k:Nat,k=23616:=⟨_,rfl⟩;rw[aC9,←aCU,←Yw (k:=k) a2 (n1+K) ω,←Yw (k:=k) b2 n2 ω,←Int.add_mul,D5,show(-40000:Int)+(k:Nat)=-16384 by omega]
 ·intro hne;have hb:b.e<l:=by
   refine Int.not_le.1 fun h=>hne ?_;rw[show n2=(b.e-l).toNat+K by omega,aCU,←aC9,Nat.mul_mod_left]
  obtain⟨X,hX⟩:∃X,ab a.m*2^n1=X:=⟨_,rfl⟩;obtain⟨Y,hY⟩:∃Y,ab b.m*2^n2/2^K=Y:=⟨_,rfl⟩;rw[hX]at bx⊢;rw[hY]at by'⊢;obtain⟨t,hT⟩:∃t,ag X=t+4:=⟨ag X-4,by omega⟩;have hX2:2^ (t+3)<=X:=kW.1 ω;have hY2:Y<2^ (t+1):=bH.1 ω;have q1:2^ (t+3)=4*2^ (t+1):=γ
  have q2:2^ (t+2)=2*2^ (t+1):=γ
  have g3:t+2<ag (X- (Y+1)):=kW.2 ω;have g4:t+3<ag (X+Y):=kW.2 ω;omega
def dk(a b:Rd)(p:Int)(up:Bool):Rd×Int:=if aY p [a,b]=0 then iL (zI a+zI b) (-16384) p up else(aB,aY p [a,b])
def gp(a b:Rd)(p:Int)(up:Bool):Rd×Int:=if aY p [a,b]=0 then iL (zI a*zI b) (-32768) p up else(aB,aY p [a,b])
theorem cQ(h:d.m.length=0):zI d=0:=by
 grind[zI,SS]
theorem am7{up:Bool}(hp:8<=p/\p<=512):df 0 0 false p up=(aB,0):=by
 have hu:-600<=fk 0 0 p/\fk 0 0 p<=0:=by
  grind[fk,tN]
 unfold df;obtain⟨u,he⟩:∃u,fk 0 0 p=u:=⟨_,rfl⟩;rw[he]at hu⊢;have hq:nu up (qk 0 0 false u)=0:=by
  simp_all[qk,nu,if_pos,Nat.zero_mul,aDH,if_neg,aCR]
 unfold uK;rw[hq,tN,if_neg ω];rw[xw];unfold cI;rw[if_pos rfl,if_pos δ]
theorem G8(ok:Ok0 d){up:Bool}:vG d p up=if aY p [d]=0 then iL (zI d) (-16384) p up else(aB,aY p [d]):=by
 unfold vG;by_cases h0:aY p [d]=0
 ·obtain⟨v1,v2,v3⟩:=xI h0;have v4:vd d=true:=γ
  obtain⟨h1,h2,h3,h4⟩:=dj v4 ok.lb;rw[if_pos h0,if_pos h0];by_cases hd:d.m.length=0
  ·have hz:=vZ v4 hd;subst hz;rw[cQ rfl,iL,if_pos rfl];show iX false (df 0 0 false p (up !=false))=_;rw[am7 ⟨v2,v3⟩];rfl
  ·have hm:=Ir v4 hd;unfold zI;rw[MO ω];grind[mg,LC]
 grind
theorem am8(oa:Ok0 a)(ob:Ok0 b){up:Bool}:SW a b p up=dk a b p up:=by
 unfold SW dk;by_cases h0:aY p [a,b]=0
 ·obtain⟨v1,hp⟩:=xI h0;have v4:vd a=true/\vd b=true:=γ
  have f1:∀d,vd d=true->aY p [d]=0:=fun d hd=>by
   simp_all[aY,if_pos]
  by_cases a0:a.m.length=0
  ·rw[if_pos a0,G8 ob,if_pos (f1 b v4.2),cQ a0,Int.zero_add]
  rw[if_neg a0];by_cases b0:b.m.length=0
  ·rw[if_pos b0,G8 oa,if_pos (f1 a v4.1),cQ b0,Int.add_zero]
  rw[if_neg b0];by_cases ht:aN a<aN b
  ·rw[if_pos ht,abQ ob oa v4.2 v4.1 b0 a0 hp ω,Int.add_comm]
  simp_all[if_neg,abQ]
 grind
theorem abR(oa:Ok0 a)(ob:Ok0 b){up:Bool}:LB a b p up=gp a b p up:=by
 unfold LB gp;by_cases h0:aY p [a,b]=0
 ·obtain⟨v1,hp⟩:=xI h0;have v4:vd a=true/\vd b=true:=γ
  obtain⟨va,vb⟩:=v4;obtain⟨a1,a2,a3,a4⟩:=dj va oa.lb;obtain⟨b1,b2,b3,b4⟩:=dj vb ob.lb;by_cases a0:a.m.length=0
  ·rw[if_pos (Or.inl a0),cQ a0,Int.zero_mul,iL,if_pos rfl]
  by_cases b0:b.m.length=0
  ·rw[if_pos (Or.inr b0),cQ b0,Int.mul_zero,iL,if_pos rfl]
  have hz:zI a*zI b=bL (a.neg !=b.neg) (mg a*mg b):=by
   unfold zI bL;cases a.neg<;>cases b.neg<;>simp[Int.mul_neg,Int.neg_mul]
  have hm:mg a*mg b=ab a.m*ab b.m*2^ ((a.e+16384).toNat+(b.e+16384).toNat):=by
   grind[mg,aCU]
  have hv:ab a.m*ab b.m≠0:=Nat.mul_ne_zero (dQ va a0) (dQ vb b0);rw[hz];unfold bL;rw[MO (Nat.mul_ne_zero (Nat.pos_iff_ne_zero.1 (Ir va a0)) (Nat.pos_iff_ne_zero.1 (Ir vb b0))),hm,LC hv];grind
 grind
theorem jT(h:M≠0):bg neg M e=⟨neg,aA (M/2^tz M),e+tz M⟩:=by
 simp_all[xw,if_neg]
theorem j6:bg neg 0 e=aB:=by
 simp_all[xw,if_pos]
theorem kH{k:Nat}:bg neg (M*2^k) e=bg neg M (e+k):=by
 by_cases h:M=0
 ·rw[h,Nat.zero_mul,j6,j6]
 ·have h2:M*2^k≠0:=Nat.mul_ne_zero h (Nat.pos_iff_ne_zero.1 (aC1 k));rw[jT h,jT h2,aC6 M,Lr k h,aCU,Nat.mul_div_mul_left _ _ (aC1 k)];grind
theorem rU(h:M≠0):ab (bg neg M e).m=M/2^tz M/\(bg neg M e).e=e+tz M/\M/2^tz M%2=1/\ag (M/2^tz M)+tz M=ag M:=by
 grind[yz,jT,aT,dJ,tz,aC6]
theorem Pk(h:M≠0)(h1:ag M<=4096)(h2:-16384<=e)(h3:(ag M:Nat)+e<=16384):rI (ag (ab (bg neg M e).m)) (bg neg M e).e=true:=by
 grind[rU,ag,tz,gM,rI,decide_eq_true]
theorem Fd(h:rI (ag (ab (bg neg M e).m)) (bg neg M e).e=true):vd (bg neg M e)=true:=by
 by_cases h0:M=0
 ·subst h0;rfl
 ·obtain⟨g1,g2,g3,g4⟩:=rU (neg:=neg) (e:=e) h0;have hn:M/2^tz M≠0:=ω
  rw[g1]at h;have hb:=(C6 h (Nat.pos_iff_ne_zero.1 (gM hn))).1;rw[jT h0]at h⊢;unfold vd;have hl:(aA (M/2^tz M)).length<=128:=aX ω;have hl0:(aA (M/2^tz M)).length≠0:=fun h5=>hn (pB.1 (List.length_eq_zero_iff.1 h5));have ht:(aA (M/2^tz M)).getD ((aA (M/2^tz M)).length-1) 0≠0:=(Lq _).resolve_left (fun h5=>hn (pB.1 h5));have ho:(aA (M/2^tz M)).getD 0 0%2=1:=by
   grind[qU,tz]
  rw[aT,if_neg hl0,decide_eq_true (p:=(aA (M/2^tz M)).length<=256) ω,decide_eq_true ho,decide_eq_true ht];grind
theorem Gf(h1:ag M<=4096)(h2:-16384<=e)(h3:(ag M:Nat)+e<=16384):cI (bg neg M e)=(bg neg M e,0):=by
 unfold cI;by_cases h:M=0
 ·subst h;rw[j6,if_pos δ]
 simp_all[if_pos,Pk]
theorem ako(h1:ag M<=4096)(h2:-16384<=e)(h3:(ag M:Nat)+e<=16384):ed (bg false M e)=bg true M e:=by
 by_cases h:M=0
 ·subst h;rfl
 ·have hv:=Fd (Pk (neg:=false) h h1 h2 h3);obtain⟨g1,g2,g3,g4⟩:=rU (neg:=false) (e:=e) h;unfold ed;rw[if_neg]
  ·grind[jT]
  ·grind[ab]
theorem abS(h1:ag M<=4096)(h2:-16384<=e)(h3:(ag M:Nat)+e<=16384):iX neg (cI (bg false M e))=(bg neg M e,0):=by
 rw[Gf h1 h2 h3];unfold iX;cases neg with
 |false=>rw[if_neg (fun h=>aCR h.2)]
 |true=>
  grind[ako]
def LD(M:Nat)(e p:Int):Nat:=(max (max ((ag M:Nat)-p) (0-16384-e)) 0).toNat
def SX(M k:Nat)(more out:Bool):Nat:=if((more||decide (M%2^k≠0))&&out)=true then M/2^k+1 else M/2^k
def Da(neg out:Bool)(p:Int)(q:Nat)(e:Int):Rd×Int:=if q≠0/\16384< (ag q:Nat)+e then(if out=true then(aB,9)else(bg neg (2^p.toNat-1) (16384-p),0))else(bg neg q e,0)
def Gg(neg:Bool)(M:Nat)(e:Int)(more:Bool)(p:Int)(up:Bool):Rd×Int:=Da neg (neg !=up) p (SX M (LD M e p) more (neg !=up)) (e+LD M e p)
theorem Yx{up:Bool}(hp:8<=p/\p<=512)(hq:ag q<=4096)(hu:-16384<=u)(h0:q=0->u<=16384):iX neg (uK p up q u)=Da neg up p q u:=by
 unfold uK Da;by_cases h:16384< ((ag q:Nat):Int)+u
 ·have hq0:q≠0:=fun h1=>by
   grind[tN]
  cases up with
  |true=>
   simp_all[iX,if_neg]
  |false=>
   grind[Yt,abS]
 simp_all[if_neg,abS]
theorem aeS{out:Bool}{k:Nat}:Da neg out p (M*2^k) e=Da neg out p M (e+k):=by
 unfold Da;rw[kH];grind[Nat.mul_ne_zero,aC1,ag,dJ]
theorem Uw(q:Nat):ag (q+1)<=ag q+1:=by
 rw[bH,aDw];have:=bH.1 (aCJ (ag q));omega
theorem ag2{up:Bool}(hp:8<=p/\p<=512)(hM:M≠0)(hm:more=true->p< (ag M:Nat)):Gg neg M e more p up=iX neg (df M e more p (up !=neg)):=by
 have hx:(neg !=up)=(up !=neg):=γ
 unfold Gg;rw[hx];unfold df;obtain⟨u,hu⟩:∃u,fk M e p=u:=⟨_,rfl⟩;obtain⟨k,hk⟩:∃k,LD M e p=k:=⟨_,rfl⟩;rw[hu,hk];unfold fk at hu;unfold LD at hk;have hu1:-16384<=u/\e+(ag M:Nat)-p<=u:=by
  omega
 by_cases hc:u<=e
 ·have hk0:k=0:=by
   omega
  have hmf:more=false:=by
   grind
  subst hk0;subst hmf;unfold qk SX;rw[if_pos hc,Nat.pow_zero,Nat.mod_one,show(false||decide ((0:Nat)≠0))=false from rfl,aCO,if_neg aCR,Nat.div_one];unfold nu;rw[aDH,if_neg aCR];have hq:=dJ (e-u).toNat hM;rw[Yx hp ω hu1.1 (fun h=>absurd (Nat.mul_eq_zero.1 h) (fun h2=>h2.elim hM (fun h3=>absurd h3 (Nat.pos_iff_ne_zero.1 (aC1 _)))))];grind[aeS]
 ·have hk0:k=(u-e).toNat:=by
   omega
  unfold qk SX;rw[if_neg hc,←hk0];have hq:ag (M/2^k)<=513:=by
   grind[l8]
  have hq2:=Uw (M/2^k);have h3:nu (up !=neg) (M/2^k,more||decide (M%2^k≠0))=if((more||decide (M%2^k≠0))&& (up !=neg))=true then M/2^k+1 else M/2^k:=by
   grind[nu,Bool.and_comm]
  rw[h3];rw[Yx hp (by split<;>omega) hu1.1]
  ·rw[show e+(k:Int)=u by omega]
  ·grind[ag,l8]
theorem Q0{up:Bool}(hp:8<=p/\p<=512):Gg neg M e false p up=iL (bL neg M) e p up:=by
 by_cases hM:M=0
 ·simp_all[bL,iL,if_pos,Gg,SX,Da,Nat.zero_mod,Nat.zero_div,aCO,if_neg,aCR,j6]
 simp_all[ag2,absurd,aCR,bL,MO]
theorem ag3{w:Bool}:vd (iX neg (df M f more p w)).1=true/\Ok0 (iX neg (df M f more p w)).1:=by
 have h0:vd aB=true/\Ok0 aB:=⟨rfl,⟨fun x hx=>(nomatch hx),by decide⟩⟩;have hc:∀ (q:Nat) (u:Int),vd (cI (bg false q u)).1=true/\Ok0 (cI (bg false q u)).1:=fun q u=>by
  unfold cI;by_cases h:rI (ag (ab (bg false q u).m)) (bg false q u).e=true
  ·rw[if_pos h];have hv:=Fd h;have hb:=qW false q u;exact⟨hv,hb,aDe (D3 hv hb) δ⟩
  grind
 have he:∀ (up:Bool) (q:Nat) (u:Int),vd (uK p up q u).1=true/\Ok0 (uK p up q u).1:=fun up q u=>by
  grind[uK]
 have hs:∀ (neg:Bool) (r:Rd×Int),(vd r.1=true/\Ok0 r.1)->vd (iX neg r).1=true/\Ok0 (iX neg r).1:=fun neg r hr=>by
  unfold iX ed;split
  ·split
   ·omega
   ·refine⟨?_,hr.2.1,hr.2.2⟩
    simp_all[vd,if_neg]
  omega
 exact hs _ _ (he _ _ _)
theorem vH{z:Int}{up:Bool}:vd (iL z f p up).1=true/\Ok0 (iL z f p up).1:=by
 unfold iL;split
 ·exact⟨rfl,⟨fun x hx=>(nomatch hx),by decide⟩⟩
 ·exact ag3
noncomputable def vJ:Cmd:=.seq (.ops [2,3,4,8,11,12] [⟨(some 52),none,.load 3 true (.t 4)⟩,⟨(some 53),none,.load 3 true (.t 5)⟩,cm 54 2,⟨(some 55),none,.call (.c (.fn fd5 [] [])) [(.t 52),(.t 53),(.t 54)]⟩,cm 51 55,co 56 (.ext 0 (.t 51)),co 57 (.ext 1 (.t 51)),⟨(some 11),none,.alloc [.emp,(.v (.int .i64 0)),(.v (.bool false))]⟩,⟨none,none,.store 3 (.t 11) (.t 56)⟩,cm 12 57]) (.seq (.seq (.ops [2,3,4,8,11,12,66] [co 58 (.fadr 0 (.t 11)),⟨(some 59),none,.load 1 false (.t 58)⟩,co 60 (.len false (.t 59)),co 61 (.bin .eql (.t 60) (.c (.v (.int .i64 0)))),cm 62 61,cg 63 62 true (.fadr 2 (.t 11)),⟨(some 64),(some (62,true)),.load 1 false (.t 63)⟩,cg 65 62 true (.un .not (.t 64)),co 66 (.pick (.t 62) (.t 65) (.c (.v (.bool false))))]) (.cond (.t 66) (.seq (.ops [8,9] [co 67 (.build [(.v (.bool false)),.emp,(.v (.int .i64 0))] []),⟨none,none,.store 3 (.t 8) (.t 67)⟩,co 9 (.mv (.c (.v (.int .i64 0))))]) (.ret)) (.skip))) (.seq (.ops [8,9] [co 68 (.fadr 0 (.t 4)),⟨(some 69),none,.load 1 false (.t 68)⟩,cm 70 12,co 71 (.eqc true 0 (.t 69) (.t 70)),⟨(some 72),none,.load 3 true (.t 11)⟩,cm 73 2,cm 74 3,⟨(some 75),none,.call (.c (.fn fd4 [] [])) [(.t 71),(.t 72),(.t 73),(.t 74)]⟩,co 76 (.ext 0 (.t 75)),co 77 (.ext 1 (.t 75)),⟨none,none,.store 3 (.t 8) (.t 76)⟩,cm 9 77]) (.ret)))
theorem D6:zN=.seq (.ops [2,3,4,5,8] [⟨(some 4),none,.box 3 (.t 0)⟩,⟨(some 5),none,.box 3 (.t 1)⟩,⟨(some 8),none,.alloc [(.v (.bool false)),.emp,(.v (.int .i64 0))]⟩,co 9 (.mv (.c (.v (.int .i64 0))))]) (.seq (.seq (.ops [2,3,4,5,8,10] [cm 13 2,⟨(some 14),none,.load 3 true (.t 4)⟩,⟨(some 15),none,.load 3 true (.t 5)⟩,⟨(some 16),none,.buildSl 3 [(.v (.bool false)),.emp,(.v (.int .i64 0))] 2 [(0,(.t 14)),(1,(.t 15))]⟩,⟨(some 17),none,.call (.c (.fn fdX [] [])) [(.t 13),(.t 16)]⟩,cm 10 17]) (.seq (.ops [2,3,4,5,8,10,19] [cm 18 10,co 19 (.bin .neq (.t 18) (.c (.v (.int .i64 0))))]) (.cond (.t 19) (.seq (.ops [8,9] [co 20 (.build [(.v (.bool false)),.emp,(.v (.int .i64 0))] []),cm 21 10,⟨none,none,.store 3 (.t 8) (.t 20)⟩,cm 9 21]) (.ret)) (.skip)))) (.seq (.block 0 [2,3,4,5,8] (.seq (.ops [2,3,4,5,8,22] [co 23 (.fadr 1 (.t 4)),⟨(some 24),none,.load 1 false (.t 23)⟩,co 25 (.len false (.t 24)),co 26 (.bin .eql (.t 25) (.c (.v (.int .i64 0)))),cm 22 26]) (.cond (.t 22) (.seq (.ops [8,9] [⟨(some 27),none,.load 3 true (.t 5)⟩,cm 28 2,cm 29 3,⟨(some 30),none,.call (.c (.fn fd1 [] [])) [(.t 27),(.t 28),(.t 29)]⟩,co 31 (.ext 0 (.t 30)),co 32 (.ext 1 (.t 30)),⟨none,none,.store 3 (.t 8) (.t 31)⟩,cm 9 32]) (.ret)) (.seq (.ops [2,3,4,5,8,33] [co 34 (.fadr 1 (.t 5)),⟨(some 35),none,.load 1 false (.t 34)⟩,co 36 (.len false (.t 35)),co 37 (.bin .eql (.t 36) (.c (.v (.int .i64 0)))),cm 33 37]) (.cond (.t 33) (.seq (.ops [8,9] [⟨(some 38),none,.load 3 true (.t 4)⟩,cm 39 2,cm 40 3,⟨(some 41),none,.call (.c (.fn fd1 [] [])) [(.t 38),(.t 39),(.t 40)]⟩,co 42 (.ext 0 (.t 41)),co 43 (.ext 1 (.t 41)),⟨none,none,.store 3 (.t 8) (.t 42)⟩,cm 9 43]) (.ret)) (.skip)))))) (.seq (.seq (.dops [2,3,4,5,8,48] [⟨(some 44),none,.load 3 true (.t 4)⟩,⟨(some 45),none,.call (.c (.fn faW [] [])) [(.t 44)]⟩,⟨(some 46),none,.load 3 true (.t 5)⟩,⟨(some 47),none,.call (.c (.fn faW [] [])) [(.t 46)]⟩,co 48 (.bin .lss (.t 45) (.t 47))] [(1,2)]) (.cond (.t 48) (.ops [2,3,4,5,8] [⟨(some 49),none,.load 3 true (.t 5)⟩,⟨(some 50),none,.load 3 true (.t 4)⟩,⟨none,none,.store 3 (.t 4) (.t 49)⟩,⟨none,none,.store 3 (.t 5) (.t 50)⟩]) (.skip))) vJ))):=rfl
theorem am9(oa:Ok0 a)(ob:Ok0 b)(va:vd a=true)(vb:vd b=true)(na:a.m.length≠0)(nb:b.m.length≠0)(hp:8<=p/\p<=512)(ht:aN b<=aN a):
  ag (Ey a b p).1.1<=4120∧-40000<=(Ey a b p).1.2.1/\(Ey a b p).1.2.1<=40000:=by
 have e1:=jq va na;have e2:=jq vb nb;obtain⟨a1,a2,a3,a4⟩:=dj va oa.lb;obtain⟨b1,b2,b3,b4⟩:=dj vb ob.lb;have l1:=ST (a:=a) (b:=b) (p:=p);have l2:=Ph va vb oa.lb ob.lb na nb hp ht;have ba:=gM (dQ va na);have bb:=gM (dQ vb nb);rw[SV];obtain⟨l,hl⟩:∃l,zB a b p=l:=⟨_,rfl⟩;rw[hl]at l1 l2⊢;have hX:ag (ab a.m*2^ (a.e-l).toNat)<=4100:=by
  rw[dJ _ (dQ va na)];omega
 have hY:ag (yZ b l).1<=4100:=by
  unfold yZ;split
  ·rw[dJ _ (dQ vb nb)];omega
  ·show ag (_/_)<=_;rw[l8];omega
 generalize(yZ b l).1=Y at hY⊢;generalize(yZ b l).2=lost;generalize ab a.m*2^ (a.e-l).toNat=X at hX⊢;have hU:ag (wH (Y,lost))<=4101:=by
  unfold wH;split
  ·have:=Uw Y;show ag (Y+1)<=4101;omega
  ·show ag Y<=4101;omega
 have hm:∀x y:Nat,x<=y->ag y<=4101->ag x<=4101:=fun x y h1 h2=>Bb h1 h2;generalize hYU:wH (Y,lost)=YU at hU;unfold SU;rw[hYU];split
 ·have:=C9 hX hY;exact⟨aCP this δ,by show-40000<=l;omega,by show l<=40000;omega⟩
 ·split
  ·exact⟨aCP (hm _ _ (Nat.sub_le _ _) hU) δ,by show-40000<=l;omega,by show l<=40000;omega⟩
  ·exact⟨aCP (hm _ _ (Nat.sub_le _ _) (aCP hX δ)) δ,by show-40000<=l;omega,by show l<=40000;omega⟩
theorem Ux(oa:Ok0 a)(ob:Ok0 b)(va:vd a=true)(vb:vd b=true)(na:a.m.length≠0)(nb:b.m.length≠0){up:Bool}(hp:8<=n/\n<=512)(ht:aN b<=aN a)(s:ap)(h:ae)
  (h2:s 2=I (n:Nat)) (h3:s 3=B up) (h4:s 4=ac 4) (h5:s 5=ac 5) (h8:s 8=ac 8)
  (k4:h 4=.bx (ai a)) (k5:h 5=.bx (ai b)) (k8:h 8=.bx [.v (.bool false),.emp,.v (.int .i64 0)]) (kd:∀i,i≠4->i≠5->i≠8->i≠16->h i=.dead):
  kj false [[.o 0 [],.o 2 [],.o 0 []],[]] [.cell 8 3 true,.t 9] 0 (am R (az false) vJ s h)=some (rV (Yu a b (n:Nat) up),[]):=by
 have hs:=aqd oa ob va vb na nb (p:=(n:Nat)) ⟨by omega,by omega⟩ ht;obtain⟨g1,g2,g3⟩:=am9 oa ob va vb na nb (p:=(n:Nat)) ⟨by omega,by omega⟩ ht;have hl:(aA (Ey a b (n:Nat)).1.1).length<=256:=aX ω;have hg:=fun neg up=>G7 (M:=aA (Ey a b (n:Nat)).1.1) (e:=(Ey a b (n:Nat)).1.2.1) (n:=n) (more:=(Ey a b (n:Nat)).1.2.2) (up:=up) (neg:=neg) (bh _) hl ⟨g2,g3⟩ hp;unfold Yu;generalize Ey a b (n:Nat)=z at hs g1 g2 g3 hl hg⊢;obtain⟨⟨M,l,more⟩,t⟩:=z;simp only[sV,af,ai,zW]at hs hg k4 k5;simp only[aT]at hg;have hw:=hg (a.neg !=t) up;generalize hr:iX (a.neg !=t) (df M l more (n:Nat) (up != (a.neg !=t)))=r at hw;simp only[rV,af,ai]at hw;by_cases hM:M=0
 ·have e1:(((aA M).length:Int)=0)=True:=tt (by rw[hM,go];rfl);cases more with
  |false=>
   rw[if_pos ⟨hM,rfl⟩];clear hr;simp only[vJ,rV,af,ai,aB,go_sem,ne_eq,not_false_eq_true,h2,h3,h4,h5,h8,k4,k5,k8,kd,hs,e1]
  |true=>
   rw[if_neg (fun h=>aCR h.2.symm)];rw[show iX (a.neg !=t) (df M l true (n:Nat) (up != (a.neg !=t)))=r from hr];clear hr;simp only[vJ,rV,af,ai,go_sem,ne_eq,not_false_eq_true,h2,h3,h4,h5,h8,k4,k5,k8,kd,hs,e1,xz,hw]
 ·have e1:(((aA M).length:Int)=0)=False:=ff (fun h=>hM (pB.1 (List.length_eq_zero_iff.1 ω)));rw[if_neg (fun h=>hM h.1)];rw[show iX (a.neg !=t) (df M l more (n:Nat) (up != (a.neg !=t)))=r from hr];clear hr;simp only[vJ,rV,af,ai,go_sem,ne_eq,not_false_eq_true,h2,h3,h4,h5,h8,k4,k5,k8,kd,hs,e1,xz,hw]
theorem akp(oa:Ok0 a)(ob:Ok0 b){up:Bool}(h0:aY p [a,b]=0)(a0:a.m.length≠0)(b0:b.m.length≠0):R fdU [af a,af b,I p,B up] []=some (rV (SW a b p up),[]):=by
 refine au N9 rfl ?_;have hf:R fdX [I p,.sl 3 [[B a.neg,lm a.m,I a.e],[B b.neg,lm b.m,I b.e]]] []=some (I (aY p [a,b]),[]):=C8 (p:=p) (l:=[a,b]) (fun x hx=>by
  rcases List.mem_cons.1 hx with h|h
  ·rw[h];exact oa
  ·rw[List.mem_singleton.1 h];exact ob) (show 2<=100000 by decide)
 rw[h0]at hf;obtain⟨v1,hp⟩:=xI h0;have v4:vd a=true/\vd b=true:=by simpa using v1
 obtain⟨va,vb⟩:=v4;have ta:=zV oa;have tb:=zV ob;simp only[af,ai]at ta tb;obtain⟨n,rfl⟩:=aDG (show 0<=p by omega);have e1:((a.m.length:Int)=0)=False:=ff;have e2:((b.m.length:Int)=0)=False:=ff;unfold SW;rw[if_pos h0,if_neg a0,if_neg b0];by_cases ht:aN a<aN b
 ·have e3:(aN a<aN b)=True:=tt ht;rw[if_pos ht];simp only[pW,D6,af,ai,go_sem,hf,e1,e2,ta,tb,e3];refine Ux ob oa vb va b0 a0 ω ω _ _ rfl rfl rfl rfl rfl rfl rfl rfl fun i h4 h5 h8 h16=>?_;simp only[cB,h4,h5,h8,h16,if_false]
 ·have e3:(aN a<aN b)=False:=ff ht;rw[if_neg ht];simp only[pW,D6,af,ai,go_sem,hf,e1,e2,ta,tb,e3];refine Ux oa ob va vb a0 b0 ω ω _ _ rfl rfl rfl rfl rfl rfl rfl rfl fun i h4 h5 h8 h16=>?_;simp only[cB,h4,h5,h8,h16,if_false]
theorem abT(oa:Ok0 a)(ob:Ok0 b){up:Bool}:R fdU [af a,af b,I p,B up] []=some (rV (dk a b p up),[]):=by
 rw[←am8 oa ob];by_cases h0:aY p [a,b]=0
 ·by_cases a0:a.m.length=0
  ·exact Pj oa ob (Or.inr (Or.inl a0))
  ·by_cases b0:b.m.length=0
   ·exact Pj oa ob (Or.inr (Or.inr b0))
   ·exact akp oa ob h0 a0 b0
 ·exact Pj oa ob (Or.inl h0)
theorem Pm(oa:Ok0 a)(ob:Ok0 b):R fdL [af a,af b,I p] []=some (rV (dk a b p true),[]):=by
 refine au VL rfl ?_;have hr:=abT oa ob (p:=p) (up:=true);generalize dk a b p true=r at hr⊢;simp only[rV,af,ai]at hr;simp only[CU,rV,af,ai,go_sem,hr]
theorem JI(oa:Ok0 a)(ob:Ok0 b):R fdK [af a,af b,I p] []=some (rV (dk a b p false),[]):=by
 refine au QG rfl ?_;have hr:=abT oa ob (p:=p) (up:=false);generalize dk a b p false=r at hr⊢;simp only[rV,af,ai]at hr;simp only[Ar,rV,af,ai,go_sem,hr]
theorem LE(oa:Ok0 a)(ob:Ok0 b):R fdR [af a,af b,I p] []=some (rV (gp a b p true),[]):=by
 rw[←abR oa ob];exact akl oa ob
theorem HQ(oa:Ok0 a)(ob:Ok0 b):R fdQ [af a,af b,I p] []=some (rV (gp a b p false),[]):=by
 rw[←abR oa ob];exact aeR oa ob
def cw(d:Rd)(p:Int)(up:Bool):Rd×Int:=if aY p [d]=0 then iL (zI d) (-16384) p up else(aB,aY p [d])
theorem SY(ok:Ok0 d):R fdT [af d,I p] []=some (rV (cw d p true),[]):=by
 have h:=G8 ok (p:=p) (up:=true);rw[cw,←h];exact aqc ok
theorem LG(ok:Ok0 d):R fdO [af d,I p] []=some (rV (cw d p false),[]):=by
 have h:=G8 ok (p:=p) (up:=false);rw[cw,←h];exact akk ok
structure Ri where
 lo:Rd
 hi:Rd
 all:Bool
def ao(x:Ri):List AV:=[B x.lo.neg,lm x.lo.m,I x.lo.e,B x.hi.neg,lm x.hi.m,I x.hi.e,B x.all]
def aj(x:Ri):AV:=.agg (ao x)
def cS:Ri:=⟨aB,aB,true⟩
structure OkI (x:Ri):Prop where
 lo:Ok0 x.lo
 hi:Ok0 x.hi
def z0(d:Rd):Bool:=!d.neg&& (decide (d.m.length=0)&&decide (d.e=0))
def vi(x:Ri):Bool:=if x.all=true then z0 x.lo&&z0 x.hi else vd x.lo&& (vd x.hi&&decide (zI x.lo<=zI x.hi))
def kI(x:Ri):Bool:=!x.all&&vi x
def bC(p:Int):Bool:=decide (8<=p)&&decide (p<=512)
theorem mP:R fbJ [I p] []=some (B (bC p),[]):=by
 refine au Js rfl ?_;unfold bC;by_cases h1:8<=p
 ·have e1:(8<=p)=True:=tt h1;simp only[m9,go_sem,e1,decide_true,aCM]
 ·have e1:(8<=p)=False:=ff h1;simp only[m9,go_sem,e1,decide_false,aCO]
theorem gN:R fbB [] []=some (aj cS,[]):=by
 refine au OM rfl ?_;simp only[yY,aj,ao,cS,aB,go_sem]
theorem amf:R fbA [af d] []=some (B (z0 d),[]):=by
 refine au Lu rfl ?_;unfold z0;cases hn:d.neg with
 |true=>simp only[jD,af,ai,go_sem,hn,Bool.not_true,aCO]
 |false=>
  by_cases h1:d.m.length=0
  ·have e1:((d.m.length:Int)=0)=True:=tt;by_cases h2:d.e=0
   ·have e2:(d.e=0)=True:=tt h2;rw[decide_eq_true h1,decide_eq_true h2];simp only[jD,af,ai,go_sem,hn,e1,e2,Bool.not_false,aCM]
   ·have e2:(d.e=0)=False:=ff h2;rw[decide_eq_true h1,decide_eq_false h2];simp only[jD,af,ai,go_sem,hn,e1,e2,Bool.not_false,aCM]
  ·have e1:((d.m.length:Int)=0)=False:=ff;rw[decide_eq_false h1];simp only[jD,af,ai,go_sem,hn,e1,Bool.not_false,aCM,aCO]
theorem yD{x y:Int}:(cM x y<=0)=(x<=y):=by
 grind[cM]
variable{x:Ri}
theorem oW(ok:OkI x):R fbz [aj x] []=some (B (vi x),[]):=by
 refine au OH rfl ?_;unfold vi;have zl:=amf (d:=x.lo);have zh:=amf (d:=x.hi);have vl:=eS ok.lo;have vh:=eS ok.hi;have hc:=pG ok.lo ok.hi;simp only[af,ai]at zl zh vl vh hc;cases ha:x.all with
 |true=>
  cases h1:z0 x.lo with
  |true=>
   rw[h1]at zl;simp only[jk,aj,ao,go_sem,ha,zl,zh,aCM]
  |false=>
   rw[h1]at zl;simp only[jk,aj,ao,go_sem,ha,zl,aCO]
 |false=>
  cases h1:vd x.lo with
  |false=>
   rw[h1]at vl;simp only[jk,aj,ao,go_sem,ha,vl,aCO]
  |true=>
   rw[h1]at vl;cases h2:vd x.hi with
   |false=>
    rw[h2]at vh;simp only[jk,aj,ao,go_sem,ha,vl,vh,aCM,aCO]
   |true=>
    rw[h2]at vh;rw[h1,h2,if_pos ⟨rfl,rfl⟩]at hc;simp only[jk,aj,ao,go_sem,ha,vl,vh,hc,yD,aCM]
theorem gO(ok:Ok0 d)(hv:vd d=true):R fbs [af d] []=some (aj ⟨d,d,false⟩,[]):=by
 refine au OQ rfl ?_;have vl:=eS ok;rw[hv]at vl;simp only[af,ai]at vl;simp only[y5,af,ai,aj,ao,go_sem,vl]
def nv(r s:Rd×Int):Ri:=if r.2=0/\s.2=0 then⟨r.1,s.1,false⟩else cS
theorem Fe:R fbH [af a,I e,af b,I f] []=some (aj (nv (a,e) (b,f)),[]):=by
 refine au QN rfl ?_;have hw:=gN;unfold nv;by_cases h1:e=0
 ·have e1:(e=0)=True:=tt h1;by_cases h2:f=0
  ·have e2:(f=0)=True:=tt h2;simp only[pU,af,ai,aj,ao,go_sem,e1,e2]
  ·have e2:(f=0)=False:=ff h2;simp only[pU,af,ai,aj,ao,go_sem,e1,e2,hw]
 ·have e1:(e=0)=False:=ff h1;simp only[pU,af,ai,aj,ao,go_sem,e1,hw]
def bS(l:List Ri):List (List AV):=l.map ao
@[go_sem] theorem abU(l:List Ri):(bS l).length=l.length:=by simp[bS]
theorem Bc{l:List Ri}{d:Ri}(hi:i=n)(h:l[n]?=some d):aZ (bS l) i=some (.ipt (ao d)):=by
 grind[aZ,bS]
theorem aeT(l:List Ri)(ok:∀d∈l,OkI d)(h2:l.length<=100000):∀ (k i:Nat),i+k=l.length->∀ (s:ap) (h:ae),s 5=.sl 7 (bS l)->s 6=I l.length->s 7=I i->
  ∃hh,ak 0 [] (av (am R (az false) jE) [5,6,7] [] s h)=if((l.drop i).all kI)=true then some (.normal,⟨fun _=>.any,fun _=>.dead⟩)else some (.ret,⟨upd bk 2 (B false),hh⟩):=by
 intro k;induction k with
 |zero=>
  intro i hi s h h5 h6 h7;have e1:((i:Int)<l.length)=False:=ff;rw[aC3 ω,ah,List.all_nil,if_pos rfl];refine⟨fun _=>.dead,?_⟩;simp only[jE,go_sem,h5,h6,h7,e1]
 |succ k ih=>
  intro i hi s h h5 h6 h7;have hlt:i<l.length:=ω
  have e1:((i:Int)<l.length)=True:=tt;have e2:aZ (bS l) (i:Int)=some (.ipt (ao l[i])):=Bc rfl (List.getElem?_eq_getElem hlt);have e5:aG ((i:Int)+1)=((i+1:Nat):Int):=wi;have e3:=oW (ok l[i] (aC0 hlt));rw[aC4 hlt,aDb,ah];have ih':=ih (i+1) ω;generalize l[i]=d at e2 e3⊢;simp only[aj]at e3;simp only[ao]at e2 e3;unfold kI at ih'⊢;cases ha:d.all with
  |true=>
   refine⟨?hh,?_⟩;rotate_left;simp only[jE,go_sem,h5,h6,h7,e1,e2,ha];rfl
  |false=>
   rw[ha]at e3;cases hv:vi d with
   |false=>
    rw[hv]at e3;refine⟨?hh2,?_⟩;rotate_left;simp only[jE,go_sem,h5,h6,h7,e1,e2,e3,ha];rfl
   |true=>
    rw[hv]at e3;simp only[jE,go_sem,h5,h6,h7,e1,e2,e3,e5,ha];exact ih' _ _ rfl rfl rfl
theorem Yy{l:List Ri}(ok:∀d∈l,OkI d)(h2:l.length<=100000):R fbF [.sl 7 (bS l)] []=some (B (l.all kI),[]):=by
 refine au ON rfl ?_;have h3:=aeT l ok h2 l.length 0 (aCI _);simp only[aDI,aDf]at h3;cases ha:l.all kI with
 |false=>
  rw[ha]at h3;simp only[so,Aq,go_sem];rw[(h3 _ _ rfl rfl rfl).choose_spec];simp only[go_sem]
 |true=>
  rw[ha]at h3;simp only[so,Aq,go_sem];rw[(h3 _ _ rfl rfl rfl).choose_spec];simp only[go_sem]
theorem oZ(ok:OkI x):R fbF [.sl 7 [[B x.lo.neg,lm x.lo.m,I x.lo.e,B x.hi.neg,lm x.hi.m,I x.hi.e,B x.all]]] []=some (B (kI x),[]):=by
 have h:=Yy (l:=[x]) (fun d hd=>by grind) (show 1<=100000 by decide);rw[aDb,List.all_nil,Bool.and_true]at h;exact h
theorem G9{y:Ri}(ox:OkI x)(oy:OkI y):R fbF [.sl 7 [[B x.lo.neg,lm x.lo.m,I x.lo.e,B x.hi.neg,lm x.hi.m,I x.hi.e,B x.all],[B y.lo.neg,lm y.lo.m,I y.lo.e,B y.hi.neg,lm y.hi.m,I y.hi.e,B y.all]]] []=some (B (kI x&&kI y),[]):=by
 have h:=Yy (l:=[x,y]) (fun d hd=>by
  grind) (show 2<=100000 by decide)
 rw[aDb,aDb,List.all_nil,Bool.and_true]at h;exact h
def dq(x y:Ri)(p:Int):Ri:=if(kI x&&kI y&&bC p)=true then nv (dk x.lo y.lo p false) (dk x.hi y.hi p true)else cS
theorem tC{y:Ri}(ox:OkI x)(oy:OkI y):R fbh [aj x,aj y,I p] []=some (aj (dq x y p),[]):=by
 refine au Sy rfl ?_;have hk:=G9 ox oy;have hp:=mP (p:=p);have hw:=gN;have hd:=JI ox.lo oy.lo (p:=p);have hu:=Pm ox.hi oy.hi (p:=p);unfold dq;generalize dk x.lo y.lo p false=r at hd⊢;generalize dk x.hi y.hi p true=q at hu⊢;obtain⟨r1,r2⟩:=r;obtain⟨q1,q2⟩:=q;have hm:=Fe (a:=r1) (b:=q1) (e:=r2) (f:=q2);simp only[aj,ao,rV,af,ai]at hw hd hu hm;cases h1:(kI x&&kI y)with
 |false=>
  rw[h1]at hk;simp only[rp,aj,ao,go_sem,hk,hw]
 |true=>
  rw[h1]at hk;cases h2:bC p with
  |false=>
   rw[h2]at hp;simp only[rp,aj,ao,go_sem,hk,hp,hw]
  |true=>
   rw[h2]at hp;simp only[rp,aj,ao,go_sem,hk,hp,hw,hd,hu,hm]
def fT(a b:Rd):Int:=if vd a=true/\vd b=true then cM (zI a) (zI b)else 0
def mB(a b:Rd):Rd:=if fT a b<=0 then a else b
def mC(a b:Rd):Rd:=if 0<=fT a b then a else b
theorem SZ(oa:Ok0 a)(ob:Ok0 b):R fbG [af a,af b] []=some (af (mB a b),[]):=by
 refine au QR rfl ?_;have hc:=pG oa ob;rw[show(if vd a=true/\vd b=true then cM (zI a) (zI b)else 0)=fT a b from rfl]at hc;simp only[af,ai]at hc;unfold mB;by_cases h:fT a b<=0
 ·have e1:(fT a b<=0)=True:=tt h;simp only[uB,af,ai,go_sem,hc,e1]
 ·have e1:(fT a b<=0)=False:=ff h;simp only[uB,af,ai,go_sem,hc,e1]
theorem S0(oa:Ok0 a)(ob:Ok0 b):R fbI [af a,af b] []=some (af (mC a b),[]):=by
 refine au QQ rfl ?_;have hc:=pG oa ob;rw[show(if vd a=true/\vd b=true then cM (zI a) (zI b)else 0)=fT a b from rfl]at hc;simp only[af,ai]at hc;unfold mC;by_cases h:0<=fT a b
 ·have e1:(0<=fT a b)=True:=tt h;simp only[uA,af,ai,go_sem,hc,e1]
 ·have e1:(0<=fT a b)=False:=ff h;simp only[uA,af,ai,go_sem,hc,e1]
theorem amg(h:kI x=true):vd x.lo=true/\vd x.hi=true/\zI x.lo<=zI x.hi/\x.all=false:=by
 unfold kI vi at h;grind
theorem atx(h1:vd x.lo=true)(h2:vd x.hi=true)(h3:zI x.lo<=zI x.hi)(h4:x.all=false):kI x=true:=by
 grind[kI,vi,decide_eq_true]
def Kv(x:Ri):Int:=if 0<cX x.lo then 1 else if cX x.hi<0 then-1 else 0
theorem Pn(ok:OkI x)(hx:kI x=true):R fbw [aj x] []=some (I (Kv x),[]):=by
 refine au QD rfl ?_;obtain⟨v1,v2,v3,v4⟩:=amg hx;have hk:=oZ ok;rw[hx]at hk;have s1:=AI ok.lo v1;have s2:=AI ok.hi v2;simp only[af,ai]at s1 s2;unfold Kv;by_cases h1:0<cX x.lo
 ·have e1:(0<cX x.lo)=True:=tt h1;simp only[pN,aj,ao,go_sem,hk,s1,e1]
 ·have e1:(0<cX x.lo)=False:=ff h1;by_cases h2:cX x.hi<0
  ·have e2:(cX x.hi<0)=True:=tt h2;simp only[pN,aj,ao,go_sem,hk,s1,e1,s2,e2]
  ·have e2:(cX x.hi<0)=False:=ff h2;simp only[pN,aj,ao,go_sem,hk,s1,e1,s2,e2]
def me(d:Rd):Rd:=if vd d=false\/d.m.length=0 then aB else⟨false,d.m,d.e⟩
theorem aO:vd aB=true/\Ok0 aB:=⟨rfl,⟨fun x hx=>(nomatch hx),by decide⟩⟩
theorem tD(ok:Ok0 d):Ok0 (me d):=by
 unfold me;split
 ·exact aO.2
 ·exact⟨ok.1,ok.2⟩
def Db(x:Ri):Rd:=if Kv x=0 then aB else mB (me x.lo) (me x.hi)
def wo(x:Ri):Rd:=mC (me x.lo) (me x.hi)
theorem aqe(ok:OkI x)(hx:kI x=true):R fbp [aj x] []=some (.tup [af (Db x),B true],[]):=by
 refine au SI rfl ?_;have hk:=oZ ok;rw[hx]at hk;have hs:=Pn ok hx;have a1:=LA ok.lo;have a2:=LA ok.hi;rw[show(if vd x.lo=false\/x.lo.m.length=0 then aB else(⟨false,x.lo.m,x.lo.e⟩:Rd))=me x.lo from rfl]at a1;rw[show(if vd x.hi=false\/x.hi.m.length=0 then aB else(⟨false,x.hi.m,x.hi.e⟩:Rd))=me x.hi from rfl]at a2;have hl:=SZ (tD ok.lo) (tD ok.hi);unfold Db;simp only[aj,ao,af,ai]at hs a1 a2 hl;by_cases h1:Kv x=0
 ·have e1:(Kv x=0)=True:=tt h1;simp only[wF,aj,ao,af,ai,aB,go_sem,hk,hs,e1]
 ·have e1:(Kv x=0)=False:=ff h1;simp only[wF,aj,ao,af,ai,go_sem,hk,hs,e1,a1,a2,hl]
theorem Yz(ok:OkI x)(hx:kI x=true):R fbm [aj x] []=some (.tup [af (wo x),B true],[]):=by
 refine au SJ rfl ?_;have hk:=oZ ok;rw[hx]at hk;have a1:=LA ok.lo;have a2:=LA ok.hi;rw[show(if vd x.lo=false\/x.lo.m.length=0 then aB else(⟨false,x.lo.m,x.lo.e⟩:Rd))=me x.lo from rfl]at a1;rw[show(if vd x.hi=false\/x.hi.m.length=0 then aB else(⟨false,x.hi.m,x.hi.e⟩:Rd))=me x.hi from rfl]at a2;have hl:=S0 (tD ok.lo) (tD ok.hi);unfold wo;simp only[af,ai]at a1 a2 hl;simp only[B9,aj,ao,af,ai,go_sem,hk,a1,a2,hl]
def lC(x:Ri):Ri:=if kI x=true then⟨Db x,wo x,false⟩else cS
theorem abV(ok:OkI x):R fbg [aj x] []=some (aj (lC x),[]):=by
 refine au SA rfl ?_;have hk:=oZ ok;have hw:=gN;unfold lC;cases hx:kI x with
 |false=>
  rw[hx]at hk;simp only[wB,aj,ao,go_sem,hk,hw]
 |true=>
  rw[hx]at hk;have h1:=aqe ok hx;have h2:=Yz ok hx;simp only[aj,ao,af,ai]at h1 h2;simp only[wB,aj,ao,go_sem,hk,h1,h2]
def Ci(dn up:Rd->Rd->Rd×Int)(pr:Nat->Rd×Rd):Nat->Nat->Rd×Rd->Option (Rd×Rd)
 |0,_,o=>some o
 |k+1,i,o=>if(dn (pr i).1 (pr i).2).2=0/\(up (pr i).1 (pr i).2).2=0 then
   Ci dn up pr k (i+1) (if fT (dn (pr i).1 (pr i).2).1 o.1<0 then(dn (pr i).1 (pr i).2).1 else o.1,if 0<fT (up (pr i).1 (pr i).2).1 o.2 then(up (pr i).1 (pr i).2).1 else o.2)
  else none
def sD(dn up:Rd->Rd->Rd×Int)(pr:Nat->Rd×Rd):Option (Rd×Rd):=
 if(dn (pr 0).1 (pr 0).2).2=0/\(up (pr 0).1 (pr 0).2).2=0 then Ci dn up pr 3 1 ((dn (pr 0).1 (pr 0).2).1,(up (pr 0).1 (pr 0).2).1)else none
def Is:Option (Rd×Rd)->Ri
 |some o=>⟨o.1,o.2,false⟩
 |none=>cS
def Wk(x:Option (Ex×St))(o:Option (Rd×Rd)):Prop:=match o with
 |some q=>∃hh,x=some (.normal,⟨upd (upd bk 12 (ac 12)) 10 (ac 10),hh⟩)/\hh 10=.bx [.v (.bool false),.emp,.v (.int .i64 0),.v (.bool false),.emp,.v (.int .i64 0),.v (.bool false)]/\hh 12=.bx (ao ⟨q.1,q.2,false⟩)
 |none=>∃hh,x=some (.ret,⟨upd bk 10 (ac 10),hh⟩)/\hh 10=.bx (ao cS)
theorem Be{up:Bool}:Ok0 (gp a b p up).1:=by
 unfold gp;split
 ·exact vH.2
 ·exact aO.2
structure Op2 (f:FuncId) (g:Rd->Rd->Rd×Int) (p:Int):Prop where
 ct:∀ {a b:Rd},Ok0 a->Ok0 b->R f [af a,af b,I p] []=some (rV (g a b),[])
 ok:∀ {a b:Rd},Ok0 (g a b).1
 s:CA f [[.o 0 [],.o 2 [],.o 0 []],[.o 0 [],.o 2 [],.o 0 []],[]]
 m:CB f []
 k:CC f false
 c:G0 f
variable{dn:Rd->Rd->Rd×Int}
theorem ag4{A:AV}{pr:Nat->Rd×Rd}{up:Rd->Rd->Rd×Int}(oD:Op2 fD dn p)(oU:Op2 fU up p)(hA:iQ [10,12] A=A)(hidx:∀i:Nat,i<4->Ms 4 6 true A (I i)=some (.agg [B (pr i).1.neg,lm (pr i).1.m,I (pr i).1.e,B (pr i).2.neg,lm (pr i).2.m,I (pr i).2.e]))
  (hok:∀i,Ok0 (pr i).1/\Ok0 (pr i).2):∀ (k i:Nat),i+k=4->1<=i->∀ (lo hi:Rd) (s:ap) (h:ae),Ok0 lo->Ok0 hi->s 2=I p->s 3=.fn fD [] []->s 4=.fn fU [] []->s 10=ac 10->s 12=ac 12->s 40=A->s 41=I i->
  h 10=.bx [.v (.bool false),.emp,.v (.int .i64 0),.v (.bool false),.emp,.v (.int .i64 0),.v (.bool false)]->h 12=.bx (ao ⟨lo,hi,false⟩)->
  Wk (ak 0 [10,12] (av (am R (az false) bJ) [2,3,4,10,12,40,41] [10,12] s h)) (Ci dn up pr k i (lo,hi)):=by
 intro k;induction k with
 |zero=>
  intro i hi4 h1 lo hi s h olo ohi h2 h3 h4 h10 h12 h40 h41 k10 k12;have e1:((i:Int)<4)=False:=ff;simp only[ao]at k12;rw[ah];refine⟨?hh0,?_,?_,?_⟩;rotate_left
  ·simp only[bJ,go_sem,h2,h3,h4,h10,h12,h40,h41,k10,k12,hA,e1];rfl
  ·rfl
  ·rfl
 |succ k ih=>
  intro i hi4 h1 lo hi s h olo ohi h2 h3 h4 h10 h12 h40 h41 k10 k12;have e1:((i:Int)<4)=True:=tt;have e0:((i:Int)=0)=False:=ff;have ei:=hidx i ω;have e5:aG ((i:Int)+1)=((i+1:Nat):Int):=wi;have hd:=oD.ct (hok i).1 (hok i).2;have hu:=oU.ct (hok i).1 (hok i).2;have hw:=gN;have okd:=oD.ok (a:=(pr i).1) (b:=(pr i).2);have oku:=oU.ok (a:=(pr i).1) (b:=(pr i).2);have c1:=pG okd olo;have c2:=pG oku ohi;rw[show∀a b:Rd,(if vd a=true/\vd b=true then cM (zI a) (zI b)else 0)=fT a b from fun _ _=>rfl]at c1 c2;have ih':=ih (i+1) ω ω;unfold Ci;simp only[ao]at k12;show Wk _ (if(dn (pr i).1 (pr i).2).2=0/\(up (pr i).1 (pr i).2).2=0 then _ else none);generalize dn (pr i).1 (pr i).2=r at hd okd c1⊢;generalize up (pr i).1 (pr i).2=q at hu oku c2⊢;obtain⟨r1,r2⟩:=r;obtain⟨q1,q2⟩:=q;show Wk _ (if r2=0/\q2=0 then Ci dn up pr k (i+1) (if fT r1 lo<0 then r1 else lo,if 0<fT q1 hi then q1 else hi)else none);simp only[rV,af,ai,aj,ao,cS,aB]at hd hu hw c1 c2;rw[ah];generalize av _ _ _=L at ih'⊢;by_cases hr:r2=0
  ·have er:(r2=0)=True:=tt hr;by_cases hq:q2=0
   ·have eq:(q2=0)=True:=tt hq;rw[if_pos (show r2=0/\q2=0 from⟨hr,hq⟩)];by_cases g1:fT r1 lo<0
    ·have f1:(fT r1 lo<0)=True:=tt g1;by_cases g2:0<fT q1 hi
     ·have f2:(0<fT q1 hi)=True:=tt g2;rw[if_pos g1,if_pos g2];simp only[bJ,Int.cast_ofNat_Int,go_sem,oD.s,oD.m,oD.k,oD.c,oU.s,oU.m,oU.k,oU.c,aCV,aC2,aDg,h2,h3,h4,h10,h12,h40,h41,k10,k12,hA,e1,e0,ei,hd,hu,er,eq,c1,c2,f1,f2,e5];exact ih' r1 q1 _ _ okd oku rfl rfl rfl rfl rfl rfl rfl rfl rfl
     ·have f2:(0<fT q1 hi)=False:=ff g2;rw[if_pos g1,if_neg g2];simp only[bJ,Int.cast_ofNat_Int,go_sem,oD.s,oD.m,oD.k,oD.c,oU.s,oU.m,oU.k,oU.c,aCV,aC2,aDg,h2,h3,h4,h10,h12,h40,h41,k10,k12,hA,e1,e0,ei,hd,hu,er,eq,c1,c2,f1,f2,e5];exact ih' r1 hi _ _ okd ohi rfl rfl rfl rfl rfl rfl rfl rfl rfl
    ·have f1:(fT r1 lo<0)=False:=ff g1;by_cases g2:0<fT q1 hi
     ·have f2:(0<fT q1 hi)=True:=tt g2;rw[if_neg g1,if_pos g2];simp only[bJ,Int.cast_ofNat_Int,go_sem,oD.s,oD.m,oD.k,oD.c,oU.s,oU.m,oU.k,oU.c,aCV,aC2,aDg,h2,h3,h4,h10,h12,h40,h41,k10,k12,hA,e1,e0,ei,hd,hu,er,eq,c1,c2,f1,f2,e5];exact ih' lo q1 _ _ olo oku rfl rfl rfl rfl rfl rfl rfl rfl rfl
     ·have f2:(0<fT q1 hi)=False:=ff g2;rw[if_neg g1,if_neg g2];simp only[bJ,Int.cast_ofNat_Int,go_sem,oD.s,oD.m,oD.k,oD.c,oU.s,oU.m,oU.k,oU.c,aCV,aC2,aDg,h2,h3,h4,h10,h12,h40,h41,k10,k12,hA,e1,e0,ei,hd,hu,er,eq,c1,c2,f1,f2,e5];exact ih' lo hi _ _ olo ohi rfl rfl rfl rfl rfl rfl rfl rfl rfl
   ·have eq:(q2=0)=False:=ff hq;rw[if_neg (show¬(r2=0/\q2=0)from fun h=>hq h.2)];refine⟨?hh1,?_,?_⟩;rotate_left
    ·simp only[bJ,Int.cast_ofNat_Int,go_sem,oD.s,oD.m,oD.k,oD.c,oU.s,oU.m,oU.k,oU.c,aCV,aC2,aDg,h2,h3,h4,h10,h12,h40,h41,k10,k12,hA,e1,ei,hd,hu,er,eq,hw];rfl
    ·rfl
  ·have er:(r2=0)=False:=ff hr;rw[if_neg (show¬(r2=0/\q2=0)from fun h=>hr h.1)];refine⟨?hh2,?_,?_⟩;rotate_left
   ·simp only[bJ,Int.cast_ofNat_Int,go_sem,oD.s,oD.m,oD.k,oD.c,oU.s,oU.m,oU.k,oU.c,aCV,aC2,aDg,h2,h3,h4,h10,h12,h40,h41,k10,k12,hA,e1,ei,hd,hu,er,hw];rfl
   ·rfl
variable{pr:Nat->Rd×Rd}
theorem aeU{A:AV}{up:Rd->Rd->Rd×Int}(oD:Op2 fD dn p)(oU:Op2 fU up p)(hA:iQ [10,12] A=A)(hidx:∀i:Nat,i<4->Ms 4 6 true A (I i)=some (.agg [B (pr i).1.neg,lm (pr i).1.m,I (pr i).1.e,B (pr i).2.neg,lm (pr i).2.m,I (pr i).2.e]))
  (hok:∀i,Ok0 (pr i).1/\Ok0 (pr i).2) (s:ap) (h:ae) (h2:s 2=I p) (h3:s 3=.fn fD [] []) (h4:s 4=.fn fU [] []) (h10:s 10=ac 10) (h12:s 12=ac 12) (h40:s 40=A) (h41:s 41=I 0)
  (k10:h 10=.bx [.v (.bool false),.emp,.v (.int .i64 0),.v (.bool false),.emp,.v (.int .i64 0),.v (.bool false)]) (k12:h 12=.bx [.v (.bool false),.emp,.v (.int .i64 0),.v (.bool false),.emp,.v (.int .i64 0),.v (.bool false)]):
  Wk (ak 0 [10,12] (av (am R (az false) bJ) [2,3,4,10,12,40,41] [10,12] s h)) (sD dn up pr):=by
 have ei:=hidx 0 δ;simp only[aDf]at ei;have hd:=oD.ct (hok 0).1 (hok 0).2;have hu:=oU.ct (hok 0).1 (hok 0).2;have hw:=gN;have okd:=oD.ok (a:=(pr 0).1) (b:=(pr 0).2);have oku:=oU.ok (a:=(pr 0).1) (b:=(pr 0).2);have ih':=ag4 (p:=p) (A:=A) (pr:=pr) oD oU hA hidx hok 3 1 rfl δ;unfold sD;generalize dn (pr 0).1 (pr 0).2=r at hd okd⊢;generalize up (pr 0).1 (pr 0).2=q at hu oku⊢;obtain⟨r1,r2⟩:=r;obtain⟨q1,q2⟩:=q;simp only[rV,af,ai,aj,ao,cS,aB]at hd hu hw;rw[ah];have e6:aG (0+1)=1:=rfl;by_cases hr:r2=0
 ·have er:(r2=0)=True:=tt hr;by_cases hq:q2=0
  ·have eq:(q2=0)=True:=tt hq;simp only[bJ,Int.cast_ofNat_Int,go_sem,oD.s,oD.m,oD.k,oD.c,oU.s,oU.m,oU.k,oU.c,aCV,aC2,aDg,h2,h3,h4,h10,h12,h40,h41,k10,k12,hA,ei,hd,hu,er,eq,e6];exact ih' r1 q1 _ _ okd oku rfl rfl rfl rfl rfl rfl rfl rfl rfl
  ·have eq:(q2=0)=False:=ff hq;rw[if_neg (show¬(r2=0/\q2=0)from fun h=>hq h.2)];refine⟨?hh3,?_,?_⟩;rotate_left
   ·simp only[bJ,Int.cast_ofNat_Int,go_sem,oD.s,oD.m,oD.k,oD.c,oU.s,oU.m,oU.k,oU.c,aCV,aC2,aDg,h2,h3,h4,h10,h12,h40,h41,k10,k12,hA,ei,hd,hu,er,eq,hw];rfl
   ·rfl
 ·have er:(r2=0)=False:=ff hr;rw[if_neg (show¬(r2=0/\q2=0)from fun h=>hr h.1)];refine⟨?hh4,?_,?_⟩;rotate_left
  ·simp only[bJ,Int.cast_ofNat_Int,go_sem,oD.s,oD.m,oD.k,oD.c,oU.s,oU.m,oU.k,oU.c,aCV,aC2,aDg,h2,h3,h4,h10,h12,h40,h41,k10,k12,hA,ei,hd,hu,er,hw];rfl
  ·rfl
def j7(x y:Ri)(i:Nat):Rd×Rd:=match i with
 |0=>(x.lo,y.lo)
 |1=>(x.lo,y.hi)
 |2=>(x.hi,y.lo)
 |_=>(x.hi,y.hi)
def dt(x y:Ri)(p:Int):Ri:=if(kI x&&kI y&&bC p)=true then Is (sD (fun a b=>gp a b p false) (fun a b=>gp a b p true) (j7 x y))else cS
noncomputable def EK:Cmd:=.seq (.seq (.ops [2,3,4,10,12,40,41] [⟨(some 40),none,.load 24 true (.t 11)⟩,co 41 (.mv (.c (.v (.int .i64 0))))]) (.block 0 [10,12] (.loop [2,3,4,10,12,40,41] [10,12] bJ))) (.seq (.ops [10] [⟨(some 95),none,.load 7 true (.t 12)⟩,⟨none,none,.store 7 (.t 10) (.t 95)⟩]) (.ret))
theorem HR:GU=.seq (.ops [2,3,4,5,6,10] [⟨(some 5),none,.box 7 (.t 0)⟩,⟨(some 6),none,.box 7 (.t 1)⟩,⟨(some 10),none,.alloc [(.v (.bool false)),.emp,(.v (.int .i64 0)),(.v (.bool false)),.emp,(.v (.int .i64 0)),(.v (.bool false))]⟩]) (.seq (.ops [2,3,4,10,11] [co 19 (.fadr 0 (.t 5)),⟨(some 20),none,.load 3 true (.t 19)⟩,co 21 (.fadr 0 (.t 6)),⟨(some 22),none,.load 3 true (.t 21)⟩,co 23 (.build [(.v (.bool false)),.emp,(.v (.int .i64 0)),(.v (.bool false)),.emp,(.v (.int .i64 0))] [(0,3,(.t 20)),(3,3,(.t 22))]),co 24 (.fadr 0 (.t 5)),⟨(some 25),none,.load 3 true (.t 24)⟩,co 26 (.fadr 3 (.t 6)),⟨(some 27),none,.load 3 true (.t 26)⟩,co 28 (.build [(.v (.bool false)),.emp,(.v (.int .i64 0)),(.v (.bool false)),.emp,(.v (.int .i64 0))] [(0,3,(.t 25)),(3,3,(.t 27))]),co 29 (.fadr 3 (.t 5)),⟨(some 30),none,.load 3 true (.t 29)⟩,co 31 (.fadr 0 (.t 6)),⟨(some 32),none,.load 3 true (.t 31)⟩,co 33 (.build [(.v (.bool false)),.emp,(.v (.int .i64 0)),(.v (.bool false)),.emp,(.v (.int .i64 0))] [(0,3,(.t 30)),(3,3,(.t 32))]),co 34 (.fadr 3 (.t 5)),⟨(some 35),none,.load 3 true (.t 34)⟩,co 36 (.fadr 3 (.t 6)),⟨(some 37),none,.load 3 true (.t 36)⟩,co 38 (.build [(.v (.bool false)),.emp,(.v (.int .i64 0)),(.v (.bool false)),.emp,(.v (.int .i64 0))] [(0,3,(.t 35)),(3,3,(.t 37))]),co 39 (.build [(.v (.bool false)),.emp,(.v (.int .i64 0)),(.v (.bool false)),.emp,(.v (.int .i64 0)),(.v (.bool false)),.emp,(.v (.int .i64 0)),(.v (.bool false)),.emp,(.v (.int .i64 0)),(.v (.bool false)),.emp,(.v (.int .i64 0)),(.v (.bool false)),.emp,(.v (.int .i64 0)),(.v (.bool false)),.emp,(.v (.int .i64 0)),(.v (.bool false)),.emp,(.v (.int .i64 0))] [(0,6,(.t 23)),(6,6,(.t 28)),(12,6,(.t 33)),(18,6,(.t 38))]),⟨(some 11),none,.alloc [(.v (.bool false)),.emp,(.v (.int .i64 0)),(.v (.bool false)),.emp,(.v (.int .i64 0)),(.v (.bool false)),.emp,(.v (.int .i64 0)),(.v (.bool false)),.emp,(.v (.int .i64 0)),(.v (.bool false)),.emp,(.v (.int .i64 0)),(.v (.bool false)),.emp,(.v (.int .i64 0)),(.v (.bool false)),.emp,(.v (.int .i64 0)),(.v (.bool false)),.emp,(.v (.int .i64 0))]⟩,⟨none,none,.store 24 (.t 11) (.t 39)⟩]) (.seq (.ops [2,3,4,10,11,12] [⟨(some 12),none,.alloc [(.v (.bool false)),.emp,(.v (.int .i64 0)),(.v (.bool false)),.emp,(.v (.int .i64 0)),(.v (.bool false))]⟩]) EK)):=rfl
theorem aqf{y:Ri}(ox:OkI x)(oy:OkI y)(i:Nat):Ok0 (j7 x y i).1/\Ok0 (j7 x y i).2:=by
 unfold j7;split
 ·exact⟨ox.1,oy.1⟩
 ·exact⟨ox.1,oy.2⟩
 ·exact⟨ox.2,oy.1⟩
 ·exact⟨ox.2,oy.2⟩
def aeV(x y:Ri):List AV:=[B x.lo.neg,lm x.lo.m,I x.lo.e,B y.lo.neg,lm y.lo.m,I y.lo.e,B x.lo.neg,lm x.lo.m,I x.lo.e,B y.hi.neg,lm y.hi.m,I y.hi.e,B x.hi.neg,lm x.hi.m,I x.hi.e,B y.lo.neg,lm y.lo.m,I y.lo.e,B x.hi.neg,lm x.hi.m,I x.hi.e,B y.hi.neg,lm y.hi.m,I y.hi.e]
theorem ag5{y:Ri}(ox:OkI x)(oy:OkI y){up:Rd->Rd->Rd×Int}(oD:Op2 fD dn p)(oU:Op2 fU up p)(s:ap)(h:ae)(h2:s 2=I p)(h3:s 3=.fn fD [] [])(h4:s 4=.fn fU [] [])(h10:s 10=ac 10)(h11:s 11=ac 11)(h12:s 12=ac 12)
  (k10:h 10=.bx [.v (.bool false),.emp,.v (.int .i64 0),.v (.bool false),.emp,.v (.int .i64 0),.v (.bool false)]) (k11:h 11=.bx (aeV x y)) (k12:h 12=.bx [.v (.bool false),.emp,.v (.int .i64 0),.v (.bool false),.emp,.v (.int .i64 0),.v (.bool false)]):
  kj false [[.o 0 [],.o 2 [],.o 0 [],.o 0 [],.o 2 [],.o 0 [],.o 0 []]] [.cell 10 7 true] 0 (am R (az false) EK s h)=some (aj (Is (sD dn up (j7 x y))),[]):=by
 obtain⟨A,hAe⟩:∃A:AV,A=.agg (aeV x y):=⟨_,rfl⟩;have hA:iQ [10,12] A=A:=by
  rw[hAe];rfl
 have hf:=aeU (p:=p) (A:=A) (pr:=j7 x y) oD oU hA (fun i hi=>by
  rw[hAe]
  match i,hi with
  |0,_=>rfl
  |1,_=>rfl
  |2,_=>rfl
  |3,_=>rfl) (aqf ox oy)
 have hl:kf h 24 true (ac 11)=some (A,h,[]):=by
  rw[hAe];simp only[aeV]at k11⊢;simp only[go_sem,k11]
 have hP:∀ (s:ap) (h:ae),s 2=I p->s 3=.fn fD [] []->s 4=.fn fU [] []->s 10=ac 10->s 12=ac 12->s 40=A->s 41=I 0->h 10=.bx [.v (.bool false),.emp,.v (.int .i64 0),.v (.bool false),.emp,.v (.int .i64 0),.v (.bool false)]->h 12=.bx [.v (.bool false),.emp,.v (.int .i64 0),.v (.bool false),.emp,.v (.int .i64 0),.v (.bool false)]->
   kj false [[.o 0 [],.o 2 [],.o 0 [],.o 0 [],.o 2 [],.o 0 [],.o 0 []]] [.cell 10 7 true] 0 (cF (ak 0 [10,12] (av (am R (az false) bJ) [2,3,4,10,12,40,41] [10,12] s h)) (am R (az false) (.seq (.ops [10] [⟨(some 95),none,.load 7 true (.t 12)⟩,⟨none,none,.store 7 (.t 10) (.t 95)⟩]) (.ret))))=some (aj (Is (sD dn up (j7 x y))),[]):=fun s h a2 a3 a4 a10 a12 a40 a41 b10 b12=>by
  have hg:=hf s h a2 a3 a4 a10 a12 a40 a41 b10 b12;cases ho:sD dn up (j7 x y)with
  |none=>
   rw[ho]at hg;obtain⟨hh,g1,g2⟩:=hg;rw[g1];simp only[Is,cS,aj,ao,aB,g2,go_sem]
  |some q=>
   rw[ho]at hg;obtain⟨hh,g1,g2,g3⟩:=hg;rw[g1];simp only[Is,aj,ao,g2,g3,go_sem]
 generalize hLL:av (am R (az false) bJ) [2,3,4,10,12,40,41] [10,12]=L at hP;have hX:∀s h,am R (az false) (.loop [2,3,4,10,12,40,41] [10,12] bJ) s h=L s h:=fun s h=>by rw[←hLL];rfl
 show kj _ _ _ _ (cF (cF (am R (az false) (.ops [2,3,4,10,12,40,41] [⟨(some 40),none,.load 24 true (.t 11)⟩,co 41 (.mv (.c (.v (.int .i64 0))))]) s h) fun s h=>ak 0 [10,12] (am R (az false) (.loop [2,3,4,10,12,40,41] [10,12] bJ) s h)) _)=_;simp only[hX];simp only[go_sem,h2,h3,h4,h10,h11,h12,hl];exact hP _ _ rfl rfl rfl rfl rfl rfl rfl k10 k12
theorem abW{y:Ri}(ox:OkI x)(oy:OkI y){up:Rd->Rd->Rd×Int}(oD:Op2 fD dn p)(oU:Op2 fU up p):R fbE [aj x,aj y,I p,.fn fD [] [],.fn fU [] []] []=some (aj (Is (sD dn up (j7 x y))),[]):=by
 refine au QJ rfl ?_;simp only[At,HR,aj,ao,go_sem];exact ag5 ox oy oD oU _ _ rfl rfl rfl rfl rfl rfl rfl rfl rfl
theorem v9{y:Ri}(ox:OkI x)(oy:OkI y):R fbq [aj x,aj y,I p] []=some (aj (dt x y p),[]):=by
 refine au Ss rfl ?_;have hk:=G9 ox oy;have hp:=mP (p:=p);have hw:=gN;have hf:=abW ox oy (p:=p) (dn:=fun a b=>gp a b p false) (up:=fun a b=>gp a b p true) ⟨fun h1 h2=>HQ h1 h2,Be,rF.1.1,rF.1.2.1,rF.1.2.2.2,rF.1.2.2.1⟩ ⟨fun h1 h2=>LE h1 h2,Be,vE.1.1,vE.1.2.1,vE.1.2.2.2,vE.1.2.2.1⟩;unfold dt;simp only[aj,ao]at hw hf;cases h1:(kI x&&kI y)with
 |false=>
  rw[h1]at hk;simp only[rn,aj,ao,go_sem,hk,hw]
 |true=>
  rw[h1]at hk;cases h2:bC p with
  |false=>
   rw[h2]at hp;simp only[rn,aj,ao,go_sem,hk,hp,hw]
  |true=>
   rw[h2]at hp;simp only[rn,aj,ao,go_sem,hk,hp,hf]
def pe(d:Rd)(p:Int)(up:Bool):Nat->Rd×Int->Rd×Int
 |0,r=>r
 |k+1,r=>if r.2=0 then pe d p up k (gp r.1 d p up)else r
def pw(d:Rd)(n:Nat)(p:Int)(up:Bool):Rd×Int:=pe d p up (n-1) (cw d p up)
theorem Bg{up:Bool}:Ok0 (cw d p up).1:=by
 unfold cw;split
 ·exact vH.2
 ·exact aO.2
theorem aqg{d:Rd}{p:Int}{up:Bool}:∀ (k:Nat) (r:Rd×Int),Ok0 r.1->Ok0 (pe d p up k r).1:=by
 intro k;induction k with
 |zero=>exact fun r h=>h
 |succ k ih=>
  grind[pe,Be]
theorem amh{up:Bool}:Ok0 (pw d n p up).1:=aqg _ _ Bg
noncomputable def xK:Cmd:=.seq (.seq (.ops [1,2,4,5,10,12,13,14] [co 14 (.mv (.c (.v (.int .i64 1))))]) (.block 0 [10,12,13] (.loop [1,2,4,5,10,12,13,14] [5,10,12] be))) (.seq (.ops [10,11] [⟨(some 39),none,.load 3 true (.t 12)⟩,cm 40 13,⟨none,none,.store 3 (.t 10) (.t 39)⟩,cm 11 40]) (.ret))
theorem yR:FT=.seq (.ops [1,2,3,4,5,10] [⟨(some 5),none,.box 3 (.t 0)⟩,⟨(some 10),none,.alloc [(.v (.bool false)),.emp,(.v (.int .i64 0))]⟩,co 11 (.mv (.c (.v (.int .i64 0))))]) (.seq (.ops [1,2,4,5,10,12,13] [cm 16 3,⟨(some 17),none,.load 3 true (.t 5)⟩,cm 18 2,⟨(some 19),none,.call (.t 16) [(.t 17),(.t 18)]⟩,cm 15 19,co 20 (.ext 0 (.t 15)),co 21 (.ext 1 (.t 15)),⟨(some 12),none,.alloc [(.v (.bool false)),.emp,(.v (.int .i64 0))]⟩,⟨none,none,.store 3 (.t 12) (.t 20)⟩,cm 13 21]) xK):=rfl
theorem ag6(ok:Ok0 d){p:Int}(hn:n<=100000):∀ (k i:Nat),i+k=n->∀ (r:Rd×Int),Ok0 r.1->∀ (s:ap) (h:ae),s 1=I n->s 2=I p->s 4=.fn fdR [] []->s 5=ac 5->s 10=ac 10->s 12=ac 12->s 13=I r.2->s 14=I i->
  h 5=.bx (ai d)->h 10=.bx [.v (.bool false),.emp,.v (.int .i64 0)]->h 12=.bx (ai r.1)->
  ∃hh,ak 0 [10,12,13] (av (am R (az false) be) [1,2,4,5,10,12,13,14] [5,10,12] s h)=some (.normal,⟨upd (upd (upd bk 13 (I (pe d p true k r).2)) 12 (ac 12)) 10 (ac 10),hh⟩)/\hh 10=.bx [.v (.bool false),.emp,.v (.int .i64 0)]/\hh 12=.bx (ai (pe d p true k r).1):=by
 intro k;induction k with
 |zero=>
  intro i hi r hr s h h1 h2 h4 h5 h10 h12 h13 h14 k5 k10 k12;have e1:((i:Int)<n)=False:=ff;rw[ah];refine⟨?hh0,?_,?_,?_⟩;rotate_left
  ·simp only[be,pe,go_sem,h1,h2,h4,h5,h10,h12,h13,h14,k5,k10,k12,e1];rfl
  ·rfl
  ·rfl
 |succ k ih=>
  intro i hi r hr s h h1 h2 h4 h5 h10 h12 h13 h14 k5 k10 k12;have e1:((i:Int)<n)=True:=tt;have e5:aG ((i:Int)+1)=((i+1:Nat):Int):=wi;obtain⟨r1,r2⟩:=r;have hm:=LE hr ok (p:=p);have okm:=Be (a:=r1) (b:=d) (p:=p) (up:=true);have ih':=ih (i+1) ω;unfold pe;generalize gp r1 d p true=q at hm okm⊢;obtain⟨q1,q2⟩:=q;simp only[rV,af,ai]at hm k5 k12;rw[ah];by_cases hr:r2=0
  ·have er:(r2=0)=True:=tt hr;simp only[be,ai,go_sem,h1,h2,h4,h5,h10,h12,h13,h14,k5,k10,k12,e1,er,hm,e5];exact ih' (q1,q2) okm _ _ rfl rfl rfl rfl rfl rfl rfl rfl rfl rfl rfl
  ·have er:(r2=0)=False:=ff hr;rw[if_neg hr];refine⟨?hh1,?_,?_,?_⟩;rotate_left
   ·simp only[be,go_sem,h1,h2,h4,h5,h10,h12,h13,h14,k5,k10,k12,e1,er];rfl
   ·rfl
   ·rfl
variable{r:Rd×Int}
theorem ag7(ok:Ok0 d)(hn:n<=100000)(hr:Ok0 r.1)(s:ap)(h:ae)(h1:s 1=I n)(h2:s 2=I p)(h4:s 4=.fn fdR [] [])(h5:s 5=ac 5)(h10:s 10=ac 10)(h12:s 12=ac 12)(h13:s 13=I r.2)
  (k5:h 5=.bx (ai d)) (k10:h 10=.bx [.v (.bool false),.emp,.v (.int .i64 0)]) (k12:h 12=.bx (ai r.1)):
  kj false [[.o 0 [],.o 2 [],.o 0 []],[]] [.cell 10 3 true,.t 11] 0 (am R (az false) xK s h)=some (rV (pe d p true (n-1) r),[]):=by
 have hl:∀ (s:ap) (h:ae),s 1=I n->s 2=I p->s 4=.fn fdR [] []->s 5=ac 5->s 10=ac 10->s 12=ac 12->s 13=I r.2->s 14=I 1->
  h 5=.bx (ai d)->h 10=.bx [.v (.bool false),.emp,.v (.int .i64 0)]->h 12=.bx (ai r.1)->
  ∃hh,ak 0 [10,12,13] (av (am R (az false) be) [1,2,4,5,10,12,13,14] [5,10,12] s h)=some (.normal,⟨upd (upd (upd bk 13 (I (pe d p true (n-1) r).2)) 12 (ac 12)) 10 (ac 10),hh⟩)/\hh 10=.bx [.v (.bool false),.emp,.v (.int .i64 0)]/\hh 12=.bx (ai (pe d p true (n-1) r).1):=by
  by_cases h0:n=0
  ·intro s h a1 a2 a4 a5 a10 a12 a13 a14 b5 b10 b12;have e1:((1:Int)< (n:Nat))=False:=ff;subst h0;rw[ah];refine⟨?hh0,?_,?_,?_⟩;rotate_left
   ·simp only[be,pe,go_sem,aDi,a1,a2,a4,a5,a10,a12,a13,a14,b5,b10,b12,e1];rfl
   ·rfl
   ·rfl
  ·have:=ag6 ok (p:=p) hn (n-1) 1 ω r hr
   simp_all
 generalize pe d p true (n-1) r=q at hl⊢;obtain⟨r1,r2⟩:=r;obtain⟨q1,q2⟩:=q;have hP:∀ (s:ap) (h:ae),s 1=I n->s 2=I p->s 4=.fn fdR [] []->s 5=ac 5->s 10=ac 10->s 12=ac 12->s 13=I r2->s 14=I 1->
  h 5=.bx (ai d)->h 10=.bx [.v (.bool false),.emp,.v (.int .i64 0)]->h 12=.bx (ai r1)->
  kj false [[.o 0 [],.o 2 [],.o 0 []],[]] [.cell 10 3 true,.t 11] 0 (cF (ak 0 [10,12,13] (av (am R (az false) be) [1,2,4,5,10,12,13,14] [5,10,12] s h)) (am R (az false) (.seq (.ops [10,11] [⟨(some 39),none,.load 3 true (.t 12)⟩,cm 40 13,⟨none,none,.store 3 (.t 10) (.t 39)⟩,cm 11 40]) (.ret))))=some (rV (q1,q2),[]):=fun s h a1 a2 a4 a5 a10 a12 a13 a14 b5 b10 b12=>by
  obtain⟨hh,g1,g2,g3⟩:=hl s h a1 a2 a4 a5 a10 a12 a13 a14 b5 b10 b12;rw[g1];simp only[rV,af,ai,g2,g3,go_sem]
 generalize hLL:av (am R (az false) be) [1,2,4,5,10,12,13,14] [5,10,12]=L at hP;have hX:∀s h,am R (az false) (.loop [1,2,4,5,10,12,13,14] [5,10,12] be) s h=L s h:=fun s h=>by rw[←hLL];rfl
 show kj _ _ _ _ (cF (cF (am R (az false) (.ops [1,2,4,5,10,12,13,14] [co 14 (.mv (.c (.v (.int .i64 1))))]) s h) fun s h=>ak 0 [10,12,13] (am R (az false) (.loop [1,2,4,5,10,12,13,14] [5,10,12] be) s h)) _)=_;simp only[hX];simp only[go_sem,h1,h2,h4,h5,h10,h12,h13];exact hP _ _ rfl rfl rfl rfl rfl rfl rfl rfl k5 k10 k12
theorem ana(ok:Ok0 d)(hn:n<=100000):R fbK [af d,I n,I p,.fn fdT [] [],.fn fdR [] []] []=some (rV (pw d n p true),[]):=by
 refine au F4 rfl ?_;have hr:=SY ok (p:=p);have okr:=Bg (d:=d) (p:=p) (up:=true);have ht:=ag7 ok (p:=p) hn okr;simp only[rV,af,ai]at hr;simp only[sz,yR,af,ai,go_sem,hr];exact ht _ _ rfl rfl rfl rfl rfl rfl rfl rfl rfl rfl
theorem ag8(ok:Ok0 d){p:Int}(hn:n<=100000):∀ (k i:Nat),i+k=n->∀ (r:Rd×Int),Ok0 r.1->∀ (s:ap) (h:ae),s 1=I n->s 2=I p->s 4=.fn fdQ [] []->s 5=ac 5->s 10=ac 10->s 12=ac 12->s 13=I r.2->s 14=I i->
  h 5=.bx (ai d)->h 10=.bx [.v (.bool false),.emp,.v (.int .i64 0)]->h 12=.bx (ai r.1)->
  ∃hh,ak 0 [10,12,13] (av (am R (az false) be) [1,2,4,5,10,12,13,14] [5,10,12] s h)=some (.normal,⟨upd (upd (upd bk 13 (I (pe d p false k r).2)) 12 (ac 12)) 10 (ac 10),hh⟩)/\hh 10=.bx [.v (.bool false),.emp,.v (.int .i64 0)]/\hh 12=.bx (ai (pe d p false k r).1):=by
 intro k;induction k with
 |zero=>
  intro i hi r hr s h h1 h2 h4 h5 h10 h12 h13 h14 k5 k10 k12;have e1:((i:Int)<n)=False:=ff;rw[ah];refine⟨?hh0,?_,?_,?_⟩;rotate_left
  ·simp only[be,pe,go_sem,h1,h2,h4,h5,h10,h12,h13,h14,k5,k10,k12,e1];rfl
  ·rfl
  ·rfl
 |succ k ih=>
  intro i hi r hr s h h1 h2 h4 h5 h10 h12 h13 h14 k5 k10 k12;have e1:((i:Int)<n)=True:=tt;have e5:aG ((i:Int)+1)=((i+1:Nat):Int):=wi;obtain⟨r1,r2⟩:=r;have hm:=HQ hr ok (p:=p);have okm:=Be (a:=r1) (b:=d) (p:=p) (up:=false);have ih':=ih (i+1) ω;unfold pe;generalize gp r1 d p false=q at hm okm⊢;obtain⟨q1,q2⟩:=q;simp only[rV,af,ai]at hm k5 k12;rw[ah];by_cases hr:r2=0
  ·have er:(r2=0)=True:=tt hr;simp only[be,ai,go_sem,h1,h2,h4,h5,h10,h12,h13,h14,k5,k10,k12,e1,er,hm,e5];exact ih' (q1,q2) okm _ _ rfl rfl rfl rfl rfl rfl rfl rfl rfl rfl rfl
  ·have er:(r2=0)=False:=ff hr;rw[if_neg hr];refine⟨?hh1,?_,?_,?_⟩;rotate_left
   ·simp only[be,go_sem,h1,h2,h4,h5,h10,h12,h13,h14,k5,k10,k12,e1,er];rfl
   ·rfl
   ·rfl
theorem ag9(ok:Ok0 d)(hn:n<=100000)(hr:Ok0 r.1)(s:ap)(h:ae)(h1:s 1=I n)(h2:s 2=I p)(h4:s 4=.fn fdQ [] [])(h5:s 5=ac 5)(h10:s 10=ac 10)(h12:s 12=ac 12)(h13:s 13=I r.2)
  (k5:h 5=.bx (ai d)) (k10:h 10=.bx [.v (.bool false),.emp,.v (.int .i64 0)]) (k12:h 12=.bx (ai r.1)):
  kj false [[.o 0 [],.o 2 [],.o 0 []],[]] [.cell 10 3 true,.t 11] 0 (am R (az false) xK s h)=some (rV (pe d p false (n-1) r),[]):=by
 have hl:∀ (s:ap) (h:ae),s 1=I n->s 2=I p->s 4=.fn fdQ [] []->s 5=ac 5->s 10=ac 10->s 12=ac 12->s 13=I r.2->s 14=I 1->
  h 5=.bx (ai d)->h 10=.bx [.v (.bool false),.emp,.v (.int .i64 0)]->h 12=.bx (ai r.1)->
  ∃hh,ak 0 [10,12,13] (av (am R (az false) be) [1,2,4,5,10,12,13,14] [5,10,12] s h)=some (.normal,⟨upd (upd (upd bk 13 (I (pe d p false (n-1) r).2)) 12 (ac 12)) 10 (ac 10),hh⟩)/\hh 10=.bx [.v (.bool false),.emp,.v (.int .i64 0)]/\hh 12=.bx (ai (pe d p false (n-1) r).1):=by
  by_cases h0:n=0
  ·intro s h a1 a2 a4 a5 a10 a12 a13 a14 b5 b10 b12;have e1:((1:Int)< (n:Nat))=False:=ff;subst h0;rw[ah];refine⟨?hh0,?_,?_,?_⟩;rotate_left
   ·simp only[be,pe,go_sem,aDi,a1,a2,a4,a5,a10,a12,a13,a14,b5,b10,b12,e1];rfl
   ·rfl
   ·rfl
  ·have:=ag8 ok (p:=p) hn (n-1) 1 ω r hr
   simp_all
 generalize pe d p false (n-1) r=q at hl⊢;obtain⟨r1,r2⟩:=r;obtain⟨q1,q2⟩:=q;have hP:∀ (s:ap) (h:ae),s 1=I n->s 2=I p->s 4=.fn fdQ [] []->s 5=ac 5->s 10=ac 10->s 12=ac 12->s 13=I r2->s 14=I 1->
  h 5=.bx (ai d)->h 10=.bx [.v (.bool false),.emp,.v (.int .i64 0)]->h 12=.bx (ai r1)->
  kj false [[.o 0 [],.o 2 [],.o 0 []],[]] [.cell 10 3 true,.t 11] 0 (cF (ak 0 [10,12,13] (av (am R (az false) be) [1,2,4,5,10,12,13,14] [5,10,12] s h)) (am R (az false) (.seq (.ops [10,11] [⟨(some 39),none,.load 3 true (.t 12)⟩,cm 40 13,⟨none,none,.store 3 (.t 10) (.t 39)⟩,cm 11 40]) (.ret))))=some (rV (q1,q2),[]):=fun s h a1 a2 a4 a5 a10 a12 a13 a14 b5 b10 b12=>by
  obtain⟨hh,g1,g2,g3⟩:=hl s h a1 a2 a4 a5 a10 a12 a13 a14 b5 b10 b12;rw[g1];simp only[rV,af,ai,g2,g3,go_sem]
 generalize hLL:av (am R (az false) be) [1,2,4,5,10,12,13,14] [5,10,12]=L at hP;have hX:∀s h,am R (az false) (.loop [1,2,4,5,10,12,13,14] [5,10,12] be) s h=L s h:=fun s h=>by rw[←hLL];rfl
 show kj _ _ _ _ (cF (cF (am R (az false) (.ops [1,2,4,5,10,12,13,14] [co 14 (.mv (.c (.v (.int .i64 1))))]) s h) fun s h=>ak 0 [10,12,13] (am R (az false) (.loop [1,2,4,5,10,12,13,14] [5,10,12] be) s h)) _)=_;simp only[hX];simp only[go_sem,h1,h2,h4,h5,h10,h12,h13];exact hP _ _ rfl rfl rfl rfl rfl rfl rfl rfl k5 k10 k12
theorem anb(ok:Ok0 d)(hn:n<=100000):R fbK [af d,I n,I p,.fn fdO [] [],.fn fdQ [] []] []=some (rV (pw d n p false),[]):=by
 refine au F4 rfl ?_;have hr:=LG ok (p:=p);have okr:=Bg (d:=d) (p:=p) (up:=false);have ht:=ag9 ok (p:=p) hn okr;simp only[rV,af,ai]at hr;simp only[sz,yR,af,ai,go_sem,hr];exact ht _ _ rfl rfl rfl rfl rfl rfl rfl rfl rfl rfl
def sS(d:Rd):Int:=if vd d=false\/d.m.length=0 then 0 else if d.neg=true then-1 else 1
theorem yE(ok:Ok0 d):Ok0 (ed d):=by
 unfold ed;split
 ·exact aO.2
 ·exact⟨ok.1,ok.2⟩
theorem aqh(h:sS d<0):¬sS (ed d)<0:=by
 unfold sS at h;split at h
 ·omega
 ·split at h
  ·unfold sS ed;grind
  omega
def tE(d:Rd)(n:Nat)(p:Int)(up:Bool):Rd×Int:=if sS d<0 then(ed (pw (ed d) n p (!up)).1,(pw (ed d) n p (!up)).2)else pw d n p up
theorem abX(ok:Ok0 d)(hs:¬sS d<0)(hn:n<=100000){up:Bool}:R fbD [af d,I n,I p,B up] []=some (rV (pw d n p up),[]):=by
 refine au Ij rfl ?_;have h1:=SR ok;rw[show(if vd d=false\/d.m.length=0 then(0:Int)else if d.neg=true then-1 else 1)=sS d from rfl]at h1;have e1:(sS d<0)=False:=ff hs;cases up with
 |true=>
  have h2:=ana ok (p:=p) hn;simp only[rV,af,ai]at h1 h2;simp only[rA,rV,af,ai,go_sem,h1,e1,h2]
 |false=>
  have h2:=anb ok (p:=p) hn;simp only[rV,af,ai]at h1 h2;simp only[rA,rV,af,ai,go_sem,h1,e1,h2]
theorem Q1(ok:Ok0 d)(hn:n<=100000){up:Bool}:R fbD [af d,I n,I p,B up] []=some (rV (tE d n p up),[]):=by
 unfold tE;by_cases hs:sS d<0
 ·refine au Ij rfl ?_;have h1:=SR ok;rw[show(if vd d=false\/d.m.length=0 then(0:Int)else if d.neg=true then-1 else 1)=sS d from rfl]at h1;have e1:(sS d<0)=True:=tt hs;have h2:=Ch ok;rw[show(if vd d=false\/d.m.length=0 then aB else(⟨!d.neg,d.m,d.e⟩:Rd))=ed d from rfl]at h2;have h3:=abX (yE ok) (aqh hs) (p:=p) hn (up:=!up);have okq:=amh (d:=ed d) (n:=n) (p:=p) (up:=!up);generalize ed d=nd at h2 h3 okq⊢;generalize pw nd n p (!up)=q at h3 okq⊢;obtain⟨q1,q2⟩:=q;have h4:=Ch (d:=q1) okq;rw[show(if vd q1=false\/q1.m.length=0 then aB else(⟨!q1.neg,q1.m,q1.e⟩:Rd))=ed q1 from rfl]at h4;simp only[rV,af,ai]at h1 h2 h3 h4;simp only[rA,rV,af,ai,go_sem,h1,e1,h2,h3,h4]
 simp_all[if_neg,abX]
def one:Rd:=⟨false,[1],0⟩
theorem LH:R faP [I 1] []=some (af one,[]):=by
 grind[D4,Ku,bg,one,jT,xp,aA,qU,go]
theorem dW:vd one=true/\Ok0 one:=⟨by decide,⟨fun x hx=>by rw[List.mem_singleton.1 hx];decide,by decide⟩⟩
def wr(x:Ri)(n:Nat)(p:Int):Ri:=if(kI x&&bC p&&decide (n<=16))=true then(if n=0 then⟨one,one,false⟩else
 nv (tE (if n%2=0 then lC x else x).lo n p false) (tE (if n%2=0 then lC x else x).hi n p true))else cS
theorem YA(oa:Ok0 a)(ob:Ok0 b):Ok0 (mB a b):=by
 grind[mB]
theorem Po(oa:Ok0 a)(ob:Ok0 b):Ok0 (mC a b):=by
 grind[mC]
theorem S1(ok:OkI x):OkI (lC x):=by
 unfold lC;split
 ·refine⟨?_,Po (tD ok.lo) (tD ok.hi)⟩;unfold Db;split
  ·exact aO.2
  ·exact YA (tD ok.lo) (tD ok.hi)
 ·exact⟨aO.2,aO.2⟩
theorem abY(ok:Ok0 d){up:Bool}:Ok0 (tE d n p up).1:=by
 grind[tE,yE,amh]
theorem D7(ok:OkI x)(hn:n<=100000):R fbt [aj x,I n,I p] []=some (aj (wr x n p),[]):=by
 refine au OR rfl ?_;have hk:=oZ ok;have hp:=mP (p:=p);have hw:=gN;have n0:((n:Int)<0)=False:=ff;unfold wr;simp only[aj,ao]at hw;cases h1:kI x with
 |false=>
  rw[h1]at hk;simp only[gI,aj,ao,go_sem,hk,hw]
 |true=>
  rw[h1]at hk;cases h2:bC p with
  |false=>
   rw[h2]at hp;simp only[gI,aj,ao,go_sem,hk,hp,hw]
  |true=>
   rw[h2]at hp;rw[aCM,aCM];by_cases h3:n<=16
   ·have e3:(16< (n:Int))=False:=ff;rw[if_pos (decide_eq_true h3)];by_cases h4:n=0
    ·have e4:((n:Int)=0)=True:=tt;rw[if_pos h4];have g1:=LH;have g2:=gO dW.2 dW.1;simp only[one,aj,ao,af,ai]at g1 g2;simp only[gI,one,aj,ao,go_sem,hk,hp,n0,e3,e4,g1,g2]
    ·have e4:((n:Int)=0)=False:=ff;rw[if_neg h4];by_cases h5:n%2=0
     ·have e5:((n:Int).tmod 2=0)=True:=tt γ;rw[if_pos h5];have ha:=abV ok;have oa:=S1 ok;generalize lC x=y at ha oa⊢;have g1:=Q1 oa.lo hn (p:=p) (up:=false);have g2:=Q1 oa.hi hn (p:=p) (up:=true);generalize tE y.lo n p false=r at g1⊢;generalize tE y.hi n p true=q at g2⊢;obtain⟨r1,r2⟩:=r;obtain⟨q1,q2⟩:=q;have hm:=Fe (a:=r1) (b:=q1) (e:=r2) (f:=q2);simp only[aj,ao,af,ai,rV]at ha g1 g2 hm;simp only[gI,aj,ao,go_sem,aCZ,hk,hp,n0,e3,e4,e5,ha,g1,g2,hm]
     ·have e5:((n:Int).tmod 2=0)=False:=ff γ;rw[if_neg h5];have g1:=Q1 ok.lo hn (p:=p) (up:=false);have g2:=Q1 ok.hi hn (p:=p) (up:=true);generalize tE x.lo n p false=r at g1⊢;generalize tE x.hi n p true=q at g2⊢;obtain⟨r1,r2⟩:=r;obtain⟨q1,q2⟩:=q;have hm:=Fe (a:=r1) (b:=q1) (e:=r2) (f:=q2);simp only[aj,ao,af,ai,rV]at g1 g2 hm;simp only[gI,aj,ao,go_sem,aCZ,hk,hp,n0,e3,e4,e5,g1,g2,hm]
   ·have e3:(16< (n:Int))=True:=tt;rw[if_neg (fun h=>h3 (of_decide_eq_true h))];simp only[gI,aj,ao,go_sem,hk,hp,n0,e3,hw]
def Dc(x:Ri)(e:Nat)(p:Int):Ri:=if e<=16 then wr x e p else dt (wr x 16 p) (wr x (e-16) p) p
theorem Gh{s:Rd×Int}(h1:Ok0 r.1)(h2:Ok0 s.1):OkI (nv r s):=by
 unfold nv;split
 ·exact⟨h1,h2⟩
 ·exact⟨aO.2,aO.2⟩
theorem Ff(ok:OkI x):OkI (wr x n p):=by
 unfold wr;have h:OkI (if n%2=0 then lC x else x):=by
  grind[S1]
 split
 ·split
  ·exact⟨dW.2,dW.2⟩
  ·exact Gh (abY h.1) (abY h.2)
 ·exact⟨aO.2,aO.2⟩
theorem anc(ok:OkI x){e:Nat}(hn:e<=100000):R faH [aj x,I e,I p] []=some (aj (Dc x e p),[]):=by
 refine au VZ rfl ?_;unfold Dc;by_cases h1:e<=16
 ·have e1:((e:Int)<=16)=True:=tt;rw[if_pos h1];have h2:=D7 ok hn (p:=p);simp only[aj,ao]at h2;simp only[yr,aj,ao,go_sem,e1,h2]
 ·have e1:((e:Int)<=16)=False:=ff;rw[if_neg h1];have h2:=D7 ok (show 16<=100000 by decide) (p:=p);have h3:=D7 ok (show e-16<=100000 by omega) (p:=p);have o2:=Ff ok (n:=16) (p:=p);have o3:=Ff ok (n:=e-16) (p:=p);have w1:aG ((e:Int)-16)=((e-16:Nat):Int):=wi;have h4:=v9 o2 o3 (p:=p);simp only[aj,ao,Int.cast_ofNat_Int]at h2 h3 h4;simp only[yr,aj,ao,go_sem,e1,h2,h3,h4,w1]
def aV(l:List Int):List (List AV):=l.map fun(n:Int)=>[I n]
@[go_sem] theorem Fg(l:List Int):(aV l).length=l.length:=by simp[aV]
theorem pH{d:Int}(hi:i=n)(h:l[n]?=some d):aZ (aV l) i=some (.ipt [I d]):=by
 grind[aZ,aV]
theorem YB{x:Int}:R faK [I x] []=some (B false,[]):=by
 refine au O1 rfl ?_;simp only[ze,go_sem]
theorem aha{x y:Int}:R faJ [I x,I y] []=some (I (cM x y),[]):=by
 refine au Lw rfl ?_;have h1:=YB (x:=x);have h2:=YB (x:=y);unfold cM;by_cases e1:x<y
 ·have f1:(x<y)=True:=tt e1;simp only[lJ,go_sem,h1,h2,f1]
 ·have f1:(x<y)=False:=ff e1;by_cases e2:y<x
  ·have f2:(y<x)=True:=tt e2;simp only[lJ,go_sem,h1,h2,f1,f2]
  ·have f2:(y<x)=False:=ff e2;simp only[lJ,go_sem,h1,h2,f1,f2]
def nM:List Int->List Int->Int
 |[],[]=>0
 |[],_::_=>-1
 |_::_,[]=>1
 |x::xs,y::ys=>if cM x y=0 then nM xs ys else cM x y
theorem akq{a b:List Int}(hl:a.length=b.length)(h2:a.length<=100000):∀ (k i:Nat),i+k=a.length->∀ (s:ap) (h:ae),s 0=.sl 1 (aV a)->s 1=.sl 1 (aV b)->s 9=.sl 1 (aV a)->s 10=I a.length->s 11=I i->
  ∃hh,ak 0 [0,1] (av (am R (az false) fO) [0,1,9,10,11] [] s h)=if nM (a.drop i) (b.drop i)=0 then some (.normal,⟨upd (upd bk 1 (.sl 1 (aV b))) 0 (.sl 1 (aV a)),fun _=>.dead⟩)else some (.ret,⟨upd bk 4 (I (nM (a.drop i) (b.drop i))),hh⟩):=by
 intro k;induction k with
 |zero=>
  intro i hi s h h0 h1 h9 h10 h11;have e1:((i:Int)<a.length)=False:=ff;rw[aC3 ω,aC3 ω,ah];refine⟨fun _=>.dead,?_⟩;show _=if(0:Int)=0 then _ else _
  simp only[fO,go_sem,h0,h1,h9,h10,h11,e1]
 |succ k ih=>
  intro i hi s h h0 h1 h9 h10 h11;have hlt:i<a.length:=ω
  have hlt2:i<b.length:=ω
  have e1:((i:Int)<a.length)=True:=tt;have e4:((b.length:Int)<=(i:Int))=False:=ff;have e2:aZ (aV a) (i:Int)=some (.ipt [I a[i]]):=pH rfl (List.getElem?_eq_getElem hlt);have e3:aZ (aV b) (i:Int)=some (.ipt [I b[i]]):=pH rfl (List.getElem?_eq_getElem hlt2);have e5:aG ((i:Int)+1)=((i+1:Nat):Int):=wi;rw[aC4 hlt,aC4 hlt2,ah];have ih':=ih (i+1) ω;have hc:=aha (x:=a[i]) (y:=b[i]);generalize a[i]=x at e2 hc⊢;generalize b[i]=y at e3 hc⊢;unfold nM;by_cases hz:cM x y=0
  ·have e6:(cM x y=0)=True:=tt hz;simp only[fO,go_sem,h0,h1,h9,h10,h11,e1,e2,e3,e4,e5,hc,e6];exact ih' _ _ rfl rfl rfl rfl rfl
  ·have e6:(cM x y=0)=False:=ff hz;refine⟨?hh,?_⟩;rotate_left;simp only[fO,go_sem,h0,h1,h9,h10,h11,e1,e2,e3,e4,hc,e6];rfl
theorem aeW{a b:List Int}(hl:a.length=b.length)(h2:a.length<=100000):R fea [.sl 1 (aV a),.sl 1 (aV b)] []=some (I (nM a b),[]):=by
 refine au EX rfl ?_;have h3:=akq hl h2 a.length 0 (aCI _);simp only[aDI,aDf]at h3;by_cases hz:nM a b=0
 ·simp only[if_pos hz]at h3;have e1:((a.length:Int)<b.length)=False:=ff;simp only[jP,oH,go_sem];rw[(h3 _ _ rfl rfl rfl rfl rfl).choose_spec,hz];simp only[go_sem,e1]
 ·simp only[if_neg hz]at h3;simp only[jP,oH,go_sem];rw[(h3 _ _ rfl rfl rfl rfl rfl).choose_spec];simp only[go_sem]
def bm:List Int->Int
 |[]=>0
 |x::l=>x+bm l
def sm(l:List Int):Prop:=l.length<=1000/\∀x∈l,0<=x/\x<=32
theorem Pp{i:Nat}(h:i<l.length):bm (l.take (i+1))=bm (l.take i)+l[i]:=by
 induction l generalizing i with
 |nil=>grind
 |cons a l ih=>
  cases i with
  |zero=>simp[bm]
  |succ i=>
   have:=ih (i:=i) (by simpa using h);simp only[List.take_succ_cons,bm,List.getElem_cons_succ];omega
theorem YC(h:∀x∈l,0<=x/\x<=32):0<=bm l/\bm l<=32*l.length:=by
 induction l with
 |nil=>exact⟨Int.le_refl _,Int.le_refl _⟩
 |cons a l ih=>
  have h1:=h a (List.mem_cons_self ..);have h2:=ih (fun x hx=>h x (List.mem_cons_of_mem _ hx));grind[bm,aDp]
theorem akr{a:List Int}(h2:sm a):∀ (k i:Nat),i+k=a.length->∀ (s:ap) (h:ae),s 3=I (bm (a.take i))->s 6=.sl 1 (aV a)->s 7=I a.length->s 8=I i->
  ak 0 [3] (av (am R (az false) ut) [3,6,7,8] [] s h)=some (.normal,⟨upd bk 3 (I (bm a)),fun _=>.dead⟩):=by
 intro k;induction k with
 |zero=>
  intro i hi s h h3 h6 h7 h8;have e1:((i:Int)<a.length)=False:=ff;rw[aCX ω]at h3;rw[ah];simp only[ut,go_sem,h3,h6,h7,h8,e1]
 |succ k ih=>
  intro i hi s h h3 h6 h7 h8;have hlt:i<a.length:=ω
  obtain⟨g1,g2⟩:=h2;have e1:((i:Int)<a.length)=True:=tt;have e2:aZ (aV a) (i:Int)=some (.ipt [I a[i]]):=pH rfl (List.getElem?_eq_getElem hlt);have e5:aG ((i:Int)+1)=((i+1:Nat):Int):=wi;have b1:=YC (l:=a.take i) (fun x hx=>g2 x (List.mem_of_mem_take hx));have b2:=g2 a[i] (aC0 hlt);have e6:IntKind.i64.wrap (bm (a.take i)+a[i])=bm (a.take (i+1)):=by
   grind[Pp,i64_in]
  have ih':=ih (i+1) ω;rw[ah];simp only[ut,go_sem,h3,h6,h7,h8,e1,e2,e5,e6];exact ih' _ _ rfl rfl rfl rfl
theorem Bh{a:List Int}(h2:sm a):R fc4 [.sl 1 (aV a)] []=some (I (bm a),[]):=by
 refine au VE rfl ?_;have h3:=akr h2 a.length 0 (aCI _);simp only[CR,Ke,go_sem];rw[h3 _ _ rfl rfl rfl rfl];simp only[go_sem]
def cA(a b:List Int):Int:=if cM (bm a) (bm b)=0 then nM b a else cM (bm a) (bm b)
theorem YD{a b:List Int}(ha:sm a)(hb:sm b)(hl:a.length=b.length):R fc6 [.sl 1 (aV a),.sl 1 (aV b)] []=some (I (cA a b),[]):=by
 refine au XN rfl ?_;have d1:=Bh ha;have d2:=Bh hb;have d3:=aha (x:=bm a) (y:=bm b);have d4:=aeW hl.symm (by have:=hb.1;omega);unfold cA;by_cases hz:cM (bm a) (bm b)=0
 ·have e6:(cM (bm a) (bm b)=0)=True:=tt hz;simp only[Ag,go_sem,d1,d2,d3,d4,e6]
 ·have e6:(cM (bm a) (bm b)=0)=False:=ff hz;simp only[Ag,go_sem,d1,d2,d3,e6]
structure Rt where
 exps:List Int
 c:Rd
structure Rp where
 vars:Int
 terms:List Rt
def ce(t:Rt):List AV:=[.sl 1 (aV t.exps),B t.c.neg,lm t.c.m,I t.c.e]
def aL(l:List Rt):List (List AV):=l.map ce
def bc(a:Rp):AV:=.agg [I a.vars,.sl 4 (aL a.terms)]
@[go_sem] theorem tF(l:List Rt):(aL l).length=l.length:=by simp[aL]
theorem iY{l:List Rt}{d:Rt}(hi:i=n)(h:l[n]?=some d):aZ (aL l) i=some (.ipt (ce d)):=by
 grind[aZ,aL]
theorem tO{α:Type}{f:α->α}{l:List α}(h:∀x∈l,f x=x):l.map f=l:=(aDk (g:=fun c=>c) h).trans (aDu _)
@[go_sem] theorem It(l:List Rt):(aL l).map (eP [.o 2 [],.o 0 [],.o 2 [],.o 0 []])=aL l:=by
 refine tO fun x hx=>?_;simp only[aL,aDz]at hx;obtain⟨t,ht,rfl⟩:=hx;simp only[ce,go_sem]
structure OkT (t:Rt):Prop where
 c:Ok0 t.c
 len:t.exps.length<=100000
structure OkP (a:Rp):Prop where
 t:∀t∈a.terms,OkT t
def AK(e:Int):Bool:=decide (e<0)||decide (32<e)
theorem aqi:R fcY [I e] []=some (B (AK e),[]):=by
 refine au Ih rfl ?_;unfold AK;by_cases h:e<0
 ·have e1:(e<0)=True:=tt h;simp only[wz,go_sem,e1,decide_true,Bool.true_or]
 ·have e1:(e<0)=False:=ff h;simp only[wz,go_sem,e1,decide_false,Bool.false_or]
theorem aks(h2:l.length<=100000):R feg [.sl 1 (aV l),.fn fcY [] []] []=some (B (l.any AK),[]):=by
 let p:List AV->Bool:=fun row=>match row with|[.v (.int _ e)]=>AK e|_=>false
 have h1:=Ye (k:=1) (g:=false) (f:=fcY) (rows:=aV l) (p:=p) fW.2.1 fW.2.2 (fW.1.2.2.2 false) rfl (Ih.1.2.1 false) (by grind[Fg]) (fun row hr=>by
  simp only[aV,aDz]at hr;obtain⟨e,he,rfl⟩:=hr;refine⟨I e,rfl,rfl,?_⟩;simp only[go_sem,aqi,p])
 have h2:=SN (k:=1) kG.2.1 kG.2.2 (kG.1.2.2.2 false) rfl (fW.1.2.1 false) (fW.1.1 false) (by simp only[go_sem]) h1;grind[aV,AK,List.any_map]
def Iu(v:Int)(t:Rt):Bool:=decide ((t.exps.length:Int)=v)&& (vd t.c&& (decide (t.c.m.length≠0)&& (!(t.exps.any AK)&&decide (bm t.exps<=32))))
def YE:Option Rt->Rt->Bool
 |none,_=>true
 |some q,t=>decide (cA q.exps t.exps<0)
def Bj(v:Int):Option Rt->List Rt->Bool
 |_,[]=>true
 |pr,t::l=>Iu v t&& (YE pr t&&Bj v (some t) l)
theorem Cj{v:Int}{t:Rt}(h:Iu v t=true):(t.exps.length:Int)=v/\vd t.c=true/\t.c.m.length≠0/\t.exps.any AK=false/\bm t.exps<=32:=by
 grind[Iu]
theorem yF(h:l.any AK=false):∀x∈l,0<=x/\x<=32:=by
 simp_all[AK,Bool.or_eq_true,decide_eq_true_eq,not_or]
theorem ane{a:Rp}(ok:∀t∈a.terms,Ok0 t.c)(hv:a.vars<=8)(h2:a.terms.length<=500):∀ (k i:Nat),i+k=a.terms.length->∀ (pr:Option Rt),(i=0->pr=none)->(0<i->∃q,pr=some q/\a.terms[i-1]?=some q/\Iu a.vars q=true)->
  ∀ (s:ap) (h:ae),s 1=ac 1->s 20=.sl 4 (aL a.terms)->s 21=I a.terms.length->s 22=I i->h 1=.bx [I a.vars,.sl 4 (aL a.terms)]->
  ∃hh,ak 0 [] (av (am R (az false) fh) [1,20,21,22] [1] s h)=if Bj a.vars pr (a.terms.drop i)=true then some (.normal,⟨fun _=>.any,hh⟩)else some (.ret,⟨upd bk 2 (B false),hh⟩):=by
 intro k;induction k with
 |zero=>
  intro i hi pr p0 p1 s h h1 h20 h21 h22 k1;have e1:((i:Int)<a.terms.length)=False:=ff;rw[aC3 ω,ah];refine⟨?hh0,?_⟩;rotate_left;show _=if true=true then _ else _
  rw[if_pos rfl];simp only[fh,go_sem,h1,h20,h21,h22,k1,e1];rfl
 |succ k ih=>
  intro i hi pr p0 p1 s h h1 h20 h21 h22 k1;have hlt:i<a.terms.length:=ω
  have e1:((i:Int)<a.terms.length)=True:=tt;have e2:aZ (aL a.terms) (i:Int)=some (.ipt (ce a.terms[i])):=iY rfl (List.getElem?_eq_getElem hlt);have e5:aG ((i:Int)+1)=((i+1:Nat):Int):=wi;have okt:=ok a.terms[i] (aC0 hlt);have hnext:a.terms[i+1-1]?=some a.terms[i]:=List.getElem?_eq_getElem hlt;rw[aC4 hlt,ah];have ih':=ih (i+1) ω (some a.terms[i]) (fun h=>absurd h (Nat.succ_ne_zero _));generalize a.terms[i]=t at e2 okt ih' hnext⊢;generalize av _ _ _=L at ih'⊢;have hvd:=eS okt;have hct:=fun(h:(t.exps.length:Int)=a.vars)=>aks (l:=t.exps) ω;simp only[ce]at e2;simp only[af,ai]at hvd;unfold Bj;cases hb:Iu a.vars t with
  |false=>
   simp only[aCO,if_neg aCR];unfold Iu at hb;by_cases c1:(t.exps.length:Int)=a.vars
   ·have f1:((t.exps.length:Int)=a.vars)=True:=tt c1;rw[decide_eq_true c1,aCM]at hb;cases c2:vd t.c with
    |false=>
     rw[c2]at hvd;refine⟨?hh2,?_⟩;rotate_left;simp only[fh,go_sem,h1,h20,h21,h22,k1,e1,e2,f1,hvd];rfl
    |true=>
     rw[c2]at hvd hb;rw[aCM]at hb;by_cases c3:t.c.m.length=0
     ·have f3:((t.c.m.length:Int)=0)=True:=tt;refine⟨?hh3,?_⟩;rotate_left;simp only[fh,go_sem,h1,h20,h21,h22,k1,e1,e2,f1,hvd,f3];rfl
     ·have f3:((t.c.m.length:Int)=0)=False:=ff;rw[decide_eq_true c3,aCM]at hb;have hct:=hct c1;cases c4:t.exps.any AK with
      |true=>
       rw[c4]at hct;refine⟨?hh4,?_⟩;rotate_left;simp only[fh,go_sem,h1,h20,h21,h22,k1,e1,e2,f1,hvd,f3,hct];rfl
      |false=>
       rw[c4]at hct hb;rw[Bool.not_false,aCM]at hb;have hdg:=Bh (a:=t.exps) ⟨by omega,yF c4⟩;have f5:(32<bm t.exps)=True:=tt γ;refine⟨?hh5,?_⟩;rotate_left;simp only[fh,go_sem,h1,h20,h21,h22,k1,e1,e2,f1,hvd,f3,hct,hdg,f5];rfl
   ·have f1:((t.exps.length:Int)=a.vars)=False:=ff c1;refine⟨?hh1,?_⟩;rotate_left;simp only[fh,go_sem,h1,h20,h21,h22,k1,e1,e2,f1];rfl
  |true=>
   obtain⟨c1,c2,c3,c4,c5⟩:=Cj hb;have f1:((t.exps.length:Int)=a.vars)=True:=tt c1;rw[c2]at hvd;have f3:((t.c.m.length:Int)=0)=False:=ff;have hct:=hct c1;rw[c4]at hct;have hdg:=Bh (a:=t.exps) ⟨by omega,yF c4⟩;have f5:(32<bm t.exps)=False:=ff;simp only[aCM];by_cases hi0:i=0
   ·have f6:(0< (i:Int))=False:=ff;rw[p0 hi0];simp only[YE,aCM];simp only[fh,go_sem,h1,h20,h21,h22,k1,e1,e2,f1,hvd,f3,hct,hdg,f5,f6,e5];exact ih' (fun _=>⟨t,rfl,hnext,hb⟩) _ _ rfl rfl rfl rfl rfl
   ·have f6:(0< (i:Int))=True:=tt;obtain⟨q,q1,q2,q3⟩:=p1 ω;obtain⟨d1,d2,d3,d4,d5⟩:=Cj q3;rw[q1];have e7:aG ((i:Int)-1)=((i-1:Nat):Int):=wi;have e8:aZ (aL a.terms) ((i-1:Nat):Int)=some (.ipt (ce q)):=iY rfl q2;simp only[ce]at e8;have ho:=YD (a:=q.exps) (b:=t.exps) ⟨by omega,yF d4⟩ ⟨by omega,yF c4⟩ ω;simp only[YE];by_cases c6:cA q.exps t.exps<0
    ·have f7:(0<=cA q.exps t.exps)=False:=ff;simp only[decide_eq_true c6,aCM];simp only[fh,go_sem,h1,h20,h21,h22,k1,e1,e2,f1,hvd,f3,hct,hdg,f5,f6,e5,e7,e8,ho,f7];exact ih' (fun _=>⟨t,rfl,hnext,hb⟩) _ _ rfl rfl rfl rfl rfl
    ·have f7:(0<=cA q.exps t.exps)=True:=tt;simp only[decide_eq_false c6,aCO,if_neg aCR];refine⟨?hh7,?_⟩;rotate_left;simp only[fh,go_sem,h1,h20,h21,h22,k1,e1,e2,f1,hvd,f3,hct,hdg,f5,f6,e7,e8,ho,f7];rfl
def vp(a:Rp):Bool:=decide (0<=a.vars)&& (decide (a.vars<=8)&& (decide (a.terms.length<=500)&&Bj a.vars none a.terms))
theorem Q2{a:Rp}(ok:∀t∈a.terms,Ok0 t.c):R fcX [bc a] []=some (B (vp a),[]):=by
 refine au XH rfl ?_;unfold vp;by_cases c1:0<=a.vars
 ·have f1:(a.vars<0)=False:=ff;rw[decide_eq_true c1,aCM];by_cases c2:a.vars<=8
  ·have f2:(8<a.vars)=False:=ff;rw[decide_eq_true c2,aCM];by_cases c3:a.terms.length<=500
   ·have f3:(500< (a.terms.length:Int))=False:=ff;rw[decide_eq_true c3,aCM];have h3:=ane ok c2 c3 a.terms.length 0 (aCI _) none (fun _=>rfl) (fun h=>absurd h (Nat.lt_irrefl _));simp only[aDI,aDf]at h3;cases hb:Bj a.vars none a.terms with
    |true=>
     rw[hb]at h3;simp only[nH,sL,bc,go_sem,f1,f2,f3];rw[(h3 _ _ rfl rfl rfl rfl rfl).choose_spec];simp only[go_sem]
    |false=>
     rw[hb]at h3;simp only[nH,sL,bc,go_sem,f1,f2,f3];rw[(h3 _ _ rfl rfl rfl rfl rfl).choose_spec];simp only[go_sem]
   ·have f3:(500< (a.terms.length:Int))=True:=tt;rw[decide_eq_false c3,aCO];simp only[nH,sL,bc,go_sem,f1,f2,f3]
  ·have f2:(8<a.vars)=True:=tt;rw[decide_eq_false c2,aCO];simp only[nH,sL,bc,go_sem,f1,f2]
 ·have f1:(a.vars<0)=True:=tt;rw[decide_eq_false c1,aCO];simp only[nH,sL,bc,go_sem,f1]
theorem xL{a:Rp}(ok:OkP a):R fcX [bc a] []=some (B (vp a),[]):=Q2 fun t h=>(ok.t t h).c
@[go_sem] theorem S6(l:List Ri):(bS l).map (eP [.o 0 [],.o 2 [],.o 0 [],.o 0 [],.o 2 [],.o 0 [],.o 0 []])=bS l:=by
 refine tO fun x hx=>?_;simp only[bS,aDz]at hx;obtain⟨t,ht,rfl⟩:=hx;simp only[ao,go_sem]
theorem aeX(ok:OkI x):R fav [aj x] []=some (B (!kI x),[]):=by
 refine au F6 rfl ?_;have hv:=oW ok;simp only[aj,ao]at hv;unfold kI;cases h1:vi x with
 |false=>
  rw[h1]at hv;rw[aDH];simp only[sA,aj,ao,go_sem,hv,Bool.not_false]
 |true=>
  rw[h1]at hv;rw[Bool.and_true,Bool.not_not];simp only[sA,aj,ao,go_sem,hv]
theorem akt{l:List Ri}(ok:∀x∈l,OkI x)(h2:l.length<=100000):R fed [.sl 7 (bS l),.fn fav [] []] []=some (B (l.any fun x=>!kI x),[]):=by
 let p:List AV->Bool:=fun row=>match row with|[.v (.bool n1),.sl _ m1,.v (.int _ e1),.v (.bool n2),.sl _ m2,.v (.int _ e2),.v (.bool a)]=>!kI ⟨⟨n1,m1.map (fun r=>match r with|[.v (.int _ x)]=>x.toNat|_=>0),e1⟩,⟨n2,m2.map (fun r=>match r with|[.v (.int _ x)]=>x.toNat|_=>0),e2⟩,a⟩|_=>false
 have hmm:∀m:List Nat,(aE m).map (fun r=>match r with|[.v (.int _ x)]=>x.toNat|_=>0)=m:=fun m=>by
  grind[aE,List.map_map,aDk,aDu]
 have hp:∀x:Ri,p (ao x)=!kI x:=fun x=>by
  show(!kI ⟨⟨x.lo.neg,(aE x.lo.m).map _,x.lo.e⟩,⟨x.hi.neg,(aE x.hi.m).map _,x.hi.e⟩,x.all⟩)=_
  simp_all
 have h1:=Ye (k:=7) (g:=true) (f:=fav) (rows:=bS l) (p:=p) aS.2.1 aS.2.2 (aS.1.2.2.2 false) rfl (F6.1.2.1 false) (by grind[abU]) (fun row hr=>by
  simp only[bS,aDz]at hr;obtain⟨x,hx,rfl⟩:=hr;have hd:=aeX (ok x hx);refine⟨aj x,rfl,rfl,?_⟩;rw[hp];simp only[aj,ao]at hd;simp only[aj,ao,go_sem,hd])
 have h2:=SN (k:=7) aI.2.1 aI.2.2 (aI.1.2.2.2 false) rfl (aS.1.2.1 false) (aS.1.1 false) (by simp only[go_sem]) h1;have h3:(bS l).any p=l.any fun x=>!kI x:=by
  unfold bS;rw[List.any_map];congr 1;funext x;exact hp x
 grind
def mQ(a:Rp)(dom:List Ri):Bool:=vp a&& (decide ((dom.length:Int)=a.vars)&&!(dom.any fun x=>!kI x))
variable{dom:List Ri}
theorem ahb{a:Rp}(oa:OkP a)(od:∀x∈dom,OkI x)(h2:dom.length<=100000):R fau [bc a,.sl 7 (bS dom)] []=some (B (mQ a dom),[]):=by
 refine au SG rfl ?_;have hv:=xL oa;have hc:=akt od h2;simp only[bc]at hv;unfold mQ;cases h1:vp a with
 |false=>
  rw[h1]at hv;simp only[rC,bc,go_sem,hv]
 |true=>
  rw[h1]at hv;by_cases h3:(dom.length:Int)=a.vars
  ·have e3:((dom.length:Int)=a.vars)=True:=tt h3;simp only[rC,bc,go_sem,hv,e3,hc]
  ·have e3:((dom.length:Int)=a.vars)=False:=ff h3;simp only[rC,bc,go_sem,hv,e3]
theorem MP{a:Rp}(oa:OkP a)(od:∀x∈dom,OkI x)(h2:dom.length<=100000):R faw [bc a,.sl 7 (bS dom),I p] []=some (B (mQ a dom&&bC p),[]):=by
 refine au XU rfl ?_;have hd:=ahb oa od h2;simp only[bc]at hd;unfold bC;cases h1:mQ a dom with
 |false=>
  rw[h1]at hd;simp only[vj,bc,go_sem,hd]
 |true=>
  rw[h1]at hd;by_cases h3:8<=p
  ·have e3:(8<=p)=True:=tt h3;simp only[vj,bc,go_sem,hd,e3,decide_true,aCM]
  ·have e3:(8<=p)=False:=ff h3;simp only[vj,bc,go_sem,hd,e3,decide_false,aCO]
theorem JJ:R faI [] []=some (aj cS,[]):=by
 refine au VQ rfl ?_;simp only[CX,aj,ao,cS,aB,go_sem]
def Kw(p:Int):List Ri->List Int->Ri->Ri
 |d::ds,e::es,x=>Kw p ds es (if 0<e then dt x (Dc d e.toNat p) p else x)
 |_,_,x=>x
theorem ahc{up:Rd->Rd->Rd×Int}(h1:∀a b,Ok0 (dn a b).1)(h2:∀a b,Ok0 (up a b).1):OkI (Is (sD dn up pr)):=by
 have hN:∀ (k i:Nat) (o:Rd×Rd),Ok0 o.1->Ok0 o.2->OkI (Is (Ci dn up pr k i o)):=by
  intro k;induction k with
  |zero=>exact fun i o g1 g2=>⟨g1,g2⟩
  |succ k ih=>
   intro i o g1 g2;unfold Ci;split
   ·grind
   ·exact⟨aO.2,aO.2⟩
 unfold sD;split
 ·grind
 ·exact⟨aO.2,aO.2⟩
theorem tG{y:Ri}:OkI (dt x y p):=by
 unfold dt;split
 ·grind[ahc,Be]
 ·exact⟨aO.2,aO.2⟩
theorem Iv{up:Bool}:Ok0 (dk a b p up).1:=by
 unfold dk;split
 ·exact vH.2
 ·exact aO.2
theorem yG{y:Ri}:OkI (dq x y p):=by
 unfold dq;split
 ·grind[Gh,Iv]
 ·exact⟨aO.2,aO.2⟩
theorem anf(ok:OkI x){e:Nat}:OkI (Dc x e p):=by
 grind[Dc,Ff,tG]
theorem aqj{p:Int}:∀ (ds:List Ri) (es:List Int) (x:Ri),OkI x->OkI (Kw p ds es x):=by
 intro ds;induction ds with
 |nil=>exact fun es x h=>by cases es<;>exact h
 |cons d ds ih=>
  intro es x h;cases es with
  |nil=>exact h
  |cons e es=>
   grind[Kw,tG]
theorem aty(od:∀x∈dom,OkI x){es:List Int}(hl:dom.length=es.length)(h2:dom.length<=100000)(he:∀e∈es,0<=e/\e<=32){p:Int}{c3 c6 c7 c9:List AV}{rw':AV}{n j:Int}
  (q3:aF [3,6,7,9,10] (.bx c3)=true) (q6:aF [3,6,7,9,10] (.bx c6)=true) (q7:aF [3,6,7,9,10] (.bx c7)=true) (q9:aF [3,6,7,9,10] (.bx c9)=true) (qr:iQ [3,6,7,9,10] rw'=rw'):
  ∀ (k i:Nat),i+k=es.length->∀ (x:Ri),OkI x->∀ (s:ap) (h:ae),s 1=.sl 7 (bS dom)->s 2=I p->s 6=ac 6->s 7=ac 7->s 10=ac 10->s 22=rw'->s 23=I n->s 24=I j->s 32=.sl 1 (aV es)->s 33=I es.length->s 34=I i->
  h 3=.bx c3->h 6=.bx c6->h 7=.bx c7->h 9=.bx c9->h 10=.bx (ao x)->
  ∃hh,ak 2 [1,2,6,7,10,22,23,24] (av (am R (az false) iH) [1,2,6,7,10,22,23,24,32,33,34] [3,6,7,9,10] s h)=some (.normal,⟨upd (upd (upd (upd (upd (upd (upd (upd bk 24 (I j)) 23 (I n)) 22 rw') 10 (ac 10)) 7 (ac 7)) 6 (ac 6)) 2 (I p)) 1 (.sl 7 (bS dom)),hh⟩)/\
   hh 3=.bx c3/\hh 6=.bx c6/\hh 7=.bx c7/\hh 10=.bx (ao (Kw p (dom.drop i) (es.drop i) x))/\∀a,a≠3->a≠6->a≠7->a≠9->a≠10->hh a=.dead:=by
 intro k;induction k with
 |zero=>
  intro i hi x ox s h h1 h2' h6 h7 h10 h22 h23 h24 h32 h33 h34 k3 k6 k7 k9 k10;have e1:((i:Int)<es.length)=False:=ff;rw[aC3 ω,aC3 ω,ah];refine⟨?hh0,?_,?_,?_,?_,?_,?_⟩;rotate_left
  ·simp only[iH,go_sem,h1,h2',h6,h7,h10,h22,h23,h24,h32,h33,h34,k3,k6,k7,k9,k10,q3,q6,q7,q9,qr,e1];rfl
  ·rfl
  ·rfl
  ·rfl
  ·rfl
  simp_all[cB,if_false]
 |succ k ih=>
  intro i hi x ox s h h1 h2' h6 h7 h10 h22 h23 h24 h32 h33 h34 k3 k6 k7 k9 k10;have hlt:i<es.length:=ω
  have hlt2:i<dom.length:=ω
  have e1:((i:Int)<es.length)=True:=tt;have e2:aZ (aV es) (i:Int)=some (.ipt [I es[i]]):=pH rfl (List.getElem?_eq_getElem hlt);have e3:aZ (bS dom) (i:Int)=some (.ipt (ao dom[i])):=Bc rfl (List.getElem?_eq_getElem hlt2);have e5:aG ((i:Int)+1)=((i+1:Nat):Int):=wi;have oki:=od dom[i] (aC0 hlt2);have hb:=he es[i] (aC0 hlt);rw[aC4 hlt,aC4 hlt2,ah];have ih':=ih (i+1) ω;unfold Kw;generalize es[i]=e at e2 hb⊢;generalize dom[i]=d at e3 oki⊢;obtain⟨m,rfl⟩:=aDG hb.1;rw[aCQ];have hpw:=anc oki (e:=m) ω (p:=p);have opw:=anf oki (e:=m) (p:=p);generalize Dc d m p=y at hpw opw⊢;have hmu:=v9 ox opw (p:=p);have omu:=tG (x:=x) (y:=y) (p:=p);generalize dt x y p=z at hmu omu⊢;simp only[aj,ao]at e3 hpw hmu k10;by_cases hm:0< (m:Int)
  ·have f1:(0< (m:Int))=True:=tt hm;simp only[iH,go_sem,h1,h2',h6,h7,h10,h22,h23,h24,h32,h33,h34,k3,k6,k7,k9,k10,q3,q6,q7,q9,qr,e1,e2,e3,f1,hpw,hmu,e5];exact ih' z omu _ _ rfl rfl rfl rfl rfl rfl rfl rfl rfl rfl rfl rfl rfl rfl rfl rfl
  ·have f1:(0< (m:Int))=False:=ff hm;simp only[iH,go_sem,h1,h2',h6,h7,h10,h22,h23,h24,h32,h33,h34,k3,k6,k7,k9,k10,q3,q6,q7,q9,qr,e1,e2,e3,f1,hpw,hmu,e5];exact ih' x ox _ _ rfl rfl rfl rfl rfl rfl rfl rfl rfl rfl rfl rfl rfl rfl rfl rfl
def LI(p:Int)(dom:List Ri):List Rt->Ri->Ri
 |[],s=>s
 |t::l,s=>LI p dom l (dq s (Kw p dom t.exps ⟨t.c,t.c,false⟩) p)
theorem MQ{v:Int}:∀ (l:List Rt) (pr:Option Rt),Bj v pr l=true->∀t∈l,Iu v t=true:=by
 intro l;induction l with
 |nil=>grind
 |cons a l ih=>
  intro pr h t ht;unfold Bj at h;grind
theorem ahd{a:Rp}(oa:OkP a)(od:∀x∈dom,OkI x)(hv:∀t∈a.terms,Iu a.vars t=true)(hl:(dom.length:Int)=a.vars)(h8:a.vars<=8)(h5:a.terms.length<=500){p:Int}:
  ∀ (k i:Nat),i+k=a.terms.length->∀ (x:Ri),OkI x->∀ (s:ap) (h:ae),s 1=.sl 7 (bS dom)->s 2=I p->s 6=ac 6->s 7=ac 7->s 22=.sl 4 (aL a.terms)->s 23=I a.terms.length->s 24=I i->
  h 3=.bx [I a.vars,.sl 4 (aL a.terms)]->h 6=.bx [.v (.bool false),.emp,.v (.int .i64 0),.v (.bool false),.emp,.v (.int .i64 0),.v (.bool false)]->h 7=.bx (ao x)->
  ∃hh,ak 0 [6,7] (av (am R (az false) lX) [1,2,6,7,22,23,24] [3,6,7] s h)=some (.normal,⟨upd (upd bk 7 (ac 7)) 6 (ac 6),hh⟩)/\hh 6=.bx [.v (.bool false),.emp,.v (.int .i64 0),.v (.bool false),.emp,.v (.int .i64 0),.v (.bool false)]/\hh 7=.bx (ao (LI p dom (a.terms.drop i) x)):=by
 intro k;induction k with
 |zero=>
  intro i hi x ox s h h1 h2 h6 h7 h22 h23 h24 k3 k6 k7;have e1:((i:Int)<a.terms.length)=False:=ff;rw[aC3 ω,ah];refine⟨?hh0,?_,?_,?_⟩;rotate_left
  ·simp only[lX,go_sem,h1,h2,h6,h7,h22,h23,h24,k3,k6,k7,e1];rfl
  ·rfl
  ·rfl
 |succ k ih=>
  intro i hi x ox s h h1 h2 h6 h7 h22 h23 h24 k3 k6 k7;have hlt:i<a.terms.length:=ω
  have e1:((i:Int)<a.terms.length)=True:=tt;have e2:aZ (aL a.terms) (i:Int)=some (.ipt (ce a.terms[i])):=iY rfl (List.getElem?_eq_getElem hlt);have e5:aG ((i:Int)+1)=((i+1:Nat):Int):=wi;have okt:=oa.t a.terms[i] (aC0 hlt);obtain⟨c1,c2,c3,c4,c5⟩:=Cj (hv a.terms[i] (aC0 hlt));rw[aC4 hlt,ah];have ih':=ih (i+1) ω;unfold LI;generalize a.terms[i]=t at e2 okt c1 c2 c3 c4 c5⊢;have hpt:=gO okt.c c2;have hin:=aty (dom:=dom) od (es:=t.exps) ω ω (yF c4) (p:=p) (c3:=[I a.vars,.sl 4 (aL a.terms)]) (c6:=[.v (.bool false),.emp,.v (.int .i64 0),.v (.bool false),.emp,.v (.int .i64 0),.v (.bool false)]) (c7:=ao x) (c9:=ce t) (rw':=.sl 4 (aL a.terms)) (n:=a.terms.length) (j:=i) rfl rfl rfl rfl rfl t.exps.length 0 (aCI _) ⟨t.c,t.c,false⟩ ⟨okt.c,okt.c⟩;simp only[aDI,aDf]at hin;have oy:=aqj (p:=p) dom t.exps ⟨t.c,t.c,false⟩ ⟨okt.c,okt.c⟩;generalize Kw p dom t.exps ⟨t.c,t.c,false⟩=y at hin oy⊢;have hadd:=tC ox oy (p:=p);have oz:=yG (x:=x) (y:=y) (p:=p);generalize dq x y p=z at hadd oz⊢;generalize hL0:av (am R (az false) iH) [1,2,6,7,10,22,23,24,32,33,34] [3,6,7,9,10]=L0 at hin;have hin2:∀ (S:ap) (H:ae) (X:Option (Ex×St)),ak 2 [1,2,6,7,10,22,23,24] (L0 S H)=X->S 1=.sl 7 (bS dom)->S 2=I p->S 6=ac 6->S 7=ac 7->S 10=ac 10->S 22=.sl 4 (aL a.terms)->S 23=I a.terms.length->S 24=I i->S 32=.sl 1 (aV t.exps)->S 33=I t.exps.length->S 34=I 0->
   H 3=.bx [I a.vars,.sl 4 (aL a.terms)]->H 6=.bx [.v (.bool false),.emp,.v (.int .i64 0),.v (.bool false),.emp,.v (.int .i64 0),.v (.bool false)]->H 7=.bx (ao x)->H 9=.bx (ce t)->H 10=.bx (ao ⟨t.c,t.c,false⟩)->
   ∃hh,X=some (.normal,⟨upd (upd (upd (upd (upd (upd (upd (upd bk 24 (I i)) 23 (I a.terms.length)) 22 (.sl 4 (aL a.terms))) 10 (ac 10)) 7 (ac 7)) 6 (ac 6)) 2 (I p)) 1 (.sl 7 (bS dom)),hh⟩)/\
    hh 3=.bx [I a.vars,.sl 4 (aL a.terms)]/\hh 6=.bx [.v (.bool false),.emp,.v (.int .i64 0),.v (.bool false),.emp,.v (.int .i64 0),.v (.bool false)]/\hh 7=.bx (ao x)/\hh 10=.bx (ao y)/\∀a,a≠3->a≠6->a≠7->a≠9->a≠10->hh a=.dead:=fun S H X hX=>by
   rw[←hX];exact hin S H
  have hX:∀s h,am R (az false) (.loop [1,2,6,7,10,22,23,24,32,33,34] [3,6,7,9,10] iH) s h=L0 s h:=fun s h=>by rw[←hL0];rfl
  simp only[ce]at e2 hin2;simp only[aj,ao,af,ai]at hpt hadd k7 hin2;simp only[lX,hX,go_sem,h1,h2,h6,h7,h22,h23,h24,k3,k6,k7,e1,e2,hpt];generalize hB:ak 2 [1,2,6,7,10,22,23,24] (L0 _ _)=X;obtain⟨hh,g0,g3,g6,g7,g10,gd⟩:=hin2 _ _ _ hB rfl rfl rfl rfl rfl rfl rfl rfl rfl rfl rfl rfl rfl rfl rfl rfl;rw[g0];simp only[go_sem,ne_eq,not_false_eq_true,g7,g10,gd,hadd,e5];refine ih' z oz _ _ ?_ ?_ ?_ ?_ ?_ ?_ ?_ ?_ ?_ ?_
  all_goals first|rfl|exact g3|exact g6
def n8(a:Rp)(dom:List Ri)(p:Int):Ri:=if(mQ a dom&&bC p)=true then LI p dom a.terms ⟨aB,aB,false⟩else cS
theorem aku{a:Rp}(oa:OkP a)(od:∀x∈dom,OkI x)(h2:dom.length<=100000):R fat [bc a,.sl 7 (bS dom),I p] []=some (aj (n8 a dom p),[]):=by
 refine au VR rfl ?_;have hf:=MP oa od h2 (p:=p);have hw:=JJ;unfold n8;simp only[bc]at hf;cases hb:(mQ a dom&&bC p)with
 |false=>
  rw[hb]at hf;simp only[ym,Em,bc,aj,ao,go_sem,hf,hw]
 |true=>
  rw[hb]at hf;simp only[mQ,vp,aCK,decide_eq_true_eq]at hb;obtain⟨⟨⟨v1,v2,v3,v4⟩,v5,v6⟩,v7⟩:=hb;have ho:=ahd oa od (MQ _ _ v4) v5 v2 v3 (p:=p) a.terms.length 0 (aCI _) ⟨aB,aB,false⟩ ⟨aO.2,aO.2⟩;simp only[aDI,aDf]at ho;generalize LI p dom a.terms ⟨aB,aB,false⟩=z at ho⊢;have hpt:=gO aO.2 aO.1;generalize hL0:av (am R (az false) lX) [1,2,6,7,22,23,24] [3,6,7]=L0 at ho;have hX:∀s h,am R (az false) (.loop [1,2,6,7,22,23,24] [3,6,7] lX) s h=L0 s h:=fun s h=>by rw[←hL0];rfl
  have ho2:∀ (S:ap) (H:ae) (X:Option (Ex×St)),ak 0 [6,7] (L0 S H)=X->S 1=.sl 7 (bS dom)->S 2=I p->S 6=ac 6->S 7=ac 7->S 22=.sl 4 (aL a.terms)->S 23=I a.terms.length->S 24=I 0->
   H 3=.bx [I a.vars,.sl 4 (aL a.terms)]->H 6=.bx [.v (.bool false),.emp,.v (.int .i64 0),.v (.bool false),.emp,.v (.int .i64 0),.v (.bool false)]->H 7=.bx (ao ⟨aB,aB,false⟩)->
   ∃hh,X=some (.normal,⟨upd (upd bk 7 (ac 7)) 6 (ac 6),hh⟩)/\hh 6=.bx [.v (.bool false),.emp,.v (.int .i64 0),.v (.bool false),.emp,.v (.int .i64 0),.v (.bool false)]/\hh 7=.bx (ao z):=fun S H X hX=>by
   rw[←hX];exact ho S H
  simp only[aj,ao,af,ai,aB]at hpt ho2;simp only[ym,Em,hX,bc,aj,ao,go_sem,hf,hpt];generalize hB:ak 0 [6,7] (L0 _ _)=X;obtain⟨hh,g0,g6,g7⟩:=ho2 _ _ _ hB rfl rfl rfl rfl rfl rfl rfl rfl rfl rfl;rw[g0];simp only[go_sem,g6,g7]
theorem zX(hi:i=n)(hn:n<18446744073709551616):eX .and (.v (.int .u64 i)) (.v (.int .u64 4294967295))=some (.v (.int .u64 ((n%4294967296:Nat):Int))):=by
 rw[Sa];have e:(BitVec.ofInt IntKind.u64.bits (n:Int)&&&BitVec.ofInt IntKind.u64.bits 4294967295).toNat=n%4294967296:=by
  show(BitVec.ofInt 64 (n:Int)&&&BitVec.ofInt 64 4294967295).toNat=n%4294967296;rw[BitVec.toNat_and];have e2:(BitVec.ofInt 64 (n:Int)).toNat=n:=by
   grind
  rw[e2,show(BitVec.ofInt 64 4294967295).toNat=2^32-1 from by decide,Nat.and_two_pow_sub_one_eq_mod]
 grind[dG]
theorem YF(hi:i=n)(hn:n<4294967296):eX .and (.v (.int .u32 i)) (.v (.int .u32 1))=some (.v (.int .u32 ((n%2:Nat):Int))):=by
 rw[Sa];have e:(BitVec.ofInt IntKind.u32.bits (n:Int)&&&BitVec.ofInt IntKind.u32.bits 1).toNat=n%2:=by
  show(BitVec.ofInt 32 (n:Int)&&&BitVec.ofInt 32 1).toNat=n%2;grind
 grind[CG]
theorem aeY(m:List Nat)(h2:m.length<4611686018427387904):∀ (n:Nat),n<=m.length->∀ (s:ap) (h:ae),s 0=lm m->s 3=I n->
  ak 0 [0,3] (av (am R (az false) Kg) [0,3] [] s h)=some (.normal,⟨upd (upd bk 3 (I (oV m n))) 0 (lm m),fun _=>.dead⟩):=Uu m h2
theorem Dd(hb:Lb m)(h:m.length<=10000000):R fdt [lm m] []=some (lm (aA (ab m)),[]):=by
 refine au aew rfl ?_;have h1:fA 1 (lm m) none (some (I (oV m m.length:Nat))) none=some (lm (aA (ab m))):=by
  rw[Lx (a:=0) (b:=oV m m.length) rfl (xr rfl (FX _ _)) (FX _ _),aDI,Nat.sub_zero,OE hb]
 have hl:=dU m hb;have e1:((aA (ab m)).length*4<=140737488355328)=True:=tt;simp only[HD,Qp,go_sem,aeY m ω m.length (aCJ _),h1,Yr,e1,aCT,aDs,true_or,aCI,aCJ,List.replicate_zero]
theorem Uy:∀ (x b:Nat),x<4294967296->b+ag x<=100000000->∀ (s:ap) (h:ae),s 3=I b->s 4=U x->
  ak 0 [3] (av (am R (az false) Ae) [3,4] [] s h)=some (.normal,⟨upd bk 3 (I (b+ag x:Nat)),fun _=>.dead⟩):=by
 intro x;induction x using Nat.strongRecOn with
 |ind x ih=>
  intro b hx hb s h h3 h4;rw[ah];by_cases h0:x=0
  ·have e1:(0< (x:Int))=False:=ff;rw[h0,tN,aDm];simp only[Ae,go_sem,h3,h4,e1]
  ·have e1:(0< (x:Int))=True:=tt;have e2:=MK (n:=x) (k:=1) (kk:=.u64) (j:=1) rfl rfl ω;have e3:aG ((b:Int)+1)=((b+1:Nat):Int):=wi;have e4:ag x=1+ag (x/2^1):=by
    have h5:=l8 x 1;grind[gM]
   have ih':=ih (x/2^1) ω (b+1) ω ω;rw[show b+ag x=b+1+ag (x/2^1)by omega];simp only[Ae,go_sem,h3,h4,e1,e2,e3];exact ih' _ _ rfl rfl
theorem YG(hb:Lb m)(h:m.length<=1000000)(hc:DG m):R fdl [lm m] []=some (I (ag (ab m):Nat),[]):=by
 refine au QF rfl ?_;by_cases h0:m.length=0
 ·have:m=[]:=List.length_eq_zero_iff.1 h0;subst this;simp only[vU,BS,go_sem,aDs,aDf,ab,tN]
 ·have e1:((m.length:Int)=0)=False:=ff;have e2:aG ((m.length:Int)-1)=((m.length-1:Nat):Int):=wi;have e3:aG (32*((m.length-1:Nat):Int))=((32*(m.length-1):Nat):Int):=wi;have e4:aZ (aE m) ((m.length-1:Nat):Int)=some (.ipt [U (m.getD (m.length-1) 0:Nat)]):=bI rfl ω;have hx:=bZ hb (m.length-1);have e5:=Uy (m.getD (m.length-1) 0) (32*(m.length-1)) hx (by have:=(bH (k:=32)).2 hx;omega);have e6:32*(m.length-1)+ag (m.getD (m.length-1) 0)=ag (ab m):=by
   grind[Yp,Lp,Ig]
  rw[e6]at e5;simp only[vU,BS,go_sem,e1,e2,e3,e4];rw[e5 _ _ rfl rfl];simp only[go_sem]
theorem YH(hb:Lb m)(n:Nat):m.getD (n/32) 0/2^ (n%32) %2=ab m/2^n%2:=by
 have h1:ab m/2^n=ab (m.drop (n/32))/2^ (n%32):=by
  rw[AH hb,Nat.div_div_eq_div_mul,Ba]
 rw[h1,gA];have e:(4294967296:Nat)=2^ (n%32)*(2*2^ (31-n%32)):=by
  rw[←Nat.pow_succ',←aCU,show n%32+(31-n%32+1)=32 by omega]
 simp_all[aC9,Nat.add_mul_div_left,aC1,Nat.add_mul_mod_self_left]
theorem ahe(h:n≠0){k:Nat}(hk:k<=tz n):n/2^k%2=if k=tz n then 1 else 0:=by
 obtain⟨h1,h2⟩:=yz h;by_cases hh:k=tz n
 ·grind
 ·obtain⟨j,hj⟩:∃j,tz n=k+(j+1):=⟨tz n-k-1,by omega⟩;have h3:n=2^k*(2*(2^j*(n/2^tz n))):=by
   grind
  grind[Nat.mul_div_cancel_left,aC1,Nat.mul_mod_right]
theorem aeZ(hb:Lb m)(h:m.length<=1000000)(hv:ab m≠0):∀ (k i:Nat),i+k=tz (ab m)->∀ (s:ap) (h:ae),s 0=lm m->s 3=I i->
  ak 0 [3] (av (am R (az false) yi) [0,3] [] s h)=some (.normal,⟨upd bk 3 (I (tz (ab m):Nat)),fun _=>.dead⟩):=by
 have htz:tz (ab m)<32*m.length:=by
  simp_all[Wh,di,Nat.pow_mul]
 intro k;induction k with
 |zero=>
  intro i hi s h h0 h3;have hi':i=tz (ab m):=ω
  have e1:=Fc (n:=i) (m:=32) (j:=32) rfl rfl ω ω;have e2:=Fb (n:=i) (m:=32) (j:=32) rfl rfl ω;have e3:aZ (aE m) ((i/32:Nat):Int)=some (.ipt [U (m.getD (i/32) 0:Nat)]):=bI rfl ω;have hx:=bZ hb (i/32);have e4:IntKind.u64.wrap ((i%32:Nat):Int)=((i%32:Nat):Int):=dG rfl ω;have e5:=MK (n:=m.getD (i/32) 0) (k:=i%32) (kk:=.u64) (j:=((i%32:Nat):Int)) rfl rfl ω;have e6:=YF (n:=m.getD (i/32) 0/2^ (i%32)) rfl (aDe (Nat.div_le_self _ _) hx);have e7:=YH hb i;rw[ahe hv ω,if_pos hi']at e7;rw[e7]at e6;rw[ah];rw[←hi'];simp only[yi,go_sem,aCZ,h0,h3,e1,e2,e3,e4,e5,e6,Int.natCast_one]
 |succ k ih=>
  intro i hi s h h0 h3;have e1:=Fc (n:=i) (m:=32) (j:=32) rfl rfl ω ω;have e2:=Fb (n:=i) (m:=32) (j:=32) rfl rfl ω;have e3:aZ (aE m) ((i/32:Nat):Int)=some (.ipt [U (m.getD (i/32) 0:Nat)]):=bI rfl ω;have hx:=bZ hb (i/32);have e4:IntKind.u64.wrap ((i%32:Nat):Int)=((i%32:Nat):Int):=dG rfl ω;have e5:=MK (n:=m.getD (i/32) 0) (k:=i%32) (kk:=.u64) (j:=((i%32:Nat):Int)) rfl rfl ω;have e6:=YF (n:=m.getD (i/32) 0/2^ (i%32)) rfl (aDe (Nat.div_le_self _ _) hx);have e7:=YH hb i;rw[ahe hv ω,if_neg ω]at e7;rw[e7]at e6;have e8:aG ((i:Int)+1)=((i+1:Nat):Int):=wi;have ih':=ih (i+1) ω;rw[ah];simp only[yi,go_sem,h0,h3,e1,e2,e3,e4,e5,e6,e8,aDf];exact ih' _ _ rfl rfl
theorem ahf(hb:Lb m)(h:m.length<=1000000)(hv:ab m≠0):R fdu [lm m] []=some (I (tz (ab m):Nat),[]):=by
 refine au aaX rfl ?_;have h3:=aeZ hb h hv (tz (ab m)) 0 (aCI _);simp only[FN,NZ,go_sem];rw[h3 _ _ rfl rfl];simp only[go_sem]
theorem ahg{a:List Nat}(ha:Lb a){n:Nat}(h1:a.length<=100000)(hq:q<=100000):∀ (k i:Nat),i+k=a.length->∀ (s:ap) (h:ae),s 0=lm a->s 1=I (n:Nat)->s 5=.rsl 11 none 1 0 (q+i)->s 6=W (j5 a (n%32) i:Nat)->s 7=I i->
  h 11=.ar 1 (aE (aCG q 0++qK a (n%32) i))->h 34=.dead->
  ak 0 [5,6] (av (am R (az false) Ak) [0,1,5,6,7] [11,34] s h)=
   some (.normal,⟨upd (upd bk 6 (W (j5 a (n%32) a.length:Nat))) 5 (.rsl 11 none 1 0 (q+a.length)),upd (upd (fun _=>.dead) 34 .dead) 11 (.ar 1 (aE (aCG q 0++qK a (n%32) a.length)))⟩):=by
 intro k;induction k with
 |zero=>
  intro i hi s h h0 g1 h5 h6 h7 hh hh2;have:i=a.length:=ω
  subst this;rw[ah];simp only[Ak,go_sem,h0,g1,h5,h6,h7,hh,hh2,aDl]
 |succ k ih=>
  intro i hi s h h0 g1 h5 h6 h7 hh hh2;have ih':=ih (i+1) ω;have hx:=bZ ha i;have hc:=Io ha (r:=n%32) i;have hp:2^ (n%32)<=2^31:=aDn ω ω;have hxp:a.getD i 0*2^ (n%32)<=4294967295*2^31:=Nat.mul_le_mul ω hp;have e1:((i:Int)< (a.length:Int))=True:=tt;have e2:aZ (aE a) (i:Int)=some (.ipt [U (a.getD i 0:Nat)]):=bI rfl ω;have e3:aG ((i:Int)+1)=((i+1:Nat):Int):=wi;have e4:IntKind.u64.wrap (a.getD i 0:Int)=(a.getD i 0:Int):=dG rfl ω;have e5:=Fb (n:=n) (m:=32) (j:=32) rfl rfl ω;have e5':IntKind.u64.wrap ((n%32:Nat):Int)=((n%32:Nat):Int):=dG rfl ω;have e6:=G5 (n:=a.getD i 0) (k:=n%32) (kk:=.u64) (j:=((n%32:Nat):Int)) rfl rfl ω ω;have e7:=Pd (m:=a.getD i 0*2^ (n%32)) (n:=j5 a (n%32) i) rfl rfl ω ω;rw[Gb hc]at e7;have e10:=zX (n:=a.getD i 0*2^ (n%32)+j5 a (n%32) i) rfl ω;have e8:IntKind.u32.wrap (((a.getD i 0*2^ (n%32)+j5 a (n%32) i) %4294967296:Nat):Int)=(((a.getD i 0*2^ (n%32)+j5 a (n%32) i) %4294967296:Nat):Int):=CG rfl ω;have e9:=qE (n:=a.getD i 0*2^ (n%32)+j5 a (n%32) i) (k:=32) (kk:=.u64) (j:=32) rfl rfl ω;have f1:aE (aCG q 0++qK a (n%32) i)++[[U ((a.getD i 0*2^ (n%32)+j5 a (n%32) i) %4294967296:Nat)]]=aE (aCG q 0++qK a (n%32) (i+1)):=by
   simp_all[U,j5,aE,EZ,aDr,qK,List.range_succ]
  have f2:(q+i=(aCG q 0++qK a (n%32) i).length)=True:=tt (by simp[yB]);have f3:((q+i+1)*4<=140737488355328)=True:=tt;rw[ah];simp only[Ak,go_sem,h0,g1,h5,h6,h7,hh,hh2,e1,e2,e3,e4,e5,e5',e6,e7,e8,e9,e10,f1,f2,f3,true_or,aCI,aCJ];exact ih' _ _ rfl rfl rfl rfl rfl rfl rfl
theorem YI{a:List Nat}(ha:Lb a)(h1:a.length<=10000)(hn:n<=100000):R fdo [lm a,I n] []=some (lm (aA (ab a*2^n)),[]):=by
 refine au aeB rfl ?_;have hc:=Io ha (r:=n%32) a.length;have hp:2^ (n%32)<=2^31:=aDn ω ω;have e1:=Fc (n:=n) (m:=32) (j:=32) rfl rfl ω ω;have e4:=rH (i:=((n/32:Nat):Int)) (j:=((n/32:Nat):Int)) rfl rfl (aCJ _) ω;have e5:(n/32*4<=140737488355328)=True:=tt;have e6:=ahg ha (n:=n) (q:=n/32) ω ω a.length 0 ω;have e7:aE (aCG (n/32) 0)=aE (aCG (n/32) 0++qK a (n%32) 0):=by simp[qK]
 have e8:IntKind.u32.wrap ((j5 a (n%32) a.length:Nat):Int)=((j5 a (n%32) a.length:Nat):Int):=CG rfl ω;have hall:=abI ha n;have f1:aE (aCG (n/32) 0++qK a (n%32) a.length)++[[U (j5 a (n%32) a.length:Nat)]]=aE (dO (n/32+a.length+1) (ab a*2^n)):=by
  rw[←hall,show [[U (j5 a (n%32) a.length:Nat)]]=aE [j5 a (n%32) a.length]from rfl,EZ]
 have f2:(n/32+a.length=(aCG (n/32) 0++qK a (n%32) a.length).length)=True:=tt (by simp[yB]);have f3:((n/32+a.length+1)*4<=140737488355328)=True:=tt;have ht:=Dd (ni (n/32+a.length+1) (ab a*2^n)) γ;have hv:ab (dO (n/32+a.length+1) (ab a*2^n))=ab a*2^n:=by
  rw[l6,aDq];have h:=di ha;have h2:2^n<=4294967296^ (n/32+1):=by
   rw[show(4294967296:Nat)=2^32 from rfl,←Nat.pow_mul];exact aDn ω ω
  rw[show n/32+a.length+1=a.length+(n/32+1)from by omega,aCU];exact Nat.mul_lt_mul_of_lt_of_le h h2 (Nat.pow_pos ω)
 rw[hv]at ht;have f4:(aE (dO (n/32+a.length+1) (ab a*2^n))).take (n/32+a.length+1)=aE (dO (n/32+a.length+1) (ab a*2^n)):=by
  rw[aCX];rw[MJ,cZ];omega
 simp only[HF,Qs,go_sem,e1,e4,e5,A9,e7];rw[e6 _ _ rfl rfl rfl rfl rfl rfl rfl];simp only[go_sem,e8,f1,f2,f3,f4,true_or,aCI,aCJ,cZ,ht]
def Ha(d:Nat)(out:List Nat)(x:AV)(o:Ob):Prop:=(out=[]/\x=.emp/\o=.dead)\/(0<out.length/\x=.rsl d none 1 0 out.length/\o=.ar 1 (aE out))
theorem De{d v:Nat}:Ha d ([]++[v]) (.rsl d none 1 0 1) (.ar 1 [[U (v:Nat)]]):=Or.inr ⟨by simp,rfl,rfl⟩
theorem AL{d v:Nat}{out:List Nat}:Ha d (out++[v]) (.rsl d none 1 0 (out.length+1)) (.ar 1 (aE (out++[v]))):=Or.inr ⟨by simp,by grind,rfl⟩
theorem xM(out:List Nat)(v:Nat):aE out++[[U (v:Nat)]]=aE (out++[v]):=by simp[aE]
theorem ahh(a:List Nat)(r i:Nat):qi a r (i+1)=qi a r i++[xu a r i]:=by simp[qi,List.range_succ]
theorem ae0{a:List Nat}(ha:Lb a){n:Nat}(h1:a.length<=100000):∀ (k i:Nat),i+k=a.length->∀ (s:ap) (h:ae),s 0=lm a->s 1=I (n:Nat)->s 6=I i->Ha 51 (qi a (n%32) i) (s 5) (h 51)->
  ∃x hh,ak 0 [5] (av (am R (az false) gE) [0,1,5,6] [51] s h)=some (.normal,⟨upd bk 5 x,hh⟩)/\Ha 51 (qi a (n%32) a.length) x (hh 51)/\∀a,a≠51->hh a=.dead:=by
 intro k;induction k with
 |zero=>
  intro i hi s h h0 g1 h6 hacc;have:i=a.length:=ω
  subst this;rw[ah];rcases hacc with⟨g2,h5,hh⟩| ⟨g2,h5,hh⟩
  ·refine⟨.emp,?hh0,?_,Or.inl ⟨g2,rfl,?_⟩,?_⟩;rotate_left
   ·simp only[gE,go_sem,h0,g1,h5,h6,hh,aDl];rfl
   all_goals simp_all[cB,if_false]
  ·refine⟨.rsl 51 none 1 0 (qi a (n%32) a.length).length,?hh1,?_,Or.inr ⟨g2,rfl,?_⟩,?_⟩;rotate_left
   ·simp only[gE,go_sem,h0,g1,h5,h6,hh,aDl];rfl
   all_goals simp_all[cB,if_false]
 |succ k ih=>
  intro i hi s h h0 g1 h6 hacc;have ih':=ih (i+1) ω;have hx:=bZ ha i;have hy:=bZ ha (i+1);have hr:n%32<32:=aDj _ ω;have e1:((i:Int)< (a.length:Int))=True:=tt;have e2:aZ (aE a) (i:Int)=some (.ipt [U (a.getD i 0:Nat)]):=bI rfl ω;have e3:aG ((i:Int)+1)=((i+1:Nat):Int):=wi;have e4:IntKind.u64.wrap (a.getD i 0:Int)=(a.getD i 0:Int):=dG rfl ω;have e5:=Fb (n:=n) (m:=32) (j:=32) rfl rfl ω;have e5':IntKind.u64.wrap ((n%32:Nat):Int)=((n%32:Nat):Int):=dG rfl ω;have q1:((qi a (n%32) i).length+1)*4<=140737488355328:=by grind[zS]
  have f3:=tt q1;have hlt:∀w:Nat,w<18446744073709551616->w/2^ (n%32)<18446744073709551616:=fun w hw=>aDe (Nat.div_le_self _ _) hw;rw[ah];rw[ahh]at ih';generalize av _ _ _=L at ih'⊢;by_cases hl:i+1<a.length
  ·have f1:(((i+1:Nat):Int)< (a.length:Int))=True:=tt;have f2:aZ (aE a) ((i+1:Nat):Int)=some (.ipt [U (a.getD (i+1) 0:Nat)]):=bI rfl hl;have f5:IntKind.u64.wrap (a.getD (i+1) 0:Int)=(a.getD (i+1) 0:Int):=dG rfl ω;have f6:=G5 (n:=a.getD (i+1) 0) (k:=32) (kk:=.u64) (j:=32) rfl rfl ω ω;have f7:=Pd (m:=a.getD i 0) (n:=a.getD (i+1) 0*2^32) rfl rfl ω ω;rw[Nat.or_comm,Gb hx,show a.getD (i+1) 0*2^32+a.getD i 0=a.getD i 0+4294967296*a.getD (i+1) 0 by omega]at f7;have f8:=qE (n:=a.getD i 0+4294967296*a.getD (i+1) 0) (k:=n%32) (kk:=.u64) (j:=((n%32:Nat):Int)) rfl rfl ω;have f9:=zX (n:=(a.getD i 0+4294967296*a.getD (i+1) 0)/2^ (n%32)) rfl (hlt _ ω);rw[show(a.getD i 0+4294967296*a.getD (i+1) 0)/2^ (n%32) %4294967296=xu a (n%32) i from rfl]at f9;have f10:IntKind.u32.wrap ((xu a (n%32) i:Nat):Int)=((xu a (n%32) i:Nat):Int):=CG rfl (aDj _ ω);rcases hacc with⟨g2,h5,hh⟩| ⟨g2,h5,hh⟩
   ·simp only[gE,go_sem,h0,g1,h5,h6,hh,e1,e2,e3,e4,e5,e5',f1,f2,f5,f6,f7,f8,f9,f10];rw[g2]at ih';exact ih' _ _ rfl rfl rfl De
   ·simp only[gE,go_sem,h0,g1,h5,h6,hh,e1,e2,e3,e4,e5,e5',f1,f2,f3,f5,f6,f7,f8,f9,f10,true_or,aCI,aCJ,xM];exact ih' _ _ rfl rfl rfl AL
  ·have f1:(((i+1:Nat):Int)< (a.length:Int))=False:=ff;have hz:a.getD (i+1) 0=0:=by
    grind
   have f8:=qE (n:=a.getD i 0) (k:=n%32) (kk:=.u64) (j:=((n%32:Nat):Int)) rfl rfl ω;have f9:=zX (n:=a.getD i 0/2^ (n%32)) rfl (hlt _ ω);rw[show a.getD i 0/2^ (n%32) %4294967296=xu a (n%32) i by simp_all[xu,Nat.mul_zero,aDm]]at f9;have f10:IntKind.u32.wrap ((xu a (n%32) i:Nat):Int)=((xu a (n%32) i:Nat):Int):=CG rfl (aDj _ ω);rcases hacc with⟨g2,h5,hh⟩| ⟨g2,h5,hh⟩
   ·simp only[gE,go_sem,h0,g1,h5,h6,hh,e1,e2,e3,e4,e5,e5',f1,f8,f9,f10];rw[g2]at ih';exact ih' _ _ rfl rfl rfl De
   ·simp only[gE,go_sem,h0,g1,h5,h6,hh,e1,e2,e3,e4,e5,e5',f1,f3,f8,f9,f10,true_or,aCI,aCJ,xM];exact ih' _ _ rfl rfl rfl AL
theorem JK(m:List Nat):(aE m).take m.length=aE m:=by
 simp_all[aCX,MJ,aCJ]
theorem ahj{a:List Nat}(ha:Lb a)(h1:a.length<=10000)(hn:n<=1000000):R fdr [lm a,I n] []=some (lm (aA (ab a/2^n)),[]):=by
 refine au aaY rfl ?_;have e1:=Fc (n:=n) (m:=32) (j:=32) rfl rfl ω ω;by_cases hq:a.length<=n/32
 ·have e2:((a.length:Int)<=((n/32:Nat):Int))=True:=tt;have hz:ab a/2^n=0:=by
   rw[←Ba n,←Nat.div_div_eq_div_mul,←AH ha,List.drop_of_length_le hq];exact Nat.zero_div _
  rw[hz,go];simp only[B0,HE,go_sem,e1,e2]
 ·have e2:((a.length:Int)<=((n/32:Nat):Int))=False:=ff;have e3:fA 1 (lm a) (some (I (n/32:Nat))) none none=some (lm (a.drop (n/32))):=by
   rw[Lx (a:=n/32) (b:=a.length) (xr rfl ω) rfl (aCJ _),aCX γ]
  have hd:=lZ ha (n/32);have hl:(a.drop (n/32)).length<=10000:=γ
  have hv:ab a/2^n=ab (a.drop (n/32))/2^ (n%32):=by
   rw[AH ha,Nat.div_div_eq_div_mul,Ba]
  rw[hv];have hr:=ae0 hd (n:=n) ω (a.drop (n/32)).length 0 (aCI _);have hall:=Yn hd (r:=n%32) ω;have hL:=zS (a.drop (n/32)) (n%32) (a.drop (n/32)).length;have hLb:Lb (qi (a.drop (n/32)) (n%32) (a.drop (n/32)).length):=by
   grind[ni]
  have hvv:ab (qi (a.drop (n/32)) (n%32) (a.drop (n/32)).length)=ab (a.drop (n/32))/2^ (n%32):=by
   rw[hall,l6,aDq];exact aDe (Nat.div_le_self _ _) (di hd)
  generalize a.drop (n/32)=m at e3 hd hl hr hall hL hLb hvv⊢;have ht:=Dd hLb ω;rw[hvv]at ht;have q0:Ha 51 (qi m (n%32) 0) .emp .dead:=Or.inl ⟨rfl,rfl,rfl⟩;generalize hLL:av (am R (az false) gE) [0,1,5,6] [51]=L at hr;have hX:∀s h,am R (az false) (.loop [0,1,5,6] [51] gE) s h=L s h:=fun s h=>by rw[←hLL];rfl
  generalize qi m (n%32) m.length=out at hr hall hL hLb hvv ht;have hr2:∀ (S:ap) (H:ae) (X:Option (Ex×St)),ak 0 [5] (L S H)=X->S 0=lm m->S 1=I n->S 6=I 0->S 5=.emp->H 51=.dead->∃x hh,X=some (.normal,⟨upd bk 5 x,hh⟩)/\Ha 51 out x (hh 51)/\∀a,a≠51->hh a=.dead:=fun S H X hX a0 a1 a6 a5 b=>by
   rw[←hX];exact hr S H a0 a1 a6 γ
  simp only[B0,HE,hX,go_sem,e1,e2,e3];generalize hB:ak 0 [5] (L _ _)=X;obtain⟨x,hh,g0,hacc,gd⟩:=hr2 _ _ _ hB rfl rfl rfl rfl rfl;rw[g0];rcases hacc with⟨c1,c2,c3⟩| ⟨c1,c2,c3⟩
  ·rw[c1]at ht;simp only[go_sem,c2,ht,ne_eq,not_false_eq_true,gd]
  ·simp only[go_sem,c2,c3,ht,ne_eq,not_false_eq_true,gd,JK,aCI,aCJ]
end Go.Ab
