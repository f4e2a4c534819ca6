/-
  A law of models holds at every input that the statement speaks of, under the conditions that its card names. Part D1.
-/
import Derived.IntWalk
import Derived.Test.YtdhfcpbpdmmphaaGreatDoorC1
open Nat renaming add_mul → ayA, add_zero → ayF, div_add_mod → ay4, le_refl → ayd, le_trans → ayj, lt_of_le_of_lt → ayS, lt_of_lt_of_le → ay8, min_eq_left → ay0, mod_eq_of_lt → ayV, mod_lt → ayI, mul_assoc → ayD, mul_comm → ayy, mul_le_mul_left → ay7, mul_le_mul_right → aym, pow_add → ayn, pow_le_pow_right → ayP, pow_succ → ayZ, reduceSub → ayG, two_pow_pos → ayr, zero_add → ayc, zero_le → ayB
open Int renaming eq_ofNat_of_zero_le → aze, lt_irrefl → ay6, natCast_zero → ayO, reduceEq → ayH, reduceLE → ayN, reduceLT → ayz, reduceToNat → ayE, toNat_natCast → ayk
open Bool renaming and_eq_true → ayf, and_false → ay1, false_and → ayh, false_eq_true → aza, false_ne_true → ayl, true_and → ayg, true_or → ay9
open List renaming all_cons → ayJ, append_assoc → ayX, append_nil → ayp, cons_append → ayW, drop_eq_getElem_cons → ayv, drop_eq_nil_of_le → ayw, drop_zero → azb, getElem_mem → ayC, length_cons → ayL, length_nil → ayR, length_replicate → azc, length_take → ayo, map_congr_left → ayM, map_id' → ayY, mem_map → ay2, nil_append → ayq, replicate → aya, take_length → aEf, take_of_length_le → ayt
open Option renaming bind_some → ayi, map_some → ayT
set_option linter.all false
namespace Go.Ab
open Go Go.IntWalk
set_option maxRecDepth 4000
set_option maxHeartbeats 1000000
def aB(m:List Nat):List (List AV):=m.map fun(x:Nat)=>[U x]
def lm(m:List Nat):AV:=.sl 1 (aB m)
theorem Df(m):(aB m).length=m.length:=by simp[aB]
@[go_sem] theorem Ep(l:List (List AV)):l.map (dQ [])=l:=(ayM (g:=fun c=>c) fun c _=>Vs c).trans (ayY _)
@[go_sem] theorem as8(hs m):gD hs (lm m)=lm m:=θ _
@[go_sem] theorem ars(hs m):knownL hs (lm m)=true:=θ _
@[go_sem] theorem apu(hs m):jG hs (lm m)=true:=θ _
@[go_sem] theorem axx(ks m):tN ks (lm m)=lm m:=θ _
@[go_sem] theorem avy(ks m):rz ks (lm m)=false:=θ _
@[go_sem] theorem avz(ks m):FR ks (lm m)=false:=θ _
@[go_sem] theorem axy(m):qB false (lm m)=some (I m.length):=by simp[lm,qB,aB]
@[go_sem] theorem avA(m k i):xc 1 (lm m) (.v (.int k i))=aX (aB m) i:=by simp[lm,xc]
@[go_sem] theorem ajF(k ss m):nrmV (.o (k+1) []::ss) (lm m)=lm m:=by simp[lm,nrmV,nrmL,Ep]
@[go_sem] theorem as9(k cs ss m):nrmV (.o (k+1) [.o 0 cs]::ss) (lm m)=lm m:=by
 simp_all[aB,dQ,ayM,ayY,nrmL,lm,nrmV]
@[go_sem] theorem avB(k m):nrmL (.o (k+1) []) (lm m)=lm m:=by simp[lm,nrmL,Ep]
@[go_sem] theorem avC(h m):rG h (lm m)=some (lm m):=θ _
@[go_sem] theorem ata(h m l):mr h (lm m::l)=(mr h l).bind fun q=>some (lm m::q):=θ _
@[go_sem] theorem avD(m):cf (lm m)=[]:=θ _
@[go_sem] theorem avE(m):fI (lm m)=[]:=θ _
@[go_sem] theorem axz(m):dat (lm m)=true:=θ _
@[go_sem] theorem avF(m):aE (lm m)=true:=θ _
@[go_sem] theorem atb(m):bt (lm m)=false:=θ _
@[go_sem] theorem atc(m):il (lm m)=some [lm m]:=θ _
@[go_sem] theorem avG(h m):fP h (lm m)=some (lm m,h,[]):=θ _
@[go_sem] theorem atd(h m):dC h 0 (lm m)=some (lm m,h,[]):=θ _
@[go_sem] theorem ate(id p m):Bx id p (lm m)=lm m:=θ _
@[go_sem] theorem atf(h d m):ll h d (some (lm m,[]))=if cA h (2000+8*d) 1=true then some (lm m,h,[])else none:=ag3 h d 1 (aB m)
@[go_sem] theorem axA(m):AV.sl 1 (aB m)=lm m:=θ _
@[go_sem] theorem atg(p)(a):kR (List.filter p [a])=true:=by
 simp only[List.filter];split<;>rfl
@[go_sem] theorem QG(m):(aB m).length=m.length:=by simp[aB]
@[go_sem] theorem amm:AV.sl 1 []=lm []:=θ _
@[go_sem] theorem art(cs ss):nrmV (.o 2 cs::ss) .emp=lm []:=by simp[nrmV,nrmL,lm,aB]
@[go_sem] theorem aru(cs):nrmL (.o 2 cs) .emp=lm []:=by simp[nrmL,lm,aB]
@[go_sem] theorem avH(k ss m):nrmV (.o (k+1) []::ss) (.sl 1 (aB m))=lm m:=ajF k ss m
@[go_sem] theorem ath(k ss m):nrmV (.o (k+1) []::ss) (.osl 1 (aB m))=lm m:=by simp[lm,nrmV,nrmL,Ep]
theorem bv{m}{i:Int}{n:Nat}(hi:i=n)(h:n<m.length):aX (aB m) i=some (.ipt [U (m.getD n 0)]):=by
 grind[aX,aB]
theorem kC{m}{n}(h:n<m.length):(aB m)[n]?=some [U (m.getD n 0)]:=by
 grind[aB]
theorem Wk(m)(n):(aB m).take n=aB (m.take n):=by simp[aB,List.map_take]
theorem aha(m)(n):(aB m).drop n=aB (m.drop n):=by simp[aB,List.map_drop]
theorem Dg(m l):aB m++aB l=aB (m++l):=by simp[aB]
theorem oO(m)(n x):(aB m).set n [U (x:Nat)]=aB (m.set n x):=by simp[aB,List.map_set]
theorem Ba(n):aya n [AV.v (.int .u32 0)]=aB (aya n 0):=by simp[aB]
theorem J2{m}{lo hi}{a b}(hlo:jW 0 b lo=some a)(hhi:jW m.length m.length hi=some b)(_hb:b<=m.length):eA 1 (lm m) lo hi none=some (lm ((m.drop a).take (b-a))):=by
 simp_all[lm,eA,j8,Df,if_true,ayi,ayT,I7,aza,if_false,Wk,aha]
theorem Ns(d n):jW d n none=some d:=θ _
theorem uU{d n}{k}{i:Int}{a:Nat}(hi:i=a)(h:a<=n):jW d n (some (.v (.int k i)))=some a:=by
 grind[jW]
theorem QH{f}{fd}{args}{r}(hE:cK.E f=none)(hC:cK.C f=some fd)(hk:cK.md.keep f=false)(h1:args.length=fd.np)
  (hz:ip false fd.rs fd.res 0 (aj R (az false) fd.body (uw args) (fun _=>.dead))=some r):R f args []=some r:=by
 simp_all[OS,ayB,abX]
theorem au{f:FuncId}{l:List (List Sh)}{fd:FD}{args:List AV}{r:AV×List Ob}(q:QE f l fd)(h1:args.length=fd.np)
  (hz:ip false fd.rs fd.res 0 (aj R (az false) fd.body (uw args) (fun _=>.dead))=some r):R f args []=some r:=QH q.2.1 q.2.2 (q.1.2.2.2 false) h1 hz
noncomputable def oQ (k:Nat) (g:Bool):Cmd:=.seq (.ops [0,1,7,8,9] [co 9 (.bin .lss (.t 8) (.t 7))]) (.seq (.cond (.t 9) (.skip) (.exit 0)) (.seq (.block 1 [0,1,7,8] (.seq (.ops [0,1,5,7,8] [cm 10 8,cm 5 10]) (.seq (.ops [0,1,5,7,8,16] [cm 11 1,cm 12 0,cm 13 5,co 14 (.iadrS k (.t 12) (.t 13)),⟨(some 15),none,.load k g (.t 14)⟩,⟨(some 16),none,.call (.t 11) [(.t 15)]⟩]) (.cond (.t 16) (.seq (.ops [4] [cm 17 5,cm 4 17]) (.ret)) (.skip))))) (.ops [0,1,7,8] [co 18 (.bin .add (.t 8) (.c (.v (.int .i64 1)))),cm 8 18])))
noncomputable def lC:Cmd:=.seq (.ops [4] [co 4 (.mv (.c (.v (.int .i64 (-1)))))]) (.ret)
def wW{α:Type}(p:α->Bool):List α->Nat->Int
 |[],_=>-1
 |r::rs,n=>if p r=true then n else wW p rs (n+1)
theorem HT{α}(p):∀ (l:List α) n,decide (0<=wW p l n)=l.any p
 |[],n=>rfl
 |r::rs,n=>by
  simp only[wW,List.any_cons];by_cases h:p r=true
  ·simp[h]
  ·simp[h,HT p rs (n+1)]
theorem ahb{k}{g}{f}{rows}{p}{hs}(hhs:hs=[]\/hs=[1000])(hm:(az false).m f=[])(hl:rows.length<4611686018427387904)
  (hf:∀row∈rows,∃a,kH k g row 0=some a/\dat a=true/\R f (bp ((az false).sh f) [a]) []=some (B (p row),[])):∀rest (n:Nat),rows.drop n=rest->n<=rows.length->
  ∀s h,s 0=.sl k rows->s 1=.fn f [] []->s 7=I rows.length->s 8=I n->h 1000=.dead->
   ∃hh,cu (ai 0 [] (ax (aj R (az false) (oQ k g)) [0,1,7,8] hs s h)) (aj R (az false) lC)=some (.ret,⟨upd (fun _=>.any) 4 (I (wW p rest n)),hh⟩):=by
 intro rest;induction rest with
 |nil=>
  intro n hd hn s h h0 h1 h7 h8 h9;have e:n=rows.length:=by
   have:=congrArg List.length hd;grind
  subst e;rw[ag];rcases hhs with rfl|rfl<;>exact⟨_,by simp only[oQ,lC,go_sem,h0,h1,h7,h8,h9,ay6,wW];rfl⟩
 |cons r rest ih=>
  intro n hd hn s h h0 h1 h7 h8 h9;have hlt:n<rows.length:=by
   grind
  have hr:rows[n]?=some r:=by
   have:=congrArg (·[0]?) hd;grind
  obtain⟨a,ha,hda,hc⟩:=hf r (List.mem_of_getElem? hr);have ih':=ih (n+1) (by rw[←List.drop_drop,hd];rfl) hlt;have e1:(n< (rows.length:Int))=True:=eq_true ω;have e2:aX rows n=some (.ipt r):=by grind[aX]
  have e3:IntKind.i64.wrap (n+1)=(n+1:Nat):=by grind[i64_in]
  rw[ag];generalize ax _ _ _=L at ih'⊢;rcases hhs with rfl|rfl
  all_goals
   simp only[oQ,go_sem,h0,h1,h7,h8,h9,e1,e2,ha,yB _ hm,hda,hc,wW];cases hp:p r with
   |true=>exact⟨_,by simp only[go_sem];rfl⟩
   |false=>
    simp only[go_sem,e3,ayl];exact ih' _ _ rfl rfl rfl rfl rfl
theorem Wl{fi}{fd}{k}{g}{hs}(hE:cK.E fi=none)(hC:cK.C fi=some fd)(hk:cK.md.keep fi=false)
  (hfd:fd=⟨2,[[]],[.t 4],.seq (.ops [0,1] [co 4 (.mv (.c (.v (.int .i64 0))))]) (.seq (.seq (.ops [0,1,7,8] [cm 6 0,co 7 (.len false (.t 6)),co 8 (.mv (.c (.v (.int .i64 0))))]) (.block 0 [] (.loop [0,1,7,8] hs (oQ k g)))) lC)⟩)
  {f} {rows} {p} (hm:(az false).m f=[]) (hl:rows.length<4611686018427387904)
  (hf:∀row∈rows,∃a,kH k g row 0=some a/\dat a=true/\R f (bp ((az false).sh f) [a]) []=some (B (p row),[])) (hhs:hs=[]\/hs=[1000]:=by simp):R fi [.sl k rows,.fn f [] []] []=some (I (wW p rows 0),[]):=by
 subst hfd;refine QH hE hC hk rfl ?_;have hL:=ahb (k:=k) (g:=g) hhs hm hl hf rows 0 rfl (ayB _);simp only[go_sem,abW];have hL2:∀S H X,cu (ai 0 [] (ax (aj R (az false) (oQ k g)) [0,1,7,8] hs S H)) (aj R (az false) lC)=X->S 0=.sl k rows->S 1=.fn f [] []->S 7=I rows.length->S 8=I 0->H 1000=.dead->
   ∃hh,X=some (.ret,⟨upd (fun _=>.any) 4 (I (wW p rows 0)),hh⟩):=fun S H X hX a b c d e=>by
  rw[←hX];exact hL S H a b c d e
 generalize hX:cu (ai 0 [] (ax _ _ hs _ _)) (aj R (az false) lC)=X;obtain⟨hh,e⟩:=hL2 _ _ _ hX rfl rfl rfl rfl rfl;rw[e];simp only[go_sem]
noncomputable def J3 (fi:FuncId):FD:=⟨2,[[]],[.t 4],.seq (.ops [0,1] [co 4 (.mv (.c (.v (.bool false))))]) (.seq (.ops [4] [cm 5 0,cm 6 1,⟨(some 7),none,.call (.c (.fn fi [] [])) [(.t 5),(.t 6)]⟩,co 8 (.bin .geq (.t 7) (.c (.v (.int .i64 0)))),cm 4 8]) (.ret))⟩
theorem QI{ci fi}{fd}{k}(hE:cK.E ci=none)(hC:cK.C ci=some fd)(hk:cK.md.keep ci=false)(hfd:fd=J3 fi)(hm:(az false).m fi=[]){cs}(hsh:(az false).sh fi=[[.o (k+1) cs],[]])
  {rows} {f} {p} (hr:rows.map (dQ cs)=rows) (h:R fi [.sl k rows,.fn f [] []] []=some (I (wW p rows 0),[])):R ci [.sl k rows,.fn f [] []] []=some (B (rows.any p),[]):=by
 subst hfd;refine QH hE hC hk rfl ?_;simp only[J3,go_sem,yB _ hm,hsh,hr,h,ag1,HT]
theorem dK{i:Int}{n:Nat}(h:i=n)(hn:n<18446744073709551616):IntKind.u64.wrap i=n:=by rw[u64_in]<;>omega
theorem Cb{i:Int}{n:Nat}(h:i=n)(hn:n<4294967296):IntKind.u32.wrap i=n:=by rw[u32_in]<;>omega
theorem wi{i:Int}{n:Nat}(h:i=n:=by omega)(hn:n<9223372036854775808:=by omega):IntKind.i64.wrap i=n:=by rw[i64_in]<;>omega
theorem HU{i:Int}{n:Nat}(h:i=n):IntKind.u32.wrap i=(n%4294967296:Nat):=by grind[IntKind.wrap_u32]
theorem qz{i:Int}{n k:Nat}{kk}{j:Int}(h:i=n)(hj:j=k)(hk:k<=64):dU .shr (.v (.int .u64 i)) (.v (.int kk j))=some (.v (.int .u64 (n/2^k:Nat))):=by
 simp_all[Gu,if_neg,IntKind.bits,Option.some.injEq,AV.v.injEq,Value.int.injEq,true_and,Int.fdiv_eq_ediv_of_nonneg,Int.pow_nonneg]
theorem Nu{x y c:Nat}(hx:x<4294967296)(hy:y<4294967296)(hc:c<=1):R faa [U x,U y,U c] []=some (.tup [U (((x+y+c) %4294967296:Nat)),U (((x+y+c)/4294967296:Nat))],[]):=by
 refine au Wg rfl ?_;have e1:IntKind.u64.wrap x=x:=dK rfl ω;have e2:IntKind.u64.wrap y=y:=dK rfl ω;have e3:IntKind.u64.wrap c=c:=dK rfl ω;have e4:IntKind.u64.wrap (x+y)=(x+y:Nat):=dK ω ω;have e5:IntKind.u64.wrap ((x+y:Nat)+c)=(x+y+c:Nat):=dK ω ω;have e6:IntKind.u32.wrap (x+y+c:Nat)=((x+y+c) %4294967296:Nat):=HU rfl;have e7:=qz (n:=x+y+c) (k:=32) (kk:=.u64) (j:=32) rfl rfl ω;have e8:IntKind.u32.wrap ((x+y+c)/2^32:Nat)=((x+y+c)/4294967296:Nat):=Cb rfl ω;simp only[CM,JR,go_sem,e1,e2,e3,e4,e5,e6,e7,e8]
theorem ajG{k}{n}(h:n≠0):I7 (some (.v (.int k n)))=false:=by
 simp_all[I7,absurd]
theorem ajH{m}(h:m.length≠0):eA 1 (lm m) none (some (I m.length)) (some (I m.length))=some (lm m):=by
 have hz:I7 (some (I m.length))=false:=ajG ω;have h1:jW m.length m.length (some (I m.length))=some m.length:=uU rfl (ayd _)
 simp_all[eA,lm,Df,j8,Ns,if_true,ayi,ayT,aza,if_false,azb,Nat.sub_zero,Wk,aEf]
theorem QJ(m):R fdE [lm m] []=some (lm m,[]):=by
 refine au A9 rfl ?_;by_cases h:m.length=0
 ·have:=List.length_eq_zero_iff.1 h;subst this;rfl
 ·simp only[jT,qV,go_sem,ajH h]
theorem Sv(m)(h2:m.length<4611686018427387904):∀ (n:Nat),n<=m.length->∀s h,s 0=lm m->s 3=I n->
  ai 0 [0,3] (ax (aj R (az false) l7) [0,3] [] s h)=some (.normal,⟨upd (upd (fun _=>.any) 3 (I (mJ m n))) 0 (lm m),fun _=>.dead⟩):=by
 intro n;induction n with
 |zero=>
  intro h1 s h h3 h4;rw[ag];simp only[l7,go_sem,h3,h4,mJ,ayO,ay6]
 |succ n ih=>
  intro h1 s h h3 h4;have hn:=h1;have e3:IntKind.i64.wrap (n+1-1)=n:=wi ω ω;have e1:=bv rfl hn;have e2:(0< (n:Int)+1)=True:=eq_true ω;have ih':=ih ω;rw[ag];by_cases hz:m.getD n 0=0
  ·simp only[l7,go_sem,h3,h4,mJ,Int.natCast_add,Int.natCast_one,e3,e1,e2,hz,ayO];exact ih' _ _ rfl rfl
  ·simp only[l7,go_sem,h3,h4,mJ,Int.natCast_add,Int.natCast_one,e3,e1,e2,hz,Int.natCast_eq_zero]
theorem dB{m}(hb:Lb m)(h:m.length<4611686018427387904):R fch [lm m] []=some (lm (av (ab m)),[]):=by
 refine au Qx rfl ?_;have h1:eA 1 (lm m) none (some (I (mJ m m.length))) none=some (lm (av (ab m))):=by
  rw[J2 (a:=0) (b:=mJ m m.length) rfl (uU rfl (Eg _ _)) (Eg _ _),azb,Nat.sub_zero,M6 hb]
 simp only[zX,GF,go_sem,Sv m h m.length (ayd _),h1]
def llm(l:List (List Nat)):AV:=.sl 1 (l.map fun m=>[lm m])
theorem ajI(l:List (List Nat))(cs):(l.map fun m=>[lm m]).map (dQ [.o 2 cs])=l.map fun m=>[nrmL (.o 2 cs) (lm m)]:=by
 simp[List.map_map,dQ]
theorem aef(m):R fca [lm m] []=some (B (decide (256<m.length)),[]):=by
 refine au Em rfl ?_;have e:decide (256< (m.length:Int))=decide (256<m.length):=γ
 simp only[wR,Ec,go_sem,e]
theorem Zx{l}(hl:l.length<4611686018427387904):R fb9 [llm l] []=some (B (l.any fun m=>decide (256<m.length)),[]):=by
 refine au Qv rfl ?_
 let p:List AV->Bool:=fun row=>match row with|[.sl _ rows]=>decide (256<rows.length)|_=>false
 have hp:∀m,p [lm m]=decide (256<m.length):=fun m=>by grind[lm,Df]
 have hn:(l.map fun m=>[lm m]).map (dQ [.o 2 []])=l.map fun m=>[lm m]:=by
  rw[ajI];simp only[go_sem]
 have h1:=Wl (k:=1) (g:=false) (f:=fca) (rows:=l.map fun m=>[lm m]) (p:=p) di.2.1 di.2.2 (di.1.2.2.2 false) rfl (Em.1.2.1 false) γ (fun row hr=>by
  simp only[ay2]at hr;obtain⟨m,hm,rfl⟩:=hr;refine⟨lm m,rfl,rfl,?_⟩;simp only[go_sem,aef,hp])
 have h2:=QI (k:=1) dH.2.1 dH.2.2 (dH.1.2.2.2 false) rfl (di.1.2.1 false) (di.1.1 false) hn h1;have h3:(l.map fun m=>[lm m]).any p=l.any fun m=>decide (256<m.length):=by
  rw[List.any_map];congr 1;funext m
  simp_all
 rw[h3]at h2;simp only[zW,GE,llm,go_sem,yB _ (dH.1.2.1 false),hn,h2]
theorem tt{p}(h:p:=by omega):p=True:=eq_true h
theorem ff{p}(h:¬p:=by omega):p=False:=eq_false h
theorem rY(a):R fb9 [.sl 1 [[lm a]]] []=some (B (decide (256<a.length)),[]):=by
 have:=Zx (l:=[a]) σ;grind[llm]
theorem uV(a b):R fb9 [.sl 1 [[lm a],[lm b]]] []=some (B (decide (256<a.length)||decide (256<b.length)),[]):=by
 have:=Zx (l:=[a,b]) σ;grind[llm]
def kL(n:Nat):AV:=if 256< (av n).length then .tup [lm [],I 9]else .tup [lm (av n),I 0]
theorem GR{m}(hb:Lb m)(h:m.length<4611686018427387904):R fb7 [lm m] []=some (kL (ab m),[]):=by
 refine au Qw rfl ?_;by_cases hl:256< (av (ab m)).length
 ·simp only[tZ,AU,kL,go_sem,dB hb h,rY,hl]
 ·simp only[tZ,AU,kL,go_sem,dB hb h,rY,hl,QJ]
theorem IZ{a:List Nat}{i}(h:i<a.length):ab (a.take (i+1))=ab (a.take i)+4294967296^i*a.getD i 0:=by
 grind[List.take_add_one,dZ,ayo,ay0,ab]
theorem Y4{a:List Nat}{i}(h:a.length<=i):ab (a.take (i+1))=ab (a.take i)+4294967296^i*a.getD i 0:=by
 grind[ayt]
theorem eK(a:List Nat)(i):ab (a.take (i+1))=ab (a.take i)+4294967296^i*a.getD i 0:=by
 grind[IZ,Y4]
def Zy(n i:Nat):Nat:=n/4294967296^i%4294967296
theorem ahc{k n i}(h:i<k):(dE k n)[i]?=some (Zy n i):=by
 induction k generalizing n i with
 |zero=>omega
 |succ k ih=>
  cases i with
  |zero=>simp[dE,Zy]
  |succ i=>
   grind[dE,Zy,ayZ,ayy,Nat.div_div_eq_div_mul]
theorem Wm{k n}{l}(hl:l.length=k)(h:∀i,i<k->l.getD i 0=Zy n i):l=dE k n:=by
 refine List.ext_getElem? fun i=>?_;rcases Nat.lt_or_ge i k with hi|hi
 ·simp_all[ahc,congrArg]
 grind[cT]
def ez(a b:List Nat):Nat->Nat
 |0=>0
 |i+1=>(a.getD i 0+b.getD i 0+ez a b i)/4294967296
def Gh(a b:List Nat)(i:Nat):Nat:=(a.getD i 0+b.getD i 0+ez a b i) %4294967296
theorem Es{a b}(ha:Lb a)(hb:Lb b):∀i,ez a b i<=1
 |0=>by simp[ez]
 |i+1=>by
  have h1:=bO ha i;have h2:=bO hb i;have h3:=Es ha hb i;simp only[ez];omega
def dj(a b:List Nat)(i:Nat):List Nat:=(List.range i).map (Gh a b)
theorem Et(f)(i):ab ((List.range (i+1)).map f)=ab ((List.range i).map f)+4294967296^i*f i:=by
 rw[List.range_succ,List.map_append,dZ];simp[ab]
theorem HV(a b):∀i,ab (dj a b i)+4294967296^i*ez a b i=ab (a.take i)+ab (b.take i)
 |0=>by simp[dj,ez,ab]
 |i+1=>by
  have ih:=HV a b i;rw[eK a i,eK b i];simp only[dj]at ih⊢;rw[Et,ayZ];have e:ez a b (i+1)*4294967296+Gh a b i=a.getD i 0+b.getD i 0+ez a b i:=by
   grind[ez,Gh]
  grind
theorem jh(a b)(i):(dj a b i).length=i:=by simp[dj]
theorem QK(a b)(i):Lb (dj a b i):=fun x hx=>by
 simp only[dj,ay2]at hx;obtain⟨j,_,rfl⟩:=hx;simp only[Gh];omega
theorem ahd{a b}(ha:Lb a)(hb:Lb b)(hl:b.length<=a.length):dj a b a.length++[ez a b a.length]=dE (a.length+1) (ab a+ab b):=by
 have h:=HV a b a.length;rw[aEf,ayt hl]at h;have h1:Lb (dj a b a.length++[ez a b a.length]):=pC.2 ⟨QK _ _ _,iT.2 ⟨by grind[Es],JU⟩⟩;have h2:ab (dj a b a.length++[ez a b a.length])=ab a+ab b:=by
  grind[dZ,jh,ab]
 have:=HO h1;grind[jh]
theorem Wn{α:Type}(l)(n)(x z:α)(h:0<n):(l++aya n z).set l.length x=(l++[x])++aya (n-1) z:=by
 obtain⟨n,rfl⟩:∃m,n=m+1:=⟨n-1,by omega⟩;grind
theorem ahe{a b}(ha:Lb a)(hb:Lb b)(_hl:b.length<=a.length)(h2:a.length<4611686018427387904):∀k i,i+k=a.length->∀s h,s 0=lm a->s 1=lm b->s 5=.rsl 20 none 1 0 (a.length+1)->s 6=U (ez a b i)->
  s 21=lm a->s 22=I a.length->s 23=I i->h 20=.ar 1 (aB (dj a b i++aya (k+1) 0))->
  ai 0 [0,5,6] (ax (aj R (az false) kB) [0,1,5,6,21,22,23] [20] s h)=
   some (.normal,⟨upd (upd (upd (fun _=>.any) 6 (U (ez a b a.length))) 5 (.rsl 20 none 1 0 (a.length+1))) 0 (lm a),upd (fun _=>.dead) 20 (.ar 1 (aB (dj a b a.length++[0])))⟩):=by
 intro k;induction k with
 |zero=>
  intro i hi s h h0 h1 h5 h6 h21 h22 h23 hh;have:i=a.length:=ω
  subst this;rw[ag];simp only[kB,go_sem,h0,h1,h5,h6,h21,h22,h23,hh,ay6,List.contains_cons,BEq.rfl,ay9]
 |succ k ih=>
  intro i hi s h h0 h1 h5 h6 h21 h22 h23 hh;have ih':=ih (i+1) ω;have e1:((i:Int)< (a.length:Int))=True:=tt ω;have e2:aX (aB a) (i:Int)=some (.ipt [U (a.getD i 0:Nat)]):=bv rfl ω;have e3:IntKind.i64.wrap ((i:Int)+1)=((i+1:Nat):Int):=wi ω ω;have e4:(0<=(i:Int))=True:=tt ω;have e5:((i:Int)< ((a.length+1:Nat):Int))=True:=tt ω;have e6:=Nu (bO ha i) (bO hb i) (Es ha hb i);have e7:(aB (dj a b i++aya (k+1+1) 0))[i]?=some [U (0:Nat)]:=by
   grind[kC,jh]
  have e8:(aB (dj a b i++aya (k+1+1) 0)).set i [U ((a.getD i 0+b.getD i 0+ez a b i) %4294967296:Nat)]=aB (dj a b (i+1)++aya (k+1) 0):=by
   rw[oO];grind[ez,Gh,dj,List.range_succ]
  rw[ag];by_cases hb':i<b.length
  ·have e9:((i:Int)< (b.length:Int))=True:=tt ω;have e10:aX (aB b) (i:Int)=some (.ipt [U (b.getD i 0:Nat)]):=bv rfl hb';simp only[kB,go_sem,h0,h1,h5,h6,h21,h22,h23,hh,List.contains_cons,BEq.rfl,ay9,e1,e2,e3,e4,e5,e6,e7,e8,e9,e10,ayk,ayc];exact ih' _ _ rfl rfl rfl rfl rfl rfl rfl rfl
  ·have e9:((i:Int)< (b.length:Int))=False:=ff ω;have e10:b.getD i 0=0:=γ
   have e6':=Nu (bO ha i) (y:=0) ω (Es ha hb i);simp only[ayO]at e6';have e8':(aB (dj a b i++aya (k+1+1) 0)).set i [U ((a.getD i 0+0+ez a b i) %4294967296:Nat)]=aB (dj a b (i+1)++aya (k+1) 0):=by
    grind
   simp only[kB,go_sem,h0,h1,h5,h6,h21,h22,h23,hh,List.contains_cons,BEq.rfl,ay9,e1,e2,e3,e4,e5,e7,e8',e9,ayk,ayc,e6'];refine ih' _ _ rfl rfl rfl ?_ rfl rfl rfl rfl;simp only[ez,e10];rfl
theorem rn{i j:Int}{l c:Nat}(hi:i=l)(hj:j=c)(h:l<=c)(hc:c<9223372036854775808):nU (I i) (I j)=some (l,c):=by
 simp only[nU];grind
noncomputable def Nv:Cmd:=.seq (.ops [0,1,5] [cm 17 0,co 18 (.len false (.t 17)),co 19 (.bin .add (.t 18) (.c (.v (.int .i64 1)))),⟨(some 20),none,.mkSl 1 [(.v (.int .u32 0))] 4 (.t 19) (.t 19)⟩,cm 5 20]) (.seq (.ops [0,1,5,6] [co 6 (.mv (.c (.v (.int .u32 0))))]) (.seq (.seq (.ops [0,1,5,6,21,22,23] [cm 21 0,co 22 (.len false (.t 21)),co 23 (.mv (.c (.v (.int .i64 0))))]) (.block 0 [0,5,6] (.loop [0,1,5,6,21,22,23] [20] kB))) (.seq (.ops [5] [cm 47 5,cm 48 0,co 49 (.len false (.t 48)),cm 50 6,co 51 (.iadrS 1 (.t 47) (.t 49)),⟨none,none,.store 1 (.t 51) (.t 50)⟩]) (.seq (.ops [4] [cm 52 5,cm 4 52]) (.ret)))))
theorem Wo{a b}(ha:Lb a)(hb:Lb b)(hl:b.length<=a.length)(h2:a.length<=100000):∀s,s 0=lm a->s 1=lm b->
  aj R (az false) Nv s (fun _=>.dead)=some (.ret,⟨upd (fun _=>.any) 4 (.rsl 20 none 1 0 (a.length+1)),upd (upd (fun _=>.dead) 20 (.ar 1 (aB (dj a b a.length++[0])))) 20 (.ar 1 (aB (dE (a.length+1) (ab a+ab b))))⟩):=by
 intro s h0 h1;have e1:IntKind.i64.wrap (a.length+1)=(a.length+1:Nat):=wi ω ω;have e2:=rn (i:=(a.length+1:Nat)) (j:=(a.length+1:Nat)) (l:=a.length+1) (c:=a.length+1) rfl rfl (ayd _) ω;have e3:((a.length+1)*4<=140737488355328)=True:=tt ω;have e4:=ahe ha hb hl ω a.length 0 ω;have e5:aB (aya (a.length+1) 0)=aB (dj a b 0++aya (a.length+1) 0):=rfl;have e6:(0<=(a.length:Int))=True:=tt ω;have e7:(a.length< ((a.length+1:Nat):Int))=True:=tt ω;have e8:(aB (dj a b a.length++[0]))[a.length]?=some [U 0]:=by
  grind[kC,jh]
 have e9:(aB (dj a b a.length++[0])).set a.length [U (ez a b a.length)]=aB (dE (a.length+1) (ab a+ab b)):=by
  rw[oO]
  simp_all[jh,aya,Nat.sub_self,List.replicate_zero,ayp,ahd]
 simp only[Nv,go_sem,h0,h1,e1,e2,e3,Ba,e5];rw[e4 _ _ rfl rfl rfl rfl rfl rfl rfl rfl];simp only[go_sem,e6,e7,e8,e9,ayk,ayc]
theorem Wp:IW=.seq (.ops [0,1] [co 4 (.mv (.c .emp))]) (.seq (.seq (.ops [0,1,14] [cm 10 0,co 11 (.len false (.t 10)),cm 12 1,co 13 (.len false (.t 12)),co 14 (.bin .lss (.t 11) (.t 13))]) (.cond (.t 14) (.ops [0,1] [cm 15 1,cm 16 0,cm 0 15,cm 1 16]) (.skip))) Nv):=rfl
theorem aeg{a b}(ha:Lb a)(hb:Lb b)(h1:a.length<=100000)(h2:b.length<=100000):R fb4 [lm a,lm b] []=some (lm (dE (max a.length b.length+1) (ab a+ab b)),[]):=by
 refine au Ua rfl ?_;by_cases h:a.length<b.length
 ·have e1:(a.length< (b.length:Int))=True:=tt ω;have e2:=Wo hb ha ω h2;simp only[wh,Wp,go_sem,e1];rw[e2 _ rfl rfl];simp only[go_sem,cT,ayc,ayd];grind
 ·have e1:(a.length< (b.length:Int))=False:=ff ω;have e2:=Wo ha hb ω h1;simp only[wh,Wp,go_sem,e1];rw[e2 _ rfl rfl];simp only[go_sem,cT,ayc,ayd];grind
theorem aeh{a b}(ha:Lb a)(hb:Lb b)(h1:a.length<=256)(h2:b.length<=256):R fbW [lm a,lm b] []=some (kL (ab a+ab b),[]):=by
 refine au T6 rfl ?_;have e1:(256<a.length)=False:=ff ω;have e2:(256<b.length)=False:=ff ω;have e3:ab (dE (max a.length b.length+1) (ab a+ab b))=ab a+ab b:=by
  rw[lP,ayV];have h1:=cI ha;have h2:=cI hb;have h3:4294967296^a.length<=4294967296^max a.length b.length:=ayP ω ω;have h4:4294967296^b.length<=4294967296^max a.length b.length:=ayP ω ω;omega
 have e4:=GR (oM (max a.length b.length+1) (ab a+ab b)) (by grind[cT]);rw[e3]at e4;unfold kL at e4⊢;by_cases hl:256< (av (ab a+ab b)).length
 ·simp only[hl,if_true]at e4⊢;simp only[vZ,CJ,go_sem,e1,e2,uV,aeg ha hb ω ω,e4]
 ·simp only[hl,if_false]at e4⊢;simp only[vZ,CJ,go_sem,e1,e2,uV,aeg ha hb ω ω,e4]
def cj(x y:Nat):Int:=if x<y then-1 else if y<x then 1 else 0
theorem rZ{x y}(h:(av x).length< (av y).length):x<y:=by
 have h1:=gA x;have hy:y≠0:=by grind[ft]
 have h2:=Ss hy;have h3:4294967296^ (av x).length<=4294967296^ ((av y).length-1):=ayP ω ω;omega
noncomputable def tD:Cmd:=.seq (.ops [4] [co 4 (.mv (.c (.v (.int .i64 0))))]) (.ret)
theorem ahf{a b}(ha:Lb a)(hb:Lb b)(hl:a.length=b.length)(h2:a.length<=100000):∀k,k<=a.length->∀s h,s 0=lm a->s 1=lm b->s 5=I (k-1)->
  cu (ai 0 [] (ax (aj R (az false) iK) [0,1,5] [] s h)) (aj R (az false) tD)=some (.ret,⟨upd (fun _=>.any) 4 (I (cj (ab (a.take k)) (ab (b.take k)))),fun _=>.dead⟩):=by
 intro k;induction k with
 |zero=>
  intro hk s h h0 h1 h5;rw[ag];have e1:(0<=((0:Nat):Int)-1)=False:=ff;have e2:cj (ab []) (ab [])=0:=rfl;simp only[iK,tD,go_sem,h0,h1,h5,e1,e2]
 |succ k ih=>
  intro hk s h h0 h1 h5;have ih':=ih ω;have e1:(0<=((k+1:Nat):Int)-1)=True:=tt;have e2:aX (aB a) ((k+1:Nat)-1)=some (.ipt [U (a.getD k 0)]):=bv ω ω;have e3:aX (aB b) ((k+1:Nat)-1)=some (.ipt [U (b.getD k 0)]):=bv ω ω;have e4:IntKind.i64.wrap ((k+1:Nat)-1-1)=k-1:=by grind[i64_in]
  have va:=eK a k;have vb:=eK b k;have la:=cI (fj ha k);have lb:=cI (fj hb k);rw[ayo,ay0 ω]at la lb;rw[ag];rcases Nat.lt_trichotomy (a.getD k 0) (b.getD k 0)with hlt|heq|hgt
  ·have e5:((a.getD k 0)< (b.getD k 0:Int))=True:=tt;have e6:cj (ab (a.take (k+1))) (ab (b.take (k+1)))=-1:=by
    have:4294967296^k*(a.getD k 0+1)<=4294967296^k*b.getD k 0:=ay7 _ hlt;rw[Nat.mul_add]at this;simp only[cj];omega
   simp only[iK,tD,go_sem,h0,h1,h5,e1,e2,e3,e5,e6]
  ·have e5:((a.getD k 0)< (b.getD k 0:Int))=False:=ff;have e7:((b.getD k 0)< (a.getD k 0:Int))=False:=ff;have e6:cj (ab (a.take (k+1))) (ab (b.take (k+1)))=cj (ab (a.take k)) (ab (b.take k)):=by
    grind[cj]
   simp only[iK,go_sem,h0,h1,h5,e1,e2,e3,e5,e6,e7,e4];exact ih' _ _ rfl rfl rfl
  ·have e5:((a.getD k 0:Int)< (b.getD k 0:Int))=False:=ff;have e7:((b.getD k 0:Int)< (a.getD k 0:Int))=True:=tt;have e6:cj (ab (a.take (k+1))) (ab (b.take (k+1)))=1:=by
    have:4294967296^k*(b.getD k 0+1)<=4294967296^k*a.getD k 0:=ay7 _ hgt;rw[Nat.mul_add]at this;simp only[cj];omega
   simp only[iK,tD,go_sem,h0,h1,h5,e1,e2,e3,e5,e6,e7]
theorem Nw:IS=.seq (.ops [0,1] [co 4 (.mv (.c (.v (.int .i64 0))))]) (.seq (.ops [0,1] [cm 6 0,⟨(some 7),none,.call (.c (.fn fch [] [])) [(.t 6)]⟩,cm 8 1,⟨(some 9),none,.call (.c (.fn fch [] [])) [(.t 8)]⟩,cm 0 7,cm 1 9]) (.seq (.seq (.ops [0,1,14] [cm 10 0,co 11 (.len false (.t 10)),cm 12 1,co 13 (.len false (.t 12)),co 14 (.bin .neq (.t 11) (.t 13))]) (.cond (.t 14) (.seq (.seq (.ops [19] [cm 15 0,co 16 (.len false (.t 15)),cm 17 1,co 18 (.len false (.t 17)),co 19 (.bin .lss (.t 16) (.t 18))]) (.cond (.t 19) (.seq (.ops [4] [co 4 (.mv (.c (.v (.int .i64 (-1)))))]) (.ret)) (.skip))) (.seq (.ops [4] [co 4 (.mv (.c (.v (.int .i64 1))))]) (.ret))) (.skip))) (.seq (.seq (.ops [0,1,5] [cm 20 0,co 21 (.len false (.t 20)),co 22 (.bin .sub (.t 21) (.c (.v (.int .i64 1)))),cm 5 22]) (.block 0 [] (.loop [0,1,5] [] iK))) tD))):=rfl
theorem dx(m)(h:Lb m):(av (ab m)).length<=m.length:=jR (cI h)
theorem Ah{a b}(ha:Lb a)(hb:Lb b)(h1:a.length<=100000)(h2:b.length<=100000):R fbY [lm a,lm b] []=some (I (cj (ab a) (ab b)),[]):=by
 refine au T1 rfl ?_;have la:=dx a ha;rcases Nat.lt_trichotomy (av (ab a)).length (av (ab b)).length with hlt|heq|hgt
 ·have e1:(av (ab a)).length=((av (ab b)).length:Int)↔False:=⟨fun h=>by omega,False.elim⟩;have e2:((av (ab a)).length< ((av (ab b)).length:Int))=True:=tt;have e3:cj (ab a) (ab b)=-1:=by grind[cj,rZ]
  simp only[qR,Nw,go_sem,dB ha ω,dB hb ω,e1,e2,e3]
 ·have e2:IntKind.i64.wrap ((av (ab b)).length-1)=(av (ab b)).length-1:=by grind[i64_in]
  have e3:=ahf (bc (ab a)) (bc (ab b)) heq ω (av (ab a)).length (ayd _);rw[aEf,heq,aEf,aN,aN]at e3;simp only[qR,Nw,go_sem,dB ha ω,dB hb ω,heq,e2];rw[e3 _ _ rfl rfl rfl];simp only[go_sem]
 ·have e1:(av (ab a)).length=((av (ab b)).length:Int)↔False:=⟨fun h=>by omega,False.elim⟩;have e2:((av (ab a)).length< ((av (ab b)).length:Int))=False:=ff;have e3:cj (ab a) (ab b)=1:=by
   have:=rZ hgt;simp only[cj];omega
  simp only[qR,Nw,go_sem,dB ha ω,dB hb ω,e1,e2,e3]
theorem ajJ(v:BitVec 32):v.toNat/2147483648=if v.msb=true then 1 else 0:=by
 have h:=v.isLt;grind
theorem acy{x y c}(hx:x<4294967296)(hy:y<4294967296)(hc:c<=1)(D)(hD:D.toNat=(x+4294967296-y-c) %4294967296):
  ((~~~(BitVec.ofNat 32 x)&&&BitVec.ofNat 32 y)||| (~~~(BitVec.ofNat 32 x^^^BitVec.ofNat 32 y)&&&D)).toNat/2147483648=if x<y+c then 1 else 0:=by
 grind[ajJ,BitVec.ofNat,BitVec.msb_eq_decide,BitVec.msb_or,BitVec.msb_and,BitVec.msb_not,BitVec.msb_xor]
theorem ofI(n:Nat):BitVec.ofInt 32 n=BitVec.ofNat 32 n:=σ
theorem ati(v:BitVec 32):IntKind.u32.wrap v.toNat=v.toNat:=by
 have:=v.isLt;grind[IntKind.wrap_u32]
theorem Wq{x y c:Nat}(hx:x<4294967296)(hy:y<4294967296)(hc:c<=1):R fah [U x,U y,U c] []=some (.tup [U (((x+4294967296-y-c) %4294967296:Nat)),U ((if x<y+c then 1 else 0:Nat))],[]):=by
 refine au Wh rfl ?_;have e1:IntKind.u32.wrap (x-y)=((x+4294967296-y) %4294967296:Nat):=by grind[IntKind.wrap_u32]
 have e2:IntKind.u32.wrap (((x+4294967296-y) %4294967296:Nat)-c)=((x+4294967296-y-c) %4294967296:Nat):=by grind[IntKind.wrap_u32]
 have b:IntKind.u32.bits=32:=rfl;have e3:BitVec.ofInt 32 (if IntKind.u32.signed=true then(-1)else IntKind.u32.max)=BitVec.allOnes 32:=δ
 have e4:∀v,BitVec.allOnes 32^^^v= ~~~v:=fun v=>BitVec.not_def.symm;have e5:∀v,BitVec.ofNat 32 v.toNat=v:=fun v=>by simp
 have key:=acy hx hy hc (BitVec.ofNat 32 ((x+4294967296-y-c) %4294967296)) σ;have sh:∀v:BitVec 32,dU .shr (.v (.int .u32 (v.toNat:Int))) (.v (.int .u64 31))=some (.v (.int .u32 ((v.toNat/2147483648:Nat):Int))):=fun v=>by
  simp_all[Gu,if_neg,Option.some.injEq,AV.v.injEq,Value.int.injEq,true_and,Int.fdiv_eq_ediv_of_nonneg]
 simp only[CN,JS,go_sem,e1,e2,ofI,e3,e5,ati,sh];grind
def og(a b:List Nat):Nat->Nat
 |0=>0
 |i+1=>if a.getD i 0<b.getD i 0+og a b i then 1 else 0
def HW(a b:List Nat)(i:Nat):Nat:=(a.getD i 0+4294967296-b.getD i 0-og a b i) %4294967296
def jU(a b:List Nat)(i:Nat):List Nat:=(List.range i).map (HW a b)
theorem GT(a b)(i):og a b i<=1:=by
 cases i with
 |zero=>simp[og]
 |succ i=>grind[og]
theorem Wr{a b}(ha:Lb a)(hb:Lb b):∀i,ab (jU a b i)+ab (b.take i)=ab (a.take i)+4294967296^i*og a b i
 |0=>by simp[jU,og,ab]
 |i+1=>by
  have ih:=Wr ha hb i;rw[eK a i,eK b i];simp only[jU]at ih⊢;rw[Et,ayZ];have h1:=bO ha i;have h2:=bO hb i;have h3:=GT a b i;have e:HW a b i+b.getD i 0+og a b i=a.getD i 0+4294967296*og a b (i+1):=by
   grind[HW,og]
  grind
theorem xw(a b)(i):(jU a b i).length=i:=by simp[jU]
theorem QM(a b)(i):Lb (jU a b i):=fun x hx=>by
 simp only[jU,ay2]at hx;obtain⟨j,_,rfl⟩:=hx;simp only[HW];omega
theorem Ws{a b}(ha:Lb a)(hb:Lb b)(hl:b.length<=a.length)(hv:ab b<=ab a):jU a b a.length=dE a.length (ab a-ab b):=by
 have h:=Wr ha hb a.length;rw[aEf,ayt hl]at h;have h1:=cI (QM a b a.length);rw[xw]at h1;have hz:og a b a.length=0:=by
  grind[GT,Nat.eq_zero_or_pos,og]
 rw[hz]at h;have h2:=HO (QM a b a.length);rw[xw,show ab (jU a b a.length)=ab a-ab b from by omega]at h2;exact h2.symm
theorem ahg{a b}(ha:Lb a)(hb:Lb b)(h2:a.length<=100000):∀k i,i+k=a.length->∀s h,s 1=lm b->s 5=.rsl 16 none 1 0 a.length->s 6=U (og a b i)->
  s 17=lm a->s 18=I a.length->s 19=I i->h 16=.ar 1 (aB (jU a b i++aya k 0))->
  ai 0 [5] (ax (aj R (az false) nJ) [1,5,6,17,18,19] [16] s h)=
   some (.normal,⟨upd (fun _=>.any) 5 (.rsl 16 none 1 0 a.length),upd (fun _=>.dead) 16 (.ar 1 (aB (jU a b a.length)))⟩):=by
 intro k;induction k with
 |zero=>
  intro i hi s h h1 h5 h6 h17 h18 h19 hh;have:i=a.length:=ω
  subst this;rw[ag];simp only[nJ,go_sem,h1,h5,h6,h17,h18,h19,hh,ay6]
 |succ k ih=>
  intro i hi s h h1 h5 h6 h17 h18 h19 hh;have ih':=ih (i+1) ω;have e1:((i:Int)< (a.length:Int))=True:=tt;have e2:aX (aB a) (i:Int)=some (.ipt [U (a.getD i 0:Nat)]):=bv rfl ω;have e3:IntKind.i64.wrap ((i:Int)+1)=((i+1:Nat):Int):=wi;have e4:(0<=(i:Int))=True:=tt;have e7:(aB (jU a b i++aya (k+1) 0))[i]?=some [U (0:Nat)]:=by
   grind[kC,xw]
  have e8:(aB (jU a b i++aya (k+1) 0)).set i [U ((a.getD i 0+4294967296-b.getD i 0-og a b i) %4294967296:Nat)]=aB (jU a b (i+1)++aya k 0):=by
   rw[oO];grind[og,HW,jU,List.range_succ]
  rw[ag];by_cases hb':i<b.length
  ·have e6:=Wq (bO ha i) (bO hb i) (GT a b i);have e9:((i:Int)< (b.length:Int))=True:=tt;have e10:aX (aB b) (i:Int)=some (.ipt [U (b.getD i 0:Nat)]):=bv rfl hb';simp only[nJ,go_sem,h1,h5,h6,h17,h18,h19,hh,e1,e2,e3,e4,e6,e7,e8,e9,e10,ayk,ayc];exact ih' _ _ rfl rfl rfl rfl rfl rfl rfl
  ·have e9:((i:Int)< (b.length:Int))=False:=ff;have e10:b.getD i 0=0:=γ
   have e6':=Wq (bO ha i) (y:=0) ω (GT a b i);simp only[ayO]at e6';have e8':(aB (jU a b i++aya (k+1) 0)).set i [U ((a.getD i 0+4294967296-0-og a b i) %4294967296:Nat)]=aB (jU a b (i+1)++aya k 0):=by
    grind
   simp only[nJ,go_sem,h1,h5,h6,h17,h18,h19,hh,e1,e2,e3,e4,e6',e7,e8',e9,ayk,ayc];refine ih' _ _ rfl rfl ?_ rfl rfl rfl rfl;simp only[og,e10,ayc];rfl
theorem aei{a b}(ha:Lb a)(hb:Lb b)(h1:a.length<=100000)(h2:b.length<=100000)(hv:ab b<=ab a):R fcf [lm a,lm b] []=some (lm (dE (av (ab a)).length (ab a-ab b)),[]):=by
 refine au Ub rfl ?_;have la:=dx a ha;have lb:(av (ab b)).length<=(av (ab a)).length:=by
  rcases Nat.lt_or_ge (av (ab a)).length (av (ab b)).length with h|h
  ·have:=rZ h;omega
  omega
 have e2:=rn (i:=(av (ab a)).length) (j:=(av (ab a)).length) rfl rfl (ayd _) ω;have e3:((av (ab a)).length*4<=140737488355328)=True:=tt;have e4:=ahg (bc (ab a)) (bc (ab b)) ω (av (ab a)).length 0 ω;have e5:aB (aya (av (ab a)).length 0)=aB (jU (av (ab a)) (av (ab b)) 0++aya (av (ab a)).length 0):=rfl;have e6:=Ws (bc (ab a)) (bc (ab b)) lb (by grind[aN]);rw[aN,aN]at e6;simp only[A6,IX,go_sem,dB ha ω,dB hb ω,e2,e3,Ba,e5];rw[e4 _ _ rfl rfl rfl rfl rfl rfl rfl];simp only[go_sem,e6,cT,ayc,ayd]
theorem aej{a b}(ha:Lb a)(hb:Lb b)(h1:a.length<=256)(h2:b.length<=256):R fb3 [lm a,lm b] []=some (if ab a<ab b then .tup [lm [],I 2]else kL (ab a-ab b),[]):=by
 refine au T7 rfl ?_;have e1:(256<a.length)=False:=ff;have e2:(256<b.length)=False:=ff;by_cases hv:ab a<ab b
 ·have e3:cj (ab a) (ab b)=-1:=by grind[cj]
  simp only[qZ,xO,go_sem,ayz,e1,e2,uV,Ah ha hb ω ω,e3,hv]
 ·have e3:(cj (ab a) (ab b)<0)=False:=ff (by grind[cj]);have e5:ab (dE (av (ab a)).length (ab a-ab b))=ab a-ab b:=by
   rw[lP,ayV];grind[gA,ab]
  have e4:=GR (oM (av (ab a)).length (ab a-ab b)) (by grind[cT,dx]);rw[e5]at e4;unfold kL at e4⊢;by_cases hl:256< (av (ab a-ab b)).length
  ·simp only[hl,if_true]at e4⊢;simp only[qZ,xO,go_sem,e1,e2,uV,Ah ha hb ω ω,e3,hv,aei ha hb ω ω ω,e4]
  ·simp only[hl,if_false]at e4⊢;simp only[qZ,xO,go_sem,e1,e2,uV,Ah ha hb ω ω,e3,hv,aei ha hb ω ω ω,e4]
def mi(x:Nat):Nat->List Nat->List Nat->List Nat×Nat
 |c,y::bs,o::s=>(((x*y+o+c) %4294967296)::(mi x ((x*y+o+c)/4294967296) bs s).1,(mi x ((x*y+o+c)/4294967296) bs s).2)
 |c,_,s=>(s,c)
theorem aek(x):∀bs s r c,bs.length<=s.length->mi x c bs (s++r)=((mi x c bs s).1++r,(mi x c bs s).2)
 |[],s,r,c,_=>by simp[mi]
 |y::bs,[],r,c,h=>by grind
 |y::bs,o::s,r,c,h=>by
  have ih:=aek x bs s r ((x*y+o+c)/4294967296) (by simpa using h);simp only[ayW,mi,ih]
theorem J4(x):∀bs s c,(mi x c bs s).1.length=s.length
 |[],s,c=>by simp[mi]
 |y::bs,[],c=>by simp[mi]
 |y::bs,o::s,c=>by simp[mi,J4 x bs s]
theorem aiZ(x):∀bs s c,Lb s->Lb (mi x c bs s).1
 |[],s,c,h=>by grind[mi]
 |y::bs,[],c,h=>by grind[mi]
 |y::bs,o::s,c,h=>by
  exact iT.2 ⟨by omega,aiZ x bs s _ (iT.1 h).2⟩
theorem ael{x y o c}(hx:x<4294967296)(hy:y<4294967296)(ho:o<4294967296)(hc:c<4294967296):x*y+o+c<18446744073709551616:=by
 have:x*y<=4294967295*4294967295:=Nat.mul_le_mul ω ω;omega
theorem Nx{x}(hx:x<4294967296):∀bs s c,Lb bs->Lb s->c<4294967296->(mi x c bs s).2<4294967296
 |[],s,c,_,_,hc=>by grind[mi]
 |y::bs,[],c,_,_,hc=>by grind[mi]
 |y::bs,o::s,c,hb,hs,hc=>by
  have:=ael hx (iT.1 hb).1 (iT.1 hs).1 hc;exact Nx hx bs s _ (iT.1 hb).2 (iT.1 hs).2 ω
theorem aem(x):∀bs s c,bs.length=s.length->ab (mi x c bs s).1+4294967296^s.length*(mi x c bs s).2=ab s+x*ab bs+c
 |[],[],c,_=>by simp[mi,ab]
 |[],o::s,c,h=>by grind
 |y::bs,[],c,h=>by grind
 |y::bs,o::s,c,h=>by
  have ih:=aem x bs s ((x*y+o+c)/4294967296) γ;simp only[mi,ab,ayL,ayZ];grind
theorem acz{a b}(hb:Lb b){x i n:Nat}(hx:x<4294967296)(h2:b.length<=100000)(hi:i<=100000):∀bs k D S (c:Nat),b.drop k=bs->k<=b.length->D.length=i+k->bs.length<=S.length->(D++S).length=n->Lb S->c<4294967296->
  ∀s h,s 18=lm a->s 19=I a.length->s 20=I i->s 1=lm b->s 5=.rsl 17 none 1 0 n->s 6=I i->s 7=U x->s 8=W c->s 25=lm b->s 26=I b.length->s 27=I k->h 17=.ar 1 (aB (D++S))->
  ai 2 [1,5,6,8,18,19,20] (ax (aj R (az false) nG) [1,5,6,7,8,18,19,20,25,26,27] [17] s h)=
   some (.normal,⟨upd (upd (upd (upd (upd (upd (upd (fun _=>.any) 20 (I i)) 19 (I a.length)) 18 (lm a)) 8 (W (mi x c bs S).2)) 6 (I i)) 5 (.rsl 17 none 1 0 n)) 1 (lm b),upd (fun _=>.dead) 17 (.ar 1 (aB (D++(mi x c bs S).1)))⟩):=by
 intro bs;induction bs with
 |nil=>
  intro k D S c hd hk hD hS hn hLS hc s h h18 h19 h20 h1 h5 h6 h7 h8 h25 h26 h27 hh;have:k=b.length:=by
   grind
  subst this;rw[ag];simp only[nG,go_sem,h18,h19,h20,h1,h5,h6,h7,h8,h25,h26,h27,hh,ay6,mi]
 |cons y bs ih=>
  intro k D S c hd hk hD hS hn hLS hc s h h18 h19 h20 h1 h5 h6 h7 h8 h25 h26 h27 hh;obtain⟨o,S,rfl⟩:∃o S',S=o::S':=by
   cases S with
   |nil=>grind
   |cons o S=>grind
  have hlt:k<b.length:=by
   grind
  have hy:b.getD k 0=y:=by
   have:=congrArg (·[0]?) hd;grind
  have hyb:y<4294967296:=by grind[bO]
  have hob:=(iT.1 hLS).1;have hml:=ael hx hyb hob hc;have hxy:x*y<18446744073709551616:=ω
  have ih':=ih (k+1) (D++[(x*y+o+c) %4294967296]) S ((x*y+o+c)/4294967296) (by rw[←List.drop_drop,hd];rfl) hlt γ γ γ (iT.1 hLS).2 ω;have e1:((k:Int)< (b.length:Int))=True:=tt;have e2:aX (aB b) (k:Int)=some (.ipt [U (y:Nat)]):=by grind[bv]
  have e3:IntKind.i64.wrap ((k:Int)+1)=((k+1:Nat):Int):=wi;have e4:IntKind.i64.wrap ((i:Int)+(k:Int))=((i+k:Nat):Int):=wi;have e5:(0<=((i+k:Nat):Int))=True:=tt;have hin:i+k<n:=γ
  have e6:(((i+k:Nat):Int)< (n:Int))=True:=tt;have e7:(aB (D++o::S))[i+k]?=some [U (o:Nat)]:=by
   grind[kC]
  have f1:IntKind.u64.wrap (x:Int)=x:=dK rfl ω;have f2:IntKind.u64.wrap (y:Int)=y:=dK rfl ω;have f3:IntKind.u64.wrap ((x:Int)*(y:Int))=((x*y:Nat):Int):=dK σ hxy;have f4:IntKind.u64.wrap (o:Int)=o:=dK rfl ω;have f5:IntKind.u64.wrap (((x*y:Nat):Int)+(o:Int))=((x*y+o:Nat):Int):=dK ω ω;have f6:IntKind.u64.wrap (((x*y+o:Nat):Int)+(c:Int))=((x*y+o+c:Nat):Int):=dK ω ω;have f7:IntKind.u32.wrap ((x*y+o+c:Nat):Int)=(((x*y+o+c) %4294967296:Nat):Int):=HU rfl;have f8:=qz (n:=x*y+o+c) (k:=32) (kk:=.u64) (j:=32) rfl rfl ω;have f9:(aB (D++o::S)).set (i+k) [U ((x*y+o+c) %4294967296:Nat)]=aB (D++[(x*y+o+c) %4294967296]++S):=by
   rw[oO,←hD,List.set_append_right _ _ (ayd _)];simp
  rw[ag];generalize ax _ _ _=L at ih'⊢;simp only[nG,go_sem,h18,h19,h20,h1,h5,h6,h7,h8,h25,h26,h27,hh,e1,e2,e3,e4,e5,e6,e7,f1,f2,f3,f4,f5,f6,f7,f8,f9,ayk,ayc,mi];rw[ih' _ _ rfl rfl rfl rfl rfl rfl rfl rfl rfl rfl rfl rfl];grind
def ed(a b:List Nat)(i:Nat):List Nat:=dE (i+b.length) (ab (a.take i)*ab b)
theorem aen{a b}(ha:Lb a)(hb:Lb b){i}(hi:i<a.length):
  (ed a b i).take i++((mi (a.getD i 0) 0 b ((ed a b i).drop i)).1++[(mi (a.getD i 0) 0 b ((ed a b i).drop i)).2])=ed a b (i+1):=by
 have hx:=bO ha i;have hP:(ed a b i).length=i+b.length:=cT _ _;have hLP:Lb (ed a b i):=oM _ _;have hS:((ed a b i).drop i).length=b.length:=γ
 have h1:=aem (a.getD i 0) b ((ed a b i).drop i) 0 hS.symm;have h2:=Nx hx b ((ed a b i).drop i) 0 hb (mV hLP i) ω;have h3:=aiZ (a.getD i 0) b ((ed a b i).drop i) 0 (mV hLP i);have h4:=J4 (a.getD i 0) b ((ed a b i).drop i) 0;have hvP:ab (ed a b i)=ab (a.take i)*ab b:=by
  unfold ed;rw[lP,ayV];have e1:=cI (fj ha i);have e2:=cI hb;rw[ayo,ay0 ω]at e1
  simp_all[ayn,Nat.mul_lt_mul'']
 have hsplit:ab (ed a b i)=ab ((ed a b i).take i)+4294967296^i*ab ((ed a b i).drop i):=by
  grind[List.take_append_drop,ed,dZ,ayo,ay0]
 have hLb:=
  pC.2 ⟨fj hLP i,pC.2 ⟨h3,iT.2 ⟨h2,JU⟩⟩⟩
 have hval:ab ((ed a b i).take i++((mi (a.getD i 0) 0 b ((ed a b i).drop i)).1++[(mi (a.getD i 0) 0 b ((ed a b i).drop i)).2]))=ab (a.take (i+1))*ab b:=by
  rw[dZ,dZ,ayo,hP,ay0 ω,h4,eK a i,ayA,←hvP,hsplit];simp only[ab,Nat.mul_zero,ayF]at h1⊢;grind
 have hlen:((ed a b i).take i++((mi (a.getD i 0) 0 b ((ed a b i).drop i)).1++[(mi (a.getD i 0) 0 b ((ed a b i).drop i)).2])).length=i+1+b.length:=by
  grind
 have:=HO hLb;rw[hlen,hval]at this;exact this.symm
theorem ahh{a b}(ha:Lb a)(hb:Lb b)(h1:a.length<=100000)(h2:b.length<=100000):∀k i,i+k=a.length->∀s h,s 1=lm b->s 5=.rsl 17 none 1 0 (a.length+b.length)->
  s 18=lm a->s 19=I a.length->s 20=I i->h 17=.ar 1 (aB (ed a b i++aya k 0))->
  ai 0 [5] (ax (aj R (az false) rS) [1,5,18,19,20] [17] s h)=
   some (.normal,⟨upd (fun _=>.any) 5 (.rsl 17 none 1 0 (a.length+b.length)),upd (fun _=>.dead) 17 (.ar 1 (aB (ed a b a.length)))⟩):=by
 intro k;induction k with
 |zero=>
  intro i hi s h h1 h5 h18 h19 h20 hh;have:i=a.length:=ω
  subst this;rw[ag];simp only[rS,go_sem,h1,h5,h18,h19,h20,hh,ay6]
 |succ k ih=>
  intro i hi s h g1 h5 h18 h19 h20 hh;have ih':=ih (i+1) ω;have hx:=bO ha i;have hP:(ed a b i).length=i+b.length:=cT _ _;have hLP:Lb (ed a b i):=oM _ _;have hsp:ed a b i++aya (k+1) 0=(ed a b i).take i++((ed a b i).drop i++aya (k+1) 0):=by rw[←ayX,List.take_append_drop]
  have e1:((i:Int)< (a.length:Int))=True:=tt;have e2:aX (aB a) (i:Int)=some (.ipt [U (a.getD i 0:Nat)]):=bv rfl ω;have e3:IntKind.i64.wrap ((i:Int)+1)=((i+1:Nat):Int):=wi;have e4:IntKind.i64.wrap ((i:Int)+(b.length:Int))=((i+b.length:Nat):Int):=wi;have e5:(0<=((i+b.length:Nat):Int))=True:=tt;have e6:(((i+b.length:Nat):Int)< ((a.length+b.length:Nat):Int))=True:=tt;have lp:=acz (a:=a) hb (x:=a.getD i 0) (i:=i) (n:=a.length+b.length) hx h2 ω b 0 ((ed a b i).take i) ((ed a b i).drop i++aya (k+1) 0) 0 rfl (ayB _) γ γ γ
   (pC.2 ⟨mV hLP i,fun y hy=>by grind⟩) ω
  rw[aek _ _ _ _ _ γ]at lp;have ml:(mi (a.getD i 0) 0 b ((ed a b i).drop i)).1.length=b.length:=by grind[J4]
  have mc:=Nx hx b ((ed a b i).drop i) 0 hb (mV hLP i) ω;have ps:=aen ha hb (show i<a.length from by omega);rw[hsp]at hh;generalize mi (a.getD i 0) 0 b ((ed a b i).drop i)=r at*
  have f1:=Cb rfl mc;have e7:(aB ((ed a b i).take i++(r.1++aya (k+1) 0)))[i+b.length]?=some [U (0:Nat)]:=by
   grind[ayX,kC]
  have e8:(aB ((ed a b i).take i++(r.1++aya (k+1) 0))).set (i+b.length) [U (r.2:Nat)]=aB (ed a b (i+1)++aya k 0):=by
   grind[ayX,oO,Wn,ed]
  rw[ag];generalize ax _ _ _=L at ih'⊢;simp only[rS,go_sem,g1,h5,h18,h19,h20,hh,e1,e2];rw[lp _ _ rfl rfl rfl rfl rfl rfl rfl rfl rfl rfl rfl rfl];simp only[go_sem,e3,e4,e5,e6,e7,e8,f1,ayk,ayc];exact ih' _ _ rfl rfl rfl rfl rfl rfl
theorem amn{a b}(ha:Lb a)(hb:Lb b)(h1:a.length<=100000)(h2:b.length<=100000):R fcb [lm a,lm b] []=some (lm (dE (a.length+b.length) (ab a*ab b)),[]):=by
 refine au T2 rfl ?_;have e1:IntKind.i64.wrap (a.length+b.length)=(a.length+b.length:Nat):=wi;have e2:=rn (i:=(a.length+b.length:Nat)) (j:=(a.length+b.length:Nat)) rfl rfl (ayd _) ω;have e3:((a.length+b.length)*4<=140737488355328)=True:=tt;have e4:=ahh ha hb h1 h2 a.length 0 ω;have e0:ed a b 0=aya b.length 0:=by
  have:∀n,dE n 0=aya n 0:=fun n=>by
   induction n with
   |zero=>rfl
   |succ n ih=>simp[dE,ih,List.replicate_succ]
  grind[ed,ab]
 have e5:aB (aya (a.length+b.length) 0)=aB (ed a b 0++aya a.length 0):=by
  rw[e0,List.replicate_append_replicate,Nat.add_comm]
 have e6:ed a b a.length=dE (a.length+b.length) (ab a*ab b):=by rw[ed,aEf]
 simp only[AX,IT,go_sem,e1,e2,e3,Ba,e5];rw[e4 _ _ rfl rfl rfl rfl rfl rfl];simp only[go_sem,e6,cT,ayc,ayd]
theorem aeo{a b}(ha:Lb a)(hb:Lb b)(h1:a.length<=256)(h2:b.length<=256):R fb0 [lm a,lm b] []=some (kL (ab a*ab b),[]):=by
 refine au TV rfl ?_;have e1:(256<a.length)=False:=ff;have e2:(256<b.length)=False:=ff;have la:=dx a ha;have lb:=dx b hb;have e3:=amn (bc (ab a)) (bc (ab b)) ω ω;rw[aN,aN]at e3;have e4:=GR (oM ((av (ab a)).length+(av (ab b)).length) (ab a*ab b)) (by grind[cT]);rw[lP,ayV (by simp_all[ayn,Nat.mul_lt_mul'',gA])]at e4;unfold kL at e4⊢;by_cases hl:256< (av (ab a*ab b)).length
 ·simp only[hl,if_true]at e4⊢;simp only[vP,CD,go_sem,e1,e2,uV,dB ha ω,dB hb ω,e3,e4]
 ·simp only[hl,if_false]at e4⊢;simp only[vP,CD,go_sem,e1,e2,uV,dB ha ω,dB hb ω,e3,e4]
theorem Dq{n m:Nat}{i j:Int}(hi:i=n)(hj:j=m)(hm:m≠0):dU .rem (.v (.int .i64 i)) (.v (.int .i64 j))=some (.v (.int .i64 (n%m:Nat))):=by
 simp_all[K3,if_neg,Int.tmod_eq_emod_of_nonneg]
theorem Dr{n m:Nat}{i j:Int}(hi:i=n)(hj:j=m)(hm:m≠0)(hn:n<9223372036854775808):dU .quo (.v (.int .i64 i)) (.v (.int .i64 j))=some (.v (.int .i64 (n/m:Nat))):=by
 rw[P6,if_neg ω,Int.tdiv_eq_ediv_of_nonneg ω];have:n/m<=n:=Nat.div_le_self _ _;grind[wi]
theorem Fz{n k:Nat}{i:Int}{kk}{j:Int}(hi:i=n)(hj:j=k)(hk:k<=64)(h:n*2^k<18446744073709551616):dU .shl (.v (.int .u64 i)) (.v (.int kk j))=some (.v (.int .u64 (n*2^k:Nat))):=by
 subst hi hj;rw[K4,if_neg ω];have:min (k:Int).toNat IntKind.u64.bits=k:=by grind[IntKind.bits]
 rw[this,dK (n:=n*2^k) σ h]
theorem Ny{m n:Nat}{i j:Int}(hi:i=m)(hj:j=n)(hm:m<18446744073709551616)(hn:n<18446744073709551616):dU .or (.v (.int .u64 i)) (.v (.int .u64 j))=some (.v (.int .u64 (m|||n:Nat))):=by
 subst hi hj;rw[OA];have e:(BitVec.ofInt IntKind.u64.bits m|||BitVec.ofInt IntKind.u64.bits n).toNat=m|||n:=by
  show(BitVec.ofInt 64 m|||BitVec.ofInt 64 n).toNat=m|||n
  grind
 rw[e];rw[dK rfl (Nat.or_lt_two_pow (n:=64) hm hn)]
theorem Eu{x c k}(hc:c<2^k):x*2^k|||c=x*2^k+c:=by
 have:=Nat.shiftLeft_add_eq_or_of_lt hc x;grind[Nat.shiftLeft_eq]
def iU(a:List Nat)(r:Nat):Nat->Nat
 |0=>0
 |i+1=>(a.getD i 0*2^r+iU a r i)/4294967296
def oj(a:List Nat)(r i:Nat):List Nat:=(List.range i).map fun j=>(a.getD j 0*2^r+iU a r j) %4294967296
theorem GU{a}(ha:Lb a){r}:∀i,iU a r i<2^r
 |0=>by grind[iU,ayr]
 |i+1=>by
  have ih:=GU ha (r:=r) i;have:=bO ha i;simp only[iU];have h1:a.getD i 0*2^r+2^r<=4294967296*2^r:=by
   rw[←Nat.succ_mul];exact aym _ ω
  omega
theorem wm(a)(r i):(oj a r i).length=i:=by simp[oj]
theorem amo(a)(r i):Lb (oj a r i):=fun x hx=>by
 simp only[oj,ay2]at hx;omega
theorem Zz(a)(r):∀i,ab (oj a r i)+4294967296^i*iU a r i=ab (a.take i)*2^r
 |0=>by simp[oj,iU,ab]
 |i+1=>by
  have ih:=Zz a r i;rw[eK a i];simp only[oj]at ih⊢;rw[Et,ayZ];have e:iU a r (i+1)*4294967296+(a.getD i 0*2^r+iU a r i) %4294967296=a.getD i 0*2^r+iU a r i:=by
   grind[iU]
  grind
theorem ahj{a}(ha:Lb a){n q}(h1:a.length<=100000)(hq:q<=100000):∀k i,i+k=a.length->∀s h,s 1=I (n:Nat)->s 5=.rsl 20 none 1 0 (q+i)->s 6=W (iU a (n%32) i)->s 21=lm a->s 22=I a.length->s 23=I i->
  h 20=.ar 1 (aB (aya q 0++oj a (n%32) i))->h 38=.dead->
  ai 0 [5,6] (ax (aj R (az false) rW) [1,5,6,21,22,23] [20,38] s h)=
   some (.normal,⟨upd (upd (fun _=>.any) 6 (W (iU a (n%32) a.length))) 5 (.rsl 20 none 1 0 (q+a.length)),upd (upd (fun _=>.dead) 38 .dead) 20 (.ar 1 (aB (aya q 0++oj a (n%32) a.length)))⟩):=by
 intro k;induction k with
 |zero=>
  intro i hi s h g1 h5 h6 h21 h22 h23 hh hh2;have:i=a.length:=ω
  subst this;rw[ag];simp only[rW,go_sem,g1,h5,h6,h21,h22,h23,hh,hh2,ay6]
 |succ k ih=>
  intro i hi s h g1 h5 h6 h21 h22 h23 hh hh2;have ih':=ih (i+1) ω;have hx:=bO ha i;have hc:=GU ha (r:=n%32) i;have hp:2^ (n%32)<=2^31:=ayP ω ω;have hxp:a.getD i 0*2^ (n%32)<=4294967295*2^31:=Nat.mul_le_mul ω hp;have e1:(i< (a.length:Int))=True:=tt;have e2:aX (aB a) i=some (.ipt [U (a.getD i 0)]):=bv rfl ω;have e3:IntKind.i64.wrap (i+1)=(i+1:Nat):=wi;have e4:IntKind.u64.wrap (a.getD i 0)=(a.getD i 0):=dK rfl ω;have e5:=Dq (n:=n) (m:=32) (j:=32) rfl rfl ω;have e6:=Fz (n:=a.getD i 0) (k:=n%32) (kk:=.i64) rfl rfl ω ω;have e7:=Ny (m:=a.getD i 0*2^ (n%32)) (n:=iU a (n%32) i) rfl rfl ω ω;rw[Eu hc]at e7;have e8:IntKind.u32.wrap (a.getD i 0*2^ (n%32)+iU a (n%32) i:Nat)=((a.getD i 0*2^ (n%32)+iU a (n%32) i) %4294967296:Nat):=HU rfl;have e9:=qz (n:=a.getD i 0*2^ (n%32)+iU a (n%32) i) (k:=32) (kk:=.u64) (j:=32) rfl rfl ω;have f1:aB (aya q 0++oj a (n%32) i)++[[U ((a.getD i 0*2^ (n%32)+iU a (n%32) i) %4294967296:Nat)]]=aB (aya q 0++oj a (n%32) (i+1)):=by
   simp_all[U,iU,aB,Dg,ayX,oj,List.range_succ]
  have f2:(q+i=(aya q 0++oj a (n%32) i).length)=True:=tt (by simp[wm]);have f3:((q+i+1)*4<=140737488355328)=True:=tt;rw[ag];simp only[rW,go_sem,g1,h5,h6,h21,h22,h23,hh,hh2,e1,e2,e3,e4,e5,e6,e7,e8,e9,f1,f2,f3,true_or,ayc,ayd];exact ih' _ _ rfl rfl rfl rfl rfl rfl rfl rfl
theorem yE(n):4294967296^ (n/32)*2^ (n%32)=2^n:=by
 rw[show 4294967296=2^32 from rfl,←Nat.pow_mul,←ayn];grind
theorem ZA{a}(ha:Lb a)(n):aya (n/32) 0++oj a (n%32) a.length++[iU a (n%32) a.length]=dE (n/32+a.length+1) (ab a*2^n):=by
 have hc:=GU ha (r:=n%32) a.length;have hp:2^ (n%32)<=2^31:=ayP ω ω;have h:=Zz a (n%32) a.length;have hLb:Lb (aya (n/32) 0++oj a (n%32) a.length++[iU a (n%32) a.length]):=
  pC.2 ⟨pC.2 ⟨fun y hy=>by grind,amo _ _ _⟩,iT.2 ⟨by omega,JU⟩⟩
 have hv:ab (aya (n/32) 0++oj a (n%32) a.length++[iU a (n%32) a.length])=ab a*2^n:=by
  rw[ayX,dZ,Sr,dZ,wm,azc];simp only[ab,Nat.mul_zero,ayF,ayc];grind[yE,Nat.mul_left_comm]
 have:=HO hLb;grind[wm]
theorem Pa{a}(ha:Lb a){n:Nat}(h1:a.length<=100000)(hn:n<=65536):R fcc [lm a,I n] []=some (.osl 1 (aB (dE (n/32+(av (ab a)).length+1) (ab a*2^n))),[]):=by
 refine au T9 rfl ?_;have la:=dx a ha;have hc:=GU (bc (ab a)) (r:=n%32) (av (ab a)).length;have hp:2^ (n%32)<=2^31:=ayP ω ω;have e1:=Dr (n:=n) (m:=32) (j:=32) rfl rfl ω ω;have e2:IntKind.i64.wrap ((n/32:Nat)+(av (ab a)).length)=(n/32+(av (ab a)).length:Nat):=wi;have e3:IntKind.i64.wrap ((n/32+(av (ab a)).length:Nat)+1)=(n/32+(av (ab a)).length+1:Nat):=wi;have e4:=rn (i:=(n/32:Nat)) (j:=(n/32+(av (ab a)).length+1:Nat)) rfl rfl ω ω;have e5:((n/32+(av (ab a)).length+1)*4<=140737488355328)=True:=tt;have e6:=ahj (bc (ab a)) (n:=n) (q:=n/32) ω ω (av (ab a)).length 0 ω;have e7:aB (aya (n/32) 0)=aB (aya (n/32) 0++oj (av (ab a)) (n%32) 0):=by simp[oj]
 have e8:IntKind.u32.wrap (iU (av (ab a)) (n%32) (av (ab a)).length:Nat)=(iU (av (ab a)) (n%32) (av (ab a)).length:Nat):=Cb rfl ω;have f1:aB (aya (n/32) 0++oj (av (ab a)) (n%32) (av (ab a)).length)++[[U (iU (av (ab a)) (n%32) (av (ab a)).length)]]=aB (dE (n/32+(av (ab a)).length+1) (ab a*2^n)):=by
  have:=ZA (bc (ab a)) n;rw[aN]at this;rw[←this,show [[U (iU (av (ab a)) (n%32) (av (ab a)).length)]]=aB [iU (av (ab a)) (n%32) (av (ab a)).length]from rfl,Dg]
 have f2:(n/32+(av (ab a)).length=(aya (n/32) 0++oj (av (ab a)) (n%32) (av (ab a)).length).length)=True:=tt (by simp[wm]);simp only[AZ,IV,go_sem,dB ha ω,e1,e2,e3,e4,e5,Ba,e7];rw[e6 _ _ rfl rfl rfl rfl rfl rfl rfl rfl];simp only[go_sem,e8,f1,f2,e5,true_or,ayc,ayd,cT]
theorem aep{a}(ha:Lb a){n}(h1:a.length<=256):R fb1 [lm a,I n] []=some (if n<0\/65536<n then .tup [lm [],I 2]else kL (ab a*2^n.toNat),[]):=by
 refine au T5 rfl ?_;have e1:(256<a.length)=False:=ff;by_cases hn:n<0
 ·simp only[mT,sT,go_sem,e1,rY,hn,true_or]
 by_cases hn2:65536<n
 ·simp only[mT,sT,go_sem,e1,rY,hn,hn2,or_true]
 obtain⟨m,rfl⟩:=aze (show 0<=n by omega);have la:=dx a ha;have e3:ab (dE (m/32+(av (ab a)).length+1) (ab a*2^m))=ab a*2^m:=by
  rw[lP,ayV];have h:=gA (ab a);have h2:2^m<=4294967296^ (m/32+1):=by
   rw[show 4294967296=2^32 from rfl,←Nat.pow_mul];exact ayP ω ω
  rw[show m/32+(av (ab a)).length+1=(av (ab a)).length+(m/32+1)from by omega,ayn]
  simp_all[Nat.mul_lt_mul_of_lt_of_le,Nat.pow_pos]
 have e4:=GR (oM (m/32+(av (ab a)).length+1) (ab a*2^m)) (by grind[cT]);rw[e3]at e4;have e5:(aB (dE (m/32+(av (ab a)).length+1) (ab a*2^m))).take (dE (m/32+(av (ab a)).length+1) (ab a*2^m)).length=aB (dE (m/32+(av (ab a)).length+1) (ab a*2^m)):=ayt (by simp_all[Df,ayd]);unfold kL at e4⊢;by_cases hl:256< (av (ab a*2^m)).length
 ·simp only[mT,sT,go_sem,e1,rY,hn,hn2,Pa ha (n:=m) ω ω,e4,e5,or_false,ayk,hl,ayc,ayd]
 ·simp only[mT,sT,go_sem,e1,rY,hn,hn2,Pa ha (n:=m) ω ω,e4,e5,or_false,ayk,hl,ayc,ayd]
theorem yk{l}(h:Lb l)(i):ab (l.drop i)=ab l/4294967296^i:=by
 rcases Nat.lt_or_ge l.length i with hi|hi
 ·rw[List.drop_of_length_le ω];have:=cI h;have h2:4294967296^l.length<=4294967296^i:=ayP ω ω;rw[Nat.div_eq_of_lt ω];rfl
 ·have h1:ab l=ab (l.take i)+4294967296^i*ab (l.drop i):=by
   grind[List.take_append_drop,dZ,ayo,ay0]
  grind[cI,fj,ayo,ay0,Nat.add_mul_div_left,Nat.pow_pos,Nat.div_eq_of_lt]
theorem fB(l:List Nat)(i):ab (l.drop i)=l.getD i 0+4294967296*ab (l.drop (i+1)):=by
 grind[ayv,ab,List.drop_of_length_le]
def uW(a:List Nat)(r i:Nat):Nat:=(a.getD i 0+4294967296*a.getD (i+1) 0)/2^r%4294967296
theorem ajK{a}(ha:Lb a){r}(hr:r<=32)(i):uW a r i=Zy (ab a/2^r) i:=by
 unfold uW Zy;have e0:ab a/2^r/4294967296^i=ab (a.drop i)/2^r:=by grind[Nat.div_div_eq_div_mul,ayy,yk]
 rw[e0,fB a i,fB a (i+1)];generalize ab (a.drop (i+1+1))=w;have e:4294967296=2^r*2^ (32-r):=by rw[←ayn,show r+(32-r)=32 from by omega]
 have h1:a.getD i 0+4294967296*(a.getD (i+1) 0+4294967296*w)=(a.getD i 0+4294967296*a.getD (i+1) 0)+2^r*(2^ (32-r)*4294967296*w):=by
  grind
 rw[h1,Nat.add_mul_div_left _ _ (ayr r),ayD,Nat.mul_left_comm,Nat.add_mul_mod_self_left]
def nM(a:List Nat)(r i:Nat):List Nat:=(List.range i).map (uW a r)
theorem xx(a)(r i):(nM a r i).length=i:=by simp[nM]
theorem Wu{a}(ha:Lb a){r}(hr:r<=32):nM a r a.length=dE a.length (ab a/2^r):=by
 grind[Wm,xx,ajK,nM]
theorem ahk{a}(ha:Lb a){n}(h1:a.length<=100000):∀k i,i+k=a.length->∀s h,s 0=lm a->s 1=I (n:Nat)->s 5=.rsl 22 none 1 0 a.length->s 23=lm a->s 24=I a.length->s 25=I i->
  h 22=.ar 1 (aB (nM a (n%32) i++aya k 0))->
  ai 0 [5] (ax (aj R (az false) nI) [0,1,5,23,24,25] [22] s h)=
   some (.normal,⟨upd (fun _=>.any) 5 (.rsl 22 none 1 0 a.length),upd (fun _=>.dead) 22 (.ar 1 (aB (nM a (n%32) a.length)))⟩):=by
 intro k;induction k with
 |zero=>
  intro i hi s h h0 g1 h5 h23 h24 h25 hh;have:i=a.length:=ω
  subst this;rw[ag];simp only[List.replicate_zero,ayp]at hh;simp only[nI,go_sem,h0,g1,h5,h23,h24,h25,hh,ay6]
 |succ k ih=>
  intro i hi s h h0 g1 h5 h23 h24 h25 hh;have ih':=ih (i+1) ω;have hx:=bO ha i;have hy:=bO ha (i+1);have hr:n%32<32:=ayI _ ω;have e1:((i:Int)< (a.length:Int))=True:=tt;have e2:aX (aB a) (i:Int)=some (.ipt [U (a.getD i 0:Nat)]):=bv rfl ω;have e3:IntKind.i64.wrap ((i:Int)+1)=((i+1:Nat):Int):=wi;have e4:IntKind.u64.wrap (a.getD i 0:Int)=(a.getD i 0:Int):=dK rfl ω;have e5:=Dq (n:=n) (m:=32) (j:=32) rfl rfl ω;have e6:(0<=(i:Int))=True:=tt;have e7:(aB (nM a (n%32) i++aya (k+1) 0))[i]?=some [U (0:Nat)]:=by
   grind[kC,xx]
  have e8:(aB (nM a (n%32) i++aya (k+1) 0)).set i [U (uW a (n%32) i:Nat)]=aB (nM a (n%32) (i+1)++aya k 0):=by
   grind[oO,Wn,nM,uW,xx,List.range_succ]
  rw[ag];generalize ax _ _ _=L at ih'⊢;by_cases hl:i+1<a.length
  ·have f1:(((i+1:Nat):Int)< (a.length:Int))=True:=tt;have f2:=bv rfl hl;have f3:IntKind.u64.wrap (a.getD (i+1) 0:Int)=(a.getD (i+1) 0:Int):=dK rfl ω;have f4:=Fz (n:=a.getD (i+1) 0) (k:=32) (kk:=.u64) (j:=32) rfl rfl ω ω;have f5:=Ny (m:=a.getD i 0) (n:=a.getD (i+1) 0*2^32) rfl rfl ω ω;rw[Nat.or_comm,Eu (show a.getD i 0<2^32 from by omega)]at f5;have f6:=qz (n:=a.getD (i+1) 0*2^32+a.getD i 0) (k:=n%32) (kk:=.i64) rfl rfl ω;have f7:IntKind.u32.wrap (((a.getD (i+1) 0*2^32+a.getD i 0)/2^ (n%32):Nat):Int)=((uW a (n%32) i:Nat):Int):=by
    grind[HU,uW]
   simp only[nI,go_sem,h0,g1,h5,h23,h24,h25,hh,e1,e2,e3,e4,e5,e6,e7,e8,f1,f2,f3,f4,f5,f6,f7,ayk,ayc];exact ih' _ _ rfl rfl rfl rfl rfl rfl rfl
  ·have f1:(((i+1:Nat):Int)< (a.length:Int))=False:=ff;have f2:a.getD (i+1) 0=0:=γ
   have f6:=qz (n:=a.getD i 0) (k:=n%32) (kk:=.i64) rfl rfl ω;have f7:IntKind.u32.wrap ((a.getD i 0/2^ (n%32):Nat):Int)=((uW a (n%32) i:Nat):Int):=by
    rw[HU rfl];grind[uW]
   simp only[nI,go_sem,h0,g1,h5,h23,h24,h25,hh,e1,e2,e3,e4,e5,e6,e7,e8,f1,f6,f7,ayk,ayc];exact ih' _ _ rfl rfl rfl rfl rfl rfl rfl
theorem aeq{a}(ha:Lb a){n:Nat}(h1:a.length<=100000)(hn:n<=100000000):R fce [lm a,I n] []=some (lm (dE ((av (ab a)).length-n/32) (ab a/2^n)),[]):=by
 refine au T8 rfl ?_;have la:=dx a ha;have e1:=Dr (n:=n) (m:=32) (j:=32) rfl rfl ω ω;by_cases hl:(av (ab a)).length<=n/32
 ·have e2:((av (ab a)).length<=((n/32:Nat):Int))=True:=tt;have e3:dE ((av (ab a)).length-n/32) (ab a/2^n)=[]:=by rw[show(av (ab a)).length-n/32=0 from by omega];rfl
  simp only[v9,CK,go_sem,dB ha ω,e1,e2,e3]
 ·have e2:((av (ab a)).length<=((n/32:Nat):Int))=False:=ff;have hD:((av (ab a)).drop (n/32)).length=(av (ab a)).length-n/32:=σ
  have hLD:Lb ((av (ab a)).drop (n/32)):=mV (bc _) _;have e3:eA 1 (lm (av (ab a))) (some (I (n/32:Nat))) none none=some (lm ((av (ab a)).drop (n/32))):=by
   rw[J2 (a:=n/32) (b:=(av (ab a)).length) (uU rfl ω) rfl (ayd _),ayt ω]
  have hv:ab ((av (ab a)).drop (n/32))/2^ (n%32)=ab a/2^n:=by
   rw[yk (bc _),aN,Nat.div_div_eq_div_mul,yE]
  have e6:=Wu hLD (r:=n%32) ω;rw[hv,hD]at e6;generalize(av (ab a)).drop (n/32)=D at*
  have e4:=rn (i:=D.length) (j:=D.length) rfl rfl (ayd _) ω;have e5:(D.length*4<=140737488355328)=True:=tt;have e7:=ahk hLD (n:=n) ω D.length 0 ω;have e8:aB (aya D.length 0)=aB (nM D (n%32) 0++aya D.length 0):=by simp[nM]
  rw[←hD]at e6⊢;simp only[v9,CK,go_sem,dB ha ω,e1,e2,e3,e4,e5,Ba,e8];rw[e7 _ _ rfl rfl rfl rfl rfl rfl rfl];simp only[go_sem,e6,cT,ayc,ayd]
theorem aer{a}(ha:Lb a){n}(h1:a.length<=256):R fb2 [lm a,I n] []=some (if n<0\/65536<n then .tup [lm [],I 2]else .tup [lm (av (ab a/2^n.toNat)),I 0],[]):=by
 refine au T3 rfl ?_;have e1:(256<a.length)=False:=ff;by_cases hn:n<0
 ·simp only[qU,xN,go_sem,e1,rY,hn,true_or]
 by_cases hn2:65536<n
 ·simp only[qU,xN,go_sem,e1,rY,hn,hn2,or_true]
 obtain⟨m,rfl⟩:=aze (show 0<=n by omega);have la:=dx a ha;have hlt:=gA (ab a);have h32:ab a/2^m<4294967296^ ((av (ab a)).length-m/32):=by
  rw[Nat.div_lt_iff_lt_mul (ayr m),←yE m];refine ay8 hlt ?_;rw[←ayD,←ayn];refine ayj (ayP ω (show(av (ab a)).length<=(av (ab a)).length-m/32+m/32 by omega)) (Nat.le_mul_of_pos_right _ (ayr _))
 have e3:ab (dE ((av (ab a)).length-m/32) (ab a/2^m))=ab a/2^m:=by
  rw[lP,ayV h32]
 have e4:=GR (oM ((av (ab a)).length-m/32) (ab a/2^m)) (by grind[cT]);rw[e3]at e4;have hl:¬256< (av (ab a/2^m)).length:=by
  have:=jR h32;omega
 unfold kL at e4;simp only[hl,if_false]at e4;simp only[qU,xN,go_sem,e1,rY,hn,hn2,aeq ha (n:=m) ω ω,e4,or_false,ayk]
def af(n:Nat):Nat:=if n=0 then 0 else n.log2+1
theorem bD{n k}:af n<=k↔n<2^k:=by
 unfold af;grind[Nat.succ_le_iff,Nat.log2_lt]
theorem Nz{q k}(h:af q<=k):af (q+1)<=k+1:=by
 rw[bD]at h⊢;omega
theorem ahl{n k}(h:n<=k):af (2^n-1)<=k:=bD.2 (by
 have h1:=ayr n;have h2:=ayP (n:=2) δ h;omega)
theorem ahm(k):af 1<=k+1:=bD.2 (Nat.one_lt_two_pow ω)
theorem yF{x y k}(h:x<=y)(h2:af y<=k):af x<=k:=bD.2 (ayS h (bD.1 h2))
theorem jK{n k}:k<af n↔2^k<=n:=by
 have:=@bD n k;omega
theorem pG:af 0=0:=rfl
theorem fu{n}(h:n≠0):0<af n:=by
 rw[jK];omega
theorem jB(n k):af (n/2^k)=af n-k:=by
 have h:∀j,af (n/2^k)<=j↔af n-k<=j:=fun j=>by
  simp_all[bD,Nat.div_lt_iff_lt_mul,ayr,ayn]
 have h1:=(h _).1 (ayd _);have h2:=(h _).2 (ayd _);omega
theorem dk{n}(k)(hn:n≠0):af (n*2^k)=af n+k:=by
 grind[jB,Nat.mul_div_cancel,ayr,af,jK,Nat.le_mul_of_pos_left]
def acA:ByteArray:=⟨#[0,1,2,2,3,3,3,3,4,4,4,4,4,4,4,4,5,5,5,5,5,5,5,5,5,5,5,5,5,5,5,5,6,6,6,6,6,6,6,6,6,6,6,6,6,6,6,6,6,6,6,6,6,6,6,6,6,6,6,6,6,6,6,6,7,7,7,7,7,7,7,7,7,7,7,7,7,7,7,7,7,7,7,7,7,7,7,7,7,7,7,7,7,7,7,7,7,7,7,7,7,7,7,7,7,7,7,7,7,7,7,7,7,7,7,7,7,7,7,7,7,7,7,7,7,7,7,7,8,8,8,8,8,8,8,8,8,8,8,8,8,8,8,8,8,8,8,8,8,8,8,8,8,8,8,8,8,8,8,8,8,8,8,8,8,8,8,8,8,8,8,8,8,8,8,8,8,8,8,8,8,8,8,8,8,8,8,8,8,8,8,8,8,8,8,8,8,8,8,8,8,8,8,8,8,8,8,8,8,8,8,8,8,8,8,8,8,8,8,8,8,8,8,8,8,8,8,8,8,8,8,8,8,8,8,8,8,8,8,8,8,8,8,8,8,8,8,8,8,8,8,8,8,8,8,8]⟩
theorem ahn:((List.range 256).all fun x=>(acA[x]?).map (·.toNat)==some (af x))=true:=by decide+kernel
theorem acB{x:Nat}(h:x<256):KP (.v (.string acA)) (.v (.int .u8 x))=some (.v (.int .u8 (af x))):=by
 have:=List.all_eq_true.1 ahn x (List.mem_range.2 h);simp only[KP];grind
theorem HX:JP=.seq (.ops [0,2] [co 2 (.mv (.c (.v (.int .i64 0))))]) (.seq (.seq (.ops [0,2,4] [cm 3 0,co 4 (.bin .geq (.t 3) (.c (.v (.int .u32 65536))))]) (.cond (.t 4) (.seq (.ops [0] [cm 5 0,co 6 (.bin .shr (.t 5) (.c (.v (.int .u64 16)))),cm 0 6]) (.ops [0,2] [co 2 (.mv (.c (.v (.int .i64 16))))])) (.skip))) (.seq (.seq (.ops [0,2,8] [cm 7 0,co 8 (.bin .geq (.t 7) (.c (.v (.int .u32 256))))]) (.cond (.t 8) (.seq (.ops [0,2] [cm 9 0,co 10 (.bin .shr (.t 9) (.c (.v (.int .u64 8)))),cm 0 10]) (.ops [0,2] [cm 11 2,co 12 (.bin .add (.t 11) (.c (.v (.int .i64 8)))),cm 2 12])) (.skip))) (.seq (.ops [2] [cm 13 2,cm 14 0,co 15 (.cv .u8 (.t 14)),co 16 (.idxS (.c (.v (.string acA))) (.t 15)),co 17 (.cv .i64 (.t 16)),co 18 (.bin .add (.t 13) (.t 17)),cm 2 18]) (.ret)))):=rfl
theorem w8{i:Int}{n:Nat}(h:i=n)(hn:n<256):IntKind.u8.wrap i=n:=by grind[IntKind.wrap_u8]
theorem HY{n k:Nat}{i:Int}{kk}{j:Int}(hi:i=n)(hj:j=k)(hk:k<=32):dU .shr (.v (.int .u32 i)) (.v (.int kk j))=some (.v (.int .u32 (n/2^k:Nat))):=by
 simp_all[Gu,if_neg,IntKind.bits,Option.some.injEq,AV.v.injEq,Value.int.injEq,true_and,Int.fdiv_eq_ediv_of_nonneg,Int.pow_nonneg]
theorem Cc{x}(k)(h:2^k<=x):af x=k+af (x/2^k):=by
 have:=jB x k;have:=jK.2 h;omega
theorem Wv{x:Nat}(hx:x<4294967296):R fad [U x] []=some (I (af x),[]):=by
 refine au We rfl ?_;have fin:∀ {y:Nat},y<256->∀ {n:Nat},n<=24->IntKind.u8.wrap y=y/\IntKind.i64.wrap (af y)=(af y)/\IntKind.i64.wrap (n+(af y))=(n+af y:Nat):=fun{y} hy {n} hn=>by
  have:af y<=8:=bD.2 hy;exact⟨w8 rfl hy,wi rfl ω,wi ω ω⟩
 have s16:=HY (n:=x) (k:=16) (kk:=.u64) (j:=16) rfl rfl ω;by_cases h1:65536<=x
 ·have e1:(65536<=(x:Int))=True:=tt;have b1:=Cc 16 h1;have s8:=HY (n:=x/2^16) (k:=8) (kk:=.u64) (j:=8) rfl rfl ω;by_cases h2:256<=x/2^16
  ·have e2:(256<=((x/2^16:Nat):Int))=True:=tt;have b2:=Cc 8 h2;have hy:x/2^16/2^8<256:=ω
   obtain⟨f1,f2,f3⟩:=fin hy (n:=24) ω;have g:IntKind.i64.wrap 24=24:=by grind[i64_in]
   have f3':IntKind.i64.wrap (24+(af (x/2^16/2^8)))=(af x:Nat):=γ
   simp only[oJ,HX,go_sem,e1,s16,e2,s8,g,f1,acB hy,f2,f3',Int.reduceAdd]
  ·have e2:(256<=((x/2^16:Nat):Int))=False:=ff;have hy:x/2^16<256:=ω
   obtain⟨f1,f2,f3⟩:=fin hy (n:=16) ω;have f3':IntKind.i64.wrap ((16:Int)+(af (x/2^16):Int))=((af x:Nat):Int):=γ
   simp only[oJ,HX,go_sem,ayz,ayE,e1,s16,e2,f1,acB hy,f2,f3']
 ·have e1:((65536:Int)<=(x:Int))=False:=ff;have s8:=HY (n:=x) (k:=8) (kk:=.u64) (j:=8) rfl rfl ω;by_cases h2:256<=x
  ·have e2:((256:Int)<=(x:Int))=True:=tt;have b2:=Cc 8 h2;have hy:x/2^8<256:=ω
   obtain⟨f1,f2,f3⟩:=fin hy (n:=8) ω;have g:IntKind.i64.wrap (8:Int)=8:=by grind[i64_in]
   have f3':IntKind.i64.wrap ((8:Int)+(af (x/2^8):Int))=((af x:Nat):Int):=γ
   simp only[oJ,HX,go_sem,ayz,ayE,e1,e2,s8,g,f1,acB hy,f2,f3',Int.reduceAdd]
  ·have e2:((256:Int)<=(x:Int))=False:=ff;have hy:x<256:=ω
   obtain⟨f1,f2,f3⟩:=fin hy (n:=0) ω;have f3':IntKind.i64.wrap ((0:Int)+(af x:Int))=((af x:Nat):Int):=γ
   simp only[oJ,HX,go_sem,ayz,ayE,e1,e2,f1,acB hy,f2,f3']
theorem Ww{n}(h:n≠0):af n=32*((av n).length-1)+af ((av n).getD ((av n).length-1) 0):=by
 induction n using Nat.strongRecOn with
 |ind n ih=>
  rw[re h,ayL,Nat.add_sub_cancel];by_cases h0:n/4294967296=0
  ·rw[h0,ft];grind
  ·have h2:(av (n/4294967296)).length≠0:=by
    intro e;exact h0 (oL.1 (List.length_eq_zero_iff.1 e))
   have h3:=Cc (x:=n) 32 ω;grind
theorem GV{m}(hb:Lb m)(h1:m.length<=100000):R fbX [lm m] []=some (I (af (ab m)),[]):=by
 refine au Qu rfl ?_;have la:=dx m hb;by_cases h:ab m=0
 ·have e1:((0:Nat):Int)=0:=rfl;simp only[tY,AT,go_sem,dB hb ω,h,ft,e1,pG]
 ·have hne:(av (ab m)).length≠0:=fun e=>h (oL.1 (List.length_eq_zero_iff.1 e));have e1:(((av (ab m)).length:Int)=0)=False:=ff;have e2:IntKind.i64.wrap ((av (ab m)).length-1)=((av (ab m)).length-1:Nat):=wi;have e3:IntKind.i64.wrap (32*((av (ab m)).length-1:Nat))=(32*((av (ab m)).length-1):Nat):=wi;have e4:aX (aB (av (ab m))) ((av (ab m)).length-1:Nat)=some (.ipt [U ((av (ab m)).getD ((av (ab m)).length-1) 0)]):=bv rfl ω;have e5:=Wv (bO (bc (ab m)) ((av (ab m)).length-1));have e6:af ((av (ab m)).getD ((av (ab m)).length-1) 0)<=32:=bD.2 (bO (bc (ab m)) _);have e7:IntKind.i64.wrap ((32*((av (ab m)).length-1):Nat)+(af ((av (ab m)).getD ((av (ab m)).length-1) 0)))=(af (ab m):Nat):=by
   rw[Ww h];exact wi ω ω
  simp only[tY,AT,go_sem,dB hb ω,e1,e2,e3,e4,e5,e7]
structure Rd where
 neg:Bool
 m:List Nat
 e:Int
def ah(d:Rd):List AV:=[B d.neg,lm d.m,I d.e]
def ae(d:Rd):AV:=.agg (ah d)
def aH:Rd:=⟨false,[],0⟩
def rh(n:Nat)(e:Int):Bool:=decide (n=0)|| (decide (n<=4096)&& (decide (-16384<=e)&& (decide (e<=16384)&&decide (n+e<=16384))))
def vd(d:Rd):Bool:=if d.m.length=0 then !d.neg&&decide (d.e=0)else decide (d.m.length<=256)&& (decide (d.m.getD 0 0%2=1)&& (decide (d.m.getD (d.m.length-1) 0≠0)&&rh (af (ab d.m)) d.e))
theorem wn{m}(hb:Lb m)(h1:m.length<=100000):R faZ [lm m] []=some (I (af (ab m)),[]):=by
 refine au TU rfl ?_;simp only[AR,IP,go_sem,GV hb h1]
theorem Pb{d}(hb:Lb d.m)(h1:d.m.length<=100000):R faW [ae d] []=some (B (rh (af (ab d.m)) d.e),[]):=by
 refine au Nh rfl ?_;unfold rh;by_cases a1:af (ab d.m)=0
 ·have e9:=wn hb h1;rw[a1,ayO]at e9;simp only[gS,kv,ae,ah,go_sem,e9,a1]
 have e1:(((af (ab d.m)):Int)=0)=False:=ff;by_cases a2:¬ (af (ab d.m)<=4096)
 ·have e2:(((af (ab d.m)):Int)<=4096)=False:=ff;simp only[gS,kv,ae,ah,go_sem,wn hb h1,e1,a1,e2,a2]
 replace a2:=Decidable.not_not.1 a2
 have e2:(((af (ab d.m)):Int)<=4096)=True:=tt;by_cases a3:¬ (-16384<=d.e)
 ·simp only[gS,kv,ae,ah,go_sem,wn hb h1,e1,a1,e2,a2,a3]
 replace a3:=Decidable.not_not.1 a3
 by_cases a4:¬ (d.e<=16384)
 ·simp only[gS,kv,ae,ah,go_sem,wn hb h1,e1,a1,e2,a2,a3,a4]
 replace a4:=Decidable.not_not.1 a4
 have e3:IntKind.i64.wrap ((af (ab d.m):Nat)+d.e)=(af (ab d.m):Nat)+d.e:=by grind[i64_in]
 simp only[gS,kv,ae,ah,go_sem,wn hb h1,e1,a1,e2,a2,a3,a4,e3]
def I64(n:Int):Prop:=-9223372036854775808<=n/\n<9223372036854775808
structure Ok0 (d:Rd):Prop where
 lb:Lb d.m
 len:d.m.length<4611686018427387904
theorem eC{d}(ok:Ok0 d):R faR [ae d] []=some (B (vd d),[]):=by
 refine au Qo rfl ?_;unfold vd;by_cases a0:d.m.length=0
 ·rw[if_pos a0];have e1:((d.m.length:Int)=0)=True:=tt;cases hn:d.neg with
  |true=>simp only[gZ,kr,ae,ah,hn,go_sem,e1]
  |false=>simp only[gZ,kr,ae,ah,hn,go_sem,e1]
 rw[if_neg a0];have e1:((d.m.length:Int)=0)=False:=ff;by_cases a1:¬d.m.length<=256
 ·have e2:((d.m.length:Int)<=256)=False:=ff;rw[decide_eq_false a1,ayh];simp only[gZ,kr,ae,ah,go_sem,e1,e2]
 replace a1:=Decidable.not_not.1 a1
 have e2:((d.m.length:Int)<=256)=True:=tt;have e3:aX (aB d.m) 0=some (.ipt [U (d.m.getD 0 0)]):=bv rfl ω;have e4:dU .rem (.v (.int .u32 (d.m.getD 0 0))) (.v (.int .u32 2))=some (.v (.int .u32 (d.m.getD 0 0%2:Nat))):=by
  simp_all[K3,if_neg,Int.tmod_eq_emod_of_nonneg]
 rw[decide_eq_true a1,ayg];by_cases a2:¬d.m.getD 0 0%2=1
 ·have e5:(((d.m.getD 0 0%2:Nat):Int)=1)=False:=ff;rw[decide_eq_false a2,ayh];simp only[gZ,kr,ae,ah,go_sem,e1,e2,e3,e4,e5]
 replace a2:=Decidable.not_not.1 a2
 have e5:(((d.m.getD 0 0%2:Nat):Int)=1)=True:=tt;rw[decide_eq_true a2,ayg];have e6:IntKind.i64.wrap (d.m.length-1)=(d.m.length-1:Nat):=wi;have e7:aX (aB d.m) (d.m.length-1:Nat)=some (.ipt [U (d.m.getD (d.m.length-1) 0)]):=bv rfl ω;by_cases a3:d.m.getD (d.m.length-1) 0=0
 ·have e8:((d.m.getD (d.m.length-1) 0:Int)=0)=True:=tt;rw[decide_eq_false (p:=d.m.getD (d.m.length-1) 0≠0) (fun h=>h a3),ayh];simp only[gZ,kr,ae,ah,go_sem,e1,e2,e3,e4,e5,e6,e7,e8]
 have e8:((d.m.getD (d.m.length-1) 0:Int)=0)=False:=ff;rw[decide_eq_true (p:=d.m.getD (d.m.length-1) 0≠0) a3,ayg];have e9:=Pb (d:=d) ok.lb ω;simp only[ae,ah]at e9;simp only[gZ,kr,ae,ah,go_sem,e1,e2,e3,e4,e5,e6,e7,e8,e9]
theorem QN{d}(ok:Ok0 d):R faO [ae d] []=some (I (if vd d=false\/d.m.length=0 then 0 else if d.neg=true then-1 else 1),[]):=by
 refine au TO rfl ?_;have e9:=eC ok;simp only[ae,ah]at e9;cases hv:vd d with
 |false=>
  rw[hv]at e9;rw[if_pos (Or.inl rfl)];simp only[mQ,sG,ae,ah,go_sem,e9]
 |true=>
  rw[hv]at e9;by_cases a0:d.m.length=0
  ·have e1:((d.m.length:Int)=0)=True:=tt;rw[if_pos (Or.inr a0)];simp only[mQ,sG,ae,ah,go_sem,e9,e1]
  ·have e1:((d.m.length:Int)=0)=False:=ff;rw[if_neg (fun h=>h.elim (fun h=>nomatch h) a0)];cases hn:d.neg with
   |true=>
    rw[hn]at e9;simp only[mQ,sG,ae,ah,hn,go_sem,e9,e1]
   |false=>
    rw[hn]at e9;simp only[mQ,sG,ae,ah,hn,go_sem,e9,e1]
theorem acC(m)(h2:m.length<4611686018427387904):∀ (n:Nat),n<=m.length->∀s h,s 0=lm m->s 3=I n->
  ai 0 [0,3] (ax (aj R (az false) j5) [0,3] [] s h)=some (.normal,⟨upd (upd (fun _=>.any) 3 (I (mJ m n))) 0 (lm m),fun _=>.dead⟩):=by
 intro n;induction n with
 |zero=>
  intro h1 s h h3 h4;rw[ag];simp only[j5,go_sem,h3,h4,mJ,ayO,ay6]
 |succ n ih=>
  intro h1 s h h3 h4;have hn:=h1;have e3:IntKind.i64.wrap (n+1-1)=n:=wi;have e1:=bv rfl hn;have e2:(0< (n:Int)+1)=True:=tt;have ih':=ih ω;rw[ag];by_cases hz:m.getD n 0=0
  ·simp only[j5,go_sem,h3,h4,mJ,Int.natCast_add,Int.natCast_one,e3,e1,e2,hz,ayO];exact ih' _ _ rfl rfl
  ·simp only[j5,go_sem,h3,h4,mJ,Int.natCast_add,Int.natCast_one,e3,e1,e2,hz,Int.natCast_eq_zero]
theorem Wx{m}(hb:Lb m)(h:m.length<4611686018427387904):R fa1 [lm m] []=some (lm (av (ab m)),[]):=by
 refine au Nk rfl ?_;have h1:eA 1 (lm m) none (some (I (mJ m m.length))) none=some (lm (av (ab m))):=by
  rw[J2 (a:=0) (b:=mJ m m.length) rfl (uU rfl (Eg _ _)) (Eg _ _),azb,Nat.sub_zero,M6 hb]
 simp only[wL,D5,go_sem,acC m h m.length (ayd _),h1]
theorem BO{e}:R faV [I e] []=some (B (decide (-32768<=e)&&decide (e<=32768)),[]):=by
 refine au LT rfl ?_;by_cases a1:¬ (-32768<=e)
 ·simp only[pu,wJ,go_sem,a1]
 replace a1:=Decidable.not_not.1 a1
 simp only[pu,wJ,go_sem,a1]
theorem Dh{d}(hb:Lb d.m)(h1:d.m.length<=100000):R faT [ae d] []=some (if rh (af (ab d.m)) d.e=true then .tup [ae d,I 0]else .tup [ae aH,I 9],[]):=by
 refine au Ni rfl ?_;have e9:=Pb hb h1;simp only[ae,ah]at e9;cases hv:rh (af (ab d.m)) d.e with
 |false=>
  rw[hv]at e9;simp only[qp,x9,ae,ah,aH,go_sem,e9]
 |true=>
  rw[hv]at e9;simp only[qp,x9,ae,ah,go_sem,e9]
theorem Wy(h)(m):vD h 1 (lm m)=some (aB m):=ag5 h 1 _
theorem HZ{m}(h0:m≠[])(h1:m.length<=100000):R fdG [lm m] []=some (lm m,[]):=by
 refine au Ar rfl ?_;have e1:KO false (lm m)=some (B false):=by
  cases m with
  |nil=>grind
  |cons x m=>rfl
 have e2:((True\/False)/\(0+m.length)*4<=140737488355328)=True:=eq_true ⟨Or.inl trivial,by omega⟩;have e3:(0+(0+m.length)<=m.length)=True:=tt;have e4:(0+m.length=m.length)=True:=tt;simp only[jv,p9,go_sem,e1,Wy,e2,e3,e4]
theorem Gi:cK.E fai=some tzF:=by kernel_rfl
theorem J5{x:Nat}(h:x≠0)(hx:x<4294967296):R fai [U x] []=some (I (tz x),[]):=by
 unfold R;rw[MX Gi];show(if 0< (x:Int)/\(x:Int)<4294967296/\[]=[]then some (I (Su 32 (x:Int).toNat),[])else none)=_;rw[if_pos ⟨by omega,by omega,rfl⟩,ayk,ami 32 x h ω]
theorem aho(m)(hb:Lb m)(h2:m.length<=100000):∀k i,i+k=m.length->ab (m.drop i)≠0->∀s h,s 6=lm m->s 7=I m.length->s 8=I i->s 3=I (32*i:Nat)->
  ai 0 [3] (ax (aj R (az false) ub) [3,6,7,8] [] s h)=some (.ret,⟨upd (fun _=>.any) 2 (I (32*i+tz (ab (m.drop i)):Nat)),fun _=>.dead⟩):=by
 intro k;induction k with
 |zero=>
  intro i hi hv;rw[ayw ω]at hv;exact absurd rfl hv
 |succ k ih=>
  intro i hi hv s h h6 h7 h8 h3;have e1:((i:Int)<m.length)=True:=tt;have e2:aX (aB m) i=some (.ipt [U (m.getD i 0)]):=bv rfl ω;have hx:=bO hb i;rw[fB]at hv;rw[ag];have e4:IntKind.i64.wrap ((32*i:Nat)+32)=(32*(i+1):Nat):=wi;have e5:IntKind.i64.wrap (i+1)=(i+1:Nat):=wi;by_cases hz:m.getD i 0=0
  ·have e3:((m.getD i 0:Int)=0)=True:=tt;have hv':ab (m.drop (i+1))≠0:=by
    omega
   have ih':=ih (i+1) ω hv';have e6:tz (ab (m.drop i))=32+tz (ab (m.drop (i+1))):=by
    rw[fB,hz,ayc];exact JX 32 hv'
   have e7:32*i+tz (ab (m.drop i))=32*(i+1)+tz (ab (m.drop (i+1))):=ω
   rw[e7];simp only[ub,go_sem,h3,h6,h7,h8,e1,e2,e3,e4,e5];exact ih' _ _ rfl rfl rfl rfl
  ·have e3:((m.getD i 0:Int)=0)=False:=ff;have e6:tz (ab (m.drop i))=tz (m.getD i 0):=by
    rw[fB];exact amh (k:=32) _ hz hx
   have e8:=Ul (k:=32) hz hx;have e7:IntKind.i64.wrap ((32*i:Nat)+(tz (m.getD i 0)))=(32*i+tz (m.getD i 0):Nat):=wi;rw[e6];simp only[ub,go_sem,h3,h6,h7,h8,e1,e2,e3,J5 hz hx,e7]
theorem amp{m}(hb:Lb m)(h1:m.length<=100000)(hv:ab m≠0):R faX [lm m] []=some (I (tz (ab m)),[]):=by
 refine au Wc rfl ?_;have h3:=aho m hb h1 m.length 0 (ayc _) hv;simp only[Nat.mul_zero,ayc,azb,ayO]at h3;simp only[CG,JM,go_sem];rw[h3 _ _ rfl rfl rfl rfl];simp only[go_sem]
def acD:Nat->Nat->List Nat
 |0,_=>[]
 |k+1,n=>if n=0 then []else n%4294967296::acD k (n/4294967296)
theorem ZB:∀ {k n:Nat},n<4294967296^k->acD k n=av n
 |0,n,h=>by
  have:n=0:=by simpa using h
  subst this;rw[ft];rfl
 |k+1,n,h=>by
  unfold acD;split
  ·rename_i h0;rw[h0,ft]
  ·rename_i h0;rw[re h0,ZB (Nat.div_lt_of_lt_mul (by rw[ayZ]at h;omega))]
def amq(neg:Bool)(M k:Nat)(e:Int):Rd:=if M%2^k=0/\M/2^k%2=1/\M/2^k<4294967296^24 then⟨neg,acD 24 (M/2^k),e+k⟩else⟨neg,av (M/2^tz M),e+tz M⟩
def bk(neg:Bool)(M:Nat)(e:Int):Rd:=if M=0 then aH else amq neg M (Nat.gcd M (2^40000)).log2 e
theorem se{neg:Bool}{M:Nat}{e:Int}:bk neg M e=if M=0 then aH else⟨neg,av (M/2^tz M),e+tz M⟩:=by
 unfold bk;split
 ·rfl
 ·generalize Nat.log2 _=k;unfold amq;split
  ·rename_i h0 h;obtain⟨h1,h2,h3⟩:=h;have e1:M=2^k*(M/2^k):=(Nat.mul_div_cancel' (Nat.dvd_of_mod_eq_zero h1)).symm;have e2:tz M=k:=by
    rw[e1,JX _ ω,xu h2,ayF]
   rw[e2,ZB h3]
  ·rfl
def Exq(e:Int):Prop:=-1000000<=e/\e<=1000000
theorem nN{neg}{m}{e}(hb:Lb m)(h1:m.length<=256)(he:Exq e):R faS [B neg,lm m,I e] []=some (ae (bk neg (ab m) e),[]):=by
 refine au J0 rfl ?_;obtain⟨he1,he2⟩:=he;rw[se];by_cases h0:ab m=0
 ·have hd:R fa1 [lm m] []=some (lm [],[]):=by
   grind[Wx,ft]
  rw[if_pos h0];simp only[nY,uL,ae,ah,aH,go_sem,hd,ayR,ayO]
 have hn:=fun h=>h0 (oL.1 h);have hl:0< (av (ab m)).length:=by
  grind
 have hl2:=ayj (dx m hb) h1;have hdb:Lb (av (ab m)):=bc _;have e1:(((av (ab m)).length:Int)=0)=False:=ff;have ht:=Ul (k:=32*256) h0 (by
  have:=cI hb;have h3:4294967296^m.length<=4294967296^256:=ayP δ h1;omega)
 have hlow:=amp hdb ω (by grind[aN]);rw[aN]at hlow;have hs:=aer (n:=(tz (ab m))) hdb hl2;rw[if_neg ω,aN,ayk]at hs;have hq:av (ab m/2^tz (ab m))≠[]:=by
  intro h;have:=(tC h0).2;rw[oL.1 h]at this;omega
 have hq2:(av (ab m/2^tz (ab m))).length<=100000:=by
  have h5:(av (ab m/2^tz (ab m))).length<=m.length:=jR (ayS (Nat.div_le_self _ _) (cI hb));omega
 have hc:=HZ hq hq2;have e2:IntKind.i64.wrap (e+(tz (ab m)))=e+(tz (ab m)):=by grind[i64_in]
 rw[if_neg h0];simp only[nY,uL,ae,ah,go_sem,Wx hb (ayS h1 δ),e1,hlow,hs,hc,QJ,e2]
theorem Cd{d}(h:vd d=true)(h0:d.m.length≠0):d.m.length<=256/\d.m.getD 0 0%2=1/\d.m.getD (d.m.length-1) 0≠0/\rh (af (ab d.m)) d.e=true:=by
 simp_all[vd,if_neg,ayf,decide_eq_true_eq]
theorem Bb{d}(h:vd d=true)(h0:d.m.length=0):d=aH:=by
 unfold vd at h;obtain⟨n,m,e⟩:=d;grind[aH]
theorem Bc{n}{e}(h:rh n e=true)(h0:n≠0):n<=4096∧-16384<=e/\e<=16384/\n+e<=16384:=by
 simp_all[rh,Bool.or_eq_true,ayf,decide_eq_true_eq]
theorem ef{d}(h:vd d=true)(_hb:Lb d.m):d.m.length<=256∧-16384<=d.e/\d.e<=16384/\af (ab d.m)<=4096:=by
 by_cases h0:d.m.length=0
 ·rw[Bb h h0];exact⟨by decide,by decide,by decide,by decide⟩
 obtain⟨h1,h2,h3,h4⟩:=Cd h h0;have hv:ab d.m≠0:=by
  have:=fB d.m 0;grind
 have hn:af (ab d.m)≠0:=by
  grind[fu]
 obtain⟨h5,h6,h7,h8⟩:=Bc h4 hn;omega
def aL(d:Rd):Int:=if vd d=false\/d.m.length=0 then 0 else(af (ab d.m))+d.e
theorem Ce{d}(ok:Ok0 d):R faQ [ae d] []=some (I (aL d),[]):=by
 refine au Wa rfl ?_;have e9:=eC ok;simp only[ae,ah]at e9;unfold aL;cases hv:vd d with
 |false=>
  rw[hv]at e9;rw[if_pos (Or.inl rfl)];simp only[sQ,zT,ae,ah,go_sem,e9]
 |true=>
  rw[hv]at e9;by_cases a0:d.m.length=0
  ·have e1:((d.m.length:Int)=0)=True:=tt;rw[if_pos (Or.inr a0)];simp only[sQ,zT,ae,ah,go_sem,e9,e1]
  ·have e1:((d.m.length:Int)=0)=False:=ff;rw[if_neg (fun h=>h.elim (fun h=>nomatch h) a0)];obtain⟨h1,h2,h3,h4⟩:=ef hv ok.lb;have e2:IntKind.i64.wrap ((af (ab d.m):Nat)+d.e)=(af (ab d.m):Nat)+d.e:=by grind[i64_in]
   simp only[sQ,zT,ae,ah,go_sem,e9,e1,wn ok.lb (ayj h1 δ),e2]
theorem NA{d}(ok:Ok0 d):R faH [ae d] []=some (I (if vd d=true then(af (ab d.m))else 0),[]):=by
 refine au T0 rfl ?_;have e9:=eC ok;simp only[ae,ah]at e9;cases hv:vd d with
 |false=>
  rw[hv]at e9;simp only[vW,CF,ae,ah,go_sem,e9]
 |true=>
  rw[hv]at e9;obtain⟨h1,h2,h3,h4⟩:=ef hv ok.lb;simp only[vW,CF,ae,ah,go_sem,e9,wn ok.lb (ayj h1 δ)]
theorem GW{d}(ok:Ok0 d):R faM [ae d] []=some (ae (if vd d=false\/d.m.length=0 then aH else⟨!d.neg,d.m,d.e⟩),[]):=by
 refine au VO rfl ?_;have e9:=eC ok;simp only[ae,ah]at e9;cases hv:vd d with
 |false=>
  rw[hv]at e9;rw[if_pos (Or.inl rfl)];simp only[sE,zA,ae,ah,aH,go_sem,e9]
 |true=>
  rw[hv]at e9;by_cases a0:d.m.length=0
  ·have e1:((d.m.length:Int)=0)=True:=tt;rw[if_pos (Or.inr a0)];simp only[sE,zA,ae,ah,aH,go_sem,e9,e1]
  ·have e1:((d.m.length:Int)=0)=False:=ff;rw[if_neg (fun h=>h.elim (fun h=>nomatch h) a0)];obtain⟨h1,h2,h3,h4⟩:=ef hv ok.lb;have hc:=HZ (m:=d.m) (fun h=>a0 γ) (ayj h1 δ);simp only[sE,zA,ae,ah,go_sem,e9,e1,hc]
theorem Pc{d}(ok:Ok0 d):R faF [ae d] []=some (ae (if vd d=false\/d.m.length=0 then aH else⟨false,d.m,d.e⟩),[]):=by
 refine au Wi rfl ?_;have e9:=eC ok;simp only[ae,ah]at e9;cases hv:vd d with
 |false=>
  rw[hv]at e9;rw[if_pos (Or.inl rfl)];simp only[sW,Ae,ae,ah,aH,go_sem,e9]
 |true=>
  rw[hv]at e9;by_cases a0:d.m.length=0
  ·have e1:((d.m.length:Int)=0)=True:=tt;rw[if_pos (Or.inr a0)];simp only[sW,Ae,ae,ah,aH,go_sem,e9,e1]
  ·have e1:((d.m.length:Int)=0)=False:=ff;rw[if_neg (fun h=>h.elim (fun h=>nomatch h) a0)];obtain⟨h1,h2,h3,h4⟩:=ef hv ok.lb;have hc:=HZ (m:=d.m) (fun h=>a0 γ) (ayj h1 δ);simp only[sW,Ae,ae,ah,go_sem,e9,e1,hc]
theorem Di{m:List Nat}(hb:Lb m)(h1:m.length<=256){k:Nat}(hk:k<=65536)(hl:(av (ab m*2^k)).length<=256):R faY [lm m,I k] []=some (lm (av (ab m*2^k)),[]):=by
 refine au Nj rfl ?_;have hs:=aep (n:=(k:Nat)) hb h1;rw[if_neg ω,ayk,kL,if_neg ω]at hs;simp only[wK,D4,go_sem,hs]
theorem ajL{neg:Bool}{m:List Nat}{e:Int}(hb:Lb m)(hl:m.length<4611686018427387904):R faK [B neg,lm m,I e] []=some (if 256<m.length\/e< -32768\/32768<e then .tup [ae aH,I 1]
  else if rh (af (ab (bk neg (ab m) e).m)) (bk neg (ab m) e).e=true then .tup [ae (bk neg (ab m) e),I 0]else .tup [ae aH,I 9],[]):=by
 refine au Uc rfl ?_;by_cases a1:256<m.length
 ·have e1:((256:Int)<m.length)=True:=tt;rw[if_pos (Or.inl a1)];simp only[mU,sU,ae,ah,aH,go_sem,e1]
 have e1:((256:Int)<m.length)=False:=ff;by_cases a2:e< -32768\/32768<e
 ·have e2:(decide (-32768<=e)&&decide (e<=32768))=false:=by
   grind
  rw[if_pos (Or.inr a2)];simp only[mU,sU,ae,ah,aH,go_sem,e1,BO,e2]
 have e2:(decide (-32768<=e)&&decide (e<=32768))=true:=by
  grind
 rw[if_neg (fun h=>h.elim a1 a2)];have hc:=nN (neg:=neg) (e:=e) hb ω ⟨by omega,by omega⟩;have hL:Lb (bk neg (ab m) e).m:=by
  rw[se];split
  ·exact fun x hx=>nomatch hx
  grind[bc]
 have hN:(bk neg (ab m) e).m.length<=100000:=by
  rw[se];split
  ·exact ayB _
  ·have h5:(av (ab m/2^tz (ab m))).length<=m.length:=jR (ayS (Nat.div_le_self _ _) (cI hb));grind
 have hd:=Dh hL hN;generalize bk neg (ab m) e=d at hc hd⊢;simp only[ae,ah]at hc hd;cases hv:rh (af (ab d.m)) d.e with
 |false=>
  rw[hv,if_neg (fun h=>nomatch h)]at hd;simp only[mU,sU,ae,ah,aH,go_sem,e1,BO,e2,hc,hd]
 |true=>
  rw[hv,if_pos rfl]at hd;simp only[mU,sU,ae,ah,go_sem,e1,BO,e2,hc,hd]
def mg(d:Rd):Nat:=ab d.m*2^ (d.e+16384).toNat
def zI(d:Rd):Int:=if d.neg=true then-(mg d:Int)else mg d
theorem ahp{x y k:Nat}(hk:0<k):cj (x*k) (y*k)=cj x y:=by
 simp_all[cj,Nat.mul_lt_mul_right,if_pos,if_neg]
theorem H0{x y:Nat}(h:af x<af y):x<y:=by
 have h1:=(bD (n:=x) (k:=af x)).1 (ayd _);have h2:=jK.1 h;omega
theorem dt{d:Rd}(h:vd d=true)(h0:d.m.length≠0):ab d.m≠0:=by
 obtain⟨h1,h2,h3,h4⟩:=Cd h h0;have:=fB d.m 0;grind
theorem K6{d:Rd}(h:vd d=true)(hb:Lb d.m)(h0:d.m.length≠0):(af (mg d):Int)=aL d+16384:=by
 obtain⟨h1,h2,h3,h4⟩:=ef h hb;unfold mg aL;rw[dk _ (dt h h0),if_neg (fun h'=>h'.elim (fun h''=>by grind) h0)];omega
theorem uX{d:Rd}{e:Int}(h1:-16384<=e)(h2:e<=d.e):mg d=ab d.m*2^ (d.e-e).toNat*2^ (e+16384).toNat:=by
 unfold mg;rw[ayD,←ayn];grind
theorem aV{n k:Nat}(h:af n<=32*k):(av n).length<=k:=by
 refine jR ?_;have:=bD.1 h;grind[Nat.pow_mul]
theorem acE{a b:Rd}(oa:Ok0 a)(ob:Ok0 b)(va:vd a=true)(vb:vd b=true)(na:a.m.length≠0)(nb:b.m.length≠0):R faU [ae a,ae b] []=some (I (cj (mg a) (mg b)),[]):=by
 refine au Ng rfl ?_;have ta:=Ce oa;have tb:=Ce ob;have ba:=K6 va oa.lb na;have bb:=K6 vb ob.lb nb;simp only[ae,ah]at ta tb;by_cases h1:aL a<aL b
 ·have h2:cj (mg a) (mg b)=-1:=by
   rw[cj,if_pos (H0 ω)]
  have e1:(aL a<aL b)=True:=tt h1;rw[h2];simp only[lW,rO,ae,ah,go_sem,ta,tb,e1]
 have e1:(aL a<aL b)=False:=ff h1;by_cases h2:aL b<aL a
 ·have h3:cj (mg a) (mg b)=1:=by
   have:=H0 (x:=mg b) (y:=mg a) ω;rw[cj,if_neg ω,if_pos this]
  have e2:(aL b<aL a)=True:=tt h2;rw[h3];simp only[lW,rO,ae,ah,go_sem,ta,tb,e1,e2]
 have e2:(aL b<aL a)=False:=ff h2;obtain⟨a1,a2,a3,a4⟩:=ef va oa.lb;obtain⟨b1,b2,b3,b4⟩:=ef vb ob.lb;obtain⟨e,hm⟩:∃e,(if b.e<a.e then b.e else a.e)=e:=⟨_,rfl⟩;have hea:e<=a.e/\e<=b.e/\(e=a.e\/e=b.e):=by
  omega
 obtain⟨m1,m2,m3⟩:=hea;have ka:IntKind.i64.wrap (a.e-e)=(((a.e-e).toNat:Nat):Int):=wi;have kb:IntKind.i64.wrap (b.e-e)=(((b.e-e).toNat:Nat):Int):=wi;have hta:aL a=(af (ab a.m):Nat)+a.e:=by
  simp_all[aL,if_neg]
 have htb:aL b=(af (ab b.m):Nat)+b.e:=by
  simp_all[aL,if_neg]
 have la:(av (ab a.m*2^ (a.e-e).toNat)).length<=256:=aV (by
  grind[dk,dt])
 have lb:(av (ab b.m*2^ (b.e-e).toNat)).length<=256:=aV (by
  grind[dk,dt])
 have sa:=Di oa.lb a1 (k:=(a.e-e).toNat) ω la;have sb:=Di ob.lb b1 (k:=(b.e-e).toNat) ω lb;have hc:=Ah (bc (ab a.m*2^ (a.e-e).toNat)) (bc (ab b.m*2^ (b.e-e).toNat)) (ayj la δ) (ayj lb δ);rw[aN,aN,←ahp (k:=2^ (e+16384).toNat) (ayr _),←uX ω m1,←uX ω m2]at hc;simp only[lW,rO,ae,ah,go_sem,ta,tb,e1,e2,hm,ka,kb,sa,sb,hc]
def cx(x y:Int):Int:=if x<y then-1 else if y<x then 1 else 0
def cQ(d:Rd):Int:=if d.m.length=0 then 0 else if d.neg=true then-1 else 1
theorem ZC{d:Rd}(h0:d.m.length=0):mg d=0:=by
 unfold mg;rw[List.length_eq_zero_iff.1 h0];exact Nat.zero_mul _
theorem GX{d:Rd}(h:vd d=true)(h0:d.m.length≠0):0<mg d:=
 Nat.mul_pos (Nat.pos_of_ne_zero (dt h h0)) (ayr _)
theorem Ew(d:Rd)(h:vd d=true):(cQ d=0/\zI d=0/\d.m.length=0)\/(cQ d=-1/\zI d=-(mg d:Int)/\0<mg d/\d.m.length≠0)\/(cQ d=1/\zI d=mg d/\0<mg d/\d.m.length≠0):=by
 unfold cQ zI;by_cases h0:d.m.length=0
 ·grind[ZC]
 ·have:=GX h h0;grind
theorem Ey{d:Rd}(ok:Ok0 d)(hv:vd d=true):R faO [ae d] []=some (I (cQ d),[]):=by
 simp_all[QN,cQ,if_pos,if_neg]
theorem ri{a b:Rd}(oa:Ok0 a)(ob:Ok0 b):R faI [ae a,ae b] []=some (I (if vd a=true/\vd b=true then cx (zI a) (zI b)else 0),[]):=by
 refine au VP rfl ?_;have va:=eC oa;have vb:=eC ob;simp only[ae,ah]at va vb;cases ha:vd a with
 |false=>
  rw[ha]at va;simp only[jN,ni,ae,ah,go_sem,va]
 |true=>
 rw[ha]at va;cases hb:vd b with
 |false=>
  rw[hb]at vb;simp only[jN,ni,ae,ah,go_sem,va,vb]
 |true=>
 rw[hb]at vb;have sa:=Ey oa ha;have sb:=Ey ob hb;have ca:=Ew a ha;have cb:=Ew b hb;simp only[ae,ah]at sa sb;by_cases h1:cQ a<cQ b
 ·have e1:(cQ a<cQ b)=True:=tt h1;have e2:cx (zI a) (zI b)=-1:=if_pos ω;rw[e2];simp only[jN,ni,ae,ah,go_sem,va,vb,sa,sb,e1]
 have e1:(cQ a<cQ b)=False:=ff h1;by_cases h2:cQ b<cQ a
 ·have e2:(cQ b<cQ a)=True:=tt h2;have e3:cx (zI a) (zI b)=1:=by rw[cx,if_neg ω,if_pos ω]
  rw[e3];simp only[jN,ni,ae,ah,go_sem,va,vb,sa,sb,e1,e2]
 have e2:(cQ b<cQ a)=False:=ff h2;by_cases h3:cQ a=0
 ·have e3:(cQ a=0)=True:=tt h3;have e4:cx (zI a) (zI b)=0:=by rw[cx,if_neg ω,if_neg ω]
  rw[e4];simp only[jN,ni,ae,ah,go_sem,va,vb,sa,sb,e1,e2,e3]
 have e3:(cQ a=0)=False:=ff h3;have hc:=acE oa ob ha hb ω ω;simp only[ae,ah]at hc;have e4:IntKind.i64.wrap (cQ a*cj (mg a) (mg b))=cx (zI a) (zI b):=by
  have hp:cQ a*cj (mg a) (mg b)=cx (zI a) (zI b):=by
   rcases ca with ca|ca|ca
   ·omega
   ·rw[ca.1,ca.2.1];unfold cj cx;omega
   ·rw[ca.1,ca.2.1];unfold cj cx;omega
  rw[hp];unfold cx;split
  ·decide
  ·split<;>decide
 simp only[jN,ni,ae,ah,go_sem,va,vb,sa,sb,e1,e2,e3,hc,e4]
theorem J6(x y:Nat):af (x*y)<=af x+af y:=by
 rw[bD,ayn];exact Nat.mul_lt_mul'' (bD.1 (ayd _)) (bD.1 (ayd _))
theorem yG(neg:Bool)(M:Nat)(e:Int):Lb (bk neg M e).m:=by
 rw[se];split
 ·exact fun x hx=>nomatch hx
 grind[bc]
theorem Be{neg:Bool}{M:Nat}{e:Int}{k:Nat}(h:af M<=32*k):(bk neg M e).m.length<=k:=by
 rw[se];split
 ·exact ayB _
 ·refine aV ?_;grind[jB]
def H1(d:Rd):AV:=if rh (af (ab d.m)) d.e=true then .tup [ae d,I 0]else .tup [ae aH,I 9]
def Un(a b:Rd):AV:=if vd a=true/\vd b=true then if a.m.length=0\/b.m.length=0 then .tup [ae aH,I 0]else if 4096<af (ab a.m)+af (ab b.m)-1 then .tup [ae aH,I 9]else H1 (bk (a.neg !=b.neg) (ab a.m*ab b.m) (a.e+b.e))else .tup [ae aH,I 1]
theorem Ai(a b:Bool):(true != (a==b))=(a !=b):=by cases a<;>cases b<;>rfl
theorem ajM{a b:Rd}(oa:Ok0 a)(ob:Ok0 b):R faL [ae a,ae b] []=some (Un a b,[]):=by
 refine au VW rfl ?_;unfold Un;have va:=eC oa;have vb:=eC ob;simp only[ae,ah]at va vb;cases ha:vd a with
 |false=>
  rw[ha]at va;simp only[iw,kV,ae,ah,aH,go_sem,va]
 |true=>
 rw[ha]at va;cases hb:vd b with
 |false=>
  rw[hb]at vb;simp only[iw,kV,ae,ah,aH,go_sem,va,vb]
 |true=>
 rw[hb]at vb;rw[if_pos ⟨rfl,rfl⟩];by_cases a0:a.m.length=0
 ·have e1:((a.m.length:Int)=0)=True:=tt;rw[if_pos (Or.inl a0)];simp only[iw,kV,ae,ah,aH,go_sem,va,vb,e1]
 have e1:((a.m.length:Int)=0)=False:=ff;by_cases b0:b.m.length=0
 ·have e2:((b.m.length:Int)=0)=True:=tt;rw[if_pos (Or.inr b0)];simp only[iw,kV,ae,ah,aH,go_sem,va,vb,e1,e2]
 have e2:((b.m.length:Int)=0)=False:=ff;rw[if_neg (fun h=>h.elim a0 b0)];obtain⟨a1,a2,a3,a4⟩:=ef ha oa.lb;obtain⟨b1,b2,b3,b4⟩:=ef hb ob.lb;have za:=wn oa.lb (ayj a1 δ);have zb:=wn ob.lb (ayj b1 δ);have pa:=fu (dt ha a0);have w1:IntKind.i64.wrap (((af (ab a.m):Nat):Int)+(af (ab b.m):Nat))=((af (ab a.m)+af (ab b.m):Nat):Int):=wi;have w2:IntKind.i64.wrap (((af (ab a.m)+af (ab b.m):Nat):Int)-1)=((af (ab a.m)+af (ab b.m)-1:Nat):Int):=wi;by_cases c0:4096<af (ab a.m)+af (ab b.m)-1
 ·have e3:((4096:Int)< ((af (ab a.m)+af (ab b.m)-1:Nat):Int))=True:=tt;rw[if_pos c0];simp only[iw,kV,ae,ah,aH,go_sem,va,vb,e1,e2,za,zb,w1,w2,e3]
 have e3:((4096:Int)< ((af (ab a.m)+af (ab b.m)-1:Nat):Int))=False:=ff;rw[if_neg c0];have hp:=J6 (ab a.m) (ab b.m);have hl:(av (ab a.m*ab b.m)).length<=129:=aV ω;have hm:=aeo oa.lb ob.lb a1 b1;rw[kL,if_neg ω]at hm;have w3:IntKind.i64.wrap (a.e+b.e)=a.e+b.e:=i64_in _ ⟨by omega,by omega⟩;have hc:=nN (neg:=a.neg !=b.neg) (e:=a.e+b.e) (bc (ab a.m*ab b.m)) (ayj hl δ) ⟨by omega,by omega⟩;rw[aN]at hc;have hd:=Dh (yG (a.neg !=b.neg) (ab a.m*ab b.m) (a.e+b.e)) (ayj (Be (k:=129) ω) δ);unfold H1;generalize bk (a.neg !=b.neg) (ab a.m*ab b.m) (a.e+b.e)=d at hc hd⊢;simp only[ae,ah]at hc hd;cases hv:rh (af (ab d.m)) d.e with
 |false=>
  rw[hv,if_neg (fun h=>nomatch h)]at hd;rw[if_neg (fun h=>nomatch h)];simp only[iw,kV,ae,ah,aH,go_sem,va,vb,e1,e2,za,zb,w1,w2,w3,e3,hm,Ai,hc,hd]
 |true=>
  rw[hv,if_pos rfl]at hd;rw[if_pos rfl];simp only[iw,kV,ae,ah,go_sem,va,vb,e1,e2,za,zb,w1,w2,w3,e3,hm,Ai,hc,hd]
theorem Pd{p:Int}:R fdx [I p] []=some (B (decide (8<=p)&&decide (p<=512)),[]):=by
 refine au O5 rfl ?_;by_cases a1:¬ (8<=p)
 ·simp only[rU,zY,go_sem,a1]
 replace a1:=Decidable.not_not.1 a1
 simp only[rU,zY,go_sem,a1]
theorem H2{m:List Nat}(hb:Lb m):af (ab m)<=32*m.length:=by
 rw[bD,Nat.pow_mul];exact cI hb
def xz(m:List Nat)(e:Int)(more:Bool):AV:=.agg [lm m,I e,B more]
theorem apv{d:Rd}:R fdw [ae d] []=some (xz d.m d.e false,[]):=by
 refine au acw rfl ?_;simp only[Gd,ON,ae,ah,xz,go_sem]
theorem Bg{m:List Nat}(hb:Lb m)(h1:m.length<=256){k:Nat}(hk:k<=65536)(hl:(av (ab m*2^k)).length<=256):R fdz [lm m,I k] []=some (lm (av (ab m*2^k)),[]):=by
 refine au YY rfl ?_;have hs:=aep (n:=(k:Nat)) hb h1;rw[if_neg ω,ayk,kL,if_neg ω]at hs;simp only[Ea,MB,go_sem,hs]
theorem aet{x y:Nat}:cj x y=0↔x=y:=by
 unfold cj;constructor
 ·intro h;split at h
  ·exact nomatch h
  ·split at h
   ·exact nomatch h
   ·omega
 ·intro h;rw[if_neg ω,if_neg ω]
theorem ahq{x n:Nat}:x/2^ (min n (af x))=x/2^n/\(x/2^ (min n (af x))*2^ (min n (af x))=x↔x%2^n=0):=by
 by_cases h:n<=af x
 ·rw[ay0 h];refine⟨rfl,?_⟩;have:=ay4 x (2^n);rw[ayy]at this;omega
 ·have hb:x<2^af x:=bD.1 (ayd _);have hn:x<2^n:=bD.1 ω;rw[Nat.min_eq_right ω,Nat.div_eq_of_lt hb,Nat.div_eq_of_lt hn,ayV hn,Nat.zero_mul];exact⟨rfl,⟨fun h=>h.symm,fun h=>h.symm⟩⟩
theorem ZD{m:List Nat}(hb:Lb m)(h1:m.length<=256){n:Nat}(hn:n<4611686018427387904):R fdA [lm m,I n] []=some (.tup [lm (av (ab m/2^n)),B (decide (ab m%2^n≠0))],[]):=by
 refine au Y0 rfl ?_;have hB:=GV hb (ayj h1 δ);have hlen:=H2 hb;obtain⟨q1,q2⟩:=ahq (x:=ab m) (n:=n);generalize hk:min n (af (ab m))=k at q1 q2;have k1:k<=8192:=ω
 have hs:=aer (n:=(k:Nat)) hb h1;rw[if_neg ω,ayk,q1]at hs;rw[q1]at q2;have hle:ab m/2^n*2^k<=ab m:=by
  rw[←q1];exact Nat.div_mul_le_self _ _
 have l1:(av (ab m/2^n)).length<=m.length:=jR (ayS (Nat.div_le_self _ _) (cI hb));have l2:(av (ab m/2^n*2^k)).length<=m.length:=jR (ayS hle (cI hb));have hl:=Bg (bc (ab m/2^n)) ω (k:=k) ω (by rw[aN];omega);rw[aN]at hl;have hc:=Ah (bc (ab m/2^n*2^k)) hb ω ω;rw[aN]at hc;have hz:decide (ab m%2^n≠0)=!decide (cj (ab m/2^n*2^k) (ab m)=0):=by
  rw[←decide_not,decide_eq_decide,ne_eq,not_congr (aet.trans q2)]
 rw[hz];generalize cj (ab m/2^n*2^k) (ab m)=c at hc⊢;by_cases h:af (ab m)<n
 ·have e2:k=af (ab m):=ω
  have e1:((k:Int)<n)=True:=tt;rw[←e2]at hB;simp only[zZ,Ge,go_sem,hB,e1,hs,hl,hc]
 ·have e1:(((af (ab m):Nat):Int)<n)=False:=ff;have e2:k=n:=ω
  subst e2;simp only[zZ,Ge,go_sem,hB,e1,hs,hl,hc]
def Ez(l:List Rd):List (List AV):=l.map ah
def Cf(l:List Rd):AV:=.sl 3 (Ez l)
@[go_sem] theorem avI(l:List Rd):(Ez l).length=l.length:=by simp[Ez]
theorem ajN{l:List Rd}{i:Int}{n:Nat}{d:Rd}(hi:i=n)(h:l[n]?=some d):aX (Ez l) i=some (.ipt (ah d)):=by
 grind[aX,Ez]
theorem acF(p:Int)(l:List Rd)(ok:∀d∈l,Ok0 d)(h2:l.length<=100000):∀ (k i:Nat),i+k=l.length->∀ (s:ak) (h:ac),s 0=I p->s 7=Cf l->s 8=I l.length->s 9=I i->
  ∃hh,ai 0 [0] (ax (aj R (az false) nF) [0,7,8,9] [] s h)=if((l.drop i).all vd)=true then some (.normal,⟨upd (fun _=>.any) 0 (I p),fun _=>.dead⟩)else some (.ret,⟨upd (fun _=>.any) 4 (I 1),hh⟩):=by
 intro k;induction k with
 |zero=>
  intro i hi s h h0 h7 h8 h9;have e1:((i:Int)<l.length)=False:=ff;rw[ayw ω,ag,List.all_nil,if_pos rfl];refine⟨fun _=>.dead,?_⟩;simp only[nF,go_sem,h0,h7,h8,h9,e1]
 |succ k ih=>
  intro i hi s h h0 h7 h8 h9;have hlt:i<l.length:=ω
  have e1:((i:Int)<l.length)=True:=tt;have e2:aX (Ez l) (i:Int)=some (.ipt (ah l[i])):=ajN rfl (List.getElem?_eq_getElem hlt);have e5:IntKind.i64.wrap ((i:Int)+1)=((i+1:Nat):Int):=wi;have e3:=eC (ok l[i] (ayC hlt));rw[ayv hlt,ayJ,ag];have ih':=ih (i+1) ω;generalize l[i]=d at e2 e3⊢;simp only[ae]at e3;simp only[ah]at e2 e3;cases hv:vd d with
  |false=>
   rw[hv]at e3;refine⟨?hh,?_⟩;rotate_left;simp only[nF,go_sem,h0,h7,h8,h9,Cf,e1,e2,e3];rfl
  |true=>
   rw[hv]at e3;simp only[nF,go_sem,h0,h7,h8,h9,Cf,e1,e2,e3,e5];exact ih' _ _ rfl rfl rfl rfl
def aZ(p:Int)(l:List Rd):Int:=if l.all vd=true then(if 8<=p/\p<=512 then 0 else 2)else 1
theorem Bh{p:Int}{l:List Rd}(ok:∀d∈l,Ok0 d)(h2:l.length<=100000):R fdu [I p,Cf l] []=some (I (aZ p l),[]):=by
 refine au TZ rfl ?_;have h3:=acF p l ok h2 l.length 0 (ayc _);simp only[azb,ayO]at h3;unfold aZ;cases ha:l.all vd with
 |false=>
  rw[ha]at h3;simp only[qQ,xM,go_sem,Cf];rw[(h3 _ _ rfl rfl rfl rfl).choose_spec];simp only[go_sem]
 |true=>
  rw[ha]at h3;by_cases hp:8<=p/\p<=512
  ·have e1:(decide (8<=p)&&decide (p<=512))=true:=γ
   have e2:=Pd (p:=p);rw[e1]at e2;rw[if_pos hp];simp only[qQ,xM,go_sem,Cf];rw[(h3 _ _ rfl rfl rfl rfl).choose_spec];simp only[go_sem,e2]
  ·have e1:(decide (8<=p)&&decide (p<=512))=false:=by
    grind
   have e2:=Pd (p:=p);rw[e1]at e2;rw[if_neg hp];simp only[qQ,xM,go_sem,Cf];rw[(h3 _ _ rfl rfl rfl rfl).choose_spec];simp only[go_sem,e2]
noncomputable def eN:Cmd:=.seq (.seq (.ops [1,2,6,8,9,55] [cm 52 2,cm 53 52,cg 54 53 true (.mv (.t 10)),co 55 (.pick (.t 53) (.t 54) (.c (.v (.bool false))))]) (.cond (.t 55) (.ops [1,2,6,8,9] [cm 57 9,⟨(some 58),none,.buildSl 1 [(.v (.int .u32 0))] 1 [(0,(.c (.v (.int .u32 1))))]⟩,⟨(some 59),none,.call (.c (.fn fbW [] [])) [(.t 57),(.t 58)]⟩,cm 56 59,co 60 (.ext 0 (.t 56)),co 61 (.ext 1 (.t 56)),cm 9 60]) (.skip))) (.seq (.seq (.ops [1,2,6,8,9,66] [cm 62 9,⟨(some 63),none,.call (.c (.fn fbX [] [])) [(.t 62)]⟩,cm 64 8,co 65 (.bin .add (.t 63) (.t 64)),co 66 (.bin .gtr (.t 65) (.c (.v (.int .i64 16384))))]) (.cond (.t 66) (.seq (.seq (.ops [1,6,67] [cm 67 2]) (.cond (.t 67) (.seq (.ops [6,7] [co 68 (.build [(.v (.bool false)),.emp,(.v (.int .i64 0))] []),⟨none,none,.store 3 (.t 6) (.t 68)⟩,co 7 (.mv (.c (.v (.int .i64 9))))]) (.ret)) (.skip))) (.seq (.ops [1,6,9] [⟨(some 70),none,.buildSl 1 [(.v (.int .u32 0))] 1 [(0,(.c (.v (.int .u32 1))))]⟩,cm 71 1,⟨(some 72),none,.call (.c (.fn fdz [] [])) [(.t 70),(.t 71)]⟩,⟨(some 73),none,.buildSl 1 [(.v (.int .u32 0))] 1 [(0,(.c (.v (.int .u32 1))))]⟩,⟨(some 74),none,.call (.c (.fn fb3 [] [])) [(.t 72),(.t 73)]⟩,cm 69 74,co 75 (.ext 0 (.t 69)),co 76 (.ext 1 (.t 69)),cm 9 75]) (.ops [6,8,9] [cm 77 1,co 78 (.bin .sub (.c (.v (.int .i64 16384))) (.t 77)),cm 8 78]))) (.skip))) (.seq (.ops [6,7] [cm 79 9,cm 80 8,⟨(some 81),none,.call (.c (.fn faK [] [])) [(.c (.v (.bool false))),(.t 79),(.t 80)]⟩,co 82 (.ext 0 (.t 81)),co 83 (.ext 1 (.t 81)),⟨none,none,.store 3 (.t 6) (.t 82)⟩,cm 7 83]) (.ret)))
theorem ym:MC=.seq (.ops [1,2,3,6] [⟨(some 3),none,.box 3 (.t 0)⟩,⟨(some 6),none,.alloc [(.v (.bool false)),.emp,(.v (.int .i64 0))]⟩,co 7 (.mv (.c (.v (.int .i64 0))))]) (.seq (.dops [1,2,3,6,8] [co 13 (.fadr 1 (.t 3)),⟨(some 14),none,.load 1 false (.t 13)⟩,co 15 (.fadr 0 (.t 3)),⟨(some 16),none,.load 1 false (.t 15)⟩,⟨(some 17),none,.call (.c (.fn fbX [] [])) [(.t 16)]⟩,co 18 (.bin .add (.t 14) (.t 17)),cm 19 1,co 20 (.bin .sub (.t 18) (.t 19)),co 21 (.mnx false (.t 20) [(.c (.v (.int .i64 (-16384))))]),cm 8 21] [(1,4)]) (.seq (.dops [1,2,3,6,8,10] [co 22 (.fadr 0 (.t 3)),⟨(some 23),none,.load 1 false (.t 22)⟩,co 24 (.fadr 2 (.t 3)),⟨(some 25),none,.load 1 false (.t 24)⟩,cm 9 23,cm 10 25] []) (.seq (.seq (.ops [1,2,3,6,8,10,29] [co 26 (.fadr 1 (.t 3)),⟨(some 27),none,.load 1 false (.t 26)⟩,cm 28 8,co 29 (.bin .geq (.t 27) (.t 28))]) (.cond (.t 29) (.ops [1,2,6,8,9,10] [co 30 (.fadr 0 (.t 3)),⟨(some 31),none,.load 1 false (.t 30)⟩,co 32 (.fadr 1 (.t 3)),⟨(some 33),none,.load 1 false (.t 32)⟩,cm 34 8,co 35 (.bin .sub (.t 33) (.t 34)),⟨(some 36),none,.call (.c (.fn fdz [] [])) [(.t 31),(.t 35)]⟩,cm 9 36]) (.seq (.ops [1,2,6,8,10,11,12] [co 38 (.fadr 0 (.t 3)),⟨(some 39),none,.load 1 false (.t 38)⟩,cm 40 8,co 41 (.fadr 1 (.t 3)),⟨(some 42),none,.load 1 false (.t 41)⟩,co 43 (.bin .sub (.t 40) (.t 42)),⟨(some 44),none,.call (.c (.fn fdA [] [])) [(.t 39),(.t 43)]⟩,cm 37 44,co 45 (.ext 0 (.t 37)),co 46 (.ext 1 (.t 37)),cm 11 45,cm 12 46]) (.ops [1,2,6,8,9,10] [cm 47 11,cm 48 10,cm 49 48,cg 50 49 false (.mv (.t 12)),co 51 (.pick (.t 49) (.c (.v (.bool true))) (.t 50)),cm 9 47,cm 10 51])))) eN))):=rfl
def ej(M:Nat)(e:Int)(p:Int):Int:=if e+(af M:Nat)-p< -16384 then-16384 else e+(af M:Nat)-p
def nO(M:Nat)(e:Int)(more:Bool)(u:Int):Nat×Bool:=if u<=e then(M*2^ (e-u).toNat,more)else(M/2^ (u-e).toNat,more||decide (M%2^ (u-e).toNat≠0))
def lD(up:Bool)(q:Nat×Bool):Nat:=if(up&&q.2)=true then q.1+1 else q.1
def Dj(q:Nat)(u:Int):AV:=H1 (bk false q u)
def Wz(p:Int)(up:Bool)(q:Nat)(u:Int):AV:=if 16384< (af q:Nat)+u then(if up=true then .tup [ae aH,I 9]else Dj (2^p.toNat-1) (16384-p))else Dj q u
theorem ZE{q:Nat}{u:Int}(hq:af q<=8192)(h1:-32768<=u)(h2:u<=32768):R faK [B false,lm (av q),I u] []=some (Dj q u,[]):=by
 have hl:(av q).length<=256:=aV ω;rw[ajL (bc q) (ayS hl δ),if_neg ω,aN];rfl
theorem aeu{q:Nat}(hq:af q<=8000):R fbW [lm (av q),lm [1]] []=some (.tup [lm (av (q+1)),I 0],[]):=by
 have hl:(av q).length<=250:=aV ω;have h1:Lb [1]:=fun x hx=>by
  grind
 have h2:af (q+1)<=8001:=Nz hq;have hl2:(av (q+1)).length<=256:=aV ω;rw[aeh (bc q) h1 ω δ,aN];show some (kL (q+1),[])=_
 simp_all[kL,if_neg]
theorem ZF:ab [1]=1:=rfl
theorem aev:Lb [1]:=fun x hx=>by
 grind
theorem ams(n:Nat)(hn:n<=1000):R fdz [lm [1],I (n:Nat)] []=some (lm (av (2^n)),[])/\R fb3 [lm (av (2^n)),lm [1]] []=some (.tup [lm (av (2^n-1)),I 0],[]):=by
 have hb:af (2^n)<=n+1:=by
  simp_all[bD,Nat.pow_lt_pow_right,Nat.lt_succ_self]
 have h1:(av (2^n)).length<=256:=aV ω;have h2:=Bg aev δ (k:=n) ω (by simp_all[ZF,Nat.one_mul]);have h3:=aej (bc (2^n)) aev h1 δ;have h4:0<2^n:=ayr n;have h5:af (2^n-1)<=n:=by
  rw[bD];omega
 have h6:(av (2^n-1)).length<=256:=aV ω
 simp_all[aN,ZF,if_neg,kL]
theorem EA:AV.sl 1 [[AV.v (.int .u32 1)]]=lm [1]:=rfl
theorem NB{n:Nat}{u:Int}{up more:Bool}{q:Nat}(hp:8<=n/\n<=512)(hq:af q<=7000)(hu:-16384<=u/\u<=60000)(s:ak)(z:Ob)
  (h1:s 1=I (n:Nat)) (h2:s 2=B up) (h6:s 6=.ref 6 none 0 0 0) (h8:s 8=I u) (h9:s 9=lm (av q)) (h10:s 10=B more):
  ip false [[.o 0 [],.o 2 [],.o 0 []],[]] [.cell 6 3 true,.t 7] 0 (aj R (az false) eN s (upd (upd (fun _=>.dead) 3 z) 6 (.bx [.v (.bool false),.emp,.v (.int .i64 0)])))=some (Wz (n:Nat) up (lD up (q,more)) u,[]):=by
 have hi:=aeu (q:=q) ω;obtain⟨t1,t2⟩:=ams n ω;have hb:af (lD up (q,more))<=7001:=by
  unfold lD;split
  ·exact Nz hq
  grind
 have hB:=GV (bc (lD up (q,more))) (ayj (aV (k:=256) ω) δ);rw[aN]at hB;have w1:IntKind.i64.wrap (((af (lD up (q,more)):Nat):Int)+u)=((af (lD up (q,more)):Nat):Int)+u:=i64_in _ ⟨by omega,by omega⟩;have w2:IntKind.i64.wrap (16384- (n:Int))=16384- (n:Int):=i64_in _ ⟨by omega,by omega⟩;have hm2:R faK [B false,lm (av (2^n-1)),I (16384- (n:Int))] []=some (Dj (2^n-1) (16384- (n:Int)),[]):=ZE (ahl ω) ω ω;unfold Wz;by_cases ho:16384< ((af (lD up (q,more)):Nat):Int)+u
 ·have e1:(16384< ((af (lD up (q,more)):Nat):Int)+u)=True:=tt ho;rw[if_pos ho,ayk];clear ho hb;cases up with
  |false=>
   simp only[lD,ayh,if_neg ayl]at hB w1 e1⊢;unfold Dj H1 at hm2⊢;generalize bk false (2^n-1) (16384- (n:Int))=dd at hm2⊢;simp only[ae,ah]at hm2;cases hv:rh (af (ab dd.m)) dd.e with
   |true=>
    rw[hv]at hm2;rw[if_pos rfl]at hm2⊢;simp only[eN,ae,ah,go_sem,h1,h2,h6,h8,h9,h10,hB,w1,e1,w2,t1,t2,EA,hm2]
   |false=>
    rw[hv]at hm2;simp only[eN,ae,ah,aH,go_sem,h1,h2,h6,h8,h9,h10,hB,w1,e1,w2,t1,t2,EA,hm2]
  |true=>
   cases more with
   |false=>
    simp only[lD,ay1,if_neg ayl]at hB w1 e1⊢;simp only[eN,ae,ah,aH,go_sem,h1,h2,h6,h8,h9,h10,hB,w1,e1]
   |true=>
    simp only[lD,Bool.and_true,if_true]at hB w1 e1⊢;simp only[eN,ae,ah,aH,go_sem,h1,h2,h6,h8,h9,h10,hB,w1,e1,hi,EA]
 ·have e1:(16384< ((af (lD up (q,more)):Nat):Int)+u)=False:=ff ho;rw[if_neg ho];have hm:=ZE (q:=lD up (q,more)) (u:=u) ω ω ω;clear ho hb;cases up with
  |false=>
   simp only[lD,ayh,if_neg ayl]at hB w1 e1 hm⊢;unfold Dj H1 at hm⊢;generalize bk false q u=dd at hm⊢;simp only[ae,ah]at hm;cases hv:rh (af (ab dd.m)) dd.e with
   |true=>
    rw[hv]at hm;rw[if_pos rfl]at hm⊢;simp only[eN,ae,ah,go_sem,h1,h2,h6,h8,h9,h10,hB,w1,e1,hm]
   |false=>
    rw[hv]at hm;simp only[eN,ae,ah,aH,go_sem,h1,h2,h6,h8,h9,h10,hB,w1,e1,hm]
  |true=>
   cases more with
   |false=>
    simp only[lD,ay1,if_neg ayl]at hB w1 e1 hm⊢;unfold Dj H1 at hm⊢;generalize bk false q u=dd at hm⊢;simp only[ae,ah]at hm;cases hv:rh (af (ab dd.m)) dd.e with
    |true=>
     rw[hv]at hm;rw[if_pos rfl]at hm⊢;simp only[eN,ae,ah,go_sem,h1,h2,h6,h8,h9,h10,hB,w1,e1,hm]
    |false=>
     rw[hv]at hm;simp only[eN,ae,ah,aH,go_sem,h1,h2,h6,h8,h9,h10,hB,w1,e1,hm]
   |true=>
    simp only[lD,Bool.and_true,if_true]at hB w1 e1 hm⊢;unfold Dj H1 at hm⊢;generalize bk false (q+1) u=dd at hm⊢;simp only[ae,ah]at hm;cases hv:rh (af (ab dd.m)) dd.e with
    |true=>
     rw[hv]at hm;rw[if_pos rfl]at hm⊢;simp only[eN,ae,ah,go_sem,h1,h2,h6,h8,h9,h10,hB,w1,e1,hi,EA,hm]
    |false=>
     rw[hv]at hm;simp only[eN,ae,ah,aH,go_sem,h1,h2,h6,h8,h9,h10,hB,w1,e1,hi,EA,hm]
theorem amt{M:List Nat}(hb:Lb M)(hl:M.length<=256){e:Int}{n:Nat}{more up:Bool}(he:-40000<=e/\e<=40000)(hp:8<=n/\n<=512):R fds [xz M e more,I (n:Nat),B up] []=some (Wz (n:Nat) up (lD up (nO (ab M) e more (ej (ab M) e (n:Nat)))) (ej (ab M) e (n:Nat)),[]):=by
 refine au Y3 rfl ?_;have hB:=GV hb (ayj hl δ);have hlen:=H2 hb;have w1:IntKind.i64.wrap (e+(af (ab M):Nat))=e+(af (ab M):Nat):=i64_in _ ⟨by omega,by omega⟩;have w2:IntKind.i64.wrap (e+(af (ab M):Nat)- (n:Nat))=e+(af (ab M):Nat)- (n:Nat):=i64_in _ ⟨by omega,by omega⟩;obtain⟨u,hu⟩:∃u,ej (ab M) e (n:Nat)=u:=⟨_,rfl⟩;rw[hu];unfold ej at hu;unfold nO;by_cases hc:u<=e
 ·have e1:(u<=e)=True:=tt hc;rw[if_pos hc];have w3:IntKind.i64.wrap (e-u)=(((e-u).toNat:Nat):Int):=wi;have hq:af (ab M*2^ (e-u).toNat)<=7000:=by
   grind[dk]
  by_cases h64:(e-u).toNat<=65536
  ·have hs:=Bg hb ω (k:=(e-u).toNat) h64 (aV ω);simp only[uS,ym,xz,go_sem,hB,w1,w2,hu,e1,w3,hs];exact NB hp hq ω _ _ rfl rfl rfl rfl rfl rfl
  omega
 ·have e1:(u<=e)=False:=ff hc;rw[if_neg hc];have w3:IntKind.i64.wrap (u-e)=(((u-e).toNat:Nat):Int):=wi;have hs:=ZD hb ω (n:=(u-e).toNat) ω;have hq:af (ab M/2^ (u-e).toNat)<=7000:=by
   grind[jB]
  cases more with
  |false=>
   rw[Bool.false_or];simp only[uS,ym,xz,go_sem,hB,w1,w2,hu,e1,w3,hs];exact NB hp hq ω _ _ rfl rfl rfl rfl rfl rfl
  |true=>
   rw[ay9];simp only[uS,ym,xz,go_sem,hB,w1,w2,hu,e1,w3,hs];exact NB hp hq ω _ _ rfl rfl rfl rfl rfl rfl
def cH(d:Rd):Rd×Int:=if rh (af (ab d.m)) d.e=true then(d,0)else(aH,9)
def sf(p:Int)(up:Bool)(q:Nat)(u:Int):Rd×Int:=if 16384< (af q:Nat)+u then(if up=true then(aH,9)else cH (bk false (2^p.toNat-1) (16384-p)))else cH (bk false q u)
def rV(r:Rd×Int):AV:=.tup [ae r.1,I r.2]
theorem K7(d:Rd):H1 d=rV (cH d):=by
 unfold H1 cH;split<;>rfl
theorem ajO(p:Int)(up:Bool)(q:Nat)(u:Int):Wz p up q u=rV (sf p up q u):=by
 unfold Wz sf Dj;split
 ·split
  ·rfl
  grind[K7]
 grind[K7]
theorem WA(n:Nat):af (2^n-1)<=n:=by
 rw[bD];grind
theorem ajP(p:Int)(up:Bool)(q:Nat)(u:Int):Lb (sf p up q u).1.m:=by
 have h0:Lb aH.m:=fun x hx=>nomatch hx
 grind[Lb,cH,sf,yG]
theorem ahr(p:Int)(up:Bool)(q:Nat)(u:Int)(hp:p.toNat<=8000)(hq:af q<=8000):(sf p up q u).1.m.length<=256:=by
 have h0:aH.m.length<=256:=ayB _;have hc:∀d:Rd,d.m.length<=256->(cH d).1.m.length<=256:=fun d hd=>by
  grind[cH]
 grind[sf,Be,ayj,WA]
def gW(d:Rd):Rd:=if vd d=false\/d.m.length=0 then aH else⟨!d.neg,d.m,d.e⟩
def cB(M:Nat)(e:Int)(more:Bool)(p:Int)(up:Bool):Rd×Int:=sf p up (lD up (nO M e more (ej M e p))) (ej M e p)
def gI(neg:Bool)(r:Rd×Int):Rd×Int:=if r.2=0/\neg=true then(gW r.1,r.2)else r
theorem aew{M:Nat}{e:Int}{more up:Bool}{n:Nat}(hM:af M<=8192)(hp:8<=n/\n<=512)(he:-40000<=e/\e<=40000):af (lD up (nO M e more (ej M e (n:Nat))))<=7001:=by
 have hq:af (nO M e more (ej M e (n:Nat))).1<=7000:=by
  obtain⟨u,hu⟩:∃u,ej M e (n:Nat)=u:=⟨_,rfl⟩;rw[hu];unfold ej at hu;unfold nO;split
  ·grind[dk]
  grind[jB]
 unfold lD;split
 ·exact Nz hq
 omega
theorem FA{M:List Nat}(hb:Lb M)(hl:M.length<=256){e:Int}{n:Nat}{more up neg:Bool}(he:-40000<=e/\e<=40000)(hp:8<=n/\n<=512):R fdB [B neg,xz M e more,I (n:Nat),B up] []=some (rV (gI neg (cB (ab M) e more (n:Nat) (up !=neg))),[]):=by
 refine au Qy rfl ?_;have hc:=amt (more:=more) (up:=up !=neg) hb hl he hp;have hlen:=H2 hb;have hB:=aew (M:=ab M) (e:=e) (more:=more) (up:=up !=neg) ω hp he;rw[ajO]at hc;have hL:=ajP (n:Nat) (up !=neg) (lD (up !=neg) (nO (ab M) e more (ej (ab M) e (n:Nat)))) (ej (ab M) e (n:Nat));have hN:=ahr (n:Nat) (up !=neg) (lD (up !=neg) (nO (ab M) e more (ej (ab M) e (n:Nat)))) (ej (ab M) e (n:Nat)) ω ω;unfold cB;generalize sf (n:Nat) (up !=neg) (lD (up !=neg) (nO (ab M) e more (ej (ab M) e (n:Nat)))) (ej (ab M) e (n:Nat))=r at hc hL hN⊢;obtain⟨d,x⟩:=r;have hn:=GW (d:=d) ⟨hL,ayS hN δ⟩;simp only[rV,ae,ah,xz]at hc hn;unfold gI gW;by_cases hx:x=0
 ·have e1:(x=0)=True:=tt hx;cases neg with
  |false=>
   simp only[pA,vY,rV,ae,ah,xz,go_sem,Ai,hc,e1]
  |true=>
   simp only[pA,vY,rV,ae,ah,xz,go_sem,Ai,hc,e1,hn]
 ·have e1:(x=0)=False:=ff hx;simp only[pA,vY,rV,ae,ah,xz,go_sem,Ai,hc,e1]
def s9(d:Rd)(p:Int)(up:Bool):Rd×Int:=if aZ p [d]=0 then gI d.neg (cB (ab d.m) d.e false p (up !=d.neg))else(aH,aZ p [d])
theorem uY{p:Int}{l:List Rd}(h:aZ p l=0):l.all vd=true/\8<=p/\p<=512:=by
 unfold aZ at h;split at h
 ·rename_i h1;split at h
  ·rename_i h2;exact⟨h1,h2⟩
  ·exact nomatch h
 ·exact nomatch h
theorem Aj{d:Rd}(h:vd d=true)(hb:Lb d.m):d.m.length<=128:=by
 obtain⟨h1,h2,h3,h4⟩:=ef h hb;by_cases h0:d.m.length=0
 ·omega
 obtain⟨g1,g2,g3,g4⟩:=Cd h h0;have h5:4294967296^ (d.m.length-1)<=ab d.m:=by
  have h6:=IZ (a:=d.m) (i:=d.m.length-1) ω;rw[show d.m.length-1+1=d.m.length by omega,aEf]at h6;rw[h6];exact ayj (Nat.le_mul_of_pos_right _ (Nat.pos_of_ne_zero g3)) (Nat.le_add_left _ _)
 have h7:32*(d.m.length-1)<af (ab d.m):=by
  rw[jK,Nat.pow_mul];exact h5
 omega
theorem H3{d:Rd}(ok:Ok0 d){p:Int}{up:Bool}:R fdy [ae d,I p,B up] []=some (rV (s9 d p up),[]):=by
 refine au T4 rfl ?_;have hf:R fdu [I p,.sl 3 [[B d.neg,lm d.m,I d.e]]] []=some (I (aZ p [d]),[]):=Bh (p:=p) (l:=[d]) (fun x hx=>by rw[List.mem_singleton.1 hx];exact ok) (show 1<=100000 by decide);unfold s9;by_cases h0:aZ p [d]=0
 ·obtain⟨v1,v2,v3⟩:=uY h0;have v4:vd d=true:=by simpa using v1
  obtain⟨h1,h2,h3,h4⟩:=ef v4 ok.lb;have h5:=Aj v4 ok.lb;rw[if_pos h0];rw[h0]at hf;obtain⟨n,rfl⟩:=aze (show 0<=p by omega);have hs:=FA (M:=d.m) (e:=d.e) (n:=n) (more:=false) (up:=up) (neg:=d.neg) ok.lb ω ⟨by omega,by omega⟩ ⟨by omega,by omega⟩;have ho:=apv (d:=d);generalize gI d.neg (cB (ab d.m) d.e false (n:Nat) (up !=d.neg))=r at hs⊢;simp only[rV,ae,ah,xz]at hs ho;simp only[vX,CI,rV,ae,ah,go_sem,hf,hs,ho]
 ·have e1:(aZ p [d]=0)=False:=ff h0;rw[if_neg h0];simp only[vX,CI,rV,ae,ah,aH,go_sem,hf,e1]
theorem amu{d:Rd}(ok:Ok0 d){p:Int}:R fdq [ae d,I p] []=some (rV (s9 d p true),[]):=by
 refine au acu rfl ?_;have hr:=H3 ok (p:=p) (up:=true);generalize s9 d p true=r at hr⊢;simp only[rV,ae,ah]at hr;simp only[Gb,OM,rV,ae,ah,go_sem,hr]
theorem ahs{d:Rd}(ok:Ok0 d){p:Int}:R fdl [ae d,I p] []=some (rV (s9 d p false),[]):=by
 refine au Wd rfl ?_;have hr:=H3 ok (p:=p) (up:=false);generalize s9 d p false=r at hr⊢;simp only[rV,ae,ah]at hr;simp only[CH,JN,rV,ae,ah,go_sem,hr]
def J7(a b:Rd)(p:Int)(up:Bool):Rd×Int:=if aZ p [a,b]=0 then(if a.m.length=0\/b.m.length=0 then(aH,0)else gI (a.neg !=b.neg) (cB (ab a.m*ab b.m) (a.e+b.e) false p (up != (a.neg !=b.neg))))else(aH,aZ p [a,b])
theorem ZG{a b:Rd}(oa:Ok0 a)(ob:Ok0 b){p:Int}{up:Bool}:R fdv [ae a,ae b,I p,B up] []=some (rV (J7 a b p up),[]):=by
 refine au YW rfl ?_;have hf:R fdu [I p,.sl 3 [[B a.neg,lm a.m,I a.e],[B b.neg,lm b.m,I b.e]]] []=some (I (aZ p [a,b]),[]):=Bh (p:=p) (l:=[a,b]) (fun x hx=>by
  rcases List.mem_cons.1 hx with h|h
  ·rw[h];exact oa
  ·rw[List.mem_singleton.1 h];exact ob) (show 2<=100000 by decide)
 unfold J7;by_cases h0:aZ p [a,b]=0
 ·obtain⟨v1,v2,v3⟩:=uY h0;have v4:vd a=true/\vd b=true:=by simpa using v1
  obtain⟨va,vb⟩:=v4;obtain⟨a1,a2,a3,a4⟩:=ef va oa.lb;obtain⟨b1,b2,b3,b4⟩:=ef vb ob.lb;rw[if_pos h0];rw[h0]at hf;by_cases a0:a.m.length=0
  ·have e1:((a.m.length:Int)=0)=True:=tt;rw[if_pos (Or.inl a0)];simp only[qW,xt,rV,ae,ah,aH,go_sem,hf,e1]
  have e1:((a.m.length:Int)=0)=False:=ff;by_cases b0:b.m.length=0
  ·have e2:((b.m.length:Int)=0)=True:=tt;rw[if_pos (Or.inr b0)];simp only[qW,xt,rV,ae,ah,aH,go_sem,hf,e1,e2]
  have e2:((b.m.length:Int)=0)=False:=ff;rw[if_neg (fun h=>h.elim a0 b0)];obtain⟨n,rfl⟩:=aze (show 0<=p by omega);have hp:=J6 (ab a.m) (ab b.m);have hl:(av (ab a.m*ab b.m)).length<=256:=aV ω;have hm:=aeo oa.lb ob.lb a1 b1;rw[kL,if_neg ω]at hm;have w3:IntKind.i64.wrap (a.e+b.e)=a.e+b.e:=i64_in _ ⟨by omega,by omega⟩;have hs:=FA (M:=av (ab a.m*ab b.m)) (e:=a.e+b.e) (n:=n) (more:=false) (up:=up) (neg:=a.neg !=b.neg) (bc _) hl ⟨by omega,by omega⟩ ⟨by omega,by omega⟩;rw[aN]at hs;generalize gI (a.neg !=b.neg) (cB (ab a.m*ab b.m) (a.e+b.e) false (n:Nat) (up != (a.neg !=b.neg)))=r at hs⊢;simp only[rV,ae,ah,xz]at hs;simp only[qW,xt,rV,ae,ah,go_sem,hf,e1,e2,hm,w3,Ai,hs]
 ·have e1:(aZ p [a,b]=0)=False:=ff h0;rw[if_neg h0];simp only[qW,xt,rV,ae,ah,aH,go_sem,hf,e1]
theorem aht{a b:Rd}(oa:Ok0 a)(ob:Ok0 b){p:Int}:R fdo [ae a,ae b,I p] []=some (rV (J7 a b p true),[]):=by
 refine au s7 rfl ?_;have hr:=ZG oa ob (p:=p) (up:=true);generalize J7 a b p true=r at hr⊢;simp only[rV,ae,ah]at hr;simp only[AS,IQ,rV,ae,ah,go_sem,hr]
theorem acG{a b:Rd}(oa:Ok0 a)(ob:Ok0 b){p:Int}:R fdn [ae a,ae b,I p] []=some (rV (J7 a b p false),[]):=by
 refine au pF rfl ?_;have hr:=ZG oa ob (p:=p) (up:=false);generalize J7 a b p false=r at hr⊢;simp only[rV,ae,ah]at hr;simp only[yb,Fk,rV,ae,ah,go_sem,hr]
theorem Pe{n:Int}(hn:I64 n):R faJ [I n] []=some (ae (bk (decide (n<0)) n.natAbs 0),[]):=by
 refine au VX rfl ?_;obtain⟨h1,h2⟩:=hn;obtain⟨x,hx⟩:∃x:Nat,n.natAbs=x:=⟨_,rfl⟩;have hv:ab [x%4294967296,x/4294967296]=x:=by
  show x%4294967296+4294967296*(x/4294967296+4294967296*0)=x;omega
 have hL:Lb [x%4294967296,x/4294967296]:=fun y hy=>by
  rcases List.mem_cons.1 hy with h|h
  ·omega
  ·rw[List.mem_singleton.1 h];omega
 have hc:∀neg,R faS [B neg,.sl 1 [[.v (.int .u32 ((x%4294967296:Nat):Int))],[.v (.int .u32 ((x/4294967296:Nat):Int))]],I 0] []=some (ae (bk neg x 0),[]):=fun neg=>by
  have:=nN (neg:=neg) (e:=0) hL (by show 2<=256;decide) ⟨by decide,by decide⟩;rw[hv]at this;exact this
 have w2:IntKind.u32.wrap (x:Int)=((x%4294967296:Nat):Int):=HU rfl;have w3:IntKind.u32.wrap ((x/4294967296:Nat):Int)=((x/4294967296:Nat):Int):=Cb rfl ω;have w4:dU .shr (.v (.int .u64 (x:Int))) (.v (.int .u64 32))=some (.v (.int .u64 ((x/4294967296:Nat):Int))):=qz (k:=32) rfl rfl δ;rw[hx];by_cases h0:n<0
 ·have e1:(n<0)=True:=tt h0;have w5:IntKind.u64.wrap (0-IntKind.u64.wrap n)=(x:Int):=by
   have q:∀z:Int,IntKind.u64.wrap z=z%18446744073709551616:=fun z=>rfl;rw[q,q];omega
  have hc':=hc (decide (n<0));generalize bk (decide (n<0)) x 0=d at hc'⊢;rw[decide_eq_true h0]at hc';simp only[ae,ah]at hc';simp only[xH,DW,ae,ah,go_sem,e1,w2,w3,w4,w5,hc']
 ·have e1:(n<0)=False:=ff h0;have w5:IntKind.u64.wrap n=(x:Int):=dK ω ω;have hc':=hc (decide (n<0));generalize bk (decide (n<0)) x 0=d at hc'⊢;rw[decide_eq_false h0]at hc';simp only[ae,ah]at hc';simp only[xH,DW,ae,ah,go_sem,e1,w2,w3,w4,w5,hc']
def wX(a b:Rd)(p:Int):Int:=
 if aL a-aL b<=2 then(if b.e< (if aL a-p-8<a.e then aL a-p-8 else a.e)then b.e else(if aL a-p-8<a.e then aL a-p-8 else a.e))
 else(if aL a-p-8<a.e then aL a-p-8 else a.e)
def yZ(b:Rd)(l:Int):Nat×Bool:=if l<=b.e then(ab b.m*2^ (b.e-l).toNat,false)else(ab b.m/2^ (l-b.e).toNat,decide (ab b.m%2^ (l-b.e).toNat≠0))
def ug(y:Nat×Bool):Nat:=if y.2=true then y.1+1 else y.1
def CQ(a b:Rd)(p:Int):(Nat×Int×Bool)×Bool:=
 let l:=wX a b p
 let x:=ab a.m*2^ (a.e-l).toNat
 let y:=yZ b l
 if a.neg=b.neg then((x+y.1,l,y.2),false)
 else if x<ug y then((ug y-x,l,false),true)
 else((x-ug y,l,y.2),false)
theorem QO{a b:Rd}{p:Int}:wX a b p<=a.e:=by
 unfold wX;have h:(if aL a-p-8<a.e then aL a-p-8 else a.e)<=a.e:=by
  split<;>omega
 generalize(if aL a-p-8<a.e then aL a-p-8 else a.e)=z at h⊢;split
 ·split<;>omega
 ·exact h
theorem iM{d:Rd}(h:vd d=true)(h0:d.m.length≠0):aL d=(af (ab d.m):Nat)+d.e:=by
 rw[aL,if_neg (fun h'=>h'.elim (fun h''=>by rw[h]at h'';exact nomatch h'') h0)]
theorem NC{a b:Rd}{p:Int}(va:vd a=true)(vb:vd b=true)(la:Lb a.m)(lb:Lb b.m)(na:a.m.length≠0)(nb:b.m.length≠0)(hp:8<=p/\p<=512)(ht:aL b<=aL a):
  aL a-wX a b p<=4098:=by
 obtain⟨a1,a2,a3,a4⟩:=ef va la;obtain⟨b1,b2,b3,b4⟩:=ef vb lb;have e1:=iM va na;have e2:=iM vb nb;unfold wX;have h:aL a- (if aL a-p-8<a.e then aL a-p-8 else a.e)<=4098:=by
  split<;>omega
 generalize(if aL a-p-8<a.e then aL a-p-8 else a.e)=z at h⊢;split
 ·split<;>omega
 ·exact h
noncomputable def lQ:Cmd:=.seq (.seq (.ops [6,8,9,10,11,68] [co 64 (.fadr 0 (.t 3)),⟨(some 65),none,.load 1 false (.t 64)⟩,co 66 (.fadr 0 (.t 4)),⟨(some 67),none,.load 1 false (.t 66)⟩,co 68 (.eqc false 0 (.t 65) (.t 67))]) (.cond (.t 68) (.seq (.ops [6,8,11,12] [cm 70 9,cm 71 10,⟨(some 72),none,.call (.c (.fn fbW [] [])) [(.t 70),(.t 71)]⟩,cm 69 72,co 73 (.ext 0 (.t 69)),co 74 (.ext 1 (.t 69)),cm 12 73,cm 13 74]) (.seq (.ops [6,7] [cm 75 12,cm 76 8,cm 77 11,co 78 (.build [.emp,(.v (.int .i64 0)),(.v (.bool false))] [(0,1,(.t 75)),(1,1,(.t 76)),(2,1,(.t 77))]),⟨none,none,.store 3 (.t 6) (.t 78)⟩,co 7 (.mv (.c (.v (.bool false))))]) (.ret))) (.skip))) (.seq (.seq (.ops [6,8,9,10,11,79] [cm 79 11]) (.cond (.t 79) (.ops [6,8,9,10,11] [cm 81 10,⟨(some 82),none,.buildSl 1 [(.v (.int .u32 0))] 1 [(0,(.c (.v (.int .u32 1))))]⟩,⟨(some 83),none,.call (.c (.fn fbW [] [])) [(.t 81),(.t 82)]⟩,cm 80 83,co 84 (.ext 0 (.t 80)),co 85 (.ext 1 (.t 80)),cm 10 84]) (.skip))) (.seq (.seq (.ops [6,8,9,10,11,89] [cm 86 9,cm 87 10,⟨(some 88),none,.call (.c (.fn fbY [] [])) [(.t 86),(.t 87)]⟩,co 89 (.bin .lss (.t 88) (.c (.v (.int .i64 0))))]) (.cond (.t 89) (.seq (.ops [6,8,14] [cm 91 10,cm 92 9,⟨(some 93),none,.call (.c (.fn fb3 [] [])) [(.t 91),(.t 92)]⟩,cm 90 93,co 94 (.ext 0 (.t 90)),co 95 (.ext 1 (.t 90)),cm 14 94,cm 15 95]) (.seq (.ops [6,7] [cm 96 14,cm 97 8,co 98 (.build [.emp,(.v (.int .i64 0)),(.v (.bool false))] [(0,1,(.t 96)),(1,1,(.t 97)),(2,1,(.c (.v (.bool false))))]),⟨none,none,.store 3 (.t 6) (.t 98)⟩,co 7 (.mv (.c (.v (.bool true))))]) (.ret))) (.skip))) (.seq (.ops [6,8,11,16] [cm 100 9,cm 101 10,⟨(some 102),none,.call (.c (.fn fb3 [] [])) [(.t 100),(.t 101)]⟩,cm 99 102,co 103 (.ext 0 (.t 99)),co 104 (.ext 1 (.t 99)),cm 16 103,cm 17 104]) (.seq (.ops [6,7] [cm 105 16,cm 106 8,cm 107 11,co 108 (.build [.emp,(.v (.int .i64 0)),(.v (.bool false))] [(0,1,(.t 105)),(1,1,(.t 106)),(2,1,(.t 107))]),⟨none,none,.store 3 (.t 6) (.t 108)⟩,co 7 (.mv (.c (.v (.bool false))))]) (.ret)))))
theorem uZ:MA=.seq (.ops [2,3,4,6] [⟨(some 3),none,.box 3 (.t 0)⟩,⟨(some 4),none,.box 3 (.t 1)⟩,⟨(some 6),none,.alloc [.emp,(.v (.int .i64 0)),(.v (.bool false))]⟩,co 7 (.mv (.c (.v (.bool false))))]) (.seq (.dops [3,4,6,8] [co 18 (.fadr 2 (.t 3)),⟨(some 19),none,.load 1 false (.t 18)⟩,⟨(some 20),none,.load 3 true (.t 3)⟩,⟨(some 21),none,.call (.c (.fn faQ [] [])) [(.t 20)]⟩,cm 22 2,co 23 (.bin .sub (.t 21) (.t 22)),co 24 (.bin .sub (.t 23) (.c (.v (.int .i64 8)))),co 25 (.mnx true (.t 19) [(.t 24)]),cm 8 25] [(1,3)]) (.seq (.seq (.dops [3,4,6,8,31] [⟨(some 26),none,.load 3 true (.t 3)⟩,⟨(some 27),none,.call (.c (.fn faQ [] [])) [(.t 26)]⟩,⟨(some 28),none,.load 3 true (.t 4)⟩,⟨(some 29),none,.call (.c (.fn faQ [] [])) [(.t 28)]⟩,co 30 (.bin .sub (.t 27) (.t 29)),co 31 (.bin .leq (.t 30) (.c (.v (.int .i64 2))))] [(1,2)]) (.cond (.t 31) (.ops [3,4,6,8] [cm 32 8,co 33 (.fadr 2 (.t 4)),⟨(some 34),none,.load 1 false (.t 33)⟩,co 35 (.mnx true (.t 32) [(.t 34)]),cm 8 35]) (.skip))) (.seq (.ops [3,4,6,8,9] [co 36 (.fadr 1 (.t 3)),⟨(some 37),none,.load 1 false (.t 36)⟩,co 38 (.fadr 2 (.t 3)),⟨(some 39),none,.load 1 false (.t 38)⟩,cm 40 8,co 41 (.bin .sub (.t 39) (.t 40)),⟨(some 42),none,.call (.c (.fn fdz [] [])) [(.t 37),(.t 41)]⟩,cm 9 42]) (.seq (.ops [3,4,6,8,9] [co 10 (.mv (.c .emp))]) (.seq (.ops [3,4,6,8,9,11] [co 11 (.mv (.c (.v (.bool false))))]) (.seq (.seq (.ops [3,4,6,8,9,11,46] [co 43 (.fadr 2 (.t 4)),⟨(some 44),none,.load 1 false (.t 43)⟩,cm 45 8,co 46 (.bin .geq (.t 44) (.t 45))]) (.cond (.t 46) (.ops [3,4,6,8,9,10,11] [co 47 (.fadr 1 (.t 4)),⟨(some 48),none,.load 1 false (.t 47)⟩,co 49 (.fadr 2 (.t 4)),⟨(some 50),none,.load 1 false (.t 49)⟩,cm 51 8,co 52 (.bin .sub (.t 50) (.t 51)),⟨(some 53),none,.call (.c (.fn fdz [] [])) [(.t 48),(.t 52)]⟩,cm 10 53]) (.ops [3,4,6,8,9,10,11] [co 55 (.fadr 1 (.t 4)),⟨(some 56),none,.load 1 false (.t 55)⟩,cm 57 8,co 58 (.fadr 2 (.t 4)),⟨(some 59),none,.load 1 false (.t 58)⟩,co 60 (.bin .sub (.t 57) (.t 59)),⟨(some 61),none,.call (.c (.fn fdA [] [])) [(.t 56),(.t 60)]⟩,cm 54 61,co 62 (.ext 0 (.t 54)),co 63 (.ext 1 (.t 54)),cm 10 62,cm 11 63]))) lQ)))))):=rfl
def QP(an bn:Bool)(X Y:Nat)(l:Int)(lost:Bool):(Nat×Int×Bool)×Bool:=
 if an=bn then((X+Y,l,lost),false)else if X<ug (Y,lost)then((ug (Y,lost)-X,l,false),true)else((X-ug (Y,lost),l,lost),false)
def sV(r:(Nat×Int×Bool)×Bool):AV:=.tup [xz (av r.1.1) r.1.2.1 r.1.2.2,B r.2]
theorem EB{x y k:Nat}(hx:af x<=k)(hy:af y<=k):af (x+y)<=k+1:=by
 rw[bD]at hx hy⊢;omega
theorem ZH{x y:Nat}(hx:af x<=5000)(hy:af y<=5000):R fbW [lm (av x),lm (av y)] []=some (.tup [lm (av (x+y)),I 0],[]):=by
 have h1:(av x).length<=200:=aV ω;have h2:(av y).length<=200:=aV ω;have h3:=EB hx hy;have h4:(av (x+y)).length<=200:=aV ω;rw[aeh (bc x) (bc y) ω ω,aN,aN,kL,if_neg ω]
theorem K8{x y:Nat}(hx:af x<=5000)(hy:af y<=5000)(h:y<=x):R fb3 [lm (av x),lm (av y)] []=some (.tup [lm (av (x-y)),I 0],[]):=by
 have h1:(av x).length<=200:=aV ω;have h2:(av y).length<=200:=aV ω;have h3:af (x-y)<=5000:=by
  rw[bD]at hx⊢;omega
 have h4:(av (x-y)).length<=200:=aV ω;rw[aej (bc x) (bc y) ω ω,aN,aN,if_neg ω,kL,if_neg ω]
theorem ND{an bn:Bool}{ma mb:AV}{ea eb:AV}{X Y:Nat}{l:Int}{lost:Bool}(hX:af X<=4100)(hY:af Y<=4100)(s:ak)
  (h3:s 3=.ref 3 none 0 0 0) (h4:s 4=.ref 4 none 0 0 0) (h6:s 6=.ref 6 none 0 0 0) (h8:s 8=I l) (h9:s 9=lm (av X)) (h10:s 10=lm (av Y)) (h11:s 11=B lost):
  ip false [[.o 2 [],.o 0 [],.o 0 []],[]] [.cell 6 3 true,.t 7] 0 (aj R (az false) lQ s (upd (upd (upd (fun _=>.dead) 3 (.bx [.v (.bool an),ma,ea])) 4 (.bx [.v (.bool bn),mb,eb])) 6 (.bx [.emp,.v (.int .i64 0),.v (.bool false)])))=some (sV (QP an bn X Y l lost),[]):=by
 unfold QP;by_cases hs:an=bn
 ·subst hs;have e1:(false != (an==an))=true:=γ
  have ha:=ZH (x:=X) (y:=Y) ω ω;simp only[lQ,sV,xz,go_sem,h3,h4,h6,h8,h9,h10,h11,e1,ha]
 ·rw[if_neg hs];have e1:(false != (an==bn))=false:=γ
  have hU:af (ug (Y,lost))<=4101:=by
   unfold ug;split
   ·exact EB hY (ahm _)
   grind
  have hi:=aeu (q:=Y) ω;have hc:=Ah (bc X) (bc (ug (Y,lost))) (ayj (aV (k:=200) ω) δ) (ayj (aV (k:=200) ω) δ);rw[aN,aN]at hc;by_cases hx:X<ug (Y,lost)
  ·have ha:=K8 (x:=ug (Y,lost)) (y:=X) ω ω ω;rw[if_pos hx];rw[cj,if_pos hx]at hc;cases lost with
   |false=>
    simp only[ug,if_neg ayl]at hc ha⊢;simp only[lQ,sV,xz,go_sem,ayz,h3,h4,h6,h8,h9,h10,h11,e1,hc,ha]
   |true=>
    simp only[ug,if_true]at hc ha⊢;simp only[lQ,sV,xz,go_sem,ayz,h3,h4,h6,h8,h9,h10,h11,e1,EA,hi,hc,ha]
  ·have ha:=K8 (x:=X) (y:=ug (Y,lost)) ω ω ω;rw[if_neg hx];have hd:(cj X (ug (Y,lost))<0)=False:=ff (by
    unfold cj;omega)
   cases lost with
   |false=>
    simp only[ug,if_neg ayl]at hc ha hd⊢;simp only[lQ,sV,xz,go_sem,h3,h4,h6,h8,h9,h10,h11,e1,hc,hd,ha]
   |true=>
    simp only[ug,if_true]at hc ha hd⊢;simp only[lQ,sV,xz,go_sem,h3,h4,h6,h8,h9,h10,h11,e1,EA,hi,hc,hd,ha]
theorem QQ(a b:Rd)(p:Int):CQ a b p=QP a.neg b.neg (ab a.m*2^ (a.e-wX a b p).toNat) (yZ b (wX a b p)).1 (wX a b p) (yZ b (wX a b p)).2:=rfl
theorem amv{a b:Rd}(oa:Ok0 a)(ob:Ok0 b)(va:vd a=true)(vb:vd b=true)(na:a.m.length≠0)(nb:b.m.length≠0){p:Int}(hp:8<=p/\p<=512)(ht:aL b<=aL a):
  R fdC [ae a,ae b,I p] []=some (sV (CQ a b p),[]):=by
 refine au YX rfl ?_;have ta:=Ce oa;have tb:=Ce ob;simp only[ae,ah]at ta tb;have e1:=iM va na;have e2:=iM vb nb;obtain⟨a1,a2,a3,a4⟩:=ef va oa.lb;obtain⟨b1,b2,b3,b4⟩:=ef vb ob.lb;have l1:=QO (a:=a) (b:=b) (p:=p);have l2:=NC va vb oa.lb ob.lb na nb hp ht;have w1:IntKind.i64.wrap (aL a-p)=aL a-p:=i64_in _ ⟨by omega,by omega⟩;have w2:IntKind.i64.wrap (aL a-p-8)=aL a-p-8:=i64_in _ ⟨by omega,by omega⟩;have w3:IntKind.i64.wrap (aL a-aL b)=aL a-aL b:=i64_in _ ⟨by omega,by omega⟩;rw[QQ];obtain⟨l,hl⟩:∃l,wX a b p=l:=⟨_,rfl⟩;rw[hl]at l1 l2⊢;unfold wX at hl;obtain⟨z,hz⟩:∃z,(if aL a-p-8<a.e then aL a-p-8 else a.e)=z:=⟨_,rfl⟩;rw[hz]at hl;have w4:IntKind.i64.wrap (a.e-l)=(((a.e-l).toNat:Nat):Int):=wi;have hX:af (ab a.m*2^ (a.e-l).toNat)<=4100:=by
  grind[dk,dt]
 have sX:=Bg oa.lb a1 (k:=(a.e-l).toNat) ω (aV ω);by_cases h2:aL a-aL b<=2
 ·have f1:(aL a-aL b<=2)=True:=tt h2;rw[if_pos h2]at hl;by_cases hb:l<=b.e
  ·have f2:(l<=b.e)=True:=tt hb;have w5:IntKind.i64.wrap (b.e-l)=(((b.e-l).toNat:Nat):Int):=wi;have hY:af (ab b.m*2^ (b.e-l).toNat)<=4100:=by
    grind[dk,dt]
   have sY:=Bg ob.lb b1 (k:=(b.e-l).toNat) ω (aV ω);rw[yZ,if_pos hb];simp only[uN,uZ,ae,ah,go_sem,ta,tb,w1,w2,w3,w4,w5,hz,hl,f1,f2,sX,sY];exact ND hX hY _ rfl rfl rfl rfl rfl rfl rfl
  omega
 ·have f1:(aL a-aL b<=2)=False:=ff h2;rw[if_neg h2]at hl;by_cases hb:l<=b.e
  ·have f2:(l<=b.e)=True:=tt hb;have w5:IntKind.i64.wrap (b.e-l)=(((b.e-l).toNat:Nat):Int):=wi;have hY:af (ab b.m*2^ (b.e-l).toNat)<=4100:=by
    grind[dk,dt]
   have sY:=Bg ob.lb b1 (k:=(b.e-l).toNat) ω (aV ω);rw[yZ,if_pos hb];simp only[uN,uZ,ae,ah,go_sem,ta,tb,w1,w2,w3,w4,w5,hz,hl,f1,f2,sX,sY];exact ND hX hY _ rfl rfl rfl rfl rfl rfl rfl
  ·have f2:(l<=b.e)=False:=ff hb;have w5:IntKind.i64.wrap (l-b.e)=(((l-b.e).toNat:Nat):Int):=wi;have hY:af (ab b.m/2^ (l-b.e).toNat)<=4100:=by
    grind[jB]
   have sY:=ZD ob.lb b1 (n:=(l-b.e).toNat) ω;rw[yZ,if_neg hb];simp only[uN,uZ,ae,ah,go_sem,ta,tb,w1,w2,w3,w4,w5,hz,hl,f1,f2,sX,sY];exact ND hX hY _ rfl rfl rfl rfl rfl rfl rfl
def WB(a b:Rd)(p:Int)(up:Bool):Rd×Int:=
 let s:=CQ a b p
 if s.1.1=0/\s.1.2.2=false then(aH,0)else gI (a.neg !=s.2) (cB s.1.1 s.1.2.1 s.1.2.2 p (up != (a.neg !=s.2)))
def QR(a b:Rd)(p:Int)(up:Bool):Rd×Int:=
 if aZ p [a,b]=0 then(if a.m.length=0 then s9 b p up else if b.m.length=0 then s9 a p up else if aL a<aL b then WB b a p up else WB a b p up)
 else(aH,aZ p [a,b])
theorem NE{a b:Rd}(oa:Ok0 a)(ob:Ok0 b){p:Int}{up:Bool}(h:aZ p [a,b]≠0\/a.m.length=0\/b.m.length=0):R fdr [ae a,ae b,I p,B up] []=some (rV (QR a b p up),[]):=by
 refine au MG rfl ?_;have hf:R fdu [I p,.sl 3 [[B a.neg,lm a.m,I a.e],[B b.neg,lm b.m,I b.e]]] []=some (I (aZ p [a,b]),[]):=Bh (p:=p) (l:=[a,b]) (fun x hx=>by
  rcases List.mem_cons.1 hx with h|h
  ·rw[h];exact oa
  ·rw[List.mem_singleton.1 h];exact ob) (show 2<=100000 by decide)
 have ra:=H3 oa (p:=p) (up:=up);have rb:=H3 ob (p:=p) (up:=up);unfold QR;generalize s9 a p up=qa at ra⊢;generalize s9 b p up=qb at rb⊢;simp only[rV,ae,ah]at ra rb;by_cases h0:aZ p [a,b]=0
 ·rw[if_pos h0];rw[h0]at hf;by_cases a0:a.m.length=0
  ·have e1:((a.m.length:Int)=0)=True:=tt;rw[if_pos a0];simp only[nE,xk,rV,ae,ah,go_sem,hf,e1,rb]
  have e1:((a.m.length:Int)=0)=False:=ff;have b0:b.m.length=0:=(h.resolve_left (fun h'=>h' h0)).resolve_left a0;have e2:((b.m.length:Int)=0)=True:=tt;rw[if_neg a0,if_pos b0];simp only[nE,xk,rV,ae,ah,go_sem,hf,e1,e2,ra]
 ·have e1:(aZ p [a,b]=0)=False:=ff h0;rw[if_neg h0];simp only[nE,xk,rV,ae,ah,aH,go_sem,hf,e1]
theorem ahu{N k:Nat}{f u:Int}{more:Bool}(hm:more=decide (N%2^k≠0))(hu:more=true->f+k<u):nO (N/2^k) (f+k) more u=nO N f false u:=by
 unfold nO;by_cases h:u<=f+k
 ·rw[if_pos h];have hf:more=false:=by
   grind
  subst hf;have h0:N%2^k=0:=by
   grind
  obtain⟨M,rfl⟩:=Nat.dvd_of_mod_eq_zero h0;rw[Nat.mul_div_cancel_left _ (ayr k)];by_cases h2:u<=f
  ·rw[if_pos h2,show(f+k-u).toNat=k+(f-u).toNat by omega,ayn,ayy (2^k) M,ayD]
  ·obtain⟨j,hj⟩:∃j,(f+k-u).toNat=j:=⟨_,rfl⟩;obtain⟨i,hi⟩:∃i,(u-f).toNat=i:=⟨_,rfl⟩;have hk:k=i+j:=ω
   grind[ayn,ayD,Nat.mul_div_cancel_left,ayr,Nat.mul_mod_right,ayy]
 ·rw[if_neg h,if_neg ω];obtain⟨j,hj⟩:∃j,(u- (f+k)).toNat=j:=⟨_,rfl⟩;rw[show(u-f).toNat=k+j by omega,hj,ayn,Nat.div_div_eq_div_mul,Nat.mod_mul,hm];refine Prod.ext rfl ?_;show(decide (N%2^k≠0)||decide (N/2^k%2^j≠0))=(false||decide (N%2^k+2^k*(N/2^k%2^j)≠0));rw[Bool.false_or,←Bool.decide_or];congr 1;refine propext ⟨fun h3 h4=>?_,fun h3=>?_⟩
  ·obtain⟨h5,h6⟩:=Nat.add_eq_zero_iff.1 h4;rcases Nat.mul_eq_zero.1 h6 with h7|h7
   all_goals omega
  grind
theorem aex{N k:Nat}{f p:Int}(hM:N/2^k≠0):ej (N/2^k) (f+k) p=ej N f p:=by
 grind[ej,jB,af]
theorem ZI{N k:Nat}{f p:Int}{more up:Bool}(hM:N/2^k≠0)(hm:more=decide (N%2^k≠0))(hp:more=true->p< (af (N/2^k):Nat)):cB (N/2^k) (f+k) more p up=cB N f false p up:=by
 unfold cB;have hu:more=true->f+k<ej (N/2^k) (f+k) p:=fun h=>by
  grind[ej]
 grind[ahu,aex]
theorem J8{M k:Nat}{f p:Int}{up:Bool}(hM:M≠0):cB (M*2^k) f false p up=cB M (f+k) false p up:=by
 have h1:M*2^k/2^k=M:=Nat.mul_div_cancel _ (ayr k);have:=ZI (N:=M*2^k) (k:=k) (f:=f) (p:=p) (more:=false) (up:=up) ω (by simp_all) (fun h=>absurd h ayl);grind
def iV(z f p:Int)(up:Bool):Rd×Int:=if z=0 then(aH,0)else gI (decide (z<0)) (cB z.natAbs f false p (up !=decide (z<0)))
theorem K9{n:Nat}{f p:Int}{up neg:Bool}(h:n≠0):iV (if neg=true then-(n:Int)else n) f p up=gI neg (cB n f false p (up !=neg)):=by
 unfold iV;grind
theorem Sw{z f p:Int}{k:Nat}{up:Bool}:iV (z*2^k) f p up=iV z (f+k) p up:=by
 unfold iV;by_cases h:z=0
 ·rw[h,Int.zero_mul,if_pos rfl,if_pos rfl]
 ·have h2:(0:Int)<2^k:=Int.pow_pos δ;have h3:z*2^k≠0:=fun h3=>by
   rcases Int.mul_eq_zero.1 h3 with h4|h4
   all_goals omega
  have h4:decide (z*2^k<0)=decide (z<0):=by
   congr 1;refine propext ⟨fun h5=>?_,fun h5=>Int.mul_neg_of_neg_of_pos h5 h2⟩;refine Int.not_le.1 fun h6=>?_;have:=Int.mul_nonneg h6 (Int.le_of_lt h2);omega
  simp_all[if_neg,Int.natAbs_mul,Int.natAbs_pow,J8]
def bE(neg:Bool)(n:Nat):Int:=if neg=true then-(n:Int)else n
theorem pH(n:Nat):bE true n=-(n:Int):=rfl
theorem n7(n:Nat):bE false n=(n:Int):=rfl
def WC(an:Bool)(p:Int)(up:Bool)(s:(Nat×Int×Bool)×Bool):Rd×Int:=if s.1.1=0/\s.1.2.2=false then(aH,0)else gI (an !=s.2) (cB s.1.1 s.1.2.1 s.1.2.2 p (up != (an !=s.2)))
theorem H4{an:Bool}{p:Int}{up:Bool}{N K:Nat}{f:Int}{more t:Bool}(hM:N/2^K≠0)(hm:more=decide (N%2^K≠0))(hp:more=true->p< (af (N/2^K):Nat)):
  WC an p up ((N/2^K,f+K,more),t)=iV (bE (an !=t) N) f p up:=by
 have h0:N≠0:=fun h=>by
  simp_all
 unfold bE;rw[K9 h0,WC,if_neg (fun h=>hM h.1)];grind[ZI]
theorem ahv{x Y K:Nat}{f p:Int}{up an bn:Bool}(hx:x≠0)(hlost:Y%2^K≠0->p< (af (x- (Y/2^K+1)):Nat)/\p< (af (x+Y/2^K):Nat)/\Y/2^K+1<x):
  WC an p up (QP an bn x (Y/2^K) (f+K) (decide (Y%2^K≠0)))=iV (bE an (x*2^K)+bE bn Y) f p up:=by
 have h2:=ayr K;have hd:=ay4 Y (2^K);have hlt:=ayI Y h2;unfold QP;by_cases hs:an=bn
 ·subst hs;rw[if_pos rfl];have e1:x+Y/2^K=(x*2^K+Y)/2^K:=by
   grind[ayy,Nat.mul_add_div]
  have e2:(x*2^K+Y) %2^K=Y%2^K:=by
   simp_all
  have e3:bE an (x*2^K)+bE an Y=bE (an !=false) (x*2^K+Y):=by
   grind[bE,pH]
  rw[e3,e1,H4]
  all_goals grind
 ·have hbn:bn=!an:=by
   cases an<;>cases bn<;>first|rfl|exact absurd rfl hs
  subst hbn;rw[if_neg hs];by_cases hl:Y%2^K≠0
  ·obtain⟨g1,g2,g3⟩:=hlost hl;have e0:ug (Y/2^K,decide (Y%2^K≠0))=Y/2^K+1:=by
    simp_all[ug,if_pos,decide_eq_true]
   rw[e0,if_neg ω];obtain⟨y,hy⟩:∃y,Y/2^K=y:=⟨_,rfl⟩;rw[hy]at hd g1 g2 g3⊢;have e1:(x- (y+1))*2^K+(2^K-Y%2^K)=x*2^K-Y:=by
    have e4:(x- (y+1))*2^K=x*2^K- (2^K*y+2^K):=by
     rw[Nat.sub_mul,ayA,Nat.one_mul,ayy y]
    have e5:2^K*y+2^K<=x*2^K:=by
     have:(y+1)*2^K<=x*2^K:=aym _ ω;grind
    omega
   have e6:(x*2^K-Y)/2^K=x- (y+1):=by
    rw[←e1,ayy (x- (y+1)),Nat.mul_add_div h2,Nat.div_eq_of_lt ω];rfl
   have e7:(x*2^K-Y) %2^K=2^K-Y%2^K:=by
    rw[←e1,ayy (x- (y+1)),Nat.mul_add_mod,ayV ω]
   have e3:bE an (x*2^K)+bE (!an) Y=bE (an !=false) (x*2^K-Y):=by
    grind[bE,pH,n7]
   grind[H4,decide_eq_true]
  ·have hl0:Y%2^K=0:=ω
   have e0:ug (Y/2^K,decide (Y%2^K≠0))=Y/2^K:=by
    simp_all[ug,if_neg,of_decide_eq_true]
   rw[e0,hl0,show decide ((0:Nat)≠0)=false from rfl];rw[hl0,ayF]at hd;obtain⟨y,hy⟩:∃y,Y/2^K=y:=⟨_,rfl⟩;rw[hy]at hd⊢;subst hd;by_cases hxy:x<y
   ·rw[if_pos hxy];have e6:((y-x)*2^K)/2^K=y-x:=Nat.mul_div_cancel _ h2;have e3:bE an (x*2^K)+bE (!an) (2^K*y)=bE (an !=true) ((y-x)*2^K):=by
     grind[bE,pH,n7]
    rw[e3];have:=H4 (an:=an) (p:=p) (up:=up) (N:=(y-x)*2^K) (K:=K) (f:=f) (more:=false) (t:=true) ω (by simp_all) (fun h=>absurd h ayl);grind
   ·rw[if_neg hxy];by_cases hE:x=y
    ·subst hE;have e3:bE an (x*2^K)+bE (!an) (2^K*x)=0:=by
      grind[bE,pH,n7]
     simp_all[WC,if_pos,Nat.sub_self,iV]
    ·have e6:((x-y)*2^K)/2^K=x-y:=Nat.mul_div_cancel _ h2;have e3:bE an (x*2^K)+bE (!an) (2^K*y)=bE (an !=false) ((x-y)*2^K):=by
      grind[bE,pH,n7]
     rw[e3];have:=H4 (an:=an) (p:=p) (up:=up) (N:=(x-y)*2^K) (K:=K) (f:=f) (more:=false) (t:=false) ω (by simp_all) (fun h=>absurd h ayl);grind
theorem apw{b:Rd}{l:Int}(h1:-40000<=l)(h2:-40000<=b.e):yZ b l=(ab b.m*2^ (b.e+40000).toNat/2^ (l+40000).toNat,decide (ab b.m*2^ (b.e+40000).toNat%2^ (l+40000).toNat≠0)):=by
 unfold yZ;by_cases h:l<=b.e
 ·rw[if_pos h,show(b.e+40000).toNat=(b.e-l).toNat+(l+40000).toNat by omega,ayn,←ayD,Nat.mul_div_cancel _ (ayr _),Nat.mul_mod_left];rfl
 ·have h3:=ayr (b.e+40000).toNat;rw[if_neg h,show(l+40000).toNat=(l-b.e).toNat+(b.e+40000).toNat by omega,ayn,Nat.mul_div_mul_right _ _ h3,Nat.mul_mod_mul_right];refine Prod.ext rfl ?_;show decide _=decide _;congr 1;refine propext ⟨fun h4 h5=>?_,fun h4 h5=>h4 ?_⟩
  ·rcases Nat.mul_eq_zero.1 h5 with h6|h6
   all_goals omega
  grind
theorem WD{d:Rd}{k:Nat}(h:-16384<=d.e)(n:Nat)(hn:n=(d.e+16384).toNat+k):zI d*2^k=bE d.neg (ab d.m*2^n):=by
 have h1:(mg d:Int)*2^k=((ab d.m*2^ ((d.e+16384).toNat+k):Nat):Int):=by
  unfold mg;grind
 unfold zI bE;grind
theorem aey{a b:Rd}{p:Int}(h:b.e<wX a b p):2<aL a-aL b/\wX a b p<=aL a-p-8:=by
 unfold wX at h⊢;omega
theorem ZJ{a b:Rd}(oa:Ok0 a)(ob:Ok0 b)(va:vd a=true)(vb:vd b=true)(na:a.m.length≠0)(nb:b.m.length≠0){p:Int}{up:Bool}(hp:8<=p/\p<=512)(ht:aL b<=aL a):
  WB a b p up=iV (zI a+zI b) (-16384) p up:=by
 have e1:=iM va na;have e2:=iM vb nb;obtain⟨a1,a2,a3,a4⟩:=ef va oa.lb;obtain⟨b1,b2,b3,b4⟩:=ef vb ob.lb;have l1:=QO (a:=a) (b:=b) (p:=p);have l2:=NC va vb oa.lb ob.lb na nb hp ht;have l3:=aey (a:=a) (b:=b) (p:=p);show WC a.neg p up (CQ a b p)=_;rw[QQ];obtain⟨l,hl⟩:∃l,wX a b p=l:=⟨_,rfl⟩;rw[hl]at l1 l2 l3⊢;obtain⟨K,hK⟩:∃K,(l+40000).toNat=K:=⟨_,rfl⟩;obtain⟨n1,hn1⟩:∃n,(a.e-l).toNat=n:=⟨_,rfl⟩;obtain⟨n2,hn2⟩:∃n,(b.e+40000).toNat=n:=⟨_,rfl⟩;have hx:ab a.m*2^n1≠0:=Nat.mul_ne_zero (dt va na) (Nat.pos_iff_ne_zero.1 (ayr _));rw[apw ω ω,hK,hn1,hn2];have bx:af (ab a.m*2^n1)=af (ab a.m)+n1:=dk _ (dt va na);have by':af (ab b.m*2^n2/2^K)=af (ab b.m)+n2-K:=by grind[jB,dk,dt]
 have hlK:l=-40000+(K:Int):=ω
 rw[hlK,ahv hx]
 ·obtain⟨k,hk⟩:∃k:Nat,k=23616:=⟨_,rfl⟩;rw[ayD,←ayn,←WD (k:=k) a2 (n1+K) ω,←WD (k:=k) b2 n2 ω,←Int.add_mul,Sw,show(-40000:Int)+(k:Nat)=-16384 by omega]
 ·intro hne;have hb:b.e<l:=by
   refine Int.not_le.1 fun h=>hne ?_;rw[show n2=(b.e-l).toNat+K by omega,ayn,←ayD,Nat.mul_mod_left]
  obtain⟨X,hX⟩:∃X,ab a.m*2^n1=X:=⟨_,rfl⟩;obtain⟨Y,hY⟩:∃Y,ab b.m*2^n2/2^K=Y:=⟨_,rfl⟩;rw[hX]at bx⊢;rw[hY]at by'⊢;obtain⟨t,hT⟩:∃t,af X=t+4:=⟨af X-4,by omega⟩;have hX2:2^ (t+3)<=X:=jK.1 ω;have hY2:Y<2^ (t+1):=bD.1 ω;have q1:2^ (t+3)=4*2^ (t+1):=γ
  have q2:2^ (t+2)=2*2^ (t+1):=γ
  have g3:t+2<af (X- (Y+1)):=jK.2 ω;have g4:t+3<af (X+Y):=jK.2 ω;omega
def du(a b:Rd)(p:Int)(up:Bool):Rd×Int:=if aZ p [a,b]=0 then iV (zI a+zI b) (-16384) p up else(aH,aZ p [a,b])
def fJ(a b:Rd)(p:Int)(up:Bool):Rd×Int:=if aZ p [a,b]=0 then iV (zI a*zI b) (-32768) p up else(aH,aZ p [a,b])
theorem cO{d:Rd}(h:d.m.length=0):zI d=0:=by
 grind[zI,ZC]
theorem ajQ{p:Int}{up:Bool}(hp:8<=p/\p<=512):cB 0 0 false p up=(aH,0):=by
 have hu:-600<=ej 0 0 p/\ej 0 0 p<=0:=by
  grind[ej,pG]
 unfold cB;obtain⟨u,he⟩:∃u,ej 0 0 p=u:=⟨_,rfl⟩;rw[he]at hu⊢;have hq:lD up (nO 0 0 false u)=0:=by
  simp_all[nO,lD,if_pos,Nat.zero_mul,ay1,if_neg,ayl]
 unfold sf;rw[hq,pG,if_neg ω];rw[se];unfold cH;rw[if_pos rfl,if_pos δ]
theorem FB{d:Rd}(ok:Ok0 d){p:Int}{up:Bool}:s9 d p up=if aZ p [d]=0 then iV (zI d) (-16384) p up else(aH,aZ p [d]):=by
 unfold s9;by_cases h0:aZ p [d]=0
 ·obtain⟨v1,v2,v3⟩:=uY h0;have v4:vd d=true:=γ
  obtain⟨h1,h2,h3,h4⟩:=ef v4 ok.lb;rw[if_pos h0,if_pos h0];by_cases hd:d.m.length=0
  ·have hz:=Bb v4 hd;subst hz;rw[cO rfl,iV,if_pos rfl];show gI false (cB 0 0 false p (up !=false))=_;rw[ajQ ⟨v2,v3⟩];rfl
  ·have hm:=GX v4 hd;unfold zI;rw[K9 ω];grind[mg,J8]
 grind
theorem ajR{a b:Rd}(oa:Ok0 a)(ob:Ok0 b){p:Int}{up:Bool}:QR a b p up=du a b p up:=by
 unfold QR du;by_cases h0:aZ p [a,b]=0
 ·obtain⟨v1,hp⟩:=uY h0;have v4:vd a=true/\vd b=true:=γ
  have f1:∀d,vd d=true->aZ p [d]=0:=fun d hd=>by
   simp_all[aZ,if_pos]
  by_cases a0:a.m.length=0
  ·rw[if_pos a0,FB ob,if_pos (f1 b v4.2),cO a0,Int.zero_add]
  rw[if_neg a0];by_cases b0:b.m.length=0
  ·rw[if_pos b0,FB oa,if_pos (f1 a v4.1),cO b0,Int.add_zero]
  rw[if_neg b0];by_cases ht:aL a<aL b
  ·rw[if_pos ht,ZJ ob oa v4.2 v4.1 b0 a0 hp ω,Int.add_comm]
  simp_all[if_neg,ZJ]
 grind
theorem ZK{a b:Rd}(oa:Ok0 a)(ob:Ok0 b){p:Int}{up:Bool}:J7 a b p up=fJ a b p up:=by
 unfold J7 fJ;by_cases h0:aZ p [a,b]=0
 ·obtain⟨v1,hp⟩:=uY h0;have v4:vd a=true/\vd b=true:=γ
  obtain⟨va,vb⟩:=v4;obtain⟨a1,a2,a3,a4⟩:=ef va oa.lb;obtain⟨b1,b2,b3,b4⟩:=ef vb ob.lb;by_cases a0:a.m.length=0
  ·rw[if_pos (Or.inl a0),cO a0,Int.zero_mul,iV,if_pos rfl]
  by_cases b0:b.m.length=0
  ·rw[if_pos (Or.inr b0),cO b0,Int.mul_zero,iV,if_pos rfl]
  have hz:zI a*zI b=bE (a.neg !=b.neg) (mg a*mg b):=by
   unfold zI bE;cases a.neg<;>cases b.neg<;>simp[Int.mul_neg,Int.neg_mul]
  have hm:mg a*mg b=ab a.m*ab b.m*2^ ((a.e+16384).toNat+(b.e+16384).toNat):=by
   grind[mg,ayn]
  have hv:ab a.m*ab b.m≠0:=Nat.mul_ne_zero (dt va a0) (dt vb b0);rw[hz];unfold bE;rw[K9 (Nat.mul_ne_zero (Nat.pos_iff_ne_zero.1 (GX va a0)) (Nat.pos_iff_ne_zero.1 (GX vb b0))),hm,J8 hv];grind
 grind
theorem iN{neg:Bool}{M:Nat}{e:Int}(h:M≠0):bk neg M e=⟨neg,av (M/2^tz M),e+tz M⟩:=by
 simp_all[se,if_neg]
theorem lg{neg:Bool}{e:Int}:bk neg 0 e=aH:=by
 simp_all[se,if_pos]
theorem jC{neg:Bool}{M k:Nat}{e:Int}:bk neg (M*2^k) e=bk neg M (e+k):=by
 by_cases h:M=0
 ·rw[h,Nat.zero_mul,lg,lg]
 ·have h2:M*2^k≠0:=Nat.mul_ne_zero h (Nat.pos_iff_ne_zero.1 (ayr k));rw[iN h,iN h2,ayy M,JX k h,ayn,Nat.mul_div_mul_left _ _ (ayr k)];grind
theorem pZ{neg:Bool}{M:Nat}{e:Int}(h:M≠0):ab (bk neg M e).m=M/2^tz M/\(bk neg M e).e=e+tz M/\M/2^tz M%2=1/\af (M/2^tz M)+tz M=af M:=by
 grind[tC,iN,aN,dk,tz,ayy]
theorem NF{neg:Bool}{M:Nat}{e:Int}(h:M≠0)(h1:af M<=4096)(h2:-16384<=e)(h3:(af M:Nat)+e<=16384):rh (af (ab (bk neg M e).m)) (bk neg M e).e=true:=by
 grind[pZ,af,tz,fu,rh,decide_eq_true]
theorem GY{neg:Bool}{M:Nat}{e:Int}(h:rh (af (ab (bk neg M e).m)) (bk neg M e).e=true):vd (bk neg M e)=true:=by
 by_cases h0:M=0
 ·subst h0;rfl
 ·obtain⟨g1,g2,g3,g4⟩:=pZ (neg:=neg) (e:=e) h0;have hn:M/2^tz M≠0:=ω
  rw[g1]at h;have hb:=(Bc h (Nat.pos_iff_ne_zero.1 (fu hn))).1;rw[iN h0]at h⊢;unfold vd;have hl:(av (M/2^tz M)).length<=128:=aV ω;have hl0:(av (M/2^tz M)).length≠0:=fun h5=>hn (oL.1 (List.length_eq_zero_iff.1 h5));have ht:(av (M/2^tz M)).getD ((av (M/2^tz M)).length-1) 0≠0:=(JW _).resolve_left (fun h5=>hn (oL.1 h5));have ho:(av (M/2^tz M)).getD 0 0%2=1:=by
   grind[re,tz]
  rw[aN,if_neg hl0,decide_eq_true (p:=(av (M/2^tz M)).length<=256) ω,decide_eq_true ho,decide_eq_true ht];grind
theorem EC{neg:Bool}{M:Nat}{e:Int}(h1:af M<=4096)(h2:-16384<=e)(h3:(af M:Nat)+e<=16384):cH (bk neg M e)=(bk neg M e,0):=by
 unfold cH;by_cases h:M=0
 ·subst h;rw[lg,if_pos δ]
 simp_all[if_pos,NF]
theorem ahw{M:Nat}{e:Int}(h1:af M<=4096)(h2:-16384<=e)(h3:(af M:Nat)+e<=16384):gW (bk false M e)=bk true M e:=by
 by_cases h:M=0
 ·subst h;rfl
 ·have hv:=GY (NF (neg:=false) h h1 h2 h3);obtain⟨g1,g2,g3,g4⟩:=pZ (neg:=false) (e:=e) h;unfold gW;rw[if_neg]
  ·grind[iN]
  ·grind[ab]
theorem ZL{neg:Bool}{M:Nat}{e:Int}(h1:af M<=4096)(h2:-16384<=e)(h3:(af M:Nat)+e<=16384):gI neg (cH (bk false M e))=(bk neg M e,0):=by
 rw[EC h1 h2 h3];unfold gI;cases neg with
 |false=>rw[if_neg (fun h=>ayl h.2)]
 |true=>
  grind[ahw]
def J9(M:Nat)(e p:Int):Nat:=(max (max ((af M:Nat)-p) (0-16384-e)) 0).toNat
def QS(M k:Nat)(more out:Bool):Nat:=if((more||decide (M%2^k≠0))&&out)=true then M/2^k+1 else M/2^k
def Bi(neg out:Bool)(p:Int)(q:Nat)(e:Int):Rd×Int:=if q≠0/\16384< (af q:Nat)+e then(if out=true then(aH,9)else(bk neg (2^p.toNat-1) (16384-p),0))else(bk neg q e,0)
def ED(neg:Bool)(M:Nat)(e:Int)(more:Bool)(p:Int)(up:Bool):Rd×Int:=Bi neg (neg !=up) p (QS M (J9 M e p) more (neg !=up)) (e+J9 M e p)
theorem WE{p:Int}{neg up:Bool}{q:Nat}{u:Int}(hp:8<=p/\p<=512)(hq:af q<=4096)(hu:-16384<=u)(h0:q=0->u<=16384):gI neg (sf p up q u)=Bi neg up p q u:=by
 unfold sf Bi;by_cases h:16384< ((af q:Nat):Int)+u
 ·have hq0:q≠0:=fun h1=>by
   grind[pG]
  cases up with
  |true=>
   simp_all[gI,if_neg]
  |false=>
   grind[WA,ZL]
 simp_all[if_neg,ZL]
theorem acH{neg out:Bool}{p:Int}{M k:Nat}{e:Int}:Bi neg out p (M*2^k) e=Bi neg out p M (e+k):=by
 unfold Bi;rw[jC];grind[Nat.mul_ne_zero,ayr,af,dk]
theorem Sx(q:Nat):af (q+1)<=af q+1:=by
 rw[bD,ayZ];have:=bD.1 (ayd (af q));omega
theorem aez{neg:Bool}{M:Nat}{e p:Int}{more up:Bool}(hp:8<=p/\p<=512)(hM:M≠0)(hm:more=true->p< (af M:Nat)):ED neg M e more p up=gI neg (cB M e more p (up !=neg)):=by
 have hx:(neg !=up)=(up !=neg):=γ
 unfold ED;rw[hx];unfold cB;obtain⟨u,hu⟩:∃u,ej M e p=u:=⟨_,rfl⟩;obtain⟨k,hk⟩:∃k,J9 M e p=k:=⟨_,rfl⟩;rw[hu,hk];unfold ej at hu;unfold J9 at hk;have hu1:-16384<=u/\e+(af M:Nat)-p<=u:=by
  omega
 by_cases hc:u<=e
 ·have hk0:k=0:=by
   omega
  have hmf:more=false:=by
   grind
  subst hk0;subst hmf;unfold nO QS;rw[if_pos hc,Nat.pow_zero,Nat.mod_one,show(false||decide ((0:Nat)≠0))=false from rfl,ayh,if_neg ayl,Nat.div_one];unfold lD;rw[ay1,if_neg ayl];have hq:=dk (e-u).toNat hM;rw[WE hp ω hu1.1 (fun h=>absurd (Nat.mul_eq_zero.1 h) (fun h2=>h2.elim hM (fun h3=>absurd h3 (Nat.pos_iff_ne_zero.1 (ayr _)))))];grind[acH]
 ·have hk0:k=(u-e).toNat:=by
   omega
  unfold nO QS;rw[if_neg hc,←hk0];have hq:af (M/2^k)<=513:=by
   grind[jB]
  have hq2:=Sx (M/2^k);have h3:lD (up !=neg) (M/2^k,more||decide (M%2^k≠0))=if((more||decide (M%2^k≠0))&& (up !=neg))=true then M/2^k+1 else M/2^k:=by
   grind[lD,Bool.and_comm]
  rw[h3];rw[WE hp (by split<;>omega) hu1.1]
  ·rw[show e+(k:Int)=u by omega]
  ·grind[af,jB]
theorem Pf{neg:Bool}{M:Nat}{e p:Int}{up:Bool}(hp:8<=p/\p<=512):ED neg M e false p up=iV (bE neg M) e p up:=by
 by_cases hM:M=0
 ·simp_all[bE,iV,if_pos,ED,QS,Bi,Nat.zero_mod,Nat.zero_div,ayh,if_neg,ayl,lg]
 simp_all[aez,absurd,ayl,bE,K9]
theorem aeA{M:Nat}{f p:Int}{more w neg:Bool}:vd (gI neg (cB M f more p w)).1=true/\Ok0 (gI neg (cB M f more p w)).1:=by
 have h0:vd aH=true/\Ok0 aH:=⟨rfl,⟨fun x hx=>(nomatch hx),by decide⟩⟩;have hc:∀ (q:Nat) (u:Int),vd (cH (bk false q u)).1=true/\Ok0 (cH (bk false q u)).1:=fun q u=>by
  unfold cH;by_cases h:rh (af (ab (bk false q u).m)) (bk false q u).e=true
  ·rw[if_pos h];have hv:=GY h;have hb:=yG false q u;exact⟨hv,hb,ayS (Aj hv hb) δ⟩
  grind
 have he:∀ (up:Bool) (q:Nat) (u:Int),vd (sf p up q u).1=true/\Ok0 (sf p up q u).1:=fun up q u=>by
  grind[sf]
 have hs:∀ (neg:Bool) (r:Rd×Int),(vd r.1=true/\Ok0 r.1)->vd (gI neg r).1=true/\Ok0 (gI neg r).1:=fun neg r hr=>by
  unfold gI gW;split
  ·split
   ·omega
   ·refine⟨?_,hr.2.1,hr.2.2⟩
    simp_all[vd,if_neg]
  omega
 exact hs _ _ (he _ _ _)
theorem td{z f p:Int}{up:Bool}:vd (iV z f p up).1=true/\Ok0 (iV z f p up).1:=by
 unfold iV;split
 ·exact⟨rfl,⟨fun x hx=>(nomatch hx),by decide⟩⟩
 ·exact aeA
noncomputable def te:Cmd:=.seq (.ops [2,3,4,8,11,12] [⟨(some 52),none,.load 3 true (.t 4)⟩,⟨(some 53),none,.load 3 true (.t 5)⟩,cm 54 2,⟨(some 55),none,.call (.c (.fn fdC [] [])) [(.t 52),(.t 53),(.t 54)]⟩,cm 51 55,co 56 (.ext 0 (.t 51)),co 57 (.ext 1 (.t 51)),⟨(some 11),none,.alloc [.emp,(.v (.int .i64 0)),(.v (.bool false))]⟩,⟨none,none,.store 3 (.t 11) (.t 56)⟩,cm 12 57]) (.seq (.seq (.ops [2,3,4,8,11,12,66] [co 58 (.fadr 0 (.t 11)),⟨(some 59),none,.load 1 false (.t 58)⟩,co 60 (.len false (.t 59)),co 61 (.bin .eql (.t 60) (.c (.v (.int .i64 0)))),cm 62 61,cg 63 62 true (.fadr 2 (.t 11)),⟨(some 64),(some (62,true)),.load 1 false (.t 63)⟩,cg 65 62 true (.un .not (.t 64)),co 66 (.pick (.t 62) (.t 65) (.c (.v (.bool false))))]) (.cond (.t 66) (.seq (.ops [8,9] [co 67 (.build [(.v (.bool false)),.emp,(.v (.int .i64 0))] []),⟨none,none,.store 3 (.t 8) (.t 67)⟩,co 9 (.mv (.c (.v (.int .i64 0))))]) (.ret)) (.skip))) (.seq (.ops [8,9] [co 68 (.fadr 0 (.t 4)),⟨(some 69),none,.load 1 false (.t 68)⟩,cm 70 12,co 71 (.eqc true 0 (.t 69) (.t 70)),⟨(some 72),none,.load 3 true (.t 11)⟩,cm 73 2,cm 74 3,⟨(some 75),none,.call (.c (.fn fdB [] [])) [(.t 71),(.t 72),(.t 73),(.t 74)]⟩,co 76 (.ext 0 (.t 75)),co 77 (.ext 1 (.t 75)),⟨none,none,.store 3 (.t 8) (.t 76)⟩,cm 9 77]) (.ret)))
theorem Cg:xk=.seq (.ops [2,3,4,5,8] [⟨(some 4),none,.box 3 (.t 0)⟩,⟨(some 5),none,.box 3 (.t 1)⟩,⟨(some 8),none,.alloc [(.v (.bool false)),.emp,(.v (.int .i64 0))]⟩,co 9 (.mv (.c (.v (.int .i64 0))))]) (.seq (.seq (.ops [2,3,4,5,8,10] [cm 13 2,⟨(some 14),none,.load 3 true (.t 4)⟩,⟨(some 15),none,.load 3 true (.t 5)⟩,⟨(some 16),none,.buildSl 3 [(.v (.bool false)),.emp,(.v (.int .i64 0))] 2 [(0,(.t 14)),(1,(.t 15))]⟩,⟨(some 17),none,.call (.c (.fn fdu [] [])) [(.t 13),(.t 16)]⟩,cm 10 17]) (.seq (.ops [2,3,4,5,8,10,19] [cm 18 10,co 19 (.bin .neq (.t 18) (.c (.v (.int .i64 0))))]) (.cond (.t 19) (.seq (.ops [8,9] [co 20 (.build [(.v (.bool false)),.emp,(.v (.int .i64 0))] []),cm 21 10,⟨none,none,.store 3 (.t 8) (.t 20)⟩,cm 9 21]) (.ret)) (.skip)))) (.seq (.block 0 [2,3,4,5,8] (.seq (.ops [2,3,4,5,8,22] [co 23 (.fadr 1 (.t 4)),⟨(some 24),none,.load 1 false (.t 23)⟩,co 25 (.len false (.t 24)),co 26 (.bin .eql (.t 25) (.c (.v (.int .i64 0)))),cm 22 26]) (.cond (.t 22) (.seq (.ops [8,9] [⟨(some 27),none,.load 3 true (.t 5)⟩,cm 28 2,cm 29 3,⟨(some 30),none,.call (.c (.fn fdy [] [])) [(.t 27),(.t 28),(.t 29)]⟩,co 31 (.ext 0 (.t 30)),co 32 (.ext 1 (.t 30)),⟨none,none,.store 3 (.t 8) (.t 31)⟩,cm 9 32]) (.ret)) (.seq (.ops [2,3,4,5,8,33] [co 34 (.fadr 1 (.t 5)),⟨(some 35),none,.load 1 false (.t 34)⟩,co 36 (.len false (.t 35)),co 37 (.bin .eql (.t 36) (.c (.v (.int .i64 0)))),cm 33 37]) (.cond (.t 33) (.seq (.ops [8,9] [⟨(some 38),none,.load 3 true (.t 4)⟩,cm 39 2,cm 40 3,⟨(some 41),none,.call (.c (.fn fdy [] [])) [(.t 38),(.t 39),(.t 40)]⟩,co 42 (.ext 0 (.t 41)),co 43 (.ext 1 (.t 41)),⟨none,none,.store 3 (.t 8) (.t 42)⟩,cm 9 43]) (.ret)) (.skip)))))) (.seq (.seq (.dops [2,3,4,5,8,48] [⟨(some 44),none,.load 3 true (.t 4)⟩,⟨(some 45),none,.call (.c (.fn faQ [] [])) [(.t 44)]⟩,⟨(some 46),none,.load 3 true (.t 5)⟩,⟨(some 47),none,.call (.c (.fn faQ [] [])) [(.t 46)]⟩,co 48 (.bin .lss (.t 45) (.t 47))] [(1,2)]) (.cond (.t 48) (.ops [2,3,4,5,8] [⟨(some 49),none,.load 3 true (.t 5)⟩,⟨(some 50),none,.load 3 true (.t 4)⟩,⟨none,none,.store 3 (.t 4) (.t 49)⟩,⟨none,none,.store 3 (.t 5) (.t 50)⟩]) (.skip))) te))):=rfl
theorem ajS{a b:Rd}(oa:Ok0 a)(ob:Ok0 b)(va:vd a=true)(vb:vd b=true)(na:a.m.length≠0)(nb:b.m.length≠0){p:Int}(hp:8<=p/\p<=512)(ht:aL b<=aL a):
  af (CQ a b p).1.1<=4120∧-40000<=(CQ a b p).1.2.1/\(CQ a b p).1.2.1<=40000:=by
 have e1:=iM va na;have e2:=iM vb nb;obtain⟨a1,a2,a3,a4⟩:=ef va oa.lb;obtain⟨b1,b2,b3,b4⟩:=ef vb ob.lb;have l1:=QO (a:=a) (b:=b) (p:=p);have l2:=NC va vb oa.lb ob.lb na nb hp ht;have ba:=fu (dt va na);have bb:=fu (dt vb nb);rw[QQ];obtain⟨l,hl⟩:∃l,wX a b p=l:=⟨_,rfl⟩;rw[hl]at l1 l2⊢;have hX:af (ab a.m*2^ (a.e-l).toNat)<=4100:=by
  rw[dk _ (dt va na)];omega
 have hY:af (yZ b l).1<=4100:=by
  unfold yZ;split
  ·rw[dk _ (dt vb nb)];omega
  ·show af (_/_)<=_;rw[jB];omega
 generalize(yZ b l).1=Y at hY⊢;generalize(yZ b l).2=lost;generalize ab a.m*2^ (a.e-l).toNat=X at hX⊢;have hU:af (ug (Y,lost))<=4101:=by
  unfold ug;split
  ·have:=Sx Y;show af (Y+1)<=4101;omega
  ·show af Y<=4101;omega
 have hm:∀x y:Nat,x<=y->af y<=4101->af x<=4101:=fun x y h1 h2=>yF h1 h2;generalize hYU:ug (Y,lost)=YU at hU;unfold QP;rw[hYU];split
 ·have:=EB hX hY;exact⟨ayj this δ,by show-40000<=l;omega,by show l<=40000;omega⟩
 ·split
  ·exact⟨ayj (hm _ _ (Nat.sub_le _ _) hU) δ,by show-40000<=l;omega,by show l<=40000;omega⟩
  ·exact⟨ayj (hm _ _ (Nat.sub_le _ _) (ayj hX δ)) δ,by show-40000<=l;omega,by show l<=40000;omega⟩
theorem Sy{a b:Rd}(oa:Ok0 a)(ob:Ok0 b)(va:vd a=true)(vb:vd b=true)(na:a.m.length≠0)(nb:b.m.length≠0){n:Nat}{up:Bool}(hp:8<=n/\n<=512)(ht:aL b<=aL a)(s:ak)(h:ac)
  (h2:s 2=I (n:Nat)) (h3:s 3=B up) (h4:s 4=.ref 4 none 0 0 0) (h5:s 5=.ref 5 none 0 0 0) (h8:s 8=.ref 8 none 0 0 0)
  (k4:h 4=.bx (ah a)) (k5:h 5=.bx (ah b)) (k8:h 8=.bx [.v (.bool false),.emp,.v (.int .i64 0)]) (kd:∀i,i≠4->i≠5->i≠8->i≠16->h i=.dead):
  ip false [[.o 0 [],.o 2 [],.o 0 []],[]] [.cell 8 3 true,.t 9] 0 (aj R (az false) te s h)=some (rV (WB a b (n:Nat) up),[]):=by
 have hs:=amv oa ob va vb na nb (p:=(n:Nat)) ⟨by omega,by omega⟩ ht;obtain⟨g1,g2,g3⟩:=ajS oa ob va vb na nb (p:=(n:Nat)) ⟨by omega,by omega⟩ ht;have hl:(av (CQ a b (n:Nat)).1.1).length<=256:=aV ω;have hg:=fun neg up=>FA (M:=av (CQ a b (n:Nat)).1.1) (e:=(CQ a b (n:Nat)).1.2.1) (n:=n) (more:=(CQ a b (n:Nat)).1.2.2) (up:=up) (neg:=neg) (bc _) hl ⟨g2,g3⟩ hp;unfold WB;generalize CQ a b (n:Nat)=z at hs g1 g2 g3 hl hg⊢;obtain⟨⟨M,l,more⟩,t⟩:=z;simp only[sV,ae,ah,xz]at hs hg k4 k5;simp only[aN]at hg;have hw:=hg (a.neg !=t) up;generalize hr:gI (a.neg !=t) (cB M l more (n:Nat) (up != (a.neg !=t)))=r at hw;simp only[rV,ae,ah]at hw;by_cases hM:M=0
 ·have e1:(((av M).length:Int)=0)=True:=tt (by rw[hM,ft];rfl);cases more with
  |false=>
   rw[if_pos ⟨hM,rfl⟩];clear hr;simp only[te,rV,ae,ah,aH,go_sem,ne_eq,not_false_eq_true,h2,h3,h4,h5,h8,k4,k5,k8,kd,hs,e1]
  |true=>
   rw[if_neg (fun h=>ayl h.2.symm)];rw[show gI (a.neg !=t) (cB M l true (n:Nat) (up != (a.neg !=t)))=r from hr];clear hr;simp only[te,rV,ae,ah,go_sem,ne_eq,not_false_eq_true,h2,h3,h4,h5,h8,k4,k5,k8,kd,hs,e1,Ai,hw]
 ·have e1:(((av M).length:Int)=0)=False:=ff (fun h=>hM (oL.1 (List.length_eq_zero_iff.1 ω)));rw[if_neg (fun h=>hM h.1)];rw[show gI (a.neg !=t) (cB M l more (n:Nat) (up != (a.neg !=t)))=r from hr];clear hr;simp only[te,rV,ae,ah,go_sem,ne_eq,not_false_eq_true,h2,h3,h4,h5,h8,k4,k5,k8,kd,hs,e1,Ai,hw]
theorem ahx{a b:Rd}(oa:Ok0 a)(ob:Ok0 b){p:Int}{up:Bool}(h0:aZ p [a,b]=0)(a0:a.m.length≠0)(b0:b.m.length≠0):R fdr [ae a,ae b,I p,B up] []=some (rV (QR a b p up),[]):=by
 refine au MG rfl ?_;have hf:R fdu [I p,.sl 3 [[B a.neg,lm a.m,I a.e],[B b.neg,lm b.m,I b.e]]] []=some (I (aZ p [a,b]),[]):=Bh (p:=p) (l:=[a,b]) (fun x hx=>by
  rcases List.mem_cons.1 hx with h|h
  ·rw[h];exact oa
  ·rw[List.mem_singleton.1 h];exact ob) (show 2<=100000 by decide)
 rw[h0]at hf;obtain⟨v1,hp⟩:=uY h0;have v4:vd a=true/\vd b=true:=by simpa using v1
 obtain⟨va,vb⟩:=v4;have ta:=Ce oa;have tb:=Ce ob;simp only[ae,ah]at ta tb;obtain⟨n,rfl⟩:=aze (show 0<=p by omega);have e1:((a.m.length:Int)=0)=False:=ff;have e2:((b.m.length:Int)=0)=False:=ff;unfold QR;rw[if_pos h0,if_neg a0,if_neg b0];by_cases ht:aL a<aL b
 ·have e3:(aL a<aL b)=True:=tt ht;rw[if_pos ht];simp only[nE,Cg,ae,ah,go_sem,hf,e1,e2,ta,tb,e3];refine Sy ob oa vb va b0 a0 ω ω _ _ rfl rfl rfl rfl rfl rfl rfl rfl fun i h4 h5 h8 h16=>?_;simp only[cV,h4,h5,h8,h16,if_false]
 ·have e3:(aL a<aL b)=False:=ff ht;rw[if_neg ht];simp only[nE,Cg,ae,ah,go_sem,hf,e1,e2,ta,tb,e3];refine Sy oa ob va vb a0 b0 ω ω _ _ rfl rfl rfl rfl rfl rfl rfl rfl fun i h4 h5 h8 h16=>?_;simp only[cV,h4,h5,h8,h16,if_false]
theorem ZM{a b:Rd}(oa:Ok0 a)(ob:Ok0 b){p:Int}{up:Bool}:R fdr [ae a,ae b,I p,B up] []=some (rV (du a b p up),[]):=by
 rw[←ajR oa ob];by_cases h0:aZ p [a,b]=0
 ·by_cases a0:a.m.length=0
  ·exact NE oa ob (Or.inr (Or.inl a0))
  ·by_cases b0:b.m.length=0
   ·exact NE oa ob (Or.inr (Or.inr b0))
   ·exact ahx oa ob h0 a0 b0
 ·exact NE oa ob (Or.inl h0)
theorem WF{a b:Rd}(oa:Ok0 a)(ob:Ok0 b){p:Int}:R fdi [ae a,ae b,I p] []=some (rV (du a b p true),[]):=by
 refine au TR rfl ?_;have hr:=ZM oa ob (p:=p) (up:=true);generalize du a b p true=r at hr⊢;simp only[rV,ae,ah]at hr;simp only[AO,IL,rV,ae,ah,go_sem,hr]
theorem H5{a b:Rd}(oa:Ok0 a)(ob:Ok0 b){p:Int}:R fdh [ae a,ae b,I p] []=some (rV (du a b p false),[]):=by
 refine au OT rfl ?_;have hr:=ZM oa ob (p:=p) (up:=false);generalize du a b p false=r at hr⊢;simp only[rV,ae,ah]at hr;simp only[xV,Ff,rV,ae,ah,go_sem,hr]
theorem Sz{a b:Rd}(oa:Ok0 a)(ob:Ok0 b){p:Int}:R fdo [ae a,ae b,I p] []=some (rV (fJ a b p true),[]):=by
 rw[←ZK oa ob];exact aht oa ob
theorem MH{a b:Rd}(oa:Ok0 a)(ob:Ok0 b){p:Int}:R fdn [ae a,ae b,I p] []=some (rV (fJ a b p false),[]):=by
 rw[←ZK oa ob];exact acG oa ob
def bZ(d:Rd)(p:Int)(up:Bool):Rd×Int:=if aZ p [d]=0 then iV (zI d) (-16384) p up else(aH,aZ p [d])
theorem ZN{d:Rd}(ok:Ok0 d){p:Int}:R fdq [ae d,I p] []=some (rV (bZ d p true),[]):=by
 have h:=FB ok (p:=p) (up:=true);rw[bZ,←h];exact amu ok
theorem SA{d:Rd}(ok:Ok0 d){p:Int}:R fdl [ae d,I p] []=some (rV (bZ d p false),[]):=by
 have h:=FB ok (p:=p) (up:=false);rw[bZ,←h];exact ahs ok
structure Ri where
 lo:Rd
 hi:Rd
 all:Bool
def ap(x:Ri):List AV:=[B x.lo.neg,lm x.lo.m,I x.lo.e,B x.hi.neg,lm x.hi.m,I x.hi.e,B x.all]
def am(x:Ri):AV:=.agg (ap x)
def dm:Ri:=⟨aH,aH,true⟩
structure OkI (x:Ri):Prop where
 lo:Ok0 x.lo
 hi:Ok0 x.hi
def z0(d:Rd):Bool:=!d.neg&& (decide (d.m.length=0)&&decide (d.e=0))
def vi(x:Ri):Bool:=if x.all=true then z0 x.lo&&z0 x.hi else vd x.lo&& (vd x.hi&&decide (zI x.lo<=zI x.hi))
def kI(x:Ri):Bool:=!x.all&&vi x
def bG(p:Int):Bool:=decide (8<=p)&&decide (p<=512)
theorem u9{p:Int}:R fbs [I p] []=some (B (bG p),[]):=by
 refine au HQ rfl ?_;unfold bG;by_cases h1:8<=p
 ·have e1:(8<=p)=True:=tt h1;simp only[lw,rM,go_sem,e1,decide_true,ayg]
 ·have e1:(8<=p)=False:=ff h1;simp only[lw,rM,go_sem,e1,decide_false,ayh]
theorem jD:R fbl [] []=some (am dm,[]):=by
 refine au Nb rfl ?_;simp only[wI,DT,am,ap,dm,aH,go_sem]
theorem ai0{d:Rd}:R fbk [ae d] []=some (B (z0 d),[]):=by
 refine au JZ rfl ?_;unfold z0;cases hn:d.neg with
 |true=>simp only[ie,kW,ae,ah,go_sem,hn,Bool.not_true,ayh]
 |false=>
  by_cases h1:d.m.length=0
  ·have e1:((d.m.length:Int)=0)=True:=tt;by_cases h2:d.e=0
   ·have e2:(d.e=0)=True:=tt h2;rw[decide_eq_true h1,decide_eq_true h2];simp only[ie,kW,ae,ah,go_sem,hn,e1,e2,Bool.not_false,ayg]
   ·have e2:(d.e=0)=False:=ff h2;rw[decide_eq_true h1,decide_eq_false h2];simp only[ie,kW,ae,ah,go_sem,hn,e1,e2,Bool.not_false,ayg]
  ·have e1:((d.m.length:Int)=0)=False:=ff;rw[decide_eq_false h1];simp only[ie,kW,ae,ah,go_sem,hn,e1,Bool.not_false,ayg,ayh]
theorem wo{x y:Int}:(cx x y<=0)=(x<=y):=by
 grind[cx]
theorem mK{x:Ri}(ok:OkI x):R fbj [am x] []=some (B (vi x),[]):=by
 refine au M8 rfl ?_;unfold vi;have zl:=ai0 (d:=x.lo);have zh:=ai0 (d:=x.hi);have vl:=eC ok.lo;have vh:=eC ok.hi;have hc:=ri ok.lo ok.hi;simp only[ae,ah]at zl zh vl vh hc;cases ha:x.all with
 |true=>
  cases h1:z0 x.lo with
  |true=>
   rw[h1]at zl;simp only[gR,kl,am,ap,go_sem,ha,zl,zh,ayg]
  |false=>
   rw[h1]at zl;simp only[gR,kl,am,ap,go_sem,ha,zl,ayh]
 |false=>
  cases h1:vd x.lo with
  |false=>
   rw[h1]at vl;simp only[gR,kl,am,ap,go_sem,ha,vl,ayh]
  |true=>
   rw[h1]at vl;cases h2:vd x.hi with
   |false=>
    rw[h2]at vh;simp only[gR,kl,am,ap,go_sem,ha,vl,vh,ayg,ayh]
   |true=>
    rw[h2]at vh;rw[h1,h2,if_pos ⟨rfl,rfl⟩]at hc;simp only[gR,kl,am,ap,go_sem,ha,vl,vh,hc,wo,ayg]
theorem gX{d:Rd}(ok:Ok0 d)(hv:vd d=true):R fbf [ae d] []=some (am ⟨d,d,false⟩,[]):=by
 refine au M9 rfl ?_;have vl:=eC ok;rw[hv]at vl;simp only[ae,ah]at vl;simp only[wH,DR,ae,ah,am,ap,go_sem,vl]
def ui(r s:Rd×Int):Ri:=if r.2=0/\s.2=0 then⟨r.1,s.1,false⟩else dm
theorem QT{a b:Rd}{e f:Int}:R fbq [ae a,I e,ae b,I f] []=some (am (ui (a,e) (b,f)),[]):=by
 refine au O1 rfl ?_;have hw:=jD;unfold ui;by_cases h1:e=0
 ·have e1:(e=0)=True:=tt h1;by_cases h2:f=0
  ·have e2:(f=0)=True:=tt h2;simp only[nD,tV,ae,ah,am,ap,go_sem,e1,e2]
  ·have e2:(f=0)=False:=ff h2;simp only[nD,tV,ae,ah,am,ap,go_sem,e1,e2,hw]
 ·have e1:(e=0)=False:=ff h1;simp only[nD,tV,ae,ah,am,ap,go_sem,e1,hw]
def bQ(l:List Ri):List (List AV):=l.map ap
@[go_sem] theorem ZO(l:List Ri):(bQ l).length=l.length:=by simp[bQ]
theorem Ds{l:List Ri}{i:Int}{n:Nat}{d:Ri}(hi:i=n)(h:l[n]?=some d):aX (bQ l) i=some (.ipt (ap d)):=by
 grind[aX,bQ]
theorem acI(l:List Ri)(ok:∀d∈l,OkI d)(h2:l.length<=100000):∀ (k i:Nat),i+k=l.length->∀ (s:ak) (h:ac),s 5=.sl 7 (bQ l)->s 6=I l.length->s 7=I i->
  ∃hh,ai 0 [] (ax (aj R (az false) ig) [5,6,7] [] s h)=if((l.drop i).all kI)=true then some (.normal,⟨fun _=>.any,fun _=>.dead⟩)else some (.ret,⟨upd (fun _=>.any) 2 (B false),hh⟩):=by
 intro k;induction k with
 |zero=>
  intro i hi s h h5 h6 h7;have e1:((i:Int)<l.length)=False:=ff;rw[ayw ω,ag,List.all_nil,if_pos rfl];refine⟨fun _=>.dead,?_⟩;simp only[ig,go_sem,h5,h6,h7,e1]
 |succ k ih=>
  intro i hi s h h5 h6 h7;have hlt:i<l.length:=ω
  have e1:((i:Int)<l.length)=True:=tt;have e2:aX (bQ l) (i:Int)=some (.ipt (ap l[i])):=Ds rfl (List.getElem?_eq_getElem hlt);have e5:IntKind.i64.wrap ((i:Int)+1)=((i+1:Nat):Int):=wi;have e3:=mK (ok l[i] (ayC hlt));rw[ayv hlt,ayJ,ag];have ih':=ih (i+1) ω;generalize l[i]=d at e2 e3⊢;simp only[am]at e3;simp only[ap]at e2 e3;unfold kI at ih'⊢;cases ha:d.all with
  |true=>
   refine⟨?hh,?_⟩;rotate_left;simp only[ig,go_sem,h5,h6,h7,e1,e2,ha];rfl
  |false=>
   rw[ha]at e3;cases hv:vi d with
   |false=>
    rw[hv]at e3;refine⟨?hh2,?_⟩;rotate_left;simp only[ig,go_sem,h5,h6,h7,e1,e2,e3,ha];rfl
   |true=>
    rw[hv]at e3;simp only[ig,go_sem,h5,h6,h7,e1,e2,e3,e5,ha];exact ih' _ _ rfl rfl rfl
theorem WG{l:List Ri}(ok:∀d∈l,OkI d)(h2:l.length<=100000):R fbo [.sl 7 (bQ l)] []=some (B (l.all kI),[]):=by
 refine au Nc rfl ?_;have h3:=acI l ok h2 l.length 0 (ayc _);simp only[azb,ayO]at h3;cases ha:l.all kI with
 |false=>
  rw[ha]at h3;simp only[qk,xU,go_sem];rw[(h3 _ _ rfl rfl rfl).choose_spec];simp only[go_sem]
 |true=>
  rw[ha]at h3;simp only[qk,xU,go_sem];rw[(h3 _ _ rfl rfl rfl).choose_spec];simp only[go_sem]
theorem ve{x:Ri}(ok:OkI x):R fbo [.sl 7 [[B x.lo.neg,lm x.lo.m,I x.lo.e,B x.hi.neg,lm x.hi.m,I x.hi.e,B x.all]]] []=some (B (kI x),[]):=by
 have h:=WG (l:=[x]) (fun d hd=>by grind) (show 1<=100000 by decide);rw[ayJ,List.all_nil,Bool.and_true]at h;exact h
theorem FC{x y:Ri}(ox:OkI x)(oy:OkI y):R fbo [.sl 7 [[B x.lo.neg,lm x.lo.m,I x.lo.e,B x.hi.neg,lm x.hi.m,I x.hi.e,B x.all],[B y.lo.neg,lm y.lo.m,I y.lo.e,B y.hi.neg,lm y.hi.m,I y.hi.e,B y.all]]] []=some (B (kI x&&kI y),[]):=by
 have h:=WG (l:=[x,y]) (fun d hd=>by
  grind) (show 2<=100000 by decide)
 rw[ayJ,ayJ,List.all_nil,Bool.and_true]at h;exact h
def eG(x y:Ri)(p:Int):Ri:=if(kI x&&kI y&&bG p)=true then ui (du x.lo y.lo p false) (du x.hi y.hi p true)else dm
theorem yH{x y:Ri}(ox:OkI x)(oy:OkI y){p:Int}:R fa3 [am x,am y,I p] []=some (am (eG x y p),[]):=by
 refine au Qm rfl ?_;have hk:=FC ox oy;have hp:=u9 (p:=p);have hw:=jD;have hd:=H5 ox.lo oy.lo (p:=p);have hu:=WF ox.hi oy.hi (p:=p);unfold eG;generalize du x.lo y.lo p false=r at hd⊢;generalize du x.hi y.hi p true=q at hu⊢;obtain⟨r1,r2⟩:=r;obtain⟨q1,q2⟩:=q;have hm:=QT (a:=r1) (b:=q1) (e:=r2) (f:=q2);simp only[am,ap,rV,ae,ah]at hw hd hu hm;cases h1:(kI x&&kI y)with
 |false=>
  rw[h1]at hk;simp only[po,vL,am,ap,go_sem,hk,hw]
 |true=>
  rw[h1]at hk;cases h2:bG p with
  |false=>
   rw[h2]at hp;simp only[po,vL,am,ap,go_sem,hk,hp,hw]
  |true=>
   rw[h2]at hp;simp only[po,vL,am,ap,go_sem,hk,hp,hw,hd,hu,hm]
def eW(a b:Rd):Int:=if vd a=true/\vd b=true then cx (zI a) (zI b)else 0
def kN(a b:Rd):Rd:=if eW a b<=0 then a else b
def kO(a b:Rd):Rd:=if 0<=eW a b then a else b
theorem QU{a b:Rd}(oa:Ok0 a)(ob:Ok0 b):R fbp [ae a,ae b] []=some (ae (kN a b),[]):=by
 refine au O3 rfl ?_;have hc:=ri oa ob;rw[show(if vd a=true/\vd b=true then cx (zI a) (zI b)else 0)=eW a b from rfl]at hc;simp only[ae,ah]at hc;unfold kN;by_cases h:eW a b<=0
 ·have e1:(eW a b<=0)=True:=tt h;simp only[rQ,zN,ae,ah,go_sem,hc,e1]
 ·have e1:(eW a b<=0)=False:=ff h;simp only[rQ,zN,ae,ah,go_sem,hc,e1]
theorem QV{a b:Rd}(oa:Ok0 a)(ob:Ok0 b):R fbr [ae a,ae b] []=some (ae (kO a b),[]):=by
 refine au O2 rfl ?_;have hc:=ri oa ob;rw[show(if vd a=true/\vd b=true then cx (zI a) (zI b)else 0)=eW a b from rfl]at hc;simp only[ae,ah]at hc;unfold kO;by_cases h:0<=eW a b
 ·have e1:(0<=eW a b)=True:=tt h;simp only[rP,zM,ae,ah,go_sem,hc,e1]
 ·have e1:(0<=eW a b)=False:=ff h;simp only[rP,zM,ae,ah,go_sem,hc,e1]
theorem ai1{x:Ri}(h:kI x=true):vd x.lo=true/\vd x.hi=true/\zI x.lo<=zI x.hi/\x.all=false:=by
 unfold kI vi at h;grind
theorem apx{x:Ri}(h1:vd x.lo=true)(h2:vd x.hi=true)(h3:zI x.lo<=zI x.hi)(h4:x.all=false):kI x=true:=by
 grind[kI,vi,decide_eq_true]
def Ka(x:Ri):Int:=if 0<cQ x.lo then 1 else if cQ x.hi<0 then-1 else 0
theorem WH{x:Ri}(ok:OkI x)(hx:kI x=true):R fbh [am x] []=some (I (Ka x),[]):=by
 refine au OV rfl ?_;obtain⟨v1,v2,v3,v4⟩:=ai1 hx;have hk:=ve ok;rw[hx]at hk;have s1:=Ey ok.lo v1;have s2:=Ey ok.hi v2;simp only[ae,ah]at s1 s2;unfold Ka;by_cases h1:0<cQ x.lo
 ·have e1:(0<cQ x.lo)=True:=tt h1;simp only[nv,tU,am,ap,go_sem,hk,s1,e1]
 ·have e1:(0<cQ x.lo)=False:=ff h1;by_cases h2:cQ x.hi<0
  ·have e2:(cQ x.hi<0)=True:=tt h2;simp only[nv,tU,am,ap,go_sem,hk,s1,e1,s2,e2]
  ·have e2:(cQ x.hi<0)=False:=ff h2;simp only[nv,tU,am,ap,go_sem,hk,s1,e1,s2,e2]
def si(d:Rd):Rd:=if vd d=false\/d.m.length=0 then aH else⟨false,d.m,d.e⟩
theorem aU:vd aH=true/\Ok0 aH:=⟨rfl,⟨fun x hx=>(nomatch hx),by decide⟩⟩
theorem yI{d:Rd}(ok:Ok0 d):Ok0 (si d):=by
 unfold si;split
 ·exact aU.2
 ·exact⟨ok.1,ok.2⟩
def Bj(x:Ri):Rd:=if Ka x=0 then aH else kN (si x.lo) (si x.hi)
def H6(x:Ri):Rd:=kO (si x.lo) (si x.hi)
theorem amw{x:Ri}(ok:OkI x)(hx:kI x=true):R fbc [am x] []=some (.tup [ae (Bj x),B true],[]):=by
 refine au QA rfl ?_;have hk:=ve ok;rw[hx]at hk;have hs:=WH ok hx;have a1:=Pc ok.lo;have a2:=Pc ok.hi;rw[show(if vd x.lo=false\/x.lo.m.length=0 then aH else(⟨false,x.lo.m,x.lo.e⟩:Rd))=si x.lo from rfl]at a1;rw[show(if vd x.hi=false\/x.hi.m.length=0 then aH else(⟨false,x.hi.m,x.hi.e⟩:Rd))=si x.hi from rfl]at a2;have hl:=QU (yI ok.lo) (yI ok.hi);unfold Bj;simp only[am,ap,ae,ah]at hs a1 a2 hl;by_cases h1:Ka x=0
 ·have e1:(Ka x=0)=True:=tt h1;simp only[ue,A7,am,ap,ae,ah,aH,go_sem,hk,hs,e1]
 ·have e1:(Ka x=0)=False:=ff h1;simp only[ue,A7,am,ap,ae,ah,go_sem,hk,hs,e1,a1,a2,hl]
theorem amx{x:Ri}(ok:OkI x)(hx:kI x=true):R fa9 [am x] []=some (.tup [ae (H6 x),B true],[]):=by
 refine au QB rfl ?_;have hk:=ve ok;rw[hx]at hk;have a1:=Pc ok.lo;have a2:=Pc ok.hi;rw[show(if vd x.lo=false\/x.lo.m.length=0 then aH else(⟨false,x.lo.m,x.lo.e⟩:Rd))=si x.lo from rfl]at a1;rw[show(if vd x.hi=false\/x.hi.m.length=0 then aH else(⟨false,x.hi.m,x.hi.e⟩:Rd))=si x.hi from rfl]at a2;have hl:=QV (yI ok.lo) (yI ok.hi);unfold H6;simp only[ae,ah]at a1 a2 hl;simp only[Aa,GK,am,ap,ae,ah,go_sem,hk,a1,a2,hl]
def vf(x:Ri):Ri:=if kI x=true then⟨Bj x,H6 x,false⟩else dm
theorem ajT{x:Ri}(ok:OkI x):R fa2 [am x] []=some (am (vf x),[]):=by
 refine au Qz rfl ?_;have hk:=ve ok;have hw:=jD;unfold vf;cases hx:kI x with
 |false=>
  rw[hx]at hk;simp only[ud,AY,am,ap,go_sem,hk,hw]
 |true=>
  rw[hx]at hk;have h1:=amw ok hx;have h2:=amx ok hx;simp only[am,ap,ae,ah]at h1 h2;simp only[ud,AY,am,ap,go_sem,hk,h1,h2]
def wr(dn up:Rd->Rd->Rd×Int)(pr:Nat->Rd×Rd):Nat->Nat->Rd×Rd->Option (Rd×Rd)
 |0,_,o=>some o
 |k+1,i,o=>if(dn (pr i).1 (pr i).2).2=0/\(up (pr i).1 (pr i).2).2=0 then
   wr dn up pr k (i+1) (if eW (dn (pr i).1 (pr i).2).1 o.1<0 then(dn (pr i).1 (pr i).2).1 else o.1,if 0<eW (up (pr i).1 (pr i).2).1 o.2 then(up (pr i).1 (pr i).2).1 else o.2)
  else none
def qA(dn up:Rd->Rd->Rd×Int)(pr:Nat->Rd×Rd):Option (Rd×Rd):=
 if(dn (pr 0).1 (pr 0).2).2=0/\(up (pr 0).1 (pr 0).2).2=0 then wr dn up pr 3 1 ((dn (pr 0).1 (pr 0).2).1,(up (pr 0).1 (pr 0).2).1)else none
def I0:Option (Rd×Rd)->Ri
 |some o=>⟨o.1,o.2,false⟩
 |none=>dm
def Uo(x:Option (Ex×St))(o:Option (Rd×Rd)):Prop:=match o with
 |some q=>∃hh,x=some (.normal,⟨upd (upd (fun _=>.any) 12 (.ref 12 none 0 0 0)) 10 (.ref 10 none 0 0 0),hh⟩)/\hh 10=.bx [.v (.bool false),.emp,.v (.int .i64 0),.v (.bool false),.emp,.v (.int .i64 0),.v (.bool false)]/\hh 12=.bx (ap ⟨q.1,q.2,false⟩)
 |none=>∃hh,x=some (.ret,⟨upd (fun _=>.any) 10 (.ref 10 none 0 0 0),hh⟩)/\hh 10=.bx (ap dm)
theorem Dt{a b:Rd}{p:Int}{up:Bool}:Ok0 (fJ a b p up).1:=by
 unfold fJ;split
 ·exact td.2
 ·exact aU.2
structure Op2 (f:FuncId) (g:Rd->Rd->Rd×Int) (p:Int):Prop where
 ct:∀ {a b:Rd},Ok0 a->Ok0 b->R f [ae a,ae b,I p] []=some (rV (g a b),[])
 ok:∀ {a b:Rd},Ok0 (g a b).1
 s:Ft f [[.o 0 [],.o 2 [],.o 0 []],[.o 0 [],.o 2 [],.o 0 []],[]]
 m:Fu f []
 k:Fv f false
 c:MD f
theorem aeB{p:Int}{A:AV}{pr:Nat->Rd×Rd}{fD fU:FuncId}{dn up:Rd->Rd->Rd×Int}(oD:Op2 fD dn p)(oU:Op2 fU up p)(hA:gD [10,12] A=A)(hidx:∀i:Nat,i<4->KQ 4 6 true A (I i)=some (.agg [B (pr i).1.neg,lm (pr i).1.m,I (pr i).1.e,B (pr i).2.neg,lm (pr i).2.m,I (pr i).2.e]))
  (hok:∀i,Ok0 (pr i).1/\Ok0 (pr i).2):∀ (k i:Nat),i+k=4->1<=i->∀ (lo hi:Rd) (s:ak) (h:ac),Ok0 lo->Ok0 hi->s 2=I p->s 3=.fn fD [] []->s 4=.fn fU [] []->s 10=.ref 10 none 0 0 0->s 12=.ref 12 none 0 0 0->s 40=A->s 41=I i->
  h 10=.bx [.v (.bool false),.emp,.v (.int .i64 0),.v (.bool false),.emp,.v (.int .i64 0),.v (.bool false)]->h 12=.bx (ap ⟨lo,hi,false⟩)->
  Uo (ai 0 [10,12] (ax (aj R (az false) bw) [2,3,4,10,12,40,41] [10,12] s h)) (wr dn up pr k i (lo,hi)):=by
 intro k;induction k with
 |zero=>
  intro i hi4 h1 lo hi s h olo ohi h2 h3 h4 h10 h12 h40 h41 k10 k12;have e1:((i:Int)<4)=False:=ff;simp only[ap]at k12;rw[ag];refine⟨?hh0,?_,?_,?_⟩;rotate_left
  ·simp only[bw,go_sem,h2,h3,h4,h10,h12,h40,h41,k10,k12,hA,e1];rfl
  ·rfl
  ·rfl
 |succ k ih=>
  intro i hi4 h1 lo hi s h olo ohi h2 h3 h4 h10 h12 h40 h41 k10 k12;have e1:((i:Int)<4)=True:=tt;have e0:((i:Int)=0)=False:=ff;have ei:=hidx i ω;have e5:IntKind.i64.wrap ((i:Int)+1)=((i+1:Nat):Int):=wi;have hd:=oD.ct (hok i).1 (hok i).2;have hu:=oU.ct (hok i).1 (hok i).2;have hw:=jD;have okd:=oD.ok (a:=(pr i).1) (b:=(pr i).2);have oku:=oU.ok (a:=(pr i).1) (b:=(pr i).2);have c1:=ri okd olo;have c2:=ri oku ohi;rw[show∀a b:Rd,(if vd a=true/\vd b=true then cx (zI a) (zI b)else 0)=eW a b from fun _ _=>rfl]at c1 c2;have ih':=ih (i+1) ω ω;unfold wr;simp only[ap]at k12;show Uo _ (if(dn (pr i).1 (pr i).2).2=0/\(up (pr i).1 (pr i).2).2=0 then _ else none);generalize dn (pr i).1 (pr i).2=r at hd okd c1⊢;generalize up (pr i).1 (pr i).2=q at hu oku c2⊢;obtain⟨r1,r2⟩:=r;obtain⟨q1,q2⟩:=q;show Uo _ (if r2=0/\q2=0 then wr dn up pr k (i+1) (if eW r1 lo<0 then r1 else lo,if 0<eW q1 hi then q1 else hi)else none);simp only[rV,ae,ah,am,ap,dm,aH]at hd hu hw c1 c2;rw[ag];generalize ax _ _ _=L at ih'⊢;by_cases hr:r2=0
  ·have er:(r2=0)=True:=tt hr;by_cases hq:q2=0
   ·have eq:(q2=0)=True:=tt hq;rw[if_pos (show r2=0/\q2=0 from⟨hr,hq⟩)];by_cases g1:eW r1 lo<0
    ·have f1:(eW r1 lo<0)=True:=tt g1;by_cases g2:0<eW q1 hi
     ·have f2:(0<eW q1 hi)=True:=tt g2;rw[if_pos g1,if_pos g2];simp only[bw,Int.cast_ofNat_Int,go_sem,oD.s,oD.m,oD.k,oD.c,oU.s,oU.m,oU.k,oU.c,ayz,ayN,ayE,h2,h3,h4,h10,h12,h40,h41,k10,k12,hA,e1,e0,ei,hd,hu,er,eq,c1,c2,f1,f2,e5];exact ih' r1 q1 _ _ okd oku rfl rfl rfl rfl rfl rfl rfl rfl rfl
     ·have f2:(0<eW q1 hi)=False:=ff g2;rw[if_pos g1,if_neg g2];simp only[bw,Int.cast_ofNat_Int,go_sem,oD.s,oD.m,oD.k,oD.c,oU.s,oU.m,oU.k,oU.c,ayz,ayN,ayE,h2,h3,h4,h10,h12,h40,h41,k10,k12,hA,e1,e0,ei,hd,hu,er,eq,c1,c2,f1,f2,e5];exact ih' r1 hi _ _ okd ohi rfl rfl rfl rfl rfl rfl rfl rfl rfl
    ·have f1:(eW r1 lo<0)=False:=ff g1;by_cases g2:0<eW q1 hi
     ·have f2:(0<eW q1 hi)=True:=tt g2;rw[if_neg g1,if_pos g2];simp only[bw,Int.cast_ofNat_Int,go_sem,oD.s,oD.m,oD.k,oD.c,oU.s,oU.m,oU.k,oU.c,ayz,ayN,ayE,h2,h3,h4,h10,h12,h40,h41,k10,k12,hA,e1,e0,ei,hd,hu,er,eq,c1,c2,f1,f2,e5];exact ih' lo q1 _ _ olo oku rfl rfl rfl rfl rfl rfl rfl rfl rfl
     ·have f2:(0<eW q1 hi)=False:=ff g2;rw[if_neg g1,if_neg g2];simp only[bw,Int.cast_ofNat_Int,go_sem,oD.s,oD.m,oD.k,oD.c,oU.s,oU.m,oU.k,oU.c,ayz,ayN,ayE,h2,h3,h4,h10,h12,h40,h41,k10,k12,hA,e1,e0,ei,hd,hu,er,eq,c1,c2,f1,f2,e5];exact ih' lo hi _ _ olo ohi rfl rfl rfl rfl rfl rfl rfl rfl rfl
   ·have eq:(q2=0)=False:=ff hq;rw[if_neg (show¬(r2=0/\q2=0)from fun h=>hq h.2)];refine⟨?hh1,?_,?_⟩;rotate_left
    ·simp only[bw,Int.cast_ofNat_Int,go_sem,oD.s,oD.m,oD.k,oD.c,oU.s,oU.m,oU.k,oU.c,ayz,ayN,ayE,h2,h3,h4,h10,h12,h40,h41,k10,k12,hA,e1,ei,hd,hu,er,eq,hw];rfl
    ·rfl
  ·have er:(r2=0)=False:=ff hr;rw[if_neg (show¬(r2=0/\q2=0)from fun h=>hr h.1)];refine⟨?hh2,?_,?_⟩;rotate_left
   ·simp only[bw,Int.cast_ofNat_Int,go_sem,oD.s,oD.m,oD.k,oD.c,oU.s,oU.m,oU.k,oU.c,ayz,ayN,ayE,h2,h3,h4,h10,h12,h40,h41,k10,k12,hA,e1,ei,hd,hu,er,hw];rfl
   ·rfl
theorem acJ{p:Int}{A:AV}{pr:Nat->Rd×Rd}{fD fU:FuncId}{dn up:Rd->Rd->Rd×Int}(oD:Op2 fD dn p)(oU:Op2 fU up p)(hA:gD [10,12] A=A)(hidx:∀i:Nat,i<4->KQ 4 6 true A (I i)=some (.agg [B (pr i).1.neg,lm (pr i).1.m,I (pr i).1.e,B (pr i).2.neg,lm (pr i).2.m,I (pr i).2.e]))
  (hok:∀i,Ok0 (pr i).1/\Ok0 (pr i).2) (s:ak) (h:ac) (h2:s 2=I p) (h3:s 3=.fn fD [] []) (h4:s 4=.fn fU [] []) (h10:s 10=.ref 10 none 0 0 0) (h12:s 12=.ref 12 none 0 0 0) (h40:s 40=A) (h41:s 41=I 0)
  (k10:h 10=.bx [.v (.bool false),.emp,.v (.int .i64 0),.v (.bool false),.emp,.v (.int .i64 0),.v (.bool false)]) (k12:h 12=.bx [.v (.bool false),.emp,.v (.int .i64 0),.v (.bool false),.emp,.v (.int .i64 0),.v (.bool false)]):
  Uo (ai 0 [10,12] (ax (aj R (az false) bw) [2,3,4,10,12,40,41] [10,12] s h)) (qA dn up pr):=by
 have ei:=hidx 0 δ;simp only[ayO]at ei;have hd:=oD.ct (hok 0).1 (hok 0).2;have hu:=oU.ct (hok 0).1 (hok 0).2;have hw:=jD;have okd:=oD.ok (a:=(pr 0).1) (b:=(pr 0).2);have oku:=oU.ok (a:=(pr 0).1) (b:=(pr 0).2);have ih':=aeB (p:=p) (A:=A) (pr:=pr) oD oU hA hidx hok 3 1 rfl δ;unfold qA;generalize dn (pr 0).1 (pr 0).2=r at hd okd⊢;generalize up (pr 0).1 (pr 0).2=q at hu oku⊢;obtain⟨r1,r2⟩:=r;obtain⟨q1,q2⟩:=q;simp only[rV,ae,ah,am,ap,dm,aH]at hd hu hw;rw[ag];have e6:IntKind.i64.wrap (0+1)=1:=rfl;by_cases hr:r2=0
 ·have er:(r2=0)=True:=tt hr;by_cases hq:q2=0
  ·have eq:(q2=0)=True:=tt hq;simp only[bw,Int.cast_ofNat_Int,go_sem,oD.s,oD.m,oD.k,oD.c,oU.s,oU.m,oU.k,oU.c,ayz,ayN,ayE,h2,h3,h4,h10,h12,h40,h41,k10,k12,hA,ei,hd,hu,er,eq,e6];exact ih' r1 q1 _ _ okd oku rfl rfl rfl rfl rfl rfl rfl rfl rfl
  ·have eq:(q2=0)=False:=ff hq;rw[if_neg (show¬(r2=0/\q2=0)from fun h=>hq h.2)];refine⟨?hh3,?_,?_⟩;rotate_left
   ·simp only[bw,Int.cast_ofNat_Int,go_sem,oD.s,oD.m,oD.k,oD.c,oU.s,oU.m,oU.k,oU.c,ayz,ayN,ayE,h2,h3,h4,h10,h12,h40,h41,k10,k12,hA,ei,hd,hu,er,eq,hw];rfl
   ·rfl
 ·have er:(r2=0)=False:=ff hr;rw[if_neg (show¬(r2=0/\q2=0)from fun h=>hr h.1)];refine⟨?hh4,?_,?_⟩;rotate_left
  ·simp only[bw,Int.cast_ofNat_Int,go_sem,oD.s,oD.m,oD.k,oD.c,oU.s,oU.m,oU.k,oU.c,ayz,ayN,ayE,h2,h3,h4,h10,h12,h40,h41,k10,k12,hA,ei,hd,hu,er,hw];rfl
  ·rfl
def gw(x y:Ri)(i:Nat):Rd×Rd:=match i with
 |0=>(x.lo,y.lo)
 |1=>(x.lo,y.hi)
 |2=>(x.hi,y.lo)
 |_=>(x.hi,y.hi)
def iu(x y:Ri)(p:Int):Ri:=if(kI x&&kI y&&bG p)=true then I0 (qA (fun a b=>fJ a b p false) (fun a b=>fJ a b p true) (gw x y))else dm
noncomputable def C0:Cmd:=.seq (.seq (.ops [2,3,4,10,12,40,41] [⟨(some 40),none,.load 24 true (.t 11)⟩,co 41 (.mv (.c (.v (.int .i64 0))))]) (.block 0 [10,12] (.loop [2,3,4,10,12,40,41] [10,12] bw))) (.seq (.ops [10] [⟨(some 95),none,.load 7 true (.t 12)⟩,⟨none,none,.store 7 (.t 10) (.t 95)⟩]) (.ret))
theorem Gj:Fg=.seq (.ops [2,3,4,5,6,10] [⟨(some 5),none,.box 7 (.t 0)⟩,⟨(some 6),none,.box 7 (.t 1)⟩,⟨(some 10),none,.alloc [(.v (.bool false)),.emp,(.v (.int .i64 0)),(.v (.bool false)),.emp,(.v (.int .i64 0)),(.v (.bool false))]⟩]) (.seq (.ops [2,3,4,10,11] [co 19 (.fadr 0 (.t 5)),⟨(some 20),none,.load 3 true (.t 19)⟩,co 21 (.fadr 0 (.t 6)),⟨(some 22),none,.load 3 true (.t 21)⟩,co 23 (.build [(.v (.bool false)),.emp,(.v (.int .i64 0)),(.v (.bool false)),.emp,(.v (.int .i64 0))] [(0,3,(.t 20)),(3,3,(.t 22))]),co 24 (.fadr 0 (.t 5)),⟨(some 25),none,.load 3 true (.t 24)⟩,co 26 (.fadr 3 (.t 6)),⟨(some 27),none,.load 3 true (.t 26)⟩,co 28 (.build [(.v (.bool false)),.emp,(.v (.int .i64 0)),(.v (.bool false)),.emp,(.v (.int .i64 0))] [(0,3,(.t 25)),(3,3,(.t 27))]),co 29 (.fadr 3 (.t 5)),⟨(some 30),none,.load 3 true (.t 29)⟩,co 31 (.fadr 0 (.t 6)),⟨(some 32),none,.load 3 true (.t 31)⟩,co 33 (.build [(.v (.bool false)),.emp,(.v (.int .i64 0)),(.v (.bool false)),.emp,(.v (.int .i64 0))] [(0,3,(.t 30)),(3,3,(.t 32))]),co 34 (.fadr 3 (.t 5)),⟨(some 35),none,.load 3 true (.t 34)⟩,co 36 (.fadr 3 (.t 6)),⟨(some 37),none,.load 3 true (.t 36)⟩,co 38 (.build [(.v (.bool false)),.emp,(.v (.int .i64 0)),(.v (.bool false)),.emp,(.v (.int .i64 0))] [(0,3,(.t 35)),(3,3,(.t 37))]),co 39 (.build [(.v (.bool false)),.emp,(.v (.int .i64 0)),(.v (.bool false)),.emp,(.v (.int .i64 0)),(.v (.bool false)),.emp,(.v (.int .i64 0)),(.v (.bool false)),.emp,(.v (.int .i64 0)),(.v (.bool false)),.emp,(.v (.int .i64 0)),(.v (.bool false)),.emp,(.v (.int .i64 0)),(.v (.bool false)),.emp,(.v (.int .i64 0)),(.v (.bool false)),.emp,(.v (.int .i64 0))] [(0,6,(.t 23)),(6,6,(.t 28)),(12,6,(.t 33)),(18,6,(.t 38))]),⟨(some 11),none,.alloc [(.v (.bool false)),.emp,(.v (.int .i64 0)),(.v (.bool false)),.emp,(.v (.int .i64 0)),(.v (.bool false)),.emp,(.v (.int .i64 0)),(.v (.bool false)),.emp,(.v (.int .i64 0)),(.v (.bool false)),.emp,(.v (.int .i64 0)),(.v (.bool false)),.emp,(.v (.int .i64 0)),(.v (.bool false)),.emp,(.v (.int .i64 0)),(.v (.bool false)),.emp,(.v (.int .i64 0))]⟩,⟨none,none,.store 24 (.t 11) (.t 39)⟩]) (.seq (.ops [2,3,4,10,11,12] [⟨(some 12),none,.alloc [(.v (.bool false)),.emp,(.v (.int .i64 0)),(.v (.bool false)),.emp,(.v (.int .i64 0)),(.v (.bool false))]⟩]) C0)):=rfl
theorem amy{x y:Ri}(ox:OkI x)(oy:OkI y)(i:Nat):Ok0 (gw x y i).1/\Ok0 (gw x y i).2:=by
 unfold gw;split
 ·exact⟨ox.1,oy.1⟩
 ·exact⟨ox.1,oy.2⟩
 ·exact⟨ox.2,oy.1⟩
 ·exact⟨ox.2,oy.2⟩
def acK(x y:Ri):List AV:=[B x.lo.neg,lm x.lo.m,I x.lo.e,B y.lo.neg,lm y.lo.m,I y.lo.e,B x.lo.neg,lm x.lo.m,I x.lo.e,B y.hi.neg,lm y.hi.m,I y.hi.e,B x.hi.neg,lm x.hi.m,I x.hi.e,B y.lo.neg,lm y.lo.m,I y.lo.e,B x.hi.neg,lm x.hi.m,I x.hi.e,B y.hi.neg,lm y.hi.m,I y.hi.e]
theorem aeC{x y:Ri}(ox:OkI x)(oy:OkI y){p:Int}{fD fU:FuncId}{dn up:Rd->Rd->Rd×Int}(oD:Op2 fD dn p)(oU:Op2 fU up p)(s:ak)(h:ac)(h2:s 2=I p)(h3:s 3=.fn fD [] [])(h4:s 4=.fn fU [] [])(h10:s 10=.ref 10 none 0 0 0)(h11:s 11=.ref 11 none 0 0 0)(h12:s 12=.ref 12 none 0 0 0)
  (k10:h 10=.bx [.v (.bool false),.emp,.v (.int .i64 0),.v (.bool false),.emp,.v (.int .i64 0),.v (.bool false)]) (k11:h 11=.bx (acK x y)) (k12:h 12=.bx [.v (.bool false),.emp,.v (.int .i64 0),.v (.bool false),.emp,.v (.int .i64 0),.v (.bool false)]):
  ip false [[.o 0 [],.o 2 [],.o 0 [],.o 0 [],.o 2 [],.o 0 [],.o 0 []]] [.cell 10 7 true] 0 (aj R (az false) C0 s h)=some (am (I0 (qA dn up (gw x y))),[]):=by
 obtain⟨A,hAe⟩:∃A:AV,A=.agg (acK x y):=⟨_,rfl⟩;have hA:gD [10,12] A=A:=by
  rw[hAe];rfl
 have hf:=acJ (p:=p) (A:=A) (pr:=gw x y) oD oU hA (fun i hi=>by
  rw[hAe]
  match i,hi with
  |0,_=>rfl
  |1,_=>rfl
  |2,_=>rfl
  |3,_=>rfl) (amy ox oy)
 have hl:iZ h 24 true (.ref 11 none 0 0 0)=some (A,h,[]):=by
  rw[hAe];simp only[acK]at k11⊢;simp only[go_sem,k11]
 have hP:∀ (s:ak) (h:ac),s 2=I p->s 3=.fn fD [] []->s 4=.fn fU [] []->s 10=.ref 10 none 0 0 0->s 12=.ref 12 none 0 0 0->s 40=A->s 41=I 0->h 10=.bx [.v (.bool false),.emp,.v (.int .i64 0),.v (.bool false),.emp,.v (.int .i64 0),.v (.bool false)]->h 12=.bx [.v (.bool false),.emp,.v (.int .i64 0),.v (.bool false),.emp,.v (.int .i64 0),.v (.bool false)]->
   ip false [[.o 0 [],.o 2 [],.o 0 [],.o 0 [],.o 2 [],.o 0 [],.o 0 []]] [.cell 10 7 true] 0 (cu (ai 0 [10,12] (ax (aj R (az false) bw) [2,3,4,10,12,40,41] [10,12] s h)) (aj R (az false) (.seq (.ops [10] [⟨(some 95),none,.load 7 true (.t 12)⟩,⟨none,none,.store 7 (.t 10) (.t 95)⟩]) (.ret))))=some (am (I0 (qA dn up (gw x y))),[]):=fun s h a2 a3 a4 a10 a12 a40 a41 b10 b12=>by
  have hg:=hf s h a2 a3 a4 a10 a12 a40 a41 b10 b12;cases ho:qA dn up (gw x y)with
  |none=>
   rw[ho]at hg;obtain⟨hh,g1,g2⟩:=hg;rw[g1];simp only[I0,dm,am,ap,aH,g2,go_sem]
  |some q=>
   rw[ho]at hg;obtain⟨hh,g1,g2,g3⟩:=hg;rw[g1];simp only[I0,am,ap,g2,g3,go_sem]
 generalize hLL:ax (aj R (az false) bw) [2,3,4,10,12,40,41] [10,12]=L at hP;have hX:∀s h,aj R (az false) (.loop [2,3,4,10,12,40,41] [10,12] bw) s h=L s h:=fun s h=>by rw[←hLL];rfl
 show ip _ _ _ _ (cu (cu (aj R (az false) (.ops [2,3,4,10,12,40,41] [⟨(some 40),none,.load 24 true (.t 11)⟩,co 41 (.mv (.c (.v (.int .i64 0))))]) s h) fun s h=>ai 0 [10,12] (aj R (az false) (.loop [2,3,4,10,12,40,41] [10,12] bw) s h)) _)=_;simp only[hX];simp only[go_sem,h2,h3,h4,h10,h11,h12,hl];exact hP _ _ rfl rfl rfl rfl rfl rfl rfl k10 k12
theorem ZP{x y:Ri}(ox:OkI x)(oy:OkI y){p:Int}{fD fU:FuncId}{dn up:Rd->Rd->Rd×Int}(oD:Op2 fD dn p)(oU:Op2 fU up p):R fbn [am x,am y,I p,.fn fD [] [],.fn fU [] []] []=some (am (I0 (qA dn up (gw x y))),[]):=by
 refine au OW rfl ?_;simp only[xW,Gj,am,ap,go_sem];exact aeC ox oy oD oU _ _ rfl rfl rfl rfl rfl rfl rfl rfl rfl
theorem Du{x y:Ri}(ox:OkI x)(oy:OkI y){p:Int}:R fbd [am x,am y,I p] []=some (am (iu x y p),[]):=by
 refine au Qp rfl ?_;have hk:=FC ox oy;have hp:=u9 (p:=p);have hw:=jD;have hf:=ZP ox oy (p:=p) (dn:=fun a b=>fJ a b p false) (up:=fun a b=>fJ a b p true) ⟨fun h1 h2=>MH h1 h2,Dt,pF.1.1,pF.1.2.1,pF.1.2.2.2,pF.1.2.2.1⟩ ⟨fun h1 h2=>Sz h1 h2,Dt,s7.1.1,s7.1.2.1,s7.1.2.2.2,s7.1.2.2.1⟩;unfold iu;simp only[am,ap]at hw hf;cases h1:(kI x&&kI y)with
 |false=>
  rw[h1]at hk;simp only[pp,vM,am,ap,go_sem,hk,hw]
 |true=>
  rw[h1]at hk;cases h2:bG p with
  |false=>
   rw[h2]at hp;simp only[pp,vM,am,ap,go_sem,hk,hp,hw]
  |true=>
   rw[h2]at hp;simp only[pp,vM,am,ap,go_sem,hk,hp,hf]
def mL(d:Rd)(p:Int)(up:Bool):Nat->Rd×Int->Rd×Int
 |0,r=>r
 |k+1,r=>if r.2=0 then mL d p up k (fJ r.1 d p up)else r
def pw(d:Rd)(n:Nat)(p:Int)(up:Bool):Rd×Int:=mL d p up (n-1) (bZ d p up)
theorem Dv{d:Rd}{p:Int}{up:Bool}:Ok0 (bZ d p up).1:=by
 unfold bZ;split
 ·exact td.2
 ·exact aU.2
theorem amz{d:Rd}{p:Int}{up:Bool}:∀ (k:Nat) (r:Rd×Int),Ok0 r.1->Ok0 (mL d p up k r).1:=by
 intro k;induction k with
 |zero=>exact fun r h=>h
 |succ k ih=>
  grind[mL,Dt]
theorem ai2{d:Rd}{n:Nat}{p:Int}{up:Bool}:Ok0 (pw d n p up).1:=amz _ _ Dv
noncomputable def vg:Cmd:=.seq (.seq (.ops [1,2,4,5,10,12,13,14] [co 14 (.mv (.c (.v (.int .i64 1))))]) (.block 0 [10,12,13] (.loop [1,2,4,5,10,12,13,14] [5,10,12] aW))) (.seq (.ops [10,11] [⟨(some 39),none,.load 3 true (.t 12)⟩,cm 40 13,⟨none,none,.store 3 (.t 10) (.t 39)⟩,cm 11 40]) (.ret))
theorem wC:Ed=.seq (.ops [1,2,3,4,5,10] [⟨(some 5),none,.box 3 (.t 0)⟩,⟨(some 10),none,.alloc [(.v (.bool false)),.emp,(.v (.int .i64 0))]⟩,co 11 (.mv (.c (.v (.int .i64 0))))]) (.seq (.ops [1,2,4,5,10,12,13] [cm 16 3,⟨(some 17),none,.load 3 true (.t 5)⟩,cm 18 2,⟨(some 19),none,.call (.t 16) [(.t 17),(.t 18)]⟩,cm 15 19,co 20 (.ext 0 (.t 15)),co 21 (.ext 1 (.t 15)),⟨(some 12),none,.alloc [(.v (.bool false)),.emp,(.v (.int .i64 0))]⟩,⟨none,none,.store 3 (.t 12) (.t 20)⟩,cm 13 21]) vg):=rfl
theorem aeD{d:Rd}(ok:Ok0 d){p:Int}{n:Nat}(hn:n<=100000):∀ (k i:Nat),i+k=n->∀ (r:Rd×Int),Ok0 r.1->∀ (s:ak) (h:ac),s 1=I n->s 2=I p->s 4=.fn fdo [] []->s 5=.ref 5 none 0 0 0->s 10=.ref 10 none 0 0 0->s 12=.ref 12 none 0 0 0->s 13=I r.2->s 14=I i->
  h 5=.bx (ah d)->h 10=.bx [.v (.bool false),.emp,.v (.int .i64 0)]->h 12=.bx (ah r.1)->
  ∃hh,ai 0 [10,12,13] (ax (aj R (az false) aW) [1,2,4,5,10,12,13,14] [5,10,12] s h)=some (.normal,⟨upd (upd (upd (fun _=>.any) 13 (I (mL d p true k r).2)) 12 (.ref 12 none 0 0 0)) 10 (.ref 10 none 0 0 0),hh⟩)/\hh 10=.bx [.v (.bool false),.emp,.v (.int .i64 0)]/\hh 12=.bx (ah (mL d p true k r).1):=by
 intro k;induction k with
 |zero=>
  intro i hi r hr s h h1 h2 h4 h5 h10 h12 h13 h14 k5 k10 k12;have e1:((i:Int)<n)=False:=ff;rw[ag];refine⟨?hh0,?_,?_,?_⟩;rotate_left
  ·simp only[aW,mL,go_sem,h1,h2,h4,h5,h10,h12,h13,h14,k5,k10,k12,e1];rfl
  ·rfl
  ·rfl
 |succ k ih=>
  intro i hi r hr s h h1 h2 h4 h5 h10 h12 h13 h14 k5 k10 k12;have e1:((i:Int)<n)=True:=tt;have e5:IntKind.i64.wrap ((i:Int)+1)=((i+1:Nat):Int):=wi;obtain⟨r1,r2⟩:=r;have hm:=Sz hr ok (p:=p);have okm:=Dt (a:=r1) (b:=d) (p:=p) (up:=true);have ih':=ih (i+1) ω;unfold mL;generalize fJ r1 d p true=q at hm okm⊢;obtain⟨q1,q2⟩:=q;simp only[rV,ae,ah]at hm k5 k12;rw[ag];by_cases hr:r2=0
  ·have er:(r2=0)=True:=tt hr;simp only[aW,ah,go_sem,h1,h2,h4,h5,h10,h12,h13,h14,k5,k10,k12,e1,er,hm,e5];exact ih' (q1,q2) okm _ _ rfl rfl rfl rfl rfl rfl rfl rfl rfl rfl rfl
  ·have er:(r2=0)=False:=ff hr;rw[if_neg hr];refine⟨?hh1,?_,?_,?_⟩;rotate_left
   ·simp only[aW,go_sem,h1,h2,h4,h5,h10,h12,h13,h14,k5,k10,k12,e1,er];rfl
   ·rfl
   ·rfl
theorem aeE{d:Rd}(ok:Ok0 d){p:Int}{n:Nat}(hn:n<=100000){r:Rd×Int}(hr:Ok0 r.1)(s:ak)(h:ac)(h1:s 1=I n)(h2:s 2=I p)(h4:s 4=.fn fdo [] [])(h5:s 5=.ref 5 none 0 0 0)(h10:s 10=.ref 10 none 0 0 0)(h12:s 12=.ref 12 none 0 0 0)(h13:s 13=I r.2)
  (k5:h 5=.bx (ah d)) (k10:h 10=.bx [.v (.bool false),.emp,.v (.int .i64 0)]) (k12:h 12=.bx (ah r.1)):
  ip false [[.o 0 [],.o 2 [],.o 0 []],[]] [.cell 10 3 true,.t 11] 0 (aj R (az false) vg s h)=some (rV (mL d p true (n-1) r),[]):=by
 have hl:∀ (s:ak) (h:ac),s 1=I n->s 2=I p->s 4=.fn fdo [] []->s 5=.ref 5 none 0 0 0->s 10=.ref 10 none 0 0 0->s 12=.ref 12 none 0 0 0->s 13=I r.2->s 14=I 1->
  h 5=.bx (ah d)->h 10=.bx [.v (.bool false),.emp,.v (.int .i64 0)]->h 12=.bx (ah r.1)->
  ∃hh,ai 0 [10,12,13] (ax (aj R (az false) aW) [1,2,4,5,10,12,13,14] [5,10,12] s h)=some (.normal,⟨upd (upd (upd (fun _=>.any) 13 (I (mL d p true (n-1) r).2)) 12 (.ref 12 none 0 0 0)) 10 (.ref 10 none 0 0 0),hh⟩)/\hh 10=.bx [.v (.bool false),.emp,.v (.int .i64 0)]/\hh 12=.bx (ah (mL d p true (n-1) r).1):=by
  by_cases h0:n=0
  ·intro s h a1 a2 a4 a5 a10 a12 a13 a14 b5 b10 b12;have e1:((1:Int)< (n:Nat))=False:=ff;subst h0;rw[ag];refine⟨?hh0,?_,?_,?_⟩;rotate_left
   ·simp only[aW,mL,go_sem,ayG,a1,a2,a4,a5,a10,a12,a13,a14,b5,b10,b12,e1];rfl
   ·rfl
   ·rfl
  ·have:=aeD ok (p:=p) hn (n-1) 1 ω r hr
   simp_all
 generalize mL d p true (n-1) r=q at hl⊢;obtain⟨r1,r2⟩:=r;obtain⟨q1,q2⟩:=q;have hP:∀ (s:ak) (h:ac),s 1=I n->s 2=I p->s 4=.fn fdo [] []->s 5=.ref 5 none 0 0 0->s 10=.ref 10 none 0 0 0->s 12=.ref 12 none 0 0 0->s 13=I r2->s 14=I 1->
  h 5=.bx (ah d)->h 10=.bx [.v (.bool false),.emp,.v (.int .i64 0)]->h 12=.bx (ah r1)->
  ip false [[.o 0 [],.o 2 [],.o 0 []],[]] [.cell 10 3 true,.t 11] 0 (cu (ai 0 [10,12,13] (ax (aj R (az false) aW) [1,2,4,5,10,12,13,14] [5,10,12] s h)) (aj R (az false) (.seq (.ops [10,11] [⟨(some 39),none,.load 3 true (.t 12)⟩,cm 40 13,⟨none,none,.store 3 (.t 10) (.t 39)⟩,cm 11 40]) (.ret))))=some (rV (q1,q2),[]):=fun s h a1 a2 a4 a5 a10 a12 a13 a14 b5 b10 b12=>by
  obtain⟨hh,g1,g2,g3⟩:=hl s h a1 a2 a4 a5 a10 a12 a13 a14 b5 b10 b12;rw[g1];simp only[rV,ae,ah,g2,g3,go_sem]
 generalize hLL:ax (aj R (az false) aW) [1,2,4,5,10,12,13,14] [5,10,12]=L at hP;have hX:∀s h,aj R (az false) (.loop [1,2,4,5,10,12,13,14] [5,10,12] aW) s h=L s h:=fun s h=>by rw[←hLL];rfl
 show ip _ _ _ _ (cu (cu (aj R (az false) (.ops [1,2,4,5,10,12,13,14] [co 14 (.mv (.c (.v (.int .i64 1))))]) s h) fun s h=>ai 0 [10,12,13] (aj R (az false) (.loop [1,2,4,5,10,12,13,14] [5,10,12] aW) s h)) _)=_;simp only[hX];simp only[go_sem,h1,h2,h4,h5,h10,h12,h13];exact hP _ _ rfl rfl rfl rfl rfl rfl rfl rfl k5 k10 k12
theorem ajU{d:Rd}(ok:Ok0 d){p:Int}{n:Nat}(hn:n<=100000):R fbt [ae d,I n,I p,.fn fdq [] [],.fn fdo [] []] []=some (rV (pw d n p true),[]):=by
 refine au Eo rfl ?_;have hr:=ZN ok (p:=p);have okr:=Dv (d:=d) (p:=p) (up:=true);have ht:=aeE ok (p:=p) hn okr;simp only[rV,ae,ah]at hr;simp only[qy,wC,ae,ah,go_sem,hr];exact ht _ _ rfl rfl rfl rfl rfl rfl rfl rfl rfl rfl
theorem aeF{d:Rd}(ok:Ok0 d){p:Int}{n:Nat}(hn:n<=100000):∀ (k i:Nat),i+k=n->∀ (r:Rd×Int),Ok0 r.1->∀ (s:ak) (h:ac),s 1=I n->s 2=I p->s 4=.fn fdn [] []->s 5=.ref 5 none 0 0 0->s 10=.ref 10 none 0 0 0->s 12=.ref 12 none 0 0 0->s 13=I r.2->s 14=I i->
  h 5=.bx (ah d)->h 10=.bx [.v (.bool false),.emp,.v (.int .i64 0)]->h 12=.bx (ah r.1)->
  ∃hh,ai 0 [10,12,13] (ax (aj R (az false) aW) [1,2,4,5,10,12,13,14] [5,10,12] s h)=some (.normal,⟨upd (upd (upd (fun _=>.any) 13 (I (mL d p false k r).2)) 12 (.ref 12 none 0 0 0)) 10 (.ref 10 none 0 0 0),hh⟩)/\hh 10=.bx [.v (.bool false),.emp,.v (.int .i64 0)]/\hh 12=.bx (ah (mL d p false k r).1):=by
 intro k;induction k with
 |zero=>
  intro i hi r hr s h h1 h2 h4 h5 h10 h12 h13 h14 k5 k10 k12;have e1:((i:Int)<n)=False:=ff;rw[ag];refine⟨?hh0,?_,?_,?_⟩;rotate_left
  ·simp only[aW,mL,go_sem,h1,h2,h4,h5,h10,h12,h13,h14,k5,k10,k12,e1];rfl
  ·rfl
  ·rfl
 |succ k ih=>
  intro i hi r hr s h h1 h2 h4 h5 h10 h12 h13 h14 k5 k10 k12;have e1:((i:Int)<n)=True:=tt;have e5:IntKind.i64.wrap ((i:Int)+1)=((i+1:Nat):Int):=wi;obtain⟨r1,r2⟩:=r;have hm:=MH hr ok (p:=p);have okm:=Dt (a:=r1) (b:=d) (p:=p) (up:=false);have ih':=ih (i+1) ω;unfold mL;generalize fJ r1 d p false=q at hm okm⊢;obtain⟨q1,q2⟩:=q;simp only[rV,ae,ah]at hm k5 k12;rw[ag];by_cases hr:r2=0
  ·have er:(r2=0)=True:=tt hr;simp only[aW,ah,go_sem,h1,h2,h4,h5,h10,h12,h13,h14,k5,k10,k12,e1,er,hm,e5];exact ih' (q1,q2) okm _ _ rfl rfl rfl rfl rfl rfl rfl rfl rfl rfl rfl
  ·have er:(r2=0)=False:=ff hr;rw[if_neg hr];refine⟨?hh1,?_,?_,?_⟩;rotate_left
   ·simp only[aW,go_sem,h1,h2,h4,h5,h10,h12,h13,h14,k5,k10,k12,e1,er];rfl
   ·rfl
   ·rfl
theorem aeG{d:Rd}(ok:Ok0 d){p:Int}{n:Nat}(hn:n<=100000){r:Rd×Int}(hr:Ok0 r.1)(s:ak)(h:ac)(h1:s 1=I n)(h2:s 2=I p)(h4:s 4=.fn fdn [] [])(h5:s 5=.ref 5 none 0 0 0)(h10:s 10=.ref 10 none 0 0 0)(h12:s 12=.ref 12 none 0 0 0)(h13:s 13=I r.2)
  (k5:h 5=.bx (ah d)) (k10:h 10=.bx [.v (.bool false),.emp,.v (.int .i64 0)]) (k12:h 12=.bx (ah r.1)):
  ip false [[.o 0 [],.o 2 [],.o 0 []],[]] [.cell 10 3 true,.t 11] 0 (aj R (az false) vg s h)=some (rV (mL d p false (n-1) r),[]):=by
 have hl:∀ (s:ak) (h:ac),s 1=I n->s 2=I p->s 4=.fn fdn [] []->s 5=.ref 5 none 0 0 0->s 10=.ref 10 none 0 0 0->s 12=.ref 12 none 0 0 0->s 13=I r.2->s 14=I 1->
  h 5=.bx (ah d)->h 10=.bx [.v (.bool false),.emp,.v (.int .i64 0)]->h 12=.bx (ah r.1)->
  ∃hh,ai 0 [10,12,13] (ax (aj R (az false) aW) [1,2,4,5,10,12,13,14] [5,10,12] s h)=some (.normal,⟨upd (upd (upd (fun _=>.any) 13 (I (mL d p false (n-1) r).2)) 12 (.ref 12 none 0 0 0)) 10 (.ref 10 none 0 0 0),hh⟩)/\hh 10=.bx [.v (.bool false),.emp,.v (.int .i64 0)]/\hh 12=.bx (ah (mL d p false (n-1) r).1):=by
  by_cases h0:n=0
  ·intro s h a1 a2 a4 a5 a10 a12 a13 a14 b5 b10 b12;have e1:((1:Int)< (n:Nat))=False:=ff;subst h0;rw[ag];refine⟨?hh0,?_,?_,?_⟩;rotate_left
   ·simp only[aW,mL,go_sem,ayG,a1,a2,a4,a5,a10,a12,a13,a14,b5,b10,b12,e1];rfl
   ·rfl
   ·rfl
  ·have:=aeF ok (p:=p) hn (n-1) 1 ω r hr
   simp_all
 generalize mL d p false (n-1) r=q at hl⊢;obtain⟨r1,r2⟩:=r;obtain⟨q1,q2⟩:=q;have hP:∀ (s:ak) (h:ac),s 1=I n->s 2=I p->s 4=.fn fdn [] []->s 5=.ref 5 none 0 0 0->s 10=.ref 10 none 0 0 0->s 12=.ref 12 none 0 0 0->s 13=I r2->s 14=I 1->
  h 5=.bx (ah d)->h 10=.bx [.v (.bool false),.emp,.v (.int .i64 0)]->h 12=.bx (ah r1)->
  ip false [[.o 0 [],.o 2 [],.o 0 []],[]] [.cell 10 3 true,.t 11] 0 (cu (ai 0 [10,12,13] (ax (aj R (az false) aW) [1,2,4,5,10,12,13,14] [5,10,12] s h)) (aj R (az false) (.seq (.ops [10,11] [⟨(some 39),none,.load 3 true (.t 12)⟩,cm 40 13,⟨none,none,.store 3 (.t 10) (.t 39)⟩,cm 11 40]) (.ret))))=some (rV (q1,q2),[]):=fun s h a1 a2 a4 a5 a10 a12 a13 a14 b5 b10 b12=>by
  obtain⟨hh,g1,g2,g3⟩:=hl s h a1 a2 a4 a5 a10 a12 a13 a14 b5 b10 b12;rw[g1];simp only[rV,ae,ah,g2,g3,go_sem]
 generalize hLL:ax (aj R (az false) aW) [1,2,4,5,10,12,13,14] [5,10,12]=L at hP;have hX:∀s h,aj R (az false) (.loop [1,2,4,5,10,12,13,14] [5,10,12] aW) s h=L s h:=fun s h=>by rw[←hLL];rfl
 show ip _ _ _ _ (cu (cu (aj R (az false) (.ops [1,2,4,5,10,12,13,14] [co 14 (.mv (.c (.v (.int .i64 1))))]) s h) fun s h=>ai 0 [10,12,13] (aj R (az false) (.loop [1,2,4,5,10,12,13,14] [5,10,12] aW) s h)) _)=_;simp only[hX];simp only[go_sem,h1,h2,h4,h5,h10,h12,h13];exact hP _ _ rfl rfl rfl rfl rfl rfl rfl rfl k5 k10 k12
theorem ajV{d:Rd}(ok:Ok0 d){p:Int}{n:Nat}(hn:n<=100000):R fbt [ae d,I n,I p,.fn fdl [] [],.fn fdn [] []] []=some (rV (pw d n p false),[]):=by
 refine au Eo rfl ?_;have hr:=SA ok (p:=p);have okr:=Dv (d:=d) (p:=p) (up:=false);have ht:=aeG ok (p:=p) hn okr;simp only[rV,ae,ah]at hr;simp only[qy,wC,ae,ah,go_sem,hr];exact ht _ _ rfl rfl rfl rfl rfl rfl rfl rfl rfl rfl
def sS(d:Rd):Int:=if vd d=false\/d.m.length=0 then 0 else if d.neg=true then-1 else 1
theorem ws{d:Rd}(ok:Ok0 d):Ok0 (gW d):=by
 unfold gW;split
 ·exact aU.2
 ·exact⟨ok.1,ok.2⟩
theorem amA{d:Rd}(h:sS d<0):¬sS (gW d)<0:=by
 unfold sS at h;split at h
 ·omega
 ·split at h
  ·unfold sS gW;grind
  omega
def rj(d:Rd)(n:Nat)(p:Int)(up:Bool):Rd×Int:=if sS d<0 then(gW (pw (gW d) n p (!up)).1,(pw (gW d) n p (!up)).2)else pw d n p up
theorem ZQ{d:Rd}(ok:Ok0 d)(hs:¬sS d<0){p:Int}{n:Nat}(hn:n<=100000){up:Bool}:R fbm [ae d,I n,I p,B up] []=some (rV (pw d n p up),[]):=by
 refine au GO rfl ?_;have h1:=QN ok;rw[show(if vd d=false\/d.m.length=0 then(0:Int)else if d.neg=true then-1 else 1)=sS d from rfl]at h1;have e1:(sS d<0)=False:=ff hs;cases up with
 |true=>
  have h2:=ajU ok (p:=p) hn;simp only[rV,ae,ah]at h1 h2;simp only[pB,we,rV,ae,ah,go_sem,h1,e1,h2]
 |false=>
  have h2:=ajV ok (p:=p) hn;simp only[rV,ae,ah]at h1 h2;simp only[pB,we,rV,ae,ah,go_sem,h1,e1,h2]
theorem Pg{d:Rd}(ok:Ok0 d){p:Int}{n:Nat}(hn:n<=100000){up:Bool}:R fbm [ae d,I n,I p,B up] []=some (rV (rj d n p up),[]):=by
 unfold rj;by_cases hs:sS d<0
 ·refine au GO rfl ?_;have h1:=QN ok;rw[show(if vd d=false\/d.m.length=0 then(0:Int)else if d.neg=true then-1 else 1)=sS d from rfl]at h1;have e1:(sS d<0)=True:=tt hs;have h2:=GW ok;rw[show(if vd d=false\/d.m.length=0 then aH else(⟨!d.neg,d.m,d.e⟩:Rd))=gW d from rfl]at h2;have h3:=ZQ (ws ok) (amA hs) (p:=p) hn (up:=!up);have okq:=ai2 (d:=gW d) (n:=n) (p:=p) (up:=!up);generalize gW d=nd at h2 h3 okq⊢;generalize pw nd n p (!up)=q at h3 okq⊢;obtain⟨q1,q2⟩:=q;have h4:=GW (d:=q1) okq;rw[show(if vd q1=false\/q1.m.length=0 then aH else(⟨!q1.neg,q1.m,q1.e⟩:Rd))=gW q1 from rfl]at h4;simp only[rV,ae,ah]at h1 h2 h3 h4;simp only[pB,we,rV,ae,ah,go_sem,h1,e1,h2,h3,h4]
 simp_all[if_neg,ZQ]
def one:Rd:=⟨false,[1],0⟩
theorem Kb:R faJ [I 1] []=some (ae one,[]):=by
 grind[Pe,I64,bk,one,iN,xu,av,re,ft]
theorem dN:vd one=true/\Ok0 one:=⟨by decide,⟨fun x hx=>by rw[List.mem_singleton.1 hx];decide,by decide⟩⟩
def EE(x:Ri)(n:Nat)(p:Int):Ri:=if(kI x&&bG p&&decide (n<=16))=true then(if n=0 then⟨one,one,false⟩else
 ui (rj (if n%2=0 then vf x else x).lo n p false) (rj (if n%2=0 then vf x else x).hi n p true))else dm
theorem WI{a b:Rd}(oa:Ok0 a)(ob:Ok0 b):Ok0 (kN a b):=by
 grind[kN]
theorem WJ{a b:Rd}(oa:Ok0 a)(ob:Ok0 b):Ok0 (kO a b):=by
 grind[kO]
theorem ZR{x:Ri}(ok:OkI x):OkI (vf x):=by
 unfold vf;split
 ·refine⟨?_,WJ (yI ok.lo) (yI ok.hi)⟩;unfold Bj;split
  ·exact aU.2
  ·exact WI (yI ok.lo) (yI ok.hi)
 ·exact⟨aU.2,aU.2⟩
theorem ZS{d:Rd}(ok:Ok0 d){n:Nat}{p:Int}{up:Bool}:Ok0 (rj d n p up).1:=by
 grind[rj,ws,ai2]
theorem Kc{x:Ri}(ok:OkI x){p:Int}{n:Nat}(hn:n<=100000):R fbg [am x,I n,I p] []=some (am (EE x n p),[]):=by
 refine au Nl rfl ?_;have hk:=ve ok;have hp:=u9 (p:=p);have hw:=jD;have n0:((n:Int)<0)=False:=ff;unfold EE;simp only[am,ap]at hw;cases h1:kI x with
 |false=>
  rw[h1]at hk;simp only[fH,iL,am,ap,go_sem,hk,hw]
 |true=>
  rw[h1]at hk;cases h2:bG p with
  |false=>
   rw[h2]at hp;simp only[fH,iL,am,ap,go_sem,hk,hp,hw]
  |true=>
   rw[h2]at hp;rw[ayg,ayg];by_cases h3:n<=16
   ·have e3:(16< (n:Int))=False:=ff;rw[if_pos (decide_eq_true h3)];by_cases h4:n=0
    ·have e4:((n:Int)=0)=True:=tt;rw[if_pos h4];have g1:=Kb;have g2:=gX dN.2 dN.1;simp only[one,am,ap,ae,ah]at g1 g2;simp only[fH,iL,one,am,ap,go_sem,hk,hp,n0,e3,e4,g1,g2]
    ·have e4:((n:Int)=0)=False:=ff;rw[if_neg h4];by_cases h5:n%2=0
     ·have e5:((n:Int).tmod 2=0)=True:=tt γ;rw[if_pos h5];have ha:=ajT ok;have oa:=ZR ok;generalize vf x=y at ha oa⊢;have g1:=Pg oa.lo hn (p:=p) (up:=false);have g2:=Pg oa.hi hn (p:=p) (up:=true);generalize rj y.lo n p false=r at g1⊢;generalize rj y.hi n p true=q at g2⊢;obtain⟨r1,r2⟩:=r;obtain⟨q1,q2⟩:=q;have hm:=QT (a:=r1) (b:=q1) (e:=r2) (f:=q2);simp only[am,ap,ae,ah,rV]at ha g1 g2 hm;simp only[fH,iL,am,ap,go_sem,ayH,hk,hp,n0,e3,e4,e5,ha,g1,g2,hm]
     ·have e5:((n:Int).tmod 2=0)=False:=ff γ;rw[if_neg h5];have g1:=Pg ok.lo hn (p:=p) (up:=false);have g2:=Pg ok.hi hn (p:=p) (up:=true);generalize rj x.lo n p false=r at g1⊢;generalize rj x.hi n p true=q at g2⊢;obtain⟨r1,r2⟩:=r;obtain⟨q1,q2⟩:=q;have hm:=QT (a:=r1) (b:=q1) (e:=r2) (f:=q2);simp only[am,ap,ae,ah,rV]at g1 g2 hm;simp only[fH,iL,am,ap,go_sem,ayH,hk,hp,n0,e3,e4,e5,g1,g2,hm]
   ·have e3:(16< (n:Int))=True:=tt;rw[if_neg (fun h=>h3 (of_decide_eq_true h))];simp only[fH,iL,am,ap,go_sem,hk,hp,n0,e3,hw]
def EF(x:Ri)(e:Nat)(p:Int):Ri:=if e<=16 then EE x e p else iu (EE x 16 p) (EE x (e-16) p) p
theorem WK{r s:Rd×Int}(h1:Ok0 r.1)(h2:Ok0 s.1):OkI (ui r s):=by
 unfold ui;split
 ·exact⟨h1,h2⟩
 ·exact⟨aU.2,aU.2⟩
theorem QW{x:Ri}(ok:OkI x){n:Nat}{p:Int}:OkI (EE x n p):=by
 unfold EE;have h:OkI (if n%2=0 then vf x else x):=by
  grind[ZR]
 split
 ·split
  ·exact⟨dN.2,dN.2⟩
  ·exact WK (ZS h.1) (ZS h.2)
 ·exact⟨aU.2,aU.2⟩
theorem ajW{x:Ri}(ok:OkI x){p:Int}{e:Nat}(hn:e<=100000):R faB [am x,I e,I p] []=some (am (EF x e p),[]):=by
 refine au TY rfl ?_;unfold EF;by_cases h1:e<=16
 ·have e1:((e:Int)<=16)=True:=tt;rw[if_pos h1];have h2:=Kc ok hn (p:=p);simp only[am,ap]at h2;simp only[vU,CE,am,ap,go_sem,e1,h2]
 ·have e1:((e:Int)<=16)=False:=ff;rw[if_neg h1];have h2:=Kc ok (show 16<=100000 by decide) (p:=p);have h3:=Kc ok (show e-16<=100000 by omega) (p:=p);have o2:=QW ok (n:=16) (p:=p);have o3:=QW ok (n:=e-16) (p:=p);have w1:IntKind.i64.wrap ((e:Int)-16)=((e-16:Nat):Int):=wi;have h4:=Du o2 o3 (p:=p);simp only[am,ap,Int.cast_ofNat_Int]at h2 h3 h4;simp only[vU,CE,am,ap,go_sem,e1,h2,h3,h4,w1]
def aO(l:List Int):List (List AV):=l.map fun(n:Int)=>[I n]
@[go_sem] theorem Dw(l:List Int):(aO l).length=l.length:=by simp[aO]
theorem oR{l:List Int}{i:Int}{n:Nat}{d:Int}(hi:i=n)(h:l[n]?=some d):aX (aO l) i=some (.ipt [I d]):=by
 grind[aX,aO]
theorem WL{x:Int}:R faE [I x] []=some (B false,[]):=by
 refine au Nr rfl ?_;simp only[wQ,Eb,go_sem]
theorem aeH{x y:Int}:R faD [I x,I y] []=some (I (cx x y),[]):=by
 refine au J1 rfl ?_;have h1:=WL (x:=x);have h2:=WL (x:=y);unfold cx;by_cases e1:x<y
 ·have f1:(x<y)=True:=tt e1;simp only[jZ,pz,go_sem,h1,h2,f1]
 ·have f1:(x<y)=False:=ff e1;by_cases e2:y<x
  ·have f2:(y<x)=True:=tt e2;simp only[jZ,pz,go_sem,h1,h2,f1,f2]
  ·have f2:(y<x)=False:=ff e2;simp only[jZ,pz,go_sem,h1,h2,f1,f2]
def lR:List Int->List Int->Int
 |[],[]=>0
 |[],_::_=>-1
 |_::_,[]=>1
 |x::xs,y::ys=>if cx x y=0 then lR xs ys else cx x y
theorem ahy{a b:List Int}(hl:a.length=b.length)(h2:a.length<=100000):∀ (k i:Nat),i+k=a.length->∀ (s:ak) (h:ac),s 0=.sl 1 (aO a)->s 1=.sl 1 (aO b)->s 9=.sl 1 (aO a)->s 10=I a.length->s 11=I i->
  ∃hh,ai 0 [0,1] (ax (aj R (az false) eR) [0,1,9,10,11] [] s h)=if lR (a.drop i) (b.drop i)=0 then some (.normal,⟨upd (upd (fun _=>.any) 1 (.sl 1 (aO b))) 0 (.sl 1 (aO a)),fun _=>.dead⟩)else some (.ret,⟨upd (fun _=>.any) 4 (I (lR (a.drop i) (b.drop i))),hh⟩):=by
 intro k;induction k with
 |zero=>
  intro i hi s h h0 h1 h9 h10 h11;have e1:((i:Int)<a.length)=False:=ff;rw[ayw ω,ayw ω,ag];refine⟨fun _=>.dead,?_⟩;show _=if(0:Int)=0 then _ else _
  simp only[eR,go_sem,h0,h1,h9,h10,h11,e1]
 |succ k ih=>
  intro i hi s h h0 h1 h9 h10 h11;have hlt:i<a.length:=ω
  have hlt2:i<b.length:=ω
  have e1:((i:Int)<a.length)=True:=tt;have e4:((b.length:Int)<=(i:Int))=False:=ff;have e2:aX (aO a) (i:Int)=some (.ipt [I a[i]]):=oR rfl (List.getElem?_eq_getElem hlt);have e3:aX (aO b) (i:Int)=some (.ipt [I b[i]]):=oR rfl (List.getElem?_eq_getElem hlt2);have e5:IntKind.i64.wrap ((i:Int)+1)=((i+1:Nat):Int):=wi;rw[ayv hlt,ayv hlt2,ag];have ih':=ih (i+1) ω;have hc:=aeH (x:=a[i]) (y:=b[i]);generalize a[i]=x at e2 hc⊢;generalize b[i]=y at e3 hc⊢;unfold lR;by_cases hz:cx x y=0
  ·have e6:(cx x y=0)=True:=tt hz;simp only[eR,go_sem,h0,h1,h9,h10,h11,e1,e2,e3,e4,e5,hc,e6];exact ih' _ _ rfl rfl rfl rfl rfl
  ·have e6:(cx x y=0)=False:=ff hz;refine⟨?hh,?_⟩;rotate_left;simp only[eR,go_sem,h0,h1,h9,h10,h11,e1,e2,e3,e4,hc,e6];rfl
theorem acL{a b:List Int}(hl:a.length=b.length)(h2:a.length<=100000):R fdH [.sl 1 (aO a),.sl 1 (aO b)] []=some (I (lR a b),[]):=by
 refine au De rfl ?_;have h3:=ahy hl h2 a.length 0 (ayc _);simp only[azb,ayO]at h3;by_cases hz:lR a b=0
 ·simp only[if_pos hz]at h3;have e1:((a.length:Int)<b.length)=False:=ff;simp only[iF,mB,go_sem];rw[(h3 _ _ rfl rfl rfl rfl rfl).choose_spec,hz];simp only[go_sem,e1]
 ·simp only[if_neg hz]at h3;simp only[iF,mB,go_sem];rw[(h3 _ _ rfl rfl rfl rfl rfl).choose_spec];simp only[go_sem]
def bj:List Int->Int
 |[]=>0
 |x::l=>x+bj l
def sm(l:List Int):Prop:=l.length<=1000/\∀x∈l,0<=x/\x<=32
theorem NG{l:List Int}{i:Nat}(h:i<l.length):bj (l.take (i+1))=bj (l.take i)+l[i]:=by
 induction l generalizing i with
 |nil=>grind
 |cons a l ih=>
  cases i with
  |zero=>simp[bj]
  |succ i=>
   have:=ih (i:=i) (by simpa using h);simp only[List.take_succ_cons,bj,List.getElem_cons_succ];omega
theorem WM{l:List Int}(h:∀x∈l,0<=x/\x<=32):0<=bj l/\bj l<=32*l.length:=by
 induction l with
 |nil=>exact⟨Int.le_refl _,Int.le_refl _⟩
 |cons a l ih=>
  have h1:=h a (List.mem_cons_self ..);have h2:=ih (fun x hx=>h x (List.mem_cons_of_mem _ hx));grind[bj,ayL]
theorem ahz{a:List Int}(h2:sm a):∀ (k i:Nat),i+k=a.length->∀ (s:ak) (h:ac),s 3=I (bj (a.take i))->s 6=.sl 1 (aO a)->s 7=I a.length->s 8=I i->
  ai 0 [3] (ax (aj R (az false) rK) [3,6,7,8] [] s h)=some (.normal,⟨upd (fun _=>.any) 3 (I (bj a)),fun _=>.dead⟩):=by
 intro k;induction k with
 |zero=>
  intro i hi s h h3 h6 h7 h8;have e1:((i:Int)<a.length)=False:=ff;rw[ayt ω]at h3;rw[ag];simp only[rK,go_sem,h3,h6,h7,h8,e1]
 |succ k ih=>
  intro i hi s h h3 h6 h7 h8;have hlt:i<a.length:=ω
  obtain⟨g1,g2⟩:=h2;have e1:((i:Int)<a.length)=True:=tt;have e2:aX (aO a) (i:Int)=some (.ipt [I a[i]]):=oR rfl (List.getElem?_eq_getElem hlt);have e5:IntKind.i64.wrap ((i:Int)+1)=((i+1:Nat):Int):=wi;have b1:=WM (l:=a.take i) (fun x hx=>g2 x (List.mem_of_mem_take hx));have b2:=g2 a[i] (ayC hlt);have e6:IntKind.i64.wrap (bj (a.take i)+a[i])=bj (a.take (i+1)):=by
   grind[NG,i64_in]
  have ih':=ih (i+1) ω;rw[ag];simp only[rK,go_sem,h3,h6,h7,h8,e1,e2,e5,e6];exact ih' _ _ rfl rfl rfl rfl
theorem yJ{a:List Int}(h2:sm a):R fcw [.sl 1 (aO a)] []=some (I (bj a),[]):=by
 refine au TM rfl ?_;have h3:=ahz h2 a.length 0 (ayc _);simp only[AJ,IE,go_sem];rw[h3 _ _ rfl rfl rfl rfl];simp only[go_sem]
def bU(a b:List Int):Int:=if cx (bj a) (bj b)=0 then lR b a else cx (bj a) (bj b)
theorem WN{a b:List Int}(ha:sm a)(hb:sm b)(hl:a.length=b.length):R fcy [.sl 1 (aO a),.sl 1 (aO b)] []=some (I (bU a b),[]):=by
 refine au V4 rfl ?_;have d1:=yJ ha;have d2:=yJ hb;have d3:=aeH (x:=bj a) (y:=bj b);have d4:=acL hl.symm (by have:=hb.1;omega);unfold bU;by_cases hz:cx (bj a) (bj b)=0
 ·have e6:(cx (bj a) (bj b)=0)=True:=tt hz;simp only[xJ,DZ,go_sem,d1,d2,d3,d4,e6]
 ·have e6:(cx (bj a) (bj b)=0)=False:=ff hz;simp only[xJ,DZ,go_sem,d1,d2,d3,e6]
structure Rt where
 exps:List Int
 c:Rd
structure Rp where
 vars:Int
 terms:List Rt
def bL(t:Rt):List AV:=[.sl 1 (aO t.exps),B t.c.neg,lm t.c.m,I t.c.e]
def aJ(l:List Rt):List (List AV):=l.map bL
def aT(a:Rp):AV:=.agg [I a.vars,.sl 4 (aJ a.terms)]
@[go_sem] theorem tE(l:List Rt):(aJ l).length=l.length:=by simp[aJ]
theorem fY{l:List Rt}{i:Int}{n:Nat}{d:Rt}(hi:i=n)(h:l[n]?=some d):aX (aJ l) i=some (.ipt (bL d)):=by
 grind[aX,aJ]
theorem rp{α:Type}{f:α->α}{l:List α}(h:∀x∈l,f x=x):l.map f=l:=(ayM (g:=fun c=>c) h).trans (ayY _)
@[go_sem] theorem GZ(l:List Rt):(aJ l).map (dQ [.o 2 [],.o 0 [],.o 2 [],.o 0 []])=aJ l:=by
 refine rp fun x hx=>?_;simp only[aJ,ay2]at hx;obtain⟨t,ht,rfl⟩:=hx;simp only[bL,go_sem]
structure OkT (t:Rt):Prop where
 c:Ok0 t.c
 len:t.exps.length<=100000
structure OkP (a:Rp):Prop where
 t:∀t∈a.terms,OkT t
def yn(e:Int):Bool:=decide (e<0)||decide (32<e)
theorem amB{e:Int}:R fcq [I e] []=some (B (yn e),[]):=by
 refine au GN rfl ?_;unfold yn;by_cases h:e<0
 ·have e1:(e<0)=True:=tt h;simp only[tW,AQ,go_sem,e1,decide_true,ay9]
 ·have e1:(e<0)=False:=ff h;simp only[tW,AQ,go_sem,e1,decide_false,Bool.false_or]
theorem ahA{l:List Int}(h2:l.length<=100000):R fdN [.sl 1 (aO l),.fn fcq [] []] []=some (B (l.any yn),[]):=by
 let p:List AV->Bool:=fun row=>match row with|[.v (.int _ e)]=>yn e|_=>false
 have h1:=Wl (k:=1) (g:=false) (f:=fcq) (rows:=aO l) (p:=p) fg.2.1 fg.2.2 (fg.1.2.2.2 false) rfl (GN.1.2.1 false) (by grind[Dw]) (fun row hr=>by
  simp only[aO,ay2]at hr;obtain⟨e,he,rfl⟩:=hr;refine⟨I e,rfl,rfl,?_⟩;simp only[go_sem,amB,p])
 have h2:=QI (k:=1) jA.2.1 jA.2.2 (jA.1.2.2.2 false) rfl (fg.1.2.1 false) (fg.1.1 false) (by simp only[go_sem]) h1;grind[aO,yn,List.any_map]
def G0(v:Int)(t:Rt):Bool:=decide ((t.exps.length:Int)=v)&& (vd t.c&& (decide (t.c.m.length≠0)&& (!(t.exps.any yn)&&decide (bj t.exps<=32))))
def WO:Option Rt->Rt->Bool
 |none,_=>true
 |some q,t=>decide (bU q.exps t.exps<0)
def yK(v:Int):Option Rt->List Rt->Bool
 |_,[]=>true
 |pr,t::l=>G0 v t&& (WO pr t&&yK v (some t) l)
theorem Ak{v:Int}{t:Rt}(h:G0 v t=true):(t.exps.length:Int)=v/\vd t.c=true/\t.c.m.length≠0/\t.exps.any yn=false/\bj t.exps<=32:=by
 grind[G0]
theorem wt{l:List Int}(h:l.any yn=false):∀x∈l,0<=x/\x<=32:=by
 simp_all[yn,Bool.or_eq_true,decide_eq_true_eq,not_or]
theorem ajX{a:Rp}(ok:∀t∈a.terms,Ok0 t.c)(hv:a.vars<=8)(h2:a.terms.length<=500):∀ (k i:Nat),i+k=a.terms.length->∀ (pr:Option Rt),(i=0->pr=none)->(0<i->∃q,pr=some q/\a.terms[i-1]?=some q/\G0 a.vars q=true)->
  ∀ (s:ak) (h:ac),s 1=.ref 1 none 0 0 0->s 20=.sl 4 (aJ a.terms)->s 21=I a.terms.length->s 22=I i->h 1=.bx [I a.vars,.sl 4 (aJ a.terms)]->
  ∃hh,ai 0 [] (ax (aj R (az false) dY) [1,20,21,22] [1] s h)=if yK a.vars pr (a.terms.drop i)=true then some (.normal,⟨fun _=>.any,hh⟩)else some (.ret,⟨upd (fun _=>.any) 2 (B false),hh⟩):=by
 intro k;induction k with
 |zero=>
  intro i hi pr p0 p1 s h h1 h20 h21 h22 k1;have e1:((i:Int)<a.terms.length)=False:=ff;rw[ayw ω,ag];refine⟨?hh0,?_⟩;rotate_left;show _=if true=true then _ else _
  rw[if_pos rfl];simp only[dY,go_sem,h1,h20,h21,h22,k1,e1];rfl
 |succ k ih=>
  intro i hi pr p0 p1 s h h1 h20 h21 h22 k1;have hlt:i<a.terms.length:=ω
  have e1:((i:Int)<a.terms.length)=True:=tt;have e2:aX (aJ a.terms) (i:Int)=some (.ipt (bL a.terms[i])):=fY rfl (List.getElem?_eq_getElem hlt);have e5:IntKind.i64.wrap ((i:Int)+1)=((i+1:Nat):Int):=wi;have okt:=ok a.terms[i] (ayC hlt);have hnext:a.terms[i+1-1]?=some a.terms[i]:=List.getElem?_eq_getElem hlt;rw[ayv hlt,ag];have ih':=ih (i+1) ω (some a.terms[i]) (fun h=>absurd h (Nat.succ_ne_zero _));generalize a.terms[i]=t at e2 okt ih' hnext⊢;generalize ax _ _ _=L at ih'⊢;have hvd:=eC okt;have hct:=fun(h:(t.exps.length:Int)=a.vars)=>ahA (l:=t.exps) ω;simp only[bL]at e2;simp only[ae,ah]at hvd;unfold yK;cases hb:G0 a.vars t with
  |false=>
   simp only[ayh,if_neg ayl];unfold G0 at hb;by_cases c1:(t.exps.length:Int)=a.vars
   ·have f1:((t.exps.length:Int)=a.vars)=True:=tt c1;rw[decide_eq_true c1,ayg]at hb;cases c2:vd t.c with
    |false=>
     rw[c2]at hvd;refine⟨?hh2,?_⟩;rotate_left;simp only[dY,go_sem,h1,h20,h21,h22,k1,e1,e2,f1,hvd];rfl
    |true=>
     rw[c2]at hvd hb;rw[ayg]at hb;by_cases c3:t.c.m.length=0
     ·have f3:((t.c.m.length:Int)=0)=True:=tt;refine⟨?hh3,?_⟩;rotate_left;simp only[dY,go_sem,h1,h20,h21,h22,k1,e1,e2,f1,hvd,f3];rfl
     ·have f3:((t.c.m.length:Int)=0)=False:=ff;rw[decide_eq_true c3,ayg]at hb;have hct:=hct c1;cases c4:t.exps.any yn with
      |true=>
       rw[c4]at hct;refine⟨?hh4,?_⟩;rotate_left;simp only[dY,go_sem,h1,h20,h21,h22,k1,e1,e2,f1,hvd,f3,hct];rfl
      |false=>
       rw[c4]at hct hb;rw[Bool.not_false,ayg]at hb;have hdg:=yJ (a:=t.exps) ⟨by omega,wt c4⟩;have f5:(32<bj t.exps)=True:=tt γ;refine⟨?hh5,?_⟩;rotate_left;simp only[dY,go_sem,h1,h20,h21,h22,k1,e1,e2,f1,hvd,f3,hct,hdg,f5];rfl
   ·have f1:((t.exps.length:Int)=a.vars)=False:=ff c1;refine⟨?hh1,?_⟩;rotate_left;simp only[dY,go_sem,h1,h20,h21,h22,k1,e1,e2,f1];rfl
  |true=>
   obtain⟨c1,c2,c3,c4,c5⟩:=Ak hb;have f1:((t.exps.length:Int)=a.vars)=True:=tt c1;rw[c2]at hvd;have f3:((t.c.m.length:Int)=0)=False:=ff;have hct:=hct c1;rw[c4]at hct;have hdg:=yJ (a:=t.exps) ⟨by omega,wt c4⟩;have f5:(32<bj t.exps)=False:=ff;simp only[ayg];by_cases hi0:i=0
   ·have f6:(0< (i:Int))=False:=ff;rw[p0 hi0];simp only[WO,ayg];simp only[dY,go_sem,h1,h20,h21,h22,k1,e1,e2,f1,hvd,f3,hct,hdg,f5,f6,e5];exact ih' (fun _=>⟨t,rfl,hnext,hb⟩) _ _ rfl rfl rfl rfl rfl
   ·have f6:(0< (i:Int))=True:=tt;obtain⟨q,q1,q2,q3⟩:=p1 ω;obtain⟨d1,d2,d3,d4,d5⟩:=Ak q3;rw[q1];have e7:IntKind.i64.wrap ((i:Int)-1)=((i-1:Nat):Int):=wi;have e8:aX (aJ a.terms) ((i-1:Nat):Int)=some (.ipt (bL q)):=fY rfl q2;simp only[bL]at e8;have ho:=WN (a:=q.exps) (b:=t.exps) ⟨by omega,wt d4⟩ ⟨by omega,wt c4⟩ ω;simp only[WO];by_cases c6:bU q.exps t.exps<0
    ·have f7:(0<=bU q.exps t.exps)=False:=ff;simp only[decide_eq_true c6,ayg];simp only[dY,go_sem,h1,h20,h21,h22,k1,e1,e2,f1,hvd,f3,hct,hdg,f5,f6,e5,e7,e8,ho,f7];exact ih' (fun _=>⟨t,rfl,hnext,hb⟩) _ _ rfl rfl rfl rfl rfl
    ·have f7:(0<=bU q.exps t.exps)=True:=tt;simp only[decide_eq_false c6,ayh,if_neg ayl];refine⟨?hh7,?_⟩;rotate_left;simp only[dY,go_sem,h1,h20,h21,h22,k1,e1,e2,f1,hvd,f3,hct,hdg,f5,f6,e7,e8,ho,f7];rfl
def vp(a:Rp):Bool:=decide (0<=a.vars)&& (decide (a.vars<=8)&& (decide (a.terms.length<=500)&&yK a.vars none a.terms))
theorem Ph{a:Rp}(ok:∀t∈a.terms,Ok0 t.c):R fcp [aT a] []=some (B (vp a),[]):=by
 refine au VV rfl ?_;unfold vp;by_cases c1:0<=a.vars
 ·have f1:(a.vars<0)=False:=ff;rw[decide_eq_true c1,ayg];by_cases c2:a.vars<=8
  ·have f2:(8<a.vars)=False:=ff;rw[decide_eq_true c2,ayg];by_cases c3:a.terms.length<=500
   ·have f3:(500< (a.terms.length:Int))=False:=ff;rw[decide_eq_true c3,ayg];have h3:=ajX ok c2 c3 a.terms.length 0 (ayc _) none (fun _=>rfl) (fun h=>absurd h (Nat.lt_irrefl _));simp only[azb,ayO]at h3;cases hb:yK a.vars none a.terms with
    |true=>
     rw[hb]at h3;simp only[lM,qK,aT,go_sem,f1,f2,f3];rw[(h3 _ _ rfl rfl rfl rfl rfl).choose_spec];simp only[go_sem]
    |false=>
     rw[hb]at h3;simp only[lM,qK,aT,go_sem,f1,f2,f3];rw[(h3 _ _ rfl rfl rfl rfl rfl).choose_spec];simp only[go_sem]
   ·have f3:(500< (a.terms.length:Int))=True:=tt;rw[decide_eq_false c3,ayh];simp only[lM,qK,aT,go_sem,f1,f2,f3]
  ·have f2:(8<a.vars)=True:=tt;rw[decide_eq_false c2,ayh];simp only[lM,qK,aT,go_sem,f1,f2]
 ·have f1:(a.vars<0)=True:=tt;rw[decide_eq_false c1,ayh];simp only[lM,qK,aT,go_sem,f1]
theorem vj{a:Rp}(ok:OkP a):R fcp [aT a] []=some (B (vp a),[]):=Ph fun t h=>(ok.t t h).c
@[go_sem] theorem ZT(l:List Ri):(bQ l).map (dQ [.o 0 [],.o 2 [],.o 0 [],.o 0 [],.o 2 [],.o 0 [],.o 0 []])=bQ l:=by
 refine rp fun x hx=>?_;simp only[bQ,ay2]at hx;obtain⟨t,ht,rfl⟩:=hx;simp only[ap,go_sem]
theorem acM{x:Ri}(ok:OkI x):R fao [am x] []=some (B (!kI x),[]):=by
 refine au El rfl ?_;have hv:=mK ok;simp only[am,ap]at hv;unfold kI;cases h1:vi x with
 |false=>
  rw[h1]at hv;rw[ay1];simp only[qu,yc,am,ap,go_sem,hv,Bool.not_false]
 |true=>
  rw[h1]at hv;rw[Bool.and_true,Bool.not_not];simp only[qu,yc,am,ap,go_sem,hv]
theorem ahB{l:List Ri}(ok:∀x∈l,OkI x)(h2:l.length<=100000):R fdK [.sl 7 (bQ l),.fn fao [] []] []=some (B (l.any fun x=>!kI x),[]):=by
 let p:List AV->Bool:=fun row=>match row with|[.v (.bool n1),.sl _ m1,.v (.int _ e1),.v (.bool n2),.sl _ m2,.v (.int _ e2),.v (.bool a)]=>!kI ⟨⟨n1,m1.map (fun r=>match r with|[.v (.int _ x)]=>x.toNat|_=>0),e1⟩,⟨n2,m2.map (fun r=>match r with|[.v (.int _ x)]=>x.toNat|_=>0),e2⟩,a⟩|_=>false
 have hmm:∀m:List Nat,(aB m).map (fun r=>match r with|[.v (.int _ x)]=>x.toNat|_=>0)=m:=fun m=>by
  grind[aB,List.map_map,ayM,ayY]
 have hp:∀x:Ri,p (ap x)=!kI x:=fun x=>by
  show(!kI ⟨⟨x.lo.neg,(aB x.lo.m).map _,x.lo.e⟩,⟨x.hi.neg,(aB x.hi.m).map _,x.hi.e⟩,x.all⟩)=_
  simp_all
 have h1:=Wl (k:=7) (g:=true) (f:=fao) (rows:=bQ l) (p:=p) aK.2.1 aK.2.2 (aK.1.2.2.2 false) rfl (El.1.2.1 false) (by grind[ZO]) (fun row hr=>by
  simp only[bQ,ay2]at hr;obtain⟨x,hx,rfl⟩:=hr;have hd:=acM (ok x hx);refine⟨am x,rfl,rfl,?_⟩;rw[hp];simp only[am,ap]at hd;simp only[am,ap,go_sem,hd])
 have h2:=QI (k:=7) aQ.2.1 aQ.2.2 (aQ.1.2.2.2 false) rfl (aK.1.2.1 false) (aK.1.1 false) (by simp only[go_sem]) h1;have h3:(bQ l).any p=l.any fun x=>!kI x:=by
  unfold bQ;rw[List.any_map];congr 1;funext x;exact hp x
 grind
def nP(a:Rp)(dom:List Ri):Bool:=vp a&& (decide ((dom.length:Int)=a.vars)&&!(dom.any fun x=>!kI x))
theorem aeI{a:Rp}{dom:List Ri}(oa:OkP a)(od:∀x∈dom,OkI x)(h2:dom.length<=100000):R fan [aT a,.sl 7 (bQ dom)] []=some (B (nP a dom),[]):=by
 refine au Qs rfl ?_;have hv:=vj oa;have hc:=ahB od h2;simp only[aT]at hv;unfold nP;cases h1:vp a with
 |false=>
  rw[h1]at hv;simp only[px,vT,aT,go_sem,hv]
 |true=>
  rw[h1]at hv;by_cases h3:(dom.length:Int)=a.vars
  ·have e3:((dom.length:Int)=a.vars)=True:=tt h3;simp only[px,vT,aT,go_sem,hv,e3,hc]
  ·have e3:((dom.length:Int)=a.vars)=False:=ff h3;simp only[px,vT,aT,go_sem,hv,e3]
theorem La{a:Rp}{dom:List Ri}(oa:OkP a)(od:∀x∈dom,OkI x)(h2:dom.length<=100000){p:Int}:R fap [aT a,.sl 7 (bQ dom),I p] []=some (B (nP a dom&&bG p),[]):=by
 refine au V0 rfl ?_;have hd:=aeI oa od h2;simp only[aT]at hd;unfold bG;cases h1:nP a dom with
 |false=>
  rw[h1]at hd;simp only[sH,zD,aT,go_sem,hd]
 |true=>
  rw[h1]at hd;by_cases h3:8<=p
  ·have e3:(8<=p)=True:=tt h3;simp only[sH,zD,aT,go_sem,hd,e3,decide_true,ayg]
  ·have e3:(8<=p)=False:=ff h3;simp only[sH,zD,aT,go_sem,hd,e3,decide_false,ayh]
theorem H7:R faC [] []=some (am dm,[]):=by
 refine au TP rfl ?_;simp only[AL,II,am,ap,dm,aH,go_sem]
def Kd(p:Int):List Ri->List Int->Ri->Ri
 |d::ds,e::es,x=>Kd p ds es (if 0<e then iu x (EF d e.toNat p) p else x)
 |_,_,x=>x
theorem amC{dn up:Rd->Rd->Rd×Int}{pr:Nat->Rd×Rd}(h1:∀a b,Ok0 (dn a b).1)(h2:∀a b,Ok0 (up a b).1):OkI (I0 (qA dn up pr)):=by
 have hN:∀ (k i:Nat) (o:Rd×Rd),Ok0 o.1->Ok0 o.2->OkI (I0 (wr dn up pr k i o)):=by
  intro k;induction k with
  |zero=>exact fun i o g1 g2=>⟨g1,g2⟩
  |succ k ih=>
   intro i o g1 g2;unfold wr;split
   ·grind
   ·exact⟨aU.2,aU.2⟩
 unfold qA;split
 ·grind
 ·exact⟨aU.2,aU.2⟩
theorem Bk{x y:Ri}{p:Int}:OkI (iu x y p):=by
 unfold iu;split
 ·grind[amC,Dt]
 ·exact⟨aU.2,aU.2⟩
theorem Lc{a b:Rd}{p:Int}{up:Bool}:Ok0 (du a b p up).1:=by
 unfold du;split
 ·exact td.2
 ·exact aU.2
theorem yL{x y:Ri}{p:Int}:OkI (eG x y p):=by
 unfold eG;split
 ·grind[WK,Lc]
 ·exact⟨aU.2,aU.2⟩
theorem ajY{x:Ri}(ok:OkI x){e:Nat}{p:Int}:OkI (EF x e p):=by
 grind[EF,QW,Bk]
theorem amD{p:Int}:∀ (ds:List Ri) (es:List Int) (x:Ri),OkI x->OkI (Kd p ds es x):=by
 intro ds;induction ds with
 |nil=>exact fun es x h=>by cases es<;>exact h
 |cons d ds ih=>
  intro es x h;cases es with
  |nil=>exact h
  |cons e es=>
   grind[Kd,Bk]
theorem apy{dom:List Ri}(od:∀x∈dom,OkI x){es:List Int}(hl:dom.length=es.length)(h2:dom.length<=100000)(he:∀e∈es,0<=e/\e<=32){p:Int}{c3 c6 c7 c9:List AV}{rw':AV}{n j:Int}
  (q3:aD [3,6,7,9,10] (.bx c3)=true) (q6:aD [3,6,7,9,10] (.bx c6)=true) (q7:aD [3,6,7,9,10] (.bx c7)=true) (q9:aD [3,6,7,9,10] (.bx c9)=true) (qr:gD [3,6,7,9,10] rw'=rw'):
  ∀ (k i:Nat),i+k=es.length->∀ (x:Ri),OkI x->∀ (s:ak) (h:ac),s 1=.sl 7 (bQ dom)->s 2=I p->s 6=.ref 6 none 0 0 0->s 7=.ref 7 none 0 0 0->s 10=.ref 10 none 0 0 0->s 22=rw'->s 23=I n->s 24=I j->s 32=.sl 1 (aO es)->s 33=I es.length->s 34=I i->
  h 3=.bx c3->h 6=.bx c6->h 7=.bx c7->h 9=.bx c9->h 10=.bx (ap x)->
  ∃hh,ai 2 [1,2,6,7,10,22,23,24] (ax (aj R (az false) gp) [1,2,6,7,10,22,23,24,32,33,34] [3,6,7,9,10] s h)=some (.normal,⟨upd (upd (upd (upd (upd (upd (upd (upd (fun _=>.any) 24 (I j)) 23 (I n)) 22 rw') 10 (.ref 10 none 0 0 0)) 7 (.ref 7 none 0 0 0)) 6 (.ref 6 none 0 0 0)) 2 (I p)) 1 (.sl 7 (bQ dom)),hh⟩)/\
   hh 3=.bx c3/\hh 6=.bx c6/\hh 7=.bx c7/\hh 10=.bx (ap (Kd p (dom.drop i) (es.drop i) x))/\∀a,a≠3->a≠6->a≠7->a≠9->a≠10->hh a=.dead:=by
 intro k;induction k with
 |zero=>
  intro i hi x ox s h h1 h2' h6 h7 h10 h22 h23 h24 h32 h33 h34 k3 k6 k7 k9 k10;have e1:((i:Int)<es.length)=False:=ff;rw[ayw ω,ayw ω,ag];refine⟨?hh0,?_,?_,?_,?_,?_,?_⟩;rotate_left
  ·simp only[gp,go_sem,h1,h2',h6,h7,h10,h22,h23,h24,h32,h33,h34,k3,k6,k7,k9,k10,q3,q6,q7,q9,qr,e1];rfl
  ·rfl
  ·rfl
  ·rfl
  ·rfl
  simp_all[cV,if_false]
 |succ k ih=>
  intro i hi x ox s h h1 h2' h6 h7 h10 h22 h23 h24 h32 h33 h34 k3 k6 k7 k9 k10;have hlt:i<es.length:=ω
  have hlt2:i<dom.length:=ω
  have e1:((i:Int)<es.length)=True:=tt;have e2:aX (aO es) (i:Int)=some (.ipt [I es[i]]):=oR rfl (List.getElem?_eq_getElem hlt);have e3:aX (bQ dom) (i:Int)=some (.ipt (ap dom[i])):=Ds rfl (List.getElem?_eq_getElem hlt2);have e5:IntKind.i64.wrap ((i:Int)+1)=((i+1:Nat):Int):=wi;have oki:=od dom[i] (ayC hlt2);have hb:=he es[i] (ayC hlt);rw[ayv hlt,ayv hlt2,ag];have ih':=ih (i+1) ω;unfold Kd;generalize es[i]=e at e2 hb⊢;generalize dom[i]=d at e3 oki⊢;obtain⟨m,rfl⟩:=aze hb.1;rw[ayk];have hpw:=ajW oki (e:=m) ω (p:=p);have opw:=ajY oki (e:=m) (p:=p);generalize EF d m p=y at hpw opw⊢;have hmu:=Du ox opw (p:=p);have omu:=Bk (x:=x) (y:=y) (p:=p);generalize iu x y p=z at hmu omu⊢;simp only[am,ap]at e3 hpw hmu k10;by_cases hm:0< (m:Int)
  ·have f1:(0< (m:Int))=True:=tt hm;simp only[gp,go_sem,h1,h2',h6,h7,h10,h22,h23,h24,h32,h33,h34,k3,k6,k7,k9,k10,q3,q6,q7,q9,qr,e1,e2,e3,f1,hpw,hmu,e5];exact ih' z omu _ _ rfl rfl rfl rfl rfl rfl rfl rfl rfl rfl rfl rfl rfl rfl rfl rfl
  ·have f1:(0< (m:Int))=False:=ff hm;simp only[gp,go_sem,h1,h2',h6,h7,h10,h22,h23,h24,h32,h33,h34,k3,k6,k7,k9,k10,q3,q6,q7,q9,qr,e1,e2,e3,f1,hpw,hmu,e5];exact ih' x ox _ _ rfl rfl rfl rfl rfl rfl rfl rfl rfl rfl rfl rfl rfl rfl rfl rfl
def Pi(p:Int)(dom:List Ri):List Rt->Ri->Ri
 |[],s=>s
 |t::l,s=>Pi p dom l (eG s (Kd p dom t.exps ⟨t.c,t.c,false⟩) p)
theorem Le{v:Int}:∀ (l:List Rt) (pr:Option Rt),yK v pr l=true->∀t∈l,G0 v t=true:=by
 intro l;induction l with
 |nil=>grind
 |cons a l ih=>
  intro pr h t ht;unfold yK at h;grind
theorem aeJ{a:Rp}{dom:List Ri}(oa:OkP a)(od:∀x∈dom,OkI x)(hv:∀t∈a.terms,G0 a.vars t=true)(hl:(dom.length:Int)=a.vars)(h8:a.vars<=8)(h5:a.terms.length<=500){p:Int}:
  ∀ (k i:Nat),i+k=a.terms.length->∀ (x:Ri),OkI x->∀ (s:ak) (h:ac),s 1=.sl 7 (bQ dom)->s 2=I p->s 6=.ref 6 none 0 0 0->s 7=.ref 7 none 0 0 0->s 22=.sl 4 (aJ a.terms)->s 23=I a.terms.length->s 24=I i->
  h 3=.bx [I a.vars,.sl 4 (aJ a.terms)]->h 6=.bx [.v (.bool false),.emp,.v (.int .i64 0),.v (.bool false),.emp,.v (.int .i64 0),.v (.bool false)]->h 7=.bx (ap x)->
  ∃hh,ai 0 [6,7] (ax (aj R (az false) ku) [1,2,6,7,22,23,24] [3,6,7] s h)=some (.normal,⟨upd (upd (fun _=>.any) 7 (.ref 7 none 0 0 0)) 6 (.ref 6 none 0 0 0),hh⟩)/\hh 6=.bx [.v (.bool false),.emp,.v (.int .i64 0),.v (.bool false),.emp,.v (.int .i64 0),.v (.bool false)]/\hh 7=.bx (ap (Pi p dom (a.terms.drop i) x)):=by
 intro k;induction k with
 |zero=>
  intro i hi x ox s h h1 h2 h6 h7 h22 h23 h24 k3 k6 k7;have e1:((i:Int)<a.terms.length)=False:=ff;rw[ayw ω,ag];refine⟨?hh0,?_,?_,?_⟩;rotate_left
  ·simp only[ku,go_sem,h1,h2,h6,h7,h22,h23,h24,k3,k6,k7,e1];rfl
  ·rfl
  ·rfl
 |succ k ih=>
  intro i hi x ox s h h1 h2 h6 h7 h22 h23 h24 k3 k6 k7;have hlt:i<a.terms.length:=ω
  have e1:((i:Int)<a.terms.length)=True:=tt;have e2:aX (aJ a.terms) (i:Int)=some (.ipt (bL a.terms[i])):=fY rfl (List.getElem?_eq_getElem hlt);have e5:IntKind.i64.wrap ((i:Int)+1)=((i+1:Nat):Int):=wi;have okt:=oa.t a.terms[i] (ayC hlt);obtain⟨c1,c2,c3,c4,c5⟩:=Ak (hv a.terms[i] (ayC hlt));rw[ayv hlt,ag];have ih':=ih (i+1) ω;unfold Pi;generalize a.terms[i]=t at e2 okt c1 c2 c3 c4 c5⊢;have hpt:=gX okt.c c2;have hin:=apy (dom:=dom) od (es:=t.exps) ω ω (wt c4) (p:=p) (c3:=[I a.vars,.sl 4 (aJ a.terms)]) (c6:=[.v (.bool false),.emp,.v (.int .i64 0),.v (.bool false),.emp,.v (.int .i64 0),.v (.bool false)]) (c7:=ap x) (c9:=bL t) (rw':=.sl 4 (aJ a.terms)) (n:=a.terms.length) (j:=i) rfl rfl rfl rfl rfl t.exps.length 0 (ayc _) ⟨t.c,t.c,false⟩ ⟨okt.c,okt.c⟩;simp only[azb,ayO]at hin;have oy:=amD (p:=p) dom t.exps ⟨t.c,t.c,false⟩ ⟨okt.c,okt.c⟩;generalize Kd p dom t.exps ⟨t.c,t.c,false⟩=y at hin oy⊢;have hadd:=yH ox oy (p:=p);have oz:=yL (x:=x) (y:=y) (p:=p);generalize eG x y p=z at hadd oz⊢;generalize hL0:ax (aj R (az false) gp) [1,2,6,7,10,22,23,24,32,33,34] [3,6,7,9,10]=L0 at hin;have hin2:∀ (S:ak) (H:ac) (X:Option (Ex×St)),ai 2 [1,2,6,7,10,22,23,24] (L0 S H)=X->S 1=.sl 7 (bQ dom)->S 2=I p->S 6=.ref 6 none 0 0 0->S 7=.ref 7 none 0 0 0->S 10=.ref 10 none 0 0 0->S 22=.sl 4 (aJ a.terms)->S 23=I a.terms.length->S 24=I i->S 32=.sl 1 (aO t.exps)->S 33=I t.exps.length->S 34=I 0->
   H 3=.bx [I a.vars,.sl 4 (aJ a.terms)]->H 6=.bx [.v (.bool false),.emp,.v (.int .i64 0),.v (.bool false),.emp,.v (.int .i64 0),.v (.bool false)]->H 7=.bx (ap x)->H 9=.bx (bL t)->H 10=.bx (ap ⟨t.c,t.c,false⟩)->
   ∃hh,X=some (.normal,⟨upd (upd (upd (upd (upd (upd (upd (upd (fun _=>.any) 24 (I i)) 23 (I a.terms.length)) 22 (.sl 4 (aJ a.terms))) 10 (.ref 10 none 0 0 0)) 7 (.ref 7 none 0 0 0)) 6 (.ref 6 none 0 0 0)) 2 (I p)) 1 (.sl 7 (bQ dom)),hh⟩)/\
    hh 3=.bx [I a.vars,.sl 4 (aJ a.terms)]/\hh 6=.bx [.v (.bool false),.emp,.v (.int .i64 0),.v (.bool false),.emp,.v (.int .i64 0),.v (.bool false)]/\hh 7=.bx (ap x)/\hh 10=.bx (ap y)/\∀a,a≠3->a≠6->a≠7->a≠9->a≠10->hh a=.dead:=fun S H X hX=>by
   rw[←hX];exact hin S H
  have hX:∀s h,aj R (az false) (.loop [1,2,6,7,10,22,23,24,32,33,34] [3,6,7,9,10] gp) s h=L0 s h:=fun s h=>by rw[←hL0];rfl
  simp only[bL]at e2 hin2;simp only[am,ap,ae,ah]at hpt hadd k7 hin2;simp only[ku,hX,go_sem,h1,h2,h6,h7,h22,h23,h24,k3,k6,k7,e1,e2,hpt];generalize hB:ai 2 [1,2,6,7,10,22,23,24] (L0 _ _)=X;obtain⟨hh,g0,g3,g6,g7,g10,gd⟩:=hin2 _ _ _ hB rfl rfl rfl rfl rfl rfl rfl rfl rfl rfl rfl rfl rfl rfl rfl rfl;rw[g0];simp only[go_sem,ne_eq,not_false_eq_true,g7,g10,gd,hadd,e5];refine ih' z oz _ _ ?_ ?_ ?_ ?_ ?_ ?_ ?_ ?_ ?_ ?_
  all_goals first|rfl|exact g3|exact g6
def pI(a:Rp)(dom:List Ri)(p:Int):Ri:=if(nP a dom&&bG p)=true then Pi p dom a.terms ⟨aH,aH,false⟩else dm
theorem ahC{a:Rp}{dom:List Ri}(oa:OkP a)(od:∀x∈dom,OkI x)(h2:dom.length<=100000){p:Int}:R fam [aT a,.sl 7 (bQ dom),I p] []=some (am (pI a dom p),[]):=by
 refine au TQ rfl ?_;have hf:=La oa od h2 (p:=p);have hw:=H7;unfold pI;simp only[aT]at hf;cases hb:(nP a dom&&bG p)with
 |false=>
  rw[hb]at hf;simp only[vO,CC,aT,am,ap,go_sem,hf,hw]
 |true=>
  rw[hb]at hf;simp only[nP,vp,ayf,decide_eq_true_eq]at hb;obtain⟨⟨⟨v1,v2,v3,v4⟩,v5,v6⟩,v7⟩:=hb;have ho:=aeJ oa od (Le _ _ v4) v5 v2 v3 (p:=p) a.terms.length 0 (ayc _) ⟨aH,aH,false⟩ ⟨aU.2,aU.2⟩;simp only[azb,ayO]at ho;generalize Pi p dom a.terms ⟨aH,aH,false⟩=z at ho⊢;have hpt:=gX aU.2 aU.1;generalize hL0:ax (aj R (az false) ku) [1,2,6,7,22,23,24] [3,6,7]=L0 at ho;have hX:∀s h,aj R (az false) (.loop [1,2,6,7,22,23,24] [3,6,7] ku) s h=L0 s h:=fun s h=>by rw[←hL0];rfl
  have ho2:∀ (S:ak) (H:ac) (X:Option (Ex×St)),ai 0 [6,7] (L0 S H)=X->S 1=.sl 7 (bQ dom)->S 2=I p->S 6=.ref 6 none 0 0 0->S 7=.ref 7 none 0 0 0->S 22=.sl 4 (aJ a.terms)->S 23=I a.terms.length->S 24=I 0->
   H 3=.bx [I a.vars,.sl 4 (aJ a.terms)]->H 6=.bx [.v (.bool false),.emp,.v (.int .i64 0),.v (.bool false),.emp,.v (.int .i64 0),.v (.bool false)]->H 7=.bx (ap ⟨aH,aH,false⟩)->
   ∃hh,X=some (.normal,⟨upd (upd (fun _=>.any) 7 (.ref 7 none 0 0 0)) 6 (.ref 6 none 0 0 0),hh⟩)/\hh 6=.bx [.v (.bool false),.emp,.v (.int .i64 0),.v (.bool false),.emp,.v (.int .i64 0),.v (.bool false)]/\hh 7=.bx (ap z):=fun S H X hX=>by
   rw[←hX];exact ho S H
  simp only[am,ap,ae,ah,aH]at hpt ho2;simp only[vO,CC,hX,aT,am,ap,go_sem,hf,hpt];generalize hB:ai 0 [6,7] (L0 _ _)=X;obtain⟨hh,g0,g6,g7⟩:=ho2 _ _ _ hB rfl rfl rfl rfl rfl rfl rfl rfl rfl rfl;rw[g0];simp only[go_sem,g6,g7]
theorem Ch{n:Nat}{i:Int}(hi:i=n)(hn:n<18446744073709551616):dU .and (.v (.int .u64 i)) (.v (.int .u64 4294967295))=some (.v (.int .u64 ((n%4294967296:Nat):Int))):=by
 rw[P7];have e:(BitVec.ofInt IntKind.u64.bits (n:Int)&&&BitVec.ofInt IntKind.u64.bits 4294967295).toNat=n%4294967296:=by
  show(BitVec.ofInt 64 (n:Int)&&&BitVec.ofInt 64 4294967295).toNat=n%4294967296;rw[BitVec.toNat_and];have e2:(BitVec.ofInt 64 (n:Int)).toNat=n:=by
   grind
  rw[e2,show(BitVec.ofInt 64 4294967295).toNat=2^32-1 from by decide,Nat.and_two_pow_sub_one_eq_mod]
 grind[dK]
theorem WP{n:Nat}{i:Int}(hi:i=n)(hn:n<4294967296):dU .and (.v (.int .u32 i)) (.v (.int .u32 1))=some (.v (.int .u32 ((n%2:Nat):Int))):=by
 rw[P7];have e:(BitVec.ofInt IntKind.u32.bits (n:Int)&&&BitVec.ofInt IntKind.u32.bits 1).toNat=n%2:=by
  show(BitVec.ofInt 32 (n:Int)&&&BitVec.ofInt 32 1).toNat=n%2;grind
 grind[Cb]
theorem acN(m:List Nat)(h2:m.length<4611686018427387904):∀ (n:Nat),n<=m.length->∀ (s:ak) (h:ac),s 0=lm m->s 3=I n->
  ai 0 [0,3] (ax (aj R (az false) IR) [0,3] [] s h)=some (.normal,⟨upd (upd (fun _=>.any) 3 (I (mJ m n))) 0 (lm m),fun _=>.dead⟩):=Sv m h2
theorem EG{m:List Nat}(hb:Lb m)(h:m.length<=10000000):R fcV [lm m] []=some (lm (av (ab m)),[]):=by
 refine au acm rfl ?_;have h1:eA 1 (lm m) none (some (I (mJ m m.length:Nat))) none=some (lm (av (ab m))):=by
  rw[J2 (a:=0) (b:=mJ m m.length) rfl (uU rfl (Eg _ _)) (Eg _ _),azb,Nat.sub_zero,M6 hb]
 have hl:=dx m hb;have e1:((av (ab m)).length*4<=140737488355328)=True:=tt;simp only[F6,OI,go_sem,acN m ω m.length (ayd _),h1,Wy,e1,ayq,ayR,true_or,ayc,ayd,List.replicate_zero]
theorem aeK:∀ (x b:Nat),x<4294967296->b+af x<=100000000->∀ (s:ak) (h:ac),s 3=I b->s 4=U x->
  ai 0 [3] (ax (aj R (az false) xK) [3,4] [] s h)=some (.normal,⟨upd (fun _=>.any) 3 (I (b+af x:Nat)),fun _=>.dead⟩):=by
 intro x;induction x using Nat.strongRecOn with
 |ind x ih=>
  intro b hx hb s h h3 h4;rw[ag];by_cases h0:x=0
  ·have e1:(0< (x:Int))=False:=ff;rw[h0,pG,ayF];simp only[xK,go_sem,h3,h4,e1]
  ·have e1:(0< (x:Int))=True:=tt;have e2:=HY (n:=x) (k:=1) (kk:=.u64) (j:=1) rfl rfl ω;have e3:IntKind.i64.wrap ((b:Int)+1)=((b+1:Nat):Int):=wi;have e4:af x=1+af (x/2^1):=by
    have h5:=jB x 1;grind[fu]
   have ih':=ih (x/2^1) ω (b+1) ω ω;rw[show b+af x=b+1+af (x/2^1)by omega];simp only[xK,go_sem,h3,h4,e1,e2,e3];exact ih' _ _ rfl rfl
theorem WQ{m:List Nat}(hb:Lb m)(h:m.length<=1000000)(hc:BN m):R fcO [lm m] []=some (I (af (ab m):Nat),[]):=by
 refine au acn rfl ?_;by_cases h0:m.length=0
 ·have:m=[]:=List.length_eq_zero_iff.1 h0;subst this;simp only[BL,HK,go_sem,ayR,ayO,ab,pG]
 ·have e1:((m.length:Int)=0)=False:=ff;have e2:IntKind.i64.wrap ((m.length:Int)-1)=((m.length-1:Nat):Int):=wi;have e3:IntKind.i64.wrap (32*((m.length-1:Nat):Int))=((32*(m.length-1):Nat):Int):=wi;have e4:aX (aB m) ((m.length-1:Nat):Int)=some (.ipt [U (m.getD (m.length-1) 0:Nat)]):=bv rfl ω;have hx:=bO hb (m.length-1);have e5:=aeK (m.getD (m.length-1) 0) (32*(m.length-1)) hx (by have:=(bD (k:=32)).2 hx;omega);have e6:32*(m.length-1)+af (m.getD (m.length-1) 0)=af (ab m):=by
   grind[Ww,JV,GM]
  rw[e6]at e5;simp only[BL,HK,go_sem,e1,e2,e3,e4];rw[e5 _ _ rfl rfl];simp only[go_sem]
theorem WR{m:List Nat}(hb:Lb m)(n:Nat):m.getD (n/32) 0/2^ (n%32) %2=ab m/2^n%2:=by
 have h1:ab m/2^n=ab (m.drop (n/32))/2^ (n%32):=by
  rw[yk hb,Nat.div_div_eq_div_mul,yE]
 rw[h1,fB];have e:(4294967296:Nat)=2^ (n%32)*(2*2^ (31-n%32)):=by
  rw[←Nat.pow_succ',←ayn,show n%32+(31-n%32+1)=32 by omega]
 simp_all[ayD,Nat.add_mul_div_left,ayr,Nat.add_mul_mod_self_left]
theorem aeL{n:Nat}(h:n≠0){k:Nat}(hk:k<=tz n):n/2^k%2=if k=tz n then 1 else 0:=by
 obtain⟨h1,h2⟩:=tC h;by_cases hh:k=tz n
 ·grind
 ·obtain⟨j,hj⟩:∃j,tz n=k+(j+1):=⟨tz n-k-1,by omega⟩;have h3:n=2^k*(2*(2^j*(n/2^tz n))):=by
   grind
  grind[Nat.mul_div_cancel_left,ayr,Nat.mul_mod_right]
theorem acO{m:List Nat}(hb:Lb m)(h:m.length<=1000000)(hv:ab m≠0):∀ (k i:Nat),i+k=tz (ab m)->∀ (s:ak) (h:ac),s 0=lm m->s 3=I i->
  ai 0 [3] (ax (aj R (az false) vQ) [0,3] [] s h)=some (.normal,⟨upd (fun _=>.any) 3 (I (tz (ab m):Nat)),fun _=>.dead⟩):=by
 have htz:tz (ab m)<32*m.length:=by
  simp_all[Ul,cI,Nat.pow_mul]
 intro k;induction k with
 |zero=>
  intro i hi s h h0 h3;have hi':i=tz (ab m):=ω
  have e1:=Dr (n:=i) (m:=32) (j:=32) rfl rfl ω ω;have e2:=Dq (n:=i) (m:=32) (j:=32) rfl rfl ω;have e3:aX (aB m) ((i/32:Nat):Int)=some (.ipt [U (m.getD (i/32) 0:Nat)]):=bv rfl ω;have hx:=bO hb (i/32);have e4:IntKind.u64.wrap ((i%32:Nat):Int)=((i%32:Nat):Int):=dK rfl ω;have e5:=HY (n:=m.getD (i/32) 0) (k:=i%32) (kk:=.u64) (j:=((i%32:Nat):Int)) rfl rfl ω;have e6:=WP (n:=m.getD (i/32) 0/2^ (i%32)) rfl (ayS (Nat.div_le_self _ _) hx);have e7:=WR hb i;rw[aeL hv ω,if_pos hi']at e7;rw[e7]at e6;rw[ag];rw[←hi'];simp only[vQ,go_sem,ayH,h0,h3,e1,e2,e3,e4,e5,e6,Int.natCast_one]
 |succ k ih=>
  intro i hi s h h0 h3;have e1:=Dr (n:=i) (m:=32) (j:=32) rfl rfl ω ω;have e2:=Dq (n:=i) (m:=32) (j:=32) rfl rfl ω;have e3:aX (aB m) ((i/32:Nat):Int)=some (.ipt [U (m.getD (i/32) 0:Nat)]):=bv rfl ω;have hx:=bO hb (i/32);have e4:IntKind.u64.wrap ((i%32:Nat):Int)=((i%32:Nat):Int):=dK rfl ω;have e5:=HY (n:=m.getD (i/32) 0) (k:=i%32) (kk:=.u64) (j:=((i%32:Nat):Int)) rfl rfl ω;have e6:=WP (n:=m.getD (i/32) 0/2^ (i%32)) rfl (ayS (Nat.div_le_self _ _) hx);have e7:=WR hb i;rw[aeL hv ω,if_neg ω]at e7;rw[e7]at e6;have e8:IntKind.i64.wrap ((i:Int)+1)=((i+1:Nat):Int):=wi;have ih':=ih (i+1) ω;rw[ag];simp only[vQ,go_sem,h0,h3,e1,e2,e3,e4,e5,e6,e8,ayO];exact ih' _ _ rfl rfl
theorem aeM{m:List Nat}(hb:Lb m)(h:m.length<=1000000)(hv:ab m≠0):R fcW [lm m] []=some (I (tz (ab m):Nat),[]):=by
 refine au YR rfl ?_;have h3:=acO hb h hv (tz (ab m)) 0 (ayc _);simp only[D0,Ms,go_sem];rw[h3 _ _ rfl rfl];simp only[go_sem]
theorem aeN{a:List Nat}(ha:Lb a){n q:Nat}(h1:a.length<=100000)(hq:q<=100000):∀ (k i:Nat),i+k=a.length->∀ (s:ak) (h:ac),s 0=lm a->s 1=I (n:Nat)->s 5=.rsl 11 none 1 0 (q+i)->s 6=W (iU a (n%32) i:Nat)->s 7=I i->
  h 11=.ar 1 (aB (aya q 0++oj a (n%32) i))->h 34=.dead->
  ai 0 [5,6] (ax (aj R (az false) xL) [0,1,5,6,7] [11,34] s h)=
   some (.normal,⟨upd (upd (fun _=>.any) 6 (W (iU a (n%32) a.length:Nat))) 5 (.rsl 11 none 1 0 (q+a.length)),upd (upd (fun _=>.dead) 34 .dead) 11 (.ar 1 (aB (aya q 0++oj a (n%32) a.length)))⟩):=by
 intro k;induction k with
 |zero=>
  intro i hi s h h0 g1 h5 h6 h7 hh hh2;have:i=a.length:=ω
  subst this;rw[ag];simp only[xL,go_sem,h0,g1,h5,h6,h7,hh,hh2,ay6]
 |succ k ih=>
  intro i hi s h h0 g1 h5 h6 h7 hh hh2;have ih':=ih (i+1) ω;have hx:=bO ha i;have hc:=GU ha (r:=n%32) i;have hp:2^ (n%32)<=2^31:=ayP ω ω;have hxp:a.getD i 0*2^ (n%32)<=4294967295*2^31:=Nat.mul_le_mul ω hp;have e1:((i:Int)< (a.length:Int))=True:=tt;have e2:aX (aB a) (i:Int)=some (.ipt [U (a.getD i 0:Nat)]):=bv rfl ω;have e3:IntKind.i64.wrap ((i:Int)+1)=((i+1:Nat):Int):=wi;have e4:IntKind.u64.wrap (a.getD i 0:Int)=(a.getD i 0:Int):=dK rfl ω;have e5:=Dq (n:=n) (m:=32) (j:=32) rfl rfl ω;have e5':IntKind.u64.wrap ((n%32:Nat):Int)=((n%32:Nat):Int):=dK rfl ω;have e6:=Fz (n:=a.getD i 0) (k:=n%32) (kk:=.u64) (j:=((n%32:Nat):Int)) rfl rfl ω ω;have e7:=Ny (m:=a.getD i 0*2^ (n%32)) (n:=iU a (n%32) i) rfl rfl ω ω;rw[Eu hc]at e7;have e10:=Ch (n:=a.getD i 0*2^ (n%32)+iU a (n%32) i) rfl ω;have e8:IntKind.u32.wrap (((a.getD i 0*2^ (n%32)+iU a (n%32) i) %4294967296:Nat):Int)=(((a.getD i 0*2^ (n%32)+iU a (n%32) i) %4294967296:Nat):Int):=Cb rfl ω;have e9:=qz (n:=a.getD i 0*2^ (n%32)+iU a (n%32) i) (k:=32) (kk:=.u64) (j:=32) rfl rfl ω;have f1:aB (aya q 0++oj a (n%32) i)++[[U ((a.getD i 0*2^ (n%32)+iU a (n%32) i) %4294967296:Nat)]]=aB (aya q 0++oj a (n%32) (i+1)):=by
   simp_all[U,iU,aB,Dg,ayX,oj,List.range_succ]
  have f2:(q+i=(aya q 0++oj a (n%32) i).length)=True:=tt (by simp[wm]);have f3:((q+i+1)*4<=140737488355328)=True:=tt;rw[ag];simp only[xL,go_sem,h0,g1,h5,h6,h7,hh,hh2,e1,e2,e3,e4,e5,e5',e6,e7,e8,e9,e10,f1,f2,f3,true_or,ayc,ayd];exact ih' _ _ rfl rfl rfl rfl rfl rfl rfl
theorem WS{a:List Nat}(ha:Lb a){n:Nat}(h1:a.length<=10000)(hn:n<=100000):R fcQ [lm a,I n] []=some (lm (av (ab a*2^n)),[]):=by
 refine au acp rfl ?_;have hc:=GU ha (r:=n%32) a.length;have hp:2^ (n%32)<=2^31:=ayP ω ω;have e1:=Dr (n:=n) (m:=32) (j:=32) rfl rfl ω ω;have e4:=rn (i:=((n/32:Nat):Int)) (j:=((n/32:Nat):Int)) rfl rfl (ayd _) ω;have e5:(n/32*4<=140737488355328)=True:=tt;have e6:=aeN ha (n:=n) (q:=n/32) ω ω a.length 0 ω;have e7:aB (aya (n/32) 0)=aB (aya (n/32) 0++oj a (n%32) 0):=by simp[oj]
 have e8:IntKind.u32.wrap ((iU a (n%32) a.length:Nat):Int)=((iU a (n%32) a.length:Nat):Int):=Cb rfl ω;have hall:=ZA ha n;have f1:aB (aya (n/32) 0++oj a (n%32) a.length)++[[U (iU a (n%32) a.length:Nat)]]=aB (dE (n/32+a.length+1) (ab a*2^n)):=by
  rw[←hall,show [[U (iU a (n%32) a.length:Nat)]]=aB [iU a (n%32) a.length]from rfl,Dg]
 have f2:(n/32+a.length=(aya (n/32) 0++oj a (n%32) a.length).length)=True:=tt (by simp[wm]);have f3:((n/32+a.length+1)*4<=140737488355328)=True:=tt;have ht:=EG (oM (n/32+a.length+1) (ab a*2^n)) γ;have hv:ab (dE (n/32+a.length+1) (ab a*2^n))=ab a*2^n:=by
  rw[lP,ayV];have h:=cI ha;have h2:2^n<=4294967296^ (n/32+1):=by
   rw[show(4294967296:Nat)=2^32 from rfl,←Nat.pow_mul];exact ayP ω ω
  rw[show n/32+a.length+1=a.length+(n/32+1)from by omega,ayn];exact Nat.mul_lt_mul_of_lt_of_le h h2 (Nat.pow_pos ω)
 rw[hv]at ht;have f4:(aB (dE (n/32+a.length+1) (ab a*2^n))).take (n/32+a.length+1)=aB (dE (n/32+a.length+1) (ab a*2^n)):=by
  rw[ayt];rw[QG,cT];omega
 simp only[F8,OJ,go_sem,e1,e4,e5,Ba,e7];rw[e6 _ _ rfl rfl rfl rfl rfl rfl rfl];simp only[go_sem,e8,f1,f2,f3,f4,true_or,ayc,ayd,cT,ht]
def FE(d:Nat)(out:List Nat)(x:AV)(o:Ob):Prop:=(out=[]/\x=.emp/\o=.dead)\/(0<out.length/\x=.rsl d none 1 0 out.length/\o=.ar 1 (aB out))
theorem Bl{d v:Nat}:FE d ([]++[v]) (.rsl d none 1 0 1) (.ar 1 [[U (v:Nat)]]):=Or.inr ⟨by simp,rfl,rfl⟩
theorem yp{d v:Nat}{out:List Nat}:FE d (out++[v]) (.rsl d none 1 0 (out.length+1)) (.ar 1 (aB (out++[v]))):=Or.inr ⟨by simp,by grind,rfl⟩
theorem vk(out:List Nat)(v:Nat):aB out++[[U (v:Nat)]]=aB (out++[v]):=by simp[aB]
theorem aeO(a:List Nat)(r i:Nat):nM a r (i+1)=nM a r i++[uW a r i]:=by simp[nM,List.range_succ]
theorem acP{a:List Nat}(ha:Lb a){n:Nat}(h1:a.length<=100000):∀ (k i:Nat),i+k=a.length->∀ (s:ak) (h:ac),s 0=lm a->s 1=I (n:Nat)->s 6=I i->FE 51 (nM a (n%32) i) (s 5) (h 51)->
  ∃x hh,ai 0 [5] (ax (aj R (az false) fE) [0,1,5,6] [51] s h)=some (.normal,⟨upd (fun _=>.any) 5 x,hh⟩)/\FE 51 (nM a (n%32) a.length) x (hh 51)/\∀a,a≠51->hh a=.dead:=by
 intro k;induction k with
 |zero=>
  intro i hi s h h0 g1 h6 hacc;have:i=a.length:=ω
  subst this;rw[ag];rcases hacc with⟨g2,h5,hh⟩| ⟨g2,h5,hh⟩
  ·refine⟨.emp,?hh0,?_,Or.inl ⟨g2,rfl,?_⟩,?_⟩;rotate_left
   ·simp only[fE,go_sem,h0,g1,h5,h6,hh,ay6];rfl
   all_goals simp_all[cV,if_false]
  ·refine⟨.rsl 51 none 1 0 (nM a (n%32) a.length).length,?hh1,?_,Or.inr ⟨g2,rfl,?_⟩,?_⟩;rotate_left
   ·simp only[fE,go_sem,h0,g1,h5,h6,hh,ay6];rfl
   all_goals simp_all[cV,if_false]
 |succ k ih=>
  intro i hi s h h0 g1 h6 hacc;have ih':=ih (i+1) ω;have hx:=bO ha i;have hy:=bO ha (i+1);have hr:n%32<32:=ayI _ ω;have e1:((i:Int)< (a.length:Int))=True:=tt;have e2:aX (aB a) (i:Int)=some (.ipt [U (a.getD i 0:Nat)]):=bv rfl ω;have e3:IntKind.i64.wrap ((i:Int)+1)=((i+1:Nat):Int):=wi;have e4:IntKind.u64.wrap (a.getD i 0:Int)=(a.getD i 0:Int):=dK rfl ω;have e5:=Dq (n:=n) (m:=32) (j:=32) rfl rfl ω;have e5':IntKind.u64.wrap ((n%32:Nat):Int)=((n%32:Nat):Int):=dK rfl ω;have q1:((nM a (n%32) i).length+1)*4<=140737488355328:=by grind[xx]
  have f3:=tt q1;have hlt:∀w:Nat,w<18446744073709551616->w/2^ (n%32)<18446744073709551616:=fun w hw=>ayS (Nat.div_le_self _ _) hw;rw[ag];rw[aeO]at ih';generalize ax _ _ _=L at ih'⊢;by_cases hl:i+1<a.length
  ·have f1:(((i+1:Nat):Int)< (a.length:Int))=True:=tt;have f2:aX (aB a) ((i+1:Nat):Int)=some (.ipt [U (a.getD (i+1) 0:Nat)]):=bv rfl hl;have f5:IntKind.u64.wrap (a.getD (i+1) 0:Int)=(a.getD (i+1) 0:Int):=dK rfl ω;have f6:=Fz (n:=a.getD (i+1) 0) (k:=32) (kk:=.u64) (j:=32) rfl rfl ω ω;have f7:=Ny (m:=a.getD i 0) (n:=a.getD (i+1) 0*2^32) rfl rfl ω ω;rw[Nat.or_comm,Eu hx,show a.getD (i+1) 0*2^32+a.getD i 0=a.getD i 0+4294967296*a.getD (i+1) 0 by omega]at f7;have f8:=qz (n:=a.getD i 0+4294967296*a.getD (i+1) 0) (k:=n%32) (kk:=.u64) (j:=((n%32:Nat):Int)) rfl rfl ω;have f9:=Ch (n:=(a.getD i 0+4294967296*a.getD (i+1) 0)/2^ (n%32)) rfl (hlt _ ω);rw[show(a.getD i 0+4294967296*a.getD (i+1) 0)/2^ (n%32) %4294967296=uW a (n%32) i from rfl]at f9;have f10:IntKind.u32.wrap ((uW a (n%32) i:Nat):Int)=((uW a (n%32) i:Nat):Int):=Cb rfl (ayI _ ω);rcases hacc with⟨g2,h5,hh⟩| ⟨g2,h5,hh⟩
   ·simp only[fE,go_sem,h0,g1,h5,h6,hh,e1,e2,e3,e4,e5,e5',f1,f2,f5,f6,f7,f8,f9,f10];rw[g2]at ih';exact ih' _ _ rfl rfl rfl Bl
   ·simp only[fE,go_sem,h0,g1,h5,h6,hh,e1,e2,e3,e4,e5,e5',f1,f2,f3,f5,f6,f7,f8,f9,f10,true_or,ayc,ayd,vk];exact ih' _ _ rfl rfl rfl yp
  ·have f1:(((i+1:Nat):Int)< (a.length:Int))=False:=ff;have hz:a.getD (i+1) 0=0:=by
    grind
   have f8:=qz (n:=a.getD i 0) (k:=n%32) (kk:=.u64) (j:=((n%32:Nat):Int)) rfl rfl ω;have f9:=Ch (n:=a.getD i 0/2^ (n%32)) rfl (hlt _ ω);rw[show a.getD i 0/2^ (n%32) %4294967296=uW a (n%32) i by simp_all[uW,Nat.mul_zero,ayF]]at f9;have f10:IntKind.u32.wrap ((uW a (n%32) i:Nat):Int)=((uW a (n%32) i:Nat):Int):=Cb rfl (ayI _ ω);rcases hacc with⟨g2,h5,hh⟩| ⟨g2,h5,hh⟩
   ·simp only[fE,go_sem,h0,g1,h5,h6,hh,e1,e2,e3,e4,e5,e5',f1,f8,f9,f10];rw[g2]at ih';exact ih' _ _ rfl rfl rfl Bl
   ·simp only[fE,go_sem,h0,g1,h5,h6,hh,e1,e2,e3,e4,e5,e5',f1,f3,f8,f9,f10,true_or,ayc,ayd,vk];exact ih' _ _ rfl rfl rfl yp
theorem NH(m:List Nat):(aB m).take m.length=aB m:=by
 simp_all[ayt,QG,ayd]
theorem aeP{a:List Nat}(ha:Lb a){n:Nat}(h1:a.length<=10000)(hn:n<=1000000):R fcT [lm a,I n] []=some (lm (av (ab a/2^n)),[]):=by
 refine au YS rfl ?_;have e1:=Dr (n:=n) (m:=32) (j:=32) rfl rfl ω ω;by_cases hq:a.length<=n/32
 ·have e2:((a.length:Int)<=((n/32:Nat):Int))=True:=tt;have hz:ab a/2^n=0:=by
   rw[←yE n,←Nat.div_div_eq_div_mul,←yk ha,List.drop_of_length_le hq];exact Nat.zero_div _
  rw[hz,ft];simp only[zK,F7,go_sem,e1,e2]
 ·have e2:((a.length:Int)<=((n/32:Nat):Int))=False:=ff;have e3:eA 1 (lm a) (some (I (n/32:Nat))) none none=some (lm (a.drop (n/32))):=by
   rw[J2 (a:=n/32) (b:=a.length) (uU rfl ω) rfl (ayd _),ayt γ]
  have hd:=mV ha (n/32);have hl:(a.drop (n/32)).length<=10000:=γ
  have hv:ab a/2^n=ab (a.drop (n/32))/2^ (n%32):=by
   rw[yk ha,Nat.div_div_eq_div_mul,yE]
  rw[hv];have hr:=acP hd (n:=n) ω (a.drop (n/32)).length 0 (ayc _);have hall:=Wu hd (r:=n%32) ω;have hL:=xx (a.drop (n/32)) (n%32) (a.drop (n/32)).length;have hLb:Lb (nM (a.drop (n/32)) (n%32) (a.drop (n/32)).length):=by
   grind[oM]
  have hvv:ab (nM (a.drop (n/32)) (n%32) (a.drop (n/32)).length)=ab (a.drop (n/32))/2^ (n%32):=by
   rw[hall,lP,ayV];exact ayS (Nat.div_le_self _ _) (cI hd)
  generalize a.drop (n/32)=m at e3 hd hl hr hall hL hLb hvv⊢;have ht:=EG hLb ω;rw[hvv]at ht;have q0:FE 51 (nM m (n%32) 0) .emp .dead:=Or.inl ⟨rfl,rfl,rfl⟩;generalize hLL:ax (aj R (az false) fE) [0,1,5,6] [51]=L at hr;have hX:∀s h,aj R (az false) (.loop [0,1,5,6] [51] fE) s h=L s h:=fun s h=>by rw[←hLL];rfl
  generalize nM m (n%32) m.length=out at hr hall hL hLb hvv ht;have hr2:∀ (S:ak) (H:ac) (X:Option (Ex×St)),ai 0 [5] (L S H)=X->S 0=lm m->S 1=I n->S 6=I 0->S 5=.emp->H 51=.dead->∃x hh,X=some (.normal,⟨upd (fun _=>.any) 5 x,hh⟩)/\FE 51 out x (hh 51)/\∀a,a≠51->hh a=.dead:=fun S H X hX a0 a1 a6 a5 b=>by
   rw[←hX];exact hr S H a0 a1 a6 γ
  simp only[zK,F7,hX,go_sem,e1,e2,e3];generalize hB:ai 0 [5] (L _ _)=X;obtain⟨x,hh,g0,hacc,gd⟩:=hr2 _ _ _ hB rfl rfl rfl rfl rfl;rw[g0];rcases hacc with⟨c1,c2,c3⟩| ⟨c1,c2,c3⟩
  ·rw[c1]at ht;simp only[go_sem,c2,ht,ne_eq,not_false_eq_true,gd]
  ·simp only[go_sem,c2,c3,ht,ne_eq,not_false_eq_true,gd,NH,ayc,ayd]
end Go.Ab
