/-
  A law of tapes on models holds at every input that the statement speaks of, under the conditions that its card names. Part D1.
-/
import Derived.IntWalk
import Derived.Test.YtjjejmhekjbmbaaGreatDoorC1
open Nat renaming add_mul → aBG, add_zero → aBR, div_add_mod → aCb, le_refl → aBh, le_trans → aBq, lt_of_le_of_lt → aBU, lt_of_lt_of_le → aCf, min_eq_left → aCc, mod_eq_of_lt → aB8, mod_lt → aBW, mul_assoc → aBH, mul_comm → aBD, mul_le_mul_left → aCg, mul_le_mul_right → aBv, pow_add → aBx, pow_le_pow_right → aB4, pow_succ → aB6, reduceMod → aBY, reduceSub → aBP, two_pow_pos → aBA, zero_add → aBi, zero_le → aBB
open Int renaming eq_ofNat_of_zero_le → aCj, lt_irrefl → aCh, natCast_zero → aBV, reduceEq → aBo, reduceLE → aBn, reduceLT → aBm, reduceToNat → aBL, toNat_natCast → aBr
open Bool renaming and_eq_true → aBk, false_and → aBy, false_eq_true → aCa, false_ne_true → aBu, true_and → aBt
open List renaming all_cons → aBO, append_assoc → aCd, append_nil → aBz, cons_append → aBF, drop_eq_getElem_cons → aBJ, drop_eq_nil_of_le → aBQ, getElem?_eq_getElem → aBp, getElem_mem → aBT, length_cons → aB0, length_nil → aB1, length_replicate → aCk, length_take → aBN, map_congr_left → aBK, map_id' → aB2, mem_map → aB7, mem_of_getElem? → aBs, nil_append → aBw, replicate → aBg, take_of_length_le → aBE
open Option renaming bind_some → aBl, map_some → aBZ
set_option linter.all false
namespace Go.Ab
open Go Go.IntWalk
set_option maxRecDepth 4000
set_option maxHeartbeats 2000000
theorem Z{α:Sort _}{a:α}:a=a:=rfl
variable{M N m n x:Nat}{e f j p:Int}
def aK(m:List Nat):List (List AV):=m.map fun(x:Nat)=>[U x]
def lm(m:List Nat):AV:=.sl 1 (aK m)
theorem BS(m):(aK m).length=m.length:=by simp[aK]
theorem FE(l:List (List AV)):l.map (eP [])=l:=(aBK (g:=fun c=>c) fun c _=>WT c).trans (aB2 _)
theorem av0(hs m):iS hs (lm m)=lm m:=θ _
theorem aue(hs m):knownL hs (lm m)=true:=θ _
theorem ar5(hs m):kX hs (lm m)=true:=θ _
theorem aAs(ks m):vP ks (lm m)=lm m:=θ _
theorem ayD(ks m):tO ks (lm m)=false:=θ _
theorem ayE(ks m):GZ ks (lm m)=false:=θ _
theorem aAt(m):sj false (lm m)=some (I m.length):=by simp[lm,sj,aK]
theorem ayF(m k i):zf 1 (lm m) (.v (.int k i))=dX (aK m) i:=by simp[lm,zf]
theorem alB(k ss m):nrmV (.o (k+1) []::ss) (lm m)=lm m:=by simp[lm,nrmV,nrmL,FE]
theorem av1(k cs ss m):nrmV (.o (k+1) [.o 0 cs]::ss) (lm m)=lm m:=by
 simp[aK,eP,aBK,aB2,nrmL,lm,nrmV]
theorem ayG(k m):nrmL (.o (k+1) []) (lm m)=lm m:=by simp[lm,nrmL,FE]
theorem ayH(h m):tZ h (lm m)=some (lm m):=θ _
theorem av2(h m l):oH h (lm m::l)=(oH h l).bind fun q=>some (lm m::q):=θ _
theorem ayI(m):cH (lm m)=[]:=θ _
theorem ayJ(m):gN (lm m)=[]:=θ _
theorem aAu(m):dat (lm m)=true:=θ _
theorem ayK(m):aH (lm m)=true:=θ _
theorem av3(m):bH (lm m)=false:=θ _
theorem av4(m):jK (lm m)=some [lm m]:=θ _
theorem ayL(h m):gZ h (lm m)=some (lm m,h,[]):=θ _
theorem av5(h m):dV h 0 (lm m)=some (lm m,h,[]):=θ _
theorem av6(id p m):C6 id p (lm m)=lm m:=θ _
theorem av7(h d m):m9 h d (some (lm m,[]))=if cj h (2000+8*d) 1=true then some (lm m,h,[])else none:=aiv h d 1 (aK m)
theorem aAv(m):AV.sl 1 (aK m)=lm m:=θ _
theorem av8(p)(a):lR (List.filter p [a])=true:=by
 simp only[List.filter];split<;>rfl
theorem alC(m):(aK m).length=m.length:=by simp[aK]
theorem aoJ:AV.sl 1 []=lm []:=θ _
theorem auf(cs ss):nrmV (.o 2 cs::ss) .emp=lm []:=by simp[nrmV,nrmL,lm,aK]
theorem aug(cs):nrmL (.o 2 cs) .emp=lm []:=by simp[nrmL,lm,aK]
theorem ayM(k ss m):nrmV (.o (k+1) []::ss) (.sl 1 (aK m))=lm m:=alB k ss m
theorem av9(k ss m):nrmV (.o (k+1) []::ss) (.osl 1 (aK m))=lm m:=by simp[lm,nrmV,nrmL,FE]
theorem dj{m}{i:Int}(hi:i=n)(h:n<m.length):dX (aK m) i=some (.ipt [U (m.getD n 0)]):=by
 grind[dX,aK]
theorem mu{m}{n}(h:n<m.length):(aK m)[n]?=some [U (m.getD n 0)]:=by
 grind[aK]
theorem XJ(m)(n):(aK m).take n=aK (m.take n):=by simp[aK,List.map_take]
theorem aiC(m)(n):(aK m).drop n=aK (m.drop n):=by simp[aK,List.map_drop]
theorem Qm(m l):aK m++aK l=aK (m++l):=by simp[aK]
theorem qF(m)(n x):(aK m).set n [U (x:Nat)]=aK (m.set n x):=by simp[aK,List.map_set]
theorem EG(n):aBg n [AV.v (.int .u32 0)]=aK (aBg n 0):=by simp[aK]
theorem K0{m}{lo hi}{a b}(hlo:lQ 0 b lo=some a)(hhi:lQ m.length m.length hi=some b)(_hb:b<=m.length):fm 1 (lm m) lo hi none=some (lm ((m.drop a).take (b-a))):=by
 simp_all[lm,fm,me,BS,if_true,aBl,aBZ,Kg,aCa,if_false,XJ,aiC]
theorem Ou(d n):lQ d n none=some d:=θ _
theorem wS{d n}{k}{i:Int}{a:Nat}(hi:i=a)(h:a<=n):lQ d n (some (.v (.int k i)))=some a:=by
 grind[lQ]
theorem XK{f}{fd}{args}{r}(hE:cQ.E f=none)(hC:cQ.C f=some fd)(hk:cQ.md.keep f=false)(h1:args.length=fd.np)
  (hz:lI false fd.rs fd.res 0 (ap R (aC false) fd.body (vH args) (fun _=>.dead))=some r):R f args []=some r:=by
 simp_all[KV,aBB,adj]
theorem az{f:FuncId}{l:List (List Sh)}{fd:FD}{args:List AV}{r:AV×List Ob}(q:QE f l fd)(h1:args.length=fd.np)
  (hz:lI false fd.rs fd.res 0 (ap R (aC false) fd.body (vH args) (fun _=>.dead))=some r):R f args []=some r:=XK q.2.1 q.2.2 (q.1.2.2.2 false) h1 hz
noncomputable def sW (k:Nat) (g:Bool):Cmd:=.seq (.ops [0,1,7,8,9] [co 9 (.bin .lss (.t 8) (.t 7))]) (.seq (.cond (.t 9) (.skip) (.exit 0)) (.seq (.block 1 [0,1,7,8] (.seq (.ops [0,1,5,7,8] [cm 10 8,cm 5 10]) (.seq (.ops [0,1,5,7,8,16] [cm 11 1,cm 12 0,cm 13 5,co 14 (.iadrS k (.t 12) (.t 13)),⟨(some 15),none,.load k g (.t 14)⟩,⟨(some 16),none,.call (.t 11) [(.t 15)]⟩]) (.cond (.t 16) (.seq (.ops [4] [cm 17 5,cm 4 17]) (.ret)) (.skip))))) (.ops [0,1,7,8] [co 18 (.bin .add (.t 8) (.c (I 1))),cm 8 18])))
noncomputable def vD:Cmd:=.seq (.ops [4] [co 4 (.mv (.c (.v (.int .i64 (-1)))))]) (.ret)
def BT{α:Type}(p:α->Bool):List α->Nat->Int
 |[],_=>-1
 |r::rs,n=>if p r=true then n else BT p rs (n+1)
theorem Ov{α}(p):∀ (l:List α) n,decide (0<=BT p l n)=l.any p
 |[],n=>rfl
 |r::rs,n=>by
  simp only[BT,List.any_cons];by_cases h:p r=true
  ·simp[h]
  ·simp[h,Ov p rs (n+1)]
attribute [go_sem] FE av0 aue ar5 aAs ayD ayE aAt ayF alB av1 ayG ayH av2 ayI ayJ aAu ayK av3 av4 ayL av5 av6 av7 aAv av8 alC aoJ auf aug ayM av9
theorem aiD{k}{g}{f}{rows}{p}{hs}(hhs:hs=[]\/hs=[1000])(hm:(aC false).m f=[])(hl:rows.length<4611686018427387904)
  (hf:∀row∈rows,∃a,mF k g row 0=some a/\dat a=true/\R f (bv ((aC false).sh f) [a]) []=some (B (p row),[])):∀rest (n:Nat),rows.drop n=rest->n<=rows.length->
  ∀s h,s 0=.sl k rows->s 1=.fn f [] []->s 7=I rows.length->s 8=I n->h 1000=.dead->
   ∃hh,dD (ao 0 [] (aD (ap R (aC false) (sW k g)) [0,1,7,8] hs s h)) (ap R (aC false) vD)=some (.ret,⟨upd cr 4 (I (BT p rest n)),hh⟩):=by
 intro rest;induction rest with
 |nil=>
  intro n hd hn s h h0 h1 h7 h8 h9;have e:n=rows.length:=by
   have:=congrArg List.length hd;grind
  subst e;rw[ai];rcases hhs with rfl|rfl<;>exact⟨_,by simp only[sW,vD,go_sem,h0,h1,h7,h8,h9,aCh,BT];rfl⟩
 |cons r rest ih=>
  intro n hd hn s h h0 h1 h7 h8 h9;have hlt:n<rows.length:=by
   grind
  have hr:rows[n]?=some r:=by
   have:=congrArg (·[0]?) hd;grind
  obtain⟨a,ha,hda,hc⟩:=hf r (aBs hr);have ih':=ih (n+1) (by rw[←List.drop_drop,hd];rfl) hlt;have e1:(n< (rows.length:Int))=True:=eq_true ω;have e2:dX rows n=some (.ipt r):=by grind[dX]
  have e3:aS (n+1)=(n+1):=by grind[i64_in]
  rw[ai];generalize aD _ _ _=L at ih'⊢;rcases hhs with rfl|rfl
  all_goals
   simp only[sW,go_sem,h0,h1,h7,h8,h9,e1,e2,ha,Ds _ hm,hda,hc,BT];cases hp:p r with
   |true=>exact⟨_,by simp only[go_sem];rfl⟩
   |false=>
    simp only[go_sem,e3,aBu];apply ih'<;>rfl
theorem XL{fi}{fd}{k}{g}{hs}(hE:cQ.E fi=none)(hC:cQ.C fi=some fd)(hk:cQ.md.keep fi=false)
  (hfd:fd=⟨2,[[]],[.t 4],.seq (.ops [0,1] [co 4 (.mv (.c (I 0)))]) (.seq (.seq (.ops [0,1,7,8] [cm 6 0,co 7 (.len false (.t 6)),co 8 (.mv (.c (I 0)))]) (.block 0 [] (.loop [0,1,7,8] hs (sW k g)))) vD)⟩)
  {f} {rows} {p} (hm:(aC false).m f=[]) (hl:rows.length<4611686018427387904)
  (hf:∀row∈rows,∃a,mF k g row 0=some a/\dat a=true/\R f (bv ((aC false).sh f) [a]) []=some (B (p row),[])) (hhs:hs=[]\/hs=[1000]:=by simp):R fi [.sl k rows,.fn f [] []] []=some (I (BT p rows 0),[]):=by
 subst hfd;refine XK hE hC hk rfl ?_;have hL:=aiD (k:=k) (g:=g) hhs hm hl hf rows 0 rfl (aBB _);simp only[go_sem,akG];have hL2:∀S H X,dD (ao 0 [] (aD (ap R (aC false) (sW k g)) [0,1,7,8] hs S H)) (ap R (aC false) vD)=X->S 0=.sl k rows->S 1=.fn f [] []->S 7=I rows.length->S 8=I 0->H 1000=.dead->
   ∃hh,X=some (.ret,⟨upd cr 4 (I (BT p rows 0)),hh⟩):=fun S H X hX a b c d e=>by
  rw[←hX];exact hL S H a b c d e
 generalize hX:dD (ao 0 [] (aD _ _ hs _ _)) (ap R (aC false) vD)=X;obtain⟨hh,e⟩:=hL2 _ _ _ hX Z Z Z Z Z;rw[e];simp only[go_sem]
noncomputable def Qn (fi:FuncId):FD:=⟨2,[[]],[.t 4],.seq (.ops [0,1] [co 4 (.mv (.c (B false)))]) (.seq (.ops [4] [cm 5 0,cm 6 1,⟨(some 7),none,.call (.c (.fn fi [] [])) [(.t 5),(.t 6)]⟩,co 8 (.bin .geq (.t 7) (.c (I 0))),cm 4 8]) (.ret))⟩
theorem SA{ci fi}{fd}{k}(hE:cQ.E ci=none)(hC:cQ.C ci=some fd)(hk:cQ.md.keep ci=false)(hfd:fd=Qn fi)(hm:(aC false).m fi=[]){cs}(hsh:(aC false).sh fi=[[.o (k+1) cs],[]])
  {rows} {f} {p} (hr:rows.map (eP cs)=rows) (h:R fi [.sl k rows,.fn f [] []] []=some (I (BT p rows 0),[])):R ci [.sl k rows,.fn f [] []] []=some (B (rows.any p),[]):=by
 subst hfd;refine XK hE hC hk rfl ?_;simp only[Qn,go_sem,Ds _ hm,hsh,hr,h,ait,Ov]
theorem ip{i:Int}(h:i=n)(hn:n<18446744073709551616):IntKind.u64.wrap i=n:=by rw[u64_in]<;>omega
theorem K1{i:Int}(h:i=n)(hn:n<4294967296):IntKind.u32.wrap i=n:=by rw[u32_in]<;>omega
theorem wi{i:Int}(h:i=n:=by omega)(hn:n<9223372036854775808:=by omega):IntKind.i64.wrap i=n:=by rw[i64_in]<;>omega
theorem Ja{i:Int}(h:i=n):IntKind.u32.wrap i=(n%4294967296:Nat):=by grind[IntKind.wrap_u32]
theorem yb{i:Int}{k:Nat}{kk}(h:i=n)(hj:j=k)(hk:k<=64):eN .shr (.v (.int .u64 i)) (.v (.int kk j))=some (.v (.int .u64 (n/2^k:Nat))):=by
 simp_all[Hw,ax,IntKind.bits,Option.some.injEq,AV.v.injEq,Value.int.injEq,true_and,Int.fdiv_eq_ediv_of_nonneg,Int.pow_nonneg]
theorem Ow{y c:Nat}(hx:x<4294967296)(hy:y<4294967296)(hc:c<=1):R 269 [U x,U y,U c] []=some (.tup [U (((x+y+c) %4294967296:Nat)),U (((x+y+c)/4294967296:Nat))],[]):=by
 refine az XF rfl ?_;have e1:IntKind.u64.wrap x=x:=ip rfl ω;have e2:IntKind.u64.wrap y=y:=ip rfl ω;have e3:IntKind.u64.wrap c=c:=ip rfl ω;have e4:IntKind.u64.wrap (x+y)=(x+y:Nat):=ip ω ω;have e5:IntKind.u64.wrap ((x+y:Nat)+c)=(x+y+c:Nat):=ip ω ω;have e6:IntKind.u32.wrap (x+y+c:Nat)=((x+y+c) %4294967296:Nat):=Ja rfl;have e7:=yb (n:=x+y+c) (k:=32) (kk:=.u64) (j:=32) Z Z ω;have e8:IntKind.u32.wrap ((x+y+c)/2^32:Nat)=((x+y+c)/4294967296:Nat):=K1 rfl ω;simp only[DZ,go_sem,e1,e2,e3,e4,e5,e6,e7,e8]
theorem alD{k}{n}(h:n≠0):Kg (some (.v (.int k n)))=false:=by
 simp_all[Kg,absurd]
theorem alE{m}(h:m.length≠0):fm 1 (lm m) none (some (I m.length)) (some (I m.length))=some (lm m):=by
 have hz:Kg (some (I m.length))=false:=alD ω;have h1:lQ m.length m.length (some (I m.length))=some m.length:=wS rfl (aBh _)
 simp_all[fm,lm,BS,me,Ou,if_true,aBl,aBZ,aCa,if_false,List.drop_zero,Nat.sub_zero,XJ,List.take_length]
theorem SB(m):R 168 [lm m] []=some (lm m,[]):=by
 refine az CB rfl ?_;by_cases h:m.length=0
 ·have:=List.length_eq_zero_iff.1 h;subst this;rfl
 ·simp only[lJ,go_sem,alE h]
theorem Uf(m)(h2:m.length<4611686018427387904):∀ (n:Nat),n<=m.length->∀s h,s 0=lm m->s 3=I n->
  ao 0 [0,3] (aD (ap R (aC false) nX) [0,3] [] s h)=some (.normal,⟨upd (upd cr 3 (I (oZ m n))) 0 (lm m),fun _=>.dead⟩):=by
 intro n;induction n with
 |zero=>
  intro h1 s h h3 h4;rw[ai];simp only[nX,go_sem,h3,h4,oZ,aBV,aCh]
 |succ n ih=>
  intro h1 s h h3 h4;have hn:=h1;have e3:aS (n+1-1)=n:=wi ω ω;have e1:=dj rfl hn;have e2:(0< (n:Int)+1)=True:=eq_true ω;have ih':=ih ω;rw[ai];by_cases hz:m.getD n 0=0
  ·simp only[nX,go_sem,h3,h4,oZ,Int.natCast_add,Int.natCast_one,e3,e1,e2,hz,aBV];exact ih' _ _ Z Z
  ·simp only[nX,go_sem,h3,h4,oZ,Int.natCast_add,Int.natCast_one,e3,e1,e2,hz,Int.natCast_eq_zero]
theorem dU{m}(hb:Lb m)(h:m.length<4611686018427387904):R 196 [lm m] []=some (lm (aA (ab m)),[]):=by
 refine az So rfl ?_;have h1:fm 1 (lm m) none (some (I (oZ m m.length))) none=some (lm (aA (ab m))):=by
  rw[K0 (a:=0) (b:=oZ m m.length) rfl (wS rfl (Ft _ _)) (Ft _ _),List.drop_zero,Nat.sub_zero,NZ hb]
 simp only[BF,HD,go_sem,Uf m h m.length (aBh _),h1]
def llm(l:List (List Nat)):AV:=.sl 1 (l.map fun m=>[lm m])
theorem alF(l:List (List Nat))(cs):(l.map fun m=>[lm m]).map (eP [.o 2 cs])=l.map fun m=>[nrmL (.o 2 cs) (lm m)]:=by
 simp[List.map_map,eP]
theorem afp(m):R 247 [lm m] []=some (B (decide (256<m.length)),[]):=by
 refine az FC rfl ?_;have e:decide (256< (m.length:Int))=decide (256<m.length):=γ
 simp only[yO,go_sem,e]
theorem aaG{l}(hl:l.length<4611686018427387904):R 214 [llm l] []=some (B (l.any fun m=>decide (256<m.length)),[]):=by
 refine az Sv rfl ?_
 let p:List AV->Bool:=fun row=>match row with|[.sl _ rows]=>decide (256<rows.length)|_=>false
 have hp:∀m,p [lm m]=decide (256<m.length):=fun m=>by grind[lm,BS]
 have hn:(l.map fun m=>[lm m]).map (eP [.o 2 []])=l.map fun m=>[lm m]:=by
  rw[alF];simp only[go_sem]
 have h1:=XL (k:=1) (g:=false) (f:=247) (rows:=l.map fun m=>[lm m]) (p:=p) dE.2.1 dE.2.2 (dE.1.2.2.2 false) rfl (FC.1.2.1 false) γ (fun row hr=>by
  simp only[aB7]at hr;obtain⟨m,hm,rfl⟩:=hr;refine⟨lm m,rfl,rfl,?_⟩;simp only[go_sem,afp,hp])
 have h2:=SA (k:=1) eu.2.1 eu.2.2 (eu.1.2.2.2 false) rfl (dE.1.2.1 false) (dE.1.1 false) hn h1;have h3:(l.map fun m=>[lm m]).any p=l.any fun m=>decide (256<m.length):=by
  rw[List.any_map];congr 1;funext m
  simp_all
 rw[h3]at h2;simp only[BI,llm,go_sem,Ds _ (eu.1.2.1 false),hn,h2]
theorem tt{p}(h:p:=by omega):p=True:=eq_true h
theorem ff{p}(h:¬p:=by omega):p=False:=eq_false h
theorem uz(a):R 214 [.sl 1 [[lm a]]] []=some (B (decide (256<a.length)),[]):=by
 have:=aaG (l:=[a]) σ;grind[llm]
theorem wT(a b):R 214 [.sl 1 [[lm a],[lm b]]] []=some (B (decide (256<a.length)||decide (256<b.length)),[]):=by
 have:=aaG (l:=[a,b]) σ;grind[llm]
def mI(n:Nat):AV:=if 256< (aA n).length then .tup [lm [],I 9]else .tup [lm (aA n),I 0]
theorem HS{m}(hb:Lb m)(h:m.length<4611686018427387904):R 215 [lm m] []=some (mI (ab m),[]):=by
 refine az Sw rfl ?_;by_cases hl:256< (aA (ab m)).length
 ·simp only[wk,mI,go_sem,dU hb h,uz,hl]
 ·simp only[wk,mI,go_sem,dU hb h,uz,hl,SB]
theorem J1{a:List Nat}{i}(h:i<a.length):ab (a.take (i+1))=ab (a.take i)+4294967296^i*a.getD i 0:=by
 grind[List.take_add_one,fM,aBN,aCc,ab]
theorem aac{a:List Nat}{i}(h:a.length<=i):ab (a.take (i+1))=ab (a.take i)+4294967296^i*a.getD i 0:=by
 grind[aBE]
theorem iK(a:List Nat)(i):ab (a.take (i+1))=ab (a.take i)+4294967296^i*a.getD i 0:=by
 grind[J1,aac]
def lmb(n i:Nat):Nat:=n/4294967296^i%4294967296
theorem aiE{k n i}(h:i<k):(fw k n)[i]?=some (lmb n i):=by
 induction k generalizing n i with
 |zero=>omega
 |succ k ih=>
  cases i with
  |zero=>simp[fw,lmb]
  |succ i=>
   grind[fw,lmb,aB6,aBD,Nat.div_div_eq_div_mul]
theorem XM{k n}{l}(hl:l.length=k)(h:∀i,i<k->l.getD i 0=lmb n i):l=fw k n:=by
 refine List.ext_getElem? fun i=>?_;rcases Nat.lt_or_ge i k with hi|hi
 ·simp_all[aiE,congrArg]
 grind[dO]
def kP(a b:List Nat):Nat->Nat
 |0=>0
 |i+1=>(a.getD i 0+b.getD i 0+kP a b i)/4294967296
def SC(a b:List Nat)(i:Nat):Nat:=(a.getD i 0+b.getD i 0+kP a b i) %4294967296
theorem K2{a b}(ha:Lb a)(hb:Lb b):∀i,kP a b i<=1
 |0=>by simp[kP]
 |i+1=>by
  have h1:=cX ha i;have h2:=cX hb i;have h3:=K2 ha hb i;simp only[kP];omega
def fV(a b:List Nat)(i:Nat):List Nat:=(List.range i).map (SC a b)
theorem FF(f)(i):ab ((List.range (i+1)).map f)=ab ((List.range i).map f)+4294967296^i*f i:=by
 rw[List.range_succ,List.map_append,fM];simp[ab]
theorem Ox(a b):∀i,ab (fV a b i)+4294967296^i*kP a b i=ab (a.take i)+ab (b.take i)
 |0=>by simp[fV,kP,ab]
 |i+1=>by
  have ih:=Ox a b i;rw[iK a i,iK b i];simp only[fV]at ih⊢;rw[FF,aB6];have e:kP a b (i+1)*4294967296+SC a b i=a.getD i 0+b.getD i 0+kP a b i:=by
   grind[kP,SC]
  grind
theorem rG(a b)(i):(fV a b i).length=i:=by simp[fV]
theorem aaI(a b)(i):Lb (fV a b i):=fun x hx=>by
 simp only[fV,aB7]at hx;obtain⟨j,_,rfl⟩:=hx;simp only[SC];omega
theorem aiF{a b}(ha:Lb a)(hb:Lb b)(hl:b.length<=a.length):fV a b a.length++[kP a b a.length]=fw (a.length+1) (ab a+ab b):=by
 have h:=Ox a b a.length;rw[List.take_length,aBE hl]at h;have h1:Lb (fV a b a.length++[kP a b a.length]):=tG.2 ⟨aaI _ _ _,lk.2 ⟨by grind[K2],P0⟩⟩;have h2:ab (fV a b a.length++[kP a b a.length])=ab a+ab b:=by
  grind[fM,rG,ab]
 have:=IX h1;grind[rG]
theorem XN{α:Type}(l)(n)(x z:α)(h:0<n):(l++aBg n z).set l.length x=(l++[x])++aBg (n-1) z:=by
 obtain⟨n,rfl⟩:∃m,n=m+1:=⟨n-1,by omega⟩;grind
theorem aiG{a b}(ha:Lb a)(hb:Lb b)(_hl:b.length<=a.length)(h2:a.length<4611686018427387904):∀k i,i+k=a.length->∀s h,s 0=lm a->s 1=lm b->s 5=.rsl 20 none 1 0 (a.length+1)->s 6=U (kP a b i)->
  s 21=lm a->s 22=I a.length->s 23=I i->h 20=.ar 1 (aK (fV a b i++aBg (k+1) 0))->
  ao 0 [0,5,6] (aD (ap R (aC false) mr) [0,1,5,6,21,22,23] [20] s h)=
   some (.normal,⟨upd (upd (upd cr 6 (U (kP a b a.length))) 5 (.rsl 20 none 1 0 (a.length+1))) 0 (lm a),upd (fun _=>.dead) 20 (.ar 1 (aK (fV a b a.length++[0])))⟩):=by
 intro k;induction k with
 |zero=>
  intro i hi s h h0 h1 h5 h6 h21 h22 h23 hh;have:i=a.length:=ω
  subst this;rw[ai];simp only[mr,go_sem,h0,h1,h5,h6,h21,h22,h23,hh,aCh,List.contains_cons,BEq.rfl,Bool.true_or]
 |succ k ih=>
  intro i hi s h h0 h1 h5 h6 h21 h22 h23 hh;have ih':=ih (i+1) ω;have e1:((i:Int)< (a.length:Int))=True:=tt ω;have e2:dX (aK a) (i:Int)=some (.ipt [U (a.getD i 0:Nat)]):=dj rfl ω;have e3:aS ((i:Int)+1)=((i+1:Nat):Int):=wi ω ω;have e4:(0<=(i:Int))=True:=tt ω;have e5:((i:Int)< ((a.length+1:Nat):Int))=True:=tt ω;have e6:=Ow (cX ha i) (cX hb i) (K2 ha hb i);have e7:(aK (fV a b i++aBg (k+1+1) 0))[i]?=some [U (0:Nat)]:=by
   grind[mu,rG]
  have e8:(aK (fV a b i++aBg (k+1+1) 0)).set i [U ((a.getD i 0+b.getD i 0+kP a b i) %4294967296:Nat)]=aK (fV a b (i+1)++aBg (k+1) 0):=by
   rw[qF];grind[kP,SC,fV,List.range_succ]
  rw[ai];by_cases hb':i<b.length
  ·have e9:((i:Int)< (b.length:Int))=True:=tt ω;have e10:=dj rfl hb';simp only[mr,go_sem,h0,h1,h5,h6,h21,h22,h23,hh,List.contains_cons,BEq.rfl,Bool.true_or,e1,e2,e3,e4,e5,e6,e7,e8,e9,e10,aBr,aBi];apply ih'<;>rfl
  ·have e9:((i:Int)< (b.length:Int))=False:=ff ω;have e10:b.getD i 0=0:=γ
   have e6':=Ow (cX ha i) (y:=0) ω (K2 ha hb i);simp only[aBV]at e6';have e8':(aK (fV a b i++aBg (k+1+1) 0)).set i [U ((a.getD i 0+0+kP a b i) %4294967296:Nat)]=aK (fV a b (i+1)++aBg (k+1) 0):=by
    grind
   simp only[mr,go_sem,h0,h1,h5,h6,h21,h22,h23,hh,List.contains_cons,BEq.rfl,Bool.true_or,e1,e2,e3,e4,e5,e7,e8',e9,aBr,aBi,e6'];refine ih' _ _ Z Z Z ?_ Z Z Z Z;simp only[kP,e10];rfl
theorem wU{i:Int}{l c:Nat}(hi:i=l)(hj:j=c)(h:l<=c)(hc:c<9223372036854775808):qk (I i) (I j)=some (l,c):=by
 simp only[qk];grind
noncomputable def Oy:Cmd:=.seq (.ops [0,1,5] [cm 17 0,co 18 (.len false (.t 17)),co 19 (.bin .add (.t 18) (.c (I 1))),⟨(some 20),none,.mkSl 1 [(.v (.int .u32 0))] 4 (.t 19) (.t 19)⟩,cm 5 20]) (.seq (.ops [0,1,5,6] [co 6 (.mv (.c (.v (.int .u32 0))))]) (.seq (.seq (.ops [0,1,5,6,21,22,23] [cm 21 0,co 22 (.len false (.t 21)),co 23 (.mv (.c (I 0)))]) (.block 0 [0,5,6] (.loop [0,1,5,6,21,22,23] [20] mr))) (.seq (.ops [5] [cm 47 5,cm 48 0,co 49 (.len false (.t 48)),cm 50 6,co 51 (.iadrS 1 (.t 47) (.t 49)),⟨none,none,.store 1 (.t 51) (.t 50)⟩]) (.seq (.ops [4] [cm 52 5,cm 4 52]) (.ret)))))
theorem XO{a b}(ha:Lb a)(hb:Lb b)(hl:b.length<=a.length)(h2:a.length<=100000):∀s,s 0=lm a->s 1=lm b->
  ap R (aC false) Oy s (fun _=>.dead)=some (.ret,⟨upd cr 4 (.rsl 20 none 1 0 (a.length+1)),upd (upd (fun _=>.dead) 20 (.ar 1 (aK (fV a b a.length++[0])))) 20 (.ar 1 (aK (fw (a.length+1) (ab a+ab b))))⟩):=by
 intro s h0 h1;have e1:aS (a.length+1)=(a.length+1:Nat):=wi ω ω;have e2:=wU (i:=(a.length+1:Nat)) (j:=(a.length+1:Nat)) (l:=a.length+1) (c:=a.length+1) Z Z (aBh _) ω;have e3:((a.length+1)*4<=140737488355328)=True:=tt ω;have e4:=aiG ha hb hl ω a.length 0 ω;have e5:aK (aBg (a.length+1) 0)=aK (fV a b 0++aBg (a.length+1) 0):=rfl;have e6:(0<=(a.length:Int))=True:=tt ω;have e7:(a.length< ((a.length+1:Nat):Int))=True:=tt ω;have e8:(aK (fV a b a.length++[0]))[a.length]?=some [U 0]:=by
  grind[mu,rG]
 have e9:(aK (fV a b a.length++[0])).set a.length [U (kP a b a.length)]=aK (fw (a.length+1) (ab a+ab b)):=by
  rw[qF]
  simp_all[rG,aBg,Nat.sub_self,List.replicate_zero,aBz,aiF]
 simp only[Oy,go_sem,h0,h1,e1,e2,e3,EG,e5];rw[e4 _ _ Z Z Z Z Z Z Z Z];simp only[go_sem,e6,e7,e8,e9,aBr,aBi]
theorem XP:JY=.seq (.ops [0,1] [co 4 (.mv (.c .emp))]) (.seq (.seq (.ops [0,1,14] [cm 10 0,co 11 (.len false (.t 10)),cm 12 1,co 13 (.len false (.t 12)),co 14 (.bin .lss (.t 11) (.t 13))]) (.cond (.t 14) (.ops [0,1] [cm 15 1,cm 16 0,cm 0 15,cm 1 16]) (.skip))) Oy):=rfl
theorem afq{a b}(ha:Lb a)(hb:Lb b)(h1:a.length<=100000)(h2:b.length<=100000):R 261 [lm a,lm b] []=some (lm (fw (max a.length b.length+1) (ab a+ab b)),[]):=by
 refine az Vx rfl ?_;by_cases h:a.length<b.length
 ·have e1:(a.length< (b.length:Int))=True:=tt ω;have e2:=XO hb ha ω h2;simp only[xW,XP,go_sem,e1];rw[e2 _ Z Z];simp only[go_sem,dO,aBi,aBh];grind
 ·have e1:(a.length< (b.length:Int))=False:=ff ω;have e2:=XO ha hb ω h1;simp only[xW,XP,go_sem,e1];rw[e2 _ Z Z];simp only[go_sem,dO,aBi,aBh];grind
theorem afr{a b}(ha:Lb a)(hb:Lb b)(h1:a.length<=256)(h2:b.length<=256):R 230 [lm a,lm b] []=some (mI (ab a+ab b),[]):=by
 refine az Vu rfl ?_;have e1:(256<a.length)=False:=ff ω;have e2:(256<b.length)=False:=ff ω;have e3:ab (fw (max a.length b.length+1) (ab a+ab b))=ab a+ab b:=by
  rw[rF,aB8];have h1:=dN ha;have h2:=dN hb;have h3:4294967296^a.length<=4294967296^max a.length b.length:=aB4 ω ω;have h4:4294967296^b.length<=4294967296^max a.length b.length:=aB4 ω ω;omega
 have e4:=HS (sR (max a.length b.length+1) (ab a+ab b)) (by grind[dO]);rw[e3]at e4;unfold mI at e4⊢;by_cases hl:256< (aA (ab a+ab b)).length
 ·simp only[hl,if_true]at e4⊢;simp only[xV,go_sem,e1,e2,wT,afq ha hb ω ω,e4]
 ·simp only[hl,if_false]at e4⊢;simp only[xV,go_sem,e1,e2,wT,afq ha hb ω ω,e4]
def eE(x y:Nat):Int:=if x<y then-1 else if y<x then 1 else 0
theorem Eu{x y}(h:(aA x).length< (aA y).length):x<y:=by
 have h1:=iO x;have hy:y≠0:=by grind[gh]
 have h2:=Ud hy;have h3:4294967296^ (aA x).length<=4294967296^ ((aA y).length-1):=aB4 ω ω;omega
noncomputable def HT:Cmd:=.seq (.ops [4] [co 4 (.mv (.c (I 0)))]) (.ret)
theorem aiH{a b}(ha:Lb a)(hb:Lb b)(hl:a.length=b.length)(h2:a.length<=100000):∀k,k<=a.length->∀s h,s 0=lm a->s 1=lm b->s 5=I (k-1)->
  dD (ao 0 [] (aD (ap R (aC false) jV) [0,1,5] [] s h)) (ap R (aC false) HT)=some (.ret,⟨upd cr 4 (I (eE (ab (a.take k)) (ab (b.take k)))),fun _=>.dead⟩):=by
 intro k;induction k with
 |zero=>
  intro hk s h h0 h1 h5;rw[ai];have e1:(0<=((0:Nat):Int)-1)=False:=ff;have e2:eE (ab []) (ab [])=0:=rfl;simp only[jV,HT,go_sem,h0,h1,h5,e1,e2]
 |succ k ih=>
  intro hk s h h0 h1 h5;have ih':=ih ω;have e1:(0<=((k+1:Nat):Int)-1)=True:=tt;have e2:dX (aK a) ((k+1:Nat)-1)=some (.ipt [U (a.getD k 0)]):=dj ω ω;have e3:dX (aK b) ((k+1:Nat)-1)=some (.ipt [U (b.getD k 0)]):=dj ω ω;have e4:aS ((k+1:Nat)-1-1)=k-1:=by grind[i64_in]
  have va:=iK a k;have vb:=iK b k;have la:=dN (iW ha k);have lb:=dN (iW hb k);rw[aBN,aCc ω]at la lb;rw[ai];rcases Nat.lt_trichotomy (a.getD k 0) (b.getD k 0)with hlt|heq|hgt
  ·have e5:((a.getD k 0)< (b.getD k 0:Int))=True:=tt;have e6:eE (ab (a.take (k+1))) (ab (b.take (k+1)))=-1:=by
    have:4294967296^k*(a.getD k 0+1)<=4294967296^k*b.getD k 0:=aCg _ hlt;rw[Nat.mul_add]at this;simp only[eE];omega
   simp only[jV,HT,go_sem,h0,h1,h5,e1,e2,e3,e5,e6]
  ·have e5:((a.getD k 0)< (b.getD k 0:Int))=False:=ff;have e7:((b.getD k 0)< (a.getD k 0:Int))=False:=ff;have e6:eE (ab (a.take (k+1))) (ab (b.take (k+1)))=eE (ab (a.take k)) (ab (b.take k)):=by
    grind[eE]
   simp only[jV,go_sem,h0,h1,h5,e1,e2,e3,e5,e6,e7,e4];apply ih'<;>rfl
  ·have e5:((a.getD k 0)< (b.getD k 0:Int))=False:=ff;have e7:((b.getD k 0)< (a.getD k 0:Int))=True:=tt;have e6:eE (ab (a.take (k+1))) (ab (b.take (k+1)))=1:=by
    have:4294967296^k*(b.getD k 0+1)<=4294967296^k*a.getD k 0:=aCg _ hgt;rw[Nat.mul_add]at this;simp only[eE];omega
   simp only[jV,HT,go_sem,h0,h1,h5,e1,e2,e3,e5,e6,e7]
theorem Oz:JS=.seq (.ops [0,1] [co 4 (.mv (.c (I 0)))]) (.seq (.ops [0,1] [cm 6 0,⟨(some 7),none,.call (.c (.fn 196 [] [])) [(.t 6)]⟩,cm 8 1,⟨(some 9),none,.call (.c (.fn 196 [] [])) [(.t 8)]⟩,cm 0 7,cm 1 9]) (.seq (.seq (.ops [0,1,14] [cm 10 0,co 11 (.len false (.t 10)),cm 12 1,co 13 (.len false (.t 12)),co 14 (.bin .neq (.t 11) (.t 13))]) (.cond (.t 14) (.seq (.seq (.ops [19] [cm 15 0,co 16 (.len false (.t 15)),cm 17 1,co 18 (.len false (.t 17)),co 19 (.bin .lss (.t 16) (.t 18))]) (.cond (.t 19) (.seq (.ops [4] [co 4 (.mv (.c (.v (.int .i64 (-1)))))]) (.ret)) (.skip))) (.seq (.ops [4] [co 4 (.mv (.c (I 1)))]) (.ret))) (.skip))) (.seq (.seq (.ops [0,1,5] [cm 20 0,co 21 (.len false (.t 20)),co 22 (.bin .sub (.t 21) (.c (I 1))),cm 5 22]) (.block 0 [] (.loop [0,1,5] [] jV))) HT))):=rfl
theorem dM(m)(h:Lb m):(aA (ab m)).length<=m.length:=lE (dN h)
theorem BU{a b}(ha:Lb a)(hb:Lb b)(h1:a.length<=100000)(h2:b.length<=100000):R 153 [lm a,lm b] []=some (I (eE (ab a) (ab b)),[]):=by
 refine az Vk rfl ?_;have la:=dM a ha;rcases Nat.lt_trichotomy (aA (ab a)).length (aA (ab b)).length with hlt|heq|hgt
 ·have e1:(aA (ab a)).length=((aA (ab b)).length:Int)↔False:=⟨fun h=>by omega,False.elim⟩;have e2:((aA (ab a)).length< ((aA (ab b)).length:Int))=True:=tt;have e3:eE (ab a) (ab b)=-1:=by grind[eE,Eu]
  simp only[sF,Oz,go_sem,dU ha ω,dU hb ω,e1,e2,e3]
 ·have e2:aS ((aA (ab b)).length-1)=(aA (ab b)).length-1:=by grind[i64_in]
  have e3:=aiH (bJ (ab a)) (bJ (ab b)) heq ω (aA (ab a)).length (aBh _);rw[List.take_length,heq,List.take_length,bp,bp]at e3;simp only[sF,Oz,go_sem,dU ha ω,dU hb ω,heq,e2];rw[e3 _ _ Z Z Z];simp only[go_sem]
 ·have e1:(aA (ab a)).length=((aA (ab b)).length:Int)↔False:=⟨fun h=>by omega,False.elim⟩;have e2:((aA (ab a)).length< ((aA (ab b)).length:Int))=False:=ff;have e3:eE (ab a) (ab b)=1:=by
   have:=Eu hgt;simp only[eE];omega
  simp only[sF,Oz,go_sem,dU ha ω,dU hb ω,e1,e2,e3]
theorem alG(v:BitVec 32):v.toNat/2147483648=if v.msb=true then 1 else 0:=by
 have h:=v.isLt;grind
theorem adD{x y c}(hx:x<4294967296)(hy:y<4294967296)(hc:c<=1)(D)(hD:D.toNat=(x+4294967296-y-c) %4294967296):
  ((~~~(BitVec.ofNat 32 x)&&&BitVec.ofNat 32 y)||| (~~~(BitVec.ofNat 32 x^^^BitVec.ofNat 32 y)&&&D)).toNat/2147483648=if x<y+c then 1 else 0:=by
 grind[alG,BitVec.ofNat,BitVec.msb_eq_decide,BitVec.msb_or,BitVec.msb_and,BitVec.msb_not,BitVec.msb_xor]
theorem ofI(n:Nat):BitVec.ofInt 32 n=BitVec.ofNat 32 n:=σ
theorem awa(v:BitVec 32):IntKind.u32.wrap v.toNat=v.toNat:=by
 have:=v.isLt;grind[IntKind.wrap_u32]
theorem XQ{y c:Nat}(hx:x<4294967296)(hy:y<4294967296)(hc:c<=1):R 274 [U x,U y,U c] []=some (.tup [U (((x+4294967296-y-c) %4294967296:Nat)),U ((if x<y+c then 1 else 0:Nat))],[]):=by
 refine az XG rfl ?_;have e1:IntKind.u32.wrap (x-y)=((x+4294967296-y) %4294967296:Nat):=by grind[IntKind.wrap_u32]
 have e2:IntKind.u32.wrap (((x+4294967296-y) %4294967296:Nat)-c)=((x+4294967296-y-c) %4294967296:Nat):=by grind[IntKind.wrap_u32]
 have b:IntKind.u32.bits=32:=rfl;have e3:BitVec.ofInt 32 (if IntKind.u32.signed=true then(-1)else IntKind.u32.max)=BitVec.allOnes 32:=δ
 have e4:∀v,BitVec.allOnes 32^^^v= ~~~v:=fun v=>BitVec.not_def.symm;have e5:∀v,BitVec.ofNat 32 v.toNat=v:=fun v=>by simp
 have key:=adD hx hy hc (BitVec.ofNat 32 ((x+4294967296-y-c) %4294967296)) σ;have sh:∀v:BitVec 32,eN .shr (.v (.int .u32 (v.toNat:Int))) (.v (.int .u64 31))=some (.v (.int .u32 ((v.toNat/2147483648:Nat):Int))):=fun v=>by
  simp_all[Hw,ax,Option.some.injEq,AV.v.injEq,Value.int.injEq,true_and,Int.fdiv_eq_ediv_of_nonneg]
 simp only[D0,go_sem,e1,e2,ofI,e3,e5,awa,sh];grind
def DB(a b:List Nat):Nat->Nat
 |0=>0
 |i+1=>if a.getD i 0<b.getD i 0+DB a b i then 1 else 0
def XR(a b:List Nat)(i:Nat):Nat:=(a.getD i 0+4294967296-b.getD i 0-DB a b i) %4294967296
def vK(a b:List Nat)(i:Nat):List Nat:=(List.range i).map (XR a b)
theorem Qo(a b)(i):DB a b i<=1:=by
 cases i with
 |zero=>simp[DB]
 |succ i=>grind[DB]
theorem XS{a b}(ha:Lb a)(hb:Lb b):∀i,ab (vK a b i)+ab (b.take i)=ab (a.take i)+4294967296^i*DB a b i
 |0=>by simp[vK,DB,ab]
 |i+1=>by
  have ih:=XS ha hb i;rw[iK a i,iK b i];simp only[vK]at ih⊢;rw[FF,aB6];have h1:=cX ha i;have h2:=cX hb i;have h3:=Qo a b i;have e:XR a b i+b.getD i 0+DB a b i=a.getD i 0+4294967296*DB a b (i+1):=by
   grind[XR,DB]
  grind
theorem Hi(a b)(i):(vK a b i).length=i:=by simp[vK]
theorem aaJ(a b)(i):Lb (vK a b i):=fun x hx=>by
 simp only[vK,aB7]at hx;obtain⟨j,_,rfl⟩:=hx;simp only[XR];omega
theorem aiI{a b}(ha:Lb a)(hb:Lb b)(hl:b.length<=a.length)(hv:ab b<=ab a):vK a b a.length=fw a.length (ab a-ab b):=by
 have h:=XS ha hb a.length;rw[List.take_length,aBE hl]at h;have h1:=dN (aaJ a b a.length);rw[Hi]at h1;have hz:DB a b a.length=0:=by
  grind[Qo,Nat.eq_zero_or_pos,DB]
 rw[hz]at h;have h2:=IX (aaJ a b a.length);rw[Hi,show ab (vK a b a.length)=ab a-ab b from by omega]at h2;exact h2.symm
theorem aiJ{a b}(ha:Lb a)(hb:Lb b)(h2:a.length<=100000):∀k i,i+k=a.length->∀s h,s 1=lm b->s 5=.rsl 16 none 1 0 a.length->s 6=U (DB a b i)->
  s 17=lm a->s 18=I a.length->s 19=I i->h 16=.ar 1 (aK (vK a b i++aBg k 0))->
  ao 0 [5] (aD (ap R (aC false) pU) [1,5,6,17,18,19] [16] s h)=
   some (.normal,⟨upd cr 5 (.rsl 16 none 1 0 a.length),upd (fun _=>.dead) 16 (.ar 1 (aK (vK a b a.length)))⟩):=by
 intro k;induction k with
 |zero=>
  intro i hi s h h1 h5 h6 h17 h18 h19 hh;have:i=a.length:=ω
  subst this;rw[ai];simp only[pU,go_sem,h1,h5,h6,h17,h18,h19,hh,aCh]
 |succ k ih=>
  intro i hi s h h1 h5 h6 h17 h18 h19 hh;have ih':=ih (i+1) ω;have e1:(i< (a.length:Int))=True:=tt;have e2:dX (aK a) (i:Int)=some (.ipt [U (a.getD i 0:Nat)]):=dj rfl ω;have e3:aS ((i:Int)+1)=((i+1:Nat):Int):=wi;have e4:(0<=(i:Int))=True:=tt;have e7:(aK (vK a b i++aBg (k+1) 0))[i]?=some [U (0:Nat)]:=by
   grind[mu,Hi]
  have e8:(aK (vK a b i++aBg (k+1) 0)).set i [U ((a.getD i 0+4294967296-b.getD i 0-DB a b i) %4294967296:Nat)]=aK (vK a b (i+1)++aBg k 0):=by
   rw[qF];grind[DB,XR,vK,List.range_succ]
  rw[ai];by_cases hb':i<b.length
  ·have e6:=XQ (cX ha i) (cX hb i) (Qo a b i);have e9:((i:Int)< (b.length:Int))=True:=tt;have e10:=dj rfl hb';simp only[pU,go_sem,h1,h5,h6,h17,h18,h19,hh,e1,e2,e3,e4,e6,e7,e8,e9,e10,aBr,aBi];apply ih'<;>rfl
  ·have e9:((i:Int)< (b.length:Int))=False:=ff;have e10:b.getD i 0=0:=γ
   have e6':=XQ (cX ha i) (y:=0) ω (Qo a b i);simp only[aBV]at e6';have e8':(aK (vK a b i++aBg (k+1) 0)).set i [U ((a.getD i 0+4294967296-0-DB a b i) %4294967296:Nat)]=aK (vK a b (i+1)++aBg k 0):=by
    grind
   simp only[pU,go_sem,h1,h5,h6,h17,h18,h19,hh,e1,e2,e3,e4,e6',e7,e8',e9,aBr,aBi];refine ih' _ _ Z Z ?_ Z Z Z Z;simp only[DB,e10,aBi];rfl
theorem afs{a b}(ha:Lb a)(hb:Lb b)(h1:a.length<=100000)(h2:b.length<=100000)(hv:ab b<=ab a):R 264 [lm a,lm b] []=some (lm (fw (aA (ab a)).length (ab a-ab b)),[]):=by
 refine az Vz rfl ?_;have la:=dM a ha;have lb:(aA (ab b)).length<=(aA (ab a)).length:=by
  rcases Nat.lt_or_ge (aA (ab a)).length (aA (ab b)).length with h|h
  ·have:=Eu h;omega
  omega
 have e2:=wU (i:=(aA (ab a)).length) (j:=(aA (ab a)).length) Z Z (aBh _) ω;have e3:((aA (ab a)).length*4<=140737488355328)=True:=tt;have e4:=aiJ (bJ (ab a)) (bJ (ab b)) ω (aA (ab a)).length 0 ω;have e5:aK (aBg (aA (ab a)).length 0)=aK (vK (aA (ab a)) (aA (ab b)) 0++aBg (aA (ab a)).length 0):=rfl;have e6:=aiI (bJ (ab a)) (bJ (ab b)) lb (by grind[bp]);rw[bp,bp]at e6;simp only[CA,JZ,go_sem,dU ha ω,dU hb ω,e2,e3,EG,e5];rw[e4 _ _ Z Z Z Z Z Z Z];simp only[go_sem,e6,dO,aBi,aBh]
theorem aft{a b}(ha:Lb a)(hb:Lb b)(h1:a.length<=256)(h2:b.length<=256):R 231 [lm a,lm b] []=some (if ab a<ab b then .tup [lm [],I 2]else mI (ab a-ab b),[]):=by
 refine az Vv rfl ?_;have e1:(256<a.length)=False:=ff;have e2:(256<b.length)=False:=ff;by_cases hv:ab a<ab b
 ·have e3:eE (ab a) (ab b)=-1:=by grind[eE]
  simp only[sO,go_sem,aBm,e1,e2,wT,BU ha hb ω ω,e3,hv]
 ·have e3:(eE (ab a) (ab b)<0)=False:=ff (by grind[eE]);have e5:ab (fw (aA (ab a)).length (ab a-ab b))=ab a-ab b:=by
   rw[rF,aB8];grind[iO,ab]
  have e4:=HS (sR (aA (ab a)).length (ab a-ab b)) (by grind[dO,dM]);rw[e5]at e4;unfold mI at e4⊢;by_cases hl:256< (aA (ab a-ab b)).length
  ·simp only[hl,if_true]at e4⊢;simp only[sO,go_sem,e1,e2,wT,BU ha hb ω ω,e3,hv,afs ha hb ω ω ω,e4]
  ·simp only[hl,if_false]at e4⊢;simp only[sO,go_sem,e1,e2,wT,BU ha hb ω ω,e3,hv,afs ha hb ω ω ω,e4]
def mi(x:Nat):Nat->List Nat->List Nat->List Nat×Nat
 |c,y::bs,o::s=>(((x*y+o+c) %4294967296)::(mi x ((x*y+o+c)/4294967296) bs s).1,(mi x ((x*y+o+c)/4294967296) bs s).2)
 |c,_,s=>(s,c)
theorem afu(x):∀bs s r c,bs.length<=s.length->mi x c bs (s++r)=((mi x c bs s).1++r,(mi x c bs s).2)
 |[],s,r,c,_=>by simp[mi]
 |y::bs,[],r,c,h=>by grind
 |y::bs,o::s,r,c,h=>by
  have ih:=afu x bs s r ((x*y+o+c)/4294967296) (by simpa using h);simp only[aBF,mi,ih]
theorem K3(x):∀bs s c,(mi x c bs s).1.length=s.length
 |[],s,c=>by simp[mi]
 |y::bs,[],c=>by simp[mi]
 |y::bs,o::s,c=>by simp[mi,K3 x bs s]
theorem akL(x):∀bs s c,Lb s->Lb (mi x c bs s).1
 |[],s,c,h=>by grind[mi]
 |y::bs,[],c,h=>by grind[mi]
 |y::bs,o::s,c,h=>by
  exact lk.2 ⟨by omega,akL x bs s _ (lk.1 h).2⟩
theorem afv{x y o c}(hx:x<4294967296)(hy:y<4294967296)(ho:o<4294967296)(hc:c<4294967296):x*y+o+c<18446744073709551616:=by
 have:x*y<=4294967295*4294967295:=Nat.mul_le_mul ω ω;omega
theorem OA{x}(hx:x<4294967296):∀bs s c,Lb bs->Lb s->c<4294967296->(mi x c bs s).2<4294967296
 |[],s,c,_,_,hc=>by grind[mi]
 |y::bs,[],c,_,_,hc=>by grind[mi]
 |y::bs,o::s,c,hb,hs,hc=>by
  have:=afv hx (lk.1 hb).1 (lk.1 hs).1 hc;exact OA hx bs s _ (lk.1 hb).2 (lk.1 hs).2 ω
theorem afw(x):∀bs s c,bs.length=s.length->ab (mi x c bs s).1+4294967296^s.length*(mi x c bs s).2=ab s+x*ab bs+c
 |[],[],c,_=>by simp[mi,ab]
 |[],o::s,c,h=>by grind
 |y::bs,[],c,h=>by grind
 |y::bs,o::s,c,h=>by
  have ih:=afw x bs s ((x*y+o+c)/4294967296) γ;simp only[mi,ab,aB0,aB6];grind
theorem adE{a b}(hb:Lb b){i n:Nat}(hx:x<4294967296)(h2:b.length<=100000)(hi:i<=100000):∀bs k D S (c:Nat),b.drop k=bs->k<=b.length->D.length=i+k->bs.length<=S.length->(D++S).length=n->Lb S->c<4294967296->
  ∀s h,s 18=lm a->s 19=I a.length->s 20=I i->s 1=lm b->s 5=.rsl 17 none 1 0 n->s 6=I i->s 7=U x->s 8=W c->s 25=lm b->s 26=I b.length->s 27=I k->h 17=.ar 1 (aK (D++S))->
  ao 2 [1,5,6,8,18,19,20] (aD (ap R (aC false) pS) [1,5,6,7,8,18,19,20,25,26,27] [17] s h)=
   some (.normal,⟨upd (upd (upd (upd (upd (upd (upd cr 20 (I i)) 19 (I a.length)) 18 (lm a)) 8 (W (mi x c bs S).2)) 6 (I i)) 5 (.rsl 17 none 1 0 n)) 1 (lm b),upd (fun _=>.dead) 17 (.ar 1 (aK (D++(mi x c bs S).1)))⟩):=by
 intro bs;induction bs with
 |nil=>
  intro k D S c hd hk hD hS hn hLS hc s h h18 h19 h20 h1 h5 h6 h7 h8 h25 h26 h27 hh;have:k=b.length:=by
   grind
  subst this;rw[ai];simp only[pS,go_sem,h18,h19,h20,h1,h5,h6,h7,h8,h25,h26,h27,hh,aCh,mi]
 |cons y bs ih=>
  intro k D S c hd hk hD hS hn hLS hc s h h18 h19 h20 h1 h5 h6 h7 h8 h25 h26 h27 hh;obtain⟨o,S,rfl⟩:∃o S',S=o::S':=by
   cases S with
   |nil=>grind
   |cons o S=>grind
  have hlt:k<b.length:=by
   grind
  have hy:b.getD k 0=y:=by
   have:=congrArg (·[0]?) hd;grind
  have hyb:y<4294967296:=by grind[cX]
  have hob:=(lk.1 hLS).1;have hml:=afv hx hyb hob hc;have hxy:x*y<18446744073709551616:=ω
  have ih':=ih (k+1) (D++[(x*y+o+c) %4294967296]) S ((x*y+o+c)/4294967296) (by rw[←List.drop_drop,hd];rfl) hlt γ γ γ (lk.1 hLS).2 ω;have e1:((k:Int)< (b.length:Int))=True:=tt;have e2:dX (aK b) (k:Int)=some (.ipt [U (y:Nat)]):=by grind[dj]
  have e3:aS ((k:Int)+1)=((k+1:Nat):Int):=wi;have e4:aS ((i:Int)+(k:Int))=((i+k:Nat):Int):=wi;have e5:(0<=((i+k:Nat):Int))=True:=tt;have hin:i+k<n:=γ
  have e6:(((i+k:Nat):Int)< (n:Int))=True:=tt;have e7:(aK (D++o::S))[i+k]?=some [U (o:Nat)]:=by
   grind[mu]
  have f1:IntKind.u64.wrap (x:Int)=x:=ip rfl ω;have f2:IntKind.u64.wrap (y:Int)=y:=ip rfl ω;have f3:IntKind.u64.wrap ((x:Int)*(y:Int))=((x*y:Nat):Int):=ip σ hxy;have f4:IntKind.u64.wrap (o:Int)=o:=ip rfl ω;have f5:IntKind.u64.wrap (((x*y:Nat):Int)+(o:Int))=((x*y+o:Nat):Int):=ip ω ω;have f6:IntKind.u64.wrap (((x*y+o:Nat):Int)+(c:Int))=((x*y+o+c:Nat):Int):=ip ω ω;have f7:IntKind.u32.wrap ((x*y+o+c:Nat):Int)=(((x*y+o+c) %4294967296:Nat):Int):=Ja rfl;have f8:=yb (n:=x*y+o+c) (k:=32) (kk:=.u64) (j:=32) Z Z ω;have f9:(aK (D++o::S)).set (i+k) [U ((x*y+o+c) %4294967296:Nat)]=aK (D++[(x*y+o+c) %4294967296]++S):=by
   rw[qF,←hD,List.set_append_right _ _ (aBh _)];simp
  rw[ai];generalize aD _ _ _=L at ih'⊢;simp only[pS,go_sem,h18,h19,h20,h1,h5,h6,h7,h8,h25,h26,h27,hh,e1,e2,e3,e4,e5,e6,e7,f1,f2,f3,f4,f5,f6,f7,f8,f9,aBr,aBi,mi];rw[ih' _ _ Z Z Z Z Z Z Z Z Z Z Z Z];grind
def eY(a b:List Nat)(i:Nat):List Nat:=fw (i+b.length) (ab (a.take i)*ab b)
theorem afx{a b}(ha:Lb a)(hb:Lb b){i}(hi:i<a.length):
  (eY a b i).take i++((mi (a.getD i 0) 0 b ((eY a b i).drop i)).1++[(mi (a.getD i 0) 0 b ((eY a b i).drop i)).2])=eY a b (i+1):=by
 have hx:=cX ha i;have hP:(eY a b i).length=i+b.length:=dO _ _;have hLP:Lb (eY a b i):=sR _ _;have hS:((eY a b i).drop i).length=b.length:=γ
 have h1:=afw (a.getD i 0) b ((eY a b i).drop i) 0 hS.symm;have h2:=OA hx b ((eY a b i).drop i) 0 hb (pA hLP i) ω;have h3:=akL (a.getD i 0) b ((eY a b i).drop i) 0 (pA hLP i);have h4:=K3 (a.getD i 0) b ((eY a b i).drop i) 0;have J7:ab (eY a b i)=ab (a.take i)*ab b:=by
  unfold eY;rw[rF,aB8];have e1:=dN (iW ha i);have e2:=dN hb;rw[aBN,aCc ω]at e1
  simp_all[aBx,Nat.mul_lt_mul'']
 have hsplit:ab (eY a b i)=ab ((eY a b i).take i)+4294967296^i*ab ((eY a b i).drop i):=by
  grind[List.take_append_drop,eY,fM,aBN,aCc]
 have hLb:=
  tG.2 ⟨iW hLP i,tG.2 ⟨h3,lk.2 ⟨h2,P0⟩⟩⟩
 have hval:ab ((eY a b i).take i++((mi (a.getD i 0) 0 b ((eY a b i).drop i)).1++[(mi (a.getD i 0) 0 b ((eY a b i).drop i)).2]))=ab (a.take (i+1))*ab b:=by
  rw[fM,fM,aBN,hP,aCc ω,h4,iK a i,aBG,←J7,hsplit];simp only[ab,Nat.mul_zero,aBR]at h1⊢;grind
 have hlen:((eY a b i).take i++((mi (a.getD i 0) 0 b ((eY a b i).drop i)).1++[(mi (a.getD i 0) 0 b ((eY a b i).drop i)).2])).length=i+1+b.length:=by
  grind
 have:=IX hLb;rw[hlen,hval]at this;exact this.symm
theorem aiK{a b}(ha:Lb a)(hb:Lb b)(h1:a.length<=100000)(h2:b.length<=100000):∀k i,i+k=a.length->∀s h,s 1=lm b->s 5=.rsl 17 none 1 0 (a.length+b.length)->
  s 18=lm a->s 19=I a.length->s 20=I i->h 17=.ar 1 (aK (eY a b i++aBg k 0))->
  ao 0 [5] (aD (ap R (aC false) ur) [1,5,18,19,20] [17] s h)=
   some (.normal,⟨upd cr 5 (.rsl 17 none 1 0 (a.length+b.length)),upd (fun _=>.dead) 17 (.ar 1 (aK (eY a b a.length)))⟩):=by
 intro k;induction k with
 |zero=>
  intro i hi s h h1 h5 h18 h19 h20 hh;have:i=a.length:=ω
  subst this;rw[ai];simp only[ur,go_sem,h1,h5,h18,h19,h20,hh,aCh]
 |succ k ih=>
  intro i hi s h g1 h5 h18 h19 h20 hh;have ih':=ih (i+1) ω;have hx:=cX ha i;have hP:(eY a b i).length=i+b.length:=dO _ _;have hLP:Lb (eY a b i):=sR _ _;have hsp:eY a b i++aBg (k+1) 0=(eY a b i).take i++((eY a b i).drop i++aBg (k+1) 0):=by rw[←aCd,List.take_append_drop]
  have e1:(i< (a.length:Int))=True:=tt;have e2:dX (aK a) i=some (.ipt [U (a.getD i 0:Nat)]):=dj rfl ω;have e3:aS ((i:Int)+1)=((i+1:Nat):Int):=wi;have e4:aS ((i:Int)+(b.length:Int))=((i+b.length:Nat):Int):=wi;have e5:(0<=((i+b.length:Nat):Int))=True:=tt;have e6:(((i+b.length:Nat):Int)< ((a.length+b.length:Nat):Int))=True:=tt;have lp:=adE (a:=a) hb (x:=a.getD i 0) (i:=i) (n:=a.length+b.length) hx h2 ω b 0 ((eY a b i).take i) ((eY a b i).drop i++aBg (k+1) 0) 0 rfl (aBB _) γ γ γ
   (tG.2 ⟨pA hLP i,fun y hy=>by grind⟩) ω
  rw[afu _ _ _ _ _ γ]at lp;have ml:(mi (a.getD i 0) 0 b ((eY a b i).drop i)).1.length=b.length:=by grind[K3]
  have mc:=OA hx b ((eY a b i).drop i) 0 hb (pA hLP i) ω;have ps:=afx ha hb (show i<a.length from by omega);rw[hsp]at hh;generalize mi (a.getD i 0) 0 b ((eY a b i).drop i)=r at*
  have f1:=K1 rfl mc;have e7:(aK ((eY a b i).take i++(r.1++aBg (k+1) 0)))[i+b.length]?=some [U (0:Nat)]:=by
   grind[aCd,mu]
  have e8:(aK ((eY a b i).take i++(r.1++aBg (k+1) 0))).set (i+b.length) [U (r.2:Nat)]=aK (eY a b (i+1)++aBg k 0):=by
   grind[aCd,qF,XN,eY]
  rw[ai];generalize aD _ _ _=L at ih'⊢;simp only[ur,go_sem,g1,h5,h18,h19,h20,hh,e1,e2];rw[lp _ _ Z Z Z Z Z Z Z Z Z Z Z Z];simp only[go_sem,e3,e4,e5,e6,e7,e8,f1,aBr,aBi];apply ih'<;>rfl
theorem aoK{a b}(ha:Lb a)(hb:Lb b)(h1:a.length<=100000)(h2:b.length<=100000):R 226 [lm a,lm b] []=some (lm (fw (a.length+b.length) (ab a*ab b)),[]):=by
 refine az Vt rfl ?_;have e1:aS (a.length+b.length)=(a.length+b.length:Nat):=wi;have e2:=wU (i:=(a.length+b.length:Nat)) (j:=(a.length+b.length:Nat)) Z Z (aBh _) ω;have e3:((a.length+b.length)*4<=140737488355328)=True:=tt;have e4:=aiK ha hb h1 h2 a.length 0 ω;have e0:eY a b 0=aBg b.length 0:=by
  have:∀n,fw n 0=aBg n 0:=fun n=>by
   induction n with
   |zero=>rfl
   |succ n ih=>simp[fw,ih,List.replicate_succ]
  grind[eY,ab]
 have e5:aK (aBg (a.length+b.length) 0)=aK (eY a b 0++aBg a.length 0):=by
  rw[e0,List.replicate_append_replicate,Nat.add_comm]
 have e6:eY a b a.length=fw (a.length+b.length) (ab a*ab b):=by rw[eY,List.take_length]
 simp only[Cy,JW,go_sem,e1,e2,e3,EG,e5];rw[e4 _ _ Z Z Z Z Z Z];simp only[go_sem,e6,dO,aBi,aBh]
theorem afy{a b}(ha:Lb a)(hb:Lb b)(h1:a.length<=256)(h2:b.length<=256):R 181 [lm a,lm b] []=some (mI (ab a*ab b),[]):=by
 refine az Vo rfl ?_;have e1:(256<a.length)=False:=ff;have e2:(256<b.length)=False:=ff;have la:=dM a ha;have lb:=dM b hb;have e3:=aoK (bJ (ab a)) (bJ (ab b)) ω ω;rw[bp,bp]at e3;have e4:=HS (sR ((aA (ab a)).length+(aA (ab b)).length) (ab a*ab b)) (by grind[dO]);rw[rF,aB8 (by simp_all[aBx,Nat.mul_lt_mul'',iO])]at e4;unfold mI at e4⊢;by_cases hl:256< (aA (ab a*ab b)).length
 ·simp only[hl,if_true]at e4⊢;simp only[xQ,go_sem,e1,e2,wT,dU ha ω,dU hb ω,e3,e4]
 ·simp only[hl,if_false]at e4⊢;simp only[xQ,go_sem,e1,e2,wT,dU ha ω,dU hb ω,e3,e4]
theorem HU{i:Int}(hi:i=n)(hj:j=m)(hm:m≠0):eN .rem (.v (.int .i64 i)) (.v (.int .i64 j))=some (.v (.int .i64 (n%m:Nat))):=by
 simp_all[L7,ax,Int.tmod_eq_emod_of_nonneg]
theorem HV{i:Int}(hi:i=n)(hj:j=m)(hm:m≠0)(hn:n<9223372036854775808):eN .quo (.v (.int .i64 i)) (.v (.int .i64 j))=some (.v (.int .i64 (n/m:Nat))):=by
 rw[RI,ax ω,Int.tdiv_eq_ediv_of_nonneg ω];have:n/m<=n:=Nat.div_le_self _ _;grind[wi]
theorem Jb{k:Nat}{i:Int}{kk}(hi:i=n)(hj:j=k)(hk:k<=64)(h:n*2^k<18446744073709551616):eN .shl (.v (.int .u64 i)) (.v (.int kk j))=some (.v (.int .u64 (n*2^k:Nat))):=by
 subst hi hj;rw[L8,ax ω];have:min (k:Int).toNat IntKind.u64.bits=k:=by grind[IntKind.bits]
 rw[this,ip (n:=n*2^k) σ h]
theorem SD{i:Int}(hi:i=m)(hj:j=n)(hm:m<18446744073709551616)(hn:n<18446744073709551616):eN .or (.v (.int .u64 i)) (.v (.int .u64 j))=some (.v (.int .u64 (m|||n))):=by
 subst hi hj;rw[PK];have e:(BitVec.ofInt IntKind.u64.bits m|||BitVec.ofInt IntKind.u64.bits n).toNat=m|||n:=by
  show(BitVec.ofInt 64 m|||BitVec.ofInt 64 n).toNat=m|||n
  grind
 rw[e];rw[ip rfl (Nat.or_lt_two_pow (n:=64) hm hn)]
theorem HW{x c k}(hc:c<2^k):x*2^k|||c=x*2^k+c:=by
 have:=Nat.shiftLeft_add_eq_or_of_lt hc x;grind[Nat.shiftLeft_eq]
def s7(a:List Nat)(r:Nat):Nat->Nat
 |0=>0
 |i+1=>(a.getD i 0*2^r+s7 a r i)/4294967296
def AG(a:List Nat)(r i:Nat):List Nat:=(List.range i).map fun j=>(a.getD j 0*2^r+s7 a r j) %4294967296
theorem Qp{a}(ha:Lb a){r}:∀i,s7 a r i<2^r
 |0=>by grind[s7,aBA]
 |i+1=>by
  have ih:=Qp ha (r:=r) i;have:=cX ha i;simp only[s7];have h1:a.getD i 0*2^r+2^r<=4294967296*2^r:=by
   rw[←Nat.succ_mul];exact aBv _ ω
  omega
theorem Ew(a)(r i):(AG a r i).length=i:=by simp[AG]
theorem aoL(a)(r i):Lb (AG a r i):=fun x hx=>by
 simp only[AG,aB7]at hx;omega
theorem aaK(a)(r):∀i,ab (AG a r i)+4294967296^i*s7 a r i=ab (a.take i)*2^r
 |0=>by simp[AG,s7,ab]
 |i+1=>by
  have ih:=aaK a r i;rw[iK a i];simp only[AG]at ih⊢;rw[FF,aB6];have e:s7 a r (i+1)*4294967296+(a.getD i 0*2^r+s7 a r i) %4294967296=a.getD i 0*2^r+s7 a r i:=by
   grind[s7]
  grind
theorem aiL{a}(ha:Lb a){n q}(h1:a.length<=100000)(hq:q<=100000):∀k i,i+k=a.length->∀s h,s 1=I (n:Nat)->s 5=.rsl 20 none 1 0 (q+i)->s 6=W (s7 a (n%32) i)->s 21=lm a->s 22=I a.length->s 23=I i->
  h 20=.ar 1 (aK (aBg q 0++AG a (n%32) i))->h 38=.dead->
  ao 0 [5,6] (aD (ap R (aC false) ut) [1,5,6,21,22,23] [20,38] s h)=
   some (.normal,⟨upd (upd cr 6 (W (s7 a (n%32) a.length))) 5 (.rsl 20 none 1 0 (q+a.length)),upd (upd (fun _=>.dead) 38 .dead) 20 (.ar 1 (aK (aBg q 0++AG a (n%32) a.length)))⟩):=by
 intro k;induction k with
 |zero=>
  intro i hi s h g1 h5 h6 h21 h22 h23 hh hh2;have:i=a.length:=ω
  subst this;rw[ai];simp only[ut,go_sem,g1,h5,h6,h21,h22,h23,hh,hh2,aCh]
 |succ k ih=>
  intro i hi s h g1 h5 h6 h21 h22 h23 hh hh2;have ih':=ih (i+1) ω;have hx:=cX ha i;have hc:=Qp ha (r:=n%32) i;have hp:2^ (n%32)<=2^31:=aB4 ω ω;have hxp:a.getD i 0*2^ (n%32)<=4294967295*2^31:=Nat.mul_le_mul ω hp;have e1:(i< (a.length:Int))=True:=tt;have e2:dX (aK a) i=some (.ipt [U (a.getD i 0)]):=dj rfl ω;have e3:aS (i+1)=(i+1:Nat):=wi;have e4:IntKind.u64.wrap (a.getD i 0)=(a.getD i 0):=ip rfl ω;have e5:=HU (n:=n) (m:=32) (j:=32) Z Z ω;have e6:=Jb (n:=a.getD i 0) (k:=n%32) (kk:=.i64) Z Z ω ω;have e7:=SD (m:=a.getD i 0*2^ (n%32)) (n:=s7 a (n%32) i) Z Z ω ω;rw[HW hc]at e7;have e8:IntKind.u32.wrap (a.getD i 0*2^ (n%32)+s7 a (n%32) i:Nat)=((a.getD i 0*2^ (n%32)+s7 a (n%32) i) %4294967296):=Ja rfl;have e9:=yb (n:=a.getD i 0*2^ (n%32)+s7 a (n%32) i) (k:=32) (kk:=.u64) (j:=32) Z Z ω;have f1:aK (aBg q 0++AG a (n%32) i)++[[U ((a.getD i 0*2^ (n%32)+s7 a (n%32) i) %4294967296)]]=aK (aBg q 0++AG a (n%32) (i+1)):=by
   simp_all[U,s7,aK,Qm,aCd,AG,List.range_succ]
  have f2:(q+i=(aBg q 0++AG a (n%32) i).length)=True:=tt (by simp[Ew]);have f3:((q+i+1)*4<=140737488355328)=True:=tt;rw[ai];simp only[ut,go_sem,g1,h5,h6,h21,h22,h23,hh,hh2,e1,e2,e3,e4,e5,e6,e7,e8,e9,f1,f2,f3,true_or,aBi,aBh];apply ih'<;>rfl
theorem AH(n):4294967296^ (n/32)*2^ (n%32)=2^n:=by
 rw[show 4294967296=2^32 from rfl,←Nat.pow_mul,←aBx];grind
theorem alH{a}(ha:Lb a)(n):aBg (n/32) 0++AG a (n%32) a.length++[s7 a (n%32) a.length]=fw (n/32+a.length+1) (ab a*2^n):=by
 have hc:=Qp ha (r:=n%32) a.length;have hp:2^ (n%32)<=2^31:=aB4 ω ω;have h:=aaK a (n%32) a.length;have hLb:Lb (aBg (n/32) 0++AG a (n%32) a.length++[s7 a (n%32) a.length]):=
  tG.2 ⟨tG.2 ⟨fun y hy=>by grind,aoL _ _ _⟩,lk.2 ⟨by omega,P0⟩⟩
 have hv:ab (aBg (n/32) 0++AG a (n%32) a.length++[s7 a (n%32) a.length])=ab a*2^n:=by
  rw[aCd,fM,Uc,fM,Ew,aCk];simp only[ab,Nat.mul_zero,aBR,aBi];grind[AH,Nat.mul_left_comm]
 have:=IX hLb;grind[Ew]
theorem Qq{a}(ha:Lb a)(h1:a.length<=100000)(hn:n<=65536):R 234 [lm a,I n] []=some (.osl 1 (aK (fw (n/32+(aA (ab a)).length+1) (ab a*2^n))),[]):=by
 refine az Vw rfl ?_;have la:=dM a ha;have hc:=Qp (bJ (ab a)) (r:=n%32) (aA (ab a)).length;have hp:2^ (n%32)<=2^31:=aB4 ω ω;have e1:=HV (n:=n) (m:=32) (j:=32) Z Z ω ω;have e2:aS ((n/32:Nat)+(aA (ab a)).length)=(n/32+(aA (ab a)).length:Nat):=wi;have e3:aS ((n/32+(aA (ab a)).length:Nat)+1)=(n/32+(aA (ab a)).length+1:Nat):=wi;have e4:=wU (i:=(n/32:Nat)) (j:=(n/32+(aA (ab a)).length+1:Nat)) Z Z ω ω;have e5:((n/32+(aA (ab a)).length+1)*4<=140737488355328)=True:=tt;have e6:=aiL (bJ (ab a)) (n:=n) (q:=n/32) ω ω (aA (ab a)).length 0 ω;have e7:aK (aBg (n/32) 0)=aK (aBg (n/32) 0++AG (aA (ab a)) (n%32) 0):=by simp[AG]
 have e8:IntKind.u32.wrap (s7 (aA (ab a)) (n%32) (aA (ab a)).length)=(s7 (aA (ab a)) (n%32) (aA (ab a)).length):=K1 rfl ω;have f1:aK (aBg (n/32) 0++AG (aA (ab a)) (n%32) (aA (ab a)).length)++[[U (s7 (aA (ab a)) (n%32) (aA (ab a)).length)]]=aK (fw (n/32+(aA (ab a)).length+1) (ab a*2^n)):=by
  have:=alH (bJ (ab a)) n;rw[bp]at this;rw[←this,show [[U (s7 (aA (ab a)) (n%32) (aA (ab a)).length)]]=aK [s7 (aA (ab a)) (n%32) (aA (ab a)).length]from rfl,Qm]
 have f2:(n/32+(aA (ab a)).length=(aBg (n/32) 0++AG (aA (ab a)) (n%32) (aA (ab a)).length).length)=True:=tt (by simp[Ew]);simp only[Cz,JX,go_sem,dU ha ω,e1,e2,e3,e4,e5,EG,e7];rw[e6 _ _ Z Z Z Z Z Z Z Z];simp only[go_sem,e8,f1,f2,e5,true_or,aBi,aBh,dO]
theorem afz{a}(ha:Lb a){n}(h1:a.length<=256):R 197 [lm a,I n] []=some (if n<0\/65536<n then .tup [lm [],I 2]else mI (ab a*2^n.toNat),[]):=by
 refine az Vp rfl ?_;have e1:(256<a.length)=False:=ff;by_cases hn:n<0
 ·simp only[pq,go_sem,e1,uz,hn,true_or]
 by_cases hn2:65536<n
 ·simp only[pq,go_sem,e1,uz,hn,hn2,or_true]
 obtain⟨m,rfl⟩:=aCj (show 0<=n by omega);have la:=dM a ha;have e3:ab (fw (m/32+(aA (ab a)).length+1) (ab a*2^m))=ab a*2^m:=by
  rw[rF,aB8];have h:=iO (ab a);have h2:2^m<=4294967296^ (m/32+1):=by
   rw[show 4294967296=2^32 from rfl,←Nat.pow_mul];exact aB4 ω ω
  rw[show m/32+(aA (ab a)).length+1=(aA (ab a)).length+(m/32+1)from by omega,aBx]
  simp_all[Nat.mul_lt_mul_of_lt_of_le,Nat.pow_pos]
 have e4:=HS (sR (m/32+(aA (ab a)).length+1) (ab a*2^m)) (by grind[dO]);rw[e3]at e4;have e5:(aK (fw (m/32+(aA (ab a)).length+1) (ab a*2^m))).take (fw (m/32+(aA (ab a)).length+1) (ab a*2^m)).length=aK (fw (m/32+(aA (ab a)).length+1) (ab a*2^m)):=aBE (by simp_all[BS,aBh]);unfold mI at e4⊢;by_cases hl:256< (aA (ab a*2^m)).length
 ·simp only[pq,go_sem,e1,uz,hn,hn2,Qq ha (n:=m) ω ω,e4,e5,or_false,aBr,hl,aBi,aBh]
 ·simp only[pq,go_sem,e1,uz,hn,hn2,Qq ha (n:=m) ω ω,e4,e5,or_false,aBr,hl,aBi,aBh]
theorem Ak{l}(h:Lb l)(i):ab (l.drop i)=ab l/4294967296^i:=by
 rcases Nat.lt_or_ge l.length i with hi|hi
 ·rw[List.drop_of_length_le ω];have:=dN h;have h2:4294967296^l.length<=4294967296^i:=aB4 ω ω;rw[Nat.div_eq_of_lt ω];rfl
 ·have h1:ab l=ab (l.take i)+4294967296^i*ab (l.drop i):=by
   grind[List.take_append_drop,fM,aBN,aCc]
  grind[dN,iW,aBN,aCc,Nat.add_mul_div_left,Nat.pow_pos,Nat.div_eq_of_lt]
theorem gx(l:List Nat)(i):ab (l.drop i)=l.getD i 0+4294967296*ab (l.drop (i+1)):=by
 grind[aBJ,ab,List.drop_of_length_le]
def wV(a:List Nat)(r i:Nat):Nat:=(a.getD i 0+4294967296*a.getD (i+1) 0)/2^r%4294967296
theorem alI{a}(ha:Lb a){r}(hr:r<=32)(i):wV a r i=lmb (ab a/2^r) i:=by
 unfold wV lmb;have e0:ab a/2^r/4294967296^i=ab (a.drop i)/2^r:=by grind[Nat.div_div_eq_div_mul,aBD,Ak]
 rw[e0,gx a i,gx a (i+1)];generalize ab (a.drop (i+1+1))=w;have e:4294967296=2^r*2^ (32-r):=by rw[←aBx,show r+(32-r)=32 from by omega]
 have h1:a.getD i 0+4294967296*(a.getD (i+1) 0+4294967296*w)=(a.getD i 0+4294967296*a.getD (i+1) 0)+2^r*(2^ (32-r)*4294967296*w):=by
  grind
 rw[h1,Nat.add_mul_div_left _ _ (aBA r),aBH,Nat.mul_left_comm,Nat.add_mul_mod_self_left]
def pX(a:List Nat)(r i:Nat):List Nat:=(List.range i).map (wV a r)
theorem zp(a)(r i):(pX a r i).length=i:=by simp[pX]
theorem XT{a}(ha:Lb a){r}(hr:r<=32):pX a r a.length=fw a.length (ab a/2^r):=by
 grind[XM,zp,alI,pX]
theorem aiM{a}(ha:Lb a){n}(h1:a.length<=100000):∀k i,i+k=a.length->∀s h,s 0=lm a->s 1=I (n:Nat)->s 5=.rsl 22 none 1 0 a.length->s 23=lm a->s 24=I a.length->s 25=I i->
  h 22=.ar 1 (aK (pX a (n%32) i++aBg k 0))->
  ao 0 [5] (aD (ap R (aC false) pR) [0,1,5,23,24,25] [22] s h)=
   some (.normal,⟨upd cr 5 (.rsl 22 none 1 0 a.length),upd (fun _=>.dead) 22 (.ar 1 (aK (pX a (n%32) a.length)))⟩):=by
 intro k;induction k with
 |zero=>
  intro i hi s h h0 g1 h5 h23 h24 h25 hh;have:i=a.length:=ω
  subst this;rw[ai];simp only[List.replicate_zero,aBz]at hh;simp only[pR,go_sem,h0,g1,h5,h23,h24,h25,hh,aCh]
 |succ k ih=>
  intro i hi s h h0 g1 h5 h23 h24 h25 hh;have ih':=ih (i+1) ω;have hx:=cX ha i;have hy:=cX ha (i+1);have hr:n%32<32:=aBW _ ω;have e1:(i< (a.length:Int))=True:=tt;have e2:dX (aK a) (i:Int)=some (.ipt [U (a.getD i 0:Nat)]):=dj rfl ω;have e3:aS ((i:Int)+1)=((i+1:Nat):Int):=wi;have e4:IntKind.u64.wrap (a.getD i 0:Int)=(a.getD i 0:Int):=ip rfl ω;have e5:=HU (n:=n) (m:=32) (j:=32) Z Z ω;have e6:(0<=(i:Int))=True:=tt;have e7:(aK (pX a (n%32) i++aBg (k+1) 0))[i]?=some [U (0:Nat)]:=by
   grind[mu,zp]
  have e8:(aK (pX a (n%32) i++aBg (k+1) 0)).set i [U (wV a (n%32) i:Nat)]=aK (pX a (n%32) (i+1)++aBg k 0):=by
   grind[qF,XN,pX,wV,zp,List.range_succ]
  rw[ai];generalize aD _ _ _=L at ih'⊢;by_cases hl:i+1<a.length
  ·have f1:(((i+1:Nat):Int)< (a.length:Int))=True:=tt;have f2:=dj rfl hl;have f3:IntKind.u64.wrap (a.getD (i+1) 0:Int)=(a.getD (i+1) 0:Int):=ip rfl ω;have f4:=Jb (n:=a.getD (i+1) 0) (k:=32) (kk:=.u64) (j:=32) Z Z ω ω;have f5:=SD (m:=a.getD i 0) (n:=a.getD (i+1) 0*2^32) Z Z ω ω;rw[Nat.or_comm,HW (show a.getD i 0<2^32 from by omega)]at f5;have f6:=yb (n:=a.getD (i+1) 0*2^32+a.getD i 0) (k:=n%32) (kk:=.i64) Z Z ω;have f7:IntKind.u32.wrap (((a.getD (i+1) 0*2^32+a.getD i 0)/2^ (n%32):Nat):Int)=((wV a (n%32) i:Nat):Int):=by
    grind[Ja,wV]
   simp only[pR,go_sem,h0,g1,h5,h23,h24,h25,hh,e1,e2,e3,e4,e5,e6,e7,e8,f1,f2,f3,f4,f5,f6,f7,aBr,aBi];apply ih'<;>rfl
  ·have f1:(((i+1:Nat):Int)< (a.length:Int))=False:=ff;have f2:a.getD (i+1) 0=0:=γ
   have f6:=yb (n:=a.getD i 0) (k:=n%32) (kk:=.i64) Z Z ω;have f7:IntKind.u32.wrap ((a.getD i 0/2^ (n%32):Nat):Int)=((wV a (n%32) i:Nat):Int):=by
    rw[Ja rfl];grind[wV]
   simp only[pR,go_sem,h0,g1,h5,h23,h24,h25,hh,e1,e2,e3,e4,e5,e6,e7,e8,f1,f6,f7,aBr,aBi];apply ih'<;>rfl
theorem afA{a}(ha:Lb a)(h1:a.length<=100000)(hn:n<=100000000):R 216 [lm a,I n] []=some (lm (fw ((aA (ab a)).length-n/32) (ab a/2^n)),[]):=by
 refine az Vs rfl ?_;have la:=dM a ha;have e1:=HV (n:=n) (m:=32) (j:=32) Z Z ω ω;by_cases hl:(aA (ab a)).length<=n/32
 ·have e2:((aA (ab a)).length<=((n/32:Nat):Int))=True:=tt;have e3:fw ((aA (ab a)).length-n/32) (ab a/2^n)=[]:=by rw[show(aA (ab a)).length-n/32=0 from by omega];rfl
  simp only[xU,DY,go_sem,dU ha ω,e1,e2,e3]
 ·have e2:((aA (ab a)).length<=((n/32:Nat):Int))=False:=ff;have hD:((aA (ab a)).drop (n/32)).length=(aA (ab a)).length-n/32:=σ
  have hLD:Lb ((aA (ab a)).drop (n/32)):=pA (bJ _) _;have e3:fm 1 (lm (aA (ab a))) (some (I (n/32:Nat))) none none=some (lm ((aA (ab a)).drop (n/32))):=by
   rw[K0 (a:=n/32) (b:=(aA (ab a)).length) (wS rfl ω) rfl (aBh _),aBE ω]
  have hv:ab ((aA (ab a)).drop (n/32))/2^ (n%32)=ab a/2^n:=by
   rw[Ak (bJ _),bp,Nat.div_div_eq_div_mul,AH]
  have e6:=XT hLD (r:=n%32) ω;rw[hv,hD]at e6;generalize(aA (ab a)).drop (n/32)=D at*
  have e4:=wU (i:=D.length) (j:=D.length) Z Z (aBh _) ω;have e5:(D.length*4<=140737488355328)=True:=tt;have e7:=aiM hLD (n:=n) ω D.length 0 ω;have e8:aK (aBg D.length 0)=aK (pX D (n%32) 0++aBg D.length 0):=by simp[pX]
  rw[←hD]at e6⊢;simp only[xU,DY,go_sem,dU ha ω,e1,e2,e3,e4,e5,EG,e8];rw[e7 _ _ Z Z Z Z Z Z Z];simp only[go_sem,e6,dO,aBi,aBh]
theorem afB{a}(ha:Lb a){n}(h1:a.length<=256):R 167 [lm a,I n] []=some (if n<0\/65536<n then .tup [lm [],I 2]else .tup [lm (aA (ab a/2^n.toNat)),I 0],[]):=by
 refine az Vn rfl ?_;have e1:(256<a.length)=False:=ff;by_cases hn:n<0
 ·simp only[sH,go_sem,e1,uz,hn,true_or]
 by_cases hn2:65536<n
 ·simp only[sH,go_sem,e1,uz,hn,hn2,or_true]
 obtain⟨m,rfl⟩:=aCj (show 0<=n by omega);have la:=dM a ha;have hlt:=iO (ab a);have h32:ab a/2^m<4294967296^ ((aA (ab a)).length-m/32):=by
  rw[Nat.div_lt_iff_lt_mul (aBA m),←AH m];refine aCf hlt ?_;rw[←aBH,←aBx];refine aBq (aB4 ω (show(aA (ab a)).length<=(aA (ab a)).length-m/32+m/32 by omega)) (Nat.le_mul_of_pos_right _ (aBA _))
 have e3:ab (fw ((aA (ab a)).length-m/32) (ab a/2^m))=ab a/2^m:=by
  rw[rF,aB8 h32]
 have e4:=HS (sR ((aA (ab a)).length-m/32) (ab a/2^m)) (by grind[dO]);rw[e3]at e4;have hl:¬256< (aA (ab a/2^m)).length:=by
  have:=lE h32;omega
 unfold mI at e4;simp only[hl,if_false]at e4;simp only[sH,go_sem,e1,uz,hn,hn2,afA ha (n:=m) ω ω,e4,or_false,aBr]
def ag(n:Nat):Nat:=if n=0 then 0 else n.log2+1
theorem bT{n k}:ag n<=k↔n<2^k:=by
 unfold ag;grind[Nat.succ_le_iff,Nat.log2_lt]
theorem OB{q k}(h:ag q<=k):ag (q+1)<=k+1:=by
 rw[bT]at h⊢;omega
theorem aiN{n k}(h:n<=k):ag (2^n-1)<=k:=bT.2 (by
 have h1:=aBA n;have h2:=aB4 (n:=2) δ h;omega)
theorem aiO(k):ag 1<=k+1:=bT.2 (Nat.one_lt_two_pow ω)
theorem AI{x y k}(h:x<=y)(h2:ag y<=k):ag x<=k:=bT.2 (aBU h (bT.1 h2))
theorem lw{n k}:k<ag n↔2^k<=n:=by
 have:=@bT n k;omega
theorem AJ:ag 0=0:=rfl
theorem ju{n}(h:n≠0):0<ag n:=by
 rw[lw];omega
theorem nN(n k):ag (n/2^k)=ag n-k:=by
 have h:∀j,ag (n/2^k)<=j↔ag n-k<=j:=fun j=>by
  simp_all[bT,Nat.div_lt_iff_lt_mul,aBA,aBx]
 have h1:=(h _).1 (aBh _);have h2:=(h _).2 (aBh _);omega
theorem ed{n}(k)(hn:n≠0):ag (n*2^k)=ag n+k:=by
 grind[nN,Nat.mul_div_cancel,aBA,ag,lw,Nat.le_mul_of_pos_left]
def adF:ByteArray:=⟨#[0,1,2,2,3,3,3,3,4,4,4,4,4,4,4,4,5,5,5,5,5,5,5,5,5,5,5,5,5,5,5,5,6,6,6,6,6,6,6,6,6,6,6,6,6,6,6,6,6,6,6,6,6,6,6,6,6,6,6,6,6,6,6,6,7,7,7,7,7,7,7,7,7,7,7,7,7,7,7,7,7,7,7,7,7,7,7,7,7,7,7,7,7,7,7,7,7,7,7,7,7,7,7,7,7,7,7,7,7,7,7,7,7,7,7,7,7,7,7,7,7,7,7,7,7,7,7,7,8,8,8,8,8,8,8,8,8,8,8,8,8,8,8,8,8,8,8,8,8,8,8,8,8,8,8,8,8,8,8,8,8,8,8,8,8,8,8,8,8,8,8,8,8,8,8,8,8,8,8,8,8,8,8,8,8,8,8,8,8,8,8,8,8,8,8,8,8,8,8,8,8,8,8,8,8,8,8,8,8,8,8,8,8,8,8,8,8,8,8,8,8,8,8,8,8,8,8,8,8,8,8,8,8,8,8,8,8,8,8,8,8,8,8,8,8,8,8,8,8,8,8,8,8,8,8,8]⟩
theorem aiP:((List.range 256).all fun x=>(adF[x]?).map (·.toNat)==some (ag x))=true:=by decide+kernel
theorem adG(h:x<256):LP (.v (.string adF)) (.v (.int .u8 x))=some (.v (.int .u8 (ag x))):=by
 have:=List.all_eq_true.1 aiP x (List.mem_range.2 h);simp only[LP];grind
theorem Jc:KQ=.seq (.ops [0,2] [co 2 (.mv (.c (I 0)))]) (.seq (.seq (.ops [0,2,4] [cm 3 0,co 4 (.bin .geq (.t 3) (.c (.v (.int .u32 65536))))]) (.cond (.t 4) (.seq (.ops [0] [cm 5 0,co 6 (.bin .shr (.t 5) (.c (.v (.int .u64 16)))),cm 0 6]) (.ops [0,2] [co 2 (.mv (.c (I 16)))])) (.skip))) (.seq (.seq (.ops [0,2,8] [cm 7 0,co 8 (.bin .geq (.t 7) (.c (.v (.int .u32 256))))]) (.cond (.t 8) (.seq (.ops [0,2] [cm 9 0,co 10 (.bin .shr (.t 9) (.c (.v (.int .u64 8)))),cm 0 10]) (.ops [0,2] [cm 11 2,co 12 (.bin .add (.t 11) (.c (I 8))),cm 2 12])) (.skip))) (.seq (.ops [2] [cm 13 2,cm 14 0,co 15 (.cv .u8 (.t 14)),co 16 (.idxS (.c (.v (.string adF))) (.t 15)),co 17 (.cv .i64 (.t 16)),co 18 (.bin .add (.t 13) (.t 17)),cm 2 18]) (.ret)))):=rfl
theorem w8{i:Int}(h:i=n)(hn:n<256):IntKind.u8.wrap i=n:=by grind[IntKind.wrap_u8]
theorem Qs{k:Nat}{i:Int}{kk}(hi:i=n)(hj:j=k)(hk:k<=32):eN .shr (.v (.int .u32 i)) (.v (.int kk j))=some (.v (.int .u32 (n/2^k:Nat))):=by
 simp_all[Hw,ax,IntKind.bits,Option.some.injEq,AV.v.injEq,Value.int.injEq,true_and,Int.fdiv_eq_ediv_of_nonneg,Int.pow_nonneg]
theorem GC{x}(k)(h:2^k<=x):ag x=k+ag (x/2^k):=by
 have:=nN x k;have:=lw.2 h;omega
theorem XU(hx:x<4294967296):R 217 [U x] []=some (I (ag x),[]):=by
 refine az XC rfl ?_;have fin:∀ {y:Nat},y<256->∀ {n:Nat},n<=24->IntKind.u8.wrap y=y/\IntKind.i64.wrap (ag y)=(ag y)/\IntKind.i64.wrap (n+(ag y))=(n+ag y):=fun{y} hy {n} hn=>by
  have:ag y<=8:=bT.2 hy;exact⟨w8 rfl hy,wi rfl ω,wi ω ω⟩
 have s16:=Qs (n:=x) (k:=16) (kk:=.u64) (j:=16) Z Z ω;by_cases h1:65536<=x
 ·have e1:(65536<=(x:Int))=True:=tt;have b1:=GC 16 h1;have s8:=Qs (n:=x/2^16) (k:=8) (kk:=.u64) (j:=8) Z Z ω;by_cases h2:256<=x/2^16
  ·have e2:(256<=((x/2^16:Nat):Int))=True:=tt;have b2:=GC 8 h2;have hy:x/2^16/2^8<256:=ω
   obtain⟨f1,f2,f3⟩:=fin hy (n:=24) ω;have g:aS 24=24:=by grind[i64_in]
   have f3':aS (24+(ag (x/2^16/2^8)))=(ag x):=γ
   simp only[qD,Jc,go_sem,e1,s16,e2,s8,g,f1,adG hy,f2,f3',Int.reduceAdd]
  ·have e2:(256<=((x/2^16:Nat):Int))=False:=ff;have hy:x/2^16<256:=ω
   obtain⟨f1,f2,f3⟩:=fin hy (n:=16) ω;have f3':aS (16+(ag (x/2^16)))=(ag x:Nat):=γ
   simp only[qD,Jc,go_sem,aBm,aBL,e1,s16,e2,f1,adG hy,f2,f3']
 ·have e1:(65536<=(x:Int))=False:=ff;have s8:=Qs (n:=x) (k:=8) (kk:=.u64) (j:=8) Z Z ω;by_cases h2:256<=x
  ·have e2:(256<=(x:Int))=True:=tt;have b2:=GC 8 h2;have hy:x/2^8<256:=ω
   obtain⟨f1,f2,f3⟩:=fin hy (n:=8) ω;have g:aS 8=8:=by grind[i64_in]
   have f3':aS (8+(ag (x/2^8)))=(ag x:Nat):=γ
   simp only[qD,Jc,go_sem,aBm,aBL,e1,e2,s8,g,f1,adG hy,f2,f3',Int.reduceAdd]
  ·have e2:(256<=(x:Int))=False:=ff;have hy:x<256:=ω
   obtain⟨f1,f2,f3⟩:=fin hy (n:=0) ω;have f3':aS (0+(ag x))=(ag x:Nat):=γ
   simp only[qD,Jc,go_sem,aBm,aBL,e1,e2,f1,adG hy,f2,f3']
theorem aiQ{n}(h:n≠0):ag n=32*((aA n).length-1)+ag ((aA n).getD ((aA n).length-1) 0):=by
 induction n using Nat.strongRecOn with
 |ind n ih=>
  rw[qE h,aB0,Nat.add_sub_cancel];by_cases h0:n/4294967296=0
  ·rw[h0,gh];grind
  ·have h2:(aA (n/4294967296)).length≠0:=by
    intro e;exact h0 (py.1 (List.length_eq_zero_iff.1 e))
   have h3:=GC (x:=n) 32 ω;grind
theorem HX{m}(hb:Lb m)(h1:m.length<=100000):R 170 [lm m] []=some (I (ag (ab m)),[]):=by
 refine az Sl rfl ?_;have la:=dM m hb;by_cases h:ab m=0
 ·have e1:((0:Nat):Int)=0:=rfl;simp only[wh,go_sem,dU hb ω,h,gh,e1,AJ]
 ·have hne:(aA (ab m)).length≠0:=fun e=>h (py.1 (List.length_eq_zero_iff.1 e));have e1:(((aA (ab m)).length:Int)=0)=False:=ff;have e2:aS ((aA (ab m)).length-1)=((aA (ab m)).length-1:Nat):=wi;have e3:aS (32*((aA (ab m)).length-1:Nat))=(32*((aA (ab m)).length-1):Nat):=wi;have e4:dX (aK (aA (ab m))) ((aA (ab m)).length-1:Nat)=some (.ipt [U ((aA (ab m)).getD ((aA (ab m)).length-1) 0)]):=dj rfl ω;have e5:=XU (cX (bJ (ab m)) ((aA (ab m)).length-1));have e6:ag ((aA (ab m)).getD ((aA (ab m)).length-1) 0)<=32:=bT.2 (cX (bJ (ab m)) _);have e7:IntKind.i64.wrap ((32*((aA (ab m)).length-1):Nat)+(ag ((aA (ab m)).getD ((aA (ab m)).length-1) 0)))=(ag (ab m)):=by
   rw[aiQ h];exact wi ω ω
  simp only[wh,go_sem,dU hb ω,e1,e2,e3,e4,e5,e7]
structure Rd where
 neg:Bool
 m:List Nat
 e:Int
def aj(d:Rd):List AV:=[B d.neg,lm d.m,I d.e]
def ae(d:Rd):AV:=.agg (aj d)
def aG:Rd:=⟨false,[],0⟩
def s9(n:Nat)(e:Int):Bool:=decide (n=0)|| (decide (n<=4096)&& (decide (-16384<=e)&& (decide (e<=16384)&&decide (n+e<=16384))))
def vd(d:Rd):Bool:=if d.m.length=0 then !d.neg&&decide (d.e=0)else decide (d.m.length<=256)&& (decide (d.m.getD 0 0%2=1)&& (decide (d.m.getD (d.m.length-1) 0≠0)&&s9 (ag (ab d.m)) d.e))
theorem yc{m}(hb:Lb m)(h1:m.length<=100000):R 119 [lm m] []=some (I (ag (ab m)),[]):=by
 refine az Vi rfl ?_;simp only[Cs,go_sem,HX hb h1]
theorem Qt{d}(hb:Lb d.m)(h1:d.m.length<=100000):R 99 [ae d] []=some (B (s9 (ag (ab d.m)) d.e),[]):=by
 refine az Oa rfl ?_;unfold s9;by_cases a1:ag (ab d.m)=0
 ·have e9:=yc hb h1;rw[a1,aBV]at e9;simp only[jo,ae,aj,go_sem,e9,a1]
 have e1:(((ag (ab d.m)):Int)=0)=False:=ff;by_cases a2:¬ (ag (ab d.m)<=4096)
 ·have e2:(((ag (ab d.m)):Int)<=4096)=False:=ff;simp only[jo,ae,aj,go_sem,yc hb h1,e1,a1,e2,a2]
 replace a2:=Decidable.not_not.1 a2
 have e2:(((ag (ab d.m)):Int)<=4096)=True:=tt;by_cases a3:¬ (-16384<=d.e)
 ·simp only[jo,ae,aj,go_sem,yc hb h1,e1,a1,e2,a2,a3]
 replace a3:=Decidable.not_not.1 a3
 by_cases a4:¬ (d.e<=16384)
 ·simp only[jo,ae,aj,go_sem,yc hb h1,e1,a1,e2,a2,a3,a4]
 replace a4:=Decidable.not_not.1 a4
 have e3:aS ((ag (ab d.m))+d.e)=(ag (ab d.m))+d.e:=by grind[i64_in]
 simp only[jo,ae,aj,go_sem,yc hb h1,e1,a1,e2,a2,a3,a4,e3]
def GD(n:Int):Prop:=-9223372036854775808<=n/\n<9223372036854775808
structure Ok0 (d:Rd):Prop where
 lb:Lb d.m
 len:d.m.length<4611686018427387904
theorem eG{d}(ok:Ok0 d):R 42 [ae d] []=some (B (vd d),[]):=by
 refine az Sc rfl ?_;unfold vd;by_cases a0:d.m.length=0
 ·rw[aq a0];have e1:((d.m.length:Int)=0)=True:=tt;cases hn:d.neg with
  |true=>simp only[jy,ae,aj,hn,go_sem,e1]
  |false=>simp only[jy,ae,aj,hn,go_sem,e1]
 rw[ax a0];have e1:((d.m.length:Int)=0)=False:=ff;by_cases a1:¬d.m.length<=256
 ·have e2:((d.m.length:Int)<=256)=False:=ff;rw[decide_eq_false a1,aBy];simp only[jy,ae,aj,go_sem,e1,e2]
 replace a1:=Decidable.not_not.1 a1
 have e2:((d.m.length:Int)<=256)=True:=tt;have e3:dX (aK d.m) 0=some (.ipt [U (d.m.getD 0 0)]):=dj rfl ω;have e4:eN .rem (.v (.int .u32 (d.m.getD 0 0))) (.v (.int .u32 2))=some (.v (.int .u32 (d.m.getD 0 0%2:Nat))):=by
  simp_all[L7,ax,Int.tmod_eq_emod_of_nonneg]
 rw[decide_eq_true a1,aBt];by_cases a2:¬d.m.getD 0 0%2=1
 ·have e5:(((d.m.getD 0 0%2:Nat):Int)=1)=False:=ff;rw[decide_eq_false a2,aBy];simp only[jy,ae,aj,go_sem,e1,e2,e3,e4,e5]
 replace a2:=Decidable.not_not.1 a2
 have e5:(((d.m.getD 0 0%2:Nat):Int)=1)=True:=tt;rw[decide_eq_true a2,aBt];have e6:aS (d.m.length-1)=(d.m.length-1:Nat):=wi;have e7:dX (aK d.m) (d.m.length-1:Nat)=some (.ipt [U (d.m.getD (d.m.length-1) 0)]):=dj rfl ω;by_cases a3:d.m.getD (d.m.length-1) 0=0
 ·have e8:((d.m.getD (d.m.length-1) 0:Int)=0)=True:=tt;rw[decide_eq_false (p:=d.m.getD (d.m.length-1) 0≠0) (fun h=>h a3),aBy];simp only[jy,ae,aj,go_sem,e1,e2,e3,e4,e5,e6,e7,e8]
 have e8:((d.m.getD (d.m.length-1) 0:Int)=0)=False:=ff;rw[decide_eq_true (p:=d.m.getD (d.m.length-1) 0≠0) a3,aBt];have e9:=Qt (d:=d) ok.lb ω;simp only[ae,aj]at e9;simp only[jy,ae,aj,go_sem,e1,e2,e3,e4,e5,e6,e7,e8,e9]
theorem SE{d}(ok:Ok0 d):R 100 [ae d] []=some (I (if vd d=false\/d.m.length=0 then 0 else if d.neg=true then-1 else 1),[]):=by
 refine az Vg rfl ?_;have e9:=eG ok;simp only[ae,aj]at e9;cases hv:vd d with
 |false=>
  rw[hv]at e9;rw[aq (Or.inl rfl)];simp only[po,ae,aj,go_sem,e9]
 |true=>
  rw[hv]at e9;by_cases a0:d.m.length=0
  ·have e1:((d.m.length:Int)=0)=True:=tt;rw[aq (Or.inr a0)];simp only[po,ae,aj,go_sem,e9,e1]
  ·have e1:((d.m.length:Int)=0)=False:=ff;rw[ax (fun h=>h.elim (fun h=>nomatch h) a0)];cases hn:d.neg with
   |true=>
    rw[hn]at e9;simp only[po,ae,aj,hn,go_sem,e9,e1]
   |false=>
    rw[hn]at e9;simp only[po,ae,aj,hn,go_sem,e9,e1]
theorem adH(m)(h2:m.length<4611686018427387904):∀ (n:Nat),n<=m.length->∀s h,s 0=lm m->s 3=I n->
  ao 0 [0,3] (aD (ap R (aC false) l6) [0,3] [] s h)=some (.normal,⟨upd (upd cr 3 (I (oZ m n))) 0 (lm m),fun _=>.dead⟩):=by
 intro n;induction n with
 |zero=>
  intro h1 s h h3 h4;rw[ai];simp only[l6,go_sem,h3,h4,oZ,aBV,aCh]
 |succ n ih=>
  intro h1 s h h3 h4;have hn:=h1;have e3:aS (n+1-1)=n:=wi;have e1:=dj rfl hn;have e2:(0< (n:Int)+1)=True:=tt;have ih':=ih ω;rw[ai];by_cases hz:m.getD n 0=0
  ·simp only[l6,go_sem,h3,h4,oZ,Int.natCast_add,Int.natCast_one,e3,e1,e2,hz,aBV];exact ih' _ _ Z Z
  ·simp only[l6,go_sem,h3,h4,oZ,Int.natCast_add,Int.natCast_one,e3,e1,e2,hz,Int.natCast_eq_zero]
theorem XV{m}(hb:Lb m)(h:m.length<4611686018427387904):R 165 [lm m] []=some (lm (aA (ab m)),[]):=by
 refine az Oi rfl ?_;have h1:fm 1 (lm m) none (some (I (oZ m m.length))) none=some (lm (aA (ab m))):=by
  rw[K0 (a:=0) (b:=oZ m m.length) rfl (wS rfl (Ft _ _)) (Ft _ _),List.drop_zero,Nat.sub_zero,NZ hb]
 simp only[yI,Fi,go_sem,adH m h m.length (aBh _),h1]
theorem zu{e}:R 179 [I e] []=some (B (decide (-32768<=e)&&decide (e<=32768)),[]):=by
 refine az M5 rfl ?_;by_cases a1:¬ (-32768<=e)
 ·simp only[qW,go_sem,a1]
 replace a1:=Decidable.not_not.1 a1
 simp only[qW,go_sem,a1]
theorem BV{d}(hb:Lb d.m)(h1:d.m.length<=100000):R 180 [ae d] []=some (if s9 (ag (ab d.m)) d.e=true then .tup [ae d,I 0]else .tup [ae aG,I 9],[]):=by
 refine az Ol rfl ?_;have e9:=Qt hb h1;simp only[ae,aj]at e9;cases hv:s9 (ag (ab d.m)) d.e with
 |false=>
  rw[hv]at e9;simp only[rU,ae,aj,aG,go_sem,e9]
 |true=>
  rw[hv]at e9;simp only[rU,ae,aj,go_sem,e9]
theorem XW(h)(m):xu h 1 (lm m)=some (aK m):=aix h 1 _
theorem Jd{m}(h0:m≠[])(h1:m.length<=100000):R 164 [lm m] []=some (lm m,[]):=by
 have e1:Im false (lm m)=some (B false):=by
  cases m with
  |nil=>grind
  |cons x m=>rfl
 have e2:((True\/False)/\(0+m.length)*4<=140737488355328)=True:=eq_true ⟨Or.inl trivial,by omega⟩;have e3:=tt;have e4:=tt
 first
 | (refine XK E_slices_Clone_uint32_uint32_ C_slices_Clone_uint32_uint32_ (B7.2.2.2 false) rfl ?_;simp only[gX,go_sem,e1,XW,e2,e3,e4];done)
 | (obtain⟨x,l,rfl⟩:=List.exists_cons_of_ne_nil h0;refine(Fb (g:=clU) κ).trans ?_;show(if((aK l).length+1)*4<=140737488355328 then _ else _)=_;rw[aq (by rw[BS];simp at h1;omega)];rfl)
theorem Hj:cQ.E 213=some tzF:=by kernel_rfl
theorem K4(h:x≠0)(hx:x<4294967296):R 213 [U x] []=some (I (tz x),[]):=by
 unfold R;rw[Fb Hj];show(if 0< (x:Int)/\(x:Int)<4294967296/\[]=[]then some (I (Ue 32 (x:Int).toNat),[])else none)=_;rw[aq ⟨by omega,by omega,rfl⟩,aBr,aoG 32 x h ω]
theorem aiR(m)(hb:Lb m)(h2:m.length<=100000):∀k i,i+k=m.length->ab (m.drop i)≠0->∀s h,s 6=lm m->s 7=I m.length->s 8=I i->s 3=I (32*i:Nat)->
  ao 0 [3] (aD (ap R (aC false) we) [3,6,7,8] [] s h)=some (.ret,⟨upd cr 2 (I (32*i+tz (ab (m.drop i)):Nat)),fun _=>.dead⟩):=by
 intro k;induction k with
 |zero=>
  intro i hi hv;rw[aBQ ω]at hv;exact absurd rfl hv
 |succ k ih=>
  intro i hi hv s h h6 h7 h8 h3;have e1:((i:Int)<m.length)=True:=tt;have e2:dX (aK m) i=some (.ipt [U (m.getD i 0)]):=dj rfl ω;have hx:=cX hb i;rw[gx]at hv;rw[ai];have e4:aS ((32*i:Nat)+32)=(32*(i+1):Nat):=wi;have e5:aS (i+1)=(i+1:Nat):=wi;by_cases hz:m.getD i 0=0
  ·have e3:((m.getD i 0:Int)=0)=True:=tt;have hv':ab (m.drop (i+1))≠0:=by
    omega
   have ih':=ih (i+1) ω hv';have e6:tz (ab (m.drop i))=32+tz (ab (m.drop (i+1))):=by
    rw[gx,hz,aBi];exact KU 32 hv'
   have e7:32*i+tz (ab (m.drop i))=32*(i+1)+tz (ab (m.drop (i+1))):=ω
   rw[e7];simp only[we,go_sem,h3,h6,h7,h8,e1,e2,e3,e4,e5];apply ih'<;>rfl
  ·have e3:((m.getD i 0:Int)=0)=False:=ff;have e6:tz (ab (m.drop i))=tz (m.getD i 0):=by
    rw[gx];exact aoF (k:=32) _ hz hx
   have e8:=VJ (k:=32) hz hx;have e7:IntKind.i64.wrap ((32*i:Nat)+(tz (m.getD i 0)))=(32*i+tz (m.getD i 0):Nat):=wi;rw[e6];simp only[we,go_sem,h3,h6,h7,h8,e1,e2,e3,K4 hz hx,e7]
theorem aoM{m}(hb:Lb m)(h1:m.length<=100000)(hv:ab m≠0):R 166 [lm m] []=some (I (tz (ab m)),[]):=by
 refine az Xw rfl ?_;have h3:=aiR m hb h1 m.length 0 (aBi _) hv;simp only[Nat.mul_zero,aBi,List.drop_zero,aBV]at h3;simp only[DW,KP,go_sem];rw[h3 _ _ Z Z Z Z];simp only[go_sem]
def adI:Nat->Nat->List Nat
 |0,_=>[]
 |k+1,n=>if n=0 then []else n%4294967296::adI k (n/4294967296)
theorem aaL:∀ {k n},n<4294967296^k->adI k n=aA n
 |0,n,h=>by
  have:=by simpa using h
  subst this;rw[gh];rfl
 |k+1,n,h=>by
  unfold adI;split
  ·rename_i h0;rw[h0,gh]
  ·rename_i h0;rw[qE h0,aaL (Nat.div_lt_of_lt_mul (by rw[aB6]at h;omega))]
def aoN(neg:Bool)(M k:Nat)(e:Int):Rd:=if M%2^k=0/\M/2^k%2=1/\M/2^k<4294967296^24 then⟨neg,adI 24 (M/2^k),e+k⟩else⟨neg,aA (M/2^tz M),e+tz M⟩
def bu(neg:Bool)(M:Nat)(e:Int):Rd:=if M=0 then aG else aoN neg M (Nat.gcd M (2^40000)).log2 e
theorem wW{neg}{M}{e}:bu neg M e=if M=0 then aG else⟨neg,aA (M/2^tz M),e+tz M⟩:=by
 unfold bu;split
 ·rfl
 ·generalize Nat.log2 _=k;unfold aoN;split
  ·rename_i h0 h;obtain⟨h1,h2,h3⟩:=h;have e1:=(Nat.mul_div_cancel' (Nat.dvd_of_mod_eq_zero h1)).symm;have e2:tz M=k:=by
    rw[e1,KU _ ω,zo h2,aBR]
   rw[e2,aaL h3]
  ·rfl
def Exq(e:Int):Prop:=-1000000<=e/\e<=1000000
theorem mU{neg}{m}{e}(hb:Lb m)(h1:m.length<=256)(he:Exq e):R 113 [B neg,lm m,I e] []=some (ae (bu neg (ab m) e),[]):=by
 refine az KY rfl ?_;obtain⟨he1,he2⟩:=he;rw[wW];by_cases h0:ab m=0
 ·have hd:R 165 [lm m] []=some (lm [],[]):=by
   grind[XV,gh]
  rw[aq h0];simp only[qu,ae,aj,aG,go_sem,hd,aB1,aBV]
 have hn:=fun h=>h0 (py.1 h);have hl:0< (aA (ab m)).length:=by
  grind
 have hl2:=aBq (dM m hb) h1;have hdb:Lb (aA (ab m)):=bJ _;have e1:(((aA (ab m)).length:Int)=0)=False:=ff;have ht:=VJ (k:=32*256) h0 (by
  have:=dN hb;have h3:4294967296^m.length<=4294967296^256:=aB4 δ h1;omega)
 have hlow:=aoM hdb ω (by grind[bp]);rw[bp]at hlow;have hs:=afB (n:=(tz (ab m))) hdb hl2;rw[ax ω,bp,aBr]at hs;have hq:aA (ab m/2^tz (ab m))≠[]:=by
  intro h;have:=(AF h0).2;rw[py.1 h]at this;omega
 have hq2:(aA (ab m/2^tz (ab m))).length<=100000:=by
  have h5:(aA (ab m/2^tz (ab m))).length<=m.length:=lE (aBU (Nat.div_le_self _ _) (dN hb));omega
 have hc:=Jd hq hq2;have e2:aS (e+(tz (ab m)))=e+(tz (ab m)):=by grind[i64_in]
 rw[ax h0];simp only[qu,ae,aj,go_sem,XV hb (aBU h1 δ),e1,hlow,hs,hc,SB,e2]
theorem BW{d}(h:vd d=true)(h0:d.m.length≠0):d.m.length<=256/\d.m.getD 0 0%2=1/\d.m.getD (d.m.length-1) 0≠0/\s9 (ag (ab d.m)) d.e=true:=by
 simp_all[vd,ax,aBk,decide_eq_true_eq]
theorem CD{d}(h:vd d=true)(h0:d.m.length=0):d=aG:=by
 unfold vd at h;obtain⟨n,m,e⟩:=d;grind[aG]
theorem CE{n}{e}(h:s9 n e=true)(h0:n≠0):n<=4096∧-16384<=e/\e<=16384/\n+e<=16384:=by
 simp_all[s9,Bool.or_eq_true,aBk,decide_eq_true_eq]
theorem fA{d}(h:vd d=true)(_hb:Lb d.m):d.m.length<=256∧-16384<=d.e/\d.e<=16384/\ag (ab d.m)<=4096:=by
 by_cases h0:d.m.length=0
 ·rw[CD h h0];exact⟨by decide,by decide,by decide,by decide⟩
 obtain⟨h1,h2,h3,h4⟩:=BW h h0;have hv:ab d.m≠0:=by
  have:=gx d.m 0;grind
 have hn:ag (ab d.m)≠0:=by
  grind[ju]
 obtain⟨h5,h6,h7,h8⟩:=CE h4 hn;omega
def aW(d:Rd):Int:=if vd d=false\/d.m.length=0 then 0 else(ag (ab d.m))+d.e
theorem zA{d}(ok:Ok0 d):R 149 [ae d] []=some (I (aW d),[]):=by
 refine az Xu rfl ?_;have e9:=eG ok;simp only[ae,aj]at e9;unfold aW;cases hv:vd d with
 |false=>
  rw[hv]at e9;rw[aq (Or.inl rfl)];simp only[uU,ae,aj,go_sem,e9]
 |true=>
  rw[hv]at e9;by_cases a0:d.m.length=0
  ·have e1:((d.m.length:Int)=0)=True:=tt;rw[aq (Or.inr a0)];simp only[uU,ae,aj,go_sem,e9,e1]
  ·have e1:((d.m.length:Int)=0)=False:=ff;rw[ax (fun h=>h.elim (fun h=>nomatch h) a0)];obtain⟨h1,h2,h3,h4⟩:=fA hv ok.lb;have e2:aS ((ag (ab d.m))+d.e)=(ag (ab d.m))+d.e:=by grind[i64_in]
   simp only[uU,ae,aj,go_sem,e9,e1,yc ok.lb (aBq h1 δ),e2]
theorem OD{d}(ok:Ok0 d):R 66 [ae d] []=some (I (if vd d=true then(ag (ab d.m))else 0),[]):=by
 refine az Vd rfl ?_;have e9:=eG ok;simp only[ae,aj]at e9;cases hv:vd d with
 |false=>
  rw[hv]at e9;simp only[xK,ae,aj,go_sem,e9]
 |true=>
  rw[hv]at e9;obtain⟨h1,h2,h3,h4⟩:=fA hv ok.lb;simp only[xK,ae,aj,go_sem,e9,yc ok.lb (aBq h1 δ)]
theorem BX{d}(ok:Ok0 d):R 112 [ae d] []=some (ae (if vd d=false\/d.m.length=0 then aG else⟨!d.neg,d.m,d.e⟩),[]):=by
 refine az Xo rfl ?_;have e9:=eG ok;simp only[ae,aj]at e9;cases hv:vd d with
 |false=>
  rw[hv]at e9;rw[aq (Or.inl rfl)];simp only[uP,ae,aj,aG,go_sem,e9]
 |true=>
  rw[hv]at e9;by_cases a0:d.m.length=0
  ·have e1:((d.m.length:Int)=0)=True:=tt;rw[aq (Or.inr a0)];simp only[uP,ae,aj,aG,go_sem,e9,e1]
  ·have e1:((d.m.length:Int)=0)=False:=ff;rw[ax (fun h=>h.elim (fun h=>nomatch h) a0)];obtain⟨h1,h2,h3,h4⟩:=fA hv ok.lb;have hc:=Jd (m:=d.m) (fun h=>a0 γ) (aBq h1 δ);simp only[uP,ae,aj,go_sem,e9,e1,hc]
theorem K5{d}(ok:Ok0 d):R 147 [ae d] []=some (ae (if vd d=false\/d.m.length=0 then aG else⟨false,d.m,d.e⟩),[]):=by
 refine az Xt rfl ?_;have e9:=eG ok;simp only[ae,aj]at e9;cases hv:vd d with
 |false=>
  rw[hv]at e9;rw[aq (Or.inl rfl)];simp only[uT,ae,aj,aG,go_sem,e9]
 |true=>
  rw[hv]at e9;by_cases a0:d.m.length=0
  ·have e1:((d.m.length:Int)=0)=True:=tt;rw[aq (Or.inr a0)];simp only[uT,ae,aj,aG,go_sem,e9,e1]
  ·have e1:((d.m.length:Int)=0)=False:=ff;rw[ax (fun h=>h.elim (fun h=>nomatch h) a0)];obtain⟨h1,h2,h3,h4⟩:=fA hv ok.lb;have hc:=Jd (m:=d.m) (fun h=>a0 γ) (aBq h1 δ);simp only[uT,ae,aj,go_sem,e9,e1,hc]
theorem Ey{m}(hb:Lb m)(h1:m.length<=256){k:Nat}(hk:k<=65536)(hl:(aA (ab m*2^k)).length<=256):R 154 [lm m,I k] []=some (lm (aA (ab m*2^k)),[]):=by
 refine az Oh rfl ?_;have hs:=afz (n:=k) hb h1;rw[ax ω,aBr,mI,ax ω]at hs;simp only[yH,go_sem,hs]
theorem alJ{neg}{m}{e}(hb:Lb m)(hl:m.length<4611686018427387904):R 262 [B neg,lm m,I e] []=some (if 256<m.length\/e< -32768\/32768<e then .tup [ae aG,I 1]
  else if s9 (ag (ab (bu neg (ab m) e).m)) (bu neg (ab m) e).e=true then .tup [ae (bu neg (ab m) e),I 0]else .tup [ae aG,I 9],[]):=by
 refine az Vy rfl ?_;by_cases a1:256<m.length
 ·have e1:((256:Int)<m.length)=True:=tt;rw[aq (Or.inl a1)];simp only[pu,ae,aj,aG,go_sem,e1]
 have e1:((256:Int)<m.length)=False:=ff;by_cases a2:e< -32768\/32768<e
 ·have e2:(decide (-32768<=e)&&decide (e<=32768))=false:=by
   grind
  rw[aq (Or.inr a2)];simp only[pu,ae,aj,aG,go_sem,e1,zu,e2]
 have e2:(decide (-32768<=e)&&decide (e<=32768))=true:=by
  grind
 rw[ax (fun h=>h.elim a1 a2)];have hc:=mU (neg:=neg) (e:=e) hb ω ⟨by omega,by omega⟩;have hL:Lb (bu neg (ab m) e).m:=by
  rw[wW];split
  ·exact fun x hx=>nomatch hx
  grind[bJ]
 have hN:(bu neg (ab m) e).m.length<=100000:=by
  rw[wW];split
  ·exact aBB _
  ·have h5:(aA (ab m/2^tz (ab m))).length<=m.length:=lE (aBU (Nat.div_le_self _ _) (dN hb));grind
 have hd:=BV hL hN;generalize bu neg (ab m) e=d at hc hd⊢;simp only[ae,aj]at hc hd;cases hv:s9 (ag (ab d.m)) d.e with
 |false=>
  rw[hv,ax (fun h=>nomatch h)]at hd;simp only[pu,ae,aj,aG,go_sem,e1,zu,e2,hc,hd]
 |true=>
  rw[hv,aq rfl]at hd;simp only[pu,ae,aj,go_sem,e1,zu,e2,hc,hd]
def mg(d:Rd):Nat:=ab d.m*2^ (d.e+16384).toNat
def zI(d:Rd):Int:=if d.neg=true then-(mg d)else mg d
theorem aiS{x y k}(hk:0<k):eE (x*k) (y*k)=eE x y:=by
 simp_all[eE,Nat.mul_lt_mul_right,aq,ax]
theorem Qu{x y}(h:ag x<ag y):x<y:=by
 have h1:=(bT (n:=x) (k:=ag x)).1 (aBh _);have h2:=lw.1 h;omega
theorem ef{d}(h:vd d=true)(h0:d.m.length≠0):ab d.m≠0:=by
 obtain⟨h1,h2,h3,h4⟩:=BW h h0;have:=gx d.m 0;grind
theorem aaM{d}(h:vd d=true)(hb:Lb d.m)(h0:d.m.length≠0):(ag (mg d))=aW d+16384:=by
 obtain⟨h1,h2,h3,h4⟩:=fA h hb;unfold mg aW;rw[ed _ (ef h h0),ax (fun h'=>h'.elim (fun h''=>by grind) h0)];omega
theorem CF{d}{e}(h1:-16384<=e)(h2:e<=d.e):mg d=ab d.m*2^ (d.e-e).toNat*2^ (e+16384).toNat:=by
 unfold mg;rw[aBH,←aBx];grind
theorem bk{n k}(h:ag n<=32*k):(aA n).length<=k:=by
 refine lE ?_;have:=bT.1 h;grind[Nat.pow_mul]
theorem adJ{a b}(oa:Ok0 a)(ob:Ok0 b)(va:vd a=true)(vb:vd b=true)(na:a.m.length≠0)(nb:b.m.length≠0):R 101 [ae a,ae b] []=some (I (eE (mg a) (mg b)),[]):=by
 refine az Oc rfl ?_;have ta:=zA oa;have tb:=zA ob;have ba:=aaM va oa.lb na;have bb:=aaM vb ob.lb nb;simp only[ae,aj]at ta tb;by_cases h1:aW a<aW b
 ·have h2:eE (mg a) (mg b)=-1:=by
   rw[eE,aq (Qu ω)]
  have e1:=tt h1;rw[h2];simp only[nS,ae,aj,go_sem,ta,tb,e1]
 have e1:=ff h1;by_cases h2:aW b<aW a
 ·have h3:eE (mg a) (mg b)=1:=by
   have:=Qu (x:=mg b) (y:=mg a) ω;rw[eE,ax ω,aq this]
  have e2:=tt h2;rw[h3];simp only[nS,ae,aj,go_sem,ta,tb,e1,e2]
 have e2:=ff h2;obtain⟨a1,a2,a3,a4⟩:=fA va oa.lb;obtain⟨b1,b2,b3,b4⟩:=fA vb ob.lb;obtain⟨e,hm⟩:∃e,(if b.e<a.e then b.e else a.e)=e:=⟨_,rfl⟩;have hea:e<=a.e/\e<=b.e/\(e=a.e\/e=b.e):=by
  omega
 obtain⟨m1,m2,m3⟩:=hea;have ka:aS (a.e-e)=((a.e-e).toNat:Nat):=wi;have kb:aS (b.e-e)=((b.e-e).toNat:Nat):=wi;have hta:aW a=(ag (ab a.m))+a.e:=by
  simp_all[aW,ax]
 have htb:aW b=(ag (ab b.m))+b.e:=by
  simp_all[aW,ax]
 have la:(aA (ab a.m*2^ (a.e-e).toNat)).length<=256:=bk (by
  grind[ed,ef])
 have lb:(aA (ab b.m*2^ (b.e-e).toNat)).length<=256:=bk (by
  grind[ed,ef])
 have sa:=Ey oa.lb a1 (k:=(a.e-e).toNat) ω la;have sb:=Ey ob.lb b1 (k:=(b.e-e).toNat) ω lb;have hc:=BU (bJ (ab a.m*2^ (a.e-e).toNat)) (bJ (ab b.m*2^ (b.e-e).toNat)) (aBq la δ) (aBq lb δ);rw[bp,bp,←aiS (k:=2^ (e+16384).toNat) (aBA _),←CF ω m1,←CF ω m2]at hc;simp only[nS,ae,aj,go_sem,ta,tb,e1,e2,hm,ka,kb,sa,sb,hc]
def gy(x y:Int):Int:=if x<y then-1 else if y<x then 1 else 0
def kj(d:Rd):Int:=if d.m.length=0 then 0 else if d.neg=true then-1 else 1
theorem aaN{d}(h0:d.m.length=0):mg d=0:=by
 unfold mg;rw[List.length_eq_zero_iff.1 h0];exact Nat.zero_mul _
theorem HY{d}(h:vd d=true)(h0:d.m.length≠0):0<mg d:=
 Nat.mul_pos (Nat.pos_of_ne_zero (ef h h0)) (aBA _)
theorem OE(d)(h:vd d=true):(kj d=0/\zI d=0/\d.m.length=0)\/(kj d=-1/\zI d=-(mg d)/\0<mg d/\d.m.length≠0)\/(kj d=1/\zI d=mg d/\0<mg d/\d.m.length≠0):=by
 unfold kj zI;by_cases h0:d.m.length=0
 ·grind[aaN]
 ·have:=HY h h0;grind
theorem Al{d}(ok:Ok0 d)(hv:vd d=true):R 100 [ae d] []=some (I (kj d),[]):=by
 simp_all[SE,kj,aq,ax]
theorem pF{a b}(oa:Ok0 a)(ob:Ok0 b):R 43 [ae a,ae b] []=some (I (if vd a=true/\vd b=true then gy (zI a) (zI b)else 0),[]):=by
 refine az Xi rfl ?_;have va:=eG oa;have vb:=eG ob;simp only[ae,aj]at va vb;cases ha:vd a with
 |false=>
  rw[ha]at va;simp only[lA,ae,aj,go_sem,va]
 |true=>
 rw[ha]at va;cases hb:vd b with
 |false=>
  rw[hb]at vb;simp only[lA,ae,aj,go_sem,va,vb]
 |true=>
 rw[hb]at vb;have sa:=Al oa ha;have sb:=Al ob hb;have ca:=OE a ha;have cb:=OE b hb;simp only[ae,aj]at sa sb;by_cases h1:kj a<kj b
 ·have e1:=tt h1;have e2:gy (zI a) (zI b)=-1:=aq ω;rw[e2];simp only[lA,ae,aj,go_sem,va,vb,sa,sb,e1]
 have e1:=ff h1;by_cases h2:kj b<kj a
 ·have e2:=tt h2;have e3:gy (zI a) (zI b)=1:=by rw[gy,ax ω,aq ω]
  rw[e3];simp only[lA,ae,aj,go_sem,va,vb,sa,sb,e1,e2]
 have e2:=ff h2;by_cases h3:kj a=0
 ·have e3:=tt h3;have e4:gy (zI a) (zI b)=0:=by rw[gy,ax ω,ax ω]
  rw[e4];simp only[lA,ae,aj,go_sem,va,vb,sa,sb,e1,e2,e3]
 have e3:=ff h3;have hc:=adJ oa ob ha hb ω ω;simp only[ae,aj]at hc;have e4:IntKind.i64.wrap (kj a*eE (mg a) (mg b))=gy (zI a) (zI b):=by
  have hp:kj a*eE (mg a) (mg b)=gy (zI a) (zI b):=by
   rcases ca with ca|ca|ca
   ·omega
   ·rw[ca.1,ca.2.1];unfold eE gy;omega
   ·rw[ca.1,ca.2.1];unfold eE gy;omega
  rw[hp];unfold gy;split
  ·decide
  ·split<;>decide
 simp only[lA,ae,aj,go_sem,va,vb,sa,sb,e1,e2,e3,hc,e4]
theorem K6(x y):ag (x*y)<=ag x+ag y:=by
 rw[bT,aBx];exact Nat.mul_lt_mul'' (bT.1 (aBh _)) (bT.1 (aBh _))
theorem ye(neg)(M)(e):Lb (bu neg M e).m:=by
 rw[wW];split
 ·exact fun x hx=>nomatch hx
 grind[bJ]
theorem wX{neg}{M}{e}{k}(h:ag M<=32*k):(bu neg M e).m.length<=k:=by
 rw[wW];split
 ·exact aBB _
 ·refine bk ?_;grind[nN]
def Je(d:Rd):AV:=if s9 (ag (ab d.m)) d.e=true then .tup [ae d,I 0]else .tup [ae aG,I 9]
def VL(a b:Rd):AV:=if vd a=true/\vd b=true then if a.m.length=0\/b.m.length=0 then .tup [ae aG,I 0]else if 4096<ag (ab a.m)+ag (ab b.m)-1 then .tup [ae aG,I 9]else Je (bu (a.neg !=b.neg) (ab a.m*ab b.m) (a.e+b.e))else .tup [ae aG,I 1]
theorem BY(a b:Bool):(true != (a==b))=(a !=b):=by cases a<;>cases b<;>rfl
theorem alK{a b}(oa:Ok0 a)(ob:Ok0 b):R 131 [ae a,ae b] []=some (VL a b,[]):=by
 refine az Xr rfl ?_;unfold VL;have va:=eG oa;have vb:=eG ob;simp only[ae,aj]at va vb;cases ha:vd a with
 |false=>
  rw[ha]at va;simp only[jR,ae,aj,aG,go_sem,va]
 |true=>
 rw[ha]at va;cases hb:vd b with
 |false=>
  rw[hb]at vb;simp only[jR,ae,aj,aG,go_sem,va,vb]
 |true=>
 rw[hb]at vb;rw[aq ⟨rfl,rfl⟩];by_cases a0:a.m.length=0
 ·have e1:((a.m.length:Int)=0)=True:=tt;rw[aq (Or.inl a0)];simp only[jR,ae,aj,aG,go_sem,va,vb,e1]
 have e1:((a.m.length:Int)=0)=False:=ff;by_cases b0:b.m.length=0
 ·have e2:((b.m.length:Int)=0)=True:=tt;rw[aq (Or.inr b0)];simp only[jR,ae,aj,aG,go_sem,va,vb,e1,e2]
 have e2:((b.m.length:Int)=0)=False:=ff;rw[ax (fun h=>h.elim a0 b0)];obtain⟨a1,a2,a3,a4⟩:=fA ha oa.lb;obtain⟨b1,b2,b3,b4⟩:=fA hb ob.lb;have za:=yc oa.lb (aBq a1 δ);have zb:=yc ob.lb (aBq b1 δ);have pa:=ju (ef ha a0);have w1:aS ((ag (ab a.m):Nat)+(ag (ab b.m)))=(ag (ab a.m)+ag (ab b.m):Nat):=wi;have w2:aS ((ag (ab a.m)+ag (ab b.m):Nat)-1)=(ag (ab a.m)+ag (ab b.m)-1:Nat):=wi;by_cases c0:4096<ag (ab a.m)+ag (ab b.m)-1
 ·have e3:((4096:Int)< ((ag (ab a.m)+ag (ab b.m)-1:Nat):Int))=True:=tt;rw[aq c0];simp only[jR,ae,aj,aG,go_sem,va,vb,e1,e2,za,zb,w1,w2,e3]
 have e3:((4096:Int)< ((ag (ab a.m)+ag (ab b.m)-1:Nat):Int))=False:=ff;rw[ax c0];have hp:=K6 (ab a.m) (ab b.m);have hl:(aA (ab a.m*ab b.m)).length<=129:=bk ω;have hm:=afy oa.lb ob.lb a1 b1;rw[mI,ax ω]at hm;have w3:aS (a.e+b.e)=a.e+b.e:=i64_in _ ⟨by omega,by omega⟩;have hc:=mU (neg:=a.neg !=b.neg) (e:=a.e+b.e) (bJ (ab a.m*ab b.m)) (aBq hl δ) ⟨by omega,by omega⟩;rw[bp]at hc;have hd:=BV (ye (a.neg !=b.neg) (ab a.m*ab b.m) (a.e+b.e)) (aBq (wX (k:=129) ω) δ);unfold Je;generalize bu (a.neg !=b.neg) (ab a.m*ab b.m) (a.e+b.e)=d at hc hd⊢;simp only[ae,aj]at hc hd;cases hv:s9 (ag (ab d.m)) d.e with
 |false=>
  rw[hv,ax (fun h=>nomatch h)]at hd;rw[ax (fun h=>nomatch h)];simp only[jR,ae,aj,aG,go_sem,va,vb,e1,e2,za,zb,w1,w2,w3,e3,hm,BY,hc,hd]
 |true=>
  rw[hv,aq rfl]at hd;rw[aq rfl];simp only[jR,ae,aj,go_sem,va,vb,e1,e2,za,zb,w1,w2,w3,e3,hm,BY,hc,hd]
theorem Qv{p}:R 118 [I p] []=some (B (decide (8<=p)&&decide (p<=512)),[]):=by
 refine az Qd rfl ?_;by_cases a1:¬ (8<=p)
 ·simp only[uj,go_sem,a1]
 replace a1:=Decidable.not_not.1 a1
 simp only[uj,go_sem,a1]
theorem OF{m}(hb:Lb m):ag (ab m)<=32*m.length:=by
 rw[bT,Nat.pow_mul];exact dN hb
def zB(m:List Nat)(e:Int)(more:Bool):AV:=.agg [lm m,I e,B more]
theorem ar6{d}:R 235 [ae d] []=some (zB d.m d.e false,[]):=by
 refine az adA rfl ?_;simp only[Hd,ae,aj,zB,go_sem]
theorem CG{m}(hb:Lb m)(h1:m.length<=256){k:Nat}(hk:k<=65536)(hl:(aA (ab m*2^k)).length<=256):R 190 [lm m,I k] []=some (lm (aA (ab m*2^k)),[]):=by
 refine az Z7 rfl ?_;have hs:=afz (n:=k) hb h1;rw[ax ω,aBr,mI,ax ω]at hs;simp only[Fk,go_sem,hs]
theorem afC{x y}:eE x y=0↔x=y:=by
 unfold eE;constructor
 ·intro h;split at h
  ·exact nomatch h
  ·split at h
   ·exact nomatch h
   ·omega
 ·intro h;rw[ax ω,ax ω]
theorem aiT{x n}:x/2^ (min n (ag x))=x/2^n/\(x/2^ (min n (ag x))*2^ (min n (ag x))=x↔x%2^n=0):=by
 by_cases h:n<=ag x
 ·rw[aCc h];refine⟨rfl,?_⟩;have:=aCb x (2^n);rw[aBD]at this;omega
 ·have hb:x<2^ag x:=bT.1 (aBh _);have hn:x<2^n:=bT.1 ω;rw[Nat.min_eq_right ω,Nat.div_eq_of_lt hb,Nat.div_eq_of_lt hn,aB8 hn,Nat.zero_mul];exact⟨rfl,⟨fun h=>h.symm,fun h=>h.symm⟩⟩
theorem aaO{m}(hb:Lb m)(h1:m.length<=256)(hn:n<4611686018427387904):R 236 [lm m,I n] []=some (.tup [lm (aA (ab m/2^n)),B (decide (ab m%2^n≠0))],[]):=by
 refine az aab rfl ?_;have hB:=HX hb (aBq h1 δ);have hlen:=OF hb;obtain⟨q1,q2⟩:=aiT (x:=ab m) (n:=n);generalize hk:min n (ag (ab m))=k at q1 q2;have k1:=ω
 have hs:=afB (n:=k) hb h1;rw[ax ω,aBr,q1]at hs;rw[q1]at q2;have hle:ab m/2^n*2^k<=ab m:=by
  rw[←q1];exact Nat.div_mul_le_self _ _
 have l1:(aA (ab m/2^n)).length<=m.length:=lE (aBU (Nat.div_le_self _ _) (dN hb));have l2:=lE (aBU hle (dN hb));have hl:=CG (bJ (ab m/2^n)) ω (k:=k) ω (by rw[bp];omega);rw[bp]at hl;have hc:=BU (bJ (ab m/2^n*2^k)) hb ω ω;rw[bp]at hc;have hz:decide (ab m%2^n≠0)=!decide (eE (ab m/2^n*2^k) (ab m)=0):=by
  rw[←decide_not,decide_eq_decide,ne_eq,not_congr (afC.trans q2)]
 rw[hz];generalize eE (ab m/2^n*2^k) (ab m)=c at hc⊢;by_cases h:ag (ab m)<n
 ·have e2:k=ag (ab m):=ω
  have e1:((k:Int)<n)=True:=tt;rw[←e2]at hB;simp only[BJ,go_sem,hB,e1,hs,hl,hc]
 ·have e1:(((ag (ab m)):Int)<n)=False:=ff;have e2:k=n:=ω
  subst e2;simp only[BJ,go_sem,hB,e1,hs,hl,hc]
def GE(l:List Rd):List (List AV):=l.map aj
def DC(l:List Rd):AV:=.sl 3 (GE l)
@[go_sem] theorem ayN(l):(GE l).length=l.length:=by simp[GE]
theorem alL{l}{i:Int}{d}(hi:i=n)(h:l[n]?=some d):dX (GE l) i=some (.ipt (aj d)):=by
 grind[dX,GE]
theorem adK(p)(l)(ok:∀d∈l,Ok0 d)(h2:l.length<=100000):∀ (k i:Nat),i+k=l.length->∀s h,s 0=I p->s 7=DC l->s 8=I l.length->s 9=I i->
  ∃hh,ao 0 [0] (aD (ap R (aC false) pK) [0,7,8,9] [] s h)=if((l.drop i).all vd)=true then some (.normal,⟨upd cr 0 (I p),fun _=>.dead⟩)else some (.ret,⟨upd cr 4 (I 1),hh⟩):=by
 intro k;induction k with
 |zero=>
  intro i hi s h h0 h7 h8 h9;have e1:((i:Int)<l.length)=False:=ff;rw[aBQ ω,ai,List.all_nil,aq rfl];refine⟨fun _=>.dead,?_⟩;simp only[pK,go_sem,h0,h7,h8,h9,e1]
 |succ k ih=>
  intro i hi s h h0 h7 h8 h9;have hlt:i<l.length:=ω
  have e1:((i:Int)<l.length)=True:=tt;have e2:=alL rfl (aBp hlt);have e5:aS (i+1)=(i+1:Nat):=wi;have e3:=eG (ok l[i] (aBT hlt));rw[aBJ hlt,aBO,ai];have ih':=ih (i+1) ω;generalize l[i]=d at e2 e3⊢;simp only[ae]at e3;simp only[aj]at e2 e3;cases hv:vd d with
  |false=>
   rw[hv]at e3;refine⟨?hh,?_⟩;rotate_left;simp only[pK,go_sem,h0,h7,h8,h9,DC,e1,e2,e3];rfl
  |true=>
   rw[hv]at e3;simp only[pK,go_sem,h0,h7,h8,h9,DC,e1,e2,e3,e5];apply ih'<;>rfl
def bh(p:Int)(l:List Rd):Int:=if l.all vd=true then(if 8<=p/\p<=512 then 0 else 2)else 1
theorem CH{p}{l}(ok:∀d∈l,Ok0 d)(h2:l.length<=100000):R 65 [I p,DC l] []=some (I (bh p l),[]):=by
 refine az Vc rfl ?_;have h3:=adK p l ok h2 l.length 0 (aBi _);simp only[List.drop_zero,aBV]at h3;unfold bh;cases ha:l.all vd with
 |false=>
  rw[ha]at h3;simp only[sB,zK,go_sem,DC];rw[(h3 _ _ Z Z Z Z).choose_spec];simp only[go_sem]
 |true=>
  rw[ha]at h3;by_cases hp:8<=p/\p<=512
  ·have e1:(decide (8<=p)&&decide (p<=512))=true:=γ
   have e2:=Qv (p:=p);rw[e1]at e2;rw[aq hp];simp only[sB,zK,go_sem,DC];rw[(h3 _ _ Z Z Z Z).choose_spec];simp only[go_sem,e2]
  ·have e1:(decide (8<=p)&&decide (p<=512))=false:=by
    grind
   have e2:=Qv (p:=p);rw[e1]at e2;rw[ax hp];simp only[sB,zK,go_sem,DC];rw[(h3 _ _ Z Z Z Z).choose_spec];simp only[go_sem,e2]
noncomputable def fO:Cmd:=.seq (.seq (.ops [1,2,6,8,9,55] [cm 52 2,cm 53 52,cg 54 53 true (.mv (.t 10)),co 55 (.pick (.t 53) (.t 54) (.c (B false)))]) (.cond (.t 55) (.ops [1,2,6,8,9] [cm 57 9,⟨(some 58),none,.buildSl 1 [(.v (.int .u32 0))] 1 [(0,(.c (.v (.int .u32 1))))]⟩,⟨(some 59),none,.call (.c (.fn 230 [] [])) [(.t 57),(.t 58)]⟩,cm 56 59,co 60 (.ext 0 (.t 56)),co 61 (.ext 1 (.t 56)),cm 9 60]) (.skip))) (.seq (.seq (.ops [1,2,6,8,9,66] [cm 62 9,⟨(some 63),none,.call (.c (.fn 170 [] [])) [(.t 62)]⟩,cm 64 8,co 65 (.bin .add (.t 63) (.t 64)),co 66 (.bin .gtr (.t 65) (.c (I 16384)))]) (.cond (.t 66) (.seq (.seq (.ops [1,6,67] [cm 67 2]) (.cond (.t 67) (.seq (.ops [6,7] [co 68 (.build [B false,.emp,I 0] []),⟨none,none,.store 3 (.t 6) (.t 68)⟩,co 7 (.mv (.c (I 9)))]) (.ret)) (.skip))) (.seq (.ops [1,6,9] [⟨(some 70),none,.buildSl 1 [(.v (.int .u32 0))] 1 [(0,(.c (.v (.int .u32 1))))]⟩,cm 71 1,⟨(some 72),none,.call (.c (.fn 190 [] [])) [(.t 70),(.t 71)]⟩,⟨(some 73),none,.buildSl 1 [(.v (.int .u32 0))] 1 [(0,(.c (.v (.int .u32 1))))]⟩,⟨(some 74),none,.call (.c (.fn 231 [] [])) [(.t 72),(.t 73)]⟩,cm 69 74,co 75 (.ext 0 (.t 69)),co 76 (.ext 1 (.t 69)),cm 9 75]) (.ops [6,8,9] [cm 77 1,co 78 (.bin .sub (.c (I 16384)) (.t 77)),cm 8 78]))) (.skip))) (.seq (.ops [6,7] [cm 79 9,cm 80 8,⟨(some 81),none,.call (.c (.fn 262 [] [])) [(.c (B false)),(.t 79),(.t 80)]⟩,co 82 (.ext 0 (.t 81)),co 83 (.ext 1 (.t 81)),⟨none,none,.store 3 (.t 6) (.t 82)⟩,cm 7 83]) (.ret)))
theorem Am:NB=.seq (.ops [1,2,3,6] [⟨(some 3),none,.box 3 (.t 0)⟩,⟨(some 6),none,.alloc [B false,.emp,I 0]⟩,co 7 (.mv (.c (I 0)))]) (.seq (.dops [1,2,3,6,8] [co 13 (.fadr 1 (.t 3)),⟨(some 14),none,.load 1 false (.t 13)⟩,co 15 (.fadr 0 (.t 3)),⟨(some 16),none,.load 1 false (.t 15)⟩,⟨(some 17),none,.call (.c (.fn 170 [] [])) [(.t 16)]⟩,co 18 (.bin .add (.t 14) (.t 17)),cm 19 1,co 20 (.bin .sub (.t 18) (.t 19)),co 21 (.mnx false (.t 20) [(.c (.v (.int .i64 (-16384))))]),cm 8 21] [(1,4)]) (.seq (.dops [1,2,3,6,8,10] [co 22 (.fadr 0 (.t 3)),⟨(some 23),none,.load 1 false (.t 22)⟩,co 24 (.fadr 2 (.t 3)),⟨(some 25),none,.load 1 false (.t 24)⟩,cm 9 23,cm 10 25] []) (.seq (.seq (.ops [1,2,3,6,8,10,29] [co 26 (.fadr 1 (.t 3)),⟨(some 27),none,.load 1 false (.t 26)⟩,cm 28 8,co 29 (.bin .geq (.t 27) (.t 28))]) (.cond (.t 29) (.ops [1,2,6,8,9,10] [co 30 (.fadr 0 (.t 3)),⟨(some 31),none,.load 1 false (.t 30)⟩,co 32 (.fadr 1 (.t 3)),⟨(some 33),none,.load 1 false (.t 32)⟩,cm 34 8,co 35 (.bin .sub (.t 33) (.t 34)),⟨(some 36),none,.call (.c (.fn 190 [] [])) [(.t 31),(.t 35)]⟩,cm 9 36]) (.seq (.ops [1,2,6,8,10,11,12] [co 38 (.fadr 0 (.t 3)),⟨(some 39),none,.load 1 false (.t 38)⟩,cm 40 8,co 41 (.fadr 1 (.t 3)),⟨(some 42),none,.load 1 false (.t 41)⟩,co 43 (.bin .sub (.t 40) (.t 42)),⟨(some 44),none,.call (.c (.fn 236 [] [])) [(.t 39),(.t 43)]⟩,cm 37 44,co 45 (.ext 0 (.t 37)),co 46 (.ext 1 (.t 37)),cm 11 45,cm 12 46]) (.ops [1,2,6,8,9,10] [cm 47 11,cm 48 10,cm 49 48,cg 50 49 false (.mv (.t 12)),co 51 (.pick (.t 49) (.c (B true)) (.t 50)),cm 9 47,cm 10 51])))) fO))):=rfl
def eZ(M:Nat)(e:Int)(p:Int):Int:=if e+(ag M)-p< -16384 then-16384 else e+(ag M)-p
def pY(M:Nat)(e:Int)(more:Bool)(u:Int):Nat×Bool:=if u<=e then(M*2^ (e-u).toNat,more)else(M/2^ (u-e).toNat,more||decide (M%2^ (u-e).toNat≠0))
def pe(up:Bool)(q:Nat×Bool):Nat:=if(up&&q.2)=true then q.1+1 else q.1
def Ez(q:Nat)(u:Int):AV:=Je (bu false q u)
def XX(p:Int)(up:Bool)(q:Nat)(u:Int):AV:=if 16384< (ag q)+u then(if up=true then .tup [ae aG,I 9]else Ez (2^p.toNat-1) (16384-p))else Ez q u
theorem aaP{q}{u}(hq:ag q<=8192)(h1:-32768<=u)(h2:u<=32768):R 262 [B false,lm (aA q),I u] []=some (Ez q u,[]):=by
 have hl:(aA q).length<=256:=bk ω;rw[alJ (bJ q) (aBU hl δ),ax ω,bp];rfl
theorem afD{q}(hq:ag q<=8000):R 230 [lm (aA q),lm [1]] []=some (.tup [lm (aA (q+1)),I 0],[]):=by
 have hl:(aA q).length<=250:=bk ω;have h1:Lb [1]:=fun x hx=>by
  grind
 have h2:=OB hq;have hl2:(aA (q+1)).length<=256:=bk ω;rw[afr (bJ q) h1 ω δ,bp];show some (mI (q+1),[])=_
 simp_all[mI,ax]
theorem aaQ:ab [1]=1:=rfl
theorem afE:Lb [1]:=fun x hx=>by
 grind
theorem aoO(n)(hn:n<=1000):R 190 [lm [1],I (n:Nat)] []=some (lm (aA (2^n)),[])/\R 231 [lm (aA (2^n)),lm [1]] []=some (.tup [lm (aA (2^n-1)),I 0],[]):=by
 have hb:ag (2^n)<=n+1:=by
  simp_all[bT,Nat.pow_lt_pow_right,Nat.lt_succ_self]
 have h1:(aA (2^n)).length<=256:=bk ω;have h2:=CG afE δ (k:=n) ω (by simp_all[aaQ,Nat.one_mul]);have h3:=aft (bJ (2^n)) afE h1 δ;have h4:=aBA n;have h5:ag (2^n-1)<=n:=by
  rw[bT];omega
 have h6:(aA (2^n-1)).length<=256:=bk ω
 simp_all[bp,aaQ,ax,mI]
theorem FG:AV.sl 1 [[AV.v (.int .u32 1)]]=lm [1]:=rfl
theorem OG{n}{u}{up more}{q}(hp:8<=n/\n<=512)(hq:ag q<=7000)(hu:-16384<=u/\u<=60000)(s)(z)
  (h1:s 1=I (n:Nat)) (h2:s 2=B up) (h6:s 6=ac 6) (h8:s 8=I u) (h9:s 9=lm (aA q)) (h10:s 10=B more):
  lI false [[.o 0 [],.o 2 [],.o 0 []],[]] [.cell 6 3 true,.t 7] 0 (ap R (aC false) fO s (upd (upd (fun _=>.dead) 3 z) 6 (.bx [B false,.emp,I 0])))=some (XX n up (pe up (q,more)) u,[]):=by
 have hi:=afD (q:=q) ω;obtain⟨t1,t2⟩:=aoO n ω;have hb:ag (pe up (q,more))<=7001:=by
  unfold pe;split
  ·exact OB hq
  grind
 have hB:=HX (bJ (pe up (q,more))) (aBq (bk (k:=256) ω) δ);rw[bp]at hB;have w1:aS ((ag (pe up (q,more)):Nat)+u)=(ag (pe up (q,more)):Nat)+u:=i64_in _ ⟨by omega,by omega⟩;have w2:aS (16384-n)=16384-n:=i64_in _ ⟨by omega,by omega⟩;have hm2:R 262 [B false,lm (aA (2^n-1)),I (16384-n)] []=some (Ez (2^n-1) (16384-n),[]):=aaP (aiN ω) ω ω;unfold XX;by_cases ho:16384< (ag (pe up (q,more)):Nat)+u
 ·have e1:=tt ho;rw[aq ho,aBr];clear ho hb;cases up with
  |false=>
   simp only[pe,aBy,ax aBu]at hB w1 e1⊢;unfold Ez Je at hm2⊢;generalize bu false (2^n-1) (16384-n)=dd at hm2⊢;simp only[ae,aj]at hm2;cases hv:s9 (ag (ab dd.m)) dd.e with
   |true=>
    rw[hv]at hm2;rw[aq rfl]at hm2⊢;simp only[fO,ae,aj,go_sem,h1,h2,h6,h8,h9,h10,hB,w1,e1,w2,t1,t2,FG,hm2]
   |false=>
    rw[hv]at hm2;simp only[fO,ae,aj,aG,go_sem,h1,h2,h6,h8,h9,h10,hB,w1,e1,w2,t1,t2,FG,hm2]
  |true=>
   cases more with
   |false=>
    simp only[pe,Bool.and_false,ax aBu]at hB w1 e1⊢;simp only[fO,ae,aj,aG,go_sem,h1,h2,h6,h8,h9,h10,hB,w1,e1]
   |true=>
    simp only[pe,Bool.and_true,if_true]at hB w1 e1⊢;simp only[fO,ae,aj,aG,go_sem,h1,h2,h6,h8,h9,h10,hB,w1,e1,hi,FG]
 ·have e1:=ff ho;rw[ax ho];have hm:=aaP (q:=pe up (q,more)) (u:=u) ω ω ω;clear ho hb;cases up with
  |false=>
   simp only[pe,aBy,ax aBu]at hB w1 e1 hm⊢;unfold Ez Je at hm⊢;generalize bu false q u=dd at hm⊢;simp only[ae,aj]at hm;cases hv:s9 (ag (ab dd.m)) dd.e with
   |true=>
    rw[hv]at hm;rw[aq rfl]at hm⊢;simp only[fO,ae,aj,go_sem,h1,h2,h6,h8,h9,h10,hB,w1,e1,hm]
   |false=>
    rw[hv]at hm;simp only[fO,ae,aj,aG,go_sem,h1,h2,h6,h8,h9,h10,hB,w1,e1,hm]
  |true=>
   cases more with
   |false=>
    simp only[pe,Bool.and_false,ax aBu]at hB w1 e1 hm⊢;unfold Ez Je at hm⊢;generalize bu false q u=dd at hm⊢;simp only[ae,aj]at hm;cases hv:s9 (ag (ab dd.m)) dd.e with
    |true=>
     rw[hv]at hm;rw[aq rfl]at hm⊢;simp only[fO,ae,aj,go_sem,h1,h2,h6,h8,h9,h10,hB,w1,e1,hm]
    |false=>
     rw[hv]at hm;simp only[fO,ae,aj,aG,go_sem,h1,h2,h6,h8,h9,h10,hB,w1,e1,hm]
   |true=>
    simp only[pe,Bool.and_true,if_true]at hB w1 e1 hm⊢;unfold Ez Je at hm⊢;generalize bu false (q+1) u=dd at hm⊢;simp only[ae,aj]at hm;cases hv:s9 (ag (ab dd.m)) dd.e with
    |true=>
     rw[hv]at hm;rw[aq rfl]at hm⊢;simp only[fO,ae,aj,go_sem,h1,h2,h6,h8,h9,h10,hB,w1,e1,hi,FG,hm]
    |false=>
     rw[hv]at hm;simp only[fO,ae,aj,aG,go_sem,h1,h2,h6,h8,h9,h10,hB,w1,e1,hi,FG,hm]
theorem aoP{M}(hb:Lb M)(hl:M.length<=256){e}{n}{more up}(he:-40000<=e/\e<=40000)(hp:8<=n/\n<=512):R 225 [zB M e more,I (n:Nat),B up] []=some (XX n up (pe up (pY (ab M) e more (eZ (ab M) e n))) (eZ (ab M) e n),[]):=by
 refine az aaa rfl ?_;have hB:=HX hb (aBq hl δ);have hlen:=OF hb;have w1:aS (e+(ag (ab M):Nat))=e+(ag (ab M):Nat):=i64_in _ ⟨by omega,by omega⟩;have w2:aS (e+(ag (ab M):Nat)- (n:Nat))=e+(ag (ab M):Nat)- (n:Nat):=i64_in _ ⟨by omega,by omega⟩;obtain⟨u,hu⟩:∃u,eZ (ab M) e n=u:=⟨_,rfl⟩;rw[hu];unfold eZ at hu;unfold pY;by_cases hc:u<=e
 ·have e1:=tt hc;rw[aq hc];have w3:aS (e-u)=(((e-u).toNat:Nat):Int):=wi;have hq:ag (ab M*2^ (e-u).toNat)<=7000:=by
   grind[ed]
  by_cases h64:(e-u).toNat<=65536
  ·have hs:=CG hb ω (k:=(e-u).toNat) h64 (bk ω);simp only[wM,Am,zB,go_sem,hB,w1,w2,hu,e1,w3,hs];exact OG hp hq ω _ _ Z Z Z Z Z Z
  omega
 ·have e1:(u<=e)=False:=ff hc;rw[ax hc];have w3:aS (u-e)=(((u-e).toNat:Nat):Int):=wi;have hs:=aaO hb ω (n:=(u-e).toNat) ω;have hq:ag (ab M/2^ (u-e).toNat)<=7000:=by
   grind[nN]
  cases more with
  |false=>
   rw[Bool.false_or];simp only[wM,Am,zB,go_sem,hB,w1,w2,hu,e1,w3,hs];exact OG hp hq ω _ _ Z Z Z Z Z Z
  |true=>
   rw[Bool.true_or];simp only[wM,Am,zB,go_sem,hB,w1,w2,hu,e1,w3,hs];exact OG hp hq ω _ _ Z Z Z Z Z Z
def cS(d:Rd):Rd×Int:=if s9 (ag (ab d.m)) d.e=true then(d,0)else(aG,9)
def uA(p:Int)(up:Bool)(q:Nat)(u:Int):Rd×Int:=if 16384< (ag q)+u then(if up=true then(aG,9)else cS (bu false (2^p.toNat-1) (16384-p)))else cS (bu false q u)
def rV(r:Rd×Int):AV:=.tup [ae r.1,I r.2]
theorem Ma(d):Je d=rV (cS d):=by
 unfold Je cS;split<;>rfl
theorem alM(p)(up)(q)(u):XX p up q u=rV (uA p up q u):=by
 unfold XX uA Ez;split
 ·split
  ·rfl
  grind[Ma]
 grind[Ma]
theorem XY(n):ag (2^n-1)<=n:=by
 rw[bT];grind
theorem alN(p)(up)(q)(u):Lb (uA p up q u).1.m:=by
 have h0:Lb aG.m:=fun x hx=>nomatch hx
 grind[Lb,cS,uA,ye]
theorem aiU(p)(up)(q)(u)(hp:p.toNat<=8000)(hq:ag q<=8000):(uA p up q u).1.m.length<=256:=by
 have h0:aG.m.length<=256:=aBB _;have hc:∀d,d.m.length<=256->(cS d).1.m.length<=256:=fun d hd=>by
  grind[cS]
 grind[uA,wX,aBq,XY]
def fC(d:Rd):Rd:=if vd d=false\/d.m.length=0 then aG else⟨!d.neg,d.m,d.e⟩
def cO(M:Nat)(e:Int)(more:Bool)(p:Int)(up:Bool):Rd×Int:=uA p up (pe up (pY M e more (eZ M e p))) (eZ M e p)
def iX(neg:Bool)(r:Rd×Int):Rd×Int:=if r.2=0/\neg=true then(fC r.1,r.2)else r
theorem afF{M}{e}{more up}{n}(hM:ag M<=8192)(hp:8<=n/\n<=512)(he:-40000<=e/\e<=40000):ag (pe up (pY M e more (eZ M e (n:Nat))))<=7001:=by
 have hq:ag (pY M e more (eZ M e n)).1<=7000:=by
  obtain⟨u,hu⟩:∃u,eZ M e n=u:=⟨_,rfl⟩;rw[hu];unfold eZ at hu;unfold pY;split
  ·grind[ed]
  grind[nN]
 unfold pe;split
 ·exact OB hq
 omega
theorem GF{M}(hb:Lb M)(hl:M.length<=256){e}{n}{more up neg}(he:-40000<=e/\e<=40000)(hp:8<=n/\n<=512):R 191 [B neg,zB M e more,I (n:Nat),B up] []=some (rV (iX neg (cO (ab M) e more n (up !=neg))),[]):=by
 refine az Sn rfl ?_;have hc:=aoP (more:=more) (up:=up !=neg) hb hl he hp;have hlen:=OF hb;have hB:=afF (M:=ab M) (e:=e) (more:=more) (up:=up !=neg) ω hp he;rw[alM]at hc;have hL:=alN n (up !=neg) (pe (up !=neg) (pY (ab M) e more (eZ (ab M) e n))) (eZ (ab M) e n);have hN:=aiU n (up !=neg) (pe (up !=neg) (pY (ab M) e more (eZ (ab M) e n))) (eZ (ab M) e n) ω ω;unfold cO;generalize uA n (up !=neg) (pe (up !=neg) (pY (ab M) e more (eZ (ab M) e n))) (eZ (ab M) e n)=r at hc hL hN⊢;obtain⟨d,x⟩:=r;have hn:=BX (d:=d) ⟨hL,aBU hN δ⟩;simp only[rV,ae,aj,zB]at hc hn;unfold iX fC;by_cases hx:x=0
 ·have e1:=tt hx;cases neg with
  |false=>
   simp only[qX,rV,ae,aj,zB,go_sem,BY,hc,e1]
  |true=>
   simp only[qX,rV,ae,aj,zB,go_sem,BY,hc,e1,hn]
 ·have e1:=ff hx;simp only[qX,rV,ae,aj,zB,go_sem,BY,hc,e1]
def ve(d:Rd)(p:Int)(up:Bool):Rd×Int:=if bh p [d]=0 then iX d.neg (cO (ab d.m) d.e false p (up !=d.neg))else(aG,bh p [d])
theorem wY{p}{l}(h:bh p l=0):l.all vd=true/\8<=p/\p<=512:=by
 unfold bh at h;split at h
 ·rename_i h1;split at h
  ·rename_i h2;exact⟨h1,h2⟩
  ·exact nomatch h
 ·exact nomatch h
theorem wZ{d}(h:vd d=true)(hb:Lb d.m):d.m.length<=128:=by
 obtain⟨h1,h2,h3,h4⟩:=fA h hb;by_cases h0:d.m.length=0
 ·omega
 obtain⟨g1,g2,g3,g4⟩:=BW h h0;have h5:4294967296^ (d.m.length-1)<=ab d.m:=by
  have h6:=J1 (a:=d.m) (i:=d.m.length-1) ω;rw[show d.m.length-1+1=d.m.length by omega,List.take_length]at h6;rw[h6];exact aBq (Nat.le_mul_of_pos_right _ (Nat.pos_of_ne_zero g3)) (Nat.le_add_left _ _)
 have h7:32*(d.m.length-1)<ag (ab d.m):=by
  rw[lw,Nat.pow_mul];exact h5
 omega
theorem Jf{d}(ok:Ok0 d){p}{up}:R 198 [ae d,I p,B up] []=some (rV (ve d p up),[]):=by
 refine az Vq rfl ?_;have hf:R 65 [I p,.sl 3 [[B d.neg,lm d.m,I d.e]]] []=some (I (bh p [d]),[]):=CH (p:=p) (l:=[d]) (fun x hx=>by rw[List.mem_singleton.1 hx];exact ok) (show 1<=100000 by decide);unfold ve;by_cases h0:bh p [d]=0
 ·obtain⟨v1,v2,v3⟩:=wY h0;have v4:=by simpa using v1
  obtain⟨h1,h2,h3,h4⟩:=fA v4 ok.lb;have h5:=wZ v4 ok.lb;rw[aq h0];rw[h0]at hf;obtain⟨n,rfl⟩:=aCj (show 0<=p by omega);have hs:=GF (M:=d.m) (e:=d.e) (n:=n) (more:=false) (up:=up) (neg:=d.neg) ok.lb ω ⟨by omega,by omega⟩ ⟨by omega,by omega⟩;have ho:=ar6 (d:=d);generalize iX d.neg (cO (ab d.m) d.e false n (up !=d.neg))=r at hs⊢;simp only[rV,ae,aj,zB]at hs ho;simp only[xR,rV,ae,aj,go_sem,hf,hs,ho]
 ·have e1:=ff h0;rw[ax h0];simp only[xR,rV,ae,aj,aG,go_sem,hf,e1]
theorem aoQ{d}(ok:Ok0 d){p}:R 193 [ae d,I p] []=some (rV (ve d p true),[]):=by
 refine az adz rfl ?_;have hr:=Jf ok (p:=p) (up:=true);generalize ve d p true=r at hr⊢;simp only[rV,ae,aj]at hr;simp only[Hc,rV,ae,aj,go_sem,hr]
theorem aiV{d}(ok:Ok0 d){p}:R 192 [ae d,I p] []=some (rV (ve d p false),[]):=by
 refine az XA rfl ?_;have hr:=Jf ok (p:=p) (up:=false);generalize ve d p false=r at hr⊢;simp only[rV,ae,aj]at hr;simp only[DX,rV,ae,aj,go_sem,hr]
def K7(a b:Rd)(p:Int)(up:Bool):Rd×Int:=if bh p [a,b]=0 then(if a.m.length=0\/b.m.length=0 then(aG,0)else iX (a.neg !=b.neg) (cO (ab a.m*ab b.m) (a.e+b.e) false p (up != (a.neg !=b.neg))))else(aG,bh p [a,b])
theorem aaR{a b}(oa:Ok0 a)(ob:Ok0 b){p}{up}:R 176 [ae a,ae b,I p,B up] []=some (rV (K7 a b p up),[]):=by
 refine az Z6 rfl ?_;have hf:R 65 [I p,.sl 3 [[B a.neg,lm a.m,I a.e],[B b.neg,lm b.m,I b.e]]] []=some (I (bh p [a,b]),[]):=CH (p:=p) (l:=[a,b]) (fun x hx=>by
  rcases List.mem_cons.1 hx with h|h
  ·rw[h];exact oa
  ·rw[List.mem_singleton.1 h];exact ob) (show 2<=100000 by decide)
 unfold K7;by_cases h0:bh p [a,b]=0
 ·obtain⟨v1,v2,v3⟩:=wY h0;have v4:=by simpa using v1
  obtain⟨va,vb⟩:=v4;obtain⟨a1,a2,a3,a4⟩:=fA va oa.lb;obtain⟨b1,b2,b3,b4⟩:=fA vb ob.lb;rw[aq h0];rw[h0]at hf;by_cases a0:a.m.length=0
  ·have e1:((a.m.length:Int)=0)=True:=tt;rw[aq (Or.inl a0)];simp only[sM,rV,ae,aj,aG,go_sem,hf,e1]
  have e1:((a.m.length:Int)=0)=False:=ff;by_cases b0:b.m.length=0
  ·have e2:((b.m.length:Int)=0)=True:=tt;rw[aq (Or.inr b0)];simp only[sM,rV,ae,aj,aG,go_sem,hf,e1,e2]
  have e2:((b.m.length:Int)=0)=False:=ff;rw[ax (fun h=>h.elim a0 b0)];obtain⟨n,rfl⟩:=aCj (show 0<=p by omega);have hp:=K6 (ab a.m) (ab b.m);have hl:(aA (ab a.m*ab b.m)).length<=256:=bk ω;have hm:=afy oa.lb ob.lb a1 b1;rw[mI,ax ω]at hm;have w3:aS (a.e+b.e)=a.e+b.e:=i64_in _ ⟨by omega,by omega⟩;have hs:=GF (M:=aA (ab a.m*ab b.m)) (e:=a.e+b.e) (n:=n) (more:=false) (up:=up) (neg:=a.neg !=b.neg) (bJ _) hl ⟨by omega,by omega⟩ ⟨by omega,by omega⟩;rw[bp]at hs;generalize iX (a.neg !=b.neg) (cO (ab a.m*ab b.m) (a.e+b.e) false n (up != (a.neg !=b.neg)))=r at hs⊢;simp only[rV,ae,aj,zB]at hs;simp only[sM,rV,ae,aj,go_sem,hf,e1,e2,hm,w3,BY,hs]
 ·have e1:=ff h0;rw[ax h0];simp only[sM,rV,ae,aj,aG,go_sem,hf,e1]
theorem aiW{a b}(oa:Ok0 a)(ob:Ok0 b){p}:R 123 [ae a,ae b,I p] []=some (rV (K7 a b p true),[]):=by
 refine az u9 rfl ?_;have hr:=aaR oa ob (p:=p) (up:=true);generalize K7 a b p true=r at hr⊢;simp only[rV,ae,aj]at hr;simp only[Ct,rV,ae,aj,go_sem,hr]
theorem adL{a b}(oa:Ok0 a)(ob:Ok0 b){p}:R 122 [ae a,ae b,I p] []=some (rV (K7 a b p false),[]):=by
 refine az rg rfl ?_;have hr:=aaR oa ob (p:=p) (up:=false);generalize K7 a b p false=r at hr⊢;simp only[rV,ae,aj]at hr;simp only[Ad,rV,ae,aj,go_sem,hr]
theorem DD{n}(hn:GD n):R 57 [I n] []=some (ae (bu (decide (n<0)) n.natAbs 0),[]):=by
 refine az Xj rfl ?_;obtain⟨h1,h2⟩:=hn;obtain⟨x,hx⟩:∃x,n.natAbs=x:=⟨_,rfl⟩;have hv:ab [x%4294967296,x/4294967296]=x:=by
  show x%4294967296+4294967296*(x/4294967296+4294967296*0)=x;omega
 have hL:Lb [x%4294967296,x/4294967296]:=fun y hy=>by
  rcases List.mem_cons.1 hy with h|h
  ·omega
  ·rw[List.mem_singleton.1 h];omega
 have hc:∀neg,R 113 [B neg,.sl 1 [[.v (.int .u32 (x%4294967296:Nat))],[.v (.int .u32 (x/4294967296:Nat))]],I 0] []=some (ae (bu neg x 0),[]):=fun neg=>by
  have:=mU (neg:=neg) (e:=0) hL (by show 2<=256;decide) ⟨by decide,by decide⟩;rw[hv]at this;exact this
 have w2:IntKind.u32.wrap x=(x%4294967296:Nat):=Ja rfl;have w3:IntKind.u32.wrap (x/4294967296:Nat)=(x/4294967296:Nat):=K1 rfl ω;have w4:eN .shr (.v (.int .u64 x)) (.v (.int .u64 32))=some (.v (.int .u64 (x/4294967296:Nat))):=yb (k:=32) Z Z δ;rw[hx];by_cases h0:n<0
 ·have e1:=tt h0;have w5:IntKind.u64.wrap (0-IntKind.u64.wrap n)=x:=by
   have q:∀z,IntKind.u64.wrap z=z%18446744073709551616:=fun z=>rfl;rw[q,q];omega
  have hc':=hc (decide (n<0));generalize bu (decide (n<0)) x 0=d at hc'⊢;rw[decide_eq_true h0]at hc';simp only[ae,aj]at hc';simp only[zH,ae,aj,go_sem,e1,w2,w3,w4,w5,hc']
 ·have e1:=ff h0;have w5:IntKind.u64.wrap n=x:=ip ω ω;have hc':=hc (decide (n<0));generalize bu (decide (n<0)) x 0=d at hc'⊢;rw[decide_eq_false h0]at hc';simp only[ae,aj]at hc';simp only[zH,ae,aj,go_sem,e1,w2,w3,w4,w5,hc']
def yY(a b:Rd)(p:Int):Int:=
 if aW a-aW b<=2 then(if b.e< (if aW a-p-8<a.e then aW a-p-8 else a.e)then b.e else(if aW a-p-8<a.e then aW a-p-8 else a.e))
 else(if aW a-p-8<a.e then aW a-p-8 else a.e)
def yZ(b:Rd)(l:Int):Nat×Bool:=if l<=b.e then(ab b.m*2^ (b.e-l).toNat,false)else(ab b.m/2^ (l-b.e).toNat,decide (ab b.m%2^ (l-b.e).toNat≠0))
def wm(y:Nat×Bool):Nat:=if y.2=true then y.1+1 else y.1
def D6(a b:Rd)(p:Int):(Nat×Int×Bool)×Bool:=
 let l:=yY a b p
 let x:=ab a.m*2^ (a.e-l).toNat
 let y:=yZ b l
 if a.neg=b.neg then((x+y.1,l,y.2),false)
 else if x<wm y then((wm y-x,l,false),true)
 else((x-wm y,l,y.2),false)
theorem SF{a b}{p}:yY a b p<=a.e:=by
 unfold yY;have h:(if aW a-p-8<a.e then aW a-p-8 else a.e)<=a.e:=by
  split<;>omega
 generalize(if aW a-p-8<a.e then aW a-p-8 else a.e)=z at h⊢;split
 ·split<;>omega
 ·exact h
theorem kQ{d}(h:vd d=true)(h0:d.m.length≠0):aW d=(ag (ab d.m))+d.e:=by
 rw[aW,ax (fun h'=>h'.elim (fun h''=>by rw[h]at h'';exact nomatch h'') h0)]
theorem OH{a b}{p}(va:vd a=true)(vb:vd b=true)(la:Lb a.m)(lb:Lb b.m)(na:a.m.length≠0)(nb:b.m.length≠0)(hp:8<=p/\p<=512)(ht:aW b<=aW a):
  aW a-yY a b p<=4098:=by
 obtain⟨a1,a2,a3,a4⟩:=fA va la;obtain⟨b1,b2,b3,b4⟩:=fA vb lb;have e1:=kQ va na;have e2:=kQ vb nb;unfold yY;have h:aW a- (if aW a-p-8<a.e then aW a-p-8 else a.e)<=4098:=by
  split<;>omega
 generalize(if aW a-p-8<a.e then aW a-p-8 else a.e)=z at h⊢;split
 ·split<;>omega
 ·exact h
noncomputable def nO:Cmd:=.seq (.seq (.ops [6,8,9,10,11,68] [co 64 (.fadr 0 (.t 3)),⟨(some 65),none,.load 1 false (.t 64)⟩,co 66 (.fadr 0 (.t 4)),⟨(some 67),none,.load 1 false (.t 66)⟩,co 68 (.eqc false 0 (.t 65) (.t 67))]) (.cond (.t 68) (.seq (.ops [6,8,11,12] [cm 70 9,cm 71 10,⟨(some 72),none,.call (.c (.fn 230 [] [])) [(.t 70),(.t 71)]⟩,cm 69 72,co 73 (.ext 0 (.t 69)),co 74 (.ext 1 (.t 69)),cm 12 73,cm 13 74]) (.seq (.ops [6,7] [cm 75 12,cm 76 8,cm 77 11,co 78 (.build [.emp,I 0,B false] [(0,1,(.t 75)),(1,1,(.t 76)),(2,1,(.t 77))]),⟨none,none,.store 3 (.t 6) (.t 78)⟩,co 7 (.mv (.c (B false)))]) (.ret))) (.skip))) (.seq (.seq (.ops [6,8,9,10,11,79] [cm 79 11]) (.cond (.t 79) (.ops [6,8,9,10,11] [cm 81 10,⟨(some 82),none,.buildSl 1 [(.v (.int .u32 0))] 1 [(0,(.c (.v (.int .u32 1))))]⟩,⟨(some 83),none,.call (.c (.fn 230 [] [])) [(.t 81),(.t 82)]⟩,cm 80 83,co 84 (.ext 0 (.t 80)),co 85 (.ext 1 (.t 80)),cm 10 84]) (.skip))) (.seq (.seq (.ops [6,8,9,10,11,89] [cm 86 9,cm 87 10,⟨(some 88),none,.call (.c (.fn 153 [] [])) [(.t 86),(.t 87)]⟩,co 89 (.bin .lss (.t 88) (.c (I 0)))]) (.cond (.t 89) (.seq (.ops [6,8,14] [cm 91 10,cm 92 9,⟨(some 93),none,.call (.c (.fn 231 [] [])) [(.t 91),(.t 92)]⟩,cm 90 93,co 94 (.ext 0 (.t 90)),co 95 (.ext 1 (.t 90)),cm 14 94,cm 15 95]) (.seq (.ops [6,7] [cm 96 14,cm 97 8,co 98 (.build [.emp,I 0,B false] [(0,1,(.t 96)),(1,1,(.t 97)),(2,1,(.c (B false)))]),⟨none,none,.store 3 (.t 6) (.t 98)⟩,co 7 (.mv (.c (B true)))]) (.ret))) (.skip))) (.seq (.ops [6,8,11,16] [cm 100 9,cm 101 10,⟨(some 102),none,.call (.c (.fn 231 [] [])) [(.t 100),(.t 101)]⟩,cm 99 102,co 103 (.ext 0 (.t 99)),co 104 (.ext 1 (.t 99)),cm 16 103,cm 17 104]) (.seq (.ops [6,7] [cm 105 16,cm 106 8,cm 107 11,co 108 (.build [.emp,I 0,B false] [(0,1,(.t 105)),(1,1,(.t 106)),(2,1,(.t 107))]),⟨none,none,.store 3 (.t 6) (.t 108)⟩,co 7 (.mv (.c (B false)))]) (.ret)))))
theorem w9:NA=.seq (.ops [2,3,4,6] [⟨(some 3),none,.box 3 (.t 0)⟩,⟨(some 4),none,.box 3 (.t 1)⟩,⟨(some 6),none,.alloc [.emp,I 0,B false]⟩,co 7 (.mv (.c (B false)))]) (.seq (.dops [3,4,6,8] [co 18 (.fadr 2 (.t 3)),⟨(some 19),none,.load 1 false (.t 18)⟩,⟨(some 20),none,.load 3 true (.t 3)⟩,⟨(some 21),none,.call (.c (.fn 149 [] [])) [(.t 20)]⟩,cm 22 2,co 23 (.bin .sub (.t 21) (.t 22)),co 24 (.bin .sub (.t 23) (.c (I 8))),co 25 (.mnx true (.t 19) [(.t 24)]),cm 8 25] [(1,3)]) (.seq (.seq (.dops [3,4,6,8,31] [⟨(some 26),none,.load 3 true (.t 3)⟩,⟨(some 27),none,.call (.c (.fn 149 [] [])) [(.t 26)]⟩,⟨(some 28),none,.load 3 true (.t 4)⟩,⟨(some 29),none,.call (.c (.fn 149 [] [])) [(.t 28)]⟩,co 30 (.bin .sub (.t 27) (.t 29)),co 31 (.bin .leq (.t 30) (.c (I 2)))] [(1,2)]) (.cond (.t 31) (.ops [3,4,6,8] [cm 32 8,co 33 (.fadr 2 (.t 4)),⟨(some 34),none,.load 1 false (.t 33)⟩,co 35 (.mnx true (.t 32) [(.t 34)]),cm 8 35]) (.skip))) (.seq (.ops [3,4,6,8,9] [co 36 (.fadr 1 (.t 3)),⟨(some 37),none,.load 1 false (.t 36)⟩,co 38 (.fadr 2 (.t 3)),⟨(some 39),none,.load 1 false (.t 38)⟩,cm 40 8,co 41 (.bin .sub (.t 39) (.t 40)),⟨(some 42),none,.call (.c (.fn 190 [] [])) [(.t 37),(.t 41)]⟩,cm 9 42]) (.seq (.ops [3,4,6,8,9] [co 10 (.mv (.c .emp))]) (.seq (.ops [3,4,6,8,9,11] [co 11 (.mv (.c (B false)))]) (.seq (.seq (.ops [3,4,6,8,9,11,46] [co 43 (.fadr 2 (.t 4)),⟨(some 44),none,.load 1 false (.t 43)⟩,cm 45 8,co 46 (.bin .geq (.t 44) (.t 45))]) (.cond (.t 46) (.ops [3,4,6,8,9,10,11] [co 47 (.fadr 1 (.t 4)),⟨(some 48),none,.load 1 false (.t 47)⟩,co 49 (.fadr 2 (.t 4)),⟨(some 50),none,.load 1 false (.t 49)⟩,cm 51 8,co 52 (.bin .sub (.t 50) (.t 51)),⟨(some 53),none,.call (.c (.fn 190 [] [])) [(.t 48),(.t 52)]⟩,cm 10 53]) (.ops [3,4,6,8,9,10,11] [co 55 (.fadr 1 (.t 4)),⟨(some 56),none,.load 1 false (.t 55)⟩,cm 57 8,co 58 (.fadr 2 (.t 4)),⟨(some 59),none,.load 1 false (.t 58)⟩,co 60 (.bin .sub (.t 57) (.t 59)),⟨(some 61),none,.call (.c (.fn 236 [] [])) [(.t 56),(.t 60)]⟩,cm 54 61,co 62 (.ext 0 (.t 54)),co 63 (.ext 1 (.t 54)),cm 10 62,cm 11 63]))) nO)))))):=rfl
def SG(an bn:Bool)(X Y:Nat)(l:Int)(lost:Bool):(Nat×Int×Bool)×Bool:=
 if an=bn then((X+Y,l,lost),false)else if X<wm (Y,lost)then((wm (Y,lost)-X,l,false),true)else((X-wm (Y,lost),l,lost),false)
def sV(r:(Nat×Int×Bool)×Bool):AV:=.tup [zB (aA r.1.1) r.1.2.1 r.1.2.2,B r.2]
theorem Jg{x y k}(hx:ag x<=k)(hy:ag y<=k):ag (x+y)<=k+1:=by
 rw[bT]at hx hy⊢;omega
theorem aaS{x y}(hx:ag x<=5000)(hy:ag y<=5000):R 230 [lm (aA x),lm (aA y)] []=some (.tup [lm (aA (x+y)),I 0],[]):=by
 have h1:(aA x).length<=200:=bk ω;have h2:(aA y).length<=200:=bk ω;have h3:=Jg hx hy;have h4:(aA (x+y)).length<=200:=bk ω;rw[afr (bJ x) (bJ y) ω ω,bp,bp,mI,ax ω]
theorem Mb{x y}(hx:ag x<=5000)(hy:ag y<=5000)(h:y<=x):R 231 [lm (aA x),lm (aA y)] []=some (.tup [lm (aA (x-y)),I 0],[]):=by
 have h1:(aA x).length<=200:=bk ω;have h2:(aA y).length<=200:=bk ω;have h3:ag (x-y)<=5000:=by
  rw[bT]at hx⊢;omega
 have h4:(aA (x-y)).length<=200:=bk ω;rw[aft (bJ x) (bJ y) ω ω,bp,bp,ax ω,mI,ax ω]
theorem OI{an bn}{ma mb}{ea eb}{X Y}{l}{lost}(hX:ag X<=4100)(hY:ag Y<=4100)(s)
  (h3:s 3=ac 3) (h4:s 4=ac 4) (h6:s 6=ac 6) (h8:s 8=I l) (h9:s 9=lm (aA X)) (h10:s 10=lm (aA Y)) (h11:s 11=B lost):
  lI false [[.o 2 [],.o 0 [],.o 0 []],[]] [.cell 6 3 true,.t 7] 0 (ap R (aC false) nO s (upd (upd (upd (fun _=>.dead) 3 (.bx [.v (.bool an),ma,ea])) 4 (.bx [.v (.bool bn),mb,eb])) 6 (.bx [.emp,I 0,B false])))=some (sV (SG an bn X Y l lost),[]):=by
 unfold SG;by_cases hs:an=bn
 ·subst hs;have e1:(false != (an==an))=true:=γ
  have ha:=aaS (x:=X) (y:=Y) ω ω;simp only[nO,sV,zB,go_sem,h3,h4,h6,h8,h9,h10,h11,e1,ha]
 ·rw[ax hs];have e1:(false != (an==bn))=false:=γ
  have hU:ag (wm (Y,lost))<=4101:=by
   unfold wm;split
   ·exact Jg hY (aiO _)
   grind
  have hi:=afD (q:=Y) ω;have hc:=BU (bJ X) (bJ (wm (Y,lost))) (aBq (bk (k:=200) ω) δ) (aBq (bk (k:=200) ω) δ);rw[bp,bp]at hc;by_cases hx:X<wm (Y,lost)
  ·have ha:=Mb (x:=wm (Y,lost)) (y:=X) ω ω ω;rw[aq hx];rw[eE,aq hx]at hc;cases lost with
   |false=>
    simp only[wm,ax aBu]at hc ha⊢;simp only[nO,sV,zB,go_sem,aBm,h3,h4,h6,h8,h9,h10,h11,e1,hc,ha]
   |true=>
    simp only[wm,if_true]at hc ha⊢;simp only[nO,sV,zB,go_sem,aBm,h3,h4,h6,h8,h9,h10,h11,e1,FG,hi,hc,ha]
  ·have ha:=Mb (x:=X) (y:=wm (Y,lost)) ω ω ω;rw[ax hx];have hd:(eE X (wm (Y,lost))<0)=False:=ff (by
    unfold eE;omega)
   cases lost with
   |false=>
    simp only[wm,ax aBu]at hc ha hd⊢;simp only[nO,sV,zB,go_sem,h3,h4,h6,h8,h9,h10,h11,e1,hc,hd,ha]
   |true=>
    simp only[wm,if_true]at hc ha hd⊢;simp only[nO,sV,zB,go_sem,h3,h4,h6,h8,h9,h10,h11,e1,FG,hi,hc,hd,ha]
theorem SH(a b)(p):D6 a b p=SG a.neg b.neg (ab a.m*2^ (a.e-yY a b p).toNat) (yZ b (yY a b p)).1 (yY a b p) (yZ b (yY a b p)).2:=rfl
theorem aoR{a b}(oa:Ok0 a)(ob:Ok0 b)(va:vd a=true)(vb:vd b=true)(na:a.m.length≠0)(nb:b.m.length≠0){p}(hp:8<=p/\p<=512)(ht:aW b<=aW a):
  R 199 [ae a,ae b,I p] []=some (sV (D6 a b p),[]):=by
 refine az Z8 rfl ?_;have ta:=zA oa;have tb:=zA ob;simp only[ae,aj]at ta tb;have e1:=kQ va na;have e2:=kQ vb nb;obtain⟨a1,a2,a3,a4⟩:=fA va oa.lb;obtain⟨b1,b2,b3,b4⟩:=fA vb ob.lb;have l1:=SF (a:=a) (b:=b) (p:=p);have l2:=OH va vb oa.lb ob.lb na nb hp ht;have w1:aS (aW a-p)=aW a-p:=i64_in _ ⟨by omega,by omega⟩;have w2:aS (aW a-p-8)=aW a-p-8:=i64_in _ ⟨by omega,by omega⟩;have w3:aS (aW a-aW b)=aW a-aW b:=i64_in _ ⟨by omega,by omega⟩;rw[SH];obtain⟨l,hl⟩:∃l,yY a b p=l:=⟨_,rfl⟩;rw[hl]at l1 l2⊢;unfold yY at hl;obtain⟨z,hz⟩:∃z,(if aW a-p-8<a.e then aW a-p-8 else a.e)=z:=⟨_,rfl⟩;rw[hz]at hl;have w4:aS (a.e-l)=(((a.e-l).toNat:Nat):Int):=wi;have hX:ag (ab a.m*2^ (a.e-l).toNat)<=4100:=by
  grind[ed,ef]
 have sX:=CG oa.lb a1 (k:=(a.e-l).toNat) ω (bk ω);by_cases h2:aW a-aW b<=2
 ·have f1:=tt h2;rw[aq h2]at hl;by_cases hb:l<=b.e
  ·have f2:=tt hb;have w5:aS (b.e-l)=(((b.e-l).toNat:Nat):Int):=wi;have hY:ag (ab b.m*2^ (b.e-l).toNat)<=4100:=by
    grind[ed,ef]
   have sY:=CG ob.lb b1 (k:=(b.e-l).toNat) ω (bk ω);rw[yZ,aq hb];simp only[wJ,w9,ae,aj,go_sem,ta,tb,w1,w2,w3,w4,w5,hz,hl,f1,f2,sX,sY];exact OI hX hY _ Z Z Z Z Z Z Z
  omega
 ·have f1:=ff h2;rw[ax h2]at hl;by_cases hb:l<=b.e
  ·have f2:=tt hb;have w5:aS (b.e-l)=(((b.e-l).toNat:Nat):Int):=wi;have hY:ag (ab b.m*2^ (b.e-l).toNat)<=4100:=by
    grind[ed,ef]
   have sY:=CG ob.lb b1 (k:=(b.e-l).toNat) ω (bk ω);rw[yZ,aq hb];simp only[wJ,w9,ae,aj,go_sem,ta,tb,w1,w2,w3,w4,w5,hz,hl,f1,f2,sX,sY];exact OI hX hY _ Z Z Z Z Z Z Z
  ·have f2:(l<=b.e)=False:=ff hb;have w5:aS (l-b.e)=(((l-b.e).toNat:Nat):Int):=wi;have hY:ag (ab b.m/2^ (l-b.e).toNat)<=4100:=by
    grind[nN]
   have sY:=aaO ob.lb b1 (n:=(l-b.e).toNat) ω;rw[yZ,ax hb];simp only[wJ,w9,ae,aj,go_sem,ta,tb,w1,w2,w3,w4,w5,hz,hl,f1,f2,sX,sY];exact OI hX hY _ Z Z Z Z Z Z Z
def X1(a b:Rd)(p:Int)(up:Bool):Rd×Int:=
 let s:=D6 a b p
 if s.1.1=0/\s.1.2.2=false then(aG,0)else iX (a.neg !=s.2) (cO s.1.1 s.1.2.1 s.1.2.2 p (up != (a.neg !=s.2)))
def SI(a b:Rd)(p:Int)(up:Bool):Rd×Int:=
 if bh p [a,b]=0 then(if a.m.length=0 then ve b p up else if b.m.length=0 then ve a p up else if aW a<aW b then X1 b a p up else X1 a b p up)
 else(aG,bh p [a,b])
theorem OJ{a b}(oa:Ok0 a)(ob:Ok0 b){p}{up}(h:bh p [a,b]≠0\/a.m.length=0\/b.m.length=0):R 156 [ae a,ae b,I p,B up] []=some (rV (SI a b p up),[]):=by
 refine az NC rfl ?_;have hf:R 65 [I p,.sl 3 [[B a.neg,lm a.m,I a.e],[B b.neg,lm b.m,I b.e]]] []=some (I (bh p [a,b]),[]):=CH (p:=p) (l:=[a,b]) (fun x hx=>by
  rcases List.mem_cons.1 hx with h|h
  ·rw[h];exact oa
  ·rw[List.mem_singleton.1 h];exact ob) (show 2<=100000 by decide)
 have ra:=Jf oa (p:=p) (up:=up);have rb:=Jf ob (p:=p) (up:=up);unfold SI;generalize ve a p up=qa at ra⊢;generalize ve b p up=qb at rb⊢;simp only[rV,ae,aj]at ra rb;by_cases h0:bh p [a,b]=0
 ·rw[aq h0];rw[h0]at hf;by_cases a0:a.m.length=0
  ·have e1:((a.m.length:Int)=0)=True:=tt;rw[aq a0];simp only[pP,zk,rV,ae,aj,go_sem,hf,e1,rb]
  have e1:((a.m.length:Int)=0)=False:=ff;have b0:=(h.resolve_left (fun h'=>h' h0)).resolve_left a0;have e2:((b.m.length:Int)=0)=True:=tt;rw[ax a0,aq b0];simp only[pP,zk,rV,ae,aj,go_sem,hf,e1,e2,ra]
 ·have e1:=ff h0;rw[ax h0];simp only[pP,zk,rV,ae,aj,aG,go_sem,hf,e1]
theorem aiX{k:Nat}{u:Int}{more}(hm:more=decide (N%2^k≠0))(hu:more=true->f+k<u):pY (N/2^k) (f+k) more u=pY N f false u:=by
 unfold pY;by_cases h:u<=f+k
 ·rw[aq h];have hf:more=false:=by
   grind
  subst hf;have h0:N%2^k=0:=by
   grind
  obtain⟨M,rfl⟩:=Nat.dvd_of_mod_eq_zero h0;rw[Nat.mul_div_cancel_left _ (aBA k)];by_cases h2:u<=f
  ·rw[aq h2,show(f+k-u).toNat=k+(f-u).toNat by omega,aBx,aBD (2^k) M,aBH]
  ·obtain⟨j,hj⟩:∃j,(f+k-u).toNat=j:=⟨_,rfl⟩;obtain⟨i,hi⟩:∃i,(u-f).toNat=i:=⟨_,rfl⟩;have hk:k=i+j:=ω
   grind[aBx,aBH,Nat.mul_div_cancel_left,aBA,Nat.mul_mod_right,aBD]
 ·rw[ax h,ax ω];obtain⟨j,hj⟩:∃j,(u- (f+k)).toNat=j:=⟨_,rfl⟩;rw[show(u-f).toNat=k+j by omega,hj,aBx,Nat.div_div_eq_div_mul,Nat.mod_mul,hm];refine Prod.ext rfl ?_;show(decide (N%2^k≠0)||decide (N/2^k%2^j≠0))=(false||decide (N%2^k+2^k*(N/2^k%2^j)≠0));rw[Bool.false_or,←Bool.decide_or];congr 1;refine propext ⟨fun h3 h4=>?_,fun h3=>?_⟩
  ·obtain⟨h5,h6⟩:=Nat.add_eq_zero_iff.1 h4;rcases Nat.mul_eq_zero.1 h6 with h7|h7
   all_goals omega
  grind
theorem afG{k:Nat}{f p}(hM:N/2^k≠0):eZ (N/2^k) (f+k) p=eZ N f p:=by
 grind[eZ,nN,ag]
theorem aaT{k:Nat}{more up}(hM:N/2^k≠0)(hm:more=decide (N%2^k≠0))(hp:more=true->p< (ag (N/2^k))):cO (N/2^k) (f+k) more p up=cO N f false p up:=by
 unfold cO;have hu:more=true->f+k<eZ (N/2^k) (f+k) p:=fun h=>by
  grind[eZ]
 grind[aiX,afG]
theorem K8{k:Nat}{f p}{up}(hM:M≠0):cO (M*2^k) f false p up=cO M (f+k) false p up:=by
 have h1:M*2^k/2^k=M:=Nat.mul_div_cancel _ (aBA k);have:=aaT (N:=M*2^k) (k:=k) (f:=f) (p:=p) (more:=false) (up:=up) ω (by simp_all) (fun h=>absurd h aBu);grind
def iL(z f p:Int)(up:Bool):Rd×Int:=if z=0 then(aG,0)else iX (decide (z<0)) (cO z.natAbs f false p (up !=decide (z<0)))
theorem Mc{f p}{up neg}(h:n≠0):iL (if neg=true then-n else n) f p up=iX neg (cO n f false p (up !=neg)):=by
 unfold iL;grind
theorem DE{z f p}{k:Nat}{up}:iL (z*2^k) f p up=iL z (f+k) p up:=by
 unfold iL;by_cases h:z=0
 ·rw[h,Int.zero_mul,aq rfl,aq rfl]
 ·have h2:(0:Int)<2^k:=Int.pow_pos δ;have h3:z*2^k≠0:=fun h3=>by
   rcases Int.mul_eq_zero.1 h3 with h4|h4
   all_goals omega
  have h4:decide (z*2^k<0)=decide (z<0):=by
   congr 1;refine propext ⟨fun h5=>?_,fun h5=>Int.mul_neg_of_neg_of_pos h5 h2⟩;refine Int.not_le.1 fun h6=>?_;have:=Int.mul_nonneg h6 (Int.le_of_lt h2);omega
  simp_all[ax,Int.natAbs_mul,Int.natAbs_pow,K8]
def cF(neg:Bool)(n:Nat):Int:=if neg=true then-n else n
theorem wn(n):cF true n=-n:=rfl
theorem uB(n):cF false n=n:=rfl
def X3(an:Bool)(p:Int)(up:Bool)(s:(Nat×Int×Bool)×Bool):Rd×Int:=if s.1.1=0/\s.1.2.2=false then(aG,0)else iX (an !=s.2) (cO s.1.1 s.1.2.1 s.1.2.2 p (up != (an !=s.2)))
theorem Jh{an}{up}{K:Nat}{f}{more t}(hM:N/2^K≠0)(hm:more=decide (N%2^K≠0))(hp:more=true->p< (ag (N/2^K))):
  X3 an p up ((N/2^K,f+K,more),t)=iL (cF (an !=t) N) f p up:=by
 have h0:N≠0:=fun h=>by
  simp_all
 unfold cF;rw[Mc h0,X3,ax (fun h=>hM h.1)];grind[aaT]
theorem aiY{Y K:Nat}{up an bn}(hx:x≠0)(hlost:Y%2^K≠0->p< (ag (x- (Y/2^K+1)))/\p< (ag (x+Y/2^K))/\Y/2^K+1<x):
  X3 an p up (SG an bn x (Y/2^K) (f+K) (decide (Y%2^K≠0)))=iL (cF an (x*2^K)+cF bn Y) f p up:=by
 have h2:=aBA K;have hd:=aCb Y (2^K);have hlt:=aBW Y h2;unfold SG;by_cases hs:an=bn
 ·subst hs;rw[aq rfl];have e1:x+Y/2^K=(x*2^K+Y)/2^K:=by
   grind[aBD,Nat.mul_add_div]
  have e2:(x*2^K+Y) %2^K=Y%2^K:=by
   simp_all
  have e3:cF an (x*2^K)+cF an Y=cF (an !=false) (x*2^K+Y):=by
   grind[cF,wn]
  rw[e3,e1,Jh]
  all_goals grind
 ·have hbn:bn=!an:=by
   cases an<;>cases bn<;>first|rfl|exact absurd rfl hs
  subst hbn;rw[ax hs];by_cases hl:Y%2^K≠0
  ·obtain⟨g1,g2,g3⟩:=hlost hl;have e0:wm (Y/2^K,decide (Y%2^K≠0))=Y/2^K+1:=by
    simp_all[wm,aq,decide_eq_true]
   rw[e0,ax ω];obtain⟨y,hy⟩:∃y,Y/2^K=y:=⟨_,rfl⟩;rw[hy]at hd g1 g2 g3⊢;have e1:(x- (y+1))*2^K+(2^K-Y%2^K)=x*2^K-Y:=by
    have e4:(x- (y+1))*2^K=x*2^K- (2^K*y+2^K):=by
     rw[Nat.sub_mul,aBG,Nat.one_mul,aBD y]
    have e5:2^K*y+2^K<=x*2^K:=by
     have:(y+1)*2^K<=x*2^K:=aBv _ ω;grind
    omega
   have e6:(x*2^K-Y)/2^K=x- (y+1):=by
    rw[←e1,aBD (x- (y+1)),Nat.mul_add_div h2,Nat.div_eq_of_lt ω];rfl
   have e7:(x*2^K-Y) %2^K=2^K-Y%2^K:=by
    rw[←e1,aBD (x- (y+1)),Nat.mul_add_mod,aB8 ω]
   have e3:cF an (x*2^K)+cF (!an) Y=cF (an !=false) (x*2^K-Y):=by
    grind[cF,wn,uB]
   grind[Jh,decide_eq_true]
  ·have hl0:Y%2^K=0:=ω
   have e0:wm (Y/2^K,decide (Y%2^K≠0))=Y/2^K:=by
    simp_all[wm,ax,of_decide_eq_true]
   rw[e0,hl0,show decide (0≠0)=false from rfl];rw[hl0,aBR]at hd;obtain⟨y,hy⟩:∃y,Y/2^K=y:=⟨_,rfl⟩;rw[hy]at hd⊢;subst hd;by_cases hxy:x<y
   ·rw[aq hxy];have e6:((y-x)*2^K)/2^K=y-x:=Nat.mul_div_cancel _ h2;have e3:cF an (x*2^K)+cF (!an) (2^K*y)=cF (an !=true) ((y-x)*2^K):=by
     grind[cF,wn,uB]
    rw[e3];have:=Jh (an:=an) (p:=p) (up:=up) (N:=(y-x)*2^K) (K:=K) (f:=f) (more:=false) (t:=true) ω (by simp_all) (fun h=>absurd h aBu);grind
   ·rw[ax hxy];by_cases hE:x=y
    ·subst hE;have e3:cF an (x*2^K)+cF (!an) (2^K*x)=0:=by
      grind[cF,wn,uB]
     simp_all[X3,aq,Nat.sub_self,iL]
    ·have e6:((x-y)*2^K)/2^K=x-y:=Nat.mul_div_cancel _ h2;have e3:cF an (x*2^K)+cF (!an) (2^K*y)=cF (an !=false) ((x-y)*2^K):=by
      grind[cF,wn,uB]
     rw[e3];have:=Jh (an:=an) (p:=p) (up:=up) (N:=(x-y)*2^K) (K:=K) (f:=f) (more:=false) (t:=false) ω (by simp_all) (fun h=>absurd h aBu);grind
theorem ar7{b}{l}(h1:-40000<=l)(h2:-40000<=b.e):yZ b l=(ab b.m*2^ (b.e+40000).toNat/2^ (l+40000).toNat,decide (ab b.m*2^ (b.e+40000).toNat%2^ (l+40000).toNat≠0)):=by
 unfold yZ;by_cases h:l<=b.e
 ·rw[aq h,show(b.e+40000).toNat=(b.e-l).toNat+(l+40000).toNat by omega,aBx,←aBH,Nat.mul_div_cancel _ (aBA _),Nat.mul_mod_left];rfl
 ·have h3:=aBA (b.e+40000).toNat;rw[ax h,show(l+40000).toNat=(l-b.e).toNat+(b.e+40000).toNat by omega,aBx,Nat.mul_div_mul_right _ _ h3,Nat.mul_mod_mul_right];refine Prod.ext rfl ?_;show decide _=decide _;congr 1;refine propext ⟨fun h4 h5=>?_,fun h4 h5=>h4 ?_⟩
  ·rcases Nat.mul_eq_zero.1 h5 with h6|h6
   all_goals omega
  grind
theorem X4{d}{k}(h:-16384<=d.e)(n)(hn:n=(d.e+16384).toNat+k):zI d*2^k=cF d.neg (ab d.m*2^n):=by
 have h1:(mg d)*2^k=((ab d.m*2^ ((d.e+16384).toNat+k)):Int):=by
  unfold mg;grind
 unfold zI cF;grind
theorem afH{a b}{p}(h:b.e<yY a b p):2<aW a-aW b/\yY a b p<=aW a-p-8:=by
 unfold yY at h⊢;omega
theorem aaU{a b}(oa:Ok0 a)(ob:Ok0 b)(va:vd a=true)(vb:vd b=true)(na:a.m.length≠0)(nb:b.m.length≠0){p}{up}(hp:8<=p/\p<=512)(ht:aW b<=aW a):
  X1 a b p up=iL (zI a+zI b) (-16384) p up:=by
 have e1:=kQ va na;have e2:=kQ vb nb;obtain⟨a1,a2,a3,a4⟩:=fA va oa.lb;obtain⟨b1,b2,b3,b4⟩:=fA vb ob.lb;have l1:=SF (a:=a) (b:=b) (p:=p);have l2:=OH va vb oa.lb ob.lb na nb hp ht;have l3:=afH (a:=a) (b:=b) (p:=p);show X3 a.neg p up (D6 a b p)=_;rw[SH];obtain⟨l,hl⟩:∃l,yY a b p=l:=⟨_,rfl⟩;rw[hl]at l1 l2 l3⊢;obtain⟨K,hK⟩:∃K,(l+40000).toNat=K:=⟨_,rfl⟩;obtain⟨n1,hn1⟩:∃n,(a.e-l).toNat=n:=⟨_,rfl⟩;obtain⟨n2,hn2⟩:∃n,(b.e+40000).toNat=n:=⟨_,rfl⟩;have hx:ab a.m*2^n1≠0:=Nat.mul_ne_zero (ef va na) (Nat.pos_iff_ne_zero.1 (aBA _));rw[ar7 ω ω,hK,hn1,hn2];have bx:ag (ab a.m*2^n1)=ag (ab a.m)+n1:=ed _ (ef va na);have by':ag (ab b.m*2^n2/2^K)=ag (ab b.m)+n2-K:=by grind[nN,ed,ef]
 have hlK:l=-40000+K:=ω
 rw[hlK,aiY hx]
 ·obtain⟨k,hk⟩:∃k,k=23616:=⟨_,rfl⟩;rw[aBH,←aBx,←X4 (k:=k) a2 (n1+K) ω,←X4 (k:=k) b2 n2 ω,←Int.add_mul,DE,show(-40000:Int)+k=-16384 by omega]
 ·intro hne;have hb:b.e<l:=by
   refine Int.not_le.1 fun h=>hne ?_;rw[show n2=(b.e-l).toNat+K by omega,aBx,←aBH,Nat.mul_mod_left]
  obtain⟨X,hX⟩:∃X,ab a.m*2^n1=X:=⟨_,rfl⟩;obtain⟨Y,hY⟩:∃Y,ab b.m*2^n2/2^K=Y:=⟨_,rfl⟩;rw[hX]at bx⊢;rw[hY]at by'⊢;obtain⟨t,hT⟩:∃t,ag X=t+4:=⟨ag X-4,by omega⟩;have hX2:2^ (t+3)<=X:=lw.1 ω;have hY2:Y<2^ (t+1):=bT.1 ω;have q1:2^ (t+3)=4*2^ (t+1):=γ
  have q2:2^ (t+2)=2*2^ (t+1):=γ
  have g3:t+2<ag (X- (Y+1)):=lw.2 ω;have g4:t+3<ag (X+Y):=lw.2 ω;omega
def dq(a b:Rd)(p:Int)(up:Bool):Rd×Int:=if bh p [a,b]=0 then iL (zI a+zI b) (-16384) p up else(aG,bh p [a,b])
def eA(a b:Rd)(p:Int)(up:Bool):Rd×Int:=if bh p [a,b]=0 then iL (zI a*zI b) (-32768) p up else(aG,bh p [a,b])
theorem cT{d}(h:d.m.length=0):zI d=0:=by
 grind[zI,aaN]
theorem alO{p}{up}(hp:8<=p/\p<=512):cO 0 0 false p up=(aG,0):=by
 have hu:-600<=eZ 0 0 p/\eZ 0 0 p<=0:=by
  grind[eZ,AJ]
 unfold cO;obtain⟨u,he⟩:∃u,eZ 0 0 p=u:=⟨_,rfl⟩;rw[he]at hu⊢;have hq:pe up (pY 0 0 false u)=0:=by
  simp_all[pY,pe,aq,Nat.zero_mul,Bool.and_false,ax,aBu]
 unfold uA;rw[hq,AJ,ax ω];rw[wW];unfold cS;rw[aq rfl,aq δ]
theorem GG{d}(ok:Ok0 d){p}{up}:ve d p up=if bh p [d]=0 then iL (zI d) (-16384) p up else(aG,bh p [d]):=by
 unfold ve;by_cases h0:bh p [d]=0
 ·obtain⟨v1,v2,v3⟩:=wY h0;have v4:vd d=true:=γ
  obtain⟨h1,h2,h3,h4⟩:=fA v4 ok.lb;rw[aq h0,aq h0];by_cases hd:d.m.length=0
  ·have hz:=CD v4 hd;subst hz;rw[cT rfl,iL,aq rfl];show iX false (cO 0 0 false p (up !=false))=_;rw[alO ⟨v2,v3⟩];rfl
  ·have hm:=HY v4 hd;unfold zI;rw[Mc ω];grind[mg,K8]
 grind
theorem alP{a b}(oa:Ok0 a)(ob:Ok0 b){p}{up}:SI a b p up=dq a b p up:=by
 unfold SI dq;by_cases h0:bh p [a,b]=0
 ·obtain⟨v1,hp⟩:=wY h0;have v4:vd a=true/\vd b=true:=γ
  have f1:∀d,vd d=true->bh p [d]=0:=fun d hd=>by
   simp_all[bh,aq]
  by_cases a0:a.m.length=0
  ·rw[aq a0,GG ob,aq (f1 b v4.2),cT a0,Int.zero_add]
  rw[ax a0];by_cases b0:b.m.length=0
  ·rw[aq b0,GG oa,aq (f1 a v4.1),cT b0,Int.add_zero]
  rw[ax b0];by_cases ht:aW a<aW b
  ·rw[aq ht,aaU ob oa v4.2 v4.1 b0 a0 hp ω,Int.add_comm]
  simp_all[ax,aaU]
 grind
theorem aaV{a b}(oa:Ok0 a)(ob:Ok0 b){p}{up}:K7 a b p up=eA a b p up:=by
 unfold K7 eA;by_cases h0:bh p [a,b]=0
 ·obtain⟨v1,hp⟩:=wY h0;have v4:vd a=true/\vd b=true:=γ
  obtain⟨va,vb⟩:=v4;obtain⟨a1,a2,a3,a4⟩:=fA va oa.lb;obtain⟨b1,b2,b3,b4⟩:=fA vb ob.lb;by_cases a0:a.m.length=0
  ·rw[aq (Or.inl a0),cT a0,Int.zero_mul,iL,aq rfl]
  by_cases b0:b.m.length=0
  ·rw[aq (Or.inr b0),cT b0,Int.mul_zero,iL,aq rfl]
  have hz:zI a*zI b=cF (a.neg !=b.neg) (mg a*mg b):=by
   unfold zI cF;cases a.neg<;>cases b.neg<;>simp[Int.mul_neg,Int.neg_mul]
  have hm:mg a*mg b=ab a.m*ab b.m*2^ ((a.e+16384).toNat+(b.e+16384).toNat):=by
   grind[mg,aBx]
  have hv:=Nat.mul_ne_zero (ef va a0) (ef vb b0);rw[hz];unfold cF;rw[Mc (Nat.mul_ne_zero (Nat.pos_iff_ne_zero.1 (HY va a0)) (Nat.pos_iff_ne_zero.1 (HY vb b0))),hm,K8 hv];grind
 grind
theorem jW{neg}{M}{e}(h:M≠0):bu neg M e=⟨neg,aA (M/2^tz M),e+tz M⟩:=by
 simp_all[wW,ax]
theorem lF{neg}{e}:bu neg 0 e=aG:=by
 simp_all[wW,aq]
theorem mJ{neg}{k:Nat}{e}:bu neg (M*2^k) e=bu neg M (e+k):=by
 by_cases h:M=0
 ·rw[h,Nat.zero_mul,lF,lF]
 ·have h2:=Nat.mul_ne_zero h (Nat.pos_iff_ne_zero.1 (aBA k));rw[jW h,jW h2,aBD M,KU k h,aBx,Nat.mul_div_mul_left _ _ (aBA k)];grind
theorem rH{neg}{M}{e}(h:M≠0):ab (bu neg M e).m=M/2^tz M/\(bu neg M e).e=e+tz M/\M/2^tz M%2=1/\ag (M/2^tz M)+tz M=ag M:=by
 grind[AF,jW,bp,ed,tz,aBD]
theorem OK{neg}{M}(h:M≠0)(h1:ag M<=4096)(h2:-16384<=e)(h3:(ag M)+e<=16384):s9 (ag (ab (bu neg M e).m)) (bu neg M e).e=true:=by
 grind[rH,ag,tz,ju,s9,decide_eq_true]
theorem HZ{neg}{M}{e}(h:s9 (ag (ab (bu neg M e).m)) (bu neg M e).e=true):vd (bu neg M e)=true:=by
 by_cases h0:M=0
 ·subst h0;rfl
 ·obtain⟨g1,g2,g3,g4⟩:=rH (neg:=neg) (e:=e) h0;have hn:M/2^tz M≠0:=ω
  rw[g1]at h;have hb:=(CE h (Nat.pos_iff_ne_zero.1 (ju hn))).1;rw[jW h0]at h⊢;unfold vd;have hl:(aA (M/2^tz M)).length<=128:=bk ω;have hl0:=fun h5=>hn (py.1 (List.length_eq_zero_iff.1 h5));have ht:=(afg _).resolve_left (fun h5=>hn (py.1 h5));have ho:(aA (M/2^tz M)).getD 0 0%2=1:=by
   grind[qE,tz]
  rw[bp,ax hl0,decide_eq_true (p:=(aA (M/2^tz M)).length<=256) ω,decide_eq_true ho,decide_eq_true ht];grind
theorem FH{neg}{M}(h1:ag M<=4096)(h2:-16384<=e)(h3:(ag M)+e<=16384):cS (bu neg M e)=(bu neg M e,0):=by
 unfold cS;by_cases h:M=0
 ·subst h;rw[lF,aq δ]
 simp_all[aq,OK]
theorem aiZ{M}(h1:ag M<=4096)(h2:-16384<=e)(h3:(ag M)+e<=16384):fC (bu false M e)=bu true M e:=by
 by_cases h:M=0
 ·subst h;rfl
 ·have hv:=HZ (OK (neg:=false) h h1 h2 h3);obtain⟨g1,g2,g3,g4⟩:=rH (neg:=false) (e:=e) h;unfold fC;rw[ax]
  ·grind[jW]
  ·grind[ab]
theorem aaW{neg}{M}(h1:ag M<=4096)(h2:-16384<=e)(h3:(ag M)+e<=16384):iX neg (cS (bu false M e))=(bu neg M e,0):=by
 rw[FH h1 h2 h3];unfold iX;cases neg with
 |false=>rw[ax (fun h=>aBu h.2)]
 |true=>
  grind[aiZ]
def K9(M:Nat)(e p:Int):Nat:=(max (max ((ag M)-p) (0-16384-e)) 0).toNat
def SJ(M k:Nat)(more out:Bool):Nat:=if((more||decide (M%2^k≠0))&&out)=true then M/2^k+1 else M/2^k
def CI(neg out:Bool)(p:Int)(q:Nat)(e:Int):Rd×Int:=if q≠0/\16384< (ag q)+e then(if out=true then(aG,9)else(bu neg (2^p.toNat-1) (16384-p),0))else(bu neg q e,0)
def FI(neg:Bool)(M:Nat)(e:Int)(more:Bool)(p:Int)(up:Bool):Rd×Int:=CI neg (neg !=up) p (SJ M (K9 M e p) more (neg !=up)) (e+K9 M e p)
theorem X5{p}{neg up}{q}{u}(hp:8<=p/\p<=512)(hq:ag q<=4096)(hu:-16384<=u)(h0:q=0->u<=16384):iX neg (uA p up q u)=CI neg up p q u:=by
 unfold uA CI;by_cases h:16384< (ag q:Nat)+u
 ·have hq0:q≠0:=fun h1=>by
   grind[AJ]
  cases up with
  |true=>
   simp_all[iX,ax]
  |false=>
   grind[XY,aaW]
 simp_all[ax,aaW]
theorem adN{neg out}{p}{k:Nat}{e}:CI neg out p (M*2^k) e=CI neg out p M (e+k):=by
 unfold CI;rw[mJ];grind[Nat.mul_ne_zero,aBA,ag,ed]
theorem Ug(q):ag (q+1)<=ag q+1:=by
 rw[bT,aB6];have:=bT.1 (aBh (ag q));omega
theorem afI{neg}{M}{more up}(hp:8<=p/\p<=512)(hM:M≠0)(hm:more=true->p< (ag M)):FI neg M e more p up=iX neg (cO M e more p (up !=neg)):=by
 have hx:(neg !=up)=(up !=neg):=γ
 unfold FI;rw[hx];unfold cO;obtain⟨u,hu⟩:∃u,eZ M e p=u:=⟨_,rfl⟩;obtain⟨k,hk⟩:∃k,K9 M e p=k:=⟨_,rfl⟩;rw[hu,hk];unfold eZ at hu;unfold K9 at hk;have hu1:-16384<=u/\e+(ag M)-p<=u:=by
  omega
 by_cases hc:u<=e
 ·have hk0:k=0:=by
   omega
  have hmf:more=false:=by
   grind
  subst hk0;subst hmf;unfold pY SJ;rw[aq hc,Nat.pow_zero,Nat.mod_one,show(false||decide (0≠0))=false from rfl,aBy,ax aBu,Nat.div_one];unfold pe;rw[Bool.and_false,ax aBu];have hq:=ed (e-u).toNat hM;rw[X5 hp ω hu1.1 (fun h=>absurd (Nat.mul_eq_zero.1 h) (fun h2=>h2.elim hM (fun h3=>absurd h3 (Nat.pos_iff_ne_zero.1 (aBA _)))))];grind[adN]
 ·have hk0:k=(u-e).toNat:=by
   omega
  unfold pY SJ;rw[ax hc,←hk0];have hq:ag (M/2^k)<=513:=by
   grind[nN]
  have hq2:=Ug (M/2^k);have h3:pe (up !=neg) (M/2^k,more||decide (M%2^k≠0))=if((more||decide (M%2^k≠0))&& (up !=neg))=true then M/2^k+1 else M/2^k:=by
   grind[pe,Bool.and_comm]
  rw[h3];rw[X5 hp (by split<;>omega) hu1.1]
  ·rw[show e+k=u by omega]
  ·grind[ag,nN]
theorem Qw{neg}{M}{e p}{up}(hp:8<=p/\p<=512):FI neg M e false p up=iL (cF neg M) e p up:=by
 by_cases hM:M=0
 ·simp_all[cF,iL,aq,FI,SJ,CI,Nat.zero_mod,Nat.zero_div,aBy,ax,aBu,lF]
 simp_all[afI,absurd,aBu,cF,Mc]
theorem afJ{M}{f p}{more w neg}:vd (iX neg (cO M f more p w)).1=true/\Ok0 (iX neg (cO M f more p w)).1:=by
 have h0:vd aG=true/\Ok0 aG:=⟨rfl,⟨fun x hx=>(nomatch hx),by decide⟩⟩;have hc:∀q u,vd (cS (bu false q u)).1=true/\Ok0 (cS (bu false q u)).1:=fun q u=>by
  unfold cS;by_cases h:s9 (ag (ab (bu false q u).m)) (bu false q u).e=true
  ·rw[aq h];have hv:=HZ h;have hb:=ye false q u;exact⟨hv,hb,aBU (wZ hv hb) δ⟩
  grind
 have he:∀up q u,vd (uA p up q u).1=true/\Ok0 (uA p up q u).1:=fun up q u=>by
  grind[uA]
 have hs:∀neg r,(vd r.1=true/\Ok0 r.1)->vd (iX neg r).1=true/\Ok0 (iX neg r).1:=fun neg r hr=>by
  unfold iX fC;split
  ·split
   ·omega
   ·refine⟨?_,hr.2.1,hr.2.2⟩
    simp_all[vd,ax]
  omega
 exact hs _ _ (he _ _ _)
theorem vf{z f p}{up}:vd (iL z f p up).1=true/\Ok0 (iL z f p up).1:=by
 unfold iL;split
 ·exact⟨rfl,⟨fun x hx=>(nomatch hx),by decide⟩⟩
 ·exact afJ
noncomputable def vg:Cmd:=.seq (.ops [2,3,4,8,11,12] [⟨(some 52),none,.load 3 true (.t 4)⟩,⟨(some 53),none,.load 3 true (.t 5)⟩,cm 54 2,⟨(some 55),none,.call (.c (.fn 199 [] [])) [(.t 52),(.t 53),(.t 54)]⟩,cm 51 55,co 56 (.ext 0 (.t 51)),co 57 (.ext 1 (.t 51)),⟨(some 11),none,.alloc [.emp,I 0,B false]⟩,⟨none,none,.store 3 (.t 11) (.t 56)⟩,cm 12 57]) (.seq (.seq (.ops [2,3,4,8,11,12,66] [co 58 (.fadr 0 (.t 11)),⟨(some 59),none,.load 1 false (.t 58)⟩,co 60 (.len false (.t 59)),co 61 (.bin .eql (.t 60) (.c (I 0))),cm 62 61,cg 63 62 true (.fadr 2 (.t 11)),⟨(some 64),(some (62,true)),.load 1 false (.t 63)⟩,cg 65 62 true (.un .not (.t 64)),co 66 (.pick (.t 62) (.t 65) (.c (B false)))]) (.cond (.t 66) (.seq (.ops [8,9] [co 67 (.build [B false,.emp,I 0] []),⟨none,none,.store 3 (.t 8) (.t 67)⟩,co 9 (.mv (.c (I 0)))]) (.ret)) (.skip))) (.seq (.ops [8,9] [co 68 (.fadr 0 (.t 4)),⟨(some 69),none,.load 1 false (.t 68)⟩,cm 70 12,co 71 (.eqc true 0 (.t 69) (.t 70)),⟨(some 72),none,.load 3 true (.t 11)⟩,cm 73 2,cm 74 3,⟨(some 75),none,.call (.c (.fn 191 [] [])) [(.t 71),(.t 72),(.t 73),(.t 74)]⟩,co 76 (.ext 0 (.t 75)),co 77 (.ext 1 (.t 75)),⟨none,none,.store 3 (.t 8) (.t 76)⟩,cm 9 77]) (.ret)))
theorem DF:zk=.seq (.ops [2,3,4,5,8] [⟨(some 4),none,.box 3 (.t 0)⟩,⟨(some 5),none,.box 3 (.t 1)⟩,⟨(some 8),none,.alloc [B false,.emp,I 0]⟩,co 9 (.mv (.c (I 0)))]) (.seq (.seq (.ops [2,3,4,5,8,10] [cm 13 2,⟨(some 14),none,.load 3 true (.t 4)⟩,⟨(some 15),none,.load 3 true (.t 5)⟩,⟨(some 16),none,.buildSl 3 [B false,.emp,I 0] 2 [(0,(.t 14)),(1,(.t 15))]⟩,⟨(some 17),none,.call (.c (.fn 65 [] [])) [(.t 13),(.t 16)]⟩,cm 10 17]) (.seq (.ops [2,3,4,5,8,10,19] [cm 18 10,co 19 (.bin .neq (.t 18) (.c (I 0)))]) (.cond (.t 19) (.seq (.ops [8,9] [co 20 (.build [B false,.emp,I 0] []),cm 21 10,⟨none,none,.store 3 (.t 8) (.t 20)⟩,cm 9 21]) (.ret)) (.skip)))) (.seq (.block 0 [2,3,4,5,8] (.seq (.ops [2,3,4,5,8,22] [co 23 (.fadr 1 (.t 4)),⟨(some 24),none,.load 1 false (.t 23)⟩,co 25 (.len false (.t 24)),co 26 (.bin .eql (.t 25) (.c (I 0))),cm 22 26]) (.cond (.t 22) (.seq (.ops [8,9] [⟨(some 27),none,.load 3 true (.t 5)⟩,cm 28 2,cm 29 3,⟨(some 30),none,.call (.c (.fn 198 [] [])) [(.t 27),(.t 28),(.t 29)]⟩,co 31 (.ext 0 (.t 30)),co 32 (.ext 1 (.t 30)),⟨none,none,.store 3 (.t 8) (.t 31)⟩,cm 9 32]) (.ret)) (.seq (.ops [2,3,4,5,8,33] [co 34 (.fadr 1 (.t 5)),⟨(some 35),none,.load 1 false (.t 34)⟩,co 36 (.len false (.t 35)),co 37 (.bin .eql (.t 36) (.c (I 0))),cm 33 37]) (.cond (.t 33) (.seq (.ops [8,9] [⟨(some 38),none,.load 3 true (.t 4)⟩,cm 39 2,cm 40 3,⟨(some 41),none,.call (.c (.fn 198 [] [])) [(.t 38),(.t 39),(.t 40)]⟩,co 42 (.ext 0 (.t 41)),co 43 (.ext 1 (.t 41)),⟨none,none,.store 3 (.t 8) (.t 42)⟩,cm 9 43]) (.ret)) (.skip)))))) (.seq (.seq (.dops [2,3,4,5,8,48] [⟨(some 44),none,.load 3 true (.t 4)⟩,⟨(some 45),none,.call (.c (.fn 149 [] [])) [(.t 44)]⟩,⟨(some 46),none,.load 3 true (.t 5)⟩,⟨(some 47),none,.call (.c (.fn 149 [] [])) [(.t 46)]⟩,co 48 (.bin .lss (.t 45) (.t 47))] [(1,2)]) (.cond (.t 48) (.ops [2,3,4,5,8] [⟨(some 49),none,.load 3 true (.t 5)⟩,⟨(some 50),none,.load 3 true (.t 4)⟩,⟨none,none,.store 3 (.t 4) (.t 49)⟩,⟨none,none,.store 3 (.t 5) (.t 50)⟩]) (.skip))) vg))):=rfl
variable{b:Rd}
theorem alQ{a:Rd}(oa:Ok0 a)(ob:Ok0 b)(va:vd a=true)(vb:vd b=true)(na:a.m.length≠0)(nb:b.m.length≠0)(hp:8<=p/\p<=512)(ht:aW b<=aW a):
  ag (D6 a b p).1.1<=4120∧-40000<=(D6 a b p).1.2.1/\(D6 a b p).1.2.1<=40000:=by
 have e1:=kQ va na;have e2:=kQ vb nb;obtain⟨a1,a2,a3,a4⟩:=fA va oa.lb;obtain⟨b1,b2,b3,b4⟩:=fA vb ob.lb;have l1:=SF (a:=a) (b:=b) (p:=p);have l2:=OH va vb oa.lb ob.lb na nb hp ht;have ba:=ju (ef va na);have bb:=ju (ef vb nb);rw[SH];obtain⟨l,hl⟩:∃l,yY a b p=l:=⟨_,rfl⟩;rw[hl]at l1 l2⊢;have hX:ag (ab a.m*2^ (a.e-l).toNat)<=4100:=by
  rw[ed _ (ef va na)];omega
 have hY:ag (yZ b l).1<=4100:=by
  unfold yZ;split
  ·rw[ed _ (ef vb nb)];omega
  ·show ag (_/_)<=_;rw[nN];omega
 generalize(yZ b l).1=Y at hY⊢;generalize(yZ b l).2=lost;generalize ab a.m*2^ (a.e-l).toNat=X at hX⊢;have hU:ag (wm (Y,lost))<=4101:=by
  unfold wm;split
  ·have:=Ug Y;show ag (Y+1)<=4101;omega
  ·show ag Y<=4101;omega
 have hm:∀x y:Nat,x<=y->ag y<=4101->ag x<=4101:=fun x y h1 h2=>AI h1 h2;generalize hYU:wm (Y,lost)=YU at hU;unfold SG;rw[hYU];split
 ·have:=Jg hX hY;exact⟨aBq this δ,by show-40000<=l;omega,by show l<=40000;omega⟩
 ·split
  ·exact⟨aBq (hm _ _ (Nat.sub_le _ _) hU) δ,by show-40000<=l;omega,by show l<=40000;omega⟩
  ·exact⟨aBq (hm _ _ (Nat.sub_le _ _) (aBq hX δ)) δ,by show-40000<=l;omega,by show l<=40000;omega⟩
theorem Uh{a:Rd}(oa:Ok0 a)(ob:Ok0 b)(va:vd a=true)(vb:vd b=true)(na:a.m.length≠0)(nb:b.m.length≠0){up:Bool}(hp:8<=n/\n<=512)(ht:aW b<=aW a)(s:aN)(h:ah)
  (h2:s 2=I (n:Nat)) (h3:s 3=B up) (h4:s 4=ac 4) (h5:s 5=ac 5) (h8:s 8=ac 8)
  (k4:h 4=.bx (aj a)) (k5:h 5=.bx (aj b)) (k8:h 8=.bx [B false,.emp,I 0]) (kd:∀i,i≠4->i≠5->i≠8->i≠16->h i=.dead):
  lI false [[.o 0 [],.o 2 [],.o 0 []],[]] [.cell 8 3 true,.t 9] 0 (ap R (aC false) vg s h)=some (rV (X1 a b (n:Nat) up),[]):=by
 have hs:=aoR oa ob va vb na nb (p:=(n:Nat)) ⟨by omega,by omega⟩ ht;obtain⟨g1,g2,g3⟩:=alQ oa ob va vb na nb (p:=(n:Nat)) ⟨by omega,by omega⟩ ht;have hl:(aA (D6 a b (n:Nat)).1.1).length<=256:=bk ω;have hg:=fun neg up=>GF (M:=aA (D6 a b (n:Nat)).1.1) (e:=(D6 a b (n:Nat)).1.2.1) (n:=n) (more:=(D6 a b (n:Nat)).1.2.2) (up:=up) (neg:=neg) (bJ _) hl ⟨g2,g3⟩ hp;unfold X1;generalize D6 a b (n:Nat)=z at hs g1 g2 g3 hl hg⊢;obtain⟨⟨M,l,more⟩,t⟩:=z;simp only[sV,ae,aj,zB]at hs hg k4 k5;simp only[bp]at hg;have hw:=hg (a.neg !=t) up;generalize hr:iX (a.neg !=t) (cO M l more (n:Nat) (up != (a.neg !=t)))=r at hw;simp only[rV,ae,aj]at hw;by_cases hM:M=0
 ·have e1:(((aA M).length:Int)=0)=True:=tt (by rw[hM,gh];rfl);cases more with
  |false=>
   rw[aq ⟨hM,rfl⟩];clear hr;simp only[vg,rV,ae,aj,aG,go_sem,ne_eq,not_false_eq_true,h2,h3,h4,h5,h8,k4,k5,k8,kd,hs,e1]
  |true=>
   rw[ax (fun h=>aBu h.2.symm)];rw[show iX (a.neg !=t) (cO M l true (n:Nat) (up != (a.neg !=t)))=r from hr];clear hr;simp only[vg,rV,ae,aj,go_sem,ne_eq,not_false_eq_true,h2,h3,h4,h5,h8,k4,k5,k8,kd,hs,e1,BY,hw]
 ·have e1:(((aA M).length:Int)=0)=False:=ff (fun h=>hM (py.1 (List.length_eq_zero_iff.1 ω)));rw[ax (fun h=>hM h.1)];rw[show iX (a.neg !=t) (cO M l more (n:Nat) (up != (a.neg !=t)))=r from hr];clear hr;simp only[vg,rV,ae,aj,go_sem,ne_eq,not_false_eq_true,h2,h3,h4,h5,h8,k4,k5,k8,kd,hs,e1,BY,hw]
theorem ai0{a:Rd}(oa:Ok0 a)(ob:Ok0 b){up:Bool}(h0:bh p [a,b]=0)(a0:a.m.length≠0)(b0:b.m.length≠0):R 156 [ae a,ae b,I p,B up] []=some (rV (SI a b p up),[]):=by
 refine az NC rfl ?_;have hf:R 65 [I p,.sl 3 [[B a.neg,lm a.m,I a.e],[B b.neg,lm b.m,I b.e]]] []=some (I (bh p [a,b]),[]):=CH (p:=p) (l:=[a,b]) (fun x hx=>by
  rcases List.mem_cons.1 hx with h|h
  ·rw[h];exact oa
  ·rw[List.mem_singleton.1 h];exact ob) (show 2<=100000 by decide)
 rw[h0]at hf;obtain⟨v1,hp⟩:=wY h0;have v4:vd a=true/\vd b=true:=by simpa using v1
 obtain⟨va,vb⟩:=v4;have ta:=zA oa;have tb:=zA ob;simp only[ae,aj]at ta tb;obtain⟨n,rfl⟩:=aCj (show 0<=p by omega);have e1:((a.m.length:Int)=0)=False:=ff;have e2:((b.m.length:Int)=0)=False:=ff;unfold SI;rw[aq h0,ax a0,ax b0];by_cases ht:aW a<aW b
 ·have e3:(aW a<aW b)=True:=tt ht;rw[aq ht];simp only[pP,DF,ae,aj,go_sem,hf,e1,e2,ta,tb,e3];refine Uh ob oa vb va b0 a0 ω ω _ _ Z Z Z Z Z Z Z Z fun i h4 h5 h8 h16=>?_;simp only[dv,h4,h5,h8,h16,if_false]
 ·have e3:(aW a<aW b)=False:=ff ht;rw[ax ht];simp only[pP,DF,ae,aj,go_sem,hf,e1,e2,ta,tb,e3];refine Uh oa ob va vb a0 b0 ω ω _ _ Z Z Z Z Z Z Z Z fun i h4 h5 h8 h16=>?_;simp only[dv,h4,h5,h8,h16,if_false]
theorem aaX{a:Rd}(oa:Ok0 a)(ob:Ok0 b){up:Bool}:R 156 [ae a,ae b,I p,B up] []=some (rV (dq a b p up),[]):=by
 rw[←alP oa ob];by_cases h0:bh p [a,b]=0
 ·by_cases a0:a.m.length=0
  ·exact OJ oa ob (Or.inr (Or.inl a0))
  ·by_cases b0:b.m.length=0
   ·exact OJ oa ob (Or.inr (Or.inr b0))
   ·exact ai0 oa ob h0 a0 b0
 ·exact OJ oa ob (Or.inl h0)
theorem OL{a:Rd}(oa:Ok0 a)(ob:Ok0 b):R 105 [ae a,ae b,I p] []=some (rV (dq a b p true),[]):=by
 refine az Vh rfl ?_;have hr:=aaX oa ob (p:=p) (up:=true);generalize dq a b p true=r at hr⊢;simp only[rV,ae,aj]at hr;simp only[Cr,rV,ae,aj,go_sem,hr]
theorem Ji{a:Rd}(oa:Ok0 a)(ob:Ok0 b):R 104 [ae a,ae b,I p] []=some (rV (dq a b p false),[]):=by
 refine az Qb rfl ?_;have hr:=aaX oa ob (p:=p) (up:=false);generalize dq a b p false=r at hr⊢;simp only[rV,ae,aj]at hr;simp only[Ac,rV,ae,aj,go_sem,hr]
theorem La{a:Rd}(oa:Ok0 a)(ob:Ok0 b):R 123 [ae a,ae b,I p] []=some (rV (eA a b p true),[]):=by
 rw[←aaV oa ob];exact aiW oa ob
theorem Hk{a:Rd}(oa:Ok0 a)(ob:Ok0 b):R 122 [ae a,ae b,I p] []=some (rV (eA a b p false),[]):=by
 rw[←aaV oa ob];exact adL oa ob
def cx(d:Rd)(p:Int)(up:Bool):Rd×Int:=if bh p [d]=0 then iL (zI d) (-16384) p up else(aG,bh p [d])
theorem SK{d:Rd}(ok:Ok0 d):R 193 [ae d,I p] []=some (rV (cx d p true),[]):=by
 have h:=GG ok (p:=p) (up:=true);rw[cx,←h];exact aoQ ok
theorem Lc{d:Rd}(ok:Ok0 d):R 192 [ae d,I p] []=some (rV (cx d p false),[]):=by
 have h:=GG ok (p:=p) (up:=false);rw[cx,←h];exact aiV ok
structure Ri where
 lo:Rd
 hi:Rd
 all:Bool
def am(x:Ri):List AV:=[B x.lo.neg,lm x.lo.m,I x.lo.e,B x.hi.neg,lm x.hi.m,I x.hi.e,B x.all]
def af(x:Ri):AV:=.agg (am x)
def cG:Ri:=⟨aG,aG,true⟩
structure OkI (x:Ri):Prop where
 lo:Ok0 x.lo
 hi:Ok0 x.hi
def z0(d:Rd):Bool:=!d.neg&& (decide (d.m.length=0)&&decide (d.e=0))
def vi(x:Ri):Bool:=if x.all=true then z0 x.lo&&z0 x.hi else vd x.lo&& (vd x.hi&&decide (zI x.lo<=zI x.hi))
def kI(x:Ri):Bool:=!x.all&&vi x
def bE(p:Int):Bool:=decide (8<=p)&&decide (p<=512)
theorem mV{p}:R 91 [I p] []=some (B (bE p),[]):=by
 refine az I5 rfl ?_;unfold bE;by_cases h1:8<=p
 ·have e1:=tt h1;simp only[nj,go_sem,e1,decide_true,aBt]
 ·have e1:=ff h1;simp only[nj,go_sem,e1,decide_false,aBy]
theorem gP:R 47 [] []=some (af cG,[]):=by
 refine az N5 rfl ?_;simp only[yD,af,am,cG,aG,go_sem]
theorem akN{d}:R 64 [ae d] []=some (B (z0 d),[]):=by
 refine az KX rfl ?_;unfold z0;cases hn:d.neg with
 |true=>simp only[jF,ae,aj,go_sem,hn,Bool.not_true,aBy]
 |false=>
  by_cases h1:d.m.length=0
  ·have e1:((d.m.length:Int)=0)=True:=tt;by_cases h2:d.e=0
   ·have e2:=tt h2;rw[decide_eq_true h1,decide_eq_true h2];simp only[jF,ae,aj,go_sem,hn,e1,e2,Bool.not_false,aBt]
   ·have e2:=ff h2;rw[decide_eq_true h1,decide_eq_false h2];simp only[jF,ae,aj,go_sem,hn,e1,e2,Bool.not_false,aBt]
  ·have e1:((d.m.length:Int)=0)=False:=ff;rw[decide_eq_false h1];simp only[jF,ae,aj,go_sem,hn,e1,Bool.not_false,aBt,aBy]
theorem H0{x y}:(gy x y<=0)=(x<=y):=by
 grind[gy]
theorem pf{x}(ok:OkI x):R 23 [af x] []=some (B (vi x),[]):=by
 refine az N0 rfl ?_;unfold vi;have zl:=akN (d:=x.lo);have zh:=akN (d:=x.hi);have vl:=eG ok.lo;have vh:=eG ok.hi;have hc:=pF ok.lo ok.hi;simp only[ae,aj]at zl zh vl vh hc;cases ha:x.all with
 |true=>
  cases h1:z0 x.lo with
  |true=>
   rw[h1]at zl;simp only[jk,af,am,go_sem,ha,zl,zh,aBt]
  |false=>
   rw[h1]at zl;simp only[jk,af,am,go_sem,ha,zl,aBy]
 |false=>
  cases h1:vd x.lo with
  |false=>
   rw[h1]at vl;simp only[jk,af,am,go_sem,ha,vl,aBy]
  |true=>
   rw[h1]at vl;cases h2:vd x.hi with
   |false=>
    rw[h2]at vh;simp only[jk,af,am,go_sem,ha,vl,vh,aBt,aBy]
   |true=>
    rw[h2]at vh;rw[h1,h2,aq ⟨rfl,rfl⟩]at hc;simp only[jk,af,am,go_sem,ha,vl,vh,hc,H0,aBt]
theorem gR{d}(ok:Ok0 d)(hv:vd d=true):R 82 [ae d] []=some (af ⟨d,d,false⟩,[]):=by
 refine az N8 rfl ?_;have vl:=eG ok;rw[hv]at vl;simp only[ae,aj]at vl;simp only[yE,ae,aj,af,am,go_sem,vl]
def nC(r s:Rd×Int):Ri:=if r.2=0/\s.2=0 then⟨r.1,s.1,false⟩else cG
theorem EH{a b}{e f}:R 106 [ae a,I e,ae b,I f] []=some (af (nC (a,e) (b,f)),[]):=by
 refine az Qc rfl ?_;have hw:=gP;unfold nC;by_cases h1:e=0
 ·have e1:=tt h1;by_cases h2:f=0
  ·have e2:=tt h2;simp only[pM,ae,aj,af,am,go_sem,e1,e2]
  ·have e2:=ff h2;simp only[pM,ae,aj,af,am,go_sem,e1,e2,hw]
 ·have e1:=ff h1;simp only[pM,ae,aj,af,am,go_sem,e1,hw]
def cB(l:List Ri):List (List AV):=l.map am
@[go_sem] theorem aaY(l):(cB l).length=l.length:=by simp[cB]
theorem EI{l}{i:Int}{d}(hi:i=n)(h:l[n]?=some d):dX (cB l) i=some (.ipt (am d)):=by
 grind[dX,cB]
theorem adO(l)(ok:∀d∈l,OkI d)(h2:l.length<=100000):∀ (k i:Nat),i+k=l.length->∀s h,s 5=.sl 7 (cB l)->s 6=I l.length->s 7=I i->
  ∃hh,ao 0 [] (aD (ap R (aC false) jG) [5,6,7] [] s h)=if((l.drop i).all kI)=true then some (.normal,⟨fun _=>.any,fun _=>.dead⟩)else some (.ret,⟨upd cr 2 (B false),hh⟩):=by
 intro k;induction k with
 |zero=>
  intro i hi s h h5 h6 h7;have e1:((i:Int)<l.length)=False:=ff;rw[aBQ ω,ai,List.all_nil,aq rfl];refine⟨fun _=>.dead,?_⟩;simp only[jG,go_sem,h5,h6,h7,e1]
 |succ k ih=>
  intro i hi s h h5 h6 h7;have hlt:i<l.length:=ω
  have e1:((i:Int)<l.length)=True:=tt;have e2:=EI rfl (aBp hlt);have e5:aS (i+1)=(i+1:Nat):=wi;have e3:=pf (ok l[i] (aBT hlt));rw[aBJ hlt,aBO,ai];have ih':=ih (i+1) ω;generalize l[i]=d at e2 e3⊢;simp only[af]at e3;simp only[am]at e2 e3;unfold kI at ih'⊢;cases ha:d.all with
  |true=>
   refine⟨?hh,?_⟩;rotate_left;simp only[jG,go_sem,h5,h6,h7,e1,e2,ha];rfl
  |false=>
   rw[ha]at e3;cases hv:vi d with
   |false=>
    rw[hv]at e3;refine⟨?hh2,?_⟩;rotate_left;simp only[jG,go_sem,h5,h6,h7,e1,e2,e3,ha];rfl
   |true=>
    rw[hv]at e3;simp only[jG,go_sem,h5,h6,h7,e1,e2,e3,e5,ha];apply ih'<;>rfl
theorem X6{l}(ok:∀d∈l,OkI d)(h2:l.length<=100000):R 90 [.sl 7 (cB l)] []=some (B (l.all kI),[]):=by
 refine az N9 rfl ?_;have h3:=adO l ok h2 l.length 0 (aBi _);simp only[List.drop_zero,aBV]at h3;cases ha:l.all kI with
 |false=>
  rw[ha]at h3;simp only[rS,zV,go_sem];rw[(h3 _ _ Z Z Z).choose_spec];simp only[go_sem]
 |true=>
  rw[ha]at h3;simp only[rS,zV,go_sem];rw[(h3 _ _ Z Z Z).choose_spec];simp only[go_sem]
theorem pg{x}(ok:OkI x):R 90 [.sl 7 [[B x.lo.neg,lm x.lo.m,I x.lo.e,B x.hi.neg,lm x.hi.m,I x.hi.e,B x.all]]] []=some (B (kI x),[]):=by
 have h:=X6 (l:=[x]) (fun d hd=>by grind) (show 1<=100000 by decide);rw[aBO,List.all_nil,Bool.and_true]at h;exact h
theorem GH{x y}(ox:OkI x)(oy:OkI y):R 90 [.sl 7 [[B x.lo.neg,lm x.lo.m,I x.lo.e,B x.hi.neg,lm x.hi.m,I x.hi.e,B x.all],[B y.lo.neg,lm y.lo.m,I y.lo.e,B y.hi.neg,lm y.hi.m,I y.hi.e,B y.all]]] []=some (B (kI x&&kI y),[]):=by
 have h:=X6 (l:=[x,y]) (fun d hd=>by
  grind) (show 2<=100000 by decide)
 rw[aBO,aBO,List.all_nil,Bool.and_true]at h;exact h
def dk(x y:Ri)(p:Int):Ri:=if(kI x&&kI y&&bE p)=true then nC (dq x.lo y.lo p false) (dq x.hi y.hi p true)else cG
theorem te{x y}(ox:OkI x)(oy:OkI y){p}:R 48 [af x,af y,I p] []=some (af (dk x y p),[]):=by
 refine az Sd rfl ?_;have hk:=GH ox oy;have hp:=mV (p:=p);have hw:=gP;have hd:=Ji ox.lo oy.lo (p:=p);have hu:=OL ox.hi oy.hi (p:=p);unfold dk;generalize dq x.lo y.lo p false=r at hd⊢;generalize dq x.hi y.hi p true=q at hu⊢;obtain⟨r1,r2⟩:=r;obtain⟨q1,q2⟩:=q;have hm:=EH (a:=r1) (b:=q1) (e:=r2) (f:=q2);simp only[af,am,rV,ae,aj]at hw hd hu hm;cases h1:(kI x&&kI y)with
 |false=>
  rw[h1]at hk;simp only[qR,af,am,go_sem,hk,hw]
 |true=>
  rw[h1]at hk;cases h2:bE p with
  |false=>
   rw[h2]at hp;simp only[qR,af,am,go_sem,hk,hp,hw]
  |true=>
   rw[h2]at hp;simp only[qR,af,am,go_sem,hk,hp,hw,hd,hu,hm]
def iY(a b:Rd):Int:=if vd a=true/\vd b=true then gy (zI a) (zI b)else 0
def mK(a b:Rd):Rd:=if iY a b<=0 then a else b
def mL(a b:Rd):Rd:=if 0<=iY a b then a else b
theorem SL{a b}(oa:Ok0 a)(ob:Ok0 b):R 202 [ae a,ae b] []=some (ae (mK a b),[]):=by
 refine az Qg rfl ?_;have hc:=pF oa ob;rw[show(if vd a=true/\vd b=true then gy (zI a) (zI b)else 0)=iY a b from rfl]at hc;simp only[ae,aj]at hc;unfold mK;by_cases h:iY a b<=0
 ·have e1:=tt h;simp only[uo,ae,aj,go_sem,hc,e1]
 ·have e1:=ff h;simp only[uo,ae,aj,go_sem,hc,e1]
theorem SM{a b}(oa:Ok0 a)(ob:Ok0 b):R 201 [ae a,ae b] []=some (ae (mL a b),[]):=by
 refine az Qf rfl ?_;have hc:=pF oa ob;rw[show(if vd a=true/\vd b=true then gy (zI a) (zI b)else 0)=iY a b from rfl]at hc;simp only[ae,aj]at hc;unfold mL;by_cases h:0<=iY a b
 ·have e1:=tt h;simp only[uk,ae,aj,go_sem,hc,e1]
 ·have e1:=ff h;simp only[uk,ae,aj,go_sem,hc,e1]
theorem akO{x}(h:kI x=true):vd x.lo=true/\vd x.hi=true/\zI x.lo<=zI x.hi/\x.all=false:=by
 unfold kI vi at h;grind
theorem ar8{x}(h1:vd x.lo=true)(h2:vd x.hi=true)(h3:zI x.lo<=zI x.hi)(h4:x.all=false):kI x=true:=by
 grind[kI,vi,decide_eq_true]
def J2(x:Ri):Int:=if 0<kj x.lo then 1 else if kj x.hi<0 then-1 else 0
theorem FJ{x}(ok:OkI x)(hx:kI x=true):R 52 [af x] []=some (I (J2 x),[]):=by
 refine az P5 rfl ?_;obtain⟨v1,v2,v3,v4⟩:=akO hx;have hk:=pg ok;rw[hx]at hk;have s1:=Al ok.lo v1;have s2:=Al ok.hi v2;simp only[ae,aj]at s1 s2;unfold J2;by_cases h1:0<kj x.lo
 ·have e1:=tt h1;simp only[pJ,af,am,go_sem,hk,s1,e1]
 ·have e1:=ff h1;by_cases h2:kj x.hi<0
  ·have e2:=tt h2;simp only[pJ,af,am,go_sem,hk,s1,e1,s2,e2]
  ·have e2:=ff h2;simp only[pJ,af,am,go_sem,hk,s1,e1,s2,e2]
def nP(d:Rd):Rd:=if vd d=false\/d.m.length=0 then aG else⟨false,d.m,d.e⟩
theorem aO:vd aG=true/\Ok0 aG:=⟨rfl,⟨fun x hx=>(nomatch hx),by decide⟩⟩
theorem tj{d}(ok:Ok0 d):Ok0 (nP d):=by
 unfold nP;split
 ·exact aO.2
 ·exact⟨ok.1,ok.2⟩
def CJ(x:Ri):Rd:=if J2 x=0 then aG else mK (nP x.lo) (nP x.hi)
def vL(x:Ri):Rd:=mL (nP x.lo) (nP x.hi)
theorem aoS{x}(ok:OkI x)(hx:kI x=true):R 210 [af x] []=some (.tup [ae (CJ x),B true],[]):=by
 refine az Ss rfl ?_;have hk:=pg ok;rw[hx]at hk;have hs:=FJ ok hx;have a1:=K5 ok.lo;have a2:=K5 ok.hi;rw[show(if vd x.lo=false\/x.lo.m.length=0 then aG else⟨false,x.lo.m,x.lo.e⟩)=nP x.lo from rfl]at a1;rw[show(if vd x.hi=false\/x.hi.m.length=0 then aG else⟨false,x.hi.m,x.hi.e⟩)=nP x.hi from rfl]at a2;have hl:=SL (tj ok.lo) (tj ok.hi);unfold CJ;simp only[af,am,ae,aj]at hs a1 a2 hl;by_cases h1:J2 x=0
 ·have e1:=tt h1;simp only[wj,af,am,ae,aj,aG,go_sem,hk,hs,e1]
 ·have e1:=ff h1;simp only[wj,af,am,ae,aj,go_sem,hk,hs,e1,a1,a2,hl]
theorem X7{x}(ok:OkI x)(hx:kI x=true):R 211 [af x] []=some (.tup [ae (vL x),B true],[]):=by
 refine az Su rfl ?_;have hk:=pg ok;rw[hx]at hk;have a1:=K5 ok.lo;have a2:=K5 ok.hi;rw[show(if vd x.lo=false\/x.lo.m.length=0 then aG else⟨false,x.lo.m,x.lo.e⟩)=nP x.lo from rfl]at a1;rw[show(if vd x.hi=false\/x.hi.m.length=0 then aG else⟨false,x.hi.m,x.hi.e⟩)=nP x.hi from rfl]at a2;have hl:=SM (tj ok.lo) (tj ok.hi);unfold vL;simp only[ae,aj]at a1 a2 hl;simp only[BH,af,am,ae,aj,go_sem,hk,a1,a2,hl]
def lK(x:Ri):Ri:=if kI x=true then⟨CJ x,vL x,false⟩else cG
theorem aaZ{x}(ok:OkI x):R 162 [af x] []=some (af (lK x),[]):=by
 refine az Sk rfl ?_;have hk:=pg ok;have hw:=gP;unfold lK;cases hx:kI x with
 |false=>
  rw[hx]at hk;simp only[v9,af,am,go_sem,hk,hw]
 |true=>
  rw[hx]at hk;have h1:=aoS ok hx;have h2:=X7 ok hx;simp only[af,am,ae,aj]at h1 h2;simp only[v9,af,am,go_sem,hk,h1,h2]
def BZ(dn up:Rd->Rd->Rd×Int)(pr:Nat->Rd×Rd):Nat->Nat->Rd×Rd->Option (Rd×Rd)
 |0,_,o=>some o
 |k+1,i,o=>if(dn (pr i).1 (pr i).2).2=0/\(up (pr i).1 (pr i).2).2=0 then
   BZ dn up pr k (i+1) (if iY (dn (pr i).1 (pr i).2).1 o.1<0 then(dn (pr i).1 (pr i).2).1 else o.1,if 0<iY (up (pr i).1 (pr i).2).1 o.2 then(up (pr i).1 (pr i).2).1 else o.2)
  else none
def sf(dn up:Rd->Rd->Rd×Int)(pr:Nat->Rd×Rd):Option (Rd×Rd):=
 if(dn (pr 0).1 (pr 0).2).2=0/\(up (pr 0).1 (pr 0).2).2=0 then BZ dn up pr 3 1 ((dn (pr 0).1 (pr 0).2).1,(up (pr 0).1 (pr 0).2).1)else none
def H1:Option (Rd×Rd)->Ri
 |some o=>⟨o.1,o.2,false⟩
 |none=>cG
def VN(x:Option (Ex×St))(o:Option (Rd×Rd)):Prop:=match o with
 |some q=>∃hh,x=some (.normal,⟨upd (upd cr 12 (ac 12)) 10 (ac 10),hh⟩)/\hh 10=.bx [B false,.emp,I 0,B false,.emp,I 0,B false]/\hh 12=.bx (am ⟨q.1,q.2,false⟩)
 |none=>∃hh,x=some (.ret,⟨upd cr 10 (ac 10),hh⟩)/\hh 10=.bx (am cG)
theorem CK{a b}{p}{up}:Ok0 (eA a b p up).1:=by
 unfold eA;split
 ·exact vf.2
 ·exact aO.2
structure Op2 (f:FuncId) (g:Rd->Rd->Rd×Int) (p:Int):Prop where
 ct:∀ {a b:Rd},Ok0 a->Ok0 b->R f [ae a,ae b,I p] []=some (rV (g a b),[])
 ok:∀ {a b:Rd},Ok0 (g a b).1
 s:BL f [[.o 0 [],.o 2 [],.o 0 []],[.o 0 [],.o 2 [],.o 0 []],[]]
 m:BM f []
 k:BN f false
 c:Fu f
theorem afK{p}{A}{pr}{fD fU}{dn up}(oD:Op2 fD dn p)(oU:Op2 fU up p)(hA:iS [10,12] A=A)(hidx:∀i:Nat,i<4->LQ 4 6 true A (I i)=some (.agg [B (pr i).1.neg,lm (pr i).1.m,I (pr i).1.e,B (pr i).2.neg,lm (pr i).2.m,I (pr i).2.e]))
  (hok:∀i,Ok0 (pr i).1/\Ok0 (pr i).2):∀ (k i:Nat),i+k=4->1<=i->∀lo hi s h,Ok0 lo->Ok0 hi->s 2=I p->s 3=.fn fD [] []->s 4=.fn fU [] []->s 10=ac 10->s 12=ac 12->s 40=A->s 41=I i->
  h 10=.bx [B false,.emp,I 0,B false,.emp,I 0,B false]->h 12=.bx (am ⟨lo,hi,false⟩)->
  VN (ao 0 [10,12] (aD (ap R (aC false) bK) [2,3,4,10,12,40,41] [10,12] s h)) (BZ dn up pr k i (lo,hi)):=by
 intro k;induction k with
 |zero=>
  intro i hi4 h1 lo hi s h olo ohi h2 h3 h4 h10 h12 h40 h41 k10 k12;have e1:((i:Int)<4)=False:=ff;simp only[am]at k12;rw[ai];refine⟨?hh0,?_,?_,?_⟩;rotate_left
  ·simp only[bK,go_sem,h2,h3,h4,h10,h12,h40,h41,k10,k12,hA,e1];rfl
  ·rfl
  ·rfl
 |succ k ih=>
  intro i hi4 h1 lo hi s h olo ohi h2 h3 h4 h10 h12 h40 h41 k10 k12;have e1:((i:Int)<4)=True:=tt;have e0:((i:Int)=0)=False:=ff;have ei:=hidx i ω;have e5:aS ((i:Int)+1)=((i+1:Nat):Int):=wi;have hd:=oD.ct (hok i).1 (hok i).2;have hu:=oU.ct (hok i).1 (hok i).2;have hw:=gP;have okd:=oD.ok (a:=(pr i).1) (b:=(pr i).2);have oku:=oU.ok (a:=(pr i).1) (b:=(pr i).2);have c1:=pF okd olo;have c2:=pF oku ohi;rw[show∀a b,(if vd a=true/\vd b=true then gy (zI a) (zI b)else 0)=iY a b from fun _ _=>rfl]at c1 c2;have ih':=ih (i+1) ω ω;unfold BZ;simp only[am]at k12;show VN _ (if(dn (pr i).1 (pr i).2).2=0/\(up (pr i).1 (pr i).2).2=0 then _ else none);generalize dn (pr i).1 (pr i).2=r at hd okd c1⊢;generalize up (pr i).1 (pr i).2=q at hu oku c2⊢;obtain⟨r1,r2⟩:=r;obtain⟨q1,q2⟩:=q;show VN _ (if r2=0/\q2=0 then BZ dn up pr k (i+1) (if iY r1 lo<0 then r1 else lo,if 0<iY q1 hi then q1 else hi)else none);simp only[rV,ae,aj,af,am,cG,aG]at hd hu hw c1 c2;rw[ai];generalize aD _ _ _=L at ih'⊢;by_cases hr:r2=0
  ·have er:=tt hr;by_cases hq:q2=0
   ·have eq:=tt hq;rw[aq (show r2=0/\q2=0 from⟨hr,hq⟩)];by_cases g1:iY r1 lo<0
    ·have f1:=tt g1;by_cases g2:0<iY q1 hi
     ·have f2:=tt g2;rw[aq g1,aq g2];simp only[bK,Int.cast_ofNat_Int,go_sem,oD.s,oD.m,oD.k,oD.c,oU.s,oU.m,oU.k,oU.c,aBm,aBn,aBL,h2,h3,h4,h10,h12,h40,h41,k10,k12,hA,e1,e0,ei,hd,hu,er,eq,c1,c2,f1,f2,e5];exact ih' r1 q1 _ _ okd oku Z Z Z Z Z Z Z Z Z
     ·have f2:(0<iY q1 hi)=False:=ff g2;rw[aq g1,ax g2];simp only[bK,Int.cast_ofNat_Int,go_sem,oD.s,oD.m,oD.k,oD.c,oU.s,oU.m,oU.k,oU.c,aBm,aBn,aBL,h2,h3,h4,h10,h12,h40,h41,k10,k12,hA,e1,e0,ei,hd,hu,er,eq,c1,c2,f1,f2,e5];exact ih' r1 hi _ _ okd ohi Z Z Z Z Z Z Z Z Z
    ·have f1:(iY r1 lo<0)=False:=ff g1;by_cases g2:0<iY q1 hi
     ·have f2:(0<iY q1 hi)=True:=tt g2;rw[ax g1,aq g2];simp only[bK,Int.cast_ofNat_Int,go_sem,oD.s,oD.m,oD.k,oD.c,oU.s,oU.m,oU.k,oU.c,aBm,aBn,aBL,h2,h3,h4,h10,h12,h40,h41,k10,k12,hA,e1,e0,ei,hd,hu,er,eq,c1,c2,f1,f2,e5];exact ih' lo q1 _ _ olo oku Z Z Z Z Z Z Z Z Z
     ·have f2:(0<iY q1 hi)=False:=ff g2;rw[ax g1,ax g2];simp only[bK,Int.cast_ofNat_Int,go_sem,oD.s,oD.m,oD.k,oD.c,oU.s,oU.m,oU.k,oU.c,aBm,aBn,aBL,h2,h3,h4,h10,h12,h40,h41,k10,k12,hA,e1,e0,ei,hd,hu,er,eq,c1,c2,f1,f2,e5];exact ih' lo hi _ _ olo ohi Z Z Z Z Z Z Z Z Z
   ·have eq:(q2=0)=False:=ff hq;rw[ax (show¬(r2=0/\q2=0)from fun h=>hq h.2)];refine⟨?hh1,?_,?_⟩;rotate_left
    ·simp only[bK,Int.cast_ofNat_Int,go_sem,oD.s,oD.m,oD.k,oD.c,oU.s,oU.m,oU.k,oU.c,aBm,aBn,aBL,h2,h3,h4,h10,h12,h40,h41,k10,k12,hA,e1,ei,hd,hu,er,eq,hw];rfl
    ·rfl
  ·have er:(r2=0)=False:=ff hr;rw[ax (show¬(r2=0/\q2=0)from fun h=>hr h.1)];refine⟨?hh2,?_,?_⟩;rotate_left
   ·simp only[bK,Int.cast_ofNat_Int,go_sem,oD.s,oD.m,oD.k,oD.c,oU.s,oU.m,oU.k,oU.c,aBm,aBn,aBL,h2,h3,h4,h10,h12,h40,h41,k10,k12,hA,e1,ei,hd,hu,er,hw];rfl
   ·rfl
theorem adP{p}{A}{pr}{fD fU}{dn up}(oD:Op2 fD dn p)(oU:Op2 fU up p)(hA:iS [10,12] A=A)(hidx:∀i:Nat,i<4->LQ 4 6 true A (I i)=some (.agg [B (pr i).1.neg,lm (pr i).1.m,I (pr i).1.e,B (pr i).2.neg,lm (pr i).2.m,I (pr i).2.e]))
  (hok:∀i,Ok0 (pr i).1/\Ok0 (pr i).2) (s) (h) (h2:s 2=I p) (h3:s 3=.fn fD [] []) (h4:s 4=.fn fU [] []) (h10:s 10=ac 10) (h12:s 12=ac 12) (h40:s 40=A) (h41:s 41=I 0)
  (k10:h 10=.bx [B false,.emp,I 0,B false,.emp,I 0,B false]) (k12:h 12=.bx [B false,.emp,I 0,B false,.emp,I 0,B false]):
  VN (ao 0 [10,12] (aD (ap R (aC false) bK) [2,3,4,10,12,40,41] [10,12] s h)) (sf dn up pr):=by
 have ei:=hidx 0 δ;simp only[aBV]at ei;have hd:=oD.ct (hok 0).1 (hok 0).2;have hu:=oU.ct (hok 0).1 (hok 0).2;have hw:=gP;have okd:=oD.ok (a:=(pr 0).1) (b:=(pr 0).2);have oku:=oU.ok (a:=(pr 0).1) (b:=(pr 0).2);have ih':=afK (p:=p) (A:=A) (pr:=pr) oD oU hA hidx hok 3 1 rfl δ;unfold sf;generalize dn (pr 0).1 (pr 0).2=r at hd okd⊢;generalize up (pr 0).1 (pr 0).2=q at hu oku⊢;obtain⟨r1,r2⟩:=r;obtain⟨q1,q2⟩:=q;simp only[rV,ae,aj,af,am,cG,aG]at hd hu hw;rw[ai];have e6:aS (0+1)=1:=rfl;by_cases hr:r2=0
 ·have er:=tt hr;by_cases hq:q2=0
  ·have eq:=tt hq;simp only[bK,Int.cast_ofNat_Int,go_sem,oD.s,oD.m,oD.k,oD.c,oU.s,oU.m,oU.k,oU.c,aBm,aBn,aBL,h2,h3,h4,h10,h12,h40,h41,k10,k12,hA,ei,hd,hu,er,eq,e6];exact ih' r1 q1 _ _ okd oku Z Z Z Z Z Z Z Z Z
  ·have eq:=ff hq;rw[ax (show¬(r2=0/\q2=0)from fun h=>hq h.2)];refine⟨?hh3,?_,?_⟩;rotate_left
   ·simp only[bK,Int.cast_ofNat_Int,go_sem,oD.s,oD.m,oD.k,oD.c,oU.s,oU.m,oU.k,oU.c,aBm,aBn,aBL,h2,h3,h4,h10,h12,h40,h41,k10,k12,hA,ei,hd,hu,er,eq,hw];rfl
   ·rfl
 ·have er:=ff hr;rw[ax (show¬(r2=0/\q2=0)from fun h=>hr h.1)];refine⟨?hh4,?_,?_⟩;rotate_left
  ·simp only[bK,Int.cast_ofNat_Int,go_sem,oD.s,oD.m,oD.k,oD.c,oU.s,oU.m,oU.k,oU.c,aBm,aBn,aBL,h2,h3,h4,h10,h12,h40,h41,k10,k12,hA,ei,hd,hu,er,hw];rfl
  ·rfl
def gM(x y:Ri)(i:Nat):Rd×Rd:=match i with
 |0=>(x.lo,y.lo)
 |1=>(x.lo,y.hi)
 |2=>(x.hi,y.lo)
 |_=>(x.hi,y.hi)
def cU(x y:Ri)(p:Int):Ri:=if(kI x&&kI y&&bE p)=true then H1 (sf (fun a b=>eA a b p false) (fun a b=>eA a b p true) (gM x y))else cG
noncomputable def Ef:Cmd:=.seq (.seq (.ops [2,3,4,10,12,40,41] [⟨(some 40),none,.load 24 true (.t 11)⟩,co 41 (.mv (.c (I 0)))]) (.block 0 [10,12] (.loop [2,3,4,10,12,40,41] [10,12] bK))) (.seq (.ops [10] [⟨(some 95),none,.load 7 true (.t 12)⟩,⟨none,none,.store 7 (.t 10) (.t 95)⟩]) (.ret))
theorem Hl:Gt=.seq (.ops [2,3,4,5,6,10] [⟨(some 5),none,.box 7 (.t 0)⟩,⟨(some 6),none,.box 7 (.t 1)⟩,⟨(some 10),none,.alloc [B false,.emp,I 0,B false,.emp,I 0,B false]⟩]) (.seq (.ops [2,3,4,10,11] [co 19 (.fadr 0 (.t 5)),⟨(some 20),none,.load 3 true (.t 19)⟩,co 21 (.fadr 0 (.t 6)),⟨(some 22),none,.load 3 true (.t 21)⟩,co 23 (.build [B false,.emp,I 0,B false,.emp,I 0] [(0,3,(.t 20)),(3,3,(.t 22))]),co 24 (.fadr 0 (.t 5)),⟨(some 25),none,.load 3 true (.t 24)⟩,co 26 (.fadr 3 (.t 6)),⟨(some 27),none,.load 3 true (.t 26)⟩,co 28 (.build [B false,.emp,I 0,B false,.emp,I 0] [(0,3,(.t 25)),(3,3,(.t 27))]),co 29 (.fadr 3 (.t 5)),⟨(some 30),none,.load 3 true (.t 29)⟩,co 31 (.fadr 0 (.t 6)),⟨(some 32),none,.load 3 true (.t 31)⟩,co 33 (.build [B false,.emp,I 0,B false,.emp,I 0] [(0,3,(.t 30)),(3,3,(.t 32))]),co 34 (.fadr 3 (.t 5)),⟨(some 35),none,.load 3 true (.t 34)⟩,co 36 (.fadr 3 (.t 6)),⟨(some 37),none,.load 3 true (.t 36)⟩,co 38 (.build [B false,.emp,I 0,B false,.emp,I 0] [(0,3,(.t 35)),(3,3,(.t 37))]),co 39 (.build [B false,.emp,I 0,B false,.emp,I 0,B false,.emp,I 0,B false,.emp,I 0,B false,.emp,I 0,B false,.emp,I 0,B false,.emp,I 0,B false,.emp,I 0] [(0,6,(.t 23)),(6,6,(.t 28)),(12,6,(.t 33)),(18,6,(.t 38))]),⟨(some 11),none,.alloc [B false,.emp,I 0,B false,.emp,I 0,B false,.emp,I 0,B false,.emp,I 0,B false,.emp,I 0,B false,.emp,I 0,B false,.emp,I 0,B false,.emp,I 0]⟩,⟨none,none,.store 24 (.t 11) (.t 39)⟩]) (.seq (.ops [2,3,4,10,11,12] [⟨(some 12),none,.alloc [B false,.emp,I 0,B false,.emp,I 0,B false]⟩]) Ef)):=rfl
theorem aoT{x y}(ox:OkI x)(oy:OkI y)(i):Ok0 (gM x y i).1/\Ok0 (gM x y i).2:=by
 unfold gM;split
 ·exact⟨ox.1,oy.1⟩
 ·exact⟨ox.1,oy.2⟩
 ·exact⟨ox.2,oy.1⟩
 ·exact⟨ox.2,oy.2⟩
def adQ(x y:Ri):List AV:=[B x.lo.neg,lm x.lo.m,I x.lo.e,B y.lo.neg,lm y.lo.m,I y.lo.e,B x.lo.neg,lm x.lo.m,I x.lo.e,B y.hi.neg,lm y.hi.m,I y.hi.e,B x.hi.neg,lm x.hi.m,I x.hi.e,B y.lo.neg,lm y.lo.m,I y.lo.e,B x.hi.neg,lm x.hi.m,I x.hi.e,B y.hi.neg,lm y.hi.m,I y.hi.e]
theorem afL{x y}(ox:OkI x)(oy:OkI y){p}{fD fU}{dn up}(oD:Op2 fD dn p)(oU:Op2 fU up p)(s)(h)(h2:s 2=I p)(h3:s 3=.fn fD [] [])(h4:s 4=.fn fU [] [])(h10:s 10=ac 10)(h11:s 11=ac 11)(h12:s 12=ac 12)
  (k10:h 10=.bx [B false,.emp,I 0,B false,.emp,I 0,B false]) (k11:h 11=.bx (adQ x y)) (k12:h 12=.bx [B false,.emp,I 0,B false,.emp,I 0,B false]):
  lI false [[.o 0 [],.o 2 [],.o 0 [],.o 0 [],.o 2 [],.o 0 [],.o 0 []]] [.cell 10 7 true] 0 (ap R (aC false) Ef s h)=some (af (H1 (sf dn up (gM x y))),[]):=by
 obtain⟨A,hAe⟩:∃A:AV,A=.agg (adQ x y):=⟨_,rfl⟩;have hA:iS [10,12] A=A:=by
  rw[hAe];rfl
 have hf:=adP (p:=p) (A:=A) (pr:=gM x y) oD oU hA (fun i hi=>by
  rw[hAe]
  match i,hi with
  |0,_=>rfl
  |1,_=>rfl
  |2,_=>rfl
  |3,_=>rfl) (aoT ox oy)
 have hl:j8 h 24 true (ac 11)=some (A,h,[]):=by
  rw[hAe];simp only[adQ]at k11⊢;simp only[go_sem,k11]
 have hP:∀s h,s 2=I p->s 3=.fn fD [] []->s 4=.fn fU [] []->s 10=ac 10->s 12=ac 12->s 40=A->s 41=I 0->h 10=.bx [B false,.emp,I 0,B false,.emp,I 0,B false]->h 12=.bx [B false,.emp,I 0,B false,.emp,I 0,B false]->
   lI false [[.o 0 [],.o 2 [],.o 0 [],.o 0 [],.o 2 [],.o 0 [],.o 0 []]] [.cell 10 7 true] 0 (dD (ao 0 [10,12] (aD (ap R (aC false) bK) [2,3,4,10,12,40,41] [10,12] s h)) (ap R (aC false) (.seq (.ops [10] [⟨(some 95),none,.load 7 true (.t 12)⟩,⟨none,none,.store 7 (.t 10) (.t 95)⟩]) (.ret))))=some (af (H1 (sf dn up (gM x y))),[]):=fun s h a2 a3 a4 a10 a12 a40 a41 b10 b12=>by
  have hg:=hf s h a2 a3 a4 a10 a12 a40 a41 b10 b12;cases ho:sf dn up (gM x y)with
  |none=>
   rw[ho]at hg;obtain⟨hh,g1,g2⟩:=hg;rw[g1];simp only[H1,cG,af,am,aG,g2,go_sem]
  |some q=>
   rw[ho]at hg;obtain⟨hh,g1,g2,g3⟩:=hg;rw[g1];simp only[H1,af,am,g2,g3,go_sem]
 generalize hLL:aD (ap R (aC false) bK) [2,3,4,10,12,40,41] [10,12]=L at hP;have hX:∀s h,ap R (aC false) (.loop [2,3,4,10,12,40,41] [10,12] bK) s h=L s h:=fun s h=>by rw[←hLL];rfl
 show lI _ _ _ _ (dD (dD (ap R (aC false) (.ops [2,3,4,10,12,40,41] [⟨(some 40),none,.load 24 true (.t 11)⟩,co 41 (.mv (.c (I 0)))]) s h) fun s h=>ao 0 [10,12] (ap R (aC false) (.loop [2,3,4,10,12,40,41] [10,12] bK) s h)) _)=_;simp only[hX];simp only[go_sem,h2,h3,h4,h10,h11,h12,hl];exact hP _ _ Z Z Z Z Z Z Z k10 k12
theorem aa0{x y}(ox:OkI x)(oy:OkI y){p}{fD fU}{dn up}(oD:Op2 fD dn p)(oU:Op2 fU up p):R 92 [af x,af y,I p,.fn fD [] [],.fn fU [] []] []=some (af (H1 (sf dn up (gM x y))),[]):=by
 refine az P6 rfl ?_;simp only[zW,Hl,af,am,go_sem];exact afL ox oy oD oU _ _ Z Z Z Z Z Z Z Z Z
theorem vE{x y}(ox:OkI x)(oy:OkI y){p}:R 71 [af x,af y,I p] []=some (af (cU x y p),[]):=by
 refine az Sg rfl ?_;have hk:=GH ox oy;have hp:=mV (p:=p);have hw:=gP;have hf:=aa0 ox oy (p:=p) (dn:=fun a b=>eA a b p false) (up:=fun a b=>eA a b p true) ⟨fun h1 h2=>Hk h1 h2,CK,rg.1.1,rg.1.2.1,rg.1.2.2.2,rg.1.2.2.1⟩ ⟨fun h1 h2=>La h1 h2,CK,u9.1.1,u9.1.2.1,u9.1.2.2.2,u9.1.2.2.1⟩;unfold cU;simp only[af,am]at hw hf;cases h1:(kI x&&kI y)with
 |false=>
  rw[h1]at hk;simp only[qS,af,am,go_sem,hk,hw]
 |true=>
  rw[h1]at hk;cases h2:bE p with
  |false=>
   rw[h2]at hp;simp only[qS,af,am,go_sem,hk,hp,hw]
  |true=>
   rw[h2]at hp;simp only[qS,af,am,go_sem,hk,hp,hf]
def pi(d:Rd)(p:Int)(up:Bool):Nat->Rd×Int->Rd×Int
 |0,r=>r
 |k+1,r=>if r.2=0 then pi d p up k (eA r.1 d p up)else r
def pw(d:Rd)(n:Nat)(p:Int)(up:Bool):Rd×Int:=pi d p up (n-1) (cx d p up)
theorem CL{d}{p}{up}:Ok0 (cx d p up).1:=by
 unfold cx;split
 ·exact vf.2
 ·exact aO.2
theorem aoU{d}{p}{up}:∀k r,Ok0 r.1->Ok0 (pi d p up k r).1:=by
 intro k;induction k with
 |zero=>exact fun r h=>h
 |succ k ih=>
  grind[pi,CK]
theorem akP{d}{n}{p}{up}:Ok0 (pw d n p up).1:=aoU _ _ CL
noncomputable def xc:Cmd:=.seq (.seq (.ops [1,2,4,5,10,12,13,14] [co 14 (.mv (.c (I 1)))]) (.block 0 [10,12,13] (.loop [1,2,4,5,10,12,13,14] [5,10,12] aY))) (.seq (.ops [10,11] [⟨(some 39),none,.load 3 true (.t 12)⟩,cm 40 13,⟨none,none,.store 3 (.t 10) (.t 39)⟩,cm 11 40]) (.ret))
theorem yw:Fl=.seq (.ops [1,2,3,4,5,10] [⟨(some 5),none,.box 3 (.t 0)⟩,⟨(some 10),none,.alloc [B false,.emp,I 0]⟩,co 11 (.mv (.c (I 0)))]) (.seq (.ops [1,2,4,5,10,12,13] [cm 16 3,⟨(some 17),none,.load 3 true (.t 5)⟩,cm 18 2,⟨(some 19),none,.call (.t 16) [(.t 17),(.t 18)]⟩,cm 15 19,co 20 (.ext 0 (.t 15)),co 21 (.ext 1 (.t 15)),⟨(some 12),none,.alloc [B false,.emp,I 0]⟩,⟨none,none,.store 3 (.t 12) (.t 20)⟩,cm 13 21]) xc):=rfl
theorem afM{d}(ok:Ok0 d){p}{n}(hn:n<=100000):∀ (k i:Nat),i+k=n->∀r,Ok0 r.1->∀s h,s 1=I n->s 2=I p->s 4=.fn 123 [] []->s 5=ac 5->s 10=ac 10->s 12=ac 12->s 13=I r.2->s 14=I i->
  h 5=.bx (aj d)->h 10=.bx [B false,.emp,I 0]->h 12=.bx (aj r.1)->
  ∃hh,ao 0 [10,12,13] (aD (ap R (aC false) aY) [1,2,4,5,10,12,13,14] [5,10,12] s h)=some (.normal,⟨upd (upd (upd cr 13 (I (pi d p true k r).2)) 12 (ac 12)) 10 (ac 10),hh⟩)/\hh 10=.bx [B false,.emp,I 0]/\hh 12=.bx (aj (pi d p true k r).1):=by
 intro k;induction k with
 |zero=>
  intro i hi r hr s h h1 h2 h4 h5 h10 h12 h13 h14 k5 k10 k12;have e1:((i:Int)<n)=False:=ff;rw[ai];refine⟨?hh0,?_,?_,?_⟩;rotate_left
  ·simp only[aY,pi,go_sem,h1,h2,h4,h5,h10,h12,h13,h14,k5,k10,k12,e1];rfl
  ·rfl
  ·rfl
 |succ k ih=>
  intro i hi r hr s h h1 h2 h4 h5 h10 h12 h13 h14 k5 k10 k12;have e1:((i:Int)<n)=True:=tt;have e5:aS (i+1)=(i+1:Nat):=wi;obtain⟨r1,r2⟩:=r;have hm:=La hr ok (p:=p);have okm:=CK (a:=r1) (b:=d) (p:=p) (up:=true);have ih':=ih (i+1) ω;unfold pi;generalize eA r1 d p true=q at hm okm⊢;obtain⟨q1,q2⟩:=q;simp only[rV,ae,aj]at hm k5 k12;rw[ai];by_cases hr:r2=0
  ·have er:=tt hr;simp only[aY,aj,go_sem,h1,h2,h4,h5,h10,h12,h13,h14,k5,k10,k12,e1,er,hm,e5];exact ih' (q1,q2) okm _ _ Z Z Z Z Z Z Z Z Z Z Z
  ·have er:=ff hr;rw[ax hr];refine⟨?hh1,?_,?_,?_⟩;rotate_left
   ·simp only[aY,go_sem,h1,h2,h4,h5,h10,h12,h13,h14,k5,k10,k12,e1,er];rfl
   ·rfl
   ·rfl
theorem afN{d}(ok:Ok0 d){p}(hn:n<=100000){r}(hr:Ok0 r.1)(s)(h)(h1:s 1=I n)(h2:s 2=I p)(h4:s 4=.fn 123 [] [])(h5:s 5=ac 5)(h10:s 10=ac 10)(h12:s 12=ac 12)(h13:s 13=I r.2)
  (k5:h 5=.bx (aj d)) (k10:h 10=.bx [B false,.emp,I 0]) (k12:h 12=.bx (aj r.1)):
  lI false [[.o 0 [],.o 2 [],.o 0 []],[]] [.cell 10 3 true,.t 11] 0 (ap R (aC false) xc s h)=some (rV (pi d p true (n-1) r),[]):=by
 have hl:∀s h,s 1=I n->s 2=I p->s 4=.fn 123 [] []->s 5=ac 5->s 10=ac 10->s 12=ac 12->s 13=I r.2->s 14=I 1->
  h 5=.bx (aj d)->h 10=.bx [B false,.emp,I 0]->h 12=.bx (aj r.1)->
  ∃hh,ao 0 [10,12,13] (aD (ap R (aC false) aY) [1,2,4,5,10,12,13,14] [5,10,12] s h)=some (.normal,⟨upd (upd (upd cr 13 (I (pi d p true (n-1) r).2)) 12 (ac 12)) 10 (ac 10),hh⟩)/\hh 10=.bx [B false,.emp,I 0]/\hh 12=.bx (aj (pi d p true (n-1) r).1):=by
  by_cases h0:n=0
  ·intro s h a1 a2 a4 a5 a10 a12 a13 a14 b5 b10 b12;have e1:(1<n)=False:=ff;subst h0;rw[ai];refine⟨?hh0,?_,?_,?_⟩;rotate_left
   ·simp only[aY,pi,go_sem,aBP,a1,a2,a4,a5,a10,a12,a13,a14,b5,b10,b12,e1];rfl
   ·rfl
   ·rfl
  ·have:=afM ok (p:=p) hn (n-1) 1 ω r hr
   simp_all
 generalize pi d p true (n-1) r=q at hl⊢;obtain⟨r1,r2⟩:=r;obtain⟨q1,q2⟩:=q;have hP:∀s h,s 1=I n->s 2=I p->s 4=.fn 123 [] []->s 5=ac 5->s 10=ac 10->s 12=ac 12->s 13=I r2->s 14=I 1->
  h 5=.bx (aj d)->h 10=.bx [B false,.emp,I 0]->h 12=.bx (aj r1)->
  lI false [[.o 0 [],.o 2 [],.o 0 []],[]] [.cell 10 3 true,.t 11] 0 (dD (ao 0 [10,12,13] (aD (ap R (aC false) aY) [1,2,4,5,10,12,13,14] [5,10,12] s h)) (ap R (aC false) (.seq (.ops [10,11] [⟨(some 39),none,.load 3 true (.t 12)⟩,cm 40 13,⟨none,none,.store 3 (.t 10) (.t 39)⟩,cm 11 40]) (.ret))))=some (rV (q1,q2),[]):=fun s h a1 a2 a4 a5 a10 a12 a13 a14 b5 b10 b12=>by
  obtain⟨hh,g1,g2,g3⟩:=hl s h a1 a2 a4 a5 a10 a12 a13 a14 b5 b10 b12;rw[g1];simp only[rV,ae,aj,g2,g3,go_sem]
 generalize hLL:aD (ap R (aC false) aY) [1,2,4,5,10,12,13,14] [5,10,12]=L at hP;have hX:∀s h,ap R (aC false) (.loop [1,2,4,5,10,12,13,14] [5,10,12] aY) s h=L s h:=fun s h=>by rw[←hLL];rfl
 show lI _ _ _ _ (dD (dD (ap R (aC false) (.ops [1,2,4,5,10,12,13,14] [co 14 (.mv (.c (I 1)))]) s h) fun s h=>ao 0 [10,12,13] (ap R (aC false) (.loop [1,2,4,5,10,12,13,14] [5,10,12] aY) s h)) _)=_;simp only[hX];simp only[go_sem,h1,h2,h4,h5,h10,h12,h13];exact hP _ _ Z Z Z Z Z Z Z Z k5 k10 k12
theorem alR{d}(ok:Ok0 d){p}(hn:n<=100000):R 212 [ae d,I n,I p,.fn 193 [] [],.fn 123 [] []] []=some (rV (pw d n p true),[]):=by
 refine az Fz rfl ?_;have hr:=SK ok (p:=p);have okr:=CL (d:=d) (p:=p) (up:=true);have ht:=afN ok (p:=p) hn okr;simp only[rV,ae,aj]at hr;simp only[rX,yw,ae,aj,go_sem,hr];exact ht _ _ Z Z Z Z Z Z Z Z Z Z
theorem afO{d}(ok:Ok0 d){p}{n}(hn:n<=100000):∀ (k i:Nat),i+k=n->∀r,Ok0 r.1->∀s h,s 1=I n->s 2=I p->s 4=.fn 122 [] []->s 5=ac 5->s 10=ac 10->s 12=ac 12->s 13=I r.2->s 14=I i->
  h 5=.bx (aj d)->h 10=.bx [B false,.emp,I 0]->h 12=.bx (aj r.1)->
  ∃hh,ao 0 [10,12,13] (aD (ap R (aC false) aY) [1,2,4,5,10,12,13,14] [5,10,12] s h)=some (.normal,⟨upd (upd (upd cr 13 (I (pi d p false k r).2)) 12 (ac 12)) 10 (ac 10),hh⟩)/\hh 10=.bx [B false,.emp,I 0]/\hh 12=.bx (aj (pi d p false k r).1):=by
 intro k;induction k with
 |zero=>
  intro i hi r hr s h h1 h2 h4 h5 h10 h12 h13 h14 k5 k10 k12;have e1:((i:Int)<n)=False:=ff;rw[ai];refine⟨?hh0,?_,?_,?_⟩;rotate_left
  ·simp only[aY,pi,go_sem,h1,h2,h4,h5,h10,h12,h13,h14,k5,k10,k12,e1];rfl
  ·rfl
  ·rfl
 |succ k ih=>
  intro i hi r hr s h h1 h2 h4 h5 h10 h12 h13 h14 k5 k10 k12;have e1:((i:Int)<n)=True:=tt;have e5:aS (i+1)=(i+1:Nat):=wi;obtain⟨r1,r2⟩:=r;have hm:=Hk hr ok (p:=p);have okm:=CK (a:=r1) (b:=d) (p:=p) (up:=false);have ih':=ih (i+1) ω;unfold pi;generalize eA r1 d p false=q at hm okm⊢;obtain⟨q1,q2⟩:=q;simp only[rV,ae,aj]at hm k5 k12;rw[ai];by_cases hr:r2=0
  ·have er:=tt hr;simp only[aY,aj,go_sem,h1,h2,h4,h5,h10,h12,h13,h14,k5,k10,k12,e1,er,hm,e5];exact ih' (q1,q2) okm _ _ Z Z Z Z Z Z Z Z Z Z Z
  ·have er:=ff hr;rw[ax hr];refine⟨?hh1,?_,?_,?_⟩;rotate_left
   ·simp only[aY,go_sem,h1,h2,h4,h5,h10,h12,h13,h14,k5,k10,k12,e1,er];rfl
   ·rfl
   ·rfl
theorem afP{d}(ok:Ok0 d){p}(hn:n<=100000){r}(hr:Ok0 r.1)(s)(h)(h1:s 1=I n)(h2:s 2=I p)(h4:s 4=.fn 122 [] [])(h5:s 5=ac 5)(h10:s 10=ac 10)(h12:s 12=ac 12)(h13:s 13=I r.2)
  (k5:h 5=.bx (aj d)) (k10:h 10=.bx [B false,.emp,I 0]) (k12:h 12=.bx (aj r.1)):
  lI false [[.o 0 [],.o 2 [],.o 0 []],[]] [.cell 10 3 true,.t 11] 0 (ap R (aC false) xc s h)=some (rV (pi d p false (n-1) r),[]):=by
 have hl:∀s h,s 1=I n->s 2=I p->s 4=.fn 122 [] []->s 5=ac 5->s 10=ac 10->s 12=ac 12->s 13=I r.2->s 14=I 1->
  h 5=.bx (aj d)->h 10=.bx [B false,.emp,I 0]->h 12=.bx (aj r.1)->
  ∃hh,ao 0 [10,12,13] (aD (ap R (aC false) aY) [1,2,4,5,10,12,13,14] [5,10,12] s h)=some (.normal,⟨upd (upd (upd cr 13 (I (pi d p false (n-1) r).2)) 12 (ac 12)) 10 (ac 10),hh⟩)/\hh 10=.bx [B false,.emp,I 0]/\hh 12=.bx (aj (pi d p false (n-1) r).1):=by
  by_cases h0:n=0
  ·intro s h a1 a2 a4 a5 a10 a12 a13 a14 b5 b10 b12;have e1:(1<n)=False:=ff;subst h0;rw[ai];refine⟨?hh0,?_,?_,?_⟩;rotate_left
   ·simp only[aY,pi,go_sem,aBP,a1,a2,a4,a5,a10,a12,a13,a14,b5,b10,b12,e1];rfl
   ·rfl
   ·rfl
  ·have:=afO ok (p:=p) hn (n-1) 1 ω r hr
   simp_all
 generalize pi d p false (n-1) r=q at hl⊢;obtain⟨r1,r2⟩:=r;obtain⟨q1,q2⟩:=q;have hP:∀s h,s 1=I n->s 2=I p->s 4=.fn 122 [] []->s 5=ac 5->s 10=ac 10->s 12=ac 12->s 13=I r2->s 14=I 1->
  h 5=.bx (aj d)->h 10=.bx [B false,.emp,I 0]->h 12=.bx (aj r1)->
  lI false [[.o 0 [],.o 2 [],.o 0 []],[]] [.cell 10 3 true,.t 11] 0 (dD (ao 0 [10,12,13] (aD (ap R (aC false) aY) [1,2,4,5,10,12,13,14] [5,10,12] s h)) (ap R (aC false) (.seq (.ops [10,11] [⟨(some 39),none,.load 3 true (.t 12)⟩,cm 40 13,⟨none,none,.store 3 (.t 10) (.t 39)⟩,cm 11 40]) (.ret))))=some (rV (q1,q2),[]):=fun s h a1 a2 a4 a5 a10 a12 a13 a14 b5 b10 b12=>by
  obtain⟨hh,g1,g2,g3⟩:=hl s h a1 a2 a4 a5 a10 a12 a13 a14 b5 b10 b12;rw[g1];simp only[rV,ae,aj,g2,g3,go_sem]
 generalize hLL:aD (ap R (aC false) aY) [1,2,4,5,10,12,13,14] [5,10,12]=L at hP;have hX:∀s h,ap R (aC false) (.loop [1,2,4,5,10,12,13,14] [5,10,12] aY) s h=L s h:=fun s h=>by rw[←hLL];rfl
 show lI _ _ _ _ (dD (dD (ap R (aC false) (.ops [1,2,4,5,10,12,13,14] [co 14 (.mv (.c (I 1)))]) s h) fun s h=>ao 0 [10,12,13] (ap R (aC false) (.loop [1,2,4,5,10,12,13,14] [5,10,12] aY) s h)) _)=_;simp only[hX];simp only[go_sem,h1,h2,h4,h5,h10,h12,h13];exact hP _ _ Z Z Z Z Z Z Z Z k5 k10 k12
theorem alS{d}(ok:Ok0 d){p}(hn:n<=100000):R 212 [ae d,I n,I p,.fn 192 [] [],.fn 122 [] []] []=some (rV (pw d n p false),[]):=by
 refine az Fz rfl ?_;have hr:=Lc ok (p:=p);have okr:=CL (d:=d) (p:=p) (up:=false);have ht:=afP ok (p:=p) hn okr;simp only[rV,ae,aj]at hr;simp only[rX,yw,ae,aj,go_sem,hr];exact ht _ _ Z Z Z Z Z Z Z Z Z Z
def sS(d:Rd):Int:=if vd d=false\/d.m.length=0 then 0 else if d.neg=true then-1 else 1
theorem AK{d}(ok:Ok0 d):Ok0 (fC d):=by
 unfold fC;split
 ·exact aO.2
 ·exact⟨ok.1,ok.2⟩
theorem aoV{d}(h:sS d<0):¬sS (fC d)<0:=by
 unfold sS at h;split at h
 ·omega
 ·split at h
  ·unfold sS fC;grind
  omega
def tp(d:Rd)(n:Nat)(p:Int)(up:Bool):Rd×Int:=if sS d<0 then(fC (pw (fC d) n p (!up)).1,(pw (fC d) n p (!up)).2)else pw d n p up
theorem aa1{d}(ok:Ok0 d)(hs:¬sS d<0){p}(hn:n<=100000){up}:R 163 [ae d,I n,I p,B up] []=some (rV (pw d n p up),[]):=by
 refine az HQ rfl ?_;have h1:=SE ok;rw[show(if vd d=false\/d.m.length=0 then 0 else if d.neg=true then-1 else 1)=sS d from rfl]at h1;have e1:=ff hs;cases up with
 |true=>
  have h2:=alR ok (p:=p) hn;simp only[rV,ae,aj]at h1 h2;simp only[qV,rV,ae,aj,go_sem,h1,e1,h2]
 |false=>
  have h2:=alS ok (p:=p) hn;simp only[rV,ae,aj]at h1 h2;simp only[qV,rV,ae,aj,go_sem,h1,e1,h2]
theorem Qx{d}(ok:Ok0 d){p}(hn:n<=100000){up}:R 163 [ae d,I n,I p,B up] []=some (rV (tp d n p up),[]):=by
 unfold tp;by_cases hs:sS d<0
 ·refine az HQ rfl ?_;have h1:=SE ok;rw[show(if vd d=false\/d.m.length=0 then 0 else if d.neg=true then-1 else 1)=sS d from rfl]at h1;have e1:=tt hs;have h2:=BX ok;rw[show(if vd d=false\/d.m.length=0 then aG else⟨!d.neg,d.m,d.e⟩)=fC d from rfl]at h2;have h3:=aa1 (AK ok) (aoV hs) (p:=p) hn (up:=!up);have okq:=akP (d:=fC d) (n:=n) (p:=p) (up:=!up);generalize fC d=nd at h2 h3 okq⊢;generalize pw nd n p (!up)=q at h3 okq⊢;obtain⟨q1,q2⟩:=q;have h4:=BX (d:=q1) okq;rw[show(if vd q1=false\/q1.m.length=0 then aG else⟨!q1.neg,q1.m,q1.e⟩)=fC q1 from rfl]at h4;simp only[rV,ae,aj]at h1 h2 h3 h4;simp only[qV,rV,ae,aj,go_sem,h1,e1,h2,h3,h4]
 simp_all[ax,aa1]
def one:Rd:=⟨false,[1],0⟩
theorem Le:R 57 [I 1] []=some (ae one,[]):=by
 grind[DD,GD,bu,one,jW,zo,aA,qE,gh]
theorem fg:vd one=true/\Ok0 one:=⟨by decide,⟨fun x hx=>by rw[List.mem_singleton.1 hx];decide,by decide⟩⟩
def An(x:Ri)(n:Nat)(p:Int):Ri:=if(kI x&&bE p&&decide (n<=16))=true then(if n=0 then⟨one,one,false⟩else
 nC (tp (if n%2=0 then lK x else x).lo n p false) (tp (if n%2=0 then lK x else x).hi n p true))else cG
theorem X8{a b}(oa:Ok0 a)(ob:Ok0 b):Ok0 (mK a b):=by
 grind[mK]
theorem OM{a b}(oa:Ok0 a)(ob:Ok0 b):Ok0 (mL a b):=by
 grind[mL]
theorem SN{x}(ok:OkI x):OkI (lK x):=by
 unfold lK;split
 ·refine⟨?_,OM (tj ok.lo) (tj ok.hi)⟩;unfold CJ;split
  ·exact aO.2
  ·exact X8 (tj ok.lo) (tj ok.hi)
 ·exact⟨aO.2,aO.2⟩
theorem aa2{d}(ok:Ok0 d){n}{p}{up}:Ok0 (tp d n p up).1:=by
 grind[tp,AK,akP]
theorem DG{x}(ok:OkI x){p}(hn:n<=100000):R 111 [af x,I n,I p] []=some (af (An x n p),[]):=by
 refine az Od rfl ?_;have hk:=pg ok;have hp:=mV (p:=p);have hw:=gP;have n0:((n:Int)<0)=False:=ff;unfold An;simp only[af,am]at hw;cases h1:kI x with
 |false=>
  rw[h1]at hk;simp only[gI,af,am,go_sem,hk,hw]
 |true=>
  rw[h1]at hk;cases h2:bE p with
  |false=>
   rw[h2]at hp;simp only[gI,af,am,go_sem,hk,hp,hw]
  |true=>
   rw[h2]at hp;rw[aBt,aBt];by_cases h3:n<=16
   ·have e3:(16< (n:Int))=False:=ff;rw[aq (decide_eq_true h3)];by_cases h4:n=0
    ·have e4:((n:Int)=0)=True:=tt;rw[aq h4];have g1:=Le;have g2:=gR fg.2 fg.1;simp only[one,af,am,ae,aj]at g1 g2;simp only[gI,one,af,am,go_sem,hk,hp,n0,e3,e4,g1,g2]
    ·have e4:((n:Int)=0)=False:=ff;rw[ax h4];by_cases h5:n%2=0
     ·have e5:((n:Int).tmod 2=0)=True:=tt γ;rw[aq h5];have ha:=aaZ ok;have oa:=SN ok;generalize lK x=y at ha oa⊢;have g1:=Qx oa.lo hn (p:=p) (up:=false);have g2:=Qx oa.hi hn (p:=p) (up:=true);generalize tp y.lo n p false=r at g1⊢;generalize tp y.hi n p true=q at g2⊢;obtain⟨r1,r2⟩:=r;obtain⟨q1,q2⟩:=q;have hm:=EH (a:=r1) (b:=q1) (e:=r2) (f:=q2);simp only[af,am,ae,aj,rV]at ha g1 g2 hm;simp only[gI,af,am,go_sem,aBo,hk,hp,n0,e3,e4,e5,ha,g1,g2,hm]
     ·have e5:((n:Int).tmod 2=0)=False:=ff γ;rw[ax h5];have g1:=Qx ok.lo hn (p:=p) (up:=false);have g2:=Qx ok.hi hn (p:=p) (up:=true);generalize tp x.lo n p false=r at g1⊢;generalize tp x.hi n p true=q at g2⊢;obtain⟨r1,r2⟩:=r;obtain⟨q1,q2⟩:=q;have hm:=EH (a:=r1) (b:=q1) (e:=r2) (f:=q2);simp only[af,am,ae,aj,rV]at g1 g2 hm;simp only[gI,af,am,go_sem,aBo,hk,hp,n0,e3,e4,e5,g1,g2,hm]
   ·have e3:(16< (n:Int))=True:=tt;rw[ax (fun h=>h3 (of_decide_eq_true h))];simp only[gI,af,am,go_sem,hk,hp,n0,e3,hw]
def CM(x:Ri)(e:Nat)(p:Int):Ri:=if e<=16 then An x e p else cU (An x 16 p) (An x (e-16) p) p
theorem FK{r s}(h1:Ok0 r.1)(h2:Ok0 s.1):OkI (nC r s):=by
 unfold nC;split
 ·exact⟨h1,h2⟩
 ·exact⟨aO.2,aO.2⟩
theorem CN{x}(ok:OkI x){n}{p}:OkI (An x n p):=by
 unfold An;have h:OkI (if n%2=0 then lK x else x):=by
  grind[SN]
 split
 ·split
  ·exact⟨fg.2,fg.2⟩
  ·exact FK (aa2 h.1) (aa2 h.2)
 ·exact⟨aO.2,aO.2⟩
theorem alT{x}(ok:OkI x){p}{e:Nat}(hn:e<=100000):R 203 [af x,I e,I p] []=some (af (CM x e p),[]):=by
 refine az Vr rfl ?_;unfold CM;by_cases h1:e<=16
 ·have e1:((e:Int)<=16)=True:=tt;rw[aq h1];have h2:=DG ok hn (p:=p);simp only[af,am]at h2;simp only[xS,af,am,go_sem,e1,h2]
 ·have e1:((e:Int)<=16)=False:=ff;rw[ax h1];have h2:=DG ok (show 16<=100000 by decide) (p:=p);have h3:=DG ok (show e-16<=100000 by omega) (p:=p);have o2:=CN ok (n:=16) (p:=p);have o3:=CN ok (n:=e-16) (p:=p);have w1:aS (e-16)=(e-16:Nat):=wi;have h4:=vE o2 o3 (p:=p);simp only[af,am,Int.cast_ofNat_Int]at h2 h3 h4;simp only[xS,af,am,go_sem,e1,h2,h3,h4,w1]
def aZ(l:List Int):List (List AV):=l.map fun n=>[I n]
@[go_sem] theorem EJ(l):(aZ l).length=l.length:=by simp[aZ]
theorem yf{l}{i:Int}{d}(hi:i=n)(h:l[n]?=some d):dX (aZ l) i=some (.ipt [I d]):=by
 grind[dX,aZ]
theorem X9{x}:R 169 [I x] []=some (B false,[]):=by
 refine az Oj rfl ?_;simp only[yJ,go_sem]
theorem afQ{x y}:R 116 [I x,I y] []=some (I (gy x y),[]):=by
 refine az KZ rfl ?_;have h1:=X9 (x:=x);have h2:=X9 (x:=y);unfold gy;by_cases e1:x<y
 ·have f1:=tt e1;simp only[lZ,go_sem,h1,h2,f1]
 ·have f1:=ff e1;by_cases e2:y<x
  ·have f2:=tt e2;simp only[lZ,go_sem,h1,h2,f1,f2]
  ·have f2:=ff e2;simp only[lZ,go_sem,h1,h2,f1,f2]
def rI:List Int->List Int->Int
 |[],[]=>0
 |[],_::_=>-1
 |_::_,[]=>1
 |x::xs,y::ys=>if gy x y=0 then rI xs ys else gy x y
theorem ai1{a b}(hl:a.length=b.length)(h2:a.length<=100000):∀ (k i:Nat),i+k=a.length->∀s h,s 0=.sl 1 (aZ a)->s 1=.sl 1 (aZ b)->s 9=.sl 1 (aZ a)->s 10=I a.length->s 11=I i->
  ∃hh,ao 0 [0,1] (aD (ap R (aC false) fQ) [0,1,9,10,11] [] s h)=if rI (a.drop i) (b.drop i)=0 then some (.normal,⟨upd (upd cr 1 (.sl 1 (aZ b))) 0 (.sl 1 (aZ a)),fun _=>.dead⟩)else some (.ret,⟨upd cr 4 (I (rI (a.drop i) (b.drop i))),hh⟩):=by
 intro k;induction k with
 |zero=>
  intro i hi s h h0 h1 h9 h10 h11;have e1:((i:Int)<a.length)=False:=ff;rw[aBQ ω,aBQ ω,ai];refine⟨fun _=>.dead,?_⟩;show _=if 0=0 then _ else _
  simp only[fQ,go_sem,h0,h1,h9,h10,h11,e1]
 |succ k ih=>
  intro i hi s h h0 h1 h9 h10 h11;have hlt:i<a.length:=ω
  have hlt2:i<b.length:=ω
  have e1:((i:Int)<a.length)=True:=tt;have e4:(b.length<=(i:Int))=False:=ff;have e2:=yf rfl (aBp hlt);have e3:=yf rfl (aBp hlt2);have e5:aS (i+1)=(i+1:Nat):=wi;rw[aBJ hlt,aBJ hlt2,ai];have ih':=ih (i+1) ω;have hc:=afQ (x:=a[i]) (y:=b[i]);generalize a[i]=x at e2 hc⊢;generalize b[i]=y at e3 hc⊢;unfold rI;by_cases hz:gy x y=0
  ·have e6:=tt hz;simp only[fQ,go_sem,h0,h1,h9,h10,h11,e1,e2,e3,e4,e5,hc,e6];apply ih'<;>rfl
  ·have e6:=ff hz;refine⟨?hh,?_⟩;rotate_left;simp only[fQ,go_sem,h0,h1,h9,h10,h11,e1,e2,e3,e4,hc,e6];rfl
theorem adR{a b}(hl:a.length=b.length)(h2:a.length<=100000):R 117 [.sl 1 (aZ a),.sl 1 (aZ b)] []=some (I (rI a b),[]):=by
 refine az Et rfl ?_;have h3:=ai1 hl h2 a.length 0 (aBi _);simp only[List.drop_zero,aBV]at h3;by_cases hz:rI a b=0
 ·simp only[aq hz]at h3;have e1:((a.length:Int)<b.length)=False:=ff;simp only[jQ,oM,go_sem];rw[(h3 _ _ Z Z Z Z Z).choose_spec,hz];simp only[go_sem,e1]
 ·simp only[ax hz]at h3;simp only[jQ,oM,go_sem];rw[(h3 _ _ Z Z Z Z Z).choose_spec];simp only[go_sem]
def bO:List Int->Int
 |[]=>0
 |x::l=>x+bO l
def sm(l:List Int):Prop:=l.length<=1000/\∀x∈l,0<=x/\x<=32
theorem ai2{l:List Int}{i}(h):bO (l.take (i+1))=bO (l.take i)+l[i]:=by
 induction l generalizing i with
 |nil=>grind
 |cons a l ih=>
  cases i with
  |zero=>simp[bO]
  |succ i=>
   have:=ih (i:=i) (by simpa using h);simp only[List.take_succ_cons,bO,List.getElem_cons_succ];omega
theorem aoW{l}(h:∀x∈l,0<=x/\x<=32):0<=bO l/\bO l<=32*l.length:=by
 induction l with
 |nil=>exact⟨Int.le_refl _,Int.le_refl _⟩
 |cons a l ih=>
  have h1:=h a (List.mem_cons_self ..);have h2:=ih (fun x hx=>h x (List.mem_cons_of_mem _ hx));grind[bO,aB0]
theorem ai3{a}(h2:sm a):∀k i,i+k=a.length->∀s h,s 3=I (bO (a.take i))->s 6=.sl 1 (aZ a)->s 7=I a.length->s 8=I i->
  ao 0 [3] (aD (ap R (aC false) ug) [3,6,7,8] [] s h)=some (.normal,⟨upd cr 3 (I (bO a)),fun _=>.dead⟩):=by
 intro k;induction k with
 |zero=>
  intro i hi s h h3 h6 h7 h8;have e1:((i:Int)<a.length)=False:=ff;rw[aBE ω]at h3;rw[ai];simp only[ug,go_sem,h3,h6,h7,h8,e1]
 |succ k ih=>
  intro i hi s h h3 h6 h7 h8;have hlt:i<a.length:=ω
  obtain⟨g1,g2⟩:=h2;have e1:((i:Int)<a.length)=True:=tt;have e2:=yf rfl (aBp hlt);have e5:aS (i+1)=(i+1:Nat):=wi;have b1:=aoW (l:=a.take i) (fun x hx=>g2 x (List.mem_of_mem_take hx));have b2:=g2 a[i] (aBT hlt);have e6:IntKind.i64.wrap (bO (a.take i)+a[i])=bO (a.take (i+1)):=by
   grind[ai2,i64_in]
  have ih':=ih (i+1) ω;rw[ai];simp only[ug,go_sem,h3,h6,h7,h8,e1,e2,e5,e6];apply ih'<;>rfl
theorem AL{a}(h2:sm a):R 62 [.sl 1 (aZ a)] []=some (I (bO a),[]):=by
 refine az Vb rfl ?_;have h3:=ai3 h2 a.length 0 (aBi _);simp only[Cp,JP,go_sem];rw[h3 _ _ Z Z Z Z];simp only[go_sem]
def cW(a b:List Int):Int:=if gy (bO a) (bO b)=0 then rI b a else gy (bO a) (bO b)
theorem Ya{a b}(ha:sm a)(hb:sm b)(hl:a.length=b.length):R 63 [.sl 1 (aZ a),.sl 1 (aZ b)] []=some (I (cW a b),[]):=by
 refine az Xk rfl ?_;have d1:=AL ha;have d2:=AL hb;have d3:=afQ (x:=bO a) (y:=bO b);have d4:=adR hl.symm (by have:=hb.1;omega);unfold cW;by_cases hz:gy (bO a) (bO b)=0
 ·have e6:=tt hz;simp only[zJ,go_sem,d1,d2,d3,d4,e6]
 ·have e6:=ff hz;simp only[zJ,go_sem,d1,d2,d3,e6]
structure Rt where
 exps:List Int
 c:Rd
structure Rp where
 vars:Int
 terms:List Rt
def dB(t:Rt):List AV:=[.sl 1 (aZ t.exps),B t.c.neg,lm t.c.m,I t.c.e]
def aT(l:List Rt):List (List AV):=l.map dB
def bo(a:Rp):AV:=.agg [I a.vars,.sl 4 (aT a.terms)]
@[go_sem] theorem tq(l):(aT l).length=l.length:=by simp[aT]
theorem my{l}{i:Int}{d}(hi:i=n)(h:l[n]?=some d):dX (aT l) i=some (.ipt (dB d)):=by
 grind[dX,aT]
theorem tH{α:Type}{f}{l:List α}(h:∀x∈l,f x=x):l.map f=l:=(aBK (g:=fun c=>c) h).trans (aB2 _)
@[go_sem] theorem H2(l):(aT l).map (eP [.o 2 [],.o 0 [],.o 2 [],.o 0 []])=aT l:=by
 refine tH fun x hx=>?_;simp only[aT,aB7]at hx;obtain⟨t,ht,rfl⟩:=hx;simp only[dB,go_sem]
structure OkT (t:Rt):Prop where
 c:Ok0 t.c
 len:t.exps.length<=100000
structure OkP (a:Rp):Prop where
 t:∀t∈a.terms,OkT t
def FL(e:Int):Bool:=decide (e<0)||decide (32<e)
theorem aoX{e}:R 61 [I e] []=some (B (FL e),[]):=by
 refine az HO rfl ?_;unfold FL;by_cases h:e<0
 ·have e1:=tt h;simp only[vY,go_sem,e1,decide_true,Bool.true_or]
 ·have e1:=ff h;simp only[vY,go_sem,e1,decide_false,Bool.false_or]
theorem ai4{l}(h2:l.length<=100000):R 60 [.sl 1 (aZ l),.fn 61 [] []] []=some (B (l.any FL),[]):=by
 let p:List AV->Bool:=fun row=>match row with|[.v (.int _ e)]=>FL e|_=>false
 have h1:=XL (k:=1) (g:=false) (f:=61) (rows:=aZ l) (p:=p) fY.2.1 fY.2.2 (fY.1.2.2.2 false) rfl (HO.1.2.1 false) (by grind[EJ]) (fun row hr=>by
  simp only[aZ,aB7]at hr;obtain⟨e,he,rfl⟩:=hr;refine⟨I e,rfl,rfl,?_⟩;simp only[go_sem,aoX,p])
 have h2:=SA (k:=1) kO.2.1 kO.2.2 (kO.1.2.2.2 false) rfl (fY.1.2.1 false) (fY.1.1 false) (by simp only[go_sem]) h1;grind[aZ,FL,List.any_map]
def Qy(v:Int)(t:Rt):Bool:=decide (t.exps.length=v)&& (vd t.c&& (decide (t.c.m.length≠0)&& (!(t.exps.any FL)&&decide (bO t.exps<=32))))
def adS:Option Rt->Rt->Bool
 |none,_=>true
 |some q,t=>decide (cW q.exps t.exps<0)
def DH(v:Int):Option Rt->List Rt->Bool
 |_,[]=>true
 |pr,t::l=>Qy v t&& (adS pr t&&DH v (some t) l)
theorem FM{v}{t}(h:Qy v t=true):t.exps.length=v/\vd t.c=true/\t.c.m.length≠0/\t.exps.any FL=false/\bO t.exps<=32:=by
 grind[Qy]
theorem CO{l:List Int}(h:l.any FL=false):∀x∈l,0<=x/\x<=32:=by
 simp_all[FL,Bool.or_eq_true,decide_eq_true_eq,not_or]
theorem alU{a:Rp}(ok:∀t∈a.terms,Ok0 t.c)(hv:a.vars<=8)(h2:a.terms.length<=500):∀k i,i+k=a.terms.length->∀pr,(i=0->pr=none)->(0<i->∃q,pr=some q/\a.terms[i-1]?=some q/\Qy a.vars q=true)->
  ∀s h,s 1=ac 1->s 20=.sl 4 (aT a.terms)->s 21=I a.terms.length->s 22=I i->h 1=.bx [I a.vars,.sl 4 (aT a.terms)]->
  ∃hh,ao 0 [] (aD (ap R (aC false) eU) [1,20,21,22] [1] s h)=if DH a.vars pr (a.terms.drop i)=true then some (.normal,⟨fun _=>.any,hh⟩)else some (.ret,⟨upd cr 2 (B false),hh⟩):=by
 intro k;induction k with
 |zero=>
  intro i hi pr p0 p1 s h h1 h20 h21 h22 k1;have e1:((i:Int)<a.terms.length)=False:=ff;rw[aBQ ω,ai];refine⟨?hh0,?_⟩;rotate_left;show _=if true=true then _ else _
  rw[aq rfl];simp only[eU,go_sem,h1,h20,h21,h22,k1,e1];rfl
 |succ k ih=>
  intro i hi pr p0 p1 s h h1 h20 h21 h22 k1;have hlt:i<a.terms.length:=ω
  have e1:((i:Int)<a.terms.length)=True:=tt;have e2:=my rfl (aBp hlt);have e5:aS ((i:Int)+1)=((i+1:Nat):Int):=wi;have okt:=ok a.terms[i] (aBT hlt);have hnext:=aBp hlt;rw[aBJ hlt,ai];have ih':=ih (i+1) ω (some a.terms[i]) (fun h=>absurd h (Nat.succ_ne_zero _));generalize a.terms[i]=t at e2 okt ih' hnext⊢;generalize aD _ _ _=L at ih'⊢;have hvd:=eG okt;have hct:=fun(h:(t.exps.length:Int)=a.vars)=>ai4 (l:=t.exps) ω;simp only[dB]at e2;simp only[ae,aj]at hvd;unfold DH;cases hb:Qy a.vars t with
  |false=>
   simp only[aBy,ax aBu];unfold Qy at hb;by_cases c1:t.exps.length=a.vars
   ·have f1:=tt c1;rw[decide_eq_true c1,aBt]at hb;cases c2:vd t.c with
    |false=>
     rw[c2]at hvd;refine⟨?hh2,?_⟩;rotate_left;simp only[eU,go_sem,h1,h20,h21,h22,k1,e1,e2,f1,hvd];rfl
    |true=>
     rw[c2]at hvd hb;rw[aBt]at hb;by_cases c3:t.c.m.length=0
     ·have f3:((t.c.m.length:Int)=0)=True:=tt;refine⟨?hh3,?_⟩;rotate_left;simp only[eU,go_sem,h1,h20,h21,h22,k1,e1,e2,f1,hvd,f3];rfl
     ·have f3:((t.c.m.length:Int)=0)=False:=ff;rw[decide_eq_true c3,aBt]at hb;have hct:=hct c1;cases c4:t.exps.any FL with
      |true=>
       rw[c4]at hct;refine⟨?hh4,?_⟩;rotate_left;simp only[eU,go_sem,h1,h20,h21,h22,k1,e1,e2,f1,hvd,f3,hct];rfl
      |false=>
       rw[c4]at hct hb;rw[Bool.not_false,aBt]at hb;have hdg:=AL (a:=t.exps) ⟨by omega,CO c4⟩;have f5:(32<bO t.exps)=True:=tt γ;refine⟨?hh5,?_⟩;rotate_left;simp only[eU,go_sem,h1,h20,h21,h22,k1,e1,e2,f1,hvd,f3,hct,hdg,f5];rfl
   ·have f1:((t.exps.length:Int)=a.vars)=False:=ff c1;refine⟨?hh1,?_⟩;rotate_left;simp only[eU,go_sem,h1,h20,h21,h22,k1,e1,e2,f1];rfl
  |true=>
   obtain⟨c1,c2,c3,c4,c5⟩:=FM hb;have f1:((t.exps.length:Int)=a.vars)=True:=tt c1;rw[c2]at hvd;have f3:((t.c.m.length:Int)=0)=False:=ff;have hct:=hct c1;rw[c4]at hct;have hdg:=AL (a:=t.exps) ⟨by omega,CO c4⟩;have f5:(32<bO t.exps)=False:=ff;simp only[aBt];by_cases hi0:i=0
   ·have f6:(0< (i:Int))=False:=ff;rw[p0 hi0];simp only[adS,aBt];simp only[eU,go_sem,h1,h20,h21,h22,k1,e1,e2,f1,hvd,f3,hct,hdg,f5,f6,e5];exact ih' (fun _=>⟨t,rfl,hnext,hb⟩) _ _ Z Z Z Z Z
   ·have f6:(0< (i:Int))=True:=tt;obtain⟨q,q1,q2,q3⟩:=p1 ω;obtain⟨d1,d2,d3,d4,d5⟩:=FM q3;rw[q1];have e7:aS ((i:Int)-1)=((i-1:Nat):Int):=wi;have e8:dX (aT a.terms) ((i-1:Nat):Int)=some (.ipt (dB q)):=my rfl q2;simp only[dB]at e8;have ho:=Ya (a:=q.exps) (b:=t.exps) ⟨by omega,CO d4⟩ ⟨by omega,CO c4⟩ ω;simp only[adS];by_cases c6:cW q.exps t.exps<0
    ·have f7:(0<=cW q.exps t.exps)=False:=ff;simp only[decide_eq_true c6,aBt];simp only[eU,go_sem,h1,h20,h21,h22,k1,e1,e2,f1,hvd,f3,hct,hdg,f5,f6,e5,e7,e8,ho,f7];exact ih' (fun _=>⟨t,rfl,hnext,hb⟩) _ _ Z Z Z Z Z
    ·have f7:(0<=cW q.exps t.exps)=True:=tt;simp only[decide_eq_false c6,aBy,ax aBu];refine⟨?hh7,?_⟩;rotate_left;simp only[eU,go_sem,h1,h20,h21,h22,k1,e1,e2,f1,hvd,f3,hct,hdg,f5,f6,e7,e8,ho,f7];rfl
def vp(a:Rp):Bool:=decide (0<=a.vars)&& (decide (a.vars<=8)&& (decide (a.terms.length<=500)&&DH a.vars none a.terms))
theorem Qz{a}(ok:∀t∈a.terms,Ok0 t.c):R 21 [bo a] []=some (B (vp a),[]):=by
 refine az Xg rfl ?_;unfold vp;by_cases c1:0<=a.vars
 ·have f1:(a.vars<0)=False:=ff;rw[decide_eq_true c1,aBt];by_cases c2:a.vars<=8
  ·have f2:(8<a.vars)=False:=ff;rw[decide_eq_true c2,aBt];by_cases c3:a.terms.length<=500
   ·have f3:(500< (a.terms.length:Int))=False:=ff;rw[decide_eq_true c3,aBt];have h3:=alU ok c2 c3 a.terms.length 0 (aBi _) none (fun _=>rfl) (fun h=>absurd h (Nat.lt_irrefl _));simp only[List.drop_zero,aBV]at h3;cases hb:DH a.vars none a.terms with
    |true=>
     rw[hb]at h3;simp only[nK,sx,bo,go_sem,f1,f2,f3];rw[(h3 _ _ Z Z Z Z Z).choose_spec];simp only[go_sem]
    |false=>
     rw[hb]at h3;simp only[nK,sx,bo,go_sem,f1,f2,f3];rw[(h3 _ _ Z Z Z Z Z).choose_spec];simp only[go_sem]
   ·have f3:(500< (a.terms.length:Int))=True:=tt;rw[decide_eq_false c3,aBy];simp only[nK,sx,bo,go_sem,f1,f2,f3]
  ·have f2:(8<a.vars)=True:=tt;rw[decide_eq_false c2,aBy];simp only[nK,sx,bo,go_sem,f1,f2]
 ·have f1:(a.vars<0)=True:=tt;rw[decide_eq_false c1,aBy];simp only[nK,sx,bo,go_sem,f1]
theorem xd{a}(ok:OkP a):R 21 [bo a] []=some (B (vp a),[]):=Qz fun t h=>(ok.t t h).c
@[go_sem] theorem alV(l):(cB l).map (eP [.o 0 [],.o 2 [],.o 0 [],.o 0 [],.o 2 [],.o 0 [],.o 0 []])=cB l:=by
 refine tH fun x hx=>?_;simp only[cB,aB7]at hx;obtain⟨t,ht,rfl⟩:=hx;simp only[am,go_sem]
theorem adT{x}(ok:OkI x):R 237 [af x] []=some (B (!kI x),[]):=by
 refine az FB rfl ?_;have hv:=pf ok;simp only[af,am]at hv;unfold kI;cases h1:vi x with
 |false=>
  rw[h1]at hv;rw[Bool.and_false];simp only[se,af,am,go_sem,hv,Bool.not_false]
 |true=>
  rw[h1]at hv;rw[Bool.and_true,Bool.not_not];simp only[se,af,am,go_sem,hv]
theorem ai5{l}(ok:∀x∈l,OkI x)(h2:l.length<=100000):R 58 [.sl 7 (cB l),.fn 237 [] []] []=some (B (l.any fun x=>!kI x),[]):=by
 let p:List AV->Bool:=fun row=>match row with|[.v (.bool n1),.sl _ m1,.v (.int _ e1),.v (.bool n2),.sl _ m2,.v (.int _ e2),.v (.bool a)]=>!kI ⟨⟨n1,m1.map (fun r=>match r with|[.v (.int _ x)]=>x.toNat|_=>0),e1⟩,⟨n2,m2.map (fun r=>match r with|[.v (.int _ x)]=>x.toNat|_=>0),e2⟩,a⟩|_=>false
 have hmm:∀m,(aK m).map (fun r=>match r with|[.v (.int _ x)]=>x.toNat|_=>0)=m:=fun m=>by
  grind[aK,List.map_map,aBK,aB2]
 have hp:∀x,p (am x)=!kI x:=fun x=>by
  show(!kI ⟨⟨x.lo.neg,(aK x.lo.m).map _,x.lo.e⟩,⟨x.hi.neg,(aK x.hi.m).map _,x.hi.e⟩,x.all⟩)=_
  simp_all
 have h1:=XL (k:=7) (g:=true) (f:=237) (rows:=cB l) (p:=p) aQ.2.1 aQ.2.2 (aQ.1.2.2.2 false) rfl (FB.1.2.1 false) (by grind[aaY]) (fun row hr=>by
  simp only[cB,aB7]at hr;obtain⟨x,hx,rfl⟩:=hr;have hd:=adT (ok x hx);refine⟨af x,rfl,rfl,?_⟩;rw[hp];simp only[af,am]at hd;simp only[af,am,go_sem,hd])
 have h2:=SA (k:=7) bc.2.1 bc.2.2 (bc.1.2.2.2 false) rfl (aQ.1.2.1 false) (aQ.1.1 false) (by simp only[go_sem]) h1;have h3:(cB l).any p=l.any fun x=>!kI x:=by
  unfold cB;rw[List.any_map];congr 1;funext x;exact hp x
 grind
def mW(a:Rp)(dom:List Ri):Bool:=vp a&& (decide (dom.length=a.vars)&&!(dom.any fun x=>!kI x))
theorem afR{a}{dom}(oa:OkP a)(od:∀x∈dom,OkI x)(h2:dom.length<=100000):R 200 [bo a,.sl 7 (cB dom)] []=some (B (mW a dom),[]):=by
 refine az Sp rfl ?_;have hv:=xd oa;have hc:=ai5 od h2;simp only[bo]at hv;unfold mW;cases h1:vp a with
 |false=>
  rw[h1]at hv;simp only[qY,bo,go_sem,hv]
 |true=>
  rw[h1]at hv;by_cases h3:dom.length=a.vars
  ·have e3:=tt h3;simp only[qY,bo,go_sem,hv,e3,hc]
  ·have e3:=ff h3;simp only[qY,bo,go_sem,hv,e3]
theorem Md{a}{dom}(oa:OkP a)(od:∀x∈dom,OkI x)(h2:dom.length<=100000){p}:R 157 [bo a,.sl 7 (cB dom),I p] []=some (B (mW a dom&&bE p),[]):=by
 refine az Xv rfl ?_;have hd:=afR oa od h2;simp only[bo]at hd;unfold bE;cases h1:mW a dom with
 |false=>
  rw[h1]at hd;simp only[uX,bo,go_sem,hd]
 |true=>
  rw[h1]at hd;by_cases h3:8<=p
  ·have e3:=tt h3;simp only[uX,bo,go_sem,hd,e3,decide_true,aBt]
  ·have e3:=ff h3;simp only[uX,bo,go_sem,hd,e3,decide_false,aBy]
theorem Jj:R 158 [] []=some (af cG,[]):=by
 refine az Vl rfl ?_;simp only[Cv,af,am,cG,aG,go_sem]
def J3(p:Int):List Ri->List Int->Ri->Ri
 |d::ds,e::es,x=>J3 p ds es (if 0<e then cU x (CM d e.toNat p) p else x)
 |_,_,x=>x
theorem afS{dn up}{pr}(h1:∀a b,Ok0 (dn a b).1)(h2:∀a b,Ok0 (up a b).1):OkI (H1 (sf dn up pr)):=by
 have hN:∀k i o,Ok0 o.1->Ok0 o.2->OkI (H1 (BZ dn up pr k i o)):=by
  intro k;induction k with
  |zero=>exact fun i o g1 g2=>⟨g1,g2⟩
  |succ k ih=>
   intro i o g1 g2;unfold BZ;split
   ·grind
   ·exact⟨aO.2,aO.2⟩
 unfold sf;split
 ·grind
 ·exact⟨aO.2,aO.2⟩
theorem qG{x y}{p}:OkI (cU x y p):=by
 unfold cU;split
 ·grind[afS,CK]
 ·exact⟨aO.2,aO.2⟩
theorem H3{a b}{p}{up}:Ok0 (dq a b p up).1:=by
 unfold dq;split
 ·exact vf.2
 ·exact aO.2
theorem yg{x y}{p}:OkI (dk x y p):=by
 unfold dk;split
 ·grind[FK,H3]
 ·exact⟨aO.2,aO.2⟩
theorem alW{x}(ok:OkI x){e}{p}:OkI (CM x e p):=by
 grind[CM,CN,qG]
theorem aoY{p}:∀ds es x,OkI x->OkI (J3 p ds es x):=by
 intro ds;induction ds with
 |nil=>exact fun es x h=>by cases es<;>exact h
 |cons d ds ih=>
  intro es x h;cases es with
  |nil=>exact h
  |cons e es=>
   grind[J3,qG]
theorem ar9{dom}(od:∀x∈dom,OkI x){es}(hl:dom.length=es.length)(h2:dom.length<=100000)(he:∀e∈es,0<=e/\e<=32){p}{c3 c6 c7 c9}{rw'}{n j}
  (q3:aE [3,6,7,9,10] (.bx c3)=true) (q6:aE [3,6,7,9,10] (.bx c6)=true) (q7:aE [3,6,7,9,10] (.bx c7)=true) (q9:aE [3,6,7,9,10] (.bx c9)=true) (qr:iS [3,6,7,9,10] rw'=rw'):
  ∀ (k i:Nat),i+k=es.length->∀x,OkI x->∀s h,s 1=.sl 7 (cB dom)->s 2=I p->s 6=ac 6->s 7=ac 7->s 10=ac 10->s 22=rw'->s 23=I n->s 24=I j->s 32=.sl 1 (aZ es)->s 33=I es.length->s 34=I i->
  h 3=.bx c3->h 6=.bx c6->h 7=.bx c7->h 9=.bx c9->h 10=.bx (am x)->
  ∃hh,ao 2 [1,2,6,7,10,22,23,24] (aD (ap R (aC false) iG) [1,2,6,7,10,22,23,24,32,33,34] [3,6,7,9,10] s h)=some (.normal,⟨upd (upd (upd (upd (upd (upd (upd (upd cr 24 (I j)) 23 (I n)) 22 rw') 10 (ac 10)) 7 (ac 7)) 6 (ac 6)) 2 (I p)) 1 (.sl 7 (cB dom)),hh⟩)/\
   hh 3=.bx c3/\hh 6=.bx c6/\hh 7=.bx c7/\hh 10=.bx (am (J3 p (dom.drop i) (es.drop i) x))/\∀a,a≠3->a≠6->a≠7->a≠9->a≠10->hh a=.dead:=by
 intro k;induction k with
 |zero=>
  intro i hi x ox s h h1 h2' h6 h7 h10 h22 h23 h24 h32 h33 h34 k3 k6 k7 k9 k10;have e1:((i:Int)<es.length)=False:=ff;rw[aBQ ω,aBQ ω,ai];refine⟨?hh0,?_,?_,?_,?_,?_,?_⟩;rotate_left
  ·simp only[iG,go_sem,h1,h2',h6,h7,h10,h22,h23,h24,h32,h33,h34,k3,k6,k7,k9,k10,q3,q6,q7,q9,qr,e1];rfl
  ·rfl
  ·rfl
  ·rfl
  ·rfl
  simp_all[dv,if_false]
 |succ k ih=>
  intro i hi x ox s h h1 h2' h6 h7 h10 h22 h23 h24 h32 h33 h34 k3 k6 k7 k9 k10;have hlt:i<es.length:=ω
  have hlt2:i<dom.length:=ω
  have e1:((i:Int)<es.length)=True:=tt;have e2:=yf rfl (aBp hlt);have e3:=EI rfl (aBp hlt2);have e5:aS (i+1)=(i+1:Nat):=wi;have oki:=od dom[i] (aBT hlt2);have hb:=he es[i] (aBT hlt);rw[aBJ hlt,aBJ hlt2,ai];have ih':=ih (i+1) ω;unfold J3;generalize es[i]=e at e2 hb⊢;generalize dom[i]=d at e3 oki⊢;obtain⟨m,rfl⟩:=aCj hb.1;rw[aBr];have hpw:=alT oki (e:=m) ω (p:=p);have opw:=alW oki (e:=m) (p:=p);generalize CM d m p=y at hpw opw⊢;have hmu:=vE ox opw (p:=p);have omu:=qG (x:=x) (y:=y) (p:=p);generalize cU x y p=z at hmu omu⊢;simp only[af,am]at e3 hpw hmu k10;by_cases hm:0< (m:Int)
  ·have f1:=tt hm;simp only[iG,go_sem,h1,h2',h6,h7,h10,h22,h23,h24,h32,h33,h34,k3,k6,k7,k9,k10,q3,q6,q7,q9,qr,e1,e2,e3,f1,hpw,hmu,e5];exact ih' z omu _ _ Z Z Z Z Z Z Z Z Z Z Z Z Z Z Z Z
  ·have f1:=ff hm;simp only[iG,go_sem,h1,h2',h6,h7,h10,h22,h23,h24,h32,h33,h34,k3,k6,k7,k9,k10,q3,q6,q7,q9,qr,e1,e2,e3,f1,hpw,hmu,e5];exact ih' x ox _ _ Z Z Z Z Z Z Z Z Z Z Z Z Z Z Z Z
def Lf(p:Int)(dom:List Ri):List Rt->Ri->Ri
 |[],s=>s
 |t::l,s=>Lf p dom l (dk s (J3 p dom t.exps ⟨t.c,t.c,false⟩) p)
theorem Me{v}:∀l pr,DH v pr l=true->∀t∈l,Qy v t=true:=by
 intro l;induction l with
 |nil=>grind
 |cons a l ih=>
  intro pr h t ht;unfold DH at h;grind
theorem afT{a}{dom}(oa:OkP a)(od:∀x∈dom,OkI x)(hv:∀t∈a.terms,Qy a.vars t=true)(hl:dom.length=a.vars)(h8:a.vars<=8)(h5:a.terms.length<=500){p}:
  ∀k i,i+k=a.terms.length->∀x,OkI x->∀s h,s 1=.sl 7 (cB dom)->s 2=I p->s 6=ac 6->s 7=ac 7->s 22=.sl 4 (aT a.terms)->s 23=I a.terms.length->s 24=I i->
  h 3=.bx [I a.vars,.sl 4 (aT a.terms)]->h 6=.bx [B false,.emp,I 0,B false,.emp,I 0,B false]->h 7=.bx (am x)->
  ∃hh,ao 0 [6,7] (aD (ap R (aC false) mq) [1,2,6,7,22,23,24] [3,6,7] s h)=some (.normal,⟨upd (upd cr 7 (ac 7)) 6 (ac 6),hh⟩)/\hh 6=.bx [B false,.emp,I 0,B false,.emp,I 0,B false]/\hh 7=.bx (am (Lf p dom (a.terms.drop i) x)):=by
 intro k;induction k with
 |zero=>
  intro i hi x ox s h h1 h2 h6 h7 h22 h23 h24 k3 k6 k7;have e1:((i:Int)<a.terms.length)=False:=ff;rw[aBQ ω,ai];refine⟨?hh0,?_,?_,?_⟩;rotate_left
  ·simp only[mq,go_sem,h1,h2,h6,h7,h22,h23,h24,k3,k6,k7,e1];rfl
  ·rfl
  ·rfl
 |succ k ih=>
  intro i hi x ox s h h1 h2 h6 h7 h22 h23 h24 k3 k6 k7;have hlt:i<a.terms.length:=ω
  have e1:((i:Int)<a.terms.length)=True:=tt;have e2:=my rfl (aBp hlt);have e5:aS (i+1)=(i+1:Nat):=wi;have okt:=oa.t a.terms[i] (aBT hlt);obtain⟨c1,c2,c3,c4,c5⟩:=FM (hv a.terms[i] (aBT hlt));rw[aBJ hlt,ai];have ih':=ih (i+1) ω;unfold Lf;generalize a.terms[i]=t at e2 okt c1 c2 c3 c4 c5⊢;have hpt:=gR okt.c c2;have hin:=ar9 (dom:=dom) od (es:=t.exps) ω ω (CO c4) (p:=p) (c3:=[I a.vars,.sl 4 (aT a.terms)]) (c6:=[B false,.emp,I 0,B false,.emp,I 0,B false]) (c7:=am x) (c9:=dB t) (rw':=.sl 4 (aT a.terms)) (n:=a.terms.length) (j:=i) Z Z Z Z Z t.exps.length 0 (aBi _) ⟨t.c,t.c,false⟩ ⟨okt.c,okt.c⟩;simp only[List.drop_zero,aBV]at hin;have oy:=aoY (p:=p) dom t.exps ⟨t.c,t.c,false⟩ ⟨okt.c,okt.c⟩;generalize J3 p dom t.exps ⟨t.c,t.c,false⟩=y at hin oy⊢;have hadd:=te ox oy (p:=p);have oz:=yg (x:=x) (y:=y) (p:=p);generalize dk x y p=z at hadd oz⊢;generalize hL0:aD (ap R (aC false) iG) [1,2,6,7,10,22,23,24,32,33,34] [3,6,7,9,10]=L0 at hin;have hin2:∀S H X,ao 2 [1,2,6,7,10,22,23,24] (L0 S H)=X->S 1=.sl 7 (cB dom)->S 2=I p->S 6=ac 6->S 7=ac 7->S 10=ac 10->S 22=.sl 4 (aT a.terms)->S 23=I a.terms.length->S 24=I i->S 32=.sl 1 (aZ t.exps)->S 33=I t.exps.length->S 34=I 0->
   H 3=.bx [I a.vars,.sl 4 (aT a.terms)]->H 6=.bx [B false,.emp,I 0,B false,.emp,I 0,B false]->H 7=.bx (am x)->H 9=.bx (dB t)->H 10=.bx (am ⟨t.c,t.c,false⟩)->
   ∃hh,X=some (.normal,⟨upd (upd (upd (upd (upd (upd (upd (upd cr 24 (I i)) 23 (I a.terms.length)) 22 (.sl 4 (aT a.terms))) 10 (ac 10)) 7 (ac 7)) 6 (ac 6)) 2 (I p)) 1 (.sl 7 (cB dom)),hh⟩)/\
    hh 3=.bx [I a.vars,.sl 4 (aT a.terms)]/\hh 6=.bx [B false,.emp,I 0,B false,.emp,I 0,B false]/\hh 7=.bx (am x)/\hh 10=.bx (am y)/\∀a,a≠3->a≠6->a≠7->a≠9->a≠10->hh a=.dead:=fun S H X hX=>by
   rw[←hX];exact hin S H
  have hX:∀s h,ap R (aC false) (.loop [1,2,6,7,10,22,23,24,32,33,34] [3,6,7,9,10] iG) s h=L0 s h:=fun s h=>by rw[←hL0];rfl
  simp only[dB]at e2 hin2;simp only[af,am,ae,aj]at hpt hadd k7 hin2;simp only[mq,hX,go_sem,h1,h2,h6,h7,h22,h23,h24,k3,k6,k7,e1,e2,hpt];generalize hB:ao 2 [1,2,6,7,10,22,23,24] (L0 _ _)=X;obtain⟨hh,g0,g3,g6,g7,g10,gd⟩:=hin2 _ _ _ hB Z Z Z Z Z Z Z Z Z Z Z Z Z Z Z Z;rw[g0];simp only[go_sem,ne_eq,not_false_eq_true,g7,g10,gd,hadd,e5];refine ih' z oz _ _ ?_ ?_ ?_ ?_ ?_ ?_ ?_ ?_ ?_ ?_
  all_goals first|rfl|exact g3|exact g6
def oA(a:Rp)(dom:List Ri)(p:Int):Ri:=if(mW a dom&&bE p)=true then Lf p dom a.terms ⟨aG,aG,false⟩else cG
theorem ai6{a}{dom}(oa:OkP a)(od:∀x∈dom,OkI x)(h2:dom.length<=100000){p}:R 160 [bo a,.sl 7 (cB dom),I p] []=some (af (oA a dom p),[]):=by
 refine az Vm rfl ?_;have hf:=Md oa od h2 (p:=p);have hw:=Jj;unfold oA;simp only[bo]at hf;cases hb:(mW a dom&&bE p)with
 |false=>
  rw[hb]at hf;simp only[xO,DV,bo,af,am,go_sem,hf,hw]
 |true=>
  rw[hb]at hf;simp only[mW,vp,aBk,decide_eq_true_eq]at hb;obtain⟨⟨⟨v1,v2,v3,v4⟩,v5,v6⟩,v7⟩:=hb;have ho:=afT oa od (Me _ _ v4) v5 v2 v3 (p:=p) a.terms.length 0 (aBi _) ⟨aG,aG,false⟩ ⟨aO.2,aO.2⟩;simp only[List.drop_zero,aBV]at ho;generalize Lf p dom a.terms ⟨aG,aG,false⟩=z at ho⊢;have hpt:=gR aO.2 aO.1;generalize hL0:aD (ap R (aC false) mq) [1,2,6,7,22,23,24] [3,6,7]=L0 at ho;have hX:∀s h,ap R (aC false) (.loop [1,2,6,7,22,23,24] [3,6,7] mq) s h=L0 s h:=fun s h=>by rw[←hL0];rfl
  have ho2:∀S H X,ao 0 [6,7] (L0 S H)=X->S 1=.sl 7 (cB dom)->S 2=I p->S 6=ac 6->S 7=ac 7->S 22=.sl 4 (aT a.terms)->S 23=I a.terms.length->S 24=I 0->
   H 3=.bx [I a.vars,.sl 4 (aT a.terms)]->H 6=.bx [B false,.emp,I 0,B false,.emp,I 0,B false]->H 7=.bx (am ⟨aG,aG,false⟩)->
   ∃hh,X=some (.normal,⟨upd (upd cr 7 (ac 7)) 6 (ac 6),hh⟩)/\hh 6=.bx [B false,.emp,I 0,B false,.emp,I 0,B false]/\hh 7=.bx (am z):=fun S H X hX=>by
   rw[←hX];exact ho S H
  simp only[af,am,ae,aj,aG]at hpt ho2;simp only[xO,DV,hX,bo,af,am,go_sem,hf,hpt];generalize hB:ao 0 [6,7] (L0 _ _)=X;obtain⟨hh,g0,g6,g7⟩:=ho2 _ _ _ hB Z Z Z Z Z Z Z Z Z Z;rw[g0];simp only[go_sem,g6,g7]
theorem Lg{i:Int}(hi:i=n)(hn:n<18446744073709551616):eN .and (.v (.int .u64 i)) (.v (.int .u64 4294967295))=some (.v (.int .u64 (n%4294967296:Nat))):=by
 rw[RJ];have e:(BitVec.ofInt IntKind.u64.bits n&&&BitVec.ofInt IntKind.u64.bits 4294967295).toNat=n%4294967296:=by
  show(BitVec.ofInt 64 n&&&BitVec.ofInt 64 4294967295).toNat=n%4294967296;rw[BitVec.toNat_and];have e2:(BitVec.ofInt 64 n).toNat=n:=by
   grind
  rw[e2,show(BitVec.ofInt 64 4294967295).toNat=2^32-1 from by decide,Nat.and_two_pow_sub_one_eq_mod]
 grind[ip]
theorem afU{i:Int}(hi:i=n)(hn:n<4294967296):eN .and (.v (.int .u32 i)) (.v (.int .u32 1))=some (.v (.int .u32 (n%2:Nat))):=by
 rw[RJ];have e:(BitVec.ofInt IntKind.u32.bits n&&&BitVec.ofInt IntKind.u32.bits 1).toNat=n%2:=by
  show(BitVec.ofInt 32 n&&&BitVec.ofInt 32 1).toNat=n%2;grind
 grind[K1]
theorem adU(m)(h2:m.length<4611686018427387904):∀ (n:Nat),n<=m.length->∀s h,s 0=lm m->s 3=I n->
  ao 0 [0,3] (aD (ap R (aC false) JR) [0,3] [] s h)=some (.normal,⟨upd (upd cr 3 (I (oZ m n))) 0 (lm m),fun _=>.dead⟩):=Uf m h2
theorem Yb{m}(hb:Lb m)(h:m.length<=10000000):R 108 [lm m] []=some (lm (aA (ab m)),[]):=by
 refine az adv rfl ?_;have h1:fm 1 (lm m) none (some (I (oZ m m.length))) none=some (lm (aA (ab m))):=by
  rw[K0 (a:=0) (b:=oZ m m.length) rfl (wS rfl (Ft _ _)) (Ft _ _),List.drop_zero,Nat.sub_zero,NZ hb]
 have hl:=dM m hb;have e1:((aA (ab m)).length*4<=140737488355328)=True:=tt;simp only[Ha,PN,go_sem,adU m ω m.length (aBh _),h1,XW,e1,aBw,aB1,true_or,aBi,aBh,List.replicate_zero]
theorem Yc{m}(hb:Lb m)(n):m.getD (n/32) 0/2^ (n%32) %2=ab m/2^n%2:=by
 have h1:ab m/2^n=ab (m.drop (n/32))/2^ (n%32):=by
  rw[Ak hb,Nat.div_div_eq_div_mul,AH]
 rw[h1,gx];have e:4294967296=2^ (n%32)*(2*2^ (31-n%32)):=by
  rw[←Nat.pow_succ',←aBx,show n%32+(31-n%32+1)=32 by omega]
 simp_all[aBH,Nat.add_mul_div_left,aBA,Nat.add_mul_mod_self_left]
theorem afV{n}(h:n≠0){k}(hk:k<=tz n):n/2^k%2=if k=tz n then 1 else 0:=by
 obtain⟨h1,h2⟩:=AF h;by_cases hh:k=tz n
 ·grind
 ·obtain⟨j,hj⟩:∃j,tz n=k+(j+1):=⟨tz n-k-1,by omega⟩;have h3:n=2^k*(2*(2^j*(n/2^tz n))):=by
   grind
  grind[Nat.mul_div_cancel_left,aBA,Nat.mul_mod_right]
theorem adV{m}(hb:Lb m)(h:m.length<=1000000)(hv:ab m≠0):∀k i,i+k=tz (ab m)->∀s h,s 0=lm m->s 3=I i->
  ao 0 [3] (aD (ap R (aC false) xN) [0,3] [] s h)=some (.normal,⟨upd cr 3 (I (tz (ab m))),fun _=>.dead⟩):=by
 have htz:tz (ab m)<32*m.length:=by
  simp_all[VJ,dN,Nat.pow_mul]
 intro k;induction k with
 |zero=>
  intro i hi s h h0 h3;have hi':i=tz (ab m):=ω
  have e1:=HV (n:=i) (m:=32) (j:=32) Z Z ω ω;have e2:=HU (n:=i) (m:=32) (j:=32) Z Z ω;have e3:dX (aK m) (i/32:Nat)=some (.ipt [U (m.getD (i/32) 0)]):=dj rfl ω;have hx:=cX hb (i/32);have e4:IntKind.u64.wrap (i%32:Nat)=(i%32:Nat):=ip rfl ω;have e5:=Qs (n:=m.getD (i/32) 0) (k:=i%32) (kk:=.u64) (j:=(i%32:Nat)) Z Z ω;have e6:=afU (n:=m.getD (i/32) 0/2^ (i%32)) rfl (aBU (Nat.div_le_self _ _) hx);have e7:=Yc hb i;rw[afV hv ω,aq hi']at e7;rw[e7]at e6;rw[ai];rw[←hi'];simp only[xN,go_sem,aBo,h0,h3,e1,e2,e3,e4,e5,e6,Int.natCast_one]
 |succ k ih=>
  intro i hi s h h0 h3;have e1:=HV (n:=i) (m:=32) (j:=32) Z Z ω ω;have e2:=HU (n:=i) (m:=32) (j:=32) Z Z ω;have e3:dX (aK m) (i/32:Nat)=some (.ipt [U (m.getD (i/32) 0)]):=dj rfl ω;have hx:=cX hb (i/32);have e4:IntKind.u64.wrap (i%32:Nat)=(i%32:Nat):=ip rfl ω;have e5:=Qs (n:=m.getD (i/32) 0) (k:=i%32) (kk:=.u64) (j:=(i%32:Nat)) Z Z ω;have e6:=afU (n:=m.getD (i/32) 0/2^ (i%32)) rfl (aBU (Nat.div_le_self _ _) hx);have e7:=Yc hb i;rw[afV hv ω,ax ω]at e7;rw[e7]at e6;have e8:aS (i+1)=(i+1:Nat):=wi;have ih':=ih (i+1) ω;rw[ai];simp only[xN,go_sem,h0,h3,e1,e2,e3,e4,e5,e6,e8,aBV];exact ih' _ _ Z Z
theorem afW{m}(hb:Lb m)(h:m.length<=1000000)(hv:ab m≠0):R 109 [lm m] []=some (I (tz (ab m)),[]):=by
 refine az ZX rfl ?_;have h3:=adV hb h hv (tz (ab m)) 0 (aBi _);simp only[Fh,Nw,go_sem];rw[h3 _ _ Z Z];simp only[go_sem]
def Acc(d:Nat)(out:List Nat)(x:AV)(o:Ob):Prop:=(out=[]/\x=.emp/\o=.dead)\/(0<out.length/\x=.rsl d none 1 0 out.length/\o=.ar 1 (aK out))
theorem aa4{d v}:Acc d ([]++[v]) (.rsl d none 1 0 1) (.ar 1 [[U (v:Nat)]]):=Or.inr ⟨by simp,rfl,rfl⟩
theorem Yd{d v}{out}:Acc d (out++[v]) (.rsl d none 1 0 (out.length+1)) (.ar 1 (aK (out++[v]))):=Or.inr ⟨by simp,by grind,rfl⟩
theorem Ye(out)(v):aK out++[[U (v:Nat)]]=aK (out++[v]):=by simp[aK]
theorem afX(a)(r i):pX a r (i+1)=pX a r i++[wV a r i]:=by simp[pX,List.range_succ]
theorem adW{a}(ha:Lb a){n}(h1:a.length<=100000):∀k i,i+k=a.length->∀s h,s 0=lm a->s 1=I (n:Nat)->s 6=I i->Acc 51 (pX a (n%32) i) (s 5) (h 51)->
  ∃x hh,ao 0 [5] (aD (ap R (aC false) gH) [0,1,5,6] [51] s h)=some (.normal,⟨upd cr 5 x,hh⟩)/\Acc 51 (pX a (n%32) a.length) x (hh 51)/\∀a,a≠51->hh a=.dead:=by
 intro k;induction k with
 |zero=>
  intro i hi s h h0 g1 h6 hacc;have:i=a.length:=ω
  subst this;rw[ai];rcases hacc with⟨g2,h5,hh⟩| ⟨g2,h5,hh⟩
  ·refine⟨.emp,?hh0,?_,Or.inl ⟨g2,rfl,?_⟩,?_⟩;rotate_left
   ·simp only[gH,go_sem,h0,g1,h5,h6,hh,aCh];rfl
   all_goals simp_all[dv,if_false]
  ·refine⟨.rsl 51 none 1 0 (pX a (n%32) a.length).length,?hh1,?_,Or.inr ⟨g2,rfl,?_⟩,?_⟩;rotate_left
   ·simp only[gH,go_sem,h0,g1,h5,h6,hh,aCh];rfl
   all_goals simp_all[dv,if_false]
 |succ k ih=>
  intro i hi s h h0 g1 h6 hacc;have ih':=ih (i+1) ω;have hx:=cX ha i;have hy:=cX ha (i+1);have hr:n%32<32:=aBW _ ω;have e1:(i< (a.length:Int))=True:=tt;have e2:dX (aK a) i=some (.ipt [U (a.getD i 0)]):=dj rfl ω;have e3:aS (i+1)=(i+1:Nat):=wi;have e4:IntKind.u64.wrap (a.getD i 0)=(a.getD i 0):=ip rfl ω;have e5:=HU (n:=n) (m:=32) (j:=32) Z Z ω;have e5':IntKind.u64.wrap (n%32:Nat)=(n%32:Nat):=ip rfl ω;have q1:((pX a (n%32) i).length+1)*4<=140737488355328:=by grind[zp]
  have f3:=tt q1;have hlt:∀w:Nat,w<18446744073709551616->w/2^ (n%32)<18446744073709551616:=fun w hw=>aBU (Nat.div_le_self _ _) hw;rw[ai];rw[afX]at ih';generalize aD _ _ _=L at ih'⊢;by_cases hl:i+1<a.length
  ·have f1:(((i+1:Nat):Int)< (a.length:Int))=True:=tt;have f2:=dj rfl hl;have f5:IntKind.u64.wrap (a.getD (i+1) 0:Int)=(a.getD (i+1) 0:Int):=ip rfl ω;have f6:=Jb (n:=a.getD (i+1) 0) (k:=32) (kk:=.u64) (j:=32) Z Z ω ω;have f7:=SD (m:=a.getD i 0) (n:=a.getD (i+1) 0*2^32) Z Z ω ω;rw[Nat.or_comm,HW hx,show a.getD (i+1) 0*2^32+a.getD i 0=a.getD i 0+4294967296*a.getD (i+1) 0 by omega]at f7;have f8:=yb (n:=a.getD i 0+4294967296*a.getD (i+1) 0) (k:=n%32) (kk:=.u64) (j:=(n%32:Nat)) Z Z ω;have f9:=Lg (n:=(a.getD i 0+4294967296*a.getD (i+1) 0)/2^ (n%32)) rfl (hlt _ ω);rw[show(a.getD i 0+4294967296*a.getD (i+1) 0)/2^ (n%32) %4294967296=wV a (n%32) i from rfl]at f9;have f10:IntKind.u32.wrap ((wV a (n%32) i:Nat):Int)=((wV a (n%32) i:Nat):Int):=K1 rfl (aBW _ ω);rcases hacc with⟨g2,h5,hh⟩| ⟨g2,h5,hh⟩
   ·simp only[gH,go_sem,h0,g1,h5,h6,hh,e1,e2,e3,e4,e5,e5',f1,f2,f5,f6,f7,f8,f9,f10];rw[g2]at ih';exact ih' _ _ Z Z Z aa4
   ·simp only[gH,go_sem,h0,g1,h5,h6,hh,e1,e2,e3,e4,e5,e5',f1,f2,f3,f5,f6,f7,f8,f9,f10,true_or,aBi,aBh,Ye];exact ih' _ _ Z Z Z Yd
  ·have f1:(((i+1:Nat):Int)< (a.length:Int))=False:=ff;have hz:a.getD (i+1) 0=0:=by
    grind
   have f8:=yb (n:=a.getD i 0) (k:=n%32) (kk:=.u64) (j:=(n%32:Nat)) Z Z ω;have f9:=Lg (n:=a.getD i 0/2^ (n%32)) rfl (hlt _ ω);rw[show a.getD i 0/2^ (n%32) %4294967296=wV a (n%32) i by simp_all[wV,Nat.mul_zero,aBR]]at f9;have f10:IntKind.u32.wrap ((wV a (n%32) i:Nat):Int)=((wV a (n%32) i:Nat):Int):=K1 rfl (aBW _ ω);rcases hacc with⟨g2,h5,hh⟩| ⟨g2,h5,hh⟩
   ·simp only[gH,go_sem,h0,g1,h5,h6,hh,e1,e2,e3,e4,e5,e5',f1,f8,f9,f10];rw[g2]at ih';exact ih' _ _ Z Z Z aa4
   ·simp only[gH,go_sem,h0,g1,h5,h6,hh,e1,e2,e3,e4,e5,e5',f1,f3,f8,f9,f10,true_or,aBi,aBh,Ye];exact ih' _ _ Z Z Z Yd
theorem ai7(m):(aK m).take m.length=aK m:=by
 simp_all[aBE,alC,aBh]
theorem afY{a}(ha:Lb a)(h1:a.length<=10000)(hn:n<=1000000):R 110 [lm a,I n] []=some (lm (aA (ab a/2^n)),[]):=by
 refine az ZY rfl ?_;have e1:=HV (n:=n) (m:=32) (j:=32) Z Z ω ω;by_cases hq:a.length<=n/32
 ·have e2:(a.length<=((n/32:Nat):Int))=True:=tt;have hz:ab a/2^n=0:=by
   rw[←AH n,←Nat.div_div_eq_div_mul,←Ak ha,List.drop_of_length_le hq];exact Nat.zero_div _
  rw[hz,gh];simp only[BA,Hb,go_sem,e1,e2]
 ·have e2:(a.length<=((n/32:Nat):Int))=False:=ff;have e3:fm 1 (lm a) (some (I (n/32:Nat))) none none=some (lm (a.drop (n/32))):=by
   rw[K0 (a:=n/32) (b:=a.length) (wS rfl ω) rfl (aBh _),aBE γ]
  have hd:=pA ha (n/32);have hl:(a.drop (n/32)).length<=10000:=γ
  have hv:ab a/2^n=ab (a.drop (n/32))/2^ (n%32):=by
   rw[Ak ha,Nat.div_div_eq_div_mul,AH]
  rw[hv];have hr:=adW hd (n:=n) ω (a.drop (n/32)).length 0 (aBi _);have hall:=XT hd (r:=n%32) ω;have hL:=zp (a.drop (n/32)) (n%32) (a.drop (n/32)).length;have hLb:Lb (pX (a.drop (n/32)) (n%32) (a.drop (n/32)).length):=by
   grind[sR]
  have hvv:ab (pX (a.drop (n/32)) (n%32) (a.drop (n/32)).length)=ab (a.drop (n/32))/2^ (n%32):=by
   rw[hall,rF,aB8];exact aBU (Nat.div_le_self _ _) (dN hd)
  generalize a.drop (n/32)=m at e3 hd hl hr hall hL hLb hvv⊢;have ht:=Yb hLb ω;rw[hvv]at ht;have q0:Acc 51 (pX m (n%32) 0) .emp .dead:=Or.inl ⟨rfl,rfl,rfl⟩;generalize hLL:aD (ap R (aC false) gH) [0,1,5,6] [51]=L at hr;have hX:∀s h,ap R (aC false) (.loop [0,1,5,6] [51] gH) s h=L s h:=fun s h=>by rw[←hLL];rfl
  generalize pX m (n%32) m.length=out at hr hall hL hLb hvv ht;have hr2:∀S H X,ao 0 [5] (L S H)=X->S 0=lm m->S 1=I n->S 6=I 0->S 5=.emp->H 51=.dead->∃x hh,X=some (.normal,⟨upd cr 5 x,hh⟩)/\Acc 51 out x (hh 51)/\∀a,a≠51->hh a=.dead:=fun S H X hX a0 a1 a6 a5 b=>by
   rw[←hX];exact hr S H a0 a1 a6 γ
  simp only[BA,Hb,hX,go_sem,e1,e2,e3];generalize hB:ao 0 [5] (L _ _)=X;obtain⟨x,hh,g0,hacc,gd⟩:=hr2 _ _ _ hB Z Z Z Z Z;rw[g0];rcases hacc with⟨c1,c2,c3⟩| ⟨c1,c2,c3⟩
  ·rw[c1]at ht;simp only[go_sem,c2,ht,ne_eq,not_false_eq_true,gd]
  ·simp only[go_sem,c2,c3,ht,ne_eq,not_false_eq_true,gd,ai7,aBi,aBh]
theorem aoZ{neg}{m}{e}(hb:Lb m)(h1:m.length<=9000)(he:-1000000<=e/\e<=1000000):R 50 [B neg,lm m,I e] []=some (ae (bu neg (ab m) e),[]):=by
 refine az aiA rfl ?_;have ht:=Yb hb ω;have la:=dM m hb;obtain⟨M,hM⟩:∃M,ab m=M:=⟨_,rfl⟩;rw[hM]at ht la⊢;by_cases h0:M=0
 ·have e1:(((aA M).length:Int)=0)=True:=tt (by grind[gh]);rw[h0,lF];simp only[Gs,ae,aj,aG,go_sem,ht,e1]
 ·have e1:(((aA M).length:Int)=0)=False:=ff (fun h=>h0 (py.1 (List.length_eq_zero_iff.1 ω)));have hz:=afW (bJ M) ω (by grind[bp]);rw[bp]at hz;have htz:tz M<32*(aA M).length:=by
   refine VJ h0 ?_;grind[dN,bJ,bp,Nat.pow_mul]
  have hr:=afY (bJ M) (n:=tz M) ω ω;rw[bp]at hr;have w1:aS (e+(tz M:Nat))=e+(tz M:Nat):=i64_in _ ⟨by omega,by omega⟩;rw[jW h0];simp only[Gs,ae,aj,go_sem,ht,e1,hz,hr,w1]
theorem yi{d}(h:vd d=true):zI (fC d)=-zI d/\vd (fC d)=true:=by
 unfold fC;by_cases h0:d.m.length=0
 ·rw[aq (Or.inr h0),cT h0];exact⟨by rw[cT rfl];rfl,rfl⟩
 ·constructor
  ·grind[zI,mg]
  simp_all[vd,ax]
theorem ai8{d}(h:vd d=true):IY d.m:=by
 by_cases h0:d.m.length=0
 ·exact Or.inl (List.length_eq_zero_iff.1 h0)
 ·exact Or.inr (BW h h0).2.2.1
def fj(z f:Int):Rd:=bu (decide (z<0)) z.natAbs f
theorem CP{neg}{n}{f}:bu neg n f=fj (cF neg n) f:=by
 unfold fj;by_cases h0:n=0
 ·subst h0;cases neg<;>exact lF.symm
 ·cases neg with
  |false=>
   rw[uB,Int.natAbs_natCast,decide_eq_false ω]
  |true=>
   rw[wn,Int.natAbs_neg,Int.natAbs_natCast,decide_eq_true ω]
theorem Yf{n}(h:n%2=1)(k):tz (n*2^k)=k:=by
 rw[aBD,KU k ω,zo h,aBR]
theorem CQ{d}(ok:Ok0 d)(h:vd d=true):fj (zI d) (-16384)=d:=by
 by_cases h0:d.m.length=0
 ·rw[cT h0];have:=CD h h0;subst this;exact lF
 ·obtain⟨h1,h2,h3,h4⟩:=BW h h0;obtain⟨g1,g2,g3,g4⟩:=fA h ok.lb;have hz:zI d=cF d.neg (mg d):=by
   grind[zI,cF]
  rw[hz,←CP];unfold mg;rw[mJ,jW (ef h h0)];have ho:ab d.m%2=1:=by
   have:=gx d.m 0;grind
  rw[zo ho,Nat.pow_zero,Nat.div_one,aaC ok.lb (ai8 h)];obtain⟨n,m,e⟩:=d;grind
theorem alX:R 18 [I 1] []=some (ae one,[]):=by
 refine az afk rfl ?_;have h:=aoZ (neg:=false) (m:=[1,0]) (e:=0) (fun x hx=>by
  grind) δ ⟨by decide,by decide⟩
 have h2:bu false (ab [1,0]) 0=one:=by
  show bu false 1 0=one;grind[jW,zo,aA,one,qE,gh]
 rw[h2]at h;have h3:R 50 [B false,.sl 1 [[U 1],[U 0]],I 0] []=some (ae one,[]):=h;have w1:IntKind.u64.wrap 1=1:=rfl;have w2:=Lg (n:=1) (i:=1) rfl δ;have w3:=yb (n:=1) (i:=1) (k:=32) (kk:=.u64) (j:=32) Z Z ω;rw[show((1%4294967296:Nat):Int)=1 from rfl]at w2;rw[show((1/2^32:Nat):Int)=0 from rfl]at w3;have w4:IntKind.u32.wrap 1=1:=rfl;have w5:IntKind.u32.wrap 0=0:=rfl;simp only[IJ,one,ae,aj,go_sem,aBm,w1,w2,w3,w4,w5,h3]
theorem afZ{a b}(oa:Ok0 a)(ob:Ok0 b)(va:vd a=true)(vb:vd b=true):bu (a.neg !=b.neg) (ab a.m*ab b.m) (a.e+b.e)=fj (zI a*zI b) (-32768):=by
 obtain⟨a1,a2,a3,a4⟩:=fA va oa.lb;obtain⟨b1,b2,b3,b4⟩:=fA vb ob.lb;have hz:zI a*zI b=cF (a.neg !=b.neg) (mg a*mg b):=by
  unfold zI cF;cases a.neg<;>cases b.neg<;>simp[Int.mul_neg,Int.neg_mul]
 have hm:mg a*mg b=ab a.m*ab b.m*2^ ((a.e+16384).toNat+(b.e+16384).toNat):=by
  unfold mg;rw[aBx]
  ac_rfl
 rw[hz,←CP,hm,mJ,show-32768+((a.e+16384).toNat+(b.e+16384).toNat:Nat)=a.e+b.e by omega]
theorem Mf{a b}{p}{up}:vd (dq a b p up).1=true:=by
 unfold dq;split
 ·exact vf.1
 ·exact aO.1
theorem SO{d}{p}{up}:vd (cx d p up).1=true:=by
 unfold cx;split
 ·exact vf.1
 ·exact aO.1
theorem SP{a b}(va:vd a=true)(vb:vd b=true):iY a b=gy (zI a) (zI b):=by simp_all[iY,aq]
theorem QA{a b}(oa:Ok0 a)(ob:Ok0 b)(va:vd a=true)(vb:vd b=true)(h:zI a=zI b):a=b:=by
 rw[←CQ oa va,←CQ ob vb,h]
theorem alY{d}(h:vd d=true):zI (nP d)=(zI d).natAbs/\vd (nP d)=true:=by
 unfold nP;by_cases h0:d.m.length=0
 ·rw[aq (Or.inr h0),cT h0];exact⟨by rw[cT rfl];rfl,rfl⟩
 ·rw[ax (fun h2=>h2.elim (fun h3=>by rw[h]at h3;exact aBu h3.symm) h0)];constructor
  ·have e1:zI ⟨false,d.m,d.e⟩=(mg d):=rfl;rw[e1];unfold zI;split<;>omega
  ·unfold vd at h⊢;rw[ax h0]at h⊢;exact h
theorem si(x y):(x<y/\gy x y=-1)\/(x=y/\gy x y=0)\/(y<x/\gy x y=1):=by
 unfold gy;rcases Int.lt_trichotomy x y with h|h|h
 ·exact Or.inl ⟨h,aq h⟩
 ·exact Or.inr (Or.inl ⟨h,by rw[ax ω];exact ax ω⟩)
 ·exact Or.inr (Or.inr ⟨h,by rw[ax ω];exact aq h⟩)
structure Len1 (x:Ri):Prop where
 lo:Lb x.lo.m/\x.lo.m.length<=100000
 hi:Lb x.hi.m/\x.hi.m.length<=100000
def VI(x:Ri):Prop:=(vd x.lo=true/\Ok0 x.lo)/\(vd x.hi=true/\Ok0 x.hi)
theorem VI.len{x}(h:VI x):Len1 x:=⟨⟨h.1.2.1,aBq (wZ h.1.1 h.1.2.1) δ⟩,⟨h.2.2.1,aBq (wZ h.2.1 h.2.2.1) δ⟩⟩
theorem CR:VI cG:=⟨aO,aO⟩
theorem alZ{x y}{p}:VI (dk x y p):=by
 unfold dk;split
 ·unfold nC;split
  ·exact⟨⟨Mf,H3⟩,⟨Mf,H3⟩⟩
  ·exact CR
 ·exact CR
theorem ao0{p}{dom}:∀l s,VI s->VI (Lf p dom l s):=by
 intro l;induction l with
 |nil=>exact fun s h=>h
 |cons t l ih=>exact fun s h=>ih _ alZ
theorem af0{a}{dom}{p}:VI (oA a dom p):=by
 unfold oA;split
 ·exact ao0 _ _ ⟨aO,aO⟩
 ·exact CR
def mA(a:Rp):Int:=if vp a=true then(match a.terms.getLast? with|none=>-1|some t=>bO t.exps)else-1
theorem QB{a}(h:vp a=true):0<=a.vars/\a.vars<=8/\a.terms.length<=500/\DH a.vars none a.terms=true:=by
 simp_all[vp,aBk,decide_eq_true_eq]
theorem Mg{a}(h:vp a=true){t}(ht:t∈a.terms):sm t.exps/\t.exps.length=a.vars/\vd t.c=true/\t.c.m.length≠0/\bO t.exps<=32:=by
 obtain⟨v1,v2,v3,v4⟩:=QB h;obtain⟨c1,c2,c3,c4,c5⟩:=FM (Me _ _ v4 t ht);exact⟨⟨by omega,CO c4⟩,c1,c2,c3,c5⟩
theorem GI{a}(ok:OkP a):R 22 [bo a] []=some (I (mA a),[]):=by
 refine az U8 rfl ?_;have hv:=xd ok;unfold mA;simp only[bo]at hv;cases hb:vp a with
 |false=>
  rw[hb]at hv;simp only[sy,bo,go_sem,hv]
 |true=>
  rw[hb]at hv;obtain⟨v1,v2,v3,v4⟩:=QB hb;by_cases h0:a.terms.length=0
  ·have e1:((a.terms.length:Int)=0)=True:=tt;have e4:a.terms.getLast?=none:=by
    grind
   rw[e4];simp only[sy,bo,go_sem,hv,e1]
  ·have e1:((a.terms.length:Int)=0)=False:=ff;have e2:aS (a.terms.length-1)=(a.terms.length-1:Nat):=by grind[i64_in]
   have hlt:a.terms.length-1<a.terms.length:=ω
   have e3:=my rfl (aBp hlt);have e4:a.terms.getLast?=some a.terms[a.terms.length-1]:=γ
   obtain⟨c1,c2,c3,c4,c5⟩:=Mg hb (aBT hlt);rw[e4];have hd:=AL c1;simp only[dB]at e3;simp only[sy,bo,go_sem,hv,e1,e2,e3,hd]
def y7(x:Int):List Int->Nat->Int
 |[],_=>-1
 |y::l,i=>if x=y then i else y7 x l (i+1)
theorem ai9{l}(h2:l.length<=100000)(x):∀ (k i:Nat),i+k=l.length->∀s h,s 0=.sl 1 (aZ l)->s 1=I x->s 7=I l.length->s 8=I i->
  ∃hh,dD (ao 0 [] (aD (ap R (aC false) eM) [0,1,7,8] [] s h)) (ap R (aC false) (.seq (.ops [4] [co 4 (.mv (.c (I (-1))))]) (.ret)))=some (.ret,⟨upd cr 4 (I (y7 x (l.drop i) i)),hh⟩):=by
 intro k;induction k with
 |zero=>
  intro i hi s h h0 h1 h7 h8;have e1:((i:Int)<l.length)=False:=ff;rw[aBQ ω,ai];refine⟨?hh0,?_⟩;rotate_left
  ·simp only[eM,y7,go_sem,aBP,aBm,aBn,aBo,aBL,aBY,h0,h1,h7,h8,e1];rfl
 |succ k ih=>
  intro i hi s h h0 h1 h7 h8;have hlt:i<l.length:=ω
  have e1:((i:Int)<l.length)=True:=tt;have e2:=yf rfl (aBp hlt);have e5:aS (i+1)=(i+1:Nat):=wi;have ih':=ih (i+1) ω;rw[aBJ hlt,ai];unfold y7;generalize l[i]=y at e2⊢;by_cases hxy:x=y
  ·have e3:=tt hxy;refine⟨?hh1,?_⟩;rotate_left
   ·simp only[eM,go_sem,aBP,aBm,aBn,aBo,aBL,aBY,h0,h1,h7,h8,e1,e2,e3];rfl
  ·have e3:=ff hxy;simp only[eM,go_sem,aBP,aBm,aBn,aBo,aBL,aBY,h0,h1,h7,h8,e1,e2,e3,e5]at ih'⊢;apply ih'<;>rfl
theorem aja{l}(h2:l.length<=100000){x}:R 238 [.sl 1 (aZ l),I x] []=some (I (y7 x l 0),[]):=by
 refine az Gf rfl ?_;have h:=ai9 h2 x l.length 0 (aBi _);have h':∀S H X,dD (ao 0 [] (aD (ap R (aC false) eM) [0,1,7,8] [] S H)) (ap R (aC false) (.seq (.ops [4] [co 4 (.mv (.c (I (-1))))]) (.ret)))=X->S 0=.sl 1 (aZ l)->S 1=I x->S 7=I l.length->S 8=I 0->∃hh,X=some (.ret,⟨upd cr 4 (I (y7 x l 0)),hh⟩):=fun S H X hX=>by
  rw[←hX];exact h S H
 simp only[pT,yr,go_sem,aBP,aBm,aBn,aBo,aBL,aBY];generalize hB:dD (ao 0 [] (aD _ _ _ _ _)) _=X;obtain⟨hh,h3⟩:=h' _ _ _ hB Z Z Z Z;rw[h3];simp only[go_sem,aBP,aBm,aBn,aBo,aBL,aBY]
def Ui:Option Rd->List AV
 |none=>[B false,.emp,I 0]
 |some d=>aj d
def FN(l:List (Option Rd)):List (List AV):=l.map Ui
@[go_sem] theorem ayO(l):(FN l).length=l.length:=by simp[FN]
theorem al0{l}{i:Nat}{o}(h:l[i]?=some o):(FN l)[i]?=some (Ui o):=by grind[FN]
theorem al1(l)(i)(d):(FN l).set i (aj d)=FN (l.set i (some d)):=by simp[FN,List.map_set,Ui]
theorem al2(n):aBg n [B false,.emp,I 0]=FN (aBg n none):=by simp[FN,Ui]
def odV(l:List (Option Rd)):List Rd:=l.map fun o=>o.getD aG
theorem al3(l):(FN l).map (eP [.o 0 [],.o 2 [],.o 0 []])=GE (odV l):=by
 simp only[FN,odV,GE,List.map_map];refine aBK fun o _=>?_;cases o with
 |none=>simp only[Function.comp,Ui,aj,aG,Option.getD,go_sem]
 |some d=>simp only[Function.comp,Ui,aj,Option.getD,go_sem]
theorem al4(o)(d):(((Ui o).set 0 (B d.neg)).set 1 (lm d.m)).set 2 (I d.e)=aj d/\(3<=(Ui o).length)=True:=by
 cases o<;>exact⟨rfl,tt (aBh 3)⟩
def CS:List Rt->List (Option Rd)->List (Option Rd)
 |[],o=>o
 |t::l,o=>CS l (o.set (y7 1 t.exps 0+1).toNat (some t.c))
theorem aa6(x):∀l i,-1<=y7 x l i/\y7 x l i<l.length+i
 |[],i=>by
  grind[y7,aB1]
 |y::l,i=>by
  unfold y7;have:=aa6 x l (i+1);grind
theorem ajb{a:Rp}(hv:∀t∈a.terms,t.exps.length=a.vars)(h8:a.vars<=8)(h5:a.terms.length<=500):∀k i,i+k=a.terms.length->∀o,o.length=a.vars+1->∀s h,
  s 4=.rsl 18 none 3 0 o.length->s 20=.sl 4 (aT a.terms)->s 21=I a.terms.length->s 22=I i->h 1=.bx [I a.vars,.sl 4 (aT a.terms)]->h 18=.ar 3 (FN o)->
  ∃hh,ao 0 [4] (aD (ap R (aC false) nY) [4,20,21,22] [1,18] s h)=some (.normal,⟨upd cr 4 (.rsl 18 none 3 0 o.length),hh⟩)/\hh 18=.ar 3 (FN (CS (a.terms.drop i) o)):=by
 intro k;induction k with
 |zero=>
  intro i hi o ho s h h4 h20 h21 h22 k1 k18;have e1:((i:Int)<a.terms.length)=False:=ff;rw[aBQ ω,ai];refine⟨?hh0,?_,?_⟩;rotate_left
  ·simp only[nY,go_sem,aBP,aBm,aBn,aBo,aBL,aBY,h4,h20,h21,h22,k1,k18,e1];rfl
  ·rfl
 |succ k ih=>
  intro i hi o ho s h h4 h20 h21 h22 k1 k18;have hlt:i<a.terms.length:=ω
  have e1:((i:Int)<a.terms.length)=True:=tt;have e2:=my rfl (aBp hlt);have e5:aS (i+1)=(i+1:Nat):=wi;have c1:=hv a.terms[i] (aBT hlt);rw[aBJ hlt,ai];have ih':=ih (i+1) ω;unfold CS;generalize a.terms[i]=t at e2 c1⊢;have hx:=aja (l:=t.exps) (x:=1) ω;obtain⟨x1,x2⟩:=aa6 1 t.exps 0;have e6:aS (y7 1 t.exps 0+1)=(y7 1 t.exps 0+1).toNat:=by grind[i64_in]
  generalize hn:(y7 1 t.exps 0+1).toNat=n at e6⊢;have hn2:n<o.length:=ω
  have e7:(0<=(n:Int))=True:=tt;have e8:(n< (o.length:Int))=True:=tt;have e9:=al0 (aBp hn2);obtain⟨e10,e11⟩:=al4 o[n] t.c;have ih2:=ih' (o.set n (some t.c)) γ;rw[List.length_set]at ih2;simp only[dB]at e2;simp only[nY,go_sem,aBP,aBm,aBn,aBo,aBL,aBY,h4,h20,h21,h22,k1,k18,e1,e2,hx,e6,e7,e8,e9,e10,e11,e5,al1,aBr,aBi];exact ih2 _ _ Z Z Z Z Z Z
theorem ON:∀l o,(CS l o).length=o.length
 |[],o=>rfl
 |t::l,o=>by
  unfold CS;rw[ON l,List.length_set]
def GJ(a:Rp):Bool:=vp a&&decide (mA a<=1)
def Jk(a:Rp):List Rd:=odV (CS a.terms (aBg (a.vars.toNat+1) none))
def Yg(a:Rp):AV:=if GJ a=true then .tup [DC (Jk a),B true]else .tup [DC [],B false]
theorem Uj{a}(ok:OkP a):R 204 [bo a] []=some (Yg a,[]):=by
 refine az Sr rfl ?_;have hv:=xd ok;have hd:=GI ok;unfold Yg GJ;simp only[bo]at hv hd;cases hb:vp a with
 |false=>
  rw[hb]at hv;simp only[qZ,xT,bo,go_sem,aBP,aBm,aBn,aBo,aBL,aBY,hv,DC,GE]
 |true=>
  rw[hb]at hv;rw[aBt];generalize hg:mA a=g at hd⊢;by_cases h1:g<=1
  ·have e1:(1<g)=False:=ff;rw[aq (decide_eq_true h1)];obtain⟨v1,v2,v3,v4⟩:=QB hb;have hl:=ajb (a:=a) (fun t ht=>(Mg hb ht).2.1) v2 v3 a.terms.length 0 (aBi _) (aBg (a.vars.toNat+1) none) γ;simp only[List.drop_zero,aBV,aCk]at hl;have hl2:=ON a.terms (aBg (a.vars.toNat+1) none);have hn:=al3 (CS a.terms (aBg (a.vars.toNat+1) none));unfold Jk;generalize CS a.terms (aBg (a.vars.toNat+1) none)=O at hl hl2 hn⊢;rw[aCk]at hl2;generalize hN:a.vars.toNat+1=N at hl hl2⊢;have e2:aS (a.vars+1)=N:=by grind[i64_in]
   have e3:=wU (i:=N) (j:=N) (l:=N) (c:=N) Z Z (aBh _) ω;have e4:(N*40<=140737488355328)=True:=tt;have e5:(0+N<=O.length)=True:=tt;have e6:=tt hl2.symm;have h':∀S H X,ao 0 [4] (aD (ap R (aC false) nY) [4,20,21,22] [1,18] S H)=X->S 4=.rsl 18 none 3 0 N->S 20=.sl 4 (aT a.terms)->S 21=I a.terms.length->S 22=I 0->H 1=.bx [I a.vars,.sl 4 (aT a.terms)]->H 18=.ar 3 (FN (aBg N none))->
     ∃hh,X=some (.normal,⟨upd cr 4 (.rsl 18 none 3 0 N),hh⟩)/\hh 18=.ar 3 (FN O):=fun S H X hX=>by
    rw[←hX];exact hl S H
   simp only[qZ,xT,bo,go_sem,aBP,aBm,aBn,aBo,aBL,aBY,hv,hd,e1,e2,e3,e4,al2];generalize hB:ao 0 [4] (aD _ _ _ _ _)=X;obtain⟨hh,g0,g1⟩:=h' _ _ _ hB Z Z Z Z Z Z;rw[g0];simp only[go_sem,aBP,aBm,aBn,aBo,aBL,aBY,g1,e5,e6,hn,DC]
  ·have e1:(1<g)=True:=tt;rw[ax (fun h=>h1 (of_decide_eq_true h))];simp only[qZ,xT,bo,go_sem,aBP,aBm,aBn,aBo,aBL,aBY,hv,hd,e1,DC,GE]
end Go.Ab
