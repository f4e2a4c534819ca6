/-
  ModelfunApply holds at every input of its card. Part D1.
-/
import Derived.IntWalk
import Derived.Test.YtaojbnikhbkleaaGreatDoorC1
open Nat renaming add_mul → aFf, add_zero → aFA, div_add_mod → aFM, div_le_self → aF1, le_refl → aET, le_trans → aEX, lt_of_le_of_lt → aFl, lt_of_lt_of_le → aFQ, min_eq_left → aFW, mod_eq_of_lt → aFG, mod_lt → aFx, mul_assoc → aFj, mul_comm → aFd, mul_le_mul_left → aFV, mul_le_mul_right → aE4, pow_add → aE2, pow_le_pow_right → aFu, pow_succ → aFJ, reduceSub → aFt, two_pow_pos → aE7, zero_add → aES, zero_le → aE9
open Int renaming eq_ofNat_of_zero_le → aFy, lt_irrefl → aFC, natCast_zero → aFz, reduceEq → aEP, reduceLE → aEO, reduceLT → aEN, reduceToNat → aFo, toNat_natCast → aEY
open Bool renaming and_eq_true → aEV, and_false → aFT, and_true → aFE, false_and → aE0, false_eq_true → aFv, false_ne_true → aE3, not_false → aFY, not_true → aMD, or_eq_true → aF0, true_and → aEW
open List renaming length → O, all_cons → aFa, all_nil → aFF, append_assoc → aFO, append_nil → aE8, cons_append → aFb, drop_eq_getElem_cons → aFe, drop_eq_nil_of_le → aFq, drop_zero → aFX, getElem?_eq_getElem → aE1, getElem_mem → aFg, length_cons → aFk, length_nil → aFs, length_replicate → aFU, length_take → aFm, map_congr_left → aFn, map_id' → aFH, mem_map → aFN, mem_of_getElem? → aE6, nil_append → aE5, replicate → aER, take_of_length_le → aFi
open Option renaming bind_some → aEZ, map_some → aFK
set_option linter.all false
namespace Go.Ab
open Go Go.IntWalk
set_option maxRecDepth 4000
set_option maxHeartbeats 1000000
theorem Z{α:Sort _}{a:α}:a=a:=rfl
variable{M N m n x:Nat}{e f j p:Int}
def aS(m:List Nat):List (List AV):=m.map fun(x:Nat)=>[U x]
def lm(m:List Nat):AV:=.sl 1 (aS m)
theorem wH(m):O (aS m)=O m:=by simp[aS]
theorem HM(l:List (List AV)):l.map (fj [])=l:=(aFn (g:=fun c=>c) fun c _=>ZI c).trans (aFH _)
def azO(hs m):jn hs (lm m)=lm m:=θ _
def ax7(hs m):knownL hs (lm m)=true:=θ _
def avO(hs m):mh hs (lm m)=true:=θ _
def aD1(ks m):yc ks (lm m)=lm m:=θ _
def aCb(ks m):vW ks (lm m)=false:=θ _
def aCc(ks m):Jc ks (lm m)=false:=θ _
def aD2(m):uF false (lm m)=some (I (O m)):=by simp[lm,uF,aS]
def aCd(m k i):A9 1 (lm m) (.v (.int k i))=dF (aS m) i:=by simp[lm,A9]
def apB(k ss m):nrmV (.o (k+1) []::ss) (lm m)=lm m:=by simp[lm,nrmV,nrmL,HM]
def azP(k cs ss m):nrmV (.o (k+1) [.o 0 cs]::ss) (lm m)=lm m:=by
 simp[aS,fj,aFn,aFH,nrmL,lm,nrmV]
def aCe(k m):nrmL (.o (k+1) []) (lm m)=lm m:=by simp[lm,nrmL,HM]
def aCf(h m):wj h (lm m)=some (lm m):=θ _
def azQ(h m l):qp h (lm m::l)=(qp h l).bind fun q=>some (lm m::q):=θ _
def aCg(m):cF (lm m)=[]:=θ _
def aCh(m):ip (lm m)=[]:=θ _
def aD3(m):dat (lm m)=true:=θ _
def aCi(m):aI (lm m)=true:=θ _
def azR(m):bI (lm m)=false:=θ _
def azS(m):ke (lm m)=some [lm m]:=θ _
def aCj(h m):iJ h (lm m)=some (lm m,h,[]):=θ _
def azT(h m):eM h 0 (lm m)=some (lm m,h,[]):=θ _
def azU(id p m):EW id p (lm m)=lm m:=θ _
def azV(h d m):mR h d (some (lm m,[]))=if bV h (2000+8*d) 1=true then some (lm m,h,[])else none:=amh h d 1 (aS m)
def aD4(m):AV.sl 1 (aS m)=lm m:=θ _
def azW(p)(a):mT (List.filter p [a])=true:=by
 simp only[List.filter];split<;>rfl
theorem aCk(m):O (aS m)=O m:=by simp[aS]
theorem asA:AV.sl 1 []=lm []:=θ _
def ax8(cs ss):nrmV (.o 2 cs::ss) .emp=lm []:=by simp[nrmV,nrmL,lm,aS]
def ax9(cs):nrmL (.o 2 cs) .emp=lm []:=by simp[nrmL,lm,aS]
def aCl(k ss m):nrmV (.o (k+1) []::ss) (.sl 1 (aS m))=lm m:=apB k ss m
def azX(k ss m):nrmV (.o (k+1) []::ss) (.osl 1 (aS m))=lm m:=by simp[lm,nrmV,nrmL,HM]
theorem dV{m}{i:Int}(hi:i=n)(h:n<O m):dF (aS m) i=some (.ipt [U (m.getD n 0)]):=by
 grind[dF,aS]
theorem nF{m}{n}(h:n<O m):(aS m)[n]?=some [U (m.getD n 0)]:=by
 grind[aS]
theorem Q1(m)(n):(aS m).take n=aS (m.take n):=by simp[aS,List.map_take]
theorem amo(m)(n):(aS m).drop n=aS (m.drop n):=by simp[aS,List.map_drop]
theorem Th(m l):aS m++aS l=aS (m++l):=by simp[aS]
theorem so(m)(n x):(aS m).set n [U (x:Nat)]=aS (m.set n x):=by simp[aS,List.map_set]
theorem GW(n):aER n [AV.v (.int .u32 0)]=aS (aER n 0):=by simp[aS]
theorem aaB{m}{lo hi}{a b}(hlo:mS 0 b lo=some a)(hhi:mS (O m) (O m) hi=some b)(_hb:b<=O m):gA 1 (lm m) lo hi none=some (lm ((m.drop a).take (b-a))):=by
 simp_all[lm,gA,nc,wH,if_true,aEZ,aFK,My,aFv,if_false,Q1,amo]
theorem Q2(d n):mS d n none=some d:=θ _
theorem Et{d n}{k}{i:Int}{a:Nat}(hi:i=a)(h:a<=n):mS d n (some (.v (.int k i)))=some a:=by
 grind[mS]
def Eu{f}{fd}{args}{r}(hE:cB.E f=none)(hC:cB.C f=some fd)(hk:cB.md.keep f=false)(h1:O args=fd.np)
  (hz:fk false fd.rs fd.res 0 (am R (aA false) fd.body (iW args) (fun _=>.dead))=some r):R f args []=some r:=by
 simp_all[Na,aE9,agK]
def au{f:FuncId}{l:List (List Sh)}{fd:FD}{args:List AV}{r:AV×List Ob}(q:QE f l fd)(hz:fk false fd.rs fd.res 0 (am R (aA false) fd.body (iW args) (fun _=>.dead))=some r)(h1:O args=fd.np:=by rfl):R f args []=some r:=Eu q.2.1 q.2.2 (q.1.2.2.2 false) h1 hz
noncomputable def su (k:Nat) (g:Bool):Cmd:=.seq (.ops [0,1,7,8,9] [co 9 (.bin .lss (.t 8) (.t 7))]) (.seq (.cond (.t 9) (.skip) (.exit 0)) (.seq (.block 1 [0,1,7,8] (.seq (.ops [0,1,5,7,8] [cm 10 8,cm 5 10]) (.seq (.ops [0,1,5,7,8,16] [cm 11 1,cm 12 0,cm 13 5,co 14 (.iadrS k (.t 12) (.t 13)),⟨(some 15),none,.load k g (.t 14)⟩,⟨(some 16),none,.call (.t 11) [(.t 15)]⟩]) (.cond (.t 16) (.seq (.ops [4] [cm 17 5,cm 4 17]) (.ret)) (.skip))))) (.ops [0,1,7,8] [co 18 (.bin .add (.t 8) (.c (I 1))),cm 8 18])))
noncomputable def sv:Cmd:=.seq (.ops [4] [co 4 (.mv (.c (.v (.int .i64 (-1)))))]) (.ret)
def AZ{α:Type}(p:α->Bool):List α->Nat->Int
 |[],_=>-1
 |r::rs,n=>if p r=true then n else AZ p rs (n+1)
theorem Lh{α}(p):∀ (l:List α) n,decide (0<=AZ p l n)=l.any p
 |[],n=>rfl
 |r::rs,n=>by
  simp only[AZ,List.any_cons];by_cases h:p r=true
  ·simp[h]
  ·simp[h,Lh p rs (n+1)]
attribute [go_sem] HM azO ax7 avO aD1 aCb aCc aD2 aCd apB azP aCe aCf azQ aCg aCh aD3 aCi azR azS aCj azT azU azV aD4 azW aCk asA ax8 ax9 aCl azX
def amp{k}{g}{f}{rows}{p}{hs}(hhs:hs=[]\/hs=[1000])(hm:(aA false).m f=[])(hl:O rows<4611686018427387904)
  (hf:∀row∈rows,∃a,nO k g row 0=some a/\dat a=true/\R f (bC ((aA false).sh f) [a]) []=some (B (p row),[])):∀rest (n:Nat),rows.drop n=rest->n<=O rows->
  ∀s h,s 0=.sl k rows->s 1=.fn f [] []->s 7=I (O rows)->s 8=I n->h 1000=.dead->
   ∃hh,dx (ao 0 [] (aB (am R (aA false) (su k g)) [0,1,7,8] hs s h)) (am R (aA false) sv)=some (.ret,⟨upd ce 4 (I (AZ p rest n)),hh⟩):=by
 intro rest;induction rest with
 |nil=>
  intro n hd hn s h h0 h1 h7 h8 h9;have e:n=O rows:=by
   have:=congrArg List.length hd;grind
  subst e;rw[ai];rcases hhs with rfl|rfl<;>exact⟨_,by simp only[su,sv,go_sem,h0,h1,h7,h8,h9,aFC,AZ];rfl⟩
 |cons r rest ih=>
  intro n hd hn s h h0 h1 h7 h8 h9;have hlt:n<O rows:=by
   grind
  have hr:rows[n]?=some r:=by
   have:=congrArg (·[0]?) hd;grind
  obtain⟨a,ha,hda,hc⟩:=hf r (aE6 hr);have ih':=ih (n+1) (by rw[←List.drop_drop,hd];rfl) hlt;have e1:(n< (O rows:Int))=True:=eq_true ω;have e2:dF rows n=some (.ipt r):=by grind[dF]
  have e3:aG (n+1)=(n+1):=by grind[i64_in]
  rw[ai];generalize aB _ _ _=L at ih'⊢;rcases hhs with rfl|rfl
  all_goals
   simp only[su,go_sem,h0,h1,h7,h8,h9,e1,e2,ha,Ce _ hm,hda,hc,AZ];cases hp:p r with
   |true=>exact⟨_,by simp only[go_sem];rfl⟩
   |false=>
    simp only[go_sem,e3,aE3];apply ih'<;>rfl
def aaC{fi}{fd}{k}{g}{hs}(hE:cB.E fi=none)(hC:cB.C fi=some fd)(hk:cB.md.keep fi=false)
  (hfd:fd=⟨2,[[]],[.t 4],.seq (.ops [0,1] [co 4 (.mv (.c (I 0)))]) (.seq (.seq (.ops [0,1,7,8] [cm 6 0,co 7 (.len false (.t 6)),co 8 (.mv (.c (I 0)))]) (.block 0 [] (.loop [0,1,7,8] hs (su k g)))) sv)⟩)
  {f} {rows} {p} (hm:(aA false).m f=[]) (hl:O rows<4611686018427387904)
  (hf:∀row∈rows,∃a,nO k g row 0=some a/\dat a=true/\R f (bC ((aA false).sh f) [a]) []=some (B (p row),[])) (hhs:hs=[]\/hs=[1000]:=by simp):R fi [.sl k rows,.fn f [] []] []=some (I (AZ p rows 0),[]):=by
 subst hfd;refine Eu hE hC hk rfl ?_;have hL:=amp (k:=k) (g:=g) hhs hm hl hf rows 0 rfl (aE9 _);simp only[go_sem,agJ];have hL2:∀S H X,dx (ao 0 [] (aB (am R (aA false) (su k g)) [0,1,7,8] hs S H)) (am R (aA false) sv)=X->S 0=.sl k rows->S 1=.fn f [] []->S 7=I (O rows)->S 8=I 0->H 1000=.dead->
   ∃hh,X=some (.ret,⟨upd ce 4 (I (AZ p rows 0)),hh⟩):=fun S H X hX a b c d e=>by
  rw[←hX];exact hL S H a b c d e
 generalize hX:dx (ao 0 [] (aB _ _ hs _ _)) (am R (aA false) sv)=X;obtain⟨hh,e⟩:=hL2 _ _ _ hX Z Z Z Z Z;rw[e];simp only[go_sem]
noncomputable def Nj (fi:FuncId):FD:=⟨2,[[]],[.t 4],.seq (.ops [0,1] [co 4 (.mv (.c (B false)))]) (.seq (.ops [4] [cm 5 0,cm 6 1,⟨(some 7),none,.call (.c (.fn fi [] [])) [(.t 5),(.t 6)]⟩,co 8 (.bin .geq (.t 7) (.c (I 0))),cm 4 8]) (.ret))⟩
def Va{ci fi}{fd}{k}(hE:cB.E ci=none)(hC:cB.C ci=some fd)(hk:cB.md.keep ci=false)(hfd:fd=Nj fi)(hm:(aA false).m fi=[]){cs}(hsh:(aA false).sh fi=[[.o (k+1) cs],[]])
  {rows} {f} {p} (hr:rows.map (fj cs)=rows) (h:R fi [.sl k rows,.fn f [] []] []=some (I (AZ p rows 0),[])):R ci [.sl k rows,.fn f [] []] []=some (B (rows.any p),[]):=by
 subst hfd;refine Eu hE hC hk rfl ?_;simp only[Nj,go_sem,Ce _ hm,hsh,hr,h,amf,Lh]
theorem iH{i:Int}(h:i=n)(hn:n<18446744073709551616):IntKind.u64.wrap i=n:=by rw[u64_in]<;>omega
theorem WF{i:Int}(h:i=n)(hn:n<4294967296):IntKind.u32.wrap i=n:=by rw[u32_in]<;>omega
theorem wi{i:Int}(h:i=n:=by omega)(hn:n<9223372036854775808:=by omega):IntKind.i64.wrap i=n:=by rw[i64_in]<;>omega
theorem Li{i:Int}(h:i=n):IntKind.u32.wrap i=(n%4294967296:Nat):=by grind[IntKind.wrap_u32]
def Fb{i:Int}{k:Nat}{kk}(h:i=n)(hj:j=k)(hk:k<=64):fK .shr (.v (.int .u64 i)) (.v (.int kk j))=some (.v (.int .u64 (n/2^k:Nat))):=by
 simp_all[JJ,av,IntKind.bits,Option.some.injEq,AV.v.injEq,Value.int.injEq,true_and,Int.fdiv_eq_ediv_of_nonneg,Int.pow_nonneg]
def Q3{y c:Nat}(hx:x<4294967296)(hy:y<4294967296)(hc:c<=1):R 332 [U x,U y,U c] []=some (.tup [U (((x+y+c) %4294967296:Nat)),U (((x+y+c)/4294967296:Nat))],[]):=by
 refine au aax ?_;have e1:IntKind.u64.wrap x=x:=iH rfl ω;have e2:IntKind.u64.wrap y=y:=iH rfl ω;have e3:IntKind.u64.wrap c=c:=iH rfl ω;have e4:IntKind.u64.wrap (x+y)=(x+y:Nat):=iH ω ω;have e5:IntKind.u64.wrap ((x+y:Nat)+c)=(x+y+c:Nat):=iH ω ω;have e6:IntKind.u32.wrap (x+y+c:Nat)=((x+y+c) %4294967296:Nat):=Li rfl;have e7:=Fb (n:=x+y+c) (k:=32) (kk:=.u64) (j:=32) Z Z ω;have e8:IntKind.u32.wrap ((x+y+c)/2^32:Nat)=((x+y+c)/4294967296:Nat):=WF rfl ω;simp only[F8,go_sem,e1,e2,e3,e4,e5,e6,e7,e8]
def apC{k}{n}(h:n≠0):My (some (.v (.int k n)))=false:=by
 simp_all[My,absurd]
theorem apD{m}(h:O m≠0):gA 1 (lm m) none (some (I (O m))) (some (I (O m)))=some (lm m):=by
 have hz:My (some (I (O m)))=false:=apC ω;have h1:mS (O m) (O m) (some (I (O m)))=some (O m):=Et rfl (aET _)
 simp_all[gA,lm,wH,nc,Q2,if_true,aEZ,aFK,aFv,if_false,aFX,Nat.sub_zero,Q1,List.take_length]
theorem Ox(m):R 202 [lm m] []=some (lm m,[]):=by
 refine au Eo ?_;by_cases h:O m=0
 ·have:=List.length_eq_zero_iff.1 h;subst this;rfl
 ·simp only[mQ,go_sem,apD h]
theorem ajf(m)(h2:O m<4611686018427387904):∀ (n:Nat),n<=O m->∀s h,s 0=lm m->s 3=I n->
  ao 0 [0,3] (aB (am R (aA false) pM) [0,3] [] s h)=some (.normal,⟨upd (upd ce 3 (I (tu m n))) 0 (lm m),fun _=>.dead⟩):=by
 intro n;induction n with
 |zero=>
  intro h1 s h h3 h4;rw[ai];simp only[pM,go_sem,h3,h4,tu,aFz,aFC]
 |succ n ih=>
  intro h1 s h h3 h4;have hn:=h1;have e3:aG (n+1-1)=n:=wi ω ω;have e1:=dV rfl hn;have e2:(0< (n:Int)+1)=True:=eq_true ω;have ih':=ih ω;rw[ai];by_cases hz:m.getD n 0=0
  ·simp only[pM,go_sem,h3,h4,tu,Int.natCast_add,Int.natCast_one,e3,e1,e2,hz,aFz];exact ih' _ _ Z Z
  ·simp only[pM,go_sem,h3,h4,tu,Int.natCast_add,Int.natCast_one,e3,e1,e2,hz,Int.natCast_eq_zero]
theorem cI{m}(hb:Lb m)(h:O m<4611686018427387904):R 252 [lm m] []=some (lm (ax (ab m)),[]):=by
 refine au U0 ?_;have h1:gA 1 (lm m) none (some (I (tu m (O m)))) none=some (lm (ax (ab m))):=by
  rw[aaB (a:=0) (b:=tu m (O m)) rfl (Et rfl (M8 _ _)) (M8 _ _),aFX,Nat.sub_zero,ZZ hb]
 simp only[Dl,JO,go_sem,ajf m h (O m) (aET _),h1]
def llm(l:List (List Nat)):AV:=.sl 1 (l.map fun m=>[lm m])
theorem apE(l:List (List Nat))(cs):(l.map fun m=>[lm m]).map (fj [.o 2 cs])=l.map fun m=>[nrmL (.o 2 cs) (lm m)]:=by
 simp[List.map_map,fj]
theorem ajg(m):R 297 [lm m] []=some (B (decide (256<O m)),[]):=by
 refine au HK ?_;have e:decide (256< (O m:Int))=decide (256<O m):=γ
 simp only[AP,go_sem,e]
def adN{l}(hl:O l<4611686018427387904):R 249 [llm l] []=some (B (l.any fun m=>decide (256<O m)),[]):=by
 refine au UY ?_
 let p:List AV->Bool:=fun row=>match row with|[.sl _ rows]=>decide (256<O rows)|_=>false
 have hp:∀m,p [lm m]=decide (256<O m):=fun m=>by grind[lm,wH]
 have hn:(l.map fun m=>[lm m]).map (fj [aR])=l.map fun m=>[lm m]:=by
  rw[apE];simp only[go_sem]
 have h1:=aaC (k:=1) (g:=false) (f:=297) (rows:=l.map fun m=>[lm m]) (p:=p) dU.2.1 dU.2.2 (dU.1.2.2.2 false) rfl (HK.1.2.1 false) γ (fun row hr=>by
  simp only[aFN]at hr;obtain⟨m,hm,rfl⟩:=hr;refine⟨lm m,rfl,rfl,?_⟩;simp only[go_sem,ajg,hp])
 have h2:=Va (k:=1) eY.2.1 eY.2.2 (eY.1.2.2.2 false) rfl (dU.1.2.1 false) (dU.1.1 false) hn h1;have h3:(l.map fun m=>[lm m]).any p=l.any fun m=>decide (256<O m):=by
  rw[List.any_map];congr 1;funext m
  simp_all
 rw[h3]at h2;simp only[Dk,llm,go_sem,Ce _ (eY.1.2.1 false),hn,h2]
def tt{p}(h:p:=by omega):p=True:=eq_true h
def aa(p)(h:p:=by omega):p=True:=eq_true h
theorem ff{p}(h:¬p:=by omega):p=False:=eq_false h
def aP(p)(h:¬p:=by omega):p=False:=eq_false h
theorem tO(a):R 249 [.sl 1 [[lm a]]] []=some (B (decide (256<O a)),[]):=by
 have:=adN (l:=[a]) σ;grind[llm]
theorem tP(a b):R 249 [.sl 1 [[lm a],[lm b]]] []=some (B (decide (256<O a)||decide (256<O b)),[]):=by
 have:=adN (l:=[a,b]) σ;grind[llm]
def lq(n:Nat):AV:=if 256< O (ax n) then .tup [lm [],I 9]else .tup [lm (ax n),I 0]
def GX{m}(hb:Lb m)(h:O m<4611686018427387904):R 250 [lm m] []=some (lq (ab m),[]):=by
 refine au UZ ?_;by_cases hl:256< O (ax (ab m))
 ·simp only[yv,lq,go_sem,cI hb h,tO,hl]
 ·simp only[yv,lq,go_sem,cI hb h,tO,hl,Ox]
theorem Mf{a:List Nat}{i}(h:i<O a):ab (a.take (i+1))=ab (a.take i)+4294967296^i*a.getD i 0:=by
 grind[List.take_add_one,gu,aFm,aFW,ab]
theorem adc{a:List Nat}{i}(h:O a<=i):ab (a.take (i+1))=ab (a.take i)+4294967296^i*a.getD i 0:=by
 grind[aFi]
theorem jg(a:List Nat)(i):ab (a.take (i+1))=ab (a.take i)+4294967296^i*a.getD i 0:=by
 grind[Mf,adc]
def lmb(n i:Nat):Nat:=n/4294967296^i%4294967296
theorem amq{k n i}(h:i<k):(fS k n)[i]?=some (lmb n i):=by
 induction k generalizing n i with
 |zero=>omega
 |succ k ih=>
  cases i with
  |zero=>simp[fS,lmb]
  |succ i=>
   grind[fS,lmb,aFJ,aFd,Nat.div_div_eq_div_mul]
theorem aaD{k n}{l}(hl:O l=k)(h:∀i,i<k->l.getD i 0=lmb n i):l=fS k n:=by
 refine List.ext_getElem? fun i=>?_;rcases Nat.lt_or_ge i k with hi|hi
 ·simp_all[amq,congrArg]
 grind[dv]
def lZ(a b:List Nat):Nat->Nat
 |0=>0
 |i+1=>(a.getD i 0+b.getD i 0+lZ a b i)/4294967296
def Vb(a b:List Nat)(i:Nat):Nat:=(a.getD i 0+b.getD i 0+lZ a b i) %4294967296
theorem Nk{a b}(ha:Lb a)(hb:Lb b):∀i,lZ a b i<=1
 |0=>by simp[lZ]
 |i+1=>by
  have h1:=dD ha i;have h2:=dD hb i;have h3:=Nk ha hb i;simp only[lZ];omega
def gP(a b:List Nat)(i:Nat):List Nat:=(List.range i).map (Vb a b)
theorem HN(f)(i):ab ((List.range (i+1)).map f)=ab ((List.range i).map f)+4294967296^i*f i:=by
 rw[List.range_succ,List.map_append,gu];simp[ab]
theorem Q4(a b):∀i,ab (gP a b i)+4294967296^i*lZ a b i=ab (a.take i)+ab (b.take i)
 |0=>by simp[gP,lZ,ab]
 |i+1=>by
  have ih:=Q4 a b i;rw[jg a i,jg b i];simp only[gP]at ih⊢;rw[HN,aFJ];have e:lZ a b (i+1)*4294967296+Vb a b i=a.getD i 0+b.getD i 0+lZ a b i:=by
   grind[lZ,Vb]
  grind
theorem tQ(a b)(i):O (gP a b i)=i:=by simp[gP]
def adP(a b)(i):Lb (gP a b i):=fun x hx=>by
 simp only[gP,aFN]at hx;obtain⟨j,_,rfl⟩:=hx;simp only[Vb];omega
theorem amr{a b}(ha:Lb a)(hb:Lb b)(hl:O b<=O a):gP a b (O a)++[lZ a b (O a)]=fS (O a+1) (ab a+ab b):=by
 have h:=Q4 a b (O a);rw[List.take_length,aFi hl]at h;have h1:Lb (gP a b (O a)++[lZ a b (O a)]):=vL.2 ⟨adP _ _ _,mC.2 ⟨by grind[Nk],JV⟩⟩;have h2:ab (gP a b (O a)++[lZ a b (O a)])=ab a+ab b:=by
  grind[gu,tQ,ab]
 have:=K1 h1;grind[tQ]
theorem aaE{α:Type}(l)(n)(x z:α)(h:0<n):(l++aER n z).set (O l) x=(l++[x])++aER (n-1) z:=by
 obtain⟨n,rfl⟩:∃m,n=m+1:=⟨n-1,by omega⟩;grind
def ams{a b}(ha:Lb a)(hb:Lb b)(_hl:O b<=O a)(h2:O a<4611686018427387904):∀k i,i+k=O a->∀s h,s 0=lm a->s 1=lm b->s 5=.rsl 20 none 1 0 (O a+1)->s 6=U (lZ a b i)->
  s 21=lm a->s 22=I (O a)->s 23=I i->h 20=.ar 1 (aS (gP a b i++aER (k+1) 0))->
  ao 0 [0,5,6] (aB (am R (aA false) nE) [0,1,5,6,21,22,23] [20] s h)=
   some (.normal,⟨upd (upd (upd ce 6 (U (lZ a b (O a)))) 5 (.rsl 20 none 1 0 (O a+1))) 0 (lm a),upd (fun _=>.dead) 20 (.ar 1 (aS (gP a b (O a)++[0])))⟩):=by
 intro k;induction k with
 |zero=>
  intro i hi s h h0 h1 h5 h6 h21 h22 h23 hh;have:i=O a:=ω
  subst this;rw[ai];simp only[nE,go_sem,h0,h1,h5,h6,h21,h22,h23,hh,aFC,List.contains_cons,BEq.rfl,Bool.true_or]
 |succ k ih=>
  intro i hi s h h0 h1 h5 h6 h21 h22 h23 hh;have ih':=ih (i+1) ω;have e1:((i:Int)< (O a:Int))=True:=tt ω;have e2:dF (aS a) (i:Int)=some (.ipt [U (a.getD i 0:Nat)]):=dV rfl ω;have e3:aG ((i:Int)+1)=((i+1:Nat):Int):=wi ω ω;have e4:(0<=(i:Int))=True:=tt ω;have e5:((i:Int)< ((O a+1:Nat):Int))=True:=tt ω;have e6:=Q3 (dD ha i) (dD hb i) (Nk ha hb i);have e7:(aS (gP a b i++aER (k+1+1) 0))[i]?=some [U (0:Nat)]:=by
   grind[nF,tQ]
  have e8:(aS (gP a b i++aER (k+1+1) 0)).set i [U ((a.getD i 0+b.getD i 0+lZ a b i) %4294967296:Nat)]=aS (gP a b (i+1)++aER (k+1) 0):=by
   rw[so];grind[lZ,Vb,gP,List.range_succ]
  rw[ai];by_cases hb':i<O b
  ·have e9:((i:Int)< (O b:Int))=True:=tt ω;have e10:=dV rfl hb';simp only[nE,go_sem,h0,h1,h5,h6,h21,h22,h23,hh,List.contains_cons,BEq.rfl,Bool.true_or,e1,e2,e3,e4,e5,e6,e7,e8,e9,e10,aEY,aES];apply ih'<;>rfl
  ·have e9:((i:Int)< (O b:Int))=False:=ff ω;have e10:b.getD i 0=0:=γ
   have e6':=Q3 (dD ha i) (y:=0) ω (Nk ha hb i);simp only[aFz]at e6';have e8':(aS (gP a b i++aER (k+1+1) 0)).set i [U ((a.getD i 0+0+lZ a b i) %4294967296:Nat)]=aS (gP a b (i+1)++aER (k+1) 0):=by
    grind
   simp only[nE,go_sem,h0,h1,h5,h6,h21,h22,h23,hh,List.contains_cons,BEq.rfl,Bool.true_or,e1,e2,e3,e4,e5,e7,e8',e9,aEY,aES,e6'];refine ih' _ _ Z Z Z ?_ Z Z Z Z;simp only[lZ,e10];rfl
def zA{i:Int}{l c:Nat}(hi:i=l)(hj:j=c)(h:l<=c)(hc:c<9223372036854775808):oH (I i) (I j)=some (l,c):=by
 simp only[oH];grind
noncomputable def Q5:Cmd:=.seq (.ops [0,1,5] [cm 17 0,co 18 (.len false (.t 17)),co 19 (.bin .add (.t 18) (.c (I 1))),⟨(some 20),none,.mkSl 1 [(.v (.int .u32 0))] 4 (.t 19) (.t 19)⟩,cm 5 20]) (.seq (.ops [0,1,5,6] [co 6 (.mv (.c (.v (.int .u32 0))))]) (.seq (.seq (.ops [0,1,5,6,21,22,23] [cm 21 0,co 22 (.len false (.t 21)),co 23 (.mv (.c (I 0)))]) (.block 0 [0,5,6] (.loop [0,1,5,6,21,22,23] [20] nE))) (.seq (.ops [5] [cm 47 5,cm 48 0,co 49 (.len false (.t 48)),cm 50 6,co 51 (.iadrS 1 (.t 47) (.t 49)),⟨none,none,.store 1 (.t 51) (.t 50)⟩]) (.seq (.ops [4] [cm 52 5,cm 4 52]) (.ret)))))
def aaF{a b}(ha:Lb a)(hb:Lb b)(hl:O b<=O a)(h2:O a<=100000):∀s,s 0=lm a->s 1=lm b->
  am R (aA false) Q5 s (fun _=>.dead)=some (.ret,⟨upd ce 4 (.rsl 20 none 1 0 (O a+1)),upd (upd (fun _=>.dead) 20 (.ar 1 (aS (gP a b (O a)++[0])))) 20 (.ar 1 (aS (fS (O a+1) (ab a+ab b))))⟩):=by
 intro s h0 h1;have e1:aG (O a+1)=(O a+1:Nat):=wi ω ω;have e2:=zA (i:=(O a+1:Nat)) (j:=(O a+1:Nat)) (l:=O a+1) (c:=O a+1) Z Z (aET _) ω;have e3:((O a+1)*4<=140737488355328)=True:=tt ω;have e4:=ams ha hb hl ω (O a) 0 ω;have e5:aS (aER (O a+1) 0)=aS (gP a b 0++aER (O a+1) 0):=rfl;have e6:(0<=(O a:Int))=True:=tt ω;have e7:(O a< ((O a+1:Nat):Int))=True:=tt ω;have e8:(aS (gP a b (O a)++[0]))[O a]?=some [U 0]:=by
  grind[nF,tQ]
 have e9:(aS (gP a b (O a)++[0])).set (O a) [U (lZ a b (O a))]=aS (fS (O a+1) (ab a+ab b)):=by
  rw[so]
  simp_all[tQ,aER,Nat.sub_self,List.replicate_zero,aE8,amr]
 simp only[Q5,go_sem,h0,h1,e1,e2,e3,GW,e5];rw[e4 _ _ Z Z Z Z Z Z Z Z];simp only[go_sem,e6,e7,e8,e9,aEY,aES]
theorem aaG:Mc=.seq (.ops [0,1] [co 4 (.mv (.c .emp))]) (.seq (.seq (.ops [0,1,14] [cm 10 0,co 11 (.len false (.t 10)),cm 12 1,co 13 (.len false (.t 12)),co 14 (.bin .lss (.t 11) (.t 13))]) (.cond (.t 14) (.ops [0,1] [cm 15 1,cm 16 0,cm 0 15,cm 1 16]) (.skip))) Q5):=rfl
theorem aaH{a b}(ha:Lb a)(hb:Lb b)(h1:O a<=100000)(h2:O b<=100000):R 322 [lm a,lm b] []=some (lm (fS (max (O a) (O b)+1) (ab a+ab b)),[]):=by
 refine au Yo ?_;by_cases h:O a<O b
 ·have e1:(O a< (O b:Int))=True:=tt ω;have e2:=aaF hb ha ω h2;simp only[Al,aaG,go_sem,e1];rw[e2 _ Z Z];simp only[go_sem,dv,aES,aET];grind
 ·have e1:(O a< (O b:Int))=False:=ff ω;have e2:=aaF ha hb ω h1;simp only[Al,aaG,go_sem,e1];rw[e2 _ Z Z];simp only[go_sem,dv,aES,aET];grind
theorem aaI{a b}(ha:Lb a)(hb:Lb b)(h1:O a<=256)(h2:O b<=256):R 291 [lm a,lm b] []=some (lq (ab a+ab b),[]):=by
 refine au Yj ?_;have e1:(256<O a)=False:=ff ω;have e2:(256<O b)=False:=ff ω;have e3:ab (fS (max (O a) (O b)+1) (ab a+ab b))=ab a+ab b:=by
  rw[po,aFG];have h1:=ft ha;have h2:=ft hb;have h3:4294967296^O a<=4294967296^max (O a) (O b):=aFu ω ω;have h4:4294967296^O b<=4294967296^max (O a) (O b):=aFu ω ω;omega
 have e4:=GX (qT (max (O a) (O b)+1) (ab a+ab b)) (by grind[dv]);rw[e3]at e4;unfold lq at e4⊢;by_cases hl:256< O (ax (ab a+ab b))
 ·simp only[hl,if_true]at e4⊢;simp only[Aj,go_sem,e1,e2,tP,aaH ha hb ω ω,e4]
 ·simp only[hl,if_false]at e4⊢;simp only[Aj,go_sem,e1,e2,tP,aaH ha hb ω ω,e4]
def dM(x y:Nat):Int:=if x<y then-1 else if y<x then 1 else 0
theorem GH{x y}(h:O (ax x)< O (ax y)):x<y:=by
 have h1:=fJ x;have hy:y≠0:=by grind[cO]
 have h2:=WD hy;have h3:4294967296^ O (ax x)<=4294967296^ (O (ax y)-1):=aFu ω ω;omega
noncomputable def J5:Cmd:=.seq (.ops [4] [co 4 (.mv (.c (I 0)))]) (.ret)
def amt{a b}(ha:Lb a)(hb:Lb b)(hl:O a=O b)(h2:O a<=100000):∀k,k<=O a->∀s h,s 0=lm a->s 1=lm b->s 5=I (k-1)->
  dx (ao 0 [] (aB (am R (aA false) kH) [0,1,5] [] s h)) (am R (aA false) J5)=some (.ret,⟨upd ce 4 (I (dM (ab (a.take k)) (ab (b.take k)))),fun _=>.dead⟩):=by
 intro k;induction k with
 |zero=>
  intro hk s h h0 h1 h5;rw[ai];have e1:=aP (0<=((0:Nat):Int)-1);have e2:dM (ab []) (ab [])=0:=rfl;simp only[kH,J5,go_sem,h0,h1,h5,e1,e2]
 |succ k ih=>
  intro hk s h h0 h1 h5;have ih':=ih ω;have e1:=aa (0<=((k+1:Nat):Int)-1);have e2:dF (aS a) ((k+1:Nat)-1)=some (.ipt [U (a.getD k 0)]):=dV ω ω;have e3:dF (aS b) ((k+1:Nat)-1)=some (.ipt [U (b.getD k 0)]):=dV ω ω;have e4:aG ((k+1:Nat)-1-1)=k-1:=by grind[i64_in]
  have va:=jg a k;have vb:=jg b k;have la:=ft (jy ha k);have lb:=ft (jy hb k);rw[aFm,aFW ω]at la lb;rw[ai];rcases Nat.lt_trichotomy (a.getD k 0) (b.getD k 0)with hlt|heq|hgt
  ·have e5:=aa ((a.getD k 0)< (b.getD k 0:Int));have e6:dM (ab (a.take (k+1))) (ab (b.take (k+1)))=-1:=by
    have:4294967296^k*(a.getD k 0+1)<=4294967296^k*b.getD k 0:=aFV _ hlt;rw[Nat.mul_add]at this;simp only[dM];omega
   simp only[kH,J5,go_sem,h0,h1,h5,e1,e2,e3,e5,e6]
  ·have e5:=aP ((a.getD k 0)< (b.getD k 0:Int));have e7:=aP ((b.getD k 0)< (a.getD k 0:Int));have e6:dM (ab (a.take (k+1))) (ab (b.take (k+1)))=dM (ab (a.take k)) (ab (b.take k)):=by
    grind[dM]
   simp only[kH,go_sem,h0,h1,h5,e1,e2,e3,e5,e6,e7,e4];apply ih'<;>rfl
  ·have e5:=aP ((a.getD k 0)< (b.getD k 0:Int));have e7:=aa ((b.getD k 0)< (a.getD k 0:Int));have e6:dM (ab (a.take (k+1))) (ab (b.take (k+1)))=1:=by
    have:4294967296^k*(b.getD k 0+1)<=4294967296^k*a.getD k 0:=aFV _ hgt;rw[Nat.mul_add]at this;simp only[dM];omega
   simp only[kH,J5,go_sem,h0,h1,h5,e1,e2,e3,e5,e6,e7]
theorem Q6:L9=.seq (.ops [0,1] [co 4 (.mv (.c (I 0)))]) (.seq (.ops [0,1] [cm 6 0,⟨(some 7),none,.call (.c (.fn 252 [] [])) [(.t 6)]⟩,cm 8 1,⟨(some 9),none,.call (.c (.fn 252 [] [])) [(.t 8)]⟩,cm 0 7,cm 1 9]) (.seq (.seq (.ops [0,1,14] [cm 10 0,co 11 (.len false (.t 10)),cm 12 1,co 13 (.len false (.t 12)),co 14 (.bin .neq (.t 11) (.t 13))]) (.cond (.t 14) (.seq (.seq (.ops [19] [cm 15 0,co 16 (.len false (.t 15)),cm 17 1,co 18 (.len false (.t 17)),co 19 (.bin .lss (.t 16) (.t 18))]) (.cond (.t 19) (.seq (.ops [4] [co 4 (.mv (.c (.v (.int .i64 (-1)))))]) (.ret)) (.skip))) (.seq (.ops [4] [co 4 (.mv (.c (I 1)))]) (.ret))) (.skip))) (.seq (.seq (.ops [0,1,5] [cm 20 0,co 21 (.len false (.t 20)),co 22 (.bin .sub (.t 21) (.c (I 1))),cm 5 22]) (.block 0 [] (.loop [0,1,5] [] kH))) J5))):=rfl
theorem eA(m)(h:Lb m):O (ax (ab m))<=O m:=eN (ft h)
theorem tC{a b}(ha:Lb a)(hb:Lb b)(h1:O a<=100000)(h2:O b<=100000):R 222 [lm a,lm b] []=some (I (dM (ab a) (ab b)),[]):=by
 refine au Yb ?_;have la:=eA a ha;rcases Nat.lt_trichotomy (O (ax (ab a))) (O (ax (ab b))) with hlt|heq|hgt
 ·have e1:O (ax (ab a))=(O (ax (ab b)):Int)↔False:=⟨fun h=>by omega,False.elim⟩;have e2:=aa (O (ax (ab a))< (O (ax (ab b)):Int));have e3:dM (ab a) (ab b)=-1:=by grind[dM,GH]
  simp only[uV,Q6,go_sem,cI ha ω,cI hb ω,e1,e2,e3]
 ·have e2:aG (O (ax (ab b))-1)=O (ax (ab b))-1:=by grind[i64_in]
  have e3:=amt (aH (ab a)) (aH (ab b)) heq ω (O (ax (ab a))) (aET _);rw[List.take_length,heq,List.take_length,aJ,aJ]at e3;simp only[uV,Q6,go_sem,cI ha ω,cI hb ω,heq,e2];rw[e3 _ _ Z Z Z];simp only[go_sem]
 ·have e1:O (ax (ab a))=(O (ax (ab b)):Int)↔False:=⟨fun h=>by omega,False.elim⟩;have e2:=aP (O (ax (ab a))< (O (ax (ab b)):Int));have e3:dM (ab a) (ab b)=1:=by
   have:=GH hgt;simp only[dM];omega
  simp only[uV,Q6,go_sem,cI ha ω,cI hb ω,e1,e2,e3]
theorem apF(v:BitVec 32):v.toNat/2147483648=if v.msb=true then 1 else 0:=by
 have h:=v.isLt;grind
def ag6{x y c}(hx:x<4294967296)(hy:y<4294967296)(hc:c<=1)(D)(hD:D.toNat=(x+4294967296-y-c) %4294967296):
  ((~~~(BitVec.ofNat 32 x)&&&BitVec.ofNat 32 y)||| (~~~(BitVec.ofNat 32 x^^^BitVec.ofNat 32 y)&&&D)).toNat/2147483648=if x<y+c then 1 else 0:=by
 grind[apF,BitVec.ofNat,BitVec.msb_eq_decide,BitVec.msb_or,BitVec.msb_and,BitVec.msb_not,BitVec.msb_xor]
theorem ofI(n:Nat):BitVec.ofInt 32 n=BitVec.ofNat 32 n:=σ
theorem azY(v:BitVec 32):IntKind.u32.wrap v.toNat=v.toNat:=by
 have:=v.isLt;grind[IntKind.wrap_u32]
def aaJ{y c:Nat}(hx:x<4294967296)(hy:y<4294967296)(hc:c<=1):R 335 [U x,U y,U c] []=some (.tup [U (((x+4294967296-y-c) %4294967296:Nat)),U ((if x<y+c then 1 else 0:Nat))],[]):=by
 refine au aay ?_;have e1:IntKind.u32.wrap (x-y)=((x+4294967296-y) %4294967296:Nat):=by grind[IntKind.wrap_u32]
 have e2:IntKind.u32.wrap (((x+4294967296-y) %4294967296:Nat)-c)=((x+4294967296-y-c) %4294967296:Nat):=by grind[IntKind.wrap_u32]
 have b:IntKind.u32.bits=32:=rfl;have e3:BitVec.ofInt 32 (if IntKind.u32.signed=true then(-1)else IntKind.u32.max)=BitVec.allOnes 32:=δ
 have e4:∀v,BitVec.allOnes 32^^^v= ~~~v:=fun v=>BitVec.not_def.symm;have e5:∀v,BitVec.ofNat 32 v.toNat=v:=fun v=>by simp
 have key:=ag6 hx hy hc (BitVec.ofNat 32 ((x+4294967296-y-c) %4294967296)) σ;have sh:∀v:BitVec 32,fK .shr (.v (.int .u32 (v.toNat:Int))) (.v (.int .u64 31))=some (.v (.int .u32 ((v.toNat/2147483648:Nat):Int))):=fun v=>by
  simp_all[JJ,av,Option.some.injEq,AV.v.injEq,Value.int.injEq,true_and,Int.fdiv_eq_ediv_of_nonneg]
 simp only[F9,go_sem,e1,e2,ofI,e3,e5,azY,sh];grind
def FC(a b:List Nat):Nat->Nat
 |0=>0
 |i+1=>if a.getD i 0<b.getD i 0+FC a b i then 1 else 0
def aaK(a b:List Nat)(i:Nat):Nat:=(a.getD i 0+4294967296-b.getD i 0-FC a b i) %4294967296
def xY(a b:List Nat)(i:Nat):List Nat:=(List.range i).map (aaK a b)
theorem Ti(a b)(i):FC a b i<=1:=by
 cases i with
 |zero=>simp[FC]
 |succ i=>grind[FC]
def aaL{a b}(ha:Lb a)(hb:Lb b):∀i,ab (xY a b i)+ab (b.take i)=ab (a.take i)+4294967296^i*FC a b i
 |0=>by simp[xY,FC,ab]
 |i+1=>by
  have ih:=aaL ha hb i;rw[jg a i,jg b i];simp only[xY]at ih⊢;rw[HN,aFJ];have h1:=dD ha i;have h2:=dD hb i;have h3:=Ti a b i;have e:aaK a b i+b.getD i 0+FC a b i=a.getD i 0+4294967296*FC a b (i+1):=by
   grind[aaK,FC]
  grind
theorem Js(a b)(i):O (xY a b i)=i:=by simp[xY]
def adQ(a b)(i):Lb (xY a b i):=fun x hx=>by
 simp only[xY,aFN]at hx;obtain⟨j,_,rfl⟩:=hx;simp only[aaK];omega
def amu{a b}(ha:Lb a)(hb:Lb b)(hl:O b<=O a)(hv:ab b<=ab a):xY a b (O a)=fS (O a) (ab a-ab b):=by
 have h:=aaL ha hb (O a);rw[List.take_length,aFi hl]at h;have h1:=ft (adQ a b (O a));rw[Js]at h1;have hz:FC a b (O a)=0:=by
  grind[Ti,Nat.eq_zero_or_pos,FC]
 rw[hz]at h;have h2:=K1 (adQ a b (O a));rw[Js,show ab (xY a b (O a))=ab a-ab b from by omega]at h2;exact h2.symm
def amv{a b}(ha:Lb a)(hb:Lb b)(h2:O a<=100000):∀k i,i+k=O a->∀s h,s 1=lm b->s 5=.rsl 16 none 1 0 (O a)->s 6=U (FC a b i)->
  s 17=lm a->s 18=I (O a)->s 19=I i->h 16=.ar 1 (aS (xY a b i++aER k 0))->
  ao 0 [5] (aB (am R (aA false) rC) [1,5,6,17,18,19] [16] s h)=
   some (.normal,⟨upd ce 5 (.rsl 16 none 1 0 (O a)),upd (fun _=>.dead) 16 (.ar 1 (aS (xY a b (O a))))⟩):=by
 intro k;induction k with
 |zero=>
  intro i hi s h h1 h5 h6 h17 h18 h19 hh;have:i=O a:=ω
  subst this;rw[ai];simp only[rC,go_sem,h1,h5,h6,h17,h18,h19,hh,aFC]
 |succ k ih=>
  intro i hi s h h1 h5 h6 h17 h18 h19 hh;have ih':=ih (i+1) ω;have e1:=aa (i< (O a:Int));have e2:dF (aS a) (i:Int)=some (.ipt [U (a.getD i 0:Nat)]):=dV rfl ω;have e3:aG ((i:Int)+1)=((i+1:Nat):Int):=wi;have e4:=aa (0<=(i:Int));have e7:(aS (xY a b i++aER (k+1) 0))[i]?=some [U (0:Nat)]:=by
   grind[nF,Js]
  have e8:(aS (xY a b i++aER (k+1) 0)).set i [U ((a.getD i 0+4294967296-b.getD i 0-FC a b i) %4294967296:Nat)]=aS (xY a b (i+1)++aER k 0):=by
   rw[so];grind[FC,aaK,xY,List.range_succ]
  rw[ai];by_cases hb':i<O b
  ·have e6:=aaJ (dD ha i) (dD hb i) (Ti a b i);have e9:=aa ((i:Int)< (O b:Int));have e10:=dV rfl hb';simp only[rC,go_sem,h1,h5,h6,h17,h18,h19,hh,e1,e2,e3,e4,e6,e7,e8,e9,e10,aEY,aES];apply ih'<;>rfl
  ·have e9:=aP ((i:Int)< (O b:Int));have e10:b.getD i 0=0:=γ
   have e6':=aaJ (dD ha i) (y:=0) ω (Ti a b i);simp only[aFz]at e6';have e8':(aS (xY a b i++aER (k+1) 0)).set i [U ((a.getD i 0+4294967296-0-FC a b i) %4294967296:Nat)]=aS (xY a b (i+1)++aER k 0):=by
    grind
   simp only[rC,go_sem,h1,h5,h6,h17,h18,h19,hh,e1,e2,e3,e4,e6',e7,e8',e9,aEY,aES];refine ih' _ _ Z Z ?_ Z Z Z Z;simp only[FC,e10,aES];rfl
theorem ajh{a b}(ha:Lb a)(hb:Lb b)(h1:O a<=100000)(h2:O b<=100000)(hv:ab b<=ab a):R 325 [lm a,lm b] []=some (lm (fS (O (ax (ab a))) (ab a-ab b)),[]):=by
 refine au Yq ?_;have la:=eA a ha;have lb:O (ax (ab b))<=O (ax (ab a)):=by
  rcases Nat.lt_or_ge (O (ax (ab a))) (O (ax (ab b))) with h|h
  ·have:=GH h;omega
  omega
 have e2:=zA (i:=O (ax (ab a))) (j:=O (ax (ab a))) Z Z (aET _) ω;have e3:=aa (O (ax (ab a))*4<=140737488355328);have e4:=amv (aH (ab a)) (aH (ab b)) ω (O (ax (ab a))) 0 ω;have e5:aS (aER (O (ax (ab a))) 0)=aS (xY (ax (ab a)) (ax (ab b)) 0++aER (O (ax (ab a))) 0):=rfl;have e6:=amu (aH (ab a)) (aH (ab b)) lb (by grind[aJ]);rw[aJ,aJ]at e6;simp only[Em,Md,go_sem,cI ha ω,cI hb ω,e2,e3,GW,e5];rw[e4 _ _ Z Z Z Z Z Z Z];simp only[go_sem,e6,dv,aES,aET]
theorem Tj{a b}(ha:Lb a)(hb:Lb b)(h1:O a<=256)(h2:O b<=256):R 292 [lm a,lm b] []=some (if ab a<ab b then .tup [lm [],I 2]else lq (ab a-ab b),[]):=by
 refine au Yk ?_;have e1:=aP (256<O a);have e2:=aP (256<O b);by_cases hv:ab a<ab b
 ·have e3:dM (ab a) (ab b)=-1:=by grind[dM]
  simp only[ve,go_sem,aEN,e1,e2,tP,tC ha hb ω ω,e3,hv]
 ·have e3:(dM (ab a) (ab b)<0)=False:=ff (by grind[dM]);have e5:ab (fS (O (ax (ab a))) (ab a-ab b))=ab a-ab b:=by
   rw[po,aFG];grind[fJ,ab]
  have e4:=GX (qT (O (ax (ab a))) (ab a-ab b)) (by grind[dv,eA]);rw[e5]at e4;unfold lq at e4⊢;by_cases hl:256< O (ax (ab a-ab b))
  ·simp only[hl,if_true]at e4⊢;simp only[ve,go_sem,e1,e2,tP,tC ha hb ω ω,e3,hv,ajh ha hb ω ω ω,e4]
  ·simp only[hl,if_false]at e4⊢;simp only[ve,go_sem,e1,e2,tP,tC ha hb ω ω,e3,hv,ajh ha hb ω ω ω,e4]
def mi(x:Nat):Nat->List Nat->List Nat->List Nat×Nat
 |c,y::bs,o::s=>(((x*y+o+c) %4294967296)::(mi x ((x*y+o+c)/4294967296) bs s).1,(mi x ((x*y+o+c)/4294967296) bs s).2)
 |c,_,s=>(s,c)
theorem aji(x):∀bs s r c,O bs<=O s->mi x c bs (s++r)=((mi x c bs s).1++r,(mi x c bs s).2)
 |[],s,r,c,_=>by simp[mi]
 |y::bs,[],r,c,h=>by grind
 |y::bs,o::s,r,c,h=>by
  have ih:=aji x bs s r ((x*y+o+c)/4294967296) (by simpa using h);simp only[aFb,mi,ih]
theorem Nl(x):∀bs s c,(mi x c bs s).1.length=O s
 |[],s,c=>by simp[mi]
 |y::bs,[],c=>by simp[mi]
 |y::bs,o::s,c=>by simp[mi,Nl x bs s]
def aoM(x):∀bs s c,Lb s->Lb (mi x c bs s).1
 |[],s,c,h=>by grind[mi]
 |y::bs,[],c,h=>by grind[mi]
 |y::bs,o::s,c,h=>by
  exact mC.2 ⟨by omega,aoM x bs s _ (mC.1 h).2⟩
def ajj{x y o c}(hx:x<4294967296)(hy:y<4294967296)(ho:o<4294967296)(hc:c<4294967296):x*y+o+c<18446744073709551616:=by
 have:x*y<=4294967295*4294967295:=Nat.mul_le_mul ω ω;omega
def Q7{x}(hx:x<4294967296):∀bs s c,Lb bs->Lb s->c<4294967296->(mi x c bs s).2<4294967296
 |[],s,c,_,_,hc=>by grind[mi]
 |y::bs,[],c,_,_,hc=>by grind[mi]
 |y::bs,o::s,c,hb,hs,hc=>by
  have:=ajj hx (mC.1 hb).1 (mC.1 hs).1 hc;exact Q7 hx bs s _ (mC.1 hb).2 (mC.1 hs).2 ω
def ajk(x):∀bs s c,O bs=O s->ab (mi x c bs s).1+4294967296^O s*(mi x c bs s).2=ab s+x*ab bs+c
 |[],[],c,_=>by simp[mi,ab]
 |[],o::s,c,h=>by grind
 |y::bs,[],c,h=>by grind
 |y::bs,o::s,c,h=>by
  have ih:=ajk x bs s ((x*y+o+c)/4294967296) γ;simp only[mi,ab,aFk,aFJ];grind
def ag7{a b}(hb:Lb b){i n:Nat}(hx:x<4294967296)(h2:O b<=100000)(hi:i<=100000):∀bs k D S (c:Nat),b.drop k=bs->k<=O b->O D=i+k->O bs<=O S->O (D++S)=n->Lb S->c<4294967296->
  ∀s h,s 18=lm a->s 19=I (O a)->s 20=I i->s 1=lm b->s 5=.rsl 17 none 1 0 n->s 6=I i->s 7=U x->s 8=W c->s 25=lm b->s 26=I (O b)->s 27=I k->h 17=.ar 1 (aS (D++S))->
  ao 2 [1,5,6,8,18,19,20] (aB (am R (aA false) ry) [1,5,6,7,8,18,19,20,25,26,27] [17] s h)=
   some (.normal,⟨upd (upd (upd (upd (upd (upd (upd ce 20 (I i)) 19 (I (O a))) 18 (lm a)) 8 (W (mi x c bs S).2)) 6 (I i)) 5 (.rsl 17 none 1 0 n)) 1 (lm b),upd (fun _=>.dead) 17 (.ar 1 (aS (D++(mi x c bs S).1)))⟩):=by
 intro bs;induction bs with
 |nil=>
  intro k D S c hd hk hD hS hn hLS hc s h h18 h19 h20 h1 h5 h6 h7 h8 h25 h26 h27 hh;have:k=O b:=by
   grind
  subst this;rw[ai];simp only[ry,go_sem,h18,h19,h20,h1,h5,h6,h7,h8,h25,h26,h27,hh,aFC,mi]
 |cons y bs ih=>
  intro k D S c hd hk hD hS hn hLS hc s h h18 h19 h20 h1 h5 h6 h7 h8 h25 h26 h27 hh;obtain⟨o,S,rfl⟩:∃o S',S=o::S':=by
   cases S with
   |nil=>grind
   |cons o S=>grind
  have hlt:k<O b:=by
   grind
  have hy:b.getD k 0=y:=by
   have:=congrArg (·[0]?) hd;grind
  have hyb:y<4294967296:=by grind[dD]
  have hob:=(mC.1 hLS).1;have hml:=ajj hx hyb hob hc;have hxy:x*y<18446744073709551616:=ω
  have ih':=ih (k+1) (D++[(x*y+o+c) %4294967296]) S ((x*y+o+c)/4294967296) (by rw[←List.drop_drop,hd];rfl) hlt γ γ γ (mC.1 hLS).2 ω;have e1:=aa ((k:Int)< (O b:Int));have e2:dF (aS b) (k:Int)=some (.ipt [U (y:Nat)]):=by grind[dV]
  have e3:aG ((k:Int)+1)=((k+1:Nat):Int):=wi;have e4:aG ((i:Int)+(k:Int))=((i+k:Nat):Int):=wi;have e5:=aa (0<=((i+k:Nat):Int));have hin:i+k<n:=γ
  have e6:=aa (((i+k:Nat):Int)< (n:Int));have e7:(aS (D++o::S))[i+k]?=some [U (o:Nat)]:=by
   grind[nF]
  have f1:IntKind.u64.wrap (x:Int)=x:=iH rfl ω;have f2:IntKind.u64.wrap (y:Int)=y:=iH rfl ω;have f3:IntKind.u64.wrap ((x:Int)*(y:Int))=((x*y:Nat):Int):=iH σ hxy;have f4:IntKind.u64.wrap (o:Int)=o:=iH rfl ω;have f5:IntKind.u64.wrap (((x*y:Nat):Int)+(o:Int))=((x*y+o:Nat):Int):=iH ω ω;have f6:IntKind.u64.wrap (((x*y+o:Nat):Int)+(c:Int))=((x*y+o+c:Nat):Int):=iH ω ω;have f7:IntKind.u32.wrap ((x*y+o+c:Nat):Int)=(((x*y+o+c) %4294967296:Nat):Int):=Li rfl;have f8:=Fb (n:=x*y+o+c) (k:=32) (kk:=.u64) (j:=32) Z Z ω;have f9:(aS (D++o::S)).set (i+k) [U ((x*y+o+c) %4294967296:Nat)]=aS (D++[(x*y+o+c) %4294967296]++S):=by
   rw[so,←hD,List.set_append_right _ _ (aET _)];simp
  rw[ai];generalize aB _ _ _=L at ih'⊢;simp only[ry,go_sem,h18,h19,h20,h1,h5,h6,h7,h8,h25,h26,h27,hh,e1,e2,e3,e4,e5,e6,e7,f1,f2,f3,f4,f5,f6,f7,f8,f9,aEY,aES,mi];rw[ih' _ _ Z Z Z Z Z Z Z Z Z Z Z Z];grind
def fT(a b:List Nat)(i:Nat):List Nat:=fS (i+O b) (ab (a.take i)*ab b)
def ajl{a b}(ha:Lb a)(hb:Lb b){i}(hi:i<O a):
  (fT a b i).take i++((mi (a.getD i 0) 0 b ((fT a b i).drop i)).1++[(mi (a.getD i 0) 0 b ((fT a b i).drop i)).2])=fT a b (i+1):=by
 have hx:=dD ha i;have hP:O (fT a b i)=i+O b:=dv _ _;have hLP:Lb (fT a b i):=qT _ _;have hS:O ((fT a b i).drop i)=O b:=γ
 have h1:=ajk (a.getD i 0) b ((fT a b i).drop i) 0 hS.symm;have h2:=Q7 hx b ((fT a b i).drop i) 0 hb (sk hLP i) ω;have h3:=aoM (a.getD i 0) b ((fT a b i).drop i) 0 (sk hLP i);have h4:=Nl (a.getD i 0) b ((fT a b i).drop i) 0;have Ku:ab (fT a b i)=ab (a.take i)*ab b:=by
  unfold fT;rw[po,aFG];have e1:=ft (jy ha i);have e2:=ft hb;rw[aFm,aFW ω]at e1
  simp_all[aE2,Nat.mul_lt_mul'']
 have hsplit:ab (fT a b i)=ab ((fT a b i).take i)+4294967296^i*ab ((fT a b i).drop i):=by
  grind[List.take_append_drop,fT,gu,aFm,aFW]
 have hLb:=
  vL.2 ⟨jy hLP i,vL.2 ⟨h3,mC.2 ⟨h2,JV⟩⟩⟩
 have hval:ab ((fT a b i).take i++((mi (a.getD i 0) 0 b ((fT a b i).drop i)).1++[(mi (a.getD i 0) 0 b ((fT a b i).drop i)).2]))=ab (a.take (i+1))*ab b:=by
  rw[gu,gu,aFm,hP,aFW ω,h4,jg a i,aFf,←Ku,hsplit];simp only[ab,Nat.mul_zero,aFA]at h1⊢;grind
 have hlen:O ((fT a b i).take i++((mi (a.getD i 0) 0 b ((fT a b i).drop i)).1++[(mi (a.getD i 0) 0 b ((fT a b i).drop i)).2]))=i+1+O b:=by
  grind
 have:=K1 hLb;rw[hlen,hval]at this;exact this.symm
def amw{a b}(ha:Lb a)(hb:Lb b)(h1:O a<=100000)(h2:O b<=100000):∀k i,i+k=O a->∀s h,s 1=lm b->s 5=.rsl 17 none 1 0 (O a+O b)->
  s 18=lm a->s 19=I (O a)->s 20=I i->h 17=.ar 1 (aS (fT a b i++aER k 0))->
  ao 0 [5] (aB (am R (aA false) wu) [1,5,18,19,20] [17] s h)=
   some (.normal,⟨upd ce 5 (.rsl 17 none 1 0 (O a+O b)),upd (fun _=>.dead) 17 (.ar 1 (aS (fT a b (O a))))⟩):=by
 intro k;induction k with
 |zero=>
  intro i hi s h h1 h5 h18 h19 h20 hh;have:i=O a:=ω
  subst this;rw[ai];simp only[wu,go_sem,h1,h5,h18,h19,h20,hh,aFC]
 |succ k ih=>
  intro i hi s h g1 h5 h18 h19 h20 hh;have ih':=ih (i+1) ω;have hx:=dD ha i;have hP:O (fT a b i)=i+O b:=dv _ _;have hLP:Lb (fT a b i):=qT _ _;have hsp:fT a b i++aER (k+1) 0=(fT a b i).take i++((fT a b i).drop i++aER (k+1) 0):=by rw[←aFO,List.take_append_drop]
  have e1:=aa (i< (O a:Int));have e2:dF (aS a) i=some (.ipt [U (a.getD i 0:Nat)]):=dV rfl ω;have e3:aG ((i:Int)+1)=((i+1:Nat):Int):=wi;have e4:aG ((i:Int)+(O b:Int))=((i+O b:Nat):Int):=wi;have e5:=aa (0<=((i+O b:Nat):Int));have e6:=aa (((i+O b:Nat):Int)< ((O a+O b:Nat):Int));have lp:=ag7 (a:=a) hb (x:=a.getD i 0) (i:=i) (n:=O a+O b) hx h2 ω b 0 ((fT a b i).take i) ((fT a b i).drop i++aER (k+1) 0) 0 rfl (aE9 _) γ γ γ
   (vL.2 ⟨sk hLP i,fun y hy=>by grind⟩) ω
  rw[aji _ _ _ _ _ γ]at lp;have ml:(mi (a.getD i 0) 0 b ((fT a b i).drop i)).1.length=O b:=by grind[Nl]
  have mc:=Q7 hx b ((fT a b i).drop i) 0 hb (sk hLP i) ω;have ps:=ajl ha hb (show i<O a from by omega);rw[hsp]at hh;generalize mi (a.getD i 0) 0 b ((fT a b i).drop i)=r at*
  have f1:=WF rfl mc;have e7:(aS ((fT a b i).take i++(r.1++aER (k+1) 0)))[i+O b]?=some [U (0:Nat)]:=by
   grind[aFO,nF]
  have e8:(aS ((fT a b i).take i++(r.1++aER (k+1) 0))).set (i+O b) [U (r.2:Nat)]=aS (fT a b (i+1)++aER k 0):=by
   grind[aFO,so,aaE,fT]
  rw[ai];generalize aB _ _ _=L at ih'⊢;simp only[wu,go_sem,g1,h5,h18,h19,h20,hh,e1,e2];rw[lp _ _ Z Z Z Z Z Z Z Z Z Z Z Z];simp only[go_sem,e3,e4,e5,e6,e7,e8,f1,aEY,aES];apply ih'<;>rfl
def asB{a b}(ha:Lb a)(hb:Lb b)(h1:O a<=100000)(h2:O b<=100000):R 251 [lm a,lm b] []=some (lm (fS (O a+O b) (ab a*ab b)),[]):=by
 refine au Ye ?_;have e1:aG (O a+O b)=(O a+O b:Nat):=wi;have e2:=zA (i:=(O a+O b:Nat)) (j:=(O a+O b:Nat)) Z Z (aET _) ω;have e3:=aa ((O a+O b)*4<=140737488355328);have e4:=amw ha hb h1 h2 (O a) 0 ω;have e0:fT a b 0=aER (O b) 0:=by
  have:∀n,fS n 0=aER n 0:=fun n=>by
   induction n with
   |zero=>rfl
   |succ n ih=>simp[fS,ih,List.replicate_succ]
  grind[fT,ab]
 have e5:aS (aER (O a+O b) 0)=aS (fT a b 0++aER (O a) 0):=by
  rw[e0,List.replicate_append_replicate,Nat.add_comm]
 have e6:fT a b (O a)=fS (O a+O b) (ab a*ab b):=by rw[fT,List.take_length]
 simp only[Ei,Ma,go_sem,e1,e2,e3,GW,e5];rw[e4 _ _ Z Z Z Z Z Z];simp only[go_sem,e6,dv,aES,aET]
def J6{a b}(ha:Lb a)(hb:Lb b)(h1:O a<=256)(h2:O b<=256):R 191 [lm a,lm b] []=some (lq (ab a*ab b),[]):=by
 refine au X7 ?_;have e1:=aP (256<O a);have e2:=aP (256<O b);have la:=eA a ha;have lb:=eA b hb;have e3:=asB (aH (ab a)) (aH (ab b)) ω ω;rw[aJ,aJ]at e3;have e4:=GX (qT (O (ax (ab a))+O (ax (ab b))) (ab a*ab b)) (by grind[dv]);rw[po,aFG (by simp_all[aE2,Nat.mul_lt_mul'',fJ])]at e4;unfold lq at e4⊢;by_cases hl:256< O (ax (ab a*ab b))
 ·simp only[hl,if_true]at e4⊢;simp only[Ad,go_sem,e1,e2,tP,cI ha ω,cI hb ω,e3,e4]
 ·simp only[hl,if_false]at e4⊢;simp only[Ad,go_sem,e1,e2,tP,cI ha ω,cI hb ω,e3,e4]
def adR{i:Int}(hi:i=n)(hj:j=m)(hm:m≠0):fK .rem (.v (.int .i64 i)) (.v (.int .i64 j))=some (.v (.int .i64 (n%m:Nat))):=by
 simp_all[JI,av,Int.tmod_eq_emod_of_nonneg]
def Vc{i:Int}(hi:i=n)(hj:j=m)(hm:m≠0)(hn:n<9223372036854775808):fK .quo (.v (.int .i64 i)) (.v (.int .i64 j))=some (.v (.int .i64 (n/m:Nat))):=by
 rw[Uv,av ω,Int.tdiv_eq_ediv_of_nonneg ω];have:n/m<=n:=aF1 _ _;grind[wi]
def Oy{k:Nat}{i:Int}{kk}(hi:i=n)(hj:j=k)(hk:k<=64)(h:n*2^k<18446744073709551616):fK .shl (.v (.int .u64 i)) (.v (.int kk j))=some (.v (.int .u64 (n*2^k:Nat))):=by
 subst hi hj;rw[Ov,av ω];have:min (k:Int).toNat IntKind.u64.bits=k:=by grind[IntKind.bits]
 rw[this,iH (n:=n*2^k) σ h]
def aaM{i:Int}(hi:i=m)(hj:j=n)(hm:m<18446744073709551616)(hn:n<18446744073709551616):fK .or (.v (.int .u64 i)) (.v (.int .u64 j))=some (.v (.int .u64 (m|||n))):=by
 subst hi hj;rw[SB];have e:(BitVec.ofInt IntKind.u64.bits m|||BitVec.ofInt IntKind.u64.bits n).toNat=m|||n:=by
  show(BitVec.ofInt 64 m|||BitVec.ofInt 64 n).toNat=m|||n
  grind
 rw[e];rw[iH rfl (Nat.or_lt_two_pow (n:=64) hm hn)]
theorem Nm{x c k}(hc:c<2^k):x*2^k|||c=x*2^k+c:=by
 have:=Nat.shiftLeft_add_eq_or_of_lt hc x;grind[Nat.shiftLeft_eq]
def vA(a:List Nat)(r:Nat):Nat->Nat
 |0=>0
 |i+1=>(a.getD i 0*2^r+vA a r i)/4294967296
def Cp(a:List Nat)(r i:Nat):List Nat:=(List.range i).map fun j=>(a.getD j 0*2^r+vA a r j) %4294967296
def Tk{a}(ha:Lb a){r}:∀i,vA a r i<2^r
 |0=>by grind[vA,aE7]
 |i+1=>by
  have ih:=Tk ha (r:=r) i;have:=dD ha i;simp only[vA];have h1:a.getD i 0*2^r+2^r<=4294967296*2^r:=by
   rw[←Nat.succ_mul];exact aE4 _ ω
  omega
theorem GI(a)(r i):O (Cp a r i)=i:=by simp[Cp]
def asC(a)(r i):Lb (Cp a r i):=fun x hx=>by
 simp only[Cp,aFN]at hx;omega
def adS(a)(r):∀i,ab (Cp a r i)+4294967296^i*vA a r i=ab (a.take i)*2^r
 |0=>by simp[Cp,vA,ab]
 |i+1=>by
  have ih:=adS a r i;rw[jg a i];simp only[Cp]at ih⊢;rw[HN,aFJ];have e:vA a r (i+1)*4294967296+(a.getD i 0*2^r+vA a r i) %4294967296=a.getD i 0*2^r+vA a r i:=by
   grind[vA]
  grind
def amx{a}(ha:Lb a){n q}(h1:O a<=100000)(hq:q<=100000):∀k i,i+k=O a->∀s h,s 1=I (n:Nat)->s 5=.rsl 20 none 1 0 (q+i)->s 6=W (vA a (n%32) i)->s 21=lm a->s 22=I (O a)->s 23=I i->
  h 20=.ar 1 (aS (aER q 0++Cp a (n%32) i))->h 38=.dead->
  ao 0 [5,6] (aB (am R (aA false) wB) [1,5,6,21,22,23] [20,38] s h)=
   some (.normal,⟨upd (upd ce 6 (W (vA a (n%32) (O a)))) 5 (.rsl 20 none 1 0 (q+O a)),upd (upd (fun _=>.dead) 38 .dead) 20 (.ar 1 (aS (aER q 0++Cp a (n%32) (O a))))⟩):=by
 intro k;induction k with
 |zero=>
  intro i hi s h g1 h5 h6 h21 h22 h23 hh hh2;have:i=O a:=ω
  subst this;rw[ai];simp only[wB,go_sem,g1,h5,h6,h21,h22,h23,hh,hh2,aFC]
 |succ k ih=>
  intro i hi s h g1 h5 h6 h21 h22 h23 hh hh2;have ih':=ih (i+1) ω;have hx:=dD ha i;have hc:=Tk ha (r:=n%32) i;have hp:2^ (n%32)<=2^31:=aFu ω ω;have hxp:a.getD i 0*2^ (n%32)<=4294967295*2^31:=Nat.mul_le_mul ω hp;have e1:=aa (i< (O a:Int));have e2:dF (aS a) i=some (.ipt [U (a.getD i 0)]):=dV rfl ω;have e3:aG (i+1)=(i+1:Nat):=wi;have e4:IntKind.u64.wrap (a.getD i 0)=(a.getD i 0):=iH rfl ω;have e5:=adR (n:=n) (m:=32) (j:=32) Z Z ω;have e6:=Oy (n:=a.getD i 0) (k:=n%32) (kk:=.i64) Z Z ω ω;have e7:=aaM (m:=a.getD i 0*2^ (n%32)) (n:=vA a (n%32) i) Z Z ω ω;rw[Nm hc]at e7;have e8:IntKind.u32.wrap (a.getD i 0*2^ (n%32)+vA a (n%32) i:Nat)=((a.getD i 0*2^ (n%32)+vA a (n%32) i) %4294967296):=Li rfl;have e9:=Fb (n:=a.getD i 0*2^ (n%32)+vA a (n%32) i) (k:=32) (kk:=.u64) (j:=32) Z Z ω;have f1:aS (aER q 0++Cp a (n%32) i)++[[U ((a.getD i 0*2^ (n%32)+vA a (n%32) i) %4294967296)]]=aS (aER q 0++Cp a (n%32) (i+1)):=by
   simp_all[U,vA,aS,Th,aFO,Cp,List.range_succ]
  have f2:(q+i=O (aER q 0++Cp a (n%32) i))=True:=tt (by simp[GI]);have f3:=aa ((q+i+1)*4<=140737488355328);rw[ai];simp only[wB,go_sem,g1,h5,h6,h21,h22,h23,hh,hh2,e1,e2,e3,e4,e5,e6,e7,e8,e9,f1,f2,f3,true_or,aES,aET];apply ih'<;>rfl
theorem Nn(n):4294967296^ (n/32)*2^ (n%32)=2^n:=by
 rw[show 4294967296=2^32 from rfl,←Nat.pow_mul,←aE2];grind
def apG{a}(ha:Lb a)(n):aER (n/32) 0++Cp a (n%32) (O a)++[vA a (n%32) (O a)]=fS (n/32+O a+1) (ab a*2^n):=by
 have hc:=Tk ha (r:=n%32) (O a);have hp:2^ (n%32)<=2^31:=aFu ω ω;have h:=adS a (n%32) (O a);have hLb:Lb (aER (n/32) 0++Cp a (n%32) (O a)++[vA a (n%32) (O a)]):=
  vL.2 ⟨vL.2 ⟨fun y hy=>by grind,asC _ _ _⟩,mC.2 ⟨by omega,JV⟩⟩
 have hv:ab (aER (n/32) 0++Cp a (n%32) (O a)++[vA a (n%32) (O a)])=ab a*2^n:=by
  rw[aFO,gu,WC,gu,GI,aFU];simp only[ab,Nat.mul_zero,aFA,aES];grind[Nn,Nat.mul_left_comm]
 have:=K1 hLb;grind[GI]
theorem No{a}(ha:Lb a)(h1:O a<=100000)(hn:n<=65536):R 308 [lm a,I n] []=some (.osl 1 (aS (fS (n/32+O (ax (ab a))+1) (ab a*2^n))),[]):=by
 refine au Yl ?_;have la:=eA a ha;have hc:=Tk (aH (ab a)) (r:=n%32) (O (ax (ab a)));have hp:2^ (n%32)<=2^31:=aFu ω ω;have e1:=Vc (n:=n) (m:=32) (j:=32) Z Z ω ω;have e2:aG ((n/32:Nat)+O (ax (ab a)))=(n/32+O (ax (ab a)):Nat):=wi;have e3:aG ((n/32+O (ax (ab a)):Nat)+1)=(n/32+O (ax (ab a))+1:Nat):=wi;have e4:=zA (i:=(n/32:Nat)) (j:=(n/32+O (ax (ab a))+1:Nat)) Z Z ω ω;have e5:=aa ((n/32+O (ax (ab a))+1)*4<=140737488355328);have e6:=amx (aH (ab a)) (n:=n) (q:=n/32) ω ω (O (ax (ab a))) 0 ω;have e7:aS (aER (n/32) 0)=aS (aER (n/32) 0++Cp (ax (ab a)) (n%32) 0):=by simp[Cp]
 have e8:IntKind.u32.wrap (vA (ax (ab a)) (n%32) (O (ax (ab a))))=(vA (ax (ab a)) (n%32) (O (ax (ab a)))):=WF rfl ω;have f1:aS (aER (n/32) 0++Cp (ax (ab a)) (n%32) (O (ax (ab a))))++[[U (vA (ax (ab a)) (n%32) (O (ax (ab a))))]]=aS (fS (n/32+O (ax (ab a))+1) (ab a*2^n)):=by
  have:=apG (aH (ab a)) n;rw[aJ]at this;rw[←this,show [[U (vA (ax (ab a)) (n%32) (O (ax (ab a))))]]=aS [vA (ax (ab a)) (n%32) (O (ax (ab a)))]from rfl,Th]
 have f2:(n/32+O (ax (ab a))=O (aER (n/32) 0++Cp (ax (ab a)) (n%32) (O (ax (ab a)))))=True:=tt (by simp[GI]);simp only[El,Mb,go_sem,cI ha ω,e1,e2,e3,e4,e5,GW,e7];rw[e6 _ _ Z Z Z Z Z Z Z Z];simp only[go_sem,e8,f1,f2,e5,true_or,aES,aET,dv]
def aaN{a}(ha:Lb a){n}(h1:O a<=256):R 274 [lm a,I n] []=some (if n<0\/65536<n then .tup [lm [],I 2]else lq (ab a*2^n.toNat),[]):=by
 refine au Yh ?_;have e1:=aP (256<O a);by_cases hn:n<0
 ·simp only[qR,go_sem,e1,tO,hn,true_or]
 by_cases hn2:65536<n
 ·simp only[qR,go_sem,e1,tO,hn,hn2,or_true]
 obtain⟨m,rfl⟩:=aFy (show 0<=n by omega);have la:=eA a ha;have e3:ab (fS (m/32+O (ax (ab a))+1) (ab a*2^m))=ab a*2^m:=by
  rw[po,aFG];have h:=fJ (ab a);have h2:2^m<=4294967296^ (m/32+1):=by
   rw[show 4294967296=2^32 from rfl,←Nat.pow_mul];exact aFu ω ω
  rw[show m/32+O (ax (ab a))+1=O (ax (ab a))+(m/32+1)from by omega,aE2]
  simp_all[Nat.mul_lt_mul_of_lt_of_le,Nat.pow_pos]
 have e4:=GX (qT (m/32+O (ax (ab a))+1) (ab a*2^m)) (by grind[dv]);rw[e3]at e4;have e5:(aS (fS (m/32+O (ax (ab a))+1) (ab a*2^m))).take (O (fS (m/32+O (ax (ab a))+1) (ab a*2^m)))=aS (fS (m/32+O (ax (ab a))+1) (ab a*2^m)):=aFi (by simp_all[wH,aET]);unfold lq at e4⊢;by_cases hl:256< O (ax (ab a*2^m))
 ·simp only[qR,go_sem,e1,tO,hn,hn2,No ha (n:=m) ω ω,e4,e5,or_false,aEY,hl,aES,aET]
 ·simp only[qR,go_sem,e1,tO,hn,hn2,No ha (n:=m) ω ω,e4,e5,or_false,aEY,hl,aES,aET]
theorem Lj{l}(h:Lb l)(i):ab (l.drop i)=ab l/4294967296^i:=by
 rcases Nat.lt_or_ge (O l) i with hi|hi
 ·rw[List.drop_of_length_le ω];have:=ft h;have h2:4294967296^O l<=4294967296^i:=aFu ω ω;rw[Nat.div_eq_of_lt ω];rfl
 ·have h1:ab l=ab (l.take i)+4294967296^i*ab (l.drop i):=by
   grind[List.take_append_drop,gu,aFm,aFW]
  grind[ft,jy,aFm,aFW,Nat.add_mul_div_left,Nat.pow_pos,Nat.div_eq_of_lt]
theorem jk(l:List Nat)(i):ab (l.drop i)=l.getD i 0+4294967296*ab (l.drop (i+1)):=by
 grind[aFe,ab,List.drop_of_length_le]
def Ll(a:List Nat)(r i:Nat):Nat:=(a.getD i 0+4294967296*a.getD (i+1) 0)/2^r%4294967296
theorem apH{a}(ha:Lb a){r}(hr:r<=32)(i):Ll a r i=lmb (ab a/2^r) i:=by
 unfold Ll lmb;have e0:ab a/2^r/4294967296^i=ab (a.drop i)/2^r:=by grind[Nat.div_div_eq_div_mul,aFd,Lj]
 rw[e0,jk a i,jk a (i+1)];generalize ab (a.drop (i+1+1))=w;have e:4294967296=2^r*2^ (32-r):=by rw[←aE2,show r+(32-r)=32 from by omega]
 have h1:a.getD i 0+4294967296*(a.getD (i+1) 0+4294967296*w)=(a.getD i 0+4294967296*a.getD (i+1) 0)+2^r*(2^ (32-r)*4294967296*w):=by
  grind
 rw[h1,Nat.add_mul_div_left _ _ (aE7 r),aFj,Nat.mul_left_comm,Nat.add_mul_mod_self_left]
def Ge(a:List Nat)(r i:Nat):List Nat:=(List.range i).map (Ll a r)
theorem Jt(a)(r i):O (Ge a r i)=i:=by simp[Ge]
def amy{a}(ha:Lb a){r}(hr:r<=32):Ge a r (O a)=fS (O a) (ab a/2^r):=by
 grind[aaD,Jt,apH,Ge]
def amz{a}(ha:Lb a){n}(h1:O a<=100000):∀k i,i+k=O a->∀s h,s 0=lm a->s 1=I (n:Nat)->s 5=.rsl 22 none 1 0 (O a)->s 23=lm a->s 24=I (O a)->s 25=I i->
  h 22=.ar 1 (aS (Ge a (n%32) i++aER k 0))->
  ao 0 [5] (aB (am R (aA false) rz) [0,1,5,23,24,25] [22] s h)=
   some (.normal,⟨upd ce 5 (.rsl 22 none 1 0 (O a)),upd (fun _=>.dead) 22 (.ar 1 (aS (Ge a (n%32) (O a))))⟩):=by
 intro k;induction k with
 |zero=>
  intro i hi s h h0 g1 h5 h23 h24 h25 hh;have:i=O a:=ω
  subst this;rw[ai];simp only[List.replicate_zero,aE8]at hh;simp only[rz,go_sem,h0,g1,h5,h23,h24,h25,hh,aFC]
 |succ k ih=>
  intro i hi s h h0 g1 h5 h23 h24 h25 hh;have ih':=ih (i+1) ω;have hx:=dD ha i;have hy:=dD ha (i+1);have hr:n%32<32:=aFx _ ω;have e1:=aa (i< (O a:Int));have e2:dF (aS a) (i:Int)=some (.ipt [U (a.getD i 0:Nat)]):=dV rfl ω;have e3:aG ((i:Int)+1)=((i+1:Nat):Int):=wi;have e4:IntKind.u64.wrap (a.getD i 0:Int)=(a.getD i 0:Int):=iH rfl ω;have e5:=adR (n:=n) (m:=32) (j:=32) Z Z ω;have e6:=aa (0<=(i:Int));have e7:(aS (Ge a (n%32) i++aER (k+1) 0))[i]?=some [U (0:Nat)]:=by
   grind[nF,Jt]
  have e8:(aS (Ge a (n%32) i++aER (k+1) 0)).set i [U (Ll a (n%32) i:Nat)]=aS (Ge a (n%32) (i+1)++aER k 0):=by
   grind[so,aaE,Ge,Ll,Jt,List.range_succ]
  rw[ai];generalize aB _ _ _=L at ih'⊢;by_cases hl:i+1<O a
  ·have f1:=aa (((i+1:Nat):Int)< (O a:Int));have f2:=dV rfl hl;have f3:IntKind.u64.wrap (a.getD (i+1) 0:Int)=(a.getD (i+1) 0:Int):=iH rfl ω;have f4:=Oy (n:=a.getD (i+1) 0) (k:=32) (kk:=.u64) (j:=32) Z Z ω ω;have f5:=aaM (m:=a.getD i 0) (n:=a.getD (i+1) 0*2^32) Z Z ω ω;rw[Nat.or_comm,Nm (show a.getD i 0<2^32 from by omega)]at f5;have f6:=Fb (n:=a.getD (i+1) 0*2^32+a.getD i 0) (k:=n%32) (kk:=.i64) Z Z ω;have f7:IntKind.u32.wrap (((a.getD (i+1) 0*2^32+a.getD i 0)/2^ (n%32):Nat):Int)=((Ll a (n%32) i:Nat):Int):=by
    grind[Li,Ll]
   simp only[rz,go_sem,h0,g1,h5,h23,h24,h25,hh,e1,e2,e3,e4,e5,e6,e7,e8,f1,f2,f3,f4,f5,f6,f7,aEY,aES];apply ih'<;>rfl
  ·have f1:=aP (((i+1:Nat):Int)< (O a:Int));have f2:a.getD (i+1) 0=0:=γ
   have f6:=Fb (n:=a.getD i 0) (k:=n%32) (kk:=.i64) Z Z ω;have f7:IntKind.u32.wrap ((a.getD i 0/2^ (n%32):Nat):Int)=((Ll a (n%32) i:Nat):Int):=by
    rw[Li rfl];grind[Ll]
   simp only[rz,go_sem,h0,g1,h5,h23,h24,h25,hh,e1,e2,e3,e4,e5,e6,e7,e8,f1,f6,f7,aEY,aES];apply ih'<;>rfl
theorem aaO{a}(ha:Lb a)(h1:O a<=100000)(hn:n<=100000000):R 264 [lm a,I n] []=some (lm (fS (O (ax (ab a))-n/32) (ab a/2^n)),[]):=by
 refine au Yg ?_;have la:=eA a ha;have e1:=Vc (n:=n) (m:=32) (j:=32) Z Z ω ω;by_cases hl:O (ax (ab a))<=n/32
 ·have e2:=aa (O (ax (ab a))<=((n/32:Nat):Int));have e3:fS (O (ax (ab a))-n/32) (ab a/2^n)=[]:=by rw[show(ax (ab a)).length-n/32=0 from by omega];rfl
  simp only[Ai,F6,go_sem,cI ha ω,e1,e2,e3]
 ·have e2:=aP (O (ax (ab a))<=((n/32:Nat):Int));have hD:O ((ax (ab a)).drop (n/32))=O (ax (ab a))-n/32:=σ
  have hLD:Lb ((ax (ab a)).drop (n/32)):=sk (aH _) _;have e3:gA 1 (lm (ax (ab a))) (some (I (n/32:Nat))) none none=some (lm ((ax (ab a)).drop (n/32))):=by
   rw[aaB (a:=n/32) (b:=O (ax (ab a))) (Et rfl ω) rfl (aET _),aFi ω]
  have hv:ab ((ax (ab a)).drop (n/32))/2^ (n%32)=ab a/2^n:=by
   rw[Lj (aH _),aJ,Nat.div_div_eq_div_mul,Nn]
  have e6:=amy hLD (r:=n%32) ω;rw[hv,hD]at e6;generalize(ax (ab a)).drop (n/32)=D at*
  have e4:=zA (i:=O D) (j:=O D) Z Z (aET _) ω;have e5:=aa (O D*4<=140737488355328);have e7:=amz hLD (n:=n) ω (O D) 0 ω;have e8:aS (aER (O D) 0)=aS (Ge D (n%32) 0++aER (O D) 0):=by simp[Ge]
  rw[←hD]at e6⊢;simp only[Ai,F6,go_sem,cI ha ω,e1,e2,e3,e4,e5,GW,e8];rw[e7 _ _ Z Z Z Z Z Z Z];simp only[go_sem,e6,dv,aES,aET]
def aaP{a}(ha:Lb a){n}(h1:O a<=256):R 201 [lm a,I n] []=some (if n<0\/65536<n then .tup [lm [],I 2]else .tup [lm (ax (ab a/2^n.toNat)),I 0],[]):=by
 refine au Ya ?_;have e1:=aP (256<O a);by_cases hn:n<0
 ·simp only[uS,go_sem,e1,tO,hn,true_or]
 by_cases hn2:65536<n
 ·simp only[uS,go_sem,e1,tO,hn,hn2,or_true]
 obtain⟨m,rfl⟩:=aFy (show 0<=n by omega);have la:=eA a ha;have hlt:=fJ (ab a);have h32:ab a/2^m<4294967296^ (O (ax (ab a))-m/32):=by
  rw[Nat.div_lt_iff_lt_mul (aE7 m),←Nn m];refine aFQ hlt ?_;rw[←aFj,←aE2];refine aEX (aFu ω (show(ax (ab a)).length<=O (ax (ab a))-m/32+m/32 by omega)) (Nat.le_mul_of_pos_right _ (aE7 _))
 have e3:ab (fS (O (ax (ab a))-m/32) (ab a/2^m))=ab a/2^m:=by
  rw[po,aFG h32]
 have e4:=GX (qT (O (ax (ab a))-m/32) (ab a/2^m)) (by grind[dv]);rw[e3]at e4;have hl:¬256< O (ax (ab a/2^m)):=by
  have:=eN h32;omega
 unfold lq at e4;simp only[hl,if_false]at e4;simp only[uS,go_sem,e1,tO,hn,hn2,aaO ha (n:=m) ω ω,e4,or_false,aEY]
def ag(n:Nat):Nat:=if n=0 then 0 else n.log2+1
theorem bH{n k}:ag n<=k↔n<2^k:=by
 unfold ag;grind[Nat.succ_le_iff,Nat.log2_lt]
def Q8{q k}(h:ag q<=k):ag (q+1)<=k+1:=by
 rw[bH]at h⊢;omega
def amA{n k}(h:n<=k):ag (2^n-1)<=k:=bH.2 (by
 have h1:=aE7 n;have h2:=aFu (n:=2) δ h;omega)
def amB(k):ag 1<=k+1:=bH.2 (Nat.one_lt_two_pow ω)
def Cq{x y k}(h:x<=y)(h2:ag y<=k):ag x<=k:=bH.2 (aFl h (bH.1 h2))
theorem mE{n k}:k<ag n↔2^k<=n:=by
 have:=@bH n k;omega
theorem Cr:ag 0=0:=rfl
theorem fE{n}(h:n≠0):0<ag n:=by
 rw[mE];omega
theorem pp(n k):ag (n/2^k)=ag n-k:=by
 have h:∀j,ag (n/2^k)<=j↔ag n-k<=j:=fun j=>by
  simp_all[bH,Nat.div_lt_iff_lt_mul,aE7,aE2]
 have h1:=(h _).1 (aET _);have h2:=(h _).2 (aET _);omega
theorem eB{n}(k)(hn:n≠0):ag (n*2^k)=ag n+k:=by
 grind[pp,Nat.mul_div_cancel,aE7,ag,mE,Nat.le_mul_of_pos_left]
def ag8:ByteArray:=⟨#[0,1,2,2,3,3,3,3,4,4,4,4,4,4,4,4,5,5,5,5,5,5,5,5,5,5,5,5,5,5,5,5,6,6,6,6,6,6,6,6,6,6,6,6,6,6,6,6,6,6,6,6,6,6,6,6,6,6,6,6,6,6,6,6,7,7,7,7,7,7,7,7,7,7,7,7,7,7,7,7,7,7,7,7,7,7,7,7,7,7,7,7,7,7,7,7,7,7,7,7,7,7,7,7,7,7,7,7,7,7,7,7,7,7,7,7,7,7,7,7,7,7,7,7,7,7,7,7,8,8,8,8,8,8,8,8,8,8,8,8,8,8,8,8,8,8,8,8,8,8,8,8,8,8,8,8,8,8,8,8,8,8,8,8,8,8,8,8,8,8,8,8,8,8,8,8,8,8,8,8,8,8,8,8,8,8,8,8,8,8,8,8,8,8,8,8,8,8,8,8,8,8,8,8,8,8,8,8,8,8,8,8,8,8,8,8,8,8,8,8,8,8,8,8,8,8,8,8,8,8,8,8,8,8,8,8,8,8,8,8,8,8,8,8,8,8,8,8,8,8,8,8,8,8,8,8]⟩
def amC:((List.range 256).all fun x=>(ag8[x]?).map (·.toNat)==some (ag x))=true:=by decide+kernel
theorem ag9(h:x<256):Od (.v (.string ag8)) (.v (.int .u8 x))=some (.v (.int .u8 (ag x))):=by
 have:=List.all_eq_true.1 amC x (List.mem_range.2 h);simp only[Od];grind
theorem Lm:M6=.seq (.ops [0,2] [co 2 (.mv (.c (I 0)))]) (.seq (.seq (.ops [0,2,4] [cm 3 0,co 4 (.bin .geq (.t 3) (.c (.v (.int .u32 65536))))]) (.cond (.t 4) (.seq (.ops [0] [cm 5 0,co 6 (.bin .shr (.t 5) (.c (.v (.int .u64 16)))),cm 0 6]) (.ops [0,2] [co 2 (.mv (.c (I 16)))])) (.skip))) (.seq (.seq (.ops [0,2,8] [cm 7 0,co 8 (.bin .geq (.t 7) (.c (.v (.int .u32 256))))]) (.cond (.t 8) (.seq (.ops [0,2] [cm 9 0,co 10 (.bin .shr (.t 9) (.c (.v (.int .u64 8)))),cm 0 10]) (.ops [0,2] [cm 11 2,co 12 (.bin .add (.t 11) (.c (I 8))),cm 2 12])) (.skip))) (.seq (.ops [2] [cm 13 2,cm 14 0,co 15 (.cv .u8 (.t 14)),co 16 (.idxS (.c (.v (.string ag8))) (.t 15)),co 17 (.cv .i64 (.t 16)),co 18 (.bin .add (.t 13) (.t 17)),cm 2 18]) (.ret)))):=rfl
def w8{i:Int}(h:i=n)(hn:n<256):IntKind.u8.wrap i=n:=by grind[IntKind.wrap_u8]
def aha{k:Nat}{i:Int}{kk}(hi:i=n)(hj:j=k)(hk:k<=32):fK .shr (.v (.int .u32 i)) (.v (.int kk j))=some (.v (.int .u32 (n/2^k:Nat))):=by
 simp_all[JJ,av,IntKind.bits,Option.some.injEq,AV.v.injEq,Value.int.injEq,true_and,Int.fdiv_eq_ediv_of_nonneg,Int.pow_nonneg]
def IS{x}(k)(h:2^k<=x):ag x=k+ag (x/2^k):=by
 have:=pp x k;have:=mE.2 h;omega
def aaQ(hx:x<4294967296):R 295 [U x] []=some (I (ag x),[]):=by
 refine au aaw ?_;have fin:∀ {y:Nat},y<256->∀ {n:Nat},n<=24->IntKind.u8.wrap y=y/\IntKind.i64.wrap (ag y)=(ag y)/\IntKind.i64.wrap (n+(ag y))=(n+ag y):=fun{y} hy {n} hn=>by
  have:ag y<=8:=bH.2 hy;exact⟨w8 rfl hy,wi rfl ω,wi ω ω⟩
 have s16:=aha (n:=x) (k:=16) (kk:=.u64) (j:=16) Z Z ω;by_cases h1:65536<=x
 ·have e1:=aa (65536<=(x:Int));have b1:=IS 16 h1;have s8:=aha (n:=x/2^16) (k:=8) (kk:=.u64) (j:=8) Z Z ω;by_cases h2:256<=x/2^16
  ·have e2:=aa (256<=((x/2^16:Nat):Int));have b2:=IS 8 h2;have hy:x/2^16/2^8<256:=ω
   obtain⟨f1,f2,f3⟩:=fin hy (n:=24) ω;have g:aG 24=24:=by grind[i64_in]
   have f3':aG (24+(ag (x/2^16/2^8)))=(ag x):=γ
   simp only[si,Lm,go_sem,e1,s16,e2,s8,g,f1,ag9 hy,f2,f3',Int.reduceAdd]
  ·have e2:=aP (256<=((x/2^16:Nat):Int));have hy:x/2^16<256:=ω
   obtain⟨f1,f2,f3⟩:=fin hy (n:=16) ω;have f3':aG (16+(ag (x/2^16)))=(ag x:Nat):=γ
   simp only[si,Lm,go_sem,aEN,aFo,e1,s16,e2,f1,ag9 hy,f2,f3']
 ·have e1:=aP (65536<=(x:Int));have s8:=aha (n:=x) (k:=8) (kk:=.u64) (j:=8) Z Z ω;by_cases h2:256<=x
  ·have e2:=aa (256<=(x:Int));have b2:=IS 8 h2;have hy:x/2^8<256:=ω
   obtain⟨f1,f2,f3⟩:=fin hy (n:=8) ω;have g:aG 8=8:=by grind[i64_in]
   have f3':aG (8+(ag (x/2^8)))=(ag x:Nat):=γ
   simp only[si,Lm,go_sem,aEN,aFo,e1,e2,s8,g,f1,ag9 hy,f2,f3',Int.reduceAdd]
  ·have e2:=aP (256<=(x:Int));have hy:x<256:=ω
   obtain⟨f1,f2,f3⟩:=fin hy (n:=0) ω;have f3':aG (0+(ag x))=(ag x:Nat):=γ
   simp only[si,Lm,go_sem,aEN,aFo,e1,e2,f1,ag9 hy,f2,f3']
theorem amD{n}(h:n≠0):ag n=32*(O (ax n)-1)+ag ((ax n).getD (O (ax n)-1) 0):=by
 induction n using Nat.strongRecOn with
 |ind n ih=>
  rw[vj h,aFk,Nat.add_sub_cancel];by_cases h0:n/4294967296=0
  ·rw[h0,cO];grind
  ·have h2:O (ax (n/4294967296))≠0:=by
    intro e;exact h0 (sj.1 (List.length_eq_zero_iff.1 e))
   have h3:=IS (x:=n) 32 ω;grind
theorem Cs{m}(hb:Lb m)(h1:O m<=100000):R 248 [lm m] []=some (I (ag (ab m)),[]):=by
 refine au UX ?_;have la:=eA m hb;by_cases h:ab m=0
 ·have e1:((0:Nat):Int)=0:=rfl;simp only[yu,go_sem,cI hb ω,h,cO,e1,Cr]
 ·have hne:O (ax (ab m))≠0:=fun e=>h (sj.1 (List.length_eq_zero_iff.1 e));have e1:=aP ((O (ax (ab m)):Int)=0);have e2:aG (O (ax (ab m))-1)=(O (ax (ab m))-1:Nat):=wi;have e3:aG (32*(O (ax (ab m))-1:Nat))=(32*(O (ax (ab m))-1):Nat):=wi;have e4:dF (aS (ax (ab m))) (O (ax (ab m))-1:Nat)=some (.ipt [U ((ax (ab m)).getD (O (ax (ab m))-1) 0)]):=dV rfl ω;have e5:=aaQ (dD (aH (ab m)) (O (ax (ab m))-1));have e6:ag ((ax (ab m)).getD (O (ax (ab m))-1) 0)<=32:=bH.2 (dD (aH (ab m)) _);have e7:IntKind.i64.wrap ((32*(O (ax (ab m))-1):Nat)+(ag ((ax (ab m)).getD (O (ax (ab m))-1) 0)))=(ag (ab m)):=by
   rw[amD h];exact wi ω ω
  simp only[yu,go_sem,cI hb ω,e1,e2,e3,e4,e5,e7]
structure Rd where
 neg:Bool
 m:List Nat
 e:Int
def ak(d:Rd):List AV:=[B d.neg,lm d.m,I d.e]
def af(d:Rd):AV:=.agg (ak d)
def aC:Rd:=⟨false,[],0⟩
def rP(n:Nat)(e:Int):Bool:=decide (n=0)|| (decide (n<=4096)&& (decide (-16384<=e)&& (decide (e<=16384)&&decide (n+e<=16384))))
def vd(d:Rd):Bool:=if O d.m=0 then !d.neg&&decide (d.e=0)else decide (O d.m<=256)&& (decide (d.m.getD 0 0%2=1)&& (decide (d.m.getD (O d.m-1) 0≠0)&&rP (ag (ab d.m)) d.e))
theorem Aq{m}(hb:Lb m)(h1:O m<=100000):R 190 [lm m] []=some (I (ag (ab m)),[]):=by
 refine au X6 ?_;simp only[Ee,go_sem,Cs hb h1]
def Tl{d}(hb:Lb d.m)(h1:O d.m<=100000):R 158 [af d] []=some (B (rP (ag (ab d.m)) d.e),[]):=by
 refine au QH ?_;unfold rP;by_cases a1:ag (ab d.m)=0
 ·have e9:=Aq hb h1;rw[a1,aFz]at e9;simp only[jO,af,ak,go_sem,e9,a1]
 have e1:=aP (((ag (ab d.m)):Int)=0);by_cases a2:¬ (ag (ab d.m)<=4096)
 ·have e2:=aP (((ag (ab d.m)):Int)<=4096);simp only[jO,af,ak,go_sem,Aq hb h1,e1,a1,e2,a2]
 replace a2:=Decidable.not_not.1 a2
 have e2:=aa (((ag (ab d.m)):Int)<=4096);by_cases a3:¬ (-16384<=d.e)
 ·simp only[jO,af,ak,go_sem,Aq hb h1,e1,a1,e2,a2,a3]
 replace a3:=Decidable.not_not.1 a3
 by_cases a4:¬ (d.e<=16384)
 ·simp only[jO,af,ak,go_sem,Aq hb h1,e1,a1,e2,a2,a3,a4]
 replace a4:=Decidable.not_not.1 a4
 have e3:aG ((ag (ab d.m))+d.e)=(ag (ab d.m))+d.e:=by grind[i64_in]
 simp only[jO,af,ak,go_sem,Aq hb h1,e1,a1,e2,a2,a3,a4,e3]
def kR(n:Int):Prop:=-9223372036854775808<=n/\n<9223372036854775808
structure Ok0 (d:Rd):Prop where
 lb:Lb d.m
 len:O d.m<4611686018427387904
def eC{d}(ok:Ok0 d):R 89 [af d] []=some (B (vd d),[]):=by
 refine au UQ ?_;unfold vd;by_cases a0:O d.m=0
 ·rw[ap a0];have e1:=aa ((O d.m:Int)=0);cases hn:d.neg with
  |true=>simp only[jU,af,ak,hn,go_sem,e1]
  |false=>simp only[jU,af,ak,hn,go_sem,e1]
 rw[av a0];have e1:=aP ((O d.m:Int)=0);by_cases a1:¬(O d.m)<=256
 ·have e2:=aP ((O d.m:Int)<=256);rw[decide_eq_false a1,aE0];simp only[jU,af,ak,go_sem,e1,e2]
 replace a1:=Decidable.not_not.1 a1
 have e2:=aa ((O d.m:Int)<=256);have e3:dF (aS d.m) 0=some (.ipt [U (d.m.getD 0 0)]):=dV rfl ω;have e4:fK .rem (.v (.int .u32 (d.m.getD 0 0))) (.v (.int .u32 2))=some (.v (.int .u32 (d.m.getD 0 0%2:Nat))):=by
  simp_all[JI,av,Int.tmod_eq_emod_of_nonneg]
 rw[decide_eq_true a1,aEW];by_cases a2:¬d.m.getD 0 0%2=1
 ·have e5:=aP (((d.m.getD 0 0%2:Nat):Int)=1);rw[decide_eq_false a2,aE0];simp only[jU,af,ak,go_sem,e1,e2,e3,e4,e5]
 replace a2:=Decidable.not_not.1 a2
 have e5:=aa (((d.m.getD 0 0%2:Nat):Int)=1);rw[decide_eq_true a2,aEW];have e6:aG (O d.m-1)=(O d.m-1:Nat):=wi;have e7:dF (aS d.m) (O d.m-1:Nat)=some (.ipt [U (d.m.getD (O d.m-1) 0)]):=dV rfl ω;by_cases a3:d.m.getD (O d.m-1) 0=0
 ·have e8:=aa ((d.m.getD (O d.m-1) 0:Int)=0);rw[decide_eq_false (p:=d.m.getD (O d.m-1) 0≠0) (fun h=>h a3),aE0];simp only[jU,af,ak,go_sem,e1,e2,e3,e4,e5,e6,e7,e8]
 have e8:=aP ((d.m.getD (O d.m-1) 0:Int)=0);rw[decide_eq_true (p:=d.m.getD (O d.m-1) 0≠0) a3,aEW];have e9:=Tl (d:=d) ok.lb ω;simp only[af,ak]at e9;simp only[jU,af,ak,go_sem,e1,e2,e3,e4,e5,e6,e7,e8,e9]
theorem Vd{d}(ok:Ok0 d):R 159 [af d] []=some (I (if vd d=false\/O d.m=0 then 0 else if d.neg=true then-1 else 1),[]):=by
 refine au XY ?_;have e9:=eC ok;simp only[af,ak]at e9;cases hv:vd d with
 |false=>
  rw[hv]at e9;rw[ap (Or.inl rfl)];simp only[qO,af,ak,go_sem,e9]
 |true=>
  rw[hv]at e9;by_cases a0:O d.m=0
  ·have e1:=aa ((O d.m:Int)=0);rw[ap (Or.inr a0)];simp only[qO,af,ak,go_sem,e9,e1]
  ·have e1:=aP ((O d.m:Int)=0);rw[av (fun h=>h.elim (fun h=>nomatch h) a0)];cases hn:d.neg with
   |true=>
    rw[hn]at e9;simp only[qO,af,ak,hn,go_sem,e9,e1]
   |false=>
    rw[hn]at e9;simp only[qO,af,ak,hn,go_sem,e9,e1]
theorem ahb(m)(h2:O m<4611686018427387904):∀ (n:Nat),n<=O m->∀s h,s 0=lm m->s 3=I n->
  ao 0 [0,3] (aB (am R (aA false) mX) [0,3] [] s h)=some (.normal,⟨upd (upd ce 3 (I (tu m n))) 0 (lm m),fun _=>.dead⟩):=by
 intro n;induction n with
 |zero=>
  intro h1 s h h3 h4;rw[ai];simp only[mX,go_sem,h3,h4,tu,aFz,aFC]
 |succ n ih=>
  intro h1 s h h3 h4;have hn:=h1;have e3:aG (n+1-1)=n:=wi;have e1:=dV rfl hn;have e2:=aa (0< (n:Int)+1);have ih':=ih ω;rw[ai];by_cases hz:m.getD n 0=0
  ·simp only[mX,go_sem,h3,h4,tu,Int.natCast_add,Int.natCast_one,e3,e1,e2,hz,aFz];exact ih' _ _ Z Z
  ·simp only[mX,go_sem,h3,h4,tu,Int.natCast_add,Int.natCast_one,e3,e1,e2,hz,Int.natCast_eq_zero]
theorem aaR{m}(hb:Lb m)(h:O m<4611686018427387904):R 199 [lm m] []=some (lm (ax (ab m)),[]):=by
 refine au QN ?_;have h1:gA 1 (lm m) none (some (I (tu m (O m)))) none=some (lm (ax (ab m))):=by
  rw[aaB (a:=0) (b:=tu m (O m)) rfl (Et rfl (M8 _ _)) (M8 _ _),aFX,Nat.sub_zero,ZZ hb]
 simp only[AK,Hu,go_sem,ahb m h (O m) (aET _),h1]
theorem xM{e}:R 212 [I e] []=some (B (decide (-32768<=e)&&decide (e<=32768)),[]):=by
 refine au Pz ?_;by_cases a1:¬ (-32768<=e)
 ·simp only[s7,go_sem,a1]
 replace a1:=Decidable.not_not.1 a1
 simp only[s7,go_sem,a1]
theorem Ar{d}(hb:Lb d.m)(h1:O d.m<=100000):R 192 [af d] []=some (if rP (ag (ab d.m)) d.e=true then .tup [af d,I 0]else .tup [af aC,I 9],[]):=by
 refine au QM ?_;have e9:=Tl hb h1;simp only[af,ak]at e9;cases hv:rP (ag (ab d.m)) d.e with
 |false=>
  rw[hv]at e9;simp only[uv,af,ak,aC,go_sem,e9]
 |true=>
  rw[hv]at e9;simp only[uv,af,ak,go_sem,e9]
theorem amE(h)(m):zS h 1 (lm m)=some (aS m):=amj h 1 _
theorem HO{m}(h0:m≠[])(h1:O m<=100000):R 189 [lm m] []=some (lm m,[]):=by
 have e1:Gy false (lm m)=some (B false):=by
  cases m with
  |nil=>grind
  |cons x m=>rfl
 have e2:((True\/False)/\(0+O m)*4<=140737488355328)=True:=eq_true ⟨Or.inl trivial,by omega⟩;have e3:=tt;have e4:=tt
 first
 | (refine Eu E_slices_Clone_uint32_uint32_ C_slices_Clone_uint32_uint32_ (DP.2.2.2 false) rfl ?_;simp only[iF,go_sem,e1,amE,e2,e3,e4];done)
 | (obtain⟨x,l,rfl⟩:=List.exists_cons_of_ne_nil h0;refine(BC (g:=clU) κ).trans ?_;show(if(O (aS l)+1)*4<=140737488355328 then _ else _)=_;rw[ap (by rw[wH];simp at h1;omega)];rfl)
theorem Ju:cB.E 263=some tzF:=by kernel_rfl
theorem Np(h:x≠0)(hx:x<4294967296):R 263 [U x] []=some (I (tz x),[]):=by
 unfold R;rw[BC Ju];show(if 0< (x:Int)/\(x:Int)<4294967296/\[]=[]then some (I (WE 32 (x:Int).toNat),[])else none)=_;rw[ap ⟨by omega,by omega,rfl⟩,aEY,asx 32 x h ω]
def amF(m)(hb:Lb m)(h2:O m<=100000):∀k i,i+k=O m->ab (m.drop i)≠0->∀s h,s 6=lm m->s 7=I (O m)->s 8=I i->s 3=I (32*i:Nat)->
  ao 0 [3] (aB (am R (aA false) yq) [3,6,7,8] [] s h)=some (.ret,⟨upd ce 2 (I (32*i+tz (ab (m.drop i)):Nat)),fun _=>.dead⟩):=by
 intro k;induction k with
 |zero=>
  intro i hi hv;rw[aFq ω]at hv;exact absurd rfl hv
 |succ k ih=>
  intro i hi hv s h h6 h7 h8 h3;have e1:=aa ((i:Int)<O m);have e2:dF (aS m) i=some (.ipt [U (m.getD i 0)]):=dV rfl ω;have hx:=dD hb i;rw[jk]at hv;rw[ai];have e4:aG ((32*i:Nat)+32)=(32*(i+1):Nat):=wi;have e5:aG (i+1)=(i+1:Nat):=wi;by_cases hz:m.getD i 0=0
  ·have e3:=aa ((m.getD i 0:Int)=0);have hv':ab (m.drop (i+1))≠0:=by
    omega
   have ih':=ih (i+1) ω hv';have e6:tz (ab (m.drop i))=32+tz (ab (m.drop (i+1))):=by
    rw[jk,hz,aES];exact M9 32 hv'
   have e7:32*i+tz (ab (m.drop i))=32*(i+1)+tz (ab (m.drop (i+1))):=ω
   rw[e7];simp only[yq,go_sem,h3,h6,h7,h8,e1,e2,e3,e4,e5];apply ih'<;>rfl
  ·have e3:=aP ((m.getD i 0:Int)=0);have e6:tz (ab (m.drop i))=tz (m.getD i 0):=by
    rw[jk];exact asw (k:=32) _ hz hx
   have e8:=agT (k:=32) hz hx;have e7:IntKind.i64.wrap ((32*i:Nat)+(tz (m.getD i 0)))=(32*i+tz (m.getD i 0):Nat):=wi;rw[e6];simp only[yq,go_sem,h3,h6,h7,h8,e1,e2,e3,Np hz hx,e7]
def asD{m}(hb:Lb m)(h1:O m<=100000)(hv:ab m≠0):R 200 [lm m] []=some (I (tz (ab m)),[]):=by
 refine au aam ?_;have h3:=amF m hb h1 (O m) 0 (aES _) hv;simp only[Nat.mul_zero,aES,aFX,aFz]at h3;simp only[F5,M4,go_sem];rw[h3 _ _ Z Z Z Z];simp only[go_sem]
def ahc:Nat->Nat->List Nat
 |0,_=>[]
 |k+1,n=>if n=0 then []else n%4294967296::ahc k (n/4294967296)
theorem adT:∀ {k n},n<4294967296^k->ahc k n=ax n
 |0,n,h=>by
  have:=by simpa using h
  subst this;rw[cO];rfl
 |k+1,n,h=>by
  unfold ahc;split
  ·rename_i h0;rw[h0,cO]
  ·rename_i h0;rw[vj h0,adT (Nat.div_lt_of_lt_mul (by rw[aFJ]at h;omega))]
def asE(neg:Bool)(M k:Nat)(e:Int):Rd:=if M%2^k=0/\M/2^k%2=1/\M/2^k<4294967296^24 then⟨neg,ahc 24 (M/2^k),e+k⟩else⟨neg,ax (M/2^tz M),e+tz M⟩
def aZ(neg:Bool)(M:Nat)(e:Int):Rd:=if M=0 then aC else asE neg M (Nat.gcd M (2^40000)).log2 e
theorem zB{neg}{M}{e}:aZ neg M e=if M=0 then aC else⟨neg,ax (M/2^tz M),e+tz M⟩:=by
 unfold aZ;split
 ·rfl
 ·generalize Nat.log2 _=k;unfold asE;split
  ·rename_i h0 h;obtain⟨h1,h2,h3⟩:=h;have e1:=(Nat.mul_div_cancel' (Nat.dvd_of_mod_eq_zero h1)).symm;have e2:tz M=k:=by
    rw[e1,M9 _ ω,Du h2,aFA]
   rw[e2,adT h3]
  ·rfl
def Exq(e:Int):Prop:=-1000000<=e/\e<=1000000
def l6{neg}{m}{e}(hb:Lb m)(h1:O m<=256)(he:Exq e):R 139 [B neg,lm m,I e] []=some (af (aZ neg (ab m) e),[]):=by
 refine au Nc ?_;obtain⟨he1,he2⟩:=he;rw[zB];by_cases h0:ab m=0
 ·have hd:R 199 [lm m] []=some (lm [],[]):=by
   grind[aaR,cO]
  rw[ap h0];simp only[rL,af,ak,aC,go_sem,hd,aFs,aFz]
 have hn:=fun h=>h0 (sj.1 h);have hl:0< O (ax (ab m)):=by
  grind
 have hl2:=aEX (eA m hb) h1;have hdb:Lb (ax (ab m)):=aH _;have e1:=aP ((O (ax (ab m)):Int)=0);have ht:=agT (k:=32*256) h0 (by
  have:=ft hb;have h3:4294967296^O m<=4294967296^256:=aFu δ h1;omega)
 have hlow:=asD hdb ω (by grind[aJ]);rw[aJ]at hlow;have hs:=aaP (n:=(tz (ab m))) hdb hl2;rw[av ω,aJ,aEY]at hs;have hq:ax (ab m/2^tz (ab m))≠[]:=by
  intro h;have:=(Cj h0).2;rw[sj.1 h]at this;omega
 have hq2:O (ax (ab m/2^tz (ab m)))<=100000:=by
  have h5:O (ax (ab m/2^tz (ab m)))<=O m:=eN (aFl (aF1 _ _) (ft hb));omega
 have hc:=HO hq hq2;have e2:aG (e+(tz (ab m)))=e+(tz (ab m)):=by grind[i64_in]
 rw[av h0];simp only[rL,af,ak,go_sem,aaR hb (aFl h1 δ),e1,hlow,hs,hc,Ox,e2]
theorem FE{d}(h:vd d=true)(h0:O d.m≠0):O d.m<=256/\d.m.getD 0 0%2=1/\d.m.getD (O d.m-1) 0≠0/\rP (ag (ab d.m)) d.e=true:=by
 simp_all[vd,av,aEV,decide_eq_true_eq]
theorem GY{d}(h:vd d=true)(h0:O d.m=0):d=aC:=by
 unfold vd at h;obtain⟨n,m,e⟩:=d;grind[aC]
def Ew{n}{e}(h:rP n e=true)(h0:n≠0):n<=4096∧-16384<=e/\e<=16384/\n+e<=16384:=by
 simp_all[rP,aF0,aEV,decide_eq_true_eq]
def dT{d}(h:vd d=true)(_hb:Lb d.m):O d.m<=256∧-16384<=d.e/\d.e<=16384/\ag (ab d.m)<=4096:=by
 by_cases h0:O d.m=0
 ·rw[GY h h0];exact⟨by decide,by decide,by decide,by decide⟩
 obtain⟨h1,h2,h3,h4⟩:=FE h h0;have hv:ab d.m≠0:=by
  have:=jk d.m 0;grind
 have hn:ag (ab d.m)≠0:=by
  grind[fE]
 obtain⟨h5,h6,h7,h8⟩:=Ew h4 hn;omega
def aQ(d:Rd):Int:=if vd d=false\/O d.m=0 then 0 else(ag (ab d.m))+d.e
def pW{d}(ok:Ok0 d):R 218 [af d] []=some (I (aQ d),[]):=by
 refine au aap ?_;have e9:=eC ok;simp only[af,ak]at e9;unfold aQ;cases hv:vd d with
 |false=>
  rw[hv]at e9;rw[ap (Or.inl rfl)];simp only[xg,af,ak,go_sem,e9]
 |true=>
  rw[hv]at e9;by_cases a0:O d.m=0
  ·have e1:=aa ((O d.m:Int)=0);rw[ap (Or.inr a0)];simp only[xg,af,ak,go_sem,e9,e1]
  ·have e1:=aP ((O d.m:Int)=0);rw[av (fun h=>h.elim (fun h=>nomatch h) a0)];obtain⟨h1,h2,h3,h4⟩:=dT hv ok.lb;have e2:aG ((ag (ab d.m))+d.e)=(ag (ab d.m))+d.e:=by grind[i64_in]
   simp only[xg,af,ak,go_sem,e9,e1,Aq ok.lb (aEX h1 δ),e2]
def Ln{d}(ok:Ok0 d):R 170 [af d] []=some (I (if vd d=true then(ag (ab d.m))else 0),[]):=by
 refine au X4 ?_;have e9:=eC ok;simp only[af,ak]at e9;cases hv:vd d with
 |false=>
  rw[hv]at e9;simp only[Ac,af,ak,go_sem,e9]
 |true=>
  rw[hv]at e9;obtain⟨h1,h2,h3,h4⟩:=dT hv ok.lb;simp only[Ac,af,ak,go_sem,e9,Aq ok.lb (aEX h1 δ)]
def Dz{d}(ok:Ok0 d):R 132 [af d] []=some (af (if vd d=false\/O d.m=0 then aC else⟨!d.neg,d.m,d.e⟩),[]):=by
 refine au aab ?_;have e9:=eC ok;simp only[af,ak]at e9;cases hv:vd d with
 |false=>
  rw[hv]at e9;rw[ap (Or.inl rfl)];simp only[w9,af,ak,aC,go_sem,e9]
 |true=>
  rw[hv]at e9;by_cases a0:O d.m=0
  ·have e1:=aa ((O d.m:Int)=0);rw[ap (Or.inr a0)];simp only[w9,af,ak,aC,go_sem,e9,e1]
  ·have e1:=aP ((O d.m:Int)=0);rw[av (fun h=>h.elim (fun h=>nomatch h) a0)];obtain⟨h1,h2,h3,h4⟩:=dT hv ok.lb;have hc:=HO (m:=d.m) (fun h=>a0 γ) (aEX h1 δ);simp only[w9,af,ak,go_sem,e9,e1,hc]
def Nq{d}(ok:Ok0 d):R 216 [af d] []=some (af (if vd d=false\/O d.m=0 then aC else⟨false,d.m,d.e⟩),[]):=by
 refine au aao ?_;have e9:=eC ok;simp only[af,ak]at e9;cases hv:vd d with
 |false=>
  rw[hv]at e9;rw[ap (Or.inl rfl)];simp only[xf,af,ak,aC,go_sem,e9]
 |true=>
  rw[hv]at e9;by_cases a0:O d.m=0
  ·have e1:=aa ((O d.m:Int)=0);rw[ap (Or.inr a0)];simp only[xf,af,ak,aC,go_sem,e9,e1]
  ·have e1:=aP ((O d.m:Int)=0);rw[av (fun h=>h.elim (fun h=>nomatch h) a0)];obtain⟨h1,h2,h3,h4⟩:=dT hv ok.lb;have hc:=HO (m:=d.m) (fun h=>a0 γ) (aEX h1 δ);simp only[xf,af,ak,go_sem,e9,e1,hc]
def GJ{m}(hb:Lb m)(h1:O m<=256){k:Nat}(hk:k<=65536)(hl:O (ax (ab m*2^k))<=256):R 223 [lm m,I k] []=some (lm (ax (ab m*2^k)),[]):=by
 refine au QR ?_;have hs:=aaN (n:=k) hb h1;rw[av ω,aEY,lq,av ω]at hs;simp only[AN,go_sem,hs]
theorem adU{neg}{m}{e}(hb:Lb m)(hl:O m<4611686018427387904):R 323 [B neg,lm m,I e] []=some (if 256<O m\/e< -32768\/32768<e then .tup [af aC,I 1]
  else if rP (ag (ab (aZ neg (ab m) e).m)) (aZ neg (ab m) e).e=true then .tup [af (aZ neg (ab m) e),I 0]else .tup [af aC,I 9],[]):=by
 refine au Yp ?_;by_cases a1:256<O m
 ·have e1:=aa ((256:Int)<O m);rw[ap (Or.inl a1)];simp only[qS,af,ak,aC,go_sem,e1]
 have e1:=aP ((256:Int)<O m);by_cases a2:e< -32768\/32768<e
 ·have e2:(decide (-32768<=e)&&decide (e<=32768))=false:=by
   grind
  rw[ap (Or.inr a2)];simp only[qS,af,ak,aC,go_sem,e1,xM,e2]
 have e2:(decide (-32768<=e)&&decide (e<=32768))=true:=by
  grind
 rw[av (fun h=>h.elim a1 a2)];have hc:=l6 (neg:=neg) (e:=e) hb ω ⟨by omega,by omega⟩;have hL:Lb (aZ neg (ab m) e).m:=by
  rw[zB];split
  ·exact fun x hx=>nomatch hx
  grind[aH]
 have hN:(aZ neg (ab m) e).m.length<=100000:=by
  rw[zB];split
  ·exact aE9 _
  ·have h5:O (ax (ab m/2^tz (ab m)))<=O m:=eN (aFl (aF1 _ _) (ft hb));grind
 have hd:=Ar hL hN;generalize aZ neg (ab m) e=d at hc hd⊢;simp only[af,ak]at hc hd;cases hv:rP (ag (ab d.m)) d.e with
 |false=>
  rw[hv,av (fun h=>nomatch h)]at hd;simp only[qS,af,ak,aC,go_sem,e1,xM,e2,hc,hd]
 |true=>
  rw[hv,ap rfl]at hd;simp only[qS,af,ak,go_sem,e1,xM,e2,hc,hd]
def mg(d:Rd):Nat:=ab d.m*2^ (d.e+16384).toNat
def zI(d:Rd):Int:=if d.neg=true then-(mg d)else mg d
theorem amG{x y k}(hk:0<k):dM (x*k) (y*k)=dM x y:=by
 simp_all[dM,Nat.mul_lt_mul_right,ap,av]
theorem Tm{x y}(h:ag x<ag y):x<y:=by
 have h1:=(bH (n:=x) (k:=ag x)).1 (aET _);have h2:=mE.1 h;omega
theorem dN{d}(h:vd d=true)(h0:O d.m≠0):ab d.m≠0:=by
 obtain⟨h1,h2,h3,h4⟩:=FE h h0;have:=jk d.m 0;grind
def J7{d}(h:vd d=true)(hb:Lb d.m)(h0:O d.m≠0):(ag (mg d))=aQ d+16384:=by
 obtain⟨h1,h2,h3,h4⟩:=dT h hb;unfold mg aQ;rw[eB _ (dN h h0),av (fun h'=>h'.elim (fun h''=>by grind) h0)];omega
theorem Ey{d}{e}(h1:-16384<=e)(h2:e<=d.e):mg d=ab d.m*2^ (d.e-e).toNat*2^ (e+16384).toNat:=by
 unfold mg;rw[aFj,←aE2];grind
def bk{n k}(h:ag n<=32*k):O (ax n)<=k:=by
 refine eN ?_;have:=bH.1 h;grind[Nat.pow_mul]
def ahd{a b}(oa:Ok0 a)(ob:Ok0 b)(va:vd a=true)(vb:vd b=true)(na:O a.m≠0)(nb:O b.m≠0):R 160 [af a,af b] []=some (I (dM (mg a) (mg b)),[]):=by
 refine au QI ?_;have ta:=pW oa;have tb:=pW ob;have ba:=J7 va oa.lb na;have bb:=J7 vb ob.lb nb;simp only[af,ak]at ta tb;by_cases h1:aQ a<aQ b
 ·have h2:dM (mg a) (mg b)=-1:=by
   rw[dM,ap (Tm ω)]
  have e1:=tt h1;rw[h2];simp only[pI,af,ak,go_sem,ta,tb,e1]
 have e1:=ff h1;by_cases h2:aQ b<aQ a
 ·have h3:dM (mg a) (mg b)=1:=by
   have:=Tm (x:=mg b) (y:=mg a) ω;rw[dM,av ω,ap this]
  have e2:=tt h2;rw[h3];simp only[pI,af,ak,go_sem,ta,tb,e1,e2]
 have e2:=ff h2;obtain⟨a1,a2,a3,a4⟩:=dT va oa.lb;obtain⟨b1,b2,b3,b4⟩:=dT vb ob.lb;obtain⟨e,hm⟩:∃e,(if b.e<a.e then b.e else a.e)=e:=⟨_,rfl⟩;have hea:e<=a.e/\e<=b.e/\(e=a.e\/e=b.e):=by
  omega
 obtain⟨m1,m2,m3⟩:=hea;have ka:aG (a.e-e)=((a.e-e).toNat:Nat):=wi;have kb:aG (b.e-e)=((b.e-e).toNat:Nat):=wi;have hta:aQ a=(ag (ab a.m))+a.e:=by
  simp_all[aQ,av]
 have htb:aQ b=(ag (ab b.m))+b.e:=by
  simp_all[aQ,av]
 have la:O (ax (ab a.m*2^ (a.e-e).toNat))<=256:=bk (by
  grind[eB,dN])
 have lb:O (ax (ab b.m*2^ (b.e-e).toNat))<=256:=bk (by
  grind[eB,dN])
 have sa:=GJ oa.lb a1 (k:=(a.e-e).toNat) ω la;have sb:=GJ ob.lb b1 (k:=(b.e-e).toNat) ω lb;have hc:=tC (aH (ab a.m*2^ (a.e-e).toNat)) (aH (ab b.m*2^ (b.e-e).toNat)) (aEX la δ) (aEX lb δ);rw[aJ,aJ,←amG (k:=2^ (e+16384).toNat) (aE7 _),←Ey ω m1,←Ey ω m2]at hc;simp only[pI,af,ak,go_sem,ta,tb,e1,e2,hm,ka,kb,sa,sb,hc]
def gH(x y:Int):Int:=if x<y then-1 else if y<x then 1 else 0
def kl(d:Rd):Int:=if O d.m=0 then 0 else if d.neg=true then-1 else 1
theorem adV{d}(h0:O d.m=0):mg d=0:=by
 unfold mg;rw[List.length_eq_zero_iff.1 h0];exact Nat.zero_mul _
theorem J8{d}(h:vd d=true)(h0:O d.m≠0):0<mg d:=
 Nat.mul_pos (Nat.pos_of_ne_zero (dN h h0)) (aE7 _)
def Q9(d)(h:vd d=true):(kl d=0/\zI d=0/\O d.m=0)\/(kl d=-1/\zI d=-(mg d)/\0<mg d/\O d.m≠0)\/(kl d=1/\zI d=mg d/\0<mg d/\O d.m≠0):=by
 unfold kl zI;by_cases h0:O d.m=0
 ·grind[adV]
 ·have:=J8 h h0;grind
def tT{d}(ok:Ok0 d)(hv:vd d=true):R 159 [af d] []=some (I (kl d),[]):=by
 simp_all[Vd,kl,ap,av]
def mF{a b}(oa:Ok0 a)(ob:Ok0 b):R 90 [af a,af b] []=some (I (if vd a=true/\vd b=true then gH (zI a) (zI b)else 0),[]):=by
 refine au Z8 ?_;have va:=eC oa;have vb:=eC ob;simp only[af,ak]at va vb;cases ha:vd a with
 |false=>
  rw[ha]at va;simp only[mJ,af,ak,go_sem,va]
 |true=>
 rw[ha]at va;cases hb:vd b with
 |false=>
  rw[hb]at vb;simp only[mJ,af,ak,go_sem,va,vb]
 |true=>
 rw[hb]at vb;have sa:=tT oa ha;have sb:=tT ob hb;have ca:=Q9 a ha;have cb:=Q9 b hb;simp only[af,ak]at sa sb;by_cases h1:kl a<kl b
 ·have e1:=tt h1;have e2:gH (zI a) (zI b)=-1:=ap ω;rw[e2];simp only[mJ,af,ak,go_sem,va,vb,sa,sb,e1]
 have e1:=ff h1;by_cases h2:kl b<kl a
 ·have e2:=tt h2;have e3:gH (zI a) (zI b)=1:=by rw[gH,av ω,ap ω]
  rw[e3];simp only[mJ,af,ak,go_sem,va,vb,sa,sb,e1,e2]
 have e2:=ff h2;by_cases h3:kl a=0
 ·have e3:=tt h3;have e4:gH (zI a) (zI b)=0:=by rw[gH,av ω,av ω]
  rw[e4];simp only[mJ,af,ak,go_sem,va,vb,sa,sb,e1,e2,e3]
 have e3:=ff h3;have hc:=ahd oa ob ha hb ω ω;simp only[af,ak]at hc;have e4:IntKind.i64.wrap (kl a*dM (mg a) (mg b))=gH (zI a) (zI b):=by
  have hp:kl a*dM (mg a) (mg b)=gH (zI a) (zI b):=by
   rcases ca with ca|ca|ca
   ·omega
   ·rw[ca.1,ca.2.1];unfold dM gH;omega
   ·rw[ca.1,ca.2.1];unfold dM gH;omega
  rw[hp];unfold gH;split
  ·decide
  ·split<;>decide
 simp only[mJ,af,ak,go_sem,va,vb,sa,sb,e1,e2,e3,hc,e4]
def Nr(x y):ag (x*y)<=ag x+ag y:=by
 rw[bH,aE2];exact Nat.mul_lt_mul'' (bH.1 (aET _)) (bH.1 (aET _))
theorem sx(neg)(M)(e):Lb (aZ neg M e).m:=by
 rw[zB];split
 ·exact fun x hx=>nomatch hx
 grind[aH]
theorem pq{neg}{M}{e}{k}(h:ag M<=32*k):(aZ neg M e).m.length<=k:=by
 rw[zB];split
 ·exact aE9 _
 ·refine bk ?_;grind[pp]
def Lo(d:Rd):AV:=if rP (ag (ab d.m)) d.e=true then .tup [af d,I 0]else .tup [af aC,I 9]
def YB(a b:Rd):AV:=if vd a=true/\vd b=true then if O a.m=0\/O b.m=0 then .tup [af aC,I 0]else if 4096<ag (ab a.m)+ag (ab b.m)-1 then .tup [af aC,I 9]else Lo (aZ (a.neg !=b.neg) (ab a.m*ab b.m) (a.e+b.e))else .tup [af aC,I 1]
theorem DA(a b:Bool):(true != (a==b))=(a !=b):=by cases a<;>cases b<;>rfl
theorem apI{a b}(oa:Ok0 a)(ob:Ok0 b):R 133 [af a,af b] []=some (YB a b,[]):=by
 refine au aac ?_;unfold YB;have va:=eC oa;have vb:=eC ob;simp only[af,ak]at va vb;cases ha:vd a with
 |false=>
  rw[ha]at va;simp only[ku,af,ak,aC,go_sem,va]
 |true=>
 rw[ha]at va;cases hb:vd b with
 |false=>
  rw[hb]at vb;simp only[ku,af,ak,aC,go_sem,va,vb]
 |true=>
 rw[hb]at vb;rw[ap ⟨rfl,rfl⟩];by_cases a0:O a.m=0
 ·have e1:=aa ((O a.m:Int)=0);rw[ap (Or.inl a0)];simp only[ku,af,ak,aC,go_sem,va,vb,e1]
 have e1:=aP ((O a.m:Int)=0);by_cases b0:O b.m=0
 ·have e2:=aa ((O b.m:Int)=0);rw[ap (Or.inr b0)];simp only[ku,af,ak,aC,go_sem,va,vb,e1,e2]
 have e2:=aP ((O b.m:Int)=0);rw[av (fun h=>h.elim a0 b0)];obtain⟨a1,a2,a3,a4⟩:=dT ha oa.lb;obtain⟨b1,b2,b3,b4⟩:=dT hb ob.lb;have za:=Aq oa.lb (aEX a1 δ);have zb:=Aq ob.lb (aEX b1 δ);have pa:=fE (dN ha a0);have w1:aG ((ag (ab a.m):Nat)+(ag (ab b.m)))=(ag (ab a.m)+ag (ab b.m):Nat):=wi;have w2:aG ((ag (ab a.m)+ag (ab b.m):Nat)-1)=(ag (ab a.m)+ag (ab b.m)-1:Nat):=wi;by_cases c0:4096<ag (ab a.m)+ag (ab b.m)-1
 ·have e3:=aa ((4096:Int)< ((ag (ab a.m)+ag (ab b.m)-1:Nat):Int));rw[ap c0];simp only[ku,af,ak,aC,go_sem,va,vb,e1,e2,za,zb,w1,w2,e3]
 have e3:=aP ((4096:Int)< ((ag (ab a.m)+ag (ab b.m)-1:Nat):Int));rw[av c0];have hp:=Nr (ab a.m) (ab b.m);have hl:O (ax (ab a.m*ab b.m))<=129:=bk ω;have hm:=J6 oa.lb ob.lb a1 b1;rw[lq,av ω]at hm;have w3:aG (a.e+b.e)=a.e+b.e:=i64_in _ ⟨by omega,by omega⟩;have hc:=l6 (neg:=a.neg !=b.neg) (e:=a.e+b.e) (aH (ab a.m*ab b.m)) (aEX hl δ) ⟨by omega,by omega⟩;rw[aJ]at hc;have hd:=Ar (sx (a.neg !=b.neg) (ab a.m*ab b.m) (a.e+b.e)) (aEX (pq (k:=129) ω) δ);unfold Lo;generalize aZ (a.neg !=b.neg) (ab a.m*ab b.m) (a.e+b.e)=d at hc hd⊢;simp only[af,ak]at hc hd;cases hv:rP (ag (ab d.m)) d.e with
 |false=>
  rw[hv,av (fun h=>nomatch h)]at hd;rw[av (fun h=>nomatch h)];simp only[ku,af,ak,aC,go_sem,va,vb,e1,e2,za,zb,w1,w2,w3,e3,hm,DA,hc,hd]
 |true=>
  rw[hv,ap rfl]at hd;rw[ap rfl];simp only[ku,af,ak,go_sem,va,vb,e1,e2,za,zb,w1,w2,w3,e3,hm,DA,hc,hd]
def Tn{p}:R 229 [I p] []=some (B (decide (8<=p)&&decide (p<=512)),[]):=by
 refine au S6 ?_;by_cases a1:¬ (8<=p)
 ·simp only[wt,go_sem,a1]
 replace a1:=Decidable.not_not.1 a1
 simp only[wt,go_sem,a1]
def HP{m}(hb:Lb m):ag (ab m)<=32*O m:=by
 rw[bH,Nat.pow_mul];exact ft hb
def Bj(m:List Nat)(e:Int)(more:Bool):AV:=.agg [lm m,I e,B more]
def avP{d}:R 293 [af d] []=some (Bj d.m d.e false,[]):=by
 refine au ag3 ?_;simp only[Jo,af,ak,Bj,go_sem]
def Ct{m}(hb:Lb m)(h1:O m<=256){k:Nat}(hk:k<=65536)(hl:O (ax (ab m*2^k))<=256):R 267 [lm m,I k] []=some (lm (ax (ab m*2^k)),[]):=by
 refine au ac7 ?_;have hs:=aaN (n:=k) hb h1;rw[av ω,aEY,lq,av ω]at hs;simp only[Hv,go_sem,hs]
def ajn{x y}:dM x y=0↔x=y:=by
 unfold dM;constructor
 ·intro h;split at h
  ·exact nomatch h
  ·split at h
   ·exact nomatch h
   ·omega
 ·intro h;rw[av ω,av ω]
def amH{x n}:x/2^ (min n (ag x))=x/2^n/\(x/2^ (min n (ag x))*2^ (min n (ag x))=x↔x%2^n=0):=by
 by_cases h:n<=ag x
 ·rw[aFW h];refine⟨rfl,?_⟩;have:=aFM x (2^n);rw[aFd]at this;omega
 ·have hb:x<2^ag x:=bH.1 (aET _);have hn:x<2^n:=bH.1 ω;rw[Nat.min_eq_right ω,Nat.div_eq_of_lt hb,Nat.div_eq_of_lt hn,aFG hn,Nat.zero_mul];exact⟨rfl,⟨fun h=>h.symm,fun h=>h.symm⟩⟩
def adW{m}(hb:Lb m)(h1:O m<=256)(hn:n<4611686018427387904):R 294 [lm m,I n] []=some (.tup [lm (ax (ab m/2^n)),B (decide (ab m%2^n≠0))],[]):=by
 refine au ac9 ?_;have hB:=Cs hb (aEX h1 δ);have hlen:=HP hb;obtain⟨q1,q2⟩:=amH (x:=ab m) (n:=n);generalize hk:min n (ag (ab m))=k at q1 q2;have k1:=ω
 have hs:=aaP (n:=k) hb h1;rw[av ω,aEY,q1]at hs;rw[q1]at q2;have hle:ab m/2^n*2^k<=ab m:=by
  rw[←q1];exact Nat.div_mul_le_self _ _
 have l1:O (ax (ab m/2^n))<=O m:=eN (aFl (aF1 _ _) (ft hb));have l2:=eN (aFl hle (ft hb));have hl:=Ct (aH (ab m/2^n)) ω (k:=k) ω (by rw[aJ];omega);rw[aJ]at hl;have hc:=tC (aH (ab m/2^n*2^k)) hb ω ω;rw[aJ]at hc;have hz:decide (ab m%2^n≠0)=!decide (dM (ab m/2^n*2^k) (ab m)=0):=by
  rw[←decide_not,decide_eq_decide,ne_eq,not_congr (ajn.trans q2)]
 rw[hz];generalize dM (ab m/2^n*2^k) (ab m)=c at hc⊢;by_cases h:ag (ab m)<n
 ·have e2:k=ag (ab m):=ω
  have e1:=aa ((k:Int)<n);rw[←e2]at hB;simp only[Dp,go_sem,hB,e1,hs,hl,hc]
 ·have e1:=aP (((ag (ab m)):Int)<n);have e2:k=n:=ω
  subst e2;simp only[Dp,go_sem,hB,e1,hs,hl,hc]
def IT(l:List Rd):List (List AV):=l.map ak
def FF(l:List Rd):AV:=.sl 3 (IT l)
@[go_sem] theorem aCm(l):O (IT l)=O l:=by simp[IT]
def apJ{l}{i:Int}{d}(hi:i=n)(h:l[n]?=some d):dF (IT l) i=some (.ipt (ak d)):=by
 grind[dF,IT]
def ahe(p)(l)(ok:∀d∈l,Ok0 d)(h2:O l<=100000):∀ (k i:Nat),i+k=O l->∀s h,s 0=I p->s 7=FF l->s 8=I (O l)->s 9=I i->
  ∃hh,ao 0 [0] (aB (am R (aA false) rm) [0,7,8,9] [] s h)=if((l.drop i).all vd)=true then some (.normal,⟨upd ce 0 (I p),fun _=>.dead⟩)else some (.ret,⟨upd ce 4 (I 1),hh⟩):=by
 intro k;induction k with
 |zero=>
  intro i hi s h h0 h7 h8 h9;have e1:=aP ((i:Int)<O l);rw[aFq ω,ai,aFF,ap rfl];refine⟨fun _=>.dead,?_⟩;simp only[rm,go_sem,h0,h7,h8,h9,e1]
 |succ k ih=>
  intro i hi s h h0 h7 h8 h9;have hlt:i<O l:=ω
  have e1:=aa ((i:Int)<O l);have e2:=apJ rfl (aE1 hlt);have e5:aG (i+1)=(i+1:Nat):=wi;have e3:=eC (ok l[i] (aFg hlt));rw[aFe hlt,aFa,ai];have ih':=ih (i+1) ω;generalize l[i]=d at e2 e3⊢;simp only[af]at e3;simp only[ak]at e2 e3;cases hv:vd d with
  |false=>
   rw[hv]at e3;refine⟨?hh,?_⟩;rotate_left;simp only[rm,go_sem,h0,h7,h8,h9,FF,e1,e2,e3];rfl
  |true=>
   rw[hv]at e3;simp only[rm,go_sem,h0,h7,h8,h9,FF,e1,e2,e3,e5];apply ih'<;>rfl
def bo(p:Int)(l:List Rd):Int:=if l.all vd=true then(if 8<=p/\p<=512 then 0 else 2)else 1
def BU{p}{l}(ok:∀d∈l,Ok0 d)(h2:O l<=100000):R 169 [I p,FF l] []=some (I (bo p l),[]):=by
 refine au X3 ?_;have h3:=ahe p l ok h2 (O l) 0 (aES _);simp only[aFX,aFz]at h3;unfold bo;cases ha:l.all vd with
 |false=>
  rw[ha]at h3;simp only[uQ,Bu,go_sem,FF];rw[(h3 _ _ Z Z Z Z).choose_spec];simp only[go_sem]
 |true=>
  rw[ha]at h3;by_cases hp:8<=p/\p<=512
  ·have e1:(decide (8<=p)&&decide (p<=512))=true:=γ
   have e2:=Tn (p:=p);rw[e1]at e2;rw[ap hp];simp only[uQ,Bu,go_sem,FF];rw[(h3 _ _ Z Z Z Z).choose_spec];simp only[go_sem,e2]
  ·have e1:(decide (8<=p)&&decide (p<=512))=false:=by
    grind
   have e2:=Tn (p:=p);rw[e1]at e2;rw[av hp];simp only[uQ,Bu,go_sem,FF];rw[(h3 _ _ Z Z Z Z).choose_spec];simp only[go_sem,e2]
noncomputable def gy:Cmd:=.seq (.seq (.ops [1,2,6,8,9,55] [cm 52 2,cm 53 52,cg 54 53 true (.mv (.t 10)),co 55 (.pick (.t 53) (.t 54) (.c (B false)))]) (.cond (.t 55) (.ops [1,2,6,8,9] [cm 57 9,⟨(some 58),none,.buildSl 1 [(.v (.int .u32 0))] 1 [(0,(.c (.v (.int .u32 1))))]⟩,⟨(some 59),none,.call (.c (.fn 291 [] [])) [(.t 57),(.t 58)]⟩,cm 56 59,co 60 (.ext 0 (.t 56)),co 61 (.ext 1 (.t 56)),cm 9 60]) (.skip))) (.seq (.seq (.ops [1,2,6,8,9,66] [cm 62 9,⟨(some 63),none,.call (.c (.fn 248 [] [])) [(.t 62)]⟩,cm 64 8,co 65 (.bin .add (.t 63) (.t 64)),co 66 (.bin .gtr (.t 65) (.c (I 16384)))]) (.cond (.t 66) (.seq (.seq (.ops [1,6,67] [cm 67 2]) (.cond (.t 67) (.seq (.ops [6,7] [co 68 (.build [B false,.emp,I 0] []),⟨none,none,.store 3 (.t 6) (.t 68)⟩,co 7 (.mv (.c (I 9)))]) (.ret)) (.skip))) (.seq (.ops [1,6,9] [⟨(some 70),none,.buildSl 1 [(.v (.int .u32 0))] 1 [(0,(.c (.v (.int .u32 1))))]⟩,cm 71 1,⟨(some 72),none,.call (.c (.fn 267 [] [])) [(.t 70),(.t 71)]⟩,⟨(some 73),none,.buildSl 1 [(.v (.int .u32 0))] 1 [(0,(.c (.v (.int .u32 1))))]⟩,⟨(some 74),none,.call (.c (.fn 292 [] [])) [(.t 72),(.t 73)]⟩,cm 69 74,co 75 (.ext 0 (.t 69)),co 76 (.ext 1 (.t 69)),cm 9 75]) (.ops [6,8,9] [cm 77 1,co 78 (.bin .sub (.c (I 16384)) (.t 77)),cm 8 78]))) (.skip))) (.seq (.ops [6,7] [cm 79 9,cm 80 8,⟨(some 81),none,.call (.c (.fn 323 [] [])) [(.c (B false)),(.t 79),(.t 80)]⟩,co 82 (.ext 0 (.t 81)),co 83 (.ext 1 (.t 81)),⟨none,none,.store 3 (.t 6) (.t 82)⟩,cm 7 83]) (.ret)))
theorem BV:P3=.seq (.ops [1,2,3,6] [⟨(some 3),none,.box 3 (.t 0)⟩,⟨(some 6),none,.alloc [B false,.emp,I 0]⟩,co 7 (.mv (.c (I 0)))]) (.seq (.dops [1,2,3,6,8] [co 13 (.fadr 1 (.t 3)),⟨(some 14),none,.load 1 false (.t 13)⟩,co 15 (.fadr 0 (.t 3)),⟨(some 16),none,.load 1 false (.t 15)⟩,⟨(some 17),none,.call (.c (.fn 248 [] [])) [(.t 16)]⟩,co 18 (.bin .add (.t 14) (.t 17)),cm 19 1,co 20 (.bin .sub (.t 18) (.t 19)),co 21 (.mnx false (.t 20) [(.c (.v (.int .i64 (-16384))))]),cm 8 21] [(1,4)]) (.seq (.dops [1,2,3,6,8,10] [co 22 (.fadr 0 (.t 3)),⟨(some 23),none,.load 1 false (.t 22)⟩,co 24 (.fadr 2 (.t 3)),⟨(some 25),none,.load 1 false (.t 24)⟩,cm 9 23,cm 10 25] []) (.seq (.seq (.ops [1,2,3,6,8,10,29] [co 26 (.fadr 1 (.t 3)),⟨(some 27),none,.load 1 false (.t 26)⟩,cm 28 8,co 29 (.bin .geq (.t 27) (.t 28))]) (.cond (.t 29) (.ops [1,2,6,8,9,10] [co 30 (.fadr 0 (.t 3)),⟨(some 31),none,.load 1 false (.t 30)⟩,co 32 (.fadr 1 (.t 3)),⟨(some 33),none,.load 1 false (.t 32)⟩,cm 34 8,co 35 (.bin .sub (.t 33) (.t 34)),⟨(some 36),none,.call (.c (.fn 267 [] [])) [(.t 31),(.t 35)]⟩,cm 9 36]) (.seq (.ops [1,2,6,8,10,11,12] [co 38 (.fadr 0 (.t 3)),⟨(some 39),none,.load 1 false (.t 38)⟩,cm 40 8,co 41 (.fadr 1 (.t 3)),⟨(some 42),none,.load 1 false (.t 41)⟩,co 43 (.bin .sub (.t 40) (.t 42)),⟨(some 44),none,.call (.c (.fn 294 [] [])) [(.t 39),(.t 43)]⟩,cm 37 44,co 45 (.ext 0 (.t 37)),co 46 (.ext 1 (.t 37)),cm 11 45,cm 12 46]) (.ops [1,2,6,8,9,10] [cm 47 11,cm 48 10,cm 49 48,cg 50 49 false (.mv (.t 12)),co 51 (.pick (.t 49) (.c (B true)) (.t 50)),cm 9 47,cm 10 51])))) gy))):=rfl
def fV(M:Nat)(e:Int)(p:Int):Int:=if e+(ag M)-p< -16384 then-16384 else e+(ag M)-p
def rF(M:Nat)(e:Int)(more:Bool)(u:Int):Nat×Bool:=if u<=e then(M*2^ (e-u).toNat,more)else(M/2^ (u-e).toNat,more||decide (M%2^ (u-e).toNat≠0))
def qI(up:Bool)(q:Nat×Bool):Nat:=if(up&&q.2)=true then q.1+1 else q.1
def GK(q:Nat)(u:Int):AV:=Lo (aZ false q u)
def aaS(p:Int)(up:Bool)(q:Nat)(u:Int):AV:=if 16384< (ag q)+u then(if up=true then .tup [af aC,I 9]else GK (2^p.toNat-1) (16384-p))else GK q u
def adX{q}{u}(hq:ag q<=8192)(h1:-32768<=u)(h2:u<=32768):R 323 [B false,lm (ax q),I u] []=some (GK q u,[]):=by
 have hl:O (ax q)<=256:=bk ω;rw[adU (aH q) (aFl hl δ),av ω,aJ];rfl
def ajo{q}(hq:ag q<=8000):R 291 [lm (ax q),lm [1]] []=some (.tup [lm (ax (q+1)),I 0],[]):=by
 have hl:O (ax q)<=250:=bk ω;have h1:Lb [1]:=fun x hx=>by
  grind
 have h2:=Q8 hq;have hl2:O (ax (q+1))<=256:=bk ω;rw[aaI (aH q) h1 ω δ,aJ];show some (lq (q+1),[])=_
 simp_all[lq,av]
theorem Ve:ab [1]=1:=rfl
def HQ:Lb [1]:=fun x hx=>by
 grind
def asF(n)(hn:n<=1000):R 267 [lm [1],I (n:Nat)] []=some (lm (ax (2^n)),[])/\R 292 [lm (ax (2^n)),lm [1]] []=some (.tup [lm (ax (2^n-1)),I 0],[]):=by
 have hb:ag (2^n)<=n+1:=by
  simp_all[bH,Nat.pow_lt_pow_right,Nat.lt_succ_self]
 have h1:O (ax (2^n))<=256:=bk ω;have h2:=Ct HQ δ (k:=n) ω (by simp_all[Ve,Nat.one_mul]);have h3:=Tj (aH (2^n)) HQ h1 δ;have h4:=aE7 n;have h5:ag (2^n-1)<=n:=by
  rw[bH];omega
 have h6:O (ax (2^n-1))<=256:=bk ω
 simp_all[aJ,Ve,av,lq]
theorem oj:AV.sl 1 [[AV.v (.int .u32 1)]]=lm [1]:=rfl
def Ra{n}{u}{up more}{q}(hp:8<=n/\n<=512)(hq:ag q<=7000)(hu:-16384<=u/\u<=60000)(s)(z)
  (h1:s 1=I (n:Nat)) (h2:s 2=B up) (h6:s 6=ac 6) (h8:s 8=I u) (h9:s 9=lm (ax q)) (h10:s 10=B more):
  fk false [[a9,aR,a9],[]] [.cell 6 3 true,.t 7] 0 (am R (aA false) gy s (upd (upd (fun _=>.dead) 3 z) 6 (.bx [B false,.emp,I 0])))=some (aaS n up (qI up (q,more)) u,[]):=by
 have hi:=ajo (q:=q) ω;obtain⟨t1,t2⟩:=asF n ω;have hb:ag (qI up (q,more))<=7001:=by
  unfold qI;split
  ·exact Q8 hq
  grind
 have hB:=Cs (aH (qI up (q,more))) (aEX (bk (k:=256) ω) δ);rw[aJ]at hB;have w1:aG ((ag (qI up (q,more)):Nat)+u)=(ag (qI up (q,more)):Nat)+u:=i64_in _ ⟨by omega,by omega⟩;have w2:aG (16384-n)=16384-n:=i64_in _ ⟨by omega,by omega⟩;have hm2:R 323 [B false,lm (ax (2^n-1)),I (16384-n)] []=some (GK (2^n-1) (16384-n),[]):=adX (amA ω) ω ω;unfold aaS;by_cases ho:16384< (ag (qI up (q,more)):Nat)+u
 ·have e1:=tt ho;rw[ap ho,aEY];clear ho hb;cases up with
  |false=>
   simp only[qI,aE0,av aE3]at hB w1 e1⊢;unfold GK Lo at hm2⊢;generalize aZ false (2^n-1) (16384-n)=dd at hm2⊢;simp only[af,ak]at hm2;cases hv:rP (ag (ab dd.m)) dd.e with
   |true=>
    rw[hv]at hm2;rw[ap rfl]at hm2⊢;simp only[gy,af,ak,go_sem,h1,h2,h6,h8,h9,h10,hB,w1,e1,w2,t1,t2,oj,hm2]
   |false=>
    rw[hv]at hm2;simp only[gy,af,ak,aC,go_sem,h1,h2,h6,h8,h9,h10,hB,w1,e1,w2,t1,t2,oj,hm2]
  |true=>
   cases more with
   |false=>
    simp only[qI,aFT,av aE3]at hB w1 e1⊢;simp only[gy,af,ak,aC,go_sem,h1,h2,h6,h8,h9,h10,hB,w1,e1]
   |true=>
    simp only[qI,aFE,if_true]at hB w1 e1⊢;simp only[gy,af,ak,aC,go_sem,h1,h2,h6,h8,h9,h10,hB,w1,e1,hi,oj]
 ·have e1:=ff ho;rw[av ho];have hm:=adX (q:=qI up (q,more)) (u:=u) ω ω ω;clear ho hb;cases up with
  |false=>
   simp only[qI,aE0,av aE3]at hB w1 e1 hm⊢;unfold GK Lo at hm⊢;generalize aZ false q u=dd at hm⊢;simp only[af,ak]at hm;cases hv:rP (ag (ab dd.m)) dd.e with
   |true=>
    rw[hv]at hm;rw[ap rfl]at hm⊢;simp only[gy,af,ak,go_sem,h1,h2,h6,h8,h9,h10,hB,w1,e1,hm]
   |false=>
    rw[hv]at hm;simp only[gy,af,ak,aC,go_sem,h1,h2,h6,h8,h9,h10,hB,w1,e1,hm]
  |true=>
   cases more with
   |false=>
    simp only[qI,aFT,av aE3]at hB w1 e1 hm⊢;unfold GK Lo at hm⊢;generalize aZ false q u=dd at hm⊢;simp only[af,ak]at hm;cases hv:rP (ag (ab dd.m)) dd.e with
    |true=>
     rw[hv]at hm;rw[ap rfl]at hm⊢;simp only[gy,af,ak,go_sem,h1,h2,h6,h8,h9,h10,hB,w1,e1,hm]
    |false=>
     rw[hv]at hm;simp only[gy,af,ak,aC,go_sem,h1,h2,h6,h8,h9,h10,hB,w1,e1,hm]
   |true=>
    simp only[qI,aFE,if_true]at hB w1 e1 hm⊢;unfold GK Lo at hm⊢;generalize aZ false (q+1) u=dd at hm⊢;simp only[af,ak]at hm;cases hv:rP (ag (ab dd.m)) dd.e with
    |true=>
     rw[hv]at hm;rw[ap rfl]at hm⊢;simp only[gy,af,ak,go_sem,h1,h2,h6,h8,h9,h10,hB,w1,e1,hi,oj,hm]
    |false=>
     rw[hv]at hm;simp only[gy,af,ak,aC,go_sem,h1,h2,h6,h8,h9,h10,hB,w1,e1,hi,oj,hm]
def ajp{M}(hb:Lb M)(hl:O M<=256){e}{n}{more up}(he:-40000<=e/\e<=40000)(hp:8<=n/\n<=512):R 289 [Bj M e more,I (n:Nat),B up] []=some (aaS n up (qI up (rF (ab M) e more (fV (ab M) e n))) (fV (ab M) e n),[]):=by
 refine au ac8 ?_;have hB:=Cs hb (aEX hl δ);have hlen:=HP hb;have w1:aG (e+(ag (ab M):Nat))=e+(ag (ab M):Nat):=i64_in _ ⟨by omega,by omega⟩;have w2:aG (e+(ag (ab M):Nat)- (n:Nat))=e+(ag (ab M):Nat)- (n:Nat):=i64_in _ ⟨by omega,by omega⟩;obtain⟨u,hu⟩:∃u,fV (ab M) e n=u:=⟨_,rfl⟩;rw[hu];unfold fV at hu;unfold rF;by_cases hc:u<=e
 ·have e1:=tt hc;rw[ap hc];have w3:aG (e-u)=(((e-u).toNat:Nat):Int):=wi;have hq:ag (ab M*2^ (e-u).toNat)<=7000:=by
   grind[eB]
  by_cases h64:(e-u).toNat<=65536
  ·have hs:=Ct hb ω (k:=(e-u).toNat) h64 (bk ω);simp only[ze,BV,Bj,go_sem,hB,w1,w2,hu,e1,w3,hs];exact Ra hp hq ω _ _ Z Z Z Z Z Z
  omega
 ·have e1:(u<=e)=False:=ff hc;rw[av hc];have w3:aG (u-e)=(((u-e).toNat:Nat):Int):=wi;have hs:=adW hb ω (n:=(u-e).toNat) ω;have hq:ag (ab M/2^ (u-e).toNat)<=7000:=by
   grind[pp]
  cases more with
  |false=>
   rw[Bool.false_or];simp only[ze,BV,Bj,go_sem,hB,w1,w2,hu,e1,w3,hs];exact Ra hp hq ω _ _ Z Z Z Z Z Z
  |true=>
   rw[Bool.true_or];simp only[ze,BV,Bj,go_sem,hB,w1,w2,hu,e1,w3,hs];exact Ra hp hq ω _ _ Z Z Z Z Z Z
def cA(d:Rd):Rd×Int:=if rP (ag (ab d.m)) d.e=true then(d,0)else(aC,9)
def tU(p:Int)(up:Bool)(q:Nat)(u:Int):Rd×Int:=if 16384< (ag q)+u then(if up=true then(aC,9)else cA (aZ false (2^p.toNat-1) (16384-p)))else cA (aZ false q u)
def rV(r:Rd×Int):AV:=.tup [af r.1,I r.2]
theorem Oz(d):Lo d=rV (cA d):=by
 unfold Lo cA;split<;>rfl
theorem adY(p)(up)(q)(u):aaS p up q u=rV (tU p up q u):=by
 unfold aaS tU GK;split
 ·split
  ·rfl
  grind[Oz]
 grind[Oz]
theorem aaT(n):ag (2^n-1)<=n:=by
 rw[bH];grind
def apK(p)(up)(q)(u):Lb (tU p up q u).1.m:=by
 have h0:Lb aC.m:=fun x hx=>nomatch hx
 grind[Lb,cA,tU,sx]
def amI(p)(up)(q)(u)(hp:p.toNat<=8000)(hq:ag q<=8000):(tU p up q u).1.m.length<=256:=by
 have h0:O aC.m<=256:=aE9 _;have hc:∀d,O d.m<=256->(cA d).1.m.length<=256:=fun d hd=>by
  grind[cA]
 grind[tU,pq,aEX,aaT]
def gW(d:Rd):Rd:=if vd d=false\/O d.m=0 then aC else⟨!d.neg,d.m,d.e⟩
def cx(M:Nat)(e:Int)(more:Bool)(p:Int)(up:Bool):Rd×Int:=tU p up (qI up (rF M e more (fV M e p))) (fV M e p)
def iq(neg:Bool)(r:Rd×Int):Rd×Int:=if r.2=0/\neg=true then(gW r.1,r.2)else r
def ajq{M}{e}{more up}{n}(hM:ag M<=8192)(hp:8<=n/\n<=512)(he:-40000<=e/\e<=40000):ag (qI up (rF M e more (fV M e (n:Nat))))<=7001:=by
 have hq:ag (rF M e more (fV M e n)).1<=7000:=by
  obtain⟨u,hu⟩:∃u,fV M e n=u:=⟨_,rfl⟩;rw[hu];unfold fV at hu;unfold rF;split
  ·grind[eB]
  grind[pp]
 unfold qI;split
 ·exact Q8 hq
 omega
def IU{M}(hb:Lb M)(hl:O M<=256){e}{n}{more up neg}(he:-40000<=e/\e<=40000)(hp:8<=n/\n<=512):R 247 [B neg,Bj M e more,I (n:Nat),B up] []=some (rV (iq neg (cx (ab M) e more n (up !=neg))),[]):=by
 refine au UW ?_;have hc:=ajp (more:=more) (up:=up !=neg) hb hl he hp;have hlen:=HP hb;have hB:=ajq (M:=ab M) (e:=e) (more:=more) (up:=up !=neg) ω hp he;rw[adY]at hc;have hL:=apK n (up !=neg) (qI (up !=neg) (rF (ab M) e more (fV (ab M) e n))) (fV (ab M) e n);have hN:=amI n (up !=neg) (qI (up !=neg) (rF (ab M) e more (fV (ab M) e n))) (fV (ab M) e n) ω ω;unfold cx;generalize tU n (up !=neg) (qI (up !=neg) (rF (ab M) e more (fV (ab M) e n))) (fV (ab M) e n)=r at hc hL hN⊢;obtain⟨d,x⟩:=r;have hn:=Dz (d:=d) ⟨hL,aFl hN δ⟩;simp only[rV,af,ak,Bj]at hc hn;unfold iq gW;by_cases hx:x=0
 ·have e1:=tt hx;cases neg with
  |false=>
   simp only[te,rV,af,ak,Bj,go_sem,DA,hc,e1]
  |true=>
   simp only[te,rV,af,ak,Bj,go_sem,DA,hc,e1,hn]
 ·have e1:=ff hx;simp only[te,rV,af,ak,Bj,go_sem,DA,hc,e1]
def xu(d:Rd)(p:Int)(up:Bool):Rd×Int:=if bo p [d]=0 then iq d.neg (cx (ab d.m) d.e false p (up !=d.neg))else(aC,bo p [d])
def vM{p}{l}(h:bo p l=0):l.all vd=true/\8<=p/\p<=512:=by
 unfold bo at h;split at h
 ·rename_i h1;split at h
  ·rename_i h2;exact⟨h1,h2⟩
  ·exact nomatch h
 ·exact nomatch h
def vB{d}(h:vd d=true)(hb:Lb d.m):O d.m<=128:=by
 obtain⟨h1,h2,h3,h4⟩:=dT h hb;by_cases h0:O d.m=0
 ·omega
 obtain⟨g1,g2,g3,g4⟩:=FE h h0;have h5:4294967296^ (O d.m-1)<=ab d.m:=by
  have h6:=Mf (a:=d.m) (i:=O d.m-1) ω;rw[show O d.m-1+1=O d.m by omega,List.take_length]at h6;rw[h6];exact aEX (Nat.le_mul_of_pos_right _ (Nat.pos_of_ne_zero g3)) (Nat.le_add_left _ _)
 have h7:32*(O d.m-1)<ag (ab d.m):=by
  rw[mE,Nat.pow_mul];exact h5
 omega
def Lp{d}(ok:Ok0 d){p}{up}:R 245 [af d,I p,B up] []=some (rV (xu d p up),[]):=by
 refine au Yd ?_;have hf:R 169 [I p,.sl 3 [[B d.neg,lm d.m,I d.e]]] []=some (I (bo p [d]),[]):=BU (p:=p) (l:=[d]) (fun x hx=>by rw[List.mem_singleton.1 hx];exact ok) (show 1<=100000 by decide);unfold xu;by_cases h0:bo p [d]=0
 ·obtain⟨v1,v2,v3⟩:=vM h0;have v4:=by simpa using v1
  obtain⟨h1,h2,h3,h4⟩:=dT v4 ok.lb;have h5:=vB v4 ok.lb;rw[ap h0];rw[h0]at hf;obtain⟨n,rfl⟩:=aFy (show 0<=p by omega);have hs:=IU (M:=d.m) (e:=d.e) (n:=n) (more:=false) (up:=up) (neg:=d.neg) ok.lb ω ⟨by omega,by omega⟩ ⟨by omega,by omega⟩;have ho:=avP (d:=d);generalize iq d.neg (cx (ab d.m) d.e false n (up !=d.neg))=r at hs⊢;simp only[rV,af,ak,Bj]at hs ho;simp only[Af,rV,af,ak,go_sem,hf,hs,ho]
 ·have e1:=ff h0;rw[av h0];simp only[Af,rV,af,ak,aC,go_sem,hf,e1]
def asG{d}(ok:Ok0 d){p}:R 271 [af d,I p] []=some (rV (xu d p true),[]):=by
 refine au ag2 ?_;have hr:=Lp ok (p:=p) (up:=true);generalize xu d p true=r at hr⊢;simp only[rV,af,ak]at hr;simp only[Jn,rV,af,ak,go_sem,hr]
def amJ{d}(ok:Ok0 d){p}:R 270 [af d,I p] []=some (rV (xu d p false),[]):=by
 refine au aav ?_;have hr:=Lp ok (p:=p) (up:=false);generalize xu d p false=r at hr⊢;simp only[rV,af,ak]at hr;simp only[F7,rV,af,ak,go_sem,hr]
def Ns(a b:Rd)(p:Int)(up:Bool):Rd×Int:=if bo p [a,b]=0 then(if O a.m=0\/O b.m=0 then(aC,0)else iq (a.neg !=b.neg) (cx (ab a.m*ab b.m) (a.e+b.e) false p (up != (a.neg !=b.neg))))else(aC,bo p [a,b])
def adZ{a b}(oa:Ok0 a)(ob:Ok0 b){p}{up}:R 198 [af a,af b,I p,B up] []=some (rV (Ns a b p up),[]):=by
 refine au ac0 ?_;have hf:R 169 [I p,.sl 3 [[B a.neg,lm a.m,I a.e],[B b.neg,lm b.m,I b.e]]] []=some (I (bo p [a,b]),[]):=BU (p:=p) (l:=[a,b]) (fun x hx=>by
  rcases List.mem_cons.1 hx with h|h
  ·rw[h];exact oa
  ·rw[List.mem_singleton.1 h];exact ob) (show 2<=100000 by decide)
 unfold Ns;by_cases h0:bo p [a,b]=0
 ·obtain⟨v1,v2,v3⟩:=vM h0;have v4:=by simpa using v1
  obtain⟨va,vb⟩:=v4;obtain⟨a1,a2,a3,a4⟩:=dT va oa.lb;obtain⟨b1,b2,b3,b4⟩:=dT vb ob.lb;rw[ap h0];rw[h0]at hf;by_cases a0:O a.m=0
  ·have e1:=aa ((O a.m:Int)=0);rw[ap (Or.inl a0)];simp only[uR,rV,af,ak,aC,go_sem,hf,e1]
  have e1:=aP ((O a.m:Int)=0);by_cases b0:O b.m=0
  ·have e2:=aa ((O b.m:Int)=0);rw[ap (Or.inr b0)];simp only[uR,rV,af,ak,aC,go_sem,hf,e1,e2]
  have e2:=aP ((O b.m:Int)=0);rw[av (fun h=>h.elim a0 b0)];obtain⟨n,rfl⟩:=aFy (show 0<=p by omega);have hp:=Nr (ab a.m) (ab b.m);have hl:O (ax (ab a.m*ab b.m))<=256:=bk ω;have hm:=J6 oa.lb ob.lb a1 b1;rw[lq,av ω]at hm;have w3:aG (a.e+b.e)=a.e+b.e:=i64_in _ ⟨by omega,by omega⟩;have hs:=IU (M:=ax (ab a.m*ab b.m)) (e:=a.e+b.e) (n:=n) (more:=false) (up:=up) (neg:=a.neg !=b.neg) (aH _) hl ⟨by omega,by omega⟩ ⟨by omega,by omega⟩;rw[aJ]at hs;generalize iq (a.neg !=b.neg) (cx (ab a.m*ab b.m) (a.e+b.e) false n (up != (a.neg !=b.neg)))=r at hs⊢;simp only[rV,af,ak,Bj]at hs;simp only[uR,rV,af,ak,go_sem,hf,e1,e2,hm,w3,DA,hs]
 ·have e1:=ff h0;rw[av h0];simp only[uR,rV,af,ak,aC,go_sem,hf,e1]
def amK{a b}(oa:Ok0 a)(ob:Ok0 b){p}:R 138 [af a,af b,I p] []=some (rV (Ns a b p true),[]):=by
 refine au xp ?_;have hr:=adZ oa ob (p:=p) (up:=true);generalize Ns a b p true=r at hr⊢;simp only[rV,af,ak]at hr;simp only[Ea,rV,af,ak,go_sem,hr]
def ahf{a b}(oa:Ok0 a)(ob:Ok0 b){p}:R 137 [af a,af b,I p] []=some (rV (Ns a b p false),[]):=by
 refine au tv ?_;have hr:=adZ oa ob (p:=p) (up:=false);generalize Ns a b p false=r at hr⊢;simp only[rV,af,ak]at hr;simp only[BJ,rV,af,ak,go_sem,hr]
theorem m8{n}(hn:kR n):R 64 [I n] []=some (af (aZ (decide (n<0)) n.natAbs 0),[]):=by
 refine au Z6 ?_;obtain⟨h1,h2⟩:=hn;obtain⟨x,hx⟩:∃x,n.natAbs=x:=⟨_,rfl⟩;have hv:ab [x%4294967296,x/4294967296]=x:=by
  show x%4294967296+4294967296*(x/4294967296+4294967296*0)=x;omega
 have hL:Lb [x%4294967296,x/4294967296]:=fun y hy=>by
  rcases List.mem_cons.1 hy with h|h
  ·omega
  ·rw[List.mem_singleton.1 h];omega
 have hc:∀neg,R 139 [B neg,.sl 1 [[.v (.int .u32 (x%4294967296:Nat))],[.v (.int .u32 (x/4294967296:Nat))]],I 0] []=some (af (aZ neg x 0),[]):=fun neg=>by
  have:=l6 (neg:=neg) (e:=0) hL (by show 2<=256;decide) ⟨by decide,by decide⟩;rw[hv]at this;exact this
 have w2:IntKind.u32.wrap x=(x%4294967296:Nat):=Li rfl;have w3:IntKind.u32.wrap (x/4294967296:Nat)=(x/4294967296:Nat):=WF rfl ω;have w4:fK .shr (.v (.int .u64 x)) (.v (.int .u64 32))=some (.v (.int .u64 (x/4294967296:Nat))):=Fb (k:=32) Z Z δ;rw[hx];by_cases h0:n<0
 ·have e1:=tt h0;have w5:IntKind.u64.wrap (0-IntKind.u64.wrap n)=x:=by
   have q:∀z,IntKind.u64.wrap z=z%18446744073709551616:=fun z=>rfl;rw[q,q];omega
  have hc':=hc (decide (n<0));generalize aZ (decide (n<0)) x 0=d at hc'⊢;rw[decide_eq_true h0]at hc';simp only[af,ak]at hc';simp only[Bq,af,ak,go_sem,e1,w2,w3,w4,w5,hc']
 ·have e1:=ff h0;have w5:IntKind.u64.wrap n=x:=iH ω ω;have hc':=hc (decide (n<0));generalize aZ (decide (n<0)) x 0=d at hc'⊢;rw[decide_eq_false h0]at hc';simp only[af,ak]at hc';simp only[Bq,af,ak,go_sem,e1,w2,w3,w4,w5,hc']
def A6(a b:Rd)(p:Int):Int:=
 if aQ a-aQ b<=2 then(if b.e< (if aQ a-p-8<a.e then aQ a-p-8 else a.e)then b.e else(if aQ a-p-8<a.e then aQ a-p-8 else a.e))
 else(if aQ a-p-8<a.e then aQ a-p-8 else a.e)
def yZ(b:Rd)(l:Int):Nat×Bool:=if l<=b.e then(ab b.m*2^ (b.e-l).toNat,false)else(ab b.m/2^ (l-b.e).toNat,decide (ab b.m%2^ (l-b.e).toNat≠0))
def yB(y:Nat×Bool):Nat:=if y.2=true then y.1+1 else y.1
def Gf(a b:Rd)(p:Int):(Nat×Int×Bool)×Bool:=
 let l:=A6 a b p
 let x:=ab a.m*2^ (a.e-l).toNat
 let y:=yZ b l
 if a.neg=b.neg then((x+y.1,l,y.2),false)
 else if x<yB y then((yB y-x,l,false),true)
 else((x-yB y,l,y.2),false)
def Vf{a b}{p}:A6 a b p<=a.e:=by
 unfold A6;have h:(if aQ a-p-8<a.e then aQ a-p-8 else a.e)<=a.e:=by
  split<;>omega
 generalize(if aQ a-p-8<a.e then aQ a-p-8 else a.e)=z at h⊢;split
 ·split<;>omega
 ·exact h
theorem kJ{d}(h:vd d=true)(h0:O d.m≠0):aQ d=(ag (ab d.m))+d.e:=by
 rw[aQ,av (fun h'=>h'.elim (fun h''=>by rw[h]at h'';exact nomatch h'') h0)]
def Rb{a b}{p}(va:vd a=true)(vb:vd b=true)(la:Lb a.m)(lb:Lb b.m)(na:O a.m≠0)(nb:O b.m≠0)(hp:8<=p/\p<=512)(ht:aQ b<=aQ a):
  aQ a-A6 a b p<=4098:=by
 obtain⟨a1,a2,a3,a4⟩:=dT va la;obtain⟨b1,b2,b3,b4⟩:=dT vb lb;have e1:=kJ va na;have e2:=kJ vb nb;unfold A6;have h:aQ a- (if aQ a-p-8<a.e then aQ a-p-8 else a.e)<=4098:=by
  split<;>omega
 generalize(if aQ a-p-8<a.e then aQ a-p-8 else a.e)=z at h⊢;split
 ·split<;>omega
 ·exact h
noncomputable def pu:Cmd:=.seq (.seq (.ops [6,8,9,10,11,68] [co 64 (.fadr 0 (.t 3)),⟨(some 65),none,.load 1 false (.t 64)⟩,co 66 (.fadr 0 (.t 4)),⟨(some 67),none,.load 1 false (.t 66)⟩,co 68 (.eqc false 0 (.t 65) (.t 67))]) (.cond (.t 68) (.seq (.ops [6,8,11,12] [cm 70 9,cm 71 10,⟨(some 72),none,.call (.c (.fn 291 [] [])) [(.t 70),(.t 71)]⟩,cm 69 72,co 73 (.ext 0 (.t 69)),co 74 (.ext 1 (.t 69)),cm 12 73,cm 13 74]) (.seq (.ops [6,7] [cm 75 12,cm 76 8,cm 77 11,co 78 (.build [.emp,I 0,B false] [(0,1,(.t 75)),(1,1,(.t 76)),(2,1,(.t 77))]),⟨none,none,.store 3 (.t 6) (.t 78)⟩,co 7 (.mv (.c (B false)))]) (.ret))) (.skip))) (.seq (.seq (.ops [6,8,9,10,11,79] [cm 79 11]) (.cond (.t 79) (.ops [6,8,9,10,11] [cm 81 10,⟨(some 82),none,.buildSl 1 [(.v (.int .u32 0))] 1 [(0,(.c (.v (.int .u32 1))))]⟩,⟨(some 83),none,.call (.c (.fn 291 [] [])) [(.t 81),(.t 82)]⟩,cm 80 83,co 84 (.ext 0 (.t 80)),co 85 (.ext 1 (.t 80)),cm 10 84]) (.skip))) (.seq (.seq (.ops [6,8,9,10,11,89] [cm 86 9,cm 87 10,⟨(some 88),none,.call (.c (.fn 222 [] [])) [(.t 86),(.t 87)]⟩,co 89 (.bin .lss (.t 88) (.c (I 0)))]) (.cond (.t 89) (.seq (.ops [6,8,14] [cm 91 10,cm 92 9,⟨(some 93),none,.call (.c (.fn 292 [] [])) [(.t 91),(.t 92)]⟩,cm 90 93,co 94 (.ext 0 (.t 90)),co 95 (.ext 1 (.t 90)),cm 14 94,cm 15 95]) (.seq (.ops [6,7] [cm 96 14,cm 97 8,co 98 (.build [.emp,I 0,B false] [(0,1,(.t 96)),(1,1,(.t 97)),(2,1,(.c (B false)))]),⟨none,none,.store 3 (.t 6) (.t 98)⟩,co 7 (.mv (.c (B true)))]) (.ret))) (.skip))) (.seq (.ops [6,8,11,16] [cm 100 9,cm 101 10,⟨(some 102),none,.call (.c (.fn 292 [] [])) [(.t 100),(.t 101)]⟩,cm 99 102,co 103 (.ext 0 (.t 99)),co 104 (.ext 1 (.t 99)),cm 16 103,cm 17 104]) (.seq (.ops [6,7] [cm 105 16,cm 106 8,cm 107 11,co 108 (.build [.emp,I 0,B false] [(0,1,(.t 105)),(1,1,(.t 106)),(2,1,(.t 107))]),⟨none,none,.store 3 (.t 6) (.t 108)⟩,co 7 (.mv (.c (B false)))]) (.ret)))))
theorem zD:P2=.seq (.ops [2,3,4,6] [⟨(some 3),none,.box 3 (.t 0)⟩,⟨(some 4),none,.box 3 (.t 1)⟩,⟨(some 6),none,.alloc [.emp,I 0,B false]⟩,co 7 (.mv (.c (B false)))]) (.seq (.dops [3,4,6,8] [co 18 (.fadr 2 (.t 3)),⟨(some 19),none,.load 1 false (.t 18)⟩,⟨(some 20),none,.load 3 true (.t 3)⟩,⟨(some 21),none,.call (.c (.fn 218 [] [])) [(.t 20)]⟩,cm 22 2,co 23 (.bin .sub (.t 21) (.t 22)),co 24 (.bin .sub (.t 23) (.c (I 8))),co 25 (.mnx true (.t 19) [(.t 24)]),cm 8 25] [(1,3)]) (.seq (.seq (.dops [3,4,6,8,31] [⟨(some 26),none,.load 3 true (.t 3)⟩,⟨(some 27),none,.call (.c (.fn 218 [] [])) [(.t 26)]⟩,⟨(some 28),none,.load 3 true (.t 4)⟩,⟨(some 29),none,.call (.c (.fn 218 [] [])) [(.t 28)]⟩,co 30 (.bin .sub (.t 27) (.t 29)),co 31 (.bin .leq (.t 30) (.c (I 2)))] [(1,2)]) (.cond (.t 31) (.ops [3,4,6,8] [cm 32 8,co 33 (.fadr 2 (.t 4)),⟨(some 34),none,.load 1 false (.t 33)⟩,co 35 (.mnx true (.t 32) [(.t 34)]),cm 8 35]) (.skip))) (.seq (.ops [3,4,6,8,9] [co 36 (.fadr 1 (.t 3)),⟨(some 37),none,.load 1 false (.t 36)⟩,co 38 (.fadr 2 (.t 3)),⟨(some 39),none,.load 1 false (.t 38)⟩,cm 40 8,co 41 (.bin .sub (.t 39) (.t 40)),⟨(some 42),none,.call (.c (.fn 267 [] [])) [(.t 37),(.t 41)]⟩,cm 9 42]) (.seq (.ops [3,4,6,8,9] [co 10 (.mv (.c .emp))]) (.seq (.ops [3,4,6,8,9,11] [co 11 (.mv (.c (B false)))]) (.seq (.seq (.ops [3,4,6,8,9,11,46] [co 43 (.fadr 2 (.t 4)),⟨(some 44),none,.load 1 false (.t 43)⟩,cm 45 8,co 46 (.bin .geq (.t 44) (.t 45))]) (.cond (.t 46) (.ops [3,4,6,8,9,10,11] [co 47 (.fadr 1 (.t 4)),⟨(some 48),none,.load 1 false (.t 47)⟩,co 49 (.fadr 2 (.t 4)),⟨(some 50),none,.load 1 false (.t 49)⟩,cm 51 8,co 52 (.bin .sub (.t 50) (.t 51)),⟨(some 53),none,.call (.c (.fn 267 [] [])) [(.t 48),(.t 52)]⟩,cm 10 53]) (.ops [3,4,6,8,9,10,11] [co 55 (.fadr 1 (.t 4)),⟨(some 56),none,.load 1 false (.t 55)⟩,cm 57 8,co 58 (.fadr 2 (.t 4)),⟨(some 59),none,.load 1 false (.t 58)⟩,co 60 (.bin .sub (.t 57) (.t 59)),⟨(some 61),none,.call (.c (.fn 294 [] [])) [(.t 56),(.t 60)]⟩,cm 54 61,co 62 (.ext 0 (.t 54)),co 63 (.ext 1 (.t 54)),cm 10 62,cm 11 63]))) pu)))))):=rfl
def Vg(an bn:Bool)(X Y:Nat)(l:Int)(lost:Bool):(Nat×Int×Bool)×Bool:=
 if an=bn then((X+Y,l,lost),false)else if X<yB (Y,lost)then((yB (Y,lost)-X,l,false),true)else((X-yB (Y,lost),l,lost),false)
def sV(r:(Nat×Int×Bool)×Bool):AV:=.tup [Bj (ax r.1.1) r.1.2.1 r.1.2.2,B r.2]
def Lq{x y k}(hx:ag x<=k)(hy:ag y<=k):ag (x+y)<=k+1:=by
 rw[bH]at hx hy⊢;omega
def ad0{x y}(hx:ag x<=5000)(hy:ag y<=5000):R 291 [lm (ax x),lm (ax y)] []=some (.tup [lm (ax (x+y)),I 0],[]):=by
 have h1:O (ax x)<=200:=bk ω;have h2:O (ax y)<=200:=bk ω;have h3:=Lq hx hy;have h4:O (ax (x+y))<=200:=bk ω;rw[aaI (aH x) (aH y) ω ω,aJ,aJ,lq,av ω]
def OA{x y}(hx:ag x<=5000)(hy:ag y<=5000)(h:y<=x):R 292 [lm (ax x),lm (ax y)] []=some (.tup [lm (ax (x-y)),I 0],[]):=by
 have h1:O (ax x)<=200:=bk ω;have h2:O (ax y)<=200:=bk ω;have h3:ag (x-y)<=5000:=by
  rw[bH]at hx⊢;omega
 have h4:O (ax (x-y))<=200:=bk ω;rw[Tj (aH x) (aH y) ω ω,aJ,aJ,av ω,lq,av ω]
def Rc{an bn}{ma mb}{ea eb}{X Y}{l}{lost}(hX:ag X<=4100)(hY:ag Y<=4100)(s)
  (h3:s 3=ac 3) (h4:s 4=ac 4) (h6:s 6=ac 6) (h8:s 8=I l) (h9:s 9=lm (ax X)) (h10:s 10=lm (ax Y)) (h11:s 11=B lost):
  fk false [[aR,a9,a9],[]] [.cell 6 3 true,.t 7] 0 (am R (aA false) pu s (upd (upd (upd (fun _=>.dead) 3 (.bx [.v (.bool an),ma,ea])) 4 (.bx [.v (.bool bn),mb,eb])) 6 (.bx [.emp,I 0,B false])))=some (sV (Vg an bn X Y l lost),[]):=by
 unfold Vg;by_cases hs:an=bn
 ·subst hs;have e1:(false != (an==an))=true:=γ
  have ha:=ad0 (x:=X) (y:=Y) ω ω;simp only[pu,sV,Bj,go_sem,h3,h4,h6,h8,h9,h10,h11,e1,ha]
 ·rw[av hs];have e1:(false != (an==bn))=false:=γ
  have hU:ag (yB (Y,lost))<=4101:=by
   unfold yB;split
   ·exact Lq hY (amB _)
   grind
  have hi:=ajo (q:=Y) ω;have hc:=tC (aH X) (aH (yB (Y,lost))) (aEX (bk (k:=200) ω) δ) (aEX (bk (k:=200) ω) δ);rw[aJ,aJ]at hc;by_cases hx:X<yB (Y,lost)
  ·have ha:=OA (x:=yB (Y,lost)) (y:=X) ω ω ω;rw[ap hx];rw[dM,ap hx]at hc;cases lost with
   |false=>
    simp only[yB,av aE3]at hc ha⊢;simp only[pu,sV,Bj,go_sem,aEN,h3,h4,h6,h8,h9,h10,h11,e1,hc,ha]
   |true=>
    simp only[yB,if_true]at hc ha⊢;simp only[pu,sV,Bj,go_sem,aEN,h3,h4,h6,h8,h9,h10,h11,e1,oj,hi,hc,ha]
  ·have ha:=OA (x:=X) (y:=yB (Y,lost)) ω ω ω;rw[av hx];have hd:(dM X (yB (Y,lost))<0)=False:=ff (by
    unfold dM;omega)
   cases lost with
   |false=>
    simp only[yB,av aE3]at hc ha hd⊢;simp only[pu,sV,Bj,go_sem,h3,h4,h6,h8,h9,h10,h11,e1,hc,hd,ha]
   |true=>
    simp only[yB,if_true]at hc ha hd⊢;simp only[pu,sV,Bj,go_sem,h3,h4,h6,h8,h9,h10,h11,e1,oj,hi,hc,hd,ha]
theorem Vh(a b)(p):Gf a b p=Vg a.neg b.neg (ab a.m*2^ (a.e-A6 a b p).toNat) (yZ b (A6 a b p)).1 (A6 a b p) (yZ b (A6 a b p)).2:=rfl
def asH{a b}(oa:Ok0 a)(ob:Ok0 b)(va:vd a=true)(vb:vd b=true)(na:O a.m≠0)(nb:O b.m≠0){p}(hp:8<=p/\p<=512)(ht:aQ b<=aQ a):
  R 246 [af a,af b,I p] []=some (sV (Gf a b p),[]):=by
 refine au ac5 ?_;have ta:=pW oa;have tb:=pW ob;simp only[af,ak]at ta tb;have e1:=kJ va na;have e2:=kJ vb nb;obtain⟨a1,a2,a3,a4⟩:=dT va oa.lb;obtain⟨b1,b2,b3,b4⟩:=dT vb ob.lb;have l1:=Vf (a:=a) (b:=b) (p:=p);have l2:=Rb va vb oa.lb ob.lb na nb hp ht;have w1:aG (aQ a-p)=aQ a-p:=i64_in _ ⟨by omega,by omega⟩;have w2:aG (aQ a-p-8)=aQ a-p-8:=i64_in _ ⟨by omega,by omega⟩;have w3:aG (aQ a-aQ b)=aQ a-aQ b:=i64_in _ ⟨by omega,by omega⟩;rw[Vh];obtain⟨l,hl⟩:∃l,A6 a b p=l:=⟨_,rfl⟩;rw[hl]at l1 l2⊢;unfold A6 at hl;obtain⟨z,hz⟩:∃z,(if aQ a-p-8<a.e then aQ a-p-8 else a.e)=z:=⟨_,rfl⟩;rw[hz]at hl;have w4:aG (a.e-l)=(((a.e-l).toNat:Nat):Int):=wi;have hX:ag (ab a.m*2^ (a.e-l).toNat)<=4100:=by
  grind[eB,dN]
 have sX:=Ct oa.lb a1 (k:=(a.e-l).toNat) ω (bk ω);by_cases h2:aQ a-aQ b<=2
 ·have f1:=tt h2;rw[ap h2]at hl;by_cases hb:l<=b.e
  ·have f2:=tt hb;have w5:aG (b.e-l)=(((b.e-l).toNat:Nat):Int):=wi;have hY:ag (ab b.m*2^ (b.e-l).toNat)<=4100:=by
    grind[eB,dN]
   have sY:=Ct ob.lb b1 (k:=(b.e-l).toNat) ω (bk ω);rw[yZ,ap hb];simp only[y8,zD,af,ak,go_sem,ta,tb,w1,w2,w3,w4,w5,hz,hl,f1,f2,sX,sY];exact Rc hX hY _ Z Z Z Z Z Z Z
  omega
 ·have f1:=ff h2;rw[av h2]at hl;by_cases hb:l<=b.e
  ·have f2:=tt hb;have w5:aG (b.e-l)=(((b.e-l).toNat:Nat):Int):=wi;have hY:ag (ab b.m*2^ (b.e-l).toNat)<=4100:=by
    grind[eB,dN]
   have sY:=Ct ob.lb b1 (k:=(b.e-l).toNat) ω (bk ω);rw[yZ,ap hb];simp only[y8,zD,af,ak,go_sem,ta,tb,w1,w2,w3,w4,w5,hz,hl,f1,f2,sX,sY];exact Rc hX hY _ Z Z Z Z Z Z Z
  ·have f2:(l<=b.e)=False:=ff hb;have w5:aG (l-b.e)=(((l-b.e).toNat:Nat):Int):=wi;have hY:ag (ab b.m/2^ (l-b.e).toNat)<=4100:=by
    grind[pp]
   have sY:=adW ob.lb b1 (n:=(l-b.e).toNat) ω;rw[yZ,av hb];simp only[y8,zD,af,ak,go_sem,ta,tb,w1,w2,w3,w4,w5,hz,hl,f1,f2,sX,sY];exact Rc hX hY _ Z Z Z Z Z Z Z
def aaU(a b:Rd)(p:Int)(up:Bool):Rd×Int:=
 let s:=Gf a b p
 if s.1.1=0/\s.1.2.2=false then(aC,0)else iq (a.neg !=s.2) (cx s.1.1 s.1.2.1 s.1.2.2 p (up != (a.neg !=s.2)))
def Vi(a b:Rd)(p:Int)(up:Bool):Rd×Int:=
 if bo p [a,b]=0 then(if O a.m=0 then xu b p up else if O b.m=0 then xu a p up else if aQ a<aQ b then aaU b a p up else aaU a b p up)
 else(aC,bo p [a,b])
def Re{a b}(oa:Ok0 a)(ob:Ok0 b){p}{up}(h:bo p [a,b]≠0\/O a.m=0\/O b.m=0):R 188 [af a,af b,I p,B up] []=some (rV (Vi a b p up),[]):=by
 refine au P4 ?_;have hf:R 169 [I p,.sl 3 [[B a.neg,lm a.m,I a.e],[B b.neg,lm b.m,I b.e]]] []=some (I (bo p [a,b]),[]):=BU (p:=p) (l:=[a,b]) (fun x hx=>by
  rcases List.mem_cons.1 hx with h|h
  ·rw[h];exact oa
  ·rw[List.mem_singleton.1 h];exact ob) (show 2<=100000 by decide)
 have ra:=Lp oa (p:=p) (up:=up);have rb:=Lp ob (p:=p) (up:=up);unfold Vi;generalize xu a p up=qa at ra⊢;generalize xu b p up=qb at rb⊢;simp only[rV,af,ak]at ra rb;by_cases h0:bo p [a,b]=0
 ·rw[ap h0];rw[h0]at hf;by_cases a0:O a.m=0
  ·have e1:=aa ((O a.m:Int)=0);rw[ap a0];simp only[rp,Be,rV,af,ak,go_sem,hf,e1,rb]
  have e1:=aP ((O a.m:Int)=0);have b0:=(h.resolve_left (fun h'=>h' h0)).resolve_left a0;have e2:=aa ((O b.m:Int)=0);rw[av a0,ap b0];simp only[rp,Be,rV,af,ak,go_sem,hf,e1,e2,ra]
 ·have e1:=ff h0;rw[av h0];simp only[rp,Be,rV,af,ak,aC,go_sem,hf,e1]
theorem amL{k:Nat}{u:Int}{more}(hm:more=decide (N%2^k≠0))(hu:more=true->f+k<u):rF (N/2^k) (f+k) more u=rF N f false u:=by
 unfold rF;by_cases h:u<=f+k
 ·rw[ap h];have hf:more=false:=by
   grind
  subst hf;have h0:N%2^k=0:=by
   grind
  obtain⟨M,rfl⟩:=Nat.dvd_of_mod_eq_zero h0;rw[Nat.mul_div_cancel_left _ (aE7 k)];by_cases h2:u<=f
  ·rw[ap h2,show(f+k-u).toNat=k+(f-u).toNat by omega,aE2,aFd (2^k) M,aFj]
  ·obtain⟨j,hj⟩:∃j,(f+k-u).toNat=j:=⟨_,rfl⟩;obtain⟨i,hi⟩:∃i,(u-f).toNat=i:=⟨_,rfl⟩;have hk:k=i+j:=ω
   grind[aE2,aFj,Nat.mul_div_cancel_left,aE7,Nat.mul_mod_right,aFd]
 ·rw[av h,av ω];obtain⟨j,hj⟩:∃j,(u- (f+k)).toNat=j:=⟨_,rfl⟩;rw[show(u-f).toNat=k+j by omega,hj,aE2,Nat.div_div_eq_div_mul,Nat.mod_mul,hm];refine Prod.ext rfl ?_;show(decide (N%2^k≠0)||decide (N/2^k%2^j≠0))=(false||decide (N%2^k+2^k*(N/2^k%2^j)≠0));rw[Bool.false_or,←Bool.decide_or];congr 1;refine propext ⟨fun h3 h4=>?_,fun h3=>?_⟩
  ·obtain⟨h5,h6⟩:=Nat.add_eq_zero_iff.1 h4;rcases Nat.mul_eq_zero.1 h6 with h7|h7
   all_goals omega
  grind
theorem ajr{k:Nat}{f p}(hM:N/2^k≠0):fV (N/2^k) (f+k) p=fV N f p:=by
 grind[fV,pp,ag]
theorem Vj{k:Nat}{more up}(hM:N/2^k≠0)(hm:more=decide (N%2^k≠0))(hp:more=true->p< (ag (N/2^k))):cx (N/2^k) (f+k) more p up=cx N f false p up:=by
 unfold cx;have hu:more=true->f+k<fV (N/2^k) (f+k) p:=fun h=>by
  grind[fV]
 grind[amL,ajr]
theorem IV{k:Nat}{f p}{up}(hM:M≠0):cx (M*2^k) f false p up=cx M (f+k) false p up:=by
 have h1:M*2^k/2^k=M:=Nat.mul_div_cancel _ (aE7 k);have:=Vj (N:=M*2^k) (k:=k) (f:=f) (p:=p) (more:=false) (up:=up) ω (by simp_all) (fun h=>absurd h aE3);grind
def kS(z f p:Int)(up:Bool):Rd×Int:=if z=0 then(aC,0)else iq (decide (z<0)) (cx z.natAbs f false p (up !=decide (z<0)))
theorem OB{f p}{up neg}(h:n≠0):kS (if neg=true then-n else n) f p up=iq neg (cx n f false p (up !=neg)):=by
 unfold kS;grind
theorem WG{z f p}{k:Nat}{up}:kS (z*2^k) f p up=kS z (f+k) p up:=by
 unfold kS;by_cases h:z=0
 ·rw[h,Int.zero_mul,ap rfl,ap rfl]
 ·have h2:(0:Int)<2^k:=Int.pow_pos δ;have h3:z*2^k≠0:=fun h3=>by
   rcases Int.mul_eq_zero.1 h3 with h4|h4
   all_goals omega
  have h4:decide (z*2^k<0)=decide (z<0):=by
   congr 1;refine propext ⟨fun h5=>?_,fun h5=>Int.mul_neg_of_neg_of_pos h5 h2⟩;refine Int.not_le.1 fun h6=>?_;have:=Int.mul_nonneg h6 (Int.le_of_lt h2);omega
  simp_all[av,Int.natAbs_mul,Int.natAbs_pow,IV]
def cG(neg:Bool)(n:Nat):Int:=if neg=true then-n else n
theorem yC(n):cG true n=-n:=rfl
theorem wI(n):cG false n=n:=rfl
def aaV(an:Bool)(p:Int)(up:Bool)(s:(Nat×Int×Bool)×Bool):Rd×Int:=if s.1.1=0/\s.1.2.2=false then(aC,0)else iq (an !=s.2) (cx s.1.1 s.1.2.1 s.1.2.2 p (up != (an !=s.2)))
theorem Lr{an}{up}{K:Nat}{f}{more t}(hM:N/2^K≠0)(hm:more=decide (N%2^K≠0))(hp:more=true->p< (ag (N/2^K))):
  aaV an p up ((N/2^K,f+K,more),t)=kS (cG (an !=t) N) f p up:=by
 have h0:N≠0:=fun h=>by
  simp_all
 unfold cG;rw[OB h0,aaV,av (fun h=>hM h.1)];grind[Vj]
theorem amM{Y K:Nat}{up an bn}(hx:x≠0)(hlost:Y%2^K≠0->p< (ag (x- (Y/2^K+1)))/\p< (ag (x+Y/2^K))/\Y/2^K+1<x):
  aaV an p up (Vg an bn x (Y/2^K) (f+K) (decide (Y%2^K≠0)))=kS (cG an (x*2^K)+cG bn Y) f p up:=by
 have h2:=aE7 K;have hd:=aFM Y (2^K);have hlt:=aFx Y h2;unfold Vg;by_cases hs:an=bn
 ·subst hs;rw[ap rfl];have e1:x+Y/2^K=(x*2^K+Y)/2^K:=by
   grind[aFd,Nat.mul_add_div]
  have e2:(x*2^K+Y) %2^K=Y%2^K:=by
   simp_all
  have e3:cG an (x*2^K)+cG an Y=cG (an !=false) (x*2^K+Y):=by
   grind[cG,yC]
  rw[e3,e1,Lr]
  all_goals grind
 ·have hbn:bn=!an:=by
   cases an<;>cases bn<;>first|rfl|exact absurd rfl hs
  subst hbn;rw[av hs];by_cases hl:Y%2^K≠0
  ·obtain⟨g1,g2,g3⟩:=hlost hl;have e0:yB (Y/2^K,decide (Y%2^K≠0))=Y/2^K+1:=by
    simp_all[yB,ap,decide_eq_true]
   rw[e0,av ω];obtain⟨y,hy⟩:∃y,Y/2^K=y:=⟨_,rfl⟩;rw[hy]at hd g1 g2 g3⊢;have e1:(x- (y+1))*2^K+(2^K-Y%2^K)=x*2^K-Y:=by
    have e4:(x- (y+1))*2^K=x*2^K- (2^K*y+2^K):=by
     rw[Nat.sub_mul,aFf,Nat.one_mul,aFd y]
    have e5:2^K*y+2^K<=x*2^K:=by
     have:(y+1)*2^K<=x*2^K:=aE4 _ ω;grind
    omega
   have e6:(x*2^K-Y)/2^K=x- (y+1):=by
    rw[←e1,aFd (x- (y+1)),Nat.mul_add_div h2,Nat.div_eq_of_lt ω];rfl
   have e7:(x*2^K-Y) %2^K=2^K-Y%2^K:=by
    rw[←e1,aFd (x- (y+1)),Nat.mul_add_mod,aFG ω]
   have e3:cG an (x*2^K)+cG (!an) Y=cG (an !=false) (x*2^K-Y):=by
    grind[cG,yC,wI]
   grind[Lr,decide_eq_true]
  ·have hl0:Y%2^K=0:=ω
   have e0:yB (Y/2^K,decide (Y%2^K≠0))=Y/2^K:=by
    simp_all[yB,av,of_decide_eq_true]
   rw[e0,hl0,show decide (0≠0)=false from rfl];rw[hl0,aFA]at hd;obtain⟨y,hy⟩:∃y,Y/2^K=y:=⟨_,rfl⟩;rw[hy]at hd⊢;subst hd;by_cases hxy:x<y
   ·rw[ap hxy];have e6:((y-x)*2^K)/2^K=y-x:=Nat.mul_div_cancel _ h2;have e3:cG an (x*2^K)+cG (!an) (2^K*y)=cG (an !=true) ((y-x)*2^K):=by
     grind[cG,yC,wI]
    rw[e3];have:=Lr (an:=an) (p:=p) (up:=up) (N:=(y-x)*2^K) (K:=K) (f:=f) (more:=false) (t:=true) ω (by simp_all) (fun h=>absurd h aE3);grind
   ·rw[av hxy];by_cases hE:x=y
    ·subst hE;have e3:cG an (x*2^K)+cG (!an) (2^K*x)=0:=by
      grind[cG,yC,wI]
     simp_all[aaV,ap,Nat.sub_self,kS]
    ·have e6:((x-y)*2^K)/2^K=x-y:=Nat.mul_div_cancel _ h2;have e3:cG an (x*2^K)+cG (!an) (2^K*y)=cG (an !=false) ((x-y)*2^K):=by
      grind[cG,yC,wI]
     rw[e3];have:=Lr (an:=an) (p:=p) (up:=up) (N:=(x-y)*2^K) (K:=K) (f:=f) (more:=false) (t:=false) ω (by simp_all) (fun h=>absurd h aE3);grind
theorem avQ{b}{l}(h1:-40000<=l)(h2:-40000<=b.e):yZ b l=(ab b.m*2^ (b.e+40000).toNat/2^ (l+40000).toNat,decide (ab b.m*2^ (b.e+40000).toNat%2^ (l+40000).toNat≠0)):=by
 unfold yZ;by_cases h:l<=b.e
 ·rw[ap h,show(b.e+40000).toNat=(b.e-l).toNat+(l+40000).toNat by omega,aE2,←aFj,Nat.mul_div_cancel _ (aE7 _),Nat.mul_mod_left];rfl
 ·have h3:=aE7 (b.e+40000).toNat;rw[av h,show(l+40000).toNat=(l-b.e).toNat+(b.e+40000).toNat by omega,aE2,Nat.mul_div_mul_right _ _ h3,Nat.mul_mod_mul_right];refine Prod.ext rfl ?_;show decide _=decide _;congr 1;refine propext ⟨fun h4 h5=>?_,fun h4 h5=>h4 ?_⟩
  ·rcases Nat.mul_eq_zero.1 h5 with h6|h6
   all_goals omega
  grind
theorem aaW{d}{k}(h:-16384<=d.e)(n)(hn:n=(d.e+16384).toNat+k):zI d*2^k=cG d.neg (ab d.m*2^n):=by
 have h1:(mg d)*2^k=((ab d.m*2^ ((d.e+16384).toNat+k)):Int):=by
  unfold mg;grind
 unfold zI cG;grind
def ajs{a b}{p}(h:b.e<A6 a b p):2<aQ a-aQ b/\A6 a b p<=aQ a-p-8:=by
 unfold A6 at h⊢;omega
theorem ad1{a b}(oa:Ok0 a)(ob:Ok0 b)(va:vd a=true)(vb:vd b=true)(na:O a.m≠0)(nb:O b.m≠0){p}{up}(hp:8<=p/\p<=512)(ht:aQ b<=aQ a):
  aaU a b p up=kS (zI a+zI b) (-16384) p up:=by
 have e1:=kJ va na;have e2:=kJ vb nb;obtain⟨a1,a2,a3,a4⟩:=dT va oa.lb;obtain⟨b1,b2,b3,b4⟩:=dT vb ob.lb;have l1:=Vf (a:=a) (b:=b) (p:=p);have l2:=Rb va vb oa.lb ob.lb na nb hp ht;have l3:=ajs (a:=a) (b:=b) (p:=p);show aaV a.neg p up (Gf a b p)=_;rw[Vh];obtain⟨l,hl⟩:∃l,A6 a b p=l:=⟨_,rfl⟩;rw[hl]at l1 l2 l3⊢;obtain⟨K,hK⟩:∃K,(l+40000).toNat=K:=⟨_,rfl⟩;obtain⟨n1,hn1⟩:∃n,(a.e-l).toNat=n:=⟨_,rfl⟩;obtain⟨n2,hn2⟩:∃n,(b.e+40000).toNat=n:=⟨_,rfl⟩;have hx:ab a.m*2^n1≠0:=Nat.mul_ne_zero (dN va na) (Nat.pos_iff_ne_zero.1 (aE7 _));rw[avQ ω ω,hK,hn1,hn2];have bx:ag (ab a.m*2^n1)=ag (ab a.m)+n1:=eB _ (dN va na);have by':ag (ab b.m*2^n2/2^K)=ag (ab b.m)+n2-K:=by grind[pp,eB,dN]
 have hlK:l=-40000+K:=ω
 rw[hlK,amM hx]
 ·obtain⟨k,hk⟩:∃k,k=23616:=⟨_,rfl⟩;rw[aFj,←aE2,←aaW (k:=k) a2 (n1+K) ω,←aaW (k:=k) b2 n2 ω,←Int.add_mul,WG,show(-40000:Int)+k=-16384 by omega]
 ·intro hne;have hb:b.e<l:=by
   refine Int.not_le.1 fun h=>hne ?_;rw[show n2=(b.e-l).toNat+K by omega,aE2,←aFj,Nat.mul_mod_left]
  obtain⟨X,hX⟩:∃X,ab a.m*2^n1=X:=⟨_,rfl⟩;obtain⟨Y,hY⟩:∃Y,ab b.m*2^n2/2^K=Y:=⟨_,rfl⟩;rw[hX]at bx⊢;rw[hY]at by'⊢;obtain⟨t,hT⟩:∃t,ag X=t+4:=⟨ag X-4,by omega⟩;have hX2:2^ (t+3)<=X:=mE.1 ω;have hY2:Y<2^ (t+1):=bH.1 ω;have q1:2^ (t+3)=4*2^ (t+1):=γ
  have q2:2^ (t+2)=2*2^ (t+1):=γ
  have g3:t+2<ag (X- (Y+1)):=mE.2 ω;have g4:t+3<ag (X+Y):=mE.2 ω;omega
def dh(a b:Rd)(p:Int)(up:Bool):Rd×Int:=if bo p [a,b]=0 then kS (zI a+zI b) (-16384) p up else(aC,bo p [a,b])
def eJ(a b:Rd)(p:Int)(up:Bool):Rd×Int:=if bo p [a,b]=0 then kS (zI a*zI b) (-32768) p up else(aC,bo p [a,b])
theorem cS{d}(h:O d.m=0):zI d=0:=by
 grind[zI,adV]
theorem apL{p}{up}(hp:8<=p/\p<=512):cx 0 0 false p up=(aC,0):=by
 have hu:-600<=fV 0 0 p/\fV 0 0 p<=0:=by
  grind[fV,Cr]
 unfold cx;obtain⟨u,he⟩:∃u,fV 0 0 p=u:=⟨_,rfl⟩;rw[he]at hu⊢;have hq:qI up (rF 0 0 false u)=0:=by
  simp_all[rF,qI,ap,Nat.zero_mul,aFT,av,aE3]
 unfold tU;rw[hq,Cr,av ω];rw[zB];unfold cA;rw[ap rfl,ap δ]
theorem IW{d}(ok:Ok0 d){p}{up}:xu d p up=if bo p [d]=0 then kS (zI d) (-16384) p up else(aC,bo p [d]):=by
 unfold xu;by_cases h0:bo p [d]=0
 ·obtain⟨v1,v2,v3⟩:=vM h0;have v4:vd d=true:=γ
  obtain⟨h1,h2,h3,h4⟩:=dT v4 ok.lb;rw[ap h0,ap h0];by_cases hd:O d.m=0
  ·have hz:=GY v4 hd;subst hz;rw[cS rfl,kS,ap rfl];show iq false (cx 0 0 false p (up !=false))=_;rw[apL ⟨v2,v3⟩];rfl
  ·have hm:=J8 v4 hd;unfold zI;rw[OB ω];grind[mg,IV]
 grind
theorem apN{a b}(oa:Ok0 a)(ob:Ok0 b){p}{up}:Vi a b p up=dh a b p up:=by
 unfold Vi dh;by_cases h0:bo p [a,b]=0
 ·obtain⟨v1,hp⟩:=vM h0;have v4:vd a=true/\vd b=true:=γ
  have f1:∀d,vd d=true->bo p [d]=0:=fun d hd=>by
   simp_all[bo,ap]
  by_cases a0:O a.m=0
  ·rw[ap a0,IW ob,ap (f1 b v4.2),cS a0,Int.zero_add]
  rw[av a0];by_cases b0:O b.m=0
  ·rw[ap b0,IW oa,ap (f1 a v4.1),cS b0,Int.add_zero]
  rw[av b0];by_cases ht:aQ a<aQ b
  ·rw[ap ht,ad1 ob oa v4.2 v4.1 b0 a0 hp ω,Int.add_comm]
  simp_all[av,ad1]
 grind
theorem ad2{a b}(oa:Ok0 a)(ob:Ok0 b){p}{up}:Ns a b p up=eJ a b p up:=by
 unfold Ns eJ;by_cases h0:bo p [a,b]=0
 ·obtain⟨v1,hp⟩:=vM h0;have v4:vd a=true/\vd b=true:=γ
  obtain⟨va,vb⟩:=v4;obtain⟨a1,a2,a3,a4⟩:=dT va oa.lb;obtain⟨b1,b2,b3,b4⟩:=dT vb ob.lb;by_cases a0:O a.m=0
  ·rw[ap (Or.inl a0),cS a0,Int.zero_mul,kS,ap rfl]
  by_cases b0:O b.m=0
  ·rw[ap (Or.inr b0),cS b0,Int.mul_zero,kS,ap rfl]
  have hz:zI a*zI b=cG (a.neg !=b.neg) (mg a*mg b):=by
   unfold zI cG;cases a.neg<;>cases b.neg<;>simp[Int.mul_neg,Int.neg_mul]
  have hm:mg a*mg b=ab a.m*ab b.m*2^ ((a.e+16384).toNat+(b.e+16384).toNat):=by
   grind[mg,aE2]
  have hv:=Nat.mul_ne_zero (dN va a0) (dN vb b0);rw[hz];unfold cG;rw[OB (Nat.mul_ne_zero (Nat.pos_iff_ne_zero.1 (J8 va a0)) (Nat.pos_iff_ne_zero.1 (J8 vb b0))),hm,IV hv];grind
 grind
theorem l7{neg}{M}{e}(h:M≠0):aZ neg M e=⟨neg,ax (M/2^tz M),e+tz M⟩:=by
 simp_all[zB,av]
theorem kT{neg}{e}:aZ neg 0 e=aC:=by
 simp_all[zB,ap]
theorem nR{neg}{k:Nat}{e}:aZ neg (M*2^k) e=aZ neg M (e+k):=by
 by_cases h:M=0
 ·rw[h,Nat.zero_mul,kT,kT]
 ·have h2:=Nat.mul_ne_zero h (Nat.pos_iff_ne_zero.1 (aE7 k));rw[l7 h,l7 h2,aFd M,M9 k h,aE2,Nat.mul_div_mul_left _ _ (aE7 k)];grind
theorem tV{neg}{M}{e}(h:M≠0):ab (aZ neg M e).m=M/2^tz M/\(aZ neg M e).e=e+tz M/\M/2^tz M%2=1/\ag (M/2^tz M)+tz M=ag M:=by
 grind[Cj,l7,aJ,eB,tz,aFd]
theorem Rf{neg}{M}(h:M≠0)(h1:ag M<=4096)(h2:-16384<=e)(h3:(ag M)+e<=16384):rP (ag (ab (aZ neg M e).m)) (aZ neg M e).e=true:=by
 grind[tV,ag,tz,fE,rP,decide_eq_true]
def J9{neg}{M}{e}(h:rP (ag (ab (aZ neg M e).m)) (aZ neg M e).e=true):vd (aZ neg M e)=true:=by
 by_cases h0:M=0
 ·subst h0;rfl
 ·obtain⟨g1,g2,g3,g4⟩:=tV (neg:=neg) (e:=e) h0;have hn:M/2^tz M≠0:=ω
  rw[g1]at h;have hb:=(Ew h (Nat.pos_iff_ne_zero.1 (fE hn))).1;rw[l7 h0]at h⊢;unfold vd;have hl:O (ax (M/2^tz M))<=128:=bk ω;have hl0:=fun h5=>hn (sj.1 (List.length_eq_zero_iff.1 h5));have ht:=(ai7 _).resolve_left (fun h5=>hn (sj.1 h5));have ho:(ax (M/2^tz M)).getD 0 0%2=1:=by
   grind[vj,tz]
  rw[aJ,av hl0,decide_eq_true (p:=O (ax (M/2^tz M))<=256) ω,decide_eq_true ho,decide_eq_true ht];grind
theorem HR{neg}{M}(h1:ag M<=4096)(h2:-16384<=e)(h3:(ag M)+e<=16384):cA (aZ neg M e)=(aZ neg M e,0):=by
 unfold cA;by_cases h:M=0
 ·subst h;rw[kT,ap δ]
 simp_all[ap,Rf]
theorem amN{M}(h1:ag M<=4096)(h2:-16384<=e)(h3:(ag M)+e<=16384):gW (aZ false M e)=aZ true M e:=by
 by_cases h:M=0
 ·subst h;rfl
 ·have hv:=J9 (Rf (neg:=false) h h1 h2 h3);obtain⟨g1,g2,g3,g4⟩:=tV (neg:=false) (e:=e) h;unfold gW;rw[av]
  ·grind[l7]
  ·grind[ab]
theorem ad3{neg}{M}(h1:ag M<=4096)(h2:-16384<=e)(h3:(ag M)+e<=16384):iq neg (cA (aZ false M e))=(aZ neg M e,0):=by
 rw[HR h1 h2 h3];unfold iq;cases neg with
 |false=>rw[av (fun h=>aE3 h.2)]
 |true=>
  grind[amN]
def Nu(M:Nat)(e p:Int):Nat:=(max (max ((ag M)-p) (0-16384-e)) 0).toNat
def Vk(M k:Nat)(more out:Bool):Nat:=if((more||decide (M%2^k≠0))&&out)=true then M/2^k+1 else M/2^k
def Ez(neg out:Bool)(p:Int)(q:Nat)(e:Int):Rd×Int:=if q≠0/\16384< (ag q)+e then(if out=true then(aC,9)else(aZ neg (2^p.toNat-1) (16384-p),0))else(aZ neg q e,0)
def HS(neg:Bool)(M:Nat)(e:Int)(more:Bool)(p:Int)(up:Bool):Rd×Int:=Ez neg (neg !=up) p (Vk M (Nu M e p) more (neg !=up)) (e+Nu M e p)
theorem aaX{p}{neg up}{q}{u}(hp:8<=p/\p<=512)(hq:ag q<=4096)(hu:-16384<=u)(h0:q=0->u<=16384):iq neg (tU p up q u)=Ez neg up p q u:=by
 unfold tU Ez;by_cases h:16384< (ag q:Nat)+u
 ·have hq0:q≠0:=fun h1=>by
   grind[Cr]
  cases up with
  |true=>
   simp_all[iq,av]
  |false=>
   grind[aaT,ad3]
 simp_all[av,ad3]
theorem ahg{neg out}{p}{k:Nat}{e}:Ez neg out p (M*2^k) e=Ez neg out p M (e+k):=by
 unfold Ez;rw[nR];grind[Nat.mul_ne_zero,aE7,ag,eB]
def WH(q):ag (q+1)<=ag q+1:=by
 rw[bH,aFJ];have:=bH.1 (aET (ag q));omega
theorem ajt{neg}{M}{more up}(hp:8<=p/\p<=512)(hM:M≠0)(hm:more=true->p< (ag M)):HS neg M e more p up=iq neg (cx M e more p (up !=neg)):=by
 have hx:(neg !=up)=(up !=neg):=γ
 unfold HS;rw[hx];unfold cx;obtain⟨u,hu⟩:∃u,fV M e p=u:=⟨_,rfl⟩;obtain⟨k,hk⟩:∃k,Nu M e p=k:=⟨_,rfl⟩;rw[hu,hk];unfold fV at hu;unfold Nu at hk;have hu1:-16384<=u/\e+(ag M)-p<=u:=by
  omega
 by_cases hc:u<=e
 ·have hk0:k=0:=by
   omega
  have hmf:more=false:=by
   grind
  subst hk0;subst hmf;unfold rF Vk;rw[ap hc,Nat.pow_zero,Nat.mod_one,show(false||decide (0≠0))=false from rfl,aE0,av aE3,Nat.div_one];unfold qI;rw[aFT,av aE3];have hq:=eB (e-u).toNat hM;rw[aaX hp ω hu1.1 (fun h=>absurd (Nat.mul_eq_zero.1 h) (fun h2=>h2.elim hM (fun h3=>absurd h3 (Nat.pos_iff_ne_zero.1 (aE7 _)))))];grind[ahg]
 ·have hk0:k=(u-e).toNat:=by
   omega
  unfold rF Vk;rw[av hc,←hk0];have hq:ag (M/2^k)<=513:=by
   grind[pp]
  have hq2:=WH (M/2^k);have h3:qI (up !=neg) (M/2^k,more||decide (M%2^k≠0))=if((more||decide (M%2^k≠0))&& (up !=neg))=true then M/2^k+1 else M/2^k:=by
   grind[qI,Bool.and_comm]
  rw[h3];rw[aaX hp (by split<;>omega) hu1.1]
  ·rw[show e+k=u by omega]
  ·grind[ag,pp]
theorem Tp{neg}{M}{e p}{up}(hp:8<=p/\p<=512):HS neg M e false p up=kS (cG neg M) e p up:=by
 by_cases hM:M=0
 ·simp_all[cG,kS,ap,HS,Vk,Ez,Nat.zero_mod,Nat.zero_div,aE0,av,aE3,kT]
 simp_all[ajt,absurd,aE3,cG,OB]
def aju{M}{f p}{more w neg}:vd (iq neg (cx M f more p w)).1=true/\Ok0 (iq neg (cx M f more p w)).1:=by
 have h0:vd aC=true/\Ok0 aC:=⟨rfl,⟨fun x hx=>(nomatch hx),by decide⟩⟩;have hc:∀q u,vd (cA (aZ false q u)).1=true/\Ok0 (cA (aZ false q u)).1:=fun q u=>by
  unfold cA;by_cases h:rP (ag (ab (aZ false q u).m)) (aZ false q u).e=true
  ·rw[ap h];have hv:=J9 h;have hb:=sx false q u;exact⟨hv,hb,aFl (vB hv hb) δ⟩
  grind
 have he:∀up q u,vd (tU p up q u).1=true/\Ok0 (tU p up q u).1:=fun up q u=>by
  grind[tU]
 have hs:∀neg r,(vd r.1=true/\Ok0 r.1)->vd (iq neg r).1=true/\Ok0 (iq neg r).1:=fun neg r hr=>by
  unfold iq gW;split
  ·split
   ·omega
   ·refine⟨?_,hr.2.1,hr.2.2⟩
    simp_all[vd,av]
  omega
 exact hs _ _ (he _ _ _)
theorem xw{z f p}{up}:vd (kS z f p up).1=true/\Ok0 (kS z f p up).1:=by
 unfold kS;split
 ·exact⟨rfl,⟨fun x hx=>(nomatch hx),by decide⟩⟩
 ·exact aju
noncomputable def xx:Cmd:=.seq (.ops [2,3,4,8,11,12] [⟨(some 52),none,.load 3 true (.t 4)⟩,⟨(some 53),none,.load 3 true (.t 5)⟩,cm 54 2,⟨(some 55),none,.call (.c (.fn 246 [] [])) [(.t 52),(.t 53),(.t 54)]⟩,cm 51 55,co 56 (.ext 0 (.t 51)),co 57 (.ext 1 (.t 51)),⟨(some 11),none,.alloc [.emp,I 0,B false]⟩,⟨none,none,.store 3 (.t 11) (.t 56)⟩,cm 12 57]) (.seq (.seq (.ops [2,3,4,8,11,12,66] [co 58 (.fadr 0 (.t 11)),⟨(some 59),none,.load 1 false (.t 58)⟩,co 60 (.len false (.t 59)),co 61 (.bin .eql (.t 60) (.c (I 0))),cm 62 61,cg 63 62 true (.fadr 2 (.t 11)),⟨(some 64),(some (62,true)),.load 1 false (.t 63)⟩,cg 65 62 true (.un .not (.t 64)),co 66 (.pick (.t 62) (.t 65) (.c (B false)))]) (.cond (.t 66) (.seq (.ops [8,9] [co 67 (.build [B false,.emp,I 0] []),⟨none,none,.store 3 (.t 8) (.t 67)⟩,co 9 (.mv (.c (I 0)))]) (.ret)) (.skip))) (.seq (.ops [8,9] [co 68 (.fadr 0 (.t 4)),⟨(some 69),none,.load 1 false (.t 68)⟩,cm 70 12,co 71 (.eqc true 0 (.t 69) (.t 70)),⟨(some 72),none,.load 3 true (.t 11)⟩,cm 73 2,cm 74 3,⟨(some 75),none,.call (.c (.fn 247 [] [])) [(.t 71),(.t 72),(.t 73),(.t 74)]⟩,co 76 (.ext 0 (.t 75)),co 77 (.ext 1 (.t 75)),⟨none,none,.store 3 (.t 8) (.t 76)⟩,cm 9 77]) (.ret)))
theorem FG:Be=.seq (.ops [2,3,4,5,8] [⟨(some 4),none,.box 3 (.t 0)⟩,⟨(some 5),none,.box 3 (.t 1)⟩,⟨(some 8),none,.alloc [B false,.emp,I 0]⟩,co 9 (.mv (.c (I 0)))]) (.seq (.seq (.ops [2,3,4,5,8,10] [cm 13 2,⟨(some 14),none,.load 3 true (.t 4)⟩,⟨(some 15),none,.load 3 true (.t 5)⟩,⟨(some 16),none,.buildSl 3 [B false,.emp,I 0] 2 [(0,(.t 14)),(1,(.t 15))]⟩,⟨(some 17),none,.call (.c (.fn 169 [] [])) [(.t 13),(.t 16)]⟩,cm 10 17]) (.seq (.ops [2,3,4,5,8,10,19] [cm 18 10,co 19 (.bin .neq (.t 18) (.c (I 0)))]) (.cond (.t 19) (.seq (.ops [8,9] [co 20 (.build [B false,.emp,I 0] []),cm 21 10,⟨none,none,.store 3 (.t 8) (.t 20)⟩,cm 9 21]) (.ret)) (.skip)))) (.seq (.block 0 [2,3,4,5,8] (.seq (.ops [2,3,4,5,8,22] [co 23 (.fadr 1 (.t 4)),⟨(some 24),none,.load 1 false (.t 23)⟩,co 25 (.len false (.t 24)),co 26 (.bin .eql (.t 25) (.c (I 0))),cm 22 26]) (.cond (.t 22) (.seq (.ops [8,9] [⟨(some 27),none,.load 3 true (.t 5)⟩,cm 28 2,cm 29 3,⟨(some 30),none,.call (.c (.fn 245 [] [])) [(.t 27),(.t 28),(.t 29)]⟩,co 31 (.ext 0 (.t 30)),co 32 (.ext 1 (.t 30)),⟨none,none,.store 3 (.t 8) (.t 31)⟩,cm 9 32]) (.ret)) (.seq (.ops [2,3,4,5,8,33] [co 34 (.fadr 1 (.t 5)),⟨(some 35),none,.load 1 false (.t 34)⟩,co 36 (.len false (.t 35)),co 37 (.bin .eql (.t 36) (.c (I 0))),cm 33 37]) (.cond (.t 33) (.seq (.ops [8,9] [⟨(some 38),none,.load 3 true (.t 4)⟩,cm 39 2,cm 40 3,⟨(some 41),none,.call (.c (.fn 245 [] [])) [(.t 38),(.t 39),(.t 40)]⟩,co 42 (.ext 0 (.t 41)),co 43 (.ext 1 (.t 41)),⟨none,none,.store 3 (.t 8) (.t 42)⟩,cm 9 43]) (.ret)) (.skip)))))) (.seq (.seq (.dops [2,3,4,5,8,48] [⟨(some 44),none,.load 3 true (.t 4)⟩,⟨(some 45),none,.call (.c (.fn 218 [] [])) [(.t 44)]⟩,⟨(some 46),none,.load 3 true (.t 5)⟩,⟨(some 47),none,.call (.c (.fn 218 [] [])) [(.t 46)]⟩,co 48 (.bin .lss (.t 45) (.t 47))] [(1,2)]) (.cond (.t 48) (.ops [2,3,4,5,8] [⟨(some 49),none,.load 3 true (.t 5)⟩,⟨(some 50),none,.load 3 true (.t 4)⟩,⟨none,none,.store 3 (.t 4) (.t 49)⟩,⟨none,none,.store 3 (.t 5) (.t 50)⟩]) (.skip))) xx))):=rfl
variable{b:Rd}
def apO{a:Rd}(oa:Ok0 a)(ob:Ok0 b)(va:vd a=true)(vb:vd b=true)(na:O a.m≠0)(nb:O b.m≠0)(hp:8<=p/\p<=512)(ht:aQ b<=aQ a):
  ag (Gf a b p).1.1<=4120∧-40000<=(Gf a b p).1.2.1/\(Gf a b p).1.2.1<=40000:=by
 have e1:=kJ va na;have e2:=kJ vb nb;obtain⟨a1,a2,a3,a4⟩:=dT va oa.lb;obtain⟨b1,b2,b3,b4⟩:=dT vb ob.lb;have l1:=Vf (a:=a) (b:=b) (p:=p);have l2:=Rb va vb oa.lb ob.lb na nb hp ht;have ba:=fE (dN va na);have bb:=fE (dN vb nb);rw[Vh];obtain⟨l,hl⟩:∃l,A6 a b p=l:=⟨_,rfl⟩;rw[hl]at l1 l2⊢;have hX:ag (ab a.m*2^ (a.e-l).toNat)<=4100:=by
  rw[eB _ (dN va na)];omega
 have hY:ag (yZ b l).1<=4100:=by
  unfold yZ;split
  ·rw[eB _ (dN vb nb)];omega
  ·show ag (_/_)<=_;rw[pp];omega
 generalize(yZ b l).1=Y at hY⊢;generalize(yZ b l).2=lost;generalize ab a.m*2^ (a.e-l).toNat=X at hX⊢;have hU:ag (yB (Y,lost))<=4101:=by
  unfold yB;split
  ·have:=WH Y;show ag (Y+1)<=4101;omega
  ·show ag Y<=4101;omega
 have hm:∀x y:Nat,x<=y->ag y<=4101->ag x<=4101:=fun x y h1 h2=>Cq h1 h2;generalize hYU:yB (Y,lost)=YU at hU;unfold Vg;rw[hYU];split
 ·have:=Lq hX hY;exact⟨aEX this δ,by show-40000<=l;omega,by show l<=40000;omega⟩
 ·split
  ·exact⟨aEX (hm _ _ (Nat.sub_le _ _) hU) δ,by show-40000<=l;omega,by show l<=40000;omega⟩
  ·exact⟨aEX (hm _ _ (Nat.sub_le _ _) (aEX hX δ)) δ,by show-40000<=l;omega,by show l<=40000;omega⟩
def WI{a:Rd}(oa:Ok0 a)(ob:Ok0 b)(va:vd a=true)(vb:vd b=true)(na:O a.m≠0)(nb:O b.m≠0){up:Bool}(hp:8<=n/\n<=512)(ht:aQ b<=aQ a)(s:aM)(h:aj)
  (h2:s 2=I (n:Nat)) (h3:s 3=B up) (h4:s 4=ac 4) (h5:s 5=ac 5) (h8:s 8=ac 8)
  (k4:h 4=.bx (ak a)) (k5:h 5=.bx (ak b)) (k8:h 8=.bx [B false,.emp,I 0]) (kd:∀i,i≠4->i≠5->i≠8->i≠16->h i=.dead):
  fk false [[a9,aR,a9],[]] [.cell 8 3 true,.t 9] 0 (am R (aA false) xx s h)=some (rV (aaU a b (n:Nat) up),[]):=by
 have hs:=asH oa ob va vb na nb (p:=(n:Nat)) ⟨by omega,by omega⟩ ht;obtain⟨g1,g2,g3⟩:=apO oa ob va vb na nb (p:=(n:Nat)) ⟨by omega,by omega⟩ ht;have hl:O (ax (Gf a b (n:Nat)).1.1)<=256:=bk ω;have hg:=fun neg up=>IU (M:=ax (Gf a b (n:Nat)).1.1) (e:=(Gf a b (n:Nat)).1.2.1) (n:=n) (more:=(Gf a b (n:Nat)).1.2.2) (up:=up) (neg:=neg) (aH _) hl ⟨g2,g3⟩ hp;unfold aaU;generalize Gf a b (n:Nat)=z at hs g1 g2 g3 hl hg⊢;obtain⟨⟨M,l,more⟩,t⟩:=z;simp only[sV,af,ak,Bj]at hs hg k4 k5;simp only[aJ]at hg;have hw:=hg (a.neg !=t) up;generalize hr:iq (a.neg !=t) (cx M l more (n:Nat) (up != (a.neg !=t)))=r at hw;simp only[rV,af,ak]at hw;by_cases hM:M=0
 ·have e1:((O (ax M):Int)=0)=True:=tt (by rw[hM,cO];rfl);cases more with
  |false=>
   rw[ap ⟨hM,rfl⟩];clear hr;simp only[xx,rV,af,ak,aC,go_sem,ne_eq,not_false_eq_true,h2,h3,h4,h5,h8,k4,k5,k8,kd,hs,e1]
  |true=>
   rw[av (fun h=>aE3 h.2.symm)];rw[show iq (a.neg !=t) (cx M l true (n:Nat) (up != (a.neg !=t)))=r from hr];clear hr;simp only[xx,rV,af,ak,go_sem,ne_eq,not_false_eq_true,h2,h3,h4,h5,h8,k4,k5,k8,kd,hs,e1,DA,hw]
 ·have e1:((O (ax M):Int)=0)=False:=ff (fun h=>hM (sj.1 (List.length_eq_zero_iff.1 ω)));rw[av (fun h=>hM h.1)];rw[show iq (a.neg !=t) (cx M l more (n:Nat) (up != (a.neg !=t)))=r from hr];clear hr;simp only[xx,rV,af,ak,go_sem,ne_eq,not_false_eq_true,h2,h3,h4,h5,h8,k4,k5,k8,kd,hs,e1,DA,hw]
def amO{a:Rd}(oa:Ok0 a)(ob:Ok0 b){up:Bool}(h0:bo p [a,b]=0)(a0:O a.m≠0)(b0:O b.m≠0):R 188 [af a,af b,I p,B up] []=some (rV (Vi a b p up),[]):=by
 refine au P4 ?_;have hf:R 169 [I p,.sl 3 [[B a.neg,lm a.m,I a.e],[B b.neg,lm b.m,I b.e]]] []=some (I (bo p [a,b]),[]):=BU (p:=p) (l:=[a,b]) (fun x hx=>by
  rcases List.mem_cons.1 hx with h|h
  ·rw[h];exact oa
  ·rw[List.mem_singleton.1 h];exact ob) (show 2<=100000 by decide)
 rw[h0]at hf;obtain⟨v1,hp⟩:=vM h0;have v4:vd a=true/\vd b=true:=by simpa using v1
 obtain⟨va,vb⟩:=v4;have ta:=pW oa;have tb:=pW ob;simp only[af,ak]at ta tb;obtain⟨n,rfl⟩:=aFy (show 0<=p by omega);have e1:=aP ((O a.m:Int)=0);have e2:=aP ((O b.m:Int)=0);unfold Vi;rw[ap h0,av a0,av b0];by_cases ht:aQ a<aQ b
 ·have e3:(aQ a<aQ b)=True:=tt ht;rw[ap ht];simp only[rp,FG,af,ak,go_sem,hf,e1,e2,ta,tb,e3];refine WI ob oa vb va b0 a0 ω ω _ _ Z Z Z Z Z Z Z Z fun i h4 h5 h8 h16=>?_;simp only[cz,h4,h5,h8,h16,if_false]
 ·have e3:(aQ a<aQ b)=False:=ff ht;rw[av ht];simp only[rp,FG,af,ak,go_sem,hf,e1,e2,ta,tb,e3];refine WI oa ob va vb a0 b0 ω ω _ _ Z Z Z Z Z Z Z Z fun i h4 h5 h8 h16=>?_;simp only[cz,h4,h5,h8,h16,if_false]
def ad4{a:Rd}(oa:Ok0 a)(ob:Ok0 b){up:Bool}:R 188 [af a,af b,I p,B up] []=some (rV (dh a b p up),[]):=by
 rw[←apN oa ob];by_cases h0:bo p [a,b]=0
 ·by_cases a0:O a.m=0
  ·exact Re oa ob (Or.inr (Or.inl a0))
  ·by_cases b0:O b.m=0
   ·exact Re oa ob (Or.inr (Or.inr b0))
   ·exact amO oa ob h0 a0 b0
 ·exact Re oa ob (Or.inl h0)
def Rg{a:Rd}(oa:Ok0 a)(ob:Ok0 b):R 130 [af a,af b,I p] []=some (rV (dh a b p true),[]):=by
 refine au XV ?_;have hr:=ad4 oa ob (p:=p) (up:=true);generalize dh a b p true=r at hr⊢;simp only[rV,af,ak]at hr;simp only[D9,rV,af,ak,go_sem,hr]
def Ls{a:Rd}(oa:Ok0 a)(ob:Ok0 b):R 129 [af a,af b,I p] []=some (rV (dh a b p false),[]):=by
 refine au SX ?_;have hr:=ad4 oa ob (p:=p) (up:=false);generalize dh a b p false=r at hr⊢;simp only[rV,af,ak]at hr;simp only[BH,rV,af,ak,go_sem,hr]
def Nv{a:Rd}(oa:Ok0 a)(ob:Ok0 b):R 138 [af a,af b,I p] []=some (rV (eJ a b p true),[]):=by
 rw[←ad2 oa ob];exact amK oa ob
def Jv{a:Rd}(oa:Ok0 a)(ob:Ok0 b):R 137 [af a,af b,I p] []=some (rV (eJ a b p false),[]):=by
 rw[←ad2 oa ob];exact ahf oa ob
def bY(d:Rd)(p:Int)(up:Bool):Rd×Int:=if bo p [d]=0 then kS (zI d) (-16384) p up else(aC,bo p [d])
def OD{d:Rd}(ok:Ok0 d):R 271 [af d,I p] []=some (rV (bY d p true),[]):=by
 have h:=IW ok (p:=p) (up:=true);rw[bY,←h];exact asG ok
def IX{d:Rd}(ok:Ok0 d):R 270 [af d,I p] []=some (rV (bY d p false),[]):=by
 have h:=IW ok (p:=p) (up:=false);rw[bY,←h];exact amJ ok
structure Ri where
 lo:Rd
 hi:Rd
 all:Bool
def ah(x:Ri):List AV:=[B x.lo.neg,lm x.lo.m,I x.lo.e,B x.hi.neg,lm x.hi.m,I x.hi.e,B x.all]
def ae(x:Ri):AV:=.agg (ah x)
def bt:Ri:=⟨aC,aC,true⟩
structure OkI (x:Ri):Prop where
 lo:Ok0 x.lo
 hi:Ok0 x.hi
def z0(d:Rd):Bool:=!d.neg&& (decide (O d.m=0)&&decide (d.e=0))
def vi(x:Ri):Bool:=if x.all=true then z0 x.lo&&z0 x.hi else vd x.lo&& (vd x.hi&&decide (zI x.lo<=zI x.hi))
def kI(x:Ri):Bool:=!x.all&&vi x
def bv(p:Int):Bool:=decide (8<=p)&&decide (p<=512)
def l8{p}:R 128 [I p] []=some (B (bv p),[]):=by
 refine au K6 ?_;unfold bv;by_cases h1:8<=p
 ·have e1:=tt h1;simp only[oQ,go_sem,e1,decide_true,aEW]
 ·have e1:=ff h1;simp only[oQ,go_sem,e1,decide_false,aE0]
def dW:R 93 [] []=some (ae bt,[]):=by
 refine au QC ?_;simp only[AH,ae,ah,bt,aC,go_sem]
def aoN{d}:R 149 [af d] []=some (B (z0 d),[]):=by
 refine au Nd ?_;unfold z0;cases hn:d.neg with
 |true=>simp only[j6,af,ak,go_sem,hn,aMD,aE0]
 |false=>
  by_cases h1:O d.m=0
  ·have e1:=aa ((O d.m:Int)=0);by_cases h2:d.e=0
   ·have e2:=tt h2;rw[decide_eq_true h1,decide_eq_true h2];simp only[j6,af,ak,go_sem,hn,e1,e2,aFY,aEW]
   ·have e2:=ff h2;rw[decide_eq_true h1,decide_eq_false h2];simp only[j6,af,ak,go_sem,hn,e1,e2,aFY,aEW]
  ·have e1:=aP ((O d.m:Int)=0);rw[decide_eq_false h1];simp only[j6,af,ak,go_sem,hn,e1,aFY,aEW,aE0]
theorem GZ{x y}:(gH x y<=0)=(x<=y):=by
 grind[gH]
def mL{x}(ok:OkI x):R 77 [ae x] []=some (B (vi x),[]):=by
 refine au Qy ?_;unfold vi;have zl:=aoN (d:=x.lo);have zh:=aoN (d:=x.hi);have vl:=eC ok.lo;have vh:=eC ok.hi;have hc:=mF ok.lo ok.hi;simp only[af,ak]at zl zh vl vh hc;cases ha:x.all with
 |true=>
  cases h1:z0 x.lo with
  |true=>
   rw[h1]at zl;simp only[jM,ae,ah,go_sem,ha,zl,zh,aEW]
  |false=>
   rw[h1]at zl;simp only[jM,ae,ah,go_sem,ha,zl,aE0]
 |false=>
  cases h1:vd x.lo with
  |false=>
   rw[h1]at vl;simp only[jM,ae,ah,go_sem,ha,vl,aE0]
  |true=>
   rw[h1]at vl;cases h2:vd x.hi with
   |false=>
    rw[h2]at vh;simp only[jM,ae,ah,go_sem,ha,vl,vh,aEW,aE0]
   |true=>
    rw[h2]at vh;rw[h1,h2,ap ⟨rfl,rfl⟩]at hc;simp only[jM,ae,ah,go_sem,ha,vl,vh,hc,GZ,aEW]
def fY{d}(ok:Ok0 d)(hv:vd d=true):R 80 [af d] []=some (ae ⟨d,d,false⟩,[]):=by
 refine au Qz ?_;have vl:=eC ok;rw[hv]at vl;simp only[af,ak]at vl;simp only[AF,af,ak,ae,ah,go_sem,vl]
def kD(r s:Rd×Int):Ri:=if r.2=0/\s.2=0 then⟨r.1,s.1,false⟩else bt
def Cu{a b}{e f}:R 131 [af a,I e,af b,I f] []=some (ae (kD (a,e) (b,f)),[]):=by
 refine au SY ?_;have hw:=dW;unfold kD;by_cases h1:e=0
 ·have e1:=tt h1;by_cases h2:f=0
  ·have e2:=tt h2;simp only[ri,af,ak,ae,ah,go_sem,e1,e2]
  ·have e2:=ff h2;simp only[ri,af,ak,ae,ah,go_sem,e1,e2,hw]
 ·have e1:=ff h1;simp only[ri,af,ak,ae,ah,go_sem,e1,hw]
def cT(l:List Ri):List (List AV):=l.map ah
@[go_sem] theorem Vl(l):O (cT l)=O l:=by simp[cT]
def OE{l}{i:Int}{d}(hi:i=n)(h:l[n]?=some d):dF (cT l) i=some (.ipt (ah d)):=by
 grind[dF,cT]
def ahh(l)(ok:∀d∈l,OkI d)(h2:O l<=100000):∀ (k i:Nat),i+k=O l->∀s h,s 5=.sl 7 (cT l)->s 6=I (O l)->s 7=I i->
  ∃hh,ao 0 [] (aB (am R (aA false) j5) [5,6,7] [] s h)=if((l.drop i).all kI)=true then some (.normal,⟨fun _=>.any,fun _=>.dead⟩)else some (.ret,⟨upd ce 2 (B false),hh⟩):=by
 intro k;induction k with
 |zero=>
  intro i hi s h h5 h6 h7;have e1:=aP ((i:Int)<O l);rw[aFq ω,ai,aFF,ap rfl];refine⟨fun _=>.dead,?_⟩;simp only[j5,go_sem,h5,h6,h7,e1]
 |succ k ih=>
  intro i hi s h h5 h6 h7;have hlt:i<O l:=ω
  have e1:=aa ((i:Int)<O l);have e2:=OE rfl (aE1 hlt);have e5:aG (i+1)=(i+1:Nat):=wi;have e3:=mL (ok l[i] (aFg hlt));rw[aFe hlt,aFa,ai];have ih':=ih (i+1) ω;generalize l[i]=d at e2 e3⊢;simp only[ae]at e3;simp only[ah]at e2 e3;unfold kI at ih'⊢;cases ha:d.all with
  |true=>
   refine⟨?hh,?_⟩;rotate_left;simp only[j5,go_sem,h5,h6,h7,e1,e2,ha];rfl
  |false=>
   rw[ha]at e3;cases hv:vi d with
   |false=>
    rw[hv]at e3;refine⟨?hh2,?_⟩;rotate_left;simp only[j5,go_sem,h5,h6,h7,e1,e2,e3,ha];rfl
   |true=>
    rw[hv]at e3;simp only[j5,go_sem,h5,h6,h7,e1,e2,e3,e5,ha];apply ih'<;>rfl
def aaY{l}(ok:∀d∈l,OkI d)(h2:O l<=100000):R 127 [.sl 7 (cT l)] []=some (B (l.all kI),[]):=by
 refine au QG ?_;have h3:=ahh l ok h2 (O l) 0 (aES _);simp only[aFX,aFz]at h3;cases ha:l.all kI with
 |false=>
  rw[ha]at h3;simp only[ut,BG,go_sem];rw[(h3 _ _ Z Z Z).choose_spec];simp only[go_sem]
 |true=>
  rw[ha]at h3;simp only[ut,BG,go_sem];rw[(h3 _ _ Z Z Z).choose_spec];simp only[go_sem]
def kU{x}(ok:OkI x):R 127 [.sl 7 [[B x.lo.neg,lm x.lo.m,I x.lo.e,B x.hi.neg,lm x.hi.m,I x.hi.e,B x.all]]] []=some (B (kI x),[]):=by
 have h:=aaY (l:=[x]) (fun d hd=>by grind) (show 1<=100000 by decide);rw[aFa,aFF,aFE]at h;exact h
def IY{x y}(ox:OkI x)(oy:OkI y):R 127 [.sl 7 [[B x.lo.neg,lm x.lo.m,I x.lo.e,B x.hi.neg,lm x.hi.m,I x.hi.e,B x.all],[B y.lo.neg,lm y.lo.m,I y.lo.e,B y.hi.neg,lm y.hi.m,I y.hi.e,B y.all]]] []=some (B (kI x&&kI y),[]):=by
 have h:=aaY (l:=[x,y]) (fun d hd=>by
  grind) (show 2<=100000 by decide)
 rw[aFa,aFa,aFF,aFE]at h;exact h
def de(x y:Ri)(p:Int):Ri:=if(kI x&&kI y&&bv p)=true then kD (dh x.lo y.lo p false) (dh x.hi y.hi p true)else bt
def xN{x y}(ox:OkI x)(oy:OkI y){p}:R 56 [ae x,ae y,I p] []=some (ae (de x y p),[]):=by
 refine au UI ?_;have hk:=IY ox oy;have hp:=l8 (p:=p);have hw:=dW;have hd:=Ls ox.lo oy.lo (p:=p);have hu:=Rg ox.hi oy.hi (p:=p);unfold de;generalize dh x.lo y.lo p false=r at hd⊢;generalize dh x.hi y.hi p true=q at hu⊢;obtain⟨r1,r2⟩:=r;obtain⟨q1,q2⟩:=q;have hm:=Cu (a:=r1) (b:=q1) (e:=r2) (f:=q2);simp only[ae,ah,rV,af,ak]at hw hd hu hm;cases h1:(kI x&&kI y)with
 |false=>
  rw[h1]at hk;simp only[sP,ae,ah,go_sem,hk,hw]
 |true=>
  rw[h1]at hk;cases h2:bv p with
  |false=>
   rw[h2]at hp;simp only[sP,ae,ah,go_sem,hk,hp,hw]
  |true=>
   rw[h2]at hp;simp only[sP,ae,ah,go_sem,hk,hp,hw,hd,hu,hm]
def jz(a b:Rd):Int:=if vd a=true/\vd b=true then gH (zI a) (zI b)else 0
def lw(a b:Rd):Rd:=if jz a b<=0 then a else b
def nS(a b:Rd):Rd:=if 0<=jz a b then a else b
def Vm{a b}(oa:Ok0 a)(ob:Ok0 b):R 255 [af a,af b] []=some (af (lw a b),[]):=by
 refine au S9 ?_;have hc:=mF oa ob;rw[show(if vd a=true/\vd b=true then gH (zI a) (zI b)else 0)=jz a b from rfl]at hc;simp only[af,ak]at hc;unfold lw;by_cases h:jz a b<=0
 ·have e1:=tt h;simp only[ww,af,ak,go_sem,hc,e1]
 ·have e1:=ff h;simp only[ww,af,ak,go_sem,hc,e1]
def Vn{a b}(oa:Ok0 a)(ob:Ok0 b):R 254 [af a,af b] []=some (af (nS a b),[]):=by
 refine au S8 ?_;have hc:=mF oa ob;rw[show(if vd a=true/\vd b=true then gH (zI a) (zI b)else 0)=jz a b from rfl]at hc;simp only[af,ak]at hc;unfold nS;by_cases h:0<=jz a b
 ·have e1:=tt h;simp only[wv,af,ak,go_sem,hc,e1]
 ·have e1:=ff h;simp only[wv,af,ak,go_sem,hc,e1]
def OF{x}(h:kI x=true):vd x.lo=true/\vd x.hi=true/\zI x.lo<=zI x.hi/\x.all=false:=by
 unfold kI vi at h;grind
def avR{x}(h1:vd x.lo=true)(h2:vd x.hi=true)(h3:zI x.lo<=zI x.hi)(h4:x.all=false):kI x=true:=by
 grind[kI,vi,decide_eq_true]
def HT(x:Ri):Int:=if 0<kl x.lo then 1 else if kl x.hi<0 then-1 else 0
def Lt{x}(ok:OkI x)(hx:kI x=true):R 96 [ae x] []=some (I (HT x),[]):=by
 refine au SQ ?_;obtain⟨v1,v2,v3,v4⟩:=OF hx;have hk:=kU ok;rw[hx]at hk;have s1:=tT ok.lo v1;have s2:=tT ok.hi v2;simp only[af,ak]at s1 s2;unfold HT;by_cases h1:0<kl x.lo
 ·have e1:=tt h1;simp only[rg,ae,ah,go_sem,hk,s1,e1]
 ·have e1:=ff h1;by_cases h2:kl x.hi<0
  ·have e2:=tt h2;simp only[rg,ae,ah,go_sem,hk,s1,e1,s2,e2]
  ·have e2:=ff h2;simp only[rg,ae,ah,go_sem,hk,s1,e1,s2,e2]
def py(d:Rd):Rd:=if vd d=false\/O d.m=0 then aC else⟨false,d.m,d.e⟩
theorem aO:vd aC=true/\Ok0 aC:=⟨rfl,⟨fun x hx=>(nomatch hx),by decide⟩⟩
def vC{d}(ok:Ok0 d):Ok0 (py d):=by
 unfold py;split
 ·exact aO.2
 ·exact⟨ok.1,ok.2⟩
def BW(x:Ri):Rd:=if HT x=0 then aC else lw (py x.lo) (py x.hi)
def qB(x:Ri):Rd:=nS (py x.lo) (py x.hi)
def asI{x}(ok:OkI x)(hx:kI x=true):R 275 [ae x] []=some (.tup [af (BW x),B true],[]):=by
 refine au U3 ?_;have hk:=kU ok;rw[hx]at hk;have hs:=Lt ok hx;have a1:=Nq ok.lo;have a2:=Nq ok.hi;rw[show(if vd x.lo=false\/O x.lo.m=0 then aC else⟨false,x.lo.m,x.lo.e⟩)=py x.lo from rfl]at a1;rw[show(if vd x.hi=false\/O x.hi.m=0 then aC else⟨false,x.hi.m,x.hi.e⟩)=py x.hi from rfl]at a2;have hl:=Vm (vC ok.lo) (vC ok.hi);unfold BW;simp only[ae,ah,af,ak]at hs a1 a2 hl;by_cases h1:HT x=0
 ·have e1:=tt h1;simp only[yw,ae,ah,af,ak,aC,go_sem,hk,hs,e1]
 ·have e1:=ff h1;simp only[yw,ae,ah,af,ak,go_sem,hk,hs,e1,a1,a2,hl]
def aaZ{x}(ok:OkI x)(hx:kI x=true):R 276 [ae x] []=some (.tup [af (qB x),B true],[]):=by
 refine au J1 ?_;have hk:=kU ok;rw[hx]at hk;have a1:=Nq ok.lo;have a2:=Nq ok.hi;rw[show(if vd x.lo=false\/O x.lo.m=0 then aC else⟨false,x.lo.m,x.lo.e⟩)=py x.lo from rfl]at a1;rw[show(if vd x.hi=false\/O x.hi.m=0 then aC else⟨false,x.hi.m,x.hi.e⟩)=py x.hi from rfl]at a2;have hl:=Vn (vC ok.lo) (vC ok.hi);unfold qB;simp only[af,ak]at a1 a2 hl;simp only[yx,ae,ah,af,ak,go_sem,hk,a1,a2,hl]
def nG(x:Ri):Ri:=if kI x=true then⟨BW x,qB x,false⟩else bt
def ad5{x}(ok:OkI x):R 224 [ae x] []=some (ae (nG x),[]):=by
 refine au UV ?_;have hk:=kU ok;have hw:=dW;unfold nG;cases hx:kI x with
 |false=>
  rw[hx]at hk;simp only[yt,ae,ah,go_sem,hk,hw]
 |true=>
  rw[hx]at hk;have h1:=asI ok hx;have h2:=aaZ ok hx;simp only[ae,ah,af,ak]at h1 h2;simp only[yt,ae,ah,go_sem,hk,h1,h2]
def As(dn up:Rd->Rd->Rd×Int)(pr:Nat->Rd×Rd):Nat->Nat->Rd×Rd->Option (Rd×Rd)
 |0,_,o=>some o
 |k+1,i,o=>if(dn (pr i).1 (pr i).2).2=0/\(up (pr i).1 (pr i).2).2=0 then
   As dn up pr k (i+1) (if jz (dn (pr i).1 (pr i).2).1 o.1<0 then(dn (pr i).1 (pr i).2).1 else o.1,if 0<jz (up (pr i).1 (pr i).2).1 o.2 then(up (pr i).1 (pr i).2).1 else o.2)
  else none
def uD(dn up:Rd->Rd->Rd×Int)(pr:Nat->Rd×Rd):Option (Rd×Rd):=
 if(dn (pr 0).1 (pr 0).2).2=0/\(up (pr 0).1 (pr 0).2).2=0 then As dn up pr 3 1 ((dn (pr 0).1 (pr 0).2).1,(up (pr 0).1 (pr 0).2).1)else none
def Mg:Option (Rd×Rd)->Ri
 |some o=>⟨o.1,o.2,false⟩
 |none=>bt
def YC(x:Option (Ex×St))(o:Option (Rd×Rd)):Prop:=match o with
 |some q=>∃hh,x=some (.normal,⟨upd (upd ce 12 (ac 12)) 10 (ac 10),hh⟩)/\hh 10=.bx [B false,.emp,I 0,B false,.emp,I 0,B false]/\hh 12=.bx (ah ⟨q.1,q.2,false⟩)
 |none=>∃hh,x=some (.ret,⟨upd ce 10 (ac 10),hh⟩)/\hh 10=.bx (ah bt)
theorem EA{a b}{p}{up}:Ok0 (eJ a b p up).1:=by
 unfold eJ;split
 ·exact xw.2
 ·exact aO.2
structure Op2 (f:FuncId) (g:Rd->Rd->Rd×Int) (p:Int):Prop where
 ct:∀ {a b:Rd},Ok0 a->Ok0 b->R f [af a,af b,I p] []=some (rV (g a b),[])
 ok:∀ {a b:Rd},Ok0 (g a b).1
 s:Ck f [[a9,aR,a9],[a9,aR,a9],[]]
 m:Cm f []
 k:Cn f false
 c:Gq f
def ajv{p}{A}{pr}{fD fU}{dn up}(oD:Op2 fD dn p)(oU:Op2 fU up p)(hA:jn [10,12] A=A)(hidx:∀i:Nat,i<4->Oe 4 6 true A (I i)=some (.agg [B (pr i).1.neg,lm (pr i).1.m,I (pr i).1.e,B (pr i).2.neg,lm (pr i).2.m,I (pr i).2.e]))
  (hok:∀i,Ok0 (pr i).1/\Ok0 (pr i).2):∀ (k i:Nat),i+k=4->1<=i->∀lo hi s h,Ok0 lo->Ok0 hi->s 2=I p->s 3=.fn fD [] []->s 4=.fn fU [] []->s 10=ac 10->s 12=ac 12->s 40=A->s 41=I i->
  h 10=.bx [B false,.emp,I 0,B false,.emp,I 0,B false]->h 12=.bx (ah ⟨lo,hi,false⟩)->
  YC (ao 0 [10,12] (aB (am R (aA false) bK) [2,3,4,10,12,40,41] [10,12] s h)) (As dn up pr k i (lo,hi)):=by
 intro k;induction k with
 |zero=>
  intro i hi4 h1 lo hi s h olo ohi h2 h3 h4 h10 h12 h40 h41 k10 k12;have e1:=aP ((i:Int)<4);simp only[ah]at k12;rw[ai];refine⟨?hh0,?_,?_,?_⟩;rotate_left
  ·simp only[bK,go_sem,h2,h3,h4,h10,h12,h40,h41,k10,k12,hA,e1];rfl
  ·rfl
  ·rfl
 |succ k ih=>
  intro i hi4 h1 lo hi s h olo ohi h2 h3 h4 h10 h12 h40 h41 k10 k12;have e1:=aa ((i:Int)<4);have e0:=aP ((i:Int)=0);have ei:=hidx i ω;have e5:aG ((i:Int)+1)=((i+1:Nat):Int):=wi;have hd:=oD.ct (hok i).1 (hok i).2;have hu:=oU.ct (hok i).1 (hok i).2;have hw:=dW;have okd:=oD.ok (a:=(pr i).1) (b:=(pr i).2);have oku:=oU.ok (a:=(pr i).1) (b:=(pr i).2);have c1:=mF okd olo;have c2:=mF oku ohi;rw[show∀a b,(if vd a=true/\vd b=true then gH (zI a) (zI b)else 0)=jz a b from fun _ _=>rfl]at c1 c2;have ih':=ih (i+1) ω ω;unfold As;simp only[ah]at k12;show YC _ (if(dn (pr i).1 (pr i).2).2=0/\(up (pr i).1 (pr i).2).2=0 then _ else none);generalize dn (pr i).1 (pr i).2=r at hd okd c1⊢;generalize up (pr i).1 (pr i).2=q at hu oku c2⊢;obtain⟨r1,r2⟩:=r;obtain⟨q1,q2⟩:=q;show YC _ (if r2=0/\q2=0 then As dn up pr k (i+1) (if jz r1 lo<0 then r1 else lo,if 0<jz q1 hi then q1 else hi)else none);simp only[rV,af,ak,ae,ah,bt,aC]at hd hu hw c1 c2;rw[ai];generalize aB _ _ _=L at ih'⊢;by_cases hr:r2=0
  ·have er:=tt hr;by_cases hq:q2=0
   ·have eq:=tt hq;rw[ap (show r2=0/\q2=0 from⟨hr,hq⟩)];by_cases g1:jz r1 lo<0
    ·have f1:=tt g1;by_cases g2:0<jz q1 hi
     ·have f2:=tt g2;rw[ap g1,ap g2];simp only[bK,Int.cast_ofNat_Int,go_sem,oD.s,oD.m,oD.k,oD.c,oU.s,oU.m,oU.k,oU.c,aEN,aEO,aFo,h2,h3,h4,h10,h12,h40,h41,k10,k12,hA,e1,e0,ei,hd,hu,er,eq,c1,c2,f1,f2,e5];exact ih' r1 q1 _ _ okd oku Z Z Z Z Z Z Z Z Z
     ·have f2:(0<jz q1 hi)=False:=ff g2;rw[ap g1,av g2];simp only[bK,Int.cast_ofNat_Int,go_sem,oD.s,oD.m,oD.k,oD.c,oU.s,oU.m,oU.k,oU.c,aEN,aEO,aFo,h2,h3,h4,h10,h12,h40,h41,k10,k12,hA,e1,e0,ei,hd,hu,er,eq,c1,c2,f1,f2,e5];exact ih' r1 hi _ _ okd ohi Z Z Z Z Z Z Z Z Z
    ·have f1:(jz r1 lo<0)=False:=ff g1;by_cases g2:0<jz q1 hi
     ·have f2:(0<jz q1 hi)=True:=tt g2;rw[av g1,ap g2];simp only[bK,Int.cast_ofNat_Int,go_sem,oD.s,oD.m,oD.k,oD.c,oU.s,oU.m,oU.k,oU.c,aEN,aEO,aFo,h2,h3,h4,h10,h12,h40,h41,k10,k12,hA,e1,e0,ei,hd,hu,er,eq,c1,c2,f1,f2,e5];exact ih' lo q1 _ _ olo oku Z Z Z Z Z Z Z Z Z
     ·have f2:(0<jz q1 hi)=False:=ff g2;rw[av g1,av g2];simp only[bK,Int.cast_ofNat_Int,go_sem,oD.s,oD.m,oD.k,oD.c,oU.s,oU.m,oU.k,oU.c,aEN,aEO,aFo,h2,h3,h4,h10,h12,h40,h41,k10,k12,hA,e1,e0,ei,hd,hu,er,eq,c1,c2,f1,f2,e5];exact ih' lo hi _ _ olo ohi Z Z Z Z Z Z Z Z Z
   ·have eq:(q2=0)=False:=ff hq;rw[av (show¬(r2=0/\q2=0)from fun h=>hq h.2)];refine⟨?hh1,?_,?_⟩;rotate_left
    ·simp only[bK,Int.cast_ofNat_Int,go_sem,oD.s,oD.m,oD.k,oD.c,oU.s,oU.m,oU.k,oU.c,aEN,aEO,aFo,h2,h3,h4,h10,h12,h40,h41,k10,k12,hA,e1,ei,hd,hu,er,eq,hw];rfl
    ·rfl
  ·have er:(r2=0)=False:=ff hr;rw[av (show¬(r2=0/\q2=0)from fun h=>hr h.1)];refine⟨?hh2,?_,?_⟩;rotate_left
   ·simp only[bK,Int.cast_ofNat_Int,go_sem,oD.s,oD.m,oD.k,oD.c,oU.s,oU.m,oU.k,oU.c,aEN,aEO,aFo,h2,h3,h4,h10,h12,h40,h41,k10,k12,hA,e1,ei,hd,hu,er,hw];rfl
   ·rfl
def ahj{p}{A}{pr}{fD fU}{dn up}(oD:Op2 fD dn p)(oU:Op2 fU up p)(hA:jn [10,12] A=A)(hidx:∀i:Nat,i<4->Oe 4 6 true A (I i)=some (.agg [B (pr i).1.neg,lm (pr i).1.m,I (pr i).1.e,B (pr i).2.neg,lm (pr i).2.m,I (pr i).2.e]))
  (hok:∀i,Ok0 (pr i).1/\Ok0 (pr i).2) (s) (h) (h2:s 2=I p) (h3:s 3=.fn fD [] []) (h4:s 4=.fn fU [] []) (h10:s 10=ac 10) (h12:s 12=ac 12) (h40:s 40=A) (h41:s 41=I 0)
  (k10:h 10=.bx [B false,.emp,I 0,B false,.emp,I 0,B false]) (k12:h 12=.bx [B false,.emp,I 0,B false,.emp,I 0,B false]):
  YC (ao 0 [10,12] (aB (am R (aA false) bK) [2,3,4,10,12,40,41] [10,12] s h)) (uD dn up pr):=by
 have ei:=hidx 0 δ;simp only[aFz]at ei;have hd:=oD.ct (hok 0).1 (hok 0).2;have hu:=oU.ct (hok 0).1 (hok 0).2;have hw:=dW;have okd:=oD.ok (a:=(pr 0).1) (b:=(pr 0).2);have oku:=oU.ok (a:=(pr 0).1) (b:=(pr 0).2);have ih':=ajv (p:=p) (A:=A) (pr:=pr) oD oU hA hidx hok 3 1 rfl δ;unfold uD;generalize dn (pr 0).1 (pr 0).2=r at hd okd⊢;generalize up (pr 0).1 (pr 0).2=q at hu oku⊢;obtain⟨r1,r2⟩:=r;obtain⟨q1,q2⟩:=q;simp only[rV,af,ak,ae,ah,bt,aC]at hd hu hw;rw[ai];have e6:aG (0+1)=1:=rfl;by_cases hr:r2=0
 ·have er:=tt hr;by_cases hq:q2=0
  ·have eq:=tt hq;simp only[bK,Int.cast_ofNat_Int,go_sem,oD.s,oD.m,oD.k,oD.c,oU.s,oU.m,oU.k,oU.c,aEN,aEO,aFo,h2,h3,h4,h10,h12,h40,h41,k10,k12,hA,ei,hd,hu,er,eq,e6];exact ih' r1 q1 _ _ okd oku Z Z Z Z Z Z Z Z Z
  ·have eq:=ff hq;rw[av (show¬(r2=0/\q2=0)from fun h=>hq h.2)];refine⟨?hh3,?_,?_⟩;rotate_left
   ·simp only[bK,Int.cast_ofNat_Int,go_sem,oD.s,oD.m,oD.k,oD.c,oU.s,oU.m,oU.k,oU.c,aEN,aEO,aFo,h2,h3,h4,h10,h12,h40,h41,k10,k12,hA,ei,hd,hu,er,eq,hw];rfl
   ·rfl
 ·have er:=ff hr;rw[av (show¬(r2=0/\q2=0)from fun h=>hr h.1)];refine⟨?hh4,?_,?_⟩;rotate_left
  ·simp only[bK,Int.cast_ofNat_Int,go_sem,oD.s,oD.m,oD.k,oD.c,oU.s,oU.m,oU.k,oU.c,aEN,aEO,aFo,h2,h3,h4,h10,h12,h40,h41,k10,k12,hA,ei,hd,hu,er,hw];rfl
  ·rfl
def ed(x y:Ri)(i:Nat):Rd×Rd:=match i with
 |0=>(x.lo,y.lo)
 |1=>(x.lo,y.hi)
 |2=>(x.hi,y.lo)
 |_=>(x.hi,y.hi)
def bX(x y:Ri)(p:Int):Ri:=if(kI x&&kI y&&bv p)=true then Mg (uD (fun a b=>eJ a b p false) (fun a b=>eJ a b p true) (ed x y))else bt
noncomputable def Gv:Cmd:=.seq (.seq (.ops [2,3,4,10,12,40,41] [⟨(some 40),none,.load 24 true (.t 11)⟩,co 41 (.mv (.c (I 0)))]) (.block 0 [10,12] (.loop [2,3,4,10,12,40,41] [10,12] bK))) (.seq (.ops [10] [⟨(some 95),none,.load 7 true (.t 12)⟩,⟨none,none,.store 7 (.t 10) (.t 95)⟩]) (.ret))
theorem Jw:IF=.seq (.ops [2,3,4,5,6,10] [⟨(some 5),none,.box 7 (.t 0)⟩,⟨(some 6),none,.box 7 (.t 1)⟩,⟨(some 10),none,.alloc [B false,.emp,I 0,B false,.emp,I 0,B false]⟩]) (.seq (.ops [2,3,4,10,11] [co 19 (.fadr 0 (.t 5)),⟨(some 20),none,.load 3 true (.t 19)⟩,co 21 (.fadr 0 (.t 6)),⟨(some 22),none,.load 3 true (.t 21)⟩,co 23 (.build [B false,.emp,I 0,B false,.emp,I 0] [(0,3,(.t 20)),(3,3,(.t 22))]),co 24 (.fadr 0 (.t 5)),⟨(some 25),none,.load 3 true (.t 24)⟩,co 26 (.fadr 3 (.t 6)),⟨(some 27),none,.load 3 true (.t 26)⟩,co 28 (.build [B false,.emp,I 0,B false,.emp,I 0] [(0,3,(.t 25)),(3,3,(.t 27))]),co 29 (.fadr 3 (.t 5)),⟨(some 30),none,.load 3 true (.t 29)⟩,co 31 (.fadr 0 (.t 6)),⟨(some 32),none,.load 3 true (.t 31)⟩,co 33 (.build [B false,.emp,I 0,B false,.emp,I 0] [(0,3,(.t 30)),(3,3,(.t 32))]),co 34 (.fadr 3 (.t 5)),⟨(some 35),none,.load 3 true (.t 34)⟩,co 36 (.fadr 3 (.t 6)),⟨(some 37),none,.load 3 true (.t 36)⟩,co 38 (.build [B false,.emp,I 0,B false,.emp,I 0] [(0,3,(.t 35)),(3,3,(.t 37))]),co 39 (.build [B false,.emp,I 0,B false,.emp,I 0,B false,.emp,I 0,B false,.emp,I 0,B false,.emp,I 0,B false,.emp,I 0,B false,.emp,I 0,B false,.emp,I 0] [(0,6,(.t 23)),(6,6,(.t 28)),(12,6,(.t 33)),(18,6,(.t 38))]),⟨(some 11),none,.alloc [B false,.emp,I 0,B false,.emp,I 0,B false,.emp,I 0,B false,.emp,I 0,B false,.emp,I 0,B false,.emp,I 0,B false,.emp,I 0,B false,.emp,I 0]⟩,⟨none,none,.store 24 (.t 11) (.t 39)⟩]) (.seq (.ops [2,3,4,10,11,12] [⟨(some 12),none,.alloc [B false,.emp,I 0,B false,.emp,I 0,B false]⟩]) Gv)):=rfl
def asJ{x y}(ox:OkI x)(oy:OkI y)(i):Ok0 (ed x y i).1/\Ok0 (ed x y i).2:=by
 unfold ed;split
 ·exact⟨ox.1,oy.1⟩
 ·exact⟨ox.1,oy.2⟩
 ·exact⟨ox.2,oy.1⟩
 ·exact⟨ox.2,oy.2⟩
def ahk(x y:Ri):List AV:=[B x.lo.neg,lm x.lo.m,I x.lo.e,B y.lo.neg,lm y.lo.m,I y.lo.e,B x.lo.neg,lm x.lo.m,I x.lo.e,B y.hi.neg,lm y.hi.m,I y.hi.e,B x.hi.neg,lm x.hi.m,I x.hi.e,B y.lo.neg,lm y.lo.m,I y.lo.e,B x.hi.neg,lm x.hi.m,I x.hi.e,B y.hi.neg,lm y.hi.m,I y.hi.e]
def ajw{x y}(ox:OkI x)(oy:OkI y){p}{fD fU}{dn up}(oD:Op2 fD dn p)(oU:Op2 fU up p)(s)(h)(h2:s 2=I p)(h3:s 3=.fn fD [] [])(h4:s 4=.fn fU [] [])(h10:s 10=ac 10)(h11:s 11=ac 11)(h12:s 12=ac 12)
  (k10:h 10=.bx [B false,.emp,I 0,B false,.emp,I 0,B false]) (k11:h 11=.bx (ahk x y)) (k12:h 12=.bx [B false,.emp,I 0,B false,.emp,I 0,B false]):
  fk false [[a9,aR,a9,a9,aR,a9,a9]] [.cell 10 7 true] 0 (am R (aA false) Gv s h)=some (ae (Mg (uD dn up (ed x y))),[]):=by
 obtain⟨A,hAe⟩:∃A:AV,A=.agg (ahk x y):=⟨_,rfl⟩;have hA:jn [10,12] A=A:=by
  rw[hAe];rfl
 have hf:=ahj (p:=p) (A:=A) (pr:=ed x y) oD oU hA (fun i hi=>by
  rw[hAe]
  match i,hi with
  |0,_=>rfl
  |1,_=>rfl
  |2,_=>rfl
  |3,_=>rfl) (asJ ox oy)
 have hl:kY h 24 true (ac 11)=some (A,h,[]):=by
  rw[hAe];simp only[ahk]at k11⊢;simp only[go_sem,k11]
 have hP:∀s h,s 2=I p->s 3=.fn fD [] []->s 4=.fn fU [] []->s 10=ac 10->s 12=ac 12->s 40=A->s 41=I 0->h 10=.bx [B false,.emp,I 0,B false,.emp,I 0,B false]->h 12=.bx [B false,.emp,I 0,B false,.emp,I 0,B false]->
   fk false [[a9,aR,a9,a9,aR,a9,a9]] [.cell 10 7 true] 0 (dx (ao 0 [10,12] (aB (am R (aA false) bK) [2,3,4,10,12,40,41] [10,12] s h)) (am R (aA false) (.seq (.ops [10] [⟨(some 95),none,.load 7 true (.t 12)⟩,⟨none,none,.store 7 (.t 10) (.t 95)⟩]) (.ret))))=some (ae (Mg (uD dn up (ed x y))),[]):=fun s h a2 a3 a4 a10 a12 a40 a41 b10 b12=>by
  have hg:=hf s h a2 a3 a4 a10 a12 a40 a41 b10 b12;cases ho:uD dn up (ed x y)with
  |none=>
   rw[ho]at hg;obtain⟨hh,g1,g2⟩:=hg;rw[g1];simp only[Mg,bt,ae,ah,aC,g2,go_sem]
  |some q=>
   rw[ho]at hg;obtain⟨hh,g1,g2,g3⟩:=hg;rw[g1];simp only[Mg,ae,ah,g2,g3,go_sem]
 generalize hLL:aB (am R (aA false) bK) [2,3,4,10,12,40,41] [10,12]=L at hP;have hX:∀s h,am R (aA false) (.loop [2,3,4,10,12,40,41] [10,12] bK) s h=L s h:=fun s h=>by rw[←hLL];rfl
 show fk _ _ _ _ (dx (dx (am R (aA false) (.ops [2,3,4,10,12,40,41] [⟨(some 40),none,.load 24 true (.t 11)⟩,co 41 (.mv (.c (I 0)))]) s h) fun s h=>ao 0 [10,12] (am R (aA false) (.loop [2,3,4,10,12,40,41] [10,12] bK) s h)) _)=_;simp only[hX];simp only[go_sem,h2,h3,h4,h10,h11,h12,hl];exact hP _ _ Z Z Z Z Z Z Z k10 k12
def ad6{x y}(ox:OkI x)(oy:OkI y){p}{fD fU}{dn up}(oD:Op2 fD dn p)(oU:Op2 fU up p):R 136 [ae x,ae y,I p,.fn fD [] [],.fn fU [] []] []=some (ae (Mg (uD dn up (ed x y))),[]):=by
 refine au SZ ?_;simp only[BI,Jw,ae,ah,go_sem];exact ajw ox oy oD oU _ _ Z Z Z Z Z Z Z Z Z
theorem sy{x y}(ox:OkI x)(oy:OkI y){p}:R 62 [ae x,ae y,I p] []=some (ae (bX x y p),[]):=by
 refine au UM ?_;have hk:=IY ox oy;have hp:=l8 (p:=p);have hw:=dW;have hf:=ad6 ox oy (p:=p) (dn:=fun a b=>eJ a b p false) (up:=fun a b=>eJ a b p true) ⟨fun h1 h2=>Jv h1 h2,EA,tv.1.1,tv.1.2.1,tv.1.2.2.2,tv.1.2.2.1⟩ ⟨fun h1 h2=>Nv h1 h2,EA,xp.1.1,xp.1.2.1,xp.1.2.2.2,xp.1.2.2.1⟩;unfold bX;simp only[ae,ah]at hw hf;cases h1:(kI x&&kI y)with
 |false=>
  rw[h1]at hk;simp only[sQ,ae,ah,go_sem,hk,hw]
 |true=>
  rw[h1]at hk;cases h2:bv p with
  |false=>
   rw[h2]at hp;simp only[sQ,ae,ah,go_sem,hk,hp,hw]
  |true=>
   rw[h2]at hp;simp only[sQ,ae,ah,go_sem,hk,hp,hf]
def qJ(d:Rd)(p:Int)(up:Bool):Nat->Rd×Int->Rd×Int
 |0,r=>r
 |k+1,r=>if r.2=0 then qJ d p up k (eJ r.1 d p up)else r
def pw(d:Rd)(n:Nat)(p:Int)(up:Bool):Rd×Int:=qJ d p up (n-1) (bY d p up)
theorem At{d}{p}{up}:Ok0 (bY d p up).1:=by
 unfold bY;split
 ·exact xw.2
 ·exact aO.2
def asK{d}{p}{up}:∀k r,Ok0 r.1->Ok0 (qJ d p up k r).1:=by
 intro k;induction k with
 |zero=>exact fun r h=>h
 |succ k ih=>
  grind[qJ,EA]
theorem aoO{d}{n}{p}{up}:Ok0 (pw d n p up).1:=asK _ _ At
noncomputable def zE:Cmd:=.seq (.seq (.ops [1,2,4,5,10,12,13,14] [co 14 (.mv (.c (I 1)))]) (.block 0 [10,12,13] (.loop [1,2,4,5,10,12,13,14] [5,10,12] bc))) (.seq (.ops [10,11] [⟨(some 39),none,.load 3 true (.t 12)⟩,cm 40 13,⟨none,none,.store 3 (.t 10) (.t 39)⟩,cm 11 40]) (.ret))
theorem AA:Hw=.seq (.ops [1,2,3,4,5,10] [⟨(some 5),none,.box 3 (.t 0)⟩,⟨(some 10),none,.alloc [B false,.emp,I 0]⟩,co 11 (.mv (.c (I 0)))]) (.seq (.ops [1,2,4,5,10,12,13] [cm 16 3,⟨(some 17),none,.load 3 true (.t 5)⟩,cm 18 2,⟨(some 19),none,.call (.t 16) [(.t 17),(.t 18)]⟩,cm 15 19,co 20 (.ext 0 (.t 15)),co 21 (.ext 1 (.t 15)),⟨(some 12),none,.alloc [B false,.emp,I 0]⟩,⟨none,none,.store 3 (.t 12) (.t 20)⟩,cm 13 21]) zE):=rfl
def ajx{d}(ok:Ok0 d){p}{n}(hn:n<=100000):∀ (k i:Nat),i+k=n->∀r,Ok0 r.1->∀s h,s 1=I n->s 2=I p->s 4=.fn 138 [] []->s 5=ac 5->s 10=ac 10->s 12=ac 12->s 13=I r.2->s 14=I i->
  h 5=.bx (ak d)->h 10=.bx [B false,.emp,I 0]->h 12=.bx (ak r.1)->
  ∃hh,ao 0 [10,12,13] (aB (am R (aA false) bc) [1,2,4,5,10,12,13,14] [5,10,12] s h)=some (.normal,⟨upd (upd (upd ce 13 (I (qJ d p true k r).2)) 12 (ac 12)) 10 (ac 10),hh⟩)/\hh 10=.bx [B false,.emp,I 0]/\hh 12=.bx (ak (qJ d p true k r).1):=by
 intro k;induction k with
 |zero=>
  intro i hi r hr s h h1 h2 h4 h5 h10 h12 h13 h14 k5 k10 k12;have e1:=aP ((i:Int)<n);rw[ai];refine⟨?hh0,?_,?_,?_⟩;rotate_left
  ·simp only[bc,qJ,go_sem,h1,h2,h4,h5,h10,h12,h13,h14,k5,k10,k12,e1];rfl
  ·rfl
  ·rfl
 |succ k ih=>
  intro i hi r hr s h h1 h2 h4 h5 h10 h12 h13 h14 k5 k10 k12;have e1:=aa ((i:Int)<n);have e5:aG (i+1)=(i+1:Nat):=wi;obtain⟨r1,r2⟩:=r;have hm:=Nv hr ok (p:=p);have okm:=EA (a:=r1) (b:=d) (p:=p) (up:=true);have ih':=ih (i+1) ω;unfold qJ;generalize eJ r1 d p true=q at hm okm⊢;obtain⟨q1,q2⟩:=q;simp only[rV,af,ak]at hm k5 k12;rw[ai];by_cases hr:r2=0
  ·have er:=tt hr;simp only[bc,ak,go_sem,h1,h2,h4,h5,h10,h12,h13,h14,k5,k10,k12,e1,er,hm,e5];exact ih' (q1,q2) okm _ _ Z Z Z Z Z Z Z Z Z Z Z
  ·have er:=ff hr;rw[av hr];refine⟨?hh1,?_,?_,?_⟩;rotate_left
   ·simp only[bc,go_sem,h1,h2,h4,h5,h10,h12,h13,h14,k5,k10,k12,e1,er];rfl
   ·rfl
   ·rfl
def ajy{d}(ok:Ok0 d){p}(hn:n<=100000){r}(hr:Ok0 r.1)(s)(h)(h1:s 1=I n)(h2:s 2=I p)(h4:s 4=.fn 138 [] [])(h5:s 5=ac 5)(h10:s 10=ac 10)(h12:s 12=ac 12)(h13:s 13=I r.2)
  (k5:h 5=.bx (ak d)) (k10:h 10=.bx [B false,.emp,I 0]) (k12:h 12=.bx (ak r.1)):
  fk false [[a9,aR,a9],[]] [.cell 10 3 true,.t 11] 0 (am R (aA false) zE s h)=some (rV (qJ d p true (n-1) r),[]):=by
 have hl:∀s h,s 1=I n->s 2=I p->s 4=.fn 138 [] []->s 5=ac 5->s 10=ac 10->s 12=ac 12->s 13=I r.2->s 14=I 1->
  h 5=.bx (ak d)->h 10=.bx [B false,.emp,I 0]->h 12=.bx (ak r.1)->
  ∃hh,ao 0 [10,12,13] (aB (am R (aA false) bc) [1,2,4,5,10,12,13,14] [5,10,12] s h)=some (.normal,⟨upd (upd (upd ce 13 (I (qJ d p true (n-1) r).2)) 12 (ac 12)) 10 (ac 10),hh⟩)/\hh 10=.bx [B false,.emp,I 0]/\hh 12=.bx (ak (qJ d p true (n-1) r).1):=by
  by_cases h0:n=0
  ·intro s h a1 a2 a4 a5 a10 a12 a13 a14 b5 b10 b12;have e1:=aP (1<n);subst h0;rw[ai];refine⟨?hh0,?_,?_,?_⟩;rotate_left
   ·simp only[bc,qJ,go_sem,aFt,a1,a2,a4,a5,a10,a12,a13,a14,b5,b10,b12,e1];rfl
   ·rfl
   ·rfl
  ·have:=ajx ok (p:=p) hn (n-1) 1 ω r hr
   simp_all
 generalize qJ d p true (n-1) r=q at hl⊢;obtain⟨r1,r2⟩:=r;obtain⟨q1,q2⟩:=q;have hP:∀s h,s 1=I n->s 2=I p->s 4=.fn 138 [] []->s 5=ac 5->s 10=ac 10->s 12=ac 12->s 13=I r2->s 14=I 1->
  h 5=.bx (ak d)->h 10=.bx [B false,.emp,I 0]->h 12=.bx (ak r1)->
  fk false [[a9,aR,a9],[]] [.cell 10 3 true,.t 11] 0 (dx (ao 0 [10,12,13] (aB (am R (aA false) bc) [1,2,4,5,10,12,13,14] [5,10,12] s h)) (am R (aA false) (.seq (.ops [10,11] [⟨(some 39),none,.load 3 true (.t 12)⟩,cm 40 13,⟨none,none,.store 3 (.t 10) (.t 39)⟩,cm 11 40]) (.ret))))=some (rV (q1,q2),[]):=fun s h a1 a2 a4 a5 a10 a12 a13 a14 b5 b10 b12=>by
  obtain⟨hh,g1,g2,g3⟩:=hl s h a1 a2 a4 a5 a10 a12 a13 a14 b5 b10 b12;rw[g1];simp only[rV,af,ak,g2,g3,go_sem]
 generalize hLL:aB (am R (aA false) bc) [1,2,4,5,10,12,13,14] [5,10,12]=L at hP;have hX:∀s h,am R (aA false) (.loop [1,2,4,5,10,12,13,14] [5,10,12] bc) s h=L s h:=fun s h=>by rw[←hLL];rfl
 show fk _ _ _ _ (dx (dx (am R (aA false) (.ops [1,2,4,5,10,12,13,14] [co 14 (.mv (.c (I 1)))]) s h) fun s h=>ao 0 [10,12,13] (am R (aA false) (.loop [1,2,4,5,10,12,13,14] [5,10,12] bc) s h)) _)=_;simp only[hX];simp only[go_sem,h1,h2,h4,h5,h10,h12,h13];exact hP _ _ Z Z Z Z Z Z Z Z k5 k10 k12
def apP{d}(ok:Ok0 d){p}(hn:n<=100000):R 277 [af d,I n,I p,.fn 271 [] [],.fn 138 [] []] []=some (rV (pw d n p true),[]):=by
 refine au HJ ?_;have hr:=OD ok (p:=p);have okr:=At (d:=d) (p:=p) (up:=true);have ht:=ajy ok (p:=p) hn okr;simp only[rV,af,ak]at hr;simp only[uz,AA,af,ak,go_sem,hr];exact ht _ _ Z Z Z Z Z Z Z Z Z Z
def ajz{d}(ok:Ok0 d){p}{n}(hn:n<=100000):∀ (k i:Nat),i+k=n->∀r,Ok0 r.1->∀s h,s 1=I n->s 2=I p->s 4=.fn 137 [] []->s 5=ac 5->s 10=ac 10->s 12=ac 12->s 13=I r.2->s 14=I i->
  h 5=.bx (ak d)->h 10=.bx [B false,.emp,I 0]->h 12=.bx (ak r.1)->
  ∃hh,ao 0 [10,12,13] (aB (am R (aA false) bc) [1,2,4,5,10,12,13,14] [5,10,12] s h)=some (.normal,⟨upd (upd (upd ce 13 (I (qJ d p false k r).2)) 12 (ac 12)) 10 (ac 10),hh⟩)/\hh 10=.bx [B false,.emp,I 0]/\hh 12=.bx (ak (qJ d p false k r).1):=by
 intro k;induction k with
 |zero=>
  intro i hi r hr s h h1 h2 h4 h5 h10 h12 h13 h14 k5 k10 k12;have e1:=aP ((i:Int)<n);rw[ai];refine⟨?hh0,?_,?_,?_⟩;rotate_left
  ·simp only[bc,qJ,go_sem,h1,h2,h4,h5,h10,h12,h13,h14,k5,k10,k12,e1];rfl
  ·rfl
  ·rfl
 |succ k ih=>
  intro i hi r hr s h h1 h2 h4 h5 h10 h12 h13 h14 k5 k10 k12;have e1:=aa ((i:Int)<n);have e5:aG (i+1)=(i+1:Nat):=wi;obtain⟨r1,r2⟩:=r;have hm:=Jv hr ok (p:=p);have okm:=EA (a:=r1) (b:=d) (p:=p) (up:=false);have ih':=ih (i+1) ω;unfold qJ;generalize eJ r1 d p false=q at hm okm⊢;obtain⟨q1,q2⟩:=q;simp only[rV,af,ak]at hm k5 k12;rw[ai];by_cases hr:r2=0
  ·have er:=tt hr;simp only[bc,ak,go_sem,h1,h2,h4,h5,h10,h12,h13,h14,k5,k10,k12,e1,er,hm,e5];exact ih' (q1,q2) okm _ _ Z Z Z Z Z Z Z Z Z Z Z
  ·have er:=ff hr;rw[av hr];refine⟨?hh1,?_,?_,?_⟩;rotate_left
   ·simp only[bc,go_sem,h1,h2,h4,h5,h10,h12,h13,h14,k5,k10,k12,e1,er];rfl
   ·rfl
   ·rfl
def ajA{d}(ok:Ok0 d){p}(hn:n<=100000){r}(hr:Ok0 r.1)(s)(h)(h1:s 1=I n)(h2:s 2=I p)(h4:s 4=.fn 137 [] [])(h5:s 5=ac 5)(h10:s 10=ac 10)(h12:s 12=ac 12)(h13:s 13=I r.2)
  (k5:h 5=.bx (ak d)) (k10:h 10=.bx [B false,.emp,I 0]) (k12:h 12=.bx (ak r.1)):
  fk false [[a9,aR,a9],[]] [.cell 10 3 true,.t 11] 0 (am R (aA false) zE s h)=some (rV (qJ d p false (n-1) r),[]):=by
 have hl:∀s h,s 1=I n->s 2=I p->s 4=.fn 137 [] []->s 5=ac 5->s 10=ac 10->s 12=ac 12->s 13=I r.2->s 14=I 1->
  h 5=.bx (ak d)->h 10=.bx [B false,.emp,I 0]->h 12=.bx (ak r.1)->
  ∃hh,ao 0 [10,12,13] (aB (am R (aA false) bc) [1,2,4,5,10,12,13,14] [5,10,12] s h)=some (.normal,⟨upd (upd (upd ce 13 (I (qJ d p false (n-1) r).2)) 12 (ac 12)) 10 (ac 10),hh⟩)/\hh 10=.bx [B false,.emp,I 0]/\hh 12=.bx (ak (qJ d p false (n-1) r).1):=by
  by_cases h0:n=0
  ·intro s h a1 a2 a4 a5 a10 a12 a13 a14 b5 b10 b12;have e1:=aP (1<n);subst h0;rw[ai];refine⟨?hh0,?_,?_,?_⟩;rotate_left
   ·simp only[bc,qJ,go_sem,aFt,a1,a2,a4,a5,a10,a12,a13,a14,b5,b10,b12,e1];rfl
   ·rfl
   ·rfl
  ·have:=ajz ok (p:=p) hn (n-1) 1 ω r hr
   simp_all
 generalize qJ d p false (n-1) r=q at hl⊢;obtain⟨r1,r2⟩:=r;obtain⟨q1,q2⟩:=q;have hP:∀s h,s 1=I n->s 2=I p->s 4=.fn 137 [] []->s 5=ac 5->s 10=ac 10->s 12=ac 12->s 13=I r2->s 14=I 1->
  h 5=.bx (ak d)->h 10=.bx [B false,.emp,I 0]->h 12=.bx (ak r1)->
  fk false [[a9,aR,a9],[]] [.cell 10 3 true,.t 11] 0 (dx (ao 0 [10,12,13] (aB (am R (aA false) bc) [1,2,4,5,10,12,13,14] [5,10,12] s h)) (am R (aA false) (.seq (.ops [10,11] [⟨(some 39),none,.load 3 true (.t 12)⟩,cm 40 13,⟨none,none,.store 3 (.t 10) (.t 39)⟩,cm 11 40]) (.ret))))=some (rV (q1,q2),[]):=fun s h a1 a2 a4 a5 a10 a12 a13 a14 b5 b10 b12=>by
  obtain⟨hh,g1,g2,g3⟩:=hl s h a1 a2 a4 a5 a10 a12 a13 a14 b5 b10 b12;rw[g1];simp only[rV,af,ak,g2,g3,go_sem]
 generalize hLL:aB (am R (aA false) bc) [1,2,4,5,10,12,13,14] [5,10,12]=L at hP;have hX:∀s h,am R (aA false) (.loop [1,2,4,5,10,12,13,14] [5,10,12] bc) s h=L s h:=fun s h=>by rw[←hLL];rfl
 show fk _ _ _ _ (dx (dx (am R (aA false) (.ops [1,2,4,5,10,12,13,14] [co 14 (.mv (.c (I 1)))]) s h) fun s h=>ao 0 [10,12,13] (am R (aA false) (.loop [1,2,4,5,10,12,13,14] [5,10,12] bc) s h)) _)=_;simp only[hX];simp only[go_sem,h1,h2,h4,h5,h10,h12,h13];exact hP _ _ Z Z Z Z Z Z Z Z k5 k10 k12
def apQ{d}(ok:Ok0 d){p}(hn:n<=100000):R 277 [af d,I n,I p,.fn 270 [] [],.fn 137 [] []] []=some (rV (pw d n p false),[]):=by
 refine au HJ ?_;have hr:=IX ok (p:=p);have okr:=At (d:=d) (p:=p) (up:=false);have ht:=ajA ok (p:=p) hn okr;simp only[rV,af,ak]at hr;simp only[uz,AA,af,ak,go_sem,hr];exact ht _ _ Z Z Z Z Z Z Z Z Z Z
def sS(d:Rd):Int:=if vd d=false\/O d.m=0 then 0 else if d.neg=true then-1 else 1
theorem Cv{d}(ok:Ok0 d):Ok0 (gW d):=by
 unfold gW;split
 ·exact aO.2
 ·exact⟨ok.1,ok.2⟩
def asL{d}(h:sS d<0):¬sS (gW d)<0:=by
 unfold sS at h;split at h
 ·omega
 ·split at h
  ·unfold sS gW;grind
  omega
def vD(d:Rd)(n:Nat)(p:Int)(up:Bool):Rd×Int:=if sS d<0 then(gW (pw (gW d) n p (!up)).1,(pw (gW d) n p (!up)).2)else pw d n p up
theorem ad7{d}(ok:Ok0 d)(hs:¬sS d<0){p}(hn:n<=100000){up}:R 225 [af d,I n,I p,B up] []=some (rV (pw d n p up),[]):=by
 refine au J0 ?_;have h1:=Vd ok;rw[show(if vd d=false\/O d.m=0 then 0 else if d.neg=true then-1 else 1)=sS d from rfl]at h1;have e1:=ff hs;cases up with
 |true=>
  have h2:=apP ok (p:=p) hn;simp only[rV,af,ak]at h1 h2;simp only[s9,rV,af,ak,go_sem,h1,e1,h2]
 |false=>
  have h2:=apQ ok (p:=p) hn;simp only[rV,af,ak]at h1 h2;simp only[s9,rV,af,ak,go_sem,h1,e1,h2]
def Tq{d}(ok:Ok0 d){p}(hn:n<=100000){up}:R 225 [af d,I n,I p,B up] []=some (rV (vD d n p up),[]):=by
 unfold vD;by_cases hs:sS d<0
 ·refine au J0 ?_;have h1:=Vd ok;rw[show(if vd d=false\/O d.m=0 then 0 else if d.neg=true then-1 else 1)=sS d from rfl]at h1;have e1:=tt hs;have h2:=Dz ok;rw[show(if vd d=false\/O d.m=0 then aC else⟨!d.neg,d.m,d.e⟩)=gW d from rfl]at h2;have h3:=ad7 (Cv ok) (asL hs) (p:=p) hn (up:=!up);have okq:=aoO (d:=gW d) (n:=n) (p:=p) (up:=!up);generalize gW d=nd at h2 h3 okq⊢;generalize pw nd n p (!up)=q at h3 okq⊢;obtain⟨q1,q2⟩:=q;have h4:=Dz (d:=q1) okq;rw[show(if vd q1=false\/O q1.m=0 then aC else⟨!q1.neg,q1.m,q1.e⟩)=gW q1 from rfl]at h4;simp only[rV,af,ak]at h1 h2 h3 h4;simp only[s9,rV,af,ak,go_sem,h1,e1,h2,h3,h4]
 simp_all[av,ad7]
def one:Rd:=⟨false,[1],0⟩
def Nw:R 64 [I 1] []=some (af one,[]):=by
 grind[m8,kR,aZ,one,l7,Du,ax,vj,cO]
def gg:vd one=true/\Ok0 one:=⟨by decide,⟨fun x hx=>by rw[List.mem_singleton.1 hx];decide,by decide⟩⟩
def BX(x:Ri)(n:Nat)(p:Int):Ri:=if(kI x&&bv p&&decide (n<=16))=true then(if n=0 then⟨one,one,false⟩else
 kD (vD (if n%2=0 then nG x else x).lo n p false) (vD (if n%2=0 then nG x else x).hi n p true))else bt
def aa0{a b}(oa:Ok0 a)(ob:Ok0 b):Ok0 (lw a b):=by
 grind[lw]
def HU{a b}(oa:Ok0 a)(ob:Ok0 b):Ok0 (nS a b):=by
 grind[nS]
theorem Vo{x}(ok:OkI x):OkI (nG x):=by
 unfold nG;split
 ·refine⟨?_,HU (vC ok.lo) (vC ok.hi)⟩;unfold BW;split
  ·exact aO.2
  ·exact aa0 (vC ok.lo) (vC ok.hi)
 ·exact⟨aO.2,aO.2⟩
def ad8{d}(ok:Ok0 d){n}{p}{up}:Ok0 (vD d n p up).1:=by
 grind[vD,Cv,aoO]
def FH{x}(ok:OkI x){p}(hn:n<=100000):R 164 [ae x,I n,I p] []=some (ae (BX x n p),[]):=by
 refine au QJ ?_;have hk:=kU ok;have hp:=l8 (p:=p);have hw:=dW;have n0:=aP ((n:Int)<0);unfold BX;simp only[ae,ah]at hw;cases h1:kI x with
 |false=>
  rw[h1]at hk;simp only[io,ae,ah,go_sem,hk,hw]
 |true=>
  rw[h1]at hk;cases h2:bv p with
  |false=>
   rw[h2]at hp;simp only[io,ae,ah,go_sem,hk,hp,hw]
  |true=>
   rw[h2]at hp;rw[aEW,aEW];by_cases h3:n<=16
   ·have e3:=aP (16< (n:Int));rw[ap (decide_eq_true h3)];by_cases h4:n=0
    ·have e4:=aa ((n:Int)=0);rw[ap h4];have g1:=Nw;have g2:=fY gg.2 gg.1;simp only[one,ae,ah,af,ak]at g1 g2;simp only[io,one,ae,ah,go_sem,hk,hp,n0,e3,e4,g1,g2]
    ·have e4:=aP ((n:Int)=0);rw[av h4];by_cases h5:n%2=0
     ·have e5:((n:Int).tmod 2=0)=True:=tt γ;rw[ap h5];have ha:=ad5 ok;have oa:=Vo ok;generalize nG x=y at ha oa⊢;have g1:=Tq oa.lo hn (p:=p) (up:=false);have g2:=Tq oa.hi hn (p:=p) (up:=true);generalize vD y.lo n p false=r at g1⊢;generalize vD y.hi n p true=q at g2⊢;obtain⟨r1,r2⟩:=r;obtain⟨q1,q2⟩:=q;have hm:=Cu (a:=r1) (b:=q1) (e:=r2) (f:=q2);simp only[ae,ah,af,ak,rV]at ha g1 g2 hm;simp only[io,ae,ah,go_sem,aEP,hk,hp,n0,e3,e4,e5,ha,g1,g2,hm]
     ·have e5:((n:Int).tmod 2=0)=False:=ff γ;rw[av h5];have g1:=Tq ok.lo hn (p:=p) (up:=false);have g2:=Tq ok.hi hn (p:=p) (up:=true);generalize vD x.lo n p false=r at g1⊢;generalize vD x.hi n p true=q at g2⊢;obtain⟨r1,r2⟩:=r;obtain⟨q1,q2⟩:=q;have hm:=Cu (a:=r1) (b:=q1) (e:=r2) (f:=q2);simp only[ae,ah,af,ak,rV]at g1 g2 hm;simp only[io,ae,ah,go_sem,aEP,hk,hp,n0,e3,e4,e5,g1,g2,hm]
   ·have e3:=aa (16< (n:Int));rw[av (fun h=>h3 (of_decide_eq_true h))];simp only[io,ae,ah,go_sem,hk,hp,n0,e3,hw]
def HV(x:Ri)(e:Nat)(p:Int):Ri:=if e<=16 then BX x e p else bX (BX x 16 p) (BX x (e-16) p) p
theorem zF{r s}(h1:Ok0 r.1)(h2:Ok0 s.1):OkI (kD r s):=by
 unfold kD;split
 ·exact⟨h1,h2⟩
 ·exact⟨aO.2,aO.2⟩
theorem EB{x}(ok:OkI x){n}{p}:OkI (BX x n p):=by
 unfold BX;have h:OkI (if n%2=0 then nG x else x):=by
  grind[Vo]
 split
 ·split
  ·exact⟨gg.2,gg.2⟩
  ·exact zF (ad8 h.1) (ad8 h.2)
 ·exact⟨aO.2,aO.2⟩
def apR{x}(ok:OkI x){p}{e:Nat}(hn:e<=100000):R 256 [ae x,I e,I p] []=some (ae (HV x e p),[]):=by
 refine au Yf ?_;unfold HV;by_cases h1:e<=16
 ·have e1:=aa ((e:Int)<=16);rw[ap h1];have h2:=FH ok hn (p:=p);simp only[ae,ah]at h2;simp only[Ag,ae,ah,go_sem,e1,h2]
 ·have e1:=aP ((e:Int)<=16);rw[av h1];have h2:=FH ok (show 16<=100000 by decide) (p:=p);have h3:=FH ok (show e-16<=100000 by omega) (p:=p);have o2:=EB ok (n:=16) (p:=p);have o3:=EB ok (n:=e-16) (p:=p);have w1:aG (e-16)=(e-16:Nat):=wi;have h4:=sy o2 o3 (p:=p);simp only[ae,ah,Int.cast_ofNat_Int]at h2 h3 h4;simp only[Ag,ae,ah,go_sem,e1,h2,h3,h4,w1]
def aY(l:List Int):List (List AV):=l.map fun n=>[I n]
@[go_sem] theorem qW(l):O (aY l)=O l:=by simp[aY]
def vE{l}{i:Int}{d}(hi:i=n)(h:l[n]?=some d):dF (aY l) i=some (.ipt [I d]):=by
 grind[dF,aY]
def aa1{x}:R 278 [I x] []=some (B false,[]):=by
 refine au QS ?_;simp only[AO,go_sem]
def ajB{x y}:R 227 [I x,I y] []=some (I (gH x y),[]):=by
 refine au Nf ?_;have h1:=aa1 (x:=x);have h2:=aa1 (x:=y);unfold gH;by_cases e1:x<y
 ·have f1:=tt e1;simp only[mY,go_sem,h1,h2,f1]
 ·have f1:=ff e1;by_cases e2:y<x
  ·have f2:=tt e2;simp only[mY,go_sem,h1,h2,f1,f2]
  ·have f2:=ff e2;simp only[mY,go_sem,h1,h2,f1,f2]
def tW:List Int->List Int->Int
 |[],[]=>0
 |[],_::_=>-1
 |_::_,[]=>1
 |x::xs,y::ys=>if gH x y=0 then tW xs ys else gH x y
def amP{a b}(hl:O a=O b)(h2:O a<=100000):∀ (k i:Nat),i+k=O a->∀s h,s 0=.sl 1 (aY a)->s 1=.sl 1 (aY b)->s 9=.sl 1 (aY a)->s 10=I (O a)->s 11=I i->
  ∃hh,ao 0 [0,1] (aB (am R (aA false) gG) [0,1,9,10,11] [] s h)=if tW (a.drop i) (b.drop i)=0 then some (.normal,⟨upd (upd ce 1 (.sl 1 (aY b))) 0 (.sl 1 (aY a)),fun _=>.dead⟩)else some (.ret,⟨upd ce 4 (I (tW (a.drop i) (b.drop i))),hh⟩):=by
 intro k;induction k with
 |zero=>
  intro i hi s h h0 h1 h9 h10 h11;have e1:=aP ((i:Int)<O a);rw[aFq ω,aFq ω,ai];refine⟨fun _=>.dead,?_⟩;show _=if 0=0 then _ else _
  simp only[gG,go_sem,h0,h1,h9,h10,h11,e1]
 |succ k ih=>
  intro i hi s h h0 h1 h9 h10 h11;have hlt:i<O a:=ω
  have hlt2:i<O b:=ω
  have e1:=aa ((i:Int)<O a);have e4:=aP (O b<=(i:Int));have e2:=vE rfl (aE1 hlt);have e3:=vE rfl (aE1 hlt2);have e5:aG (i+1)=(i+1:Nat):=wi;rw[aFe hlt,aFe hlt2,ai];have ih':=ih (i+1) ω;have hc:=ajB (x:=a[i]) (y:=b[i]);generalize a[i]=x at e2 hc⊢;generalize b[i]=y at e3 hc⊢;unfold tW;by_cases hz:gH x y=0
  ·have e6:=tt hz;simp only[gG,go_sem,h0,h1,h9,h10,h11,e1,e2,e3,e4,e5,hc,e6];apply ih'<;>rfl
  ·have e6:=ff hz;refine⟨?hh,?_⟩;rotate_left;simp only[gG,go_sem,h0,h1,h9,h10,h11,e1,e2,e3,e4,hc,e6];rfl
def ahl{a b}(hl:O a=O b)(h2:O a<=100000):R 228 [.sl 1 (aY a),.sl 1 (aY b)] []=some (I (tW a b),[]):=by
 refine au GG ?_;have h3:=amP hl h2 (O a) 0 (aES _);simp only[aFX,aFz]at h3;by_cases hz:tW a b=0
 ·simp only[ap hz]at h3;have e1:=aP ((O a:Int)<O b);simp only[kC,qy,go_sem];rw[(h3 _ _ Z Z Z Z Z).choose_spec,hz];simp only[go_sem,e1]
 ·simp only[av hz]at h3;simp only[kC,qy,go_sem];rw[(h3 _ _ Z Z Z Z Z).choose_spec];simp only[go_sem]
def cp:List Int->Int
 |[]=>0
 |x::l=>x+cp l
def sm(l:List Int):Prop:=O l<=1000/\∀x∈l,0<=x/\x<=32
theorem amQ{l:List Int}{i}(h):cp (l.take (i+1))=cp (l.take i)+l[i]:=by
 induction l generalizing i with
 |nil=>grind
 |cons a l ih=>
  cases i with
  |zero=>simp[cp]
  |succ i=>
   have:=ih (i:=i) (by simpa using h);simp only[List.take_succ_cons,cp,List.getElem_cons_succ];omega
def asM{l}(h:∀x∈l,0<=x/\x<=32):0<=cp l/\cp l<=32*O l:=by
 induction l with
 |nil=>exact⟨Int.le_refl _,Int.le_refl _⟩
 |cons a l ih=>
  have h1:=h a (List.mem_cons_self ..);have h2:=ih (fun x hx=>h x (List.mem_cons_of_mem _ hx));grind[cp,aFk]
def amR{a}(h2:sm a):∀k i,i+k=O a->∀s h,s 3=I (cp (a.take i))->s 6=.sl 1 (aY a)->s 7=I (O a)->s 8=I i->
  ao 0 [3] (aB (am R (aA false) ws) [3,6,7,8] [] s h)=some (.normal,⟨upd ce 3 (I (cp a)),fun _=>.dead⟩):=by
 intro k;induction k with
 |zero=>
  intro i hi s h h3 h6 h7 h8;have e1:=aP ((i:Int)<O a);rw[aFi ω]at h3;rw[ai];simp only[ws,go_sem,h3,h6,h7,h8,e1]
 |succ k ih=>
  intro i hi s h h3 h6 h7 h8;have hlt:i<O a:=ω
  obtain⟨g1,g2⟩:=h2;have e1:=aa ((i:Int)<O a);have e2:=vE rfl (aE1 hlt);have e5:aG (i+1)=(i+1:Nat):=wi;have b1:=asM (l:=a.take i) (fun x hx=>g2 x (List.mem_of_mem_take hx));have b2:=g2 a[i] (aFg hlt);have e6:IntKind.i64.wrap (cp (a.take i)+a[i])=cp (a.take (i+1)):=by
   grind[amQ,i64_in]
  have ih':=ih (i+1) ω;rw[ai];simp only[ws,go_sem,h3,h6,h7,h8,e1,e2,e5,e6];apply ih'<;>rfl
def Cw{a}(h2:sm a):R 167 [.sl 1 (aY a)] []=some (I (cp a),[]):=by
 refine au X1 ?_;have h3:=amR h2 (O a) 0 (aES _);simp only[Ec,L5,go_sem];rw[h3 _ _ Z Z Z Z];simp only[go_sem]
def dO(a b:List Int):Int:=if gH (cp a) (cp b)=0 then tW b a else gH (cp a) (cp b)
def aa2{a b}(ha:sm a)(hb:sm b)(hl:O a=O b):R 168 [.sl 1 (aY a),.sl 1 (aY b)] []=some (I (dO a b),[]):=by
 refine au aaf ?_;have d1:=Cw ha;have d2:=Cw hb;have d3:=ajB (x:=cp a) (y:=cp b);have d4:=ahl hl.symm (by have:=hb.1;omega);unfold dO;by_cases hz:gH (cp a) (cp b)=0
 ·have e6:=tt hz;simp only[Bs,go_sem,d1,d2,d3,d4,e6]
 ·have e6:=ff hz;simp only[Bs,go_sem,d1,d2,d3,e6]
structure Rt where
 exps:List Int
 c:Rd
structure Rp where
 vars:Int
 terms:List Rt
def dE(t:Rt):List AV:=[.sl 1 (aY t.exps),B t.c.neg,lm t.c.m,I t.c.e]
def aU(l:List Rt):List (List AV):=l.map dE
def bj(a:Rp):AV:=.agg [I a.vars,.sl 4 (aU a.terms)]
@[go_sem] theorem sz(l):O (aU l)=O l:=by simp[aU]
def kV{l}{i:Int}{d}(hi:i=n)(h:l[n]?=some d):dF (aU l) i=some (.ipt (dE d)):=by
 grind[dF,aU]
theorem vO{α:Type}{f}{l:List α}(h:∀x∈l,f x=x):l.map f=l:=(aFn (g:=fun c=>c) h).trans (aFH _)
@[go_sem] theorem Ka(l):(aU l).map (fj [aR,a9,aR,a9])=aU l:=by
 refine vO fun x hx=>?_;simp only[aU,aFN]at hx;obtain⟨t,ht,rfl⟩:=hx;simp only[dE,go_sem]
structure OkT (t:Rt):Prop where
 c:Ok0 t.c
 len:O t.exps<=100000
structure OkP (a:Rp):Prop where
 t:∀t∈a.terms,OkT t
def HW(e:Int):Bool:=decide (e<0)||decide (32<e)
theorem asN{e}:R 166 [I e] []=some (B (HW e),[]):=by
 refine au JY ?_;unfold HW;by_cases h:e<0
 ·have e1:=tt h;simp only[yp,go_sem,e1,decide_true,Bool.true_or]
 ·have e1:=ff h;simp only[yp,go_sem,e1,decide_false,Bool.false_or]
def amS{l}(h2:O l<=100000):R 165 [.sl 1 (aY l),.fn 166 [] []] []=some (B (l.any HW),[]):=by
 let p:List AV->Bool:=fun row=>match row with|[.v (.int _ e)]=>HW e|_=>false
 have h1:=aaC (k:=1) (g:=false) (f:=166) (rows:=aY l) (p:=p) bT.2.1 bT.2.2 (bT.1.2.2.2 false) rfl (JY.1.2.1 false) (by grind[qW]) (fun row hr=>by
  simp only[aY,aFN]at hr;obtain⟨e,he,rfl⟩:=hr;refine⟨I e,rfl,rfl,?_⟩;simp only[go_sem,asN,p])
 have h2:=Va (k:=1) cJ.2.1 cJ.2.2 (cJ.1.2.2.2 false) rfl (bT.1.2.1 false) (bT.1.1 false) (by simp only[go_sem]) h1;grind[aY,HW,List.any_map]
def Ts(v:Int)(t:Rt):Bool:=decide (O t.exps=v)&& (vd t.c&& (decide (O t.c.m≠0)&& (!(t.exps.any HW)&&decide (cp t.exps<=32))))
def ahm:Option Rt->Rt->Bool
 |none,_=>true
 |some q,t=>decide (dO q.exps t.exps<0)
def FI(v:Int):Option Rt->List Rt->Bool
 |_,[]=>true
 |pr,t::l=>Ts v t&& (ahm pr t&&FI v (some t) l)
def HX{v}{t}(h:Ts v t=true):O t.exps=v/\vd t.c=true/\O t.c.m≠0/\t.exps.any HW=false/\cp t.exps<=32:=by
 grind[Ts]
def EC{l:List Int}(h:l.any HW=false):∀x∈l,0<=x/\x<=32:=by
 simp_all[HW,aF0,decide_eq_true_eq,not_or]
def apS{a:Rp}(ok:∀t∈a.terms,Ok0 t.c)(hv:a.vars<=8)(h2:O a.terms<=500):∀k i,i+k=O a.terms->∀pr,(i=0->pr=none)->(0<i->∃q,pr=some q/\a.terms[i-1]?=some q/\Ts a.vars q=true)->
  ∀s h,s 1=ac 1->s 20=.sl 4 (aU a.terms)->s 21=I (O a.terms)->s 22=I i->h 1=.bx [I a.vars,.sl 4 (aU a.terms)]->
  ∃hh,ao 0 [] (aB (am R (aA false) fR) [1,20,21,22] [1] s h)=if FI a.vars pr (a.terms.drop i)=true then some (.normal,⟨fun _=>.any,hh⟩)else some (.ret,⟨upd ce 2 (B false),hh⟩):=by
 intro k;induction k with
 |zero=>
  intro i hi pr p0 p1 s h h1 h20 h21 h22 k1;have e1:=aP ((i:Int)<O a.terms);rw[aFq ω,ai];refine⟨?hh0,?_⟩;rotate_left;show _=if true=true then _ else _
  rw[ap rfl];simp only[fR,go_sem,h1,h20,h21,h22,k1,e1];rfl
 |succ k ih=>
  intro i hi pr p0 p1 s h h1 h20 h21 h22 k1;have hlt:i<O a.terms:=ω
  have e1:=aa ((i:Int)<O a.terms);have e2:=kV rfl (aE1 hlt);have e5:aG ((i:Int)+1)=((i+1:Nat):Int):=wi;have okt:=ok a.terms[i] (aFg hlt);have hnext:=aE1 hlt;rw[aFe hlt,ai];have ih':=ih (i+1) ω (some a.terms[i]) (fun h=>absurd h (Nat.succ_ne_zero _));generalize a.terms[i]=t at e2 okt ih' hnext⊢;generalize aB _ _ _=L at ih'⊢;have hvd:=eC okt;have hct:=fun(h:(O t.exps:Int)=a.vars)=>amS (l:=t.exps) ω;simp only[dE]at e2;simp only[af,ak]at hvd;unfold FI;cases hb:Ts a.vars t with
  |false=>
   simp only[aE0,av aE3];unfold Ts at hb;by_cases c1:O t.exps=a.vars
   ·have f1:=tt c1;rw[decide_eq_true c1,aEW]at hb;cases c2:vd t.c with
    |false=>
     rw[c2]at hvd;refine⟨?hh2,?_⟩;rotate_left;simp only[fR,go_sem,h1,h20,h21,h22,k1,e1,e2,f1,hvd];rfl
    |true=>
     rw[c2]at hvd hb;rw[aEW]at hb;by_cases c3:O t.c.m=0
     ·have f3:=aa ((O t.c.m:Int)=0);refine⟨?hh3,?_⟩;rotate_left;simp only[fR,go_sem,h1,h20,h21,h22,k1,e1,e2,f1,hvd,f3];rfl
     ·have f3:=aP ((O t.c.m:Int)=0);rw[decide_eq_true c3,aEW]at hb;have hct:=hct c1;cases c4:t.exps.any HW with
      |true=>
       rw[c4]at hct;refine⟨?hh4,?_⟩;rotate_left;simp only[fR,go_sem,h1,h20,h21,h22,k1,e1,e2,f1,hvd,f3,hct];rfl
      |false=>
       rw[c4]at hct hb;rw[aFY,aEW]at hb;have hdg:=Cw (a:=t.exps) ⟨by omega,EC c4⟩;have f5:(32<cp t.exps)=True:=tt γ;refine⟨?hh5,?_⟩;rotate_left;simp only[fR,go_sem,h1,h20,h21,h22,k1,e1,e2,f1,hvd,f3,hct,hdg,f5];rfl
   ·have f1:((O t.exps:Int)=a.vars)=False:=ff c1;refine⟨?hh1,?_⟩;rotate_left;simp only[fR,go_sem,h1,h20,h21,h22,k1,e1,e2,f1];rfl
  |true=>
   obtain⟨c1,c2,c3,c4,c5⟩:=HX hb;have f1:((O t.exps:Int)=a.vars)=True:=tt c1;rw[c2]at hvd;have f3:=aP ((O t.c.m:Int)=0);have hct:=hct c1;rw[c4]at hct;have hdg:=Cw (a:=t.exps) ⟨by omega,EC c4⟩;have f5:=aP (32<cp t.exps);simp only[aEW];by_cases hi0:i=0
   ·have f6:=aP (0< (i:Int));rw[p0 hi0];simp only[ahm,aEW];simp only[fR,go_sem,h1,h20,h21,h22,k1,e1,e2,f1,hvd,f3,hct,hdg,f5,f6,e5];exact ih' (fun _=>⟨t,rfl,hnext,hb⟩) _ _ Z Z Z Z Z
   ·have f6:=aa (0< (i:Int));obtain⟨q,q1,q2,q3⟩:=p1 ω;obtain⟨d1,d2,d3,d4,d5⟩:=HX q3;rw[q1];have e7:aG ((i:Int)-1)=((i-1:Nat):Int):=wi;have e8:dF (aU a.terms) ((i-1:Nat):Int)=some (.ipt (dE q)):=kV rfl q2;simp only[dE]at e8;have ho:=aa2 (a:=q.exps) (b:=t.exps) ⟨by omega,EC d4⟩ ⟨by omega,EC c4⟩ ω;simp only[ahm];by_cases c6:dO q.exps t.exps<0
    ·have f7:=aP (0<=dO q.exps t.exps);simp only[decide_eq_true c6,aEW];simp only[fR,go_sem,h1,h20,h21,h22,k1,e1,e2,f1,hvd,f3,hct,hdg,f5,f6,e5,e7,e8,ho,f7];exact ih' (fun _=>⟨t,rfl,hnext,hb⟩) _ _ Z Z Z Z Z
    ·have f7:=aa (0<=dO q.exps t.exps);simp only[decide_eq_false c6,aE0,av aE3];refine⟨?hh7,?_⟩;rotate_left;simp only[fR,go_sem,h1,h20,h21,h22,k1,e1,e2,f1,hvd,f3,hct,hdg,f5,f6,e7,e8,ho,f7];rfl
def vp(a:Rp):Bool:=decide (0<=a.vars)&& (decide (a.vars<=8)&& (decide (O a.terms<=500)&&FI a.vars none a.terms))
def Tt{a}(ok:∀t∈a.terms,Ok0 t.c):R 100 [bj a] []=some (B (vp a),[]):=by
 refine au Z9 ?_;unfold vp;by_cases c1:0<=a.vars
 ·have f1:=aP (a.vars<0);rw[decide_eq_true c1,aEW];by_cases c2:a.vars<=8
  ·have f2:=aP (8<a.vars);rw[decide_eq_true c2,aEW];by_cases c3:O a.terms<=500
   ·have f3:=aP (500< (O a.terms:Int));rw[decide_eq_true c3,aEW];have h3:=apS ok c2 c3 (O a.terms) 0 (aES _) none (fun _=>rfl) (fun h=>absurd h (Nat.lt_irrefl _));simp only[aFX,aFz]at h3;cases hb:FI a.vars none a.terms with
    |true=>
     rw[hb]at h3;simp only[pj,uM,bj,go_sem,f1,f2,f3];rw[(h3 _ _ Z Z Z Z Z).choose_spec];simp only[go_sem]
    |false=>
     rw[hb]at h3;simp only[pj,uM,bj,go_sem,f1,f2,f3];rw[(h3 _ _ Z Z Z Z Z).choose_spec];simp only[go_sem]
   ·have f3:=aa (500< (O a.terms:Int));rw[decide_eq_false c3,aE0];simp only[pj,uM,bj,go_sem,f1,f2,f3]
  ·have f2:=aa (8<a.vars);rw[decide_eq_false c2,aE0];simp only[pj,uM,bj,go_sem,f1,f2]
 ·have f1:=aa (a.vars<0);rw[decide_eq_false c1,aE0];simp only[pj,uM,bj,go_sem,f1]
def vP{a}(ok:OkP a):R 100 [bj a] []=some (B (vp a),[]):=Tt fun t h=>(ok.t t h).c
@[go_sem] theorem ad9(l):(cT l).map (fj [a9,aR,a9,a9,aR,a9,a9])=cT l:=by
 refine vO fun x hx=>?_;simp only[cT,aFN]at hx;obtain⟨t,ht,rfl⟩:=hx;simp only[ah,go_sem]
def ahn{x}(ok:OkI x):R 298 [ae x] []=some (B (!kI x),[]):=by
 refine au HL ?_;have hv:=mL ok;simp only[ae,ah]at hv;unfold kI;cases h1:vi x with
 |false=>
  rw[h1]at hv;rw[aFT];simp only[uB,ae,ah,go_sem,hv,aFY]
 |true=>
  rw[h1]at hv;rw[aFE,Bool.not_not];simp only[uB,ae,ah,go_sem,hv]
def amT{l}(ok:∀x∈l,OkI x)(h2:O l<=100000):R 36 [.sl 7 (cT l),.fn 298 [] []] []=some (B (l.any fun x=>!kI x),[]):=by
 let p:List AV->Bool:=fun row=>match row with|[.v (.bool n1),.sl _ m1,.v (.int _ e1),.v (.bool n2),.sl _ m2,.v (.int _ e2),.v (.bool a)]=>!kI ⟨⟨n1,m1.map (fun r=>match r with|[.v (.int _ x)]=>x.toNat|_=>0),e1⟩,⟨n2,m2.map (fun r=>match r with|[.v (.int _ x)]=>x.toNat|_=>0),e2⟩,a⟩|_=>false
 have hmm:∀m,(aS m).map (fun r=>match r with|[.v (.int _ x)]=>x.toNat|_=>0)=m:=fun m=>by
  grind[aS,List.map_map,aFn,aFH]
 have hp:∀x,p (ah x)=!kI x:=fun x=>by
  show(!kI ⟨⟨x.lo.neg,(aS x.lo.m).map _,x.lo.e⟩,⟨x.hi.neg,(aS x.hi.m).map _,x.hi.e⟩,x.all⟩)=_
  simp_all
 have h1:=aaC (k:=7) (g:=true) (f:=298) (rows:=cT l) (p:=p) aT.2.1 aT.2.2 (aT.1.2.2.2 false) rfl (HL.1.2.1 false) (by grind[Vl]) (fun row hr=>by
  simp only[cT,aFN]at hr;obtain⟨x,hx,rfl⟩:=hr;have hd:=ahn (ok x hx);refine⟨ae x,rfl,rfl,?_⟩;rw[hp];simp only[ae,ah]at hd;simp only[ae,ah,go_sem,hd])
 have h2:=Va (k:=7) bg.2.1 bg.2.2 (bg.1.2.2.2 false) rfl (aT.1.2.1 false) (aT.1.1 false) (by simp only[go_sem]) h1;have h3:(cT l).any p=l.any fun x=>!kI x:=by
  unfold cT;rw[List.any_map];congr 1;funext x;exact hp x
 grind
def rT(a:Rp)(dom:List Ri):Bool:=vp a&& (decide (O dom=a.vars)&&!(dom.any fun x=>!kI x))
def ajC{a}{dom}(oa:OkP a)(od:∀x∈dom,OkI x)(h2:O dom<=100000):R 253 [bj a,.sl 7 (cT dom)] []=some (B (rT a dom),[]):=by
 refine au U1 ?_;have hv:=vP oa;have hc:=amT od h2;simp only[bj]at hv;unfold rT;cases h1:vp a with
 |false=>
  rw[h1]at hv;simp only[tj,bj,go_sem,hv]
 |true=>
  rw[h1]at hv;by_cases h3:O dom=a.vars
  ·have e3:=tt h3;simp only[tj,bj,go_sem,hv,e3,hc]
  ·have e3:=ff h3;simp only[tj,bj,go_sem,hv,e3]
def OG{a}{dom}(oa:OkP a)(od:∀x∈dom,OkI x)(h2:O dom<=100000){p}:R 193 [bj a,.sl 7 (cT dom),I p] []=some (B (rT a dom&&bv p),[]):=by
 refine au aal ?_;have hd:=ajC oa od h2;simp only[bj]at hd;unfold bv;cases h1:rT a dom with
 |false=>
  rw[h1]at hd;simp only[xe,bj,go_sem,hd]
 |true=>
  rw[h1]at hd;by_cases h3:8<=p
  ·have e3:=tt h3;simp only[xe,bj,go_sem,hd,e3,decide_true,aEW]
  ·have e3:=ff h3;simp only[xe,bj,go_sem,hd,e3,decide_false,aE0]
def Lu:R 194 [] []=some (ae bt,[]):=by
 refine au X8 ?_;simp only[Ef,ae,ah,bt,aC,go_sem]
def Nx(p:Int):List Ri->List Int->Ri->Ri
 |d::ds,e::es,x=>Nx p ds es (if 0<e then bX x (HV d e.toNat p) p else x)
 |_,_,x=>x
theorem ajD{dn up}{pr}(h1:∀a b,Ok0 (dn a b).1)(h2:∀a b,Ok0 (up a b).1):OkI (Mg (uD dn up pr)):=by
 have hN:∀k i o,Ok0 o.1->Ok0 o.2->OkI (Mg (As dn up pr k i o)):=by
  intro k;induction k with
  |zero=>exact fun i o g1 g2=>⟨g1,g2⟩
  |succ k ih=>
   intro i o g1 g2;unfold As;split
   ·grind
   ·exact⟨aO.2,aO.2⟩
 unfold uD;split
 ·grind
 ·exact⟨aO.2,aO.2⟩
theorem iU{x y}{p}:OkI (bX x y p):=by
 unfold bX;split
 ·grind[ajD,EA]
 ·exact⟨aO.2,aO.2⟩
theorem Kb{a b}{p}{up}:Ok0 (dh a b p up).1:=by
 unfold dh;split
 ·exact xw.2
 ·exact aO.2
def kW{x y}{p}:OkI (de x y p):=by
 unfold de;split
 ·grind[zF,Kb]
 ·exact⟨aO.2,aO.2⟩
def apT{x}(ok:OkI x){e}{p}:OkI (HV x e p):=by
 grind[HV,EB,iU]
def asO{p}:∀ds es x,OkI x->OkI (Nx p ds es x):=by
 intro ds;induction ds with
 |nil=>exact fun es x h=>by cases es<;>exact h
 |cons d ds ih=>
  intro es x h;cases es with
  |nil=>exact h
  |cons e es=>
   grind[Nx,iU]
def avS{dom}(od:∀x∈dom,OkI x){es}(hl:O dom=O es)(h2:O dom<=100000)(he:∀e∈es,0<=e/\e<=32){p}{c3 c6 c7 c9}{rw'}{n j}
  (q3:aE [3,6,7,9,10] (.bx c3)=true) (q6:aE [3,6,7,9,10] (.bx c6)=true) (q7:aE [3,6,7,9,10] (.bx c7)=true) (q9:aE [3,6,7,9,10] (.bx c9)=true) (qr:jn [3,6,7,9,10] rw'=rw'):
  ∀ (k i:Nat),i+k=O es->∀x,OkI x->∀s h,s 1=.sl 7 (cT dom)->s 2=I p->s 6=ac 6->s 7=ac 7->s 10=ac 10->s 22=rw'->s 23=I n->s 24=I j->s 32=.sl 1 (aY es)->s 33=I (O es)->s 34=I i->
  h 3=.bx c3->h 6=.bx c6->h 7=.bx c7->h 9=.bx c9->h 10=.bx (ah x)->
  ∃hh,ao 2 [1,2,6,7,10,22,23,24] (aB (am R (aA false) i9) [1,2,6,7,10,22,23,24,32,33,34] [3,6,7,9,10] s h)=some (.normal,⟨upd (upd (upd (upd (upd (upd (upd (upd ce 24 (I j)) 23 (I n)) 22 rw') 10 (ac 10)) 7 (ac 7)) 6 (ac 6)) 2 (I p)) 1 (.sl 7 (cT dom)),hh⟩)/\
   hh 3=.bx c3/\hh 6=.bx c6/\hh 7=.bx c7/\hh 10=.bx (ah (Nx p (dom.drop i) (es.drop i) x))/\∀a,a≠3->a≠6->a≠7->a≠9->a≠10->hh a=.dead:=by
 intro k;induction k with
 |zero=>
  intro i hi x ox s h h1 h2' h6 h7 h10 h22 h23 h24 h32 h33 h34 k3 k6 k7 k9 k10;have e1:=aP ((i:Int)<O es);rw[aFq ω,aFq ω,ai];refine⟨?hh0,?_,?_,?_,?_,?_,?_⟩;rotate_left
  ·simp only[i9,go_sem,h1,h2',h6,h7,h10,h22,h23,h24,h32,h33,h34,k3,k6,k7,k9,k10,q3,q6,q7,q9,qr,e1];rfl
  ·rfl
  ·rfl
  ·rfl
  ·rfl
  simp_all[cz,if_false]
 |succ k ih=>
  intro i hi x ox s h h1 h2' h6 h7 h10 h22 h23 h24 h32 h33 h34 k3 k6 k7 k9 k10;have hlt:i<O es:=ω
  have hlt2:i<O dom:=ω
  have e1:=aa ((i:Int)<O es);have e2:=vE rfl (aE1 hlt);have e3:=OE rfl (aE1 hlt2);have e5:aG (i+1)=(i+1:Nat):=wi;have oki:=od dom[i] (aFg hlt2);have hb:=he es[i] (aFg hlt);rw[aFe hlt,aFe hlt2,ai];have ih':=ih (i+1) ω;unfold Nx;generalize es[i]=e at e2 hb⊢;generalize dom[i]=d at e3 oki⊢;obtain⟨m,rfl⟩:=aFy hb.1;rw[aEY];have hpw:=apR oki (e:=m) ω (p:=p);have opw:=apT oki (e:=m) (p:=p);generalize HV d m p=y at hpw opw⊢;have hmu:=sy ox opw (p:=p);have omu:=iU (x:=x) (y:=y) (p:=p);generalize bX x y p=z at hmu omu⊢;simp only[ae,ah]at e3 hpw hmu k10;by_cases hm:0< (m:Int)
  ·have f1:=tt hm;simp only[i9,go_sem,h1,h2',h6,h7,h10,h22,h23,h24,h32,h33,h34,k3,k6,k7,k9,k10,q3,q6,q7,q9,qr,e1,e2,e3,f1,hpw,hmu,e5];exact ih' z omu _ _ Z Z Z Z Z Z Z Z Z Z Z Z Z Z Z Z
  ·have f1:=ff hm;simp only[i9,go_sem,h1,h2',h6,h7,h10,h22,h23,h24,h32,h33,h34,k3,k6,k7,k9,k10,q3,q6,q7,q9,qr,e1,e2,e3,f1,hpw,hmu,e5];exact ih' x ox _ _ Z Z Z Z Z Z Z Z Z Z Z Z Z Z Z Z
def Tu(p:Int)(dom:List Ri):List Rt->Ri->Ri
 |[],s=>s
 |t::l,s=>Tu p dom l (de s (Nx p dom t.exps ⟨t.c,t.c,false⟩) p)
def OH{v}:∀l pr,FI v pr l=true->∀t∈l,Ts v t=true:=by
 intro l;induction l with
 |nil=>grind
 |cons a l ih=>
  intro pr h t ht;unfold FI at h;grind
def ajE{a}{dom}(oa:OkP a)(od:∀x∈dom,OkI x)(hv:∀t∈a.terms,Ts a.vars t=true)(hl:O dom=a.vars)(h8:a.vars<=8)(h5:O a.terms<=500){p}:
  ∀k i,i+k=O a.terms->∀x,OkI x->∀s h,s 1=.sl 7 (cT dom)->s 2=I p->s 6=ac 6->s 7=ac 7->s 22=.sl 4 (aU a.terms)->s 23=I (O a.terms)->s 24=I i->
  h 3=.bx [I a.vars,.sl 4 (aU a.terms)]->h 6=.bx [B false,.emp,I 0,B false,.emp,I 0,B false]->h 7=.bx (ah x)->
  ∃hh,ao 0 [6,7] (aB (am R (aA false) nv) [1,2,6,7,22,23,24] [3,6,7] s h)=some (.normal,⟨upd (upd ce 7 (ac 7)) 6 (ac 6),hh⟩)/\hh 6=.bx [B false,.emp,I 0,B false,.emp,I 0,B false]/\hh 7=.bx (ah (Tu p dom (a.terms.drop i) x)):=by
 intro k;induction k with
 |zero=>
  intro i hi x ox s h h1 h2 h6 h7 h22 h23 h24 k3 k6 k7;have e1:=aP ((i:Int)<O a.terms);rw[aFq ω,ai];refine⟨?hh0,?_,?_,?_⟩;rotate_left
  ·simp only[nv,go_sem,h1,h2,h6,h7,h22,h23,h24,k3,k6,k7,e1];rfl
  ·rfl
  ·rfl
 |succ k ih=>
  intro i hi x ox s h h1 h2 h6 h7 h22 h23 h24 k3 k6 k7;have hlt:i<O a.terms:=ω
  have e1:=aa ((i:Int)<O a.terms);have e2:=kV rfl (aE1 hlt);have e5:aG (i+1)=(i+1:Nat):=wi;have okt:=oa.t a.terms[i] (aFg hlt);obtain⟨c1,c2,c3,c4,c5⟩:=HX (hv a.terms[i] (aFg hlt));rw[aFe hlt,ai];have ih':=ih (i+1) ω;unfold Tu;generalize a.terms[i]=t at e2 okt c1 c2 c3 c4 c5⊢;have hpt:=fY okt.c c2;have hin:=avS (dom:=dom) od (es:=t.exps) ω ω (EC c4) (p:=p) (c3:=[I a.vars,.sl 4 (aU a.terms)]) (c6:=[B false,.emp,I 0,B false,.emp,I 0,B false]) (c7:=ah x) (c9:=dE t) (rw':=.sl 4 (aU a.terms)) (n:=O a.terms) (j:=i) Z Z Z Z Z (O t.exps) 0 (aES _) ⟨t.c,t.c,false⟩ ⟨okt.c,okt.c⟩;simp only[aFX,aFz]at hin;have oy:=asO (p:=p) dom t.exps ⟨t.c,t.c,false⟩ ⟨okt.c,okt.c⟩;generalize Nx p dom t.exps ⟨t.c,t.c,false⟩=y at hin oy⊢;have hadd:=xN ox oy (p:=p);have oz:=kW (x:=x) (y:=y) (p:=p);generalize de x y p=z at hadd oz⊢;generalize hL0:aB (am R (aA false) i9) [1,2,6,7,10,22,23,24,32,33,34] [3,6,7,9,10]=L0 at hin;have hin2:∀S H X,ao 2 [1,2,6,7,10,22,23,24] (L0 S H)=X->S 1=.sl 7 (cT dom)->S 2=I p->S 6=ac 6->S 7=ac 7->S 10=ac 10->S 22=.sl 4 (aU a.terms)->S 23=I (O a.terms)->S 24=I i->S 32=.sl 1 (aY t.exps)->S 33=I (O t.exps)->S 34=I 0->
   H 3=.bx [I a.vars,.sl 4 (aU a.terms)]->H 6=.bx [B false,.emp,I 0,B false,.emp,I 0,B false]->H 7=.bx (ah x)->H 9=.bx (dE t)->H 10=.bx (ah ⟨t.c,t.c,false⟩)->
   ∃hh,X=some (.normal,⟨upd (upd (upd (upd (upd (upd (upd (upd ce 24 (I i)) 23 (I (O a.terms))) 22 (.sl 4 (aU a.terms))) 10 (ac 10)) 7 (ac 7)) 6 (ac 6)) 2 (I p)) 1 (.sl 7 (cT dom)),hh⟩)/\
    hh 3=.bx [I a.vars,.sl 4 (aU a.terms)]/\hh 6=.bx [B false,.emp,I 0,B false,.emp,I 0,B false]/\hh 7=.bx (ah x)/\hh 10=.bx (ah y)/\∀a,a≠3->a≠6->a≠7->a≠9->a≠10->hh a=.dead:=fun S H X hX=>by
   rw[←hX];exact hin S H
  have hX:∀s h,am R (aA false) (.loop [1,2,6,7,10,22,23,24,32,33,34] [3,6,7,9,10] i9) s h=L0 s h:=fun s h=>by rw[←hL0];rfl
  simp only[dE]at e2 hin2;simp only[ae,ah,af,ak]at hpt hadd k7 hin2;simp only[nv,hX,go_sem,h1,h2,h6,h7,h22,h23,h24,k3,k6,k7,e1,e2,hpt];generalize hB:ao 2 [1,2,6,7,10,22,23,24] (L0 _ _)=X;obtain⟨hh,g0,g3,g6,g7,g10,gd⟩:=hin2 _ _ _ hB Z Z Z Z Z Z Z Z Z Z Z Z Z Z Z Z;rw[g0];simp only[go_sem,ne_eq,not_false_eq_true,g7,g10,gd,hadd,e5];refine ih' z oz _ _ ?_ ?_ ?_ ?_ ?_ ?_ ?_ ?_ ?_ ?_
  all_goals first|rfl|exact g3|exact g6
def tD(a:Rp)(dom:List Ri)(p:Int):Ri:=if(rT a dom&&bv p)=true then Tu p dom a.terms ⟨aC,aC,false⟩else bt
def amU{a}{dom}(oa:OkP a)(od:∀x∈dom,OkI x)(h2:O dom<=100000){p}:R 196 [bj a,.sl 7 (cT dom),I p] []=some (ae (tD a dom p),[]):=by
 refine au X9 ?_;have hf:=OG oa od h2 (p:=p);have hw:=Lu;unfold tD;simp only[bj]at hf;cases hb:(rT a dom&&bv p)with
 |false=>
  rw[hb]at hf;simp only[Ae,F4,bj,ae,ah,go_sem,hf,hw]
 |true=>
  rw[hb]at hf;simp only[rT,vp,aEV,decide_eq_true_eq]at hb;obtain⟨⟨⟨v1,v2,v3,v4⟩,v5,v6⟩,v7⟩:=hb;have ho:=ajE oa od (OH _ _ v4) v5 v2 v3 (p:=p) (O a.terms) 0 (aES _) ⟨aC,aC,false⟩ ⟨aO.2,aO.2⟩;simp only[aFX,aFz]at ho;generalize Tu p dom a.terms ⟨aC,aC,false⟩=z at ho⊢;have hpt:=fY aO.2 aO.1;generalize hL0:aB (am R (aA false) nv) [1,2,6,7,22,23,24] [3,6,7]=L0 at ho;have hX:∀s h,am R (aA false) (.loop [1,2,6,7,22,23,24] [3,6,7] nv) s h=L0 s h:=fun s h=>by rw[←hL0];rfl
  have ho2:∀S H X,ao 0 [6,7] (L0 S H)=X->S 1=.sl 7 (cT dom)->S 2=I p->S 6=ac 6->S 7=ac 7->S 22=.sl 4 (aU a.terms)->S 23=I (O a.terms)->S 24=I 0->
   H 3=.bx [I a.vars,.sl 4 (aU a.terms)]->H 6=.bx [B false,.emp,I 0,B false,.emp,I 0,B false]->H 7=.bx (ah ⟨aC,aC,false⟩)->
   ∃hh,X=some (.normal,⟨upd (upd ce 7 (ac 7)) 6 (ac 6),hh⟩)/\hh 6=.bx [B false,.emp,I 0,B false,.emp,I 0,B false]/\hh 7=.bx (ah z):=fun S H X hX=>by
   rw[←hX];exact ho S H
  simp only[ae,ah,af,ak,aC]at hpt ho2;simp only[Ae,F4,hX,bj,ae,ah,go_sem,hf,hpt];generalize hB:ao 0 [6,7] (L0 _ _)=X;obtain⟨hh,g0,g6,g7⟩:=ho2 _ _ _ hB Z Z Z Z Z Z Z Z Z Z;rw[g0];simp only[go_sem,g6,g7]
theorem ajF{i:Int}(hi:i=n)(hn:n<18446744073709551616):fK .and (.v (.int .u64 i)) (.v (.int .u64 4294967295))=some (.v (.int .u64 (n%4294967296:Nat))):=by
 rw[adC];have e:(BitVec.ofInt IntKind.u64.bits n&&&BitVec.ofInt IntKind.u64.bits 4294967295).toNat=n%4294967296:=by
  show(BitVec.ofInt 64 n&&&BitVec.ofInt 64 4294967295).toNat=n%4294967296;rw[BitVec.toNat_and];have e2:(BitVec.ofInt 64 n).toNat=n:=by
   grind
  rw[e2,show(BitVec.ofInt 64 4294967295).toNat=2^32-1 from by decide,Nat.and_two_pow_sub_one_eq_mod]
 grind[iH]
def aH3{i:Int}(hi:i=n)(hn:n<4294967296):fK .and (.v (.int .u32 i)) (.v (.int .u32 1))=some (.v (.int .u32 (n%2:Nat))):=by
 rw[adC];have e:(BitVec.ofInt IntKind.u32.bits n&&&BitVec.ofInt IntKind.u32.bits 1).toNat=n%2:=by
  show(BitVec.ofInt 32 n&&&BitVec.ofInt 32 1).toNat=n%2;grind
 grind[WF]
theorem aJb(m)(h2:O m<4611686018427387904):∀ (n:Nat),n<=O m->∀s h,s 0=lm m->s 3=I n->
  ao 0 [0,3] (aB (am R (aA false) aGU) [0,3] [] s h)=some (.normal,⟨upd (upd ce 3 (I (tu m n))) 0 (lm m),fun _=>.dead⟩):=ajf m h2
def aGy{m}(hb:Lb m)(h:O m<=10000000):R 161 [lm m] []=some (lm (ax (ab m)),[]):=by
 refine au aI6 ?_;have h1:gA 1 (lm m) none (some (I (tu m (O m)))) none=some (lm (ax (ab m))):=by
  rw[aaB (a:=0) (b:=tu m (O m)) rfl (Et rfl (M8 _ _)) (M8 _ _),aFX,Nat.sub_zero,ZZ hb]
 have hl:=eA m hb;have e1:=aa (O (ax (ab m))*4<=140737488355328);simp only[aGL,aHr,go_sem,aJb m ω (O m) (aET _),h1,amE,e1,aE5,aFs,true_or,aES,aET,List.replicate_zero]
def aHN:∀x b,x<4294967296->b+ag x<=100000000->∀s h,s 3=I b->s 4=U x->
  ao 0 [3] (aB (am R (aA false) aGb) [3,4] [] s h)=some (.normal,⟨upd ce 3 (I (b+ag x:Nat)),fun _=>.dead⟩):=by
 intro x;induction x using Nat.strongRecOn with
 |ind x ih=>
  intro b hx hb s h h3 h4;rw[ai];by_cases h0:x=0
  ·have e1:=aP (0< (x:Int));rw[h0,Cr,aFA];simp only[aGb,go_sem,h3,h4,e1]
  ·have e1:=aa (0< (x:Int));have e2:=aha (n:=x) (k:=1) (kk:=.u64) (j:=1) Z Z ω;have e3:aG (b+1)=(b+1:Nat):=wi;have e4:ag x=1+ag (x/2^1):=by
    have h5:=pp x 1;grind[fE]
   have ih':=ih (x/2^1) ω (b+1) ω ω;rw[show b+ag x=b+1+ag (x/2^1)by omega];simp only[aGb,go_sem,h3,h4,e1,e2,e3];exact ih' _ _ Z Z
def aH4{m}(hb:Lb m)(h:O m<=1000000)(hc:K2 m):R 108 [lm m] []=some (I (ag (ab m)),[]):=by
 refine au aHx ?_;by_cases h0:O m=0
 ·have:=List.length_eq_zero_iff.1 h0;subst this;simp only[aEb,aGj,go_sem,aFs,aFz,ab,Cr]
 ·have e1:=aP ((O m:Int)=0);have e2:aG (O m-1)=(O m-1:Nat):=wi;have e3:aG (32*(O m-1:Nat))=(32*(O m-1):Nat):=wi;have e4:dF (aS m) (O m-1:Nat)=some (.ipt [U (m.getD (O m-1) 0)]):=dV rfl ω;have hx:=dD hb (O m-1);have e5:=aHN (m.getD (O m-1) 0) (32*(O m-1)) hx (by have:=(bH (k:=32)).2 hx;omega);have e6:32*(O m-1)+ag (m.getD (O m-1) 0)=ag (ab m):=by
   grind[amD,ai6,adF]
  rw[e6]at e5;simp only[aEb,aGj,go_sem,e1,e2,e3,e4];rw[e5 _ _ Z Z];simp only[go_sem]
def aH5{m}(hb:Lb m)(n):m.getD (n/32) 0/2^ (n%32) %2=ab m/2^n%2:=by
 have h1:ab m/2^n=ab (m.drop (n/32))/2^ (n%32):=by
  rw[Lj hb,Nat.div_div_eq_div_mul,Nn]
 rw[h1,jk];have e:4294967296=2^ (n%32)*(2*2^ (31-n%32)):=by
  rw[←Nat.pow_succ',←aE2,show n%32+(31-n%32+1)=32 by omega]
 simp_all[aFj,Nat.add_mul_div_left,aE7,Nat.add_mul_mod_self_left]
theorem aJC{n}(h:n≠0){k}(hk:k<=tz n):n/2^k%2=if k=tz n then 1 else 0:=by
 obtain⟨h1,h2⟩:=Cj h;by_cases hh:k=tz n
 ·grind
 ·obtain⟨j,hj⟩:∃j,tz n=k+(j+1):=⟨tz n-k-1,by omega⟩;have h3:n=2^k*(2*(2^j*(n/2^tz n))):=by
   grind
  grind[Nat.mul_div_cancel_left,aE7,Nat.mul_mod_right]
def aJc{m}(hb:Lb m)(h:O m<=1000000)(hv:ab m≠0):∀k i,i+k=tz (ab m)->∀s h,s 0=lm m->s 3=I i->
  ao 0 [3] (aB (am R (aA false) aF9) [0,3] [] s h)=some (.normal,⟨upd ce 3 (I (tz (ab m))),fun _=>.dead⟩):=by
 have htz:tz (ab m)<32*O m:=by
  simp_all[agT,ft,Nat.pow_mul]
 intro k;induction k with
 |zero=>
  intro i hi s h h0 h3;have hi':i=tz (ab m):=ω
  have e1:=Vc (n:=i) (m:=32) (j:=32) Z Z ω ω;have e2:=adR (n:=i) (m:=32) (j:=32) Z Z ω;have e3:dF (aS m) (i/32:Nat)=some (.ipt [U (m.getD (i/32) 0)]):=dV rfl ω;have hx:=dD hb (i/32);have e4:IntKind.u64.wrap (i%32:Nat)=(i%32:Nat):=iH rfl ω;have e5:=aha (n:=m.getD (i/32) 0) (k:=i%32) (kk:=.u64) (j:=(i%32:Nat)) Z Z ω;have e6:=aH3 (n:=m.getD (i/32) 0/2^ (i%32)) rfl (aFl (aF1 _ _) hx);have e7:=aH5 hb i;rw[aJC hv ω,ap hi']at e7;rw[e7]at e6;rw[ai];rw[←hi'];simp only[aF9,go_sem,aEP,h0,h3,e1,e2,e3,e4,e5,e6,Int.natCast_one]
 |succ k ih=>
  intro i hi s h h0 h3;have e1:=Vc (n:=i) (m:=32) (j:=32) Z Z ω ω;have e2:=adR (n:=i) (m:=32) (j:=32) Z Z ω;have e3:dF (aS m) (i/32:Nat)=some (.ipt [U (m.getD (i/32) 0)]):=dV rfl ω;have hx:=dD hb (i/32);have e4:IntKind.u64.wrap (i%32:Nat)=(i%32:Nat):=iH rfl ω;have e5:=aha (n:=m.getD (i/32) 0) (k:=i%32) (kk:=.u64) (j:=(i%32:Nat)) Z Z ω;have e6:=aH3 (n:=m.getD (i/32) 0/2^ (i%32)) rfl (aFl (aF1 _ _) hx);have e7:=aH5 hb i;rw[aJC hv ω,av ω]at e7;rw[e7]at e6;have e8:aG (i+1)=(i+1:Nat):=wi;have ih':=ih (i+1) ω;rw[ai];simp only[aF9,go_sem,h0,h3,e1,e2,e3,e4,e5,e6,e8,aFz];exact ih' _ _ Z Z
def aJD{m}(hb:Lb m)(h:O m<=1000000)(hv:ab m≠0):R 162 [lm m] []=some (I (tz (ab m)),[]):=by
 refine au aIx ?_;have h3:=aJc hb h hv (tz (ab m)) 0 (aES _);simp only[aGv,aHf,go_sem];rw[h3 _ _ Z Z];simp only[go_sem]
def aJE{a}(ha:Lb a){n q}(h1:O a<=100000)(hq:q<=100000):∀k i,i+k=O a->∀s h,s 0=lm a->s 1=I (n:Nat)->s 5=.rsl 11 none 1 0 (q+i)->s 6=W (vA a (n%32) i)->s 7=I i->
  h 11=.ar 1 (aS (aER q 0++Cp a (n%32) i))->h 34=.dead->
  ao 0 [5,6] (aB (am R (aA false) aGd) [0,1,5,6,7] [11,34] s h)=
   some (.normal,⟨upd (upd ce 6 (W (vA a (n%32) (O a)))) 5 (.rsl 11 none 1 0 (q+O a)),upd (upd (fun _=>.dead) 34 .dead) 11 (.ar 1 (aS (aER q 0++Cp a (n%32) (O a))))⟩):=by
 intro k;induction k with
 |zero=>
  intro i hi s h h0 g1 h5 h6 h7 hh hh2;have:i=O a:=ω
  subst this;rw[ai];simp only[aGd,go_sem,h0,g1,h5,h6,h7,hh,hh2,aFC]
 |succ k ih=>
  intro i hi s h h0 g1 h5 h6 h7 hh hh2;have ih':=ih (i+1) ω;have hx:=dD ha i;have hc:=Tk ha (r:=n%32) i;have hp:2^ (n%32)<=2^31:=aFu ω ω;have hxp:a.getD i 0*2^ (n%32)<=4294967295*2^31:=Nat.mul_le_mul ω hp;have e1:=aa (i< (O a:Int));have e2:dF (aS a) i=some (.ipt [U (a.getD i 0)]):=dV rfl ω;have e3:aG (i+1)=(i+1:Nat):=wi;have e4:IntKind.u64.wrap (a.getD i 0)=(a.getD i 0):=iH rfl ω;have e5:=adR (n:=n) (m:=32) (j:=32) Z Z ω;have e5':IntKind.u64.wrap (n%32:Nat)=(n%32:Nat):=iH rfl ω;have e6:=Oy (n:=a.getD i 0) (k:=n%32) (kk:=.u64) (j:=(n%32:Nat)) Z Z ω ω;have e7:=aaM (m:=a.getD i 0*2^ (n%32)) (n:=vA a (n%32) i) Z Z ω ω;rw[Nm hc]at e7;have e10:=ajF (n:=a.getD i 0*2^ (n%32)+vA a (n%32) i) rfl ω;have e8:IntKind.u32.wrap ((a.getD i 0*2^ (n%32)+vA a (n%32) i) %4294967296:Nat)=((a.getD i 0*2^ (n%32)+vA a (n%32) i) %4294967296:Nat):=WF rfl ω;have e9:=Fb (n:=a.getD i 0*2^ (n%32)+vA a (n%32) i) (k:=32) (kk:=.u64) (j:=32) Z Z ω;have f1:aS (aER q 0++Cp a (n%32) i)++[[U ((a.getD i 0*2^ (n%32)+vA a (n%32) i) %4294967296:Nat)]]=aS (aER q 0++Cp a (n%32) (i+1)):=by
   simp_all[U,vA,aS,Th,aFO,Cp,List.range_succ]
  have f2:(q+i=O (aER q 0++Cp a (n%32) i))=True:=tt (by simp[GI]);have f3:=aa ((q+i+1)*4<=140737488355328);rw[ai];simp only[aGd,go_sem,h0,g1,h5,h6,h7,hh,hh2,e1,e2,e3,e4,e5,e5',e6,e7,e8,e9,e10,f1,f2,f3,true_or,aES,aET];apply ih'<;>rfl
def aH6{a}(ha:Lb a)(h1:O a<=10000)(hn:n<=100000):R 279 [lm a,I n] []=some (lm (ax (ab a*2^n)),[]):=by
 refine au aI9 ?_;have hc:=Tk ha (r:=n%32) (O a);have hp:2^ (n%32)<=2^31:=aFu ω ω;have e1:=Vc (n:=n) (m:=32) (j:=32) Z Z ω ω;have e4:=zA (i:=(n/32:Nat)) (j:=(n/32:Nat)) Z Z (aET _) ω;have e5:=aa (n/32*4<=140737488355328);have e6:=aJE ha (n:=n) (q:=n/32) ω ω (O a) 0 ω;have e7:aS (aER (n/32) 0)=aS (aER (n/32) 0++Cp a (n%32) 0):=by simp[Cp]
 have e8:IntKind.u32.wrap (vA a (n%32) (O a):Nat)=(vA a (n%32) (O a):Nat):=WF rfl ω;have hall:=apG ha n;have f1:aS (aER (n/32) 0++Cp a (n%32) (O a))++[[U (vA a (n%32) (O a))]]=aS (fS (n/32+O a+1) (ab a*2^n)):=by
  rw[←hall,show [[U (vA a (n%32) (O a))]]=aS [vA a (n%32) (O a)]from rfl,Th]
 have f2:(n/32+O a=O (aER (n/32) 0++Cp a (n%32) (O a)))=True:=tt (by simp[GI]);have f3:=aa ((n/32+O a+1)*4<=140737488355328);have ht:=aGy (qT (n/32+O a+1) (ab a*2^n)) γ;have hv:ab (fS (n/32+O a+1) (ab a*2^n))=ab a*2^n:=by
  rw[po,aFG];have h:=ft ha;have h2:2^n<=4294967296^ (n/32+1):=by
   rw[show 4294967296=2^32 from rfl,←Nat.pow_mul];exact aFu ω ω
  rw[show n/32+O a+1=O a+(n/32+1)from by omega,aE2];exact Nat.mul_lt_mul_of_lt_of_le h h2 (Nat.pow_pos ω)
 rw[hv]at ht;have f4:(aS (fS (n/32+O a+1) (ab a*2^n))).take (n/32+O a+1)=aS (fS (n/32+O a+1) (ab a*2^n)):=by
  rw[aFi];rw[aCk,dv];omega
 simp only[aGN,aHt,go_sem,e1,e4,e5,GW,e7];rw[e6 _ _ Z Z Z Z Z Z Z];simp only[go_sem,e8,f1,f2,f3,f4,true_or,aES,aET,dv,ht]
def Acc(d:Nat)(out:List Nat)(x:AV)(o:Ob):Prop:=(out=[]/\x=.emp/\o=.dead)\/(0<O out/\x=.rsl d none 1 0 (O out)/\o=.ar 1 (aS out))
def aGm{d v}:Acc d ([]++[v]) (.rsl d none 1 0 1) (.ar 1 [[U (v:Nat)]]):=Or.inr ⟨by simp,rfl,rfl⟩
def aGg{d v}{out}:Acc d (out++[v]) (.rsl d none 1 0 (O out+1)) (.ar 1 (aS (out++[v]))):=Or.inr ⟨by simp,by grind,rfl⟩
theorem aF4(out)(v):aS out++[[U (v:Nat)]]=aS (out++[v]):=by simp[aS]
theorem aJF(a)(r i):Ge a r (i+1)=Ge a r i++[Ll a r i]:=by simp[Ge,List.range_succ]
def aJd{a}(ha:Lb a){n}(h1:O a<=100000):∀k i,i+k=O a->∀s h,s 0=lm a->s 1=I (n:Nat)->s 6=I i->Acc 51 (Ge a (n%32) i) (s 5) (h 51)->
  ∃x hh,ao 0 [5] (aB (am R (aA false) ak3) [0,1,5,6] [51] s h)=some (.normal,⟨upd ce 5 x,hh⟩)/\Acc 51 (Ge a (n%32) (O a)) x (hh 51)/\∀a,a≠51->hh a=.dead:=by
 intro k;induction k with
 |zero=>
  intro i hi s h h0 g1 h6 hacc;have:i=O a:=ω
  subst this;rw[ai];rcases hacc with⟨g2,h5,hh⟩| ⟨g2,h5,hh⟩
  ·refine⟨.emp,?hh0,?_,Or.inl ⟨g2,rfl,?_⟩,?_⟩;rotate_left
   ·simp only[ak3,go_sem,h0,g1,h5,h6,hh,aFC];rfl
   all_goals simp_all[cz,if_false]
  ·refine⟨.rsl 51 none 1 0 (O (Ge a (n%32) (O a))),?hh1,?_,Or.inr ⟨g2,rfl,?_⟩,?_⟩;rotate_left
   ·simp only[ak3,go_sem,h0,g1,h5,h6,hh,aFC];rfl
   all_goals simp_all[cz,if_false]
 |succ k ih=>
  intro i hi s h h0 g1 h6 hacc;have ih':=ih (i+1) ω;have hx:=dD ha i;have hy:=dD ha (i+1);have hr:n%32<32:=aFx _ ω;have e1:=aa (i< (O a:Int));have e2:dF (aS a) i=some (.ipt [U (a.getD i 0)]):=dV rfl ω;have e3:aG (i+1)=(i+1:Nat):=wi;have e4:IntKind.u64.wrap (a.getD i 0)=(a.getD i 0):=iH rfl ω;have e5:=adR (n:=n) (m:=32) (j:=32) Z Z ω;have e5':IntKind.u64.wrap (n%32:Nat)=(n%32:Nat):=iH rfl ω;have q1:(O (Ge a (n%32) i)+1)*4<=140737488355328:=by grind[Jt]
  have f3:=tt q1;have hlt:∀w:Nat,w<18446744073709551616->w/2^ (n%32)<18446744073709551616:=fun w hw=>aFl (aF1 _ _) hw;rw[ai];rw[aJF]at ih';generalize aB _ _ _=L at ih'⊢;by_cases hl:i+1<O a
  ·have f1:=aa (((i+1:Nat):Int)< (O a:Int));have f2:=dV rfl hl;have f5:IntKind.u64.wrap (a.getD (i+1) 0:Int)=(a.getD (i+1) 0:Int):=iH rfl ω;have f6:=Oy (n:=a.getD (i+1) 0) (k:=32) (kk:=.u64) (j:=32) Z Z ω ω;have f7:=aaM (m:=a.getD i 0) (n:=a.getD (i+1) 0*2^32) Z Z ω ω;rw[Nat.or_comm,Nm hx,show a.getD (i+1) 0*2^32+a.getD i 0=a.getD i 0+4294967296*a.getD (i+1) 0 by omega]at f7;have f8:=Fb (n:=a.getD i 0+4294967296*a.getD (i+1) 0) (k:=n%32) (kk:=.u64) (j:=(n%32:Nat)) Z Z ω;have f9:=ajF (n:=(a.getD i 0+4294967296*a.getD (i+1) 0)/2^ (n%32)) rfl (hlt _ ω);rw[show(a.getD i 0+4294967296*a.getD (i+1) 0)/2^ (n%32) %4294967296=Ll a (n%32) i from rfl]at f9;have f10:IntKind.u32.wrap ((Ll a (n%32) i:Nat):Int)=((Ll a (n%32) i:Nat):Int):=WF rfl (aFx _ ω);rcases hacc with⟨g2,h5,hh⟩| ⟨g2,h5,hh⟩
   ·simp only[ak3,go_sem,h0,g1,h5,h6,hh,e1,e2,e3,e4,e5,e5',f1,f2,f5,f6,f7,f8,f9,f10];rw[g2]at ih';exact ih' _ _ Z Z Z aGm
   ·simp only[ak3,go_sem,h0,g1,h5,h6,hh,e1,e2,e3,e4,e5,e5',f1,f2,f3,f5,f6,f7,f8,f9,f10,true_or,aES,aET,aF4];exact ih' _ _ Z Z Z aGg
  ·have f1:=aP (((i+1:Nat):Int)< (O a:Int));have hz:a.getD (i+1) 0=0:=by
    grind
   have f8:=Fb (n:=a.getD i 0) (k:=n%32) (kk:=.u64) (j:=(n%32:Nat)) Z Z ω;have f9:=ajF (n:=a.getD i 0/2^ (n%32)) rfl (hlt _ ω);rw[show a.getD i 0/2^ (n%32) %4294967296=Ll a (n%32) i by simp_all[Ll,Nat.mul_zero,aFA]]at f9;have f10:IntKind.u32.wrap ((Ll a (n%32) i:Nat):Int)=((Ll a (n%32) i:Nat):Int):=WF rfl (aFx _ ω);rcases hacc with⟨g2,h5,hh⟩| ⟨g2,h5,hh⟩
   ·simp only[ak3,go_sem,h0,g1,h5,h6,hh,e1,e2,e3,e4,e5,e5',f1,f8,f9,f10];rw[g2]at ih';exact ih' _ _ Z Z Z aGm
   ·simp only[ak3,go_sem,h0,g1,h5,h6,hh,e1,e2,e3,e4,e5,e5',f1,f3,f8,f9,f10,true_or,aES,aET,aF4];exact ih' _ _ Z Z Z aGg
theorem aHm(m):(aS m).take (O m)=aS m:=by
 simp_all[aFi,aCk,aET]
def aJG{a}(ha:Lb a)(h1:O a<=10000)(hn:n<=1000000):R 163 [lm a,I n] []=some (lm (ax (ab a/2^n)),[]):=by
 refine au aIy ?_;have e1:=Vc (n:=n) (m:=32) (j:=32) Z Z ω ω;by_cases hq:O a<=n/32
 ·have e2:=aa (O a<=((n/32:Nat):Int));have hz:ab a/2^n=0:=by
   rw[←Nn n,←Nat.div_div_eq_div_mul,←Lj ha,List.drop_of_length_le hq];exact Nat.zero_div _
  rw[hz,cO];simp only[aGk,aGM,go_sem,e1,e2]
 ·have e2:=aP (O a<=((n/32:Nat):Int));have e3:gA 1 (lm a) (some (I (n/32:Nat))) none none=some (lm (a.drop (n/32))):=by
   rw[aaB (a:=n/32) (b:=O a) (Et rfl ω) rfl (aET _),aFi γ]
  have hd:=sk ha (n/32);have hl:O (a.drop (n/32))<=10000:=γ
  have hv:ab a/2^n=ab (a.drop (n/32))/2^ (n%32):=by
   rw[Lj ha,Nat.div_div_eq_div_mul,Nn]
  rw[hv];have hr:=aJd hd (n:=n) ω (O (a.drop (n/32))) 0 (aES _);have hall:=amy hd (r:=n%32) ω;have hL:=Jt (a.drop (n/32)) (n%32) (O (a.drop (n/32)));have hLb:Lb (Ge (a.drop (n/32)) (n%32) (O (a.drop (n/32)))):=by
   grind[qT]
  have hvv:ab (Ge (a.drop (n/32)) (n%32) (O (a.drop (n/32))))=ab (a.drop (n/32))/2^ (n%32):=by
   rw[hall,po,aFG];exact aFl (aF1 _ _) (ft hd)
  generalize a.drop (n/32)=m at e3 hd hl hr hall hL hLb hvv⊢;have ht:=aGy hLb ω;rw[hvv]at ht;have q0:Acc 51 (Ge m (n%32) 0) .emp .dead:=Or.inl ⟨rfl,rfl,rfl⟩;generalize hLL:aB (am R (aA false) ak3) [0,1,5,6] [51]=L at hr;have hX:∀s h,am R (aA false) (.loop [0,1,5,6] [51] ak3) s h=L s h:=fun s h=>by rw[←hLL];rfl
  generalize Ge m (n%32) (O m)=out at hr hall hL hLb hvv ht;have hr2:∀S H X,ao 0 [5] (L S H)=X->S 0=lm m->S 1=I n->S 6=I 0->S 5=.emp->H 51=.dead->∃x hh,X=some (.normal,⟨upd ce 5 x,hh⟩)/\Acc 51 out x (hh 51)/\∀a,a≠51->hh a=.dead:=fun S H X hX a0 a1 a6 a5 b=>by
   rw[←hX];exact hr S H a0 a1 a6 γ
  simp only[aGk,aGM,hX,go_sem,e1,e2,e3];generalize hB:ao 0 [5] (L _ _)=X;obtain⟨x,hh,g0,hacc,gd⟩:=hr2 _ _ _ hB Z Z Z Z Z;rw[g0];rcases hacc with⟨c1,c2,c3⟩| ⟨c1,c2,c3⟩
  ·rw[c1]at ht;simp only[go_sem,c2,ht,ne_eq,not_false_eq_true,gd]
  ·simp only[go_sem,c2,c3,ht,ne_eq,not_false_eq_true,gd,aHm,aES,aET]
def aHG{m:List Nat}{i}(h:O m<=i):m.getD i 0=0:=by
 grind
theorem aJH(a b)(i):gP a b (i+1)=gP a b i++[Vb a b i]:=by simp[gP,List.range_succ]
theorem aJI(a b)(i):xY a b (i+1)=xY a b i++[aaK a b i]:=by simp[xY,List.range_succ]
def aJJ{a b}(ha:Lb a)(hb:Lb b)(h1:O a<=100000)(h2:O b<=100000):∀k i,i+k=max (O a) (O b)->∀s h,s 0=lm a->s 1=lm b->s 6=W (lZ a b i)->s 7=I i->Acc 49 (gP a b i) (s 5) (h 49)->
  ∃x hh,ao 0 [5,6] (aB (am R (aA false) ajm) [0,1,5,6,7] [49] s h)=some (.normal,⟨upd (upd ce 6 (W (lZ a b (max (O a) (O b))))) 5 x,hh⟩)/\Acc 49 (gP a b (max (O a) (O b))) x (hh 49)/\∀a,a≠49->hh a=.dead:=by
 intro k;induction k with
 |zero=>
  intro i hi s h h0 g1 h6 h7 hacc;have e1:=aP ((i:Int)< (O a:Int));have e2:=aP ((i:Int)< (O b:Int));have:i=max (O a) (O b):=ω
  rw[←this];rw[ai];rcases hacc with⟨g2,h5,hh⟩| ⟨g2,h5,hh⟩
  ·refine⟨.emp,?hh0,?_,Or.inl ⟨g2,rfl,?_⟩,?_⟩;rotate_left
   ·simp only[ajm,go_sem,h0,g1,h5,h6,h7,hh,e1,e2];rfl
   all_goals simp_all[cz,if_false]
  ·refine⟨.rsl 49 none 1 0 (O (gP a b i)),?hh1,?_,Or.inr ⟨g2,rfl,?_⟩,?_⟩;rotate_left
   ·simp only[ajm,go_sem,h0,g1,h5,h6,h7,hh,e1,e2];rfl
   all_goals simp_all[cz,if_false]
 |succ k ih=>
  intro i hi s h h0 g1 h6 h7 hacc;have ih':=ih (i+1) ω;have hx:=dD ha i;have hy:=dD hb i;have hc:=Nk ha hb i;have e3:aG ((i:Int)+1)=((i+1:Nat):Int):=wi;have q1:(O (gP a b i)+1)*4<=140737488355328:=by grind[tQ]
  have f3:=tt q1;have e4:IntKind.u64.wrap (a.getD i 0:Int)=(a.getD i 0:Int):=iH rfl ω;have e5:IntKind.u64.wrap (b.getD i 0:Int)=(b.getD i 0:Int):=iH rfl ω;have f8:=Fb (n:=a.getD i 0+b.getD i 0+lZ a b i) (k:=32) (kk:=.u64) (j:=32) Z Z ω;rw[show(a.getD i 0+b.getD i 0+lZ a b i)/2^32=lZ a b (i+1)from rfl]at f8;have f9:=ajF (n:=a.getD i 0+b.getD i 0+lZ a b i) rfl ω;rw[show(a.getD i 0+b.getD i 0+lZ a b i) %4294967296=Vb a b i from rfl]at f9;have f10:IntKind.u32.wrap ((Vb a b i:Nat):Int)=((Vb a b i:Nat):Int):=WF rfl (aFx _ ω);rw[ai];rw[aJH]at ih';generalize aB _ _ _=L at ih'⊢;by_cases hla:i<O a
  ·have e1:=aa ((i:Int)< (O a:Int));have e2:=dV rfl hla;have w1:IntKind.u64.wrap ((lZ a b i:Int)+(a.getD i 0:Int))=((a.getD i 0+lZ a b i:Nat):Int):=iH ω ω;by_cases hlb:i<O b
   ·have e6:=aa ((i:Int)< (O b:Int));have e7:=dV rfl hlb;have w2:IntKind.u64.wrap (((a.getD i 0+lZ a b i:Nat):Int)+(b.getD i 0:Int))=((a.getD i 0+b.getD i 0+lZ a b i:Nat):Int):=iH ω ω;rcases hacc with⟨g2,h5,hh⟩| ⟨g2,h5,hh⟩
    ·simp only[ajm,go_sem,h0,g1,h5,h6,h7,hh,e1,e2,e3,e4,e5,e6,e7,w1,w2,f8,f9,f10];rw[g2]at ih';exact ih' _ _ Z Z Z Z aGm
    ·simp only[ajm,go_sem,h0,g1,h5,h6,h7,hh,e1,e2,e3,e4,e5,e6,e7,w1,w2,f3,f8,f9,f10,true_or,aES,aET,aF4];exact ih' _ _ Z Z Z Z aGg
   ·have e6:=aP ((i:Int)< (O b:Int));have hz:=aHG (m:=b) (i:=i) ω;have w2:((a.getD i 0+lZ a b i:Nat):Int)=((a.getD i 0+b.getD i 0+lZ a b i:Nat):Int):=ω
    rw[w2]at w1;rcases hacc with⟨g2,h5,hh⟩| ⟨g2,h5,hh⟩
    ·simp only[ajm,go_sem,h0,g1,h5,h6,h7,hh,e1,e2,e3,e4,e6,w1,f8,f9,f10];rw[g2]at ih';exact ih' _ _ Z Z Z Z aGm
    ·simp only[ajm,go_sem,h0,g1,h5,h6,h7,hh,e1,e2,e3,e4,e6,w1,f3,f8,f9,f10,true_or,aES,aET,aF4];exact ih' _ _ Z Z Z Z aGg
  ·have e1:=aP ((i:Int)< (O a:Int));have hlb:i<O b:=ω
   have e6:=aa ((i:Int)< (O b:Int));have e7:dF (aS b) (i:Int)=some (.ipt [U (b.getD i 0:Nat)]):=dV rfl hlb;have hz:=aHG (m:=a) (i:=i) ω;have w2:IntKind.u64.wrap ((lZ a b i:Int)+(b.getD i 0:Int))=((a.getD i 0+b.getD i 0+lZ a b i:Nat):Int):=iH ω ω;rcases hacc with⟨g2,h5,hh⟩| ⟨g2,h5,hh⟩
   ·simp only[ajm,go_sem,h0,g1,h5,h6,h7,hh,e1,e3,e5,e6,e7,w2,f8,f9,f10];rw[g2]at ih';exact ih' _ _ Z Z Z Z aGm
   ·simp only[ajm,go_sem,h0,g1,h5,h6,h7,hh,e1,e3,e5,e6,e7,w2,f3,f8,f9,f10,true_or,aES,aET,aF4];exact ih' _ _ Z Z Z Z aGg
def aKe{a b}(_ha:Lb a)(_hb:Lb b){L}(h1:O a<=L)(h2:O b<=L):ab (gP a b L++[lZ a b L])=ab a+ab b:=by
 grind[Q4,aFi,gu,tQ,ab]
def aKf{a b}(ha:Lb a)(hb:Lb b)(h1:O a<=10000)(h2:O b<=10000):R 280 [lm a,lm b] []=some (lm (ax (ab a+ab b)),[]):=by
 refine au aJa ?_;obtain⟨M,hM⟩:∃M,max (O a) (O b)=M:=⟨_,rfl⟩;have hr:=aJJ ha hb ω ω M 0 ω;rw[hM]at hr;have hsv:=aKe ha hb (L:=M) ω ω;have hc:=Nk ha hb M;have hL:=tQ a b M;have hLb:=adP a b M;have q0:Acc 49 (gP a b 0) .emp .dead:=Or.inl ⟨rfl,rfl,rfl⟩;generalize gP a b M=out at hr hsv hL hLb;generalize lZ a b M=c at hr hsv hc;have ht:=aGy (m:=out++[c]) (vL.2 ⟨hLb,mC.2 ⟨by omega,JV⟩⟩) γ;rw[hsv]at ht;have e8:IntKind.u32.wrap c=c:=WF rfl ω;have q1:(O out+1)*4<=140737488355328:=ω
 have f3:=tt q1;have f4:=aHm (out++[c]);rw[show(out++[c]).length=O out+1 by simp]at f4;generalize ax (ab a+ab b)=res at ht⊢;generalize hLL:aB (am R (aA false) ajm) [0,1,5,6,7] [49]=L at hr;have hX:∀s h,am R (aA false) (.loop [0,1,5,6,7] [49] ajm) s h=L s h:=fun s h=>by rw[←hLL];rfl
 have hr2:∀S H X,ao 0 [5,6] (L S H)=X->S 0=lm a->S 1=lm b->S 6=W 0->S 7=I 0->S 5=.emp->H 49=.dead->∃x hh,X=some (.normal,⟨upd (upd ce 6 (W c)) 5 x,hh⟩)/\Acc 49 out x (hh 49)/\∀a,a≠49->hh a=.dead:=fun S H X hX a0 a1 a6 a7 a5 b=>by
  rw[←hX];exact hr S H a0 a1 a6 a7 γ
 simp only[aGO,aHu,hX,go_sem];generalize hB:ao 0 [5,6] (L _ _)=X;obtain⟨x,hh,g0,hacc,gd⟩:=hr2 _ _ _ hB Z Z Z Z Z Z;rw[g0];rcases hacc with⟨c1,c2,c3⟩| ⟨c1,c2,c3⟩
 ·rw[c1]at ht;have ht':R 161 [.sl 1 [[U c]]] []=some (lm res,[]):=ht;simp only[go_sem,c2,e8,ht',ne_eq,not_false_eq_true,gd]
 ·simp only[go_sem,c2,c3,e8,f3,f4,ht,ne_eq,not_false_eq_true,gd,aF4,true_or,aES,aET,List.length_singleton,aCk,List.length_append]
def aJe{a b}(ha:Lb a)(hb:Lb b)(h1:O a<=100000):∀k i,i+k=O a->∀s h,s 0=lm a->s 1=lm b->s 6=W (FC a b i)->s 7=I i->Acc 41 (xY a b i) (s 5) (h 41)->
  ∃x hh,ao 0 [5] (aB (am R (aA false) alu) [0,1,5,6,7] [41] s h)=some (.normal,⟨upd ce 5 x,hh⟩)/\Acc 41 (xY a b (O a)) x (hh 41)/\∀a,a≠41->hh a=.dead:=by
 intro k;induction k with
 |zero=>
  intro i hi s h h0 g1 h6 h7 hacc;have e1:=aP ((i:Int)< (O a:Int));have:i=O a:=ω
  rw[←this];rw[ai];rcases hacc with⟨g2,h5,hh⟩| ⟨g2,h5,hh⟩
  ·refine⟨.emp,?hh0,?_,Or.inl ⟨g2,rfl,?_⟩,?_⟩;rotate_left
   ·simp only[alu,go_sem,h0,g1,h5,h6,h7,hh,e1];rfl
   all_goals simp_all[cz,if_false]
  ·refine⟨.rsl 41 none 1 0 (O (xY a b i)),?hh1,?_,Or.inr ⟨g2,rfl,?_⟩,?_⟩;rotate_left
   ·simp only[alu,go_sem,h0,g1,h5,h6,h7,hh,e1];rfl
   all_goals simp_all[cz,if_false]
 |succ k ih=>
  intro i hi s h h0 g1 h6 h7 hacc;have ih':=ih (i+1) ω;have hx:=dD ha i;have hy:=dD hb i;have hc:=Ti a b i;have hla:i<O a:=ω
  have e1:=aa ((i:Int)< (O a:Int));have e2:=dV rfl hla;have e3:aG ((i:Int)+1)=((i+1:Nat):Int):=wi;have q1:(O (xY a b i)+1)*4<=140737488355328:=by grind[Js]
  have f3:=tt q1;have e4:IntKind.u64.wrap (a.getD i 0:Int)=(a.getD i 0:Int):=iH rfl ω;have e5:IntKind.u64.wrap (b.getD i 0:Int)=(b.getD i 0:Int):=iH rfl ω;have w3:IntKind.u64.wrap ((a.getD i 0:Int)+4294967296)=((a.getD i 0+4294967296:Nat):Int):=iH ω ω;have w4:IntKind.u64.wrap (((a.getD i 0+4294967296:Nat):Int)- ((b.getD i 0+FC a b i:Nat):Int))=((a.getD i 0+4294967296-b.getD i 0-FC a b i:Nat):Int):=iH ω ω;have f8:=Fb (n:=a.getD i 0+4294967296-b.getD i 0-FC a b i) (k:=32) (kk:=.u64) (j:=32) Z Z ω;have w5:IntKind.u64.wrap (1- (((a.getD i 0+4294967296-b.getD i 0-FC a b i)/2^32:Nat):Int))=((FC a b (i+1):Nat):Int):=by
   grind[iH,Ti,FC]
  have f9:=ajF (n:=a.getD i 0+4294967296-b.getD i 0-FC a b i) rfl ω;rw[show(a.getD i 0+4294967296-b.getD i 0-FC a b i) %4294967296=aaK a b i from rfl]at f9;have f10:IntKind.u32.wrap ((aaK a b i:Nat):Int)=((aaK a b i:Nat):Int):=WF rfl (aFx _ ω);rw[ai];rw[aJI]at ih';generalize aB _ _ _=L at ih'⊢;by_cases hlb:i<O b
  ·have e6:=aa ((i:Int)< (O b:Int));have e7:=dV rfl hlb;have w2:IntKind.u64.wrap ((FC a b i:Int)+(b.getD i 0:Int))=((b.getD i 0+FC a b i:Nat):Int):=iH ω ω;rcases hacc with⟨g2,h5,hh⟩| ⟨g2,h5,hh⟩
   ·simp only[alu,go_sem,h0,g1,h5,h6,h7,hh,e1,e2,e3,e4,e5,e6,e7,w2,w3,w4,w5,f8,f9,f10];rw[g2]at ih';exact ih' _ _ Z Z Z Z aGm
   ·simp only[alu,go_sem,h0,g1,h5,h6,h7,hh,e1,e2,e3,e4,e5,e6,e7,w2,w3,w4,w5,f3,f8,f9,f10,true_or,aES,aET,aF4];exact ih' _ _ Z Z Z Z aGg
  ·have e6:=aP ((i:Int)< (O b:Int));have hz:=aHG (m:=b) (i:=i) ω;have w2:((b.getD i 0+FC a b i:Nat):Int)=(FC a b i:Int):=ω
   rw[w2]at w4;rcases hacc with⟨g2,h5,hh⟩| ⟨g2,h5,hh⟩
   ·simp only[alu,go_sem,h0,g1,h5,h6,h7,hh,e1,e2,e3,e4,e6,w3,w4,w5,f8,f9,f10];rw[g2]at ih';exact ih' _ _ Z Z Z Z aGm
   ·simp only[alu,go_sem,h0,g1,h5,h6,h7,hh,e1,e2,e3,e4,e6,w3,w4,w5,f3,f8,f9,f10,true_or,aES,aET,aF4];exact ih' _ _ Z Z Z Z aGg
def aHO{a b}(ha:Lb a)(hb:Lb b)(h1:O a<=10000)(h2:O b<=O a)(hv:ab b<=ab a):R 281 [lm a,lm b] []=some (lm (ax (ab a-ab b)),[]):=by
 refine au aIz ?_;have hr:=aJe ha hb ω (O a) 0 ω;have hall:=amu ha hb h2 hv;have hsv:ab (xY a b (O a))=ab a-ab b:=by
  rw[hall,po,aFG];grind[aFl,Nat.sub_le,ft]
 have hL:=Js a b (O a);have hLb:=adQ a b (O a);have q0:Acc 41 (xY a b 0) .emp .dead:=Or.inl ⟨rfl,rfl,rfl⟩;generalize xY a b (O a)=out at hr hsv hL hLb;have ht:=aGy (m:=out) hLb ω;rw[hsv]at ht;generalize hLL:aB (am R (aA false) alu) [0,1,5,6,7] [41]=L at hr;have hX:∀s h,am R (aA false) (.loop [0,1,5,6,7] [41] alu) s h=L s h:=fun s h=>by rw[←hLL];rfl
 have hr2:∀S H X,ao 0 [5] (L S H)=X->S 0=lm a->S 1=lm b->S 6=W 0->S 7=I 0->S 5=.emp->H 41=.dead->∃x hh,X=some (.normal,⟨upd ce 5 x,hh⟩)/\Acc 41 out x (hh 41)/\∀a,a≠41->hh a=.dead:=fun S H X hX a0 a1 a6 a7 a5 b=>by
  rw[←hX];exact hr S H a0 a1 a6 a7 γ
 simp only[aGw,aHi,hX,go_sem];generalize hB:ao 0 [5] (L _ _)=X;obtain⟨x,hh,g0,hacc,gd⟩:=hr2 _ _ _ hB Z Z Z Z Z Z;rw[g0];rcases hacc with⟨c1,c2,c3⟩| ⟨c1,c2,c3⟩
 ·rw[c1]at ht;simp only[go_sem,c2,ht,ne_eq,not_false_eq_true,gd]
 ·simp only[go_sem,c2,c3,ht,ne_eq,not_false_eq_true,gd,aHm,aES,aET]
end Go.Ab
