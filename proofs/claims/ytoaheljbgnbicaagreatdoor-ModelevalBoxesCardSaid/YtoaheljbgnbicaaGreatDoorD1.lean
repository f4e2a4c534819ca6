/-
  A law of tapes on models holds at every input that the statement speaks of, under the conditions that its card names. Part D1.
-/
import Derived.IntWalk
import Derived.Test.YtoaheljbgnbicaaGreatDoorC1
open Nat renaming add_mul → avP, add_zero → av1, div_add_mod → awi, le_refl → avt, le_trans → avx, lt_of_le_of_lt → awl, lt_of_lt_of_le → awn, min_eq_left → awm, mod_eq_of_lt → awh, mod_lt → av3, mul_assoc → avT, mul_comm → avM, mul_le_mul_left → awq, mul_le_mul_right → avA, pow_add → avG, pow_le_pow_right → av8, pow_succ → awb, reduceMod → av0, reduceSub → avV, two_pow_pos → avJ, zero_add → avs, zero_le → av6
open Int renaming lt_irrefl → awf, natCast_zero → av7, reduceEq → avX, reduceLE → avZ, reduceLT → avO, reduceToNat → avU, toNat_natCast → avy
open Bool renaming and_eq_true → avv, false_and → avC, false_eq_true → awo, false_ne_true → avD, true_and → avz
open List renaming all_cons → avQ, append_assoc → awe, append_nil → avE, cons_append → avS, drop_eq_getElem_cons → avI, drop_eq_nil_of_le → avH, getElem_mem → avN, length_cons → av2, length_nil → awd, length_replicate → awr, length_take → avF, map_congr_left → avR, map_id' → av5, mem_map → awc, replicate → avr, take_of_length_le → avL
open Option renaming bind_some → avw, map_some → av9
set_option linter.all false
namespace Go.Ab
open Go Go.IntWalk
set_option maxRecDepth 4000
set_option maxHeartbeats 2000000
def aG(m:List Nat):List (List AV):=m.map fun(x:Nat)=>[U x]
def lm(m:List Nat):AV:=.sl 1 (aG m)
theorem CW(m):(aG m).length=m.length:=by simp[aG]
@[go_sem] theorem D3(l:List (List AV)):l.map (dU [])=l:=(avR (g:=fun c=>c) fun c _=>TN c).trans (av5 _)
@[go_sem] theorem aqD(hs m):gE hs (lm m)=lm m:=θ _
@[go_sem] theorem aoY(hs m):knownL hs (lm m)=true:=θ _
@[go_sem] theorem amQ(hs m):jI hs (lm m)=true:=θ _
@[go_sem] theorem auO(ks m):tv ks (lm m)=lm m:=θ _
@[go_sem] theorem asW(ks m):qY ks (lm m)=false:=θ _
@[go_sem] theorem asX(ks m):Fb ks (lm m)=false:=θ _
@[go_sem] theorem auP(m):pU false (lm m)=some (I m.length):=by simp[lm,pU,aG]
@[go_sem] theorem asY(m k i):wG 1 (lm m) (.v (.int k i))=bp (aG m) i:=by simp[lm,wG]
@[go_sem] theorem agX(k ss m):nrmV (.o (k+1) []::ss) (lm m)=lm m:=by simp[lm,nrmV,nrmL,D3]
@[go_sem] theorem aqE(k cs ss m):nrmV (.o (k+1) [.o 0 cs]::ss) (lm m)=lm m:=by
 simp_all[aG,dU,avR,av5,nrmL,lm,nrmV]
@[go_sem] theorem asZ(k m):nrmL (.o (k+1) []) (lm m)=lm m:=by simp[lm,nrmL,D3]
@[go_sem] theorem as0(h m):pW h (lm m)=some (lm m):=θ _
@[go_sem] theorem aqF(h m l):l6 h (lm m::l)=(l6 h l).bind fun q=>some (lm m::q):=θ _
@[go_sem] theorem as1(m):bZ (lm m)=[]:=θ _
@[go_sem] theorem as2(m):fC (lm m)=[]:=θ _
@[go_sem] theorem auQ(m):dat (lm m)=true:=θ _
@[go_sem] theorem as3(m):aD (lm m)=true:=θ _
@[go_sem] theorem aqG(m):bB (lm m)=false:=θ _
@[go_sem] theorem aqH(m):iv (lm m)=some [lm m]:=θ _
@[go_sem] theorem as4(h m):fQ h (lm m)=some (lm m,h,[]):=θ _
@[go_sem] theorem aqI(h m):dE h 0 (lm m)=some (lm m,h,[]):=θ _
@[go_sem] theorem aqJ(id p m):Bm id p (lm m)=lm m:=θ _
@[go_sem] theorem aqK(h d m):kY h d (some (lm m,[]))=if bY h (2000+8*d) 1=true then some (lm m,h,[])else none:=aeg h d 1 (aG m)
@[go_sem] theorem auR(m):AV.sl 1 (aG m)=lm m:=θ _
@[go_sem] theorem aqL(p)(a):jq (List.filter p [a])=true:=by
 simp only[List.filter];split<;>rfl
@[go_sem] theorem as5(m):(aG m).length=m.length:=by simp[aG]
@[go_sem] theorem ajM:AV.sl 1 []=lm []:=θ _
@[go_sem] theorem aoZ(cs ss):nrmV (.o 2 cs::ss) .emp=lm []:=by simp[nrmV,nrmL,lm,aG]
@[go_sem] theorem ao0(cs):nrmL (.o 2 cs) .emp=lm []:=by simp[nrmL,lm,aG]
@[go_sem] theorem as6(k ss m):nrmV (.o (k+1) []::ss) (.sl 1 (aG m))=lm m:=agX k ss m
@[go_sem] theorem aqM(k ss m):nrmV (.o (k+1) []::ss) (.osl 1 (aG m))=lm m:=by simp[lm,nrmV,nrmL,D3]
theorem cQ{m}{i:Int}{n:Nat}(hi:i=n)(h:n<m.length):bp (aG m) i=some (.ipt [U (m.getD n 0)]):=by
 grind[bp,aG]
theorem kv{m}{n}(h:n<m.length):(aG m)[n]?=some [U (m.getD n 0)]:=by
 grind[aG]
theorem UD(m)(n):(aG m).take n=aG (m.take n):=by simp[aG,List.map_take]
theorem aek(m)(n):(aG m).drop n=aG (m.drop n):=by simp[aG,List.map_drop]
theorem NK(m l):aG m++aG l=aG (m++l):=by simp[aG]
theorem n7(m)(n x):(aG m).set n [U (x:Nat)]=aG (m.set n x):=by simp[aG,List.map_set]
theorem C6(n):avr n [AV.v (.int .u32 0)]=aG (avr n 0):=by simp[aG]
theorem UE{m}{lo hi}{a b}(hlo:jY 0 b lo=some a)(hhi:jY m.length m.length hi=some b)(_hb:b<=m.length):eS 1 (lm m) lo hi none=some (lm ((m.drop a).take (b-a))):=by
 simp_all[lm,eS,kf,CW,if_true,avw,av9,Ib,awo,if_false,UD,aek]
theorem L4(d n):jY d n none=some d:=θ _
theorem AM{d n}{k}{i:Int}{a:Nat}(hi:i=a)(h:a<=n):jY d n (some (.v (.int k i)))=some a:=by
 grind[jY]
theorem Pj{f}{fd}{args}{r}(hE:cG.E f=none)(hC:cG.C f=some fd)(hk:cG.md.keep f=false)(h1:args.length=fd.np)
  (hz:jV false fd.rs fd.res 0 (ai R (ax false) fd.body (te args) (fun _=>.dead))=some r):R f args []=some r:=by
 simp_all[IZ,av6,ZK]
theorem aB{f:FuncId}{l:List (List Sh)}{fd:FD}{args:List AV}{r:AV×List Ob}(q:QE f l fd)(h1:args.length=fd.np)
  (hz:jV false fd.rs fd.res 0 (ai R (ax false) fd.body (te args) (fun _=>.dead))=some r):R f args []=some r:=Pj q.2.1 q.2.2 (q.1.2.2.2 false) h1 hz
noncomputable def n8 (k:Nat) (g:Bool):Cmd:=.seq (.ops [0,1,7,8,9] [co 9 (.bin .lss (.t 8) (.t 7))]) (.seq (.cond (.t 9) (.skip) (.exit 0)) (.seq (.block 1 [0,1,7,8] (.seq (.ops [0,1,5,7,8] [cm 10 8,cm 5 10]) (.seq (.ops [0,1,5,7,8,16] [cm 11 1,cm 12 0,cm 13 5,co 14 (.iadrS k (.t 12) (.t 13)),⟨(some 15),none,.load k g (.t 14)⟩,⟨(some 16),none,.call (.t 11) [(.t 15)]⟩]) (.cond (.t 16) (.seq (.ops [4] [cm 17 5,cm 4 17]) (.ret)) (.skip))))) (.ops [0,1,7,8] [co 18 (.bin .add (.t 8) (.c (.v (.int .i64 1)))),cm 8 18])))
noncomputable def lu:Cmd:=.seq (.ops [4] [co 4 (.mv (.c (.v (.int .i64 (-1)))))]) (.ret)
def wA{α:Type}(p:α->Bool):List α->Nat->Int
 |[],_=>-1
 |r::rs,n=>if p r=true then n else wA p rs (n+1)
theorem G9{α}(p):∀ (l:List α) n,decide (0<=wA p l n)=l.any p
 |[],n=>rfl
 |r::rs,n=>by
  simp only[wA,List.any_cons];by_cases h:p r=true
  ·simp[h]
  ·simp[h,G9 p rs (n+1)]
theorem ael{k}{g}{f}{rows}{p}{hs}(hhs:hs=[]\/hs=[1000])(hm:(ax false).m f=[])(hl:rows.length<4611686018427387904)
  (hf:∀row∈rows,∃a,kF k g row 0=some a/\dat a=true/\R f (bm ((ax false).sh f) [a]) []=some (B (p row),[])):∀rest (n:Nat),rows.drop n=rest->n<=rows.length->
  ∀s h,s 0=.sl k rows->s 1=.fn f [] []->s 7=I rows.length->s 8=I n->h 1000=.dead->
   ∃hh,cS (ah 0 [] (av (ai R (ax false) (n8 k g)) [0,1,7,8] hs s h)) (ai R (ax false) lu)=some (.ret,⟨upd (fun _=>.any) 4 (I (wA p rest n)),hh⟩):=by
 intro rest;induction rest with
 |nil=>
  intro n hd hn s h h0 h1 h7 h8 h9;have e:n=rows.length:=by
   have:=congrArg List.length hd;grind
  subst e;rw[ag];rcases hhs with rfl|rfl<;>exact⟨_,by simp only[n8,lu,go_sem,h0,h1,h7,h8,h9,awf,wA];rfl⟩
 |cons r rest ih=>
  intro n hd hn s h h0 h1 h7 h8 h9;have hlt:n<rows.length:=by
   grind
  have hr:rows[n]?=some r:=by
   have:=congrArg (·[0]?) hd;grind
  obtain⟨a,ha,hda,hc⟩:=hf r (List.mem_of_getElem? hr);have ih':=ih (n+1) (by rw[←List.drop_drop,hd];rfl) hlt;have e1:(n< (rows.length:Int))=True:=eq_true ω;have e2:bp rows n=some (.ipt r):=by grind[bp]
  have e3:IntKind.i64.wrap (n+1)=(n+1:Nat):=by grind[i64_in]
  rw[ag];generalize av _ _ _=L at ih'⊢;rcases hhs with rfl|rfl
  all_goals
   simp only[n8,go_sem,h0,h1,h7,h8,h9,e1,e2,ha,xY _ hm,hda,hc,wA];cases hp:p r with
   |true=>exact⟨_,by simp only[go_sem];rfl⟩
   |false=>
    simp only[go_sem,e3,avD];exact ih' _ _ rfl rfl rfl rfl rfl
theorem UF{fi}{fd}{k}{g}{hs}(hE:cG.E fi=none)(hC:cG.C fi=some fd)(hk:cG.md.keep fi=false)
  (hfd:fd=⟨2,[[]],[.t 4],.seq (.ops [0,1] [co 4 (.mv (.c (.v (.int .i64 0))))]) (.seq (.seq (.ops [0,1,7,8] [cm 6 0,co 7 (.len false (.t 6)),co 8 (.mv (.c (.v (.int .i64 0))))]) (.block 0 [] (.loop [0,1,7,8] hs (n8 k g)))) lu)⟩)
  {f} {rows} {p} (hm:(ax false).m f=[]) (hl:rows.length<4611686018427387904)
  (hf:∀row∈rows,∃a,kF k g row 0=some a/\dat a=true/\R f (bm ((ax false).sh f) [a]) []=some (B (p row),[])) (hhs:hs=[]\/hs=[1000]:=by simp):R fi [.sl k rows,.fn f [] []] []=some (I (wA p rows 0),[]):=by
 subst hfd;refine Pj hE hC hk rfl ?_;have hL:=ael (k:=k) (g:=g) hhs hm hl hf rows 0 rfl (av6 _);simp only[go_sem,ZJ];have hL2:∀S H X,cS (ah 0 [] (av (ai R (ax false) (n8 k g)) [0,1,7,8] hs S H)) (ai R (ax false) lu)=X->S 0=.sl k rows->S 1=.fn f [] []->S 7=I rows.length->S 8=I 0->H 1000=.dead->
   ∃hh,X=some (.ret,⟨upd (fun _=>.any) 4 (I (wA p rows 0)),hh⟩):=fun S H X hX a b c d e=>by
  rw[←hX];exact hL S H a b c d e
 generalize hX:cS (ah 0 [] (av _ _ hs _ _)) (ai R (ax false) lu)=X;obtain⟨hh,e⟩:=hL2 _ _ _ hX rfl rfl rfl rfl rfl;rw[e];simp only[go_sem]
noncomputable def I5 (fi:FuncId):FD:=⟨2,[[]],[.t 4],.seq (.ops [0,1] [co 4 (.mv (.c (.v (.bool false))))]) (.seq (.ops [4] [cm 5 0,cm 6 1,⟨(some 7),none,.call (.c (.fn fi [] [])) [(.t 5),(.t 6)]⟩,co 8 (.bin .geq (.t 7) (.c (.v (.int .i64 0)))),cm 4 8]) (.ret))⟩
theorem Pk{ci fi}{fd}{k}(hE:cG.E ci=none)(hC:cG.C ci=some fd)(hk:cG.md.keep ci=false)(hfd:fd=I5 fi)(hm:(ax false).m fi=[]){cs}(hsh:(ax false).sh fi=[[.o (k+1) cs],[]])
  {rows} {f} {p} (hr:rows.map (dU cs)=rows) (h:R fi [.sl k rows,.fn f [] []] []=some (I (wA p rows 0),[])):R ci [.sl k rows,.fn f [] []] []=some (B (rows.any p),[]):=by
 subst hfd;refine Pj hE hC hk rfl ?_;simp only[I5,go_sem,xY _ hm,hsh,hr,h,aee,G9]
theorem iG{i:Int}{n:Nat}(h:i=n)(hn:n<18446744073709551616):IntKind.u64.wrap i=n:=by rw[u64_in]<;>omega
theorem QQ{i:Int}{n:Nat}(h:i=n)(hn:n<4294967296):IntKind.u32.wrap i=n:=by rw[u32_in]<;>omega
theorem wi{i:Int}{n:Nat}(h:i=n:=by omega)(hn:n<9223372036854775808:=by omega):IntKind.i64.wrap i=n:=by rw[i64_in]<;>omega
theorem Ha{i:Int}{n:Nat}(h:i=n):IntKind.u32.wrap i=(n%4294967296:Nat):=by grind[IntKind.wrap_u32]
theorem Bz{i:Int}{n k:Nat}{kk}{j:Int}(h:i=n)(hj:j=k)(hk:k<=64):eA .shr (.v (.int .u64 i)) (.v (.int kk j))=some (.v (.int .u64 (n/2^k:Nat))):=by
 simp_all[FO,if_neg,IntKind.bits,Option.some.injEq,AV.v.injEq,Value.int.injEq,true_and,Int.fdiv_eq_ediv_of_nonneg,Int.pow_nonneg]
theorem L5{x y c:Nat}(hx:x<4294967296)(hy:y<4294967296)(hc:c<=1):R F.bits_Add32 [U x,U y,U c] []=some (.tup [U (((x+y+c) %4294967296:Nat)),U (((x+y+c)/4294967296:Nat))],[]):=by
 refine aB Uz rfl ?_;have e1:IntKind.u64.wrap x=x:=iG rfl ω;have e2:IntKind.u64.wrap y=y:=iG rfl ω;have e3:IntKind.u64.wrap c=c:=iG rfl ω;have e4:IntKind.u64.wrap (x+y)=(x+y:Nat):=iG ω ω;have e5:IntKind.u64.wrap ((x+y:Nat)+c)=(x+y+c:Nat):=iG ω ω;have e6:IntKind.u32.wrap (x+y+c:Nat)=((x+y+c) %4294967296:Nat):=Ha rfl;have e7:=Bz (n:=x+y+c) (k:=32) (kk:=.u64) (j:=32) rfl rfl ω;have e8:IntKind.u32.wrap ((x+y+c)/2^32:Nat)=((x+y+c)/4294967296:Nat):=QQ rfl ω;simp only[Cp,IT,go_sem,e1,e2,e3,e4,e5,e6,e7,e8]
theorem agY{k}{n}(h:n≠0):Ib (some (.v (.int k n)))=false:=by
 simp_all[Ib,absurd]
theorem agZ{m}(h:m.length≠0):eS 1 (lm m) none (some (I m.length)) (some (I m.length))=some (lm m):=by
 have hz:Ib (some (I m.length))=false:=agY ω;have h1:jY m.length m.length (some (I m.length))=some m.length:=AM rfl (avt _)
 simp_all[eS,lm,CW,kf,L4,if_true,avw,av9,awo,if_false,List.drop_zero,Nat.sub_zero,UD,List.take_length]
theorem Pm(m):R F.slices_Clip_uint32_uint32_ [lm m] []=some (lm m,[]):=by
 refine aB AK rfl ?_;by_cases h:m.length=0
 ·have:=List.length_eq_zero_iff.1 h;subst this;rfl
 ·simp only[jX,qj,go_sem,agZ h]
theorem abP(m)(h2:m.length<4611686018427387904):∀ (n:Nat),n<=m.length->∀s h,s 0=lm m->s 3=I n->
  ah 0 [0,3] (av (ai R (ax false) lT) [0,3] [] s h)=some (.normal,⟨upd (upd (fun _=>.any) 3 (I (pe m n))) 0 (lm m),fun _=>.dead⟩):=by
 intro n;induction n with
 |zero=>
  intro h1 s h h3 h4;rw[ag];simp only[lT,go_sem,h3,h4,pe,av7,awf]
 |succ n ih=>
  intro h1 s h h3 h4;have hn:=h1;have e3:IntKind.i64.wrap (n+1-1)=n:=wi ω ω;have e1:=cQ rfl hn;have e2:(0< (n:Int)+1)=True:=eq_true ω;have ih':=ih ω;rw[ag];by_cases hz:m.getD n 0=0
  ·simp only[lT,go_sem,h3,h4,pe,Int.natCast_add,Int.natCast_one,e3,e1,e2,hz,av7];exact ih' _ _ rfl rfl
  ·simp only[lT,go_sem,h3,h4,pe,Int.natCast_add,Int.natCast_one,e3,e1,e2,hz,Int.natCast_eq_zero]
theorem dD{m}(hb:Lb m)(h:m.length<4611686018427387904):R F.natural_trim [lm m] []=some (lm (au (ab m)),[]):=by
 refine aB Pc rfl ?_;have h1:eS 1 (lm m) none (some (I (pe m m.length))) none=some (lm (au (ab m))):=by
  rw[UE (a:=0) (b:=pe m m.length) rfl (AM rfl (IX _ _)) (IX _ _),List.drop_zero,Nat.sub_zero,T6 hb]
 simp only[zz,F0,go_sem,abP m h m.length (avt _),h1]
def llm(l:List (List Nat)):AV:=.sl 1 (l.map fun m=>[lm m])
theorem ag0(l:List (List Nat))(cs):(l.map fun m=>[lm m]).map (dU [.o 2 cs])=l.map fun m=>[nrmL (.o 2 cs) (lm m)]:=by
 simp[List.map_map,dU]
theorem abQ(m):R F.natural_long_1 [lm m] []=some (B (decide (256<m.length)),[]):=by
 refine aB DX rfl ?_;have e:decide (256< (m.length:Int))=decide (256<m.length):=γ
 simp only[wr,DM,go_sem,e]
theorem Xk{l}(hl:l.length<4611686018427387904):R F.natural_long [llm l] []=some (B (l.any fun m=>decide (256<m.length)),[]):=by
 refine aB O6 rfl ?_
 let p:List AV->Bool:=fun row=>match row with|[.sl _ rows]=>decide (256<rows.length)|_=>false
 have hp:∀m,p [lm m]=decide (256<m.length):=fun m=>by grind[lm,CW]
 have hn:(l.map fun m=>[lm m]).map (dU [.o 2 []])=l.map fun m=>[lm m]:=by
  rw[ag0];simp only[go_sem]
 have h1:=UF (k:=1) (g:=false) (f:=F.natural_long_1) (rows:=l.map fun m=>[lm m]) (p:=p) dk.2.1 dk.2.2 (dk.1.2.2.2 false) rfl (DX.1.2.1 false) γ (fun row hr=>by
  simp only[awc]at hr;obtain⟨m,hm,rfl⟩:=hr;refine⟨lm m,rfl,rfl,?_⟩;simp only[go_sem,abQ,hp])
 have h2:=Pk (k:=1) dM.2.1 dM.2.2 (dM.1.2.2.2 false) rfl (dk.1.2.1 false) (dk.1.1 false) hn h1;have h3:(l.map fun m=>[lm m]).any p=l.any fun m=>decide (256<m.length):=by
  rw[List.any_map];congr 1;funext m
  simp_all
 rw[h3]at h2;simp only[ze,FU,llm,go_sem,xY _ (dM.1.2.1 false),hn,h2]
theorem tt{p}(h:p:=by omega):p=True:=eq_true h
theorem ff{p}(h:¬p:=by omega):p=False:=eq_false h
theorem rO(a):R F.natural_long [.sl 1 [[lm a]]] []=some (B (decide (256<a.length)),[]):=by
 have:=Xk (l:=[a]) σ;grind[llm]
theorem uJ(a b):R F.natural_long [.sl 1 [[lm a],[lm b]]] []=some (B (decide (256<a.length)||decide (256<b.length)),[]):=by
 have:=Xk (l:=[a,b]) σ;grind[llm]
def kJ(n:Nat):AV:=if 256< (au n).length then .tup [lm [],I 9]else .tup [lm (au n),I 0]
theorem Ga{m}(hb:Lb m)(h:m.length<4611686018427387904):R F.natural_done [lm m] []=some (kJ (ab m),[]):=by
 refine aB O7 rfl ?_;by_cases hl:256< (au (ab m)).length
 ·simp only[tJ,Au,kJ,go_sem,dD hb h,rO,hl]
 ·simp only[tJ,Au,kJ,go_sem,dD hb h,rO,hl,Pm]
theorem H1{a:List Nat}{i}(h:i<a.length):ab (a.take (i+1))=ab (a.take i)+4294967296^i*a.getD i 0:=by
 grind[List.take_add_one,eP,avF,awm,ab]
theorem WL{a:List Nat}{i}(h:a.length<=i):ab (a.take (i+1))=ab (a.take i)+4294967296^i*a.getD i 0:=by
 grind[avL]
theorem gu(a:List Nat)(i):ab (a.take (i+1))=ab (a.take i)+4294967296^i*a.getD i 0:=by
 grind[H1,WL]
def Xl(n i:Nat):Nat:=n/4294967296^i%4294967296
theorem aem{k n i}(h:i<k):(eB k n)[i]?=some (Xl n i):=by
 induction k generalizing n i with
 |zero=>omega
 |succ k ih=>
  cases i with
  |zero=>simp[eB,Xl]
  |succ i=>
   grind[eB,Xl,awb,avM,Nat.div_div_eq_div_mul]
theorem UG{k n}{l}(hl:l.length=k)(h:∀i,i<k->l.getD i 0=Xl n i):l=eB k n:=by
 refine List.ext_getElem? fun i=>?_;rcases Nat.lt_or_ge i k with hi|hi
 ·simp_all[aem,congrArg]
 grind[dx]
def iW(a b:List Nat):Nat->Nat
 |0=>0
 |i+1=>(a.getD i 0+b.getD i 0+iW a b i)/4294967296
def Pn(a b:List Nat)(i:Nat):Nat:=(a.getD i 0+b.getD i 0+iW a b i) %4294967296
theorem I6{a b}(ha:Lb a)(hb:Lb b):∀i,iW a b i<=1
 |0=>by simp[iW]
 |i+1=>by
  have h1:=cY ha i;have h2:=cY hb i;have h3:=I6 ha hb i;simp only[iW];omega
def eX(a b:List Nat)(i:Nat):List Nat:=(List.range i).map (Pn a b)
theorem D4(f)(i):ab ((List.range (i+1)).map f)=ab ((List.range i).map f)+4294967296^i*f i:=by
 rw[List.range_succ,List.map_append,eP];simp[ab]
theorem L6(a b):∀i,ab (eX a b i)+4294967296^i*iW a b i=ab (a.take i)+ab (b.take i)
 |0=>by simp[eX,iW,ab]
 |i+1=>by
  have ih:=L6 a b i;rw[gu a i,gu b i];simp only[eX]at ih⊢;rw[D4,awb];have e:iW a b (i+1)*4294967296+Pn a b i=a.getD i 0+b.getD i 0+iW a b i:=by
   grind[iW,Pn]
  grind
theorem pz(a b)(i):(eX a b i).length=i:=by simp[eX]
theorem Xm(a b)(i):Lb (eX a b i):=fun x hx=>by
 simp only[eX,awc]at hx;obtain⟨j,_,rfl⟩:=hx;simp only[Pn];omega
theorem aen{a b}(ha:Lb a)(hb:Lb b)(hl:b.length<=a.length):eX a b a.length++[iW a b a.length]=eB (a.length+1) (ab a+ab b):=by
 have h:=L6 a b a.length;rw[List.take_length,avL hl]at h;have h1:Lb (eX a b a.length++[iW a b a.length]):=qT.2 ⟨Xm _ _ _,jL.2 ⟨by grind[I6],Np⟩⟩;have h2:ab (eX a b a.length++[iW a b a.length])=ab a+ab b:=by
  grind[eP,pz,ab]
 have:=G2 h1;grind[pz]
theorem UH{α:Type}(l)(n)(x z:α)(h:0<n):(l++avr n z).set l.length x=(l++[x])++avr (n-1) z:=by
 obtain⟨n,rfl⟩:∃m,n=m+1:=⟨n-1,by omega⟩;grind
theorem aeo{a b}(ha:Lb a)(hb:Lb b)(_hl:b.length<=a.length)(h2:a.length<4611686018427387904):∀k i,i+k=a.length->∀s h,s 0=lm a->s 1=lm b->s 5=.rsl 20 none 1 0 (a.length+1)->s 6=U (iW a b i)->
  s 21=lm a->s 22=I a.length->s 23=I i->h 20=.ar 1 (aG (eX a b i++avr (k+1) 0))->
  ah 0 [0,5,6] (av (ai R (ax false) ku) [0,1,5,6,21,22,23] [20] s h)=
   some (.normal,⟨upd (upd (upd (fun _=>.any) 6 (U (iW a b a.length))) 5 (.rsl 20 none 1 0 (a.length+1))) 0 (lm a),upd (fun _=>.dead) 20 (.ar 1 (aG (eX a b a.length++[0])))⟩):=by
 intro k;induction k with
 |zero=>
  intro i hi s h h0 h1 h5 h6 h21 h22 h23 hh;have:i=a.length:=ω
  subst this;rw[ag];simp only[ku,go_sem,h0,h1,h5,h6,h21,h22,h23,hh,awf,List.contains_cons,BEq.rfl,Bool.true_or]
 |succ k ih=>
  intro i hi s h h0 h1 h5 h6 h21 h22 h23 hh;have ih':=ih (i+1) ω;have e1:((i:Int)< (a.length:Int))=True:=tt ω;have e2:bp (aG a) (i:Int)=some (.ipt [U (a.getD i 0:Nat)]):=cQ rfl ω;have e3:IntKind.i64.wrap ((i:Int)+1)=((i+1:Nat):Int):=wi ω ω;have e4:(0<=(i:Int))=True:=tt ω;have e5:((i:Int)< ((a.length+1:Nat):Int))=True:=tt ω;have e6:=L5 (cY ha i) (cY hb i) (I6 ha hb i);have e7:(aG (eX a b i++avr (k+1+1) 0))[i]?=some [U (0:Nat)]:=by
   grind[kv,pz]
  have e8:(aG (eX a b i++avr (k+1+1) 0)).set i [U ((a.getD i 0+b.getD i 0+iW a b i) %4294967296:Nat)]=aG (eX a b (i+1)++avr (k+1) 0):=by
   rw[n7];grind[iW,Pn,eX,List.range_succ]
  rw[ag];by_cases hb':i<b.length
  ·have e9:((i:Int)< (b.length:Int))=True:=tt ω;have e10:bp (aG b) (i:Int)=some (.ipt [U (b.getD i 0:Nat)]):=cQ rfl hb';simp only[ku,go_sem,h0,h1,h5,h6,h21,h22,h23,hh,List.contains_cons,BEq.rfl,Bool.true_or,e1,e2,e3,e4,e5,e6,e7,e8,e9,e10,avy,avs];exact ih' _ _ rfl rfl rfl rfl rfl rfl rfl rfl
  ·have e9:((i:Int)< (b.length:Int))=False:=ff ω;have e10:b.getD i 0=0:=γ
   have e6':=L5 (cY ha i) (y:=0) ω (I6 ha hb i);simp only[av7]at e6';have e8':(aG (eX a b i++avr (k+1+1) 0)).set i [U ((a.getD i 0+0+iW a b i) %4294967296:Nat)]=aG (eX a b (i+1)++avr (k+1) 0):=by
    grind
   simp only[ku,go_sem,h0,h1,h5,h6,h21,h22,h23,hh,List.contains_cons,BEq.rfl,Bool.true_or,e1,e2,e3,e4,e5,e7,e8',e9,avy,avs,e6'];refine ih' _ _ rfl rfl rfl ?_ rfl rfl rfl rfl;simp only[iW,e10];rfl
theorem uK{i j:Int}{l c:Nat}(hi:i=l)(hj:j=c)(h:l<=c)(hc:c<9223372036854775808):nE (I i) (I j)=some (l,c):=by
 simp only[nE];grind
noncomputable def L7:Cmd:=.seq (.ops [0,1,5] [cm 17 0,co 18 (.len false (.t 17)),co 19 (.bin .add (.t 18) (.c (.v (.int .i64 1)))),⟨(some 20),none,.mkSl 1 [(.v (.int .u32 0))] 4 (.t 19) (.t 19)⟩,cm 5 20]) (.seq (.ops [0,1,5,6] [co 6 (.mv (.c (.v (.int .u32 0))))]) (.seq (.seq (.ops [0,1,5,6,21,22,23] [cm 21 0,co 22 (.len false (.t 21)),co 23 (.mv (.c (.v (.int .i64 0))))]) (.block 0 [0,5,6] (.loop [0,1,5,6,21,22,23] [20] ku))) (.seq (.ops [5] [cm 47 5,cm 48 0,co 49 (.len false (.t 48)),cm 50 6,co 51 (.iadrS 1 (.t 47) (.t 49)),⟨none,none,.store 1 (.t 51) (.t 50)⟩]) (.seq (.ops [4] [cm 52 5,cm 4 52]) (.ret)))))
theorem UI{a b}(ha:Lb a)(hb:Lb b)(hl:b.length<=a.length)(h2:a.length<=100000):∀s,s 0=lm a->s 1=lm b->
  ai R (ax false) L7 s (fun _=>.dead)=some (.ret,⟨upd (fun _=>.any) 4 (.rsl 20 none 1 0 (a.length+1)),upd (upd (fun _=>.dead) 20 (.ar 1 (aG (eX a b a.length++[0])))) 20 (.ar 1 (aG (eB (a.length+1) (ab a+ab b))))⟩):=by
 intro s h0 h1;have e1:IntKind.i64.wrap (a.length+1)=(a.length+1:Nat):=wi ω ω;have e2:=uK (i:=(a.length+1:Nat)) (j:=(a.length+1:Nat)) (l:=a.length+1) (c:=a.length+1) rfl rfl (avt _) ω;have e3:((a.length+1)*4<=140737488355328)=True:=tt ω;have e4:=aeo ha hb hl ω a.length 0 ω;have e5:aG (avr (a.length+1) 0)=aG (eX a b 0++avr (a.length+1) 0):=rfl;have e6:(0<=(a.length:Int))=True:=tt ω;have e7:(a.length< ((a.length+1:Nat):Int))=True:=tt ω;have e8:(aG (eX a b a.length++[0]))[a.length]?=some [U 0]:=by
  grind[kv,pz]
 have e9:(aG (eX a b a.length++[0])).set a.length [U (iW a b a.length)]=aG (eB (a.length+1) (ab a+ab b)):=by
  rw[n7]
  simp_all[pz,avr,Nat.sub_self,List.replicate_zero,avE,aen]
 simp only[L7,go_sem,h0,h1,e1,e2,e3,C6,e5];rw[e4 _ _ rfl rfl rfl rfl rfl rfl rfl rfl];simp only[go_sem,e6,e7,e8,e9,avy,avs]
theorem UJ:HX=.seq (.ops [0,1] [co 4 (.mv (.c .emp))]) (.seq (.seq (.ops [0,1,14] [cm 10 0,co 11 (.len false (.t 10)),cm 12 1,co 13 (.len false (.t 12)),co 14 (.bin .lss (.t 11) (.t 13))]) (.cond (.t 14) (.ops [0,1] [cm 15 1,cm 16 0,cm 0 15,cm 1 16]) (.skip))) L7):=rfl
theorem abR{a b}(ha:Lb a)(hb:Lb b)(h1:a.length<=100000)(h2:b.length<=100000):R F.natural_add [lm a,lm b] []=some (lm (eB (max a.length b.length+1) (ab a+ab b)),[]):=by
 refine aB Su rfl ?_;by_cases h:a.length<b.length
 ·have e1:(a.length< (b.length:Int))=True:=tt ω;have e2:=UI hb ha ω h2;simp only[vO,UJ,go_sem,e1];rw[e2 _ rfl rfl];simp only[go_sem,dx,avs,avt];grind
 ·have e1:(a.length< (b.length:Int))=False:=ff ω;have e2:=UI ha hb ω h1;simp only[vO,UJ,go_sem,e1];rw[e2 _ rfl rfl];simp only[go_sem,dx,avs,avt];grind
theorem abS{a b}(ha:Lb a)(hb:Lb b)(h1:a.length<=256)(h2:b.length<=256):R F.natural_Add [lm a,lm b] []=some (kJ (ab a+ab b),[]):=by
 refine aB Sp rfl ?_;have e1:(256<a.length)=False:=ff ω;have e2:(256<b.length)=False:=ff ω;have e3:ab (eB (max a.length b.length+1) (ab a+ab b))=ab a+ab b:=by
  rw[rN,awh];have h1:=eu ha;have h2:=eu hb;have h3:4294967296^a.length<=4294967296^max a.length b.length:=av8 ω ω;have h4:4294967296^b.length<=4294967296^max a.length b.length:=av8 ω ω;omega
 have e4:=Ga (s6 (max a.length b.length+1) (ab a+ab b)) (by grind[dx]);rw[e3]at e4;unfold kJ at e4⊢;by_cases hl:256< (au (ab a+ab b)).length
 ·simp only[hl,if_true]at e4⊢;simp only[vH,Cm,go_sem,e1,e2,uJ,abR ha hb ω ω,e4]
 ·simp only[hl,if_false]at e4⊢;simp only[vH,Cm,go_sem,e1,e2,uJ,abR ha hb ω ω,e4]
def dV(x y:Nat):Int:=if x<y then-1 else if y<x then 1 else 0
theorem CX{x y}(h:(au x).length< (au y).length):x<y:=by
 have h1:=gA x;have hy:y≠0:=by grind[gX]
 have h2:=QO hy;have h3:4294967296^ (au x).length<=4294967296^ ((au y).length-1):=av8 ω ω;omega
noncomputable def Gb:Cmd:=.seq (.ops [4] [co 4 (.mv (.c (.v (.int .i64 0))))]) (.ret)
theorem aep{a b}(ha:Lb a)(hb:Lb b)(hl:a.length=b.length)(h2:a.length<=100000):∀k,k<=a.length->∀s h,s 0=lm a->s 1=lm b->s 5=I (k-1)->
  cS (ah 0 [] (av (ai R (ax false) iP) [0,1,5] [] s h)) (ai R (ax false) Gb)=some (.ret,⟨upd (fun _=>.any) 4 (I (dV (ab (a.take k)) (ab (b.take k)))),fun _=>.dead⟩):=by
 intro k;induction k with
 |zero=>
  intro hk s h h0 h1 h5;rw[ag];have e1:(0<=((0:Nat):Int)-1)=False:=ff;have e2:dV (ab []) (ab [])=0:=rfl;simp only[iP,Gb,go_sem,h0,h1,h5,e1,e2]
 |succ k ih=>
  intro hk s h h0 h1 h5;have ih':=ih ω;have e1:(0<=((k+1:Nat):Int)-1)=True:=tt;have e2:bp (aG a) ((k+1:Nat)-1)=some (.ipt [U (a.getD k 0)]):=cQ ω ω;have e3:bp (aG b) ((k+1:Nat)-1)=some (.ipt [U (b.getD k 0)]):=cQ ω ω;have e4:IntKind.i64.wrap ((k+1:Nat)-1-1)=k-1:=by grind[i64_in]
  have va:=gu a k;have vb:=gu b k;have la:=eu (gI ha k);have lb:=eu (gI hb k);rw[avF,awm ω]at la lb;rw[ag];rcases Nat.lt_trichotomy (a.getD k 0) (b.getD k 0)with hlt|heq|hgt
  ·have e5:((a.getD k 0)< (b.getD k 0:Int))=True:=tt;have e6:dV (ab (a.take (k+1))) (ab (b.take (k+1)))=-1:=by
    have:4294967296^k*(a.getD k 0+1)<=4294967296^k*b.getD k 0:=awq _ hlt;rw[Nat.mul_add]at this;simp only[dV];omega
   simp only[iP,Gb,go_sem,h0,h1,h5,e1,e2,e3,e5,e6]
  ·have e5:((a.getD k 0)< (b.getD k 0:Int))=False:=ff;have e7:((b.getD k 0)< (a.getD k 0:Int))=False:=ff;have e6:dV (ab (a.take (k+1))) (ab (b.take (k+1)))=dV (ab (a.take k)) (ab (b.take k)):=by
    grind[dV]
   simp only[iP,go_sem,h0,h1,h5,e1,e2,e3,e5,e6,e7,e4];exact ih' _ _ rfl rfl rfl
  ·have e5:((a.getD k 0:Int)< (b.getD k 0:Int))=False:=ff;have e7:((b.getD k 0:Int)< (a.getD k 0:Int))=True:=tt;have e6:dV (ab (a.take (k+1))) (ab (b.take (k+1)))=1:=by
    have:4294967296^k*(b.getD k 0+1)<=4294967296^k*a.getD k 0:=awq _ hgt;rw[Nat.mul_add]at this;simp only[dV];omega
   simp only[iP,Gb,go_sem,h0,h1,h5,e1,e2,e3,e5,e6,e7]
theorem L8:HS=.seq (.ops [0,1] [co 4 (.mv (.c (.v (.int .i64 0))))]) (.seq (.ops [0,1] [cm 6 0,⟨(some 7),none,.call (.c (.fn F.natural_trim [] [])) [(.t 6)]⟩,cm 8 1,⟨(some 9),none,.call (.c (.fn F.natural_trim [] [])) [(.t 8)]⟩,cm 0 7,cm 1 9]) (.seq (.seq (.ops [0,1,14] [cm 10 0,co 11 (.len false (.t 10)),cm 12 1,co 13 (.len false (.t 12)),co 14 (.bin .neq (.t 11) (.t 13))]) (.cond (.t 14) (.seq (.seq (.ops [19] [cm 15 0,co 16 (.len false (.t 15)),cm 17 1,co 18 (.len false (.t 17)),co 19 (.bin .lss (.t 16) (.t 18))]) (.cond (.t 19) (.seq (.ops [4] [co 4 (.mv (.c (.v (.int .i64 (-1)))))]) (.ret)) (.skip))) (.seq (.ops [4] [co 4 (.mv (.c (.v (.int .i64 1))))]) (.ret))) (.skip))) (.seq (.seq (.ops [0,1,5] [cm 20 0,co 21 (.len false (.t 20)),co 22 (.bin .sub (.t 21) (.c (.v (.int .i64 1)))),cm 5 22]) (.block 0 [] (.loop [0,1,5] [] iP))) Gb))):=rfl
theorem ey(m)(h:Lb m):(au (ab m)).length<=m.length:=jT (eu h)
theorem zL{a b}(ha:Lb a)(hb:Lb b)(h1:a.length<=100000)(h2:b.length<=100000):R F.natural_Cmp [lm a,lm b] []=some (I (dV (ab a) (ab b)),[]):=by
 refine aB Sg rfl ?_;have la:=ey a ha;rcases Nat.lt_trichotomy (au (ab a)).length (au (ab b)).length with hlt|heq|hgt
 ·have e1:(au (ab a)).length=((au (ab b)).length:Int)↔False:=⟨fun h=>by omega,False.elim⟩;have e2:((au (ab a)).length< ((au (ab b)).length:Int))=True:=tt;have e3:dV (ab a) (ab b)=-1:=by grind[dV,CX]
  simp only[qw,L8,go_sem,dD ha ω,dD hb ω,e1,e2,e3]
 ·have e2:IntKind.i64.wrap ((au (ab b)).length-1)=(au (ab b)).length-1:=by grind[i64_in]
  have e3:=aep (bH (ab a)) (bH (ab b)) heq ω (au (ab a)).length (avt _);rw[List.take_length,heq,List.take_length,br,br]at e3;simp only[qw,L8,go_sem,dD ha ω,dD hb ω,heq,e2];rw[e3 _ _ rfl rfl rfl];simp only[go_sem]
 ·have e1:(au (ab a)).length=((au (ab b)).length:Int)↔False:=⟨fun h=>by omega,False.elim⟩;have e2:((au (ab a)).length< ((au (ab b)).length:Int))=False:=ff;have e3:dV (ab a) (ab b)=1:=by
   have:=CX hgt;simp only[dV];omega
  simp only[qw,L8,go_sem,dD ha ω,dD hb ω,e1,e2,e3]
theorem ag1(v:BitVec 32):v.toNat/2147483648=if v.msb=true then 1 else 0:=by
 have h:=v.isLt;grind
theorem Z4{x y c}(hx:x<4294967296)(hy:y<4294967296)(hc:c<=1)(D)(hD:D.toNat=(x+4294967296-y-c) %4294967296):
  ((~~~(BitVec.ofNat 32 x)&&&BitVec.ofNat 32 y)||| (~~~(BitVec.ofNat 32 x^^^BitVec.ofNat 32 y)&&&D)).toNat/2147483648=if x<y+c then 1 else 0:=by
 grind[ag1,BitVec.ofNat,BitVec.msb_eq_decide,BitVec.msb_or,BitVec.msb_and,BitVec.msb_not,BitVec.msb_xor]
theorem ofI(n:Nat):BitVec.ofInt 32 n=BitVec.ofNat 32 n:=σ
theorem aqN(v:BitVec 32):IntKind.u32.wrap v.toNat=v.toNat:=by
 have:=v.isLt;grind[IntKind.wrap_u32]
theorem UK{x y c:Nat}(hx:x<4294967296)(hy:y<4294967296)(hc:c<=1):R F.bits_Sub32 [U x,U y,U c] []=some (.tup [U (((x+4294967296-y-c) %4294967296:Nat)),U ((if x<y+c then 1 else 0:Nat))],[]):=by
 refine aB UA rfl ?_;have e1:IntKind.u32.wrap (x-y)=((x+4294967296-y) %4294967296:Nat):=by grind[IntKind.wrap_u32]
 have e2:IntKind.u32.wrap (((x+4294967296-y) %4294967296:Nat)-c)=((x+4294967296-y-c) %4294967296:Nat):=by grind[IntKind.wrap_u32]
 have b:IntKind.u32.bits=32:=rfl;have e3:BitVec.ofInt 32 (if IntKind.u32.signed=true then(-1)else IntKind.u32.max)=BitVec.allOnes 32:=δ
 have e4:∀v,BitVec.allOnes 32^^^v= ~~~v:=fun v=>BitVec.not_def.symm;have e5:∀v,BitVec.ofNat 32 v.toNat=v:=fun v=>by simp
 have key:=Z4 hx hy hc (BitVec.ofNat 32 ((x+4294967296-y-c) %4294967296)) σ;have sh:∀v:BitVec 32,eA .shr (.v (.int .u32 (v.toNat:Int))) (.v (.int .u64 31))=some (.v (.int .u32 ((v.toNat/2147483648:Nat):Int))):=fun v=>by
  simp_all[FO,if_neg,Option.some.injEq,AV.v.injEq,Value.int.injEq,true_and,Int.fdiv_eq_ediv_of_nonneg]
 simp only[Cq,IU,go_sem,e1,e2,ofI,e3,e5,aqN,sh];grind
def BT(a b:List Nat):Nat->Nat
 |0=>0
 |i+1=>if a.getD i 0<b.getD i 0+BT a b i then 1 else 0
def UM(a b:List Nat)(i:Nat):Nat:=(a.getD i 0+4294967296-b.getD i 0-BT a b i) %4294967296
def tp(a b:List Nat)(i:Nat):List Nat:=(List.range i).map (UM a b)
theorem NL(a b)(i):BT a b i<=1:=by
 cases i with
 |zero=>simp[BT]
 |succ i=>grind[BT]
theorem UN{a b}(ha:Lb a)(hb:Lb b):∀i,ab (tp a b i)+ab (b.take i)=ab (a.take i)+4294967296^i*BT a b i
 |0=>by simp[tp,BT,ab]
 |i+1=>by
  have ih:=UN ha hb i;rw[gu a i,gu b i];simp only[tp]at ih⊢;rw[D4,awb];have h1:=cY ha i;have h2:=cY hb i;have h3:=NL a b i;have e:UM a b i+b.getD i 0+BT a b i=a.getD i 0+4294967296*BT a b (i+1):=by
   grind[UM,BT]
  grind
theorem Fz(a b)(i):(tp a b i).length=i:=by simp[tp]
theorem Xn(a b)(i):Lb (tp a b i):=fun x hx=>by
 simp only[tp,awc]at hx;obtain⟨j,_,rfl⟩:=hx;simp only[UM];omega
theorem aeq{a b}(ha:Lb a)(hb:Lb b)(hl:b.length<=a.length)(hv:ab b<=ab a):tp a b a.length=eB a.length (ab a-ab b):=by
 have h:=UN ha hb a.length;rw[List.take_length,avL hl]at h;have h1:=eu (Xn a b a.length);rw[Fz]at h1;have hz:BT a b a.length=0:=by
  grind[NL,Nat.eq_zero_or_pos,BT]
 rw[hz]at h;have h2:=G2 (Xn a b a.length);rw[Fz,show ab (tp a b a.length)=ab a-ab b from by omega]at h2;exact h2.symm
theorem aer{a b}(ha:Lb a)(hb:Lb b)(h2:a.length<=100000):∀k i,i+k=a.length->∀s h,s 1=lm b->s 5=.rsl 16 none 1 0 a.length->s 6=U (BT a b i)->
  s 17=lm a->s 18=I a.length->s 19=I i->h 16=.ar 1 (aG (tp a b i++avr k 0))->
  ah 0 [5] (av (ai R (ax false) m8) [1,5,6,17,18,19] [16] s h)=
   some (.normal,⟨upd (fun _=>.any) 5 (.rsl 16 none 1 0 a.length),upd (fun _=>.dead) 16 (.ar 1 (aG (tp a b a.length)))⟩):=by
 intro k;induction k with
 |zero=>
  intro i hi s h h1 h5 h6 h17 h18 h19 hh;have:i=a.length:=ω
  subst this;rw[ag];simp only[m8,go_sem,h1,h5,h6,h17,h18,h19,hh,awf]
 |succ k ih=>
  intro i hi s h h1 h5 h6 h17 h18 h19 hh;have ih':=ih (i+1) ω;have e1:((i:Int)< (a.length:Int))=True:=tt;have e2:bp (aG a) (i:Int)=some (.ipt [U (a.getD i 0:Nat)]):=cQ rfl ω;have e3:IntKind.i64.wrap ((i:Int)+1)=((i+1:Nat):Int):=wi;have e4:(0<=(i:Int))=True:=tt;have e7:(aG (tp a b i++avr (k+1) 0))[i]?=some [U (0:Nat)]:=by
   grind[kv,Fz]
  have e8:(aG (tp a b i++avr (k+1) 0)).set i [U ((a.getD i 0+4294967296-b.getD i 0-BT a b i) %4294967296:Nat)]=aG (tp a b (i+1)++avr k 0):=by
   rw[n7];grind[BT,UM,tp,List.range_succ]
  rw[ag];by_cases hb':i<b.length
  ·have e6:=UK (cY ha i) (cY hb i) (NL a b i);have e9:((i:Int)< (b.length:Int))=True:=tt;have e10:bp (aG b) (i:Int)=some (.ipt [U (b.getD i 0:Nat)]):=cQ rfl hb';simp only[m8,go_sem,h1,h5,h6,h17,h18,h19,hh,e1,e2,e3,e4,e6,e7,e8,e9,e10,avy,avs];exact ih' _ _ rfl rfl rfl rfl rfl rfl rfl
  ·have e9:((i:Int)< (b.length:Int))=False:=ff;have e10:b.getD i 0=0:=γ
   have e6':=UK (cY ha i) (y:=0) ω (NL a b i);simp only[av7]at e6';have e8':(aG (tp a b i++avr (k+1) 0)).set i [U ((a.getD i 0+4294967296-0-BT a b i) %4294967296:Nat)]=aG (tp a b (i+1)++avr k 0):=by
    grind
   simp only[m8,go_sem,h1,h5,h6,h17,h18,h19,hh,e1,e2,e3,e4,e6',e7,e8',e9,avy,avs];refine ih' _ _ rfl rfl ?_ rfl rfl rfl rfl;simp only[BT,e10,avs];rfl
theorem abT{a b}(ha:Lb a)(hb:Lb b)(h1:a.length<=100000)(h2:b.length<=100000)(hv:ab b<=ab a):R F.natural_sub [lm a,lm b] []=some (lm (eB (au (ab a)).length (ab a-ab b)),[]):=by
 refine aB Sv rfl ?_;have la:=ey a ha;have lb:(au (ab b)).length<=(au (ab a)).length:=by
  rcases Nat.lt_or_ge (au (ab a)).length (au (ab b)).length with h|h
  ·have:=CX h;omega
  omega
 have e2:=uK (i:=(au (ab a)).length) (j:=(au (ab a)).length) rfl rfl (avt _) ω;have e3:((au (ab a)).length*4<=140737488355328)=True:=tt;have e4:=aer (bH (ab a)) (bH (ab b)) ω (au (ab a)).length 0 ω;have e5:aG (avr (au (ab a)).length 0)=aG (tp (au (ab a)) (au (ab b)) 0++avr (au (ab a)).length 0):=rfl;have e6:=aeq (bH (ab a)) (bH (ab b)) lb (by grind[br]);rw[br,br]at e6;simp only[AC,HY,go_sem,dD ha ω,dD hb ω,e2,e3,C6,e5];rw[e4 _ _ rfl rfl rfl rfl rfl rfl rfl];simp only[go_sem,e6,dx,avs,avt]
theorem abU{a b}(ha:Lb a)(hb:Lb b)(h1:a.length<=256)(h2:b.length<=256):R F.natural_Sub [lm a,lm b] []=some (if ab a<ab b then .tup [lm [],I 2]else kJ (ab a-ab b),[]):=by
 refine aB Sq rfl ?_;have e1:(256<a.length)=False:=ff;have e2:(256<b.length)=False:=ff;by_cases hv:ab a<ab b
 ·have e3:dV (ab a) (ab b)=-1:=by grind[dV]
  simp only[qB,xf,go_sem,avO,e1,e2,uJ,zL ha hb ω ω,e3,hv]
 ·have e3:(dV (ab a) (ab b)<0)=False:=ff (by grind[dV]);have e5:ab (eB (au (ab a)).length (ab a-ab b))=ab a-ab b:=by
   rw[rN,awh];grind[gA,ab]
  have e4:=Ga (s6 (au (ab a)).length (ab a-ab b)) (by grind[dx,ey]);rw[e5]at e4;unfold kJ at e4⊢;by_cases hl:256< (au (ab a-ab b)).length
  ·simp only[hl,if_true]at e4⊢;simp only[qB,xf,go_sem,e1,e2,uJ,zL ha hb ω ω,e3,hv,abT ha hb ω ω ω,e4]
  ·simp only[hl,if_false]at e4⊢;simp only[qB,xf,go_sem,e1,e2,uJ,zL ha hb ω ω,e3,hv,abT ha hb ω ω ω,e4]
def mi(x:Nat):Nat->List Nat->List Nat->List Nat×Nat
 |c,y::bs,o::s=>(((x*y+o+c) %4294967296)::(mi x ((x*y+o+c)/4294967296) bs s).1,(mi x ((x*y+o+c)/4294967296) bs s).2)
 |c,_,s=>(s,c)
theorem abV(x):∀bs s r c,bs.length<=s.length->mi x c bs (s++r)=((mi x c bs s).1++r,(mi x c bs s).2)
 |[],s,r,c,_=>by simp[mi]
 |y::bs,[],r,c,h=>by grind
 |y::bs,o::s,r,c,h=>by
  have ih:=abV x bs s r ((x*y+o+c)/4294967296) (by simpa using h);simp only[avS,mi,ih]
theorem I7(x):∀bs s c,(mi x c bs s).1.length=s.length
 |[],s,c=>by simp[mi]
 |y::bs,[],c=>by simp[mi]
 |y::bs,o::s,c=>by simp[mi,I7 x bs s]
theorem agk(x):∀bs s c,Lb s->Lb (mi x c bs s).1
 |[],s,c,h=>by grind[mi]
 |y::bs,[],c,h=>by grind[mi]
 |y::bs,o::s,c,h=>by
  exact jL.2 ⟨by omega,agk x bs s _ (jL.1 h).2⟩
theorem abW{x y o c}(hx:x<4294967296)(hy:y<4294967296)(ho:o<4294967296)(hc:c<4294967296):x*y+o+c<18446744073709551616:=by
 have:x*y<=4294967295*4294967295:=Nat.mul_le_mul ω ω;omega
theorem L9{x}(hx:x<4294967296):∀bs s c,Lb bs->Lb s->c<4294967296->(mi x c bs s).2<4294967296
 |[],s,c,_,_,hc=>by grind[mi]
 |y::bs,[],c,_,_,hc=>by grind[mi]
 |y::bs,o::s,c,hb,hs,hc=>by
  have:=abW hx (jL.1 hb).1 (jL.1 hs).1 hc;exact L9 hx bs s _ (jL.1 hb).2 (jL.1 hs).2 ω
theorem abX(x):∀bs s c,bs.length=s.length->ab (mi x c bs s).1+4294967296^s.length*(mi x c bs s).2=ab s+x*ab bs+c
 |[],[],c,_=>by simp[mi,ab]
 |[],o::s,c,h=>by grind
 |y::bs,[],c,h=>by grind
 |y::bs,o::s,c,h=>by
  have ih:=abX x bs s ((x*y+o+c)/4294967296) γ;simp only[mi,ab,av2,awb];grind
theorem Z5{a b}(hb:Lb b){x i n:Nat}(hx:x<4294967296)(h2:b.length<=100000)(hi:i<=100000):∀bs k D S (c:Nat),b.drop k=bs->k<=b.length->D.length=i+k->bs.length<=S.length->(D++S).length=n->Lb S->c<4294967296->
  ∀s h,s 18=lm a->s 19=I a.length->s 20=I i->s 1=lm b->s 5=.rsl 17 none 1 0 n->s 6=I i->s 7=U x->s 8=W c->s 25=lm b->s 26=I b.length->s 27=I k->h 17=.ar 1 (aG (D++S))->
  ah 2 [1,5,6,8,18,19,20] (av (ai R (ax false) m9) [1,5,6,7,8,18,19,20,25,26,27] [17] s h)=
   some (.normal,⟨upd (upd (upd (upd (upd (upd (upd (fun _=>.any) 20 (I i)) 19 (I a.length)) 18 (lm a)) 8 (W (mi x c bs S).2)) 6 (I i)) 5 (.rsl 17 none 1 0 n)) 1 (lm b),upd (fun _=>.dead) 17 (.ar 1 (aG (D++(mi x c bs S).1)))⟩):=by
 intro bs;induction bs with
 |nil=>
  intro k D S c hd hk hD hS hn hLS hc s h h18 h19 h20 h1 h5 h6 h7 h8 h25 h26 h27 hh;have:k=b.length:=by
   grind
  subst this;rw[ag];simp only[m9,go_sem,h18,h19,h20,h1,h5,h6,h7,h8,h25,h26,h27,hh,awf,mi]
 |cons y bs ih=>
  intro k D S c hd hk hD hS hn hLS hc s h h18 h19 h20 h1 h5 h6 h7 h8 h25 h26 h27 hh;obtain⟨o,S,rfl⟩:∃o S',S=o::S':=by
   cases S with
   |nil=>grind
   |cons o S=>grind
  have hlt:k<b.length:=by
   grind
  have hy:b.getD k 0=y:=by
   have:=congrArg (·[0]?) hd;grind
  have hyb:y<4294967296:=by grind[cY]
  have hob:=(jL.1 hLS).1;have hml:=abW hx hyb hob hc;have hxy:x*y<18446744073709551616:=ω
  have ih':=ih (k+1) (D++[(x*y+o+c) %4294967296]) S ((x*y+o+c)/4294967296) (by rw[←List.drop_drop,hd];rfl) hlt γ γ γ (jL.1 hLS).2 ω;have e1:((k:Int)< (b.length:Int))=True:=tt;have e2:bp (aG b) (k:Int)=some (.ipt [U (y:Nat)]):=by grind[cQ]
  have e3:IntKind.i64.wrap ((k:Int)+1)=((k+1:Nat):Int):=wi;have e4:IntKind.i64.wrap ((i:Int)+(k:Int))=((i+k:Nat):Int):=wi;have e5:(0<=((i+k:Nat):Int))=True:=tt;have hin:i+k<n:=γ
  have e6:(((i+k:Nat):Int)< (n:Int))=True:=tt;have e7:(aG (D++o::S))[i+k]?=some [U (o:Nat)]:=by
   grind[kv]
  have f1:IntKind.u64.wrap (x:Int)=x:=iG rfl ω;have f2:IntKind.u64.wrap (y:Int)=y:=iG rfl ω;have f3:IntKind.u64.wrap ((x:Int)*(y:Int))=((x*y:Nat):Int):=iG σ hxy;have f4:IntKind.u64.wrap (o:Int)=o:=iG rfl ω;have f5:IntKind.u64.wrap (((x*y:Nat):Int)+(o:Int))=((x*y+o:Nat):Int):=iG ω ω;have f6:IntKind.u64.wrap (((x*y+o:Nat):Int)+(c:Int))=((x*y+o+c:Nat):Int):=iG ω ω;have f7:IntKind.u32.wrap ((x*y+o+c:Nat):Int)=(((x*y+o+c) %4294967296:Nat):Int):=Ha rfl;have f8:=Bz (n:=x*y+o+c) (k:=32) (kk:=.u64) (j:=32) rfl rfl ω;have f9:(aG (D++o::S)).set (i+k) [U ((x*y+o+c) %4294967296:Nat)]=aG (D++[(x*y+o+c) %4294967296]++S):=by
   rw[n7,←hD,List.set_append_right _ _ (avt _)];simp
  rw[ag];generalize av _ _ _=L at ih'⊢;simp only[m9,go_sem,h18,h19,h20,h1,h5,h6,h7,h8,h25,h26,h27,hh,e1,e2,e3,e4,e5,e6,e7,f1,f2,f3,f4,f5,f6,f7,f8,f9,avy,avs,mi];rw[ih' _ _ rfl rfl rfl rfl rfl rfl rfl rfl rfl rfl rfl rfl];grind
def ez(a b:List Nat)(i:Nat):List Nat:=eB (i+b.length) (ab (a.take i)*ab b)
theorem abY{a b}(ha:Lb a)(hb:Lb b){i}(hi:i<a.length):
  (ez a b i).take i++((mi (a.getD i 0) 0 b ((ez a b i).drop i)).1++[(mi (a.getD i 0) 0 b ((ez a b i).drop i)).2])=ez a b (i+1):=by
 have hx:=cY ha i;have hP:(ez a b i).length=i+b.length:=dx _ _;have hLP:Lb (ez a b i):=s6 _ _;have hS:((ez a b i).drop i).length=b.length:=γ
 have h1:=abX (a.getD i 0) b ((ez a b i).drop i) 0 hS.symm;have h2:=L9 hx b ((ez a b i).drop i) 0 hb (nZ hLP i) ω;have h3:=agk (a.getD i 0) b ((ez a b i).drop i) 0 (nZ hLP i);have h4:=I7 (a.getD i 0) b ((ez a b i).drop i) 0;have hvP:ab (ez a b i)=ab (a.take i)*ab b:=by
  unfold ez;rw[rN,awh];have e1:=eu (gI ha i);have e2:=eu hb;rw[avF,awm ω]at e1
  simp_all[avG,Nat.mul_lt_mul'']
 have hsplit:ab (ez a b i)=ab ((ez a b i).take i)+4294967296^i*ab ((ez a b i).drop i):=by
  grind[List.take_append_drop,ez,eP,avF,awm]
 have hLb:=
  qT.2 ⟨gI hLP i,qT.2 ⟨h3,jL.2 ⟨h2,Np⟩⟩⟩
 have hval:ab ((ez a b i).take i++((mi (a.getD i 0) 0 b ((ez a b i).drop i)).1++[(mi (a.getD i 0) 0 b ((ez a b i).drop i)).2]))=ab (a.take (i+1))*ab b:=by
  rw[eP,eP,avF,hP,awm ω,h4,gu a i,avP,←hvP,hsplit];simp only[ab,Nat.mul_zero,av1]at h1⊢;grind
 have hlen:((ez a b i).take i++((mi (a.getD i 0) 0 b ((ez a b i).drop i)).1++[(mi (a.getD i 0) 0 b ((ez a b i).drop i)).2])).length=i+1+b.length:=by
  grind
 have:=G2 hLb;rw[hlen,hval]at this;exact this.symm
theorem aes{a b}(ha:Lb a)(hb:Lb b)(h1:a.length<=100000)(h2:b.length<=100000):∀k i,i+k=a.length->∀s h,s 1=lm b->s 5=.rsl 17 none 1 0 (a.length+b.length)->
  s 18=lm a->s 19=I a.length->s 20=I i->h 17=.ar 1 (aG (ez a b i++avr k 0))->
  ah 0 [5] (av (ai R (ax false) rM) [1,5,18,19,20] [17] s h)=
   some (.normal,⟨upd (fun _=>.any) 5 (.rsl 17 none 1 0 (a.length+b.length)),upd (fun _=>.dead) 17 (.ar 1 (aG (ez a b a.length)))⟩):=by
 intro k;induction k with
 |zero=>
  intro i hi s h h1 h5 h18 h19 h20 hh;have:i=a.length:=ω
  subst this;rw[ag];simp only[rM,go_sem,h1,h5,h18,h19,h20,hh,awf]
 |succ k ih=>
  intro i hi s h g1 h5 h18 h19 h20 hh;have ih':=ih (i+1) ω;have hx:=cY ha i;have hP:(ez a b i).length=i+b.length:=dx _ _;have hLP:Lb (ez a b i):=s6 _ _;have hsp:ez a b i++avr (k+1) 0=(ez a b i).take i++((ez a b i).drop i++avr (k+1) 0):=by rw[←awe,List.take_append_drop]
  have e1:((i:Int)< (a.length:Int))=True:=tt;have e2:bp (aG a) (i:Int)=some (.ipt [U (a.getD i 0:Nat)]):=cQ rfl ω;have e3:IntKind.i64.wrap ((i:Int)+1)=((i+1:Nat):Int):=wi;have e4:IntKind.i64.wrap ((i:Int)+(b.length:Int))=((i+b.length:Nat):Int):=wi;have e5:(0<=((i+b.length:Nat):Int))=True:=tt;have e6:(((i+b.length:Nat):Int)< ((a.length+b.length:Nat):Int))=True:=tt;have lp:=Z5 (a:=a) hb (x:=a.getD i 0) (i:=i) (n:=a.length+b.length) hx h2 ω b 0 ((ez a b i).take i) ((ez a b i).drop i++avr (k+1) 0) 0 rfl (av6 _) γ γ γ
   (qT.2 ⟨nZ hLP i,fun y hy=>by grind⟩) ω
  rw[abV _ _ _ _ _ γ]at lp;have ml:(mi (a.getD i 0) 0 b ((ez a b i).drop i)).1.length=b.length:=by grind[I7]
  have mc:=L9 hx b ((ez a b i).drop i) 0 hb (nZ hLP i) ω;have ps:=abY ha hb (show i<a.length from by omega);rw[hsp]at hh;generalize mi (a.getD i 0) 0 b ((ez a b i).drop i)=r at*
  have f1:=QQ rfl mc;have e7:(aG ((ez a b i).take i++(r.1++avr (k+1) 0)))[i+b.length]?=some [U (0:Nat)]:=by
   grind[awe,kv]
  have e8:(aG ((ez a b i).take i++(r.1++avr (k+1) 0))).set (i+b.length) [U (r.2:Nat)]=aG (ez a b (i+1)++avr k 0):=by
   grind[awe,n7,UH,ez]
  rw[ag];generalize av _ _ _=L at ih'⊢;simp only[rM,go_sem,g1,h5,h18,h19,h20,hh,e1,e2];rw[lp _ _ rfl rfl rfl rfl rfl rfl rfl rfl rfl rfl rfl rfl];simp only[go_sem,e3,e4,e5,e6,e7,e8,f1,avy,avs];exact ih' _ _ rfl rfl rfl rfl rfl rfl
theorem ajN{a b}(ha:Lb a)(hb:Lb b)(h1:a.length<=100000)(h2:b.length<=100000):R F.natural_mul [lm a,lm b] []=some (lm (eB (a.length+b.length) (ab a*ab b)),[]):=by
 refine aB Sx rfl ?_;have e1:IntKind.i64.wrap (a.length+b.length)=(a.length+b.length:Nat):=wi;have e2:=uK (i:=(a.length+b.length:Nat)) (j:=(a.length+b.length:Nat)) rfl rfl (avt _) ω;have e3:((a.length+b.length)*4<=140737488355328)=True:=tt;have e4:=aes ha hb h1 h2 a.length 0 ω;have e0:ez a b 0=avr b.length 0:=by
  have:∀n,eB n 0=avr n 0:=fun n=>by
   induction n with
   |zero=>rfl
   |succ n ih=>simp[eB,ih,List.replicate_succ]
  grind[ez,ab]
 have e5:aG (avr (a.length+b.length) 0)=aG (ez a b 0++avr a.length 0):=by
  rw[e0,List.replicate_append_replicate,Nat.add_comm]
 have e6:ez a b a.length=eB (a.length+b.length) (ab a*ab b):=by rw[ez,List.take_length]
 simp only[AE,HZ,go_sem,e1,e2,e3,C6,e5];rw[e4 _ _ rfl rfl rfl rfl rfl rfl];simp only[go_sem,e6,dx,avs,avt]
theorem abZ{a b}(ha:Lb a)(hb:Lb b)(h1:a.length<=256)(h2:b.length<=256):R F.natural_Mul [lm a,lm b] []=some (kJ (ab a*ab b),[]):=by
 refine aB Sr rfl ?_;have e1:(256<a.length)=False:=ff;have e2:(256<b.length)=False:=ff;have la:=ey a ha;have lb:=ey b hb;have e3:=ajN (bH (ab a)) (bH (ab b)) ω ω;rw[br,br]at e3;have e4:=Ga (s6 ((au (ab a)).length+(au (ab b)).length) (ab a*ab b)) (by grind[dx]);rw[rN,awh (by simp_all[avG,Nat.mul_lt_mul'',gA])]at e4;unfold kJ at e4⊢;by_cases hl:256< (au (ab a*ab b)).length
 ·simp only[hl,if_true]at e4⊢;simp only[vJ,Co,go_sem,e1,e2,uJ,dD ha ω,dD hb ω,e3,e4]
 ·simp only[hl,if_false]at e4⊢;simp only[vJ,Co,go_sem,e1,e2,uJ,dD ha ω,dD hb ω,e3,e4]
theorem Xo{n m:Nat}{i j:Int}(hi:i=n)(hj:j=m)(hm:m≠0):eA .rem (.v (.int .i64 i)) (.v (.int .i64 j))=some (.v (.int .i64 (n%m:Nat))):=by
 simp_all[JZ,if_neg,Int.tmod_eq_emod_of_nonneg]
theorem Xp{n m:Nat}{i j:Int}(hi:i=n)(hj:j=m)(hm:m≠0)(hn:n<9223372036854775808):eA .quo (.v (.int .i64 i)) (.v (.int .i64 j))=some (.v (.int .i64 (n/m:Nat))):=by
 rw[OL,if_neg ω,Int.tdiv_eq_ediv_of_nonneg ω];have:n/m<=n:=Nat.div_le_self _ _;grind[wi]
theorem J2{n k:Nat}{i:Int}{kk}{j:Int}(hi:i=n)(hj:j=k)(hk:k<=64)(h:n*2^k<18446744073709551616):eA .shl (.v (.int .u64 i)) (.v (.int kk j))=some (.v (.int .u64 (n*2^k:Nat))):=by
 subst hi hj;rw[J0,if_neg ω];have:min (k:Int).toNat IntKind.u64.bits=k:=by grind[IntKind.bits]
 rw[this,iG (n:=n*2^k) σ h]
theorem UO{m n:Nat}{i j:Int}(hi:i=m)(hj:j=n)(hm:m<18446744073709551616)(hn:n<18446744073709551616):eA .or (.v (.int .u64 i)) (.v (.int .u64 j))=some (.v (.int .u64 (m|||n:Nat))):=by
 subst hi hj;rw[M9];have e:(BitVec.ofInt IntKind.u64.bits m|||BitVec.ofInt IntKind.u64.bits n).toNat=m|||n:=by
  show(BitVec.ofInt 64 m|||BitVec.ofInt 64 n).toNat=m|||n
  grind
 rw[e];rw[iG rfl (Nat.or_lt_two_pow (n:=64) hm hn)]
theorem I8{x c k}(hc:c<2^k):x*2^k|||c=x*2^k+c:=by
 have:=Nat.shiftLeft_add_eq_or_of_lt hc x;grind[Nat.shiftLeft_eq]
def qG(a:List Nat)(r:Nat):Nat->Nat
 |0=>0
 |i+1=>(a.getD i 0*2^r+qG a r i)/4294967296
def x9(a:List Nat)(r i:Nat):List Nat:=(List.range i).map fun j=>(a.getD j 0*2^r+qG a r j) %4294967296
theorem NM{a}(ha:Lb a){r}:∀i,qG a r i<2^r
 |0=>by grind[qG,avJ]
 |i+1=>by
  have ih:=NM ha (r:=r) i;have:=cY ha i;simp only[qG];have h1:a.getD i 0*2^r+2^r<=4294967296*2^r:=by
   rw[←Nat.succ_mul];exact avA _ ω
  omega
theorem CY(a)(r i):(x9 a r i).length=i:=by simp[x9]
theorem ajO(a)(r i):Lb (x9 a r i):=fun x hx=>by
 simp only[x9,awc]at hx;omega
theorem Xq(a)(r):∀i,ab (x9 a r i)+4294967296^i*qG a r i=ab (a.take i)*2^r
 |0=>by simp[x9,qG,ab]
 |i+1=>by
  have ih:=Xq a r i;rw[gu a i];simp only[x9]at ih⊢;rw[D4,awb];have e:qG a r (i+1)*4294967296+(a.getD i 0*2^r+qG a r i) %4294967296=a.getD i 0*2^r+qG a r i:=by
   grind[qG]
  grind
theorem aet{a}(ha:Lb a){n q}(h1:a.length<=100000)(hq:q<=100000):∀k i,i+k=a.length->∀s h,s 1=I (n:Nat)->s 5=.rsl 20 none 1 0 (q+i)->s 6=W (qG a (n%32) i)->s 21=lm a->s 22=I a.length->s 23=I i->
  h 20=.ar 1 (aG (avr q 0++x9 a (n%32) i))->h 38=.dead->
  ah 0 [5,6] (av (ai R (ax false) rK) [1,5,6,21,22,23] [20,38] s h)=
   some (.normal,⟨upd (upd (fun _=>.any) 6 (W (qG a (n%32) a.length))) 5 (.rsl 20 none 1 0 (q+a.length)),upd (upd (fun _=>.dead) 38 .dead) 20 (.ar 1 (aG (avr q 0++x9 a (n%32) a.length)))⟩):=by
 intro k;induction k with
 |zero=>
  intro i hi s h g1 h5 h6 h21 h22 h23 hh hh2;have:i=a.length:=ω
  subst this;rw[ag];simp only[rK,go_sem,g1,h5,h6,h21,h22,h23,hh,hh2,awf]
 |succ k ih=>
  intro i hi s h g1 h5 h6 h21 h22 h23 hh hh2;have ih':=ih (i+1) ω;have hx:=cY ha i;have hc:=NM ha (r:=n%32) i;have hp:2^ (n%32)<=2^31:=av8 ω ω;have hxp:a.getD i 0*2^ (n%32)<=4294967295*2^31:=Nat.mul_le_mul ω hp;have e1:(i< (a.length:Int))=True:=tt;have e2:bp (aG a) i=some (.ipt [U (a.getD i 0)]):=cQ rfl ω;have e3:IntKind.i64.wrap (i+1)=(i+1:Nat):=wi;have e4:IntKind.u64.wrap (a.getD i 0)=(a.getD i 0):=iG rfl ω;have e5:=Xo (n:=n) (m:=32) (j:=32) rfl rfl ω;have e6:=J2 (n:=a.getD i 0) (k:=n%32) (kk:=.i64) rfl rfl ω ω;have e7:=UO (m:=a.getD i 0*2^ (n%32)) (n:=qG a (n%32) i) rfl rfl ω ω;rw[I8 hc]at e7;have e8:IntKind.u32.wrap (a.getD i 0*2^ (n%32)+qG a (n%32) i:Nat)=((a.getD i 0*2^ (n%32)+qG a (n%32) i) %4294967296:Nat):=Ha rfl;have e9:=Bz (n:=a.getD i 0*2^ (n%32)+qG a (n%32) i) (k:=32) (kk:=.u64) (j:=32) rfl rfl ω;have f1:aG (avr q 0++x9 a (n%32) i)++[[U ((a.getD i 0*2^ (n%32)+qG a (n%32) i) %4294967296:Nat)]]=aG (avr q 0++x9 a (n%32) (i+1)):=by
   simp_all[U,qG,aG,NK,awe,x9,List.range_succ]
  have f2:(q+i=(avr q 0++x9 a (n%32) i).length)=True:=tt (by simp[CY]);have f3:((q+i+1)*4<=140737488355328)=True:=tt;rw[ag];simp only[rK,go_sem,g1,h5,h6,h21,h22,h23,hh,hh2,e1,e2,e3,e4,e5,e6,e7,e8,e9,f1,f2,f3,true_or,avs,avt];exact ih' _ _ rfl rfl rfl rfl rfl rfl rfl rfl
theorem I9(n):4294967296^ (n/32)*2^ (n%32)=2^n:=by
 rw[show 4294967296=2^32 from rfl,←Nat.pow_mul,←avG];grind
theorem ag2{a}(ha:Lb a)(n):avr (n/32) 0++x9 a (n%32) a.length++[qG a (n%32) a.length]=eB (n/32+a.length+1) (ab a*2^n):=by
 have hc:=NM ha (r:=n%32) a.length;have hp:2^ (n%32)<=2^31:=av8 ω ω;have h:=Xq a (n%32) a.length;have hLb:Lb (avr (n/32) 0++x9 a (n%32) a.length++[qG a (n%32) a.length]):=
  qT.2 ⟨qT.2 ⟨fun y hy=>by grind,ajO _ _ _⟩,jL.2 ⟨by omega,Np⟩⟩
 have hv:ab (avr (n/32) 0++x9 a (n%32) a.length++[qG a (n%32) a.length])=ab a*2^n:=by
  rw[awe,eP,QN,eP,CY,awr];simp only[ab,Nat.mul_zero,av1,avs];grind[I9,Nat.mul_left_comm]
 have:=G2 hLb;grind[CY]
theorem NN{a}(ha:Lb a){n:Nat}(h1:a.length<=100000)(hn:n<=65536):R F.natural_shl [lm a,I n] []=some (.osl 1 (aG (eB (n/32+(au (ab a)).length+1) (ab a*2^n))),[]):=by
 refine aB Ss rfl ?_;have la:=ey a ha;have hc:=NM (bH (ab a)) (r:=n%32) (au (ab a)).length;have hp:2^ (n%32)<=2^31:=av8 ω ω;have e1:=Xp (n:=n) (m:=32) (j:=32) rfl rfl ω ω;have e2:IntKind.i64.wrap ((n/32:Nat)+(au (ab a)).length)=(n/32+(au (ab a)).length:Nat):=wi;have e3:IntKind.i64.wrap ((n/32+(au (ab a)).length:Nat)+1)=(n/32+(au (ab a)).length+1:Nat):=wi;have e4:=uK (i:=(n/32:Nat)) (j:=(n/32+(au (ab a)).length+1:Nat)) rfl rfl ω ω;have e5:((n/32+(au (ab a)).length+1)*4<=140737488355328)=True:=tt;have e6:=aet (bH (ab a)) (n:=n) (q:=n/32) ω ω (au (ab a)).length 0 ω;have e7:aG (avr (n/32) 0)=aG (avr (n/32) 0++x9 (au (ab a)) (n%32) 0):=by simp[x9]
 have e8:IntKind.u32.wrap (qG (au (ab a)) (n%32) (au (ab a)).length:Nat)=(qG (au (ab a)) (n%32) (au (ab a)).length:Nat):=QQ rfl ω;have f1:aG (avr (n/32) 0++x9 (au (ab a)) (n%32) (au (ab a)).length)++[[U (qG (au (ab a)) (n%32) (au (ab a)).length)]]=aG (eB (n/32+(au (ab a)).length+1) (ab a*2^n)):=by
  have:=ag2 (bH (ab a)) n;rw[br]at this;rw[←this,show [[U (qG (au (ab a)) (n%32) (au (ab a)).length)]]=aG [qG (au (ab a)) (n%32) (au (ab a)).length]from rfl,NK]
 have f2:(n/32+(au (ab a)).length=(avr (n/32) 0++x9 (au (ab a)) (n%32) (au (ab a)).length).length)=True:=tt (by simp[CY]);simp only[AB,HW,go_sem,dD ha ω,e1,e2,e3,e4,e5,C6,e7];rw[e6 _ _ rfl rfl rfl rfl rfl rfl rfl rfl];simp only[go_sem,e8,f1,f2,e5,true_or,avs,avt,dx]
theorem ab0{a}(ha:Lb a){n}(h1:a.length<=256):R F.natural_Shl [lm a,I n] []=some (if n<0\/65536<n then .tup [lm [],I 2]else kJ (ab a*2^n.toNat),[]):=by
 refine aB So rfl ?_;have e1:(256<a.length)=False:=ff;by_cases hn:n<0
 ·simp only[mI,sG,go_sem,e1,rO,hn,true_or]
 by_cases hn2:65536<n
 ·simp only[mI,sG,go_sem,e1,rO,hn,hn2,or_true]
 obtain⟨m,rfl⟩:=Int.eq_ofNat_of_zero_le (show 0<=n by omega);have la:=ey a ha;have e3:ab (eB (m/32+(au (ab a)).length+1) (ab a*2^m))=ab a*2^m:=by
  rw[rN,awh];have h:=gA (ab a);have h2:2^m<=4294967296^ (m/32+1):=by
   rw[show 4294967296=2^32 from rfl,←Nat.pow_mul];exact av8 ω ω
  rw[show m/32+(au (ab a)).length+1=(au (ab a)).length+(m/32+1)from by omega,avG]
  simp_all[Nat.mul_lt_mul_of_lt_of_le,Nat.pow_pos]
 have e4:=Ga (s6 (m/32+(au (ab a)).length+1) (ab a*2^m)) (by grind[dx]);rw[e3]at e4;have e5:(aG (eB (m/32+(au (ab a)).length+1) (ab a*2^m))).take (eB (m/32+(au (ab a)).length+1) (ab a*2^m)).length=aG (eB (m/32+(au (ab a)).length+1) (ab a*2^m)):=avL (by simp_all[CW,avt]);unfold kJ at e4⊢;by_cases hl:256< (au (ab a*2^m)).length
 ·simp only[mI,sG,go_sem,e1,rO,hn,hn2,NN ha (n:=m) ω ω,e4,e5,or_false,avy,hl,avs,avt]
 ·simp only[mI,sG,go_sem,e1,rO,hn,hn2,NN ha (n:=m) ω ω,e4,e5,or_false,avy,hl,avs,avt]
theorem Hb{l}(h:Lb l)(i):ab (l.drop i)=ab l/4294967296^i:=by
 rcases Nat.lt_or_ge l.length i with hi|hi
 ·rw[List.drop_of_length_le ω];have:=eu h;have h2:4294967296^l.length<=4294967296^i:=av8 ω ω;rw[Nat.div_eq_of_lt ω];rfl
 ·have h1:ab l=ab (l.take i)+4294967296^i*ab (l.drop i):=by
   grind[List.take_append_drop,eP,avF,awm]
  grind[eu,gI,avF,awm,Nat.add_mul_div_left,Nat.pow_pos,Nat.div_eq_of_lt]
theorem gB(l:List Nat)(i):ab (l.drop i)=l.getD i 0+4294967296*ab (l.drop (i+1)):=by
 grind[avI,ab,List.drop_of_length_le]
def Hc(a:List Nat)(r i:Nat):Nat:=(a.getD i 0+4294967296*a.getD (i+1) 0)/2^r%4294967296
theorem ag3{a}(ha:Lb a){r}(hr:r<=32)(i):Hc a r i=Xl (ab a/2^r) i:=by
 unfold Hc Xl;have e0:ab a/2^r/4294967296^i=ab (a.drop i)/2^r:=by grind[Nat.div_div_eq_div_mul,avM,Hb]
 rw[e0,gB a i,gB a (i+1)];generalize ab (a.drop (i+1+1))=w;have e:4294967296=2^r*2^ (32-r):=by rw[←avG,show r+(32-r)=32 from by omega]
 have h1:a.getD i 0+4294967296*(a.getD (i+1) 0+4294967296*w)=(a.getD i 0+4294967296*a.getD (i+1) 0)+2^r*(2^ (32-r)*4294967296*w):=by
  grind
 rw[h1,Nat.add_mul_div_left _ _ (avJ r),avT,Nat.mul_left_comm,Nat.add_mul_mod_self_left]
def Cu(a:List Nat)(r i:Nat):List Nat:=(List.range i).map (Hc a r)
theorem FA(a)(r i):(Cu a r i).length=i:=by simp[Cu]
theorem aeu{a}(ha:Lb a){r}(hr:r<=32):Cu a r a.length=eB a.length (ab a/2^r):=by
 grind[UG,FA,ag3,Cu]
theorem aev{a}(ha:Lb a){n}(h1:a.length<=100000):∀k i,i+k=a.length->∀s h,s 0=lm a->s 1=I (n:Nat)->s 5=.rsl 22 none 1 0 a.length->s 23=lm a->s 24=I a.length->s 25=I i->
  h 22=.ar 1 (aG (Cu a (n%32) i++avr k 0))->
  ah 0 [5] (av (ai R (ax false) mW) [0,1,5,23,24,25] [22] s h)=
   some (.normal,⟨upd (fun _=>.any) 5 (.rsl 22 none 1 0 a.length),upd (fun _=>.dead) 22 (.ar 1 (aG (Cu a (n%32) a.length)))⟩):=by
 intro k;induction k with
 |zero=>
  intro i hi s h h0 g1 h5 h23 h24 h25 hh;have:i=a.length:=ω
  subst this;rw[ag];simp only[List.replicate_zero,avE]at hh;simp only[mW,go_sem,h0,g1,h5,h23,h24,h25,hh,awf]
 |succ k ih=>
  intro i hi s h h0 g1 h5 h23 h24 h25 hh;have ih':=ih (i+1) ω;have hx:=cY ha i;have hy:=cY ha (i+1);have hr:n%32<32:=av3 _ ω;have e1:((i:Int)< (a.length:Int))=True:=tt;have e2:bp (aG a) (i:Int)=some (.ipt [U (a.getD i 0:Nat)]):=cQ rfl ω;have e3:IntKind.i64.wrap ((i:Int)+1)=((i+1:Nat):Int):=wi;have e4:IntKind.u64.wrap (a.getD i 0:Int)=(a.getD i 0:Int):=iG rfl ω;have e5:=Xo (n:=n) (m:=32) (j:=32) rfl rfl ω;have e6:(0<=(i:Int))=True:=tt;have e7:(aG (Cu a (n%32) i++avr (k+1) 0))[i]?=some [U (0:Nat)]:=by
   grind[kv,FA]
  have e8:(aG (Cu a (n%32) i++avr (k+1) 0)).set i [U (Hc a (n%32) i:Nat)]=aG (Cu a (n%32) (i+1)++avr k 0):=by
   grind[n7,UH,Cu,Hc,FA,List.range_succ]
  rw[ag];generalize av _ _ _=L at ih'⊢;by_cases hl:i+1<a.length
  ·have f1:(((i+1:Nat):Int)< (a.length:Int))=True:=tt;have f2:=cQ rfl hl;have f3:IntKind.u64.wrap (a.getD (i+1) 0:Int)=(a.getD (i+1) 0:Int):=iG rfl ω;have f4:=J2 (n:=a.getD (i+1) 0) (k:=32) (kk:=.u64) (j:=32) rfl rfl ω ω;have f5:=UO (m:=a.getD i 0) (n:=a.getD (i+1) 0*2^32) rfl rfl ω ω;rw[Nat.or_comm,I8 (show a.getD i 0<2^32 from by omega)]at f5;have f6:=Bz (n:=a.getD (i+1) 0*2^32+a.getD i 0) (k:=n%32) (kk:=.i64) rfl rfl ω;have f7:IntKind.u32.wrap (((a.getD (i+1) 0*2^32+a.getD i 0)/2^ (n%32):Nat):Int)=((Hc a (n%32) i:Nat):Int):=by
    grind[Ha,Hc]
   simp only[mW,go_sem,h0,g1,h5,h23,h24,h25,hh,e1,e2,e3,e4,e5,e6,e7,e8,f1,f2,f3,f4,f5,f6,f7,avy,avs];exact ih' _ _ rfl rfl rfl rfl rfl rfl rfl
  ·have f1:(((i+1:Nat):Int)< (a.length:Int))=False:=ff;have f2:a.getD (i+1) 0=0:=γ
   have f6:=Bz (n:=a.getD i 0) (k:=n%32) (kk:=.i64) rfl rfl ω;have f7:IntKind.u32.wrap ((a.getD i 0/2^ (n%32):Nat):Int)=((Hc a (n%32) i:Nat):Int):=by
    rw[Ha rfl];grind[Hc]
   simp only[mW,go_sem,h0,g1,h5,h23,h24,h25,hh,e1,e2,e3,e4,e5,e6,e7,e8,f1,f6,f7,avy,avs];exact ih' _ _ rfl rfl rfl rfl rfl rfl rfl
theorem ab1{a}(ha:Lb a){n:Nat}(h1:a.length<=100000)(hn:n<=100000000):R F.natural_shr [lm a,I n] []=some (lm (eB ((au (ab a)).length-n/32) (ab a/2^n)),[]):=by
 refine aB Sf rfl ?_;have la:=ey a ha;have e1:=Xp (n:=n) (m:=32) (j:=32) rfl rfl ω ω;by_cases hl:(au (ab a)).length<=n/32
 ·have e2:((au (ab a)).length<=((n/32:Nat):Int))=True:=tt;have e3:eB ((au (ab a)).length-n/32) (ab a/2^n)=[]:=by rw[show(au (ab a)).length-n/32=0 from by omega];rfl
  simp only[vA,Ch,go_sem,dD ha ω,e1,e2,e3]
 ·have e2:((au (ab a)).length<=((n/32:Nat):Int))=False:=ff;have hD:((au (ab a)).drop (n/32)).length=(au (ab a)).length-n/32:=σ
  have hLD:Lb ((au (ab a)).drop (n/32)):=nZ (bH _) _;have e3:eS 1 (lm (au (ab a))) (some (I (n/32:Nat))) none none=some (lm ((au (ab a)).drop (n/32))):=by
   rw[UE (a:=n/32) (b:=(au (ab a)).length) (AM rfl ω) rfl (avt _),avL ω]
  have hv:ab ((au (ab a)).drop (n/32))/2^ (n%32)=ab a/2^n:=by
   rw[Hb (bH _),br,Nat.div_div_eq_div_mul,I9]
  have e6:=aeu hLD (r:=n%32) ω;rw[hv,hD]at e6;generalize(au (ab a)).drop (n/32)=D at*
  have e4:=uK (i:=D.length) (j:=D.length) rfl rfl (avt _) ω;have e5:(D.length*4<=140737488355328)=True:=tt;have e7:=aev hLD (n:=n) ω D.length 0 ω;have e8:aG (avr D.length 0)=aG (Cu D (n%32) 0++avr D.length 0):=by simp[Cu]
  rw[←hD]at e6⊢;simp only[vA,Ch,go_sem,dD ha ω,e1,e2,e3,e4,e5,C6,e8];rw[e7 _ _ rfl rfl rfl rfl rfl rfl rfl];simp only[go_sem,e6,dx,avs,avt]
theorem ab2{a}(ha:Lb a){n}(h1:a.length<=256):R F.natural_Shr [lm a,I n] []=some (if n<0\/65536<n then .tup [lm [],I 2]else .tup [lm (au (ab a/2^n.toNat)),I 0],[]):=by
 refine aB R8 rfl ?_;have e1:(256<a.length)=False:=ff;by_cases hn:n<0
 ·simp only[qi,wZ,go_sem,e1,rO,hn,true_or]
 by_cases hn2:65536<n
 ·simp only[qi,wZ,go_sem,e1,rO,hn,hn2,or_true]
 obtain⟨m,rfl⟩:=Int.eq_ofNat_of_zero_le (show 0<=n by omega);have la:=ey a ha;have hlt:=gA (ab a);have h32:ab a/2^m<4294967296^ ((au (ab a)).length-m/32):=by
  rw[Nat.div_lt_iff_lt_mul (avJ m),←I9 m];refine awn hlt ?_;rw[←avT,←avG];refine avx (av8 ω (show(au (ab a)).length<=(au (ab a)).length-m/32+m/32 by omega)) (Nat.le_mul_of_pos_right _ (avJ _))
 have e3:ab (eB ((au (ab a)).length-m/32) (ab a/2^m))=ab a/2^m:=by
  rw[rN,awh h32]
 have e4:=Ga (s6 ((au (ab a)).length-m/32) (ab a/2^m)) (by grind[dx]);rw[e3]at e4;have hl:¬256< (au (ab a/2^m)).length:=by
  have:=jT h32;omega
 unfold kJ at e4;simp only[hl,if_false]at e4;simp only[qi,wZ,go_sem,e1,rO,hn,hn2,ab1 ha (n:=m) ω ω,e4,or_false,avy]
def ae(n:Nat):Nat:=if n=0 then 0 else n.log2+1
theorem bV{n k}:ae n<=k↔n<2^k:=by
 unfold ae;grind[Nat.succ_le_iff,Nat.log2_lt]
theorem Ma{q k}(h:ae q<=k):ae (q+1)<=k+1:=by
 rw[bV]at h⊢;omega
theorem aew{n k}(h:n<=k):ae (2^n-1)<=k:=bV.2 (by
 have h1:=avJ n;have h2:=av8 (n:=2) δ h;omega)
theorem aex(k):ae 1<=k+1:=bV.2 (Nat.one_lt_two_pow ω)
theorem yb{x y k}(h:x<=y)(h2:ae y<=k):ae x<=k:=bV.2 (awl h (bV.1 h2))
theorem jN{n k}:k<ae n↔2^k<=n:=by
 have:=@bV n k;omega
theorem yc:ae 0=0:=rfl
theorem gZ{n}(h:n≠0):0<ae n:=by
 rw[jN];omega
theorem ng(n k):ae (n/2^k)=ae n-k:=by
 have h:∀j,ae (n/2^k)<=j↔ae n-k<=j:=fun j=>by
  simp_all[bV,Nat.div_lt_iff_lt_mul,avJ,avG]
 have h1:=(h _).1 (avt _);have h2:=(h _).2 (avt _);omega
theorem dW{n}(k)(hn:n≠0):ae (n*2^k)=ae n+k:=by
 grind[ng,Nat.mul_div_cancel,avJ,ae,jN,Nat.le_mul_of_pos_left]
def Z6:ByteArray:=⟨#[0,1,2,2,3,3,3,3,4,4,4,4,4,4,4,4,5,5,5,5,5,5,5,5,5,5,5,5,5,5,5,5,6,6,6,6,6,6,6,6,6,6,6,6,6,6,6,6,6,6,6,6,6,6,6,6,6,6,6,6,6,6,6,6,7,7,7,7,7,7,7,7,7,7,7,7,7,7,7,7,7,7,7,7,7,7,7,7,7,7,7,7,7,7,7,7,7,7,7,7,7,7,7,7,7,7,7,7,7,7,7,7,7,7,7,7,7,7,7,7,7,7,7,7,7,7,7,7,8,8,8,8,8,8,8,8,8,8,8,8,8,8,8,8,8,8,8,8,8,8,8,8,8,8,8,8,8,8,8,8,8,8,8,8,8,8,8,8,8,8,8,8,8,8,8,8,8,8,8,8,8,8,8,8,8,8,8,8,8,8,8,8,8,8,8,8,8,8,8,8,8,8,8,8,8,8,8,8,8,8,8,8,8,8,8,8,8,8,8,8,8,8,8,8,8,8,8,8,8,8,8,8,8,8,8,8,8,8,8,8,8,8,8,8,8,8,8,8,8,8,8,8,8,8,8,8]⟩
theorem aey:((List.range 256).all fun x=>(Z6[x]?).map (·.toNat)==some (ae x))=true:=by decide+kernel
theorem Z7{x:Nat}(h:x<256):JL (.v (.string Z6)) (.v (.int .u8 x))=some (.v (.int .u8 (ae x))):=by
 have:=List.all_eq_true.1 aey x (List.mem_range.2 h);simp only[JL];grind
theorem Hd:IS=.seq (.ops [0,2] [co 2 (.mv (.c (.v (.int .i64 0))))]) (.seq (.seq (.ops [0,2,4] [cm 3 0,co 4 (.bin .geq (.t 3) (.c (.v (.int .u32 65536))))]) (.cond (.t 4) (.seq (.ops [0] [cm 5 0,co 6 (.bin .shr (.t 5) (.c (.v (.int .u64 16)))),cm 0 6]) (.ops [0,2] [co 2 (.mv (.c (.v (.int .i64 16))))])) (.skip))) (.seq (.seq (.ops [0,2,8] [cm 7 0,co 8 (.bin .geq (.t 7) (.c (.v (.int .u32 256))))]) (.cond (.t 8) (.seq (.ops [0,2] [cm 9 0,co 10 (.bin .shr (.t 9) (.c (.v (.int .u64 8)))),cm 0 10]) (.ops [0,2] [cm 11 2,co 12 (.bin .add (.t 11) (.c (.v (.int .i64 8)))),cm 2 12])) (.skip))) (.seq (.ops [2] [cm 13 2,cm 14 0,co 15 (.cv .u8 (.t 14)),co 16 (.idxS (.c (.v (.string Z6))) (.t 15)),co 17 (.cv .i64 (.t 16)),co 18 (.bin .add (.t 13) (.t 17)),cm 2 18]) (.ret)))):=rfl
theorem w8{i:Int}{n:Nat}(h:i=n)(hn:n<256):IntKind.u8.wrap i=n:=by grind[IntKind.wrap_u8]
theorem Z8{n k:Nat}{i:Int}{kk}{j:Int}(hi:i=n)(hj:j=k)(hk:k<=32):eA .shr (.v (.int .u32 i)) (.v (.int kk j))=some (.v (.int .u32 (n/2^k:Nat))):=by
 simp_all[FO,if_neg,IntKind.bits,Option.some.injEq,AV.v.injEq,Value.int.injEq,true_and,Int.fdiv_eq_ediv_of_nonneg,Int.pow_nonneg]
theorem EV{x}(k)(h:2^k<=x):ae x=k+ae (x/2^k):=by
 have:=ng x k;have:=jN.2 h;omega
theorem UP{x:Nat}(hx:x<4294967296):R F.bits_Len32 [U x] []=some (I (ae x),[]):=by
 refine aB Ux rfl ?_;have fin:∀ {y:Nat},y<256->∀ {n:Nat},n<=24->IntKind.u8.wrap y=y/\IntKind.i64.wrap (ae y)=(ae y)/\IntKind.i64.wrap (n+(ae y))=(n+ae y:Nat):=fun{y} hy {n} hn=>by
  have:ae y<=8:=bV.2 hy;exact⟨w8 rfl hy,wi rfl ω,wi ω ω⟩
 have s16:=Z8 (n:=x) (k:=16) (kk:=.u64) (j:=16) rfl rfl ω;by_cases h1:65536<=x
 ·have e1:(65536<=(x:Int))=True:=tt;have b1:=EV 16 h1;have s8:=Z8 (n:=x/2^16) (k:=8) (kk:=.u64) (j:=8) rfl rfl ω;by_cases h2:256<=x/2^16
  ·have e2:(256<=((x/2^16:Nat):Int))=True:=tt;have b2:=EV 8 h2;have hy:x/2^16/2^8<256:=ω
   obtain⟨f1,f2,f3⟩:=fin hy (n:=24) ω;have g:IntKind.i64.wrap 24=24:=by grind[i64_in]
   have f3':IntKind.i64.wrap (24+(ae (x/2^16/2^8)))=(ae x:Nat):=γ
   simp only[nY,Hd,go_sem,e1,s16,e2,s8,g,f1,Z7 hy,f2,f3',Int.reduceAdd]
  ·have e2:(256<=((x/2^16:Nat):Int))=False:=ff;have hy:x/2^16<256:=ω
   obtain⟨f1,f2,f3⟩:=fin hy (n:=16) ω;have f3':IntKind.i64.wrap ((16:Int)+(ae (x/2^16):Int))=((ae x:Nat):Int):=γ
   simp only[nY,Hd,go_sem,avO,avU,e1,s16,e2,f1,Z7 hy,f2,f3']
 ·have e1:((65536:Int)<=(x:Int))=False:=ff;have s8:=Z8 (n:=x) (k:=8) (kk:=.u64) (j:=8) rfl rfl ω;by_cases h2:256<=x
  ·have e2:((256:Int)<=(x:Int))=True:=tt;have b2:=EV 8 h2;have hy:x/2^8<256:=ω
   obtain⟨f1,f2,f3⟩:=fin hy (n:=8) ω;have g:IntKind.i64.wrap (8:Int)=8:=by grind[i64_in]
   have f3':IntKind.i64.wrap ((8:Int)+(ae (x/2^8):Int))=((ae x:Nat):Int):=γ
   simp only[nY,Hd,go_sem,avO,avU,e1,e2,s8,g,f1,Z7 hy,f2,f3',Int.reduceAdd]
  ·have e2:((256:Int)<=(x:Int))=False:=ff;have hy:x<256:=ω
   obtain⟨f1,f2,f3⟩:=fin hy (n:=0) ω;have f3':IntKind.i64.wrap ((0:Int)+(ae x:Int))=((ae x:Nat):Int):=γ
   simp only[nY,Hd,go_sem,avO,avU,e1,e2,f1,Z7 hy,f2,f3']
theorem aez{n}(h:n≠0):ae n=32*((au n).length-1)+ae ((au n).getD ((au n).length-1) 0):=by
 induction n using Nat.strongRecOn with
 |ind n ih=>
  rw[sU h,av2,Nat.add_sub_cancel];by_cases h0:n/4294967296=0
  ·rw[h0,gX];grind
  ·have h2:(au (n/4294967296)).length≠0:=by
    intro e;exact h0 (sW.1 (List.length_eq_zero_iff.1 e))
   have h3:=EV (x:=n) 32 ω;grind
theorem Gc{m}(hb:Lb m)(h1:m.length<=100000):R F.natural_Bits [lm m] []=some (I (ae (ab m)),[]):=by
 refine aB Pb rfl ?_;have la:=ey m hb;by_cases h:ab m=0
 ·have e1:((0:Nat):Int)=0:=rfl;simp only[tL,Ay,go_sem,dD hb ω,h,gX,e1,yc]
 ·have hne:(au (ab m)).length≠0:=fun e=>h (sW.1 (List.length_eq_zero_iff.1 e));have e1:(((au (ab m)).length:Int)=0)=False:=ff;have e2:IntKind.i64.wrap ((au (ab m)).length-1)=((au (ab m)).length-1:Nat):=wi;have e3:IntKind.i64.wrap (32*((au (ab m)).length-1:Nat))=(32*((au (ab m)).length-1):Nat):=wi;have e4:bp (aG (au (ab m))) ((au (ab m)).length-1:Nat)=some (.ipt [U ((au (ab m)).getD ((au (ab m)).length-1) 0)]):=cQ rfl ω;have e5:=UP (cY (bH (ab m)) ((au (ab m)).length-1));have e6:ae ((au (ab m)).getD ((au (ab m)).length-1) 0)<=32:=bV.2 (cY (bH (ab m)) _);have e7:IntKind.i64.wrap ((32*((au (ab m)).length-1):Nat)+(ae ((au (ab m)).getD ((au (ab m)).length-1) 0)))=(ae (ab m):Nat):=by
   rw[aez h];exact wi ω ω
  simp only[tL,Ay,go_sem,dD hb ω,e1,e2,e3,e4,e5,e7]
structure Rd where
 neg:Bool
 m:List Nat
 e:Int
def aj(d:Rd):List AV:=[B d.neg,lm d.m,I d.e]
def af(d:Rd):AV:=.agg (aj d)
def aI:Rd:=⟨false,[],0⟩
def qU(n:Nat)(e:Int):Bool:=decide (n=0)|| (decide (n<=4096)&& (decide (-16384<=e)&& (decide (e<=16384)&&decide (n+e<=16384))))
def vd(d:Rd):Bool:=if d.m.length=0 then !d.neg&&decide (d.e=0)else decide (d.m.length<=256)&& (decide (d.m.getD 0 0%2=1)&& (decide (d.m.getD (d.m.length-1) 0≠0)&&qU (ae (ab d.m)) d.e))
theorem vQ{m}(hb:Lb m)(h1:m.length<=100000):R F.dyadic_size [lm m] []=some (I (ae (ab m)),[]):=by
 refine aB Sn rfl ?_;simp only[Ax,HU,go_sem,Gc hb h1]
theorem NO{d}(hb:Lb d.m)(h1:d.m.length<=100000):R F.dyadic_inRange [af d] []=some (B (qU (ae (ab d.m)) d.e),[]):=by
 refine aB LQ rfl ?_;unfold qU;by_cases a1:ae (ab d.m)=0
 ·have e9:=vQ hb h1;rw[a1,av7]at e9;simp only[gV,kt,af,aj,go_sem,e9,a1]
 have e1:(((ae (ab d.m)):Int)=0)=False:=ff;by_cases a2:¬ (ae (ab d.m)<=4096)
 ·have e2:(((ae (ab d.m)):Int)<=4096)=False:=ff;simp only[gV,kt,af,aj,go_sem,vQ hb h1,e1,a1,e2,a2]
 replace a2:=Decidable.not_not.1 a2
 have e2:(((ae (ab d.m)):Int)<=4096)=True:=tt;by_cases a3:¬ (-16384<=d.e)
 ·simp only[gV,kt,af,aj,go_sem,vQ hb h1,e1,a1,e2,a2,a3]
 replace a3:=Decidable.not_not.1 a3
 by_cases a4:¬ (d.e<=16384)
 ·simp only[gV,kt,af,aj,go_sem,vQ hb h1,e1,a1,e2,a2,a3,a4]
 replace a4:=Decidable.not_not.1 a4
 have e3:IntKind.i64.wrap ((ae (ab d.m):Nat)+d.e)=(ae (ab d.m):Nat)+d.e:=by grind[i64_in]
 simp only[gV,kt,af,aj,go_sem,vQ hb h1,e1,a1,e2,a2,a3,a4,e3]
def I64(n:Int):Prop:=-9223372036854775808<=n/\n<9223372036854775808
structure Ok0 (d:Rd):Prop where
 lb:Lb d.m
 len:d.m.length<4611686018427387904
theorem eE{d}(ok:Ok0 d):R F.dyadic_Valid [af d] []=some (B (vd d),[]):=by
 refine aB O0 rfl ?_;unfold vd;by_cases a0:d.m.length=0
 ·rw[if_pos a0];have e1:((d.m.length:Int)=0)=True:=tt;cases hn:d.neg with
  |true=>simp only[ij,kq,af,aj,hn,go_sem,e1]
  |false=>simp only[ij,kq,af,aj,hn,go_sem,e1]
 rw[if_neg a0];have e1:((d.m.length:Int)=0)=False:=ff;by_cases a1:¬d.m.length<=256
 ·have e2:((d.m.length:Int)<=256)=False:=ff;rw[decide_eq_false a1,avC];simp only[ij,kq,af,aj,go_sem,e1,e2]
 replace a1:=Decidable.not_not.1 a1
 have e2:((d.m.length:Int)<=256)=True:=tt;have e3:bp (aG d.m) 0=some (.ipt [U (d.m.getD 0 0)]):=cQ rfl ω;have e4:eA .rem (.v (.int .u32 (d.m.getD 0 0))) (.v (.int .u32 2))=some (.v (.int .u32 (d.m.getD 0 0%2:Nat))):=by
  simp_all[JZ,if_neg,Int.tmod_eq_emod_of_nonneg]
 rw[decide_eq_true a1,avz];by_cases a2:¬d.m.getD 0 0%2=1
 ·have e5:(((d.m.getD 0 0%2:Nat):Int)=1)=False:=ff;rw[decide_eq_false a2,avC];simp only[ij,kq,af,aj,go_sem,e1,e2,e3,e4,e5]
 replace a2:=Decidable.not_not.1 a2
 have e5:(((d.m.getD 0 0%2:Nat):Int)=1)=True:=tt;rw[decide_eq_true a2,avz];have e6:IntKind.i64.wrap (d.m.length-1)=(d.m.length-1:Nat):=wi;have e7:bp (aG d.m) (d.m.length-1:Nat)=some (.ipt [U (d.m.getD (d.m.length-1) 0)]):=cQ rfl ω;by_cases a3:d.m.getD (d.m.length-1) 0=0
 ·have e8:((d.m.getD (d.m.length-1) 0:Int)=0)=True:=tt;rw[decide_eq_false (p:=d.m.getD (d.m.length-1) 0≠0) (fun h=>h a3),avC];simp only[ij,kq,af,aj,go_sem,e1,e2,e3,e4,e5,e6,e7,e8]
 have e8:((d.m.getD (d.m.length-1) 0:Int)=0)=False:=ff;rw[decide_eq_true (p:=d.m.getD (d.m.length-1) 0≠0) a3,avz];have e9:=NO (d:=d) ok.lb ω;simp only[af,aj]at e9;simp only[ij,kq,af,aj,go_sem,e1,e2,e3,e4,e5,e6,e7,e8,e9]
theorem Po{d}(ok:Ok0 d):R F.dyadic_Sign [af d] []=some (I (if vd d=false\/d.m.length=0 then 0 else if d.neg=true then-1 else 1),[]):=by
 refine aB R9 rfl ?_;have e9:=eE ok;simp only[af,aj]at e9;cases hv:vd d with
 |false=>
  rw[hv]at e9;rw[if_pos (Or.inl rfl)];simp only[mF,sx,af,aj,go_sem,e9]
 |true=>
  rw[hv]at e9;by_cases a0:d.m.length=0
  ·have e1:((d.m.length:Int)=0)=True:=tt;rw[if_pos (Or.inr a0)];simp only[mF,sx,af,aj,go_sem,e9,e1]
  ·have e1:((d.m.length:Int)=0)=False:=ff;rw[if_neg (fun h=>h.elim (fun h=>nomatch h) a0)];cases hn:d.neg with
   |true=>
    rw[hn]at e9;simp only[mF,sx,af,aj,hn,go_sem,e9,e1]
   |false=>
    rw[hn]at e9;simp only[mF,sx,af,aj,hn,go_sem,e9,e1]
theorem Z9(m)(h2:m.length<4611686018427387904):∀ (n:Nat),n<=m.length->∀s h,s 0=lm m->s 3=I n->
  ah 0 [0,3] (av (ai R (ax false) j6) [0,3] [] s h)=some (.normal,⟨upd (upd (fun _=>.any) 3 (I (pe m n))) 0 (lm m),fun _=>.dead⟩):=by
 intro n;induction n with
 |zero=>
  intro h1 s h h3 h4;rw[ag];simp only[j6,go_sem,h3,h4,pe,av7,awf]
 |succ n ih=>
  intro h1 s h h3 h4;have hn:=h1;have e3:IntKind.i64.wrap (n+1-1)=n:=wi;have e1:=cQ rfl hn;have e2:(0< (n:Int)+1)=True:=tt;have ih':=ih ω;rw[ag];by_cases hz:m.getD n 0=0
  ·simp only[j6,go_sem,h3,h4,pe,Int.natCast_add,Int.natCast_one,e3,e1,e2,hz,av7];exact ih' _ _ rfl rfl
  ·simp only[j6,go_sem,h3,h4,pe,Int.natCast_add,Int.natCast_one,e3,e1,e2,hz,Int.natCast_eq_zero]
theorem UQ{m}(hb:Lb m)(h:m.length<4611686018427387904):R F.dyadic_trimmed [lm m] []=some (lm (au (ab m)),[]):=by
 refine aB LN rfl ?_;have h1:eS 1 (lm m) none (some (I (pe m m.length))) none=some (lm (au (ab m))):=by
  rw[UE (a:=0) (b:=pe m m.length) rfl (AM rfl (IX _ _)) (IX _ _),List.drop_zero,Nat.sub_zero,T6 hb]
 simp only[wk,DE,go_sem,Z9 m h m.length (avt _),h1]
theorem BA{e}:R F.dyadic_exponent [I e] []=some (B (decide (-32768<=e)&&decide (e<=32768)),[]):=by
 refine aB KG rfl ?_;by_cases a1:¬ (-32768<=e)
 ·simp only[oQ,wl,go_sem,a1]
 replace a1:=Decidable.not_not.1 a1
 simp only[oQ,wl,go_sem,a1]
theorem CZ{d}(hb:Lb d.m)(h1:d.m.length<=100000):R F.dyadic_checked [af d] []=some (if qU (ae (ab d.m)) d.e=true then .tup [af d,I 0]else .tup [af aI,I 9],[]):=by
 refine aB LR rfl ?_;have e9:=NO hb h1;simp only[af,aj]at e9;cases hv:qU (ae (ab d.m)) d.e with
 |false=>
  rw[hv]at e9;simp only[pJ,xA,af,aj,aI,go_sem,e9]
 |true=>
  rw[hv]at e9;simp only[pJ,xA,af,aj,go_sem,e9]
theorem aeA(h)(m):uY h 1 (lm m)=some (aG m):=aei h 1 _
theorem He{m}(h0:m≠[])(h1:m.length<=100000):R F.slices_Clone_uint32_uint32_ [lm m] []=some (lm m,[]):=by
 refine aB zU rfl ?_;have e1:JK false (lm m)=some (B false):=by
  cases m with
  |nil=>grind
  |cons x m=>rfl
 have e2:((True\/False)/\(0+m.length)*4<=140737488355328)=True:=eq_true ⟨Or.inl trivial,by omega⟩;have e3:(0+(0+m.length)<=m.length)=True:=tt;have e4:(0+m.length=m.length)=True:=tt;simp only[jA,pC,go_sem,e1,aeA,e2,e3,e4]
theorem FB:cG.E F.bits_TrailingZeros32=some tzF:=by kernel_rfl
theorem Ja{x:Nat}(h:x≠0)(hx:x<4294967296):R F.bits_TrailingZeros32 [U x] []=some (I (tz x),[]):=by
 unfold R;rw[GT FB];show(if 0< (x:Int)/\(x:Int)<4294967296/\[]=[]then some (I (QP 32 (x:Int).toNat),[])else none)=_;rw[if_pos ⟨by omega,by omega,rfl⟩,avy,ajJ 32 x h ω]
theorem aeB(m)(hb:Lb m)(h2:m.length<=100000):∀k i,i+k=m.length->ab (m.drop i)≠0->∀s h,s 6=lm m->s 7=I m.length->s 8=I i->s 3=I (32*i:Nat)->
  ah 0 [3] (av (ai R (ax false) tH) [3,6,7,8] [] s h)=some (.ret,⟨upd (fun _=>.any) 2 (I (32*i+tz (ab (m.drop i)):Nat)),fun _=>.dead⟩):=by
 intro k;induction k with
 |zero=>
  intro i hi hv;rw[avH ω]at hv;exact absurd rfl hv
 |succ k ih=>
  intro i hi hv s h h6 h7 h8 h3;have e1:((i:Int)<m.length)=True:=tt;have e2:bp (aG m) i=some (.ipt [U (m.getD i 0)]):=cQ rfl ω;have hx:=cY hb i;rw[gB]at hv;rw[ag];have e4:IntKind.i64.wrap ((32*i:Nat)+32)=(32*(i+1):Nat):=wi;have e5:IntKind.i64.wrap (i+1)=(i+1:Nat):=wi;by_cases hz:m.getD i 0=0
  ·have e3:((m.getD i 0:Int)=0)=True:=tt;have hv':ab (m.drop (i+1))≠0:=by
    omega
   have ih':=ih (i+1) ω hv';have e6:tz (ab (m.drop i))=32+tz (ab (m.drop (i+1))):=by
    rw[gB,hz,avs];exact IY 32 hv'
   have e7:32*i+tz (ab (m.drop i))=32*(i+1)+tz (ab (m.drop (i+1))):=ω
   rw[e7];simp only[tH,go_sem,h3,h6,h7,h8,e1,e2,e3,e4,e5];exact ih' _ _ rfl rfl rfl rfl
  ·have e3:((m.getD i 0:Int)=0)=False:=ff;have e6:tz (ab (m.drop i))=tz (m.getD i 0):=by
    rw[gB];exact ajI (k:=32) _ hz hx
   have e8:=agh (k:=32) hz hx;have e7:IntKind.i64.wrap ((32*i:Nat)+(tz (m.getD i 0)))=(32*i+tz (m.getD i 0):Nat):=wi;rw[e6];simp only[tH,go_sem,h3,h6,h7,h8,e1,e2,e3,Ja hz hx,e7]
theorem ajP{m}(hb:Lb m)(h1:m.length<=100000)(hv:ab m≠0):R F.dyadic_low [lm m] []=some (I (tz (ab m)),[]):=by
 refine aB Ui rfl ?_;have h3:=aeB m hb h1 m.length 0 (avs _) hv;simp only[Nat.mul_zero,avs,List.drop_zero,av7]at h3;simp only[Cf,IN,go_sem];rw[h3 _ _ rfl rfl rfl rfl];simp only[go_sem]
def aaa:Nat->Nat->List Nat
 |0,_=>[]
 |k+1,n=>if n=0 then []else n%4294967296::aaa k (n/4294967296)
theorem Xr:∀ {k n:Nat},n<4294967296^k->aaa k n=au n
 |0,n,h=>by
  have:n=0:=by simpa using h
  subst this;rw[gX];rfl
 |k+1,n,h=>by
  unfold aaa;split
  ·rename_i h0;rw[h0,gX]
  ·rename_i h0;rw[sU h0,Xr (Nat.div_lt_of_lt_mul (by rw[awb]at h;omega))]
def ajQ(neg:Bool)(M k:Nat)(e:Int):Rd:=if M%2^k=0/\M/2^k%2=1/\M/2^k<4294967296^24 then⟨neg,aaa 24 (M/2^k),e+k⟩else⟨neg,au (M/2^tz M),e+tz M⟩
def bF(neg:Bool)(M:Nat)(e:Int):Rd:=if M=0 then aI else ajQ neg M (Nat.gcd M (2^40000)).log2 e
theorem uL{neg:Bool}{M:Nat}{e:Int}:bF neg M e=if M=0 then aI else⟨neg,au (M/2^tz M),e+tz M⟩:=by
 unfold bF;split
 ·rfl
 ·generalize Nat.log2 _=k;unfold ajQ;split
  ·rename_i h0 h;obtain⟨h1,h2,h3⟩:=h;have e1:M=2^k*(M/2^k):=(Nat.mul_div_cancel' (Nat.dvd_of_mod_eq_zero h1)).symm;have e2:tz M=k:=by
    rw[e1,IY _ ω,zG h2,av1]
   rw[e2,Xr h3]
  ·rfl
def Exq(e:Int):Prop:=-1000000<=e/\e<=1000000
theorem ni{neg}{m}{e}(hb:Lb m)(h1:m.length<=256)(he:Exq e):R F.dyadic_canonical [B neg,lm m,I e] []=some (af (bF neg (ab m) e),[]):=by
 refine aB I2 rfl ?_;obtain⟨he1,he2⟩:=he;rw[uL];by_cases h0:ab m=0
 ·have hd:R F.dyadic_trimmed [lm m] []=some (lm [],[]):=by
   grind[UQ,gX]
  rw[if_pos h0];simp only[nG,uw,af,aj,aI,go_sem,hd,awd,av7]
 have hn:=fun h=>h0 (sW.1 h);have hl:0< (au (ab m)).length:=by
  grind
 have hl2:=avx (ey m hb) h1;have hdb:Lb (au (ab m)):=bH _;have e1:(((au (ab m)).length:Int)=0)=False:=ff;have ht:=agh (k:=32*256) h0 (by
  have:=eu hb;have h3:4294967296^m.length<=4294967296^256:=av8 δ h1;omega)
 have hlow:=ajP hdb ω (by grind[br]);rw[br]at hlow;have hs:=ab2 (n:=(tz (ab m))) hdb hl2;rw[if_neg ω,br,avy]at hs;have hq:au (ab m/2^tz (ab m))≠[]:=by
  intro h;have:=(AG h0).2;rw[sW.1 h]at this;omega
 have hq2:(au (ab m/2^tz (ab m))).length<=100000:=by
  have h5:(au (ab m/2^tz (ab m))).length<=m.length:=jT (awl (Nat.div_le_self _ _) (eu hb));omega
 have hc:=He hq hq2;have e2:IntKind.i64.wrap (e+(tz (ab m)))=e+(tz (ab m)):=by grind[i64_in]
 rw[if_neg h0];simp only[nG,uw,af,aj,go_sem,UQ hb (awl h1 δ),e1,hlow,hs,hc,Pm,e2]
theorem BU{d}(h:vd d=true)(h0:d.m.length≠0):d.m.length<=256/\d.m.getD 0 0%2=1/\d.m.getD (d.m.length-1) 0≠0/\qU (ae (ab d.m)) d.e=true:=by
 simp_all[vd,if_neg,avv,decide_eq_true_eq]
theorem C7{d}(h:vd d=true)(h0:d.m.length=0):d=aI:=by
 unfold vd at h;obtain⟨n,m,e⟩:=d;grind[aI]
theorem AN{n}{e}(h:qU n e=true)(h0:n≠0):n<=4096∧-16384<=e/\e<=16384/\n+e<=16384:=by
 simp_all[qU,Bool.or_eq_true,avv,decide_eq_true_eq]
theorem eY{d}(h:vd d=true)(_hb:Lb d.m):d.m.length<=256∧-16384<=d.e/\d.e<=16384/\ae (ab d.m)<=4096:=by
 by_cases h0:d.m.length=0
 ·rw[C7 h h0];exact⟨by decide,by decide,by decide,by decide⟩
 obtain⟨h1,h2,h3,h4⟩:=BU h h0;have hv:ab d.m≠0:=by
  have:=gB d.m 0;grind
 have hn:ae (ab d.m)≠0:=by
  grind[gZ]
 obtain⟨h5,h6,h7,h8⟩:=AN h4 hn;omega
def aV(d:Rd):Int:=if vd d=false\/d.m.length=0 then 0 else(ae (ab d.m))+d.e
theorem BV{d}(ok:Ok0 d):R F.dyadic_Top [af d] []=some (I (aV d),[]):=by
 refine aB Uq rfl ?_;have e9:=eE ok;simp only[af,aj]at e9;unfold aV;cases hv:vd d with
 |false=>
  rw[hv]at e9;rw[if_pos (Or.inl rfl)];simp only[sD,zf,af,aj,go_sem,e9]
 |true=>
  rw[hv]at e9;by_cases a0:d.m.length=0
  ·have e1:((d.m.length:Int)=0)=True:=tt;rw[if_pos (Or.inr a0)];simp only[sD,zf,af,aj,go_sem,e9,e1]
  ·have e1:((d.m.length:Int)=0)=False:=ff;rw[if_neg (fun h=>h.elim (fun h=>nomatch h) a0)];obtain⟨h1,h2,h3,h4⟩:=eY hv ok.lb;have e2:IntKind.i64.wrap ((ae (ab d.m):Nat)+d.e)=(ae (ab d.m):Nat)+d.e:=by grind[i64_in]
   simp only[sD,zf,af,aj,go_sem,e9,e1,vQ ok.lb (avx h1 δ),e2]
theorem Mb{d}(ok:Ok0 d):R F.dyadic_Bits [af d] []=some (I (if vd d=true then(ae (ab d.m))else 0),[]):=by
 refine aB Sk rfl ?_;have e9:=eE ok;simp only[af,aj]at e9;cases hv:vd d with
 |false=>
  rw[hv]at e9;simp only[vB,Ci,af,aj,go_sem,e9]
 |true=>
  rw[hv]at e9;obtain⟨h1,h2,h3,h4⟩:=eY hv ok.lb;simp only[vB,Ci,af,aj,go_sem,e9,vQ ok.lb (avx h1 δ)]
theorem D5{d}(ok:Ok0 d):R F.dyadic_Neg [af d] []=some (af (if vd d=false\/d.m.length=0 then aI else⟨!d.neg,d.m,d.e⟩),[]):=by
 refine aB Up rfl ?_;have e9:=eE ok;simp only[af,aj]at e9;cases hv:vd d with
 |false=>
  rw[hv]at e9;rw[if_pos (Or.inl rfl)];simp only[sA,y8,af,aj,aI,go_sem,e9]
 |true=>
  rw[hv]at e9;by_cases a0:d.m.length=0
  ·have e1:((d.m.length:Int)=0)=True:=tt;rw[if_pos (Or.inr a0)];simp only[sA,y8,af,aj,aI,go_sem,e9,e1]
  ·have e1:((d.m.length:Int)=0)=False:=ff;rw[if_neg (fun h=>h.elim (fun h=>nomatch h) a0)];obtain⟨h1,h2,h3,h4⟩:=eY hv ok.lb;have hc:=He (m:=d.m) (fun h=>a0 γ) (avx h1 δ);simp only[sA,y8,af,aj,go_sem,e9,e1,hc]
theorem NP{d}(ok:Ok0 d):R F.dyadic_Abs [af d] []=some (af (if vd d=false\/d.m.length=0 then aI else⟨false,d.m,d.e⟩),[]):=by
 refine aB Uy rfl ?_;have e9:=eE ok;simp only[af,aj]at e9;cases hv:vd d with
 |false=>
  rw[hv]at e9;rw[if_pos (Or.inl rfl)];simp only[sH,zC,af,aj,aI,go_sem,e9]
 |true=>
  rw[hv]at e9;by_cases a0:d.m.length=0
  ·have e1:((d.m.length:Int)=0)=True:=tt;rw[if_pos (Or.inr a0)];simp only[sH,zC,af,aj,aI,go_sem,e9,e1]
  ·have e1:((d.m.length:Int)=0)=False:=ff;rw[if_neg (fun h=>h.elim (fun h=>nomatch h) a0)];obtain⟨h1,h2,h3,h4⟩:=eY hv ok.lb;have hc:=He (m:=d.m) (fun h=>a0 γ) (avx h1 δ);simp only[sH,zC,af,aj,go_sem,e9,e1,hc]
theorem C0{m:List Nat}(hb:Lb m)(h1:m.length<=256){k:Nat}(hk:k<=65536)(hl:(au (ab m*2^k)).length<=256):R F.dyadic_shifted [lm m,I k] []=some (lm (au (ab m*2^k)),[]):=by
 refine aB LS rfl ?_;have hs:=ab0 (n:=(k:Nat)) hb h1;rw[if_neg ω,avy,kJ,if_neg ω]at hs;simp only[wm,DI,go_sem,hs]
theorem ag4{neg:Bool}{m:List Nat}{e:Int}(hb:Lb m)(hl:m.length<4611686018427387904):R F.dyadic_Make [B neg,lm m,I e] []=some (if 256<m.length\/e< -32768\/32768<e then .tup [af aI,I 1]
  else if qU (ae (ab (bF neg (ab m) e).m)) (bF neg (ab m) e).e=true then .tup [af (bF neg (ab m) e),I 0]else .tup [af aI,I 9],[]):=by
 refine aB Sw rfl ?_;by_cases a1:256<m.length
 ·have e1:((256:Int)<m.length)=True:=tt;rw[if_pos (Or.inl a1)];simp only[mJ,sJ,af,aj,aI,go_sem,e1]
 have e1:((256:Int)<m.length)=False:=ff;by_cases a2:e< -32768\/32768<e
 ·have e2:(decide (-32768<=e)&&decide (e<=32768))=false:=by
   grind
  rw[if_pos (Or.inr a2)];simp only[mJ,sJ,af,aj,aI,go_sem,e1,BA,e2]
 have e2:(decide (-32768<=e)&&decide (e<=32768))=true:=by
  grind
 rw[if_neg (fun h=>h.elim a1 a2)];have hc:=ni (neg:=neg) (e:=e) hb ω ⟨by omega,by omega⟩;have hL:Lb (bF neg (ab m) e).m:=by
  rw[uL];split
  ·exact fun x hx=>nomatch hx
  grind[bH]
 have hN:(bF neg (ab m) e).m.length<=100000:=by
  rw[uL];split
  ·exact av6 _
  ·have h5:(au (ab m/2^tz (ab m))).length<=m.length:=jT (awl (Nat.div_le_self _ _) (eu hb));grind
 have hd:=CZ hL hN;generalize bF neg (ab m) e=d at hc hd⊢;simp only[af,aj]at hc hd;cases hv:qU (ae (ab d.m)) d.e with
 |false=>
  rw[hv,if_neg (fun h=>nomatch h)]at hd;simp only[mJ,sJ,af,aj,aI,go_sem,e1,BA,e2,hc,hd]
 |true=>
  rw[hv,if_pos rfl]at hd;simp only[mJ,sJ,af,aj,go_sem,e1,BA,e2,hc,hd]
def mg(d:Rd):Nat:=ab d.m*2^ (d.e+16384).toNat
def zI(d:Rd):Int:=if d.neg=true then-(mg d:Int)else mg d
theorem aeC{x y k:Nat}(hk:0<k):dV (x*k) (y*k)=dV x y:=by
 simp_all[dV,Nat.mul_lt_mul_right,if_pos,if_neg]
theorem NQ{x y:Nat}(h:ae x<ae y):x<y:=by
 have h1:=(bV (n:=x) (k:=ae x)).1 (avt _);have h2:=jN.1 h;omega
theorem dJ{d:Rd}(h:vd d=true)(h0:d.m.length≠0):ab d.m≠0:=by
 obtain⟨h1,h2,h3,h4⟩:=BU h h0;have:=gB d.m 0;grind
theorem Xs{d:Rd}(h:vd d=true)(hb:Lb d.m)(h0:d.m.length≠0):(ae (mg d):Int)=aV d+16384:=by
 obtain⟨h1,h2,h3,h4⟩:=eY h hb;unfold mg aV;rw[dW _ (dJ h h0),if_neg (fun h'=>h'.elim (fun h''=>by grind) h0)];omega
theorem AO{d:Rd}{e:Int}(h1:-16384<=e)(h2:e<=d.e):mg d=ab d.m*2^ (d.e-e).toNat*2^ (e+16384).toNat:=by
 unfold mg;rw[avT,←avG];grind
theorem bg{n k:Nat}(h:ae n<=32*k):(au n).length<=k:=by
 refine jT ?_;have:=bV.1 h;grind[Nat.pow_mul]
theorem aab{a b:Rd}(oa:Ok0 a)(ob:Ok0 b)(va:vd a=true)(vb:vd b=true)(na:a.m.length≠0)(nb:b.m.length≠0):R F.dyadic_compare [af a,af b] []=some (I (dV (mg a) (mg b)),[]):=by
 refine aB LO rfl ?_;have ta:=BV oa;have tb:=BV ob;have ba:=Xs va oa.lb na;have bb:=Xs vb ob.lb nb;simp only[af,aj]at ta tb;by_cases h1:aV a<aV b
 ·have h2:dV (mg a) (mg b)=-1:=by
   rw[dV,if_pos (NQ ω)]
  have e1:(aV a<aV b)=True:=tt h1;rw[h2];simp only[lN,rC,af,aj,go_sem,ta,tb,e1]
 have e1:(aV a<aV b)=False:=ff h1;by_cases h2:aV b<aV a
 ·have h3:dV (mg a) (mg b)=1:=by
   have:=NQ (x:=mg b) (y:=mg a) ω;rw[dV,if_neg ω,if_pos this]
  have e2:(aV b<aV a)=True:=tt h2;rw[h3];simp only[lN,rC,af,aj,go_sem,ta,tb,e1,e2]
 have e2:(aV b<aV a)=False:=ff h2;obtain⟨a1,a2,a3,a4⟩:=eY va oa.lb;obtain⟨b1,b2,b3,b4⟩:=eY vb ob.lb;obtain⟨e,hm⟩:∃e,(if b.e<a.e then b.e else a.e)=e:=⟨_,rfl⟩;have hea:e<=a.e/\e<=b.e/\(e=a.e\/e=b.e):=by
  omega
 obtain⟨m1,m2,m3⟩:=hea;have ka:IntKind.i64.wrap (a.e-e)=(((a.e-e).toNat:Nat):Int):=wi;have kb:IntKind.i64.wrap (b.e-e)=(((b.e-e).toNat:Nat):Int):=wi;have hta:aV a=(ae (ab a.m):Nat)+a.e:=by
  simp_all[aV,if_neg]
 have htb:aV b=(ae (ab b.m):Nat)+b.e:=by
  simp_all[aV,if_neg]
 have la:(au (ab a.m*2^ (a.e-e).toNat)).length<=256:=bg (by
  grind[dW,dJ])
 have lb:(au (ab b.m*2^ (b.e-e).toNat)).length<=256:=bg (by
  grind[dW,dJ])
 have sa:=C0 oa.lb a1 (k:=(a.e-e).toNat) ω la;have sb:=C0 ob.lb b1 (k:=(b.e-e).toNat) ω lb;have hc:=zL (bH (ab a.m*2^ (a.e-e).toNat)) (bH (ab b.m*2^ (b.e-e).toNat)) (avx la δ) (avx lb δ);rw[br,br,←aeC (k:=2^ (e+16384).toNat) (avJ _),←AO ω m1,←AO ω m2]at hc;simp only[lN,rC,af,aj,go_sem,ta,tb,e1,e2,hm,ka,kb,sa,sb,hc]
def eJ(x y:Int):Int:=if x<y then-1 else if y<x then 1 else 0
def gb(d:Rd):Int:=if d.m.length=0 then 0 else if d.neg=true then-1 else 1
theorem Xt{d:Rd}(h0:d.m.length=0):mg d=0:=by
 unfold mg;rw[List.length_eq_zero_iff.1 h0];exact Nat.zero_mul _
theorem Gd{d:Rd}(h:vd d=true)(h0:d.m.length≠0):0<mg d:=
 Nat.mul_pos (Nat.pos_of_ne_zero (dJ h h0)) (avJ _)
theorem Mc(d:Rd)(h:vd d=true):(gb d=0/\zI d=0/\d.m.length=0)\/(gb d=-1/\zI d=-(mg d:Int)/\0<mg d/\d.m.length≠0)\/(gb d=1/\zI d=mg d/\0<mg d/\d.m.length≠0):=by
 unfold gb zI;by_cases h0:d.m.length=0
 ·grind[Xt]
 ·have:=Gd h h0;grind
theorem D6{d:Rd}(ok:Ok0 d)(hv:vd d=true):R F.dyadic_Sign [af d] []=some (I (gb d),[]):=by
 simp_all[Po,gb,if_pos,if_neg]
theorem qH{a b:Rd}(oa:Ok0 a)(ob:Ok0 b):R F.dyadic_Cmp [af a,af b] []=some (I (if vd a=true/\vd b=true then eJ (zI a) (zI b)else 0),[]):=by
 refine aB Uf rfl ?_;have va:=eE oa;have vb:=eE ob;simp only[af,aj]at va vb;cases ha:vd a with
 |false=>
  rw[ha]at va;simp only[jP,mS,af,aj,go_sem,va]
 |true=>
 rw[ha]at va;cases hb:vd b with
 |false=>
  rw[hb]at vb;simp only[jP,mS,af,aj,go_sem,va,vb]
 |true=>
 rw[hb]at vb;have sa:=D6 oa ha;have sb:=D6 ob hb;have ca:=Mc a ha;have cb:=Mc b hb;simp only[af,aj]at sa sb;by_cases h1:gb a<gb b
 ·have e1:(gb a<gb b)=True:=tt h1;have e2:eJ (zI a) (zI b)=-1:=if_pos ω;rw[e2];simp only[jP,mS,af,aj,go_sem,va,vb,sa,sb,e1]
 have e1:(gb a<gb b)=False:=ff h1;by_cases h2:gb b<gb a
 ·have e2:(gb b<gb a)=True:=tt h2;have e3:eJ (zI a) (zI b)=1:=by rw[eJ,if_neg ω,if_pos ω]
  rw[e3];simp only[jP,mS,af,aj,go_sem,va,vb,sa,sb,e1,e2]
 have e2:(gb b<gb a)=False:=ff h2;by_cases h3:gb a=0
 ·have e3:(gb a=0)=True:=tt h3;have e4:eJ (zI a) (zI b)=0:=by rw[eJ,if_neg ω,if_neg ω]
  rw[e4];simp only[jP,mS,af,aj,go_sem,va,vb,sa,sb,e1,e2,e3]
 have e3:(gb a=0)=False:=ff h3;have hc:=aab oa ob ha hb ω ω;simp only[af,aj]at hc;have e4:IntKind.i64.wrap (gb a*dV (mg a) (mg b))=eJ (zI a) (zI b):=by
  have hp:gb a*dV (mg a) (mg b)=eJ (zI a) (zI b):=by
   rcases ca with ca|ca|ca
   ·omega
   ·rw[ca.1,ca.2.1];unfold dV eJ;omega
   ·rw[ca.1,ca.2.1];unfold dV eJ;omega
  rw[hp];unfold eJ;split
  ·decide
  ·split<;>decide
 simp only[jP,mS,af,aj,go_sem,va,vb,sa,sb,e1,e2,e3,hc,e4]
theorem Jb(x y:Nat):ae (x*y)<=ae x+ae y:=by
 rw[bV,avG];exact Nat.mul_lt_mul'' (bV.1 (avt _)) (bV.1 (avt _))
theorem AP(neg:Bool)(M:Nat)(e:Int):Lb (bF neg M e).m:=by
 rw[uL];split
 ·exact fun x hx=>nomatch hx
 grind[bH]
theorem D7{neg:Bool}{M:Nat}{e:Int}{k:Nat}(h:ae M<=32*k):(bF neg M e).m.length<=k:=by
 rw[uL];split
 ·exact av6 _
 ·refine bg ?_;grind[ng]
def Hf(d:Rd):AV:=if qU (ae (ab d.m)) d.e=true then .tup [af d,I 0]else .tup [af aI,I 9]
def SH(a b:Rd):AV:=if vd a=true/\vd b=true then if a.m.length=0\/b.m.length=0 then .tup [af aI,I 0]else if 4096<ae (ab a.m)+ae (ab b.m)-1 then .tup [af aI,I 9]else Hf (bF (a.neg !=b.neg) (ab a.m*ab b.m) (a.e+b.e))else .tup [af aI,I 1]
theorem aa3(a b:Bool):(true != (a==b))=(a !=b):=by cases a<;>cases b<;>rfl
theorem ag5{a b:Rd}(oa:Ok0 a)(ob:Ok0 b):R F.dyadic_Mul [af a,af b] []=some (SH a b,[]):=by
 refine aB Uv rfl ?_;unfold SH;have va:=eE oa;have vb:=eE ob;simp only[af,aj]at va vb;cases ha:vd a with
 |false=>
  rw[ha]at va;simp only[iL,kR,af,aj,aI,go_sem,va]
 |true=>
 rw[ha]at va;cases hb:vd b with
 |false=>
  rw[hb]at vb;simp only[iL,kR,af,aj,aI,go_sem,va,vb]
 |true=>
 rw[hb]at vb;rw[if_pos ⟨rfl,rfl⟩];by_cases a0:a.m.length=0
 ·have e1:((a.m.length:Int)=0)=True:=tt;rw[if_pos (Or.inl a0)];simp only[iL,kR,af,aj,aI,go_sem,va,vb,e1]
 have e1:((a.m.length:Int)=0)=False:=ff;by_cases b0:b.m.length=0
 ·have e2:((b.m.length:Int)=0)=True:=tt;rw[if_pos (Or.inr b0)];simp only[iL,kR,af,aj,aI,go_sem,va,vb,e1,e2]
 have e2:((b.m.length:Int)=0)=False:=ff;rw[if_neg (fun h=>h.elim a0 b0)];obtain⟨a1,a2,a3,a4⟩:=eY ha oa.lb;obtain⟨b1,b2,b3,b4⟩:=eY hb ob.lb;have za:=vQ oa.lb (avx a1 δ);have zb:=vQ ob.lb (avx b1 δ);have pa:=gZ (dJ ha a0);have w1:IntKind.i64.wrap (((ae (ab a.m):Nat):Int)+(ae (ab b.m):Nat))=((ae (ab a.m)+ae (ab b.m):Nat):Int):=wi;have w2:IntKind.i64.wrap (((ae (ab a.m)+ae (ab b.m):Nat):Int)-1)=((ae (ab a.m)+ae (ab b.m)-1:Nat):Int):=wi;by_cases c0:4096<ae (ab a.m)+ae (ab b.m)-1
 ·have e3:((4096:Int)< ((ae (ab a.m)+ae (ab b.m)-1:Nat):Int))=True:=tt;rw[if_pos c0];simp only[iL,kR,af,aj,aI,go_sem,va,vb,e1,e2,za,zb,w1,w2,e3]
 have e3:((4096:Int)< ((ae (ab a.m)+ae (ab b.m)-1:Nat):Int))=False:=ff;rw[if_neg c0];have hp:=Jb (ab a.m) (ab b.m);have hl:(au (ab a.m*ab b.m)).length<=129:=bg ω;have hm:=abZ oa.lb ob.lb a1 b1;rw[kJ,if_neg ω]at hm;have w3:IntKind.i64.wrap (a.e+b.e)=a.e+b.e:=i64_in _ ⟨by omega,by omega⟩;have hc:=ni (neg:=a.neg !=b.neg) (e:=a.e+b.e) (bH (ab a.m*ab b.m)) (avx hl δ) ⟨by omega,by omega⟩;rw[br]at hc;have hd:=CZ (AP (a.neg !=b.neg) (ab a.m*ab b.m) (a.e+b.e)) (avx (D7 (k:=129) ω) δ);unfold Hf;generalize bF (a.neg !=b.neg) (ab a.m*ab b.m) (a.e+b.e)=d at hc hd⊢;simp only[af,aj]at hc hd;cases hv:qU (ae (ab d.m)) d.e with
 |false=>
  rw[hv,if_neg (fun h=>nomatch h)]at hd;rw[if_neg (fun h=>nomatch h)];simp only[iL,kR,af,aj,aI,go_sem,va,vb,e1,e2,za,zb,w1,w2,w3,e3,hm,aa3,hc,hd]
 |true=>
  rw[hv,if_pos rfl]at hd;rw[if_pos rfl];simp only[iL,kR,af,aj,go_sem,va,vb,e1,e2,za,zb,w1,w2,w3,e3,hm,aa3,hc,hd]
theorem NR{p:Int}:R F.round_precise [I p] []=some (B (decide (8<=p)&&decide (p<=512)),[]):=by
 refine aB NF rfl ?_;by_cases a1:¬ (8<=p)
 ·simp only[rI,zA,go_sem,a1]
 replace a1:=Decidable.not_not.1 a1
 simp only[rI,zA,go_sem,a1]
theorem Md{m:List Nat}(hb:Lb m):ae (ab m)<=32*m.length:=by
 rw[bV,Nat.pow_mul];exact eu hb
def wR(m:List Nat)(e:Int)(more:Bool):AV:=.agg [lm m,I e,B more]
theorem amR{d:Rd}:R F.round_of [af d] []=some (wR d.m d.e false,[]):=by
 refine aB ZY rfl ?_;simp only[Ft,Nk,af,aj,wR,go_sem]
theorem AQ{m:List Nat}(hb:Lb m)(h1:m.length<=256){k:Nat}(hk:k<=65536)(hl:(au (ab m*2^k)).length<=256):R F.round_shl [lm m,I k] []=some (lm (au (ab m*2^k)),[]):=by
 refine aB WG rfl ?_;have hs:=ab0 (n:=(k:Nat)) hb h1;rw[if_neg ω,avy,kJ,if_neg ω]at hs;simp only[DK,K8,go_sem,hs]
theorem ab4{x y:Nat}:dV x y=0↔x=y:=by
 unfold dV;constructor
 ·intro h;split at h
  ·exact nomatch h
  ·split at h
   ·exact nomatch h
   ·omega
 ·intro h;rw[if_neg ω,if_neg ω]
theorem aeD{x n:Nat}:x/2^ (min n (ae x))=x/2^n/\(x/2^ (min n (ae x))*2^ (min n (ae x))=x↔x%2^n=0):=by
 by_cases h:n<=ae x
 ·rw[awm h];refine⟨rfl,?_⟩;have:=awi x (2^n);rw[avM]at this;omega
 ·have hb:x<2^ae x:=bV.1 (avt _);have hn:x<2^n:=bV.1 ω;rw[Nat.min_eq_right ω,Nat.div_eq_of_lt hb,Nat.div_eq_of_lt hn,awh hn,Nat.zero_mul];exact⟨rfl,⟨fun h=>h.symm,fun h=>h.symm⟩⟩
theorem Xu{m:List Nat}(hb:Lb m)(h1:m.length<=256){n:Nat}(hn:n<4611686018427387904):R F.round_shr [lm m,I n] []=some (.tup [lm (au (ab m/2^n)),B (decide (ab m%2^n≠0))],[]):=by
 refine aB WI rfl ?_;have hB:=Gc hb (avx h1 δ);have hlen:=Md hb;obtain⟨q1,q2⟩:=aeD (x:=ab m) (n:=n);generalize hk:min n (ae (ab m))=k at q1 q2;have k1:k<=8192:=ω
 have hs:=ab2 (n:=(k:Nat)) hb h1;rw[if_neg ω,avy,q1]at hs;rw[q1]at q2;have hle:ab m/2^n*2^k<=ab m:=by
  rw[←q1];exact Nat.div_mul_le_self _ _
 have l1:(au (ab m/2^n)).length<=m.length:=jT (awl (Nat.div_le_self _ _) (eu hb));have l2:(au (ab m/2^n*2^k)).length<=m.length:=jT (awl hle (eu hb));have hl:=AQ (bH (ab m/2^n)) ω (k:=k) ω (by rw[br];omega);rw[br]at hl;have hc:=zL (bH (ab m/2^n*2^k)) hb ω ω;rw[br]at hc;have hz:decide (ab m%2^n≠0)=!decide (dV (ab m/2^n*2^k) (ab m)=0):=by
  rw[←decide_not,decide_eq_decide,ne_eq,not_congr (ab4.trans q2)]
 rw[hz];generalize dV (ab m/2^n*2^k) (ab m)=c at hc⊢;by_cases h:ae (ab m)<n
 ·have e2:k=ae (ab m):=ω
  have e1:((k:Int)<n)=True:=tt;rw[←e2]at hB;simp only[zB,Fu,go_sem,hB,e1,hs,hl,hc]
 ·have e1:(((ae (ab m):Nat):Int)<n)=False:=ff;have e2:k=n:=ω
  subst e2;simp only[zB,Fu,go_sem,hB,e1,hs,hl,hc]
def D8(l:List Rd):List (List AV):=l.map aj
def BW(l:List Rd):AV:=.sl 3 (D8 l)
@[go_sem] theorem as7(l:List Rd):(D8 l).length=l.length:=by simp[D8]
theorem ag6{l:List Rd}{i:Int}{n:Nat}{d:Rd}(hi:i=n)(h:l[n]?=some d):bp (D8 l) i=some (.ipt (aj d)):=by
 grind[bp,D8]
theorem aac(p:Int)(l:List Rd)(ok:∀d∈l,Ok0 d)(h2:l.length<=100000):∀ (k i:Nat),i+k=l.length->∀ (s:ak) (h:ac),s 0=I p->s 7=BW l->s 8=I l.length->s 9=I i->
  ∃hh,ah 0 [0] (av (ai R (ax false) mX) [0,7,8,9] [] s h)=if((l.drop i).all vd)=true then some (.normal,⟨upd (fun _=>.any) 0 (I p),fun _=>.dead⟩)else some (.ret,⟨upd (fun _=>.any) 4 (I 1),hh⟩):=by
 intro k;induction k with
 |zero=>
  intro i hi s h h0 h7 h8 h9;have e1:((i:Int)<l.length)=False:=ff;rw[avH ω,ag,List.all_nil,if_pos rfl];refine⟨fun _=>.dead,?_⟩;simp only[mX,go_sem,h0,h7,h8,h9,e1]
 |succ k ih=>
  intro i hi s h h0 h7 h8 h9;have hlt:i<l.length:=ω
  have e1:((i:Int)<l.length)=True:=tt;have e2:bp (D8 l) (i:Int)=some (.ipt (aj l[i])):=ag6 rfl (List.getElem?_eq_getElem hlt);have e5:IntKind.i64.wrap ((i:Int)+1)=((i+1:Nat):Int):=wi;have e3:=eE (ok l[i] (avN hlt));rw[avI hlt,avQ,ag];have ih':=ih (i+1) ω;generalize l[i]=d at e2 e3⊢;simp only[af]at e3;simp only[aj]at e2 e3;cases hv:vd d with
  |false=>
   rw[hv]at e3;refine⟨?hh,?_⟩;rotate_left;simp only[mX,go_sem,h0,h7,h8,h9,BW,e1,e2,e3];rfl
  |true=>
   rw[hv]at e3;simp only[mX,go_sem,h0,h7,h8,h9,BW,e1,e2,e3,e5];exact ih' _ _ rfl rfl rfl rfl
def aY(p:Int)(l:List Rd):Int:=if l.all vd=true then(if 8<=p/\p<=512 then 0 else 2)else 1
theorem AR{p:Int}{l:List Rd}(ok:∀d∈l,Ok0 d)(h2:l.length<=100000):R F.round_fault [I p,BW l] []=some (I (aY p l),[]):=by
 refine aB Sj rfl ?_;have h3:=aac p l ok h2 l.length 0 (avs _);simp only[List.drop_zero,av7]at h3;unfold aY;cases ha:l.all vd with
 |false=>
  rw[ha]at h3;simp only[qx,xe,go_sem,BW];rw[(h3 _ _ rfl rfl rfl rfl).choose_spec];simp only[go_sem]
 |true=>
  rw[ha]at h3;by_cases hp:8<=p/\p<=512
  ·have e1:(decide (8<=p)&&decide (p<=512))=true:=γ
   have e2:=NR (p:=p);rw[e1]at e2;rw[if_pos hp];simp only[qx,xe,go_sem,BW];rw[(h3 _ _ rfl rfl rfl rfl).choose_spec];simp only[go_sem,e2]
  ·have e1:(decide (8<=p)&&decide (p<=512))=false:=by
    grind
   have e2:=NR (p:=p);rw[e1]at e2;rw[if_neg hp];simp only[qx,xe,go_sem,BW];rw[(h3 _ _ rfl rfl rfl rfl).choose_spec];simp only[go_sem,e2]
noncomputable def acD:Cmd:=.seq (.seq (.ops [1,2,6,8,9,55] [cm 52 2,cm 53 52,cg 54 53 true (.mv (.t 10)),co 55 (.pick (.t 53) (.t 54) (.c (.v (.bool false))))]) (.cond (.t 55) (.ops [1,2,6,8,9] [cm 57 9,⟨(some 58),none,.buildSl 1 [(.v (.int .u32 0))] 1 [(0,(.c (.v (.int .u32 1))))]⟩,⟨(some 59),none,.call (.c (.fn F.natural_Add [] [])) [(.t 57),(.t 58)]⟩,cm 56 59,co 60 (.ext 0 (.t 56)),co 61 (.ext 1 (.t 56)),cm 9 60]) (.skip))) (.seq (.seq (.ops [1,2,6,8,9,66] [cm 62 9,⟨(some 63),none,.call (.c (.fn F.natural_Bits [] [])) [(.t 62)]⟩,cm 64 8,co 65 (.bin .add (.t 63) (.t 64)),co 66 (.bin .gtr (.t 65) (.c (.v (.int .i64 16384))))]) (.cond (.t 66) (.seq (.seq (.ops [1,6,67] [cm 67 2]) (.cond (.t 67) (.seq (.ops [6,7] [co 68 (.build [(.v (.bool false)),.emp,(.v (.int .i64 0))] []),⟨none,none,.store 3 (.t 6) (.t 68)⟩,co 7 (.mv (.c (.v (.int .i64 9))))]) (.ret)) (.skip))) (.seq (.ops [1,6,9] [⟨(some 70),none,.buildSl 1 [(.v (.int .u32 0))] 1 [(0,(.c (.v (.int .u32 1))))]⟩,cm 71 1,⟨(some 72),none,.call (.c (.fn F.round_shl [] [])) [(.t 70),(.t 71)]⟩,⟨(some 73),none,.buildSl 1 [(.v (.int .u32 0))] 1 [(0,(.c (.v (.int .u32 1))))]⟩,⟨(some 74),none,.call (.c (.fn F.natural_Sub [] [])) [(.t 72),(.t 73)]⟩,cm 69 74,co 75 (.ext 0 (.t 69)),co 76 (.ext 1 (.t 69)),cm 9 75]) (.ops [6,8,9] [cm 77 1,co 78 (.bin .sub (.c (.v (.int .i64 16384))) (.t 77)),cm 8 78]))) (.skip))) (.seq (.ops [6,7] [cm 79 9,cm 80 8,⟨(some 81),none,.call (.c (.fn F.dyadic_Make [] [])) [(.c (.v (.bool false))),(.t 79),(.t 80)]⟩,co 82 (.ext 0 (.t 81)),co 83 (.ext 1 (.t 81)),⟨none,none,.store 3 (.t 6) (.t 82)⟩,cm 7 83]) (.ret)))
theorem xJ:K9=.seq (.ops [1,2,3,6] [⟨(some 3),none,.box 3 (.t 0)⟩,⟨(some 6),none,.alloc [(.v (.bool false)),.emp,(.v (.int .i64 0))]⟩,co 7 (.mv (.c (.v (.int .i64 0))))]) (.seq (.dops [1,2,3,6,8] [co 13 (.fadr 1 (.t 3)),⟨(some 14),none,.load 1 false (.t 13)⟩,co 15 (.fadr 0 (.t 3)),⟨(some 16),none,.load 1 false (.t 15)⟩,⟨(some 17),none,.call (.c (.fn F.natural_Bits [] [])) [(.t 16)]⟩,co 18 (.bin .add (.t 14) (.t 17)),cm 19 1,co 20 (.bin .sub (.t 18) (.t 19)),co 21 (.mnx false (.t 20) [(.c (.v (.int .i64 (-16384))))]),cm 8 21] [(1,4)]) (.seq (.dops [1,2,3,6,8,10] [co 22 (.fadr 0 (.t 3)),⟨(some 23),none,.load 1 false (.t 22)⟩,co 24 (.fadr 2 (.t 3)),⟨(some 25),none,.load 1 false (.t 24)⟩,cm 9 23,cm 10 25] []) (.seq (.seq (.ops [1,2,3,6,8,10,29] [co 26 (.fadr 1 (.t 3)),⟨(some 27),none,.load 1 false (.t 26)⟩,cm 28 8,co 29 (.bin .geq (.t 27) (.t 28))]) (.cond (.t 29) (.ops [1,2,6,8,9,10] [co 30 (.fadr 0 (.t 3)),⟨(some 31),none,.load 1 false (.t 30)⟩,co 32 (.fadr 1 (.t 3)),⟨(some 33),none,.load 1 false (.t 32)⟩,cm 34 8,co 35 (.bin .sub (.t 33) (.t 34)),⟨(some 36),none,.call (.c (.fn F.round_shl [] [])) [(.t 31),(.t 35)]⟩,cm 9 36]) (.seq (.ops [1,2,6,8,10,11,12] [co 38 (.fadr 0 (.t 3)),⟨(some 39),none,.load 1 false (.t 38)⟩,cm 40 8,co 41 (.fadr 1 (.t 3)),⟨(some 42),none,.load 1 false (.t 41)⟩,co 43 (.bin .sub (.t 40) (.t 42)),⟨(some 44),none,.call (.c (.fn F.round_shr [] [])) [(.t 39),(.t 43)]⟩,cm 37 44,co 45 (.ext 0 (.t 37)),co 46 (.ext 1 (.t 37)),cm 11 45,cm 12 46]) (.ops [1,2,6,8,9,10] [cm 47 11,cm 48 10,cm 49 48,cg 50 49 false (.mv (.t 12)),co 51 (.pick (.t 49) (.c (.v (.bool true))) (.t 50)),cm 9 47,cm 10 51])))) acD))):=rfl
def fA(M:Nat)(e:Int)(p:Int):Int:=if e+(ae M:Nat)-p< -16384 then-16384 else e+(ae M:Nat)-p
def qI(M:Nat)(e:Int)(more:Bool)(u:Int):Nat×Bool:=if u<=e then(M*2^ (e-u).toNat,more)else(M/2^ (u-e).toNat,more||decide (M%2^ (u-e).toNat≠0))
def my(up:Bool)(q:Nat×Bool):Nat:=if(up&&q.2)=true then q.1+1 else q.1
def C1(q:Nat)(u:Int):AV:=Hf (bF false q u)
def UR(p:Int)(up:Bool)(q:Nat)(u:Int):AV:=if 16384< (ae q:Nat)+u then(if up=true then .tup [af aI,I 9]else C1 (2^p.toNat-1) (16384-p))else C1 q u
theorem Xv{q:Nat}{u:Int}(hq:ae q<=8192)(h1:-32768<=u)(h2:u<=32768):R F.dyadic_Make [B false,lm (au q),I u] []=some (C1 q u,[]):=by
 have hl:(au q).length<=256:=bg ω;rw[ag4 (bH q) (awl hl δ),if_neg ω,br];rfl
theorem ab5{q:Nat}(hq:ae q<=8000):R F.natural_Add [lm (au q),lm [1]] []=some (.tup [lm (au (q+1)),I 0],[]):=by
 have hl:(au q).length<=250:=bg ω;have h1:Lb [1]:=fun x hx=>by
  grind
 have h2:ae (q+1)<=8001:=Ma hq;have hl2:(au (q+1)).length<=256:=bg ω;rw[abS (bH q) h1 ω δ,br];show some (kJ (q+1),[])=_
 simp_all[kJ,if_neg]
theorem Xw:ab [1]=1:=rfl
theorem ab6:Lb [1]:=fun x hx=>by
 grind
theorem ajS(n:Nat)(hn:n<=1000):R F.round_shl [lm [1],I (n:Nat)] []=some (lm (au (2^n)),[])/\R F.natural_Sub [lm (au (2^n)),lm [1]] []=some (.tup [lm (au (2^n-1)),I 0],[]):=by
 have hb:ae (2^n)<=n+1:=by
  simp_all[bV,Nat.pow_lt_pow_right,Nat.lt_succ_self]
 have h1:(au (2^n)).length<=256:=bg ω;have h2:=AQ ab6 δ (k:=n) ω (by simp_all[Xw,Nat.one_mul]);have h3:=abU (bH (2^n)) ab6 h1 δ;have h4:0<2^n:=avJ n;have h5:ae (2^n-1)<=n:=by
  rw[bV];omega
 have h6:(au (2^n-1)).length<=256:=bg ω
 simp_all[br,Xw,if_neg,kJ]
theorem D9:AV.sl 1 [[AV.v (.int .u32 1)]]=lm [1]:=rfl
theorem Me{n:Nat}{u:Int}{up more:Bool}{q:Nat}(hp:8<=n/\n<=512)(hq:ae q<=7000)(hu:-16384<=u/\u<=60000)(s:ak)(z:Ob)
  (h1:s 1=I (n:Nat)) (h2:s 2=B up) (h6:s 6=.ref 6 none 0 0 0) (h8:s 8=I u) (h9:s 9=lm (au q)) (h10:s 10=B more):
  jV false [[.o 0 [],.o 2 [],.o 0 []],[]] [.cell 6 3 true,.t 7] 0 (ai R (ax false) acD s (upd (upd (fun _=>.dead) 3 z) 6 (.bx [.v (.bool false),.emp,.v (.int .i64 0)])))=some (UR (n:Nat) up (my up (q,more)) u,[]):=by
 have hi:=ab5 (q:=q) ω;obtain⟨t1,t2⟩:=ajS n ω;have hb:ae (my up (q,more))<=7001:=by
  unfold my;split
  ·exact Ma hq
  grind
 have hB:=Gc (bH (my up (q,more))) (avx (bg (k:=256) ω) δ);rw[br]at hB;have w1:IntKind.i64.wrap (((ae (my up (q,more)):Nat):Int)+u)=((ae (my up (q,more)):Nat):Int)+u:=i64_in _ ⟨by omega,by omega⟩;have w2:IntKind.i64.wrap (16384- (n:Int))=16384- (n:Int):=i64_in _ ⟨by omega,by omega⟩;have hm2:R F.dyadic_Make [B false,lm (au (2^n-1)),I (16384- (n:Int))] []=some (C1 (2^n-1) (16384- (n:Int)),[]):=Xv (aew ω) ω ω;unfold UR;by_cases ho:16384< ((ae (my up (q,more)):Nat):Int)+u
 ·have e1:(16384< ((ae (my up (q,more)):Nat):Int)+u)=True:=tt ho;rw[if_pos ho,avy];clear ho hb;cases up with
  |false=>
   simp only[my,avC,if_neg avD]at hB w1 e1⊢;unfold C1 Hf at hm2⊢;generalize bF false (2^n-1) (16384- (n:Int))=dd at hm2⊢;simp only[af,aj]at hm2;cases hv:qU (ae (ab dd.m)) dd.e with
   |true=>
    rw[hv]at hm2;rw[if_pos rfl]at hm2⊢;simp only[acD,af,aj,go_sem,h1,h2,h6,h8,h9,h10,hB,w1,e1,w2,t1,t2,D9,hm2]
   |false=>
    rw[hv]at hm2;simp only[acD,af,aj,aI,go_sem,h1,h2,h6,h8,h9,h10,hB,w1,e1,w2,t1,t2,D9,hm2]
  |true=>
   cases more with
   |false=>
    simp only[my,Bool.and_false,if_neg avD]at hB w1 e1⊢;simp only[acD,af,aj,aI,go_sem,h1,h2,h6,h8,h9,h10,hB,w1,e1]
   |true=>
    simp only[my,Bool.and_true,if_true]at hB w1 e1⊢;simp only[acD,af,aj,aI,go_sem,h1,h2,h6,h8,h9,h10,hB,w1,e1,hi,D9]
 ·have e1:(16384< ((ae (my up (q,more)):Nat):Int)+u)=False:=ff ho;rw[if_neg ho];have hm:=Xv (q:=my up (q,more)) (u:=u) ω ω ω;clear ho hb;cases up with
  |false=>
   simp only[my,avC,if_neg avD]at hB w1 e1 hm⊢;unfold C1 Hf at hm⊢;generalize bF false q u=dd at hm⊢;simp only[af,aj]at hm;cases hv:qU (ae (ab dd.m)) dd.e with
   |true=>
    rw[hv]at hm;rw[if_pos rfl]at hm⊢;simp only[acD,af,aj,go_sem,h1,h2,h6,h8,h9,h10,hB,w1,e1,hm]
   |false=>
    rw[hv]at hm;simp only[acD,af,aj,aI,go_sem,h1,h2,h6,h8,h9,h10,hB,w1,e1,hm]
  |true=>
   cases more with
   |false=>
    simp only[my,Bool.and_false,if_neg avD]at hB w1 e1 hm⊢;unfold C1 Hf at hm⊢;generalize bF false q u=dd at hm⊢;simp only[af,aj]at hm;cases hv:qU (ae (ab dd.m)) dd.e with
    |true=>
     rw[hv]at hm;rw[if_pos rfl]at hm⊢;simp only[acD,af,aj,go_sem,h1,h2,h6,h8,h9,h10,hB,w1,e1,hm]
    |false=>
     rw[hv]at hm;simp only[acD,af,aj,aI,go_sem,h1,h2,h6,h8,h9,h10,hB,w1,e1,hm]
   |true=>
    simp only[my,Bool.and_true,if_true]at hB w1 e1 hm⊢;unfold C1 Hf at hm⊢;generalize bF false (q+1) u=dd at hm⊢;simp only[af,aj]at hm;cases hv:qU (ae (ab dd.m)) dd.e with
    |true=>
     rw[hv]at hm;rw[if_pos rfl]at hm⊢;simp only[acD,af,aj,go_sem,h1,h2,h6,h8,h9,h10,hB,w1,e1,hi,D9,hm]
    |false=>
     rw[hv]at hm;simp only[acD,af,aj,aI,go_sem,h1,h2,h6,h8,h9,h10,hB,w1,e1,hi,D9,hm]
theorem ajT{M:List Nat}(hb:Lb M)(hl:M.length<=256){e:Int}{n:Nat}{more up:Bool}(he:-40000<=e/\e<=40000)(hp:8<=n/\n<=512):R F.round_cut [wR M e more,I (n:Nat),B up] []=some (UR (n:Nat) up (my up (qI (ab M) e more (fA (ab M) e (n:Nat)))) (fA (ab M) e (n:Nat)),[]):=by
 refine aB WJ rfl ?_;have hB:=Gc hb (avx hl δ);have hlen:=Md hb;have w1:IntKind.i64.wrap (e+(ae (ab M):Nat))=e+(ae (ab M):Nat):=i64_in _ ⟨by omega,by omega⟩;have w2:IntKind.i64.wrap (e+(ae (ab M):Nat)- (n:Nat))=e+(ae (ab M):Nat)- (n:Nat):=i64_in _ ⟨by omega,by omega⟩;obtain⟨u,hu⟩:∃u,fA (ab M) e (n:Nat)=u:=⟨_,rfl⟩;rw[hu];unfold fA at hu;unfold qI;by_cases hc:u<=e
 ·have e1:(u<=e)=True:=tt hc;rw[if_pos hc];have w3:IntKind.i64.wrap (e-u)=(((e-u).toNat:Nat):Int):=wi;have hq:ae (ab M*2^ (e-u).toNat)<=7000:=by
   grind[dW]
  by_cases h64:(e-u).toNat<=65536
  ·have hs:=AQ hb ω (k:=(e-u).toNat) h64 (bg ω);simp only[uE,xJ,wR,go_sem,hB,w1,w2,hu,e1,w3,hs];exact Me hp hq ω _ _ rfl rfl rfl rfl rfl rfl
  omega
 ·have e1:(u<=e)=False:=ff hc;rw[if_neg hc];have w3:IntKind.i64.wrap (u-e)=(((u-e).toNat:Nat):Int):=wi;have hs:=Xu hb ω (n:=(u-e).toNat) ω;have hq:ae (ab M/2^ (u-e).toNat)<=7000:=by
   grind[ng]
  cases more with
  |false=>
   rw[Bool.false_or];simp only[uE,xJ,wR,go_sem,hB,w1,w2,hu,e1,w3,hs];exact Me hp hq ω _ _ rfl rfl rfl rfl rfl rfl
  |true=>
   rw[Bool.true_or];simp only[uE,xJ,wR,go_sem,hB,w1,w2,hu,e1,w3,hs];exact Me hp hq ω _ _ rfl rfl rfl rfl rfl rfl
def cX(d:Rd):Rd×Int:=if qU (ae (ab d.m)) d.e=true then(d,0)else(aI,9)
def tq(p:Int)(up:Bool)(q:Nat)(u:Int):Rd×Int:=if 16384< (ae q:Nat)+u then(if up=true then(aI,9)else cX (bF false (2^p.toNat-1) (16384-p)))else cX (bF false q u)
def rV(r:Rd×Int):AV:=.tup [af r.1,I r.2]
theorem J3(d:Rd):Hf d=rV (cX d):=by
 unfold Hf cX;split<;>rfl
theorem ag7(p:Int)(up:Bool)(q:Nat)(u:Int):UR p up q u=rV (tq p up q u):=by
 unfold UR tq C1;split
 ·split
  ·rfl
  grind[J3]
 grind[J3]
theorem US(n:Nat):ae (2^n-1)<=n:=by
 rw[bV];grind
theorem ag8(p:Int)(up:Bool)(q:Nat)(u:Int):Lb (tq p up q u).1.m:=by
 have h0:Lb aI.m:=fun x hx=>nomatch hx
 grind[Lb,cX,tq,AP]
theorem aeE(p:Int)(up:Bool)(q:Nat)(u:Int)(hp:p.toNat<=8000)(hq:ae q<=8000):(tq p up q u).1.m.length<=256:=by
 have h0:aI.m.length<=256:=av6 _;have hc:∀d:Rd,d.m.length<=256->(cX d).1.m.length<=256:=fun d hd=>by
  grind[cX]
 grind[tq,D7,avx,US]
def hF(d:Rd):Rd:=if vd d=false\/d.m.length=0 then aI else⟨!d.neg,d.m,d.e⟩
def cR(M:Nat)(e:Int)(more:Bool)(p:Int)(up:Bool):Rd×Int:=tq p up (my up (qI M e more (fA M e p))) (fA M e p)
def hH(neg:Bool)(r:Rd×Int):Rd×Int:=if r.2=0/\neg=true then(hF r.1,r.2)else r
theorem ab7{M:Nat}{e:Int}{more up:Bool}{n:Nat}(hM:ae M<=8192)(hp:8<=n/\n<=512)(he:-40000<=e/\e<=40000):ae (my up (qI M e more (fA M e (n:Nat))))<=7001:=by
 have hq:ae (qI M e more (fA M e (n:Nat))).1<=7000:=by
  obtain⟨u,hu⟩:∃u,fA M e (n:Nat)=u:=⟨_,rfl⟩;rw[hu];unfold fA at hu;unfold qI;split
  ·grind[dW]
  grind[ng]
 unfold my;split
 ·exact Ma hq
 omega
theorem EW{M:List Nat}(hb:Lb M)(hl:M.length<=256){e:Int}{n:Nat}{more up neg:Bool}(he:-40000<=e/\e<=40000)(hp:8<=n/\n<=512):R F.round_signed [B neg,wR M e more,I (n:Nat),B up] []=some (rV (hH neg (cR (ab M) e more (n:Nat) (up !=neg))),[]):=by
 refine aB O8 rfl ?_;have hc:=ajT (more:=more) (up:=up !=neg) hb hl he hp;have hlen:=Md hb;have hB:=ab7 (M:=ab M) (e:=e) (more:=more) (up:=up !=neg) ω hp he;rw[ag7]at hc;have hL:=ag8 (n:Nat) (up !=neg) (my (up !=neg) (qI (ab M) e more (fA (ab M) e (n:Nat)))) (fA (ab M) e (n:Nat));have hN:=aeE (n:Nat) (up !=neg) (my (up !=neg) (qI (ab M) e more (fA (ab M) e (n:Nat)))) (fA (ab M) e (n:Nat)) ω ω;unfold cR;generalize tq (n:Nat) (up !=neg) (my (up !=neg) (qI (ab M) e more (fA (ab M) e (n:Nat)))) (fA (ab M) e (n:Nat))=r at hc hL hN⊢;obtain⟨d,x⟩:=r;have hn:=D5 (d:=d) ⟨hL,awl hN δ⟩;simp only[rV,af,aj,wR]at hc hn;unfold hH hF;by_cases hx:x=0
 ·have e1:(x=0)=True:=tt hx;cases neg with
  |false=>
   simp only[oS,vD,rV,af,aj,wR,go_sem,aa3,hc,e1]
  |true=>
   simp only[oS,vD,rV,af,aj,wR,go_sem,aa3,hc,e1,hn]
 ·have e1:(x=0)=False:=ff hx;simp only[oS,vD,rV,af,aj,wR,go_sem,aa3,hc,e1]
def sM(d:Rd)(p:Int)(up:Bool):Rd×Int:=if aY p [d]=0 then hH d.neg (cR (ab d.m) d.e false p (up !=d.neg))else(aI,aY p [d])
theorem uM{p:Int}{l:List Rd}(h:aY p l=0):l.all vd=true/\8<=p/\p<=512:=by
 unfold aY at h;split at h
 ·rename_i h1;split at h
  ·rename_i h2;exact⟨h1,h2⟩
  ·exact nomatch h
 ·exact nomatch h
theorem zN{d:Rd}(h:vd d=true)(hb:Lb d.m):d.m.length<=128:=by
 obtain⟨h1,h2,h3,h4⟩:=eY h hb;by_cases h0:d.m.length=0
 ·omega
 obtain⟨g1,g2,g3,g4⟩:=BU h h0;have h5:4294967296^ (d.m.length-1)<=ab d.m:=by
  have h6:=H1 (a:=d.m) (i:=d.m.length-1) ω;rw[show d.m.length-1+1=d.m.length by omega,List.take_length]at h6;rw[h6];exact avx (Nat.le_mul_of_pos_right _ (Nat.pos_of_ne_zero g3)) (Nat.le_add_left _ _)
 have h7:32*(d.m.length-1)<ae (ab d.m):=by
  rw[jN,Nat.pow_mul];exact h5
 omega
theorem Hg{d:Rd}(ok:Ok0 d){p:Int}{up:Bool}:R F.round_round [af d,I p,B up] []=some (rV (sM d p up),[]):=by
 refine aB Sl rfl ?_;have hf:R F.round_fault [I p,.sl 3 [[B d.neg,lm d.m,I d.e]]] []=some (I (aY p [d]),[]):=AR (p:=p) (l:=[d]) (fun x hx=>by rw[List.mem_singleton.1 hx];exact ok) (show 1<=100000 by decide);unfold sM;by_cases h0:aY p [d]=0
 ·obtain⟨v1,v2,v3⟩:=uM h0;have v4:vd d=true:=by simpa using v1
  obtain⟨h1,h2,h3,h4⟩:=eY v4 ok.lb;have h5:=zN v4 ok.lb;rw[if_pos h0];rw[h0]at hf;obtain⟨n,rfl⟩:=Int.eq_ofNat_of_zero_le (show 0<=p by omega);have hs:=EW (M:=d.m) (e:=d.e) (n:=n) (more:=false) (up:=up) (neg:=d.neg) ok.lb ω ⟨by omega,by omega⟩ ⟨by omega,by omega⟩;have ho:=amR (d:=d);generalize hH d.neg (cR (ab d.m) d.e false (n:Nat) (up !=d.neg))=r at hs⊢;simp only[rV,af,aj,wR]at hs ho;simp only[vC,Cj,rV,af,aj,go_sem,hf,hs,ho]
 ·have e1:(aY p [d]=0)=False:=ff h0;rw[if_neg h0];simp only[vC,Cj,rV,af,aj,aI,go_sem,hf,e1]
theorem ajU{d:Rd}(ok:Ok0 d){p:Int}:R F.round_Up [af d,I p] []=some (rV (sM d p true),[]):=by
 refine aB Z0 rfl ?_;have hr:=Hg ok (p:=p) (up:=true);generalize sM d p true=r at hr⊢;simp only[rV,af,aj]at hr;simp only[Fw,Nl,rV,af,aj,go_sem,hr]
theorem aeF{d:Rd}(ok:Ok0 d){p:Int}:R F.round_Down [af d,I p] []=some (rV (sM d p false),[]):=by
 refine aB Uw rfl ?_;have hr:=Hg ok (p:=p) (up:=false);generalize sM d p false=r at hr⊢;simp only[rV,af,aj]at hr;simp only[Cn,IR,rV,af,aj,go_sem,hr]
def Jc(a b:Rd)(p:Int)(up:Bool):Rd×Int:=if aY p [a,b]=0 then(if a.m.length=0\/b.m.length=0 then(aI,0)else hH (a.neg !=b.neg) (cR (ab a.m*ab b.m) (a.e+b.e) false p (up != (a.neg !=b.neg))))else(aI,aY p [a,b])
theorem Xx{a b:Rd}(oa:Ok0 a)(ob:Ok0 b){p:Int}{up:Bool}:R F.round_mul [af a,af b,I p,B up] []=some (rV (Jc a b p up),[]):=by
 refine aB WK rfl ?_;have hf:R F.round_fault [I p,.sl 3 [[B a.neg,lm a.m,I a.e],[B b.neg,lm b.m,I b.e]]] []=some (I (aY p [a,b]),[]):=AR (p:=p) (l:=[a,b]) (fun x hx=>by
  rcases List.mem_cons.1 hx with h|h
  ·rw[h];exact oa
  ·rw[List.mem_singleton.1 h];exact ob) (show 2<=100000 by decide)
 unfold Jc;by_cases h0:aY p [a,b]=0
 ·obtain⟨v1,v2,v3⟩:=uM h0;have v4:vd a=true/\vd b=true:=by simpa using v1
  obtain⟨va,vb⟩:=v4;obtain⟨a1,a2,a3,a4⟩:=eY va oa.lb;obtain⟨b1,b2,b3,b4⟩:=eY vb ob.lb;rw[if_pos h0];rw[h0]at hf;by_cases a0:a.m.length=0
  ·have e1:((a.m.length:Int)=0)=True:=tt;rw[if_pos (Or.inl a0)];simp only[qE,wQ,rV,af,aj,aI,go_sem,hf,e1]
  have e1:((a.m.length:Int)=0)=False:=ff;by_cases b0:b.m.length=0
  ·have e2:((b.m.length:Int)=0)=True:=tt;rw[if_pos (Or.inr b0)];simp only[qE,wQ,rV,af,aj,aI,go_sem,hf,e1,e2]
  have e2:((b.m.length:Int)=0)=False:=ff;rw[if_neg (fun h=>h.elim a0 b0)];obtain⟨n,rfl⟩:=Int.eq_ofNat_of_zero_le (show 0<=p by omega);have hp:=Jb (ab a.m) (ab b.m);have hl:(au (ab a.m*ab b.m)).length<=256:=bg ω;have hm:=abZ oa.lb ob.lb a1 b1;rw[kJ,if_neg ω]at hm;have w3:IntKind.i64.wrap (a.e+b.e)=a.e+b.e:=i64_in _ ⟨by omega,by omega⟩;have hs:=EW (M:=au (ab a.m*ab b.m)) (e:=a.e+b.e) (n:=n) (more:=false) (up:=up) (neg:=a.neg !=b.neg) (bH _) hl ⟨by omega,by omega⟩ ⟨by omega,by omega⟩;rw[br]at hs;generalize hH (a.neg !=b.neg) (cR (ab a.m*ab b.m) (a.e+b.e) false (n:Nat) (up != (a.neg !=b.neg)))=r at hs⊢;simp only[rV,af,aj,wR]at hs;simp only[qE,wQ,rV,af,aj,go_sem,hf,e1,e2,hm,w3,aa3,hs]
 ·have e1:(aY p [a,b]=0)=False:=ff h0;rw[if_neg h0];simp only[qE,wQ,rV,af,aj,aI,go_sem,hf,e1]
theorem aeG{a b:Rd}(oa:Ok0 a)(ob:Ok0 b){p:Int}:R F.round_MulUp [af a,af b,I p] []=some (rV (Jc a b p true),[]):=by
 refine aB sL rfl ?_;have hr:=Xx oa ob (p:=p) (up:=true);generalize Jc a b p true=r at hr⊢;simp only[rV,af,aj]at hr;simp only[Az,HV,rV,af,aj,go_sem,hr]
theorem aad{a b:Rd}(oa:Ok0 a)(ob:Ok0 b){p:Int}:R F.round_MulDown [af a,af b,I p] []=some (rV (Jc a b p false),[]):=by
 refine aB pg rfl ?_;have hr:=Xx oa ob (p:=p) (up:=false);generalize Jc a b p false=r at hr⊢;simp only[rV,af,aj]at hr;simp only[xC,EM,rV,af,aj,go_sem,hr]
theorem NS{n:Int}(hn:I64 n):R F.dyadic_Int [I n] []=some (af (bF (decide (n<0)) n.natAbs 0),[]):=by
 refine aB T9 rfl ?_;obtain⟨h1,h2⟩:=hn;obtain⟨x,hx⟩:∃x:Nat,n.natAbs=x:=⟨_,rfl⟩;have hv:ab [x%4294967296,x/4294967296]=x:=by
  show x%4294967296+4294967296*(x/4294967296+4294967296*0)=x;omega
 have hL:Lb [x%4294967296,x/4294967296]:=fun y hy=>by
  rcases List.mem_cons.1 hy with h|h
  ·omega
  ·rw[List.mem_singleton.1 h];omega
 have hc:∀neg,R F.dyadic_canonical [B neg,.sl 1 [[.v (.int .u32 ((x%4294967296:Nat):Int))],[.v (.int .u32 ((x/4294967296:Nat):Int))]],I 0] []=some (af (bF neg x 0),[]):=fun neg=>by
  have:=ni (neg:=neg) (e:=0) hL (by show 2<=256;decide) ⟨by decide,by decide⟩;rw[hv]at this;exact this
 have w2:IntKind.u32.wrap (x:Int)=((x%4294967296:Nat):Int):=Ha rfl;have w3:IntKind.u32.wrap ((x/4294967296:Nat):Int)=((x/4294967296:Nat):Int):=QQ rfl ω;have w4:eA .shr (.v (.int .u64 (x:Int))) (.v (.int .u64 32))=some (.v (.int .u64 ((x/4294967296:Nat):Int))):=Bz (k:=32) rfl rfl δ;rw[hx];by_cases h0:n<0
 ·have e1:(n<0)=True:=tt h0;have w5:IntKind.u64.wrap (0-IntKind.u64.wrap n)=(x:Int):=by
   have q:∀z:Int,IntKind.u64.wrap z=z%18446744073709551616:=fun z=>rfl;rw[q,q];omega
  have hc':=hc (decide (n<0));generalize bF (decide (n<0)) x 0=d at hc'⊢;rw[decide_eq_true h0]at hc';simp only[af,aj]at hc';simp only[wX,DA,af,aj,go_sem,e1,w2,w3,w4,w5,hc']
 ·have e1:(n<0)=False:=ff h0;have w5:IntKind.u64.wrap n=(x:Int):=iG ω ω;have hc':=hc (decide (n<0));generalize bF (decide (n<0)) x 0=d at hc'⊢;rw[decide_eq_false h0]at hc';simp only[af,aj]at hc';simp only[wX,DA,af,aj,go_sem,e1,w2,w3,w4,w5,hc']
def wB(a b:Rd)(p:Int):Int:=
 if aV a-aV b<=2 then(if b.e< (if aV a-p-8<a.e then aV a-p-8 else a.e)then b.e else(if aV a-p-8<a.e then aV a-p-8 else a.e))
 else(if aV a-p-8<a.e then aV a-p-8 else a.e)
def yZ(b:Rd)(l:Int):Nat×Bool:=if l<=b.e then(ab b.m*2^ (b.e-l).toNat,false)else(ab b.m/2^ (l-b.e).toNat,decide (ab b.m%2^ (l-b.e).toNat≠0))
def tP(y:Nat×Bool):Nat:=if y.2=true then y.1+1 else y.1
def Cv(a b:Rd)(p:Int):(Nat×Int×Bool)×Bool:=
 let l:=wB a b p
 let x:=ab a.m*2^ (a.e-l).toNat
 let y:=yZ b l
 if a.neg=b.neg then((x+y.1,l,y.2),false)
 else if x<tP y then((tP y-x,l,false),true)
 else((x-tP y,l,y.2),false)
theorem Pp{a b:Rd}{p:Int}:wB a b p<=a.e:=by
 unfold wB;have h:(if aV a-p-8<a.e then aV a-p-8 else a.e)<=a.e:=by
  split<;>omega
 generalize(if aV a-p-8<a.e then aV a-p-8 else a.e)=z at h⊢;split
 ·split<;>omega
 ·exact h
theorem jF{d:Rd}(h:vd d=true)(h0:d.m.length≠0):aV d=(ae (ab d.m):Nat)+d.e:=by
 rw[aV,if_neg (fun h'=>h'.elim (fun h''=>by rw[h]at h'';exact nomatch h'') h0)]
theorem Mf{a b:Rd}{p:Int}(va:vd a=true)(vb:vd b=true)(la:Lb a.m)(lb:Lb b.m)(na:a.m.length≠0)(nb:b.m.length≠0)(hp:8<=p/\p<=512)(ht:aV b<=aV a):
  aV a-wB a b p<=4098:=by
 obtain⟨a1,a2,a3,a4⟩:=eY va la;obtain⟨b1,b2,b3,b4⟩:=eY vb lb;have e1:=jF va na;have e2:=jF vb nb;unfold wB;have h:aV a- (if aV a-p-8<a.e then aV a-p-8 else a.e)<=4098:=by
  split<;>omega
 generalize(if aV a-p-8<a.e then aV a-p-8 else a.e)=z at h⊢;split
 ·split<;>omega
 ·exact h
noncomputable def lJ:Cmd:=.seq (.seq (.ops [6,8,9,10,11,68] [co 64 (.fadr 0 (.t 3)),⟨(some 65),none,.load 1 false (.t 64)⟩,co 66 (.fadr 0 (.t 4)),⟨(some 67),none,.load 1 false (.t 66)⟩,co 68 (.eqc false 0 (.t 65) (.t 67))]) (.cond (.t 68) (.seq (.ops [6,8,11,12] [cm 70 9,cm 71 10,⟨(some 72),none,.call (.c (.fn F.natural_Add [] [])) [(.t 70),(.t 71)]⟩,cm 69 72,co 73 (.ext 0 (.t 69)),co 74 (.ext 1 (.t 69)),cm 12 73,cm 13 74]) (.seq (.ops [6,7] [cm 75 12,cm 76 8,cm 77 11,co 78 (.build [.emp,(.v (.int .i64 0)),(.v (.bool false))] [(0,1,(.t 75)),(1,1,(.t 76)),(2,1,(.t 77))]),⟨none,none,.store 3 (.t 6) (.t 78)⟩,co 7 (.mv (.c (.v (.bool false))))]) (.ret))) (.skip))) (.seq (.seq (.ops [6,8,9,10,11,79] [cm 79 11]) (.cond (.t 79) (.ops [6,8,9,10,11] [cm 81 10,⟨(some 82),none,.buildSl 1 [(.v (.int .u32 0))] 1 [(0,(.c (.v (.int .u32 1))))]⟩,⟨(some 83),none,.call (.c (.fn F.natural_Add [] [])) [(.t 81),(.t 82)]⟩,cm 80 83,co 84 (.ext 0 (.t 80)),co 85 (.ext 1 (.t 80)),cm 10 84]) (.skip))) (.seq (.seq (.ops [6,8,9,10,11,89] [cm 86 9,cm 87 10,⟨(some 88),none,.call (.c (.fn F.natural_Cmp [] [])) [(.t 86),(.t 87)]⟩,co 89 (.bin .lss (.t 88) (.c (.v (.int .i64 0))))]) (.cond (.t 89) (.seq (.ops [6,8,14] [cm 91 10,cm 92 9,⟨(some 93),none,.call (.c (.fn F.natural_Sub [] [])) [(.t 91),(.t 92)]⟩,cm 90 93,co 94 (.ext 0 (.t 90)),co 95 (.ext 1 (.t 90)),cm 14 94,cm 15 95]) (.seq (.ops [6,7] [cm 96 14,cm 97 8,co 98 (.build [.emp,(.v (.int .i64 0)),(.v (.bool false))] [(0,1,(.t 96)),(1,1,(.t 97)),(2,1,(.c (.v (.bool false))))]),⟨none,none,.store 3 (.t 6) (.t 98)⟩,co 7 (.mv (.c (.v (.bool true))))]) (.ret))) (.skip))) (.seq (.ops [6,8,11,16] [cm 100 9,cm 101 10,⟨(some 102),none,.call (.c (.fn F.natural_Sub [] [])) [(.t 100),(.t 101)]⟩,cm 99 102,co 103 (.ext 0 (.t 99)),co 104 (.ext 1 (.t 99)),cm 16 103,cm 17 104]) (.seq (.ops [6,7] [cm 105 16,cm 106 8,cm 107 11,co 108 (.build [.emp,(.v (.int .i64 0)),(.v (.bool false))] [(0,1,(.t 105)),(1,1,(.t 106)),(2,1,(.t 107))]),⟨none,none,.store 3 (.t 6) (.t 108)⟩,co 7 (.mv (.c (.v (.bool false))))]) (.ret)))))
theorem uN:K7=.seq (.ops [2,3,4,6] [⟨(some 3),none,.box 3 (.t 0)⟩,⟨(some 4),none,.box 3 (.t 1)⟩,⟨(some 6),none,.alloc [.emp,(.v (.int .i64 0)),(.v (.bool false))]⟩,co 7 (.mv (.c (.v (.bool false))))]) (.seq (.dops [3,4,6,8] [co 18 (.fadr 2 (.t 3)),⟨(some 19),none,.load 1 false (.t 18)⟩,⟨(some 20),none,.load 3 true (.t 3)⟩,⟨(some 21),none,.call (.c (.fn F.dyadic_Top [] [])) [(.t 20)]⟩,cm 22 2,co 23 (.bin .sub (.t 21) (.t 22)),co 24 (.bin .sub (.t 23) (.c (.v (.int .i64 8)))),co 25 (.mnx true (.t 19) [(.t 24)]),cm 8 25] [(1,3)]) (.seq (.seq (.dops [3,4,6,8,31] [⟨(some 26),none,.load 3 true (.t 3)⟩,⟨(some 27),none,.call (.c (.fn F.dyadic_Top [] [])) [(.t 26)]⟩,⟨(some 28),none,.load 3 true (.t 4)⟩,⟨(some 29),none,.call (.c (.fn F.dyadic_Top [] [])) [(.t 28)]⟩,co 30 (.bin .sub (.t 27) (.t 29)),co 31 (.bin .leq (.t 30) (.c (.v (.int .i64 2))))] [(1,2)]) (.cond (.t 31) (.ops [3,4,6,8] [cm 32 8,co 33 (.fadr 2 (.t 4)),⟨(some 34),none,.load 1 false (.t 33)⟩,co 35 (.mnx true (.t 32) [(.t 34)]),cm 8 35]) (.skip))) (.seq (.ops [3,4,6,8,9] [co 36 (.fadr 1 (.t 3)),⟨(some 37),none,.load 1 false (.t 36)⟩,co 38 (.fadr 2 (.t 3)),⟨(some 39),none,.load 1 false (.t 38)⟩,cm 40 8,co 41 (.bin .sub (.t 39) (.t 40)),⟨(some 42),none,.call (.c (.fn F.round_shl [] [])) [(.t 37),(.t 41)]⟩,cm 9 42]) (.seq (.ops [3,4,6,8,9] [co 10 (.mv (.c .emp))]) (.seq (.ops [3,4,6,8,9,11] [co 11 (.mv (.c (.v (.bool false))))]) (.seq (.seq (.ops [3,4,6,8,9,11,46] [co 43 (.fadr 2 (.t 4)),⟨(some 44),none,.load 1 false (.t 43)⟩,cm 45 8,co 46 (.bin .geq (.t 44) (.t 45))]) (.cond (.t 46) (.ops [3,4,6,8,9,10,11] [co 47 (.fadr 1 (.t 4)),⟨(some 48),none,.load 1 false (.t 47)⟩,co 49 (.fadr 2 (.t 4)),⟨(some 50),none,.load 1 false (.t 49)⟩,cm 51 8,co 52 (.bin .sub (.t 50) (.t 51)),⟨(some 53),none,.call (.c (.fn F.round_shl [] [])) [(.t 48),(.t 52)]⟩,cm 10 53]) (.ops [3,4,6,8,9,10,11] [co 55 (.fadr 1 (.t 4)),⟨(some 56),none,.load 1 false (.t 55)⟩,cm 57 8,co 58 (.fadr 2 (.t 4)),⟨(some 59),none,.load 1 false (.t 58)⟩,co 60 (.bin .sub (.t 57) (.t 59)),⟨(some 61),none,.call (.c (.fn F.round_shr [] [])) [(.t 56),(.t 60)]⟩,cm 54 61,co 62 (.ext 0 (.t 54)),co 63 (.ext 1 (.t 54)),cm 10 62,cm 11 63]))) lJ)))))):=rfl
def Pq(an bn:Bool)(X Y:Nat)(l:Int)(lost:Bool):(Nat×Int×Bool)×Bool:=
 if an=bn then((X+Y,l,lost),false)else if X<tP (Y,lost)then((tP (Y,lost)-X,l,false),true)else((X-tP (Y,lost),l,lost),false)
def sV(r:(Nat×Int×Bool)×Bool):AV:=.tup [wR (au r.1.1) r.1.2.1 r.1.2.2,B r.2]
theorem Hh{x y k:Nat}(hx:ae x<=k)(hy:ae y<=k):ae (x+y)<=k+1:=by
 rw[bV]at hx hy⊢;omega
theorem Xy{x y:Nat}(hx:ae x<=5000)(hy:ae y<=5000):R F.natural_Add [lm (au x),lm (au y)] []=some (.tup [lm (au (x+y)),I 0],[]):=by
 have h1:(au x).length<=200:=bg ω;have h2:(au y).length<=200:=bg ω;have h3:=Hh hx hy;have h4:(au (x+y)).length<=200:=bg ω;rw[abS (bH x) (bH y) ω ω,br,br,kJ,if_neg ω]
theorem J4{x y:Nat}(hx:ae x<=5000)(hy:ae y<=5000)(h:y<=x):R F.natural_Sub [lm (au x),lm (au y)] []=some (.tup [lm (au (x-y)),I 0],[]):=by
 have h1:(au x).length<=200:=bg ω;have h2:(au y).length<=200:=bg ω;have h3:ae (x-y)<=5000:=by
  rw[bV]at hx⊢;omega
 have h4:(au (x-y)).length<=200:=bg ω;rw[abU (bH x) (bH y) ω ω,br,br,if_neg ω,kJ,if_neg ω]
theorem Mg{an bn:Bool}{ma mb:AV}{ea eb:AV}{X Y:Nat}{l:Int}{lost:Bool}(hX:ae X<=4100)(hY:ae Y<=4100)(s:ak)
  (h3:s 3=.ref 3 none 0 0 0) (h4:s 4=.ref 4 none 0 0 0) (h6:s 6=.ref 6 none 0 0 0) (h8:s 8=I l) (h9:s 9=lm (au X)) (h10:s 10=lm (au Y)) (h11:s 11=B lost):
  jV false [[.o 2 [],.o 0 [],.o 0 []],[]] [.cell 6 3 true,.t 7] 0 (ai R (ax false) lJ s (upd (upd (upd (fun _=>.dead) 3 (.bx [.v (.bool an),ma,ea])) 4 (.bx [.v (.bool bn),mb,eb])) 6 (.bx [.emp,.v (.int .i64 0),.v (.bool false)])))=some (sV (Pq an bn X Y l lost),[]):=by
 unfold Pq;by_cases hs:an=bn
 ·subst hs;have e1:(false != (an==an))=true:=γ
  have ha:=Xy (x:=X) (y:=Y) ω ω;simp only[lJ,sV,wR,go_sem,h3,h4,h6,h8,h9,h10,h11,e1,ha]
 ·rw[if_neg hs];have e1:(false != (an==bn))=false:=γ
  have hU:ae (tP (Y,lost))<=4101:=by
   unfold tP;split
   ·exact Hh hY (aex _)
   grind
  have hi:=ab5 (q:=Y) ω;have hc:=zL (bH X) (bH (tP (Y,lost))) (avx (bg (k:=200) ω) δ) (avx (bg (k:=200) ω) δ);rw[br,br]at hc;by_cases hx:X<tP (Y,lost)
  ·have ha:=J4 (x:=tP (Y,lost)) (y:=X) ω ω ω;rw[if_pos hx];rw[dV,if_pos hx]at hc;cases lost with
   |false=>
    simp only[tP,if_neg avD]at hc ha⊢;simp only[lJ,sV,wR,go_sem,avO,h3,h4,h6,h8,h9,h10,h11,e1,hc,ha]
   |true=>
    simp only[tP,if_true]at hc ha⊢;simp only[lJ,sV,wR,go_sem,avO,h3,h4,h6,h8,h9,h10,h11,e1,D9,hi,hc,ha]
  ·have ha:=J4 (x:=X) (y:=tP (Y,lost)) ω ω ω;rw[if_neg hx];have hd:(dV X (tP (Y,lost))<0)=False:=ff (by
    unfold dV;omega)
   cases lost with
   |false=>
    simp only[tP,if_neg avD]at hc ha hd⊢;simp only[lJ,sV,wR,go_sem,h3,h4,h6,h8,h9,h10,h11,e1,hc,hd,ha]
   |true=>
    simp only[tP,if_true]at hc ha hd⊢;simp only[lJ,sV,wR,go_sem,h3,h4,h6,h8,h9,h10,h11,e1,D9,hi,hc,hd,ha]
theorem Pr(a b:Rd)(p:Int):Cv a b p=Pq a.neg b.neg (ab a.m*2^ (a.e-wB a b p).toNat) (yZ b (wB a b p)).1 (wB a b p) (yZ b (wB a b p)).2:=rfl
theorem ajV{a b:Rd}(oa:Ok0 a)(ob:Ok0 b)(va:vd a=true)(vb:vd b=true)(na:a.m.length≠0)(nb:b.m.length≠0){p:Int}(hp:8<=p/\p<=512)(ht:aV b<=aV a):
  R F.round_sum [af a,af b,I p] []=some (sV (Cv a b p),[]):=by
 refine aB WF rfl ?_;have ta:=BV oa;have tb:=BV ob;simp only[af,aj]at ta tb;have e1:=jF va na;have e2:=jF vb nb;obtain⟨a1,a2,a3,a4⟩:=eY va oa.lb;obtain⟨b1,b2,b3,b4⟩:=eY vb ob.lb;have l1:=Pp (a:=a) (b:=b) (p:=p);have l2:=Mf va vb oa.lb ob.lb na nb hp ht;have w1:IntKind.i64.wrap (aV a-p)=aV a-p:=i64_in _ ⟨by omega,by omega⟩;have w2:IntKind.i64.wrap (aV a-p-8)=aV a-p-8:=i64_in _ ⟨by omega,by omega⟩;have w3:IntKind.i64.wrap (aV a-aV b)=aV a-aV b:=i64_in _ ⟨by omega,by omega⟩;rw[Pr];obtain⟨l,hl⟩:∃l,wB a b p=l:=⟨_,rfl⟩;rw[hl]at l1 l2⊢;unfold wB at hl;obtain⟨z,hz⟩:∃z,(if aV a-p-8<a.e then aV a-p-8 else a.e)=z:=⟨_,rfl⟩;rw[hz]at hl;have w4:IntKind.i64.wrap (a.e-l)=(((a.e-l).toNat:Nat):Int):=wi;have hX:ae (ab a.m*2^ (a.e-l).toNat)<=4100:=by
  grind[dW,dJ]
 have sX:=AQ oa.lb a1 (k:=(a.e-l).toNat) ω (bg ω);by_cases h2:aV a-aV b<=2
 ·have f1:(aV a-aV b<=2)=True:=tt h2;rw[if_pos h2]at hl;by_cases hb:l<=b.e
  ·have f2:(l<=b.e)=True:=tt hb;have w5:IntKind.i64.wrap (b.e-l)=(((b.e-l).toNat:Nat):Int):=wi;have hY:ae (ab b.m*2^ (b.e-l).toNat)<=4100:=by
    grind[dW,dJ]
   have sY:=AQ ob.lb b1 (k:=(b.e-l).toNat) ω (bg ω);rw[yZ,if_pos hb];simp only[uB,uN,af,aj,go_sem,ta,tb,w1,w2,w3,w4,w5,hz,hl,f1,f2,sX,sY];exact Mg hX hY _ rfl rfl rfl rfl rfl rfl rfl
  omega
 ·have f1:(aV a-aV b<=2)=False:=ff h2;rw[if_neg h2]at hl;by_cases hb:l<=b.e
  ·have f2:(l<=b.e)=True:=tt hb;have w5:IntKind.i64.wrap (b.e-l)=(((b.e-l).toNat:Nat):Int):=wi;have hY:ae (ab b.m*2^ (b.e-l).toNat)<=4100:=by
    grind[dW,dJ]
   have sY:=AQ ob.lb b1 (k:=(b.e-l).toNat) ω (bg ω);rw[yZ,if_pos hb];simp only[uB,uN,af,aj,go_sem,ta,tb,w1,w2,w3,w4,w5,hz,hl,f1,f2,sX,sY];exact Mg hX hY _ rfl rfl rfl rfl rfl rfl rfl
  ·have f2:(l<=b.e)=False:=ff hb;have w5:IntKind.i64.wrap (l-b.e)=(((l-b.e).toNat:Nat):Int):=wi;have hY:ae (ab b.m/2^ (l-b.e).toNat)<=4100:=by
    grind[ng]
   have sY:=Xu ob.lb b1 (n:=(l-b.e).toNat) ω;rw[yZ,if_neg hb];simp only[uB,uN,af,aj,go_sem,ta,tb,w1,w2,w3,w4,w5,hz,hl,f1,f2,sX,sY];exact Mg hX hY _ rfl rfl rfl rfl rfl rfl rfl
def UT(a b:Rd)(p:Int)(up:Bool):Rd×Int:=
 let s:=Cv a b p
 if s.1.1=0/\s.1.2.2=false then(aI,0)else hH (a.neg !=s.2) (cR s.1.1 s.1.2.1 s.1.2.2 p (up != (a.neg !=s.2)))
def Ps(a b:Rd)(p:Int)(up:Bool):Rd×Int:=
 if aY p [a,b]=0 then(if a.m.length=0 then sM b p up else if b.m.length=0 then sM a p up else if aV a<aV b then UT b a p up else UT a b p up)
 else(aI,aY p [a,b])
theorem Mh{a b:Rd}(oa:Ok0 a)(ob:Ok0 b){p:Int}{up:Bool}(h:aY p [a,b]≠0\/a.m.length=0\/b.m.length=0):R F.round_add [af a,af b,I p,B up] []=some (rV (Ps a b p up),[]):=by
 refine aB Lc rfl ?_;have hf:R F.round_fault [I p,.sl 3 [[B a.neg,lm a.m,I a.e],[B b.neg,lm b.m,I b.e]]] []=some (I (aY p [a,b]),[]):=AR (p:=p) (l:=[a,b]) (fun x hx=>by
  rcases List.mem_cons.1 hx with h|h
  ·rw[h];exact oa
  ·rw[List.mem_singleton.1 h];exact ob) (show 2<=100000 by decide)
 have ra:=Hg oa (p:=p) (up:=up);have rb:=Hg ob (p:=p) (up:=up);unfold Ps;generalize sM a p up=qa at ra⊢;generalize sM b p up=qb at rb⊢;simp only[rV,af,aj]at ra rb;by_cases h0:aY p [a,b]=0
 ·rw[if_pos h0];rw[h0]at hf;by_cases a0:a.m.length=0
  ·have e1:((a.m.length:Int)=0)=True:=tt;rw[if_pos a0];simp only[mU,wL,rV,af,aj,go_sem,hf,e1,rb]
  have e1:((a.m.length:Int)=0)=False:=ff;have b0:b.m.length=0:=(h.resolve_left (fun h'=>h' h0)).resolve_left a0;have e2:((b.m.length:Int)=0)=True:=tt;rw[if_neg a0,if_pos b0];simp only[mU,wL,rV,af,aj,go_sem,hf,e1,e2,ra]
 ·have e1:(aY p [a,b]=0)=False:=ff h0;rw[if_neg h0];simp only[mU,wL,rV,af,aj,aI,go_sem,hf,e1]
theorem aeH{N k:Nat}{f u:Int}{more:Bool}(hm:more=decide (N%2^k≠0))(hu:more=true->f+k<u):qI (N/2^k) (f+k) more u=qI N f false u:=by
 unfold qI;by_cases h:u<=f+k
 ·rw[if_pos h];have hf:more=false:=by
   grind
  subst hf;have h0:N%2^k=0:=by
   grind
  obtain⟨M,rfl⟩:=Nat.dvd_of_mod_eq_zero h0;rw[Nat.mul_div_cancel_left _ (avJ k)];by_cases h2:u<=f
  ·rw[if_pos h2,show(f+k-u).toNat=k+(f-u).toNat by omega,avG,avM (2^k) M,avT]
  ·obtain⟨j,hj⟩:∃j,(f+k-u).toNat=j:=⟨_,rfl⟩;obtain⟨i,hi⟩:∃i,(u-f).toNat=i:=⟨_,rfl⟩;have hk:k=i+j:=ω
   grind[avG,avT,Nat.mul_div_cancel_left,avJ,Nat.mul_mod_right,avM]
 ·rw[if_neg h,if_neg ω];obtain⟨j,hj⟩:∃j,(u- (f+k)).toNat=j:=⟨_,rfl⟩;rw[show(u-f).toNat=k+j by omega,hj,avG,Nat.div_div_eq_div_mul,Nat.mod_mul,hm];refine Prod.ext rfl ?_;show(decide (N%2^k≠0)||decide (N/2^k%2^j≠0))=(false||decide (N%2^k+2^k*(N/2^k%2^j)≠0));rw[Bool.false_or,←Bool.decide_or];congr 1;refine propext ⟨fun h3 h4=>?_,fun h3=>?_⟩
  ·obtain⟨h5,h6⟩:=Nat.add_eq_zero_iff.1 h4;rcases Nat.mul_eq_zero.1 h6 with h7|h7
   all_goals omega
  grind
theorem ab8{N k:Nat}{f p:Int}(hM:N/2^k≠0):fA (N/2^k) (f+k) p=fA N f p:=by
 grind[fA,ng,ae]
theorem Xz{N k:Nat}{f p:Int}{more up:Bool}(hM:N/2^k≠0)(hm:more=decide (N%2^k≠0))(hp:more=true->p< (ae (N/2^k):Nat)):cR (N/2^k) (f+k) more p up=cR N f false p up:=by
 unfold cR;have hu:more=true->f+k<fA (N/2^k) (f+k) p:=fun h=>by
  grind[fA]
 grind[aeH,ab8]
theorem Jd{M k:Nat}{f p:Int}{up:Bool}(hM:M≠0):cR (M*2^k) f false p up=cR M (f+k) false p up:=by
 have h1:M*2^k/2^k=M:=Nat.mul_div_cancel _ (avJ k);have:=Xz (N:=M*2^k) (k:=k) (f:=f) (p:=p) (more:=false) (up:=up) ω (by simp_all) (fun h=>absurd h avD);grind
def jG(z f p:Int)(up:Bool):Rd×Int:=if z=0 then(aI,0)else hH (decide (z<0)) (cR z.natAbs f false p (up !=decide (z<0)))
theorem J5{n:Nat}{f p:Int}{up neg:Bool}(h:n≠0):jG (if neg=true then-(n:Int)else n) f p up=hH neg (cR n f false p (up !=neg)):=by
 unfold jG;grind
theorem QR{z f p:Int}{k:Nat}{up:Bool}:jG (z*2^k) f p up=jG z (f+k) p up:=by
 unfold jG;by_cases h:z=0
 ·rw[h,Int.zero_mul,if_pos rfl,if_pos rfl]
 ·have h2:(0:Int)<2^k:=Int.pow_pos δ;have h3:z*2^k≠0:=fun h3=>by
   rcases Int.mul_eq_zero.1 h3 with h4|h4
   all_goals omega
  have h4:decide (z*2^k<0)=decide (z<0):=by
   congr 1;refine propext ⟨fun h5=>?_,fun h5=>Int.mul_neg_of_neg_of_pos h5 h2⟩;refine Int.not_le.1 fun h6=>?_;have:=Int.mul_nonneg h6 (Int.le_of_lt h2);omega
  simp_all[if_neg,Int.natAbs_mul,Int.natAbs_pow,Jd]
def cp(neg:Bool)(n:Nat):Int:=if neg=true then-(n:Int)else n
theorem tQ(n:Nat):cp true n=-(n:Int):=rfl
theorem rP(n:Nat):cp false n=(n:Int):=rfl
def UU(an:Bool)(p:Int)(up:Bool)(s:(Nat×Int×Bool)×Bool):Rd×Int:=if s.1.1=0/\s.1.2.2=false then(aI,0)else hH (an !=s.2) (cR s.1.1 s.1.2.1 s.1.2.2 p (up != (an !=s.2)))
theorem Hi{an:Bool}{p:Int}{up:Bool}{N K:Nat}{f:Int}{more t:Bool}(hM:N/2^K≠0)(hm:more=decide (N%2^K≠0))(hp:more=true->p< (ae (N/2^K):Nat)):
  UU an p up ((N/2^K,f+K,more),t)=jG (cp (an !=t) N) f p up:=by
 have h0:N≠0:=fun h=>by
  simp_all
 unfold cp;rw[J5 h0,UU,if_neg (fun h=>hM h.1)];grind[Xz]
theorem aeI{x Y K:Nat}{f p:Int}{up an bn:Bool}(hx:x≠0)(hlost:Y%2^K≠0->p< (ae (x- (Y/2^K+1)):Nat)/\p< (ae (x+Y/2^K):Nat)/\Y/2^K+1<x):
  UU an p up (Pq an bn x (Y/2^K) (f+K) (decide (Y%2^K≠0)))=jG (cp an (x*2^K)+cp bn Y) f p up:=by
 have h2:=avJ K;have hd:=awi Y (2^K);have hlt:=av3 Y h2;unfold Pq;by_cases hs:an=bn
 ·subst hs;rw[if_pos rfl];have e1:x+Y/2^K=(x*2^K+Y)/2^K:=by
   grind[avM,Nat.mul_add_div]
  have e2:(x*2^K+Y) %2^K=Y%2^K:=by
   simp_all
  have e3:cp an (x*2^K)+cp an Y=cp (an !=false) (x*2^K+Y):=by
   grind[cp,tQ]
  rw[e3,e1,Hi]
  all_goals grind
 ·have hbn:bn=!an:=by
   cases an<;>cases bn<;>first|rfl|exact absurd rfl hs
  subst hbn;rw[if_neg hs];by_cases hl:Y%2^K≠0
  ·obtain⟨g1,g2,g3⟩:=hlost hl;have e0:tP (Y/2^K,decide (Y%2^K≠0))=Y/2^K+1:=by
    simp_all[tP,if_pos,decide_eq_true]
   rw[e0,if_neg ω];obtain⟨y,hy⟩:∃y,Y/2^K=y:=⟨_,rfl⟩;rw[hy]at hd g1 g2 g3⊢;have e1:(x- (y+1))*2^K+(2^K-Y%2^K)=x*2^K-Y:=by
    have e4:(x- (y+1))*2^K=x*2^K- (2^K*y+2^K):=by
     rw[Nat.sub_mul,avP,Nat.one_mul,avM y]
    have e5:2^K*y+2^K<=x*2^K:=by
     have:(y+1)*2^K<=x*2^K:=avA _ ω;grind
    omega
   have e6:(x*2^K-Y)/2^K=x- (y+1):=by
    rw[←e1,avM (x- (y+1)),Nat.mul_add_div h2,Nat.div_eq_of_lt ω];rfl
   have e7:(x*2^K-Y) %2^K=2^K-Y%2^K:=by
    rw[←e1,avM (x- (y+1)),Nat.mul_add_mod,awh ω]
   have e3:cp an (x*2^K)+cp (!an) Y=cp (an !=false) (x*2^K-Y):=by
    grind[cp,tQ,rP]
   grind[Hi,decide_eq_true]
  ·have hl0:Y%2^K=0:=ω
   have e0:tP (Y/2^K,decide (Y%2^K≠0))=Y/2^K:=by
    simp_all[tP,if_neg,of_decide_eq_true]
   rw[e0,hl0,show decide ((0:Nat)≠0)=false from rfl];rw[hl0,av1]at hd;obtain⟨y,hy⟩:∃y,Y/2^K=y:=⟨_,rfl⟩;rw[hy]at hd⊢;subst hd;by_cases hxy:x<y
   ·rw[if_pos hxy];have e6:((y-x)*2^K)/2^K=y-x:=Nat.mul_div_cancel _ h2;have e3:cp an (x*2^K)+cp (!an) (2^K*y)=cp (an !=true) ((y-x)*2^K):=by
     grind[cp,tQ,rP]
    rw[e3];have:=Hi (an:=an) (p:=p) (up:=up) (N:=(y-x)*2^K) (K:=K) (f:=f) (more:=false) (t:=true) ω (by simp_all) (fun h=>absurd h avD);grind
   ·rw[if_neg hxy];by_cases hE:x=y
    ·subst hE;have e3:cp an (x*2^K)+cp (!an) (2^K*x)=0:=by
      grind[cp,tQ,rP]
     simp_all[UU,if_pos,Nat.sub_self,jG]
    ·have e6:((x-y)*2^K)/2^K=x-y:=Nat.mul_div_cancel _ h2;have e3:cp an (x*2^K)+cp (!an) (2^K*y)=cp (an !=false) ((x-y)*2^K):=by
      grind[cp,tQ,rP]
     rw[e3];have:=Hi (an:=an) (p:=p) (up:=up) (N:=(x-y)*2^K) (K:=K) (f:=f) (more:=false) (t:=false) ω (by simp_all) (fun h=>absurd h avD);grind
theorem amS{b:Rd}{l:Int}(h1:-40000<=l)(h2:-40000<=b.e):yZ b l=(ab b.m*2^ (b.e+40000).toNat/2^ (l+40000).toNat,decide (ab b.m*2^ (b.e+40000).toNat%2^ (l+40000).toNat≠0)):=by
 unfold yZ;by_cases h:l<=b.e
 ·rw[if_pos h,show(b.e+40000).toNat=(b.e-l).toNat+(l+40000).toNat by omega,avG,←avT,Nat.mul_div_cancel _ (avJ _),Nat.mul_mod_left];rfl
 ·have h3:=avJ (b.e+40000).toNat;rw[if_neg h,show(l+40000).toNat=(l-b.e).toNat+(b.e+40000).toNat by omega,avG,Nat.mul_div_mul_right _ _ h3,Nat.mul_mod_mul_right];refine Prod.ext rfl ?_;show decide _=decide _;congr 1;refine propext ⟨fun h4 h5=>?_,fun h4 h5=>h4 ?_⟩
  ·rcases Nat.mul_eq_zero.1 h5 with h6|h6
   all_goals omega
  grind
theorem UV{d:Rd}{k:Nat}(h:-16384<=d.e)(n:Nat)(hn:n=(d.e+16384).toNat+k):zI d*2^k=cp d.neg (ab d.m*2^n):=by
 have h1:(mg d:Int)*2^k=((ab d.m*2^ ((d.e+16384).toNat+k):Nat):Int):=by
  unfold mg;grind
 unfold zI cp;grind
theorem ab9{a b:Rd}{p:Int}(h:b.e<wB a b p):2<aV a-aV b/\wB a b p<=aV a-p-8:=by
 unfold wB at h⊢;omega
theorem XA{a b:Rd}(oa:Ok0 a)(ob:Ok0 b)(va:vd a=true)(vb:vd b=true)(na:a.m.length≠0)(nb:b.m.length≠0){p:Int}{up:Bool}(hp:8<=p/\p<=512)(ht:aV b<=aV a):
  UT a b p up=jG (zI a+zI b) (-16384) p up:=by
 have e1:=jF va na;have e2:=jF vb nb;obtain⟨a1,a2,a3,a4⟩:=eY va oa.lb;obtain⟨b1,b2,b3,b4⟩:=eY vb ob.lb;have l1:=Pp (a:=a) (b:=b) (p:=p);have l2:=Mf va vb oa.lb ob.lb na nb hp ht;have l3:=ab9 (a:=a) (b:=b) (p:=p);show UU a.neg p up (Cv a b p)=_;rw[Pr];obtain⟨l,hl⟩:∃l,wB a b p=l:=⟨_,rfl⟩;rw[hl]at l1 l2 l3⊢;obtain⟨K,hK⟩:∃K,(l+40000).toNat=K:=⟨_,rfl⟩;obtain⟨n1,hn1⟩:∃n,(a.e-l).toNat=n:=⟨_,rfl⟩;obtain⟨n2,hn2⟩:∃n,(b.e+40000).toNat=n:=⟨_,rfl⟩;have hx:ab a.m*2^n1≠0:=Nat.mul_ne_zero (dJ va na) (Nat.pos_iff_ne_zero.1 (avJ _));rw[amS ω ω,hK,hn1,hn2];have bx:ae (ab a.m*2^n1)=ae (ab a.m)+n1:=dW _ (dJ va na);have by':ae (ab b.m*2^n2/2^K)=ae (ab b.m)+n2-K:=by grind[ng,dW,dJ]
 have hlK:l=-40000+(K:Int):=ω
 rw[hlK,aeI hx]
 ·obtain⟨k,hk⟩:∃k:Nat,k=23616:=⟨_,rfl⟩;rw[avT,←avG,←UV (k:=k) a2 (n1+K) ω,←UV (k:=k) b2 n2 ω,←Int.add_mul,QR,show(-40000:Int)+(k:Nat)=-16384 by omega]
 ·intro hne;have hb:b.e<l:=by
   refine Int.not_le.1 fun h=>hne ?_;rw[show n2=(b.e-l).toNat+K by omega,avG,←avT,Nat.mul_mod_left]
  obtain⟨X,hX⟩:∃X,ab a.m*2^n1=X:=⟨_,rfl⟩;obtain⟨Y,hY⟩:∃Y,ab b.m*2^n2/2^K=Y:=⟨_,rfl⟩;rw[hX]at bx⊢;rw[hY]at by'⊢;obtain⟨t,hT⟩:∃t,ae X=t+4:=⟨ae X-4,by omega⟩;have hX2:2^ (t+3)<=X:=jN.1 ω;have hY2:Y<2^ (t+1):=bV.1 ω;have q1:2^ (t+3)=4*2^ (t+1):=γ
  have q2:2^ (t+2)=2*2^ (t+1):=γ
  have g3:t+2<ae (X- (Y+1)):=jN.2 ω;have g4:t+3<ae (X+Y):=jN.2 ω;omega
def dt(a b:Rd)(p:Int)(up:Bool):Rd×Int:=if aY p [a,b]=0 then jG (zI a+zI b) (-16384) p up else(aI,aY p [a,b])
def fK(a b:Rd)(p:Int)(up:Bool):Rd×Int:=if aY p [a,b]=0 then jG (zI a*zI b) (-32768) p up else(aI,aY p [a,b])
theorem du{d:Rd}(h:d.m.length=0):zI d=0:=by
 grind[zI,Xt]
theorem ag9{p:Int}{up:Bool}(hp:8<=p/\p<=512):cR 0 0 false p up=(aI,0):=by
 have hu:-600<=fA 0 0 p/\fA 0 0 p<=0:=by
  grind[fA,yc]
 unfold cR;obtain⟨u,he⟩:∃u,fA 0 0 p=u:=⟨_,rfl⟩;rw[he]at hu⊢;have hq:my up (qI 0 0 false u)=0:=by
  simp_all[qI,my,if_pos,Nat.zero_mul,Bool.and_false,if_neg,avD]
 unfold tq;rw[hq,yc,if_neg ω];rw[uL];unfold cX;rw[if_pos rfl,if_pos δ]
theorem EX{d:Rd}(ok:Ok0 d){p:Int}{up:Bool}:sM d p up=if aY p [d]=0 then jG (zI d) (-16384) p up else(aI,aY p [d]):=by
 unfold sM;by_cases h0:aY p [d]=0
 ·obtain⟨v1,v2,v3⟩:=uM h0;have v4:vd d=true:=γ
  obtain⟨h1,h2,h3,h4⟩:=eY v4 ok.lb;rw[if_pos h0,if_pos h0];by_cases hd:d.m.length=0
  ·have hz:=C7 v4 hd;subst hz;rw[du rfl,jG,if_pos rfl];show hH false (cR 0 0 false p (up !=false))=_;rw[ag9 ⟨v2,v3⟩];rfl
  ·have hm:=Gd v4 hd;unfold zI;rw[J5 ω];grind[mg,Jd]
 grind
theorem aha{a b:Rd}(oa:Ok0 a)(ob:Ok0 b){p:Int}{up:Bool}:Ps a b p up=dt a b p up:=by
 unfold Ps dt;by_cases h0:aY p [a,b]=0
 ·obtain⟨v1,hp⟩:=uM h0;have v4:vd a=true/\vd b=true:=γ
  have f1:∀d,vd d=true->aY p [d]=0:=fun d hd=>by
   simp_all[aY,if_pos]
  by_cases a0:a.m.length=0
  ·rw[if_pos a0,EX ob,if_pos (f1 b v4.2),du a0,Int.zero_add]
  rw[if_neg a0];by_cases b0:b.m.length=0
  ·rw[if_pos b0,EX oa,if_pos (f1 a v4.1),du b0,Int.add_zero]
  rw[if_neg b0];by_cases ht:aV a<aV b
  ·rw[if_pos ht,XA ob oa v4.2 v4.1 b0 a0 hp ω,Int.add_comm]
  simp_all[if_neg,XA]
 grind
theorem XB{a b:Rd}(oa:Ok0 a)(ob:Ok0 b){p:Int}{up:Bool}:Jc a b p up=fK a b p up:=by
 unfold Jc fK;by_cases h0:aY p [a,b]=0
 ·obtain⟨v1,hp⟩:=uM h0;have v4:vd a=true/\vd b=true:=γ
  obtain⟨va,vb⟩:=v4;obtain⟨a1,a2,a3,a4⟩:=eY va oa.lb;obtain⟨b1,b2,b3,b4⟩:=eY vb ob.lb;by_cases a0:a.m.length=0
  ·rw[if_pos (Or.inl a0),du a0,Int.zero_mul,jG,if_pos rfl]
  by_cases b0:b.m.length=0
  ·rw[if_pos (Or.inr b0),du b0,Int.mul_zero,jG,if_pos rfl]
  have hz:zI a*zI b=cp (a.neg !=b.neg) (mg a*mg b):=by
   unfold zI cp;cases a.neg<;>cases b.neg<;>simp[Int.mul_neg,Int.neg_mul]
  have hm:mg a*mg b=ab a.m*ab b.m*2^ ((a.e+16384).toNat+(b.e+16384).toNat):=by
   grind[mg,avG]
  have hv:ab a.m*ab b.m≠0:=Nat.mul_ne_zero (dJ va a0) (dJ vb b0);rw[hz];unfold cp;rw[J5 (Nat.mul_ne_zero (Nat.pos_iff_ne_zero.1 (Gd va a0)) (Nat.pos_iff_ne_zero.1 (Gd vb b0))),hm,Jd hv];grind
 grind
theorem nj{neg:Bool}{M:Nat}{e:Int}(h:M≠0):bF neg M e=⟨neg,au (M/2^tz M),e+tz M⟩:=by
 simp_all[uL,if_neg]
theorem mA{neg:Bool}{e:Int}:bF neg 0 e=aI:=by
 simp_all[uL,if_pos]
theorem kK{neg:Bool}{M k:Nat}{e:Int}:bF neg (M*2^k) e=bF neg M (e+k):=by
 by_cases h:M=0
 ·rw[h,Nat.zero_mul,mA,mA]
 ·have h2:M*2^k≠0:=Nat.mul_ne_zero h (Nat.pos_iff_ne_zero.1 (avJ k));rw[nj h,nj h2,avM M,IY k h,avG,Nat.mul_div_mul_left _ _ (avJ k)];grind
theorem xK{neg:Bool}{M:Nat}{e:Int}(h:M≠0):ab (bF neg M e).m=M/2^tz M/\(bF neg M e).e=e+tz M/\M/2^tz M%2=1/\ae (M/2^tz M)+tz M=ae M:=by
 grind[AG,nj,br,dW,tz,avM]
theorem UW{neg:Bool}{M:Nat}{e:Int}(h:M≠0)(h1:ae M<=4096)(h2:-16384<=e)(h3:(ae M:Nat)+e<=16384):qU (ae (ab (bF neg M e).m)) (bF neg M e).e=true:=by
 grind[xK,ae,tz,gZ,qU,decide_eq_true]
theorem J6{neg:Bool}{M:Nat}{e:Int}(h:qU (ae (ab (bF neg M e).m)) (bF neg M e).e=true):vd (bF neg M e)=true:=by
 by_cases h0:M=0
 ·subst h0;rfl
 ·obtain⟨g1,g2,g3,g4⟩:=xK (neg:=neg) (e:=e) h0;have hn:M/2^tz M≠0:=ω
  rw[g1]at h;have hb:=(AN h (Nat.pos_iff_ne_zero.1 (gZ hn))).1;rw[nj h0]at h⊢;unfold vd;have hl:(au (M/2^tz M)).length<=128:=bg ω;have hl0:(au (M/2^tz M)).length≠0:=fun h5=>hn (sW.1 (List.length_eq_zero_iff.1 h5));have ht:(au (M/2^tz M)).getD ((au (M/2^tz M)).length-1) 0≠0:=(abH _).resolve_left (fun h5=>hn (sW.1 h5));have ho:(au (M/2^tz M)).getD 0 0%2=1:=by
   grind[sU,tz]
  rw[br,if_neg hl0,decide_eq_true (p:=(au (M/2^tz M)).length<=256) ω,decide_eq_true ho,decide_eq_true ht];grind
theorem Hj{neg:Bool}{M:Nat}{e:Int}(h1:ae M<=4096)(h2:-16384<=e)(h3:(ae M:Nat)+e<=16384):cX (bF neg M e)=(bF neg M e,0):=by
 unfold cX;by_cases h:M=0
 ·subst h;rw[mA,if_pos δ]
 simp_all[if_pos,UW]
theorem aeJ{M:Nat}{e:Int}(h1:ae M<=4096)(h2:-16384<=e)(h3:(ae M:Nat)+e<=16384):hF (bF false M e)=bF true M e:=by
 by_cases h:M=0
 ·subst h;rfl
 ·have hv:=J6 (UW (neg:=false) h h1 h2 h3);obtain⟨g1,g2,g3,g4⟩:=xK (neg:=false) (e:=e) h;unfold hF;rw[if_neg]
  ·grind[nj]
  ·grind[ab]
theorem XC{neg:Bool}{M:Nat}{e:Int}(h1:ae M<=4096)(h2:-16384<=e)(h3:(ae M:Nat)+e<=16384):hH neg (cX (bF false M e))=(bF neg M e,0):=by
 rw[Hj h1 h2 h3];unfold hH;cases neg with
 |false=>rw[if_neg (fun h=>avD h.2)]
 |true=>
  grind[aeJ]
def Je(M:Nat)(e p:Int):Nat:=(max (max ((ae M:Nat)-p) (0-16384-e)) 0).toNat
def Pt(M k:Nat)(more out:Bool):Nat:=if((more||decide (M%2^k≠0))&&out)=true then M/2^k+1 else M/2^k
def AS(neg out:Bool)(p:Int)(q:Nat)(e:Int):Rd×Int:=if q≠0/\16384< (ae q:Nat)+e then(if out=true then(aI,9)else(bF neg (2^p.toNat-1) (16384-p),0))else(bF neg q e,0)
def Ea(neg:Bool)(M:Nat)(e:Int)(more:Bool)(p:Int)(up:Bool):Rd×Int:=AS neg (neg !=up) p (Pt M (Je M e p) more (neg !=up)) (e+Je M e p)
theorem UX{p:Int}{neg up:Bool}{q:Nat}{u:Int}(hp:8<=p/\p<=512)(hq:ae q<=4096)(hu:-16384<=u)(h0:q=0->u<=16384):hH neg (tq p up q u)=AS neg up p q u:=by
 unfold tq AS;by_cases h:16384< ((ae q:Nat):Int)+u
 ·have hq0:q≠0:=fun h1=>by
   grind[yc]
  cases up with
  |true=>
   simp_all[hH,if_neg]
  |false=>
   grind[US,XC]
 simp_all[if_neg,XC]
theorem aae{neg out:Bool}{p:Int}{M k:Nat}{e:Int}:AS neg out p (M*2^k) e=AS neg out p M (e+k):=by
 unfold AS;rw[kK];grind[Nat.mul_ne_zero,avJ,ae,dW]
theorem QS(q:Nat):ae (q+1)<=ae q+1:=by
 rw[bV,awb];have:=bV.1 (avt (ae q));omega
theorem aca{neg:Bool}{M:Nat}{e p:Int}{more up:Bool}(hp:8<=p/\p<=512)(hM:M≠0)(hm:more=true->p< (ae M:Nat)):Ea neg M e more p up=hH neg (cR M e more p (up !=neg)):=by
 have hx:(neg !=up)=(up !=neg):=γ
 unfold Ea;rw[hx];unfold cR;obtain⟨u,hu⟩:∃u,fA M e p=u:=⟨_,rfl⟩;obtain⟨k,hk⟩:∃k,Je M e p=k:=⟨_,rfl⟩;rw[hu,hk];unfold fA at hu;unfold Je at hk;have hu1:-16384<=u/\e+(ae M:Nat)-p<=u:=by
  omega
 by_cases hc:u<=e
 ·have hk0:k=0:=by
   omega
  have hmf:more=false:=by
   grind
  subst hk0;subst hmf;unfold qI Pt;rw[if_pos hc,Nat.pow_zero,Nat.mod_one,show(false||decide ((0:Nat)≠0))=false from rfl,avC,if_neg avD,Nat.div_one];unfold my;rw[Bool.and_false,if_neg avD];have hq:=dW (e-u).toNat hM;rw[UX hp ω hu1.1 (fun h=>absurd (Nat.mul_eq_zero.1 h) (fun h2=>h2.elim hM (fun h3=>absurd h3 (Nat.pos_iff_ne_zero.1 (avJ _)))))];grind[aae]
 ·have hk0:k=(u-e).toNat:=by
   omega
  unfold qI Pt;rw[if_neg hc,←hk0];have hq:ae (M/2^k)<=513:=by
   grind[ng]
  have hq2:=QS (M/2^k);have h3:my (up !=neg) (M/2^k,more||decide (M%2^k≠0))=if((more||decide (M%2^k≠0))&& (up !=neg))=true then M/2^k+1 else M/2^k:=by
   grind[my,Bool.and_comm]
  rw[h3];rw[UX hp (by split<;>omega) hu1.1]
  ·rw[show e+(k:Int)=u by omega]
  ·grind[ae,ng]
theorem NT{neg:Bool}{M:Nat}{e p:Int}{up:Bool}(hp:8<=p/\p<=512):Ea neg M e false p up=jG (cp neg M) e p up:=by
 by_cases hM:M=0
 ·simp_all[cp,jG,if_pos,Ea,Pt,AS,Nat.zero_mod,Nat.zero_div,avC,if_neg,avD,mA]
 simp_all[aca,absurd,avD,cp,J5]
theorem acb{M:Nat}{f p:Int}{more w neg:Bool}:vd (hH neg (cR M f more p w)).1=true/\Ok0 (hH neg (cR M f more p w)).1:=by
 have h0:vd aI=true/\Ok0 aI:=⟨rfl,⟨fun x hx=>(nomatch hx),by decide⟩⟩;have hc:∀ (q:Nat) (u:Int),vd (cX (bF false q u)).1=true/\Ok0 (cX (bF false q u)).1:=fun q u=>by
  unfold cX;by_cases h:qU (ae (ab (bF false q u).m)) (bF false q u).e=true
  ·rw[if_pos h];have hv:=J6 h;have hb:=AP false q u;exact⟨hv,hb,awl (zN hv hb) δ⟩
  grind
 have he:∀ (up:Bool) (q:Nat) (u:Int),vd (tq p up q u).1=true/\Ok0 (tq p up q u).1:=fun up q u=>by
  grind[tq]
 have hs:∀ (neg:Bool) (r:Rd×Int),(vd r.1=true/\Ok0 r.1)->vd (hH neg r).1=true/\Ok0 (hH neg r).1:=fun neg r hr=>by
  unfold hH hF;split
  ·split
   ·omega
   ·refine⟨?_,hr.2.1,hr.2.2⟩
    simp_all[vd,if_neg]
  omega
 exact hs _ _ (he _ _ _)
theorem sN{z f p:Int}{up:Bool}:vd (jG z f p up).1=true/\Ok0 (jG z f p up).1:=by
 unfold jG;split
 ·exact⟨rfl,⟨fun x hx=>(nomatch hx),by decide⟩⟩
 ·exact acb
noncomputable def sO:Cmd:=.seq (.ops [2,3,4,8,11,12] [⟨(some 52),none,.load 3 true (.t 4)⟩,⟨(some 53),none,.load 3 true (.t 5)⟩,cm 54 2,⟨(some 55),none,.call (.c (.fn F.round_sum [] [])) [(.t 52),(.t 53),(.t 54)]⟩,cm 51 55,co 56 (.ext 0 (.t 51)),co 57 (.ext 1 (.t 51)),⟨(some 11),none,.alloc [.emp,(.v (.int .i64 0)),(.v (.bool false))]⟩,⟨none,none,.store 3 (.t 11) (.t 56)⟩,cm 12 57]) (.seq (.seq (.ops [2,3,4,8,11,12,66] [co 58 (.fadr 0 (.t 11)),⟨(some 59),none,.load 1 false (.t 58)⟩,co 60 (.len false (.t 59)),co 61 (.bin .eql (.t 60) (.c (.v (.int .i64 0)))),cm 62 61,cg 63 62 true (.fadr 2 (.t 11)),⟨(some 64),(some (62,true)),.load 1 false (.t 63)⟩,cg 65 62 true (.un .not (.t 64)),co 66 (.pick (.t 62) (.t 65) (.c (.v (.bool false))))]) (.cond (.t 66) (.seq (.ops [8,9] [co 67 (.build [(.v (.bool false)),.emp,(.v (.int .i64 0))] []),⟨none,none,.store 3 (.t 8) (.t 67)⟩,co 9 (.mv (.c (.v (.int .i64 0))))]) (.ret)) (.skip))) (.seq (.ops [8,9] [co 68 (.fadr 0 (.t 4)),⟨(some 69),none,.load 1 false (.t 68)⟩,cm 70 12,co 71 (.eqc true 0 (.t 69) (.t 70)),⟨(some 72),none,.load 3 true (.t 11)⟩,cm 73 2,cm 74 3,⟨(some 75),none,.call (.c (.fn F.round_signed [] [])) [(.t 71),(.t 72),(.t 73),(.t 74)]⟩,co 76 (.ext 0 (.t 75)),co 77 (.ext 1 (.t 75)),⟨none,none,.store 3 (.t 8) (.t 76)⟩,cm 9 77]) (.ret)))
theorem BX:wL=.seq (.ops [2,3,4,5,8] [⟨(some 4),none,.box 3 (.t 0)⟩,⟨(some 5),none,.box 3 (.t 1)⟩,⟨(some 8),none,.alloc [(.v (.bool false)),.emp,(.v (.int .i64 0))]⟩,co 9 (.mv (.c (.v (.int .i64 0))))]) (.seq (.seq (.ops [2,3,4,5,8,10] [cm 13 2,⟨(some 14),none,.load 3 true (.t 4)⟩,⟨(some 15),none,.load 3 true (.t 5)⟩,⟨(some 16),none,.buildSl 3 [(.v (.bool false)),.emp,(.v (.int .i64 0))] 2 [(0,(.t 14)),(1,(.t 15))]⟩,⟨(some 17),none,.call (.c (.fn F.round_fault [] [])) [(.t 13),(.t 16)]⟩,cm 10 17]) (.seq (.ops [2,3,4,5,8,10,19] [cm 18 10,co 19 (.bin .neq (.t 18) (.c (.v (.int .i64 0))))]) (.cond (.t 19) (.seq (.ops [8,9] [co 20 (.build [(.v (.bool false)),.emp,(.v (.int .i64 0))] []),cm 21 10,⟨none,none,.store 3 (.t 8) (.t 20)⟩,cm 9 21]) (.ret)) (.skip)))) (.seq (.block 0 [2,3,4,5,8] (.seq (.ops [2,3,4,5,8,22] [co 23 (.fadr 1 (.t 4)),⟨(some 24),none,.load 1 false (.t 23)⟩,co 25 (.len false (.t 24)),co 26 (.bin .eql (.t 25) (.c (.v (.int .i64 0)))),cm 22 26]) (.cond (.t 22) (.seq (.ops [8,9] [⟨(some 27),none,.load 3 true (.t 5)⟩,cm 28 2,cm 29 3,⟨(some 30),none,.call (.c (.fn F.round_round [] [])) [(.t 27),(.t 28),(.t 29)]⟩,co 31 (.ext 0 (.t 30)),co 32 (.ext 1 (.t 30)),⟨none,none,.store 3 (.t 8) (.t 31)⟩,cm 9 32]) (.ret)) (.seq (.ops [2,3,4,5,8,33] [co 34 (.fadr 1 (.t 5)),⟨(some 35),none,.load 1 false (.t 34)⟩,co 36 (.len false (.t 35)),co 37 (.bin .eql (.t 36) (.c (.v (.int .i64 0)))),cm 33 37]) (.cond (.t 33) (.seq (.ops [8,9] [⟨(some 38),none,.load 3 true (.t 4)⟩,cm 39 2,cm 40 3,⟨(some 41),none,.call (.c (.fn F.round_round [] [])) [(.t 38),(.t 39),(.t 40)]⟩,co 42 (.ext 0 (.t 41)),co 43 (.ext 1 (.t 41)),⟨none,none,.store 3 (.t 8) (.t 42)⟩,cm 9 43]) (.ret)) (.skip)))))) (.seq (.seq (.dops [2,3,4,5,8,48] [⟨(some 44),none,.load 3 true (.t 4)⟩,⟨(some 45),none,.call (.c (.fn F.dyadic_Top [] [])) [(.t 44)]⟩,⟨(some 46),none,.load 3 true (.t 5)⟩,⟨(some 47),none,.call (.c (.fn F.dyadic_Top [] [])) [(.t 46)]⟩,co 48 (.bin .lss (.t 45) (.t 47))] [(1,2)]) (.cond (.t 48) (.ops [2,3,4,5,8] [⟨(some 49),none,.load 3 true (.t 5)⟩,⟨(some 50),none,.load 3 true (.t 4)⟩,⟨none,none,.store 3 (.t 4) (.t 49)⟩,⟨none,none,.store 3 (.t 5) (.t 50)⟩]) (.skip))) sO))):=rfl
theorem ahb{a b:Rd}(oa:Ok0 a)(ob:Ok0 b)(va:vd a=true)(vb:vd b=true)(na:a.m.length≠0)(nb:b.m.length≠0){p:Int}(hp:8<=p/\p<=512)(ht:aV b<=aV a):
  ae (Cv a b p).1.1<=4120∧-40000<=(Cv a b p).1.2.1/\(Cv a b p).1.2.1<=40000:=by
 have e1:=jF va na;have e2:=jF vb nb;obtain⟨a1,a2,a3,a4⟩:=eY va oa.lb;obtain⟨b1,b2,b3,b4⟩:=eY vb ob.lb;have l1:=Pp (a:=a) (b:=b) (p:=p);have l2:=Mf va vb oa.lb ob.lb na nb hp ht;have ba:=gZ (dJ va na);have bb:=gZ (dJ vb nb);rw[Pr];obtain⟨l,hl⟩:∃l,wB a b p=l:=⟨_,rfl⟩;rw[hl]at l1 l2⊢;have hX:ae (ab a.m*2^ (a.e-l).toNat)<=4100:=by
  rw[dW _ (dJ va na)];omega
 have hY:ae (yZ b l).1<=4100:=by
  unfold yZ;split
  ·rw[dW _ (dJ vb nb)];omega
  ·show ae (_/_)<=_;rw[ng];omega
 generalize(yZ b l).1=Y at hY⊢;generalize(yZ b l).2=lost;generalize ab a.m*2^ (a.e-l).toNat=X at hX⊢;have hU:ae (tP (Y,lost))<=4101:=by
  unfold tP;split
  ·have:=QS Y;show ae (Y+1)<=4101;omega
  ·show ae Y<=4101;omega
 have hm:∀x y:Nat,x<=y->ae y<=4101->ae x<=4101:=fun x y h1 h2=>yb h1 h2;generalize hYU:tP (Y,lost)=YU at hU;unfold Pq;rw[hYU];split
 ·have:=Hh hX hY;exact⟨avx this δ,by show-40000<=l;omega,by show l<=40000;omega⟩
 ·split
  ·exact⟨avx (hm _ _ (Nat.sub_le _ _) hU) δ,by show-40000<=l;omega,by show l<=40000;omega⟩
  ·exact⟨avx (hm _ _ (Nat.sub_le _ _) (avx hX δ)) δ,by show-40000<=l;omega,by show l<=40000;omega⟩
theorem QT{a b:Rd}(oa:Ok0 a)(ob:Ok0 b)(va:vd a=true)(vb:vd b=true)(na:a.m.length≠0)(nb:b.m.length≠0){n:Nat}{up:Bool}(hp:8<=n/\n<=512)(ht:aV b<=aV a)(s:ak)(h:ac)
  (h2:s 2=I (n:Nat)) (h3:s 3=B up) (h4:s 4=.ref 4 none 0 0 0) (h5:s 5=.ref 5 none 0 0 0) (h8:s 8=.ref 8 none 0 0 0)
  (k4:h 4=.bx (aj a)) (k5:h 5=.bx (aj b)) (k8:h 8=.bx [.v (.bool false),.emp,.v (.int .i64 0)]) (kd:∀i,i≠4->i≠5->i≠8->i≠16->h i=.dead):
  jV false [[.o 0 [],.o 2 [],.o 0 []],[]] [.cell 8 3 true,.t 9] 0 (ai R (ax false) sO s h)=some (rV (UT a b (n:Nat) up),[]):=by
 have hs:=ajV oa ob va vb na nb (p:=(n:Nat)) ⟨by omega,by omega⟩ ht;obtain⟨g1,g2,g3⟩:=ahb oa ob va vb na nb (p:=(n:Nat)) ⟨by omega,by omega⟩ ht;have hl:(au (Cv a b (n:Nat)).1.1).length<=256:=bg ω;have hg:=fun neg up=>EW (M:=au (Cv a b (n:Nat)).1.1) (e:=(Cv a b (n:Nat)).1.2.1) (n:=n) (more:=(Cv a b (n:Nat)).1.2.2) (up:=up) (neg:=neg) (bH _) hl ⟨g2,g3⟩ hp;unfold UT;generalize Cv a b (n:Nat)=z at hs g1 g2 g3 hl hg⊢;obtain⟨⟨M,l,more⟩,t⟩:=z;simp only[sV,af,aj,wR]at hs hg k4 k5;simp only[br]at hg;have hw:=hg (a.neg !=t) up;generalize hr:hH (a.neg !=t) (cR M l more (n:Nat) (up != (a.neg !=t)))=r at hw;simp only[rV,af,aj]at hw;by_cases hM:M=0
 ·have e1:(((au M).length:Int)=0)=True:=tt (by rw[hM,gX];rfl);cases more with
  |false=>
   rw[if_pos ⟨hM,rfl⟩];clear hr;simp only[sO,rV,af,aj,aI,go_sem,ne_eq,not_false_eq_true,h2,h3,h4,h5,h8,k4,k5,k8,kd,hs,e1]
  |true=>
   rw[if_neg (fun h=>avD h.2.symm)];rw[show hH (a.neg !=t) (cR M l true (n:Nat) (up != (a.neg !=t)))=r from hr];clear hr;simp only[sO,rV,af,aj,go_sem,ne_eq,not_false_eq_true,h2,h3,h4,h5,h8,k4,k5,k8,kd,hs,e1,aa3,hw]
 ·have e1:(((au M).length:Int)=0)=False:=ff (fun h=>hM (sW.1 (List.length_eq_zero_iff.1 ω)));rw[if_neg (fun h=>hM h.1)];rw[show hH (a.neg !=t) (cR M l more (n:Nat) (up != (a.neg !=t)))=r from hr];clear hr;simp only[sO,rV,af,aj,go_sem,ne_eq,not_false_eq_true,h2,h3,h4,h5,h8,k4,k5,k8,kd,hs,e1,aa3,hw]
theorem aeK{a b:Rd}(oa:Ok0 a)(ob:Ok0 b){p:Int}{up:Bool}(h0:aY p [a,b]=0)(a0:a.m.length≠0)(b0:b.m.length≠0):R F.round_add [af a,af b,I p,B up] []=some (rV (Ps a b p up),[]):=by
 refine aB Lc rfl ?_;have hf:R F.round_fault [I p,.sl 3 [[B a.neg,lm a.m,I a.e],[B b.neg,lm b.m,I b.e]]] []=some (I (aY p [a,b]),[]):=AR (p:=p) (l:=[a,b]) (fun x hx=>by
  rcases List.mem_cons.1 hx with h|h
  ·rw[h];exact oa
  ·rw[List.mem_singleton.1 h];exact ob) (show 2<=100000 by decide)
 rw[h0]at hf;obtain⟨v1,hp⟩:=uM h0;have v4:vd a=true/\vd b=true:=by simpa using v1
 obtain⟨va,vb⟩:=v4;have ta:=BV oa;have tb:=BV ob;simp only[af,aj]at ta tb;obtain⟨n,rfl⟩:=Int.eq_ofNat_of_zero_le (show 0<=p by omega);have e1:((a.m.length:Int)=0)=False:=ff;have e2:((b.m.length:Int)=0)=False:=ff;unfold Ps;rw[if_pos h0,if_neg a0,if_neg b0];by_cases ht:aV a<aV b
 ·have e3:(aV a<aV b)=True:=tt ht;rw[if_pos ht];simp only[mU,BX,af,aj,go_sem,hf,e1,e2,ta,tb,e3];refine QT ob oa vb va b0 a0 ω ω _ _ rfl rfl rfl rfl rfl rfl rfl rfl fun i h4 h5 h8 h16=>?_;simp only[cU,h4,h5,h8,h16,if_false]
 ·have e3:(aV a<aV b)=False:=ff ht;rw[if_neg ht];simp only[mU,BX,af,aj,go_sem,hf,e1,e2,ta,tb,e3];refine QT oa ob va vb a0 b0 ω ω _ _ rfl rfl rfl rfl rfl rfl rfl rfl fun i h4 h5 h8 h16=>?_;simp only[cU,h4,h5,h8,h16,if_false]
theorem XD{a b:Rd}(oa:Ok0 a)(ob:Ok0 b){p:Int}{up:Bool}:R F.round_add [af a,af b,I p,B up] []=some (rV (dt a b p up),[]):=by
 rw[←aha oa ob];by_cases h0:aY p [a,b]=0
 ·by_cases a0:a.m.length=0
  ·exact Mh oa ob (Or.inr (Or.inl a0))
  ·by_cases b0:b.m.length=0
   ·exact Mh oa ob (Or.inr (Or.inr b0))
   ·exact aeK oa ob h0 a0 b0
 ·exact Mh oa ob (Or.inl h0)
theorem UY{a b:Rd}(oa:Ok0 a)(ob:Ok0 b){p:Int}:R F.round_AddUp [af a,af b,I p] []=some (rV (dt a b p true),[]):=by
 refine aB R7 rfl ?_;have hr:=XD oa ob (p:=p) (up:=true);generalize dt a b p true=r at hr⊢;simp only[rV,af,aj]at hr;simp only[Ao,HI,rV,af,aj,go_sem,hr]
theorem Hk{a b:Rd}(oa:Ok0 a)(ob:Ok0 b){p:Int}:R F.round_AddDown [af a,af b,I p] []=some (rV (dt a b p false),[]):=by
 refine aB Nv rfl ?_;have hr:=XD oa ob (p:=p) (up:=false);generalize dt a b p false=r at hr⊢;simp only[rV,af,aj]at hr;simp only[xw,EH,rV,af,aj,go_sem,hr]
theorem QU{a b:Rd}(oa:Ok0 a)(ob:Ok0 b){p:Int}:R F.round_MulUp [af a,af b,I p] []=some (rV (fK a b p true),[]):=by
 rw[←XB oa ob];exact aeG oa ob
theorem Le{a b:Rd}(oa:Ok0 a)(ob:Ok0 b){p:Int}:R F.round_MulDown [af a,af b,I p] []=some (rV (fK a b p false),[]):=by
 rw[←XB oa ob];exact aad oa ob
def cz(d:Rd)(p:Int)(up:Bool):Rd×Int:=if aY p [d]=0 then jG (zI d) (-16384) p up else(aI,aY p [d])
theorem XE{d:Rd}(ok:Ok0 d){p:Int}:R F.round_Up [af d,I p] []=some (rV (cz d p true),[]):=by
 have h:=EX ok (p:=p) (up:=true);rw[cz,←h];exact ajU ok
theorem QV{d:Rd}(ok:Ok0 d){p:Int}:R F.round_Down [af d,I p] []=some (rV (cz d p false),[]):=by
 have h:=EX ok (p:=p) (up:=false);rw[cz,←h];exact aeF ok
structure Ri where
 lo:Rd
 hi:Rd
 all:Bool
def aq(x:Ri):List AV:=[B x.lo.neg,lm x.lo.m,I x.lo.e,B x.hi.neg,lm x.hi.m,I x.hi.e,B x.all]
def am(x:Ri):AV:=.agg (aq x)
def dy:Ri:=⟨aI,aI,true⟩
structure OkI (x:Ri):Prop where
 lo:Ok0 x.lo
 hi:Ok0 x.hi
def z0(d:Rd):Bool:=!d.neg&& (decide (d.m.length=0)&&decide (d.e=0))
def vi(x:Ri):Bool:=if x.all=true then z0 x.lo&&z0 x.hi else vd x.lo&& (vd x.hi&&decide (zI x.lo<=zI x.hi))
def kI(x:Ri):Bool:=!x.all&&vi x
def bQ(p:Int):Bool:=decide (8<=p)&&decide (p<=512)
theorem uO{p:Int}:R F.interval_permitted [I p] []=some (B (bQ p),[]):=by
 refine aB G8 rfl ?_;unfold bQ;by_cases h1:8<=p
 ·have e1:(8<=p)=True:=tt h1;simp only[lh,rB,go_sem,e1,decide_true,avz]
 ·have e1:(8<=p)=False:=ff h1;simp only[lh,rB,go_sem,e1,decide_false,avC]
theorem kw:R F.interval_Whole [] []=some (am dy,[]):=by
 refine aB LI rfl ?_;simp only[wh,DB,am,aq,dy,aI,go_sem]
theorem agl{d:Rd}:R F.interval_Valid_1 [af d] []=some (B (z0 d),[]):=by
 refine aB I3 rfl ?_;unfold z0;cases hn:d.neg with
 |true=>simp only[it,kQ,af,aj,go_sem,hn,Bool.not_true,avC]
 |false=>
  by_cases h1:d.m.length=0
  ·have e1:((d.m.length:Int)=0)=True:=tt;by_cases h2:d.e=0
   ·have e2:(d.e=0)=True:=tt h2;rw[decide_eq_true h1,decide_eq_true h2];simp only[it,kQ,af,aj,go_sem,hn,e1,e2,Bool.not_false,avz]
   ·have e2:(d.e=0)=False:=ff h2;rw[decide_eq_true h1,decide_eq_false h2];simp only[it,kQ,af,aj,go_sem,hn,e1,e2,Bool.not_false,avz]
  ·have e1:((d.m.length:Int)=0)=False:=ff;rw[decide_eq_false h1];simp only[it,kQ,af,aj,go_sem,hn,e1,Bool.not_false,avz,avC]
theorem Ge{x y:Int}:(eJ x y<=0)=(x<=y):=by
 grind[eJ]
theorem pi{x:Ri}(ok:OkI x):R F.interval_Valid [am x] []=some (B (vi x),[]):=by
 refine aB LJ rfl ?_;unfold vi;have zl:=agl (d:=x.lo);have zh:=agl (d:=x.hi);have vl:=eE ok.lo;have vh:=eE ok.hi;have hc:=qH ok.lo ok.hi;simp only[af,aj]at zl zh vl vh hc;cases ha:x.all with
 |true=>
  cases h1:z0 x.lo with
  |true=>
   rw[h1]at zl;simp only[gU,kj,am,aq,go_sem,ha,zl,zh,avz]
  |false=>
   rw[h1]at zl;simp only[gU,kj,am,aq,go_sem,ha,zl,avC]
 |false=>
  cases h1:vd x.lo with
  |false=>
   rw[h1]at vl;simp only[gU,kj,am,aq,go_sem,ha,vl,avC]
  |true=>
   rw[h1]at vl;cases h2:vd x.hi with
   |false=>
    rw[h2]at vh;simp only[gU,kj,am,aq,go_sem,ha,vl,vh,avz,avC]
   |true=>
    rw[h2]at vh;rw[h1,h2,if_pos ⟨rfl,rfl⟩]at hc;simp only[gU,kj,am,aq,go_sem,ha,vl,vh,hc,Ge,avz]
theorem kB{d:Rd}(ok:Ok0 d)(hv:vd d=true):R F.interval_Point [af d] []=some (am ⟨d,d,false⟩,[]):=by
 refine aB LK rfl ?_;have vl:=eE ok;rw[hv]at vl;simp only[af,aj]at vl;simp only[wj,DD,af,aj,am,aq,go_sem,vl]
def tT(r s:Rd×Int):Ri:=if r.2=0/\s.2=0 then⟨r.1,s.1,false⟩else dy
theorem Pu{a b:Rd}{e f:Int}:R F.interval_made [af a,I e,af b,I f] []=some (am (tT (a,e) (b,f)),[]):=by
 refine aB Nw rfl ?_;have hw:=kw;unfold tT;by_cases h1:e=0
 ·have e1:(e=0)=True:=tt h1;by_cases h2:f=0
  ·have e2:(f=0)=True:=tt h2;simp only[mT,tF,af,aj,am,aq,go_sem,e1,e2]
  ·have e2:(f=0)=False:=ff h2;simp only[mT,tF,af,aj,am,aq,go_sem,e1,e2,hw]
 ·have e1:(e=0)=False:=ff h1;simp only[mT,tF,af,aj,am,aq,go_sem,e1,hw]
def bc(l:List Ri):List (List AV):=l.map aq
@[go_sem] theorem s7(l:List Ri):(bc l).length=l.length:=by simp[bc]
theorem s9{l:List Ri}{i:Int}{n:Nat}{d:Ri}(hi:i=n)(h:l[n]?=some d):bp (bc l) i=some (.ipt (aq d)):=by
 grind[bp,bc]
theorem aaf(l:List Ri)(ok:∀d∈l,OkI d)(h2:l.length<=100000):∀ (k i:Nat),i+k=l.length->∀ (s:ak) (h:ac),s 5=.sl 7 (bc l)->s 6=I l.length->s 7=I i->
  ∃hh,ah 0 [] (av (ai R (ax false) iq) [5,6,7] [] s h)=if((l.drop i).all kI)=true then some (.normal,⟨fun _=>.any,fun _=>.dead⟩)else some (.ret,⟨upd (fun _=>.any) 2 (B false),hh⟩):=by
 intro k;induction k with
 |zero=>
  intro i hi s h h5 h6 h7;have e1:((i:Int)<l.length)=False:=ff;rw[avH ω,ag,List.all_nil,if_pos rfl];refine⟨fun _=>.dead,?_⟩;simp only[iq,go_sem,h5,h6,h7,e1]
 |succ k ih=>
  intro i hi s h h5 h6 h7;have hlt:i<l.length:=ω
  have e1:((i:Int)<l.length)=True:=tt;have e2:bp (bc l) (i:Int)=some (.ipt (aq l[i])):=s9 rfl (List.getElem?_eq_getElem hlt);have e5:IntKind.i64.wrap ((i:Int)+1)=((i+1:Nat):Int):=wi;have e3:=pi (ok l[i] (avN hlt));rw[avI hlt,avQ,ag];have ih':=ih (i+1) ω;generalize l[i]=d at e2 e3⊢;simp only[am]at e3;simp only[aq]at e2 e3;unfold kI at ih'⊢;cases ha:d.all with
  |true=>
   refine⟨?hh,?_⟩;rotate_left;simp only[iq,go_sem,h5,h6,h7,e1,e2,ha];rfl
  |false=>
   rw[ha]at e3;cases hv:vi d with
   |false=>
    rw[hv]at e3;refine⟨?hh2,?_⟩;rotate_left;simp only[iq,go_sem,h5,h6,h7,e1,e2,e3,ha];rfl
   |true=>
    rw[hv]at e3;simp only[iq,go_sem,h5,h6,h7,e1,e2,e3,e5,ha];exact ih' _ _ rfl rfl rfl
theorem UZ{l:List Ri}(ok:∀d∈l,OkI d)(h2:l.length<=100000):R F.interval_known [.sl 7 (bc l)] []=some (B (l.all kI),[]):=by
 refine aB LM rfl ?_;have h3:=aaf l ok h2 l.length 0 (avs _);simp only[List.drop_zero,av7]at h3;cases ha:l.all kI with
 |false=>
  rw[ha]at h3;simp only[pI,xu,go_sem];rw[(h3 _ _ rfl rfl rfl).choose_spec];simp only[go_sem]
 |true=>
  rw[ha]at h3;simp only[pI,xu,go_sem];rw[(h3 _ _ rfl rfl rfl).choose_spec];simp only[go_sem]
theorem uP{x:Ri}(ok:OkI x):R F.interval_known [.sl 7 [[B x.lo.neg,lm x.lo.m,I x.lo.e,B x.hi.neg,lm x.hi.m,I x.hi.e,B x.all]]] []=some (B (kI x),[]):=by
 have h:=UZ (l:=[x]) (fun d hd=>by grind) (show 1<=100000 by decide);rw[avQ,List.all_nil,Bool.and_true]at h;exact h
theorem EY{x y:Ri}(ox:OkI x)(oy:OkI y):R F.interval_known [.sl 7 [[B x.lo.neg,lm x.lo.m,I x.lo.e,B x.hi.neg,lm x.hi.m,I x.hi.e,B x.all],[B y.lo.neg,lm y.lo.m,I y.lo.e,B y.hi.neg,lm y.hi.m,I y.hi.e,B y.all]]] []=some (B (kI x&&kI y),[]):=by
 have h:=UZ (l:=[x,y]) (fun d hd=>by
  grind) (show 2<=100000 by decide)
 rw[avQ,avQ,List.all_nil,Bool.and_true]at h;exact h
def gJ(x y:Ri)(p:Int):Ri:=if(kI x&&kI y&&bQ p)=true then tT (dt x.lo y.lo p false) (dt x.hi y.hi p true)else dy
theorem ye{x y:Ri}(ox:OkI x)(oy:OkI y){p:Int}:R F.interval_Add [am x,am y,I p] []=some (am (gJ x y p),[]):=by
 refine aB OW rfl ?_;have hk:=EY ox oy;have hp:=uO (p:=p);have hw:=kw;have hd:=Hk ox.lo oy.lo (p:=p);have hu:=UY ox.hi oy.hi (p:=p);unfold gJ;generalize dt x.lo y.lo p false=r at hd⊢;generalize dt x.hi y.hi p true=q at hu⊢;obtain⟨r1,r2⟩:=r;obtain⟨q1,q2⟩:=q;have hm:=Pu (a:=r1) (b:=q1) (e:=r2) (f:=q2);simp only[am,aq,rV,af,aj]at hw hd hu hm;cases h1:(kI x&&kI y)with
 |false=>
  rw[h1]at hk;simp only[oM,vg,am,aq,go_sem,hk,hw]
 |true=>
  rw[h1]at hk;cases h2:bQ p with
  |false=>
   rw[h2]at hp;simp only[oM,vg,am,aq,go_sem,hk,hp,hw]
  |true=>
   rw[h2]at hp;simp only[oM,vg,am,aq,go_sem,hk,hp,hw,hd,hu,hm]
def fh(a b:Rd):Int:=if vd a=true/\vd b=true then eJ (zI a) (zI b)else 0
def kL(a b:Rd):Rd:=if fh a b<=0 then a else b
def kN(a b:Rd):Rd:=if 0<=fh a b then a else b
theorem Pw{a b:Rd}(oa:Ok0 a)(ob:Ok0 b):R F.interval_less [af a,af b] []=some (af (kL a b),[]):=by
 refine aB NB rfl ?_;have hc:=qH oa ob;rw[show(if vd a=true/\vd b=true then eJ (zI a) (zI b)else 0)=fh a b from rfl]at hc;simp only[af,aj]at hc;unfold kL;by_cases h:fh a b<=0
 ·have e1:(fh a b<=0)=True:=tt h;simp only[rG,zi,af,aj,go_sem,hc,e1]
 ·have e1:(fh a b<=0)=False:=ff h;simp only[rG,zi,af,aj,go_sem,hc,e1]
theorem Px{a b:Rd}(oa:Ok0 a)(ob:Ok0 b):R F.interval_more [af a,af b] []=some (af (kN a b),[]):=by
 refine aB NA rfl ?_;have hc:=qH oa ob;rw[show(if vd a=true/\vd b=true then eJ (zI a) (zI b)else 0)=fh a b from rfl]at hc;simp only[af,aj]at hc;unfold kN;by_cases h:0<=fh a b
 ·have e1:(0<=fh a b)=True:=tt h;simp only[rF,zg,af,aj,go_sem,hc,e1]
 ·have e1:(0<=fh a b)=False:=ff h;simp only[rF,zg,af,aj,go_sem,hc,e1]
theorem agm{x:Ri}(h:kI x=true):vd x.lo=true/\vd x.hi=true/\zI x.lo<=zI x.hi/\x.all=false:=by
 unfold kI vi at h;grind
theorem amT{x:Ri}(h1:vd x.lo=true)(h2:vd x.hi=true)(h3:zI x.lo<=zI x.hi)(h4:x.all=false):kI x=true:=by
 grind[kI,vi,decide_eq_true]
def Jf(x:Ri):Int:=if 0<gb x.lo then 1 else if gb x.hi<0 then-1 else 0
theorem U0{x:Ri}(ok:OkI x)(hx:kI x=true):R F.interval_Sign [am x] []=some (I (Jf x),[]):=by
 refine aB NE rfl ?_;obtain⟨v1,v2,v3,v4⟩:=agm hx;have hk:=uP ok;rw[hx]at hk;have s1:=D6 ok.lo v1;have s2:=D6 ok.hi v2;simp only[af,aj]at s1 s2;unfold Jf;by_cases h1:0<gb x.lo
 ·have e1:(0<gb x.lo)=True:=tt h1;simp only[mY,tM,am,aq,go_sem,hk,s1,e1]
 ·have e1:(0<gb x.lo)=False:=ff h1;by_cases h2:gb x.hi<0
  ·have e2:(gb x.hi<0)=True:=tt h2;simp only[mY,tM,am,aq,go_sem,hk,s1,e1,s2,e2]
  ·have e2:(gb x.hi<0)=False:=ff h2;simp only[mY,tM,am,aq,go_sem,hk,s1,e1,s2,e2]
def rQ(d:Rd):Rd:=if vd d=false\/d.m.length=0 then aI else⟨false,d.m,d.e⟩
theorem bh:vd aI=true/\Ok0 aI:=⟨rfl,⟨fun x hx=>(nomatch hx),by decide⟩⟩
theorem yf{d:Rd}(ok:Ok0 d):Ok0 (rQ d):=by
 unfold rQ;split
 ·exact bh.2
 ·exact⟨ok.1,ok.2⟩
def AT(x:Ri):Rd:=if Jf x=0 then aI else kL (rQ x.lo) (rQ x.hi)
def Hl(x:Ri):Rd:=kN (rQ x.lo) (rQ x.hi)
theorem ajW{x:Ri}(ok:OkI x)(hx:kI x=true):R F.interval_Mig [am x] []=some (.tup [af (AT x),B true],[]):=by
 refine aB Ph rfl ?_;have hk:=uP ok;rw[hx]at hk;have hs:=U0 ok hx;have a1:=NP ok.lo;have a2:=NP ok.hi;rw[show(if vd x.lo=false\/x.lo.m.length=0 then aI else(⟨false,x.lo.m,x.lo.e⟩:Rd))=rQ x.lo from rfl]at a1;rw[show(if vd x.hi=false\/x.hi.m.length=0 then aI else(⟨false,x.hi.m,x.hi.e⟩:Rd))=rQ x.hi from rfl]at a2;have hl:=Pw (yf ok.lo) (yf ok.hi);unfold AT;simp only[am,aq,af,aj]at hs a1 a2 hl;by_cases h1:Jf x=0
 ·have e1:(Jf x=0)=True:=tt h1;simp only[tO,AF,am,aq,af,aj,aI,go_sem,hk,hs,e1]
 ·have e1:(Jf x=0)=False:=ff h1;simp only[tO,AF,am,aq,af,aj,go_sem,hk,hs,e1,a1,a2,hl]
theorem ajX{x:Ri}(ok:OkI x)(hx:kI x=true):R F.interval_Mag [am x] []=some (.tup [af (Hl x),B true],[]):=by
 refine aB Pi rfl ?_;have hk:=uP ok;rw[hx]at hk;have a1:=NP ok.lo;have a2:=NP ok.hi;rw[show(if vd x.lo=false\/x.lo.m.length=0 then aI else(⟨false,x.lo.m,x.lo.e⟩:Rd))=rQ x.lo from rfl]at a1;rw[show(if vd x.hi=false\/x.hi.m.length=0 then aI else(⟨false,x.hi.m,x.hi.e⟩:Rd))=rQ x.hi from rfl]at a2;have hl:=Px (yf ok.lo) (yf ok.hi);unfold Hl;simp only[af,aj]at a1 a2 hl;simp only[zF,F6,am,aq,af,aj,go_sem,hk,a1,a2,hl]
def uQ(x:Ri):Ri:=if kI x=true then⟨AT x,Hl x,false⟩else dy
theorem ahc{x:Ri}(ok:OkI x):R F.interval_Abs [am x] []=some (am (uQ x),[]):=by
 refine aB Pd rfl ?_;have hk:=uP ok;have hw:=kw;unfold uQ;cases hx:kI x with
 |false=>
  rw[hx]at hk;simp only[tN,AA,am,aq,go_sem,hk,hw]
 |true=>
  rw[hx]at hk;have h1:=ajW ok hx;have h2:=ajX ok hx;simp only[am,aq,af,aj]at h1 h2;simp only[tN,AA,am,aq,go_sem,hk,h1,h2]
def vR(dn up:Rd->Rd->Rd×Int)(pr:Nat->Rd×Rd):Nat->Nat->Rd×Rd->Option (Rd×Rd)
 |0,_,o=>some o
 |k+1,i,o=>if(dn (pr i).1 (pr i).2).2=0/\(up (pr i).1 (pr i).2).2=0 then
   vR dn up pr k (i+1) (if fh (dn (pr i).1 (pr i).2).1 o.1<0 then(dn (pr i).1 (pr i).2).1 else o.1,if 0<fh (up (pr i).1 (pr i).2).1 o.2 then(up (pr i).1 (pr i).2).1 else o.2)
  else none
def pR(dn up:Rd->Rd->Rd×Int)(pr:Nat->Rd×Rd):Option (Rd×Rd):=
 if(dn (pr 0).1 (pr 0).2).2=0/\(up (pr 0).1 (pr 0).2).2=0 then vR dn up pr 3 1 ((dn (pr 0).1 (pr 0).2).1,(up (pr 0).1 (pr 0).2).1)else none
def H2:Option (Rd×Rd)->Ri
 |some o=>⟨o.1,o.2,false⟩
 |none=>dy
def SI(x:Option (Ex×St))(o:Option (Rd×Rd)):Prop:=match o with
 |some q=>∃hh,x=some (.normal,⟨upd (upd (fun _=>.any) 12 (.ref 12 none 0 0 0)) 10 (.ref 10 none 0 0 0),hh⟩)/\hh 10=.bx [.v (.bool false),.emp,.v (.int .i64 0),.v (.bool false),.emp,.v (.int .i64 0),.v (.bool false)]/\hh 12=.bx (aq ⟨q.1,q.2,false⟩)
 |none=>∃hh,x=some (.ret,⟨upd (fun _=>.any) 10 (.ref 10 none 0 0 0),hh⟩)/\hh 10=.bx (aq dy)
theorem C8{a b:Rd}{p:Int}{up:Bool}:Ok0 (fK a b p up).1:=by
 unfold fK;split
 ·exact sN.2
 ·exact bh.2
structure Op2 (f:FuncId) (g:Rd->Rd->Rd×Int) (p:Int):Prop where
 ct:∀ {a b:Rd},Ok0 a->Ok0 b->R f [af a,af b,I p] []=some (rV (g a b),[])
 ok:∀ {a b:Rd},Ok0 (g a b).1
 s:CG f [[.o 0 [],.o 2 [],.o 0 []],[.o 0 [],.o 2 [],.o 0 []],[]]
 m:CH f []
 k:CI f false
 c:H0 f
theorem acd{p:Int}{A:AV}{pr:Nat->Rd×Rd}{fD fU:FuncId}{dn up:Rd->Rd->Rd×Int}(oD:Op2 fD dn p)(oU:Op2 fU up p)(hA:gE [10,12] A=A)(hidx:∀i:Nat,i<4->JM 4 6 true A (I i)=some (.agg [B (pr i).1.neg,lm (pr i).1.m,I (pr i).1.e,B (pr i).2.neg,lm (pr i).2.m,I (pr i).2.e]))
  (hok:∀i,Ok0 (pr i).1/\Ok0 (pr i).2):∀ (k i:Nat),i+k=4->1<=i->∀ (lo hi:Rd) (s:ak) (h:ac),Ok0 lo->Ok0 hi->s 2=I p->s 3=.fn fD [] []->s 4=.fn fU [] []->s 10=.ref 10 none 0 0 0->s 12=.ref 12 none 0 0 0->s 40=A->s 41=I i->
  h 10=.bx [.v (.bool false),.emp,.v (.int .i64 0),.v (.bool false),.emp,.v (.int .i64 0),.v (.bool false)]->h 12=.bx (aq ⟨lo,hi,false⟩)->
  SI (ah 0 [10,12] (av (ai R (ax false) bD) [2,3,4,10,12,40,41] [10,12] s h)) (vR dn up pr k i (lo,hi)):=by
 intro k;induction k with
 |zero=>
  intro i hi4 h1 lo hi s h olo ohi h2 h3 h4 h10 h12 h40 h41 k10 k12;have e1:((i:Int)<4)=False:=ff;simp only[aq]at k12;rw[ag];refine⟨?hh0,?_,?_,?_⟩;rotate_left
  ·simp only[bD,go_sem,h2,h3,h4,h10,h12,h40,h41,k10,k12,hA,e1];rfl
  ·rfl
  ·rfl
 |succ k ih=>
  intro i hi4 h1 lo hi s h olo ohi h2 h3 h4 h10 h12 h40 h41 k10 k12;have e1:((i:Int)<4)=True:=tt;have e0:((i:Int)=0)=False:=ff;have ei:=hidx i ω;have e5:IntKind.i64.wrap ((i:Int)+1)=((i+1:Nat):Int):=wi;have hd:=oD.ct (hok i).1 (hok i).2;have hu:=oU.ct (hok i).1 (hok i).2;have hw:=kw;have okd:=oD.ok (a:=(pr i).1) (b:=(pr i).2);have oku:=oU.ok (a:=(pr i).1) (b:=(pr i).2);have c1:=qH okd olo;have c2:=qH oku ohi;rw[show∀a b:Rd,(if vd a=true/\vd b=true then eJ (zI a) (zI b)else 0)=fh a b from fun _ _=>rfl]at c1 c2;have ih':=ih (i+1) ω ω;unfold vR;simp only[aq]at k12;show SI _ (if(dn (pr i).1 (pr i).2).2=0/\(up (pr i).1 (pr i).2).2=0 then _ else none);generalize dn (pr i).1 (pr i).2=r at hd okd c1⊢;generalize up (pr i).1 (pr i).2=q at hu oku c2⊢;obtain⟨r1,r2⟩:=r;obtain⟨q1,q2⟩:=q;show SI _ (if r2=0/\q2=0 then vR dn up pr k (i+1) (if fh r1 lo<0 then r1 else lo,if 0<fh q1 hi then q1 else hi)else none);simp only[rV,af,aj,am,aq,dy,aI]at hd hu hw c1 c2;rw[ag];generalize av _ _ _=L at ih'⊢;by_cases hr:r2=0
  ·have er:(r2=0)=True:=tt hr;by_cases hq:q2=0
   ·have eq:(q2=0)=True:=tt hq;rw[if_pos (show r2=0/\q2=0 from⟨hr,hq⟩)];by_cases g1:fh r1 lo<0
    ·have f1:(fh r1 lo<0)=True:=tt g1;by_cases g2:0<fh q1 hi
     ·have f2:(0<fh q1 hi)=True:=tt g2;rw[if_pos g1,if_pos g2];simp only[bD,Int.cast_ofNat_Int,go_sem,oD.s,oD.m,oD.k,oD.c,oU.s,oU.m,oU.k,oU.c,avO,avZ,avU,h2,h3,h4,h10,h12,h40,h41,k10,k12,hA,e1,e0,ei,hd,hu,er,eq,c1,c2,f1,f2,e5];exact ih' r1 q1 _ _ okd oku rfl rfl rfl rfl rfl rfl rfl rfl rfl
     ·have f2:(0<fh q1 hi)=False:=ff g2;rw[if_pos g1,if_neg g2];simp only[bD,Int.cast_ofNat_Int,go_sem,oD.s,oD.m,oD.k,oD.c,oU.s,oU.m,oU.k,oU.c,avO,avZ,avU,h2,h3,h4,h10,h12,h40,h41,k10,k12,hA,e1,e0,ei,hd,hu,er,eq,c1,c2,f1,f2,e5];exact ih' r1 hi _ _ okd ohi rfl rfl rfl rfl rfl rfl rfl rfl rfl
    ·have f1:(fh r1 lo<0)=False:=ff g1;by_cases g2:0<fh q1 hi
     ·have f2:(0<fh q1 hi)=True:=tt g2;rw[if_neg g1,if_pos g2];simp only[bD,Int.cast_ofNat_Int,go_sem,oD.s,oD.m,oD.k,oD.c,oU.s,oU.m,oU.k,oU.c,avO,avZ,avU,h2,h3,h4,h10,h12,h40,h41,k10,k12,hA,e1,e0,ei,hd,hu,er,eq,c1,c2,f1,f2,e5];exact ih' lo q1 _ _ olo oku rfl rfl rfl rfl rfl rfl rfl rfl rfl
     ·have f2:(0<fh q1 hi)=False:=ff g2;rw[if_neg g1,if_neg g2];simp only[bD,Int.cast_ofNat_Int,go_sem,oD.s,oD.m,oD.k,oD.c,oU.s,oU.m,oU.k,oU.c,avO,avZ,avU,h2,h3,h4,h10,h12,h40,h41,k10,k12,hA,e1,e0,ei,hd,hu,er,eq,c1,c2,f1,f2,e5];exact ih' lo hi _ _ olo ohi rfl rfl rfl rfl rfl rfl rfl rfl rfl
   ·have eq:(q2=0)=False:=ff hq;rw[if_neg (show¬(r2=0/\q2=0)from fun h=>hq h.2)];refine⟨?hh1,?_,?_⟩;rotate_left
    ·simp only[bD,Int.cast_ofNat_Int,go_sem,oD.s,oD.m,oD.k,oD.c,oU.s,oU.m,oU.k,oU.c,avO,avZ,avU,h2,h3,h4,h10,h12,h40,h41,k10,k12,hA,e1,ei,hd,hu,er,eq,hw];rfl
    ·rfl
  ·have er:(r2=0)=False:=ff hr;rw[if_neg (show¬(r2=0/\q2=0)from fun h=>hr h.1)];refine⟨?hh2,?_,?_⟩;rotate_left
   ·simp only[bD,Int.cast_ofNat_Int,go_sem,oD.s,oD.m,oD.k,oD.c,oU.s,oU.m,oU.k,oU.c,avO,avZ,avU,h2,h3,h4,h10,h12,h40,h41,k10,k12,hA,e1,ei,hd,hu,er,hw];rfl
   ·rfl
theorem aag{p:Int}{A:AV}{pr:Nat->Rd×Rd}{fD fU:FuncId}{dn up:Rd->Rd->Rd×Int}(oD:Op2 fD dn p)(oU:Op2 fU up p)(hA:gE [10,12] A=A)(hidx:∀i:Nat,i<4->JM 4 6 true A (I i)=some (.agg [B (pr i).1.neg,lm (pr i).1.m,I (pr i).1.e,B (pr i).2.neg,lm (pr i).2.m,I (pr i).2.e]))
  (hok:∀i,Ok0 (pr i).1/\Ok0 (pr i).2) (s:ak) (h:ac) (h2:s 2=I p) (h3:s 3=.fn fD [] []) (h4:s 4=.fn fU [] []) (h10:s 10=.ref 10 none 0 0 0) (h12:s 12=.ref 12 none 0 0 0) (h40:s 40=A) (h41:s 41=I 0)
  (k10:h 10=.bx [.v (.bool false),.emp,.v (.int .i64 0),.v (.bool false),.emp,.v (.int .i64 0),.v (.bool false)]) (k12:h 12=.bx [.v (.bool false),.emp,.v (.int .i64 0),.v (.bool false),.emp,.v (.int .i64 0),.v (.bool false)]):
  SI (ah 0 [10,12] (av (ai R (ax false) bD) [2,3,4,10,12,40,41] [10,12] s h)) (pR dn up pr):=by
 have ei:=hidx 0 δ;simp only[av7]at ei;have hd:=oD.ct (hok 0).1 (hok 0).2;have hu:=oU.ct (hok 0).1 (hok 0).2;have hw:=kw;have okd:=oD.ok (a:=(pr 0).1) (b:=(pr 0).2);have oku:=oU.ok (a:=(pr 0).1) (b:=(pr 0).2);have ih':=acd (p:=p) (A:=A) (pr:=pr) oD oU hA hidx hok 3 1 rfl δ;unfold pR;generalize dn (pr 0).1 (pr 0).2=r at hd okd⊢;generalize up (pr 0).1 (pr 0).2=q at hu oku⊢;obtain⟨r1,r2⟩:=r;obtain⟨q1,q2⟩:=q;simp only[rV,af,aj,am,aq,dy,aI]at hd hu hw;rw[ag];have e6:IntKind.i64.wrap (0+1)=1:=rfl;by_cases hr:r2=0
 ·have er:(r2=0)=True:=tt hr;by_cases hq:q2=0
  ·have eq:(q2=0)=True:=tt hq;simp only[bD,Int.cast_ofNat_Int,go_sem,oD.s,oD.m,oD.k,oD.c,oU.s,oU.m,oU.k,oU.c,avO,avZ,avU,h2,h3,h4,h10,h12,h40,h41,k10,k12,hA,ei,hd,hu,er,eq,e6];exact ih' r1 q1 _ _ okd oku rfl rfl rfl rfl rfl rfl rfl rfl rfl
  ·have eq:(q2=0)=False:=ff hq;rw[if_neg (show¬(r2=0/\q2=0)from fun h=>hq h.2)];refine⟨?hh3,?_,?_⟩;rotate_left
   ·simp only[bD,Int.cast_ofNat_Int,go_sem,oD.s,oD.m,oD.k,oD.c,oU.s,oU.m,oU.k,oU.c,avO,avZ,avU,h2,h3,h4,h10,h12,h40,h41,k10,k12,hA,ei,hd,hu,er,eq,hw];rfl
   ·rfl
 ·have er:(r2=0)=False:=ff hr;rw[if_neg (show¬(r2=0/\q2=0)from fun h=>hr h.1)];refine⟨?hh4,?_,?_⟩;rotate_left
  ·simp only[bD,Int.cast_ofNat_Int,go_sem,oD.s,oD.m,oD.k,oD.c,oU.s,oU.m,oU.k,oU.c,avO,avZ,avU,h2,h3,h4,h10,h12,h40,h41,k10,k12,hA,ei,hd,hu,er,hw];rfl
  ·rfl
def gw(x y:Ri)(i:Nat):Rd×Rd:=match i with
 |0=>(x.lo,y.lo)
 |1=>(x.lo,y.hi)
 |2=>(x.hi,y.lo)
 |_=>(x.hi,y.hi)
def iH(x y:Ri)(p:Int):Ri:=if(kI x&&kI y&&bQ p)=true then H2 (pR (fun a b=>fK a b p false) (fun a b=>fK a b p true) (gw x y))else dy
noncomputable def CL:Cmd:=.seq (.seq (.ops [2,3,4,10,12,40,41] [⟨(some 40),none,.load 24 true (.t 11)⟩,co 41 (.mv (.c (.v (.int .i64 0))))]) (.block 0 [10,12] (.loop [2,3,4,10,12,40,41] [10,12] bD))) (.seq (.ops [10] [⟨(some 95),none,.load 7 true (.t 12)⟩,⟨none,none,.store 7 (.t 10) (.t 95)⟩]) (.ret))
theorem FC:EL=.seq (.ops [2,3,4,5,6,10] [⟨(some 5),none,.box 7 (.t 0)⟩,⟨(some 6),none,.box 7 (.t 1)⟩,⟨(some 10),none,.alloc [(.v (.bool false)),.emp,(.v (.int .i64 0)),(.v (.bool false)),.emp,(.v (.int .i64 0)),(.v (.bool false))]⟩]) (.seq (.ops [2,3,4,10,11] [co 19 (.fadr 0 (.t 5)),⟨(some 20),none,.load 3 true (.t 19)⟩,co 21 (.fadr 0 (.t 6)),⟨(some 22),none,.load 3 true (.t 21)⟩,co 23 (.build [(.v (.bool false)),.emp,(.v (.int .i64 0)),(.v (.bool false)),.emp,(.v (.int .i64 0))] [(0,3,(.t 20)),(3,3,(.t 22))]),co 24 (.fadr 0 (.t 5)),⟨(some 25),none,.load 3 true (.t 24)⟩,co 26 (.fadr 3 (.t 6)),⟨(some 27),none,.load 3 true (.t 26)⟩,co 28 (.build [(.v (.bool false)),.emp,(.v (.int .i64 0)),(.v (.bool false)),.emp,(.v (.int .i64 0))] [(0,3,(.t 25)),(3,3,(.t 27))]),co 29 (.fadr 3 (.t 5)),⟨(some 30),none,.load 3 true (.t 29)⟩,co 31 (.fadr 0 (.t 6)),⟨(some 32),none,.load 3 true (.t 31)⟩,co 33 (.build [(.v (.bool false)),.emp,(.v (.int .i64 0)),(.v (.bool false)),.emp,(.v (.int .i64 0))] [(0,3,(.t 30)),(3,3,(.t 32))]),co 34 (.fadr 3 (.t 5)),⟨(some 35),none,.load 3 true (.t 34)⟩,co 36 (.fadr 3 (.t 6)),⟨(some 37),none,.load 3 true (.t 36)⟩,co 38 (.build [(.v (.bool false)),.emp,(.v (.int .i64 0)),(.v (.bool false)),.emp,(.v (.int .i64 0))] [(0,3,(.t 35)),(3,3,(.t 37))]),co 39 (.build [(.v (.bool false)),.emp,(.v (.int .i64 0)),(.v (.bool false)),.emp,(.v (.int .i64 0)),(.v (.bool false)),.emp,(.v (.int .i64 0)),(.v (.bool false)),.emp,(.v (.int .i64 0)),(.v (.bool false)),.emp,(.v (.int .i64 0)),(.v (.bool false)),.emp,(.v (.int .i64 0)),(.v (.bool false)),.emp,(.v (.int .i64 0)),(.v (.bool false)),.emp,(.v (.int .i64 0))] [(0,6,(.t 23)),(6,6,(.t 28)),(12,6,(.t 33)),(18,6,(.t 38))]),⟨(some 11),none,.alloc [(.v (.bool false)),.emp,(.v (.int .i64 0)),(.v (.bool false)),.emp,(.v (.int .i64 0)),(.v (.bool false)),.emp,(.v (.int .i64 0)),(.v (.bool false)),.emp,(.v (.int .i64 0)),(.v (.bool false)),.emp,(.v (.int .i64 0)),(.v (.bool false)),.emp,(.v (.int .i64 0)),(.v (.bool false)),.emp,(.v (.int .i64 0)),(.v (.bool false)),.emp,(.v (.int .i64 0))]⟩,⟨none,none,.store 24 (.t 11) (.t 39)⟩]) (.seq (.ops [2,3,4,10,11,12] [⟨(some 12),none,.alloc [(.v (.bool false)),.emp,(.v (.int .i64 0)),(.v (.bool false)),.emp,(.v (.int .i64 0)),(.v (.bool false))]⟩]) CL)):=rfl
theorem ajY{x y:Ri}(ox:OkI x)(oy:OkI y)(i:Nat):Ok0 (gw x y i).1/\Ok0 (gw x y i).2:=by
 unfold gw;split
 ·exact⟨ox.1,oy.1⟩
 ·exact⟨ox.1,oy.2⟩
 ·exact⟨ox.2,oy.1⟩
 ·exact⟨ox.2,oy.2⟩
def aah(x y:Ri):List AV:=[B x.lo.neg,lm x.lo.m,I x.lo.e,B y.lo.neg,lm y.lo.m,I y.lo.e,B x.lo.neg,lm x.lo.m,I x.lo.e,B y.hi.neg,lm y.hi.m,I y.hi.e,B x.hi.neg,lm x.hi.m,I x.hi.e,B y.lo.neg,lm y.lo.m,I y.lo.e,B x.hi.neg,lm x.hi.m,I x.hi.e,B y.hi.neg,lm y.hi.m,I y.hi.e]
theorem ace{x y:Ri}(ox:OkI x)(oy:OkI y){p:Int}{fD fU:FuncId}{dn up:Rd->Rd->Rd×Int}(oD:Op2 fD dn p)(oU:Op2 fU up p)(s:ak)(h:ac)(h2:s 2=I p)(h3:s 3=.fn fD [] [])(h4:s 4=.fn fU [] [])(h10:s 10=.ref 10 none 0 0 0)(h11:s 11=.ref 11 none 0 0 0)(h12:s 12=.ref 12 none 0 0 0)
  (k10:h 10=.bx [.v (.bool false),.emp,.v (.int .i64 0),.v (.bool false),.emp,.v (.int .i64 0),.v (.bool false)]) (k11:h 11=.bx (aah x y)) (k12:h 12=.bx [.v (.bool false),.emp,.v (.int .i64 0),.v (.bool false),.emp,.v (.int .i64 0),.v (.bool false)]):
  jV false [[.o 0 [],.o 2 [],.o 0 [],.o 0 [],.o 2 [],.o 0 [],.o 0 []]] [.cell 10 7 true] 0 (ai R (ax false) CL s h)=some (am (H2 (pR dn up (gw x y))),[]):=by
 obtain⟨A,hAe⟩:∃A:AV,A=.agg (aah x y):=⟨_,rfl⟩;have hA:gE [10,12] A=A:=by
  rw[hAe];rfl
 have hf:=aag (p:=p) (A:=A) (pr:=gw x y) oD oU hA (fun i hi=>by
  rw[hAe]
  match i,hi with
  |0,_=>rfl
  |1,_=>rfl
  |2,_=>rfl
  |3,_=>rfl) (ajY ox oy)
 have hl:i9 h 24 true (.ref 11 none 0 0 0)=some (A,h,[]):=by
  rw[hAe];simp only[aah]at k11⊢;simp only[go_sem,k11]
 have hP:∀ (s:ak) (h:ac),s 2=I p->s 3=.fn fD [] []->s 4=.fn fU [] []->s 10=.ref 10 none 0 0 0->s 12=.ref 12 none 0 0 0->s 40=A->s 41=I 0->h 10=.bx [.v (.bool false),.emp,.v (.int .i64 0),.v (.bool false),.emp,.v (.int .i64 0),.v (.bool false)]->h 12=.bx [.v (.bool false),.emp,.v (.int .i64 0),.v (.bool false),.emp,.v (.int .i64 0),.v (.bool false)]->
   jV false [[.o 0 [],.o 2 [],.o 0 [],.o 0 [],.o 2 [],.o 0 [],.o 0 []]] [.cell 10 7 true] 0 (cS (ah 0 [10,12] (av (ai R (ax false) bD) [2,3,4,10,12,40,41] [10,12] s h)) (ai R (ax false) (.seq (.ops [10] [⟨(some 95),none,.load 7 true (.t 12)⟩,⟨none,none,.store 7 (.t 10) (.t 95)⟩]) (.ret))))=some (am (H2 (pR dn up (gw x y))),[]):=fun s h a2 a3 a4 a10 a12 a40 a41 b10 b12=>by
  have hg:=hf s h a2 a3 a4 a10 a12 a40 a41 b10 b12;cases ho:pR dn up (gw x y)with
  |none=>
   rw[ho]at hg;obtain⟨hh,g1,g2⟩:=hg;rw[g1];simp only[H2,dy,am,aq,aI,g2,go_sem]
  |some q=>
   rw[ho]at hg;obtain⟨hh,g1,g2,g3⟩:=hg;rw[g1];simp only[H2,am,aq,g2,g3,go_sem]
 generalize hLL:av (ai R (ax false) bD) [2,3,4,10,12,40,41] [10,12]=L at hP;have hX:∀s h,ai R (ax false) (.loop [2,3,4,10,12,40,41] [10,12] bD) s h=L s h:=fun s h=>by rw[←hLL];rfl
 show jV _ _ _ _ (cS (cS (ai R (ax false) (.ops [2,3,4,10,12,40,41] [⟨(some 40),none,.load 24 true (.t 11)⟩,co 41 (.mv (.c (.v (.int .i64 0))))]) s h) fun s h=>ah 0 [10,12] (ai R (ax false) (.loop [2,3,4,10,12,40,41] [10,12] bD) s h)) _)=_;simp only[hX];simp only[go_sem,h2,h3,h4,h10,h11,h12,hl];exact hP _ _ rfl rfl rfl rfl rfl rfl rfl k10 k12
theorem XF{x y:Ri}(ox:OkI x)(oy:OkI y){p:Int}{fD fU:FuncId}{dn up:Rd->Rd->Rd×Int}(oD:Op2 fD dn p)(oU:Op2 fU up p):R F.interval_four [am x,am y,I p,.fn fD [] [],.fn fU [] []] []=some (am (H2 (pR dn up (gw x y))),[]):=by
 refine aB ND rfl ?_;simp only[xB,FC,am,aq,go_sem];exact ace ox oy oD oU _ _ rfl rfl rfl rfl rfl rfl rfl rfl rfl
theorem C9{x y:Ri}(ox:OkI x)(oy:OkI y){p:Int}:R F.interval_Mul [am x,am y,I p] []=some (am (iH x y p),[]):=by
 refine aB O4 rfl ?_;have hk:=EY ox oy;have hp:=uO (p:=p);have hw:=kw;have hf:=XF ox oy (p:=p) (dn:=fun a b=>fK a b p false) (up:=fun a b=>fK a b p true) ⟨fun h1 h2=>Le h1 h2,C8,pg.1.1,pg.1.2.1,pg.1.2.2.2,pg.1.2.2.1⟩ ⟨fun h1 h2=>QU h1 h2,C8,sL.1.1,sL.1.2.1,sL.1.2.2.2,sL.1.2.2.1⟩;unfold iH;simp only[am,aq]at hw hf;cases h1:(kI x&&kI y)with
 |false=>
  rw[h1]at hk;simp only[oR,vz,am,aq,go_sem,hk,hw]
 |true=>
  rw[h1]at hk;cases h2:bQ p with
  |false=>
   rw[h2]at hp;simp only[oR,vz,am,aq,go_sem,hk,hp,hw]
  |true=>
   rw[h2]at hp;simp only[oR,vz,am,aq,go_sem,hk,hp,hf]
def mB(d:Rd)(p:Int)(up:Bool):Nat->Rd×Int->Rd×Int
 |0,r=>r
 |k+1,r=>if r.2=0 then mB d p up k (fK r.1 d p up)else r
def pw(d:Rd)(n:Nat)(p:Int)(up:Bool):Rd×Int:=mB d p up (n-1) (cz d p up)
theorem Da{d:Rd}{p:Int}{up:Bool}:Ok0 (cz d p up).1:=by
 unfold cz;split
 ·exact sN.2
 ·exact bh.2
theorem ajZ{d:Rd}{p:Int}{up:Bool}:∀ (k:Nat) (r:Rd×Int),Ok0 r.1->Ok0 (mB d p up k r).1:=by
 intro k;induction k with
 |zero=>exact fun r h=>h
 |succ k ih=>
  grind[mB,C8]
theorem agn{d:Rd}{n:Nat}{p:Int}{up:Bool}:Ok0 (pw d n p up).1:=ajZ _ _ Da
noncomputable def uR:Cmd:=.seq (.seq (.ops [1,2,4,5,10,12,13,14] [co 14 (.mv (.c (.v (.int .i64 1))))]) (.block 0 [10,12,13] (.loop [1,2,4,5,10,12,13,14] [5,10,12] aU))) (.seq (.ops [10,11] [⟨(some 39),none,.load 3 true (.t 12)⟩,cm 40 13,⟨none,none,.store 3 (.t 10) (.t 39)⟩,cm 11 40]) (.ret))
theorem vX:DS=.seq (.ops [1,2,3,4,5,10] [⟨(some 5),none,.box 3 (.t 0)⟩,⟨(some 10),none,.alloc [(.v (.bool false)),.emp,(.v (.int .i64 0))]⟩,co 11 (.mv (.c (.v (.int .i64 0))))]) (.seq (.ops [1,2,4,5,10,12,13] [cm 16 3,⟨(some 17),none,.load 3 true (.t 5)⟩,cm 18 2,⟨(some 19),none,.call (.t 16) [(.t 17),(.t 18)]⟩,cm 15 19,co 20 (.ext 0 (.t 15)),co 21 (.ext 1 (.t 15)),⟨(some 12),none,.alloc [(.v (.bool false)),.emp,(.v (.int .i64 0))]⟩,⟨none,none,.store 3 (.t 12) (.t 20)⟩,cm 13 21]) uR):=rfl
theorem acf{d:Rd}(ok:Ok0 d){p:Int}{n:Nat}(hn:n<=100000):∀ (k i:Nat),i+k=n->∀ (r:Rd×Int),Ok0 r.1->∀ (s:ak) (h:ac),s 1=I n->s 2=I p->s 4=.fn F.round_MulUp [] []->s 5=.ref 5 none 0 0 0->s 10=.ref 10 none 0 0 0->s 12=.ref 12 none 0 0 0->s 13=I r.2->s 14=I i->
  h 5=.bx (aj d)->h 10=.bx [.v (.bool false),.emp,.v (.int .i64 0)]->h 12=.bx (aj r.1)->
  ∃hh,ah 0 [10,12,13] (av (ai R (ax false) aU) [1,2,4,5,10,12,13,14] [5,10,12] s h)=some (.normal,⟨upd (upd (upd (fun _=>.any) 13 (I (mB d p true k r).2)) 12 (.ref 12 none 0 0 0)) 10 (.ref 10 none 0 0 0),hh⟩)/\hh 10=.bx [.v (.bool false),.emp,.v (.int .i64 0)]/\hh 12=.bx (aj (mB d p true k r).1):=by
 intro k;induction k with
 |zero=>
  intro i hi r hr s h h1 h2 h4 h5 h10 h12 h13 h14 k5 k10 k12;have e1:((i:Int)<n)=False:=ff;rw[ag];refine⟨?hh0,?_,?_,?_⟩;rotate_left
  ·simp only[aU,mB,go_sem,h1,h2,h4,h5,h10,h12,h13,h14,k5,k10,k12,e1];rfl
  ·rfl
  ·rfl
 |succ k ih=>
  intro i hi r hr s h h1 h2 h4 h5 h10 h12 h13 h14 k5 k10 k12;have e1:((i:Int)<n)=True:=tt;have e5:IntKind.i64.wrap ((i:Int)+1)=((i+1:Nat):Int):=wi;obtain⟨r1,r2⟩:=r;have hm:=QU hr ok (p:=p);have okm:=C8 (a:=r1) (b:=d) (p:=p) (up:=true);have ih':=ih (i+1) ω;unfold mB;generalize fK r1 d p true=q at hm okm⊢;obtain⟨q1,q2⟩:=q;simp only[rV,af,aj]at hm k5 k12;rw[ag];by_cases hr:r2=0
  ·have er:(r2=0)=True:=tt hr;simp only[aU,aj,go_sem,h1,h2,h4,h5,h10,h12,h13,h14,k5,k10,k12,e1,er,hm,e5];exact ih' (q1,q2) okm _ _ rfl rfl rfl rfl rfl rfl rfl rfl rfl rfl rfl
  ·have er:(r2=0)=False:=ff hr;rw[if_neg hr];refine⟨?hh1,?_,?_,?_⟩;rotate_left
   ·simp only[aU,go_sem,h1,h2,h4,h5,h10,h12,h13,h14,k5,k10,k12,e1,er];rfl
   ·rfl
   ·rfl
theorem acg{d:Rd}(ok:Ok0 d){p:Int}{n:Nat}(hn:n<=100000){r:Rd×Int}(hr:Ok0 r.1)(s:ak)(h:ac)(h1:s 1=I n)(h2:s 2=I p)(h4:s 4=.fn F.round_MulUp [] [])(h5:s 5=.ref 5 none 0 0 0)(h10:s 10=.ref 10 none 0 0 0)(h12:s 12=.ref 12 none 0 0 0)(h13:s 13=I r.2)
  (k5:h 5=.bx (aj d)) (k10:h 10=.bx [.v (.bool false),.emp,.v (.int .i64 0)]) (k12:h 12=.bx (aj r.1)):
  jV false [[.o 0 [],.o 2 [],.o 0 []],[]] [.cell 10 3 true,.t 11] 0 (ai R (ax false) uR s h)=some (rV (mB d p true (n-1) r),[]):=by
 have hl:∀ (s:ak) (h:ac),s 1=I n->s 2=I p->s 4=.fn F.round_MulUp [] []->s 5=.ref 5 none 0 0 0->s 10=.ref 10 none 0 0 0->s 12=.ref 12 none 0 0 0->s 13=I r.2->s 14=I 1->
  h 5=.bx (aj d)->h 10=.bx [.v (.bool false),.emp,.v (.int .i64 0)]->h 12=.bx (aj r.1)->
  ∃hh,ah 0 [10,12,13] (av (ai R (ax false) aU) [1,2,4,5,10,12,13,14] [5,10,12] s h)=some (.normal,⟨upd (upd (upd (fun _=>.any) 13 (I (mB d p true (n-1) r).2)) 12 (.ref 12 none 0 0 0)) 10 (.ref 10 none 0 0 0),hh⟩)/\hh 10=.bx [.v (.bool false),.emp,.v (.int .i64 0)]/\hh 12=.bx (aj (mB d p true (n-1) r).1):=by
  by_cases h0:n=0
  ·intro s h a1 a2 a4 a5 a10 a12 a13 a14 b5 b10 b12;have e1:((1:Int)< (n:Nat))=False:=ff;subst h0;rw[ag];refine⟨?hh0,?_,?_,?_⟩;rotate_left
   ·simp only[aU,mB,go_sem,avV,a1,a2,a4,a5,a10,a12,a13,a14,b5,b10,b12,e1];rfl
   ·rfl
   ·rfl
  ·have:=acf ok (p:=p) hn (n-1) 1 ω r hr
   simp_all
 generalize mB d p true (n-1) r=q at hl⊢;obtain⟨r1,r2⟩:=r;obtain⟨q1,q2⟩:=q;have hP:∀ (s:ak) (h:ac),s 1=I n->s 2=I p->s 4=.fn F.round_MulUp [] []->s 5=.ref 5 none 0 0 0->s 10=.ref 10 none 0 0 0->s 12=.ref 12 none 0 0 0->s 13=I r2->s 14=I 1->
  h 5=.bx (aj d)->h 10=.bx [.v (.bool false),.emp,.v (.int .i64 0)]->h 12=.bx (aj r1)->
  jV false [[.o 0 [],.o 2 [],.o 0 []],[]] [.cell 10 3 true,.t 11] 0 (cS (ah 0 [10,12,13] (av (ai R (ax false) aU) [1,2,4,5,10,12,13,14] [5,10,12] s h)) (ai R (ax false) (.seq (.ops [10,11] [⟨(some 39),none,.load 3 true (.t 12)⟩,cm 40 13,⟨none,none,.store 3 (.t 10) (.t 39)⟩,cm 11 40]) (.ret))))=some (rV (q1,q2),[]):=fun s h a1 a2 a4 a5 a10 a12 a13 a14 b5 b10 b12=>by
  obtain⟨hh,g1,g2,g3⟩:=hl s h a1 a2 a4 a5 a10 a12 a13 a14 b5 b10 b12;rw[g1];simp only[rV,af,aj,g2,g3,go_sem]
 generalize hLL:av (ai R (ax false) aU) [1,2,4,5,10,12,13,14] [5,10,12]=L at hP;have hX:∀s h,ai R (ax false) (.loop [1,2,4,5,10,12,13,14] [5,10,12] aU) s h=L s h:=fun s h=>by rw[←hLL];rfl
 show jV _ _ _ _ (cS (cS (ai R (ax false) (.ops [1,2,4,5,10,12,13,14] [co 14 (.mv (.c (.v (.int .i64 1))))]) s h) fun s h=>ah 0 [10,12,13] (ai R (ax false) (.loop [1,2,4,5,10,12,13,14] [5,10,12] aU) s h)) _)=_;simp only[hX];simp only[go_sem,h1,h2,h4,h5,h10,h12,h13];exact hP _ _ rfl rfl rfl rfl rfl rfl rfl rfl k5 k10 k12
theorem ahd{d:Rd}(ok:Ok0 d){p:Int}{n:Nat}(hn:n<=100000):R F.interval_power [af d,I n,I p,.fn F.round_Up [] [],.fn F.round_MulUp [] []] []=some (rV (pw d n p true),[]):=by
 refine aB D0 rfl ?_;have hr:=XE ok (p:=p);have okr:=Da (d:=d) (p:=p) (up:=true);have ht:=acg ok (p:=p) hn okr;simp only[rV,af,aj]at hr;simp only[pP,vX,af,aj,go_sem,hr];exact ht _ _ rfl rfl rfl rfl rfl rfl rfl rfl rfl rfl
theorem ach{d:Rd}(ok:Ok0 d){p:Int}{n:Nat}(hn:n<=100000):∀ (k i:Nat),i+k=n->∀ (r:Rd×Int),Ok0 r.1->∀ (s:ak) (h:ac),s 1=I n->s 2=I p->s 4=.fn F.round_MulDown [] []->s 5=.ref 5 none 0 0 0->s 10=.ref 10 none 0 0 0->s 12=.ref 12 none 0 0 0->s 13=I r.2->s 14=I i->
  h 5=.bx (aj d)->h 10=.bx [.v (.bool false),.emp,.v (.int .i64 0)]->h 12=.bx (aj r.1)->
  ∃hh,ah 0 [10,12,13] (av (ai R (ax false) aU) [1,2,4,5,10,12,13,14] [5,10,12] s h)=some (.normal,⟨upd (upd (upd (fun _=>.any) 13 (I (mB d p false k r).2)) 12 (.ref 12 none 0 0 0)) 10 (.ref 10 none 0 0 0),hh⟩)/\hh 10=.bx [.v (.bool false),.emp,.v (.int .i64 0)]/\hh 12=.bx (aj (mB d p false k r).1):=by
 intro k;induction k with
 |zero=>
  intro i hi r hr s h h1 h2 h4 h5 h10 h12 h13 h14 k5 k10 k12;have e1:((i:Int)<n)=False:=ff;rw[ag];refine⟨?hh0,?_,?_,?_⟩;rotate_left
  ·simp only[aU,mB,go_sem,h1,h2,h4,h5,h10,h12,h13,h14,k5,k10,k12,e1];rfl
  ·rfl
  ·rfl
 |succ k ih=>
  intro i hi r hr s h h1 h2 h4 h5 h10 h12 h13 h14 k5 k10 k12;have e1:((i:Int)<n)=True:=tt;have e5:IntKind.i64.wrap ((i:Int)+1)=((i+1:Nat):Int):=wi;obtain⟨r1,r2⟩:=r;have hm:=Le hr ok (p:=p);have okm:=C8 (a:=r1) (b:=d) (p:=p) (up:=false);have ih':=ih (i+1) ω;unfold mB;generalize fK r1 d p false=q at hm okm⊢;obtain⟨q1,q2⟩:=q;simp only[rV,af,aj]at hm k5 k12;rw[ag];by_cases hr:r2=0
  ·have er:(r2=0)=True:=tt hr;simp only[aU,aj,go_sem,h1,h2,h4,h5,h10,h12,h13,h14,k5,k10,k12,e1,er,hm,e5];exact ih' (q1,q2) okm _ _ rfl rfl rfl rfl rfl rfl rfl rfl rfl rfl rfl
  ·have er:(r2=0)=False:=ff hr;rw[if_neg hr];refine⟨?hh1,?_,?_,?_⟩;rotate_left
   ·simp only[aU,go_sem,h1,h2,h4,h5,h10,h12,h13,h14,k5,k10,k12,e1,er];rfl
   ·rfl
   ·rfl
theorem aci{d:Rd}(ok:Ok0 d){p:Int}{n:Nat}(hn:n<=100000){r:Rd×Int}(hr:Ok0 r.1)(s:ak)(h:ac)(h1:s 1=I n)(h2:s 2=I p)(h4:s 4=.fn F.round_MulDown [] [])(h5:s 5=.ref 5 none 0 0 0)(h10:s 10=.ref 10 none 0 0 0)(h12:s 12=.ref 12 none 0 0 0)(h13:s 13=I r.2)
  (k5:h 5=.bx (aj d)) (k10:h 10=.bx [.v (.bool false),.emp,.v (.int .i64 0)]) (k12:h 12=.bx (aj r.1)):
  jV false [[.o 0 [],.o 2 [],.o 0 []],[]] [.cell 10 3 true,.t 11] 0 (ai R (ax false) uR s h)=some (rV (mB d p false (n-1) r),[]):=by
 have hl:∀ (s:ak) (h:ac),s 1=I n->s 2=I p->s 4=.fn F.round_MulDown [] []->s 5=.ref 5 none 0 0 0->s 10=.ref 10 none 0 0 0->s 12=.ref 12 none 0 0 0->s 13=I r.2->s 14=I 1->
  h 5=.bx (aj d)->h 10=.bx [.v (.bool false),.emp,.v (.int .i64 0)]->h 12=.bx (aj r.1)->
  ∃hh,ah 0 [10,12,13] (av (ai R (ax false) aU) [1,2,4,5,10,12,13,14] [5,10,12] s h)=some (.normal,⟨upd (upd (upd (fun _=>.any) 13 (I (mB d p false (n-1) r).2)) 12 (.ref 12 none 0 0 0)) 10 (.ref 10 none 0 0 0),hh⟩)/\hh 10=.bx [.v (.bool false),.emp,.v (.int .i64 0)]/\hh 12=.bx (aj (mB d p false (n-1) r).1):=by
  by_cases h0:n=0
  ·intro s h a1 a2 a4 a5 a10 a12 a13 a14 b5 b10 b12;have e1:((1:Int)< (n:Nat))=False:=ff;subst h0;rw[ag];refine⟨?hh0,?_,?_,?_⟩;rotate_left
   ·simp only[aU,mB,go_sem,avV,a1,a2,a4,a5,a10,a12,a13,a14,b5,b10,b12,e1];rfl
   ·rfl
   ·rfl
  ·have:=ach ok (p:=p) hn (n-1) 1 ω r hr
   simp_all
 generalize mB d p false (n-1) r=q at hl⊢;obtain⟨r1,r2⟩:=r;obtain⟨q1,q2⟩:=q;have hP:∀ (s:ak) (h:ac),s 1=I n->s 2=I p->s 4=.fn F.round_MulDown [] []->s 5=.ref 5 none 0 0 0->s 10=.ref 10 none 0 0 0->s 12=.ref 12 none 0 0 0->s 13=I r2->s 14=I 1->
  h 5=.bx (aj d)->h 10=.bx [.v (.bool false),.emp,.v (.int .i64 0)]->h 12=.bx (aj r1)->
  jV false [[.o 0 [],.o 2 [],.o 0 []],[]] [.cell 10 3 true,.t 11] 0 (cS (ah 0 [10,12,13] (av (ai R (ax false) aU) [1,2,4,5,10,12,13,14] [5,10,12] s h)) (ai R (ax false) (.seq (.ops [10,11] [⟨(some 39),none,.load 3 true (.t 12)⟩,cm 40 13,⟨none,none,.store 3 (.t 10) (.t 39)⟩,cm 11 40]) (.ret))))=some (rV (q1,q2),[]):=fun s h a1 a2 a4 a5 a10 a12 a13 a14 b5 b10 b12=>by
  obtain⟨hh,g1,g2,g3⟩:=hl s h a1 a2 a4 a5 a10 a12 a13 a14 b5 b10 b12;rw[g1];simp only[rV,af,aj,g2,g3,go_sem]
 generalize hLL:av (ai R (ax false) aU) [1,2,4,5,10,12,13,14] [5,10,12]=L at hP;have hX:∀s h,ai R (ax false) (.loop [1,2,4,5,10,12,13,14] [5,10,12] aU) s h=L s h:=fun s h=>by rw[←hLL];rfl
 show jV _ _ _ _ (cS (cS (ai R (ax false) (.ops [1,2,4,5,10,12,13,14] [co 14 (.mv (.c (.v (.int .i64 1))))]) s h) fun s h=>ah 0 [10,12,13] (ai R (ax false) (.loop [1,2,4,5,10,12,13,14] [5,10,12] aU) s h)) _)=_;simp only[hX];simp only[go_sem,h1,h2,h4,h5,h10,h12,h13];exact hP _ _ rfl rfl rfl rfl rfl rfl rfl rfl k5 k10 k12
theorem ahe{d:Rd}(ok:Ok0 d){p:Int}{n:Nat}(hn:n<=100000):R F.interval_power [af d,I n,I p,.fn F.round_Down [] [],.fn F.round_MulDown [] []] []=some (rV (pw d n p false),[]):=by
 refine aB D0 rfl ?_;have hr:=QV ok (p:=p);have okr:=Da (d:=d) (p:=p) (up:=false);have ht:=aci ok (p:=p) hn okr;simp only[rV,af,aj]at hr;simp only[pP,vX,af,aj,go_sem,hr];exact ht _ _ rfl rfl rfl rfl rfl rfl rfl rfl rfl rfl
def sS(d:Rd):Int:=if vd d=false\/d.m.length=0 then 0 else if d.neg=true then-1 else 1
theorem yg{d:Rd}(ok:Ok0 d):Ok0 (hF d):=by
 unfold hF;split
 ·exact bh.2
 ·exact⟨ok.1,ok.2⟩
theorem aj0{d:Rd}(h:sS d<0):¬sS (hF d)<0:=by
 unfold sS at h;split at h
 ·omega
 ·split at h
  ·unfold sS hF;grind
  omega
def qJ(d:Rd)(n:Nat)(p:Int)(up:Bool):Rd×Int:=if sS d<0 then(hF (pw (hF d) n p (!up)).1,(pw (hF d) n p (!up)).2)else pw d n p up
theorem XG{d:Rd}(ok:Ok0 d)(hs:¬sS d<0){p:Int}{n:Nat}(hn:n<=100000){up:Bool}:R F.interval_end [af d,I n,I p,B up] []=some (rV (pw d n p up),[]):=by
 refine aB F8 rfl ?_;have h1:=Po ok;rw[show(if vd d=false\/d.m.length=0 then(0:Int)else if d.neg=true then-1 else 1)=sS d from rfl]at h1;have e1:(sS d<0)=False:=ff hs;cases up with
 |true=>
  have h2:=ahd ok (p:=p) hn;simp only[rV,af,aj]at h1 h2;simp only[oZ,vK,rV,af,aj,go_sem,h1,e1,h2]
 |false=>
  have h2:=ahe ok (p:=p) hn;simp only[rV,af,aj]at h1 h2;simp only[oZ,vK,rV,af,aj,go_sem,h1,e1,h2]
theorem NU{d:Rd}(ok:Ok0 d){p:Int}{n:Nat}(hn:n<=100000){up:Bool}:R F.interval_end [af d,I n,I p,B up] []=some (rV (qJ d n p up),[]):=by
 unfold qJ;by_cases hs:sS d<0
 ·refine aB F8 rfl ?_;have h1:=Po ok;rw[show(if vd d=false\/d.m.length=0 then(0:Int)else if d.neg=true then-1 else 1)=sS d from rfl]at h1;have e1:(sS d<0)=True:=tt hs;have h2:=D5 ok;rw[show(if vd d=false\/d.m.length=0 then aI else(⟨!d.neg,d.m,d.e⟩:Rd))=hF d from rfl]at h2;have h3:=XG (yg ok) (aj0 hs) (p:=p) hn (up:=!up);have okq:=agn (d:=hF d) (n:=n) (p:=p) (up:=!up);generalize hF d=nd at h2 h3 okq⊢;generalize pw nd n p (!up)=q at h3 okq⊢;obtain⟨q1,q2⟩:=q;have h4:=D5 (d:=q1) okq;rw[show(if vd q1=false\/q1.m.length=0 then aI else(⟨!q1.neg,q1.m,q1.e⟩:Rd))=hF q1 from rfl]at h4;simp only[rV,af,aj]at h1 h2 h3 h4;simp only[oZ,vK,rV,af,aj,go_sem,h1,e1,h2,h3,h4]
 simp_all[if_neg,XG]
def one:Rd:=⟨false,[1],0⟩
theorem Jg:R F.dyadic_Int [I 1] []=some (af one,[]):=by
 grind[NS,I64,bF,one,nj,zG,au,sU,gX]
theorem eG:vd one=true/\Ok0 one:=⟨by decide,⟨fun x hx=>by rw[List.mem_singleton.1 hx];decide,by decide⟩⟩
def Eb(x:Ri)(n:Nat)(p:Int):Ri:=if(kI x&&bQ p&&decide (n<=16))=true then(if n=0 then⟨one,one,false⟩else
 tT (qJ (if n%2=0 then uQ x else x).lo n p false) (qJ (if n%2=0 then uQ x else x).hi n p true))else dy
theorem U1{a b:Rd}(oa:Ok0 a)(ob:Ok0 b):Ok0 (kL a b):=by
 grind[kL]
theorem U2{a b:Rd}(oa:Ok0 a)(ob:Ok0 b):Ok0 (kN a b):=by
 grind[kN]
theorem XH{x:Ri}(ok:OkI x):OkI (uQ x):=by
 unfold uQ;split
 ·refine⟨?_,U2 (yf ok.lo) (yf ok.hi)⟩;unfold AT;split
  ·exact bh.2
  ·exact U1 (yf ok.lo) (yf ok.hi)
 ·exact⟨bh.2,bh.2⟩
theorem XI{d:Rd}(ok:Ok0 d){n:Nat}{p:Int}{up:Bool}:Ok0 (qJ d n p up).1:=by
 grind[qJ,yg,agn]
theorem Jh{x:Ri}(ok:OkI x){p:Int}{n:Nat}(hn:n<=100000):R F.interval_Power [am x,I n,I p] []=some (am (Eb x n p),[]):=by
 refine aB LU rfl ?_;have hk:=uP ok;have hp:=uO (p:=p);have hw:=kw;have n0:((n:Int)<0)=False:=ff;unfold Eb;simp only[am,aq]at hw;cases h1:kI x with
 |false=>
  rw[h1]at hk;simp only[fJ,iQ,am,aq,go_sem,hk,hw]
 |true=>
  rw[h1]at hk;cases h2:bQ p with
  |false=>
   rw[h2]at hp;simp only[fJ,iQ,am,aq,go_sem,hk,hp,hw]
  |true=>
   rw[h2]at hp;rw[avz,avz];by_cases h3:n<=16
   ·have e3:(16< (n:Int))=False:=ff;rw[if_pos (decide_eq_true h3)];by_cases h4:n=0
    ·have e4:((n:Int)=0)=True:=tt;rw[if_pos h4];have g1:=Jg;have g2:=kB eG.2 eG.1;simp only[one,am,aq,af,aj]at g1 g2;simp only[fJ,iQ,one,am,aq,go_sem,hk,hp,n0,e3,e4,g1,g2]
    ·have e4:((n:Int)=0)=False:=ff;rw[if_neg h4];by_cases h5:n%2=0
     ·have e5:((n:Int).tmod 2=0)=True:=tt γ;rw[if_pos h5];have ha:=ahc ok;have oa:=XH ok;generalize uQ x=y at ha oa⊢;have g1:=NU oa.lo hn (p:=p) (up:=false);have g2:=NU oa.hi hn (p:=p) (up:=true);generalize qJ y.lo n p false=r at g1⊢;generalize qJ y.hi n p true=q at g2⊢;obtain⟨r1,r2⟩:=r;obtain⟨q1,q2⟩:=q;have hm:=Pu (a:=r1) (b:=q1) (e:=r2) (f:=q2);simp only[am,aq,af,aj,rV]at ha g1 g2 hm;simp only[fJ,iQ,am,aq,go_sem,avX,hk,hp,n0,e3,e4,e5,ha,g1,g2,hm]
     ·have e5:((n:Int).tmod 2=0)=False:=ff γ;rw[if_neg h5];have g1:=NU ok.lo hn (p:=p) (up:=false);have g2:=NU ok.hi hn (p:=p) (up:=true);generalize qJ x.lo n p false=r at g1⊢;generalize qJ x.hi n p true=q at g2⊢;obtain⟨r1,r2⟩:=r;obtain⟨q1,q2⟩:=q;have hm:=Pu (a:=r1) (b:=q1) (e:=r2) (f:=q2);simp only[am,aq,af,aj,rV]at g1 g2 hm;simp only[fJ,iQ,am,aq,go_sem,avX,hk,hp,n0,e3,e4,e5,g1,g2,hm]
   ·have e3:(16< (n:Int))=True:=tt;rw[if_neg (fun h=>h3 (of_decide_eq_true h))];simp only[fJ,iQ,am,aq,go_sem,hk,hp,n0,e3,hw]
def Ec(x:Ri)(e:Nat)(p:Int):Ri:=if e<=16 then Eb x e p else iH (Eb x 16 p) (Eb x (e-16) p) p
theorem U3{r s:Rd×Int}(h1:Ok0 r.1)(h2:Ok0 s.1):OkI (tT r s):=by
 unfold tT;split
 ·exact⟨h1,h2⟩
 ·exact⟨bh.2,bh.2⟩
theorem Py{x:Ri}(ok:OkI x){n:Nat}{p:Int}:OkI (Eb x n p):=by
 unfold Eb;have h:OkI (if n%2=0 then uQ x else x):=by
  grind[XH]
 split
 ·split
  ·exact⟨eG.2,eG.2⟩
  ·exact U3 (XI h.1) (XI h.2)
 ·exact⟨bh.2,bh.2⟩
theorem ahf{x:Ri}(ok:OkI x){p:Int}{e:Nat}(hn:e<=100000):R F.bound_power [am x,I e,I p] []=some (am (Ec x e p),[]):=by
 refine aB Sm rfl ?_;unfold Ec;by_cases h1:e<=16
 ·have e1:((e:Int)<=16)=True:=tt;rw[if_pos h1];have h2:=Jh ok hn (p:=p);simp only[am,aq]at h2;simp only[vF,Ck,am,aq,go_sem,e1,h2]
 ·have e1:((e:Int)<=16)=False:=ff;rw[if_neg h1];have h2:=Jh ok (show 16<=100000 by decide) (p:=p);have h3:=Jh ok (show e-16<=100000 by omega) (p:=p);have o2:=Py ok (n:=16) (p:=p);have o3:=Py ok (n:=e-16) (p:=p);have w1:IntKind.i64.wrap ((e:Int)-16)=((e-16:Nat):Int):=wi;have h4:=C9 o2 o3 (p:=p);simp only[am,aq,Int.cast_ofNat_Int]at h2 h3 h4;simp only[vF,Ck,am,aq,go_sem,e1,h2,h3,h4,w1]
def aO(l:List Int):List (List AV):=l.map fun(n:Int)=>[I n]
@[go_sem] theorem AU(l:List Int):(aO l).length=l.length:=by simp[aO]
theorem qK{l:List Int}{i:Int}{n:Nat}{d:Int}(hi:i=n)(h:l[n]?=some d):bp (aO l) i=some (.ipt [I d]):=by
 grind[bp,aO]
theorem U4{x:Int}:R F.cmp_isNaN_int_ [I x] []=some (B false,[]):=by
 refine aB LZ rfl ?_;simp only[wu,DQ,go_sem]
theorem acj{x y:Int}:R F.cmp_Compare_int_ [I x,I y] []=some (I (eJ x y),[]):=by
 refine aB I4 rfl ?_;have h1:=U4 (x:=x);have h2:=U4 (x:=y);unfold eJ;by_cases e1:x<y
 ·have f1:(x<y)=True:=tt e1;simp only[j7,oW,go_sem,h1,h2,f1]
 ·have f1:(x<y)=False:=ff e1;by_cases e2:y<x
  ·have f2:(y<x)=True:=tt e2;simp only[j7,oW,go_sem,h1,h2,f1,f2]
  ·have f2:(y<x)=False:=ff e2;simp only[j7,oW,go_sem,h1,h2,f1,f2]
def lK:List Int->List Int->Int
 |[],[]=>0
 |[],_::_=>-1
 |_::_,[]=>1
 |x::xs,y::ys=>if eJ x y=0 then lK xs ys else eJ x y
theorem aeL{a b:List Int}(hl:a.length=b.length)(h2:a.length<=100000):∀ (k i:Nat),i+k=a.length->∀ (s:ak) (h:ac),s 0=.sl 1 (aO a)->s 1=.sl 1 (aO b)->s 9=.sl 1 (aO a)->s 10=I a.length->s 11=I i->
  ∃hh,ah 0 [0,1] (av (ai R (ax false) eW) [0,1,9,10,11] [] s h)=if lK (a.drop i) (b.drop i)=0 then some (.normal,⟨upd (upd (fun _=>.any) 1 (.sl 1 (aO b))) 0 (.sl 1 (aO a)),fun _=>.dead⟩)else some (.ret,⟨upd (fun _=>.any) 4 (I (lK (a.drop i) (b.drop i))),hh⟩):=by
 intro k;induction k with
 |zero=>
  intro i hi s h h0 h1 h9 h10 h11;have e1:((i:Int)<a.length)=False:=ff;rw[avH ω,avH ω,ag];refine⟨fun _=>.dead,?_⟩;show _=if(0:Int)=0 then _ else _
  simp only[eW,go_sem,h0,h1,h9,h10,h11,e1]
 |succ k ih=>
  intro i hi s h h0 h1 h9 h10 h11;have hlt:i<a.length:=ω
  have hlt2:i<b.length:=ω
  have e1:((i:Int)<a.length)=True:=tt;have e4:((b.length:Int)<=(i:Int))=False:=ff;have e2:bp (aO a) (i:Int)=some (.ipt [I a[i]]):=qK rfl (List.getElem?_eq_getElem hlt);have e3:bp (aO b) (i:Int)=some (.ipt [I b[i]]):=qK rfl (List.getElem?_eq_getElem hlt2);have e5:IntKind.i64.wrap ((i:Int)+1)=((i+1:Nat):Int):=wi;rw[avI hlt,avI hlt2,ag];have ih':=ih (i+1) ω;have hc:=acj (x:=a[i]) (y:=b[i]);generalize a[i]=x at e2 hc⊢;generalize b[i]=y at e3 hc⊢;unfold lK;by_cases hz:eJ x y=0
  ·have e6:(eJ x y=0)=True:=tt hz;simp only[eW,go_sem,h0,h1,h9,h10,h11,e1,e2,e3,e4,e5,hc,e6];exact ih' _ _ rfl rfl rfl rfl rfl
  ·have e6:(eJ x y=0)=False:=ff hz;refine⟨?hh,?_⟩;rotate_left;simp only[eW,go_sem,h0,h1,h9,h10,h11,e1,e2,e3,e4,hc,e6];rfl
theorem aai{a b:List Int}(hl:a.length=b.length)(h2:a.length<=100000):R F.slices_Compare_int_int_ [.sl 1 (aO a),.sl 1 (aO b)] []=some (I (lK a b),[]):=by
 refine aB CV rfl ?_;have h3:=aeL hl h2 a.length 0 (avs _);simp only[List.drop_zero,av7]at h3;by_cases hz:lK a b=0
 ·simp only[if_pos hz]at h3;have e1:((a.length:Int)<b.length)=False:=ff;simp only[iK,me,go_sem];rw[(h3 _ _ rfl rfl rfl rfl rfl).choose_spec,hz];simp only[go_sem,e1]
 ·simp only[if_neg hz]at h3;simp only[iK,me,go_sem];rw[(h3 _ _ rfl rfl rfl rfl rfl).choose_spec];simp only[go_sem]
def bt:List Int->Int
 |[]=>0
 |x::l=>x+bt l
def sm(l:List Int):Prop:=l.length<=1000/\∀x∈l,0<=x/\x<=32
theorem U5{l:List Int}{i:Nat}(h:i<l.length):bt (l.take (i+1))=bt (l.take i)+l[i]:=by
 induction l generalizing i with
 |nil=>grind
 |cons a l ih=>
  cases i with
  |zero=>simp[bt]
  |succ i=>
   have:=ih (i:=i) (by simpa using h);simp only[List.take_succ_cons,bt,List.getElem_cons_succ];omega
theorem ack{l:List Int}(h:∀x∈l,0<=x/\x<=32):0<=bt l/\bt l<=32*l.length:=by
 induction l with
 |nil=>exact⟨Int.le_refl _,Int.le_refl _⟩
 |cons a l ih=>
  have h1:=h a (List.mem_cons_self ..);have h2:=ih (fun x hx=>h x (List.mem_cons_of_mem _ hx));grind[bt,av2]
theorem aeM{a:List Int}(h2:sm a):∀ (k i:Nat),i+k=a.length->∀ (s:ak) (h:ac),s 3=I (bt (a.take i))->s 6=.sl 1 (aO a)->s 7=I a.length->s 8=I i->
  ah 0 [3] (av (ai R (ax false) rD) [3,6,7,8] [] s h)=some (.normal,⟨upd (fun _=>.any) 3 (I (bt a)),fun _=>.dead⟩):=by
 intro k;induction k with
 |zero=>
  intro i hi s h h3 h6 h7 h8;have e1:((i:Int)<a.length)=False:=ff;rw[avL ω]at h3;rw[ag];simp only[rD,go_sem,h3,h6,h7,h8,e1]
 |succ k ih=>
  intro i hi s h h3 h6 h7 h8;have hlt:i<a.length:=ω
  obtain⟨g1,g2⟩:=h2;have e1:((i:Int)<a.length)=True:=tt;have e2:bp (aO a) (i:Int)=some (.ipt [I a[i]]):=qK rfl (List.getElem?_eq_getElem hlt);have e5:IntKind.i64.wrap ((i:Int)+1)=((i+1:Nat):Int):=wi;have b1:=ack (l:=a.take i) (fun x hx=>g2 x (List.mem_of_mem_take hx));have b2:=g2 a[i] (avN hlt);have e6:IntKind.i64.wrap (bt (a.take i)+a[i])=bt (a.take (i+1)):=by
   grind[U5,i64_in]
  have ih':=ih (i+1) ω;rw[ag];simp only[rD,go_sem,h3,h6,h7,h8,e1,e2,e5,e6];exact ih' _ _ rfl rfl rfl rfl
theorem yi{a:List Int}(h2:sm a):R F.poly_degree [.sl 1 (aO a)] []=some (I (bt a),[]):=by
 refine aB Si rfl ?_;have h3:=aeM h2 a.length 0 (avs _);simp only[Aw,HT,go_sem];rw[h3 _ _ rfl rfl rfl rfl];simp only[go_sem]
def cw(a b:List Int):Int:=if eJ (bt a) (bt b)=0 then lK b a else eJ (bt a) (bt b)
theorem U6{a b:List Int}(ha:sm a)(hb:sm b)(hl:a.length=b.length):R F.poly_order [.sl 1 (aO a),.sl 1 (aO b)] []=some (I (cw a b),[]):=by
 refine aB Ul rfl ?_;have d1:=yi ha;have d2:=yi hb;have d3:=acj (x:=bt a) (y:=bt b);have d4:=aai hl.symm (by have:=hb.1;omega);unfold cw;by_cases hz:eJ (bt a) (bt b)=0
 ·have e6:(eJ (bt a) (bt b)=0)=True:=tt hz;simp only[xc,DF,go_sem,d1,d2,d3,d4,e6]
 ·have e6:(eJ (bt a) (bt b)=0)=False:=ff hz;simp only[xc,DF,go_sem,d1,d2,d3,e6]
structure Rt where
 exps:List Int
 c:Rd
structure Rp where
 vars:Int
 terms:List Rt
def cx(t:Rt):List AV:=[.sl 1 (aO t.exps),B t.c.neg,lm t.c.m,I t.c.e]
def aH(l:List Rt):List (List AV):=l.map cx
def aZ(a:Rp):AV:=.agg [I a.vars,.sl 4 (aH a.terms)]
@[go_sem] theorem n9(l:List Rt):(aH l).length=l.length:=by simp[aH]
theorem iX{l:List Rt}{i:Int}{n:Nat}{d:Rt}(hi:i=n)(h:l[n]?=some d):bp (aH l) i=some (.ipt (cx d)):=by
 grind[bp,aH]
theorem qV{α:Type}{f:α->α}{l:List α}(h:∀x∈l,f x=x):l.map f=l:=(avR (g:=fun c=>c) h).trans (av5 _)
@[go_sem] theorem Gf(l:List Rt):(aH l).map (dU [.o 2 [],.o 0 [],.o 2 [],.o 0 []])=aH l:=by
 refine qV fun x hx=>?_;simp only[aH,awc]at hx;obtain⟨t,ht,rfl⟩:=hx;simp only[cx,go_sem]
structure OkT (t:Rt):Prop where
 c:Ok0 t.c
 len:t.exps.length<=100000
structure OkP (a:Rp):Prop where
 t:∀t∈a.terms,OkT t
def Ed(e:Int):Bool:=decide (e<0)||decide (32<e)
theorem aj1{e:Int}:R F.poly_Valid_1 [I e] []=some (B (Ed e),[]):=by
 refine aB F7 rfl ?_;unfold Ed;by_cases h:e<0
 ·have e1:(e<0)=True:=tt h;simp only[tK,Av,go_sem,e1,decide_true,Bool.true_or]
 ·have e1:(e<0)=False:=ff h;simp only[tK,Av,go_sem,e1,decide_false,Bool.false_or]
theorem aeN{l:List Int}(h2:l.length<=100000):R F.slices_ContainsFunc_int_int_ [.sl 1 (aO l),.fn F.poly_Valid_1 [] []] []=some (B (l.any Ed),[]):=by
 let p:List AV->Bool:=fun row=>match row with|[.v (.int _ e)]=>Ed e|_=>false
 have h1:=UF (k:=1) (g:=false) (f:=F.poly_Valid_1) (rows:=aO l) (p:=p) fm.2.1 fm.2.2 (fm.1.2.2.2 false) rfl (F7.1.2.1 false) (by grind[AU]) (fun row hr=>by
  simp only[aO,awc]at hr;obtain⟨e,he,rfl⟩:=hr;refine⟨I e,rfl,rfl,?_⟩;simp only[go_sem,aj1,p])
 have h2:=Pk (k:=1) jE.2.1 jE.2.2 (jE.1.2.2.2 false) rfl (fm.1.2.1 false) (fm.1.1 false) (by simp only[go_sem]) h1;grind[aO,Ed,List.any_map]
def NV(v:Int)(t:Rt):Bool:=decide ((t.exps.length:Int)=v)&& (vd t.c&& (decide (t.c.m.length≠0)&& (!(t.exps.any Ed)&&decide (bt t.exps<=32))))
def aaj:Option Rt->Rt->Bool
 |none,_=>true
 |some q,t=>decide (cw q.exps t.exps<0)
def BY(v:Int):Option Rt->List Rt->Bool
 |_,[]=>true
 |pr,t::l=>NV v t&& (aaj pr t&&BY v (some t) l)
theorem Ee{v:Int}{t:Rt}(h:NV v t=true):(t.exps.length:Int)=v/\vd t.c=true/\t.c.m.length≠0/\t.exps.any Ed=false/\bt t.exps<=32:=by
 grind[NV]
theorem AW{l:List Int}(h:l.any Ed=false):∀x∈l,0<=x/\x<=32:=by
 simp_all[Ed,Bool.or_eq_true,decide_eq_true_eq,not_or]
theorem ahg{a:Rp}(ok:∀t∈a.terms,Ok0 t.c)(hv:a.vars<=8)(h2:a.terms.length<=500):∀ (k i:Nat),i+k=a.terms.length->∀ (pr:Option Rt),(i=0->pr=none)->(0<i->∃q,pr=some q/\a.terms[i-1]?=some q/\NV a.vars q=true)->
  ∀ (s:ak) (h:ac),s 1=.ref 1 none 0 0 0->s 20=.sl 4 (aH a.terms)->s 21=I a.terms.length->s 22=I i->h 1=.bx [I a.vars,.sl 4 (aH a.terms)]->
  ∃hh,ah 0 [] (av (ai R (ax false) ej) [1,20,21,22] [1] s h)=if BY a.vars pr (a.terms.drop i)=true then some (.normal,⟨fun _=>.any,hh⟩)else some (.ret,⟨upd (fun _=>.any) 2 (B false),hh⟩):=by
 intro k;induction k with
 |zero=>
  intro i hi pr p0 p1 s h h1 h20 h21 h22 k1;have e1:((i:Int)<a.terms.length)=False:=ff;rw[avH ω,ag];refine⟨?hh0,?_⟩;rotate_left;show _=if true=true then _ else _
  rw[if_pos rfl];simp only[ej,go_sem,h1,h20,h21,h22,k1,e1];rfl
 |succ k ih=>
  intro i hi pr p0 p1 s h h1 h20 h21 h22 k1;have hlt:i<a.terms.length:=ω
  have e1:((i:Int)<a.terms.length)=True:=tt;have e2:bp (aH a.terms) (i:Int)=some (.ipt (cx a.terms[i])):=iX rfl (List.getElem?_eq_getElem hlt);have e5:IntKind.i64.wrap ((i:Int)+1)=((i+1:Nat):Int):=wi;have okt:=ok a.terms[i] (avN hlt);have hnext:a.terms[i+1-1]?=some a.terms[i]:=List.getElem?_eq_getElem hlt;rw[avI hlt,ag];have ih':=ih (i+1) ω (some a.terms[i]) (fun h=>absurd h (Nat.succ_ne_zero _));generalize a.terms[i]=t at e2 okt ih' hnext⊢;generalize av _ _ _=L at ih'⊢;have hvd:=eE okt;have hct:=fun(h:(t.exps.length:Int)=a.vars)=>aeN (l:=t.exps) ω;simp only[cx]at e2;simp only[af,aj]at hvd;unfold BY;cases hb:NV a.vars t with
  |false=>
   simp only[avC,if_neg avD];unfold NV at hb;by_cases c1:(t.exps.length:Int)=a.vars
   ·have f1:((t.exps.length:Int)=a.vars)=True:=tt c1;rw[decide_eq_true c1,avz]at hb;cases c2:vd t.c with
    |false=>
     rw[c2]at hvd;refine⟨?hh2,?_⟩;rotate_left;simp only[ej,go_sem,h1,h20,h21,h22,k1,e1,e2,f1,hvd];rfl
    |true=>
     rw[c2]at hvd hb;rw[avz]at hb;by_cases c3:t.c.m.length=0
     ·have f3:((t.c.m.length:Int)=0)=True:=tt;refine⟨?hh3,?_⟩;rotate_left;simp only[ej,go_sem,h1,h20,h21,h22,k1,e1,e2,f1,hvd,f3];rfl
     ·have f3:((t.c.m.length:Int)=0)=False:=ff;rw[decide_eq_true c3,avz]at hb;have hct:=hct c1;cases c4:t.exps.any Ed with
      |true=>
       rw[c4]at hct;refine⟨?hh4,?_⟩;rotate_left;simp only[ej,go_sem,h1,h20,h21,h22,k1,e1,e2,f1,hvd,f3,hct];rfl
      |false=>
       rw[c4]at hct hb;rw[Bool.not_false,avz]at hb;have hdg:=yi (a:=t.exps) ⟨by omega,AW c4⟩;have f5:(32<bt t.exps)=True:=tt γ;refine⟨?hh5,?_⟩;rotate_left;simp only[ej,go_sem,h1,h20,h21,h22,k1,e1,e2,f1,hvd,f3,hct,hdg,f5];rfl
   ·have f1:((t.exps.length:Int)=a.vars)=False:=ff c1;refine⟨?hh1,?_⟩;rotate_left;simp only[ej,go_sem,h1,h20,h21,h22,k1,e1,e2,f1];rfl
  |true=>
   obtain⟨c1,c2,c3,c4,c5⟩:=Ee hb;have f1:((t.exps.length:Int)=a.vars)=True:=tt c1;rw[c2]at hvd;have f3:((t.c.m.length:Int)=0)=False:=ff;have hct:=hct c1;rw[c4]at hct;have hdg:=yi (a:=t.exps) ⟨by omega,AW c4⟩;have f5:(32<bt t.exps)=False:=ff;simp only[avz];by_cases hi0:i=0
   ·have f6:(0< (i:Int))=False:=ff;rw[p0 hi0];simp only[aaj,avz];simp only[ej,go_sem,h1,h20,h21,h22,k1,e1,e2,f1,hvd,f3,hct,hdg,f5,f6,e5];exact ih' (fun _=>⟨t,rfl,hnext,hb⟩) _ _ rfl rfl rfl rfl rfl
   ·have f6:(0< (i:Int))=True:=tt;obtain⟨q,q1,q2,q3⟩:=p1 ω;obtain⟨d1,d2,d3,d4,d5⟩:=Ee q3;rw[q1];have e7:IntKind.i64.wrap ((i:Int)-1)=((i-1:Nat):Int):=wi;have e8:bp (aH a.terms) ((i-1:Nat):Int)=some (.ipt (cx q)):=iX rfl q2;simp only[cx]at e8;have ho:=U6 (a:=q.exps) (b:=t.exps) ⟨by omega,AW d4⟩ ⟨by omega,AW c4⟩ ω;simp only[aaj];by_cases c6:cw q.exps t.exps<0
    ·have f7:(0<=cw q.exps t.exps)=False:=ff;simp only[decide_eq_true c6,avz];simp only[ej,go_sem,h1,h20,h21,h22,k1,e1,e2,f1,hvd,f3,hct,hdg,f5,f6,e5,e7,e8,ho,f7];exact ih' (fun _=>⟨t,rfl,hnext,hb⟩) _ _ rfl rfl rfl rfl rfl
    ·have f7:(0<=cw q.exps t.exps)=True:=tt;simp only[decide_eq_false c6,avC,if_neg avD];refine⟨?hh7,?_⟩;rotate_left;simp only[ej,go_sem,h1,h20,h21,h22,k1,e1,e2,f1,hvd,f3,hct,hdg,f5,f6,e7,e8,ho,f7];rfl
def vp(a:Rp):Bool:=decide (0<=a.vars)&& (decide (a.vars<=8)&& (decide (a.terms.length<=500)&&BY a.vars none a.terms))
theorem NW{a:Rp}(ok:∀t∈a.terms,Ok0 t.c):R F.poly_Valid [aZ a] []=some (B (vp a),[]):=by
 refine aB Uj rfl ?_;unfold vp;by_cases c1:0<=a.vars
 ·have f1:(a.vars<0)=False:=ff;rw[decide_eq_true c1,avz];by_cases c2:a.vars<=8
  ·have f2:(8<a.vars)=False:=ff;rw[decide_eq_true c2,avz];by_cases c3:a.terms.length<=500
   ·have f3:(500< (a.terms.length:Int))=False:=ff;rw[decide_eq_true c3,avz];have h3:=ahg ok c2 c3 a.terms.length 0 (avs _) none (fun _=>rfl) (fun h=>absurd h (Nat.lt_irrefl _));simp only[List.drop_zero,av7]at h3;cases hb:BY a.vars none a.terms with
    |true=>
     rw[hb]at h3;simp only[lH,qk,aZ,go_sem,f1,f2,f3];rw[(h3 _ _ rfl rfl rfl rfl rfl).choose_spec];simp only[go_sem]
    |false=>
     rw[hb]at h3;simp only[lH,qk,aZ,go_sem,f1,f2,f3];rw[(h3 _ _ rfl rfl rfl rfl rfl).choose_spec];simp only[go_sem]
   ·have f3:(500< (a.terms.length:Int))=True:=tt;rw[decide_eq_false c3,avC];simp only[lH,qk,aZ,go_sem,f1,f2,f3]
  ·have f2:(8<a.vars)=True:=tt;rw[decide_eq_false c2,avC];simp only[lH,qk,aZ,go_sem,f1,f2]
 ·have f1:(a.vars<0)=True:=tt;rw[decide_eq_false c1,avC];simp only[lH,qk,aZ,go_sem,f1]
theorem uS{a:Rp}(ok:OkP a):R F.poly_Valid [aZ a] []=some (B (vp a),[]):=NW fun t h=>(ok.t t h).c
@[go_sem] theorem Db(l:List Ri):(bc l).map (dU [.o 0 [],.o 2 [],.o 0 [],.o 0 [],.o 2 [],.o 0 [],.o 0 []])=bc l:=by
 refine qV fun x hx=>?_;simp only[bc,awc]at hx;obtain⟨t,ht,rfl⟩:=hx;simp only[aq,go_sem]
theorem aak{x:Ri}(ok:OkI x):R F.bound_domain_1 [am x] []=some (B (!kI x),[]):=by
 refine aB DY rfl ?_;have hv:=pi ok;simp only[am,aq]at hv;unfold kI;cases h1:vi x with
 |false=>
  rw[h1]at hv;rw[Bool.and_false];simp only[pM,xD,am,aq,go_sem,hv,Bool.not_false]
 |true=>
  rw[h1]at hv;rw[Bool.and_true,Bool.not_not];simp only[pM,xD,am,aq,go_sem,hv]
theorem aeO{l:List Ri}(ok:∀x∈l,OkI x)(h2:l.length<=100000):R F.slices_ContainsFunc_api_Interval_api_Interval_ [.sl 7 (bc l),.fn F.bound_domain_1 [] []] []=some (B (l.any fun x=>!kI x),[]):=by
 let p:List AV->Bool:=fun row=>match row with|[.v (.bool n1),.sl _ m1,.v (.int _ e1),.v (.bool n2),.sl _ m2,.v (.int _ e2),.v (.bool a)]=>!kI ⟨⟨n1,m1.map (fun r=>match r with|[.v (.int _ x)]=>x.toNat|_=>0),e1⟩,⟨n2,m2.map (fun r=>match r with|[.v (.int _ x)]=>x.toNat|_=>0),e2⟩,a⟩|_=>false
 have hmm:∀m:List Nat,(aG m).map (fun r=>match r with|[.v (.int _ x)]=>x.toNat|_=>0)=m:=fun m=>by
  grind[aG,List.map_map,avR,av5]
 have hp:∀x:Ri,p (aq x)=!kI x:=fun x=>by
  show(!kI ⟨⟨x.lo.neg,(aG x.lo.m).map _,x.lo.e⟩,⟨x.hi.neg,(aG x.hi.m).map _,x.hi.e⟩,x.all⟩)=_
  simp_all
 have h1:=UF (k:=7) (g:=true) (f:=F.bound_domain_1) (rows:=bc l) (p:=p) aK.2.1 aK.2.2 (aK.1.2.2.2 false) rfl (DY.1.2.1 false) (by grind[s7]) (fun row hr=>by
  simp only[bc,awc]at hr;obtain⟨x,hx,rfl⟩:=hr;have hd:=aak (ok x hx);refine⟨am x,rfl,rfl,?_⟩;rw[hp];simp only[am,aq]at hd;simp only[am,aq,go_sem,hd])
 have h2:=Pk (k:=7) aQ.2.1 aQ.2.2 (aQ.1.2.2.2 false) rfl (aK.1.2.1 false) (aK.1.1 false) (by simp only[go_sem]) h1;have h3:(bc l).any p=l.any fun x=>!kI x:=by
  unfold bc;rw[List.any_map];congr 1;funext x;exact hp x
 grind
def nP(a:Rp)(dom:List Ri):Bool:=vp a&& (decide ((dom.length:Int)=a.vars)&&!(dom.any fun x=>!kI x))
theorem acl{a:Rp}{dom:List Ri}(oa:OkP a)(od:∀x∈dom,OkI x)(h2:dom.length<=100000):R F.bound_domain [aZ a,.sl 7 (bc dom)] []=some (B (nP a dom),[]):=by
 refine aB O9 rfl ?_;have hv:=uS oa;have hc:=aeO od h2;simp only[aZ]at hv;unfold nP;cases h1:vp a with
 |false=>
  rw[h1]at hv;simp only[oT,vE,aZ,go_sem,hv]
 |true=>
  rw[h1]at hv;by_cases h3:(dom.length:Int)=a.vars
  ·have e3:((dom.length:Int)=a.vars)=True:=tt h3;simp only[oT,vE,aZ,go_sem,hv,e3,hc]
  ·have e3:((dom.length:Int)=a.vars)=False:=ff h3;simp only[oT,vE,aZ,go_sem,hv,e3]
theorem J7{a:Rp}{dom:List Ri}(oa:OkP a)(od:∀x∈dom,OkI x)(h2:dom.length<=100000){p:Int}:R F.bound_fits [aZ a,.sl 7 (bc dom),I p] []=some (B (nP a dom&&bQ p),[]):=by
 refine aB Uk rfl ?_;have hd:=acl oa od h2;simp only[aZ]at hd;unfold bQ;cases h1:nP a dom with
 |false=>
  rw[h1]at hd;simp only[sy,y6,aZ,go_sem,hd]
 |true=>
  rw[h1]at hd;by_cases h3:8<=p
  ·have e3:(8<=p)=True:=tt h3;simp only[sy,y6,aZ,go_sem,hd,e3,decide_true,avz]
  ·have e3:(8<=p)=False:=ff h3;simp only[sy,y6,aZ,go_sem,hd,e3,decide_false,avC]
theorem Hm:R F.bound_whole [] []=some (am dy,[]):=by
 refine aB Sc rfl ?_;simp only[Ar,HO,am,aq,dy,aI,go_sem]
def Ji(p:Int):List Ri->List Int->Ri->Ri
 |d::ds,e::es,x=>Ji p ds es (if 0<e then iH x (Ec d e.toNat p) p else x)
 |_,_,x=>x
theorem aj2{dn up:Rd->Rd->Rd×Int}{pr:Nat->Rd×Rd}(h1:∀a b,Ok0 (dn a b).1)(h2:∀a b,Ok0 (up a b).1):OkI (H2 (pR dn up pr)):=by
 have hN:∀ (k i:Nat) (o:Rd×Rd),Ok0 o.1->Ok0 o.2->OkI (H2 (vR dn up pr k i o)):=by
  intro k;induction k with
  |zero=>exact fun i o g1 g2=>⟨g1,g2⟩
  |succ k ih=>
   intro i o g1 g2;unfold vR;split
   ·grind
   ·exact⟨bh.2,bh.2⟩
 unfold pR;split
 ·grind
 ·exact⟨bh.2,bh.2⟩
theorem AX{x y:Ri}{p:Int}:OkI (iH x y p):=by
 unfold iH;split
 ·grind[aj2,C8]
 ·exact⟨bh.2,bh.2⟩
theorem J8{a b:Rd}{p:Int}{up:Bool}:Ok0 (dt a b p up).1:=by
 unfold dt;split
 ·exact sN.2
 ·exact bh.2
theorem AY{x y:Ri}{p:Int}:OkI (gJ x y p):=by
 unfold gJ;split
 ·grind[U3,J8]
 ·exact⟨bh.2,bh.2⟩
theorem ahh{x:Ri}(ok:OkI x){e:Nat}{p:Int}:OkI (Ec x e p):=by
 grind[Ec,Py,AX]
theorem aj3{p:Int}:∀ (ds:List Ri) (es:List Int) (x:Ri),OkI x->OkI (Ji p ds es x):=by
 intro ds;induction ds with
 |nil=>exact fun es x h=>by cases es<;>exact h
 |cons d ds ih=>
  intro es x h;cases es with
  |nil=>exact h
  |cons e es=>
   grind[Ji,AX]
theorem amU{dom:List Ri}(od:∀x∈dom,OkI x){es:List Int}(hl:dom.length=es.length)(h2:dom.length<=100000)(he:∀e∈es,0<=e/\e<=32){p:Int}{c3 c6 c7 c9:List AV}{rw':AV}{n j:Int}
  (q3:az [3,6,7,9,10] (.bx c3)=true) (q6:az [3,6,7,9,10] (.bx c6)=true) (q7:az [3,6,7,9,10] (.bx c7)=true) (q9:az [3,6,7,9,10] (.bx c9)=true) (qr:gE [3,6,7,9,10] rw'=rw'):
  ∀ (k i:Nat),i+k=es.length->∀ (x:Ri),OkI x->∀ (s:ak) (h:ac),s 1=.sl 7 (bc dom)->s 2=I p->s 6=.ref 6 none 0 0 0->s 7=.ref 7 none 0 0 0->s 10=.ref 10 none 0 0 0->s 22=rw'->s 23=I n->s 24=I j->s 32=.sl 1 (aO es)->s 33=I es.length->s 34=I i->
  h 3=.bx c3->h 6=.bx c6->h 7=.bx c7->h 9=.bx c9->h 10=.bx (aq x)->
  ∃hh,ah 2 [1,2,6,7,10,22,23,24] (av (ai R (ax false) gk) [1,2,6,7,10,22,23,24,32,33,34] [3,6,7,9,10] s h)=some (.normal,⟨upd (upd (upd (upd (upd (upd (upd (upd (fun _=>.any) 24 (I j)) 23 (I n)) 22 rw') 10 (.ref 10 none 0 0 0)) 7 (.ref 7 none 0 0 0)) 6 (.ref 6 none 0 0 0)) 2 (I p)) 1 (.sl 7 (bc dom)),hh⟩)/\
   hh 3=.bx c3/\hh 6=.bx c6/\hh 7=.bx c7/\hh 10=.bx (aq (Ji p (dom.drop i) (es.drop i) x))/\∀a,a≠3->a≠6->a≠7->a≠9->a≠10->hh a=.dead:=by
 intro k;induction k with
 |zero=>
  intro i hi x ox s h h1 h2' h6 h7 h10 h22 h23 h24 h32 h33 h34 k3 k6 k7 k9 k10;have e1:((i:Int)<es.length)=False:=ff;rw[avH ω,avH ω,ag];refine⟨?hh0,?_,?_,?_,?_,?_,?_⟩;rotate_left
  ·simp only[gk,go_sem,h1,h2',h6,h7,h10,h22,h23,h24,h32,h33,h34,k3,k6,k7,k9,k10,q3,q6,q7,q9,qr,e1];rfl
  ·rfl
  ·rfl
  ·rfl
  ·rfl
  simp_all[cU,if_false]
 |succ k ih=>
  intro i hi x ox s h h1 h2' h6 h7 h10 h22 h23 h24 h32 h33 h34 k3 k6 k7 k9 k10;have hlt:i<es.length:=ω
  have hlt2:i<dom.length:=ω
  have e1:((i:Int)<es.length)=True:=tt;have e2:bp (aO es) (i:Int)=some (.ipt [I es[i]]):=qK rfl (List.getElem?_eq_getElem hlt);have e3:bp (bc dom) (i:Int)=some (.ipt (aq dom[i])):=s9 rfl (List.getElem?_eq_getElem hlt2);have e5:IntKind.i64.wrap ((i:Int)+1)=((i+1:Nat):Int):=wi;have oki:=od dom[i] (avN hlt2);have hb:=he es[i] (avN hlt);rw[avI hlt,avI hlt2,ag];have ih':=ih (i+1) ω;unfold Ji;generalize es[i]=e at e2 hb⊢;generalize dom[i]=d at e3 oki⊢;obtain⟨m,rfl⟩:=Int.eq_ofNat_of_zero_le hb.1;rw[avy];have hpw:=ahf oki (e:=m) ω (p:=p);have opw:=ahh oki (e:=m) (p:=p);generalize Ec d m p=y at hpw opw⊢;have hmu:=C9 ox opw (p:=p);have omu:=AX (x:=x) (y:=y) (p:=p);generalize iH x y p=z at hmu omu⊢;simp only[am,aq]at e3 hpw hmu k10;by_cases hm:0< (m:Int)
  ·have f1:(0< (m:Int))=True:=tt hm;simp only[gk,go_sem,h1,h2',h6,h7,h10,h22,h23,h24,h32,h33,h34,k3,k6,k7,k9,k10,q3,q6,q7,q9,qr,e1,e2,e3,f1,hpw,hmu,e5];exact ih' z omu _ _ rfl rfl rfl rfl rfl rfl rfl rfl rfl rfl rfl rfl rfl rfl rfl rfl
  ·have f1:(0< (m:Int))=False:=ff hm;simp only[gk,go_sem,h1,h2',h6,h7,h10,h22,h23,h24,h32,h33,h34,k3,k6,k7,k9,k10,q3,q6,q7,q9,qr,e1,e2,e3,f1,hpw,hmu,e5];exact ih' x ox _ _ rfl rfl rfl rfl rfl rfl rfl rfl rfl rfl rfl rfl rfl rfl rfl rfl
def NX(p:Int)(dom:List Ri):List Rt->Ri->Ri
 |[],s=>s
 |t::l,s=>NX p dom l (gJ s (Ji p dom t.exps ⟨t.c,t.c,false⟩) p)
theorem J9{v:Int}:∀ (l:List Rt) (pr:Option Rt),BY v pr l=true->∀t∈l,NV v t=true:=by
 intro l;induction l with
 |nil=>grind
 |cons a l ih=>
  intro pr h t ht;unfold BY at h;grind
theorem acm{a:Rp}{dom:List Ri}(oa:OkP a)(od:∀x∈dom,OkI x)(hv:∀t∈a.terms,NV a.vars t=true)(hl:(dom.length:Int)=a.vars)(h8:a.vars<=8)(h5:a.terms.length<=500){p:Int}:
  ∀ (k i:Nat),i+k=a.terms.length->∀ (x:Ri),OkI x->∀ (s:ak) (h:ac),s 1=.sl 7 (bc dom)->s 2=I p->s 6=.ref 6 none 0 0 0->s 7=.ref 7 none 0 0 0->s 22=.sl 4 (aH a.terms)->s 23=I a.terms.length->s 24=I i->
  h 3=.bx [I a.vars,.sl 4 (aH a.terms)]->h 6=.bx [.v (.bool false),.emp,.v (.int .i64 0),.v (.bool false),.emp,.v (.int .i64 0),.v (.bool false)]->h 7=.bx (aq x)->
  ∃hh,ah 0 [6,7] (av (ai R (ax false) kr) [1,2,6,7,22,23,24] [3,6,7] s h)=some (.normal,⟨upd (upd (fun _=>.any) 7 (.ref 7 none 0 0 0)) 6 (.ref 6 none 0 0 0),hh⟩)/\hh 6=.bx [.v (.bool false),.emp,.v (.int .i64 0),.v (.bool false),.emp,.v (.int .i64 0),.v (.bool false)]/\hh 7=.bx (aq (NX p dom (a.terms.drop i) x)):=by
 intro k;induction k with
 |zero=>
  intro i hi x ox s h h1 h2 h6 h7 h22 h23 h24 k3 k6 k7;have e1:((i:Int)<a.terms.length)=False:=ff;rw[avH ω,ag];refine⟨?hh0,?_,?_,?_⟩;rotate_left
  ·simp only[kr,go_sem,h1,h2,h6,h7,h22,h23,h24,k3,k6,k7,e1];rfl
  ·rfl
  ·rfl
 |succ k ih=>
  intro i hi x ox s h h1 h2 h6 h7 h22 h23 h24 k3 k6 k7;have hlt:i<a.terms.length:=ω
  have e1:((i:Int)<a.terms.length)=True:=tt;have e2:bp (aH a.terms) (i:Int)=some (.ipt (cx a.terms[i])):=iX rfl (List.getElem?_eq_getElem hlt);have e5:IntKind.i64.wrap ((i:Int)+1)=((i+1:Nat):Int):=wi;have okt:=oa.t a.terms[i] (avN hlt);obtain⟨c1,c2,c3,c4,c5⟩:=Ee (hv a.terms[i] (avN hlt));rw[avI hlt,ag];have ih':=ih (i+1) ω;unfold NX;generalize a.terms[i]=t at e2 okt c1 c2 c3 c4 c5⊢;have hpt:=kB okt.c c2;have hin:=amU (dom:=dom) od (es:=t.exps) ω ω (AW c4) (p:=p) (c3:=[I a.vars,.sl 4 (aH a.terms)]) (c6:=[.v (.bool false),.emp,.v (.int .i64 0),.v (.bool false),.emp,.v (.int .i64 0),.v (.bool false)]) (c7:=aq x) (c9:=cx t) (rw':=.sl 4 (aH a.terms)) (n:=a.terms.length) (j:=i) rfl rfl rfl rfl rfl t.exps.length 0 (avs _) ⟨t.c,t.c,false⟩ ⟨okt.c,okt.c⟩;simp only[List.drop_zero,av7]at hin;have oy:=aj3 (p:=p) dom t.exps ⟨t.c,t.c,false⟩ ⟨okt.c,okt.c⟩;generalize Ji p dom t.exps ⟨t.c,t.c,false⟩=y at hin oy⊢;have hadd:=ye ox oy (p:=p);have oz:=AY (x:=x) (y:=y) (p:=p);generalize gJ x y p=z at hadd oz⊢;generalize hL0:av (ai R (ax false) gk) [1,2,6,7,10,22,23,24,32,33,34] [3,6,7,9,10]=L0 at hin;have hin2:∀ (S:ak) (H:ac) (X:Option (Ex×St)),ah 2 [1,2,6,7,10,22,23,24] (L0 S H)=X->S 1=.sl 7 (bc dom)->S 2=I p->S 6=.ref 6 none 0 0 0->S 7=.ref 7 none 0 0 0->S 10=.ref 10 none 0 0 0->S 22=.sl 4 (aH a.terms)->S 23=I a.terms.length->S 24=I i->S 32=.sl 1 (aO t.exps)->S 33=I t.exps.length->S 34=I 0->
   H 3=.bx [I a.vars,.sl 4 (aH a.terms)]->H 6=.bx [.v (.bool false),.emp,.v (.int .i64 0),.v (.bool false),.emp,.v (.int .i64 0),.v (.bool false)]->H 7=.bx (aq x)->H 9=.bx (cx t)->H 10=.bx (aq ⟨t.c,t.c,false⟩)->
   ∃hh,X=some (.normal,⟨upd (upd (upd (upd (upd (upd (upd (upd (fun _=>.any) 24 (I i)) 23 (I a.terms.length)) 22 (.sl 4 (aH a.terms))) 10 (.ref 10 none 0 0 0)) 7 (.ref 7 none 0 0 0)) 6 (.ref 6 none 0 0 0)) 2 (I p)) 1 (.sl 7 (bc dom)),hh⟩)/\
    hh 3=.bx [I a.vars,.sl 4 (aH a.terms)]/\hh 6=.bx [.v (.bool false),.emp,.v (.int .i64 0),.v (.bool false),.emp,.v (.int .i64 0),.v (.bool false)]/\hh 7=.bx (aq x)/\hh 10=.bx (aq y)/\∀a,a≠3->a≠6->a≠7->a≠9->a≠10->hh a=.dead:=fun S H X hX=>by
   rw[←hX];exact hin S H
  have hX:∀s h,ai R (ax false) (.loop [1,2,6,7,10,22,23,24,32,33,34] [3,6,7,9,10] gk) s h=L0 s h:=fun s h=>by rw[←hL0];rfl
  simp only[cx]at e2 hin2;simp only[am,aq,af,aj]at hpt hadd k7 hin2;simp only[kr,hX,go_sem,h1,h2,h6,h7,h22,h23,h24,k3,k6,k7,e1,e2,hpt];generalize hB:ah 2 [1,2,6,7,10,22,23,24] (L0 _ _)=X;obtain⟨hh,g0,g3,g6,g7,g10,gd⟩:=hin2 _ _ _ hB rfl rfl rfl rfl rfl rfl rfl rfl rfl rfl rfl rfl rfl rfl rfl rfl;rw[g0];simp only[go_sem,ne_eq,not_false_eq_true,g7,g10,gd,hadd,e5];refine ih' z oz _ _ ?_ ?_ ?_ ?_ ?_ ?_ ?_ ?_ ?_ ?_
  all_goals first|rfl|exact g3|exact g6
def pj(a:Rp)(dom:List Ri)(p:Int):Ri:=if(nP a dom&&bQ p)=true then NX p dom a.terms ⟨aI,aI,false⟩else dy
theorem aeP{a:Rp}{dom:List Ri}(oa:OkP a)(od:∀x∈dom,OkI x)(h2:dom.length<=100000){p:Int}:R F.bound_Naive [aZ a,.sl 7 (bc dom),I p] []=some (am (pj a dom p),[]):=by
 refine aB Sd rfl ?_;have hf:=J7 oa od h2 (p:=p);have hw:=Hm;unfold pj;simp only[aZ]at hf;cases hb:(nP a dom&&bQ p)with
 |false=>
  rw[hb]at hf;simp only[agi,Cg,aZ,am,aq,go_sem,hf,hw]
 |true=>
  rw[hb]at hf;simp only[nP,vp,avv,decide_eq_true_eq]at hb;obtain⟨⟨⟨v1,v2,v3,v4⟩,v5,v6⟩,v7⟩:=hb;have ho:=acm oa od (J9 _ _ v4) v5 v2 v3 (p:=p) a.terms.length 0 (avs _) ⟨aI,aI,false⟩ ⟨bh.2,bh.2⟩;simp only[List.drop_zero,av7]at ho;generalize NX p dom a.terms ⟨aI,aI,false⟩=z at ho⊢;have hpt:=kB bh.2 bh.1;generalize hL0:av (ai R (ax false) kr) [1,2,6,7,22,23,24] [3,6,7]=L0 at ho;have hX:∀s h,ai R (ax false) (.loop [1,2,6,7,22,23,24] [3,6,7] kr) s h=L0 s h:=fun s h=>by rw[←hL0];rfl
  have ho2:∀ (S:ak) (H:ac) (X:Option (Ex×St)),ah 0 [6,7] (L0 S H)=X->S 1=.sl 7 (bc dom)->S 2=I p->S 6=.ref 6 none 0 0 0->S 7=.ref 7 none 0 0 0->S 22=.sl 4 (aH a.terms)->S 23=I a.terms.length->S 24=I 0->
   H 3=.bx [I a.vars,.sl 4 (aH a.terms)]->H 6=.bx [.v (.bool false),.emp,.v (.int .i64 0),.v (.bool false),.emp,.v (.int .i64 0),.v (.bool false)]->H 7=.bx (aq ⟨aI,aI,false⟩)->
   ∃hh,X=some (.normal,⟨upd (upd (fun _=>.any) 7 (.ref 7 none 0 0 0)) 6 (.ref 6 none 0 0 0),hh⟩)/\hh 6=.bx [.v (.bool false),.emp,.v (.int .i64 0),.v (.bool false),.emp,.v (.int .i64 0),.v (.bool false)]/\hh 7=.bx (aq z):=fun S H X hX=>by
   rw[←hX];exact ho S H
  simp only[am,aq,af,aj,aI]at hpt ho2;simp only[agi,Cg,hX,aZ,am,aq,go_sem,hf,hpt];generalize hB:ah 0 [6,7] (L0 _ _)=X;obtain⟨hh,g0,g6,g7⟩:=ho2 _ _ _ hB rfl rfl rfl rfl rfl rfl rfl rfl rfl rfl;rw[g0];simp only[go_sem,g6,g7]
theorem acn{n:Nat}{i:Int}(hi:i=n)(hn:n<18446744073709551616):eA .and (.v (.int .u64 i)) (.v (.int .u64 4294967295))=some (.v (.int .u64 ((n%4294967296:Nat):Int))):=by
 rw[Xe];have e:(BitVec.ofInt IntKind.u64.bits (n:Int)&&&BitVec.ofInt IntKind.u64.bits 4294967295).toNat=n%4294967296:=by
  show(BitVec.ofInt 64 (n:Int)&&&BitVec.ofInt 64 4294967295).toNat=n%4294967296;rw[BitVec.toNat_and];have e2:(BitVec.ofInt 64 (n:Int)).toNat=n:=by
   grind
  rw[e2,show(BitVec.ofInt 64 4294967295).toNat=2^32-1 from by decide,Nat.and_two_pow_sub_one_eq_mod]
 grind[iG]
theorem AZ{d:Rd}(h:vd d=true):zI (hF d)=-zI d/\vd (hF d)=true:=by
 unfold hF;by_cases h0:d.m.length=0
 ·rw[if_pos (Or.inr h0),du h0];exact⟨by rw[du rfl];rfl,rfl⟩
 ·constructor
  ·grind[zI,mg]
  simp_all[vd,if_neg]
theorem aeQ{d:Rd}(h:vd d=true):G3 d.m:=by
 by_cases h0:d.m.length=0
 ·exact Or.inl (List.length_eq_zero_iff.1 h0)
 ·exact Or.inr (BU h h0).2.2.1
def eK(z f:Int):Rd:=bF (decide (z<0)) z.natAbs f
theorem A6{neg:Bool}{n:Nat}{f:Int}:bF neg n f=eK (cp neg n) f:=by
 unfold eK;by_cases h0:n=0
 ·subst h0;cases neg<;>exact mA.symm
 ·cases neg with
  |false=>
   rw[rP,Int.natAbs_natCast,decide_eq_false ω]
  |true=>
   rw[tQ,Int.natAbs_neg,Int.natAbs_natCast,decide_eq_true ω]
theorem aco{n:Nat}(h:n%2=1)(k:Nat):tz (n*2^k)=k:=by
 rw[avM,IY k ω,zG h,av1]
theorem Ka{d:Rd}(ok:Ok0 d)(h:vd d=true):eK (zI d) (-16384)=d:=by
 by_cases h0:d.m.length=0
 ·rw[du h0];have:=C7 h h0;subst this;exact mA
 ·obtain⟨h1,h2,h3,h4⟩:=BU h h0;obtain⟨g1,g2,g3,g4⟩:=eY h ok.lb;have hz:zI d=cp d.neg (mg d):=by
   grind[zI,cp]
  rw[hz,←A6];unfold mg;rw[kK,nj (dJ h h0)];have ho:ab d.m%2=1:=by
   have:=gB d.m 0;grind
  rw[zG ho,Nat.pow_zero,Nat.div_one,Xh ok.lb (aeQ h)];obtain⟨n,m,e⟩:=d;grind
theorem acp{a b:Rd}(oa:Ok0 a)(ob:Ok0 b)(va:vd a=true)(vb:vd b=true):bF (a.neg !=b.neg) (ab a.m*ab b.m) (a.e+b.e)=eK (zI a*zI b) (-32768):=by
 obtain⟨a1,a2,a3,a4⟩:=eY va oa.lb;obtain⟨b1,b2,b3,b4⟩:=eY vb ob.lb;have hz:zI a*zI b=cp (a.neg !=b.neg) (mg a*mg b):=by
  unfold zI cp;cases a.neg<;>cases b.neg<;>simp[Int.mul_neg,Int.neg_mul]
 have hm:mg a*mg b=ab a.m*ab b.m*2^ ((a.e+16384).toNat+(b.e+16384).toNat):=by
  unfold mg;rw[avG]
  ac_rfl
 rw[hz,←A6,hm,kK,show-32768+(((a.e+16384).toNat+(b.e+16384).toNat:Nat):Int)=a.e+b.e by omega]
theorem Pz{a b:Rd}{p:Int}{up:Bool}:vd (dt a b p up).1=true:=by
 unfold dt;split
 ·exact sN.1
 ·exact bh.1
theorem PA{d:Rd}{p:Int}{up:Bool}:vd (cz d p up).1=true:=by
 unfold cz;split
 ·exact sN.1
 ·exact bh.1
theorem PB{a b:Rd}(va:vd a=true)(vb:vd b=true):fh a b=eJ (zI a) (zI b):=by simp_all[fh,if_pos]
theorem nI(x y:Int):(x<y/\eJ x y=-1)\/(x=y/\eJ x y=0)\/(y<x/\eJ x y=1):=by
 unfold eJ;rcases Int.lt_trichotomy x y with h|h|h
 ·exact Or.inl ⟨h,if_pos h⟩
 ·exact Or.inr (Or.inl ⟨h,by rw[if_neg ω];exact if_neg ω⟩)
 ·exact Or.inr (Or.inr ⟨h,by rw[if_neg ω];exact if_pos h⟩)
theorem aal{a:List Int}(h2:sm a):∀ (k i:Nat),i+k=a.length->∀ (s:ak) (h:ac),s 0=.sl 1 (aO a)->s 3=I (bt (a.take i))->s 4=I i->
  ah 0 [3] (av (ai R (ax false) yX) [0,3,4] [] s h)=some (.normal,⟨upd (fun _=>.any) 3 (I (bt a)),fun _=>.dead⟩):=by
 intro k;induction k with
 |zero=>
  intro i hi s h h0 h3 h4;have e1:((i:Int)<a.length)=False:=ff;rw[avL ω]at h3;rw[ag];simp only[yX,go_sem,h0,h3,h4,e1]
 |succ k ih=>
  intro i hi s h h0 h3 h4;have hlt:i<a.length:=ω
  obtain⟨g1,g2⟩:=h2;have e1:((i:Int)<a.length)=True:=tt;have e2:bp (aO a) (i:Int)=some (.ipt [I a[i]]):=qK rfl (List.getElem?_eq_getElem hlt);have e5:IntKind.i64.wrap ((i:Int)+1)=((i+1:Nat):Int):=wi;have b1:=ack (l:=a.take i) (fun x hx=>g2 x (List.mem_of_mem_take hx));have b2:=g2 a[i] (avN hlt);have e6:IntKind.i64.wrap (bt (a.take i)+a[i])=bt (a.take (i+1)):=by
   grind[U5,i64_in]
  have ih':=ih (i+1) ω;rw[ag];simp only[yX,go_sem,h0,h3,h4,e1,e2,e5,e6];exact ih' _ _ rfl rfl rfl
theorem U7{a:List Int}(h2:sm a):R F.r23_sum [.sl 1 (aO a)] []=some (I (bt a),[]):=by
 refine aB abM rfl ?_;have h3:=aal h2 a.length 0 (avs _);simp only[GZ,QM,go_sem];rw[h3 _ _ rfl rfl rfl];simp only[go_sem]
theorem aam{a b:List Int}(hl:a.length=b.length)(h2:a.length<=100000):∀ (k i:Nat),i+k=a.length->∀ (s:ak) (h:ac),s 0=.sl 1 (aO a)->s 1=.sl 1 (aO b)->s 7=I i->
  ∃hh,ah 0 [] (av (ai R (ax false) ko) [0,1,7] [] s h)=if lK (b.drop i) (a.drop i)=0 then some (.normal,⟨fun _=>.any,fun _=>.dead⟩)else some (.ret,⟨upd (fun _=>.any) 4 (I (lK (b.drop i) (a.drop i))),hh⟩):=by
 intro k;induction k with
 |zero=>
  intro i hi s h h0 h1 h7;have e1:((i:Int)<a.length)=False:=ff;rw[avH ω,avH ω,ag];refine⟨fun _=>.dead,?_⟩;show _=if(0:Int)=0 then _ else _
  simp only[ko,go_sem,h0,h1,h7,e1]
 |succ k ih=>
  intro i hi s h h0 h1 h7;have hlt:i<a.length:=ω
  have hlt2:i<b.length:=ω
  have e1:((i:Int)<a.length)=True:=tt;have e2:bp (aO a) (i:Int)=some (.ipt [I a[i]]):=qK rfl (List.getElem?_eq_getElem hlt);have e3:bp (aO b) (i:Int)=some (.ipt [I b[i]]):=qK rfl (List.getElem?_eq_getElem hlt2);have e5:IntKind.i64.wrap ((i:Int)+1)=((i+1:Nat):Int):=wi;rw[avI hlt,avI hlt2,ag];have ih':=ih (i+1) ω;generalize a[i]=x at e2⊢;generalize b[i]=y at e3⊢;unfold lK;rcases nI y x with⟨g,e⟩| ⟨g,e⟩| ⟨g,e⟩
  ·have e6:(y<x)=True:=tt g;simp only[e,↓reduceIte,avX,Int.reduceNeg];refine⟨?hh1,?_⟩;rotate_left;simp only[ko,go_sem,h0,h1,h7,e1,e2,e3,e6];rfl
  ·have e6:(y<x)=False:=ff;have e7:(x<y)=False:=ff;simp only[e,↓reduceIte];simp only[ko,go_sem,h0,h1,h7,e1,e2,e3,e5,e6,e7];exact ih' _ _ rfl rfl rfl
  ·have e6:(y<x)=False:=ff;have e7:(x<y)=True:=tt;simp only[e,↓reduceIte,avX];refine⟨?hh2,?_⟩;rotate_left;simp only[ko,go_sem,h0,h1,h7,e1,e2,e3,e6,e7];rfl
theorem U8{a b:List Int}(ha:sm a)(hb:sm b)(hl:a.length=b.length):R F.r23_Compare [.sl 1 (aO a),.sl 1 (aO b)] []=some (I (cw a b),[]):=by
 refine aB R5 rfl ?_;have d1:=U7 ha;have d2:=U7 hb;have h3:=aam hl (by have:=ha.1;omega) a.length 0 (avs _);simp only[List.drop_zero,av7]at h3;unfold cw;rcases nI (bt a) (bt b)with⟨g,e⟩| ⟨g,e⟩| ⟨g,e⟩
 ·have e6:(bt a<bt b)=True:=tt g;rw[e,if_neg δ];simp only[mD,so,go_sem,d1,d2,e6]
 ·have e6:(bt a<bt b)=False:=ff;have e7:(bt b<bt a)=False:=ff;rw[e,if_pos rfl];by_cases hz:lK b a=0
  ·simp only[if_pos hz]at h3;simp only[mD,so,go_sem,d1,d2,e6,e7];rw[(h3 _ _ rfl rfl rfl).choose_spec,hz];simp only[go_sem]
  ·simp only[if_neg hz]at h3;simp only[mD,so,go_sem,d1,d2,e6,e7];rw[(h3 _ _ rfl rfl rfl).choose_spec];simp only[go_sem]
 ·have e6:(bt a<bt b)=False:=ff;have e7:(bt b<bt a)=True:=tt;rw[e,if_neg δ];simp only[mD,so,go_sem,d1,d2,e6,e7]
structure Len1 (x:Ri):Prop where
 lo:Lb x.lo.m/\x.lo.m.length<=100000
 hi:Lb x.hi.m/\x.hi.m.length<=100000
def VI(x:Ri):Prop:=(vd x.lo=true/\Ok0 x.lo)/\(vd x.hi=true/\Ok0 x.hi)
theorem VI.len{x:Ri}(h:VI x):Len1 x:=⟨⟨h.1.2.1,avx (zN h.1.1 h.1.2.1) δ⟩,⟨h.2.2.1,avx (zN h.2.1 h.2.2.1) δ⟩⟩
theorem Hn:VI dy:=⟨bh,bh⟩
theorem ahj{x y:Ri}{p:Int}:VI (gJ x y p):=by
 unfold gJ;split
 ·unfold tT;split
  ·exact⟨⟨Pz,J8⟩,⟨Pz,J8⟩⟩
  ·exact Hn
 ·exact Hn
theorem aj4{p:Int}{dom:List Ri}:∀ (l:List Rt) (s:Ri),VI s->VI (NX p dom l s):=by
 intro l;induction l with
 |nil=>exact fun s h=>h
 |cons t l ih=>exact fun s h=>ih _ ahj
theorem acq{a:Rp}{dom:List Ri}{p:Int}:VI (pj a dom p):=by
 unfold pj;split
 ·exact aj4 _ _ ⟨bh,bh⟩
 ·exact Hn
def iI(a:Rp):Int:=if vp a=true then(match a.terms.getLast? with|none=>-1|some t=>bt t.exps)else-1
theorem SJ{a:Rp}(h:vp a=true):0<=a.vars/\a.vars<=8/\a.terms.length<=500/\BY a.vars none a.terms=true:=by
 simp_all[vp,avv,decide_eq_true_eq]
theorem Kb{a:Rp}(h:vp a=true){t:Rt}(ht:t∈a.terms):sm t.exps/\(t.exps.length:Int)=a.vars/\vd t.c=true/\t.c.m.length≠0/\bt t.exps<=32:=by
 obtain⟨v1,v2,v3,v4⟩:=SJ h;obtain⟨c1,c2,c3,c4,c5⟩:=Ee (J9 _ _ v4 t ht);exact⟨⟨by omega,AW c4⟩,c1,c2,c3,c5⟩
theorem EZ{a:Rp}(ok:OkP a):R F.poly_Degree [aZ a] []=some (I (iI a),[]):=by
 refine aB Sa rfl ?_;have hv:=uS ok;unfold iI;simp only[aZ]at hv;cases hb:vp a with
 |false=>
  rw[hb]at hv;simp only[qp,w9,aZ,go_sem,hv]
 |true=>
  rw[hb]at hv;obtain⟨v1,v2,v3,v4⟩:=SJ hb;by_cases h0:a.terms.length=0
  ·have e1:((a.terms.length:Int)=0)=True:=tt;have e4:a.terms.getLast?=none:=by
    grind
   rw[e4];simp only[qp,w9,aZ,go_sem,hv,e1]
  ·have e1:((a.terms.length:Int)=0)=False:=ff;have e2:IntKind.i64.wrap ((a.terms.length:Int)-1)=((a.terms.length-1:Nat):Int):=by grind[i64_in]
   have hlt:a.terms.length-1<a.terms.length:=ω
   have e3:bp (aH a.terms) ((a.terms.length-1:Nat):Int)=some (.ipt (cx a.terms[a.terms.length-1])):=iX rfl (List.getElem?_eq_getElem hlt);have e4:a.terms.getLast?=some a.terms[a.terms.length-1]:=γ
   obtain⟨c1,c2,c3,c4,c5⟩:=Kb hb (avN hlt);rw[e4];have hd:=yi c1;simp only[cx]at e3;simp only[qp,w9,aZ,go_sem,hv,e1,e2,e3,hd]
def wC(x:Int):List Int->Nat->Int
 |[],_=>-1
 |y::l,i=>if x=y then i else wC x l (i+1)
theorem aeR{l:List Int}(h2:l.length<=100000)(x:Int):∀ (k i:Nat),i+k=l.length->∀ (s:ak) (h:ac),s 0=.sl 1 (aO l)->s 1=I x->s 7=I l.length->s 8=I i->
  ∃hh,cS (ah 0 [] (av (ai R (ax false) dY) [0,1,7,8] [] s h)) (ai R (ax false) (.seq (.ops [4] [co 4 (.mv (.c (I (-1))))]) (.ret)))=some (.ret,⟨upd (fun _=>.any) 4 (I (wC x (l.drop i) i)),hh⟩):=by
 intro k;induction k with
 |zero=>
  intro i hi s h h0 h1 h7 h8;have e1:((i:Int)<l.length)=False:=ff;rw[avH ω,ag];refine⟨?hh0,?_⟩;rotate_left
  ·simp only[dY,wC,go_sem,avV,avO,avZ,avX,avU,av0,h0,h1,h7,h8,e1];rfl
 |succ k ih=>
  intro i hi s h h0 h1 h7 h8;have hlt:i<l.length:=ω
  have e1:((i:Int)<l.length)=True:=tt;have e2:bp (aO l) (i:Int)=some (.ipt [I l[i]]):=qK rfl (List.getElem?_eq_getElem hlt);have e5:IntKind.i64.wrap ((i:Int)+1)=((i+1:Nat):Int):=wi;have ih':=ih (i+1) ω;rw[avI hlt,ag];unfold wC;generalize l[i]=y at e2⊢;by_cases hxy:x=y
  ·have e3:(x=y)=True:=tt hxy;refine⟨?hh1,?_⟩;rotate_left
   ·simp only[dY,go_sem,avV,avO,avZ,avX,avU,av0,h0,h1,h7,h8,e1,e2,e3];rfl
  ·have e3:(x=y)=False:=ff hxy;simp only[dY,go_sem,avV,avO,avZ,avX,avU,av0,h0,h1,h7,h8,e1,e2,e3,e5]at ih'⊢;exact ih' _ _ rfl rfl rfl rfl
theorem aeS{l:List Int}(h2:l.length<=100000){x:Int}:R F.slices_Index_int_int_ [.sl 1 (aO l),I x] []=some (I (wC x l 0),[]):=by
 refine aB Ep rfl ?_;have h:=aeR h2 x l.length 0 (avs _);have h':∀ (S:ak) (H:ac) (X:Option (Ex×St)),cS (ah 0 [] (av (ai R (ax false) dY) [0,1,7,8] [] S H)) (ai R (ax false) (.seq (.ops [4] [co 4 (.mv (.c (I (-1))))]) (.ret)))=X->S 0=.sl 1 (aO l)->S 1=I x->S 7=I l.length->S 8=I 0->∃hh,X=some (.ret,⟨upd (fun _=>.any) 4 (I (wC x l 0)),hh⟩):=fun S H X hX=>by
  rw[←hX];exact h S H
 simp only[mZ,vV,go_sem,avV,avO,avZ,avX,avU,av0];generalize hB:cS (ah 0 [] (av _ _ _ _ _)) _=X;obtain⟨hh,h3⟩:=h' _ _ _ hB rfl rfl rfl rfl;rw[h3];simp only[go_sem,avV,avO,avZ,avX,avU,av0]
end Go.Ab
