/-
  A law of tapes on models holds at every input that the statement speaks of, under the conditions that its card names. Part D1.
-/
import Derived.IntWalk
import Derived.Test.YtighajjmobfadaaGreatDoorC1
open Nat renaming add_mul → azn, add_zero → azA, div_add_mod → azV, le_refl → ayZ, le_trans → ay3, lt_of_le_of_lt → azt, lt_of_lt_of_le → azY, min_eq_left → azS, mod_eq_of_lt → azL, mod_lt → azw, mul_assoc → azq, mul_comm → azl, mul_le_mul_left → azR, mul_le_mul_right → ay7, pow_add → azc, pow_le_pow_right → azD, pow_succ → azO, reduceSub → azz, sub_self → az2, two_pow_pos → aze, zero_add → ayX, zero_le → azH
open Int renaming eq_ofNat_of_zero_le → az4, lt_irrefl → azI, natCast_zero → azC, reduceEq → azf, reduceLE → azh, reduceLT → aza, reduceToNat → azu, toNat_natCast → ay4
open Bool renaming and_eq_true → ay1, and_false → az3, and_true → az1, false_and → ay6, false_eq_true → azK, false_ne_true → ay9, true_and → ay5
open List renaming all_cons → azm, all_nil → azX, append_assoc → azB, append_nil → azb, cons_append → azM, drop_eq_getElem_cons → azj, drop_eq_nil_of_le → azi, drop_zero → azZ, getElem_mem → azo, length_cons → azp, length_nil → azx, length_replicate → azU, length_take → azd, map_congr_left → azy, map_id' → azN, mem_map → azP, nil_append → ay8, replicate → ayW, take_of_length_le → azg
open Option renaming bind_some → ay2, map_some → azE
set_option linter.all false
namespace Go.Ab
open Go Go.IntWalk
set_option maxRecDepth 4000
set_option maxHeartbeats 1000000
def aC(m:List Nat):List (List AV):=m.map fun(x:Nat)=>[U x]
def lm(m:List Nat):AV:=.sl 1 (aC m)
theorem DX(m):(aC m).length=m.length:=by simp[aC]
@[go_sem] theorem Fk(l:List (List AV)):l.map (dY [])=l:=(azy (g:=fun c=>c) fun c _=>V6 c).trans (azN _)
@[go_sem] theorem atX(hs m):gS hs (lm m)=lm m:=θ _
@[go_sem] theorem ash(hs m):knownL hs (lm m)=true:=θ _
@[go_sem] theorem ap9(hs m):jk hs (lm m)=true:=θ _
@[go_sem] theorem ayk(ks m):uF ks (lm m)=lm m:=θ _
@[go_sem] theorem awl(ks m):so ks (lm m)=false:=θ _
@[go_sem] theorem awm(ks m):GU ks (lm m)=false:=θ _
@[go_sem] theorem ayl(m):rh false (lm m)=some (I m.length):=by simp[lm,rh,aC]
@[go_sem] theorem awn(m k i):xR 1 (lm m) (.v (.int k i))=aU (aC m) i:=by simp[lm,xR]
@[go_sem] theorem aj2(k ss m):nrmV (.o (k+1) []::ss) (lm m)=lm m:=by simp[lm,nrmV,nrmL,Fk]
@[go_sem] theorem atY(k cs ss m):nrmV (.o (k+1) [.o 0 cs]::ss) (lm m)=lm m:=by
 simp_all[aC,dY,azy,azN,nrmL,lm,nrmV]
@[go_sem] theorem awo(k m):nrmL (.o (k+1) []) (lm m)=lm m:=by simp[lm,nrmL,Fk]
@[go_sem] theorem awp(h m):sB h (lm m)=some (lm m):=θ _
@[go_sem] theorem atZ(h m l):mT h (lm m::l)=(mT h l).bind fun q=>some (lm m::q):=θ _
@[go_sem] theorem awq(m):cr (lm m)=[]:=θ _
@[go_sem] theorem awr(m):fP (lm m)=[]:=θ _
@[go_sem] theorem aym(m):dat (lm m)=true:=θ _
@[go_sem] theorem aws(m):aE (lm m)=true:=θ _
@[go_sem] theorem at0(m):bm (lm m)=false:=θ _
@[go_sem] theorem at1(m):iP (lm m)=some [lm m]:=θ _
@[go_sem] theorem awt(h m):gg h (lm m)=some (lm m,h,[]):=θ _
@[go_sem] theorem at2(h m):dE h 0 (lm m)=some (lm m,h,[]):=θ _
@[go_sem] theorem at3(id p m):Cr id p (lm m)=lm m:=θ _
@[go_sem] theorem at4(h d m):lM h d (some (lm m,[]))=if cB h (2000+8*d) 1=true then some (lm m,h,[])else none:=ahe h d 1 (aC m)
@[go_sem] theorem ayn(m):AV.sl 1 (aC m)=lm m:=θ _
@[go_sem] theorem at5(p)(a):kH (List.filter p [a])=true:=by
 simp only[List.filter];split<;>rfl
@[go_sem] theorem Ry(m):(aC m).length=m.length:=by simp[aC]
@[go_sem] theorem amX:AV.sl 1 []=lm []:=θ _
@[go_sem] theorem asi(cs ss):nrmV (.o 2 cs::ss) .emp=lm []:=by simp[nrmV,nrmL,lm,aC]
@[go_sem] theorem asj(cs):nrmL (.o 2 cs) .emp=lm []:=by simp[nrmL,lm,aC]
@[go_sem] theorem awu(k ss m):nrmV (.o (k+1) []::ss) (.sl 1 (aC m))=lm m:=aj2 k ss m
@[go_sem] theorem at6(k ss m):nrmV (.o (k+1) []::ss) (.osl 1 (aC m))=lm m:=by simp[lm,nrmV,nrmL,Fk]
theorem bu{m}{i:Int}{n:Nat}(hi:i=n)(h:n<m.length):aU (aC m) i=some (.ipt [U (m.getD n 0)]):=by
 grind[aU,aC]
theorem kY{m}{n}(h:n<m.length):(aC m)[n]?=some [U (m.getD n 0)]:=by
 grind[aC]
theorem WT(m)(n):(aC m).take n=aC (m.take n):=by simp[aC,List.map_take]
theorem ahm(m)(n):(aC m).drop n=aC (m.drop n):=by simp[aC,List.map_drop]
theorem DY(m l):aC m++aC l=aC (m++l):=by simp[aC]
theorem py(m)(n x):(aC m).set n [U (x:Nat)]=aC (m.set n x):=by simp[aC,List.map_set]
theorem BX(n):ayW n [AV.v (.int .u32 0)]=aC (ayW n 0):=by simp[aC]
theorem K2{m}{lo hi}{a b}(hlo:kG 0 b lo=some a)(hhi:kG m.length m.length hi=some b)(_hb:b<=m.length):dH 1 (lm m) lo hi none=some (lm ((m.drop a).take (b-a))):=by
 simp_all[lm,dH,jH,DX,if_true,ay2,azE,Hn,azK,if_false,WT,ahm]
theorem Fl(d n):kG d n none=some d:=θ _
theorem vU{d n}{k}{i:Int}{a:Nat}(hi:i=a)(h:a<=n):kG d n (some (.v (.int k i)))=some a:=by
 grind[kG]
theorem acJ{f}{fd}{args}{r}(hE:cO.E f=none)(hC:cO.C f=some fd)(hk:cO.md.keep f=false)(h1:args.length=fd.np)
  (hz:je false fd.rs fd.res 0 (aj R (az false) fd.body (uw args) (fun _=>.dead))=some r):R f args []=some r:=by
 simp_all[KX,azH,acm]
theorem av{f:FuncId}{l:List (List Sh)}{fd:FD}{args:List AV}{r:AV×List Ob}(q:QE f l fd)(h1:args.length=fd.np)
  (hz:je false fd.rs fd.res 0 (aj R (az false) fd.body (uw args) (fun _=>.dead))=some r):R f args []=some r:=acJ q.2.1 q.2.2 (q.1.2.2.2 false) h1 hz
noncomputable def rQ (k:Nat) (g:Bool):Cmd:=.seq (.ops [0,1,7,8,9] [co 9 (.bin .lss (.t 8) (.t 7))]) (.seq (.cond (.t 9) (.skip) (.exit 0)) (.seq (.block 1 [0,1,7,8] (.seq (.ops [0,1,5,7,8] [cm 10 8,cm 5 10]) (.seq (.ops [0,1,5,7,8,16] [cm 11 1,cm 12 0,cm 13 5,co 14 (.iadrS k (.t 12) (.t 13)),⟨(some 15),none,.load k g (.t 14)⟩,⟨(some 16),none,.call (.t 11) [(.t 15)]⟩]) (.cond (.t 16) (.seq (.ops [4] [cm 17 5,cm 4 17]) (.ret)) (.skip))))) (.ops [0,1,7,8] [co 18 (.bin .add (.t 8) (.c (.v (.int .i64 1)))),cm 8 18])))
noncomputable def pz:Cmd:=.seq (.ops [4] [co 4 (.mv (.c (.v (.int .i64 (-1)))))]) (.ret)
def AS{α:Type}(p:α->Bool):List α->Nat->Int
 |[],_=>-1
 |r::rs,n=>if p r=true then n else AS p rs (n+1)
theorem N1{α}(p):∀ (l:List α) n,decide (0<=AS p l n)=l.any p
 |[],n=>rfl
 |r::rs,n=>by
  simp only[AS,List.any_cons];by_cases h:p r=true
  ·simp[h]
  ·simp[h,N1 p rs (n+1)]
theorem ahn{k}{g}{f}{rows}{p}{hs}(hhs:hs=[]\/hs=[1000])(hm:(az false).m f=[])(hl:rows.length<4611686018427387904)
  (hf:∀row∈rows,∃a,lj k g row 0=some a/\dat a=true/\R f (bp ((az false).sh f) [a]) []=some (B (p row),[])):∀rest (n:Nat),rows.drop n=rest->n<=rows.length->
  ∀s h,s 0=.sl k rows->s 1=.fn f [] []->s 7=I rows.length->s 8=I n->h 1000=.dead->
   ∃hh,cH (ah 0 [] (aq (aj R (az false) (rQ k g)) [0,1,7,8] hs s h)) (aj R (az false) pz)=some (.ret,⟨upd (fun _=>.any) 4 (I (AS p rest n)),hh⟩):=by
 intro rest;induction rest with
 |nil=>
  intro n hd hn s h h0 h1 h7 h8 h9;have e:n=rows.length:=by
   have:=congrArg List.length hd;grind
  subst e;rw[ag];rcases hhs with rfl|rfl<;>exact⟨_,by simp only[rQ,pz,go_sem,h0,h1,h7,h8,h9,azI,AS];rfl⟩
 |cons r rest ih=>
  intro n hd hn s h h0 h1 h7 h8 h9;have hlt:n<rows.length:=by
   grind
  have hr:rows[n]?=some r:=by
   have:=congrArg (·[0]?) hd;grind
  obtain⟨a,ha,hda,hc⟩:=hf r (List.mem_of_getElem? hr);have ih':=ih (n+1) (by rw[←List.drop_drop,hd];rfl) hlt;have e1:(n< (rows.length:Int))=True:=eq_true ω;have e2:aU rows n=some (.ipt r):=by grind[aU]
  have e3:IntKind.i64.wrap (n+1)=(n+1:Nat):=by grind[i64_in]
  rw[ag];generalize aq _ _ _=L at ih'⊢;rcases hhs with rfl|rfl
  all_goals
   simp only[rQ,go_sem,h0,h1,h7,h8,h9,e1,e2,ha,CP _ hm,hda,hc,AS];cases hp:p r with
   |true=>exact⟨_,by simp only[go_sem];rfl⟩
   |false=>
    simp only[go_sem,e3,ay9];exact ih' _ _ rfl rfl rfl rfl rfl
theorem WU{fi}{fd}{k}{g}{hs}(hE:cO.E fi=none)(hC:cO.C fi=some fd)(hk:cO.md.keep fi=false)
  (hfd:fd=⟨2,[[]],[.t 4],.seq (.ops [0,1] [co 4 (.mv (.c (.v (.int .i64 0))))]) (.seq (.seq (.ops [0,1,7,8] [cm 6 0,co 7 (.len false (.t 6)),co 8 (.mv (.c (.v (.int .i64 0))))]) (.block 0 [] (.loop [0,1,7,8] hs (rQ k g)))) pz)⟩)
  {f} {rows} {p} (hm:(az false).m f=[]) (hl:rows.length<4611686018427387904)
  (hf:∀row∈rows,∃a,lj k g row 0=some a/\dat a=true/\R f (bp ((az false).sh f) [a]) []=some (B (p row),[])) (hhs:hs=[]\/hs=[1000]:=by simp):R fi [.sl k rows,.fn f [] []] []=some (I (AS p rows 0),[]):=by
 subst hfd;refine acJ hE hC hk rfl ?_;have hL:=ahn (k:=k) (g:=g) hhs hm hl hf rows 0 rfl (azH _);simp only[go_sem,ajf];have hL2:∀S H X,cH (ah 0 [] (aq (aj R (az false) (rQ k g)) [0,1,7,8] hs S H)) (aj R (az false) pz)=X->S 0=.sl k rows->S 1=.fn f [] []->S 7=I rows.length->S 8=I 0->H 1000=.dead->
   ∃hh,X=some (.ret,⟨upd (fun _=>.any) 4 (I (AS p rows 0)),hh⟩):=fun S H X hX a b c d e=>by
  rw[←hX];exact hL S H a b c d e
 generalize hX:cH (ah 0 [] (aq _ _ hs _ _)) (aj R (az false) pz)=X;obtain⟨hh,e⟩:=hL2 _ _ _ hX rfl rfl rfl rfl rfl;rw[e];simp only[go_sem]
noncomputable def PR (fi:FuncId):FD:=⟨2,[[]],[.t 4],.seq (.ops [0,1] [co 4 (.mv (.c (.v (.bool false))))]) (.seq (.ops [4] [cm 5 0,cm 6 1,⟨(some 7),none,.call (.c (.fn fi [] [])) [(.t 5),(.t 6)]⟩,co 8 (.bin .geq (.t 7) (.c (.v (.int .i64 0)))),cm 4 8]) (.ret))⟩
theorem Rz{ci fi}{fd}{k}(hE:cO.E ci=none)(hC:cO.C ci=some fd)(hk:cO.md.keep ci=false)(hfd:fd=PR fi)(hm:(az false).m fi=[]){cs}(hsh:(az false).sh fi=[[.o (k+1) cs],[]])
  {rows} {f} {p} (hr:rows.map (dY cs)=rows) (h:R fi [.sl k rows,.fn f [] []] []=some (I (AS p rows 0),[])):R ci [.sl k rows,.fn f [] []] []=some (B (rows.any p),[]):=by
 subst hfd;refine acJ hE hC hk rfl ?_;simp only[PR,go_sem,CP _ hm,hsh,hr,h,ahc,N1]
theorem dK{i:Int}{n:Nat}(h:i=n)(hn:n<18446744073709551616):IntKind.u64.wrap i=n:=by rw[u64_in]<;>omega
theorem DK{i:Int}{n:Nat}(h:i=n)(hn:n<4294967296):IntKind.u32.wrap i=n:=by rw[u32_in]<;>omega
theorem wi{i:Int}{n:Nat}(h:i=n:=by omega)(hn:n<9223372036854775808:=by omega):IntKind.i64.wrap i=n:=by rw[i64_in]<;>omega
theorem IY{i:Int}{n:Nat}(h:i=n):IntKind.u32.wrap i=(n%4294967296:Nat):=by grind[IntKind.wrap_u32]
theorem sW{i:Int}{n k:Nat}{kk}{j:Int}(h:i=n)(hj:j=k)(hk:k<=64):dq .shr (.v (.int .u64 i)) (.v (.int kk j))=some (.v (.int .u64 (n/2^k:Nat))):=by
 simp_all[Hv,if_neg,IntKind.bits,Option.some.injEq,AV.v.injEq,Value.int.injEq,true_and,Int.fdiv_eq_ediv_of_nonneg,Int.pow_nonneg]
theorem N2{x y c:Nat}(hx:x<4294967296)(hy:y<4294967296)(hc:c<=1):R F.bits_Add32 [U x,U y,U c] []=some (.tup [U (((x+y+c) %4294967296:Nat)),U (((x+y+c)/4294967296:Nat))],[]):=by
 refine av WP rfl ?_;have e1:IntKind.u64.wrap x=x:=dK rfl ω;have e2:IntKind.u64.wrap y=y:=dK rfl ω;have e3:IntKind.u64.wrap c=c:=dK rfl ω;have e4:IntKind.u64.wrap (x+y)=(x+y:Nat):=dK ω ω;have e5:IntKind.u64.wrap ((x+y:Nat)+c)=(x+y+c:Nat):=dK ω ω;have e6:IntKind.u32.wrap (x+y+c:Nat)=((x+y+c) %4294967296:Nat):=IY rfl;have e7:=sW (n:=x+y+c) (k:=32) (kk:=.u64) (j:=32) rfl rfl ω;have e8:IntKind.u32.wrap ((x+y+c)/2^32:Nat)=((x+y+c)/4294967296:Nat):=DK rfl ω;simp only[Dt,KP,go_sem,e1,e2,e3,e4,e5,e6,e7,e8]
theorem aj3{k}{n}(h:n≠0):Hn (some (.v (.int k n)))=false:=by
 simp_all[Hn,absurd]
theorem aj4{m}(h:m.length≠0):dH 1 (lm m) none (some (I m.length)) (some (I m.length))=some (lm m):=by
 have hz:Hn (some (I m.length))=false:=aj3 ω;have h1:kG m.length m.length (some (I m.length))=some m.length:=vU rfl (ayZ _)
 simp_all[dH,lm,DX,jH,Fl,if_true,ay2,azE,azK,if_false,azZ,Nat.sub_zero,WT,List.take_length]
theorem RA(m):R F.slices_Clip_uint32_uint32_ [lm m] []=some (lm m,[]):=by
 refine av BV rfl ?_;by_cases h:m.length=0
 ·have:=List.length_eq_zero_iff.1 h;subst this;rfl
 ·simp only[kv,rJ,go_sem,aj4 h]
theorem Tn(m)(h2:m.length<4611686018427387904):∀ (n:Nat),n<=m.length->∀s h,s 0=lm m->s 3=I n->
  ah 0 [0,3] (aq (aj R (az false) mF) [0,3] [] s h)=some (.normal,⟨upd (upd (fun _=>.any) 3 (I (ni m n))) 0 (lm m),fun _=>.dead⟩):=by
 intro n;induction n with
 |zero=>
  intro h1 s h h3 h4;rw[ag];simp only[mF,go_sem,h3,h4,ni,azC,azI]
 |succ n ih=>
  intro h1 s h h3 h4;have hn:=h1;have e3:IntKind.i64.wrap (n+1-1)=n:=wi ω ω;have e1:=bu rfl hn;have e2:(0< (n:Int)+1)=True:=eq_true ω;have ih':=ih ω;rw[ag];by_cases hz:m.getD n 0=0
  ·simp only[mF,go_sem,h3,h4,ni,Int.natCast_add,Int.natCast_one,e3,e1,e2,hz,azC];exact ih' _ _ rfl rfl
  ·simp only[mF,go_sem,h3,h4,ni,Int.natCast_add,Int.natCast_one,e3,e1,e2,hz,Int.natCast_eq_zero]
theorem dD{m}(hb:Lb m)(h:m.length<4611686018427387904):R F.natural_trim [lm m] []=some (lm (au (ab m)),[]):=by
 refine av Rk rfl ?_;have h1:dH 1 (lm m) none (some (I (ni m m.length))) none=some (lm (au (ab m))):=by
  rw[K2 (a:=0) (b:=ni m m.length) rfl (vU rfl (Fb _ _)) (Fb _ _),azZ,Nat.sub_zero,NI hb]
 simp only[AD,HF,go_sem,Tn m h m.length (ayZ _),h1]
def llm(l:List (List Nat)):AV:=.sl 1 (l.map fun m=>[lm m])
theorem aj5(l:List (List Nat))(cs):(l.map fun m=>[lm m]).map (dY [.o 2 cs])=l.map fun m=>[nrmL (.o 2 cs) (lm m)]:=by
 simp[List.map_map,dY]
theorem aer(m):R F.natural_long_1 [lm m] []=some (B (decide (256<m.length)),[]):=by
 refine av Fh rfl ?_;have e:decide (256< (m.length:Int))=decide (256<m.length):=γ
 simp only[xG,E5,go_sem,e]
theorem ZY{l}(hl:l.length<4611686018427387904):R F.natural_long [llm l] []=some (B (l.any fun m=>decide (256<m.length)),[]):=by
 refine av Rh rfl ?_
 let p:List AV->Bool:=fun row=>match row with|[.sl _ rows]=>decide (256<rows.length)|_=>false
 have hp:∀m,p [lm m]=decide (256<m.length):=fun m=>by grind[lm,DX]
 have hn:(l.map fun m=>[lm m]).map (dY [.o 2 []])=l.map fun m=>[lm m]:=by
  rw[aj5];simp only[go_sem]
 have h1:=WU (k:=1) (g:=false) (f:=F.natural_long_1) (rows:=l.map fun m=>[lm m]) (p:=p) dj.2.1 dj.2.2 (dj.1.2.2.2 false) rfl (Fh.1.2.1 false) γ (fun row hr=>by
  simp only[azP]at hr;obtain⟨m,hm,rfl⟩:=hr;refine⟨lm m,rfl,rfl,?_⟩;simp only[go_sem,aer,hp])
 have h2:=Rz (k:=1) dN.2.1 dN.2.2 (dN.1.2.2.2 false) rfl (dj.1.2.1 false) (dj.1.1 false) hn h1;have h3:(l.map fun m=>[lm m]).any p=l.any fun m=>decide (256<m.length):=by
  rw[List.any_map];congr 1;funext m
  simp_all
 rw[h3]at h2;simp only[AC,HE,llm,go_sem,CP _ (dN.1.2.1 false),hn,h2]
theorem tt{p}(h:p:=by omega):p=True:=eq_true h
theorem ff{p}(h:¬p:=by omega):p=False:=eq_false h
theorem s6(a):R F.natural_long [.sl 1 [[lm a]]] []=some (B (decide (256<a.length)),[]):=by
 have:=ZY (l:=[a]) σ;grind[llm]
theorem vV(a b):R F.natural_long [.sl 1 [[lm a],[lm b]]] []=some (B (decide (256<a.length)||decide (256<b.length)),[]):=by
 have:=ZY (l:=[a,b]) σ;grind[llm]
def lq(n:Nat):AV:=if 256< (au n).length then .tup [lm [],I 9]else .tup [lm (au n),I 0]
theorem HT{m}(hb:Lb m)(h:m.length<4611686018427387904):R F.natural_done [lm m] []=some (lq (ab m),[]):=by
 refine av Rj rfl ?_;by_cases hl:256< (au (ab m)).length
 ·simp only[uU,BP,lq,go_sem,dD hb h,s6,hl]
 ·simp only[uU,BP,lq,go_sem,dD hb h,s6,hl,RA]
theorem JX{a:List Nat}{i}(h:i<a.length):ab (a.take (i+1))=ab (a.take i)+4294967296^i*a.getD i 0:=by
 grind[List.take_add_one,eA,azd,azS,ab]
theorem Zw{a:List Nat}{i}(h:a.length<=i):ab (a.take (i+1))=ab (a.take i)+4294967296^i*a.getD i 0:=by
 grind[azg]
theorem fm(a:List Nat)(i):ab (a.take (i+1))=ab (a.take i)+4294967296^i*a.getD i 0:=by
 grind[JX,Zw]
def ZZ(n i:Nat):Nat:=n/4294967296^i%4294967296
theorem aho{k n i}(h:i<k):(dJ k n)[i]?=some (ZZ n i):=by
 induction k generalizing n i with
 |zero=>omega
 |succ k ih=>
  cases i with
  |zero=>simp[dJ,ZZ]
  |succ i=>
   grind[dJ,ZZ,azO,azl,Nat.div_div_eq_div_mul]
theorem WV{k n}{l}(hl:l.length=k)(h:∀i,i<k->l.getD i 0=ZZ n i):l=dJ k n:=by
 refine List.ext_getElem? fun i=>?_;rcases Nat.lt_or_ge i k with hi|hi
 ·simp_all[aho,congrArg]
 grind[cY]
def eC(a b:List Nat):Nat->Nat
 |0=>0
 |i+1=>(a.getD i 0+b.getD i 0+eC a b i)/4294967296
def Hi(a b:List Nat)(i:Nat):Nat:=(a.getD i 0+b.getD i 0+eC a b i) %4294967296
theorem Fn{a b}(ha:Lb a)(hb:Lb b):∀i,eC a b i<=1
 |0=>by simp[eC]
 |i+1=>by
  have h1:=bU ha i;have h2:=bU hb i;have h3:=Fn ha hb i;simp only[eC];omega
def dk(a b:List Nat)(i:Nat):List Nat:=(List.range i).map (Hi a b)
theorem Fo(f)(i):ab ((List.range (i+1)).map f)=ab ((List.range i).map f)+4294967296^i*f i:=by
 rw[List.range_succ,List.map_append,eA];simp[ab]
theorem IZ(a b):∀i,ab (dk a b i)+4294967296^i*eC a b i=ab (a.take i)+ab (b.take i)
 |0=>by simp[dk,eC,ab]
 |i+1=>by
  have ih:=IZ a b i;rw[fm a i,fm b i];simp only[dk]at ih⊢;rw[Fo,azO];have e:eC a b (i+1)*4294967296+Hi a b i=a.getD i 0+b.getD i 0+eC a b i:=by
   grind[eC,Hi]
  grind
theorem jG(a b)(i):(dk a b i).length=i:=by simp[dk]
theorem RB(a b)(i):Lb (dk a b i):=fun x hx=>by
 simp only[dk,azP]at hx;obtain⟨j,_,rfl⟩:=hx;simp only[Hi];omega
theorem ahp{a b}(ha:Lb a)(hb:Lb b)(hl:b.length<=a.length):dk a b a.length++[eC a b a.length]=dJ (a.length+1) (ab a+ab b):=by
 have h:=IZ a b a.length;rw[List.take_length,azg hl]at h;have h1:Lb (dk a b a.length++[eC a b a.length]):=qi.2 ⟨RB _ _ _,jt.2 ⟨by grind[Fn],KT⟩⟩;have h2:ab (dk a b a.length++[eC a b a.length])=ab a+ab b:=by
  grind[eA,jG,ab]
 have:=IS h1;grind[jG]
theorem WX{α:Type}(l)(n)(x z:α)(h:0<n):(l++ayW n z).set l.length x=(l++[x])++ayW (n-1) z:=by
 obtain⟨n,rfl⟩:∃m,n=m+1:=⟨n-1,by omega⟩;grind
theorem ahq{a b}(ha:Lb a)(hb:Lb b)(_hl:b.length<=a.length)(h2:a.length<4611686018427387904):∀k i,i+k=a.length->∀s h,s 0=lm a->s 1=lm b->s 5=.rsl 20 none 1 0 (a.length+1)->s 6=U (eC a b i)->
  s 21=lm a->s 22=I a.length->s 23=I i->h 20=.ar 1 (aC (dk a b i++ayW (k+1) 0))->
  ah 0 [0,5,6] (aq (aj R (az false) kX) [0,1,5,6,21,22,23] [20] s h)=
   some (.normal,⟨upd (upd (upd (fun _=>.any) 6 (U (eC a b a.length))) 5 (.rsl 20 none 1 0 (a.length+1))) 0 (lm a),upd (fun _=>.dead) 20 (.ar 1 (aC (dk a b a.length++[0])))⟩):=by
 intro k;induction k with
 |zero=>
  intro i hi s h h0 h1 h5 h6 h21 h22 h23 hh;have:i=a.length:=ω
  subst this;rw[ag];simp only[kX,go_sem,h0,h1,h5,h6,h21,h22,h23,hh,azI,List.contains_cons,BEq.rfl,Bool.true_or]
 |succ k ih=>
  intro i hi s h h0 h1 h5 h6 h21 h22 h23 hh;have ih':=ih (i+1) ω;have e1:((i:Int)< (a.length:Int))=True:=tt ω;have e2:aU (aC a) (i:Int)=some (.ipt [U (a.getD i 0:Nat)]):=bu rfl ω;have e3:IntKind.i64.wrap ((i:Int)+1)=((i+1:Nat):Int):=wi ω ω;have e4:(0<=(i:Int))=True:=tt ω;have e5:((i:Int)< ((a.length+1:Nat):Int))=True:=tt ω;have e6:=N2 (bU ha i) (bU hb i) (Fn ha hb i);have e7:(aC (dk a b i++ayW (k+1+1) 0))[i]?=some [U (0:Nat)]:=by
   grind[kY,jG]
  have e8:(aC (dk a b i++ayW (k+1+1) 0)).set i [U ((a.getD i 0+b.getD i 0+eC a b i) %4294967296:Nat)]=aC (dk a b (i+1)++ayW (k+1) 0):=by
   rw[py];grind[eC,Hi,dk,List.range_succ]
  rw[ag];by_cases hb':i<b.length
  ·have e9:((i:Int)< (b.length:Int))=True:=tt ω;have e10:aU (aC b) (i:Int)=some (.ipt [U (b.getD i 0:Nat)]):=bu rfl hb';simp only[kX,go_sem,h0,h1,h5,h6,h21,h22,h23,hh,List.contains_cons,BEq.rfl,Bool.true_or,e1,e2,e3,e4,e5,e6,e7,e8,e9,e10,ay4,ayX];exact ih' _ _ rfl rfl rfl rfl rfl rfl rfl rfl
  ·have e9:((i:Int)< (b.length:Int))=False:=ff ω;have e10:b.getD i 0=0:=γ
   have e6':=N2 (bU ha i) (y:=0) ω (Fn ha hb i);simp only[azC]at e6';have e8':(aC (dk a b i++ayW (k+1+1) 0)).set i [U ((a.getD i 0+0+eC a b i) %4294967296:Nat)]=aC (dk a b (i+1)++ayW (k+1) 0):=by
    grind
   simp only[kX,go_sem,h0,h1,h5,h6,h21,h22,h23,hh,List.contains_cons,BEq.rfl,Bool.true_or,e1,e2,e3,e4,e5,e7,e8',e9,ay4,ayX,e6'];refine ih' _ _ rfl rfl rfl ?_ rfl rfl rfl rfl;simp only[eC,e10];rfl
theorem se{i j:Int}{l c:Nat}(hi:i=l)(hj:j=c)(h:l<=c)(hc:c<9223372036854775808):lI (I i) (I j)=some (l,c):=by
 simp only[lI];grind
noncomputable def N3:Cmd:=.seq (.ops [0,1,5] [cm 17 0,co 18 (.len false (.t 17)),co 19 (.bin .add (.t 18) (.c (.v (.int .i64 1)))),⟨(some 20),none,.mkSl 1 [(.v (.int .u32 0))] 4 (.t 19) (.t 19)⟩,cm 5 20]) (.seq (.ops [0,1,5,6] [co 6 (.mv (.c (.v (.int .u32 0))))]) (.seq (.seq (.ops [0,1,5,6,21,22,23] [cm 21 0,co 22 (.len false (.t 21)),co 23 (.mv (.c (.v (.int .i64 0))))]) (.block 0 [0,5,6] (.loop [0,1,5,6,21,22,23] [20] kX))) (.seq (.ops [5] [cm 47 5,cm 48 0,co 49 (.len false (.t 48)),cm 50 6,co 51 (.iadrS 1 (.t 47) (.t 49)),⟨none,none,.store 1 (.t 51) (.t 50)⟩]) (.seq (.ops [4] [cm 52 5,cm 4 52]) (.ret)))))
theorem WY{a b}(ha:Lb a)(hb:Lb b)(hl:b.length<=a.length)(h2:a.length<=100000):∀s,s 0=lm a->s 1=lm b->
  aj R (az false) N3 s (fun _=>.dead)=some (.ret,⟨upd (fun _=>.any) 4 (.rsl 20 none 1 0 (a.length+1)),upd (upd (fun _=>.dead) 20 (.ar 1 (aC (dk a b a.length++[0])))) 20 (.ar 1 (aC (dJ (a.length+1) (ab a+ab b))))⟩):=by
 intro s h0 h1;have e1:IntKind.i64.wrap (a.length+1)=(a.length+1:Nat):=wi ω ω;have e2:=se (i:=(a.length+1:Nat)) (j:=(a.length+1:Nat)) (l:=a.length+1) (c:=a.length+1) rfl rfl (ayZ _) ω;have e3:((a.length+1)*4<=140737488355328)=True:=tt ω;have e4:=ahq ha hb hl ω a.length 0 ω;have e5:aC (ayW (a.length+1) 0)=aC (dk a b 0++ayW (a.length+1) 0):=rfl;have e6:(0<=(a.length:Int))=True:=tt ω;have e7:(a.length< ((a.length+1:Nat):Int))=True:=tt ω;have e8:(aC (dk a b a.length++[0]))[a.length]?=some [U 0]:=by
  grind[kY,jG]
 have e9:(aC (dk a b a.length++[0])).set a.length [U (eC a b a.length)]=aC (dJ (a.length+1) (ab a+ab b)):=by
  rw[py]
  simp_all[jG,ayW,az2,List.replicate_zero,azb,ahp]
 simp only[N3,go_sem,h0,h1,e1,e2,e3,BX,e5];rw[e4 _ _ rfl rfl rfl rfl rfl rfl rfl rfl];simp only[go_sem,e6,e7,e8,e9,ay4,ayX]
theorem WZ:JU=.seq (.ops [0,1] [co 4 (.mv (.c .emp))]) (.seq (.seq (.ops [0,1,14] [cm 10 0,co 11 (.len false (.t 10)),cm 12 1,co 13 (.len false (.t 12)),co 14 (.bin .lss (.t 11) (.t 13))]) (.cond (.t 14) (.ops [0,1] [cm 15 1,cm 16 0,cm 0 15,cm 1 16]) (.skip))) N3):=rfl
theorem aes{a b}(ha:Lb a)(hb:Lb b)(h1:a.length<=100000)(h2:b.length<=100000):R F.natural_add [lm a,lm b] []=some (lm (dJ (max a.length b.length+1) (ab a+ab b)),[]):=by
 refine av UJ rfl ?_;by_cases h:a.length<b.length
 ·have e1:(a.length< (b.length:Int))=True:=tt ω;have e2:=WY hb ha ω h2;simp only[wS,WZ,go_sem,e1];rw[e2 _ rfl rfl];simp only[go_sem,cY,ayX,ayZ];grind
 ·have e1:(a.length< (b.length:Int))=False:=ff ω;have e2:=WY ha hb ω h1;simp only[wS,WZ,go_sem,e1];rw[e2 _ rfl rfl];simp only[go_sem,cY,ayX,ayZ];grind
theorem aet{a b}(ha:Lb a)(hb:Lb b)(h1:a.length<=256)(h2:b.length<=256):R F.natural_Add [lm a,lm b] []=some (lq (ab a+ab b),[]):=by
 refine av UG rfl ?_;have e1:(256<a.length)=False:=ff ω;have e2:(256<b.length)=False:=ff ω;have e3:ab (dJ (max a.length b.length+1) (ab a+ab b))=ab a+ab b:=by
  rw[mr,azL];have h1:=cW ha;have h2:=cW hb;have h3:4294967296^a.length<=4294967296^max a.length b.length:=azD ω ω;have h4:4294967296^b.length<=4294967296^max a.length b.length:=azD ω ω;omega
 have e4:=HT (px (max a.length b.length+1) (ab a+ab b)) (by grind[cY]);rw[e3]at e4;unfold lq at e4⊢;by_cases hl:256< (au (ab a+ab b)).length
 ·simp only[hl,if_true]at e4⊢;simp only[wR,Ds,go_sem,e1,e2,vV,aes ha hb ω ω,e4]
 ·simp only[hl,if_false]at e4⊢;simp only[wR,Ds,go_sem,e1,e2,vV,aes ha hb ω ω,e4]
def cw(x y:Nat):Int:=if x<y then-1 else if y<x then 1 else 0
theorem s7{x y}(h:(au x).length< (au y).length):x<y:=by
 have h1:=gQ x;have hy:y≠0:=by grind[fQ]
 have h2:=Tl hy;have h3:4294967296^ (au x).length<=4294967296^ ((au y).length-1):=azD ω ω;omega
noncomputable def uo:Cmd:=.seq (.ops [4] [co 4 (.mv (.c (.v (.int .i64 0))))]) (.ret)
theorem ahr{a b}(ha:Lb a)(hb:Lb b)(hl:a.length=b.length)(h2:a.length<=100000):∀k,k<=a.length->∀s h,s 0=lm a->s 1=lm b->s 5=I (k-1)->
  cH (ah 0 [] (aq (aj R (az false) jg) [0,1,5] [] s h)) (aj R (az false) uo)=some (.ret,⟨upd (fun _=>.any) 4 (I (cw (ab (a.take k)) (ab (b.take k)))),fun _=>.dead⟩):=by
 intro k;induction k with
 |zero=>
  intro hk s h h0 h1 h5;rw[ag];have e1:(0<=((0:Nat):Int)-1)=False:=ff;have e2:cw (ab []) (ab [])=0:=rfl;simp only[jg,uo,go_sem,h0,h1,h5,e1,e2]
 |succ k ih=>
  intro hk s h h0 h1 h5;have ih':=ih ω;have e1:(0<=((k+1:Nat):Int)-1)=True:=tt;have e2:aU (aC a) ((k+1:Nat)-1)=some (.ipt [U (a.getD k 0)]):=bu ω ω;have e3:aU (aC b) ((k+1:Nat)-1)=some (.ipt [U (b.getD k 0)]):=bu ω ω;have e4:IntKind.i64.wrap ((k+1:Nat)-1-1)=k-1:=by grind[i64_in]
  have va:=fm a k;have vb:=fm b k;have la:=cW (fK ha k);have lb:=cW (fK hb k);rw[azd,azS ω]at la lb;rw[ag];rcases Nat.lt_trichotomy (a.getD k 0) (b.getD k 0)with hlt|heq|hgt
  ·have e5:((a.getD k 0)< (b.getD k 0:Int))=True:=tt;have e6:cw (ab (a.take (k+1))) (ab (b.take (k+1)))=-1:=by
    have:4294967296^k*(a.getD k 0+1)<=4294967296^k*b.getD k 0:=azR _ hlt;rw[Nat.mul_add]at this;simp only[cw];omega
   simp only[jg,uo,go_sem,h0,h1,h5,e1,e2,e3,e5,e6]
  ·have e5:((a.getD k 0)< (b.getD k 0:Int))=False:=ff;have e7:((b.getD k 0)< (a.getD k 0:Int))=False:=ff;have e6:cw (ab (a.take (k+1))) (ab (b.take (k+1)))=cw (ab (a.take k)) (ab (b.take k)):=by
    grind[cw]
   simp only[jg,go_sem,h0,h1,h5,e1,e2,e3,e5,e6,e7,e4];exact ih' _ _ rfl rfl rfl
  ·have e5:((a.getD k 0:Int)< (b.getD k 0:Int))=False:=ff;have e7:((b.getD k 0:Int)< (a.getD k 0:Int))=True:=tt;have e6:cw (ab (a.take (k+1))) (ab (b.take (k+1)))=1:=by
    have:4294967296^k*(b.getD k 0+1)<=4294967296^k*a.getD k 0:=azR _ hgt;rw[Nat.mul_add]at this;simp only[cw];omega
   simp only[jg,uo,go_sem,h0,h1,h5,e1,e2,e3,e5,e6,e7]
theorem N4:JQ=.seq (.ops [0,1] [co 4 (.mv (.c (.v (.int .i64 0))))]) (.seq (.ops [0,1] [cm 6 0,⟨(some 7),none,.call (.c (.fn F.natural_trim [] [])) [(.t 6)]⟩,cm 8 1,⟨(some 9),none,.call (.c (.fn F.natural_trim [] [])) [(.t 8)]⟩,cm 0 7,cm 1 9]) (.seq (.seq (.ops [0,1,14] [cm 10 0,co 11 (.len false (.t 10)),cm 12 1,co 13 (.len false (.t 12)),co 14 (.bin .neq (.t 11) (.t 13))]) (.cond (.t 14) (.seq (.seq (.ops [19] [cm 15 0,co 16 (.len false (.t 15)),cm 17 1,co 18 (.len false (.t 17)),co 19 (.bin .lss (.t 16) (.t 18))]) (.cond (.t 19) (.seq (.ops [4] [co 4 (.mv (.c (.v (.int .i64 (-1)))))]) (.ret)) (.skip))) (.seq (.ops [4] [co 4 (.mv (.c (.v (.int .i64 1))))]) (.ret))) (.skip))) (.seq (.seq (.ops [0,1,5] [cm 20 0,co 21 (.len false (.t 20)),co 22 (.bin .sub (.t 21) (.c (.v (.int .i64 1)))),cm 5 22]) (.block 0 [] (.loop [0,1,5] [] jg))) uo))):=rfl
theorem dy(m)(h:Lb m):(au (ab m)).length<=m.length:=ko (cW h)
theorem AT{a b}(ha:Lb a)(hb:Lb b)(h1:a.length<=100000)(h2:b.length<=100000):R F.natural_Cmp [lm a,lm b] []=some (I (cw (ab a) (ab b)),[]):=by
 refine av Ux rfl ?_;have la:=dy a ha;rcases Nat.lt_trichotomy (au (ab a)).length (au (ab b)).length with hlt|heq|hgt
 ·have e1:(au (ab a)).length=((au (ab b)).length:Int)↔False:=⟨fun h=>by omega,False.elim⟩;have e2:((au (ab a)).length< ((au (ab b)).length:Int))=True:=tt;have e3:cw (ab a) (ab b)=-1:=by grind[cw,s7]
  simp only[rG,N4,go_sem,dD ha ω,dD hb ω,e1,e2,e3]
 ·have e2:IntKind.i64.wrap ((au (ab b)).length-1)=(au (ab b)).length-1:=by grind[i64_in]
  have e3:=ahr (bg (ab a)) (bg (ab b)) heq ω (au (ab a)).length (ayZ _);rw[List.take_length,heq,List.take_length,aN,aN]at e3;simp only[rG,N4,go_sem,dD ha ω,dD hb ω,heq,e2];rw[e3 _ _ rfl rfl rfl];simp only[go_sem]
 ·have e1:(au (ab a)).length=((au (ab b)).length:Int)↔False:=⟨fun h=>by omega,False.elim⟩;have e2:((au (ab a)).length< ((au (ab b)).length:Int))=False:=ff;have e3:cw (ab a) (ab b)=1:=by
   have:=s7 hgt;simp only[cw];omega
  simp only[rG,N4,go_sem,dD ha ω,dD hb ω,e1,e2,e3]
theorem aj6(v:BitVec 32):v.toNat/2147483648=if v.msb=true then 1 else 0:=by
 have h:=v.isLt;grind
theorem acK{x y c}(hx:x<4294967296)(hy:y<4294967296)(hc:c<=1)(D)(hD:D.toNat=(x+4294967296-y-c) %4294967296):
  ((~~~(BitVec.ofNat 32 x)&&&BitVec.ofNat 32 y)||| (~~~(BitVec.ofNat 32 x^^^BitVec.ofNat 32 y)&&&D)).toNat/2147483648=if x<y+c then 1 else 0:=by
 grind[aj6,BitVec.ofNat,BitVec.msb_eq_decide,BitVec.msb_or,BitVec.msb_and,BitVec.msb_not,BitVec.msb_xor]
theorem ofI(n:Nat):BitVec.ofInt 32 n=BitVec.ofNat 32 n:=σ
theorem at7(v:BitVec 32):IntKind.u32.wrap v.toNat=v.toNat:=by
 have:=v.isLt;grind[IntKind.wrap_u32]
theorem W0{x y c:Nat}(hx:x<4294967296)(hy:y<4294967296)(hc:c<=1):R F.bits_Sub32 [U x,U y,U c] []=some (.tup [U (((x+4294967296-y-c) %4294967296:Nat)),U ((if x<y+c then 1 else 0:Nat))],[]):=by
 refine av WQ rfl ?_;have e1:IntKind.u32.wrap (x-y)=((x+4294967296-y) %4294967296:Nat):=by grind[IntKind.wrap_u32]
 have e2:IntKind.u32.wrap (((x+4294967296-y) %4294967296:Nat)-c)=((x+4294967296-y-c) %4294967296:Nat):=by grind[IntKind.wrap_u32]
 have b:IntKind.u32.bits=32:=rfl;have e3:BitVec.ofInt 32 (if IntKind.u32.signed=true then(-1)else IntKind.u32.max)=BitVec.allOnes 32:=δ
 have e4:∀v,BitVec.allOnes 32^^^v= ~~~v:=fun v=>BitVec.not_def.symm;have e5:∀v,BitVec.ofNat 32 v.toNat=v:=fun v=>by simp
 have key:=acK hx hy hc (BitVec.ofNat 32 ((x+4294967296-y-c) %4294967296)) σ;have sh:∀v:BitVec 32,dq .shr (.v (.int .u32 (v.toNat:Int))) (.v (.int .u64 31))=some (.v (.int .u32 ((v.toNat/2147483648:Nat):Int))):=fun v=>by
  simp_all[Hv,if_neg,Option.some.injEq,AV.v.injEq,Value.int.injEq,true_and,Int.fdiv_eq_ediv_of_nonneg]
 simp only[Du,KQ,go_sem,e1,e2,ofI,e3,e5,at7,sh];grind
def oT(a b:List Nat):Nat->Nat
 |0=>0
 |i+1=>if a.getD i 0<b.getD i 0+oT a b i then 1 else 0
def I0(a b:List Nat)(i:Nat):Nat:=(a.getD i 0+4294967296-b.getD i 0-oT a b i) %4294967296
def kw(a b:List Nat)(i:Nat):List Nat:=(List.range i).map (I0 a b)
theorem HU(a b)(i):oT a b i<=1:=by
 cases i with
 |zero=>simp[oT]
 |succ i=>grind[oT]
theorem W7{a b}(ha:Lb a)(hb:Lb b):∀i,ab (kw a b i)+ab (b.take i)=ab (a.take i)+4294967296^i*oT a b i
 |0=>by simp[kw,oT,ab]
 |i+1=>by
  have ih:=W7 ha hb i;rw[fm a i,fm b i];simp only[kw]at ih⊢;rw[Fo,azO];have h1:=bU ha i;have h2:=bU hb i;have h3:=HU a b i;have e:I0 a b i+b.getD i 0+oT a b i=a.getD i 0+4294967296*oT a b (i+1):=by
   grind[I0,oT]
  grind
theorem yb(a b)(i):(kw a b i).length=i:=by simp[kw]
theorem RE(a b)(i):Lb (kw a b i):=fun x hx=>by
 simp only[kw,azP]at hx;obtain⟨j,_,rfl⟩:=hx;simp only[I0];omega
theorem W8{a b}(ha:Lb a)(hb:Lb b)(hl:b.length<=a.length)(hv:ab b<=ab a):kw a b a.length=dJ a.length (ab a-ab b):=by
 have h:=W7 ha hb a.length;rw[List.take_length,azg hl]at h;have h1:=cW (RE a b a.length);rw[yb]at h1;have hz:oT a b a.length=0:=by
  grind[HU,Nat.eq_zero_or_pos,oT]
 rw[hz]at h;have h2:=IS (RE a b a.length);rw[yb,show ab (kw a b a.length)=ab a-ab b from by omega]at h2;exact h2.symm
theorem ahs{a b}(ha:Lb a)(hb:Lb b)(h2:a.length<=100000):∀k i,i+k=a.length->∀s h,s 1=lm b->s 5=.rsl 16 none 1 0 a.length->s 6=U (oT a b i)->
  s 17=lm a->s 18=I a.length->s 19=I i->h 16=.ar 1 (aC (kw a b i++ayW k 0))->
  ah 0 [5] (aq (aj R (az false) oA) [1,5,6,17,18,19] [16] s h)=
   some (.normal,⟨upd (fun _=>.any) 5 (.rsl 16 none 1 0 a.length),upd (fun _=>.dead) 16 (.ar 1 (aC (kw a b a.length)))⟩):=by
 intro k;induction k with
 |zero=>
  intro i hi s h h1 h5 h6 h17 h18 h19 hh;have:i=a.length:=ω
  subst this;rw[ag];simp only[oA,go_sem,h1,h5,h6,h17,h18,h19,hh,azI]
 |succ k ih=>
  intro i hi s h h1 h5 h6 h17 h18 h19 hh;have ih':=ih (i+1) ω;have e1:((i:Int)< (a.length:Int))=True:=tt;have e2:aU (aC a) (i:Int)=some (.ipt [U (a.getD i 0:Nat)]):=bu rfl ω;have e3:IntKind.i64.wrap ((i:Int)+1)=((i+1:Nat):Int):=wi;have e4:(0<=(i:Int))=True:=tt;have e7:(aC (kw a b i++ayW (k+1) 0))[i]?=some [U (0:Nat)]:=by
   grind[kY,yb]
  have e8:(aC (kw a b i++ayW (k+1) 0)).set i [U ((a.getD i 0+4294967296-b.getD i 0-oT a b i) %4294967296:Nat)]=aC (kw a b (i+1)++ayW k 0):=by
   rw[py];grind[oT,I0,kw,List.range_succ]
  rw[ag];by_cases hb':i<b.length
  ·have e6:=W0 (bU ha i) (bU hb i) (HU a b i);have e9:((i:Int)< (b.length:Int))=True:=tt;have e10:aU (aC b) (i:Int)=some (.ipt [U (b.getD i 0:Nat)]):=bu rfl hb';simp only[oA,go_sem,h1,h5,h6,h17,h18,h19,hh,e1,e2,e3,e4,e6,e7,e8,e9,e10,ay4,ayX];exact ih' _ _ rfl rfl rfl rfl rfl rfl rfl
  ·have e9:((i:Int)< (b.length:Int))=False:=ff;have e10:b.getD i 0=0:=γ
   have e6':=W0 (bU ha i) (y:=0) ω (HU a b i);simp only[azC]at e6';have e8':(aC (kw a b i++ayW (k+1) 0)).set i [U ((a.getD i 0+4294967296-0-oT a b i) %4294967296:Nat)]=aC (kw a b (i+1)++ayW k 0):=by
    grind
   simp only[oA,go_sem,h1,h5,h6,h17,h18,h19,hh,e1,e2,e3,e4,e6',e7,e8',e9,ay4,ayX];refine ih' _ _ rfl rfl ?_ rfl rfl rfl rfl;simp only[oT,e10,ayX];rfl
theorem aeu{a b}(ha:Lb a)(hb:Lb b)(h1:a.length<=100000)(h2:b.length<=100000)(hv:ab b<=ab a):R F.natural_sub [lm a,lm b] []=some (lm (dJ (au (ab a)).length (ab a-ab b)),[]):=by
 refine av UK rfl ?_;have la:=dy a ha;have lb:(au (ab b)).length<=(au (ab a)).length:=by
  rcases Nat.lt_or_ge (au (ab a)).length (au (ab b)).length with h|h
  ·have:=s7 h;omega
  omega
 have e2:=se (i:=(au (ab a)).length) (j:=(au (ab a)).length) rfl rfl (ayZ _) ω;have e3:((au (ab a)).length*4<=140737488355328)=True:=tt;have e4:=ahs (bg (ab a)) (bg (ab b)) ω (au (ab a)).length 0 ω;have e5:aC (ayW (au (ab a)).length 0)=aC (kw (au (ab a)) (au (ab b)) 0++ayW (au (ab a)).length 0):=rfl;have e6:=W8 (bg (ab a)) (bg (ab b)) lb (by grind[aN]);rw[aN,aN]at e6;simp only[BU,JV,go_sem,dD ha ω,dD hb ω,e2,e3,BX,e5];rw[e4 _ _ rfl rfl rfl rfl rfl rfl rfl];simp only[go_sem,e6,cY,ayX,ayZ]
theorem aev{a b}(ha:Lb a)(hb:Lb b)(h1:a.length<=256)(h2:b.length<=256):R F.natural_Sub [lm a,lm b] []=some (if ab a<ab b then .tup [lm [],I 2]else lq (ab a-ab b),[]):=by
 refine av UH rfl ?_;have e1:(256<a.length)=False:=ff;have e2:(256<b.length)=False:=ff;by_cases hv:ab a<ab b
 ·have e3:cw (ab a) (ab b)=-1:=by grind[cw]
  simp only[rL,yy,go_sem,aza,e1,e2,vV,AT ha hb ω ω,e3,hv]
 ·have e3:(cw (ab a) (ab b)<0)=False:=ff (by grind[cw]);have e5:ab (dJ (au (ab a)).length (ab a-ab b))=ab a-ab b:=by
   rw[mr,azL];grind[gQ,ab]
  have e4:=HT (px (au (ab a)).length (ab a-ab b)) (by grind[cY,dy]);rw[e5]at e4;unfold lq at e4⊢;by_cases hl:256< (au (ab a-ab b)).length
  ·simp only[hl,if_true]at e4⊢;simp only[rL,yy,go_sem,e1,e2,vV,AT ha hb ω ω,e3,hv,aeu ha hb ω ω ω,e4]
  ·simp only[hl,if_false]at e4⊢;simp only[rL,yy,go_sem,e1,e2,vV,AT ha hb ω ω,e3,hv,aeu ha hb ω ω ω,e4]
def mi(x:Nat):Nat->List Nat->List Nat->List Nat×Nat
 |c,y::bs,o::s=>(((x*y+o+c) %4294967296)::(mi x ((x*y+o+c)/4294967296) bs s).1,(mi x ((x*y+o+c)/4294967296) bs s).2)
 |c,_,s=>(s,c)
theorem aew(x):∀bs s r c,bs.length<=s.length->mi x c bs (s++r)=((mi x c bs s).1++r,(mi x c bs s).2)
 |[],s,r,c,_=>by simp[mi]
 |y::bs,[],r,c,h=>by grind
 |y::bs,o::s,r,c,h=>by
  have ih:=aew x bs s r ((x*y+o+c)/4294967296) (by simpa using h);simp only[azM,mi,ih]
theorem K3(x):∀bs s c,(mi x c bs s).1.length=s.length
 |[],s,c=>by simp[mi]
 |y::bs,[],c=>by simp[mi]
 |y::bs,o::s,c=>by simp[mi,K3 x bs s]
theorem ajl(x):∀bs s c,Lb s->Lb (mi x c bs s).1
 |[],s,c,h=>by grind[mi]
 |y::bs,[],c,h=>by grind[mi]
 |y::bs,o::s,c,h=>by
  exact jt.2 ⟨by omega,ajl x bs s _ (jt.1 h).2⟩
theorem aex{x y o c}(hx:x<4294967296)(hy:y<4294967296)(ho:o<4294967296)(hc:c<4294967296):x*y+o+c<18446744073709551616:=by
 have:x*y<=4294967295*4294967295:=Nat.mul_le_mul ω ω;omega
theorem N5{x}(hx:x<4294967296):∀bs s c,Lb bs->Lb s->c<4294967296->(mi x c bs s).2<4294967296
 |[],s,c,_,_,hc=>by grind[mi]
 |y::bs,[],c,_,_,hc=>by grind[mi]
 |y::bs,o::s,c,hb,hs,hc=>by
  have:=aex hx (jt.1 hb).1 (jt.1 hs).1 hc;exact N5 hx bs s _ (jt.1 hb).2 (jt.1 hs).2 ω
theorem aey(x):∀bs s c,bs.length=s.length->ab (mi x c bs s).1+4294967296^s.length*(mi x c bs s).2=ab s+x*ab bs+c
 |[],[],c,_=>by simp[mi,ab]
 |[],o::s,c,h=>by grind
 |y::bs,[],c,h=>by grind
 |y::bs,o::s,c,h=>by
  have ih:=aey x bs s ((x*y+o+c)/4294967296) γ;simp only[mi,ab,azp,azO];grind
theorem acL{a b}(hb:Lb b){x i n:Nat}(hx:x<4294967296)(h2:b.length<=100000)(hi:i<=100000):∀bs k D S (c:Nat),b.drop k=bs->k<=b.length->D.length=i+k->bs.length<=S.length->(D++S).length=n->Lb S->c<4294967296->
  ∀s h,s 18=lm a->s 19=I a.length->s 20=I i->s 1=lm b->s 5=.rsl 17 none 1 0 n->s 6=I i->s 7=U x->s 8=W c->s 25=lm b->s 26=I b.length->s 27=I k->h 17=.ar 1 (aC (D++S))->
  ah 2 [1,5,6,8,18,19,20] (aq (aj R (az false) n9) [1,5,6,7,8,18,19,20,25,26,27] [17] s h)=
   some (.normal,⟨upd (upd (upd (upd (upd (upd (upd (fun _=>.any) 20 (I i)) 19 (I a.length)) 18 (lm a)) 8 (W (mi x c bs S).2)) 6 (I i)) 5 (.rsl 17 none 1 0 n)) 1 (lm b),upd (fun _=>.dead) 17 (.ar 1 (aC (D++(mi x c bs S).1)))⟩):=by
 intro bs;induction bs with
 |nil=>
  intro k D S c hd hk hD hS hn hLS hc s h h18 h19 h20 h1 h5 h6 h7 h8 h25 h26 h27 hh;have:k=b.length:=by
   grind
  subst this;rw[ag];simp only[n9,go_sem,h18,h19,h20,h1,h5,h6,h7,h8,h25,h26,h27,hh,azI,mi]
 |cons y bs ih=>
  intro k D S c hd hk hD hS hn hLS hc s h h18 h19 h20 h1 h5 h6 h7 h8 h25 h26 h27 hh;obtain⟨o,S,rfl⟩:∃o S',S=o::S':=by
   cases S with
   |nil=>grind
   |cons o S=>grind
  have hlt:k<b.length:=by
   grind
  have hy:b.getD k 0=y:=by
   have:=congrArg (·[0]?) hd;grind
  have hyb:y<4294967296:=by grind[bU]
  have hob:=(jt.1 hLS).1;have hml:=aex hx hyb hob hc;have hxy:x*y<18446744073709551616:=ω
  have ih':=ih (k+1) (D++[(x*y+o+c) %4294967296]) S ((x*y+o+c)/4294967296) (by rw[←List.drop_drop,hd];rfl) hlt γ γ γ (jt.1 hLS).2 ω;have e1:((k:Int)< (b.length:Int))=True:=tt;have e2:aU (aC b) (k:Int)=some (.ipt [U (y:Nat)]):=by grind[bu]
  have e3:IntKind.i64.wrap ((k:Int)+1)=((k+1:Nat):Int):=wi;have e4:IntKind.i64.wrap ((i:Int)+(k:Int))=((i+k:Nat):Int):=wi;have e5:(0<=((i+k:Nat):Int))=True:=tt;have hin:i+k<n:=γ
  have e6:(((i+k:Nat):Int)< (n:Int))=True:=tt;have e7:(aC (D++o::S))[i+k]?=some [U (o:Nat)]:=by
   grind[kY]
  have f1:IntKind.u64.wrap (x:Int)=x:=dK rfl ω;have f2:IntKind.u64.wrap (y:Int)=y:=dK rfl ω;have f3:IntKind.u64.wrap ((x:Int)*(y:Int))=((x*y:Nat):Int):=dK σ hxy;have f4:IntKind.u64.wrap (o:Int)=o:=dK rfl ω;have f5:IntKind.u64.wrap (((x*y:Nat):Int)+(o:Int))=((x*y+o:Nat):Int):=dK ω ω;have f6:IntKind.u64.wrap (((x*y+o:Nat):Int)+(c:Int))=((x*y+o+c:Nat):Int):=dK ω ω;have f7:IntKind.u32.wrap ((x*y+o+c:Nat):Int)=(((x*y+o+c) %4294967296:Nat):Int):=IY rfl;have f8:=sW (n:=x*y+o+c) (k:=32) (kk:=.u64) (j:=32) rfl rfl ω;have f9:(aC (D++o::S)).set (i+k) [U ((x*y+o+c) %4294967296:Nat)]=aC (D++[(x*y+o+c) %4294967296]++S):=by
   rw[py,←hD,List.set_append_right _ _ (ayZ _)];simp
  rw[ag];generalize aq _ _ _=L at ih'⊢;simp only[n9,go_sem,h18,h19,h20,h1,h5,h6,h7,h8,h25,h26,h27,hh,e1,e2,e3,e4,e5,e6,e7,f1,f2,f3,f4,f5,f6,f7,f8,f9,ay4,ayX,mi];rw[ih' _ _ rfl rfl rfl rfl rfl rfl rfl rfl rfl rfl rfl rfl];grind
def eB(a b:List Nat)(i:Nat):List Nat:=dJ (i+b.length) (ab (a.take i)*ab b)
theorem aez{a b}(ha:Lb a)(hb:Lb b){i}(hi:i<a.length):
  (eB a b i).take i++((mi (a.getD i 0) 0 b ((eB a b i).drop i)).1++[(mi (a.getD i 0) 0 b ((eB a b i).drop i)).2])=eB a b (i+1):=by
 have hx:=bU ha i;have hP:(eB a b i).length=i+b.length:=cY _ _;have hLP:Lb (eB a b i):=px _ _;have hS:((eB a b i).drop i).length=b.length:=γ
 have h1:=aey (a.getD i 0) b ((eB a b i).drop i) 0 hS.symm;have h2:=N5 hx b ((eB a b i).drop i) 0 hb (nK hLP i) ω;have h3:=ajl (a.getD i 0) b ((eB a b i).drop i) 0 (nK hLP i);have h4:=K3 (a.getD i 0) b ((eB a b i).drop i) 0;have hvP:ab (eB a b i)=ab (a.take i)*ab b:=by
  unfold eB;rw[mr,azL];have e1:=cW (fK ha i);have e2:=cW hb;rw[azd,azS ω]at e1
  simp_all[azc,Nat.mul_lt_mul'']
 have hsplit:ab (eB a b i)=ab ((eB a b i).take i)+4294967296^i*ab ((eB a b i).drop i):=by
  grind[List.take_append_drop,eB,eA,azd,azS]
 have hLb:=
  qi.2 ⟨fK hLP i,qi.2 ⟨h3,jt.2 ⟨h2,KT⟩⟩⟩
 have hval:ab ((eB a b i).take i++((mi (a.getD i 0) 0 b ((eB a b i).drop i)).1++[(mi (a.getD i 0) 0 b ((eB a b i).drop i)).2]))=ab (a.take (i+1))*ab b:=by
  rw[eA,eA,azd,hP,azS ω,h4,fm a i,azn,←hvP,hsplit];simp only[ab,Nat.mul_zero,azA]at h1⊢;grind
 have hlen:((eB a b i).take i++((mi (a.getD i 0) 0 b ((eB a b i).drop i)).1++[(mi (a.getD i 0) 0 b ((eB a b i).drop i)).2])).length=i+1+b.length:=by
  grind
 have:=IS hLb;rw[hlen,hval]at this;exact this.symm
theorem aht{a b}(ha:Lb a)(hb:Lb b)(h1:a.length<=100000)(h2:b.length<=100000):∀k i,i+k=a.length->∀s h,s 1=lm b->s 5=.rsl 17 none 1 0 (a.length+b.length)->
  s 18=lm a->s 19=I a.length->s 20=I i->h 17=.ar 1 (aC (eB a b i++ayW k 0))->
  ah 0 [5] (aq (aj R (az false) sN) [1,5,18,19,20] [17] s h)=
   some (.normal,⟨upd (fun _=>.any) 5 (.rsl 17 none 1 0 (a.length+b.length)),upd (fun _=>.dead) 17 (.ar 1 (aC (eB a b a.length)))⟩):=by
 intro k;induction k with
 |zero=>
  intro i hi s h h1 h5 h18 h19 h20 hh;have:i=a.length:=ω
  subst this;rw[ag];simp only[sN,go_sem,h1,h5,h18,h19,h20,hh,azI]
 |succ k ih=>
  intro i hi s h g1 h5 h18 h19 h20 hh;have ih':=ih (i+1) ω;have hx:=bU ha i;have hP:(eB a b i).length=i+b.length:=cY _ _;have hLP:Lb (eB a b i):=px _ _;have hsp:eB a b i++ayW (k+1) 0=(eB a b i).take i++((eB a b i).drop i++ayW (k+1) 0):=by rw[←azB,List.take_append_drop]
  have e1:((i:Int)< (a.length:Int))=True:=tt;have e2:aU (aC a) (i:Int)=some (.ipt [U (a.getD i 0:Nat)]):=bu rfl ω;have e3:IntKind.i64.wrap ((i:Int)+1)=((i+1:Nat):Int):=wi;have e4:IntKind.i64.wrap ((i:Int)+(b.length:Int))=((i+b.length:Nat):Int):=wi;have e5:(0<=((i+b.length:Nat):Int))=True:=tt;have e6:(((i+b.length:Nat):Int)< ((a.length+b.length:Nat):Int))=True:=tt;have lp:=acL (a:=a) hb (x:=a.getD i 0) (i:=i) (n:=a.length+b.length) hx h2 ω b 0 ((eB a b i).take i) ((eB a b i).drop i++ayW (k+1) 0) 0 rfl (azH _) γ γ γ
   (qi.2 ⟨nK hLP i,fun y hy=>by grind⟩) ω
  rw[aew _ _ _ _ _ γ]at lp;have ml:(mi (a.getD i 0) 0 b ((eB a b i).drop i)).1.length=b.length:=by grind[K3]
  have mc:=N5 hx b ((eB a b i).drop i) 0 hb (nK hLP i) ω;have ps:=aez ha hb (show i<a.length from by omega);rw[hsp]at hh;generalize mi (a.getD i 0) 0 b ((eB a b i).drop i)=r at*
  have f1:=DK rfl mc;have e7:(aC ((eB a b i).take i++(r.1++ayW (k+1) 0)))[i+b.length]?=some [U (0:Nat)]:=by
   grind[azB,kY]
  have e8:(aC ((eB a b i).take i++(r.1++ayW (k+1) 0))).set (i+b.length) [U (r.2:Nat)]=aC (eB a b (i+1)++ayW k 0):=by
   grind[azB,py,WX,eB]
  rw[ag];generalize aq _ _ _=L at ih'⊢;simp only[sN,go_sem,g1,h5,h18,h19,h20,hh,e1,e2];rw[lp _ _ rfl rfl rfl rfl rfl rfl rfl rfl rfl rfl rfl rfl];simp only[go_sem,e3,e4,e5,e6,e7,e8,f1,ay4,ayX];exact ih' _ _ rfl rfl rfl rfl rfl rfl
theorem amY{a b}(ha:Lb a)(hb:Lb b)(h1:a.length<=100000)(h2:b.length<=100000):R F.natural_mul [lm a,lm b] []=some (lm (dJ (a.length+b.length) (ab a*ab b)),[]):=by
 refine av UC rfl ?_;have e1:IntKind.i64.wrap (a.length+b.length)=(a.length+b.length:Nat):=wi;have e2:=se (i:=(a.length+b.length:Nat)) (j:=(a.length+b.length:Nat)) rfl rfl (ayZ _) ω;have e3:((a.length+b.length)*4<=140737488355328)=True:=tt;have e4:=aht ha hb h1 h2 a.length 0 ω;have e0:eB a b 0=ayW b.length 0:=by
  have:∀n,dJ n 0=ayW n 0:=fun n=>by
   induction n with
   |zero=>rfl
   |succ n ih=>simp[dJ,ih,List.replicate_succ]
  grind[eB,ab]
 have e5:aC (ayW (a.length+b.length) 0)=aC (eB a b 0++ayW a.length 0):=by
  rw[e0,List.replicate_append_replicate,Nat.add_comm]
 have e6:eB a b a.length=dJ (a.length+b.length) (ab a*ab b):=by rw[eB,List.take_length]
 simp only[BR,JS,go_sem,e1,e2,e3,BX,e5];rw[e4 _ _ rfl rfl rfl rfl rfl rfl];simp only[go_sem,e6,cY,ayX,ayZ]
theorem aeA{a b}(ha:Lb a)(hb:Lb b)(h1:a.length<=256)(h2:b.length<=256):R F.natural_Mul [lm a,lm b] []=some (lq (ab a*ab b),[]):=by
 refine av Ut rfl ?_;have e1:(256<a.length)=False:=ff;have e2:(256<b.length)=False:=ff;have la:=dy a ha;have lb:=dy b hb;have e3:=amY (bg (ab a)) (bg (ab b)) ω ω;rw[aN,aN]at e3;have e4:=HT (px ((au (ab a)).length+(au (ab b)).length) (ab a*ab b)) (by grind[cY]);rw[mr,azL (by simp_all[azc,Nat.mul_lt_mul'',gQ])]at e4;unfold lq at e4⊢;by_cases hl:256< (au (ab a*ab b)).length
 ·simp only[hl,if_true]at e4⊢;simp only[wG,Dk,go_sem,e1,e2,vV,dD ha ω,dD hb ω,e3,e4]
 ·simp only[hl,if_false]at e4⊢;simp only[wG,Dk,go_sem,e1,e2,vV,dD ha ω,dD hb ω,e3,e4]
theorem Ea{n m:Nat}{i j:Int}(hi:i=n)(hj:j=m)(hm:m≠0):dq .rem (.v (.int .i64 i)) (.v (.int .i64 j))=some (.v (.int .i64 (n%m:Nat))):=by
 simp_all[ww,if_neg,Int.tmod_eq_emod_of_nonneg]
theorem Eb{n m:Nat}{i j:Int}(hi:i=n)(hj:j=m)(hm:m≠0)(hn:n<9223372036854775808):dq .quo (.v (.int .i64 i)) (.v (.int .i64 j))=some (.v (.int .i64 (n/m:Nat))):=by
 rw[LX,if_neg ω,Int.tdiv_eq_ediv_of_nonneg ω];have:n/m<=n:=Nat.div_le_self _ _;grind[wi]
theorem Gz{n k:Nat}{i:Int}{kk}{j:Int}(hi:i=n)(hj:j=k)(hk:k<=64)(h:n*2^k<18446744073709551616):dq .shl (.v (.int .u64 i)) (.v (.int kk j))=some (.v (.int .u64 (n*2^k:Nat))):=by
 subst hi hj;rw[LY,if_neg ω];have:min (k:Int).toNat IntKind.u64.bits=k:=by grind[IntKind.bits]
 rw[this,dK (n:=n*2^k) σ h]
theorem N6{m n:Nat}{i j:Int}(hi:i=m)(hj:j=n)(hm:m<18446744073709551616)(hn:n<18446744073709551616):dq .or (.v (.int .u64 i)) (.v (.int .u64 j))=some (.v (.int .u64 (m|||n:Nat))):=by
 subst hi hj;rw[Pg];have e:(BitVec.ofInt IntKind.u64.bits m|||BitVec.ofInt IntKind.u64.bits n).toNat=m|||n:=by
  show(BitVec.ofInt 64 m|||BitVec.ofInt 64 n).toNat=m|||n
  grind
 rw[e];rw[dK rfl (Nat.or_lt_two_pow (n:=64) hm hn)]
theorem Fq{x c k}(hc:c<2^k):x*2^k|||c=x*2^k+c:=by
 have:=Nat.shiftLeft_add_eq_or_of_lt hc x;grind[Nat.shiftLeft_eq]
def ju(a:List Nat)(r:Nat):Nat->Nat
 |0=>0
 |i+1=>(a.getD i 0*2^r+ju a r i)/4294967296
def oV(a:List Nat)(r i:Nat):List Nat:=(List.range i).map fun j=>(a.getD j 0*2^r+ju a r j) %4294967296
theorem HV{a}(ha:Lb a){r}:∀i,ju a r i<2^r
 |0=>by grind[ju,aze]
 |i+1=>by
  have ih:=HV ha (r:=r) i;have:=bU ha i;simp only[ju];have h1:a.getD i 0*2^r+2^r<=4294967296*2^r:=by
   rw[←Nat.succ_mul];exact ay7 _ ω
  omega
theorem wX(a)(r i):(oV a r i).length=i:=by simp[oV]
theorem amZ(a)(r i):Lb (oV a r i):=fun x hx=>by
 simp only[oV,azP]at hx;omega
theorem Z0(a)(r):∀i,ab (oV a r i)+4294967296^i*ju a r i=ab (a.take i)*2^r
 |0=>by simp[oV,ju,ab]
 |i+1=>by
  have ih:=Z0 a r i;rw[fm a i];simp only[oV]at ih⊢;rw[Fo,azO];have e:ju a r (i+1)*4294967296+(a.getD i 0*2^r+ju a r i) %4294967296=a.getD i 0*2^r+ju a r i:=by
   grind[ju]
  grind
theorem ahu{a}(ha:Lb a){n q}(h1:a.length<=100000)(hq:q<=100000):∀k i,i+k=a.length->∀s h,s 1=I (n:Nat)->s 5=.rsl 20 none 1 0 (q+i)->s 6=W (ju a (n%32) i)->s 21=lm a->s 22=I a.length->s 23=I i->
  h 20=.ar 1 (aC (ayW q 0++oV a (n%32) i))->h 38=.dead->
  ah 0 [5,6] (aq (aj R (az false) sT) [1,5,6,21,22,23] [20,38] s h)=
   some (.normal,⟨upd (upd (fun _=>.any) 6 (W (ju a (n%32) a.length))) 5 (.rsl 20 none 1 0 (q+a.length)),upd (upd (fun _=>.dead) 38 .dead) 20 (.ar 1 (aC (ayW q 0++oV a (n%32) a.length)))⟩):=by
 intro k;induction k with
 |zero=>
  intro i hi s h g1 h5 h6 h21 h22 h23 hh hh2;have:i=a.length:=ω
  subst this;rw[ag];simp only[sT,go_sem,g1,h5,h6,h21,h22,h23,hh,hh2,azI]
 |succ k ih=>
  intro i hi s h g1 h5 h6 h21 h22 h23 hh hh2;have ih':=ih (i+1) ω;have hx:=bU ha i;have hc:=HV ha (r:=n%32) i;have hp:2^ (n%32)<=2^31:=azD ω ω;have hxp:a.getD i 0*2^ (n%32)<=4294967295*2^31:=Nat.mul_le_mul ω hp;have e1:(i< (a.length:Int))=True:=tt;have e2:aU (aC a) i=some (.ipt [U (a.getD i 0)]):=bu rfl ω;have e3:IntKind.i64.wrap (i+1)=(i+1:Nat):=wi;have e4:IntKind.u64.wrap (a.getD i 0)=(a.getD i 0):=dK rfl ω;have e5:=Ea (n:=n) (m:=32) (j:=32) rfl rfl ω;have e6:=Gz (n:=a.getD i 0) (k:=n%32) (kk:=.i64) rfl rfl ω ω;have e7:=N6 (m:=a.getD i 0*2^ (n%32)) (n:=ju a (n%32) i) rfl rfl ω ω;rw[Fq hc]at e7;have e8:IntKind.u32.wrap (a.getD i 0*2^ (n%32)+ju a (n%32) i:Nat)=((a.getD i 0*2^ (n%32)+ju a (n%32) i) %4294967296:Nat):=IY rfl;have e9:=sW (n:=a.getD i 0*2^ (n%32)+ju a (n%32) i) (k:=32) (kk:=.u64) (j:=32) rfl rfl ω;have f1:aC (ayW q 0++oV a (n%32) i)++[[U ((a.getD i 0*2^ (n%32)+ju a (n%32) i) %4294967296:Nat)]]=aC (ayW q 0++oV a (n%32) (i+1)):=by
   simp_all[U,ju,aC,DY,azB,oV,List.range_succ]
  have f2:(q+i=(ayW q 0++oV a (n%32) i).length)=True:=tt (by simp[wX]);have f3:((q+i+1)*4<=140737488355328)=True:=tt;rw[ag];simp only[sT,go_sem,g1,h5,h6,h21,h22,h23,hh,hh2,e1,e2,e3,e4,e5,e6,e7,e8,e9,f1,f2,f3,true_or,ayX,ayZ];exact ih' _ _ rfl rfl rfl rfl rfl rfl rfl rfl
theorem zz(n):4294967296^ (n/32)*2^ (n%32)=2^n:=by
 rw[show 4294967296=2^32 from rfl,←Nat.pow_mul,←azc];grind
theorem Z3{a}(ha:Lb a)(n):ayW (n/32) 0++oV a (n%32) a.length++[ju a (n%32) a.length]=dJ (n/32+a.length+1) (ab a*2^n):=by
 have hc:=HV ha (r:=n%32) a.length;have hp:2^ (n%32)<=2^31:=azD ω ω;have h:=Z0 a (n%32) a.length;have hLb:Lb (ayW (n/32) 0++oV a (n%32) a.length++[ju a (n%32) a.length]):=
  qi.2 ⟨qi.2 ⟨fun y hy=>by grind,amZ _ _ _⟩,jt.2 ⟨by omega,KT⟩⟩
 have hv:ab (ayW (n/32) 0++oV a (n%32) a.length++[ju a (n%32) a.length])=ab a*2^n:=by
  rw[azB,eA,Tk,eA,wX,azU];simp only[ab,Nat.mul_zero,azA,ayX];grind[zz,Nat.mul_left_comm]
 have:=IS hLb;grind[wX]
theorem PS{a}(ha:Lb a){n:Nat}(h1:a.length<=100000)(hn:n<=65536):R F.natural_shl [lm a,I n] []=some (.osl 1 (aC (dJ (n/32+(au (ab a)).length+1) (ab a*2^n))),[]):=by
 refine av UI rfl ?_;have la:=dy a ha;have hc:=HV (bg (ab a)) (r:=n%32) (au (ab a)).length;have hp:2^ (n%32)<=2^31:=azD ω ω;have e1:=Eb (n:=n) (m:=32) (j:=32) rfl rfl ω ω;have e2:IntKind.i64.wrap ((n/32:Nat)+(au (ab a)).length)=(n/32+(au (ab a)).length:Nat):=wi;have e3:IntKind.i64.wrap ((n/32+(au (ab a)).length:Nat)+1)=(n/32+(au (ab a)).length+1:Nat):=wi;have e4:=se (i:=(n/32:Nat)) (j:=(n/32+(au (ab a)).length+1:Nat)) rfl rfl ω ω;have e5:((n/32+(au (ab a)).length+1)*4<=140737488355328)=True:=tt;have e6:=ahu (bg (ab a)) (n:=n) (q:=n/32) ω ω (au (ab a)).length 0 ω;have e7:aC (ayW (n/32) 0)=aC (ayW (n/32) 0++oV (au (ab a)) (n%32) 0):=by simp[oV]
 have e8:IntKind.u32.wrap (ju (au (ab a)) (n%32) (au (ab a)).length:Nat)=(ju (au (ab a)) (n%32) (au (ab a)).length:Nat):=DK rfl ω;have f1:aC (ayW (n/32) 0++oV (au (ab a)) (n%32) (au (ab a)).length)++[[U (ju (au (ab a)) (n%32) (au (ab a)).length)]]=aC (dJ (n/32+(au (ab a)).length+1) (ab a*2^n)):=by
  have:=Z3 (bg (ab a)) n;rw[aN]at this;rw[←this,show [[U (ju (au (ab a)) (n%32) (au (ab a)).length)]]=aC [ju (au (ab a)) (n%32) (au (ab a)).length]from rfl,DY]
 have f2:(n/32+(au (ab a)).length=(ayW (n/32) 0++oV (au (ab a)) (n%32) (au (ab a)).length).length)=True:=tt (by simp[wX]);simp only[BT,JT,go_sem,dD ha ω,e1,e2,e3,e4,e5,BX,e7];rw[e6 _ _ rfl rfl rfl rfl rfl rfl rfl rfl];simp only[go_sem,e8,f1,f2,e5,true_or,ayX,ayZ,cY]
theorem aeB{a}(ha:Lb a){n}(h1:a.length<=256):R F.natural_Shl [lm a,I n] []=some (if n<0\/65536<n then .tup [lm [],I 2]else lq (ab a*2^n.toNat),[]):=by
 refine av UE rfl ?_;have e1:(256<a.length)=False:=ff;by_cases hn:n<0
 ·simp only[nH,tT,go_sem,e1,s6,hn,true_or]
 by_cases hn2:65536<n
 ·simp only[nH,tT,go_sem,e1,s6,hn,hn2,or_true]
 obtain⟨m,rfl⟩:=az4 (show 0<=n by omega);have la:=dy a ha;have e3:ab (dJ (m/32+(au (ab a)).length+1) (ab a*2^m))=ab a*2^m:=by
  rw[mr,azL];have h:=gQ (ab a);have h2:2^m<=4294967296^ (m/32+1):=by
   rw[show 4294967296=2^32 from rfl,←Nat.pow_mul];exact azD ω ω
  rw[show m/32+(au (ab a)).length+1=(au (ab a)).length+(m/32+1)from by omega,azc]
  simp_all[Nat.mul_lt_mul_of_lt_of_le,Nat.pow_pos]
 have e4:=HT (px (m/32+(au (ab a)).length+1) (ab a*2^m)) (by grind[cY]);rw[e3]at e4;have e5:(aC (dJ (m/32+(au (ab a)).length+1) (ab a*2^m))).take (dJ (m/32+(au (ab a)).length+1) (ab a*2^m)).length=aC (dJ (m/32+(au (ab a)).length+1) (ab a*2^m)):=azg (by simp_all[DX,ayZ]);unfold lq at e4⊢;by_cases hl:256< (au (ab a*2^m)).length
 ·simp only[nH,tT,go_sem,e1,s6,hn,hn2,PS ha (n:=m) ω ω,e4,e5,or_false,ay4,hl,ayX,ayZ]
 ·simp only[nH,tT,go_sem,e1,s6,hn,hn2,PS ha (n:=m) ω ω,e4,e5,or_false,ay4,hl,ayX,ayZ]
theorem yX{l}(h:Lb l)(i):ab (l.drop i)=ab l/4294967296^i:=by
 rcases Nat.lt_or_ge l.length i with hi|hi
 ·rw[List.drop_of_length_le ω];have:=cW h;have h2:4294967296^l.length<=4294967296^i:=azD ω ω;rw[Nat.div_eq_of_lt ω];rfl
 ·have h1:ab l=ab (l.take i)+4294967296^i*ab (l.drop i):=by
   grind[List.take_append_drop,eA,azd,azS]
  grind[cW,fK,azd,azS,Nat.add_mul_div_left,Nat.pow_pos,Nat.div_eq_of_lt]
theorem fF(l:List Nat)(i):ab (l.drop i)=l.getD i 0+4294967296*ab (l.drop (i+1)):=by
 grind[azj,ab,List.drop_of_length_le]
def vW(a:List Nat)(r i:Nat):Nat:=(a.getD i 0+4294967296*a.getD (i+1) 0)/2^r%4294967296
theorem aj7{a}(ha:Lb a){r}(hr:r<=32)(i):vW a r i=ZZ (ab a/2^r) i:=by
 unfold vW ZZ;have e0:ab a/2^r/4294967296^i=ab (a.drop i)/2^r:=by grind[Nat.div_div_eq_div_mul,azl,yX]
 rw[e0,fF a i,fF a (i+1)];generalize ab (a.drop (i+1+1))=w;have e:4294967296=2^r*2^ (32-r):=by rw[←azc,show r+(32-r)=32 from by omega]
 have h1:a.getD i 0+4294967296*(a.getD (i+1) 0+4294967296*w)=(a.getD i 0+4294967296*a.getD (i+1) 0)+2^r*(2^ (32-r)*4294967296*w):=by
  grind
 rw[h1,Nat.add_mul_div_left _ _ (aze r),azq,Nat.mul_left_comm,Nat.add_mul_mod_self_left]
def oC(a:List Nat)(r i:Nat):List Nat:=(List.range i).map (vW a r)
theorem yc(a)(r i):(oC a r i).length=i:=by simp[oC]
theorem W9{a}(ha:Lb a){r}(hr:r<=32):oC a r a.length=dJ a.length (ab a/2^r):=by
 grind[WV,yc,aj7,oC]
theorem ahv{a}(ha:Lb a){n}(h1:a.length<=100000):∀k i,i+k=a.length->∀s h,s 0=lm a->s 1=I (n:Nat)->s 5=.rsl 22 none 1 0 a.length->s 23=lm a->s 24=I a.length->s 25=I i->
  h 22=.ar 1 (aC (oC a (n%32) i++ayW k 0))->
  ah 0 [5] (aq (aj R (az false) og) [0,1,5,23,24,25] [22] s h)=
   some (.normal,⟨upd (fun _=>.any) 5 (.rsl 22 none 1 0 a.length),upd (fun _=>.dead) 22 (.ar 1 (aC (oC a (n%32) a.length)))⟩):=by
 intro k;induction k with
 |zero=>
  intro i hi s h h0 g1 h5 h23 h24 h25 hh;have:i=a.length:=ω
  subst this;rw[ag];simp only[List.replicate_zero,azb]at hh;simp only[og,go_sem,h0,g1,h5,h23,h24,h25,hh,azI]
 |succ k ih=>
  intro i hi s h h0 g1 h5 h23 h24 h25 hh;have ih':=ih (i+1) ω;have hx:=bU ha i;have hy:=bU ha (i+1);have hr:n%32<32:=azw _ ω;have e1:((i:Int)< (a.length:Int))=True:=tt;have e2:aU (aC a) (i:Int)=some (.ipt [U (a.getD i 0:Nat)]):=bu rfl ω;have e3:IntKind.i64.wrap ((i:Int)+1)=((i+1:Nat):Int):=wi;have e4:IntKind.u64.wrap (a.getD i 0:Int)=(a.getD i 0:Int):=dK rfl ω;have e5:=Ea (n:=n) (m:=32) (j:=32) rfl rfl ω;have e6:(0<=(i:Int))=True:=tt;have e7:(aC (oC a (n%32) i++ayW (k+1) 0))[i]?=some [U (0:Nat)]:=by
   grind[kY,yc]
  have e8:(aC (oC a (n%32) i++ayW (k+1) 0)).set i [U (vW a (n%32) i:Nat)]=aC (oC a (n%32) (i+1)++ayW k 0):=by
   grind[py,WX,oC,vW,yc,List.range_succ]
  rw[ag];generalize aq _ _ _=L at ih'⊢;by_cases hl:i+1<a.length
  ·have f1:(((i+1:Nat):Int)< (a.length:Int))=True:=tt;have f2:=bu rfl hl;have f3:IntKind.u64.wrap (a.getD (i+1) 0:Int)=(a.getD (i+1) 0:Int):=dK rfl ω;have f4:=Gz (n:=a.getD (i+1) 0) (k:=32) (kk:=.u64) (j:=32) rfl rfl ω ω;have f5:=N6 (m:=a.getD i 0) (n:=a.getD (i+1) 0*2^32) rfl rfl ω ω;rw[Nat.or_comm,Fq (show a.getD i 0<2^32 from by omega)]at f5;have f6:=sW (n:=a.getD (i+1) 0*2^32+a.getD i 0) (k:=n%32) (kk:=.i64) rfl rfl ω;have f7:IntKind.u32.wrap (((a.getD (i+1) 0*2^32+a.getD i 0)/2^ (n%32):Nat):Int)=((vW a (n%32) i:Nat):Int):=by
    grind[IY,vW]
   simp only[og,go_sem,h0,g1,h5,h23,h24,h25,hh,e1,e2,e3,e4,e5,e6,e7,e8,f1,f2,f3,f4,f5,f6,f7,ay4,ayX];exact ih' _ _ rfl rfl rfl rfl rfl rfl rfl
  ·have f1:(((i+1:Nat):Int)< (a.length:Int))=False:=ff;have f2:a.getD (i+1) 0=0:=γ
   have f6:=sW (n:=a.getD i 0) (k:=n%32) (kk:=.i64) rfl rfl ω;have f7:IntKind.u32.wrap ((a.getD i 0/2^ (n%32):Nat):Int)=((vW a (n%32) i:Nat):Int):=by
    rw[IY rfl];grind[vW]
   simp only[og,go_sem,h0,g1,h5,h23,h24,h25,hh,e1,e2,e3,e4,e5,e6,e7,e8,f1,f6,f7,ay4,ayX];exact ih' _ _ rfl rfl rfl rfl rfl rfl rfl
theorem aeC{a}(ha:Lb a){n:Nat}(h1:a.length<=100000)(hn:n<=100000000):R F.natural_shr [lm a,I n] []=some (lm (dJ ((au (ab a)).length-n/32) (ab a/2^n)),[]):=by
 refine av UF rfl ?_;have la:=dy a ha;have e1:=Eb (n:=n) (m:=32) (j:=32) rfl rfl ω ω;by_cases hl:(au (ab a)).length<=n/32
 ·have e2:((au (ab a)).length<=((n/32:Nat):Int))=True:=tt;have e3:dJ ((au (ab a)).length-n/32) (ab a/2^n)=[]:=by rw[show(au (ab a)).length-n/32=0 from by omega];rfl
  simp only[wQ,Dr,go_sem,dD ha ω,e1,e2,e3]
 ·have e2:((au (ab a)).length<=((n/32:Nat):Int))=False:=ff;have hD:((au (ab a)).drop (n/32)).length=(au (ab a)).length-n/32:=σ
  have hLD:Lb ((au (ab a)).drop (n/32)):=nK (bg _) _;have e3:dH 1 (lm (au (ab a))) (some (I (n/32:Nat))) none none=some (lm ((au (ab a)).drop (n/32))):=by
   rw[K2 (a:=n/32) (b:=(au (ab a)).length) (vU rfl ω) rfl (ayZ _),azg ω]
  have hv:ab ((au (ab a)).drop (n/32))/2^ (n%32)=ab a/2^n:=by
   rw[yX (bg _),aN,Nat.div_div_eq_div_mul,zz]
  have e6:=W9 hLD (r:=n%32) ω;rw[hv,hD]at e6;generalize(au (ab a)).drop (n/32)=D at*
  have e4:=se (i:=D.length) (j:=D.length) rfl rfl (ayZ _) ω;have e5:(D.length*4<=140737488355328)=True:=tt;have e7:=ahv hLD (n:=n) ω D.length 0 ω;have e8:aC (ayW D.length 0)=aC (oC D (n%32) 0++ayW D.length 0):=by simp[oC]
  rw[←hD]at e6⊢;simp only[wQ,Dr,go_sem,dD ha ω,e1,e2,e3,e4,e5,BX,e8];rw[e7 _ _ rfl rfl rfl rfl rfl rfl rfl];simp only[go_sem,e6,cY,ayX,ayZ]
theorem aeD{a}(ha:Lb a){n}(h1:a.length<=256):R F.natural_Shr [lm a,I n] []=some (if n<0\/65536<n then .tup [lm [],I 2]else .tup [lm (au (ab a/2^n.toNat)),I 0],[]):=by
 refine av UA rfl ?_;have e1:(256<a.length)=False:=ff;by_cases hn:n<0
 ·simp only[rI,yx,go_sem,e1,s6,hn,true_or]
 by_cases hn2:65536<n
 ·simp only[rI,yx,go_sem,e1,s6,hn,hn2,or_true]
 obtain⟨m,rfl⟩:=az4 (show 0<=n by omega);have la:=dy a ha;have hlt:=gQ (ab a);have h32:ab a/2^m<4294967296^ ((au (ab a)).length-m/32):=by
  rw[Nat.div_lt_iff_lt_mul (aze m),←zz m];refine azY hlt ?_;rw[←azq,←azc];refine ay3 (azD ω (show(au (ab a)).length<=(au (ab a)).length-m/32+m/32 by omega)) (Nat.le_mul_of_pos_right _ (aze _))
 have e3:ab (dJ ((au (ab a)).length-m/32) (ab a/2^m))=ab a/2^m:=by
  rw[mr,azL h32]
 have e4:=HT (px ((au (ab a)).length-m/32) (ab a/2^m)) (by grind[cY]);rw[e3]at e4;have hl:¬256< (au (ab a/2^m)).length:=by
  have:=ko h32;omega
 unfold lq at e4;simp only[hl,if_false]at e4;simp only[rI,yx,go_sem,e1,s6,hn,hn2,aeC ha (n:=m) ω ω,e4,or_false,ay4]
def ae(n:Nat):Nat:=if n=0 then 0 else n.log2+1
theorem bD{n k}:ae n<=k↔n<2^k:=by
 unfold ae;grind[Nat.succ_le_iff,Nat.log2_lt]
theorem N7{q k}(h:ae q<=k):ae (q+1)<=k+1:=by
 rw[bD]at h⊢;omega
theorem ahw{n k}(h:n<=k):ae (2^n-1)<=k:=bD.2 (by
 have h1:=aze n;have h2:=azD (n:=2) δ h;omega)
theorem ahx(k):ae 1<=k+1:=bD.2 (Nat.one_lt_two_pow ω)
theorem zA{x y k}(h:x<=y)(h2:ae y<=k):ae x<=k:=bD.2 (azt h (bD.1 h2))
theorem kf{n k}:k<ae n↔2^k<=n:=by
 have:=@bD n k;omega
theorem sf:ae 0=0:=rfl
theorem fR{n}(h:n≠0):0<ae n:=by
 rw[kf];omega
theorem mu(n k):ae (n/2^k)=ae n-k:=by
 have h:∀j,ae (n/2^k)<=j↔ae n-k<=j:=fun j=>by
  simp_all[bD,Nat.div_lt_iff_lt_mul,aze,azc]
 have h1:=(h _).1 (ayZ _);have h2:=(h _).2 (ayZ _);omega
theorem dA{n}(k)(hn:n≠0):ae (n*2^k)=ae n+k:=by
 grind[mu,Nat.mul_div_cancel,aze,ae,kf,Nat.le_mul_of_pos_left]
def acM:ByteArray:=⟨#[0,1,2,2,3,3,3,3,4,4,4,4,4,4,4,4,5,5,5,5,5,5,5,5,5,5,5,5,5,5,5,5,6,6,6,6,6,6,6,6,6,6,6,6,6,6,6,6,6,6,6,6,6,6,6,6,6,6,6,6,6,6,6,6,7,7,7,7,7,7,7,7,7,7,7,7,7,7,7,7,7,7,7,7,7,7,7,7,7,7,7,7,7,7,7,7,7,7,7,7,7,7,7,7,7,7,7,7,7,7,7,7,7,7,7,7,7,7,7,7,7,7,7,7,7,7,7,7,8,8,8,8,8,8,8,8,8,8,8,8,8,8,8,8,8,8,8,8,8,8,8,8,8,8,8,8,8,8,8,8,8,8,8,8,8,8,8,8,8,8,8,8,8,8,8,8,8,8,8,8,8,8,8,8,8,8,8,8,8,8,8,8,8,8,8,8,8,8,8,8,8,8,8,8,8,8,8,8,8,8,8,8,8,8,8,8,8,8,8,8,8,8,8,8,8,8,8,8,8,8,8,8,8,8,8,8,8,8,8,8,8,8,8,8,8,8,8,8,8,8,8,8,8,8,8,8]⟩
theorem ahy:((List.range 256).all fun x=>(acM[x]?).map (·.toNat)==some (ae x))=true:=by decide+kernel
theorem acN{x:Nat}(h:x<256):LJ (.v (.string acM)) (.v (.int .u8 x))=some (.v (.int .u8 (ae x))):=by
 have:=List.all_eq_true.1 ahy x (List.mem_range.2 h);simp only[LJ];grind
theorem I1:KN=.seq (.ops [0,2] [co 2 (.mv (.c (.v (.int .i64 0))))]) (.seq (.seq (.ops [0,2,4] [cm 3 0,co 4 (.bin .geq (.t 3) (.c (.v (.int .u32 65536))))]) (.cond (.t 4) (.seq (.ops [0] [cm 5 0,co 6 (.bin .shr (.t 5) (.c (.v (.int .u64 16)))),cm 0 6]) (.ops [0,2] [co 2 (.mv (.c (.v (.int .i64 16))))])) (.skip))) (.seq (.seq (.ops [0,2,8] [cm 7 0,co 8 (.bin .geq (.t 7) (.c (.v (.int .u32 256))))]) (.cond (.t 8) (.seq (.ops [0,2] [cm 9 0,co 10 (.bin .shr (.t 9) (.c (.v (.int .u64 8)))),cm 0 10]) (.ops [0,2] [cm 11 2,co 12 (.bin .add (.t 11) (.c (.v (.int .i64 8)))),cm 2 12])) (.skip))) (.seq (.ops [2] [cm 13 2,cm 14 0,co 15 (.cv .u8 (.t 14)),co 16 (.idxS (.c (.v (.string acM))) (.t 15)),co 17 (.cv .i64 (.t 16)),co 18 (.bin .add (.t 13) (.t 17)),cm 2 18]) (.ret)))):=rfl
theorem w8{i:Int}{n:Nat}(h:i=n)(hn:n<256):IntKind.u8.wrap i=n:=by grind[IntKind.wrap_u8]
theorem L4{n k:Nat}{i:Int}{kk}{j:Int}(hi:i=n)(hj:j=k)(hk:k<=32):dq .shr (.v (.int .u32 i)) (.v (.int kk j))=some (.v (.int .u32 (n/2^k:Nat))):=by
 simp_all[Hv,if_neg,IntKind.bits,Option.some.injEq,AV.v.injEq,Value.int.injEq,true_and,Int.fdiv_eq_ediv_of_nonneg,Int.pow_nonneg]
theorem GA{x}(k)(h:2^k<=x):ae x=k+ae (x/2^k):=by
 have:=mu x k;have:=kf.2 h;omega
theorem Xa{x:Nat}(hx:x<4294967296):R F.bits_Len32 [U x] []=some (I (ae x),[]):=by
 refine av WO rfl ?_;have fin:∀ {y:Nat},y<256->∀ {n:Nat},n<=24->IntKind.u8.wrap y=y/\IntKind.i64.wrap (ae y)=(ae y)/\IntKind.i64.wrap (n+(ae y))=(n+ae y:Nat):=fun{y} hy {n} hn=>by
  have:ae y<=8:=bD.2 hy;exact⟨w8 rfl hy,wi rfl ω,wi ω ω⟩
 have s16:=L4 (n:=x) (k:=16) (kk:=.u64) (j:=16) rfl rfl ω;by_cases h1:65536<=x
 ·have e1:(65536<=(x:Int))=True:=tt;have b1:=GA 16 h1;have s8:=L4 (n:=x/2^16) (k:=8) (kk:=.u64) (j:=8) rfl rfl ω;by_cases h2:256<=x/2^16
  ·have e2:(256<=((x/2^16:Nat):Int))=True:=tt;have b2:=GA 8 h2;have hy:x/2^16/2^8<256:=ω
   obtain⟨f1,f2,f3⟩:=fin hy (n:=24) ω;have g:IntKind.i64.wrap 24=24:=by grind[i64_in]
   have f3':IntKind.i64.wrap (24+(ae (x/2^16/2^8)))=(ae x:Nat):=γ
   simp only[pu,I1,go_sem,e1,s16,e2,s8,g,f1,acN hy,f2,f3',Int.reduceAdd]
  ·have e2:(256<=((x/2^16:Nat):Int))=False:=ff;have hy:x/2^16<256:=ω
   obtain⟨f1,f2,f3⟩:=fin hy (n:=16) ω;have f3':IntKind.i64.wrap ((16:Int)+(ae (x/2^16):Int))=((ae x:Nat):Int):=γ
   simp only[pu,I1,go_sem,aza,azu,e1,s16,e2,f1,acN hy,f2,f3']
 ·have e1:((65536:Int)<=(x:Int))=False:=ff;have s8:=L4 (n:=x) (k:=8) (kk:=.u64) (j:=8) rfl rfl ω;by_cases h2:256<=x
  ·have e2:((256:Int)<=(x:Int))=True:=tt;have b2:=GA 8 h2;have hy:x/2^8<256:=ω
   obtain⟨f1,f2,f3⟩:=fin hy (n:=8) ω;have g:IntKind.i64.wrap (8:Int)=8:=by grind[i64_in]
   have f3':IntKind.i64.wrap ((8:Int)+(ae (x/2^8):Int))=((ae x:Nat):Int):=γ
   simp only[pu,I1,go_sem,aza,azu,e1,e2,s8,g,f1,acN hy,f2,f3',Int.reduceAdd]
  ·have e2:((256:Int)<=(x:Int))=False:=ff;have hy:x<256:=ω
   obtain⟨f1,f2,f3⟩:=fin hy (n:=0) ω;have f3':IntKind.i64.wrap ((0:Int)+(ae x:Int))=((ae x:Nat):Int):=γ
   simp only[pu,I1,go_sem,aza,azu,e1,e2,f1,acN hy,f2,f3']
theorem Xb{n}(h:n≠0):ae n=32*((au n).length-1)+ae ((au n).getD ((au n).length-1) 0):=by
 induction n using Nat.strongRecOn with
 |ind n ih=>
  rw[rO h,azp,Nat.add_sub_cancel];by_cases h0:n/4294967296=0
  ·rw[h0,fQ];grind
  ·have h2:(au (n/4294967296)).length≠0:=by
    intro e;exact h0 (nJ.1 (List.length_eq_zero_iff.1 e))
   have h3:=GA (x:=n) 32 ω;grind
theorem HW{m}(hb:Lb m)(h1:m.length<=100000):R F.natural_Bits [lm m] []=some (I (ae (ab m)),[]):=by
 refine av Rf rfl ?_;have la:=dy m hb;by_cases h:ab m=0
 ·have e1:((0:Nat):Int)=0:=rfl;simp only[uT,BO,go_sem,dD hb ω,h,fQ,e1,sf]
 ·have hne:(au (ab m)).length≠0:=fun e=>h (nJ.1 (List.length_eq_zero_iff.1 e));have e1:(((au (ab m)).length:Int)=0)=False:=ff;have e2:IntKind.i64.wrap ((au (ab m)).length-1)=((au (ab m)).length-1:Nat):=wi;have e3:IntKind.i64.wrap (32*((au (ab m)).length-1:Nat))=(32*((au (ab m)).length-1):Nat):=wi;have e4:aU (aC (au (ab m))) ((au (ab m)).length-1:Nat)=some (.ipt [U ((au (ab m)).getD ((au (ab m)).length-1) 0)]):=bu rfl ω;have e5:=Xa (bU (bg (ab m)) ((au (ab m)).length-1));have e6:ae ((au (ab m)).getD ((au (ab m)).length-1) 0)<=32:=bD.2 (bU (bg (ab m)) _);have e7:IntKind.i64.wrap ((32*((au (ab m)).length-1):Nat)+(ae ((au (ab m)).getD ((au (ab m)).length-1) 0)))=(ae (ab m):Nat):=by
   rw[Xb h];exact wi ω ω
  simp only[uT,BO,go_sem,dD hb ω,e1,e2,e3,e4,e5,e7]
structure Rd where
 neg:Bool
 m:List Nat
 e:Int
def ak(d:Rd):List AV:=[B d.neg,lm d.m,I d.e]
def af(d:Rd):AV:=.agg (ak d)
def aG:Rd:=⟨false,[],0⟩
def qL(n:Nat)(e:Int):Bool:=decide (n=0)|| (decide (n<=4096)&& (decide (-16384<=e)&& (decide (e<=16384)&&decide (n+e<=16384))))
def vd(d:Rd):Bool:=if d.m.length=0 then !d.neg&&decide (d.e=0)else decide (d.m.length<=256)&& (decide (d.m.getD 0 0%2=1)&& (decide (d.m.getD (d.m.length-1) 0≠0)&&qL (ae (ab d.m)) d.e))
theorem wY{m}(hb:Lb m)(h1:m.length<=100000):R F.dyadic_size [lm m] []=some (I (ae (ab m)),[]):=by
 refine av Us rfl ?_;simp only[BH,JL,go_sem,HW hb h1]
theorem PT{d}(hb:Lb d.m)(h1:d.m.length<=100000):R F.dyadic_inRange [af d] []=some (B (qL (ae (ab d.m)) d.e),[]):=by
 refine av NQ rfl ?_;unfold qL;by_cases a1:ae (ab d.m)=0
 ·have e9:=wY hb h1;rw[a1,azC]at e9;simp only[iq,kV,af,ak,go_sem,e9,a1]
 have e1:(((ae (ab d.m)):Int)=0)=False:=ff;by_cases a2:¬ (ae (ab d.m)<=4096)
 ·have e2:(((ae (ab d.m)):Int)<=4096)=False:=ff;simp only[iq,kV,af,ak,go_sem,wY hb h1,e1,a1,e2,a2]
 replace a2:=Decidable.not_not.1 a2
 have e2:(((ae (ab d.m)):Int)<=4096)=True:=tt;by_cases a3:¬ (-16384<=d.e)
 ·simp only[iq,kV,af,ak,go_sem,wY hb h1,e1,a1,e2,a2,a3]
 replace a3:=Decidable.not_not.1 a3
 by_cases a4:¬ (d.e<=16384)
 ·simp only[iq,kV,af,ak,go_sem,wY hb h1,e1,a1,e2,a2,a3,a4]
 replace a4:=Decidable.not_not.1 a4
 have e3:IntKind.i64.wrap ((ae (ab d.m):Nat)+d.e)=(ae (ab d.m):Nat)+d.e:=by grind[i64_in]
 simp only[iq,kV,af,ak,go_sem,wY hb h1,e1,a1,e2,a2,a3,a4,e3]
def Xc(n:Int):Prop:=-9223372036854775808<=n/\n<9223372036854775808
structure Ok0 (d:Rd):Prop where
 lb:Lb d.m
 len:d.m.length<4611686018427387904
theorem eF{d}(ok:Ok0 d):R F.dyadic_Valid [af d] []=some (B (vd d),[]):=by
 refine av Q7 rfl ?_;unfold vd;by_cases a0:d.m.length=0
 ·rw[if_pos a0];have e1:((d.m.length:Int)=0)=True:=tt;cases hn:d.neg with
  |true=>simp only[iH,kT,af,ak,hn,go_sem,e1]
  |false=>simp only[iH,kT,af,ak,hn,go_sem,e1]
 rw[if_neg a0];have e1:((d.m.length:Int)=0)=False:=ff;by_cases a1:¬d.m.length<=256
 ·have e2:((d.m.length:Int)<=256)=False:=ff;rw[decide_eq_false a1,ay6];simp only[iH,kT,af,ak,go_sem,e1,e2]
 replace a1:=Decidable.not_not.1 a1
 have e2:((d.m.length:Int)<=256)=True:=tt;have e3:aU (aC d.m) 0=some (.ipt [U (d.m.getD 0 0)]):=bu rfl ω;have e4:dq .rem (.v (.int .u32 (d.m.getD 0 0))) (.v (.int .u32 2))=some (.v (.int .u32 (d.m.getD 0 0%2:Nat))):=by
  simp_all[ww,if_neg,Int.tmod_eq_emod_of_nonneg]
 rw[decide_eq_true a1,ay5];by_cases a2:¬d.m.getD 0 0%2=1
 ·have e5:(((d.m.getD 0 0%2:Nat):Int)=1)=False:=ff;rw[decide_eq_false a2,ay6];simp only[iH,kT,af,ak,go_sem,e1,e2,e3,e4,e5]
 replace a2:=Decidable.not_not.1 a2
 have e5:(((d.m.getD 0 0%2:Nat):Int)=1)=True:=tt;rw[decide_eq_true a2,ay5];have e6:IntKind.i64.wrap (d.m.length-1)=(d.m.length-1:Nat):=wi;have e7:aU (aC d.m) (d.m.length-1:Nat)=some (.ipt [U (d.m.getD (d.m.length-1) 0)]):=bu rfl ω;by_cases a3:d.m.getD (d.m.length-1) 0=0
 ·have e8:((d.m.getD (d.m.length-1) 0:Int)=0)=True:=tt;rw[decide_eq_false (p:=d.m.getD (d.m.length-1) 0≠0) (fun h=>h a3),ay6];simp only[iH,kT,af,ak,go_sem,e1,e2,e3,e4,e5,e6,e7,e8]
 have e8:((d.m.getD (d.m.length-1) 0:Int)=0)=False:=ff;rw[decide_eq_true (p:=d.m.getD (d.m.length-1) 0≠0) a3,ay5];have e9:=PT (d:=d) ok.lb ω;simp only[af,ak]at e9;simp only[iH,kT,af,ak,go_sem,e1,e2,e3,e4,e5,e6,e7,e8,e9]
theorem RF{d}(ok:Ok0 d):R F.dyadic_Sign [af d] []=some (I (if vd d=false\/d.m.length=0 then 0 else if d.neg=true then-1 else 1),[]):=by
 refine av Uo rfl ?_;have e9:=eF ok;simp only[af,ak]at e9;cases hv:vd d with
 |false=>
  rw[hv]at e9;rw[if_pos (Or.inl rfl)];simp only[nF,tG,af,ak,go_sem,e9]
 |true=>
  rw[hv]at e9;by_cases a0:d.m.length=0
  ·have e1:((d.m.length:Int)=0)=True:=tt;rw[if_pos (Or.inr a0)];simp only[nF,tG,af,ak,go_sem,e9,e1]
  ·have e1:((d.m.length:Int)=0)=False:=ff;rw[if_neg (fun h=>h.elim (fun h=>nomatch h) a0)];cases hn:d.neg with
   |true=>
    rw[hn]at e9;simp only[nF,tG,af,ak,hn,go_sem,e9,e1]
   |false=>
    rw[hn]at e9;simp only[nF,tG,af,ak,hn,go_sem,e9,e1]
theorem acO(m)(h2:m.length<4611686018427387904):∀ (n:Nat),n<=m.length->∀s h,s 0=lm m->s 3=I n->
  ah 0 [0,3] (aq (aj R (az false) kN) [0,3] [] s h)=some (.normal,⟨upd (upd (fun _=>.any) 3 (I (ni m n))) 0 (lm m),fun _=>.dead⟩):=by
 intro n;induction n with
 |zero=>
  intro h1 s h h3 h4;rw[ag];simp only[kN,go_sem,h3,h4,ni,azC,azI]
 |succ n ih=>
  intro h1 s h h3 h4;have hn:=h1;have e3:IntKind.i64.wrap (n+1-1)=n:=wi;have e1:=bu rfl hn;have e2:(0< (n:Int)+1)=True:=tt;have ih':=ih ω;rw[ag];by_cases hz:m.getD n 0=0
  ·simp only[kN,go_sem,h3,h4,ni,Int.natCast_add,Int.natCast_one,e3,e1,e2,hz,azC];exact ih' _ _ rfl rfl
  ·simp only[kN,go_sem,h3,h4,ni,Int.natCast_add,Int.natCast_one,e3,e1,e2,hz,Int.natCast_eq_zero]
theorem Xd{m}(hb:Lb m)(h:m.length<4611686018427387904):R F.dyadic_trimmed [lm m] []=some (lm (au (ab m)),[]):=by
 refine av NU rfl ?_;have h1:dH 1 (lm m) none (some (I (ni m m.length))) none=some (lm (au (ab m))):=by
  rw[K2 (a:=0) (b:=ni m m.length) rfl (vU rfl (Fb _ _)) (Fb _ _),azZ,Nat.sub_zero,NI hb]
 simp only[xC,EY,go_sem,acO m h m.length (ayZ _),h1]
theorem CE{e}:R F.dyadic_exponent [I e] []=some (B (decide (-32768<=e)&&decide (e<=32768)),[]):=by
 refine av MI rfl ?_;by_cases a1:¬ (-32768<=e)
 ·simp only[pX,xA,go_sem,a1]
 replace a1:=Decidable.not_not.1 a1
 simp only[pX,xA,go_sem,a1]
theorem DZ{d}(hb:Lb d.m)(h1:d.m.length<=100000):R F.dyadic_checked [af d] []=some (if qL (ae (ab d.m)) d.e=true then .tup [af d,I 0]else .tup [af aG,I 9],[]):=by
 refine av NS rfl ?_;have e9:=PT hb h1;simp only[af,ak]at e9;cases hv:qL (ae (ab d.m)) d.e with
 |false=>
  rw[hv]at e9;simp only[qU,yO,af,ak,aG,go_sem,e9]
 |true=>
  rw[hv]at e9;simp only[qU,yO,af,ak,go_sem,e9]
theorem Xe(h)(m):wt h 1 (lm m)=some (aC m):=ahg h 1 _
theorem I2{m}(h0:m≠[])(h1:m.length<=100000):R F.slices_Clone_uint32_uint32_ [lm m] []=some (lm m,[]):=by
 refine av Bc rfl ?_;have e1:Io false (lm m)=some (B false):=by
  cases m with
  |nil=>grind
  |cons x m=>rfl
 have e2:((True\/False)/\(0+m.length)*4<=140737488355328)=True:=eq_true ⟨Or.inl trivial,by omega⟩;have e3:(0+(0+m.length)<=m.length)=True:=tt;have e4:(0+m.length=m.length)=True:=tt;simp only[jS,qK,go_sem,e1,Xe,e2,e3,e4]
theorem Hj:cO.E F.bits_TrailingZeros32=some tzF:=by kernel_rfl
theorem K4{x:Nat}(h:x≠0)(hx:x<4294967296):R F.bits_TrailingZeros32 [U x] []=some (I (tz x),[]):=by
 unfold R;rw[II Hj];show(if 0< (x:Int)/\(x:Int)<4294967296/\[]=[]then some (I (Tm 32 (x:Int).toNat),[])else none)=_;rw[if_pos ⟨by omega,by omega,rfl⟩,ay4,amU 32 x h ω]
theorem ahz(m)(hb:Lb m)(h2:m.length<=100000):∀k i,i+k=m.length->ab (m.drop i)≠0->∀s h,s 6=lm m->s 7=I m.length->s 8=I i->s 3=I (32*i:Nat)->
  ah 0 [3] (aq (aj R (az false) uS) [3,6,7,8] [] s h)=some (.ret,⟨upd (fun _=>.any) 2 (I (32*i+tz (ab (m.drop i)):Nat)),fun _=>.dead⟩):=by
 intro k;induction k with
 |zero=>
  intro i hi hv;rw[azi ω]at hv;exact absurd rfl hv
 |succ k ih=>
  intro i hi hv s h h6 h7 h8 h3;have e1:((i:Int)<m.length)=True:=tt;have e2:aU (aC m) i=some (.ipt [U (m.getD i 0)]):=bu rfl ω;have hx:=bU hb i;rw[fF]at hv;rw[ag];have e4:IntKind.i64.wrap ((32*i:Nat)+32)=(32*(i+1):Nat):=wi;have e5:IntKind.i64.wrap (i+1)=(i+1:Nat):=wi;by_cases hz:m.getD i 0=0
  ·have e3:((m.getD i 0:Int)=0)=True:=tt;have hv':ab (m.drop (i+1))≠0:=by
    omega
   have ih':=ih (i+1) ω hv';have e6:tz (ab (m.drop i))=32+tz (ab (m.drop (i+1))):=by
    rw[fF,hz,ayX];exact KW 32 hv'
   have e7:32*i+tz (ab (m.drop i))=32*(i+1)+tz (ab (m.drop (i+1))):=ω
   rw[e7];simp only[uS,go_sem,h3,h6,h7,h8,e1,e2,e3,e4,e5];exact ih' _ _ rfl rfl rfl rfl
  ·have e3:((m.getD i 0:Int)=0)=False:=ff;have e6:tz (ab (m.drop i))=tz (m.getD i 0):=by
    rw[fF];exact amT (k:=32) _ hz hx
   have e8:=UV (k:=32) hz hx;have e7:IntKind.i64.wrap ((32*i:Nat)+(tz (m.getD i 0)))=(32*i+tz (m.getD i 0):Nat):=wi;rw[e6];simp only[uS,go_sem,h3,h6,h7,h8,e1,e2,e3,K4 hz hx,e7]
theorem am0{m}(hb:Lb m)(h1:m.length<=100000)(hv:ab m≠0):R F.dyadic_low [lm m] []=some (I (tz (ab m)),[]):=by
 refine av WI rfl ?_;have h3:=ahz m hb h1 m.length 0 (ayX _) hv;simp only[Nat.mul_zero,ayX,azZ,azC]at h3;simp only[Dm,KL,go_sem];rw[h3 _ _ rfl rfl rfl rfl];simp only[go_sem]
def acP:Nat->Nat->List Nat
 |0,_=>[]
 |k+1,n=>if n=0 then []else n%4294967296::acP k (n/4294967296)
theorem Z4:∀ {k n:Nat},n<4294967296^k->acP k n=au n
 |0,n,h=>by
  have:n=0:=by simpa using h
  subst this;rw[fQ];rfl
 |k+1,n,h=>by
  unfold acP;split
  ·rename_i h0;rw[h0,fQ]
  ·rename_i h0;rw[rO h0,Z4 (Nat.div_lt_of_lt_mul (by rw[azO]at h;omega))]
def am1(neg:Bool)(M k:Nat)(e:Int):Rd:=if M%2^k=0/\M/2^k%2=1/\M/2^k<4294967296^24 then⟨neg,acP 24 (M/2^k),e+k⟩else⟨neg,au (M/2^tz M),e+tz M⟩
def br(neg:Bool)(M:Nat)(e:Int):Rd:=if M=0 then aG else am1 neg M (Nat.gcd M (2^40000)).log2 e
theorem vX{neg:Bool}{M:Nat}{e:Int}:br neg M e=if M=0 then aG else⟨neg,au (M/2^tz M),e+tz M⟩:=by
 unfold br;split
 ·rfl
 ·generalize Nat.log2 _=k;unfold am1;split
  ·rename_i h0 h;obtain⟨h1,h2,h3⟩:=h;have e1:M=2^k*(M/2^k):=(Nat.mul_div_cancel' (Nat.dvd_of_mod_eq_zero h1)).symm;have e2:tz M=k:=by
    rw[e1,KW _ ω,AO h2,azA]
   rw[e2,Z4 h3]
  ·rfl
def Exq(e:Int):Prop:=-1000000<=e/\e<=1000000
theorem oE{neg}{m}{e}(hb:Lb m)(h1:m.length<=256)(he:Exq e):R F.dyadic_canonical [B neg,lm m,I e] []=some (af (br neg (ab m) e),[]):=by
 refine av K0 rfl ?_;obtain⟨he1,he2⟩:=he;rw[vX];by_cases h0:ab m=0
 ·have hd:R F.dyadic_trimmed [lm m] []=some (lm [],[]):=by
   grind[Xd,fQ]
  rw[if_pos h0];simp only[oM,vJ,af,ak,aG,go_sem,hd,azx,azC]
 have hn:=fun h=>h0 (nJ.1 h);have hl:0< (au (ab m)).length:=by
  grind
 have hl2:=ay3 (dy m hb) h1;have hdb:Lb (au (ab m)):=bg _;have e1:(((au (ab m)).length:Int)=0)=False:=ff;have ht:=UV (k:=32*256) h0 (by
  have:=cW hb;have h3:4294967296^m.length<=4294967296^256:=azD δ h1;omega)
 have hlow:=am0 hdb ω (by grind[aN]);rw[aN]at hlow;have hs:=aeD (n:=(tz (ab m))) hdb hl2;rw[if_neg ω,aN,ay4]at hs;have hq:au (ab m/2^tz (ab m))≠[]:=by
  intro h;have:=(zu h0).2;rw[nJ.1 h]at this;omega
 have hq2:(au (ab m/2^tz (ab m))).length<=100000:=by
  have h5:(au (ab m/2^tz (ab m))).length<=m.length:=ko (azt (Nat.div_le_self _ _) (cW hb));omega
 have hc:=I2 hq hq2;have e2:IntKind.i64.wrap (e+(tz (ab m)))=e+(tz (ab m)):=by grind[i64_in]
 rw[if_neg h0];simp only[oM,vJ,af,ak,go_sem,Xd hb (azt h1 δ),e1,hlow,hs,hc,RA,e2]
theorem AU{d}(h:vd d=true)(h0:d.m.length≠0):d.m.length<=256/\d.m.getD 0 0%2=1/\d.m.getD (d.m.length-1) 0≠0/\qL (ae (ab d.m)) d.e=true:=by
 simp_all[vd,if_neg,ay1,decide_eq_true_eq]
theorem BY{d}(h:vd d=true)(h0:d.m.length=0):d=aG:=by
 unfold vd at h;obtain⟨n,m,e⟩:=d;grind[aG]
theorem BZ{n}{e}(h:qL n e=true)(h0:n≠0):n<=4096∧-16384<=e/\e<=16384/\n+e<=16384:=by
 simp_all[qL,Bool.or_eq_true,ay1,decide_eq_true_eq]
theorem dZ{d}(h:vd d=true)(_hb:Lb d.m):d.m.length<=256∧-16384<=d.e/\d.e<=16384/\ae (ab d.m)<=4096:=by
 by_cases h0:d.m.length=0
 ·rw[BY h h0];exact⟨by decide,by decide,by decide,by decide⟩
 obtain⟨h1,h2,h3,h4⟩:=AU h h0;have hv:ab d.m≠0:=by
  have:=fF d.m 0;grind
 have hn:ae (ab d.m)≠0:=by
  grind[fR]
 obtain⟨h5,h6,h7,h8⟩:=BZ h4 hn;omega
def aX(d:Rd):Int:=if vd d=false\/d.m.length=0 then 0 else(ae (ab d.m))+d.e
theorem CX{d}(ok:Ok0 d):R F.dyadic_Top [af d] []=some (I (aX d),[]):=by
 refine av WF rfl ?_;have e9:=eF ok;simp only[af,ak]at e9;unfold aX;cases hv:vd d with
 |false=>
  rw[hv]at e9;rw[if_pos (Or.inl rfl)];simp only[tN,AA,af,ak,go_sem,e9]
 |true=>
  rw[hv]at e9;by_cases a0:d.m.length=0
  ·have e1:((d.m.length:Int)=0)=True:=tt;rw[if_pos (Or.inr a0)];simp only[tN,AA,af,ak,go_sem,e9,e1]
  ·have e1:((d.m.length:Int)=0)=False:=ff;rw[if_neg (fun h=>h.elim (fun h=>nomatch h) a0)];obtain⟨h1,h2,h3,h4⟩:=dZ hv ok.lb;have e2:IntKind.i64.wrap ((ae (ab d.m):Nat)+d.e)=(ae (ab d.m):Nat)+d.e:=by grind[i64_in]
   simp only[tN,AA,af,ak,go_sem,e9,e1,wY ok.lb (ay3 h1 δ),e2]
theorem N8{d}(ok:Ok0 d):R F.dyadic_Bits [af d] []=some (I (if vd d=true then(ae (ab d.m))else 0),[]):=by
 refine av Un rfl ?_;have e9:=eF ok;simp only[af,ak]at e9;cases hv:vd d with
 |false=>
  rw[hv]at e9;simp only[wD,Dh,af,ak,go_sem,e9]
 |true=>
  rw[hv]at e9;obtain⟨h1,h2,h3,h4⟩:=dZ hv ok.lb;simp only[wD,Dh,af,ak,go_sem,e9,wY ok.lb (ay3 h1 δ)]
theorem Fr{d}(ok:Ok0 d):R F.dyadic_Neg [af d] []=some (af (if vd d=false\/d.m.length=0 then aG else⟨!d.neg,d.m,d.e⟩),[]):=by
 refine av Wy rfl ?_;have e9:=eF ok;simp only[af,ak]at e9;cases hv:vd d with
 |false=>
  rw[hv]at e9;rw[if_pos (Or.inl rfl)];simp only[tH,At,af,ak,aG,go_sem,e9]
 |true=>
  rw[hv]at e9;by_cases a0:d.m.length=0
  ·have e1:((d.m.length:Int)=0)=True:=tt;rw[if_pos (Or.inr a0)];simp only[tH,At,af,ak,aG,go_sem,e9,e1]
  ·have e1:((d.m.length:Int)=0)=False:=ff;rw[if_neg (fun h=>h.elim (fun h=>nomatch h) a0)];obtain⟨h1,h2,h3,h4⟩:=dZ hv ok.lb;have hc:=I2 (m:=d.m) (fun h=>a0 γ) (ay3 h1 δ);simp only[tH,At,af,ak,go_sem,e9,e1,hc]
theorem PU{d}(ok:Ok0 d):R F.dyadic_Abs [af d] []=some (af (if vd d=false\/d.m.length=0 then aG else⟨false,d.m,d.e⟩),[]):=by
 refine av WH rfl ?_;have e9:=eF ok;simp only[af,ak]at e9;cases hv:vd d with
 |false=>
  rw[hv]at e9;rw[if_pos (Or.inl rfl)];simp only[tP,AB,af,ak,aG,go_sem,e9]
 |true=>
  rw[hv]at e9;by_cases a0:d.m.length=0
  ·have e1:((d.m.length:Int)=0)=True:=tt;rw[if_pos (Or.inr a0)];simp only[tP,AB,af,ak,aG,go_sem,e9,e1]
  ·have e1:((d.m.length:Int)=0)=False:=ff;rw[if_neg (fun h=>h.elim (fun h=>nomatch h) a0)];obtain⟨h1,h2,h3,h4⟩:=dZ hv ok.lb;have hc:=I2 (m:=d.m) (fun h=>a0 γ) (ay3 h1 δ);simp only[tP,AB,af,ak,go_sem,e9,e1,hc]
theorem D0{m:List Nat}(hb:Lb m)(h1:m.length<=256){k:Nat}(hk:k<=65536)(hl:(au (ab m*2^k)).length<=256):R F.dyadic_shifted [lm m,I k] []=some (lm (au (ab m*2^k)),[]):=by
 refine av NT rfl ?_;have hs:=aeB (n:=(k:Nat)) hb h1;rw[if_neg ω,ay4,lq,if_neg ω]at hs;simp only[xB,EU,go_sem,hs]
theorem aj8{neg:Bool}{m:List Nat}{e:Int}(hb:Lb m)(hl:m.length<4611686018427387904):R F.dyadic_Make [B neg,lm m,I e] []=some (if 256<m.length\/e< -32768\/32768<e then .tup [af aG,I 1]
  else if qL (ae (ab (br neg (ab m) e).m)) (br neg (ab m) e).e=true then .tup [af (br neg (ab m) e),I 0]else .tup [af aG,I 9],[]):=by
 refine av UM rfl ?_;by_cases a1:256<m.length
 ·have e1:((256:Int)<m.length)=True:=tt;rw[if_pos (Or.inl a1)];simp only[nI,tU,af,ak,aG,go_sem,e1]
 have e1:((256:Int)<m.length)=False:=ff;by_cases a2:e< -32768\/32768<e
 ·have e2:(decide (-32768<=e)&&decide (e<=32768))=false:=by
   grind
  rw[if_pos (Or.inr a2)];simp only[nI,tU,af,ak,aG,go_sem,e1,CE,e2]
 have e2:(decide (-32768<=e)&&decide (e<=32768))=true:=by
  grind
 rw[if_neg (fun h=>h.elim a1 a2)];have hc:=oE (neg:=neg) (e:=e) hb ω ⟨by omega,by omega⟩;have hL:Lb (br neg (ab m) e).m:=by
  rw[vX];split
  ·exact fun x hx=>nomatch hx
  grind[bg]
 have hN:(br neg (ab m) e).m.length<=100000:=by
  rw[vX];split
  ·exact azH _
  ·have h5:(au (ab m/2^tz (ab m))).length<=m.length:=ko (azt (Nat.div_le_self _ _) (cW hb));grind
 have hd:=DZ hL hN;generalize br neg (ab m) e=d at hc hd⊢;simp only[af,ak]at hc hd;cases hv:qL (ae (ab d.m)) d.e with
 |false=>
  rw[hv,if_neg (fun h=>nomatch h)]at hd;simp only[nI,tU,af,ak,aG,go_sem,e1,CE,e2,hc,hd]
 |true=>
  rw[hv,if_pos rfl]at hd;simp only[nI,tU,af,ak,go_sem,e1,CE,e2,hc,hd]
def mg(d:Rd):Nat:=ab d.m*2^ (d.e+16384).toNat
def zI(d:Rd):Int:=if d.neg=true then-(mg d:Int)else mg d
theorem ahA{x y k:Nat}(hk:0<k):cw (x*k) (y*k)=cw x y:=by
 simp_all[cw,Nat.mul_lt_mul_right,if_pos,if_neg]
theorem PV{x y:Nat}(h:ae x<ae y):x<y:=by
 have h1:=(bD (n:=x) (k:=ae x)).1 (ayZ _);have h2:=kf.1 h;omega
theorem dv{d:Rd}(h:vd d=true)(h0:d.m.length≠0):ab d.m≠0:=by
 obtain⟨h1,h2,h3,h4⟩:=AU h h0;have:=fF d.m 0;grind
theorem RG{d:Rd}(h:vd d=true)(hb:Lb d.m)(h0:d.m.length≠0):(ae (mg d):Int)=aX d+16384:=by
 obtain⟨h1,h2,h3,h4⟩:=dZ h hb;unfold mg aX;rw[dA _ (dv h h0),if_neg (fun h'=>h'.elim (fun h''=>by grind) h0)];omega
theorem vY{d:Rd}{e:Int}(h1:-16384<=e)(h2:e<=d.e):mg d=ab d.m*2^ (d.e-e).toNat*2^ (e+16384).toNat:=by
 unfold mg;rw[azq,←azc];grind
theorem aT{n k:Nat}(h:ae n<=32*k):(au n).length<=k:=by
 refine ko ?_;have:=bD.1 h;grind[Nat.pow_mul]
theorem acQ{a b:Rd}(oa:Ok0 a)(ob:Ok0 b)(va:vd a=true)(vb:vd b=true)(na:a.m.length≠0)(nb:b.m.length≠0):R F.dyadic_compare [af a,af b] []=some (I (cw (mg a) (mg b)),[]):=by
 refine av NR rfl ?_;have ta:=CX oa;have tb:=CX ob;have ba:=RG va oa.lb na;have bb:=RG vb ob.lb nb;simp only[af,ak]at ta tb;by_cases h1:aX a<aX b
 ·have h2:cw (mg a) (mg b)=-1:=by
   rw[cw,if_pos (PV ω)]
  have e1:(aX a<aX b)=True:=tt h1;rw[h2];simp only[mD,sK,af,ak,go_sem,ta,tb,e1]
 have e1:(aX a<aX b)=False:=ff h1;by_cases h2:aX b<aX a
 ·have h3:cw (mg a) (mg b)=1:=by
   have:=PV (x:=mg b) (y:=mg a) ω;rw[cw,if_neg ω,if_pos this]
  have e2:(aX b<aX a)=True:=tt h2;rw[h3];simp only[mD,sK,af,ak,go_sem,ta,tb,e1,e2]
 have e2:(aX b<aX a)=False:=ff h2;obtain⟨a1,a2,a3,a4⟩:=dZ va oa.lb;obtain⟨b1,b2,b3,b4⟩:=dZ vb ob.lb;obtain⟨e,hm⟩:∃e,(if b.e<a.e then b.e else a.e)=e:=⟨_,rfl⟩;have hea:e<=a.e/\e<=b.e/\(e=a.e\/e=b.e):=by
  omega
 obtain⟨m1,m2,m3⟩:=hea;have ka:IntKind.i64.wrap (a.e-e)=(((a.e-e).toNat:Nat):Int):=wi;have kb:IntKind.i64.wrap (b.e-e)=(((b.e-e).toNat:Nat):Int):=wi;have hta:aX a=(ae (ab a.m):Nat)+a.e:=by
  simp_all[aX,if_neg]
 have htb:aX b=(ae (ab b.m):Nat)+b.e:=by
  simp_all[aX,if_neg]
 have la:(au (ab a.m*2^ (a.e-e).toNat)).length<=256:=aT (by
  grind[dA,dv])
 have lb:(au (ab b.m*2^ (b.e-e).toNat)).length<=256:=aT (by
  grind[dA,dv])
 have sa:=D0 oa.lb a1 (k:=(a.e-e).toNat) ω la;have sb:=D0 ob.lb b1 (k:=(b.e-e).toNat) ω lb;have hc:=AT (bg (ab a.m*2^ (a.e-e).toNat)) (bg (ab b.m*2^ (b.e-e).toNat)) (ay3 la δ) (ay3 lb δ);rw[aN,aN,←ahA (k:=2^ (e+16384).toNat) (aze _),←vY ω m1,←vY ω m2]at hc;simp only[mD,sK,af,ak,go_sem,ta,tb,e1,e2,hm,ka,kb,sa,sb,hc]
def eJ(x y:Int):Int:=if x<y then-1 else if y<x then 1 else 0
def gx(d:Rd):Int:=if d.m.length=0 then 0 else if d.neg=true then-1 else 1
theorem RH{d:Rd}(h0:d.m.length=0):mg d=0:=by
 unfold mg;rw[List.length_eq_zero_iff.1 h0];exact Nat.zero_mul _
theorem HX{d:Rd}(h:vd d=true)(h0:d.m.length≠0):0<mg d:=
 Nat.mul_pos (Nat.pos_of_ne_zero (dv h h0)) (aze _)
theorem N9(d:Rd)(h:vd d=true):(gx d=0/\zI d=0/\d.m.length=0)\/(gx d=-1/\zI d=-(mg d:Int)/\0<mg d/\d.m.length≠0)\/(gx d=1/\zI d=mg d/\0<mg d/\d.m.length≠0):=by
 unfold gx zI;by_cases h0:d.m.length=0
 ·grind[RH]
 ·have:=HX h h0;grind
theorem Ft{d:Rd}(ok:Ok0 d)(hv:vd d=true):R F.dyadic_Sign [af d] []=some (I (gx d),[]):=by
 simp_all[RF,gx,if_pos,if_neg]
theorem rR{a b:Rd}(oa:Ok0 a)(ob:Ok0 b):R F.dyadic_Cmp [af a,af b] []=some (I (if vd a=true/\vd b=true then eJ (zI a) (zI b)else 0),[]):=by
 refine av Wp rfl ?_;have va:=eF oa;have vb:=eF ob;simp only[af,ak]at va vb;cases ha:vd a with
 |false=>
  rw[ha]at va;simp only[kj,nV,af,ak,go_sem,va]
 |true=>
 rw[ha]at va;cases hb:vd b with
 |false=>
  rw[hb]at vb;simp only[kj,nV,af,ak,go_sem,va,vb]
 |true=>
 rw[hb]at vb;have sa:=Ft oa ha;have sb:=Ft ob hb;have ca:=N9 a ha;have cb:=N9 b hb;simp only[af,ak]at sa sb;by_cases h1:gx a<gx b
 ·have e1:(gx a<gx b)=True:=tt h1;have e2:eJ (zI a) (zI b)=-1:=if_pos ω;rw[e2];simp only[kj,nV,af,ak,go_sem,va,vb,sa,sb,e1]
 have e1:(gx a<gx b)=False:=ff h1;by_cases h2:gx b<gx a
 ·have e2:(gx b<gx a)=True:=tt h2;have e3:eJ (zI a) (zI b)=1:=by rw[eJ,if_neg ω,if_pos ω]
  rw[e3];simp only[kj,nV,af,ak,go_sem,va,vb,sa,sb,e1,e2]
 have e2:(gx b<gx a)=False:=ff h2;by_cases h3:gx a=0
 ·have e3:(gx a=0)=True:=tt h3;have e4:eJ (zI a) (zI b)=0:=by rw[eJ,if_neg ω,if_neg ω]
  rw[e4];simp only[kj,nV,af,ak,go_sem,va,vb,sa,sb,e1,e2,e3]
 have e3:(gx a=0)=False:=ff h3;have hc:=acQ oa ob ha hb ω ω;simp only[af,ak]at hc;have e4:IntKind.i64.wrap (gx a*cw (mg a) (mg b))=eJ (zI a) (zI b):=by
  have hp:gx a*cw (mg a) (mg b)=eJ (zI a) (zI b):=by
   rcases ca with ca|ca|ca
   ·omega
   ·rw[ca.1,ca.2.1];unfold cw eJ;omega
   ·rw[ca.1,ca.2.1];unfold cw eJ;omega
  rw[hp];unfold eJ;split
  ·decide
  ·split<;>decide
 simp only[kj,nV,af,ak,go_sem,va,vb,sa,sb,e1,e2,e3,hc,e4]
theorem K5(x y:Nat):ae (x*y)<=ae x+ae y:=by
 rw[bD,azc];exact Nat.mul_lt_mul'' (bD.1 (ayZ _)) (bD.1 (ayZ _))
theorem wZ(neg:Bool)(M:Nat)(e:Int):Lb (br neg M e).m:=by
 rw[vX];split
 ·exact fun x hx=>nomatch hx
 grind[bg]
theorem yY{neg:Bool}{M:Nat}{e:Int}{k:Nat}(h:ae M<=32*k):(br neg M e).m.length<=k:=by
 rw[vX];split
 ·exact azH _
 ·refine aT ?_;grind[mu]
def I3(d:Rd):AV:=if qL (ae (ab d.m)) d.e=true then .tup [af d,I 0]else .tup [af aG,I 9]
def UX(a b:Rd):AV:=if vd a=true/\vd b=true then if a.m.length=0\/b.m.length=0 then .tup [af aG,I 0]else if 4096<ae (ab a.m)+ae (ab b.m)-1 then .tup [af aG,I 9]else I3 (br (a.neg !=b.neg) (ab a.m*ab b.m) (a.e+b.e))else .tup [af aG,I 1]
theorem AW(a b:Bool):(true != (a==b))=(a !=b):=by cases a<;>cases b<;>rfl
theorem aj9{a b:Rd}(oa:Ok0 a)(ob:Ok0 b):R F.dyadic_Mul [af a,af b] []=some (UX a b,[]):=by
 refine av Ww rfl ?_;unfold UX;have va:=eF oa;have vb:=eF ob;simp only[af,ak]at va vb;cases ha:vd a with
 |false=>
  rw[ha]at va;simp only[iX,lD,af,ak,aG,go_sem,va]
 |true=>
 rw[ha]at va;cases hb:vd b with
 |false=>
  rw[hb]at vb;simp only[iX,lD,af,ak,aG,go_sem,va,vb]
 |true=>
 rw[hb]at vb;rw[if_pos ⟨rfl,rfl⟩];by_cases a0:a.m.length=0
 ·have e1:((a.m.length:Int)=0)=True:=tt;rw[if_pos (Or.inl a0)];simp only[iX,lD,af,ak,aG,go_sem,va,vb,e1]
 have e1:((a.m.length:Int)=0)=False:=ff;by_cases b0:b.m.length=0
 ·have e2:((b.m.length:Int)=0)=True:=tt;rw[if_pos (Or.inr b0)];simp only[iX,lD,af,ak,aG,go_sem,va,vb,e1,e2]
 have e2:((b.m.length:Int)=0)=False:=ff;rw[if_neg (fun h=>h.elim a0 b0)];obtain⟨a1,a2,a3,a4⟩:=dZ ha oa.lb;obtain⟨b1,b2,b3,b4⟩:=dZ hb ob.lb;have za:=wY oa.lb (ay3 a1 δ);have zb:=wY ob.lb (ay3 b1 δ);have pa:=fR (dv ha a0);have w1:IntKind.i64.wrap (((ae (ab a.m):Nat):Int)+(ae (ab b.m):Nat))=((ae (ab a.m)+ae (ab b.m):Nat):Int):=wi;have w2:IntKind.i64.wrap (((ae (ab a.m)+ae (ab b.m):Nat):Int)-1)=((ae (ab a.m)+ae (ab b.m)-1:Nat):Int):=wi;by_cases c0:4096<ae (ab a.m)+ae (ab b.m)-1
 ·have e3:((4096:Int)< ((ae (ab a.m)+ae (ab b.m)-1:Nat):Int))=True:=tt;rw[if_pos c0];simp only[iX,lD,af,ak,aG,go_sem,va,vb,e1,e2,za,zb,w1,w2,e3]
 have e3:((4096:Int)< ((ae (ab a.m)+ae (ab b.m)-1:Nat):Int))=False:=ff;rw[if_neg c0];have hp:=K5 (ab a.m) (ab b.m);have hl:(au (ab a.m*ab b.m)).length<=129:=aT ω;have hm:=aeA oa.lb ob.lb a1 b1;rw[lq,if_neg ω]at hm;have w3:IntKind.i64.wrap (a.e+b.e)=a.e+b.e:=i64_in _ ⟨by omega,by omega⟩;have hc:=oE (neg:=a.neg !=b.neg) (e:=a.e+b.e) (bg (ab a.m*ab b.m)) (ay3 hl δ) ⟨by omega,by omega⟩;rw[aN]at hc;have hd:=DZ (wZ (a.neg !=b.neg) (ab a.m*ab b.m) (a.e+b.e)) (ay3 (yY (k:=129) ω) δ);unfold I3;generalize br (a.neg !=b.neg) (ab a.m*ab b.m) (a.e+b.e)=d at hc hd⊢;simp only[af,ak]at hc hd;cases hv:qL (ae (ab d.m)) d.e with
 |false=>
  rw[hv,if_neg (fun h=>nomatch h)]at hd;rw[if_neg (fun h=>nomatch h)];simp only[iX,lD,af,ak,aG,go_sem,va,vb,e1,e2,za,zb,w1,w2,w3,e3,hm,AW,hc,hd]
 |true=>
  rw[hv,if_pos rfl]at hd;rw[if_pos rfl];simp only[iX,lD,af,ak,go_sem,va,vb,e1,e2,za,zb,w1,w2,w3,e3,hm,AW,hc,hd]
theorem PW{p:Int}:R F.round_precise [I p] []=some (B (decide (8<=p)&&decide (p<=512)),[]):=by
 refine av PH rfl ?_;by_cases a1:¬ (8<=p)
 ·simp only[sM,Ax,go_sem,a1]
 replace a1:=Decidable.not_not.1 a1
 simp only[sM,Ax,go_sem,a1]
theorem I4{m:List Nat}(hb:Lb m):ae (ab m)<=32*m.length:=by
 rw[bD,Nat.pow_mul];exact cW hb
def ye(m:List Nat)(e:Int)(more:Bool):AV:=.agg [lm m,I e,B more]
theorem aqa{d:Rd}:R F.round_of [af d] []=some (ye d.m d.e false,[]):=by
 refine av acG rfl ?_;simp only[Hd,Pq,af,ak,ye,go_sem]
theorem B0{m:List Nat}(hb:Lb m)(h1:m.length<=256){k:Nat}(hk:k<=65536)(hl:(au (ab m*2^k)).length<=256):R F.round_shl [lm m,I k] []=some (lm (au (ab m*2^k)),[]):=by
 refine av Zs rfl ?_;have hs:=aeB (n:=(k:Nat)) hb h1;rw[if_neg ω,ay4,lq,if_neg ω]at hs;simp only[E3,Nh,go_sem,hs]
theorem aeE{x y:Nat}:cw x y=0↔x=y:=by
 unfold cw;constructor
 ·intro h;split at h
  ·exact nomatch h
  ·split at h
   ·exact nomatch h
   ·omega
 ·intro h;rw[if_neg ω,if_neg ω]
theorem ahB{x n:Nat}:x/2^ (min n (ae x))=x/2^n/\(x/2^ (min n (ae x))*2^ (min n (ae x))=x↔x%2^n=0):=by
 by_cases h:n<=ae x
 ·rw[azS h];refine⟨rfl,?_⟩;have:=azV x (2^n);rw[azl]at this;omega
 ·have hb:x<2^ae x:=bD.1 (ayZ _);have hn:x<2^n:=bD.1 ω;rw[Nat.min_eq_right ω,Nat.div_eq_of_lt hb,Nat.div_eq_of_lt hn,azL hn,Nat.zero_mul];exact⟨rfl,⟨fun h=>h.symm,fun h=>h.symm⟩⟩
theorem Z5{m:List Nat}(hb:Lb m)(h1:m.length<=256){n:Nat}(hn:n<4611686018427387904):R F.round_shr [lm m,I n] []=some (.tup [lm (au (ab m/2^n)),B (decide (ab m%2^n≠0))],[]):=by
 refine av Zu rfl ?_;have hB:=HW hb (ay3 h1 δ);have hlen:=I4 hb;obtain⟨q1,q2⟩:=ahB (x:=ab m) (n:=n);generalize hk:min n (ae (ab m))=k at q1 q2;have k1:k<=8192:=ω
 have hs:=aeD (n:=(k:Nat)) hb h1;rw[if_neg ω,ay4,q1]at hs;rw[q1]at q2;have hle:ab m/2^n*2^k<=ab m:=by
  rw[←q1];exact Nat.div_mul_le_self _ _
 have l1:(au (ab m/2^n)).length<=m.length:=ko (azt (Nat.div_le_self _ _) (cW hb));have l2:(au (ab m/2^n*2^k)).length<=m.length:=ko (azt hle (cW hb));have hl:=B0 (bg (ab m/2^n)) ω (k:=k) ω (by rw[aN];omega);rw[aN]at hl;have hc:=AT (bg (ab m/2^n*2^k)) hb ω ω;rw[aN]at hc;have hz:decide (ab m%2^n≠0)=!decide (cw (ab m/2^n*2^k) (ab m)=0):=by
  rw[←decide_not,decide_eq_decide,ne_eq,not_congr (aeE.trans q2)]
 rw[hz];generalize cw (ab m/2^n*2^k) (ab m)=c at hc⊢;by_cases h:ae (ab m)<n
 ·have e2:k=ae (ab m):=ω
  have e1:((k:Int)<n)=True:=tt;rw[←e2]at hB;simp only[AL,He,go_sem,hB,e1,hs,hl,hc]
 ·have e1:(((ae (ab m):Nat):Int)<n)=False:=ff;have e2:k=n:=ω
  subst e2;simp only[AL,He,go_sem,hB,e1,hs,hl,hc]
def Fu(l:List Rd):List (List AV):=l.map ak
def CY(l:List Rd):AV:=.sl 3 (Fu l)
@[go_sem] theorem awv(l:List Rd):(Fu l).length=l.length:=by simp[Fu]
theorem aka{l:List Rd}{i:Int}{n:Nat}{d:Rd}(hi:i=n)(h:l[n]?=some d):aU (Fu l) i=some (.ipt (ak d)):=by
 grind[aU,Fu]
theorem acR(p:Int)(l:List Rd)(ok:∀d∈l,Ok0 d)(h2:l.length<=100000):∀ (k i:Nat),i+k=l.length->∀ (s:ai) (h:ac),s 0=I p->s 7=CY l->s 8=I l.length->s 9=I i->
  ∃hh,ah 0 [0] (aq (aj R (az false) nY) [0,7,8,9] [] s h)=if((l.drop i).all vd)=true then some (.normal,⟨upd (fun _=>.any) 0 (I p),fun _=>.dead⟩)else some (.ret,⟨upd (fun _=>.any) 4 (I 1),hh⟩):=by
 intro k;induction k with
 |zero=>
  intro i hi s h h0 h7 h8 h9;have e1:((i:Int)<l.length)=False:=ff;rw[azi ω,ag,azX,if_pos rfl];refine⟨fun _=>.dead,?_⟩;simp only[nY,go_sem,h0,h7,h8,h9,e1]
 |succ k ih=>
  intro i hi s h h0 h7 h8 h9;have hlt:i<l.length:=ω
  have e1:((i:Int)<l.length)=True:=tt;have e2:aU (Fu l) (i:Int)=some (.ipt (ak l[i])):=aka rfl (List.getElem?_eq_getElem hlt);have e5:IntKind.i64.wrap ((i:Int)+1)=((i+1:Nat):Int):=wi;have e3:=eF (ok l[i] (azo hlt));rw[azj hlt,azm,ag];have ih':=ih (i+1) ω;generalize l[i]=d at e2 e3⊢;simp only[af]at e3;simp only[ak]at e2 e3;cases hv:vd d with
  |false=>
   rw[hv]at e3;refine⟨?hh,?_⟩;rotate_left;simp only[nY,go_sem,h0,h7,h8,h9,CY,e1,e2,e3];rfl
  |true=>
   rw[hv]at e3;simp only[nY,go_sem,h0,h7,h8,h9,CY,e1,e2,e3,e5];exact ih' _ _ rfl rfl rfl rfl
def aY(p:Int)(l:List Rd):Int:=if l.all vd=true then(if 8<=p/\p<=512 then 0 else 2)else 1
theorem B1{p:Int}{l:List Rd}(ok:∀d∈l,Ok0 d)(h2:l.length<=100000):R F.round_fault [I p,CY l] []=some (I (aY p l),[]):=by
 refine av Um rfl ?_;have h3:=acR p l ok h2 l.length 0 (ayX _);simp only[azZ,azC]at h3;unfold aY;cases ha:l.all vd with
 |false=>
  rw[ha]at h3;simp only[rA,yq,go_sem,CY];rw[(h3 _ _ rfl rfl rfl rfl).choose_spec];simp only[go_sem]
 |true=>
  rw[ha]at h3;by_cases hp:8<=p/\p<=512
  ·have e1:(decide (8<=p)&&decide (p<=512))=true:=γ
   have e2:=PW (p:=p);rw[e1]at e2;rw[if_pos hp];simp only[rA,yq,go_sem,CY];rw[(h3 _ _ rfl rfl rfl rfl).choose_spec];simp only[go_sem,e2]
  ·have e1:(decide (8<=p)&&decide (p<=512))=false:=by
    grind
   have e2:=PW (p:=p);rw[e1]at e2;rw[if_neg hp];simp only[rA,yq,go_sem,CY];rw[(h3 _ _ rfl rfl rfl rfl).choose_spec];simp only[go_sem,e2]
noncomputable def eS:Cmd:=.seq (.seq (.ops [1,2,6,8,9,55] [cm 52 2,cm 53 52,cg 54 53 true (.mv (.t 10)),co 55 (.pick (.t 53) (.t 54) (.c (.v (.bool false))))]) (.cond (.t 55) (.ops [1,2,6,8,9] [cm 57 9,⟨(some 58),none,.buildSl 1 [(.v (.int .u32 0))] 1 [(0,(.c (.v (.int .u32 1))))]⟩,⟨(some 59),none,.call (.c (.fn F.natural_Add [] [])) [(.t 57),(.t 58)]⟩,cm 56 59,co 60 (.ext 0 (.t 56)),co 61 (.ext 1 (.t 56)),cm 9 60]) (.skip))) (.seq (.seq (.ops [1,2,6,8,9,66] [cm 62 9,⟨(some 63),none,.call (.c (.fn F.natural_Bits [] [])) [(.t 62)]⟩,cm 64 8,co 65 (.bin .add (.t 63) (.t 64)),co 66 (.bin .gtr (.t 65) (.c (.v (.int .i64 16384))))]) (.cond (.t 66) (.seq (.seq (.ops [1,6,67] [cm 67 2]) (.cond (.t 67) (.seq (.ops [6,7] [co 68 (.build [(.v (.bool false)),.emp,(.v (.int .i64 0))] []),⟨none,none,.store 3 (.t 6) (.t 68)⟩,co 7 (.mv (.c (.v (.int .i64 9))))]) (.ret)) (.skip))) (.seq (.ops [1,6,9] [⟨(some 70),none,.buildSl 1 [(.v (.int .u32 0))] 1 [(0,(.c (.v (.int .u32 1))))]⟩,cm 71 1,⟨(some 72),none,.call (.c (.fn F.round_shl [] [])) [(.t 70),(.t 71)]⟩,⟨(some 73),none,.buildSl 1 [(.v (.int .u32 0))] 1 [(0,(.c (.v (.int .u32 1))))]⟩,⟨(some 74),none,.call (.c (.fn F.natural_Sub [] [])) [(.t 72),(.t 73)]⟩,cm 69 74,co 75 (.ext 0 (.t 69)),co 76 (.ext 1 (.t 69)),cm 9 75]) (.ops [6,8,9] [cm 77 1,co 78 (.bin .sub (.c (.v (.int .i64 16384))) (.t 77)),cm 8 78]))) (.skip))) (.seq (.ops [6,7] [cm 79 9,cm 80 8,⟨(some 81),none,.call (.c (.fn F.dyadic_Make [] [])) [(.c (.v (.bool false))),(.t 79),(.t 80)]⟩,co 82 (.ext 0 (.t 81)),co 83 (.ext 1 (.t 81)),⟨none,none,.store 3 (.t 6) (.t 82)⟩,cm 7 83]) (.ret)))
theorem y5:Ni=.seq (.ops [1,2,3,6] [⟨(some 3),none,.box 3 (.t 0)⟩,⟨(some 6),none,.alloc [(.v (.bool false)),.emp,(.v (.int .i64 0))]⟩,co 7 (.mv (.c (.v (.int .i64 0))))]) (.seq (.dops [1,2,3,6,8] [co 13 (.fadr 1 (.t 3)),⟨(some 14),none,.load 1 false (.t 13)⟩,co 15 (.fadr 0 (.t 3)),⟨(some 16),none,.load 1 false (.t 15)⟩,⟨(some 17),none,.call (.c (.fn F.natural_Bits [] [])) [(.t 16)]⟩,co 18 (.bin .add (.t 14) (.t 17)),cm 19 1,co 20 (.bin .sub (.t 18) (.t 19)),co 21 (.mnx false (.t 20) [(.c (.v (.int .i64 (-16384))))]),cm 8 21] [(1,4)]) (.seq (.dops [1,2,3,6,8,10] [co 22 (.fadr 0 (.t 3)),⟨(some 23),none,.load 1 false (.t 22)⟩,co 24 (.fadr 2 (.t 3)),⟨(some 25),none,.load 1 false (.t 24)⟩,cm 9 23,cm 10 25] []) (.seq (.seq (.ops [1,2,3,6,8,10,29] [co 26 (.fadr 1 (.t 3)),⟨(some 27),none,.load 1 false (.t 26)⟩,cm 28 8,co 29 (.bin .geq (.t 27) (.t 28))]) (.cond (.t 29) (.ops [1,2,6,8,9,10] [co 30 (.fadr 0 (.t 3)),⟨(some 31),none,.load 1 false (.t 30)⟩,co 32 (.fadr 1 (.t 3)),⟨(some 33),none,.load 1 false (.t 32)⟩,cm 34 8,co 35 (.bin .sub (.t 33) (.t 34)),⟨(some 36),none,.call (.c (.fn F.round_shl [] [])) [(.t 31),(.t 35)]⟩,cm 9 36]) (.seq (.ops [1,2,6,8,10,11,12] [co 38 (.fadr 0 (.t 3)),⟨(some 39),none,.load 1 false (.t 38)⟩,cm 40 8,co 41 (.fadr 1 (.t 3)),⟨(some 42),none,.load 1 false (.t 41)⟩,co 43 (.bin .sub (.t 40) (.t 42)),⟨(some 44),none,.call (.c (.fn F.round_shr [] [])) [(.t 39),(.t 43)]⟩,cm 37 44,co 45 (.ext 0 (.t 37)),co 46 (.ext 1 (.t 37)),cm 11 45,cm 12 46]) (.ops [1,2,6,8,9,10] [cm 47 11,cm 48 10,cm 49 48,cg 50 49 false (.mv (.t 12)),co 51 (.pick (.t 49) (.c (.v (.bool true))) (.t 50)),cm 9 47,cm 10 51])))) eS))):=rfl
def fy(M:Nat)(e:Int)(p:Int):Int:=if e+(ae M:Nat)-p< -16384 then-16384 else e+(ae M:Nat)-p
def rS(M:Nat)(e:Int)(more:Bool)(u:Int):Nat×Bool:=if u<=e then(M*2^ (e-u).toNat,more)else(M/2^ (u-e).toNat,more||decide (M%2^ (u-e).toNat≠0))
def nj(up:Bool)(q:Nat×Bool):Nat:=if(up&&q.2)=true then q.1+1 else q.1
def D3(q:Nat)(u:Int):AV:=I3 (br false q u)
def Xf(p:Int)(up:Bool)(q:Nat)(u:Int):AV:=if 16384< (ae q:Nat)+u then(if up=true then .tup [af aG,I 9]else D3 (2^p.toNat-1) (16384-p))else D3 q u
theorem Z6{q:Nat}{u:Int}(hq:ae q<=8192)(h1:-32768<=u)(h2:u<=32768):R F.dyadic_Make [B false,lm (au q),I u] []=some (D3 q u,[]):=by
 have hl:(au q).length<=256:=aT ω;rw[aj8 (bg q) (azt hl δ),if_neg ω,aN];rfl
theorem aeF{q:Nat}(hq:ae q<=8000):R F.natural_Add [lm (au q),lm [1]] []=some (.tup [lm (au (q+1)),I 0],[]):=by
 have hl:(au q).length<=250:=aT ω;have h1:Lb [1]:=fun x hx=>by
  grind
 have h2:ae (q+1)<=8001:=N7 hq;have hl2:(au (q+1)).length<=256:=aT ω;rw[aet (bg q) h1 ω δ,aN];show some (lq (q+1),[])=_
 simp_all[lq,if_neg]
theorem Z7:ab [1]=1:=rfl
theorem aeG:Lb [1]:=fun x hx=>by
 grind
theorem am3(n:Nat)(hn:n<=1000):R F.round_shl [lm [1],I (n:Nat)] []=some (lm (au (2^n)),[])/\R F.natural_Sub [lm (au (2^n)),lm [1]] []=some (.tup [lm (au (2^n-1)),I 0],[]):=by
 have hb:ae (2^n)<=n+1:=by
  simp_all[bD,Nat.pow_lt_pow_right,Nat.lt_succ_self]
 have h1:(au (2^n)).length<=256:=aT ω;have h2:=B0 aeG δ (k:=n) ω (by simp_all[Z7,Nat.one_mul]);have h3:=aev (bg (2^n)) aeG h1 δ;have h4:0<2^n:=aze n;have h5:ae (2^n-1)<=n:=by
  rw[bD];omega
 have h6:(au (2^n-1)).length<=256:=aT ω
 simp_all[aN,Z7,if_neg,lq]
theorem Fv:AV.sl 1 [[AV.v (.int .u32 1)]]=lm [1]:=rfl
theorem Oa{n:Nat}{u:Int}{up more:Bool}{q:Nat}(hp:8<=n/\n<=512)(hq:ae q<=7000)(hu:-16384<=u/\u<=60000)(s:ai)(z:Ob)
  (h1:s 1=I (n:Nat)) (h2:s 2=B up) (h6:s 6=.ref 6 none 0 0 0) (h8:s 8=I u) (h9:s 9=lm (au q)) (h10:s 10=B more):
  je false [[.o 0 [],.o 2 [],.o 0 []],[]] [.cell 6 3 true,.t 7] 0 (aj R (az false) eS s (upd (upd (fun _=>.dead) 3 z) 6 (.bx [.v (.bool false),.emp,.v (.int .i64 0)])))=some (Xf (n:Nat) up (nj up (q,more)) u,[]):=by
 have hi:=aeF (q:=q) ω;obtain⟨t1,t2⟩:=am3 n ω;have hb:ae (nj up (q,more))<=7001:=by
  unfold nj;split
  ·exact N7 hq
  grind
 have hB:=HW (bg (nj up (q,more))) (ay3 (aT (k:=256) ω) δ);rw[aN]at hB;have w1:IntKind.i64.wrap (((ae (nj up (q,more)):Nat):Int)+u)=((ae (nj up (q,more)):Nat):Int)+u:=i64_in _ ⟨by omega,by omega⟩;have w2:IntKind.i64.wrap (16384- (n:Int))=16384- (n:Int):=i64_in _ ⟨by omega,by omega⟩;have hm2:R F.dyadic_Make [B false,lm (au (2^n-1)),I (16384- (n:Int))] []=some (D3 (2^n-1) (16384- (n:Int)),[]):=Z6 (ahw ω) ω ω;unfold Xf;by_cases ho:16384< ((ae (nj up (q,more)):Nat):Int)+u
 ·have e1:(16384< ((ae (nj up (q,more)):Nat):Int)+u)=True:=tt ho;rw[if_pos ho,ay4];clear ho hb;cases up with
  |false=>
   simp only[nj,ay6,if_neg ay9]at hB w1 e1⊢;unfold D3 I3 at hm2⊢;generalize br false (2^n-1) (16384- (n:Int))=dd at hm2⊢;simp only[af,ak]at hm2;cases hv:qL (ae (ab dd.m)) dd.e with
   |true=>
    rw[hv]at hm2;rw[if_pos rfl]at hm2⊢;simp only[eS,af,ak,go_sem,h1,h2,h6,h8,h9,h10,hB,w1,e1,w2,t1,t2,Fv,hm2]
   |false=>
    rw[hv]at hm2;simp only[eS,af,ak,aG,go_sem,h1,h2,h6,h8,h9,h10,hB,w1,e1,w2,t1,t2,Fv,hm2]
  |true=>
   cases more with
   |false=>
    simp only[nj,az3,if_neg ay9]at hB w1 e1⊢;simp only[eS,af,ak,aG,go_sem,h1,h2,h6,h8,h9,h10,hB,w1,e1]
   |true=>
    simp only[nj,az1,if_true]at hB w1 e1⊢;simp only[eS,af,ak,aG,go_sem,h1,h2,h6,h8,h9,h10,hB,w1,e1,hi,Fv]
 ·have e1:(16384< ((ae (nj up (q,more)):Nat):Int)+u)=False:=ff ho;rw[if_neg ho];have hm:=Z6 (q:=nj up (q,more)) (u:=u) ω ω ω;clear ho hb;cases up with
  |false=>
   simp only[nj,ay6,if_neg ay9]at hB w1 e1 hm⊢;unfold D3 I3 at hm⊢;generalize br false q u=dd at hm⊢;simp only[af,ak]at hm;cases hv:qL (ae (ab dd.m)) dd.e with
   |true=>
    rw[hv]at hm;rw[if_pos rfl]at hm⊢;simp only[eS,af,ak,go_sem,h1,h2,h6,h8,h9,h10,hB,w1,e1,hm]
   |false=>
    rw[hv]at hm;simp only[eS,af,ak,aG,go_sem,h1,h2,h6,h8,h9,h10,hB,w1,e1,hm]
  |true=>
   cases more with
   |false=>
    simp only[nj,az3,if_neg ay9]at hB w1 e1 hm⊢;unfold D3 I3 at hm⊢;generalize br false q u=dd at hm⊢;simp only[af,ak]at hm;cases hv:qL (ae (ab dd.m)) dd.e with
    |true=>
     rw[hv]at hm;rw[if_pos rfl]at hm⊢;simp only[eS,af,ak,go_sem,h1,h2,h6,h8,h9,h10,hB,w1,e1,hm]
    |false=>
     rw[hv]at hm;simp only[eS,af,ak,aG,go_sem,h1,h2,h6,h8,h9,h10,hB,w1,e1,hm]
   |true=>
    simp only[nj,az1,if_true]at hB w1 e1 hm⊢;unfold D3 I3 at hm⊢;generalize br false (q+1) u=dd at hm⊢;simp only[af,ak]at hm;cases hv:qL (ae (ab dd.m)) dd.e with
    |true=>
     rw[hv]at hm;rw[if_pos rfl]at hm⊢;simp only[eS,af,ak,go_sem,h1,h2,h6,h8,h9,h10,hB,w1,e1,hi,Fv,hm]
    |false=>
     rw[hv]at hm;simp only[eS,af,ak,aG,go_sem,h1,h2,h6,h8,h9,h10,hB,w1,e1,hi,Fv,hm]
theorem am4{M:List Nat}(hb:Lb M)(hl:M.length<=256){e:Int}{n:Nat}{more up:Bool}(he:-40000<=e/\e<=40000)(hp:8<=n/\n<=512):R F.round_cut [ye M e more,I (n:Nat),B up] []=some (Xf (n:Nat) up (nj up (rS (ab M) e more (fy (ab M) e (n:Nat)))) (fy (ab M) e (n:Nat)),[]):=by
 refine av Zv rfl ?_;have hB:=HW hb (ay3 hl δ);have hlen:=I4 hb;have w1:IntKind.i64.wrap (e+(ae (ab M):Nat))=e+(ae (ab M):Nat):=i64_in _ ⟨by omega,by omega⟩;have w2:IntKind.i64.wrap (e+(ae (ab M):Nat)- (n:Nat))=e+(ae (ab M):Nat)- (n:Nat):=i64_in _ ⟨by omega,by omega⟩;obtain⟨u,hu⟩:∃u,fy (ab M) e (n:Nat)=u:=⟨_,rfl⟩;rw[hu];unfold fy at hu;unfold rS;by_cases hc:u<=e
 ·have e1:(u<=e)=True:=tt hc;rw[if_pos hc];have w3:IntKind.i64.wrap (e-u)=(((e-u).toNat:Nat):Int):=wi;have hq:ae (ab M*2^ (e-u).toNat)<=7000:=by
   grind[dA]
  by_cases h64:(e-u).toNat<=65536
  ·have hs:=B0 hb ω (k:=(e-u).toNat) h64 (aT ω);simp only[vP,y5,ye,go_sem,hB,w1,w2,hu,e1,w3,hs];exact Oa hp hq ω _ _ rfl rfl rfl rfl rfl rfl
  omega
 ·have e1:(u<=e)=False:=ff hc;rw[if_neg hc];have w3:IntKind.i64.wrap (u-e)=(((u-e).toNat:Nat):Int):=wi;have hs:=Z5 hb ω (n:=(u-e).toNat) ω;have hq:ae (ab M/2^ (u-e).toNat)<=7000:=by
   grind[mu]
  cases more with
  |false=>
   rw[Bool.false_or];simp only[vP,y5,ye,go_sem,hB,w1,w2,hu,e1,w3,hs];exact Oa hp hq ω _ _ rfl rfl rfl rfl rfl rfl
  |true=>
   rw[Bool.true_or];simp only[vP,y5,ye,go_sem,hB,w1,w2,hu,e1,w3,hs];exact Oa hp hq ω _ _ rfl rfl rfl rfl rfl rfl
def cK(d:Rd):Rd×Int:=if qL (ae (ab d.m)) d.e=true then(d,0)else(aG,9)
def uC(p:Int)(up:Bool)(q:Nat)(u:Int):Rd×Int:=if 16384< (ae q:Nat)+u then(if up=true then(aG,9)else cK (br false (2^p.toNat-1) (16384-p)))else cK (br false q u)
def rV(r:Rd×Int):AV:=.tup [af r.1,I r.2]
theorem L5(d:Rd):I3 d=rV (cK d):=by
 unfold I3 cK;split<;>rfl
theorem akb(p:Int)(up:Bool)(q:Nat)(u:Int):Xf p up q u=rV (uC p up q u):=by
 unfold Xf uC D3;split
 ·split
  ·rfl
  grind[L5]
 grind[L5]
theorem Xg(n:Nat):ae (2^n-1)<=n:=by
 rw[bD];grind
theorem akc(p:Int)(up:Bool)(q:Nat)(u:Int):Lb (uC p up q u).1.m:=by
 have h0:Lb aG.m:=fun x hx=>nomatch hx
 grind[Lb,cK,uC,wZ]
theorem ahC(p:Int)(up:Bool)(q:Nat)(u:Int)(hp:p.toNat<=8000)(hq:ae q<=8000):(uC p up q u).1.m.length<=256:=by
 have h0:aG.m.length<=256:=azH _;have hc:∀d:Rd,d.m.length<=256->(cK d).1.m.length<=256:=fun d hd=>by
  grind[cK]
 grind[uC,yY,ay3,Xg]
def go(d:Rd):Rd:=if vd d=false\/d.m.length=0 then aG else⟨!d.neg,d.m,d.e⟩
def cQ(M:Nat)(e:Int)(more:Bool)(p:Int)(up:Bool):Rd×Int:=uC p up (nj up (rS M e more (fy M e p))) (fy M e p)
def iw(neg:Bool)(r:Rd×Int):Rd×Int:=if r.2=0/\neg=true then(go r.1,r.2)else r
theorem aeH{M:Nat}{e:Int}{more up:Bool}{n:Nat}(hM:ae M<=8192)(hp:8<=n/\n<=512)(he:-40000<=e/\e<=40000):ae (nj up (rS M e more (fy M e (n:Nat))))<=7001:=by
 have hq:ae (rS M e more (fy M e (n:Nat))).1<=7000:=by
  obtain⟨u,hu⟩:∃u,fy M e (n:Nat)=u:=⟨_,rfl⟩;rw[hu];unfold fy at hu;unfold rS;split
  ·grind[dA]
  grind[mu]
 unfold nj;split
 ·exact N7 hq
 omega
theorem GB{M:List Nat}(hb:Lb M)(hl:M.length<=256){e:Int}{n:Nat}{more up neg:Bool}(he:-40000<=e/\e<=40000)(hp:8<=n/\n<=512):R F.round_signed [B neg,ye M e more,I (n:Nat),B up] []=some (rV (iw neg (cQ (ab M) e more (n:Nat) (up !=neg))),[]):=by
 refine av Rg rfl ?_;have hc:=am4 (more:=more) (up:=up !=neg) hb hl he hp;have hlen:=I4 hb;have hB:=aeH (M:=ab M) (e:=e) (more:=more) (up:=up !=neg) ω hp he;rw[akb]at hc;have hL:=akc (n:Nat) (up !=neg) (nj (up !=neg) (rS (ab M) e more (fy (ab M) e (n:Nat)))) (fy (ab M) e (n:Nat));have hN:=ahC (n:Nat) (up !=neg) (nj (up !=neg) (rS (ab M) e more (fy (ab M) e (n:Nat)))) (fy (ab M) e (n:Nat)) ω ω;unfold cQ;generalize uC (n:Nat) (up !=neg) (nj (up !=neg) (rS (ab M) e more (fy (ab M) e (n:Nat)))) (fy (ab M) e (n:Nat))=r at hc hL hN⊢;obtain⟨d,x⟩:=r;have hn:=Fr (d:=d) ⟨hL,azt hN δ⟩;simp only[rV,af,ak,ye]at hc hn;unfold iw go;by_cases hx:x=0
 ·have e1:(x=0)=True:=tt hx;cases neg with
  |false=>
   simp only[pZ,wL,rV,af,ak,ye,go_sem,AW,hc,e1]
  |true=>
   simp only[pZ,wL,rV,af,ak,ye,go_sem,AW,hc,e1,hn]
 ·have e1:(x=0)=False:=ff hx;simp only[pZ,wL,rV,af,ak,ye,go_sem,AW,hc,e1]
def tZ(d:Rd)(p:Int)(up:Bool):Rd×Int:=if aY p [d]=0 then iw d.neg (cQ (ab d.m) d.e false p (up !=d.neg))else(aG,aY p [d])
theorem vZ{p:Int}{l:List Rd}(h:aY p l=0):l.all vd=true/\8<=p/\p<=512:=by
 unfold aY at h;split at h
 ·rename_i h1;split at h
  ·rename_i h2;exact⟨h1,h2⟩
  ·exact nomatch h
 ·exact nomatch h
theorem AX{d:Rd}(h:vd d=true)(hb:Lb d.m):d.m.length<=128:=by
 obtain⟨h1,h2,h3,h4⟩:=dZ h hb;by_cases h0:d.m.length=0
 ·omega
 obtain⟨g1,g2,g3,g4⟩:=AU h h0;have h5:4294967296^ (d.m.length-1)<=ab d.m:=by
  have h6:=JX (a:=d.m) (i:=d.m.length-1) ω;rw[show d.m.length-1+1=d.m.length by omega,List.take_length]at h6;rw[h6];exact ay3 (Nat.le_mul_of_pos_right _ (Nat.pos_of_ne_zero g3)) (Nat.le_add_left _ _)
 have h7:32*(d.m.length-1)<ae (ab d.m):=by
  rw[kf,Nat.pow_mul];exact h5
 omega
theorem I5{d:Rd}(ok:Ok0 d){p:Int}{up:Bool}:R F.round_round [af d,I p,B up] []=some (rV (tZ d p up),[]):=by
 refine av UB rfl ?_;have hf:R F.round_fault [I p,.sl 3 [[B d.neg,lm d.m,I d.e]]] []=some (I (aY p [d]),[]):=B1 (p:=p) (l:=[d]) (fun x hx=>by rw[List.mem_singleton.1 hx];exact ok) (show 1<=100000 by decide);unfold tZ;by_cases h0:aY p [d]=0
 ·obtain⟨v1,v2,v3⟩:=vZ h0;have v4:vd d=true:=by simpa using v1
  obtain⟨h1,h2,h3,h4⟩:=dZ v4 ok.lb;have h5:=AX v4 ok.lb;rw[if_pos h0];rw[h0]at hf;obtain⟨n,rfl⟩:=az4 (show 0<=p by omega);have hs:=GB (M:=d.m) (e:=d.e) (n:=n) (more:=false) (up:=up) (neg:=d.neg) ok.lb ω ⟨by omega,by omega⟩ ⟨by omega,by omega⟩;have ho:=aqa (d:=d);generalize iw d.neg (cQ (ab d.m) d.e false (n:Nat) (up !=d.neg))=r at hs⊢;simp only[rV,af,ak,ye]at hs ho;simp only[wK,Do,rV,af,ak,go_sem,hf,hs,ho]
 ·have e1:(aY p [d]=0)=False:=ff h0;rw[if_neg h0];simp only[wK,Do,rV,af,ak,aG,go_sem,hf,e1]
theorem am5{d:Rd}(ok:Ok0 d){p:Int}:R F.round_Up [af d,I p] []=some (rV (tZ d p true),[]):=by
 refine av acF rfl ?_;have hr:=I5 ok (p:=p) (up:=true);generalize tZ d p true=r at hr⊢;simp only[rV,af,ak]at hr;simp only[Hc,Pp,rV,af,ak,go_sem,hr]
theorem ahD{d:Rd}(ok:Ok0 d){p:Int}:R F.round_Down [af d,I p] []=some (rV (tZ d p false),[]):=by
 refine av WN rfl ?_;have hr:=I5 ok (p:=p) (up:=false);generalize tZ d p false=r at hr⊢;simp only[rV,af,ak]at hr;simp only[Dq,KM,rV,af,ak,go_sem,hr]
def K6(a b:Rd)(p:Int)(up:Bool):Rd×Int:=if aY p [a,b]=0 then(if a.m.length=0\/b.m.length=0 then(aG,0)else iw (a.neg !=b.neg) (cQ (ab a.m*ab b.m) (a.e+b.e) false p (up != (a.neg !=b.neg))))else(aG,aY p [a,b])
theorem Z8{a b:Rd}(oa:Ok0 a)(ob:Ok0 b){p:Int}{up:Bool}:R F.round_mul [af a,af b,I p,B up] []=some (rV (K6 a b p up),[]):=by
 refine av Zn rfl ?_;have hf:R F.round_fault [I p,.sl 3 [[B a.neg,lm a.m,I a.e],[B b.neg,lm b.m,I b.e]]] []=some (I (aY p [a,b]),[]):=B1 (p:=p) (l:=[a,b]) (fun x hx=>by
  rcases List.mem_cons.1 hx with h|h
  ·rw[h];exact oa
  ·rw[List.mem_singleton.1 h];exact ob) (show 2<=100000 by decide)
 unfold K6;by_cases h0:aY p [a,b]=0
 ·obtain⟨v1,v2,v3⟩:=vZ h0;have v4:vd a=true/\vd b=true:=by simpa using v1
  obtain⟨va,vb⟩:=v4;obtain⟨a1,a2,a3,a4⟩:=dZ va oa.lb;obtain⟨b1,b2,b3,b4⟩:=dZ vb ob.lb;rw[if_pos h0];rw[h0]at hf;by_cases a0:a.m.length=0
  ·have e1:((a.m.length:Int)=0)=True:=tt;rw[if_pos (Or.inl a0)];simp only[rD,xY,rV,af,ak,aG,go_sem,hf,e1]
  have e1:((a.m.length:Int)=0)=False:=ff;by_cases b0:b.m.length=0
  ·have e2:((b.m.length:Int)=0)=True:=tt;rw[if_pos (Or.inr b0)];simp only[rD,xY,rV,af,ak,aG,go_sem,hf,e1,e2]
  have e2:((b.m.length:Int)=0)=False:=ff;rw[if_neg (fun h=>h.elim a0 b0)];obtain⟨n,rfl⟩:=az4 (show 0<=p by omega);have hp:=K5 (ab a.m) (ab b.m);have hl:(au (ab a.m*ab b.m)).length<=256:=aT ω;have hm:=aeA oa.lb ob.lb a1 b1;rw[lq,if_neg ω]at hm;have w3:IntKind.i64.wrap (a.e+b.e)=a.e+b.e:=i64_in _ ⟨by omega,by omega⟩;have hs:=GB (M:=au (ab a.m*ab b.m)) (e:=a.e+b.e) (n:=n) (more:=false) (up:=up) (neg:=a.neg !=b.neg) (bg _) hl ⟨by omega,by omega⟩ ⟨by omega,by omega⟩;rw[aN]at hs;generalize iw (a.neg !=b.neg) (cQ (ab a.m*ab b.m) (a.e+b.e) false (n:Nat) (up != (a.neg !=b.neg)))=r at hs⊢;simp only[rV,af,ak,ye]at hs;simp only[rD,xY,rV,af,ak,go_sem,hf,e1,e2,hm,w3,AW,hs]
 ·have e1:(aY p [a,b]=0)=False:=ff h0;rw[if_neg h0];simp only[rD,xY,rV,af,ak,aG,go_sem,hf,e1]
theorem ahE{a b:Rd}(oa:Ok0 a)(ob:Ok0 b){p:Int}:R F.round_MulUp [af a,af b,I p] []=some (rV (K6 a b p true),[]):=by
 refine av tV rfl ?_;have hr:=Z8 oa ob (p:=p) (up:=true);generalize K6 a b p true=r at hr⊢;simp only[rV,af,ak]at hr;simp only[BD,JF,rV,af,ak,go_sem,hr]
theorem acS{a b:Rd}(oa:Ok0 a)(ob:Ok0 b){p:Int}:R F.round_MulDown [af a,af b,I p] []=some (rV (K6 a b p false),[]):=by
 refine av qj rfl ?_;have hr:=Z8 oa ob (p:=p) (up:=false);generalize K6 a b p false=r at hr⊢;simp only[rV,af,ak]at hr;simp only[yM,Gl,rV,af,ak,go_sem,hr]
theorem Fw{n:Int}(hn:Xc n):R F.dyadic_Int [I n] []=some (af (br (decide (n<0)) n.natAbs 0),[]):=by
 refine av Ws rfl ?_;obtain⟨h1,h2⟩:=hn;obtain⟨x,hx⟩:∃x:Nat,n.natAbs=x:=⟨_,rfl⟩;have hv:ab [x%4294967296,x/4294967296]=x:=by
  show x%4294967296+4294967296*(x/4294967296+4294967296*0)=x;omega
 have hL:Lb [x%4294967296,x/4294967296]:=fun y hy=>by
  rcases List.mem_cons.1 hy with h|h
  ·omega
  ·rw[List.mem_singleton.1 h];omega
 have hc:∀neg,R F.dyadic_canonical [B neg,.sl 1 [[.v (.int .u32 ((x%4294967296:Nat):Int))],[.v (.int .u32 ((x/4294967296:Nat):Int))]],I 0] []=some (af (br neg x 0),[]):=fun neg=>by
  have:=oE (neg:=neg) (e:=0) hL (by show 2<=256;decide) ⟨by decide,by decide⟩;rw[hv]at this;exact this
 have w2:IntKind.u32.wrap (x:Int)=((x%4294967296:Nat):Int):=IY rfl;have w3:IntKind.u32.wrap ((x/4294967296:Nat):Int)=((x/4294967296:Nat):Int):=DK rfl ω;have w4:dq .shr (.v (.int .u64 (x:Int))) (.v (.int .u64 32))=some (.v (.int .u64 ((x/4294967296:Nat):Int))):=sW (k:=32) rfl rfl δ;rw[hx];by_cases h0:n<0
 ·have e1:(n<0)=True:=tt h0;have w5:IntKind.u64.wrap (0-IntKind.u64.wrap n)=(x:Int):=by
   have q:∀z:Int,IntKind.u64.wrap z=z%18446744073709551616:=fun z=>rfl;rw[q,q];omega
  have hc':=hc (decide (n<0));generalize br (decide (n<0)) x 0=d at hc'⊢;rw[decide_eq_true h0]at hc';simp only[af,ak]at hc';simp only[yn,EM,af,ak,go_sem,e1,w2,w3,w4,w5,hc']
 ·have e1:(n<0)=False:=ff h0;have w5:IntKind.u64.wrap n=(x:Int):=dK ω ω;have hc':=hc (decide (n<0));generalize br (decide (n<0)) x 0=d at hc'⊢;rw[decide_eq_false h0]at hc';simp only[af,ak]at hc';simp only[yn,EM,af,ak,go_sem,e1,w2,w3,w4,w5,hc']
def xN(a b:Rd)(p:Int):Int:=
 if aX a-aX b<=2 then(if b.e< (if aX a-p-8<a.e then aX a-p-8 else a.e)then b.e else(if aX a-p-8<a.e then aX a-p-8 else a.e))
 else(if aX a-p-8<a.e then aX a-p-8 else a.e)
def yZ(b:Rd)(l:Int):Nat×Bool:=if l<=b.e then(ab b.m*2^ (b.e-l).toNat,false)else(ab b.m/2^ (l-b.e).toNat,decide (ab b.m%2^ (l-b.e).toNat≠0))
def uW(y:Nat×Bool):Nat:=if y.2=true then y.1+1 else y.1
def Dx(a b:Rd)(p:Int):(Nat×Int×Bool)×Bool:=
 let l:=xN a b p
 let x:=ab a.m*2^ (a.e-l).toNat
 let y:=yZ b l
 if a.neg=b.neg then((x+y.1,l,y.2),false)
 else if x<uW y then((uW y-x,l,false),true)
 else((x-uW y,l,y.2),false)
theorem RI{a b:Rd}{p:Int}:xN a b p<=a.e:=by
 unfold xN;have h:(if aX a-p-8<a.e then aX a-p-8 else a.e)<=a.e:=by
  split<;>omega
 generalize(if aX a-p-8<a.e then aX a-p-8 else a.e)=z at h⊢;split
 ·split<;>omega
 ·exact h
theorem ji{d:Rd}(h:vd d=true)(h0:d.m.length≠0):aX d=(ae (ab d.m):Nat)+d.e:=by
 rw[aX,if_neg (fun h'=>h'.elim (fun h''=>by rw[h]at h'';exact nomatch h'') h0)]
theorem Oc{a b:Rd}{p:Int}(va:vd a=true)(vb:vd b=true)(la:Lb a.m)(lb:Lb b.m)(na:a.m.length≠0)(nb:b.m.length≠0)(hp:8<=p/\p<=512)(ht:aX b<=aX a):
  aX a-xN a b p<=4098:=by
 obtain⟨a1,a2,a3,a4⟩:=dZ va la;obtain⟨b1,b2,b3,b4⟩:=dZ vb lb;have e1:=ji va na;have e2:=ji vb nb;unfold xN;have h:aX a- (if aX a-p-8<a.e then aX a-p-8 else a.e)<=4098:=by
  split<;>omega
 generalize(if aX a-p-8<a.e then aX a-p-8 else a.e)=z at h⊢;split
 ·split<;>omega
 ·exact h
noncomputable def my:Cmd:=.seq (.seq (.ops [6,8,9,10,11,68] [co 64 (.fadr 0 (.t 3)),⟨(some 65),none,.load 1 false (.t 64)⟩,co 66 (.fadr 0 (.t 4)),⟨(some 67),none,.load 1 false (.t 66)⟩,co 68 (.eqc false 0 (.t 65) (.t 67))]) (.cond (.t 68) (.seq (.ops [6,8,11,12] [cm 70 9,cm 71 10,⟨(some 72),none,.call (.c (.fn F.natural_Add [] [])) [(.t 70),(.t 71)]⟩,cm 69 72,co 73 (.ext 0 (.t 69)),co 74 (.ext 1 (.t 69)),cm 12 73,cm 13 74]) (.seq (.ops [6,7] [cm 75 12,cm 76 8,cm 77 11,co 78 (.build [.emp,(.v (.int .i64 0)),(.v (.bool false))] [(0,1,(.t 75)),(1,1,(.t 76)),(2,1,(.t 77))]),⟨none,none,.store 3 (.t 6) (.t 78)⟩,co 7 (.mv (.c (.v (.bool false))))]) (.ret))) (.skip))) (.seq (.seq (.ops [6,8,9,10,11,79] [cm 79 11]) (.cond (.t 79) (.ops [6,8,9,10,11] [cm 81 10,⟨(some 82),none,.buildSl 1 [(.v (.int .u32 0))] 1 [(0,(.c (.v (.int .u32 1))))]⟩,⟨(some 83),none,.call (.c (.fn F.natural_Add [] [])) [(.t 81),(.t 82)]⟩,cm 80 83,co 84 (.ext 0 (.t 80)),co 85 (.ext 1 (.t 80)),cm 10 84]) (.skip))) (.seq (.seq (.ops [6,8,9,10,11,89] [cm 86 9,cm 87 10,⟨(some 88),none,.call (.c (.fn F.natural_Cmp [] [])) [(.t 86),(.t 87)]⟩,co 89 (.bin .lss (.t 88) (.c (.v (.int .i64 0))))]) (.cond (.t 89) (.seq (.ops [6,8,14] [cm 91 10,cm 92 9,⟨(some 93),none,.call (.c (.fn F.natural_Sub [] [])) [(.t 91),(.t 92)]⟩,cm 90 93,co 94 (.ext 0 (.t 90)),co 95 (.ext 1 (.t 90)),cm 14 94,cm 15 95]) (.seq (.ops [6,7] [cm 96 14,cm 97 8,co 98 (.build [.emp,(.v (.int .i64 0)),(.v (.bool false))] [(0,1,(.t 96)),(1,1,(.t 97)),(2,1,(.c (.v (.bool false))))]),⟨none,none,.store 3 (.t 6) (.t 98)⟩,co 7 (.mv (.c (.v (.bool true))))]) (.ret))) (.skip))) (.seq (.ops [6,8,11,16] [cm 100 9,cm 101 10,⟨(some 102),none,.call (.c (.fn F.natural_Sub [] [])) [(.t 100),(.t 101)]⟩,cm 99 102,co 103 (.ext 0 (.t 99)),co 104 (.ext 1 (.t 99)),cm 16 103,cm 17 104]) (.seq (.ops [6,7] [cm 105 16,cm 106 8,cm 107 11,co 108 (.build [.emp,(.v (.int .i64 0)),(.v (.bool false))] [(0,1,(.t 105)),(1,1,(.t 106)),(2,1,(.t 107))]),⟨none,none,.store 3 (.t 6) (.t 108)⟩,co 7 (.mv (.c (.v (.bool false))))]) (.ret)))))
theorem v9:Ng=.seq (.ops [2,3,4,6] [⟨(some 3),none,.box 3 (.t 0)⟩,⟨(some 4),none,.box 3 (.t 1)⟩,⟨(some 6),none,.alloc [.emp,(.v (.int .i64 0)),(.v (.bool false))]⟩,co 7 (.mv (.c (.v (.bool false))))]) (.seq (.dops [3,4,6,8] [co 18 (.fadr 2 (.t 3)),⟨(some 19),none,.load 1 false (.t 18)⟩,⟨(some 20),none,.load 3 true (.t 3)⟩,⟨(some 21),none,.call (.c (.fn F.dyadic_Top [] [])) [(.t 20)]⟩,cm 22 2,co 23 (.bin .sub (.t 21) (.t 22)),co 24 (.bin .sub (.t 23) (.c (.v (.int .i64 8)))),co 25 (.mnx true (.t 19) [(.t 24)]),cm 8 25] [(1,3)]) (.seq (.seq (.dops [3,4,6,8,31] [⟨(some 26),none,.load 3 true (.t 3)⟩,⟨(some 27),none,.call (.c (.fn F.dyadic_Top [] [])) [(.t 26)]⟩,⟨(some 28),none,.load 3 true (.t 4)⟩,⟨(some 29),none,.call (.c (.fn F.dyadic_Top [] [])) [(.t 28)]⟩,co 30 (.bin .sub (.t 27) (.t 29)),co 31 (.bin .leq (.t 30) (.c (.v (.int .i64 2))))] [(1,2)]) (.cond (.t 31) (.ops [3,4,6,8] [cm 32 8,co 33 (.fadr 2 (.t 4)),⟨(some 34),none,.load 1 false (.t 33)⟩,co 35 (.mnx true (.t 32) [(.t 34)]),cm 8 35]) (.skip))) (.seq (.ops [3,4,6,8,9] [co 36 (.fadr 1 (.t 3)),⟨(some 37),none,.load 1 false (.t 36)⟩,co 38 (.fadr 2 (.t 3)),⟨(some 39),none,.load 1 false (.t 38)⟩,cm 40 8,co 41 (.bin .sub (.t 39) (.t 40)),⟨(some 42),none,.call (.c (.fn F.round_shl [] [])) [(.t 37),(.t 41)]⟩,cm 9 42]) (.seq (.ops [3,4,6,8,9] [co 10 (.mv (.c .emp))]) (.seq (.ops [3,4,6,8,9,11] [co 11 (.mv (.c (.v (.bool false))))]) (.seq (.seq (.ops [3,4,6,8,9,11,46] [co 43 (.fadr 2 (.t 4)),⟨(some 44),none,.load 1 false (.t 43)⟩,cm 45 8,co 46 (.bin .geq (.t 44) (.t 45))]) (.cond (.t 46) (.ops [3,4,6,8,9,10,11] [co 47 (.fadr 1 (.t 4)),⟨(some 48),none,.load 1 false (.t 47)⟩,co 49 (.fadr 2 (.t 4)),⟨(some 50),none,.load 1 false (.t 49)⟩,cm 51 8,co 52 (.bin .sub (.t 50) (.t 51)),⟨(some 53),none,.call (.c (.fn F.round_shl [] [])) [(.t 48),(.t 52)]⟩,cm 10 53]) (.ops [3,4,6,8,9,10,11] [co 55 (.fadr 1 (.t 4)),⟨(some 56),none,.load 1 false (.t 55)⟩,cm 57 8,co 58 (.fadr 2 (.t 4)),⟨(some 59),none,.load 1 false (.t 58)⟩,co 60 (.bin .sub (.t 57) (.t 59)),⟨(some 61),none,.call (.c (.fn F.round_shr [] [])) [(.t 56),(.t 60)]⟩,cm 54 61,co 62 (.ext 0 (.t 54)),co 63 (.ext 1 (.t 54)),cm 10 62,cm 11 63]))) my)))))):=rfl
def RJ(an bn:Bool)(X Y:Nat)(l:Int)(lost:Bool):(Nat×Int×Bool)×Bool:=
 if an=bn then((X+Y,l,lost),false)else if X<uW (Y,lost)then((uW (Y,lost)-X,l,false),true)else((X-uW (Y,lost),l,lost),false)
def sV(r:(Nat×Int×Bool)×Bool):AV:=.tup [ye (au r.1.1) r.1.2.1 r.1.2.2,B r.2]
theorem B3{x y k:Nat}(hx:ae x<=k)(hy:ae y<=k):ae (x+y)<=k+1:=by
 rw[bD]at hx hy⊢;omega
theorem Z9{x y:Nat}(hx:ae x<=5000)(hy:ae y<=5000):R F.natural_Add [lm (au x),lm (au y)] []=some (.tup [lm (au (x+y)),I 0],[]):=by
 have h1:(au x).length<=200:=aT ω;have h2:(au y).length<=200:=aT ω;have h3:=B3 hx hy;have h4:(au (x+y)).length<=200:=aT ω;rw[aet (bg x) (bg y) ω ω,aN,aN,lq,if_neg ω]
theorem L6{x y:Nat}(hx:ae x<=5000)(hy:ae y<=5000)(h:y<=x):R F.natural_Sub [lm (au x),lm (au y)] []=some (.tup [lm (au (x-y)),I 0],[]):=by
 have h1:(au x).length<=200:=aT ω;have h2:(au y).length<=200:=aT ω;have h3:ae (x-y)<=5000:=by
  rw[bD]at hx⊢;omega
 have h4:(au (x-y)).length<=200:=aT ω;rw[aev (bg x) (bg y) ω ω,aN,aN,if_neg ω,lq,if_neg ω]
theorem Od{an bn:Bool}{ma mb:AV}{ea eb:AV}{X Y:Nat}{l:Int}{lost:Bool}(hX:ae X<=4100)(hY:ae Y<=4100)(s:ai)
  (h3:s 3=.ref 3 none 0 0 0) (h4:s 4=.ref 4 none 0 0 0) (h6:s 6=.ref 6 none 0 0 0) (h8:s 8=I l) (h9:s 9=lm (au X)) (h10:s 10=lm (au Y)) (h11:s 11=B lost):
  je false [[.o 2 [],.o 0 [],.o 0 []],[]] [.cell 6 3 true,.t 7] 0 (aj R (az false) my s (upd (upd (upd (fun _=>.dead) 3 (.bx [.v (.bool an),ma,ea])) 4 (.bx [.v (.bool bn),mb,eb])) 6 (.bx [.emp,.v (.int .i64 0),.v (.bool false)])))=some (sV (RJ an bn X Y l lost),[]):=by
 unfold RJ;by_cases hs:an=bn
 ·subst hs;have e1:(false != (an==an))=true:=γ
  have ha:=Z9 (x:=X) (y:=Y) ω ω;simp only[my,sV,ye,go_sem,h3,h4,h6,h8,h9,h10,h11,e1,ha]
 ·rw[if_neg hs];have e1:(false != (an==bn))=false:=γ
  have hU:ae (uW (Y,lost))<=4101:=by
   unfold uW;split
   ·exact B3 hY (ahx _)
   grind
  have hi:=aeF (q:=Y) ω;have hc:=AT (bg X) (bg (uW (Y,lost))) (ay3 (aT (k:=200) ω) δ) (ay3 (aT (k:=200) ω) δ);rw[aN,aN]at hc;by_cases hx:X<uW (Y,lost)
  ·have ha:=L6 (x:=uW (Y,lost)) (y:=X) ω ω ω;rw[if_pos hx];rw[cw,if_pos hx]at hc;cases lost with
   |false=>
    simp only[uW,if_neg ay9]at hc ha⊢;simp only[my,sV,ye,go_sem,aza,h3,h4,h6,h8,h9,h10,h11,e1,hc,ha]
   |true=>
    simp only[uW,if_true]at hc ha⊢;simp only[my,sV,ye,go_sem,aza,h3,h4,h6,h8,h9,h10,h11,e1,Fv,hi,hc,ha]
  ·have ha:=L6 (x:=X) (y:=uW (Y,lost)) ω ω ω;rw[if_neg hx];have hd:(cw X (uW (Y,lost))<0)=False:=ff (by
    unfold cw;omega)
   cases lost with
   |false=>
    simp only[uW,if_neg ay9]at hc ha hd⊢;simp only[my,sV,ye,go_sem,h3,h4,h6,h8,h9,h10,h11,e1,hc,hd,ha]
   |true=>
    simp only[uW,if_true]at hc ha hd⊢;simp only[my,sV,ye,go_sem,h3,h4,h6,h8,h9,h10,h11,e1,Fv,hi,hc,hd,ha]
theorem RK(a b:Rd)(p:Int):Dx a b p=RJ a.neg b.neg (ab a.m*2^ (a.e-xN a b p).toNat) (yZ b (xN a b p)).1 (xN a b p) (yZ b (xN a b p)).2:=rfl
theorem am6{a b:Rd}(oa:Ok0 a)(ob:Ok0 b)(va:vd a=true)(vb:vd b=true)(na:a.m.length≠0)(nb:b.m.length≠0){p:Int}(hp:8<=p/\p<=512)(ht:aX b<=aX a):
  R F.round_sum [af a,af b,I p] []=some (sV (Dx a b p),[]):=by
 refine av Zr rfl ?_;have ta:=CX oa;have tb:=CX ob;simp only[af,ak]at ta tb;have e1:=ji va na;have e2:=ji vb nb;obtain⟨a1,a2,a3,a4⟩:=dZ va oa.lb;obtain⟨b1,b2,b3,b4⟩:=dZ vb ob.lb;have l1:=RI (a:=a) (b:=b) (p:=p);have l2:=Oc va vb oa.lb ob.lb na nb hp ht;have w1:IntKind.i64.wrap (aX a-p)=aX a-p:=i64_in _ ⟨by omega,by omega⟩;have w2:IntKind.i64.wrap (aX a-p-8)=aX a-p-8:=i64_in _ ⟨by omega,by omega⟩;have w3:IntKind.i64.wrap (aX a-aX b)=aX a-aX b:=i64_in _ ⟨by omega,by omega⟩;rw[RK];obtain⟨l,hl⟩:∃l,xN a b p=l:=⟨_,rfl⟩;rw[hl]at l1 l2⊢;unfold xN at hl;obtain⟨z,hz⟩:∃z,(if aX a-p-8<a.e then aX a-p-8 else a.e)=z:=⟨_,rfl⟩;rw[hz]at hl;have w4:IntKind.i64.wrap (a.e-l)=(((a.e-l).toNat:Nat):Int):=wi;have hX:ae (ab a.m*2^ (a.e-l).toNat)<=4100:=by
  grind[dA,dv]
 have sX:=B0 oa.lb a1 (k:=(a.e-l).toNat) ω (aT ω);by_cases h2:aX a-aX b<=2
 ·have f1:(aX a-aX b<=2)=True:=tt h2;rw[if_pos h2]at hl;by_cases hb:l<=b.e
  ·have f2:(l<=b.e)=True:=tt hb;have w5:IntKind.i64.wrap (b.e-l)=(((b.e-l).toNat:Nat):Int):=wi;have hY:ae (ab b.m*2^ (b.e-l).toNat)<=4100:=by
    grind[dA,dv]
   have sY:=B0 ob.lb b1 (k:=(b.e-l).toNat) ω (aT ω);rw[yZ,if_pos hb];simp only[vM,v9,af,ak,go_sem,ta,tb,w1,w2,w3,w4,w5,hz,hl,f1,f2,sX,sY];exact Od hX hY _ rfl rfl rfl rfl rfl rfl rfl
  omega
 ·have f1:(aX a-aX b<=2)=False:=ff h2;rw[if_neg h2]at hl;by_cases hb:l<=b.e
  ·have f2:(l<=b.e)=True:=tt hb;have w5:IntKind.i64.wrap (b.e-l)=(((b.e-l).toNat:Nat):Int):=wi;have hY:ae (ab b.m*2^ (b.e-l).toNat)<=4100:=by
    grind[dA,dv]
   have sY:=B0 ob.lb b1 (k:=(b.e-l).toNat) ω (aT ω);rw[yZ,if_pos hb];simp only[vM,v9,af,ak,go_sem,ta,tb,w1,w2,w3,w4,w5,hz,hl,f1,f2,sX,sY];exact Od hX hY _ rfl rfl rfl rfl rfl rfl rfl
  ·have f2:(l<=b.e)=False:=ff hb;have w5:IntKind.i64.wrap (l-b.e)=(((l-b.e).toNat:Nat):Int):=wi;have hY:ae (ab b.m/2^ (l-b.e).toNat)<=4100:=by
    grind[mu]
   have sY:=Z5 ob.lb b1 (n:=(l-b.e).toNat) ω;rw[yZ,if_neg hb];simp only[vM,v9,af,ak,go_sem,ta,tb,w1,w2,w3,w4,w5,hz,hl,f1,f2,sX,sY];exact Od hX hY _ rfl rfl rfl rfl rfl rfl rfl
def Xh(a b:Rd)(p:Int)(up:Bool):Rd×Int:=
 let s:=Dx a b p
 if s.1.1=0/\s.1.2.2=false then(aG,0)else iw (a.neg !=s.2) (cQ s.1.1 s.1.2.1 s.1.2.2 p (up != (a.neg !=s.2)))
def RL(a b:Rd)(p:Int)(up:Bool):Rd×Int:=
 if aY p [a,b]=0 then(if a.m.length=0 then tZ b p up else if b.m.length=0 then tZ a p up else if aX a<aX b then Xh b a p up else Xh a b p up)
 else(aG,aY p [a,b])
theorem Oe{a b:Rd}(oa:Ok0 a)(ob:Ok0 b){p:Int}{up:Bool}(h:aY p [a,b]≠0\/a.m.length=0\/b.m.length=0):R F.round_add [af a,af b,I p,B up] []=some (rV (RL a b p up),[]):=by
 refine av Nk rfl ?_;have hf:R F.round_fault [I p,.sl 3 [[B a.neg,lm a.m,I a.e],[B b.neg,lm b.m,I b.e]]] []=some (I (aY p [a,b]),[]):=B1 (p:=p) (l:=[a,b]) (fun x hx=>by
  rcases List.mem_cons.1 hx with h|h
  ·rw[h];exact oa
  ·rw[List.mem_singleton.1 h];exact ob) (show 2<=100000 by decide)
 have ra:=I5 oa (p:=p) (up:=up);have rb:=I5 ob (p:=p) (up:=up);unfold RL;generalize tZ a p up=qa at ra⊢;generalize tZ b p up=qb at rb⊢;simp only[rV,af,ak]at ra rb;by_cases h0:aY p [a,b]=0
 ·rw[if_pos h0];rw[h0]at hf;by_cases a0:a.m.length=0
  ·have e1:((a.m.length:Int)=0)=True:=tt;rw[if_pos a0];simp only[n8,xW,rV,af,ak,go_sem,hf,e1,rb]
  have e1:((a.m.length:Int)=0)=False:=ff;have b0:b.m.length=0:=(h.resolve_left (fun h'=>h' h0)).resolve_left a0;have e2:((b.m.length:Int)=0)=True:=tt;rw[if_neg a0,if_pos b0];simp only[n8,xW,rV,af,ak,go_sem,hf,e1,e2,ra]
 ·have e1:(aY p [a,b]=0)=False:=ff h0;rw[if_neg h0];simp only[n8,xW,rV,af,ak,aG,go_sem,hf,e1]
theorem ahF{N k:Nat}{f u:Int}{more:Bool}(hm:more=decide (N%2^k≠0))(hu:more=true->f+k<u):rS (N/2^k) (f+k) more u=rS N f false u:=by
 unfold rS;by_cases h:u<=f+k
 ·rw[if_pos h];have hf:more=false:=by
   grind
  subst hf;have h0:N%2^k=0:=by
   grind
  obtain⟨M,rfl⟩:=Nat.dvd_of_mod_eq_zero h0;rw[Nat.mul_div_cancel_left _ (aze k)];by_cases h2:u<=f
  ·rw[if_pos h2,show(f+k-u).toNat=k+(f-u).toNat by omega,azc,azl (2^k) M,azq]
  ·obtain⟨j,hj⟩:∃j,(f+k-u).toNat=j:=⟨_,rfl⟩;obtain⟨i,hi⟩:∃i,(u-f).toNat=i:=⟨_,rfl⟩;have hk:k=i+j:=ω
   grind[azc,azq,Nat.mul_div_cancel_left,aze,Nat.mul_mod_right,azl]
 ·rw[if_neg h,if_neg ω];obtain⟨j,hj⟩:∃j,(u- (f+k)).toNat=j:=⟨_,rfl⟩;rw[show(u-f).toNat=k+j by omega,hj,azc,Nat.div_div_eq_div_mul,Nat.mod_mul,hm];refine Prod.ext rfl ?_;show(decide (N%2^k≠0)||decide (N/2^k%2^j≠0))=(false||decide (N%2^k+2^k*(N/2^k%2^j)≠0));rw[Bool.false_or,←Bool.decide_or];congr 1;refine propext ⟨fun h3 h4=>?_,fun h3=>?_⟩
  ·obtain⟨h5,h6⟩:=Nat.add_eq_zero_iff.1 h4;rcases Nat.mul_eq_zero.1 h6 with h7|h7
   all_goals omega
  grind
theorem aeI{N k:Nat}{f p:Int}(hM:N/2^k≠0):fy (N/2^k) (f+k) p=fy N f p:=by
 grind[fy,mu,ae]
theorem aaa{N k:Nat}{f p:Int}{more up:Bool}(hM:N/2^k≠0)(hm:more=decide (N%2^k≠0))(hp:more=true->p< (ae (N/2^k):Nat)):cQ (N/2^k) (f+k) more p up=cQ N f false p up:=by
 unfold cQ;have hu:more=true->f+k<fy (N/2^k) (f+k) p:=fun h=>by
  grind[fy]
 grind[ahF,aeI]
theorem GC{M k:Nat}{f p:Int}{up:Bool}(hM:M≠0):cQ (M*2^k) f false p up=cQ M (f+k) false p up:=by
 have h1:M*2^k/2^k=M:=Nat.mul_div_cancel _ (aze k);have:=aaa (N:=M*2^k) (k:=k) (f:=f) (p:=p) (more:=false) (up:=up) ω (by simp_all) (fun h=>absurd h ay9);grind
def jV(z f p:Int)(up:Bool):Rd×Int:=if z=0 then(aG,0)else iw (decide (z<0)) (cQ z.natAbs f false p (up !=decide (z<0)))
theorem HY{n:Nat}{f p:Int}{up neg:Bool}(h:n≠0):jV (if neg=true then-(n:Int)else n) f p up=iw neg (cQ n f false p (up !=neg)):=by
 unfold jV;grind
theorem K7{z f p:Int}{k:Nat}{up:Bool}:jV (z*2^k) f p up=jV z (f+k) p up:=by
 unfold jV;by_cases h:z=0
 ·rw[h,Int.zero_mul,if_pos rfl,if_pos rfl]
 ·have h2:(0:Int)<2^k:=Int.pow_pos δ;have h3:z*2^k≠0:=fun h3=>by
   rcases Int.mul_eq_zero.1 h3 with h4|h4
   all_goals omega
  have h4:decide (z*2^k<0)=decide (z<0):=by
   congr 1;refine propext ⟨fun h5=>?_,fun h5=>Int.mul_neg_of_neg_of_pos h5 h2⟩;refine Int.not_le.1 fun h6=>?_;have:=Int.mul_nonneg h6 (Int.le_of_lt h2);omega
  simp_all[if_neg,Int.natAbs_mul,Int.natAbs_pow,GC]
def bG(neg:Bool)(n:Nat):Int:=if neg=true then-(n:Int)else n
theorem qp(n:Nat):bG true n=-(n:Int):=rfl
theorem oQ(n:Nat):bG false n=(n:Int):=rfl
def Xi(an:Bool)(p:Int)(up:Bool)(s:(Nat×Int×Bool)×Bool):Rd×Int:=if s.1.1=0/\s.1.2.2=false then(aG,0)else iw (an !=s.2) (cQ s.1.1 s.1.2.1 s.1.2.2 p (up != (an !=s.2)))
theorem I6{an:Bool}{p:Int}{up:Bool}{N K:Nat}{f:Int}{more t:Bool}(hM:N/2^K≠0)(hm:more=decide (N%2^K≠0))(hp:more=true->p< (ae (N/2^K):Nat)):
  Xi an p up ((N/2^K,f+K,more),t)=jV (bG (an !=t) N) f p up:=by
 have h0:N≠0:=fun h=>by
  simp_all
 unfold bG;rw[HY h0,Xi,if_neg (fun h=>hM h.1)];grind[aaa]
theorem ahG{x Y K:Nat}{f p:Int}{up an bn:Bool}(hx:x≠0)(hlost:Y%2^K≠0->p< (ae (x- (Y/2^K+1)):Nat)/\p< (ae (x+Y/2^K):Nat)/\Y/2^K+1<x):
  Xi an p up (RJ an bn x (Y/2^K) (f+K) (decide (Y%2^K≠0)))=jV (bG an (x*2^K)+bG bn Y) f p up:=by
 have h2:=aze K;have hd:=azV Y (2^K);have hlt:=azw Y h2;unfold RJ;by_cases hs:an=bn
 ·subst hs;rw[if_pos rfl];have e1:x+Y/2^K=(x*2^K+Y)/2^K:=by
   grind[azl,Nat.mul_add_div]
  have e2:(x*2^K+Y) %2^K=Y%2^K:=by
   simp_all
  have e3:bG an (x*2^K)+bG an Y=bG (an !=false) (x*2^K+Y):=by
   grind[bG,qp]
  rw[e3,e1,I6]
  all_goals grind
 ·have hbn:bn=!an:=by
   cases an<;>cases bn<;>first|rfl|exact absurd rfl hs
  subst hbn;rw[if_neg hs];by_cases hl:Y%2^K≠0
  ·obtain⟨g1,g2,g3⟩:=hlost hl;have e0:uW (Y/2^K,decide (Y%2^K≠0))=Y/2^K+1:=by
    simp_all[uW,if_pos,decide_eq_true]
   rw[e0,if_neg ω];obtain⟨y,hy⟩:∃y,Y/2^K=y:=⟨_,rfl⟩;rw[hy]at hd g1 g2 g3⊢;have e1:(x- (y+1))*2^K+(2^K-Y%2^K)=x*2^K-Y:=by
    have e4:(x- (y+1))*2^K=x*2^K- (2^K*y+2^K):=by
     rw[Nat.sub_mul,azn,Nat.one_mul,azl y]
    have e5:2^K*y+2^K<=x*2^K:=by
     have:(y+1)*2^K<=x*2^K:=ay7 _ ω;grind
    omega
   have e6:(x*2^K-Y)/2^K=x- (y+1):=by
    rw[←e1,azl (x- (y+1)),Nat.mul_add_div h2,Nat.div_eq_of_lt ω];rfl
   have e7:(x*2^K-Y) %2^K=2^K-Y%2^K:=by
    rw[←e1,azl (x- (y+1)),Nat.mul_add_mod,azL ω]
   have e3:bG an (x*2^K)+bG (!an) Y=bG (an !=false) (x*2^K-Y):=by
    grind[bG,qp,oQ]
   grind[I6,decide_eq_true]
  ·have hl0:Y%2^K=0:=ω
   have e0:uW (Y/2^K,decide (Y%2^K≠0))=Y/2^K:=by
    simp_all[uW,if_neg,of_decide_eq_true]
   rw[e0,hl0,show decide ((0:Nat)≠0)=false from rfl];rw[hl0,azA]at hd;obtain⟨y,hy⟩:∃y,Y/2^K=y:=⟨_,rfl⟩;rw[hy]at hd⊢;subst hd;by_cases hxy:x<y
   ·rw[if_pos hxy];have e6:((y-x)*2^K)/2^K=y-x:=Nat.mul_div_cancel _ h2;have e3:bG an (x*2^K)+bG (!an) (2^K*y)=bG (an !=true) ((y-x)*2^K):=by
     grind[bG,qp,oQ]
    rw[e3];have:=I6 (an:=an) (p:=p) (up:=up) (N:=(y-x)*2^K) (K:=K) (f:=f) (more:=false) (t:=true) ω (by simp_all) (fun h=>absurd h ay9);grind
   ·rw[if_neg hxy];by_cases hE:x=y
    ·subst hE;have e3:bG an (x*2^K)+bG (!an) (2^K*x)=0:=by
      grind[bG,qp,oQ]
     simp_all[Xi,if_pos,az2,jV]
    ·have e6:((x-y)*2^K)/2^K=x-y:=Nat.mul_div_cancel _ h2;have e3:bG an (x*2^K)+bG (!an) (2^K*y)=bG (an !=false) ((x-y)*2^K):=by
      grind[bG,qp,oQ]
     rw[e3];have:=I6 (an:=an) (p:=p) (up:=up) (N:=(x-y)*2^K) (K:=K) (f:=f) (more:=false) (t:=false) ω (by simp_all) (fun h=>absurd h ay9);grind
theorem aqb{b:Rd}{l:Int}(h1:-40000<=l)(h2:-40000<=b.e):yZ b l=(ab b.m*2^ (b.e+40000).toNat/2^ (l+40000).toNat,decide (ab b.m*2^ (b.e+40000).toNat%2^ (l+40000).toNat≠0)):=by
 unfold yZ;by_cases h:l<=b.e
 ·rw[if_pos h,show(b.e+40000).toNat=(b.e-l).toNat+(l+40000).toNat by omega,azc,←azq,Nat.mul_div_cancel _ (aze _),Nat.mul_mod_left];rfl
 ·have h3:=aze (b.e+40000).toNat;rw[if_neg h,show(l+40000).toNat=(l-b.e).toNat+(b.e+40000).toNat by omega,azc,Nat.mul_div_mul_right _ _ h3,Nat.mul_mod_mul_right];refine Prod.ext rfl ?_;show decide _=decide _;congr 1;refine propext ⟨fun h4 h5=>?_,fun h4 h5=>h4 ?_⟩
  ·rcases Nat.mul_eq_zero.1 h5 with h6|h6
   all_goals omega
  grind
theorem Xj{d:Rd}{k:Nat}(h:-16384<=d.e)(n:Nat)(hn:n=(d.e+16384).toNat+k):zI d*2^k=bG d.neg (ab d.m*2^n):=by
 have h1:(mg d:Int)*2^k=((ab d.m*2^ ((d.e+16384).toNat+k):Nat):Int):=by
  unfold mg;grind
 unfold zI bG;grind
theorem aeJ{a b:Rd}{p:Int}(h:b.e<xN a b p):2<aX a-aX b/\xN a b p<=aX a-p-8:=by
 unfold xN at h⊢;omega
theorem aab{a b:Rd}(oa:Ok0 a)(ob:Ok0 b)(va:vd a=true)(vb:vd b=true)(na:a.m.length≠0)(nb:b.m.length≠0){p:Int}{up:Bool}(hp:8<=p/\p<=512)(ht:aX b<=aX a):
  Xh a b p up=jV (zI a+zI b) (-16384) p up:=by
 have e1:=ji va na;have e2:=ji vb nb;obtain⟨a1,a2,a3,a4⟩:=dZ va oa.lb;obtain⟨b1,b2,b3,b4⟩:=dZ vb ob.lb;have l1:=RI (a:=a) (b:=b) (p:=p);have l2:=Oc va vb oa.lb ob.lb na nb hp ht;have l3:=aeJ (a:=a) (b:=b) (p:=p);show Xi a.neg p up (Dx a b p)=_;rw[RK];obtain⟨l,hl⟩:∃l,xN a b p=l:=⟨_,rfl⟩;rw[hl]at l1 l2 l3⊢;obtain⟨K,hK⟩:∃K,(l+40000).toNat=K:=⟨_,rfl⟩;obtain⟨n1,hn1⟩:∃n,(a.e-l).toNat=n:=⟨_,rfl⟩;obtain⟨n2,hn2⟩:∃n,(b.e+40000).toNat=n:=⟨_,rfl⟩;have hx:ab a.m*2^n1≠0:=Nat.mul_ne_zero (dv va na) (Nat.pos_iff_ne_zero.1 (aze _));rw[aqb ω ω,hK,hn1,hn2];have bx:ae (ab a.m*2^n1)=ae (ab a.m)+n1:=dA _ (dv va na);have by':ae (ab b.m*2^n2/2^K)=ae (ab b.m)+n2-K:=by grind[mu,dA,dv]
 have hlK:l=-40000+(K:Int):=ω
 rw[hlK,ahG hx]
 ·obtain⟨k,hk⟩:∃k:Nat,k=23616:=⟨_,rfl⟩;rw[azq,←azc,←Xj (k:=k) a2 (n1+K) ω,←Xj (k:=k) b2 n2 ω,←Int.add_mul,K7,show(-40000:Int)+(k:Nat)=-16384 by omega]
 ·intro hne;have hb:b.e<l:=by
   refine Int.not_le.1 fun h=>hne ?_;rw[show n2=(b.e-l).toNat+K by omega,azc,←azq,Nat.mul_mod_left]
  obtain⟨X,hX⟩:∃X,ab a.m*2^n1=X:=⟨_,rfl⟩;obtain⟨Y,hY⟩:∃Y,ab b.m*2^n2/2^K=Y:=⟨_,rfl⟩;rw[hX]at bx⊢;rw[hY]at by'⊢;obtain⟨t,hT⟩:∃t,ae X=t+4:=⟨ae X-4,by omega⟩;have hX2:2^ (t+3)<=X:=kf.1 ω;have hY2:Y<2^ (t+1):=bD.1 ω;have q1:2^ (t+3)=4*2^ (t+1):=γ
  have q2:2^ (t+2)=2*2^ (t+1):=γ
  have g3:t+2<ae (X- (Y+1)):=kf.2 ω;have g4:t+3<ae (X+Y):=kf.2 ω;omega
def di(a b:Rd)(p:Int)(up:Bool):Rd×Int:=if aY p [a,b]=0 then jV (zI a+zI b) (-16384) p up else(aG,aY p [a,b])
def fS(a b:Rd)(p:Int)(up:Bool):Rd×Int:=if aY p [a,b]=0 then jV (zI a*zI b) (-32768) p up else(aG,aY p [a,b])
theorem cZ{d:Rd}(h:d.m.length=0):zI d=0:=by
 grind[zI,RH]
theorem akd{p:Int}{up:Bool}(hp:8<=p/\p<=512):cQ 0 0 false p up=(aG,0):=by
 have hu:-600<=fy 0 0 p/\fy 0 0 p<=0:=by
  grind[fy,sf]
 unfold cQ;obtain⟨u,he⟩:∃u,fy 0 0 p=u:=⟨_,rfl⟩;rw[he]at hu⊢;have hq:nj up (rS 0 0 false u)=0:=by
  simp_all[rS,nj,if_pos,Nat.zero_mul,az3,if_neg,ay9]
 unfold uC;rw[hq,sf,if_neg ω];rw[vX];unfold cK;rw[if_pos rfl,if_pos δ]
theorem GD{d:Rd}(ok:Ok0 d){p:Int}{up:Bool}:tZ d p up=if aY p [d]=0 then jV (zI d) (-16384) p up else(aG,aY p [d]):=by
 unfold tZ;by_cases h0:aY p [d]=0
 ·obtain⟨v1,v2,v3⟩:=vZ h0;have v4:vd d=true:=γ
  obtain⟨h1,h2,h3,h4⟩:=dZ v4 ok.lb;rw[if_pos h0,if_pos h0];by_cases hd:d.m.length=0
  ·have hz:=BY v4 hd;subst hz;rw[cZ rfl,jV,if_pos rfl];show iw false (cQ 0 0 false p (up !=false))=_;rw[akd ⟨v2,v3⟩];rfl
  ·have hm:=HX v4 hd;unfold zI;rw[HY ω];grind[mg,GC]
 grind
theorem ake{a b:Rd}(oa:Ok0 a)(ob:Ok0 b){p:Int}{up:Bool}:RL a b p up=di a b p up:=by
 unfold RL di;by_cases h0:aY p [a,b]=0
 ·obtain⟨v1,hp⟩:=vZ h0;have v4:vd a=true/\vd b=true:=γ
  have f1:∀d,vd d=true->aY p [d]=0:=fun d hd=>by
   simp_all[aY,if_pos]
  by_cases a0:a.m.length=0
  ·rw[if_pos a0,GD ob,if_pos (f1 b v4.2),cZ a0,Int.zero_add]
  rw[if_neg a0];by_cases b0:b.m.length=0
  ·rw[if_pos b0,GD oa,if_pos (f1 a v4.1),cZ b0,Int.add_zero]
  rw[if_neg b0];by_cases ht:aX a<aX b
  ·rw[if_pos ht,aab ob oa v4.2 v4.1 b0 a0 hp ω,Int.add_comm]
  simp_all[if_neg,aab]
 grind
theorem aac{a b:Rd}(oa:Ok0 a)(ob:Ok0 b){p:Int}{up:Bool}:K6 a b p up=fS a b p up:=by
 unfold K6 fS;by_cases h0:aY p [a,b]=0
 ·obtain⟨v1,hp⟩:=vZ h0;have v4:vd a=true/\vd b=true:=γ
  obtain⟨va,vb⟩:=v4;obtain⟨a1,a2,a3,a4⟩:=dZ va oa.lb;obtain⟨b1,b2,b3,b4⟩:=dZ vb ob.lb;by_cases a0:a.m.length=0
  ·rw[if_pos (Or.inl a0),cZ a0,Int.zero_mul,jV,if_pos rfl]
  by_cases b0:b.m.length=0
  ·rw[if_pos (Or.inr b0),cZ b0,Int.mul_zero,jV,if_pos rfl]
  have hz:zI a*zI b=bG (a.neg !=b.neg) (mg a*mg b):=by
   unfold zI bG;cases a.neg<;>cases b.neg<;>simp[Int.mul_neg,Int.neg_mul]
  have hm:mg a*mg b=ab a.m*ab b.m*2^ ((a.e+16384).toNat+(b.e+16384).toNat):=by
   grind[mg,azc]
  have hv:ab a.m*ab b.m≠0:=Nat.mul_ne_zero (dv va a0) (dv vb b0);rw[hz];unfold bG;rw[HY (Nat.mul_ne_zero (Nat.pos_iff_ne_zero.1 (HX va a0)) (Nat.pos_iff_ne_zero.1 (HX vb b0))),hm,GC hv];grind
 grind
theorem jW{neg:Bool}{M:Nat}{e:Int}(h:M≠0):br neg M e=⟨neg,au (M/2^tz M),e+tz M⟩:=by
 simp_all[vX,if_neg]
theorem jv{neg:Bool}{e:Int}:br neg 0 e=aG:=by
 simp_all[vX,if_pos]
theorem jX{neg:Bool}{M k:Nat}{e:Int}:br neg (M*2^k) e=br neg M (e+k):=by
 by_cases h:M=0
 ·rw[h,Nat.zero_mul,jv,jv]
 ·have h2:M*2^k≠0:=Nat.mul_ne_zero h (Nat.pos_iff_ne_zero.1 (aze k));rw[jW h,jW h2,azl M,KW k h,azc,Nat.mul_div_mul_left _ _ (aze k)];grind
theorem qF{neg:Bool}{M:Nat}{e:Int}(h:M≠0):ab (br neg M e).m=M/2^tz M/\(br neg M e).e=e+tz M/\M/2^tz M%2=1/\ae (M/2^tz M)+tz M=ae M:=by
 grind[zu,jW,aN,dA,tz,azl]
theorem Of{neg:Bool}{M:Nat}{e:Int}(h:M≠0)(h1:ae M<=4096)(h2:-16384<=e)(h3:(ae M:Nat)+e<=16384):qL (ae (ab (br neg M e).m)) (br neg M e).e=true:=by
 grind[qF,ae,tz,fR,qL,decide_eq_true]
theorem Ec{neg:Bool}{M:Nat}{e:Int}(h:qL (ae (ab (br neg M e).m)) (br neg M e).e=true):vd (br neg M e)=true:=by
 by_cases h0:M=0
 ·subst h0;rfl
 ·obtain⟨g1,g2,g3,g4⟩:=qF (neg:=neg) (e:=e) h0;have hn:M/2^tz M≠0:=ω
  rw[g1]at h;have hb:=(BZ h (Nat.pos_iff_ne_zero.1 (fR hn))).1;rw[jW h0]at h⊢;unfold vd;have hl:(au (M/2^tz M)).length<=128:=aT ω;have hl0:(au (M/2^tz M)).length≠0:=fun h5=>hn (nJ.1 (List.length_eq_zero_iff.1 h5));have ht:(au (M/2^tz M)).getD ((au (M/2^tz M)).length-1) 0≠0:=(KV _).resolve_left (fun h5=>hn (nJ.1 h5));have ho:(au (M/2^tz M)).getD 0 0%2=1:=by
   grind[rO,tz]
  rw[aN,if_neg hl0,decide_eq_true (p:=(au (M/2^tz M)).length<=256) ω,decide_eq_true ho,decide_eq_true ht];grind
theorem B4{neg:Bool}{M:Nat}{e:Int}(h1:ae M<=4096)(h2:-16384<=e)(h3:(ae M:Nat)+e<=16384):cK (br neg M e)=(br neg M e,0):=by
 unfold cK;by_cases h:M=0
 ·subst h;rw[jv,if_pos δ]
 simp_all[if_pos,Of]
theorem ahH{M:Nat}{e:Int}(h1:ae M<=4096)(h2:-16384<=e)(h3:(ae M:Nat)+e<=16384):go (br false M e)=br true M e:=by
 by_cases h:M=0
 ·subst h;rfl
 ·have hv:=Ec (Of (neg:=false) h h1 h2 h3);obtain⟨g1,g2,g3,g4⟩:=qF (neg:=false) (e:=e) h;unfold go;rw[if_neg]
  ·grind[jW]
  ·grind[ab]
theorem aad{neg:Bool}{M:Nat}{e:Int}(h1:ae M<=4096)(h2:-16384<=e)(h3:(ae M:Nat)+e<=16384):iw neg (cK (br false M e))=(br neg M e,0):=by
 rw[B4 h1 h2 h3];unfold iw;cases neg with
 |false=>rw[if_neg (fun h=>ay9 h.2)]
 |true=>
  grind[ahH]
def K8(M:Nat)(e p:Int):Nat:=(max (max ((ae M:Nat)-p) (0-16384-e)) 0).toNat
def RM(M k:Nat)(more out:Bool):Nat:=if((more||decide (M%2^k≠0))&&out)=true then M/2^k+1 else M/2^k
def B5(neg out:Bool)(p:Int)(q:Nat)(e:Int):Rd×Int:=if q≠0/\16384< (ae q:Nat)+e then(if out=true then(aG,9)else(br neg (2^p.toNat-1) (16384-p),0))else(br neg q e,0)
def Fx(neg:Bool)(M:Nat)(e:Int)(more:Bool)(p:Int)(up:Bool):Rd×Int:=B5 neg (neg !=up) p (RM M (K8 M e p) more (neg !=up)) (e+K8 M e p)
theorem Xk{p:Int}{neg up:Bool}{q:Nat}{u:Int}(hp:8<=p/\p<=512)(hq:ae q<=4096)(hu:-16384<=u)(h0:q=0->u<=16384):iw neg (uC p up q u)=B5 neg up p q u:=by
 unfold uC B5;by_cases h:16384< ((ae q:Nat):Int)+u
 ·have hq0:q≠0:=fun h1=>by
   grind[sf]
  cases up with
  |true=>
   simp_all[iw,if_neg]
  |false=>
   grind[Xg,aad]
 simp_all[if_neg,aad]
theorem acT{neg out:Bool}{p:Int}{M k:Nat}{e:Int}:B5 neg out p (M*2^k) e=B5 neg out p M (e+k):=by
 unfold B5;rw[jX];grind[Nat.mul_ne_zero,aze,ae,dA]
theorem Tp(q:Nat):ae (q+1)<=ae q+1:=by
 rw[bD,azO];have:=bD.1 (ayZ (ae q));omega
theorem aeK{neg:Bool}{M:Nat}{e p:Int}{more up:Bool}(hp:8<=p/\p<=512)(hM:M≠0)(hm:more=true->p< (ae M:Nat)):Fx neg M e more p up=iw neg (cQ M e more p (up !=neg)):=by
 have hx:(neg !=up)=(up !=neg):=γ
 unfold Fx;rw[hx];unfold cQ;obtain⟨u,hu⟩:∃u,fy M e p=u:=⟨_,rfl⟩;obtain⟨k,hk⟩:∃k,K8 M e p=k:=⟨_,rfl⟩;rw[hu,hk];unfold fy at hu;unfold K8 at hk;have hu1:-16384<=u/\e+(ae M:Nat)-p<=u:=by
  omega
 by_cases hc:u<=e
 ·have hk0:k=0:=by
   omega
  have hmf:more=false:=by
   grind
  subst hk0;subst hmf;unfold rS RM;rw[if_pos hc,Nat.pow_zero,Nat.mod_one,show(false||decide ((0:Nat)≠0))=false from rfl,ay6,if_neg ay9,Nat.div_one];unfold nj;rw[az3,if_neg ay9];have hq:=dA (e-u).toNat hM;rw[Xk hp ω hu1.1 (fun h=>absurd (Nat.mul_eq_zero.1 h) (fun h2=>h2.elim hM (fun h3=>absurd h3 (Nat.pos_iff_ne_zero.1 (aze _)))))];grind[acT]
 ·have hk0:k=(u-e).toNat:=by
   omega
  unfold rS RM;rw[if_neg hc,←hk0];have hq:ae (M/2^k)<=513:=by
   grind[mu]
  have hq2:=Tp (M/2^k);have h3:nj (up !=neg) (M/2^k,more||decide (M%2^k≠0))=if((more||decide (M%2^k≠0))&& (up !=neg))=true then M/2^k+1 else M/2^k:=by
   grind[nj,Bool.and_comm]
  rw[h3];rw[Xk hp (by split<;>omega) hu1.1]
  ·rw[show e+(k:Int)=u by omega]
  ·grind[ae,mu]
theorem PX{neg:Bool}{M:Nat}{e p:Int}{up:Bool}(hp:8<=p/\p<=512):Fx neg M e false p up=jV (bG neg M) e p up:=by
 by_cases hM:M=0
 ·simp_all[bG,jV,if_pos,Fx,RM,B5,Nat.zero_mod,Nat.zero_div,ay6,if_neg,ay9,jv]
 simp_all[aeK,absurd,ay9,bG,HY]
theorem aeL{M:Nat}{f p:Int}{more w neg:Bool}:vd (iw neg (cQ M f more p w)).1=true/\Ok0 (iw neg (cQ M f more p w)).1:=by
 have h0:vd aG=true/\Ok0 aG:=⟨rfl,⟨fun x hx=>(nomatch hx),by decide⟩⟩;have hc:∀ (q:Nat) (u:Int),vd (cK (br false q u)).1=true/\Ok0 (cK (br false q u)).1:=fun q u=>by
  unfold cK;by_cases h:qL (ae (ab (br false q u).m)) (br false q u).e=true
  ·rw[if_pos h];have hv:=Ec h;have hb:=wZ false q u;exact⟨hv,hb,azt (AX hv hb) δ⟩
  grind
 have he:∀ (up:Bool) (q:Nat) (u:Int),vd (uC p up q u).1=true/\Ok0 (uC p up q u).1:=fun up q u=>by
  grind[uC]
 have hs:∀ (neg:Bool) (r:Rd×Int),(vd r.1=true/\Ok0 r.1)->vd (iw neg r).1=true/\Ok0 (iw neg r).1:=fun neg r hr=>by
  unfold iw go;split
  ·split
   ·omega
   ·refine⟨?_,hr.2.1,hr.2.2⟩
    simp_all[vd,if_neg]
  omega
 exact hs _ _ (he _ _ _)
theorem ub{z f p:Int}{up:Bool}:vd (jV z f p up).1=true/\Ok0 (jV z f p up).1:=by
 unfold jV;split
 ·exact⟨rfl,⟨fun x hx=>(nomatch hx),by decide⟩⟩
 ·exact aeL
noncomputable def ud:Cmd:=.seq (.ops [2,3,4,8,11,12] [⟨(some 52),none,.load 3 true (.t 4)⟩,⟨(some 53),none,.load 3 true (.t 5)⟩,cm 54 2,⟨(some 55),none,.call (.c (.fn F.round_sum [] [])) [(.t 52),(.t 53),(.t 54)]⟩,cm 51 55,co 56 (.ext 0 (.t 51)),co 57 (.ext 1 (.t 51)),⟨(some 11),none,.alloc [.emp,(.v (.int .i64 0)),(.v (.bool false))]⟩,⟨none,none,.store 3 (.t 11) (.t 56)⟩,cm 12 57]) (.seq (.seq (.ops [2,3,4,8,11,12,66] [co 58 (.fadr 0 (.t 11)),⟨(some 59),none,.load 1 false (.t 58)⟩,co 60 (.len false (.t 59)),co 61 (.bin .eql (.t 60) (.c (.v (.int .i64 0)))),cm 62 61,cg 63 62 true (.fadr 2 (.t 11)),⟨(some 64),(some (62,true)),.load 1 false (.t 63)⟩,cg 65 62 true (.un .not (.t 64)),co 66 (.pick (.t 62) (.t 65) (.c (.v (.bool false))))]) (.cond (.t 66) (.seq (.ops [8,9] [co 67 (.build [(.v (.bool false)),.emp,(.v (.int .i64 0))] []),⟨none,none,.store 3 (.t 8) (.t 67)⟩,co 9 (.mv (.c (.v (.int .i64 0))))]) (.ret)) (.skip))) (.seq (.ops [8,9] [co 68 (.fadr 0 (.t 4)),⟨(some 69),none,.load 1 false (.t 68)⟩,cm 70 12,co 71 (.eqc true 0 (.t 69) (.t 70)),⟨(some 72),none,.load 3 true (.t 11)⟩,cm 73 2,cm 74 3,⟨(some 75),none,.call (.c (.fn F.round_signed [] [])) [(.t 71),(.t 72),(.t 73),(.t 74)]⟩,co 76 (.ext 0 (.t 75)),co 77 (.ext 1 (.t 75)),⟨none,none,.store 3 (.t 8) (.t 76)⟩,cm 9 77]) (.ret)))
theorem CZ:xW=.seq (.ops [2,3,4,5,8] [⟨(some 4),none,.box 3 (.t 0)⟩,⟨(some 5),none,.box 3 (.t 1)⟩,⟨(some 8),none,.alloc [(.v (.bool false)),.emp,(.v (.int .i64 0))]⟩,co 9 (.mv (.c (.v (.int .i64 0))))]) (.seq (.seq (.ops [2,3,4,5,8,10] [cm 13 2,⟨(some 14),none,.load 3 true (.t 4)⟩,⟨(some 15),none,.load 3 true (.t 5)⟩,⟨(some 16),none,.buildSl 3 [(.v (.bool false)),.emp,(.v (.int .i64 0))] 2 [(0,(.t 14)),(1,(.t 15))]⟩,⟨(some 17),none,.call (.c (.fn F.round_fault [] [])) [(.t 13),(.t 16)]⟩,cm 10 17]) (.seq (.ops [2,3,4,5,8,10,19] [cm 18 10,co 19 (.bin .neq (.t 18) (.c (.v (.int .i64 0))))]) (.cond (.t 19) (.seq (.ops [8,9] [co 20 (.build [(.v (.bool false)),.emp,(.v (.int .i64 0))] []),cm 21 10,⟨none,none,.store 3 (.t 8) (.t 20)⟩,cm 9 21]) (.ret)) (.skip)))) (.seq (.block 0 [2,3,4,5,8] (.seq (.ops [2,3,4,5,8,22] [co 23 (.fadr 1 (.t 4)),⟨(some 24),none,.load 1 false (.t 23)⟩,co 25 (.len false (.t 24)),co 26 (.bin .eql (.t 25) (.c (.v (.int .i64 0)))),cm 22 26]) (.cond (.t 22) (.seq (.ops [8,9] [⟨(some 27),none,.load 3 true (.t 5)⟩,cm 28 2,cm 29 3,⟨(some 30),none,.call (.c (.fn F.round_round [] [])) [(.t 27),(.t 28),(.t 29)]⟩,co 31 (.ext 0 (.t 30)),co 32 (.ext 1 (.t 30)),⟨none,none,.store 3 (.t 8) (.t 31)⟩,cm 9 32]) (.ret)) (.seq (.ops [2,3,4,5,8,33] [co 34 (.fadr 1 (.t 5)),⟨(some 35),none,.load 1 false (.t 34)⟩,co 36 (.len false (.t 35)),co 37 (.bin .eql (.t 36) (.c (.v (.int .i64 0)))),cm 33 37]) (.cond (.t 33) (.seq (.ops [8,9] [⟨(some 38),none,.load 3 true (.t 4)⟩,cm 39 2,cm 40 3,⟨(some 41),none,.call (.c (.fn F.round_round [] [])) [(.t 38),(.t 39),(.t 40)]⟩,co 42 (.ext 0 (.t 41)),co 43 (.ext 1 (.t 41)),⟨none,none,.store 3 (.t 8) (.t 42)⟩,cm 9 43]) (.ret)) (.skip)))))) (.seq (.seq (.dops [2,3,4,5,8,48] [⟨(some 44),none,.load 3 true (.t 4)⟩,⟨(some 45),none,.call (.c (.fn F.dyadic_Top [] [])) [(.t 44)]⟩,⟨(some 46),none,.load 3 true (.t 5)⟩,⟨(some 47),none,.call (.c (.fn F.dyadic_Top [] [])) [(.t 46)]⟩,co 48 (.bin .lss (.t 45) (.t 47))] [(1,2)]) (.cond (.t 48) (.ops [2,3,4,5,8] [⟨(some 49),none,.load 3 true (.t 5)⟩,⟨(some 50),none,.load 3 true (.t 4)⟩,⟨none,none,.store 3 (.t 4) (.t 49)⟩,⟨none,none,.store 3 (.t 5) (.t 50)⟩]) (.skip))) ud))):=rfl
theorem akf{a b:Rd}(oa:Ok0 a)(ob:Ok0 b)(va:vd a=true)(vb:vd b=true)(na:a.m.length≠0)(nb:b.m.length≠0){p:Int}(hp:8<=p/\p<=512)(ht:aX b<=aX a):
  ae (Dx a b p).1.1<=4120∧-40000<=(Dx a b p).1.2.1/\(Dx a b p).1.2.1<=40000:=by
 have e1:=ji va na;have e2:=ji vb nb;obtain⟨a1,a2,a3,a4⟩:=dZ va oa.lb;obtain⟨b1,b2,b3,b4⟩:=dZ vb ob.lb;have l1:=RI (a:=a) (b:=b) (p:=p);have l2:=Oc va vb oa.lb ob.lb na nb hp ht;have ba:=fR (dv va na);have bb:=fR (dv vb nb);rw[RK];obtain⟨l,hl⟩:∃l,xN a b p=l:=⟨_,rfl⟩;rw[hl]at l1 l2⊢;have hX:ae (ab a.m*2^ (a.e-l).toNat)<=4100:=by
  rw[dA _ (dv va na)];omega
 have hY:ae (yZ b l).1<=4100:=by
  unfold yZ;split
  ·rw[dA _ (dv vb nb)];omega
  ·show ae (_/_)<=_;rw[mu];omega
 generalize(yZ b l).1=Y at hY⊢;generalize(yZ b l).2=lost;generalize ab a.m*2^ (a.e-l).toNat=X at hX⊢;have hU:ae (uW (Y,lost))<=4101:=by
  unfold uW;split
  ·have:=Tp Y;show ae (Y+1)<=4101;omega
  ·show ae Y<=4101;omega
 have hm:∀x y:Nat,x<=y->ae y<=4101->ae x<=4101:=fun x y h1 h2=>zA h1 h2;generalize hYU:uW (Y,lost)=YU at hU;unfold RJ;rw[hYU];split
 ·have:=B3 hX hY;exact⟨ay3 this δ,by show-40000<=l;omega,by show l<=40000;omega⟩
 ·split
  ·exact⟨ay3 (hm _ _ (Nat.sub_le _ _) hU) δ,by show-40000<=l;omega,by show l<=40000;omega⟩
  ·exact⟨ay3 (hm _ _ (Nat.sub_le _ _) (ay3 hX δ)) δ,by show-40000<=l;omega,by show l<=40000;omega⟩
theorem Tq{a b:Rd}(oa:Ok0 a)(ob:Ok0 b)(va:vd a=true)(vb:vd b=true)(na:a.m.length≠0)(nb:b.m.length≠0){n:Nat}{up:Bool}(hp:8<=n/\n<=512)(ht:aX b<=aX a)(s:ai)(h:ac)
  (h2:s 2=I (n:Nat)) (h3:s 3=B up) (h4:s 4=.ref 4 none 0 0 0) (h5:s 5=.ref 5 none 0 0 0) (h8:s 8=.ref 8 none 0 0 0)
  (k4:h 4=.bx (ak a)) (k5:h 5=.bx (ak b)) (k8:h 8=.bx [.v (.bool false),.emp,.v (.int .i64 0)]) (kd:∀i,i≠4->i≠5->i≠8->i≠16->h i=.dead):
  je false [[.o 0 [],.o 2 [],.o 0 []],[]] [.cell 8 3 true,.t 9] 0 (aj R (az false) ud s h)=some (rV (Xh a b (n:Nat) up),[]):=by
 have hs:=am6 oa ob va vb na nb (p:=(n:Nat)) ⟨by omega,by omega⟩ ht;obtain⟨g1,g2,g3⟩:=akf oa ob va vb na nb (p:=(n:Nat)) ⟨by omega,by omega⟩ ht;have hl:(au (Dx a b (n:Nat)).1.1).length<=256:=aT ω;have hg:=fun neg up=>GB (M:=au (Dx a b (n:Nat)).1.1) (e:=(Dx a b (n:Nat)).1.2.1) (n:=n) (more:=(Dx a b (n:Nat)).1.2.2) (up:=up) (neg:=neg) (bg _) hl ⟨g2,g3⟩ hp;unfold Xh;generalize Dx a b (n:Nat)=z at hs g1 g2 g3 hl hg⊢;obtain⟨⟨M,l,more⟩,t⟩:=z;simp only[sV,af,ak,ye]at hs hg k4 k5;simp only[aN]at hg;have hw:=hg (a.neg !=t) up;generalize hr:iw (a.neg !=t) (cQ M l more (n:Nat) (up != (a.neg !=t)))=r at hw;simp only[rV,af,ak]at hw;by_cases hM:M=0
 ·have e1:(((au M).length:Int)=0)=True:=tt (by rw[hM,fQ];rfl);cases more with
  |false=>
   rw[if_pos ⟨hM,rfl⟩];clear hr;simp only[ud,rV,af,ak,aG,go_sem,ne_eq,not_false_eq_true,h2,h3,h4,h5,h8,k4,k5,k8,kd,hs,e1]
  |true=>
   rw[if_neg (fun h=>ay9 h.2.symm)];rw[show iw (a.neg !=t) (cQ M l true (n:Nat) (up != (a.neg !=t)))=r from hr];clear hr;simp only[ud,rV,af,ak,go_sem,ne_eq,not_false_eq_true,h2,h3,h4,h5,h8,k4,k5,k8,kd,hs,e1,AW,hw]
 ·have e1:(((au M).length:Int)=0)=False:=ff (fun h=>hM (nJ.1 (List.length_eq_zero_iff.1 ω)));rw[if_neg (fun h=>hM h.1)];rw[show iw (a.neg !=t) (cQ M l more (n:Nat) (up != (a.neg !=t)))=r from hr];clear hr;simp only[ud,rV,af,ak,go_sem,ne_eq,not_false_eq_true,h2,h3,h4,h5,h8,k4,k5,k8,kd,hs,e1,AW,hw]
theorem ahI{a b:Rd}(oa:Ok0 a)(ob:Ok0 b){p:Int}{up:Bool}(h0:aY p [a,b]=0)(a0:a.m.length≠0)(b0:b.m.length≠0):R F.round_add [af a,af b,I p,B up] []=some (rV (RL a b p up),[]):=by
 refine av Nk rfl ?_;have hf:R F.round_fault [I p,.sl 3 [[B a.neg,lm a.m,I a.e],[B b.neg,lm b.m,I b.e]]] []=some (I (aY p [a,b]),[]):=B1 (p:=p) (l:=[a,b]) (fun x hx=>by
  rcases List.mem_cons.1 hx with h|h
  ·rw[h];exact oa
  ·rw[List.mem_singleton.1 h];exact ob) (show 2<=100000 by decide)
 rw[h0]at hf;obtain⟨v1,hp⟩:=vZ h0;have v4:vd a=true/\vd b=true:=by simpa using v1
 obtain⟨va,vb⟩:=v4;have ta:=CX oa;have tb:=CX ob;simp only[af,ak]at ta tb;obtain⟨n,rfl⟩:=az4 (show 0<=p by omega);have e1:((a.m.length:Int)=0)=False:=ff;have e2:((b.m.length:Int)=0)=False:=ff;unfold RL;rw[if_pos h0,if_neg a0,if_neg b0];by_cases ht:aX a<aX b
 ·have e3:(aX a<aX b)=True:=tt ht;rw[if_pos ht];simp only[n8,CZ,af,ak,go_sem,hf,e1,e2,ta,tb,e3];refine Tq ob oa vb va b0 a0 ω ω _ _ rfl rfl rfl rfl rfl rfl rfl rfl fun i h4 h5 h8 h16=>?_;simp only[cj,h4,h5,h8,h16,if_false]
 ·have e3:(aX a<aX b)=False:=ff ht;rw[if_neg ht];simp only[n8,CZ,af,ak,go_sem,hf,e1,e2,ta,tb,e3];refine Tq oa ob va vb a0 b0 ω ω _ _ rfl rfl rfl rfl rfl rfl rfl rfl fun i h4 h5 h8 h16=>?_;simp only[cj,h4,h5,h8,h16,if_false]
theorem aae{a b:Rd}(oa:Ok0 a)(ob:Ok0 b){p:Int}{up:Bool}:R F.round_add [af a,af b,I p,B up] []=some (rV (di a b p up),[]):=by
 rw[←ake oa ob];by_cases h0:aY p [a,b]=0
 ·by_cases a0:a.m.length=0
  ·exact Oe oa ob (Or.inr (Or.inl a0))
  ·by_cases b0:b.m.length=0
   ·exact Oe oa ob (Or.inr (Or.inr b0))
   ·exact ahI oa ob h0 a0 b0
 ·exact Oe oa ob (Or.inl h0)
theorem Xl{a b:Rd}(oa:Ok0 a)(ob:Ok0 b){p:Int}:R F.round_AddUp [af a,af b,I p] []=some (rV (di a b p true),[]):=by
 refine av Ur rfl ?_;have hr:=aae oa ob (p:=p) (up:=true);generalize di a b p true=r at hr⊢;simp only[rV,af,ak]at hr;simp only[BG,JK,rV,af,ak,go_sem,hr]
theorem I7{a b:Rd}(oa:Ok0 a)(ob:Ok0 b){p:Int}:R F.round_AddDown [af a,af b,I p] []=some (rV (di a b p false),[]):=by
 refine av PC rfl ?_;have hr:=aae oa ob (p:=p) (up:=false);generalize di a b p false=r at hr⊢;simp only[rV,af,ak]at hr;simp only[yJ,Gi,rV,af,ak,go_sem,hr]
theorem Ts{a b:Rd}(oa:Ok0 a)(ob:Ok0 b){p:Int}:R F.round_MulUp [af a,af b,I p] []=some (rV (fS a b p true),[]):=by
 rw[←aac oa ob];exact ahE oa ob
theorem Nl{a b:Rd}(oa:Ok0 a)(ob:Ok0 b){p:Int}:R F.round_MulDown [af a,af b,I p] []=some (rV (fS a b p false),[]):=by
 rw[←aac oa ob];exact acS oa ob
def cu(d:Rd)(p:Int)(up:Bool):Rd×Int:=if aY p [d]=0 then jV (zI d) (-16384) p up else(aG,aY p [d])
theorem aaf{d:Rd}(ok:Ok0 d){p:Int}:R F.round_Up [af d,I p] []=some (rV (cu d p true),[]):=by
 have h:=GD ok (p:=p) (up:=true);rw[cu,←h];exact am5 ok
theorem Tt{d:Rd}(ok:Ok0 d){p:Int}:R F.round_Down [af d,I p] []=some (rV (cu d p false),[]):=by
 have h:=GD ok (p:=p) (up:=false);rw[cu,←h];exact ahD ok
structure Ri where
 lo:Rd
 hi:Rd
 all:Bool
def ax(x:Ri):List AV:=[B x.lo.neg,lm x.lo.m,I x.lo.e,B x.hi.neg,lm x.hi.m,I x.hi.e,B x.all]
def ap(x:Ri):AV:=.agg (ax x)
def ed:Ri:=⟨aG,aG,true⟩
structure OkI (x:Ri):Prop where
 lo:Ok0 x.lo
 hi:Ok0 x.hi
def z0(d:Rd):Bool:=!d.neg&& (decide (d.m.length=0)&&decide (d.e=0))
def vi(x:Ri):Bool:=if x.all=true then z0 x.lo&&z0 x.hi else vd x.lo&& (vd x.hi&&decide (zI x.lo<=zI x.hi))
def kI(x:Ri):Bool:=!x.all&&vi x
def bO(p:Int):Bool:=decide (8<=p)&&decide (p<=512)
theorem we{p:Int}:R F.interval_permitted [I p] []=some (B (bO p),[]):=by
 refine av IX rfl ?_;unfold bO;by_cases h1:8<=p
 ·have e1:(8<=p)=True:=tt h1;simp only[lW,sJ,go_sem,e1,decide_true,ay5]
 ·have e1:(8<=p)=False:=ff h1;simp only[lW,sJ,go_sem,e1,decide_false,ay6]
theorem oF:R F.interval_Whole [] []=some (ap ed,[]):=by
 refine av NL rfl ?_;simp only[xx,EL,ap,ax,ed,aG,go_sem]
theorem ajm{d:Rd}:R F.interval_Valid_1 [af d] []=some (B (z0 d),[]):=by
 refine av KZ rfl ?_;unfold z0;cases hn:d.neg with
 |true=>simp only[iM,lC,af,ak,go_sem,hn,Bool.not_true,ay6]
 |false=>
  by_cases h1:d.m.length=0
  ·have e1:((d.m.length:Int)=0)=True:=tt;by_cases h2:d.e=0
   ·have e2:(d.e=0)=True:=tt h2;rw[decide_eq_true h1,decide_eq_true h2];simp only[iM,lC,af,ak,go_sem,hn,e1,e2,Bool.not_false,ay5]
   ·have e2:(d.e=0)=False:=ff h2;rw[decide_eq_true h1,decide_eq_false h2];simp only[iM,lC,af,ak,go_sem,hn,e1,e2,Bool.not_false,ay5]
  ·have e1:((d.m.length:Int)=0)=False:=ff;rw[decide_eq_false h1];simp only[iM,lC,af,ak,go_sem,hn,e1,Bool.not_false,ay5,ay6]
theorem HZ{x y:Int}:(eJ x y<=0)=(x<=y):=by
 grind[eJ]
theorem qt{x:Ri}(ok:OkI x):R F.interval_Valid [ap x] []=some (B (vi x),[]):=by
 refine av NJ rfl ?_;unfold vi;have zl:=ajm (d:=x.lo);have zh:=ajm (d:=x.hi);have vl:=eF ok.lo;have vh:=eF ok.hi;have hc:=rR ok.lo ok.hi;simp only[af,ak]at zl zh vl vh hc;cases ha:x.all with
 |true=>
  cases h1:z0 x.lo with
  |true=>
   rw[h1]at zl;simp only[ip,kR,ap,ax,go_sem,ha,zl,zh,ay5]
  |false=>
   rw[h1]at zl;simp only[ip,kR,ap,ax,go_sem,ha,zl,ay6]
 |false=>
  cases h1:vd x.lo with
  |false=>
   rw[h1]at vl;simp only[ip,kR,ap,ax,go_sem,ha,vl,ay6]
  |true=>
   rw[h1]at vl;cases h2:vd x.hi with
   |false=>
    rw[h2]at vh;simp only[ip,kR,ap,ax,go_sem,ha,vl,vh,ay5,ay6]
   |true=>
    rw[h2]at vh;rw[h1,h2,if_pos ⟨rfl,rfl⟩]at hc;simp only[ip,kR,ap,ax,go_sem,ha,vl,vh,hc,HZ,ay5]
theorem jY{d:Rd}(ok:Ok0 d)(hv:vd d=true):R F.interval_Point [af d] []=some (ap ⟨d,d,false⟩,[]):=by
 refine av NO rfl ?_;have vl:=eF ok;rw[hv]at vl;simp only[af,ak]at vl;simp only[xz,EP,af,ak,ap,ax,go_sem,vl]
def uX(r s:Rd×Int):Ri:=if r.2=0/\s.2=0 then⟨r.1,s.1,false⟩else ed
theorem RN{a b:Rd}{e f:Int}:R F.interval_made [af a,I e,af b,I f] []=some (ap (uX (a,e) (b,f)),[]):=by
 refine av PG rfl ?_;have hw:=oF;unfold uX;by_cases h1:e=0
 ·have e1:(e=0)=True:=tt h1;by_cases h2:f=0
  ·have e2:(f=0)=True:=tt h2;simp only[n7,uP,af,ak,ap,ax,go_sem,e1,e2]
  ·have e2:(f=0)=False:=ff h2;simp only[n7,uP,af,ak,ap,ax,go_sem,e1,e2,hw]
 ·have e1:(e=0)=False:=ff h1;simp only[n7,uP,af,ak,ap,ax,go_sem,e1,hw]
def bK(l:List Ri):List (List AV):=l.map ax
@[go_sem] theorem Ed(l:List Ri):(bK l).length=l.length:=by simp[bK]
theorem L7{l:List Ri}{i:Int}{n:Nat}{d:Ri}(hi:i=n)(h:l[n]?=some d):aU (bK l) i=some (.ipt (ax d)):=by
 grind[aU,bK]
theorem acU(l:List Ri)(ok:∀d∈l,OkI d)(h2:l.length<=100000):∀ (k i:Nat),i+k=l.length->∀ (s:ai) (h:ac),s 5=.sl 7 (bK l)->s 6=I l.length->s 7=I i->
  ∃hh,ah 0 [] (aq (aj R (az false) iN) [5,6,7] [] s h)=if((l.drop i).all kI)=true then some (.normal,⟨fun _=>.any,fun _=>.dead⟩)else some (.ret,⟨upd (fun _=>.any) 2 (B false),hh⟩):=by
 intro k;induction k with
 |zero=>
  intro i hi s h h5 h6 h7;have e1:((i:Int)<l.length)=False:=ff;rw[azi ω,ag,azX,if_pos rfl];refine⟨fun _=>.dead,?_⟩;simp only[iN,go_sem,h5,h6,h7,e1]
 |succ k ih=>
  intro i hi s h h5 h6 h7;have hlt:i<l.length:=ω
  have e1:((i:Int)<l.length)=True:=tt;have e2:aU (bK l) (i:Int)=some (.ipt (ax l[i])):=L7 rfl (List.getElem?_eq_getElem hlt);have e5:IntKind.i64.wrap ((i:Int)+1)=((i+1:Nat):Int):=wi;have e3:=qt (ok l[i] (azo hlt));rw[azj hlt,azm,ag];have ih':=ih (i+1) ω;generalize l[i]=d at e2 e3⊢;simp only[ap]at e3;simp only[ax]at e2 e3;unfold kI at ih'⊢;cases ha:d.all with
  |true=>
   refine⟨?hh,?_⟩;rotate_left;simp only[iN,go_sem,h5,h6,h7,e1,e2,ha];rfl
  |false=>
   rw[ha]at e3;cases hv:vi d with
   |false=>
    rw[hv]at e3;refine⟨?hh2,?_⟩;rotate_left;simp only[iN,go_sem,h5,h6,h7,e1,e2,e3,ha];rfl
   |true=>
    rw[hv]at e3;simp only[iN,go_sem,h5,h6,h7,e1,e2,e3,e5,ha];exact ih' _ _ rfl rfl rfl
theorem Xm{l:List Ri}(ok:∀d∈l,OkI d)(h2:l.length<=100000):R F.interval_known [.sl 7 (bK l)] []=some (B (l.all kI),[]):=by
 refine av NM rfl ?_;have h3:=acU l ok h2 l.length 0 (ayX _);simp only[azZ,azC]at h3;cases ha:l.all kI with
 |false=>
  rw[ha]at h3;simp only[qT,yI,go_sem];rw[(h3 _ _ rfl rfl rfl).choose_spec];simp only[go_sem]
 |true=>
  rw[ha]at h3;simp only[qT,yI,go_sem];rw[(h3 _ _ rfl rfl rfl).choose_spec];simp only[go_sem]
theorem wh{x:Ri}(ok:OkI x):R F.interval_known [.sl 7 [[B x.lo.neg,lm x.lo.m,I x.lo.e,B x.hi.neg,lm x.hi.m,I x.hi.e,B x.all]]] []=some (B (kI x),[]):=by
 have h:=Xm (l:=[x]) (fun d hd=>by grind) (show 1<=100000 by decide);rw[azm,azX,az1]at h;exact h
theorem GE{x y:Ri}(ox:OkI x)(oy:OkI y):R F.interval_known [.sl 7 [[B x.lo.neg,lm x.lo.m,I x.lo.e,B x.hi.neg,lm x.hi.m,I x.hi.e,B x.all],[B y.lo.neg,lm y.lo.m,I y.lo.e,B y.hi.neg,lm y.hi.m,I y.hi.e,B y.all]]] []=some (B (kI x&&kI y),[]):=by
 have h:=Xm (l:=[x,y]) (fun d hd=>by
  grind) (show 2<=100000 by decide)
 rw[azm,azm,azX,az1]at h;exact h
def gJ(x y:Ri)(p:Int):Ri:=if(kI x&&kI y&&bO p)=true then uX (di x.lo y.lo p false) (di x.hi y.hi p true)else ed
theorem B6{x y:Ri}(ox:OkI x)(oy:OkI y){p:Int}:R F.interval_Add [ap x,ap y,I p] []=some (ap (gJ x y p),[]):=by
 refine av Q8 rfl ?_;have hk:=GE ox oy;have hp:=we (p:=p);have hw:=oF;have hd:=I7 ox.lo oy.lo (p:=p);have hu:=Xl ox.hi oy.hi (p:=p);unfold gJ;generalize di x.lo y.lo p false=r at hd⊢;generalize di x.hi y.hi p true=q at hu⊢;obtain⟨r1,r2⟩:=r;obtain⟨q1,q2⟩:=q;have hm:=RN (a:=r1) (b:=q1) (e:=r2) (f:=q2);simp only[ap,ax,rV,af,ak]at hw hd hu hm;cases h1:(kI x&&kI y)with
 |false=>
  rw[h1]at hk;simp only[pR,wC,ap,ax,go_sem,hk,hw]
 |true=>
  rw[h1]at hk;cases h2:bO p with
  |false=>
   rw[h2]at hp;simp only[pR,wC,ap,ax,go_sem,hk,hp,hw]
  |true=>
   rw[h2]at hp;simp only[pR,wC,ap,ax,go_sem,hk,hp,hw,hd,hu,hm]
def fg(a b:Rd):Int:=if vd a=true/\vd b=true then eJ (zI a) (zI b)else 0
def lu(a b:Rd):Rd:=if fg a b<=0 then a else b
def lw(a b:Rd):Rd:=if 0<=fg a b then a else b
theorem RP{a b:Rd}(oa:Ok0 a)(ob:Ok0 b):R F.interval_less [af a,af b] []=some (af (lu a b),[]):=by
 refine av PL rfl ?_;have hc:=rR oa ob;rw[show(if vd a=true/\vd b=true then eJ (zI a) (zI b)else 0)=fg a b from rfl]at hc;simp only[af,ak]at hc;unfold lu;by_cases h:fg a b<=0
 ·have e1:(fg a b<=0)=True:=tt h;simp only[sP,AG,af,ak,go_sem,hc,e1]
 ·have e1:(fg a b<=0)=False:=ff h;simp only[sP,AG,af,ak,go_sem,hc,e1]
theorem RQ{a b:Rd}(oa:Ok0 a)(ob:Ok0 b):R F.interval_more [af a,af b] []=some (af (lw a b),[]):=by
 refine av PK rfl ?_;have hc:=rR oa ob;rw[show(if vd a=true/\vd b=true then eJ (zI a) (zI b)else 0)=fg a b from rfl]at hc;simp only[af,ak]at hc;unfold lw;by_cases h:0<=fg a b
 ·have e1:(0<=fg a b)=True:=tt h;simp only[sO,AF,af,ak,go_sem,hc,e1]
 ·have e1:(0<=fg a b)=False:=ff h;simp only[sO,AF,af,ak,go_sem,hc,e1]
theorem aqc{x:Ri}(h:kI x=true):vd x.lo=true/\vd x.hi=true/\zI x.lo<=zI x.hi/\x.all=false:=by
 unfold kI vi at h;grind
theorem aqd{x:Ri}(h1:vd x.lo=true)(h2:vd x.hi=true)(h3:zI x.lo<=zI x.hi)(h4:x.all=false):kI x=true:=by
 grind[kI,vi,decide_eq_true]
def K9(x:Ri):Int:=if 0<gx x.lo then 1 else if gx x.hi<0 then-1 else 0
theorem Xn{x:Ri}(ok:OkI x)(hx:kI x=true):R F.interval_Sign [ap x] []=some (I (K9 x),[]):=by
 refine av PA rfl ?_;obtain⟨v1,v2,v3,v4⟩:=aqc hx;have hk:=wh ok;rw[hx]at hk;have s1:=Ft ok.lo v1;have s2:=Ft ok.hi v2;simp only[af,ak]at s1 s2;unfold K9;by_cases h1:0<gx x.lo
 ·have e1:(0<gx x.lo)=True:=tt h1;simp only[nU,uL,ap,ax,go_sem,hk,s1,e1]
 ·have e1:(0<gx x.lo)=False:=ff h1;by_cases h2:gx x.hi<0
  ·have e2:(gx x.hi<0)=True:=tt h2;simp only[nU,uL,ap,ax,go_sem,hk,s1,e1,s2,e2]
  ·have e2:(gx x.hi<0)=False:=ff h2;simp only[nU,uL,ap,ax,go_sem,hk,s1,e1,s2,e2]
def s9(d:Rd):Rd:=if vd d=false\/d.m.length=0 then aG else⟨false,d.m,d.e⟩
theorem aV:vd aG=true/\Ok0 aG:=⟨rfl,⟨fun x hx=>(nomatch hx),by decide⟩⟩
theorem zB{d:Rd}(ok:Ok0 d):Ok0 (s9 d):=by
 unfold s9;split
 ·exact aV.2
 ·exact⟨ok.1,ok.2⟩
def B7(x:Ri):Rd:=if K9 x=0 then aG else lu (s9 x.lo) (s9 x.hi)
def I8(x:Ri):Rd:=lw (s9 x.lo) (s9 x.hi)
theorem am7{x:Ri}(ok:OkI x)(hx:kI x=true):R F.interval_Mig [ap x] []=some (.tup [af (B7 x),B true],[]):=by
 refine av Ro rfl ?_;have hk:=wh ok;rw[hx]at hk;have hs:=Xn ok hx;have a1:=PU ok.lo;have a2:=PU ok.hi;rw[show(if vd x.lo=false\/x.lo.m.length=0 then aG else(⟨false,x.lo.m,x.lo.e⟩:Rd))=s9 x.lo from rfl]at a1;rw[show(if vd x.hi=false\/x.hi.m.length=0 then aG else(⟨false,x.hi.m,x.hi.e⟩:Rd))=s9 x.hi from rfl]at a2;have hl:=RP (zB ok.lo) (zB ok.hi);unfold B7;simp only[ap,ax,af,ak]at hs a1 a2 hl;by_cases h1:K9 x=0
 ·have e1:(K9 x=0)=True:=tt h1;simp only[uV,BS,ap,ax,af,ak,aG,go_sem,hk,hs,e1]
 ·have e1:(K9 x=0)=False:=ff h1;simp only[uV,BS,ap,ax,af,ak,go_sem,hk,hs,e1,a1,a2,hl]
theorem am8{x:Ri}(ok:OkI x)(hx:kI x=true):R F.interval_Mag [ap x] []=some (.tup [af (I8 x),B true],[]):=by
 refine av Rq rfl ?_;have hk:=wh ok;rw[hx]at hk;have a1:=PU ok.lo;have a2:=PU ok.hi;rw[show(if vd x.lo=false\/x.lo.m.length=0 then aG else(⟨false,x.lo.m,x.lo.e⟩:Rd))=s9 x.lo from rfl]at a1;rw[show(if vd x.hi=false\/x.hi.m.length=0 then aG else(⟨false,x.hi.m,x.hi.e⟩:Rd))=s9 x.hi from rfl]at a2;have hl:=RQ (zB ok.lo) (zB ok.hi);unfold I8;simp only[af,ak]at a1 a2 hl;simp only[AK,HI,ap,ax,af,ak,go_sem,hk,a1,a2,hl]
def wj(x:Ri):Ri:=if kI x=true then⟨B7 x,I8 x,false⟩else ed
theorem akg{x:Ri}(ok:OkI x):R F.interval_Abs [ap x] []=some (ap (wj x),[]):=by
 refine av Rb rfl ?_;have hk:=wh ok;have hw:=oF;unfold wj;cases hx:kI x with
 |false=>
  rw[hx]at hk;simp only[uQ,BL,ap,ax,go_sem,hk,hw]
 |true=>
  rw[hx]at hk;have h1:=am7 ok hx;have h2:=am8 ok hx;simp only[ap,ax,af,ak]at h1 h2;simp only[uQ,BL,ap,ax,go_sem,hk,h1,h2]
def w9(dn up:Rd->Rd->Rd×Int)(pr:Nat->Rd×Rd):Nat->Nat->Rd×Rd->Option (Rd×Rd)
 |0,_,o=>some o
 |k+1,i,o=>if(dn (pr i).1 (pr i).2).2=0/\(up (pr i).1 (pr i).2).2=0 then
   w9 dn up pr k (i+1) (if fg (dn (pr i).1 (pr i).2).1 o.1<0 then(dn (pr i).1 (pr i).2).1 else o.1,if 0<fg (up (pr i).1 (pr i).2).1 o.2 then(up (pr i).1 (pr i).2).1 else o.2)
  else none
def re(dn up:Rd->Rd->Rd×Int)(pr:Nat->Rd×Rd):Option (Rd×Rd):=
 if(dn (pr 0).1 (pr 0).2).2=0/\(up (pr 0).1 (pr 0).2).2=0 then w9 dn up pr 3 1 ((dn (pr 0).1 (pr 0).2).1,(up (pr 0).1 (pr 0).2).1)else none
def JY:Option (Rd×Rd)->Ri
 |some o=>⟨o.1,o.2,false⟩
 |none=>ed
def UY(x:Option (Ex×St))(o:Option (Rd×Rd)):Prop:=match o with
 |some q=>∃hh,x=some (.normal,⟨upd (upd (fun _=>.any) 12 (.ref 12 none 0 0 0)) 10 (.ref 10 none 0 0 0),hh⟩)/\hh 10=.bx [.v (.bool false),.emp,.v (.int .i64 0),.v (.bool false),.emp,.v (.int .i64 0),.v (.bool false)]/\hh 12=.bx (ax ⟨q.1,q.2,false⟩)
 |none=>∃hh,x=some (.ret,⟨upd (fun _=>.any) 10 (.ref 10 none 0 0 0),hh⟩)/\hh 10=.bx (ax ed)
theorem Ee{a b:Rd}{p:Int}{up:Bool}:Ok0 (fS a b p up).1:=by
 unfold fS;split
 ·exact ub.2
 ·exact aV.2
structure Op2 (f:FuncId) (g:Rd->Rd->Rd×Int) (p:Int):Prop where
 ct:∀ {a b:Rd},Ok0 a->Ok0 b->R f [af a,af b,I p] []=some (rV (g a b),[])
 ok:∀ {a b:Rd},Ok0 (g a b).1
 s:Gu f [[.o 0 [],.o 2 [],.o 0 []],[.o 0 [],.o 2 [],.o 0 []],[]]
 m:Gv f []
 k:Gw f false
 c:Nj f
theorem aeM{p:Int}{A:AV}{pr:Nat->Rd×Rd}{fD fU:FuncId}{dn up:Rd->Rd->Rd×Int}(oD:Op2 fD dn p)(oU:Op2 fU up p)(hA:gS [10,12] A=A)(hidx:∀i:Nat,i<4->LK 4 6 true A (I i)=some (.agg [B (pr i).1.neg,lm (pr i).1.m,I (pr i).1.e,B (pr i).2.neg,lm (pr i).2.m,I (pr i).2.e]))
  (hok:∀i,Ok0 (pr i).1/\Ok0 (pr i).2):∀ (k i:Nat),i+k=4->1<=i->∀ (lo hi:Rd) (s:ai) (h:ac),Ok0 lo->Ok0 hi->s 2=I p->s 3=.fn fD [] []->s 4=.fn fU [] []->s 10=.ref 10 none 0 0 0->s 12=.ref 12 none 0 0 0->s 40=A->s 41=I i->
  h 10=.bx [.v (.bool false),.emp,.v (.int .i64 0),.v (.bool false),.emp,.v (.int .i64 0),.v (.bool false)]->h 12=.bx (ax ⟨lo,hi,false⟩)->
  UY (ah 0 [10,12] (aq (aj R (az false) bB) [2,3,4,10,12,40,41] [10,12] s h)) (w9 dn up pr k i (lo,hi)):=by
 intro k;induction k with
 |zero=>
  intro i hi4 h1 lo hi s h olo ohi h2 h3 h4 h10 h12 h40 h41 k10 k12;have e1:((i:Int)<4)=False:=ff;simp only[ax]at k12;rw[ag];refine⟨?hh0,?_,?_,?_⟩;rotate_left
  ·simp only[bB,go_sem,h2,h3,h4,h10,h12,h40,h41,k10,k12,hA,e1];rfl
  ·rfl
  ·rfl
 |succ k ih=>
  intro i hi4 h1 lo hi s h olo ohi h2 h3 h4 h10 h12 h40 h41 k10 k12;have e1:((i:Int)<4)=True:=tt;have e0:((i:Int)=0)=False:=ff;have ei:=hidx i ω;have e5:IntKind.i64.wrap ((i:Int)+1)=((i+1:Nat):Int):=wi;have hd:=oD.ct (hok i).1 (hok i).2;have hu:=oU.ct (hok i).1 (hok i).2;have hw:=oF;have okd:=oD.ok (a:=(pr i).1) (b:=(pr i).2);have oku:=oU.ok (a:=(pr i).1) (b:=(pr i).2);have c1:=rR okd olo;have c2:=rR oku ohi;rw[show∀a b:Rd,(if vd a=true/\vd b=true then eJ (zI a) (zI b)else 0)=fg a b from fun _ _=>rfl]at c1 c2;have ih':=ih (i+1) ω ω;unfold w9;simp only[ax]at k12;show UY _ (if(dn (pr i).1 (pr i).2).2=0/\(up (pr i).1 (pr i).2).2=0 then _ else none);generalize dn (pr i).1 (pr i).2=r at hd okd c1⊢;generalize up (pr i).1 (pr i).2=q at hu oku c2⊢;obtain⟨r1,r2⟩:=r;obtain⟨q1,q2⟩:=q;show UY _ (if r2=0/\q2=0 then w9 dn up pr k (i+1) (if fg r1 lo<0 then r1 else lo,if 0<fg q1 hi then q1 else hi)else none);simp only[rV,af,ak,ap,ax,ed,aG]at hd hu hw c1 c2;rw[ag];generalize aq _ _ _=L at ih'⊢;by_cases hr:r2=0
  ·have er:(r2=0)=True:=tt hr;by_cases hq:q2=0
   ·have eq:(q2=0)=True:=tt hq;rw[if_pos (show r2=0/\q2=0 from⟨hr,hq⟩)];by_cases g1:fg r1 lo<0
    ·have f1:(fg r1 lo<0)=True:=tt g1;by_cases g2:0<fg q1 hi
     ·have f2:(0<fg q1 hi)=True:=tt g2;rw[if_pos g1,if_pos g2];simp only[bB,Int.cast_ofNat_Int,go_sem,oD.s,oD.m,oD.k,oD.c,oU.s,oU.m,oU.k,oU.c,aza,azh,azu,h2,h3,h4,h10,h12,h40,h41,k10,k12,hA,e1,e0,ei,hd,hu,er,eq,c1,c2,f1,f2,e5];exact ih' r1 q1 _ _ okd oku rfl rfl rfl rfl rfl rfl rfl rfl rfl
     ·have f2:(0<fg q1 hi)=False:=ff g2;rw[if_pos g1,if_neg g2];simp only[bB,Int.cast_ofNat_Int,go_sem,oD.s,oD.m,oD.k,oD.c,oU.s,oU.m,oU.k,oU.c,aza,azh,azu,h2,h3,h4,h10,h12,h40,h41,k10,k12,hA,e1,e0,ei,hd,hu,er,eq,c1,c2,f1,f2,e5];exact ih' r1 hi _ _ okd ohi rfl rfl rfl rfl rfl rfl rfl rfl rfl
    ·have f1:(fg r1 lo<0)=False:=ff g1;by_cases g2:0<fg q1 hi
     ·have f2:(0<fg q1 hi)=True:=tt g2;rw[if_neg g1,if_pos g2];simp only[bB,Int.cast_ofNat_Int,go_sem,oD.s,oD.m,oD.k,oD.c,oU.s,oU.m,oU.k,oU.c,aza,azh,azu,h2,h3,h4,h10,h12,h40,h41,k10,k12,hA,e1,e0,ei,hd,hu,er,eq,c1,c2,f1,f2,e5];exact ih' lo q1 _ _ olo oku rfl rfl rfl rfl rfl rfl rfl rfl rfl
     ·have f2:(0<fg q1 hi)=False:=ff g2;rw[if_neg g1,if_neg g2];simp only[bB,Int.cast_ofNat_Int,go_sem,oD.s,oD.m,oD.k,oD.c,oU.s,oU.m,oU.k,oU.c,aza,azh,azu,h2,h3,h4,h10,h12,h40,h41,k10,k12,hA,e1,e0,ei,hd,hu,er,eq,c1,c2,f1,f2,e5];exact ih' lo hi _ _ olo ohi rfl rfl rfl rfl rfl rfl rfl rfl rfl
   ·have eq:(q2=0)=False:=ff hq;rw[if_neg (show¬(r2=0/\q2=0)from fun h=>hq h.2)];refine⟨?hh1,?_,?_⟩;rotate_left
    ·simp only[bB,Int.cast_ofNat_Int,go_sem,oD.s,oD.m,oD.k,oD.c,oU.s,oU.m,oU.k,oU.c,aza,azh,azu,h2,h3,h4,h10,h12,h40,h41,k10,k12,hA,e1,ei,hd,hu,er,eq,hw];rfl
    ·rfl
  ·have er:(r2=0)=False:=ff hr;rw[if_neg (show¬(r2=0/\q2=0)from fun h=>hr h.1)];refine⟨?hh2,?_,?_⟩;rotate_left
   ·simp only[bB,Int.cast_ofNat_Int,go_sem,oD.s,oD.m,oD.k,oD.c,oU.s,oU.m,oU.k,oU.c,aza,azh,azu,h2,h3,h4,h10,h12,h40,h41,k10,k12,hA,e1,ei,hd,hu,er,hw];rfl
   ·rfl
theorem acV{p:Int}{A:AV}{pr:Nat->Rd×Rd}{fD fU:FuncId}{dn up:Rd->Rd->Rd×Int}(oD:Op2 fD dn p)(oU:Op2 fU up p)(hA:gS [10,12] A=A)(hidx:∀i:Nat,i<4->LK 4 6 true A (I i)=some (.agg [B (pr i).1.neg,lm (pr i).1.m,I (pr i).1.e,B (pr i).2.neg,lm (pr i).2.m,I (pr i).2.e]))
  (hok:∀i,Ok0 (pr i).1/\Ok0 (pr i).2) (s:ai) (h:ac) (h2:s 2=I p) (h3:s 3=.fn fD [] []) (h4:s 4=.fn fU [] []) (h10:s 10=.ref 10 none 0 0 0) (h12:s 12=.ref 12 none 0 0 0) (h40:s 40=A) (h41:s 41=I 0)
  (k10:h 10=.bx [.v (.bool false),.emp,.v (.int .i64 0),.v (.bool false),.emp,.v (.int .i64 0),.v (.bool false)]) (k12:h 12=.bx [.v (.bool false),.emp,.v (.int .i64 0),.v (.bool false),.emp,.v (.int .i64 0),.v (.bool false)]):
  UY (ah 0 [10,12] (aq (aj R (az false) bB) [2,3,4,10,12,40,41] [10,12] s h)) (re dn up pr):=by
 have ei:=hidx 0 δ;simp only[azC]at ei;have hd:=oD.ct (hok 0).1 (hok 0).2;have hu:=oU.ct (hok 0).1 (hok 0).2;have hw:=oF;have okd:=oD.ok (a:=(pr 0).1) (b:=(pr 0).2);have oku:=oU.ok (a:=(pr 0).1) (b:=(pr 0).2);have ih':=aeM (p:=p) (A:=A) (pr:=pr) oD oU hA hidx hok 3 1 rfl δ;unfold re;generalize dn (pr 0).1 (pr 0).2=r at hd okd⊢;generalize up (pr 0).1 (pr 0).2=q at hu oku⊢;obtain⟨r1,r2⟩:=r;obtain⟨q1,q2⟩:=q;simp only[rV,af,ak,ap,ax,ed,aG]at hd hu hw;rw[ag];have e6:IntKind.i64.wrap (0+1)=1:=rfl;by_cases hr:r2=0
 ·have er:(r2=0)=True:=tt hr;by_cases hq:q2=0
  ·have eq:(q2=0)=True:=tt hq;simp only[bB,Int.cast_ofNat_Int,go_sem,oD.s,oD.m,oD.k,oD.c,oU.s,oU.m,oU.k,oU.c,aza,azh,azu,h2,h3,h4,h10,h12,h40,h41,k10,k12,hA,ei,hd,hu,er,eq,e6];exact ih' r1 q1 _ _ okd oku rfl rfl rfl rfl rfl rfl rfl rfl rfl
  ·have eq:(q2=0)=False:=ff hq;rw[if_neg (show¬(r2=0/\q2=0)from fun h=>hq h.2)];refine⟨?hh3,?_,?_⟩;rotate_left
   ·simp only[bB,Int.cast_ofNat_Int,go_sem,oD.s,oD.m,oD.k,oD.c,oU.s,oU.m,oU.k,oU.c,aza,azh,azu,h2,h3,h4,h10,h12,h40,h41,k10,k12,hA,ei,hd,hu,er,eq,hw];rfl
   ·rfl
 ·have er:(r2=0)=False:=ff hr;rw[if_neg (show¬(r2=0/\q2=0)from fun h=>hr h.1)];refine⟨?hh4,?_,?_⟩;rotate_left
  ·simp only[bB,Int.cast_ofNat_Int,go_sem,oD.s,oD.m,oD.k,oD.c,oU.s,oU.m,oU.k,oU.c,aza,azh,azu,h2,h3,h4,h10,h12,h40,h41,k10,k12,hA,ei,hd,hu,er,hw];rfl
  ·rfl
def gL(x y:Ri)(i:Nat):Rd×Rd:=match i with
 |0=>(x.lo,y.lo)
 |1=>(x.lo,y.hi)
 |2=>(x.hi,y.lo)
 |_=>(x.hi,y.hi)
def gX(x y:Ri)(p:Int):Ri:=if(kI x&&kI y&&bO p)=true then JY (re (fun a b=>fS a b p false) (fun a b=>fS a b p true) (gL x y))else ed
noncomputable def DL:Cmd:=.seq (.seq (.ops [2,3,4,10,12,40,41] [⟨(some 40),none,.load 24 true (.t 11)⟩,co 41 (.mv (.c (.v (.int .i64 0))))]) (.block 0 [10,12] (.loop [2,3,4,10,12,40,41] [10,12] bB))) (.seq (.ops [10] [⟨(some 95),none,.load 7 true (.t 12)⟩,⟨none,none,.store 7 (.t 10) (.t 95)⟩]) (.ret))
theorem Hk:Gk=.seq (.ops [2,3,4,5,6,10] [⟨(some 5),none,.box 7 (.t 0)⟩,⟨(some 6),none,.box 7 (.t 1)⟩,⟨(some 10),none,.alloc [(.v (.bool false)),.emp,(.v (.int .i64 0)),(.v (.bool false)),.emp,(.v (.int .i64 0)),(.v (.bool false))]⟩]) (.seq (.ops [2,3,4,10,11] [co 19 (.fadr 0 (.t 5)),⟨(some 20),none,.load 3 true (.t 19)⟩,co 21 (.fadr 0 (.t 6)),⟨(some 22),none,.load 3 true (.t 21)⟩,co 23 (.build [(.v (.bool false)),.emp,(.v (.int .i64 0)),(.v (.bool false)),.emp,(.v (.int .i64 0))] [(0,3,(.t 20)),(3,3,(.t 22))]),co 24 (.fadr 0 (.t 5)),⟨(some 25),none,.load 3 true (.t 24)⟩,co 26 (.fadr 3 (.t 6)),⟨(some 27),none,.load 3 true (.t 26)⟩,co 28 (.build [(.v (.bool false)),.emp,(.v (.int .i64 0)),(.v (.bool false)),.emp,(.v (.int .i64 0))] [(0,3,(.t 25)),(3,3,(.t 27))]),co 29 (.fadr 3 (.t 5)),⟨(some 30),none,.load 3 true (.t 29)⟩,co 31 (.fadr 0 (.t 6)),⟨(some 32),none,.load 3 true (.t 31)⟩,co 33 (.build [(.v (.bool false)),.emp,(.v (.int .i64 0)),(.v (.bool false)),.emp,(.v (.int .i64 0))] [(0,3,(.t 30)),(3,3,(.t 32))]),co 34 (.fadr 3 (.t 5)),⟨(some 35),none,.load 3 true (.t 34)⟩,co 36 (.fadr 3 (.t 6)),⟨(some 37),none,.load 3 true (.t 36)⟩,co 38 (.build [(.v (.bool false)),.emp,(.v (.int .i64 0)),(.v (.bool false)),.emp,(.v (.int .i64 0))] [(0,3,(.t 35)),(3,3,(.t 37))]),co 39 (.build [(.v (.bool false)),.emp,(.v (.int .i64 0)),(.v (.bool false)),.emp,(.v (.int .i64 0)),(.v (.bool false)),.emp,(.v (.int .i64 0)),(.v (.bool false)),.emp,(.v (.int .i64 0)),(.v (.bool false)),.emp,(.v (.int .i64 0)),(.v (.bool false)),.emp,(.v (.int .i64 0)),(.v (.bool false)),.emp,(.v (.int .i64 0)),(.v (.bool false)),.emp,(.v (.int .i64 0))] [(0,6,(.t 23)),(6,6,(.t 28)),(12,6,(.t 33)),(18,6,(.t 38))]),⟨(some 11),none,.alloc [(.v (.bool false)),.emp,(.v (.int .i64 0)),(.v (.bool false)),.emp,(.v (.int .i64 0)),(.v (.bool false)),.emp,(.v (.int .i64 0)),(.v (.bool false)),.emp,(.v (.int .i64 0)),(.v (.bool false)),.emp,(.v (.int .i64 0)),(.v (.bool false)),.emp,(.v (.int .i64 0)),(.v (.bool false)),.emp,(.v (.int .i64 0)),(.v (.bool false)),.emp,(.v (.int .i64 0))]⟩,⟨none,none,.store 24 (.t 11) (.t 39)⟩]) (.seq (.ops [2,3,4,10,11,12] [⟨(some 12),none,.alloc [(.v (.bool false)),.emp,(.v (.int .i64 0)),(.v (.bool false)),.emp,(.v (.int .i64 0)),(.v (.bool false))]⟩]) DL)):=rfl
theorem am9{x y:Ri}(ox:OkI x)(oy:OkI y)(i:Nat):Ok0 (gL x y i).1/\Ok0 (gL x y i).2:=by
 unfold gL;split
 ·exact⟨ox.1,oy.1⟩
 ·exact⟨ox.1,oy.2⟩
 ·exact⟨ox.2,oy.1⟩
 ·exact⟨ox.2,oy.2⟩
def acW(x y:Ri):List AV:=[B x.lo.neg,lm x.lo.m,I x.lo.e,B y.lo.neg,lm y.lo.m,I y.lo.e,B x.lo.neg,lm x.lo.m,I x.lo.e,B y.hi.neg,lm y.hi.m,I y.hi.e,B x.hi.neg,lm x.hi.m,I x.hi.e,B y.lo.neg,lm y.lo.m,I y.lo.e,B x.hi.neg,lm x.hi.m,I x.hi.e,B y.hi.neg,lm y.hi.m,I y.hi.e]
theorem aeN{x y:Ri}(ox:OkI x)(oy:OkI y){p:Int}{fD fU:FuncId}{dn up:Rd->Rd->Rd×Int}(oD:Op2 fD dn p)(oU:Op2 fU up p)(s:ai)(h:ac)(h2:s 2=I p)(h3:s 3=.fn fD [] [])(h4:s 4=.fn fU [] [])(h10:s 10=.ref 10 none 0 0 0)(h11:s 11=.ref 11 none 0 0 0)(h12:s 12=.ref 12 none 0 0 0)
  (k10:h 10=.bx [.v (.bool false),.emp,.v (.int .i64 0),.v (.bool false),.emp,.v (.int .i64 0),.v (.bool false)]) (k11:h 11=.bx (acW x y)) (k12:h 12=.bx [.v (.bool false),.emp,.v (.int .i64 0),.v (.bool false),.emp,.v (.int .i64 0),.v (.bool false)]):
  je false [[.o 0 [],.o 2 [],.o 0 [],.o 0 [],.o 2 [],.o 0 [],.o 0 []]] [.cell 10 7 true] 0 (aj R (az false) DL s h)=some (ap (JY (re dn up (gL x y))),[]):=by
 obtain⟨A,hAe⟩:∃A:AV,A=.agg (acW x y):=⟨_,rfl⟩;have hA:gS [10,12] A=A:=by
  rw[hAe];rfl
 have hf:=acV (p:=p) (A:=A) (pr:=gL x y) oD oU hA (fun i hi=>by
  rw[hAe]
  match i,hi with
  |0,_=>rfl
  |1,_=>rfl
  |2,_=>rfl
  |3,_=>rfl) (am9 ox oy)
 have hl:jz h 24 true (.ref 11 none 0 0 0)=some (A,h,[]):=by
  rw[hAe];simp only[acW]at k11⊢;simp only[go_sem,k11]
 have hP:∀ (s:ai) (h:ac),s 2=I p->s 3=.fn fD [] []->s 4=.fn fU [] []->s 10=.ref 10 none 0 0 0->s 12=.ref 12 none 0 0 0->s 40=A->s 41=I 0->h 10=.bx [.v (.bool false),.emp,.v (.int .i64 0),.v (.bool false),.emp,.v (.int .i64 0),.v (.bool false)]->h 12=.bx [.v (.bool false),.emp,.v (.int .i64 0),.v (.bool false),.emp,.v (.int .i64 0),.v (.bool false)]->
   je false [[.o 0 [],.o 2 [],.o 0 [],.o 0 [],.o 2 [],.o 0 [],.o 0 []]] [.cell 10 7 true] 0 (cH (ah 0 [10,12] (aq (aj R (az false) bB) [2,3,4,10,12,40,41] [10,12] s h)) (aj R (az false) (.seq (.ops [10] [⟨(some 95),none,.load 7 true (.t 12)⟩,⟨none,none,.store 7 (.t 10) (.t 95)⟩]) (.ret))))=some (ap (JY (re dn up (gL x y))),[]):=fun s h a2 a3 a4 a10 a12 a40 a41 b10 b12=>by
  have hg:=hf s h a2 a3 a4 a10 a12 a40 a41 b10 b12;cases ho:re dn up (gL x y)with
  |none=>
   rw[ho]at hg;obtain⟨hh,g1,g2⟩:=hg;rw[g1];simp only[JY,ed,ap,ax,aG,g2,go_sem]
  |some q=>
   rw[ho]at hg;obtain⟨hh,g1,g2,g3⟩:=hg;rw[g1];simp only[JY,ap,ax,g2,g3,go_sem]
 generalize hLL:aq (aj R (az false) bB) [2,3,4,10,12,40,41] [10,12]=L at hP;have hX:∀s h,aj R (az false) (.loop [2,3,4,10,12,40,41] [10,12] bB) s h=L s h:=fun s h=>by rw[←hLL];rfl
 show je _ _ _ _ (cH (cH (aj R (az false) (.ops [2,3,4,10,12,40,41] [⟨(some 40),none,.load 24 true (.t 11)⟩,co 41 (.mv (.c (.v (.int .i64 0))))]) s h) fun s h=>ah 0 [10,12] (aj R (az false) (.loop [2,3,4,10,12,40,41] [10,12] bB) s h)) _)=_;simp only[hX];simp only[go_sem,h2,h3,h4,h10,h11,h12,hl];exact hP _ _ rfl rfl rfl rfl rfl rfl rfl k10 k12
theorem aag{x y:Ri}(ox:OkI x)(oy:OkI y){p:Int}{fD fU:FuncId}{dn up:Rd->Rd->Rd×Int}(oD:Op2 fD dn p)(oU:Op2 fU up p):R F.interval_four [ap x,ap y,I p,.fn fD [] [],.fn fU [] []] []=some (ap (JY (re dn up (gL x y))),[]):=by
 refine av PF rfl ?_;simp only[yL,Hk,ap,ax,go_sem];exact aeN ox oy oD oU _ _ rfl rfl rfl rfl rfl rfl rfl rfl rfl
theorem Ef{x y:Ri}(ox:OkI x)(oy:OkI y){p:Int}:R F.interval_Mul [ap x,ap y,I p] []=some (ap (gX x y p),[]):=by
 refine av Q4 rfl ?_;have hk:=GE ox oy;have hp:=we (p:=p);have hw:=oF;have hf:=aag ox oy (p:=p) (dn:=fun a b=>fS a b p false) (up:=fun a b=>fS a b p true) ⟨fun h1 h2=>Nl h1 h2,Ee,qj.1.1,qj.1.2.1,qj.1.2.2.2,qj.1.2.2.1⟩ ⟨fun h1 h2=>Ts h1 h2,Ee,tV.1.1,tV.1.2.1,tV.1.2.2.2,tV.1.2.2.1⟩;unfold gX;simp only[ap,ax]at hw hf;cases h1:(kI x&&kI y)with
 |false=>
  rw[h1]at hk;simp only[pP,wA,ap,ax,go_sem,hk,hw]
 |true=>
  rw[h1]at hk;cases h2:bO p with
  |false=>
   rw[h2]at hp;simp only[pP,wA,ap,ax,go_sem,hk,hp,hw]
  |true=>
   rw[h2]at hp;simp only[pP,wA,ap,ax,go_sem,hk,hp,hf]
def ns(d:Rd)(p:Int)(up:Bool):Nat->Rd×Int->Rd×Int
 |0,r=>r
 |k+1,r=>if r.2=0 then ns d p up k (fS r.1 d p up)else r
def pw(d:Rd)(n:Nat)(p:Int)(up:Bool):Rd×Int:=ns d p up (n-1) (cu d p up)
theorem Eg{d:Rd}{p:Int}{up:Bool}:Ok0 (cu d p up).1:=by
 unfold cu;split
 ·exact ub.2
 ·exact aV.2
theorem ana{d:Rd}{p:Int}{up:Bool}:∀ (k:Nat) (r:Rd×Int),Ok0 r.1->Ok0 (ns d p up k r).1:=by
 intro k;induction k with
 |zero=>exact fun r h=>h
 |succ k ih=>
  grind[ns,Ee]
theorem ajn{d:Rd}{n:Nat}{p:Int}{up:Bool}:Ok0 (pw d n p up).1:=ana _ _ Eg
noncomputable def wk:Cmd:=.seq (.seq (.ops [1,2,4,5,10,12,13,14] [co 14 (.mv (.c (.v (.int .i64 1))))]) (.block 0 [10,12,13] (.loop [1,2,4,5,10,12,13,14] [5,10,12] aW))) (.seq (.ops [10,11] [⟨(some 39),none,.load 3 true (.t 12)⟩,cm 40 13,⟨none,none,.store 3 (.t 10) (.t 39)⟩,cm 11 40]) (.ret))
theorem xr:E4=.seq (.ops [1,2,3,4,5,10] [⟨(some 5),none,.box 3 (.t 0)⟩,⟨(some 10),none,.alloc [(.v (.bool false)),.emp,(.v (.int .i64 0))]⟩,co 11 (.mv (.c (.v (.int .i64 0))))]) (.seq (.ops [1,2,4,5,10,12,13] [cm 16 3,⟨(some 17),none,.load 3 true (.t 5)⟩,cm 18 2,⟨(some 19),none,.call (.t 16) [(.t 17),(.t 18)]⟩,cm 15 19,co 20 (.ext 0 (.t 15)),co 21 (.ext 1 (.t 15)),⟨(some 12),none,.alloc [(.v (.bool false)),.emp,(.v (.int .i64 0))]⟩,⟨none,none,.store 3 (.t 12) (.t 20)⟩,cm 13 21]) wk):=rfl
theorem aeO{d:Rd}(ok:Ok0 d){p:Int}{n:Nat}(hn:n<=100000):∀ (k i:Nat),i+k=n->∀ (r:Rd×Int),Ok0 r.1->∀ (s:ai) (h:ac),s 1=I n->s 2=I p->s 4=.fn F.round_MulUp [] []->s 5=.ref 5 none 0 0 0->s 10=.ref 10 none 0 0 0->s 12=.ref 12 none 0 0 0->s 13=I r.2->s 14=I i->
  h 5=.bx (ak d)->h 10=.bx [.v (.bool false),.emp,.v (.int .i64 0)]->h 12=.bx (ak r.1)->
  ∃hh,ah 0 [10,12,13] (aq (aj R (az false) aW) [1,2,4,5,10,12,13,14] [5,10,12] s h)=some (.normal,⟨upd (upd (upd (fun _=>.any) 13 (I (ns d p true k r).2)) 12 (.ref 12 none 0 0 0)) 10 (.ref 10 none 0 0 0),hh⟩)/\hh 10=.bx [.v (.bool false),.emp,.v (.int .i64 0)]/\hh 12=.bx (ak (ns d p true k r).1):=by
 intro k;induction k with
 |zero=>
  intro i hi r hr s h h1 h2 h4 h5 h10 h12 h13 h14 k5 k10 k12;have e1:((i:Int)<n)=False:=ff;rw[ag];refine⟨?hh0,?_,?_,?_⟩;rotate_left
  ·simp only[aW,ns,go_sem,h1,h2,h4,h5,h10,h12,h13,h14,k5,k10,k12,e1];rfl
  ·rfl
  ·rfl
 |succ k ih=>
  intro i hi r hr s h h1 h2 h4 h5 h10 h12 h13 h14 k5 k10 k12;have e1:((i:Int)<n)=True:=tt;have e5:IntKind.i64.wrap ((i:Int)+1)=((i+1:Nat):Int):=wi;obtain⟨r1,r2⟩:=r;have hm:=Ts hr ok (p:=p);have okm:=Ee (a:=r1) (b:=d) (p:=p) (up:=true);have ih':=ih (i+1) ω;unfold ns;generalize fS r1 d p true=q at hm okm⊢;obtain⟨q1,q2⟩:=q;simp only[rV,af,ak]at hm k5 k12;rw[ag];by_cases hr:r2=0
  ·have er:(r2=0)=True:=tt hr;simp only[aW,ak,go_sem,h1,h2,h4,h5,h10,h12,h13,h14,k5,k10,k12,e1,er,hm,e5];exact ih' (q1,q2) okm _ _ rfl rfl rfl rfl rfl rfl rfl rfl rfl rfl rfl
  ·have er:(r2=0)=False:=ff hr;rw[if_neg hr];refine⟨?hh1,?_,?_,?_⟩;rotate_left
   ·simp only[aW,go_sem,h1,h2,h4,h5,h10,h12,h13,h14,k5,k10,k12,e1,er];rfl
   ·rfl
   ·rfl
theorem aeP{d:Rd}(ok:Ok0 d){p:Int}{n:Nat}(hn:n<=100000){r:Rd×Int}(hr:Ok0 r.1)(s:ai)(h:ac)(h1:s 1=I n)(h2:s 2=I p)(h4:s 4=.fn F.round_MulUp [] [])(h5:s 5=.ref 5 none 0 0 0)(h10:s 10=.ref 10 none 0 0 0)(h12:s 12=.ref 12 none 0 0 0)(h13:s 13=I r.2)
  (k5:h 5=.bx (ak d)) (k10:h 10=.bx [.v (.bool false),.emp,.v (.int .i64 0)]) (k12:h 12=.bx (ak r.1)):
  je false [[.o 0 [],.o 2 [],.o 0 []],[]] [.cell 10 3 true,.t 11] 0 (aj R (az false) wk s h)=some (rV (ns d p true (n-1) r),[]):=by
 have hl:∀ (s:ai) (h:ac),s 1=I n->s 2=I p->s 4=.fn F.round_MulUp [] []->s 5=.ref 5 none 0 0 0->s 10=.ref 10 none 0 0 0->s 12=.ref 12 none 0 0 0->s 13=I r.2->s 14=I 1->
  h 5=.bx (ak d)->h 10=.bx [.v (.bool false),.emp,.v (.int .i64 0)]->h 12=.bx (ak r.1)->
  ∃hh,ah 0 [10,12,13] (aq (aj R (az false) aW) [1,2,4,5,10,12,13,14] [5,10,12] s h)=some (.normal,⟨upd (upd (upd (fun _=>.any) 13 (I (ns d p true (n-1) r).2)) 12 (.ref 12 none 0 0 0)) 10 (.ref 10 none 0 0 0),hh⟩)/\hh 10=.bx [.v (.bool false),.emp,.v (.int .i64 0)]/\hh 12=.bx (ak (ns d p true (n-1) r).1):=by
  by_cases h0:n=0
  ·intro s h a1 a2 a4 a5 a10 a12 a13 a14 b5 b10 b12;have e1:((1:Int)< (n:Nat))=False:=ff;subst h0;rw[ag];refine⟨?hh0,?_,?_,?_⟩;rotate_left
   ·simp only[aW,ns,go_sem,azz,a1,a2,a4,a5,a10,a12,a13,a14,b5,b10,b12,e1];rfl
   ·rfl
   ·rfl
  ·have:=aeO ok (p:=p) hn (n-1) 1 ω r hr
   simp_all
 generalize ns d p true (n-1) r=q at hl⊢;obtain⟨r1,r2⟩:=r;obtain⟨q1,q2⟩:=q;have hP:∀ (s:ai) (h:ac),s 1=I n->s 2=I p->s 4=.fn F.round_MulUp [] []->s 5=.ref 5 none 0 0 0->s 10=.ref 10 none 0 0 0->s 12=.ref 12 none 0 0 0->s 13=I r2->s 14=I 1->
  h 5=.bx (ak d)->h 10=.bx [.v (.bool false),.emp,.v (.int .i64 0)]->h 12=.bx (ak r1)->
  je false [[.o 0 [],.o 2 [],.o 0 []],[]] [.cell 10 3 true,.t 11] 0 (cH (ah 0 [10,12,13] (aq (aj R (az false) aW) [1,2,4,5,10,12,13,14] [5,10,12] s h)) (aj R (az false) (.seq (.ops [10,11] [⟨(some 39),none,.load 3 true (.t 12)⟩,cm 40 13,⟨none,none,.store 3 (.t 10) (.t 39)⟩,cm 11 40]) (.ret))))=some (rV (q1,q2),[]):=fun s h a1 a2 a4 a5 a10 a12 a13 a14 b5 b10 b12=>by
  obtain⟨hh,g1,g2,g3⟩:=hl s h a1 a2 a4 a5 a10 a12 a13 a14 b5 b10 b12;rw[g1];simp only[rV,af,ak,g2,g3,go_sem]
 generalize hLL:aq (aj R (az false) aW) [1,2,4,5,10,12,13,14] [5,10,12]=L at hP;have hX:∀s h,aj R (az false) (.loop [1,2,4,5,10,12,13,14] [5,10,12] aW) s h=L s h:=fun s h=>by rw[←hLL];rfl
 show je _ _ _ _ (cH (cH (aj R (az false) (.ops [1,2,4,5,10,12,13,14] [co 14 (.mv (.c (.v (.int .i64 1))))]) s h) fun s h=>ah 0 [10,12,13] (aj R (az false) (.loop [1,2,4,5,10,12,13,14] [5,10,12] aW) s h)) _)=_;simp only[hX];simp only[go_sem,h1,h2,h4,h5,h10,h12,h13];exact hP _ _ rfl rfl rfl rfl rfl rfl rfl rfl k5 k10 k12
theorem akh{d:Rd}(ok:Ok0 d){p:Int}{n:Nat}(hn:n<=100000):R F.interval_power [af d,I n,I p,.fn F.round_Up [] [],.fn F.round_MulUp [] []] []=some (rV (pw d n p true),[]):=by
 refine av Fg rfl ?_;have hr:=aaf ok (p:=p);have okr:=Eg (d:=d) (p:=p) (up:=true);have ht:=aeP ok (p:=p) hn okr;simp only[rV,af,ak]at hr;simp only[qW,xr,af,ak,go_sem,hr];exact ht _ _ rfl rfl rfl rfl rfl rfl rfl rfl rfl rfl
theorem aeQ{d:Rd}(ok:Ok0 d){p:Int}{n:Nat}(hn:n<=100000):∀ (k i:Nat),i+k=n->∀ (r:Rd×Int),Ok0 r.1->∀ (s:ai) (h:ac),s 1=I n->s 2=I p->s 4=.fn F.round_MulDown [] []->s 5=.ref 5 none 0 0 0->s 10=.ref 10 none 0 0 0->s 12=.ref 12 none 0 0 0->s 13=I r.2->s 14=I i->
  h 5=.bx (ak d)->h 10=.bx [.v (.bool false),.emp,.v (.int .i64 0)]->h 12=.bx (ak r.1)->
  ∃hh,ah 0 [10,12,13] (aq (aj R (az false) aW) [1,2,4,5,10,12,13,14] [5,10,12] s h)=some (.normal,⟨upd (upd (upd (fun _=>.any) 13 (I (ns d p false k r).2)) 12 (.ref 12 none 0 0 0)) 10 (.ref 10 none 0 0 0),hh⟩)/\hh 10=.bx [.v (.bool false),.emp,.v (.int .i64 0)]/\hh 12=.bx (ak (ns d p false k r).1):=by
 intro k;induction k with
 |zero=>
  intro i hi r hr s h h1 h2 h4 h5 h10 h12 h13 h14 k5 k10 k12;have e1:((i:Int)<n)=False:=ff;rw[ag];refine⟨?hh0,?_,?_,?_⟩;rotate_left
  ·simp only[aW,ns,go_sem,h1,h2,h4,h5,h10,h12,h13,h14,k5,k10,k12,e1];rfl
  ·rfl
  ·rfl
 |succ k ih=>
  intro i hi r hr s h h1 h2 h4 h5 h10 h12 h13 h14 k5 k10 k12;have e1:((i:Int)<n)=True:=tt;have e5:IntKind.i64.wrap ((i:Int)+1)=((i+1:Nat):Int):=wi;obtain⟨r1,r2⟩:=r;have hm:=Nl hr ok (p:=p);have okm:=Ee (a:=r1) (b:=d) (p:=p) (up:=false);have ih':=ih (i+1) ω;unfold ns;generalize fS r1 d p false=q at hm okm⊢;obtain⟨q1,q2⟩:=q;simp only[rV,af,ak]at hm k5 k12;rw[ag];by_cases hr:r2=0
  ·have er:(r2=0)=True:=tt hr;simp only[aW,ak,go_sem,h1,h2,h4,h5,h10,h12,h13,h14,k5,k10,k12,e1,er,hm,e5];exact ih' (q1,q2) okm _ _ rfl rfl rfl rfl rfl rfl rfl rfl rfl rfl rfl
  ·have er:(r2=0)=False:=ff hr;rw[if_neg hr];refine⟨?hh1,?_,?_,?_⟩;rotate_left
   ·simp only[aW,go_sem,h1,h2,h4,h5,h10,h12,h13,h14,k5,k10,k12,e1,er];rfl
   ·rfl
   ·rfl
theorem aeR{d:Rd}(ok:Ok0 d){p:Int}{n:Nat}(hn:n<=100000){r:Rd×Int}(hr:Ok0 r.1)(s:ai)(h:ac)(h1:s 1=I n)(h2:s 2=I p)(h4:s 4=.fn F.round_MulDown [] [])(h5:s 5=.ref 5 none 0 0 0)(h10:s 10=.ref 10 none 0 0 0)(h12:s 12=.ref 12 none 0 0 0)(h13:s 13=I r.2)
  (k5:h 5=.bx (ak d)) (k10:h 10=.bx [.v (.bool false),.emp,.v (.int .i64 0)]) (k12:h 12=.bx (ak r.1)):
  je false [[.o 0 [],.o 2 [],.o 0 []],[]] [.cell 10 3 true,.t 11] 0 (aj R (az false) wk s h)=some (rV (ns d p false (n-1) r),[]):=by
 have hl:∀ (s:ai) (h:ac),s 1=I n->s 2=I p->s 4=.fn F.round_MulDown [] []->s 5=.ref 5 none 0 0 0->s 10=.ref 10 none 0 0 0->s 12=.ref 12 none 0 0 0->s 13=I r.2->s 14=I 1->
  h 5=.bx (ak d)->h 10=.bx [.v (.bool false),.emp,.v (.int .i64 0)]->h 12=.bx (ak r.1)->
  ∃hh,ah 0 [10,12,13] (aq (aj R (az false) aW) [1,2,4,5,10,12,13,14] [5,10,12] s h)=some (.normal,⟨upd (upd (upd (fun _=>.any) 13 (I (ns d p false (n-1) r).2)) 12 (.ref 12 none 0 0 0)) 10 (.ref 10 none 0 0 0),hh⟩)/\hh 10=.bx [.v (.bool false),.emp,.v (.int .i64 0)]/\hh 12=.bx (ak (ns d p false (n-1) r).1):=by
  by_cases h0:n=0
  ·intro s h a1 a2 a4 a5 a10 a12 a13 a14 b5 b10 b12;have e1:((1:Int)< (n:Nat))=False:=ff;subst h0;rw[ag];refine⟨?hh0,?_,?_,?_⟩;rotate_left
   ·simp only[aW,ns,go_sem,azz,a1,a2,a4,a5,a10,a12,a13,a14,b5,b10,b12,e1];rfl
   ·rfl
   ·rfl
  ·have:=aeQ ok (p:=p) hn (n-1) 1 ω r hr
   simp_all
 generalize ns d p false (n-1) r=q at hl⊢;obtain⟨r1,r2⟩:=r;obtain⟨q1,q2⟩:=q;have hP:∀ (s:ai) (h:ac),s 1=I n->s 2=I p->s 4=.fn F.round_MulDown [] []->s 5=.ref 5 none 0 0 0->s 10=.ref 10 none 0 0 0->s 12=.ref 12 none 0 0 0->s 13=I r2->s 14=I 1->
  h 5=.bx (ak d)->h 10=.bx [.v (.bool false),.emp,.v (.int .i64 0)]->h 12=.bx (ak r1)->
  je false [[.o 0 [],.o 2 [],.o 0 []],[]] [.cell 10 3 true,.t 11] 0 (cH (ah 0 [10,12,13] (aq (aj R (az false) aW) [1,2,4,5,10,12,13,14] [5,10,12] s h)) (aj R (az false) (.seq (.ops [10,11] [⟨(some 39),none,.load 3 true (.t 12)⟩,cm 40 13,⟨none,none,.store 3 (.t 10) (.t 39)⟩,cm 11 40]) (.ret))))=some (rV (q1,q2),[]):=fun s h a1 a2 a4 a5 a10 a12 a13 a14 b5 b10 b12=>by
  obtain⟨hh,g1,g2,g3⟩:=hl s h a1 a2 a4 a5 a10 a12 a13 a14 b5 b10 b12;rw[g1];simp only[rV,af,ak,g2,g3,go_sem]
 generalize hLL:aq (aj R (az false) aW) [1,2,4,5,10,12,13,14] [5,10,12]=L at hP;have hX:∀s h,aj R (az false) (.loop [1,2,4,5,10,12,13,14] [5,10,12] aW) s h=L s h:=fun s h=>by rw[←hLL];rfl
 show je _ _ _ _ (cH (cH (aj R (az false) (.ops [1,2,4,5,10,12,13,14] [co 14 (.mv (.c (.v (.int .i64 1))))]) s h) fun s h=>ah 0 [10,12,13] (aj R (az false) (.loop [1,2,4,5,10,12,13,14] [5,10,12] aW) s h)) _)=_;simp only[hX];simp only[go_sem,h1,h2,h4,h5,h10,h12,h13];exact hP _ _ rfl rfl rfl rfl rfl rfl rfl rfl k5 k10 k12
theorem aki{d:Rd}(ok:Ok0 d){p:Int}{n:Nat}(hn:n<=100000):R F.interval_power [af d,I n,I p,.fn F.round_Down [] [],.fn F.round_MulDown [] []] []=some (rV (pw d n p false),[]):=by
 refine av Fg rfl ?_;have hr:=Tt ok (p:=p);have okr:=Eg (d:=d) (p:=p) (up:=false);have ht:=aeR ok (p:=p) hn okr;simp only[rV,af,ak]at hr;simp only[qW,xr,af,ak,go_sem,hr];exact ht _ _ rfl rfl rfl rfl rfl rfl rfl rfl rfl rfl
def sS(d:Rd):Int:=if vd d=false\/d.m.length=0 then 0 else if d.neg=true then-1 else 1
theorem zD{d:Rd}(ok:Ok0 d):Ok0 (go d):=by
 unfold go;split
 ·exact aV.2
 ·exact⟨ok.1,ok.2⟩
theorem anb{d:Rd}(h:sS d<0):¬sS (go d)<0:=by
 unfold sS at h;split at h
 ·omega
 ·split at h
  ·unfold sS go;grind
  omega
def rT(d:Rd)(n:Nat)(p:Int)(up:Bool):Rd×Int:=if sS d<0 then(go (pw (go d) n p (!up)).1,(pw (go d) n p (!up)).2)else pw d n p up
theorem aah{d:Rd}(ok:Ok0 d)(hs:¬sS d<0){p:Int}{n:Nat}(hn:n<=100000){up:Bool}:R F.interval_end [af d,I n,I p,B up] []=some (rV (pw d n p up),[]):=by
 refine av HQ rfl ?_;have h1:=RF ok;rw[show(if vd d=false\/d.m.length=0 then(0:Int)else if d.neg=true then-1 else 1)=sS d from rfl]at h1;have e1:(sS d<0)=False:=ff hs;cases up with
 |true=>
  have h2:=akh ok (p:=p) hn;simp only[rV,af,ak]at h1 h2;simp only[pY,wI,rV,af,ak,go_sem,h1,e1,h2]
 |false=>
  have h2:=aki ok (p:=p) hn;simp only[rV,af,ak]at h1 h2;simp only[pY,wI,rV,af,ak,go_sem,h1,e1,h2]
theorem PY{d:Rd}(ok:Ok0 d){p:Int}{n:Nat}(hn:n<=100000){up:Bool}:R F.interval_end [af d,I n,I p,B up] []=some (rV (rT d n p up),[]):=by
 unfold rT;by_cases hs:sS d<0
 ·refine av HQ rfl ?_;have h1:=RF ok;rw[show(if vd d=false\/d.m.length=0 then(0:Int)else if d.neg=true then-1 else 1)=sS d from rfl]at h1;have e1:(sS d<0)=True:=tt hs;have h2:=Fr ok;rw[show(if vd d=false\/d.m.length=0 then aG else(⟨!d.neg,d.m,d.e⟩:Rd))=go d from rfl]at h2;have h3:=aah (zD ok) (anb hs) (p:=p) hn (up:=!up);have okq:=ajn (d:=go d) (n:=n) (p:=p) (up:=!up);generalize go d=nd at h2 h3 okq⊢;generalize pw nd n p (!up)=q at h3 okq⊢;obtain⟨q1,q2⟩:=q;have h4:=Fr (d:=q1) okq;rw[show(if vd q1=false\/q1.m.length=0 then aG else(⟨!q1.neg,q1.m,q1.e⟩:Rd))=go q1 from rfl]at h4;simp only[rV,af,ak]at h1 h2 h3 h4;simp only[pY,wI,rV,af,ak,go_sem,h1,e1,h2,h3,h4]
 simp_all[if_neg,aah]
def one:Rd:=⟨false,[1],0⟩
theorem La:R F.dyadic_Int [I 1] []=some (af one,[]):=by
 grind[Fw,Xc,br,one,jW,AO,au,rO,fQ]
theorem dW:vd one=true/\Ok0 one:=⟨by decide,⟨fun x hx=>by rw[List.mem_singleton.1 hx];decide,by decide⟩⟩
def AY(x:Ri)(n:Nat)(p:Int):Ri:=if(kI x&&bO p&&decide (n<=16))=true then(if n=0 then⟨one,one,false⟩else
 uX (rT (if n%2=0 then wj x else x).lo n p false) (rT (if n%2=0 then wj x else x).hi n p true))else ed
theorem Xo{a b:Rd}(oa:Ok0 a)(ob:Ok0 b):Ok0 (lu a b):=by
 grind[lu]
theorem Xq{a b:Rd}(oa:Ok0 a)(ob:Ok0 b):Ok0 (lw a b):=by
 grind[lw]
theorem aai{x:Ri}(ok:OkI x):OkI (wj x):=by
 unfold wj;split
 ·refine⟨?_,Xq (zB ok.lo) (zB ok.hi)⟩;unfold B7;split
  ·exact aV.2
  ·exact Xo (zB ok.lo) (zB ok.hi)
 ·exact⟨aV.2,aV.2⟩
theorem aaj{d:Rd}(ok:Ok0 d){n:Nat}{p:Int}{up:Bool}:Ok0 (rT d n p up).1:=by
 grind[rT,zD,ajn]
theorem Lc{x:Ri}(ok:OkI x){p:Int}{n:Nat}(hn:n<=100000):R F.interval_Power [ap x,I n,I p] []=some (ap (AY x n p),[]):=by
 refine av NP rfl ?_;have hk:=wh ok;have hp:=we (p:=p);have hw:=oF;have n0:((n:Int)<0)=False:=ff;unfold AY;simp only[ap,ax]at hw;cases h1:kI x with
 |false=>
  rw[h1]at hk;simp only[fO,jf,ap,ax,go_sem,hk,hw]
 |true=>
  rw[h1]at hk;cases h2:bO p with
  |false=>
   rw[h2]at hp;simp only[fO,jf,ap,ax,go_sem,hk,hp,hw]
  |true=>
   rw[h2]at hp;rw[ay5,ay5];by_cases h3:n<=16
   ·have e3:(16< (n:Int))=False:=ff;rw[if_pos (decide_eq_true h3)];by_cases h4:n=0
    ·have e4:((n:Int)=0)=True:=tt;rw[if_pos h4];have g1:=La;have g2:=jY dW.2 dW.1;simp only[one,ap,ax,af,ak]at g1 g2;simp only[fO,jf,one,ap,ax,go_sem,hk,hp,n0,e3,e4,g1,g2]
    ·have e4:((n:Int)=0)=False:=ff;rw[if_neg h4];by_cases h5:n%2=0
     ·have e5:((n:Int).tmod 2=0)=True:=tt γ;rw[if_pos h5];have ha:=akg ok;have oa:=aai ok;generalize wj x=y at ha oa⊢;have g1:=PY oa.lo hn (p:=p) (up:=false);have g2:=PY oa.hi hn (p:=p) (up:=true);generalize rT y.lo n p false=r at g1⊢;generalize rT y.hi n p true=q at g2⊢;obtain⟨r1,r2⟩:=r;obtain⟨q1,q2⟩:=q;have hm:=RN (a:=r1) (b:=q1) (e:=r2) (f:=q2);simp only[ap,ax,af,ak,rV]at ha g1 g2 hm;simp only[fO,jf,ap,ax,go_sem,azf,hk,hp,n0,e3,e4,e5,ha,g1,g2,hm]
     ·have e5:((n:Int).tmod 2=0)=False:=ff γ;rw[if_neg h5];have g1:=PY ok.lo hn (p:=p) (up:=false);have g2:=PY ok.hi hn (p:=p) (up:=true);generalize rT x.lo n p false=r at g1⊢;generalize rT x.hi n p true=q at g2⊢;obtain⟨r1,r2⟩:=r;obtain⟨q1,q2⟩:=q;have hm:=RN (a:=r1) (b:=q1) (e:=r2) (f:=q2);simp only[ap,ax,af,ak,rV]at g1 g2 hm;simp only[fO,jf,ap,ax,go_sem,azf,hk,hp,n0,e3,e4,e5,g1,g2,hm]
   ·have e3:(16< (n:Int))=True:=tt;rw[if_neg (fun h=>h3 (of_decide_eq_true h))];simp only[fO,jf,ap,ax,go_sem,hk,hp,n0,e3,hw]
def Fy(x:Ri)(e:Nat)(p:Int):Ri:=if e<=16 then AY x e p else gX (AY x 16 p) (AY x (e-16) p) p
theorem Xr{r s:Rd×Int}(h1:Ok0 r.1)(h2:Ok0 s.1):OkI (uX r s):=by
 unfold uX;split
 ·exact⟨h1,h2⟩
 ·exact⟨aV.2,aV.2⟩
theorem RU{x:Ri}(ok:OkI x){n:Nat}{p:Int}:OkI (AY x n p):=by
 unfold AY;have h:OkI (if n%2=0 then wj x else x):=by
  grind[aai]
 split
 ·split
  ·exact⟨dW.2,dW.2⟩
  ·exact Xr (aaj h.1) (aaj h.2)
 ·exact⟨aV.2,aV.2⟩
theorem akj{x:Ri}(ok:OkI x){p:Int}{e:Nat}(hn:e<=100000):R F.bound_power [ap x,I e,I p] []=some (ap (Fy x e p),[]):=by
 refine av UD rfl ?_;unfold Fy;by_cases h1:e<=16
 ·have e1:((e:Int)<=16)=True:=tt;rw[if_pos h1];have h2:=Lc ok hn (p:=p);simp only[ap,ax]at h2;simp only[wN,Dp,ap,ax,go_sem,e1,h2]
 ·have e1:((e:Int)<=16)=False:=ff;rw[if_neg h1];have h2:=Lc ok (show 16<=100000 by decide) (p:=p);have h3:=Lc ok (show e-16<=100000 by omega) (p:=p);have o2:=RU ok (n:=16) (p:=p);have o3:=RU ok (n:=e-16) (p:=p);have w1:IntKind.i64.wrap ((e:Int)-16)=((e-16:Nat):Int):=wi;have h4:=Ef o2 o3 (p:=p);simp only[ap,ax,Int.cast_ofNat_Int]at h2 h3 h4;simp only[wN,Dp,ap,ax,go_sem,e1,h2,h3,h4,w1]
def aI(l:List Int):List (List AV):=l.map fun(n:Int)=>[I n]
@[go_sem] theorem rU(l:List Int):(aI l).length=l.length:=by simp[aI]
theorem rW{l:List Int}{i:Int}{n:Nat}{d:Int}(hi:i=n)(h:l[n]?=some d):aU (aI l) i=some (.ipt [I d]):=by
 grind[aU,aI]
theorem Xs{x:Int}:R F.cmp_isNaN_int_ [I x] []=some (B false,[]):=by
 refine av NV rfl ?_;simp only[xD,EZ,go_sem]
theorem aeS{x y:Int}:R F.cmp_Compare_int_ [I x,I y] []=some (I (eJ x y),[]):=by
 refine av K1 rfl ?_;have h1:=Xs (x:=x);have h2:=Xs (x:=y);unfold eJ;by_cases e1:x<y
 ·have f1:(x<y)=True:=tt e1;simp only[kL,pW,go_sem,h1,h2,f1]
 ·have f1:(x<y)=False:=ff e1;by_cases e2:y<x
  ·have f2:(y<x)=True:=tt e2;simp only[kL,pW,go_sem,h1,h2,f1,f2]
  ·have f2:(y<x)=False:=ff e2;simp only[kL,pW,go_sem,h1,h2,f1,f2]
def mA:List Int->List Int->Int
 |[],[]=>0
 |[],_::_=>-1
 |_::_,[]=>1
 |x::xs,y::ys=>if eJ x y=0 then mA xs ys else eJ x y
theorem ahJ{a b:List Int}(hl:a.length=b.length)(h2:a.length<=100000):∀ (k i:Nat),i+k=a.length->∀ (s:ai) (h:ac),s 0=.sl 1 (aI a)->s 1=.sl 1 (aI b)->s 9=.sl 1 (aI a)->s 10=I a.length->s 11=I i->
  ∃hh,ah 0 [0,1] (aq (aj R (az false) eX) [0,1,9,10,11] [] s h)=if mA (a.drop i) (b.drop i)=0 then some (.normal,⟨upd (upd (fun _=>.any) 1 (.sl 1 (aI b))) 0 (.sl 1 (aI a)),fun _=>.dead⟩)else some (.ret,⟨upd (fun _=>.any) 4 (I (mA (a.drop i) (b.drop i))),hh⟩):=by
 intro k;induction k with
 |zero=>
  intro i hi s h h0 h1 h9 h10 h11;have e1:((i:Int)<a.length)=False:=ff;rw[azi ω,azi ω,ag];refine⟨fun _=>.dead,?_⟩;show _=if(0:Int)=0 then _ else _
  simp only[eX,go_sem,h0,h1,h9,h10,h11,e1]
 |succ k ih=>
  intro i hi s h h0 h1 h9 h10 h11;have hlt:i<a.length:=ω
  have hlt2:i<b.length:=ω
  have e1:((i:Int)<a.length)=True:=tt;have e4:((b.length:Int)<=(i:Int))=False:=ff;have e2:aU (aI a) (i:Int)=some (.ipt [I a[i]]):=rW rfl (List.getElem?_eq_getElem hlt);have e3:aU (aI b) (i:Int)=some (.ipt [I b[i]]):=rW rfl (List.getElem?_eq_getElem hlt2);have e5:IntKind.i64.wrap ((i:Int)+1)=((i+1:Nat):Int):=wi;rw[azj hlt,azj hlt2,ag];have ih':=ih (i+1) ω;have hc:=aeS (x:=a[i]) (y:=b[i]);generalize a[i]=x at e2 hc⊢;generalize b[i]=y at e3 hc⊢;unfold mA;by_cases hz:eJ x y=0
  ·have e6:(eJ x y=0)=True:=tt hz;simp only[eX,go_sem,h0,h1,h9,h10,h11,e1,e2,e3,e4,e5,hc,e6];exact ih' _ _ rfl rfl rfl rfl rfl
  ·have e6:(eJ x y=0)=False:=ff hz;refine⟨?hh,?_⟩;rotate_left;simp only[eX,go_sem,h0,h1,h9,h10,h11,e1,e2,e3,e4,hc,e6];rfl
theorem acX{a b:List Int}(hl:a.length=b.length)(h2:a.length<=100000):R F.slices_Compare_int_int_ [.sl 1 (aI a),.sl 1 (aI b)] []=some (I (mA a b),[]):=by
 refine av DW rfl ?_;have h3:=ahJ hl h2 a.length 0 (ayX _);simp only[azZ,azC]at h3;by_cases hz:mA a b=0
 ·simp only[if_pos hz]at h3;have e1:((a.length:Int)<b.length)=False:=ff;simp only[iY,mV,go_sem];rw[(h3 _ _ rfl rfl rfl rfl rfl).choose_spec,hz];simp only[go_sem,e1]
 ·simp only[if_neg hz]at h3;simp only[iY,mV,go_sem];rw[(h3 _ _ rfl rfl rfl rfl rfl).choose_spec];simp only[go_sem]
def aS:List Int->Int
 |[]=>0
 |x::l=>x+aS l
def sm(l:List Int):Prop:=l.length<=1000/\∀x∈l,0<=x/\x<=32
theorem Xt{l:List Int}{i:Nat}(h:i<l.length):aS (l.take (i+1))=aS (l.take i)+l[i]:=by
 induction l generalizing i with
 |nil=>grind
 |cons a l ih=>
  cases i with
  |zero=>simp[aS]
  |succ i=>
   have:=ih (i:=i) (by simpa using h);simp only[List.take_succ_cons,aS,List.getElem_cons_succ];omega
theorem aeT{l:List Int}(h:∀x∈l,0<=x/\x<=32):0<=aS l/\aS l<=32*l.length:=by
 induction l with
 |nil=>exact⟨Int.le_refl _,Int.le_refl _⟩
 |cons a l ih=>
  have h1:=h a (List.mem_cons_self ..);have h2:=ih (fun x hx=>h x (List.mem_cons_of_mem _ hx));grind[aS,azp]
theorem ahK{a:List Int}(h2:sm a):∀ (k i:Nat),i+k=a.length->∀ (s:ai) (h:ac),s 3=I (aS (a.take i))->s 6=.sl 1 (aI a)->s 7=I a.length->s 8=I i->
  ah 0 [3] (aq (aj R (az false) sH) [3,6,7,8] [] s h)=some (.normal,⟨upd (fun _=>.any) 3 (I (aS a)),fun _=>.dead⟩):=by
 intro k;induction k with
 |zero=>
  intro i hi s h h3 h6 h7 h8;have e1:((i:Int)<a.length)=False:=ff;rw[azg ω]at h3;rw[ag];simp only[sH,go_sem,h3,h6,h7,h8,e1]
 |succ k ih=>
  intro i hi s h h3 h6 h7 h8;have hlt:i<a.length:=ω
  obtain⟨g1,g2⟩:=h2;have e1:((i:Int)<a.length)=True:=tt;have e2:aU (aI a) (i:Int)=some (.ipt [I a[i]]):=rW rfl (List.getElem?_eq_getElem hlt);have e5:IntKind.i64.wrap ((i:Int)+1)=((i+1:Nat):Int):=wi;have b1:=aeT (l:=a.take i) (fun x hx=>g2 x (List.mem_of_mem_take hx));have b2:=g2 a[i] (azo hlt);have e6:IntKind.i64.wrap (aS (a.take i)+a[i])=aS (a.take (i+1)):=by
   grind[Xt,i64_in]
  have ih':=ih (i+1) ω;rw[ag];simp only[sH,go_sem,h3,h6,h7,h8,e1,e2,e5,e6];exact ih' _ _ rfl rfl rfl rfl
theorem zE{a:List Int}(h2:sm a):R F.poly_degree [.sl 1 (aI a)] []=some (I (aS a),[]):=by
 refine av Ul rfl ?_;have h3:=ahK h2 a.length 0 (ayX _);simp only[BC,JD,go_sem];rw[h3 _ _ rfl rfl rfl rfl];simp only[go_sem]
def bX(a b:List Int):Int:=if eJ (aS a) (aS b)=0 then mA b a else eJ (aS a) (aS b)
theorem Xu{a b:List Int}(ha:sm a)(hb:sm b)(hl:a.length=b.length):R F.poly_order [.sl 1 (aI a),.sl 1 (aI b)] []=some (I (bX a b),[]):=by
 refine av Wu rfl ?_;have d1:=zE ha;have d2:=zE hb;have d3:=aeS (x:=aS a) (y:=aS b);have d4:=acX hl.symm (by have:=hb.1;omega);unfold bX;by_cases hz:eJ (aS a) (aS b)=0
 ·have e6:(eJ (aS a) (aS b)=0)=True:=tt hz;simp only[yp,EN,go_sem,d1,d2,d3,d4,e6]
 ·have e6:(eJ (aS a) (aS b)=0)=False:=ff hz;simp only[yp,EN,go_sem,d1,d2,d3,e6]
structure Rt where
 exps:List Int
 c:Rd
structure Rp where
 vars:Int
 terms:List Rt
def bV(t:Rt):List AV:=[.sl 1 (aI t.exps),B t.c.neg,lm t.c.m,I t.c.e]
def aD(l:List Rt):List (List AV):=l.map bV
def be(a:Rp):AV:=.agg [I a.vars,.sl 4 (aD a.terms)]
@[go_sem] theorem nO(l:List Rt):(aD l).length=l.length:=by simp[aD]
theorem gy{l:List Rt}{i:Int}{n:Nat}{d:Rt}(hi:i=n)(h:l[n]?=some d):aU (aD l) i=some (.ipt (bV d)):=by
 grind[aU,aD]
theorem si{α:Type}{f:α->α}{l:List α}(h:∀x∈l,f x=x):l.map f=l:=(azy (g:=fun c=>c) h).trans (azN _)
@[go_sem] theorem Eh(l:List Rt):(aD l).map (dY [.o 2 [],.o 0 [],.o 2 [],.o 0 []])=aD l:=by
 refine si fun x hx=>?_;simp only[aD,azP]at hx;obtain⟨t,ht,rfl⟩:=hx;simp only[bV,go_sem]
structure OkT (t:Rt):Prop where
 c:Ok0 t.c
 len:t.exps.length<=100000
structure OkP (a:Rp):Prop where
 t:∀t∈a.terms,OkT t
def Fz(e:Int):Bool:=decide (e<0)||decide (32<e)
theorem anc{e:Int}:R F.poly_Valid_1 [I e] []=some (B (Fz e),[]):=by
 refine av HP rfl ?_;unfold Fz;by_cases h:e<0
 ·have e1:(e<0)=True:=tt h;simp only[uN,BB,go_sem,e1,decide_true,Bool.true_or]
 ·have e1:(e<0)=False:=ff h;simp only[uN,BB,go_sem,e1,decide_false,Bool.false_or]
theorem ahL{l:List Int}(h2:l.length<=100000):R F.slices_ContainsFunc_int_int_ [.sl 1 (aI l),.fn F.poly_Valid_1 [] []] []=some (B (l.any Fz),[]):=by
 let p:List AV->Bool:=fun row=>match row with|[.v (.int _ e)]=>Fz e|_=>false
 have h1:=WU (k:=1) (g:=false) (f:=F.poly_Valid_1) (rows:=aI l) (p:=p) bJ.2.1 bJ.2.2 (bJ.1.2.2.2 false) rfl (HP.1.2.1 false) (by grind[rU]) (fun row hr=>by
  simp only[aI,azP]at hr;obtain⟨e,he,rfl⟩:=hr;refine⟨I e,rfl,rfl,?_⟩;simp only[go_sem,anc,p])
 have h2:=Rz (k:=1) bQ.2.1 bQ.2.2 (bQ.1.2.2.2 false) rfl (bJ.1.2.1 false) (bJ.1.1 false) (by simp only[go_sem]) h1;grind[aI,Fz,List.any_map]
def PZ(v:Int)(t:Rt):Bool:=decide ((t.exps.length:Int)=v)&& (vd t.c&& (decide (t.c.m.length≠0)&& (!(t.exps.any Fz)&&decide (aS t.exps<=32))))
def acY:Option Rt->Rt->Bool
 |none,_=>true
 |some q,t=>decide (bX q.exps t.exps<0)
def C0(v:Int):Option Rt->List Rt->Bool
 |_,[]=>true
 |pr,t::l=>PZ v t&& (acY pr t&&C0 v (some t) l)
theorem FA{v:Int}{t:Rt}(h:PZ v t=true):(t.exps.length:Int)=v/\vd t.c=true/\t.c.m.length≠0/\t.exps.any Fz=false/\aS t.exps<=32:=by
 grind[PZ]
theorem B8{l:List Int}(h:l.any Fz=false):∀x∈l,0<=x/\x<=32:=by
 simp_all[Fz,Bool.or_eq_true,decide_eq_true_eq,not_or]
theorem akk{a:Rp}(ok:∀t∈a.terms,Ok0 t.c)(hv:a.vars<=8)(h2:a.terms.length<=500):∀ (k i:Nat),i+k=a.terms.length->∀ (pr:Option Rt),(i=0->pr=none)->(0<i->∃q,pr=some q/\a.terms[i-1]?=some q/\PZ a.vars q=true)->
  ∀ (s:ai) (h:ac),s 1=.ref 1 none 0 0 0->s 20=.sl 4 (aD a.terms)->s 21=I a.terms.length->s 22=I i->h 1=.bx [I a.vars,.sl 4 (aD a.terms)]->
  ∃hh,ah 0 [] (aq (aj R (az false) ey) [1,20,21,22] [1] s h)=if C0 a.vars pr (a.terms.drop i)=true then some (.normal,⟨fun _=>.any,hh⟩)else some (.ret,⟨upd (fun _=>.any) 2 (B false),hh⟩):=by
 intro k;induction k with
 |zero=>
  intro i hi pr p0 p1 s h h1 h20 h21 h22 k1;have e1:((i:Int)<a.terms.length)=False:=ff;rw[azi ω,ag];refine⟨?hh0,?_⟩;rotate_left;show _=if true=true then _ else _
  rw[if_pos rfl];simp only[ey,go_sem,h1,h20,h21,h22,k1,e1];rfl
 |succ k ih=>
  intro i hi pr p0 p1 s h h1 h20 h21 h22 k1;have hlt:i<a.terms.length:=ω
  have e1:((i:Int)<a.terms.length)=True:=tt;have e2:aU (aD a.terms) (i:Int)=some (.ipt (bV a.terms[i])):=gy rfl (List.getElem?_eq_getElem hlt);have e5:IntKind.i64.wrap ((i:Int)+1)=((i+1:Nat):Int):=wi;have okt:=ok a.terms[i] (azo hlt);have hnext:a.terms[i+1-1]?=some a.terms[i]:=List.getElem?_eq_getElem hlt;rw[azj hlt,ag];have ih':=ih (i+1) ω (some a.terms[i]) (fun h=>absurd h (Nat.succ_ne_zero _));generalize a.terms[i]=t at e2 okt ih' hnext⊢;generalize aq _ _ _=L at ih'⊢;have hvd:=eF okt;have hct:=fun(h:(t.exps.length:Int)=a.vars)=>ahL (l:=t.exps) ω;simp only[bV]at e2;simp only[af,ak]at hvd;unfold C0;cases hb:PZ a.vars t with
  |false=>
   simp only[ay6,if_neg ay9];unfold PZ at hb;by_cases c1:(t.exps.length:Int)=a.vars
   ·have f1:((t.exps.length:Int)=a.vars)=True:=tt c1;rw[decide_eq_true c1,ay5]at hb;cases c2:vd t.c with
    |false=>
     rw[c2]at hvd;refine⟨?hh2,?_⟩;rotate_left;simp only[ey,go_sem,h1,h20,h21,h22,k1,e1,e2,f1,hvd];rfl
    |true=>
     rw[c2]at hvd hb;rw[ay5]at hb;by_cases c3:t.c.m.length=0
     ·have f3:((t.c.m.length:Int)=0)=True:=tt;refine⟨?hh3,?_⟩;rotate_left;simp only[ey,go_sem,h1,h20,h21,h22,k1,e1,e2,f1,hvd,f3];rfl
     ·have f3:((t.c.m.length:Int)=0)=False:=ff;rw[decide_eq_true c3,ay5]at hb;have hct:=hct c1;cases c4:t.exps.any Fz with
      |true=>
       rw[c4]at hct;refine⟨?hh4,?_⟩;rotate_left;simp only[ey,go_sem,h1,h20,h21,h22,k1,e1,e2,f1,hvd,f3,hct];rfl
      |false=>
       rw[c4]at hct hb;rw[Bool.not_false,ay5]at hb;have hdg:=zE (a:=t.exps) ⟨by omega,B8 c4⟩;have f5:(32<aS t.exps)=True:=tt γ;refine⟨?hh5,?_⟩;rotate_left;simp only[ey,go_sem,h1,h20,h21,h22,k1,e1,e2,f1,hvd,f3,hct,hdg,f5];rfl
   ·have f1:((t.exps.length:Int)=a.vars)=False:=ff c1;refine⟨?hh1,?_⟩;rotate_left;simp only[ey,go_sem,h1,h20,h21,h22,k1,e1,e2,f1];rfl
  |true=>
   obtain⟨c1,c2,c3,c4,c5⟩:=FA hb;have f1:((t.exps.length:Int)=a.vars)=True:=tt c1;rw[c2]at hvd;have f3:((t.c.m.length:Int)=0)=False:=ff;have hct:=hct c1;rw[c4]at hct;have hdg:=zE (a:=t.exps) ⟨by omega,B8 c4⟩;have f5:(32<aS t.exps)=False:=ff;simp only[ay5];by_cases hi0:i=0
   ·have f6:(0< (i:Int))=False:=ff;rw[p0 hi0];simp only[acY,ay5];simp only[ey,go_sem,h1,h20,h21,h22,k1,e1,e2,f1,hvd,f3,hct,hdg,f5,f6,e5];exact ih' (fun _=>⟨t,rfl,hnext,hb⟩) _ _ rfl rfl rfl rfl rfl
   ·have f6:(0< (i:Int))=True:=tt;obtain⟨q,q1,q2,q3⟩:=p1 ω;obtain⟨d1,d2,d3,d4,d5⟩:=FA q3;rw[q1];have e7:IntKind.i64.wrap ((i:Int)-1)=((i-1:Nat):Int):=wi;have e8:aU (aD a.terms) ((i-1:Nat):Int)=some (.ipt (bV q)):=gy rfl q2;simp only[bV]at e8;have ho:=Xu (a:=q.exps) (b:=t.exps) ⟨by omega,B8 d4⟩ ⟨by omega,B8 c4⟩ ω;simp only[acY];by_cases c6:bX q.exps t.exps<0
    ·have f7:(0<=bX q.exps t.exps)=False:=ff;simp only[decide_eq_true c6,ay5];simp only[ey,go_sem,h1,h20,h21,h22,k1,e1,e2,f1,hvd,f3,hct,hdg,f5,f6,e5,e7,e8,ho,f7];exact ih' (fun _=>⟨t,rfl,hnext,hb⟩) _ _ rfl rfl rfl rfl rfl
    ·have f7:(0<=bX q.exps t.exps)=True:=tt;simp only[decide_eq_false c6,ay6,if_neg ay9];refine⟨?hh7,?_⟩;rotate_left;simp only[ey,go_sem,h1,h20,h21,h22,k1,e1,e2,f1,hvd,f3,hct,hdg,f5,f6,e7,e8,ho,f7];rfl
def vp(a:Rp):Bool:=decide (0<=a.vars)&& (decide (a.vars<=8)&& (decide (a.terms.length<=500)&&C0 a.vars none a.terms))
theorem P0{a:Rp}(ok:∀t∈a.terms,Ok0 t.c):R F.poly_Valid [be a] []=some (B (vp a),[]):=by
 refine av Wm rfl ?_;unfold vp;by_cases c1:0<=a.vars
 ·have f1:(a.vars<0)=False:=ff;rw[decide_eq_true c1,ay5];by_cases c2:a.vars<=8
  ·have f2:(8<a.vars)=False:=ff;rw[decide_eq_true c2,ay5];by_cases c3:a.terms.length<=500
   ·have f3:(500< (a.terms.length:Int))=False:=ff;rw[decide_eq_true c3,ay5];have h3:=akk ok c2 c3 a.terms.length 0 (ayX _) none (fun _=>rfl) (fun h=>absurd h (Nat.lt_irrefl _));simp only[azZ,azC]at h3;cases hb:C0 a.vars none a.terms with
    |true=>
     rw[hb]at h3;simp only[mj,rn,be,go_sem,f1,f2,f3];rw[(h3 _ _ rfl rfl rfl rfl rfl).choose_spec];simp only[go_sem]
    |false=>
     rw[hb]at h3;simp only[mj,rn,be,go_sem,f1,f2,f3];rw[(h3 _ _ rfl rfl rfl rfl rfl).choose_spec];simp only[go_sem]
   ·have f3:(500< (a.terms.length:Int))=True:=tt;rw[decide_eq_false c3,ay6];simp only[mj,rn,be,go_sem,f1,f2,f3]
  ·have f2:(8<a.vars)=True:=tt;rw[decide_eq_false c2,ay6];simp only[mj,rn,be,go_sem,f1,f2]
 ·have f1:(a.vars<0)=True:=tt;rw[decide_eq_false c1,ay6];simp only[mj,rn,be,go_sem,f1]
theorem wl{a:Rp}(ok:OkP a):R F.poly_Valid [be a] []=some (B (vp a),[]):=P0 fun t h=>(ok.t t h).c
@[go_sem] theorem akl(l:List Ri):(bK l).map (dY [.o 0 [],.o 2 [],.o 0 [],.o 0 [],.o 2 [],.o 0 [],.o 0 []])=bK l:=by
 refine si fun x hx=>?_;simp only[bK,azP]at hx;obtain⟨t,ht,rfl⟩:=hx;simp only[ax,go_sem]
theorem acZ{x:Ri}(ok:OkI x):R F.bound_domain_1 [ap x] []=some (B (!kI x),[]):=by
 refine av Fi rfl ?_;have hv:=qt ok;simp only[ap,ax]at hv;unfold kI;cases h1:vi x with
 |false=>
  rw[h1]at hv;rw[az3];simp only[qX,yR,ap,ax,go_sem,hv,Bool.not_false]
 |true=>
  rw[h1]at hv;rw[az1,Bool.not_not];simp only[qX,yR,ap,ax,go_sem,hv]
theorem ahM{l:List Ri}(ok:∀x∈l,OkI x)(h2:l.length<=100000):R F.slices_ContainsFunc_api_Interval_api_Interval_ [.sl 7 (bK l),.fn F.bound_domain_1 [] []] []=some (B (l.any fun x=>!kI x),[]):=by
 let p:List AV->Bool:=fun row=>match row with|[.v (.bool n1),.sl _ m1,.v (.int _ e1),.v (.bool n2),.sl _ m2,.v (.int _ e2),.v (.bool a)]=>!kI ⟨⟨n1,m1.map (fun r=>match r with|[.v (.int _ x)]=>x.toNat|_=>0),e1⟩,⟨n2,m2.map (fun r=>match r with|[.v (.int _ x)]=>x.toNat|_=>0),e2⟩,a⟩|_=>false
 have hmm:∀m:List Nat,(aC m).map (fun r=>match r with|[.v (.int _ x)]=>x.toNat|_=>0)=m:=fun m=>by
  grind[aC,List.map_map,azy,azN]
 have hp:∀x:Ri,p (ax x)=!kI x:=fun x=>by
  show(!kI ⟨⟨x.lo.neg,(aC x.lo.m).map _,x.lo.e⟩,⟨x.hi.neg,(aC x.hi.m).map _,x.hi.e⟩,x.all⟩)=_
  simp_all
 have h1:=WU (k:=7) (g:=true) (f:=F.bound_domain_1) (rows:=bK l) (p:=p) aK.2.1 aK.2.2 (aK.1.2.2.2 false) rfl (Fi.1.2.1 false) (by grind[Ed]) (fun row hr=>by
  simp only[bK,azP]at hr;obtain⟨x,hx,rfl⟩:=hr;have hd:=acZ (ok x hx);refine⟨ap x,rfl,rfl,?_⟩;rw[hp];simp only[ap,ax]at hd;simp only[ap,ax,go_sem,hd])
 have h2:=Rz (k:=7) aO.2.1 aO.2.2 (aO.1.2.2.2 false) rfl (aK.1.2.1 false) (aK.1.1 false) (by simp only[go_sem]) h1;have h3:(bK l).any p=l.any fun x=>!kI x:=by
  unfold bK;rw[List.any_map];congr 1;funext x;exact hp x
 grind
def pg(a:Rp)(dom:List Ri):Bool:=vp a&& (decide ((dom.length:Int)=a.vars)&&!(dom.any fun x=>!kI x))
theorem aeU{a:Rp}{dom:List Ri}(oa:OkP a)(od:∀x∈dom,OkI x)(h2:dom.length<=100000):R F.bound_domain [be a,.sl 7 (bK dom)] []=some (B (pg a dom),[]):=by
 refine av Rl rfl ?_;have hv:=wl oa;have hc:=ahM od h2;simp only[be]at hv;unfold pg;cases h1:vp a with
 |false=>
  rw[h1]at hv;simp only[qf,wM,be,go_sem,hv]
 |true=>
  rw[h1]at hv;by_cases h3:(dom.length:Int)=a.vars
  ·have e3:((dom.length:Int)=a.vars)=True:=tt h3;simp only[qf,wM,be,go_sem,hv,e3,hc]
  ·have e3:((dom.length:Int)=a.vars)=False:=ff h3;simp only[qf,wM,be,go_sem,hv,e3]
theorem L8{a:Rp}{dom:List Ri}(oa:OkP a)(od:∀x∈dom,OkI x)(h2:dom.length<=100000){p:Int}:R F.bound_fits [be a,.sl 7 (bK dom),I p] []=some (B (pg a dom&&bO p),[]):=by
 refine av WC rfl ?_;have hd:=aeU oa od h2;simp only[be]at hd;unfold bO;cases h1:pg a dom with
 |false=>
  rw[h1]at hd;simp only[tL,Az,be,go_sem,hd]
 |true=>
  rw[h1]at hd;by_cases h3:8<=p
  ·have e3:(8<=p)=True:=tt h3;simp only[tL,Az,be,go_sem,hd,e3,decide_true,ay5]
  ·have e3:(8<=p)=False:=ff h3;simp only[tL,Az,be,go_sem,hd,e3,decide_false,ay6]
theorem I9:R F.bound_whole [] []=some (ap ed,[]):=by
 refine av Uv rfl ?_;simp only[BJ,JN,ap,ax,ed,aG,go_sem]
def Le(p:Int):List Ri->List Int->Ri->Ri
 |d::ds,e::es,x=>Le p ds es (if 0<e then gX x (Fy d e.toNat p) p else x)
 |_,_,x=>x
theorem ane{dn up:Rd->Rd->Rd×Int}{pr:Nat->Rd×Rd}(h1:∀a b,Ok0 (dn a b).1)(h2:∀a b,Ok0 (up a b).1):OkI (JY (re dn up pr)):=by
 have hN:∀ (k i:Nat) (o:Rd×Rd),Ok0 o.1->Ok0 o.2->OkI (JY (w9 dn up pr k i o)):=by
  intro k;induction k with
  |zero=>exact fun i o g1 g2=>⟨g1,g2⟩
  |succ k ih=>
   intro i o g1 g2;unfold w9;split
   ·grind
   ·exact⟨aV.2,aV.2⟩
 unfold re;split
 ·grind
 ·exact⟨aV.2,aV.2⟩
theorem B9{x y:Ri}{p:Int}:OkI (gX x y p):=by
 unfold gX;split
 ·grind[ane,Ee]
 ·exact⟨aV.2,aV.2⟩
theorem L9{a b:Rd}{p:Int}{up:Bool}:Ok0 (di a b p up).1:=by
 unfold di;split
 ·exact ub.2
 ·exact aV.2
theorem Ei{x y:Ri}{p:Int}:OkI (gJ x y p):=by
 unfold gJ;split
 ·grind[Xr,L9]
 ·exact⟨aV.2,aV.2⟩
theorem akm{x:Ri}(ok:OkI x){e:Nat}{p:Int}:OkI (Fy x e p):=by
 grind[Fy,RU,B9]
theorem anf{p:Int}:∀ (ds:List Ri) (es:List Int) (x:Ri),OkI x->OkI (Le p ds es x):=by
 intro ds;induction ds with
 |nil=>exact fun es x h=>by cases es<;>exact h
 |cons d ds ih=>
  intro es x h;cases es with
  |nil=>exact h
  |cons e es=>
   grind[Le,B9]
theorem aqe{dom:List Ri}(od:∀x∈dom,OkI x){es:List Int}(hl:dom.length=es.length)(h2:dom.length<=100000)(he:∀e∈es,0<=e/\e<=32){p:Int}{c3 c6 c7 c9:List AV}{rw':AV}{n j:Int}
  (q3:aA [3,6,7,9,10] (.bx c3)=true) (q6:aA [3,6,7,9,10] (.bx c6)=true) (q7:aA [3,6,7,9,10] (.bx c7)=true) (q9:aA [3,6,7,9,10] (.bx c9)=true) (qr:gS [3,6,7,9,10] rw'=rw'):
  ∀ (k i:Nat),i+k=es.length->∀ (x:Ri),OkI x->∀ (s:ai) (h:ac),s 1=.sl 7 (bK dom)->s 2=I p->s 6=.ref 6 none 0 0 0->s 7=.ref 7 none 0 0 0->s 10=.ref 10 none 0 0 0->s 22=rw'->s 23=I n->s 24=I j->s 32=.sl 1 (aI es)->s 33=I es.length->s 34=I i->
  h 3=.bx c3->h 6=.bx c6->h 7=.bx c7->h 9=.bx c9->h 10=.bx (ax x)->
  ∃hh,ah 2 [1,2,6,7,10,22,23,24] (aq (aj R (az false) gG) [1,2,6,7,10,22,23,24,32,33,34] [3,6,7,9,10] s h)=some (.normal,⟨upd (upd (upd (upd (upd (upd (upd (upd (fun _=>.any) 24 (I j)) 23 (I n)) 22 rw') 10 (.ref 10 none 0 0 0)) 7 (.ref 7 none 0 0 0)) 6 (.ref 6 none 0 0 0)) 2 (I p)) 1 (.sl 7 (bK dom)),hh⟩)/\
   hh 3=.bx c3/\hh 6=.bx c6/\hh 7=.bx c7/\hh 10=.bx (ax (Le p (dom.drop i) (es.drop i) x))/\∀a,a≠3->a≠6->a≠7->a≠9->a≠10->hh a=.dead:=by
 intro k;induction k with
 |zero=>
  intro i hi x ox s h h1 h2' h6 h7 h10 h22 h23 h24 h32 h33 h34 k3 k6 k7 k9 k10;have e1:((i:Int)<es.length)=False:=ff;rw[azi ω,azi ω,ag];refine⟨?hh0,?_,?_,?_,?_,?_,?_⟩;rotate_left
  ·simp only[gG,go_sem,h1,h2',h6,h7,h10,h22,h23,h24,h32,h33,h34,k3,k6,k7,k9,k10,q3,q6,q7,q9,qr,e1];rfl
  ·rfl
  ·rfl
  ·rfl
  ·rfl
  simp_all[cj,if_false]
 |succ k ih=>
  intro i hi x ox s h h1 h2' h6 h7 h10 h22 h23 h24 h32 h33 h34 k3 k6 k7 k9 k10;have hlt:i<es.length:=ω
  have hlt2:i<dom.length:=ω
  have e1:((i:Int)<es.length)=True:=tt;have e2:aU (aI es) (i:Int)=some (.ipt [I es[i]]):=rW rfl (List.getElem?_eq_getElem hlt);have e3:aU (bK dom) (i:Int)=some (.ipt (ax dom[i])):=L7 rfl (List.getElem?_eq_getElem hlt2);have e5:IntKind.i64.wrap ((i:Int)+1)=((i+1:Nat):Int):=wi;have oki:=od dom[i] (azo hlt2);have hb:=he es[i] (azo hlt);rw[azj hlt,azj hlt2,ag];have ih':=ih (i+1) ω;unfold Le;generalize es[i]=e at e2 hb⊢;generalize dom[i]=d at e3 oki⊢;obtain⟨m,rfl⟩:=az4 hb.1;rw[ay4];have hpw:=akj oki (e:=m) ω (p:=p);have opw:=akm oki (e:=m) (p:=p);generalize Fy d m p=y at hpw opw⊢;have hmu:=Ef ox opw (p:=p);have omu:=B9 (x:=x) (y:=y) (p:=p);generalize gX x y p=z at hmu omu⊢;simp only[ap,ax]at e3 hpw hmu k10;by_cases hm:0< (m:Int)
  ·have f1:(0< (m:Int))=True:=tt hm;simp only[gG,go_sem,h1,h2',h6,h7,h10,h22,h23,h24,h32,h33,h34,k3,k6,k7,k9,k10,q3,q6,q7,q9,qr,e1,e2,e3,f1,hpw,hmu,e5];exact ih' z omu _ _ rfl rfl rfl rfl rfl rfl rfl rfl rfl rfl rfl rfl rfl rfl rfl rfl
  ·have f1:(0< (m:Int))=False:=ff hm;simp only[gG,go_sem,h1,h2',h6,h7,h10,h22,h23,h24,h32,h33,h34,k3,k6,k7,k9,k10,q3,q6,q7,q9,qr,e1,e2,e3,f1,hpw,hmu,e5];exact ih' x ox _ _ rfl rfl rfl rfl rfl rfl rfl rfl rfl rfl rfl rfl rfl rfl rfl rfl
def P1(p:Int)(dom:List Ri):List Rt->Ri->Ri
 |[],s=>s
 |t::l,s=>P1 p dom l (gJ s (Le p dom t.exps ⟨t.c,t.c,false⟩) p)
theorem Ma{v:Int}:∀ (l:List Rt) (pr:Option Rt),C0 v pr l=true->∀t∈l,PZ v t=true:=by
 intro l;induction l with
 |nil=>grind
 |cons a l ih=>
  intro pr h t ht;unfold C0 at h;grind
theorem aeV{a:Rp}{dom:List Ri}(oa:OkP a)(od:∀x∈dom,OkI x)(hv:∀t∈a.terms,PZ a.vars t=true)(hl:(dom.length:Int)=a.vars)(h8:a.vars<=8)(h5:a.terms.length<=500){p:Int}:
  ∀ (k i:Nat),i+k=a.terms.length->∀ (x:Ri),OkI x->∀ (s:ai) (h:ac),s 1=.sl 7 (bK dom)->s 2=I p->s 6=.ref 6 none 0 0 0->s 7=.ref 7 none 0 0 0->s 22=.sl 4 (aD a.terms)->s 23=I a.terms.length->s 24=I i->
  h 3=.bx [I a.vars,.sl 4 (aD a.terms)]->h 6=.bx [.v (.bool false),.emp,.v (.int .i64 0),.v (.bool false),.emp,.v (.int .i64 0),.v (.bool false)]->h 7=.bx (ax x)->
  ∃hh,ah 0 [6,7] (aq (aj R (az false) kW) [1,2,6,7,22,23,24] [3,6,7] s h)=some (.normal,⟨upd (upd (fun _=>.any) 7 (.ref 7 none 0 0 0)) 6 (.ref 6 none 0 0 0),hh⟩)/\hh 6=.bx [.v (.bool false),.emp,.v (.int .i64 0),.v (.bool false),.emp,.v (.int .i64 0),.v (.bool false)]/\hh 7=.bx (ax (P1 p dom (a.terms.drop i) x)):=by
 intro k;induction k with
 |zero=>
  intro i hi x ox s h h1 h2 h6 h7 h22 h23 h24 k3 k6 k7;have e1:((i:Int)<a.terms.length)=False:=ff;rw[azi ω,ag];refine⟨?hh0,?_,?_,?_⟩;rotate_left
  ·simp only[kW,go_sem,h1,h2,h6,h7,h22,h23,h24,k3,k6,k7,e1];rfl
  ·rfl
  ·rfl
 |succ k ih=>
  intro i hi x ox s h h1 h2 h6 h7 h22 h23 h24 k3 k6 k7;have hlt:i<a.terms.length:=ω
  have e1:((i:Int)<a.terms.length)=True:=tt;have e2:aU (aD a.terms) (i:Int)=some (.ipt (bV a.terms[i])):=gy rfl (List.getElem?_eq_getElem hlt);have e5:IntKind.i64.wrap ((i:Int)+1)=((i+1:Nat):Int):=wi;have okt:=oa.t a.terms[i] (azo hlt);obtain⟨c1,c2,c3,c4,c5⟩:=FA (hv a.terms[i] (azo hlt));rw[azj hlt,ag];have ih':=ih (i+1) ω;unfold P1;generalize a.terms[i]=t at e2 okt c1 c2 c3 c4 c5⊢;have hpt:=jY okt.c c2;have hin:=aqe (dom:=dom) od (es:=t.exps) ω ω (B8 c4) (p:=p) (c3:=[I a.vars,.sl 4 (aD a.terms)]) (c6:=[.v (.bool false),.emp,.v (.int .i64 0),.v (.bool false),.emp,.v (.int .i64 0),.v (.bool false)]) (c7:=ax x) (c9:=bV t) (rw':=.sl 4 (aD a.terms)) (n:=a.terms.length) (j:=i) rfl rfl rfl rfl rfl t.exps.length 0 (ayX _) ⟨t.c,t.c,false⟩ ⟨okt.c,okt.c⟩;simp only[azZ,azC]at hin;have oy:=anf (p:=p) dom t.exps ⟨t.c,t.c,false⟩ ⟨okt.c,okt.c⟩;generalize Le p dom t.exps ⟨t.c,t.c,false⟩=y at hin oy⊢;have hadd:=B6 ox oy (p:=p);have oz:=Ei (x:=x) (y:=y) (p:=p);generalize gJ x y p=z at hadd oz⊢;generalize hL0:aq (aj R (az false) gG) [1,2,6,7,10,22,23,24,32,33,34] [3,6,7,9,10]=L0 at hin;have hin2:∀ (S:ai) (H:ac) (X:Option (Ex×St)),ah 2 [1,2,6,7,10,22,23,24] (L0 S H)=X->S 1=.sl 7 (bK dom)->S 2=I p->S 6=.ref 6 none 0 0 0->S 7=.ref 7 none 0 0 0->S 10=.ref 10 none 0 0 0->S 22=.sl 4 (aD a.terms)->S 23=I a.terms.length->S 24=I i->S 32=.sl 1 (aI t.exps)->S 33=I t.exps.length->S 34=I 0->
   H 3=.bx [I a.vars,.sl 4 (aD a.terms)]->H 6=.bx [.v (.bool false),.emp,.v (.int .i64 0),.v (.bool false),.emp,.v (.int .i64 0),.v (.bool false)]->H 7=.bx (ax x)->H 9=.bx (bV t)->H 10=.bx (ax ⟨t.c,t.c,false⟩)->
   ∃hh,X=some (.normal,⟨upd (upd (upd (upd (upd (upd (upd (upd (fun _=>.any) 24 (I i)) 23 (I a.terms.length)) 22 (.sl 4 (aD a.terms))) 10 (.ref 10 none 0 0 0)) 7 (.ref 7 none 0 0 0)) 6 (.ref 6 none 0 0 0)) 2 (I p)) 1 (.sl 7 (bK dom)),hh⟩)/\
    hh 3=.bx [I a.vars,.sl 4 (aD a.terms)]/\hh 6=.bx [.v (.bool false),.emp,.v (.int .i64 0),.v (.bool false),.emp,.v (.int .i64 0),.v (.bool false)]/\hh 7=.bx (ax x)/\hh 10=.bx (ax y)/\∀a,a≠3->a≠6->a≠7->a≠9->a≠10->hh a=.dead:=fun S H X hX=>by
   rw[←hX];exact hin S H
  have hX:∀s h,aj R (az false) (.loop [1,2,6,7,10,22,23,24,32,33,34] [3,6,7,9,10] gG) s h=L0 s h:=fun s h=>by rw[←hL0];rfl
  simp only[bV]at e2 hin2;simp only[ap,ax,af,ak]at hpt hadd k7 hin2;simp only[kW,hX,go_sem,h1,h2,h6,h7,h22,h23,h24,k3,k6,k7,e1,e2,hpt];generalize hB:ah 2 [1,2,6,7,10,22,23,24] (L0 _ _)=X;obtain⟨hh,g0,g3,g6,g7,g10,gd⟩:=hin2 _ _ _ hB rfl rfl rfl rfl rfl rfl rfl rfl rfl rfl rfl rfl rfl rfl rfl rfl;rw[g0];simp only[go_sem,ne_eq,not_false_eq_true,g7,g10,gd,hadd,e5];refine ih' z oz _ _ ?_ ?_ ?_ ?_ ?_ ?_ ?_ ?_ ?_ ?_
  all_goals first|rfl|exact g3|exact g6
def qu(a:Rp)(dom:List Ri)(p:Int):Ri:=if(pg a dom&&bO p)=true then P1 p dom a.terms ⟨aG,aG,false⟩else ed
theorem ahN{a:Rp}{dom:List Ri}(oa:OkP a)(od:∀x∈dom,OkI x)(h2:dom.length<=100000){p:Int}:R F.bound_Naive [be a,.sl 7 (bK dom),I p] []=some (ap (qu a dom p),[]):=by
 refine av Uw rfl ?_;have hf:=L8 oa od h2 (p:=p);have hw:=I9;unfold qu;simp only[be]at hf;cases hb:(pg a dom&&bO p)with
 |false=>
  rw[hb]at hf;simp only[wH,Dl,be,ap,ax,go_sem,hf,hw]
 |true=>
  rw[hb]at hf;simp only[pg,vp,ay1,decide_eq_true_eq]at hb;obtain⟨⟨⟨v1,v2,v3,v4⟩,v5,v6⟩,v7⟩:=hb;have ho:=aeV oa od (Ma _ _ v4) v5 v2 v3 (p:=p) a.terms.length 0 (ayX _) ⟨aG,aG,false⟩ ⟨aV.2,aV.2⟩;simp only[azZ,azC]at ho;generalize P1 p dom a.terms ⟨aG,aG,false⟩=z at ho⊢;have hpt:=jY aV.2 aV.1;generalize hL0:aq (aj R (az false) kW) [1,2,6,7,22,23,24] [3,6,7]=L0 at ho;have hX:∀s h,aj R (az false) (.loop [1,2,6,7,22,23,24] [3,6,7] kW) s h=L0 s h:=fun s h=>by rw[←hL0];rfl
  have ho2:∀ (S:ai) (H:ac) (X:Option (Ex×St)),ah 0 [6,7] (L0 S H)=X->S 1=.sl 7 (bK dom)->S 2=I p->S 6=.ref 6 none 0 0 0->S 7=.ref 7 none 0 0 0->S 22=.sl 4 (aD a.terms)->S 23=I a.terms.length->S 24=I 0->
   H 3=.bx [I a.vars,.sl 4 (aD a.terms)]->H 6=.bx [.v (.bool false),.emp,.v (.int .i64 0),.v (.bool false),.emp,.v (.int .i64 0),.v (.bool false)]->H 7=.bx (ax ⟨aG,aG,false⟩)->
   ∃hh,X=some (.normal,⟨upd (upd (fun _=>.any) 7 (.ref 7 none 0 0 0)) 6 (.ref 6 none 0 0 0),hh⟩)/\hh 6=.bx [.v (.bool false),.emp,.v (.int .i64 0),.v (.bool false),.emp,.v (.int .i64 0),.v (.bool false)]/\hh 7=.bx (ax z):=fun S H X hX=>by
   rw[←hX];exact ho S H
  simp only[ap,ax,af,ak,aG]at hpt ho2;simp only[wH,Dl,hX,be,ap,ax,go_sem,hf,hpt];generalize hB:ah 0 [6,7] (L0 _ _)=X;obtain⟨hh,g0,g6,g7⟩:=ho2 _ _ _ hB rfl rfl rfl rfl rfl rfl rfl rfl rfl rfl;rw[g0];simp only[go_sem,g6,g7]
theorem FB{n:Nat}{i:Int}(hi:i=n)(hn:n<18446744073709551616):dq .and (.v (.int .u64 i)) (.v (.int .u64 4294967295))=some (.v (.int .u64 ((n%4294967296:Nat):Int))):=by
 rw[QU];have e:(BitVec.ofInt IntKind.u64.bits (n:Int)&&&BitVec.ofInt IntKind.u64.bits 4294967295).toNat=n%4294967296:=by
  show(BitVec.ofInt 64 (n:Int)&&&BitVec.ofInt 64 4294967295).toNat=n%4294967296;rw[BitVec.toNat_and];have e2:(BitVec.ofInt 64 (n:Int)).toNat=n:=by
   grind
  rw[e2,show(BitVec.ofInt 64 4294967295).toNat=2^32-1 from by decide,Nat.and_two_pow_sub_one_eq_mod]
 grind[dK]
theorem Xv{n:Nat}{i:Int}(hi:i=n)(hn:n<4294967296):dq .and (.v (.int .u32 i)) (.v (.int .u32 1))=some (.v (.int .u32 ((n%2:Nat):Int))):=by
 rw[QU];have e:(BitVec.ofInt IntKind.u32.bits (n:Int)&&&BitVec.ofInt IntKind.u32.bits 1).toNat=n%2:=by
  show(BitVec.ofInt 32 (n:Int)&&&BitVec.ofInt 32 1).toNat=n%2;grind
 grind[DK]
theorem ac0(m:List Nat)(h2:m.length<4611686018427387904):∀ (n:Nat),n<=m.length->∀ (s:ai) (h:ac),s 0=lm m->s 3=I n->
  ah 0 [0,3] (aq (aj R (az false) JH) [0,3] [] s h)=some (.normal,⟨upd (upd (fun _=>.any) 3 (I (ni m n))) 0 (lm m),fun _=>.dead⟩):=Tn m h2
theorem FC{m:List Nat}(hb:Lb m)(h:m.length<=10000000):R F.r02_trim [lm m] []=some (lm (au (ab m)),[]):=by
 refine av acA rfl ?_;have h1:dH 1 (lm m) none (some (I (ni m m.length:Nat))) none=some (lm (au (ab m))):=by
  rw[K2 (a:=0) (b:=ni m m.length) rfl (vU rfl (Fb _ _)) (Fb _ _),azZ,Nat.sub_zero,NI hb]
 have hl:=dy m hb;have e1:((au (ab m)).length*4<=140737488355328)=True:=tt;simp only[G8,Pk,go_sem,ac0 m ω m.length (ayZ _),h1,Xe,e1,ay8,azx,true_or,ayX,ayZ,List.replicate_zero]
theorem aeW:∀ (x b:Nat),x<4294967296->b+ae x<=100000000->∀ (s:ai) (h:ac),s 3=I b->s 4=U x->
  ah 0 [3] (aq (aj R (az false) ym) [3,4] [] s h)=some (.normal,⟨upd (fun _=>.any) 3 (I (b+ae x:Nat)),fun _=>.dead⟩):=by
 intro x;induction x using Nat.strongRecOn with
 |ind x ih=>
  intro b hx hb s h h3 h4;rw[ag];by_cases h0:x=0
  ·have e1:(0< (x:Int))=False:=ff;rw[h0,sf,azA];simp only[ym,go_sem,h3,h4,e1]
  ·have e1:(0< (x:Int))=True:=tt;have e2:=L4 (n:=x) (k:=1) (kk:=.u64) (j:=1) rfl rfl ω;have e3:IntKind.i64.wrap ((b:Int)+1)=((b+1:Nat):Int):=wi;have e4:ae x=1+ae (x/2^1):=by
    have h5:=mu x 1;grind[fR]
   have ih':=ih (x/2^1) ω (b+1) ω ω;rw[show b+ae x=b+1+ae (x/2^1)by omega];simp only[ym,go_sem,h3,h4,e1,e2,e3];exact ih' _ _ rfl rfl
theorem ahO{m:List Nat}(hb:Lb m)(h:m.length<=1000000)(hc:CD m):R F.r02_bits [lm m] []=some (I (ae (ab m):Nat),[]):=by
 refine av acy rfl ?_;by_cases h0:m.length=0
 ·have:m=[]:=List.length_eq_zero_iff.1 h0;subst this;simp only[Cz,IN,go_sem,azx,azC,ab,sf]
 ·have e1:((m.length:Int)=0)=False:=ff;have e2:IntKind.i64.wrap ((m.length:Int)-1)=((m.length-1:Nat):Int):=wi;have e3:IntKind.i64.wrap (32*((m.length-1:Nat):Int))=((32*(m.length-1):Nat):Int):=wi;have e4:aU (aC m) ((m.length-1:Nat):Int)=some (.ipt [U (m.getD (m.length-1) 0:Nat)]):=bu rfl ω;have hx:=bU hb (m.length-1);have e5:=aeW (m.getD (m.length-1) 0) (32*(m.length-1)) hx (by have:=(bD (k:=32)).2 hx;omega);have e6:32*(m.length-1)+ae (m.getD (m.length-1) 0)=ae (ab m):=by
   grind[Xb,KU,HO]
  rw[e6]at e5;simp only[Cz,IN,go_sem,e1,e2,e3,e4];rw[e5 _ _ rfl rfl];simp only[go_sem]
theorem Xw{m:List Nat}(hb:Lb m)(n:Nat):m.getD (n/32) 0/2^ (n%32) %2=ab m/2^n%2:=by
 have h1:ab m/2^n=ab (m.drop (n/32))/2^ (n%32):=by
  rw[yX hb,Nat.div_div_eq_div_mul,zz]
 rw[h1,fF];have e:(4294967296:Nat)=2^ (n%32)*(2*2^ (31-n%32)):=by
  rw[←Nat.pow_succ',←azc,show n%32+(31-n%32+1)=32 by omega]
 simp_all[azq,Nat.add_mul_div_left,aze,Nat.add_mul_mod_self_left]
theorem aeX{n:Nat}(h:n≠0){k:Nat}(hk:k<=tz n):n/2^k%2=if k=tz n then 1 else 0:=by
 obtain⟨h1,h2⟩:=zu h;by_cases hh:k=tz n
 ·grind
 ·obtain⟨j,hj⟩:∃j,tz n=k+(j+1):=⟨tz n-k-1,by omega⟩;have h3:n=2^k*(2*(2^j*(n/2^tz n))):=by
   grind
  grind[Nat.mul_div_cancel_left,aze,Nat.mul_mod_right]
theorem ac1{m:List Nat}(hb:Lb m)(h:m.length<=1000000)(hv:ab m≠0):∀ (k i:Nat),i+k=tz (ab m)->∀ (s:ai) (h:ac),s 0=lm m->s 3=I i->
  ah 0 [3] (aq (aj R (az false) wE) [0,3] [] s h)=some (.normal,⟨upd (fun _=>.any) 3 (I (tz (ab m):Nat)),fun _=>.dead⟩):=by
 have htz:tz (ab m)<32*m.length:=by
  simp_all[UV,cW,Nat.pow_mul]
 intro k;induction k with
 |zero=>
  intro i hi s h h0 h3;have hi':i=tz (ab m):=ω
  have e1:=Eb (n:=i) (m:=32) (j:=32) rfl rfl ω ω;have e2:=Ea (n:=i) (m:=32) (j:=32) rfl rfl ω;have e3:aU (aC m) ((i/32:Nat):Int)=some (.ipt [U (m.getD (i/32) 0:Nat)]):=bu rfl ω;have hx:=bU hb (i/32);have e4:IntKind.u64.wrap ((i%32:Nat):Int)=((i%32:Nat):Int):=dK rfl ω;have e5:=L4 (n:=m.getD (i/32) 0) (k:=i%32) (kk:=.u64) (j:=((i%32:Nat):Int)) rfl rfl ω;have e6:=Xv (n:=m.getD (i/32) 0/2^ (i%32)) rfl (azt (Nat.div_le_self _ _) hx);have e7:=Xw hb i;rw[aeX hv ω,if_pos hi']at e7;rw[e7]at e6;rw[ag];rw[←hi'];simp only[wE,go_sem,azf,h0,h3,e1,e2,e3,e4,e5,e6,Int.natCast_one]
 |succ k ih=>
  intro i hi s h h0 h3;have e1:=Eb (n:=i) (m:=32) (j:=32) rfl rfl ω ω;have e2:=Ea (n:=i) (m:=32) (j:=32) rfl rfl ω;have e3:aU (aC m) ((i/32:Nat):Int)=some (.ipt [U (m.getD (i/32) 0:Nat)]):=bu rfl ω;have hx:=bU hb (i/32);have e4:IntKind.u64.wrap ((i%32:Nat):Int)=((i%32:Nat):Int):=dK rfl ω;have e5:=L4 (n:=m.getD (i/32) 0) (k:=i%32) (kk:=.u64) (j:=((i%32:Nat):Int)) rfl rfl ω;have e6:=Xv (n:=m.getD (i/32) 0/2^ (i%32)) rfl (azt (Nat.div_le_self _ _) hx);have e7:=Xw hb i;rw[aeX hv ω,if_neg ω]at e7;rw[e7]at e6;have e8:IntKind.i64.wrap ((i:Int)+1)=((i+1:Nat):Int):=wi;have ih':=ih (i+1) ω;rw[ag];simp only[wE,go_sem,h0,h3,e1,e2,e3,e4,e5,e6,e8,azC];exact ih' _ _ rfl rfl
theorem aeY{m:List Nat}(hb:Lb m)(h:m.length<=1000000)(hv:ab m≠0):R F.r02_zeros [lm m] []=some (I (tz (ab m):Nat),[]):=by
 refine av Zl rfl ?_;have h3:=ac1 hb h hv (tz (ab m)) 0 (ayX _);simp only[ER,M8,go_sem];rw[h3 _ _ rfl rfl];simp only[go_sem]
theorem aeZ{a:List Nat}(ha:Lb a){n q:Nat}(h1:a.length<=100000)(hq:q<=100000):∀ (k i:Nat),i+k=a.length->∀ (s:ai) (h:ac),s 0=lm a->s 1=I (n:Nat)->s 5=.rsl 11 none 1 0 (q+i)->s 6=W (ju a (n%32) i:Nat)->s 7=I i->
  h 11=.ar 1 (aC (ayW q 0++oV a (n%32) i))->h 34=.dead->
  ah 0 [5,6] (aq (aj R (az false) yu) [0,1,5,6,7] [11,34] s h)=
   some (.normal,⟨upd (upd (fun _=>.any) 6 (W (ju a (n%32) a.length:Nat))) 5 (.rsl 11 none 1 0 (q+a.length)),upd (upd (fun _=>.dead) 34 .dead) 11 (.ar 1 (aC (ayW q 0++oV a (n%32) a.length)))⟩):=by
 intro k;induction k with
 |zero=>
  intro i hi s h h0 g1 h5 h6 h7 hh hh2;have:i=a.length:=ω
  subst this;rw[ag];simp only[yu,go_sem,h0,g1,h5,h6,h7,hh,hh2,azI]
 |succ k ih=>
  intro i hi s h h0 g1 h5 h6 h7 hh hh2;have ih':=ih (i+1) ω;have hx:=bU ha i;have hc:=HV ha (r:=n%32) i;have hp:2^ (n%32)<=2^31:=azD ω ω;have hxp:a.getD i 0*2^ (n%32)<=4294967295*2^31:=Nat.mul_le_mul ω hp;have e1:((i:Int)< (a.length:Int))=True:=tt;have e2:aU (aC a) (i:Int)=some (.ipt [U (a.getD i 0:Nat)]):=bu rfl ω;have e3:IntKind.i64.wrap ((i:Int)+1)=((i+1:Nat):Int):=wi;have e4:IntKind.u64.wrap (a.getD i 0:Int)=(a.getD i 0:Int):=dK rfl ω;have e5:=Ea (n:=n) (m:=32) (j:=32) rfl rfl ω;have e5':IntKind.u64.wrap ((n%32:Nat):Int)=((n%32:Nat):Int):=dK rfl ω;have e6:=Gz (n:=a.getD i 0) (k:=n%32) (kk:=.u64) (j:=((n%32:Nat):Int)) rfl rfl ω ω;have e7:=N6 (m:=a.getD i 0*2^ (n%32)) (n:=ju a (n%32) i) rfl rfl ω ω;rw[Fq hc]at e7;have e10:=FB (n:=a.getD i 0*2^ (n%32)+ju a (n%32) i) rfl ω;have e8:IntKind.u32.wrap (((a.getD i 0*2^ (n%32)+ju a (n%32) i) %4294967296:Nat):Int)=(((a.getD i 0*2^ (n%32)+ju a (n%32) i) %4294967296:Nat):Int):=DK rfl ω;have e9:=sW (n:=a.getD i 0*2^ (n%32)+ju a (n%32) i) (k:=32) (kk:=.u64) (j:=32) rfl rfl ω;have f1:aC (ayW q 0++oV a (n%32) i)++[[U ((a.getD i 0*2^ (n%32)+ju a (n%32) i) %4294967296:Nat)]]=aC (ayW q 0++oV a (n%32) (i+1)):=by
   simp_all[U,ju,aC,DY,azB,oV,List.range_succ]
  have f2:(q+i=(ayW q 0++oV a (n%32) i).length)=True:=tt (by simp[wX]);have f3:((q+i+1)*4<=140737488355328)=True:=tt;rw[ag];simp only[yu,go_sem,h0,g1,h5,h6,h7,hh,hh2,e1,e2,e3,e4,e5,e5',e6,e7,e8,e9,e10,f1,f2,f3,true_or,ayX,ayZ];exact ih' _ _ rfl rfl rfl rfl rfl rfl rfl
theorem Xx{a:List Nat}(ha:Lb a){n:Nat}(h1:a.length<=10000)(hn:n<=100000):R F.r02_left [lm a,I n] []=some (lm (au (ab a*2^n)),[]):=by
 refine av acD rfl ?_;have hc:=HV ha (r:=n%32) a.length;have hp:2^ (n%32)<=2^31:=azD ω ω;have e1:=Eb (n:=n) (m:=32) (j:=32) rfl rfl ω ω;have e4:=se (i:=((n/32:Nat):Int)) (j:=((n/32:Nat):Int)) rfl rfl (ayZ _) ω;have e5:(n/32*4<=140737488355328)=True:=tt;have e6:=aeZ ha (n:=n) (q:=n/32) ω ω a.length 0 ω;have e7:aC (ayW (n/32) 0)=aC (ayW (n/32) 0++oV a (n%32) 0):=by simp[oV]
 have e8:IntKind.u32.wrap ((ju a (n%32) a.length:Nat):Int)=((ju a (n%32) a.length:Nat):Int):=DK rfl ω;have hall:=Z3 ha n;have f1:aC (ayW (n/32) 0++oV a (n%32) a.length)++[[U (ju a (n%32) a.length:Nat)]]=aC (dJ (n/32+a.length+1) (ab a*2^n)):=by
  rw[←hall,show [[U (ju a (n%32) a.length:Nat)]]=aC [ju a (n%32) a.length]from rfl,DY]
 have f2:(n/32+a.length=(ayW (n/32) 0++oV a (n%32) a.length).length)=True:=tt (by simp[wX]);have f3:((n/32+a.length+1)*4<=140737488355328)=True:=tt;have ht:=FC (px (n/32+a.length+1) (ab a*2^n)) γ;have hv:ab (dJ (n/32+a.length+1) (ab a*2^n))=ab a*2^n:=by
  rw[mr,azL];have h:=cW ha;have h2:2^n<=4294967296^ (n/32+1):=by
   rw[show(4294967296:Nat)=2^32 from rfl,←Nat.pow_mul];exact azD ω ω
  rw[show n/32+a.length+1=a.length+(n/32+1)from by omega,azc];exact Nat.mul_lt_mul_of_lt_of_le h h2 (Nat.pow_pos ω)
 rw[hv]at ht;have f4:(aC (dJ (n/32+a.length+1) (ab a*2^n))).take (n/32+a.length+1)=aC (dJ (n/32+a.length+1) (ab a*2^n)):=by
  rw[azg];rw[Ry,cY];omega
 simp only[Ha,Pn,go_sem,e1,e4,e5,BX,e7];rw[e6 _ _ rfl rfl rfl rfl rfl rfl rfl];simp only[go_sem,e8,f1,f2,f3,f4,true_or,ayX,ayZ,cY,ht]
def GF(d:Nat)(out:List Nat)(x:AV)(o:Ob):Prop:=(out=[]/\x=.emp/\o=.dead)\/(0<out.length/\x=.rsl d none 1 0 out.length/\o=.ar 1 (aC out))
theorem Ca{d v:Nat}:GF d ([]++[v]) (.rsl d none 1 0 1) (.ar 1 [[U (v:Nat)]]):=Or.inr ⟨by simp,rfl,rfl⟩
theorem y6{d v:Nat}{out:List Nat}:GF d (out++[v]) (.rsl d none 1 0 (out.length+1)) (.ar 1 (aC (out++[v]))):=Or.inr ⟨by simp,by grind,rfl⟩
theorem wm(out:List Nat)(v:Nat):aC out++[[U (v:Nat)]]=aC (out++[v]):=by simp[aC]
theorem ae0(a:List Nat)(r i:Nat):oC a r (i+1)=oC a r i++[vW a r i]:=by simp[oC,List.range_succ]
theorem ac2{a:List Nat}(ha:Lb a){n:Nat}(h1:a.length<=100000):∀ (k i:Nat),i+k=a.length->∀ (s:ai) (h:ac),s 0=lm a->s 1=I (n:Nat)->s 6=I i->GF 51 (oC a (n%32) i) (s 5) (h 51)->
  ∃x hh,ah 0 [5] (aq (aj R (az false) fH) [0,1,5,6] [51] s h)=some (.normal,⟨upd (fun _=>.any) 5 x,hh⟩)/\GF 51 (oC a (n%32) a.length) x (hh 51)/\∀a,a≠51->hh a=.dead:=by
 intro k;induction k with
 |zero=>
  intro i hi s h h0 g1 h6 hacc;have:i=a.length:=ω
  subst this;rw[ag];rcases hacc with⟨g2,h5,hh⟩| ⟨g2,h5,hh⟩
  ·refine⟨.emp,?hh0,?_,Or.inl ⟨g2,rfl,?_⟩,?_⟩;rotate_left
   ·simp only[fH,go_sem,h0,g1,h5,h6,hh,azI];rfl
   all_goals simp_all[cj,if_false]
  ·refine⟨.rsl 51 none 1 0 (oC a (n%32) a.length).length,?hh1,?_,Or.inr ⟨g2,rfl,?_⟩,?_⟩;rotate_left
   ·simp only[fH,go_sem,h0,g1,h5,h6,hh,azI];rfl
   all_goals simp_all[cj,if_false]
 |succ k ih=>
  intro i hi s h h0 g1 h6 hacc;have ih':=ih (i+1) ω;have hx:=bU ha i;have hy:=bU ha (i+1);have hr:n%32<32:=azw _ ω;have e1:((i:Int)< (a.length:Int))=True:=tt;have e2:aU (aC a) (i:Int)=some (.ipt [U (a.getD i 0:Nat)]):=bu rfl ω;have e3:IntKind.i64.wrap ((i:Int)+1)=((i+1:Nat):Int):=wi;have e4:IntKind.u64.wrap (a.getD i 0:Int)=(a.getD i 0:Int):=dK rfl ω;have e5:=Ea (n:=n) (m:=32) (j:=32) rfl rfl ω;have e5':IntKind.u64.wrap ((n%32:Nat):Int)=((n%32:Nat):Int):=dK rfl ω;have q1:((oC a (n%32) i).length+1)*4<=140737488355328:=by grind[yc]
  have f3:=tt q1;have hlt:∀w:Nat,w<18446744073709551616->w/2^ (n%32)<18446744073709551616:=fun w hw=>azt (Nat.div_le_self _ _) hw;rw[ag];rw[ae0]at ih';generalize aq _ _ _=L at ih'⊢;by_cases hl:i+1<a.length
  ·have f1:(((i+1:Nat):Int)< (a.length:Int))=True:=tt;have f2:aU (aC a) ((i+1:Nat):Int)=some (.ipt [U (a.getD (i+1) 0:Nat)]):=bu rfl hl;have f5:IntKind.u64.wrap (a.getD (i+1) 0:Int)=(a.getD (i+1) 0:Int):=dK rfl ω;have f6:=Gz (n:=a.getD (i+1) 0) (k:=32) (kk:=.u64) (j:=32) rfl rfl ω ω;have f7:=N6 (m:=a.getD i 0) (n:=a.getD (i+1) 0*2^32) rfl rfl ω ω;rw[Nat.or_comm,Fq hx,show a.getD (i+1) 0*2^32+a.getD i 0=a.getD i 0+4294967296*a.getD (i+1) 0 by omega]at f7;have f8:=sW (n:=a.getD i 0+4294967296*a.getD (i+1) 0) (k:=n%32) (kk:=.u64) (j:=((n%32:Nat):Int)) rfl rfl ω;have f9:=FB (n:=(a.getD i 0+4294967296*a.getD (i+1) 0)/2^ (n%32)) rfl (hlt _ ω);rw[show(a.getD i 0+4294967296*a.getD (i+1) 0)/2^ (n%32) %4294967296=vW a (n%32) i from rfl]at f9;have f10:IntKind.u32.wrap ((vW a (n%32) i:Nat):Int)=((vW a (n%32) i:Nat):Int):=DK rfl (azw _ ω);rcases hacc with⟨g2,h5,hh⟩| ⟨g2,h5,hh⟩
   ·simp only[fH,go_sem,h0,g1,h5,h6,hh,e1,e2,e3,e4,e5,e5',f1,f2,f5,f6,f7,f8,f9,f10];rw[g2]at ih';exact ih' _ _ rfl rfl rfl Ca
   ·simp only[fH,go_sem,h0,g1,h5,h6,hh,e1,e2,e3,e4,e5,e5',f1,f2,f3,f5,f6,f7,f8,f9,f10,true_or,ayX,ayZ,wm];exact ih' _ _ rfl rfl rfl y6
  ·have f1:(((i+1:Nat):Int)< (a.length:Int))=False:=ff;have hz:a.getD (i+1) 0=0:=by
    grind
   have f8:=sW (n:=a.getD i 0) (k:=n%32) (kk:=.u64) (j:=((n%32:Nat):Int)) rfl rfl ω;have f9:=FB (n:=a.getD i 0/2^ (n%32)) rfl (hlt _ ω);rw[show a.getD i 0/2^ (n%32) %4294967296=vW a (n%32) i by simp_all[vW,Nat.mul_zero,azA]]at f9;have f10:IntKind.u32.wrap ((vW a (n%32) i:Nat):Int)=((vW a (n%32) i:Nat):Int):=DK rfl (azw _ ω);rcases hacc with⟨g2,h5,hh⟩| ⟨g2,h5,hh⟩
   ·simp only[fH,go_sem,h0,g1,h5,h6,hh,e1,e2,e3,e4,e5,e5',f1,f8,f9,f10];rw[g2]at ih';exact ih' _ _ rfl rfl rfl Ca
   ·simp only[fH,go_sem,h0,g1,h5,h6,hh,e1,e2,e3,e4,e5,e5',f1,f3,f8,f9,f10,true_or,ayX,ayZ,wm];exact ih' _ _ rfl rfl rfl y6
theorem Og(m:List Nat):(aC m).take m.length=aC m:=by
 simp_all[azg,Ry,ayZ]
theorem ae1{a:List Nat}(ha:Lb a){n:Nat}(h1:a.length<=10000)(hn:n<=1000000):R F.r02_right [lm a,I n] []=some (lm (au (ab a/2^n)),[]):=by
 refine av Zm rfl ?_;have e1:=Eb (n:=n) (m:=32) (j:=32) rfl rfl ω ω;by_cases hq:a.length<=n/32
 ·have e2:((a.length:Int)<=((n/32:Nat):Int))=True:=tt;have hz:ab a/2^n=0:=by
   rw[←zz n,←Nat.div_div_eq_div_mul,←yX ha,List.drop_of_length_le hq];exact Nat.zero_div _
  rw[hz,fQ];simp only[Au,G9,go_sem,e1,e2]
 ·have e2:((a.length:Int)<=((n/32:Nat):Int))=False:=ff;have e3:dH 1 (lm a) (some (I (n/32:Nat))) none none=some (lm (a.drop (n/32))):=by
   rw[K2 (a:=n/32) (b:=a.length) (vU rfl ω) rfl (ayZ _),azg γ]
  have hd:=nK ha (n/32);have hl:(a.drop (n/32)).length<=10000:=γ
  have hv:ab a/2^n=ab (a.drop (n/32))/2^ (n%32):=by
   rw[yX ha,Nat.div_div_eq_div_mul,zz]
  rw[hv];have hr:=ac2 hd (n:=n) ω (a.drop (n/32)).length 0 (ayX _);have hall:=W9 hd (r:=n%32) ω;have hL:=yc (a.drop (n/32)) (n%32) (a.drop (n/32)).length;have hLb:Lb (oC (a.drop (n/32)) (n%32) (a.drop (n/32)).length):=by
   grind[px]
  have hvv:ab (oC (a.drop (n/32)) (n%32) (a.drop (n/32)).length)=ab (a.drop (n/32))/2^ (n%32):=by
   rw[hall,mr,azL];exact azt (Nat.div_le_self _ _) (cW hd)
  generalize a.drop (n/32)=m at e3 hd hl hr hall hL hLb hvv⊢;have ht:=FC hLb ω;rw[hvv]at ht;have q0:GF 51 (oC m (n%32) 0) .emp .dead:=Or.inl ⟨rfl,rfl,rfl⟩;generalize hLL:aq (aj R (az false) fH) [0,1,5,6] [51]=L at hr;have hX:∀s h,aj R (az false) (.loop [0,1,5,6] [51] fH) s h=L s h:=fun s h=>by rw[←hLL];rfl
  generalize oC m (n%32) m.length=out at hr hall hL hLb hvv ht;have hr2:∀ (S:ai) (H:ac) (X:Option (Ex×St)),ah 0 [5] (L S H)=X->S 0=lm m->S 1=I n->S 6=I 0->S 5=.emp->H 51=.dead->∃x hh,X=some (.normal,⟨upd (fun _=>.any) 5 x,hh⟩)/\GF 51 out x (hh 51)/\∀a,a≠51->hh a=.dead:=fun S H X hX a0 a1 a6 a5 b=>by
   rw[←hX];exact hr S H a0 a1 a6 γ
  simp only[Au,G9,hX,go_sem,e1,e2,e3];generalize hB:ah 0 [5] (L _ _)=X;obtain⟨x,hh,g0,hacc,gd⟩:=hr2 _ _ _ hB rfl rfl rfl rfl rfl;rw[g0];rcases hacc with⟨c1,c2,c3⟩| ⟨c1,c2,c3⟩
  ·rw[c1]at ht;simp only[go_sem,c2,ht,ne_eq,not_false_eq_true,gd]
  ·simp only[go_sem,c2,c3,ht,ne_eq,not_false_eq_true,gd,Og,ayX,ayZ]
end Go.Ab
