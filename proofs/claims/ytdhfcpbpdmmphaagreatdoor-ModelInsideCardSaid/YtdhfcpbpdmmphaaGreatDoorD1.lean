/-
  A law of models holds at every input that the statement speaks of, under the conditions that its card names. Part D1.
-/
import Derived.IntWalk
import Derived.Test.YtdhfcpbpdmmphaaGreatDoorC1
open Nat renaming add_mul → axk, add_zero → axo, div_add_mod → axS, le_refl → awQ, le_trans → awX, lt_of_le_of_lt → axF, lt_of_lt_of_le → axX, min_eq_left → axP, mod_eq_of_lt → axK, mod_lt → axq, mul_assoc → axn, mul_comm → axf, mul_le_mul → aFW, mul_le_mul_left → axW, mul_le_mul_right → awZ, pow_add → axa, pow_le_pow_right → axC, pow_succ → axO, reduceSub → axw, two_pow_pos → axb, zero_add → awP, zero_le → axz
open Int renaming eq_ofNat_of_zero_le → ax5, lt_irrefl → axU, natCast_zero → axB, reduceEq → axt, reduceLE → axA, reduceLT → axl, reduceToNat → axs, toNat_natCast → awY
open Bool renaming and_eq_true → awS, and_false → axx, false_and → awU, false_eq_true → axV, false_ne_true → awW, false_or → axY, not_false → axZ, true_and → awT, true_or → axQ
open List renaming all_cons → axu, append_assoc → axL, append_nil → axe, cons_append → axM, drop_eq_getElem_cons → axh, drop_eq_nil_of_le → axi, drop_zero → ax0, getElem_mem → axr, length_cons → axE, length_nil → axI, length_replicate → ax1, length_take → axd, map_congr_left → axy, map_id' → axN, mem_map → axR, nil_append → axc, replicate → awO, take_length → aEE, take_of_length_le → axg
open Option renaming bind_some → awV, map_some → axH
set_option linter.all false
namespace Go.Ab
open Go Go.IntWalk
set_option maxRecDepth 4000
set_option maxHeartbeats 1000000
def aB(m:List Nat):List (List AV):=m.map fun(x:Nat)=>[U x]
def lm(m:List Nat):AV:=.sl 1 (aB m)
theorem CD(m):(aB m).length=m.length:=by simp[aB]
@[go_sem] theorem DL(l:List (List AV)):l.map (dK [])=l:=(axy (g:=fun c=>c) fun c _=>Un c).trans (axN _)
@[go_sem] theorem arS(hs m):gk hs (lm m)=lm m:=θ _
@[go_sem] theorem aqc(hs m):knownL hs (lm m)=true:=θ _
@[go_sem] theorem an9(hs m):jq hs (lm m)=true:=θ _
@[go_sem] theorem av6(ks m):tq ks (lm m)=lm m:=θ _
@[go_sem] theorem auh(ks m):qV ks (lm m)=false:=θ _
@[go_sem] theorem aui(ks m):Fc ks (lm m)=false:=θ _
@[go_sem] theorem av7(m):pU false (lm m)=some (I m.length):=by simp[lm,pU,aB]
@[go_sem] theorem auj(m k i):wG 1 (lm m) (.v (.int k i))=aW (aB m) i:=by simp[lm,wG]
@[go_sem] theorem aiq(k ss m):nrmV (.o (k+1) []::ss) (lm m)=lm m:=by simp[lm,nrmV,nrmL,DL]
@[go_sem] theorem arT(k cs ss m):nrmV (.o (k+1) [.o 0 cs]::ss) (lm m)=lm m:=by
 simp_all[aB,dK,axy,axN,nrmL,lm,nrmV]
@[go_sem] theorem auk(k m):nrmL (.o (k+1) []) (lm m)=lm m:=by simp[lm,nrmL,DL]
@[go_sem] theorem aul(h m):rh h (lm m)=some (lm m):=θ _
@[go_sem] theorem arU(h m l):lV h (lm m::l)=(lV h l).bind fun q=>some (lm m::q):=θ _
@[go_sem] theorem aum(m):bX (lm m)=[]:=θ _
@[go_sem] theorem aun(m):fE (lm m)=[]:=θ _
@[go_sem] theorem av8(m):dat (lm m)=true:=θ _
@[go_sem] theorem auo(m):aD (lm m)=true:=θ _
@[go_sem] theorem arV(m):bq (lm m)=false:=θ _
@[go_sem] theorem arW(m):gX (lm m)=some [lm m]:=θ _
@[go_sem] theorem aup(h m):fK h (lm m)=some (lm m,h,[]):=θ _
@[go_sem] theorem arX(h m):dw h 0 (lm m)=some (lm m,h,[]):=θ _
@[go_sem] theorem arY(id p m):AS id p (lm m)=lm m:=θ _
@[go_sem] theorem arZ(h d m):kR h d (some (lm m,[]))=if cw h (2000+8*d) 1=true then some (lm m,h,[])else none:=afD h d 1 (aB m)
@[go_sem] theorem av9(m):AV.sl 1 (aB m)=lm m:=θ _
@[go_sem] theorem ar0(p)(a):kD (List.filter p [a])=true:=by
 simp only[List.filter];split<;>rfl
@[go_sem] theorem PQ(m):(aB m).length=m.length:=by simp[aB]
@[go_sem] theorem ak2:AV.sl 1 []=lm []:=θ _
@[go_sem] theorem aqd(cs ss):nrmV (.o 2 cs::ss) .emp=lm []:=by simp[nrmV,nrmL,lm,aB]
@[go_sem] theorem aqe(cs):nrmL (.o 2 cs) .emp=lm []:=by simp[nrmL,lm,aB]
@[go_sem] theorem auq(k ss m):nrmV (.o (k+1) []::ss) (.sl 1 (aB m))=lm m:=aiq k ss m
@[go_sem] theorem ar1(k ss m):nrmV (.o (k+1) []::ss) (.osl 1 (aB m))=lm m:=by simp[lm,nrmV,nrmL,DL]
theorem bt{m}{i:Int}{n:Nat}(hi:i=n)(h:n<m.length):aW (aB m) i=some (.ipt [U (m.getD n 0)]):=by
 grind[aW,aB]
theorem kj{m}{n}(h:n<m.length):(aB m)[n]?=some [U (m.getD n 0)]:=by
 grind[aB]
theorem U7(m)(n):(aB m).take n=aB (m.take n):=by simp[aB,List.map_take]
theorem afK(m)(n):(aB m).drop n=aB (m.drop n):=by simp[aB,List.map_drop]
theorem CE(m l):aB m++aB l=aB (m++l):=by simp[aB]
theorem nX(m)(n x):(aB m).set n [U (x:Nat)]=aB (m.set n x):=by simp[aB,List.map_set]
theorem AC(n):awO n [AV.v (.int .u32 0)]=aB (awO n 0):=by simp[aB]
theorem Jl{m}{lo hi}{a b}(hlo:jL 0 b lo=some a)(hhi:jL m.length m.length hi=some b)(_hb:b<=m.length):dZ 1 (lm m) lo hi none=some (lm ((m.drop a).take (b-a))):=by
 simp_all[lm,dZ,jT,CD,if_true,awV,axH,Ir,axV,if_false,U7,afK]
theorem Mz(d n):jL d n none=some d:=θ _
theorem uB{d n}{k}{i:Int}{a:Nat}(hi:i=a)(h:a<=n):jL d n (some (.v (.int k i)))=some a:=by
 grind[jL]
theorem PR{f}{fd}{args}{r}(hE:cJ.E f=none)(hC:cJ.C f=some fd)(hk:cJ.md.keep f=false)(h1:args.length=fd.np)
  (hz:gZ false fd.rs fd.res 0 (ai R (az false) fd.body (tW args) (fun _=>.dead))=some r):R f args []=some r:=by
 simp_all[NZ,axz,aaG]
theorem ax{f:FuncId}{l:List (List Sh)}{fd:FD}{args:List AV}{r:AV×List Ob}(q:QE f l fd)(h1:args.length=fd.np)
  (hz:gZ false fd.rs fd.res 0 (ai R (az false) fd.body (tW args) (fun _=>.dead))=some r):R f args []=some r:=PR q.2.1 q.2.2 (q.1.2.2.2 false) h1 hz
noncomputable def nY (k:Nat) (g:Bool):Cmd:=.seq (.ops [0,1,7,8,9] [co 9 (.bin .lss (.t 8) (.t 7))]) (.seq (.cond (.t 9) (.skip) (.exit 0)) (.seq (.block 1 [0,1,7,8] (.seq (.ops [0,1,5,7,8] [cm 10 8,cm 5 10]) (.seq (.ops [0,1,5,7,8,16] [cm 11 1,cm 12 0,cm 13 5,co 14 (.iadrS k (.t 12) (.t 13)),⟨(some 15),none,.load k g (.t 14)⟩,⟨(some 16),none,.call (.t 11) [(.t 15)]⟩]) (.cond (.t 16) (.seq (.ops [4] [cm 17 5,cm 4 17]) (.ret)) (.skip))))) (.ops [0,1,7,8] [co 18 (.bin .add (.t 8) (.c (.v (.int .i64 1)))),cm 8 18])))
noncomputable def kZ:Cmd:=.seq (.ops [4] [co 4 (.mv (.c (.v (.int .i64 (-1)))))]) (.ret)
def wA{α:Type}(p:α->Bool):List α->Nat->Int
 |[],_=>-1
 |r::rs,n=>if p r=true then n else wA p rs (n+1)
theorem Hi{α}(p):∀ (l:List α) n,decide (0<=wA p l n)=l.any p
 |[],n=>rfl
 |r::rs,n=>by
  simp only[wA,List.any_cons];by_cases h:p r=true
  ·simp[h]
  ·simp[h,Hi p rs (n+1)]
theorem afL{k}{g}{f}{rows}{p}{hs}(hhs:hs=[]\/hs=[1000])(hm:(az false).m f=[])(hl:rows.length<4611686018427387904)
  (hf:∀row∈rows,∃a,kt k g row 0=some a/\dat a=true/\R f (bo ((az false).sh f) [a]) []=some (B (p row),[])):∀rest (n:Nat),rows.drop n=rest->n<=rows.length->
  ∀s h,s 0=.sl k rows->s 1=.fn f [] []->s 7=I rows.length->s 8=I n->h 1000=.dead->
   ∃hh,cr (aj 0 [] (au (ai R (az false) (nY k g)) [0,1,7,8] hs s h)) (ai R (az false) kZ)=some (.ret,⟨upd (fun _=>.any) 4 (I (wA p rest n)),hh⟩):=by
 intro rest;induction rest with
 |nil=>
  intro n hd hn s h h0 h1 h7 h8 h9;have e:n=rows.length:=by
   have:=congrArg List.length hd;grind
  subst e;rw[ag];rcases hhs with rfl|rfl<;>exact⟨_,by simp only[nY,kZ,go_sem,h0,h1,h7,h8,h9,axU,wA];rfl⟩
 |cons r rest ih=>
  intro n hd hn s h h0 h1 h7 h8 h9;have hlt:n<rows.length:=by
   grind
  have hr:rows[n]?=some r:=by
   have:=congrArg (·[0]?) hd;grind
  obtain⟨a,ha,hda,hc⟩:=hf r (List.mem_of_getElem? hr);have ih':=ih (n+1) (by rw[←List.drop_drop,hd];rfl) hlt;have e1:(n< (rows.length:Int))=True:=eq_true (by omega);have e2:aW rows n=some (.ipt r):=by grind[aW]
  have e3:IntKind.i64.wrap (n+1)=(n+1:Nat):=by grind[i64_in]
  rw[ag];generalize au _ _ _=L at ih'⊢;rcases hhs with rfl|rfl
  all_goals
   simp only[nY,go_sem,h0,h1,h7,h8,h9,e1,e2,ha,xX _ hm,hda,hc,wA];cases hp:p r with
   |true=>exact⟨_,by simp only[go_sem];rfl⟩
   |false=>
    simp only[go_sem,e3,awW];exact ih' _ _ rfl rfl rfl rfl rfl
theorem U8{fi}{fd}{k}{g}{hs}(hE:cJ.E fi=none)(hC:cJ.C fi=some fd)(hk:cJ.md.keep fi=false)
  (hfd:fd=⟨2,[[]],[.t 4],.seq (.ops [0,1] [co 4 (.mv (.c (.v (.int .i64 0))))]) (.seq (.seq (.ops [0,1,7,8] [cm 6 0,co 7 (.len false (.t 6)),co 8 (.mv (.c (.v (.int .i64 0))))]) (.block 0 [] (.loop [0,1,7,8] hs (nY k g)))) kZ)⟩)
  {f} {rows} {p} (hm:(az false).m f=[]) (hl:rows.length<4611686018427387904)
  (hf:∀row∈rows,∃a,kt k g row 0=some a/\dat a=true/\R f (bo ((az false).sh f) [a]) []=some (B (p row),[])) (hhs:hs=[]\/hs=[1000]:=by simp):R fi [.sl k rows,.fn f [] []] []=some (I (wA p rows 0),[]):=by
 subst hfd;refine PR hE hC hk rfl ?_;have hL:=afL (k:=k) (g:=g) hhs hm hl hf rows 0 rfl (axz _);simp only[go_sem,aaF];have hL2:∀S H X,cr (aj 0 [] (au (ai R (az false) (nY k g)) [0,1,7,8] hs S H)) (ai R (az false) kZ)=X->S 0=.sl k rows->S 1=.fn f [] []->S 7=I rows.length->S 8=I 0->H 1000=.dead->
   ∃hh,X=some (.ret,⟨upd (fun _=>.any) 4 (I (wA p rows 0)),hh⟩):=fun S H X hX a b c d e=>by
  rw[←hX];exact hL S H a b c d e
 generalize hX:cr (aj 0 [] (au _ _ hs _ _)) (ai R (az false) kZ)=X;obtain⟨hh,e⟩:=hL2 _ _ _ hX rfl rfl rfl rfl rfl;rw[e];simp only[go_sem]
noncomputable def Jm (fi:FuncId):FD:=⟨2,[[]],[.t 4],.seq (.ops [0,1] [co 4 (.mv (.c (.v (.bool false))))]) (.seq (.ops [4] [cm 5 0,cm 6 1,⟨(some 7),none,.call (.c (.fn fi [] [])) [(.t 5),(.t 6)]⟩,co 8 (.bin .geq (.t 7) (.c (.v (.int .i64 0)))),cm 4 8]) (.ret))⟩
theorem PS{ci fi}{fd}{k}(hE:cJ.E ci=none)(hC:cJ.C ci=some fd)(hk:cJ.md.keep ci=false)(hfd:fd=Jm fi)(hm:(az false).m fi=[]){cs}(hsh:(az false).sh fi=[[.o (k+1) cs],[]])
  {rows} {f} {p} (hr:rows.map (dK cs)=rows) (h:R fi [.sl k rows,.fn f [] []] []=some (I (wA p rows 0),[])):R ci [.sl k rows,.fn f [] []] []=some (B (rows.any p),[]):=by
 subst hfd;refine PR hE hC hk rfl ?_;simp only[Jm,go_sem,xX _ hm,hsh,hr,h,afB,Hi]
theorem dE{i:Int}{n:Nat}(h:i=n)(hn:n<18446744073709551616):IntKind.u64.wrap i=n:=by rw[u64_in]<;>omega
theorem BB{i:Int}{n:Nat}(h:i=n)(hn:n<4294967296):IntKind.u32.wrap i=n:=by rw[u32_in]<;>omega
theorem wi{i:Int}{n:Nat}(h:i=n:=by omega)(hn:n<9223372036854775808:=by omega):IntKind.i64.wrap i=n:=by rw[i64_in]<;>omega
theorem Hj{i:Int}{n:Nat}(h:i=n):IntKind.u32.wrap i=(n%4294967296:Nat):=by grind[IntKind.wrap_u32]
theorem pR{i:Int}{n k:Nat}{kk}{j:Int}(h:i=n)(hj:j=k)(hk:k<=64):dP .shr (.v (.int .u64 i)) (.v (.int kk j))=some (.v (.int .u64 (n/2^k:Nat))):=by
 simp_all[FU,if_neg,IntKind.bits,Option.some.injEq,AV.v.injEq,Value.int.injEq,true_and,Int.fdiv_eq_ediv_of_nonneg,Int.pow_nonneg]
theorem MA{x y c:Nat}(hx:x<4294967296)(hy:y<4294967296)(hc:c<=1):R F.bits_Add32 [U x,U y,U c] []=some (.tup [U (((x+y+c) %4294967296:Nat)),U (((x+y+c)/4294967296:Nat))],[]):=by
 refine ax U3 rfl ?_;have e1:IntKind.u64.wrap x=x:=dE rfl (by omega);have e2:IntKind.u64.wrap y=y:=dE rfl (by omega);have e3:IntKind.u64.wrap c=c:=dE rfl (by omega);have e4:IntKind.u64.wrap (x+y)=(x+y:Nat):=dE (by omega) (by omega);have e5:IntKind.u64.wrap ((x+y:Nat)+c)=(x+y+c:Nat):=dE (by omega) (by omega);have e6:IntKind.u32.wrap (x+y+c:Nat)=((x+y+c) %4294967296:Nat):=Hj rfl;have e7:=pR (n:=x+y+c) (k:=32) (kk:=.u64) (j:=32) rfl rfl (by omega);have e8:IntKind.u32.wrap ((x+y+c)/2^32:Nat)=((x+y+c)/4294967296:Nat):=BB rfl (by omega);simp only[B7,Ja,go_sem,e1,e2,e3,e4,e5,e6,e7,e8]
theorem air{k}{n}(h:n≠0):Ir (some (.v (.int k n)))=false:=by
 simp_all[Ir,absurd]
theorem ais{m}(h:m.length≠0):dZ 1 (lm m) none (some (I m.length)) (some (I m.length))=some (lm m):=by
 have hz:Ir (some (I m.length))=false:=air (by omega);have h1:jL m.length m.length (some (I m.length))=some m.length:=uB rfl (awQ _)
 simp_all[dZ,lm,CD,jT,Mz,if_true,awV,axH,axV,if_false,ax0,Nat.sub_zero,U7,aEE]
theorem PT(m):R F.slices_Clip_uint32_uint32_ [lm m] []=some (lm m,[]):=by
 refine ax AB rfl ?_;by_cases h:m.length=0
 ·have:=List.length_eq_zero_iff.1 h;subst this;rfl
 ·simp only[jH,qy,go_sem,ais h]
theorem Rk(m)(h2:m.length<4611686018427387904):∀ (n:Nat),n<=m.length->∀s h,s 0=lm m->s 3=I n->
  aj 0 [0,3] (au (ai R (az false) lO) [0,3] [] s h)=some (.normal,⟨upd (upd (fun _=>.any) 3 (I (mf m n))) 0 (lm m),fun _=>.dead⟩):=by
 intro n;induction n with
 |zero=>
  intro h1 s h h3 h4;rw[ag];simp only[lO,go_sem,h3,h4,mf,axB,axU]
 |succ n ih=>
  intro h1 s h h3 h4;have hn:=h1;have e3:IntKind.i64.wrap (n+1-1)=n:=wi (by omega) (by omega);have e1:=bt rfl hn;have e2:(0< (n:Int)+1)=True:=eq_true (by omega);have ih':=ih (by omega);rw[ag];by_cases hz:m.getD n 0=0
  ·simp only[lO,go_sem,h3,h4,mf,Int.natCast_add,Int.natCast_one,e3,e1,e2,hz,axB];exact ih' _ _ rfl rfl
  ·simp only[lO,go_sem,h3,h4,mf,Int.natCast_add,Int.natCast_one,e3,e1,e2,hz,Int.natCast_eq_zero]
theorem dv{m}(hb:Lb m)(h:m.length<4611686018427387904):R F.natural_trim [lm m] []=some (lm (av (ab m)),[]):=by
 refine ax PI rfl ?_;have h1:dZ 1 (lm m) none (some (I (mf m m.length))) none=some (lm (av (ab m))):=by
  rw[Jl (a:=0) (b:=mf m m.length) rfl (uB rfl (DC _ _)) (DC _ _),ax0,Nat.sub_zero,Me hb]
 simp only[zj,F5,go_sem,Rk m h m.length (awQ _),h1]
def llm(l:List (List Nat)):AV:=.sl 1 (l.map fun m=>[lm m])
theorem ait(l:List (List Nat))(cs):(l.map fun m=>[lm m]).map (dK [.o 2 cs])=l.map fun m=>[nrmL (.o 2 cs) (lm m)]:=by
 simp[List.map_map,dK]
theorem acX(m):R F.natural_long_1 [lm m] []=some (B (decide (256<m.length)),[]):=by
 refine ax DI rfl ?_;have e:decide (256< (m.length:Int))=decide (256<m.length):=by grind
 simp only[wu,Dy,go_sem,e]
theorem Ya{l}(hl:l.length<4611686018427387904):R F.natural_long [llm l] []=some (B (l.any fun m=>decide (256<m.length)),[]):=by
 refine ax PG rfl ?_
 let p:List AV->Bool:=fun row=>match row with|[.sl _ rows]=>decide (256<rows.length)|_=>false
 have hp:∀m,p [lm m]=decide (256<m.length):=fun m=>by grind[lm,CD]
 have hn:(l.map fun m=>[lm m]).map (dK [.o 2 []])=l.map fun m=>[lm m]:=by
  rw[ait];simp only[go_sem]
 have h1:=U8 (k:=1) (g:=false) (f:=F.natural_long_1) (rows:=l.map fun m=>[lm m]) (p:=p) cZ.2.1 cZ.2.2 (cZ.1.2.2.2 false) rfl (DI.1.2.1 false) (by grind) (fun row hr=>by
  simp only[axR]at hr;obtain⟨m,hm,rfl⟩:=hr;refine⟨lm m,rfl,rfl,?_⟩;simp only[go_sem,acX,hp])
 have h2:=PS (k:=1) dC.2.1 dC.2.2 (dC.1.2.2.2 false) rfl (cZ.1.2.1 false) (cZ.1.1 false) hn h1;have h3:(l.map fun m=>[lm m]).any p=l.any fun m=>decide (256<m.length):=by
  rw[List.any_map];congr 1;funext m
  simp_all
 rw[h3]at h2;simp only[zi,F4,llm,go_sem,xX _ (dC.1.2.1 false),hn,h2]
theorem tt{p}(h:p:=by omega):p=True:=eq_true h
theorem ff{p}(h:¬p:=by omega):p=False:=eq_false h
theorem rI(a):R F.natural_long [.sl 1 [[lm a]]] []=some (B (decide (256<a.length)),[]):=by
 have:=Ya (l:=[a]) (by simp);grind[llm]
theorem uC(a b):R F.natural_long [.sl 1 [[lm a],[lm b]]] []=some (B (decide (256<a.length)||decide (256<b.length)),[]):=by
 have:=Ya (l:=[a,b]) (by simp);grind[llm]
def kw(n:Nat):AV:=if 256< (av n).length then .tup [lm [],I 9]else .tup [lm (av n),I 0]
theorem Gh{m}(hb:Lb m)(h:m.length<4611686018427387904):R F.natural_done [lm m] []=some (kw (ab m),[]):=by
 refine ax PH rfl ?_;by_cases hl:256< (av (ab m)).length
 ·simp only[tG,At,kw,go_sem,dv hb h,rI,hl]
 ·simp only[tG,At,kw,go_sem,dv hb h,rI,hl,PT]
theorem Ig{a:List Nat}{i}(h:i<a.length):ab (a.take (i+1))=ab (a.take i)+4294967296^i*a.getD i 0:=by
 grind[List.take_add_one,dV,axd,axP,ab]
theorem XE{a:List Nat}{i}(h:a.length<=i):ab (a.take (i+1))=ab (a.take i)+4294967296^i*a.getD i 0:=by
 grind[axg]
theorem eC(a:List Nat)(i):ab (a.take (i+1))=ab (a.take i)+4294967296^i*a.getD i 0:=by
 grind[Ig,XE]
def Yb(n i:Nat):Nat:=n/4294967296^i%4294967296
theorem afM{k n i}(h:i<k):(dy k n)[i]?=some (Yb n i):=by
 induction k generalizing n i with
 |zero=>omega
 |succ k ih=>
  cases i with
  |zero=>simp[dy,Yb]
  |succ i=>
   grind[dy,Yb,axO,axf,Nat.div_div_eq_div_mul]
theorem U9{k n}{l}(hl:l.length=k)(h:∀i,i<k->l.getD i 0=Yb n i):l=dy k n:=by
 refine List.ext_getElem? fun i=>?_;rcases Nat.lt_or_ge i k with hi|hi
 ·simp_all[afM,congrArg]
 grind[cR]
def dY(a b:List Nat):Nat->Nat
 |0=>0
 |i+1=>(a.getD i 0+b.getD i 0+dY a b i)/4294967296
def FH(a b:List Nat)(i:Nat):Nat:=(a.getD i 0+b.getD i 0+dY a b i) %4294967296
theorem DM{a b}(ha:Lb a)(hb:Lb b):∀i,dY a b i<=1
 |0=>by simp[dY]
 |i+1=>by
  have h1:=bN ha i;have h2:=bN hb i;have h3:=DM ha hb i;simp only[dY];omega
def aEr(a b:List Nat)(i:Nat):List Nat:=(List.range i).map (FH a b)
theorem DN(f)(i):ab ((List.range (i+1)).map f)=ab ((List.range i).map f)+4294967296^i*f i:=by
 rw[List.range_succ,List.map_append,dV];simp[ab]
theorem Hk(a b):∀i,ab (aEr a b i)+4294967296^i*dY a b i=ab (a.take i)+ab (b.take i)
 |0=>by simp[aEr,dY,ab]
 |i+1=>by
  have ih:=Hk a b i;rw[eC a i,eC b i];simp only[aEr]at ih⊢;rw[DN,axO];have e:dY a b (i+1)*4294967296+FH a b i=a.getD i 0+b.getD i 0+dY a b i:=by
   grind[dY,FH]
  grind
theorem iU(a b)(i):(aEr a b i).length=i:=by simp[aEr]
theorem PU(a b)(i):Lb (aEr a b i):=fun x hx=>by
 simp only[aEr,axR]at hx;obtain⟨j,_,rfl⟩:=hx;simp only[FH];omega
theorem afN{a b}(ha:Lb a)(hb:Lb b)(hl:b.length<=a.length):aEr a b a.length++[dY a b a.length]=dy (a.length+1) (ab a+ab b):=by
 have h:=Hk a b a.length;rw[aEE,axg hl]at h;have h1:Lb (aEr a b a.length++[dY a b a.length]):=oZ.2 ⟨PU _ _ _,iL.2 ⟨by grind[DM],Jd⟩⟩;have h2:ab (aEr a b a.length++[dY a b a.length])=ab a+ab b:=by
  grind[dV,iU,ab]
 have:=Hd h1;grind[iU]
theorem Va{α:Type}(l)(n)(x z:α)(h:0<n):(l++awO n z).set l.length x=(l++[x])++awO (n-1) z:=by
 obtain⟨n,rfl⟩:∃m,n=m+1:=⟨n-1,by omega⟩;grind
theorem afO{a b}(ha:Lb a)(hb:Lb b)(_hl:b.length<=a.length)(h2:a.length<4611686018427387904):∀k i,i+k=a.length->∀s h,s 0=lm a->s 1=lm b->s 5=.rsl 20 none 1 0 (a.length+1)->s 6=U (dY a b i)->
  s 21=lm a->s 22=I a.length->s 23=I i->h 20=.ar 1 (aB (aEr a b i++awO (k+1) 0))->
  aj 0 [0,5,6] (au (ai R (az false) kh) [0,1,5,6,21,22,23] [20] s h)=
   some (.normal,⟨upd (upd (upd (fun _=>.any) 6 (U (dY a b a.length))) 5 (.rsl 20 none 1 0 (a.length+1))) 0 (lm a),upd (fun _=>.dead) 20 (.ar 1 (aB (aEr a b a.length++[0])))⟩):=by
 intro k;induction k with
 |zero=>
  intro i hi s h h0 h1 h5 h6 h21 h22 h23 hh;have:i=a.length:=by omega
  subst this;rw[ag];simp only[kh,go_sem,h0,h1,h5,h6,h21,h22,h23,hh,axU,List.contains_cons,BEq.rfl,axQ]
 |succ k ih=>
  intro i hi s h h0 h1 h5 h6 h21 h22 h23 hh;have ih':=ih (i+1) (by omega);have e1:((i:Int)< (a.length:Int))=True:=tt (by omega);have e2:aW (aB a) (i:Int)=some (.ipt [U (a.getD i 0:Nat)]):=bt rfl (by omega);have e3:IntKind.i64.wrap ((i:Int)+1)=((i+1:Nat):Int):=wi (by omega) (by omega);have e4:(0<=(i:Int))=True:=tt (by omega);have e5:((i:Int)< ((a.length+1:Nat):Int))=True:=tt (by omega);have e6:=MA (bN ha i) (bN hb i) (DM ha hb i);have e7:(aB (aEr a b i++awO (k+1+1) 0))[i]?=some [U (0:Nat)]:=by
   grind[kj,iU]
  have e8:(aB (aEr a b i++awO (k+1+1) 0)).set i [U ((a.getD i 0+b.getD i 0+dY a b i) %4294967296:Nat)]=aB (aEr a b (i+1)++awO (k+1) 0):=by
   rw[nX];grind[dY,FH,aEr,List.range_succ]
  rw[ag];by_cases hb':i<b.length
  ·have e9:((i:Int)< (b.length:Int))=True:=tt (by omega);have e10:aW (aB b) (i:Int)=some (.ipt [U (b.getD i 0:Nat)]):=bt rfl hb';simp only[kh,go_sem,h0,h1,h5,h6,h21,h22,h23,hh,List.contains_cons,BEq.rfl,axQ,e1,e2,e3,e4,e5,e6,e7,e8,e9,e10,awY,awP];exact ih' _ _ rfl rfl rfl rfl rfl rfl rfl rfl
  ·have e9:((i:Int)< (b.length:Int))=False:=ff (by omega);have e10:b.getD i 0=0:=by grind
   have e6':=MA (bN ha i) (y:=0) (by omega) (DM ha hb i);simp only[axB]at e6';have e8':(aB (aEr a b i++awO (k+1+1) 0)).set i [U ((a.getD i 0+0+dY a b i) %4294967296:Nat)]=aB (aEr a b (i+1)++awO (k+1) 0):=by
    grind
   simp only[kh,go_sem,h0,h1,h5,h6,h21,h22,h23,hh,List.contains_cons,BEq.rfl,axQ,e1,e2,e3,e4,e5,e7,e8',e9,awY,awP,e6'];refine ih' _ _ rfl rfl rfl ?_ rfl rfl rfl rfl;simp only[dY,e10];rfl
theorem qM{i j:Int}{l c:Nat}(hi:i=l)(hj:j=c)(h:l<=c)(hc:c<9223372036854775808):qX (I i) (I j)=some (l,c):=by
 simp only[qX];grind
noncomputable def MB:Cmd:=.seq (.ops [0,1,5] [cm 17 0,co 18 (.len false (.t 17)),co 19 (.bin .add (.t 18) (.c (.v (.int .i64 1)))),⟨(some 20),none,.mkSl 1 [(.v (.int .u32 0))] 4 (.t 19) (.t 19)⟩,cm 5 20]) (.seq (.ops [0,1,5,6] [co 6 (.mv (.c (.v (.int .u32 0))))]) (.seq (.seq (.ops [0,1,5,6,21,22,23] [cm 21 0,co 22 (.len false (.t 21)),co 23 (.mv (.c (.v (.int .i64 0))))]) (.block 0 [0,5,6] (.loop [0,1,5,6,21,22,23] [20] kh))) (.seq (.ops [5] [cm 47 5,cm 48 0,co 49 (.len false (.t 48)),cm 50 6,co 51 (.iadrS 1 (.t 47) (.t 49)),⟨none,none,.store 1 (.t 51) (.t 50)⟩]) (.seq (.ops [4] [cm 52 5,cm 4 52]) (.ret)))))
theorem Vb{a b}(ha:Lb a)(hb:Lb b)(hl:b.length<=a.length)(h2:a.length<=100000):∀s,s 0=lm a->s 1=lm b->
  ai R (az false) MB s (fun _=>.dead)=some (.ret,⟨upd (fun _=>.any) 4 (.rsl 20 none 1 0 (a.length+1)),upd (upd (fun _=>.dead) 20 (.ar 1 (aB (aEr a b a.length++[0])))) 20 (.ar 1 (aB (dy (a.length+1) (ab a+ab b))))⟩):=by
 intro s h0 h1;have e1:IntKind.i64.wrap (a.length+1)=(a.length+1:Nat):=wi (by omega) (by omega);have e2:=qM (i:=(a.length+1:Nat)) (j:=(a.length+1:Nat)) (l:=a.length+1) (c:=a.length+1) rfl rfl (awQ _) (by omega);have e3:((a.length+1)*4<=140737488355328)=True:=tt (by omega);have e4:=afO ha hb hl (by omega) a.length 0 (by omega);have e5:aB (awO (a.length+1) 0)=aB (aEr a b 0++awO (a.length+1) 0):=rfl;have e6:(0<=(a.length:Int))=True:=tt (by omega);have e7:(a.length< ((a.length+1:Nat):Int))=True:=tt (by omega);have e8:(aB (aEr a b a.length++[0]))[a.length]?=some [U 0]:=by
  grind[kj,iU]
 have e9:(aB (aEr a b a.length++[0])).set a.length [U (dY a b a.length)]=aB (dy (a.length+1) (ab a+ab b)):=by
  rw[nX]
  simp_all[iU,awO,Nat.sub_self,List.replicate_zero,axe,afN]
 simp only[MB,go_sem,h0,h1,e1,e2,e3,AC,e5];rw[e4 _ _ rfl rfl rfl rfl rfl rfl rfl rfl];simp only[go_sem,e6,e7,e8,e9,awY,awP]
theorem Vc:Ic=.seq (.ops [0,1] [co 4 (.mv (.c .emp))]) (.seq (.seq (.ops [0,1,14] [cm 10 0,co 11 (.len false (.t 10)),cm 12 1,co 13 (.len false (.t 12)),co 14 (.bin .lss (.t 11) (.t 13))]) (.cond (.t 14) (.ops [0,1] [cm 15 1,cm 16 0,cm 0 15,cm 1 16]) (.skip))) MB):=rfl
theorem acY{a b}(ha:Lb a)(hb:Lb b)(h1:a.length<=100000)(h2:b.length<=100000):R F.natural_add [lm a,lm b] []=some (lm (dy (max a.length b.length+1) (ab a+ab b)),[]):=by
 refine ax S8 rfl ?_;by_cases h:a.length<b.length
 ·have e1:(a.length< (b.length:Int))=True:=tt (by omega);have e2:=Vb hb ha (by omega) h2;simp only[vE,Vc,go_sem,e1];rw[e2 _ rfl rfl];simp only[go_sem,cR,awP,awQ];grind
 ·have e1:(a.length< (b.length:Int))=False:=ff (by omega);have e2:=Vb ha hb (by omega) h1;simp only[vE,Vc,go_sem,e1];rw[e2 _ rfl rfl];simp only[go_sem,cR,awP,awQ];grind
theorem acZ{a b}(ha:Lb a)(hb:Lb b)(h1:a.length<=256)(h2:b.length<=256):R F.natural_Add [lm a,lm b] []=some (kw (ab a+ab b),[]):=by
 refine ax S4 rfl ?_;have e1:(256<a.length)=False:=ff (by omega);have e2:(256<b.length)=False:=ff (by omega);have e3:ab (dy (max a.length b.length+1) (ab a+ab b))=ab a+ab b:=by
  rw[lA,axK];have h1:=cG ha;have h2:=cG hb;have h3:4294967296^a.length<=4294967296^max a.length b.length:=axC (by omega) (by omega);have h4:4294967296^b.length<=4294967296^max a.length b.length:=axC (by omega) (by omega);omega
 have e4:=Gh (nV (max a.length b.length+1) (ab a+ab b)) (by grind[cR]);rw[e3]at e4;unfold kw at e4⊢;by_cases hl:256< (av (ab a+ab b)).length
 ·simp only[hl,if_true]at e4⊢;simp only[vB,B4,go_sem,e1,e2,uC,acY ha hb (by omega) (by omega),e4]
 ·simp only[hl,if_false]at e4⊢;simp only[vB,B4,go_sem,e1,e2,uC,acY ha hb (by omega) (by omega),e4]
def bY(x y:Nat):Int:=if x<y then-1 else if y<x then 1 else 0
theorem rJ{x y}(h:(av x).length< (av y).length):x<y:=by
 have h1:=gh x;have hy:y≠0:=by grind[fj]
 have h2:=Rh hy;have h3:4294967296^ (av x).length<=4294967296^ ((av y).length-1):=axC (by omega) (by omega);omega
noncomputable def sU:Cmd:=.seq (.ops [4] [co 4 (.mv (.c (.v (.int .i64 0))))]) (.ret)
theorem afP{a b}(ha:Lb a)(hb:Lb b)(hl:a.length=b.length)(h2:a.length<=100000):∀k,k<=a.length->∀s h,s 0=lm a->s 1=lm b->s 5=I (k-1)->
  cr (aj 0 [] (au (ai R (az false) it) [0,1,5] [] s h)) (ai R (az false) sU)=some (.ret,⟨upd (fun _=>.any) 4 (I (bY (ab (a.take k)) (ab (b.take k)))),fun _=>.dead⟩):=by
 intro k;induction k with
 |zero=>
  intro hk s h h0 h1 h5;rw[ag];have e1:(0<=((0:Nat):Int)-1)=False:=ff;have e2:bY (ab []) (ab [])=0:=rfl;simp only[it,sU,go_sem,h0,h1,h5,e1,e2]
 |succ k ih=>
  intro hk s h h0 h1 h5;have ih':=ih (by omega);have e1:(0<=((k+1:Nat):Int)-1)=True:=tt;have e2:aW (aB a) ((k+1:Nat)-1)=some (.ipt [U (a.getD k 0)]):=bt (by omega) (by omega);have e3:aW (aB b) ((k+1:Nat)-1)=some (.ipt [U (b.getD k 0)]):=bt (by omega) (by omega);have e4:IntKind.i64.wrap ((k+1:Nat)-1-1)=k-1:=by grind[i64_in]
  have va:=eC a k;have vb:=eC b k;have la:=cG (eY ha k);have lb:=cG (eY hb k);rw[axd,axP (by omega)]at la lb;rw[ag];rcases Nat.lt_trichotomy (a.getD k 0) (b.getD k 0)with hlt|heq|hgt
  ·have e5:((a.getD k 0)< (b.getD k 0:Int))=True:=tt;have e6:bY (ab (a.take (k+1))) (ab (b.take (k+1)))=-1:=by
    have:4294967296^k*(a.getD k 0+1)<=4294967296^k*b.getD k 0:=axW _ hlt;rw[Nat.mul_add]at this;simp only[bY];omega
   simp only[it,sU,go_sem,h0,h1,h5,e1,e2,e3,e5,e6]
  ·have e5:((a.getD k 0)< (b.getD k 0:Int))=False:=ff;have e7:((b.getD k 0)< (a.getD k 0:Int))=False:=ff;have e6:bY (ab (a.take (k+1))) (ab (b.take (k+1)))=bY (ab (a.take k)) (ab (b.take k)):=by
    grind[bY]
   simp only[it,go_sem,h0,h1,h5,e1,e2,e3,e5,e6,e7,e4];exact ih' _ _ rfl rfl rfl
  ·have e5:((a.getD k 0:Int)< (b.getD k 0:Int))=False:=ff;have e7:((b.getD k 0:Int)< (a.getD k 0:Int))=True:=tt;have e6:bY (ab (a.take (k+1))) (ab (b.take (k+1)))=1:=by
    have:4294967296^k*(b.getD k 0+1)<=4294967296^k*a.getD k 0:=axW _ hgt;rw[Nat.mul_add]at this;simp only[bY];omega
   simp only[it,sU,go_sem,h0,h1,h5,e1,e2,e3,e5,e6,e7]
theorem MC:H8=.seq (.ops [0,1] [co 4 (.mv (.c (.v (.int .i64 0))))]) (.seq (.ops [0,1] [cm 6 0,⟨(some 7),none,.call (.c (.fn F.natural_trim [] [])) [(.t 6)]⟩,cm 8 1,⟨(some 9),none,.call (.c (.fn F.natural_trim [] [])) [(.t 8)]⟩,cm 0 7,cm 1 9]) (.seq (.seq (.ops [0,1,14] [cm 10 0,co 11 (.len false (.t 10)),cm 12 1,co 13 (.len false (.t 12)),co 14 (.bin .neq (.t 11) (.t 13))]) (.cond (.t 14) (.seq (.seq (.ops [19] [cm 15 0,co 16 (.len false (.t 15)),cm 17 1,co 18 (.len false (.t 17)),co 19 (.bin .lss (.t 16) (.t 18))]) (.cond (.t 19) (.seq (.ops [4] [co 4 (.mv (.c (.v (.int .i64 (-1)))))]) (.ret)) (.skip))) (.seq (.ops [4] [co 4 (.mv (.c (.v (.int .i64 1))))]) (.ret))) (.skip))) (.seq (.seq (.ops [0,1,5] [cm 20 0,co 21 (.len false (.t 20)),co 22 (.bin .sub (.t 21) (.c (.v (.int .i64 1)))),cm 5 22]) (.block 0 [] (.loop [0,1,5] [] it))) sU))):=rfl
theorem dp(m)(h:Lb m):(av (ab m)).length<=m.length:=jF (cG h)
theorem zE{a b}(ha:Lb a)(hb:Lb b)(h1:a.length<=100000)(h2:b.length<=100000):R F.natural_Cmp [lm a,lm b] []=some (I (bY (ab a) (ab b)),[]):=by
 refine ax SZ rfl ?_;have la:=dp a ha;rcases Nat.lt_trichotomy (av (ab a)).length (av (ab b)).length with hlt|heq|hgt
 ·have e1:(av (ab a)).length=((av (ab b)).length:Int)↔False:=⟨fun h=>by omega,False.elim⟩;have e2:((av (ab a)).length< ((av (ab b)).length:Int))=True:=tt;have e3:bY (ab a) (ab b)=-1:=by grind[bY,rJ]
  simp only[qt,MC,go_sem,dv ha (by omega),dv hb (by omega),e1,e2,e3]
 ·have e2:IntKind.i64.wrap ((av (ab b)).length-1)=(av (ab b)).length-1:=by grind[i64_in]
  have e3:=afP (aZ (ab a)) (aZ (ab b)) heq (by omega) (av (ab a)).length (awQ _);rw[aEE,heq,aEE,aN,aN]at e3;simp only[qt,MC,go_sem,dv ha (by omega),dv hb (by omega),heq,e2];rw[e3 _ _ rfl rfl rfl];simp only[go_sem]
 ·have e1:(av (ab a)).length=((av (ab b)).length:Int)↔False:=⟨fun h=>by omega,False.elim⟩;have e2:((av (ab a)).length< ((av (ab b)).length:Int))=False:=ff;have e3:bY (ab a) (ab b)=1:=by
   have:=rJ hgt;simp only[bY];omega
  simp only[qt,MC,go_sem,dv ha (by omega),dv hb (by omega),e1,e2,e3]
theorem aiu(v:BitVec 32):v.toNat/2147483648=if v.msb=true then 1 else 0:=by
 have h:=v.isLt;grind
theorem abd{x y c}(hx:x<4294967296)(hy:y<4294967296)(hc:c<=1)(D)(hD:D.toNat=(x+4294967296-y-c) %4294967296):
  ((~~~(BitVec.ofNat 32 x)&&&BitVec.ofNat 32 y)||| (~~~(BitVec.ofNat 32 x^^^BitVec.ofNat 32 y)&&&D)).toNat/2147483648=if x<y+c then 1 else 0:=by
 grind[aiu,BitVec.ofNat,BitVec.msb_eq_decide,BitVec.msb_or,BitVec.msb_and,BitVec.msb_not,BitVec.msb_xor]
theorem ofI(n:Nat):BitVec.ofInt 32 n=BitVec.ofNat 32 n:=by simp
theorem ar2(v:BitVec 32):IntKind.u32.wrap v.toNat=v.toNat:=by
 have:=v.isLt;grind[IntKind.wrap_u32]
theorem Vd{x y c:Nat}(hx:x<4294967296)(hy:y<4294967296)(hc:c<=1):R F.bits_Sub32 [U x,U y,U c] []=some (.tup [U (((x+4294967296-y-c) %4294967296:Nat)),U ((if x<y+c then 1 else 0:Nat))],[]):=by
 refine ax U4 rfl ?_;have e1:IntKind.u32.wrap (x-y)=((x+4294967296-y) %4294967296:Nat):=by grind[IntKind.wrap_u32]
 have e2:IntKind.u32.wrap (((x+4294967296-y) %4294967296:Nat)-c)=((x+4294967296-y-c) %4294967296:Nat):=by grind[IntKind.wrap_u32]
 have b:IntKind.u32.bits=32:=rfl;have e3:BitVec.ofInt 32 (if IntKind.u32.signed=true then(-1)else IntKind.u32.max)=BitVec.allOnes 32:=by decide
 have e4:∀v,BitVec.allOnes 32^^^v= ~~~v:=fun v=>BitVec.not_def.symm;have e5:∀v,BitVec.ofNat 32 v.toNat=v:=fun v=>by simp
 have key:=abd hx hy hc (BitVec.ofNat 32 ((x+4294967296-y-c) %4294967296)) (by simp);have sh:∀v:BitVec 32,dP .shr (.v (.int .u32 (v.toNat:Int))) (.v (.int .u64 31))=some (.v (.int .u32 ((v.toNat/2147483648:Nat):Int))):=fun v=>by
  simp_all[FU,if_neg,Option.some.injEq,AV.v.injEq,Value.int.injEq,true_and,Int.fdiv_eq_ediv_of_nonneg]
 simp only[B8,Jb,go_sem,e1,e2,ofI,e3,e5,ar2,sh];grind
def nI(a b:List Nat):Nat->Nat
 |0=>0
 |i+1=>if a.getD i 0<b.getD i 0+nI a b i then 1 else 0
def Hl(a b:List Nat)(i:Nat):Nat:=(a.getD i 0+4294967296-b.getD i 0-nI a b i) %4294967296
def jI(a b:List Nat)(i:Nat):List Nat:=(List.range i).map (Hl a b)
theorem Gi(a b)(i):nI a b i<=1:=by
 cases i with
 |zero=>simp[nI]
 |succ i=>grind[nI]
theorem Ve{a b}(ha:Lb a)(hb:Lb b):∀i,ab (jI a b i)+ab (b.take i)=ab (a.take i)+4294967296^i*nI a b i
 |0=>by simp[jI,nI,ab]
 |i+1=>by
  have ih:=Ve ha hb i;rw[eC a i,eC b i];simp only[jI]at ih⊢;rw[DN,axO];have h1:=bN ha i;have h2:=bN hb i;have h3:=Gi a b i;have e:Hl a b i+b.getD i 0+nI a b i=a.getD i 0+4294967296*nI a b (i+1):=by
   grind[Hl,nI]
  grind
theorem wR(a b)(i):(jI a b i).length=i:=by simp[jI]
theorem PV(a b)(i):Lb (jI a b i):=fun x hx=>by
 simp only[jI,axR]at hx;obtain⟨j,_,rfl⟩:=hx;simp only[Hl];omega
theorem Vf{a b}(ha:Lb a)(hb:Lb b)(hl:b.length<=a.length)(hv:ab b<=ab a):jI a b a.length=dy a.length (ab a-ab b):=by
 have h:=Ve ha hb a.length;rw[aEE,axg hl]at h;have h1:=cG (PV a b a.length);rw[wR]at h1;have hz:nI a b a.length=0:=by
  grind[Gi,Nat.eq_zero_or_pos,nI]
 rw[hz]at h;have h2:=Hd (PV a b a.length);rw[wR,show ab (jI a b a.length)=ab a-ab b from by omega]at h2;exact h2.symm
theorem afQ{a b}(ha:Lb a)(hb:Lb b)(h2:a.length<=100000):∀k i,i+k=a.length->∀s h,s 1=lm b->s 5=.rsl 16 none 1 0 a.length->s 6=U (nI a b i)->
  s 17=lm a->s 18=I a.length->s 19=I i->h 16=.ar 1 (aB (jI a b i++awO k 0))->
  aj 0 [5] (au (ai R (az false) m8) [1,5,6,17,18,19] [16] s h)=
   some (.normal,⟨upd (fun _=>.any) 5 (.rsl 16 none 1 0 a.length),upd (fun _=>.dead) 16 (.ar 1 (aB (jI a b a.length)))⟩):=by
 intro k;induction k with
 |zero=>
  intro i hi s h h1 h5 h6 h17 h18 h19 hh;have:i=a.length:=by omega
  subst this;rw[ag];simp only[m8,go_sem,h1,h5,h6,h17,h18,h19,hh,axU]
 |succ k ih=>
  intro i hi s h h1 h5 h6 h17 h18 h19 hh;have ih':=ih (i+1) (by omega);have e1:((i:Int)< (a.length:Int))=True:=tt;have e2:aW (aB a) (i:Int)=some (.ipt [U (a.getD i 0:Nat)]):=bt rfl (by omega);have e3:IntKind.i64.wrap ((i:Int)+1)=((i+1:Nat):Int):=wi;have e4:(0<=(i:Int))=True:=tt;have e7:(aB (jI a b i++awO (k+1) 0))[i]?=some [U (0:Nat)]:=by
   grind[kj,wR]
  have e8:(aB (jI a b i++awO (k+1) 0)).set i [U ((a.getD i 0+4294967296-b.getD i 0-nI a b i) %4294967296:Nat)]=aB (jI a b (i+1)++awO k 0):=by
   rw[nX];grind[nI,Hl,jI,List.range_succ]
  rw[ag];by_cases hb':i<b.length
  ·have e6:=Vd (bN ha i) (bN hb i) (Gi a b i);have e9:((i:Int)< (b.length:Int))=True:=tt;have e10:aW (aB b) (i:Int)=some (.ipt [U (b.getD i 0:Nat)]):=bt rfl hb';simp only[m8,go_sem,h1,h5,h6,h17,h18,h19,hh,e1,e2,e3,e4,e6,e7,e8,e9,e10,awY,awP];exact ih' _ _ rfl rfl rfl rfl rfl rfl rfl
  ·have e9:((i:Int)< (b.length:Int))=False:=ff;have e10:b.getD i 0=0:=by grind
   have e6':=Vd (bN ha i) (y:=0) (by omega) (Gi a b i);simp only[axB]at e6';have e8':(aB (jI a b i++awO (k+1) 0)).set i [U ((a.getD i 0+4294967296-0-nI a b i) %4294967296:Nat)]=aB (jI a b (i+1)++awO k 0):=by
    grind
   simp only[m8,go_sem,h1,h5,h6,h17,h18,h19,hh,e1,e2,e3,e4,e6',e7,e8',e9,awY,awP];refine ih' _ _ rfl rfl ?_ rfl rfl rfl rfl;simp only[nI,e10,awP];rfl
theorem ac0{a b}(ha:Lb a)(hb:Lb b)(h1:a.length<=100000)(h2:b.length<=100000)(hv:ab b<=ab a):R F.natural_sub [lm a,lm b] []=some (lm (dy (av (ab a)).length (ab a-ab b)),[]):=by
 refine ax S9 rfl ?_;have la:=dp a ha;have lb:(av (ab b)).length<=(av (ab a)).length:=by
  rcases Nat.lt_or_ge (av (ab a)).length (av (ab b)).length with h|h
  ·have:=rJ h;omega
  omega
 have e2:=qM (i:=(av (ab a)).length) (j:=(av (ab a)).length) rfl rfl (awQ _) (by omega);have e3:((av (ab a)).length*4<=140737488355328)=True:=tt;have e4:=afQ (aZ (ab a)) (aZ (ab b)) (by omega) (av (ab a)).length 0 (by omega);have e5:aB (awO (av (ab a)).length 0)=aB (jI (av (ab a)) (av (ab b)) 0++awO (av (ab a)).length 0):=rfl;have e6:=Vf (aZ (ab a)) (aZ (ab b)) lb (by grind[aN]);rw[aN,aN]at e6;simp only[Ay,Ie,go_sem,dv ha (by omega),dv hb (by omega),e2,e3,AC,e5];rw[e4 _ _ rfl rfl rfl rfl rfl rfl rfl];simp only[go_sem,e6,cR,awP,awQ]
theorem ac1{a b}(ha:Lb a)(hb:Lb b)(h1:a.length<=256)(h2:b.length<=256):R F.natural_Sub [lm a,lm b] []=some (if ab a<ab b then .tup [lm [],I 2]else kw (ab a-ab b),[]):=by
 refine ax S5 rfl ?_;have e1:(256<a.length)=False:=ff;have e2:(256<b.length)=False:=ff;by_cases hv:ab a<ab b
 ·have e3:bY (ab a) (ab b)=-1:=by grind[bY]
  simp only[qC,xk,go_sem,axl,e1,e2,uC,zE ha hb (by omega) (by omega),e3,hv]
 ·have e3:(bY (ab a) (ab b)<0)=False:=ff (by grind[bY]);have e5:ab (dy (av (ab a)).length (ab a-ab b))=ab a-ab b:=by
   rw[lA,axK];grind[gh,ab]
  have e4:=Gh (nV (av (ab a)).length (ab a-ab b)) (by grind[cR,dp]);rw[e5]at e4;unfold kw at e4⊢;by_cases hl:256< (av (ab a-ab b)).length
  ·simp only[hl,if_true]at e4⊢;simp only[qC,xk,go_sem,e1,e2,uC,zE ha hb (by omega) (by omega),e3,hv,ac0 ha hb (by omega) (by omega) (by omega),e4]
  ·simp only[hl,if_false]at e4⊢;simp only[qC,xk,go_sem,e1,e2,uC,zE ha hb (by omega) (by omega),e3,hv,ac0 ha hb (by omega) (by omega) (by omega),e4]
def mi(x:Nat):Nat->List Nat->List Nat->List Nat×Nat
 |c,y::bs,o::s=>(((x*y+o+c) %4294967296)::(mi x ((x*y+o+c)/4294967296) bs s).1,(mi x ((x*y+o+c)/4294967296) bs s).2)
 |c,_,s=>(s,c)
theorem ac2(x):∀bs s r c,bs.length<=s.length->mi x c bs (s++r)=((mi x c bs s).1++r,(mi x c bs s).2)
 |[],s,r,c,_=>by simp[mi]
 |y::bs,[],r,c,h=>by grind
 |y::bs,o::s,r,c,h=>by
  have ih:=ac2 x bs s r ((x*y+o+c)/4294967296) (by simpa using h);simp only[axM,mi,ih]
theorem Jn(x):∀bs s c,(mi x c bs s).1.length=s.length
 |[],s,c=>by simp[mi]
 |y::bs,[],c=>by simp[mi]
 |y::bs,o::s,c=>by simp[mi,Jn x bs s]
theorem ahJ(x):∀bs s c,Lb s->Lb (mi x c bs s).1
 |[],s,c,h=>by grind[mi]
 |y::bs,[],c,h=>by grind[mi]
 |y::bs,o::s,c,h=>by
  exact iL.2 ⟨by omega,ahJ x bs s _ (iL.1 h).2⟩
theorem ac3{x y o c}(hx:x<4294967296)(hy:y<4294967296)(ho:o<4294967296)(hc:c<4294967296):x*y+o+c<18446744073709551616:=by
 have:x*y<=4294967295*4294967295:=aFW (by omega) (by omega);omega
theorem MD{x}(hx:x<4294967296):∀bs s c,Lb bs->Lb s->c<4294967296->(mi x c bs s).2<4294967296
 |[],s,c,_,_,hc=>by grind[mi]
 |y::bs,[],c,_,_,hc=>by grind[mi]
 |y::bs,o::s,c,hb,hs,hc=>by
  have:=ac3 hx (iL.1 hb).1 (iL.1 hs).1 hc;exact MD hx bs s _ (iL.1 hb).2 (iL.1 hs).2 (by omega)
theorem ac4(x):∀bs s c,bs.length=s.length->ab (mi x c bs s).1+4294967296^s.length*(mi x c bs s).2=ab s+x*ab bs+c
 |[],[],c,_=>by simp[mi,ab]
 |[],o::s,c,h=>by grind
 |y::bs,[],c,h=>by grind
 |y::bs,o::s,c,h=>by
  have ih:=ac4 x bs s ((x*y+o+c)/4294967296) (by grind);simp only[mi,ab,axE,axO];grind
theorem abe{a b}(hb:Lb b){x i n:Nat}(hx:x<4294967296)(h2:b.length<=100000)(hi:i<=100000):∀bs k D S (c:Nat),b.drop k=bs->k<=b.length->D.length=i+k->bs.length<=S.length->(D++S).length=n->Lb S->c<4294967296->
  ∀s h,s 18=lm a->s 19=I a.length->s 20=I i->s 1=lm b->s 5=.rsl 17 none 1 0 n->s 6=I i->s 7=U x->s 8=W c->s 25=lm b->s 26=I b.length->s 27=I k->h 17=.ar 1 (aB (D++S))->
  aj 2 [1,5,6,8,18,19,20] (au (ai R (az false) mX) [1,5,6,7,8,18,19,20,25,26,27] [17] s h)=
   some (.normal,⟨upd (upd (upd (upd (upd (upd (upd (fun _=>.any) 20 (I i)) 19 (I a.length)) 18 (lm a)) 8 (W (mi x c bs S).2)) 6 (I i)) 5 (.rsl 17 none 1 0 n)) 1 (lm b),upd (fun _=>.dead) 17 (.ar 1 (aB (D++(mi x c bs S).1)))⟩):=by
 intro bs;induction bs with
 |nil=>
  intro k D S c hd hk hD hS hn hLS hc s h h18 h19 h20 h1 h5 h6 h7 h8 h25 h26 h27 hh;have:k=b.length:=by
   grind
  subst this;rw[ag];simp only[mX,go_sem,h18,h19,h20,h1,h5,h6,h7,h8,h25,h26,h27,hh,axU,mi]
 |cons y bs ih=>
  intro k D S c hd hk hD hS hn hLS hc s h h18 h19 h20 h1 h5 h6 h7 h8 h25 h26 h27 hh;obtain⟨o,S,rfl⟩:∃o S',S=o::S':=by
   cases S with
   |nil=>grind
   |cons o S=>grind
  have hlt:k<b.length:=by
   grind
  have hy:b.getD k 0=y:=by
   have:=congrArg (·[0]?) hd;grind
  have hyb:y<4294967296:=by grind[bN]
  have hob:=(iL.1 hLS).1;have hml:=ac3 hx hyb hob hc;have hxy:x*y<18446744073709551616:=by omega
  have ih':=ih (k+1) (D++[(x*y+o+c) %4294967296]) S ((x*y+o+c)/4294967296) (by rw[←List.drop_drop,hd];rfl) hlt (by grind) (by grind) (by grind) (iL.1 hLS).2 (by omega);have e1:((k:Int)< (b.length:Int))=True:=tt;have e2:aW (aB b) (k:Int)=some (.ipt [U (y:Nat)]):=by grind[bt]
  have e3:IntKind.i64.wrap ((k:Int)+1)=((k+1:Nat):Int):=wi;have e4:IntKind.i64.wrap ((i:Int)+(k:Int))=((i+k:Nat):Int):=wi;have e5:(0<=((i+k:Nat):Int))=True:=tt;have hin:i+k<n:=by grind
  have e6:(((i+k:Nat):Int)< (n:Int))=True:=tt;have e7:(aB (D++o::S))[i+k]?=some [U (o:Nat)]:=by
   grind[kj]
  have f1:IntKind.u64.wrap (x:Int)=x:=dE rfl (by omega);have f2:IntKind.u64.wrap (y:Int)=y:=dE rfl (by omega);have f3:IntKind.u64.wrap ((x:Int)*(y:Int))=((x*y:Nat):Int):=dE (by simp) hxy;have f4:IntKind.u64.wrap (o:Int)=o:=dE rfl (by omega);have f5:IntKind.u64.wrap (((x*y:Nat):Int)+(o:Int))=((x*y+o:Nat):Int):=dE (by omega) (by omega);have f6:IntKind.u64.wrap (((x*y+o:Nat):Int)+(c:Int))=((x*y+o+c:Nat):Int):=dE (by omega) (by omega);have f7:IntKind.u32.wrap ((x*y+o+c:Nat):Int)=(((x*y+o+c) %4294967296:Nat):Int):=Hj rfl;have f8:=pR (n:=x*y+o+c) (k:=32) (kk:=.u64) (j:=32) rfl rfl (by omega);have f9:(aB (D++o::S)).set (i+k) [U ((x*y+o+c) %4294967296:Nat)]=aB (D++[(x*y+o+c) %4294967296]++S):=by
   rw[nX,←hD,List.set_append_right _ _ (awQ _)];simp
  rw[ag];generalize au _ _ _=L at ih'⊢;simp only[mX,go_sem,h18,h19,h20,h1,h5,h6,h7,h8,h25,h26,h27,hh,e1,e2,e3,e4,e5,e6,e7,f1,f2,f3,f4,f5,f6,f7,f8,f9,awY,awP,mi];rw[ih' _ _ rfl rfl rfl rfl rfl rfl rfl rfl rfl rfl rfl rfl];grind
def dW(a b:List Nat)(i:Nat):List Nat:=dy (i+b.length) (ab (a.take i)*ab b)
theorem ac5{a b}(ha:Lb a)(hb:Lb b){i}(hi:i<a.length):
  (dW a b i).take i++((mi (a.getD i 0) 0 b ((dW a b i).drop i)).1++[(mi (a.getD i 0) 0 b ((dW a b i).drop i)).2])=dW a b (i+1):=by
 have hx:=bN ha i;have hP:(dW a b i).length=i+b.length:=cR _ _;have hLP:Lb (dW a b i):=nV _ _;have hS:((dW a b i).drop i).length=b.length:=by grind
 have h1:=ac4 (a.getD i 0) b ((dW a b i).drop i) 0 hS.symm;have h2:=MD hx b ((dW a b i).drop i) 0 hb (mG hLP i) (by omega);have h3:=ahJ (a.getD i 0) b ((dW a b i).drop i) 0 (mG hLP i);have h4:=Jn (a.getD i 0) b ((dW a b i).drop i) 0;have hvP:ab (dW a b i)=ab (a.take i)*ab b:=by
  unfold dW;rw[lA,axK];have e1:=cG (eY ha i);have e2:=cG hb;rw[axd,axP (by omega)]at e1
  simp_all[axa,Nat.mul_lt_mul'']
 have hsplit:ab (dW a b i)=ab ((dW a b i).take i)+4294967296^i*ab ((dW a b i).drop i):=by
  grind[List.take_append_drop,dW,dV,axd,axP]
 have hLb:=
  oZ.2 ⟨eY hLP i,oZ.2 ⟨h3,iL.2 ⟨h2,Jd⟩⟩⟩
 have hval:ab ((dW a b i).take i++((mi (a.getD i 0) 0 b ((dW a b i).drop i)).1++[(mi (a.getD i 0) 0 b ((dW a b i).drop i)).2]))=ab (a.take (i+1))*ab b:=by
  rw[dV,dV,axd,hP,axP (by omega),h4,eC a i,axk,←hvP,hsplit];simp only[ab,Nat.mul_zero,axo]at h1⊢;grind
 have hlen:((dW a b i).take i++((mi (a.getD i 0) 0 b ((dW a b i).drop i)).1++[(mi (a.getD i 0) 0 b ((dW a b i).drop i)).2])).length=i+1+b.length:=by
  grind
 have:=Hd hLb;rw[hlen,hval]at this;exact this.symm
theorem afR{a b}(ha:Lb a)(hb:Lb b)(h1:a.length<=100000)(h2:b.length<=100000):∀k i,i+k=a.length->∀s h,s 1=lm b->s 5=.rsl 17 none 1 0 (a.length+b.length)->
  s 18=lm a->s 19=I a.length->s 20=I i->h 17=.ar 1 (aB (dW a b i++awO k 0))->
  aj 0 [5] (au (ai R (az false) rC) [1,5,18,19,20] [17] s h)=
   some (.normal,⟨upd (fun _=>.any) 5 (.rsl 17 none 1 0 (a.length+b.length)),upd (fun _=>.dead) 17 (.ar 1 (aB (dW a b a.length)))⟩):=by
 intro k;induction k with
 |zero=>
  intro i hi s h h1 h5 h18 h19 h20 hh;have:i=a.length:=by omega
  subst this;rw[ag];simp only[rC,go_sem,h1,h5,h18,h19,h20,hh,axU]
 |succ k ih=>
  intro i hi s h g1 h5 h18 h19 h20 hh;have ih':=ih (i+1) (by omega);have hx:=bN ha i;have hP:(dW a b i).length=i+b.length:=cR _ _;have hLP:Lb (dW a b i):=nV _ _;have hsp:dW a b i++awO (k+1) 0=(dW a b i).take i++((dW a b i).drop i++awO (k+1) 0):=by rw[←axL,List.take_append_drop]
  have e1:((i:Int)< (a.length:Int))=True:=tt;have e2:aW (aB a) (i:Int)=some (.ipt [U (a.getD i 0:Nat)]):=bt rfl (by omega);have e3:IntKind.i64.wrap ((i:Int)+1)=((i+1:Nat):Int):=wi;have e4:IntKind.i64.wrap ((i:Int)+(b.length:Int))=((i+b.length:Nat):Int):=wi;have e5:(0<=((i+b.length:Nat):Int))=True:=tt;have e6:(((i+b.length:Nat):Int)< ((a.length+b.length:Nat):Int))=True:=tt;have lp:=abe (a:=a) hb (x:=a.getD i 0) (i:=i) (n:=a.length+b.length) hx h2 (by omega) b 0 ((dW a b i).take i) ((dW a b i).drop i++awO (k+1) 0) 0 rfl (axz _) (by grind) (by grind) (by grind)
   (oZ.2 ⟨mG hLP i,fun y hy=>by grind⟩) (by omega)
  rw[ac2 _ _ _ _ _ (by grind)]at lp;have ml:(mi (a.getD i 0) 0 b ((dW a b i).drop i)).1.length=b.length:=by grind[Jn]
  have mc:=MD hx b ((dW a b i).drop i) 0 hb (mG hLP i) (by omega);have ps:=ac5 ha hb (show i<a.length from by omega);rw[hsp]at hh;generalize mi (a.getD i 0) 0 b ((dW a b i).drop i)=r at*
  have f1:=BB rfl mc;have e7:(aB ((dW a b i).take i++(r.1++awO (k+1) 0)))[i+b.length]?=some [U (0:Nat)]:=by
   grind[axL,kj]
  have e8:(aB ((dW a b i).take i++(r.1++awO (k+1) 0))).set (i+b.length) [U (r.2:Nat)]=aB (dW a b (i+1)++awO k 0):=by
   grind[axL,nX,Va,dW]
  rw[ag];generalize au _ _ _=L at ih'⊢;simp only[rC,go_sem,g1,h5,h18,h19,h20,hh,e1,e2];rw[lp _ _ rfl rfl rfl rfl rfl rfl rfl rfl rfl rfl rfl rfl];simp only[go_sem,e3,e4,e5,e6,e7,e8,f1,awY,awP];exact ih' _ _ rfl rfl rfl rfl rfl rfl
theorem ak3{a b}(ha:Lb a)(hb:Lb b)(h1:a.length<=100000)(h2:b.length<=100000):R F.natural_mul [lm a,lm b] []=some (lm (dy (a.length+b.length) (ab a*ab b)),[]):=by
 refine ax S0 rfl ?_;have e1:IntKind.i64.wrap (a.length+b.length)=(a.length+b.length:Nat):=wi;have e2:=qM (i:=(a.length+b.length:Nat)) (j:=(a.length+b.length:Nat)) rfl rfl (awQ _) (by omega);have e3:((a.length+b.length)*4<=140737488355328)=True:=tt;have e4:=afR ha hb h1 h2 a.length 0 (by omega);have e0:dW a b 0=awO b.length 0:=by
  have:∀n,dy n 0=awO n 0:=fun n=>by
   induction n with
   |zero=>rfl
   |succ n ih=>simp[dy,ih,List.replicate_succ]
  grind[dW,ab]
 have e5:aB (awO (a.length+b.length) 0)=aB (dW a b 0++awO a.length 0):=by
  rw[e0,List.replicate_append_replicate,Nat.add_comm]
 have e6:dW a b a.length=dy (a.length+b.length) (ab a*ab b):=by rw[dW,aEE]
 simp only[Av,H9,go_sem,e1,e2,e3,AC,e5];rw[e4 _ _ rfl rfl rfl rfl rfl rfl];simp only[go_sem,e6,cR,awP,awQ]
theorem ac6{a b}(ha:Lb a)(hb:Lb b)(h1:a.length<=256)(h2:b.length<=256):R F.natural_Mul [lm a,lm b] []=some (kw (ab a*ab b),[]):=by
 refine ax SU rfl ?_;have e1:(256<a.length)=False:=ff;have e2:(256<b.length)=False:=ff;have la:=dp a ha;have lb:=dp b hb;have e3:=ak3 (aZ (ab a)) (aZ (ab b)) (by omega) (by omega);rw[aN,aN]at e3;have e4:=Gh (nV ((av (ab a)).length+(av (ab b)).length) (ab a*ab b)) (by grind[cR]);rw[lA,axK (by simp_all[axa,Nat.mul_lt_mul'',gh])]at e4;unfold kw at e4⊢;by_cases hl:256< (av (ab a*ab b)).length
 ·simp only[hl,if_true]at e4⊢;simp only[uZ,BX,go_sem,e1,e2,uC,dv ha (by omega),dv hb (by omega),e3,e4]
 ·simp only[hl,if_false]at e4⊢;simp only[uZ,BX,go_sem,e1,e2,uC,dv ha (by omega),dv hb (by omega),e3,e4]
theorem CP{n m:Nat}{i j:Int}(hi:i=n)(hj:j=m)(hm:m≠0):dP .rem (.v (.int .i64 i)) (.v (.int .i64 j))=some (.v (.int .i64 (n%m:Nat))):=by
 simp_all[Ki,if_neg,Int.tmod_eq_emod_of_nonneg]
theorem CQ{n m:Nat}{i j:Int}(hi:i=n)(hj:j=m)(hm:m≠0)(hn:n<9223372036854775808):dP .quo (.v (.int .i64 i)) (.v (.int .i64 j))=some (.v (.int .i64 (n/m:Nat))):=by
 rw[Pi,if_neg (by omega),Int.tdiv_eq_ediv_of_nonneg (by omega)];have:n/m<=n:=Nat.div_le_self _ _;grind[wi]
theorem ET{n k:Nat}{i:Int}{kk}{j:Int}(hi:i=n)(hj:j=k)(hk:k<=64)(h:n*2^k<18446744073709551616):dP .shl (.v (.int .u64 i)) (.v (.int kk j))=some (.v (.int .u64 (n*2^k:Nat))):=by
 subst hi hj;rw[Kj,if_neg (by omega)];have:min (k:Int).toNat IntKind.u64.bits=k:=by grind[IntKind.bits]
 rw[this,dE (n:=n*2^k) (by simp) h]
theorem ME{m n:Nat}{i j:Int}(hi:i=m)(hj:j=n)(hm:m<18446744073709551616)(hn:n<18446744073709551616):dP .or (.v (.int .u64 i)) (.v (.int .u64 j))=some (.v (.int .u64 (m|||n:Nat))):=by
 subst hi hj;rw[NK];have e:(BitVec.ofInt IntKind.u64.bits m|||BitVec.ofInt IntKind.u64.bits n).toNat=m|||n:=by
  show(BitVec.ofInt 64 m|||BitVec.ofInt 64 n).toNat=m|||n
  grind
 rw[e];rw[dE rfl (Nat.or_lt_two_pow (n:=64) hm hn)]
theorem DO{x c k}(hc:c<2^k):x*2^k|||c=x*2^k+c:=by
 have:=Nat.shiftLeft_add_eq_or_of_lt hc x;grind[Nat.shiftLeft_eq]
def iM(a:List Nat)(r:Nat):Nat->Nat
 |0=>0
 |i+1=>(a.getD i 0*2^r+iM a r i)/4294967296
def nJ(a:List Nat)(r i:Nat):List Nat:=(List.range i).map fun j=>(a.getD j 0*2^r+iM a r j) %4294967296
theorem Gj{a}(ha:Lb a){r}:∀i,iM a r i<2^r
 |0=>by grind[iM,axb]
 |i+1=>by
  have ih:=Gj ha (r:=r) i;have:=bN ha i;simp only[iM];have h1:a.getD i 0*2^r+2^r<=4294967296*2^r:=by
   rw[←Nat.succ_mul];exact awZ _ (by omega)
  omega
theorem vJ(a)(r i):(nJ a r i).length=i:=by simp[nJ]
theorem ak4(a)(r i):Lb (nJ a r i):=fun x hx=>by
 simp only[nJ,axR]at hx;omega
theorem Yc(a)(r):∀i,ab (nJ a r i)+4294967296^i*iM a r i=ab (a.take i)*2^r
 |0=>by simp[nJ,iM,ab]
 |i+1=>by
  have ih:=Yc a r i;rw[eC a i];simp only[nJ]at ih⊢;rw[DN,axO];have e:iM a r (i+1)*4294967296+(a.getD i 0*2^r+iM a r i) %4294967296=a.getD i 0*2^r+iM a r i:=by
   grind[iM]
  grind
theorem afS{a}(ha:Lb a){n q}(h1:a.length<=100000)(hq:q<=100000):∀k i,i+k=a.length->∀s h,s 1=I (n:Nat)->s 5=.rsl 20 none 1 0 (q+i)->s 6=W (iM a (n%32) i)->s 21=lm a->s 22=I a.length->s 23=I i->
  h 20=.ar 1 (aB (awO q 0++nJ a (n%32) i))->h 38=.dead->
  aj 0 [5,6] (au (ai R (az false) rG) [1,5,6,21,22,23] [20,38] s h)=
   some (.normal,⟨upd (upd (fun _=>.any) 6 (W (iM a (n%32) a.length))) 5 (.rsl 20 none 1 0 (q+a.length)),upd (upd (fun _=>.dead) 38 .dead) 20 (.ar 1 (aB (awO q 0++nJ a (n%32) a.length)))⟩):=by
 intro k;induction k with
 |zero=>
  intro i hi s h g1 h5 h6 h21 h22 h23 hh hh2;have:i=a.length:=by omega
  subst this;rw[ag];simp only[rG,go_sem,g1,h5,h6,h21,h22,h23,hh,hh2,axU]
 |succ k ih=>
  intro i hi s h g1 h5 h6 h21 h22 h23 hh hh2;have ih':=ih (i+1) (by omega);have hx:=bN ha i;have hc:=Gj ha (r:=n%32) i;have hp:2^ (n%32)<=2^31:=axC (by omega) (by omega);have hxp:a.getD i 0*2^ (n%32)<=4294967295*2^31:=aFW (by omega) hp;have e1:(i< (a.length:Int))=True:=tt;have e2:aW (aB a) i=some (.ipt [U (a.getD i 0)]):=bt rfl (by omega);have e3:IntKind.i64.wrap (i+1)=(i+1:Nat):=wi;have e4:IntKind.u64.wrap (a.getD i 0)=(a.getD i 0):=dE rfl (by omega);have e5:=CP (n:=n) (m:=32) (j:=32) rfl rfl (by omega);have e6:=ET (n:=a.getD i 0) (k:=n%32) (kk:=.i64) rfl rfl (by omega) (by omega);have e7:=ME (m:=a.getD i 0*2^ (n%32)) (n:=iM a (n%32) i) rfl rfl (by omega) (by omega);rw[DO hc]at e7;have e8:IntKind.u32.wrap (a.getD i 0*2^ (n%32)+iM a (n%32) i:Nat)=((a.getD i 0*2^ (n%32)+iM a (n%32) i) %4294967296:Nat):=Hj rfl;have e9:=pR (n:=a.getD i 0*2^ (n%32)+iM a (n%32) i) (k:=32) (kk:=.u64) (j:=32) rfl rfl (by omega);have f1:aB (awO q 0++nJ a (n%32) i)++[[U ((a.getD i 0*2^ (n%32)+iM a (n%32) i) %4294967296:Nat)]]=aB (awO q 0++nJ a (n%32) (i+1)):=by
   simp_all[U,iM,aB,CE,axL,nJ,List.range_succ]
  have f2:(q+i=(awO q 0++nJ a (n%32) i).length)=True:=tt (by simp[vJ]);have f3:((q+i+1)*4<=140737488355328)=True:=tt;rw[ag];simp only[rG,go_sem,g1,h5,h6,h21,h22,h23,hh,hh2,e1,e2,e3,e4,e5,e6,e7,e8,e9,f1,f2,f3,true_or,awP,awQ];exact ih' _ _ rfl rfl rfl rfl rfl rfl rfl rfl
theorem x9(n):4294967296^ (n/32)*2^ (n%32)=2^n:=by
 rw[show 4294967296=2^32 from rfl,←Nat.pow_mul,←axa];grind
theorem Yd{a}(ha:Lb a)(n):awO (n/32) 0++nJ a (n%32) a.length++[iM a (n%32) a.length]=dy (n/32+a.length+1) (ab a*2^n):=by
 have hc:=Gj ha (r:=n%32) a.length;have hp:2^ (n%32)<=2^31:=axC (by omega) (by omega);have h:=Yc a (n%32) a.length;have hLb:Lb (awO (n/32) 0++nJ a (n%32) a.length++[iM a (n%32) a.length]):=
  oZ.2 ⟨oZ.2 ⟨fun y hy=>by grind,ak4 _ _ _⟩,iL.2 ⟨by omega,Jd⟩⟩
 have hv:ab (awO (n/32) 0++nJ a (n%32) a.length++[iM a (n%32) a.length])=ab a*2^n:=by
  rw[axL,dV,Rg,dV,vJ,ax1];simp only[ab,Nat.mul_zero,axo,awP];grind[x9,Nat.mul_left_comm]
 have:=Hd hLb;grind[vJ]
theorem Oi{a}(ha:Lb a){n:Nat}(h1:a.length<=100000)(hn:n<=65536):R F.natural_shl [lm a,I n] []=some (.osl 1 (aB (dy (n/32+(av (ab a)).length+1) (ab a*2^n))),[]):=by
 refine ax S7 rfl ?_;have la:=dp a ha;have hc:=Gj (aZ (ab a)) (r:=n%32) (av (ab a)).length;have hp:2^ (n%32)<=2^31:=axC (by omega) (by omega);have e1:=CQ (n:=n) (m:=32) (j:=32) rfl rfl (by omega) (by omega);have e2:IntKind.i64.wrap ((n/32:Nat)+(av (ab a)).length)=(n/32+(av (ab a)).length:Nat):=wi;have e3:IntKind.i64.wrap ((n/32+(av (ab a)).length:Nat)+1)=(n/32+(av (ab a)).length+1:Nat):=wi;have e4:=qM (i:=(n/32:Nat)) (j:=(n/32+(av (ab a)).length+1:Nat)) rfl rfl (by omega) (by omega);have e5:((n/32+(av (ab a)).length+1)*4<=140737488355328)=True:=tt;have e6:=afS (aZ (ab a)) (n:=n) (q:=n/32) (by omega) (by omega) (av (ab a)).length 0 (by omega);have e7:aB (awO (n/32) 0)=aB (awO (n/32) 0++nJ (av (ab a)) (n%32) 0):=by simp[nJ]
 have e8:IntKind.u32.wrap (iM (av (ab a)) (n%32) (av (ab a)).length:Nat)=(iM (av (ab a)) (n%32) (av (ab a)).length:Nat):=BB rfl (by omega);have f1:aB (awO (n/32) 0++nJ (av (ab a)) (n%32) (av (ab a)).length)++[[U (iM (av (ab a)) (n%32) (av (ab a)).length)]]=aB (dy (n/32+(av (ab a)).length+1) (ab a*2^n)):=by
  have:=Yd (aZ (ab a)) n;rw[aN]at this;rw[←this,show [[U (iM (av (ab a)) (n%32) (av (ab a)).length)]]=aB [iM (av (ab a)) (n%32) (av (ab a)).length]from rfl,CE]
 have f2:(n/32+(av (ab a)).length=(awO (n/32) 0++nJ (av (ab a)) (n%32) (av (ab a)).length).length)=True:=tt (by simp[vJ]);simp only[Ax,Ib,go_sem,dv ha (by omega),e1,e2,e3,e4,e5,AC,e7];rw[e6 _ _ rfl rfl rfl rfl rfl rfl rfl rfl];simp only[go_sem,e8,f1,f2,e5,true_or,awP,awQ,cR]
theorem ac7{a}(ha:Lb a){n}(h1:a.length<=256):R F.natural_Shl [lm a,I n] []=some (if n<0\/65536<n then .tup [lm [],I 2]else kw (ab a*2^n.toNat),[]):=by
 refine ax S3 rfl ?_;have e1:(256<a.length)=False:=ff;by_cases hn:n<0
 ·simp only[mE,sE,go_sem,e1,rI,hn,true_or]
 by_cases hn2:65536<n
 ·simp only[mE,sE,go_sem,e1,rI,hn,hn2,or_true]
 obtain⟨m,rfl⟩:=ax5 (show 0<=n by omega);have la:=dp a ha;have e3:ab (dy (m/32+(av (ab a)).length+1) (ab a*2^m))=ab a*2^m:=by
  rw[lA,axK];have h:=gh (ab a);have h2:2^m<=4294967296^ (m/32+1):=by
   rw[show 4294967296=2^32 from rfl,←Nat.pow_mul];exact axC (by omega) (by omega)
  rw[show m/32+(av (ab a)).length+1=(av (ab a)).length+(m/32+1)from by omega,axa]
  simp_all[Nat.mul_lt_mul_of_lt_of_le,Nat.pow_pos]
 have e4:=Gh (nV (m/32+(av (ab a)).length+1) (ab a*2^m)) (by grind[cR]);rw[e3]at e4;have e5:(aB (dy (m/32+(av (ab a)).length+1) (ab a*2^m))).take (dy (m/32+(av (ab a)).length+1) (ab a*2^m)).length=aB (dy (m/32+(av (ab a)).length+1) (ab a*2^m)):=axg (by simp_all[CD,awQ]);unfold kw at e4⊢;by_cases hl:256< (av (ab a*2^m)).length
 ·simp only[mE,sE,go_sem,e1,rI,hn,hn2,Oi ha (n:=m) (by omega) (by omega),e4,e5,or_false,awY,hl,awP,awQ]
 ·simp only[mE,sE,go_sem,e1,rI,hn,hn2,Oi ha (n:=m) (by omega) (by omega),e4,e5,or_false,awY,hl,awP,awQ]
theorem xK{l}(h:Lb l)(i):ab (l.drop i)=ab l/4294967296^i:=by
 rcases Nat.lt_or_ge l.length i with hi|hi
 ·rw[List.drop_of_length_le (by omega)];have:=cG h;have h2:4294967296^l.length<=4294967296^i:=axC (by omega) (by omega);rw[Nat.div_eq_of_lt (by omega)];rfl
 ·have h1:ab l=ab (l.take i)+4294967296^i*ab (l.drop i):=by
   grind[List.take_append_drop,dV,axd,axP]
  grind[cG,eY,axd,axP,Nat.add_mul_div_left,Nat.pow_pos,Nat.div_eq_of_lt]
theorem fu(l:List Nat)(i):ab (l.drop i)=l.getD i 0+4294967296*ab (l.drop (i+1)):=by
 grind[axh,ab,List.drop_of_length_le]
def uD(a:List Nat)(r i:Nat):Nat:=(a.getD i 0+4294967296*a.getD (i+1) 0)/2^r%4294967296
theorem aiv{a}(ha:Lb a){r}(hr:r<=32)(i):uD a r i=Yb (ab a/2^r) i:=by
 unfold uD Yb;have e0:ab a/2^r/4294967296^i=ab (a.drop i)/2^r:=by grind[Nat.div_div_eq_div_mul,axf,xK]
 rw[e0,fu a i,fu a (i+1)];generalize ab (a.drop (i+1+1))=w;have e:4294967296=2^r*2^ (32-r):=by rw[←axa,show r+(32-r)=32 from by omega]
 have h1:a.getD i 0+4294967296*(a.getD (i+1) 0+4294967296*w)=(a.getD i 0+4294967296*a.getD (i+1) 0)+2^r*(2^ (32-r)*4294967296*w):=by
  grind
 rw[h1,Nat.add_mul_div_left _ _ (axb r),axn,Nat.mul_left_comm,Nat.add_mul_mod_self_left]
def nc(a:List Nat)(r i:Nat):List Nat:=(List.range i).map (uD a r)
theorem wS(a)(r i):(nc a r i).length=i:=by simp[nc]
theorem Vg{a}(ha:Lb a){r}(hr:r<=32):nc a r a.length=dy a.length (ab a/2^r):=by
 grind[U9,wS,aiv,nc]
theorem afT{a}(ha:Lb a){n}(h1:a.length<=100000):∀k i,i+k=a.length->∀s h,s 0=lm a->s 1=I (n:Nat)->s 5=.rsl 22 none 1 0 a.length->s 23=lm a->s 24=I a.length->s 25=I i->
  h 22=.ar 1 (aB (nc a (n%32) i++awO k 0))->
  aj 0 [5] (au (ai R (az false) mZ) [0,1,5,23,24,25] [22] s h)=
   some (.normal,⟨upd (fun _=>.any) 5 (.rsl 22 none 1 0 a.length),upd (fun _=>.dead) 22 (.ar 1 (aB (nc a (n%32) a.length)))⟩):=by
 intro k;induction k with
 |zero=>
  intro i hi s h h0 g1 h5 h23 h24 h25 hh;have:i=a.length:=by omega
  subst this;rw[ag];simp only[List.replicate_zero,axe]at hh;simp only[mZ,go_sem,h0,g1,h5,h23,h24,h25,hh,axU]
 |succ k ih=>
  intro i hi s h h0 g1 h5 h23 h24 h25 hh;have ih':=ih (i+1) (by omega);have hx:=bN ha i;have hy:=bN ha (i+1);have hr:n%32<32:=axq _ (by omega);have e1:((i:Int)< (a.length:Int))=True:=tt;have e2:aW (aB a) (i:Int)=some (.ipt [U (a.getD i 0:Nat)]):=bt rfl (by omega);have e3:IntKind.i64.wrap ((i:Int)+1)=((i+1:Nat):Int):=wi;have e4:IntKind.u64.wrap (a.getD i 0:Int)=(a.getD i 0:Int):=dE rfl (by omega);have e5:=CP (n:=n) (m:=32) (j:=32) rfl rfl (by omega);have e6:(0<=(i:Int))=True:=tt;have e7:(aB (nc a (n%32) i++awO (k+1) 0))[i]?=some [U (0:Nat)]:=by
   grind[kj,wS]
  have e8:(aB (nc a (n%32) i++awO (k+1) 0)).set i [U (uD a (n%32) i:Nat)]=aB (nc a (n%32) (i+1)++awO k 0):=by
   grind[nX,Va,nc,uD,wS,List.range_succ]
  rw[ag];generalize au _ _ _=L at ih'⊢;by_cases hl:i+1<a.length
  ·have f1:(((i+1:Nat):Int)< (a.length:Int))=True:=tt;have f2:=bt rfl hl;have f3:IntKind.u64.wrap (a.getD (i+1) 0:Int)=(a.getD (i+1) 0:Int):=dE rfl (by omega);have f4:=ET (n:=a.getD (i+1) 0) (k:=32) (kk:=.u64) (j:=32) rfl rfl (by omega) (by omega);have f5:=ME (m:=a.getD i 0) (n:=a.getD (i+1) 0*2^32) rfl rfl (by omega) (by omega);rw[Nat.or_comm,DO (show a.getD i 0<2^32 from by omega)]at f5;have f6:=pR (n:=a.getD (i+1) 0*2^32+a.getD i 0) (k:=n%32) (kk:=.i64) rfl rfl (by omega);have f7:IntKind.u32.wrap (((a.getD (i+1) 0*2^32+a.getD i 0)/2^ (n%32):Nat):Int)=((uD a (n%32) i:Nat):Int):=by
    grind[Hj,uD]
   simp only[mZ,go_sem,h0,g1,h5,h23,h24,h25,hh,e1,e2,e3,e4,e5,e6,e7,e8,f1,f2,f3,f4,f5,f6,f7,awY,awP];exact ih' _ _ rfl rfl rfl rfl rfl rfl rfl
  ·have f1:(((i+1:Nat):Int)< (a.length:Int))=False:=ff;have f2:a.getD (i+1) 0=0:=by grind
   have f6:=pR (n:=a.getD i 0) (k:=n%32) (kk:=.i64) rfl rfl (by omega);have f7:IntKind.u32.wrap ((a.getD i 0/2^ (n%32):Nat):Int)=((uD a (n%32) i:Nat):Int):=by
    rw[Hj rfl];grind[uD]
   simp only[mZ,go_sem,h0,g1,h5,h23,h24,h25,hh,e1,e2,e3,e4,e5,e6,e7,e8,f1,f6,f7,awY,awP];exact ih' _ _ rfl rfl rfl rfl rfl rfl rfl
theorem ac8{a}(ha:Lb a){n:Nat}(h1:a.length<=100000)(hn:n<=100000000):R F.natural_shr [lm a,I n] []=some (lm (dy ((av (ab a)).length-n/32) (ab a/2^n)),[]):=by
 refine ax S6 rfl ?_;have la:=dp a ha;have e1:=CQ (n:=n) (m:=32) (j:=32) rfl rfl (by omega) (by omega);by_cases hl:(av (ab a)).length<=n/32
 ·have e2:((av (ab a)).length<=((n/32:Nat):Int))=True:=tt;have e3:dy ((av (ab a)).length-n/32) (ab a/2^n)=[]:=by rw[show(av (ab a)).length-n/32=0 from by omega];rfl
  simp only[vC,B5,go_sem,dv ha (by omega),e1,e2,e3]
 ·have e2:((av (ab a)).length<=((n/32:Nat):Int))=False:=ff;have hD:((av (ab a)).drop (n/32)).length=(av (ab a)).length-n/32:=by simp
  have hLD:Lb ((av (ab a)).drop (n/32)):=mG (aZ _) _;have e3:dZ 1 (lm (av (ab a))) (some (I (n/32:Nat))) none none=some (lm ((av (ab a)).drop (n/32))):=by
   rw[Jl (a:=n/32) (b:=(av (ab a)).length) (uB rfl (by omega)) rfl (awQ _),axg (by omega)]
  have hv:ab ((av (ab a)).drop (n/32))/2^ (n%32)=ab a/2^n:=by
   rw[xK (aZ _),aN,Nat.div_div_eq_div_mul,x9]
  have e6:=Vg hLD (r:=n%32) (by omega);rw[hv,hD]at e6;generalize(av (ab a)).drop (n/32)=D at*
  have e4:=qM (i:=D.length) (j:=D.length) rfl rfl (awQ _) (by omega);have e5:(D.length*4<=140737488355328)=True:=tt;have e7:=afT hLD (n:=n) (by omega) D.length 0 (by omega);have e8:aB (awO D.length 0)=aB (nc D (n%32) 0++awO D.length 0):=by simp[nc]
  rw[←hD]at e6⊢;simp only[vC,B5,go_sem,dv ha (by omega),e1,e2,e3,e4,e5,AC,e8];rw[e7 _ _ rfl rfl rfl rfl rfl rfl rfl];simp only[go_sem,e6,cR,awP,awQ]
theorem ac9{a}(ha:Lb a){n}(h1:a.length<=256):R F.natural_Shr [lm a,I n] []=some (if n<0\/65536<n then .tup [lm [],I 2]else .tup [lm (av (ab a/2^n.toNat)),I 0],[]):=by
 refine ax S1 rfl ?_;have e1:(256<a.length)=False:=ff;by_cases hn:n<0
 ·simp only[qx,xj,go_sem,e1,rI,hn,true_or]
 by_cases hn2:65536<n
 ·simp only[qx,xj,go_sem,e1,rI,hn,hn2,or_true]
 obtain⟨m,rfl⟩:=ax5 (show 0<=n by omega);have la:=dp a ha;have hlt:=gh (ab a);have h32:ab a/2^m<4294967296^ ((av (ab a)).length-m/32):=by
  rw[Nat.div_lt_iff_lt_mul (axb m),←x9 m];refine axX hlt ?_;rw[←axn,←axa];refine awX (axC (by omega) (show(av (ab a)).length<=(av (ab a)).length-m/32+m/32 by omega)) (Nat.le_mul_of_pos_right _ (axb _))
 have e3:ab (dy ((av (ab a)).length-m/32) (ab a/2^m))=ab a/2^m:=by
  rw[lA,axK h32]
 have e4:=Gh (nV ((av (ab a)).length-m/32) (ab a/2^m)) (by grind[cR]);rw[e3]at e4;have hl:¬256< (av (ab a/2^m)).length:=by
  have:=jF h32;omega
 unfold kw at e4;simp only[hl,if_false]at e4;simp only[qx,xj,go_sem,e1,rI,hn,hn2,ac8 ha (n:=m) (by omega) (by omega),e4,or_false,awY]
def af(n:Nat):Nat:=if n=0 then 0 else n.log2+1
theorem bK{n k}:af n<=k↔n<2^k:=by
 unfold af;grind[Nat.succ_le_iff,Nat.log2_lt]
theorem MF{q k}(h:af q<=k):af (q+1)<=k+1:=by
 rw[bK]at h⊢;omega
theorem afU{n k}(h:n<=k):af (2^n-1)<=k:=bK.2 (by
 have h1:=axb n;have h2:=axC (n:=2) (by decide) h;omega)
theorem afV(k):af 1<=k+1:=bK.2 (Nat.one_lt_two_pow (by omega))
theorem yb{x y k}(h:x<=y)(h2:af y<=k):af x<=k:=bK.2 (axF h (bK.1 h2))
theorem jy{n k}:k<af n↔2^k<=n:=by
 have:=@bK n k;omega
theorem pe:af 0=0:=rfl
theorem eL{n}(h:n≠0):0<af n:=by
 rw[jy];omega
theorem kl(n k):af (n/2^k)=af n-k:=by
 have h:∀j,af (n/2^k)<=j↔af n-k<=j:=fun j=>by
  simp_all[bK,Nat.div_lt_iff_lt_mul,axb,axa]
 have h1:=(h _).1 (awQ _);have h2:=(h _).2 (awQ _);omega
theorem dq{n}(k)(hn:n≠0):af (n*2^k)=af n+k:=by
 grind[kl,Nat.mul_div_cancel,axb,af,jy,Nat.le_mul_of_pos_left]
def abf:ByteArray:=⟨#[0,1,2,2,3,3,3,3,4,4,4,4,4,4,4,4,5,5,5,5,5,5,5,5,5,5,5,5,5,5,5,5,6,6,6,6,6,6,6,6,6,6,6,6,6,6,6,6,6,6,6,6,6,6,6,6,6,6,6,6,6,6,6,6,7,7,7,7,7,7,7,7,7,7,7,7,7,7,7,7,7,7,7,7,7,7,7,7,7,7,7,7,7,7,7,7,7,7,7,7,7,7,7,7,7,7,7,7,7,7,7,7,7,7,7,7,7,7,7,7,7,7,7,7,7,7,7,7,8,8,8,8,8,8,8,8,8,8,8,8,8,8,8,8,8,8,8,8,8,8,8,8,8,8,8,8,8,8,8,8,8,8,8,8,8,8,8,8,8,8,8,8,8,8,8,8,8,8,8,8,8,8,8,8,8,8,8,8,8,8,8,8,8,8,8,8,8,8,8,8,8,8,8,8,8,8,8,8,8,8,8,8,8,8,8,8,8,8,8,8,8,8,8,8,8,8,8,8,8,8,8,8,8,8,8,8,8,8,8,8,8,8,8,8,8,8,8,8,8,8,8,8,8,8,8,8]⟩
theorem afW:((List.range 256).all fun x=>(abf[x]?).map (·.toNat)==some (af x))=true:=by decide+kernel
theorem abg{x:Nat}(h:x<256):J4 (.v (.string abf)) (.v (.int .u8 x))=some (.v (.int .u8 (af x))):=by
 have:=List.all_eq_true.1 afW x (List.mem_range.2 h);simp only[J4];grind
theorem Hm:I8=.seq (.ops [0,2] [co 2 (.mv (.c (.v (.int .i64 0))))]) (.seq (.seq (.ops [0,2,4] [cm 3 0,co 4 (.bin .geq (.t 3) (.c (.v (.int .u32 65536))))]) (.cond (.t 4) (.seq (.ops [0] [cm 5 0,co 6 (.bin .shr (.t 5) (.c (.v (.int .u64 16)))),cm 0 6]) (.ops [0,2] [co 2 (.mv (.c (.v (.int .i64 16))))])) (.skip))) (.seq (.seq (.ops [0,2,8] [cm 7 0,co 8 (.bin .geq (.t 7) (.c (.v (.int .u32 256))))]) (.cond (.t 8) (.seq (.ops [0,2] [cm 9 0,co 10 (.bin .shr (.t 9) (.c (.v (.int .u64 8)))),cm 0 10]) (.ops [0,2] [cm 11 2,co 12 (.bin .add (.t 11) (.c (.v (.int .i64 8)))),cm 2 12])) (.skip))) (.seq (.ops [2] [cm 13 2,cm 14 0,co 15 (.cv .u8 (.t 14)),co 16 (.idxS (.c (.v (.string abf))) (.t 15)),co 17 (.cv .i64 (.t 16)),co 18 (.bin .add (.t 13) (.t 17)),cm 2 18]) (.ret)))):=rfl
theorem w8{i:Int}{n:Nat}(h:i=n)(hn:n<256):IntKind.u8.wrap i=n:=by grind[IntKind.wrap_u8]
theorem Hn{n k:Nat}{i:Int}{kk}{j:Int}(hi:i=n)(hj:j=k)(hk:k<=32):dP .shr (.v (.int .u32 i)) (.v (.int kk j))=some (.v (.int .u32 (n/2^k:Nat))):=by
 simp_all[FU,if_neg,IntKind.bits,Option.some.injEq,AV.v.injEq,Value.int.injEq,true_and,Int.fdiv_eq_ediv_of_nonneg,Int.pow_nonneg]
theorem BC{x}(k)(h:2^k<=x):af x=k+af (x/2^k):=by
 have:=kl x k;have:=jy.2 h;omega
theorem Vh{x:Nat}(hx:x<4294967296):R F.bits_Len32 [U x] []=some (I (af x),[]):=by
 refine ax U1 rfl ?_;have fin:∀ {y:Nat},y<256->∀ {n:Nat},n<=24->IntKind.u8.wrap y=y/\IntKind.i64.wrap (af y)=(af y)/\IntKind.i64.wrap (n+(af y))=(n+af y:Nat):=fun{y} hy {n} hn=>by
  have:af y<=8:=bK.2 hy;exact⟨w8 rfl hy,wi rfl (by omega),wi (by omega) (by omega)⟩
 have s16:=Hn (n:=x) (k:=16) (kk:=.u64) (j:=16) rfl rfl (by omega);by_cases h1:65536<=x
 ·have e1:(65536<=(x:Int))=True:=tt;have b1:=BC 16 h1;have s8:=Hn (n:=x/2^16) (k:=8) (kk:=.u64) (j:=8) rfl rfl (by omega);by_cases h2:256<=x/2^16
  ·have e2:(256<=((x/2^16:Nat):Int))=True:=tt;have b2:=BC 8 h2;have hy:x/2^16/2^8<256:=by omega
   obtain⟨f1,f2,f3⟩:=fin hy (n:=24) (by omega);have g:IntKind.i64.wrap 24=24:=by grind[i64_in]
   have f3':IntKind.i64.wrap (24+(af (x/2^16/2^8)))=(af x:Nat):=by grind
   simp only[nT,Hm,go_sem,e1,s16,e2,s8,g,f1,abg hy,f2,f3',Int.reduceAdd]
  ·have e2:(256<=((x/2^16:Nat):Int))=False:=ff;have hy:x/2^16<256:=by omega
   obtain⟨f1,f2,f3⟩:=fin hy (n:=16) (by omega);have f3':IntKind.i64.wrap ((16:Int)+(af (x/2^16):Int))=((af x:Nat):Int):=by grind
   simp only[nT,Hm,go_sem,axl,axs,e1,s16,e2,f1,abg hy,f2,f3']
 ·have e1:((65536:Int)<=(x:Int))=False:=ff;have s8:=Hn (n:=x) (k:=8) (kk:=.u64) (j:=8) rfl rfl (by omega);by_cases h2:256<=x
  ·have e2:((256:Int)<=(x:Int))=True:=tt;have b2:=BC 8 h2;have hy:x/2^8<256:=by omega
   obtain⟨f1,f2,f3⟩:=fin hy (n:=8) (by omega);have g:IntKind.i64.wrap (8:Int)=8:=by grind[i64_in]
   have f3':IntKind.i64.wrap ((8:Int)+(af (x/2^8):Int))=((af x:Nat):Int):=by grind
   simp only[nT,Hm,go_sem,axl,axs,e1,e2,s8,g,f1,abg hy,f2,f3',Int.reduceAdd]
  ·have e2:((256:Int)<=(x:Int))=False:=ff;have hy:x<256:=by omega
   obtain⟨f1,f2,f3⟩:=fin hy (n:=0) (by omega);have f3':IntKind.i64.wrap ((0:Int)+(af x:Int))=((af x:Nat):Int):=by grind
   simp only[nT,Hm,go_sem,axl,axs,e1,e2,f1,abg hy,f2,f3']
theorem Vi{n}(h:n≠0):af n=32*((av n).length-1)+af ((av n).getD ((av n).length-1) 0):=by
 induction n using Nat.strongRecOn with
 |ind n ih=>
  rw[qD h,axE,Nat.add_sub_cancel];by_cases h0:n/4294967296=0
  ·rw[h0,fj];grind
  ·have h2:(av (n/4294967296)).length≠0:=by
    intro e;exact h0 (nU.1 (List.length_eq_zero_iff.1 e))
   have h3:=BC (x:=n) 32 (by omega);grind
theorem Gk{m}(hb:Lb m)(h1:m.length<=100000):R F.natural_Bits [lm m] []=some (I (af (ab m)),[]):=by
 refine ax PF rfl ?_;have la:=dp m hb;by_cases h:ab m=0
 ·have e1:((0:Nat):Int)=0:=rfl;simp only[tF,As,go_sem,dv hb (by omega),h,fj,e1,pe]
 ·have hne:(av (ab m)).length≠0:=fun e=>h (nU.1 (List.length_eq_zero_iff.1 e));have e1:(((av (ab m)).length:Int)=0)=False:=ff;have e2:IntKind.i64.wrap ((av (ab m)).length-1)=((av (ab m)).length-1:Nat):=wi;have e3:IntKind.i64.wrap (32*((av (ab m)).length-1:Nat))=(32*((av (ab m)).length-1):Nat):=wi;have e4:aW (aB (av (ab m))) ((av (ab m)).length-1:Nat)=some (.ipt [U ((av (ab m)).getD ((av (ab m)).length-1) 0)]):=bt rfl (by omega);have e5:=Vh (bN (aZ (ab m)) ((av (ab m)).length-1));have e6:af ((av (ab m)).getD ((av (ab m)).length-1) 0)<=32:=bK.2 (bN (aZ (ab m)) _);have e7:IntKind.i64.wrap ((32*((av (ab m)).length-1):Nat)+(af ((av (ab m)).getD ((av (ab m)).length-1) 0)))=(af (ab m):Nat):=by
   rw[Vi h];exact wi (by omega) (by omega)
  simp only[tF,As,go_sem,dv hb (by omega),e1,e2,e3,e4,e5,e7]
structure Rd where
 neg:Bool
 m:List Nat
 e:Int
def ah(d:Rd):List AV:=[B d.neg,lm d.m,I d.e]
def ae(d:Rd):AV:=.agg (ah d)
def aI:Rd:=⟨false,[],0⟩
def qF(n:Nat)(e:Int):Bool:=decide (n=0)|| (decide (n<=4096)&& (decide (-16384<=e)&& (decide (e<=16384)&&decide (n+e<=16384))))
def vd(d:Rd):Bool:=if d.m.length=0 then !d.neg&&decide (d.e=0)else decide (d.m.length<=256)&& (decide (d.m.getD 0 0%2=1)&& (decide (d.m.getD (d.m.length-1) 0≠0)&&qF (af (ab d.m)) d.e))
theorem vK{m}(hb:Lb m)(h1:m.length<=100000):R F.dyadic_size [lm m] []=some (I (af (ab m)),[]):=by
 refine ax ST rfl ?_;simp only[Aq,H5,go_sem,Gk hb h1]
theorem Oj{d}(hb:Lb d.m)(h1:d.m.length<=100000):R F.dyadic_inRange [ae d] []=some (B (qF (af (ab d.m)) d.e),[]):=by
 refine ax Mn rfl ?_;unfold qF;by_cases a1:af (ab d.m)=0
 ·have e9:=vK hb h1;rw[a1,axB]at e9;simp only[gG,kf,ae,ah,go_sem,e9,a1]
 have e1:(((af (ab d.m)):Int)=0)=False:=ff;by_cases a2:¬ (af (ab d.m)<=4096)
 ·have e2:(((af (ab d.m)):Int)<=4096)=False:=ff;simp only[gG,kf,ae,ah,go_sem,vK hb h1,e1,a1,e2,a2]
 replace a2:=Decidable.not_not.1 a2
 have e2:(((af (ab d.m)):Int)<=4096)=True:=tt;by_cases a3:¬ (-16384<=d.e)
 ·simp only[gG,kf,ae,ah,go_sem,vK hb h1,e1,a1,e2,a2,a3]
 replace a3:=Decidable.not_not.1 a3
 by_cases a4:¬ (d.e<=16384)
 ·simp only[gG,kf,ae,ah,go_sem,vK hb h1,e1,a1,e2,a2,a3,a4]
 replace a4:=Decidable.not_not.1 a4
 have e3:IntKind.i64.wrap ((af (ab d.m):Nat)+d.e)=(af (ab d.m):Nat)+d.e:=by grind[i64_in]
 simp only[gG,kf,ae,ah,go_sem,vK hb h1,e1,a1,e2,a2,a3,a4,e3]
def I64(n:Int):Prop:=-9223372036854775808<=n/\n<9223372036854775808
structure Ok0 (d:Rd):Prop where
 lb:Lb d.m
 len:d.m.length<4611686018427387904
theorem ef{d}(ok:Ok0 d):R F.dyadic_Valid [ae d] []=some (B (vd d),[]):=by
 refine ax PA rfl ?_;unfold vd;by_cases a0:d.m.length=0
 ·rw[if_pos a0];have e1:((d.m.length:Int)=0)=True:=tt;cases hn:d.neg with
  |true=>simp only[gP,j7,ae,ah,hn,go_sem,e1]
  |false=>simp only[gP,j7,ae,ah,hn,go_sem,e1]
 rw[if_neg a0];have e1:((d.m.length:Int)=0)=False:=ff;by_cases a1:¬d.m.length<=256
 ·have e2:((d.m.length:Int)<=256)=False:=ff;rw[decide_eq_false a1,awU];simp only[gP,j7,ae,ah,go_sem,e1,e2]
 replace a1:=Decidable.not_not.1 a1
 have e2:((d.m.length:Int)<=256)=True:=tt;have e3:aW (aB d.m) 0=some (.ipt [U (d.m.getD 0 0)]):=bt rfl (by omega);have e4:dP .rem (.v (.int .u32 (d.m.getD 0 0))) (.v (.int .u32 2))=some (.v (.int .u32 (d.m.getD 0 0%2:Nat))):=by
  simp_all[Ki,if_neg,Int.tmod_eq_emod_of_nonneg]
 rw[decide_eq_true a1,awT];by_cases a2:¬d.m.getD 0 0%2=1
 ·have e5:(((d.m.getD 0 0%2:Nat):Int)=1)=False:=ff;rw[decide_eq_false a2,awU];simp only[gP,j7,ae,ah,go_sem,e1,e2,e3,e4,e5]
 replace a2:=Decidable.not_not.1 a2
 have e5:(((d.m.getD 0 0%2:Nat):Int)=1)=True:=tt;rw[decide_eq_true a2,awT];have e6:IntKind.i64.wrap (d.m.length-1)=(d.m.length-1:Nat):=wi;have e7:aW (aB d.m) (d.m.length-1:Nat)=some (.ipt [U (d.m.getD (d.m.length-1) 0)]):=bt rfl (by omega);by_cases a3:d.m.getD (d.m.length-1) 0=0
 ·have e8:((d.m.getD (d.m.length-1) 0:Int)=0)=True:=tt;rw[decide_eq_false (p:=d.m.getD (d.m.length-1) 0≠0) (fun h=>h a3),awU];simp only[gP,j7,ae,ah,go_sem,e1,e2,e3,e4,e5,e6,e7,e8]
 have e8:((d.m.getD (d.m.length-1) 0:Int)=0)=False:=ff;rw[decide_eq_true (p:=d.m.getD (d.m.length-1) 0≠0) a3,awT];have e9:=Oj (d:=d) ok.lb (by omega);simp only[ae,ah]at e9;simp only[gP,j7,ae,ah,go_sem,e1,e2,e3,e4,e5,e6,e7,e8,e9]
theorem PW{d}(ok:Ok0 d):R F.dyadic_Sign [ae d] []=some (I (if vd d=false\/d.m.length=0 then 0 else if d.neg=true then-1 else 1),[]):=by
 refine ax SN rfl ?_;have e9:=ef ok;simp only[ae,ah]at e9;cases hv:vd d with
 |false=>
  rw[hv]at e9;rw[if_pos (Or.inl rfl)];simp only[mB,so,ae,ah,go_sem,e9]
 |true=>
  rw[hv]at e9;by_cases a0:d.m.length=0
  ·have e1:((d.m.length:Int)=0)=True:=tt;rw[if_pos (Or.inr a0)];simp only[mB,so,ae,ah,go_sem,e9,e1]
  ·have e1:((d.m.length:Int)=0)=False:=ff;rw[if_neg (fun h=>h.elim (fun h=>nomatch h) a0)];cases hn:d.neg with
   |true=>
    rw[hn]at e9;simp only[mB,so,ae,ah,hn,go_sem,e9,e1]
   |false=>
    rw[hn]at e9;simp only[mB,so,ae,ah,hn,go_sem,e9,e1]
theorem abh(m)(h2:m.length<4611686018427387904):∀ (n:Nat),n<=m.length->∀s h,s 0=lm m->s 3=I n->
  aj 0 [0,3] (au (ai R (az false) jP) [0,3] [] s h)=some (.normal,⟨upd (upd (fun _=>.any) 3 (I (mf m n))) 0 (lm m),fun _=>.dead⟩):=by
 intro n;induction n with
 |zero=>
  intro h1 s h h3 h4;rw[ag];simp only[jP,go_sem,h3,h4,mf,axB,axU]
 |succ n ih=>
  intro h1 s h h3 h4;have hn:=h1;have e3:IntKind.i64.wrap (n+1-1)=n:=wi;have e1:=bt rfl hn;have e2:(0< (n:Int)+1)=True:=tt;have ih':=ih (by omega);rw[ag];by_cases hz:m.getD n 0=0
  ·simp only[jP,go_sem,h3,h4,mf,Int.natCast_add,Int.natCast_one,e3,e1,e2,hz,axB];exact ih' _ _ rfl rfl
  ·simp only[jP,go_sem,h3,h4,mf,Int.natCast_add,Int.natCast_one,e3,e1,e2,hz,Int.natCast_eq_zero]
theorem Vj{m}(hb:Lb m)(h:m.length<4611686018427387904):R F.dyadic_trimmed [lm m] []=some (lm (av (ab m)),[]):=by
 refine ax Mq rfl ?_;have h1:dZ 1 (lm m) none (some (I (mf m m.length))) none=some (lm (av (ab m))):=by
  rw[Jl (a:=0) (b:=mf m m.length) rfl (uB rfl (DC _ _)) (DC _ _),ax0,Nat.sub_zero,Me hb]
 simp only[wn,Dr,go_sem,abh m h m.length (awQ _),h1]
theorem Bc{e}:R F.dyadic_exponent [I e] []=some (B (decide (-32768<=e)&&decide (e<=32768)),[]):=by
 refine ax K3 rfl ?_;by_cases a1:¬ (-32768<=e)
 ·simp only[oQ,wl,go_sem,a1]
 replace a1:=Decidable.not_not.1 a1
 simp only[oQ,wl,go_sem,a1]
theorem CF{d}(hb:Lb d.m)(h1:d.m.length<=100000):R F.dyadic_checked [ae d] []=some (if qF (af (ab d.m)) d.e=true then .tup [ae d,I 0]else .tup [ae aI,I 9],[]):=by
 refine ax Mo rfl ?_;have e9:=Oj hb h1;simp only[ae,ah]at e9;cases hv:qF (af (ab d.m)) d.e with
 |false=>
  rw[hv]at e9;simp only[pJ,xC,ae,ah,aI,go_sem,e9]
 |true=>
  rw[hv]at e9;simp only[pJ,xC,ae,ah,go_sem,e9]
theorem Vk(h)(m):uP h 1 (lm m)=some (aB m):=afF h 1 _
theorem Ho{m}(h0:m≠[])(h1:m.length<=100000):R F.slices_Clone_uint32_uint32_ [lm m] []=some (lm m,[]):=by
 refine ax zQ rfl ?_;have e1:J3 false (lm m)=some (B false):=by
  cases m with
  |nil=>grind
  |cons x m=>rfl
 have e2:((True\/False)/\(0+m.length)*4<=140737488355328)=True:=eq_true ⟨Or.inl trivial,by omega⟩;have e3:(0+(0+m.length)<=m.length)=True:=tt;have e4:(0+m.length=m.length)=True:=tt;simp only[jf,pB,go_sem,e1,Vk,e2,e3,e4]
theorem FI:cJ.E F.bits_TrailingZeros32=some tzF:=by kernel_rfl
theorem Jo{x:Nat}(h:x≠0)(hx:x<4294967296):R F.bits_TrailingZeros32 [U x] []=some (I (tz x),[]):=by
 unfold R;rw[L5 FI];show(if 0< (x:Int)/\(x:Int)<4294967296/\[]=[]then some (I (Rj 32 (x:Int).toNat),[])else none)=_;rw[if_pos ⟨by omega,by omega,rfl⟩,awY,akZ 32 x h (by omega)]
theorem afX(m)(hb:Lb m)(h2:m.length<=100000):∀k i,i+k=m.length->ab (m.drop i)≠0->∀s h,s 6=lm m->s 7=I m.length->s 8=I i->s 3=I (32*i:Nat)->
  aj 0 [3] (au (ai R (az false) tH) [3,6,7,8] [] s h)=some (.ret,⟨upd (fun _=>.any) 2 (I (32*i+tz (ab (m.drop i)):Nat)),fun _=>.dead⟩):=by
 intro k;induction k with
 |zero=>
  intro i hi hv;rw[axi (by omega)]at hv;exact absurd rfl hv
 |succ k ih=>
  intro i hi hv s h h6 h7 h8 h3;have e1:((i:Int)<m.length)=True:=tt;have e2:aW (aB m) i=some (.ipt [U (m.getD i 0)]):=bt rfl (by omega);have hx:=bN hb i;rw[fu]at hv;rw[ag];have e4:IntKind.i64.wrap ((32*i:Nat)+32)=(32*(i+1):Nat):=wi;have e5:IntKind.i64.wrap (i+1)=(i+1:Nat):=wi;by_cases hz:m.getD i 0=0
  ·have e3:((m.getD i 0:Int)=0)=True:=tt;have hv':ab (m.drop (i+1))≠0:=by
    omega
   have ih':=ih (i+1) (by omega) hv';have e6:tz (ab (m.drop i))=32+tz (ab (m.drop (i+1))):=by
    rw[fu,hz,awP];exact Jg 32 hv'
   have e7:32*i+tz (ab (m.drop i))=32*(i+1)+tz (ab (m.drop (i+1))):=by omega
   rw[e7];simp only[tH,go_sem,h3,h6,h7,h8,e1,e2,e3,e4,e5];exact ih' _ _ rfl rfl rfl rfl
  ·have e3:((m.getD i 0:Int)=0)=False:=ff;have e6:tz (ab (m.drop i))=tz (m.getD i 0):=by
    rw[fu];exact akY (k:=32) _ hz hx
   have e8:=Tj (k:=32) hz hx;have e7:IntKind.i64.wrap ((32*i:Nat)+(tz (m.getD i 0)))=(32*i+tz (m.getD i 0):Nat):=wi;rw[e6];simp only[tH,go_sem,h3,h6,h7,h8,e1,e2,e3,Jo hz hx,e7]
theorem ak5{m}(hb:Lb m)(h1:m.length<=100000)(hv:ab m≠0):R F.dyadic_low [lm m] []=some (I (tz (ab m)),[]):=by
 refine ax UZ rfl ?_;have h3:=afX m hb h1 m.length 0 (awP _) hv;simp only[Nat.mul_zero,awP,ax0,axB]at h3;simp only[B0,I5,go_sem];rw[h3 _ _ rfl rfl rfl rfl];simp only[go_sem]
def abi:Nat->Nat->List Nat
 |0,_=>[]
 |k+1,n=>if n=0 then []else n%4294967296::abi k (n/4294967296)
theorem Ye:∀ {k n:Nat},n<4294967296^k->abi k n=av n
 |0,n,h=>by
  have:n=0:=by simpa using h
  subst this;rw[fj];rfl
 |k+1,n,h=>by
  unfold abi;split
  ·rename_i h0;rw[h0,fj]
  ·rename_i h0;rw[qD h0,Ye (Nat.div_lt_of_lt_mul (by rw[axO]at h;omega))]
def ak6(neg:Bool)(M k:Nat)(e:Int):Rd:=if M%2^k=0/\M/2^k%2=1/\M/2^k<4294967296^24 then⟨neg,abi 24 (M/2^k),e+k⟩else⟨neg,av (M/2^tz M),e+tz M⟩
def bm(neg:Bool)(M:Nat)(e:Int):Rd:=if M=0 then aI else ak6 neg M (Nat.gcd M (2^40000)).log2 e
theorem rK{neg:Bool}{M:Nat}{e:Int}:bm neg M e=if M=0 then aI else⟨neg,av (M/2^tz M),e+tz M⟩:=by
 unfold bm;split
 ·rfl
 ·generalize Nat.log2 _=k;unfold ak6;split
  ·rename_i h0 h;obtain⟨h1,h2,h3⟩:=h;have e1:M=2^k*(M/2^k):=(Nat.mul_div_cancel' (Nat.dvd_of_mod_eq_zero h1)).symm;have e2:tz M=k:=by
    rw[e1,Jg _ (by omega),uA h2,axo]
   rw[e2,Ye h3]
  ·rfl
def Exq(e:Int):Prop:=-1000000<=e/\e<=1000000
theorem ng{neg}{m}{e}(hb:Lb m)(h1:m.length<=256)(he:Exq e):R F.dyadic_canonical [B neg,lm m,I e] []=some (ae (bm neg (ab m) e),[]):=by
 refine ax Jj rfl ?_;obtain⟨he1,he2⟩:=he;rw[rK];by_cases h0:ab m=0
 ·have hd:R F.dyadic_trimmed [lm m] []=some (lm [],[]):=by
   grind[Vj,fj]
  rw[if_pos h0];simp only[nE,uo,ae,ah,aI,go_sem,hd,axI,axB]
 have hn:=fun h=>h0 (nU.1 h);have hl:0< (av (ab m)).length:=by
  grind
 have hl2:=awX (dp m hb) h1;have hdb:Lb (av (ab m)):=aZ _;have e1:(((av (ab m)).length:Int)=0)=False:=ff;have ht:=Tj (k:=32*256) h0 (by
  have:=cG hb;have h3:4294967296^m.length<=4294967296^256:=axC (by decide) h1;omega)
 have hlow:=ak5 hdb (by omega) (by grind[aN]);rw[aN]at hlow;have hs:=ac9 (n:=(tz (ab m))) hdb hl2;rw[if_neg (by omega),aN,awY]at hs;have hq:av (ab m/2^tz (ab m))≠[]:=by
  intro h;have:=(sT h0).2;rw[nU.1 h]at this;omega
 have hq2:(av (ab m/2^tz (ab m))).length<=100000:=by
  have h5:(av (ab m/2^tz (ab m))).length<=m.length:=jF (axF (Nat.div_le_self _ _) (cG hb));omega
 have hc:=Ho hq hq2;have e2:IntKind.i64.wrap (e+(tz (ab m)))=e+(tz (ab m)):=by grind[i64_in]
 rw[if_neg h0];simp only[nE,uo,ae,ah,go_sem,Vj hb (axF h1 (by decide)),e1,hlow,hs,hc,PT,e2]
theorem wT{d}(h:vd d=true)(h0:d.m.length≠0):d.m.length<=256/\d.m.getD 0 0%2=1/\d.m.getD (d.m.length-1) 0≠0/\qF (af (ab d.m)) d.e=true:=by
 simp_all[vd,if_neg,awS,decide_eq_true_eq]
theorem AD{d}(h:vd d=true)(h0:d.m.length=0):d=aI:=by
 unfold vd at h;obtain⟨n,m,e⟩:=d;grind[aI]
theorem AE{n}{e}(h:qF n e=true)(h0:n≠0):n<=4096∧-16384<=e/\e<=16384/\n+e<=16384:=by
 simp_all[qF,Bool.or_eq_true,awS,decide_eq_true_eq]
theorem dM{d}(h:vd d=true)(_hb:Lb d.m):d.m.length<=256∧-16384<=d.e/\d.e<=16384/\af (ab d.m)<=4096:=by
 by_cases h0:d.m.length=0
 ·rw[AD h h0];exact⟨by decide,by decide,by decide,by decide⟩
 obtain⟨h1,h2,h3,h4⟩:=wT h h0;have hv:ab d.m≠0:=by
  have:=fu d.m 0;grind
 have hn:af (ab d.m)≠0:=by
  grind[eL]
 obtain⟨h5,h6,h7,h8⟩:=AE h4 hn;omega
def aL(d:Rd):Int:=if vd d=false\/d.m.length=0 then 0 else(af (ab d.m))+d.e
theorem BD{d}(ok:Ok0 d):R F.dyadic_Top [ae d] []=some (I (aL d),[]):=by
 refine ax UX rfl ?_;have e9:=ef ok;simp only[ae,ah]at e9;unfold aL;cases hv:vd d with
 |false=>
  rw[hv]at e9;rw[if_pos (Or.inl rfl)];simp only[sC,ze,ae,ah,go_sem,e9]
 |true=>
  rw[hv]at e9;by_cases a0:d.m.length=0
  ·have e1:((d.m.length:Int)=0)=True:=tt;rw[if_pos (Or.inr a0)];simp only[sC,ze,ae,ah,go_sem,e9,e1]
  ·have e1:((d.m.length:Int)=0)=False:=ff;rw[if_neg (fun h=>h.elim (fun h=>nomatch h) a0)];obtain⟨h1,h2,h3,h4⟩:=dM hv ok.lb;have e2:IntKind.i64.wrap ((af (ab d.m):Nat)+d.e)=(af (ab d.m):Nat)+d.e:=by grind[i64_in]
   simp only[sC,ze,ae,ah,go_sem,e9,e1,vK ok.lb (awX h1 (by decide)),e2]
theorem MG{d}(ok:Ok0 d):R F.dyadic_Bits [ae d] []=some (I (if vd d=true then(af (ab d.m))else 0),[]):=by
 refine ax SY rfl ?_;have e9:=ef ok;simp only[ae,ah]at e9;cases hv:vd d with
 |false=>
  rw[hv]at e9;simp only[vo,BZ,ae,ah,go_sem,e9]
 |true=>
  rw[hv]at e9;obtain⟨h1,h2,h3,h4⟩:=dM hv ok.lb;simp only[vo,BZ,ae,ah,go_sem,e9,vK ok.lb (awX h1 (by decide))]
theorem Gl{d}(ok:Ok0 d):R F.dyadic_Neg [ae d] []=some (ae (if vd d=false\/d.m.length=0 then aI else⟨!d.neg,d.m,d.e⟩),[]):=by
 refine ax UD rfl ?_;have e9:=ef ok;simp only[ae,ah]at e9;cases hv:vd d with
 |false=>
  rw[hv]at e9;rw[if_pos (Or.inl rfl)];simp only[sk,yM,ae,ah,aI,go_sem,e9]
 |true=>
  rw[hv]at e9;by_cases a0:d.m.length=0
  ·have e1:((d.m.length:Int)=0)=True:=tt;rw[if_pos (Or.inr a0)];simp only[sk,yM,ae,ah,aI,go_sem,e9,e1]
  ·have e1:((d.m.length:Int)=0)=False:=ff;rw[if_neg (fun h=>h.elim (fun h=>nomatch h) a0)];obtain⟨h1,h2,h3,h4⟩:=dM hv ok.lb;have hc:=Ho (m:=d.m) (fun h=>a0 (by grind)) (awX h1 (by decide));simp only[sk,yM,ae,ah,go_sem,e9,e1,hc]
theorem Ol{d}(ok:Ok0 d):R F.dyadic_Abs [ae d] []=some (ae (if vd d=false\/d.m.length=0 then aI else⟨false,d.m,d.e⟩),[]):=by
 refine ax U5 rfl ?_;have e9:=ef ok;simp only[ae,ah]at e9;cases hv:vd d with
 |false=>
  rw[hv]at e9;rw[if_pos (Or.inl rfl)];simp only[sG,zA,ae,ah,aI,go_sem,e9]
 |true=>
  rw[hv]at e9;by_cases a0:d.m.length=0
  ·have e1:((d.m.length:Int)=0)=True:=tt;rw[if_pos (Or.inr a0)];simp only[sG,zA,ae,ah,aI,go_sem,e9,e1]
  ·have e1:((d.m.length:Int)=0)=False:=ff;rw[if_neg (fun h=>h.elim (fun h=>nomatch h) a0)];obtain⟨h1,h2,h3,h4⟩:=dM hv ok.lb;have hc:=Ho (m:=d.m) (fun h=>a0 (by grind)) (awX h1 (by decide));simp only[sG,zA,ae,ah,go_sem,e9,e1,hc]
theorem CG{m:List Nat}(hb:Lb m)(h1:m.length<=256){k:Nat}(hk:k<=65536)(hl:(av (ab m*2^k)).length<=256):R F.dyadic_shifted [lm m,I k] []=some (lm (av (ab m*2^k)),[]):=by
 refine ax Mp rfl ?_;have hs:=ac7 (n:=(k:Nat)) hb h1;rw[if_neg (by omega),awY,kw,if_neg (by omega)]at hs;simp only[wm,Dq,go_sem,hs]
theorem aiw{neg:Bool}{m:List Nat}{e:Int}(hb:Lb m)(hl:m.length<4611686018427387904):R F.dyadic_Make [B neg,lm m,I e] []=some (if 256<m.length\/e< -32768\/32768<e then .tup [ae aI,I 1]
  else if qF (af (ab (bm neg (ab m) e).m)) (bm neg (ab m) e).e=true then .tup [ae (bm neg (ab m) e),I 0]else .tup [ae aI,I 9],[]):=by
 refine ax Ta rfl ?_;by_cases a1:256<m.length
 ·have e1:((256:Int)<m.length)=True:=tt;rw[if_pos (Or.inl a1)];simp only[mF,sF,ae,ah,aI,go_sem,e1]
 have e1:((256:Int)<m.length)=False:=ff;by_cases a2:e< -32768\/32768<e
 ·have e2:(decide (-32768<=e)&&decide (e<=32768))=false:=by
   grind
  rw[if_pos (Or.inr a2)];simp only[mF,sF,ae,ah,aI,go_sem,e1,Bc,e2]
 have e2:(decide (-32768<=e)&&decide (e<=32768))=true:=by
  grind
 rw[if_neg (fun h=>h.elim a1 a2)];have hc:=ng (neg:=neg) (e:=e) hb (by omega) ⟨by omega,by omega⟩;have hL:Lb (bm neg (ab m) e).m:=by
  rw[rK];split
  ·exact fun x hx=>nomatch hx
  grind[aZ]
 have hN:(bm neg (ab m) e).m.length<=100000:=by
  rw[rK];split
  ·exact axz _
  ·have h5:(av (ab m/2^tz (ab m))).length<=m.length:=jF (axF (Nat.div_le_self _ _) (cG hb));grind
 have hd:=CF hL hN;generalize bm neg (ab m) e=d at hc hd⊢;simp only[ae,ah]at hc hd;cases hv:qF (af (ab d.m)) d.e with
 |false=>
  rw[hv,if_neg (fun h=>nomatch h)]at hd;simp only[mF,sF,ae,ah,aI,go_sem,e1,Bc,e2,hc,hd]
 |true=>
  rw[hv,if_pos rfl]at hd;simp only[mF,sF,ae,ah,go_sem,e1,Bc,e2,hc,hd]
def mg(d:Rd):Nat:=ab d.m*2^ (d.e+16384).toNat
def zI(d:Rd):Int:=if d.neg=true then-(mg d:Int)else mg d
theorem afY{x y k:Nat}(hk:0<k):bY (x*k) (y*k)=bY x y:=by
 simp_all[bY,Nat.mul_lt_mul_right,if_pos,if_neg]
theorem Hp{x y:Nat}(h:af x<af y):x<y:=by
 have h1:=(bK (n:=x) (k:=af x)).1 (awQ _);have h2:=jy.1 h;omega
theorem dh{d:Rd}(h:vd d=true)(h0:d.m.length≠0):ab d.m≠0:=by
 obtain⟨h1,h2,h3,h4⟩:=wT h h0;have:=fu d.m 0;grind
theorem Kl{d:Rd}(h:vd d=true)(hb:Lb d.m)(h0:d.m.length≠0):(af (mg d):Int)=aL d+16384:=by
 obtain⟨h1,h2,h3,h4⟩:=dM h hb;unfold mg aL;rw[dq _ (dh h h0),if_neg (fun h'=>h'.elim (fun h''=>by grind) h0)];omega
theorem uE{d:Rd}{e:Int}(h1:-16384<=e)(h2:e<=d.e):mg d=ab d.m*2^ (d.e-e).toNat*2^ (e+16384).toNat:=by
 unfold mg;rw[axn,←axa];grind
theorem aT{n k:Nat}(h:af n<=32*k):(av n).length<=k:=by
 refine jF ?_;have:=bK.1 h;grind[Nat.pow_mul]
theorem abj{a b:Rd}(oa:Ok0 a)(ob:Ok0 b)(va:vd a=true)(vb:vd b=true)(na:a.m.length≠0)(nb:b.m.length≠0):R F.dyadic_compare [ae a,ae b] []=some (I (bY (mg a) (mg b)),[]):=by
 refine ax Mm rfl ?_;have ta:=BD oa;have tb:=BD ob;have ba:=Kl va oa.lb na;have bb:=Kl vb ob.lb nb;simp only[ae,ah]at ta tb;by_cases h1:aL a<aL b
 ·have h2:bY (mg a) (mg b)=-1:=by
   rw[bY,if_pos (Hp (by omega))]
  have e1:(aL a<aL b)=True:=tt h1;rw[h2];simp only[lJ,ry,ae,ah,go_sem,ta,tb,e1]
 have e1:(aL a<aL b)=False:=ff h1;by_cases h2:aL b<aL a
 ·have h3:bY (mg a) (mg b)=1:=by
   have:=Hp (x:=mg b) (y:=mg a) (by omega);rw[bY,if_neg (by omega),if_pos this]
  have e2:(aL b<aL a)=True:=tt h2;rw[h3];simp only[lJ,ry,ae,ah,go_sem,ta,tb,e1,e2]
 have e2:(aL b<aL a)=False:=ff h2;obtain⟨a1,a2,a3,a4⟩:=dM va oa.lb;obtain⟨b1,b2,b3,b4⟩:=dM vb ob.lb;obtain⟨e,hm⟩:∃e,(if b.e<a.e then b.e else a.e)=e:=⟨_,rfl⟩;have hea:e<=a.e/\e<=b.e/\(e=a.e\/e=b.e):=by
  omega
 obtain⟨m1,m2,m3⟩:=hea;have ka:IntKind.i64.wrap (a.e-e)=(((a.e-e).toNat:Nat):Int):=wi;have kb:IntKind.i64.wrap (b.e-e)=(((b.e-e).toNat:Nat):Int):=wi;have hta:aL a=(af (ab a.m):Nat)+a.e:=by
  simp_all[aL,if_neg]
 have htb:aL b=(af (ab b.m):Nat)+b.e:=by
  simp_all[aL,if_neg]
 have la:(av (ab a.m*2^ (a.e-e).toNat)).length<=256:=aT (by
  grind[dq,dh])
 have lb:(av (ab b.m*2^ (b.e-e).toNat)).length<=256:=aT (by
  grind[dq,dh])
 have sa:=CG oa.lb a1 (k:=(a.e-e).toNat) (by omega) la;have sb:=CG ob.lb b1 (k:=(b.e-e).toNat) (by omega) lb;have hc:=zE (aZ (ab a.m*2^ (a.e-e).toNat)) (aZ (ab b.m*2^ (b.e-e).toNat)) (awX la (by decide)) (awX lb (by decide));rw[aN,aN,←afY (k:=2^ (e+16384).toNat) (axb _),←uE (by omega) m1,←uE (by omega) m2]at hc;simp only[lJ,ry,ae,ah,go_sem,ta,tb,e1,e2,hm,ka,kb,sa,sb,hc]
def cp(x y:Int):Int:=if x<y then-1 else if y<x then 1 else 0
def cO(d:Rd):Int:=if d.m.length=0 then 0 else if d.neg=true then-1 else 1
theorem Yf{d:Rd}(h0:d.m.length=0):mg d=0:=by
 unfold mg;rw[List.length_eq_zero_iff.1 h0];exact Nat.zero_mul _
theorem Gm{d:Rd}(h:vd d=true)(h0:d.m.length≠0):0<mg d:=
 Nat.mul_pos (Nat.pos_of_ne_zero (dh h h0)) (axb _)
theorem DP(d:Rd)(h:vd d=true):(cO d=0/\zI d=0/\d.m.length=0)\/(cO d=-1/\zI d=-(mg d:Int)/\0<mg d/\d.m.length≠0)\/(cO d=1/\zI d=mg d/\0<mg d/\d.m.length≠0):=by
 unfold cO zI;by_cases h0:d.m.length=0
 ·grind[Yf]
 ·have:=Gm h h0;grind
theorem DQ{d:Rd}(ok:Ok0 d)(hv:vd d=true):R F.dyadic_Sign [ae d] []=some (I (cO d),[]):=by
 simp_all[PW,cO,if_pos,if_neg]
theorem qG{a b:Rd}(oa:Ok0 a)(ob:Ok0 b):R F.dyadic_Cmp [ae a,ae b] []=some (I (if vd a=true/\vd b=true then cp (zI a) (zI b)else 0),[]):=by
 refine ax UE rfl ?_;have va:=ef oa;have vb:=ef ob;simp only[ae,ah]at va vb;cases ha:vd a with
 |false=>
  rw[ha]at va;simp only[jB,mO,ae,ah,go_sem,va]
 |true=>
 rw[ha]at va;cases hb:vd b with
 |false=>
  rw[hb]at vb;simp only[jB,mO,ae,ah,go_sem,va,vb]
 |true=>
 rw[hb]at vb;have sa:=DQ oa ha;have sb:=DQ ob hb;have ca:=DP a ha;have cb:=DP b hb;simp only[ae,ah]at sa sb;by_cases h1:cO a<cO b
 ·have e1:(cO a<cO b)=True:=tt h1;have e2:cp (zI a) (zI b)=-1:=if_pos (by omega);rw[e2];simp only[jB,mO,ae,ah,go_sem,va,vb,sa,sb,e1]
 have e1:(cO a<cO b)=False:=ff h1;by_cases h2:cO b<cO a
 ·have e2:(cO b<cO a)=True:=tt h2;have e3:cp (zI a) (zI b)=1:=by rw[cp,if_neg (by omega),if_pos (by omega)]
  rw[e3];simp only[jB,mO,ae,ah,go_sem,va,vb,sa,sb,e1,e2]
 have e2:(cO b<cO a)=False:=ff h2;by_cases h3:cO a=0
 ·have e3:(cO a=0)=True:=tt h3;have e4:cp (zI a) (zI b)=0:=by rw[cp,if_neg (by omega),if_neg (by omega)]
  rw[e4];simp only[jB,mO,ae,ah,go_sem,va,vb,sa,sb,e1,e2,e3]
 have e3:(cO a=0)=False:=ff h3;have hc:=abj oa ob ha hb (by omega) (by omega);simp only[ae,ah]at hc;have e4:IntKind.i64.wrap (cO a*bY (mg a) (mg b))=cp (zI a) (zI b):=by
  have hp:cO a*bY (mg a) (mg b)=cp (zI a) (zI b):=by
   rcases ca with ca|ca|ca
   ·omega
   ·rw[ca.1,ca.2.1];unfold bY cp;omega
   ·rw[ca.1,ca.2.1];unfold bY cp;omega
  rw[hp];unfold cp;split
  ·decide
  ·split<;>decide
 simp only[jB,mO,ae,ah,go_sem,va,vb,sa,sb,e1,e2,e3,hc,e4]
theorem Jp(x y:Nat):af (x*y)<=af x+af y:=by
 rw[bK,axa];exact Nat.mul_lt_mul'' (bK.1 (awQ _)) (bK.1 (awQ _))
theorem yc(neg:Bool)(M:Nat)(e:Int):Lb (bm neg M e).m:=by
 rw[rK];split
 ·exact fun x hx=>nomatch hx
 grind[aZ]
theorem AF{neg:Bool}{M:Nat}{e:Int}{k:Nat}(h:af M<=32*k):(bm neg M e).m.length<=k:=by
 rw[rK];split
 ·exact axz _
 ·refine aT ?_;grind[kl]
def Hq(d:Rd):AV:=if qF (af (ab d.m)) d.e=true then .tup [ae d,I 0]else .tup [ae aI,I 9]
def Tl(a b:Rd):AV:=if vd a=true/\vd b=true then if a.m.length=0\/b.m.length=0 then .tup [ae aI,I 0]else if 4096<af (ab a.m)+af (ab b.m)-1 then .tup [ae aI,I 9]else Hq (bm (a.neg !=b.neg) (ab a.m*ab b.m) (a.e+b.e))else .tup [ae aI,I 1]
theorem zF(a b:Bool):(true != (a==b))=(a !=b):=by cases a<;>cases b<;>rfl
theorem aix{a b:Rd}(oa:Ok0 a)(ob:Ok0 b):R F.dyadic_Mul [ae a,ae b] []=some (Tl a b,[]):=by
 refine ax UJ rfl ?_;unfold Tl;have va:=ef oa;have vb:=ef ob;simp only[ae,ah]at va vb;cases ha:vd a with
 |false=>
  rw[ha]at va;simp only[ie,kH,ae,ah,aI,go_sem,va]
 |true=>
 rw[ha]at va;cases hb:vd b with
 |false=>
  rw[hb]at vb;simp only[ie,kH,ae,ah,aI,go_sem,va,vb]
 |true=>
 rw[hb]at vb;rw[if_pos ⟨rfl,rfl⟩];by_cases a0:a.m.length=0
 ·have e1:((a.m.length:Int)=0)=True:=tt;rw[if_pos (Or.inl a0)];simp only[ie,kH,ae,ah,aI,go_sem,va,vb,e1]
 have e1:((a.m.length:Int)=0)=False:=ff;by_cases b0:b.m.length=0
 ·have e2:((b.m.length:Int)=0)=True:=tt;rw[if_pos (Or.inr b0)];simp only[ie,kH,ae,ah,aI,go_sem,va,vb,e1,e2]
 have e2:((b.m.length:Int)=0)=False:=ff;rw[if_neg (fun h=>h.elim a0 b0)];obtain⟨a1,a2,a3,a4⟩:=dM ha oa.lb;obtain⟨b1,b2,b3,b4⟩:=dM hb ob.lb;have za:=vK oa.lb (awX a1 (by decide));have zb:=vK ob.lb (awX b1 (by decide));have pa:=eL (dh ha a0);have w1:IntKind.i64.wrap (((af (ab a.m):Nat):Int)+(af (ab b.m):Nat))=((af (ab a.m)+af (ab b.m):Nat):Int):=wi;have w2:IntKind.i64.wrap (((af (ab a.m)+af (ab b.m):Nat):Int)-1)=((af (ab a.m)+af (ab b.m)-1:Nat):Int):=wi;by_cases c0:4096<af (ab a.m)+af (ab b.m)-1
 ·have e3:((4096:Int)< ((af (ab a.m)+af (ab b.m)-1:Nat):Int))=True:=tt;rw[if_pos c0];simp only[ie,kH,ae,ah,aI,go_sem,va,vb,e1,e2,za,zb,w1,w2,e3]
 have e3:((4096:Int)< ((af (ab a.m)+af (ab b.m)-1:Nat):Int))=False:=ff;rw[if_neg c0];have hp:=Jp (ab a.m) (ab b.m);have hl:(av (ab a.m*ab b.m)).length<=129:=aT (by omega);have hm:=ac6 oa.lb ob.lb a1 b1;rw[kw,if_neg (by omega)]at hm;have w3:IntKind.i64.wrap (a.e+b.e)=a.e+b.e:=i64_in _ ⟨by omega,by omega⟩;have hc:=ng (neg:=a.neg !=b.neg) (e:=a.e+b.e) (aZ (ab a.m*ab b.m)) (awX hl (by decide)) ⟨by omega,by omega⟩;rw[aN]at hc;have hd:=CF (yc (a.neg !=b.neg) (ab a.m*ab b.m) (a.e+b.e)) (awX (AF (k:=129) (by omega)) (by decide));unfold Hq;generalize bm (a.neg !=b.neg) (ab a.m*ab b.m) (a.e+b.e)=d at hc hd⊢;simp only[ae,ah]at hc hd;cases hv:qF (af (ab d.m)) d.e with
 |false=>
  rw[hv,if_neg (fun h=>nomatch h)]at hd;rw[if_neg (fun h=>nomatch h)];simp only[ie,kH,ae,ah,aI,go_sem,va,vb,e1,e2,za,zb,w1,w2,w3,e3,hm,zF,hc,hd]
 |true=>
  rw[hv,if_pos rfl]at hd;rw[if_pos rfl];simp only[ie,kH,ae,ah,go_sem,va,vb,e1,e2,za,zb,w1,w2,w3,e3,hm,zF,hc,hd]
theorem Om{p:Int}:R F.round_precise [I p] []=some (B (decide (8<=p)&&decide (p<=512)),[]):=by
 refine ax Od rfl ?_;by_cases a1:¬ (8<=p)
 ·simp only[rF,zk,go_sem,a1]
 replace a1:=Decidable.not_not.1 a1
 simp only[rF,zk,go_sem,a1]
theorem Hr{m:List Nat}(hb:Lb m):af (ab m)<=32*m.length:=by
 rw[bK,Nat.pow_mul];exact cG hb
def wU(m:List Nat)(e:Int)(more:Bool):AV:=.agg [lm m,I e,B more]
theorem aoa{d:Rd}:R F.round_of [ae d] []=some (wU d.m d.e false,[]):=by
 refine ax abb rfl ?_;simp only[FC,NU,ae,ah,wU,go_sem]
theorem AG{m:List Nat}(hb:Lb m)(h1:m.length<=256){k:Nat}(hk:k<=65536)(hl:(av (ab m*2^k)).length<=256):R F.round_shl [lm m,I k] []=some (lm (av (ab m*2^k)),[]):=by
 refine ax XA rfl ?_;have hs:=ac7 (n:=(k:Nat)) hb h1;rw[if_neg (by omega),awY,kw,if_neg (by omega)]at hs;simp only[Dw,LH,go_sem,hs]
theorem adb{x y:Nat}:bY x y=0↔x=y:=by
 unfold bY;constructor
 ·intro h;split at h
  ·exact nomatch h
  ·split at h
   ·exact nomatch h
   ·omega
 ·intro h;rw[if_neg (by omega),if_neg (by omega)]
theorem afZ{x n:Nat}:x/2^ (min n (af x))=x/2^n/\(x/2^ (min n (af x))*2^ (min n (af x))=x↔x%2^n=0):=by
 by_cases h:n<=af x
 ·rw[axP h];refine⟨rfl,?_⟩;have:=axS x (2^n);rw[axf]at this;omega
 ·have hb:x<2^af x:=bK.1 (awQ _);have hn:x<2^n:=bK.1 (by omega);rw[Nat.min_eq_right (by omega),Nat.div_eq_of_lt hb,Nat.div_eq_of_lt hn,axK hn,Nat.zero_mul];exact⟨rfl,⟨fun h=>h.symm,fun h=>h.symm⟩⟩
theorem Yg{m:List Nat}(hb:Lb m)(h1:m.length<=256){n:Nat}(hn:n<4611686018427387904):R F.round_shr [lm m,I n] []=some (.tup [lm (av (ab m/2^n)),B (decide (ab m%2^n≠0))],[]):=by
 refine ax XC rfl ?_;have hB:=Gk hb (awX h1 (by decide));have hlen:=Hr hb;obtain⟨q1,q2⟩:=afZ (x:=ab m) (n:=n);generalize hk:min n (af (ab m))=k at q1 q2;have k1:k<=8192:=by omega
 have hs:=ac9 (n:=(k:Nat)) hb h1;rw[if_neg (by omega),awY,q1]at hs;rw[q1]at q2;have hle:ab m/2^n*2^k<=ab m:=by
  rw[←q1];exact Nat.div_mul_le_self _ _
 have l1:(av (ab m/2^n)).length<=m.length:=jF (axF (Nat.div_le_self _ _) (cG hb));have l2:(av (ab m/2^n*2^k)).length<=m.length:=jF (axF hle (cG hb));have hl:=AG (aZ (ab m/2^n)) (by omega) (k:=k) (by omega) (by rw[aN];omega);rw[aN]at hl;have hc:=zE (aZ (ab m/2^n*2^k)) hb (by omega) (by omega);rw[aN]at hc;have hz:decide (ab m%2^n≠0)=!decide (bY (ab m/2^n*2^k) (ab m)=0):=by
  rw[←decide_not,decide_eq_decide,ne_eq,not_congr (adb.trans q2)]
 rw[hz];generalize bY (ab m/2^n*2^k) (ab m)=c at hc⊢;by_cases h:af (ab m)<n
 ·have e2:k=af (ab m):=by omega
  have e1:((k:Int)<n)=True:=tt;rw[←e2]at hB;simp only[zo,FE,go_sem,hB,e1,hs,hl,hc]
 ·have e1:(((af (ab m):Nat):Int)<n)=False:=ff;have e2:k=n:=by omega
  subst e2;simp only[zo,FE,go_sem,hB,e1,hs,hl,hc]
def DR(l:List Rd):List (List AV):=l.map ah
def BE(l:List Rd):AV:=.sl 3 (DR l)
@[go_sem] theorem aur(l:List Rd):(DR l).length=l.length:=by simp[DR]
theorem aiy{l:List Rd}{i:Int}{n:Nat}{d:Rd}(hi:i=n)(h:l[n]?=some d):aW (DR l) i=some (.ipt (ah d)):=by
 grind[aW,DR]
theorem abk(p:Int)(l:List Rd)(ok:∀d∈l,Ok0 d)(h2:l.length<=100000):∀ (k i:Nat),i+k=l.length->∀ (s:ak) (h:ac),s 0=I p->s 7=BE l->s 8=I l.length->s 9=I i->
  ∃hh,aj 0 [0] (au (ai R (az false) mW) [0,7,8,9] [] s h)=if((l.drop i).all vd)=true then some (.normal,⟨upd (fun _=>.any) 0 (I p),fun _=>.dead⟩)else some (.ret,⟨upd (fun _=>.any) 4 (I 1),hh⟩):=by
 intro k;induction k with
 |zero=>
  intro i hi s h h0 h7 h8 h9;have e1:((i:Int)<l.length)=False:=ff;rw[axi (by omega),ag,List.all_nil,if_pos rfl];refine⟨fun _=>.dead,?_⟩;simp only[mW,go_sem,h0,h7,h8,h9,e1]
 |succ k ih=>
  intro i hi s h h0 h7 h8 h9;have hlt:i<l.length:=by omega
  have e1:((i:Int)<l.length)=True:=tt;have e2:aW (DR l) (i:Int)=some (.ipt (ah l[i])):=aiy rfl (List.getElem?_eq_getElem hlt);have e5:IntKind.i64.wrap ((i:Int)+1)=((i+1:Nat):Int):=wi;have e3:=ef (ok l[i] (axr hlt));rw[axh hlt,axu,ag];have ih':=ih (i+1) (by omega);generalize l[i]=d at e2 e3⊢;simp only[ae]at e3;simp only[ah]at e2 e3;cases hv:vd d with
  |false=>
   rw[hv]at e3;refine⟨?hh,?_⟩;rotate_left;simp only[mW,go_sem,h0,h7,h8,h9,BE,e1,e2,e3];rfl
  |true=>
   rw[hv]at e3;simp only[mW,go_sem,h0,h7,h8,h9,BE,e1,e2,e3,e5];exact ih' _ _ rfl rfl rfl rfl
def aY(p:Int)(l:List Rd):Int:=if l.all vd=true then(if 8<=p/\p<=512 then 0 else 2)else 1
theorem AH{p:Int}{l:List Rd}(ok:∀d∈l,Ok0 d)(h2:l.length<=100000):R F.round_fault [I p,BE l] []=some (I (aY p l),[]):=by
 refine ax SX rfl ?_;have h3:=abk p l ok h2 l.length 0 (awP _);simp only[ax0,axB]at h3;unfold aY;cases ha:l.all vd with
 |false=>
  rw[ha]at h3;simp only[qp,xi,go_sem,BE];rw[(h3 _ _ rfl rfl rfl rfl).choose_spec];simp only[go_sem]
 |true=>
  rw[ha]at h3;by_cases hp:8<=p/\p<=512
  ·have e1:(decide (8<=p)&&decide (p<=512))=true:=by grind
   have e2:=Om (p:=p);rw[e1]at e2;rw[if_pos hp];simp only[qp,xi,go_sem,BE];rw[(h3 _ _ rfl rfl rfl rfl).choose_spec];simp only[go_sem,e2]
  ·have e1:(decide (8<=p)&&decide (p<=512))=false:=by
    grind
   have e2:=Om (p:=p);rw[e1]at e2;rw[if_neg hp];simp only[qp,xi,go_sem,BE];rw[(h3 _ _ rfl rfl rfl rfl).choose_spec];simp only[go_sem,e2]
noncomputable def eG:Cmd:=.seq (.seq (.ops [1,2,6,8,9,55] [cm 52 2,cm 53 52,cg 54 53 true (.mv (.t 10)),co 55 (.pick (.t 53) (.t 54) (.c (.v (.bool false))))]) (.cond (.t 55) (.ops [1,2,6,8,9] [cm 57 9,⟨(some 58),none,.buildSl 1 [(.v (.int .u32 0))] 1 [(0,(.c (.v (.int .u32 1))))]⟩,⟨(some 59),none,.call (.c (.fn F.natural_Add [] [])) [(.t 57),(.t 58)]⟩,cm 56 59,co 60 (.ext 0 (.t 56)),co 61 (.ext 1 (.t 56)),cm 9 60]) (.skip))) (.seq (.seq (.ops [1,2,6,8,9,66] [cm 62 9,⟨(some 63),none,.call (.c (.fn F.natural_Bits [] [])) [(.t 62)]⟩,cm 64 8,co 65 (.bin .add (.t 63) (.t 64)),co 66 (.bin .gtr (.t 65) (.c (.v (.int .i64 16384))))]) (.cond (.t 66) (.seq (.seq (.ops [1,6,67] [cm 67 2]) (.cond (.t 67) (.seq (.ops [6,7] [co 68 (.build [(.v (.bool false)),.emp,(.v (.int .i64 0))] []),⟨none,none,.store 3 (.t 6) (.t 68)⟩,co 7 (.mv (.c (.v (.int .i64 9))))]) (.ret)) (.skip))) (.seq (.ops [1,6,9] [⟨(some 70),none,.buildSl 1 [(.v (.int .u32 0))] 1 [(0,(.c (.v (.int .u32 1))))]⟩,cm 71 1,⟨(some 72),none,.call (.c (.fn F.round_shl [] [])) [(.t 70),(.t 71)]⟩,⟨(some 73),none,.buildSl 1 [(.v (.int .u32 0))] 1 [(0,(.c (.v (.int .u32 1))))]⟩,⟨(some 74),none,.call (.c (.fn F.natural_Sub [] [])) [(.t 72),(.t 73)]⟩,cm 69 74,co 75 (.ext 0 (.t 69)),co 76 (.ext 1 (.t 69)),cm 9 75]) (.ops [6,8,9] [cm 77 1,co 78 (.bin .sub (.c (.v (.int .i64 16384))) (.t 77)),cm 8 78]))) (.skip))) (.seq (.ops [6,7] [cm 79 9,cm 80 8,⟨(some 81),none,.call (.c (.fn F.dyadic_Make [] [])) [(.c (.v (.bool false))),(.t 79),(.t 80)]⟩,co 82 (.ext 0 (.t 81)),co 83 (.ext 1 (.t 81)),⟨none,none,.store 3 (.t 6) (.t 82)⟩,cm 7 83]) (.ret)))
theorem xL:LI=.seq (.ops [1,2,3,6] [⟨(some 3),none,.box 3 (.t 0)⟩,⟨(some 6),none,.alloc [(.v (.bool false)),.emp,(.v (.int .i64 0))]⟩,co 7 (.mv (.c (.v (.int .i64 0))))]) (.seq (.dops [1,2,3,6,8] [co 13 (.fadr 1 (.t 3)),⟨(some 14),none,.load 1 false (.t 13)⟩,co 15 (.fadr 0 (.t 3)),⟨(some 16),none,.load 1 false (.t 15)⟩,⟨(some 17),none,.call (.c (.fn F.natural_Bits [] [])) [(.t 16)]⟩,co 18 (.bin .add (.t 14) (.t 17)),cm 19 1,co 20 (.bin .sub (.t 18) (.t 19)),co 21 (.mnx false (.t 20) [(.c (.v (.int .i64 (-16384))))]),cm 8 21] [(1,4)]) (.seq (.dops [1,2,3,6,8,10] [co 22 (.fadr 0 (.t 3)),⟨(some 23),none,.load 1 false (.t 22)⟩,co 24 (.fadr 2 (.t 3)),⟨(some 25),none,.load 1 false (.t 24)⟩,cm 9 23,cm 10 25] []) (.seq (.seq (.ops [1,2,3,6,8,10,29] [co 26 (.fadr 1 (.t 3)),⟨(some 27),none,.load 1 false (.t 26)⟩,cm 28 8,co 29 (.bin .geq (.t 27) (.t 28))]) (.cond (.t 29) (.ops [1,2,6,8,9,10] [co 30 (.fadr 0 (.t 3)),⟨(some 31),none,.load 1 false (.t 30)⟩,co 32 (.fadr 1 (.t 3)),⟨(some 33),none,.load 1 false (.t 32)⟩,cm 34 8,co 35 (.bin .sub (.t 33) (.t 34)),⟨(some 36),none,.call (.c (.fn F.round_shl [] [])) [(.t 31),(.t 35)]⟩,cm 9 36]) (.seq (.ops [1,2,6,8,10,11,12] [co 38 (.fadr 0 (.t 3)),⟨(some 39),none,.load 1 false (.t 38)⟩,cm 40 8,co 41 (.fadr 1 (.t 3)),⟨(some 42),none,.load 1 false (.t 41)⟩,co 43 (.bin .sub (.t 40) (.t 42)),⟨(some 44),none,.call (.c (.fn F.round_shr [] [])) [(.t 39),(.t 43)]⟩,cm 37 44,co 45 (.ext 0 (.t 37)),co 46 (.ext 1 (.t 37)),cm 11 45,cm 12 46]) (.ops [1,2,6,8,9,10] [cm 47 11,cm 48 10,cm 49 48,cg 50 49 false (.mv (.t 12)),co 51 (.pick (.t 49) (.c (.v (.bool true))) (.t 50)),cm 9 47,cm 10 51])))) eG))):=rfl
def fk(M:Nat)(e:Int)(p:Int):Int:=if e+(af M:Nat)-p< -16384 then-16384 else e+(af M:Nat)-p
def qH(M:Nat)(e:Int)(more:Bool)(u:Int):Nat×Bool:=if u<=e then(M*2^ (e-u).toNat,more)else(M/2^ (u-e).toNat,more||decide (M%2^ (u-e).toNat≠0))
def mh(up:Bool)(q:Nat×Bool):Nat:=if(up&&q.2)=true then q.1+1 else q.1
def CH(q:Nat)(u:Int):AV:=Hq (bm false q u)
def Vl(p:Int)(up:Bool)(q:Nat)(u:Int):AV:=if 16384< (af q:Nat)+u then(if up=true then .tup [ae aI,I 9]else CH (2^p.toNat-1) (16384-p))else CH q u
theorem Yh{q:Nat}{u:Int}(hq:af q<=8192)(h1:-32768<=u)(h2:u<=32768):R F.dyadic_Make [B false,lm (av q),I u] []=some (CH q u,[]):=by
 have hl:(av q).length<=256:=aT (by omega);rw[aiw (aZ q) (axF hl (by decide)),if_neg (by omega),aN];rfl
theorem adc{q:Nat}(hq:af q<=8000):R F.natural_Add [lm (av q),lm [1]] []=some (.tup [lm (av (q+1)),I 0],[]):=by
 have hl:(av q).length<=250:=aT (by omega);have h1:Lb [1]:=fun x hx=>by
  grind
 have h2:af (q+1)<=8001:=MF hq;have hl2:(av (q+1)).length<=256:=aT (by omega);rw[acZ (aZ q) h1 (by omega) (by decide),aN];show some (kw (q+1),[])=_
 simp_all[kw,if_neg]
theorem Yi:ab [1]=1:=rfl
theorem ade:Lb [1]:=fun x hx=>by
 grind
theorem ak8(n:Nat)(hn:n<=1000):R F.round_shl [lm [1],I (n:Nat)] []=some (lm (av (2^n)),[])/\R F.natural_Sub [lm (av (2^n)),lm [1]] []=some (.tup [lm (av (2^n-1)),I 0],[]):=by
 have hb:af (2^n)<=n+1:=by
  simp_all[bK,Nat.pow_lt_pow_right,Nat.lt_succ_self]
 have h1:(av (2^n)).length<=256:=aT (by omega);have h2:=AG ade (by decide) (k:=n) (by omega) (by simp_all[Yi,Nat.one_mul]);have h3:=ac1 (aZ (2^n)) ade h1 (by decide);have h4:0<2^n:=axb n;have h5:af (2^n-1)<=n:=by
  rw[bK];omega
 have h6:(av (2^n-1)).length<=256:=aT (by omega)
 simp_all[aN,Yi,if_neg,kw]
theorem DS:AV.sl 1 [[AV.v (.int .u32 1)]]=lm [1]:=rfl
theorem MH{n:Nat}{u:Int}{up more:Bool}{q:Nat}(hp:8<=n/\n<=512)(hq:af q<=7000)(hu:-16384<=u/\u<=60000)(s:ak)(z:Ob)
  (h1:s 1=I (n:Nat)) (h2:s 2=B up) (h6:s 6=.ref 6 none 0 0 0) (h8:s 8=I u) (h9:s 9=lm (av q)) (h10:s 10=B more):
  gZ false [[.o 0 [],.o 2 [],.o 0 []],[]] [.cell 6 3 true,.t 7] 0 (ai R (az false) eG s (upd (upd (fun _=>.dead) 3 z) 6 (.bx [.v (.bool false),.emp,.v (.int .i64 0)])))=some (Vl (n:Nat) up (mh up (q,more)) u,[]):=by
 have hi:=adc (q:=q) (by omega);obtain⟨t1,t2⟩:=ak8 n (by omega);have hb:af (mh up (q,more))<=7001:=by
  unfold mh;split
  ·exact MF hq
  grind
 have hB:=Gk (aZ (mh up (q,more))) (awX (aT (k:=256) (by omega)) (by decide));rw[aN]at hB;have w1:IntKind.i64.wrap (((af (mh up (q,more)):Nat):Int)+u)=((af (mh up (q,more)):Nat):Int)+u:=i64_in _ ⟨by omega,by omega⟩;have w2:IntKind.i64.wrap (16384- (n:Int))=16384- (n:Int):=i64_in _ ⟨by omega,by omega⟩;have hm2:R F.dyadic_Make [B false,lm (av (2^n-1)),I (16384- (n:Int))] []=some (CH (2^n-1) (16384- (n:Int)),[]):=Yh (afU (by omega)) (by omega) (by omega);unfold Vl;by_cases ho:16384< ((af (mh up (q,more)):Nat):Int)+u
 ·have e1:(16384< ((af (mh up (q,more)):Nat):Int)+u)=True:=tt ho;rw[if_pos ho,awY];clear ho hb;cases up with
  |false=>
   simp only[mh,awU,if_neg awW]at hB w1 e1⊢;unfold CH Hq at hm2⊢;generalize bm false (2^n-1) (16384- (n:Int))=dd at hm2⊢;simp only[ae,ah]at hm2;cases hv:qF (af (ab dd.m)) dd.e with
   |true=>
    rw[hv]at hm2;rw[if_pos rfl]at hm2⊢;simp only[eG,ae,ah,go_sem,h1,h2,h6,h8,h9,h10,hB,w1,e1,w2,t1,t2,DS,hm2]
   |false=>
    rw[hv]at hm2;simp only[eG,ae,ah,aI,go_sem,h1,h2,h6,h8,h9,h10,hB,w1,e1,w2,t1,t2,DS,hm2]
  |true=>
   cases more with
   |false=>
    simp only[mh,axx,if_neg awW]at hB w1 e1⊢;simp only[eG,ae,ah,aI,go_sem,h1,h2,h6,h8,h9,h10,hB,w1,e1]
   |true=>
    simp only[mh,Bool.and_true,if_true]at hB w1 e1⊢;simp only[eG,ae,ah,aI,go_sem,h1,h2,h6,h8,h9,h10,hB,w1,e1,hi,DS]
 ·have e1:(16384< ((af (mh up (q,more)):Nat):Int)+u)=False:=ff ho;rw[if_neg ho];have hm:=Yh (q:=mh up (q,more)) (u:=u) (by omega) (by omega) (by omega);clear ho hb;cases up with
  |false=>
   simp only[mh,awU,if_neg awW]at hB w1 e1 hm⊢;unfold CH Hq at hm⊢;generalize bm false q u=dd at hm⊢;simp only[ae,ah]at hm;cases hv:qF (af (ab dd.m)) dd.e with
   |true=>
    rw[hv]at hm;rw[if_pos rfl]at hm⊢;simp only[eG,ae,ah,go_sem,h1,h2,h6,h8,h9,h10,hB,w1,e1,hm]
   |false=>
    rw[hv]at hm;simp only[eG,ae,ah,aI,go_sem,h1,h2,h6,h8,h9,h10,hB,w1,e1,hm]
  |true=>
   cases more with
   |false=>
    simp only[mh,axx,if_neg awW]at hB w1 e1 hm⊢;unfold CH Hq at hm⊢;generalize bm false q u=dd at hm⊢;simp only[ae,ah]at hm;cases hv:qF (af (ab dd.m)) dd.e with
    |true=>
     rw[hv]at hm;rw[if_pos rfl]at hm⊢;simp only[eG,ae,ah,go_sem,h1,h2,h6,h8,h9,h10,hB,w1,e1,hm]
    |false=>
     rw[hv]at hm;simp only[eG,ae,ah,aI,go_sem,h1,h2,h6,h8,h9,h10,hB,w1,e1,hm]
   |true=>
    simp only[mh,Bool.and_true,if_true]at hB w1 e1 hm⊢;unfold CH Hq at hm⊢;generalize bm false (q+1) u=dd at hm⊢;simp only[ae,ah]at hm;cases hv:qF (af (ab dd.m)) dd.e with
    |true=>
     rw[hv]at hm;rw[if_pos rfl]at hm⊢;simp only[eG,ae,ah,go_sem,h1,h2,h6,h8,h9,h10,hB,w1,e1,hi,DS,hm]
    |false=>
     rw[hv]at hm;simp only[eG,ae,ah,aI,go_sem,h1,h2,h6,h8,h9,h10,hB,w1,e1,hi,DS,hm]
theorem ak9{M:List Nat}(hb:Lb M)(hl:M.length<=256){e:Int}{n:Nat}{more up:Bool}(he:-40000<=e/\e<=40000)(hp:8<=n/\n<=512):R F.round_cut [wU M e more,I (n:Nat),B up] []=some (Vl (n:Nat) up (mh up (qH (ab M) e more (fk (ab M) e (n:Nat)))) (fk (ab M) e (n:Nat)),[]):=by
 refine ax XD rfl ?_;have hB:=Gk hb (awX hl (by decide));have hlen:=Hr hb;have w1:IntKind.i64.wrap (e+(af (ab M):Nat))=e+(af (ab M):Nat):=i64_in _ ⟨by omega,by omega⟩;have w2:IntKind.i64.wrap (e+(af (ab M):Nat)- (n:Nat))=e+(af (ab M):Nat)- (n:Nat):=i64_in _ ⟨by omega,by omega⟩;obtain⟨u,hu⟩:∃u,fk (ab M) e (n:Nat)=u:=⟨_,rfl⟩;rw[hu];unfold fk at hu;unfold qH;by_cases hc:u<=e
 ·have e1:(u<=e)=True:=tt hc;rw[if_pos hc];have w3:IntKind.i64.wrap (e-u)=(((e-u).toNat:Nat):Int):=wi;have hq:af (ab M*2^ (e-u).toNat)<=7000:=by
   grind[dq]
  by_cases h64:(e-u).toNat<=65536
  ·have hs:=AG hb (by omega) (k:=(e-u).toNat) h64 (aT (by omega));simp only[uz,xL,wU,go_sem,hB,w1,w2,hu,e1,w3,hs];exact MH hp hq (by omega) _ _ rfl rfl rfl rfl rfl rfl
  omega
 ·have e1:(u<=e)=False:=ff hc;rw[if_neg hc];have w3:IntKind.i64.wrap (u-e)=(((u-e).toNat:Nat):Int):=wi;have hs:=Yg hb (by omega) (n:=(u-e).toNat) (by omega);have hq:af (ab M/2^ (u-e).toNat)<=7000:=by
   grind[kl]
  cases more with
  |false=>
   rw[axY];simp only[uz,xL,wU,go_sem,hB,w1,w2,hu,e1,w3,hs];exact MH hp hq (by omega) _ _ rfl rfl rfl rfl rfl rfl
  |true=>
   rw[axQ];simp only[uz,xL,wU,go_sem,hB,w1,w2,hu,e1,w3,hs];exact MH hp hq (by omega) _ _ rfl rfl rfl rfl rfl rfl
def cH(d:Rd):Rd×Int:=if qF (af (ab d.m)) d.e=true then(d,0)else(aI,9)
def th(p:Int)(up:Bool)(q:Nat)(u:Int):Rd×Int:=if 16384< (af q:Nat)+u then(if up=true then(aI,9)else cH (bm false (2^p.toNat-1) (16384-p)))else cH (bm false q u)
def rV(r:Rd×Int):AV:=.tup [ae r.1,I r.2]
theorem Km(d:Rd):Hq d=rV (cH d):=by
 unfold Hq cH;split<;>rfl
theorem aiz(p:Int)(up:Bool)(q:Nat)(u:Int):Vl p up q u=rV (th p up q u):=by
 unfold Vl th CH;split
 ·split
  ·rfl
  grind[Km]
 grind[Km]
theorem Vm(n:Nat):af (2^n-1)<=n:=by
 rw[bK];grind
theorem aiA(p:Int)(up:Bool)(q:Nat)(u:Int):Lb (th p up q u).1.m:=by
 have h0:Lb aI.m:=fun x hx=>nomatch hx
 grind[Lb,cH,th,yc]
theorem af0(p:Int)(up:Bool)(q:Nat)(u:Int)(hp:p.toNat<=8000)(hq:af q<=8000):(th p up q u).1.m.length<=256:=by
 have h0:aI.m.length<=256:=axz _;have hc:∀d:Rd,d.m.length<=256->(cH d).1.m.length<=256:=fun d hd=>by
  grind[cH]
 grind[th,AF,awX,Vm]
def gJ(d:Rd):Rd:=if vd d=false\/d.m.length=0 then aI else⟨!d.neg,d.m,d.e⟩
def cB(M:Nat)(e:Int)(more:Bool)(p:Int)(up:Bool):Rd×Int:=th p up (mh up (qH M e more (fk M e p))) (fk M e p)
def gL(neg:Bool)(r:Rd×Int):Rd×Int:=if r.2=0/\neg=true then(gJ r.1,r.2)else r
theorem adf{M:Nat}{e:Int}{more up:Bool}{n:Nat}(hM:af M<=8192)(hp:8<=n/\n<=512)(he:-40000<=e/\e<=40000):af (mh up (qH M e more (fk M e (n:Nat))))<=7001:=by
 have hq:af (qH M e more (fk M e (n:Nat))).1<=7000:=by
  obtain⟨u,hu⟩:∃u,fk M e (n:Nat)=u:=⟨_,rfl⟩;rw[hu];unfold fk at hu;unfold qH;split
  ·grind[dq]
  grind[kl]
 unfold mh;split
 ·exact MF hq
 omega
theorem EU{M:List Nat}(hb:Lb M)(hl:M.length<=256){e:Int}{n:Nat}{more up neg:Bool}(he:-40000<=e/\e<=40000)(hp:8<=n/\n<=512):R F.round_signed [B neg,wU M e more,I (n:Nat),B up] []=some (rV (gL neg (cB (ab M) e more (n:Nat) (up !=neg))),[]):=by
 refine ax PJ rfl ?_;have hc:=ak9 (more:=more) (up:=up !=neg) hb hl he hp;have hlen:=Hr hb;have hB:=adf (M:=ab M) (e:=e) (more:=more) (up:=up !=neg) (by omega) hp he;rw[aiz]at hc;have hL:=aiA (n:Nat) (up !=neg) (mh (up !=neg) (qH (ab M) e more (fk (ab M) e (n:Nat)))) (fk (ab M) e (n:Nat));have hN:=af0 (n:Nat) (up !=neg) (mh (up !=neg) (qH (ab M) e more (fk (ab M) e (n:Nat)))) (fk (ab M) e (n:Nat)) (by omega) (by omega);unfold cB;generalize th (n:Nat) (up !=neg) (mh (up !=neg) (qH (ab M) e more (fk (ab M) e (n:Nat)))) (fk (ab M) e (n:Nat))=r at hc hL hN⊢;obtain⟨d,x⟩:=r;have hn:=Gl (d:=d) ⟨hL,axF hN (by decide)⟩;simp only[rV,ae,ah,wU]at hc hn;unfold gL gJ;by_cases hx:x=0
 ·have e1:(x=0)=True:=tt hx;cases neg with
  |false=>
   simp only[oV,vA,rV,ae,ah,wU,go_sem,zF,hc,e1]
  |true=>
   simp only[oV,vA,rV,ae,ah,wU,go_sem,zF,hc,e1,hn]
 ·have e1:(x=0)=False:=ff hx;simp only[oV,vA,rV,ae,ah,wU,go_sem,zF,hc,e1]
def sJ(d:Rd)(p:Int)(up:Bool):Rd×Int:=if aY p [d]=0 then gL d.neg (cB (ab d.m) d.e false p (up !=d.neg))else(aI,aY p [d])
theorem uF{p:Int}{l:List Rd}(h:aY p l=0):l.all vd=true/\8<=p/\p<=512:=by
 unfold aY at h;split at h
 ·rename_i h1;split at h
  ·rename_i h2;exact⟨h1,h2⟩
  ·exact nomatch h
 ·exact nomatch h
theorem zG{d:Rd}(h:vd d=true)(hb:Lb d.m):d.m.length<=128:=by
 obtain⟨h1,h2,h3,h4⟩:=dM h hb;by_cases h0:d.m.length=0
 ·omega
 obtain⟨g1,g2,g3,g4⟩:=wT h h0;have h5:4294967296^ (d.m.length-1)<=ab d.m:=by
  have h6:=Ig (a:=d.m) (i:=d.m.length-1) (by omega);rw[show d.m.length-1+1=d.m.length by omega,aEE]at h6;rw[h6];exact awX (Nat.le_mul_of_pos_right _ (Nat.pos_of_ne_zero g3)) (Nat.le_add_left _ _)
 have h7:32*(d.m.length-1)<af (ab d.m):=by
  rw[jy,Nat.pow_mul];exact h5
 omega
theorem Hs{d:Rd}(ok:Ok0 d){p:Int}{up:Bool}:R F.round_round [ae d,I p,B up] []=some (rV (sJ d p up),[]):=by
 refine ax S2 rfl ?_;have hf:R F.round_fault [I p,.sl 3 [[B d.neg,lm d.m,I d.e]]] []=some (I (aY p [d]),[]):=AH (p:=p) (l:=[d]) (fun x hx=>by rw[List.mem_singleton.1 hx];exact ok) (show 1<=100000 by decide);unfold sJ;by_cases h0:aY p [d]=0
 ·obtain⟨v1,v2,v3⟩:=uF h0;have v4:vd d=true:=by simpa using v1
  obtain⟨h1,h2,h3,h4⟩:=dM v4 ok.lb;have h5:=zG v4 ok.lb;rw[if_pos h0];rw[h0]at hf;obtain⟨n,rfl⟩:=ax5 (show 0<=p by omega);have hs:=EU (M:=d.m) (e:=d.e) (n:=n) (more:=false) (up:=up) (neg:=d.neg) ok.lb (by omega) ⟨by omega,by omega⟩ ⟨by omega,by omega⟩;have ho:=aoa (d:=d);generalize gL d.neg (cB (ab d.m) d.e false (n:Nat) (up !=d.neg))=r at hs⊢;simp only[rV,ae,ah,wU]at hs ho;simp only[vz,B3,rV,ae,ah,go_sem,hf,hs,ho]
 ·have e1:(aY p [d]=0)=False:=ff h0;rw[if_neg h0];simp only[vz,B3,rV,ae,ah,aI,go_sem,hf,e1]
theorem ala{d:Rd}(ok:Ok0 d){p:Int}:R F.round_Up [ae d,I p] []=some (rV (sJ d p true),[]):=by
 refine ax aa9 rfl ?_;have hr:=Hs ok (p:=p) (up:=true);generalize sJ d p true=r at hr⊢;simp only[rV,ae,ah]at hr;simp only[FA,NT,rV,ae,ah,go_sem,hr]
theorem af1{d:Rd}(ok:Ok0 d){p:Int}:R F.round_Down [ae d,I p] []=some (rV (sJ d p false),[]):=by
 refine ax U0 rfl ?_;have hr:=Hs ok (p:=p) (up:=false);generalize sJ d p false=r at hr⊢;simp only[rV,ae,ah]at hr;simp only[B1,I6,rV,ae,ah,go_sem,hr]
def Jq(a b:Rd)(p:Int)(up:Bool):Rd×Int:=if aY p [a,b]=0 then(if a.m.length=0\/b.m.length=0 then(aI,0)else gL (a.neg !=b.neg) (cB (ab a.m*ab b.m) (a.e+b.e) false p (up != (a.neg !=b.neg))))else(aI,aY p [a,b])
theorem Yj{a b:Rd}(oa:Ok0 a)(ob:Ok0 b){p:Int}{up:Bool}:R F.round_mul [ae a,ae b,I p,B up] []=some (rV (Jq a b p up),[]):=by
 refine ax Xy rfl ?_;have hf:R F.round_fault [I p,.sl 3 [[B a.neg,lm a.m,I a.e],[B b.neg,lm b.m,I b.e]]] []=some (I (aY p [a,b]),[]):=AH (p:=p) (l:=[a,b]) (fun x hx=>by
  rcases List.mem_cons.1 hx with h|h
  ·rw[h];exact oa
  ·rw[List.mem_singleton.1 h];exact ob) (show 2<=100000 by decide)
 unfold Jq;by_cases h0:aY p [a,b]=0
 ·obtain⟨v1,v2,v3⟩:=uF h0;have v4:vd a=true/\vd b=true:=by simpa using v1
  obtain⟨va,vb⟩:=v4;obtain⟨a1,a2,a3,a4⟩:=dM va oa.lb;obtain⟨b1,b2,b3,b4⟩:=dM vb ob.lb;rw[if_pos h0];rw[h0]at hf;by_cases a0:a.m.length=0
  ·have e1:((a.m.length:Int)=0)=True:=tt;rw[if_pos (Or.inl a0)];simp only[qz,wQ,rV,ae,ah,aI,go_sem,hf,e1]
  have e1:((a.m.length:Int)=0)=False:=ff;by_cases b0:b.m.length=0
  ·have e2:((b.m.length:Int)=0)=True:=tt;rw[if_pos (Or.inr b0)];simp only[qz,wQ,rV,ae,ah,aI,go_sem,hf,e1,e2]
  have e2:((b.m.length:Int)=0)=False:=ff;rw[if_neg (fun h=>h.elim a0 b0)];obtain⟨n,rfl⟩:=ax5 (show 0<=p by omega);have hp:=Jp (ab a.m) (ab b.m);have hl:(av (ab a.m*ab b.m)).length<=256:=aT (by omega);have hm:=ac6 oa.lb ob.lb a1 b1;rw[kw,if_neg (by omega)]at hm;have w3:IntKind.i64.wrap (a.e+b.e)=a.e+b.e:=i64_in _ ⟨by omega,by omega⟩;have hs:=EU (M:=av (ab a.m*ab b.m)) (e:=a.e+b.e) (n:=n) (more:=false) (up:=up) (neg:=a.neg !=b.neg) (aZ _) hl ⟨by omega,by omega⟩ ⟨by omega,by omega⟩;rw[aN]at hs;generalize gL (a.neg !=b.neg) (cB (ab a.m*ab b.m) (a.e+b.e) false (n:Nat) (up != (a.neg !=b.neg)))=r at hs⊢;simp only[rV,ae,ah,wU]at hs;simp only[qz,wQ,rV,ae,ah,go_sem,hf,e1,e2,hm,w3,zF,hs]
 ·have e1:(aY p [a,b]=0)=False:=ff h0;rw[if_neg h0];simp only[qz,wQ,rV,ae,ah,aI,go_sem,hf,e1]
theorem af2{a b:Rd}(oa:Ok0 a)(ob:Ok0 b){p:Int}:R F.round_MulUp [ae a,ae b,I p] []=some (rV (Jq a b p true),[]):=by
 refine ax sI rfl ?_;have hr:=Yj oa ob (p:=p) (up:=true);generalize Jq a b p true=r at hr⊢;simp only[rV,ae,ah]at hr;simp only[Ar,H6,rV,ae,ah,go_sem,hr]
theorem abl{a b:Rd}(oa:Ok0 a)(ob:Ok0 b){p:Int}:R F.round_MulDown [ae a,ae b,I p] []=some (rV (Jq a b p false),[]):=by
 refine ax o7 rfl ?_;have hr:=Yj oa ob (p:=p) (up:=false);generalize Jq a b p false=r at hr⊢;simp only[rV,ae,ah]at hr;simp only[xD,EH,rV,ae,ah,go_sem,hr]
theorem On{n:Int}(hn:I64 n):R F.dyadic_Int [I n] []=some (ae (bm (decide (n<0)) n.natAbs 0),[]):=by
 refine ax UK rfl ?_;obtain⟨h1,h2⟩:=hn;obtain⟨x,hx⟩:∃x:Nat,n.natAbs=x:=⟨_,rfl⟩;have hv:ab [x%4294967296,x/4294967296]=x:=by
  show x%4294967296+4294967296*(x/4294967296+4294967296*0)=x;omega
 have hL:Lb [x%4294967296,x/4294967296]:=fun y hy=>by
  rcases List.mem_cons.1 hy with h|h
  ·omega
  ·rw[List.mem_singleton.1 h];omega
 have hc:∀neg,R F.dyadic_canonical [B neg,.sl 1 [[.v (.int .u32 ((x%4294967296:Nat):Int))],[.v (.int .u32 ((x/4294967296:Nat):Int))]],I 0] []=some (ae (bm neg x 0),[]):=fun neg=>by
  have:=ng (neg:=neg) (e:=0) hL (by show 2<=256;decide) ⟨by decide,by decide⟩;rw[hv]at this;exact this
 have w2:IntKind.u32.wrap (x:Int)=((x%4294967296:Nat):Int):=Hj rfl;have w3:IntKind.u32.wrap ((x/4294967296:Nat):Int)=((x/4294967296:Nat):Int):=BB rfl (by omega);have w4:dP .shr (.v (.int .u64 (x:Int))) (.v (.int .u64 32))=some (.v (.int .u64 ((x/4294967296:Nat):Int))):=pR (k:=32) rfl rfl (by decide);rw[hx];by_cases h0:n<0
 ·have e1:(n<0)=True:=tt h0;have w5:IntKind.u64.wrap (0-IntKind.u64.wrap n)=(x:Int):=by
   have q:∀z:Int,IntKind.u64.wrap z=z%18446744073709551616:=fun z=>rfl;rw[q,q];omega
  have hc':=hc (decide (n<0));generalize bm (decide (n<0)) x 0=d at hc'⊢;rw[decide_eq_true h0]at hc';simp only[ae,ah]at hc';simp only[xc,Dj,ae,ah,go_sem,e1,w2,w3,w4,w5,hc']
 ·have e1:(n<0)=False:=ff h0;have w5:IntKind.u64.wrap n=(x:Int):=dE (by omega) (by omega);have hc':=hc (decide (n<0));generalize bm (decide (n<0)) x 0=d at hc'⊢;rw[decide_eq_false h0]at hc';simp only[ae,ah]at hc';simp only[xc,Dj,ae,ah,go_sem,e1,w2,w3,w4,w5,hc']
def wB(a b:Rd)(p:Int):Int:=
 if aL a-aL b<=2 then(if b.e< (if aL a-p-8<a.e then aL a-p-8 else a.e)then b.e else(if aL a-p-8<a.e then aL a-p-8 else a.e))
 else(if aL a-p-8<a.e then aL a-p-8 else a.e)
def yZ(b:Rd)(l:Int):Nat×Bool:=if l<=b.e then(ab b.m*2^ (b.e-l).toNat,false)else(ab b.m/2^ (l-b.e).toNat,decide (ab b.m%2^ (l-b.e).toNat≠0))
def tK(y:Nat×Bool):Nat:=if y.2=true then y.1+1 else y.1
def Cb(a b:Rd)(p:Int):(Nat×Int×Bool)×Bool:=
 let l:=wB a b p
 let x:=ab a.m*2^ (a.e-l).toNat
 let y:=yZ b l
 if a.neg=b.neg then((x+y.1,l,y.2),false)
 else if x<tK y then((tK y-x,l,false),true)
 else((x-tK y,l,y.2),false)
theorem PX{a b:Rd}{p:Int}:wB a b p<=a.e:=by
 unfold wB;have h:(if aL a-p-8<a.e then aL a-p-8 else a.e)<=a.e:=by
  split<;>omega
 generalize(if aL a-p-8<a.e then aL a-p-8 else a.e)=z at h⊢;split
 ·split<;>omega
 ·exact h
theorem iv{d:Rd}(h:vd d=true)(h0:d.m.length≠0):aL d=(af (ab d.m):Nat)+d.e:=by
 rw[aL,if_neg (fun h'=>h'.elim (fun h''=>by rw[h]at h'';exact nomatch h'') h0)]
theorem MI{a b:Rd}{p:Int}(va:vd a=true)(vb:vd b=true)(la:Lb a.m)(lb:Lb b.m)(na:a.m.length≠0)(nb:b.m.length≠0)(hp:8<=p/\p<=512)(ht:aL b<=aL a):
  aL a-wB a b p<=4098:=by
 obtain⟨a1,a2,a3,a4⟩:=dM va la;obtain⟨b1,b2,b3,b4⟩:=dM vb lb;have e1:=iv va na;have e2:=iv vb nb;unfold wB;have h:aL a- (if aL a-p-8<a.e then aL a-p-8 else a.e)<=4098:=by
  split<;>omega
 generalize(if aL a-p-8<a.e then aL a-p-8 else a.e)=z at h⊢;split
 ·split<;>omega
 ·exact h
noncomputable def lB:Cmd:=.seq (.seq (.ops [6,8,9,10,11,68] [co 64 (.fadr 0 (.t 3)),⟨(some 65),none,.load 1 false (.t 64)⟩,co 66 (.fadr 0 (.t 4)),⟨(some 67),none,.load 1 false (.t 66)⟩,co 68 (.eqc false 0 (.t 65) (.t 67))]) (.cond (.t 68) (.seq (.ops [6,8,11,12] [cm 70 9,cm 71 10,⟨(some 72),none,.call (.c (.fn F.natural_Add [] [])) [(.t 70),(.t 71)]⟩,cm 69 72,co 73 (.ext 0 (.t 69)),co 74 (.ext 1 (.t 69)),cm 12 73,cm 13 74]) (.seq (.ops [6,7] [cm 75 12,cm 76 8,cm 77 11,co 78 (.build [.emp,(.v (.int .i64 0)),(.v (.bool false))] [(0,1,(.t 75)),(1,1,(.t 76)),(2,1,(.t 77))]),⟨none,none,.store 3 (.t 6) (.t 78)⟩,co 7 (.mv (.c (.v (.bool false))))]) (.ret))) (.skip))) (.seq (.seq (.ops [6,8,9,10,11,79] [cm 79 11]) (.cond (.t 79) (.ops [6,8,9,10,11] [cm 81 10,⟨(some 82),none,.buildSl 1 [(.v (.int .u32 0))] 1 [(0,(.c (.v (.int .u32 1))))]⟩,⟨(some 83),none,.call (.c (.fn F.natural_Add [] [])) [(.t 81),(.t 82)]⟩,cm 80 83,co 84 (.ext 0 (.t 80)),co 85 (.ext 1 (.t 80)),cm 10 84]) (.skip))) (.seq (.seq (.ops [6,8,9,10,11,89] [cm 86 9,cm 87 10,⟨(some 88),none,.call (.c (.fn F.natural_Cmp [] [])) [(.t 86),(.t 87)]⟩,co 89 (.bin .lss (.t 88) (.c (.v (.int .i64 0))))]) (.cond (.t 89) (.seq (.ops [6,8,14] [cm 91 10,cm 92 9,⟨(some 93),none,.call (.c (.fn F.natural_Sub [] [])) [(.t 91),(.t 92)]⟩,cm 90 93,co 94 (.ext 0 (.t 90)),co 95 (.ext 1 (.t 90)),cm 14 94,cm 15 95]) (.seq (.ops [6,7] [cm 96 14,cm 97 8,co 98 (.build [.emp,(.v (.int .i64 0)),(.v (.bool false))] [(0,1,(.t 96)),(1,1,(.t 97)),(2,1,(.c (.v (.bool false))))]),⟨none,none,.store 3 (.t 6) (.t 98)⟩,co 7 (.mv (.c (.v (.bool true))))]) (.ret))) (.skip))) (.seq (.ops [6,8,11,16] [cm 100 9,cm 101 10,⟨(some 102),none,.call (.c (.fn F.natural_Sub [] [])) [(.t 100),(.t 101)]⟩,cm 99 102,co 103 (.ext 0 (.t 99)),co 104 (.ext 1 (.t 99)),cm 16 103,cm 17 104]) (.seq (.ops [6,7] [cm 105 16,cm 106 8,cm 107 11,co 108 (.build [.emp,(.v (.int .i64 0)),(.v (.bool false))] [(0,1,(.t 105)),(1,1,(.t 106)),(2,1,(.t 107))]),⟨none,none,.store 3 (.t 6) (.t 108)⟩,co 7 (.mv (.c (.v (.bool false))))]) (.ret)))))
theorem uG:LG=.seq (.ops [2,3,4,6] [⟨(some 3),none,.box 3 (.t 0)⟩,⟨(some 4),none,.box 3 (.t 1)⟩,⟨(some 6),none,.alloc [.emp,(.v (.int .i64 0)),(.v (.bool false))]⟩,co 7 (.mv (.c (.v (.bool false))))]) (.seq (.dops [3,4,6,8] [co 18 (.fadr 2 (.t 3)),⟨(some 19),none,.load 1 false (.t 18)⟩,⟨(some 20),none,.load 3 true (.t 3)⟩,⟨(some 21),none,.call (.c (.fn F.dyadic_Top [] [])) [(.t 20)]⟩,cm 22 2,co 23 (.bin .sub (.t 21) (.t 22)),co 24 (.bin .sub (.t 23) (.c (.v (.int .i64 8)))),co 25 (.mnx true (.t 19) [(.t 24)]),cm 8 25] [(1,3)]) (.seq (.seq (.dops [3,4,6,8,31] [⟨(some 26),none,.load 3 true (.t 3)⟩,⟨(some 27),none,.call (.c (.fn F.dyadic_Top [] [])) [(.t 26)]⟩,⟨(some 28),none,.load 3 true (.t 4)⟩,⟨(some 29),none,.call (.c (.fn F.dyadic_Top [] [])) [(.t 28)]⟩,co 30 (.bin .sub (.t 27) (.t 29)),co 31 (.bin .leq (.t 30) (.c (.v (.int .i64 2))))] [(1,2)]) (.cond (.t 31) (.ops [3,4,6,8] [cm 32 8,co 33 (.fadr 2 (.t 4)),⟨(some 34),none,.load 1 false (.t 33)⟩,co 35 (.mnx true (.t 32) [(.t 34)]),cm 8 35]) (.skip))) (.seq (.ops [3,4,6,8,9] [co 36 (.fadr 1 (.t 3)),⟨(some 37),none,.load 1 false (.t 36)⟩,co 38 (.fadr 2 (.t 3)),⟨(some 39),none,.load 1 false (.t 38)⟩,cm 40 8,co 41 (.bin .sub (.t 39) (.t 40)),⟨(some 42),none,.call (.c (.fn F.round_shl [] [])) [(.t 37),(.t 41)]⟩,cm 9 42]) (.seq (.ops [3,4,6,8,9] [co 10 (.mv (.c .emp))]) (.seq (.ops [3,4,6,8,9,11] [co 11 (.mv (.c (.v (.bool false))))]) (.seq (.seq (.ops [3,4,6,8,9,11,46] [co 43 (.fadr 2 (.t 4)),⟨(some 44),none,.load 1 false (.t 43)⟩,cm 45 8,co 46 (.bin .geq (.t 44) (.t 45))]) (.cond (.t 46) (.ops [3,4,6,8,9,10,11] [co 47 (.fadr 1 (.t 4)),⟨(some 48),none,.load 1 false (.t 47)⟩,co 49 (.fadr 2 (.t 4)),⟨(some 50),none,.load 1 false (.t 49)⟩,cm 51 8,co 52 (.bin .sub (.t 50) (.t 51)),⟨(some 53),none,.call (.c (.fn F.round_shl [] [])) [(.t 48),(.t 52)]⟩,cm 10 53]) (.ops [3,4,6,8,9,10,11] [co 55 (.fadr 1 (.t 4)),⟨(some 56),none,.load 1 false (.t 55)⟩,cm 57 8,co 58 (.fadr 2 (.t 4)),⟨(some 59),none,.load 1 false (.t 58)⟩,co 60 (.bin .sub (.t 57) (.t 59)),⟨(some 61),none,.call (.c (.fn F.round_shr [] [])) [(.t 56),(.t 60)]⟩,cm 54 61,co 62 (.ext 0 (.t 54)),co 63 (.ext 1 (.t 54)),cm 10 62,cm 11 63]))) lB)))))):=rfl
def PY(an bn:Bool)(X Y:Nat)(l:Int)(lost:Bool):(Nat×Int×Bool)×Bool:=
 if an=bn then((X+Y,l,lost),false)else if X<tK (Y,lost)then((tK (Y,lost)-X,l,false),true)else((X-tK (Y,lost),l,lost),false)
def sV(r:(Nat×Int×Bool)×Bool):AV:=.tup [wU (av r.1.1) r.1.2.1 r.1.2.2,B r.2]
theorem DT{x y k:Nat}(hx:af x<=k)(hy:af y<=k):af (x+y)<=k+1:=by
 rw[bK]at hx hy⊢;omega
theorem Yk{x y:Nat}(hx:af x<=5000)(hy:af y<=5000):R F.natural_Add [lm (av x),lm (av y)] []=some (.tup [lm (av (x+y)),I 0],[]):=by
 have h1:(av x).length<=200:=aT (by omega);have h2:(av y).length<=200:=aT (by omega);have h3:=DT hx hy;have h4:(av (x+y)).length<=200:=aT (by omega);rw[acZ (aZ x) (aZ y) (by omega) (by omega),aN,aN,kw,if_neg (by omega)]
theorem Kn{x y:Nat}(hx:af x<=5000)(hy:af y<=5000)(h:y<=x):R F.natural_Sub [lm (av x),lm (av y)] []=some (.tup [lm (av (x-y)),I 0],[]):=by
 have h1:(av x).length<=200:=aT (by omega);have h2:(av y).length<=200:=aT (by omega);have h3:af (x-y)<=5000:=by
  rw[bK]at hx⊢;omega
 have h4:(av (x-y)).length<=200:=aT (by omega);rw[ac1 (aZ x) (aZ y) (by omega) (by omega),aN,aN,if_neg (by omega),kw,if_neg (by omega)]
theorem MJ{an bn:Bool}{ma mb:AV}{ea eb:AV}{X Y:Nat}{l:Int}{lost:Bool}(hX:af X<=4100)(hY:af Y<=4100)(s:ak)
  (h3:s 3=.ref 3 none 0 0 0) (h4:s 4=.ref 4 none 0 0 0) (h6:s 6=.ref 6 none 0 0 0) (h8:s 8=I l) (h9:s 9=lm (av X)) (h10:s 10=lm (av Y)) (h11:s 11=B lost):
  gZ false [[.o 2 [],.o 0 [],.o 0 []],[]] [.cell 6 3 true,.t 7] 0 (ai R (az false) lB s (upd (upd (upd (fun _=>.dead) 3 (.bx [.v (.bool an),ma,ea])) 4 (.bx [.v (.bool bn),mb,eb])) 6 (.bx [.emp,.v (.int .i64 0),.v (.bool false)])))=some (sV (PY an bn X Y l lost),[]):=by
 unfold PY;by_cases hs:an=bn
 ·subst hs;have e1:(false != (an==an))=true:=by grind
  have ha:=Yk (x:=X) (y:=Y) (by omega) (by omega);simp only[lB,sV,wU,go_sem,h3,h4,h6,h8,h9,h10,h11,e1,ha]
 ·rw[if_neg hs];have e1:(false != (an==bn))=false:=by grind
  have hU:af (tK (Y,lost))<=4101:=by
   unfold tK;split
   ·exact DT hY (afV _)
   grind
  have hi:=adc (q:=Y) (by omega);have hc:=zE (aZ X) (aZ (tK (Y,lost))) (awX (aT (k:=200) (by omega)) (by decide)) (awX (aT (k:=200) (by omega)) (by decide));rw[aN,aN]at hc;by_cases hx:X<tK (Y,lost)
  ·have ha:=Kn (x:=tK (Y,lost)) (y:=X) (by omega) (by omega) (by omega);rw[if_pos hx];rw[bY,if_pos hx]at hc;cases lost with
   |false=>
    simp only[tK,if_neg awW]at hc ha⊢;simp only[lB,sV,wU,go_sem,axl,h3,h4,h6,h8,h9,h10,h11,e1,hc,ha]
   |true=>
    simp only[tK,if_true]at hc ha⊢;simp only[lB,sV,wU,go_sem,axl,h3,h4,h6,h8,h9,h10,h11,e1,DS,hi,hc,ha]
  ·have ha:=Kn (x:=X) (y:=tK (Y,lost)) (by omega) (by omega) (by omega);rw[if_neg hx];have hd:(bY X (tK (Y,lost))<0)=False:=ff (by
    unfold bY;omega)
   cases lost with
   |false=>
    simp only[tK,if_neg awW]at hc ha hd⊢;simp only[lB,sV,wU,go_sem,h3,h4,h6,h8,h9,h10,h11,e1,hc,hd,ha]
   |true=>
    simp only[tK,if_true]at hc ha hd⊢;simp only[lB,sV,wU,go_sem,h3,h4,h6,h8,h9,h10,h11,e1,DS,hi,hc,hd,ha]
theorem PZ(a b:Rd)(p:Int):Cb a b p=PY a.neg b.neg (ab a.m*2^ (a.e-wB a b p).toNat) (yZ b (wB a b p)).1 (wB a b p) (yZ b (wB a b p)).2:=rfl
theorem alb{a b:Rd}(oa:Ok0 a)(ob:Ok0 b)(va:vd a=true)(vb:vd b=true)(na:a.m.length≠0)(nb:b.m.length≠0){p:Int}(hp:8<=p/\p<=512)(ht:aL b<=aL a):
  R F.round_sum [ae a,ae b,I p] []=some (sV (Cb a b p),[]):=by
 refine ax Xz rfl ?_;have ta:=BD oa;have tb:=BD ob;simp only[ae,ah]at ta tb;have e1:=iv va na;have e2:=iv vb nb;obtain⟨a1,a2,a3,a4⟩:=dM va oa.lb;obtain⟨b1,b2,b3,b4⟩:=dM vb ob.lb;have l1:=PX (a:=a) (b:=b) (p:=p);have l2:=MI va vb oa.lb ob.lb na nb hp ht;have w1:IntKind.i64.wrap (aL a-p)=aL a-p:=i64_in _ ⟨by omega,by omega⟩;have w2:IntKind.i64.wrap (aL a-p-8)=aL a-p-8:=i64_in _ ⟨by omega,by omega⟩;have w3:IntKind.i64.wrap (aL a-aL b)=aL a-aL b:=i64_in _ ⟨by omega,by omega⟩;rw[PZ];obtain⟨l,hl⟩:∃l,wB a b p=l:=⟨_,rfl⟩;rw[hl]at l1 l2⊢;unfold wB at hl;obtain⟨z,hz⟩:∃z,(if aL a-p-8<a.e then aL a-p-8 else a.e)=z:=⟨_,rfl⟩;rw[hz]at hl;have w4:IntKind.i64.wrap (a.e-l)=(((a.e-l).toNat:Nat):Int):=wi;have hX:af (ab a.m*2^ (a.e-l).toNat)<=4100:=by
  grind[dq,dh]
 have sX:=AG oa.lb a1 (k:=(a.e-l).toNat) (by omega) (aT (by omega));by_cases h2:aL a-aL b<=2
 ·have f1:(aL a-aL b<=2)=True:=tt h2;rw[if_pos h2]at hl;by_cases hb:l<=b.e
  ·have f2:(l<=b.e)=True:=tt hb;have w5:IntKind.i64.wrap (b.e-l)=(((b.e-l).toNat:Nat):Int):=wi;have hY:af (ab b.m*2^ (b.e-l).toNat)<=4100:=by
    grind[dq,dh]
   have sY:=AG ob.lb b1 (k:=(b.e-l).toNat) (by omega) (aT (by omega));rw[yZ,if_pos hb];simp only[ur,uG,ae,ah,go_sem,ta,tb,w1,w2,w3,w4,w5,hz,hl,f1,f2,sX,sY];exact MJ hX hY _ rfl rfl rfl rfl rfl rfl rfl
  omega
 ·have f1:(aL a-aL b<=2)=False:=ff h2;rw[if_neg h2]at hl;by_cases hb:l<=b.e
  ·have f2:(l<=b.e)=True:=tt hb;have w5:IntKind.i64.wrap (b.e-l)=(((b.e-l).toNat:Nat):Int):=wi;have hY:af (ab b.m*2^ (b.e-l).toNat)<=4100:=by
    grind[dq,dh]
   have sY:=AG ob.lb b1 (k:=(b.e-l).toNat) (by omega) (aT (by omega));rw[yZ,if_pos hb];simp only[ur,uG,ae,ah,go_sem,ta,tb,w1,w2,w3,w4,w5,hz,hl,f1,f2,sX,sY];exact MJ hX hY _ rfl rfl rfl rfl rfl rfl rfl
  ·have f2:(l<=b.e)=False:=ff hb;have w5:IntKind.i64.wrap (l-b.e)=(((l-b.e).toNat:Nat):Int):=wi;have hY:af (ab b.m/2^ (l-b.e).toNat)<=4100:=by
    grind[kl]
   have sY:=Yg ob.lb b1 (n:=(l-b.e).toNat) (by omega);rw[yZ,if_neg hb];simp only[ur,uG,ae,ah,go_sem,ta,tb,w1,w2,w3,w4,w5,hz,hl,f1,f2,sX,sY];exact MJ hX hY _ rfl rfl rfl rfl rfl rfl rfl
def Vn(a b:Rd)(p:Int)(up:Bool):Rd×Int:=
 let s:=Cb a b p
 if s.1.1=0/\s.1.2.2=false then(aI,0)else gL (a.neg !=s.2) (cB s.1.1 s.1.2.1 s.1.2.2 p (up != (a.neg !=s.2)))
def P0(a b:Rd)(p:Int)(up:Bool):Rd×Int:=
 if aY p [a,b]=0 then(if a.m.length=0 then sJ b p up else if b.m.length=0 then sJ a p up else if aL a<aL b then Vn b a p up else Vn a b p up)
 else(aI,aY p [a,b])
theorem MK{a b:Rd}(oa:Ok0 a)(ob:Ok0 b){p:Int}{up:Bool}(h:aY p [a,b]≠0\/a.m.length=0\/b.m.length=0):R F.round_add [ae a,ae b,I p,B up] []=some (rV (P0 a b p up),[]):=by
 refine ax LK rfl ?_;have hf:R F.round_fault [I p,.sl 3 [[B a.neg,lm a.m,I a.e],[B b.neg,lm b.m,I b.e]]] []=some (I (aY p [a,b]),[]):=AH (p:=p) (l:=[a,b]) (fun x hx=>by
  rcases List.mem_cons.1 hx with h|h
  ·rw[h];exact oa
  ·rw[List.mem_singleton.1 h];exact ob) (show 2<=100000 by decide)
 have ra:=Hs oa (p:=p) (up:=up);have rb:=Hs ob (p:=p) (up:=up);unfold P0;generalize sJ a p up=qa at ra⊢;generalize sJ b p up=qb at rb⊢;simp only[rV,ae,ah]at ra rb;by_cases h0:aY p [a,b]=0
 ·rw[if_pos h0];rw[h0]at hf;by_cases a0:a.m.length=0
  ·have e1:((a.m.length:Int)=0)=True:=tt;rw[if_pos a0];simp only[mV,wM,rV,ae,ah,go_sem,hf,e1,rb]
  have e1:((a.m.length:Int)=0)=False:=ff;have b0:b.m.length=0:=(h.resolve_left (fun h'=>h' h0)).resolve_left a0;have e2:((b.m.length:Int)=0)=True:=tt;rw[if_neg a0,if_pos b0];simp only[mV,wM,rV,ae,ah,go_sem,hf,e1,e2,ra]
 ·have e1:(aY p [a,b]=0)=False:=ff h0;rw[if_neg h0];simp only[mV,wM,rV,ae,ah,aI,go_sem,hf,e1]
theorem af3{N k:Nat}{f u:Int}{more:Bool}(hm:more=decide (N%2^k≠0))(hu:more=true->f+k<u):qH (N/2^k) (f+k) more u=qH N f false u:=by
 unfold qH;by_cases h:u<=f+k
 ·rw[if_pos h];have hf:more=false:=by
   grind
  subst hf;have h0:N%2^k=0:=by
   grind
  obtain⟨M,rfl⟩:=Nat.dvd_of_mod_eq_zero h0;rw[Nat.mul_div_cancel_left _ (axb k)];by_cases h2:u<=f
  ·rw[if_pos h2,show(f+k-u).toNat=k+(f-u).toNat by omega,axa,axf (2^k) M,axn]
  ·obtain⟨j,hj⟩:∃j,(f+k-u).toNat=j:=⟨_,rfl⟩;obtain⟨i,hi⟩:∃i,(u-f).toNat=i:=⟨_,rfl⟩;have hk:k=i+j:=by omega
   grind[axa,axn,Nat.mul_div_cancel_left,axb,Nat.mul_mod_right,axf]
 ·rw[if_neg h,if_neg (by omega)];obtain⟨j,hj⟩:∃j,(u- (f+k)).toNat=j:=⟨_,rfl⟩;rw[show(u-f).toNat=k+j by omega,hj,axa,Nat.div_div_eq_div_mul,Nat.mod_mul,hm];refine Prod.ext rfl ?_;show(decide (N%2^k≠0)||decide (N/2^k%2^j≠0))=(false||decide (N%2^k+2^k*(N/2^k%2^j)≠0));rw[axY,←Bool.decide_or];congr 1;refine propext ⟨fun h3 h4=>?_,fun h3=>?_⟩
  ·obtain⟨h5,h6⟩:=Nat.add_eq_zero_iff.1 h4;rcases Nat.mul_eq_zero.1 h6 with h7|h7
   all_goals omega
  grind
theorem adg{N k:Nat}{f p:Int}(hM:N/2^k≠0):fk (N/2^k) (f+k) p=fk N f p:=by
 grind[fk,kl,af]
theorem Yl{N k:Nat}{f p:Int}{more up:Bool}(hM:N/2^k≠0)(hm:more=decide (N%2^k≠0))(hp:more=true->p< (af (N/2^k):Nat)):cB (N/2^k) (f+k) more p up=cB N f false p up:=by
 unfold cB;have hu:more=true->f+k<fk (N/2^k) (f+k) p:=fun h=>by
  grind[fk]
 grind[af3,adg]
theorem Jr{M k:Nat}{f p:Int}{up:Bool}(hM:M≠0):cB (M*2^k) f false p up=cB M (f+k) false p up:=by
 have h1:M*2^k/2^k=M:=Nat.mul_div_cancel _ (axb k);have:=Yl (N:=M*2^k) (k:=k) (f:=f) (p:=p) (more:=false) (up:=up) (by omega) (by simp_all) (fun h=>absurd h awW);grind
def jj(z f p:Int)(up:Bool):Rd×Int:=if z=0 then(aI,0)else gL (decide (z<0)) (cB z.natAbs f false p (up !=decide (z<0)))
theorem Ko{n:Nat}{f p:Int}{up neg:Bool}(h:n≠0):jj (if neg=true then-(n:Int)else n) f p up=gL neg (cB n f false p (up !=neg)):=by
 unfold jj;grind
theorem Rl{z f p:Int}{k:Nat}{up:Bool}:jj (z*2^k) f p up=jj z (f+k) p up:=by
 unfold jj;by_cases h:z=0
 ·rw[h,Int.zero_mul,if_pos rfl,if_pos rfl]
 ·have h2:(0:Int)<2^k:=Int.pow_pos (by decide);have h3:z*2^k≠0:=fun h3=>by
   rcases Int.mul_eq_zero.1 h3 with h4|h4
   all_goals omega
  have h4:decide (z*2^k<0)=decide (z<0):=by
   congr 1;refine propext ⟨fun h5=>?_,fun h5=>Int.mul_neg_of_neg_of_pos h5 h2⟩;refine Int.not_le.1 fun h6=>?_;have:=Int.mul_nonneg h6 (Int.le_of_lt h2);omega
  simp_all[if_neg,Int.natAbs_mul,Int.natAbs_pow,Jr]
def bB(neg:Bool)(n:Nat):Int:=if neg=true then-(n:Int)else n
theorem pf(n:Nat):bB true n=-(n:Int):=rfl
theorem lg(n:Nat):bB false n=(n:Int):=rfl
def Vo(an:Bool)(p:Int)(up:Bool)(s:(Nat×Int×Bool)×Bool):Rd×Int:=if s.1.1=0/\s.1.2.2=false then(aI,0)else gL (an !=s.2) (cB s.1.1 s.1.2.1 s.1.2.2 p (up != (an !=s.2)))
theorem Ht{an:Bool}{p:Int}{up:Bool}{N K:Nat}{f:Int}{more t:Bool}(hM:N/2^K≠0)(hm:more=decide (N%2^K≠0))(hp:more=true->p< (af (N/2^K):Nat)):
  Vo an p up ((N/2^K,f+K,more),t)=jj (bB (an !=t) N) f p up:=by
 have h0:N≠0:=fun h=>by
  simp_all
 unfold bB;rw[Ko h0,Vo,if_neg (fun h=>hM h.1)];grind[Yl]
theorem af4{x Y K:Nat}{f p:Int}{up an bn:Bool}(hx:x≠0)(hlost:Y%2^K≠0->p< (af (x- (Y/2^K+1)):Nat)/\p< (af (x+Y/2^K):Nat)/\Y/2^K+1<x):
  Vo an p up (PY an bn x (Y/2^K) (f+K) (decide (Y%2^K≠0)))=jj (bB an (x*2^K)+bB bn Y) f p up:=by
 have h2:=axb K;have hd:=axS Y (2^K);have hlt:=axq Y h2;unfold PY;by_cases hs:an=bn
 ·subst hs;rw[if_pos rfl];have e1:x+Y/2^K=(x*2^K+Y)/2^K:=by
   grind[axf,Nat.mul_add_div]
  have e2:(x*2^K+Y) %2^K=Y%2^K:=by
   simp_all
  have e3:bB an (x*2^K)+bB an Y=bB (an !=false) (x*2^K+Y):=by
   grind[bB,pf]
  rw[e3,e1,Ht]
  all_goals grind
 ·have hbn:bn=!an:=by
   cases an<;>cases bn<;>first|rfl|exact absurd rfl hs
  subst hbn;rw[if_neg hs];by_cases hl:Y%2^K≠0
  ·obtain⟨g1,g2,g3⟩:=hlost hl;have e0:tK (Y/2^K,decide (Y%2^K≠0))=Y/2^K+1:=by
    simp_all[tK,if_pos,decide_eq_true]
   rw[e0,if_neg (by omega)];obtain⟨y,hy⟩:∃y,Y/2^K=y:=⟨_,rfl⟩;rw[hy]at hd g1 g2 g3⊢;have e1:(x- (y+1))*2^K+(2^K-Y%2^K)=x*2^K-Y:=by
    have e4:(x- (y+1))*2^K=x*2^K- (2^K*y+2^K):=by
     rw[Nat.sub_mul,axk,Nat.one_mul,axf y]
    have e5:2^K*y+2^K<=x*2^K:=by
     have:(y+1)*2^K<=x*2^K:=awZ _ (by omega);grind
    omega
   have e6:(x*2^K-Y)/2^K=x- (y+1):=by
    rw[←e1,axf (x- (y+1)),Nat.mul_add_div h2,Nat.div_eq_of_lt (by omega)];rfl
   have e7:(x*2^K-Y) %2^K=2^K-Y%2^K:=by
    rw[←e1,axf (x- (y+1)),Nat.mul_add_mod,axK (by omega)]
   have e3:bB an (x*2^K)+bB (!an) Y=bB (an !=false) (x*2^K-Y):=by
    grind[bB,pf,lg]
   grind[Ht,decide_eq_true]
  ·have hl0:Y%2^K=0:=by omega
   have e0:tK (Y/2^K,decide (Y%2^K≠0))=Y/2^K:=by
    simp_all[tK,if_neg,of_decide_eq_true]
   rw[e0,hl0,show decide ((0:Nat)≠0)=false from rfl];rw[hl0,axo]at hd;obtain⟨y,hy⟩:∃y,Y/2^K=y:=⟨_,rfl⟩;rw[hy]at hd⊢;subst hd;by_cases hxy:x<y
   ·rw[if_pos hxy];have e6:((y-x)*2^K)/2^K=y-x:=Nat.mul_div_cancel _ h2;have e3:bB an (x*2^K)+bB (!an) (2^K*y)=bB (an !=true) ((y-x)*2^K):=by
     grind[bB,pf,lg]
    rw[e3];have:=Ht (an:=an) (p:=p) (up:=up) (N:=(y-x)*2^K) (K:=K) (f:=f) (more:=false) (t:=true) (by omega) (by simp_all) (fun h=>absurd h awW);grind
   ·rw[if_neg hxy];by_cases hE:x=y
    ·subst hE;have e3:bB an (x*2^K)+bB (!an) (2^K*x)=0:=by
      grind[bB,pf,lg]
     simp_all[Vo,if_pos,Nat.sub_self,jj]
    ·have e6:((x-y)*2^K)/2^K=x-y:=Nat.mul_div_cancel _ h2;have e3:bB an (x*2^K)+bB (!an) (2^K*y)=bB (an !=false) ((x-y)*2^K):=by
      grind[bB,pf,lg]
     rw[e3];have:=Ht (an:=an) (p:=p) (up:=up) (N:=(x-y)*2^K) (K:=K) (f:=f) (more:=false) (t:=false) (by omega) (by simp_all) (fun h=>absurd h awW);grind
theorem aob{b:Rd}{l:Int}(h1:-40000<=l)(h2:-40000<=b.e):yZ b l=(ab b.m*2^ (b.e+40000).toNat/2^ (l+40000).toNat,decide (ab b.m*2^ (b.e+40000).toNat%2^ (l+40000).toNat≠0)):=by
 unfold yZ;by_cases h:l<=b.e
 ·rw[if_pos h,show(b.e+40000).toNat=(b.e-l).toNat+(l+40000).toNat by omega,axa,←axn,Nat.mul_div_cancel _ (axb _),Nat.mul_mod_left];rfl
 ·have h3:=axb (b.e+40000).toNat;rw[if_neg h,show(l+40000).toNat=(l-b.e).toNat+(b.e+40000).toNat by omega,axa,Nat.mul_div_mul_right _ _ h3,Nat.mul_mod_mul_right];refine Prod.ext rfl ?_;show decide _=decide _;congr 1;refine propext ⟨fun h4 h5=>?_,fun h4 h5=>h4 ?_⟩
  ·rcases Nat.mul_eq_zero.1 h5 with h6|h6
   all_goals omega
  grind
theorem Vp{d:Rd}{k:Nat}(h:-16384<=d.e)(n:Nat)(hn:n=(d.e+16384).toNat+k):zI d*2^k=bB d.neg (ab d.m*2^n):=by
 have h1:(mg d:Int)*2^k=((ab d.m*2^ ((d.e+16384).toNat+k):Nat):Int):=by
  unfold mg;grind
 unfold zI bB;grind
theorem adh{a b:Rd}{p:Int}(h:b.e<wB a b p):2<aL a-aL b/\wB a b p<=aL a-p-8:=by
 unfold wB at h⊢;omega
theorem Ym{a b:Rd}(oa:Ok0 a)(ob:Ok0 b)(va:vd a=true)(vb:vd b=true)(na:a.m.length≠0)(nb:b.m.length≠0){p:Int}{up:Bool}(hp:8<=p/\p<=512)(ht:aL b<=aL a):
  Vn a b p up=jj (zI a+zI b) (-16384) p up:=by
 have e1:=iv va na;have e2:=iv vb nb;obtain⟨a1,a2,a3,a4⟩:=dM va oa.lb;obtain⟨b1,b2,b3,b4⟩:=dM vb ob.lb;have l1:=PX (a:=a) (b:=b) (p:=p);have l2:=MI va vb oa.lb ob.lb na nb hp ht;have l3:=adh (a:=a) (b:=b) (p:=p);show Vo a.neg p up (Cb a b p)=_;rw[PZ];obtain⟨l,hl⟩:∃l,wB a b p=l:=⟨_,rfl⟩;rw[hl]at l1 l2 l3⊢;obtain⟨K,hK⟩:∃K,(l+40000).toNat=K:=⟨_,rfl⟩;obtain⟨n1,hn1⟩:∃n,(a.e-l).toNat=n:=⟨_,rfl⟩;obtain⟨n2,hn2⟩:∃n,(b.e+40000).toNat=n:=⟨_,rfl⟩;have hx:ab a.m*2^n1≠0:=Nat.mul_ne_zero (dh va na) (Nat.pos_iff_ne_zero.1 (axb _));rw[aob (by omega) (by omega),hK,hn1,hn2];have bx:af (ab a.m*2^n1)=af (ab a.m)+n1:=dq _ (dh va na);have by':af (ab b.m*2^n2/2^K)=af (ab b.m)+n2-K:=by grind[kl,dq,dh]
 have hlK:l=-40000+(K:Int):=by omega
 rw[hlK,af4 hx]
 ·obtain⟨k,hk⟩:∃k:Nat,k=23616:=⟨_,rfl⟩;rw[axn,←axa,←Vp (k:=k) a2 (n1+K) (by omega),←Vp (k:=k) b2 n2 (by omega),←Int.add_mul,Rl,show(-40000:Int)+(k:Nat)=-16384 by omega]
 ·intro hne;have hb:b.e<l:=by
   refine Int.not_le.1 fun h=>hne ?_;rw[show n2=(b.e-l).toNat+K by omega,axa,←axn,Nat.mul_mod_left]
  obtain⟨X,hX⟩:∃X,ab a.m*2^n1=X:=⟨_,rfl⟩;obtain⟨Y,hY⟩:∃Y,ab b.m*2^n2/2^K=Y:=⟨_,rfl⟩;rw[hX]at bx⊢;rw[hY]at by'⊢;obtain⟨t,hT⟩:∃t,af X=t+4:=⟨af X-4,by omega⟩;have hX2:2^ (t+3)<=X:=jy.1 (by omega);have hY2:Y<2^ (t+1):=bK.1 (by omega);have q1:2^ (t+3)=4*2^ (t+1):=by grind
  have q2:2^ (t+2)=2*2^ (t+1):=by grind
  have g3:t+2<af (X- (Y+1)):=jy.2 (by omega);have g4:t+3<af (X+Y):=jy.2 (by omega);omega
def di(a b:Rd)(p:Int)(up:Bool):Rd×Int:=if aY p [a,b]=0 then jj (zI a+zI b) (-16384) p up else(aI,aY p [a,b])
def fF(a b:Rd)(p:Int)(up:Bool):Rd×Int:=if aY p [a,b]=0 then jj (zI a*zI b) (-32768) p up else(aI,aY p [a,b])
theorem cF{d:Rd}(h:d.m.length=0):zI d=0:=by
 grind[zI,Yf]
theorem aiB{p:Int}{up:Bool}(hp:8<=p/\p<=512):cB 0 0 false p up=(aI,0):=by
 have hu:-600<=fk 0 0 p/\fk 0 0 p<=0:=by
  grind[fk,pe]
 unfold cB;obtain⟨u,he⟩:∃u,fk 0 0 p=u:=⟨_,rfl⟩;rw[he]at hu⊢;have hq:mh up (qH 0 0 false u)=0:=by
  simp_all[qH,mh,if_pos,Nat.zero_mul,axx,if_neg,awW]
 unfold th;rw[hq,pe,if_neg (by omega)];rw[rK];unfold cH;rw[if_pos rfl,if_pos (by decide)]
theorem EV{d:Rd}(ok:Ok0 d){p:Int}{up:Bool}:sJ d p up=if aY p [d]=0 then jj (zI d) (-16384) p up else(aI,aY p [d]):=by
 unfold sJ;by_cases h0:aY p [d]=0
 ·obtain⟨v1,v2,v3⟩:=uF h0;have v4:vd d=true:=by grind
  obtain⟨h1,h2,h3,h4⟩:=dM v4 ok.lb;rw[if_pos h0,if_pos h0];by_cases hd:d.m.length=0
  ·have hz:=AD v4 hd;subst hz;rw[cF rfl,jj,if_pos rfl];show gL false (cB 0 0 false p (up !=false))=_;rw[aiB ⟨v2,v3⟩];rfl
  ·have hm:=Gm v4 hd;unfold zI;rw[Ko (by omega)];grind[mg,Jr]
 grind
theorem aiC{a b:Rd}(oa:Ok0 a)(ob:Ok0 b){p:Int}{up:Bool}:P0 a b p up=di a b p up:=by
 unfold P0 di;by_cases h0:aY p [a,b]=0
 ·obtain⟨v1,hp⟩:=uF h0;have v4:vd a=true/\vd b=true:=by grind
  have f1:∀d,vd d=true->aY p [d]=0:=fun d hd=>by
   simp_all[aY,if_pos]
  by_cases a0:a.m.length=0
  ·rw[if_pos a0,EV ob,if_pos (f1 b v4.2),cF a0,Int.zero_add]
  rw[if_neg a0];by_cases b0:b.m.length=0
  ·rw[if_pos b0,EV oa,if_pos (f1 a v4.1),cF b0,Int.add_zero]
  rw[if_neg b0];by_cases ht:aL a<aL b
  ·rw[if_pos ht,Ym ob oa v4.2 v4.1 b0 a0 hp (by omega),Int.add_comm]
  simp_all[if_neg,Ym]
 grind
theorem Yn{a b:Rd}(oa:Ok0 a)(ob:Ok0 b){p:Int}{up:Bool}:Jq a b p up=fF a b p up:=by
 unfold Jq fF;by_cases h0:aY p [a,b]=0
 ·obtain⟨v1,hp⟩:=uF h0;have v4:vd a=true/\vd b=true:=by grind
  obtain⟨va,vb⟩:=v4;obtain⟨a1,a2,a3,a4⟩:=dM va oa.lb;obtain⟨b1,b2,b3,b4⟩:=dM vb ob.lb;by_cases a0:a.m.length=0
  ·rw[if_pos (Or.inl a0),cF a0,Int.zero_mul,jj,if_pos rfl]
  by_cases b0:b.m.length=0
  ·rw[if_pos (Or.inr b0),cF b0,Int.mul_zero,jj,if_pos rfl]
  have hz:zI a*zI b=bB (a.neg !=b.neg) (mg a*mg b):=by
   unfold zI bB;cases a.neg<;>cases b.neg<;>simp[Int.mul_neg,Int.neg_mul]
  have hm:mg a*mg b=ab a.m*ab b.m*2^ ((a.e+16384).toNat+(b.e+16384).toNat):=by
   grind[mg,axa]
  have hv:ab a.m*ab b.m≠0:=Nat.mul_ne_zero (dh va a0) (dh vb b0);rw[hz];unfold bB;rw[Ko (Nat.mul_ne_zero (Nat.pos_iff_ne_zero.1 (Gm va a0)) (Nat.pos_iff_ne_zero.1 (Gm vb b0))),hm,Jr hv];grind
 grind
theorem iw{neg:Bool}{M:Nat}{e:Int}(h:M≠0):bm neg M e=⟨neg,av (M/2^tz M),e+tz M⟩:=by
 simp_all[rK,if_neg]
theorem iN{neg:Bool}{e:Int}:bm neg 0 e=aI:=by
 simp_all[rK,if_pos]
theorem jk{neg:Bool}{M k:Nat}{e:Int}:bm neg (M*2^k) e=bm neg M (e+k):=by
 by_cases h:M=0
 ·rw[h,Nat.zero_mul,iN,iN]
 ·have h2:M*2^k≠0:=Nat.mul_ne_zero h (Nat.pos_iff_ne_zero.1 (axb k));rw[iw h,iw h2,axf M,Jg k h,axa,Nat.mul_div_mul_left _ _ (axb k)];grind
theorem rL{neg:Bool}{M:Nat}{e:Int}(h:M≠0):ab (bm neg M e).m=M/2^tz M/\(bm neg M e).e=e+tz M/\M/2^tz M%2=1/\af (M/2^tz M)+tz M=af M:=by
 grind[sT,iw,aN,dq,tz,axf]
theorem ML{neg:Bool}{M:Nat}{e:Int}(h:M≠0)(h1:af M<=4096)(h2:-16384<=e)(h3:(af M:Nat)+e<=16384):qF (af (ab (bm neg M e).m)) (bm neg M e).e=true:=by
 grind[rL,af,tz,eL,qF,decide_eq_true]
theorem Gn{neg:Bool}{M:Nat}{e:Int}(h:qF (af (ab (bm neg M e).m)) (bm neg M e).e=true):vd (bm neg M e)=true:=by
 by_cases h0:M=0
 ·subst h0;rfl
 ·obtain⟨g1,g2,g3,g4⟩:=rL (neg:=neg) (e:=e) h0;have hn:M/2^tz M≠0:=by omega
  rw[g1]at h;have hb:=(AE h (Nat.pos_iff_ne_zero.1 (eL hn))).1;rw[iw h0]at h⊢;unfold vd;have hl:(av (M/2^tz M)).length<=128:=aT (by omega);have hl0:(av (M/2^tz M)).length≠0:=fun h5=>hn (nU.1 (List.length_eq_zero_iff.1 h5));have ht:(av (M/2^tz M)).getD ((av (M/2^tz M)).length-1) 0≠0:=(Jf _).resolve_left (fun h5=>hn (nU.1 h5));have ho:(av (M/2^tz M)).getD 0 0%2=1:=by
   grind[qD,tz]
  rw[aN,if_neg hl0,decide_eq_true (p:=(av (M/2^tz M)).length<=256) (by omega),decide_eq_true ho,decide_eq_true ht];grind
theorem DU{neg:Bool}{M:Nat}{e:Int}(h1:af M<=4096)(h2:-16384<=e)(h3:(af M:Nat)+e<=16384):cH (bm neg M e)=(bm neg M e,0):=by
 unfold cH;by_cases h:M=0
 ·subst h;rw[iN,if_pos (by decide)]
 simp_all[if_pos,ML]
theorem af5{M:Nat}{e:Int}(h1:af M<=4096)(h2:-16384<=e)(h3:(af M:Nat)+e<=16384):gJ (bm false M e)=bm true M e:=by
 by_cases h:M=0
 ·subst h;rfl
 ·have hv:=Gn (ML (neg:=false) h h1 h2 h3);obtain⟨g1,g2,g3,g4⟩:=rL (neg:=false) (e:=e) h;unfold gJ;rw[if_neg]
  ·grind[iw]
  ·grind[ab]
theorem Yo{neg:Bool}{M:Nat}{e:Int}(h1:af M<=4096)(h2:-16384<=e)(h3:(af M:Nat)+e<=16384):gL neg (cH (bm false M e))=(bm neg M e,0):=by
 rw[DU h1 h2 h3];unfold gL;cases neg with
 |false=>rw[if_neg (fun h=>awW h.2)]
 |true=>
  grind[af5]
def Js(M:Nat)(e p:Int):Nat:=(max (max ((af M:Nat)-p) (0-16384-e)) 0).toNat
def MM(M k:Nat)(more out:Bool):Nat:=if((more||decide (M%2^k≠0))&&out)=true then M/2^k+1 else M/2^k
def AI(neg out:Bool)(p:Int)(q:Nat)(e:Int):Rd×Int:=if q≠0/\16384< (af q:Nat)+e then(if out=true then(aI,9)else(bm neg (2^p.toNat-1) (16384-p),0))else(bm neg q e,0)
def DV(neg:Bool)(M:Nat)(e:Int)(more:Bool)(p:Int)(up:Bool):Rd×Int:=AI neg (neg !=up) p (MM M (Js M e p) more (neg !=up)) (e+Js M e p)
theorem Vq{p:Int}{neg up:Bool}{q:Nat}{u:Int}(hp:8<=p/\p<=512)(hq:af q<=4096)(hu:-16384<=u)(h0:q=0->u<=16384):gL neg (th p up q u)=AI neg up p q u:=by
 unfold th AI;by_cases h:16384< ((af q:Nat):Int)+u
 ·have hq0:q≠0:=fun h1=>by
   grind[pe]
  cases up with
  |true=>
   simp_all[gL,if_neg]
  |false=>
   grind[Vm,Yo]
 simp_all[if_neg,Yo]
theorem abm{neg out:Bool}{p:Int}{M k:Nat}{e:Int}:AI neg out p (M*2^k) e=AI neg out p M (e+k):=by
 unfold AI;rw[jk];grind[Nat.mul_ne_zero,axb,af,dq]
theorem Rn(q:Nat):af (q+1)<=af q+1:=by
 rw[bK,axO];have:=bK.1 (awQ (af q));omega
theorem adi{neg:Bool}{M:Nat}{e p:Int}{more up:Bool}(hp:8<=p/\p<=512)(hM:M≠0)(hm:more=true->p< (af M:Nat)):DV neg M e more p up=gL neg (cB M e more p (up !=neg)):=by
 have hx:(neg !=up)=(up !=neg):=by grind
 unfold DV;rw[hx];unfold cB;obtain⟨u,hu⟩:∃u,fk M e p=u:=⟨_,rfl⟩;obtain⟨k,hk⟩:∃k,Js M e p=k:=⟨_,rfl⟩;rw[hu,hk];unfold fk at hu;unfold Js at hk;have hu1:-16384<=u/\e+(af M:Nat)-p<=u:=by
  omega
 by_cases hc:u<=e
 ·have hk0:k=0:=by
   omega
  have hmf:more=false:=by
   grind
  subst hk0;subst hmf;unfold qH MM;rw[if_pos hc,Nat.pow_zero,Nat.mod_one,show(false||decide ((0:Nat)≠0))=false from rfl,awU,if_neg awW,Nat.div_one];unfold mh;rw[axx,if_neg awW];have hq:=dq (e-u).toNat hM;rw[Vq hp (by omega) hu1.1 (fun h=>absurd (Nat.mul_eq_zero.1 h) (fun h2=>h2.elim hM (fun h3=>absurd h3 (Nat.pos_iff_ne_zero.1 (axb _)))))];grind[abm]
 ·have hk0:k=(u-e).toNat:=by
   omega
  unfold qH MM;rw[if_neg hc,←hk0];have hq:af (M/2^k)<=513:=by
   grind[kl]
  have hq2:=Rn (M/2^k);have h3:mh (up !=neg) (M/2^k,more||decide (M%2^k≠0))=if((more||decide (M%2^k≠0))&& (up !=neg))=true then M/2^k+1 else M/2^k:=by
   grind[mh,Bool.and_comm]
  rw[h3];rw[Vq hp (by split<;>omega) hu1.1]
  ·rw[show e+(k:Int)=u by omega]
  ·grind[af,kl]
theorem Oo{neg:Bool}{M:Nat}{e p:Int}{up:Bool}(hp:8<=p/\p<=512):DV neg M e false p up=jj (bB neg M) e p up:=by
 by_cases hM:M=0
 ·simp_all[bB,jj,if_pos,DV,MM,AI,Nat.zero_mod,Nat.zero_div,awU,if_neg,awW,iN]
 simp_all[adi,absurd,awW,bB,Ko]
theorem adj{M:Nat}{f p:Int}{more w neg:Bool}:vd (gL neg (cB M f more p w)).1=true/\Ok0 (gL neg (cB M f more p w)).1:=by
 have h0:vd aI=true/\Ok0 aI:=⟨rfl,⟨fun x hx=>(nomatch hx),by decide⟩⟩;have hc:∀ (q:Nat) (u:Int),vd (cH (bm false q u)).1=true/\Ok0 (cH (bm false q u)).1:=fun q u=>by
  unfold cH;by_cases h:qF (af (ab (bm false q u).m)) (bm false q u).e=true
  ·rw[if_pos h];have hv:=Gn h;have hb:=yc false q u;exact⟨hv,hb,axF (zG hv hb) (by decide)⟩
  grind
 have he:∀ (up:Bool) (q:Nat) (u:Int),vd (th p up q u).1=true/\Ok0 (th p up q u).1:=fun up q u=>by
  grind[th]
 have hs:∀ (neg:Bool) (r:Rd×Int),(vd r.1=true/\Ok0 r.1)->vd (gL neg r).1=true/\Ok0 (gL neg r).1:=fun neg r hr=>by
  unfold gL gJ;split
  ·split
   ·omega
   ·refine⟨?_,hr.2.1,hr.2.2⟩
    simp_all[vd,if_neg]
  omega
 exact hs _ _ (he _ _ _)
theorem sK{z f p:Int}{up:Bool}:vd (jj z f p up).1=true/\Ok0 (jj z f p up).1:=by
 unfold jj;split
 ·exact⟨rfl,⟨fun x hx=>(nomatch hx),by decide⟩⟩
 ·exact adj
noncomputable def sL:Cmd:=.seq (.ops [2,3,4,8,11,12] [⟨(some 52),none,.load 3 true (.t 4)⟩,⟨(some 53),none,.load 3 true (.t 5)⟩,cm 54 2,⟨(some 55),none,.call (.c (.fn F.round_sum [] [])) [(.t 52),(.t 53),(.t 54)]⟩,cm 51 55,co 56 (.ext 0 (.t 51)),co 57 (.ext 1 (.t 51)),⟨(some 11),none,.alloc [.emp,(.v (.int .i64 0)),(.v (.bool false))]⟩,⟨none,none,.store 3 (.t 11) (.t 56)⟩,cm 12 57]) (.seq (.seq (.ops [2,3,4,8,11,12,66] [co 58 (.fadr 0 (.t 11)),⟨(some 59),none,.load 1 false (.t 58)⟩,co 60 (.len false (.t 59)),co 61 (.bin .eql (.t 60) (.c (.v (.int .i64 0)))),cm 62 61,cg 63 62 true (.fadr 2 (.t 11)),⟨(some 64),(some (62,true)),.load 1 false (.t 63)⟩,cg 65 62 true (.un .not (.t 64)),co 66 (.pick (.t 62) (.t 65) (.c (.v (.bool false))))]) (.cond (.t 66) (.seq (.ops [8,9] [co 67 (.build [(.v (.bool false)),.emp,(.v (.int .i64 0))] []),⟨none,none,.store 3 (.t 8) (.t 67)⟩,co 9 (.mv (.c (.v (.int .i64 0))))]) (.ret)) (.skip))) (.seq (.ops [8,9] [co 68 (.fadr 0 (.t 4)),⟨(some 69),none,.load 1 false (.t 68)⟩,cm 70 12,co 71 (.eqc true 0 (.t 69) (.t 70)),⟨(some 72),none,.load 3 true (.t 11)⟩,cm 73 2,cm 74 3,⟨(some 75),none,.call (.c (.fn F.round_signed [] [])) [(.t 71),(.t 72),(.t 73),(.t 74)]⟩,co 76 (.ext 0 (.t 75)),co 77 (.ext 1 (.t 75)),⟨none,none,.store 3 (.t 8) (.t 76)⟩,cm 9 77]) (.ret)))
theorem BF:wM=.seq (.ops [2,3,4,5,8] [⟨(some 4),none,.box 3 (.t 0)⟩,⟨(some 5),none,.box 3 (.t 1)⟩,⟨(some 8),none,.alloc [(.v (.bool false)),.emp,(.v (.int .i64 0))]⟩,co 9 (.mv (.c (.v (.int .i64 0))))]) (.seq (.seq (.ops [2,3,4,5,8,10] [cm 13 2,⟨(some 14),none,.load 3 true (.t 4)⟩,⟨(some 15),none,.load 3 true (.t 5)⟩,⟨(some 16),none,.buildSl 3 [(.v (.bool false)),.emp,(.v (.int .i64 0))] 2 [(0,(.t 14)),(1,(.t 15))]⟩,⟨(some 17),none,.call (.c (.fn F.round_fault [] [])) [(.t 13),(.t 16)]⟩,cm 10 17]) (.seq (.ops [2,3,4,5,8,10,19] [cm 18 10,co 19 (.bin .neq (.t 18) (.c (.v (.int .i64 0))))]) (.cond (.t 19) (.seq (.ops [8,9] [co 20 (.build [(.v (.bool false)),.emp,(.v (.int .i64 0))] []),cm 21 10,⟨none,none,.store 3 (.t 8) (.t 20)⟩,cm 9 21]) (.ret)) (.skip)))) (.seq (.block 0 [2,3,4,5,8] (.seq (.ops [2,3,4,5,8,22] [co 23 (.fadr 1 (.t 4)),⟨(some 24),none,.load 1 false (.t 23)⟩,co 25 (.len false (.t 24)),co 26 (.bin .eql (.t 25) (.c (.v (.int .i64 0)))),cm 22 26]) (.cond (.t 22) (.seq (.ops [8,9] [⟨(some 27),none,.load 3 true (.t 5)⟩,cm 28 2,cm 29 3,⟨(some 30),none,.call (.c (.fn F.round_round [] [])) [(.t 27),(.t 28),(.t 29)]⟩,co 31 (.ext 0 (.t 30)),co 32 (.ext 1 (.t 30)),⟨none,none,.store 3 (.t 8) (.t 31)⟩,cm 9 32]) (.ret)) (.seq (.ops [2,3,4,5,8,33] [co 34 (.fadr 1 (.t 5)),⟨(some 35),none,.load 1 false (.t 34)⟩,co 36 (.len false (.t 35)),co 37 (.bin .eql (.t 36) (.c (.v (.int .i64 0)))),cm 33 37]) (.cond (.t 33) (.seq (.ops [8,9] [⟨(some 38),none,.load 3 true (.t 4)⟩,cm 39 2,cm 40 3,⟨(some 41),none,.call (.c (.fn F.round_round [] [])) [(.t 38),(.t 39),(.t 40)]⟩,co 42 (.ext 0 (.t 41)),co 43 (.ext 1 (.t 41)),⟨none,none,.store 3 (.t 8) (.t 42)⟩,cm 9 43]) (.ret)) (.skip)))))) (.seq (.seq (.dops [2,3,4,5,8,48] [⟨(some 44),none,.load 3 true (.t 4)⟩,⟨(some 45),none,.call (.c (.fn F.dyadic_Top [] [])) [(.t 44)]⟩,⟨(some 46),none,.load 3 true (.t 5)⟩,⟨(some 47),none,.call (.c (.fn F.dyadic_Top [] [])) [(.t 46)]⟩,co 48 (.bin .lss (.t 45) (.t 47))] [(1,2)]) (.cond (.t 48) (.ops [2,3,4,5,8] [⟨(some 49),none,.load 3 true (.t 5)⟩,⟨(some 50),none,.load 3 true (.t 4)⟩,⟨none,none,.store 3 (.t 4) (.t 49)⟩,⟨none,none,.store 3 (.t 5) (.t 50)⟩]) (.skip))) sL))):=rfl
theorem aiD{a b:Rd}(oa:Ok0 a)(ob:Ok0 b)(va:vd a=true)(vb:vd b=true)(na:a.m.length≠0)(nb:b.m.length≠0){p:Int}(hp:8<=p/\p<=512)(ht:aL b<=aL a):
  af (Cb a b p).1.1<=4120∧-40000<=(Cb a b p).1.2.1/\(Cb a b p).1.2.1<=40000:=by
 have e1:=iv va na;have e2:=iv vb nb;obtain⟨a1,a2,a3,a4⟩:=dM va oa.lb;obtain⟨b1,b2,b3,b4⟩:=dM vb ob.lb;have l1:=PX (a:=a) (b:=b) (p:=p);have l2:=MI va vb oa.lb ob.lb na nb hp ht;have ba:=eL (dh va na);have bb:=eL (dh vb nb);rw[PZ];obtain⟨l,hl⟩:∃l,wB a b p=l:=⟨_,rfl⟩;rw[hl]at l1 l2⊢;have hX:af (ab a.m*2^ (a.e-l).toNat)<=4100:=by
  rw[dq _ (dh va na)];omega
 have hY:af (yZ b l).1<=4100:=by
  unfold yZ;split
  ·rw[dq _ (dh vb nb)];omega
  ·show af (_/_)<=_;rw[kl];omega
 generalize(yZ b l).1=Y at hY⊢;generalize(yZ b l).2=lost;generalize ab a.m*2^ (a.e-l).toNat=X at hX⊢;have hU:af (tK (Y,lost))<=4101:=by
  unfold tK;split
  ·have:=Rn Y;show af (Y+1)<=4101;omega
  ·show af Y<=4101;omega
 have hm:∀x y:Nat,x<=y->af y<=4101->af x<=4101:=fun x y h1 h2=>yb h1 h2;generalize hYU:tK (Y,lost)=YU at hU;unfold PY;rw[hYU];split
 ·have:=DT hX hY;exact⟨awX this (by decide),by show-40000<=l;omega,by show l<=40000;omega⟩
 ·split
  ·exact⟨awX (hm _ _ (Nat.sub_le _ _) hU) (by decide),by show-40000<=l;omega,by show l<=40000;omega⟩
  ·exact⟨awX (hm _ _ (Nat.sub_le _ _) (awX hX (by decide))) (by decide),by show-40000<=l;omega,by show l<=40000;omega⟩
theorem Ro{a b:Rd}(oa:Ok0 a)(ob:Ok0 b)(va:vd a=true)(vb:vd b=true)(na:a.m.length≠0)(nb:b.m.length≠0){n:Nat}{up:Bool}(hp:8<=n/\n<=512)(ht:aL b<=aL a)(s:ak)(h:ac)
  (h2:s 2=I (n:Nat)) (h3:s 3=B up) (h4:s 4=.ref 4 none 0 0 0) (h5:s 5=.ref 5 none 0 0 0) (h8:s 8=.ref 8 none 0 0 0)
  (k4:h 4=.bx (ah a)) (k5:h 5=.bx (ah b)) (k8:h 8=.bx [.v (.bool false),.emp,.v (.int .i64 0)]) (kd:∀i,i≠4->i≠5->i≠8->i≠16->h i=.dead):
  gZ false [[.o 0 [],.o 2 [],.o 0 []],[]] [.cell 8 3 true,.t 9] 0 (ai R (az false) sL s h)=some (rV (Vn a b (n:Nat) up),[]):=by
 have hs:=alb oa ob va vb na nb (p:=(n:Nat)) ⟨by omega,by omega⟩ ht;obtain⟨g1,g2,g3⟩:=aiD oa ob va vb na nb (p:=(n:Nat)) ⟨by omega,by omega⟩ ht;have hl:(av (Cb a b (n:Nat)).1.1).length<=256:=aT (by omega);have hg:=fun neg up=>EU (M:=av (Cb a b (n:Nat)).1.1) (e:=(Cb a b (n:Nat)).1.2.1) (n:=n) (more:=(Cb a b (n:Nat)).1.2.2) (up:=up) (neg:=neg) (aZ _) hl ⟨g2,g3⟩ hp;unfold Vn;generalize Cb a b (n:Nat)=z at hs g1 g2 g3 hl hg⊢;obtain⟨⟨M,l,more⟩,t⟩:=z;simp only[sV,ae,ah,wU]at hs hg k4 k5;simp only[aN]at hg;have hw:=hg (a.neg !=t) up;generalize hr:gL (a.neg !=t) (cB M l more (n:Nat) (up != (a.neg !=t)))=r at hw;simp only[rV,ae,ah]at hw;by_cases hM:M=0
 ·have e1:(((av M).length:Int)=0)=True:=tt (by rw[hM,fj];rfl);cases more with
  |false=>
   rw[if_pos ⟨hM,rfl⟩];clear hr;simp only[sL,rV,ae,ah,aI,go_sem,ne_eq,not_false_eq_true,h2,h3,h4,h5,h8,k4,k5,k8,kd,hs,e1]
  |true=>
   rw[if_neg (fun h=>awW h.2.symm)];rw[show gL (a.neg !=t) (cB M l true (n:Nat) (up != (a.neg !=t)))=r from hr];clear hr;simp only[sL,rV,ae,ah,go_sem,ne_eq,not_false_eq_true,h2,h3,h4,h5,h8,k4,k5,k8,kd,hs,e1,zF,hw]
 ·have e1:(((av M).length:Int)=0)=False:=ff (fun h=>hM (nU.1 (List.length_eq_zero_iff.1 (by omega))));rw[if_neg (fun h=>hM h.1)];rw[show gL (a.neg !=t) (cB M l more (n:Nat) (up != (a.neg !=t)))=r from hr];clear hr;simp only[sL,rV,ae,ah,go_sem,ne_eq,not_false_eq_true,h2,h3,h4,h5,h8,k4,k5,k8,kd,hs,e1,zF,hw]
theorem af6{a b:Rd}(oa:Ok0 a)(ob:Ok0 b){p:Int}{up:Bool}(h0:aY p [a,b]=0)(a0:a.m.length≠0)(b0:b.m.length≠0):R F.round_add [ae a,ae b,I p,B up] []=some (rV (P0 a b p up),[]):=by
 refine ax LK rfl ?_;have hf:R F.round_fault [I p,.sl 3 [[B a.neg,lm a.m,I a.e],[B b.neg,lm b.m,I b.e]]] []=some (I (aY p [a,b]),[]):=AH (p:=p) (l:=[a,b]) (fun x hx=>by
  rcases List.mem_cons.1 hx with h|h
  ·rw[h];exact oa
  ·rw[List.mem_singleton.1 h];exact ob) (show 2<=100000 by decide)
 rw[h0]at hf;obtain⟨v1,hp⟩:=uF h0;have v4:vd a=true/\vd b=true:=by simpa using v1
 obtain⟨va,vb⟩:=v4;have ta:=BD oa;have tb:=BD ob;simp only[ae,ah]at ta tb;obtain⟨n,rfl⟩:=ax5 (show 0<=p by omega);have e1:((a.m.length:Int)=0)=False:=ff;have e2:((b.m.length:Int)=0)=False:=ff;unfold P0;rw[if_pos h0,if_neg a0,if_neg b0];by_cases ht:aL a<aL b
 ·have e3:(aL a<aL b)=True:=tt ht;rw[if_pos ht];simp only[mV,BF,ae,ah,go_sem,hf,e1,e2,ta,tb,e3];refine Ro ob oa vb va b0 a0 (by omega) (by omega) _ _ rfl rfl rfl rfl rfl rfl rfl rfl fun i h4 h5 h8 h16=>?_;simp only[azJ,h4,h5,h8,h16,if_false]
 ·have e3:(aL a<aL b)=False:=ff ht;rw[if_neg ht];simp only[mV,BF,ae,ah,go_sem,hf,e1,e2,ta,tb,e3];refine Ro oa ob va vb a0 b0 (by omega) (by omega) _ _ rfl rfl rfl rfl rfl rfl rfl rfl fun i h4 h5 h8 h16=>?_;simp only[azJ,h4,h5,h8,h16,if_false]
theorem Yp{a b:Rd}(oa:Ok0 a)(ob:Ok0 b){p:Int}{up:Bool}:R F.round_add [ae a,ae b,I p,B up] []=some (rV (di a b p up),[]):=by
 rw[←aiC oa ob];by_cases h0:aY p [a,b]=0
 ·by_cases a0:a.m.length=0
  ·exact MK oa ob (Or.inr (Or.inl a0))
  ·by_cases b0:b.m.length=0
   ·exact MK oa ob (Or.inr (Or.inr b0))
   ·exact af6 oa ob h0 a0 b0
 ·exact MK oa ob (Or.inl h0)
theorem Vr{a b:Rd}(oa:Ok0 a)(ob:Ok0 b){p:Int}:R F.round_AddUp [ae a,ae b,I p] []=some (rV (di a b p true),[]):=by
 refine ax SQ rfl ?_;have hr:=Yp oa ob (p:=p) (up:=true);generalize di a b p true=r at hr⊢;simp only[rV,ae,ah]at hr;simp only[An,H2,rV,ae,ah,go_sem,hr]
theorem Hu{a b:Rd}(oa:Ok0 a)(ob:Ok0 b){p:Int}:R F.round_AddDown [ae a,ae b,I p] []=some (rV (di a b p false),[]):=by
 refine ax N0 rfl ?_;have hr:=Yp oa ob (p:=p) (up:=false);generalize di a b p false=r at hr⊢;simp only[rV,ae,ah]at hr;simp only[xw,EC,rV,ae,ah,go_sem,hr]
theorem Rq{a b:Rd}(oa:Ok0 a)(ob:Ok0 b){p:Int}:R F.round_MulUp [ae a,ae b,I p] []=some (rV (fF a b p true),[]):=by
 rw[←Yn oa ob];exact af2 oa ob
theorem LL{a b:Rd}(oa:Ok0 a)(ob:Ok0 b){p:Int}:R F.round_MulDown [ae a,ae b,I p] []=some (rV (fF a b p false),[]):=by
 rw[←Yn oa ob];exact abl oa ob
def bZ(d:Rd)(p:Int)(up:Bool):Rd×Int:=if aY p [d]=0 then jj (zI d) (-16384) p up else(aI,aY p [d])
theorem Yq{d:Rd}(ok:Ok0 d){p:Int}:R F.round_Up [ae d,I p] []=some (rV (bZ d p true),[]):=by
 have h:=EV ok (p:=p) (up:=true);rw[bZ,←h];exact ala ok
theorem Ru{d:Rd}(ok:Ok0 d){p:Int}:R F.round_Down [ae d,I p] []=some (rV (bZ d p false),[]):=by
 have h:=EV ok (p:=p) (up:=false);rw[bZ,←h];exact af1 ok
structure Ri where
 lo:Rd
 hi:Rd
 all:Bool
def ao(x:Ri):List AV:=[B x.lo.neg,lm x.lo.m,I x.lo.e,B x.hi.neg,lm x.hi.m,I x.hi.e,B x.all]
def am(x:Ri):AV:=.agg (ao x)
def dN:Ri:=⟨aI,aI,true⟩
structure OkI (x:Ri):Prop where
 lo:Ok0 x.lo
 hi:Ok0 x.hi
def z0(d:Rd):Bool:=!d.neg&& (decide (d.m.length=0)&&decide (d.e=0))
def vi(x:Ri):Bool:=if x.all=true then z0 x.lo&&z0 x.hi else vd x.lo&& (vd x.hi&&decide (zI x.lo<=zI x.hi))
def kI(x:Ri):Bool:=!x.all&&vi x
def bJ(p:Int):Bool:=decide (8<=p)&&decide (p<=512)
theorem uH{p:Int}:R F.interval_permitted [I p] []=some (B (bJ p),[]):=by
 refine ax Hf rfl ?_;unfold bJ;by_cases h1:8<=p
 ·have e1:(8<=p)=True:=tt h1;simp only[kV,rp,go_sem,e1,decide_true,awT]
 ·have e1:(8<=p)=False:=ff h1;simp only[kV,rp,go_sem,e1,decide_false,awU]
theorem lC:R F.interval_Whole [] []=some (am dN,[]):=by
 refine ax Mi rfl ?_;simp only[wk,Dh,am,ao,dN,aI,go_sem]
theorem ahK{d:Rd}:R F.interval_Valid_1 [ae d] []=some (B (z0 d),[]):=by
 refine ax Ji rfl ?_;unfold z0;cases hn:d.neg with
 |true=>simp only[gU,kJ,ae,ah,go_sem,hn,Bool.not_true,awU]
 |false=>
  by_cases h1:d.m.length=0
  ·have e1:((d.m.length:Int)=0)=True:=tt;by_cases h2:d.e=0
   ·have e2:(d.e=0)=True:=tt h2;rw[decide_eq_true h1,decide_eq_true h2];simp only[gU,kJ,ae,ah,go_sem,hn,e1,e2,axZ,awT]
   ·have e2:(d.e=0)=False:=ff h2;rw[decide_eq_true h1,decide_eq_false h2];simp only[gU,kJ,ae,ah,go_sem,hn,e1,e2,axZ,awT]
  ·have e1:((d.m.length:Int)=0)=False:=ff;rw[decide_eq_false h1];simp only[gU,kJ,ae,ah,go_sem,hn,e1,axZ,awT,awU]
theorem vL{x y:Int}:(cp x y<=0)=(x<=y):=by
 grind[cp]
theorem mj{x:Ri}(ok:OkI x):R F.interval_Valid [am x] []=some (B (vi x),[]):=by
 refine ax Mf rfl ?_;unfold vi;have zl:=ahK (d:=x.lo);have zh:=ahK (d:=x.hi);have vl:=ef ok.lo;have vh:=ef ok.hi;have hc:=qG ok.lo ok.hi;simp only[ae,ah]at zl zh vl vh hc;cases ha:x.all with
 |true=>
  cases h1:z0 x.lo with
  |true=>
   rw[h1]at zl;simp only[gF,jZ,am,ao,go_sem,ha,zl,zh,awT]
  |false=>
   rw[h1]at zl;simp only[gF,jZ,am,ao,go_sem,ha,zl,awU]
 |false=>
  cases h1:vd x.lo with
  |false=>
   rw[h1]at vl;simp only[gF,jZ,am,ao,go_sem,ha,vl,awU]
  |true=>
   rw[h1]at vl;cases h2:vd x.hi with
   |false=>
    rw[h2]at vh;simp only[gF,jZ,am,ao,go_sem,ha,vl,vh,awT,awU]
   |true=>
    rw[h2]at vh;rw[h1,h2,if_pos ⟨rfl,rfl⟩]at hc;simp only[gF,jZ,am,ao,go_sem,ha,vl,vh,hc,vL,awT]
theorem iD{d:Rd}(ok:Ok0 d)(hv:vd d=true):R F.interval_Point [ae d] []=some (am ⟨d,d,false⟩,[]):=by
 refine ax Mg rfl ?_;have vl:=ef ok;rw[hv]at vl;simp only[ae,ah]at vl;simp only[wj,Dg,ae,ah,am,ao,go_sem,vl]
def tL(r s:Rd×Int):Ri:=if r.2=0/\s.2=0 then⟨r.1,s.1,false⟩else dN
theorem P1{a b:Rd}{e f:Int}:R F.interval_made [ae a,I e,ae b,I f] []=some (am (tL (a,e) (b,f)),[]):=by
 refine ax N8 rfl ?_;have hw:=lC;unfold tL;by_cases h1:e=0
 ·have e1:(e=0)=True:=tt h1;by_cases h2:f=0
  ·have e2:(f=0)=True:=tt h2;simp only[mU,tD,ae,ah,am,ao,go_sem,e1,e2]
  ·have e2:(f=0)=False:=ff h2;simp only[mU,tD,ae,ah,am,ao,go_sem,e1,e2,hw]
 ·have e1:(e=0)=False:=ff h1;simp only[mU,tD,ae,ah,am,ao,go_sem,e1,hw]
def bL(l:List Ri):List (List AV):=l.map ao
@[go_sem] theorem Yr(l:List Ri):(bL l).length=l.length:=by simp[bL]
theorem CR{l:List Ri}{i:Int}{n:Nat}{d:Ri}(hi:i=n)(h:l[n]?=some d):aW (bL l) i=some (.ipt (ao d)):=by
 grind[aW,bL]
theorem abn(l:List Ri)(ok:∀d∈l,OkI d)(h2:l.length<=100000):∀ (k i:Nat),i+k=l.length->∀ (s:ak) (h:ac),s 5=.sl 7 (bL l)->s 6=I l.length->s 7=I i->
  ∃hh,aj 0 [] (au (ai R (az false) gV) [5,6,7] [] s h)=if((l.drop i).all kI)=true then some (.normal,⟨fun _=>.any,fun _=>.dead⟩)else some (.ret,⟨upd (fun _=>.any) 2 (B false),hh⟩):=by
 intro k;induction k with
 |zero=>
  intro i hi s h h5 h6 h7;have e1:((i:Int)<l.length)=False:=ff;rw[axi (by omega),ag,List.all_nil,if_pos rfl];refine⟨fun _=>.dead,?_⟩;simp only[gV,go_sem,h5,h6,h7,e1]
 |succ k ih=>
  intro i hi s h h5 h6 h7;have hlt:i<l.length:=by omega
  have e1:((i:Int)<l.length)=True:=tt;have e2:aW (bL l) (i:Int)=some (.ipt (ao l[i])):=CR rfl (List.getElem?_eq_getElem hlt);have e5:IntKind.i64.wrap ((i:Int)+1)=((i+1:Nat):Int):=wi;have e3:=mj (ok l[i] (axr hlt));rw[axh hlt,axu,ag];have ih':=ih (i+1) (by omega);generalize l[i]=d at e2 e3⊢;simp only[am]at e3;simp only[ao]at e2 e3;unfold kI at ih'⊢;cases ha:d.all with
  |true=>
   refine⟨?hh,?_⟩;rotate_left;simp only[gV,go_sem,h5,h6,h7,e1,e2,ha];rfl
  |false=>
   rw[ha]at e3;cases hv:vi d with
   |false=>
    rw[hv]at e3;refine⟨?hh2,?_⟩;rotate_left;simp only[gV,go_sem,h5,h6,h7,e1,e2,e3,ha];rfl
   |true=>
    rw[hv]at e3;simp only[gV,go_sem,h5,h6,h7,e1,e2,e3,e5,ha];exact ih' _ _ rfl rfl rfl
theorem Vs{l:List Ri}(ok:∀d∈l,OkI d)(h2:l.length<=100000):R F.interval_known [.sl 7 (bL l)] []=some (B (l.all kI),[]):=by
 refine ax Mj rfl ?_;have h3:=abn l ok h2 l.length 0 (awP _);simp only[ax0,axB]at h3;cases ha:l.all kI with
 |false=>
  rw[ha]at h3;simp only[pI,xu,go_sem];rw[(h3 _ _ rfl rfl rfl).choose_spec];simp only[go_sem]
 |true=>
  rw[ha]at h3;simp only[pI,xu,go_sem];rw[(h3 _ _ rfl rfl rfl).choose_spec];simp only[go_sem]
theorem uI{x:Ri}(ok:OkI x):R F.interval_known [.sl 7 [[B x.lo.neg,lm x.lo.m,I x.lo.e,B x.hi.neg,lm x.hi.m,I x.hi.e,B x.all]]] []=some (B (kI x),[]):=by
 have h:=Vs (l:=[x]) (fun d hd=>by grind) (show 1<=100000 by decide);rw[axu,List.all_nil,Bool.and_true]at h;exact h
theorem EW{x y:Ri}(ox:OkI x)(oy:OkI y):R F.interval_known [.sl 7 [[B x.lo.neg,lm x.lo.m,I x.lo.e,B x.hi.neg,lm x.hi.m,I x.hi.e,B x.all],[B y.lo.neg,lm y.lo.m,I y.lo.e,B y.hi.neg,lm y.hi.m,I y.hi.e,B y.all]]] []=some (B (kI x&&kI y),[]):=by
 have h:=Vs (l:=[x,y]) (fun d hd=>by
  grind) (show 2<=100000 by decide)
 rw[axu,axu,List.all_nil,Bool.and_true]at h;exact h
def cW(x y:Ri)(p:Int):Ri:=if(kI x&&kI y&&bJ p)=true then tL (di x.lo y.lo p false) (di x.hi y.hi p true)else dN
theorem vM{x y:Ri}(ox:OkI x)(oy:OkI y){p:Int}:R F.interval_Add [am x,am y,I p] []=some (am (cW x y p),[]):=by
 refine ax Py rfl ?_;have hk:=EW ox oy;have hp:=uH (p:=p);have hw:=lC;have hd:=Hu ox.lo oy.lo (p:=p);have hu:=Vr ox.hi oy.hi (p:=p);unfold cW;generalize di x.lo y.lo p false=r at hd⊢;generalize di x.hi y.hi p true=q at hu⊢;obtain⟨r1,r2⟩:=r;obtain⟨q1,q2⟩:=q;have hm:=P1 (a:=r1) (b:=q1) (e:=r2) (f:=q2);simp only[am,ao,rV,ae,ah]at hw hd hu hm;cases h1:(kI x&&kI y)with
 |false=>
  rw[h1]at hk;simp only[oL,uW,am,ao,go_sem,hk,hw]
 |true=>
  rw[h1]at hk;cases h2:bJ p with
  |false=>
   rw[h2]at hp;simp only[oL,uW,am,ao,go_sem,hk,hp,hw]
  |true=>
   rw[h2]at hp;simp only[oL,uW,am,ao,go_sem,hk,hp,hw,hd,hu,hm]
def eP(a b:Rd):Int:=if vd a=true/\vd b=true then cp (zI a) (zI b)else 0
def aEw(a b:Rd):Rd:=if eP a b<=0 then a else b
def kB(a b:Rd):Rd:=if 0<=eP a b then a else b
theorem P2{a b:Rd}(oa:Ok0 a)(ob:Ok0 b):R F.interval_less [ae a,ae b] []=some (ae (aEw a b),[]):=by
 refine ax Oa rfl ?_;have hc:=qG oa ob;rw[show(if vd a=true/\vd b=true then cp (zI a) (zI b)else 0)=eP a b from rfl]at hc;simp only[ae,ah]at hc;unfold aEw;by_cases h:eP a b<=0
 ·have e1:(eP a b<=0)=True:=tt h;simp only[rA,y5,ae,ah,go_sem,hc,e1]
 ·have e1:(eP a b<=0)=False:=ff h;simp only[rA,y5,ae,ah,go_sem,hc,e1]
theorem P3{a b:Rd}(oa:Ok0 a)(ob:Ok0 b):R F.interval_more [ae a,ae b] []=some (ae (kB a b),[]):=by
 refine ax N9 rfl ?_;have hc:=qG oa ob;rw[show(if vd a=true/\vd b=true then cp (zI a) (zI b)else 0)=eP a b from rfl]at hc;simp only[ae,ah]at hc;unfold kB;by_cases h:0<=eP a b
 ·have e1:(0<=eP a b)=True:=tt h;simp only[rz,yY,ae,ah,go_sem,hc,e1]
 ·have e1:(0<=eP a b)=False:=ff h;simp only[rz,yY,ae,ah,go_sem,hc,e1]
theorem ahL{x:Ri}(h:kI x=true):vd x.lo=true/\vd x.hi=true/\zI x.lo<=zI x.hi/\x.all=false:=by
 unfold kI vi at h;grind
theorem aoc{x:Ri}(h1:vd x.lo=true)(h2:vd x.hi=true)(h3:zI x.lo<=zI x.hi)(h4:x.all=false):kI x=true:=by
 grind[kI,vi,decide_eq_true]
def Jt(x:Ri):Int:=if 0<cO x.lo then 1 else if cO x.hi<0 then-1 else 0
theorem Vt{x:Ri}(ok:OkI x)(hx:kI x=true):R F.interval_Sign [am x] []=some (I (Jt x),[]):=by
 refine ax N2 rfl ?_;obtain⟨v1,v2,v3,v4⟩:=ahL hx;have hk:=uI ok;rw[hx]at hk;have s1:=DQ ok.lo v1;have s2:=DQ ok.hi v2;simp only[ae,ah]at s1 s2;unfold Jt;by_cases h1:0<cO x.lo
 ·have e1:(0<cO x.lo)=True:=tt h1;simp only[mS,tC,am,ao,go_sem,hk,s1,e1]
 ·have e1:(0<cO x.lo)=False:=ff h1;by_cases h2:cO x.hi<0
  ·have e2:(cO x.hi<0)=True:=tt h2;simp only[mS,tC,am,ao,go_sem,hk,s1,e1,s2,e2]
  ·have e2:(cO x.hi<0)=False:=ff h2;simp only[mS,tC,am,ao,go_sem,hk,s1,e1,s2,e2]
def rM(d:Rd):Rd:=if vd d=false\/d.m.length=0 then aI else⟨false,d.m,d.e⟩
theorem aU:vd aI=true/\Ok0 aI:=⟨rfl,⟨fun x hx=>(nomatch hx),by decide⟩⟩
theorem ye{d:Rd}(ok:Ok0 d):Ok0 (rM d):=by
 unfold rM;split
 ·exact aU.2
 ·exact⟨ok.1,ok.2⟩
def AJ(x:Ri):Rd:=if Jt x=0 then aI else aEw (rM x.lo) (rM x.hi)
def Hv(x:Ri):Rd:=kB (rM x.lo) (rM x.hi)
theorem alc{x:Ri}(ok:OkI x)(hx:kI x=true):R F.interval_Mig [am x] []=some (.tup [ae (AJ x),B true],[]):=by
 refine ax PL rfl ?_;have hk:=uI ok;rw[hx]at hk;have hs:=Vt ok hx;have a1:=Ol ok.lo;have a2:=Ol ok.hi;rw[show(if vd x.lo=false\/x.lo.m.length=0 then aI else(⟨false,x.lo.m,x.lo.e⟩:Rd))=rM x.lo from rfl]at a1;rw[show(if vd x.hi=false\/x.hi.m.length=0 then aI else(⟨false,x.hi.m,x.hi.e⟩:Rd))=rM x.hi from rfl]at a2;have hl:=P2 (ye ok.lo) (ye ok.hi);unfold AJ;simp only[am,ao,ae,ah]at hs a1 a2 hl;by_cases h1:Jt x=0
 ·have e1:(Jt x=0)=True:=tt h1;simp only[tJ,Az,am,ao,ae,ah,aI,go_sem,hk,hs,e1]
 ·have e1:(Jt x=0)=False:=ff h1;simp only[tJ,Az,am,ao,ae,ah,go_sem,hk,hs,e1,a1,a2,hl]
theorem ald{x:Ri}(ok:OkI x)(hx:kI x=true):R F.interval_Mag [am x] []=some (.tup [ae (Hv x),B true],[]):=by
 refine ax PM rfl ?_;have hk:=uI ok;rw[hx]at hk;have a1:=Ol ok.lo;have a2:=Ol ok.hi;rw[show(if vd x.lo=false\/x.lo.m.length=0 then aI else(⟨false,x.lo.m,x.lo.e⟩:Rd))=rM x.lo from rfl]at a1;rw[show(if vd x.hi=false\/x.hi.m.length=0 then aI else(⟨false,x.hi.m,x.hi.e⟩:Rd))=rM x.hi from rfl]at a2;have hl:=P3 (ye ok.lo) (ye ok.hi);unfold Hv;simp only[ae,ah]at a1 a2 hl;simp only[zp,Ga,am,ao,ae,ah,go_sem,hk,a1,a2,hl]
def tj(x:Ri):Ri:=if kI x=true then⟨AJ x,Hv x,false⟩else dN
theorem aiE{x:Ri}(ok:OkI x):R F.interval_Abs [am x] []=some (am (tj x),[]):=by
 refine ax PK rfl ?_;have hk:=uI ok;have hw:=lC;unfold tj;cases hx:kI x with
 |false=>
  rw[hx]at hk;simp only[tI,Aw,am,ao,go_sem,hk,hw]
 |true=>
  rw[hx]at hk;have h1:=alc ok hx;have h2:=ald ok hx;simp only[am,ao,ae,ah]at h1 h2;simp only[tI,Aw,am,ao,go_sem,hk,h1,h2]
def aDo(dn up:Rd->Rd->Rd×Int)(pr:Nat->Rd×Rd):Nat->Nat->Rd×Rd->Option (Rd×Rd)
 |0,_,o=>some o
 |k+1,i,o=>if(dn (pr i).1 (pr i).2).2=0/\(up (pr i).1 (pr i).2).2=0 then
   aDo dn up pr k (i+1) (if eP (dn (pr i).1 (pr i).2).1 o.1<0 then(dn (pr i).1 (pr i).2).1 else o.1,if 0<eP (up (pr i).1 (pr i).2).1 o.2 then(up (pr i).1 (pr i).2).1 else o.2)
  else none
def pS(dn up:Rd->Rd->Rd×Int)(pr:Nat->Rd×Rd):Option (Rd×Rd):=
 if(dn (pr 0).1 (pr 0).2).2=0/\(up (pr 0).1 (pr 0).2).2=0 then aDo dn up pr 3 1 ((dn (pr 0).1 (pr 0).2).1,(up (pr 0).1 (pr 0).2).1)else none
def Ih:Option (Rd×Rd)->Ri
 |some o=>⟨o.1,o.2,false⟩
 |none=>dN
def Tm(x:Option (Ex×St))(o:Option (Rd×Rd)):Prop:=match o with
 |some q=>∃hh,x=some (.normal,⟨upd (upd (fun _=>.any) 12 (.ref 12 none 0 0 0)) 10 (.ref 10 none 0 0 0),hh⟩)/\hh 10=.bx [.v (.bool false),.emp,.v (.int .i64 0),.v (.bool false),.emp,.v (.int .i64 0),.v (.bool false)]/\hh 12=.bx (ao ⟨q.1,q.2,false⟩)
 |none=>∃hh,x=some (.ret,⟨upd (fun _=>.any) 10 (.ref 10 none 0 0 0),hh⟩)/\hh 10=.bx (ao dN)
theorem CS{a b:Rd}{p:Int}{up:Bool}:Ok0 (fF a b p up).1:=by
 unfold fF;split
 ·exact sK.2
 ·exact aU.2
structure Op2 (f:FuncId) (g:Rd->Rd->Rd×Int) (p:Int):Prop where
 ct:∀ {a b:Rd},Ok0 a->Ok0 b->R f [ae a,ae b,I p] []=some (rV (g a b),[])
 ok:∀ {a b:Rd},Ok0 (g a b).1
 s:EN f [[.o 0 [],.o 2 [],.o 0 []],[.o 0 [],.o 2 [],.o 0 []],[]]
 m:EO f []
 k:EP f false
 c:LJ f
theorem adk{p:Int}{A:AV}{pr:Nat->Rd×Rd}{fD fU:FuncId}{dn up:Rd->Rd->Rd×Int}(oD:Op2 fD dn p)(oU:Op2 fU up p)(hA:gk [10,12] A=A)(hidx:∀i:Nat,i<4->J5 4 6 true A (I i)=some (.agg [B (pr i).1.neg,lm (pr i).1.m,I (pr i).1.e,B (pr i).2.neg,lm (pr i).2.m,I (pr i).2.e]))
  (hok:∀i,Ok0 (pr i).1/\Ok0 (pr i).2):∀ (k i:Nat),i+k=4->1<=i->∀ (lo hi:Rd) (s:ak) (h:ac),Ok0 lo->Ok0 hi->s 2=I p->s 3=.fn fD [] []->s 4=.fn fU [] []->s 10=.ref 10 none 0 0 0->s 12=.ref 12 none 0 0 0->s 40=A->s 41=I i->
  h 10=.bx [.v (.bool false),.emp,.v (.int .i64 0),.v (.bool false),.emp,.v (.int .i64 0),.v (.bool false)]->h 12=.bx (ao ⟨lo,hi,false⟩)->
  Tm (aj 0 [10,12] (au (ai R (az false) bu) [2,3,4,10,12,40,41] [10,12] s h)) (aDo dn up pr k i (lo,hi)):=by
 intro k;induction k with
 |zero=>
  intro i hi4 h1 lo hi s h olo ohi h2 h3 h4 h10 h12 h40 h41 k10 k12;have e1:((i:Int)<4)=False:=ff;simp only[ao]at k12;rw[ag];refine⟨?hh0,?_,?_,?_⟩;rotate_left
  ·simp only[bu,go_sem,h2,h3,h4,h10,h12,h40,h41,k10,k12,hA,e1];rfl
  ·rfl
  ·rfl
 |succ k ih=>
  intro i hi4 h1 lo hi s h olo ohi h2 h3 h4 h10 h12 h40 h41 k10 k12;have e1:((i:Int)<4)=True:=tt;have e0:((i:Int)=0)=False:=ff;have ei:=hidx i (by omega);have e5:IntKind.i64.wrap ((i:Int)+1)=((i+1:Nat):Int):=wi;have hd:=oD.ct (hok i).1 (hok i).2;have hu:=oU.ct (hok i).1 (hok i).2;have hw:=lC;have okd:=oD.ok (a:=(pr i).1) (b:=(pr i).2);have oku:=oU.ok (a:=(pr i).1) (b:=(pr i).2);have c1:=qG okd olo;have c2:=qG oku ohi;rw[show∀a b:Rd,(if vd a=true/\vd b=true then cp (zI a) (zI b)else 0)=eP a b from fun _ _=>rfl]at c1 c2;have ih':=ih (i+1) (by omega) (by omega);unfold aDo;simp only[ao]at k12;show Tm _ (if(dn (pr i).1 (pr i).2).2=0/\(up (pr i).1 (pr i).2).2=0 then _ else none);generalize dn (pr i).1 (pr i).2=r at hd okd c1⊢;generalize up (pr i).1 (pr i).2=q at hu oku c2⊢;obtain⟨r1,r2⟩:=r;obtain⟨q1,q2⟩:=q;show Tm _ (if r2=0/\q2=0 then aDo dn up pr k (i+1) (if eP r1 lo<0 then r1 else lo,if 0<eP q1 hi then q1 else hi)else none);simp only[rV,ae,ah,am,ao,dN,aI]at hd hu hw c1 c2;rw[ag];generalize au _ _ _=L at ih'⊢;by_cases hr:r2=0
  ·have er:(r2=0)=True:=tt hr;by_cases hq:q2=0
   ·have eq:(q2=0)=True:=tt hq;rw[if_pos (show r2=0/\q2=0 from⟨hr,hq⟩)];by_cases g1:eP r1 lo<0
    ·have f1:(eP r1 lo<0)=True:=tt g1;by_cases g2:0<eP q1 hi
     ·have f2:(0<eP q1 hi)=True:=tt g2;rw[if_pos g1,if_pos g2];simp only[bu,Int.cast_ofNat_Int,go_sem,oD.s,oD.m,oD.k,oD.c,oU.s,oU.m,oU.k,oU.c,axl,axA,axs,h2,h3,h4,h10,h12,h40,h41,k10,k12,hA,e1,e0,ei,hd,hu,er,eq,c1,c2,f1,f2,e5];exact ih' r1 q1 _ _ okd oku rfl rfl rfl rfl rfl rfl rfl rfl rfl
     ·have f2:(0<eP q1 hi)=False:=ff g2;rw[if_pos g1,if_neg g2];simp only[bu,Int.cast_ofNat_Int,go_sem,oD.s,oD.m,oD.k,oD.c,oU.s,oU.m,oU.k,oU.c,axl,axA,axs,h2,h3,h4,h10,h12,h40,h41,k10,k12,hA,e1,e0,ei,hd,hu,er,eq,c1,c2,f1,f2,e5];exact ih' r1 hi _ _ okd ohi rfl rfl rfl rfl rfl rfl rfl rfl rfl
    ·have f1:(eP r1 lo<0)=False:=ff g1;by_cases g2:0<eP q1 hi
     ·have f2:(0<eP q1 hi)=True:=tt g2;rw[if_neg g1,if_pos g2];simp only[bu,Int.cast_ofNat_Int,go_sem,oD.s,oD.m,oD.k,oD.c,oU.s,oU.m,oU.k,oU.c,axl,axA,axs,h2,h3,h4,h10,h12,h40,h41,k10,k12,hA,e1,e0,ei,hd,hu,er,eq,c1,c2,f1,f2,e5];exact ih' lo q1 _ _ olo oku rfl rfl rfl rfl rfl rfl rfl rfl rfl
     ·have f2:(0<eP q1 hi)=False:=ff g2;rw[if_neg g1,if_neg g2];simp only[bu,Int.cast_ofNat_Int,go_sem,oD.s,oD.m,oD.k,oD.c,oU.s,oU.m,oU.k,oU.c,axl,axA,axs,h2,h3,h4,h10,h12,h40,h41,k10,k12,hA,e1,e0,ei,hd,hu,er,eq,c1,c2,f1,f2,e5];exact ih' lo hi _ _ olo ohi rfl rfl rfl rfl rfl rfl rfl rfl rfl
   ·have eq:(q2=0)=False:=ff hq;rw[if_neg (show¬(r2=0/\q2=0)from fun h=>hq h.2)];refine⟨?hh1,?_,?_⟩;rotate_left
    ·simp only[bu,Int.cast_ofNat_Int,go_sem,oD.s,oD.m,oD.k,oD.c,oU.s,oU.m,oU.k,oU.c,axl,axA,axs,h2,h3,h4,h10,h12,h40,h41,k10,k12,hA,e1,ei,hd,hu,er,eq,hw];rfl
    ·rfl
  ·have er:(r2=0)=False:=ff hr;rw[if_neg (show¬(r2=0/\q2=0)from fun h=>hr h.1)];refine⟨?hh2,?_,?_⟩;rotate_left
   ·simp only[bu,Int.cast_ofNat_Int,go_sem,oD.s,oD.m,oD.k,oD.c,oU.s,oU.m,oU.k,oU.c,axl,axA,axs,h2,h3,h4,h10,h12,h40,h41,k10,k12,hA,e1,ei,hd,hu,er,hw];rfl
   ·rfl
theorem abo{p:Int}{A:AV}{pr:Nat->Rd×Rd}{fD fU:FuncId}{dn up:Rd->Rd->Rd×Int}(oD:Op2 fD dn p)(oU:Op2 fU up p)(hA:gk [10,12] A=A)(hidx:∀i:Nat,i<4->J5 4 6 true A (I i)=some (.agg [B (pr i).1.neg,lm (pr i).1.m,I (pr i).1.e,B (pr i).2.neg,lm (pr i).2.m,I (pr i).2.e]))
  (hok:∀i,Ok0 (pr i).1/\Ok0 (pr i).2) (s:ak) (h:ac) (h2:s 2=I p) (h3:s 3=.fn fD [] []) (h4:s 4=.fn fU [] []) (h10:s 10=.ref 10 none 0 0 0) (h12:s 12=.ref 12 none 0 0 0) (h40:s 40=A) (h41:s 41=I 0)
  (k10:h 10=.bx [.v (.bool false),.emp,.v (.int .i64 0),.v (.bool false),.emp,.v (.int .i64 0),.v (.bool false)]) (k12:h 12=.bx [.v (.bool false),.emp,.v (.int .i64 0),.v (.bool false),.emp,.v (.int .i64 0),.v (.bool false)]):
  Tm (aj 0 [10,12] (au (ai R (az false) bu) [2,3,4,10,12,40,41] [10,12] s h)) (pS dn up pr):=by
 have ei:=hidx 0 (by decide);simp only[axB]at ei;have hd:=oD.ct (hok 0).1 (hok 0).2;have hu:=oU.ct (hok 0).1 (hok 0).2;have hw:=lC;have okd:=oD.ok (a:=(pr 0).1) (b:=(pr 0).2);have oku:=oU.ok (a:=(pr 0).1) (b:=(pr 0).2);have ih':=adk (p:=p) (A:=A) (pr:=pr) oD oU hA hidx hok 3 1 rfl (by decide);unfold pS;generalize dn (pr 0).1 (pr 0).2=r at hd okd⊢;generalize up (pr 0).1 (pr 0).2=q at hu oku⊢;obtain⟨r1,r2⟩:=r;obtain⟨q1,q2⟩:=q;simp only[rV,ae,ah,am,ao,dN,aI]at hd hu hw;rw[ag];have e6:IntKind.i64.wrap (0+1)=1:=rfl;by_cases hr:r2=0
 ·have er:(r2=0)=True:=tt hr;by_cases hq:q2=0
  ·have eq:(q2=0)=True:=tt hq;simp only[bu,Int.cast_ofNat_Int,go_sem,oD.s,oD.m,oD.k,oD.c,oU.s,oU.m,oU.k,oU.c,axl,axA,axs,h2,h3,h4,h10,h12,h40,h41,k10,k12,hA,ei,hd,hu,er,eq,e6];exact ih' r1 q1 _ _ okd oku rfl rfl rfl rfl rfl rfl rfl rfl rfl
  ·have eq:(q2=0)=False:=ff hq;rw[if_neg (show¬(r2=0/\q2=0)from fun h=>hq h.2)];refine⟨?hh3,?_,?_⟩;rotate_left
   ·simp only[bu,Int.cast_ofNat_Int,go_sem,oD.s,oD.m,oD.k,oD.c,oU.s,oU.m,oU.k,oU.c,axl,axA,axs,h2,h3,h4,h10,h12,h40,h41,k10,k12,hA,ei,hd,hu,er,eq,hw];rfl
   ·rfl
 ·have er:(r2=0)=False:=ff hr;rw[if_neg (show¬(r2=0/\q2=0)from fun h=>hr h.1)];refine⟨?hh4,?_,?_⟩;rotate_left
  ·simp only[bu,Int.cast_ofNat_Int,go_sem,oD.s,oD.m,oD.k,oD.c,oU.s,oU.m,oU.k,oU.c,axl,axA,axs,h2,h3,h4,h10,h12,h40,h41,k10,k12,hA,ei,hd,hu,er,hw];rfl
  ·rfl
def gb(x y:Ri)(i:Nat):Rd×Rd:=match i with
 |0=>(x.lo,y.lo)
 |1=>(x.lo,y.hi)
 |2=>(x.hi,y.lo)
 |_=>(x.hi,y.hi)
def ce(x y:Ri)(p:Int):Ri:=if(kI x&&kI y&&bJ p)=true then Ih (pS (fun a b=>fF a b p false) (fun a b=>fF a b p true) (gb x y))else dN
noncomputable def Co:Cmd:=.seq (.seq (.ops [2,3,4,10,12,40,41] [⟨(some 40),none,.load 24 true (.t 11)⟩,co 41 (.mv (.c (.v (.int .i64 0))))]) (.block 0 [10,12] (.loop [2,3,4,10,12,40,41] [10,12] bu))) (.seq (.ops [10] [⟨(some 95),none,.load 7 true (.t 12)⟩,⟨none,none,.store 7 (.t 10) (.t 95)⟩]) (.ret))
theorem FJ:ED=.seq (.ops [2,3,4,5,6,10] [⟨(some 5),none,.box 7 (.t 0)⟩,⟨(some 6),none,.box 7 (.t 1)⟩,⟨(some 10),none,.alloc [(.v (.bool false)),.emp,(.v (.int .i64 0)),(.v (.bool false)),.emp,(.v (.int .i64 0)),(.v (.bool false))]⟩]) (.seq (.ops [2,3,4,10,11] [co 19 (.fadr 0 (.t 5)),⟨(some 20),none,.load 3 true (.t 19)⟩,co 21 (.fadr 0 (.t 6)),⟨(some 22),none,.load 3 true (.t 21)⟩,co 23 (.build [(.v (.bool false)),.emp,(.v (.int .i64 0)),(.v (.bool false)),.emp,(.v (.int .i64 0))] [(0,3,(.t 20)),(3,3,(.t 22))]),co 24 (.fadr 0 (.t 5)),⟨(some 25),none,.load 3 true (.t 24)⟩,co 26 (.fadr 3 (.t 6)),⟨(some 27),none,.load 3 true (.t 26)⟩,co 28 (.build [(.v (.bool false)),.emp,(.v (.int .i64 0)),(.v (.bool false)),.emp,(.v (.int .i64 0))] [(0,3,(.t 25)),(3,3,(.t 27))]),co 29 (.fadr 3 (.t 5)),⟨(some 30),none,.load 3 true (.t 29)⟩,co 31 (.fadr 0 (.t 6)),⟨(some 32),none,.load 3 true (.t 31)⟩,co 33 (.build [(.v (.bool false)),.emp,(.v (.int .i64 0)),(.v (.bool false)),.emp,(.v (.int .i64 0))] [(0,3,(.t 30)),(3,3,(.t 32))]),co 34 (.fadr 3 (.t 5)),⟨(some 35),none,.load 3 true (.t 34)⟩,co 36 (.fadr 3 (.t 6)),⟨(some 37),none,.load 3 true (.t 36)⟩,co 38 (.build [(.v (.bool false)),.emp,(.v (.int .i64 0)),(.v (.bool false)),.emp,(.v (.int .i64 0))] [(0,3,(.t 35)),(3,3,(.t 37))]),co 39 (.build [(.v (.bool false)),.emp,(.v (.int .i64 0)),(.v (.bool false)),.emp,(.v (.int .i64 0)),(.v (.bool false)),.emp,(.v (.int .i64 0)),(.v (.bool false)),.emp,(.v (.int .i64 0)),(.v (.bool false)),.emp,(.v (.int .i64 0)),(.v (.bool false)),.emp,(.v (.int .i64 0)),(.v (.bool false)),.emp,(.v (.int .i64 0)),(.v (.bool false)),.emp,(.v (.int .i64 0))] [(0,6,(.t 23)),(6,6,(.t 28)),(12,6,(.t 33)),(18,6,(.t 38))]),⟨(some 11),none,.alloc [(.v (.bool false)),.emp,(.v (.int .i64 0)),(.v (.bool false)),.emp,(.v (.int .i64 0)),(.v (.bool false)),.emp,(.v (.int .i64 0)),(.v (.bool false)),.emp,(.v (.int .i64 0)),(.v (.bool false)),.emp,(.v (.int .i64 0)),(.v (.bool false)),.emp,(.v (.int .i64 0)),(.v (.bool false)),.emp,(.v (.int .i64 0)),(.v (.bool false)),.emp,(.v (.int .i64 0))]⟩,⟨none,none,.store 24 (.t 11) (.t 39)⟩]) (.seq (.ops [2,3,4,10,11,12] [⟨(some 12),none,.alloc [(.v (.bool false)),.emp,(.v (.int .i64 0)),(.v (.bool false)),.emp,(.v (.int .i64 0)),(.v (.bool false))]⟩]) Co)):=rfl
theorem ale{x y:Ri}(ox:OkI x)(oy:OkI y)(i:Nat):Ok0 (gb x y i).1/\Ok0 (gb x y i).2:=by
 unfold gb;split
 ·exact⟨ox.1,oy.1⟩
 ·exact⟨ox.1,oy.2⟩
 ·exact⟨ox.2,oy.1⟩
 ·exact⟨ox.2,oy.2⟩
def abp(x y:Ri):List AV:=[B x.lo.neg,lm x.lo.m,I x.lo.e,B y.lo.neg,lm y.lo.m,I y.lo.e,B x.lo.neg,lm x.lo.m,I x.lo.e,B y.hi.neg,lm y.hi.m,I y.hi.e,B x.hi.neg,lm x.hi.m,I x.hi.e,B y.lo.neg,lm y.lo.m,I y.lo.e,B x.hi.neg,lm x.hi.m,I x.hi.e,B y.hi.neg,lm y.hi.m,I y.hi.e]
theorem adl{x y:Ri}(ox:OkI x)(oy:OkI y){p:Int}{fD fU:FuncId}{dn up:Rd->Rd->Rd×Int}(oD:Op2 fD dn p)(oU:Op2 fU up p)(s:ak)(h:ac)(h2:s 2=I p)(h3:s 3=.fn fD [] [])(h4:s 4=.fn fU [] [])(h10:s 10=.ref 10 none 0 0 0)(h11:s 11=.ref 11 none 0 0 0)(h12:s 12=.ref 12 none 0 0 0)
  (k10:h 10=.bx [.v (.bool false),.emp,.v (.int .i64 0),.v (.bool false),.emp,.v (.int .i64 0),.v (.bool false)]) (k11:h 11=.bx (abp x y)) (k12:h 12=.bx [.v (.bool false),.emp,.v (.int .i64 0),.v (.bool false),.emp,.v (.int .i64 0),.v (.bool false)]):
  gZ false [[.o 0 [],.o 2 [],.o 0 [],.o 0 [],.o 2 [],.o 0 [],.o 0 []]] [.cell 10 7 true] 0 (ai R (az false) Co s h)=some (am (Ih (pS dn up (gb x y))),[]):=by
 obtain⟨A,hAe⟩:∃A:AV,A=.agg (abp x y):=⟨_,rfl⟩;have hA:gk [10,12] A=A:=by
  rw[hAe];rfl
 have hf:=abo (p:=p) (A:=A) (pr:=gb x y) oD oU hA (fun i hi=>by
  rw[hAe]
  match i,hi with
  |0,_=>rfl
  |1,_=>rfl
  |2,_=>rfl
  |3,_=>rfl) (ale ox oy)
 have hl:iP h 24 true (.ref 11 none 0 0 0)=some (A,h,[]):=by
  rw[hAe];simp only[abp]at k11⊢;simp only[go_sem,k11]
 have hP:∀ (s:ak) (h:ac),s 2=I p->s 3=.fn fD [] []->s 4=.fn fU [] []->s 10=.ref 10 none 0 0 0->s 12=.ref 12 none 0 0 0->s 40=A->s 41=I 0->h 10=.bx [.v (.bool false),.emp,.v (.int .i64 0),.v (.bool false),.emp,.v (.int .i64 0),.v (.bool false)]->h 12=.bx [.v (.bool false),.emp,.v (.int .i64 0),.v (.bool false),.emp,.v (.int .i64 0),.v (.bool false)]->
   gZ false [[.o 0 [],.o 2 [],.o 0 [],.o 0 [],.o 2 [],.o 0 [],.o 0 []]] [.cell 10 7 true] 0 (cr (aj 0 [10,12] (au (ai R (az false) bu) [2,3,4,10,12,40,41] [10,12] s h)) (ai R (az false) (.seq (.ops [10] [⟨(some 95),none,.load 7 true (.t 12)⟩,⟨none,none,.store 7 (.t 10) (.t 95)⟩]) (.ret))))=some (am (Ih (pS dn up (gb x y))),[]):=fun s h a2 a3 a4 a10 a12 a40 a41 b10 b12=>by
  have hg:=hf s h a2 a3 a4 a10 a12 a40 a41 b10 b12;cases ho:pS dn up (gb x y)with
  |none=>
   rw[ho]at hg;obtain⟨hh,g1,g2⟩:=hg;rw[g1];simp only[Ih,dN,am,ao,aI,g2,go_sem]
  |some q=>
   rw[ho]at hg;obtain⟨hh,g1,g2,g3⟩:=hg;rw[g1];simp only[Ih,am,ao,g2,g3,go_sem]
 generalize hLL:au (ai R (az false) bu) [2,3,4,10,12,40,41] [10,12]=L at hP;have hX:∀s h,ai R (az false) (.loop [2,3,4,10,12,40,41] [10,12] bu) s h=L s h:=fun s h=>by rw[←hLL];rfl
 show gZ _ _ _ _ (cr (cr (ai R (az false) (.ops [2,3,4,10,12,40,41] [⟨(some 40),none,.load 24 true (.t 11)⟩,co 41 (.mv (.c (.v (.int .i64 0))))]) s h) fun s h=>aj 0 [10,12] (ai R (az false) (.loop [2,3,4,10,12,40,41] [10,12] bu) s h)) _)=_;simp only[hX];simp only[go_sem,h2,h3,h4,h10,h11,h12,hl];exact hP _ _ rfl rfl rfl rfl rfl rfl rfl k10 k12
theorem Ys{x y:Ri}(ox:OkI x)(oy:OkI y){p:Int}{fD fU:FuncId}{dn up:Rd->Rd->Rd×Int}(oD:Op2 fD dn p)(oU:Op2 fU up p):R F.interval_four [am x,am y,I p,.fn fD [] [],.fn fU [] []] []=some (am (Ih (pS dn up (gb x y))),[]):=by
 refine ax N3 rfl ?_;simp only[xx,FJ,am,ao,go_sem];exact adl ox oy oD oU _ _ rfl rfl rfl rfl rfl rfl rfl rfl rfl
theorem vO{x y:Ri}(ox:OkI x)(oy:OkI y){p:Int}:R F.interval_Mul [am x,am y,I p] []=some (am (ce x y p),[]):=by
 refine ax PB rfl ?_;have hk:=EW ox oy;have hp:=uH (p:=p);have hw:=lC;have hf:=Ys ox oy (p:=p) (dn:=fun a b=>fF a b p false) (up:=fun a b=>fF a b p true) ⟨fun h1 h2=>LL h1 h2,CS,o7.1.1,o7.1.2.1,o7.1.2.2.2,o7.1.2.2.1⟩ ⟨fun h1 h2=>Rq h1 h2,CS,sI.1.1,sI.1.2.1,sI.1.2.2.2,sI.1.2.2.1⟩;unfold ce;simp only[am,ao]at hw hf;cases h1:(kI x&&kI y)with
 |false=>
  rw[h1]at hk;simp only[oM,uX,am,ao,go_sem,hk,hw]
 |true=>
  rw[h1]at hk;cases h2:bJ p with
  |false=>
   rw[h2]at hp;simp only[oM,uX,am,ao,go_sem,hk,hp,hw]
  |true=>
   rw[h2]at hp;simp only[oM,uX,am,ao,go_sem,hk,hp,hf]
def mq(d:Rd)(p:Int)(up:Bool):Nat->Rd×Int->Rd×Int
 |0,r=>r
 |k+1,r=>if r.2=0 then mq d p up k (fF r.1 d p up)else r
def pw(d:Rd)(n:Nat)(p:Int)(up:Bool):Rd×Int:=mq d p up (n-1) (bZ d p up)
theorem vP{d:Rd}{p:Int}{up:Bool}:Ok0 (bZ d p up).1:=by
 unfold bZ;split
 ·exact sK.2
 ·exact aU.2
theorem alf{d:Rd}{p:Int}{up:Bool}:∀ (k:Nat) (r:Rd×Int),Ok0 r.1->Ok0 (mq d p up k r).1:=by
 intro k;induction k with
 |zero=>exact fun r h=>h
 |succ k ih=>
  grind[mq,CS]
theorem ahM{d:Rd}{n:Nat}{p:Int}{up:Bool}:Ok0 (pw d n p up).1:=alf _ _ vP
noncomputable def uJ:Cmd:=.seq (.seq (.ops [1,2,4,5,10,12,13,14] [co 14 (.mv (.c (.v (.int .i64 1))))]) (.block 0 [10,12,13] (.loop [1,2,4,5,10,12,13,14] [5,10,12] aV))) (.seq (.ops [10,11] [⟨(some 39),none,.load 3 true (.t 12)⟩,cm 40 13,⟨none,none,.store 3 (.t 10) (.t 39)⟩,cm 11 40]) (.ret))
theorem vZ:Dz=.seq (.ops [1,2,3,4,5,10] [⟨(some 5),none,.box 3 (.t 0)⟩,⟨(some 10),none,.alloc [(.v (.bool false)),.emp,(.v (.int .i64 0))]⟩,co 11 (.mv (.c (.v (.int .i64 0))))]) (.seq (.ops [1,2,4,5,10,12,13] [cm 16 3,⟨(some 17),none,.load 3 true (.t 5)⟩,cm 18 2,⟨(some 19),none,.call (.t 16) [(.t 17),(.t 18)]⟩,cm 15 19,co 20 (.ext 0 (.t 15)),co 21 (.ext 1 (.t 15)),⟨(some 12),none,.alloc [(.v (.bool false)),.emp,(.v (.int .i64 0))]⟩,⟨none,none,.store 3 (.t 12) (.t 20)⟩,cm 13 21]) uJ):=rfl
theorem adm{d:Rd}(ok:Ok0 d){p:Int}{n:Nat}(hn:n<=100000):∀ (k i:Nat),i+k=n->∀ (r:Rd×Int),Ok0 r.1->∀ (s:ak) (h:ac),s 1=I n->s 2=I p->s 4=.fn F.round_MulUp [] []->s 5=.ref 5 none 0 0 0->s 10=.ref 10 none 0 0 0->s 12=.ref 12 none 0 0 0->s 13=I r.2->s 14=I i->
  h 5=.bx (ah d)->h 10=.bx [.v (.bool false),.emp,.v (.int .i64 0)]->h 12=.bx (ah r.1)->
  ∃hh,aj 0 [10,12,13] (au (ai R (az false) aV) [1,2,4,5,10,12,13,14] [5,10,12] s h)=some (.normal,⟨upd (upd (upd (fun _=>.any) 13 (I (mq d p true k r).2)) 12 (.ref 12 none 0 0 0)) 10 (.ref 10 none 0 0 0),hh⟩)/\hh 10=.bx [.v (.bool false),.emp,.v (.int .i64 0)]/\hh 12=.bx (ah (mq d p true k r).1):=by
 intro k;induction k with
 |zero=>
  intro i hi r hr s h h1 h2 h4 h5 h10 h12 h13 h14 k5 k10 k12;have e1:((i:Int)<n)=False:=ff;rw[ag];refine⟨?hh0,?_,?_,?_⟩;rotate_left
  ·simp only[aV,mq,go_sem,h1,h2,h4,h5,h10,h12,h13,h14,k5,k10,k12,e1];rfl
  ·rfl
  ·rfl
 |succ k ih=>
  intro i hi r hr s h h1 h2 h4 h5 h10 h12 h13 h14 k5 k10 k12;have e1:((i:Int)<n)=True:=tt;have e5:IntKind.i64.wrap ((i:Int)+1)=((i+1:Nat):Int):=wi;obtain⟨r1,r2⟩:=r;have hm:=Rq hr ok (p:=p);have okm:=CS (a:=r1) (b:=d) (p:=p) (up:=true);have ih':=ih (i+1) (by omega);unfold mq;generalize fF r1 d p true=q at hm okm⊢;obtain⟨q1,q2⟩:=q;simp only[rV,ae,ah]at hm k5 k12;rw[ag];by_cases hr:r2=0
  ·have er:(r2=0)=True:=tt hr;simp only[aV,ah,go_sem,h1,h2,h4,h5,h10,h12,h13,h14,k5,k10,k12,e1,er,hm,e5];exact ih' (q1,q2) okm _ _ rfl rfl rfl rfl rfl rfl rfl rfl rfl rfl rfl
  ·have er:(r2=0)=False:=ff hr;rw[if_neg hr];refine⟨?hh1,?_,?_,?_⟩;rotate_left
   ·simp only[aV,go_sem,h1,h2,h4,h5,h10,h12,h13,h14,k5,k10,k12,e1,er];rfl
   ·rfl
   ·rfl
theorem adn{d:Rd}(ok:Ok0 d){p:Int}{n:Nat}(hn:n<=100000){r:Rd×Int}(hr:Ok0 r.1)(s:ak)(h:ac)(h1:s 1=I n)(h2:s 2=I p)(h4:s 4=.fn F.round_MulUp [] [])(h5:s 5=.ref 5 none 0 0 0)(h10:s 10=.ref 10 none 0 0 0)(h12:s 12=.ref 12 none 0 0 0)(h13:s 13=I r.2)
  (k5:h 5=.bx (ah d)) (k10:h 10=.bx [.v (.bool false),.emp,.v (.int .i64 0)]) (k12:h 12=.bx (ah r.1)):
  gZ false [[.o 0 [],.o 2 [],.o 0 []],[]] [.cell 10 3 true,.t 11] 0 (ai R (az false) uJ s h)=some (rV (mq d p true (n-1) r),[]):=by
 have hl:∀ (s:ak) (h:ac),s 1=I n->s 2=I p->s 4=.fn F.round_MulUp [] []->s 5=.ref 5 none 0 0 0->s 10=.ref 10 none 0 0 0->s 12=.ref 12 none 0 0 0->s 13=I r.2->s 14=I 1->
  h 5=.bx (ah d)->h 10=.bx [.v (.bool false),.emp,.v (.int .i64 0)]->h 12=.bx (ah r.1)->
  ∃hh,aj 0 [10,12,13] (au (ai R (az false) aV) [1,2,4,5,10,12,13,14] [5,10,12] s h)=some (.normal,⟨upd (upd (upd (fun _=>.any) 13 (I (mq d p true (n-1) r).2)) 12 (.ref 12 none 0 0 0)) 10 (.ref 10 none 0 0 0),hh⟩)/\hh 10=.bx [.v (.bool false),.emp,.v (.int .i64 0)]/\hh 12=.bx (ah (mq d p true (n-1) r).1):=by
  by_cases h0:n=0
  ·intro s h a1 a2 a4 a5 a10 a12 a13 a14 b5 b10 b12;have e1:((1:Int)< (n:Nat))=False:=ff;subst h0;rw[ag];refine⟨?hh0,?_,?_,?_⟩;rotate_left
   ·simp only[aV,mq,go_sem,axw,a1,a2,a4,a5,a10,a12,a13,a14,b5,b10,b12,e1];rfl
   ·rfl
   ·rfl
  ·have:=adm ok (p:=p) hn (n-1) 1 (by omega) r hr
   simp_all
 generalize mq d p true (n-1) r=q at hl⊢;obtain⟨r1,r2⟩:=r;obtain⟨q1,q2⟩:=q;have hP:∀ (s:ak) (h:ac),s 1=I n->s 2=I p->s 4=.fn F.round_MulUp [] []->s 5=.ref 5 none 0 0 0->s 10=.ref 10 none 0 0 0->s 12=.ref 12 none 0 0 0->s 13=I r2->s 14=I 1->
  h 5=.bx (ah d)->h 10=.bx [.v (.bool false),.emp,.v (.int .i64 0)]->h 12=.bx (ah r1)->
  gZ false [[.o 0 [],.o 2 [],.o 0 []],[]] [.cell 10 3 true,.t 11] 0 (cr (aj 0 [10,12,13] (au (ai R (az false) aV) [1,2,4,5,10,12,13,14] [5,10,12] s h)) (ai R (az false) (.seq (.ops [10,11] [⟨(some 39),none,.load 3 true (.t 12)⟩,cm 40 13,⟨none,none,.store 3 (.t 10) (.t 39)⟩,cm 11 40]) (.ret))))=some (rV (q1,q2),[]):=fun s h a1 a2 a4 a5 a10 a12 a13 a14 b5 b10 b12=>by
  obtain⟨hh,g1,g2,g3⟩:=hl s h a1 a2 a4 a5 a10 a12 a13 a14 b5 b10 b12;rw[g1];simp only[rV,ae,ah,g2,g3,go_sem]
 generalize hLL:au (ai R (az false) aV) [1,2,4,5,10,12,13,14] [5,10,12]=L at hP;have hX:∀s h,ai R (az false) (.loop [1,2,4,5,10,12,13,14] [5,10,12] aV) s h=L s h:=fun s h=>by rw[←hLL];rfl
 show gZ _ _ _ _ (cr (cr (ai R (az false) (.ops [1,2,4,5,10,12,13,14] [co 14 (.mv (.c (.v (.int .i64 1))))]) s h) fun s h=>aj 0 [10,12,13] (ai R (az false) (.loop [1,2,4,5,10,12,13,14] [5,10,12] aV) s h)) _)=_;simp only[hX];simp only[go_sem,h1,h2,h4,h5,h10,h12,h13];exact hP _ _ rfl rfl rfl rfl rfl rfl rfl rfl k5 k10 k12
theorem aiF{d:Rd}(ok:Ok0 d){p:Int}{n:Nat}(hn:n<=100000):R F.interval_power [ae d,I n,I p,.fn F.round_Up [] [],.fn F.round_MulUp [] []] []=some (rV (pw d n p true),[]):=by
 refine ax DK rfl ?_;have hr:=Yq ok (p:=p);have okr:=vP (d:=d) (p:=p) (up:=true);have ht:=adn ok (p:=p) hn okr;simp only[rV,ae,ah]at hr;simp only[pP,vZ,ae,ah,go_sem,hr];exact ht _ _ rfl rfl rfl rfl rfl rfl rfl rfl rfl rfl
theorem ado{d:Rd}(ok:Ok0 d){p:Int}{n:Nat}(hn:n<=100000):∀ (k i:Nat),i+k=n->∀ (r:Rd×Int),Ok0 r.1->∀ (s:ak) (h:ac),s 1=I n->s 2=I p->s 4=.fn F.round_MulDown [] []->s 5=.ref 5 none 0 0 0->s 10=.ref 10 none 0 0 0->s 12=.ref 12 none 0 0 0->s 13=I r.2->s 14=I i->
  h 5=.bx (ah d)->h 10=.bx [.v (.bool false),.emp,.v (.int .i64 0)]->h 12=.bx (ah r.1)->
  ∃hh,aj 0 [10,12,13] (au (ai R (az false) aV) [1,2,4,5,10,12,13,14] [5,10,12] s h)=some (.normal,⟨upd (upd (upd (fun _=>.any) 13 (I (mq d p false k r).2)) 12 (.ref 12 none 0 0 0)) 10 (.ref 10 none 0 0 0),hh⟩)/\hh 10=.bx [.v (.bool false),.emp,.v (.int .i64 0)]/\hh 12=.bx (ah (mq d p false k r).1):=by
 intro k;induction k with
 |zero=>
  intro i hi r hr s h h1 h2 h4 h5 h10 h12 h13 h14 k5 k10 k12;have e1:((i:Int)<n)=False:=ff;rw[ag];refine⟨?hh0,?_,?_,?_⟩;rotate_left
  ·simp only[aV,mq,go_sem,h1,h2,h4,h5,h10,h12,h13,h14,k5,k10,k12,e1];rfl
  ·rfl
  ·rfl
 |succ k ih=>
  intro i hi r hr s h h1 h2 h4 h5 h10 h12 h13 h14 k5 k10 k12;have e1:((i:Int)<n)=True:=tt;have e5:IntKind.i64.wrap ((i:Int)+1)=((i+1:Nat):Int):=wi;obtain⟨r1,r2⟩:=r;have hm:=LL hr ok (p:=p);have okm:=CS (a:=r1) (b:=d) (p:=p) (up:=false);have ih':=ih (i+1) (by omega);unfold mq;generalize fF r1 d p false=q at hm okm⊢;obtain⟨q1,q2⟩:=q;simp only[rV,ae,ah]at hm k5 k12;rw[ag];by_cases hr:r2=0
  ·have er:(r2=0)=True:=tt hr;simp only[aV,ah,go_sem,h1,h2,h4,h5,h10,h12,h13,h14,k5,k10,k12,e1,er,hm,e5];exact ih' (q1,q2) okm _ _ rfl rfl rfl rfl rfl rfl rfl rfl rfl rfl rfl
  ·have er:(r2=0)=False:=ff hr;rw[if_neg hr];refine⟨?hh1,?_,?_,?_⟩;rotate_left
   ·simp only[aV,go_sem,h1,h2,h4,h5,h10,h12,h13,h14,k5,k10,k12,e1,er];rfl
   ·rfl
   ·rfl
theorem adp{d:Rd}(ok:Ok0 d){p:Int}{n:Nat}(hn:n<=100000){r:Rd×Int}(hr:Ok0 r.1)(s:ak)(h:ac)(h1:s 1=I n)(h2:s 2=I p)(h4:s 4=.fn F.round_MulDown [] [])(h5:s 5=.ref 5 none 0 0 0)(h10:s 10=.ref 10 none 0 0 0)(h12:s 12=.ref 12 none 0 0 0)(h13:s 13=I r.2)
  (k5:h 5=.bx (ah d)) (k10:h 10=.bx [.v (.bool false),.emp,.v (.int .i64 0)]) (k12:h 12=.bx (ah r.1)):
  gZ false [[.o 0 [],.o 2 [],.o 0 []],[]] [.cell 10 3 true,.t 11] 0 (ai R (az false) uJ s h)=some (rV (mq d p false (n-1) r),[]):=by
 have hl:∀ (s:ak) (h:ac),s 1=I n->s 2=I p->s 4=.fn F.round_MulDown [] []->s 5=.ref 5 none 0 0 0->s 10=.ref 10 none 0 0 0->s 12=.ref 12 none 0 0 0->s 13=I r.2->s 14=I 1->
  h 5=.bx (ah d)->h 10=.bx [.v (.bool false),.emp,.v (.int .i64 0)]->h 12=.bx (ah r.1)->
  ∃hh,aj 0 [10,12,13] (au (ai R (az false) aV) [1,2,4,5,10,12,13,14] [5,10,12] s h)=some (.normal,⟨upd (upd (upd (fun _=>.any) 13 (I (mq d p false (n-1) r).2)) 12 (.ref 12 none 0 0 0)) 10 (.ref 10 none 0 0 0),hh⟩)/\hh 10=.bx [.v (.bool false),.emp,.v (.int .i64 0)]/\hh 12=.bx (ah (mq d p false (n-1) r).1):=by
  by_cases h0:n=0
  ·intro s h a1 a2 a4 a5 a10 a12 a13 a14 b5 b10 b12;have e1:((1:Int)< (n:Nat))=False:=ff;subst h0;rw[ag];refine⟨?hh0,?_,?_,?_⟩;rotate_left
   ·simp only[aV,mq,go_sem,axw,a1,a2,a4,a5,a10,a12,a13,a14,b5,b10,b12,e1];rfl
   ·rfl
   ·rfl
  ·have:=ado ok (p:=p) hn (n-1) 1 (by omega) r hr
   simp_all
 generalize mq d p false (n-1) r=q at hl⊢;obtain⟨r1,r2⟩:=r;obtain⟨q1,q2⟩:=q;have hP:∀ (s:ak) (h:ac),s 1=I n->s 2=I p->s 4=.fn F.round_MulDown [] []->s 5=.ref 5 none 0 0 0->s 10=.ref 10 none 0 0 0->s 12=.ref 12 none 0 0 0->s 13=I r2->s 14=I 1->
  h 5=.bx (ah d)->h 10=.bx [.v (.bool false),.emp,.v (.int .i64 0)]->h 12=.bx (ah r1)->
  gZ false [[.o 0 [],.o 2 [],.o 0 []],[]] [.cell 10 3 true,.t 11] 0 (cr (aj 0 [10,12,13] (au (ai R (az false) aV) [1,2,4,5,10,12,13,14] [5,10,12] s h)) (ai R (az false) (.seq (.ops [10,11] [⟨(some 39),none,.load 3 true (.t 12)⟩,cm 40 13,⟨none,none,.store 3 (.t 10) (.t 39)⟩,cm 11 40]) (.ret))))=some (rV (q1,q2),[]):=fun s h a1 a2 a4 a5 a10 a12 a13 a14 b5 b10 b12=>by
  obtain⟨hh,g1,g2,g3⟩:=hl s h a1 a2 a4 a5 a10 a12 a13 a14 b5 b10 b12;rw[g1];simp only[rV,ae,ah,g2,g3,go_sem]
 generalize hLL:au (ai R (az false) aV) [1,2,4,5,10,12,13,14] [5,10,12]=L at hP;have hX:∀s h,ai R (az false) (.loop [1,2,4,5,10,12,13,14] [5,10,12] aV) s h=L s h:=fun s h=>by rw[←hLL];rfl
 show gZ _ _ _ _ (cr (cr (ai R (az false) (.ops [1,2,4,5,10,12,13,14] [co 14 (.mv (.c (.v (.int .i64 1))))]) s h) fun s h=>aj 0 [10,12,13] (ai R (az false) (.loop [1,2,4,5,10,12,13,14] [5,10,12] aV) s h)) _)=_;simp only[hX];simp only[go_sem,h1,h2,h4,h5,h10,h12,h13];exact hP _ _ rfl rfl rfl rfl rfl rfl rfl rfl k5 k10 k12
theorem aiG{d:Rd}(ok:Ok0 d){p:Int}{n:Nat}(hn:n<=100000):R F.interval_power [ae d,I n,I p,.fn F.round_Down [] [],.fn F.round_MulDown [] []] []=some (rV (pw d n p false),[]):=by
 refine ax DK rfl ?_;have hr:=Ru ok (p:=p);have okr:=vP (d:=d) (p:=p) (up:=false);have ht:=adp ok (p:=p) hn okr;simp only[rV,ae,ah]at hr;simp only[pP,vZ,ae,ah,go_sem,hr];exact ht _ _ rfl rfl rfl rfl rfl rfl rfl rfl rfl rfl
def sS(d:Rd):Int:=if vd d=false\/d.m.length=0 then 0 else if d.neg=true then-1 else 1
theorem vQ{d:Rd}(ok:Ok0 d):Ok0 (gJ d):=by
 unfold gJ;split
 ·exact aU.2
 ·exact⟨ok.1,ok.2⟩
theorem alg{d:Rd}(h:sS d<0):¬sS (gJ d)<0:=by
 unfold sS at h;split at h
 ·omega
 ·split at h
  ·unfold sS gJ;grind
  omega
def qI(d:Rd)(n:Nat)(p:Int)(up:Bool):Rd×Int:=if sS d<0 then(gJ (pw (gJ d) n p (!up)).1,(pw (gJ d) n p (!up)).2)else pw d n p up
theorem Yt{d:Rd}(ok:Ok0 d)(hs:¬sS d<0){p:Int}{n:Nat}(hn:n<=100000){up:Bool}:R F.interval_end [ae d,I n,I p,B up] []=some (rV (pw d n p up),[]):=by
 refine ax Gf rfl ?_;have h1:=PW ok;rw[show(if vd d=false\/d.m.length=0 then(0:Int)else if d.neg=true then-1 else 1)=sS d from rfl]at h1;have e1:(sS d<0)=False:=ff hs;cases up with
 |true=>
  have h2:=aiF ok (p:=p) hn;simp only[rV,ae,ah]at h1 h2;simp only[oW,vD,rV,ae,ah,go_sem,h1,e1,h2]
 |false=>
  have h2:=aiG ok (p:=p) hn;simp only[rV,ae,ah]at h1 h2;simp only[oW,vD,rV,ae,ah,go_sem,h1,e1,h2]
theorem Oq{d:Rd}(ok:Ok0 d){p:Int}{n:Nat}(hn:n<=100000){up:Bool}:R F.interval_end [ae d,I n,I p,B up] []=some (rV (qI d n p up),[]):=by
 unfold qI;by_cases hs:sS d<0
 ·refine ax Gf rfl ?_;have h1:=PW ok;rw[show(if vd d=false\/d.m.length=0 then(0:Int)else if d.neg=true then-1 else 1)=sS d from rfl]at h1;have e1:(sS d<0)=True:=tt hs;have h2:=Gl ok;rw[show(if vd d=false\/d.m.length=0 then aI else(⟨!d.neg,d.m,d.e⟩:Rd))=gJ d from rfl]at h2;have h3:=Yt (vQ ok) (alg hs) (p:=p) hn (up:=!up);have okq:=ahM (d:=gJ d) (n:=n) (p:=p) (up:=!up);generalize gJ d=nd at h2 h3 okq⊢;generalize pw nd n p (!up)=q at h3 okq⊢;obtain⟨q1,q2⟩:=q;have h4:=Gl (d:=q1) okq;rw[show(if vd q1=false\/q1.m.length=0 then aI else(⟨!q1.neg,q1.m,q1.e⟩:Rd))=gJ q1 from rfl]at h4;simp only[rV,ae,ah]at h1 h2 h3 h4;simp only[oW,vD,rV,ae,ah,go_sem,h1,e1,h2,h3,h4]
 simp_all[if_neg,Yt]
def one:Rd:=⟨false,[1],0⟩
theorem Ju:R F.dyadic_Int [I 1] []=some (ae one,[]):=by
 grind[On,I64,bm,one,iw,uA,av,qD,fj]
theorem eX:vd one=true/\Ok0 one:=⟨by decide,⟨fun x hx=>by rw[List.mem_singleton.1 hx];decide,by decide⟩⟩
def DW(x:Ri)(n:Nat)(p:Int):Ri:=if(kI x&&bJ p&&decide (n<=16))=true then(if n=0 then⟨one,one,false⟩else
 tL (qI (if n%2=0 then tj x else x).lo n p false) (qI (if n%2=0 then tj x else x).hi n p true))else dN
theorem Vu{a b:Rd}(oa:Ok0 a)(ob:Ok0 b):Ok0 (aEw a b):=by
 grind[aEw]
theorem Vv{a b:Rd}(oa:Ok0 a)(ob:Ok0 b):Ok0 (kB a b):=by
 grind[kB]
theorem Yu{x:Ri}(ok:OkI x):OkI (tj x):=by
 unfold tj;split
 ·refine⟨?_,Vv (ye ok.lo) (ye ok.hi)⟩;unfold AJ;split
  ·exact aU.2
  ·exact Vu (ye ok.lo) (ye ok.hi)
 ·exact⟨aU.2,aU.2⟩
theorem Yv{d:Rd}(ok:Ok0 d){n:Nat}{p:Int}{up:Bool}:Ok0 (qI d n p up).1:=by
 grind[qI,vQ,ahM]
theorem Jv{x:Ri}(ok:OkI x){p:Int}{n:Nat}(hn:n<=100000):R F.interval_Power [am x,I n,I p] []=some (am (DW x n p),[]):=by
 refine ax Mr rfl ?_;have hk:=uI ok;have hp:=uH (p:=p);have hw:=lC;have n0:((n:Int)<0)=False:=ff;unfold DW;simp only[am,ao]at hw;cases h1:kI x with
 |false=>
  rw[h1]at hk;simp only[fC,iu,am,ao,go_sem,hk,hw]
 |true=>
  rw[h1]at hk;cases h2:bJ p with
  |false=>
   rw[h2]at hp;simp only[fC,iu,am,ao,go_sem,hk,hp,hw]
  |true=>
   rw[h2]at hp;rw[awT,awT];by_cases h3:n<=16
   ·have e3:(16< (n:Int))=False:=ff;rw[if_pos (decide_eq_true h3)];by_cases h4:n=0
    ·have e4:((n:Int)=0)=True:=tt;rw[if_pos h4];have g1:=Ju;have g2:=iD eX.2 eX.1;simp only[one,am,ao,ae,ah]at g1 g2;simp only[fC,iu,one,am,ao,go_sem,hk,hp,n0,e3,e4,g1,g2]
    ·have e4:((n:Int)=0)=False:=ff;rw[if_neg h4];by_cases h5:n%2=0
     ·have e5:((n:Int).tmod 2=0)=True:=tt (by grind);rw[if_pos h5];have ha:=aiE ok;have oa:=Yu ok;generalize tj x=y at ha oa⊢;have g1:=Oq oa.lo hn (p:=p) (up:=false);have g2:=Oq oa.hi hn (p:=p) (up:=true);generalize qI y.lo n p false=r at g1⊢;generalize qI y.hi n p true=q at g2⊢;obtain⟨r1,r2⟩:=r;obtain⟨q1,q2⟩:=q;have hm:=P1 (a:=r1) (b:=q1) (e:=r2) (f:=q2);simp only[am,ao,ae,ah,rV]at ha g1 g2 hm;simp only[fC,iu,am,ao,go_sem,axt,hk,hp,n0,e3,e4,e5,ha,g1,g2,hm]
     ·have e5:((n:Int).tmod 2=0)=False:=ff (by grind);rw[if_neg h5];have g1:=Oq ok.lo hn (p:=p) (up:=false);have g2:=Oq ok.hi hn (p:=p) (up:=true);generalize qI x.lo n p false=r at g1⊢;generalize qI x.hi n p true=q at g2⊢;obtain⟨r1,r2⟩:=r;obtain⟨q1,q2⟩:=q;have hm:=P1 (a:=r1) (b:=q1) (e:=r2) (f:=q2);simp only[am,ao,ae,ah,rV]at g1 g2 hm;simp only[fC,iu,am,ao,go_sem,axt,hk,hp,n0,e3,e4,e5,g1,g2,hm]
   ·have e3:(16< (n:Int))=True:=tt;rw[if_neg (fun h=>h3 (of_decide_eq_true h))];simp only[fC,iu,am,ao,go_sem,hk,hp,n0,e3,hw]
def Cc(x:Ri)(e:Nat)(p:Int):Ri:=if e<=16 then DW x e p else ce (DW x 16 p) (DW x (e-16) p) p
theorem Vw{r s:Rd×Int}(h1:Ok0 r.1)(h2:Ok0 s.1):OkI (tL r s):=by
 unfold tL;split
 ·exact⟨h1,h2⟩
 ·exact⟨aU.2,aU.2⟩
theorem P4{x:Ri}(ok:OkI x){n:Nat}{p:Int}:OkI (DW x n p):=by
 unfold DW;have h:OkI (if n%2=0 then tj x else x):=by
  grind[Yu]
 split
 ·split
  ·exact⟨eX.2,eX.2⟩
  ·exact Vw (Yv h.1) (Yv h.2)
 ·exact⟨aU.2,aU.2⟩
theorem aiH{x:Ri}(ok:OkI x){p:Int}{e:Nat}(hn:e<=100000):R F.bound_power [am x,I e,I p] []=some (am (Cc x e p),[]):=by
 refine ax SW rfl ?_;unfold Cc;by_cases h1:e<=16
 ·have e1:((e:Int)<=16)=True:=tt;rw[if_pos h1];have h2:=Jv ok hn (p:=p);simp only[am,ao]at h2;simp only[vj,BY,am,ao,go_sem,e1,h2]
 ·have e1:((e:Int)<=16)=False:=ff;rw[if_neg h1];have h2:=Jv ok (show 16<=100000 by decide) (p:=p);have h3:=Jv ok (show e-16<=100000 by omega) (p:=p);have o2:=P4 ok (n:=16) (p:=p);have o3:=P4 ok (n:=e-16) (p:=p);have w1:IntKind.i64.wrap ((e:Int)-16)=((e-16:Nat):Int):=wi;have h4:=vO o2 o3 (p:=p);simp only[am,ao,Int.cast_ofNat_Int]at h2 h3 h4;simp only[vj,BY,am,ao,go_sem,e1,h2,h3,h4,w1]
def aS(l:List Int):List (List AV):=l.map fun(n:Int)=>[I n]
@[go_sem] theorem CT(l:List Int):(aS l).length=l.length:=by simp[aS]
theorem nZ{l:List Int}{i:Int}{n:Nat}{d:Int}(hi:i=n)(h:l[n]?=some d):aW (aS l) i=some (.ipt [I d]):=by
 grind[aW,aS]
theorem Vx{x:Int}:R F.cmp_isNaN_int_ [I x] []=some (B false,[]):=by
 refine ax My rfl ?_;simp only[wt,Dx,go_sem]
theorem adq{x y:Int}:R F.cmp_Compare_int_ [I x,I y] []=some (I (cp x y),[]):=by
 refine ax Jk rfl ?_;have h1:=Vx (x:=x);have h2:=Vx (x:=y);unfold cp;by_cases e1:x<y
 ·have f1:(x<y)=True:=tt e1;simp only[jO,oT,go_sem,h1,h2,f1]
 ·have f1:(x<y)=False:=ff e1;by_cases e2:y<x
  ·have f2:(y<x)=True:=tt e2;simp only[jO,oT,go_sem,h1,h2,f1,f2]
  ·have f2:(y<x)=False:=ff e2;simp only[jO,oT,go_sem,h1,h2,f1,f2]
def lD:List Int->List Int->Int
 |[],[]=>0
 |[],_::_=>-1
 |_::_,[]=>1
 |x::xs,y::ys=>if cp x y=0 then lD xs ys else cp x y
theorem af7{a b:List Int}(hl:a.length=b.length)(h2:a.length<=100000):∀ (k i:Nat),i+k=a.length->∀ (s:ak) (h:ac),s 0=.sl 1 (aS a)->s 1=.sl 1 (aS b)->s 9=.sl 1 (aS a)->s 10=I a.length->s 11=I i->
  ∃hh,aj 0 [0,1] (au (ai R (az false) eK) [0,1,9,10,11] [] s h)=if lD (a.drop i) (b.drop i)=0 then some (.normal,⟨upd (upd (fun _=>.any) 1 (.sl 1 (aS b))) 0 (.sl 1 (aS a)),fun _=>.dead⟩)else some (.ret,⟨upd (fun _=>.any) 4 (I (lD (a.drop i) (b.drop i))),hh⟩):=by
 intro k;induction k with
 |zero=>
  intro i hi s h h0 h1 h9 h10 h11;have e1:((i:Int)<a.length)=False:=ff;rw[axi (by omega),axi (by omega),ag];refine⟨fun _=>.dead,?_⟩;show _=if(0:Int)=0 then _ else _
  simp only[eK,go_sem,h0,h1,h9,h10,h11,e1]
 |succ k ih=>
  intro i hi s h h0 h1 h9 h10 h11;have hlt:i<a.length:=by omega
  have hlt2:i<b.length:=by omega
  have e1:((i:Int)<a.length)=True:=tt;have e4:((b.length:Int)<=(i:Int))=False:=ff;have e2:aW (aS a) (i:Int)=some (.ipt [I a[i]]):=nZ rfl (List.getElem?_eq_getElem hlt);have e3:aW (aS b) (i:Int)=some (.ipt [I b[i]]):=nZ rfl (List.getElem?_eq_getElem hlt2);have e5:IntKind.i64.wrap ((i:Int)+1)=((i+1:Nat):Int):=wi;rw[axh hlt,axh hlt2,ag];have ih':=ih (i+1) (by omega);have hc:=adq (x:=a[i]) (y:=b[i]);generalize a[i]=x at e2 hc⊢;generalize b[i]=y at e3 hc⊢;unfold lD;by_cases hz:cp x y=0
  ·have e6:(cp x y=0)=True:=tt hz;simp only[eK,go_sem,h0,h1,h9,h10,h11,e1,e2,e3,e4,e5,hc,e6];exact ih' _ _ rfl rfl rfl rfl rfl
  ·have e6:(cp x y=0)=False:=ff hz;refine⟨?hh,?_⟩;rotate_left;simp only[eK,go_sem,h0,h1,h9,h10,h11,e1,e2,e3,e4,hc,e6];rfl
theorem abq{a b:List Int}(hl:a.length=b.length)(h2:a.length<=100000):R F.slices_Compare_int_int_ [.sl 1 (aS a),.sl 1 (aS b)] []=some (I (lD a b),[]):=by
 refine ax CC rfl ?_;have h3:=af7 hl h2 a.length 0 (awP _);simp only[ax0,axB]at h3;by_cases hz:lD a b=0
 ·simp only[if_pos hz]at h3;have e1:((a.length:Int)<b.length)=False:=ff;simp only[ij,lZ,go_sem];rw[(h3 _ _ rfl rfl rfl rfl rfl).choose_spec,hz];simp only[go_sem,e1]
 ·simp only[if_neg hz]at h3;simp only[ij,lZ,go_sem];rw[(h3 _ _ rfl rfl rfl rfl rfl).choose_spec];simp only[go_sem]
def bh:List Int->Int
 |[]=>0
 |x::l=>x+bh l
def sm(l:List Int):Prop:=l.length<=1000/\∀x∈l,0<=x/\x<=32
theorem MN{l:List Int}{i:Nat}(h:i<l.length):bh (l.take (i+1))=bh (l.take i)+l[i]:=by
 induction l generalizing i with
 |nil=>grind
 |cons a l ih=>
  cases i with
  |zero=>simp[bh]
  |succ i=>
   have:=ih (i:=i) (by simpa using h);simp only[List.take_succ_cons,bh,List.getElem_cons_succ];omega
theorem Vy{l:List Int}(h:∀x∈l,0<=x/\x<=32):0<=bh l/\bh l<=32*l.length:=by
 induction l with
 |nil=>exact⟨Int.le_refl _,Int.le_refl _⟩
 |cons a l ih=>
  have h1:=h a (List.mem_cons_self ..);have h2:=ih (fun x hx=>h x (List.mem_cons_of_mem _ hx));grind[bh,axE]
theorem af8{a:List Int}(h2:sm a):∀ (k i:Nat),i+k=a.length->∀ (s:ak) (h:ac),s 3=I (bh (a.take i))->s 6=.sl 1 (aS a)->s 7=I a.length->s 8=I i->
  aj 0 [3] (au (ai R (az false) rm) [3,6,7,8] [] s h)=some (.normal,⟨upd (fun _=>.any) 3 (I (bh a)),fun _=>.dead⟩):=by
 intro k;induction k with
 |zero=>
  intro i hi s h h3 h6 h7 h8;have e1:((i:Int)<a.length)=False:=ff;rw[axg (by omega)]at h3;rw[ag];simp only[rm,go_sem,h3,h6,h7,h8,e1]
 |succ k ih=>
  intro i hi s h h3 h6 h7 h8;have hlt:i<a.length:=by omega
  obtain⟨g1,g2⟩:=h2;have e1:((i:Int)<a.length)=True:=tt;have e2:aW (aS a) (i:Int)=some (.ipt [I a[i]]):=nZ rfl (List.getElem?_eq_getElem hlt);have e5:IntKind.i64.wrap ((i:Int)+1)=((i+1:Nat):Int):=wi;have b1:=Vy (l:=a.take i) (fun x hx=>g2 x (List.mem_of_mem_take hx));have b2:=g2 a[i] (axr hlt);have e6:IntKind.i64.wrap (bh (a.take i)+a[i])=bh (a.take (i+1)):=by
   grind[MN,i64_in]
  have ih':=ih (i+1) (by omega);rw[ag];simp only[rm,go_sem,h3,h6,h7,h8,e1,e2,e5,e6];exact ih' _ _ rfl rfl rfl rfl
theorem yf{a:List Int}(h2:sm a):R F.poly_degree [.sl 1 (aS a)] []=some (I (bh a),[]):=by
 refine ax SL rfl ?_;have h3:=af8 h2 a.length 0 (awP _);simp only[Ai,HW,go_sem];rw[h3 _ _ rfl rfl rfl rfl];simp only[go_sem]
def bO(a b:List Int):Int:=if cp (bh a) (bh b)=0 then lD b a else cp (bh a) (bh b)
theorem Vz{a b:List Int}(ha:sm a)(hb:sm b)(hl:a.length=b.length):R F.poly_order [.sl 1 (aS a),.sl 1 (aS b)] []=some (I (bO a b),[]):=by
 refine ax UR rfl ?_;have d1:=yf ha;have d2:=yf hb;have d3:=adq (x:=bh a) (y:=bh b);have d4:=abq hl.symm (by have:=hb.1;omega);unfold bO;by_cases hz:cp (bh a) (bh b)=0
 ·have e6:(cp (bh a) (bh b)=0)=True:=tt hz;simp only[xe,Dm,go_sem,d1,d2,d3,d4,e6]
 ·have e6:(cp (bh a) (bh b)=0)=False:=ff hz;simp only[xe,Dm,go_sem,d1,d2,d3,e6]
structure Rt where
 exps:List Int
 c:Rd
structure Rp where
 vars:Int
 terms:List Rt
def bD(t:Rt):List AV:=[.sl 1 (aS t.exps),B t.c.neg,lm t.c.m,I t.c.e]
def aH(l:List Rt):List (List AV):=l.map bD
def aO(a:Rp):AV:=.agg [I a.vars,.sl 4 (aH a.terms)]
@[go_sem] theorem sW(l:List Rt):(aH l).length=l.length:=by simp[aH]
theorem eZ{l:List Rt}{i:Int}{n:Nat}{d:Rt}(hi:i=n)(h:l[n]?=some d):aW (aH l) i=some (.ipt (bD d)):=by
 grind[aW,aH]
theorem qN{α:Type}{f:α->α}{l:List α}(h:∀x∈l,f x=x):l.map f=l:=(axy (g:=fun c=>c) h).trans (axN _)
@[go_sem] theorem Kp(l:List Rt):(aH l).map (dK [.o 2 [],.o 0 [],.o 2 [],.o 0 []])=aH l:=by
 refine qN fun x hx=>?_;simp only[aH,axR]at hx;obtain⟨t,ht,rfl⟩:=hx;simp only[bD,go_sem]
structure OkT (t:Rt):Prop where
 c:Ok0 t.c
 len:t.exps.length<=100000
structure OkP (a:Rp):Prop where
 t:∀t∈a.terms,OkT t
def xM(e:Int):Bool:=decide (e<0)||decide (32<e)
theorem alh{e:Int}:R F.poly_Valid_1 [I e] []=some (B (xM e),[]):=by
 refine ax Ge rfl ?_;unfold xM;by_cases h:e<0
 ·have e1:(e<0)=True:=tt h;simp only[tE,Ap,go_sem,e1,decide_true,axQ]
 ·have e1:(e<0)=False:=ff h;simp only[tE,Ap,go_sem,e1,decide_false,axY]
theorem af9{l:List Int}(h2:l.length<=100000):R F.slices_ContainsFunc_int_int_ [.sl 1 (aS l),.fn F.poly_Valid_1 [] []] []=some (B (l.any xM),[]):=by
 let p:List AV->Bool:=fun row=>match row with|[.v (.int _ e)]=>xM e|_=>false
 have h1:=U8 (k:=1) (g:=false) (f:=F.poly_Valid_1) (rows:=aS l) (p:=p) eW.2.1 eW.2.2 (eW.1.2.2.2 false) rfl (Ge.1.2.1 false) (by grind[CT]) (fun row hr=>by
  simp only[aS,axR]at hr;obtain⟨e,he,rfl⟩:=hr;refine⟨I e,rfl,rfl,?_⟩;simp only[go_sem,alh,p])
 have h2:=PS (k:=1) ji.2.1 ji.2.2 (ji.1.2.2.2 false) rfl (eW.1.2.1 false) (eW.1.1 false) (by simp only[go_sem]) h1;grind[aS,xM,List.any_map]
def Gp(v:Int)(t:Rt):Bool:=decide ((t.exps.length:Int)=v)&& (vd t.c&& (decide (t.c.m.length≠0)&& (!(t.exps.any xM)&&decide (bh t.exps<=32))))
def VA:Option Rt->Rt->Bool
 |none,_=>true
 |some q,t=>decide (bO q.exps t.exps<0)
def yg(v:Int):Option Rt->List Rt->Bool
 |_,[]=>true
 |pr,t::l=>Gp v t&& (VA pr t&&yg v (some t) l)
theorem zH{v:Int}{t:Rt}(h:Gp v t=true):(t.exps.length:Int)=v/\vd t.c=true/\t.c.m.length≠0/\t.exps.any xM=false/\bh t.exps<=32:=by
 grind[Gp]
theorem vR{l:List Int}(h:l.any xM=false):∀x∈l,0<=x/\x<=32:=by
 simp_all[xM,Bool.or_eq_true,decide_eq_true_eq,not_or]
theorem aiI{a:Rp}(ok:∀t∈a.terms,Ok0 t.c)(hv:a.vars<=8)(h2:a.terms.length<=500):∀ (k i:Nat),i+k=a.terms.length->∀ (pr:Option Rt),(i=0->pr=none)->(0<i->∃q,pr=some q/\a.terms[i-1]?=some q/\Gp a.vars q=true)->
  ∀ (s:ak) (h:ac),s 1=.ref 1 none 0 0 0->s 20=.sl 4 (aH a.terms)->s 21=I a.terms.length->s 22=I i->h 1=.bx [I a.vars,.sl 4 (aH a.terms)]->
  ∃hh,aj 0 [] (au (ai R (az false) dU) [1,20,21,22] [1] s h)=if yg a.vars pr (a.terms.drop i)=true then some (.normal,⟨fun _=>.any,hh⟩)else some (.ret,⟨upd (fun _=>.any) 2 (B false),hh⟩):=by
 intro k;induction k with
 |zero=>
  intro i hi pr p0 p1 s h h1 h20 h21 h22 k1;have e1:((i:Int)<a.terms.length)=False:=ff;rw[axi (by omega),ag];refine⟨?hh0,?_⟩;rotate_left;show _=if true=true then _ else _
  rw[if_pos rfl];simp only[dU,go_sem,h1,h20,h21,h22,k1,e1];rfl
 |succ k ih=>
  intro i hi pr p0 p1 s h h1 h20 h21 h22 k1;have hlt:i<a.terms.length:=by omega
  have e1:((i:Int)<a.terms.length)=True:=tt;have e2:aW (aH a.terms) (i:Int)=some (.ipt (bD a.terms[i])):=eZ rfl (List.getElem?_eq_getElem hlt);have e5:IntKind.i64.wrap ((i:Int)+1)=((i+1:Nat):Int):=wi;have okt:=ok a.terms[i] (axr hlt);have hnext:a.terms[i+1-1]?=some a.terms[i]:=List.getElem?_eq_getElem hlt;rw[axh hlt,ag];have ih':=ih (i+1) (by omega) (some a.terms[i]) (fun h=>absurd h (Nat.succ_ne_zero _));generalize a.terms[i]=t at e2 okt ih' hnext⊢;generalize au _ _ _=L at ih'⊢;have hvd:=ef okt;have hct:=fun(h:(t.exps.length:Int)=a.vars)=>af9 (l:=t.exps) (by omega);simp only[bD]at e2;simp only[ae,ah]at hvd;unfold yg;cases hb:Gp a.vars t with
  |false=>
   simp only[awU,if_neg awW];unfold Gp at hb;by_cases c1:(t.exps.length:Int)=a.vars
   ·have f1:((t.exps.length:Int)=a.vars)=True:=tt c1;rw[decide_eq_true c1,awT]at hb;cases c2:vd t.c with
    |false=>
     rw[c2]at hvd;refine⟨?hh2,?_⟩;rotate_left;simp only[dU,go_sem,h1,h20,h21,h22,k1,e1,e2,f1,hvd];rfl
    |true=>
     rw[c2]at hvd hb;rw[awT]at hb;by_cases c3:t.c.m.length=0
     ·have f3:((t.c.m.length:Int)=0)=True:=tt;refine⟨?hh3,?_⟩;rotate_left;simp only[dU,go_sem,h1,h20,h21,h22,k1,e1,e2,f1,hvd,f3];rfl
     ·have f3:((t.c.m.length:Int)=0)=False:=ff;rw[decide_eq_true c3,awT]at hb;have hct:=hct c1;cases c4:t.exps.any xM with
      |true=>
       rw[c4]at hct;refine⟨?hh4,?_⟩;rotate_left;simp only[dU,go_sem,h1,h20,h21,h22,k1,e1,e2,f1,hvd,f3,hct];rfl
      |false=>
       rw[c4]at hct hb;rw[axZ,awT]at hb;have hdg:=yf (a:=t.exps) ⟨by omega,vR c4⟩;have f5:(32<bh t.exps)=True:=tt (by grind);refine⟨?hh5,?_⟩;rotate_left;simp only[dU,go_sem,h1,h20,h21,h22,k1,e1,e2,f1,hvd,f3,hct,hdg,f5];rfl
   ·have f1:((t.exps.length:Int)=a.vars)=False:=ff c1;refine⟨?hh1,?_⟩;rotate_left;simp only[dU,go_sem,h1,h20,h21,h22,k1,e1,e2,f1];rfl
  |true=>
   obtain⟨c1,c2,c3,c4,c5⟩:=zH hb;have f1:((t.exps.length:Int)=a.vars)=True:=tt c1;rw[c2]at hvd;have f3:((t.c.m.length:Int)=0)=False:=ff;have hct:=hct c1;rw[c4]at hct;have hdg:=yf (a:=t.exps) ⟨by omega,vR c4⟩;have f5:(32<bh t.exps)=False:=ff;simp only[awT];by_cases hi0:i=0
   ·have f6:(0< (i:Int))=False:=ff;rw[p0 hi0];simp only[VA,awT];simp only[dU,go_sem,h1,h20,h21,h22,k1,e1,e2,f1,hvd,f3,hct,hdg,f5,f6,e5];exact ih' (fun _=>⟨t,rfl,hnext,hb⟩) _ _ rfl rfl rfl rfl rfl
   ·have f6:(0< (i:Int))=True:=tt;obtain⟨q,q1,q2,q3⟩:=p1 (by omega);obtain⟨d1,d2,d3,d4,d5⟩:=zH q3;rw[q1];have e7:IntKind.i64.wrap ((i:Int)-1)=((i-1:Nat):Int):=wi;have e8:aW (aH a.terms) ((i-1:Nat):Int)=some (.ipt (bD q)):=eZ rfl q2;simp only[bD]at e8;have ho:=Vz (a:=q.exps) (b:=t.exps) ⟨by omega,vR d4⟩ ⟨by omega,vR c4⟩ (by omega);simp only[VA];by_cases c6:bO q.exps t.exps<0
    ·have f7:(0<=bO q.exps t.exps)=False:=ff;simp only[decide_eq_true c6,awT];simp only[dU,go_sem,h1,h20,h21,h22,k1,e1,e2,f1,hvd,f3,hct,hdg,f5,f6,e5,e7,e8,ho,f7];exact ih' (fun _=>⟨t,rfl,hnext,hb⟩) _ _ rfl rfl rfl rfl rfl
    ·have f7:(0<=bO q.exps t.exps)=True:=tt;simp only[decide_eq_false c6,awU,if_neg awW];refine⟨?hh7,?_⟩;rotate_left;simp only[dU,go_sem,h1,h20,h21,h22,k1,e1,e2,f1,hvd,f3,hct,hdg,f5,f6,e7,e8,ho,f7];rfl
def vp(a:Rp):Bool:=decide (0<=a.vars)&& (decide (a.vars<=8)&& (decide (a.terms.length<=500)&&yg a.vars none a.terms))
theorem Ot{a:Rp}(ok:∀t∈a.terms,Ok0 t.c):R F.poly_Valid [aO a] []=some (B (vp a),[]):=by
 refine ax UI rfl ?_;unfold vp;by_cases c1:0<=a.vars
 ·have f1:(a.vars<0)=False:=ff;rw[decide_eq_true c1,awT];by_cases c2:a.vars<=8
  ·have f2:(8<a.vars)=False:=ff;rw[decide_eq_true c2,awT];by_cases c3:a.terms.length<=500
   ·have f3:(500< (a.terms.length:Int))=False:=ff;rw[decide_eq_true c3,awT];have h3:=aiI ok c2 c3 a.terms.length 0 (awP _) none (fun _=>rfl) (fun h=>absurd h (Nat.lt_irrefl _));simp only[ax0,axB]at h3;cases hb:yg a.vars none a.terms with
    |true=>
     rw[hb]at h3;simp only[lv,qg,aO,go_sem,f1,f2,f3];rw[(h3 _ _ rfl rfl rfl rfl rfl).choose_spec];simp only[go_sem]
    |false=>
     rw[hb]at h3;simp only[lv,qg,aO,go_sem,f1,f2,f3];rw[(h3 _ _ rfl rfl rfl rfl rfl).choose_spec];simp only[go_sem]
   ·have f3:(500< (a.terms.length:Int))=True:=tt;rw[decide_eq_false c3,awU];simp only[lv,qg,aO,go_sem,f1,f2,f3]
  ·have f2:(8<a.vars)=True:=tt;rw[decide_eq_false c2,awU];simp only[lv,qg,aO,go_sem,f1,f2]
 ·have f1:(a.vars<0)=True:=tt;rw[decide_eq_false c1,awU];simp only[lv,qg,aO,go_sem,f1]
theorem qO{a:Rp}(ok:OkP a):R F.poly_Valid [aO a] []=some (B (vp a),[]):=Ot fun t h=>(ok.t t h).c
@[go_sem] theorem Yw(l:List Ri):(bL l).map (dK [.o 0 [],.o 2 [],.o 0 [],.o 0 [],.o 2 [],.o 0 [],.o 0 []])=bL l:=by
 refine qN fun x hx=>?_;simp only[bL,axR]at hx;obtain⟨t,ht,rfl⟩:=hx;simp only[ao,go_sem]
theorem abr{x:Ri}(ok:OkI x):R F.bound_domain_1 [am x] []=some (B (!kI x),[]):=by
 refine ax DH rfl ?_;have hv:=mj ok;simp only[am,ao]at hv;unfold kI;cases h1:vi x with
 |false=>
  rw[h1]at hv;rw[axx];simp only[pM,xE,am,ao,go_sem,hv,axZ]
 |true=>
  rw[h1]at hv;rw[Bool.and_true,Bool.not_not];simp only[pM,xE,am,ao,go_sem,hv]
theorem aga{l:List Ri}(ok:∀x∈l,OkI x)(h2:l.length<=100000):R F.slices_ContainsFunc_api_Interval_api_Interval_ [.sl 7 (bL l),.fn F.bound_domain_1 [] []] []=some (B (l.any fun x=>!kI x),[]):=by
 let p:List AV->Bool:=fun row=>match row with|[.v (.bool n1),.sl _ m1,.v (.int _ e1),.v (.bool n2),.sl _ m2,.v (.int _ e2),.v (.bool a)]=>!kI ⟨⟨n1,m1.map (fun r=>match r with|[.v (.int _ x)]=>x.toNat|_=>0),e1⟩,⟨n2,m2.map (fun r=>match r with|[.v (.int _ x)]=>x.toNat|_=>0),e2⟩,a⟩|_=>false
 have hmm:∀m:List Nat,(aB m).map (fun r=>match r with|[.v (.int _ x)]=>x.toNat|_=>0)=m:=fun m=>by
  grind[aB,List.map_map,axy,axN]
 have hp:∀x:Ri,p (ao x)=!kI x:=fun x=>by
  show(!kI ⟨⟨x.lo.neg,(aB x.lo.m).map _,x.lo.e⟩,⟨x.hi.neg,(aB x.hi.m).map _,x.hi.e⟩,x.all⟩)=_
  simp_all
 have h1:=U8 (k:=7) (g:=true) (f:=F.bound_domain_1) (rows:=bL l) (p:=p) aK.2.1 aK.2.2 (aK.1.2.2.2 false) rfl (DH.1.2.1 false) (by grind[Yr]) (fun row hr=>by
  simp only[bL,axR]at hr;obtain⟨x,hx,rfl⟩:=hr;have hd:=abr (ok x hx);refine⟨am x,rfl,rfl,?_⟩;rw[hp];simp only[am,ao]at hd;simp only[am,ao,go_sem,hd])
 have h2:=PS (k:=7) aQ.2.1 aQ.2.2 (aQ.1.2.2.2 false) rfl (aK.1.2.1 false) (aK.1.1 false) (by simp only[go_sem]) h1;have h3:(bL l).any p=l.any fun x=>!kI x:=by
  unfold bL;rw[List.any_map];congr 1;funext x;exact hp x
 grind
def ni(a:Rp)(dom:List Ri):Bool:=vp a&& (decide ((dom.length:Int)=a.vars)&&!(dom.any fun x=>!kI x))
theorem adr{a:Rp}{dom:List Ri}(oa:OkP a)(od:∀x∈dom,OkI x)(h2:dom.length<=100000):R F.bound_domain [aO a,.sl 7 (bL dom)] []=some (B (ni a dom),[]):=by
 refine ax PD rfl ?_;have hv:=qO oa;have hc:=aga od h2;simp only[aO]at hv;unfold ni;cases h1:vp a with
 |false=>
  rw[h1]at hv;simp only[oR,vg,aO,go_sem,hv]
 |true=>
  rw[h1]at hv;by_cases h3:(dom.length:Int)=a.vars
  ·have e3:((dom.length:Int)=a.vars)=True:=tt h3;simp only[oR,vg,aO,go_sem,hv,e3,hc]
  ·have e3:((dom.length:Int)=a.vars)=False:=ff h3;simp only[oR,vg,aO,go_sem,hv,e3]
theorem Kq{a:Rp}{dom:List Ri}(oa:OkP a)(od:∀x∈dom,OkI x)(h2:dom.length<=100000){p:Int}:R F.bound_fits [aO a,.sl 7 (bL dom),I p] []=some (B (ni a dom&&bJ p),[]):=by
 refine ax UO rfl ?_;have hd:=adr oa od h2;simp only[aO]at hd;unfold bJ;cases h1:ni a dom with
 |false=>
  rw[h1]at hd;simp only[sq,yQ,aO,go_sem,hd]
 |true=>
  rw[h1]at hd;by_cases h3:8<=p
  ·have e3:(8<=p)=True:=tt h3;simp only[sq,yQ,aO,go_sem,hd,e3,decide_true,awT]
  ·have e3:(8<=p)=False:=ff h3;simp only[sq,yQ,aO,go_sem,hd,e3,decide_false,awU]
theorem Hw:R F.bound_whole [] []=some (am dN,[]):=by
 refine ax SO rfl ?_;simp only[Ak,H0,am,ao,dN,aI,go_sem]
def Ii(p:Int):List Ri->List Int->Ri->Ri
 |d::ds,e::es,x=>Ii p ds es (if 0<e then ce x (Cc d e.toNat p) p else x)
 |_,_,x=>x
theorem ali{dn up:Rd->Rd->Rd×Int}{pr:Nat->Rd×Rd}(h1:∀a b,Ok0 (dn a b).1)(h2:∀a b,Ok0 (up a b).1):OkI (Ih (pS dn up pr)):=by
 have hN:∀ (k i:Nat) (o:Rd×Rd),Ok0 o.1->Ok0 o.2->OkI (Ih (aDo dn up pr k i o)):=by
  intro k;induction k with
  |zero=>exact fun i o g1 g2=>⟨g1,g2⟩
  |succ k ih=>
   intro i o g1 g2;unfold aDo;split
   ·grind
   ·exact⟨aU.2,aU.2⟩
 unfold pS;split
 ·grind
 ·exact⟨aU.2,aU.2⟩
theorem kn{x y:Ri}{p:Int}:OkI (ce x y p):=by
 unfold ce;split
 ·grind[ali,CS]
 ·exact⟨aU.2,aU.2⟩
theorem Kr{a b:Rd}{p:Int}{up:Bool}:Ok0 (di a b p up).1:=by
 unfold di;split
 ·exact sK.2
 ·exact aU.2
theorem s6{x y:Ri}{p:Int}:OkI (cW x y p):=by
 unfold cW;split
 ·grind[Vw,Kr]
 ·exact⟨aU.2,aU.2⟩
theorem aiJ{x:Ri}(ok:OkI x){e:Nat}{p:Int}:OkI (Cc x e p):=by
 grind[Cc,P4,kn]
theorem alj{p:Int}:∀ (ds:List Ri) (es:List Int) (x:Ri),OkI x->OkI (Ii p ds es x):=by
 intro ds;induction ds with
 |nil=>exact fun es x h=>by cases es<;>exact h
 |cons d ds ih=>
  intro es x h;cases es with
  |nil=>exact h
  |cons e es=>
   grind[Ii,kn]
theorem aod{dom:List Ri}(od:∀x∈dom,OkI x){es:List Int}(hl:dom.length=es.length)(h2:dom.length<=100000)(he:∀e∈es,0<=e/\e<=32){p:Int}{c3 c6 c7 c9:List AV}{rw':AV}{n j:Int}
  (q3:aC [3,6,7,9,10] (.bx c3)=true) (q6:aC [3,6,7,9,10] (.bx c6)=true) (q7:aC [3,6,7,9,10] (.bx c7)=true) (q9:aC [3,6,7,9,10] (.bx c9)=true) (qr:gk [3,6,7,9,10] rw'=rw'):
  ∀ (k i:Nat),i+k=es.length->∀ (x:Ri),OkI x->∀ (s:ak) (h:ac),s 1=.sl 7 (bL dom)->s 2=I p->s 6=.ref 6 none 0 0 0->s 7=.ref 7 none 0 0 0->s 10=.ref 10 none 0 0 0->s 22=rw'->s 23=I n->s 24=I j->s 32=.sl 1 (aS es)->s 33=I es.length->s 34=I i->
  h 3=.bx c3->h 6=.bx c6->h 7=.bx c7->h 9=.bx c9->h 10=.bx (ao x)->
  ∃hh,aj 2 [1,2,6,7,10,22,23,24] (au (ai R (az false) fX) [1,2,6,7,10,22,23,24,32,33,34] [3,6,7,9,10] s h)=some (.normal,⟨upd (upd (upd (upd (upd (upd (upd (upd (fun _=>.any) 24 (I j)) 23 (I n)) 22 rw') 10 (.ref 10 none 0 0 0)) 7 (.ref 7 none 0 0 0)) 6 (.ref 6 none 0 0 0)) 2 (I p)) 1 (.sl 7 (bL dom)),hh⟩)/\
   hh 3=.bx c3/\hh 6=.bx c6/\hh 7=.bx c7/\hh 10=.bx (ao (Ii p (dom.drop i) (es.drop i) x))/\∀a,a≠3->a≠6->a≠7->a≠9->a≠10->hh a=.dead:=by
 intro k;induction k with
 |zero=>
  intro i hi x ox s h h1 h2' h6 h7 h10 h22 h23 h24 h32 h33 h34 k3 k6 k7 k9 k10;have e1:((i:Int)<es.length)=False:=ff;rw[axi (by omega),axi (by omega),ag];refine⟨?hh0,?_,?_,?_,?_,?_,?_⟩;rotate_left
  ·simp only[fX,go_sem,h1,h2',h6,h7,h10,h22,h23,h24,h32,h33,h34,k3,k6,k7,k9,k10,q3,q6,q7,q9,qr,e1];rfl
  ·rfl
  ·rfl
  ·rfl
  ·rfl
  simp_all[azJ,if_false]
 |succ k ih=>
  intro i hi x ox s h h1 h2' h6 h7 h10 h22 h23 h24 h32 h33 h34 k3 k6 k7 k9 k10;have hlt:i<es.length:=by omega
  have hlt2:i<dom.length:=by omega
  have e1:((i:Int)<es.length)=True:=tt;have e2:aW (aS es) (i:Int)=some (.ipt [I es[i]]):=nZ rfl (List.getElem?_eq_getElem hlt);have e3:aW (bL dom) (i:Int)=some (.ipt (ao dom[i])):=CR rfl (List.getElem?_eq_getElem hlt2);have e5:IntKind.i64.wrap ((i:Int)+1)=((i+1:Nat):Int):=wi;have oki:=od dom[i] (axr hlt2);have hb:=he es[i] (axr hlt);rw[axh hlt,axh hlt2,ag];have ih':=ih (i+1) (by omega);unfold Ii;generalize es[i]=e at e2 hb⊢;generalize dom[i]=d at e3 oki⊢;obtain⟨m,rfl⟩:=ax5 hb.1;rw[awY];have hpw:=aiH oki (e:=m) (by omega) (p:=p);have opw:=aiJ oki (e:=m) (p:=p);generalize Cc d m p=y at hpw opw⊢;have hmu:=vO ox opw (p:=p);have omu:=kn (x:=x) (y:=y) (p:=p);generalize ce x y p=z at hmu omu⊢;simp only[am,ao]at e3 hpw hmu k10;by_cases hm:0< (m:Int)
  ·have f1:(0< (m:Int))=True:=tt hm;simp only[fX,go_sem,h1,h2',h6,h7,h10,h22,h23,h24,h32,h33,h34,k3,k6,k7,k9,k10,q3,q6,q7,q9,qr,e1,e2,e3,f1,hpw,hmu,e5];exact ih' z omu _ _ rfl rfl rfl rfl rfl rfl rfl rfl rfl rfl rfl rfl rfl rfl rfl rfl
  ·have f1:(0< (m:Int))=False:=ff hm;simp only[fX,go_sem,h1,h2',h6,h7,h10,h22,h23,h24,h32,h33,h34,k3,k6,k7,k9,k10,q3,q6,q7,q9,qr,e1,e2,e3,f1,hpw,hmu,e5];exact ih' x ox _ _ rfl rfl rfl rfl rfl rfl rfl rfl rfl rfl rfl rfl rfl rfl rfl rfl
def Ou(p:Int)(dom:List Ri):List Rt->Ri->Ri
 |[],s=>s
 |t::l,s=>Ou p dom l (cW s (Ii p dom t.exps ⟨t.c,t.c,false⟩) p)
theorem Ks{v:Int}:∀ (l:List Rt) (pr:Option Rt),yg v pr l=true->∀t∈l,Gp v t=true:=by
 intro l;induction l with
 |nil=>grind
 |cons a l ih=>
  intro pr h t ht;unfold yg at h;grind
theorem ads{a:Rp}{dom:List Ri}(oa:OkP a)(od:∀x∈dom,OkI x)(hv:∀t∈a.terms,Gp a.vars t=true)(hl:(dom.length:Int)=a.vars)(h8:a.vars<=8)(h5:a.terms.length<=500){p:Int}:
  ∀ (k i:Nat),i+k=a.terms.length->∀ (x:Ri),OkI x->∀ (s:ak) (h:ac),s 1=.sl 7 (bL dom)->s 2=I p->s 6=.ref 6 none 0 0 0->s 7=.ref 7 none 0 0 0->s 22=.sl 4 (aH a.terms)->s 23=I a.terms.length->s 24=I i->
  h 3=.bx [I a.vars,.sl 4 (aH a.terms)]->h 6=.bx [.v (.bool false),.emp,.v (.int .i64 0),.v (.bool false),.emp,.v (.int .i64 0),.v (.bool false)]->h 7=.bx (ao x)->
  ∃hh,aj 0 [6,7] (au (ai R (az false) ke) [1,2,6,7,22,23,24] [3,6,7] s h)=some (.normal,⟨upd (upd (fun _=>.any) 7 (.ref 7 none 0 0 0)) 6 (.ref 6 none 0 0 0),hh⟩)/\hh 6=.bx [.v (.bool false),.emp,.v (.int .i64 0),.v (.bool false),.emp,.v (.int .i64 0),.v (.bool false)]/\hh 7=.bx (ao (Ou p dom (a.terms.drop i) x)):=by
 intro k;induction k with
 |zero=>
  intro i hi x ox s h h1 h2 h6 h7 h22 h23 h24 k3 k6 k7;have e1:((i:Int)<a.terms.length)=False:=ff;rw[axi (by omega),ag];refine⟨?hh0,?_,?_,?_⟩;rotate_left
  ·simp only[ke,go_sem,h1,h2,h6,h7,h22,h23,h24,k3,k6,k7,e1];rfl
  ·rfl
  ·rfl
 |succ k ih=>
  intro i hi x ox s h h1 h2 h6 h7 h22 h23 h24 k3 k6 k7;have hlt:i<a.terms.length:=by omega
  have e1:((i:Int)<a.terms.length)=True:=tt;have e2:aW (aH a.terms) (i:Int)=some (.ipt (bD a.terms[i])):=eZ rfl (List.getElem?_eq_getElem hlt);have e5:IntKind.i64.wrap ((i:Int)+1)=((i+1:Nat):Int):=wi;have okt:=oa.t a.terms[i] (axr hlt);obtain⟨c1,c2,c3,c4,c5⟩:=zH (hv a.terms[i] (axr hlt));rw[axh hlt,ag];have ih':=ih (i+1) (by omega);unfold Ou;generalize a.terms[i]=t at e2 okt c1 c2 c3 c4 c5⊢;have hpt:=iD okt.c c2;have hin:=aod (dom:=dom) od (es:=t.exps) (by omega) (by omega) (vR c4) (p:=p) (c3:=[I a.vars,.sl 4 (aH a.terms)]) (c6:=[.v (.bool false),.emp,.v (.int .i64 0),.v (.bool false),.emp,.v (.int .i64 0),.v (.bool false)]) (c7:=ao x) (c9:=bD t) (rw':=.sl 4 (aH a.terms)) (n:=a.terms.length) (j:=i) rfl rfl rfl rfl rfl t.exps.length 0 (awP _) ⟨t.c,t.c,false⟩ ⟨okt.c,okt.c⟩;simp only[ax0,axB]at hin;have oy:=alj (p:=p) dom t.exps ⟨t.c,t.c,false⟩ ⟨okt.c,okt.c⟩;generalize Ii p dom t.exps ⟨t.c,t.c,false⟩=y at hin oy⊢;have hadd:=vM ox oy (p:=p);have oz:=s6 (x:=x) (y:=y) (p:=p);generalize cW x y p=z at hadd oz⊢;generalize hL0:au (ai R (az false) fX) [1,2,6,7,10,22,23,24,32,33,34] [3,6,7,9,10]=L0 at hin;have hin2:∀ (S:ak) (H:ac) (X:Option (Ex×St)),aj 2 [1,2,6,7,10,22,23,24] (L0 S H)=X->S 1=.sl 7 (bL dom)->S 2=I p->S 6=.ref 6 none 0 0 0->S 7=.ref 7 none 0 0 0->S 10=.ref 10 none 0 0 0->S 22=.sl 4 (aH a.terms)->S 23=I a.terms.length->S 24=I i->S 32=.sl 1 (aS t.exps)->S 33=I t.exps.length->S 34=I 0->
   H 3=.bx [I a.vars,.sl 4 (aH a.terms)]->H 6=.bx [.v (.bool false),.emp,.v (.int .i64 0),.v (.bool false),.emp,.v (.int .i64 0),.v (.bool false)]->H 7=.bx (ao x)->H 9=.bx (bD t)->H 10=.bx (ao ⟨t.c,t.c,false⟩)->
   ∃hh,X=some (.normal,⟨upd (upd (upd (upd (upd (upd (upd (upd (fun _=>.any) 24 (I i)) 23 (I a.terms.length)) 22 (.sl 4 (aH a.terms))) 10 (.ref 10 none 0 0 0)) 7 (.ref 7 none 0 0 0)) 6 (.ref 6 none 0 0 0)) 2 (I p)) 1 (.sl 7 (bL dom)),hh⟩)/\
    hh 3=.bx [I a.vars,.sl 4 (aH a.terms)]/\hh 6=.bx [.v (.bool false),.emp,.v (.int .i64 0),.v (.bool false),.emp,.v (.int .i64 0),.v (.bool false)]/\hh 7=.bx (ao x)/\hh 10=.bx (ao y)/\∀a,a≠3->a≠6->a≠7->a≠9->a≠10->hh a=.dead:=fun S H X hX=>by
   rw[←hX];exact hin S H
  have hX:∀s h,ai R (az false) (.loop [1,2,6,7,10,22,23,24,32,33,34] [3,6,7,9,10] fX) s h=L0 s h:=fun s h=>by rw[←hL0];rfl
  simp only[bD]at e2 hin2;simp only[am,ao,ae,ah]at hpt hadd k7 hin2;simp only[ke,hX,go_sem,h1,h2,h6,h7,h22,h23,h24,k3,k6,k7,e1,e2,hpt];generalize hB:aj 2 [1,2,6,7,10,22,23,24] (L0 _ _)=X;obtain⟨hh,g0,g3,g6,g7,g10,gd⟩:=hin2 _ _ _ hB rfl rfl rfl rfl rfl rfl rfl rfl rfl rfl rfl rfl rfl rfl rfl rfl;rw[g0];simp only[go_sem,ne_eq,not_false_eq_true,g7,g10,gd,hadd,e5];refine ih' z oz _ _ ?_ ?_ ?_ ?_ ?_ ?_ ?_ ?_ ?_ ?_
  all_goals first|rfl|exact g3|exact g6
def pg(a:Rp)(dom:List Ri)(p:Int):Ri:=if(ni a dom&&bJ p)=true then Ou p dom a.terms ⟨aI,aI,false⟩else dN
theorem agb{a:Rp}{dom:List Ri}(oa:OkP a)(od:∀x∈dom,OkI x)(h2:dom.length<=100000){p:Int}:R F.bound_Naive [aO a,.sl 7 (bL dom),I p] []=some (am (pg a dom p),[]):=by
 refine ax SP rfl ?_;have hf:=Kq oa od h2 (p:=p);have hw:=Hw;unfold pg;simp only[aO]at hf;cases hb:(ni a dom&&bJ p)with
 |false=>
  rw[hb]at hf;simp only[uY,BW,aO,am,ao,go_sem,hf,hw]
 |true=>
  rw[hb]at hf;simp only[ni,vp,awS,decide_eq_true_eq]at hb;obtain⟨⟨⟨v1,v2,v3,v4⟩,v5,v6⟩,v7⟩:=hb;have ho:=ads oa od (Ks _ _ v4) v5 v2 v3 (p:=p) a.terms.length 0 (awP _) ⟨aI,aI,false⟩ ⟨aU.2,aU.2⟩;simp only[ax0,axB]at ho;generalize Ou p dom a.terms ⟨aI,aI,false⟩=z at ho⊢;have hpt:=iD aU.2 aU.1;generalize hL0:au (ai R (az false) ke) [1,2,6,7,22,23,24] [3,6,7]=L0 at ho;have hX:∀s h,ai R (az false) (.loop [1,2,6,7,22,23,24] [3,6,7] ke) s h=L0 s h:=fun s h=>by rw[←hL0];rfl
  have ho2:∀ (S:ak) (H:ac) (X:Option (Ex×St)),aj 0 [6,7] (L0 S H)=X->S 1=.sl 7 (bL dom)->S 2=I p->S 6=.ref 6 none 0 0 0->S 7=.ref 7 none 0 0 0->S 22=.sl 4 (aH a.terms)->S 23=I a.terms.length->S 24=I 0->
   H 3=.bx [I a.vars,.sl 4 (aH a.terms)]->H 6=.bx [.v (.bool false),.emp,.v (.int .i64 0),.v (.bool false),.emp,.v (.int .i64 0),.v (.bool false)]->H 7=.bx (ao ⟨aI,aI,false⟩)->
   ∃hh,X=some (.normal,⟨upd (upd (fun _=>.any) 7 (.ref 7 none 0 0 0)) 6 (.ref 6 none 0 0 0),hh⟩)/\hh 6=.bx [.v (.bool false),.emp,.v (.int .i64 0),.v (.bool false),.emp,.v (.int .i64 0),.v (.bool false)]/\hh 7=.bx (ao z):=fun S H X hX=>by
   rw[←hX];exact ho S H
  simp only[am,ao,ae,ah,aI]at hpt ho2;simp only[uY,BW,hX,aO,am,ao,go_sem,hf,hpt];generalize hB:aj 0 [6,7] (L0 _ _)=X;obtain⟨hh,g0,g6,g7⟩:=ho2 _ _ _ hB rfl rfl rfl rfl rfl rfl rfl rfl rfl rfl;rw[g0];simp only[go_sem,g6,g7]
theorem BG{n:Nat}{i:Int}(hi:i=n)(hn:n<18446744073709551616):dP .and (.v (.int .u64 i)) (.v (.int .u64 4294967295))=some (.v (.int .u64 ((n%4294967296:Nat):Int))):=by
 rw[Pj];have e:(BitVec.ofInt IntKind.u64.bits (n:Int)&&&BitVec.ofInt IntKind.u64.bits 4294967295).toNat=n%4294967296:=by
  show(BitVec.ofInt 64 (n:Int)&&&BitVec.ofInt 64 4294967295).toNat=n%4294967296;rw[BitVec.toNat_and];have e2:(BitVec.ofInt 64 (n:Int)).toNat=n:=by
   grind
  rw[e2,show(BitVec.ofInt 64 4294967295).toNat=2^32-1 from by decide,Nat.and_two_pow_sub_one_eq_mod]
 grind[dE]
theorem VB{n:Nat}{i:Int}(hi:i=n)(hn:n<4294967296):dP .and (.v (.int .u32 i)) (.v (.int .u32 1))=some (.v (.int .u32 ((n%2:Nat):Int))):=by
 rw[Pj];have e:(BitVec.ofInt IntKind.u32.bits (n:Int)&&&BitVec.ofInt IntKind.u32.bits 1).toNat=n%2:=by
  show(BitVec.ofInt 32 (n:Int)&&&BitVec.ofInt 32 1).toNat=n%2;grind
 grind[BB]
theorem abt(m:List Nat)(h2:m.length<4611686018427387904):∀ (n:Nat),n<=m.length->∀ (s:ak) (h:ac),s 0=lm m->s 3=I n->
  aj 0 [0,3] (au (ai R (az false) H7) [0,3] [] s h)=some (.normal,⟨upd (upd (fun _=>.any) 3 (I (mf m n))) 0 (lm m),fun _=>.dead⟩):=Rk m h2
theorem DX{m:List Nat}(hb:Lb m)(h:m.length<=10000000):R F.r02_trim [lm m] []=some (lm (av (ab m)),[]):=by
 refine ax aa1 rfl ?_;have h1:dZ 1 (lm m) none (some (I (mf m m.length:Nat))) none=some (lm (av (ab m))):=by
  rw[Jl (a:=0) (b:=mf m m.length) rfl (uB rfl (DC _ _)) (DC _ _),ax0,Nat.sub_zero,Me hb]
 have hl:=dp m hb;have e1:((av (ab m)).length*4<=140737488355328)=True:=tt;simp only[Fv,NP,go_sem,abt m (by omega) m.length (awQ _),h1,Vk,e1,axc,axI,true_or,awP,awQ,List.replicate_zero]
theorem adt:∀ (x b:Nat),x<4294967296->b+af x<=100000000->∀ (s:ak) (h:ac),s 3=I b->s 4=U x->
  aj 0 [3] (au (ai R (az false) xf) [3,4] [] s h)=some (.normal,⟨upd (fun _=>.any) 3 (I (b+af x:Nat)),fun _=>.dead⟩):=by
 intro x;induction x using Nat.strongRecOn with
 |ind x ih=>
  intro b hx hb s h h3 h4;rw[ag];by_cases h0:x=0
  ·have e1:(0< (x:Int))=False:=ff;rw[h0,pe,axo];simp only[xf,go_sem,h3,h4,e1]
  ·have e1:(0< (x:Int))=True:=tt;have e2:=Hn (n:=x) (k:=1) (kk:=.u64) (j:=1) rfl rfl (by omega);have e3:IntKind.i64.wrap ((b:Int)+1)=((b+1:Nat):Int):=wi;have e4:af x=1+af (x/2^1):=by
    have h5:=kl x 1;grind[eL]
   have ih':=ih (x/2^1) (by omega) (b+1) (by omega) (by omega);rw[show b+af x=b+1+af (x/2^1)by omega];simp only[xf,go_sem,h3,h4,e1,e2,e3];exact ih' _ _ rfl rfl
theorem VC{m:List Nat}(hb:Lb m)(h:m.length<=1000000)(hc:Bb m):R F.r02_bits [lm m] []=some (I (af (ab m):Nat),[]):=by
 refine ax aa2 rfl ?_;by_cases h0:m.length=0
 ·have:m=[]:=List.length_eq_zero_iff.1 h0;subst this;simp only[A9,G9,go_sem,axI,axB,ab,pe]
 ·have e1:((m.length:Int)=0)=False:=ff;have e2:IntKind.i64.wrap ((m.length:Int)-1)=((m.length-1:Nat):Int):=wi;have e3:IntKind.i64.wrap (32*((m.length-1:Nat):Int))=((32*(m.length-1):Nat):Int):=wi;have e4:aW (aB m) ((m.length-1:Nat):Int)=some (.ipt [U (m.getD (m.length-1) 0:Nat)]):=bt rfl (by omega);have hx:=bN hb (m.length-1);have e5:=adt (m.getD (m.length-1) 0) (32*(m.length-1)) hx (by have:=(bK (k:=32)).2 hx;omega);have e6:32*(m.length-1)+af (m.getD (m.length-1) 0)=af (ab m):=by
   grind[Vi,Je,Gc]
  rw[e6]at e5;simp only[A9,G9,go_sem,e1,e2,e3,e4];rw[e5 _ _ rfl rfl];simp only[go_sem]
theorem VD{m:List Nat}(hb:Lb m)(n:Nat):m.getD (n/32) 0/2^ (n%32) %2=ab m/2^n%2:=by
 have h1:ab m/2^n=ab (m.drop (n/32))/2^ (n%32):=by
  rw[xK hb,Nat.div_div_eq_div_mul,x9]
 rw[h1,fu];have e:(4294967296:Nat)=2^ (n%32)*(2*2^ (31-n%32)):=by
  rw[←Nat.pow_succ',←axa,show n%32+(31-n%32+1)=32 by omega]
 simp_all[axn,Nat.add_mul_div_left,axb,Nat.add_mul_mod_self_left]
theorem adu{n:Nat}(h:n≠0){k:Nat}(hk:k<=tz n):n/2^k%2=if k=tz n then 1 else 0:=by
 obtain⟨h1,h2⟩:=sT h;by_cases hh:k=tz n
 ·grind
 ·obtain⟨j,hj⟩:∃j,tz n=k+(j+1):=⟨tz n-k-1,by omega⟩;have h3:n=2^k*(2*(2^j*(n/2^tz n))):=by
   grind
  grind[Nat.mul_div_cancel_left,axb,Nat.mul_mod_right]
theorem abu{m:List Nat}(hb:Lb m)(h:m.length<=1000000)(hv:ab m≠0):∀ (k i:Nat),i+k=tz (ab m)->∀ (s:ak) (h:ac),s 0=lm m->s 3=I i->
  aj 0 [3] (au (ai R (az false) u9) [0,3] [] s h)=some (.normal,⟨upd (fun _=>.any) 3 (I (tz (ab m):Nat)),fun _=>.dead⟩):=by
 have htz:tz (ab m)<32*m.length:=by
  simp_all[Tj,cG,Nat.pow_mul]
 intro k;induction k with
 |zero=>
  intro i hi s h h0 h3;have hi':i=tz (ab m):=by omega
  have e1:=CQ (n:=i) (m:=32) (j:=32) rfl rfl (by omega) (by omega);have e2:=CP (n:=i) (m:=32) (j:=32) rfl rfl (by omega);have e3:aW (aB m) ((i/32:Nat):Int)=some (.ipt [U (m.getD (i/32) 0:Nat)]):=bt rfl (by omega);have hx:=bN hb (i/32);have e4:IntKind.u64.wrap ((i%32:Nat):Int)=((i%32:Nat):Int):=dE rfl (by omega);have e5:=Hn (n:=m.getD (i/32) 0) (k:=i%32) (kk:=.u64) (j:=((i%32:Nat):Int)) rfl rfl (by omega);have e6:=VB (n:=m.getD (i/32) 0/2^ (i%32)) rfl (axF (Nat.div_le_self _ _) hx);have e7:=VD hb i;rw[adu hv (by omega),if_pos hi']at e7;rw[e7]at e6;rw[ag];rw[←hi'];simp only[u9,go_sem,axt,h0,h3,e1,e2,e3,e4,e5,e6,Int.natCast_one]
 |succ k ih=>
  intro i hi s h h0 h3;have e1:=CQ (n:=i) (m:=32) (j:=32) rfl rfl (by omega) (by omega);have e2:=CP (n:=i) (m:=32) (j:=32) rfl rfl (by omega);have e3:aW (aB m) ((i/32:Nat):Int)=some (.ipt [U (m.getD (i/32) 0:Nat)]):=bt rfl (by omega);have hx:=bN hb (i/32);have e4:IntKind.u64.wrap ((i%32:Nat):Int)=((i%32:Nat):Int):=dE rfl (by omega);have e5:=Hn (n:=m.getD (i/32) 0) (k:=i%32) (kk:=.u64) (j:=((i%32:Nat):Int)) rfl rfl (by omega);have e6:=VB (n:=m.getD (i/32) 0/2^ (i%32)) rfl (axF (Nat.div_le_self _ _) hx);have e7:=VD hb i;rw[adu hv (by omega),if_neg (by omega)]at e7;rw[e7]at e6;have e8:IntKind.i64.wrap ((i:Int)+1)=((i+1:Nat):Int):=wi;have ih':=ih (i+1) (by omega);rw[ag];simp only[u9,go_sem,h0,h3,e1,e2,e3,e4,e5,e6,e8,axB];exact ih' _ _ rfl rfl
theorem adv{m:List Nat}(hb:Lb m)(h:m.length<=1000000)(hv:ab m≠0):R F.r02_zeros [lm m] []=some (I (tz (ab m):Nat),[]):=by
 refine ax Xu rfl ?_;have h3:=abu hb h hv (tz (ab m)) 0 (awP _);simp only[Do,Ly,go_sem];rw[h3 _ _ rfl rfl];simp only[go_sem]
theorem adw{a:List Nat}(ha:Lb a){n q:Nat}(h1:a.length<=100000)(hq:q<=100000):∀ (k i:Nat),i+k=a.length->∀ (s:ak) (h:ac),s 0=lm a->s 1=I (n:Nat)->s 5=.rsl 11 none 1 0 (q+i)->s 6=W (iM a (n%32) i:Nat)->s 7=I i->
  h 11=.ar 1 (aB (awO q 0++nJ a (n%32) i))->h 34=.dead->
  aj 0 [5,6] (au (ai R (az false) xg) [0,1,5,6,7] [11,34] s h)=
   some (.normal,⟨upd (upd (fun _=>.any) 6 (W (iM a (n%32) a.length:Nat))) 5 (.rsl 11 none 1 0 (q+a.length)),upd (upd (fun _=>.dead) 34 .dead) 11 (.ar 1 (aB (awO q 0++nJ a (n%32) a.length)))⟩):=by
 intro k;induction k with
 |zero=>
  intro i hi s h h0 g1 h5 h6 h7 hh hh2;have:i=a.length:=by omega
  subst this;rw[ag];simp only[xg,go_sem,h0,g1,h5,h6,h7,hh,hh2,axU]
 |succ k ih=>
  intro i hi s h h0 g1 h5 h6 h7 hh hh2;have ih':=ih (i+1) (by omega);have hx:=bN ha i;have hc:=Gj ha (r:=n%32) i;have hp:2^ (n%32)<=2^31:=axC (by omega) (by omega);have hxp:a.getD i 0*2^ (n%32)<=4294967295*2^31:=aFW (by omega) hp;have e1:((i:Int)< (a.length:Int))=True:=tt;have e2:aW (aB a) (i:Int)=some (.ipt [U (a.getD i 0:Nat)]):=bt rfl (by omega);have e3:IntKind.i64.wrap ((i:Int)+1)=((i+1:Nat):Int):=wi;have e4:IntKind.u64.wrap (a.getD i 0:Int)=(a.getD i 0:Int):=dE rfl (by omega);have e5:=CP (n:=n) (m:=32) (j:=32) rfl rfl (by omega);have e5':IntKind.u64.wrap ((n%32:Nat):Int)=((n%32:Nat):Int):=dE rfl (by omega);have e6:=ET (n:=a.getD i 0) (k:=n%32) (kk:=.u64) (j:=((n%32:Nat):Int)) rfl rfl (by omega) (by omega);have e7:=ME (m:=a.getD i 0*2^ (n%32)) (n:=iM a (n%32) i) rfl rfl (by omega) (by omega);rw[DO hc]at e7;have e10:=BG (n:=a.getD i 0*2^ (n%32)+iM a (n%32) i) rfl (by omega);have e8:IntKind.u32.wrap (((a.getD i 0*2^ (n%32)+iM a (n%32) i) %4294967296:Nat):Int)=(((a.getD i 0*2^ (n%32)+iM a (n%32) i) %4294967296:Nat):Int):=BB rfl (by omega);have e9:=pR (n:=a.getD i 0*2^ (n%32)+iM a (n%32) i) (k:=32) (kk:=.u64) (j:=32) rfl rfl (by omega);have f1:aB (awO q 0++nJ a (n%32) i)++[[U ((a.getD i 0*2^ (n%32)+iM a (n%32) i) %4294967296:Nat)]]=aB (awO q 0++nJ a (n%32) (i+1)):=by
   simp_all[U,iM,aB,CE,axL,nJ,List.range_succ]
  have f2:(q+i=(awO q 0++nJ a (n%32) i).length)=True:=tt (by simp[vJ]);have f3:((q+i+1)*4<=140737488355328)=True:=tt;rw[ag];simp only[xg,go_sem,h0,g1,h5,h6,h7,hh,hh2,e1,e2,e3,e4,e5,e5',e6,e7,e8,e9,e10,f1,f2,f3,true_or,awP,awQ];exact ih' _ _ rfl rfl rfl rfl rfl rfl rfl
theorem VE{a:List Nat}(ha:Lb a){n:Nat}(h1:a.length<=10000)(hn:n<=100000):R F.r02_left [lm a,I n] []=some (lm (av (ab a*2^n)),[]):=by
 refine ax aa4 rfl ?_;have hc:=Gj ha (r:=n%32) a.length;have hp:2^ (n%32)<=2^31:=axC (by omega) (by omega);have e1:=CQ (n:=n) (m:=32) (j:=32) rfl rfl (by omega) (by omega);have e4:=qM (i:=((n/32:Nat):Int)) (j:=((n/32:Nat):Int)) rfl rfl (awQ _) (by omega);have e5:(n/32*4<=140737488355328)=True:=tt;have e6:=adw ha (n:=n) (q:=n/32) (by omega) (by omega) a.length 0 (by omega);have e7:aB (awO (n/32) 0)=aB (awO (n/32) 0++nJ a (n%32) 0):=by simp[nJ]
 have e8:IntKind.u32.wrap ((iM a (n%32) a.length:Nat):Int)=((iM a (n%32) a.length:Nat):Int):=BB rfl (by omega);have hall:=Yd ha n;have f1:aB (awO (n/32) 0++nJ a (n%32) a.length)++[[U (iM a (n%32) a.length:Nat)]]=aB (dy (n/32+a.length+1) (ab a*2^n)):=by
  rw[←hall,show [[U (iM a (n%32) a.length:Nat)]]=aB [iM a (n%32) a.length]from rfl,CE]
 have f2:(n/32+a.length=(awO (n/32) 0++nJ a (n%32) a.length).length)=True:=tt (by simp[vJ]);have f3:((n/32+a.length+1)*4<=140737488355328)=True:=tt;have ht:=DX (nV (n/32+a.length+1) (ab a*2^n)) (by grind);have hv:ab (dy (n/32+a.length+1) (ab a*2^n))=ab a*2^n:=by
  rw[lA,axK];have h:=cG ha;have h2:2^n<=4294967296^ (n/32+1):=by
   rw[show(4294967296:Nat)=2^32 from rfl,←Nat.pow_mul];exact axC (by omega) (by omega)
  rw[show n/32+a.length+1=a.length+(n/32+1)from by omega,axa];exact Nat.mul_lt_mul_of_lt_of_le h h2 (Nat.pow_pos (by omega))
 rw[hv]at ht;have f4:(aB (dy (n/32+a.length+1) (ab a*2^n))).take (n/32+a.length+1)=aB (dy (n/32+a.length+1) (ab a*2^n)):=by
  rw[axg];rw[PQ,cR];omega
 simp only[Fx,NQ,go_sem,e1,e4,e5,AC,e7];rw[e6 _ _ rfl rfl rfl rfl rfl rfl rfl];simp only[go_sem,e8,f1,f2,f3,f4,true_or,awP,awQ,cR,ht]
def EX(d:Nat)(out:List Nat)(x:AV)(o:Ob):Prop:=(out=[]/\x=.emp/\o=.dead)\/(0<out.length/\x=.rsl d none 1 0 out.length/\o=.ar 1 (aB out))
theorem AK{d v:Nat}:EX d ([]++[v]) (.rsl d none 1 0 1) (.ar 1 [[U (v:Nat)]]):=Or.inr ⟨by simp,rfl,rfl⟩
theorem xN{d v:Nat}{out:List Nat}:EX d (out++[v]) (.rsl d none 1 0 (out.length+1)) (.ar 1 (aB (out++[v]))):=Or.inr ⟨by simp,by grind,rfl⟩
theorem uK(out:List Nat)(v:Nat):aB out++[[U (v:Nat)]]=aB (out++[v]):=by simp[aB]
theorem adx(a:List Nat)(r i:Nat):nc a r (i+1)=nc a r i++[uD a r i]:=by simp[nc,List.range_succ]
theorem abv{a:List Nat}(ha:Lb a){n:Nat}(h1:a.length<=100000):∀ (k i:Nat),i+k=a.length->∀ (s:ak) (h:ac),s 0=lm a->s 1=I (n:Nat)->s 6=I i->EX 51 (nc a (n%32) i) (s 5) (h 51)->
  ∃x hh,aj 0 [5] (au (ai R (az false) fy) [0,1,5,6] [51] s h)=some (.normal,⟨upd (fun _=>.any) 5 x,hh⟩)/\EX 51 (nc a (n%32) a.length) x (hh 51)/\∀a,a≠51->hh a=.dead:=by
 intro k;induction k with
 |zero=>
  intro i hi s h h0 g1 h6 hacc;have:i=a.length:=by omega
  subst this;rw[ag];rcases hacc with⟨g2,h5,hh⟩| ⟨g2,h5,hh⟩
  ·refine⟨.emp,?hh0,?_,Or.inl ⟨g2,rfl,?_⟩,?_⟩;rotate_left
   ·simp only[fy,go_sem,h0,g1,h5,h6,hh,axU];rfl
   all_goals simp_all[azJ,if_false]
  ·refine⟨.rsl 51 none 1 0 (nc a (n%32) a.length).length,?hh1,?_,Or.inr ⟨g2,rfl,?_⟩,?_⟩;rotate_left
   ·simp only[fy,go_sem,h0,g1,h5,h6,hh,axU];rfl
   all_goals simp_all[azJ,if_false]
 |succ k ih=>
  intro i hi s h h0 g1 h6 hacc;have ih':=ih (i+1) (by omega);have hx:=bN ha i;have hy:=bN ha (i+1);have hr:n%32<32:=axq _ (by omega);have e1:((i:Int)< (a.length:Int))=True:=tt;have e2:aW (aB a) (i:Int)=some (.ipt [U (a.getD i 0:Nat)]):=bt rfl (by omega);have e3:IntKind.i64.wrap ((i:Int)+1)=((i+1:Nat):Int):=wi;have e4:IntKind.u64.wrap (a.getD i 0:Int)=(a.getD i 0:Int):=dE rfl (by omega);have e5:=CP (n:=n) (m:=32) (j:=32) rfl rfl (by omega);have e5':IntKind.u64.wrap ((n%32:Nat):Int)=((n%32:Nat):Int):=dE rfl (by omega);have q1:((nc a (n%32) i).length+1)*4<=140737488355328:=by grind[wS]
  have f3:=tt q1;have hlt:∀w:Nat,w<18446744073709551616->w/2^ (n%32)<18446744073709551616:=fun w hw=>axF (Nat.div_le_self _ _) hw;rw[ag];rw[adx]at ih';generalize au _ _ _=L at ih'⊢;by_cases hl:i+1<a.length
  ·have f1:(((i+1:Nat):Int)< (a.length:Int))=True:=tt;have f2:aW (aB a) ((i+1:Nat):Int)=some (.ipt [U (a.getD (i+1) 0:Nat)]):=bt rfl hl;have f5:IntKind.u64.wrap (a.getD (i+1) 0:Int)=(a.getD (i+1) 0:Int):=dE rfl (by omega);have f6:=ET (n:=a.getD (i+1) 0) (k:=32) (kk:=.u64) (j:=32) rfl rfl (by omega) (by omega);have f7:=ME (m:=a.getD i 0) (n:=a.getD (i+1) 0*2^32) rfl rfl (by omega) (by omega);rw[Nat.or_comm,DO hx,show a.getD (i+1) 0*2^32+a.getD i 0=a.getD i 0+4294967296*a.getD (i+1) 0 by omega]at f7;have f8:=pR (n:=a.getD i 0+4294967296*a.getD (i+1) 0) (k:=n%32) (kk:=.u64) (j:=((n%32:Nat):Int)) rfl rfl (by omega);have f9:=BG (n:=(a.getD i 0+4294967296*a.getD (i+1) 0)/2^ (n%32)) rfl (hlt _ (by omega));rw[show(a.getD i 0+4294967296*a.getD (i+1) 0)/2^ (n%32) %4294967296=uD a (n%32) i from rfl]at f9;have f10:IntKind.u32.wrap ((uD a (n%32) i:Nat):Int)=((uD a (n%32) i:Nat):Int):=BB rfl (axq _ (by omega));rcases hacc with⟨g2,h5,hh⟩| ⟨g2,h5,hh⟩
   ·simp only[fy,go_sem,h0,g1,h5,h6,hh,e1,e2,e3,e4,e5,e5',f1,f2,f5,f6,f7,f8,f9,f10];rw[g2]at ih';exact ih' _ _ rfl rfl rfl AK
   ·simp only[fy,go_sem,h0,g1,h5,h6,hh,e1,e2,e3,e4,e5,e5',f1,f2,f3,f5,f6,f7,f8,f9,f10,true_or,awP,awQ,uK];exact ih' _ _ rfl rfl rfl xN
  ·have f1:(((i+1:Nat):Int)< (a.length:Int))=False:=ff;have hz:a.getD (i+1) 0=0:=by
    grind
   have f8:=pR (n:=a.getD i 0) (k:=n%32) (kk:=.u64) (j:=((n%32:Nat):Int)) rfl rfl (by omega);have f9:=BG (n:=a.getD i 0/2^ (n%32)) rfl (hlt _ (by omega));rw[show a.getD i 0/2^ (n%32) %4294967296=uD a (n%32) i by simp_all[uD,Nat.mul_zero,axo]]at f9;have f10:IntKind.u32.wrap ((uD a (n%32) i:Nat):Int)=((uD a (n%32) i:Nat):Int):=BB rfl (axq _ (by omega));rcases hacc with⟨g2,h5,hh⟩| ⟨g2,h5,hh⟩
   ·simp only[fy,go_sem,h0,g1,h5,h6,hh,e1,e2,e3,e4,e5,e5',f1,f8,f9,f10];rw[g2]at ih';exact ih' _ _ rfl rfl rfl AK
   ·simp only[fy,go_sem,h0,g1,h5,h6,hh,e1,e2,e3,e4,e5,e5',f1,f3,f8,f9,f10,true_or,awP,awQ,uK];exact ih' _ _ rfl rfl rfl xN
theorem MO(m:List Nat):(aB m).take m.length=aB m:=by
 simp_all[axg,PQ,awQ]
theorem ady{a:List Nat}(ha:Lb a){n:Nat}(h1:a.length<=10000)(hn:n<=1000000):R F.r02_right [lm a,I n] []=some (lm (av (ab a/2^n)),[]):=by
 refine ax Xv rfl ?_;have e1:=CQ (n:=n) (m:=32) (j:=32) rfl rfl (by omega) (by omega);by_cases hq:a.length<=n/32
 ·have e2:((a.length:Int)<=((n/32:Nat):Int))=True:=tt;have hz:ab a/2^n=0:=by
   rw[←x9 n,←Nat.div_div_eq_div_mul,←xK ha,List.drop_of_length_le hq];exact Nat.zero_div _
  rw[hz,fj];simp only[yW,Fw,go_sem,e1,e2]
 ·have e2:((a.length:Int)<=((n/32:Nat):Int))=False:=ff;have e3:dZ 1 (lm a) (some (I (n/32:Nat))) none none=some (lm (a.drop (n/32))):=by
   rw[Jl (a:=n/32) (b:=a.length) (uB rfl (by omega)) rfl (awQ _),axg (by grind)]
  have hd:=mG ha (n/32);have hl:(a.drop (n/32)).length<=10000:=by grind
  have hv:ab a/2^n=ab (a.drop (n/32))/2^ (n%32):=by
   rw[xK ha,Nat.div_div_eq_div_mul,x9]
  rw[hv];have hr:=abv hd (n:=n) (by omega) (a.drop (n/32)).length 0 (awP _);have hall:=Vg hd (r:=n%32) (by omega);have hL:=wS (a.drop (n/32)) (n%32) (a.drop (n/32)).length;have hLb:Lb (nc (a.drop (n/32)) (n%32) (a.drop (n/32)).length):=by
   grind[nV]
  have hvv:ab (nc (a.drop (n/32)) (n%32) (a.drop (n/32)).length)=ab (a.drop (n/32))/2^ (n%32):=by
   rw[hall,lA,axK];exact axF (Nat.div_le_self _ _) (cG hd)
  generalize a.drop (n/32)=m at e3 hd hl hr hall hL hLb hvv⊢;have ht:=DX hLb (by omega);rw[hvv]at ht;have q0:EX 51 (nc m (n%32) 0) .emp .dead:=Or.inl ⟨rfl,rfl,rfl⟩;generalize hLL:au (ai R (az false) fy) [0,1,5,6] [51]=L at hr;have hX:∀s h,ai R (az false) (.loop [0,1,5,6] [51] fy) s h=L s h:=fun s h=>by rw[←hLL];rfl
  generalize nc m (n%32) m.length=out at hr hall hL hLb hvv ht;have hr2:∀ (S:ak) (H:ac) (X:Option (Ex×St)),aj 0 [5] (L S H)=X->S 0=lm m->S 1=I n->S 6=I 0->S 5=.emp->H 51=.dead->∃x hh,X=some (.normal,⟨upd (fun _=>.any) 5 x,hh⟩)/\EX 51 out x (hh 51)/\∀a,a≠51->hh a=.dead:=fun S H X hX a0 a1 a6 a5 b=>by
   rw[←hX];exact hr S H a0 a1 a6 (by grind)
  simp only[yW,Fw,hX,go_sem,e1,e2,e3];generalize hB:aj 0 [5] (L _ _)=X;obtain⟨x,hh,g0,hacc,gd⟩:=hr2 _ _ _ hB rfl rfl rfl rfl rfl;rw[g0];rcases hacc with⟨c1,c2,c3⟩| ⟨c1,c2,c3⟩
  ·rw[c1]at ht;simp only[go_sem,c2,ht,ne_eq,not_false_eq_true,gd]
  ·simp only[go_sem,c2,c3,ht,ne_eq,not_false_eq_true,gd,MO,awP,awQ]
end Go.Ab
