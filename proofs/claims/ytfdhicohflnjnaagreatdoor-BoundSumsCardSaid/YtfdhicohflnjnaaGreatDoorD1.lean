/-
  A law of ranges holds at every input that the statement speaks of, under the conditions that its card names. Part D1.
-/
import Derived.IntWalk
import Derived.Test.YtfdhicohflnjnaaGreatDoorC1
open Nat renaming reduceAdd → apA, reduceMul → apB, reduceLeDiff → apC, reduceLT → apD, reduceBEq → apE, reduceSub → apJ
open Int renaming reduceLT → apF, reduceToNat → apG, reduceLE → apH, reduceEq → apI
set_option linter.all false
namespace Go.Ab
open Go Go.IntWalk
set_option maxRecDepth 4000
set_option maxHeartbeats 1000000
def ax(m:List Nat):List (List AV):=m.map fun(x:Nat)=>[U (x:Int)]
def lm(m:List Nat):AV:=.sl 1 (ax m)
theorem xc(m:List Nat):(ax m).length=m.length:=by simp[ax]
@[go_sem] theorem yn(l:List (List AV)):l.map (dB [])=l:=(List.map_congr_left (g:=fun c=>c) fun c _=>Y3 c).trans (List.map_id' _)
@[go_sem] theorem aj7(hs m):eN hs (lm m)=lm m:=_root_.id rfl
@[go_sem] theorem aiw(hs m):knownL hs (lm m)=true:=_root_.id rfl
@[go_sem] theorem agi(hs m):gy hs (lm m)=true:=_root_.id rfl
@[go_sem] theorem aoZ(ks m):nY ks (lm m)=lm m:=_root_.id rfl
@[go_sem] theorem am5(ks m):me ks (lm m)=false:=_root_.id rfl
@[go_sem] theorem am6(ks m):zL ks (lm m)=false:=_root_.id rfl
@[go_sem] theorem ao0(m):lC false (lm m)=some (I (m.length:Nat)):=by simp[lm,lC,ax]
@[go_sem] theorem am7(m k i):qN 1 (lm m) (.v (.int k i))=aV (ax m) i:=by simp[lm,qN]
@[go_sem] theorem abn(k ss m):nrmV (.o (k+1) []::ss) (lm m)=lm m:=by simp[lm,nrmV,nrmL,yn]
@[go_sem] theorem aj8(k cs ss m):nrmV (.o (k+1) [.o 0 cs]::ss) (lm m)=lm m:=by
 simp_all[ax,dB,List.map_congr_left,List.map_id',nrmL,lm,nrmV]
@[go_sem] theorem am8(k m):nrmL (.o (k+1) []) (lm m)=lm m:=by simp[lm,nrmL,yn]
@[go_sem] theorem am9(h m):oN h (lm m)=some (lm m):=_root_.id rfl
@[go_sem] theorem aj9(h m l):i7 h (lm m::l)=(i7 h l).bind fun q=>some (lm m::q):=_root_.id rfl
@[go_sem] theorem ana(m):cj (lm m)=[]:=_root_.id rfl
@[go_sem] theorem anb(m):iq (lm m)=[]:=_root_.id rfl
@[go_sem] theorem ao1(m):dat (lm m)=true:=_root_.id rfl
@[go_sem] theorem anc(m):aB (lm m)=true:=_root_.id rfl
@[go_sem] theorem aka(m):aW (lm m)=false:=_root_.id rfl
@[go_sem] theorem akb(m):fC (lm m)=some [lm m]:=_root_.id rfl
@[go_sem] theorem ane(h m):gL h (lm m)=some (lm m,h,[]):=_root_.id rfl
@[go_sem] theorem akc(h m):de h 0 (lm m)=some (lm m,h,[]):=_root_.id rfl
@[go_sem] theorem akd(id p m):uV id p (lm m)=lm m:=_root_.id rfl
@[go_sem] theorem ake(h d m):kv h d (some (lm m,[]))=if dK h (2000+8*d) 1=true then some (lm m,h,[])else none:=Y5 h d 1 (ax m)
@[go_sem] theorem ao2(m:List Nat):AV.sl 1 (ax m)=lm m:=_root_.id rfl
@[go_sem] theorem akf(p:Nat->Bool)(a:Nat):kl (List.filter p [a])=true:=by
 simp only[List.filter];split<;>rfl
@[go_sem] theorem JX(m:List Nat):(ax m).length=m.length:=by simp[ax]
@[go_sem] theorem ao3:AV.sl 1 []=lm []:=_root_.id rfl
@[go_sem] theorem aix(cs ss):nrmV (.o 2 cs::ss) .emp=lm []:=by simp[nrmV,nrmL,lm,ax]
@[go_sem] theorem aiy(cs):nrmL (.o 2 cs) .emp=lm []:=by simp[nrmL,lm,ax]
@[go_sem] theorem anf(k ss m):nrmV (.o (k+1) []::ss) (.sl 1 (ax m))=lm m:=abn k ss m
@[go_sem] theorem akg(k ss m):nrmV (.o (k+1) []::ss) (.osl 1 (ax m))=lm m:=by simp[lm,nrmV,nrmL,yn]
theorem bk{m:List Nat}{i:Int}{n:Nat}(hi:i=n)(h:n<m.length):aV (ax m) i=some (.ipt [U (m.getD n 0:Nat)]):=by
 grind[aV,ax]
theorem ij{m:List Nat}{n:Nat}(h:n<m.length):(ax m)[n]?=some [U (m.getD n 0:Nat)]:=by
 grind[ax]
theorem OJ(m:List Nat)(n:Nat):(ax m).take n=ax (m.take n):=by simp[ax,List.map_take]
theorem Zb(m:List Nat)(n:Nat):(ax m).drop n=ax (m.drop n):=by simp[ax,List.map_drop]
theorem xd(m l:List Nat):ax m++ax l=ax (m++l):=by simp[ax]
theorem kg(m:List Nat)(n x:Nat):(ax m).set n [U (x:Nat)]=ax (m.set n x):=by simp[ax,List.map_set]
theorem uN(n:Nat):List.replicate n [AV.v (.int .u32 0)]=ax (List.replicate n 0):=by simp[ax]
theorem DE{m:List Nat}{lo hi:Option AV}{a b:Nat}(hlo:lB 0 b lo=some a)(hhi:lB m.length m.length hi=some b)(_hb:b<=m.length):gh 1 (lm m) lo hi none=some (lm ((m.drop a).take (b-a))):=by
 simp_all[lm,gh,nO,xc,if_true,Option.bind_some,Option.map_some,CJ,Bool.false_eq_true,if_false,OJ,Zb]
theorem Zc(d n:Nat):lB d n none=some d:=_root_.id rfl
theorem pk{d n:Nat}{k:IntKind}{i:Int}{a:Nat}(hi:i=a)(h:a<=n):lB d n (some (.v (.int k i)))=some a:=by
 grind[lB]
theorem Zd{f:FuncId}{fd:FD}{args:List AV}{r:AV×List Ob}(hE:dv.E f=none)(hC:dv.C f=some fd)(hk:dv.md.keep f=false)(h1:args.length=fd.np)
  (hz:gM false fd.rs fd.res 0 (aj R (aH false) fd.body (oO args) (fun _=>.dead))=some r):R f args []=some r:=by
 simp_all[HU,Nat.zero_le,Up]
theorem aA{f:FuncId}{l:List (List Sh)}{fd:FD}{args:List AV}{r:AV×List Ob}(q:QE f l fd)(h1:args.length=fd.np)
  (hz:gM false fd.rs fd.res 0 (aj R (aH false) fd.body (oO args) (fun _=>.dead))=some r):R f args []=some r:=Zd q.2.1 q.2.2 (q.1.2.2.2 false) h1 hz
noncomputable def AQ (k:Nat) (g:Bool):Cmd:=.seq (.ops [0,1,7,8,9] [co 9 (.bin .lss (.t 8) (.t 7))]) (.seq (.cond (.t 9) (.skip) (.exit 0)) (.seq (.block 1 [0,1,7,8] (.seq (.ops [0,1,5,7,8] [cm 10 8,cm 5 10]) (.seq (.ops [0,1,5,7,8,16] [cm 11 1,cm 12 0,cm 13 5,co 14 (.iadrS k (.t 12) (.t 13)),⟨(some 15),none,.load k g (.t 14)⟩,⟨(some 16),none,.call (.t 11) [(.t 15)]⟩]) (.cond (.t 16) (.seq (.ops [4] [cm 17 5,cm 4 17]) (.ret)) (.skip))))) (.ops [0,1,7,8] [co 18 (.bin .add (.t 8) (.c (.v (.int .i64 1)))),cm 8 18])))
noncomputable def AR:Cmd:=.seq (.ops [4] [co 4 (.mv (.c (.v (.int .i64 (-1)))))]) (.ret)
def BK{α:Type}(p:α->Bool):List α->Nat->Int
 |[],_=>-1
 |r::rs,n=>if p r=true then n else BK p rs (n+1)
theorem OK{α:Type}(p:α->Bool):∀ (l:List α) (n:Nat),decide (0<=BK p l n)=l.any p
 |[],n=>rfl
 |r::rs,n=>by
  simp only[BK,List.any_cons];by_cases h:p r=true
  ·simp[h]
  ·simp[h,OK p rs (n+1)]
theorem Ze{k:Nat}{g:Bool}{f:FuncId}{rows:List (List AV)}{p:List AV->Bool}{hs:List Nat}(hhs:hs=[]\/hs=[1000])(hm:(aH false).m f=[])(hl:rows.length<4611686018427387904)
  (hf:∀row∈rows,∃a,jR k g row 0=some a/\dat a=true/\R f (bv ((aH false).sh f) [a]) []=some (B (p row),[])):∀ (rest:List (List AV)) (n:Nat),rows.drop n=rest->n<=rows.length->
  ∀ (s:af) (h:ac),s 0=.sl k rows->s 1=.fn f [] []->s 7=I rows.length->s 8=I n->h 1000=.dead->
   ∃hh,bL (am 0 [] (aD (aj R (aH false) (AQ k g)) [0,1,7,8] hs s h)) (aj R (aH false) AR)=some (.ret,⟨upd (fun _=>.any) 4 (I (BK p rest n)),hh⟩):=by
 intro rest;induction rest with
 |nil=>
  intro n hd hn s h h0 h1 h7 h8 h9;have e:n=rows.length:=by
   have:=congrArg List.length hd;grind
  subst e;rw[ai];rcases hhs with rfl|rfl<;>exact⟨_,by simp only[AQ,AR,go_sem,h0,h1,h7,h8,h9,Int.lt_irrefl,BK];rfl⟩
 |cons r rest ih=>
  intro n hd hn s h h0 h1 h7 h8 h9;have hlt:n<rows.length:=by
   grind
  have hr:rows[n]?=some r:=by
   have:=congrArg (·[0]?) hd;grind
  obtain⟨a,ha,hda,hc⟩:=hf r (List.mem_of_getElem? hr);have ih':=ih (n+1) (by rw[←List.drop_drop,hd];rfl) hlt;have e1:((n:Int)< (rows.length:Int))=True:=eq_true (by omega);have e2:aV rows (n:Int)=some (.ipt r):=by grind[aV]
  have e3:IntKind.i64.wrap ((n:Int)+1)=((n+1:Nat):Int):=by grind[i64_in]
  rw[ai];generalize aD _ _ _=L at ih'⊢;rcases hhs with rfl|rfl
  all_goals
   simp only[AQ,go_sem,h0,h1,h7,h8,h9,e1,e2,ha,yW _ hm,hda,hc,apB,apA,BK];cases hp:p r with
   |true=>exact⟨_,by simp only[go_sem];rfl⟩
   |false=>
    simp only[go_sem,e3,Bool.false_ne_true];exact ih' _ _ rfl rfl rfl rfl rfl
theorem DF{fi:FuncId}{fd:FD}{k:Nat}{g:Bool}{hs:List Nat}(hE:dv.E fi=none)(hC:dv.C fi=some fd)(hk:dv.md.keep fi=false)
  (hfd:fd=⟨2,[[]],[.t 4],.seq (.ops [0,1] [co 4 (.mv (.c (.v (.int .i64 0))))]) (.seq (.seq (.ops [0,1,7,8] [cm 6 0,co 7 (.len false (.t 6)),co 8 (.mv (.c (.v (.int .i64 0))))]) (.block 0 [] (.loop [0,1,7,8] hs (AQ k g)))) AR)⟩)
  {f:FuncId} {rows:List (List AV)} {p:List AV->Bool} (hm:(aH false).m f=[]) (hl:rows.length<4611686018427387904)
  (hf:∀row∈rows,∃a,jR k g row 0=some a/\dat a=true/\R f (bv ((aH false).sh f) [a]) []=some (B (p row),[])) (hhs:hs=[]\/hs=[1000]:=by simp):R fi [.sl k rows,.fn f [] []] []=some (I (BK p rows 0),[]):=by
 subst hfd;refine Zd hE hC hk rfl ?_;have hL:=Ze (k:=k) (g:=g) hhs hm hl hf rows 0 rfl (Nat.zero_le _);simp only[go_sem,afp];have hL2:∀ (S:af) (H:ac) (X:Option (Ex×St)),bL (am 0 [] (aD (aj R (aH false) (AQ k g)) [0,1,7,8] hs S H)) (aj R (aH false) AR)=X->S 0=.sl k rows->S 1=.fn f [] []->S 7=I rows.length->S 8=I (0:Nat)->H 1000=.dead->
   ∃hh,X=some (.ret,⟨upd (fun _=>.any) 4 (I (BK p rows 0)),hh⟩):=fun S H X hX a b c d e=>by
  rw[←hX];exact hL S H a b c d e
 generalize hX:bL (am 0 [] (aD _ _ hs _ _)) (aj R (aH false) AR)=X;obtain⟨hh,e⟩:=hL2 _ _ _ hX rfl rfl rfl rfl rfl;rw[e];simp only[go_sem]
noncomputable def WE (fi:FuncId):FD:=⟨2,[[]],[.t 4],.seq (.ops [0,1] [co 4 (.mv (.c (.v (.bool false))))]) (.seq (.ops [4] [cm 5 0,cm 6 1,⟨(some 7),none,.call (.c (.fn fi [] [])) [(.t 5),(.t 6)]⟩,co 8 (.bin .geq (.t 7) (.c (.v (.int .i64 0)))),cm 4 8]) (.ret))⟩
theorem AS{ci fi:FuncId}{fd:FD}{k:Nat}(hE:dv.E ci=none)(hC:dv.C ci=some fd)(hk:dv.md.keep ci=false)(hfd:fd=WE fi)(hm:(aH false).m fi=[]){cs:List Sh}(hsh:(aH false).sh fi=[[.o (k+1) cs],[]])
  {rows:List (List AV)} {f:FuncId} {p:List AV->Bool} (hr:rows.map (dB cs)=rows) (h:R fi [.sl k rows,.fn f [] []] []=some (I (BK p rows 0),[])):R ci [.sl k rows,.fn f [] []] []=some (B (rows.any p),[]):=by
 subst hfd;refine Zd hE hC hk rfl ?_;simp only[WE,go_sem,yW _ hm,hsh,hr,h,Y0,OK]
theorem cK{i:Int}{n:Nat}(h:i=n)(hn:n<18446744073709551616):IntKind.u64.wrap i=n:=by rw[u64_in]<;>omega
theorem wK{i:Int}{n:Nat}(h:i=n)(hn:n<4294967296):IntKind.u32.wrap i=n:=by rw[u32_in]<;>omega
theorem wi{i:Int}{n:Nat}(h:i=n)(hn:n<9223372036854775808):IntKind.i64.wrap i=n:=by rw[i64_in]<;>omega
theorem BL{i:Int}{n:Nat}(h:i=n):IntKind.u32.wrap i=((n%4294967296:Nat):Int):=by grind[IntKind.wrap_u32]
theorem mN{i:Int}{n k:Nat}{kk:IntKind}{j:Int}(h:i=n)(hj:j=k)(hk:k<=64):cO .shr (.v (.int .u64 i)) (.v (.int kk j))=some (.v (.int .u64 ((n/2^k:Nat):Int))):=by
 simp_all[Av,if_neg,IntKind.bits,Option.some.injEq,AV.v.injEq,Value.int.injEq,true_and,Int.fdiv_eq_ediv_of_nonneg,Int.pow_nonneg]
theorem GC{x y c:Nat}(hx:x<4294967296)(hy:y<4294967296)(hc:c<=1):R F.bits_Add32 [U x,U y,U c] []=some (.tup [U (((x+y+c) %4294967296:Nat)),U (((x+y+c)/4294967296:Nat))],[]):=by
 refine aA OG rfl ?_;have e1:IntKind.u64.wrap (x:Int)=x:=cK rfl (by omega);have e2:IntKind.u64.wrap (y:Int)=y:=cK rfl (by omega);have e3:IntKind.u64.wrap (c:Int)=c:=cK rfl (by omega);have e4:IntKind.u64.wrap ((x:Int)+y)=((x+y:Nat):Int):=cK (by omega) (by omega);have e5:IntKind.u64.wrap (((x+y:Nat):Int)+c)=((x+y+c:Nat):Int):=cK (by omega) (by omega);have e6:IntKind.u32.wrap ((x+y+c:Nat):Int)=(((x+y+c) %4294967296:Nat):Int):=BL rfl;have e7:=mN (n:=x+y+c) (k:=32) (kk:=.u64) (j:=32) rfl rfl (by omega);have e8:IntKind.u32.wrap (((x+y+c)/2^32:Nat):Int)=(((x+y+c)/4294967296:Nat):Int):=wK rfl (by omega);simp only[wx,Dt,go_sem,e1,e2,e3,e4,e5,e6,e7,e8]
theorem abo{k:IntKind}{n:Int}(h:n≠0):CJ (some (.v (.int k n)))=false:=by
 simp_all[CJ,absurd]
theorem abp{m:List Nat}(h:m.length≠0):gh 1 (lm m) none (some (I (m.length:Nat))) (some (I (m.length:Nat)))=some (lm m):=by
 have hz:CJ (some (I (m.length:Nat)))=false:=abo (by omega);have h1:lB m.length m.length (some (I (m.length:Nat)))=some m.length:=pk rfl (Nat.le_refl _)
 simp_all[gh,lm,xc,nO,Zc,if_true,Option.bind_some,Option.map_some,Bool.false_eq_true,if_false,List.drop_zero,Nat.sub_zero,OJ,List.take_length]
theorem JY(m:List Nat):R F.slices_Clip_uint32_uint32_ [lm m] []=some (lm m,[]):=by
 refine aA uM rfl ?_;by_cases h:m.length=0
 ·have:m=[]:=List.length_eq_zero_iff.1 h;subst this;rfl
 ·simp only[gN,lT,go_sem,abp h]
theorem Lz(m:List Nat)(h2:m.length<4611686018427387904):∀ (n:Nat),n<=m.length->∀ (s:af) (h:ac),s 0=lm m->s 3=I n->
  am 0 [0,3] (aD (aj R (aH false) iW) [0,3] [] s h)=some (.normal,⟨upd (upd (fun _=>.any) 3 (I (jk m n))) 0 (lm m),fun _=>.dead⟩):=by
 intro n;induction n with
 |zero=>
  intro h1 s h h3 h4;rw[ai];simp only[iW,go_sem,h3,h4,jk,Int.natCast_zero,Int.lt_irrefl]
 |succ n ih=>
  intro h1 s h h3 h4;have hn:n<m.length:=h1;have e3:IntKind.i64.wrap ((n:Int)+1-1)=n:=wi (by omega) (by omega);have e1:aV (ax m) (n:Int)=some (.ipt [U (m.getD n 0:Nat)]):=bk rfl hn;have e2:((0:Int)< (n:Int)+1)=True:=eq_true (by omega);have ih':=ih (by omega);rw[ai];by_cases hz:m.getD n 0=0
  ·simp only[iW,go_sem,h3,h4,jk,Int.natCast_add,Int.natCast_one,e3,e1,e2,hz,Int.natCast_zero];exact ih' _ _ rfl rfl
  ·simp only[iW,go_sem,h3,h4,jk,Int.natCast_add,Int.natCast_one,e3,e1,e2,hz,Int.natCast_eq_zero]
theorem cA{m:List Nat}(hb:Lb m)(h:m.length<4611686018427387904):R F.natural_trim [lm m] []=some (lm (ap (aa m)),[]):=by
 refine aA JN rfl ?_;have h1:gh 1 (lm m) none (some (I (jk m m.length:Nat))) none=some (lm (ap (aa m))):=by
  rw[DE (a:=0) (b:=jk m m.length) rfl (pk rfl (yg _ _)) (yg _ _),List.drop_zero,Nat.sub_zero,Gk hb]
 simp only[td,AC,go_sem,Lz m h m.length (Nat.le_refl _),h1]
def llm(l:List (List Nat)):AV:=.sl 1 (l.map fun m=>[lm m])
theorem abq(l:List (List Nat))(cs:List Sh):(l.map fun m=>[lm m]).map (dB [.o 2 cs])=l.map fun m=>[nrmL (.o 2 cs) (lm m)]:=by
 simp[List.map_map,dB]
theorem WF(m:List Nat):R F.natural_long_1 [lm m] []=some (B (decide (256<m.length)),[]):=by
 refine aA yk rfl ?_;have e:decide ((256:Int)< (m.length:Int))=decide (256<m.length):=by grind
 simp only[qG,yb,go_sem,e]
theorem Si{l:List (List Nat)}(hl:l.length<4611686018427387904):R F.natural_long [llm l] []=some (B (l.any fun m=>decide (256<m.length)),[]):=by
 refine aA JQ rfl ?_
 let p:List AV->Bool:=fun row=>match row with|[.sl _ rows]=>decide (256<rows.length)|_=>false
 have hp:∀m:List Nat,p [lm m]=decide (256<m.length):=fun m=>by grind[lm,xc]
 have hn:(l.map fun m=>[lm m]).map (dB [.o 2 []])=l.map fun m=>[lm m]:=by
  rw[abq];simp only[go_sem]
 have h1:=DF (k:=1) (g:=false) (f:=F.natural_long_1) (rows:=l.map fun m=>[lm m]) (p:=p) cf.2.1 cf.2.2 (cf.1.2.2.2 false) rfl (yk.1.2.1 false) (by grind) (fun row hr=>by
  simp only[List.mem_map]at hr;obtain⟨m,hm,rfl⟩:=hr;refine⟨lm m,rfl,rfl,?_⟩;simp only[go_sem,WF,hp])
 have h2:=AS (k:=1) cG.2.1 cG.2.2 (cG.1.2.2.2 false) rfl (cf.1.2.1 false) (cf.1.1 false) hn h1;have h3:(l.map fun m=>[lm m]).any p=l.any fun m=>decide (256<m.length):=by
  rw[List.any_map];congr 1;funext m
  simp_all
 rw[h3]at h2;simp only[th,AE,llm,go_sem,yW _ (cG.1.2.1 false),hn,h2]
theorem tt{p:Prop}(h:p):p=True:=eq_true h
theorem ff{p:Prop}(h:¬p):p=False:=eq_false h
theorem mO(a:List Nat):R F.natural_long [.sl 1 [[lm a]]] []=some (B (decide (256<a.length)),[]):=by
 have:=Si (l:=[a]) (by simp);grind[llm]
theorem pn(a b:List Nat):R F.natural_long [.sl 1 [[lm a],[lm b]]] []=some (B (decide (256<a.length)||decide (256<b.length)),[]):=by
 have:=Si (l:=[a,b]) (by simp);grind[llm]
def io(n:Nat):AV:=if 256< (ap n).length then .tup [lm [],I 9]else .tup [lm (ap n),I 0]
theorem AT{m:List Nat}(hb:Lb m)(h:m.length<4611686018427387904):R F.natural_done [lm m] []=some (io (aa m),[]):=by
 refine aA JR rfl ?_;by_cases hl:256< (ap (aa m)).length
 ·simp only[oC,uE,io,go_sem,apB,apA,apC,apD,cA hb h,mO,hl]
 ·simp only[oC,uE,io,go_sem,apB,apA,apC,apD,cA hb h,mO,hl,JY]
theorem CB{a:List Nat}{i:Nat}(h:i<a.length):aa (a.take (i+1))=aa (a.take i)+4294967296^i*a.getD i 0:=by
 grind[List.take_add_one,cS,List.length_take,Nat.min_eq_left,aa]
theorem RI{a:List Nat}{i:Nat}(h:a.length<=i):aa (a.take (i+1))=aa (a.take i)+4294967296^i*a.getD i 0:=by
 grind[List.take_of_length_le]
theorem dx(a:List Nat)(i:Nat):aa (a.take (i+1))=aa (a.take i)+4294967296^i*a.getD i 0:=by
 grind[CB,RI]
def Sj(n i:Nat):Nat:=n/4294967296^i%4294967296
theorem Zf{k n i:Nat}(h:i<k):(cD k n)[i]?=some (Sj n i):=by
 induction k generalizing n i with
 |zero=>omega
 |succ k ih=>
  cases i with
  |zero=>simp[cD,Sj]
  |succ i=>
   grind[cD,Sj,Nat.pow_succ,Nat.mul_comm,Nat.div_div_eq_div_mul]
theorem OL{k n:Nat}{l:List Nat}(hl:l.length=k)(h:∀i,i<k->l.getD i 0=Sj n i):l=cD k n:=by
 refine List.ext_getElem? fun i=>?_;rcases Nat.lt_or_ge i k with hi|hi
 ·simp_all[Zf,congrArg]
 grind[bU]
def cV(a b:List Nat):Nat->Nat
 |0=>0
 |i+1=>(a.getD i 0+b.getD i 0+cV a b i)/4294967296
def Ag(a b:List Nat)(i:Nat):Nat:=(a.getD i 0+b.getD i 0+cV a b i) %4294967296
theorem yp{a b:List Nat}(ha:Lb a)(hb:Lb b):∀i,cV a b i<=1
 |0=>by simp[cV]
 |i+1=>by
  have h1:=bu ha i;have h2:=bu hb i;have h3:=yp ha hb i;simp only[cV];omega
def cp(a b:List Nat)(i:Nat):List Nat:=(List.range i).map (Ag a b)
theorem yq(f:Nat->Nat)(i:Nat):aa ((List.range (i+1)).map f)=aa ((List.range i).map f)+4294967296^i*f i:=by
 rw[List.range_succ,List.map_append,cS];simp[aa]
theorem BM(a b:List Nat):∀i,aa (cp a b i)+4294967296^i*cV a b i=aa (a.take i)+aa (b.take i)
 |0=>by simp[cp,cV,aa]
 |i+1=>by
  have ih:=BM a b i;rw[dx a i,dx b i];simp only[cp]at ih⊢;rw[yq,Nat.pow_succ];have e:cV a b (i+1)*4294967296+Ag a b i=a.getD i 0+b.getD i 0+cV a b i:=by
   grind[cV,Ag]
  grind
theorem gg(a b:List Nat)(i:Nat):(cp a b i).length=i:=by simp[cp]
theorem JZ(a b:List Nat)(i:Nat):Lb (cp a b i):=fun x hx=>by
 simp only[cp,List.mem_map]at hx;obtain⟨j,_,rfl⟩:=hx;simp only[Ag];omega
theorem Zg{a b:List Nat}(ha:Lb a)(hb:Lb b)(hl:b.length<=a.length):cp a b a.length++[cV a b a.length]=cD (a.length+1) (aa a+aa b):=by
 have h:=BM a b a.length;rw[List.take_length,List.take_of_length_le hl]at h;have h1:Lb (cp a b a.length++[cV a b a.length]):=kL.2 ⟨JZ _ _ _,fS.2 ⟨by grind[yp],Dw⟩⟩;have h2:aa (cp a b a.length++[cV a b a.length])=aa a+aa b:=by
  grind[cS,gg,aa]
 have:=BI h1;grind[gg]
theorem OM{α:Type}(l:List α)(n:Nat)(x z:α)(h:0<n):(l++List.replicate n z).set l.length x=(l++[x])++List.replicate (n-1) z:=by
 obtain⟨n,rfl⟩:∃m,n=m+1:=⟨n-1,by omega⟩;grind
theorem Zh{a b:List Nat}(ha:Lb a)(hb:Lb b)(_hl:b.length<=a.length)(h2:a.length<4611686018427387904):∀ (k i:Nat),i+k=a.length->∀ (s:af) (h:ac),s 0=lm a->s 1=lm b->s 5=.rsl 20 none 1 0 (a.length+1)->s 6=U (cV a b i:Nat)->
  s 21=lm a->s 22=I (a.length:Nat)->s 23=I i->h 20=.ar 1 (ax (cp a b i++List.replicate (k+1) 0))->
  am 0 [0,5,6] (aD (aj R (aH false) ig) [0,1,5,6,21,22,23] [20] s h)=
   some (.normal,⟨upd (upd (upd (fun _=>.any) 6 (U (cV a b a.length:Nat))) 5 (.rsl 20 none 1 0 (a.length+1))) 0 (lm a),upd (fun _=>.dead) 20 (.ar 1 (ax (cp a b a.length++[0])))⟩):=by
 intro k;induction k with
 |zero=>
  intro i hi s h h0 h1 h5 h6 h21 h22 h23 hh;have:i=a.length:=by omega
  subst this;rw[ai];simp only[ig,go_sem,apA,h0,h1,h5,h6,h21,h22,h23,hh,Int.lt_irrefl,List.contains_cons,BEq.rfl,Bool.true_or]
 |succ k ih=>
  intro i hi s h h0 h1 h5 h6 h21 h22 h23 hh;have ih':=ih (i+1) (by omega);have e1:((i:Int)< (a.length:Int))=True:=tt (by omega);have e2:aV (ax a) (i:Int)=some (.ipt [U (a.getD i 0:Nat)]):=bk rfl (by omega);have e3:IntKind.i64.wrap ((i:Int)+1)=((i+1:Nat):Int):=wi (by omega) (by omega);have e4:(0<=(i:Int))=True:=tt (by omega);have e5:((i:Int)< ((a.length+1:Nat):Int))=True:=tt (by omega);have e6:=GC (bu ha i) (bu hb i) (yp ha hb i);have e7:(ax (cp a b i++List.replicate (k+1+1) 0))[i]?=some [U (0:Nat)]:=by
   grind[ij,gg]
  have e8:(ax (cp a b i++List.replicate (k+1+1) 0)).set i [U ((a.getD i 0+b.getD i 0+cV a b i) %4294967296:Nat)]=ax (cp a b (i+1)++List.replicate (k+1) 0):=by
   rw[kg];grind[cV,Ag,cp,List.range_succ]
  rw[ai];by_cases hb':i<b.length
  ·have e9:((i:Int)< (b.length:Int))=True:=tt (by omega);have e10:aV (ax b) (i:Int)=some (.ipt [U (b.getD i 0:Nat)]):=bk rfl hb';simp only[ig,go_sem,apB,apA,apC,h0,h1,h5,h6,h21,h22,h23,hh,List.contains_cons,BEq.rfl,Bool.true_or,e1,e2,e3,e4,e5,e6,e7,e8,e9,e10,Int.toNat_natCast,Nat.zero_add];exact ih' _ _ rfl rfl rfl rfl rfl rfl rfl rfl
  ·have e9:((i:Int)< (b.length:Int))=False:=ff (by omega);have e10:b.getD i 0=0:=by grind
   have e6':=GC (bu ha i) (y:=0) (by omega) (yp ha hb i);simp only[Int.natCast_zero]at e6';have e8':(ax (cp a b i++List.replicate (k+1+1) 0)).set i [U ((a.getD i 0+0+cV a b i) %4294967296:Nat)]=ax (cp a b (i+1)++List.replicate (k+1) 0):=by
    grind
   simp only[ig,go_sem,apB,apA,apC,h0,h1,h5,h6,h21,h22,h23,hh,List.contains_cons,BEq.rfl,Bool.true_or,e1,e2,e3,e4,e5,e7,e8',e9,Int.toNat_natCast,Nat.zero_add,e6'];refine ih' _ _ rfl rfl rfl ?_ rfl rfl rfl rfl;simp only[cV,e10];rfl
theorem l6{i j:Int}{l c:Nat}(hi:i=l)(hj:j=c)(h:l<=c)(hc:c<9223372036854775808):pD (I i) (I j)=some (l,c):=by
 simp only[pD];grind
noncomputable def GD:Cmd:=.seq (.ops [0,1,5] [cm 17 0,co 18 (.len false (.t 17)),co 19 (.bin .add (.t 18) (.c (.v (.int .i64 1)))),⟨(some 20),none,.mkSl 1 [(.v (.int .u32 0))] 4 (.t 19) (.t 19)⟩,cm 5 20]) (.seq (.ops [0,1,5,6] [co 6 (.mv (.c (.v (.int .u32 0))))]) (.seq (.seq (.ops [0,1,5,6,21,22,23] [cm 21 0,co 22 (.len false (.t 21)),co 23 (.mv (.c (.v (.int .i64 0))))]) (.block 0 [0,5,6] (.loop [0,1,5,6,21,22,23] [20] ig))) (.seq (.ops [5] [cm 47 5,cm 48 0,co 49 (.len false (.t 48)),cm 50 6,co 51 (.iadrS 1 (.t 47) (.t 49)),⟨none,none,.store 1 (.t 51) (.t 50)⟩]) (.seq (.ops [4] [cm 52 5,cm 4 52]) (.ret)))))
theorem ON{a b:List Nat}(ha:Lb a)(hb:Lb b)(hl:b.length<=a.length)(h2:a.length<=100000):∀ (s:af),s 0=lm a->s 1=lm b->
  aj R (aH false) GD s (fun _=>.dead)=some (.ret,⟨upd (fun _=>.any) 4 (.rsl 20 none 1 0 (a.length+1)),upd (upd (fun _=>.dead) 20 (.ar 1 (ax (cp a b a.length++[0])))) 20 (.ar 1 (ax (cD (a.length+1) (aa a+aa b))))⟩):=by
 intro s h0 h1;have e1:IntKind.i64.wrap ((a.length:Int)+1)=((a.length+1:Nat):Int):=wi (by omega) (by omega);have e2:=l6 (i:=((a.length+1:Nat):Int)) (j:=((a.length+1:Nat):Int)) (l:=a.length+1) (c:=a.length+1) rfl rfl (Nat.le_refl _) (by omega);have e3:((a.length+1)*4<=140737488355328)=True:=tt (by omega);have e4:=Zh ha hb hl (by omega) a.length 0 (by omega);have e5:ax (List.replicate (a.length+1) 0)=ax (cp a b 0++List.replicate (a.length+1) 0):=rfl;have e6:(0<=(a.length:Int))=True:=tt (by omega);have e7:((a.length:Int)< ((a.length+1:Nat):Int))=True:=tt (by omega);have e8:(ax (cp a b a.length++[0]))[a.length]?=some [U (0:Nat)]:=by
  grind[ij,gg]
 have e9:(ax (cp a b a.length++[0])).set a.length [U (cV a b a.length:Nat)]=ax (cD (a.length+1) (aa a+aa b)):=by
  rw[kg]
  simp_all[gg,List.replicate,Nat.sub_self,List.replicate_zero,List.append_nil,Zg]
 simp only[GD,go_sem,h0,h1,e1,e2,e3,uN,e5];rw[e4 _ _ rfl rfl rfl rfl rfl rfl rfl rfl];simp only[go_sem,apC,e6,e7,e8,e9,Int.toNat_natCast,Nat.zero_add]
theorem OO:Cz=.seq (.ops [0,1] [co 4 (.mv (.c .emp))]) (.seq (.seq (.ops [0,1,14] [cm 10 0,co 11 (.len false (.t 10)),cm 12 1,co 13 (.len false (.t 12)),co 14 (.bin .lss (.t 11) (.t 13))]) (.cond (.t 14) (.ops [0,1] [cm 15 1,cm 16 0,cm 0 15,cm 1 16]) (.skip))) GD):=rfl
theorem WG{a b:List Nat}(ha:Lb a)(hb:Lb b)(h1:a.length<=100000)(h2:b.length<=100000):R F.natural_add [lm a,lm b] []=some (lm (cD (max a.length b.length+1) (aa a+aa b)),[]):=by
 refine aA MG rfl ?_;by_cases h:a.length<b.length
 ·have e1:((a.length:Int)< (b.length:Int))=True:=tt (by omega);have e2:=ON hb ha (by omega) h2;simp only[pY,OO,go_sem,e1];rw[e2 _ rfl rfl];simp only[go_sem,apC,bU,Nat.zero_add,Nat.le_refl];grind
 ·have e1:((a.length:Int)< (b.length:Int))=False:=ff (by omega);have e2:=ON ha hb (by omega) h1;simp only[pY,OO,go_sem,e1];rw[e2 _ rfl rfl];simp only[go_sem,apC,bU,Nat.zero_add,Nat.le_refl];grind
theorem WH{a b:List Nat}(ha:Lb a)(hb:Lb b)(h1:a.length<=256)(h2:b.length<=256):R F.natural_Add [lm a,lm b] []=some (io (aa a+aa b),[]):=by
 refine aA MA rfl ?_;have e1:(256<a.length)=False:=ff (by omega);have e2:(256<b.length)=False:=ff (by omega);have e3:aa (cD (max a.length b.length+1) (aa a+aa b))=aa a+aa b:=by
  rw[iN,Nat.mod_eq_of_lt];have h1:=bQ ha;have h2:=bQ hb;have h3:4294967296^a.length<=4294967296^max a.length b.length:=Nat.pow_le_pow_right (by omega) (by omega);have h4:4294967296^b.length<=4294967296^max a.length b.length:=Nat.pow_le_pow_right (by omega) (by omega);omega
 have e4:=AT (kf (max a.length b.length+1) (aa a+aa b)) (by grind[bU]);rw[e3]at e4;unfold io at e4⊢;by_cases hl:256< (ap (aa a+aa b)).length
 ·simp only[hl,if_true]at e4⊢;simp only[pW,ws,go_sem,apB,apA,apC,apD,e1,e2,pn,WG ha hb (by omega) (by omega),e4]
 ·simp only[hl,if_false]at e4⊢;simp only[pW,ws,go_sem,apB,apA,apC,apD,e1,e2,pn,WG ha hb (by omega) (by omega),e4]
def bE(x y:Nat):Int:=if x<y then-1 else if y<x then 1 else 0
theorem mP{x y:Nat}(h:(ap x).length< (ap y).length):x<y:=by
 have h1:=eL x;have hy:y≠0:=by grind[fQ]
 have h2:=Lx hy;have h3:4294967296^ (ap x).length<=4294967296^ ((ap y).length-1):=Nat.pow_le_pow_right (by omega) (by omega);omega
noncomputable def nN:Cmd:=.seq (.ops [4] [co 4 (.mv (.c (.v (.int .i64 0))))]) (.ret)
theorem Zi{a b:List Nat}(ha:Lb a)(hb:Lb b)(hl:a.length=b.length)(h2:a.length<=100000):∀ (k:Nat),k<=a.length->∀ (s:af) (h:ac),s 0=lm a->s 1=lm b->s 5=I ((k:Int)-1)->
  bL (am 0 [] (aD (aj R (aH false) fP) [0,1,5] [] s h)) (aj R (aH false) nN)=some (.ret,⟨upd (fun _=>.any) 4 (I (bE (aa (a.take k)) (aa (b.take k)))),fun _=>.dead⟩):=by
 intro k;induction k with
 |zero=>
  intro hk s h h0 h1 h5;rw[ai];have e1:(0<=((0:Nat):Int)-1)=False:=ff (by omega);have e2:bE (aa []) (aa [])=0:=rfl;simp only[fP,nN,go_sem,h0,h1,h5,e1,e2]
 |succ k ih=>
  intro hk s h h0 h1 h5;have ih':=ih (by omega);have e1:(0<=((k+1:Nat):Int)-1)=True:=tt (by omega);have e2:aV (ax a) (((k+1:Nat):Int)-1)=some (.ipt [U (a.getD k 0:Nat)]):=bk (by omega) (by omega);have e3:aV (ax b) (((k+1:Nat):Int)-1)=some (.ipt [U (b.getD k 0:Nat)]):=bk (by omega) (by omega);have e4:IntKind.i64.wrap (((k+1:Nat):Int)-1-1)=(k:Int)-1:=by grind[i64_in]
  have va:=dx a k;have vb:=dx b k;have la:=bQ (dN ha k);have lb:=bQ (dN hb k);rw[List.length_take,Nat.min_eq_left (by omega)]at la lb;rw[ai];rcases Nat.lt_trichotomy (a.getD k 0) (b.getD k 0)with hlt|heq|hgt
  ·have e5:((a.getD k 0:Int)< (b.getD k 0:Int))=True:=tt (by omega);have e6:bE (aa (a.take (k+1))) (aa (b.take (k+1)))=-1:=by
    have:4294967296^k*(a.getD k 0+1)<=4294967296^k*b.getD k 0:=Nat.mul_le_mul_left _ hlt;rw[Nat.mul_add]at this;simp only[bE];omega
   simp only[fP,nN,go_sem,h0,h1,h5,e1,e2,e3,e5,e6]
  ·have e5:((a.getD k 0:Int)< (b.getD k 0:Int))=False:=ff (by omega);have e7:((b.getD k 0:Int)< (a.getD k 0:Int))=False:=ff (by omega);have e6:bE (aa (a.take (k+1))) (aa (b.take (k+1)))=bE (aa (a.take k)) (aa (b.take k)):=by
    grind[bE]
   simp only[fP,go_sem,h0,h1,h5,e1,e2,e3,e5,e6,e7,e4];exact ih' _ _ rfl rfl rfl
  ·have e5:((a.getD k 0:Int)< (b.getD k 0:Int))=False:=ff (by omega);have e7:((b.getD k 0:Int)< (a.getD k 0:Int))=True:=tt (by omega);have e6:bE (aa (a.take (k+1))) (aa (b.take (k+1)))=1:=by
    have:4294967296^k*(b.getD k 0+1)<=4294967296^k*a.getD k 0:=Nat.mul_le_mul_left _ hgt;rw[Nat.mul_add]at this;simp only[bE];omega
   simp only[fP,nN,go_sem,h0,h1,h5,e1,e2,e3,e5,e6,e7]
theorem GE:Cr=.seq (.ops [0,1] [co 4 (.mv (.c (.v (.int .i64 0))))]) (.seq (.ops [0,1] [cm 6 0,⟨(some 7),none,.call (.c (.fn F.natural_trim [] [])) [(.t 6)]⟩,cm 8 1,⟨(some 9),none,.call (.c (.fn F.natural_trim [] [])) [(.t 8)]⟩,cm 0 7,cm 1 9]) (.seq (.seq (.ops [0,1,14] [cm 10 0,co 11 (.len false (.t 10)),cm 12 1,co 13 (.len false (.t 12)),co 14 (.bin .neq (.t 11) (.t 13))]) (.cond (.t 14) (.seq (.seq (.ops [19] [cm 15 0,co 16 (.len false (.t 15)),cm 17 1,co 18 (.len false (.t 17)),co 19 (.bin .lss (.t 16) (.t 18))]) (.cond (.t 19) (.seq (.ops [4] [co 4 (.mv (.c (.v (.int .i64 (-1)))))]) (.ret)) (.skip))) (.seq (.ops [4] [co 4 (.mv (.c (.v (.int .i64 1))))]) (.ret))) (.skip))) (.seq (.seq (.ops [0,1,5] [cm 20 0,co 21 (.len false (.t 20)),co 22 (.bin .sub (.t 21) (.c (.v (.int .i64 1)))),cm 5 22]) (.block 0 [] (.loop [0,1,5] [] fP))) nN))):=rfl
theorem cz(m:List Nat)(h:Lb m):(ap (aa m)).length<=m.length:=gH (bQ h)
theorem vQ{a b:List Nat}(ha:Lb a)(hb:Lb b)(h1:a.length<=100000)(h2:b.length<=100000):R F.natural_Cmp [lm a,lm b] []=some (I (bE (aa a) (aa b)),[]):=by
 refine aA Ms rfl ?_;have la:=cz a ha;rcases Nat.lt_trichotomy (ap (aa a)).length (ap (aa b)).length with hlt|heq|hgt
 ·have e1:((ap (aa a)).length:Int)=((ap (aa b)).length:Int)↔False:=⟨fun h=>by omega,False.elim⟩;have e2:(((ap (aa a)).length:Int)< ((ap (aa b)).length:Int))=True:=tt (by omega);have e3:bE (aa a) (aa b)=-1:=by grind[bE,mP]
  simp only[lM,GE,go_sem,apB,apA,cA ha (by omega),cA hb (by omega),e1,e2,e3]
 ·have e2:IntKind.i64.wrap (((ap (aa b)).length:Int)-1)=((ap (aa b)).length:Int)-1:=by grind[i64_in]
  have e3:=Zi (aP (aa a)) (aP (aa b)) heq (by omega) (ap (aa a)).length (Nat.le_refl _);rw[List.take_length,heq,List.take_length,aL,aL]at e3;simp only[lM,GE,go_sem,apB,apA,cA ha (by omega),cA hb (by omega),heq,e2];rw[e3 _ _ rfl rfl rfl];simp only[go_sem]
 ·have e1:((ap (aa a)).length:Int)=((ap (aa b)).length:Int)↔False:=⟨fun h=>by omega,False.elim⟩;have e2:(((ap (aa a)).length:Int)< ((ap (aa b)).length:Int))=False:=ff (by omega);have e3:bE (aa a) (aa b)=1:=by
   have:=mP hgt;simp only[bE];omega
  simp only[lM,GE,go_sem,apB,apA,cA ha (by omega),cA hb (by omega),e1,e2,e3]
theorem abr(v:BitVec 32):v.toNat/2147483648=if v.msb=true then 1 else 0:=by
 have h:=v.isLt;grind
theorem UN{x y c:Nat}(hx:x<4294967296)(hy:y<4294967296)(hc:c<=1)(D:BitVec 32)(hD:D.toNat=(x+4294967296-y-c) %4294967296):
  ((~~~(BitVec.ofNat 32 x)&&&BitVec.ofNat 32 y)||| (~~~(BitVec.ofNat 32 x^^^BitVec.ofNat 32 y)&&&D)).toNat/2147483648=if x<y+c then 1 else 0:=by
 grind[abr,BitVec.ofNat,BitVec.msb_eq_decide,BitVec.msb_or,BitVec.msb_and,BitVec.msb_not,BitVec.msb_xor]
theorem ofI(n:Nat):BitVec.ofInt 32 (n:Int)=BitVec.ofNat 32 n:=by simp
theorem akh(v:BitVec 32):IntKind.u32.wrap (v.toNat:Int)=(v.toNat:Int):=by
 have:=v.isLt;grind[IntKind.wrap_u32]
theorem OP{x y c:Nat}(hx:x<4294967296)(hy:y<4294967296)(hc:c<=1):R F.bits_Sub32 [U x,U y,U c] []=some (.tup [U (((x+4294967296-y-c) %4294967296:Nat)),U ((if x<y+c then 1 else 0:Nat))],[]):=by
 refine aA OH rfl ?_;have e1:IntKind.u32.wrap ((x:Int)-y)=(((x+4294967296-y) %4294967296:Nat):Int):=by grind[IntKind.wrap_u32]
 have e2:IntKind.u32.wrap ((((x+4294967296-y) %4294967296:Nat):Int)-c)=(((x+4294967296-y-c) %4294967296:Nat):Int):=by grind[IntKind.wrap_u32]
 have b:IntKind.u32.bits=32:=rfl;have e3:BitVec.ofInt 32 (if IntKind.u32.signed=true then(-1:Int)else IntKind.u32.max)=BitVec.allOnes 32:=by decide
 have e4:∀v:BitVec 32,BitVec.allOnes 32^^^v= ~~~v:=fun v=>BitVec.not_def.symm;have e5:∀v:BitVec 32,BitVec.ofNat 32 v.toNat=v:=fun v=>by simp
 have key:=UN hx hy hc (BitVec.ofNat 32 ((x+4294967296-y-c) %4294967296)) (by simp);have sh:∀v:BitVec 32,cO .shr (.v (.int .u32 (v.toNat:Int))) (.v (.int .u64 31))=some (.v (.int .u32 ((v.toNat/2147483648:Nat):Int))):=fun v=>by
  simp_all[Av,if_neg,Option.some.injEq,AV.v.injEq,Value.int.injEq,true_and,Int.fdiv_eq_ediv_of_nonneg]
 simp only[wz,Du,go_sem,e1,e2,ofI,e3,e5,akh,sh];grind
def jX(a b:List Nat):Nat->Nat
 |0=>0
 |i+1=>if a.getD i 0<b.getD i 0+jX a b i then 1 else 0
def BN(a b:List Nat)(i:Nat):Nat:=(a.getD i 0+4294967296-b.getD i 0-jX a b i) %4294967296
def gO(a b:List Nat)(i:Nat):List Nat:=(List.range i).map (BN a b)
theorem AU(a b:List Nat)(i:Nat):jX a b i<=1:=by
 cases i with
 |zero=>simp[jX]
 |succ i=>grind[jX]
theorem OQ{a b:List Nat}(ha:Lb a)(hb:Lb b):∀i,aa (gO a b i)+aa (b.take i)=aa (a.take i)+4294967296^i*jX a b i
 |0=>by simp[gO,jX,aa]
 |i+1=>by
  have ih:=OQ ha hb i;rw[dx a i,dx b i];simp only[gO]at ih⊢;rw[yq,Nat.pow_succ];have h1:=bu ha i;have h2:=bu hb i;have h3:=AU a b i;have e:BN a b i+b.getD i 0+jX a b i=a.getD i 0+4294967296*jX a b (i+1):=by
   grind[BN,jX]
  grind
theorem qU(a b:List Nat)(i:Nat):(gO a b i).length=i:=by simp[gO]
theorem J0(a b:List Nat)(i:Nat):Lb (gO a b i):=fun x hx=>by
 simp only[gO,List.mem_map]at hx;obtain⟨j,_,rfl⟩:=hx;simp only[BN];omega
theorem OR{a b:List Nat}(ha:Lb a)(hb:Lb b)(hl:b.length<=a.length)(hv:aa b<=aa a):gO a b a.length=cD a.length (aa a-aa b):=by
 have h:=OQ ha hb a.length;rw[List.take_length,List.take_of_length_le hl]at h;have h1:=bQ (J0 a b a.length);rw[qU]at h1;have hz:jX a b a.length=0:=by
  grind[AU,Nat.eq_zero_or_pos,jX]
 rw[hz]at h;have h2:=BI (J0 a b a.length);rw[qU,show aa (gO a b a.length)=aa a-aa b from by omega]at h2;exact h2.symm
theorem Zj{a b:List Nat}(ha:Lb a)(hb:Lb b)(h2:a.length<=100000):∀ (k i:Nat),i+k=a.length->∀ (s:af) (h:ac),s 1=lm b->s 5=.rsl 16 none 1 0 a.length->s 6=U (jX a b i:Nat)->
  s 17=lm a->s 18=I (a.length:Nat)->s 19=I i->h 16=.ar 1 (ax (gO a b i++List.replicate k 0))->
  am 0 [5] (aD (aj R (aH false) jI) [1,5,6,17,18,19] [16] s h)=
   some (.normal,⟨upd (fun _=>.any) 5 (.rsl 16 none 1 0 a.length),upd (fun _=>.dead) 16 (.ar 1 (ax (gO a b a.length)))⟩):=by
 intro k;induction k with
 |zero=>
  intro i hi s h h1 h5 h6 h17 h18 h19 hh;have:i=a.length:=by omega
  subst this;rw[ai];simp only[jI,go_sem,apE,h1,h5,h6,h17,h18,h19,hh,Int.lt_irrefl]
 |succ k ih=>
  intro i hi s h h1 h5 h6 h17 h18 h19 hh;have ih':=ih (i+1) (by omega);have e1:((i:Int)< (a.length:Int))=True:=tt (by omega);have e2:aV (ax a) (i:Int)=some (.ipt [U (a.getD i 0:Nat)]):=bk rfl (by omega);have e3:IntKind.i64.wrap ((i:Int)+1)=((i+1:Nat):Int):=wi (by omega) (by omega);have e4:(0<=(i:Int))=True:=tt (by omega);have e7:(ax (gO a b i++List.replicate (k+1) 0))[i]?=some [U (0:Nat)]:=by
   grind[ij,qU]
  have e8:(ax (gO a b i++List.replicate (k+1) 0)).set i [U ((a.getD i 0+4294967296-b.getD i 0-jX a b i) %4294967296:Nat)]=ax (gO a b (i+1)++List.replicate k 0):=by
   rw[kg];grind[jX,BN,gO,List.range_succ]
  rw[ai];by_cases hb':i<b.length
  ·have e6:=OP (bu ha i) (bu hb i) (AU a b i);have e9:((i:Int)< (b.length:Int))=True:=tt (by omega);have e10:aV (ax b) (i:Int)=some (.ipt [U (b.getD i 0:Nat)]):=bk rfl hb';simp only[jI,go_sem,apB,apA,apC,apE,h1,h5,h6,h17,h18,h19,hh,e1,e2,e3,e4,e6,e7,e8,e9,e10,Int.toNat_natCast,Nat.zero_add];exact ih' _ _ rfl rfl rfl rfl rfl rfl rfl
  ·have e9:((i:Int)< (b.length:Int))=False:=ff (by omega);have e10:b.getD i 0=0:=by grind
   have e6':=OP (bu ha i) (y:=0) (by omega) (AU a b i);simp only[Int.natCast_zero]at e6';have e8':(ax (gO a b i++List.replicate (k+1) 0)).set i [U ((a.getD i 0+4294967296-0-jX a b i) %4294967296:Nat)]=ax (gO a b (i+1)++List.replicate k 0):=by
    grind
   simp only[jI,go_sem,apB,apA,apC,apE,h1,h5,h6,h17,h18,h19,hh,e1,e2,e3,e4,e6',e7,e8',e9,Int.toNat_natCast,Nat.zero_add];refine ih' _ _ rfl rfl ?_ rfl rfl rfl rfl;simp only[jX,e10,Nat.zero_add];rfl
theorem WI{a b:List Nat}(ha:Lb a)(hb:Lb b)(h1:a.length<=100000)(h2:b.length<=100000)(hv:aa b<=aa a):R F.natural_sub [lm a,lm b] []=some (lm (cD (ap (aa a)).length (aa a-aa b)),[]):=by
 refine aA MH rfl ?_;have la:=cz a ha;have lb:(ap (aa b)).length<=(ap (aa a)).length:=by
  rcases Nat.lt_or_ge (ap (aa a)).length (ap (aa b)).length with h|h
  ·have:=mP h;omega
  omega
 have e2:=l6 (i:=((ap (aa a)).length:Int)) (j:=((ap (aa a)).length:Int)) rfl rfl (Nat.le_refl _) (by omega);have e3:((ap (aa a)).length*4<=140737488355328)=True:=tt (by omega);have e4:=Zj (aP (aa a)) (aP (aa b)) (by omega) (ap (aa a)).length 0 (by omega);have e5:ax (List.replicate (ap (aa a)).length 0)=ax (gO (ap (aa a)) (ap (aa b)) 0++List.replicate (ap (aa a)).length 0):=rfl;have e6:=OR (aP (aa a)) (aP (aa b)) lb (by grind[aL]);rw[aL,aL]at e6;simp only[uJ,CA,go_sem,apB,apA,cA ha (by omega),cA hb (by omega),e2,e3,uN,e5];rw[e4 _ _ rfl rfl rfl rfl rfl rfl rfl];simp only[go_sem,apC,apD,e6,bU,Nat.zero_add,Nat.le_refl]
theorem WJ{a b:List Nat}(ha:Lb a)(hb:Lb b)(h1:a.length<=256)(h2:b.length<=256):R F.natural_Sub [lm a,lm b] []=some (if aa a<aa b then .tup [lm [],I 2]else io (aa a-aa b),[]):=by
 refine aA MB rfl ?_;have e1:(256<a.length)=False:=ff (by omega);have e2:(256<b.length)=False:=ff (by omega);by_cases hv:aa a<aa b
 ·have e3:bE (aa a) (aa b)=-1:=by grind[bE]
  simp only[lQ,rm,go_sem,apB,apA,apC,apD,apF,e1,e2,pn,vQ ha hb (by omega) (by omega),e3,hv]
 ·have e3:(bE (aa a) (aa b)<0)=False:=ff (by grind[bE]);have e5:aa (cD (ap (aa a)).length (aa a-aa b))=aa a-aa b:=by
   rw[iN,Nat.mod_eq_of_lt];grind[eL,aa]
  have e4:=AT (kf (ap (aa a)).length (aa a-aa b)) (by grind[bU,cz]);rw[e5]at e4;unfold io at e4⊢;by_cases hl:256< (ap (aa a-aa b)).length
  ·simp only[hl,if_true]at e4⊢;simp only[lQ,rm,go_sem,apB,apA,apC,apD,e1,e2,pn,vQ ha hb (by omega) (by omega),e3,hv,WI ha hb (by omega) (by omega) (by omega),e4]
  ·simp only[hl,if_false]at e4⊢;simp only[lQ,rm,go_sem,apB,apA,apC,apD,e1,e2,pn,vQ ha hb (by omega) (by omega),e3,hv,WI ha hb (by omega) (by omega) (by omega),e4]
def mi(x:Nat):Nat->List Nat->List Nat->List Nat×Nat
 |c,y::bs,o::s=>(((x*y+o+c) %4294967296)::(mi x ((x*y+o+c)/4294967296) bs s).1,(mi x ((x*y+o+c)/4294967296) bs s).2)
 |c,_,s=>(s,c)
theorem WK(x:Nat):∀ (bs s r:List Nat) (c:Nat),bs.length<=s.length->mi x c bs (s++r)=((mi x c bs s).1++r,(mi x c bs s).2)
 |[],s,r,c,_=>by simp[mi]
 |y::bs,[],r,c,h=>by grind
 |y::bs,o::s,r,c,h=>by
  have ih:=WK x bs s r ((x*y+o+c)/4294967296) (by simpa using h);simp only[List.cons_append,mi,ih]
theorem DG(x:Nat):∀ (bs s:List Nat) (c:Nat),(mi x c bs s).1.length=s.length
 |[],s,c=>by simp[mi]
 |y::bs,[],c=>by simp[mi]
 |y::bs,o::s,c=>by simp[mi,DG x bs s]
theorem aaN(x:Nat):∀ (bs s:List Nat) (c:Nat),Lb s->Lb (mi x c bs s).1
 |[],s,c,h=>by grind[mi]
 |y::bs,[],c,h=>by grind[mi]
 |y::bs,o::s,c,h=>by
  exact fS.2 ⟨by omega,aaN x bs s _ (fS.1 h).2⟩
theorem WL{x y o c:Nat}(hx:x<4294967296)(hy:y<4294967296)(ho:o<4294967296)(hc:c<4294967296):x*y+o+c<18446744073709551616:=by
 have:x*y<=4294967295*4294967295:=Nat.mul_le_mul (by omega) (by omega);omega
theorem GF{x:Nat}(hx:x<4294967296):∀ (bs s:List Nat) (c:Nat),Lb bs->Lb s->c<4294967296->(mi x c bs s).2<4294967296
 |[],s,c,_,_,hc=>by grind[mi]
 |y::bs,[],c,_,_,hc=>by grind[mi]
 |y::bs,o::s,c,hb,hs,hc=>by
  have:=WL hx (fS.1 hb).1 (fS.1 hs).1 hc;exact GF hx bs s _ (fS.1 hb).2 (fS.1 hs).2 (by omega)
theorem WM(x:Nat):∀ (bs s:List Nat) (c:Nat),bs.length=s.length->aa (mi x c bs s).1+4294967296^s.length*(mi x c bs s).2=aa s+x*aa bs+c
 |[],[],c,_=>by simp[mi,aa]
 |[],o::s,c,h=>by grind
 |y::bs,[],c,h=>by grind
 |y::bs,o::s,c,h=>by
  have ih:=WM x bs s ((x*y+o+c)/4294967296) (by grind);simp only[mi,aa,List.length_cons,Nat.pow_succ];grind
theorem UO{a b:List Nat}(hb:Lb b){x i n:Nat}(hx:x<4294967296)(h2:b.length<=100000)(hi:i<=100000):∀ (bs:List Nat) (k:Nat) (D S:List Nat) (c:Nat),b.drop k=bs->k<=b.length->D.length=i+k->bs.length<=S.length->(D++S).length=n->Lb S->c<4294967296->
  ∀ (s:af) (h:ac),s 18=lm a->s 19=I (a.length:Nat)->s 20=I i->s 1=lm b->s 5=.rsl 17 none 1 0 n->s 6=I i->s 7=U x->s 8=W c->s 25=lm b->s 26=I (b.length:Nat)->s 27=I k->h 17=.ar 1 (ax (D++S))->
  am 2 [1,5,6,8,18,19,20] (aD (aj R (aH false) jH) [1,5,6,7,8,18,19,20,25,26,27] [17] s h)=
   some (.normal,⟨upd (upd (upd (upd (upd (upd (upd (fun _=>.any) 20 (I i)) 19 (I (a.length:Nat))) 18 (lm a)) 8 (W ((mi x c bs S).2:Nat))) 6 (I i)) 5 (.rsl 17 none 1 0 n)) 1 (lm b),upd (fun _=>.dead) 17 (.ar 1 (ax (D++(mi x c bs S).1)))⟩):=by
 intro bs;induction bs with
 |nil=>
  intro k D S c hd hk hD hS hn hLS hc s h h18 h19 h20 h1 h5 h6 h7 h8 h25 h26 h27 hh;have:k=b.length:=by
   grind
  subst this;rw[ai];simp only[jH,go_sem,apE,h18,h19,h20,h1,h5,h6,h7,h8,h25,h26,h27,hh,Int.lt_irrefl,mi]
 |cons y bs ih=>
  intro k D S c hd hk hD hS hn hLS hc s h h18 h19 h20 h1 h5 h6 h7 h8 h25 h26 h27 hh;obtain⟨o,S,rfl⟩:∃o S',S=o::S':=by
   cases S with
   |nil=>grind
   |cons o S=>grind
  have hlt:k<b.length:=by
   grind
  have hy:b.getD k 0=y:=by
   have:=congrArg (·[0]?) hd;grind
  have hyb:y<4294967296:=by grind[bu]
  have hob:o<4294967296:=(fS.1 hLS).1;have hml:=WL hx hyb hob hc;have hxy:x*y<18446744073709551616:=by omega
  have ih':=ih (k+1) (D++[(x*y+o+c) %4294967296]) S ((x*y+o+c)/4294967296) (by rw[←List.drop_drop,hd];rfl) hlt (by grind) (by grind) (by grind) (fS.1 hLS).2 (by omega);have e1:((k:Int)< (b.length:Int))=True:=tt (by omega);have e2:aV (ax b) (k:Int)=some (.ipt [U (y:Nat)]):=by grind[bk]
  have e3:IntKind.i64.wrap ((k:Int)+1)=((k+1:Nat):Int):=wi (by omega) (by omega);have e4:IntKind.i64.wrap ((i:Int)+(k:Int))=((i+k:Nat):Int):=wi (by omega) (by omega);have e5:(0<=((i+k:Nat):Int))=True:=tt (by omega);have hin:i+k<n:=by grind
  have e6:(((i+k:Nat):Int)< (n:Int))=True:=tt (by omega);have e7:(ax (D++o::S))[i+k]?=some [U (o:Nat)]:=by
   grind[ij]
  have f1:IntKind.u64.wrap (x:Int)=x:=cK rfl (by omega);have f2:IntKind.u64.wrap (y:Int)=y:=cK rfl (by omega);have f3:IntKind.u64.wrap ((x:Int)*(y:Int))=((x*y:Nat):Int):=cK (by simp) hxy;have f4:IntKind.u64.wrap (o:Int)=o:=cK rfl (by omega);have f5:IntKind.u64.wrap (((x*y:Nat):Int)+(o:Int))=((x*y+o:Nat):Int):=cK (by omega) (by omega);have f6:IntKind.u64.wrap (((x*y+o:Nat):Int)+(c:Int))=((x*y+o+c:Nat):Int):=cK (by omega) (by omega);have f7:IntKind.u32.wrap ((x*y+o+c:Nat):Int)=(((x*y+o+c) %4294967296:Nat):Int):=BL rfl;have f8:=mN (n:=x*y+o+c) (k:=32) (kk:=.u64) (j:=32) rfl rfl (by omega);have f9:(ax (D++o::S)).set (i+k) [U ((x*y+o+c) %4294967296:Nat)]=ax (D++[(x*y+o+c) %4294967296]++S):=by
   rw[kg,←hD,List.set_append_right _ _ (Nat.le_refl _)];simp
  rw[ai];generalize aD _ _ _=L at ih'⊢;simp only[jH,go_sem,apC,apE,h18,h19,h20,h1,h5,h6,h7,h8,h25,h26,h27,hh,e1,e2,e3,e4,e5,e6,e7,f1,f2,f3,f4,f5,f6,f7,f8,f9,Int.toNat_natCast,Nat.zero_add,mi];rw[ih' _ _ rfl rfl rfl rfl rfl rfl rfl rfl rfl rfl rfl rfl];grind
def cF(a b:List Nat)(i:Nat):List Nat:=cD (i+b.length) (aa (a.take i)*aa b)
theorem WN{a b:List Nat}(ha:Lb a)(hb:Lb b){i:Nat}(hi:i<a.length):
  (cF a b i).take i++((mi (a.getD i 0) 0 b ((cF a b i).drop i)).1++[(mi (a.getD i 0) 0 b ((cF a b i).drop i)).2])=cF a b (i+1):=by
 have hx:=bu ha i;have hP:(cF a b i).length=i+b.length:=bU _ _;have hLP:Lb (cF a b i):=kf _ _;have hS:((cF a b i).drop i).length=b.length:=by grind
 have h1:=WM (a.getD i 0) b ((cF a b i).drop i) 0 hS.symm;have h2:=GF hx b ((cF a b i).drop i) 0 hb (jq hLP i) (by omega);have h3:=aaN (a.getD i 0) b ((cF a b i).drop i) 0 (jq hLP i);have h4:=DG (a.getD i 0) b ((cF a b i).drop i) 0;have hvP:aa (cF a b i)=aa (a.take i)*aa b:=by
  unfold cF;rw[iN,Nat.mod_eq_of_lt];have e1:=bQ (dN ha i);have e2:=bQ hb;rw[List.length_take,Nat.min_eq_left (by omega)]at e1
  simp_all[Nat.pow_add,Nat.mul_lt_mul'']
 have hsplit:aa (cF a b i)=aa ((cF a b i).take i)+4294967296^i*aa ((cF a b i).drop i):=by
  grind[List.take_append_drop,cF,cS,List.length_take,Nat.min_eq_left]
 have hLb:Lb ((cF a b i).take i++((mi (a.getD i 0) 0 b ((cF a b i).drop i)).1++[(mi (a.getD i 0) 0 b ((cF a b i).drop i)).2])):=
  kL.2 ⟨dN hLP i,kL.2 ⟨h3,fS.2 ⟨h2,Dw⟩⟩⟩
 have hval:aa ((cF a b i).take i++((mi (a.getD i 0) 0 b ((cF a b i).drop i)).1++[(mi (a.getD i 0) 0 b ((cF a b i).drop i)).2]))=aa (a.take (i+1))*aa b:=by
  rw[cS,cS,List.length_take,hP,Nat.min_eq_left (by omega),h4,dx a i,Nat.add_mul,←hvP,hsplit];simp only[aa,Nat.mul_zero,Nat.add_zero]at h1⊢;grind
 have hlen:((cF a b i).take i++((mi (a.getD i 0) 0 b ((cF a b i).drop i)).1++[(mi (a.getD i 0) 0 b ((cF a b i).drop i)).2])).length=i+1+b.length:=by
  grind
 have:=BI hLb;rw[hlen,hval]at this;exact this.symm
theorem Zk{a b:List Nat}(ha:Lb a)(hb:Lb b)(h1:a.length<=100000)(h2:b.length<=100000):∀ (k i:Nat),i+k=a.length->∀ (s:af) (h:ac),s 1=lm b->s 5=.rsl 17 none 1 0 (a.length+b.length)->
  s 18=lm a->s 19=I (a.length:Nat)->s 20=I i->h 17=.ar 1 (ax (cF a b i++List.replicate k 0))->
  am 0 [5] (aD (aj R (aH false) mJ) [1,5,18,19,20] [17] s h)=
   some (.normal,⟨upd (fun _=>.any) 5 (.rsl 17 none 1 0 (a.length+b.length)),upd (fun _=>.dead) 17 (.ar 1 (ax (cF a b a.length)))⟩):=by
 intro k;induction k with
 |zero=>
  intro i hi s h h1 h5 h18 h19 h20 hh;have:i=a.length:=by omega
  subst this;rw[ai];simp only[mJ,go_sem,apE,h1,h5,h18,h19,h20,hh,Int.lt_irrefl]
 |succ k ih=>
  intro i hi s h g1 h5 h18 h19 h20 hh;have ih':=ih (i+1) (by omega);have hx:=bu ha i;have hP:(cF a b i).length=i+b.length:=bU _ _;have hLP:Lb (cF a b i):=kf _ _;have hsp:cF a b i++List.replicate (k+1) 0=(cF a b i).take i++((cF a b i).drop i++List.replicate (k+1) 0):=by rw[←List.append_assoc,List.take_append_drop]
  have e1:((i:Int)< (a.length:Int))=True:=tt (by omega);have e2:aV (ax a) (i:Int)=some (.ipt [U (a.getD i 0:Nat)]):=bk rfl (by omega);have e3:IntKind.i64.wrap ((i:Int)+1)=((i+1:Nat):Int):=wi (by omega) (by omega);have e4:IntKind.i64.wrap ((i:Int)+(b.length:Int))=((i+b.length:Nat):Int):=wi (by omega) (by omega);have e5:(0<=((i+b.length:Nat):Int))=True:=tt (by omega);have e6:(((i+b.length:Nat):Int)< ((a.length+b.length:Nat):Int))=True:=tt (by omega);have lp:=UO (a:=a) hb (x:=a.getD i 0) (i:=i) (n:=a.length+b.length) hx h2 (by omega) b 0 ((cF a b i).take i) ((cF a b i).drop i++List.replicate (k+1) 0) 0 rfl (Nat.zero_le _) (by grind) (by grind) (by grind)
   (kL.2 ⟨jq hLP i,fun y hy=>by grind⟩) (by omega)
  rw[WK _ _ _ _ _ (by grind)]at lp;have ml:(mi (a.getD i 0) 0 b ((cF a b i).drop i)).1.length=b.length:=by grind[DG]
  have mc:=GF hx b ((cF a b i).drop i) 0 hb (jq hLP i) (by omega);have ps:=WN ha hb (show i<a.length from by omega);rw[hsp]at hh;generalize mi (a.getD i 0) 0 b ((cF a b i).drop i)=r at*
  have f1:IntKind.u32.wrap (r.2:Int)=(r.2:Int):=wK rfl mc;have e7:(ax ((cF a b i).take i++(r.1++List.replicate (k+1) 0)))[i+b.length]?=some [U (0:Nat)]:=by
   grind[List.append_assoc,ij]
  have e8:(ax ((cF a b i).take i++(r.1++List.replicate (k+1) 0))).set (i+b.length) [U (r.2:Nat)]=ax (cF a b (i+1)++List.replicate k 0):=by
   grind[List.append_assoc,kg,OM,cF]
  rw[ai];generalize aD _ _ _=L at ih'⊢;simp only[mJ,go_sem,apE,g1,h5,h18,h19,h20,hh,e1,e2];rw[lp _ _ rfl rfl rfl rfl rfl rfl rfl rfl rfl rfl rfl rfl];simp only[go_sem,apC,e3,e4,e5,e6,e7,e8,f1,Int.toNat_natCast,Nat.zero_add];exact ih' _ _ rfl rfl rfl rfl rfl rfl
theorem adx{a b:List Nat}(ha:Lb a)(hb:Lb b)(h1:a.length<=100000)(h2:b.length<=100000):R F.natural_mul [lm a,lm b] []=some (lm (cD (a.length+b.length) (aa a*aa b)),[]):=by
 refine aA MD rfl ?_;have e1:IntKind.i64.wrap ((a.length:Int)+(b.length:Int))=((a.length+b.length:Nat):Int):=wi (by omega) (by omega);have e2:=l6 (i:=((a.length+b.length:Nat):Int)) (j:=((a.length+b.length:Nat):Int)) rfl rfl (Nat.le_refl _) (by omega);have e3:((a.length+b.length)*4<=140737488355328)=True:=tt (by omega);have e4:=Zk ha hb h1 h2 a.length 0 (by omega);have e0:cF a b 0=List.replicate b.length 0:=by
  have:∀n,cD n 0=List.replicate n 0:=fun n=>by
   induction n with
   |zero=>rfl
   |succ n ih=>simp[cD,ih,List.replicate_succ]
  grind[cF,aa]
 have e5:ax (List.replicate (a.length+b.length) 0)=ax (cF a b 0++List.replicate a.length 0):=by
  rw[e0,List.replicate_append_replicate,Nat.add_comm]
 have e6:cF a b a.length=cD (a.length+b.length) (aa a*aa b):=by rw[cF,List.take_length]
 simp only[uG,Cw,go_sem,e1,e2,e3,uN,e5];rw[e4 _ _ rfl rfl rfl rfl rfl rfl];simp only[go_sem,apC,apD,e6,bU,Nat.zero_add,Nat.le_refl]
theorem WO{a b:List Nat}(ha:Lb a)(hb:Lb b)(h1:a.length<=256)(h2:b.length<=256):R F.natural_Mul [lm a,lm b] []=some (io (aa a*aa b),[]):=by
 refine aA My rfl ?_;have e1:(256<a.length)=False:=ff (by omega);have e2:(256<b.length)=False:=ff (by omega);have la:=cz a ha;have lb:=cz b hb;have e3:=adx (aP (aa a)) (aP (aa b)) (by omega) (by omega);rw[aL,aL]at e3;have e4:=AT (kf ((ap (aa a)).length+(ap (aa b)).length) (aa a*aa b)) (by grind[bU]);rw[iN,Nat.mod_eq_of_lt (by simp_all[Nat.pow_add,Nat.mul_lt_mul'',eL])]at e4;unfold io at e4⊢;by_cases hl:256< (ap (aa a*aa b)).length
 ·simp only[hl,if_true]at e4⊢;simp only[pS,wr,go_sem,apB,apA,apC,apD,e1,e2,pn,cA ha (by omega),cA hb (by omega),e3,e4]
 ·simp only[hl,if_false]at e4⊢;simp only[pS,wr,go_sem,apB,apA,apC,apD,e1,e2,pn,cA ha (by omega),cA hb (by omega),e3,e4]
theorem xk{n m:Nat}{i j:Int}(hi:i=n)(hj:j=m)(hm:m≠0):cO .rem (.v (.int .i64 i)) (.v (.int .i64 j))=some (.v (.int .i64 ((n%m:Nat):Int))):=by
 simp_all[EF,if_neg,Int.tmod_eq_emod_of_nonneg]
theorem xn{n m:Nat}{i j:Int}(hi:i=n)(hj:j=m)(hm:m≠0)(hn:n<9223372036854775808):cO .quo (.v (.int .i64 i)) (.v (.int .i64 j))=some (.v (.int .i64 ((n/m:Nat):Int))):=by
 rw[Jv,if_neg (by omega),Int.tdiv_eq_ediv_of_nonneg (by omega)];have:n/m<=n:=Nat.div_le_self _ _;grind[wi]
theorem zk{n k:Nat}{i:Int}{kk:IntKind}{j:Int}(hi:i=n)(hj:j=k)(hk:k<=64)(h:n*2^k<18446744073709551616):cO .shl (.v (.int .u64 i)) (.v (.int kk j))=some (.v (.int .u64 ((n*2^k:Nat):Int))):=by
 subst hi hj;rw[EG,if_neg (by omega)];have:min (k:Int).toNat IntKind.u64.bits=k:=by grind[IntKind.bits]
 rw[this,cK (n:=n*2^k) (by simp) h]
theorem GG{m n:Nat}{i j:Int}(hi:i=m)(hj:j=n)(hm:m<18446744073709551616)(hn:n<18446744073709551616):cO .or (.v (.int .u64 i)) (.v (.int .u64 j))=some (.v (.int .u64 ((m|||n:Nat):Int))):=by
 subst hi hj;rw[HH];have e:(BitVec.ofInt IntKind.u64.bits (m:Int)|||BitVec.ofInt IntKind.u64.bits (n:Int)).toNat=m|||n:=by
  show(BitVec.ofInt 64 (m:Int)|||BitVec.ofInt 64 (n:Int)).toNat=m|||n
  grind
 rw[e];rw[cK rfl (Nat.or_lt_two_pow (n:=64) hm hn)]
theorem yr{x c k:Nat}(hc:c<2^k):x*2^k|||c=x*2^k+c:=by
 have:=Nat.shiftLeft_add_eq_or_of_lt hc x;grind[Nat.shiftLeft_eq]
def fT(a:List Nat)(r:Nat):Nat->Nat
 |0=>0
 |i+1=>(a.getD i 0*2^r+fT a r i)/4294967296
def jY(a:List Nat)(r i:Nat):List Nat:=(List.range i).map fun j=>(a.getD j 0*2^r+fT a r j) %4294967296
theorem AW{a:List Nat}(ha:Lb a){r:Nat}:∀i,fT a r i<2^r
 |0=>by grind[fT,Nat.two_pow_pos]
 |i+1=>by
  have ih:=AW ha (r:=r) i;have:=bu ha i;simp only[fT];have h1:a.getD i 0*2^r+2^r<=4294967296*2^r:=by
   rw[←Nat.succ_mul];exact Nat.mul_le_mul_right _ (by omega)
  omega
theorem qf(a:List Nat)(r i:Nat):(jY a r i).length=i:=by simp[jY]
theorem ady(a:List Nat)(r i:Nat):Lb (jY a r i):=fun x hx=>by
 simp only[jY,List.mem_map]at hx;omega
theorem Sk(a:List Nat)(r:Nat):∀i,aa (jY a r i)+4294967296^i*fT a r i=aa (a.take i)*2^r
 |0=>by simp[jY,fT,aa]
 |i+1=>by
  have ih:=Sk a r i;rw[dx a i];simp only[jY]at ih⊢;rw[yq,Nat.pow_succ];have e:fT a r (i+1)*4294967296+(a.getD i 0*2^r+fT a r i) %4294967296=a.getD i 0*2^r+fT a r i:=by
   grind[fT]
  grind
theorem Zl{a:List Nat}(ha:Lb a){n q:Nat}(h1:a.length<=100000)(hq:q<=100000):∀ (k i:Nat),i+k=a.length->∀ (s:af) (h:ac),s 1=I (n:Nat)->s 5=.rsl 20 none 1 0 (q+i)->s 6=W (fT a (n%32) i:Nat)->s 21=lm a->s 22=I (a.length:Nat)->s 23=I i->
  h 20=.ar 1 (ax (List.replicate q 0++jY a (n%32) i))->h 38=.dead->
  am 0 [5,6] (aD (aj R (aH false) mK) [1,5,6,21,22,23] [20,38] s h)=
   some (.normal,⟨upd (upd (fun _=>.any) 6 (W (fT a (n%32) a.length:Nat))) 5 (.rsl 20 none 1 0 (q+a.length)),upd (upd (fun _=>.dead) 38 .dead) 20 (.ar 1 (ax (List.replicate q 0++jY a (n%32) a.length)))⟩):=by
 intro k;induction k with
 |zero=>
  intro i hi s h g1 h5 h6 h21 h22 h23 hh hh2;have:i=a.length:=by omega
  subst this;rw[ai];simp only[mK,go_sem,apE,g1,h5,h6,h21,h22,h23,hh,hh2,Int.lt_irrefl]
 |succ k ih=>
  intro i hi s h g1 h5 h6 h21 h22 h23 hh hh2;have ih':=ih (i+1) (by omega);have hx:=bu ha i;have hc:=AW ha (r:=n%32) i;have hp:2^ (n%32)<=2^31:=Nat.pow_le_pow_right (by omega) (by omega);have hxp:a.getD i 0*2^ (n%32)<=4294967295*2^31:=Nat.mul_le_mul (by omega) hp;have e1:((i:Int)< (a.length:Int))=True:=tt (by omega);have e2:aV (ax a) (i:Int)=some (.ipt [U (a.getD i 0:Nat)]):=bk rfl (by omega);have e3:IntKind.i64.wrap ((i:Int)+1)=((i+1:Nat):Int):=wi (by omega) (by omega);have e4:IntKind.u64.wrap (a.getD i 0:Int)=(a.getD i 0:Int):=cK rfl (by omega);have e5:=xk (n:=n) (m:=32) (j:=32) rfl rfl (by omega);have e6:=zk (n:=a.getD i 0) (k:=n%32) (kk:=.i64) rfl rfl (by omega) (by omega);have e7:=GG (m:=a.getD i 0*2^ (n%32)) (n:=fT a (n%32) i) rfl rfl (by omega) (by omega);rw[yr hc]at e7;have e8:IntKind.u32.wrap ((a.getD i 0*2^ (n%32)+fT a (n%32) i:Nat):Int)=(((a.getD i 0*2^ (n%32)+fT a (n%32) i) %4294967296:Nat):Int):=BL rfl;have e9:=mN (n:=a.getD i 0*2^ (n%32)+fT a (n%32) i) (k:=32) (kk:=.u64) (j:=32) rfl rfl (by omega);have f1:ax (List.replicate q 0++jY a (n%32) i)++[[U ((a.getD i 0*2^ (n%32)+fT a (n%32) i) %4294967296:Nat)]]=ax (List.replicate q 0++jY a (n%32) (i+1)):=by
   simp_all[U,fT,ax,xd,List.append_assoc,jY,List.range_succ]
  have f2:(q+i=(List.replicate q 0++jY a (n%32) i).length)=True:=tt (by simp[qf]);have f3:((q+i+1)*4<=140737488355328)=True:=tt (by omega);rw[ai];simp only[mK,go_sem,apC,apD,apE,g1,h5,h6,h21,h22,h23,hh,hh2,e1,e2,e3,e4,e5,e6,e7,e8,e9,f1,f2,f3,true_or,Nat.zero_add,Nat.le_refl];exact ih' _ _ rfl rfl rfl rfl rfl rfl rfl rfl
theorem rZ(n:Nat):4294967296^ (n/32)*2^ (n%32)=2^n:=by
 rw[show(4294967296:Nat)=2^32 from rfl,←Nat.pow_mul,←Nat.pow_add];grind
theorem Sl{a:List Nat}(ha:Lb a)(n:Nat):List.replicate (n/32) 0++jY a (n%32) a.length++[fT a (n%32) a.length]=cD (n/32+a.length+1) (aa a*2^n):=by
 have hc:=AW ha (r:=n%32) a.length;have hp:2^ (n%32)<=2^31:=Nat.pow_le_pow_right (by omega) (by omega);have h:=Sk a (n%32) a.length;have hLb:Lb (List.replicate (n/32) 0++jY a (n%32) a.length++[fT a (n%32) a.length]):=
  kL.2 ⟨kL.2 ⟨fun y hy=>by grind,ady _ _ _⟩,fS.2 ⟨by omega,Dw⟩⟩
 have hv:aa (List.replicate (n/32) 0++jY a (n%32) a.length++[fT a (n%32) a.length])=aa a*2^n:=by
  rw[List.append_assoc,cS,Lw,cS,qf,List.length_replicate];simp only[aa,Nat.mul_zero,Nat.add_zero,Nat.zero_add];grind[rZ,Nat.mul_left_comm]
 have:=BI hLb;grind[qf]
theorem H9{a:List Nat}(ha:Lb a){n:Nat}(h1:a.length<=100000)(hn:n<=65536):R F.natural_shl [lm a,I n] []=some (.osl 1 (ax (cD (n/32+(ap (aa a)).length+1) (aa a*2^n))),[]):=by
 refine aA MF rfl ?_;have la:=cz a ha;have hc:=AW (aP (aa a)) (r:=n%32) (ap (aa a)).length;have hp:2^ (n%32)<=2^31:=Nat.pow_le_pow_right (by omega) (by omega);have e1:=xn (n:=n) (m:=32) (j:=32) rfl rfl (by omega) (by omega);have e2:IntKind.i64.wrap (((n/32:Nat):Int)+((ap (aa a)).length:Int))=((n/32+(ap (aa a)).length:Nat):Int):=wi (by omega) (by omega);have e3:IntKind.i64.wrap (((n/32+(ap (aa a)).length:Nat):Int)+1)=((n/32+(ap (aa a)).length+1:Nat):Int):=wi (by omega) (by omega);have e4:=l6 (i:=((n/32:Nat):Int)) (j:=((n/32+(ap (aa a)).length+1:Nat):Int)) rfl rfl (by omega) (by omega);have e5:((n/32+(ap (aa a)).length+1)*4<=140737488355328)=True:=tt (by omega);have e6:=Zl (aP (aa a)) (n:=n) (q:=n/32) (by omega) (by omega) (ap (aa a)).length 0 (by omega);have e7:ax (List.replicate (n/32) 0)=ax (List.replicate (n/32) 0++jY (ap (aa a)) (n%32) 0):=by simp[jY]
 have e8:IntKind.u32.wrap ((fT (ap (aa a)) (n%32) (ap (aa a)).length:Nat):Int)=((fT (ap (aa a)) (n%32) (ap (aa a)).length:Nat):Int):=wK rfl (by omega);have f1:ax (List.replicate (n/32) 0++jY (ap (aa a)) (n%32) (ap (aa a)).length)++[[U (fT (ap (aa a)) (n%32) (ap (aa a)).length:Nat)]]=ax (cD (n/32+(ap (aa a)).length+1) (aa a*2^n)):=by
  have:=Sl (aP (aa a)) n;rw[aL]at this;rw[←this,show [[U (fT (ap (aa a)) (n%32) (ap (aa a)).length:Nat)]]=ax [fT (ap (aa a)) (n%32) (ap (aa a)).length]from rfl,xd]
 have f2:(n/32+(ap (aa a)).length=(List.replicate (n/32) 0++jY (ap (aa a)) (n%32) (ap (aa a)).length).length)=True:=tt (by simp[qf]);simp only[uI,Cy,go_sem,apB,apA,cA ha (by omega),e1,e2,e3,e4,e5,uN,e7];rw[e6 _ _ rfl rfl rfl rfl rfl rfl rfl rfl];simp only[go_sem,apC,apD,e8,f1,f2,e5,true_or,Nat.zero_add,Nat.le_refl,bU]
theorem WP{a:List Nat}(ha:Lb a){n:Int}(h1:a.length<=256):R F.natural_Shl [lm a,I n] []=some (if n<0\/65536<n then .tup [lm [],I 2]else io (aa a*2^n.toNat),[]):=by
 refine aA Mz rfl ?_;have e1:(256<a.length)=False:=ff (by omega);by_cases hn:n<0
 ·simp only[jo,nj,go_sem,apB,apA,apC,apD,e1,mO,hn,true_or]
 by_cases hn2:65536<n
 ·simp only[jo,nj,go_sem,apB,apA,apC,apD,e1,mO,hn,hn2,or_true]
 obtain⟨m,rfl⟩:=Int.eq_ofNat_of_zero_le (show 0<=n by omega);have la:=cz a ha;have e3:aa (cD (m/32+(ap (aa a)).length+1) (aa a*2^m))=aa a*2^m:=by
  rw[iN,Nat.mod_eq_of_lt];have h:=eL (aa a);have h2:2^m<=4294967296^ (m/32+1):=by
   rw[show(4294967296:Nat)=2^32 from rfl,←Nat.pow_mul];exact Nat.pow_le_pow_right (by omega) (by omega)
  rw[show m/32+(ap (aa a)).length+1=(ap (aa a)).length+(m/32+1)from by omega,Nat.pow_add]
  simp_all[Nat.mul_lt_mul_of_lt_of_le,Nat.pow_pos]
 have e4:=AT (kf (m/32+(ap (aa a)).length+1) (aa a*2^m)) (by grind[bU]);rw[e3]at e4;have e5:(ax (cD (m/32+(ap (aa a)).length+1) (aa a*2^m))).take (cD (m/32+(ap (aa a)).length+1) (aa a*2^m)).length=ax (cD (m/32+(ap (aa a)).length+1) (aa a*2^m)):=List.take_of_length_le (by simp_all[xc,Nat.le_refl]);unfold io at e4⊢;by_cases hl:256< (ap (aa a*2^m)).length
 ·simp only[jo,nj,go_sem,apB,apA,apC,apD,e1,mO,hn,hn2,H9 ha (n:=m) (by omega) (by omega),e4,e5,or_false,Int.toNat_natCast,hl,Nat.zero_add,Nat.le_refl]
 ·simp only[jo,nj,go_sem,apB,apA,apC,apD,e1,mO,hn,hn2,H9 ha (n:=m) (by omega) (by omega),e4,e5,or_false,Int.toNat_natCast,hl,Nat.zero_add,Nat.le_refl]
theorem rM{l:List Nat}(h:Lb l)(i:Nat):aa (l.drop i)=aa l/4294967296^i:=by
 rcases Nat.lt_or_ge l.length i with hi|hi
 ·rw[List.drop_of_length_le (by omega)];have:=bQ h;have h2:4294967296^l.length<=4294967296^i:=Nat.pow_le_pow_right (by omega) (by omega);rw[Nat.div_eq_of_lt (by omega)];rfl
 ·have h1:aa l=aa (l.take i)+4294967296^i*aa (l.drop i):=by
   grind[List.take_append_drop,cS,List.length_take,Nat.min_eq_left]
  grind[bQ,dN,List.length_take,Nat.min_eq_left,Nat.add_mul_div_left,Nat.pow_pos,Nat.div_eq_of_lt]
theorem dF(l:List Nat)(i:Nat):aa (l.drop i)=l.getD i 0+4294967296*aa (l.drop (i+1)):=by
 grind[List.drop_eq_getElem_cons,aa,List.drop_of_length_le]
def po(a:List Nat)(r i:Nat):Nat:=(a.getD i 0+4294967296*a.getD (i+1) 0)/2^r%4294967296
theorem abt{a:List Nat}(ha:Lb a){r:Nat}(hr:r<=32)(i:Nat):po a r i=Sj (aa a/2^r) i:=by
 unfold po Sj;have e0:aa a/2^r/4294967296^i=aa (a.drop i)/2^r:=by grind[Nat.div_div_eq_div_mul,Nat.mul_comm,rM]
 rw[e0,dF a i,dF a (i+1)];generalize aa (a.drop (i+1+1))=w;have e:(4294967296:Nat)=2^r*2^ (32-r):=by rw[←Nat.pow_add,show r+(32-r)=32 from by omega]
 have h1:a.getD i 0+4294967296*(a.getD (i+1) 0+4294967296*w)=(a.getD i 0+4294967296*a.getD (i+1) 0)+2^r*(2^ (32-r)*4294967296*w):=by
  grind
 rw[h1,Nat.add_mul_div_left _ _ (Nat.two_pow_pos r),Nat.mul_assoc,Nat.mul_left_comm,Nat.add_mul_mod_self_left]
def jK(a:List Nat)(r i:Nat):List Nat:=(List.range i).map (po a r)
theorem qV(a:List Nat)(r i:Nat):(jK a r i).length=i:=by simp[jK]
theorem OS{a:List Nat}(ha:Lb a){r:Nat}(hr:r<=32):jK a r a.length=cD a.length (aa a/2^r):=by
 grind[OL,qV,abt,jK]
theorem Zm{a:List Nat}(ha:Lb a){n:Nat}(h1:a.length<=100000):∀ (k i:Nat),i+k=a.length->∀ (s:af) (h:ac),s 0=lm a->s 1=I (n:Nat)->s 5=.rsl 22 none 1 0 a.length->s 23=lm a->s 24=I (a.length:Nat)->s 25=I i->
  h 22=.ar 1 (ax (jK a (n%32) i++List.replicate k 0))->
  am 0 [5] (aD (aj R (aH false) jJ) [0,1,5,23,24,25] [22] s h)=
   some (.normal,⟨upd (fun _=>.any) 5 (.rsl 22 none 1 0 a.length),upd (fun _=>.dead) 22 (.ar 1 (ax (jK a (n%32) a.length)))⟩):=by
 intro k;induction k with
 |zero=>
  intro i hi s h h0 g1 h5 h23 h24 h25 hh;have:i=a.length:=by omega
  subst this;rw[ai];simp only[List.replicate_zero,List.append_nil]at hh;simp only[jJ,go_sem,apE,h0,g1,h5,h23,h24,h25,hh,Int.lt_irrefl]
 |succ k ih=>
  intro i hi s h h0 g1 h5 h23 h24 h25 hh;have ih':=ih (i+1) (by omega);have hx:=bu ha i;have hy:=bu ha (i+1);have hr:n%32<32:=Nat.mod_lt _ (by omega);have e1:((i:Int)< (a.length:Int))=True:=tt (by omega);have e2:aV (ax a) (i:Int)=some (.ipt [U (a.getD i 0:Nat)]):=bk rfl (by omega);have e3:IntKind.i64.wrap ((i:Int)+1)=((i+1:Nat):Int):=wi (by omega) (by omega);have e4:IntKind.u64.wrap (a.getD i 0:Int)=(a.getD i 0:Int):=cK rfl (by omega);have e5:=xk (n:=n) (m:=32) (j:=32) rfl rfl (by omega);have e6:(0<=(i:Int))=True:=tt (by omega);have e7:(ax (jK a (n%32) i++List.replicate (k+1) 0))[i]?=some [U (0:Nat)]:=by
   grind[ij,qV]
  have e8:(ax (jK a (n%32) i++List.replicate (k+1) 0)).set i [U (po a (n%32) i:Nat)]=ax (jK a (n%32) (i+1)++List.replicate k 0):=by
   grind[kg,OM,jK,po,qV,List.range_succ]
  rw[ai];generalize aD _ _ _=L at ih'⊢;by_cases hl:i+1<a.length
  ·have f1:(((i+1:Nat):Int)< (a.length:Int))=True:=tt (by omega);have f2:aV (ax a) ((i+1:Nat):Int)=some (.ipt [U (a.getD (i+1) 0:Nat)]):=bk rfl hl;have f3:IntKind.u64.wrap (a.getD (i+1) 0:Int)=(a.getD (i+1) 0:Int):=cK rfl (by omega);have f4:=zk (n:=a.getD (i+1) 0) (k:=32) (kk:=.u64) (j:=32) rfl rfl (by omega) (by omega);have f5:=GG (m:=a.getD i 0) (n:=a.getD (i+1) 0*2^32) rfl rfl (by omega) (by omega);rw[Nat.or_comm,yr (show a.getD i 0<2^32 from by omega)]at f5;have f6:=mN (n:=a.getD (i+1) 0*2^32+a.getD i 0) (k:=n%32) (kk:=.i64) rfl rfl (by omega);have f7:IntKind.u32.wrap (((a.getD (i+1) 0*2^32+a.getD i 0)/2^ (n%32):Nat):Int)=((po a (n%32) i:Nat):Int):=by
    grind[BL,po]
   simp only[jJ,go_sem,apC,apE,h0,g1,h5,h23,h24,h25,hh,e1,e2,e3,e4,e5,e6,e7,e8,f1,f2,f3,f4,f5,f6,f7,Int.toNat_natCast,Nat.zero_add];exact ih' _ _ rfl rfl rfl rfl rfl rfl rfl
  ·have f1:(((i+1:Nat):Int)< (a.length:Int))=False:=ff (by omega);have f2:a.getD (i+1) 0=0:=by grind
   have f6:=mN (n:=a.getD i 0) (k:=n%32) (kk:=.i64) rfl rfl (by omega);have f7:IntKind.u32.wrap ((a.getD i 0/2^ (n%32):Nat):Int)=((po a (n%32) i:Nat):Int):=by
    rw[BL rfl];grind[po]
   simp only[jJ,go_sem,apC,apE,h0,g1,h5,h23,h24,h25,hh,e1,e2,e3,e4,e5,e6,e7,e8,f1,f6,f7,Int.toNat_natCast,Nat.zero_add];exact ih' _ _ rfl rfl rfl rfl rfl rfl rfl
theorem WQ{a:List Nat}(ha:Lb a){n:Nat}(h1:a.length<=100000)(hn:n<=100000000):R F.natural_shr [lm a,I n] []=some (lm (cD ((ap (aa a)).length-n/32) (aa a/2^n)),[]):=by
 refine aA MI rfl ?_;have la:=cz a ha;have e1:=xn (n:=n) (m:=32) (j:=32) rfl rfl (by omega) (by omega);by_cases hl:(ap (aa a)).length<=n/32
 ·have e2:(((ap (aa a)).length:Int)<=((n/32:Nat):Int))=True:=tt (by omega);have e3:cD ((ap (aa a)).length-n/32) (aa a/2^n)=[]:=by rw[show(ap (aa a)).length-n/32=0 from by omega];rfl
  simp only[pZ,wv,go_sem,apB,apA,cA ha (by omega),e1,e2,e3]
 ·have e2:(((ap (aa a)).length:Int)<=((n/32:Nat):Int))=False:=ff (by omega);have hD:((ap (aa a)).drop (n/32)).length=(ap (aa a)).length-n/32:=by simp
  have hLD:Lb ((ap (aa a)).drop (n/32)):=jq (aP _) _;have e3:gh 1 (lm (ap (aa a))) (some (I (n/32:Nat))) none none=some (lm ((ap (aa a)).drop (n/32))):=by
   rw[DE (a:=n/32) (b:=(ap (aa a)).length) (pk rfl (by omega)) rfl (Nat.le_refl _),List.take_of_length_le (by omega)]
  have hv:aa ((ap (aa a)).drop (n/32))/2^ (n%32)=aa a/2^n:=by
   rw[rM (aP _),aL,Nat.div_div_eq_div_mul,rZ]
  have e6:=OS hLD (r:=n%32) (by omega);rw[hv,hD]at e6;generalize(ap (aa a)).drop (n/32)=D at*
  have e4:=l6 (i:=(D.length:Int)) (j:=(D.length:Int)) rfl rfl (Nat.le_refl _) (by omega);have e5:(D.length*4<=140737488355328)=True:=tt (by omega);have e7:=Zm hLD (n:=n) (by omega) D.length 0 (by omega);have e8:ax (List.replicate D.length 0)=ax (jK D (n%32) 0++List.replicate D.length 0):=by simp[jK]
  rw[←hD]at e6⊢;simp only[pZ,wv,go_sem,apB,apA,cA ha (by omega),e1,e2,e3,e4,e5,uN,e8];rw[e7 _ _ rfl rfl rfl rfl rfl rfl rfl];simp only[go_sem,apC,apD,e6,bU,Nat.zero_add,Nat.le_refl]
theorem WR{a:List Nat}(ha:Lb a){n:Int}(h1:a.length<=256):R F.natural_Shr [lm a,I n] []=some (if n<0\/65536<n then .tup [lm [],I 2]else .tup [lm (ap (aa a/2^n.toNat)),I 0],[]):=by
 refine aA ME rfl ?_;have e1:(256<a.length)=False:=ff (by omega);by_cases hn:n<0
 ·simp only[lS,rp,go_sem,apB,apA,apC,apD,e1,mO,hn,true_or]
 by_cases hn2:65536<n
 ·simp only[lS,rp,go_sem,apB,apA,apC,apD,e1,mO,hn,hn2,or_true]
 obtain⟨m,rfl⟩:=Int.eq_ofNat_of_zero_le (show 0<=n by omega);have la:=cz a ha;have hlt:=eL (aa a);have h32:aa a/2^m<4294967296^ ((ap (aa a)).length-m/32):=by
  rw[Nat.div_lt_iff_lt_mul (Nat.two_pow_pos m),←rZ m];refine Nat.lt_of_lt_of_le hlt ?_;rw[←Nat.mul_assoc,←Nat.pow_add];refine Nat.le_trans (Nat.pow_le_pow_right (by omega) (show(ap (aa a)).length<=(ap (aa a)).length-m/32+m/32 by omega)) (Nat.le_mul_of_pos_right _ (Nat.two_pow_pos _))
 have e3:aa (cD ((ap (aa a)).length-m/32) (aa a/2^m))=aa a/2^m:=by
  rw[iN,Nat.mod_eq_of_lt h32]
 have e4:=AT (kf ((ap (aa a)).length-m/32) (aa a/2^m)) (by grind[bU]);rw[e3]at e4;have hl:¬256< (ap (aa a/2^m)).length:=by
  have:=gH h32;omega
 unfold io at e4;simp only[hl,if_false]at e4;simp only[lS,rp,go_sem,apB,apA,apC,apD,e1,mO,hn,hn2,WQ ha (n:=m) (by omega) (by omega),e4,or_false,Int.toNat_natCast]
def ae(n:Nat):Nat:=if n=0 then 0 else n.log2+1
theorem bt{n k:Nat}:ae n<=k↔n<2^k:=by
 unfold ae;grind[Nat.succ_le_iff,Nat.log2_lt]
theorem GH{q k:Nat}(h:ae q<=k):ae (q+1)<=k+1:=by
 rw[bt]at h⊢;omega
theorem Zn{n k:Nat}(h:n<=k):ae (2^n-1)<=k:=bt.2 (by
 have h1:=Nat.two_pow_pos n;have h2:=Nat.pow_le_pow_right (n:=2) (by decide) h;omega)
theorem Zo(k:Nat):ae 1<=k+1:=bt.2 (Nat.one_lt_two_pow (by omega))
theorem vR{x y k:Nat}(h:x<=y)(h2:ae y<=k):ae x<=k:=bt.2 (Nat.lt_of_le_of_lt h (bt.1 h2))
theorem jr{n k:Nat}:k<ae n↔2^k<=n:=by
 have:=@bt n k;omega
theorem pp:ae 0=0:=rfl
theorem fk{n:Nat}(h:n≠0):0<ae n:=by
 rw[jr];omega
theorem kV(n k:Nat):ae (n/2^k)=ae n-k:=by
 have h:∀j,ae (n/2^k)<=j↔ae n-k<=j:=fun j=>by
  simp_all[bt,Nat.div_lt_iff_lt_mul,Nat.two_pow_pos,Nat.pow_add]
 have h1:=(h _).1 (Nat.le_refl _);have h2:=(h _).2 (Nat.le_refl _);omega
theorem dS{n:Nat}(k:Nat)(hn:n≠0):ae (n*2^k)=ae n+k:=by
 grind[kV,Nat.mul_div_cancel,Nat.two_pow_pos,ae,jr,Nat.le_mul_of_pos_left]
def UP:ByteArray:=⟨#[0,1,2,2,3,3,3,3,4,4,4,4,4,4,4,4,5,5,5,5,5,5,5,5,5,5,5,5,5,5,5,5,6,6,6,6,6,6,6,6,6,6,6,6,6,6,6,6,6,6,6,6,6,6,6,6,6,6,6,6,6,6,6,6,7,7,7,7,7,7,7,7,7,7,7,7,7,7,7,7,7,7,7,7,7,7,7,7,7,7,7,7,7,7,7,7,7,7,7,7,7,7,7,7,7,7,7,7,7,7,7,7,7,7,7,7,7,7,7,7,7,7,7,7,7,7,7,7,8,8,8,8,8,8,8,8,8,8,8,8,8,8,8,8,8,8,8,8,8,8,8,8,8,8,8,8,8,8,8,8,8,8,8,8,8,8,8,8,8,8,8,8,8,8,8,8,8,8,8,8,8,8,8,8,8,8,8,8,8,8,8,8,8,8,8,8,8,8,8,8,8,8,8,8,8,8,8,8,8,8,8,8,8,8,8,8,8,8,8,8,8,8,8,8,8,8,8,8,8,8,8,8,8,8,8,8,8,8,8,8,8,8,8,8,8,8,8,8,8,8,8,8,8,8,8,8]⟩
theorem Zp:((List.range 256).all fun x=>(UP[x]?).map (·.toNat)==some (ae x))=true:=by decide+kernel
theorem UQ{x:Nat}(h:x<256):El (.v (.string UP)) (.v (.int .u8 x))=some (.v (.int .u8 (ae x:Nat))):=by
 have:=List.all_eq_true.1 Zp x (List.mem_range.2 h);simp only[El];grind
theorem BO:Ds=.seq (.ops [0,2] [co 2 (.mv (.c (.v (.int .i64 0))))]) (.seq (.seq (.ops [0,2,4] [cm 3 0,co 4 (.bin .geq (.t 3) (.c (.v (.int .u32 65536))))]) (.cond (.t 4) (.seq (.ops [0] [cm 5 0,co 6 (.bin .shr (.t 5) (.c (.v (.int .u64 16)))),cm 0 6]) (.ops [0,2] [co 2 (.mv (.c (.v (.int .i64 16))))])) (.skip))) (.seq (.seq (.ops [0,2,8] [cm 7 0,co 8 (.bin .geq (.t 7) (.c (.v (.int .u32 256))))]) (.cond (.t 8) (.seq (.ops [0,2] [cm 9 0,co 10 (.bin .shr (.t 9) (.c (.v (.int .u64 8)))),cm 0 10]) (.ops [0,2] [cm 11 2,co 12 (.bin .add (.t 11) (.c (.v (.int .i64 8)))),cm 2 12])) (.skip))) (.seq (.ops [2] [cm 13 2,cm 14 0,co 15 (.cv .u8 (.t 14)),co 16 (.idxS (.c (.v (.string UP))) (.t 15)),co 17 (.cv .i64 (.t 16)),co 18 (.bin .add (.t 13) (.t 17)),cm 2 18]) (.ret)))):=rfl
theorem w8{i:Int}{n:Nat}(h:i=n)(hn:n<256):IntKind.u8.wrap i=n:=by grind[IntKind.wrap_u8]
theorem EI{n k:Nat}{i:Int}{kk:IntKind}{j:Int}(hi:i=n)(hj:j=k)(hk:k<=32):cO .shr (.v (.int .u32 i)) (.v (.int kk j))=some (.v (.int .u32 ((n/2^k:Nat):Int))):=by
 simp_all[Av,if_neg,IntKind.bits,Option.some.injEq,AV.v.injEq,Value.int.injEq,true_and,Int.fdiv_eq_ediv_of_nonneg,Int.pow_nonneg]
theorem zo{x:Nat}(k:Nat)(h:2^k<=x):ae x=k+ae (x/2^k):=by
 have:=kV x k;have:=jr.2 h;omega
theorem OT{x:Nat}(hx:x<4294967296):R F.bits_Len32 [U x] []=some (I (ae x:Nat),[]):=by
 refine aA OE rfl ?_;have fin:∀ {y:Nat},y<256->∀ {n:Nat},n<=24->IntKind.u8.wrap (y:Int)=y/\IntKind.i64.wrap (ae y:Int)=(ae y:Int)/\IntKind.i64.wrap ((n:Int)+(ae y:Int))=((n+ae y:Nat):Int):=fun{y} hy {n} hn=>by
  have:ae y<=8:=bt.2 hy;exact⟨w8 rfl hy,wi rfl (by omega),wi (by omega) (by omega)⟩
 have s16:=EI (n:=x) (k:=16) (kk:=.u64) (j:=16) rfl rfl (by omega);by_cases h1:65536<=x
 ·have e1:((65536:Int)<=(x:Int))=True:=tt (by omega);have b1:=zo 16 h1;have s8:=EI (n:=x/2^16) (k:=8) (kk:=.u64) (j:=8) rfl rfl (by omega);by_cases h2:256<=x/2^16
  ·have e2:((256:Int)<=((x/2^16:Nat):Int))=True:=tt (by omega);have b2:=zo 8 h2;have hy:x/2^16/2^8<256:=by omega
   obtain⟨f1,f2,f3⟩:=fin hy (n:=24) (by omega);have g:IntKind.i64.wrap (24:Int)=24:=by grind[i64_in]
   have f3':IntKind.i64.wrap ((24:Int)+(ae (x/2^16/2^8):Int))=((ae x:Nat):Int):=by grind
   simp only[j8,BO,go_sem,e1,s16,e2,s8,g,f1,UQ hy,f2,f3',Int.reduceAdd]
  ·have e2:((256:Int)<=((x/2^16:Nat):Int))=False:=ff (by omega);have hy:x/2^16<256:=by omega
   obtain⟨f1,f2,f3⟩:=fin hy (n:=16) (by omega);have f3':IntKind.i64.wrap ((16:Int)+(ae (x/2^16):Int))=((ae x:Nat):Int):=by grind
   simp only[j8,BO,go_sem,apF,apG,e1,s16,e2,f1,UQ hy,f2,f3']
 ·have e1:((65536:Int)<=(x:Int))=False:=ff (by omega);have s8:=EI (n:=x) (k:=8) (kk:=.u64) (j:=8) rfl rfl (by omega);by_cases h2:256<=x
  ·have e2:((256:Int)<=(x:Int))=True:=tt (by omega);have b2:=zo 8 h2;have hy:x/2^8<256:=by omega
   obtain⟨f1,f2,f3⟩:=fin hy (n:=8) (by omega);have g:IntKind.i64.wrap (8:Int)=8:=by grind[i64_in]
   have f3':IntKind.i64.wrap ((8:Int)+(ae (x/2^8):Int))=((ae x:Nat):Int):=by grind
   simp only[j8,BO,go_sem,apF,apG,e1,e2,s8,g,f1,UQ hy,f2,f3',Int.reduceAdd]
  ·have e2:((256:Int)<=(x:Int))=False:=ff (by omega);have hy:x<256:=by omega
   obtain⟨f1,f2,f3⟩:=fin hy (n:=0) (by omega);have f3':IntKind.i64.wrap ((0:Int)+(ae x:Int))=((ae x:Nat):Int):=by grind
   simp only[j8,BO,go_sem,apF,apG,e1,e2,f1,UQ hy,f2,f3']
theorem OU{n:Nat}(h:n≠0):ae n=32*((ap n).length-1)+ae ((ap n).getD ((ap n).length-1) 0):=by
 induction n using Nat.strongRecOn with
 |ind n ih=>
  rw[rY h,List.length_cons,Nat.add_sub_cancel];by_cases h0:n/4294967296=0
  ·rw[h0,fQ];grind
  ·have h2:(ap (n/4294967296)).length≠0:=by
    intro e;exact h0 (ke.1 (List.length_eq_zero_iff.1 e))
   have h3:=zo (x:=n) 32 (by omega);grind
theorem AX{m:List Nat}(hb:Lb m)(h1:m.length<=100000):R F.natural_Bits [lm m] []=some (I (ae (aa m):Nat),[]):=by
 refine aA JP rfl ?_;have la:=cz m hb;by_cases h:aa m=0
 ·have e1:((0:Nat):Int)=0:=rfl;simp only[oB,uD,go_sem,apB,apA,cA hb (by omega),h,fQ,e1,pp]
 ·have hne:(ap (aa m)).length≠0:=fun e=>h (ke.1 (List.length_eq_zero_iff.1 e));have e1:(((ap (aa m)).length:Int)=0)=False:=ff (by omega);have e2:IntKind.i64.wrap (((ap (aa m)).length:Int)-1)=(((ap (aa m)).length-1:Nat):Int):=wi (by omega) (by omega);have e3:IntKind.i64.wrap (32*(((ap (aa m)).length-1:Nat):Int))=((32*((ap (aa m)).length-1):Nat):Int):=wi (by omega) (by omega);have e4:aV (ax (ap (aa m))) (((ap (aa m)).length-1:Nat):Int)=some (.ipt [U ((ap (aa m)).getD ((ap (aa m)).length-1) 0:Nat)]):=bk rfl (by omega);have e5:=OT (bu (aP (aa m)) ((ap (aa m)).length-1));have e6:ae ((ap (aa m)).getD ((ap (aa m)).length-1) 0)<=32:=bt.2 (bu (aP (aa m)) _);have e7:IntKind.i64.wrap (((32*((ap (aa m)).length-1):Nat):Int)+(ae ((ap (aa m)).getD ((ap (aa m)).length-1) 0):Int))=((ae (aa m):Nat):Int):=by
   rw[OU h];exact wi (by omega) (by omega)
  simp only[oB,uD,go_sem,apB,apA,cA hb (by omega),e1,e2,e3,e4,e5,e7]
structure Rd where
 neg:Bool
 m:List Nat
 e:Int
def ak(d:Rd):List AV:=[B d.neg,lm d.m,I d.e]
def ag(d:Rd):AV:=.agg (ak d)
def aK:Rd:=⟨false,[],0⟩
def lW(n:Nat)(e:Int):Bool:=decide (n=0)|| (decide (n<=4096)&& (decide (-16384<=e)&& (decide (e<=16384)&&decide ((n:Int)+e<=16384))))
def vd(d:Rd):Bool:=if d.m.length=0 then !d.neg&&decide (d.e=0)else decide (d.m.length<=256)&& (decide (d.m.getD 0 0%2=1)&& (decide (d.m.getD (d.m.length-1) 0≠0)&&lW (ae (aa d.m)) d.e))
theorem qg{m:List Nat}(hb:Lb m)(h1:m.length<=100000):R F.dyadic_size [lm m] []=some (I (ae (aa m):Nat),[]):=by
 refine aA Mw rfl ?_;simp only[uA,Ct,go_sem,apB,apA,AX hb h1]
theorem Ia{d:Rd}(hb:Lb d.m)(h1:d.m.length<=100000):R F.dyadic_inRange [ag d] []=some (B (lW (ae (aa d.m)) d.e),[]):=by
 refine aA Gw rfl ?_;unfold lW;by_cases a1:ae (aa d.m)=0
 ·have e9:=qg hb h1;rw[a1,Int.natCast_zero]at e9;simp only[fh,ie,ag,ak,go_sem,apB,apA,apC,e9,a1]
 have e1:(((ae (aa d.m):Nat):Int)=0)=False:=ff (by omega);by_cases a2:¬ (ae (aa d.m)<=4096)
 ·have e2:(((ae (aa d.m):Nat):Int)<=4096)=False:=ff (by omega);simp only[fh,ie,ag,ak,go_sem,apB,apA,qg hb h1,e1,a1,e2,a2]
 replace a2:=Decidable.not_not.1 a2
 have e2:(((ae (aa d.m):Nat):Int)<=4096)=True:=tt (by omega);by_cases a3:¬ (-16384<=d.e)
 ·simp only[fh,ie,ag,ak,go_sem,apB,apA,qg hb h1,e1,a1,e2,a2,a3]
 replace a3:=Decidable.not_not.1 a3
 by_cases a4:¬ (d.e<=16384)
 ·simp only[fh,ie,ag,ak,go_sem,apB,apA,qg hb h1,e1,a1,e2,a2,a3,a4]
 replace a4:=Decidable.not_not.1 a4
 have e3:IntKind.i64.wrap (((ae (aa d.m):Nat):Int)+d.e)=((ae (aa d.m):Nat):Int)+d.e:=by grind[i64_in]
 simp only[fh,ie,ag,ak,go_sem,apB,apA,qg hb h1,e1,a1,e2,a2,a3,a4,e3]
def I64(n:Int):Prop:=-9223372036854775808<=n/\n<9223372036854775808
structure Ok0 (d:Rd):Prop where
 lb:Lb d.m
 len:d.m.length<4611686018427387904
theorem gu{d:Rd}(ok:Ok0 d):R F.dyadic_Valid [ag d] []=some (B (vd d),[]):=by
 refine aA JH rfl ?_;unfold vd;by_cases a0:d.m.length=0
 ·rw[if_pos a0];have e1:((d.m.length:Int)=0)=True:=tt (by omega);cases hn:d.neg with
  |true=>simp only[fl,apP,ag,ak,hn,go_sem,apB,apA,e1]
  |false=>simp only[fl,apP,ag,ak,hn,go_sem,apB,apA,e1]
 rw[if_neg a0];have e1:((d.m.length:Int)=0)=False:=ff (by omega);by_cases a1:¬d.m.length<=256
 ·have e2:((d.m.length:Int)<=256)=False:=ff (by omega);rw[decide_eq_false a1,Bool.false_and];simp only[fl,apP,ag,ak,go_sem,apB,apA,apC,e1,e2]
 replace a1:=Decidable.not_not.1 a1
 have e2:((d.m.length:Int)<=256)=True:=tt (by omega);have e3:aV (ax d.m) 0=some (.ipt [U (d.m.getD 0 0:Nat)]):=bk rfl (by omega);have e4:cO .rem (.v (.int .u32 (d.m.getD 0 0:Nat))) (.v (.int .u32 2))=some (.v (.int .u32 ((d.m.getD 0 0%2:Nat):Int))):=by
  simp_all[EF,if_neg,Int.tmod_eq_emod_of_nonneg]
 rw[decide_eq_true a1,Bool.true_and];by_cases a2:¬d.m.getD 0 0%2=1
 ·have e5:(((d.m.getD 0 0%2:Nat):Int)=1)=False:=ff (by omega);rw[decide_eq_false a2,Bool.false_and];simp only[fl,apP,ag,ak,go_sem,apB,apA,apC,e1,e2,e3,e4,e5]
 replace a2:=Decidable.not_not.1 a2
 have e5:(((d.m.getD 0 0%2:Nat):Int)=1)=True:=tt (by omega);rw[decide_eq_true a2,Bool.true_and];have e6:IntKind.i64.wrap ((d.m.length:Int)-1)=((d.m.length-1:Nat):Int):=wi (by omega) (by omega);have e7:aV (ax d.m) ((d.m.length-1:Nat):Int)=some (.ipt [U (d.m.getD (d.m.length-1) 0:Nat)]):=bk rfl (by omega);by_cases a3:d.m.getD (d.m.length-1) 0=0
 ·have e8:((d.m.getD (d.m.length-1) 0:Int)=0)=True:=tt (by omega);rw[decide_eq_false (p:=d.m.getD (d.m.length-1) 0≠0) (fun h=>h a3),Bool.false_and];simp only[fl,apP,ag,ak,go_sem,apB,apA,apC,e1,e2,e3,e4,e5,e6,e7,e8]
 have e8:((d.m.getD (d.m.length-1) 0:Int)=0)=False:=ff (by omega);rw[decide_eq_true (p:=d.m.getD (d.m.length-1) 0≠0) a3,Bool.true_and];have e9:=Ia (d:=d) ok.lb (by omega);simp only[ag,ak]at e9;simp only[fl,apP,ag,ak,go_sem,apB,apA,apC,e1,e2,e3,e4,e5,e6,e7,e8,e9]
theorem J1{d:Rd}(ok:Ok0 d):R F.dyadic_Sign [ag d] []=some (I (if vd d=false\/d.m.length=0 then 0 else if d.neg=true then-1 else 1),[]):=by
 refine aA Mn rfl ?_;have e9:=gu ok;simp only[ag,ak]at e9;cases hv:vd d with
 |false=>
  rw[hv]at e9;rw[if_pos (Or.inl rfl)];simp only[ap6,m8,ag,ak,go_sem,apB,apA,apC,e9]
 |true=>
  rw[hv]at e9;by_cases a0:d.m.length=0
  ·have e1:((d.m.length:Int)=0)=True:=tt (by omega);rw[if_pos (Or.inr a0)];simp only[ap6,m8,ag,ak,go_sem,apB,apA,apC,e9,e1]
  ·have e1:((d.m.length:Int)=0)=False:=ff (by omega);rw[if_neg (fun h=>h.elim (fun h=>nomatch h) a0)];cases hn:d.neg with
   |true=>
    rw[hn]at e9;simp only[ap6,m8,ag,ak,hn,go_sem,apB,apA,apC,e9,e1]
   |false=>
    rw[hn]at e9;simp only[ap6,m8,ag,ak,hn,go_sem,apB,apA,apC,e9,e1]
theorem UR(m:List Nat)(h2:m.length<4611686018427387904):∀ (n:Nat),n<=m.length->∀ (s:af) (h:ac),s 0=lm m->s 3=I n->
  am 0 [0,3] (aD (aj R (aH false) gX) [0,3] [] s h)=some (.normal,⟨upd (upd (fun _=>.any) 3 (I (jk m n))) 0 (lm m),fun _=>.dead⟩):=by
 intro n;induction n with
 |zero=>
  intro h1 s h h3 h4;rw[ai];simp only[gX,go_sem,h3,h4,jk,Int.natCast_zero,Int.lt_irrefl]
 |succ n ih=>
  intro h1 s h h3 h4;have hn:n<m.length:=h1;have e3:IntKind.i64.wrap ((n:Int)+1-1)=n:=wi (by omega) (by omega);have e1:aV (ax m) (n:Int)=some (.ipt [U (m.getD n 0:Nat)]):=bk rfl hn;have e2:((0:Int)< (n:Int)+1)=True:=eq_true (by omega);have ih':=ih (by omega);rw[ai];by_cases hz:m.getD n 0=0
  ·simp only[gX,go_sem,h3,h4,jk,Int.natCast_add,Int.natCast_one,e3,e1,e2,hz,Int.natCast_zero];exact ih' _ _ rfl rfl
  ·simp only[gX,go_sem,h3,h4,jk,Int.natCast_add,Int.natCast_one,e3,e1,e2,hz,Int.natCast_eq_zero]
theorem OV{m:List Nat}(hb:Lb m)(h:m.length<4611686018427387904):R F.dyadic_trimmed [lm m] []=some (lm (ap (aa m)),[]):=by
 refine aA Gz rfl ?_;have h1:gh 1 (lm m) none (some (I (jk m m.length:Nat))) none=some (lm (ap (aa m))):=by
  rw[DE (a:=0) (b:=jk m m.length) rfl (pk rfl (yg _ _)) (yg _ _),List.drop_zero,Nat.sub_zero,Gk hb]
 simp only[qE,x5,go_sem,UR m h m.length (Nat.le_refl _),h1]
theorem Ah{e:Int}:R F.dyadic_exponent [I e] []=some (B (decide (-32768<=e)&&decide (e<=32768)),[]):=by
 refine aA Fq rfl ?_;by_cases a1:¬ (-32768<=e)
 ·simp only[kK,qI,go_sem,a1]
 replace a1:=Decidable.not_not.1 a1
 simp only[kK,qI,go_sem,a1]
theorem Ib{d:Rd}(hb:Lb d.m)(h1:d.m.length<=100000):R F.dyadic_checked [ag d] []=some (if lW (ae (aa d.m)) d.e=true then .tup [ag d,I 0]else .tup [ag aK,I 9],[]):=by
 refine aA Gy rfl ?_;have e9:=Ia hb h1;simp only[ag,ak]at e9;cases hv:lW (ae (aa d.m)) d.e with
 |false=>
  rw[hv]at e9;simp only[lv,rF,ag,ak,aK,go_sem,apB,apA,apC,e9]
 |true=>
  rw[hv]at e9;simp only[lv,rF,ag,ak,go_sem,apB,apA,apC,e9]
theorem OW(h:ac)(m:List Nat):pE h 1 (lm m)=some (ax m):=Y7 h 1 _
theorem GI{m:List Nat}(h0:m≠[])(h1:m.length<=100000):R F.slices_Clone_uint32_uint32_ [lm m] []=some (lm m,[]):=by
 refine aA tL rfl ?_;have e1:Ek false (lm m)=some (B false):=by
  cases m with
  |nil=>grind
  |cons x m=>rfl
 have e2:((True\/False)/\(0+m.length)*4<=140737488355328)=True:=eq_true ⟨Or.inl trivial,by omega⟩;have e3:(0+(0+m.length)<=m.length)=True:=eq_true (by omega);have e4:(0+m.length=m.length)=True:=eq_true (by omega);simp only[gq,kZ,go_sem,apC,apD,e1,OW,e2,e3,e4]
theorem Ai:dv.E F.bits_TrailingZeros32=some tzF:=by kernel_rfl
theorem DH{x:Nat}(h:x≠0)(hx:x<4294967296):R F.bits_TrailingZeros32 [U x] []=some (I (tz x:Nat),[]):=by
 unfold R;rw[BC Ai];show(if 0< (x:Int)/\(x:Int)<4294967296/\([]:List Ob)=[]then some (I (Ly 32 (x:Int).toNat:Nat),([]:List Ob))else none)=_;rw[if_pos ⟨by omega,by omega,rfl⟩,Int.toNat_natCast,adu 32 x h (by omega)]
theorem Zq(m:List Nat)(hb:Lb m)(h2:m.length<=100000):∀ (k i:Nat),i+k=m.length->aa (m.drop i)≠0->∀ (s:af) (h:ac),s 6=lm m->s 7=I m.length->s 8=I i->s 3=I (32*i:Nat)->
  am 0 [3] (aD (aj R (aH false) oE) [3,6,7,8] [] s h)=some (.ret,⟨upd (fun _=>.any) 2 (I (32*i+tz (aa (m.drop i)):Nat)),fun _=>.dead⟩):=by
 intro k;induction k with
 |zero=>
  intro i hi hv;rw[List.drop_eq_nil_of_le (by omega)]at hv;exact absurd rfl hv
 |succ k ih=>
  intro i hi hv s h h6 h7 h8 h3;have e1:((i:Int)<m.length)=True:=tt (by omega);have e2:aV (ax m) (i:Int)=some (.ipt [U (m.getD i 0:Nat)]):=bk rfl (by omega);have hx:m.getD i 0<4294967296:=bu hb i;rw[dF]at hv;rw[ai];have e4:IntKind.i64.wrap (((32*i:Nat):Int)+32)=((32*(i+1):Nat):Int):=wi (by omega) (by omega);have e5:IntKind.i64.wrap ((i:Int)+1)=((i+1:Nat):Int):=wi (by omega) (by omega);by_cases hz:m.getD i 0=0
  ·have e3:((m.getD i 0:Int)=0)=True:=tt (by omega);have hv':aa (m.drop (i+1))≠0:=by
    omega
   have ih':=ih (i+1) (by omega) hv';have e6:tz (aa (m.drop i))=32+tz (aa (m.drop (i+1))):=by
    rw[dF,hz,Nat.zero_add];exact HT 32 hv'
   have e7:32*i+tz (aa (m.drop i))=32*(i+1)+tz (aa (m.drop (i+1))):=by omega
   rw[e7];simp only[oE,go_sem,h3,h6,h7,h8,e1,e2,e3,e4,e5];exact ih' _ _ rfl rfl rfl rfl
  ·have e3:((m.getD i 0:Int)=0)=False:=ff (by omega);have e6:tz (aa (m.drop i))=tz (m.getD i 0):=by
    rw[dF];exact adt (k:=32) _ hz hx
   have e8:tz (m.getD i 0)<32:=MU (k:=32) hz hx;have e7:IntKind.i64.wrap (((32*i:Nat):Int)+(tz (m.getD i 0):Nat))=((32*i+tz (m.getD i 0):Nat):Int):=wi (by omega) (by omega);rw[e6];simp only[oE,go_sem,apB,apA,h3,h6,h7,h8,e1,e2,e3,DH hz hx,e7]
theorem adA{m:List Nat}(hb:Lb m)(h1:m.length<=100000)(hv:aa m≠0):R F.dyadic_low [lm m] []=some (I (tz (aa m):Nat),[]):=by
 refine aA OB rfl ?_;have h3:=Zq m hb h1 m.length 0 (Nat.zero_add _) hv;simp only[Nat.mul_zero,Nat.zero_add,List.drop_zero,Int.natCast_zero]at h3;simp only[wt,Dq,go_sem];rw[h3 _ _ rfl rfl rfl rfl];simp only[go_sem]
def bA(neg:Bool)(M:Nat)(e:Int):Rd:=if M=0 then aK else⟨neg,ap (M/2^tz M),e+tz M⟩
def Exq(e:Int):Prop:=-1000000<=e/\e<=1000000
theorem yt{neg:Bool}{m:List Nat}{e:Int}(hb:Lb m)(h1:m.length<=256)(he:Exq e):R F.dyadic_canonical [B neg,lm m,I e] []=some (ag (bA neg (aa m) e),[]):=by
 refine aA DC rfl ?_;obtain⟨he1,he2⟩:=he;unfold bA;by_cases h0:aa m=0
 ·have hd:R F.dyadic_trimmed [lm m] []=some (lm [],[]):=by
   grind[OV,fQ]
  rw[if_pos h0];simp only[jU,pg,ag,ak,aK,go_sem,apB,apA,apC,hd,List.length_nil,Int.natCast_zero]
 have hn:ap (aa m)≠[]:=fun h=>h0 (ke.1 h);have hl:0< (ap (aa m)).length:=by
  grind
 have hl2:(ap (aa m)).length<=256:=Nat.le_trans (cz m hb) h1;have hdb:Lb (ap (aa m)):=aP _;have e1:(((ap (aa m)).length:Int)=0)=False:=ff (by omega);have ht:tz (aa m)<32*256:=MU (k:=32*256) h0 (by
  have:=bQ hb;have h3:4294967296^m.length<=4294967296^256:=Nat.pow_le_pow_right (by decide) h1;omega)
 have hlow:=adA hdb (by omega) (by grind[aL]);rw[aL]at hlow;have hs:=WR (n:=(tz (aa m):Nat)) hdb hl2;rw[if_neg (by omega),aL,Int.toNat_natCast]at hs;have hq:ap (aa m/2^tz (aa m))≠[]:=by
  intro h;have:=(uK h0).2;rw[ke.1 h]at this;omega
 have hq2:(ap (aa m/2^tz (aa m))).length<=100000:=by
  have h5:(ap (aa m/2^tz (aa m))).length<=m.length:=gH (Nat.lt_of_le_of_lt (Nat.div_le_self _ _) (bQ hb));omega
 have hc:=GI hq hq2;have e2:IntKind.i64.wrap (e+(tz (aa m):Nat))=e+(tz (aa m):Nat):=by grind[i64_in]
 rw[if_neg h0];simp only[jU,pg,ag,ak,go_sem,apB,apA,apC,OV hb (Nat.lt_of_le_of_lt h1 (by decide)),e1,hlow,hs,hc,JY,e2]
theorem vS{d:Rd}(h:vd d=true)(h0:d.m.length≠0):d.m.length<=256/\d.m.getD 0 0%2=1/\d.m.getD (d.m.length-1) 0≠0/\lW (ae (aa d.m)) d.e=true:=by
 simp_all[vd,if_neg,Bool.and_eq_true,decide_eq_true_eq]
theorem AY{d:Rd}(h:vd d=true)(h0:d.m.length=0):d=aK:=by
 unfold vd at h;obtain⟨n,m,e⟩:=d;grind[aK]
theorem EJ{n:Nat}{e:Int}(h:lW n e=true)(h0:n≠0):n<=4096∧-16384<=e/\e<=16384/\(n:Int)+e<=16384:=by
 simp_all[lW,Bool.or_eq_true,Bool.and_eq_true,decide_eq_true_eq]
theorem dT{d:Rd}(h:vd d=true)(_hb:Lb d.m):d.m.length<=256∧-16384<=d.e/\d.e<=16384/\ae (aa d.m)<=4096:=by
 by_cases h0:d.m.length=0
 ·rw[AY h h0];exact⟨by decide,by decide,by decide,by decide⟩
 obtain⟨h1,h2,h3,h4⟩:=vS h h0;have hv:aa d.m≠0:=by
  have:=dF d.m 0;grind
 have hn:ae (aa d.m)≠0:=by
  grind[fk]
 obtain⟨h5,h6,h7,h8⟩:=EJ h4 hn;omega
def aR(d:Rd):Int:=if vd d=false\/d.m.length=0 then 0 else(ae (aa d.m):Nat)+d.e
theorem AZ{d:Rd}(ok:Ok0 d):R F.dyadic_Top [ag d] []=some (I (aR d),[]):=by
 refine aA Oy rfl ?_;have e9:=gu ok;simp only[ag,ak]at e9;unfold aR;cases hv:vd d with
 |false=>
  rw[hv]at e9;rw[if_pos (Or.inl rfl)];simp only[nc,sU,ag,ak,go_sem,apB,apA,apC,e9]
 |true=>
  rw[hv]at e9;by_cases a0:d.m.length=0
  ·have e1:((d.m.length:Int)=0)=True:=tt (by omega);rw[if_pos (Or.inr a0)];simp only[nc,sU,ag,ak,go_sem,apB,apA,apC,e9,e1]
  ·have e1:((d.m.length:Int)=0)=False:=ff (by omega);rw[if_neg (fun h=>h.elim (fun h=>nomatch h) a0)];obtain⟨h1,h2,h3,h4⟩:=dT hv ok.lb;have e2:IntKind.i64.wrap (((ae (aa d.m):Nat):Int)+d.e)=((ae (aa d.m):Nat):Int)+d.e:=by grind[i64_in]
   simp only[nc,sU,ag,ak,go_sem,apB,apA,apC,apD,apE,e9,e1,qg ok.lb (Nat.le_trans h1 (by decide)),e2]
theorem OX{d:Rd}(ok:Ok0 d):R F.dyadic_Bits [ag d] []=some (I (if vd d=true then(ae (aa d.m):Nat)else 0),[]):=by
 refine aA MJ rfl ?_;have e9:=gu ok;simp only[ag,ak]at e9;cases hv:vd d with
 |false=>
  rw[hv]at e9;simp only[p7,ww,ag,ak,go_sem,apB,apA,apC,e9]
 |true=>
  rw[hv]at e9;obtain⟨h1,h2,h3,h4⟩:=dT hv ok.lb;simp only[p7,ww,ag,ak,go_sem,apB,apA,apC,e9,qg ok.lb (Nat.le_trans h1 (by decide))]
theorem DI{d:Rd}(ok:Ok0 d):R F.dyadic_Neg [ag d] []=some (ag (if vd d=false\/d.m.length=0 then aK else⟨!d.neg,d.m,d.e⟩),[]):=by
 refine aA OA rfl ?_;have e9:=gu ok;simp only[ag,ak]at e9;cases hv:vd d with
 |false=>
  rw[hv]at e9;rw[if_pos (Or.inl rfl)];simp only[ni,s7,ag,ak,aK,go_sem,apB,apA,apC,e9]
 |true=>
  rw[hv]at e9;by_cases a0:d.m.length=0
  ·have e1:((d.m.length:Int)=0)=True:=tt (by omega);rw[if_pos (Or.inr a0)];simp only[ni,s7,ag,ak,aK,go_sem,apB,apA,apC,e9,e1]
  ·have e1:((d.m.length:Int)=0)=False:=ff (by omega);rw[if_neg (fun h=>h.elim (fun h=>nomatch h) a0)];obtain⟨h1,h2,h3,h4⟩:=dT hv ok.lb;have hc:=GI (m:=d.m) (fun h=>a0 (by grind)) (Nat.le_trans h1 (by decide));simp only[ni,s7,ag,ak,go_sem,apB,apA,apC,apD,apE,e9,e1,hc]
theorem Ic{d:Rd}(ok:Ok0 d):R F.dyadic_Abs [ag d] []=some (ag (if vd d=false\/d.m.length=0 then aK else⟨false,d.m,d.e⟩),[]):=by
 refine aA OF rfl ?_;have e9:=gu ok;simp only[ag,ak]at e9;cases hv:vd d with
 |false=>
  rw[hv]at e9;rw[if_pos (Or.inl rfl)];simp only[nu,tq,ag,ak,aK,go_sem,apB,apA,apC,e9]
 |true=>
  rw[hv]at e9;by_cases a0:d.m.length=0
  ·have e1:((d.m.length:Int)=0)=True:=tt (by omega);rw[if_pos (Or.inr a0)];simp only[nu,tq,ag,ak,aK,go_sem,apB,apA,apC,e9,e1]
  ·have e1:((d.m.length:Int)=0)=False:=ff (by omega);rw[if_neg (fun h=>h.elim (fun h=>nomatch h) a0)];obtain⟨h1,h2,h3,h4⟩:=dT hv ok.lb;have hc:=GI (m:=d.m) (fun h=>a0 (by grind)) (Nat.le_trans h1 (by decide));simp only[nu,tq,ag,ak,go_sem,apB,apA,apC,apD,apE,e9,e1,hc]
theorem Ie{m:List Nat}(hb:Lb m)(h1:m.length<=256){k:Nat}(hk:k<=65536)(hl:(ap (aa m*2^k)).length<=256):R F.dyadic_shifted [lm m,I k] []=some (lm (ap (aa m*2^k)),[]):=by
 refine aA Gx rfl ?_;have hs:=WP (n:=(k:Nat)) hb h1;rw[if_neg (by omega),Int.toNat_natCast,io,if_neg (by omega)]at hs;simp only[qD,xW,go_sem,apB,apA,apC,hs]
theorem abu{neg:Bool}{m:List Nat}{e:Int}(hb:Lb m)(hl:m.length<4611686018427387904):R F.dyadic_Make [B neg,lm m,I e] []=some (if 256<m.length\/e< -32768\/32768<e then .tup [ag aK,I 1]
  else if lW (ae (aa (bA neg (aa m) e).m)) (bA neg (aa m) e).e=true then .tup [ag (bA neg (aa m) e),I 0]else .tup [ag aK,I 9],[]):=by
 refine aA MK rfl ?_;by_cases a1:256<m.length
 ·have e1:((256:Int)<m.length)=True:=tt (by omega);rw[if_pos (Or.inl a1)];simp only[jp,nv,ag,ak,aK,go_sem,apB,apA,apC,e1]
 have e1:((256:Int)<m.length)=False:=ff (by omega);by_cases a2:e< -32768\/32768<e
 ·have e2:(decide (-32768<=e)&&decide (e<=32768))=false:=by
   grind
  rw[if_pos (Or.inr a2)];simp only[jp,nv,ag,ak,aK,go_sem,apB,apA,apC,e1,Ah,e2]
 have e2:(decide (-32768<=e)&&decide (e<=32768))=true:=by
  grind
 rw[if_neg (fun h=>h.elim a1 a2)];have hc:=yt (neg:=neg) (e:=e) hb (by omega) ⟨by omega,by omega⟩;have hL:Lb (bA neg (aa m) e).m:=by
  unfold bA;split
  ·exact fun x hx=>nomatch hx
  grind[aP]
 have hN:(bA neg (aa m) e).m.length<=100000:=by
  unfold bA;split
  ·exact Nat.zero_le _
  ·have h5:(ap (aa m/2^tz (aa m))).length<=m.length:=gH (Nat.lt_of_le_of_lt (Nat.div_le_self _ _) (bQ hb));grind
 have hd:=Ib hL hN;generalize bA neg (aa m) e=d at hc hd⊢;simp only[ag,ak]at hc hd;cases hv:lW (ae (aa d.m)) d.e with
 |false=>
  rw[hv,if_neg (fun h=>nomatch h)]at hd;simp only[jp,nv,ag,ak,aK,go_sem,apB,apA,apC,e1,Ah,e2,hc,hd]
 |true=>
  rw[hv,if_pos rfl]at hd;simp only[jp,nv,ag,ak,go_sem,apB,apA,apC,e1,Ah,e2,hc,hd]
def mg(d:Rd):Nat:=aa d.m*2^ (d.e+16384).toNat
def zI(d:Rd):Int:=if d.neg=true then-(mg d:Int)else mg d
theorem Zr{x y k:Nat}(hk:0<k):bE (x*k) (y*k)=bE x y:=by
 simp_all[bE,Nat.mul_lt_mul_right,if_pos,if_neg]
theorem BP{x y:Nat}(h:ae x<ae y):x<y:=by
 have h1:=(bt (n:=x) (k:=ae x)).1 (Nat.le_refl _);have h2:=jr.1 h;omega
theorem dy{d:Rd}(h:vd d=true)(h0:d.m.length≠0):aa d.m≠0:=by
 obtain⟨h1,h2,h3,h4⟩:=vS h h0;have:=dF d.m 0;grind
theorem A3{d:Rd}(h:vd d=true)(hb:Lb d.m)(h0:d.m.length≠0):(ae (mg d):Int)=aR d+16384:=by
 obtain⟨h1,h2,h3,h4⟩:=dT h hb;unfold mg aR;rw[dS _ (dy h h0),if_neg (fun h'=>h'.elim (fun h''=>by grind) h0)];omega
theorem BQ{d:Rd}{e:Int}(h1:-16384<=e)(h2:e<=d.e):mg d=aa d.m*2^ (d.e-e).toNat*2^ (e+16384).toNat:=by
 unfold mg;rw[Nat.mul_assoc,←Nat.pow_add];grind
theorem aS{n k:Nat}(h:ae n<=32*k):(ap n).length<=k:=by
 refine gH ?_;have:=bt.1 h;grind[Nat.pow_mul]
theorem US{a b:Rd}(oa:Ok0 a)(ob:Ok0 b)(va:vd a=true)(vb:vd b=true)(na:a.m.length≠0)(nb:b.m.length≠0):R F.dyadic_compare [ag a,ag b] []=some (I (bE (mg a) (mg b)),[]):=by
 refine aA Gn rfl ?_;have ta:=AZ oa;have tb:=AZ ob;have ba:=A3 va oa.lb na;have bb:=A3 vb ob.lb nb;simp only[ag,ak]at ta tb;by_cases h1:aR a<aR b
 ·have h2:bE (mg a) (mg b)=-1:=by
   rw[bE,if_pos (BP (by omega))]
  have e1:(aR a<aR b)=True:=tt h1;rw[h2];simp only[iV,mB,ag,ak,go_sem,apB,apA,apC,apD,apE,ta,tb,e1]
 have e1:(aR a<aR b)=False:=ff h1;by_cases h2:aR b<aR a
 ·have h3:bE (mg a) (mg b)=1:=by
   have:=BP (x:=mg b) (y:=mg a) (by omega);rw[bE,if_neg (by omega),if_pos this]
  have e2:(aR b<aR a)=True:=tt h2;rw[h3];simp only[iV,mB,ag,ak,go_sem,apB,apA,apC,apD,apE,ta,tb,e1,e2]
 have e2:(aR b<aR a)=False:=ff h2;obtain⟨a1,a2,a3,a4⟩:=dT va oa.lb;obtain⟨b1,b2,b3,b4⟩:=dT vb ob.lb;obtain⟨e,hm⟩:∃e,(if b.e<a.e then b.e else a.e)=e:=⟨_,rfl⟩;have hea:e<=a.e/\e<=b.e/\(e=a.e\/e=b.e):=by
  omega
 obtain⟨m1,m2,m3⟩:=hea;have ka:IntKind.i64.wrap (a.e-e)=(((a.e-e).toNat:Nat):Int):=wi (by omega) (by omega);have kb:IntKind.i64.wrap (b.e-e)=(((b.e-e).toNat:Nat):Int):=wi (by omega) (by omega);have hta:aR a=(ae (aa a.m):Nat)+a.e:=by
  simp_all[aR,if_neg]
 have htb:aR b=(ae (aa b.m):Nat)+b.e:=by
  simp_all[aR,if_neg]
 have la:(ap (aa a.m*2^ (a.e-e).toNat)).length<=256:=aS (by
  grind[dS,dy])
 have lb:(ap (aa b.m*2^ (b.e-e).toNat)).length<=256:=aS (by
  grind[dS,dy])
 have sa:=Ie oa.lb a1 (k:=(a.e-e).toNat) (by omega) la;have sb:=Ie ob.lb b1 (k:=(b.e-e).toNat) (by omega) lb;have hc:=vQ (aP (aa a.m*2^ (a.e-e).toNat)) (aP (aa b.m*2^ (b.e-e).toNat)) (Nat.le_trans la (by decide)) (Nat.le_trans lb (by decide));rw[aL,aL,←Zr (k:=2^ (e+16384).toNat) (Nat.two_pow_pos _),←BQ (by omega) m1,←BQ (by omega) m2]at hc;simp only[iV,mB,ag,ak,go_sem,apB,apA,apC,apD,apE,ta,tb,e1,e2,hm,ka,kb,sa,sb,hc]
def bD(x y:Int):Int:=if x<y then-1 else if y<x then 1 else 0
def bS(d:Rd):Int:=if d.m.length=0 then 0 else if d.neg=true then-1 else 1
theorem J2{d:Rd}(h0:d.m.length=0):mg d=0:=by
 unfold mg;rw[List.length_eq_zero_iff.1 h0];exact Nat.zero_mul _
theorem A4{d:Rd}(h:vd d=true)(h0:d.m.length≠0):0<mg d:=
 Nat.mul_pos (Nat.pos_of_ne_zero (dy h h0)) (Nat.two_pow_pos _)
theorem BR(d:Rd)(h:vd d=true):(bS d=0/\zI d=0/\d.m.length=0)\/(bS d=-1/\zI d=-(mg d:Int)/\0<mg d/\d.m.length≠0)\/(bS d=1/\zI d=mg d/\0<mg d/\d.m.length≠0):=by
 unfold bS zI;by_cases h0:d.m.length=0
 ·grind[J2]
 ·have:=A4 h h0;grind
theorem yu{d:Rd}(ok:Ok0 d)(hv:vd d=true):R F.dyadic_Sign [ag d] []=some (I (bS d),[]):=by
 simp_all[J1,bS,if_pos,if_neg]
theorem qh{a b:Rd}(oa:Ok0 a)(ob:Ok0 b):R F.dyadic_Cmp [ag a,ag b] []=some (I (if vd a=true/\vd b=true then bD (zI a) (zI b)else 0),[]):=by
 refine aA Oo rfl ?_;have va:=gu oa;have vb:=gu ob;simp only[ag,ak]at va vb;cases ha:vd a with
 |false=>
  rw[ha]at va;simp only[gE,aqb,ag,ak,go_sem,apB,apA,apC,va]
 |true=>
 rw[ha]at va;cases hb:vd b with
 |false=>
  rw[hb]at vb;simp only[gE,aqb,ag,ak,go_sem,apB,apA,apC,va,vb]
 |true=>
 rw[hb]at vb;have sa:=yu oa ha;have sb:=yu ob hb;have ca:=BR a ha;have cb:=BR b hb;simp only[ag,ak]at sa sb;by_cases h1:bS a<bS b
 ·have e1:(bS a<bS b)=True:=tt h1;have e2:bD (zI a) (zI b)=-1:=if_pos (by omega);rw[e2];simp only[gE,aqb,ag,ak,go_sem,apB,apA,apC,apD,apE,va,vb,sa,sb,e1]
 have e1:(bS a<bS b)=False:=ff h1;by_cases h2:bS b<bS a
 ·have e2:(bS b<bS a)=True:=tt h2;have e3:bD (zI a) (zI b)=1:=by rw[bD,if_neg (by omega),if_pos (by omega)]
  rw[e3];simp only[gE,aqb,ag,ak,go_sem,apB,apA,apC,apD,apE,va,vb,sa,sb,e1,e2]
 have e2:(bS b<bS a)=False:=ff h2;by_cases h3:bS a=0
 ·have e3:(bS a=0)=True:=tt h3;have e4:bD (zI a) (zI b)=0:=by rw[bD,if_neg (by omega),if_neg (by omega)]
  rw[e4];simp only[gE,aqb,ag,ak,go_sem,apB,apA,apC,apD,apE,va,vb,sa,sb,e1,e2,e3]
 have e3:(bS a=0)=False:=ff h3;have hc:=US oa ob ha hb (by omega) (by omega);simp only[ag,ak]at hc;have e4:IntKind.i64.wrap (bS a*bE (mg a) (mg b))=bD (zI a) (zI b):=by
  have hp:bS a*bE (mg a) (mg b)=bD (zI a) (zI b):=by
   rcases ca with ca|ca|ca
   ·omega
   ·rw[ca.1,ca.2.1];unfold bE bD;omega
   ·rw[ca.1,ca.2.1];unfold bE bD;omega
  rw[hp];unfold bD;split
  ·decide
  ·split<;>decide
 simp only[gE,aqb,ag,ak,go_sem,apB,apA,apC,apD,apE,va,vb,sa,sb,e1,e2,e3,hc,e4]
theorem DJ(x y:Nat):ae (x*y)<=ae x+ae y:=by
 rw[bt,Nat.pow_add];exact Nat.mul_lt_mul'' (bt.1 (Nat.le_refl _)) (bt.1 (Nat.le_refl _))
theorem uO(neg:Bool)(M:Nat)(e:Int):Lb (bA neg M e).m:=by
 unfold bA;split
 ·exact fun x hx=>nomatch hx
 grind[aP]
theorem BS{neg:Bool}{M:Nat}{e:Int}{k:Nat}(h:ae M<=32*k):(bA neg M e).m.length<=k:=by
 unfold bA;split
 ·exact Nat.zero_le _
 ·refine aS ?_;grind[kV]
def BT(d:Rd):AV:=if lW (ae (aa d.m)) d.e=true then .tup [ag d,I 0]else .tup [ag aK,I 9]
def MW(a b:Rd):AV:=if vd a=true/\vd b=true then if a.m.length=0\/b.m.length=0 then .tup [ag aK,I 0]else if 4096<ae (aa a.m)+ae (aa b.m)-1 then .tup [ag aK,I 9]else BT (bA (a.neg !=b.neg) (aa a.m*aa b.m) (a.e+b.e))else .tup [ag aK,I 1]
theorem tw(a b:Bool):(true != (a==b))=(a !=b):=by cases a<;>cases b<;>rfl
theorem abv{a b:Rd}(oa:Ok0 a)(ob:Ok0 b):R F.dyadic_Mul [ag a,ag b] []=some (MW a b,[]):=by
 refine aA Ow rfl ?_;unfold MW;have va:=gu oa;have vb:=gu ob;simp only[ag,ak]at va vb;cases ha:vd a with
 |false=>
  rw[ha]at va;simp only[fJ,ir,ag,ak,aK,go_sem,apB,apA,apC,va]
 |true=>
 rw[ha]at va;cases hb:vd b with
 |false=>
  rw[hb]at vb;simp only[fJ,ir,ag,ak,aK,go_sem,apB,apA,apC,va,vb]
 |true=>
 rw[hb]at vb;rw[if_pos ⟨rfl,rfl⟩];by_cases a0:a.m.length=0
 ·have e1:((a.m.length:Int)=0)=True:=tt (by omega);rw[if_pos (Or.inl a0)];simp only[fJ,ir,ag,ak,aK,go_sem,apB,apA,apC,va,vb,e1]
 have e1:((a.m.length:Int)=0)=False:=ff (by omega);by_cases b0:b.m.length=0
 ·have e2:((b.m.length:Int)=0)=True:=tt (by omega);rw[if_pos (Or.inr b0)];simp only[fJ,ir,ag,ak,aK,go_sem,apB,apA,apC,va,vb,e1,e2]
 have e2:((b.m.length:Int)=0)=False:=ff (by omega);rw[if_neg (fun h=>h.elim a0 b0)];obtain⟨a1,a2,a3,a4⟩:=dT ha oa.lb;obtain⟨b1,b2,b3,b4⟩:=dT hb ob.lb;have za:=qg oa.lb (Nat.le_trans a1 (by decide));have zb:=qg ob.lb (Nat.le_trans b1 (by decide));have pa:=fk (dy ha a0);have w1:IntKind.i64.wrap (((ae (aa a.m):Nat):Int)+(ae (aa b.m):Nat))=((ae (aa a.m)+ae (aa b.m):Nat):Int):=wi (by omega) (by omega);have w2:IntKind.i64.wrap (((ae (aa a.m)+ae (aa b.m):Nat):Int)-1)=((ae (aa a.m)+ae (aa b.m)-1:Nat):Int):=wi (by omega) (by omega);by_cases c0:4096<ae (aa a.m)+ae (aa b.m)-1
 ·have e3:((4096:Int)< ((ae (aa a.m)+ae (aa b.m)-1:Nat):Int))=True:=tt (by omega);rw[if_pos c0];simp only[fJ,ir,ag,ak,aK,go_sem,apB,apA,apC,apD,apE,va,vb,e1,e2,za,zb,w1,w2,e3]
 have e3:((4096:Int)< ((ae (aa a.m)+ae (aa b.m)-1:Nat):Int))=False:=ff (by omega);rw[if_neg c0];have hp:=DJ (aa a.m) (aa b.m);have hl:(ap (aa a.m*aa b.m)).length<=129:=aS (by omega);have hm:=WO oa.lb ob.lb a1 b1;rw[io,if_neg (by omega)]at hm;have w3:IntKind.i64.wrap (a.e+b.e)=a.e+b.e:=i64_in _ ⟨by omega,by omega⟩;have hc:=yt (neg:=a.neg !=b.neg) (e:=a.e+b.e) (aP (aa a.m*aa b.m)) (Nat.le_trans hl (by decide)) ⟨by omega,by omega⟩;rw[aL]at hc;have hd:=Ib (uO (a.neg !=b.neg) (aa a.m*aa b.m) (a.e+b.e)) (Nat.le_trans (BS (k:=129) (by omega)) (by decide));unfold BT;generalize bA (a.neg !=b.neg) (aa a.m*aa b.m) (a.e+b.e)=d at hc hd⊢;simp only[ag,ak]at hc hd;cases hv:lW (ae (aa d.m)) d.e with
 |false=>
  rw[hv,if_neg (fun h=>nomatch h)]at hd;rw[if_neg (fun h=>nomatch h)];simp only[fJ,ir,ag,ak,aK,go_sem,apB,apA,apC,apD,apE,va,vb,e1,e2,za,zb,w1,w2,w3,e3,hm,tw,hc,hd]
 |true=>
  rw[hv,if_pos rfl]at hd;rw[if_pos rfl];simp only[fJ,ir,ag,ak,go_sem,apB,apA,apC,apD,apE,va,vb,e1,e2,za,zb,w1,w2,w3,e3,hm,tw,hc,hd]
theorem If{p:Int}:R F.round_precise [I p] []=some (B (decide (8<=p)&&decide (p<=512)),[]):=by
 refine aA H4 rfl ?_;by_cases a1:¬ (8<=p)
 ·simp only[mL,tl,go_sem,a1]
 replace a1:=Decidable.not_not.1 a1
 simp only[mL,tl,go_sem,a1]
theorem BU{m:List Nat}(hb:Lb m):ae (aa m)<=32*m.length:=by
 rw[bt,Nat.pow_mul];exact bQ hb
def qW(m:List Nat)(e:Int)(more:Bool):AV:=.agg [lm m,I e,B more]
theorem agj{d:Rd}:R F.round_of [ag d] []=some (qW d.m d.e false,[]):=by
 refine aA UM rfl ?_;simp only[Ae,HP,ag,ak,qW,go_sem,apB,apA,apC]
theorem uP{m:List Nat}(hb:Lb m)(h1:m.length<=256){k:Nat}(hk:k<=65536)(hl:(ap (aa m*2^k)).length<=256):R F.round_shl [lm m,I k] []=some (lm (ap (aa m*2^k)),[]):=by
 refine aA RF rfl ?_;have hs:=WP (n:=(k:Nat)) hb h1;rw[if_neg (by omega),Int.toNat_natCast,io,if_neg (by omega)]at hs;simp only[ya,FV,go_sem,apB,apA,apC,hs]
theorem WS{x y:Nat}:bE x y=0↔x=y:=by
 unfold bE;constructor
 ·intro h;split at h
  ·exact nomatch h
  ·split at h
   ·exact nomatch h
   ·omega
 ·intro h;rw[if_neg (by omega),if_neg (by omega)]
theorem Zs{x n:Nat}:x/2^ (min n (ae x))=x/2^n/\(x/2^ (min n (ae x))*2^ (min n (ae x))=x↔x%2^n=0):=by
 by_cases h:n<=ae x
 ·rw[Nat.min_eq_left h];refine⟨rfl,?_⟩;have:=Nat.div_add_mod x (2^n);rw[Nat.mul_comm]at this;omega
 ·have hb:x<2^ae x:=bt.1 (Nat.le_refl _);have hn:x<2^n:=bt.1 (by omega);rw[Nat.min_eq_right (by omega),Nat.div_eq_of_lt hb,Nat.div_eq_of_lt hn,Nat.mod_eq_of_lt hn,Nat.zero_mul];exact⟨rfl,⟨fun h=>h.symm,fun h=>h.symm⟩⟩
theorem Sm{m:List Nat}(hb:Lb m)(h1:m.length<=256){n:Nat}(hn:n<4611686018427387904):R F.round_shr [lm m,I n] []=some (.tup [lm (ap (aa m/2^n)),B (decide (aa m%2^n≠0))],[]):=by
 refine aA RG rfl ?_;have hB:=AX hb (Nat.le_trans h1 (by decide));have hlen:=BU hb;obtain⟨q1,q2⟩:=Zs (x:=aa m) (n:=n);generalize hk:min n (ae (aa m))=k at q1 q2;have k1:k<=8192:=by omega
 have hs:=WR (n:=(k:Nat)) hb h1;rw[if_neg (by omega),Int.toNat_natCast,q1]at hs;rw[q1]at q2;have hle:aa m/2^n*2^k<=aa m:=by
  rw[←q1];exact Nat.div_mul_le_self _ _
 have l1:(ap (aa m/2^n)).length<=m.length:=gH (Nat.lt_of_le_of_lt (Nat.div_le_self _ _) (bQ hb));have l2:(ap (aa m/2^n*2^k)).length<=m.length:=gH (Nat.lt_of_le_of_lt hle (bQ hb));have hl:=uP (aP (aa m/2^n)) (by omega) (k:=k) (by omega) (by rw[aL];omega);rw[aL]at hl;have hc:=vQ (aP (aa m/2^n*2^k)) hb (by omega) (by omega);rw[aL]at hc;have hz:decide (aa m%2^n≠0)=!decide (bE (aa m/2^n*2^k) (aa m)=0):=by
  rw[←decide_not,decide_eq_decide,ne_eq,not_congr (WS.trans q2)]
 rw[hz];generalize bE (aa m/2^n*2^k) (aa m)=c at hc⊢;by_cases h:ae (aa m)<n
 ·have e2:k=ae (aa m):=by omega
  have e1:((k:Int)<n)=True:=tt (by omega);rw[←e2]at hB;simp only[tp,Af,go_sem,apB,apA,apC,hB,e1,hs,hl,hc]
 ·have e1:(((ae (aa m):Nat):Int)<n)=False:=ff (by omega);have e2:k=n:=by omega
  subst e2;simp only[tp,Af,go_sem,apB,apA,apC,hB,e1,hs,hl,hc]
def zp(l:List Rd):List (List AV):=l.map ak
def wL(l:List Rd):AV:=.sl 3 (zp l)
@[go_sem] theorem ang(l:List Rd):(zp l).length=l.length:=by simp[zp]
theorem abw{l:List Rd}{i:Int}{n:Nat}{d:Rd}(hi:i=n)(h:l[n]?=some d):aV (zp l) i=some (.ipt (ak d)):=by
 grind[aV,zp]
theorem UT(p:Int)(l:List Rd)(ok:∀d∈l,Ok0 d)(h2:l.length<=100000):∀ (k i:Nat),i+k=l.length->∀ (s:af) (h:ac),s 0=I p->s 7=wL l->s 8=I l.length->s 9=I i->
  ∃hh,am 0 [0] (aD (aj R (aH false) jG) [0,7,8,9] [] s h)=if((l.drop i).all vd)=true then some (.normal,⟨upd (fun _=>.any) 0 (I p),fun _=>.dead⟩)else some (.ret,⟨upd (fun _=>.any) 4 (I 1),hh⟩):=by
 intro k;induction k with
 |zero=>
  intro i hi s h h0 h7 h8 h9;have e1:((i:Int)<l.length)=False:=ff (by omega);rw[List.drop_eq_nil_of_le (by omega),ai,List.all_nil,if_pos rfl];refine⟨fun _=>.dead,?_⟩;simp only[jG,go_sem,h0,h7,h8,h9,e1]
 |succ k ih=>
  intro i hi s h h0 h7 h8 h9;have hlt:i<l.length:=by omega
  have e1:((i:Int)<l.length)=True:=tt (by omega);have e2:aV (zp l) (i:Int)=some (.ipt (ak l[i])):=abw rfl (List.getElem?_eq_getElem hlt);have e5:IntKind.i64.wrap ((i:Int)+1)=((i+1:Nat):Int):=wi (by omega) (by omega);have e3:=gu (ok l[i] (List.getElem_mem hlt));rw[List.drop_eq_getElem_cons hlt,List.all_cons,ai];have ih':=ih (i+1) (by omega);generalize l[i]=d at e2 e3⊢;simp only[ag]at e3;simp only[ak]at e2 e3;cases hv:vd d with
  |false=>
   rw[hv]at e3;refine⟨?hh,?_⟩;rotate_left;simp only[jG,go_sem,apB,apA,apC,h0,h7,h8,h9,wL,e1,e2,e3];rfl
  |true=>
   rw[hv]at e3;simp only[jG,go_sem,apB,apA,apC,h0,h7,h8,h9,wL,e1,e2,e3,e5];exact ih' _ _ rfl rfl rfl rfl
def aX(p:Int)(l:List Rd):Int:=if l.all vd=true then(if 8<=p/\p<=512 then 0 else 2)else 1
theorem yv{p:Int}{l:List Rd}(ok:∀d∈l,Ok0 d)(h2:l.length<=100000):R F.round_fault [I p,wL l] []=some (I (aX p l),[]):=by
 refine aA MC rfl ?_;have h3:=UT p l ok h2 l.length 0 (Nat.zero_add _);simp only[List.drop_zero,Int.natCast_zero]at h3;unfold aX;cases ha:l.all vd with
 |false=>
  rw[ha]at h3;simp only[lR,rn,go_sem,wL];rw[(h3 _ _ rfl rfl rfl rfl).choose_spec];simp only[go_sem]
 |true=>
  rw[ha]at h3;by_cases hp:8<=p/\p<=512
  ·have e1:(decide (8<=p)&&decide (p<=512))=true:=by grind
   have e2:=If (p:=p);rw[e1]at e2;rw[if_pos hp];simp only[lR,rn,go_sem,wL];rw[(h3 _ _ rfl rfl rfl rfl).choose_spec];simp only[go_sem,apB,apA,e2]
  ·have e1:(decide (8<=p)&&decide (p<=512))=false:=by
    grind
   have e2:=If (p:=p);rw[e1]at e2;rw[if_neg hp];simp only[lR,rn,go_sem,wL];rw[(h3 _ _ rfl rfl rfl rfl).choose_spec];simp only[go_sem,apB,apA,e2]
noncomputable def di:Cmd:=.seq (.seq (.ops [1,2,6,8,9,55] [cm 52 2,cm 53 52,cg 54 53 true (.mv (.t 10)),co 55 (.pick (.t 53) (.t 54) (.c (.v (.bool false))))]) (.cond (.t 55) (.ops [1,2,6,8,9] [cm 57 9,⟨(some 58),none,.buildSl 1 [(.v (.int .u32 0))] 1 [(0,(.c (.v (.int .u32 1))))]⟩,⟨(some 59),none,.call (.c (.fn F.natural_Add [] [])) [(.t 57),(.t 58)]⟩,cm 56 59,co 60 (.ext 0 (.t 56)),co 61 (.ext 1 (.t 56)),cm 9 60]) (.skip))) (.seq (.seq (.ops [1,2,6,8,9,66] [cm 62 9,⟨(some 63),none,.call (.c (.fn F.natural_Bits [] [])) [(.t 62)]⟩,cm 64 8,co 65 (.bin .add (.t 63) (.t 64)),co 66 (.bin .gtr (.t 65) (.c (.v (.int .i64 16384))))]) (.cond (.t 66) (.seq (.seq (.ops [1,6,67] [cm 67 2]) (.cond (.t 67) (.seq (.ops [6,7] [co 68 (.build [(.v (.bool false)),.emp,(.v (.int .i64 0))] []),⟨none,none,.store 3 (.t 6) (.t 68)⟩,co 7 (.mv (.c (.v (.int .i64 9))))]) (.ret)) (.skip))) (.seq (.ops [1,6,9] [⟨(some 70),none,.buildSl 1 [(.v (.int .u32 0))] 1 [(0,(.c (.v (.int .u32 1))))]⟩,cm 71 1,⟨(some 72),none,.call (.c (.fn F.round_shl [] [])) [(.t 70),(.t 71)]⟩,⟨(some 73),none,.buildSl 1 [(.v (.int .u32 0))] 1 [(0,(.c (.v (.int .u32 1))))]⟩,⟨(some 74),none,.call (.c (.fn F.natural_Sub [] [])) [(.t 72),(.t 73)]⟩,cm 69 74,co 75 (.ext 0 (.t 69)),co 76 (.ext 1 (.t 69)),cm 9 75]) (.ops [6,8,9] [cm 77 1,co 78 (.bin .sub (.c (.v (.int .i64 16384))) (.t 77)),cm 8 78]))) (.skip))) (.seq (.ops [6,7] [cm 79 9,cm 80 8,⟨(some 81),none,.call (.c (.fn F.dyadic_Make [] [])) [(.c (.v (.bool false))),(.t 79),(.t 80)]⟩,co 82 (.ext 0 (.t 81)),co 83 (.ext 1 (.t 81)),⟨none,none,.store 3 (.t 6) (.t 82)⟩,cm 7 83]) (.ret)))
theorem rN:FU=.seq (.ops [1,2,3,6] [⟨(some 3),none,.box 3 (.t 0)⟩,⟨(some 6),none,.alloc [(.v (.bool false)),.emp,(.v (.int .i64 0))]⟩,co 7 (.mv (.c (.v (.int .i64 0))))]) (.seq (.dops [1,2,3,6,8] [co 13 (.fadr 1 (.t 3)),⟨(some 14),none,.load 1 false (.t 13)⟩,co 15 (.fadr 0 (.t 3)),⟨(some 16),none,.load 1 false (.t 15)⟩,⟨(some 17),none,.call (.c (.fn F.natural_Bits [] [])) [(.t 16)]⟩,co 18 (.bin .add (.t 14) (.t 17)),cm 19 1,co 20 (.bin .sub (.t 18) (.t 19)),co 21 (.mnx false (.t 20) [(.c (.v (.int .i64 (-16384))))]),cm 8 21] [(1,4)]) (.seq (.dops [1,2,3,6,8,10] [co 22 (.fadr 0 (.t 3)),⟨(some 23),none,.load 1 false (.t 22)⟩,co 24 (.fadr 2 (.t 3)),⟨(some 25),none,.load 1 false (.t 24)⟩,cm 9 23,cm 10 25] []) (.seq (.seq (.ops [1,2,3,6,8,10,29] [co 26 (.fadr 1 (.t 3)),⟨(some 27),none,.load 1 false (.t 26)⟩,cm 28 8,co 29 (.bin .geq (.t 27) (.t 28))]) (.cond (.t 29) (.ops [1,2,6,8,9,10] [co 30 (.fadr 0 (.t 3)),⟨(some 31),none,.load 1 false (.t 30)⟩,co 32 (.fadr 1 (.t 3)),⟨(some 33),none,.load 1 false (.t 32)⟩,cm 34 8,co 35 (.bin .sub (.t 33) (.t 34)),⟨(some 36),none,.call (.c (.fn F.round_shl [] [])) [(.t 31),(.t 35)]⟩,cm 9 36]) (.seq (.ops [1,2,6,8,10,11,12] [co 38 (.fadr 0 (.t 3)),⟨(some 39),none,.load 1 false (.t 38)⟩,cm 40 8,co 41 (.fadr 1 (.t 3)),⟨(some 42),none,.load 1 false (.t 41)⟩,co 43 (.bin .sub (.t 40) (.t 42)),⟨(some 44),none,.call (.c (.fn F.round_shr [] [])) [(.t 39),(.t 43)]⟩,cm 37 44,co 45 (.ext 0 (.t 37)),co 46 (.ext 1 (.t 37)),cm 11 45,cm 12 46]) (.ops [1,2,6,8,9,10] [cm 47 11,cm 48 10,cm 49 48,cg 50 49 false (.mv (.t 12)),co 51 (.pick (.t 49) (.c (.v (.bool true))) (.t 50)),cm 9 47,cm 10 51])))) di))):=rfl
def dW(M:Nat)(e:Int)(p:Int):Int:=if e+(ae M:Nat)-p< -16384 then-16384 else e+(ae M:Nat)-p
def nV(M:Nat)(e:Int)(more:Bool)(u:Int):Nat×Bool:=if u<=e then(M*2^ (e-u).toNat,more)else(M/2^ (u-e).toNat,more||decide (M%2^ (u-e).toNat≠0))
def kO(up:Bool)(q:Nat×Bool):Nat:=if(up&&q.2)=true then q.1+1 else q.1
def xe(q:Nat)(u:Int):AV:=BT (bA false q u)
def OY(p:Int)(up:Bool)(q:Nat)(u:Int):AV:=if 16384< (ae q:Nat)+u then(if up=true then .tup [ag aK,I 9]else xe (2^p.toNat-1) (16384-p))else xe q u
theorem Sn{q:Nat}{u:Int}(hq:ae q<=8192)(h1:-32768<=u)(h2:u<=32768):R F.dyadic_Make [B false,lm (ap q),I u] []=some (xe q u,[]):=by
 have hl:(ap q).length<=256:=aS (by omega);rw[abu (aP q) (Nat.lt_of_le_of_lt hl (by decide)),if_neg (by omega),aL];rfl
theorem WT{q:Nat}(hq:ae q<=8000):R F.natural_Add [lm (ap q),lm [1]] []=some (.tup [lm (ap (q+1)),I 0],[]):=by
 have hl:(ap q).length<=250:=aS (by omega);have h1:Lb [1]:=fun x hx=>by
  grind
 have h2:ae (q+1)<=8001:=GH hq;have hl2:(ap (q+1)).length<=256:=aS (by omega);rw[WH (aP q) h1 (by omega) (by decide),aL];show some (io (q+1),[])=_
 simp_all[io,if_neg]
theorem So:aa [1]=1:=rfl
theorem WU:Lb [1]:=fun x hx=>by
 grind
theorem adB(n:Nat)(hn:n<=1000):R F.round_shl [lm [1],I (n:Nat)] []=some (lm (ap (2^n)),[])/\R F.natural_Sub [lm (ap (2^n)),lm [1]] []=some (.tup [lm (ap (2^n-1)),I 0],[]):=by
 have hb:ae (2^n)<=n+1:=by
  simp_all[bt,Nat.pow_lt_pow_right,Nat.lt_succ_self]
 have h1:(ap (2^n)).length<=256:=aS (by omega);have h2:=uP WU (by decide) (k:=n) (by omega) (by simp_all[So,Nat.one_mul]);have h3:=WJ (aP (2^n)) WU h1 (by decide);have h4:0<2^n:=Nat.two_pow_pos n;have h5:ae (2^n-1)<=n:=by
  rw[bt];omega
 have h6:(ap (2^n-1)).length<=256:=aS (by omega)
 simp_all[aL,So,if_neg,io]
theorem yw:AV.sl 1 [[AV.v (.int .u32 1)]]=lm [1]:=rfl
theorem GJ{n:Nat}{u:Int}{up more:Bool}{q:Nat}(hp:8<=n/\n<=512)(hq:ae q<=7000)(hu:-16384<=u/\u<=60000)(s:af)(z:Ob)
  (h1:s 1=I (n:Nat)) (h2:s 2=B up) (h6:s 6=.ref 6 none 0 0 0) (h8:s 8=I u) (h9:s 9=lm (ap q)) (h10:s 10=B more):
  gM false [[.o 0 [],.o 2 [],.o 0 []],[]] [.cell 6 3 true,.t 7] 0 (aj R (aH false) di s (upd (upd (fun _=>.dead) 3 z) 6 (.bx [.v (.bool false),.emp,.v (.int .i64 0)])))=some (OY (n:Nat) up (kO up (q,more)) u,[]):=by
 have hi:=WT (q:=q) (by omega);obtain⟨t1,t2⟩:=adB n (by omega);have hb:ae (kO up (q,more))<=7001:=by
  unfold kO;split
  ·exact GH hq
  grind
 have hB:=AX (aP (kO up (q,more))) (Nat.le_trans (aS (k:=256) (by omega)) (by decide));rw[aL]at hB;have w1:IntKind.i64.wrap (((ae (kO up (q,more)):Nat):Int)+u)=((ae (kO up (q,more)):Nat):Int)+u:=i64_in _ ⟨by omega,by omega⟩;have w2:IntKind.i64.wrap (16384- (n:Int))=16384- (n:Int):=i64_in _ ⟨by omega,by omega⟩;have hm2:R F.dyadic_Make [B false,lm (ap (2^n-1)),I (16384- (n:Int))] []=some (xe (2^n-1) (16384- (n:Int)),[]):=Sn (Zn (by omega)) (by omega) (by omega);unfold OY;by_cases ho:16384< ((ae (kO up (q,more)):Nat):Int)+u
 ·have e1:(16384< ((ae (kO up (q,more)):Nat):Int)+u)=True:=tt ho;rw[if_pos ho,Int.toNat_natCast];clear ho hb;cases up with
  |false=>
   simp only[kO,Bool.false_and,if_neg Bool.false_ne_true]at hB w1 e1⊢;unfold xe BT at hm2⊢;generalize bA false (2^n-1) (16384- (n:Int))=dd at hm2⊢;simp only[ag,ak]at hm2;cases hv:lW (ae (aa dd.m)) dd.e with
   |true=>
    rw[hv]at hm2;rw[if_pos rfl]at hm2⊢;simp only[di,ag,ak,go_sem,apB,apA,apC,apD,h1,h2,h6,h8,h9,h10,hB,w1,e1,w2,t1,t2,yw,hm2]
   |false=>
    rw[hv]at hm2;simp only[di,ag,ak,aK,go_sem,apB,apA,apC,apD,h1,h2,h6,h8,h9,h10,hB,w1,e1,w2,t1,t2,yw,hm2]
  |true=>
   cases more with
   |false=>
    simp only[kO,Bool.and_false,if_neg Bool.false_ne_true]at hB w1 e1⊢;simp only[di,ag,ak,aK,go_sem,apB,apA,apC,apD,h1,h2,h6,h8,h9,h10,hB,w1,e1]
   |true=>
    simp only[kO,Bool.and_true,if_true]at hB w1 e1⊢;simp only[di,ag,ak,aK,go_sem,apB,apA,apC,apD,h1,h2,h6,h8,h9,h10,hB,w1,e1,hi,yw]
 ·have e1:(16384< ((ae (kO up (q,more)):Nat):Int)+u)=False:=ff ho;rw[if_neg ho];have hm:=Sn (q:=kO up (q,more)) (u:=u) (by omega) (by omega) (by omega);clear ho hb;cases up with
  |false=>
   simp only[kO,Bool.false_and,if_neg Bool.false_ne_true]at hB w1 e1 hm⊢;unfold xe BT at hm⊢;generalize bA false q u=dd at hm⊢;simp only[ag,ak]at hm;cases hv:lW (ae (aa dd.m)) dd.e with
   |true=>
    rw[hv]at hm;rw[if_pos rfl]at hm⊢;simp only[di,ag,ak,go_sem,apB,apA,apC,apD,h1,h2,h6,h8,h9,h10,hB,w1,e1,hm]
   |false=>
    rw[hv]at hm;simp only[di,ag,ak,aK,go_sem,apB,apA,apC,apD,h1,h2,h6,h8,h9,h10,hB,w1,e1,hm]
  |true=>
   cases more with
   |false=>
    simp only[kO,Bool.and_false,if_neg Bool.false_ne_true]at hB w1 e1 hm⊢;unfold xe BT at hm⊢;generalize bA false q u=dd at hm⊢;simp only[ag,ak]at hm;cases hv:lW (ae (aa dd.m)) dd.e with
    |true=>
     rw[hv]at hm;rw[if_pos rfl]at hm⊢;simp only[di,ag,ak,go_sem,apB,apA,apC,apD,h1,h2,h6,h8,h9,h10,hB,w1,e1,hm]
    |false=>
     rw[hv]at hm;simp only[di,ag,ak,aK,go_sem,apB,apA,apC,apD,h1,h2,h6,h8,h9,h10,hB,w1,e1,hm]
   |true=>
    simp only[kO,Bool.and_true,if_true]at hB w1 e1 hm⊢;unfold xe BT at hm⊢;generalize bA false (q+1) u=dd at hm⊢;simp only[ag,ak]at hm;cases hv:lW (ae (aa dd.m)) dd.e with
    |true=>
     rw[hv]at hm;rw[if_pos rfl]at hm⊢;simp only[di,ag,ak,go_sem,apB,apA,apC,apD,h1,h2,h6,h8,h9,h10,hB,w1,e1,hi,yw,hm]
    |false=>
     rw[hv]at hm;simp only[di,ag,ak,aK,go_sem,apB,apA,apC,apD,h1,h2,h6,h8,h9,h10,hB,w1,e1,hi,yw,hm]
theorem adC{M:List Nat}(hb:Lb M)(hl:M.length<=256){e:Int}{n:Nat}{more up:Bool}(he:-40000<=e/\e<=40000)(hp:8<=n/\n<=512):R F.round_cut [qW M e more,I (n:Nat),B up] []=some (OY (n:Nat) up (kO up (nV (aa M) e more (dW (aa M) e (n:Nat)))) (dW (aa M) e (n:Nat)),[]):=by
 refine aA RE rfl ?_;have hB:=AX hb (Nat.le_trans hl (by decide));have hlen:=BU hb;have w1:IntKind.i64.wrap (e+(ae (aa M):Nat))=e+(ae (aa M):Nat):=i64_in _ ⟨by omega,by omega⟩;have w2:IntKind.i64.wrap (e+(ae (aa M):Nat)- (n:Nat))=e+(ae (aa M):Nat)- (n:Nat):=i64_in _ ⟨by omega,by omega⟩;obtain⟨u,hu⟩:∃u,dW (aa M) e (n:Nat)=u:=⟨_,rfl⟩;rw[hu];unfold dW at hu;unfold nV;by_cases hc:u<=e
 ·have e1:(u<=e)=True:=tt hc;rw[if_pos hc];have w3:IntKind.i64.wrap (e-u)=(((e-u).toNat:Nat):Int):=wi (by omega) (by omega);have hq:ae (aa M*2^ (e-u).toNat)<=7000:=by
   grind[dS]
  by_cases h64:(e-u).toNat<=65536
  ·have hs:=uP hb (by omega) (k:=(e-u).toNat) h64 (aS (by omega));simp only[pj,rN,qW,go_sem,apB,apA,apC,apD,apE,hB,w1,w2,hu,e1,w3,hs];exact GJ hp hq (by omega) _ _ rfl rfl rfl rfl rfl rfl
  omega
 ·have e1:(u<=e)=False:=ff hc;rw[if_neg hc];have w3:IntKind.i64.wrap (u-e)=(((u-e).toNat:Nat):Int):=wi (by omega) (by omega);have hs:=Sm hb (by omega) (n:=(u-e).toNat) (by omega);have hq:ae (aa M/2^ (u-e).toNat)<=7000:=by
   grind[kV]
  cases more with
  |false=>
   rw[Bool.false_or];simp only[pj,rN,qW,go_sem,apB,apA,apC,apD,apE,hB,w1,w2,hu,e1,w3,hs];exact GJ hp hq (by omega) _ _ rfl rfl rfl rfl rfl rfl
  |true=>
   rw[Bool.true_or];simp only[pj,rN,qW,go_sem,apB,apA,apC,apD,apE,hB,w1,w2,hu,e1,w3,hs];exact GJ hp hq (by omega) _ _ rfl rfl rfl rfl rfl rfl
def eH(d:Rd):Rd×Int:=if lW (ae (aa d.m)) d.e=true then(d,0)else(aK,9)
def qJ(p:Int)(up:Bool)(q:Nat)(u:Int):Rd×Int:=if 16384< (ae q:Nat)+u then(if up=true then(aK,9)else eH (bA false (2^p.toNat-1) (16384-p)))else eH (bA false q u)
def rV(r:Rd×Int):AV:=.tup [ag r.1,I r.2]
theorem J3(d:Rd):BT d=rV (eH d):=by
 unfold BT eH;split<;>rfl
theorem abx(p:Int)(up:Bool)(q:Nat)(u:Int):OY p up q u=rV (qJ p up q u):=by
 unfold OY qJ xe;split
 ·split
  ·rfl
  grind[J3]
 grind[J3]
theorem Zt(n:Nat):ae (2^n-1)<=n:=by
 rw[bt];grind
theorem aby(p:Int)(up:Bool)(q:Nat)(u:Int):Lb (qJ p up q u).1.m:=by
 have h0:Lb aK.m:=fun x hx=>nomatch hx
 grind[Lb,eH,qJ,uO]
theorem Zu(p:Int)(up:Bool)(q:Nat)(u:Int)(hp:p.toNat<=8000)(hq:ae q<=8000):(qJ p up q u).1.m.length<=256:=by
 have h0:aK.m.length<=256:=Nat.zero_le _;have hc:∀d:Rd,d.m.length<=256->(eH d).1.m.length<=256:=fun d hd=>by
  grind[eH]
 grind[qJ,BS,Nat.le_trans,Zt]
def dG(d:Rd):Rd:=if vd d=false\/d.m.length=0 then aK else⟨!d.neg,d.m,d.e⟩
def bJ(M:Nat)(e:Int)(more:Bool)(p:Int)(up:Bool):Rd×Int:=qJ p up (kO up (nV M e more (dW M e p))) (dW M e p)
def gP(neg:Bool)(r:Rd×Int):Rd×Int:=if r.2=0/\neg=true then(dG r.1,r.2)else r
theorem WV{M:Nat}{e:Int}{more up:Bool}{n:Nat}(hM:ae M<=8192)(hp:8<=n/\n<=512)(he:-40000<=e/\e<=40000):ae (kO up (nV M e more (dW M e (n:Nat))))<=7001:=by
 have hq:ae (nV M e more (dW M e (n:Nat))).1<=7000:=by
  obtain⟨u,hu⟩:∃u,dW M e (n:Nat)=u:=⟨_,rfl⟩;rw[hu];unfold dW at hu;unfold nV;split
  ·grind[dS]
  grind[kV]
 unfold kO;split
 ·exact GH hq
 omega
theorem zu{M:List Nat}(hb:Lb M)(hl:M.length<=256){e:Int}{n:Nat}{more up neg:Bool}(he:-40000<=e/\e<=40000)(hp:8<=n/\n<=512):R F.round_signed [B neg,qW M e more,I (n:Nat),B up] []=some (rV (gP neg (bJ (aa M) e more (n:Nat) (up !=neg))),[]):=by
 refine aA JO rfl ?_;have hc:=adC (more:=more) (up:=up !=neg) hb hl he hp;have hlen:=BU hb;have hB:=WV (M:=aa M) (e:=e) (more:=more) (up:=up !=neg) (by omega) hp he;rw[abx]at hc;have hL:=aby (n:Nat) (up !=neg) (kO (up !=neg) (nV (aa M) e more (dW (aa M) e (n:Nat)))) (dW (aa M) e (n:Nat));have hN:=Zu (n:Nat) (up !=neg) (kO (up !=neg) (nV (aa M) e more (dW (aa M) e (n:Nat)))) (dW (aa M) e (n:Nat)) (by omega) (by omega);unfold bJ;generalize qJ (n:Nat) (up !=neg) (kO (up !=neg) (nV (aa M) e more (dW (aa M) e (n:Nat)))) (dW (aa M) e (n:Nat))=r at hc hL hN⊢;obtain⟨d,x⟩:=r;have hn:=DI (d:=d) ⟨hL,Nat.lt_of_le_of_lt hN (by decide)⟩;simp only[rV,ag,ak,qW]at hc hn;unfold gP dG;by_cases hx:x=0
 ·have e1:(x=0)=True:=tt hx;cases neg with
  |false=>
   simp only[kJ,pX,rV,ag,ak,qW,go_sem,apB,apA,apC,tw,hc,e1]
  |true=>
   simp only[kJ,pX,rV,ag,ak,qW,go_sem,apB,apA,apC,tw,hc,e1,hn]
 ·have e1:(x=0)=False:=ff hx;simp only[kJ,pX,rV,ag,ak,qW,go_sem,apB,apA,apC,tw,hc,e1]
def nE(d:Rd)(p:Int)(up:Bool):Rd×Int:=if aX p [d]=0 then gP d.neg (bJ (aa d.m) d.e false p (up !=d.neg))else(aK,aX p [d])
theorem pq{p:Int}{l:List Rd}(h:aX p l=0):l.all vd=true/\8<=p/\p<=512:=by
 unfold aX at h;split at h
 ·rename_i h1;split at h
  ·rename_i h2;exact⟨h1,h2⟩
  ·exact nomatch h
 ·exact nomatch h
theorem A5{d:Rd}(h:vd d=true)(hb:Lb d.m):d.m.length<=128:=by
 obtain⟨h1,h2,h3,h4⟩:=dT h hb;by_cases h0:d.m.length=0
 ·omega
 obtain⟨g1,g2,g3,g4⟩:=vS h h0;have h5:4294967296^ (d.m.length-1)<=aa d.m:=by
  have h6:=CB (a:=d.m) (i:=d.m.length-1) (by omega);rw[show d.m.length-1+1=d.m.length by omega,List.take_length]at h6;rw[h6];exact Nat.le_trans (Nat.le_mul_of_pos_right _ (Nat.pos_of_ne_zero g3)) (Nat.le_add_left _ _)
 have h7:32*(d.m.length-1)<ae (aa d.m):=by
  rw[jr,Nat.pow_mul];exact h5
 omega
theorem BV{d:Rd}(ok:Ok0 d){p:Int}{up:Bool}:R F.round_round [ag d,I p,B up] []=some (rV (nE d p up),[]):=by
 refine aA Mv rfl ?_;have hf:R F.round_fault [I p,.sl 3 [[B d.neg,lm d.m,I d.e]]] []=some (I (aX p [d]),[]):=yv (p:=p) (l:=[d]) (fun x hx=>by rw[List.mem_singleton.1 hx];exact ok) (show 1<=100000 by decide);unfold nE;by_cases h0:aX p [d]=0
 ·obtain⟨v1,v2,v3⟩:=pq h0;have v4:vd d=true:=by simpa using v1
  obtain⟨h1,h2,h3,h4⟩:=dT v4 ok.lb;have h5:=A5 v4 ok.lb;rw[if_pos h0];rw[h0]at hf;obtain⟨n,rfl⟩:=Int.eq_ofNat_of_zero_le (show 0<=p by omega);have hs:=zu (M:=d.m) (e:=d.e) (n:=n) (more:=false) (up:=up) (neg:=d.neg) ok.lb (by omega) ⟨by omega,by omega⟩ ⟨by omega,by omega⟩;have ho:=agj (d:=d);generalize gP d.neg (bJ (aa d.m) d.e false (n:Nat) (up !=d.neg))=r at hs⊢;simp only[rV,ag,ak,qW]at hs ho;simp only[pR,wo,rV,ag,ak,go_sem,apB,apA,apC,apD,apE,hf,hs,ho]
 ·have e1:(aX p [d]=0)=False:=ff h0;rw[if_neg h0];simp only[pR,wo,rV,ag,ak,aK,go_sem,apB,apA,apC,apD,hf,e1]
theorem adD{d:Rd}(ok:Ok0 d){p:Int}:R F.round_Up [ag d,I p] []=some (rV (nE d p true),[]):=by
 refine aA UD rfl ?_;have hr:=BV ok (p:=p) (up:=true);generalize nE d p true=r at hr⊢;simp only[rV,ag,ak]at hr;simp only[zW,HI,rV,ag,ak,go_sem,apB,apA,apC,hr]
theorem Zv{d:Rd}(ok:Ok0 d){p:Int}:R F.round_Down [ag d,I p] []=some (rV (nE d p false),[]):=by
 refine aA Ov rfl ?_;have hr:=BV ok (p:=p) (up:=false);generalize nE d p false=r at hr⊢;simp only[rV,ag,ak]at hr;simp only[wm,Di,rV,ag,ak,go_sem,apB,apA,apC,hr]
def DK(a b:Rd)(p:Int)(up:Bool):Rd×Int:=if aX p [a,b]=0 then(if a.m.length=0\/b.m.length=0 then(aK,0)else gP (a.neg !=b.neg) (bJ (aa a.m*aa b.m) (a.e+b.e) false p (up != (a.neg !=b.neg))))else(aK,aX p [a,b])
theorem Sp{a b:Rd}(oa:Ok0 a)(ob:Ok0 b){p:Int}{up:Bool}:R F.round_mul [ag a,ag b,I p,B up] []=some (rV (DK a b p up),[]):=by
 refine aA Rw rfl ?_;have hf:R F.round_fault [I p,.sl 3 [[B a.neg,lm a.m,I a.e],[B b.neg,lm b.m,I b.e]]] []=some (I (aX p [a,b]),[]):=yv (p:=p) (l:=[a,b]) (fun x hx=>by
  rcases List.mem_cons.1 hx with h|h
  ·rw[h];exact oa
  ·rw[List.mem_singleton.1 h];exact ob) (show 2<=100000 by decide)
 unfold DK;by_cases h0:aX p [a,b]=0
 ·obtain⟨v1,v2,v3⟩:=pq h0;have v4:vd a=true/\vd b=true:=by simpa using v1
  obtain⟨va,vb⟩:=v4;obtain⟨a1,a2,a3,a4⟩:=dT va oa.lb;obtain⟨b1,b2,b3,b4⟩:=dT vb ob.lb;rw[if_pos h0];rw[h0]at hf;by_cases a0:a.m.length=0
  ·have e1:((a.m.length:Int)=0)=True:=tt (by omega);rw[if_pos (Or.inl a0)];simp only[lN,qS,rV,ag,ak,aK,go_sem,apB,apA,apC,apD,hf,e1]
  have e1:((a.m.length:Int)=0)=False:=ff (by omega);by_cases b0:b.m.length=0
  ·have e2:((b.m.length:Int)=0)=True:=tt (by omega);rw[if_pos (Or.inr b0)];simp only[lN,qS,rV,ag,ak,aK,go_sem,apB,apA,apC,apD,hf,e1,e2]
  have e2:((b.m.length:Int)=0)=False:=ff (by omega);rw[if_neg (fun h=>h.elim a0 b0)];obtain⟨n,rfl⟩:=Int.eq_ofNat_of_zero_le (show 0<=p by omega);have hp:=DJ (aa a.m) (aa b.m);have hl:(ap (aa a.m*aa b.m)).length<=256:=aS (by omega);have hm:=WO oa.lb ob.lb a1 b1;rw[io,if_neg (by omega)]at hm;have w3:IntKind.i64.wrap (a.e+b.e)=a.e+b.e:=i64_in _ ⟨by omega,by omega⟩;have hs:=zu (M:=ap (aa a.m*aa b.m)) (e:=a.e+b.e) (n:=n) (more:=false) (up:=up) (neg:=a.neg !=b.neg) (aP _) hl ⟨by omega,by omega⟩ ⟨by omega,by omega⟩;rw[aL]at hs;generalize gP (a.neg !=b.neg) (bJ (aa a.m*aa b.m) (a.e+b.e) false (n:Nat) (up != (a.neg !=b.neg)))=r at hs⊢;simp only[rV,ag,ak,qW]at hs;simp only[lN,qS,rV,ag,ak,go_sem,apB,apA,apC,apD,hf,e1,e2,hm,w3,tw,hs]
 ·have e1:(aX p [a,b]=0)=False:=ff h0;rw[if_neg h0];simp only[lN,qS,rV,ag,ak,aK,go_sem,apB,apA,apC,apD,hf,e1]
theorem Zw{a b:Rd}(oa:Ok0 a)(ob:Ok0 b){p:Int}:R F.round_MulUp [ag a,ag b,I p] []=some (rV (DK a b p true),[]):=by
 refine aA nC rfl ?_;have hr:=Sp oa ob (p:=p) (up:=true);generalize DK a b p true=r at hr⊢;simp only[rV,ag,ak]at hr;simp only[uu,Cq,rV,ag,ak,go_sem,apB,apA,apC,hr]
theorem UU{a b:Rd}(oa:Ok0 a)(ob:Ok0 b){p:Int}:R F.round_MulDown [ag a,ag b,I p] []=some (rV (DK a b p false),[]):=by
 refine aA kM rfl ?_;have hr:=Sp oa ob (p:=p) (up:=false);generalize DK a b p false=r at hr⊢;simp only[rV,ag,ak]at hr;simp only[rC,y8,rV,ag,ak,go_sem,apB,apA,apC,hr]
theorem WX{n:Int}(hn:I64 n):R F.dyadic_Int [I n] []=some (ag (bA (decide (n<0)) n.natAbs 0),[]):=by
 refine aA Ox rfl ?_;obtain⟨h1,h2⟩:=hn;obtain⟨x,hx⟩:∃x:Nat,n.natAbs=x:=⟨_,rfl⟩;have hv:aa [x%4294967296,x/4294967296]=x:=by
  show x%4294967296+4294967296*(x/4294967296+4294967296*0)=x;omega
 have hL:Lb [x%4294967296,x/4294967296]:=fun y hy=>by
  rcases List.mem_cons.1 hy with h|h
  ·omega
  ·rw[List.mem_singleton.1 h];omega
 have hc:∀neg,R F.dyadic_canonical [B neg,.sl 1 [[.v (.int .u32 ((x%4294967296:Nat):Int))],[.v (.int .u32 ((x/4294967296:Nat):Int))]],I 0] []=some (ag (bA neg x 0),[]):=fun neg=>by
  have:=yt (neg:=neg) (e:=0) hL (by show 2<=256;decide) ⟨by decide,by decide⟩;rw[hv]at this;exact this
 have w2:IntKind.u32.wrap (x:Int)=((x%4294967296:Nat):Int):=BL rfl;have w3:IntKind.u32.wrap ((x/4294967296:Nat):Int)=((x/4294967296:Nat):Int):=wK rfl (by omega);have w4:cO .shr (.v (.int .u64 (x:Int))) (.v (.int .u64 32))=some (.v (.int .u64 ((x/4294967296:Nat):Int))):=mN (k:=32) rfl rfl (by decide);rw[hx];by_cases h0:n<0
 ·have e1:(n<0)=True:=tt h0;have w5:IntKind.u64.wrap (0-IntKind.u64.wrap n)=(x:Int):=by
   have q:∀z:Int,IntKind.u64.wrap z=z%18446744073709551616:=fun z=>rfl;rw[q,q];omega
  have hc':=hc (decide (n<0));generalize bA (decide (n<0)) x 0=d at hc'⊢;rw[decide_eq_true h0]at hc';simp only[ag,ak]at hc';simp only[ri,xR,ag,ak,go_sem,apB,apA,apC,apD,e1,w2,w3,w4,w5,hc']
 ·have e1:(n<0)=False:=ff h0;have w5:IntKind.u64.wrap n=(x:Int):=cK (by omega) (by omega);have hc':=hc (decide (n<0));generalize bA (decide (n<0)) x 0=d at hc'⊢;rw[decide_eq_false h0]at hc';simp only[ag,ak]at hc';simp only[ri,xR,ag,ak,go_sem,apB,apA,apC,apD,e1,w2,w3,w4,w5,hc']
def qK(a b:Rd)(p:Int):Int:=
 if aR a-aR b<=2 then(if b.e< (if aR a-p-8<a.e then aR a-p-8 else a.e)then b.e else(if aR a-p-8<a.e then aR a-p-8 else a.e))
 else(if aR a-p-8<a.e then aR a-p-8 else a.e)
def yZ(b:Rd)(l:Int):Nat×Bool:=if l<=b.e then(aa b.m*2^ (b.e-l).toNat,false)else(aa b.m/2^ (l-b.e).toNat,decide (aa b.m%2^ (l-b.e).toNat≠0))
def oG(y:Nat×Bool):Nat:=if y.2=true then y.1+1 else y.1
def wB(a b:Rd)(p:Int):(Nat×Int×Bool)×Bool:=
 let l:=qK a b p
 let x:=aa a.m*2^ (a.e-l).toNat
 let y:=yZ b l
 if a.neg=b.neg then((x+y.1,l,y.2),false)
 else if x<oG y then((oG y-x,l,false),true)
 else((x-oG y,l,y.2),false)
theorem J4{a b:Rd}{p:Int}:qK a b p<=a.e:=by
 unfold qK;have h:(if aR a-p-8<a.e then aR a-p-8 else a.e)<=a.e:=by
  split<;>omega
 generalize(if aR a-p-8<a.e then aR a-p-8 else a.e)=z at h⊢;split
 ·split<;>omega
 ·exact h
theorem kW{d:Rd}(h:vd d=true)(h0:d.m.length≠0):aR d=(ae (aa d.m):Nat)+d.e:=by
 rw[aR,if_neg (fun h'=>h'.elim (fun h''=>by rw[h]at h'';exact nomatch h'') h0)]
theorem GK{a b:Rd}{p:Int}(va:vd a=true)(vb:vd b=true)(la:Lb a.m)(lb:Lb b.m)(na:a.m.length≠0)(nb:b.m.length≠0)(hp:8<=p/\p<=512)(ht:aR b<=aR a):
  aR a-qK a b p<=4098:=by
 obtain⟨a1,a2,a3,a4⟩:=dT va la;obtain⟨b1,b2,b3,b4⟩:=dT vb lb;have e1:=kW va na;have e2:=kW vb nb;unfold qK;have h:aR a- (if aR a-p-8<a.e then aR a-p-8 else a.e)<=4098:=by
  split<;>omega
 generalize(if aR a-p-8<a.e then aR a-p-8 else a.e)=z at h⊢;split
 ·split<;>omega
 ·exact h
noncomputable def iO:Cmd:=.seq (.seq (.ops [6,8,9,10,11,68] [co 64 (.fadr 0 (.t 3)),⟨(some 65),none,.load 1 false (.t 64)⟩,co 66 (.fadr 0 (.t 4)),⟨(some 67),none,.load 1 false (.t 66)⟩,co 68 (.eqc false 0 (.t 65) (.t 67))]) (.cond (.t 68) (.seq (.ops [6,8,11,12] [cm 70 9,cm 71 10,⟨(some 72),none,.call (.c (.fn F.natural_Add [] [])) [(.t 70),(.t 71)]⟩,cm 69 72,co 73 (.ext 0 (.t 69)),co 74 (.ext 1 (.t 69)),cm 12 73,cm 13 74]) (.seq (.ops [6,7] [cm 75 12,cm 76 8,cm 77 11,co 78 (.build [.emp,(.v (.int .i64 0)),(.v (.bool false))] [(0,1,(.t 75)),(1,1,(.t 76)),(2,1,(.t 77))]),⟨none,none,.store 3 (.t 6) (.t 78)⟩,co 7 (.mv (.c (.v (.bool false))))]) (.ret))) (.skip))) (.seq (.seq (.ops [6,8,9,10,11,79] [cm 79 11]) (.cond (.t 79) (.ops [6,8,9,10,11] [cm 81 10,⟨(some 82),none,.buildSl 1 [(.v (.int .u32 0))] 1 [(0,(.c (.v (.int .u32 1))))]⟩,⟨(some 83),none,.call (.c (.fn F.natural_Add [] [])) [(.t 81),(.t 82)]⟩,cm 80 83,co 84 (.ext 0 (.t 80)),co 85 (.ext 1 (.t 80)),cm 10 84]) (.skip))) (.seq (.seq (.ops [6,8,9,10,11,89] [cm 86 9,cm 87 10,⟨(some 88),none,.call (.c (.fn F.natural_Cmp [] [])) [(.t 86),(.t 87)]⟩,co 89 (.bin .lss (.t 88) (.c (.v (.int .i64 0))))]) (.cond (.t 89) (.seq (.ops [6,8,14] [cm 91 10,cm 92 9,⟨(some 93),none,.call (.c (.fn F.natural_Sub [] [])) [(.t 91),(.t 92)]⟩,cm 90 93,co 94 (.ext 0 (.t 90)),co 95 (.ext 1 (.t 90)),cm 14 94,cm 15 95]) (.seq (.ops [6,7] [cm 96 14,cm 97 8,co 98 (.build [.emp,(.v (.int .i64 0)),(.v (.bool false))] [(0,1,(.t 96)),(1,1,(.t 97)),(2,1,(.c (.v (.bool false))))]),⟨none,none,.store 3 (.t 6) (.t 98)⟩,co 7 (.mv (.c (.v (.bool true))))]) (.ret))) (.skip))) (.seq (.ops [6,8,11,16] [cm 100 9,cm 101 10,⟨(some 102),none,.call (.c (.fn F.natural_Sub [] [])) [(.t 100),(.t 101)]⟩,cm 99 102,co 103 (.ext 0 (.t 99)),co 104 (.ext 1 (.t 99)),cm 16 103,cm 17 104]) (.seq (.ops [6,7] [cm 105 16,cm 106 8,cm 107 11,co 108 (.build [.emp,(.v (.int .i64 0)),(.v (.bool false))] [(0,1,(.t 105)),(1,1,(.t 106)),(2,1,(.t 107))]),⟨none,none,.store 3 (.t 6) (.t 108)⟩,co 7 (.mv (.c (.v (.bool false))))]) (.ret)))))
theorem pt:FT=.seq (.ops [2,3,4,6] [⟨(some 3),none,.box 3 (.t 0)⟩,⟨(some 4),none,.box 3 (.t 1)⟩,⟨(some 6),none,.alloc [.emp,(.v (.int .i64 0)),(.v (.bool false))]⟩,co 7 (.mv (.c (.v (.bool false))))]) (.seq (.dops [3,4,6,8] [co 18 (.fadr 2 (.t 3)),⟨(some 19),none,.load 1 false (.t 18)⟩,⟨(some 20),none,.load 3 true (.t 3)⟩,⟨(some 21),none,.call (.c (.fn F.dyadic_Top [] [])) [(.t 20)]⟩,cm 22 2,co 23 (.bin .sub (.t 21) (.t 22)),co 24 (.bin .sub (.t 23) (.c (.v (.int .i64 8)))),co 25 (.mnx true (.t 19) [(.t 24)]),cm 8 25] [(1,3)]) (.seq (.seq (.dops [3,4,6,8,31] [⟨(some 26),none,.load 3 true (.t 3)⟩,⟨(some 27),none,.call (.c (.fn F.dyadic_Top [] [])) [(.t 26)]⟩,⟨(some 28),none,.load 3 true (.t 4)⟩,⟨(some 29),none,.call (.c (.fn F.dyadic_Top [] [])) [(.t 28)]⟩,co 30 (.bin .sub (.t 27) (.t 29)),co 31 (.bin .leq (.t 30) (.c (.v (.int .i64 2))))] [(1,2)]) (.cond (.t 31) (.ops [3,4,6,8] [cm 32 8,co 33 (.fadr 2 (.t 4)),⟨(some 34),none,.load 1 false (.t 33)⟩,co 35 (.mnx true (.t 32) [(.t 34)]),cm 8 35]) (.skip))) (.seq (.ops [3,4,6,8,9] [co 36 (.fadr 1 (.t 3)),⟨(some 37),none,.load 1 false (.t 36)⟩,co 38 (.fadr 2 (.t 3)),⟨(some 39),none,.load 1 false (.t 38)⟩,cm 40 8,co 41 (.bin .sub (.t 39) (.t 40)),⟨(some 42),none,.call (.c (.fn F.round_shl [] [])) [(.t 37),(.t 41)]⟩,cm 9 42]) (.seq (.ops [3,4,6,8,9] [co 10 (.mv (.c .emp))]) (.seq (.ops [3,4,6,8,9,11] [co 11 (.mv (.c (.v (.bool false))))]) (.seq (.seq (.ops [3,4,6,8,9,11,46] [co 43 (.fadr 2 (.t 4)),⟨(some 44),none,.load 1 false (.t 43)⟩,cm 45 8,co 46 (.bin .geq (.t 44) (.t 45))]) (.cond (.t 46) (.ops [3,4,6,8,9,10,11] [co 47 (.fadr 1 (.t 4)),⟨(some 48),none,.load 1 false (.t 47)⟩,co 49 (.fadr 2 (.t 4)),⟨(some 50),none,.load 1 false (.t 49)⟩,cm 51 8,co 52 (.bin .sub (.t 50) (.t 51)),⟨(some 53),none,.call (.c (.fn F.round_shl [] [])) [(.t 48),(.t 52)]⟩,cm 10 53]) (.ops [3,4,6,8,9,10,11] [co 55 (.fadr 1 (.t 4)),⟨(some 56),none,.load 1 false (.t 55)⟩,cm 57 8,co 58 (.fadr 2 (.t 4)),⟨(some 59),none,.load 1 false (.t 58)⟩,co 60 (.bin .sub (.t 57) (.t 59)),⟨(some 61),none,.call (.c (.fn F.round_shr [] [])) [(.t 56),(.t 60)]⟩,cm 54 61,co 62 (.ext 0 (.t 54)),co 63 (.ext 1 (.t 54)),cm 10 62,cm 11 63]))) iO)))))):=rfl
def J5(an bn:Bool)(X Y:Nat)(l:Int)(lost:Bool):(Nat×Int×Bool)×Bool:=
 if an=bn then((X+Y,l,lost),false)else if X<oG (Y,lost)then((oG (Y,lost)-X,l,false),true)else((X-oG (Y,lost),l,lost),false)
def sV(r:(Nat×Int×Bool)×Bool):AV:=.tup [qW (ap r.1.1) r.1.2.1 r.1.2.2,B r.2]
theorem yx{x y k:Nat}(hx:ae x<=k)(hy:ae y<=k):ae (x+y)<=k+1:=by
 rw[bt]at hx hy⊢;omega
theorem abz{x y:Nat}(hx:ae x<=5000)(hy:ae y<=5000):R F.natural_Add [lm (ap x),lm (ap y)] []=some (.tup [lm (ap (x+y)),I 0],[]):=by
 have h1:(ap x).length<=200:=aS (by omega);have h2:(ap y).length<=200:=aS (by omega);have h3:=yx hx hy;have h4:(ap (x+y)).length<=200:=aS (by omega);rw[WH (aP x) (aP y) (by omega) (by omega),aL,aL,io,if_neg (by omega)]
theorem Sq{x y:Nat}(hx:ae x<=5000)(hy:ae y<=5000)(h:y<=x):R F.natural_Sub [lm (ap x),lm (ap y)] []=some (.tup [lm (ap (x-y)),I 0],[]):=by
 have h1:(ap x).length<=200:=aS (by omega);have h2:(ap y).length<=200:=aS (by omega);have h3:ae (x-y)<=5000:=by
  rw[bt]at hx⊢;omega
 have h4:(ap (x-y)).length<=200:=aS (by omega);rw[WJ (aP x) (aP y) (by omega) (by omega),aL,aL,if_neg (by omega),io,if_neg (by omega)]
theorem GL{an bn:Bool}{ma mb:AV}{ea eb:AV}{X Y:Nat}{l:Int}{lost:Bool}(hX:ae X<=4100)(hY:ae Y<=4100)(s:af)
  (h3:s 3=.ref 3 none 0 0 0) (h4:s 4=.ref 4 none 0 0 0) (h6:s 6=.ref 6 none 0 0 0) (h8:s 8=I l) (h9:s 9=lm (ap X)) (h10:s 10=lm (ap Y)) (h11:s 11=B lost):
  gM false [[.o 2 [],.o 0 [],.o 0 []],[]] [.cell 6 3 true,.t 7] 0 (aj R (aH false) iO s (upd (upd (upd (fun _=>.dead) 3 (.bx [.v (.bool an),ma,ea])) 4 (.bx [.v (.bool bn),mb,eb])) 6 (.bx [.emp,.v (.int .i64 0),.v (.bool false)])))=some (sV (J5 an bn X Y l lost),[]):=by
 unfold J5;by_cases hs:an=bn
 ·subst hs;have e1:(false != (an==an))=true:=by grind
  have ha:=abz (x:=X) (y:=Y) (by omega) (by omega);simp only[iO,sV,qW,go_sem,apB,apA,apC,h3,h4,h6,h8,h9,h10,h11,e1,ha]
 ·rw[if_neg hs];have e1:(false != (an==bn))=false:=by grind
  have hU:ae (oG (Y,lost))<=4101:=by
   unfold oG;split
   ·exact yx hY (Zo _)
   grind
  have hi:=WT (q:=Y) (by omega);have hc:=vQ (aP X) (aP (oG (Y,lost))) (Nat.le_trans (aS (k:=200) (by omega)) (by decide)) (Nat.le_trans (aS (k:=200) (by omega)) (by decide));rw[aL,aL]at hc;by_cases hx:X<oG (Y,lost)
  ·have ha:=Sq (x:=oG (Y,lost)) (y:=X) (by omega) (by omega) (by omega);rw[if_pos hx];rw[bE,if_pos hx]at hc;cases lost with
   |false=>
    simp only[oG,if_neg Bool.false_ne_true]at hc ha⊢;simp only[iO,sV,qW,go_sem,apB,apA,apC,apD,apF,h3,h4,h6,h8,h9,h10,h11,e1,hc,ha]
   |true=>
    simp only[oG,if_true]at hc ha⊢;simp only[iO,sV,qW,go_sem,apB,apA,apC,apD,apF,h3,h4,h6,h8,h9,h10,h11,e1,yw,hi,hc,ha]
  ·have ha:=Sq (x:=X) (y:=oG (Y,lost)) (by omega) (by omega) (by omega);rw[if_neg hx];have hd:(bE X (oG (Y,lost))<0)=False:=ff (by
    unfold bE;omega)
   cases lost with
   |false=>
    simp only[oG,if_neg Bool.false_ne_true]at hc ha hd⊢;simp only[iO,sV,qW,go_sem,apB,apA,apC,apD,h3,h4,h6,h8,h9,h10,h11,e1,hc,hd,ha]
   |true=>
    simp only[oG,if_true]at hc ha hd⊢;simp only[iO,sV,qW,go_sem,apB,apA,apC,apD,h3,h4,h6,h8,h9,h10,h11,e1,yw,hi,hc,hd,ha]
theorem J6(a b:Rd)(p:Int):wB a b p=J5 a.neg b.neg (aa a.m*2^ (a.e-qK a b p).toNat) (yZ b (qK a b p)).1 (qK a b p) (yZ b (qK a b p)).2:=rfl
theorem adE{a b:Rd}(oa:Ok0 a)(ob:Ok0 b)(va:vd a=true)(vb:vd b=true)(na:a.m.length≠0)(nb:b.m.length≠0){p:Int}(hp:8<=p/\p<=512)(ht:aR b<=aR a):
  R F.round_sum [ag a,ag b,I p] []=some (sV (wB a b p),[]):=by
 refine aA RA rfl ?_;have ta:=AZ oa;have tb:=AZ ob;simp only[ag,ak]at ta tb;have e1:=kW va na;have e2:=kW vb nb;obtain⟨a1,a2,a3,a4⟩:=dT va oa.lb;obtain⟨b1,b2,b3,b4⟩:=dT vb ob.lb;have l1:=J4 (a:=a) (b:=b) (p:=p);have l2:=GK va vb oa.lb ob.lb na nb hp ht;have w1:IntKind.i64.wrap (aR a-p)=aR a-p:=i64_in _ ⟨by omega,by omega⟩;have w2:IntKind.i64.wrap (aR a-p-8)=aR a-p-8:=i64_in _ ⟨by omega,by omega⟩;have w3:IntKind.i64.wrap (aR a-aR b)=aR a-aR b:=i64_in _ ⟨by omega,by omega⟩;rw[J6];obtain⟨l,hl⟩:∃l,qK a b p=l:=⟨_,rfl⟩;rw[hl]at l1 l2⊢;unfold qK at hl;obtain⟨z,hz⟩:∃z,(if aR a-p-8<a.e then aR a-p-8 else a.e)=z:=⟨_,rfl⟩;rw[hz]at hl;have w4:IntKind.i64.wrap (a.e-l)=(((a.e-l).toNat:Nat):Int):=wi (by omega) (by omega);have hX:ae (aa a.m*2^ (a.e-l).toNat)<=4100:=by
  grind[dS,dy]
 have sX:=uP oa.lb a1 (k:=(a.e-l).toNat) (by omega) (aS (by omega));by_cases h2:aR a-aR b<=2
 ·have f1:(aR a-aR b<=2)=True:=tt h2;rw[if_pos h2]at hl;by_cases hb:l<=b.e
  ·have f2:(l<=b.e)=True:=tt hb;have w5:IntKind.i64.wrap (b.e-l)=(((b.e-l).toNat:Nat):Int):=wi (by omega) (by omega);have hY:ae (aa b.m*2^ (b.e-l).toNat)<=4100:=by
    grind[dS,dy]
   have sY:=uP ob.lb b1 (k:=(b.e-l).toNat) (by omega) (aS (by omega));rw[yZ,if_pos hb];simp only[pi,pt,ag,ak,go_sem,apB,apA,apC,apD,apE,ta,tb,w1,w2,w3,w4,w5,hz,hl,f1,f2,sX,sY];exact GL hX hY _ rfl rfl rfl rfl rfl rfl rfl
  omega
 ·have f1:(aR a-aR b<=2)=False:=ff h2;rw[if_neg h2]at hl;by_cases hb:l<=b.e
  ·have f2:(l<=b.e)=True:=tt hb;have w5:IntKind.i64.wrap (b.e-l)=(((b.e-l).toNat:Nat):Int):=wi (by omega) (by omega);have hY:ae (aa b.m*2^ (b.e-l).toNat)<=4100:=by
    grind[dS,dy]
   have sY:=uP ob.lb b1 (k:=(b.e-l).toNat) (by omega) (aS (by omega));rw[yZ,if_pos hb];simp only[pi,pt,ag,ak,go_sem,apB,apA,apC,apD,apE,ta,tb,w1,w2,w3,w4,w5,hz,hl,f1,f2,sX,sY];exact GL hX hY _ rfl rfl rfl rfl rfl rfl rfl
  ·have f2:(l<=b.e)=False:=ff hb;have w5:IntKind.i64.wrap (l-b.e)=(((l-b.e).toNat:Nat):Int):=wi (by omega) (by omega);have hY:ae (aa b.m/2^ (l-b.e).toNat)<=4100:=by
    grind[kV]
   have sY:=Sm ob.lb b1 (n:=(l-b.e).toNat) (by omega);rw[yZ,if_neg hb];simp only[pi,pt,ag,ak,go_sem,apB,apA,apC,apD,apE,ta,tb,w1,w2,w3,w4,w5,hz,hl,f1,f2,sX,sY];exact GL hX hY _ rfl rfl rfl rfl rfl rfl rfl
def OZ(a b:Rd)(p:Int)(up:Bool):Rd×Int:=
 let s:=wB a b p
 if s.1.1=0/\s.1.2.2=false then(aK,0)else gP (a.neg !=s.2) (bJ s.1.1 s.1.2.1 s.1.2.2 p (up != (a.neg !=s.2)))
def J7(a b:Rd)(p:Int)(up:Bool):Rd×Int:=
 if aX p [a,b]=0 then(if a.m.length=0 then nE b p up else if b.m.length=0 then nE a p up else if aR a<aR b then OZ b a p up else OZ a b p up)
 else(aK,aX p [a,b])
theorem GM{a b:Rd}(oa:Ok0 a)(ob:Ok0 b){p:Int}{up:Bool}(h:aX p [a,b]≠0\/a.m.length=0\/b.m.length=0):R F.round_add [ag a,ag b,I p,B up] []=some (rV (J7 a b p up),[]):=by
 refine aA FX rfl ?_;have hf:R F.round_fault [I p,.sl 3 [[B a.neg,lm a.m,I a.e],[B b.neg,lm b.m,I b.e]]] []=some (I (aX p [a,b]),[]):=yv (p:=p) (l:=[a,b]) (fun x hx=>by
  rcases List.mem_cons.1 hx with h|h
  ·rw[h];exact oa
  ·rw[List.mem_singleton.1 h];exact ob) (show 2<=100000 by decide)
 have ra:=BV oa (p:=p) (up:=up);have rb:=BV ob (p:=p) (up:=up);unfold J7;generalize nE a p up=qa at ra⊢;generalize nE b p up=qb at rb⊢;simp only[rV,ag,ak]at ra rb;by_cases h0:aX p [a,b]=0
 ·rw[if_pos h0];rw[h0]at hf;by_cases a0:a.m.length=0
  ·have e1:((a.m.length:Int)=0)=True:=tt (by omega);rw[if_pos a0];simp only[jE,qR,rV,ag,ak,go_sem,apB,apA,apC,apD,hf,e1,rb]
  have e1:((a.m.length:Int)=0)=False:=ff (by omega);have b0:b.m.length=0:=(h.resolve_left (fun h'=>h' h0)).resolve_left a0;have e2:((b.m.length:Int)=0)=True:=tt (by omega);rw[if_neg a0,if_pos b0];simp only[jE,qR,rV,ag,ak,go_sem,apB,apA,apC,apD,hf,e1,e2,ra]
 ·have e1:(aX p [a,b]=0)=False:=ff h0;rw[if_neg h0];simp only[jE,qR,rV,ag,ak,aK,go_sem,apB,apA,apC,apD,hf,e1]
theorem Zx{N k:Nat}{f u:Int}{more:Bool}(hm:more=decide (N%2^k≠0))(hu:more=true->f+k<u):nV (N/2^k) (f+k) more u=nV N f false u:=by
 unfold nV;by_cases h:u<=f+k
 ·rw[if_pos h];have hf:more=false:=by
   grind
  subst hf;have h0:N%2^k=0:=by
   grind
  obtain⟨M,rfl⟩:=Nat.dvd_of_mod_eq_zero h0;rw[Nat.mul_div_cancel_left _ (Nat.two_pow_pos k)];by_cases h2:u<=f
  ·rw[if_pos h2,show(f+k-u).toNat=k+(f-u).toNat by omega,Nat.pow_add,Nat.mul_comm (2^k) M,Nat.mul_assoc]
  ·obtain⟨j,hj⟩:∃j,(f+k-u).toNat=j:=⟨_,rfl⟩;obtain⟨i,hi⟩:∃i,(u-f).toNat=i:=⟨_,rfl⟩;have hk:k=i+j:=by omega
   grind[Nat.pow_add,Nat.mul_assoc,Nat.mul_div_cancel_left,Nat.two_pow_pos,Nat.mul_mod_right,Nat.mul_comm]
 ·rw[if_neg h,if_neg (by omega)];obtain⟨j,hj⟩:∃j,(u- (f+k)).toNat=j:=⟨_,rfl⟩;rw[show(u-f).toNat=k+j by omega,hj,Nat.pow_add,Nat.div_div_eq_div_mul,Nat.mod_mul,hm];refine Prod.ext rfl ?_;show(decide (N%2^k≠0)||decide (N/2^k%2^j≠0))=(false||decide (N%2^k+2^k*(N/2^k%2^j)≠0));rw[Bool.false_or,←Bool.decide_or];congr 1;refine propext ⟨fun h3 h4=>?_,fun h3=>?_⟩
  ·obtain⟨h5,h6⟩:=Nat.add_eq_zero_iff.1 h4;rcases Nat.mul_eq_zero.1 h6 with h7|h7
   all_goals omega
  grind
theorem WY{N k:Nat}{f p:Int}(hM:N/2^k≠0):dW (N/2^k) (f+k) p=dW N f p:=by
 grind[dW,kV,ae]
theorem Sr{N k:Nat}{f p:Int}{more up:Bool}(hM:N/2^k≠0)(hm:more=decide (N%2^k≠0))(hp:more=true->p< (ae (N/2^k):Nat)):bJ (N/2^k) (f+k) more p up=bJ N f false p up:=by
 unfold bJ;have hu:more=true->f+k<dW (N/2^k) (f+k) p:=fun h=>by
  grind[dW]
 grind[Zx,WY]
theorem DL{M k:Nat}{f p:Int}{up:Bool}(hM:M≠0):bJ (M*2^k) f false p up=bJ M (f+k) false p up:=by
 have h1:M*2^k/2^k=M:=Nat.mul_div_cancel _ (Nat.two_pow_pos k);have:=Sr (N:=M*2^k) (k:=k) (f:=f) (p:=p) (more:=false) (up:=up) (by omega) (by simp_all) (fun h=>absurd h Bool.false_ne_true);grind
def eJ(z f p:Int)(up:Bool):Rd×Int:=if z=0 then(aK,0)else gP (decide (z<0)) (bJ z.natAbs f false p (up !=decide (z<0)))
theorem J8{n:Nat}{f p:Int}{up neg:Bool}(h:n≠0):eJ (if neg=true then-(n:Int)else n) f p up=gP neg (bJ n f false p (up !=neg)):=by
 unfold eJ;grind
theorem WZ{z f p:Int}{k:Nat}{up:Bool}:eJ (z*2^k) f p up=eJ z (f+k) p up:=by
 unfold eJ;by_cases h:z=0
 ·rw[h,Int.zero_mul,if_pos rfl,if_pos rfl]
 ·have h2:(0:Int)<2^k:=Int.pow_pos (by decide);have h3:z*2^k≠0:=fun h3=>by
   rcases Int.mul_eq_zero.1 h3 with h4|h4
   all_goals omega
  have h4:decide (z*2^k<0)=decide (z<0):=by
   congr 1;refine propext ⟨fun h5=>?_,fun h5=>Int.mul_neg_of_neg_of_pos h5 h2⟩;refine Int.not_le.1 fun h6=>?_;have:=Int.mul_nonneg h6 (Int.le_of_lt h2);omega
  simp_all[if_neg,Int.natAbs_mul,Int.natAbs_pow,DL]
def dz(neg:Bool)(n:Nat):Int:=if neg=true then-(n:Int)else n
theorem xf(n:Nat):dz true n=-(n:Int):=rfl
theorem zz(n:Nat):dz false n=(n:Int):=rfl
def O0(an:Bool)(p:Int)(up:Bool)(s:(Nat×Int×Bool)×Bool):Rd×Int:=if s.1.1=0/\s.1.2.2=false then(aK,0)else gP (an !=s.2) (bJ s.1.1 s.1.2.1 s.1.2.2 p (up != (an !=s.2)))
theorem BW{an:Bool}{p:Int}{up:Bool}{N K:Nat}{f:Int}{more t:Bool}(hM:N/2^K≠0)(hm:more=decide (N%2^K≠0))(hp:more=true->p< (ae (N/2^K):Nat)):
  O0 an p up ((N/2^K,f+K,more),t)=eJ (dz (an !=t) N) f p up:=by
 have h0:N≠0:=fun h=>by
  simp_all
 unfold dz;rw[J8 h0,O0,if_neg (fun h=>hM h.1)];grind[Sr]
theorem Zy{x Y K:Nat}{f p:Int}{up an bn:Bool}(hx:x≠0)(hlost:Y%2^K≠0->p< (ae (x- (Y/2^K+1)):Nat)/\p< (ae (x+Y/2^K):Nat)/\Y/2^K+1<x):
  O0 an p up (J5 an bn x (Y/2^K) (f+K) (decide (Y%2^K≠0)))=eJ (dz an (x*2^K)+dz bn Y) f p up:=by
 have h2:=Nat.two_pow_pos K;have hd:=Nat.div_add_mod Y (2^K);have hlt:=Nat.mod_lt Y h2;unfold J5;by_cases hs:an=bn
 ·subst hs;rw[if_pos rfl];have e1:x+Y/2^K=(x*2^K+Y)/2^K:=by
   grind[Nat.mul_comm,Nat.mul_add_div]
  have e2:(x*2^K+Y) %2^K=Y%2^K:=by
   simp_all
  have e3:dz an (x*2^K)+dz an Y=dz (an !=false) (x*2^K+Y):=by
   grind[dz,xf]
  rw[e3,e1,BW]
  all_goals grind
 ·have hbn:bn=!an:=by
   cases an<;>cases bn<;>first|rfl|exact absurd rfl hs
  subst hbn;rw[if_neg hs];by_cases hl:Y%2^K≠0
  ·obtain⟨g1,g2,g3⟩:=hlost hl;have e0:oG (Y/2^K,decide (Y%2^K≠0))=Y/2^K+1:=by
    simp_all[oG,if_pos,decide_eq_true]
   rw[e0,if_neg (by omega)];obtain⟨y,hy⟩:∃y,Y/2^K=y:=⟨_,rfl⟩;rw[hy]at hd g1 g2 g3⊢;have e1:(x- (y+1))*2^K+(2^K-Y%2^K)=x*2^K-Y:=by
    have e4:(x- (y+1))*2^K=x*2^K- (2^K*y+2^K):=by
     rw[Nat.sub_mul,Nat.add_mul,Nat.one_mul,Nat.mul_comm y]
    have e5:2^K*y+2^K<=x*2^K:=by
     have:(y+1)*2^K<=x*2^K:=Nat.mul_le_mul_right _ (by omega);grind
    omega
   have e6:(x*2^K-Y)/2^K=x- (y+1):=by
    rw[←e1,Nat.mul_comm (x- (y+1)),Nat.mul_add_div h2,Nat.div_eq_of_lt (by omega)];rfl
   have e7:(x*2^K-Y) %2^K=2^K-Y%2^K:=by
    rw[←e1,Nat.mul_comm (x- (y+1)),Nat.mul_add_mod,Nat.mod_eq_of_lt (by omega)]
   have e3:dz an (x*2^K)+dz (!an) Y=dz (an !=false) (x*2^K-Y):=by
    grind[dz,xf,zz]
   grind[BW,decide_eq_true]
  ·have hl0:Y%2^K=0:=by omega
   have e0:oG (Y/2^K,decide (Y%2^K≠0))=Y/2^K:=by
    simp_all[oG,if_neg,of_decide_eq_true]
   rw[e0,hl0,show decide ((0:Nat)≠0)=false from rfl];rw[hl0,Nat.add_zero]at hd;obtain⟨y,hy⟩:∃y,Y/2^K=y:=⟨_,rfl⟩;rw[hy]at hd⊢;subst hd;by_cases hxy:x<y
   ·rw[if_pos hxy];have e6:((y-x)*2^K)/2^K=y-x:=Nat.mul_div_cancel _ h2;have e3:dz an (x*2^K)+dz (!an) (2^K*y)=dz (an !=true) ((y-x)*2^K):=by
     grind[dz,xf,zz]
    rw[e3];have:=BW (an:=an) (p:=p) (up:=up) (N:=(y-x)*2^K) (K:=K) (f:=f) (more:=false) (t:=true) (by omega) (by simp_all) (fun h=>absurd h Bool.false_ne_true);grind
   ·rw[if_neg hxy];by_cases hE:x=y
    ·subst hE;have e3:dz an (x*2^K)+dz (!an) (2^K*x)=0:=by
      grind[dz,xf,zz]
     simp_all[O0,if_pos,Nat.sub_self,eJ]
    ·have e6:((x-y)*2^K)/2^K=x-y:=Nat.mul_div_cancel _ h2;have e3:dz an (x*2^K)+dz (!an) (2^K*y)=dz (an !=false) ((x-y)*2^K):=by
      grind[dz,xf,zz]
     rw[e3];have:=BW (an:=an) (p:=p) (up:=up) (N:=(x-y)*2^K) (K:=K) (f:=f) (more:=false) (t:=false) (by omega) (by simp_all) (fun h=>absurd h Bool.false_ne_true);grind
theorem agk{b:Rd}{l:Int}(h1:-40000<=l)(h2:-40000<=b.e):yZ b l=(aa b.m*2^ (b.e+40000).toNat/2^ (l+40000).toNat,decide (aa b.m*2^ (b.e+40000).toNat%2^ (l+40000).toNat≠0)):=by
 unfold yZ;by_cases h:l<=b.e
 ·rw[if_pos h,show(b.e+40000).toNat=(b.e-l).toNat+(l+40000).toNat by omega,Nat.pow_add,←Nat.mul_assoc,Nat.mul_div_cancel _ (Nat.two_pow_pos _),Nat.mul_mod_left];rfl
 ·have h3:=Nat.two_pow_pos (b.e+40000).toNat;rw[if_neg h,show(l+40000).toNat=(l-b.e).toNat+(b.e+40000).toNat by omega,Nat.pow_add,Nat.mul_div_mul_right _ _ h3,Nat.mul_mod_mul_right];refine Prod.ext rfl ?_;show decide _=decide _;congr 1;refine propext ⟨fun h4 h5=>?_,fun h4 h5=>h4 ?_⟩
  ·rcases Nat.mul_eq_zero.1 h5 with h6|h6
   all_goals omega
  grind
theorem O1{d:Rd}{k:Nat}(h:-16384<=d.e)(n:Nat)(hn:n=(d.e+16384).toNat+k):zI d*2^k=dz d.neg (aa d.m*2^n):=by
 have h1:(mg d:Int)*2^k=((aa d.m*2^ ((d.e+16384).toNat+k):Nat):Int):=by
  unfold mg;grind
 unfold zI dz;grind
theorem W0{a b:Rd}{p:Int}(h:b.e<qK a b p):2<aR a-aR b/\qK a b p<=aR a-p-8:=by
 unfold qK at h⊢;omega
theorem Ss{a b:Rd}(oa:Ok0 a)(ob:Ok0 b)(va:vd a=true)(vb:vd b=true)(na:a.m.length≠0)(nb:b.m.length≠0){p:Int}{up:Bool}(hp:8<=p/\p<=512)(ht:aR b<=aR a):
  OZ a b p up=eJ (zI a+zI b) (-16384) p up:=by
 have e1:=kW va na;have e2:=kW vb nb;obtain⟨a1,a2,a3,a4⟩:=dT va oa.lb;obtain⟨b1,b2,b3,b4⟩:=dT vb ob.lb;have l1:=J4 (a:=a) (b:=b) (p:=p);have l2:=GK va vb oa.lb ob.lb na nb hp ht;have l3:=W0 (a:=a) (b:=b) (p:=p);show O0 a.neg p up (wB a b p)=_;rw[J6];obtain⟨l,hl⟩:∃l,qK a b p=l:=⟨_,rfl⟩;rw[hl]at l1 l2 l3⊢;obtain⟨K,hK⟩:∃K,(l+40000).toNat=K:=⟨_,rfl⟩;obtain⟨n1,hn1⟩:∃n,(a.e-l).toNat=n:=⟨_,rfl⟩;obtain⟨n2,hn2⟩:∃n,(b.e+40000).toNat=n:=⟨_,rfl⟩;have hx:aa a.m*2^n1≠0:=Nat.mul_ne_zero (dy va na) (Nat.pos_iff_ne_zero.1 (Nat.two_pow_pos _));rw[agk (by omega) (by omega),hK,hn1,hn2];have bx:ae (aa a.m*2^n1)=ae (aa a.m)+n1:=dS _ (dy va na);have by':ae (aa b.m*2^n2/2^K)=ae (aa b.m)+n2-K:=by grind[kV,dS,dy]
 have hlK:l=-40000+(K:Int):=by omega
 rw[hlK,Zy hx]
 ·obtain⟨k,hk⟩:∃k:Nat,k=23616:=⟨_,rfl⟩;rw[Nat.mul_assoc,←Nat.pow_add,←O1 (k:=k) a2 (n1+K) (by omega),←O1 (k:=k) b2 n2 (by omega),←Int.add_mul,WZ,show(-40000:Int)+(k:Nat)=-16384 by omega]
 ·intro hne;have hb:b.e<l:=by
   refine Int.not_le.1 fun h=>hne ?_;rw[show n2=(b.e-l).toNat+K by omega,Nat.pow_add,←Nat.mul_assoc,Nat.mul_mod_left]
  obtain⟨X,hX⟩:∃X,aa a.m*2^n1=X:=⟨_,rfl⟩;obtain⟨Y,hY⟩:∃Y,aa b.m*2^n2/2^K=Y:=⟨_,rfl⟩;rw[hX]at bx⊢;rw[hY]at by'⊢;obtain⟨t,hT⟩:∃t,ae X=t+4:=⟨ae X-4,by omega⟩;have hX2:2^ (t+3)<=X:=jr.1 (by omega);have hY2:Y<2^ (t+1):=bt.1 (by omega);have q1:2^ (t+3)=4*2^ (t+1):=by grind
  have q2:2^ (t+2)=2*2^ (t+1):=by grind
  have g3:t+2<ae (X- (Y+1)):=jr.2 (by omega);have g4:t+3<ae (X+Y):=jr.2 (by omega);omega
def cT(a b:Rd)(p:Int)(up:Bool):Rd×Int:=if aX p [a,b]=0 then eJ (zI a+zI b) (-16384) p up else(aK,aX p [a,b])
def bZ(a b:Rd)(p:Int)(up:Bool):Rd×Int:=if aX p [a,b]=0 then eJ (zI a*zI b) (-32768) p up else(aK,aX p [a,b])
theorem bP{d:Rd}(h:d.m.length=0):zI d=0:=by
 grind[zI,J2]
theorem abA{p:Int}{up:Bool}(hp:8<=p/\p<=512):bJ 0 0 false p up=(aK,0):=by
 have hu:-600<=dW 0 0 p/\dW 0 0 p<=0:=by
  grind[dW,pp]
 unfold bJ;obtain⟨u,he⟩:∃u,dW 0 0 p=u:=⟨_,rfl⟩;rw[he]at hu⊢;have hq:kO up (nV 0 0 false u)=0:=by
  simp_all[nV,kO,if_pos,Nat.zero_mul,Bool.and_false,if_neg,Bool.false_ne_true]
 unfold qJ;rw[hq,pp,if_neg (by omega)];unfold bA eH;rw[if_pos rfl,if_pos (by decide)]
theorem zA{d:Rd}(ok:Ok0 d){p:Int}{up:Bool}:nE d p up=if aX p [d]=0 then eJ (zI d) (-16384) p up else(aK,aX p [d]):=by
 unfold nE;by_cases h0:aX p [d]=0
 ·obtain⟨v1,v2,v3⟩:=pq h0;have v4:vd d=true:=by grind
  obtain⟨h1,h2,h3,h4⟩:=dT v4 ok.lb;rw[if_pos h0,if_pos h0];by_cases hd:d.m.length=0
  ·have hz:=AY v4 hd;subst hz;rw[bP rfl,eJ,if_pos rfl];show gP false (bJ 0 0 false p (up !=false))=_;rw[abA ⟨v2,v3⟩];rfl
  ·have hm:=A4 v4 hd;unfold zI;rw[J8 (by omega)];grind[mg,DL]
 grind
theorem abB{a b:Rd}(oa:Ok0 a)(ob:Ok0 b){p:Int}{up:Bool}:J7 a b p up=cT a b p up:=by
 unfold J7 cT;by_cases h0:aX p [a,b]=0
 ·obtain⟨v1,hp⟩:=pq h0;have v4:vd a=true/\vd b=true:=by grind
  have f1:∀d,vd d=true->aX p [d]=0:=fun d hd=>by
   simp_all[aX,if_pos]
  by_cases a0:a.m.length=0
  ·rw[if_pos a0,zA ob,if_pos (f1 b v4.2),bP a0,Int.zero_add]
  rw[if_neg a0];by_cases b0:b.m.length=0
  ·rw[if_pos b0,zA oa,if_pos (f1 a v4.1),bP b0,Int.add_zero]
  rw[if_neg b0];by_cases ht:aR a<aR b
  ·rw[if_pos ht,Ss ob oa v4.2 v4.1 b0 a0 hp (by omega),Int.add_comm]
  simp_all[if_neg,Ss]
 grind
theorem Su{a b:Rd}(oa:Ok0 a)(ob:Ok0 b){p:Int}{up:Bool}:DK a b p up=bZ a b p up:=by
 unfold DK bZ;by_cases h0:aX p [a,b]=0
 ·obtain⟨v1,hp⟩:=pq h0;have v4:vd a=true/\vd b=true:=by grind
  obtain⟨va,vb⟩:=v4;obtain⟨a1,a2,a3,a4⟩:=dT va oa.lb;obtain⟨b1,b2,b3,b4⟩:=dT vb ob.lb;by_cases a0:a.m.length=0
  ·rw[if_pos (Or.inl a0),bP a0,Int.zero_mul,eJ,if_pos rfl]
  by_cases b0:b.m.length=0
  ·rw[if_pos (Or.inr b0),bP b0,Int.mul_zero,eJ,if_pos rfl]
  have hz:zI a*zI b=dz (a.neg !=b.neg) (mg a*mg b):=by
   unfold zI dz;cases a.neg<;>cases b.neg<;>simp[Int.mul_neg,Int.neg_mul]
  have hm:mg a*mg b=aa a.m*aa b.m*2^ ((a.e+16384).toNat+(b.e+16384).toNat):=by
   grind[mg,Nat.pow_add]
  have hv:aa a.m*aa b.m≠0:=Nat.mul_ne_zero (dy va a0) (dy vb b0);rw[hz];unfold dz;rw[J8 (Nat.mul_ne_zero (Nat.pos_iff_ne_zero.1 (A4 va a0)) (Nat.pos_iff_ne_zero.1 (A4 vb b0))),hm,DL hv];grind
 grind
theorem mQ{neg:Bool}{M:Nat}{e:Int}(h:M≠0):bA neg M e=⟨neg,ap (M/2^tz M),e+tz M⟩:=by
 simp_all[bA,if_neg]
theorem pu{neg:Bool}{e:Int}:bA neg 0 e=aK:=by
 simp_all[bA,if_pos]
theorem tC{neg:Bool}{M k:Nat}{e:Int}:bA neg (M*2^k) e=bA neg M (e+k):=by
 by_cases h:M=0
 ·rw[h,Nat.zero_mul,pu,pu]
 ·have h2:M*2^k≠0:=Nat.mul_ne_zero h (Nat.pos_iff_ne_zero.1 (Nat.two_pow_pos k));rw[mQ h,mQ h2,Nat.mul_comm M,HT k h,Nat.pow_add,Nat.mul_div_mul_left _ _ (Nat.two_pow_pos k)];grind
theorem yy{neg:Bool}{M:Nat}{e:Int}(h:M≠0):aa (bA neg M e).m=M/2^tz M/\(bA neg M e).e=e+tz M/\M/2^tz M%2=1/\ae (M/2^tz M)+tz M=ae M:=by
 grind[uK,mQ,aL,dS,tz,Nat.mul_comm]
theorem Zz{neg:Bool}{M:Nat}{e:Int}(h:M≠0)(h1:ae M<=4096)(h2:-16384<=e)(h3:(ae M:Nat)+e<=16384):lW (ae (aa (bA neg M e).m)) (bA neg M e).e=true:=by
 grind[yy,ae,tz,fk,lW,decide_eq_true]
theorem EK{neg:Bool}{M:Nat}{e:Int}(h:lW (ae (aa (bA neg M e).m)) (bA neg M e).e=true):vd (bA neg M e)=true:=by
 by_cases h0:M=0
 ·subst h0;rfl
 ·obtain⟨g1,g2,g3,g4⟩:=yy (neg:=neg) (e:=e) h0;have hn:M/2^tz M≠0:=by omega
  rw[g1]at h;have hb:=(EJ h (Nat.pos_iff_ne_zero.1 (fk hn))).1;rw[mQ h0]at h⊢;unfold vd;have hl:(ap (M/2^tz M)).length<=128:=aS (by omega);have hl0:(ap (M/2^tz M)).length≠0:=fun h5=>hn (ke.1 (List.length_eq_zero_iff.1 h5));have ht:(ap (M/2^tz M)).getD ((ap (M/2^tz M)).length-1) 0≠0:=(Dy _).resolve_left (fun h5=>hn (ke.1 h5));have ho:(ap (M/2^tz M)).getD 0 0%2=1:=by
   grind[rY,tz]
  rw[aL,if_neg hl0,decide_eq_true (p:=(ap (M/2^tz M)).length<=256) (by omega),decide_eq_true ho,decide_eq_true ht];grind
theorem O2{neg:Bool}{M:Nat}{e:Int}(h1:ae M<=4096)(h2:-16384<=e)(h3:(ae M:Nat)+e<=16384):eH (bA neg M e)=(bA neg M e,0):=by
 unfold eH;by_cases h:M=0
 ·subst h;rw[pu,if_pos (by decide)]
 simp_all[if_pos,Zz]
theorem W7(q:Nat):ae (q+1)<=ae q+1:=by
 rw[bt,Nat.pow_succ];have:=bt.1 (Nat.le_refl (ae q));omega
theorem W8{M:Nat}{f p:Int}{more w neg:Bool}:vd (gP neg (bJ M f more p w)).1=true/\Ok0 (gP neg (bJ M f more p w)).1:=by
 have h0:vd aK=true/\Ok0 aK:=⟨rfl,⟨fun x hx=>(nomatch hx),by decide⟩⟩;have hc:∀ (q:Nat) (u:Int),vd (eH (bA false q u)).1=true/\Ok0 (eH (bA false q u)).1:=fun q u=>by
  unfold eH;by_cases h:lW (ae (aa (bA false q u).m)) (bA false q u).e=true
  ·rw[if_pos h];have hv:=EK h;have hb:=uO false q u;exact⟨hv,hb,Nat.lt_of_le_of_lt (A5 hv hb) (by decide)⟩
  grind
 have he:∀ (up:Bool) (q:Nat) (u:Int),vd (qJ p up q u).1=true/\Ok0 (qJ p up q u).1:=fun up q u=>by
  grind[qJ]
 have hs:∀ (neg:Bool) (r:Rd×Int),(vd r.1=true/\Ok0 r.1)->vd (gP neg r).1=true/\Ok0 (gP neg r).1:=fun neg r hr=>by
  unfold gP dG;split
  ·split
   ·omega
   ·refine⟨?_,hr.2.1,hr.2.2⟩
    simp_all[vd,if_neg]
  omega
 exact hs _ _ (he _ _ _)
theorem tD{z f p:Int}{up:Bool}:vd (eJ z f p up).1=true/\Ok0 (eJ z f p up).1:=by
 unfold eJ;split
 ·exact⟨rfl,⟨fun x hx=>(nomatch hx),by decide⟩⟩
 ·exact W8
noncomputable def nF:Cmd:=.seq (.ops [2,3,4,8,11,12] [⟨(some 52),none,.load 3 true (.t 4)⟩,⟨(some 53),none,.load 3 true (.t 5)⟩,cm 54 2,⟨(some 55),none,.call (.c (.fn F.round_sum [] [])) [(.t 52),(.t 53),(.t 54)]⟩,cm 51 55,co 56 (.ext 0 (.t 51)),co 57 (.ext 1 (.t 51)),⟨(some 11),none,.alloc [.emp,(.v (.int .i64 0)),(.v (.bool false))]⟩,⟨none,none,.store 3 (.t 11) (.t 56)⟩,cm 12 57]) (.seq (.seq (.ops [2,3,4,8,11,12,66] [co 58 (.fadr 0 (.t 11)),⟨(some 59),none,.load 1 false (.t 58)⟩,co 60 (.len false (.t 59)),co 61 (.bin .eql (.t 60) (.c (.v (.int .i64 0)))),cm 62 61,cg 63 62 true (.fadr 2 (.t 11)),⟨(some 64),(some (62,true)),.load 1 false (.t 63)⟩,cg 65 62 true (.un .not (.t 64)),co 66 (.pick (.t 62) (.t 65) (.c (.v (.bool false))))]) (.cond (.t 66) (.seq (.ops [8,9] [co 67 (.build [(.v (.bool false)),.emp,(.v (.int .i64 0))] []),⟨none,none,.store 3 (.t 8) (.t 67)⟩,co 9 (.mv (.c (.v (.int .i64 0))))]) (.ret)) (.skip))) (.seq (.ops [8,9] [co 68 (.fadr 0 (.t 4)),⟨(some 69),none,.load 1 false (.t 68)⟩,cm 70 12,co 71 (.eqc true 0 (.t 69) (.t 70)),⟨(some 72),none,.load 3 true (.t 11)⟩,cm 73 2,cm 74 3,⟨(some 75),none,.call (.c (.fn F.round_signed [] [])) [(.t 71),(.t 72),(.t 73),(.t 74)]⟩,co 76 (.ext 0 (.t 75)),co 77 (.ext 1 (.t 75)),⟨none,none,.store 3 (.t 8) (.t 76)⟩,cm 9 77]) (.ret)))
theorem vT:qR=.seq (.ops [2,3,4,5,8] [⟨(some 4),none,.box 3 (.t 0)⟩,⟨(some 5),none,.box 3 (.t 1)⟩,⟨(some 8),none,.alloc [(.v (.bool false)),.emp,(.v (.int .i64 0))]⟩,co 9 (.mv (.c (.v (.int .i64 0))))]) (.seq (.seq (.ops [2,3,4,5,8,10] [cm 13 2,⟨(some 14),none,.load 3 true (.t 4)⟩,⟨(some 15),none,.load 3 true (.t 5)⟩,⟨(some 16),none,.buildSl 3 [(.v (.bool false)),.emp,(.v (.int .i64 0))] 2 [(0,(.t 14)),(1,(.t 15))]⟩,⟨(some 17),none,.call (.c (.fn F.round_fault [] [])) [(.t 13),(.t 16)]⟩,cm 10 17]) (.seq (.ops [2,3,4,5,8,10,19] [cm 18 10,co 19 (.bin .neq (.t 18) (.c (.v (.int .i64 0))))]) (.cond (.t 19) (.seq (.ops [8,9] [co 20 (.build [(.v (.bool false)),.emp,(.v (.int .i64 0))] []),cm 21 10,⟨none,none,.store 3 (.t 8) (.t 20)⟩,cm 9 21]) (.ret)) (.skip)))) (.seq (.block 0 [2,3,4,5,8] (.seq (.ops [2,3,4,5,8,22] [co 23 (.fadr 1 (.t 4)),⟨(some 24),none,.load 1 false (.t 23)⟩,co 25 (.len false (.t 24)),co 26 (.bin .eql (.t 25) (.c (.v (.int .i64 0)))),cm 22 26]) (.cond (.t 22) (.seq (.ops [8,9] [⟨(some 27),none,.load 3 true (.t 5)⟩,cm 28 2,cm 29 3,⟨(some 30),none,.call (.c (.fn F.round_round [] [])) [(.t 27),(.t 28),(.t 29)]⟩,co 31 (.ext 0 (.t 30)),co 32 (.ext 1 (.t 30)),⟨none,none,.store 3 (.t 8) (.t 31)⟩,cm 9 32]) (.ret)) (.seq (.ops [2,3,4,5,8,33] [co 34 (.fadr 1 (.t 5)),⟨(some 35),none,.load 1 false (.t 34)⟩,co 36 (.len false (.t 35)),co 37 (.bin .eql (.t 36) (.c (.v (.int .i64 0)))),cm 33 37]) (.cond (.t 33) (.seq (.ops [8,9] [⟨(some 38),none,.load 3 true (.t 4)⟩,cm 39 2,cm 40 3,⟨(some 41),none,.call (.c (.fn F.round_round [] [])) [(.t 38),(.t 39),(.t 40)]⟩,co 42 (.ext 0 (.t 41)),co 43 (.ext 1 (.t 41)),⟨none,none,.store 3 (.t 8) (.t 42)⟩,cm 9 43]) (.ret)) (.skip)))))) (.seq (.seq (.dops [2,3,4,5,8,48] [⟨(some 44),none,.load 3 true (.t 4)⟩,⟨(some 45),none,.call (.c (.fn F.dyadic_Top [] [])) [(.t 44)]⟩,⟨(some 46),none,.load 3 true (.t 5)⟩,⟨(some 47),none,.call (.c (.fn F.dyadic_Top [] [])) [(.t 46)]⟩,co 48 (.bin .lss (.t 45) (.t 47))] [(1,2)]) (.cond (.t 48) (.ops [2,3,4,5,8] [⟨(some 49),none,.load 3 true (.t 5)⟩,⟨(some 50),none,.load 3 true (.t 4)⟩,⟨none,none,.store 3 (.t 4) (.t 49)⟩,⟨none,none,.store 3 (.t 5) (.t 50)⟩]) (.skip))) nF))):=rfl
theorem abC{a b:Rd}(oa:Ok0 a)(ob:Ok0 b)(va:vd a=true)(vb:vd b=true)(na:a.m.length≠0)(nb:b.m.length≠0){p:Int}(hp:8<=p/\p<=512)(ht:aR b<=aR a):
  ae (wB a b p).1.1<=4120∧-40000<=(wB a b p).1.2.1/\(wB a b p).1.2.1<=40000:=by
 have e1:=kW va na;have e2:=kW vb nb;obtain⟨a1,a2,a3,a4⟩:=dT va oa.lb;obtain⟨b1,b2,b3,b4⟩:=dT vb ob.lb;have l1:=J4 (a:=a) (b:=b) (p:=p);have l2:=GK va vb oa.lb ob.lb na nb hp ht;have ba:=fk (dy va na);have bb:=fk (dy vb nb);rw[J6];obtain⟨l,hl⟩:∃l,qK a b p=l:=⟨_,rfl⟩;rw[hl]at l1 l2⊢;have hX:ae (aa a.m*2^ (a.e-l).toNat)<=4100:=by
  rw[dS _ (dy va na)];omega
 have hY:ae (yZ b l).1<=4100:=by
  unfold yZ;split
  ·rw[dS _ (dy vb nb)];omega
  ·show ae (_/_)<=_;rw[kV];omega
 generalize(yZ b l).1=Y at hY⊢;generalize(yZ b l).2=lost;generalize aa a.m*2^ (a.e-l).toNat=X at hX⊢;have hU:ae (oG (Y,lost))<=4101:=by
  unfold oG;split
  ·have:=W7 Y;show ae (Y+1)<=4101;omega
  ·show ae Y<=4101;omega
 have hm:∀x y:Nat,x<=y->ae y<=4101->ae x<=4101:=fun x y h1 h2=>vR h1 h2;generalize hYU:oG (Y,lost)=YU at hU;unfold J5;rw[hYU];split
 ·have:=yx hX hY;exact⟨Nat.le_trans this (by decide),by show-40000<=l;omega,by show l<=40000;omega⟩
 ·split
  ·exact⟨Nat.le_trans (hm _ _ (Nat.sub_le _ _) hU) (by decide),by show-40000<=l;omega,by show l<=40000;omega⟩
  ·exact⟨Nat.le_trans (hm _ _ (Nat.sub_le _ _) (Nat.le_trans hX (by decide))) (by decide),by show-40000<=l;omega,by show l<=40000;omega⟩
theorem LA{a b:Rd}(oa:Ok0 a)(ob:Ok0 b)(va:vd a=true)(vb:vd b=true)(na:a.m.length≠0)(nb:b.m.length≠0){n:Nat}{up:Bool}(hp:8<=n/\n<=512)(ht:aR b<=aR a)(s:af)(h:ac)
  (h2:s 2=I (n:Nat)) (h3:s 3=B up) (h4:s 4=.ref 4 none 0 0 0) (h5:s 5=.ref 5 none 0 0 0) (h8:s 8=.ref 8 none 0 0 0)
  (k4:h 4=.bx (ak a)) (k5:h 5=.bx (ak b)) (k8:h 8=.bx [.v (.bool false),.emp,.v (.int .i64 0)]) (kd:∀i,i≠4->i≠5->i≠8->i≠16->h i=.dead):
  gM false [[.o 0 [],.o 2 [],.o 0 []],[]] [.cell 8 3 true,.t 9] 0 (aj R (aH false) nF s h)=some (rV (OZ a b (n:Nat) up),[]):=by
 have hs:=adE oa ob va vb na nb (p:=(n:Nat)) ⟨by omega,by omega⟩ ht;obtain⟨g1,g2,g3⟩:=abC oa ob va vb na nb (p:=(n:Nat)) ⟨by omega,by omega⟩ ht;have hl:(ap (wB a b (n:Nat)).1.1).length<=256:=aS (by omega);have hg:=fun neg up=>zu (M:=ap (wB a b (n:Nat)).1.1) (e:=(wB a b (n:Nat)).1.2.1) (n:=n) (more:=(wB a b (n:Nat)).1.2.2) (up:=up) (neg:=neg) (aP _) hl ⟨g2,g3⟩ hp;unfold OZ;generalize wB a b (n:Nat)=z at hs g1 g2 g3 hl hg⊢;obtain⟨⟨M,l,more⟩,t⟩:=z;simp only[sV,ag,ak,qW]at hs hg k4 k5;simp only[aL]at hg;have hw:=hg (a.neg !=t) up;generalize hr:gP (a.neg !=t) (bJ M l more (n:Nat) (up != (a.neg !=t)))=r at hw;simp only[rV,ag,ak]at hw;by_cases hM:M=0
 ·have e1:(((ap M).length:Int)=0)=True:=tt (by rw[hM,fQ];rfl);cases more with
  |false=>
   rw[if_pos ⟨hM,rfl⟩];clear hr;simp only[nF,rV,ag,ak,aK,go_sem,apB,apA,apC,ne_eq,not_false_eq_true,h2,h3,h4,h5,h8,k4,k5,k8,kd,hs,e1]
  |true=>
   rw[if_neg (fun h=>Bool.false_ne_true h.2.symm)];rw[show gP (a.neg !=t) (bJ M l true (n:Nat) (up != (a.neg !=t)))=r from hr];clear hr;simp only[nF,rV,ag,ak,go_sem,apB,apA,apC,ne_eq,not_false_eq_true,h2,h3,h4,h5,h8,k4,k5,k8,kd,hs,e1,tw,hw]
 ·have e1:(((ap M).length:Int)=0)=False:=ff (fun h=>hM (ke.1 (List.length_eq_zero_iff.1 (by omega))));rw[if_neg (fun h=>hM h.1)];rw[show gP (a.neg !=t) (bJ M l more (n:Nat) (up != (a.neg !=t)))=r from hr];clear hr;simp only[nF,rV,ag,ak,go_sem,apB,apA,apC,ne_eq,not_false_eq_true,h2,h3,h4,h5,h8,k4,k5,k8,kd,hs,e1,tw,hw]
theorem ZA{a b:Rd}(oa:Ok0 a)(ob:Ok0 b){p:Int}{up:Bool}(h0:aX p [a,b]=0)(a0:a.m.length≠0)(b0:b.m.length≠0):R F.round_add [ag a,ag b,I p,B up] []=some (rV (J7 a b p up),[]):=by
 refine aA FX rfl ?_;have hf:R F.round_fault [I p,.sl 3 [[B a.neg,lm a.m,I a.e],[B b.neg,lm b.m,I b.e]]] []=some (I (aX p [a,b]),[]):=yv (p:=p) (l:=[a,b]) (fun x hx=>by
  rcases List.mem_cons.1 hx with h|h
  ·rw[h];exact oa
  ·rw[List.mem_singleton.1 h];exact ob) (show 2<=100000 by decide)
 rw[h0]at hf;obtain⟨v1,hp⟩:=pq h0;have v4:vd a=true/\vd b=true:=by simpa using v1
 obtain⟨va,vb⟩:=v4;have ta:=AZ oa;have tb:=AZ ob;simp only[ag,ak]at ta tb;obtain⟨n,rfl⟩:=Int.eq_ofNat_of_zero_le (show 0<=p by omega);have e1:((a.m.length:Int)=0)=False:=ff (by omega);have e2:((b.m.length:Int)=0)=False:=ff (by omega);unfold J7;rw[if_pos h0,if_neg a0,if_neg b0];by_cases ht:aR a<aR b
 ·have e3:(aR a<aR b)=True:=tt ht;rw[if_pos ht];simp only[jE,vT,ag,ak,go_sem,apB,apA,apC,apD,apE,hf,e1,e2,ta,tb,e3];refine LA ob oa vb va b0 a0 (by omega) (by omega) _ _ rfl rfl rfl rfl rfl rfl rfl rfl fun i h4 h5 h8 h16=>?_;simp only[ed,h4,h5,h8,h16,if_false]
 ·have e3:(aR a<aR b)=False:=ff ht;rw[if_neg ht];simp only[jE,vT,ag,ak,go_sem,apB,apA,apC,apD,apE,hf,e1,e2,ta,tb,e3];refine LA oa ob va vb a0 b0 (by omega) (by omega) _ _ rfl rfl rfl rfl rfl rfl rfl rfl fun i h4 h5 h8 h16=>?_;simp only[ed,h4,h5,h8,h16,if_false]
theorem Sv{a b:Rd}(oa:Ok0 a)(ob:Ok0 b){p:Int}{up:Bool}:R F.round_add [ag a,ag b,I p,B up] []=some (rV (cT a b p up),[]):=by
 rw[←abB oa ob];by_cases h0:aX p [a,b]=0
 ·by_cases a0:a.m.length=0
  ·exact GM oa ob (Or.inr (Or.inl a0))
  ·by_cases b0:b.m.length=0
   ·exact GM oa ob (Or.inr (Or.inr b0))
   ·exact ZA oa ob h0 a0 b0
 ·exact GM oa ob (Or.inl h0)
theorem O3{a b:Rd}(oa:Ok0 a)(ob:Ok0 b){p:Int}:R F.round_AddUp [ag a,ag b,I p] []=some (rV (cT a b p true),[]):=by
 refine aA Mp rfl ?_;have hr:=Sv oa ob (p:=p) (up:=true);generalize cT a b p true=r at hr⊢;simp only[rV,ag,ak]at hr;simp only[ur,Cp,rV,ag,ak,go_sem,apB,apA,apC,hr]
theorem Ig{a b:Rd}(oa:Ok0 a)(ob:Ok0 b){p:Int}:R F.round_AddDown [ag a,ag b,I p] []=some (rV (cT a b p false),[]):=by
 refine aA H1 rfl ?_;have hr:=Sv oa ob (p:=p) (up:=false);generalize cT a b p false=r at hr⊢;simp only[rV,ag,ak]at hr;simp only[rA,y6,rV,ag,ak,go_sem,apB,apA,apC,hr]
theorem LB{a b:Rd}(oa:Ok0 a)(ob:Ok0 b){p:Int}:R F.round_MulUp [ag a,ag b,I p] []=some (rV (bZ a b p true),[]):=by
 rw[←Su oa ob];exact Zw oa ob
theorem FY{a b:Rd}(oa:Ok0 a)(ob:Ok0 b){p:Int}:R F.round_MulDown [ag a,ag b,I p] []=some (rV (bZ a b p false),[]):=by
 rw[←Su oa ob];exact UU oa ob
def dU(d:Rd)(p:Int)(up:Bool):Rd×Int:=if aX p [d]=0 then eJ (zI d) (-16384) p up else(aK,aX p [d])
theorem abD{d:Rd}(ok:Ok0 d){p:Int}:R F.round_Up [ag d,I p] []=some (rV (dU d p true),[]):=by
 have h:=zA ok (p:=p) (up:=true);rw[dU,←h];exact adD ok
theorem W9{d:Rd}(ok:Ok0 d){p:Int}:R F.round_Down [ag d,I p] []=some (rV (dU d p false),[]):=by
 have h:=zA ok (p:=p) (up:=false);rw[dU,←h];exact Zv ok
structure Ri where
 lo:Rd
 hi:Rd
 all:Bool
def az(x:Ri):List AV:=[B x.lo.neg,lm x.lo.m,I x.lo.e,B x.hi.neg,lm x.hi.m,I x.hi.e,B x.all]
def av(x:Ri):AV:=.agg (az x)
def cB:Ri:=⟨aK,aK,true⟩
structure OkI (x:Ri):Prop where
 lo:Ok0 x.lo
 hi:Ok0 x.hi
def z0(d:Rd):Bool:=!d.neg&& (decide (d.m.length=0)&&decide (d.e=0))
def vi(x:Ri):Bool:=if x.all=true then z0 x.lo&&z0 x.hi else vd x.lo&& (vd x.hi&&decide (zI x.lo<=zI x.hi))
def kI(x:Ri):Bool:=!x.all&&vi x
def bK(p:Int):Bool:=decide (8<=p)&&decide (p<=512)
theorem tE{p:Int}:R F.interval_permitted [I p] []=some (B (bK p),[]):=by
 refine aA BJ rfl ?_;unfold bK;by_cases h1:8<=p
 ·have e1:(8<=p)=True:=tt h1;simp only[iH,mE,go_sem,e1,decide_true,Bool.true_and]
 ·have e1:(8<=p)=False:=ff h1;simp only[iH,mE,go_sem,e1,decide_false,Bool.false_and]
theorem kX:R F.interval_Whole [] []=some (av cB,[]):=by
 refine aA Gm rfl ?_;simp only[qA,xO,av,az,cB,aK,go_sem,apB,apA,apC]
theorem aaO{d:Rd}:R F.interval_Valid_1 [ag d] []=some (B (z0 d),[]):=by
 refine aA DB rfl ?_;unfold z0;cases hn:d.neg with
 |true=>simp only[fA,it,ag,ak,go_sem,apB,apA,hn,Bool.not_true,Bool.false_and]
 |false=>
  by_cases h1:d.m.length=0
  ·have e1:((d.m.length:Int)=0)=True:=tt (by omega);by_cases h2:d.e=0
   ·have e2:(d.e=0)=True:=tt h2;rw[decide_eq_true h1,decide_eq_true h2];simp only[fA,it,ag,ak,go_sem,apB,apA,hn,e1,e2,Bool.not_false,Bool.true_and]
   ·have e2:(d.e=0)=False:=ff h2;rw[decide_eq_true h1,decide_eq_false h2];simp only[fA,it,ag,ak,go_sem,apB,apA,hn,e1,e2,Bool.not_false,Bool.true_and]
  ·have e1:((d.m.length:Int)=0)=False:=ff (by omega);rw[decide_eq_false h1];simp only[fA,it,ag,ak,go_sem,apB,apA,hn,e1,Bool.not_false,Bool.true_and,Bool.false_and]
theorem EL{x y:Int}:(bD x y<=0)=(x<=y):=by
 grind[bD]
theorem se{x:Ri}(ok:OkI x):R F.interval_Valid [av x] []=some (B (vi x),[]):=by
 refine aA Gp rfl ?_;unfold vi;have zl:=aaO (d:=x.lo);have zh:=aaO (d:=x.hi);have vl:=gu ok.lo;have vh:=gu ok.hi;have hc:=qh ok.lo ok.hi;simp only[ag,ak]at zl zh vl vh hc;cases ha:x.all with
 |true=>
  cases h1:z0 x.lo with
  |true=>
   rw[h1]at zl;simp only[fg,apQ,av,az,go_sem,apB,apA,apC,ha,zl,zh,Bool.true_and]
  |false=>
   rw[h1]at zl;simp only[fg,apQ,av,az,go_sem,apB,apA,apC,ha,zl,Bool.false_and]
 |false=>
  cases h1:vd x.lo with
  |false=>
   rw[h1]at vl;simp only[fg,apQ,av,az,go_sem,apB,apA,apC,ha,vl,Bool.false_and]
  |true=>
   rw[h1]at vl;cases h2:vd x.hi with
   |false=>
    rw[h2]at vh;simp only[fg,apQ,av,az,go_sem,apB,apA,apC,ha,vl,vh,Bool.true_and,Bool.false_and]
   |true=>
    rw[h2]at vh;rw[h1,h2,if_pos ⟨rfl,rfl⟩]at hc;simp only[fg,apQ,av,az,go_sem,apB,apA,apC,ha,vl,vh,hc,EL,Bool.true_and]
theorem iP{d:Rd}(ok:Ok0 d)(hv:vd d=true):R F.interval_Point [ag d] []=some (av ⟨d,d,false⟩,[]):=by
 refine aA Gl rfl ?_;have vl:=gu ok;rw[hv]at vl;simp only[ag,ak]at vl;simp only[qz,xN,ag,ak,av,az,go_sem,apB,apA,apC,vl]
def qi(r s:Rd×Int):Ri:=if r.2=0/\s.2=0 then⟨r.1,s.1,false⟩else cB
theorem J9{a b:Rd}{e f:Int}:R F.interval_made [ag a,I e,ag b,I f] []=some (av (qi (a,e) (b,f)),[]):=by
 refine aA H0 rfl ?_;have hw:=kX;unfold qi;by_cases h1:e=0
 ·have e1:(e=0)=True:=tt h1;by_cases h2:f=0
  ·have e2:(f=0)=True:=tt h2;simp only[jB,n9,ag,ak,av,az,go_sem,apB,apA,apC,e1,e2]
  ·have e2:(f=0)=False:=ff h2;simp only[jB,n9,ag,ak,av,az,go_sem,apB,apA,apC,e1,e2,hw]
 ·have e1:(e=0)=False:=ff h1;simp only[jB,n9,ag,ak,av,az,go_sem,apB,apA,apC,e1,hw]
def aY(l:List Ri):List (List AV):=l.map az
@[go_sem] theorem xp(l:List Ri):(aY l).length=l.length:=by simp[aY]
theorem A6{l:List Ri}{i:Int}{n:Nat}{d:Ri}(hi:i=n)(h:l[n]?=some d):aV (aY l) i=some (.ipt (az d)):=by
 grind[aV,aY]
theorem UV(l:List Ri)(ok:∀d∈l,OkI d)(h2:l.length<=100000):∀ (k i:Nat),i+k=l.length->∀ (s:af) (h:ac),s 5=.sl 7 (aY l)->s 6=I l.length->s 7=I i->
  ∃hh,am 0 [] (aD (aj R (aH false) fy) [5,6,7] [] s h)=if((l.drop i).all kI)=true then some (.normal,⟨fun _=>.any,fun _=>.dead⟩)else some (.ret,⟨upd (fun _=>.any) 2 (B false),hh⟩):=by
 intro k;induction k with
 |zero=>
  intro i hi s h h5 h6 h7;have e1:((i:Int)<l.length)=False:=ff (by omega);rw[List.drop_eq_nil_of_le (by omega),ai,List.all_nil,if_pos rfl];refine⟨fun _=>.dead,?_⟩;simp only[fy,go_sem,h5,h6,h7,e1]
 |succ k ih=>
  intro i hi s h h5 h6 h7;have hlt:i<l.length:=by omega
  have e1:((i:Int)<l.length)=True:=tt (by omega);have e2:aV (aY l) (i:Int)=some (.ipt (az l[i])):=A6 rfl (List.getElem?_eq_getElem hlt);have e5:IntKind.i64.wrap ((i:Int)+1)=((i+1:Nat):Int):=wi (by omega) (by omega);have e3:=se (ok l[i] (List.getElem_mem hlt));rw[List.drop_eq_getElem_cons hlt,List.all_cons,ai];have ih':=ih (i+1) (by omega);generalize l[i]=d at e2 e3⊢;simp only[av]at e3;simp only[az]at e2 e3;unfold kI at ih'⊢;cases ha:d.all with
  |true=>
   refine⟨?hh,?_⟩;rotate_left;simp only[fy,go_sem,apB,apA,apC,h5,h6,h7,e1,e2,ha];rfl
  |false=>
   rw[ha]at e3;cases hv:vi d with
   |false=>
    rw[hv]at e3;refine⟨?hh2,?_⟩;rotate_left;simp only[fy,go_sem,apB,apA,apC,h5,h6,h7,e1,e2,e3,ha];rfl
   |true=>
    rw[hv]at e3;simp only[fy,go_sem,apB,apA,apC,h5,h6,h7,e1,e2,e3,e5,ha];exact ih' _ _ rfl rfl rfl
theorem O4{l:List Ri}(ok:∀d∈l,OkI d)(h2:l.length<=100000):R F.interval_known [.sl 7 (aY l)] []=some (B (l.all kI),[]):=by
 refine aA Gq rfl ?_;have h3:=UV l ok h2 l.length 0 (Nat.zero_add _);simp only[List.drop_zero,Int.natCast_zero]at h3;cases ha:l.all kI with
 |false=>
  rw[ha]at h3;simp only[lq,rz,go_sem];rw[(h3 _ _ rfl rfl rfl).choose_spec];simp only[go_sem]
 |true=>
  rw[ha]at h3;simp only[lq,rz,go_sem];rw[(h3 _ _ rfl rfl rfl).choose_spec];simp only[go_sem]
theorem sf{x:Ri}(ok:OkI x):R F.interval_known [.sl 7 [[B x.lo.neg,lm x.lo.m,I x.lo.e,B x.hi.neg,lm x.hi.m,I x.hi.e,B x.all]]] []=some (B (kI x),[]):=by
 have h:=O4 (l:=[x]) (fun d hd=>by grind) (show 1<=100000 by decide);rw[List.all_cons,List.all_nil,Bool.and_true]at h;exact h
theorem zB{x y:Ri}(ox:OkI x)(oy:OkI y):R F.interval_known [.sl 7 [[B x.lo.neg,lm x.lo.m,I x.lo.e,B x.hi.neg,lm x.hi.m,I x.hi.e,B x.all],[B y.lo.neg,lm y.lo.m,I y.lo.e,B y.hi.neg,lm y.hi.m,I y.hi.e,B y.all]]] []=some (B (kI x&&kI y),[]):=by
 have h:=O4 (l:=[x,y]) (fun d hd=>by
  grind) (show 2<=100000 by decide)
 rw[List.all_cons,List.all_cons,List.all_nil,Bool.and_true]at h;exact h
def j3(x y:Ri)(p:Int):Ri:=if(kI x&&kI y&&bK p)=true then qi (cT x.lo y.lo p false) (cT x.hi y.hi p true)else cB
theorem Ka{x y:Ri}(ox:OkI x)(oy:OkI y){p:Int}:R F.interval_Add [av x,av y,I p] []=some (av (j3 x y p),[]):=by
 refine aA JD rfl ?_;have hk:=zB ox oy;have hp:=tE (p:=p);have hw:=kX;have hd:=Ig ox.lo oy.lo (p:=p);have hu:=O3 ox.hi oy.hi (p:=p);unfold j3;generalize cT x.lo y.lo p false=r at hd⊢;generalize cT x.hi y.hi p true=q at hu⊢;obtain⟨r1,r2⟩:=r;obtain⟨q1,q2⟩:=q;have hm:=J9 (a:=r1) (b:=q1) (e:=r2) (f:=q2);simp only[av,az,rV,ag,ak]at hw hd hu hm;cases h1:(kI x&&kI y)with
 |false=>
  rw[h1]at hk;simp only[kw,pI,av,az,go_sem,apB,apA,apC,apD,hk,hw]
 |true=>
  rw[h1]at hk;cases h2:bK p with
  |false=>
   rw[h2]at hp;simp only[kw,pI,av,az,go_sem,apB,apA,apC,apD,hk,hp,hw]
  |true=>
   rw[h2]at hp;simp only[kw,pI,av,az,go_sem,apB,apA,apC,apD,hk,hp,hw,hd,hu,hm]
def dt(a b:Rd):Int:=if vd a=true/\vd b=true then bD (zI a) (zI b)else 0
def jf(a b:Rd):Rd:=if dt a b<=0 then a else b
def jg(a b:Rd):Rd:=if 0<=dt a b then a else b
theorem Kb{a b:Rd}(oa:Ok0 a)(ob:Ok0 b):R F.interval_less [ag a,ag b] []=some (ag (jf a b),[]):=by
 refine aA HZ rfl ?_;have hc:=qh oa ob;rw[show(if vd a=true/\vd b=true then bD (zI a) (zI b)else 0)=dt a b from rfl]at hc;simp only[ag,ak]at hc;unfold jf;by_cases h:dt a b<=0
 ·have e1:(dt a b<=0)=True:=tt h;simp only[mD,sT,ag,ak,go_sem,apB,apA,apC,hc,e1]
 ·have e1:(dt a b<=0)=False:=ff h;simp only[mD,sT,ag,ak,go_sem,apB,apA,apC,hc,e1]
theorem Kc{a b:Rd}(oa:Ok0 a)(ob:Ok0 b):R F.interval_more [ag a,ag b] []=some (ag (jg a b),[]):=by
 refine aA HY rfl ?_;have hc:=qh oa ob;rw[show(if vd a=true/\vd b=true then bD (zI a) (zI b)else 0)=dt a b from rfl]at hc;simp only[ag,ak]at hc;unfold jg;by_cases h:0<=dt a b
 ·have e1:(0<=dt a b)=True:=tt h;simp only[mC,sR,ag,ak,go_sem,apB,apA,apC,hc,e1]
 ·have e1:(0<=dt a b)=False:=ff h;simp only[mC,sR,ag,ak,go_sem,apB,apA,apC,hc,e1]
theorem agl{x:Ri}(h:kI x=true):vd x.lo=true/\vd x.hi=true/\zI x.lo<=zI x.hi/\x.all=false:=by
 unfold kI vi at h;grind
theorem agm{x:Ri}(h1:vd x.lo=true)(h2:vd x.hi=true)(h3:zI x.lo<=zI x.hi)(h4:x.all=false):kI x=true:=by
 grind[kI,vi,decide_eq_true]
def DM(x:Ri):Int:=if 0<bS x.lo then 1 else if bS x.hi<0 then-1 else 0
theorem O5{x:Ri}(ok:OkI x)(hx:kI x=true):R F.interval_Sign [av x] []=some (I (DM x),[]):=by
 refine aA H3 rfl ?_;obtain⟨v1,v2,v3,v4⟩:=agl hx;have hk:=sf ok;rw[hx]at hk;have s1:=yu ok.lo v1;have s2:=yu ok.hi v2;simp only[ag,ak]at s1 s2;unfold DM;by_cases h1:0<bS x.lo
 ·have e1:(0<bS x.lo)=True:=tt h1;simp only[jF,oA,av,az,go_sem,apB,apA,apC,apD,hk,s1,e1]
 ·have e1:(0<bS x.lo)=False:=ff h1;by_cases h2:bS x.hi<0
  ·have e2:(bS x.hi<0)=True:=tt h2;simp only[jF,oA,av,az,go_sem,apB,apA,apC,apD,hk,s1,e1,s2,e2]
  ·have e2:(bS x.hi<0)=False:=ff h2;simp only[jF,oA,av,az,go_sem,apB,apA,apC,apD,hk,s1,e1,s2,e2]
def mR(d:Rd):Rd:=if vd d=false\/d.m.length=0 then aK else⟨false,d.m,d.e⟩
theorem bj:vd aK=true/\Ok0 aK:=⟨rfl,⟨fun x hx=>(nomatch hx),by decide⟩⟩
theorem si{d:Rd}(ok:Ok0 d):Ok0 (mR d):=by
 unfold mR;split
 ·exact bj.2
 ·exact⟨ok.1,ok.2⟩
def tF(x:Ri):Rd:=if DM x=0 then aK else jf (mR x.lo) (mR x.hi)
def Aj(x:Ri):Rd:=jg (mR x.lo) (mR x.hi)
theorem adF{x:Ri}(ok:OkI x)(hx:kI x=true):R F.interval_Mig [av x] []=some (.tup [ag (tF x),B true],[]):=by
 refine aA JS rfl ?_;have hk:=sf ok;rw[hx]at hk;have hs:=O5 ok hx;have a1:=Ic ok.lo;have a2:=Ic ok.hi;rw[show(if vd x.lo=false\/x.lo.m.length=0 then aK else(⟨false,x.lo.m,x.lo.e⟩:Rd))=mR x.lo from rfl]at a1;rw[show(if vd x.hi=false\/x.hi.m.length=0 then aK else(⟨false,x.hi.m,x.hi.e⟩:Rd))=mR x.hi from rfl]at a2;have hl:=Kb (si ok.lo) (si ok.hi);unfold tF;simp only[av,az,ag,ak]at hs a1 a2 hl;by_cases h1:DM x=0
 ·have e1:(DM x=0)=True:=tt h1;simp only[oF,uH,av,az,ag,ak,aK,go_sem,apB,apA,apC,apD,hk,hs,e1]
 ·have e1:(DM x=0)=False:=ff h1;simp only[oF,uH,av,az,ag,ak,go_sem,apB,apA,apC,apD,apE,hk,hs,e1,a1,a2,hl]
theorem adG{x:Ri}(ok:OkI x)(hx:kI x=true):R F.interval_Mag [av x] []=some (.tup [ag (Aj x),B true],[]):=by
 refine aA JT rfl ?_;have hk:=sf ok;rw[hx]at hk;have a1:=Ic ok.lo;have a2:=Ic ok.hi;rw[show(if vd x.lo=false\/x.lo.m.length=0 then aK else(⟨false,x.lo.m,x.lo.e⟩:Rd))=mR x.lo from rfl]at a1;rw[show(if vd x.hi=false\/x.hi.m.length=0 then aK else(⟨false,x.hi.m,x.hi.e⟩:Rd))=mR x.hi from rfl]at a2;have hl:=Kc (si ok.lo) (si ok.hi);unfold Aj;simp only[ag,ak]at a1 a2 hl;simp only[tj,AF,av,az,ag,ak,go_sem,apB,apA,apC,apD,apE,hk,a1,a2,hl]
def jL(x:Ri):Ri:=if kI x=true then⟨tF x,Aj x,false⟩else cB
theorem abE{x:Ri}(ok:OkI x):R F.interval_Abs [av x] []=some (av (jL x),[]):=by
 refine aA JM rfl ?_;have hk:=sf ok;have hw:=kX;unfold jL;cases hx:kI x with
 |false=>
  rw[hx]at hk;simp only[oj,uB,av,az,go_sem,apB,apA,apC,apD,hk,hw]
 |true=>
  rw[hx]at hk;have h1:=adF ok hx;have h2:=adG ok hx;simp only[av,az,ag,ak]at h1 h2;simp only[oj,uB,av,az,go_sem,apB,apA,apC,apD,hk,h1,h2]
def qj(dn up:Rd->Rd->Rd×Int)(pr:Nat->Rd×Rd):Nat->Nat->Rd×Rd->Option (Rd×Rd)
 |0,_,o=>some o
 |k+1,i,o=>if(dn (pr i).1 (pr i).2).2=0/\(up (pr i).1 (pr i).2).2=0 then
   qj dn up pr k (i+1) (if dt (dn (pr i).1 (pr i).2).1 o.1<0 then(dn (pr i).1 (pr i).2).1 else o.1,if 0<dt (up (pr i).1 (pr i).2).1 o.2 then(up (pr i).1 (pr i).2).1 else o.2)
  else none
def jV(dn up:Rd->Rd->Rd×Int)(pr:Nat->Rd×Rd):Option (Rd×Rd):=
 if(dn (pr 0).1 (pr 0).2).2=0/\(up (pr 0).1 (pr 0).2).2=0 then qj dn up pr 3 1 ((dn (pr 0).1 (pr 0).2).1,(up (pr 0).1 (pr 0).2).1)else none
def CC:Option (Rd×Rd)->Ri
 |some o=>⟨o.1,o.2,false⟩
 |none=>cB
def MX(x:Option (Ex×St))(o:Option (Rd×Rd)):Prop:=match o with
 |some q=>∃hh,x=some (.normal,⟨upd (upd (fun _=>.any) 12 (.ref 12 none 0 0 0)) 10 (.ref 10 none 0 0 0),hh⟩)/\hh 10=.bx [.v (.bool false),.emp,.v (.int .i64 0),.v (.bool false),.emp,.v (.int .i64 0),.v (.bool false)]/\hh 12=.bx (az ⟨q.1,q.2,false⟩)
 |none=>∃hh,x=some (.ret,⟨upd (fun _=>.any) 10 (.ref 10 none 0 0 0),hh⟩)/\hh 10=.bx (az cB)
theorem xq{a b:Rd}{p:Int}{up:Bool}:Ok0 (bZ a b p up).1:=by
 unfold bZ;split
 ·exact tD.2
 ·exact bj.2
structure Op2 (f:FuncId) (g:Rd->Rd->Rd×Int) (p:Int):Prop where
 ct:∀ {a b:Rd},Ok0 a->Ok0 b->R f [ag a,ag b,I p] []=some (rV (g a b),[])
 ok:∀ {a b:Rd},Ok0 (g a b).1
 s:Oh f [[.o 0 [],.o 2 [],.o 0 []],[.o 0 [],.o 2 [],.o 0 []],[]]
 m:Oi f []
 k:Oj f false
 c:Sg f
theorem Xa{p:Int}{A:AV}{pr:Nat->Rd×Rd}{fD fU:FuncId}{dn up:Rd->Rd->Rd×Int}(oD:Op2 fD dn p)(oU:Op2 fU up p)(hA:eN [10,12] A=A)(hidx:∀i:Nat,i<4->Em 4 6 true A (I i)=some (.agg [B (pr i).1.neg,lm (pr i).1.m,I (pr i).1.e,B (pr i).2.neg,lm (pr i).2.m,I (pr i).2.e]))
  (hok:∀i,Ok0 (pr i).1/\Ok0 (pr i).2):∀ (k i:Nat),i+k=4->1<=i->∀ (lo hi:Rd) (s:af) (h:ac),Ok0 lo->Ok0 hi->s 2=I p->s 3=.fn fD [] []->s 4=.fn fU [] []->s 10=.ref 10 none 0 0 0->s 12=.ref 12 none 0 0 0->s 40=A->s 41=I i->
  h 10=.bx [.v (.bool false),.emp,.v (.int .i64 0),.v (.bool false),.emp,.v (.int .i64 0),.v (.bool false)]->h 12=.bx (az ⟨lo,hi,false⟩)->
  MX (am 0 [10,12] (aD (aj R (aH false) bc) [2,3,4,10,12,40,41] [10,12] s h)) (qj dn up pr k i (lo,hi)):=by
 intro k;induction k with
 |zero=>
  intro i hi4 h1 lo hi s h olo ohi h2 h3 h4 h10 h12 h40 h41 k10 k12;have e1:((i:Int)<4)=False:=ff (by omega);simp only[az]at k12;rw[ai];refine⟨?hh0,?_,?_,?_⟩;rotate_left
  ·simp only[bc,go_sem,apE,h2,h3,h4,h10,h12,h40,h41,k10,k12,hA,e1];rfl
  ·rfl
  ·rfl
 |succ k ih=>
  intro i hi4 h1 lo hi s h olo ohi h2 h3 h4 h10 h12 h40 h41 k10 k12;have e1:((i:Int)<4)=True:=tt (by omega);have e0:((i:Int)=0)=False:=ff (by omega);have ei:=hidx i (by omega);have e5:IntKind.i64.wrap ((i:Int)+1)=((i+1:Nat):Int):=wi (by omega) (by omega);have hd:=oD.ct (hok i).1 (hok i).2;have hu:=oU.ct (hok i).1 (hok i).2;have hw:=kX;have okd:=oD.ok (a:=(pr i).1) (b:=(pr i).2);have oku:=oU.ok (a:=(pr i).1) (b:=(pr i).2);have c1:=qh okd olo;have c2:=qh oku ohi;rw[show∀a b:Rd,(if vd a=true/\vd b=true then bD (zI a) (zI b)else 0)=dt a b from fun _ _=>rfl]at c1 c2;have ih':=ih (i+1) (by omega) (by omega);unfold qj;simp only[az]at k12;show MX _ (if(dn (pr i).1 (pr i).2).2=0/\(up (pr i).1 (pr i).2).2=0 then _ else none);generalize dn (pr i).1 (pr i).2=r at hd okd c1⊢;generalize up (pr i).1 (pr i).2=q at hu oku c2⊢;obtain⟨r1,r2⟩:=r;obtain⟨q1,q2⟩:=q;show MX _ (if r2=0/\q2=0 then qj dn up pr k (i+1) (if dt r1 lo<0 then r1 else lo,if 0<dt q1 hi then q1 else hi)else none);simp only[rV,ag,ak,av,az,cB,aK]at hd hu hw c1 c2;rw[ai];generalize aD _ _ _=L at ih'⊢;by_cases hr:r2=0
  ·have er:(r2=0)=True:=tt hr;by_cases hq:q2=0
   ·have eq:(q2=0)=True:=tt hq;rw[if_pos (show r2=0/\q2=0 from⟨hr,hq⟩)];by_cases g1:dt r1 lo<0
    ·have f1:(dt r1 lo<0)=True:=tt g1;by_cases g2:0<dt q1 hi
     ·have f2:(0<dt q1 hi)=True:=tt g2;rw[if_pos g1,if_pos g2];simp only[bc,Int.cast_ofNat_Int,go_sem,oD.s,oD.m,oD.k,oD.c,oU.s,oU.m,oU.k,oU.c,apB,apA,apC,apF,apH,apG,apE,h2,h3,h4,h10,h12,h40,h41,k10,k12,hA,e1,e0,ei,hd,hu,er,eq,c1,c2,f1,f2,e5];exact ih' r1 q1 _ _ okd oku rfl rfl rfl rfl rfl rfl rfl rfl rfl
     ·have f2:(0<dt q1 hi)=False:=ff g2;rw[if_pos g1,if_neg g2];simp only[bc,Int.cast_ofNat_Int,go_sem,oD.s,oD.m,oD.k,oD.c,oU.s,oU.m,oU.k,oU.c,apB,apA,apC,apF,apH,apG,apE,h2,h3,h4,h10,h12,h40,h41,k10,k12,hA,e1,e0,ei,hd,hu,er,eq,c1,c2,f1,f2,e5];exact ih' r1 hi _ _ okd ohi rfl rfl rfl rfl rfl rfl rfl rfl rfl
    ·have f1:(dt r1 lo<0)=False:=ff g1;by_cases g2:0<dt q1 hi
     ·have f2:(0<dt q1 hi)=True:=tt g2;rw[if_neg g1,if_pos g2];simp only[bc,Int.cast_ofNat_Int,go_sem,oD.s,oD.m,oD.k,oD.c,oU.s,oU.m,oU.k,oU.c,apB,apA,apC,apF,apH,apG,apE,h2,h3,h4,h10,h12,h40,h41,k10,k12,hA,e1,e0,ei,hd,hu,er,eq,c1,c2,f1,f2,e5];exact ih' lo q1 _ _ olo oku rfl rfl rfl rfl rfl rfl rfl rfl rfl
     ·have f2:(0<dt q1 hi)=False:=ff g2;rw[if_neg g1,if_neg g2];simp only[bc,Int.cast_ofNat_Int,go_sem,oD.s,oD.m,oD.k,oD.c,oU.s,oU.m,oU.k,oU.c,apB,apA,apC,apF,apH,apG,apE,h2,h3,h4,h10,h12,h40,h41,k10,k12,hA,e1,e0,ei,hd,hu,er,eq,c1,c2,f1,f2,e5];exact ih' lo hi _ _ olo ohi rfl rfl rfl rfl rfl rfl rfl rfl rfl
   ·have eq:(q2=0)=False:=ff hq;rw[if_neg (show¬(r2=0/\q2=0)from fun h=>hq h.2)];refine⟨?hh1,?_,?_⟩;rotate_left
    ·simp only[bc,Int.cast_ofNat_Int,go_sem,oD.s,oD.m,oD.k,oD.c,oU.s,oU.m,oU.k,oU.c,apB,apA,apC,apF,apH,apG,apE,h2,h3,h4,h10,h12,h40,h41,k10,k12,hA,e1,ei,hd,hu,er,eq,hw];rfl
    ·rfl
  ·have er:(r2=0)=False:=ff hr;rw[if_neg (show¬(r2=0/\q2=0)from fun h=>hr h.1)];refine⟨?hh2,?_,?_⟩;rotate_left
   ·simp only[bc,Int.cast_ofNat_Int,go_sem,oD.s,oD.m,oD.k,oD.c,oU.s,oU.m,oU.k,oU.c,apB,apA,apC,apF,apH,apG,apE,h2,h3,h4,h10,h12,h40,h41,k10,k12,hA,e1,ei,hd,hu,er,hw];rfl
   ·rfl
theorem UW{p:Int}{A:AV}{pr:Nat->Rd×Rd}{fD fU:FuncId}{dn up:Rd->Rd->Rd×Int}(oD:Op2 fD dn p)(oU:Op2 fU up p)(hA:eN [10,12] A=A)(hidx:∀i:Nat,i<4->Em 4 6 true A (I i)=some (.agg [B (pr i).1.neg,lm (pr i).1.m,I (pr i).1.e,B (pr i).2.neg,lm (pr i).2.m,I (pr i).2.e]))
  (hok:∀i,Ok0 (pr i).1/\Ok0 (pr i).2) (s:af) (h:ac) (h2:s 2=I p) (h3:s 3=.fn fD [] []) (h4:s 4=.fn fU [] []) (h10:s 10=.ref 10 none 0 0 0) (h12:s 12=.ref 12 none 0 0 0) (h40:s 40=A) (h41:s 41=I 0)
  (k10:h 10=.bx [.v (.bool false),.emp,.v (.int .i64 0),.v (.bool false),.emp,.v (.int .i64 0),.v (.bool false)]) (k12:h 12=.bx [.v (.bool false),.emp,.v (.int .i64 0),.v (.bool false),.emp,.v (.int .i64 0),.v (.bool false)]):
  MX (am 0 [10,12] (aD (aj R (aH false) bc) [2,3,4,10,12,40,41] [10,12] s h)) (jV dn up pr):=by
 have ei:=hidx 0 (by decide);simp only[Int.natCast_zero]at ei;have hd:=oD.ct (hok 0).1 (hok 0).2;have hu:=oU.ct (hok 0).1 (hok 0).2;have hw:=kX;have okd:=oD.ok (a:=(pr 0).1) (b:=(pr 0).2);have oku:=oU.ok (a:=(pr 0).1) (b:=(pr 0).2);have ih':=Xa (p:=p) (A:=A) (pr:=pr) oD oU hA hidx hok 3 1 rfl (by decide);unfold jV;generalize dn (pr 0).1 (pr 0).2=r at hd okd⊢;generalize up (pr 0).1 (pr 0).2=q at hu oku⊢;obtain⟨r1,r2⟩:=r;obtain⟨q1,q2⟩:=q;simp only[rV,ag,ak,av,az,cB,aK]at hd hu hw;rw[ai];have e6:IntKind.i64.wrap (0+1)=1:=rfl;by_cases hr:r2=0
 ·have er:(r2=0)=True:=tt hr;by_cases hq:q2=0
  ·have eq:(q2=0)=True:=tt hq;simp only[bc,Int.cast_ofNat_Int,go_sem,oD.s,oD.m,oD.k,oD.c,oU.s,oU.m,oU.k,oU.c,apB,apA,apC,apF,apH,apG,apE,h2,h3,h4,h10,h12,h40,h41,k10,k12,hA,ei,hd,hu,er,eq,e6];exact ih' r1 q1 _ _ okd oku rfl rfl rfl rfl rfl rfl rfl rfl rfl
  ·have eq:(q2=0)=False:=ff hq;rw[if_neg (show¬(r2=0/\q2=0)from fun h=>hq h.2)];refine⟨?hh3,?_,?_⟩;rotate_left
   ·simp only[bc,Int.cast_ofNat_Int,go_sem,oD.s,oD.m,oD.k,oD.c,oU.s,oU.m,oU.k,oU.c,apB,apA,apC,apF,apH,apG,apE,h2,h3,h4,h10,h12,h40,h41,k10,k12,hA,ei,hd,hu,er,eq,hw];rfl
   ·rfl
 ·have er:(r2=0)=False:=ff hr;rw[if_neg (show¬(r2=0/\q2=0)from fun h=>hr h.1)];refine⟨?hh4,?_,?_⟩;rotate_left
  ·simp only[bc,Int.cast_ofNat_Int,go_sem,oD.s,oD.m,oD.k,oD.c,oU.s,oU.m,oU.k,oU.c,apB,apA,apC,apF,apH,apG,apE,h2,h3,h4,h10,h12,h40,h41,k10,k12,hA,ei,hd,hu,er,hw];rfl
  ·rfl
def en(x y:Ri)(i:Nat):Rd×Rd:=match i with
 |0=>(x.lo,y.lo)
 |1=>(x.lo,y.hi)
 |2=>(x.hi,y.lo)
 |_=>(x.hi,y.hi)
def jM(x y:Ri)(p:Int):Ri:=if(kI x&&kI y&&bK p)=true then CC (jV (fun a b=>bZ a b p false) (fun a b=>bZ a b p true) (en x y))else cB
noncomputable def wM:Cmd:=.seq (.seq (.ops [2,3,4,10,12,40,41] [⟨(some 40),none,.load 24 true (.t 11)⟩,co 41 (.mv (.c (.v (.int .i64 0))))]) (.block 0 [10,12] (.loop [2,3,4,10,12,40,41] [10,12] bc))) (.seq (.ops [10] [⟨(some 95),none,.load 7 true (.t 12)⟩,⟨none,none,.store 7 (.t 10) (.t 95)⟩]) (.ret))
theorem Ak:y7=.seq (.ops [2,3,4,5,6,10] [⟨(some 5),none,.box 7 (.t 0)⟩,⟨(some 6),none,.box 7 (.t 1)⟩,⟨(some 10),none,.alloc [(.v (.bool false)),.emp,(.v (.int .i64 0)),(.v (.bool false)),.emp,(.v (.int .i64 0)),(.v (.bool false))]⟩]) (.seq (.ops [2,3,4,10,11] [co 19 (.fadr 0 (.t 5)),⟨(some 20),none,.load 3 true (.t 19)⟩,co 21 (.fadr 0 (.t 6)),⟨(some 22),none,.load 3 true (.t 21)⟩,co 23 (.build [(.v (.bool false)),.emp,(.v (.int .i64 0)),(.v (.bool false)),.emp,(.v (.int .i64 0))] [(0,3,(.t 20)),(3,3,(.t 22))]),co 24 (.fadr 0 (.t 5)),⟨(some 25),none,.load 3 true (.t 24)⟩,co 26 (.fadr 3 (.t 6)),⟨(some 27),none,.load 3 true (.t 26)⟩,co 28 (.build [(.v (.bool false)),.emp,(.v (.int .i64 0)),(.v (.bool false)),.emp,(.v (.int .i64 0))] [(0,3,(.t 25)),(3,3,(.t 27))]),co 29 (.fadr 3 (.t 5)),⟨(some 30),none,.load 3 true (.t 29)⟩,co 31 (.fadr 0 (.t 6)),⟨(some 32),none,.load 3 true (.t 31)⟩,co 33 (.build [(.v (.bool false)),.emp,(.v (.int .i64 0)),(.v (.bool false)),.emp,(.v (.int .i64 0))] [(0,3,(.t 30)),(3,3,(.t 32))]),co 34 (.fadr 3 (.t 5)),⟨(some 35),none,.load 3 true (.t 34)⟩,co 36 (.fadr 3 (.t 6)),⟨(some 37),none,.load 3 true (.t 36)⟩,co 38 (.build [(.v (.bool false)),.emp,(.v (.int .i64 0)),(.v (.bool false)),.emp,(.v (.int .i64 0))] [(0,3,(.t 35)),(3,3,(.t 37))]),co 39 (.build [(.v (.bool false)),.emp,(.v (.int .i64 0)),(.v (.bool false)),.emp,(.v (.int .i64 0)),(.v (.bool false)),.emp,(.v (.int .i64 0)),(.v (.bool false)),.emp,(.v (.int .i64 0)),(.v (.bool false)),.emp,(.v (.int .i64 0)),(.v (.bool false)),.emp,(.v (.int .i64 0)),(.v (.bool false)),.emp,(.v (.int .i64 0)),(.v (.bool false)),.emp,(.v (.int .i64 0))] [(0,6,(.t 23)),(6,6,(.t 28)),(12,6,(.t 33)),(18,6,(.t 38))]),⟨(some 11),none,.alloc [(.v (.bool false)),.emp,(.v (.int .i64 0)),(.v (.bool false)),.emp,(.v (.int .i64 0)),(.v (.bool false)),.emp,(.v (.int .i64 0)),(.v (.bool false)),.emp,(.v (.int .i64 0)),(.v (.bool false)),.emp,(.v (.int .i64 0)),(.v (.bool false)),.emp,(.v (.int .i64 0)),(.v (.bool false)),.emp,(.v (.int .i64 0)),(.v (.bool false)),.emp,(.v (.int .i64 0))]⟩,⟨none,none,.store 24 (.t 11) (.t 39)⟩]) (.seq (.ops [2,3,4,10,11,12] [⟨(some 12),none,.alloc [(.v (.bool false)),.emp,(.v (.int .i64 0)),(.v (.bool false)),.emp,(.v (.int .i64 0)),(.v (.bool false))]⟩]) wM)):=rfl
theorem adH{x y:Ri}(ox:OkI x)(oy:OkI y)(i:Nat):Ok0 (en x y i).1/\Ok0 (en x y i).2:=by
 unfold en;split
 ·exact⟨ox.1,oy.1⟩
 ·exact⟨ox.1,oy.2⟩
 ·exact⟨ox.2,oy.1⟩
 ·exact⟨ox.2,oy.2⟩
def UX(x y:Ri):List AV:=[B x.lo.neg,lm x.lo.m,I x.lo.e,B y.lo.neg,lm y.lo.m,I y.lo.e,B x.lo.neg,lm x.lo.m,I x.lo.e,B y.hi.neg,lm y.hi.m,I y.hi.e,B x.hi.neg,lm x.hi.m,I x.hi.e,B y.lo.neg,lm y.lo.m,I y.lo.e,B x.hi.neg,lm x.hi.m,I x.hi.e,B y.hi.neg,lm y.hi.m,I y.hi.e]
theorem Xb{x y:Ri}(ox:OkI x)(oy:OkI y){p:Int}{fD fU:FuncId}{dn up:Rd->Rd->Rd×Int}(oD:Op2 fD dn p)(oU:Op2 fU up p)(s:af)(h:ac)(h2:s 2=I p)(h3:s 3=.fn fD [] [])(h4:s 4=.fn fU [] [])(h10:s 10=.ref 10 none 0 0 0)(h11:s 11=.ref 11 none 0 0 0)(h12:s 12=.ref 12 none 0 0 0)
  (k10:h 10=.bx [.v (.bool false),.emp,.v (.int .i64 0),.v (.bool false),.emp,.v (.int .i64 0),.v (.bool false)]) (k11:h 11=.bx (UX x y)) (k12:h 12=.bx [.v (.bool false),.emp,.v (.int .i64 0),.v (.bool false),.emp,.v (.int .i64 0),.v (.bool false)]):
  gM false [[.o 0 [],.o 2 [],.o 0 [],.o 0 [],.o 2 [],.o 0 [],.o 0 []]] [.cell 10 7 true] 0 (aj R (aH false) wM s h)=some (av (CC (jV dn up (en x y))),[]):=by
 obtain⟨A,hAe⟩:∃A:AV,A=.agg (UX x y):=⟨_,rfl⟩;have hA:eN [10,12] A=A:=by
  rw[hAe];rfl
 have hf:=UW (p:=p) (A:=A) (pr:=en x y) oD oU hA (fun i hi=>by
  rw[hAe]
  match i,hi with
  |0,_=>rfl
  |1,_=>rfl
  |2,_=>rfl
  |3,_=>rfl) (adH ox oy)
 have hl:fW h 24 true (.ref 11 none 0 0 0)=some (A,h,[]):=by
  rw[hAe];simp only[UX]at k11⊢;simp only[go_sem,apB,apA,apC,k11]
 have hP:∀ (s:af) (h:ac),s 2=I p->s 3=.fn fD [] []->s 4=.fn fU [] []->s 10=.ref 10 none 0 0 0->s 12=.ref 12 none 0 0 0->s 40=A->s 41=I 0->h 10=.bx [.v (.bool false),.emp,.v (.int .i64 0),.v (.bool false),.emp,.v (.int .i64 0),.v (.bool false)]->h 12=.bx [.v (.bool false),.emp,.v (.int .i64 0),.v (.bool false),.emp,.v (.int .i64 0),.v (.bool false)]->
   gM false [[.o 0 [],.o 2 [],.o 0 [],.o 0 [],.o 2 [],.o 0 [],.o 0 []]] [.cell 10 7 true] 0 (bL (am 0 [10,12] (aD (aj R (aH false) bc) [2,3,4,10,12,40,41] [10,12] s h)) (aj R (aH false) (.seq (.ops [10] [⟨(some 95),none,.load 7 true (.t 12)⟩,⟨none,none,.store 7 (.t 10) (.t 95)⟩]) (.ret))))=some (av (CC (jV dn up (en x y))),[]):=fun s h a2 a3 a4 a10 a12 a40 a41 b10 b12=>by
  have hg:=hf s h a2 a3 a4 a10 a12 a40 a41 b10 b12;cases ho:jV dn up (en x y)with
  |none=>
   rw[ho]at hg;obtain⟨hh,g1,g2⟩:=hg;rw[g1];simp only[CC,cB,av,az,aK,g2,go_sem,apB,apA,apC]
  |some q=>
   rw[ho]at hg;obtain⟨hh,g1,g2,g3⟩:=hg;rw[g1];simp only[CC,av,az,g2,g3,go_sem,apB,apA,apC]
 generalize hLL:aD (aj R (aH false) bc) [2,3,4,10,12,40,41] [10,12]=L at hP;have hX:∀s h,aj R (aH false) (.loop [2,3,4,10,12,40,41] [10,12] bc) s h=L s h:=fun s h=>by rw[←hLL];rfl
 show gM _ _ _ _ (bL (bL (aj R (aH false) (.ops [2,3,4,10,12,40,41] [⟨(some 40),none,.load 24 true (.t 11)⟩,co 41 (.mv (.c (.v (.int .i64 0))))]) s h) fun s h=>am 0 [10,12] (aj R (aH false) (.loop [2,3,4,10,12,40,41] [10,12] bc) s h)) _)=_;simp only[hX];simp only[go_sem,h2,h3,h4,h10,h11,h12,hl];exact hP _ _ rfl rfl rfl rfl rfl rfl rfl k10 k12
theorem Sw{x y:Ri}(ox:OkI x)(oy:OkI y){p:Int}{fD fU:FuncId}{dn up:Rd->Rd->Rd×Int}(oD:Op2 fD dn p)(oU:Op2 fU up p):R F.interval_four [av x,av y,I p,.fn fD [] [],.fn fU [] []] []=some (av (CC (jV dn up (en x y))),[]):=by
 refine aA H2 rfl ?_;simp only[rB,Ak,av,az,go_sem,apB,apA,apC];exact Xb ox oy oD oU _ _ rfl rfl rfl rfl rfl rfl rfl rfl rfl
theorem Kd{x y:Ri}(ox:OkI x)(oy:OkI y){p:Int}:R F.interval_Mul [av x,av y,I p] []=some (av (jM x y p),[]):=by
 refine aA JF rfl ?_;have hk:=zB ox oy;have hp:=tE (p:=p);have hw:=kX;have hf:=Sw ox oy (p:=p) (dn:=fun a b=>bZ a b p false) (up:=fun a b=>bZ a b p true) ⟨fun h1 h2=>FY h1 h2,xq,kM.1.1,kM.1.2.1,kM.1.2.2.2,kM.1.2.2.1⟩ ⟨fun h1 h2=>LB h1 h2,xq,nC.1.1,nC.1.2.1,nC.1.2.2.2,nC.1.2.2.1⟩;unfold jM;simp only[av,az]at hw hf;cases h1:(kI x&&kI y)with
 |false=>
  rw[h1]at hk;simp only[kz,pJ,av,az,go_sem,apB,apA,apC,apD,hk,hw]
 |true=>
  rw[h1]at hk;cases h2:bK p with
  |false=>
   rw[h2]at hp;simp only[kz,pJ,av,az,go_sem,apB,apA,apC,apD,hk,hp,hw]
  |true=>
   rw[h2]at hp;simp only[kz,pJ,av,az,go_sem,apB,apA,apC,apD,hk,hp,hf]
def ft(d:Rd)(p:Int)(up:Bool):Nat->Rd×Int->Rd×Int
 |0,r=>r
 |k+1,r=>if r.2=0 then ft d p up k (bZ r.1 d p up)else r
def pw(d:Rd)(n:Nat)(p:Int)(up:Bool):Rd×Int:=ft d p up (n-1) (dU d p up)
theorem Ke{d:Rd}{p:Int}{up:Bool}:Ok0 (dU d p up).1:=by
 unfold dU;split
 ·exact tD.2
 ·exact bj.2
theorem adI{d:Rd}{p:Int}{up:Bool}:∀ (k:Nat) (r:Rd×Int),Ok0 r.1->Ok0 (ft d p up k r).1:=by
 intro k;induction k with
 |zero=>exact fun r h=>h
 |succ k ih=>
  grind[ft,xq]
theorem aaP{d:Rd}{n:Nat}{p:Int}{up:Bool}:Ok0 (pw d n p up).1:=adI _ _ Ke
noncomputable def px:Cmd:=.seq (.seq (.ops [1,2,4,5,10,12,13,14] [co 14 (.mv (.c (.v (.int .i64 1))))]) (.block 0 [10,12,13] (.loop [1,2,4,5,10,12,13,14] [5,10,12] aM))) (.seq (.ops [10,11] [⟨(some 39),none,.load 3 true (.t 12)⟩,cm 40 13,⟨none,none,.store 3 (.t 10) (.t 39)⟩,cm 11 40]) (.ret))
theorem qu:x7=.seq (.ops [1,2,3,4,5,10] [⟨(some 5),none,.box 3 (.t 0)⟩,⟨(some 10),none,.alloc [(.v (.bool false)),.emp,(.v (.int .i64 0))]⟩,co 11 (.mv (.c (.v (.int .i64 0))))]) (.seq (.ops [1,2,4,5,10,12,13] [cm 16 3,⟨(some 17),none,.load 3 true (.t 5)⟩,cm 18 2,⟨(some 19),none,.call (.t 16) [(.t 17),(.t 18)]⟩,cm 15 19,co 20 (.ext 0 (.t 15)),co 21 (.ext 1 (.t 15)),⟨(some 12),none,.alloc [(.v (.bool false)),.emp,(.v (.int .i64 0))]⟩,⟨none,none,.store 3 (.t 12) (.t 20)⟩,cm 13 21]) px):=rfl
theorem Xc{d:Rd}(ok:Ok0 d){p:Int}{n:Nat}(hn:n<=100000):∀ (k i:Nat),i+k=n->∀ (r:Rd×Int),Ok0 r.1->∀ (s:af) (h:ac),s 1=I n->s 2=I p->s 4=.fn F.round_MulUp [] []->s 5=.ref 5 none 0 0 0->s 10=.ref 10 none 0 0 0->s 12=.ref 12 none 0 0 0->s 13=I r.2->s 14=I i->
  h 5=.bx (ak d)->h 10=.bx [.v (.bool false),.emp,.v (.int .i64 0)]->h 12=.bx (ak r.1)->
  ∃hh,am 0 [10,12,13] (aD (aj R (aH false) aM) [1,2,4,5,10,12,13,14] [5,10,12] s h)=some (.normal,⟨upd (upd (upd (fun _=>.any) 13 (I (ft d p true k r).2)) 12 (.ref 12 none 0 0 0)) 10 (.ref 10 none 0 0 0),hh⟩)/\hh 10=.bx [.v (.bool false),.emp,.v (.int .i64 0)]/\hh 12=.bx (ak (ft d p true k r).1):=by
 intro k;induction k with
 |zero=>
  intro i hi r hr s h h1 h2 h4 h5 h10 h12 h13 h14 k5 k10 k12;have e1:((i:Int)<n)=False:=ff (by omega);rw[ai];refine⟨?hh0,?_,?_,?_⟩;rotate_left
  ·simp only[aM,ft,go_sem,apE,h1,h2,h4,h5,h10,h12,h13,h14,k5,k10,k12,e1];rfl
  ·rfl
  ·rfl
 |succ k ih=>
  intro i hi r hr s h h1 h2 h4 h5 h10 h12 h13 h14 k5 k10 k12;have e1:((i:Int)<n)=True:=tt (by omega);have e5:IntKind.i64.wrap ((i:Int)+1)=((i+1:Nat):Int):=wi (by omega) (by omega);obtain⟨r1,r2⟩:=r;have hm:=LB hr ok (p:=p);have okm:=xq (a:=r1) (b:=d) (p:=p) (up:=true);have ih':=ih (i+1) (by omega);unfold ft;generalize bZ r1 d p true=q at hm okm⊢;obtain⟨q1,q2⟩:=q;simp only[rV,ag,ak]at hm k5 k12;rw[ai];by_cases hr:r2=0
  ·have er:(r2=0)=True:=tt hr;simp only[aM,ak,go_sem,apB,apA,apC,apE,h1,h2,h4,h5,h10,h12,h13,h14,k5,k10,k12,e1,er,hm,e5];exact ih' (q1,q2) okm _ _ rfl rfl rfl rfl rfl rfl rfl rfl rfl rfl rfl
  ·have er:(r2=0)=False:=ff hr;rw[if_neg hr];refine⟨?hh1,?_,?_,?_⟩;rotate_left
   ·simp only[aM,go_sem,apE,h1,h2,h4,h5,h10,h12,h13,h14,k5,k10,k12,e1,er];rfl
   ·rfl
   ·rfl
theorem Xd{d:Rd}(ok:Ok0 d){p:Int}{n:Nat}(hn:n<=100000){r:Rd×Int}(hr:Ok0 r.1)(s:af)(h:ac)(h1:s 1=I n)(h2:s 2=I p)(h4:s 4=.fn F.round_MulUp [] [])(h5:s 5=.ref 5 none 0 0 0)(h10:s 10=.ref 10 none 0 0 0)(h12:s 12=.ref 12 none 0 0 0)(h13:s 13=I r.2)
  (k5:h 5=.bx (ak d)) (k10:h 10=.bx [.v (.bool false),.emp,.v (.int .i64 0)]) (k12:h 12=.bx (ak r.1)):
  gM false [[.o 0 [],.o 2 [],.o 0 []],[]] [.cell 10 3 true,.t 11] 0 (aj R (aH false) px s h)=some (rV (ft d p true (n-1) r),[]):=by
 have hl:∀ (s:af) (h:ac),s 1=I n->s 2=I p->s 4=.fn F.round_MulUp [] []->s 5=.ref 5 none 0 0 0->s 10=.ref 10 none 0 0 0->s 12=.ref 12 none 0 0 0->s 13=I r.2->s 14=I 1->
  h 5=.bx (ak d)->h 10=.bx [.v (.bool false),.emp,.v (.int .i64 0)]->h 12=.bx (ak r.1)->
  ∃hh,am 0 [10,12,13] (aD (aj R (aH false) aM) [1,2,4,5,10,12,13,14] [5,10,12] s h)=some (.normal,⟨upd (upd (upd (fun _=>.any) 13 (I (ft d p true (n-1) r).2)) 12 (.ref 12 none 0 0 0)) 10 (.ref 10 none 0 0 0),hh⟩)/\hh 10=.bx [.v (.bool false),.emp,.v (.int .i64 0)]/\hh 12=.bx (ak (ft d p true (n-1) r).1):=by
  by_cases h0:n=0
  ·intro s h a1 a2 a4 a5 a10 a12 a13 a14 b5 b10 b12;have e1:((1:Int)< (n:Nat))=False:=ff (by omega);subst h0;rw[ai];refine⟨?hh0,?_,?_,?_⟩;rotate_left
   ·simp only[aM,ft,go_sem,apJ,apE,a1,a2,a4,a5,a10,a12,a13,a14,b5,b10,b12,e1];rfl
   ·rfl
   ·rfl
  ·have:=Xc ok (p:=p) hn (n-1) 1 (by omega) r hr
   simp_all
 generalize ft d p true (n-1) r=q at hl⊢;obtain⟨r1,r2⟩:=r;obtain⟨q1,q2⟩:=q;have hP:∀ (s:af) (h:ac),s 1=I n->s 2=I p->s 4=.fn F.round_MulUp [] []->s 5=.ref 5 none 0 0 0->s 10=.ref 10 none 0 0 0->s 12=.ref 12 none 0 0 0->s 13=I r2->s 14=I 1->
  h 5=.bx (ak d)->h 10=.bx [.v (.bool false),.emp,.v (.int .i64 0)]->h 12=.bx (ak r1)->
  gM false [[.o 0 [],.o 2 [],.o 0 []],[]] [.cell 10 3 true,.t 11] 0 (bL (am 0 [10,12,13] (aD (aj R (aH false) aM) [1,2,4,5,10,12,13,14] [5,10,12] s h)) (aj R (aH false) (.seq (.ops [10,11] [⟨(some 39),none,.load 3 true (.t 12)⟩,cm 40 13,⟨none,none,.store 3 (.t 10) (.t 39)⟩,cm 11 40]) (.ret))))=some (rV (q1,q2),[]):=fun s h a1 a2 a4 a5 a10 a12 a13 a14 b5 b10 b12=>by
  obtain⟨hh,g1,g2,g3⟩:=hl s h a1 a2 a4 a5 a10 a12 a13 a14 b5 b10 b12;rw[g1];simp only[rV,ag,ak,g2,g3,go_sem,apB,apA,apC]
 generalize hLL:aD (aj R (aH false) aM) [1,2,4,5,10,12,13,14] [5,10,12]=L at hP;have hX:∀s h,aj R (aH false) (.loop [1,2,4,5,10,12,13,14] [5,10,12] aM) s h=L s h:=fun s h=>by rw[←hLL];rfl
 show gM _ _ _ _ (bL (bL (aj R (aH false) (.ops [1,2,4,5,10,12,13,14] [co 14 (.mv (.c (.v (.int .i64 1))))]) s h) fun s h=>am 0 [10,12,13] (aj R (aH false) (.loop [1,2,4,5,10,12,13,14] [5,10,12] aM) s h)) _)=_;simp only[hX];simp only[go_sem,h1,h2,h4,h5,h10,h12,h13];exact hP _ _ rfl rfl rfl rfl rfl rfl rfl rfl k5 k10 k12
theorem abF{d:Rd}(ok:Ok0 d){p:Int}{n:Nat}(hn:n<=100000):R F.interval_power [ag d,I n,I p,.fn F.round_Up [] [],.fn F.round_MulUp [] []] []=some (rV (pw d n p true),[]):=by
 refine aA yj rfl ?_;have hr:=abD ok (p:=p);have okr:=Ke (d:=d) (p:=p) (up:=true);have ht:=Xd ok (p:=p) hn okr;simp only[rV,ag,ak]at hr;simp only[lw,qu,ag,ak,go_sem,apB,apA,apC,hr];exact ht _ _ rfl rfl rfl rfl rfl rfl rfl rfl rfl rfl
theorem Xe{d:Rd}(ok:Ok0 d){p:Int}{n:Nat}(hn:n<=100000):∀ (k i:Nat),i+k=n->∀ (r:Rd×Int),Ok0 r.1->∀ (s:af) (h:ac),s 1=I n->s 2=I p->s 4=.fn F.round_MulDown [] []->s 5=.ref 5 none 0 0 0->s 10=.ref 10 none 0 0 0->s 12=.ref 12 none 0 0 0->s 13=I r.2->s 14=I i->
  h 5=.bx (ak d)->h 10=.bx [.v (.bool false),.emp,.v (.int .i64 0)]->h 12=.bx (ak r.1)->
  ∃hh,am 0 [10,12,13] (aD (aj R (aH false) aM) [1,2,4,5,10,12,13,14] [5,10,12] s h)=some (.normal,⟨upd (upd (upd (fun _=>.any) 13 (I (ft d p false k r).2)) 12 (.ref 12 none 0 0 0)) 10 (.ref 10 none 0 0 0),hh⟩)/\hh 10=.bx [.v (.bool false),.emp,.v (.int .i64 0)]/\hh 12=.bx (ak (ft d p false k r).1):=by
 intro k;induction k with
 |zero=>
  intro i hi r hr s h h1 h2 h4 h5 h10 h12 h13 h14 k5 k10 k12;have e1:((i:Int)<n)=False:=ff (by omega);rw[ai];refine⟨?hh0,?_,?_,?_⟩;rotate_left
  ·simp only[aM,ft,go_sem,apE,h1,h2,h4,h5,h10,h12,h13,h14,k5,k10,k12,e1];rfl
  ·rfl
  ·rfl
 |succ k ih=>
  intro i hi r hr s h h1 h2 h4 h5 h10 h12 h13 h14 k5 k10 k12;have e1:((i:Int)<n)=True:=tt (by omega);have e5:IntKind.i64.wrap ((i:Int)+1)=((i+1:Nat):Int):=wi (by omega) (by omega);obtain⟨r1,r2⟩:=r;have hm:=FY hr ok (p:=p);have okm:=xq (a:=r1) (b:=d) (p:=p) (up:=false);have ih':=ih (i+1) (by omega);unfold ft;generalize bZ r1 d p false=q at hm okm⊢;obtain⟨q1,q2⟩:=q;simp only[rV,ag,ak]at hm k5 k12;rw[ai];by_cases hr:r2=0
  ·have er:(r2=0)=True:=tt hr;simp only[aM,ak,go_sem,apB,apA,apC,apE,h1,h2,h4,h5,h10,h12,h13,h14,k5,k10,k12,e1,er,hm,e5];exact ih' (q1,q2) okm _ _ rfl rfl rfl rfl rfl rfl rfl rfl rfl rfl rfl
  ·have er:(r2=0)=False:=ff hr;rw[if_neg hr];refine⟨?hh1,?_,?_,?_⟩;rotate_left
   ·simp only[aM,go_sem,apE,h1,h2,h4,h5,h10,h12,h13,h14,k5,k10,k12,e1,er];rfl
   ·rfl
   ·rfl
theorem Xf{d:Rd}(ok:Ok0 d){p:Int}{n:Nat}(hn:n<=100000){r:Rd×Int}(hr:Ok0 r.1)(s:af)(h:ac)(h1:s 1=I n)(h2:s 2=I p)(h4:s 4=.fn F.round_MulDown [] [])(h5:s 5=.ref 5 none 0 0 0)(h10:s 10=.ref 10 none 0 0 0)(h12:s 12=.ref 12 none 0 0 0)(h13:s 13=I r.2)
  (k5:h 5=.bx (ak d)) (k10:h 10=.bx [.v (.bool false),.emp,.v (.int .i64 0)]) (k12:h 12=.bx (ak r.1)):
  gM false [[.o 0 [],.o 2 [],.o 0 []],[]] [.cell 10 3 true,.t 11] 0 (aj R (aH false) px s h)=some (rV (ft d p false (n-1) r),[]):=by
 have hl:∀ (s:af) (h:ac),s 1=I n->s 2=I p->s 4=.fn F.round_MulDown [] []->s 5=.ref 5 none 0 0 0->s 10=.ref 10 none 0 0 0->s 12=.ref 12 none 0 0 0->s 13=I r.2->s 14=I 1->
  h 5=.bx (ak d)->h 10=.bx [.v (.bool false),.emp,.v (.int .i64 0)]->h 12=.bx (ak r.1)->
  ∃hh,am 0 [10,12,13] (aD (aj R (aH false) aM) [1,2,4,5,10,12,13,14] [5,10,12] s h)=some (.normal,⟨upd (upd (upd (fun _=>.any) 13 (I (ft d p false (n-1) r).2)) 12 (.ref 12 none 0 0 0)) 10 (.ref 10 none 0 0 0),hh⟩)/\hh 10=.bx [.v (.bool false),.emp,.v (.int .i64 0)]/\hh 12=.bx (ak (ft d p false (n-1) r).1):=by
  by_cases h0:n=0
  ·intro s h a1 a2 a4 a5 a10 a12 a13 a14 b5 b10 b12;have e1:((1:Int)< (n:Nat))=False:=ff (by omega);subst h0;rw[ai];refine⟨?hh0,?_,?_,?_⟩;rotate_left
   ·simp only[aM,ft,go_sem,apJ,apE,a1,a2,a4,a5,a10,a12,a13,a14,b5,b10,b12,e1];rfl
   ·rfl
   ·rfl
  ·have:=Xe ok (p:=p) hn (n-1) 1 (by omega) r hr
   simp_all
 generalize ft d p false (n-1) r=q at hl⊢;obtain⟨r1,r2⟩:=r;obtain⟨q1,q2⟩:=q;have hP:∀ (s:af) (h:ac),s 1=I n->s 2=I p->s 4=.fn F.round_MulDown [] []->s 5=.ref 5 none 0 0 0->s 10=.ref 10 none 0 0 0->s 12=.ref 12 none 0 0 0->s 13=I r2->s 14=I 1->
  h 5=.bx (ak d)->h 10=.bx [.v (.bool false),.emp,.v (.int .i64 0)]->h 12=.bx (ak r1)->
  gM false [[.o 0 [],.o 2 [],.o 0 []],[]] [.cell 10 3 true,.t 11] 0 (bL (am 0 [10,12,13] (aD (aj R (aH false) aM) [1,2,4,5,10,12,13,14] [5,10,12] s h)) (aj R (aH false) (.seq (.ops [10,11] [⟨(some 39),none,.load 3 true (.t 12)⟩,cm 40 13,⟨none,none,.store 3 (.t 10) (.t 39)⟩,cm 11 40]) (.ret))))=some (rV (q1,q2),[]):=fun s h a1 a2 a4 a5 a10 a12 a13 a14 b5 b10 b12=>by
  obtain⟨hh,g1,g2,g3⟩:=hl s h a1 a2 a4 a5 a10 a12 a13 a14 b5 b10 b12;rw[g1];simp only[rV,ag,ak,g2,g3,go_sem,apB,apA,apC]
 generalize hLL:aD (aj R (aH false) aM) [1,2,4,5,10,12,13,14] [5,10,12]=L at hP;have hX:∀s h,aj R (aH false) (.loop [1,2,4,5,10,12,13,14] [5,10,12] aM) s h=L s h:=fun s h=>by rw[←hLL];rfl
 show gM _ _ _ _ (bL (bL (aj R (aH false) (.ops [1,2,4,5,10,12,13,14] [co 14 (.mv (.c (.v (.int .i64 1))))]) s h) fun s h=>am 0 [10,12,13] (aj R (aH false) (.loop [1,2,4,5,10,12,13,14] [5,10,12] aM) s h)) _)=_;simp only[hX];simp only[go_sem,h1,h2,h4,h5,h10,h12,h13];exact hP _ _ rfl rfl rfl rfl rfl rfl rfl rfl k5 k10 k12
theorem abG{d:Rd}(ok:Ok0 d){p:Int}{n:Nat}(hn:n<=100000):R F.interval_power [ag d,I n,I p,.fn F.round_Down [] [],.fn F.round_MulDown [] []] []=some (rV (pw d n p false),[]):=by
 refine aA yj rfl ?_;have hr:=W9 ok (p:=p);have okr:=Ke (d:=d) (p:=p) (up:=false);have ht:=Xf ok (p:=p) hn okr;simp only[rV,ag,ak]at hr;simp only[lw,qu,ag,ak,go_sem,apB,apA,apC,hr];exact ht _ _ rfl rfl rfl rfl rfl rfl rfl rfl rfl rfl
def sS(d:Rd):Int:=if vd d=false\/d.m.length=0 then 0 else if d.neg=true then-1 else 1
theorem sj{d:Rd}(ok:Ok0 d):Ok0 (dG d):=by
 unfold dG;split
 ·exact bj.2
 ·exact⟨ok.1,ok.2⟩
theorem adJ{d:Rd}(h:sS d<0):¬sS (dG d)<0:=by
 unfold sS at h;split at h
 ·omega
 ·split at h
  ·unfold sS dG;grind
  omega
def gQ(d:Rd)(n:Nat)(p:Int)(up:Bool):Rd×Int:=if sS d<0 then(dG (pw (dG d) n p (!up)).1,(pw (dG d) n p (!up)).2)else pw d n p up
theorem Sx{d:Rd}(ok:Ok0 d)(hs:¬sS d<0){p:Int}{n:Nat}(hn:n<=100000){up:Bool}:R F.interval_end [ag d,I n,I p,B up] []=some (rV (pw d n p up),[]):=by
 refine aA AO rfl ?_;have h1:=J1 ok;rw[show(if vd d=false\/d.m.length=0 then(0:Int)else if d.neg=true then-1 else 1)=sS d from rfl]at h1;have e1:(sS d<0)=False:=ff hs;cases up with
 |true=>
  have h2:=abF ok (p:=p) hn;simp only[rV,ag,ak]at h1 h2;simp only[kG,pT,rV,ag,ak,go_sem,apB,apA,apC,h1,e1,h2]
 |false=>
  have h2:=abG ok (p:=p) hn;simp only[rV,ag,ak]at h1 h2;simp only[kG,pT,rV,ag,ak,go_sem,apB,apA,apC,h1,e1,h2]
theorem Ih{d:Rd}(ok:Ok0 d){p:Int}{n:Nat}(hn:n<=100000){up:Bool}:R F.interval_end [ag d,I n,I p,B up] []=some (rV (gQ d n p up),[]):=by
 unfold gQ;by_cases hs:sS d<0
 ·refine aA AO rfl ?_;have h1:=J1 ok;rw[show(if vd d=false\/d.m.length=0 then(0:Int)else if d.neg=true then-1 else 1)=sS d from rfl]at h1;have e1:(sS d<0)=True:=tt hs;have h2:=DI ok;rw[show(if vd d=false\/d.m.length=0 then aK else(⟨!d.neg,d.m,d.e⟩:Rd))=dG d from rfl]at h2;have h3:=Sx (sj ok) (adJ hs) (p:=p) hn (up:=!up);have okq:=aaP (d:=dG d) (n:=n) (p:=p) (up:=!up);generalize dG d=nd at h2 h3 okq⊢;generalize pw nd n p (!up)=q at h3 okq⊢;obtain⟨q1,q2⟩:=q;have h4:=DI (d:=q1) okq;rw[show(if vd q1=false\/q1.m.length=0 then aK else(⟨!q1.neg,q1.m,q1.e⟩:Rd))=dG q1 from rfl]at h4;simp only[rV,ag,ak]at h1 h2 h3 h4;simp only[kG,pT,rV,ag,ak,go_sem,apB,apA,apC,h1,e1,h2,h3,h4]
 simp_all[if_neg,Sx]
def one:Rd:=⟨false,[1],0⟩
theorem O6:R F.dyadic_Int [I 1] []=some (ag one,[]):=by
 grind[WX,I64,bA,one,mQ,AM,ap,rY,fQ]
theorem kP:vd one=true/\Ok0 one:=⟨by decide,⟨fun x hx=>by rw[List.mem_singleton.1 hx];decide,by decide⟩⟩
def uQ(x:Ri)(n:Nat)(p:Int):Ri:=if(kI x&&bK p&&decide (n<=16))=true then(if n=0 then⟨one,one,false⟩else
 qi (gQ (if n%2=0 then jL x else x).lo n p false) (gQ (if n%2=0 then jL x else x).hi n p true))else cB
theorem O7{a b:Rd}(oa:Ok0 a)(ob:Ok0 b):Ok0 (jf a b):=by
 grind[jf]
theorem O8{a b:Rd}(oa:Ok0 a)(ob:Ok0 b):Ok0 (jg a b):=by
 grind[jg]
theorem Sy{x:Ri}(ok:OkI x):OkI (jL x):=by
 unfold jL;split
 ·refine⟨?_,O8 (si ok.lo) (si ok.hi)⟩;unfold tF;split
  ·exact bj.2
  ·exact O7 (si ok.lo) (si ok.hi)
 ·exact⟨bj.2,bj.2⟩
theorem Sz{d:Rd}(ok:Ok0 d){n:Nat}{p:Int}{up:Bool}:Ok0 (gQ d n p up).1:=by
 grind[gQ,sj,aaP]
theorem DN{x:Ri}(ok:OkI x){p:Int}{n:Nat}(hn:n<=100000):R F.interval_Power [av x,I n,I p] []=some (av (uQ x n p),[]):=by
 refine aA Gr rfl ?_;have hk:=sf ok;have hp:=tE (p:=p);have hw:=kX;have n0:((n:Int)<0)=False:=ff (by omega);unfold uQ;simp only[av,az]at hw;cases h1:kI x with
 |false=>
  rw[h1]at hk;simp only[dQ,fO,av,az,go_sem,apB,apA,apC,apD,hk,hw]
 |true=>
  rw[h1]at hk;cases h2:bK p with
  |false=>
   rw[h2]at hp;simp only[dQ,fO,av,az,go_sem,apB,apA,apC,apD,hk,hp,hw]
  |true=>
   rw[h2]at hp;rw[Bool.true_and,Bool.true_and];by_cases h3:n<=16
   ·have e3:(16< (n:Int))=False:=ff (by omega);rw[if_pos (decide_eq_true h3)];by_cases h4:n=0
    ·have e4:((n:Int)=0)=True:=tt (by omega);rw[if_pos h4];have g1:=O6;have g2:=iP kP.2 kP.1;simp only[one,av,az,ag,ak]at g1 g2;simp only[dQ,fO,one,av,az,go_sem,apB,apA,apC,apD,hk,hp,n0,e3,e4,g1,g2]
    ·have e4:((n:Int)=0)=False:=ff (by omega);rw[if_neg h4];by_cases h5:n%2=0
     ·have e5:((n:Int).tmod 2=0)=True:=tt (by grind);rw[if_pos h5];have ha:=abE ok;have oa:=Sy ok;generalize jL x=y at ha oa⊢;have g1:=Ih oa.lo hn (p:=p) (up:=false);have g2:=Ih oa.hi hn (p:=p) (up:=true);generalize gQ y.lo n p false=r at g1⊢;generalize gQ y.hi n p true=q at g2⊢;obtain⟨r1,r2⟩:=r;obtain⟨q1,q2⟩:=q;have hm:=J9 (a:=r1) (b:=q1) (e:=r2) (f:=q2);simp only[av,az,ag,ak,rV]at ha g1 g2 hm;simp only[dQ,fO,av,az,go_sem,apB,apA,apC,apD,apI,hk,hp,n0,e3,e4,e5,ha,g1,g2,hm]
     ·have e5:((n:Int).tmod 2=0)=False:=ff (by grind);rw[if_neg h5];have g1:=Ih ok.lo hn (p:=p) (up:=false);have g2:=Ih ok.hi hn (p:=p) (up:=true);generalize gQ x.lo n p false=r at g1⊢;generalize gQ x.hi n p true=q at g2⊢;obtain⟨r1,r2⟩:=r;obtain⟨q1,q2⟩:=q;have hm:=J9 (a:=r1) (b:=q1) (e:=r2) (f:=q2);simp only[av,az,ag,ak,rV]at g1 g2 hm;simp only[dQ,fO,av,az,go_sem,apB,apA,apC,apD,apI,hk,hp,n0,e3,e4,e5,g1,g2,hm]
   ·have e3:(16< (n:Int))=True:=tt (by omega);rw[if_neg (fun h=>h3 (of_decide_eq_true h))];simp only[dQ,fO,av,az,go_sem,apB,apA,apC,apD,hk,hp,n0,e3,hw]
def tG(x:Ri)(e:Nat)(p:Int):Ri:=if e<=16 then uQ x e p else jM (uQ x 16 p) (uQ x (e-16) p) p
theorem O9{r s:Rd×Int}(h1:Ok0 r.1)(h2:Ok0 s.1):OkI (qi r s):=by
 unfold qi;split
 ·exact⟨h1,h2⟩
 ·exact⟨bj.2,bj.2⟩
theorem Kf{x:Ri}(ok:OkI x){n:Nat}{p:Int}:OkI (uQ x n p):=by
 unfold uQ;have h:OkI (if n%2=0 then jL x else x):=by
  grind[Sy]
 split
 ·split
  ·exact⟨kP.2,kP.2⟩
  ·exact O9 (Sz h.1) (Sz h.2)
 ·exact⟨bj.2,bj.2⟩
theorem abH{x:Ri}(ok:OkI x){p:Int}{e:Nat}(hn:e<=100000):R F.bound_power [av x,I e,I p] []=some (av (tG x e p),[]):=by
 refine aA Mm rfl ?_;unfold tG;by_cases h1:e<=16
 ·have e1:((e:Int)<=16)=True:=tt (by omega);rw[if_pos h1];have h2:=DN ok hn (p:=p);simp only[av,az]at h2;simp only[pK,wl,av,az,go_sem,apB,apA,apC,e1,h2]
 ·have e1:((e:Int)<=16)=False:=ff (by omega);rw[if_neg h1];have h2:=DN ok (show 16<=100000 by decide) (p:=p);have h3:=DN ok (show e-16<=100000 by omega) (p:=p);have o2:=Kf ok (n:=16) (p:=p);have o3:=Kf ok (n:=e-16) (p:=p);have w1:IntKind.i64.wrap ((e:Int)-16)=((e-16:Nat):Int):=wi (by omega) (by omega);have h4:=Kd o2 o3 (p:=p);simp only[av,az,Int.cast_ofNat_Int]at h2 h3 h4;simp only[pK,wl,av,az,go_sem,apB,apA,apC,apD,apE,e1,h2,h3,h4,w1]
def bw(l:List Int):List (List AV):=l.map fun(n:Int)=>[I n]
@[go_sem] theorem abI(l:List Int):(bw l).length=l.length:=by simp[bw]
theorem lX{l:List Int}{i:Int}{n:Nat}{d:Int}(hi:i=n)(h:l[n]?=some d):aV (bw l) i=some (.ipt [I d]):=by
 grind[aV,bw]
theorem Pa{x:Int}:R F.cmp_isNaN_int_ [I x] []=some (B false,[]):=by
 refine aA GA rfl ?_;simp only[qF,x9,go_sem]
theorem Xg{x y:Int}:R F.cmp_Compare_int_ [I x,I y] []=some (I (bD x y),[]):=by
 refine aA DD rfl ?_;have h1:=Pa (x:=x);have h2:=Pa (x:=y);unfold bD;by_cases e1:x<y
 ·have f1:(x<y)=True:=tt e1;simp only[gW,kH,go_sem,apB,apA,h1,h2,f1]
 ·have f1:(x<y)=False:=ff e1;by_cases e2:y<x
  ·have f2:(y<x)=True:=tt e2;simp only[gW,kH,go_sem,apB,apA,h1,h2,f1,f2]
  ·have f2:(y<x)=False:=ff e2;simp only[gW,kH,go_sem,apB,apA,h1,h2,f1,f2]
def jN:List Int->List Int->Int
 |[],[]=>0
 |[],_::_=>-1
 |_::_,[]=>1
 |x::xs,y::ys=>if bD x y=0 then jN xs ys else bD x y
theorem ZB{a b:List Int}(hl:a.length=b.length)(h2:a.length<=100000):∀ (k i:Nat),i+k=a.length->∀ (s:af) (h:ac),s 0=.sl 1 (bw a)->s 1=.sl 1 (bw b)->s 9=.sl 1 (bw a)->s 10=I a.length->s 11=I i->
  ∃hh,am 0 [0,1] (aD (aj R (aH false) dk) [0,1,9,10,11] [] s h)=if jN (a.drop i) (b.drop i)=0 then some (.normal,⟨upd (upd (fun _=>.any) 1 (.sl 1 (bw b))) 0 (.sl 1 (bw a)),fun _=>.dead⟩)else some (.ret,⟨upd (fun _=>.any) 4 (I (jN (a.drop i) (b.drop i))),hh⟩):=by
 intro k;induction k with
 |zero=>
  intro i hi s h h0 h1 h9 h10 h11;have e1:((i:Int)<a.length)=False:=ff (by omega);rw[List.drop_eq_nil_of_le (by omega),List.drop_eq_nil_of_le (by omega),ai];refine⟨fun _=>.dead,?_⟩;show _=if(0:Int)=0 then _ else _
  simp only[dk,go_sem,h0,h1,h9,h10,h11,e1]
 |succ k ih=>
  intro i hi s h h0 h1 h9 h10 h11;have hlt:i<a.length:=by omega
  have hlt2:i<b.length:=by omega
  have e1:((i:Int)<a.length)=True:=tt (by omega);have e4:((b.length:Int)<=(i:Int))=False:=ff (by omega);have e2:aV (bw a) (i:Int)=some (.ipt [I a[i]]):=lX rfl (List.getElem?_eq_getElem hlt);have e3:aV (bw b) (i:Int)=some (.ipt [I b[i]]):=lX rfl (List.getElem?_eq_getElem hlt2);have e5:IntKind.i64.wrap ((i:Int)+1)=((i+1:Nat):Int):=wi (by omega) (by omega);rw[List.drop_eq_getElem_cons hlt,List.drop_eq_getElem_cons hlt2,ai];have ih':=ih (i+1) (by omega);have hc:=Xg (x:=a[i]) (y:=b[i]);generalize a[i]=x at e2 hc⊢;generalize b[i]=y at e3 hc⊢;unfold jN;by_cases hz:bD x y=0
  ·have e6:(bD x y=0)=True:=tt hz;simp only[dk,go_sem,apB,apA,h0,h1,h9,h10,h11,e1,e2,e3,e4,e5,hc,e6];exact ih' _ _ rfl rfl rfl rfl rfl
  ·have e6:(bD x y=0)=False:=ff hz;refine⟨?hh,?_⟩;rotate_left;simp only[dk,go_sem,apB,apA,h0,h1,h9,h10,h11,e1,e2,e3,e4,hc,e6];rfl
theorem UY{a b:List Int}(hl:a.length=b.length)(h2:a.length<=100000):R F.slices_Compare_int_int_ [.sl 1 (bw a),.sl 1 (bw b)] []=some (I (jN a b),[]):=by
 refine aA w9 rfl ?_;have h3:=ZB hl h2 a.length 0 (Nat.zero_add _);simp only[List.drop_zero,Int.natCast_zero]at h3;by_cases hz:jN a b=0
 ·simp only[if_pos hz]at h3;have e1:((a.length:Int)<b.length)=False:=ff (by omega);simp only[fK,je,go_sem];rw[(h3 _ _ rfl rfl rfl rfl rfl).choose_spec,hz];simp only[go_sem,e1]
 ·simp only[if_neg hz]at h3;simp only[fK,je,go_sem];rw[(h3 _ _ rfl rfl rfl rfl rfl).choose_spec];simp only[go_sem]
def bY:List Int->Int
 |[]=>0
 |x::l=>x+bY l
def sm(l:List Int):Prop:=l.length<=1000/\∀x∈l,0<=x/\x<=32
theorem GN{l:List Int}{i:Nat}(h:i<l.length):bY (l.take (i+1))=bY (l.take i)+l[i]:=by
 induction l generalizing i with
 |nil=>grind
 |cons a l ih=>
  cases i with
  |zero=>simp[bY]
  |succ i=>
   have:=ih (i:=i) (by simpa using h);simp only[List.take_succ_cons,bY,List.getElem_cons_succ];omega
theorem Pb{l:List Int}(h:∀x∈l,0<=x/\x<=32):0<=bY l/\bY l<=32*l.length:=by
 induction l with
 |nil=>exact⟨Int.le_refl _,Int.le_refl _⟩
 |cons a l ih=>
  have h1:=h a (List.mem_cons_self ..);have h2:=ih (fun x hx=>h x (List.mem_cons_of_mem _ hx));grind[bY,List.length_cons]
theorem ZC{a:List Int}(h2:sm a):∀ (k i:Nat),i+k=a.length->∀ (s:af) (h:ac),s 3=I (bY (a.take i))->s 6=.sl 1 (bw a)->s 7=I a.length->s 8=I i->
  am 0 [3] (aD (aj R (aH false) mI) [3,6,7,8] [] s h)=some (.normal,⟨upd (fun _=>.any) 3 (I (bY a)),fun _=>.dead⟩):=by
 intro k;induction k with
 |zero=>
  intro i hi s h h3 h6 h7 h8;have e1:((i:Int)<a.length)=False:=ff (by omega);rw[List.take_of_length_le (by omega)]at h3;rw[ai];simp only[mI,go_sem,h3,h6,h7,h8,e1]
 |succ k ih=>
  intro i hi s h h3 h6 h7 h8;have hlt:i<a.length:=by omega
  obtain⟨g1,g2⟩:=h2;have e1:((i:Int)<a.length)=True:=tt (by omega);have e2:aV (bw a) (i:Int)=some (.ipt [I a[i]]):=lX rfl (List.getElem?_eq_getElem hlt);have e5:IntKind.i64.wrap ((i:Int)+1)=((i+1:Nat):Int):=wi (by omega) (by omega);have b1:=Pb (l:=a.take i) (fun x hx=>g2 x (List.mem_of_mem_take hx));have b2:=g2 a[i] (List.getElem_mem hlt);have e6:IntKind.i64.wrap (bY (a.take i)+a[i])=bY (a.take (i+1)):=by
   grind[GN,i64_in]
  have ih':=ih (i+1) (by omega);rw[ai];simp only[mI,go_sem,h3,h6,h7,h8,e1,e2,e5,e6];exact ih' _ _ rfl rfl rfl rfl
theorem vU{a:List Int}(h2:sm a):R F.poly_degree [.sl 1 (bw a)] []=some (I (bY a),[]):=by
 refine aA Mt rfl ?_;have h3:=ZC h2 a.length 0 (Nat.zero_add _);simp only[uz,Cs,go_sem];rw[h3 _ _ rfl rfl rfl rfl];simp only[go_sem]
def dH(a b:List Int):Int:=if bD (bY a) (bY b)=0 then jN b a else bD (bY a) (bY b)
theorem ZD{a b:List Int}(ha:sm a)(hb:sm b)(hl:a.length=b.length):R F.poly_order [.sl 1 (bw a),.sl 1 (bw b)] []=some (I (dH a b),[]):=by
 refine aA Oz rfl ?_;have d1:=vU ha;have d2:=vU hb;have d3:=Xg (x:=bY a) (y:=bY b);have d4:=UY hl.symm (by have:=hb.1;omega);unfold dH;by_cases hz:bD (bY a) (bY b)=0
 ·have e6:(bD (bY a) (bY b)=0)=True:=tt hz;simp only[rk,xX,go_sem,apB,apA,d1,d2,d3,d4,e6]
 ·have e6:(bD (bY a) (bY b)=0)=False:=ff hz;simp only[rk,xX,go_sem,apB,apA,d1,d2,d3,e6]
structure Rt where
 exps:List Int
 c:Rd
structure Rp where
 vars:Int
 terms:List Rt
def eU(t:Rt):List AV:=[.sl 1 (bw t.exps),B t.c.neg,lm t.c.m,I t.c.e]
def cU(l:List Rt):List (List AV):=l.map eU
def bH(a:Rp):AV:=.agg [I a.vars,.sl 4 (cU a.terms)]
@[go_sem] theorem SA(l:List Rt):(cU l).length=l.length:=by simp[cU]
theorem qk{l:List Rt}{i:Int}{n:Nat}{d:Rt}(hi:i=n)(h:l[n]?=some d):aV (cU l) i=some (.ipt (eU d)):=by
 grind[aV,cU]
theorem vV{α:Type}{f:α->α}{l:List α}(h:∀x∈l,f x=x):l.map f=l:=(List.map_congr_left (g:=fun c=>c) h).trans (List.map_id' _)
@[go_sem] theorem anh(l:List Rt):(cU l).map (dB [.o 2 [],.o 0 [],.o 2 [],.o 0 []])=cU l:=by
 refine vV fun x hx=>?_;simp only[cU,List.mem_map]at hx;obtain⟨t,ht,rfl⟩:=hx;simp only[eU,go_sem]
structure OkT (t:Rt):Prop where
 c:Ok0 t.c
 len:t.exps.length<=100000
structure OkP (a:Rp):Prop where
 t:∀t∈a.terms,OkT t
def tH(e:Int):Bool:=decide (e<0)||decide (32<e)
theorem adK{e:Int}:R F.poly_Valid_1 [I e] []=some (B (tH e),[]):=by
 refine aA AN rfl ?_;unfold tH;by_cases h:e<0
 ·have e1:(e<0)=True:=tt h;simp only[oi,uw,go_sem,e1,decide_true,Bool.true_or]
 ·have e1:(e<0)=False:=ff h;simp only[oi,uw,go_sem,e1,decide_false,Bool.false_or]
theorem ZE{l:List Int}(h2:l.length<=100000):R F.slices_ContainsFunc_int_int_ [.sl 1 (bw l),.fn F.poly_Valid_1 [] []] []=some (B (l.any tH),[]):=by
 let p:List AV->Bool:=fun row=>match row with|[.v (.int _ e)]=>tH e|_=>false
 have h1:=DF (k:=1) (g:=false) (f:=F.poly_Valid_1) (rows:=bw l) (p:=p) dw.2.1 dw.2.2 (dw.1.2.2.2 false) rfl (AN.1.2.1 false) (by grind[abI]) (fun row hr=>by
  simp only[bw,List.mem_map]at hr;obtain⟨e,he,rfl⟩:=hr;refine⟨I e,rfl,rfl,?_⟩;simp only[go_sem,adK,p])
 have h2:=AS (k:=1) gr.2.1 gr.2.2 (gr.1.2.2.2 false) rfl (dw.1.2.1 false) (dw.1.1 false) (by simp only[go_sem]) h1;grind[bw,tH,List.any_map]
def CD(v:Int)(t:Rt):Bool:=decide ((t.exps.length:Int)=v)&& (vd t.c&& (decide (t.c.m.length≠0)&& (!(t.exps.any tH)&&decide (bY t.exps<=32))))
def UZ:Option Rt->Rt->Bool
 |none,_=>true
 |some q,t=>decide (dH q.exps t.exps<0)
def vW(v:Int):Option Rt->List Rt->Bool
 |_,[]=>true
 |pr,t::l=>CD v t&& (UZ pr t&&vW v (some t) l)
theorem tI{v:Int}{t:Rt}(h:CD v t=true):(t.exps.length:Int)=v/\vd t.c=true/\t.c.m.length≠0/\t.exps.any tH=false/\bY t.exps<=32:=by
 grind[CD]
theorem qm{l:List Int}(h:l.any tH=false):∀x∈l,0<=x/\x<=32:=by
 simp_all[tH,Bool.or_eq_true,decide_eq_true_eq,not_or]
theorem abJ{a:Rp}(ok:∀t∈a.terms,Ok0 t.c)(hv:a.vars<=8)(h2:a.terms.length<=500):∀ (k i:Nat),i+k=a.terms.length->∀ (pr:Option Rt),(i=0->pr=none)->(0<i->∃q,pr=some q/\a.terms[i-1]?=some q/\CD a.vars q=true)->
  ∀ (s:af) (h:ac),s 1=.ref 1 none 0 0 0->s 20=.sl 4 (cU a.terms)->s 21=I a.terms.length->s 22=I i->h 1=.bx [I a.vars,.sl 4 (cU a.terms)]->
  ∃hh,am 0 [] (aD (aj R (aH false) cR) [1,20,21,22] [1] s h)=if vW a.vars pr (a.terms.drop i)=true then some (.normal,⟨fun _=>.any,hh⟩)else some (.ret,⟨upd (fun _=>.any) 2 (B false),hh⟩):=by
 intro k;induction k with
 |zero=>
  intro i hi pr p0 p1 s h h1 h20 h21 h22 k1;have e1:((i:Int)<a.terms.length)=False:=ff (by omega);rw[List.drop_eq_nil_of_le (by omega),ai];refine⟨?hh0,?_⟩;rotate_left;show _=if true=true then _ else _
  rw[if_pos rfl];simp only[cR,go_sem,apE,h1,h20,h21,h22,k1,e1];rfl
 |succ k ih=>
  intro i hi pr p0 p1 s h h1 h20 h21 h22 k1;have hlt:i<a.terms.length:=by omega
  have e1:((i:Int)<a.terms.length)=True:=tt (by omega);have e2:aV (cU a.terms) (i:Int)=some (.ipt (eU a.terms[i])):=qk rfl (List.getElem?_eq_getElem hlt);have e5:IntKind.i64.wrap ((i:Int)+1)=((i+1:Nat):Int):=wi (by omega) (by omega);have okt:=ok a.terms[i] (List.getElem_mem hlt);have hnext:a.terms[i+1-1]?=some a.terms[i]:=List.getElem?_eq_getElem hlt;rw[List.drop_eq_getElem_cons hlt,ai];have ih':=ih (i+1) (by omega) (some a.terms[i]) (fun h=>absurd h (Nat.succ_ne_zero _));generalize a.terms[i]=t at e2 okt ih' hnext⊢;generalize aD _ _ _=L at ih'⊢;have hvd:=gu okt;have hct:=fun(h:(t.exps.length:Int)=a.vars)=>ZE (l:=t.exps) (by omega);simp only[eU]at e2;simp only[ag,ak]at hvd;unfold vW;cases hb:CD a.vars t with
  |false=>
   simp only[Bool.false_and,if_neg Bool.false_ne_true];unfold CD at hb;by_cases c1:(t.exps.length:Int)=a.vars
   ·have f1:((t.exps.length:Int)=a.vars)=True:=tt c1;rw[decide_eq_true c1,Bool.true_and]at hb;cases c2:vd t.c with
    |false=>
     rw[c2]at hvd;refine⟨?hh2,?_⟩;rotate_left;simp only[cR,go_sem,apB,apA,apC,apE,h1,h20,h21,h22,k1,e1,e2,f1,hvd];rfl
    |true=>
     rw[c2]at hvd hb;rw[Bool.true_and]at hb;by_cases c3:t.c.m.length=0
     ·have f3:((t.c.m.length:Int)=0)=True:=tt (by omega);refine⟨?hh3,?_⟩;rotate_left;simp only[cR,go_sem,apB,apA,apC,apE,h1,h20,h21,h22,k1,e1,e2,f1,hvd,f3];rfl
     ·have f3:((t.c.m.length:Int)=0)=False:=ff (by omega);rw[decide_eq_true c3,Bool.true_and]at hb;have hct:=hct c1;cases c4:t.exps.any tH with
      |true=>
       rw[c4]at hct;refine⟨?hh4,?_⟩;rotate_left;simp only[cR,go_sem,apB,apA,apC,apE,h1,h20,h21,h22,k1,e1,e2,f1,hvd,f3,hct];rfl
      |false=>
       rw[c4]at hct hb;rw[Bool.not_false,Bool.true_and]at hb;have hdg:=vU (a:=t.exps) ⟨by omega,qm c4⟩;have f5:(32<bY t.exps)=True:=tt (by grind);refine⟨?hh5,?_⟩;rotate_left;simp only[cR,go_sem,apB,apA,apC,apE,h1,h20,h21,h22,k1,e1,e2,f1,hvd,f3,hct,hdg,f5];rfl
   ·have f1:((t.exps.length:Int)=a.vars)=False:=ff c1;refine⟨?hh1,?_⟩;rotate_left;simp only[cR,go_sem,apB,apA,apC,apE,h1,h20,h21,h22,k1,e1,e2,f1];rfl
  |true=>
   obtain⟨c1,c2,c3,c4,c5⟩:=tI hb;have f1:((t.exps.length:Int)=a.vars)=True:=tt c1;rw[c2]at hvd;have f3:((t.c.m.length:Int)=0)=False:=ff (by omega);have hct:=hct c1;rw[c4]at hct;have hdg:=vU (a:=t.exps) ⟨by omega,qm c4⟩;have f5:(32<bY t.exps)=False:=ff (by omega);simp only[Bool.true_and];by_cases hi0:i=0
   ·have f6:(0< (i:Int))=False:=ff (by omega);rw[p0 hi0];simp only[UZ,Bool.true_and];simp only[cR,go_sem,apB,apA,apC,apE,h1,h20,h21,h22,k1,e1,e2,f1,hvd,f3,hct,hdg,f5,f6,e5];exact ih' (fun _=>⟨t,rfl,hnext,hb⟩) _ _ rfl rfl rfl rfl rfl
   ·have f6:(0< (i:Int))=True:=tt (by omega);obtain⟨q,q1,q2,q3⟩:=p1 (by omega);obtain⟨d1,d2,d3,d4,d5⟩:=tI q3;rw[q1];have e7:IntKind.i64.wrap ((i:Int)-1)=((i-1:Nat):Int):=wi (by omega) (by omega);have e8:aV (cU a.terms) ((i-1:Nat):Int)=some (.ipt (eU q)):=qk rfl q2;simp only[eU]at e8;have ho:=ZD (a:=q.exps) (b:=t.exps) ⟨by omega,qm d4⟩ ⟨by omega,qm c4⟩ (by omega);simp only[UZ];by_cases c6:dH q.exps t.exps<0
    ·have f7:(0<=dH q.exps t.exps)=False:=ff (by omega);simp only[decide_eq_true c6,Bool.true_and];simp only[cR,go_sem,apB,apA,apC,apD,apE,h1,h20,h21,h22,k1,e1,e2,f1,hvd,f3,hct,hdg,f5,f6,e5,e7,e8,ho,f7];exact ih' (fun _=>⟨t,rfl,hnext,hb⟩) _ _ rfl rfl rfl rfl rfl
    ·have f7:(0<=dH q.exps t.exps)=True:=tt (by omega);simp only[decide_eq_false c6,Bool.false_and,if_neg Bool.false_ne_true];refine⟨?hh7,?_⟩;rotate_left;simp only[cR,go_sem,apB,apA,apC,apD,apE,h1,h20,h21,h22,k1,e1,e2,f1,hvd,f3,hct,hdg,f5,f6,e7,e8,ho,f7];rfl
def vp(a:Rp):Bool:=decide (0<=a.vars)&& (decide (a.vars<=8)&& (decide (a.terms.length<=500)&&vW a.vars none a.terms))
theorem aun{a:Rp}(ok:∀t∈a.terms,Ok0 t.c):R F.poly_Valid [bH a] []=some (B (vp a),[]):=by
 refine aA Ou rfl ?_;unfold vp;by_cases c1:0<=a.vars
 ·have f1:(a.vars<0)=False:=ff (by omega);rw[decide_eq_true c1,Bool.true_and];by_cases c2:a.vars<=8
  ·have f2:(8<a.vars)=False:=ff (by omega);rw[decide_eq_true c2,Bool.true_and];by_cases c3:a.terms.length<=500
   ·have f3:(500< (a.terms.length:Int))=False:=ff (by omega);rw[decide_eq_true c3,Bool.true_and];have h3:=abJ ok c2 c3 a.terms.length 0 (Nat.zero_add _) none (fun _=>rfl) (fun h=>absurd h (Nat.lt_irrefl _));simp only[List.drop_zero,Int.natCast_zero]at h3;cases hb:vW a.vars none a.terms with
    |true=>
     rw[hb]at h3;simp only[iM,lH,bH,go_sem,apB,apA,f1,f2,f3];rw[(h3 _ _ rfl rfl rfl rfl rfl).choose_spec];simp only[go_sem]
    |false=>
     rw[hb]at h3;simp only[iM,lH,bH,go_sem,apB,apA,f1,f2,f3];rw[(h3 _ _ rfl rfl rfl rfl rfl).choose_spec];simp only[go_sem]
   ·have f3:(500< (a.terms.length:Int))=True:=tt (by omega);rw[decide_eq_false c3,Bool.false_and];simp only[iM,lH,bH,go_sem,apB,apA,f1,f2,f3]
  ·have f2:(8<a.vars)=True:=tt (by omega);rw[decide_eq_false c2,Bool.false_and];simp only[iM,lH,bH,go_sem,apB,apA,f1,f2]
 ·have f1:(a.vars<0)=True:=tt (by omega);rw[decide_eq_false c1,Bool.false_and];simp only[iM,lH,bH,go_sem,apB,apA,f1]
theorem DO{a:Rp}(ok:OkP a):R F.poly_Valid [bH a] []=some (B (vp a),[]):=aun fun t h=>(ok.t t h).c
@[go_sem] theorem ani(l:List Ri):(aY l).map (dB [.o 0 [],.o 2 [],.o 0 [],.o 0 [],.o 2 [],.o 0 [],.o 0 []])=aY l:=by
 refine vV fun x hx=>?_;simp only[aY,List.mem_map]at hx;obtain⟨t,ht,rfl⟩:=hx;simp only[az,go_sem]
theorem U0{x:Ri}(ok:OkI x):R F.bound_domain_1 [av x] []=some (B (!kI x),[]):=by
 refine aA yi rfl ?_;have hv:=se ok;simp only[av,az]at hv;unfold kI;cases h1:vi x with
 |false=>
  rw[h1]at hv;rw[Bool.and_false];simp only[lu,rD,av,az,go_sem,apB,apA,apC,hv,Bool.not_false]
 |true=>
  rw[h1]at hv;rw[Bool.and_true,Bool.not_not];simp only[lu,rD,av,az,go_sem,apB,apA,apC,hv]
theorem ZF{l:List Ri}(ok:∀x∈l,OkI x)(h2:l.length<=100000):R F.slices_ContainsFunc_api_Interval_api_Interval_ [.sl 7 (aY l),.fn F.bound_domain_1 [] []] []=some (B (l.any fun x=>!kI x),[]):=by
 let p:List AV->Bool:=fun row=>match row with|[.v (.bool n1),.sl _ m1,.v (.int _ e1),.v (.bool n2),.sl _ m2,.v (.int _ e2),.v (.bool a)]=>!kI ⟨⟨n1,m1.map (fun r=>match r with|[.v (.int _ x)]=>x.toNat|_=>0),e1⟩,⟨n2,m2.map (fun r=>match r with|[.v (.int _ x)]=>x.toNat|_=>0),e2⟩,a⟩|_=>false
 have hmm:∀m:List Nat,(ax m).map (fun r=>match r with|[.v (.int _ x)]=>x.toNat|_=>0)=m:=fun m=>by
  grind[ax,List.map_map,List.map_congr_left,List.map_id']
 have hp:∀x:Ri,p (az x)=!kI x:=fun x=>by
  show(!kI ⟨⟨x.lo.neg,(ax x.lo.m).map _,x.lo.e⟩,⟨x.hi.neg,(ax x.hi.m).map _,x.hi.e⟩,x.all⟩)=_
  simp_all
 have h1:=DF (k:=7) (g:=true) (f:=F.bound_domain_1) (rows:=aY l) (p:=p) aJ.2.1 aJ.2.2 (aJ.1.2.2.2 false) rfl (yi.1.2.1 false) (by grind[xp]) (fun row hr=>by
  simp only[aY,List.mem_map]at hr;obtain⟨x,hx,rfl⟩:=hr;have hd:=U0 (ok x hx);refine⟨av x,rfl,rfl,?_⟩;rw[hp];simp only[av,az]at hd;simp only[av,az,go_sem,hd])
 have h2:=AS (k:=7) be.2.1 be.2.2 (be.1.2.2.2 false) rfl (aJ.1.2.1 false) (aJ.1.1 false) (by simp only[go_sem]) h1;have h3:(aY l).any p=l.any fun x=>!kI x:=by
  unfold aY;rw[List.any_map];congr 1;funext x;exact hp x
 grind
def jh(a:Rp)(dom:List Ri):Bool:=vp a&& (decide ((dom.length:Int)=a.vars)&&!(dom.any fun x=>!kI x))
theorem Xh{a:Rp}{dom:List Ri}(oa:OkP a)(od:∀x∈dom,OkI x)(h2:dom.length<=100000):R F.bound_domain [bH a,.sl 7 (aY dom)] []=some (B (jh a dom),[]):=by
 refine aA JI rfl ?_;have hv:=DO oa;have hc:=ZF od h2;simp only[bH]at hv;unfold jh;cases h1:vp a with
 |false=>
  rw[h1]at hv;simp only[kD,pM,bH,go_sem,apB,apA,apC,hv]
 |true=>
  rw[h1]at hv;by_cases h3:(dom.length:Int)=a.vars
  ·have e3:((dom.length:Int)=a.vars)=True:=tt h3;simp only[kD,pM,bH,go_sem,apB,apA,apC,hv,e3,hc]
  ·have e3:((dom.length:Int)=a.vars)=False:=ff h3;simp only[kD,pM,bH,go_sem,apB,apA,apC,hv,e3]
theorem EM{a:Rp}{dom:List Ri}(oa:OkP a)(od:∀x∈dom,OkI x)(h2:dom.length<=100000){p:Int}:R F.bound_fits [bH a,.sl 7 (aY dom),I p] []=some (B (jh a dom&&bK p),[]):=by
 refine aA Oq rfl ?_;have hd:=Xh oa od h2;simp only[bH]at hd;unfold bK;cases h1:jh a dom with
 |false=>
  rw[h1]at hd;simp only[m7,sM,bH,go_sem,apB,apA,apC,hd]
 |true=>
  rw[h1]at hd;by_cases h3:8<=p
  ·have e3:(8<=p)=True:=tt h3;simp only[m7,sM,bH,go_sem,apB,apA,apC,hd,e3,decide_true,Bool.true_and]
  ·have e3:(8<=p)=False:=ff h3;simp only[m7,sM,bH,go_sem,apB,apA,apC,hd,e3,decide_false,Bool.false_and]
theorem BX:R F.bound_whole [] []=some (av cB,[]):=by
 refine aA Ml rfl ?_;simp only[uq,Cn,av,az,cB,aK,go_sem,apB,apA,apC]
def yz(p:Int):List Ri->List Int->Ri->Ri
 |d::ds,e::es,x=>yz p ds es (if 0<e then jM x (tG d e.toNat p) p else x)
 |_,_,x=>x
theorem adL{dn up:Rd->Rd->Rd×Int}{pr:Nat->Rd×Rd}(h1:∀a b,Ok0 (dn a b).1)(h2:∀a b,Ok0 (up a b).1):OkI (CC (jV dn up pr)):=by
 have hN:∀ (k i:Nat) (o:Rd×Rd),Ok0 o.1->Ok0 o.2->OkI (CC (qj dn up pr k i o)):=by
  intro k;induction k with
  |zero=>exact fun i o g1 g2=>⟨g1,g2⟩
  |succ k ih=>
   intro i o g1 g2;unfold qj;split
   ·grind
   ·exact⟨bj.2,bj.2⟩
 unfold jV;split
 ·grind
 ·exact⟨bj.2,bj.2⟩
theorem Kg{x y:Ri}{p:Int}:OkI (jM x y p):=by
 unfold jM;split
 ·grind[adL,xq]
 ·exact⟨bj.2,bj.2⟩
theorem Kh{a b:Rd}{p:Int}{up:Bool}:Ok0 (cT a b p up).1:=by
 unfold cT;split
 ·exact tD.2
 ·exact bj.2
theorem abK{x y:Ri}{p:Int}:OkI (j3 x y p):=by
 unfold j3;split
 ·grind[O9,Kh]
 ·exact⟨bj.2,bj.2⟩
theorem abL{x:Ri}(ok:OkI x){e:Nat}{p:Int}:OkI (tG x e p):=by
 grind[tG,Kf,Kg]
theorem adM{p:Int}:∀ (ds:List Ri) (es:List Int) (x:Ri),OkI x->OkI (yz p ds es x):=by
 intro ds;induction ds with
 |nil=>exact fun es x h=>by cases es<;>exact h
 |cons d ds ih=>
  intro es x h;cases es with
  |nil=>exact h
  |cons e es=>
   grind[yz,Kg]
theorem agn{dom:List Ri}(od:∀x∈dom,OkI x){es:List Int}(hl:dom.length=es.length)(h2:dom.length<=100000)(he:∀e∈es,0<=e/\e<=32){p:Int}{c3 c6 c7 c9:List AV}{rw':AV}{n j:Int}
  (q3:aO [3,6,7,9,10] (.bx c3)=true) (q6:aO [3,6,7,9,10] (.bx c6)=true) (q7:aO [3,6,7,9,10] (.bx c7)=true) (q9:aO [3,6,7,9,10] (.bx c9)=true) (qr:eN [3,6,7,9,10] rw'=rw'):
  ∀ (k i:Nat),i+k=es.length->∀ (x:Ri),OkI x->∀ (s:af) (h:ac),s 1=.sl 7 (aY dom)->s 2=I p->s 6=.ref 6 none 0 0 0->s 7=.ref 7 none 0 0 0->s 10=.ref 10 none 0 0 0->s 22=rw'->s 23=I n->s 24=I j->s 32=.sl 1 (bw es)->s 33=I es.length->s 34=I i->
  h 3=.bx c3->h 6=.bx c6->h 7=.bx c7->h 9=.bx c9->h 10=.bx (az x)->
  ∃hh,am 2 [1,2,6,7,10,22,23,24] (aD (aj R (aH false) eB) [1,2,6,7,10,22,23,24,32,33,34] [3,6,7,9,10] s h)=some (.normal,⟨upd (upd (upd (upd (upd (upd (upd (upd (fun _=>.any) 24 (I j)) 23 (I n)) 22 rw') 10 (.ref 10 none 0 0 0)) 7 (.ref 7 none 0 0 0)) 6 (.ref 6 none 0 0 0)) 2 (I p)) 1 (.sl 7 (aY dom)),hh⟩)/\
   hh 3=.bx c3/\hh 6=.bx c6/\hh 7=.bx c7/\hh 10=.bx (az (yz p (dom.drop i) (es.drop i) x))/\∀a,a≠3->a≠6->a≠7->a≠9->a≠10->hh a=.dead:=by
 intro k;induction k with
 |zero=>
  intro i hi x ox s h h1 h2' h6 h7 h10 h22 h23 h24 h32 h33 h34 k3 k6 k7 k9 k10;have e1:((i:Int)<es.length)=False:=ff (by omega);rw[List.drop_eq_nil_of_le (by omega),List.drop_eq_nil_of_le (by omega),ai];refine⟨?hh0,?_,?_,?_,?_,?_,?_⟩;rotate_left
  ·simp only[eB,go_sem,apE,h1,h2',h6,h7,h10,h22,h23,h24,h32,h33,h34,k3,k6,k7,k9,k10,q3,q6,q7,q9,qr,e1];rfl
  ·rfl
  ·rfl
  ·rfl
  ·rfl
  simp_all[ed,if_false]
 |succ k ih=>
  intro i hi x ox s h h1 h2' h6 h7 h10 h22 h23 h24 h32 h33 h34 k3 k6 k7 k9 k10;have hlt:i<es.length:=by omega
  have hlt2:i<dom.length:=by omega
  have e1:((i:Int)<es.length)=True:=tt (by omega);have e2:aV (bw es) (i:Int)=some (.ipt [I es[i]]):=lX rfl (List.getElem?_eq_getElem hlt);have e3:aV (aY dom) (i:Int)=some (.ipt (az dom[i])):=A6 rfl (List.getElem?_eq_getElem hlt2);have e5:IntKind.i64.wrap ((i:Int)+1)=((i+1:Nat):Int):=wi (by omega) (by omega);have oki:=od dom[i] (List.getElem_mem hlt2);have hb:=he es[i] (List.getElem_mem hlt);rw[List.drop_eq_getElem_cons hlt,List.drop_eq_getElem_cons hlt2,ai];have ih':=ih (i+1) (by omega);unfold yz;generalize es[i]=e at e2 hb⊢;generalize dom[i]=d at e3 oki⊢;obtain⟨m,rfl⟩:=Int.eq_ofNat_of_zero_le hb.1;rw[Int.toNat_natCast];have hpw:=abH oki (e:=m) (by omega) (p:=p);have opw:=abL oki (e:=m) (p:=p);generalize tG d m p=y at hpw opw⊢;have hmu:=Kd ox opw (p:=p);have omu:=Kg (x:=x) (y:=y) (p:=p);generalize jM x y p=z at hmu omu⊢;simp only[av,az]at e3 hpw hmu k10;by_cases hm:0< (m:Int)
  ·have f1:(0< (m:Int))=True:=tt hm;simp only[eB,go_sem,apB,apA,apC,apD,apE,h1,h2',h6,h7,h10,h22,h23,h24,h32,h33,h34,k3,k6,k7,k9,k10,q3,q6,q7,q9,qr,e1,e2,e3,f1,hpw,hmu,e5];exact ih' z omu _ _ rfl rfl rfl rfl rfl rfl rfl rfl rfl rfl rfl rfl rfl rfl rfl rfl
  ·have f1:(0< (m:Int))=False:=ff hm;simp only[eB,go_sem,apB,apA,apC,apD,apE,h1,h2',h6,h7,h10,h22,h23,h24,h32,h33,h34,k3,k6,k7,k9,k10,q3,q6,q7,q9,qr,e1,e2,e3,f1,hpw,hmu,e5];exact ih' x ox _ _ rfl rfl rfl rfl rfl rfl rfl rfl rfl rfl rfl rfl rfl rfl rfl rfl
def DP(p:Int)(dom:List Ri):List Rt->Ri->Ri
 |[],s=>s
 |t::l,s=>DP p dom l (j3 s (yz p dom t.exps ⟨t.c,t.c,false⟩) p)
theorem EN{v:Int}:∀ (l:List Rt) (pr:Option Rt),vW v pr l=true->∀t∈l,CD v t=true:=by
 intro l;induction l with
 |nil=>grind
 |cons a l ih=>
  intro pr h t ht;unfold vW at h;grind
theorem Xi{a:Rp}{dom:List Ri}(oa:OkP a)(od:∀x∈dom,OkI x)(hv:∀t∈a.terms,CD a.vars t=true)(hl:(dom.length:Int)=a.vars)(h8:a.vars<=8)(h5:a.terms.length<=500){p:Int}:
  ∀ (k i:Nat),i+k=a.terms.length->∀ (x:Ri),OkI x->∀ (s:af) (h:ac),s 1=.sl 7 (aY dom)->s 2=I p->s 6=.ref 6 none 0 0 0->s 7=.ref 7 none 0 0 0->s 22=.sl 4 (cU a.terms)->s 23=I a.terms.length->s 24=I i->
  h 3=.bx [I a.vars,.sl 4 (cU a.terms)]->h 6=.bx [.v (.bool false),.emp,.v (.int .i64 0),.v (.bool false),.emp,.v (.int .i64 0),.v (.bool false)]->h 7=.bx (az x)->
  ∃hh,am 0 [6,7] (aD (aj R (aH false) hF) [1,2,6,7,22,23,24] [3,6,7] s h)=some (.normal,⟨upd (upd (fun _=>.any) 7 (.ref 7 none 0 0 0)) 6 (.ref 6 none 0 0 0),hh⟩)/\hh 6=.bx [.v (.bool false),.emp,.v (.int .i64 0),.v (.bool false),.emp,.v (.int .i64 0),.v (.bool false)]/\hh 7=.bx (az (DP p dom (a.terms.drop i) x)):=by
 intro k;induction k with
 |zero=>
  intro i hi x ox s h h1 h2 h6 h7 h22 h23 h24 k3 k6 k7;have e1:((i:Int)<a.terms.length)=False:=ff (by omega);rw[List.drop_eq_nil_of_le (by omega),ai];refine⟨?hh0,?_,?_,?_⟩;rotate_left
  ·simp only[hF,go_sem,apE,h1,h2,h6,h7,h22,h23,h24,k3,k6,k7,e1];rfl
  ·rfl
  ·rfl
 |succ k ih=>
  intro i hi x ox s h h1 h2 h6 h7 h22 h23 h24 k3 k6 k7;have hlt:i<a.terms.length:=by omega
  have e1:((i:Int)<a.terms.length)=True:=tt (by omega);have e2:aV (cU a.terms) (i:Int)=some (.ipt (eU a.terms[i])):=qk rfl (List.getElem?_eq_getElem hlt);have e5:IntKind.i64.wrap ((i:Int)+1)=((i+1:Nat):Int):=wi (by omega) (by omega);have okt:=oa.t a.terms[i] (List.getElem_mem hlt);obtain⟨c1,c2,c3,c4,c5⟩:=tI (hv a.terms[i] (List.getElem_mem hlt));rw[List.drop_eq_getElem_cons hlt,ai];have ih':=ih (i+1) (by omega);unfold DP;generalize a.terms[i]=t at e2 okt c1 c2 c3 c4 c5⊢;have hpt:=iP okt.c c2;have hin:=agn (dom:=dom) od (es:=t.exps) (by omega) (by omega) (qm c4) (p:=p) (c3:=[I a.vars,.sl 4 (cU a.terms)]) (c6:=[.v (.bool false),.emp,.v (.int .i64 0),.v (.bool false),.emp,.v (.int .i64 0),.v (.bool false)]) (c7:=az x) (c9:=eU t) (rw':=.sl 4 (cU a.terms)) (n:=a.terms.length) (j:=i) rfl rfl rfl rfl rfl t.exps.length 0 (Nat.zero_add _) ⟨t.c,t.c,false⟩ ⟨okt.c,okt.c⟩;simp only[List.drop_zero,Int.natCast_zero]at hin;have oy:=adM (p:=p) dom t.exps ⟨t.c,t.c,false⟩ ⟨okt.c,okt.c⟩;generalize yz p dom t.exps ⟨t.c,t.c,false⟩=y at hin oy⊢;have hadd:=Ka ox oy (p:=p);have oz:=abK (x:=x) (y:=y) (p:=p);generalize j3 x y p=z at hadd oz⊢;generalize hL0:aD (aj R (aH false) eB) [1,2,6,7,10,22,23,24,32,33,34] [3,6,7,9,10]=L0 at hin;have hin2:∀ (S:af) (H:ac) (X:Option (Ex×St)),am 2 [1,2,6,7,10,22,23,24] (L0 S H)=X->S 1=.sl 7 (aY dom)->S 2=I p->S 6=.ref 6 none 0 0 0->S 7=.ref 7 none 0 0 0->S 10=.ref 10 none 0 0 0->S 22=.sl 4 (cU a.terms)->S 23=I a.terms.length->S 24=I i->S 32=.sl 1 (bw t.exps)->S 33=I t.exps.length->S 34=I 0->
   H 3=.bx [I a.vars,.sl 4 (cU a.terms)]->H 6=.bx [.v (.bool false),.emp,.v (.int .i64 0),.v (.bool false),.emp,.v (.int .i64 0),.v (.bool false)]->H 7=.bx (az x)->H 9=.bx (eU t)->H 10=.bx (az ⟨t.c,t.c,false⟩)->
   ∃hh,X=some (.normal,⟨upd (upd (upd (upd (upd (upd (upd (upd (fun _=>.any) 24 (I i)) 23 (I a.terms.length)) 22 (.sl 4 (cU a.terms))) 10 (.ref 10 none 0 0 0)) 7 (.ref 7 none 0 0 0)) 6 (.ref 6 none 0 0 0)) 2 (I p)) 1 (.sl 7 (aY dom)),hh⟩)/\
    hh 3=.bx [I a.vars,.sl 4 (cU a.terms)]/\hh 6=.bx [.v (.bool false),.emp,.v (.int .i64 0),.v (.bool false),.emp,.v (.int .i64 0),.v (.bool false)]/\hh 7=.bx (az x)/\hh 10=.bx (az y)/\∀a,a≠3->a≠6->a≠7->a≠9->a≠10->hh a=.dead:=fun S H X hX=>by
   rw[←hX];exact hin S H
  have hX:∀s h,aj R (aH false) (.loop [1,2,6,7,10,22,23,24,32,33,34] [3,6,7,9,10] eB) s h=L0 s h:=fun s h=>by rw[←hL0];rfl
  simp only[eU]at e2 hin2;simp only[av,az,ag,ak]at hpt hadd k7 hin2;simp only[hF,hX,go_sem,apB,apA,apC,apE,h1,h2,h6,h7,h22,h23,h24,k3,k6,k7,e1,e2,hpt];generalize hB:am 2 [1,2,6,7,10,22,23,24] (L0 _ _)=X;obtain⟨hh,g0,g3,g6,g7,g10,gd⟩:=hin2 _ _ _ hB rfl rfl rfl rfl rfl rfl rfl rfl rfl rfl rfl rfl rfl rfl rfl rfl;rw[g0];simp only[go_sem,apB,apA,apC,ne_eq,not_false_eq_true,g7,g10,gd,hadd,e5];refine ih' z oz _ _ ?_ ?_ ?_ ?_ ?_ ?_ ?_ ?_ ?_ ?_
  all_goals first|rfl|exact g3|exact g6
def gZ(a:Rp)(dom:List Ri)(p:Int):Ri:=if(jh a dom&&bK p)=true then DP p dom a.terms ⟨aK,aK,false⟩else cB
theorem GO{a:Rp}{dom:List Ri}(oa:OkP a)(od:∀x∈dom,OkI x)(h2:dom.length<=100000){p:Int}:R F.bound_Naive [bH a,.sl 7 (aY dom),I p] []=some (av (gZ a dom p),[]):=by
 refine aA Mj rfl ?_;have hf:=EM oa od h2 (p:=p);have hw:=BX;unfold gZ;simp only[bH]at hf;cases hb:(jh a dom&&bK p)with
 |false=>
  rw[hb]at hf;simp only[pH,wk,bH,av,az,go_sem,apB,apA,apC,hf,hw]
 |true=>
  rw[hb]at hf;simp only[jh,vp,Bool.and_eq_true,decide_eq_true_eq]at hb;obtain⟨⟨⟨v1,v2,v3,v4⟩,v5,v6⟩,v7⟩:=hb;have ho:=Xi oa od (EN _ _ v4) v5 v2 v3 (p:=p) a.terms.length 0 (Nat.zero_add _) ⟨aK,aK,false⟩ ⟨bj.2,bj.2⟩;simp only[List.drop_zero,Int.natCast_zero]at ho;generalize DP p dom a.terms ⟨aK,aK,false⟩=z at ho⊢;have hpt:=iP bj.2 bj.1;generalize hL0:aD (aj R (aH false) hF) [1,2,6,7,22,23,24] [3,6,7]=L0 at ho;have hX:∀s h,aj R (aH false) (.loop [1,2,6,7,22,23,24] [3,6,7] hF) s h=L0 s h:=fun s h=>by rw[←hL0];rfl
  have ho2:∀ (S:af) (H:ac) (X:Option (Ex×St)),am 0 [6,7] (L0 S H)=X->S 1=.sl 7 (aY dom)->S 2=I p->S 6=.ref 6 none 0 0 0->S 7=.ref 7 none 0 0 0->S 22=.sl 4 (cU a.terms)->S 23=I a.terms.length->S 24=I 0->
   H 3=.bx [I a.vars,.sl 4 (cU a.terms)]->H 6=.bx [.v (.bool false),.emp,.v (.int .i64 0),.v (.bool false),.emp,.v (.int .i64 0),.v (.bool false)]->H 7=.bx (az ⟨aK,aK,false⟩)->
   ∃hh,X=some (.normal,⟨upd (upd (fun _=>.any) 7 (.ref 7 none 0 0 0)) 6 (.ref 6 none 0 0 0),hh⟩)/\hh 6=.bx [.v (.bool false),.emp,.v (.int .i64 0),.v (.bool false),.emp,.v (.int .i64 0),.v (.bool false)]/\hh 7=.bx (az z):=fun S H X hX=>by
   rw[←hX];exact ho S H
  simp only[av,az,ag,ak,aK]at hpt ho2;simp only[pH,wk,hX,bH,av,az,go_sem,apB,apA,apC,hf,hpt];generalize hB:am 0 [6,7] (L0 _ _)=X;obtain⟨hh,g0,g6,g7⟩:=ho2 _ _ _ hB rfl rfl rfl rfl rfl rfl rfl rfl rfl rfl;rw[g0];simp only[go_sem,apB,apA,apC,g6,g7]
theorem yA{n:Nat}{i:Int}(hi:i=n)(hn:n<18446744073709551616):cO .and (.v (.int .u64 i)) (.v (.int .u64 4294967295))=some (.v (.int .u64 ((n%4294967296:Nat):Int))):=by
 rw[Jw];have e:(BitVec.ofInt IntKind.u64.bits (n:Int)&&&BitVec.ofInt IntKind.u64.bits 4294967295).toNat=n%4294967296:=by
  show(BitVec.ofInt 64 (n:Int)&&&BitVec.ofInt 64 4294967295).toNat=n%4294967296;rw[BitVec.toNat_and];have e2:(BitVec.ofInt 64 (n:Int)).toNat=n:=by
   grind
  rw[e2,show(BitVec.ofInt 64 4294967295).toNat=2^32-1 from by decide,Nat.and_two_pow_sub_one_eq_mod]
 grind[cK]
theorem Pc{n:Nat}{i:Int}(hi:i=n)(hn:n<4294967296):cO .and (.v (.int .u32 i)) (.v (.int .u32 1))=some (.v (.int .u32 ((n%2:Nat):Int))):=by
 rw[Jw];have e:(BitVec.ofInt IntKind.u32.bits (n:Int)&&&BitVec.ofInt IntKind.u32.bits 1).toNat=n%2:=by
  show(BitVec.ofInt 32 (n:Int)&&&BitVec.ofInt 32 1).toNat=n%2;grind
 grind[wK]
theorem U1(m:List Nat)(h2:m.length<4611686018427387904):∀ (n:Nat),n<=m.length->∀ (s:af) (h:ac),s 0=lm m->s 3=I n->
  am 0 [0,3] (aD (aj R (aH false) Cv) [0,3] [] s h)=some (.normal,⟨upd (upd (fun _=>.any) 3 (I (jk m n))) 0 (lm m),fun _=>.dead⟩):=Lz m h2
theorem yB{m:List Nat}(hb:Lb m)(h:m.length<=10000000):R F.r02_trim [lm m] []=some (lm (ap (aa m)),[]):=by
 refine aA UK rfl ?_;have h1:gh 1 (lm m) none (some (I (jk m m.length:Nat))) none=some (lm (ap (aa m))):=by
  rw[DE (a:=0) (b:=jk m m.length) rfl (pk rfl (yg _ _)) (yg _ _),List.drop_zero,Nat.sub_zero,Gk hb]
 have hl:=cz m hb;have e1:((ap (aa m)).length*4<=140737488355328)=True:=tt (by omega);simp only[Ac,HO,go_sem,apC,apD,U1 m (by omega) m.length (Nat.le_refl _),h1,OW,e1,List.nil_append,List.length_nil,true_or,Nat.zero_add,Nat.le_refl,List.replicate_zero]
theorem Xj:∀ (x b:Nat),x<4294967296->b+ae x<=100000000->∀ (s:af) (h:ac),s 3=I b->s 4=U x->
  am 0 [3] (aD (aj R (aH false) rh) [3,4] [] s h)=some (.normal,⟨upd (fun _=>.any) 3 (I (b+ae x:Nat)),fun _=>.dead⟩):=by
 intro x;induction x using Nat.strongRecOn with
 |ind x ih=>
  intro b hx hb s h h3 h4;rw[ai];by_cases h0:x=0
  ·have e1:(0< (x:Int))=False:=ff (by omega);rw[h0,pp,Nat.add_zero];simp only[rh,go_sem,h3,h4,e1]
  ·have e1:(0< (x:Int))=True:=tt (by omega);have e2:=EI (n:=x) (k:=1) (kk:=.u64) (j:=1) rfl rfl (by omega);have e3:IntKind.i64.wrap ((b:Int)+1)=((b+1:Nat):Int):=wi (by omega) (by omega);have e4:ae x=1+ae (x/2^1):=by
    have h5:=kV x 1;grind[fk]
   have ih':=ih (x/2^1) (by omega) (b+1) (by omega) (by omega);rw[show b+ae x=b+1+ae (x/2^1)by omega];simp only[rh,go_sem,h3,h4,e1,e2,e3];exact ih' _ _ rfl rfl
theorem Pd{m:List Nat}(hb:Lb m)(h:m.length<=1000000)(hc:vo m):R F.r02_bits [lm m] []=some (I (ae (aa m):Nat),[]):=by
 refine aA UC rfl ?_;by_cases h0:m.length=0
 ·have:m=[]:=List.length_eq_zero_iff.1 h0;subst this;simp only[vk,BG,go_sem,List.length_nil,Int.natCast_zero,aa,pp]
 ·have e1:((m.length:Int)=0)=False:=ff (by omega);have e2:IntKind.i64.wrap ((m.length:Int)-1)=((m.length-1:Nat):Int):=wi (by omega) (by omega);have e3:IntKind.i64.wrap (32*((m.length-1:Nat):Int))=((32*(m.length-1):Nat):Int):=wi (by omega) (by omega);have e4:aV (ax m) ((m.length-1:Nat):Int)=some (.ipt [U (m.getD (m.length-1) 0:Nat)]):=bk rfl (by omega);have hx:=bu hb (m.length-1);have e5:=Xj (m.getD (m.length-1) 0) (32*(m.length-1)) hx (by have:=(bt (k:=32)).2 hx;omega);have e6:32*(m.length-1)+ae (m.getD (m.length-1) 0)=ae (aa m):=by
   grind[OU,Dx,AL]
  rw[e6]at e5;simp only[vk,BG,go_sem,e1,e2,e3,e4];rw[e5 _ _ rfl rfl];simp only[go_sem]
theorem Pe{m:List Nat}(hb:Lb m)(n:Nat):m.getD (n/32) 0/2^ (n%32) %2=aa m/2^n%2:=by
 have h1:aa m/2^n=aa (m.drop (n/32))/2^ (n%32):=by
  rw[rM hb,Nat.div_div_eq_div_mul,rZ]
 rw[h1,dF];have e:(4294967296:Nat)=2^ (n%32)*(2*2^ (31-n%32)):=by
  rw[←Nat.pow_succ',←Nat.pow_add,show n%32+(31-n%32+1)=32 by omega]
 simp_all[Nat.mul_assoc,Nat.add_mul_div_left,Nat.two_pow_pos,Nat.add_mul_mod_self_left]
theorem Xk{n:Nat}(h:n≠0){k:Nat}(hk:k<=tz n):n/2^k%2=if k=tz n then 1 else 0:=by
 obtain⟨h1,h2⟩:=uK h;by_cases hh:k=tz n
 ·grind
 ·obtain⟨j,hj⟩:∃j,tz n=k+(j+1):=⟨tz n-k-1,by omega⟩;have h3:n=2^k*(2*(2^j*(n/2^tz n))):=by
   grind
  grind[Nat.mul_div_cancel_left,Nat.two_pow_pos,Nat.mul_mod_right]
theorem U2{m:List Nat}(hb:Lb m)(h:m.length<=1000000)(hv:aa m≠0):∀ (k i:Nat),i+k=tz (aa m)->∀ (s:af) (h:ac),s 0=lm m->s 3=I i->
  am 0 [3] (aD (aj R (aH false) pU) [0,3] [] s h)=some (.normal,⟨upd (fun _=>.any) 3 (I (tz (aa m):Nat)),fun _=>.dead⟩):=by
 have htz:tz (aa m)<32*m.length:=by
  simp_all[MU,bQ,Nat.pow_mul]
 intro k;induction k with
 |zero=>
  intro i hi s h h0 h3;have hi':i=tz (aa m):=by omega
  have e1:=xn (n:=i) (m:=32) (j:=32) rfl rfl (by omega) (by omega);have e2:=xk (n:=i) (m:=32) (j:=32) rfl rfl (by omega);have e3:aV (ax m) ((i/32:Nat):Int)=some (.ipt [U (m.getD (i/32) 0:Nat)]):=bk rfl (by omega);have hx:=bu hb (i/32);have e4:IntKind.u64.wrap ((i%32:Nat):Int)=((i%32:Nat):Int):=cK rfl (by omega);have e5:=EI (n:=m.getD (i/32) 0) (k:=i%32) (kk:=.u64) (j:=((i%32:Nat):Int)) rfl rfl (by omega);have e6:=Pc (n:=m.getD (i/32) 0/2^ (i%32)) rfl (Nat.lt_of_le_of_lt (Nat.div_le_self _ _) hx);have e7:=Pe hb i;rw[Xk hv (by omega),if_pos hi']at e7;rw[e7]at e6;rw[ai];rw[←hi'];simp only[pU,go_sem,apI,h0,h3,e1,e2,e3,e4,e5,e6,Int.natCast_one]
 |succ k ih=>
  intro i hi s h h0 h3;have e1:=xn (n:=i) (m:=32) (j:=32) rfl rfl (by omega) (by omega);have e2:=xk (n:=i) (m:=32) (j:=32) rfl rfl (by omega);have e3:aV (ax m) ((i/32:Nat):Int)=some (.ipt [U (m.getD (i/32) 0:Nat)]):=bk rfl (by omega);have hx:=bu hb (i/32);have e4:IntKind.u64.wrap ((i%32:Nat):Int)=((i%32:Nat):Int):=cK rfl (by omega);have e5:=EI (n:=m.getD (i/32) 0) (k:=i%32) (kk:=.u64) (j:=((i%32:Nat):Int)) rfl rfl (by omega);have e6:=Pc (n:=m.getD (i/32) 0/2^ (i%32)) rfl (Nat.lt_of_le_of_lt (Nat.div_le_self _ _) hx);have e7:=Pe hb i;rw[Xk hv (by omega),if_neg (by omega)]at e7;rw[e7]at e6;have e8:IntKind.i64.wrap ((i:Int)+1)=((i+1:Nat):Int):=wi (by omega) (by omega);have ih':=ih (i+1) (by omega);rw[ai];simp only[pU,go_sem,h0,h3,e1,e2,e3,e4,e5,e6,e8,Int.natCast_zero];exact ih' _ _ rfl rfl
theorem Xl{m:List Nat}(hb:Lb m)(h:m.length<=1000000)(hv:aa m≠0):R F.r02_zeros [lm m] []=some (I (tz (aa m):Nat),[]):=by
 refine aA Ry rfl ?_;have h3:=U2 hb h hv (tz (aa m)) 0 (Nat.zero_add _);simp only[xZ,FS,go_sem];rw[h3 _ _ rfl rfl];simp only[go_sem]
end Go.Ab
