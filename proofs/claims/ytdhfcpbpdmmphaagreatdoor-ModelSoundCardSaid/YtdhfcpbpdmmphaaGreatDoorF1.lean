/-
  A law of models holds at every input that the statement speaks of, under the conditions that its card names. Part F1.
-/
import Derived.Test.YtdhfcpbpdmmphaaGreatDoorE1
open Nat renaming add_mul → ayA, add_zero → ayF, div_add_mod → ay4, le_of_ble_eq_true → ayU, le_refl → ayd, le_trans → ayj, lt_of_le_of_lt → ayS, lt_of_lt_of_le → ay8, min_eq_left → ay0, mod_eq_of_lt → ayV, mod_lt → ayI, mul_assoc → ayD, mul_comm → ayy, mul_le_mul_left → ay7, mul_le_mul_right → aym, pow_add → ayn, pow_le_pow_right → ayP, pow_succ → ayZ, reduceMod → ayQ, reduceSub → ayG, two_pow_pos → ayr, zero_add → ayc, zero_le → ayB
open Int renaming eq_ofNat_of_zero_le → aze, lt_irrefl → ay6, natCast_zero → ayO, toNat_natCast → ayk
open Bool renaming and_eq_true → ayf, and_self → ayK, false_and → ayh, false_eq_true → aza, false_ne_true → ayl, not_eq_true' → azf, true_and → ayg, true_or → ay9
open List renaming all_cons → ayJ, append_assoc → ayX, append_nil → ayp, cons_append → ayW, drop_eq_getElem_cons → ayv, drop_eq_nil_of_le → ayw, getElem_mem → ayC, length_append → ay5, length_cons → ayL, length_drop → azd, length_nil → ayR, length_replicate → azc, length_take → ayo, map_congr_left → ayM, map_cons → ays, map_id' → ayY, map_nil → ayu, nil_append → ayq, replicate → aya, take_of_length_le → ayt
open Option renaming bind_eq_some_iff → ayb, bind_some → ayi, map_eq_some_iff → aye, map_some → ayT
open Rat renaming mul_le_mul_of_nonneg_right → ay3
set_option linter.all false
namespace Go.Ab
open Go Go.IntWalk
set_option maxRecDepth 4000
set_option maxHeartbeats 8000000
def oF(u:List Nat)(j:Nat)(us:List Nat)(top:Nat):List Nat:=u.take j++(us++top::u.drop (j+us.length+1))
def yR(vs:List Nat):Nat->List Nat->List Nat×List Nat
 |0,u=>(u,[])
 |j+1,u=>((yR vs j (oF u j (xA (u.getD (j+vs.length) 0) ((u.drop j).take vs.length) vs).1 (xA (u.getD (j+vs.length) 0) ((u.drop j).take vs.length) vs).2.1)).1,
   (yR vs j (oF u j (xA (u.getD (j+vs.length) 0) ((u.drop j).take vs.length) vs).1 (xA (u.getD (j+vs.length) 0) ((u.drop j).take vs.length) vs).2.1)).2++[(xA (u.getD (j+vs.length) 0) ((u.drop j).take vs.length) vs).2.2])
theorem FK(l:List Nat)(i:Nat)(h:i<=l.length):ab l=ab (l.take i)+4294967296^i*ab (l.drop i):=by
 grind[dZ,List.take_append_drop,ayo,ay0]
theorem ah5(l:List Nat)(x:Nat):ab (l++[x])=ab l+4294967296^l.length*x:=by
 rw[dZ];show _+_*(x+4294967296*0)=_;grind
theorem aaj{u:List Nat}{j n V:Nat}(hu:Lb u)(hl:j+n<u.length)(hV:V<4294967296^n)(h:ab (u.drop (j+1))<V):
  ab ((u.drop j).take n)+4294967296^n*u.getD (j+n) 0=ab (u.drop j)/\ab (u.drop (j+n+1))=0/\ab (u.drop j)<4294967296*V:=by
 have h0:=fB u j;have hj:=bO hu j;have h1:=FK (u.drop j) (n+1) γ;rw[List.drop_drop,eK]at h1;have h2:(u.drop j).getD n 0=u.getD (j+n) 0:=by
  grind
 rw[h2,show j+(n+1)=j+n+1 by omega]at h1;have h4:ab (u.drop (j+n+1))=0:=by
  refine Nat.eq_zero_of_not_pos fun hp=>?_;have:4294967296^ (n+1)*1<=4294967296^ (n+1)*ab (u.drop (j+n+1)):=ay7 _ hp;omega
 grind
theorem EM{u us:List Nat}{j top:Nat}(h:j+us.length<u.length):(oF u j us top).length=u.length:=by
 grind[oF,ay5,ayL,ayo,azd]
theorem Rf{u us:List Nat}{j top:Nat}(hu:Lb u)(hs:Lb us)(ht:top<4294967296):Lb (oF u j us top):=by
 grind[oF,pC,iT,fj,mV]
theorem Ko{u us:List Nat}{j top:Nat}(h:j<=u.length):(oF u j us top).drop j=us++top::u.drop (j+us.length+1):=by
 unfold oF;rw[List.drop_append_of_le_length (by rw[ayo];omega),List.drop_of_length_le (by rw[ayo];omega),ayq]
theorem afl{u us:List Nat}{j top:Nat}(h:j<=u.length):(oF u j us top).take j=u.take j:=by
 unfold oF;rw[List.take_append_of_le_length (by rw[ayo];omega),List.take_take,Nat.min_self]
theorem w2'{u:List Nat}{j n s2:Nat}(h:ab (u.drop (j+n+1))=0):ab (s2::u.drop (j+n+1))=s2:=by
 simp_all[ab,Nat.mul_zero,ayF]
theorem afm{vs:List Nat}{k:Nat}(hv:Lb vs)(hvl:vs.length=k+2)(hn:2147483648<=vs.getD (k+1) 0):
  ∀ (j:Nat) (u:List Nat),Lb u->j+(k+2)<=u.length->ab (u.drop j)<ab vs->ab u=ab (yR vs j u).1+ab vs*ab (yR vs j u).2/\ab (yR vs j u).1<ab vs/\(yR vs j u).2.length=j/\(yR vs j u).1.length=u.length/\Lb (yR vs j u).1/\Lb (yR vs j u).2
 |0,u,hu,_,h=>by
  refine⟨?_,h,rfl,rfl,hu,fun x hx=>(nomatch hx)⟩;show ab u=ab u+ab vs*0;omega
 |j+1,u,hu,hl,h=>by
  have hVb:ab vs<4294967296^ (k+2):=by grind[cI]
  obtain⟨w1,w2,w3⟩:=aaj (n:=k+2) hu ω hVb h;have hlen:((u.drop j).take (k+2)).length=k+2:=γ
  have hs:=afk (top:=u.getD (j+(k+2)) 0) (bO hu _) (fj (mV hu j) (k+2)) hv hlen hvl hn ω;rw[w1]at hs;unfold yR;rw[hvl];generalize xA (u.getD (j+(k+2)) 0) ((u.drop j).take (k+2)) vs=s at*
  obtain⟨s1,s2,s3⟩:=s;obtain⟨d1,d2,d3,d4,d5⟩:=hs;simp only at d1 d2 d3 d4 d5⊢;have hd:ab ((oF u j s1 s2).drop j)=ab (u.drop j) %ab vs:=by
   grind[Ko,dZ,w2']
  have hVp:0<ab vs:=ω
  have ih:=afm hv hvl hn j (oF u j s1 s2) (Rf hu d3 d5) (by grind[EM]) (by simp_all[ayI]);obtain⟨i1,i2,i3,i4,i5,i6⟩:=ih;have hval:=FK (oF u j s1 s2) j (by grind[EM]);rw[afl ω,hd]at hval;have hval2:=FK u j ω;generalize yR vs j (oF u j s1 s2)=r at*
  obtain⟨r1,r2⟩:=r;refine⟨?_,i2,by grind,by rw[i4,EM ω],i5,?_⟩
  ·grind[ah5,Nat.mul_add,ay4,ab,Nat.mul_left_comm,Nat.add_comm]
  ·rw[pC];refine⟨i6,fun x hx=>?_⟩
   simp_all[Nat.div_lt_iff_lt_mul]
attribute [-go_sem] OA K4 in
theorem ac0{third v w T V:Nat}(hV:V=v*4294967296+w)(hv:2147483648<=v)(hvb:v<4294967296)(hw:w<4294967296)(h3:third<4294967296):
  ∀ (k q rest:Nat),4294967296<=rest+k*2147483648->q<=4294967295->rest<8589934592->T=(q*v+rest)*4294967296+third->∀ (s:ak) (h:ac),s 0=W q->s 1=W rest->s 2=U third->s 3=U v->s 4=U w->
  ∃hh,ai 0 [0] (ax (aj R (az false) gu) [0,1,2,3,4] [] s h)=some (.normal,⟨upd (fun _=>.any) 0 (W (min q (T/V):Nat)),hh⟩):=by
 intro k;induction k with
 |zero=>
  intro q rest hk hq hr hT s h g0 g1 g2 g3 g4;have hs:=(Xm (q:=q) hT hV ω hw ω).2 (fun h=>by omega);have e1:((rest:Int)<4294967296)=False:=ff;rw[ay0 hs,ag];refine⟨fun _=>.dead,?_⟩;simp only[gu,go_sem,g0,g1,g2,g3,g4,e1]
 |succ k ih=>
  intro q rest hk hq hr hT s h g0 g1 g2 g3 g4;have hd:=Xm (q:=q) hT hV ω hw ω;by_cases hlt:rest<4294967296
  ·have e1:((rest:Int)<4294967296)=True:=tt;have hqw:q*w<=4294967295*4294967295:=Nat.mul_le_mul hq ω;have e2:IntKind.u64.wrap ((q:Int)*(w:Int))=((q*w:Nat):Int):=dK σ ω;have e3:=Fz (n:=rest) (k:=32) (i:=(rest:Int)) (kk:=.u64) (j:=32) rfl rfl δ ω;have e4:=Ny (m:=rest*2^32) (n:=third) (i:=((rest*2^32:Nat):Int)) (j:=(third:Int)) rfl rfl ω ω;rw[Eu (x:=rest) (c:=third) (k:=32) ω]at e4;have e5:IntKind.u64.wrap (third:Int)=third:=dK rfl ω;have e6:IntKind.u64.wrap (w:Int)=w:=dK rfl ω;have e7:IntKind.u64.wrap (v:Int)=v:=dK rfl ω;by_cases hc:rest*4294967296+third<q*w
   ·have e8:(((rest*2^32+third:Nat):Int)< ((q*w:Nat):Int))=True:=tt;have hq1:1<=q:=Nat.pos_of_ne_zero fun h0=>by grind
    have e9:IntKind.u64.wrap ((q:Int)-1)=((q-1:Nat):Int):=dK ω ω;have e10:IntKind.u64.wrap ((rest:Int)+(v:Int))=((rest+v:Nat):Int):=dK σ ω;have hT2:T=((q-1)*v+(rest+v))*4294967296+third:=by
     rw[hT,Nat.sub_mul,Nat.one_mul];have:v<=q*v:=Nat.le_mul_of_pos_left v hq1;omega
    have ih':=ih (q-1) (rest+v) ω ω ω hT2;have hm:min q (T/V)=min (q-1) (T/V):=ω
    rw[hm,ag];simp only[gu,go_sem,g0,g1,g2,g3,g4,e1,e2,e3,e4,e5,e6,e7,e8,e9,e10];exact ih' _ _ rfl rfl rfl rfl rfl
   ·have e8:(((rest*2^32+third:Nat):Int)< ((q*w:Nat):Int))=False:=ff;have hs:=hd.2 (fun h=>hc h.2);rw[ay0 hs,ag];refine⟨fun _=>.dead,?_⟩;simp only[gu,go_sem,g0,g1,g2,g3,g4,e1,e2,e3,e4,e5,e6,e8]
  ·have hs:=hd.2 (fun h=>hlt h.1);have e1:((rest:Int)<4294967296)=False:=ff;rw[ay0 hs,ag];refine⟨fun _=>.dead,?_⟩;simp only[gu,go_sem,g0,g1,g2,g3,g4,e1]
theorem akv{q rest third v w T V:Nat}(hV:V=v*4294967296+w)(hv:2147483648<=v)(hvb:v<4294967296)(hw:w<4294967296)(h3:third<4294967296)(hq:q<=4294967295)(hr:rest<8589934592)(hT:T=(q*v+rest)*4294967296+third)(s:ak)(h:ac)(X:Option (Ex×St))(hX:ai 0 [0] (ax (aj R (az false) gu) [0,1,2,3,4] [] s h)=X)(g0:s 0=W q)(g1:s 1=W rest)(g2:s 2=U third)(g3:s 3=U v)(g4:s 4=U w):
  ∃hh,X=some (.normal,⟨upd (fun _=>.any) 0 (W (min q (T/V):Nat)),hh⟩):=by
 subst hX;exact ac0 hV hv hvb hw h3 2 q rest ω hq hr hT s h g0 g1 g2 g3 g4
theorem Xp{q rest third v w T V:Nat}(hV:V=v*4294967296+w)(hv:2147483648<=v)(hvb:v<4294967296)(hw:w<4294967296)(h3:third<4294967296)(hq:q<=4294967295)(hr:rest<8589934592)(hT:T=(q*v+rest)*4294967296+third):
  R fb5 [W q,W rest,U third,U v,U w] []=some (W (min q (T/V):Nat),[]):=by
 refine au O9 rfl ?_;have hl:=akv hV hv hvb hw h3 hq hr hT;simp only[yg,Fr,go_sem];generalize hX:ai 0 _ _=X;obtain⟨hh,rfl⟩:=hl _ _ _ hX rfl rfl rfl rfl rfl;simp only[go_sem]
attribute [-go_sem] OA K4 in
theorem ah6{top next third v w:Nat}(hv:2147483648<=v)(hvb:v<4294967296)(ht:top<=v)(hn:next<4294967296)(h3:third<4294967296)(hw:w<4294967296):
  R fb8 [U top,U next,U third,U v,U w] []=some (W (wD ((top*4294967296+next)*4294967296+third) (v*4294967296+w):Nat),[]):=by
 refine au O7 rfl ?_;rw[←Y7 ω hvb ht hn h3];have c1:IntKind.u64.wrap (next:Int)=next:=dK rfl ω
 have c2:IntKind.u64.wrap (v:Int)=v:=dK rfl ω;have c3:IntKind.u64.wrap (top:Int)=top:=dK rfl ω;by_cases h:v<=top
 ·have e1:((v:Int)<=(top:Int))=True:=tt;rw[if_pos h];have e2:IntKind.u32.wrap ((top:Int)- (v:Int))=0:=by
   rw[show(top:Int)- (v:Int)=0 by omega];rfl
  have e3:IntKind.u64.wrap 0=0:=rfl;have e4:=Fz (n:=0) (k:=32) (i:=0) (kk:=.u64) (j:=32) rfl rfl δ δ;have e5:IntKind.u64.wrap (0+(next:Int))=next:=dK ω ω
  have e6:IntKind.u64.wrap ((next:Int)+(v:Int))=((next+v:Nat):Int):=dK σ ω;have hd:=Xp (q:=4294967295) (rest:=next+v) (third:=third) (v:=v) (w:=w) (T:=(top*4294967296+next)*4294967296+third) rfl hv hvb hw h3 δ ω (by
   omega)
  have e7:(((4294967295:Nat):Int))=4294967295:=rfl;rw[e7]at hd;rw[Nat.zero_mul]at e4;simp only[ayO]at e4;simp only[rX,Ac,go_sem,e1,e2,e3,e4,e5,e6,c1,c2,hd]
 ·have e1:((v:Int)<=(top:Int))=False:=ff;rw[if_neg h];have e4:=Fz (n:=top) (k:=32) (i:=(top:Int)) (kk:=.u64) (j:=32) rfl rfl δ ω;have e5:=Ny (m:=top*2^32) (n:=next) (i:=((top*2^32:Nat):Int)) (j:=(next:Int)) rfl rfl ω ω;rw[Eu (x:=top) (c:=next) (k:=32) ω,show top*2^32+next=top*4294967296+next from rfl]at e5;obtain⟨N,hN⟩:∃N,top*4294967296+next=N:=⟨_,rfl⟩
  rw[hN]at e5⊢;have hNb:N<18446744073709551616:=ω
  have e6:dU .quo (W N) (W v)=some (W (N/v:Nat)):=by
   rw[P6,if_neg ω,Int.tdiv_eq_ediv_of_nonneg ω];have:N/v<=N:=Nat.div_le_self _ _;grind[dK]
  have e7:dU .rem (W N) (W v)=some (W (N%v:Nat)):=by
   rw[K3,if_neg ω,Int.tmod_eq_emod_of_nonneg ω];rfl
  have hm:=ayI N (show 0<v by omega);have hq:N/v<=4294967295:=by
   have:N/v<4294967296:=by
    rw[Nat.div_lt_iff_lt_mul ω];omega
   omega
  have hd:=Xp (q:=N/v) (rest:=N%v) (third:=third) (v:=v) (w:=w) (T:=N*4294967296+third) rfl hv hvb hw h3 hq ω (by
   rw[ayy (N/v) v,ay4])
  simp only[rX,Ac,go_sem,e1,e4,e5,e6,e7,c1,c2,c3,hd]
attribute [-go_sem] OA K4 in
theorem ah7{a b y:Nat}(hay:a<y)(hy:y<4294967296)(hb:b<4294967296):
  R fab [U a,U b,U y] []=some (.tup [U ((a*4294967296+b)/y:Nat),U ((a*4294967296+b) %y:Nat)],[]):=by
 refine au Wj rfl ?_;have e1:((y:Int)=0)=False:=ff;have e2:((y:Int)<=(a:Int))=False:=ff;have c1:IntKind.u64.wrap (a:Int)=a:=dK rfl ω;have c2:IntKind.u64.wrap (b:Int)=b:=dK rfl ω;have c3:IntKind.u64.wrap (y:Int)=y:=dK rfl ω;have e4:=Fz (n:=a) (k:=32) (i:=(a:Int)) (kk:=.u64) (j:=32) rfl rfl δ ω;have e5:=Ny (m:=a*2^32) (n:=b) (i:=((a*2^32:Nat):Int)) (j:=(b:Int)) rfl rfl ω ω;rw[Eu (x:=a) (c:=b) (k:=32) ω,show a*2^32+b=a*4294967296+b from rfl]at e5;rw[show a*2^32=a*4294967296 from rfl]at e4 e5;obtain⟨N,hN⟩:∃N,a*4294967296+b=N:=⟨_,rfl⟩;rw[hN]at e5⊢;have e6:dU .quo (W N) (W y)=some (W (N/y:Nat)):=by
  rw[P6,if_neg ω,Int.tdiv_eq_ediv_of_nonneg ω];have:N/y<=N:=Nat.div_le_self _ _;rw[dK (n:=N/y) σ ω]
 have e7:dU .rem (W N) (W y)=some (W (N%y:Nat)):=by
  rw[K3,if_neg ω,Int.tmod_eq_emod_of_nonneg ω];rfl
 have hm:=ayI N (show 0<y by omega);have hq:N/y<4294967296:=by
  rw[Nat.div_lt_iff_lt_mul ω];have h3:(a+1)*4294967296<=y*4294967296:=aym _ ω;rw[ayy 4294967296 y];omega
 have w1:IntKind.u32.wrap ((N/y:Nat):Int)=((N/y:Nat):Int):=Cb rfl hq;have w2:IntKind.u32.wrap ((N%y:Nat):Int)=((N%y:Nat):Int):=Cb rfl ω;simp only[CO,JT,go_sem,e1,e2,e4,e5,e6,e7,c1,c2,c3,w1,w2]
def fw(y:Nat):List Nat->List Nat×Nat
 |[]=>([],0)
 |x::l=>(((fw y l).2*4294967296+x)/y::(fw y l).1,((fw y l).2*4294967296+x) %y)
theorem Dx{y:Nat}(hy:0<y):∀ {l:List Nat},Lb l->ab l=ab (fw y l).1*y+(fw y l).2/\(fw y l).2<y/\(fw y l).1.length=l.length
 |[],_=>⟨by simp[fw,ab],hy,rfl⟩
 |x::l,hl=>by
  obtain⟨h1,h2,h3⟩:=Dx hy (l:=l) fun z hz=>hl z (by simp[hz]);unfold fw;refine⟨?_,ayI _ hy,by simp[h3]⟩;show x+4294967296*ab l=(((fw y l).2*4294967296+x)/y+4294967296*ab (fw y l).1)*y+((fw y l).2*4294967296+x) %y;have hm:=ay4 ((fw y l).2*4294967296+x) y;rw[ayy]at hm;rw[ayA,ayD];generalize((fw y l).2*4294967296+x)/y*y=A at*
  omega
theorem aak{y:Nat}(hy:0<y)(hyb:y<4294967296):∀ {l:List Nat},Lb l->Lb (fw y l).1
 |[],_=>fun x hx=>(nomatch hx)
 |x::l,hl=>by
  have hl':Lb l:=fun z hz=>hl z (by simp[hz]);have h2:=(Dx hy hl').2.1;have hx:=hl x σ;intro z hz;rcases List.mem_cons.1 hz with h|h
  ·rw[h];show((fw y l).2*4294967296+x)/y<4294967296;rw[Nat.div_lt_iff_lt_mul hy];have h3:((fw y l).2+1)*4294967296<=y*4294967296:=aym _ ω;rw[ayy 4294967296 y];omega
  ·exact aak hy hyb hl' z h
theorem ah8{a:List Nat}(ha:Lb a){y:Nat}(hy:0<y)(hyb:y<4294967296)(h1:a.length<=100000):
  ∀ (m:Nat),m<=a.length->∀ (s:ak) (h:ac),s 0=lm a->s 1=U y->s 6=.rsl 11 none 1 0 a.length->s 7=U ((fw y (a.drop m)).2:Nat)->s 8=I ((m:Int)-1)->h 11=.ar 1 (aB (aya m 0++(fw y (a.drop m)).1))->
  ∃hh,ai 0 [6,7] (ax (aj R (az false) kZ) [0,1,6,7,8] [11] s h)=some (.normal,⟨upd (upd (fun _=>.any) 7 (U ((fw y a).2:Nat))) 6 (.rsl 11 none 1 0 a.length),hh⟩)/\hh 11=.ar 1 (aB (fw y a).1)/\(∀x,x≠11->hh x=.dead):=by
 intro m;induction m with
 |zero=>
  intro hm s h g0 g1 g6 g7 g8 k11;have e1:(0<=(((0:Nat):Int)-1))=False:=ff;rw[ag];refine⟨?hh0,?_,?_,?_⟩;rotate_left
  ·simp only[kZ,go_sem,g0,g1,g6,g7,g8,k11,e1];rfl
  all_goals simp_all[cV,if_false]
 |succ m ih=>
  intro hm s h g0 g1 g6 g7 g8 k11;have hlt:m<a.length:=ω
  have hd:a.drop m=a.getD m 0::a.drop (m+1):=by
   simp_all
  have ha':Lb (a.drop (m+1)):=mV ha _;obtain⟨q1,q2,q3⟩:=Dx hy ha';have e0:(((m+1:Nat):Int)-1)=(m:Int):=ω
  rw[e0]at g8;have e1:(0<=(m:Int))=True:=tt;have e2:aX (aB a) (m:Int)=some (.ipt [U (a.getD m 0:Nat)]):=bv rfl ω;have e3:IntKind.i64.wrap ((m:Int)-1)=(m:Int)-1:=i64_in _ ⟨by omega,by omega⟩;have e5:((m:Int)< (a.length:Int))=True:=tt;have e6:=ah7 (a:=(fw y (a.drop (m+1))).2) (b:=a.getD m 0) q2 hyb (bO ha m);have ih':=ih ω;rw[hd]at ih';have hs1:(fw y (a.getD m 0::a.drop (m+1))).1=((fw y (a.drop (m+1))).2*4294967296+a.getD m 0)/y::(fw y (a.drop (m+1))).1:=rfl;have hs2:(fw y (a.getD m 0::a.drop (m+1))).2=((fw y (a.drop (m+1))).2*4294967296+a.getD m 0) %y:=rfl;rw[hs1,hs2]at ih';generalize((fw y (a.drop (m+1))).2*4294967296+a.getD m 0)/y=qd at*
  have e7:(aB (aya (m+1) 0++(fw y (a.drop (m+1))).1))[m]?=some [U (0:Nat)]:=by
   rw[kC γ,List.getD_eq_getElem?_getD,List.getElem?_append_left σ,List.getElem?_replicate,if_pos ω];rfl
  have e8:(aB (aya (m+1) 0++(fw y (a.drop (m+1))).1)).set m [U (qd:Nat)]=aB (aya m 0++qd::(fw y (a.drop (m+1))).1):=by
   rw[oO];rw[List.replicate_succ',ayX,List.set_append_right _ _ σ];simp
  rw[ag];simp only[kZ,go_sem,g0,g1,g6,g7,g8,k11,e1,e2,e3,e5,e6,e7,e8,ayk,ayc];exact ih' _ _ rfl rfl rfl rfl rfl rfl
theorem apF{a:List Nat}(ha:Lb a){y:Nat}(hy:0<y)(hyb:y<4294967296)(h1:a.length<=100000)(s:ak)(h:ac)(X:Option (Ex×St))(hX:ai 0 [6,7] (ax (aj R (az false) kZ) [0,1,6,7,8] [11] s h)=X)
  (g0:s 0=lm a) (g1:s 1=U y) (g6:s 6=.rsl 11 none 1 0 a.length) (g7:s 7=U 0) (g8:s 8=I ((a.length:Int)-1)) (k11:h 11=.ar 1 (aB (aya a.length 0))):
  ∃hh,X=some (.normal,⟨upd (upd (fun _=>.any) 7 (U ((fw y a).2:Nat))) 6 (.rsl 11 none 1 0 a.length),hh⟩)/\hh 11=.ar 1 (aB (fw y a).1)/\(∀x,x≠11->hh x=.dead):=by
 subst hX;have hn:a.drop a.length=[]:=List.drop_of_length_le (ayd _);refine ah8 ha hy hyb h1 a.length (ayd _) s h g0 g1 g6 ?_ g8 ?_
 ·rw[hn];exact g7
 ·rw[hn];show h 11=.ar 1 (aB (aya a.length 0++[]));grind
theorem ah9{a:List Nat}(ha:Lb a){y:Nat}(hy:0<y)(hyb:y<4294967296)(h1:a.length<=100000):R fcd [lm a,U y] []=some (.tup [lm (fw y a).1,U ((fw y a).2:Nat)],[]):=by
 refine au O6 rfl ?_;have hl:=apF ha hy hyb h1;have e3:IntKind.i64.wrap ((a.length:Int)-1)=(a.length:Int)-1:=i64_in _ ⟨by omega,by omega⟩;have e4:=rn (i:=(a.length:Int)) (j:=(a.length:Int)) rfl rfl (ayd _) ω;have e5:(a.length*4<=140737488355328)=True:=tt;simp only[yf,Fo,go_sem,e3,e4,e5,Ba];generalize hX:ai 0 _ _=X;obtain⟨hh,rfl,q11,qd⟩:=hl _ _ _ hX rfl rfl rfl rfl rfl rfl;have hlen:=(Dx hy ha).2.2;simp only[go_sem,q11,hlen,ayc,ayd]
theorem Xq{u s b:Nat}(hu:u<4294967296)(hs:s<4294967296)(hb:b<4294967296):IntKind.u64.wrap (IntKind.u64.wrap ((u:Int)- (s:Int))- (b:Int))=(((u+18446744073709551616-s-b) %18446744073709551616:Nat):Int):=by
 grind[IntKind.wrap,IntKind.bits,IntKind.signed]
attribute [-go_sem] P7 Gu in
theorem afn{V Z:List Nat}{q lo:Nat}(hV:Lb V)(hq:q<4294967296)(hn:V.length<=100000)(hlo:lo<=100000):
  ∀ (vs us P:List Nat) (i c b:Nat),i+vs.length=V.length->V.drop i=vs->us.length=vs.length->P.length=lo+i->Lb us->c<4294967296->b<=1->∀ (s:ak) (h:ac),s 0=.rsl 1000 none 1 lo (V.length+1)->s 1=lm V->s 2=W q->s 7=W c->s 8=W b->s 14=lm V->s 15=I V.length->s 16=I i->h 1000=.ar 1 (aB (P++(us++Z)))->
  ∃hh,ai 0 [0,1,7,8] (ax (aj R (az false) l8) [0,1,2,7,8,14,15,16] [1000] s h)=some (.normal,⟨upd (upd (upd (upd (fun _=>.any) 8 (W ((th q us vs c b).2.2:Nat))) 7 (W ((th q us vs c b).2.1:Nat))) 1 (lm V)) 0 (.rsl 1000 none 1 lo (V.length+1)),hh⟩)/\hh 1000=.ar 1 (aB (P++((th q us vs c b).1++Z))):=by
 intro vs;induction vs with
 |nil=>
  intro us P i c b hi hd hl hP hu hc hb s h g0 g1 g2 g7 g8 g14 g15 g16 k;have hus:us=[]:=List.length_eq_zero_iff.1 hl;subst hus;have hi':i=V.length:=ω
  subst hi';rw[ag];refine⟨?hh0,?_,?_⟩;rotate_left
  ·simp only[l8,go_sem,g0,g1,g2,g7,g8,g14,g15,g16,k,ay6];rfl
  ·rfl
 |cons y vs ih=>
  intro us P i c b hi hd hl hP hu hc hb s h g0 g1 g2 g7 g8 g14 g15 g16 k;obtain⟨u,us,rfl⟩:∃u us',us=u::us':=by
   cases us with
   |nil=>grind
   |cons u us=>grind
  have hi2:i<V.length:=γ
  have hy:V.getD i 0=y/\V.drop (i+1)=vs:=by
   grind[ayv]
  have hyb:y<4294967296:=by grind[bO]
  have hub:=hu u σ;have hqy:q*y<=4294967295*4294967295:=Nat.mul_le_mul ω ω;have e1:((i:Int)< (V.length:Int))=True:=tt;have e2:aX (aB V) (i:Int)=some (.ipt [U (y:Nat)]):=by
   grind[bv]
  have e3:IntKind.i64.wrap ((i:Int)+1)=((i+1:Nat):Int):=wi;have e4:(0<=(i:Int))=True:=tt;have e5:((i:Int)< ((V.length+1:Nat):Int))=True:=tt;have c1:IntKind.u64.wrap (y:Int)=y:=dK rfl ω;have c2:IntKind.u64.wrap ((q:Int)*(y:Int))=((q*y:Nat):Int):=dK σ ω;have c3:IntKind.u64.wrap (((q*y:Nat):Int)+(c:Int))=((q*y+c:Nat):Int):=dK σ ω;have c4:=qz (n:=q*y+c) (k:=32) (i:=((q*y+c:Nat):Int)) (kk:=.u64) (j:=32) rfl rfl ω;rw[show(2:Nat)^32=4294967296 from rfl]at c4;have c5:IntKind.u64.wrap (u:Int)=u:=dK rfl ω;have c6:=Ch (n:=q*y+c) (i:=((q*y+c:Nat):Int)) rfl ω;have hs:=ayI (q*y+c) (by decide:0<4294967296);have hc2:(q*y+c)/4294967296<4294967296:=by
   omega
  have c7:=Xq (b:=b) hub hs ω;obtain⟨k1,_⟩:=Rc (b:=b) hub hs hb;have ih':=ih us (P++[(u+18446744073709551616- (q*y+c) %4294967296-b) %18446744073709551616%4294967296]) (i+1) ((q*y+c)/4294967296) ((u+18446744073709551616- (q*y+c) %4294967296-b) %18446744073709551616/9223372036854775808) γ hy.2 γ γ (fun x hx=>hu x (by simp[hx])) hc2 k1;unfold th;generalize(u+18446744073709551616- (q*y+c) %4294967296-b) %18446744073709551616=x at*
  have c8:IntKind.u32.wrap (x:Int)=((x%4294967296:Nat):Int):=HU rfl;have c9:=qz (n:=x) (k:=63) (i:=(x:Int)) (kk:=.u64) (j:=63) rfl rfl ω;rw[show(2:Nat)^63=9223372036854775808 from rfl]at c9;have e7:(aB (P++(u::us++Z)))[lo+i]?=some [U (u:Nat)]:=by
   rw[kC (by simp[hP]),List.getD_eq_getElem?_getD,List.getElem?_append_right ω,hP,Nat.sub_self];rfl
  have e8:(aB (P++(u::us++Z))).set (lo+i) [U ((x%4294967296:Nat):Int)]=aB (P++[x%4294967296]++(us++Z)):=by
   rw[oO,←hP,List.set_append_right _ _ (ayd _),Nat.sub_self,ayX];rfl
  simp only[ayX,ayW,ayq]at ih' e7 e8 k⊢;rw[ag];generalize ax _ _ _=L at ih'⊢;simp only[l8,go_sem,g0,g1,g2,g7,g8,g14,g15,g16,k,e1,e2,e3,e4,e5,e7,e8,c1,c2,c3,c4,c5,c6,c7,c8,c9,ayk];exact ih' _ _ rfl rfl rfl rfl rfl rfl rfl rfl rfl
theorem amZ{V Z us P:List Nat}{q lo:Nat}(hV:Lb V)(hq:q<4294967296)(hn:V.length<=100000)(hlo:lo<=100000)(hl:us.length=V.length)(hP:P.length=lo)(hu:Lb us)(s:ak)(h:ac)(X:Option (Ex×St))(hX:ai 0 [0,1,7,8] (ax (aj R (az false) l8) [0,1,2,7,8,14,15,16] [1000] s h)=X)
  (g0:s 0=.rsl 1000 none 1 lo (V.length+1)) (g1:s 1=lm V) (g2:s 2=W q) (g7:s 7=W 0) (g8:s 8=W 0) (g14:s 14=lm V) (g15:s 15=I V.length) (g16:s 16=I 0) (k:h 1000=.ar 1 (aB (P++(us++Z)))):
  ∃hh,X=some (.normal,⟨upd (upd (upd (upd (fun _=>.any) 8 (W ((th q us V 0 0).2.2:Nat))) 7 (W ((th q us V 0 0).2.1:Nat))) 1 (lm V)) 0 (.rsl 1000 none 1 lo (V.length+1)),hh⟩)/\hh 1000=.ar 1 (aB (P++((th q us V 0 0).1++Z))):=by
 subst hX
 simp_all[afn]
attribute [-go_sem] Gu in
theorem akw{V us P Q:List Nat}{q lo top:Nat}(hV:Lb V)(hq:q<4294967296)(hn:V.length<=100000)(hlo:lo<=100000)(hl:us.length=V.length)(hP:P.length=lo)(hu:Lb us)(ht:top<4294967296):
  R fcg [.rsl 1000 none 1 lo (V.length+1),lm V,W q] [.ar 1 (aB (P++(us++top::Q)))]=some (B (nR q top us V).2.2,[.ar 1 (aB (P++((nR q top us V).1++(nR q top us V).2.1::Q)))]):=by
 refine wu QD QC (CZ false) rfl ?_;have hx:=amZ (Z:=top::Q) hV hq hn hlo hl hP hu;obtain⟨t1,t2,t3,t4,t5⟩:=Xn hq hu hV hl (c:=0) (b:=0) δ δ;unfold nR;have e4:(0<=(V.length:Int))=True:=tt;have e5:((V.length:Int)< ((V.length+1:Nat):Int))=True:=tt;simp only[Ad,GL,go_sem];generalize hX:ai 0 _ _=X;obtain⟨hh,rfl,q1⟩:=hx _ _ _ hX rfl rfl rfl rfl rfl rfl rfl rfl rfl;generalize th q us V 0 0=r at*
 obtain⟨r1,c,b⟩:=r;simp only at t2 t3 t4 t5 q1⊢;have c5:IntKind.u64.wrap (top:Int)=top:=dK rfl ω;have c7:=Xq (u:=top) (s:=c) (b:=b) ht t2 ω;generalize(top+18446744073709551616-c-b) %18446744073709551616=x at*
 have c8:IntKind.u32.wrap (x:Int)=((x%4294967296:Nat):Int):=HU rfl;have c9:=qz (n:=x) (k:=63) (i:=(x:Int)) (kk:=.u64) (j:=63) rfl rfl ω;have e7:(aB (P++(r1++top::Q)))[lo+V.length]?=some [U (top:Nat)]:=by
  simp_all[kC,Nat.add_sub_cancel_left,Nat.sub_self]
 have e8:(aB (P++(r1++top::Q))).set (lo+V.length) [U ((x%4294967296:Nat):Int)]=aB (P++(r1++x%4294967296::Q)):=by
  rw[oO,List.set_append_right _ _ ω,List.set_append_right _ _ ω,hP,t5,Nat.add_sub_cancel_left,Nat.sub_self];rfl
 have e9:(((x/9223372036854775808:Nat):Int)=1)=(x/9223372036854775808=1):=by
  grind
 simp only[go_sem,q1,e4,e5,e7,e8,c5,c7,c8,c9,e9,ayk];rfl
theorem afo{V us P Q:List Nat}{q lo top:Nat}(hV:Lb V)(hq:q<4294967296)(hn:V.length<=100000)(hlo:lo<=100000)(hl:us.length=V.length)(hP:P.length=lo)(hu:Lb us)(ht:top<4294967296){h:ac}{d id:Nat}(hh:h id=.ar 1 (aB (P++(us++top::Q))))(hd:h (2000+8*d)=.dead):
  bF R (az false) h d [.rsl id none 1 lo (V.length+1),lm V,W q] (.fn fcg [] [])=some (B (nR q top us V).2.2,upd h id (.ar 1 (aB (P++((nR q top us V).1++(nR q top us V).2.1::Q)))),[(id,true)]):=by
 have hm:=QF false;have hs:=O8 false;have hk:=CZ false;have hf:=akw (Q:=Q) hV hq hn hlo hl hP hu ht;have hb':kh (az false) [.rsl id none 1 lo (V.length+1),lm V,W q] (.fn fcg [] [])=false:=by
  grind[kh]
 have h1:bS h [1,0,0] [.rsl id none 1 lo (V.length+1),.sl 1 (aB V),W q]=some ([.rsl id none 1 lo (V.length+1),.sl 1 (aB V),W q],h,[]):=by
  simp[bS,dC,wx,fP,aE]
 have hr:ce h 40 [id] 0=[id]:=by
  grind[ce,oA,bH]
 have hp:bH [] ([AV.rsl id none 1 lo (V.length+1),.sl 1 (aB V),W q].flatMap cf)=[id]:=by
  simp[cf,fI,bH]
 have h3:bm [id] id=1000:=by simp[bm]
 have hnr:cF (B (nR q top us V).2.2)=1:=rfl;have hnm:bp [[.o 2 []],[.o 2 []],[]] [.rsl id none 1 lo (V.length+1),.sl 1 (aB V),W q]=[.rsl id none 1 lo (V.length+1),.sl 1 (aB V),W q]:=by
  simp only[go_sem];rfl
 unfold bF;rw[if_neg γ];simp only[lm]at hf⊢;simp only[dW,hm,ayq,ayp,h1,ayi,hp,hr,hs,hnm];simp[jV,bg,bo,hh,aD,bY,dV,kg,h3,dS,hf,eP,hnr,cA,hd,dh,bf,oT,Cp,rB,fI,jj,fy,E4,eE,mat,dL,gb,hk,FT,hm]
theorem aia{V us P Z Qr:List Nat}{sh n j g:Int}{UL QL J:Nat}(hV:Lb V)(hu:Lb us)(hl:us.length=V.length)(hn:V.length<=100000)(hP:P.length=J)(hj:j=J)(hJ:J<=100000)(hUL:J+V.length<=UL):
  ∀ (k i:Nat),i+k=V.length->∀ (s:ak) (h:ac),s 8=I sh->s 9=.rsl 2408 none 1 0 UL->s 10=lm V->s 11=I n->s 12=.rsl 70 none 1 0 QL->s 13=I j->s 14=W g->s 15=U (ez us V i:Nat)->s 123=lm V->s 124=I V.length->s 125=I i->h 63=.dead->h 70=.ar 1 (aB Qr)->h 2408=.ar 1 (aB (P++(dj us V i++(us.drop i++Z))))->
  ∃hh,ai 4 [8,9,10,11,12,13,14,15] (ax (aj R (az false) ij) [8,9,10,11,12,13,14,15,123,124,125] [63,70,2408] s h)=some (.normal,⟨upd (upd (upd (upd (upd (upd (upd (upd (fun _=>.any) 15 (U (ez us V V.length:Nat))) 14 (W g)) 13 (I j)) 12 (.rsl 70 none 1 0 QL)) 11 (I n)) 10 (lm V)) 9 (.rsl 2408 none 1 0 UL)) 8 (I sh),hh⟩)/\hh 70=.ar 1 (aB Qr)/\hh 2408=.ar 1 (aB (P++(dj us V V.length++Z)))/\(∀a,a≠70->a≠2408->hh a=.dead):=by
 subst hj;intro k;induction k with
 |zero=>
  intro i hi s h g8 g9 g10 g11 g12 g13 g14 g15 g123 g124 g125 k63 k70 k2408;have hi':i=V.length:=ω
  subst hi';rw[List.drop_of_length_le ω,ayq]at k2408;rw[ag];refine⟨?hh0,?_,?_,?_,?_⟩;rotate_left
  ·simp only[ij,go_sem,g8,g9,g10,g11,g12,g13,g14,g15,g123,g124,g125,k63,k70,k2408,ay6];rfl
  all_goals simp_all[cV,if_false,ite_self]
 |succ k ih=>
  intro i hi s h g8 g9 g10 g11 g12 g13 g14 g15 g123 g124 g125 k63 k70 k2408;have hlt:i<V.length:=ω
  have hd:us.drop i=us.getD i 0::us.drop (i+1):=by
   simp_all
  have hsl:=jh us V i;rw[hd,ayW]at k2408;have e1:((i:Int)< (V.length:Int))=True:=tt;have e2:aX (aB V) (i:Int)=some (.ipt [U (V.getD i 0:Nat)]):=bv rfl ω;have e3:IntKind.i64.wrap ((i:Int)+1)=((i+1:Nat):Int):=wi;have e4:IntKind.i64.wrap ((J:Int)+(i:Int))=((J+i:Nat):Int):=wi;have e5:(0<=((J+i:Nat):Int))=True:=tt;have e6:(((J+i:Nat):Int)< (UL:Int))=True:=tt;have e9:=Nu (bO hu i) (bO hV i) (Es hu hV i);have e7:(aB (P++(dj us V i++(us.getD i 0::(us.drop (i+1)++Z)))))[J+i]?=some [U (us.getD i 0:Nat)]:=by
   simp_all[kC,Nat.add_sub_cancel_left,Nat.sub_self]
  have e8:(aB (P++(dj us V i++(us.getD i 0::(us.drop (i+1)++Z))))).set (J+i) [U (((us.getD i 0+V.getD i 0+ez us V i) %4294967296:Nat):Int)]=aB (P++(dj us V (i+1)++(us.drop (i+1)++Z))):=by
   rw[oO,List.set_append_right _ _ ω,List.set_append_right _ _ ω,hP,hsl,Nat.add_sub_cancel_left,Nat.sub_self];simp[dj,List.range_succ,Gh]
  have ih':=ih (i+1) ω;have hc:ez us V (i+1)=(us.getD i 0+V.getD i 0+ez us V i)/4294967296:=rfl;rw[ag];simp only[ij,go_sem,g8,g9,g10,g11,g12,g13,g14,g15,g123,g124,g125,k63,k70,k2408,e1,e2,e3,e4,e5,e6,e7,e8,e9,ayk,ayc];exact ih' _ _ rfl rfl rfl rfl rfl rfl rfl rfl rfl rfl rfl rfl rfl rfl
theorem am0{U V:List Nat}{j k:Nat}(hU:Lb U)(hV:Lb V)(hvl:V.length=k+2)(h:ab (U.drop (j+1))<ab V):U.getD (j+(k+2)) 0<=V.getD (k+1) 0:=by
 have h1:ab V=ab (V.take (k+1))+4294967296^ (k+1)*V.getD (k+1) 0:=by
  rw[←eK,ayt ω]
 have h2:=cI (fj hV (k+1));rw[ayo,ay0 ω]at h2;have h3:4294967296^ (k+1)*U.getD (j+(k+2)) 0<=ab (U.drop (j+1)):=by
  by_cases hl:j+1+(k+1)<=U.length
  ·have h4:=FK (U.drop (j+1)) (k+1) (by rw[azd];omega);rw[List.drop_drop]at h4;have h5:=fB U (j+1+(k+1));rw[show j+1+(k+1)=j+(k+2)by omega]at h4 h5;rw[h4,h5,Nat.mul_add];omega
  grind
 refine Nat.le_of_not_lt fun hc=>?_;have h6:4294967296^ (k+1)*(V.getD (k+1) 0+1)<=4294967296^ (k+1)*U.getD (j+(k+2)) 0:=ay7 _ hc;rw[Nat.mul_add,Nat.mul_one]at h6;omega
theorem afp{U:List Nat}{j n:Nat}(h:j+n<U.length):U=U.take j++((U.drop j).take n++U.getD (j+n) 0::U.drop (j+n+1)):=by
 grind[ayv,List.drop_drop,List.take_append_drop]
theorem aal{U:List Nat}{j n i:Nat}(hi:i<n):((U.drop j).take n).getD i 0=U.getD (j+i) 0:=by
 rw[List.getD_eq_getElem?_getD,List.getD_eq_getElem?_getD,List.getElem?_take,if_pos hi,List.getElem?_drop]
theorem apG{V us P Z Qr:List Nat}{sh n j g:Int}{UL QL J:Nat}(hV:Lb V)(hu:Lb us)(hl:us.length=V.length)(hn:V.length<=100000)(hP:P.length=J)(hj:j=J)(hJ:J<=100000)(hUL:J+V.length<=UL)(s:ak)(h:ac)(X:Option (Ex×St))(hX:ai 4 [8,9,10,11,12,13,14,15] (ax (aj R (az false) ij) [8,9,10,11,12,13,14,15,123,124,125] [63,70,2408] s h)=X)
  (g8:s 8=I sh) (g9:s 9=.rsl 2408 none 1 0 UL) (g10:s 10=lm V) (g11:s 11=I n) (g12:s 12=.rsl 70 none 1 0 QL) (g13:s 13=I j) (g14:s 14=W g) (g15:s 15=U 0) (g123:s 123=lm V) (g124:s 124=I V.length) (g125:s 125=I 0) (k63:h 63=.dead) (k70:h 70=.ar 1 (aB Qr)) (k2408:h 2408=.ar 1 (aB (P++(us++Z)))):
  ∃hh,X=some (.normal,⟨upd (upd (upd (upd (upd (upd (upd (upd (fun _=>.any) 15 (U (ez us V V.length:Nat))) 14 (W g)) 13 (I j)) 12 (.rsl 70 none 1 0 QL)) 11 (I n)) 10 (lm V)) 9 (.rsl 2408 none 1 0 UL)) 8 (I sh),hh⟩)/\hh 70=.ar 1 (aB Qr)/\hh 2408=.ar 1 (aB (P++(dj us V V.length++Z)))/\(∀a,a≠70->a≠2408->hh a=.dead):=by
 subst hX;exact aia hV hu hl hn hP hj hJ hUL V.length 0 (ayc _) s h g8 g9 g10 g11 g12 g13 g14 g15 g123 g124 g125 k63 k70 k2408
theorem am1{q top:Nat}{us vs:List Nat}(hq:q<4294967296)(ht:top<4294967296)(hu:Lb us)(hv:Lb vs)(hl:us.length=vs.length)(hf:(nR q top us vs).2.2=true):1<=q:=by
 obtain⟨t1,t2,t3,t4⟩:=Re hq ht hu hv hl;rw[if_pos hf]at t1;refine Nat.pos_of_ne_zero fun h0=>?_;rw[h0,Nat.zero_mul,ayF]at t1;have h1:=cI t3;rw[h0]at t2 h1 t4;rw[t4]at h1;have h2:4294967296^vs.length*((nR 0 top us vs).2.1+1)<=4294967296^vs.length*4294967296:=ay7 _ ω;rw[Nat.mul_add,Nat.mul_one]at h2;omega
theorem afq{A r:List Nat}{j k t:Nat}(h:r.length=k+2):A.take j++(r++t::A.drop (j+(k+2)+1))=oF A j r t:=by
 grind[oF]
theorem aib{V:List Nat}{k:Nat}{sh:Int}{UL QL:Nat}(hV:Lb V)(hvl:V.length=k+2)(hn2:2147483648<=V.getD (k+1) 0)(hn:V.length<=100000)(hUL:UL<=100000):
  ∀ (m:Nat) (A Dn:List Nat),Lb A->A.length=UL->m+(k+2)<=UL->m+Dn.length=QL->ab (A.drop m)<ab V->∀ (s:ak) (h:ac),s 8=I sh->s 9=.rsl 2408 none 1 0 UL->s 10=lm V->s 11=I (k+2:Nat)->s 12=.rsl 70 none 1 0 QL->s 13=I ((m:Int)-1)->h 63=.dead->h 70=.ar 1 (aB (aya m 0++Dn))->h 2408=.ar 1 (aB A)->
  ∃hh,ai 2 [8,9,11,12] (ax (aj R (az false) j6) [8,9,10,11,12,13] [63,70,2408] s h)=some (.normal,⟨upd (upd (upd (upd (fun _=>.any) 12 (.rsl 70 none 1 0 QL)) 11 (I (k+2:Nat))) 9 (.rsl 2408 none 1 0 UL)) 8 (I sh),hh⟩)/\hh 70=.ar 1 (aB ((yR V m A).2++Dn))/\hh 2408=.ar 1 (aB (yR V m A).1)/\(∀a,a≠70->a≠2408->hh a=.dead):=by
 intro m;induction m with
 |zero=>
  intro A Dn hA hl hm hq hlt s h g8 g9 g10 g11 g12 g13 k63 k70 k2408;have e1:(0<=(((0:Nat):Int)-1))=False:=ff;rw[ag];refine⟨?hh0,?_,?_,?_,?_⟩;rotate_left
  ·simp only[j6,go_sem,g8,g9,g10,g11,g12,g13,k63,k70,k2408,e1];rfl
  ·rfl
  ·rfl
  simp_all[cV,if_false,ite_self]
 |succ j ih=>
  intro A Dn hA hl hm hq hlt s h g8 g9 g10 g11 g12 g13 k63 k70 k2408;have e0:(((j+1:Nat):Int)-1)=(j:Int):=ω
  rw[e0]at g13;have e1:(0<=(j:Int))=True:=tt;have w1:IntKind.i64.wrap ((j:Int)+((k+2:Nat):Int))=((j+(k+2):Nat):Int):=wi σ ω;have w2:IntKind.i64.wrap (((j+(k+2):Nat):Int)-1)=((j+(k+1):Nat):Int):=wi;have w3:IntKind.i64.wrap (((j+(k+2):Nat):Int)-2)=((j+k:Nat):Int):=wi;have w4:IntKind.i64.wrap (((k+2:Nat):Int)-1)=((k+1:Nat):Int):=wi;have w5:IntKind.i64.wrap (((k+2:Nat):Int)-2)=((k:Nat):Int):=wi;have w6:IntKind.i64.wrap (((j+(k+2):Nat):Int)+1)=((j+(k+2)+1:Nat):Int):=wi;have w7:IntKind.i64.wrap ((j:Int)-1)=(j:Int)-1:=i64_in _ ⟨by omega,by omega⟩;have r1:aX (aB V) ((k+1:Nat):Int)=some (.ipt [U (V.getD (k+1) 0:Nat)]):=bv rfl ω;have r2:aX (aB V) ((k:Nat):Int)=some (.ipt [U (V.getD k 0:Nat)]):=bv rfl ω;have b1:(0<=((j+(k+2):Nat):Int))=True:=tt;have b2:(0<=((j+(k+1):Nat):Int))=True:=tt;have b3:(0<=((j+k:Nat):Int))=True:=tt;have b4:(((j+(k+2):Nat):Int)< (UL:Int))=True:=tt;have b5:(((j+(k+1):Nat):Int)< (UL:Int))=True:=tt;have b6:(((j+k:Nat):Int)< (UL:Int))=True:=tt;have l1:(aB A)[j+(k+2)]?=some [U (A.getD (j+(k+2)) 0:Nat)]:=kC ω;have l2:(aB A)[j+(k+1)]?=some [U (A.getD (j+(k+1)) 0:Nat)]:=kC ω;have l3:(aB A)[j+k]?=some [U (A.getD (j+k) 0:Nat)]:=kC ω;have htop:=am0 hA hV hvl hlt;have hg:=ah6 (top:=A.getD (j+(k+2)) 0) (next:=A.getD (j+(k+1)) 0) (third:=A.getD (j+k) 0) (v:=V.getD (k+1) 0) (w:=V.getD k 0) hn2 (bO hV _) htop (bO hA _) (bO hA _) (bO hV _);have hT:Ax (A.getD (j+(k+2)) 0) ((A.drop j).take (k+2))=(A.getD (j+(k+2)) 0*4294967296+A.getD (j+(k+1)) 0)*4294967296+A.getD (j+k) 0:=by
   unfold Ax;have h1:((A.drop j).take (k+2)).length=k+2:=γ
   rw[h1,show k+2-1=k+1 by omega,show k+2-2=k by omega,aal ω,aal ω]
  have hW:yQ V=V.getD (k+1) 0*4294967296+V.getD k 0:=by
   grind[yQ]
  rw[←hT,←hW]at hg;have hgb:wD (Ax (A.getD (j+(k+2)) 0) ((A.drop j).take (k+2))) (yQ V)<4294967296:=by
   grind[wD,Ax,yQ,Nat.min_le_left]
  obtain⟨G,hG⟩:∃G,wD (Ax (A.getD (j+(k+2)) 0) ((A.drop j).take (k+2))) (yQ V)=G:=⟨_,rfl⟩;rw[hG]at hg hgb;have hsp:=afp (U:=A) (j:=j) (n:=k+2) ω;have hwl:((A.drop j).take (k+2)).length=V.length:=γ
  have hpl:(A.take j).length=j:=γ
  have htk:=fun(h:ac) (d:Nat) (hh:h 2408=.ar 1 (aB A)) (hd:h (2000+8*d)=.dead)=>afo (V:=V) (us:=(A.drop j).take (k+2)) (P:=A.take j) (Q:=A.drop (j+(k+2)+1)) (q:=G) (lo:=j) (top:=A.getD (j+(k+2)) 0) hV hgb hn ω hwl hpl (fj (mV hA j) _) (bO hA _) (h:=h) (d:=d) (id:=2408) γ hd;rw[hvl]at htk;have sl:eA 1 (.rsl 2408 none 1 0 UL) (some (I (j:Int))) (some (I ((j+(k+2)+1:Nat):Int))) none=some (.rsl 2408 none 1 j (k+2+1)):=by
   have h1:jW UL UL (some (I ((j+(k+2)+1:Nat):Int)))=some (j+(k+2)+1):=uU rfl ω;have h2:jW 0 (j+(k+2)+1) (some (I (j:Int)))=some j:=uU rfl ω;have h3:j+(k+2)+1-j=k+2+1:=ω
   simp only[eA,j8,h1,h2,ayi,ayT,ayc,h3,if_true,Option.isNone_none]
  rw[ag];generalize ax _ _ _=L at ih⊢;simp only[j6,go_sem,g8,g9,g10,g11,g12,g13,k63,k70,k2408,e1,w1,w2,w3,w4,w5,w6,r1,r2,b1,b2,b3,b4,b5,b6,l1,l2,l3,hg,sl,ayk,ayc];rw[htk _ _ rfl rfl];have hpos:=am1 (q:=G) (top:=A.getD (j+(k+2)) 0) (us:=(A.drop j).take (k+2)) (vs:=V) hgb (bO hA _) (fj (mV hA j) _) hV hwl;obtain⟨q1,q2,q3,q4⟩:=Re (q:=G) (top:=A.getD (j+(k+2)) 0) (us:=(A.drop j).take (k+2)) (vs:=V) hgb (bO hA _) (fj (mV hA j) _) hV hwl;have hVb:ab V<4294967296^ (k+2):=by grind[cI]
  obtain⟨x1,x2,x3⟩:=aaj (n:=k+2) hA ω hVb hlt;have hs:=afk (top:=A.getD (j+(k+2)) 0) (bO hA _) (fj (mV hA j) (k+2)) hV (by rw[hwl,hvl]) hvl hn2 ω;have hdv:yR V (j+1) A=((yR V j (oF A j (xA (A.getD (j+(k+2)) 0) ((A.drop j).take (k+2)) V).1 (xA (A.getD (j+(k+2)) 0) ((A.drop j).take (k+2)) V).2.1)).1,(yR V j (oF A j (xA (A.getD (j+(k+2)) 0) ((A.drop j).take (k+2)) V).1 (xA (A.getD (j+(k+2)) 0) ((A.drop j).take (k+2)) V).2.1)).2++[(xA (A.getD (j+(k+2)) 0) ((A.drop j).take (k+2)) V).2.2]):=by
   rw[←hvl];rfl
  rw[x1]at hs;rw[hdv];have hds:xA (A.getD (j+(k+2)) 0) ((A.drop j).take (k+2)) V=if(nR G (A.getD (j+(k+2)) 0) ((A.drop j).take (k+2)) V).2.2=true then(dj (nR G (A.getD (j+(k+2)) 0) ((A.drop j).take (k+2)) V).1 V V.length,((nR G (A.getD (j+(k+2)) 0) ((A.drop j).take (k+2)) V).2.1+ez (nR G (A.getD (j+(k+2)) 0) ((A.drop j).take (k+2)) V).1 V V.length) %4294967296,G-1)else((nR G (A.getD (j+(k+2)) 0) ((A.drop j).take (k+2)) V).1,(nR G (A.getD (j+(k+2)) 0) ((A.drop j).take (k+2)) V).2.1,G):=by
   unfold xA;rw[hG]
  generalize nR G (A.getD (j+(k+2)) 0) ((A.drop j).take (k+2)) V=r at*
  obtain⟨ra,rt,rf⟩:=r;generalize xA (A.getD (j+(k+2)) 0) ((A.drop j).take (k+2)) V=sd at*
  have wg:IntKind.u32.wrap (G:Int)=G:=Cb rfl hgb;have o1:(aB (aya (j+1) 0++Dn))[j]?=some [U (0:Nat)]:=by
   rw[kC (by simp;omega),List.getD_eq_getElem?_getD,List.getElem?_append_left σ,List.getElem?_replicate,if_pos ω];rfl
  have o2:∀z:Nat,(aB (aya (j+1) 0++Dn)).set j [U (z:Int)]=aB (aya j 0++z::Dn):=fun z=>by
   rw[oO];congr 1;rw[List.replicate_succ',ayX,List.set_append_right _ _ σ];simp
  have o3:((j:Int)< (QL:Int))=True:=tt;cases rf with
  |false=>
   simp only[aza,if_false]at hds;subst hds;simp only at hs⊢;obtain⟨d1,d2,d3,d4,d5⟩:=hs;rw[afq d4];have ih':=ih (oF A j ra rt) (G::Dn) (Rf hA d3 d5) (by rw[EM ω];exact hl) ω (by simp;omega) (by
    rw[Ko ω,dZ,d4,w2' x2,d1];exact ayI _ ω)
   simp only[go_sem,w7,wg,o1,o2,o3,e1,ayk,ayc];rw[ayX];exact ih' _ _ rfl rfl rfl rfl rfl rfl rfl rfl rfl
  |true=>
   simp only[if_true]at hds;subst hds;simp only at hs q2 q3 q4⊢;obtain⟨d1,d2,d3,d4,d5⟩:=hs;have hG1:1<=G:=hpos rfl;have wq:IntKind.u64.wrap ((G:Int)-1)=((G-1:Nat):Int):=dK ω ω;have wg1:IntKind.u32.wrap ((G-1:Nat):Int)=((G-1:Nat):Int):=Cb rfl ω;have hx:=apG (V:=V) (us:=ra) (P:=A.take j) (Z:=rt::A.drop (j+(k+2)+1)) (Qr:=aya (j+1) 0++Dn) (sh:=sh) (n:=(k+2:Nat)) (j:=(j:Int)) (g:=((G-1:Nat):Int)) (UL:=UL) (QL:=QL) (J:=j) hV q3 q4 hn hpl rfl ω ω;simp only[go_sem,wq];generalize hX:ai 4 _ _=X;obtain⟨hh,rfl,y70,y2408,yd⟩:=hx _ _ _ hX rfl rfl rfl rfl rfl rfl rfl rfl rfl rfl rfl rfl rfl rfl;have y63:hh 63=.dead:=yd _ δ δ;have hsl:(dj ra V V.length).length=k+2:=by rw[jh,hvl]
   have wc:IntKind.u32.wrap ((rt:Int)+(ez ra V V.length:Int))=(((rt+ez ra V V.length) %4294967296:Nat):Int):=HU σ;have z1:(aB (A.take j++(dj ra V V.length++rt::A.drop (j+(k+2)+1))))[j+(k+2)]?=some [U (rt:Nat)]:=by
    rw[kC (by simp[hpl,hsl]),List.getD_eq_getElem?_getD,List.getElem?_append_right ω,List.getElem?_append_right ω,hpl,hsl,Nat.add_sub_cancel_left,Nat.sub_self];rfl
   have z2:(aB (A.take j++(dj ra V V.length++rt::A.drop (j+(k+2)+1)))).set (j+(k+2)) [U (((rt+ez ra V V.length) %4294967296:Nat):Int)]=aB (oF A j (dj ra V V.length) ((rt+ez ra V V.length) %4294967296)):=by
    rw[oO,List.set_append_right _ _ ω,List.set_append_right _ _ ω,hpl,hsl,Nat.add_sub_cancel_left,Nat.sub_self,←afq hsl];rfl
   have ih':=ih (oF A j (dj ra V V.length) ((rt+ez ra V V.length) %4294967296)) ((G-1)::Dn) (Rf hA d3 d5) (by rw[EM ω];exact hl) ω (by simp;omega) (by
    rw[Ko ω,dZ,hsl,w2' x2,d1];exact ayI _ ω)
   generalize oF A j (dj ra V V.length) ((rt+ez ra V V.length) %4294967296)=A2 at*
   generalize(rt+ez ra V V.length) %4294967296=rc at*
   simp only[go_sem,w1,w7,wg1,wc,z1,z2,o1,o2,o3,e1,b1,b4,y63,y70,y2408,ayk,ayc];rw[ayX];exact ih' _ _ rfl rfl rfl rfl rfl rfl y63 rfl rfl
theorem akx{x:Nat}(hx:x<4294967296):R fac [U x] []=some (I ((32-af x:Nat):Int),[]):=by
 refine au GQ rfl ?_;have hb:af x<=32:=bD.2 hx;have hl:=Wv hx;have w1:IntKind.i64.wrap (32- (af x:Int))=((32-af x:Nat):Int):=wi;simp only[pY,yD,go_sem,hl,w1]
theorem apH{V A:List Nat}{k:Nat}{sh:Int}{UL m:Nat}(hV:Lb V)(hvl:V.length=k+2)(hn2:2147483648<=V.getD (k+1) 0)(hn:V.length<=100000)(hUL:UL<=100000)(hA:Lb A)(hl:A.length=UL)(hm:m+(k+2)<=UL)(hlt:ab (A.drop m)<ab V)(s:ak)(h:ac)(X:Option (Ex×St))(hX:ai 2 [8,9,11,12] (ax (aj R (az false) j6) [8,9,10,11,12,13] [63,70,2408] s h)=X)
  (g8:s 8=I sh) (g9:s 9=.rsl 2408 none 1 0 UL) (g10:s 10=lm V) (g11:s 11=I (k+2:Nat)) (g12:s 12=.rsl 70 none 1 0 m) (g13:s 13=I ((m:Int)-1)) (k63:h 63=.dead) (k70:h 70=.ar 1 (aB (aya m 0))) (k2408:h 2408=.ar 1 (aB A)):
  ∃hh,X=some (.normal,⟨upd (upd (upd (upd (fun _=>.any) 12 (.rsl 70 none 1 0 m)) 11 (I (k+2:Nat))) 9 (.rsl 2408 none 1 0 UL)) 8 (I sh),hh⟩)/\hh 70=.ar 1 (aB (yR V m A).2)/\hh 2408=.ar 1 (aB (yR V m A).1)/\(∀a,a≠70->a≠2408->hh a=.dead):=by
 subst hX;have:=aib (sh:=sh) (QL:=m) hV hvl hn2 hn hUL m A [] hA hl hm σ hlt s h g8 g9 g10 g11 g12 g13 k63 (by rw[ayp];exact k70) k2408;rw[ayp]at this;exact this
theorem aic{b:List Nat}{k:Nat}(hb:Lb b)(hl:b.length=k+2)(ht:b.getD (k+1) 0≠0):2147483648*4294967296^ (k+1)<=ab b*2^ (32-af (b.getD (k+1) 0))/\ab b*2^ (32-af (b.getD (k+1) 0))<4294967296^ (k+2):=by
 have h1:ab b=ab (b.take (k+1))+4294967296^ (k+1)*b.getD (k+1) 0:=by
  rw[←eK,ayt ω]
 have h2:=cI (fj hb (k+1));rw[ayo,ay0 ω]at h2;have h3:=bO hb (k+1);generalize b.getD (k+1) 0=x at*
 have h4:af x<=32:=bD.2 h3;have h5:0<af x:=fu ht;have h6:=dk (n:=x) (32-af x) ht;have h7:2147483648<=x*2^ (32-af x):=by
  refine Nat.le_of_not_lt fun hc=>?_;have:=bD.2 (show x*2^ (32-af x)<2^31 from hc);omega
 have h8:(x+1)*2^ (32-af x)<=4294967296:=by
  have h9:x<2^af x:=bD.1 (ayd _);have h10:(x+1)*2^ (32-af x)<=2^af x*2^ (32-af x):=aym _ h9;rw[←ayn,show af x+(32-af x)=32 by omega]at h10;exact h10
 rw[h1];have e:4294967296^ (k+2)=4294967296^ (k+1)*4294967296:=ayZ ..;rw[e];generalize 4294967296^ (k+1)=B at*
 generalize 2^ (32-af x)=S at*
 have h11:B*2147483648<=B*(x*S):=ay7 _ h7;have h12:B*((x+1)*S)<=B*4294967296:=ay7 _ h8;have h13:(ab (b.take (k+1))+B*x)*S=ab (b.take (k+1))*S+B*(x*S):=by rw[ayA,ayD]
 rw[h13];constructor
 ·omega
 ·have hS:0<S:=by
   rcases Nat.eq_zero_or_pos S with h0|h0
   ·rw[h0]at h7;omega
   ·exact h0
  have h14:ab (b.take (k+1))*S<B*S:=Nat.mul_lt_mul_of_pos_right h2 hS;rw[ayA,Nat.one_mul,Nat.mul_add]at h12;omega
theorem Y8{a b:List Nat}(ha:Lb a)(hb:Lb b)(h1:a.length<=50000)(h2:b.length<=50000)(hl:(av (ab b)).length=1)(hge:ab b<=ab a):R fb6 [lm a,lm b] []=some (.tup [lm (fw (ab b) (av (ab a))).1,lm [ab a%ab b]],[]):=by
 refine au En rfl ?_;have t1:=dB ha ω;have t2:=dB hb ω;have la:=dx a ha;have hc:=Ah (bc (ab a)) (bc (ab b)) ω ω;rw[aN,aN]at hc;have e1:(cj (ab a) (ab b)<0)=False:=by
  unfold cj;grind
 obtain⟨y,hy⟩:=List.length_eq_one_iff.1 hl;have hv:ab b=y:=by
  grind[aN,ab]
 have hyb:y<4294967296:=by
  have:=bc (ab b);rw[hy]at this;exact this y σ
 have hy0:0<y:=by
  grind[ft]
 have hs:=ah9 (bc (ab a)) hy0 hyb ω;obtain⟨s1,s2,s3⟩:=Dx hy0 (bc (ab a));rw[aN]at s1;have s4:(fw y (av (ab a))).2=ab a%y:=by
  grind[ayy,Nat.mul_add_mod,ayV]
 rw[hv]at hge⊢;rw[s4]at hs;rw[hy]at t2 hc;have e2:aX (aB [y]) 0=some (.ipt [U (y:Nat)]):=bv (n:=0) rfl σ;have e3:(([y]:List Nat).length:Int)=1:=rfl;have e4:((1:Nat):Int)=1:=rfl;simp only[qx,ye,go_sem,t1,t2,hc,e1,e2,e3,e4,hs,decide_true];rfl
theorem Y9{a b:List Nat}{k:Nat}(ha:Lb a)(hb:Lb b)(h1:a.length<=50000)(h2:b.length<=50000)(hl:(av (ab b)).length=k+2)(hge:ab b<=ab a):∃Q Rr,R fb6 [lm a,lm b] []=some (.tup [lm Q,lm Rr],[])/\Lb Q/\Lb Rr/\ab Q=ab a/ab b/\ab Rr=ab a%ab b/\Q.length<=100000/\Rr.length<=100000:=by
 have t1:=dB ha ω;have t2:=dB hb ω;have la:=dx a ha;have lb:=dx b hb;have hc:=Ah (bc (ab a)) (bc (ab b)) ω ω;rw[aN,aN]at hc;have e1:(cj (ab a) (ab b)<0)=False:=by
  unfold cj;grind
 have hvd:=aN (ab b);have hLd:=bc (ab b);have hb0:ab b≠0:=fun h=>by
  rw[oL.2 h]at hl;grind
 have ht:(av (ab b)).getD (k+1) 0≠0:=by
  intro h0;have q1:ab (av (ab b))=ab ((av (ab b)).take (k+1))+4294967296^ (k+1)*(av (ab b)).getD (k+1) 0:=by
   rw[←eK,ayt ω]
  have q2:=cI (fj hLd (k+1));have q3:=Ss hb0;rw[ayo,ay0 ω]at q2;rw[hl,show k+2-1=k+1 from rfl]at q3;rw[h0,Nat.mul_zero,hvd]at q1;omega
 obtain⟨n1,n2⟩:=aic hLd hl ht;rw[hvd]at n1 n2;have hy:=bO hLd (k+1);have hyl:aX (aB (av (ab b))) ((k+1:Nat):Int)=some (.ipt [U ((av (ab b)).getD (k+1) 0:Nat)]):=bv (n:=k+1) rfl ω;generalize(av (ab b)).getD (k+1) 0=y at*
 have hlz:=akx hy;have hbl:af y<=32:=bD.2 hy;have hbp:0<af y:=fu ht;generalize hs:32-af y=s at*
 have hs32:s<32:=ω
 have s1:=Pa (bc (ab a)) (n:=s) ω ω;have s2:=Pa hLd (n:=s) ω ω;rw[aN,show s/32=0 by omega,ayc]at s1 s2;have hsp:(2:Nat)^s<=2147483648:=ayP (n:=2) (i:=s) (j:=31) δ ω;have hAl:=gA (ab a);have hBl:=gA (ab b);have hle:k+2<=(av (ab a)).length:=by
  rw[←hl];refine Nat.le_of_not_lt fun hc=>?_;have:=rZ hc;omega
 have hA2:ab a*2^s<4294967296^ ((av (ab a)).length+1):=by
  rw[ayZ];exact Nat.mul_lt_mul_of_lt_of_le hAl ω δ
 have hB2:ab b*2^s<4294967296^ ((av (ab b)).length+1):=by
  rw[ayZ];exact Nat.mul_lt_mul_of_lt_of_le hBl ω δ
 have t3:=dB (m:=dE ((av (ab b)).length+1) (ab b*2^s)) (oM _ _) (by rw[cT];omega);rw[lP,ayV hB2]at t3;have hVv:=aN (ab b*2^s);have hVb:=bc (ab b*2^s);have hVl:(av (ab b*2^s)).length=k+2:=by
  have q1:=jR n2;have q2:=gA (ab b*2^s);refine Nat.le_antisymm q1 (Nat.le_of_not_lt fun hc=>?_);have q3:4294967296^ (av (ab b*2^s)).length<=4294967296^ (k+1):=ayP δ ω;omega
 have hVt:2147483648<=(av (ab b*2^s)).getD (k+1) 0:=by
  have q1:ab (av (ab b*2^s))=ab ((av (ab b*2^s)).take (k+1))+4294967296^ (k+1)*(av (ab b*2^s)).getD (k+1) 0:=by
   rw[←eK,ayt ω]
  have q2:=cI (fj hVb (k+1));rw[ayo,ay0 ω]at q2;refine Nat.le_of_not_lt fun hc=>?_;have q3:4294967296^ (k+1)*((av (ab b*2^s)).getD (k+1) 0+1)<=4294967296^ (k+1)*2147483648:=ay7 _ hc;rw[Nat.mul_add,Nat.mul_one]at q3;omega
 generalize av (ab b*2^s)=V at*
 obtain⟨m,hm⟩:∃m,(av (ab a)).length=m+(k+1):=⟨_,(Nat.sub_add_cancel ω).symm⟩;have hUv:ab (dE ((av (ab a)).length+1) (ab a*2^s))=ab a*2^s:=by rw[lP,ayV hA2]
 have hUb:=oM ((av (ab a)).length+1) (ab a*2^s);have hUl:=cT ((av (ab a)).length+1) (ab a*2^s);have hlt:ab ((dE ((av (ab a)).length+1) (ab a*2^s)).drop m)<ab V:=by
  rw[yk hUb,hUv,hVv];refine ay8 (Nat.div_lt_of_lt_mul ?_) n1;rw[ayy 2147483648,←ayD,←ayn,←hm];exact Nat.mul_lt_mul_of_lt_of_le hAl hsp δ
 generalize dE ((av (ab a)).length+1) (ab a*2^s)=A at*
 obtain⟨d1,d2,d3,d4,d5,d6⟩:=afm hVb hVl hVt m A hUb ω hlt;have hdx:=apH (sh:=(s:Int)) hVb hVl hVt ω (UL:=A.length) ω hUb rfl (m:=m) ω hlt;generalize(yR V m A).1=rr at*
 generalize(yR V m A).2=qq at*
 have hrt:ab (rr.take (k+2))=ab rr:=by
  have q1:=dZ (rr.take (k+2)) (rr.drop (k+2));rw[List.take_append_drop]at q1;have q2:=yk d5 (k+2);rw[Nat.div_eq_of_lt (Nat.lt_trans d2 (by rw[hVv];exact n2))]at q2;rw[q2]at q1;omega
 have s3:=aeq (fj d5 (k+2)) (n:=s) (by rw[ayo];omega) ω;rw[hrt,show s/32=0 by omega,Nat.sub_zero]at s3;have hrr:ab rr/2^s=ab a%ab b/\ab qq=ab a/ab b:=by
  rw[hUv,hVv]at d1;rw[hVv]at d2;have q0:0<2^s:=ayr s;have q1:ab rr%2^s=0:=by
   have:ab a*2^s%2^s=0:=Nat.mul_mod_left ..;rw[d1,ayD,ayy (ab b),ayD,Nat.add_mul_mod_self_left]at this;exact this
  obtain⟨r,hr⟩:=Nat.dvd_of_mod_eq_zero q1;rw[hr,Nat.mul_div_cancel_left _ q0];rw[hr]at d1 d2;have q2:ab a=r+ab b*ab qq:=by
   refine Nat.eq_of_mul_eq_mul_right q0 ?_;rw[d1];grind
  have q3:r<ab b:=by
   refine Nat.lt_of_mul_lt_mul_right (a:=2^s) ?_;rw[ayy r];exact d2
  rw[q2,Nat.add_mul_mod_self_left,ayV q3,Nat.add_mul_div_left _ _ ω,Nat.div_eq_of_lt q3,ayc];exact⟨rfl,rfl⟩
 refine⟨qq,dE (av (ab rr)).length (ab rr/2^s),?_,d6,oM _ _,hrr.2,?_,by omega,?_⟩;rotate_left
 ·rw[lP,ayV (ayS (Nat.div_le_self _ _) (gA _))];exact hrr.1
 ·rw[cT];have:=dx rr d5;omega
 refine au En rfl ?_;generalize dE ((av (ab b)).length+1) (ab b*2^s)=B2 at s2 t3;have tk:List.take B2.length (aB B2)=aB B2:=ayt (by simp[aB]);have e2:(((av (ab b)).length:Int)=1)=False:=ff;have w1:IntKind.i64.wrap (((av (ab b)).length:Int)-1)=((k+1:Nat):Int):=wi;have e3:((A.length:Int)<=(av (ab a)).length)=False:=ff;have w2:IntKind.i64.wrap ((A.length:Int)-V.length)=((m:Nat):Int):=wi;have w3:IntKind.i64.wrap ((m:Int)-1)=(m:Int)-1:=i64_in _ ⟨by omega,by omega⟩;have z1:nU (.v (.int .i64 (m:Int))) (.v (.int .i64 (m:Int)))=some (m,m):=by
  simp only[nU];rw[if_pos ⟨by omega,by omega,by omega⟩];rfl
 have z2:(m*4<=140737488355328)=True:=tt;simp only[qx,ye,go_sem,t1,t2,hc,e1,e2,ayc,ayd,e3,w1,hyl,hlz,s1,s2,tk,t3];rw[ag];simp only[Au,go_sem,e3,w2,w3,z1,z2];generalize hX:ai 2 _ _=X;obtain⟨hh,rfl,q70,q2408,qd⟩:=hdx _ _ _ hX rfl rfl rfl (by rw[hVl];rfl) rfl rfl rfl (by simp[aB];rfl) rfl;have e4:∀n:Nat,n<=A.length->eA 1 (.rsl 2408 none 1 0 A.length) none (some (I (n:Int))) none=some (.rsl 2408 none 1 0 n):=fun n hn=>by simp[eA,j8,jW,hn]
 have e4:=e4 (k+2) ω;have e5:(0+(k+2)<=rr.length)=True:=tt;have e6:List.take (k+2) (aB rr)=aB (rr.take (k+2)):=(List.map_take ..).symm;simp only[go_sem,q70,q2408,qd 3336 δ δ,e4,e5,e6,s3];rw[d3,if_pos ω,if_pos rfl];simp only[go_sem]
theorem afr{a b:List Nat}(ha:Lb a)(hb:Lb b)(h1:a.length<=50000)(h2:b.length<=50000)(h0:ab b≠0)(hge:ab b<=ab a):∃Q Rr,R fb6 [lm a,lm b] []=some (.tup [lm Q,lm Rr],[])/\Lb Q/\Lb Rr/\ab Q=ab a/ab b/\ab Rr=ab a%ab b/\Q.length<=100000/\Rr.length<=100000:=by
 have la:=dx a ha;have lb:=dx b hb;have hn:(av (ab b)).length≠0:=fun h=>h0 (oL.1 (List.length_eq_zero_iff.1 h));by_cases hl:(av (ab b)).length=1
 ·have:=Y8 ha hb h1 h2 hl hge;have hb1:=gA (ab b);rw[hl,Nat.pow_one]at hb1;obtain⟨s1,s2,s3⟩:=Dx (Nat.pos_of_ne_zero h0) (bc (ab a));rw[aN]at s1;have s4:=aak (Nat.pos_of_ne_zero h0) hb1 (bc (ab a));refine⟨_,_,this,s4,fun x hx=>?_,?_,?_,by omega,by simp⟩
  ·have:x=ab a%ab b:=by simpa using hx
   have:=ayI (ab a) (Nat.pos_of_ne_zero h0);omega
  ·generalize(fw (ab b) (av (ab a))).2=r at*
   generalize(fw (ab b) (av (ab a))).1=q at*
   rw[s1,ayy,Nat.mul_add_div (Nat.pos_of_ne_zero h0),Nat.div_eq_of_lt s2,ayF]
  ·simp[ab]
 ·obtain⟨k,hk⟩:∃k,(av (ab b)).length=k+2:=⟨(av (ab b)).length-2,by omega⟩;exact Y9 ha hb h1 h2 hk hge
theorem afs{a b:List Nat}(ha:Lb a)(hb:Lb b)(h1:a.length<=256)(h2:b.length<=256)(h0:ab b≠0)(hge:ab b<=ab a):R fbZ [lm a,lm b] []=some (.tup [lm (av (ab a/ab b)),lm (av (ab a%ab b)),I 0],[]):=by
 refine au Nq rfl ?_;have e1:(256<a.length)=False:=ff;have e2:(256<b.length)=False:=ff;obtain⟨Q,Rr,hd,q1,q2,q3,q4,q5,q6⟩:=afr ha hb ω ω h0 hge;have t1:=dB q1 ω;have t2:=dB q2 ω;rw[q3]at t1;rw[q4]at t2;have e3:(((av (ab b)).length:Int)=0)=False:=eq_false fun h=>h0 (oL.1 (List.length_eq_zero_iff.1 ω));simp only[wO,D9,go_sem,e1,e2,e3,uV,dB hb ω,hd,t1,t2,QJ]
def w9(a b:Rd)(p:Int):Nat:=(p+3+af (ab b.m)-af (ab a.m)).toNat
def sk(a b:Rd)(p:Int)(up:Bool):Rd×Int:=if aZ p [a,b]=0 then(if b.m.length=0 then(aH,10)else if a.m.length=0 then(aH,0)else
 gI (a.neg !=b.neg) (cB (ab a.m*2^w9 a b p/ab b.m) (a.e-w9 a b p-b.e) (decide (ab a.m*2^w9 a b p%ab b.m≠0)) p (up != (a.neg !=b.neg))))else(aH,aZ p [a,b])
theorem aam{a b:Rd}(oa:Ok0 a)(ob:Ok0 b){p:Int}{up:Bool}:R fdt [ae a,ae b,I p,B up] []=some (rV (sk a b p up),[]):=by
 refine au YV rfl ?_;have hf:R fdu [I p,.sl 3 [[B a.neg,lm a.m,I a.e],[B b.neg,lm b.m,I b.e]]] []=some (I (aZ p [a,b]),[]):=Bh (p:=p) (l:=[a,b]) (fun x hx=>by
  grind) (show 2<=100000 by decide)
 unfold sk;by_cases h0:aZ p [a,b]=0
 ·obtain⟨v1,v2,v3⟩:=uY h0;have v4:vd a=true/\vd b=true:=γ
  obtain⟨va,vb⟩:=v4;obtain⟨a1,a2,a3,a4⟩:=ef va oa.lb;obtain⟨b1,b2,b3,b4⟩:=ef vb ob.lb;rw[if_pos h0];rw[h0]at hf;by_cases b0:b.m.length=0
  ·have e1:((b.m.length:Int)=0)=True:=tt;rw[if_pos b0];simp only[qO,xr,rV,ae,ah,aH,go_sem,hf,e1]
  have e1:((b.m.length:Int)=0)=False:=ff;rw[if_neg b0];by_cases a0:a.m.length=0
  ·have e2:((a.m.length:Int)=0)=True:=tt;rw[if_pos a0];simp only[qO,xr,rV,ae,ah,aH,go_sem,hf,e1,e2]
  have e2:((a.m.length:Int)=0)=False:=ff;rw[if_neg a0];have hA:=dt va a0;have hB:=dt vb b0;obtain⟨n,rfl⟩:=aze (show 0<=p by omega);have d1:=NA oa;have d2:=NA ob;rw[if_pos va]at d1;rw[if_pos vb]at d2;have hk:w9 a b (n:Nat)=((n:Int)+3+af (ab b.m)-af (ab a.m)).toNat:=rfl;generalize w9 a b (n:Nat)=k at*
  have hm2:=dk k hA;have hl2:(av (ab a.m*2^k)).length<=256:=aV ω;have hs:=Bg oa.lb a1 (k:=k) ω hl2;have hge:ab b.m<=ab (av (ab a.m*2^k)):=by
   rw[aN];refine Nat.le_of_not_lt fun hc=>?_;have:=yF (Nat.le_of_lt hc) (ayd _);omega
  have hd:=afs (bc (ab a.m*2^k)) ob.lb hl2 b1 hB hge;rw[aN]at hd;have hqb:af (ab a.m*2^k/ab b.m)<=8192:=yF (Nat.div_le_self _ _) ω;have hrb:af (ab a.m*2^k%ab b.m)<=8192:=yF (Nat.mod_le _ _) ω;have hbt:=GV (bc (ab a.m*2^k%ab b.m)) (ayj (aV (k:=256) ω) δ);rw[aN]at hbt;have hsg:=FA (M:=av (ab a.m*2^k/ab b.m)) (e:=a.e-k-b.e) (n:=n) (more:=decide (ab a.m*2^k%ab b.m≠0)) (up:=up) (neg:=a.neg !=b.neg) (bc _) (aV ω) ⟨by omega,by omega⟩ ⟨by omega,by omega⟩;rw[aN]at hsg;have hmr:decide (ab a.m*2^k%ab b.m≠0)=decide ((0:Int)< (af (ab a.m*2^k%ab b.m):Nat)):=by
   grind[pG,decide_eq_true,fu]
  rw[hmr]at hsg⊢;have w1:IntKind.i64.wrap ((n:Int)+3)=(n:Int)+3:=i64_in _ ⟨by omega,by omega⟩;have w2:IntKind.i64.wrap ((n:Int)+3+(af (ab b.m):Nat))=(n:Int)+3+(af (ab b.m):Nat):=i64_in _ ⟨by omega,by omega⟩;have w3:IntKind.i64.wrap ((n:Int)+3+(af (ab b.m):Nat)- (af (ab a.m):Nat))=(n:Int)+3+(af (ab b.m):Nat)- (af (ab a.m):Nat):=i64_in _ ⟨by omega,by omega⟩;have w4:IntKind.i64.wrap (a.e- (k:Int))=a.e-k:=i64_in _ ⟨by omega,by omega⟩;have w5:IntKind.i64.wrap (a.e- (k:Int)-b.e)=a.e-k-b.e:=i64_in _ ⟨by omega,by omega⟩;have em:(if(0:Int)< (n:Int)+3+(af (ab b.m):Nat)- (af (ab a.m):Nat)then(n:Int)+3+(af (ab b.m):Nat)- (af (ab a.m):Nat)else 0)=(k:Int):=ω
  simp only[rV,ae,ah,xz]at hsg d1 d2;simp only[qO,xr,rV,ae,ah,go_sem,hf,e1,e2,d1,d2,w1,w2,w3,w4,w5,em,hs,hd,hbt,Ai,hsg]
 ·have e1:(aZ p [a,b]=0)=False:=ff h0;rw[if_neg h0];simp only[qO,xr,rV,ae,ah,aH,go_sem,hf,e1]
theorem aid{a b:Rd}(oa:Ok0 a)(ob:Ok0 b){p:Int}:R fdk [ae a,ae b,I p] []=some (rV (sk a b p true),[]):=by
 refine au s6 rfl ?_;have hr:=aam oa ob (p:=p) (up:=true);simp only[rV,ae,ah]at hr;simp only[AN,IK,rV,ae,ah,go_sem,hr]
theorem ac1{a b:Rd}(oa:Ok0 a)(ob:Ok0 b){p:Int}:R fdj [ae a,ae b,I p] []=some (rV (sk a b p false),[]):=by
 refine au pE rfl ?_;have hr:=aam oa ob (p:=p) (up:=false);simp only[rV,ae,ah]at hr;simp only[xX,Fh,rV,ae,ah,go_sem,hr]
theorem Ls{a b:Rd}{p:Int}{up:Bool}:vd (sk a b p up).1=true/\Ok0 (sk a b p up).1:=by
 unfold sk;split
 ·split
  ·exact aU
  ·split
   ·exact aU
   ·exact aeA
 ·exact aU
def Rg(x y:Ri)(p:Int):Ri:=if(kI x&&kI y&&bG p)=true then(if Ka y=0 then dm else I0 (qA (fun a b=>sk a b p false) (fun a b=>sk a b p true) (gw x y)))else dm
theorem aan{x y:Ri}(ox:OkI x)(oy:OkI y){p:Int}:R fa4 [am x,am y,I p] []=some (am (Rg x y p),[]):=by
 refine au Qk rfl ?_;have hk:=FC ox oy;have hp:=u9 (p:=p);have hw:=jD;have hs:=WH oy;have hf:=ZP ox oy (p:=p) (dn:=fun a b=>sk a b p false) (up:=fun a b=>sk a b p true) ⟨fun h1 h2=>ac1 h1 h2,Ls.2,pE.1.1,pE.1.2.1,pE.1.2.2.2,pE.1.2.2.1⟩ ⟨fun h1 h2=>aid h1 h2,Ls.2,s6.1.1,s6.1.2.1,s6.1.2.2.2,s6.1.2.2.1⟩;unfold Rg;generalize I0 (qA (fun a b=>sk a b p false) (fun a b=>sk a b p true) (gw x y))=z at hf⊢;generalize Ka y=sg at*
 simp only[am,ap,dm,aH]at hw hf hs;cases h1:(kI x&&kI y)with
 |false=>
  rw[h1]at hk;rw[ayh,if_neg ayl];simp only[lu,qG,am,ap,dm,aH,go_sem,hk,hw]
 |true=>
  rw[h1]at hk;have hs:=hs ((ayf _ _).mp h1).2;cases h2:bG p with
  |false=>
   rw[h2]at hp;rw[ayg,if_neg ayl];simp only[lu,qG,am,ap,dm,aH,go_sem,hk,hp,hw]
  |true=>
   rw[h2]at hp;rw[ayg,if_pos rfl];by_cases h3:sg=0
   ·have e3:(sg=0)=True:=eq_true h3;rw[if_pos h3];simp only[lu,qG,am,ap,dm,aH,go_sem,hk,hp,hw,hs,e3]
   ·have e3:(sg=0)=False:=eq_false h3;rw[if_neg h3];simp only[lu,qG,am,ap,dm,aH,go_sem,hk,hp,hf,hs,e3]
def NO(x:Ri):Ri:=if kI x=true then⟨gW x.hi,gW x.lo,false⟩else dm
theorem aky{x:Ri}(ox:OkI x):OkI (NO x):=by
 unfold NO;split
 ·exact⟨ws ox.hi,ws ox.lo⟩
 ·exact⟨aU.2,aU.2⟩
theorem akz{x:Ri}(ox:OkI x):R fbe [am x] []=some (am (NO x),[]):=by
 refine au Qj rfl ?_;have hk:=ve ox;have hw:=jD;have h1:R faM [ae x.lo] []=some (ae (gW x.lo),[]):=GW ox.lo;have h2:R faM [ae x.hi] []=some (ae (gW x.hi),[]):=GW ox.hi;unfold NO;simp only[am,ap,ae,ah]at hw h1 h2;cases h0:kI x with
 |false=>
  rw[h0]at hk;simp only[tQ,AG,am,ap,go_sem,hk,hw]
 |true=>
  rw[h0]at hk;simp only[tQ,AG,am,ap,go_sem,hk,h1,h2]
def If(x y:Ri)(p:Int):Ri:=eG x (NO y) p
theorem Rh{x y:Ri}(ox:OkI x)(oy:OkI y){p:Int}:R fbi [am x,am y,I p] []=some (am (If x y p),[]):=by
 refine au Qi rfl ?_;have h1:=akz oy;have h2:=yH ox (aky oy) (p:=p);unfold If;simp only[am,ap]at h1 h2;simp only[zp,Gw,am,ap,go_sem,h1,h2]
def Lt(x y:Ri):Ri:=if(kI x&&kI y)=true then⟨kN x.lo y.lo,kO x.hi y.hi,false⟩else dm
theorem aie{x y:Ri}(ox:OkI x)(oy:OkI y):R fa7 [am x,am y] []=some (am (Lt x y),[]):=by
 refine au O4 rfl ?_;have hk:=FC ox oy;have hw:=jD;have h1:=QU ox.lo oy.lo;have h2:=QV ox.hi oy.hi;unfold Lt;simp only[am,ap,ae,ah]at hw h1 h2;cases h0:(kI x&&kI y)with
 |false=>
  rw[h0]at hk;simp only[rR,zP,am,ap,go_sem,hk,hw]
 |true=>
  rw[h0]at hk;simp only[rR,zP,am,ap,go_sem,hk,h1,h2]
def Pm:Ri:=⟨aH,aH,false⟩
def uk(x y:Ri):Ri×Bool:=if(vi x&&vi y)=true then(if x.all=true then(y,true)else if y.all=true then(x,true)else if eW (kO x.lo y.lo) (kN x.hi y.hi)<=0 then(⟨kO x.lo y.lo,kN x.hi y.hi,false⟩,true)else(Pm,false))else(Pm,false)
theorem aif{x y:Ri}(ox:OkI x)(oy:OkI y):R fba [am x,am y] []=some (.tup [am (uk x y).1,B (uk x y).2],[]):=by
 refine au OU rfl ?_;have hx:=mK ox;have hy:=mK oy;have h1:=QV ox.lo oy.lo;have h2:=QU ox.hi oy.hi;have hc:=ri (WJ ox.lo oy.lo) (WI ox.hi oy.hi);rw[show(if vd (kO x.lo y.lo)=true/\vd (kN x.hi y.hi)=true then cx (zI (kO x.lo y.lo)) (zI (kN x.hi y.hi))else 0)=eW (kO x.lo y.lo) (kN x.hi y.hi)from rfl]at hc;unfold uk;generalize eW (kO x.lo y.lo) (kN x.hi y.hi)=cc at hc⊢;simp only[am,ap,ae,ah]at hx hy h1 h2 hc;cases v1:vi x with
 |false=>
  rw[v1]at hx;simp only[go,jq,am,ap,Pm,aH,go_sem,hx]
  try rfl
 |true=>
  rw[v1]at hx;cases v2:vi y with
  |false=>
   rw[v2]at hy;simp only[go,jq,am,ap,Pm,aH,go_sem,hx,hy]
   try rfl
  |true=>
   rw[v2]at hy;cases a1:x.all with
   |true=>
    rw[a1]at hx;simp only[go,jq,am,ap,go_sem,hx,hy,a1]
   |false=>
    rw[a1]at hx;cases a2:y.all with
    |true=>
     rw[a2]at hy;simp only[go,jq,am,ap,go_sem,hx,hy,a1,a2]
    |false=>
     rw[a2]at hy;by_cases h3:cc<=0
     ·have e1:(0<cc)=False:=ff;rw[if_pos h3];simp only[go,jq,am,ap,go_sem,hx,hy,a1,a2,h1,h2,hc,e1]
     ·have e1:(0<cc)=True:=tt;rw[if_neg h3];simp only[go,jq,am,ap,Pm,aH,go_sem,hx,hy,a1,a2,h1,h2,hc,e1]
      try rfl
abbrev G:=Nat->Rat
def pl(x:Rat)(v:G):Nat->Nat->Rat
 |_,0=>0
 |i,c+1=>v i+x*pl x v (i+1) c
def nw(t:Rat)(v:G):Nat->Nat->Rat
 |0,i=>v i
 |n+1,i=>nw t v n i+t*nw t v n (i+1)
def dc(t:Rat)(v:G):Nat->Nat->Rat
 |0,i=>v i
 |n+1,i=>(1-t)*dc t v n i+t*dc t v n (i+1)
def gs(g:G)(a:Nat)(x:Rat):G:=fun i=>if i=a then x else g i
def MJ(lo:Rat)(ad:Nat->Nat)(i:Nat):Nat->G->G
 |0,g=>g
 |k+1,g=>MJ lo ad i k (gs g (ad (i+k)) (g (ad (i+k))+lo*g (ad (i+k+1))))
def MK(lo:Rat)(ad:Nat->Nat):Nat->Nat->G->G
 |0,_,g=>g
 |k+1,i,g=>MK lo ad k (i+1) (MJ lo ad i (k+1) g)
def SQ(w:Rat)(ad:Nat->Nat):Nat->Nat->Rat->G->G
 |0,_,_,g=>g
 |k+1,j,b,g=>SQ w ad k (j+1) (b*w) (gs g (ad j) (g (ad j)*(b*w)))
def ML(n:Nat)(ad:Nat->Nat):Nat->Nat->Rat->G->G
 |0,_,_,g=>g
 |k+1,j,b,g=>ML n ad k (j+1) (b*((n:Rat)-j+1)/j) (gs g (ad j) (g (ad j)/ (b*((n:Rat)-j+1)/j)))
def Pn(ad:Nat->Nat)(j:Nat):Nat->G->G
 |0,g=>g
 |k+1,g=>Pn ad j k (gs g (ad (j+k+1)) (g (ad (j+k+1))+g (ad (j+k))))
def SR(ad:Nat->Nat):Nat->Nat->G->G
 |0,_,g=>g
 |k+1,j,g=>SR ad k (j+1) (Pn ad j (k+1) g)
def ic:Nat->Nat->Nat
 |_,0=>1
 |0,_+1=>0
 |n+1,k+1=>ic n k+ic n (k+1)
theorem am2{lo:Rat}{ad:Nat->Nat}(hi:∀a b,ad a=ad b↔a=b){i:Nat}:∀ (k:Nat) (g:G),(∀a,(∀m,i<=m->m<i+k->a≠ad m)->MJ lo ad i k g a=g a)/\(∀m,i<=m->m<i+k->MJ lo ad i k g (ad m)=g (ad m)+lo*MJ lo ad i k g (ad (m+1))):=by
 intro k;induction k with
 |zero=>exact fun g=>⟨fun _ _=>rfl,fun m h1 h2=>by omega⟩
 |succ k ih=>
  intro g;have e:MJ lo ad i (k+1) g=MJ lo ad i k (gs g (ad (i+k)) (g (ad (i+k))+lo*g (ad (i+k+1)))):=rfl;rw[e];obtain⟨h1,h2⟩:=ih (gs g (ad (i+k)) (g (ad (i+k))+lo*g (ad (i+k+1))));constructor
  ·intro a ha;rw[h1 a fun m hm hk=>ha m hm ω,gs,if_neg (ha _ ω ω)]
  ·intro m hm hk;by_cases hq:m=i+k
   ·grind[gs]
   ·rw[h2 m hm ω,gs,if_neg γ]
theorem am3{x u lo:Rat}(hx:x=lo+u){v w:G}:∀ (k i:Nat),(∀m,i<=m->m<i+k->w m=v m+lo*w (m+1))->w (i+k)=v (i+k)->pl x v i (k+1)=w i+u*pl x w (i+1) k:=by
 intro k;induction k with
 |zero=>grind[pl]
 |succ k ih=>
  intro i h1 h2;have h3:=ih (i+1) (fun m a b=>h1 m ω ω) γ;grind[pl]
theorem am4{x u lo:Rat}(hx:x=lo+u){ad:Nat->Nat}(hi:∀a b,ad a=ad b↔a=b):∀ (k i:Nat) (g:G),(∀a,(∀m,i<=m->m<i+k->a≠ad m)->MK lo ad k i g a=g a)/\pl x (fun m=>g (ad m)) i (k+1)=pl u (fun m=>MK lo ad k i g (ad m)) i (k+1):=by
 intro k;induction k with
 |zero=>simp_all[pl,MK]
 |succ k ih=>
  intro i g;obtain⟨h1,h2⟩:=am2 (lo:=lo) hi (i:=i) (k+1) g;have e:MK lo ad (k+1) i g=MK lo ad k (i+1) (MJ lo ad i (k+1) g):=rfl;rw[e];generalize MJ lo ad i (k+1) g=g1 at*
  obtain⟨h3,h4⟩:=ih (i+1) g1;constructor
  ·grind
  ·rw[am3 hx (v:=fun m=>g (ad m)) (w:=fun m=>g1 (ad m)) (k+1) i h2 (h1 _ fun m _ hk=>by grind),h4];show _=MK lo ad k (i+1) g1 (ad i)+u*_;grind
theorem am5{w:Rat}{ad:Nat->Nat}(hi:∀a b,ad a=ad b↔a=b):∀ (k j:Nat) (b:Rat) (g:G),(∀a,(∀m,j<=m->m<j+k->a≠ad m)->SQ w ad k j b g a=g a)/\(∀m,m<k->SQ w ad k j b g (ad (j+m))=g (ad (j+m))*(b*w^ (m+1))):=by
 intro k;induction k with
 |zero=>exact fun j b g=>⟨fun _ _=>rfl,fun m h=>by omega⟩
 |succ k ih=>
  intro j b g;have e:SQ w ad (k+1) j b g=SQ w ad k (j+1) (b*w) (gs g (ad j) (g (ad j)*(b*w))):=rfl;rw[e];obtain⟨h1,h2⟩:=ih (j+1) (b*w) (gs g (ad j) (g (ad j)*(b*w)));constructor
  ·intro a ha;rw[h1 a fun m hm hk=>ha m ω ω,gs,if_neg (ha _ ω ω)]
  ·intro m hm;cases m with
   |zero=>
    rw[h1 _ fun m hm hk=>by grind];simp[gs]
   |succ m=>
    have:=h2 m ω;rw[show j+1+m=j+(m+1)by omega]at this;rw[this,gs,if_neg γ,Rat.pow_succ w (m+1),Rat.pow_succ w m];grind
theorem am6{w t:Rat}{v z:G}:∀ (c i:Nat),(∀m,i<=m->m<i+c->z m=v m*w^m)->pl t z i c=w^i*pl (w*t) v i c:=by
 intro c;induction c with
 |zero=>grind[pl]
 |succ c ih=>
  grind[pl,Rat.pow_succ]
theorem EN(n:Nat):ic n 0=1:=by cases n<;>rfl
theorem G4:∀ (n k:Nat),n<k->ic n k=0
 |_,0,h=>by omega
 |0,_+1,_=>rfl
 |n+1,k+1,h=>by
  show ic n k+ic n (k+1)=0;rw[G4 n k ω,G4 n (k+1) ω]
theorem Lu:∀n k:Nat,k<=n->(ic n (k+1):Int)*(k+1)=ic n k*((n:Int)-k)
 |0,k,h=>by
  have:k=0:=ω
  subst this;rfl
 |n+1,0,_=>by
  have:=Lu n 0 ω;show((ic n 0+ic n 1:Nat):Int)*_=(ic (n+1) 0:Int)*_;simp only[EN]at this⊢;simp at this⊢;omega
 |n+1,k+1,h=>by
  have h1:=Lu n k ω;show((ic n (k+1)+ic n (k+1+1):Nat):Int)*_=((ic n k+ic n (k+1):Nat):Int)*_;by_cases hk:k+1<=n
  ·have h2:=Lu n (k+1) hk;grind
  ·have:n=k:=ω
   subst this;rw[G4 n (n+1) ω,G4 n (n+1+1) ω];simp
theorem aao:∀n k:Nat,k<=n->0<ic n k
 |n,0,_=>by grind[EN]
 |n+1,k+1,h=>Nat.add_pos_left (aao n k ω) _
theorem am7{n:Nat}{ad:Nat->Nat}(hi:∀a b,ad a=ad b↔a=b):∀ (k j:Nat) (b:Rat) (g:G),j+1+k=n+1->b=ic n j->(∀a,(∀m,j+1<=m->m<j+1+k->a≠ad m)->ML n ad k (j+1) b g a=g a)/\(∀m,m<k->ML n ad k (j+1) b g (ad (j+1+m))*ic n (j+1+m)=g (ad (j+1+m))):=by
 intro k;induction k with
 |zero=>exact fun j b g _ _=>⟨fun _ _=>rfl,fun m h=>by omega⟩
 |succ k ih=>
  intro j b g hk hb;have e:ML n ad (k+1) (j+1) b g=ML n ad k (j+1+1) (b*((n:Rat)- (j+1:Nat)+1)/ (j+1:Nat)) (gs g (ad (j+1)) (g (ad (j+1))/ (b*((n:Rat)- (j+1:Nat)+1)/ (j+1:Nat)))):=rfl;have hb2:b*((n:Rat)- (j+1:Nat)+1)/ (j+1:Nat)=ic n (j+1):=by
   have h1:=Lu n j ω;have h2:((ic n (j+1):Rat))*(j+1)=ic n j*((n:Rat)-j):=by
    have:=congrArg (fun z:Int=>(z:Rat)) h1;simp only[Rat.intCast_mul,Rat.intCast_sub,Rat.intCast_add,Rat.intCast_natCast]at this;omega
   grind
  rw[e,hb2];have hp:(ic n (j+1):Rat)≠0:=by
   have:=aao n (j+1) ω;intro h0
   simp_all
  obtain⟨h1,h2⟩:=ih (j+1) (ic n (j+1)) (gs g (ad (j+1)) (g (ad (j+1))/ic n (j+1))) ω rfl;constructor
  ·intro a ha;rw[h1 a fun m hm hk=>ha m ω ω,gs,if_neg (ha _ ω ω)]
  ·intro m hm;cases m with
   |zero=>
    rw[h1 _ fun m hm hk=>by grind];simp only[gs,ayF,if_true];grind
   |succ m=>
    have:=h2 m ω;rw[show j+1+1+m=j+1+(m+1)by omega]at this
    simp_all[gs,if_neg]
theorem am8{t:Rat}{u v w:G}:∀ (c i:Nat),(∀m,i<=m->m<i+c->w m=u m+v m)->pl t w i c=pl t u i c+pl t v i c:=by
 intro c;induction c with
 |zero=>grind[pl]
 |succ c ih=>
  grind[pl]
theorem NP{t:Rat}{v w:G}{d:Nat}:∀ (c i:Nat),(∀m,i<=m->m<i+c->w m=v (m+d))->pl t w i c=pl t v (i+d) c:=by
 intro c;induction c with
 |zero=>intro i _;rfl
 |succ c ih=>
  grind[pl]
theorem akA{t:Rat}{v:G}:∀ (c i:Nat),v (i+c)=0->pl t v i (c+1)=pl t v i c:=by
 intro c;induction c with
 |zero=>grind[pl]
 |succ c ih=>
  grind[pl]
theorem apI{t:Rat}{v:G}:∀ (n i:Nat),nw t v n i=pl t (fun m=>ic n m*v (i+m)) 0 (n+1):=by
 intro n;induction n with
 |zero=>simp only[nw,pl,ic,ayF];grind
 |succ n ih=>
  intro i;have e1:=akA (t:=t) (v:=fun m=>(ic n m:Rat)*v (i+m)) (n+1) 0 (by simp_all[G4]);have e2:pl t (fun m=>(ic n m:Rat)*v (i+m)) 0 (n+1+1)=(ic n 0:Rat)*v (i+0)+t*pl t (fun m=>(ic n m:Rat)*v (i+m)) (0+1) (n+1):=rfl;have e3:pl t (fun m=>(ic (n+1) m:Rat)*v (i+m)) 0 (n+1+1)=(ic (n+1) 0:Rat)*v (i+0)+t*pl t (fun m=>(ic (n+1) m:Rat)*v (i+m)) (0+1) (n+1):=rfl;have e4:=NP (t:=t) (d:=1) (w:=fun m=>(ic n (m+1):Rat)*v (i+(m+1))) (v:=fun m=>(ic n m:Rat)*v (i+m)) (n+1) 0 (fun m _ _=>rfl);have e5:=NP (t:=t) (d:=1) (w:=fun m=>(ic (n+1) (m+1):Rat)*v (i+(m+1))) (v:=fun m=>(ic (n+1) m:Rat)*v (i+m)) (n+1) 0 (fun m _ _=>rfl);have e6:=am8 (t:=t) (w:=fun m=>(ic (n+1) (m+1):Rat)*v (i+(m+1))) (u:=fun m=>(ic n m:Rat)*v (i+1+m)) (v:=fun m=>(ic n (m+1):Rat)*v (i+(m+1))) (n+1) 0 (fun m _ _=>by
   have:ic (n+1) (m+1)=ic n m+ic n (m+1):=rfl;simp only[this,show i+1+m=i+(m+1)by omega,Rat.natCast_add];grind)
  grind[nw,EN]
theorem am9{ad:Nat->Nat}(hi:∀a b,ad a=ad b↔a=b){j:Nat}:∀ (k:Nat) (g:G),(∀a,(∀m,j<=m->m<j+k->a≠ad (m+1))->Pn ad j k g a=g a)/\(∀m,j<=m->m<j+k->Pn ad j k g (ad (m+1))=g (ad (m+1))+g (ad m)):=by
 intro k;induction k with
 |zero=>exact fun g=>⟨fun _ _=>rfl,fun m h1 h2=>by omega⟩
 |succ k ih=>
  intro g;have e:Pn ad j (k+1) g=Pn ad j k (gs g (ad (j+k+1)) (g (ad (j+k+1))+g (ad (j+k)))):=rfl;rw[e];obtain⟨h1,h2⟩:=ih (gs g (ad (j+k+1)) (g (ad (j+k+1))+g (ad (j+k))));constructor
  ·intro a ha;rw[h1 a fun m hm hk=>ha m hm ω,gs,if_neg (ha _ ω ω)]
  ·intro m hm hk;by_cases hq:m=j+k
   ·subst hq;rw[h1 _ fun m hm hk=>by grind];simp[gs]
   ·rw[h2 m hm ω,gs,gs,if_neg γ,if_neg γ]
theorem ana{t:Rat}{v w:G}{j k:Nat}(h:∀m,j<=m->m<=j+k->w (m+1)=v (m+1)+v m):∀ (d m:Nat),j<=m->m+d<=j+k->nw t w d (m+1)=nw t v d (m+1)+nw t v d m:=by
 intro d;induction d with
 |zero=>exact fun m h1 h2=>h m h1 h2
 |succ d ih=>
  grind[nw]
theorem anb{t:Rat}{ad:Nat->Nat}(hi:∀a b,ad a=ad b↔a=b):∀ (k j:Nat) (g:G),(∀a,(∀m,j<=m->m<j+k->a≠ad (m+1))->SR ad k j g a=g a)/\∀d,d<=k->dc t (fun m=>SR ad k j g (ad m)) d j=nw t (fun m=>g (ad m)) d j:=by
 intro k;induction k with
 |zero=>
  intro j g;refine⟨fun _ _=>rfl,fun d hd=>?_⟩;have:d=0:=ω
  subst this;rfl
 |succ k ih=>
  intro j g;obtain⟨h1,h2⟩:=am9 hi (j:=j) (k+1) g;have e:SR ad (k+1) j g=SR ad k (j+1) (Pn ad j (k+1) g):=rfl;rw[e];generalize Pn ad j (k+1) g=g1 at*
  obtain⟨h3,h4⟩:=ih (j+1) g1;refine⟨fun a ha=>by rw[h3 a fun m hm hk=>ha m ω ω,h1 a fun m hm hk=>ha m hm hk],fun d=>?_⟩;induction d with
  |zero=>
   intro _;show SR ad k (j+1) g1 (ad j)=g (ad j);grind
  |succ d ihd=>
   intro hd;have q3:=ana (t:=t) (v:=fun m=>g (ad m)) (w:=fun m=>g1 (ad m)) (j:=j) (k:=k) (fun m a b=>h2 m a ω) d j (ayd _) ω;grind[dc,nw]
def Po(lo w:Rat)(n:Nat)(ad:Nat->Nat)(g:G):G:=SQ w ad n 1 1 (MK lo ad n 0 g)
def Pp(n:Nat)(ad:Nat->Nat)(g:G):G:=SR ad n 0 (ML n ad n 1 1 g)
theorem anc{x t lo w:Rat}(hx:x=lo+w*t){ad:Nat->Nat}(hi:∀a b,ad a=ad b↔a=b)(n:Nat)(g:G):(∀a,(∀m,m<=n->a≠ad m)->Po lo w n ad g a=g a)/\pl x (fun m=>g (ad m)) 0 (n+1)=pl t (fun m=>Po lo w n ad g (ad m)) 0 (n+1):=by
 obtain⟨a1,a2⟩:=am4 hx hi n 0 g;unfold Po;generalize MK lo ad n 0 g=g1 at*
 obtain⟨b1,b2⟩:=am5 (w:=w) hi n 1 1 g1;generalize SQ w ad n 1 1 g1=g2 at*
 rw[a2,am6 (w:=w) (t:=t) (v:=fun m=>g1 (ad m)) (z:=fun m=>g2 (ad m)) (n+1) 0 (fun m _ hm=>by
  cases m with
  |zero=>
   grind
  |succ m=>
   grind),Rat.pow_zero]
 grind
theorem ane{t:Rat}{ad:Nat->Nat}(hi:∀a b,ad a=ad b↔a=b)(n:Nat)(g:G):(∀a,(∀m,m<=n->a≠ad m)->Pp n ad g a=g a)/\pl t (fun m=>g (ad m)) 0 (n+1)=dc t (fun m=>Pp n ad g (ad m)) n 0:=by
 obtain⟨c1,c2⟩:=am7 (n:=n) hi n 0 1 g ω (by rw[EN];rfl);unfold Pp;generalize ML n ad n 1 1 g=g3 at*
 obtain⟨d1,d2⟩:=anb (t:=t) hi n 0 g3;rw[d2 n (ayd _),apI];have e:=NP (t:=t) (d:=0) (v:=fun m=>g (ad m)) (w:=fun m=>(ic n m:Rat)*g3 (ad (0+m))) (n+1) 0 (fun m _ hm=>by
  cases m with
  |zero=>
   have q1:=c1 (ad 0) fun m h _=>by grind
   simp_all[ayF,EN]
  |succ m=>
   grind)
 grind
def pQ(n:Nat):Rat:=((2^n:Int):Rat)
def eQ(n:Nat):Rat:=1/pQ n
theorem aft(n:Nat):0<pQ n:=by
 have:(0:Int)<2^n:=Int.pow_pos δ;unfold pQ;exact_mod_cast this
theorem Kp(n:Nat):eQ n*pQ n=1:=by
 grind[aft,eQ]
theorem Xr(n:Nat):0<eQ n:=by
 have h:=Kp n;refine Rat.not_le.1 fun hn=>?_;have:=ay3 hn (Rat.le_of_lt (aft n));grind
def EQ:Rat:=eQ 16384
theorem G5:0<EQ:=Xr _
def qv(d:Rd):Rat:=(zI d:Rat)*EQ
theorem G6{a b:Int}(h:a<=b):(a:Rat)<=b:=by exact_mod_cast h
theorem Ao{a b:Rd}:qv a<=qv b↔zI a<=zI b:=by
 unfold qv;constructor
 ·intro h;refine Int.not_lt.1 fun hc=>?_;have h1:(zI b:Rat)<zI a:=by exact_mod_cast hc
  have:=Rat.mul_lt_mul_of_pos_right h1 G5;grind
 grind[ay3,G6,Rat.le_of_lt,G5]
theorem Ig:qv aH=0:=by
 unfold qv;rw[cO rfl];grind
theorem G7{d:Rd}(h:vd d=true):qv (gW d)=-qv d/\vd (gW d)=true:=by
 obtain⟨a,b⟩:=yM h;unfold qv;rw[a,Rat.intCast_neg];grind
def In(q:Rat)(x:Ri):Prop:=x=dm\/x.all=false/\VI x/\qv x.lo<=q/\q<=qv x.hi
theorem In.vi{q:Rat}{x:Ri}(h:In q x):VI x:=by
 rcases h with rfl|h
 ·exact Kf
 grind
theorem In.ok{q:Rat}{x:Ri}(h:In q x):OkI x:=⟨h.vi.1.2,h.vi.2.2⟩
theorem In.k{q:Rat}{x:Ri}(h:In q x):x=dm/\kI x=false\/kI x=true/\qv x.lo<=q/\q<=qv x.hi:=by
 rcases h with rfl| ⟨h1,h2,h3,h4⟩
 ·exact Or.inl ⟨rfl,rfl⟩
 ·exact Or.inr ⟨apx h2.1.1 h2.2.1 (Ao.1 (Rat.le_trans h3 h4)) h1,h3,h4⟩
theorem In.v{q:Rat}{x:Ri}(h:In q x):Ab.vi x=true:=by
 rcases h.k with⟨rfl,_⟩| ⟨h,_⟩
 ·rfl
 ·unfold kI at h;grind
theorem Us{q:Rat}{r s:Rd×Int}(vr:vd r.1=true/\Ok0 r.1)(vs:vd s.1=true/\Ok0 s.1)(h1:r.2=0->qv r.1<=q)(h2:s.2=0->q<=qv s.1):In q (ui r s):=by
 unfold ui;split
 ·next h=>exact Or.inr ⟨rfl,⟨vr,vs⟩,h1 h.1,h2 h.2⟩
 ·exact Or.inl rfl
theorem sn{d:Rd}(h:vd d=true)(ok:Ok0 d):In (qv d) ⟨d,d,false⟩:=Or.inr ⟨rfl,⟨⟨h,ok⟩,⟨h,ok⟩⟩,Rat.le_refl,Rat.le_refl⟩
theorem vo{p:Int}(hp:bG p=true):8<=p/\p<=512:=by
 simp_all[bG,ayf,decide_eq_true_eq]
theorem Pq{a b:Rd}{p:Int}(ha:vd a=true)(hb:vd b=true)(hp:bG p=true):aZ p [a,b]=0:=by
 grind[vo,aZ]
theorem Xs{a b:Rd}{p:Int}{up:Bool}(ha:vd a=true)(hb:vd b=true)(hp:bG p=true)(h:(du a b p up).2=0):(up=true->qv a+qv b<=qv (du a b p up).1)/\(up=false->qv (du a b p up).1<=qv a+qv b):=by
 unfold du at h⊢;rw[if_pos (Pq ha hb hp)]at h⊢;have hh:(up=true->zI a+zI b<=zI (iV (zI a+zI b) (-16384) p up).1*2^0)/\(up=false->zI (iV (zI a+zI b) (-16384) p up).1*2^0<=zI a+zI b):=Lr (j:=0) (vo hp) h;obtain⟨h1,h2⟩:=hh;simp only[Int.pow_zero,Int.mul_one]at h1 h2;have e:qv a+qv b=((zI a+zI b:Int):Rat)*EQ:=by unfold qv;grind
 rw[e];exact⟨fun hu=>ay3 (G6 (h1 hu)) (Rat.le_of_lt G5),fun hu=>ay3 (G6 (h2 hu)) (Rat.le_of_lt G5)⟩
theorem Pr{z r:Int}(n:Nat):(z<=r*2^n->(z:Rat)*eQ n*eQ n<=r*eQ n)/\(r*2^n<=z->(r:Rat)*eQ n<=z*eQ n*eQ n):=by
 have e:(r:Rat)*eQ n=((r*2^n:Int):Rat)*eQ n*eQ n:=by
  rw[Rat.intCast_mul,show(((2:Int)^n:Int):Rat)=pQ n from rfl];grind[Kp]
 rw[e];have h0:=Rat.le_of_lt (Xr n);exact⟨fun h=>ay3 (ay3 (G6 h) h0) h0,fun h=>ay3 (ay3 (G6 h) h0) h0⟩
theorem Ps{a b:Rd}{p:Int}{up:Bool}(ha:vd a=true)(hb:vd b=true)(hp:bG p=true)(h:(fJ a b p up).2=0):(up=true->qv a*qv b<=qv (fJ a b p up).1)/\(up=false->qv (fJ a b p up).1<=qv a*qv b):=by
 unfold fJ at h⊢;rw[if_pos (Pq ha hb hp)]at h⊢;obtain⟨h1,h2⟩:=Lr (j:=16384) (vo hp) h;have e:qv a*qv b=((zI a*zI b:Int):Rat)*EQ*EQ:=by unfold qv;grind
 rw[e];exact⟨fun hu=>(Pr _).1 (h1 hu),fun hu=>(Pr _).2 (h2 hu)⟩
theorem ww{x y:Ri}{a b:Rat}{p:Int}(hx:In a x)(hy:In b y):In (a+b) (eG x y p):=by
 unfold eG;split
 ·next h=>
  simp only[ayf]at h;obtain⟨⟨kx,ky⟩,hp⟩:=h;rcases hx.k with⟨rfl,h⟩| ⟨_,x1,x2⟩
  ·grind
  rcases hy.k with⟨rfl,h⟩| ⟨_,y1,y2⟩
  ·grind
  have ok:∀ {a b:Rd} {up:Bool},vd (du a b p up).1=true/\Ok0 (du a b p up).1:=fun{a b up}=>by
   grind[du,td,aU]
  refine Us ok ok (fun h=>?_) (fun h=>?_)
  ·have:=(Xs hx.vi.1.1 hy.vi.1.1 hp h).2 rfl;grind
  ·have:=(Xs hx.vi.2.1 hy.vi.2.1 hp h).1 rfl;grind
 ·exact Or.inl rfl
theorem akB{x:Ri}{a:Rat}(hx:In a x):In (-a) (NO x):=by
 unfold NO;split
 ·next h=>
  rcases hx.k with⟨rfl,h1⟩| ⟨_,x1,x2⟩
  ·grind
  have n1:=G7 hx.vi.1.1;have n2:=G7 hx.vi.2.1;exact Or.inr ⟨rfl,⟨⟨n2.2,ws hx.ok.hi⟩,⟨n1.2,ws hx.ok.lo⟩⟩,by grind,by grind⟩
 ·exact Or.inl rfl
theorem Rj{x y:Ri}{a b:Rat}{p:Int}(hx:In a x)(hy:In b y):In (a-b) (If x y p):=by
 have:=ww (p:=p) hx (akB hy);rw[show a+-b=a-b by grind]at this;exact this
theorem Kq{a b:Rd}(ha:vd a=true)(hb:vd b=true):(eW a b<0->qv a<=qv b)/\(¬eW a b<0->qv b<=qv a)/\(0<eW a b->qv b<=qv a)/\(¬0<eW a b->qv a<=qv b)/\(eW a b<=0↔qv a<=qv b)/\(0<=eW a b↔qv b<=qv a):=by
 unfold eW;grind[Ao,cx]
theorem Rk{a b:Rd}(ha:vd a=true/\Ok0 a)(hb:vd b=true/\Ok0 b):qv (kN a b)<=qv a/\qv (kN a b)<=qv b/\vd (kN a b)=true/\Ok0 (kN a b)/\(∀q,q<=qv a->q<=qv b->q<=qv (kN a b)):=by
 obtain⟨c1,c2,c3,c4,c5,c6⟩:=Kq ha.1 hb.1;grind[kN,Rat.le_refl]
theorem Rl{a b:Rd}(ha:vd a=true/\Ok0 a)(hb:vd b=true/\Ok0 b):qv a<=qv (kO a b)/\qv b<=qv (kO a b)/\vd (kO a b)=true/\Ok0 (kO a b)/\(∀q,qv a<=q->qv b<=q->qv (kO a b)<=q):=by
 obtain⟨c1,c2,c3,c4,c5,c6⟩:=Kq ha.1 hb.1;grind[kO,Rat.le_refl]
theorem Ih{x y:Ri}{a b:Rat}(hx:In a x)(hy:In b y):(In a (Lt x y)/\In b (Lt x y)):=by
 unfold Lt;split
 ·next h=>
  rcases hx.k with⟨rfl,h1⟩| ⟨_,x1,x2⟩
  ·grind
  rcases hy.k with⟨rfl,h1⟩| ⟨_,y1,y2⟩
  ·grind
  obtain⟨l1,l2,l3,l4,l5⟩:=Rk hx.vi.1 hy.vi.1;obtain⟨m1,m2,m3,m4,m5⟩:=Rl hx.vi.2 hy.vi.2;exact⟨Or.inr ⟨rfl,⟨⟨l3,l4⟩,⟨m3,m4⟩⟩,by grind,by grind⟩,Or.inr ⟨rfl,⟨⟨l3,l4⟩,⟨m3,m4⟩⟩,by grind,by grind⟩⟩
 ·exact⟨Or.inl rfl,Or.inl rfl⟩
theorem Ii{x y:Ri}{q:Rat}(hx:In q x)(hy:In q y):(uk x y).2=true/\In q (uk x y).1:=by
 unfold uk;rw[if_pos (by rw[hx.v,hy.v];rfl)];rcases hx with rfl| ⟨ha,hv,h1,h2⟩
 ·rw[if_pos (show dm.all=true from rfl)];grind
 ·rw[if_neg γ];rcases hy with rfl| ⟨hb,hw,h3,h4⟩
  ·exact⟨rfl,Or.inr ⟨ha,hv,h1,h2⟩⟩
  ·rw[if_neg γ];obtain⟨l1,l2,l3,l4,l5⟩:=Rk hv.2 hw.2;obtain⟨m1,m2,m3,m4,m5⟩:=Rl hv.1 hw.1;have a:=l5 q h2 h4;have b:=m5 q h1 h3;rw[if_pos ((Kq m3 l3).2.2.2.2.1.2 (Rat.le_trans b a))];exact⟨rfl,Or.inr ⟨rfl,⟨⟨m3,m4⟩,⟨l3,l4⟩⟩,b,a⟩⟩
theorem aap{dn up:Rd->Rd->Rd×Int}{pr:Nat->Rd×Rd}(okd:∀a b,vd (dn a b).1=true/\Ok0 (dn a b).1)(oku:∀a b,vd (up a b).1=true/\Ok0 (up a b).1){v:Nat->Rat}
  (hd:∀i,i<4->(dn (pr i).1 (pr i).2).2=0->qv (dn (pr i).1 (pr i).2).1<=v i) (hu:∀i,i<4->(up (pr i).1 (pr i).2).2=0->v i<=qv (up (pr i).1 (pr i).2).1) {q:Rat} (hq:∀lo hi:Rat,(∀i,i<4->lo<=v i/\v i<=hi)->lo<=q/\q<=hi):In q (I0 (qA dn up pr)):=by
 have key:∀ (k i:Nat) (o:Rd×Rd),i+k=4->(vd o.1=true/\Ok0 o.1)->(vd o.2=true/\Ok0 o.2)->(∀j,j<i->qv o.1<=v j/\v j<=qv o.2)->In q (I0 (wr dn up pr k i o)):=by
  intro k;induction k with
  |zero=>
   intro i o hi v1 v2 h;have:=hq _ _ fun j hj=>h j ω;exact Or.inr ⟨rfl,⟨v1,v2⟩,this.1,this.2⟩
  |succ k ih=>
   intro i o hi v1 v2 h;unfold wr;split
   ·next he=>
    have od:=okd (pr i).1 (pr i).2;have ou:=oku (pr i).1 (pr i).2;obtain⟨c1,c2,_,_⟩:=Kq od.1 v1.1;obtain⟨_,_,c3,c4,_⟩:=Kq ou.1 v2.1;grind
   ·exact Or.inl rfl
 unfold qA;split
 ·grind
 ·exact Or.inl rfl
theorem akC{xl xh x y lo hi:Rat}(h1:xl<=x)(h2:x<=xh)(a:lo<=xl*y/\xl*y<=hi)(b:lo<=xh*y/\xh*y<=hi):lo<=x*y/\x*y<=hi:=by
 by_cases h:0<=y
 ·have:=ay3 h1 h;have:=ay3 h2 h;grind
 ·have h:0≤-y:=γ
  have:=ay3 h1 h;have:=ay3 h2 h;grind
theorem aaq{xl xh x yl yh y lo hi:Rat}(h1:xl<=x)(h2:x<=xh)(h3:yl<=y)(h4:y<=yh)(a:lo<=xl*yl/\xl*yl<=hi)(b:lo<=xl*yh/\xl*yh<=hi)(c:lo<=xh*yl/\xh*yl<=hi)(d:lo<=xh*yh/\xh*yh<=hi):lo<=x*y/\x*y<=hi:=by
 grind[Rat.mul_comm,akC]
theorem Br{x y:Ri}{a b:Rat}{p:Int}(hx:In a x)(hy:In b y):In (a*b) (iu x y p):=by
 unfold iu;split
 ·next h=>
  simp only[ayf]at h;obtain⟨⟨kx,ky⟩,hp⟩:=h;rcases hx.k with⟨rfl,h⟩| ⟨_,x1,x2⟩
  ·grind
  rcases hy.k with⟨rfl,h⟩| ⟨_,y1,y2⟩
  ·grind
  have ok:∀ (up:Bool) (a b:Rd),vd (fJ a b p up).1=true/\Ok0 (fJ a b p up).1:=fun up a b=>by
   grind[fJ,td,aU]
  have hv:∀i,vd (gw x y i).1=true/\vd (gw x y i).2=true:=fun i=>by
   unfold gw;split
   ·exact⟨hx.vi.1.1,hy.vi.1.1⟩
   ·exact⟨hx.vi.1.1,hy.vi.2.1⟩
   ·exact⟨hx.vi.2.1,hy.vi.1.1⟩
   ·exact⟨hx.vi.2.1,hy.vi.2.1⟩
  refine aap (v:=fun i=>qv (gw x y i).1*qv (gw x y i).2) (ok false) (ok true) (fun i _ h=>(Ps (hv i).1 (hv i).2 hp h).2 rfl) (fun i _ h=>(Ps (hv i).1 (hv i).2 hp h).1 rfl) fun lo hi h=>?_;exact aaq x1 x2 y1 y2 (h 0 δ) (h 1 δ) (h 2 δ) (h 3 δ)
 ·exact Or.inl rfl
abbrev LF:=G->Rat
def yS(W v:G):Nat->Rat
 |0=>0
 |d+1=>yS W v d+W d*v d
def qf(d:Nat)(L:LF):Prop:=∃W,∀v,L v=yS W v d
theorem afu{W v w:G}:∀d:Nat,(∀j,j<d->v j=w j)->yS W v d=yS W w d
 |0,_=>rfl
 |d+1,h=>by simp only[yS];rw[afu d fun j hj=>h j ω,h d ω]
theorem aar{W v w:G}{a b:Rat}:∀d:Nat,yS W (fun j=>a*v j+b*w j) d=a*yS W v d+b*yS W w d
 |0=>by grind[yS]
 |d+1=>by simp only[yS];rw[aar d];grind
theorem ai3{U W v:G}{a b:Rat}:∀d:Nat,yS (fun j=>a*U j+b*W j) v d=a*yS U v d+b*yS W v d
 |0=>by grind[yS]
 |d+1=>by simp only[yS];rw[ai3 d];grind
theorem qf.cg{d:Nat}{L:LF}(h:qf d L){v w:G}(e:∀j,j<d->v j=w j):L v=L w:=by
 obtain⟨W,h⟩:=h;rw[h,h,afu d e]
theorem qf.lin{d:Nat}{L:LF}(h:qf d L){v w:G}{a b:Rat}:L (fun j=>a*v j+b*w j)=a*L v+b*L w:=by
 obtain⟨W,h⟩:=h;rw[h,h,h,aar d]
theorem qf.zero{d:Nat}{L:LF}(h:qf d L):L (fun _=>0)=0:=by
 have:=h.lin (v:=fun _=>0) (w:=fun _=>0) (a:=0) (b:=0);grind
theorem qf.swap{d c:Nat}{L P:LF}(h:qf d L)(hP:qf c P)(f:Nat->Nat->Rat):P (fun j=>L (fun r=>f r j))=L (fun r=>P (fun j=>f r j)):=by
 obtain⟨W,hP⟩:=hP;simp only[hP];clear hP;induction c with
 |zero=>exact h.zero.symm
 |succ c ih=>
  simp only[yS];have:=h.lin (v:=fun r=>yS W (fun j=>f r j) c) (w:=fun r=>f r c) (a:=1) (b:=W c);grind
theorem afv{d i:Nat}(h:i<d):qf d fun v=>v i:=by
 refine⟨fun j=>if j=i then 1 else 0,fun v=>?_⟩;have:∀c,yS (fun j=>if j=i then 1 else 0) v c=if i<c then v i else 0:=by
  intro c;induction c with
  |zero=>rfl
  |succ c ih=>
   simp only[yS,ih];grind
 grind
theorem qf.comb{d:Nat}{L M:LF}(h:qf d L)(h':qf d M)(a b:Rat):qf d fun v=>a*L v+b*M v:=by
 obtain⟨W,h⟩:=h;obtain⟨U,h'⟩:=h';exact⟨fun j=>a*W j+b*U j,fun v=>by
  show a*L v+b*M v=_;rw[ai3,h,h']⟩
theorem aig{d:Nat}:qf d fun _=>0:=⟨fun _=>0,fun v=>by
 induction d with
 |zero=>rfl
 |succ d ih=>grind[yS]⟩
theorem Kr{x:Rat}{d:Nat}:∀c i:Nat,i+c<=d->qf d fun v=>pl x v i c
 |0,_,_=>aig
 |c+1,i,h=>by
  have:=(afv (d:=d) (i:=i) ω).comb (Kr (x:=x) c (i+1) ω) 1 x;simp only[Rat.one_mul]at this;exact this
theorem Pt{t:Rat}{d:Nat}:∀n i:Nat,i+n<d->qf d fun v=>dc t v n i
 |0,i,h=>afv h
 |n+1,i,h=>(Pt (t:=t) n i ω).comb (Pt n (i+1) ω) (1-t) t
theorem Xt{t lo hi:Rat}(h0:0<=t)(h1:t<=1){v:G}:∀n i:Nat,(∀j,i<=j->j<=i+n->lo<=v j/\v j<=hi)->lo<=dc t v n i/\dc t v n i<=hi
 |0,i,h=>h i (ayd _) (ayd _)
 |n+1,i,h=>by
  have a:=Xt h0 h1 n i fun j a b=>h j a ω;have b:=Xt h0 h1 n (i+1) fun j a b=>h j ω ω;have h2:0<=1-t:=γ
  simp only[dc];have q1:=Rat.mul_le_mul_of_nonneg_left a.1 h2;have q2:=Rat.mul_le_mul_of_nonneg_left a.2 h2;have q3:=Rat.mul_le_mul_of_nonneg_left b.1 h0;have q4:=Rat.mul_le_mul_of_nonneg_left b.2 h0;grind
def iv:List (Nat×LF)->Nat->Nat->G->Rat
 |[],_,i,g=>g i
 |p::ls,s,i,g=>p.2 fun j=>iv ls (s*(p.1+1)) (i+j*s) g
def Ay:List (Nat×LF)->Nat->Nat
 |[],s=>s
 |p::ls,s=>Ay ls (s*(p.1+1))
def Pu(ls:List (Nat×LF)):Prop:=∀p∈ls,qf (p.1+1) p.2
theorem afw{g1 g2:G}:∀ (ls:List (Nat×LF)),Pu ls->∀s i:Nat,(∀q,q*s+s<=Ay ls s->g1 (i+q*s)=g2 (i+q*s))->iv ls s i g1=iv ls s i g2
 |[],_,s,i,h=>by
  have:=h 0 (by grind[Ay]);grind[iv]
 |p::ls,ok,s,i,h=>by
  refine(ok p σ).cg fun j hj=>afw ls (fun q hq=>ok q γ) _ _ fun q hq=>?_;have e:i+j*s+q*(s*(p.1+1))=i+(j+q*(p.1+1))*s:=γ
  rw[e];refine h _ (ayj ?_ hq);have:(j+1)*s<=(p.1+1)*s:=aym _ hj;grind
theorem NQ{c:Nat}{P:LF}(hP:qf c P){g:G}(a:Nat->Nat):∀ (ls:List (Nat×LF)),Pu ls->∀s i:Nat,P (fun j=>iv ls s (i+a j) g)=iv ls s i fun i'=>P fun j=>g (i'+a j)
 |[],_,_,_=>rfl
 |p::ls,ok,s,i=>by
  show P (fun j=>p.2 fun r=>iv ls (s*(p.1+1)) (i+a j+r*s) g)=p.2 fun r=>iv ls (s*(p.1+1)) (i+r*s) _;rw[(ok p σ).swap hP];refine congrArg p.2 (funext fun r=>?_);rw[←NQ hP a ls (fun q hq=>ok q γ)];grind
theorem Xu{d:Nat}{P B:LF}(hP:qf (d+1) P)(hB:qf (d+1) B){post:List (Nat×LF)}(op:Pu post){g g':G}:∀ (pre:List (Nat×LF)),Pu pre->∀s i:Nat,i<s->
  (∀i0 q,i0<Ay pre s->q*(Ay pre s*(d+1))+Ay pre s*(d+1)<=Ay post (Ay pre s*(d+1))->P (fun j=>g (i0+q*(Ay pre s*(d+1))+j*Ay pre s))=B (fun j=>g' (i0+q*(Ay pre s*(d+1))+j*Ay pre s)))->
  iv (pre++(d,P)::post) s i g=iv (pre++(d,B)::post) s i g'
 |[],_,s,i,hi,h=>by
  show P (fun j=>iv post (s*(d+1)) (i+j*s) g)=B (fun j=>iv post (s*(d+1)) (i+j*s) g');rw[NQ hP _ post op,NQ hB _ post op];exact afw post op _ _ fun q hq=>h i q hi hq
 |p::pre,ok,s,i,hi,h=>by
  refine(ok p σ).cg fun j hj=>Xu hP hB op pre (fun q hq=>ok q (by simp[hq])) _ _ ?_ h;have:j*s<=p.1*s:=aym _ ω;grind
theorem aas{lo hi:Rat}{g:G}:∀ (ls:List (Nat×LF)),(∀p∈ls,∀v:G,(∀j,j<=p.1->lo<=v j/\v j<=hi)->lo<=p.2 v/\p.2 v<=hi)->∀s i:Nat,(∀q,q*s+s<=Ay ls s->lo<=g (i+q*s)/\g (i+q*s)<=hi)->lo<=iv ls s i g/\iv ls s i g<=hi
 |[],_,s,i,h=>by
  have:=h 0 (by grind[Ay]);grind[iv]
 |p::ls,ok,s,i,h=>by
  refine ok p σ _ fun j hj=>aas ls (fun q hq=>ok q γ) _ _ fun q hq=>?_;have e:i+j*s+q*(s*(p.1+1))=i+(j+q*(p.1+1))*s:=γ
  rw[e];refine h _ (ayj ?_ hq);have:j*s<=p.1*s:=aym _ hj;grind
def ps(op:Nat->G->G)(s n:Nat):Nat->Nat->G->G
 |0,_,g=>g
 |k+1,i,g=>ps op s n k (i+1) (if i/s% (n+1)=0 then op i g else g)
theorem akD{s n f f' m m':Nat}(hs:0<s)(h1:f/s% (n+1)=0)(h2:f'/s% (n+1)=0)(hm:m<=n)(hm':m'<=n)(e:f+m*s=f'+m'*s):f=f':=by
 have h3:(f+m*s)/s% (n+1)=m:=by
  rw[Nat.add_mul_div_right _ _ hs,Nat.add_mod,h1,ayc,Nat.mod_mod,ayV ω]
 have h4:(f'+m'*s)/s% (n+1)=m':=by
  rw[Nat.add_mul_div_right _ _ hs,Nat.add_mod,h2,ayc,Nat.mod_mod,ayV ω]
 grind
theorem apJ{L L':LF}{s n:Nat}(hs:0<s)(cL:qf (n+1) L)(cL':qf (n+1) L'){op:Nat->G->G}(hop:∀f g,(∀a,(∀m,m<=n->a≠f+m*s)->op f g a=g a)/\L (fun m=>g (f+m*s))=L' (fun m=>op f g (f+m*s))):
  ∀ (k i:Nat) (g:G),(∀f m,f<i->f/s% (n+1)=0->m<=n->ps op s n k i g (f+m*s)=g (f+m*s))/\∀f,i<=f->f<i+k->f/s% (n+1)=0->L (fun m=>g (f+m*s))=L' (fun m=>ps op s n k i g (f+m*s)):=by
 intro k;induction k with
 |zero=>exact fun i g=>⟨fun _ _ _ _ _=>rfl,fun f h1 h2=>by omega⟩
 |succ k ih=>
  intro i g;have e:ps op s n (k+1) i g=ps op s n k (i+1) (if i/s% (n+1)=0 then op i g else g):=rfl;rw[e];have hg:∀f m,f≠i->f/s% (n+1)=0->m<=n->(if i/s% (n+1)=0 then op i g else g) (f+m*s)=g (f+m*s):=fun f m hf h0 hm=>by
   grind[akD]
  have hi:i/s% (n+1)=0->L (fun m=>g (i+m*s))=L' (fun m=>(if i/s% (n+1)=0 then op i g else g) (i+m*s)):=fun h=>by
   simp_all
  generalize(if i/s% (n+1)=0 then op i g else g)=g1 at*
  obtain⟨a,b⟩:=ih (i+1) g1;refine⟨fun f m hf h0 hm=>by rw[a f m ω h0 hm,hg f m ω h0 hm],fun f h1 h2 h0=>?_⟩;by_cases hq:f=i
  ·subst hq;rw[hi h0];exact cL'.cg fun m hm=>(a f m ω h0 ω).symm
  ·rw[←b f ω ω h0];exact cL.cg fun m hm=>(hg f m hq h0 ω).symm
def dl(a:Nat):G:=fun b=>if b=a then 1 else 0
theorem Rn{a c:Rat}{g h:G}:∀ (ls:List (Nat×LF)),Pu ls->∀s i:Nat,iv ls s i (fun b=>a*g b+c*h b)=a*iv ls s i g+c*iv ls s i h
 |[],_,_,_=>rfl
 |p::ls,ok,s,i=>by
  show p.2 (fun j=>iv ls _ (i+j*s) _)=a*p.2 _+c*p.2 _;rw[← (ok p σ).lin];refine congrArg p.2 (funext fun j=>?_);exact Rn ls (fun q hq=>ok q γ) _ _
theorem anf{ls:List (Nat×LF)}(ok:Pu ls){s i a:Nat}{g:G}{y:Rat}:iv ls s i (gs g a y)=iv ls s i g+(y-g a)*iv ls s i (dl a):=by
 have:gs g a y=fun b=>1*g b+(y-g a)*dl a b:=by
  grind[gs,dl]
 rw[this,Rn ls ok];grind
def p7:List Nat->List Rat->List (Nat×LF)
 |d::ds,x::xs=>(d,fun v=>pl x v 0 (d+1))::p7 ds xs
 |_,_=>[]
theorem Lv:∀ (ds:List Nat) (xs:List Rat),Pu (p7 ds xs)
 |d::ds,x::xs=>fun p hp=>by
  rcases List.mem_cons.1 hp with rfl|hp
  ·simp_all[Kr]
  ·exact Lv ds xs p hp
 |[],_=>fun _ h=>by grind[p7]
 |_::_,[]=>fun _ h=>by grind[p7]
def Ks:List Rat->List Nat->Rat
 |x::xs,e::es=>x^e*Ks xs es
 |_,_=>1
def pos:List Nat->List Nat->Nat->Nat
 |d::ds,e::es,s=>e*s+pos ds es (s*(d+1))
 |_,_,_=>0
def Pw:List Nat->List Nat->Prop
 |d::ds,e::es=>e<=d/\Pw ds es
 |[],[]=>True
 |_,_=>False
theorem ai4{x y:Rat}{e:Nat}:∀c i:Nat,(e<i->pl x (fun j=>if j=e then y else 0) i c=0)/\(i<=e->e<i+c->pl x (fun j=>if j=e then y else 0) i c=x^ (e-i)*y)
 |0,i=>⟨fun _=>rfl,fun h1 h2=>by omega⟩
 |c+1,i=>by
  obtain⟨a,b⟩:=ai4 (x:=x) (y:=y) (e:=e) c (i+1);simp only[pl];constructor
  ·grind
  ·intro h1 h2;by_cases h:i=e
   ·subst h;grind
   ·rw[if_neg h,b ω ω,show e-i=e- (i+1)+1 by omega,Rat.pow_succ];grind
theorem ai5{s i i0 j e:Nat}(h1:i<s)(h2:i0<s):i+j*s=i0+e*s↔i=i0/\j=e:=by
 constructor
 ·intro h;have a:(i+j*s) %s=i:=by rw[Nat.add_mul_mod_self_right,ayV h1]
  have b:(i0+e*s) %s=i0:=by rw[Nat.add_mul_mod_self_right,ayV h2]
  have c:i=i0:=γ
  subst c;exact⟨rfl,Nat.eq_of_mul_eq_mul_right ω (Nat.add_left_cancel h)⟩
 grind
theorem EO{s i j d:Nat}(h:i<s)(hj:j<=d):i+j*s<s*(d+1):=by
 have:j*s<=d*s:=aym _ hj;grind
theorem aat:∀ (ds es:List Nat) (xs:List Rat),Pw ds es->xs.length=ds.length->∀s i i0:Nat,i<s->i0<s->iv (p7 ds xs) s i (dl (i0+pos ds es s))=if i=i0 then Ks xs es else 0
 |[],[],xs,_,hx,s,i,i0,_,_=>by
  have:xs=[]:=List.length_eq_zero_iff.1 hx;subst this;rfl
 |d::ds,e::es,x::xs,h,hx,s,i,i0,h1,h2=>by
  show pl x (fun j=>iv (p7 ds xs) (s*(d+1)) (i+j*s) (dl (i0+(e*s+pos ds es (s*(d+1)))))) 0 (d+1)=_;have hc:=(Kr (x:=x) (d:=d+1) (d+1) 0 σ).cg (v:=fun j=>iv (p7 ds xs) (s*(d+1)) (i+j*s) (dl (i0+(e*s+pos ds es (s*(d+1)))))) (w:=fun j=>if j=e then(if i=i0 then Ks xs es else 0)else 0) (fun j hj=>by
   rw[←Nat.add_assoc,aat ds es xs h.2 γ (s*(d+1)) _ _ (EO h1 ω) (EO h2 h.1)];grind[ai5])
  rw[hc,(ai4 (d+1) 0).2 ω (by have:=h.1;omega)];by_cases ha:i=i0
  ·rw[if_pos ha,if_pos ha];rfl
  grind
 |[],_::_,_,h,_,_,_,_,_,_=>h.elim
 |_::_,[],_,h,_,_,_,_,_,_=>h.elim
 |_::_,_::_,[],_,hx,_,_,_,_,_=>by grind
theorem afx:∀ (ds es:List Nat) (xs:List Rat),Pw ds es->xs.length=ds.length->∀s i0:Nat,i0<s->i0+pos ds es s<Ay (p7 ds xs) s
 |[],[],xs,_,hx,s,i0,h2=>by
  exact h2
 |d::ds,e::es,x::xs,h,hx,s,i0,h2=>by
  show i0+(e*s+pos ds es (s*(d+1)))<Ay (p7 ds xs) (s*(d+1));rw[←Nat.add_assoc];exact afx ds es xs h.2 γ _ _ (EO h2 h.1)
 |[],_::_,_,h,_,_,_,_=>h.elim
 |_::_,[],_,h,_,_,_,_=>h.elim
 |_::_,_::_,[],_,hx,_,_,_=>by grind
theorem aau:∀ (ds es es':List Nat),Pw ds es->Pw ds es'->∀s i i0:Nat,i<s->i0<s->i+pos ds es s=i0+pos ds es' s->i=i0/\es=es'
 |[],[],[],_,_,_,_,_,_,_,h=>⟨h,rfl⟩
 |d::ds,e::es,e'::es',h,h',s,i,i0,h1,h2,hq=>by
  have:i+(e*s+pos ds es (s*(d+1)))=i0+(e'*s+pos ds es' (s*(d+1))):=hq;rw[←Nat.add_assoc,←Nat.add_assoc]at this;obtain⟨a,b⟩:=aau ds es es' h.2 h'.2 _ _ _ (EO h1 h.1) (EO h2 h'.1) this;obtain⟨c,d⟩:=(ai5 h1 h2).1 a;exact⟨c,by rw[d,b]⟩
 |[],_::_,_,h,_,_,_,_,_,_,_=>h.elim
 |_::_,[],_,h,_,_,_,_,_,_,_=>h.elim
 |[],[],_::_,_,h,_,_,_,_,_,_=>h.elim
 |_::_,_::_,[],_,h,_,_,_,_,_,_=>h.elim
theorem Ro{y:Rat}(h:0<y):0<y⁻¹:=by
 refine Rat.not_le.1 fun hn=>?_;have:=ay3 hn (Rat.le_of_lt h);grind
theorem aav{y z:Rat}(h1:0<y)(h2:y<=z):z⁻¹<=y⁻¹:=by
 have a:=Ro h1;have b:=Ro (show 0<z by grind);have c:=ay3 (ay3 h2 (Rat.le_of_lt a)) (Rat.le_of_lt b);rw[show y*y⁻¹*z⁻¹=z⁻¹ by grind,show z*y⁻¹*z⁻¹=y⁻¹ by grind]at c;omega
theorem afy{y z:Rat}(h:0<y/\y<=z\/y<=z/\z<0):z⁻¹<=y⁻¹:=by
 rcases h with⟨h1,h2⟩| ⟨h2,h1⟩
 ·grind[aav]
 ·have:=aav (y:=-z) (z:=-y) γ γ;grind
theorem uo{d:Rd}:(d.neg=true->zI d=-(mg d:Int))/\(d.neg=false->zI d=mg d):=by
 simp_all[zI,if_pos]
theorem ang{a b:Rd}{p:Int}{w:Bool}{N:Nat}(hN:N=16384)(oa:Ok0 a)(ob:Ok0 b)(va:vd a=true)(vb:vd b=true)(hp:8<=p/\p<=512)(a0:a.m.length≠0)(b0:b.m.length≠0)
  (h:(cB (ab a.m*2^w9 a b p/ab b.m) (a.e-w9 a b p-b.e) (decide (ab a.m*2^w9 a b p%ab b.m≠0)) p w).2=0):
  ∃n:Nat,zI (cB (ab a.m*2^w9 a b p/ab b.m) (a.e-w9 a b p-b.e) (decide (ab a.m*2^w9 a b p%ab b.m≠0)) p w).1=n/\(w=true->mg a*2^N<=n*mg b)/\(w=false->n*mg b<=mg a*2^N):=by
 obtain⟨a1,a2,a3,a4⟩:=ef va oa.lb;obtain⟨b1,b2,b3,b4⟩:=ef vb ob.lb;have hA:=dt va a0;have hB:=dt vb b0;have hk:w9 a b p=(p+3+af (ab b.m)-af (ab a.m)).toNat:=rfl;generalize w9 a b p=k at*
 have hm2:=dk k hA;have hbM:p< (af (ab a.m*2^k/ab b.m):Nat):=by
  have h1:2^ (af (ab a.m*2^k)-1)<=ab a.m*2^k:=Ra ω;have h2:ab b.m<2^af (ab b.m):=bD.1 (ayd _);have h3:2^p.toNat*ab b.m<=ab a.m*2^k:=by
   refine ayj (ay7 _ (Nat.le_of_lt h2)) (ayj ?_ h1);rw[←ayn];exact ayP δ ω
  have h4:2^p.toNat<=ab a.m*2^k/ab b.m:=(Nat.le_div_iff_mul_le (Nat.pos_of_ne_zero hB)).2 h3;have h5:=jK.2 h4;omega
 have hdm:=ay4 (ab a.m*2^k) (ab b.m);have hml:=ayI (ab a.m*2^k) (Nat.pos_of_ne_zero hB);generalize ab a.m*2^k/ab b.m=M at*
 generalize hR:ab a.m*2^k%ab b.m=R at*
 obtain⟨n,n1,n2,n3⟩:=Ie (s:=(a.e+16384).toNat+N) (t:=k+(b.e+16384).toNat) (fun h0=>by grind[pG]) hp ω (fun _=>hbM) h;refine⟨n,n1,fun hw=>?_,fun hw=>?_⟩
 ·have g:=n2 hw;have h1:ab a.m*2^k<=(M+(decide (R≠0)).toNat)*ab b.m:=by
   rw[←hdm,ayA,ayy M];by_cases h0:R=0
   all_goals grind
  refine Nat.le_of_mul_le_mul_right ?_ (ayr k);have h2:=aym (2^ ((a.e+16384).toNat+N)) h1;have h3:=aym (ab b.m) g;unfold mg;grind
 ·have g:=n3 hw;have h1:M*ab b.m<=ab a.m*2^k:=by
   grind
  refine Nat.le_of_mul_le_mul_right ?_ (ayr k);have h2:=aym (2^ ((a.e+16384).toNat+N)) h1;have h3:=aym (ab b.m) g;unfold mg;grind
theorem SS{A B n:Nat}(k:Nat)(hB:0<B):(A*2^k<=n*B->(A:Rat)*(B:Rat)⁻¹<=n*eQ k)/\(n*B<=A*2^k->(n:Rat)*eQ k<=(A:Rat)*(B:Rat)⁻¹):=by
 have hb:(0:Rat)<B:=by exact_mod_cast hB
 have hi:=Ro hb;have hk:=Xr k;have hm:=Kp k;have e1:((A*2^k:Nat):Rat)=A*pQ k:=by
  simp_all[pQ,Rat.natCast_mul,Rat.natCast_pow,Rat.intCast_pow]
 have e2:((n*B:Nat):Rat)=n*B:=Rat.natCast_mul _ _;have r1:(A:Rat)*(B:Rat)⁻¹=A*pQ k*(eQ k*(B:Rat)⁻¹):=γ
 have r2:(n:Rat)*eQ k=n*B*(eQ k*(B:Rat)⁻¹):=γ
 have hc:0<=eQ k*(B:Rat)⁻¹:=Rat.mul_nonneg (Rat.le_of_lt hk) (Rat.le_of_lt hi);rw[r1,r2,←e1,←e2];exact⟨fun h=>ay3 (by exact_mod_cast h) hc,fun h=>ay3 (by exact_mod_cast h) hc⟩
theorem afz{a b:Rd}{p:Int}{up:Bool}(va:vd a=true/\Ok0 a)(vb:vd b=true/\Ok0 b)(hb:qv b≠0)(hp:bG p=true)(h:(sk a b p up).2=0):(up=true->qv a*(qv b)⁻¹<=qv (sk a b p up).1)/\(up=false->qv (sk a b p up).1<=qv a*(qv b)⁻¹):=by
 unfold sk at h⊢;rw[if_pos (Pq va.1 vb.1 hp)]at h⊢;have b0:b.m.length≠0:=fun h0=>hb γ;rw[if_neg b0]at h⊢;by_cases a0:a.m.length=0
 ·rw[if_pos a0,Ig]
  simp_all[qv,cO]
 rw[if_neg a0]at h⊢;obtain⟨N,hN⟩:∃N:Nat,N=16384:=⟨_,rfl⟩;have hcut:=fun w hw=>ang (w:=w) hN va.2 vb.2 va.1 vb.1 (vo hp) a0 b0 hw;have hmb:=GX vb.1 b0;have hE:=G5;generalize hc:cB (ab a.m*2^w9 a b p/ab b.m) (a.e-w9 a b p-b.e) (decide (ab a.m*2^w9 a b p%ab b.m≠0)) p=c at*
 have hvc:∀w,vd (c w).1=true:=fun w=>by rw[←hc];exact Rb
 have hq:qv a*(qv b)⁻¹=if(a.neg !=b.neg)=true then-((mg a:Rat)*(mg b:Rat)⁻¹)else(mg a:Rat)*(mg b:Rat)⁻¹:=by
  unfold qv;have i1:((-(mg a:Int):Int):Rat)=-(mg a:Rat):=by rfl
  have i2:((-(mg b:Int):Int):Rat)=-(mg b:Rat):=by rfl
  have i3:((mg a:Int):Rat)=(mg a:Rat):=rfl;have i4:((mg b:Int):Rat)=(mg b:Rat):=rfl;cases ha:a.neg<;>cases hb:b.neg
  ·rw[uo.2 ha,uo.2 hb,i3,i4,if_neg δ];grind
  ·rw[uo.2 ha,uo.1 hb,i3,i2,if_pos δ];grind
  ·rw[uo.1 ha,uo.2 hb,i1,i4,if_pos δ];grind
  ·rw[uo.1 ha,uo.1 hb,i1,i2,if_neg δ];grind
 rw[hq];generalize(a.neg !=b.neg)=sg at*
 unfold gI at h⊢;cases sg with
 |true=>
  have h2:(c (up !=true)).2=0:=by
   grind
  rw[if_pos (show(c (up !=true)).2=0/\true=true from⟨h2,rfl⟩),if_pos (show true=true from rfl)];obtain⟨n,n1,n2,n3⟩:=hcut _ h2;rw[(G7 (hvc _)).1];have e:qv (c (up !=true)).1=(n:Rat)*eQ N:=by unfold qv;rw[n1,hN];rfl
  grind[SS,mg]
 |false=>
  have hn:¬((c (up !=false)).2=0/\false=true):=fun h1=>ayl h1.2;rw[if_neg hn]at h;obtain⟨n,n1,n2,n3⟩:=hcut _ h;have e:qv (c (up !=false)).1=(n:Rat)*eQ N:=by unfold qv;rw[n1,hN];rfl
  grind[SS,mg]
theorem Ij{d:Rd}(h:vd d=true):(0<cQ d↔0<qv d)/\(cQ d<0↔qv d<0):=by
 have hE:=G5;unfold cQ;by_cases h0:d.m.length=0
 ·simp_all[qv,cO,if_pos]
 ·have hm:=GX h h0;have hq:(0:Rat)< (mg d:Rat)*EQ:=Rat.mul_pos (by exact_mod_cast hm) hE;cases hn:d.neg with
  |true=>
   have:qv d=-((mg d:Rat)*EQ):=by unfold qv;rw[uo.1 hn,Rat.intCast_neg,Rat.intCast_natCast];grind
   grind
  |false=>
   have:qv d=(mg d:Rat)*EQ:=by unfold qv;rw[uo.2 hn];rfl
   grind
theorem aaw{x y:Ri}{a b:Rat}{p:Int}(hx:In a x)(hy:In b y):In (a/b) (Rg x y p):=by
 unfold Rg;split
 ·next h=>
  simp only[ayf]at h;obtain⟨⟨kx,ky⟩,hp⟩:=h;rcases hx.k with⟨rfl,h⟩| ⟨_,x1,x2⟩
  ·grind
  rcases hy.k with⟨rfl,h⟩| ⟨_,y1,y2⟩
  ·grind
  split
  ·exact Or.inl rfl
  ·next hs=>
   have hpr:∀i,((gw x y i).1=x.lo\/(gw x y i).1=x.hi)/\((gw x y i).2=y.lo\/(gw x y i).2=y.hi):=fun i=>by
    unfold gw;grind
   have hsg:0<qv y.lo\/qv y.hi<0:=by
    unfold Ka at hs;by_cases g1:0<cQ y.lo
    ·exact Or.inl ((Ij hy.vi.1.1).1.1 g1)
    ·by_cases g2:cQ y.hi<0
     ·exact Or.inr ((Ij hy.vi.2.1).2.1 g2)
     omega
   have hv:∀i,(vd (gw x y i).1=true/\Ok0 (gw x y i).1)/\(vd (gw x y i).2=true/\Ok0 (gw x y i).2)/\qv (gw x y i).2≠0:=fun i=>by
    obtain⟨h1,h2⟩:=hpr i;refine⟨?_,?_,?_⟩
    ·rcases h1 with h1|h1<;>rw[h1]
     ·exact hx.vi.1
     ·exact hx.vi.2
    ·rcases h2 with h1|h1<;>rw[h1]
     ·exact hy.vi.1
     ·exact hy.vi.2
    grind
   refine aap (dn:=fun a b=>sk a b p false) (up:=fun a b=>sk a b p true) (v:=fun i=>qv (gw x y i).1*(qv (gw x y i).2)⁻¹) (fun _ _=>Ls) (fun _ _=>Ls) (fun i _ h=>(afz (hv i).1 (hv i).2.1 (hv i).2.2 hp h).2 rfl) (fun i _ h=>(afz (hv i).1 (hv i).2.1 (hv i).2.2 hp h).1 rfl) fun lo hi h=>?_;have i1:(qv y.hi)⁻¹<=b⁻¹:=afy γ;have i2:b⁻¹<=(qv y.lo)⁻¹:=afy γ;exact aaq x1 x2 i1 i2 (h 1 δ) (h 0 δ) (h 3 δ) (h 2 δ)
 ·exact Or.inl rfl
theorem afA{z p:Int}{j:Nat}{up:Bool}(hp:8<=p/\p<=512)(hz:0<=z)(h:(iV z (-16384- (j:Int)) p up).2=0):0<=zI (iV z (-16384- (j:Int)) p up).1:=by
 unfold iV at h⊢;by_cases h0:z=0
 ·rw[if_pos h0,cO rfl];omega
 ·rw[if_neg h0,decide_eq_false ω]at h⊢;unfold gI at h⊢;rw[if_neg (fun h1=>ayl h1.2)]at h⊢;obtain⟨n,g1,_⟩:=Ie (s:=0) (t:=j) ω hp ω (fun h=>absurd h ayl) h;omega
theorem ac2{d:Rd}:0<=qv d↔0<=zI d:=by
 rw[←Ig,Ao,cO rfl]
theorem anh{d:Rd}{p:Int}{up:Bool}(v:vd d=true)(hp:bG p=true)(h:(bZ d p up).2=0):(0<=qv d->0<=qv (bZ d p up).1)/\(up=true->qv d<=qv (bZ d p up).1)/\(up=false->qv (bZ d p up).1<=qv d):=by
 refine⟨fun hd=>?_,?_,?_⟩
 ·rw[ac2]at hd⊢;have hp2:=vo hp;have hf:aZ p [d]=0:=by grind[aZ]
  unfold bZ at h⊢;rw[if_pos hf]at h⊢;exact afA (j:=0) hp2 hd h
 ·rintro rfl
  exact Ao.2 (aku v hp h)
 ·rintro rfl
  exact Ao.2 (akt v hp h)
theorem akE{a b:Rd}{p:Int}{up:Bool}(ha:vd a=true)(hb:vd b=true)(hp:bG p=true)(h1:0<=qv a)(h2:0<=qv b)(h:(fJ a b p up).2=0):0<=qv (fJ a b p up).1:=by
 rw[ac2]at*
 unfold fJ at h⊢;rw[if_pos (Pq ha hb hp)]at h⊢;exact afA (j:=16384) (vo hp) (Int.mul_nonneg h1 h2) h
theorem Kt{d:Rd}{p:Int}{up:Bool}:vd (bZ d p up).1=true/\Ok0 (bZ d p up).1:=by
 grind[bZ,td,aU]
theorem Ku{a b:Rd}{p:Int}{up:Bool}:vd (fJ a b p up).1=true/\Ok0 (fJ a b p up).1:=by
 grind[fJ,td,aU]
theorem Ut{d:Rd}{p:Int}{up:Bool}:∀ (k:Nat) (r:Rd×Int),(vd r.1=true/\Ok0 r.1)->vd (mL d p up k r).1=true/\Ok0 (mL d p up k r).1
 |0,_,h=>h
 |k+1,r,h=>by
  unfold mL;split
  ·exact Ut k _ Ku
  ·exact h
theorem ai6{d:Rd}{p:Int}{up:Bool}(v:vd d=true)(hp:bG p=true)(h0:0<=qv d):∀ (k m:Nat) (r:Rd×Int),vd r.1=true->(r.2=0->0<=qv r.1/\(up=true->qv d^m<=qv r.1)/\(up=false->qv r.1<=qv d^m))->(mL d p up k r).2=0->
  (up=true->qv d^ (m+k)<=qv (mL d p up k r).1)/\(up=false->qv (mL d p up k r).1<=qv d^ (m+k))
 |0,m,r,_,h,he=>(h he).2
 |k+1,m,r,vr,h,he=>by
  unfold mL at he⊢;by_cases hr:r.2=0
  ·rw[if_pos hr]at he⊢;obtain⟨a,b,c⟩:=h hr;rw[show m+(k+1)=m+1+k by omega];refine ai6 v hp h0 k (m+1) _ Ku.1 (fun hm=>⟨akE vr v hp a h0 hm,fun hu=>?_,fun hu=>?_⟩) he
   ·have h1:=(Ps vr v hp hm).1 hu;have h2:=ay3 (b hu) h0;grind[Rat.pow_succ,Rat.le_trans]
   grind[Ps,ay3,Rat.pow_succ,Rat.le_trans]
  grind
theorem ani{d:Rd}{p:Int}{up:Bool}{n:Nat}(v:vd d=true)(hp:bG p=true)(h0:0<=qv d)(hn:1<=n)(he:(pw d n p up).2=0):(up=true->qv d^n<=qv (pw d n p up).1)/\(up=false->qv (pw d n p up).1<=qv d^n):=by
 have:=ai6 v hp h0 (n-1) 1 (bZ d p up) Kt.1 (fun h=>by
  grind[anh,qv]) he
 rw[show 1+(n-1)=n by omega]at this;exact this
theorem BP{x:Rat}:∀n:Nat,(-x)^ (2*n+1)=-(x^ (2*n+1))
 |0=>by grind
 |n+1=>by
  have:=BP (x:=x) n;grind
theorem Kv{x:Rat}:∀n:Nat,(-x)^ (2*n)=x^ (2*n)
 |0=>by grind
 |n+1=>by
  have:=Kv (x:=x) n;grind
theorem Px{x:Rat}(h:0<=x):∀n:Nat,0<=x^n
 |0=>by grind
 |n+1=>by rw[Rat.pow_succ];exact Rat.mul_nonneg (Px h n) h
theorem Kw{x y:Rat}(h:0<=x)(h1:x<=y):∀n:Nat,x^n<=y^n
 |0=>by grind
 |n+1=>by
  rw[Rat.pow_succ,Rat.pow_succ];have a:=ay3 (Kw h h1 n) h;have b:=Rat.mul_le_mul_of_nonneg_left h1 (Px (Rat.le_trans h h1) n);exact Rat.le_trans a b
theorem ac3{x y:Rat}(h1:x<=y)(n:Nat):x^ (2*n+1)<=y^ (2*n+1):=by
 by_cases hx:0<=x
 ·grind[Kw]
 ·by_cases hy:0<=y
  ·have a:=Px (show 0≤-x by grind) (2*n+1);grind[Px,BP]
  ·have:=Kw (x:=-y) (y:=-x) γ γ (2*n+1);grind[BP]
theorem anj{d:Rd}(v:vd d=true):sS d<0↔qv d<0:=by
 rw[← (Ij v).2];grind[sS,cQ]
theorem Py{d:Rd}{p:Int}{up:Bool}{n:Nat}(v:vd d=true)(hp:bG p=true)(hn:1<=n)(ho:n%2=1\/0<=qv d)(he:(rj d n p up).2=0):(up=true->qv d^n<=qv (rj d n p up).1)/\(up=false->qv (rj d n p up).1<=qv d^n):=by
 unfold rj at he⊢;by_cases hs:sS d<0
 ·rw[if_pos hs]at he⊢;have hq:=(anj v).1 hs;obtain⟨n1,n2⟩:=G7 v;have hodd:n=2*(n/2)+1:=by
   grind
  have hw:=ani n2 hp γ hn he;grind[vd,pw,gW,Ut,Kt,qv,G7,BP]
 ·rw[if_neg hs]at he⊢;exact ani v hp (Rat.not_lt.1 fun h=>hs ((anj v).2 h)) hn he
theorem afB{d:Rd}(v:vd d=true)(ok:Ok0 d):(vd (si d)=true/\Ok0 (si d))/\0<=qv (si d)/\(qv (si d)=qv d\/qv (si d)=-qv d):=by
 unfold si;by_cases h0:d.m.length=0
 ·rw[if_pos (Or.inr h0),Ig]
  simp_all[qv,cO,aU,Rat.le_refl]
 ·rw[if_neg γ];have hm:mg ⟨false,d.m,d.e⟩=mg d:=rfl;have h1:zI ⟨false,d.m,d.e⟩=mg d:=by rw[uo.2 rfl,hm]
  refine⟨⟨?_,ok.1,ok.2⟩,?_,?_⟩
  ·simp_all[vd,if_neg]
  ·grind[ac2]
  ·unfold qv;rw[h1];cases hn:d.neg with
   |true=>
    rw[uo.1 hn,Rat.intCast_neg];grind
   |false=>
    left;rw[uo.2 hn]
theorem akF{x:Ri}{a b:Rat}(hx:In a x)(hb:0<=b)(hab:b=a\/b=-a):In b (vf x)/\(kI x=true->0<=qv (vf x).lo/\(vf x).all=false):=by
 unfold vf;by_cases h:kI x=true
 ·rw[if_pos h];rcases hx.k with⟨rfl,h1⟩| ⟨_,x1,x2⟩
  ·grind
  obtain⟨l1,l2,l3⟩:=afB hx.vi.1.1 hx.vi.1.2;obtain⟨h1,h2,h3⟩:=afB hx.vi.2.1 hx.vi.2.2;obtain⟨m1,m2,m3,m4,m5⟩:=Rl l1 h1;obtain⟨n1,n2,n3,n4,n5⟩:=Rk l1 h1;have hmag:b<=qv (H6 x):=by
   grind[H6]
  have hmig:(vd (Bj x)=true/\Ok0 (Bj x))/\0<=qv (Bj x)/\qv (Bj x)<=b:=by
   unfold Bj;split
   ·grind[Ig,aU,Rat.le_refl]
   ·next hs=>
    have hsg:0<qv x.lo\/qv x.hi<0:=by
     unfold Ka at hs;by_cases g1:0<cQ x.lo
     ·exact Or.inl ((Ij hx.vi.1.1).1.1 g1)
     ·by_cases g2:cQ x.hi<0
      ·exact Or.inr ((Ij hx.vi.2.1).2.1 g2)
      omega
    grind
  exact⟨Or.inr ⟨rfl,⟨hmig.1,⟨m3,m4⟩⟩,hmig.2.2,hmag⟩,fun _=>⟨hmig.2.1,rfl⟩⟩
 ·rw[if_neg h];exact⟨Or.inl rfl,fun hk=>absurd hk h⟩
theorem Kx:qv one=1:=by
 obtain⟨N,hN⟩:∃N:Nat,N=16384:=⟨_,rfl⟩;have hm:mg one=2^N:=by
  unfold mg;rw[show(one.e+16384).toNat=N by rw[hN];rfl];exact Nat.one_mul _
 unfold qv EQ;rw[uo.2 rfl,hm,←hN,show(((2^N:Nat):Int):Rat)=pQ N by grind[pQ,Int.natCast_pow]];grind[Kp]
theorem Pz{d:Rd}{p:Int}{up:Bool}{n:Nat}:vd (rj d n p up).1=true/\Ok0 (rj d n p up).1:=by
 grind[rj,vd,pw,Ut,Kt,G7,ws]
theorem Lw{x:Ri}{a:Rat}{n:Nat}{p:Int}(hx:In a x):In (a^n) (EE x n p):=by
 unfold EE;split
 ·next h=>
  simp only[ayf]at h;obtain⟨⟨kx,hp⟩,_⟩:=h;split
  ·next h0=>
   subst h0;rw[Rat.pow_zero,←Kx];exact sn dN.1 dN.2
  ·next h0=>
   by_cases he:n%2=0
   ·rw[if_pos he];obtain⟨b,hb,hab⟩:∃b:Rat,0<=b/\(b=a\/b=-a):=by
     grind
    obtain⟨h1,h2⟩:=akF hx hb hab;obtain⟨g1,g2⟩:=h2 kx;have hpw:a^n=b^n:=by
     rcases hab with rfl|rfl
     ·rfl
     ·rw[show n=2*(n/2)by omega,Kv]
    rw[hpw];rcases h1 with hW| ⟨_,hv,y1,y2⟩
    ·rw[hW]at g2;exact absurd g2 δ
    refine Us Pz Pz (fun h=>?_) (fun h=>?_)
    ·exact Rat.le_trans ((Py hv.1.1 hp ω (Or.inr g1) h).2 rfl) (Kw g1 y1 n)
    ·exact Rat.le_trans (Kw (Rat.le_trans g1 y1) y2 n) ((Py hv.2.1 hp ω (Or.inr (Rat.le_trans g1 (Rat.le_trans y1 y2))) h).1 rfl)
   ·rw[if_neg he];rcases hx.k with⟨rfl,h1⟩| ⟨_,x1,x2⟩
    ·grind
    have ho:n=2*(n/2)+1:=ω
    have le:∀ {x y:Rat},x<=y->x^n<=y^n:=fun h=>by
     grind[ac3]
    refine Us Pz Pz (fun h=>?_) (fun h=>?_)
    ·exact Rat.le_trans ((Py hx.vi.1.1 hp ω (Or.inl ω) h).2 rfl) (le x1)
    ·exact Rat.le_trans (le x2) ((Py hx.vi.2.1 hp ω (Or.inl ω) h).1 rfl)
 ·exact Or.inl rfl
theorem aax{x:Rat}{m:Nat}:∀n:Nat,x^m*x^n=x^ (m+n)
 |0=>by grind
 |n+1=>by rw[Rat.pow_succ,←Rat.mul_assoc,aax n,←Nat.add_assoc,Rat.pow_succ]
theorem akG{x:Ri}{a:Rat}{n:Nat}{p:Int}(hx:In a x):In (a^n) (EF x n p):=by
 unfold EF;split
 ·exact Lw hx
 ·have:=Br (p:=p) (Lw (n:=16) (p:=p) hx) (Lw (n:=n-16) (p:=p) hx);grind[aax]
def InL:List Rat->List Ri->Prop
 |x::xs,d::ds=>In x d/\InL xs ds
 |[],[]=>True
 |_,_=>False
def EP(es:List Int):List Nat:=es.map Int.toNat
def fv(xs:List Rat):List Rt->Rat
 |[]=>0
 |t::l=>qv t.c*Ks xs (EP t.exps)+fv xs l
theorem afD{p:Int}:∀ (xs:List Rat) (ds:List Ri) (es:List Int) (x:Ri) (q:Rat),InL xs ds->ds.length=es.length->In q x->In (q*Ks xs (EP es)) (Kd p ds es x)
 |[],[],[],x,q,_,_,h=>by
  show In (q*1) x;grind
 |y::xs,d::ds,e::es,x,q,hl,hd,h=>by
  show In (q*(y^e.toNat*Ks xs (EP es))) (Kd p ds es (if 0<e then iu x (EF d e.toNat p) p else x));rw[←Rat.mul_assoc];refine afD xs ds es _ _ hl.2 γ ?_;split
  ·exact Br h (akG hl.1)
  ·rw[show e.toNat=0 by omega,Rat.pow_zero,Rat.mul_one];omega
 |[],_::_,_,_,_,hl,_,_=>hl.elim
 |_::_,[],_,_,_,hl,_,_=>hl.elim
 |_::_,_::_,[],_,_,_,hd,_=>by grind
 |[],[],_::_,_,_,_,hd,_=>by grind
theorem afE{p:Int}{xs:List Rat}{dom:List Ri}(hl:InL xs dom):∀ (l:List Rt) (s:Ri) (q:Rat),(∀t∈l,vd t.c=true/\Ok0 t.c/\dom.length=t.exps.length)->In q s->In (q+fv xs l) (Pi p dom l s)
 |[],s,q,_,h=>by
  show In (q+0) s;grind
 |t::l,s,q,ht,h=>by
  obtain⟨a,b,c⟩:=ht t σ;show In (q+(qv t.c*Ks xs (EP t.exps)+fv xs l)) _;rw[←Rat.add_assoc];exact afE hl l _ _ (fun u hu=>ht u (by simp[hu])) (ww h (afD xs dom _ _ _ hl c (sn a b)))
theorem Ky{a:Rp}{dom:List Ri}{xs:List Rat}{p:Int}(oa:OkP a)(hl:InL xs dom):In (fv xs a.terms) (pI a dom p):=by
 unfold pI;split
 ·next h=>
  unfold nP at h;simp only[ayf,decide_eq_true_eq]at h;obtain⟨⟨hv,hd,_⟩,_⟩:=h;unfold vp at hv;simp only[ayf,decide_eq_true_eq]at hv;have:=afE (p:=p) hl a.terms ⟨aH,aH,false⟩ 0 (fun t ht=>by
   have h1:=Ak (Le _ _ hv.2.2.2 t ht);exact⟨h1.2.1,(oa.t t ht).c,by omega⟩) (by rw[←Ig];exact sn aU.1 aU.2)
  grind
 ·exact Or.inl rfl
theorem VT0{d:Rd}(od:Ok0 d)(vdd:vd d=true)(nd:d.m.length≠0):VT 0 ⟨[],d⟩:=⟨od,rfl,by decide,vdd,nd,(fun _ h=>nomatch h),by show(0:Int)<=32;decide⟩
theorem azz{a d:Rd}(oa:Ok0 a)(va:vd a=true)(na:a.m.length≠0)(od:Ok0 d)(vdd:vd d=true)(nd:d.m.length≠0)(h0:(fS a d).2=0):Ok0 (fS a d).1/\vd (fS a d).1=true/\(fS a d).1.m.length≠0:=by
 have h:=Xc (v:=0) (s:=⟨[],a⟩) (t:=⟨[],d⟩) (x:=⟨[],(fS a d).1⟩) (VT0 oa va na) (VT0 od vdd nd) (by show(0:Int)+0<=32;decide) (by unfold Ia;rw[if_pos h0];rfl);exact⟨h.c,h.vc,h.nz⟩
def aiT(d:Rd):List Rt->Option (List Rt)
 |[]=>some []
 |t::ts=>if(fS t.c d).2=0 then(aiT d ts).map (⟨t.exps,(fS t.c d).1⟩::·)else none
theorem axD{v:Int}{t:Rt}{d:Rd}(vt:VT v t)(od:Ok0 d)(vdd:vd d=true)(nd:d.m.length≠0)(h0:(fS t.c d).2=0):VT v ⟨t.exps,(fS t.c d).1⟩:=by
 obtain⟨h1,h2,h3⟩:=azz vt.c vt.vc vt.nz od vdd nd h0;exact⟨h1,vt.len,vt.v8,h2,h3,vt.b,vt.d⟩
theorem axE{v:Int}{d:Rd}(od:Ok0 d)(vdd:vd d=true)(nd:d.m.length≠0):∀ {ts r:List Rt},Cl v ts->aiT d ts=some r->Cl v r/\r.length=ts.length/\∀y∈r,∃t∈ts,y.exps=t.exps
 |[],r,c,h=>by cases h;grind
 |t::ts,r,c,h=>by
  obtain⟨vt,ht,c2⟩:=c.cons;unfold aiT at h;split at h
  ·rename_i h0;rw[aye]at h;obtain⟨r2,h2,rfl⟩:=h;obtain⟨k1,k2,k3⟩:=axE od vdd nd c2 h2;refine⟨Cl.mk' (axD vt od vdd nd h0) (fun y hy=>?_) k1,by simp[k2],fun y hy=>?_⟩
   ·obtain⟨q,hq,he⟩:=k3 y hy;rw[he];exact ht q hq
   ·rcases List.mem_cons.1 hy with rfl|hy
    ·exact⟨t,by simp,rfl⟩
    ·obtain⟨q,hq,he⟩:=k3 y hy;exact⟨q,by simp[hq],he⟩
  ·cases h
def ajd(a:Rp)(d:Rd):Rp×Int:=if vp a=true/\vd d=true then(if d.m.length=0 then(⟨a.vars,[]⟩,0)else match aiT d a.terms with|none=>(p0,9)|some r=>(⟨a.vars,r⟩,0))else(p0,1)
theorem azr{a:Rp}{d:Rd}(oa:OkP a)(od:Ok0 d)(va:vp a=true)(vdd:vd d=true)(nd:d.m.length≠0):(match aiT d a.terms with|none=>(p0,(9:Int))|some r=>(⟨a.vars,r⟩,0))=tL a.vars ((aiT d a.terms).bind (oE [])):=by
 obtain⟨ca,a0,a8,al⟩:=lE oa va;cases h:aiT d a.terms with
 |none=>rfl
 |some r=>
  obtain⟨k1,k2,k3⟩:=axE od vdd nd ca h;have hc:oE [] r=some r:=ap4 (l:=[]) k1;simp only[ayi,hc,tL];rw[if_neg ω]
def intD(e:Int):Rd:=bk false e.natAbs 0
theorem akH{e:Int}(h1:1<=e)(h2:e<=32):Ok0 (intD e)/\vd (intD e)=true/\(intD e).m.length≠0:=by
 have hn:e.natAbs≠0:=ω
 have hb:af e.natAbs<=6:=bD.2 (by
  omega)
 have hc:=EC (neg:=false) (M:=e.natAbs) (e:=0) ω δ ω;have ho:=yO (z:=e) (f:=0);have hcan:df e 0=bk false e.natAbs 0:=by
  grind[df,decide_eq_false]
 rw[hcan,hc]at ho;refine⟨ho.2,ho.1,fun h=>?_⟩;obtain⟨q1,_,q3,_⟩:=pZ (neg:=false) (e:=0) hn;have h0:(bk false e.natAbs 0).m=[]:=List.length_eq_zero_iff.1 h;grind[ab]
def dec(l:List Int)(i:Nat):List Int:=l.set i (l.getD i 0-1)
theorem aay:∀ {l:List Int} {i:Nat},i<l.length->bj (dec l i)=bj l-1
 |x::l,0,_=>by
  show(x-1)+bj l=(x+bj l)-1;omega
 |x::l,i+1,h=>by
  have ih:=aay (l:=l) (i:=i) (by simpa using h);show x+bj (dec l i)=(x+bj l)-1;omega
theorem azV{x:Int}(h1:0<=x)(h2:x<=32):R faJ [I x] []=some (ae (intD x),[]):=by
 have h:=Pe (n:=x) ⟨by omega,by omega⟩;rw[decide_eq_false ω]at h;exact h
theorem aih{x:Int}(h1:0<=x)(h2:x<=32):R fcE [I x] []=some (ae (intD x),[]):=by
 refine au ad4 rfl ?_;obtain⟨n,rfl⟩:=aze h1;have h:=Pj (neg:=false) (m:=[n,0]) (e:=0) (fun y hy=>by
  grind) γ ⟨by decide,by decide⟩
 have h3:R fcH [B false,.sl 1 [[U (n:Int)],[U 0]],I 0] []=some (ae (intD (n:Int)),[]):=h;have w1:IntKind.u64.wrap (n:Int)=(n:Int):=dK ω ω;have w2:=Ch (n:=n) (i:=n) rfl ω;have w3:=qz (n:=n) (i:=n) (k:=32) (kk:=.u64) (j:=32) rfl rfl ω;rw[show n%4294967296=n by omega]at w2;rw[show n/2^32=0 by omega]at w3;have w4:IntKind.u32.wrap (n:Int)=(n:Int):=Cb rfl ω;have w5:IntKind.u32.wrap ((0:Nat):Int)=0:=rfl;have e1:((n:Int)<0)=False:=ff;simp only[HG,So,ae,ah,go_sem,e1,w1,w2,w3,w4,w5,h3]
def azj(blk:Option (Ex×St))(id:Nat)(S:ak)(v v':Int)(l:List Rt)(e:Int):Option (List Rt)->Prop
 |some r=>∃hh c' l' e',blk=some (.normal,⟨S,hh⟩)/\hh 4=.bx [I 0,.emp]/\hh id=t3 v' c' e'/\(∀a,100<=a->a≠id->hh a=.dead)/\ColE v l r e c' l' e'
 |none=>∃hh,blk=some (.ret,⟨upd (upd (fun _=>.any) 5 (I 9)) 4 (.ref 4 none 0 0 0),hh⟩)/\hh 4=.bx [I 0,.emp]
theorem ColE.nil{v:Int}{l:List Rt}{c:AV}{e:Int}(hc:pJ c l)(he:e=0\/e=9):ColE v l [] e c l e:=by
 refine⟨hc,?_⟩;rcases he with rfl|rfl
 ·exact .inl ⟨rfl,rfl,rfl⟩
 ·exact .inr ⟨rfl,fun h=>by omega⟩
theorem azB{v v':Int}{d:Rd}(od:Ok0 d)(vdd:vd d=true)(nd:d.m.length≠0){A:List Rt}(hA:∀t∈A,VT v t)(hn:A.length<=100000){o2:Ob}(c2:∀ids,aD ids o2=true):
  ∀ (k i:Nat),i+k=A.length->∀ (c:AV) (l:List Rt) (e:Int),pJ c l->(e=0\/e=9)->(e=0->Cl v l/\l.length+k<=1000000)->∀ (s:ak) (h:ac),s 3=.ref 3 none 0 0 0->s 4=.ref 4 none 0 0 0->s 6=.ref 2176 none 0 0 0->s 24=.sl 4 (aJ A)->s 25=I A.length->s 26=I i->h 2=o2->h 3=.bx [B d.neg,lm d.m,I d.e]->h 4=.bx [I 0,.emp]->h 2176=t3 v' c e->
  azj (ai 0 [4,6] (ax (aj R (az false) OE) [3,4,6,24,25,26] [2,3,4,2176] s h)) 2176 (upd (upd (fun _=>.any) 6 (.ref 2176 none 0 0 0)) 4 (.ref 4 none 0 0 0)) v v' l e (aiT d (A.drop i)):=by
 intro k;induction k with
 |zero=>
  intro i hi c l e hc he hC s h g3 g4 g6 g24 g25 g26 k2 k3 k4 k2176;have e1:((i:Int)< (A.length:Int))=False:=ff;have ho:=(kP (v:=v') (e:=e) hc).cl [2,3,4,2176];have ho2:=c2 [2,3,4,2176];rw[ayw ω,ag];refine⟨?hh0,c,l,e,?_,?_,?_,?_,.nil hc he⟩;rotate_left
  ·simp only[OE,go_sem,g3,g4,g6,g24,g25,g26,k2,k3,k4,k2176,ho,ho2,e1];rfl
  ·rfl
  ·rfl
  ·intro a a1 a2;simp only[cV,a2,if_false];rw[if_neg ω,if_neg ω,if_neg ω]
 |succ k ih=>
  intro i hi c l e hc he hC s h g3 g4 g6 g24 g25 g26 k2 k3 k4 k2176;have hlt:i<A.length:=ω
  have e1:((i:Int)< (A.length:Int))=True:=tt;have e2:aX (aJ A) (i:Int)=some (.ipt (bL A[i])):=fY rfl (List.getElem?_eq_getElem hlt);have e5:IntKind.i64.wrap ((i:Int)+1)=((i+1:Nat):Int):=wi;have e6:((d.m.length:Int)=0)=False:=ff;have ho1:=(kP (v:=v') (e:=e) hc).cl [2,3,4,2176];have ho2:=c2 [2,3,4,2176];have vt:=hA _ (ayC hlt);have hmul:=Q2 vt.c od;have hfit:=fun h0=>axD vt od vdd nd h0;rw[ayv hlt];have ih':=ih (i+1) ω;have hrow:∀q ts,aiT d (q::ts)=if(fS q.c d).2=0 then(aiT d ts).map (⟨q.exps,(fS q.c d).1⟩::·)else none:=fun q ts=>rfl
  rw[hrow];generalize A[i]=t at e2 vt hmul hfit⊢;rw[ag];generalize ax _ _ _=L at ih'⊢;simp only[bL]at e2;generalize fS t.c d=m at hmul hfit⊢;obtain⟨m,em⟩:=m;simp only[rV,ae,ah]at hmul;by_cases hm:em=0
  ·subst hm;have vx:=hfit rfl;rw[if_pos rfl];obtain⟨c1,l1,e1',s1,s2,s3,s4,s5⟩:=ColE.stepN (t:=⟨t.exps,m⟩) hc he k (fun h=>by have:=hC h;exact⟨this.1,by omega⟩) vx (v':=v');have ih2:=ih' c1 l1 e1' s2 s3 s4;have hcall:=fun(h:ac) (hh:h 2176=t3 v' c e) (d:Nat)=>dy (aS.1.2.1 false) rfl (pK (d:=d) hh hc s2 s1);simp only[ae,ah]at hcall;have hpush:∀ (X:Option (Ex×St)) (S:ak),azj X 2176 S v v' l1 e1' (aiT d (A.drop (i+1)))->azj X 2176 S v v' l e ((aiT d (A.drop (i+1))).map (⟨t.exps,m⟩::·)):=fun X S h=>by
    cases hr:aiT d (A.drop (i+1))with
    |none=>rw[hr]at h;exact h
    |some r=>
     rw[hr]at h;obtain⟨hh,c',l',e',q1,q2,q3,q4,q5⟩:=h;exact⟨hh,c',l',e',q1,q2,q3,q4,s5 _ _ _ _ q5⟩
   simp only[OE,go_sem,g3,g4,g6,g24,g25,g26,k2,k3,k4,k2176,ho1,ho2,e1,e2,e6,hmul];rw[hcall _ rfl];simp only[go_sem,e5];refine hpush _ _ (ih2 _ _ ?_ ?_ ?_ ?_ ?_ ?_ ?_ ?_ ?_ ?_)
   all_goals first|rfl|assumption
  ·have f1:(em=0)=False:=ff hm;rw[if_neg hm];refine⟨?hh1,?_,?_⟩;rotate_left
   ·simp only[OE,go_sem,g3,g4,g6,g24,g25,g26,k2,k3,k4,k2176,ho1,ho2,e1,e2,e6,hmul,f1];rfl
   ·rfl
def awe(d:Rd)(ts:List Rt):Option (List Rt):=if d.m.length=0 then some []else aiT d ts
theorem aAd{v v':Int}{d:Rd}(od:Ok0 d)(vdd:vd d=true){A:List Rt}(hA:∀t∈A,VT v t)(hn:A.length<=100000){o2:Ob}(c2:∀ids,aD ids o2=true)(s:ak)(h:ac)(X:Option (Ex×St))(hX:ai 0 [4,6] (ax (aj R (az false) OE) [3,4,6,24,25,26] [2,3,4,2176] s h)=X)
  (g3:s 3=.ref 3 none 0 0 0) (g4:s 4=.ref 4 none 0 0 0) (g6:s 6=.ref 2176 none 0 0 0) (g24:s 24=.sl 4 (aJ A)) (g25:s 25=I A.length) (g26:s 26=I 0) (k2:h 2=o2) (k3:h 3=.bx [B d.neg,lm d.m,I d.e]) (k4:h 4=.bx [I 0,.emp]) (k2176:h 2176=.bx [I v',.emp,I 0]):
  azj X 2176 (upd (upd (fun _=>.any) 6 (.ref 2176 none 0 0 0)) 4 (.ref 4 none 0 0 0)) v v' [] 0 (awe d A):=by
 subst hX;unfold awe;have hc:pJ .emp []:=.inr ⟨rfl,rfl⟩;by_cases nd:d.m.length=0
 ·rw[if_pos nd];have ho2:=c2 [2,3,4,2176];have e6:((d.m.length:Int)=0)=True:=tt;rw[ag];by_cases hA0:A.length=0
  ·have e1:((0:Int)< (A.length:Int))=False:=ff;refine⟨?hh0,.emp,[],0,?_,?_,?_,?_,.nil hc (.inl rfl)⟩;rotate_left
   ·simp only[OE,go_sem,g3,g4,g6,g24,g25,g26,k2,k3,k4,k2176,ho2,e1];rfl
   ·rfl
   ·rfl
   ·intro a a1 a2;simp only[cV,a2,if_false];rw[if_neg ω,if_neg ω,if_neg ω]
  ·have e1:((0:Int)< (A.length:Int))=True:=tt;have e2:aX (aJ A) 0=some (.ipt (bL A[0])):=fY (n:=0) rfl (List.getElem?_eq_getElem ω);generalize A[0]=t at e2;simp only[bL]at e2;refine⟨?hh1,.emp,[],0,?_,?_,?_,?_,.nil hc (.inl rfl)⟩;rotate_left
   ·simp only[OE,go_sem,g3,g4,g6,g24,g25,g26,k2,k3,k4,k2176,ho2,e1,e2,e6];rfl
   ·rfl
   ·rfl
   ·intro a a1 a2;simp only[cV,a2,if_false]
    repeat rw[if_neg ω]
 ·rw[if_neg nd];exact azB od vdd nd hA hn c2 A.length 0 (ayc _) .emp [] 0 hc (.inl rfl) (fun _=>⟨Cl.nil _,by show 0+_<=_;omega⟩) s h g3 g4 g6 g24 g25 g26 k2 k3 k4 k2176
theorem azk{a:Rp}{d:Rd}(oa:OkP a)(od:Ok0 d)(va:vp a=true)(vdd:vd d=true):ajd a d=tL a.vars ((awe d a.terms).bind (oE [])):=by
 unfold ajd awe;rw[if_pos ⟨va,vdd⟩];by_cases nd:d.m.length=0
 ·rw[if_pos nd,if_pos nd];rfl
 ·rw[if_neg nd,if_neg nd];exact azr oa od va vdd nd
theorem azs{a:Rp}{d:Rd}(oa:OkP a)(od:Ok0 d):R fcm [aT a,ae d] []=some (pV (ajd a d),[]):=by
 refine au amk rfl ?_;have v1:=vj oa;have v2:=eC od;simp only[aT,ae,ah]at v1 v2;have hne:¬ (vp a=true/\vd d=true)->ajd a d=(p0,1):=fun h=>by
  unfold ajd;rw[if_neg h]
 cases va:vp a with
 |false=>
  rw[va]at v1;rw[hne (by rw[va];simp)];simp only[Tm,Vw,aT,ae,ah,go_sem,v1];rfl
 |true=>
  rw[va]at v1;cases vdd:vd d with
  |false=>
   rw[vdd]at v2;rw[hne (by rw[vdd];simp)];simp only[Tm,Vw,aT,ae,ah,go_sem,v1,v2];rfl
  |true=>
   rw[vdd]at v2;obtain⟨ka,a0,a8,al⟩:=lE oa va;rw[azk oa od va vdd];have hemp:=Bp (v:=a.vars);have hl:=aAd (v:=a.vars) (v':=a.vars) od vdd ka.t ω (o2:=.bx [I a.vars,.sl 4 (aJ a.terms)]) (fun _=>rfl);simp only[Tm,Vw,aT,ae,ah,go_sem,v1,v2,hemp,pM];generalize hX:ai 0 _ _=X;have hM:=hl _ _ _ hX rfl rfl rfl rfl rfl rfl rfl rfl rfl rfl;cases hr:awe d a.terms with
   |none=>
    rw[hr]at hM;obtain⟨hh,rfl,q4⟩:=hM;simp only[Option.bind_none,tL,pV,p0,aT,go_sem,q4];rfl
   |some r=>
    rw[hr]at hM;obtain⟨hh,c',l',e',rfl,q4,qc,qd,qe⟩:=hM;obtain⟨o,hdn⟩:=Cj (d:=51) qc qe.c (by simp[cA,qd,bY]);have hd':=dy (br.1.2.1 false) rfl hdn;rw[qe.fin]at hd';rw[ayi];generalize tL a.vars (oE [] r)=z at hd'⊢;obtain⟨z1,z2⟩:=z;simp only[pV,aT]at hd';simp only[pV,aT,go_sem,q4,hd']
structure Bf (v:Int) (l A:List Rt):Prop where
 cl:Cl v l
 lt:∀q∈l,∀t∈A,bU q.exps t.exps<0
theorem Bf.nil{v:Int}(A:List Rt):Bf v [] A:=⟨Cl.nil _,fun q h=>by grind⟩
theorem Bf.drop{v:Int}{l A:List Rt}{t:Rt}(h:Bf v l (t::A)):Bf v l A:=⟨h.cl,fun q hq x hx=>h.lt q hq x γ⟩
theorem Cl.tail{v:Int}{l:List Rt}{t:Rt}(h:Cl v (t::l)):Cl v l:=⟨fun q hq=>h.t q γ,(List.pairwise_cons.1 h.s).2⟩
theorem Cl.head{v:Int}{l:List Rt}{t:Rt}(h:Cl v (t::l)):VT v t:=h.t t σ
theorem Bf.push{v:Int}{l A:List Rt}{t:Rt}{d:Rd}(h:Bf v l (t::A))(hA:Cl v (t::A))(vt:VT v ⟨t.exps,d⟩):Bf v (l++[⟨t.exps,d⟩]) A:=by
 refine⟨⟨fun q hq=>?_,?_⟩,fun q hq x hx=>?_⟩
 ·rcases List.mem_append.1 hq with h1|h1
  ·exact h.cl.t q h1
  grind
 ·rw[List.pairwise_append];refine⟨h.cl.s,List.pairwise_singleton _ _,fun q hq x hx=>?_⟩;rw[List.mem_singleton.1 hx];exact h.lt q hq t σ
 ·rcases List.mem_append.1 hq with h1|h1
  ·exact h.lt q h1 x γ
  ·rw[List.mem_singleton.1 h1];exact(List.pairwise_cons.1 hA.s).1 x hx
theorem Cl.dropN{v:Int}:∀ {l:List Rt} (i:Nat),Cl v l->Cl v (l.drop i)
 |l,0,h=>h
 |[],_+1,h=>h
 |_::l,i+1,h=>Cl.dropN i h.tail
theorem ER{v v':Int}{l A:List Rt}{t:Rt}{d:Rd}{c:AV}(h:Bf v l (t::A))(vt:VT v ⟨t.exps,d⟩)(hl:l.length<=1000000)(hc:pJ c l):
  ∃c1,R fcs [.ref 1000 none 0 0 0,.sl 1 (aO t.exps),ae d] [t3 v' c 0]=some (.tup [],[t3 v' c1 0])/\pJ c1 (l++[⟨t.exps,d⟩]):=by
 obtain⟨c1,l1,e1,g1,g2,g3⟩:=Q8 (v':=v') h.cl vt hl hc;have he:wZ l ⟨t.exps,d⟩=some (l++[⟨t.exps,d⟩]):=WZ fun q hq=>h.lt q hq t σ;grind
def ST(o:Int)(t:Rt):Bool:=decide (bj t.exps<=o)
def PA(o:Int)(t:Rt):Bool:=!decide (bj t.exps<=o)
def cR(a:Rp)(o:Int):Rp×Rp:=if vp a=true then(⟨a.vars,a.terms.filter (ST o)⟩,⟨a.vars,a.terms.filter (PA o)⟩)else(p0,p0)
def ES(blk:Option (Ex×St))(i1 i2:Nat)(S:ak)(v':Int)(l1 l2 r1 r2:List Rt):Prop:=
 ∃hh c1 c2,blk=some (.normal,⟨S,hh⟩)/\hh 4=.bx [I 0,.emp]/\hh 5=.bx [I 0,.emp]/\hh i1=t3 v' c1 0/\hh i2=t3 v' c2 0/\pJ c1 (l1++r1)/\pJ c2 (l2++r2)
theorem ES.p1{blk:Option (Ex×St)}{i1 i2:Nat}{S:ak}{v':Int}{l1 l2 r1 r2:List Rt}{t:Rt}(h:ES blk i1 i2 S v' (l1++[t]) l2 r1 r2):ES blk i1 i2 S v' l1 l2 (t::r1) r2:=by
 obtain⟨hh,c1,c2,h1,h2,h3,h4,h5,h6,h7⟩:=h;exact⟨hh,c1,c2,h1,h2,h3,h4,h5,by rwa[List.append_cons],h7⟩
theorem ES.p2{blk:Option (Ex×St)}{i1 i2:Nat}{S:ak}{v':Int}{l1 l2 r1 r2:List Rt}{t:Rt}(h:ES blk i1 i2 S v' l1 (l2++[t]) r1 r2):ES blk i1 i2 S v' l1 l2 r1 (t::r2):=by
 obtain⟨hh,c1,c2,h1,h2,h3,h4,h5,h6,h7⟩:=h;exact⟨hh,c1,c2,h1,h2,h3,h4,h5,h6,by rwa[List.append_cons]⟩
theorem aii{v v' o:Int}{A:List Rt}(hA:Cl v A)(hn:A.length<=100000){o2:Ob}(k2c:∀ids,aD ids o2=true):
  ∀ (k i:Nat),i+k=A.length->∀ (c1 c2:AV) (l1 l2:List Rt),pJ c1 l1->pJ c2 l2->Bf v l1 (A.drop i)->Bf v l2 (A.drop i)->l1.length+k<=1000000->l2.length+k<=1000000->∀ (s:ak) (h:ac),s 1=I o->s 4=.ref 4 none 0 0 0->s 5=.ref 5 none 0 0 0->s 6=.ref 2136 none 0 0 0->s 7=.ref 2160 none 0 0 0->s 22=.sl 4 (aJ A)->s 23=I A.length->s 24=I i->h 2=o2->h 4=.bx [I 0,.emp]->h 5=.bx [I 0,.emp]->h 2136=t3 v' c1 0->h 2160=t3 v' c2 0->
  ES (ai 0 [4,5,6,7] (ax (aj R (az false) lv) [1,4,5,6,7,22,23,24] [2,4,5,2136,2160] s h)) 2136 2160 (upd (upd (upd (upd (fun _=>.any) 7 (.ref 2160 none 0 0 0)) 6 (.ref 2136 none 0 0 0)) 5 (.ref 5 none 0 0 0)) 4 (.ref 4 none 0 0 0)) v' l1 l2 ((A.drop i).filter (ST o)) ((A.drop i).filter (PA o)):=by
 intro k;induction k with
 |zero=>
  intro i hi c1 c2 l1 l2 hc1 hc2 _ _ _ _ s h g1 g4 g5 g6 g7 g22 g23 g24 k2 k4 k5 k2136 k2160;have e1:((i:Int)< (A.length:Int))=False:=ff;have ho1:=(kP (v:=v') (e:=0) hc1).cl [2,4,5,2136,2160];have ho2:=(kP (v:=v') (e:=0) hc2).cl [2,4,5,2136,2160];have ho3:=k2c [2,4,5,2136,2160];rw[ayw ω,ag];refine⟨?hh0,c1,c2,?_,?_,?_,?_,?_,by grind,by grind⟩;rotate_left
  ·simp only[lv,go_sem,g1,g4,g5,g6,g7,g22,g23,g24,k2,k4,k5,k2136,k2160,ho1,ho2,ho3,e1];rfl
  ·rfl
  ·rfl
  ·rfl
  ·rfl
 |succ k ih=>
  intro i hi c1 c2 l1 l2 hc1 hc2 b1 b2 hl1 hl2 s h g1 g4 g5 g6 g7 g22 g23 g24 k2 k4 k5 k2136 k2160;have hlt:i<A.length:=ω
  have e1:((i:Int)< (A.length:Int))=True:=tt;have e2:aX (aJ A) (i:Int)=some (.ipt (bL A[i])):=fY rfl (List.getElem?_eq_getElem hlt);have e5:IntKind.i64.wrap ((i:Int)+1)=((i+1:Nat):Int):=wi;have ho1:=(kP (v:=v') (e:=0) hc1).cl [2,4,5,2136,2160];have ho2:=(kP (v:=v') (e:=0) hc2).cl [2,4,5,2136,2160];have ho3:=k2c [2,4,5,2136,2160];have hAd:=hA.dropN i;rw[ayv hlt]at b1 b2 hAd⊢;have ih':=ih (i+1) ω;have vt:=hAd.head;generalize A[i]=t at e2 vt b1 b2 hAd⊢;have hdeg:=yJ vt.sm;rw[ag];generalize ax _ _ _=L at ih'⊢;simp only[bL]at e2;by_cases hd:bj t.exps<=o
  ·have e3:(bj t.exps<=o)=True:=eq_true hd;have f1:(ST o t)=true:=decide_eq_true hd;have f2:¬ (PA o t)=true:=by simp_all[PA,decide_eq_true,ayl]
   rw[List.filter_cons_of_pos f1,List.filter_cons_of_neg f2];obtain⟨c3,s1,s2⟩:=ER (v':=v') b1 vt ω hc1;have hcall:=fun(h:ac) (hh:h 2136=t3 v' c1 0) (d:Nat)=>dy (aS.1.2.1 false) rfl (pK (d:=d) hh hc1 s2 s1);have ih2:=ih' c3 c2 _ l2 s2 hc2 (b1.push hAd vt) b2.drop γ ω;refine ES.p1 ?_;simp only[ae,ah]at hcall;simp only[lv,go_sem,g1,g4,g5,g6,g7,g22,g23,g24,k2,k4,k5,k2136,k2160,ho1,ho2,ho3,e1,e2,hdeg,e3];rw[hcall _ rfl];simp only[go_sem,e5];refine ih2 _ _ ?_ ?_ ?_ ?_ ?_ ?_ ?_ ?_ ?_ ?_ ?_ ?_ ?_
   all_goals first|rfl|assumption
  ·have e3:(bj t.exps<=o)=False:=eq_false hd;have f1:¬ (ST o t)=true:=by simp_all[ST,decide_eq_false,ayl]
   have f2:(PA o t)=true:=by grind[PA,decide_eq_false]
   rw[List.filter_cons_of_neg f1,List.filter_cons_of_pos f2];obtain⟨c3,s1,s2⟩:=ER (v':=v') b2 vt ω hc2;have hcall:=fun(h:ac) (hh:h 2160=t3 v' c2 0) (d:Nat)=>dy (aS.1.2.1 false) rfl (pK (d:=d) hh hc2 s2 s1);have ih2:=ih' c1 c3 l1 _ hc1 s2 b1.drop (b2.push hAd vt) ω γ;refine ES.p2 ?_;simp only[ae,ah]at hcall;simp only[lv,go_sem,g1,g4,g5,g6,g7,g22,g23,g24,k2,k4,k5,k2136,k2160,ho1,ho2,ho3,e1,e2,hdeg,e3];rw[hcall _ rfl];simp only[go_sem,e5];refine ih2 _ _ ?_ ?_ ?_ ?_ ?_ ?_ ?_ ?_ ?_ ?_ ?_ ?_ ?_
   all_goals first|rfl|assumption
theorem apK{v v' o:Int}{A:List Rt}(hA:Cl v A)(hn:A.length<=100000){o2:Ob}(k2c:∀ids,aD ids o2=true)(s:ak)(h:ac)(X:Option (Ex×St))(hX:ai 0 [4,5,6,7] (ax (aj R (az false) lv) [1,4,5,6,7,22,23,24] [2,4,5,2136,2160] s h)=X)
  (g1:s 1=I o) (g4:s 4=.ref 4 none 0 0 0) (g5:s 5=.ref 5 none 0 0 0) (g6:s 6=.ref 2136 none 0 0 0) (g7:s 7=.ref 2160 none 0 0 0) (g22:s 22=.sl 4 (aJ A)) (g23:s 23=I A.length) (g24:s 24=I 0) (k2:h 2=o2) (k4:h 4=.bx [I 0,.emp]) (k5:h 5=.bx [I 0,.emp]) (k2136:h 2136=t3 v' .emp 0) (k2160:h 2160=t3 v' .emp 0):
  ES X 2136 2160 (upd (upd (upd (upd (fun _=>.any) 7 (.ref 2160 none 0 0 0)) 6 (.ref 2136 none 0 0 0)) 5 (.ref 5 none 0 0 0)) 4 (.ref 4 none 0 0 0)) v' [] [] (A.filter (ST o)) (A.filter (PA o)):=by
 subst hX;exact aii hA hn k2c A.length 0 (ayc _) .emp .emp [] [] (.inr ⟨rfl,rfl⟩) (.inr ⟨rfl,rfl⟩) (Bf.nil _) (Bf.nil _) γ γ s h g1 g4 g5 g6 g7 g22 g23 g24 k2 k4 k5 k2136 k2160
def aij(id:Nat)(s:ak)(h:ac):Ob->Option (ak×ac×K)
 | .bx cs=>some (ke [(id,true)] s,upd h id (.bx (cs.map lH)),[(id,true)])
 |_=>none
theorem vz(i id x y z:Nat)(s:ak)(h:ac):PZ i s h (.ref id none x y z)=aij id s h (h id):=by
 grind[PZ,aij]
theorem yT(id:Nat)(s:ak)(h:ac)(cs:List AV):aij id s h (.bx cs)=some (ke [(id,true)] s,upd h id (.bx (cs.map lH)),[(id,true)]):=rfl
def Xv(r:Rp×Rp):AV:=.tup [aT r.1,aT r.2]
theorem SU{a:Rp}{o:Int}(oa:OkP a):R fcn [aT a,I o] []=some (Xv (cR a o),[]):=by
 refine au VY rfl ?_;have v1:=vj oa;simp only[aT]at v1;unfold cR;cases va:vp a with
 |false=>
  rw[va]at v1;simp only[xI,DX,aT,go_sem,v1];rfl
 |true=>
  rw[va]at v1;obtain⟨ka,a0,a8,al⟩:=lE oa va;have hemp:=Bp (v:=a.vars);have hl:=apK (v:=a.vars) (v':=a.vars) (o:=o) ka ω (o2:=.bx [I a.vars,.sl 4 (aJ a.terms)]) (fun _=>rfl);simp only[xI,DX,aT,go_sem,v1,hemp,pM];generalize hX:ai 0 _ _=X;have hM:=hl _ _ _ hX rfl rfl rfl rfl rfl rfl rfl rfl rfl rfl rfl rfl rfl;obtain⟨hh,c1,c2,rfl,q4,q5,q1,q2,i1,i2⟩:=hM;generalize a.terms.filter (ST o)=r1 at i1⊢;generalize a.terms.filter (PA o)=r2 at i2⊢;rcases i1 with rfl| ⟨rfl,rfl⟩
  ·rcases i2 with rfl| ⟨rfl,rfl⟩
   ·simp only[t3]at q1 q2;simp only[Xv,aT,go_sem,ayG,ayQ,q4,q5,q1,q2,vz,yT,ays,ayu,Am,yr]
   ·simp only[t3]at q1 q2;simp only[Xv,aT,go_sem,ayG,ayQ,q4,q5,q1,q2,vz,yT,ays,ayu,Am,yr,Bq];rfl
  ·rcases i2 with rfl| ⟨rfl,rfl⟩
   ·simp only[t3]at q1 q2;simp only[Xv,aT,go_sem,ayG,ayQ,q4,q5,q1,q2,vz,yT,ays,ayu,Am,yr,Bq];rfl
   ·simp only[t3]at q1 q2;simp only[Xv,aT,go_sem,ayG,ayQ,q4,q5,q1,q2,vz,yT,ays,ayu,Am,Bq];rfl
def bC(ds:List Int)(cs:List Ri)(p:Int):Ob:=.bx [.osl 1 (aO ds),.osl 7 (bQ cs),I p]
def NR:List Int->Int->Int
 |[],n=>n
 |d::l,n=>NR l (n*(d+1))
theorem ru(a b:AV)(k:Nat)(r:List (List AV)):kf 0 (.bx [.osl k r,a,b])=some (k,r):=rfl
theorem yU(h:ac)(n:Nat)(g:Bool)(i j:Nat)(r:List (List AV)):oS h n g 1 i j (some (1,r))=(r[i]?).bind fun row=>(kH n g row j).map fun a=>(a,h,[]):=rfl
theorem aik{ds:List Int}{cs:List Ri}{p:Int}{m:Nat}(hm:m<=ds.length)(h8:m<=1000)(hb:∀d∈ds,0<=d/\d<=32):
  ∀ (k i:Nat),i+k=m->∀ (n:Int),0<=n->n*33^k<=10000000000000->∀ (s:ak) (h:ac),s 5=I n->s 13=.rsl 1000 (some 0) 1 0 m->s 14=I m->s 15=I i->h 1000=bC ds cs p->
  ∃hh,ai 0 [5] (ax (aj R (az true) jz) [5,13,14,15] [1000] s h)=some (.normal,⟨upd (fun _=>.any) 5 (I (NR ((ds.take m).drop i) n)),hh⟩)/\hh 1000=bC ds cs p:=by
 intro k;induction k with
 |zero=>
  intro i hi n h0 hn s h g5 g13 g14 g15 k1000;have e1:((i:Int)< (m:Int))=False:=ff;rw[ayw γ,ag];refine⟨?hh0,?_,?_⟩;rotate_left
  ·simp only[jz,bC,go_sem,g5,g13,g14,g15,k1000,e1];rfl
  ·rfl
 |succ k ih=>
  intro i hi n h0 hn s h g5 g13 g14 g15 k1000;have hlt2:i< (ds.take m).length:=γ
  have e1:((i:Int)< (m:Int))=True:=tt;have e2:(aO ds)[i]?=some [I (ds.take m)[i]]:=by
   unfold aO;rw[List.getElem?_map,List.getElem_take,List.getElem?_eq_getElem ω];rfl
  have e5:IntKind.i64.wrap ((i:Int)+1)=((i+1:Nat):Int):=wi;rw[ayv hlt2];have hd:=hb (ds.take m)[i] (List.mem_of_mem_take (ayC hlt2));generalize(ds.take m)[i]=d at e2 hd⊢;have e6:(0<=(i:Int))=True:=tt;have e3:IntKind.i64.wrap (d+1)=d+1:=i64_in _ ⟨by omega,by omega⟩;have hn2:n*(d+1)*33^k<=n*33^ (k+1):=by
   rw[Int.pow_succ,Int.mul_comm _ 33,←Int.mul_assoc];exact Int.mul_le_mul_of_nonneg_right (Int.mul_le_mul_of_nonneg_left ω h0) (Int.pow_nonneg δ)
  have hp1:(1:Int)<=33^k:=by
   have:=Int.pow_pos (n:=33) (m:=k) δ;omega
  have hn0:0<=n*(d+1):=Int.mul_nonneg h0 ω;have hn3:n*(d+1)<=10000000000000:=by
   have:=Int.mul_le_mul_of_nonneg_left hp1 hn0;omega
  have e4:IntKind.i64.wrap (n*(d+1))=n*(d+1):=i64_in _ ⟨by omega,by omega⟩;have ih':=ih (i+1) ω (n*(d+1)) hn0 ω;rw[ag];simp only[bC]at k1000;simp only[jz,go_sem,g5,g13,g14,g15,k1000,e1,e2,e3,e4,e5,e6,ayk,ayc,ru,yU];exact ih' _ _ rfl rfl rfl rfl rfl
theorem apL{ds:List Int}{cs:List Ri}{p:Int}{m:Nat}(hm:m<=ds.length)(h8:m<=8)(hb:∀d∈ds,0<=d/\d<=32)(s:ak)(h:ac)(X:Option (Ex×St))(hX:ai 0 [5] (ax (aj R (az true) jz) [5,13,14,15] [1000] s h)=X)(g5:s 5=I 1)(g13:s 13=.rsl 1000 (some 0) 1 0 m)(g14:s 14=I m)(g15:s 15=I 0)(k1000:h 1000=bC ds cs p):
  ∃hh,X=some (.normal,⟨upd (fun _=>.any) 5 (I (NR (ds.take m) 1)),hh⟩)/\hh 1000=bC ds cs p:=by
 subst hX;exact aik hm ω hb m 0 (ayc _) 1 δ (by
  have:(33:Int)^m<=33^8:=by
   have h1:33^m<=33^8:=ayP δ h8;grind
  omega) s h g5 g13 g14 g15 k1000
theorem Bs(ds:List Int):(aO ds).length=ds.length:=by simp[aO]
theorem akI{ds:List Int}{cs:List Ri}{p:Int}{m:Nat}(hm:m<=ds.length)(h8:m<=8)(hb:∀d∈ds,0<=d/\d<=32):R fax [.ref 1000 none 0 0 0,I m] [bC ds cs p]=some (I (NR (ds.take m) 1),[bC ds cs p]):=by
 refine EK LV LU (Ag false) rfl ?_;have hl:=apL (ds:=ds) (cs:=cs) (p:=p) hm h8 hb;have e1:eA 1 (.rsl 1000 (some 0) 1 0 ds.length) none (some (I (m:Int))) none=some (.rsl 1000 (some 0) 1 0 m):=by
  grind[eA,j8,jW]
 simp only[uP,CX,go_sem,bC,Bs,e1];generalize hX:ai 0 [5] _=X;obtain⟨hh,rfl,q⟩:=hl _ _ _ hX rfl rfl rfl rfl rfl;exact sj rfl q rfl (by rfl) (by rfl)
def G8(c1 c2:iG):Prop:=∀f a hs r,c1 f a hs=some r->c2 f a hs=some r
section
variable {c1 c2:iG} {md:Mode}
theorem Za(hc:G8 c1 c2){h:ac}{d:Nat}{zas:List AV}{f:AV}{r:R3}(hz:dW c1 md h d zas f=some r):dW c2 md h d zas f=some r:=by
 cases f<;>simp only[dW]at hz⊢ <;>try (cases hz;done)
 simp only[ayb]at hz⊢;obtain⟨p,e1,e2⟩:=hz;unfold jV at e2⊢;split at e2
 ·rename_i hcc;simp only[ayb]at e2;obtain⟨q,e3,e4⟩:=e2;refine⟨p,e1,?_⟩;rw[if_pos hcc];simp only[ayb];exact⟨q,hc _ _ _ _ e3,e4⟩
 ·cases e2
theorem PB(hc:G8 c1 c2){h:ac}{d:Nat}{zas:List AV}{f:AV}{r:R3}(hz:bF c1 md h d zas f=some r):bF c2 md h d zas f=some r:=by
 unfold bF at hz⊢;split at hz
 ·rename_i hb;rw[if_pos hb];cases f<;>simp only[N4]at hz⊢ <;>try (cases hz;done)
  simp only[ayb]at hz⊢;obtain⟨p,e1,q,e3,e4⟩:=hz;exact⟨p,e1,q,hc _ _ _ _ e3,e4⟩
 ·rename_i hb;rw[if_neg hb];exact Za hc hz
theorem SV(hc:G8 c1 c2){d:Nat}{op:AOp}{s:ak}{h:ac}{r:R3}(hz:step c1 md d op s h=some r):step c2 md d op s h=some r:=by
 cases op with
 |call f zas=>exact PB hc hz
 |callC f zas=>
  simp only[step,ayb]at hz⊢;obtain⟨q,e1,e2⟩:=hz;exact⟨q,PB hc e1,e2⟩
 |_=>exact hz
theorem SW(hc:G8 c1 c2){d:Option Nat}{op:AOp}{s:ak}{h:ac}{t:St}(hz:dA md.nm s d (step c1 md (d.getD 0) op s h)=some t):dA md.nm s d (step c2 md (d.getD 0) op s h)=some t:=by
 cases hs:step c1 md (d.getD 0) op s h with
 |none=>rw[hs]at hz;cases hz
 |some r=>
  rw[hs]at hz;rw[SV hc hs];exact hz
theorem ac4(hc:G8 c1 c2){o:COp}{s:ak}{h:ac}{t:St}(hz:mj c1 md o s h=some t):mj c2 md o s h=some t:=by
 unfold mj at hz⊢;cases hg:o.g with
 |none=>rw[hg]at hz;exact SW hc hz
 |some g=>
  rw[hg]at hz;simp only at hz⊢;unfold lj at hz⊢;split at hz
  ·split at hz
   ·rename_i hb;simp only[if_pos hb];exact SW hc hz
   ·rename_i hb;simp only[if_neg hb];exact hz
  ·exact hz
  ·cases hz
theorem ET(hc:G8 c1 c2):∀ {l:List COp} {s:ak} {h:ac} {t:St},aG c1 md l s h=some t->aG c2 md l s h=some t
 |[],s,h,t,hz=>hz
 |o::l,s,h,t,hz=>by
  simp only[aG,bq]at hz;split at hz
  ·cases hz
  ·rename_i t1 ht1;simp only[aG,bq,ac4 hc ht1,ET hc hz]
theorem PC(hc:G8 c1 c2){d:Option Nat}{op:AOp}{s:ak}{h:ac}{f:ac->Fp}{t:St×Fp}(hz:nV s d f (step c1 md (d.getD 0) op s h)=some t):nV s d f (step c2 md (d.getD 0) op s h)=some t:=by
 cases hs:step c1 md (d.getD 0) op s h with
 |none=>rw[hs]at hz;cases hz
 |some r=>
  rw[hs]at hz;rw[SV hc hs];exact hz
theorem ac5(hc:G8 c1 c2){o:COp}{s:ak}{h:ac}{t:St×Fp}(hz:eL c1 md o s h=some t):eL c2 md o s h=some t:=by
 unfold eL at hz⊢;cases hg:o.g with
 |none=>rw[hg]at hz;exact PC hc hz
 |some g=>
  rw[hg]at hz;simp only at hz⊢;unfold rD at hz⊢;split at hz
  ·split at hz
   ·rename_i hb;simp only[if_pos hb];exact PC hc hz
   ·rename_i hb;simp only[if_neg hb];exact hz
  ·exact hz
  ·cases hz
theorem Kz(hc:G8 c1 c2):∀ {l:List COp} {s:ak} {h:ac} {t:St×List Fp},io c1 md l s h=some t->io c2 md l s h=some t
 |[],s,h,t,hz=>hz
 |o::l,s,h,t,hz=>by
  simp only[io,ayb]at hz;obtain⟨r,e1,q,e2,e3⟩:=hz;simp only[io,ac5 hc e1,Kz hc e2,ayi,e3]
theorem ac6(hc:G8 c1 c2){l:List COp}{ps:List (Nat×Nat)}{s:ak}{h:ac}{t:St}(hz:rF c1 md l ps s h=some t):rF c2 md l ps s h=some t:=by
 unfold rF at hz⊢;cases hb:BA ps with
 |none=>
  rw[hb]at hz;simp only[BS,ayb]at hz;obtain⟨q,e1,e2⟩:=hz;simp only[BS,Kz hc e1,ayi,e2]
 |some b=>
  rw[hb]at hz;simp only[Hi,ayb]at hz;obtain⟨q,e1,e2⟩:=hz;split at e2
  ·rename_i hps;simp only[bq]at e2;split at e2
   ·cases e2
   ·rename_i t1 ht1;simp only[Hi,Kz hc e1,ayi,if_pos hps,ht1,bq,ET hc e2]
  ·cases e2
theorem SX{b1 b2:ak->ac->Option (Ex×St)}{ks hs:List Nat}(ih:∀ {s:ak} {h:ac} {r:Ex×St},b1 s h=some r->b2 s h=some r):
  ∀ (m:Nat) {j:Nat},m<=j->∀ {s:ak} {h:ac} {r:Ex×St},tF b1 ks hs m s h=some r->tF b2 ks hs j s h=some r
 |0,j,hj,s,h,r,hz=>by simp[tF]at hz
 |m+1,j,hj,s,h,r,hz=>by
  obtain⟨j,rfl⟩:∃j',j=j'+1:=⟨j-1,by omega⟩;simp only[tF]at hz⊢;split at hz
  ·rename_i hc;rw[if_pos hc];cases hb:b1 (mk .any (fun i=>gD hs (s i)) ks) (mk .dead h hs)with
   |none=>rw[hb]at hz;cases hz
   |some q=>
    rw[hb]at hz;rw[ih hb];obtain⟨ex,t⟩:=q;cases ex with
    |normal=>exact SX ih m ω hz
    |exit id=>exact hz
    |ret=>exact hz
  ·cases hz
theorem jS(hc:G8 c1 c2){lf lf':Nat}(hl:lf<=lf'):∀ (c:Cmd) {s:ak} {h:ac} {r:Ex×St},cX c1 md lf c s h=some r->cX c2 md lf' c s h=some r
 | .skip,s,h,r,hz=>hz
 | .ops ks l,s,h,r,hz=>by
  simp only[cX,bq]at hz;split at hz
  ·cases hz
  ·rename_i t1 ht1;simp only[cX,ET hc ht1,bq];exact hz
 | .dops ks l ps,s,h,r,hz=>by
  simp only[cX,bq]at hz;split at hz
  ·cases hz
  ·rename_i t1 ht1;simp only[cX,ac6 hc ht1,bq];exact hz
 | .seq a b,s,h,r,hz=>by
  simp only[cX,cu]at hz;split at hz
  ·cases hz
  ·rename_i t1 ht1;simp only[cX,cu,jS hc hl a ht1,jS hc hl b hz]
  ·rename_i i t1 ht1;simp only[cX,cu,jS hc hl a ht1];exact hz
  ·rename_i t1 ht1;simp only[cX,cu,jS hc hl a ht1];exact hz
 | .cond c a b,s,h,r,hz=>by
  simp only[cX,xB]at hz;split at hz
  ·rename_i t ht;cases t with
   |true=>simp only[cX,xB,ht,if_true];exact jS hc hl a hz
   |false=>simp only[cX,xB,ht,aza,if_false];exact jS hc hl b hz
  ·cases hz
 | .block id ks a,s,h,r,hz=>by
  simp only[cX,ai]at hz;split at hz
  ·cases hz
  ·rename_i t1 ht1;simp only[cX,ai,jS hc hl a ht1];exact hz
  ·rename_i i t1 ht1;simp only[cX,ai,jS hc hl a ht1];exact hz
  ·rename_i t1 ht1;simp only[cX,ai,jS hc hl a ht1];exact hz
 | .loop ks hs a,s,h,r,hz=>by
  simp only[cX]at hz⊢;exact SX (fun hh=>jS hc hl a hh) lf hl hz
 | .exit id,s,h,r,hz=>hz
 | .ret,s,h,r,hz=>hz
 | .frz is a,s,h,r,hz=>by
  simp only[cX,bq]at hz;split at hz
  ·cases hz
  ·rename_i t1 ht1;simp only[cX,bq,ht1];exact jS hc hl a hz
end
theorem SY(e:Env):∀ (n:Nat),G8 (fk e n) (fk e (n+1))
 |0,f,a,hs,r,hz=>by cases hz
 |n+1,f,a,hs,r,hz=>by
  cases hE:e.E f with
  |some g=>
   simp only[fk,hE]at hz⊢;exact hz
  |none=>
   cases hC:e.C f with
   |none=>
    simp only[fk,hE,hC,Option.bind_none]at hz;cases hz
   |some fd=>
    have h1:FU (fk e n) {e.md with nm:=e.md.keep f} n fd a hs=some r:=by
     simpa only[fk,hE,hC,ayi]using hz
    have h2:FU (fk e (n+1)) {e.md with nm:=e.md.keep f} (n+1) fd a hs=some r:=by
     unfold FU at h1⊢;split at h1
     ·rename_i hcc;rw[if_pos hcc];cases hx:cX (fk e n) {e.md with nm:=e.md.keep f} n fd.body (uw a) (aq hs)with
      |none=>rw[hx]at h1;cases h1
      |some q=>
       rw[hx]at h1;rw[jS (SY e n) (Nat.le_succ n) fd.body hx];exact h1
     ·cases h1
    show fk e (n+1+1) f a hs=some r;show(match e.E f with
     |some g=>g a hs
     |none=>(e.C f).bind fun fd=>FU (fk e (n+1)) {e.md with nm:=e.md.keep f} (n+1) fd a hs)=some r
    rw[hE];show(e.C f).bind (fun fd=>FU (fk e (n+1)) {e.md with nm:=e.md.keep f} (n+1) fd a hs)=some r;rw[hC];exact h2
theorem akJ(e:Env){n k:Nat}(h:n<=k):G8 (fk e n) (fk e k):=by
 induction h with
 |refl=>exact fun f a hs r hz=>hz
 |step _ ih=>exact fun f a hs r hz=>SY e _ f a hs r (ih f a hs r hz)
theorem Rq{e:Env}{n:Nat}{f:FuncId}{a:List AV}{hs:List Ob}{r:AV×List Ob}(h:fk e n f a hs=some r):kj e f a hs=some r:=by
 unfold kj;rw[pR];exact⟨n,fun k hk=>akJ e hk f a hs r h⟩
theorem ank:Option.any bt (some AV.emp)=false:=rfl
def lF(v:Nat):List Int:=aya v 0
theorem anl{h:ac}{id id2 k n:Nat}{rows:List (List AV)}{a:AV}{z:Int}(h1:h id2=.ar k rows)(hn:n=rows.length)(h2:h id=.bx [.any,.any,.any])(hne:id≠id2):
  MP id 0 [.rsl id2 none k 0 n,.emp,I z] (a,h,[])=some (a,upd (upd (upd (upd h id2 .dead) id (.bx [.osl k rows,.any,.any])) id (.bx [.osl k rows,.emp,.any])) id (.bx [.osl k rows,.emp,I z]),[(id2,false)]):=by
 have h3:upd h id2 .dead id=.bx [.any,.any,.any]:=by
  simp_all[upd,if_neg]
 have e1:∀ (g:ac) o,upd g id o id=o:=fun g o=>by simp_all[upd,if_pos]
 have k1:∀K,tN K .emp=.emp:=fun K=>rfl;have k2:∀K,tN K (I z)=I z:=fun K=>rfl
 simp_all[bt,aE,I,MP,sq,Iu,RN,MO,C1]
def Dl:List Int->Int->Option Int
 |[],n=>some n
 |d::l,n=>if 400<n*(d+1)then none else Dl l (n*(d+1))
def Gr2(blk:Option (Ex×St))(o2 g:Ob):Option Int->Prop
 |some n=>∃hh,blk=some (.normal,⟨upd (upd (upd (fun _=>.any) 11 (I n)) 6 (.ref 24 none 0 0 0)) 2 (.ref 2 none 0 0 0),hh⟩)/\hh 2=o2/\hh 24=g/\(∀a,a≠2->a≠24->hh a=.dead)
 |none=>∃hh,blk=some (.ret,⟨upd (upd (fun _=>.any) 5 (B false)) 4 (.v (.pointer none)),hh⟩)
theorem ail{ds:List Int}{p:Int}{m:Nat}(hm:m=ds.length)(h8:m<=1000)(hb:∀d∈ds,0<=d/\d<=32){o2:Ob}(c2:∀l,aD l o2=true):
  ∀ (k i:Nat),i+k=m->∀ (n:Int),0<=n->n<=400->∀ (s:ak) (h:ac),s 2=.ref 2 none 0 0 0->s 6=.ref 24 none 0 0 0->s 11=I n->s 60=.rsl 24 (some 0) 1 0 m->s 61=I m->s 62=I i->h 2=o2->h 21=.dead->h 24=.bx [.osl 1 (aO ds),.emp,I p]->h 2624=.dead->
  Gr2 (ai 4 [2,6,11] (ax (aj R (az false) gU) [2,6,11,60,61,62] [2,21,24,2624] s h)) o2 (.bx [.osl 1 (aO ds),.emp,I p]) (Dl (ds.drop i) n):=by
 intro k;induction k with
 |zero=>
  intro i hi n h0 hn s h g2 g6 g11 g60 g61 g62 k2 k21 k24 k2624;have e1:((i:Int)< (m:Int))=False:=ff;have hc:=c2 [2,21,24,2624];rw[ayw ω,ag];refine⟨?hh0,?_,?_,?_,?_⟩;rotate_left
  ·simp only[gU,go_sem,g2,g6,g11,g60,g61,g62,k2,k21,k24,k2624,hc,e1];rfl
  all_goals simp_all[cV,if_false,ite_self]
 |succ k ih=>
  intro i hi n h0 hn s h g2 g6 g11 g60 g61 g62 k2 k21 k24 k2624;have hlt:i<ds.length:=ω
  have e1:((i:Int)< (m:Int))=True:=tt;have e2:(aO ds)[i]?=some [I ds[i]]:=by
   grind[aO]
  have e5:IntKind.i64.wrap ((i:Int)+1)=((i+1:Nat):Int):=wi;have hc:=c2 [2,21,24,2624];rw[ayv hlt];have hd:=hb ds[i] (ayC hlt);generalize ds[i]=d at e2 hd⊢;have e6:(0<=(i:Int))=True:=tt;have e3:IntKind.i64.wrap (d+1)=d+1:=i64_in _ ⟨by omega,by omega⟩;have hn0:0<=n*(d+1):=Int.mul_nonneg h0 ω;have hn3:n*(d+1)<=400*33:=Int.mul_le_mul hn ω ω δ;have e4:IntKind.i64.wrap (n*(d+1))=n*(d+1):=i64_in _ ⟨by omega,by omega⟩;have ih':=ih (i+1) ω (n*(d+1)) hn0;have hrow:Dl (d::ds.drop (i+1)) n=if 400<n*(d+1)then none else Dl (ds.drop (i+1)) (n*(d+1)):=rfl
  rw[hrow,ag];by_cases hq:400<n*(d+1)
  ·have e7:(400<n*(d+1))=True:=eq_true hq;rw[if_pos hq];refine⟨?hh1,?_⟩;rotate_left
   ·simp only[gU,go_sem,g2,g6,g11,g60,g61,g62,k2,k21,k24,k2624,hc,e1,e2,e3,e4,e6,e7,ayk,ayc,ru,yU];rfl
  ·have e7:(400<n*(d+1))=False:=eq_false hq;simp only[gU,go_sem,g2,g6,g11,g60,g61,g62,k2,k21,k24,k2624,hc,e1,e2,e3,e4,e5,e6,e7,ayk,ayc,ru,yU];refine ih' ω _ _ ?_ ?_ ?_ ?_ ?_ ?_ ?_ ?_ ?_ ?_
   all_goals first|rfl|assumption
theorem apM{ds:List Int}{p:Int}{m:Nat}(hm:m=ds.length)(h8:m<=1000)(hb:∀d∈ds,0<=d/\d<=32){o2:Ob}(c2:∀l,aD l o2=true)(s:ak)(h:ac)(X:Option (Ex×St))(hX:ai 4 [2,6,11] (ax (aj R (az false) gU) [2,6,11,60,61,62] [2,21,24,2624] s h)=X)(g2:s 2=.ref 2 none 0 0 0)(g6:s 6=.ref 24 none 0 0 0)(g11:s 11=I 1)(g60:s 60=.rsl 24 (some 0) 1 0 m)(g61:s 61=I m)(g62:s 62=I 0)(k2:h 2=o2)(k21:h 21=.dead)(k24:h 24=.bx [.osl 1 (aO ds),.emp,I p])(k2624:h 2624=.dead):
  Gr2 X o2 (.bx [.osl 1 (aO ds),.emp,I p]) (Dl ds 1):=by
 subst hX;exact ail hm h8 hb c2 m 0 (ayc _) 1 δ δ s h g2 g6 g11 g60 g61 g62 k2 k21 k24 k2624
theorem Xw(v:Nat):aya v [I 0]=aO (lF v):=by
 grind[aO,lF,List.map_replicate]
theorem ai8{v:Nat}:∀d∈lF v,0<=d/\d<=32:=fun d hd=>by
 rw[List.eq_of_mem_replicate hd];decide
theorem akK(h:ac)(i:Nat)(xs:List AV)(a b:AV)(r:List (List AV)):E2 h 1 24 0 1 i 0 xs [] (.bx [.osl 1 r,a,b])=(rA 1 1 i 0 xs 1 r).map fun q=>(.und,upd h 24 (.bx [.osl 1 q,a,b]),[]):=rfl
theorem KA{f:FuncId}{h:ac}{d id:Nat}{zas as':List AV}{o o':Ob}{res:AV}(hm:(az false).m f=[])(hk:(az false).keep f=true)(hn:bp ((az false).sh f) (.ref id none 0 0 0::zas)=.ref id none 0 0 0::as')(hd:zas.all dat=true)(hd':as'.all dat=true)
  (hh:h id=o) (ho:OC o) (ho':OC o') (hb:bf o=true->bf o'=true) (hR:R f (.ref 1000 none 0 0 0::as') [o]=some (res,[o'])) (hr:RT res) (h8:cF res<=8) (hfr:cA h (2000+8*d) (cF res)=true):
  bF R (az false) h d (.ref id none 0 0 0::zas) (.fn f [] [])=some (res,upd h id o',[]):=by
 have h1:bS h [] (.ref id none 0 0 0::zas)=some (.ref id none 0 0 0::zas,h,[]):=by
  simp only[bS,dC,ayi,List.tail_nil,Lp h hd,ayp]
 have hp:bH [] ((AV.ref id none 0 0 0::zas).flatMap cf)=[id]:=by
  rw[List.flatMap_cons,EJ fun x hx=>Ln (List.all_eq_true.1 hd x hx)];rfl
 have hre:ce h 40 [id] 0=[id]:=by
  simp[ce,hh,ho.ids,bH]
 have h3:bm [id] id=1000:=by simp[bm]
 have hall:(AV.ref id none 0 0 0::as').all (bg [id])=true:=by
  grind[bg,bo,Pk]
 have hmap:(AV.ref id none 0 0 0::as').map (dV (bm [id]))=.ref 1000 none 0 0 0::as':=by
  rw[ays,(ayM (g:=fun c=>c) fun x hx=>Lo (List.all_eq_true.1 hd' x hx) _).trans (ayY as')];grind[dV,kg]
 have hob:([id].map fun a=>dS (bm [id]) (h a))=[o]:=by simp[hh,ho.ren]
 have hids:([id].all fun a=>aD [id] (h a)&&!bY (h a))=true:=by simp[hh,ho.cl,ho.nd]
 unfold bF;rw[if_neg (by grind[kh])];simp only[dW,hm,ayq,ayp,h1,ayi,hp,hre,hn];unfold jV;rw[hall,hids,hmap,hob,hR,ayK,if_pos rfl,ayi,hk,hm,wv];unfold eP;have hbf:dh h [] [id] [o']=true:=by
  have:=ho'.nd;grind[bf,dh]
 have hend:oT h [id] [] (res,[o'])=true:=by
  simp[oT,Cp,hr.ok,ho'.cl]
 rw[if_pos ⟨rfl,by simp,h8,hfr,hbf,hend⟩];simp[eE,gb,hr.mat,hr.ren,ho'.ren]
theorem cr(ds:List Int)(cs:List Ri)(p:Int):OC (bC ds cs p):=⟨fun _=>rfl,rfl,fun _=>rfl,rfl⟩
theorem KB{ds:List Int}{cs:List Ri}{p:Int}{m:Nat}(hm:m<=ds.length)(h8:m<=8)(hb:∀d∈ds,0<=d/\d<=32){h:ac}{d id:Nat}(hh:h id=bC ds cs p)(hd:h (2000+8*d)=.dead):
  bF R (az false) h d [.ref id none 0 0 0,I m] (.fn fax [] [])=some (I (NR (ds.take m) 1),upd h id (bC ds cs p),[]):=
 KA (me false) (Ag false) (as':=[I m]) (by simp only[go_sem]) rfl rfl hh (cr _ _ _) (cr _ _ _) (fun _=>rfl) (akI hm h8 hb) (amM _) (ayU rfl) (by grind[cA,cF,bY])
theorem yV(a b:AV)(k:Nat)(r:List (List AV)):kf 1 (.bx [a,.osl k r,b])=some (k,r):=rfl
theorem apN{f:FuncId}{fd:FD}{args:List AV}{os:List Ob}{r:AV×List Ob}(hE:cK.E f=none)(hC:cK.C f=some fd)(hk:cK.md.keep f=false)(h1:args.length=fd.np)(h2:os.length<=1000)
  (hz:ip false fd.rs fd.res os.length (aj R (az false) fd.body (uw args) (aq os))=some r):R f args os=some r:=
 OS false hE hC hk h1 h2 hz
theorem Xx(a b c d e:Ob):aq [a,b,c,d,e]=upd (upd (upd (upd (upd (fun _=>.dead) 1004 e) 1003 d) 1002 c) 1001 b) 1000 a:=by
 funext i;unfold aq upd;by_cases h0:i=1000
 ·simp_all
 by_cases h1:i=1001
 ·simp_all
 by_cases h2:i=1002
 ·simp_all
 by_cases h3:i=1003
 ·simp_all
 by_cases h4:i=1004
 ·simp_all
 simp only[h0,h1,h2,h3,h4,if_false];by_cases h5:1000<=i
 ·rw[if_pos h5,List.getElem?_eq_none (by simp;omega)];rfl
 grind
theorem Xy(a b c:Ob):aq [a,b,c]=upd (upd (upd (fun _=>.dead) 1002 c) 1001 b) 1000 a:=by
 funext i;unfold aq upd;by_cases h0:i=1000
 ·simp_all
 by_cases h1:i=1001
 ·simp_all
 by_cases h2:i=1002
 ·simp_all
 simp only[h0,h1,h2,if_false];by_cases h5:1000<=i
 ·rw[if_pos h5,List.getElem?_eq_none γ];rfl
 grind
def fO(x:Ri):Ob:=.bx [B x.lo.neg,lm x.lo.m,I x.lo.e,B x.hi.neg,lm x.hi.m,I x.hi.e,B x.all]
theorem ge(x:Ri):OC (fO x):=⟨fun _=>rfl,rfl,fun _=>rfl,rfl⟩
theorem ac7{l st n:Int}{lo w:Ri}{ds:List Int}{cs cs':List Ri}{p:Int}(hR:R faz [I l,I st,.ref 1000 none 0 0 0,.ref 1001 none 0 0 0,.ref 1002 none 0 0 0,.ref 1003 none 0 0 0] [.bx [I n],.bx [.ref 1004 none 0 0 0],fO lo,fO w,bC ds cs p]=some (.tup [],[.bx [I n],.bx [.ref 1004 none 0 0 0],fO lo,fO w,bC ds cs' p])){h:ac}{d:Nat}(h0:h 1000=bC ds cs p)(h1:h 1001=.bx [I n])(h2:h 1002=.bx [.ref 1000 none 0 0 0])(h3:h 1003=fO lo)(h4:h 1004=fO w)(hf:h (2000+8*d)=.dead):
  bF R (az false) h d [I l,I st] (.fn faz [] [.ref 1001 none 0 0 0,.ref 1002 none 0 0 0,.ref 1003 none 0 0 0,.ref 1004 none 0 0 0])=some (.tup [],upd (upd (upd (upd (upd h 1001 (.bx [I n])) 1002 (.bx [.ref 1000 none 0 0 0])) 1003 (fO lo)) 1004 (fO w)) 1000 (bC ds cs' p),[(1001,true),(1002,true),(1003,true),(1004,true),(1000,true)]):=by
 have hre:ce h 40 [1001,1002,1003,1004] 0=[1001,1002,1003,1004,1000]:=by
  have i0:oA (bC ds cs p)=[]:=(cr ds cs p).ids;have i1:oA (.bx [I n])=[]:=rfl;have i2:oA (.bx [.ref 1000 none 0 0 0])=[1000]:=rfl;have i3:oA (fO lo)=[]:=(ge lo).ids;have i4:oA (fO w)=[]:=(ge w).ids
  simp_all[ce,bH]
 unfold bF;rw[if_neg (by simp[kh,eJ.1.2.1])];have hin:bS h [] [I l,I st,.ref 1001 none 0 0 0,.ref 1002 none 0 0 0,.ref 1003 none 0 0 0,.ref 1004 none 0 0 0]=some ([I l,I st,.ref 1001 none 0 0 0,.ref 1002 none 0 0 0,.ref 1003 none 0 0 0,.ref 1004 none 0 0 0],h,[]):=rfl;have hids:bH [] ([I l,I st,AV.ref 1001 none 0 0 0,.ref 1002 none 0 0 0,.ref 1003 none 0 0 0,.ref 1004 none 0 0 0].flatMap cf)=[1001,1002,1003,1004]:=rfl;simp only[dW,eJ.1.2.1,ayq,ayW,hin,ayi,hids,hre,eJ.1.1];have hn:bp [] [I l,I st,AV.ref 1001 none 0 0 0,.ref 1002 none 0 0 0,.ref 1003 none 0 0 0,.ref 1004 none 0 0 0]=[I l,I st,AV.ref 1001 none 0 0 0,.ref 1002 none 0 0 0,.ref 1003 none 0 0 0,.ref 1004 none 0 0 0]:=rfl;rw[hn];unfold jV;have hob:([1001,1002,1003,1004,1000].map fun a=>dS (bm [1001,1002,1003,1004,1000]) (h a))=[.bx [I n],.bx [.ref 1004 none 0 0 0],fO lo,fO w,bC ds cs p]:=by
  simp only[List.map,h0,h1,h2,h3,h4];rfl
 have hcl:([1001,1002,1003,1004,1000].all fun a=>aD [1001,1002,1003,1004,1000] (h a)&&!bY (h a))=true:=by
  simp only[ayJ,List.all_nil,h0,h1,h2,h3,h4];rfl
 rw[hob,hcl,if_pos (by rfl)];rw[show [I l,I st,AV.ref 1001 none 0 0 0,.ref 1002 none 0 0 0,.ref 1003 none 0 0 0,.ref 1004 none 0 0 0].map (dV (bm [1001,1002,1003,1004,1000]))=[I l,I st,.ref 1000 none 0 0 0,.ref 1001 none 0 0 0,.ref 1002 none 0 0 0,.ref 1003 none 0 0 0]from rfl,hR,ayi,eJ.1.2.2.2,eJ.1.2.1,wv];unfold eP;rw[if_pos ⟨rfl,ayU rfl,ayU rfl,by simp[cA,cF],by grind[dh,fO,bC,bf,bY],rfl⟩];rfl
theorem ac8{l st n:Int}{ds:List Int}{cs cs':List Ri}{p:Int}(hR:R fau [I l,I st,.ref 1000 none 0 0 0,.ref 1001 none 0 0 0] [.bx [I n],.bx [.ref 1002 none 0 0 0],bC ds cs p]=some (.tup [],[.bx [I n],.bx [.ref 1002 none 0 0 0],bC ds cs' p])){h:ac}{d:Nat}(h0:h 1000=bC ds cs p)(h1:h 1001=.bx [I n])(h2:h 1002=.bx [.ref 1000 none 0 0 0])(hf:h (2000+8*d)=.dead):
  bF R (az false) h d [I l,I st] (.fn fau [] [.ref 1001 none 0 0 0,.ref 1002 none 0 0 0])=some (.tup [],upd (upd (upd h 1001 (.bx [I n])) 1002 (.bx [.ref 1000 none 0 0 0])) 1000 (bC ds cs' p),[(1001,true),(1002,true),(1000,true)]):=by
 have hre:ce h 40 [1001,1002] 0=[1001,1002,1000]:=by
  have i0:oA (bC ds cs p)=[]:=(cr ds cs p).ids;have i1:oA (.bx [I n])=[]:=rfl;have i2:oA (.bx [.ref 1000 none 0 0 0])=[1000]:=rfl
  simp_all[ce,bH]
 unfold bF;rw[if_neg (by simp[kh,cZ.1.2.1])];have hin:bS h [] [I l,I st,.ref 1001 none 0 0 0,.ref 1002 none 0 0 0]=some ([I l,I st,.ref 1001 none 0 0 0,.ref 1002 none 0 0 0],h,[]):=rfl;have hids:bH [] ([I l,I st,AV.ref 1001 none 0 0 0,.ref 1002 none 0 0 0].flatMap cf)=[1001,1002]:=rfl;simp only[dW,cZ.1.2.1,ayq,ayW,hin,ayi,hids,hre,cZ.1.1];have hn:bp [] [I l,I st,AV.ref 1001 none 0 0 0,.ref 1002 none 0 0 0]=[I l,I st,AV.ref 1001 none 0 0 0,.ref 1002 none 0 0 0]:=rfl;rw[hn];unfold jV;have hob:([1001,1002,1000].map fun a=>dS (bm [1001,1002,1000]) (h a))=[.bx [I n],.bx [.ref 1002 none 0 0 0],bC ds cs p]:=by
  simp only[List.map,h0,h1,h2];rfl
 have hcl:([1001,1002,1000].all fun a=>aD [1001,1002,1000] (h a)&&!bY (h a))=true:=by
  simp only[ayJ,List.all_nil,h0,h1,h2];rfl
 rw[hob,hcl,if_pos (by rfl)];rw[show [I l,I st,AV.ref 1001 none 0 0 0,.ref 1002 none 0 0 0].map (dV (bm [1001,1002,1000]))=[I l,I st,.ref 1000 none 0 0 0,.ref 1001 none 0 0 0]from rfl,hR,ayi,cZ.1.2.2.2,cZ.1.2.1,wv];unfold eP;rw[if_pos ⟨rfl,ayU rfl,ayU rfl,by simp[cA,cF],by grind[dh,bC,bf,bY],rfl⟩];rfl
theorem Xz{f:FuncId}{h:ac}{d:Nat}{zas as':List AV}{r:Option R3}(hm:(az false).m f=[])(hd:bS h [] zas=some (as',h,[]))(hc:bF R (az false) h d zas (.fn f [] [])=r):Hz R (az false) d f (as',h,[])=r:=by
 grind[HA]
theorem PD{i:Nat}{m:Int}{lo w:Ri}{ds:List Int}{cs cs':List Ri}{p:Int}(hR:R fav [.ref 1000 none 0 0 0,I i,.fn faz [] [.ref 1001 none 0 0 0,.ref 1002 none 0 0 0,.ref 1003 none 0 0 0,.ref 1004 none 0 0 0]] [bC ds cs p,.bx [I m],.bx [.ref 1000 none 0 0 0],fO lo,fO w]=some (.tup [],[bC ds cs' p,.bx [I m],.bx [.ref 1000 none 0 0 0],fO lo,fO w])){h:ac}{d:Nat}(h0:h 1000=bC ds cs p)(h1:h 8=.bx [I m])(h2:h 3=.bx [.ref 1000 none 0 0 0])(h3:h 6=fO lo)(h4:h 7=fO w)(hf:h (2000+8*d)=.dead):
  bF R (az false) h d [.ref 1000 none 0 0 0,I i,.fn faz [] [.ref 8 none 0 0 0,.ref 3 none 0 0 0,.ref 6 none 0 0 0,.ref 7 none 0 0 0]] (.fn fav [] [])=some (.tup [],upd (upd (upd (upd (upd h 1000 (bC ds cs' p)) 8 (.bx [I m])) 3 (.bx [.ref 1000 none 0 0 0])) 6 (fO lo)) 7 (fO w),[(1000,true),(8,true),(3,true),(6,true),(7,true)]):=by
 have hre:ce h 40 [1000,8,3,6,7] 0=[1000,8,3,6,7]:=by
  have i0:oA (bC ds cs p)=[]:=(cr _ _ p).ids;have i1:oA (.bx [I m])=[]:=rfl;have i2:oA (.bx [.ref 1000 none 0 0 0])=[1000]:=rfl;have i3:oA (fO lo)=[]:=(ge lo).ids;have i4:oA (fO w)=[]:=(ge w).ids
  simp_all[ce,bH]
 unfold bF;rw[if_neg (by simp[kh,bA.1.2.1])];have hin:bS h [] [.ref 1000 none 0 0 0,I i,.fn faz [] [.ref 8 none 0 0 0,.ref 3 none 0 0 0,.ref 6 none 0 0 0,.ref 7 none 0 0 0]]=some ([.ref 1000 none 0 0 0,I i,.fn faz [] [.ref 8 none 0 0 0,.ref 3 none 0 0 0,.ref 6 none 0 0 0,.ref 7 none 0 0 0]],h,[]):=rfl;have hids:bH [] ([AV.ref 1000 none 0 0 0,I i,.fn faz [] [.ref 8 none 0 0 0,.ref 3 none 0 0 0,.ref 6 none 0 0 0,.ref 7 none 0 0 0]].flatMap cf)=[1000,8,3,6,7]:=rfl;simp only[dW,bA.1.2.1,ayq,ayp,hin,ayi,hids,hre,bA.1.1];have hn:bp [] [AV.ref 1000 none 0 0 0,I i,.fn faz [] [.ref 8 none 0 0 0,.ref 3 none 0 0 0,.ref 6 none 0 0 0,.ref 7 none 0 0 0]]=[AV.ref 1000 none 0 0 0,I i,.fn faz [] [.ref 8 none 0 0 0,.ref 3 none 0 0 0,.ref 6 none 0 0 0,.ref 7 none 0 0 0]]:=rfl;rw[hn];unfold jV;have hob:([1000,8,3,6,7].map fun a=>dS (bm [1000,8,3,6,7]) (h a))=[bC ds cs p,.bx [I m],.bx [.ref 1000 none 0 0 0],fO lo,fO w]:=by
  simp only[List.map,h0,h1,h2,h3,h4];rfl
 have hcl:([1000,8,3,6,7].all fun a=>aD [1000,8,3,6,7] (h a)&&!bY (h a))=true:=by
  simp only[ayJ,List.all_nil,h0,h1,h2,h3,h4];rfl
 rw[hob,hcl,if_pos (by rfl)];rw[show [AV.ref 1000 none 0 0 0,I i,.fn faz [] [.ref 8 none 0 0 0,.ref 3 none 0 0 0,.ref 6 none 0 0 0,.ref 7 none 0 0 0]].map (dV (bm [1000,8,3,6,7]))=[.ref 1000 none 0 0 0,I i,.fn faz [] [.ref 1001 none 0 0 0,.ref 1002 none 0 0 0,.ref 1003 none 0 0 0,.ref 1004 none 0 0 0]]from rfl,hR,ayi,bA.1.2.2.2,bA.1.2.1,wv];unfold eP;rw[if_pos ⟨rfl,ayU rfl,ayU rfl,by simp[cA,cF],by grind[dh,fO,bC,bf,bY],rfl⟩];rfl
theorem PE{i:Nat}{m:Int}{ds:List Int}{cs cs':List Ri}{p:Int}(hR:R fav [.ref 1000 none 0 0 0,I i,.fn fau [] [.ref 1001 none 0 0 0,.ref 1002 none 0 0 0]] [bC ds cs p,.bx [I m],.bx [.ref 1000 none 0 0 0]]=some (.tup [],[bC ds cs' p,.bx [I m],.bx [.ref 1000 none 0 0 0]])){h:ac}{d:Nat}(h0:h 1000=bC ds cs p)(h1:h 4=.bx [I m])(h2:h 2=.bx [.ref 1000 none 0 0 0])(hf:h (2000+8*d)=.dead):
  bF R (az false) h d [.ref 1000 none 0 0 0,I i,.fn fau [] [.ref 4 none 0 0 0,.ref 2 none 0 0 0]] (.fn fav [] [])=some (.tup [],upd (upd (upd h 1000 (bC ds cs' p)) 4 (.bx [I m])) 2 (.bx [.ref 1000 none 0 0 0]),[(1000,true),(4,true),(2,true)]):=by
 have hre:ce h 40 [1000,4,2] 0=[1000,4,2]:=by
  have i0:oA (bC ds cs p)=[]:=(cr _ _ p).ids;have i1:oA (.bx [I m])=[]:=rfl;have i2:oA (.bx [.ref 1000 none 0 0 0])=[1000]:=rfl
  simp_all[ce,bH]
 unfold bF;rw[if_neg (by simp[kh,bA.1.2.1])];have hin:bS h [] [.ref 1000 none 0 0 0,I i,.fn fau [] [.ref 4 none 0 0 0,.ref 2 none 0 0 0]]=some ([.ref 1000 none 0 0 0,I i,.fn fau [] [.ref 4 none 0 0 0,.ref 2 none 0 0 0]],h,[]):=rfl;have hids:bH [] ([AV.ref 1000 none 0 0 0,I i,.fn fau [] [.ref 4 none 0 0 0,.ref 2 none 0 0 0]].flatMap cf)=[1000,4,2]:=rfl;simp only[dW,bA.1.2.1,ayq,ayp,hin,ayi,hids,hre,bA.1.1];have hn:bp [] [AV.ref 1000 none 0 0 0,I i,.fn fau [] [.ref 4 none 0 0 0,.ref 2 none 0 0 0]]=[AV.ref 1000 none 0 0 0,I i,.fn fau [] [.ref 4 none 0 0 0,.ref 2 none 0 0 0]]:=rfl;rw[hn];unfold jV;have hob:([1000,4,2].map fun a=>dS (bm [1000,4,2]) (h a))=[bC ds cs p,.bx [I m],.bx [.ref 1000 none 0 0 0]]:=by
  simp only[List.map,h0,h1,h2];rfl
 have hcl:([1000,4,2].all fun a=>aD [1000,4,2] (h a)&&!bY (h a))=true:=by
  simp only[ayJ,List.all_nil,h0,h1,h2];rfl
 rw[hob,hcl,if_pos (by rfl)];rw[show [AV.ref 1000 none 0 0 0,I i,.fn fau [] [.ref 4 none 0 0 0,.ref 2 none 0 0 0]].map (dV (bm [1000,4,2]))=[.ref 1000 none 0 0 0,I i,.fn fau [] [.ref 1001 none 0 0 0,.ref 1002 none 0 0 0]]from rfl,hR,ayi,bA.1.2.2.2,bA.1.2.1,wv];unfold eP;rw[if_pos ⟨rfl,ayU rfl,ayU rfl,by simp[cA,cF],by grind[dh,bC,bf,bY],rfl⟩];rfl
theorem afF{h:ac}{id id2:Nat}{cs:List AV}{a:AV}(h1:h id2=.bx cs)(h2:h id=.bx [.any]):MP id 0 [.ref id2 none 0 0 0] (a,h,[])=some (a,upd h id (.bx [.ref id2 none 0 0 0]),[]):=by
 simp_all[bt,MP,sq,Iu,inP,MO,C1]
theorem Ru:∀v,bj (lF v)=0
 |0=>rfl
 |v+1=>by
  have:=Ru v;show bj ((0:Int)::lF v)=0;simp[bj]at this⊢;exact this
theorem XB:vd aH=true:=δ
theorem aim{c:Rd}{p:Int}:aZ p [aH,c]=aZ p [c]:=by
 simp_all[aZ,ayJ,XB,ayg]
theorem afI:zI aH=0:=cO rfl
theorem afJ{c:Rd}{p:Int}{up:Bool}:du aH c p up=bZ c p up:=by
 simp[du,bZ,aim,afI,Int.zero_add]
theorem XC{p:Int}(hp:bG p=true){up:Bool}:bZ aH p up=(aH,0):=by
 simp_all[bG,ayf,decide_eq_true_eq,bZ,aZ,ayJ,List.all_nil,XB,if_pos,afI,iV]
theorem ac9(h:ac)(d:Nat)(r q:List (List AV))(p:Int)(b:Bool):ll h d (some (.tup [.obx [.osl 1 r,.osl 7 q,I p],B b],[]))=if bY (h (2000+8*d))&&bY (h (2000+8*d+1))then some (.tup [.ref (2000+8*d) none 0 0 0,B b],upd h (2000+8*d) (.bx [.osl 1 r,.osl 7 q,I p]),[])else none:=by
 simp[ll,cF,jj,fy,mh,aE,bt,bg,bo,cA,mat,cM,dL]
theorem Dy(h:ac)(n:Nat)(g:Bool)(i j:Nat)(r:List (List AV)):oS h n g 7 i j (some (7,r))=(r[i]?).bind fun row=>(kH n g row j).map fun a=>(a,h,[]):=rfl
theorem akL{ds:List Int}{cs:List Ri}{p:Int}{x y:Ri}(ox:OkI x)(oy:OkI y):R fas [.ref 1000 none 0 0 0,am x,am y] [bC ds cs p]=some (am (eG x y p),[bC ds cs p]):=by
 refine EK Nn Nm (Av false) rfl ?_;have h:=yH ox oy (p:=p);generalize eG x y p=z at*
 simp only[am,ap]at h;simp only[wM,D6,am,ap,bC,go_sem,h];exact sj rfl rfl rfl (by rfl) (by simp only[go_sem])
theorem akM{ds:List Int}{cs:List Ri}{p:Int}{x y:Ri}(ox:OkI x)(oy:OkI y):R faw [.ref 1000 none 0 0 0,am x,am y] [bC ds cs p]=some (am (iu x y p),[bC ds cs p]):=by
 refine EK Np No (Aw false) rfl ?_;have h:=Du ox oy (p:=p);generalize iu x y p=z at*
 simp only[am,ap]at h;simp only[wN,D7,am,ap,bC,go_sem,h];exact sj rfl rfl rfl (by rfl) (by simp only[go_sem])
theorem ai9(x:Ri):RT (am x):=⟨fun _=>rfl,fun _ _=>rfl,fun _=>rfl⟩
theorem SZ{ds:List Int}{cs:List Ri}{p:Int}{x y:Ri}(ox:OkI x)(oy:OkI y){h:ac}{d id:Nat}(hh:h id=bC ds cs p)(hd:h (2000+8*d)=.dead):
  Hz R (az false) d fas ([.ref id none 0 0 0,am x,am y],h,[])=some (am (eG x y p),upd h id (bC ds cs p),[]):=
 dy (yi false) rfl (KA (yi false) (Av false) (as':=[am x,am y]) (by rw[LW];simp only[am,ap,go_sem]) rfl rfl hh (cr _ _ _) (cr _ _ _) (fun _=>rfl) (akL ox oy) (ai9 _) (ayU rfl) (by simp[cA,am,cF,hd,bY]))
theorem FL{ds:List Int}{cs:List Ri}{p:Int}{x y:Ri}(ox:OkI x)(oy:OkI y){h:ac}{d id:Nat}(hh:h id=bC ds cs p)(hd:h (2000+8*d)=.dead):
  Hz R (az false) d faw ([.ref id none 0 0 0,am x,am y],h,[])=some (am (iu x y p),upd h id (bC ds cs p),[]):=
 dy (yj false) rfl (KA (yj false) (Aw false) (as':=[am x,am y]) (by rw[LX];simp only[am,ap,go_sem]) rfl rfl hh (cr _ _ _) (cr _ _ _) (fun _=>rfl) (akM ox oy) (ai9 _) (ayU rfl) (by simp[cA,am,cF,hd,bY]))
theorem Lx{α:Type}{f:α->List AV}(h:∀x,BR (f x) (f x)=true):∀l:List α,Iv (l.map f) (l.map f)=true
 |[]=>rfl
 |a::l=>by simp only[List.map,Iv,h,Lx h l,ayg]
theorem apO(z:Int):BR [I z] [I z]=true:=by simp[BR,UN,UM]
theorem anm(x:Ri):BR (ap x) (ap x)=true:=by
 have h:∀m:List Nat,Iv (aB m) (aB m)=true:=Lx fun x=>by simp[BR,UN,UM]
 simp[ap,BR,UN,UM,lm,h]
theorem ann(ds:List Int)(cs:List Ri)(p:Int):KT (bC ds cs p) (bC ds cs p)=true:=by
 have h1:Iv (aO ds) (aO ds)=true:=Lx apO ds;have h2:Iv (bQ cs) (bQ cs)=true:=Lx anm cs;simp[bC,KT,BR,UN,UM,h1,h2]
theorem ada{h h':ac}{d id:Nat}{ds:List Int}{cs:List Ri}{p:Int}{x y:Ri}(hi:id<2000)(hh:h id=bC ds cs p)(hh':h' id=bC ds cs p):jk h d [.ref id none 0 0 0,am x,am y] h'=some ([id],[2000+8*d]):=by
 have hre:ce h 40 [id] 0=[id]:=by simp[ce,hh,(cr ds cs p).ids,bH]
 have hc:Ja h h' [id]=[]:=by simp[Ja,hh,hh',ann]
 show(if _ then _ else if _ then some ((ce h 40 [id] 0).map dD,(Ja h h' (ce h 40 [id] 0)).map dD++[2000+8*d])else none)=_;rw[hre,hc,if_neg (by simp[dat,aE]),if_pos (by rfl)];simp[dD,hi]
def jE(N:Nat)(cs:List Ri)(g:G):Prop:=cs.length=N/\∀k x,cs[k]?=some x->In (g k) x
theorem jE.get{N:Nat}{cs:List Ri}{g:G}(h:jE N cs g){k:Nat}(hk:k<N):∃x,cs[k]?=some x/\In (g k) x:=by
 have:k<cs.length:=by rw[h.1];exact hk
 exact⟨cs[k],List.getElem?_eq_getElem this,h.2 k _ (List.getElem?_eq_getElem this)⟩
theorem jE.set{N:Nat}{cs:List Ri}{g:G}(h:jE N cs g){k:Nat}{x:Ri}{y:Rat}(hx:In y x):jE N (cs.set k x) (gs g k y):=by
 refine⟨by rw[List.length_set];exact h.1,fun j z hz=>?_⟩;rw[List.getElem?_set]at hz;unfold gs;by_cases hj:k=j
 ·subst hj;rw[if_pos rfl]at hz;rw[if_pos rfl];split at hz
  ·cases hz;exact hx
  ·exact nomatch hz
 ·rw[if_neg hj]at hz;rw[if_neg fun h=>hj h.symm];exact h.2 j z hz
def unO(n:Nat)(lo w:Ri)(ds:List Int)(cs:List Ri)(p:Int)(h:ac):Prop:=h 1000=.bx [I n]/\h 1001=.bx [.ref 1004 none 0 0 0]/\h 1002=fO lo/\h 1003=fO w/\h 1004=bC ds cs p
theorem G9(id:Nat)(h:ac)(i:Nat)(xs:List AV)(a b:AV)(r:List (List AV)):E2 h 7 id 1 7 i 0 xs [] (.bx [a,.osl 7 r,b])=(rA 7 7 i 0 xs 7 r).map fun q=>(.und,upd h id (.bx [a,.osl 7 q,b]),[]):=rfl
theorem Ha{cs:List Ri}{k:Nat}{u:Ri}(hk:k<cs.length):rA 7 7 k 0 (ap u) 7 (bQ cs)=some (bQ (cs.set k u)):=by
 have h1:(bQ cs)[k]?=some (ap cs[k]):=by unfold bQ;rw[List.getElem?_map,List.getElem?_eq_getElem hk];rfl
 unfold rA;rw[if_pos rfl,h1];simp[setRow,ap,bQ,List.map_set]
attribute [-go_sem] B1 in
theorem akN{ds:List Int}{p:Int}{N f st i n:Nat}{lo w:Ri}{l:Rat}(hl:In l lo)(hN:f+n*st<N)(hN4:N<=400)(hn:n<=400):∀ (k:Nat),i+k<=n->∀ (cs:List Ri) (g:G),jE N cs g->∀ (s:ak) (h:ac) (X:Option (Ex×St)),ai 2 [0,1,2,3,4,5,13,14] (ax (aj R (az false) it) [0,1,2,3,4,5,8,9,13,14] [1000,1001,1002,1003,1004] s h)=X->
  s 0=I f->s 1=I st->s 2=.ref 1000 none 0 0 0->s 3=.ref 1001 none 0 0 0->s 4=.ref 1002 none 0 0 0->s 5=.ref 1003 none 0 0 0->s 8=I i->s 9=I ((i:Int)+k-1)->s 13=I n->s 14=I i->unO n lo w ds cs p h->
  ∃hh cs',X=some (.normal,⟨upd (upd (upd (upd (upd (upd (upd (upd (fun _=>.any) 14 (I i)) 13 (I n)) 5 (.ref 1003 none 0 0 0)) 4 (.ref 1002 none 0 0 0)) 3 (.ref 1001 none 0 0 0)) 2 (.ref 1000 none 0 0 0)) 1 (I st)) 0 (I f),hh⟩)/\unO n lo w ds cs' p hh/\jE N cs' (MJ l (fun j=>f+j*st) i k g):=by
 intro k;induction k with
 |zero=>
  intro hk cs g he s h X hX g0 g1 g2 g3 g4 g5 g8 g9 g13 g14 ho;subst hX;obtain⟨k0,k1,k2,k3,k4⟩:=ho;have e1:((i:Int)<=(i:Int)+((0:Nat):Int)-1)=False:=ff;have hg:=(cr ds cs p).cl [1000,1001,1002,1003,1004];have hlo:=(ge lo).cl [1000,1001,1002,1003,1004];have hw:=(ge w).cl [1000,1001,1002,1003,1004];rw[ag];refine⟨?hh0,cs,?_,?_,he⟩;rotate_left
  ·simp only[it,go_sem,g0,g1,g2,g3,g4,g5,g8,g9,g13,g14,k0,k1,k2,k3,k4,hg,hlo,hw,e1];rfl
  ·exact⟨rfl,rfl,rfl,rfl,rfl⟩
 |succ k ih=>
  intro hk cs g he s h X hX g0 g1 g2 g3 g4 g5 g8 g9 g13 g14 ho;subst hX;obtain⟨k0,k1,k2,k3,k4⟩:=ho;have hm1:(i+k)*st<=n*st:=aym _ ω;have hm2:(i+k+1)*st<=n*st:=aym _ ω;have hs2:(i+k+1)*st=(i+k)*st+st:=by rw[ayA,Nat.one_mul]
  have e1:((i:Int)<=(i:Int)+((k+1:Nat):Int)-1)=True:=tt;have w1:IntKind.i64.wrap (((i:Int)+((k+1:Nat):Int)-1)*st)=(((i+k)*st:Nat):Int):=by
   rw[show((i:Int)+((k+1:Nat):Int)-1)=((i+k:Nat):Int)by omega,←Int.natCast_mul];exact i64_in _ ⟨by omega,by omega⟩
  have w2:IntKind.i64.wrap ((f:Int)+(((i+k)*st:Nat):Int))=((f+(i+k)*st:Nat):Int):=wi;have w3:IntKind.i64.wrap (((f+(i+k)*st:Nat):Int)+(st:Int))=((f+(i+k+1)*st:Nat):Int):=wi;have w4:IntKind.i64.wrap ((i:Int)+((k+1:Nat):Int)-1-1)=(i:Int)+(k:Int)-1:=by rw[i64_in _ ⟨by omega,by omega⟩];omega
  obtain⟨x,x1,x2⟩:=he.get (k:=f+(i+k)*st) ω;obtain⟨y,y1,y2⟩:=he.get (k:=f+(i+k+1)*st) ω;have hg:=(cr ds cs p).cl [1000,1001,1002,1003,1004];have hlo:=(ge lo).cl [1000,1001,1002,1003,1004];have hw:=(ge w).cl [1000,1001,1002,1003,1004];have cm:=fun(h:ac) (d:Nat) hh hd=>FL (ds:=ds) (cs:=cs) (p:=p) (h:=h) (d:=d) (id:=1004) hl.ok y2.ok hh hd;have pm:=Br (p:=p) hl y2;have ca:=fun(h:ac) (d:Nat) hh hd=>SZ (ds:=ds) (cs:=cs) (p:=p) (h:=h) (d:=d) (id:=1004) x2.ok pm.ok hh hd;have pa:=ww (p:=p) x2 pm;have q1:(bQ cs)[f+(i+k)*st]?=some (ap x):=by unfold bQ;rw[List.getElem?_map,x1];rfl
  have q2:(bQ cs)[f+(i+k+1)*st]?=some (ap y):=by unfold bQ;rw[List.getElem?_map,y1];rfl
  have i1:(0<=((f+(i+k)*st:Nat):Int))=True:=tt;have i2:(0<=((f+(i+k+1)*st:Nat):Int))=True:=tt;have i3:(((f+(i+k)*st:Nat):Int)< (cs.length:Int))=True:=eq_true (by rw[he.1];omega);have i4:(((f+(i+k+1)*st:Nat):Int)< (cs.length:Int))=True:=eq_true (by rw[he.1];omega);have sr1:∀u:Ri,rA 7 7 (f+(i+k)*st) 0 (ap u) 7 (bQ cs)=some (bQ (cs.set (f+(i+k)*st) u)):=fun u=>Ha (by rw[he.1];omega);have ih':=ih ω _ _ (he.set (k:=f+(i+k)*st) pa);rw[ag];generalize ax _ _ _=L at ih'⊢;generalize iu lo y p=z at*
  generalize eG x z p=u at*
  simp only[bC,am,ap]at cm ca;simp only[ap]at q1 q2 sr1;simp only[bC]at k4 hg;simp only[fO]at k2 k3 hlo hw;simp only[it,go_sem,g0,g1,g2,g3,g4,g5,g8,g9,g13,g14,k0,k1,k2,k3,k4,hg,hlo,hw,e1,w1,w2,w3,w4,i1,i2,i3,i4,yV,Dy,ayk,ayc,q1,q2];rw[cm _ _ rfl rfl];have fp:=fun(h h':ac) (d:Nat) (x y:Ri)=>ada (h:=h) (h':=h') (d:=d) (id:=1004) (ds:=ds) (cs:=cs) (p:=p) (x:=x) (y:=y) δ;simp only[bC,am,ap]at fp;simp only[go_sem,fp];rw[ca _ _ rfl rfl];simp only[go_sem,fp,i1,i3,ayk,ayc,G9,sr1,w4];exact ih' _ _ _ rfl rfl rfl rfl rfl rfl rfl rfl rfl rfl rfl ⟨rfl,rfl,rfl,rfl,rfl⟩
theorem akO{ds:List Int}{p:Int}{N f st n:Nat}{lo w:Ri}{l:Rat}(hl:In l lo)(hN:f+n*st<N)(hN4:N<=400)(hn:n<=400):∀ (k i:Nat),i+k=n->∀ (cs:List Ri) (g:G),jE N cs g->∀ (s:ak) (h:ac) (X:Option (Ex×St)),ai 0 [0,1,2,3,5] (ax (aj R (az false) kK) [0,1,2,3,4,5,13,14] [1000,1001,1002,1003,1004] s h)=X->
  s 0=I f->s 1=I st->s 2=.ref 1000 none 0 0 0->s 3=.ref 1001 none 0 0 0->s 4=.ref 1002 none 0 0 0->s 5=.ref 1003 none 0 0 0->s 13=I n->s 14=I i->unO n lo w ds cs p h->
  ∃hh cs',X=some (.normal,⟨upd (upd (upd (upd (upd (fun _=>.any) 5 (.ref 1003 none 0 0 0)) 3 (.ref 1001 none 0 0 0)) 2 (.ref 1000 none 0 0 0)) 1 (I st)) 0 (I f),hh⟩)/\unO n lo w ds cs' p hh/\(∀a,a≠1000->a≠1001->a≠1002->a≠1003->a≠1004->hh a=.dead)/\jE N cs' (MK l (fun j=>f+j*st) k i g):=by
 intro k;induction k with
 |zero=>
  intro i hk cs g he s h X hX g0 g1 g2 g3 g4 g5 g13 g14 ho;subst hX;obtain⟨k0,k1,k2,k3,k4⟩:=ho;have e1:((i:Int)<n)=False:=ff;have hg:=(cr ds cs p).cl [1000,1001,1002,1003,1004];have hlo:=(ge lo).cl [1000,1001,1002,1003,1004];have hw:=(ge w).cl [1000,1001,1002,1003,1004];rw[ag];refine⟨?hh0,cs,?_,?_,?_,he⟩;rotate_left
  ·simp only[kK,go_sem,g0,g1,g2,g3,g4,g5,g13,g14,k0,k1,k2,k3,k4,hg,hlo,hw,e1];rfl
  ·exact⟨rfl,rfl,rfl,rfl,rfl⟩
  ·intro a a1 a2 a3 a4 a5;simp only[cV,a1,a2,a3,a4,a5,if_false]
 |succ k ih=>
  intro i hk cs g he s h X hX g0 g1 g2 g3 g4 g5 g13 g14 ho;subst hX;have ho':=ho;obtain⟨k0,k1,k2,k3,k4⟩:=ho;have e1:((i:Int)<n)=True:=tt;have w1:IntKind.i64.wrap ((n:Int)-1)=(i:Int)+((k+1:Nat):Int)-1:=by rw[i64_in _ ⟨by omega,by omega⟩];omega
  have w2:IntKind.i64.wrap ((i:Int)+1)=((i+1:Nat):Int):=wi;have hg:=(cr ds cs p).cl [1000,1001,1002,1003,1004];have hlo:=(ge lo).cl [1000,1001,1002,1003,1004];have hw:=(ge w).cl [1000,1001,1002,1003,1004];have hu:=akN (ds:=ds) (p:=p) (w:=w) hl hN hN4 hn (i:=i) (k+1) ω cs g he;have ih':=ih (i+1) ω;rw[ag];generalize ax _ _ _=L at ih'⊢;simp only[kK,go_sem,g0,g1,g2,g3,g4,g5,g13,g14,k0,k1,k2,k3,k4,hg,hlo,hw,e1,w1];generalize hX:ai 2 _ _=X;obtain⟨hh,cs',rfl,ho2,he2⟩:=hu _ _ _ hX rfl rfl rfl rfl rfl rfl rfl rfl rfl rfl ⟨rfl,rfl,rfl,rfl,rfl⟩;simp only[go_sem,w2];exact ih' cs' _ he2 _ _ _ rfl rfl rfl rfl rfl rfl rfl rfl rfl ho2
attribute [-go_sem] B1 in
theorem akP{ds:List Int}{p:Int}{N f st n:Nat}{lo w:Ri}{u:Rat}(hw:In u w)(hN:f+n*st<N)(hN4:N<=400)(hn:n<=400):∀ (k j:Nat),j+k=n+1->∀ (cs:List Ri) (g:G),jE N cs g->∀ (sc:Ri) (b:Rat),In b sc->∀ (s:ak) (h:ac) (X:Option (Ex×St)),ai 4 [] (ax (aj R (az false) iq) [0,1,2,3,5,11,12] [11,1000,1001,1002,1003,1004] s h)=X->
  s 0=I f->s 1=I st->s 2=.ref 1000 none 0 0 0->s 3=.ref 1001 none 0 0 0->s 5=.ref 1003 none 0 0 0->s 11=.ref 11 none 0 0 0->s 12=I j->h 11=fO sc->unO n lo w ds cs p h->
  ∃hh cs',X=some (.normal,⟨fun _=>.any,hh⟩)/\unO n lo w ds cs' p hh/\jE N cs' (SQ u (fun j=>f+j*st) k j b g):=by
 intro k;induction k with
 |zero=>
  intro j hk cs g he sc b hb s h X hX g0 g1 g2 g3 g5 g11 g12 k11 ho;subst hX;obtain⟨k0,k1,k2,k3,k4⟩:=ho;have e1:((j:Int)<=n)=False:=ff;have hg:=(cr ds cs p).cl [11,1000,1001,1002,1003,1004];have hlo:=(ge lo).cl [11,1000,1001,1002,1003,1004];have hw:=(ge w).cl [11,1000,1001,1002,1003,1004];have hs:=(ge sc).cl [11,1000,1001,1002,1003,1004];rw[ag];refine⟨?hh0,cs,?_,?_,he⟩;rotate_left
  ·simp only[iq,go_sem,g0,g1,g2,g3,g5,g11,g12,k0,k1,k2,k3,k4,k11,hg,hlo,hw,hs,e1];rfl
  ·exact⟨rfl,rfl,rfl,rfl,rfl⟩
 |succ k ih=>
  intro j hk cs g he sc b hb s h X hX g0 g1 g2 g3 g5 g11 g12 k11 ho;subst hX;obtain⟨k0,k1,k2,k3,k4⟩:=ho;have hm1:j*st<=n*st:=aym _ ω;have e1:((j:Int)<=n)=True:=tt;have w1:IntKind.i64.wrap ((j:Int)*st)=((j*st:Nat):Int):=wi (Int.natCast_mul ..).symm ω;have w2:IntKind.i64.wrap ((f:Int)+((j*st:Nat):Int))=((f+j*st:Nat):Int):=wi;have w4:IntKind.i64.wrap ((j:Int)+1)=((j+1:Nat):Int):=wi;obtain⟨x,x1,x2⟩:=he.get (k:=f+j*st) ω;have hg:=(cr ds cs p).cl [11,1000,1001,1002,1003,1004];have hlo:=(ge lo).cl [11,1000,1001,1002,1003,1004];have hwo:=(ge w).cl [11,1000,1001,1002,1003,1004];have hs:=(ge sc).cl [11,1000,1001,1002,1003,1004];have cm:=fun(h:ac) (d:Nat) hh hd=>FL (ds:=ds) (cs:=cs) (p:=p) (h:=h) (d:=d) (id:=1004) hb.ok hw.ok hh hd;have pm:=Br (p:=p) hb hw;have ca:=fun(h:ac) (d:Nat) hh hd=>FL (ds:=ds) (cs:=cs) (p:=p) (h:=h) (d:=d) (id:=1004) x2.ok pm.ok hh hd;have pa:=Br (p:=p) x2 pm;have q1:(bQ cs)[f+j*st]?=some (ap x):=by unfold bQ;rw[List.getElem?_map,x1];rfl
  have i1:(0<=((f+j*st:Nat):Int))=True:=tt;have i3:(((f+j*st:Nat):Int)< (cs.length:Int))=True:=eq_true (by rw[he.1];omega);have sr1:∀u:Ri,rA 7 7 (f+j*st) 0 (ap u) 7 (bQ cs)=some (bQ (cs.set (f+j*st) u)):=fun u=>Ha (by rw[he.1];omega);have ih':=ih (j+1) ω _ _ (he.set (k:=f+j*st) pa) _ _ pm;rw[ag];generalize ax _ _ _=L at ih'⊢;generalize iu sc w p=z at*
  generalize iu x z p=v at*
  simp only[bC,am,ap]at cm ca;simp only[ap]at q1 sr1;simp only[bC]at k4 hg;simp only[fO]at k2 k3 k11 hlo hwo hs;simp only[iq,go_sem,g0,g1,g2,g3,g5,g11,g12,k0,k1,k2,k3,k4,k11,hg,hlo,hwo,hs,e1];rw[cm _ _ rfl rfl];have fp:=fun(h h':ac) (d:Nat) (x y:Ri)=>ada (h:=h) (h':=h') (d:=d) (id:=1004) (ds:=ds) (cs:=cs) (p:=p) (x:=x) (y:=y) δ;simp only[bC,am,ap]at fp;simp only[go_sem,w1,w2,i1,i3,yV,Dy,ayk,ayc,q1];rw[ca _ _ rfl rfl];simp only[go_sem,fp,i1,i3,ayk,ayc,G9,sr1,w4];exact ih' _ _ _ rfl rfl rfl rfl rfl rfl rfl rfl rfl ⟨rfl,rfl,rfl,rfl,rfl⟩
theorem PF{n:Nat}{h:ac}{os:List Ob}(hm:(de n).map h=os)(hc:(os.all fun o=>aD (de n) o)=true):wE [] n h []=some (.tup [],os):=by
 have h1:((de n).all fun i=>aD (de n) (h i))=true:=by
  rw[←hm,List.all_map]at hc;exact hc
 unfold wE;rw[h1,hm];rfl
theorem Ly{f:FuncId}{fd:FD}{args:List AV}{os:List Ob}{α:Type}{r:α->AV×List Ob}{P:α->Prop}(hE:cK.E f=none)(hC:cK.C f=some fd)(hk:cK.md.keep f=false)(h1:args.length=fd.np)(h2:os.length<=1000)
  (hz:∃a,ip false fd.rs fd.res os.length (aj R (az false) fd.body (uw args) (aq os))=some (r a)/\P a):∃a,R f args os=some (r a)/\P a:=by
 obtain⟨a,h3,h4⟩:=hz;exact⟨a,apN hE hC hk h1 h2 h3,h4⟩
theorem ain{ds:List Int}{cs:List Ri}{p:Int}{N f st n:Nat}{lo w:Ri}{l u:Rat}{g:G}(hl:In l lo)(hw:In u w)(he:jE N cs g)(hN:f+n*st<N)(hN4:N<=400)(hn:n<=400):
  ∃cs',R faz [I f,I st,.ref 1000 none 0 0 0,.ref 1001 none 0 0 0,.ref 1002 none 0 0 0,.ref 1003 none 0 0 0] [.bx [I n],.bx [.ref 1004 none 0 0 0],fO lo,fO w,bC ds cs p]=some (.tup [],[.bx [I n],.bx [.ref 1004 none 0 0 0],fO lo,fO w,bC ds cs' p])/\jE N cs' (Po l u n (fun j=>f+j*st) g):=by
 have h2:=akO (ds:=ds) (p:=p) (w:=w) hl hN hN4 hn n 0 (ayc _) cs g he;have h3:=fun(cs:List Ri) (g:G) he=>akP (ds:=ds) (p:=p) (lo:=lo) (n:=n) (st:=st) (f:=f) hw hN hN4 hn n 1 (Nat.add_comm _ _) cs g he ⟨one,one,false⟩ 1 (by rw[←Kx];exact sn dN.1 dN.2);have hi:=Kb;have hp:=gX dN.2 dN.1;refine Ly eJ.2.1 eJ.2.2 (eJ.1.2.2.2 false) rfl (ayU rfl) ?_;have hgo:=(cr ds cs p).cl [1000,1001,1002,1003,1004];have hlo:=(ge lo).cl [1000,1001,1002,1003,1004];have hwo:=(ge w).cl [1000,1001,1002,1003,1004];simp only[ae,ah,am,ap]at hi hp;simp only[rT,At,Xx,go_sem];generalize hX:ai 0 _ _=X;obtain⟨hh,cs1,rfl,ho,hd,he1⟩:=h2 _ _ _ hX rfl rfl rfl rfl rfl rfl rfl rfl ⟨rfl,rfl,rfl,rfl,rfl⟩;obtain⟨k0,k1,k2,k3,k4⟩:=ho;have d1:=hd 2456 δ δ δ δ δ;have d2:=hd 2464 δ δ δ δ δ;have d3:=hd 11 δ δ δ δ δ;simp only[go_sem,hi,hp,d1,d2,d3];generalize hX:ai 4 _ _=X;obtain⟨hh2,cs2,rfl,ho,he2⟩:=h3 cs1 _ he1 _ _ _ hX rfl rfl rfl rfl rfl rfl rfl rfl ⟨k0,k1,k2,k3,k4⟩;obtain⟨k0,k1,k2,k3,k4⟩:=ho;refine⟨cs2,?_,he2⟩;simp only[go_sem];have hp5:de 5=[1000,1001,1002,1003,1004]:=rfl;refine PF (by rw[hp5];simp only[List.map,k0,k1,k2,k3,k4]) ?_;simp only[hp5,ayJ,List.all_nil,(cr ds cs2 p).cl,hlo,hwo];rfl
def yt(n:Nat):Rd:=bk false n 0
theorem aaA{n:Nat}(hn:n<=1000):(vd (yt n)=true/\Ok0 (yt n))/\qv (yt n)=n:=by
 have hr:rh (af (ab (yt n).m)) (yt n).e=true:=by
  unfold yt;by_cases h0:n=0
  ·subst h0;rfl
  ·obtain⟨g1,g2,g3,g4⟩:=pZ (neg:=false) (e:=0) h0;have hb:af n<=10:=bD.2 ω;rw[g1,g2];unfold rh;simp only[Bool.or_eq_true,ayf,decide_eq_true_eq];omega
 have hv:vd (yt n)=true:=GY hr;have hb:Lb (yt n).m:=yG false n 0;refine⟨⟨hv,hb,ayS (Aj hv hb) δ⟩,?_⟩;have hc:cH (yt n)=(yt n,0):=by
  simp_all[cH,if_pos]
 have hz:zI (cH (yt n)).1=_:=Kn (q:=n) (u:=0) δ (by grind[cH,yt]);rw[hc]at hz;obtain⟨N,hN⟩:∃N:Nat,N=16384:=⟨_,rfl⟩;rw[show((0:Int)+16384).toNat=N by omega]at hz;unfold qv EQ;rw[hz,←hN,show(((n*2^N:Nat):Int):Rat)=n*pQ N by rw[Int.natCast_mul,Int.natCast_pow,Rat.intCast_mul];rfl];grind[Kp]
theorem afK{n:Nat}(hn:n<=1000):R faJ [I n] []=some (ae (yt n),[]):=by
 have:=Pe (n:=(n:Int)) (by grind[I64]);exact this
def beO(n:Nat)(ds:List Int)(cs:List Ri)(p:Int)(h:ac):Prop:=h 1000=.bx [I n]/\h 1001=.bx [.ref 1002 none 0 0 0]/\h 1002=bC ds cs p/\h 1003=.dead
theorem ano{h h':ac}{d:Nat}{l:List AV}(hl:l.all dat=true):jk h d l h'=some ([],[2000+8*d]):=by
 rw[B1,if_pos hl]
attribute [-go_sem] B1 in
theorem akQ{ds:List Int}{p:Int}{N f st n:Nat}(hN:f+n*st<N)(hN4:N<=400)(hn:n<=400):∀ (k j:Nat),j+k=n->∀ (cs:List Ri) (g:G),jE N cs g->∀ (sc:Ri) (b:Rat),In b sc->∀ (s:ak) (h:ac) (X:Option (Ex×St)),ai 0 [0,1,2,3] (ax (aj R (az false) hH) [0,1,2,3,6,7] [6,1000,1001,1002,1003] s h)=X->
  s 0=I f->s 1=I st->s 2=.ref 1000 none 0 0 0->s 3=.ref 1001 none 0 0 0->s 6=.ref 6 none 0 0 0->s 7=I (j+1:Nat)->h 6=fO sc->beO n ds cs p h->
  ∃hh cs',X=some (.normal,⟨upd (upd (upd (upd (fun _=>.any) 3 (.ref 1001 none 0 0 0)) 2 (.ref 1000 none 0 0 0)) 1 (I st)) 0 (I f),hh⟩)/\beO n ds cs' p hh/\jE N cs' (ML n (fun j=>f+j*st) k (j+1) b g):=by
 intro k;induction k with
 |zero=>
  intro j hk cs g he sc b hb s h X hX g0 g1 g2 g3 g6 g7 k6 ho;subst hX;obtain⟨k0,k1,k2,k3⟩:=ho;have e1:(((j+1:Nat):Int)<=n)=False:=ff;have hg:=(cr ds cs p).cl [6,1000,1001,1002,1003];have hs:=(ge sc).cl [6,1000,1001,1002,1003];rw[ag];refine⟨?hh0,cs,?_,?_,he⟩;rotate_left
  ·simp only[hH,go_sem,g0,g1,g2,g3,g6,g7,k0,k1,k2,k3,k6,hg,hs,e1];rfl
  ·exact⟨rfl,rfl,rfl,rfl⟩
 |succ k ih=>
  intro j hk cs g he sc b hb s h X hX g0 g1 g2 g3 g6 g7 k6 ho;subst hX;obtain⟨k0,k1,k2,k3⟩:=ho;have hm1:(j+1)*st<=n*st:=aym _ ω;have e1:(((j+1:Nat):Int)<=n)=True:=tt;have w0:IntKind.i64.wrap ((n:Int)- ((j+1:Nat):Int))=(k:Int):=wi;have w5:IntKind.i64.wrap ((k:Int)+1)=((k+1:Nat):Int):=wi;have w1:IntKind.i64.wrap (((j+1:Nat):Int)*st)=(((j+1)*st:Nat):Int):=wi (Int.natCast_mul ..).symm ω;have w2:IntKind.i64.wrap ((f:Int)+(((j+1)*st:Nat):Int))=((f+(j+1)*st:Nat):Int):=wi;have w4:IntKind.i64.wrap (((j+1:Nat):Int)+1)=((j+1+1:Nat):Int):=wi;obtain⟨x,x1,x2⟩:=he.get (k:=f+(j+1)*st) ω;have hg:=(cr ds cs p).cl [6,1000,1001,1002,1003];have hs:=(ge sc).cl [6,1000,1001,1002,1003];obtain⟨t1,t2⟩:=aaA (n:=k+1) ω;obtain⟨u1,u2⟩:=aaA (n:=j+1) ω;have ci1:=afK (n:=k+1) ω;have ci2:=afK (n:=j+1) ω;have cp1:=gX t1.2 t1.1;have cp2:=gX u1.2 u1.1;have ip1:=sn t1.1 t1.2;have ip2:=sn u1.1 u1.2;rw[t2]at ip1;rw[u2]at ip2;have cm:=fun(h:ac) (d:Nat) hh hd=>FL (ds:=ds) (cs:=cs) (p:=p) (h:=h) (d:=d) (id:=1002) hb.ok ip1.ok hh hd;have pm:=Br (p:=p) hb ip1;have cd:=aan pm.ok ip2.ok (p:=p);have pd:=aaw (p:=p) pm ip2;have cd2:=aan x2.ok pd.ok (p:=p);have pd2:=aaw (p:=p) x2 pd;have hbe:b*((n:Rat)- (j+1:Nat)+1)/ (j+1:Nat)=b*((k+1:Nat):Rat)/ ((j+1:Nat):Rat):=by
   have:(n:Rat)=(j+(k+1):Nat):=by rw[hk]
   grind
  have q1:(bQ cs)[f+(j+1)*st]?=some (ap x):=by grind[bQ]
  have i1:(0<=((f+(j+1)*st:Nat):Int))=True:=tt;have i3:(((f+(j+1)*st:Nat):Int)< (cs.length:Int))=True:=eq_true γ;have sr1:∀u:Ri,rA 7 7 (f+(j+1)*st) 0 (ap u) 7 (bQ cs)=some (bQ (cs.set (f+(j+1)*st) u)):=fun u=>Ha γ;have ih':=ih (j+1) ω _ _ (he.set (k:=f+(j+1)*st) pd2) _ _ pd;have hdv:ML n (fun j=>f+j*st) (k+1) (j+1) b g=ML n (fun j=>f+j*st) k (j+1+1) (b*((k+1:Nat):Rat)/ ((j+1:Nat):Rat)) (gs g (f+(j+1)*st) (g (f+(j+1)*st)/ (b*((k+1:Nat):Rat)/ ((j+1:Nat):Rat)))):=by
   rw[←hbe];rfl
  rw[hdv,ag];generalize ax _ _ _=L at ih'⊢;generalize yt (k+1)=c1 at*
  generalize yt (j+1)=c2 at*
  generalize iu sc ⟨c1,c1,false⟩ p=z at*
  generalize Rg z ⟨c2,c2,false⟩ p=v at*
  generalize Rg x v p=y at*
  simp only[bC,am,ap]at cm;simp only[ae,ah,am,ap]at ci1 ci2 cp1 cp2 cd cd2;simp only[ap]at q1 sr1;simp only[bC]at k2 hg;simp only[fO]at k6 hs;simp only[hH,go_sem,g0,g1,g2,g3,g6,g7,k0,k1,k2,k3,k6,hg,hs,e1,w0,w5,ci1,cp1];have fp:=fun(h h':ac) (d:Nat) (x y:Ri)=>ada (h:=h) (h':=h') (d:=d) (id:=1002) (ds:=ds) (cs:=cs) (p:=p) (x:=x) (y:=y) δ;simp only[bC,am,ap]at fp;have fp1:=fun(h h':ac) (d:Nat)=>fp h h' d sc ⟨c1,c1,false⟩;rw[cm _ _ rfl rfl];simp only[go_sem,fp1,ano,ci2,cp2,cd,w1,w2,i1,i3,yV,Dy,ayk,ayc,q1,cd2,G9,sr1,w4];exact ih' _ _ _ rfl rfl rfl rfl rfl rfl rfl rfl ⟨rfl,rfl,rfl,rfl⟩
attribute [-go_sem] B1 in
theorem akR{ds:List Int}{p:Int}{N f st n j:Nat}(hN:f+n*st<N)(hN4:N<=400)(hn:n<=400):∀ (k:Nat),j+k<=n->∀ (cs:List Ri) (g:G),jE N cs g->∀ (s:ak) (h:ac) (X:Option (Ex×St)),ai 4 [0,1,2,3,8] (ax (aj R (az false) eZ) [0,1,2,3,8,9] [1000,1001,1002,1003] s h)=X->
  s 0=I f->s 1=I st->s 2=.ref 1000 none 0 0 0->s 3=.ref 1001 none 0 0 0->s 8=I (j+1:Nat)->s 9=I (j+k:Nat)->beO n ds cs p h->
  ∃hh cs',X=some (.normal,⟨upd (upd (upd (upd (upd (fun _=>.any) 8 (I (j+1:Nat))) 3 (.ref 1001 none 0 0 0)) 2 (.ref 1000 none 0 0 0)) 1 (I st)) 0 (I f),hh⟩)/\beO n ds cs' p hh/\jE N cs' (Pn (fun j=>f+j*st) j k g):=by
 intro k;induction k with
 |zero=>
  intro hk cs g he s h X hX g0 g1 g2 g3 g8 g9 ho;subst hX;obtain⟨k0,k1,k2,k3⟩:=ho;have e1:(((j+1:Nat):Int)<=((j+0:Nat):Int))=False:=ff;have hg:=(cr ds cs p).cl [1000,1001,1002,1003];rw[ag];refine⟨?hh0,cs,?_,?_,he⟩;rotate_left
  ·simp only[eZ,go_sem,g0,g1,g2,g3,g8,g9,k0,k1,k2,k3,hg,e1];rfl
  ·exact⟨rfl,rfl,rfl,rfl⟩
 |succ k ih=>
  intro hk cs g he s h X hX g0 g1 g2 g3 g8 g9 ho;subst hX;obtain⟨k0,k1,k2,k3⟩:=ho;have hm1:(j+k+1)*st<=n*st:=aym _ ω;have hs2:(j+k+1)*st=(j+k)*st+st:=γ
  have e1:(((j+1:Nat):Int)<=((j+(k+1):Nat):Int))=True:=tt;have w0:IntKind.i64.wrap (((j+(k+1):Nat):Int)-1)=((j+k:Nat):Int):=wi;have w1:IntKind.i64.wrap (((j+(k+1):Nat):Int)*st)=(((j+k+1)*st:Nat):Int):=wi (Int.natCast_mul ..).symm ω;have w2:IntKind.i64.wrap ((f:Int)+(((j+k+1)*st:Nat):Int))=((f+(j+k+1)*st:Nat):Int):=wi;have w3:IntKind.i64.wrap (((j+k:Nat):Int)*st)=(((j+k)*st:Nat):Int):=wi (Int.natCast_mul ..).symm ω;have w4:IntKind.i64.wrap ((f:Int)+(((j+k)*st:Nat):Int))=((f+(j+k)*st:Nat):Int):=wi;obtain⟨x,x1,x2⟩:=he.get (k:=f+(j+k+1)*st) ω;obtain⟨y,y1,y2⟩:=he.get (k:=f+(j+k)*st) ω;have hg:=(cr ds cs p).cl [1000,1001,1002,1003];have ca:=fun(h:ac) (d:Nat) hh hd=>SZ (ds:=ds) (cs:=cs) (p:=p) (h:=h) (d:=d) (id:=1002) x2.ok y2.ok hh hd;have pa:=ww (p:=p) x2 y2;have q1:(bQ cs)[f+(j+k+1)*st]?=some (ap x):=by grind[bQ]
  have q2:(bQ cs)[f+(j+k)*st]?=some (ap y):=by grind[bQ]
  have i1:(0<=((f+(j+k+1)*st:Nat):Int))=True:=tt;have i2:(0<=((f+(j+k)*st:Nat):Int))=True:=tt;have i3:(((f+(j+k+1)*st:Nat):Int)< (cs.length:Int))=True:=eq_true γ;have i4:(((f+(j+k)*st:Nat):Int)< (cs.length:Int))=True:=eq_true γ;have sr1:∀u:Ri,rA 7 7 (f+(j+k+1)*st) 0 (ap u) 7 (bQ cs)=some (bQ (cs.set (f+(j+k+1)*st) u)):=fun u=>Ha γ;have ih':=ih ω _ _ (he.set (k:=f+(j+k+1)*st) pa);have fp:=fun(h h':ac) (d:Nat) (x y:Ri)=>ada (h:=h) (h':=h') (d:=d) (id:=1002) (ds:=ds) (cs:=cs) (p:=p) (x:=x) (y:=y) δ;simp only[bC,am,ap]at fp;rw[ag];generalize ax _ _ _=L at ih'⊢;generalize eG x y p=z at*
  simp only[bC,am,ap]at ca;simp only[ap]at q1 q2 sr1;simp only[bC]at k2 hg;simp only[eZ,go_sem,g0,g1,g2,g3,g8,g9,k0,k1,k2,k3,hg,e1,w0,w1,w2,w3,w4,i1,i2,i3,i4,yV,Dy,ayk,ayc,q1,q2];rw[ca _ _ rfl rfl];simp only[go_sem,fp,w0,i1,i3,ayk,ayc,G9,sr1];exact ih' _ _ _ rfl rfl rfl rfl rfl rfl rfl ⟨rfl,rfl,rfl,rfl⟩
theorem akS{ds:List Int}{p:Int}{N f st n:Nat}(hN:f+n*st<N)(hN4:N<=400)(hn:n<=400):∀ (k j:Nat),j+k=n->∀ (cs:List Ri) (g:G),jE N cs g->∀ (s:ak) (h:ac) (X:Option (Ex×St)),ai 2 [] (ax (aj R (az false) hF) [0,1,2,3,8] [1000,1001,1002,1003] s h)=X->
  s 0=I f->s 1=I st->s 2=.ref 1000 none 0 0 0->s 3=.ref 1001 none 0 0 0->s 8=I (j+1:Nat)->beO n ds cs p h->
  ∃hh cs',X=some (.normal,⟨fun _=>.any,hh⟩)/\beO n ds cs' p hh/\jE N cs' (SR (fun j=>f+j*st) k j g):=by
 intro k;induction k with
 |zero=>
  intro j hk cs g he s h X hX g0 g1 g2 g3 g8 ho;subst hX;obtain⟨k0,k1,k2,k3⟩:=ho;have e1:(((j+1:Nat):Int)<=n)=False:=ff;have hg:=(cr ds cs p).cl [1000,1001,1002,1003];rw[ag];refine⟨?hh0,cs,?_,?_,he⟩;rotate_left
  ·simp only[hF,go_sem,g0,g1,g2,g3,g8,k0,k1,k2,k3,hg,e1];rfl
  ·exact⟨rfl,rfl,rfl,rfl⟩
 |succ k ih=>
  intro j hk cs g he s h X hX g0 g1 g2 g3 g8 ho;subst hX;obtain⟨k0,k1,k2,k3⟩:=ho;have e1:(((j+1:Nat):Int)<=n)=True:=tt;have w2:IntKind.i64.wrap (((j+1:Nat):Int)+1)=((j+1+1:Nat):Int):=wi;have hg:=(cr ds cs p).cl [1000,1001,1002,1003];have hu:=akR (ds:=ds) (p:=p) hN hN4 hn (j:=j) (k+1) ω cs g he;have ih':=ih (j+1) ω;rw[ag];simp only[hF,go_sem,g0,g1,g2,g3,g8,k0,k1,k2,k3,hg,e1];generalize hX:ai 4 _ _=X;obtain⟨hh,cs',rfl,ho2,he2⟩:=hu _ _ _ hX rfl rfl rfl rfl rfl (by rw[hk];rfl) ⟨rfl,rfl,rfl,rfl⟩;simp only[go_sem,w2];exact ih' cs' _ he2 _ _ _ rfl rfl rfl rfl rfl rfl ho2
theorem aio{ds:List Int}{cs:List Ri}{p:Int}{N f st n:Nat}{g:G}(he:jE N cs g)(hN:f+n*st<N)(hN4:N<=400)(hn:n<=400):
  ∃cs',R fau [I f,I st,.ref 1000 none 0 0 0,.ref 1001 none 0 0 0] [.bx [I n],.bx [.ref 1002 none 0 0 0],bC ds cs p]=some (.tup [],[.bx [I n],.bx [.ref 1002 none 0 0 0],bC ds cs' p])/\jE N cs' (Pp n (fun j=>f+j*st) g):=by
 have h2:=akQ (ds:=ds) (p:=p) hN hN4 hn n 0 (ayc _) cs g he ⟨one,one,false⟩ 1 (by rw[←Kx];exact sn dN.1 dN.2);have h3:=fun(cs:List Ri) (g:G) he=>akS (ds:=ds) (p:=p) (n:=n) (st:=st) (f:=f) hN hN4 hn n 0 (ayc _) cs g he;have hi:=Kb;have hp:=gX dN.2 dN.1;refine Ly cZ.2.1 cZ.2.2 (cZ.1.2.2.2 false) rfl (ayU rfl) ?_;simp only[ae,ah,am,ap]at hi hp;simp only[mD,uR,Xy,go_sem,hi,hp];generalize hX:ai 0 _ _=X;obtain⟨hh,cs1,rfl,ho,he1⟩:=h2 _ _ _ hX rfl rfl rfl rfl rfl rfl rfl ⟨rfl,rfl,rfl,rfl⟩;obtain⟨k0,k1,k2,k3⟩:=ho;simp only[go_sem];generalize hX:ai 2 _ _=X;obtain⟨hh2,cs2,rfl,ho,he2⟩:=h3 cs1 _ he1 _ _ _ hX rfl rfl rfl rfl rfl ⟨k0,k1,k2,k3⟩;obtain⟨k0,k1,k2,k3⟩:=ho;refine⟨cs2,?_,he2⟩;have hp3:de 3=[1000,1001,1002]:=rfl;refine PF γ ?_;rfl
noncomputable def Ck:Cmd:=.ops [0,1,2,6,15,16] [cm 32 2,cm 33 7,cm 34 6,⟨(some 35),none,.call (.t 32) [.t 33,.t 34]⟩]
theorem EU:qY=.seq (.ops [0,1,2,6,15,16,17] [b2 17 .lss 16 15]) (.seq (.cond (.t 17) (.skip) (.exit 0)) (.seq (.block 1 [0,1,2,6,15,16] (.seq (.ops [0,1,2,6,7,15,16] [cm 18 16,cm 7 18]) (.seq (.dops [0,1,2,6,7,15,16,31] [cm 19 7,cm 20 6,b2 21 .quo 19 20,cm 22 0,nk 23 22,fa 24 0 23,ld 25 1 24,cm 26 1,co 27 (.iadrS 1 (.t 25) (.t 26)),ld 28 1 27,co 29 (.bin .add (.t 28) (.c (I 1))),b2 30 .rem 21 29,co 31 (.bin .eql (.t 30) (.c (I 0)))] []) (.cond (.t 31) Ck (.skip))))) (.ops [0,1,2,6,15,16] [co 36 (.bin .add (.t 16) (.c (I 1))),cm 16 36]))):=rfl
structure LnO (cl:AV) (ds:List Int) (p:Int) (N k st n:Nat) (op:Nat->G->G) (o1 o2 o3 o4:Ob):Prop where
 c1:aD [1000,1001,1002,1003,1004] o1=true
 c2:aD [1000,1001,1002,1003,1004] o2=true
 c3:aD [1000,1001,1002,1003,1004] o3=true
 c4:aD [1000,1001,1002,1003,1004] o4=true
 c5:gD [1000,1001,1002,1003,1004] cl=cl
 run:∀ (f:Nat) (cs:List Ri) (g:G),jE N cs g->f<N->f/st% (n+1)=0->∀ (s:ak) (h:ac) (X:Option (Ex×St)),aj R (az false) Ck s h=X->s 0=.ref 1000 none 0 0 0->s 1=I k->s 2=cl->s 6=I st->s 7=I f->s 15=I N->s 16=I f->h 1000=bC ds cs p->h 1001=o1->h 1002=o2->h 1003=o3->h 1004=o4->h 2280=.dead->
  ∃cs' hh,X=some (.normal,⟨upd (upd (upd (upd (upd (upd (fun _=>.any) 16 (I f)) 15 (I N)) 6 (I st)) 2 cl) 1 (I k)) 0 (.ref 1000 none 0 0 0),hh⟩)/\hh 1000=bC ds cs' p/\hh 1001=o1/\hh 1002=o2/\hh 1003=o3/\hh 1004=o4/\jE N cs' (op f g)
theorem PG{cl:AV}{ds:List Int}{p:Int}{N k st n:Nat}{op:Nat->G->G}{o1 o2 o3 o4:Ob}(L:LnO cl ds p N k st n op o1 o2 o3 o4)(hN4:N<=400)(hs:0<st)(hst:st<=400)(hn:n<=400)(hk:ds[k]?=some (n:Int)):
  ∀ (m i:Nat),i+m=N->∀ (cs:List Ri) (g:G),jE N cs g->∀ (s:ak) (h:ac) (X:Option (Ex×St)),ai 0 [] (ax (aj R (az false) qY) [0,1,2,6,15,16] [1000,1001,1002,1003,1004] s h)=X->
  s 0=.ref 1000 none 0 0 0->s 1=I k->s 2=cl->s 6=I st->s 15=I N->s 16=I i->h 1000=bC ds cs p->h 1001=o1->h 1002=o2->h 1003=o3->h 1004=o4->
  ∃cs' hh,X=some (.normal,⟨fun _=>.any,hh⟩)/\hh 1000=bC ds cs' p/\hh 1001=o1/\hh 1002=o2/\hh 1003=o3/\hh 1004=o4/\jE N cs' (ps op st n m i g):=by
 obtain⟨c1,c2,c3,c4,c5,lr⟩:=L;intro m;induction m with
 |zero=>
  intro i hm cs g he s h X hX g0 g1 g2 g6 g15 g16 k0 k1 k2 k3 k4;subst hX;have e1:((i:Int)<N)=False:=ff;have hg:=(cr ds cs p).cl [1000,1001,1002,1003,1004];rw[ag];refine⟨cs,?hh0,?_,?_,?_,?_,?_,?_,he⟩;rotate_left
  ·simp only[EU,go_sem,g0,g1,g2,g6,g15,g16,k0,k1,k2,k3,k4,hg,c1,c2,c3,c4,c5,e1];rfl
  all_goals rfl
 |succ m ih=>
  intro i hm cs g he s h X hX g0 g1 g2 g6 g15 g16 k0 k1 k2 k3 k4;subst hX;have e1:((i:Int)<N)=True:=tt;have hg:=(cr ds cs p).cl [1000,1001,1002,1003,1004];have w1:IntKind.i64.wrap (Int.tdiv (i:Int) st)=((i/st:Nat):Int):=by
   have:=Nat.div_le_self i st;grind[wi]
  have w2:IntKind.i64.wrap ((n:Int)+1)=((n+1:Nat):Int):=wi;have w4:IntKind.i64.wrap ((i:Int)+1)=((i+1:Nat):Int):=wi;have d1:((st:Int)=0)=False:=ff;have d2:(((n+1:Nat):Int)=0)=False:=ff;have hr:=lr i cs g he ω;have ih':=ih (i+1) ω;have hps:ps op st n (m+1) i g=ps op st n m (i+1) (if i/st% (n+1)=0 then op i g else g):=rfl;rw[hps,ag];generalize ax _ _ _=L at ih'⊢;have hkl:k<ds.length:=(List.getElem?_eq_some_iff.1 hk).1;have i1:(0<=(k:Int))=True:=tt;have i2:((k:Int)< (ds.length:Int))=True:=tt;have q1:(aO ds)[k]?=some [I n]:=by grind[aO]
  by_cases h0:i/st% (n+1)=0
  ·have e2:(Int.tmod ((i/st:Nat):Int) ((n+1:Nat):Int)=0)=True:=eq_true γ;rw[if_pos h0];have hr:=hr h0;simp only[bC]at k0 hg;simp only[EU,go_sem,g0,g1,g2,g6,g15,g16,k0,k1,k2,k3,k4,hg,c1,c2,c3,c4,c5,e1,e2,w1,w2,d1,d2,ru,yU,q1,i1,i2,ayk,ayc];generalize hX:aj R (az false) Ck _ _=X;obtain⟨cs',hh,rfl,r0,r1,r2,r3,r4,he2⟩:=hr _ _ _ hX rfl rfl rfl rfl rfl rfl rfl rfl rfl rfl rfl rfl rfl;simp only[go_sem,w4,c5];exact ih' cs' _ he2 _ _ _ rfl rfl rfl rfl rfl rfl rfl r0 r1 r2 r3 r4
  ·have e2:(Int.tmod ((i/st:Nat):Int) ((n+1:Nat):Int)=0)=False:=eq_false γ;rw[if_neg h0];simp only[bC]at k0 hg;simp only[EU,go_sem,g0,g1,g2,g6,g15,g16,k0,k1,k2,k3,k4,hg,c1,c2,c3,c4,c5,e1,e2,w1,w2,w4,d1,d2,ru,yU,q1,i1,i2,ayk,ayc];exact ih' cs g he _ _ _ rfl rfl rfl rfl rfl rfl rfl rfl rfl rfl rfl rfl
def dI(l:List Nat):List Int:=l.map Int.ofNat
def bB:List Nat->Nat->Nat
 |[],n=>n
 |d::l,n=>bB l (n*(d+1))
theorem Lz:∀ (ds:List Nat) (n:Nat),NR (dI ds) (n:Int)=(bB ds n:Nat)
 |[],_=>rfl
 |d::ds,n=>by
  show NR (dI ds) ((n:Int)*(Int.ofNat d+1))=(bB ds (n*(d+1)):Nat);rw[←Lz ds (n*(d+1)),Int.natCast_mul];rfl
theorem nS:∀ (ds:List Nat) (n:Nat),0<n->n<=bB ds n
 |[],_,_=>ayd _
 |d::ds,n,h=>ayj (Nat.le_mul_of_pos_right n (Nat.succ_pos d)) (nS ds _ (Nat.mul_pos h (Nat.succ_pos d)))
theorem NT:∀ (ds:List Nat) (n:Nat),bB ds n=n*bB ds 1
 |[],n=>(Nat.mul_one n).symm
 |d::ds,n=>by
  show bB ds (n*(d+1))=n*bB ds (1*(d+1));rw[NT ds (n*(d+1)),NT ds (1*(d+1)),Nat.one_mul,ayD]
theorem Il:∀ (ds:List Nat) (k n d:Nat),ds[k]?=some d->bB ds n=bB (ds.take k) n*(d+1)*bB (ds.drop (k+1)) 1
 |d'::ds,0,n,d,h=>by
  have:d'=d:=γ
  subst this;exact NT ds _
 |d'::ds,k+1,n,d,h=>Il ds k (n*(d'+1)) d γ
 |[],_,_,_,h=>by grind
theorem aaC{N st n H f:Nat}(hN:N=st*(n+1)*H)(hs:0<st)(hf:f<N)(h0:f/st% (n+1)=0):f+n*st<N:=by
 have h1:=ay4 f st;have h2:=ayI f hs;have h3:=ay4 (f/st) (n+1);rw[h0,ayF]at h3;generalize f/st/ (n+1)=q at*
 have h4:q<H:=by
  refine Nat.lt_of_mul_lt_mul_left (a:=st*(n+1)) ?_;rw[←hN,ayD,h3];omega
 have h5:st*(n+1)*(q+1)<=N:=by
  rw[hN];exact ay7 _ h4
 rw[←h3]at h1;grind
theorem afL{dn:List Nat}{cs:List Ri}{p:Int}{k n:Nat}{lo w:Ri}{l u:Rat}{g:G}(hl:In l lo)(hw:In u w)(hk:dn[k]?=some n)(h8:dn.length<=8)(hb:∀d∈dn,d<=32)(hN4:bB dn 1<=400)(he:jE (bB dn 1) cs g):
  ∃cs',R fav [.ref 1000 none 0 0 0,I k,.fn faz [] [.ref 1001 none 0 0 0,.ref 1002 none 0 0 0,.ref 1003 none 0 0 0,.ref 1004 none 0 0 0]] [bC (dI dn) cs p,.bx [I n],.bx [.ref 1000 none 0 0 0],fO lo,fO w]=some (.tup [],[bC (dI dn) cs' p,.bx [I n],.bx [.ref 1000 none 0 0 0],fO lo,fO w])/\
   jE (bB dn 1) cs' (ps (fun f=>Po l u n (fun j=>f+j*bB (dn.take k) 1)) (bB (dn.take k) 1) n (bB dn 1) 0 g):=by
 have hkl:k<dn.length:=(List.getElem?_eq_some_iff.1 hk).1;have hn:n<=32:=hb n (List.mem_of_getElem? hk);have hbI:∀d∈dI dn,0<=d/\d<=32:=fun d hd=>by
  obtain⟨x,hx,rfl⟩:=List.mem_map.1 hd;grind
 have hsp:=Il dn k 1 n hk;have hs0:=nS (dn.take k) 1 δ;have hst:bB (dn.take k) 1<=400:=by
  refine ayj ?_ hN4;rw[hsp,ayD];exact Nat.le_mul_of_pos_right _ (Nat.mul_pos (Nat.succ_pos n) (nS _ 1 δ))
 have hstep:=fun(h:ac) (d:Nat) (hh:h 1000=bC (dI dn) cs p) (hd:h (2000+8*d)=.dead)=>dy (me false) rfl (KB (m:=k) (by grind[dI]) ω hbI (d:=d) hh hd);rw[show(dI dn).take k=dI (dn.take k)from(List.map_take ..).symm,show(1:Int)=((1:Nat):Int)from rfl,Lz]at hstep;generalize bB (dn.take k) 1=st at*
 generalize bB dn 1=N at*
 have L:LnO (.fn faz [] [.ref 1001 none 0 0 0,.ref 1002 none 0 0 0,.ref 1003 none 0 0 0,.ref 1004 none 0 0 0]) (dI dn) p N k st n (fun f=>Po l u n (fun j=>f+j*st)) (.bx [I n]) (.bx [.ref 1000 none 0 0 0]) (fO lo) (fO w):=by
  refine⟨rfl,rfl,(ge lo).cl _,(ge w).cl _,rfl,?_⟩;intro f cs g he hf h0 s h X hX g0 g1 g2 g6 g7 g15 g16 k0 k1 k2 k3 k4 kd;subst hX;obtain⟨cs',hR,he'⟩:=ain (ds:=dI dn) (p:=p) hl hw he (aaC hsp ω hf h0) hN4 ω;have hc:=ac7 hR (d:=35) k0 k1 k2 k3 k4 kd;refine⟨cs',?hh0,?_,?_,?_,?_,?_,?_,he'⟩;rotate_left
  ·simp only[Ck,go_sem,g0,g1,g2,g6,g7,g15,g16,hc];rfl
  all_goals rfl
 refine Ly bA.2.1 bA.2.2 (bA.1.2.2.2 false) rfl (ayU rfl) ?_;have hll:=PG L hN4 ω hst ω (by grind[dI]) N 0 (ayc _) cs g he;simp only[nZ,uQ,Xx,go_sem];rw[hstep _ _ rfl rfl];have hlen:(cs.length:Int)=N:=by rw[he.1]
 have hgo:=(cr (dI dn) cs p).cl [1000,1001,1002,1003,1004];simp only[bC]at hgo⊢;simp only[go_sem,hlen,hgo,(ge lo).cl,(ge w).cl];generalize hX:ai 0 _ _=X;obtain⟨cs',hh,rfl,k0,k1,k2,k3,k4,he2⟩:=hll _ _ _ hX rfl rfl rfl rfl rfl rfl rfl rfl rfl rfl rfl;refine⟨cs',?_,he2⟩;have hp5:de 5=[1000,1001,1002,1003,1004]:=rfl;refine PF (by grind[List.map,bC]) ?_;rfl
theorem afM{dn:List Nat}{cs:List Ri}{p:Int}{k n:Nat}{g:G}(hk:dn[k]?=some n)(h8:dn.length<=8)(hb:∀d∈dn,d<=32)(hN4:bB dn 1<=400)(he:jE (bB dn 1) cs g):
  ∃cs',R fav [.ref 1000 none 0 0 0,I k,.fn fau [] [.ref 1001 none 0 0 0,.ref 1002 none 0 0 0]] [bC (dI dn) cs p,.bx [I n],.bx [.ref 1000 none 0 0 0]]=some (.tup [],[bC (dI dn) cs' p,.bx [I n],.bx [.ref 1000 none 0 0 0]])/\
   jE (bB dn 1) cs' (ps (fun f=>Pp n (fun j=>f+j*bB (dn.take k) 1)) (bB (dn.take k) 1) n (bB dn 1) 0 g):=by
 have hkl:k<dn.length:=(List.getElem?_eq_some_iff.1 hk).1;have hn:n<=32:=hb n (List.mem_of_getElem? hk);have hbI:∀d∈dI dn,0<=d/\d<=32:=fun d hd=>by
  obtain⟨x,hx,rfl⟩:=List.mem_map.1 hd;grind
 have hsp:=Il dn k 1 n hk;have hs0:=nS (dn.take k) 1 δ;have hst:bB (dn.take k) 1<=400:=by
  refine ayj ?_ hN4;rw[hsp,ayD];exact Nat.le_mul_of_pos_right _ (Nat.mul_pos (Nat.succ_pos n) (nS _ 1 δ))
 have hstep:=fun(h:ac) (d:Nat) (hh:h 1000=bC (dI dn) cs p) (hd:h (2000+8*d)=.dead)=>dy (me false) rfl (KB (m:=k) (by grind[dI]) ω hbI (d:=d) hh hd);rw[show(dI dn).take k=dI (dn.take k)from(List.map_take ..).symm,show(1:Int)=((1:Nat):Int)from rfl,Lz]at hstep;generalize bB (dn.take k) 1=st at*
 generalize bB dn 1=N at*
 have L:LnO (.fn fau [] [.ref 1001 none 0 0 0,.ref 1002 none 0 0 0]) (dI dn) p N k st n (fun f=>Pp n (fun j=>f+j*st)) (.bx [I n]) (.bx [.ref 1000 none 0 0 0]) .dead .dead:=by
  refine⟨rfl,rfl,rfl,rfl,rfl,?_⟩;intro f cs g he hf h0 s h X hX g0 g1 g2 g6 g7 g15 g16 k0 k1 k2 k3 k4 kd;subst hX;obtain⟨cs',hR,he'⟩:=aio (ds:=dI dn) (p:=p) he (aaC hsp ω hf h0) hN4 ω;have hc:=ac8 hR (d:=35) k0 k1 k2 kd;refine⟨cs',?hh0,?_,?_,?_,?_,?_,?_,he'⟩;rotate_left
  ·simp only[Ck,go_sem,g0,g1,g2,g6,g7,g15,g16,hc];rfl
  all_goals first|rfl|assumption
 refine Ly bA.2.1 bA.2.2 (bA.1.2.2.2 false) rfl (ayU rfl) ?_;have hll:=PG L hN4 ω hst ω (by grind[dI]) N 0 (ayc _) cs g he;simp only[nZ,uQ,Xy,go_sem];rw[hstep _ _ rfl rfl];have hlen:(cs.length:Int)=N:=by rw[he.1]
 have hgo:=(cr (dI dn) cs p).cl [1000,1001,1002,1003,1004];simp only[bC]at hgo⊢;simp only[go_sem,hlen,hgo];generalize hX:ai 0 _ _=X;obtain⟨cs',hh,rfl,k0,k1,k2,k3,k4,he2⟩:=hll _ _ _ hX rfl rfl rfl rfl rfl rfl rfl rfl rfl rfl rfl;refine⟨cs',?_,he2⟩;have hp5:de 3=[1000,1001,1002]:=rfl;refine PF (by grind[List.map,bC]) ?_;rfl
theorem akT{dn:List Nat}{cs:List Ri}{p:Int}{k n:Nat}{g:G}(hk:dn[k]?=some n)(h8:dn.length<=8)(hb:∀d∈dn,d<=32)(hN4:bB dn 1<=400)(he:jE (bB dn 1) cs g):
  ∃cs',R fat [.ref 1000 none 0 0 0,I k] [bC (dI dn) cs p]=some (.tup [],[bC (dI dn) cs' p])/\jE (bB dn 1) cs' (ps (fun f=>Pp n (fun j=>f+j*bB (dn.take k) 1)) (bB (dn.take k) 1) n (bB dn 1) 0 g):=by
 obtain⟨cs',hR,he'⟩:=afM (p:=p) hk h8 hb hN4 he;refine⟨cs',wu eB.2.1 eB.2.2 (eB.1.2.2.2 false) rfl ?_,he'⟩;have e3:(aO (dI dn))[k]?=some [I n]:=by grind[aO,dI]
 have e7:(0<=(k:Int))=True:=tt;have e8:((k:Int)< ((dI dn).length:Int))=True:=eq_true (by grind[dI]);have hl:=fun(h:ac) (d:Nat) h0 h1 h2 hf=>Xz (bA.1.2.1 false) rfl (PE hR (h:=h) (d:=d) h0 h1 h2 hf);simp only[bC]at hl⊢;simp only[oC,xp,go_sem,ayc];rw[afF (cs:=[.osl 1 (aO (dI dn)),.osl 7 (bQ cs),I p]) rfl rfl];simp only[go_sem,e3,e7,e8,Bs,ayk,ayc,ru,yU];rw[hl _ _ rfl rfl rfl rfl];rfl
theorem akU{dn:List Nat}{cs:List Ri}{p:Int}{k n:Nat}{b:Ri}{g:G}(vl:vd b.lo=true/\Ok0 b.lo)(vh:vd b.hi=true/\Ok0 b.hi)(hk:dn[k]?=some n)(h8:dn.length<=8)(hb:∀d∈dn,d<=32)(hN4:bB dn 1<=400)(he:jE (bB dn 1) cs g):
  ∃cs',R fay [.ref 1000 none 0 0 0,I k,am b] [bC (dI dn) cs p]=some (.tup [],[bC (dI dn) cs' p])/\jE (bB dn 1) cs' (ps (fun f=>Po (qv b.lo) (qv b.hi-qv b.lo) n (fun j=>f+j*bB (dn.take k) 1)) (bB (dn.take k) 1) n (bB dn 1) 0 g):=by
 have i1:=sn vl.1 vl.2;have i2:=sn vh.1 vh.2;have i3:=Rj (p:=p) i2 i1;obtain⟨cs',hR,he'⟩:=afL (p:=p) i1 i3 hk h8 hb hN4 he;refine⟨cs',wu gV.2.1 gV.2.2 (gV.1.2.2.2 false) rfl ?_,he'⟩;have e3:(aO (dI dn))[k]?=some [I n]:=by grind[aO,dI]
 have e7:(0<=(k:Int))=True:=tt;have e8:((k:Int)< ((dI dn).length:Int))=True:=eq_true (by grind[dI]);have hl:=fun(h:ac) (d:Nat) h0 h1 h2 h3 h4 hf=>Xz (bA.1.2.1 false) rfl (PD hR (h:=h) (d:=d) h0 h1 h2 h3 h4 hf);have p1:=gX vl.2 vl.1;have p2:=gX vh.2 vh.1;have p3:=Rh i2.ok i1.ok (p:=p);simp only[bC,fO]at hl⊢;simp only[ae,ah,am,ap]at p1 p2 p3;simp only[uM,CV,am,ap,go_sem,ayc];rw[afF (cs:=[.osl 1 (aO (dI dn)),.osl 7 (bQ cs),I p]) rfl rfl];simp only[go_sem,e3,e7,e8,Bs,ayk,ayc,ru,yU,p1,p2,p3];rw[hl _ _ rfl rfl rfl rfl rfl rfl];rfl
theorem aip{n:Nat}(hn:n<=400):R fag [W 1,W n] []=some (.tup [W 0,W n],[]):=by
 refine au Wf rfl ?_;have a1:dU .and (W 1) (W 4294967295)=some (W 1):=rfl;have a2:dU .and (W n) (W 4294967295)=some (W n):=by
  rw[Ch rfl ω,ayV ω]
 have s1:dU .shr (W 1) (W 32)=some (W 0):=rfl;have s2:dU .shr (W n) (W 32)=some (W 0):=(qz (i:=(n:Int)) (j:=32) (k:=32) rfl rfl δ).trans γ;have s3:dU .shr (W 0) (W 32)=some (W 0):=rfl;have a3:dU .and (W 0) (W 4294967295)=some (W 0):=rfl;have w1:IntKind.u64.wrap (1*(n:Int))=n:=dK ω ω;have w2:IntKind.u64.wrap (0*(n:Int))=0:=by rw[Int.zero_mul];rfl
 have w3:IntKind.u64.wrap ((0:Int)+0)=0:=rfl;have w4:IntKind.u64.wrap ((1:Int)*0)=0:=rfl;have w5:IntKind.u64.wrap ((0:Int)*0)=0:=rfl;simp only[CL,JQ,go_sem,a1,a2,a3,s1,s2,s3,w1,w2,w3,w4,w5]
theorem akV{n:Nat}(hn:n<=400):R fae [W 1,W n] []=some (.tup [W 0,W n],[]):=by
 refine au acx rfl ?_;have h:=aip hn;simp only[Gf,OO,go_sem,h]
theorem aiq{X Z:List AV}{N:Nat}(hN:N<=400)(c:List Bool):∀ (k m:Nat),N-m<=k->1<=m->m<=N->∀ (s:ak) (h:ac) (Y:Option (Ex×St)),ai 0 [7] (ax (aj R (az false) cJ) [7,8] [30] s h)=Y->
  s 7=.rsl 30 none 7 0 N->s 8=I m->h 30=.ar 7 (aya m X++aya (N-m) Z)->
  ∃hh,Y=some (.normal,⟨upd (fun _=>.any) 7 (.rsl 30 none 7 0 N),hh⟩)/\hh 30=.ar 7 (aya N X):=by
 intro k;induction k with
 |zero=>
  intro m hk h1 hm s h Y hY g7 g8 k30;subst hY;have e:m=N:=ω
  subst e;have e1:((m:Int)<m)=False:=ff;rw[Nat.sub_self,List.replicate_zero,ayp]at k30;rw[ag];refine⟨?hh0,?_,?_⟩;rotate_left
  ·simp only[cJ,go_sem,g7,g8,k30,e1];rfl
  ·rfl
 |succ k ih=>
  intro m hk h1 hm s h Y hY g7 g8 k30;by_cases hq:m=N
  ·exact ih m ω h1 hm s h Y hY g7 g8 k30
  subst hY;have e1:((m:Int)<N)=True:=tt;have e2:eA 7 (.rsl 30 none 7 0 N) (some (I (m:Int))) none none=some (.rsl 30 none 7 m (N-m)):=by grind[eA,j8,jW]
  have e3:eA 7 (.rsl 30 none 7 0 N) none (some (I (m:Int))) none=some (.rsl 30 none 7 0 m):=by grind[eA,j8,jW]
  obtain⟨q,hq2⟩:∃q,min (N-m) m=q:=⟨_,rfl⟩;have hq3:min m (N-m)=q:=ω
  have ih':=ih (m+q) ω ω ω;have hl:(aya m X++aya (N-m) Z).length=N:=γ
  have t1:List.take q (aya m X++aya (N-m) Z)=aya q X:=by
   grind
  have t2:List.take m (aya m X++aya (N-m) Z)=aya m X:=by
   grind
  have t3:List.drop (m+q) (aya m X++aya (N-m) Z)=aya (N- (m+q)) Z:=by
   rw[List.drop_append,ayw σ,azc,ayq,List.drop_replicate];grind
  have t4:aya m X++aya q X=aya (m+q) X:=List.replicate_append_replicate;have e4:(0+q<=N)=True:=tt;have e5:(m<=N)=True:=eq_true hm;have w1:IntKind.i64.wrap ((m:Int)+(q:Int))=((m+q:Nat):Int):=wi;rw[ag];simp only[cJ,go_sem,g7,g8,k30,e1,e2,e3,hq2,hq3,hl,t1,t2,t3,t4,e4,e5,azc,w1];exact ih' _ _ _ rfl rfl rfl rfl
theorem afN{x:Ri}{n:Nat}(h1:1<=n)(hn:n<=400):R fdX [.sl 7 [ap x],I n] []=some (.osl 7 (bQ (aya n x)),[]):=by
 refine au rg rfl ?_;have hm:=akV hn;have w1:IntKind.u64.wrap 1=1:=δ
 have w2:((0+1:Nat):Int)=1:=rfl;have w3:IntKind.u64.wrap (n:Int)=n:=dK rfl ω;have w4:IntKind.i64.wrap (n:Int)=n:=wi rfl ω;have e1:((0:Int)<0)=False:=ff δ;have e2:((n:Int)<0)=False:=ff;have e3:(9223372036854775807< (n:Int))=False:=ff;have z1:nU (.v (.int .i64 (n:Int))) (.v (.int .i64 (n:Int)))=some (n,n):=by
  simp only[nU];grind
 have z2:(n*88<=140737488355328)=True:=tt;have tk:∀A:List AV,List.take n [A]=[A]:=fun A=>ayt ω;have hmin:min 1 n=1:=ay0 h1;have dr:List.drop 1 (aya n [B false,.emp,I 0,B false,.emp,I 0,B false])=aya (n-1) [B false,.emp,I 0,B false,.emp,I 0,B false]:=List.drop_replicate;have hl:=aiq (X:=ap x) (Z:=[B false,.emp,I 0,B false,.emp,I 0,B false]) hn [] n 1 ω (ayd _) h1;simp only[eF,iS,ap,go_sem,ayL,ayR,w1,w2,w3,w4,hm,e1,e2,e3,z1,z2,tk,hmin,dr,ayB,azc,true_and,Int.natCast_one];generalize hX:ai 0 _ _=X;obtain⟨hh,rfl,q⟩:=hl _ _ _ hX rfl rfl rfl;simp only[go_sem,q,azc,ayc,ayd,if_true,ayi,ayT];grind[bQ,List.map_replicate]
theorem XD{l:List Nat}{i:Nat}(h:i<l.length):(dI l)[i]?=some ((l.getD i 0:Nat):Int):=by
 grind[dI]
theorem anp{l:List Nat}{i:Nat}(h:i<l.length):(aO (dI l))[i]?=some [I (l.getD i 0:Nat)]:=by
 grind[aO,XD]
theorem Hb(l:List Nat):(dI l).length=l.length:=by simp[dI]
def Mx(dn dn' es:List Nat)(i:Nat):Prop:=dn'.length=dn.length/\(∀d∈dn',d<=32)/\(∀j,dn.getD j 0<=dn'.getD j 0)/\∀j,i<=j->es.getD j 0<=dn'.getD j 0
theorem akW{v:Nat}{p:Int}(h8:v<=8){es:List Nat}(hes:es.length=v)(he32:∀e∈es,e<=32){o2 o8:Ob}(c2:∀l,aD l o2=true)(c8:∀l,aD l o8=true){A:List Rt}{nA iA:Int}:
  ∀ (k i:Nat),i+k=v->∀dn:List Nat,dn.length=v->(∀d∈dn,d<=32)->∀ (s:ak) (h:ac) (X:Option (Ex×St)),ai 2 [2,6,26,27,28] (ax (aj R (az false) l6) [2,6,26,27,28,33,34,35] [2,8,21,24,2624] s h)=X->s 2=.ref 2 none 0 0 0->s 6=.ref 24 none 0 0 0->s 26=.sl 4 (aJ A)->s 27=I nA->s 28=I iA->s 33=.sl 1 (aO (dI es))->s 34=I v->s 35=I i->h 2=o2->h 8=o8->h 21=.dead->h 24=.bx [.osl 1 (aO (dI dn)),.emp,I p]->h 2624=.dead->
  ∃hh dn',X=some (.normal,⟨upd (upd (upd (upd (upd (fun _=>.any) 28 (I iA)) 27 (I nA)) 26 (.sl 4 (aJ A))) 6 (.ref 24 none 0 0 0)) 2 (.ref 2 none 0 0 0),hh⟩)/\hh 2=o2/\hh 24=.bx [.osl 1 (aO (dI dn')),.emp,I p]/\hh 21=.dead/\hh 2624=.dead/\Mx dn dn' es i:=by
 intro k;induction k with
 |zero=>
  intro i hi dn hd hb s h X hX g2 g6 g26 g27 g28 g33 g34 g35 k2 k8 k21 k24 k2624;subst hX;have e1:((i:Int)< (v:Int))=False:=ff;have hc:=c2 [2,8,21,24,2624];have hc8:=c8 [2,8,21,24,2624];rw[ag];refine⟨?hh0,dn,?_,?_,?_,?_,?_,rfl,hb,fun _=>ayd _,fun j hj=>?_⟩;rotate_left
  ·simp only[l6,go_sem,g2,g6,g26,g27,g28,g33,g34,g35,k2,k8,k21,k24,k2624,hc,hc8,e1];rfl
  ·rfl
  ·rfl
  ·rfl
  ·rfl
  grind
 |succ k ih=>
  intro i hi dn hd hb s h X hX g2 g6 g26 g27 g28 g33 g34 g35 k2 k8 k21 k24 k2624;subst hX;have hlt:i<v:=ω
  have e1:((i:Int)< (v:Int))=True:=tt;have e2:=anp (l:=dn) (i:=i) ω;have e3:aX (aO (dI es)) (i:Int)=some (.ipt [I (es.getD i 0:Nat)]):=oR rfl (XD ω);have e5:IntKind.i64.wrap ((i:Int)+1)=((i+1:Nat):Int):=wi;have e6:(0<=(i:Int))=True:=tt;have e7:((i:Int)< ((dI dn).length:Int))=True:=eq_true (by grind[Hb]);have hc:=c2 [2,8,21,24,2624];have hc8:=c8 [2,8,21,24,2624];obtain⟨m,hm⟩:∃m,max (dn.getD i 0) (es.getD i 0)=m:=⟨_,rfl⟩;have em:(if((dn.getD i 0:Nat):Int)< ((es.getD i 0:Nat):Int)then((es.getD i 0:Nat):Int)else((dn.getD i 0:Nat):Int))=(m:Int):=by
   omega
  have e4:rA 1 1 i 0 [I (m:Int)] 1 (aO (dI dn))=some (aO (dI (dn.set i m))):=by
   simp_all[rA,if_pos,setRow,aO,dI,List.map_set]
  have hms:∀d∈dn.set i m,d<=32:=fun d hd2=>by
   rcases List.mem_or_eq_of_mem_set hd2 with h|h
   ·exact hb d h
   ·subst h;have h1:dn.getD i 0<=32:=by
     rw[List.getD_eq_getElem?_getD,List.getElem?_eq_getElem ω];exact hb _ (ayC _)
    have h2:es.getD i 0<=32:=by
     rw[List.getD_eq_getElem?_getD,List.getElem?_eq_getElem ω];exact he32 _ (ayC _)
    omega
  have ih':=ih (i+1) ω (dn.set i m) (by rw[List.length_set];exact hd) hms;rw[ag];generalize ax _ _ _=L at ih'⊢;simp only[l6,go_sem,g2,g6,g26,g27,g28,g33,g34,g35,k2,k8,k21,k24,k2624,hc,hc8,e1,e2,e3,e5,e6,e7,ayk,ayc,ru,yU,akK,em,e4];generalize hX:ai 2 _ _=X;obtain⟨hh,dn',q1,q2,q3,q4,q5,m1,m2,m3,m4⟩:=ih' _ _ _ hX rfl rfl rfl rfl rfl rfl rfl rfl rfl rfl rfl rfl rfl;refine⟨hh,dn',q1,q2,q3,q4,q5,by rw[m1,List.length_set],m2,fun j=>?_,fun j hj=>?_⟩
  all_goals grind
def Nt(v:Nat)(t:Rt)(es:List Nat):Prop:=t.exps=dI es/\es.length=v/\∀e∈es,e<=32
theorem akX{v:Nat}{p:Int}(h8:v<=8){A:List Rt}{E:List (List Nat)}(hA:A.length=E.length)(h5:A.length<=500)(hn:∀ (i:Nat) (t:Rt) (es:List Nat),A[i]?=some t->E[i]?=some es->Nt v t es){o2:Ob}(c2:∀l,aD l o2=true):
  ∀ (k i:Nat),i+k=A.length->∀dn:List Nat,dn.length=v->(∀d∈dn,d<=32)->∀ (s:ak) (h:ac) (X:Option (Ex×St)),ai 0 [2,6] (ax (aj R (az false) qt) [2,6,26,27,28] [2,21,24,2624] s h)=X->s 2=.ref 2 none 0 0 0->s 6=.ref 24 none 0 0 0->s 26=.sl 4 (aJ A)->s 27=I A.length->s 28=I i->h 2=o2->h 21=.dead->h 24=.bx [.osl 1 (aO (dI dn)),.emp,I p]->h 2624=.dead->
  ∃hh dn',X=some (.normal,⟨upd (upd (fun _=>.any) 6 (.ref 24 none 0 0 0)) 2 (.ref 2 none 0 0 0),hh⟩)/\hh 2=o2/\hh 24=.bx [.osl 1 (aO (dI dn')),.emp,I p]/\hh 21=.dead/\hh 2624=.dead/\dn'.length=v/\(∀d∈dn',d<=32)/\(∀j,dn.getD j 0<=dn'.getD j 0)/\∀ (a:Nat) (es:List Nat),i<=a->E[a]?=some es->∀j,es.getD j 0<=dn'.getD j 0:=by
 intro k;induction k with
 |zero=>
  intro i hi dn hd hb s h X hX g2 g6 g26 g27 g28 k2 k21 k24 k2624;subst hX;have e1:((i:Int)< (A.length:Int))=False:=ff;have hc:=c2 [2,21,24,2624];rw[ag];refine⟨?hh0,dn,?_,?_,?_,?_,?_,hd,hb,fun _=>ayd _,fun a es ha he=>?_⟩;rotate_left
  ·simp only[qt,go_sem,g2,g6,g26,g27,g28,k2,k21,k24,k2624,hc,e1];rfl
  ·rfl
  ·rfl
  ·rfl
  ·rfl
  grind
 |succ k ih=>
  intro i hi dn hd hb s h X hX g2 g6 g26 g27 g28 k2 k21 k24 k2624;subst hX;have e1:((i:Int)< (A.length:Int))=True:=tt;obtain⟨t,ht⟩:∃t,A[i]?=some t:=⟨_,List.getElem?_eq_getElem ω⟩;obtain⟨es,hes⟩:∃es,E[i]?=some es:=⟨_,List.getElem?_eq_getElem ω⟩;obtain⟨n1,n2,n3⟩:=hn i t es ht hes;have e2:aX (aJ A) (i:Int)=some (.ipt (bL t)):=fY rfl ht;have e5:IntKind.i64.wrap ((i:Int)+1)=((i+1:Nat):Int):=wi;have hc:=c2 [2,21,24,2624];have hg:=akW (p:=p) h8 n2 n3 c2 (o8:=.bx [.sl 1 (aO (dI es)),B t.c.neg,lm t.c.m,I t.c.e]) (fun _=>rfl) (A:=A) (nA:=A.length) (iA:=i) v 0 (ayc _) dn hd hb;have e3:(aO (dI es)).length=v:=by rw[Bs,Hb,n2]
  rw[bL,n1]at e2;have ih':=ih (i+1) ω;rw[ag];simp only[qt,go_sem,g2,g6,g26,g27,g28,k2,k21,k24,k2624,hc,e1,e2,e3];generalize hX:ai 2 _ _=X;obtain⟨hh,dn',rfl,q2,q24,q21,q2624,m1,m2,m3,m4⟩:=hg _ _ _ hX rfl rfl rfl rfl rfl rfl rfl rfl rfl rfl rfl rfl rfl;simp only[go_sem,e5];generalize hX:ai 0 _ _=X;obtain⟨hh2,dn2,r1,r2,r3,r4,r5,u1,u2,u3,u4⟩:=ih' dn' ω m2 _ _ _ hX rfl rfl rfl rfl rfl q2 q21 q24 q2624;grind
theorem S0:∀ (l:List Nat) (d n:Nat),bB (l++[d]) n=bB l n*(d+1)
 |[],_,_=>rfl
 |a::l,d,n=>S0 l d (n*(a+1))
theorem afO{dn:List Nat}{i:Nat}(h:i<dn.length):bB (dn.take (i+1)) 1=bB (dn.take i) 1*(dn.getD i 0+1):=by
 grind[List.take_add_one,S0]
theorem air{dn es:List Nat}{i s:Nat}(h:i<dn.length)(h2:i<es.length):pos (dn.drop i) (es.drop i) s=es.getD i 0*s+pos (dn.drop (i+1)) (es.drop (i+1)) (s*(dn.getD i 0+1)):=by
 rw[ayv h,ayv h2,List.getD_eq_getElem?_getD,List.getD_eq_getElem?_getD,List.getElem?_eq_getElem h,List.getElem?_eq_getElem h2];rfl
theorem akY{dn es:List Nat}{cs:List Ri}{p:Int}{v:Nat}(h8:v<=8)(hd:dn.length=v)(hb:∀d∈dn,d<=32)(hN4:bB dn 1<=400)(hes:es.length=v)(he32:∀e∈es,e<=32){o2 o15:Ob}(c2:∀l,aD l o2=true)(c15:∀l,aD l o15=true){A:List Rt}{nA iA:Int}:
  ∀ (k i:Nat),i+k=v->∀ (at_:Nat),at_+pos (dn.drop i) (es.drop i) (bB (dn.take i) 1)<=400->∀ (s:ak) (h:ac) (X:Option (Ex×St)),ai 8 [6,15,16,82,83,84] (ax (aj R (az false) jI) [6,15,16,82,83,84,89,90,91] [2,15,21,24,2624] s h)=X->s 6=.ref 24 none 0 0 0->s 15=.ref 15 none 0 0 0->s 16=I at_->s 82=.sl 4 (aJ A)->s 83=I nA->s 84=I iA->s 89=.sl 1 (aO (dI es))->s 90=I v->s 91=I i->h 2=o2->h 15=o15->h 21=.dead->h 24=bC (dI dn) cs p->h 2624=.dead->
  ∃hh,X=some (.normal,⟨upd (upd (upd (upd (upd (upd (fun _=>.any) 84 (I iA)) 83 (I nA)) 82 (.sl 4 (aJ A))) 16 (I (at_+pos (dn.drop i) (es.drop i) (bB (dn.take i) 1):Nat))) 15 (.ref 15 none 0 0 0)) 6 (.ref 24 none 0 0 0),hh⟩)/\hh 2=o2/\hh 15=o15/\hh 24=bC (dI dn) cs p/\(∀a,a≠2->a≠15->a≠24->hh a=.dead):=by
 intro k;induction k with
 |zero=>
  intro i hi at_ hat s h X hX g6 g15 g16 g82 g83 g84 g89 g90 g91 k2 k15 k21 k24 k2624;subst hX;have e1:((i:Int)< (v:Int))=False:=ff;have hc:=c2 [2,15,21,24,2624];have hc15:=c15 [2,15,21,24,2624];have hg:=(cr (dI dn) cs p).cl [2,15,21,24,2624];rw[ayw (show dn.length<=i by omega)];have hp0:∀s,pos [] (es.drop i) s=0:=fun s=>by grind[pos]
  rw[hp0,ayF,ag];refine⟨?hh0,?_,?_,?_,?_,?_⟩;rotate_left
  ·simp only[jI,go_sem,g6,g15,g16,g82,g83,g84,g89,g90,g91,k2,k15,k21,k24,k2624,hc,hc15,hg,e1];rfl
  all_goals simp_all[cV,if_false,ite_self]
 |succ k ih=>
  intro i hi at_ hat s h X hX g6 g15 g16 g82 g83 g84 g89 g90 g91 k2 k15 k21 k24 k2624;subst hX;have e1:((i:Int)< (v:Int))=True:=tt;have e3:aX (aO (dI es)) (i:Int)=some (.ipt [I (es.getD i 0:Nat)]):=oR rfl (XD ω);have e5:IntKind.i64.wrap ((i:Int)+1)=((i+1:Nat):Int):=wi;have hbI:∀d∈dI dn,0<=d/\d<=32:=fun d hd=>by
   obtain⟨x,hx,rfl⟩:=List.mem_map.1 hd;grind
  have hst:=fun(h:ac) (d:Nat) (hh:h 24=bC (dI dn) cs p) (hd:h (2000+8*d)=.dead)=>dy (me false) rfl (KB (m:=i) (by grind[Hb]) ω hbI (d:=d) hh hd);rw[show(dI dn).take i=dI (dn.take i)from(List.map_take ..).symm,show(1:Int)=((1:Nat):Int)from rfl,Lz]at hst;rw[air ω ω,←afO ω,←Nat.add_assoc]at hat⊢;have ih':=ih (i+1) ω (at_+es.getD i 0*bB (dn.take i) 1) hat;generalize bB (dn.take i) 1=st at*
  generalize es.getD i 0=e at*
  have w1:IntKind.i64.wrap ((e:Int)*(st:Int))=((e*st:Nat):Int):=wi (Int.natCast_mul ..).symm ω;have w2:IntKind.i64.wrap ((at_:Int)+((e*st:Nat):Int))=((at_+e*st:Nat):Int):=wi;have hc:=c2 [2,15,21,24,2624];have hc15:=c15 [2,15,21,24,2624];have hg:=(cr (dI dn) cs p).cl [2,15,21,24,2624];rw[ag];simp only[jI,go_sem,g6,g15,g16,g82,g83,g84,g89,g90,g91,k2,k15,k21,k24,k2624,hc,hc15,hg,e1,e3];rw[hst _ _ rfl rfl];simp only[go_sem,w1,w2,e5];exact ih' _ _ _ rfl rfl rfl rfl rfl rfl rfl rfl rfl rfl rfl rfl rfl rfl rfl
def gT(dn:List Nat):List Rt->List (List Nat)->G->G
 |t::l,es::r,g=>gT dn l r (gs g (pos dn es 1) (qv t.c))
 |_,_,g=>g
theorem akZ{dn:List Nat}{p:Int}{v:Nat}(h8:v<=8)(hd:dn.length=v)(hb:∀d∈dn,d<=32)(hN4:bB dn 1<=400){A:List Rt}{E:List (List Nat)}(hA:A.length=E.length)(h5:A.length<=500)(hn:∀ (i:Nat) (t:Rt) (es:List Nat),A[i]?=some t->E[i]?=some es->Nt v t es/\pos dn es 1<bB dn 1/\vd t.c=true/\Ok0 t.c){o2:Ob}(c2:∀l,aD l o2=true):
  ∀ (k i:Nat),i+k=A.length->∀ (cs:List Ri) (g:G),jE (bB dn 1) cs g->∀ (s:ak) (h:ac) (X:Option (Ex×St)),ai 6 [6] (ax (aj R (az false) lZ) [6,82,83,84] [2,21,24,2624] s h)=X->s 6=.ref 24 none 0 0 0->s 82=.sl 4 (aJ A)->s 83=I A.length->s 84=I i->h 2=o2->h 21=.dead->h 24=bC (dI dn) cs p->h 2624=.dead->
  ∃hh cs',X=some (.normal,⟨upd (fun _=>.any) 6 (.ref 24 none 0 0 0),hh⟩)/\hh 24=bC (dI dn) cs' p/\jE (bB dn 1) cs' (gT dn (A.drop i) (E.drop i) g):=by
 intro k;induction k with
 |zero=>
  intro i hi cs g he s h X hX g6 g82 g83 g84 k2 k21 k24 k2624;subst hX;have e1:((i:Int)< (A.length:Int))=False:=ff;have hc:=c2 [2,21,24,2624];have hg:=(cr (dI dn) cs p).cl [2,21,24,2624];rw[ayw (show A.length<=i by omega),ag];refine⟨?hh0,cs,?_,?_,he⟩;rotate_left
  ·simp only[lZ,go_sem,g6,g82,g83,g84,k2,k21,k24,k2624,hc,hg,e1];rfl
  ·rfl
 |succ k ih=>
  intro i hi cs g he s h X hX g6 g82 g83 g84 k2 k21 k24 k2624;subst hX;have hlt:i<A.length:=ω
  have e1:((i:Int)< (A.length:Int))=True:=tt;obtain⟨t,ht⟩:∃t,A[i]?=some t:=⟨_,List.getElem?_eq_getElem hlt⟩;obtain⟨es,hes⟩:∃es,E[i]?=some es:=⟨_,List.getElem?_eq_getElem ω⟩;obtain⟨⟨n1,n2,n3⟩,n4,n5,n6⟩:=hn i t es ht hes;have hgT:gT dn (A.drop i) (E.drop i) g=gT dn (A.drop (i+1)) (E.drop (i+1)) (gs g (pos dn es 1) (qv t.c)):=by
   have h1:A[i]=t:=Option.some.inj (by rw[←ht,List.getElem?_eq_getElem hlt]);have h2:E[i]'(by omega)=es:=Option.some.inj (by rw[←hes,List.getElem?_eq_getElem ω]);rw[ayv hlt,ayv (by omega:i<E.length),h1,h2];rfl
  have e2:aX (aJ A) (i:Int)=some (.ipt (bL t)):=fY rfl ht;have e5:IntKind.i64.wrap ((i:Int)+1)=((i+1:Nat):Int):=wi;have e3:(aO (dI es)).length=v:=by rw[Bs,Hb,n2]
  rw[bL,n1]at e2;have h0:=akY (cs:=cs) (p:=p) h8 hd hb hN4 n2 n3 c2 (o15:=.bx [.sl 1 (aO (dI es)),B t.c.neg,lm t.c.m,I t.c.e]) (fun _=>rfl) (A:=A) (nA:=A.length) (iA:=i) v 0 (ayc _) 0 (by
   show 0+pos dn es 1<=400;omega)
  have hp0:0+pos (dn.drop 0) (es.drop 0) (bB (dn.take 0) 1)=pos dn es 1:=ayc _;rw[hp0]at h0;have hpt:=gX n6 n5;have ih':=ih (i+1) ω _ _ (he.set (k:=pos dn es 1) (sn n5 n6));rw[hgT];generalize pos dn es 1=P at*
  have i1:(0<=(P:Int))=True:=tt;have i2:((P:Int)< (cs.length:Int))=True:=eq_true (by rw[he.1];omega);have sr1:rA 7 7 P 0 (ap ⟨t.c,t.c,false⟩) 7 (bQ cs)=some (bQ (cs.set P ⟨t.c,t.c,false⟩)):=Ha γ;have hc:=c2 [2,21,24,2624];have hg:=(cr (dI dn) cs p).cl [2,21,24,2624];simp only[ae,ah,am,ap]at hpt;simp only[ap]at sr1;rw[ag];simp only[lZ,go_sem,g6,g82,g83,g84,k2,k21,k24,k2624,hc,hg,e1,e2,e3];generalize hX:ai 8 _ _=X;obtain⟨hh,rfl,q2,q15,q24,qd⟩:=h0 _ _ _ hX rfl rfl rfl rfl rfl rfl rfl rfl rfl rfl rfl rfl rfl rfl;have b1:=qd 2888 δ δ δ;have b2:=qd 2624 δ δ δ;have b3:=qd 21 δ δ δ;simp only[bC]at q24;simp only[go_sem,q15,q24,b1,hpt,i1,i2,ayk,ayc,G9,sr1,e5];exact ih' _ _ _ rfl rfl rfl rfl rfl q2 b3 rfl b2
theorem afP:∀ (dn es:List Nat),dn.length=es.length->(∀j,es.getD j 0<=dn.getD j 0)->Pw dn es
 |[],[],_,_=>trivial
 |d::dn,e::es,h,hj=>⟨hj 0,afP dn es γ fun j=>hj (j+1)⟩
 |[],_::_,h,_=>by grind
 |_::_,[],h,_=>by grind
theorem NU:∀ (dn:List Nat) (xs:List Rat),xs.length=dn.length->∀n,Ay (p7 dn xs) n=bB dn n
 |[],[],_,_=>rfl
 |d::dn,x::xs,h,n=>NU dn xs γ (n*(d+1))
 |[],_::_,h,_=>by grind
 |_::_,[],h,_=>by grind
theorem aaD:∀ (dn:List Nat) (n:Nat),n<=400->Dl (dI dn) (n:Int)=none\/Dl (dI dn) (n:Int)=some ((bB dn n:Nat):Int)/\bB dn n<=400
 |[],n,h=>Or.inr ⟨rfl,h⟩
 |d::dn,n,h=>by
  have e:Dl (dI (d::dn)) (n:Int)=if 400< (n:Int)*(Int.ofNat d+1)then none else Dl (dI dn) ((n:Int)*(Int.ofNat d+1)):=rfl
  have e2:(n:Int)*(Int.ofNat d+1)=((n*(d+1):Nat):Int):=by rfl
  rw[e,e2];split
  ·exact Or.inl rfl
  ·exact aaD dn (n*(d+1)) ω
def GP(v:Nat)(A:List Rt)(E:List (List Nat))(p:Int)(r:AV×List Ob):Prop:=r=(.tup [.v (.pointer none),B false],[])\/∃dn cs,r=(.tup [.obx [.osl 1 (aO (dI dn)),.osl 7 (bQ cs),I p],B true],[])/\dn.length=v/\(∀d∈dn,d<=32)/\(∀es∈E,Pw dn es)/\bB dn 1<=400/\jE (bB dn 1) cs (gT dn A E fun _=>0)
theorem afQ{v:Nat}{p:Int}(h8:v<=8){A:List Rt}{E:List (List Nat)}(hA:A.length=E.length)(h5:A.length<=500)(hn:∀ (i:Nat) (t:Rt) (es:List Nat),A[i]?=some t->E[i]?=some es->Nt v t es/\vd t.c=true/\Ok0 t.c):
  ∃r,R faq [.agg [I v,.sl 4 (aJ A)],I p] []=some r/\GP v A E p r:=by
 have z1:nU (.v (.int .i64 (v:Int))) (.v (.int .i64 (v:Int)))=some (v,v):=by
  simp only[nU];grind
 have z2:(v*8<=140737488355328)=True:=tt;have zr:aya v [I 0]=aO (dI (aya v 0)):=by grind[aO,dI,List.map_replicate]
 have hl:(aO (dI (aya v 0))).length=v:=γ
 have h4:=akX (p:=p) h8 hA h5 (fun i t es h1 h2=>(hn i t es h1 h2).1) (o2:=.bx [I v,.sl 4 (aJ A)]) (fun _=>rfl) A.length 0 (ayc _) (aya v 0) σ (fun d hd=>by grind);have hrl:=tE A;refine Ly (r:=fun a=>a) A8.2.1 A8.2.2 (A8.1.2.2.2 false) rfl (ayU rfl) ?_;have hh0:aq []=fun _=>.dead:=by funext i;simp[aq]
 simp only[zO,GB,hh0,go_sem,ayR,z1,z2,zr];rw[anl (k:=1) (rows:=aO (dI (aya v 0))) rfl hl.symm rfl δ];simp only[go_sem];generalize hX:ai 0 _ _=X;obtain⟨hh,dn,rfl,q2,q24,q21,q2624,d1,d2,d3,d4⟩:=h4 _ _ _ hX rfl rfl rfl rfl rfl rfl rfl rfl rfl;have hdl:(dI dn).length=v:=by rw[Hb,d1]
 have hbI:∀d∈dI dn,0<=d/\d<=32:=fun d hd=>by
  obtain⟨x,hx,rfl⟩:=List.mem_map.1 hd;grind
 simp only[go_sem,q2,q24,q21,q2624,hdl,Bs];generalize hX:ai 4 _ _=X;have hM:=apM (ds:=dI dn) (p:=p) hdl.symm ω hbI (o2:=.bx [I v,.sl 4 (aJ A)]) (fun _=>rfl) _ _ _ hX rfl rfl rfl rfl rfl rfl q2 q21 q24 q2624;rcases aaD dn 1 δ with hm| ⟨hm,h4⟩
 ·rw[show(1:Int)=((1:Nat):Int)from rfl,hm]at hM;obtain⟨hh2,rfl⟩:=hM;refine⟨_,?_,Or.inl rfl⟩;simp only[go_sem]
 rw[show(1:Int)=((1:Nat):Int)from rfl,hm]at hM;obtain⟨hh,rfl,q2,q24,qd⟩:=hM;have hle:∀es∈E,Pw dn es:=fun es he=>by
  obtain⟨i,hi⟩:=List.getElem?_of_mem he;have hiE:=(List.getElem?_eq_some_iff.1 hi).1;have:=(hn i _ es (List.getElem?_eq_getElem ω) hi).1.2.1;exact afP dn es ω (d4 i es (ayB _) hi)
 have hpt:=gX aU.2 aU.1;have hrp:=afN (x:=Pm) (nS dn 1 δ) h4;have h1:=akZ (p:=p) h8 d1 d2 h4 hA h5 (fun i t es h1 h2=>by
  obtain⟨a,b,c⟩:=hn i t es h1 h2;refine⟨a,?_,b,c⟩;have hL:=hle es (List.mem_of_getElem? h2);have:=afx dn es (aya dn.length 0) hL σ 1 0 δ
  simp_all[NU,ayc]) (o2:=.bx [I v,.sl 4 (aJ A)]) (fun _=>rfl) A.length 0 (ayc _) (aya (bB dn 1) Pm) (fun _=>0) ⟨by simp,fun k x hx=>by
   rw[List.getElem?_replicate]at hx;split at hx
   ·cases hx;rw[←Ig];exact sn aU.1 aU.2
   grind⟩
 generalize aya (bB dn 1) Pm=cs0 at hrp h1;have b1:=qd 2600 δ δ;have b2:=qd 76 δ δ;have b3:=qd 2624 δ δ;have b4:=qd 21 δ δ;simp only[ae,ah,am,ap,aH,Pm]at hpt hrp;simp only[ap,go_sem,q24,b1,b2,b3,hpt,hrp];rw[Dk (h:=upd (upd (upd hh 76 _) 76 _) 2624 (.ar 7 (bQ cs0))) (id:=24) (p:=1) (id2:=2624) (k:=7) (n:=cs0.length) rfl (ZO _).symm q24 δ γ];simp only[go_sem,ank,aza,q2,hrl];generalize hX:ai 6 _ _=X;obtain⟨hh2,cs2,rfl,r24,he2⟩:=h1 _ _ _ hX rfl rfl rfl rfl q2 b4 rfl rfl;refine⟨_,?_,Or.inr ⟨dn,cs2,rfl,d1,d2,hle,h4,he2⟩⟩;simp only[bC]at r24;simp only[go_sem,r24];rw[if_pos (by rfl)];have e:rG hh2 (.ref 24 none 0 0 0)=some (.obx [.osl 1 (aO (dI dn)),.osl 7 (bQ cs2),I p]):=by
  have hp:bh 24=false:=rfl;simp[rG,mq,aa4,r24,hp];exact⟨rfl,rfl,rfl⟩
 rw[e];rfl
def ry:List Nat->List Rat->List (Nat×LF)
 |d::ds,t::ts=>(d,fun v=>dc t v d 0)::ry ds ts
 |_,_=>[]
theorem afR:∀ (ds:List Nat) (ts:List Rat),Pu (ry ds ts)
 |d::ds,t::ts=>fun p hp=>by
  rcases List.mem_cons.1 hp with rfl|hp
  ·simp_all[Pt]
  ·exact afR ds ts p hp
 |[],_=>fun _ h=>by grind[ry]
 |_::_,[]=>fun _ h=>by grind[ry]
theorem Rw:∀ (dn:List Nat) (ts:List Rat),ts.length=dn.length->∀n,Ay (ry dn ts) n=bB dn n
 |[],[],_,_=>rfl
 |d::dn,x::xs,h,n=>Rw dn xs γ (n*(d+1))
 |[],_::_,h,_=>by grind
 |_::_,[],h,_=>by grind
theorem XE:∀ (dn:List Nat) (ts:List Rat),ts.length=dn.length->∀d t,ry (dn++[d]) (ts++[t])=ry dn ts++[(d,fun v=>dc t v d 0)]
 |[],[],_,_,_=>rfl
 |d::dn,x::xs,h,d',t'=>by
  show _::ry (dn++[d']) (xs++[t'])=_::(ry dn xs++_);rw[XE dn xs (by simpa using h)]
 |[],_::_,h,_,_=>by grind
 |_::_,[],h,_,_=>by grind
theorem XF:∀ (a b:List Nat) (n:Nat),bB (a++b) n=bB b (bB a n)
 |[],_,_=>rfl
 |d::a,b,n=>XF a b (n*(d+1))
theorem ais{dn1 dn2:List Nat}{n N:Nat}{xs2 ts1:List Rat}(h1:ts1.length=dn1.length)(h2:xs2.length=dn2.length)(hN:N=bB (dn1++n::dn2) 1){x t lo w:Rat}(hx:x=lo+w*t)(g:G):
  iv (ry dn1 ts1++(n,fun v=>pl x v 0 (n+1))::p7 dn2 xs2) 1 0 g=
   iv (ry dn1 ts1++(n,fun v=>dc t v n 0)::p7 dn2 xs2) 1 0 (ps (fun f=>Pp n (fun j=>f+j*bB dn1 1)) (bB dn1 1) n N 0 (ps (fun f=>Po lo w n (fun j=>f+j*bB dn1 1)) (bB dn1 1) n N 0 g)):=by
 have hs:=nS dn1 1 δ;have ht1:=Rw dn1 ts1 h1 1;have ht2:=NU dn2 xs2 h2;rw[XF]at hN;have hN:N=bB dn2 (bB dn1 1*(n+1)):=hN;generalize bB dn1 1=s at*
 have hi:∀f a b:Nat,f+a*s=f+b*s↔a=b:=fun f a b=>⟨fun h=>Nat.eq_of_mul_eq_mul_right ω (Nat.add_left_cancel h),fun h=>by rw[h]⟩;have c1:qf (n+1) fun v=>pl x v 0 (n+1):=Kr _ _ σ;have c2:qf (n+1) fun v=>pl t v 0 (n+1):=Kr _ _ σ;have c3:qf (n+1) fun v=>dc t v n 0:=Pt _ _ σ;have key:∀ (L L':LF) (op:Nat->G->G) (g:G),qf (n+1) L->qf (n+1) L'->(∀f g,(∀a,(∀m,m<=n->a≠f+m*s)->op f g a=g a)/\L (fun m=>g (f+m*s))=L' (fun m=>op f g (f+m*s)))->
   iv (ry dn1 ts1++(n,L)::p7 dn2 xs2) 1 0 g=iv (ry dn1 ts1++(n,L')::p7 dn2 xs2) 1 0 (ps op s n N 0 g):=fun L L' op g hL hL' hop=>by
  refine Xu hL hL' (Lv dn2 xs2) (ry dn1 ts1) (afR dn1 ts1) 1 0 δ fun i0 q hi0 hq=>?_;rw[ht1]at hi0 hq⊢;refine(apJ ω hL hL' hop N 0 g).2 _ (ayB _) ?_ ?_
  ·grind
  ·have e:i0+q*(s*(n+1))=i0+q*(n+1)*s:=γ
   rw[e,Nat.add_mul_div_right _ _ ω,Nat.div_eq_of_lt hi0,ayc,Nat.mul_mod_left]
 rw[key _ _ (fun f=>Po lo w n (fun j=>f+j*s)) g c1 c2 fun f g=>anc hx (hi f) n g];exact key _ _ (fun f=>Pp n (fun j=>f+j*s)) _ c2 c3 fun f g=>ane (hi f) n g
theorem afS{dn:List Nat}{xs:List Rat}(hx:xs.length=dn.length):∀ (A:List Rt) (E:List (List Nat)) (g:G),A.length=E.length->(∀es∈E,Pw dn es)->E.Nodup->(∀es∈E,g (pos dn es 1)=0)->(∀ (i:Nat) (t:Rt) (es:List Nat),A[i]?=some t->E[i]?=some es->t.exps=dI es)->
  iv (p7 dn xs) 1 0 (gT dn A E g)=iv (p7 dn xs) 1 0 g+fv xs A
 |[],[],g,_,_,_,_,_=>by
  show _=_+0;rw[Rat.add_zero];rfl
 |t::A,es::E,g,hA,hle,hnd,h0,hE=>by
  obtain⟨hn1,hn2⟩:=List.nodup_cons.1 hnd;have hes:=hE 0 t es rfl rfl;have hxn:EP t.exps=es:=by
   rw[hes];unfold EP dI;rw[List.map_map];exact(ayM (g:=fun c=>c) fun x _=>by simp).trans (ayY _)
  show iv (p7 dn xs) 1 0 (gT dn A E (gs g (pos dn es 1) (qv t.c)))=_;rw[afS hx A E _ γ (fun e he=>hle e γ) hn2 (fun e he=>by
   unfold gs;rw[if_neg fun hq=>?_]
   ·grind
   ·have:=(aau dn e es (hle e γ) (hle es σ) 1 0 0 δ δ ω).2;grind) fun i u e h1 h2=>hE (i+1) u e h1 h2]
  rw[anf (Lv dn xs),h0 es σ];have hm:=aat dn es xs (hle es σ) hx 1 0 0 δ δ;grind[qv,Ks,EP,fv]
 |[],_::_,_,h,_,_,_,_=>by grind
 |_::_,[],_,h,_,_,_,_=>by grind
theorem ait{ls:List (Nat×LF)}(ok:Pu ls)(s i:Nat):iv ls s i (fun _=>0)=0:=by
 have:=Rn (a:=0) (c:=0) (g:=fun _=>0) (h:=fun _=>0) ls ok s i;grind
theorem anq{lo hi:Rat}{g:G}{dn:List Nat}{ts:List Rat}(hl:ts.length=dn.length)(ht:∀t∈ts,0<=t/\t<=1)(h:∀k,k<bB dn 1->lo<=g k/\g k<=hi):lo<=iv (ry dn ts) 1 0 g/\iv (ry dn ts) 1 0 g<=hi:=by
 refine aas (ry dn ts) ?_ 1 0 fun q hq=>?_
 ·have:∀ (dn:List Nat) (ts:List Rat),(∀t∈ts,0<=t/\t<=1)->∀p∈ry dn ts,∀v:G,(∀j,j<=p.1->lo<=v j/\v j<=hi)->lo<=p.2 v/\p.2 v<=hi:=by
   intro dn;induction dn with
   |nil=>grind[ry]
   |cons d dn ih=>
    intro ts ht p hp v hv;cases ts with
    |nil=>grind[ry]
    |cons t ts=>
     rcases List.mem_cons.1 hp with rfl|hp
     all_goals grind[Xt]
  exact this dn ts ht
 grind[Rw]
theorem XG{l:List Int}(h:∀e∈l,0<=e):l=dI (EP l):=by
 grind[dI,EP,List.map_map,ayM,Int.toNat_of_nonneg,ayY]
def KC(l:List Rt):List (List Nat):=l.map fun t=>EP t.exps
theorem aiu{v:Int}{l:List Rt}(c:Cl v l):(KC l).Nodup:=by
 have h1:l.Pairwise fun a b=>a.exps≠b.exps:=c.s.imp fun h=>(SM h).symm;unfold KC;rw[List.nodup_iff_pairwise_ne,List.pairwise_map];refine List.Pairwise.imp_of_mem (fun{a b} ha hb h he=>h ?_) h1;rw[XG fun e hx=>((c.t a ha).b e hx).1,XG fun e hx=>((c.t b hb).b e hx).1,he]
theorem aja{v:Nat}{l:List Rt}(c:Cl v l)(i:Nat)(t:Rt)(es:List Nat)(h1:l[i]?=some t)(h2:(KC l)[i]?=some es):Nt v t es/\vd t.c=true/\Ok0 t.c:=by
 have hm:=c.t t (List.mem_of_getElem? h1);unfold KC at h2;rw[List.getElem?_map,h1]at h2;have h2:EP t.exps=es:=Option.some.inj h2;subst h2;refine⟨⟨XG fun e hx=>(hm.b e hx).1,?_,fun e he=>?_⟩,hm.vc,hm.c⟩
 ·have:=hm.len;grind[EP,List.length_map]
 ·obtain⟨z,hz,rfl⟩:=List.mem_map.1 he;have:=hm.b z hz;omega
def qo(o:Option Rd):Rat:=qv (o.getD aH)
theorem Rx{x:Rat}:∀ (l:List Rt) (o0 o1:Option Rd),(∀t∈l,t.exps=[0]/\o0=none\/t.exps=[1]/\o1=none)->l.Pairwise (fun a b=>a.exps≠b.exps)->∃p0 p1,Bn l [o0,o1]=[p0,p1]/\qo p0+qo p1*x=qo o0+qo o1*x+fv [x] l
 |[],o0,o1,_,_=>⟨o0,o1,rfl,by show _=_+0;grind⟩
 |t::l,o0,o1,h,hp=>by
  obtain⟨p1,p2⟩:=List.pairwise_cons.1 hp;have q0:qo none=0:=Ig;unfold Bn;rcases h t σ with⟨he,rfl⟩| ⟨he,rfl⟩
  ·have hs:[none,o1].set (wY 1 t.exps 0+1).toNat (some t.c)=[some t.c,o1]:=by rw[he];rfl
   rw[hs];obtain⟨a,b,e1,e2⟩:=Rx (x:=x) l (some t.c) o1 (fun u hu=>by
    grind) p2
   refine⟨a,b,e1,?_⟩;rw[e2];show qv t.c+_+_=_+(qv t.c*Ks [x] (EP t.exps)+fv [x] l);rw[he,q0];show _=_+(qv t.c*(x^0*1)+_);grind
  ·have hs:[o0,none].set (wY 1 t.exps 0+1).toNat (some t.c)=[o0,some t.c]:=by rw[he];rfl
   rw[hs];obtain⟨a,b,e1,e2⟩:=Rx (x:=x) l o0 (some t.c) (fun u hu=>by
    grind) p2
   refine⟨a,b,e1,?_⟩;rw[e2];show _+qv t.c*x+_=_+(qv t.c*Ks [x] (EP t.exps)+fv [x] l);rw[he,q0];show _=_+(qv t.c*(x^1*1)+_);grind
theorem afT{a:Rp}(oa:OkP a)(hl:FI a=true)(h1:a.vars=1)(x:Rat):∃c m,H8 a=[c,m]/\fv [x] a.terms=qv c+qv m*x:=by
 obtain⟨hv,hd⟩:=akc hl;obtain⟨cl,_⟩:=lE oa hv;obtain⟨p0,p1,e1,e2⟩:=Rx (x:=x) a.terms none none (fun t ht=>by
  obtain⟨s1,s2,s3,s4,s5⟩:=G1 hv ht;obtain⟨e,he⟩:=akd (s2.trans h1);have h3:=s1.2 e γ;grind[bj]) (cl.s.imp fun h=>(SM h).symm)
 refine⟨p0.getD aH,p1.getD aH,?_,?_⟩
 ·simp_all[H8,ZV,Bn]
 grind[qo,Ig,p0]
theorem aiv{c m:Rd}{b:Ri}{x:Rat}{p:Int}(vc:vd c=true/\Ok0 c)(vm:vd m=true/\Ok0 m)(hp:bG p=true)(hb:In x b)(hk:kI b=true):In (qv c+qv m*x) (H9 c m b p):=by
 rcases hb.k with⟨rfl,h1⟩| ⟨_,x1,x2⟩
 ·grind
 have hq:∀ {y:Rd},(fS m y).2=0->qv (fS m y).1=qv m*qv y:=fun{y} h=>by
  have h1:=akb h;have h2:=(Pr (z:=zI m*zI y) (r:=zI (fS m y).1) 16384).1 (Int.le_of_eq h1.symm);have h3:=(Pr (z:=zI m*zI y) (r:=zI (fS m y).1) 16384).2 (Int.le_of_eq h1);unfold qv EQ;grind
 unfold H9 acW;split
 ·next h=>
  have v1:=Lg m (SE m b);have v2:=Lg m (SF m b);have ok:∀ {a b:Rd} {up:Bool},vd (du a b p up).1=true/\Ok0 (du a b p up).1:=fun{a b up}=>by
   grind[du,td,aU]
  have hm:qv m*qv (SE m b)<=qv m*x/\qv m*x<=qv m*qv (SF m b):=by
   unfold SE SF;by_cases hs:cQ m<0
   ·have h0:=(Ij vm.1).2.1 hs;have a:=Rat.mul_le_mul_of_nonneg_left x1 (show 0≤-qv m by grind);have b:=Rat.mul_le_mul_of_nonneg_left x2 (show 0≤-qv m by grind);grind
   ·have h0:0<=qv m:=Rat.not_lt.1 fun h=>hs ((Ij vm.1).2.2 h);grind[Rat.mul_le_mul_of_nonneg_left]
  refine Us ok ok (fun h=>?_) (fun h=>?_)
  all_goals grind[Xs]
 ·exact Or.inl rfl
def uq:List Ri->List Rat->List Rat->Prop
 |b::dom,x::xs,t::ts=>x=qv b.lo+(qv b.hi-qv b.lo)*t/\0<=t/\t<=1/\uq dom xs ts
 |[],[],[]=>True
 |_,_,_=>False
theorem uq.len:∀ {dom:List Ri} {xs ts:List Rat},uq dom xs ts->xs.length=dom.length/\ts.length=dom.length
 |_::_,_::_,_::_,h=>by
  obtain⟨a,b⟩:=uq.len h.2.2.2;grind
 |[],[],[],_=>⟨rfl,rfl⟩
 |[],_::_,_,h=>h.elim
 |[],[],_::_,h=>h.elim
 |_::_,[],_,h=>h.elim
 |_::_,_::_,[],h=>h.elim
theorem uq.get:∀ {dom:List Ri} {xs ts:List Rat},uq dom xs ts->∀ {i:Nat} {b:Ri},dom[i]?=some b->∃x t,xs[i]?=some x/\ts[i]?=some t/\x=qv b.lo+(qv b.hi-qv b.lo)*t
 |b::_,x::_,t::_,h,0,b',hb=>by
  have:b=b':=γ
  subst this;exact⟨x,t,rfl,rfl,h.1⟩
 |_::_,_::_,_::_,h,i+1,b,hb=>uq.get h.2.2.2 (i:=i) γ
 |[],_,_,_,_,_,hb=>by grind
 |_::_,[],_,h,_,_,_=>h.elim
 |_::_,_::_,[],h,_,_,_=>h.elim
theorem uq.t01:∀ {dom:List Ri} {xs ts:List Rat},uq dom xs ts->∀t∈ts,0<=t/\t<=1
 |_::_,_::_,_::_,h,t,ht=>by
  rcases List.mem_cons.1 ht with rfl|ht
  ·exact⟨h.2.1,h.2.2.1⟩
  ·exact uq.t01 h.2.2.2 t ht
 |[],[],[],_,t,ht=>by grind
 |[],_::_,_,h,_,_=>h.elim
 |[],[],_::_,h,_,_=>h.elim
 |_::_,[],_,h,_,_=>h.elim
 |_::_,_::_,[],h,_,_=>h.elim
theorem aiw{dn:List Nat}{i n:Nat}(h:dn[i]?=some n):dn.take i++n::dn.drop (i+1)=dn/\dn.drop i=n::dn.drop (i+1)/\dn.take (i+1)=dn.take i++[n]:=by
 grind[List.take_append_drop,List.take_add_one]
theorem ak0{dom:List Ri}{dn:List Nat}{p:Int}{v:Nat}(h8:v<=8)(hd:dn.length=v)(hdl:dom.length=v)(hb:∀d∈dn,d<=32)(hN4:bB dn 1<=400)(od:∀b∈dom,VI b){c6:List AV}(hc6:aD [6,2368] (.bx c6)=true):
  ∀ (k i:Nat),i+k=v->∀ (cs:List Ri) (g:G),jE (bB dn 1) cs g->∀ (s:ak) (h:ac) (X:Option (Ex×St)),ai 0 [6,9] (ax (aj R (az false) mA) [1,6,9,56,57] [6,2368] s h)=X->s 1=.sl 7 (bQ dom)->s 6=.ref 6 none 0 0 0->s 9=.ref 2368 none 0 0 0->s 56=I v->s 57=I i->h 6=.bx c6->h 2368=bC (dI dn) cs p->
  ∃hh cs' g',X=some (.normal,⟨upd (upd (fun _=>.any) 9 (.ref 2368 none 0 0 0)) 6 (.ref 6 none 0 0 0),hh⟩)/\hh 6=.bx c6/\hh 2368=bC (dI dn) cs' p/\(∀a,a≠6->a≠2368->hh a=.dead)/\jE (bB dn 1) cs' g'/\
   ∀xs ts:List Rat,uq dom xs ts->iv (ry (dn.take i) (ts.take i)++p7 (dn.drop i) (xs.drop i)) 1 0 g=iv (ry dn ts) 1 0 g':=by
 intro k;induction k with
 |zero=>
  intro i hi cs g he s h X hX g1 g6 g9 g56 g57 k6 k2368;subst hX;have e1:((i:Int)< (v:Int))=False:=ff;have hg:=(cr (dI dn) cs p).cl [6,2368];rw[ag];refine⟨?hh0,cs,g,?_,?_,?_,?_,he,fun xs ts hp=>?_⟩;rotate_left
  ·simp only[mA,go_sem,g1,g6,g9,g56,g57,k6,k2368,hc6,hg,e1];rfl
  ·rfl
  ·rfl
  ·simp_all[cV,if_false]
  ·obtain⟨l1,l2⟩:=hp.len;rw[ayt ω,ayt ω,ayw ω];show iv (ry dn ts++[]) 1 0 g=_;grind
 |succ k ih=>
  intro i hi cs g he s h X hX g1 g6 g9 g56 g57 k6 k2368;subst hX;have hlt:i<v:=ω
  have e1:((i:Int)< (v:Int))=True:=tt;obtain⟨b,hb0⟩:∃b,dom[i]?=some b:=⟨_,List.getElem?_eq_getElem ω⟩;obtain⟨n,hn⟩:∃n,dn[i]?=some n:=⟨_,List.getElem?_eq_getElem ω⟩;have e2:aX (bQ dom) (i:Int)=some (.ipt (ap b)):=Ds rfl hb0;have e5:IntKind.i64.wrap ((i:Int)+1)=((i+1:Nat):Int):=wi;have vb:=od b (List.mem_of_getElem? hb0);have hg:=(cr (dI dn) cs p).cl [6,2368];obtain⟨cs1,hR1,he1⟩:=akU (p:=p) vb.1 vb.2 hn ω hb hN4 he;obtain⟨cs2,hR2,he2⟩:=akT (p:=p) hn ω hb hN4 he1;have hu:=fun(h:ac) (d:Nat) (hh:h 2368=bC (dI dn) cs p) (hd:h (2000+8*d)=.dead)=>dy (gV.1.2.1 false) (by rfl) (Ib (gV.1.2.1 false) (gV.1.2.2.2 false) (zas:=[I i,am b]) (as':=[I i,am b]) (by rw[gV.1.1];simp only[am,ap,go_sem]) rfl rfl hh (cr _ _ _) (cr _ _ _) (fun _=>rfl) hR1 ahT (d:=d) δ rfl);have hbn:=fun(h:ac) (d:Nat) (hh:h 2368=bC (dI dn) cs1 p) (hd:h (2000+8*d)=.dead)=>dy (eB.1.2.1 false) (by rfl) (Ib (eB.1.2.1 false) (eB.1.2.2.2 false) (zas:=[I i]) (as':=[I i]) (by rw[eB.1.1];rfl) rfl rfl hh (cr _ _ _) (cr _ _ _) (fun _=>rfl) hR2 ahT (d:=d) δ rfl);have ih':=ih (i+1) ω _ _ he2;rw[ag];generalize ax _ _ _=L at ih'⊢;simp only[am,ap]at e2 hu;simp only[mA,go_sem,g1,g6,g9,g56,g57,k6,k2368,hc6,hg,e1,e2];rw[hu _ _ rfl rfl];simp only[go_sem];rw[hbn _ _ rfl rfl];simp only[go_sem,e5];generalize hX:ai 0 _ _=X;obtain⟨hh,cs',g',q1,q2,q3,q4,q5,q6⟩:=ih' _ _ _ hX rfl rfl rfl rfl rfl rfl rfl;refine⟨hh,cs',g',q1,q2,q3,q4,q5,fun xs ts hp=>?_⟩;obtain⟨l1,l2⟩:=hp.len;obtain⟨x,t,hx,ht,hxt⟩:=hp.get hb0;rw[←q6 xs ts hp];obtain⟨d1,d2,d3⟩:=aiw hn;have hxd:xs.drop i=x::xs.drop (i+1):=by
   grind[ayv]
  have htd:ts.take (i+1)=ts.take i++[t]:=by
   grind[List.take_add_one]
  rw[d2,d3,hxd,htd,XE _ _ γ,ayX];exact ais γ γ (by rw[d1]) hxt g
theorem ak1{ds:List Int}{p:Int}{N:Nat}(hN:N<=400){cs:List Ri}{g:G}(he:jE N cs g){c6:List AV}(hc6:aD [6,12,2368] (.bx c6)=true):∀ (k i:Nat),i+k=N->∀out:Ri,OkI out->(∀j,j<i->In (g j) out)->(∃q,In q out)->∀ (s:ak) (h:ac) (X:Option (Ex×St)),ai 2 [6,12] (ax (aj R (az false) my) [6,12,80,81,82] [6,12,2368] s h)=X->
  s 6=.ref 6 none 0 0 0->s 12=.ref 12 none 0 0 0->s 80=.rsl 2368 (some 1) 7 0 N->s 81=I N->s 82=I i->h 6=.bx c6->h 12=fO out->h 2368=bC ds cs p->
  ∃hh out',X=some (.normal,⟨upd (upd (fun _=>.any) 12 (.ref 12 none 0 0 0)) 6 (.ref 6 none 0 0 0),hh⟩)/\hh 6=.bx c6/\hh 12=fO out'/\OkI out'/\(∀j,j<N->In (g j) out'):=by
 intro k;induction k with
 |zero=>
  intro i hi out oo ho hq s h X hX g6 g12 g80 g81 g82 k6 k12 k2368;subst hX;have e1:((i:Int)< (N:Int))=False:=ff;have hg:=(cr ds cs p).cl [6,12,2368];have hoc:=(ge out).cl [6,12,2368];rw[ag];refine⟨?hh0,out,?_,?_,?_,oo,fun j hj=>ho j ω⟩;rotate_left
  ·simp only[my,go_sem,g6,g12,g80,g81,g82,k6,k12,k2368,hc6,hg,hoc,e1];rfl
  ·rfl
  ·rfl
 |succ k ih=>
  intro i hi out oo ho hq s h X hX g6 g12 g80 g81 g82 k6 k12 k2368;subst hX;have e1:((i:Int)< (N:Int))=True:=tt;have e5:IntKind.i64.wrap ((i:Int)+1)=((i+1:Nat):Int):=wi;obtain⟨x,x1,x2⟩:=he.get (k:=i) ω;have q1:(bQ cs)[i]?=some (ap x):=by grind[bQ]
  have i1:(0<=(i:Int))=True:=tt;have hg:=(cr ds cs p).cl [6,12,2368];have hoc:=(ge out).cl [6,12,2368];have ch:=aie oo x2.ok;have ih':=ih (i+1) ω (Lt out x) (by
   obtain⟨q,hq⟩:=hq;exact(Ih hq x2).1.ok) (fun j hj=>by
   obtain⟨q,hq⟩:=hq;by_cases hji:j=i
   ·subst hji;exact(Ih hq x2).2
   ·exact(Ih (ho j ω) x2).1) ⟨_,(Ih hq.choose_spec x2).1⟩
  rw[ag];simp only[am,ap]at ch;simp only[ap]at q1;simp only[bC]at k2368 hg;simp only[fO]at k12 hoc;simp only[my,go_sem,g6,g12,g80,g81,g82,k6,k12,k2368,hc6,hg,hoc,e1,i1,yV,Dy,ayk,ayc,q1,ch,e5];exact ih' _ _ _ rfl rfl rfl rfl rfl rfl rfl rfl rfl
def BrG(a:Rp)(dom:List Ri)(p:Int)(b:Ri):Prop:=(∀xs ts:List Rat,uq dom xs ts->In (fv xs a.terms) b)/\((nP a dom&&bG p)=false->b=dm)
theorem uq.inL:∀ {dom:List Ri} {xs ts:List Rat},(∀b∈dom,kI b=true/\VI b)->uq dom xs ts->InL xs dom
 |b::_,x::_,t::_,hk,h=>by
  obtain⟨h1,h2,h3,h4⟩:=h;obtain⟨k1,k2⟩:=hk b σ;refine⟨Or.inr ⟨?_,k2,?_⟩,uq.inL (fun b hb=>hk b γ) h4⟩
  ·unfold kI at k1;grind
  ·have hle:qv b.lo<=qv b.hi:=by
    rw[Ao];unfold kI vi at k1;grind
   have a:=Rat.mul_nonneg (show 0<=qv b.hi-qv b.lo by grind) h2;have b:=Rat.mul_nonneg (show 0<=qv b.hi-qv b.lo by grind) (show 0<=1-t by grind);grind
 |[],[],[],_,_=>trivial
 |[],_::_,_,_,h=>h.elim
 |[],[],_::_,_,h=>h.elim
 |_::_,[],_,_,h=>h.elim
 |_::_,_::_,[],_,h=>h.elim
theorem PH{a:Rp}{dom:List Ri}(od:∀x∈dom,OkI x)(hd:nP a dom=true):vp a=true/\(dom.length:Int)=a.vars/\∀b∈dom,kI b=true/\VI b:=by
 unfold nP at hd;simp only[ayf,decide_eq_true_eq,azf,List.any_eq_false]at hd;refine⟨hd.1,hd.2.1,fun b hb=>?_⟩;have h1:kI b=true:=by
  grind
 have h2:=h1;unfold kI vi at h2;cases ha:b.all with
 |true=>grind
 |false=>
  rw[ha]at h2;simp at h2;have:=od b hb;exact⟨h1,⟨h2.1,this.lo⟩,⟨h2.2.1,this.hi⟩⟩
theorem XH{a:Rp}{dom:List Ri}(oa:OkP a)(od:∀x∈dom,OkI x)(h2:dom.length<=100000){p:Int}:∃b,R faj [aT a,.sl 7 (bQ dom),I p] []=some (am b,[])/\BrG a dom p b:=by
 have hf:=La oa od h2 (p:=p);have hw:=H7;cases hq:(nP a dom&&bG p)with
 |false=>
  rw[hq]at hf;refine⟨dm,?_,fun _ _ _=>Or.inl rfl,fun _=>rfl⟩;refine au jJ rfl ?_;simp only[aT,am,ap,dm,aH]at hf hw;simp only[gr,jH,aT,am,ap,dm,aH,go_sem,hf,hw]
 |true=>
  rw[hq]at hf;have hdp:=hq;rw[ayf]at hdp;obtain⟨hd,hp⟩:=hdp;obtain⟨hv,hl,hk⟩:=PH od hd;obtain⟨cl,v0,v8,h5⟩:=lE oa hv;have nf:(nP a dom&&bG p)=false->∀b:Ri,b=dm:=fun h=>by grind
  by_cases hlin:FI a=true/\a.vars=1
  ·obtain⟨x,rfl⟩:∃x,dom=[x]:=List.length_eq_one_iff.1 ω;obtain⟨c,m,e1,_⟩:=afT oa hlin.1 hlin.2 0;have hx:=hk x σ;obtain⟨k1,_⟩:=ZY oa hv;rw[e1]at k1;refine⟨H9 c m x p,ahM oa od ω hlin.1 hlin.2 e1 rfl,fun xs ts hpt=>?_,fun h=>nf h _⟩;obtain⟨l1,l2⟩:=hpt.len;obtain⟨y,rfl⟩:∃y,xs=[y]:=List.length_eq_one_iff.1 l1;have hin:=uq.inL (fun b hb=>hk b hb) hpt;obtain⟨c',m',e3,e2⟩:=afT oa hlin.1 hlin.2 y;rw[e1]at e3;injection e3 with g1 g2
   injection g2 with g2
   subst g1;subst g2;rw[e2];exact aiv (k1 c σ) (k1 m σ) hp hin.1 hx.1
  ·obtain⟨v,hvv⟩:=aze v0;have hL:=SD oa;obtain⟨r,hg,hgp⟩:=afQ (v:=v) (p:=p) ω (A:=a.terms) (E:=KC a.terms) (by simp[KC]) h5 (fun i t es h1 h2=>aja (hvv▸cl) i t es h1 h2);have hcc:∃L b,WV a=.tup [Cf L,B b]/\(b=true->¬a.vars=1):=by
    grind[WV,absurd]
   obtain⟨L,bl,e1,e2⟩:=hcc;rw[e1]at hL;have hVI:∀b∈dom,VI b:=fun b hb=>(hk b hb).2;rcases hgp with rfl| ⟨dn,cs,rfl,d1,d2,d3,d4,he⟩
   ·refine⟨dm,?_,fun _ _ _=>Or.inl rfl,fun _=>rfl⟩;refine au jJ rfl ?_;rw[←hvv]at hg;simp only[aT,am,ap,dm,aH,Cf]at hf hw hL;cases bl with
    |true=>
     have e3:(a.vars=1)=False:=eq_false (e2 rfl);simp only[gr,jH,aT,am,ap,dm,aH,go_sem,hf,hw,hL,e3,hg]
    |false=>
     simp only[gr,jH,aT,am,ap,dm,aH,go_sem,hf,hw,hL,hg]
   ·have hdl:dom.length=v:=ω
    have hbg:=ak0 (p:=p) (c6:=[B false,.emp,I 0,B false,.emp,I 0,B false]) ω d1 hdl d2 d4 hVI rfl v 0 (ayc _) cs _ he;rw[←hvv]at hg;have hval:∀xs:List Rat,xs.length=dn.length->iv (p7 dn xs) 1 0 (gT dn a.terms (KC a.terms) fun _=>0)=fv xs a.terms:=fun xs hx=>by
     rw[afS hx a.terms (KC a.terms) (fun _=>0) (by simp[KC]) d3 (aiu cl) (fun _ _=>rfl) fun i t es h1 h2=>(aja (hvv▸cl) i t es h1 h2).1.1,ait (Lv dn xs),Rat.zero_add]
    have hfin:∀ (b:Ri) (g':G),(∀xs ts:List Rat,uq dom xs ts->iv (ry (dn.take 0) (ts.take 0)++p7 (dn.drop 0) (xs.drop 0)) 1 0 (gT dn a.terms (KC a.terms) fun _=>0)=iv (ry dn ts) 1 0 g')->(∀j,j<bB dn 1->In (g' j) b)->BrG a dom p b:=fun b g' h1 h2=>by
     refine⟨fun xs ts hpt=>?_,fun h=>nf h _⟩;obtain⟨l1,l2⟩:=hpt.len;have h3:=h1 xs ts hpt;have h4:iv (p7 dn xs) 1 0 (gT dn a.terms (KC a.terms) fun _=>0)=iv (ry dn ts) 1 0 g':=h3;rw[hval xs ω]at h4;rw[h4];rcases(h2 0 (nS dn 1 δ)).k with⟨hW,_⟩| ⟨hkb,_⟩
     ·exact Or.inl hW
     ·have h5:∀j,j<bB dn 1->qv b.lo<=g' j/\g' j<=qv b.hi:=fun j hj=>by
       rcases(h2 j hj).k with⟨rfl,hn⟩| ⟨_,h6⟩
       all_goals grind
      have h6:=anq ω hpt.t01 h5;refine Or.inr ⟨?_,(h2 0 (nS dn 1 δ)).vi,h6.1,h6.2⟩;grind[kI]
    have hh0:aq []=fun _=>.dead:=by funext i;simp[aq]
    refine Ly (r:=fun b=>(am b,[])) jJ.2.1 jJ.2.2 (jJ.1.2.2.2 false) rfl (ayU rfl) ?_;simp only[aT,am,ap,Cf]at hf hL;have e3:bl=true->(a.vars=1)=False:=fun h=>eq_false (e2 h);have e4:(0:Int)< (bB dn 1:Nat):=by grind[nS]
    cases bl
    all_goals
     simp only[gr,jH,aT,am,ap,hh0,go_sem,hf,hL,e3,hg,ac9];generalize hX:ai 0 _ _=X;obtain⟨hh,cs',g',rfl,q6,q2368,qd,he',hv'⟩:=hbg _ _ _ hX rfl rfl rfl (by rw[Hb,d1];rfl) rfl rfl rfl;obtain⟨x,x1,x2⟩:=he'.get (k:=0) (nS dn 1 δ);have hhl:=ak1 (ds:=dI dn) (p:=p) d4 he' (c6:=[B false,.emp,I 0,B false,.emp,I 0,B false]) rfl (bB dn 1) 0 (ayc _) x x2.ok (fun j hj=>absurd hj (Nat.not_lt_zero j)) ⟨_,x2⟩;have q1:(bQ cs')[0]?=some (ap x):=by unfold bQ;rw[List.getElem?_map,x1];rfl
     have i2:(0< (cs'.length:Int))=True:=eq_true (by rw[he'.1];exact e4);have d12:=qd 12 δ δ;have hgo:=(cr (dI dn) cs' p).cl [6,12,2368];simp only[bC]at q2368 hgo;simp only[ap]at q1;simp only[go_sem,q6,q2368,d12,i2,Int.le_refl,Int.toNat_zero,yV,Dy,q1];generalize hX:ai 2 _ _=X;obtain⟨hh2,out,rfl,r6,r12,oo,hin⟩:=hhl _ _ _ hX rfl rfl (by rw[he'.1];rfl) (by rw[he'.1];rfl) rfl q6 rfl q2368;refine⟨out,?_,hfin out g' hv' hin⟩;simp only[fO]at r12;simp only[go_sem,r6,r12]
def PI(s:Rd):Rd×Int:=cH (df (zI s) (-16384- (1:Nat)))
theorem Ry{s:Rd}(ok:Ok0 s)(v:vd s=true):bk s.neg (ab s.m) (s.e+-1)=df (zI s) (-16384- (1:Nat)):=by
 obtain⟨_,h1,h2,_⟩:=ef v ok.lb;have:zI s=bE s.neg (mg s):=rfl;rw[this,←yN];unfold mg;rw[jC];grind
def Rz(x:Ri)(d:Rd):Bool:=vi x&&vd d&& (x.all||decide (zI x.lo<=zI d)&&decide (zI d<=zI x.hi))
theorem afU{x:Ri}{d:Rd}(ox:OkI x)(od:Ok0 d):R fa6 [am x,ae d] []=some (B (Rz x d),[]):=by
 refine au Qg rfl ?_;have v1:=mK ox;have v2:=eC od;have c1:=ri ox.lo od;have c2:=ri od ox.hi;unfold Rz;cases h1:vi x with
 |false=>
  rw[h1]at v1;simp only[am,ap,ae,ah]at v1 v2;simp only[jn,mN,am,ap,ae,ah,go_sem,v1,v2]
 |true=>
  rw[h1]at v1;cases h2:vd d with
  |false=>
   rw[h2]at v2;simp only[am,ap,ae,ah]at v1 v2;simp only[jn,mN,am,ap,ae,ah,go_sem,v1,v2]
  |true=>
   rw[h2]at v2;cases h3:x.all with
   |true=>
    simp only[am,ap,ae,ah,h3]at v1 v2;simp only[jn,mN,am,ap,ae,ah,go_sem,v1,v2,h3]
   |false=>
    have hl:vd x.lo=true/\vd x.hi=true:=by
     grind[vi]
    rw[if_pos ⟨hl.1,h2⟩]at c1;rw[if_pos ⟨h2,hl.2⟩]at c2;have e1:=@wo (zI x.lo) (zI d);have e2:=@wo (zI d) (zI x.hi);simp only[am,ap,ae,ah,h3]at v1 v2 c1 c2;by_cases h4:zI x.lo<=zI d
    ·simp only[jn,mN,am,ap,ae,ah,go_sem,v1,v2,h3,c1,c2,e1,e2,h4]
    ·simp only[jn,mN,am,ap,ae,ah,go_sem,v1,v2,h3,c1,e1,h4]
theorem ak2{x:Ri}{d:Rd}(h:In (qv d) x)(hd:vd d=true):Rz x d=true:=by
 unfold Rz;rw[h.v,hd];rcases h with rfl| ⟨h1,_,h3,h4⟩
 ·rfl
 grind[Ao]
def Im(a:Rp)(dom:List Ri)(p:Int)(b:Ri):Ri:=if(nP a dom&&bG p)=true then(if(uk (pI a dom p) b).2=true then(uk (pI a dom p) b).1 else dm)else dm
theorem NV{a:Rp}{dom:List Ri}(oa:OkP a)(od:∀x∈dom,OkI x)(h2:dom.length<=100000){p:Int}{b:Ri}(ob:OkI b)(hb:(nP a dom&&bG p)=true->R faj [aT a,.sl 7 (bQ dom),I p] []=some (am b,[])):
  R fak [aT a,.sl 7 (bQ dom),I p] []=some (am (Im a dom p b),[]):=by
 refine au VM rfl ?_;have hf:=La oa od h2 (p:=p);have hw:=H7;have hn:=ahC oa od h2 (p:=p);have on:=ae2 (a:=a) (dom:=dom) (p:=p);have hm:=aif (x:=pI a dom p) (y:=b) ⟨on.1.2,on.2.2⟩ ob;unfold Im;generalize pI a dom p=n at hn hm⊢;generalize uk n b=q at hm⊢;obtain⟨m1,m2⟩:=q;cases hq:(nP a dom&&bG p)with
 |false=>
  rw[hq]at hf;simp only[aT,am,ap,dm,aH]at hf hw;simp only[sC,zu,aT,am,ap,dm,aH,go_sem,hf,hw]
 |true=>
  rw[hq]at hf
  replace hb:=hb hq
  simp only[aT,am,ap,dm,aH]at hf hw hn hb hm;cases m2 with
  |true=>
   simp only[sC,zu,aT,am,ap,go_sem,hf,hw,hn,hb,hm]
  |false=>
   simp only[sC,zu,aT,am,ap,dm,aH,go_sem,hf,hw,hn,hb,hm]
def lS(x y:Ri):Bool:=if vi x=true/\vi y=true/\x.all=false then(y.all||decide (zI y.lo<=zI x.lo)&&decide (zI x.hi<=zI y.hi))else(vi x&& (vi y&&y.all))
theorem adb{x y:Ri}(ox:OkI x)(oy:OkI y):R fc0 [am x,am y] []=some (B (lS x y),[]):=by
 refine au V3 rfl ?_;have v1:=FG ox;have v2:=FG oy;unfold lS;simp only[am,ap]at v1 v2;cases h1:vi x with
 |false=>
  rw[h1]at v1;simp only[jO,nC,am,ap,go_sem,v1,ayh]
 |true=>
  rw[h1]at v1;cases h2:vi y with
  |false=>
   rw[h2]at v2;simp only[jO,nC,am,ap,go_sem,v1,v2,ayh,ayg]
  |true=>
   rw[h2]at v2;cases h3:x.all with
   |true=>
    rw[h3]at v1;rw[if_neg σ];simp only[jO,nC,am,ap,go_sem,v1,v2,h3,ayg]
   |false=>
    rw[h3]at v1;have hx:vd x.lo=true/\vd x.hi=true:=by
     grind[vi]
    cases h4:y.all with
    |true=>
     rw[h4]at v2;simp only[jO,nC,am,ap,go_sem,v1,v2,h3,h4,ay9]
    |false=>
     rw[h4]at v2;have hy:vd y.lo=true/\vd y.hi=true:=by
      grind[vi]
     have c1:=QY oy.lo ox.lo hy.1 hx.1;have c2:=QY ox.hi oy.hi hx.2 hy.2;simp only[ae,ah]at c1 c2;by_cases h5:zI y.lo<=zI x.lo
     ·rw[decide_eq_true h5];have e5:(cx (zI y.lo) (zI x.lo)<=0)=True:=by simp_all[wo,eq_true]
      simp only[jO,nC,am,ap,go_sem,v1,v2,h3,h4,c1,c2,e5,wo,ayg,Bool.false_or,decide_true]
     ·rw[decide_eq_false h5];have e5:(cx (zI y.lo) (zI x.lo)<=0)=False:=by simp_all[wo,eq_false]
      simp only[jO,nC,am,ap,go_sem,v1,v2,h3,h4,c1,e5,ayh,Bool.false_or,decide_false]
end Go.Ab
