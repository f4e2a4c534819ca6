/-
  A law of models holds at every input that the statement speaks of, under the conditions that its card names. Part F1.
-/
import Derived.Test.YtdhfcpbpdmmphaaGreatDoorE1
open Nat renaming add_mul → axk, add_zero → axo, div_add_mod → axS, le_of_ble_eq_true → axJ, le_refl → awQ, le_trans → awX, lt_of_le_of_lt → axF, lt_of_lt_of_le → axX, min_eq_left → axP, mod_eq_of_lt → axK, mod_lt → axq, mul_assoc → axn, mul_comm → axf, mul_le_mul → aFW, mul_le_mul_left → axW, mul_le_mul_right → awZ, pow_add → axa, pow_le_pow_right → axC, pow_succ → axO, reduceMod → axD, reduceSub → axw, two_pow_pos → axb, zero_add → awP, zero_le → axz
open Int renaming eq_ofNat_of_zero_le → ax5, lt_irrefl → axU, natCast_mul → aFX, natCast_zero → axB, toNat_natCast → awY
open Bool renaming and_eq_true → awS, and_false → axx, and_self → axm, false_and → awU, false_eq_true → axV, false_ne_true → awW, false_or → axY, not_eq_true' → ax3, true_and → awT, true_or → axQ
open List renaming all_cons → axu, append_assoc → axL, append_nil → axe, cons_append → axM, drop_eq_getElem_cons → axh, drop_eq_nil_of_le → axi, getElem_mem → axr, length_cons → axE, length_drop → ax2, length_nil → axI, length_replicate → ax1, length_take → axd, map_congr_left → axy, map_cons → axp, map_id' → axN, map_nil → axv, mem_map → axR, nil_append → axc, replicate → awO, take_of_length_le → axg
open Option renaming bind_eq_some_iff → awN, bind_some → awV, map_some → axH
open Rat renaming intCast_mul → aFn, le_trans → aDM, mul_le_mul_of_nonneg_right → axT, pow_succ → aDL
set_option linter.all false
namespace Go.Ab
open Go Go.IntWalk
set_option maxRecDepth 4000
set_option maxHeartbeats 8000000
attribute [-go_sem] NK Kj in
theorem abG{third v w T V:Nat}(hV:V=v*4294967296+w)(hv:2147483648<=v)(hvb:v<4294967296)(hw:w<4294967296)(h3:third<4294967296):
  ∀ (k q rest:Nat),4294967296<=rest+k*2147483648->q<=4294967295->rest<8589934592->T=(q*v+rest)*4294967296+third->∀ (s:ak) (h:ac),s 0=W q->s 1=W rest->s 2=U third->s 3=U v->s 4=U w->
  ∃hh,aj 0 [0] (au (ai R (az false) fZ) [0,1,2,3,4] [] s h)=some (.normal,⟨upd (fun _=>.any) 0 (W (min q (T/V):Nat)),hh⟩):=by
 intro k;induction k with
 |zero=>
  intro q rest hk hq hr hT s h g0 g1 g2 g3 g4;have hs:=(V5 (q:=q) hT hV (by omega) hw (by omega)).2 (fun h=>by omega);have e1:((rest:Int)<4294967296)=False:=ff;rw[axP hs,ag];refine⟨fun _=>.dead,?_⟩;simp only[fZ,go_sem,g0,g1,g2,g3,g4,e1]
 |succ k ih=>
  intro q rest hk hq hr hT s h g0 g1 g2 g3 g4;have hd:=V5 (q:=q) hT hV (by omega) hw (by omega);by_cases hlt:rest<4294967296
  ·have e1:((rest:Int)<4294967296)=True:=tt;have hqw:q*w<=4294967295*4294967295:=aFW hq (by omega);have e2:IntKind.u64.wrap ((q:Int)*(w:Int))=((q*w:Nat):Int):=dE (by simp) (by omega);have e3:=ET (n:=rest) (k:=32) (i:=(rest:Int)) (kk:=.u64) (j:=32) rfl rfl (by decide) (by omega);have e4:=ME (m:=rest*2^32) (n:=third) (i:=((rest*2^32:Nat):Int)) (j:=(third:Int)) rfl rfl (by omega) (by omega);rw[DO (x:=rest) (c:=third) (k:=32) (by omega)]at e4;have e5:IntKind.u64.wrap (third:Int)=third:=dE rfl (by omega);have e6:IntKind.u64.wrap (w:Int)=w:=dE rfl (by omega);have e7:IntKind.u64.wrap (v:Int)=v:=dE rfl (by omega);by_cases hc:rest*4294967296+third<q*w
   ·have e8:(((rest*2^32+third:Nat):Int)< ((q*w:Nat):Int))=True:=tt;have hq1:1<=q:=Nat.pos_of_ne_zero fun h0=>by grind
    have e9:IntKind.u64.wrap ((q:Int)-1)=((q-1:Nat):Int):=dE (by omega) (by omega);have e10:IntKind.u64.wrap ((rest:Int)+(v:Int))=((rest+v:Nat):Int):=dE (by simp) (by omega);have hT2:T=((q-1)*v+(rest+v))*4294967296+third:=by
     rw[hT,Nat.sub_mul,Nat.one_mul];have:v<=q*v:=Nat.le_mul_of_pos_left v hq1;omega
    have ih':=ih (q-1) (rest+v) (by omega) (by omega) (by omega) hT2;have hm:min q (T/V)=min (q-1) (T/V):=by omega
    rw[hm,ag];simp only[fZ,go_sem,g0,g1,g2,g3,g4,e1,e2,e3,e4,e5,e6,e7,e8,e9,e10];exact ih' _ _ rfl rfl rfl rfl rfl
   ·have e8:(((rest*2^32+third:Nat):Int)< ((q*w:Nat):Int))=False:=ff;have hs:=hd.2 (fun h=>hc h.2);rw[axP hs,ag];refine⟨fun _=>.dead,?_⟩;simp only[fZ,go_sem,g0,g1,g2,g3,g4,e1,e2,e3,e4,e5,e6,e8]
  ·have hs:=hd.2 (fun h=>hlt h.1);have e1:((rest:Int)<4294967296)=False:=ff;rw[axP hs,ag];refine⟨fun _=>.dead,?_⟩;simp only[fZ,go_sem,g0,g1,g2,g3,g4,e1]
theorem ajf{q rest third v w T V:Nat}(hV:V=v*4294967296+w)(hv:2147483648<=v)(hvb:v<4294967296)(hw:w<4294967296)(h3:third<4294967296)(hq:q<=4294967295)(hr:rest<8589934592)(hT:T=(q*v+rest)*4294967296+third)(s:ak)(h:ac)(X:Option (Ex×St))(hX:aj 0 [0] (au (ai R (az false) fZ) [0,1,2,3,4] [] s h)=X)(g0:s 0=W q)(g1:s 1=W rest)(g2:s 2=U third)(g3:s 3=U v)(g4:s 4=U w):
  ∃hh,X=some (.normal,⟨upd (fun _=>.any) 0 (W (min q (T/V):Nat)),hh⟩):=by
 subst hX;exact abG hV hv hvb hw h3 2 q rest (by omega) hq hr hT s h g0 g1 g2 g3 g4
theorem V8{q rest third v w T V:Nat}(hV:V=v*4294967296+w)(hv:2147483648<=v)(hvb:v<4294967296)(hw:w<4294967296)(h3:third<4294967296)(hq:q<=4294967295)(hr:rest<8589934592)(hT:T=(q*v+rest)*4294967296+third):
  R F.natural_digit [W q,W rest,U third,U v,U w] []=some (W (min q (T/V):Nat),[]):=by
 refine ax Oh rfl ?_;have hl:=ajf hV hv hvb hw h3 hq hr hT;simp only[xH,EM,go_sem];generalize hX:aj 0 _ _=X;obtain⟨hh,rfl⟩:=hl _ _ _ hX rfl rfl rfl rfl rfl;simp only[go_sem]
attribute [-go_sem] NK Kj in
theorem agG{top next third v w:Nat}(hv:2147483648<=v)(hvb:v<4294967296)(ht:top<=v)(hn:next<4294967296)(h3:third<4294967296)(hw:w<4294967296):
  R F.natural_guess [U top,U next,U third,U v,U w] []=some (W (v9 ((top*4294967296+next)*4294967296+third) (v*4294967296+w):Nat),[]):=by
 refine ax Of rfl ?_;rw[←XH (by omega) hvb ht hn h3];have c1:IntKind.u64.wrap (next:Int)=next:=dE rfl (by omega)
 have c2:IntKind.u64.wrap (v:Int)=v:=dE rfl (by omega);have c3:IntKind.u64.wrap (top:Int)=top:=dE rfl (by omega);by_cases h:v<=top
 ·have e1:((v:Int)<=(top:Int))=True:=tt;rw[if_pos h];have e2:IntKind.u32.wrap ((top:Int)- (v:Int))=0:=by
   rw[show(top:Int)- (v:Int)=0 by omega];rfl
  have e3:IntKind.u64.wrap 0=0:=rfl;have e4:=ET (n:=0) (k:=32) (i:=0) (kk:=.u64) (j:=32) rfl rfl (by decide) (by decide);have e5:IntKind.u64.wrap (0+(next:Int))=next:=dE (by omega) (by omega)
  have e6:IntKind.u64.wrap ((next:Int)+(v:Int))=((next+v:Nat):Int):=dE (by simp) (by omega);have hd:=V8 (q:=4294967295) (rest:=next+v) (third:=third) (v:=v) (w:=w) (T:=(top*4294967296+next)*4294967296+third) rfl hv hvb hw h3 (by decide) (by omega) (by
   omega)
  have e7:(((4294967295:Nat):Int))=4294967295:=rfl;rw[e7]at hd;rw[Nat.zero_mul]at e4;simp only[axB]at e4;simp only[rH,zu,go_sem,e1,e2,e3,e4,e5,e6,c1,c2,hd]
 ·have e1:((v:Int)<=(top:Int))=False:=ff;rw[if_neg h];have e4:=ET (n:=top) (k:=32) (i:=(top:Int)) (kk:=.u64) (j:=32) rfl rfl (by decide) (by omega);have e5:=ME (m:=top*2^32) (n:=next) (i:=((top*2^32:Nat):Int)) (j:=(next:Int)) rfl rfl (by omega) (by omega);rw[DO (x:=top) (c:=next) (k:=32) (by omega),show top*2^32+next=top*4294967296+next from rfl]at e5;obtain⟨N,hN⟩:∃N,top*4294967296+next=N:=⟨_,rfl⟩
  rw[hN]at e5⊢;have hNb:N<18446744073709551616:=by omega
  have e6:dP .quo (W N) (W v)=some (W (N/v:Nat)):=by
   rw[Pi,if_neg (by omega),Int.tdiv_eq_ediv_of_nonneg (by omega)];have:N/v<=N:=Nat.div_le_self _ _;grind[dE]
  have e7:dP .rem (W N) (W v)=some (W (N%v:Nat)):=by
   rw[Ki,if_neg (by omega),Int.tmod_eq_emod_of_nonneg (by omega)];rfl
  have hm:=axq N (show 0<v by omega);have hq:N/v<=4294967295:=by
   have:N/v<4294967296:=by
    rw[Nat.div_lt_iff_lt_mul (by omega)];omega
   omega
  have hd:=V8 (q:=N/v) (rest:=N%v) (third:=third) (v:=v) (w:=w) (T:=N*4294967296+third) rfl hv hvb hw h3 hq (by omega) (by
   rw[axf (N/v) v,axS])
  simp only[rH,zu,go_sem,e1,e4,e5,e6,e7,c1,c2,c3,hd]
attribute [-go_sem] NK Kj in
theorem agH{a b y:Nat}(hay:a<y)(hy:y<4294967296)(hb:b<4294967296):
  R F.bits_Div32 [U a,U b,U y] []=some (.tup [U ((a*4294967296+b)/y:Nat),U ((a*4294967296+b) %y:Nat)],[]):=by
 refine ax U6 rfl ?_;have e1:((y:Int)=0)=False:=ff;have e2:((y:Int)<=(a:Int))=False:=ff;have c1:IntKind.u64.wrap (a:Int)=a:=dE rfl (by omega);have c2:IntKind.u64.wrap (b:Int)=b:=dE rfl (by omega);have c3:IntKind.u64.wrap (y:Int)=y:=dE rfl (by omega);have e4:=ET (n:=a) (k:=32) (i:=(a:Int)) (kk:=.u64) (j:=32) rfl rfl (by decide) (by omega);have e5:=ME (m:=a*2^32) (n:=b) (i:=((a*2^32:Nat):Int)) (j:=(b:Int)) rfl rfl (by omega) (by omega);rw[DO (x:=a) (c:=b) (k:=32) (by omega),show a*2^32+b=a*4294967296+b from rfl]at e5;rw[show a*2^32=a*4294967296 from rfl]at e4 e5;obtain⟨N,hN⟩:∃N,a*4294967296+b=N:=⟨_,rfl⟩;rw[hN]at e5⊢;have e6:dP .quo (W N) (W y)=some (W (N/y:Nat)):=by
  rw[Pi,if_neg (by omega),Int.tdiv_eq_ediv_of_nonneg (by omega)];have:N/y<=N:=Nat.div_le_self _ _;rw[dE (n:=N/y) (by simp) (by omega)]
 have e7:dP .rem (W N) (W y)=some (W (N%y:Nat)):=by
  rw[Ki,if_neg (by omega),Int.tmod_eq_emod_of_nonneg (by omega)];rfl
 have hm:=axq N (show 0<y by omega);have hq:N/y<4294967296:=by
  rw[Nat.div_lt_iff_lt_mul (by omega)];have h3:(a+1)*4294967296<=y*4294967296:=awZ _ (by omega);rw[axf 4294967296 y];omega
 have w1:IntKind.u32.wrap ((N/y:Nat):Int)=((N/y:Nat):Int):=BB rfl hq;have w2:IntKind.u32.wrap ((N%y:Nat):Int)=((N%y:Nat):Int):=BB rfl (by omega);simp only[B9,Jc,go_sem,e1,e2,e4,e5,e6,e7,c1,c2,c3,w1,w2]
def fl(y:Nat):List Nat->List Nat×Nat
 |[]=>([],0)
 |x::l=>(((fl y l).2*4294967296+x)/y::(fl y l).1,((fl y l).2*4294967296+x) %y)
theorem CV{y:Nat}(hy:0<y):∀ {l:List Nat},Lb l->ab l=ab (fl y l).1*y+(fl y l).2/\(fl y l).2<y/\(fl y l).1.length=l.length
 |[],_=>⟨by simp[fl,ab],hy,rfl⟩
 |x::l,hl=>by
  obtain⟨h1,h2,h3⟩:=CV hy (l:=l) fun z hz=>hl z (by simp[hz]);unfold fl;refine⟨?_,axq _ hy,by simp[h3]⟩;show x+4294967296*ab l=(((fl y l).2*4294967296+x)/y+4294967296*ab (fl y l).1)*y+((fl y l).2*4294967296+x) %y;have hm:=axS ((fl y l).2*4294967296+x) y;rw[axf]at hm;rw[axk,axn];generalize((fl y l).2*4294967296+x)/y*y=A at*
  omega
theorem YZ{y:Nat}(hy:0<y)(hyb:y<4294967296):∀ {l:List Nat},Lb l->Lb (fl y l).1
 |[],_=>fun x hx=>(nomatch hx)
 |x::l,hl=>by
  have hl':Lb l:=fun z hz=>hl z (by simp[hz]);have h2:=(CV hy hl').2.1;have hx:=hl x (by simp);intro z hz;rcases List.mem_cons.1 hz with h|h
  ·rw[h];show((fl y l).2*4294967296+x)/y<4294967296;rw[Nat.div_lt_iff_lt_mul hy];have h3:((fl y l).2+1)*4294967296<=y*4294967296:=awZ _ (by omega);rw[axf 4294967296 y];omega
  ·exact YZ hy hyb hl' z h
theorem agI{a:List Nat}(ha:Lb a){y:Nat}(hy:0<y)(hyb:y<4294967296)(h1:a.length<=100000):
  ∀ (m:Nat),m<=a.length->∀ (s:ak) (h:ac),s 0=lm a->s 1=U y->s 6=.rsl 11 none 1 0 a.length->s 7=U ((fl y (a.drop m)).2:Nat)->s 8=I ((m:Int)-1)->h 11=.ar 1 (aB (awO m 0++(fl y (a.drop m)).1))->
  ∃hh,aj 0 [6,7] (au (ai R (az false) aEz) [0,1,6,7,8] [11] s h)=some (.normal,⟨upd (upd (fun _=>.any) 7 (U ((fl y a).2:Nat))) 6 (.rsl 11 none 1 0 a.length),hh⟩)/\hh 11=.ar 1 (aB (fl y a).1)/\(∀x,x≠11->hh x=.dead):=by
 intro m;induction m with
 |zero=>
  intro hm s h g0 g1 g6 g7 g8 k11;have e1:(0<=(((0:Nat):Int)-1))=False:=ff;rw[ag];refine⟨?hh0,?_,?_,?_⟩;rotate_left
  ·simp only[aEz,go_sem,g0,g1,g6,g7,g8,k11,e1];rfl
  all_goals simp_all[azJ,if_false]
 |succ m ih=>
  intro hm s h g0 g1 g6 g7 g8 k11;have hlt:m<a.length:=by omega
  have hd:a.drop m=a.getD m 0::a.drop (m+1):=by
   simp_all
  have ha':Lb (a.drop (m+1)):=mG ha _;obtain⟨q1,q2,q3⟩:=CV hy ha';have e0:(((m+1:Nat):Int)-1)=(m:Int):=by omega
  rw[e0]at g8;have e1:(0<=(m:Int))=True:=tt;have e2:aW (aB a) (m:Int)=some (.ipt [U (a.getD m 0:Nat)]):=bt rfl (by omega);have e3:IntKind.i64.wrap ((m:Int)-1)=(m:Int)-1:=i64_in _ ⟨by omega,by omega⟩;have e5:((m:Int)< (a.length:Int))=True:=tt;have e6:=agH (a:=(fl y (a.drop (m+1))).2) (b:=a.getD m 0) q2 hyb (bN ha m);have ih':=ih (by omega);rw[hd]at ih';have hs1:(fl y (a.getD m 0::a.drop (m+1))).1=((fl y (a.drop (m+1))).2*4294967296+a.getD m 0)/y::(fl y (a.drop (m+1))).1:=rfl;have hs2:(fl y (a.getD m 0::a.drop (m+1))).2=((fl y (a.drop (m+1))).2*4294967296+a.getD m 0) %y:=rfl;rw[hs1,hs2]at ih';generalize((fl y (a.drop (m+1))).2*4294967296+a.getD m 0)/y=qd at*
  have e7:(aB (awO (m+1) 0++(fl y (a.drop (m+1))).1))[m]?=some [U (0:Nat)]:=by
   rw[kj (by grind),List.getD_eq_getElem?_getD,List.getElem?_append_left (by simp),List.getElem?_replicate,if_pos (by omega)];rfl
  have e8:(aB (awO (m+1) 0++(fl y (a.drop (m+1))).1)).set m [U (qd:Nat)]=aB (awO m 0++qd::(fl y (a.drop (m+1))).1):=by
   rw[nX];rw[List.replicate_succ',axL,List.set_append_right _ _ (by simp)];simp
  rw[ag];simp only[aEz,go_sem,g0,g1,g6,g7,g8,k11,e1,e2,e3,e5,e6,e7,e8,awY,awP];exact ih' _ _ rfl rfl rfl rfl rfl rfl
theorem aok{a:List Nat}(ha:Lb a){y:Nat}(hy:0<y)(hyb:y<4294967296)(h1:a.length<=100000)(s:ak)(h:ac)(X:Option (Ex×St))(hX:aj 0 [6,7] (au (ai R (az false) aEz) [0,1,6,7,8] [11] s h)=X)
  (g0:s 0=lm a) (g1:s 1=U y) (g6:s 6=.rsl 11 none 1 0 a.length) (g7:s 7=U 0) (g8:s 8=I ((a.length:Int)-1)) (k11:h 11=.ar 1 (aB (awO a.length 0))):
  ∃hh,X=some (.normal,⟨upd (upd (fun _=>.any) 7 (U ((fl y a).2:Nat))) 6 (.rsl 11 none 1 0 a.length),hh⟩)/\hh 11=.ar 1 (aB (fl y a).1)/\(∀x,x≠11->hh x=.dead):=by
 subst hX;have hn:a.drop a.length=[]:=List.drop_of_length_le (awQ _);refine agI ha hy hyb h1 a.length (awQ _) s h g0 g1 g6 ?_ g8 ?_
 ·rw[hn];exact g7
 ·rw[hn];show h 11=.ar 1 (aB (awO a.length 0++[]));grind
theorem agJ{a:List Nat}(ha:Lb a){y:Nat}(hy:0<y)(hyb:y<4294967296)(h1:a.length<=100000):R F.natural_short [lm a,U y] []=some (.tup [lm (fl y a).1,U ((fl y a).2:Nat)],[]):=by
 refine ax Oe rfl ?_;have hl:=aok ha hy hyb h1;have e3:IntKind.i64.wrap ((a.length:Int)-1)=(a.length:Int)-1:=i64_in _ ⟨by omega,by omega⟩;have e4:=qM (i:=(a.length:Int)) (j:=(a.length:Int)) rfl rfl (awQ _) (by omega);have e5:(a.length*4<=140737488355328)=True:=tt;simp only[xG,EK,go_sem,e3,e4,e5,AC];generalize hX:aj 0 _ _=X;obtain⟨hh,rfl,q11,qd⟩:=hl _ _ _ hX rfl rfl rfl rfl rfl rfl;have hlen:=(CV hy ha).2.2;simp only[go_sem,q11,hlen,awP,awQ]
theorem V9{u s b:Nat}(hu:u<4294967296)(hs:s<4294967296)(hb:b<4294967296):IntKind.u64.wrap (IntKind.u64.wrap ((u:Int)- (s:Int))- (b:Int))=(((u+18446744073709551616-s-b) %18446744073709551616:Nat):Int):=by
 grind[IntKind.wrap,IntKind.bits,IntKind.signed]
attribute [-go_sem] Pj FU in
theorem ad7{V Z:List Nat}{q lo:Nat}(hV:Lb V)(hq:q<4294967296)(hn:V.length<=100000)(hlo:lo<=100000):
  ∀ (vs us P:List Nat) (i c b:Nat),i+vs.length=V.length->V.drop i=vs->us.length=vs.length->P.length=lo+i->Lb us->c<4294967296->b<=1->∀ (s:ak) (h:ac),s 0=.rsl 1000 none 1 lo (V.length+1)->s 1=lm V->s 2=W q->s 7=W c->s 8=W b->s 14=lm V->s 15=I V.length->s 16=I i->h 1000=.ar 1 (aB (P++(us++Z)))->
  ∃hh,aj 0 [0,1,7,8] (au (ai R (az false) lP) [0,1,2,7,8,14,15,16] [1000] s h)=some (.normal,⟨upd (upd (upd (upd (fun _=>.any) 8 (W ((sM q us vs c b).2.2:Nat))) 7 (W ((sM q us vs c b).2.1:Nat))) 1 (lm V)) 0 (.rsl 1000 none 1 lo (V.length+1)),hh⟩)/\hh 1000=.ar 1 (aB (P++((sM q us vs c b).1++Z))):=by
 intro vs;induction vs with
 |nil=>
  intro us P i c b hi hd hl hP hu hc hb s h g0 g1 g2 g7 g8 g14 g15 g16 k;have hus:us=[]:=List.length_eq_zero_iff.1 hl;subst hus;have hi':i=V.length:=by omega
  subst hi';rw[ag];refine⟨?hh0,?_,?_⟩;rotate_left
  ·simp only[lP,go_sem,g0,g1,g2,g7,g8,g14,g15,g16,k,axU];rfl
  ·rfl
 |cons y vs ih=>
  intro us P i c b hi hd hl hP hu hc hb s h g0 g1 g2 g7 g8 g14 g15 g16 k;obtain⟨u,us,rfl⟩:∃u us',us=u::us':=by
   cases us with
   |nil=>grind
   |cons u us=>grind
  have hi2:i<V.length:=by grind
  have hy:V.getD i 0=y/\V.drop (i+1)=vs:=by
   grind[axh]
  have hyb:y<4294967296:=by grind[bN]
  have hub:=hu u (by simp);have hqy:q*y<=4294967295*4294967295:=aFW (by omega) (by omega);have e1:((i:Int)< (V.length:Int))=True:=tt;have e2:aW (aB V) (i:Int)=some (.ipt [U (y:Nat)]):=by
   grind[bt]
  have e3:IntKind.i64.wrap ((i:Int)+1)=((i+1:Nat):Int):=wi;have e4:(0<=(i:Int))=True:=tt;have e5:((i:Int)< ((V.length+1:Nat):Int))=True:=tt;have c1:IntKind.u64.wrap (y:Int)=y:=dE rfl (by omega);have c2:IntKind.u64.wrap ((q:Int)*(y:Int))=((q*y:Nat):Int):=dE (by simp) (by omega);have c3:IntKind.u64.wrap (((q*y:Nat):Int)+(c:Int))=((q*y+c:Nat):Int):=dE (by simp) (by omega);have c4:=pR (n:=q*y+c) (k:=32) (i:=((q*y+c:Nat):Int)) (kk:=.u64) (j:=32) rfl rfl (by omega);rw[show(2:Nat)^32=4294967296 from rfl]at c4;have c5:IntKind.u64.wrap (u:Int)=u:=dE rfl (by omega);have c6:=BG (n:=q*y+c) (i:=((q*y+c:Nat):Int)) rfl (by omega);have hs:=axq (q*y+c) (by decide:0<4294967296);have hc2:(q*y+c)/4294967296<4294967296:=by
   omega
  have c7:=V9 (b:=b) hub hs (by omega);obtain⟨k1,_⟩:=Qi (b:=b) hub hs hb;have ih':=ih us (P++[(u+18446744073709551616- (q*y+c) %4294967296-b) %18446744073709551616%4294967296]) (i+1) ((q*y+c)/4294967296) ((u+18446744073709551616- (q*y+c) %4294967296-b) %18446744073709551616/9223372036854775808) (by grind) hy.2 (by grind) (by grind) (fun x hx=>hu x (by simp[hx])) hc2 k1;unfold sM;generalize(u+18446744073709551616- (q*y+c) %4294967296-b) %18446744073709551616=x at*
  have c8:IntKind.u32.wrap (x:Int)=((x%4294967296:Nat):Int):=Hj rfl;have c9:=pR (n:=x) (k:=63) (i:=(x:Int)) (kk:=.u64) (j:=63) rfl rfl (by omega);rw[show(2:Nat)^63=9223372036854775808 from rfl]at c9;have e7:(aB (P++(u::us++Z)))[lo+i]?=some [U (u:Nat)]:=by
   rw[kj (by simp[hP]),List.getD_eq_getElem?_getD,List.getElem?_append_right (by omega),hP,Nat.sub_self];rfl
  have e8:(aB (P++(u::us++Z))).set (lo+i) [U ((x%4294967296:Nat):Int)]=aB (P++[x%4294967296]++(us++Z)):=by
   rw[nX,←hP,List.set_append_right _ _ (awQ _),Nat.sub_self,axL];rfl
  simp only[axL,axM,axc]at ih' e7 e8 k⊢;rw[ag];generalize au _ _ _=L at ih'⊢;simp only[lP,go_sem,g0,g1,g2,g7,g8,g14,g15,g16,k,e1,e2,e3,e4,e5,e7,e8,c1,c2,c3,c4,c5,c6,c7,c8,c9,awY];exact ih' _ _ rfl rfl rfl rfl rfl rfl rfl rfl rfl
theorem alI{V Z us P:List Nat}{q lo:Nat}(hV:Lb V)(hq:q<4294967296)(hn:V.length<=100000)(hlo:lo<=100000)(hl:us.length=V.length)(hP:P.length=lo)(hu:Lb us)(s:ak)(h:ac)(X:Option (Ex×St))(hX:aj 0 [0,1,7,8] (au (ai R (az false) lP) [0,1,2,7,8,14,15,16] [1000] s h)=X)
  (g0:s 0=.rsl 1000 none 1 lo (V.length+1)) (g1:s 1=lm V) (g2:s 2=W q) (g7:s 7=W 0) (g8:s 8=W 0) (g14:s 14=lm V) (g15:s 15=I V.length) (g16:s 16=I 0) (k:h 1000=.ar 1 (aB (P++(us++Z)))):
  ∃hh,X=some (.normal,⟨upd (upd (upd (upd (fun _=>.any) 8 (W ((sM q us V 0 0).2.2:Nat))) 7 (W ((sM q us V 0 0).2.1:Nat))) 1 (lm V)) 0 (.rsl 1000 none 1 lo (V.length+1)),hh⟩)/\hh 1000=.ar 1 (aB (P++((sM q us V 0 0).1++Z))):=by
 subst hX
 simp_all[ad7]
attribute [-go_sem] FU in
theorem ajg{V us P Q:List Nat}{q lo top:Nat}(hV:Lb V)(hq:q<4294967296)(hn:V.length<=100000)(hlo:lo<=100000)(hl:us.length=V.length)(hP:P.length=lo)(hu:Lb us)(ht:top<4294967296):
  R F.natural_take [.rsl 1000 none 1 lo (V.length+1),lm V,W q] [.ar 1 (aB (P++(us++top::Q)))]=some (B (ns q top us V).2.2,[.ar 1 (aB (P++((ns q top us V).1++(ns q top us V).2.1::Q)))]):=by
 refine vT PO PN (Cn false) rfl ?_;have hx:=alI (Z:=top::Q) hV hq hn hlo hl hP hu;obtain⟨t1,t2,t3,t4,t5⟩:=V6 hq hu hV hl (c:=0) (b:=0) (by decide) (by decide);unfold ns;have e4:(0<=(V.length:Int))=True:=tt;have e5:((V.length:Int)< ((V.length+1:Nat):Int))=True:=tt;simp only[zz,Gb,go_sem];generalize hX:aj 0 _ _=X;obtain⟨hh,rfl,q1⟩:=hx _ _ _ hX rfl rfl rfl rfl rfl rfl rfl rfl rfl;generalize sM q us V 0 0=r at*
 obtain⟨r1,c,b⟩:=r;simp only at t2 t3 t4 t5 q1⊢;have c5:IntKind.u64.wrap (top:Int)=top:=dE rfl (by omega);have c7:=V9 (u:=top) (s:=c) (b:=b) ht t2 (by omega);generalize(top+18446744073709551616-c-b) %18446744073709551616=x at*
 have c8:IntKind.u32.wrap (x:Int)=((x%4294967296:Nat):Int):=Hj rfl;have c9:=pR (n:=x) (k:=63) (i:=(x:Int)) (kk:=.u64) (j:=63) rfl rfl (by omega);have e7:(aB (P++(r1++top::Q)))[lo+V.length]?=some [U (top:Nat)]:=by
  simp_all[kj,Nat.add_sub_cancel_left,Nat.sub_self]
 have e8:(aB (P++(r1++top::Q))).set (lo+V.length) [U ((x%4294967296:Nat):Int)]=aB (P++(r1++x%4294967296::Q)):=by
  rw[nX,List.set_append_right _ _ (by omega),List.set_append_right _ _ (by omega),hP,t5,Nat.add_sub_cancel_left,Nat.sub_self];rfl
 have e9:(((x/9223372036854775808:Nat):Int)=1)=(x/9223372036854775808=1):=by
  grind
 simp only[go_sem,q1,e4,e5,e7,e8,c5,c7,c8,c9,e9,awY];rfl
theorem ad8{V us P Q:List Nat}{q lo top:Nat}(hV:Lb V)(hq:q<4294967296)(hn:V.length<=100000)(hlo:lo<=100000)(hl:us.length=V.length)(hP:P.length=lo)(hu:Lb us)(ht:top<4294967296){h:ac}{d id:Nat}(hh:h id=.ar 1 (aB (P++(us++top::Q))))(hd:h (2000+8*d)=.dead):
  bE R (az false) h d [.rsl id none 1 lo (V.length+1),lm V,W q] (.fn F.natural_take [] [])=some (B (ns q top us V).2.2,upd h id (.ar 1 (aB (P++((ns q top us V).1++(ns q top us V).2.1::Q)))),[(id,true)]):=by
 have hm:=PP false;have hs:=Og false;have hk:=Cn false;have hf:=ajg (Q:=Q) hV hq hn hlo hl hP hu ht;have hb':jX (az false) [.rsl id none 1 lo (V.length+1),lm V,W q] (.fn F.natural_take [] [])=false:=by
  grind[jX]
 have h1:bQ h [1,0,0] [.rsl id none 1 lo (V.length+1),.sl 1 (aB V),W q]=some ([.rsl id none 1 lo (V.length+1),.sl 1 (aB V),W q],h,[]):=by
  simp[bQ,dw,vV,fK,aD]
 have hr:bV h 40 [id] 0=[id]:=by
  grind[bV,nK,bF]
 have hp:bF [] ([AV.rsl id none 1 lo (V.length+1),.sl 1 (aB V),W q].flatMap bX)=[id]:=by
  simp[bX,fE,bF]
 have h3:bj [id] id=1000:=by simp[bj]
 have hnr:cz (B (ns q top us V).2.2)=1:=rfl;have hnm:bo [[.o 2 []],[.o 2 []],[]] [.rsl id none 1 lo (V.length+1),.sl 1 (aB V),W q]=[.rsl id none 1 lo (V.length+1),.sl 1 (aB V),W q]:=by
  simp only[go_sem];rfl
 unfold bE;rw[if_neg (by grind)];simp only[lm]at hf⊢;simp only[dS,hm,axc,axe,h1,awV,hp,hr,hs,hnm];simp[jK,be,bk,hh,aC,bS,dQ,jW,h3,dL,hf,eJ,hnr,cw,hd,cY,bf,oj,BL,qY,fE,iW,aEt,Eo,eu,mat,dG,fR,hk,Fe,hm]
theorem agK{V us P Z Qr:List Nat}{sh n j g:Int}{UL QL J:Nat}(hV:Lb V)(hu:Lb us)(hl:us.length=V.length)(hn:V.length<=100000)(hP:P.length=J)(hj:j=J)(hJ:J<=100000)(hUL:J+V.length<=UL):
  ∀ (k i:Nat),i+k=V.length->∀ (s:ak) (h:ac),s 8=I sh->s 9=.rsl 2408 none 1 0 UL->s 10=lm V->s 11=I n->s 12=.rsl 70 none 1 0 QL->s 13=I j->s 14=W g->s 15=U (dY us V i:Nat)->s 123=lm V->s 124=I V.length->s 125=I i->h 63=.dead->h 70=.ar 1 (aB Qr)->h 2408=.ar 1 (aB (P++(aEr us V i++(us.drop i++Z))))->
  ∃hh,aj 4 [8,9,10,11,12,13,14,15] (au (ai R (az false) gW) [8,9,10,11,12,13,14,15,123,124,125] [63,70,2408] s h)=some (.normal,⟨upd (upd (upd (upd (upd (upd (upd (upd (fun _=>.any) 15 (U (dY us V V.length:Nat))) 14 (W g)) 13 (I j)) 12 (.rsl 70 none 1 0 QL)) 11 (I n)) 10 (lm V)) 9 (.rsl 2408 none 1 0 UL)) 8 (I sh),hh⟩)/\hh 70=.ar 1 (aB Qr)/\hh 2408=.ar 1 (aB (P++(aEr us V V.length++Z)))/\(∀a,a≠70->a≠2408->hh a=.dead):=by
 subst hj;intro k;induction k with
 |zero=>
  intro i hi s h g8 g9 g10 g11 g12 g13 g14 g15 g123 g124 g125 k63 k70 k2408;have hi':i=V.length:=by omega
  subst hi';rw[List.drop_of_length_le (by omega),axc]at k2408;rw[ag];refine⟨?hh0,?_,?_,?_,?_⟩;rotate_left
  ·simp only[gW,go_sem,g8,g9,g10,g11,g12,g13,g14,g15,g123,g124,g125,k63,k70,k2408,axU];rfl
  all_goals simp_all[azJ,if_false,ite_self]
 |succ k ih=>
  intro i hi s h g8 g9 g10 g11 g12 g13 g14 g15 g123 g124 g125 k63 k70 k2408;have hlt:i<V.length:=by omega
  have hd:us.drop i=us.getD i 0::us.drop (i+1):=by
   simp_all
  have hsl:=iU us V i;rw[hd,axM]at k2408;have e1:((i:Int)< (V.length:Int))=True:=tt;have e2:aW (aB V) (i:Int)=some (.ipt [U (V.getD i 0:Nat)]):=bt rfl (by omega);have e3:IntKind.i64.wrap ((i:Int)+1)=((i+1:Nat):Int):=wi;have e4:IntKind.i64.wrap ((J:Int)+(i:Int))=((J+i:Nat):Int):=wi;have e5:(0<=((J+i:Nat):Int))=True:=tt;have e6:(((J+i:Nat):Int)< (UL:Int))=True:=tt;have e9:=MA (bN hu i) (bN hV i) (DM hu hV i);have e7:(aB (P++(aEr us V i++(us.getD i 0::(us.drop (i+1)++Z)))))[J+i]?=some [U (us.getD i 0:Nat)]:=by
   simp_all[kj,Nat.add_sub_cancel_left,Nat.sub_self]
  have e8:(aB (P++(aEr us V i++(us.getD i 0::(us.drop (i+1)++Z))))).set (J+i) [U (((us.getD i 0+V.getD i 0+dY us V i) %4294967296:Nat):Int)]=aB (P++(aEr us V (i+1)++(us.drop (i+1)++Z))):=by
   rw[nX,List.set_append_right _ _ (by omega),List.set_append_right _ _ (by omega),hP,hsl,Nat.add_sub_cancel_left,Nat.sub_self];simp[aEr,List.range_succ,FH]
  have ih':=ih (i+1) (by omega);have hc:dY us V (i+1)=(us.getD i 0+V.getD i 0+dY us V i)/4294967296:=rfl;rw[ag];simp only[gW,go_sem,g8,g9,g10,g11,g12,g13,g14,g15,g123,g124,g125,k63,k70,k2408,e1,e2,e3,e4,e5,e6,e7,e8,e9,awY,awP];exact ih' _ _ rfl rfl rfl rfl rfl rfl rfl rfl rfl rfl rfl rfl rfl rfl
theorem alJ{U V:List Nat}{j k:Nat}(hU:Lb U)(hV:Lb V)(hvl:V.length=k+2)(h:ab (U.drop (j+1))<ab V):U.getD (j+(k+2)) 0<=V.getD (k+1) 0:=by
 have h1:ab V=ab (V.take (k+1))+4294967296^ (k+1)*V.getD (k+1) 0:=by
  rw[←eC,axg (by omega)]
 have h2:=cG (eY hV (k+1));rw[axd,axP (by omega)]at h2;have h3:4294967296^ (k+1)*U.getD (j+(k+2)) 0<=ab (U.drop (j+1)):=by
  by_cases hl:j+1+(k+1)<=U.length
  ·have h4:=E6 (U.drop (j+1)) (k+1) (by rw[ax2];omega);rw[List.drop_drop]at h4;have h5:=fu U (j+1+(k+1));rw[show j+1+(k+1)=j+(k+2)by omega]at h4 h5;rw[h4,h5,Nat.mul_add];omega
  grind
 refine Nat.le_of_not_lt fun hc=>?_;have h6:4294967296^ (k+1)*(V.getD (k+1) 0+1)<=4294967296^ (k+1)*U.getD (j+(k+2)) 0:=axW _ hc;rw[Nat.mul_add,Nat.mul_one]at h6;omega
theorem ad9{U:List Nat}{j n:Nat}(h:j+n<U.length):U=U.take j++((U.drop j).take n++U.getD (j+n) 0::U.drop (j+n+1)):=by
 grind[axh,List.drop_drop,List.take_append_drop]
theorem Y0{U:List Nat}{j n i:Nat}(hi:i<n):((U.drop j).take n).getD i 0=U.getD (j+i) 0:=by
 rw[List.getD_eq_getElem?_getD,List.getD_eq_getElem?_getD,List.getElem?_take,if_pos hi,List.getElem?_drop]
theorem aol{V us P Z Qr:List Nat}{sh n j g:Int}{UL QL J:Nat}(hV:Lb V)(hu:Lb us)(hl:us.length=V.length)(hn:V.length<=100000)(hP:P.length=J)(hj:j=J)(hJ:J<=100000)(hUL:J+V.length<=UL)(s:ak)(h:ac)(X:Option (Ex×St))(hX:aj 4 [8,9,10,11,12,13,14,15] (au (ai R (az false) gW) [8,9,10,11,12,13,14,15,123,124,125] [63,70,2408] s h)=X)
  (g8:s 8=I sh) (g9:s 9=.rsl 2408 none 1 0 UL) (g10:s 10=lm V) (g11:s 11=I n) (g12:s 12=.rsl 70 none 1 0 QL) (g13:s 13=I j) (g14:s 14=W g) (g15:s 15=U 0) (g123:s 123=lm V) (g124:s 124=I V.length) (g125:s 125=I 0) (k63:h 63=.dead) (k70:h 70=.ar 1 (aB Qr)) (k2408:h 2408=.ar 1 (aB (P++(us++Z)))):
  ∃hh,X=some (.normal,⟨upd (upd (upd (upd (upd (upd (upd (upd (fun _=>.any) 15 (U (dY us V V.length:Nat))) 14 (W g)) 13 (I j)) 12 (.rsl 70 none 1 0 QL)) 11 (I n)) 10 (lm V)) 9 (.rsl 2408 none 1 0 UL)) 8 (I sh),hh⟩)/\hh 70=.ar 1 (aB Qr)/\hh 2408=.ar 1 (aB (P++(aEr us V V.length++Z)))/\(∀a,a≠70->a≠2408->hh a=.dead):=by
 subst hX;exact agK hV hu hl hn hP hj hJ hUL V.length 0 (awP _) s h g8 g9 g10 g11 g12 g13 g14 g15 g123 g124 g125 k63 k70 k2408
theorem alK{q top:Nat}{us vs:List Nat}(hq:q<4294967296)(ht:top<4294967296)(hu:Lb us)(hv:Lb vs)(hl:us.length=vs.length)(hf:(ns q top us vs).2.2=true):1<=q:=by
 obtain⟨t1,t2,t3,t4⟩:=Qj hq ht hu hv hl;rw[if_pos hf]at t1;refine Nat.pos_of_ne_zero fun h0=>?_;rw[h0,Nat.zero_mul,axo]at t1;have h1:=cG t3;rw[h0]at t2 h1 t4;rw[t4]at h1;have h2:4294967296^vs.length*((ns 0 top us vs).2.1+1)<=4294967296^vs.length*4294967296:=axW _ (by omega);rw[Nat.mul_add,Nat.mul_one]at h2;omega
theorem aea{A r:List Nat}{j k t:Nat}(h:r.length=k+2):A.take j++(r++t::A.drop (j+(k+2)+1))=nO A j r t:=by
 grind[nO]
theorem agL{V:List Nat}{k:Nat}{sh:Int}{UL QL:Nat}(hV:Lb V)(hvl:V.length=k+2)(hn2:2147483648<=V.getD (k+1) 0)(hn:V.length<=100000)(hUL:UL<=100000):
  ∀ (m:Nat) (A Dn:List Nat),Lb A->A.length=UL->m+(k+2)<=UL->m+Dn.length=QL->ab (A.drop m)<ab V->∀ (s:ak) (h:ac),s 8=I sh->s 9=.rsl 2408 none 1 0 UL->s 10=lm V->s 11=I (k+2:Nat)->s 12=.rsl 70 none 1 0 QL->s 13=I ((m:Int)-1)->h 63=.dead->h 70=.ar 1 (aB (awO m 0++Dn))->h 2408=.ar 1 (aB A)->
  ∃hh,aj 2 [8,9,11,12] (au (ai R (az false) jQ) [8,9,10,11,12,13] [63,70,2408] s h)=some (.normal,⟨upd (upd (upd (upd (fun _=>.any) 12 (.rsl 70 none 1 0 QL)) 11 (I (k+2:Nat))) 9 (.rsl 2408 none 1 0 UL)) 8 (I sh),hh⟩)/\hh 70=.ar 1 (aB ((ym V m A).2++Dn))/\hh 2408=.ar 1 (aB (ym V m A).1)/\(∀a,a≠70->a≠2408->hh a=.dead):=by
 intro m;induction m with
 |zero=>
  intro A Dn hA hl hm hq hlt s h g8 g9 g10 g11 g12 g13 k63 k70 k2408;have e1:(0<=(((0:Nat):Int)-1))=False:=ff;rw[ag];refine⟨?hh0,?_,?_,?_,?_⟩;rotate_left
  ·simp only[jQ,go_sem,g8,g9,g10,g11,g12,g13,k63,k70,k2408,e1];rfl
  ·rfl
  ·rfl
  simp_all[azJ,if_false,ite_self]
 |succ j ih=>
  intro A Dn hA hl hm hq hlt s h g8 g9 g10 g11 g12 g13 k63 k70 k2408;have e0:(((j+1:Nat):Int)-1)=(j:Int):=by omega
  rw[e0]at g13;have e1:(0<=(j:Int))=True:=tt;have w1:IntKind.i64.wrap ((j:Int)+((k+2:Nat):Int))=((j+(k+2):Nat):Int):=wi (by simp) (by omega);have w2:IntKind.i64.wrap (((j+(k+2):Nat):Int)-1)=((j+(k+1):Nat):Int):=wi;have w3:IntKind.i64.wrap (((j+(k+2):Nat):Int)-2)=((j+k:Nat):Int):=wi;have w4:IntKind.i64.wrap (((k+2:Nat):Int)-1)=((k+1:Nat):Int):=wi;have w5:IntKind.i64.wrap (((k+2:Nat):Int)-2)=((k:Nat):Int):=wi;have w6:IntKind.i64.wrap (((j+(k+2):Nat):Int)+1)=((j+(k+2)+1:Nat):Int):=wi;have w7:IntKind.i64.wrap ((j:Int)-1)=(j:Int)-1:=i64_in _ ⟨by omega,by omega⟩;have r1:aW (aB V) ((k+1:Nat):Int)=some (.ipt [U (V.getD (k+1) 0:Nat)]):=bt rfl (by omega);have r2:aW (aB V) ((k:Nat):Int)=some (.ipt [U (V.getD k 0:Nat)]):=bt rfl (by omega);have b1:(0<=((j+(k+2):Nat):Int))=True:=tt;have b2:(0<=((j+(k+1):Nat):Int))=True:=tt;have b3:(0<=((j+k:Nat):Int))=True:=tt;have b4:(((j+(k+2):Nat):Int)< (UL:Int))=True:=tt;have b5:(((j+(k+1):Nat):Int)< (UL:Int))=True:=tt;have b6:(((j+k:Nat):Int)< (UL:Int))=True:=tt;have l1:(aB A)[j+(k+2)]?=some [U (A.getD (j+(k+2)) 0:Nat)]:=kj (by omega);have l2:(aB A)[j+(k+1)]?=some [U (A.getD (j+(k+1)) 0:Nat)]:=kj (by omega);have l3:(aB A)[j+k]?=some [U (A.getD (j+k) 0:Nat)]:=kj (by omega);have htop:=alJ hA hV hvl hlt;have hg:=agG (top:=A.getD (j+(k+2)) 0) (next:=A.getD (j+(k+1)) 0) (third:=A.getD (j+k) 0) (v:=V.getD (k+1) 0) (w:=V.getD k 0) hn2 (bN hV _) htop (bN hA _) (bN hA _) (bN hV _);have hT:zX (A.getD (j+(k+2)) 0) ((A.drop j).take (k+2))=(A.getD (j+(k+2)) 0*4294967296+A.getD (j+(k+1)) 0)*4294967296+A.getD (j+k) 0:=by
   unfold zX;have h1:((A.drop j).take (k+2)).length=k+2:=by grind
   rw[h1,show k+2-1=k+1 by omega,show k+2-2=k by omega,Y0 (by omega),Y0 (by omega)]
  have hW:yk V=V.getD (k+1) 0*4294967296+V.getD k 0:=by
   grind[yk]
  rw[←hT,←hW]at hg;have hgb:v9 (zX (A.getD (j+(k+2)) 0) ((A.drop j).take (k+2))) (yk V)<4294967296:=by
   grind[v9,zX,yk,Nat.min_le_left]
  obtain⟨G,hG⟩:∃G,v9 (zX (A.getD (j+(k+2)) 0) ((A.drop j).take (k+2))) (yk V)=G:=⟨_,rfl⟩;rw[hG]at hg hgb;have hsp:=ad9 (U:=A) (j:=j) (n:=k+2) (by omega);have hwl:((A.drop j).take (k+2)).length=V.length:=by grind
  have hpl:(A.take j).length=j:=by grind
  have htk:=fun(h:ac) (d:Nat) (hh:h 2408=.ar 1 (aB A)) (hd:h (2000+8*d)=.dead)=>ad8 (V:=V) (us:=(A.drop j).take (k+2)) (P:=A.take j) (Q:=A.drop (j+(k+2)+1)) (q:=G) (lo:=j) (top:=A.getD (j+(k+2)) 0) hV hgb hn (by omega) hwl hpl (eY (mG hA j) _) (bN hA _) (h:=h) (d:=d) (id:=2408) (by grind) hd;rw[hvl]at htk;have sl:dZ 1 (.rsl 2408 none 1 0 UL) (some (I (j:Int))) (some (I ((j+(k+2)+1:Nat):Int))) none=some (.rsl 2408 none 1 j (k+2+1)):=by
   have h1:jL UL UL (some (I ((j+(k+2)+1:Nat):Int)))=some (j+(k+2)+1):=uB rfl (by omega);have h2:jL 0 (j+(k+2)+1) (some (I (j:Int)))=some j:=uB rfl (by omega);have h3:j+(k+2)+1-j=k+2+1:=by omega
   simp only[dZ,jT,h1,h2,awV,axH,awP,h3,if_true,Option.isNone_none]
  rw[ag];generalize au _ _ _=L at ih⊢;simp only[jQ,go_sem,g8,g9,g10,g11,g12,g13,k63,k70,k2408,e1,w1,w2,w3,w4,w5,w6,r1,r2,b1,b2,b3,b4,b5,b6,l1,l2,l3,hg,sl,awY,awP];rw[htk _ _ rfl rfl];have hpos:=alK (q:=G) (top:=A.getD (j+(k+2)) 0) (us:=(A.drop j).take (k+2)) (vs:=V) hgb (bN hA _) (eY (mG hA j) _) hV hwl;obtain⟨q1,q2,q3,q4⟩:=Qj (q:=G) (top:=A.getD (j+(k+2)) 0) (us:=(A.drop j).take (k+2)) (vs:=V) hgb (bN hA _) (eY (mG hA j) _) hV hwl;have hVb:ab V<4294967296^ (k+2):=by grind[cG]
  obtain⟨x1,x2,x3⟩:=YY (n:=k+2) hA (by omega) hVb hlt;have hs:=ad4 (top:=A.getD (j+(k+2)) 0) (bN hA _) (eY (mG hA j) (k+2)) hV (by rw[hwl,hvl]) hvl hn2 (by omega);have hdv:ym V (j+1) A=((ym V j (nO A j (wV (A.getD (j+(k+2)) 0) ((A.drop j).take (k+2)) V).1 (wV (A.getD (j+(k+2)) 0) ((A.drop j).take (k+2)) V).2.1)).1,(ym V j (nO A j (wV (A.getD (j+(k+2)) 0) ((A.drop j).take (k+2)) V).1 (wV (A.getD (j+(k+2)) 0) ((A.drop j).take (k+2)) V).2.1)).2++[(wV (A.getD (j+(k+2)) 0) ((A.drop j).take (k+2)) V).2.2]):=by
   rw[←hvl];rfl
  rw[x1]at hs;rw[hdv];have hds:wV (A.getD (j+(k+2)) 0) ((A.drop j).take (k+2)) V=if(ns G (A.getD (j+(k+2)) 0) ((A.drop j).take (k+2)) V).2.2=true then(aEr (ns G (A.getD (j+(k+2)) 0) ((A.drop j).take (k+2)) V).1 V V.length,((ns G (A.getD (j+(k+2)) 0) ((A.drop j).take (k+2)) V).2.1+dY (ns G (A.getD (j+(k+2)) 0) ((A.drop j).take (k+2)) V).1 V V.length) %4294967296,G-1)else((ns G (A.getD (j+(k+2)) 0) ((A.drop j).take (k+2)) V).1,(ns G (A.getD (j+(k+2)) 0) ((A.drop j).take (k+2)) V).2.1,G):=by
   unfold wV;rw[hG]
  generalize ns G (A.getD (j+(k+2)) 0) ((A.drop j).take (k+2)) V=r at*
  obtain⟨ra,rt,rf⟩:=r;generalize wV (A.getD (j+(k+2)) 0) ((A.drop j).take (k+2)) V=sd at*
  have wg:IntKind.u32.wrap (G:Int)=G:=BB rfl hgb;have o1:(aB (awO (j+1) 0++Dn))[j]?=some [U (0:Nat)]:=by
   rw[kj (by simp;omega),List.getD_eq_getElem?_getD,List.getElem?_append_left (by simp),List.getElem?_replicate,if_pos (by omega)];rfl
  have o2:∀z:Nat,(aB (awO (j+1) 0++Dn)).set j [U (z:Int)]=aB (awO j 0++z::Dn):=fun z=>by
   rw[nX];congr 1;rw[List.replicate_succ',axL,List.set_append_right _ _ (by simp)];simp
  have o3:((j:Int)< (QL:Int))=True:=tt;cases rf with
  |false=>
   simp only[axV,if_false]at hds;subst hds;simp only at hs⊢;obtain⟨d1,d2,d3,d4,d5⟩:=hs;rw[aea d4];have ih':=ih (nO A j ra rt) (G::Dn) (Qk hA d3 d5) (by rw[D5 (by omega)];exact hl) (by omega) (by simp;omega) (by
    rw[JF (by omega),dV,d4,w2' x2,d1];exact axq _ (by omega))
   simp only[go_sem,w7,wg,o1,o2,o3,e1,awY,awP];rw[axL];exact ih' _ _ rfl rfl rfl rfl rfl rfl rfl rfl rfl
  |true=>
   simp only[if_true]at hds;subst hds;simp only at hs q2 q3 q4⊢;obtain⟨d1,d2,d3,d4,d5⟩:=hs;have hG1:1<=G:=hpos rfl;have wq:IntKind.u64.wrap ((G:Int)-1)=((G-1:Nat):Int):=dE (by omega) (by omega);have wg1:IntKind.u32.wrap ((G-1:Nat):Int)=((G-1:Nat):Int):=BB rfl (by omega);have hx:=aol (V:=V) (us:=ra) (P:=A.take j) (Z:=rt::A.drop (j+(k+2)+1)) (Qr:=awO (j+1) 0++Dn) (sh:=sh) (n:=(k+2:Nat)) (j:=(j:Int)) (g:=((G-1:Nat):Int)) (UL:=UL) (QL:=QL) (J:=j) hV q3 q4 hn hpl rfl (by omega) (by omega);simp only[go_sem,wq];generalize hX:aj 4 _ _=X;obtain⟨hh,rfl,y70,y2408,yd⟩:=hx _ _ _ hX rfl rfl rfl rfl rfl rfl rfl rfl rfl rfl rfl rfl rfl rfl;have y63:hh 63=.dead:=yd _ (by decide) (by decide);have hsl:(aEr ra V V.length).length=k+2:=by rw[iU,hvl]
   have wc:IntKind.u32.wrap ((rt:Int)+(dY ra V V.length:Int))=(((rt+dY ra V V.length) %4294967296:Nat):Int):=Hj (by simp);have z1:(aB (A.take j++(aEr ra V V.length++rt::A.drop (j+(k+2)+1))))[j+(k+2)]?=some [U (rt:Nat)]:=by
    rw[kj (by simp[hpl,hsl]),List.getD_eq_getElem?_getD,List.getElem?_append_right (by omega),List.getElem?_append_right (by omega),hpl,hsl,Nat.add_sub_cancel_left,Nat.sub_self];rfl
   have z2:(aB (A.take j++(aEr ra V V.length++rt::A.drop (j+(k+2)+1)))).set (j+(k+2)) [U (((rt+dY ra V V.length) %4294967296:Nat):Int)]=aB (nO A j (aEr ra V V.length) ((rt+dY ra V V.length) %4294967296)):=by
    rw[nX,List.set_append_right _ _ (by omega),List.set_append_right _ _ (by omega),hpl,hsl,Nat.add_sub_cancel_left,Nat.sub_self,←aea hsl];rfl
   have ih':=ih (nO A j (aEr ra V V.length) ((rt+dY ra V V.length) %4294967296)) ((G-1)::Dn) (Qk hA d3 d5) (by rw[D5 (by omega)];exact hl) (by omega) (by simp;omega) (by
    rw[JF (by omega),dV,hsl,w2' x2,d1];exact axq _ (by omega))
   generalize nO A j (aEr ra V V.length) ((rt+dY ra V V.length) %4294967296)=A2 at*
   generalize(rt+dY ra V V.length) %4294967296=rc at*
   simp only[go_sem,w1,w7,wg1,wc,z1,z2,o1,o2,o3,e1,b1,b4,y63,y70,y2408,awY,awP];rw[axL];exact ih' _ _ rfl rfl rfl rfl rfl rfl y63 rfl rfl
theorem ajh{x:Nat}(hx:x<4294967296):R F.bits_LeadingZeros32 [U x] []=some (I ((32-af x:Nat):Int),[]):=by
 refine ax Gg rfl ?_;have hb:af x<=32:=bK.2 hx;have hl:=Vh hx;have w1:IntKind.i64.wrap (32- (af x:Int))=((32-af x:Nat):Int):=wi;simp only[py,xZ,go_sem,hl,w1]
theorem aom{V A:List Nat}{k:Nat}{sh:Int}{UL m:Nat}(hV:Lb V)(hvl:V.length=k+2)(hn2:2147483648<=V.getD (k+1) 0)(hn:V.length<=100000)(hUL:UL<=100000)(hA:Lb A)(hl:A.length=UL)(hm:m+(k+2)<=UL)(hlt:ab (A.drop m)<ab V)(s:ak)(h:ac)(X:Option (Ex×St))(hX:aj 2 [8,9,11,12] (au (ai R (az false) jQ) [8,9,10,11,12,13] [63,70,2408] s h)=X)
  (g8:s 8=I sh) (g9:s 9=.rsl 2408 none 1 0 UL) (g10:s 10=lm V) (g11:s 11=I (k+2:Nat)) (g12:s 12=.rsl 70 none 1 0 m) (g13:s 13=I ((m:Int)-1)) (k63:h 63=.dead) (k70:h 70=.ar 1 (aB (awO m 0))) (k2408:h 2408=.ar 1 (aB A)):
  ∃hh,X=some (.normal,⟨upd (upd (upd (upd (fun _=>.any) 12 (.rsl 70 none 1 0 m)) 11 (I (k+2:Nat))) 9 (.rsl 2408 none 1 0 UL)) 8 (I sh),hh⟩)/\hh 70=.ar 1 (aB (ym V m A).2)/\hh 2408=.ar 1 (aB (ym V m A).1)/\(∀a,a≠70->a≠2408->hh a=.dead):=by
 subst hX;have:=agL (sh:=sh) (QL:=m) hV hvl hn2 hn hUL m A [] hA hl hm (by simp) hlt s h g8 g9 g10 g11 g12 g13 k63 (by rw[axe];exact k70) k2408;rw[axe]at this;exact this
theorem agM{b:List Nat}{k:Nat}(hb:Lb b)(hl:b.length=k+2)(ht:b.getD (k+1) 0≠0):2147483648*4294967296^ (k+1)<=ab b*2^ (32-af (b.getD (k+1) 0))/\ab b*2^ (32-af (b.getD (k+1) 0))<4294967296^ (k+2):=by
 have h1:ab b=ab (b.take (k+1))+4294967296^ (k+1)*b.getD (k+1) 0:=by
  rw[←eC,axg (by omega)]
 have h2:=cG (eY hb (k+1));rw[axd,axP (by omega)]at h2;have h3:=bN hb (k+1);generalize b.getD (k+1) 0=x at*
 have h4:af x<=32:=bK.2 h3;have h5:0<af x:=eL ht;have h6:=dq (n:=x) (32-af x) ht;have h7:2147483648<=x*2^ (32-af x):=by
  refine Nat.le_of_not_lt fun hc=>?_;have:=bK.2 (show x*2^ (32-af x)<2^31 from hc);omega
 have h8:(x+1)*2^ (32-af x)<=4294967296:=by
  have h9:x<2^af x:=bK.1 (awQ _);have h10:(x+1)*2^ (32-af x)<=2^af x*2^ (32-af x):=awZ _ h9;rw[←axa,show af x+(32-af x)=32 by omega]at h10;exact h10
 rw[h1];have e:4294967296^ (k+2)=4294967296^ (k+1)*4294967296:=axO ..;rw[e];generalize 4294967296^ (k+1)=B at*
 generalize 2^ (32-af x)=S at*
 have h11:B*2147483648<=B*(x*S):=axW _ h7;have h12:B*((x+1)*S)<=B*4294967296:=axW _ h8;have h13:(ab (b.take (k+1))+B*x)*S=ab (b.take (k+1))*S+B*(x*S):=by rw[axk,axn]
 rw[h13];constructor
 ·omega
 ·have hS:0<S:=by
   rcases Nat.eq_zero_or_pos S with h0|h0
   ·rw[h0]at h7;omega
   ·exact h0
  have h14:ab (b.take (k+1))*S<B*S:=Nat.mul_lt_mul_of_pos_right h2 hS;rw[axk,Nat.one_mul,Nat.mul_add]at h12;omega
theorem XI{a b:List Nat}(ha:Lb a)(hb:Lb b)(h1:a.length<=50000)(h2:b.length<=50000)(hl:(av (ab b)).length=1)(hge:ab b<=ab a):R F.natural_divide [lm a,lm b] []=some (.tup [lm (fl (ab b) (av (ab a))).1,lm [ab a%ab b]],[]):=by
 refine ax DJ rfl ?_;have t1:=dv ha (by omega);have t2:=dv hb (by omega);have la:=dp a ha;have hc:=zE (aZ (ab a)) (aZ (ab b)) (by omega) (by omega);rw[aN,aN]at hc;have e1:(bY (ab a) (ab b)<0)=False:=by
  unfold bY;grind
 obtain⟨y,hy⟩:=List.length_eq_one_iff.1 hl;have hv:ab b=y:=by
  grind[aN,ab]
 have hyb:y<4294967296:=by
  have:=aZ (ab b);rw[hy]at this;exact this y (by simp)
 have hy0:0<y:=by
  grind[fj]
 have hs:=agJ (aZ (ab a)) hy0 hyb (by omega);obtain⟨s1,s2,s3⟩:=CV hy0 (aZ (ab a));rw[aN]at s1;have s4:(fl y (av (ab a))).2=ab a%y:=by
  grind[axf,Nat.mul_add_mod,axK]
 rw[hv]at hge⊢;rw[s4]at hs;rw[hy]at t2 hc;have e2:aW (aB [y]) 0=some (.ipt [U (y:Nat)]):=bt (n:=0) rfl (by simp);have e3:(([y]:List Nat).length:Int)=1:=rfl;have e4:((1:Nat):Int)=1:=rfl;simp only[pO,xF,go_sem,t1,t2,hc,e1,e2,e3,e4,hs,decide_true];rfl
theorem XJ{a b:List Nat}{k:Nat}(ha:Lb a)(hb:Lb b)(h1:a.length<=50000)(h2:b.length<=50000)(hl:(av (ab b)).length=k+2)(hge:ab b<=ab a):∃Q Rr,R F.natural_divide [lm a,lm b] []=some (.tup [lm Q,lm Rr],[])/\Lb Q/\Lb Rr/\ab Q=ab a/ab b/\ab Rr=ab a%ab b/\Q.length<=100000/\Rr.length<=100000:=by
 have t1:=dv ha (by omega);have t2:=dv hb (by omega);have la:=dp a ha;have lb:=dp b hb;have hc:=zE (aZ (ab a)) (aZ (ab b)) (by omega) (by omega);rw[aN,aN]at hc;have e1:(bY (ab a) (ab b)<0)=False:=by
  unfold bY;grind
 have hvd:=aN (ab b);have hLd:=aZ (ab b);have hb0:ab b≠0:=fun h=>by
  rw[nU.2 h]at hl;grind
 have ht:(av (ab b)).getD (k+1) 0≠0:=by
  intro h0;have q1:ab (av (ab b))=ab ((av (ab b)).take (k+1))+4294967296^ (k+1)*(av (ab b)).getD (k+1) 0:=by
   rw[←eC,axg (by omega)]
  have q2:=cG (eY hLd (k+1));have q3:=Rh hb0;rw[axd,axP (by omega)]at q2;rw[hl,show k+2-1=k+1 from rfl]at q3;rw[h0,Nat.mul_zero,hvd]at q1;omega
 obtain⟨n1,n2⟩:=agM hLd hl ht;rw[hvd]at n1 n2;have hy:=bN hLd (k+1);have hyl:aW (aB (av (ab b))) ((k+1:Nat):Int)=some (.ipt [U ((av (ab b)).getD (k+1) 0:Nat)]):=bt (n:=k+1) rfl (by omega);generalize(av (ab b)).getD (k+1) 0=y at*
 have hlz:=ajh hy;have hbl:af y<=32:=bK.2 hy;have hbp:0<af y:=eL ht;generalize hs:32-af y=s at*
 have hs32:s<32:=by omega
 have s1:=Oi (aZ (ab a)) (n:=s) (by omega) (by omega);have s2:=Oi hLd (n:=s) (by omega) (by omega);rw[aN,show s/32=0 by omega,awP]at s1 s2;have hsp:(2:Nat)^s<=2147483648:=axC (n:=2) (i:=s) (j:=31) (by decide) (by omega);have hAl:=gh (ab a);have hBl:=gh (ab b);have hle:k+2<=(av (ab a)).length:=by
  rw[←hl];refine Nat.le_of_not_lt fun hc=>?_;have:=rJ hc;omega
 have hA2:ab a*2^s<4294967296^ ((av (ab a)).length+1):=by
  rw[axO];exact Nat.mul_lt_mul_of_lt_of_le hAl (by omega) (by decide)
 have hB2:ab b*2^s<4294967296^ ((av (ab b)).length+1):=by
  rw[axO];exact Nat.mul_lt_mul_of_lt_of_le hBl (by omega) (by decide)
 have t3:=dv (m:=dy ((av (ab b)).length+1) (ab b*2^s)) (nV _ _) (by rw[cR];omega);rw[lA,axK hB2]at t3;have hVv:=aN (ab b*2^s);have hVb:=aZ (ab b*2^s);have hVl:(av (ab b*2^s)).length=k+2:=by
  have q1:=jF n2;have q2:=gh (ab b*2^s);refine Nat.le_antisymm q1 (Nat.le_of_not_lt fun hc=>?_);have q3:4294967296^ (av (ab b*2^s)).length<=4294967296^ (k+1):=axC (by decide) (by omega);omega
 have hVt:2147483648<=(av (ab b*2^s)).getD (k+1) 0:=by
  have q1:ab (av (ab b*2^s))=ab ((av (ab b*2^s)).take (k+1))+4294967296^ (k+1)*(av (ab b*2^s)).getD (k+1) 0:=by
   rw[←eC,axg (by omega)]
  have q2:=cG (eY hVb (k+1));rw[axd,axP (by omega)]at q2;refine Nat.le_of_not_lt fun hc=>?_;have q3:4294967296^ (k+1)*((av (ab b*2^s)).getD (k+1) 0+1)<=4294967296^ (k+1)*2147483648:=axW _ hc;rw[Nat.mul_add,Nat.mul_one]at q3;omega
 generalize av (ab b*2^s)=V at*
 obtain⟨m,hm⟩:∃m,(av (ab a)).length=m+(k+1):=⟨_,(Nat.sub_add_cancel (by omega)).symm⟩;have hUv:ab (dy ((av (ab a)).length+1) (ab a*2^s))=ab a*2^s:=by rw[lA,axK hA2]
 have hUb:=nV ((av (ab a)).length+1) (ab a*2^s);have hUl:=cR ((av (ab a)).length+1) (ab a*2^s);have hlt:ab ((dy ((av (ab a)).length+1) (ab a*2^s)).drop m)<ab V:=by
  rw[xK hUb,hUv,hVv];refine axX (Nat.div_lt_of_lt_mul ?_) n1;rw[axf 2147483648,←axn,←axa,←hm];exact Nat.mul_lt_mul_of_lt_of_le hAl hsp (by decide)
 generalize dy ((av (ab a)).length+1) (ab a*2^s)=A at*
 obtain⟨d1,d2,d3,d4,d5,d6⟩:=ad6 hVb hVl hVt m A hUb (by omega) hlt;have hdx:=aom (sh:=(s:Int)) hVb hVl hVt (by omega) (UL:=A.length) (by omega) hUb rfl (m:=m) (by omega) hlt;generalize(ym V m A).1=rr at*
 generalize(ym V m A).2=qq at*
 have hrt:ab (rr.take (k+2))=ab rr:=by
  have q1:=dV (rr.take (k+2)) (rr.drop (k+2));rw[List.take_append_drop]at q1;have q2:=xK d5 (k+2);rw[Nat.div_eq_of_lt (Nat.lt_trans d2 (by rw[hVv];exact n2))]at q2;rw[q2]at q1;omega
 have s3:=ac8 (eY d5 (k+2)) (n:=s) (by rw[axd];omega) (by omega);rw[hrt,show s/32=0 by omega,Nat.sub_zero]at s3;have hrr:ab rr/2^s=ab a%ab b/\ab qq=ab a/ab b:=by
  rw[hUv,hVv]at d1;rw[hVv]at d2;have q0:0<2^s:=axb s;have q1:ab rr%2^s=0:=by
   have:ab a*2^s%2^s=0:=Nat.mul_mod_left ..;rw[d1,axn,axf (ab b),axn,Nat.add_mul_mod_self_left]at this;exact this
  obtain⟨r,hr⟩:=Nat.dvd_of_mod_eq_zero q1;rw[hr,Nat.mul_div_cancel_left _ q0];rw[hr]at d1 d2;have q2:ab a=r+ab b*ab qq:=by
   refine Nat.eq_of_mul_eq_mul_right q0 ?_;rw[d1];grind
  have q3:r<ab b:=by
   refine Nat.lt_of_mul_lt_mul_right (a:=2^s) ?_;rw[axf r];exact d2
  rw[q2,Nat.add_mul_mod_self_left,axK q3,Nat.add_mul_div_left _ _ (by omega),Nat.div_eq_of_lt q3,awP];exact⟨rfl,rfl⟩
 refine⟨qq,dy (av (ab rr)).length (ab rr/2^s),?_,d6,nV _ _,hrr.2,?_,by omega,?_⟩;rotate_left
 ·rw[lA,axK (axF (Nat.div_le_self _ _) (gh _))];exact hrr.1
 ·rw[cR];have:=dp rr d5;omega
 refine ax DJ rfl ?_;generalize dy ((av (ab b)).length+1) (ab b*2^s)=B2 at s2 t3;have tk:List.take B2.length (aB B2)=aB B2:=axg (by simp[aB]);have e2:(((av (ab b)).length:Int)=1)=False:=ff;have w1:IntKind.i64.wrap (((av (ab b)).length:Int)-1)=((k+1:Nat):Int):=wi;have e3:((A.length:Int)<=(av (ab a)).length)=False:=ff;have w2:IntKind.i64.wrap ((A.length:Int)-V.length)=((m:Nat):Int):=wi;have w3:IntKind.i64.wrap ((m:Int)-1)=(m:Int)-1:=i64_in _ ⟨by omega,by omega⟩;have z1:qX (.v (.int .i64 (m:Int))) (.v (.int .i64 (m:Int)))=some (m,m):=by
  simp only[qX];rw[if_pos ⟨by omega,by omega,by omega⟩];rfl
 have z2:(m*4<=140737488355328)=True:=tt;simp only[pO,xF,go_sem,t1,t2,hc,e1,e2,awP,awQ,e3,w1,hyl,hlz,s1,s2,tk,t3];rw[ag];simp only[zU,go_sem,e3,w2,w3,z1,z2];generalize hX:aj 2 _ _=X;obtain⟨hh,rfl,q70,q2408,qd⟩:=hdx _ _ _ hX rfl rfl rfl (by rw[hVl];rfl) rfl rfl rfl (by simp[aB];rfl) rfl;have e4:∀n:Nat,n<=A.length->dZ 1 (.rsl 2408 none 1 0 A.length) none (some (I (n:Int))) none=some (.rsl 2408 none 1 0 n):=fun n hn=>by simp[dZ,jT,jL,hn]
 have e4:=e4 (k+2) (by omega);have e5:(0+(k+2)<=rr.length)=True:=tt;have e6:List.take (k+2) (aB rr)=aB (rr.take (k+2)):=(List.map_take ..).symm;simp only[go_sem,q70,q2408,qd 3336 (by decide) (by decide),e4,e5,e6,s3];rw[d3,if_pos (by omega),if_pos rfl];simp only[go_sem]
theorem aeb{a b:List Nat}(ha:Lb a)(hb:Lb b)(h1:a.length<=50000)(h2:b.length<=50000)(h0:ab b≠0)(hge:ab b<=ab a):∃Q Rr,R F.natural_divide [lm a,lm b] []=some (.tup [lm Q,lm Rr],[])/\Lb Q/\Lb Rr/\ab Q=ab a/ab b/\ab Rr=ab a%ab b/\Q.length<=100000/\Rr.length<=100000:=by
 have la:=dp a ha;have lb:=dp b hb;have hn:(av (ab b)).length≠0:=fun h=>h0 (nU.1 (List.length_eq_zero_iff.1 h));by_cases hl:(av (ab b)).length=1
 ·have:=XI ha hb h1 h2 hl hge;have hb1:=gh (ab b);rw[hl,Nat.pow_one]at hb1;obtain⟨s1,s2,s3⟩:=CV (Nat.pos_of_ne_zero h0) (aZ (ab a));rw[aN]at s1;have s4:=YZ (Nat.pos_of_ne_zero h0) hb1 (aZ (ab a));refine⟨_,_,this,s4,fun x hx=>?_,?_,?_,by omega,by simp⟩
  ·have:x=ab a%ab b:=by simpa using hx
   have:=axq (ab a) (Nat.pos_of_ne_zero h0);omega
  ·generalize(fl (ab b) (av (ab a))).2=r at*
   generalize(fl (ab b) (av (ab a))).1=q at*
   rw[s1,axf,Nat.mul_add_div (Nat.pos_of_ne_zero h0),Nat.div_eq_of_lt s2,axo]
  ·simp[ab]
 ·obtain⟨k,hk⟩:∃k,(av (ab b)).length=k+2:=⟨(av (ab b)).length-2,by omega⟩;exact XJ ha hb h1 h2 hk hge
theorem aec{a b:List Nat}(ha:Lb a)(hb:Lb b)(h1:a.length<=256)(h2:b.length<=256)(h0:ab b≠0)(hge:ab b<=ab a):R F.natural_DivMod [lm a,lm b] []=some (.tup [lm (av (ab a/ab b)),lm (av (ab a%ab b)),I 0],[]):=by
 refine ax Mw rfl ?_;have e1:(256<a.length)=False:=ff;have e2:(256<b.length)=False:=ff;obtain⟨Q,Rr,hd,q1,q2,q3,q4,q5,q6⟩:=aeb ha hb (by omega) (by omega) h0 hge;have t1:=dv q1 (by omega);have t2:=dv q2 (by omega);rw[q3]at t1;rw[q4]at t2;have e3:(((av (ab b)).length:Int)=0)=False:=eq_false fun h=>h0 (nU.1 (List.length_eq_zero_iff.1 (by omega)));simp only[ws,Dv,go_sem,e1,e2,e3,uC,dv hb (by omega),hd,t1,t2,PT]
def wD(a b:Rd)(p:Int):Nat:=(p+3+af (ab b.m)-af (ab a.m)).toNat
def rP(a b:Rd)(p:Int)(up:Bool):Rd×Int:=if aY p [a,b]=0 then(if b.m.length=0 then(aI,10)else if a.m.length=0 then(aI,0)else
 gL (a.neg !=b.neg) (cB (ab a.m*2^wD a b p/ab b.m) (a.e-wD a b p-b.e) (decide (ab a.m*2^wD a b p%ab b.m≠0)) p (up != (a.neg !=b.neg))))else(aI,aY p [a,b])
theorem Y3{a b:Rd}(oa:Ok0 a)(ob:Ok0 b){p:Int}{up:Bool}:R F.round_div [ae a,ae b,I p,B up] []=some (rV (rP a b p up),[]):=by
 refine ax Xx rfl ?_;have hf:R F.round_fault [I p,.sl 3 [[B a.neg,lm a.m,I a.e],[B b.neg,lm b.m,I b.e]]] []=some (I (aY p [a,b]),[]):=AH (p:=p) (l:=[a,b]) (fun x hx=>by
  grind) (show 2<=100000 by decide)
 unfold rP;by_cases h0:aY p [a,b]=0
 ·obtain⟨v1,v2,v3⟩:=uF h0;have v4:vd a=true/\vd b=true:=by grind
  obtain⟨va,vb⟩:=v4;obtain⟨a1,a2,a3,a4⟩:=dM va oa.lb;obtain⟨b1,b2,b3,b4⟩:=dM vb ob.lb;rw[if_pos h0];rw[h0]at hf;by_cases b0:b.m.length=0
  ·have e1:((b.m.length:Int)=0)=True:=tt;rw[if_pos b0];simp only[qk,wO,rV,ae,ah,aI,go_sem,hf,e1]
  have e1:((b.m.length:Int)=0)=False:=ff;rw[if_neg b0];by_cases a0:a.m.length=0
  ·have e2:((a.m.length:Int)=0)=True:=tt;rw[if_pos a0];simp only[qk,wO,rV,ae,ah,aI,go_sem,hf,e1,e2]
  have e2:((a.m.length:Int)=0)=False:=ff;rw[if_neg a0];have hA:=dh va a0;have hB:=dh vb b0;obtain⟨n,rfl⟩:=ax5 (show 0<=p by omega);have d1:=MG oa;have d2:=MG ob;rw[if_pos va]at d1;rw[if_pos vb]at d2;have hk:wD a b (n:Nat)=((n:Int)+3+af (ab b.m)-af (ab a.m)).toNat:=rfl;generalize wD a b (n:Nat)=k at*
  have hm2:=dq k hA;have hl2:(av (ab a.m*2^k)).length<=256:=aT (by omega);have hs:=AG oa.lb a1 (k:=k) (by omega) hl2;have hge:ab b.m<=ab (av (ab a.m*2^k)):=by
   rw[aN];refine Nat.le_of_not_lt fun hc=>?_;have:=yb (Nat.le_of_lt hc) (awQ _);omega
  have hd:=aec (aZ (ab a.m*2^k)) ob.lb hl2 b1 hB hge;rw[aN]at hd;have hqb:af (ab a.m*2^k/ab b.m)<=8192:=yb (Nat.div_le_self _ _) (by omega);have hrb:af (ab a.m*2^k%ab b.m)<=8192:=yb (Nat.mod_le _ _) (by omega);have hbt:=Gk (aZ (ab a.m*2^k%ab b.m)) (awX (aT (k:=256) (by omega)) (by decide));rw[aN]at hbt;have hsg:=EU (M:=av (ab a.m*2^k/ab b.m)) (e:=a.e-k-b.e) (n:=n) (more:=decide (ab a.m*2^k%ab b.m≠0)) (up:=up) (neg:=a.neg !=b.neg) (aZ _) (aT (by omega)) ⟨by omega,by omega⟩ ⟨by omega,by omega⟩;rw[aN]at hsg;have hmr:decide (ab a.m*2^k%ab b.m≠0)=decide ((0:Int)< (af (ab a.m*2^k%ab b.m):Nat)):=by
   grind[pe,decide_eq_true,eL]
  rw[hmr]at hsg⊢;have w1:IntKind.i64.wrap ((n:Int)+3)=(n:Int)+3:=i64_in _ ⟨by omega,by omega⟩;have w2:IntKind.i64.wrap ((n:Int)+3+(af (ab b.m):Nat))=(n:Int)+3+(af (ab b.m):Nat):=i64_in _ ⟨by omega,by omega⟩;have w3:IntKind.i64.wrap ((n:Int)+3+(af (ab b.m):Nat)- (af (ab a.m):Nat))=(n:Int)+3+(af (ab b.m):Nat)- (af (ab a.m):Nat):=i64_in _ ⟨by omega,by omega⟩;have w4:IntKind.i64.wrap (a.e- (k:Int))=a.e-k:=i64_in _ ⟨by omega,by omega⟩;have w5:IntKind.i64.wrap (a.e- (k:Int)-b.e)=a.e-k-b.e:=i64_in _ ⟨by omega,by omega⟩;have em:(if(0:Int)< (n:Int)+3+(af (ab b.m):Nat)- (af (ab a.m):Nat)then(n:Int)+3+(af (ab b.m):Nat)- (af (ab a.m):Nat)else 0)=(k:Int):=by omega
  simp only[rV,ae,ah,wU]at hsg d1 d2;simp only[qk,wO,rV,ae,ah,go_sem,hf,e1,e2,d1,d2,w1,w2,w3,w4,w5,em,hs,hd,hbt,zF,hsg]
 ·have e1:(aY p [a,b]=0)=False:=ff h0;rw[if_neg h0];simp only[qk,wO,rV,ae,ah,aI,go_sem,hf,e1]
theorem agN{a b:Rd}(oa:Ok0 a)(ob:Ok0 b){p:Int}:R F.round_DivUp [ae a,ae b,I p] []=some (rV (rP a b p true),[]):=by
 refine ax sH rfl ?_;have hr:=Y3 oa ob (p:=p) (up:=true);simp only[rV,ae,ah]at hr;simp only[Am,H1,rV,ae,ah,go_sem,hr]
theorem abH{a b:Rd}(oa:Ok0 a)(ob:Ok0 b){p:Int}:R F.round_DivDown [ae a,ae b,I p] []=some (rV (rP a b p false),[]):=by
 refine ax aDc rfl ?_;have hr:=Y3 oa ob (p:=p) (up:=false);simp only[rV,ae,ah]at hr;simp only[xz,EE,rV,ae,ah,go_sem,hr]
theorem KF{a b:Rd}{p:Int}{up:Bool}:vd (rP a b p up).1=true/\Ok0 (rP a b p up).1:=by
 unfold rP;split
 ·split
  ·exact aU
  ·split
   ·exact aU
   ·exact adj
 ·exact aU
def Ql(x y:Ri)(p:Int):Ri:=if(kI x&&kI y&&bJ p)=true then(if Jt y=0 then dN else Ih (pS (fun a b=>rP a b p false) (fun a b=>rP a b p true) (gb x y)))else dN
theorem Y4{x y:Ri}(ox:OkI x)(oy:OkI y){p:Int}:R F.interval_Div [am x,am y,I p] []=some (am (Ql x y p),[]):=by
 refine ax Pw rfl ?_;have hk:=EW ox oy;have hp:=uH (p:=p);have hw:=lC;have hs:=Vt oy;have hf:=Ys ox oy (p:=p) (dn:=fun a b=>rP a b p false) (up:=fun a b=>rP a b p true) ⟨fun h1 h2=>abH h1 h2,KF.2,aDc.1.1,aDc.1.2.1,aDc.1.2.2.2,aDc.1.2.2.1⟩ ⟨fun h1 h2=>agN h1 h2,KF.2,sH.1.1,sH.1.2.1,sH.1.2.2.2,sH.1.2.2.1⟩;unfold Ql;generalize Ih (pS (fun a b=>rP a b p false) (fun a b=>rP a b p true) (gb x y))=z at hf⊢;generalize Jt y=sg at*
 simp only[am,ao,dN,aI]at hw hf hs;cases h1:(kI x&&kI y)with
 |false=>
  rw[h1]at hk;rw[awU,if_neg awW];simp only[kT,p7,am,ao,dN,aI,go_sem,hk,hw]
 |true=>
  rw[h1]at hk;have hs:=hs ((awS _ _).mp h1).2;cases h2:bJ p with
  |false=>
   rw[h2]at hp;rw[awT,if_neg awW];simp only[kT,p7,am,ao,dN,aI,go_sem,hk,hp,hw]
  |true=>
   rw[h2]at hp;rw[awT,if_pos rfl];by_cases h3:sg=0
   ·have e3:(sg=0)=True:=eq_true h3;rw[if_pos h3];simp only[kT,p7,am,ao,dN,aI,go_sem,hk,hp,hw,hs,e3]
   ·have e3:(sg=0)=False:=eq_false h3;rw[if_neg h3];simp only[kT,p7,am,ao,dN,aI,go_sem,hk,hp,hf,hs,e3]
def M0(x:Ri):Ri:=if kI x=true then⟨gJ x.hi,gJ x.lo,false⟩else dN
theorem aji{x:Ri}(ox:OkI x):OkI (M0 x):=by
 unfold M0;split
 ·exact⟨vQ ox.hi,vQ ox.lo⟩
 ·exact⟨aU.2,aU.2⟩
theorem ajj{x:Ri}(ox:OkI x):R F.interval_Neg [am x] []=some (am (M0 x),[]):=by
 refine ax Pu rfl ?_;have hk:=uI ox;have hw:=lC;have h1:R F.dyadic_Neg [ae x.lo] []=some (ae (gJ x.lo),[]):=Gl ox.lo;have h2:R F.dyadic_Neg [ae x.hi] []=some (ae (gJ x.hi),[]):=Gl ox.hi;unfold M0;simp only[am,ao,ae,ah]at hw h1 h2;cases h0:kI x with
 |false=>
  rw[h0]at hk;simp only[tv,Ag,am,ao,go_sem,hk,hw]
 |true=>
  rw[h0]at hk;simp only[tv,Ag,am,ao,go_sem,hk,h1,h2]
def Ce(x y:Ri)(p:Int):Ri:=cW x (M0 y) p
theorem Qm{x y:Ri}(ox:OkI x)(oy:OkI y){p:Int}:R F.interval_Sub [am x,am y,I p] []=some (am (Ce x y p),[]):=by
 refine ax Pt rfl ?_;have h1:=ajj oy;have h2:=vM ox (aji oy) (p:=p);unfold Ce;simp only[am,ao]at h1 h2;simp only[yJ,FV,am,ao,go_sem,h1,h2]
def KG(x y:Ri):Ri:=if(kI x&&kI y)=true then⟨aEw x.lo y.lo,kB x.hi y.hi,false⟩else dN
theorem agO{x y:Ri}(ox:OkI x)(oy:OkI y):R F.interval_Hull [am x,am y] []=some (am (KG x y),[]):=by
 refine ax Oc rfl ?_;have hk:=EW ox oy;have hw:=lC;have h1:=P2 ox.lo oy.lo;have h2:=P3 ox.hi oy.hi;unfold KG;simp only[am,ao,ae,ah]at hw h1 h2;cases h0:(kI x&&kI y)with
 |false=>
  rw[h0]at hk;simp only[rB,y7,am,ao,go_sem,hk,hw]
 |true=>
  rw[h0]at hk;simp only[rB,y7,am,ao,go_sem,hk,h1,h2]
def OA:Ri:=⟨aI,aI,false⟩
def tN(x y:Ri):Ri×Bool:=if(vi x&&vi y)=true then(if x.all=true then(y,true)else if y.all=true then(x,true)else if eP (kB x.lo y.lo) (aEw x.hi y.hi)<=0 then(⟨kB x.lo y.lo,aEw x.hi y.hi,false⟩,true)else(OA,false))else(OA,false)
theorem agP{x y:Ri}(ox:OkI x)(oy:OkI y):R F.interval_Meet [am x,am y] []=some (.tup [am (tN x y).1,B (tN x y).2],[]):=by
 refine ax N1 rfl ?_;have hx:=mj ox;have hy:=mj oy;have h1:=P3 ox.lo oy.lo;have h2:=P2 ox.hi oy.hi;have hc:=qG (Vv ox.lo oy.lo) (Vu ox.hi oy.hi);rw[show(if vd (kB x.lo y.lo)=true/\vd (aEw x.hi y.hi)=true then cp (zI (kB x.lo y.lo)) (zI (aEw x.hi y.hi))else 0)=eP (kB x.lo y.lo) (aEw x.hi y.hi)from rfl]at hc;unfold tN;generalize eP (kB x.lo y.lo) (aEw x.hi y.hi)=cc at hc⊢;simp only[am,ao,ae,ah]at hx hy h1 h2 hc;cases v1:vi x with
 |false=>
  rw[v1]at hx;simp only[fW,i9,am,ao,OA,aI,go_sem,hx]
  try rfl
 |true=>
  rw[v1]at hx;cases v2:vi y with
  |false=>
   rw[v2]at hy;simp only[fW,i9,am,ao,OA,aI,go_sem,hx,hy]
   try rfl
  |true=>
   rw[v2]at hy;cases a1:x.all with
   |true=>
    rw[a1]at hx;simp only[fW,i9,am,ao,go_sem,hx,hy,a1]
   |false=>
    rw[a1]at hx;cases a2:y.all with
    |true=>
     rw[a2]at hy;simp only[fW,i9,am,ao,go_sem,hx,hy,a1,a2]
    |false=>
     rw[a2]at hy;by_cases h3:cc<=0
     ·have e1:(0<cc)=False:=ff;rw[if_pos h3];simp only[fW,i9,am,ao,go_sem,hx,hy,a1,a2,h1,h2,hc,e1]
     ·have e1:(0<cc)=True:=tt;rw[if_neg h3];simp only[fW,i9,am,ao,OA,aI,go_sem,hx,hy,a1,a2,h1,h2,hc,e1]
      try rfl
abbrev G:=Nat->Rat
def pl(x:Rat)(v:G):Nat->Nat->Rat
 |_,0=>0
 |i,c+1=>v i+x*pl x v (i+1) c
def nw(t:Rat)(v:G):Nat->Nat->Rat
 |0,i=>v i
 |n+1,i=>nw t v n i+t*nw t v n (i+1)
def dc(t:Rat)(v:G):Nat->Nat->Rat
 |0,i=>v i
 |n+1,i=>(1-t)*dc t v n i+t*dc t v n (i+1)
def gs(g:G)(a:Nat)(x:Rat):G:=fun i=>if i=a then x else g i
def LN(lo:Rat)(ad:Nat->Nat)(i:Nat):Nat->G->G
 |0,g=>g
 |k+1,g=>LN lo ad i k (gs g (ad (i+k)) (g (ad (i+k))+lo*g (ad (i+k+1))))
def LO(lo:Rat)(ad:Nat->Nat):Nat->Nat->G->G
 |0,_,g=>g
 |k+1,i,g=>LO lo ad k (i+1) (LN lo ad i (k+1) g)
def RM(w:Rat)(ad:Nat->Nat):Nat->Nat->Rat->G->G
 |0,_,_,g=>g
 |k+1,j,b,g=>RM w ad k (j+1) (b*w) (gs g (ad j) (g (ad j)*(b*w)))
def LP(n:Nat)(ad:Nat->Nat):Nat->Nat->Rat->G->G
 |0,_,_,g=>g
 |k+1,j,b,g=>LP n ad k (j+1) (b*((n:Rat)-j+1)/j) (gs g (ad j) (g (ad j)/ (b*((n:Rat)-j+1)/j)))
def OB(ad:Nat->Nat)(j:Nat):Nat->G->G
 |0,g=>g
 |k+1,g=>OB ad j k (gs g (ad (j+k+1)) (g (ad (j+k+1))+g (ad (j+k))))
def RN(ad:Nat->Nat):Nat->Nat->G->G
 |0,_,g=>g
 |k+1,j,g=>RN ad k (j+1) (OB ad j (k+1) g)
def gS:Nat->Nat->Nat
 |_,0=>1
 |0,_+1=>0
 |n+1,k+1=>gS n k+gS n (k+1)
theorem alL{lo:Rat}{ad:Nat->Nat}(hi:∀a b,ad a=ad b↔a=b){i:Nat}:∀ (k:Nat) (g:G),(∀a,(∀m,i<=m->m<i+k->a≠ad m)->LN lo ad i k g a=g a)/\(∀m,i<=m->m<i+k->LN lo ad i k g (ad m)=g (ad m)+lo*LN lo ad i k g (ad (m+1))):=by
 intro k;induction k with
 |zero=>exact fun g=>⟨fun _ _=>rfl,fun m h1 h2=>by omega⟩
 |succ k ih=>
  intro g;have e:LN lo ad i (k+1) g=LN lo ad i k (gs g (ad (i+k)) (g (ad (i+k))+lo*g (ad (i+k+1)))):=rfl;rw[e];obtain⟨h1,h2⟩:=ih (gs g (ad (i+k)) (g (ad (i+k))+lo*g (ad (i+k+1))));constructor
  ·intro a ha;rw[h1 a fun m hm hk=>ha m hm (by omega),gs,if_neg (ha _ (by omega) (by omega))]
  ·intro m hm hk;by_cases hq:m=i+k
   ·grind[gs]
   ·rw[h2 m hm (by omega),gs,if_neg (by grind)]
theorem alM{x u lo:Rat}(hx:x=lo+u){v w:G}:∀ (k i:Nat),(∀m,i<=m->m<i+k->w m=v m+lo*w (m+1))->w (i+k)=v (i+k)->pl x v i (k+1)=w i+u*pl x w (i+1) k:=by
 intro k;induction k with
 |zero=>grind[pl]
 |succ k ih=>
  intro i h1 h2;have h3:=ih (i+1) (fun m a b=>h1 m (by omega) (by omega)) (by grind);grind[pl]
theorem alN{x u lo:Rat}(hx:x=lo+u){ad:Nat->Nat}(hi:∀a b,ad a=ad b↔a=b):∀ (k i:Nat) (g:G),(∀a,(∀m,i<=m->m<i+k->a≠ad m)->LO lo ad k i g a=g a)/\pl x (fun m=>g (ad m)) i (k+1)=pl u (fun m=>LO lo ad k i g (ad m)) i (k+1):=by
 intro k;induction k with
 |zero=>simp_all[pl,LO]
 |succ k ih=>
  intro i g;obtain⟨h1,h2⟩:=alL (lo:=lo) hi (i:=i) (k+1) g;have e:LO lo ad (k+1) i g=LO lo ad k (i+1) (LN lo ad i (k+1) g):=rfl;rw[e];generalize LN lo ad i (k+1) g=g1 at*
  obtain⟨h3,h4⟩:=ih (i+1) g1;constructor
  ·grind
  ·rw[alM hx (v:=fun m=>g (ad m)) (w:=fun m=>g1 (ad m)) (k+1) i h2 (h1 _ fun m _ hk=>by grind),h4];show _=LO lo ad k (i+1) g1 (ad i)+u*_;grind
theorem alO{w:Rat}{ad:Nat->Nat}(hi:∀a b,ad a=ad b↔a=b):∀ (k j:Nat) (b:Rat) (g:G),(∀a,(∀m,j<=m->m<j+k->a≠ad m)->RM w ad k j b g a=g a)/\(∀m,m<k->RM w ad k j b g (ad (j+m))=g (ad (j+m))*(b*w^ (m+1))):=by
 intro k;induction k with
 |zero=>exact fun j b g=>⟨fun _ _=>rfl,fun m h=>by omega⟩
 |succ k ih=>
  intro j b g;have e:RM w ad (k+1) j b g=RM w ad k (j+1) (b*w) (gs g (ad j) (g (ad j)*(b*w))):=rfl;rw[e];obtain⟨h1,h2⟩:=ih (j+1) (b*w) (gs g (ad j) (g (ad j)*(b*w)));constructor
  ·intro a ha;rw[h1 a fun m hm hk=>ha m (by omega) (by omega),gs,if_neg (ha _ (by omega) (by omega))]
  ·intro m hm;cases m with
   |zero=>
    rw[h1 _ fun m hm hk=>by grind];simp[gs]
   |succ m=>
    have:=h2 m (by omega);rw[show j+1+m=j+(m+1)by omega]at this;rw[this,gs,if_neg (by grind),aDL w (m+1),aDL w m];grind
theorem alP{w t:Rat}{v z:G}:∀ (c i:Nat),(∀m,i<=m->m<i+c->z m=v m*w^m)->pl t z i c=w^i*pl (w*t) v i c:=by
 intro c;induction c with
 |zero=>grind[pl]
 |succ c ih=>
  grind[pl,aDL]
theorem D6(n:Nat):gS n 0=1:=by cases n<;>rfl
theorem Gu:∀ (n k:Nat),n<k->gS n k=0
 |_,0,h=>by omega
 |0,_+1,_=>rfl
 |n+1,k+1,h=>by
  show gS n k+gS n (k+1)=0;rw[Gu n k (by omega),Gu n (k+1) (by omega)]
theorem KH:∀n k:Nat,k<=n->(gS n (k+1):Int)*(k+1)=gS n k*((n:Int)-k)
 |0,k,h=>by
  have:k=0:=by omega
  subst this;rfl
 |n+1,0,_=>by
  have:=KH n 0 (by omega);show((gS n 0+gS n 1:Nat):Int)*_=(gS (n+1) 0:Int)*_;simp only[D6]at this⊢;simp at this⊢;omega
 |n+1,k+1,h=>by
  have h1:=KH n k (by omega);show((gS n (k+1)+gS n (k+1+1):Nat):Int)*_=((gS n k+gS n (k+1):Nat):Int)*_;by_cases hk:k+1<=n
  ·have h2:=KH n (k+1) hk;grind
  ·have:n=k:=by omega
   subst this;rw[Gu n (n+1) (by omega),Gu n (n+1+1) (by omega)];simp
theorem Y5:∀n k:Nat,k<=n->0<gS n k
 |n,0,_=>by grind[D6]
 |n+1,k+1,h=>Nat.add_pos_left (Y5 n k (by omega)) _
theorem alQ{n:Nat}{ad:Nat->Nat}(hi:∀a b,ad a=ad b↔a=b):∀ (k j:Nat) (b:Rat) (g:G),j+1+k=n+1->b=gS n j->(∀a,(∀m,j+1<=m->m<j+1+k->a≠ad m)->LP n ad k (j+1) b g a=g a)/\(∀m,m<k->LP n ad k (j+1) b g (ad (j+1+m))*gS n (j+1+m)=g (ad (j+1+m))):=by
 intro k;induction k with
 |zero=>exact fun j b g _ _=>⟨fun _ _=>rfl,fun m h=>by omega⟩
 |succ k ih=>
  intro j b g hk hb;have e:LP n ad (k+1) (j+1) b g=LP n ad k (j+1+1) (b*((n:Rat)- (j+1:Nat)+1)/ (j+1:Nat)) (gs g (ad (j+1)) (g (ad (j+1))/ (b*((n:Rat)- (j+1:Nat)+1)/ (j+1:Nat)))):=rfl;have hb2:b*((n:Rat)- (j+1:Nat)+1)/ (j+1:Nat)=gS n (j+1):=by
   have h1:=KH n j (by omega);have h2:((gS n (j+1):Rat))*(j+1)=gS n j*((n:Rat)-j):=by
    have:=congrArg (fun z:Int=>(z:Rat)) h1;simp only[aFn,Rat.intCast_sub,Rat.intCast_add,Rat.intCast_natCast]at this;omega
   grind
  rw[e,hb2];have hp:(gS n (j+1):Rat)≠0:=by
   have:=Y5 n (j+1) (by omega);intro h0
   simp_all
  obtain⟨h1,h2⟩:=ih (j+1) (gS n (j+1)) (gs g (ad (j+1)) (g (ad (j+1))/gS n (j+1))) (by omega) rfl;constructor
  ·intro a ha;rw[h1 a fun m hm hk=>ha m (by omega) (by omega),gs,if_neg (ha _ (by omega) (by omega))]
  ·intro m hm;cases m with
   |zero=>
    rw[h1 _ fun m hm hk=>by grind];simp only[gs,axo,if_true];grind
   |succ m=>
    have:=h2 m (by omega);rw[show j+1+1+m=j+1+(m+1)by omega]at this
    simp_all[gs,if_neg]
theorem alR{t:Rat}{u v w:G}:∀ (c i:Nat),(∀m,i<=m->m<i+c->w m=u m+v m)->pl t w i c=pl t u i c+pl t v i c:=by
 intro c;induction c with
 |zero=>grind[pl]
 |succ c ih=>
  grind[pl]
theorem M1{t:Rat}{v w:G}{d:Nat}:∀ (c i:Nat),(∀m,i<=m->m<i+c->w m=v (m+d))->pl t w i c=pl t v (i+d) c:=by
 intro c;induction c with
 |zero=>intro i _;rfl
 |succ c ih=>
  grind[pl]
theorem ajk{t:Rat}{v:G}:∀ (c i:Nat),v (i+c)=0->pl t v i (c+1)=pl t v i c:=by
 intro c;induction c with
 |zero=>grind[pl]
 |succ c ih=>
  grind[pl]
theorem aon{t:Rat}{v:G}:∀ (n i:Nat),nw t v n i=pl t (fun m=>gS n m*v (i+m)) 0 (n+1):=by
 intro n;induction n with
 |zero=>simp only[nw,pl,gS,axo];grind
 |succ n ih=>
  intro i;have e1:=ajk (t:=t) (v:=fun m=>(gS n m:Rat)*v (i+m)) (n+1) 0 (by simp_all[Gu]);have e2:pl t (fun m=>(gS n m:Rat)*v (i+m)) 0 (n+1+1)=(gS n 0:Rat)*v (i+0)+t*pl t (fun m=>(gS n m:Rat)*v (i+m)) (0+1) (n+1):=rfl;have e3:pl t (fun m=>(gS (n+1) m:Rat)*v (i+m)) 0 (n+1+1)=(gS (n+1) 0:Rat)*v (i+0)+t*pl t (fun m=>(gS (n+1) m:Rat)*v (i+m)) (0+1) (n+1):=rfl;have e4:=M1 (t:=t) (d:=1) (w:=fun m=>(gS n (m+1):Rat)*v (i+(m+1))) (v:=fun m=>(gS n m:Rat)*v (i+m)) (n+1) 0 (fun m _ _=>rfl);have e5:=M1 (t:=t) (d:=1) (w:=fun m=>(gS (n+1) (m+1):Rat)*v (i+(m+1))) (v:=fun m=>(gS (n+1) m:Rat)*v (i+m)) (n+1) 0 (fun m _ _=>rfl);have e6:=alR (t:=t) (w:=fun m=>(gS (n+1) (m+1):Rat)*v (i+(m+1))) (u:=fun m=>(gS n m:Rat)*v (i+1+m)) (v:=fun m=>(gS n (m+1):Rat)*v (i+(m+1))) (n+1) 0 (fun m _ _=>by
   have:gS (n+1) (m+1)=gS n m+gS n (m+1):=rfl;simp only[this,show i+1+m=i+(m+1)by omega,Rat.natCast_add];grind)
  grind[nw,D6]
theorem alS{ad:Nat->Nat}(hi:∀a b,ad a=ad b↔a=b){j:Nat}:∀ (k:Nat) (g:G),(∀a,(∀m,j<=m->m<j+k->a≠ad (m+1))->OB ad j k g a=g a)/\(∀m,j<=m->m<j+k->OB ad j k g (ad (m+1))=g (ad (m+1))+g (ad m)):=by
 intro k;induction k with
 |zero=>exact fun g=>⟨fun _ _=>rfl,fun m h1 h2=>by omega⟩
 |succ k ih=>
  intro g;have e:OB ad j (k+1) g=OB ad j k (gs g (ad (j+k+1)) (g (ad (j+k+1))+g (ad (j+k)))):=rfl;rw[e];obtain⟨h1,h2⟩:=ih (gs g (ad (j+k+1)) (g (ad (j+k+1))+g (ad (j+k))));constructor
  ·intro a ha;rw[h1 a fun m hm hk=>ha m hm (by omega),gs,if_neg (ha _ (by omega) (by omega))]
  ·intro m hm hk;by_cases hq:m=j+k
   ·subst hq;rw[h1 _ fun m hm hk=>by grind];simp[gs]
   ·rw[h2 m hm (by omega),gs,gs,if_neg (by grind),if_neg (by grind)]
theorem alT{t:Rat}{v w:G}{j k:Nat}(h:∀m,j<=m->m<=j+k->w (m+1)=v (m+1)+v m):∀ (d m:Nat),j<=m->m+d<=j+k->nw t w d (m+1)=nw t v d (m+1)+nw t v d m:=by
 intro d;induction d with
 |zero=>exact fun m h1 h2=>h m h1 h2
 |succ d ih=>
  grind[nw]
theorem alU{t:Rat}{ad:Nat->Nat}(hi:∀a b,ad a=ad b↔a=b):∀ (k j:Nat) (g:G),(∀a,(∀m,j<=m->m<j+k->a≠ad (m+1))->RN ad k j g a=g a)/\∀d,d<=k->dc t (fun m=>RN ad k j g (ad m)) d j=nw t (fun m=>g (ad m)) d j:=by
 intro k;induction k with
 |zero=>
  intro j g;refine⟨fun _ _=>rfl,fun d hd=>?_⟩;have:d=0:=by omega
  subst this;rfl
 |succ k ih=>
  intro j g;obtain⟨h1,h2⟩:=alS hi (j:=j) (k+1) g;have e:RN ad (k+1) j g=RN ad k (j+1) (OB ad j (k+1) g):=rfl;rw[e];generalize OB ad j (k+1) g=g1 at*
  obtain⟨h3,h4⟩:=ih (j+1) g1;refine⟨fun a ha=>by rw[h3 a fun m hm hk=>ha m (by omega) (by omega),h1 a fun m hm hk=>ha m hm hk],fun d=>?_⟩;induction d with
  |zero=>
   intro _;show RN ad k (j+1) g1 (ad j)=g (ad j);grind
  |succ d ihd=>
   intro hd;have q3:=alT (t:=t) (v:=fun m=>g (ad m)) (w:=fun m=>g1 (ad m)) (j:=j) (k:=k) (fun m a b=>h2 m a (by omega)) d j (awQ _) (by omega);grind[dc,nw]
def OD(lo w:Rat)(n:Nat)(ad:Nat->Nat)(g:G):G:=RM w ad n 1 1 (LO lo ad n 0 g)
def OE(n:Nat)(ad:Nat->Nat)(g:G):G:=RN ad n 0 (LP n ad n 1 1 g)
theorem alV{x t lo w:Rat}(hx:x=lo+w*t){ad:Nat->Nat}(hi:∀a b,ad a=ad b↔a=b)(n:Nat)(g:G):(∀a,(∀m,m<=n->a≠ad m)->OD lo w n ad g a=g a)/\pl x (fun m=>g (ad m)) 0 (n+1)=pl t (fun m=>OD lo w n ad g (ad m)) 0 (n+1):=by
 obtain⟨a1,a2⟩:=alN hx hi n 0 g;unfold OD;generalize LO lo ad n 0 g=g1 at*
 obtain⟨b1,b2⟩:=alO (w:=w) hi n 1 1 g1;generalize RM w ad n 1 1 g1=g2 at*
 rw[a2,alP (w:=w) (t:=t) (v:=fun m=>g1 (ad m)) (z:=fun m=>g2 (ad m)) (n+1) 0 (fun m _ hm=>by
  cases m with
  |zero=>
   grind
  |succ m=>
   grind),Rat.pow_zero]
 grind
theorem alW{t:Rat}{ad:Nat->Nat}(hi:∀a b,ad a=ad b↔a=b)(n:Nat)(g:G):(∀a,(∀m,m<=n->a≠ad m)->OE n ad g a=g a)/\pl t (fun m=>g (ad m)) 0 (n+1)=dc t (fun m=>OE n ad g (ad m)) n 0:=by
 obtain⟨c1,c2⟩:=alQ (n:=n) hi n 0 1 g (by omega) (by rw[D6];rfl);unfold OE;generalize LP n ad n 1 1 g=g3 at*
 obtain⟨d1,d2⟩:=alU (t:=t) hi n 0 g3;rw[d2 n (awQ _),aon];have e:=M1 (t:=t) (d:=0) (v:=fun m=>g (ad m)) (w:=fun m=>(gS n m:Rat)*g3 (ad (0+m))) (n+1) 0 (fun m _ hm=>by
  cases m with
  |zero=>
   have q1:=c1 (ad 0) fun m h _=>by grind
   simp_all[axo,D6]
  |succ m=>
   grind)
 grind
def pQ(n:Nat):Rat:=((2^n:Int):Rat)
def eQ(n:Nat):Rat:=1/pQ n
theorem aed(n:Nat):0<pQ n:=by
 have:(0:Int)<2^n:=Int.pow_pos (by decide);unfold pQ;exact_mod_cast this
theorem JG(n:Nat):eQ n*pQ n=1:=by
 grind[aed,eQ]
theorem Wa(n:Nat):0<eQ n:=by
 have h:=JG n;refine Rat.not_le.1 fun hn=>?_;have:=axT hn (Rat.le_of_lt (aed n));grind
def EQ:Rat:=eQ 16384
theorem Gv:0<EQ:=Wa _
def qv(d:Rd):Rat:=(zI d:Rat)*EQ
theorem Gw{a b:Int}(h:a<=b):(a:Rat)<=b:=by exact_mod_cast h
theorem zM{a b:Rd}:qv a<=qv b↔zI a<=zI b:=by
 unfold qv;constructor
 ·intro h;refine Int.not_lt.1 fun hc=>?_;have h1:(zI b:Rat)<zI a:=by exact_mod_cast hc
  have:=Rat.mul_lt_mul_of_pos_right h1 Gv;grind
 grind[axT,Gw,Rat.le_of_lt,Gv]
theorem HC:qv aI=0:=by
 unfold qv;rw[cF rfl];grind
theorem Gx{d:Rd}(h:vd d=true):qv (gJ d)=-qv d/\vd (gJ d)=true:=by
 obtain⟨a,b⟩:=vS h;unfold qv;rw[a,Rat.intCast_neg];grind
def In(q:Rat)(x:Ri):Prop:=x=dN\/x.all=false/\VI x/\qv x.lo<=q/\q<=qv x.hi
theorem In.vi{q:Rat}{x:Ri}(h:In q x):VI x:=by
 rcases h with rfl|h
 ·exact MR
 grind
theorem In.ok{q:Rat}{x:Ri}(h:In q x):OkI x:=⟨h.vi.1.2,h.vi.2.2⟩
theorem In.k{q:Rat}{x:Ri}(h:In q x):x=dN/\kI x=false\/kI x=true/\qv x.lo<=q/\q<=qv x.hi:=by
 rcases h with rfl| ⟨h1,h2,h3,h4⟩
 ·exact Or.inl ⟨rfl,rfl⟩
 ·exact Or.inr ⟨aoc h2.1.1 h2.2.1 (zM.1 (aDM h3 h4)) h1,h3,h4⟩
theorem In.v{q:Rat}{x:Ri}(h:In q x):Ab.vi x=true:=by
 rcases h.k with⟨rfl,_⟩| ⟨h,_⟩
 ·rfl
 ·unfold kI at h;grind
theorem Tp{q:Rat}{r s:Rd×Int}(vr:vd r.1=true/\Ok0 r.1)(vs:vd s.1=true/\Ok0 s.1)(h1:r.2=0->qv r.1<=q)(h2:s.2=0->q<=qv s.1):In q (tL r s):=by
 unfold tL;split
 ·next h=>exact Or.inr ⟨rfl,⟨vr,vs⟩,h1 h.1,h2 h.2⟩
 ·exact Or.inl rfl
theorem rQ{d:Rd}(h:vd d=true)(ok:Ok0 d):In (qv d) ⟨d,d,false⟩:=Or.inr ⟨rfl,⟨⟨h,ok⟩,⟨h,ok⟩⟩,Rat.le_refl,Rat.le_refl⟩
theorem zN{p:Int}(hp:bJ p=true):8<=p/\p<=512:=by
 simp_all[bJ,awS,decide_eq_true_eq]
theorem OF{a b:Rd}{p:Int}(ha:vd a=true)(hb:vd b=true)(hp:bJ p=true):aY p [a,b]=0:=by
 grind[zN,aY]
theorem Wb{a b:Rd}{p:Int}{up:Bool}(ha:vd a=true)(hb:vd b=true)(hp:bJ p=true)(h:(di a b p up).2=0):(up=true->qv a+qv b<=qv (di a b p up).1)/\(up=false->qv (di a b p up).1<=qv a+qv b):=by
 unfold di at h⊢;rw[if_pos (OF ha hb hp)]at h⊢;have hh:(up=true->zI a+zI b<=zI (jj (zI a+zI b) (-16384) p up).1*2^0)/\(up=false->zI (jj (zI a+zI b) (-16384) p up).1*2^0<=zI a+zI b):=KE (j:=0) (zN hp) h;obtain⟨h1,h2⟩:=hh;simp only[Int.pow_zero,Int.mul_one]at h1 h2;have e:qv a+qv b=((zI a+zI b:Int):Rat)*EQ:=by unfold qv;grind
 rw[e];exact⟨fun hu=>axT (Gw (h1 hu)) (Rat.le_of_lt Gv),fun hu=>axT (Gw (h2 hu)) (Rat.le_of_lt Gv)⟩
theorem OG{z r:Int}(n:Nat):(z<=r*2^n->(z:Rat)*eQ n*eQ n<=r*eQ n)/\(r*2^n<=z->(r:Rat)*eQ n<=z*eQ n*eQ n):=by
 have e:(r:Rat)*eQ n=((r*2^n:Int):Rat)*eQ n*eQ n:=by
  rw[aFn,show(((2:Int)^n:Int):Rat)=pQ n from rfl];grind[JG]
 rw[e];have h0:=Rat.le_of_lt (Wa n);exact⟨fun h=>axT (axT (Gw h) h0) h0,fun h=>axT (axT (Gw h) h0) h0⟩
theorem OH{a b:Rd}{p:Int}{up:Bool}(ha:vd a=true)(hb:vd b=true)(hp:bJ p=true)(h:(fF a b p up).2=0):(up=true->qv a*qv b<=qv (fF a b p up).1)/\(up=false->qv (fF a b p up).1<=qv a*qv b):=by
 unfold fF at h⊢;rw[if_pos (OF ha hb hp)]at h⊢;obtain⟨h1,h2⟩:=KE (j:=16384) (zN hp) h;have e:qv a*qv b=((zI a*zI b:Int):Rat)*EQ*EQ:=by unfold qv;grind
 rw[e];exact⟨fun hu=>(OG _).1 (h1 hu),fun hu=>(OG _).2 (h2 hu)⟩
theorem n7{x y:Ri}{a b:Rat}{p:Int}(hx:In a x)(hy:In b y):In (a+b) (cW x y p):=by
 unfold cW;split
 ·next h=>
  simp only[awS]at h;obtain⟨⟨kx,ky⟩,hp⟩:=h;rcases hx.k with⟨rfl,h⟩| ⟨_,x1,x2⟩
  ·grind
  rcases hy.k with⟨rfl,h⟩| ⟨_,y1,y2⟩
  ·grind
  have ok:∀ {a b:Rd} {up:Bool},vd (di a b p up).1=true/\Ok0 (di a b p up).1:=fun{a b up}=>by
   grind[di,sK,aU]
  refine Tp ok ok (fun h=>?_) (fun h=>?_)
  ·have:=(Wb hx.vi.1.1 hy.vi.1.1 hp h).2 rfl;grind
  ·have:=(Wb hx.vi.2.1 hy.vi.2.1 hp h).1 rfl;grind
 ·exact Or.inl rfl
theorem ajl{x:Ri}{a:Rat}(hx:In a x):In (-a) (M0 x):=by
 unfold M0;split
 ·next h=>
  rcases hx.k with⟨rfl,h1⟩| ⟨_,x1,x2⟩
  ·grind
  have n1:=Gx hx.vi.1.1;have n2:=Gx hx.vi.2.1;exact Or.inr ⟨rfl,⟨⟨n2.2,vQ hx.ok.hi⟩,⟨n1.2,vQ hx.ok.lo⟩⟩,by grind,by grind⟩
 ·exact Or.inl rfl
theorem Y6{x y:Ri}{a b:Rat}{p:Int}(hx:In a x)(hy:In b y):In (a-b) (Ce x y p):=by
 have:=n7 (p:=p) hx (ajl hy);rw[show a+-b=a-b by grind]at this;exact this
theorem JH{a b:Rd}(ha:vd a=true)(hb:vd b=true):(eP a b<0->qv a<=qv b)/\(¬eP a b<0->qv b<=qv a)/\(0<eP a b->qv b<=qv a)/\(¬0<eP a b->qv a<=qv b)/\(eP a b<=0↔qv a<=qv b)/\(0<=eP a b↔qv b<=qv a):=by
 unfold eP;grind[zM,cp]
theorem Qn{a b:Rd}(ha:vd a=true/\Ok0 a)(hb:vd b=true/\Ok0 b):qv (aEw a b)<=qv a/\qv (aEw a b)<=qv b/\vd (aEw a b)=true/\Ok0 (aEw a b)/\(∀q,q<=qv a->q<=qv b->q<=qv (aEw a b)):=by
 obtain⟨c1,c2,c3,c4,c5,c6⟩:=JH ha.1 hb.1;grind[aEw,Rat.le_refl]
theorem Qo{a b:Rd}(ha:vd a=true/\Ok0 a)(hb:vd b=true/\Ok0 b):qv a<=qv (kB a b)/\qv b<=qv (kB a b)/\vd (kB a b)=true/\Ok0 (kB a b)/\(∀q,qv a<=q->qv b<=q->qv (kB a b)<=q):=by
 obtain⟨c1,c2,c3,c4,c5,c6⟩:=JH ha.1 hb.1;grind[kB,Rat.le_refl]
theorem HD{x y:Ri}{a b:Rat}(hx:In a x)(hy:In b y):(In a (KG x y)/\In b (KG x y)):=by
 unfold KG;split
 ·next h=>
  rcases hx.k with⟨rfl,h1⟩| ⟨_,x1,x2⟩
  ·grind
  rcases hy.k with⟨rfl,h1⟩| ⟨_,y1,y2⟩
  ·grind
  obtain⟨l1,l2,l3,l4,l5⟩:=Qn hx.vi.1 hy.vi.1;obtain⟨m1,m2,m3,m4,m5⟩:=Qo hx.vi.2 hy.vi.2;exact⟨Or.inr ⟨rfl,⟨⟨l3,l4⟩,⟨m3,m4⟩⟩,by grind,by grind⟩,Or.inr ⟨rfl,⟨⟨l3,l4⟩,⟨m3,m4⟩⟩,by grind,by grind⟩⟩
 ·exact⟨Or.inl rfl,Or.inl rfl⟩
theorem HE{x y:Ri}{q:Rat}(hx:In q x)(hy:In q y):(tN x y).2=true/\In q (tN x y).1:=by
 unfold tN;rw[if_pos (by rw[hx.v,hy.v];rfl)];rcases hx with rfl| ⟨ha,hv,h1,h2⟩
 ·rw[if_pos (show dN.all=true from rfl)];grind
 ·rw[if_neg (by grind)];rcases hy with rfl| ⟨hb,hw,h3,h4⟩
  ·exact⟨rfl,Or.inr ⟨ha,hv,h1,h2⟩⟩
  ·rw[if_neg (by grind)];obtain⟨l1,l2,l3,l4,l5⟩:=Qn hv.2 hw.2;obtain⟨m1,m2,m3,m4,m5⟩:=Qo hv.1 hw.1;have a:=l5 q h2 h4;have b:=m5 q h1 h3;rw[if_pos ((JH m3 l3).2.2.2.2.1.2 (aDM b a))];exact⟨rfl,Or.inr ⟨rfl,⟨⟨m3,m4⟩,⟨l3,l4⟩⟩,b,a⟩⟩
theorem Y7{dn up:Rd->Rd->Rd×Int}{pr:Nat->Rd×Rd}(okd:∀a b,vd (dn a b).1=true/\Ok0 (dn a b).1)(oku:∀a b,vd (up a b).1=true/\Ok0 (up a b).1){v:Nat->Rat}
  (hd:∀i,i<4->(dn (pr i).1 (pr i).2).2=0->qv (dn (pr i).1 (pr i).2).1<=v i) (hu:∀i,i<4->(up (pr i).1 (pr i).2).2=0->v i<=qv (up (pr i).1 (pr i).2).1) {q:Rat} (hq:∀lo hi:Rat,(∀i,i<4->lo<=v i/\v i<=hi)->lo<=q/\q<=hi):In q (Ih (pS dn up pr)):=by
 have key:∀ (k i:Nat) (o:Rd×Rd),i+k=4->(vd o.1=true/\Ok0 o.1)->(vd o.2=true/\Ok0 o.2)->(∀j,j<i->qv o.1<=v j/\v j<=qv o.2)->In q (Ih (aDo dn up pr k i o)):=by
  intro k;induction k with
  |zero=>
   intro i o hi v1 v2 h;have:=hq _ _ fun j hj=>h j (by omega);exact Or.inr ⟨rfl,⟨v1,v2⟩,this.1,this.2⟩
  |succ k ih=>
   intro i o hi v1 v2 h;unfold aDo;split
   ·next he=>
    have od:=okd (pr i).1 (pr i).2;have ou:=oku (pr i).1 (pr i).2;obtain⟨c1,c2,_,_⟩:=JH od.1 v1.1;obtain⟨_,_,c3,c4,_⟩:=JH ou.1 v2.1;grind
   ·exact Or.inl rfl
 unfold pS;split
 ·grind
 ·exact Or.inl rfl
theorem ajm{xl xh x y lo hi:Rat}(h1:xl<=x)(h2:x<=xh)(a:lo<=xl*y/\xl*y<=hi)(b:lo<=xh*y/\xh*y<=hi):lo<=x*y/\x*y<=hi:=by
 by_cases h:0<=y
 ·have:=axT h1 h;have:=axT h2 h;grind
 ·have h:0≤-y:=by grind
  have:=axT h1 h;have:=axT h2 h;grind
theorem Y8{xl xh x yl yh y lo hi:Rat}(h1:xl<=x)(h2:x<=xh)(h3:yl<=y)(h4:y<=yh)(a:lo<=xl*yl/\xl*yl<=hi)(b:lo<=xl*yh/\xl*yh<=hi)(c:lo<=xh*yl/\xh*yl<=hi)(d:lo<=xh*yh/\xh*yh<=hi):lo<=x*y/\x*y<=hi:=by
 grind[Rat.mul_comm,ajm]
theorem n8{x y:Ri}{a b:Rat}{p:Int}(hx:In a x)(hy:In b y):In (a*b) (ce x y p):=by
 unfold ce;split
 ·next h=>
  simp only[awS]at h;obtain⟨⟨kx,ky⟩,hp⟩:=h;rcases hx.k with⟨rfl,h⟩| ⟨_,x1,x2⟩
  ·grind
  rcases hy.k with⟨rfl,h⟩| ⟨_,y1,y2⟩
  ·grind
  have ok:∀ (up:Bool) (a b:Rd),vd (fF a b p up).1=true/\Ok0 (fF a b p up).1:=fun up a b=>by
   grind[fF,sK,aU]
  have hv:∀i,vd (gb x y i).1=true/\vd (gb x y i).2=true:=fun i=>by
   unfold gb;split
   ·exact⟨hx.vi.1.1,hy.vi.1.1⟩
   ·exact⟨hx.vi.1.1,hy.vi.2.1⟩
   ·exact⟨hx.vi.2.1,hy.vi.1.1⟩
   ·exact⟨hx.vi.2.1,hy.vi.2.1⟩
  refine Y7 (v:=fun i=>qv (gb x y i).1*qv (gb x y i).2) (ok false) (ok true) (fun i _ h=>(OH (hv i).1 (hv i).2 hp h).2 rfl) (fun i _ h=>(OH (hv i).1 (hv i).2 hp h).1 rfl) fun lo hi h=>?_;exact Y8 x1 x2 y1 y2 (h 0 (by decide)) (h 1 (by decide)) (h 2 (by decide)) (h 3 (by decide))
 ·exact Or.inl rfl
abbrev LF:=G->Rat
def yn(W v:G):Nat->Rat
 |0=>0
 |d+1=>yn W v d+W d*v d
def pC(d:Nat)(L:LF):Prop:=∃W,∀v,L v=yn W v d
theorem aee{W v w:G}:∀d:Nat,(∀j,j<d->v j=w j)->yn W v d=yn W w d
 |0,_=>rfl
 |d+1,h=>by simp only[yn];rw[aee d fun j hj=>h j (by omega),h d (by omega)]
theorem Y9{W v w:G}{a b:Rat}:∀d:Nat,yn W (fun j=>a*v j+b*w j) d=a*yn W v d+b*yn W w d
 |0=>by grind[yn]
 |d+1=>by simp only[yn];rw[Y9 d];grind
theorem ahN{U W v:G}{a b:Rat}:∀d:Nat,yn (fun j=>a*U j+b*W j) v d=a*yn U v d+b*yn W v d
 |0=>by grind[yn]
 |d+1=>by simp only[yn];rw[ahN d];grind
theorem pC.cg{d:Nat}{L:LF}(h:pC d L){v w:G}(e:∀j,j<d->v j=w j):L v=L w:=by
 obtain⟨W,h⟩:=h;rw[h,h,aee d e]
theorem pC.lin{d:Nat}{L:LF}(h:pC d L){v w:G}{a b:Rat}:L (fun j=>a*v j+b*w j)=a*L v+b*L w:=by
 obtain⟨W,h⟩:=h;rw[h,h,h,Y9 d]
theorem pC.zero{d:Nat}{L:LF}(h:pC d L):L (fun _=>0)=0:=by
 have:=h.lin (v:=fun _=>0) (w:=fun _=>0) (a:=0) (b:=0);grind
theorem pC.swap{d c:Nat}{L P:LF}(h:pC d L)(hP:pC c P)(f:Nat->Nat->Rat):P (fun j=>L (fun r=>f r j))=L (fun r=>P (fun j=>f r j)):=by
 obtain⟨W,hP⟩:=hP;simp only[hP];clear hP;induction c with
 |zero=>exact h.zero.symm
 |succ c ih=>
  simp only[yn];have:=h.lin (v:=fun r=>yn W (fun j=>f r j) c) (w:=fun r=>f r c) (a:=1) (b:=W c);grind
theorem aef{d i:Nat}(h:i<d):pC d fun v=>v i:=by
 refine⟨fun j=>if j=i then 1 else 0,fun v=>?_⟩;have:∀c,yn (fun j=>if j=i then 1 else 0) v c=if i<c then v i else 0:=by
  intro c;induction c with
  |zero=>rfl
  |succ c ih=>
   simp only[yn,ih];grind
 grind
theorem pC.comb{d:Nat}{L M:LF}(h:pC d L)(h':pC d M)(a b:Rat):pC d fun v=>a*L v+b*M v:=by
 obtain⟨W,h⟩:=h;obtain⟨U,h'⟩:=h';exact⟨fun j=>a*W j+b*U j,fun v=>by
  show a*L v+b*M v=_;rw[ahN,h,h']⟩
theorem agQ{d:Nat}:pC d fun _=>0:=⟨fun _=>0,fun v=>by
 induction d with
 |zero=>rfl
 |succ d ih=>grind[yn]⟩
theorem JI{x:Rat}{d:Nat}:∀c i:Nat,i+c<=d->pC d fun v=>pl x v i c
 |0,_,_=>agQ
 |c+1,i,h=>by
  have:=(aef (d:=d) (i:=i) (by omega)).comb (JI (x:=x) c (i+1) (by omega)) 1 x;simp only[Rat.one_mul]at this;exact this
theorem OI{t:Rat}{d:Nat}:∀n i:Nat,i+n<d->pC d fun v=>dc t v n i
 |0,i,h=>aef h
 |n+1,i,h=>(OI (t:=t) n i (by omega)).comb (OI n (i+1) (by omega)) (1-t) t
theorem Wc{t lo hi:Rat}(h0:0<=t)(h1:t<=1){v:G}:∀n i:Nat,(∀j,i<=j->j<=i+n->lo<=v j/\v j<=hi)->lo<=dc t v n i/\dc t v n i<=hi
 |0,i,h=>h i (awQ _) (awQ _)
 |n+1,i,h=>by
  have a:=Wc h0 h1 n i fun j a b=>h j a (by omega);have b:=Wc h0 h1 n (i+1) fun j a b=>h j (by omega) (by omega);have h2:0<=1-t:=by grind
  simp only[dc];have q1:=Rat.mul_le_mul_of_nonneg_left a.1 h2;have q2:=Rat.mul_le_mul_of_nonneg_left a.2 h2;have q3:=Rat.mul_le_mul_of_nonneg_left b.1 h0;have q4:=Rat.mul_le_mul_of_nonneg_left b.2 h0;grind
def ic:List (Nat×LF)->Nat->Nat->G->Rat
 |[],_,i,g=>g i
 |p::ls,s,i,g=>p.2 fun j=>ic ls (s*(p.1+1)) (i+j*s) g
def zY:List (Nat×LF)->Nat->Nat
 |[],s=>s
 |p::ls,s=>zY ls (s*(p.1+1))
def OJ(ls:List (Nat×LF)):Prop:=∀p∈ls,pC (p.1+1) p.2
theorem aeg{g1 g2:G}:∀ (ls:List (Nat×LF)),OJ ls->∀s i:Nat,(∀q,q*s+s<=zY ls s->g1 (i+q*s)=g2 (i+q*s))->ic ls s i g1=ic ls s i g2
 |[],_,s,i,h=>by
  have:=h 0 (by grind[zY]);grind[ic]
 |p::ls,ok,s,i,h=>by
  refine(ok p (by simp)).cg fun j hj=>aeg ls (fun q hq=>ok q (by grind)) _ _ fun q hq=>?_;have e:i+j*s+q*(s*(p.1+1))=i+(j+q*(p.1+1))*s:=by grind
  rw[e];refine h _ (awX ?_ hq);have:(j+1)*s<=(p.1+1)*s:=awZ _ hj;grind
theorem M2{c:Nat}{P:LF}(hP:pC c P){g:G}(a:Nat->Nat):∀ (ls:List (Nat×LF)),OJ ls->∀s i:Nat,P (fun j=>ic ls s (i+a j) g)=ic ls s i fun i'=>P fun j=>g (i'+a j)
 |[],_,_,_=>rfl
 |p::ls,ok,s,i=>by
  show P (fun j=>p.2 fun r=>ic ls (s*(p.1+1)) (i+a j+r*s) g)=p.2 fun r=>ic ls (s*(p.1+1)) (i+r*s) _;rw[(ok p (by simp)).swap hP];refine congrArg p.2 (funext fun r=>?_);rw[←M2 hP a ls (fun q hq=>ok q (by grind))];grind
theorem Wd{d:Nat}{P B:LF}(hP:pC (d+1) P)(hB:pC (d+1) B){post:List (Nat×LF)}(op:OJ post){g g':G}:∀ (pre:List (Nat×LF)),OJ pre->∀s i:Nat,i<s->
  (∀i0 q,i0<zY pre s->q*(zY pre s*(d+1))+zY pre s*(d+1)<=zY post (zY pre s*(d+1))->P (fun j=>g (i0+q*(zY pre s*(d+1))+j*zY pre s))=B (fun j=>g' (i0+q*(zY pre s*(d+1))+j*zY pre s)))->
  ic (pre++(d,P)::post) s i g=ic (pre++(d,B)::post) s i g'
 |[],_,s,i,hi,h=>by
  show P (fun j=>ic post (s*(d+1)) (i+j*s) g)=B (fun j=>ic post (s*(d+1)) (i+j*s) g');rw[M2 hP _ post op,M2 hB _ post op];exact aeg post op _ _ fun q hq=>h i q hi hq
 |p::pre,ok,s,i,hi,h=>by
  refine(ok p (by simp)).cg fun j hj=>Wd hP hB op pre (fun q hq=>ok q (by simp[hq])) _ _ ?_ h;have:j*s<=p.1*s:=awZ _ (by omega);grind
theorem Za{lo hi:Rat}{g:G}:∀ (ls:List (Nat×LF)),(∀p∈ls,∀v:G,(∀j,j<=p.1->lo<=v j/\v j<=hi)->lo<=p.2 v/\p.2 v<=hi)->∀s i:Nat,(∀q,q*s+s<=zY ls s->lo<=g (i+q*s)/\g (i+q*s)<=hi)->lo<=ic ls s i g/\ic ls s i g<=hi
 |[],_,s,i,h=>by
  have:=h 0 (by grind[zY]);grind[ic]
 |p::ls,ok,s,i,h=>by
  refine ok p (by simp) _ fun j hj=>Za ls (fun q hq=>ok q (by grind)) _ _ fun q hq=>?_;have e:i+j*s+q*(s*(p.1+1))=i+(j+q*(p.1+1))*s:=by grind
  rw[e];refine h _ (awX ?_ hq);have:j*s<=p.1*s:=awZ _ hj;grind
def ps(op:Nat->G->G)(s n:Nat):Nat->Nat->G->G
 |0,_,g=>g
 |k+1,i,g=>ps op s n k (i+1) (if i/s% (n+1)=0 then op i g else g)
theorem ajn{s n f f' m m':Nat}(hs:0<s)(h1:f/s% (n+1)=0)(h2:f'/s% (n+1)=0)(hm:m<=n)(hm':m'<=n)(e:f+m*s=f'+m'*s):f=f':=by
 have h3:(f+m*s)/s% (n+1)=m:=by
  rw[Nat.add_mul_div_right _ _ hs,Nat.add_mod,h1,awP,Nat.mod_mod,axK (by omega)]
 have h4:(f'+m'*s)/s% (n+1)=m':=by
  rw[Nat.add_mul_div_right _ _ hs,Nat.add_mod,h2,awP,Nat.mod_mod,axK (by omega)]
 grind
theorem aoo{L L':LF}{s n:Nat}(hs:0<s)(cL:pC (n+1) L)(cL':pC (n+1) L'){op:Nat->G->G}(hop:∀f g,(∀a,(∀m,m<=n->a≠f+m*s)->op f g a=g a)/\L (fun m=>g (f+m*s))=L' (fun m=>op f g (f+m*s))):
  ∀ (k i:Nat) (g:G),(∀f m,f<i->f/s% (n+1)=0->m<=n->ps op s n k i g (f+m*s)=g (f+m*s))/\∀f,i<=f->f<i+k->f/s% (n+1)=0->L (fun m=>g (f+m*s))=L' (fun m=>ps op s n k i g (f+m*s)):=by
 intro k;induction k with
 |zero=>exact fun i g=>⟨fun _ _ _ _ _=>rfl,fun f h1 h2=>by omega⟩
 |succ k ih=>
  intro i g;have e:ps op s n (k+1) i g=ps op s n k (i+1) (if i/s% (n+1)=0 then op i g else g):=rfl;rw[e];have hg:∀f m,f≠i->f/s% (n+1)=0->m<=n->(if i/s% (n+1)=0 then op i g else g) (f+m*s)=g (f+m*s):=fun f m hf h0 hm=>by
   grind[ajn]
  have hi:i/s% (n+1)=0->L (fun m=>g (i+m*s))=L' (fun m=>(if i/s% (n+1)=0 then op i g else g) (i+m*s)):=fun h=>by
   simp_all
  generalize(if i/s% (n+1)=0 then op i g else g)=g1 at*
  obtain⟨a,b⟩:=ih (i+1) g1;refine⟨fun f m hf h0 hm=>by rw[a f m (by omega) h0 hm,hg f m (by omega) h0 hm],fun f h1 h2 h0=>?_⟩;by_cases hq:f=i
  ·subst hq;rw[hi h0];exact cL'.cg fun m hm=>(a f m (by omega) h0 (by omega)).symm
  ·rw[←b f (by omega) (by omega) h0];exact cL.cg fun m hm=>(hg f m hq h0 (by omega)).symm
def dl(a:Nat):G:=fun b=>if b=a then 1 else 0
theorem Qp{a c:Rat}{g h:G}:∀ (ls:List (Nat×LF)),OJ ls->∀s i:Nat,ic ls s i (fun b=>a*g b+c*h b)=a*ic ls s i g+c*ic ls s i h
 |[],_,_,_=>rfl
 |p::ls,ok,s,i=>by
  show p.2 (fun j=>ic ls _ (i+j*s) _)=a*p.2 _+c*p.2 _;rw[← (ok p (by simp)).lin];refine congrArg p.2 (funext fun j=>?_);exact Qp ls (fun q hq=>ok q (by grind)) _ _
theorem alX{ls:List (Nat×LF)}(ok:OJ ls){s i a:Nat}{g:G}{y:Rat}:ic ls s i (gs g a y)=ic ls s i g+(y-g a)*ic ls s i (dl a):=by
 have:gs g a y=fun b=>1*g b+(y-g a)*dl a b:=by
  grind[gs,dl]
 rw[this,Qp ls ok];grind
def pz:List Nat->List Rat->List (Nat×LF)
 |d::ds,x::xs=>(d,fun v=>pl x v 0 (d+1))::pz ds xs
 |_,_=>[]
theorem KI:∀ (ds:List Nat) (xs:List Rat),OJ (pz ds xs)
 |d::ds,x::xs=>fun p hp=>by
  rcases List.mem_cons.1 hp with rfl|hp
  ·simp_all[JI]
  ·exact KI ds xs p hp
 |[],_=>fun _ h=>by grind[pz]
 |_::_,[]=>fun _ h=>by grind[pz]
def JJ:List Rat->List Nat->Rat
 |x::xs,e::es=>x^e*JJ xs es
 |_,_=>1
def pos:List Nat->List Nat->Nat->Nat
 |d::ds,e::es,s=>e*s+pos ds es (s*(d+1))
 |_,_,_=>0
def OK:List Nat->List Nat->Prop
 |d::ds,e::es=>e<=d/\OK ds es
 |[],[]=>True
 |_,_=>False
theorem ahO{x y:Rat}{e:Nat}:∀c i:Nat,(e<i->pl x (fun j=>if j=e then y else 0) i c=0)/\(i<=e->e<i+c->pl x (fun j=>if j=e then y else 0) i c=x^ (e-i)*y)
 |0,i=>⟨fun _=>rfl,fun h1 h2=>by omega⟩
 |c+1,i=>by
  obtain⟨a,b⟩:=ahO (x:=x) (y:=y) (e:=e) c (i+1);simp only[pl];constructor
  ·grind
  ·intro h1 h2;by_cases h:i=e
   ·subst h;grind
   ·rw[if_neg h,b (by omega) (by omega),show e-i=e- (i+1)+1 by omega,aDL];grind
theorem ahP{s i i0 j e:Nat}(h1:i<s)(h2:i0<s):i+j*s=i0+e*s↔i=i0/\j=e:=by
 constructor
 ·intro h;have a:(i+j*s) %s=i:=by rw[Nat.add_mul_mod_self_right,axK h1]
  have b:(i0+e*s) %s=i0:=by rw[Nat.add_mul_mod_self_right,axK h2]
  have c:i=i0:=by grind
  subst c;exact⟨rfl,Nat.eq_of_mul_eq_mul_right (by omega) (Nat.add_left_cancel h)⟩
 grind
theorem D7{s i j d:Nat}(h:i<s)(hj:j<=d):i+j*s<s*(d+1):=by
 have:j*s<=d*s:=awZ _ hj;grind
theorem Zb:∀ (ds es:List Nat) (xs:List Rat),OK ds es->xs.length=ds.length->∀s i i0:Nat,i<s->i0<s->ic (pz ds xs) s i (dl (i0+pos ds es s))=if i=i0 then JJ xs es else 0
 |[],[],xs,_,hx,s,i,i0,_,_=>by
  have:xs=[]:=List.length_eq_zero_iff.1 hx;subst this;rfl
 |d::ds,e::es,x::xs,h,hx,s,i,i0,h1,h2=>by
  show pl x (fun j=>ic (pz ds xs) (s*(d+1)) (i+j*s) (dl (i0+(e*s+pos ds es (s*(d+1)))))) 0 (d+1)=_;have hc:=(JI (x:=x) (d:=d+1) (d+1) 0 (by simp)).cg (v:=fun j=>ic (pz ds xs) (s*(d+1)) (i+j*s) (dl (i0+(e*s+pos ds es (s*(d+1)))))) (w:=fun j=>if j=e then(if i=i0 then JJ xs es else 0)else 0) (fun j hj=>by
   rw[←Nat.add_assoc,Zb ds es xs h.2 (by grind) (s*(d+1)) _ _ (D7 h1 (by omega)) (D7 h2 h.1)];grind[ahP])
  rw[hc,(ahO (d+1) 0).2 (by omega) (by have:=h.1;omega)];by_cases ha:i=i0
  ·rw[if_pos ha,if_pos ha];rfl
  grind
 |[],_::_,_,h,_,_,_,_,_,_=>h.elim
 |_::_,[],_,h,_,_,_,_,_,_=>h.elim
 |_::_,_::_,[],_,hx,_,_,_,_,_=>by grind
theorem aeh:∀ (ds es:List Nat) (xs:List Rat),OK ds es->xs.length=ds.length->∀s i0:Nat,i0<s->i0+pos ds es s<zY (pz ds xs) s
 |[],[],xs,_,hx,s,i0,h2=>by
  exact h2
 |d::ds,e::es,x::xs,h,hx,s,i0,h2=>by
  show i0+(e*s+pos ds es (s*(d+1)))<zY (pz ds xs) (s*(d+1));rw[←Nat.add_assoc];exact aeh ds es xs h.2 (by grind) _ _ (D7 h2 h.1)
 |[],_::_,_,h,_,_,_,_=>h.elim
 |_::_,[],_,h,_,_,_,_=>h.elim
 |_::_,_::_,[],_,hx,_,_,_=>by grind
theorem Zc:∀ (ds es es':List Nat),OK ds es->OK ds es'->∀s i i0:Nat,i<s->i0<s->i+pos ds es s=i0+pos ds es' s->i=i0/\es=es'
 |[],[],[],_,_,_,_,_,_,_,h=>⟨h,rfl⟩
 |d::ds,e::es,e'::es',h,h',s,i,i0,h1,h2,hq=>by
  have:i+(e*s+pos ds es (s*(d+1)))=i0+(e'*s+pos ds es' (s*(d+1))):=hq;rw[←Nat.add_assoc,←Nat.add_assoc]at this;obtain⟨a,b⟩:=Zc ds es es' h.2 h'.2 _ _ _ (D7 h1 h.1) (D7 h2 h'.1) this;obtain⟨c,d⟩:=(ahP h1 h2).1 a;exact⟨c,by rw[d,b]⟩
 |[],_::_,_,h,_,_,_,_,_,_,_=>h.elim
 |_::_,[],_,h,_,_,_,_,_,_,_=>h.elim
 |[],[],_::_,_,h,_,_,_,_,_,_=>h.elim
 |_::_,_::_,[],_,h,_,_,_,_,_,_=>h.elim
theorem Qq{y:Rat}(h:0<y):0<y⁻¹:=by
 refine Rat.not_le.1 fun hn=>?_;have:=axT hn (Rat.le_of_lt h);grind
theorem Zd{y z:Rat}(h1:0<y)(h2:y<=z):z⁻¹<=y⁻¹:=by
 have a:=Qq h1;have b:=Qq (show 0<z by grind);have c:=axT (axT h2 (Rat.le_of_lt a)) (Rat.le_of_lt b);rw[show y*y⁻¹*z⁻¹=z⁻¹ by grind,show z*y⁻¹*z⁻¹=y⁻¹ by grind]at c;omega
theorem aei{y z:Rat}(h:0<y/\y<=z\/y<=z/\z<0):z⁻¹<=y⁻¹:=by
 rcases h with⟨h1,h2⟩| ⟨h2,h1⟩
 ·grind[Zd]
 ·have:=Zd (y:=-z) (z:=-y) (by grind) (by grind);grind
theorem tO{d:Rd}:(d.neg=true->zI d=-(mg d:Int))/\(d.neg=false->zI d=mg d):=by
 simp_all[zI,if_pos]
theorem alY{a b:Rd}{p:Int}{w:Bool}{N:Nat}(hN:N=16384)(oa:Ok0 a)(ob:Ok0 b)(va:vd a=true)(vb:vd b=true)(hp:8<=p/\p<=512)(a0:a.m.length≠0)(b0:b.m.length≠0)
  (h:(cB (ab a.m*2^wD a b p/ab b.m) (a.e-wD a b p-b.e) (decide (ab a.m*2^wD a b p%ab b.m≠0)) p w).2=0):
  ∃n:Nat,zI (cB (ab a.m*2^wD a b p/ab b.m) (a.e-wD a b p-b.e) (decide (ab a.m*2^wD a b p%ab b.m≠0)) p w).1=n/\(w=true->mg a*2^N<=n*mg b)/\(w=false->n*mg b<=mg a*2^N):=by
 obtain⟨a1,a2,a3,a4⟩:=dM va oa.lb;obtain⟨b1,b2,b3,b4⟩:=dM vb ob.lb;have hA:=dh va a0;have hB:=dh vb b0;have hk:wD a b p=(p+3+af (ab b.m)-af (ab a.m)).toNat:=rfl;generalize wD a b p=k at*
 have hm2:=dq k hA;have hbM:p< (af (ab a.m*2^k/ab b.m):Nat):=by
  have h1:2^ (af (ab a.m*2^k)-1)<=ab a.m*2^k:=Qg (by omega);have h2:ab b.m<2^af (ab b.m):=bK.1 (awQ _);have h3:2^p.toNat*ab b.m<=ab a.m*2^k:=by
   refine awX (axW _ (Nat.le_of_lt h2)) (awX ?_ h1);rw[←axa];exact axC (by decide) (by omega)
  have h4:2^p.toNat<=ab a.m*2^k/ab b.m:=(Nat.le_div_iff_mul_le (Nat.pos_of_ne_zero hB)).2 h3;have h5:=jy.2 h4;omega
 have hdm:=axS (ab a.m*2^k) (ab b.m);have hml:=axq (ab a.m*2^k) (Nat.pos_of_ne_zero hB);generalize ab a.m*2^k/ab b.m=M at*
 generalize hR:ab a.m*2^k%ab b.m=R at*
 obtain⟨n,n1,n2,n3⟩:=HB (s:=(a.e+16384).toNat+N) (t:=k+(b.e+16384).toNat) (fun h0=>by grind[pe]) hp (by omega) (fun _=>hbM) h;refine⟨n,n1,fun hw=>?_,fun hw=>?_⟩
 ·have g:=n2 hw;have h1:ab a.m*2^k<=(M+(decide (R≠0)).toNat)*ab b.m:=by
   rw[←hdm,axk,axf M];by_cases h0:R=0
   all_goals grind
  refine Nat.le_of_mul_le_mul_right ?_ (axb k);have h2:=awZ (2^ ((a.e+16384).toNat+N)) h1;have h3:=awZ (ab b.m) g;unfold mg;grind
 ·have g:=n3 hw;have h1:M*ab b.m<=ab a.m*2^k:=by
   grind
  refine Nat.le_of_mul_le_mul_right ?_ (axb k);have h2:=awZ (2^ ((a.e+16384).toNat+N)) h1;have h3:=awZ (ab b.m) g;unfold mg;grind
theorem RP{A B n:Nat}(k:Nat)(hB:0<B):(A*2^k<=n*B->(A:Rat)*(B:Rat)⁻¹<=n*eQ k)/\(n*B<=A*2^k->(n:Rat)*eQ k<=(A:Rat)*(B:Rat)⁻¹):=by
 have hb:(0:Rat)<B:=by exact_mod_cast hB
 have hi:=Qq hb;have hk:=Wa k;have hm:=JG k;have e1:((A*2^k:Nat):Rat)=A*pQ k:=by
  simp_all[pQ,Rat.natCast_mul,Rat.natCast_pow,Rat.intCast_pow]
 have e2:((n*B:Nat):Rat)=n*B:=Rat.natCast_mul _ _;have r1:(A:Rat)*(B:Rat)⁻¹=A*pQ k*(eQ k*(B:Rat)⁻¹):=by grind
 have r2:(n:Rat)*eQ k=n*B*(eQ k*(B:Rat)⁻¹):=by grind
 have hc:0<=eQ k*(B:Rat)⁻¹:=Rat.mul_nonneg (Rat.le_of_lt hk) (Rat.le_of_lt hi);rw[r1,r2,←e1,←e2];exact⟨fun h=>axT (by exact_mod_cast h) hc,fun h=>axT (by exact_mod_cast h) hc⟩
theorem aej{a b:Rd}{p:Int}{up:Bool}(va:vd a=true/\Ok0 a)(vb:vd b=true/\Ok0 b)(hb:qv b≠0)(hp:bJ p=true)(h:(rP a b p up).2=0):(up=true->qv a*(qv b)⁻¹<=qv (rP a b p up).1)/\(up=false->qv (rP a b p up).1<=qv a*(qv b)⁻¹):=by
 unfold rP at h⊢;rw[if_pos (OF va.1 vb.1 hp)]at h⊢;have b0:b.m.length≠0:=fun h0=>hb (by grind);rw[if_neg b0]at h⊢;by_cases a0:a.m.length=0
 ·rw[if_pos a0,HC]
  simp_all[qv,cF]
 rw[if_neg a0]at h⊢;obtain⟨N,hN⟩:∃N:Nat,N=16384:=⟨_,rfl⟩;have hcut:=fun w hw=>alY (w:=w) hN va.2 vb.2 va.1 vb.1 (zN hp) a0 b0 hw;have hmb:=Gm vb.1 b0;have hE:=Gv;generalize hc:cB (ab a.m*2^wD a b p/ab b.m) (a.e-wD a b p-b.e) (decide (ab a.m*2^wD a b p%ab b.m≠0)) p=c at*
 have hvc:∀w,vd (c w).1=true:=fun w=>by rw[←hc];exact Qh
 have hq:qv a*(qv b)⁻¹=if(a.neg !=b.neg)=true then-((mg a:Rat)*(mg b:Rat)⁻¹)else(mg a:Rat)*(mg b:Rat)⁻¹:=by
  unfold qv;have i1:((-(mg a:Int):Int):Rat)=-(mg a:Rat):=by rfl
  have i2:((-(mg b:Int):Int):Rat)=-(mg b:Rat):=by rfl
  have i3:((mg a:Int):Rat)=(mg a:Rat):=rfl;have i4:((mg b:Int):Rat)=(mg b:Rat):=rfl;cases ha:a.neg<;>cases hb:b.neg
  ·rw[tO.2 ha,tO.2 hb,i3,i4,if_neg (by decide)];grind
  ·rw[tO.2 ha,tO.1 hb,i3,i2,if_pos (by decide)];grind
  ·rw[tO.1 ha,tO.2 hb,i1,i4,if_pos (by decide)];grind
  ·rw[tO.1 ha,tO.1 hb,i1,i2,if_neg (by decide)];grind
 rw[hq];generalize(a.neg !=b.neg)=sg at*
 unfold gL at h⊢;cases sg with
 |true=>
  have h2:(c (up !=true)).2=0:=by
   grind
  rw[if_pos (show(c (up !=true)).2=0/\true=true from⟨h2,rfl⟩),if_pos (show true=true from rfl)];obtain⟨n,n1,n2,n3⟩:=hcut _ h2;rw[(Gx (hvc _)).1];have e:qv (c (up !=true)).1=(n:Rat)*eQ N:=by unfold qv;rw[n1,hN];rfl
  grind[RP,mg]
 |false=>
  have hn:¬((c (up !=false)).2=0/\false=true):=fun h1=>awW h1.2;rw[if_neg hn]at h;obtain⟨n,n1,n2,n3⟩:=hcut _ h;have e:qv (c (up !=false)).1=(n:Rat)*eQ N:=by unfold qv;rw[n1,hN];rfl
  grind[RP,mg]
theorem HF{d:Rd}(h:vd d=true):(0<cO d↔0<qv d)/\(cO d<0↔qv d<0):=by
 have hE:=Gv;unfold cO;by_cases h0:d.m.length=0
 ·simp_all[qv,cF,if_pos]
 ·have hm:=Gm h h0;have hq:(0:Rat)< (mg d:Rat)*EQ:=Rat.mul_pos (by exact_mod_cast hm) hE;cases hn:d.neg with
  |true=>
   have:qv d=-((mg d:Rat)*EQ):=by unfold qv;rw[tO.1 hn,Rat.intCast_neg,Rat.intCast_natCast];grind
   grind
  |false=>
   have:qv d=(mg d:Rat)*EQ:=by unfold qv;rw[tO.2 hn];rfl
   grind
theorem Ze{x y:Ri}{a b:Rat}{p:Int}(hx:In a x)(hy:In b y):In (a/b) (Ql x y p):=by
 unfold Ql;split
 ·next h=>
  simp only[awS]at h;obtain⟨⟨kx,ky⟩,hp⟩:=h;rcases hx.k with⟨rfl,h⟩| ⟨_,x1,x2⟩
  ·grind
  rcases hy.k with⟨rfl,h⟩| ⟨_,y1,y2⟩
  ·grind
  split
  ·exact Or.inl rfl
  ·next hs=>
   have hpr:∀i,((gb x y i).1=x.lo\/(gb x y i).1=x.hi)/\((gb x y i).2=y.lo\/(gb x y i).2=y.hi):=fun i=>by
    unfold gb;grind
   have hsg:0<qv y.lo\/qv y.hi<0:=by
    unfold Jt at hs;by_cases g1:0<cO y.lo
    ·exact Or.inl ((HF hy.vi.1.1).1.1 g1)
    ·by_cases g2:cO y.hi<0
     ·exact Or.inr ((HF hy.vi.2.1).2.1 g2)
     omega
   have hv:∀i,(vd (gb x y i).1=true/\Ok0 (gb x y i).1)/\(vd (gb x y i).2=true/\Ok0 (gb x y i).2)/\qv (gb x y i).2≠0:=fun i=>by
    obtain⟨h1,h2⟩:=hpr i;refine⟨?_,?_,?_⟩
    ·rcases h1 with h1|h1<;>rw[h1]
     ·exact hx.vi.1
     ·exact hx.vi.2
    ·rcases h2 with h1|h1<;>rw[h1]
     ·exact hy.vi.1
     ·exact hy.vi.2
    grind
   refine Y7 (dn:=fun a b=>rP a b p false) (up:=fun a b=>rP a b p true) (v:=fun i=>qv (gb x y i).1*(qv (gb x y i).2)⁻¹) (fun _ _=>KF) (fun _ _=>KF) (fun i _ h=>(aej (hv i).1 (hv i).2.1 (hv i).2.2 hp h).2 rfl) (fun i _ h=>(aej (hv i).1 (hv i).2.1 (hv i).2.2 hp h).1 rfl) fun lo hi h=>?_;have i1:(qv y.hi)⁻¹<=b⁻¹:=aei (by grind);have i2:b⁻¹<=(qv y.lo)⁻¹:=aei (by grind);exact Y8 x1 x2 i1 i2 (h 1 (by decide)) (h 0 (by decide)) (h 3 (by decide)) (h 2 (by decide))
 ·exact Or.inl rfl
theorem aek{z p:Int}{j:Nat}{up:Bool}(hp:8<=p/\p<=512)(hz:0<=z)(h:(jj z (-16384- (j:Int)) p up).2=0):0<=zI (jj z (-16384- (j:Int)) p up).1:=by
 unfold jj at h⊢;by_cases h0:z=0
 ·rw[if_pos h0,cF rfl];omega
 ·rw[if_neg h0,decide_eq_false (by omega)]at h⊢;unfold gL at h⊢;rw[if_neg (fun h1=>awW h1.2)]at h⊢;obtain⟨n,g1,_⟩:=HB (s:=0) (t:=j) (by omega) hp (by omega) (fun h=>absurd h awW) h;omega
theorem abI{d:Rd}:0<=qv d↔0<=zI d:=by
 rw[←HC,zM,cF rfl]
theorem alZ{d:Rd}{p:Int}{up:Bool}(v:vd d=true)(hp:bJ p=true)(h:(bZ d p up).2=0):(0<=qv d->0<=qv (bZ d p up).1)/\(up=true->qv d<=qv (bZ d p up).1)/\(up=false->qv (bZ d p up).1<=qv d):=by
 refine⟨fun hd=>?_,?_,?_⟩
 ·rw[abI]at hd⊢;have hp2:=zN hp;have hf:aY p [d]=0:=by grind[aY]
  unfold bZ at h⊢;rw[if_pos hf]at h⊢;exact aek (j:=0) hp2 hd h
 ·rintro rfl
  exact zM.2 (aje v hp h)
 ·rintro rfl
  exact zM.2 (ajd v hp h)
theorem ajo{a b:Rd}{p:Int}{up:Bool}(ha:vd a=true)(hb:vd b=true)(hp:bJ p=true)(h1:0<=qv a)(h2:0<=qv b)(h:(fF a b p up).2=0):0<=qv (fF a b p up).1:=by
 rw[abI]at*
 unfold fF at h⊢;rw[if_pos (OF ha hb hp)]at h⊢;exact aek (j:=16384) (zN hp) (Int.mul_nonneg h1 h2) h
theorem JK{d:Rd}{p:Int}{up:Bool}:vd (bZ d p up).1=true/\Ok0 (bZ d p up).1:=by
 grind[bZ,sK,aU]
theorem JL{a b:Rd}{p:Int}{up:Bool}:vd (fF a b p up).1=true/\Ok0 (fF a b p up).1:=by
 grind[fF,sK,aU]
theorem Tq{d:Rd}{p:Int}{up:Bool}:∀ (k:Nat) (r:Rd×Int),(vd r.1=true/\Ok0 r.1)->vd (mq d p up k r).1=true/\Ok0 (mq d p up k r).1
 |0,_,h=>h
 |k+1,r,h=>by
  unfold mq;split
  ·exact Tq k _ JL
  ·exact h
theorem ahQ{d:Rd}{p:Int}{up:Bool}(v:vd d=true)(hp:bJ p=true)(h0:0<=qv d):∀ (k m:Nat) (r:Rd×Int),vd r.1=true->(r.2=0->0<=qv r.1/\(up=true->qv d^m<=qv r.1)/\(up=false->qv r.1<=qv d^m))->(mq d p up k r).2=0->
  (up=true->qv d^ (m+k)<=qv (mq d p up k r).1)/\(up=false->qv (mq d p up k r).1<=qv d^ (m+k))
 |0,m,r,_,h,he=>(h he).2
 |k+1,m,r,vr,h,he=>by
  unfold mq at he⊢;by_cases hr:r.2=0
  ·rw[if_pos hr]at he⊢;obtain⟨a,b,c⟩:=h hr;rw[show m+(k+1)=m+1+k by omega];refine ahQ v hp h0 k (m+1) _ JL.1 (fun hm=>⟨ajo vr v hp a h0 hm,fun hu=>?_,fun hu=>?_⟩) he
   ·have h1:=(OH vr v hp hm).1 hu;have h2:=axT (b hu) h0;grind[aDL,aDM]
   grind[OH,axT,aDL,aDM]
  grind
theorem al0{d:Rd}{p:Int}{up:Bool}{n:Nat}(v:vd d=true)(hp:bJ p=true)(h0:0<=qv d)(hn:1<=n)(he:(pw d n p up).2=0):(up=true->qv d^n<=qv (pw d n p up).1)/\(up=false->qv (pw d n p up).1<=qv d^n):=by
 have:=ahQ v hp h0 (n-1) 1 (bZ d p up) JK.1 (fun h=>by
  grind[alZ,qv]) he
 rw[show 1+(n-1)=n by omega]at this;exact this
theorem Be{x:Rat}:∀n:Nat,(-x)^ (2*n+1)=-(x^ (2*n+1))
 |0=>by grind
 |n+1=>by
  have:=Be (x:=x) n;grind
theorem JM{x:Rat}:∀n:Nat,(-x)^ (2*n)=x^ (2*n)
 |0=>by grind
 |n+1=>by
  have:=JM (x:=x) n;grind
theorem OL{x:Rat}(h:0<=x):∀n:Nat,0<=x^n
 |0=>by grind
 |n+1=>by rw[aDL];exact Rat.mul_nonneg (OL h n) h
theorem JN{x y:Rat}(h:0<=x)(h1:x<=y):∀n:Nat,x^n<=y^n
 |0=>by grind
 |n+1=>by
  rw[aDL,aDL];have a:=axT (JN h h1 n) h;have b:=Rat.mul_le_mul_of_nonneg_left h1 (OL (aDM h h1) n);exact aDM a b
theorem abJ{x y:Rat}(h1:x<=y)(n:Nat):x^ (2*n+1)<=y^ (2*n+1):=by
 by_cases hx:0<=x
 ·grind[JN]
 ·by_cases hy:0<=y
  ·have a:=OL (show 0≤-x by grind) (2*n+1);grind[OL,Be]
  ·have:=JN (x:=-y) (y:=-x) (by grind) (by grind) (2*n+1);grind[Be]
theorem al1{d:Rd}(v:vd d=true):sS d<0↔qv d<0:=by
 rw[← (HF v).2];grind[sS,cO]
theorem OM{d:Rd}{p:Int}{up:Bool}{n:Nat}(v:vd d=true)(hp:bJ p=true)(hn:1<=n)(ho:n%2=1\/0<=qv d)(he:(qI d n p up).2=0):(up=true->qv d^n<=qv (qI d n p up).1)/\(up=false->qv (qI d n p up).1<=qv d^n):=by
 unfold qI at he⊢;by_cases hs:sS d<0
 ·rw[if_pos hs]at he⊢;have hq:=(al1 v).1 hs;obtain⟨n1,n2⟩:=Gx v;have hodd:n=2*(n/2)+1:=by
   grind
  have hw:=al0 n2 hp (by grind) hn he;grind[vd,pw,gJ,Tq,JK,qv,Gx,Be]
 ·rw[if_neg hs]at he⊢;exact al0 v hp (Rat.not_lt.1 fun h=>hs ((al1 v).2 h)) hn he
theorem ael{d:Rd}(v:vd d=true)(ok:Ok0 d):(vd (rM d)=true/\Ok0 (rM d))/\0<=qv (rM d)/\(qv (rM d)=qv d\/qv (rM d)=-qv d):=by
 unfold rM;by_cases h0:d.m.length=0
 ·rw[if_pos (Or.inr h0),HC]
  simp_all[qv,cF,aU,Rat.le_refl]
 ·rw[if_neg (by grind)];have hm:mg ⟨false,d.m,d.e⟩=mg d:=rfl;have h1:zI ⟨false,d.m,d.e⟩=mg d:=by rw[tO.2 rfl,hm]
  refine⟨⟨?_,ok.1,ok.2⟩,?_,?_⟩
  ·simp_all[vd,if_neg]
  ·grind[abI]
  ·unfold qv;rw[h1];cases hn:d.neg with
   |true=>
    rw[tO.1 hn,Rat.intCast_neg];grind
   |false=>
    left;rw[tO.2 hn]
theorem ajp{x:Ri}{a b:Rat}(hx:In a x)(hb:0<=b)(hab:b=a\/b=-a):In b (tj x)/\(kI x=true->0<=qv (tj x).lo/\(tj x).all=false):=by
 unfold tj;by_cases h:kI x=true
 ·rw[if_pos h];rcases hx.k with⟨rfl,h1⟩| ⟨_,x1,x2⟩
  ·grind
  obtain⟨l1,l2,l3⟩:=ael hx.vi.1.1 hx.vi.1.2;obtain⟨h1,h2,h3⟩:=ael hx.vi.2.1 hx.vi.2.2;obtain⟨m1,m2,m3,m4,m5⟩:=Qo l1 h1;obtain⟨n1,n2,n3,n4,n5⟩:=Qn l1 h1;have hmag:b<=qv (Hv x):=by
   grind[Hv]
  have hmig:(vd (AJ x)=true/\Ok0 (AJ x))/\0<=qv (AJ x)/\qv (AJ x)<=b:=by
   unfold AJ;split
   ·grind[HC,aU,Rat.le_refl]
   ·next hs=>
    have hsg:0<qv x.lo\/qv x.hi<0:=by
     unfold Jt at hs;by_cases g1:0<cO x.lo
     ·exact Or.inl ((HF hx.vi.1.1).1.1 g1)
     ·by_cases g2:cO x.hi<0
      ·exact Or.inr ((HF hx.vi.2.1).2.1 g2)
      omega
    grind
  exact⟨Or.inr ⟨rfl,⟨hmig.1,⟨m3,m4⟩⟩,hmig.2.2,hmag⟩,fun _=>⟨hmig.2.1,rfl⟩⟩
 ·rw[if_neg h];exact⟨Or.inl rfl,fun hk=>absurd hk h⟩
theorem JO:qv one=1:=by
 obtain⟨N,hN⟩:∃N:Nat,N=16384:=⟨_,rfl⟩;have hm:mg one=2^N:=by
  unfold mg;rw[show(one.e+16384).toNat=N by rw[hN];rfl];exact Nat.one_mul _
 unfold qv EQ;rw[tO.2 rfl,hm,←hN,show(((2^N:Nat):Int):Rat)=pQ N by grind[pQ,Int.natCast_pow]];grind[JG]
theorem ON{d:Rd}{p:Int}{up:Bool}{n:Nat}:vd (qI d n p up).1=true/\Ok0 (qI d n p up).1:=by
 grind[qI,vd,pw,Tq,JK,Gx,vQ]
theorem KJ{x:Ri}{a:Rat}{n:Nat}{p:Int}(hx:In a x):In (a^n) (DW x n p):=by
 unfold DW;split
 ·next h=>
  simp only[awS]at h;obtain⟨⟨kx,hp⟩,_⟩:=h;split
  ·next h0=>
   subst h0;rw[Rat.pow_zero,←JO];exact rQ eX.1 eX.2
  ·next h0=>
   by_cases he:n%2=0
   ·rw[if_pos he];obtain⟨b,hb,hab⟩:∃b:Rat,0<=b/\(b=a\/b=-a):=by
     grind
    obtain⟨h1,h2⟩:=ajp hx hb hab;obtain⟨g1,g2⟩:=h2 kx;have hpw:a^n=b^n:=by
     rcases hab with rfl|rfl
     ·rfl
     ·rw[show n=2*(n/2)by omega,JM]
    rw[hpw];rcases h1 with hW| ⟨_,hv,y1,y2⟩
    ·rw[hW]at g2;exact absurd g2 (by decide)
    refine Tp ON ON (fun h=>?_) (fun h=>?_)
    ·exact aDM ((OM hv.1.1 hp (by omega) (Or.inr g1) h).2 rfl) (JN g1 y1 n)
    ·exact aDM (JN (aDM g1 y1) y2 n) ((OM hv.2.1 hp (by omega) (Or.inr (aDM g1 (aDM y1 y2))) h).1 rfl)
   ·rw[if_neg he];rcases hx.k with⟨rfl,h1⟩| ⟨_,x1,x2⟩
    ·grind
    have ho:n=2*(n/2)+1:=by omega
    have le:∀ {x y:Rat},x<=y->x^n<=y^n:=fun h=>by
     grind[abJ]
    refine Tp ON ON (fun h=>?_) (fun h=>?_)
    ·exact aDM ((OM hx.vi.1.1 hp (by omega) (Or.inl (by omega)) h).2 rfl) (le x1)
    ·exact aDM (le x2) ((OM hx.vi.2.1 hp (by omega) (Or.inl (by omega)) h).1 rfl)
 ·exact Or.inl rfl
theorem Zf{x:Rat}{m:Nat}:∀n:Nat,x^m*x^n=x^ (m+n)
 |0=>by grind
 |n+1=>by rw[aDL,←Rat.mul_assoc,Zf n,←Nat.add_assoc,aDL]
theorem ajq{x:Ri}{a:Rat}{n:Nat}{p:Int}(hx:In a x):In (a^n) (Cc x n p):=by
 unfold Cc;split
 ·exact KJ hx
 ·have:=n8 (p:=p) (KJ (n:=16) (p:=p) hx) (KJ (n:=n-16) (p:=p) hx);grind[Zf]
def InL:List Rat->List Ri->Prop
 |x::xs,d::ds=>In x d/\InL xs ds
 |[],[]=>True
 |_,_=>False
def D8(es:List Int):List Nat:=es.map Int.toNat
def fv(xs:List Rat):List Rt->Rat
 |[]=>0
 |t::l=>qv t.c*JJ xs (D8 t.exps)+fv xs l
theorem aen{p:Int}:∀ (xs:List Rat) (ds:List Ri) (es:List Int) (x:Ri) (q:Rat),InL xs ds->ds.length=es.length->In q x->In (q*JJ xs (D8 es)) (Ii p ds es x)
 |[],[],[],x,q,_,_,h=>by
  show In (q*1) x;grind
 |y::xs,d::ds,e::es,x,q,hl,hd,h=>by
  show In (q*(y^e.toNat*JJ xs (D8 es))) (Ii p ds es (if 0<e then ce x (Cc d e.toNat p) p else x));rw[←Rat.mul_assoc];refine aen xs ds es _ _ hl.2 (by grind) ?_;split
  ·exact n8 h (ajq hl.1)
  ·rw[show e.toNat=0 by omega,Rat.pow_zero,Rat.mul_one];omega
 |[],_::_,_,_,_,hl,_,_=>hl.elim
 |_::_,[],_,_,_,hl,_,_=>hl.elim
 |_::_,_::_,[],_,_,_,hd,_=>by grind
 |[],[],_::_,_,_,_,hd,_=>by grind
theorem aeo{p:Int}{xs:List Rat}{dom:List Ri}(hl:InL xs dom):∀ (l:List Rt) (s:Ri) (q:Rat),(∀t∈l,vd t.c=true/\Ok0 t.c/\dom.length=t.exps.length)->In q s->In (q+fv xs l) (Ou p dom l s)
 |[],s,q,_,h=>by
  show In (q+0) s;grind
 |t::l,s,q,ht,h=>by
  obtain⟨a,b,c⟩:=ht t (by simp);show In (q+(qv t.c*JJ xs (D8 t.exps)+fv xs l)) _;rw[←Rat.add_assoc];exact aeo hl l _ _ (fun u hu=>ht u (by simp[hu])) (n7 h (aen xs dom _ _ _ hl c (rQ a b)))
theorem JP{a:Rp}{dom:List Ri}{xs:List Rat}{p:Int}(oa:OkP a)(hl:InL xs dom):In (fv xs a.terms) (pg a dom p):=by
 unfold pg;split
 ·next h=>
  unfold ni at h;simp only[awS,decide_eq_true_eq]at h;obtain⟨⟨hv,hd,_⟩,_⟩:=h;unfold vp at hv;simp only[awS,decide_eq_true_eq]at hv;have:=aeo (p:=p) hl a.terms ⟨aI,aI,false⟩ 0 (fun t ht=>by
   have h1:=zH (Ks _ _ hv.2.2.2 t ht);exact⟨h1.2.1,(oa.t t ht).c,by omega⟩) (by rw[←HC];exact rQ aU.1 aU.2)
  grind
 ·exact Or.inl rfl
def intD(e:Int):Rd:=bm false e.natAbs 0
theorem ajr{e:Int}(h1:1<=e)(h2:e<=32):Ok0 (intD e)/\vd (intD e)=true/\(intD e).m.length≠0:=by
 have hn:e.natAbs≠0:=by omega
 have hb:af e.natAbs<=6:=bK.2 (by
  omega)
 have hc:=DU (neg:=false) (M:=e.natAbs) (e:=0) (by omega) (by decide) (by omega);have ho:=yj (z:=e) (f:=0);have hcan:cM e 0=bm false e.natAbs 0:=by
  grind[cM,decide_eq_false]
 rw[hcan,hc]at ho;refine⟨ho.2,ho.1,fun h=>?_⟩;obtain⟨q1,_,q3,_⟩:=rL (neg:=false) (e:=0) hn;have h0:(bm false e.natAbs 0).m=[]:=List.length_eq_zero_iff.1 h;grind[ab]
def dec(l:List Int)(i:Nat):List Int:=l.set i (l.getD i 0-1)
theorem Zh:∀ {l:List Int} {i:Nat},i<l.length->bh (dec l i)=bh l-1
 |x::l,0,_=>by
  show(x-1)+bh l=(x+bh l)-1;omega
 |x::l,i+1,h=>by
  have ih:=Zh (l:=l) (i:=i) (by simpa using h);show x+bh (dec l i)=(x+bh l)-1;omega
theorem agT{x:Int}(h1:0<=x)(h2:x<=32):R F.r02_Int [I x] []=some (ae (intD x),[]):=by
 refine ax acM rfl ?_;obtain⟨n,rfl⟩:=ax5 h1;have h:=Ov (neg:=false) (m:=[n,0]) (e:=0) (fun y hy=>by
  grind) (by grind) ⟨by decide,by decide⟩
 have h3:R F.r02_Of [B false,.sl 1 [[U (n:Int)],[U 0]],I 0] []=some (ae (intD (n:Int)),[]):=h;have w1:IntKind.u64.wrap (n:Int)=(n:Int):=dE (by omega) (by omega);have w2:=BG (n:=n) (i:=n) rfl (by omega);have w3:=pR (n:=n) (i:=n) (k:=32) (kk:=.u64) (j:=32) rfl rfl (by omega);rw[show n%4294967296=n by omega]at w2;rw[show n/2^32=0 by omega]at w3;have w4:IntKind.u32.wrap (n:Int)=(n:Int):=BB rfl (by omega);have w5:IntKind.u32.wrap ((0:Nat):Int)=0:=rfl;have e1:((n:Int)<0)=False:=ff;simp only[G5,Rc,ae,ah,go_sem,e1,w1,w2,w3,w4,w5,h3]
theorem ColE.nil{v:Int}{l:List Rt}{c:AV}{e:Int}(hc:nj c l)(he:e=0\/e=9):ColE v l [] e c l e:=by
 refine⟨hc,?_⟩;rcases he with rfl|rfl
 ·exact .inl ⟨rfl,rfl,rfl⟩
 ·exact .inr ⟨rfl,fun h=>by omega⟩
structure Bf (v:Int) (l A:List Rt):Prop where
 cl:Cl v l
 lt:∀q∈l,∀t∈A,bO q.exps t.exps<0
theorem Bf.nil{v:Int}(A:List Rt):Bf v [] A:=⟨Cl.nil _,fun q h=>by grind⟩
theorem Bf.drop{v:Int}{l A:List Rt}{t:Rt}(h:Bf v l (t::A)):Bf v l A:=⟨h.cl,fun q hq x hx=>h.lt q hq x (by grind)⟩
theorem Cl.tail{v:Int}{l:List Rt}{t:Rt}(h:Cl v (t::l)):Cl v l:=⟨fun q hq=>h.t q (by grind),(List.pairwise_cons.1 h.s).2⟩
theorem Cl.head{v:Int}{l:List Rt}{t:Rt}(h:Cl v (t::l)):VT v t:=h.t t (by simp)
theorem Bf.push{v:Int}{l A:List Rt}{t:Rt}{d:Rd}(h:Bf v l (t::A))(hA:Cl v (t::A))(vt:VT v ⟨t.exps,d⟩):Bf v (l++[⟨t.exps,d⟩]) A:=by
 refine⟨⟨fun q hq=>?_,?_⟩,fun q hq x hx=>?_⟩
 ·rcases List.mem_append.1 hq with h1|h1
  ·exact h.cl.t q h1
  grind
 ·rw[List.pairwise_append];refine⟨h.cl.s,List.pairwise_singleton _ _,fun q hq x hx=>?_⟩;rw[List.mem_singleton.1 hx];exact h.lt q hq t (by simp)
 ·rcases List.mem_append.1 hq with h1|h1
  ·exact h.lt q h1 x (by grind)
  ·rw[List.mem_singleton.1 h1];exact(List.pairwise_cons.1 hA.s).1 x hx
theorem Cl.dropN{v:Int}:∀ {l:List Rt} (i:Nat),Cl v l->Cl v (l.drop i)
 |l,0,h=>h
 |[],_+1,h=>h
 |_::l,i+1,h=>Cl.dropN i h.tail
theorem D9{v v':Int}{l A:List Rt}{t:Rt}{d:Rd}{c:AV}(h:Bf v l (t::A))(vt:VT v ⟨t.exps,d⟩)(hl:l.length<=1000000)(hc:nj c l):
  ∃c1,R F.poly_collector_add [.ref 1000 none 0 0 0,.sl 1 (aS t.exps),ae d] [t3 v' c 0]=some (.tup [],[t3 v' c1 0])/\nj c1 (l++[⟨t.exps,d⟩]):=by
 obtain⟨c1,l1,e1,g1,g2,g3⟩:=Qe (v':=v') h.cl vt hl hc;have he:rN l ⟨t.exps,d⟩=some (l++[⟨t.exps,d⟩]):=MU fun q hq=>h.lt q hq t (by simp);grind
def LQ(o:Int)(t:Rt):Bool:=decide (bh t.exps<=o)
def JQ(o:Int)(t:Rt):Bool:=!decide (bh t.exps<=o)
def cP(a:Rp)(o:Int):Rp×Rp:=if vp a=true then(⟨a.vars,a.terms.filter (LQ o)⟩,⟨a.vars,a.terms.filter (JQ o)⟩)else(p0,p0)
def Ea(blk:Option (Ex×St))(i1 i2:Nat)(S:ak)(v':Int)(l1 l2 r1 r2:List Rt):Prop:=
 ∃hh c1 c2,blk=some (.normal,⟨S,hh⟩)/\hh 4=.bx [I 0,.emp]/\hh 5=.bx [I 0,.emp]/\hh i1=t3 v' c1 0/\hh i2=t3 v' c2 0/\nj c1 (l1++r1)/\nj c2 (l2++r2)
theorem Ea.p1{blk:Option (Ex×St)}{i1 i2:Nat}{S:ak}{v':Int}{l1 l2 r1 r2:List Rt}{t:Rt}(h:Ea blk i1 i2 S v' (l1++[t]) l2 r1 r2):Ea blk i1 i2 S v' l1 l2 (t::r1) r2:=by
 obtain⟨hh,c1,c2,h1,h2,h3,h4,h5,h6,h7⟩:=h;exact⟨hh,c1,c2,h1,h2,h3,h4,h5,by rwa[List.append_cons],h7⟩
theorem Ea.p2{blk:Option (Ex×St)}{i1 i2:Nat}{S:ak}{v':Int}{l1 l2 r1 r2:List Rt}{t:Rt}(h:Ea blk i1 i2 S v' l1 (l2++[t]) r1 r2):Ea blk i1 i2 S v' l1 l2 r1 (t::r2):=by
 obtain⟨hh,c1,c2,h1,h2,h3,h4,h5,h6,h7⟩:=h;exact⟨hh,c1,c2,h1,h2,h3,h4,h5,h6,by rwa[List.append_cons]⟩
theorem agV{v v' o:Int}{A:List Rt}(hA:Cl v A)(hn:A.length<=100000){o2:Ob}(k2c:∀ids,aC ids o2=true):
  ∀ (k i:Nat),i+k=A.length->∀ (c1 c2:AV) (l1 l2:List Rt),nj c1 l1->nj c2 l2->Bf v l1 (A.drop i)->Bf v l2 (A.drop i)->l1.length+k<=1000000->l2.length+k<=1000000->∀ (s:ak) (h:ac),s 1=I o->s 4=.ref 4 none 0 0 0->s 5=.ref 5 none 0 0 0->s 6=.ref 2136 none 0 0 0->s 7=.ref 2160 none 0 0 0->s 22=.sl 4 (aH A)->s 23=I A.length->s 24=I i->h 2=o2->h 4=.bx [I 0,.emp]->h 5=.bx [I 0,.emp]->h 2136=t3 v' c1 0->h 2160=t3 v' c2 0->
  Ea (aj 0 [4,5,6,7] (au (ai R (az false) kU) [1,4,5,6,7,22,23,24] [2,4,5,2136,2160] s h)) 2136 2160 (upd (upd (upd (upd (fun _=>.any) 7 (.ref 2160 none 0 0 0)) 6 (.ref 2136 none 0 0 0)) 5 (.ref 5 none 0 0 0)) 4 (.ref 4 none 0 0 0)) v' l1 l2 ((A.drop i).filter (LQ o)) ((A.drop i).filter (JQ o)):=by
 intro k;induction k with
 |zero=>
  intro i hi c1 c2 l1 l2 hc1 hc2 _ _ _ _ s h g1 g4 g5 g6 g7 g22 g23 g24 k2 k4 k5 k2136 k2160;have e1:((i:Int)< (A.length:Int))=False:=ff;have ho1:=(jn (v:=v') (e:=0) hc1).cl [2,4,5,2136,2160];have ho2:=(jn (v:=v') (e:=0) hc2).cl [2,4,5,2136,2160];have ho3:=k2c [2,4,5,2136,2160];rw[axi (by omega),ag];refine⟨?hh0,c1,c2,?_,?_,?_,?_,?_,by grind,by grind⟩;rotate_left
  ·simp only[kU,go_sem,g1,g4,g5,g6,g7,g22,g23,g24,k2,k4,k5,k2136,k2160,ho1,ho2,ho3,e1];rfl
  ·rfl
  ·rfl
  ·rfl
  ·rfl
 |succ k ih=>
  intro i hi c1 c2 l1 l2 hc1 hc2 b1 b2 hl1 hl2 s h g1 g4 g5 g6 g7 g22 g23 g24 k2 k4 k5 k2136 k2160;have hlt:i<A.length:=by omega
  have e1:((i:Int)< (A.length:Int))=True:=tt;have e2:aW (aH A) (i:Int)=some (.ipt (bD A[i])):=eZ rfl (List.getElem?_eq_getElem hlt);have e5:IntKind.i64.wrap ((i:Int)+1)=((i+1:Nat):Int):=wi;have ho1:=(jn (v:=v') (e:=0) hc1).cl [2,4,5,2136,2160];have ho2:=(jn (v:=v') (e:=0) hc2).cl [2,4,5,2136,2160];have ho3:=k2c [2,4,5,2136,2160];have hAd:=hA.dropN i;rw[axh hlt]at b1 b2 hAd⊢;have ih':=ih (i+1) (by omega);have vt:=hAd.head;generalize A[i]=t at e2 vt b1 b2 hAd⊢;have hdeg:=yf vt.sm;rw[ag];generalize au _ _ _=L at ih'⊢;simp only[bD]at e2;by_cases hd:bh t.exps<=o
  ·have e3:(bh t.exps<=o)=True:=eq_true hd;have f1:(LQ o t)=true:=decide_eq_true hd;have f2:¬ (JQ o t)=true:=by simp_all[JQ,decide_eq_true,awW]
   rw[List.filter_cons_of_pos f1,List.filter_cons_of_neg f2];obtain⟨c3,s1,s2⟩:=D9 (v':=v') b1 vt (by omega) hc1;have hcall:=fun(h:ac) (hh:h 2136=t3 v' c1 0) (d:Nat)=>dF (aD6.1.2.1 false) rfl (pj (d:=d) hh hc1 s2 s1);have ih2:=ih' c3 c2 _ l2 s2 hc2 (b1.push hAd vt) b2.drop (by grind) (by omega);refine Ea.p1 ?_;simp only[ae,ah]at hcall;simp only[kU,go_sem,g1,g4,g5,g6,g7,g22,g23,g24,k2,k4,k5,k2136,k2160,ho1,ho2,ho3,e1,e2,hdeg,e3];rw[hcall _ rfl];simp only[go_sem,e5];refine ih2 _ _ ?_ ?_ ?_ ?_ ?_ ?_ ?_ ?_ ?_ ?_ ?_ ?_ ?_
   all_goals first|rfl|assumption
  ·have e3:(bh t.exps<=o)=False:=eq_false hd;have f1:¬ (LQ o t)=true:=by simp_all[LQ,decide_eq_false,awW]
   have f2:(JQ o t)=true:=by grind[JQ,decide_eq_false]
   rw[List.filter_cons_of_neg f1,List.filter_cons_of_pos f2];obtain⟨c3,s1,s2⟩:=D9 (v':=v') b2 vt (by omega) hc2;have hcall:=fun(h:ac) (hh:h 2160=t3 v' c2 0) (d:Nat)=>dF (aD6.1.2.1 false) rfl (pj (d:=d) hh hc2 s2 s1);have ih2:=ih' c1 c3 l1 _ hc1 s2 b1.drop (b2.push hAd vt) (by omega) (by grind);refine Ea.p2 ?_;simp only[ae,ah]at hcall;simp only[kU,go_sem,g1,g4,g5,g6,g7,g22,g23,g24,k2,k4,k5,k2136,k2160,ho1,ho2,ho3,e1,e2,hdeg,e3];rw[hcall _ rfl];simp only[go_sem,e5];refine ih2 _ _ ?_ ?_ ?_ ?_ ?_ ?_ ?_ ?_ ?_ ?_ ?_ ?_ ?_
   all_goals first|rfl|assumption
theorem aor{v v' o:Int}{A:List Rt}(hA:Cl v A)(hn:A.length<=100000){o2:Ob}(k2c:∀ids,aC ids o2=true)(s:ak)(h:ac)(X:Option (Ex×St))(hX:aj 0 [4,5,6,7] (au (ai R (az false) kU) [1,4,5,6,7,22,23,24] [2,4,5,2136,2160] s h)=X)
  (g1:s 1=I o) (g4:s 4=.ref 4 none 0 0 0) (g5:s 5=.ref 5 none 0 0 0) (g6:s 6=.ref 2136 none 0 0 0) (g7:s 7=.ref 2160 none 0 0 0) (g22:s 22=.sl 4 (aH A)) (g23:s 23=I A.length) (g24:s 24=I 0) (k2:h 2=o2) (k4:h 4=.bx [I 0,.emp]) (k5:h 5=.bx [I 0,.emp]) (k2136:h 2136=t3 v' .emp 0) (k2160:h 2160=t3 v' .emp 0):
  Ea X 2136 2160 (upd (upd (upd (upd (fun _=>.any) 7 (.ref 2160 none 0 0 0)) 6 (.ref 2136 none 0 0 0)) 5 (.ref 5 none 0 0 0)) 4 (.ref 4 none 0 0 0)) v' [] [] (A.filter (LQ o)) (A.filter (JQ o)):=by
 subst hX;exact agV hA hn k2c A.length 0 (awP _) .emp .emp [] [] (.inr ⟨rfl,rfl⟩) (.inr ⟨rfl,rfl⟩) (Bf.nil _) (Bf.nil _) (by grind) (by grind) s h g1 g4 g5 g6 g7 g22 g23 g24 k2 k4 k5 k2136 k2160
def agW(id:Nat)(s:ak)(h:ac):Ob->Option (ak×ac×K)
 | .bx cs=>some (jU [(id,true)] s,upd h id (.bx (cs.map lj)),[(id,true)])
 |_=>none
theorem uL(i id x y z:Nat)(s:ak)(h:ac):Pb i s h (.ref id none x y z)=agW id s h (h id):=by
 grind[Pb,agW]
theorem yp(id:Nat)(s:ak)(h:ac)(cs:List AV):agW id s h (.bx cs)=some (jU [(id,true)] s,upd h id (.bx (cs.map lj)),[(id,true)]):=rfl
def Wf(r:Rp×Rp):AV:=.tup [aO r.1,aO r.2]
theorem RR{a:Rp}{o:Int}(oa:OkP a):R F.poly_Split [aO a,I o] []=some (Wf (cP a o),[]):=by
 refine ax UM rfl ?_;have v1:=qO oa;simp only[aO]at v1;unfold cP;cases va:vp a with
 |false=>
  rw[va]at v1;simp only[xd,Dk,aO,go_sem,v1];rfl
 |true=>
  rw[va]at v1;obtain⟨ka,a0,a8,al⟩:=il oa va;have hemp:=AN (v:=a.vars);have hl:=aor (v:=a.vars) (v':=a.vars) (o:=o) ka (by omega) (o2:=.bx [I a.vars,.sl 4 (aH a.terms)]) (fun _=>rfl);simp only[xd,Dk,aO,go_sem,v1,hemp,qR];generalize hX:aj 0 _ _=X;have hM:=hl _ _ _ hX rfl rfl rfl rfl rfl rfl rfl rfl rfl rfl rfl rfl rfl;obtain⟨hh,c1,c2,rfl,q4,q5,q1,q2,i1,i2⟩:=hM;generalize a.terms.filter (LQ o)=r1 at i1⊢;generalize a.terms.filter (JQ o)=r2 at i2⊢;rcases i1 with rfl| ⟨rfl,rfl⟩
  ·rcases i2 with rfl| ⟨rfl,rfl⟩
   ·simp only[t3]at q1 q2;simp only[Wf,aO,go_sem,axw,axD,q4,q5,q1,q2,uL,yp,axp,axv,zK,xQ]
   ·simp only[t3]at q1 q2;simp only[Wf,aO,go_sem,axw,axD,q4,q5,q1,q2,uL,yp,axp,axv,zK,xQ,AO];rfl
  ·rcases i2 with rfl| ⟨rfl,rfl⟩
   ·simp only[t3]at q1 q2;simp only[Wf,aO,go_sem,axw,axD,q4,q5,q1,q2,uL,yp,axp,axv,zK,xQ,AO];rfl
   ·simp only[t3]at q1 q2;simp only[Wf,aO,go_sem,axw,axD,q4,q5,q1,q2,uL,yp,axp,axv,zK,AO];rfl
def bC(ds:List Int)(cs:List Ri)(p:Int):Ob:=.bx [.osl 1 (aS ds),.osl 7 (bL cs),I p]
def M3:List Int->Int->Int
 |[],n=>n
 |d::l,n=>M3 l (n*(d+1))
theorem qS(a b:AV)(k:Nat)(r:List (List AV)):jV 0 (.bx [.osl k r,a,b])=some (k,r):=rfl
theorem yq(h:ac)(n:Nat)(g:Bool)(i j:Nat)(r:List (List AV)):og h n g 1 i j (some (1,r))=(r[i]?).bind fun row=>(kt n g row j).map fun a=>(a,h,[]):=rfl
theorem agX{ds:List Int}{cs:List Ri}{p:Int}{m:Nat}(hm:m<=ds.length)(h8:m<=1000)(hb:∀d∈ds,0<=d/\d<=32):
  ∀ (k i:Nat),i+k=m->∀ (n:Int),0<=n->n*33^k<=10000000000000->∀ (s:ak) (h:ac),s 5=I n->s 13=.rsl 1000 (some 0) 1 0 m->s 14=I m->s 15=I i->h 1000=bC ds cs p->
  ∃hh,aj 0 [5] (au (ai R (az true) jh) [5,13,14,15] [1000] s h)=some (.normal,⟨upd (fun _=>.any) 5 (I (M3 ((ds.take m).drop i) n)),hh⟩)/\hh 1000=bC ds cs p:=by
 intro k;induction k with
 |zero=>
  intro i hi n h0 hn s h g5 g13 g14 g15 k1000;have e1:((i:Int)< (m:Int))=False:=ff;rw[axi (by grind),ag];refine⟨?hh0,?_,?_⟩;rotate_left
  ·simp only[jh,bC,go_sem,g5,g13,g14,g15,k1000,e1];rfl
  ·rfl
 |succ k ih=>
  intro i hi n h0 hn s h g5 g13 g14 g15 k1000;have hlt2:i< (ds.take m).length:=by grind
  have e1:((i:Int)< (m:Int))=True:=tt;have e2:(aS ds)[i]?=some [I (ds.take m)[i]]:=by
   unfold aS;rw[List.getElem?_map,List.getElem_take,List.getElem?_eq_getElem (by omega)];rfl
  have e5:IntKind.i64.wrap ((i:Int)+1)=((i+1:Nat):Int):=wi;rw[axh hlt2];have hd:=hb (ds.take m)[i] (List.mem_of_mem_take (axr hlt2));generalize(ds.take m)[i]=d at e2 hd⊢;have e6:(0<=(i:Int))=True:=tt;have e3:IntKind.i64.wrap (d+1)=d+1:=i64_in _ ⟨by omega,by omega⟩;have hn2:n*(d+1)*33^k<=n*33^ (k+1):=by
   rw[Int.pow_succ,Int.mul_comm _ 33,←Int.mul_assoc];exact Int.mul_le_mul_of_nonneg_right (Int.mul_le_mul_of_nonneg_left (by omega) h0) (Int.pow_nonneg (by decide))
  have hp1:(1:Int)<=33^k:=by
   have:=Int.pow_pos (n:=33) (m:=k) (by decide);omega
  have hn0:0<=n*(d+1):=Int.mul_nonneg h0 (by omega);have hn3:n*(d+1)<=10000000000000:=by
   have:=Int.mul_le_mul_of_nonneg_left hp1 hn0;omega
  have e4:IntKind.i64.wrap (n*(d+1))=n*(d+1):=i64_in _ ⟨by omega,by omega⟩;have ih':=ih (i+1) (by omega) (n*(d+1)) hn0 (by omega);rw[ag];simp only[bC]at k1000;simp only[jh,go_sem,g5,g13,g14,g15,k1000,e1,e2,e3,e4,e5,e6,awY,awP,qS,yq];exact ih' _ _ rfl rfl rfl rfl rfl
theorem aos{ds:List Int}{cs:List Ri}{p:Int}{m:Nat}(hm:m<=ds.length)(h8:m<=8)(hb:∀d∈ds,0<=d/\d<=32)(s:ak)(h:ac)(X:Option (Ex×St))(hX:aj 0 [5] (au (ai R (az true) jh) [5,13,14,15] [1000] s h)=X)(g5:s 5=I 1)(g13:s 13=.rsl 1000 (some 0) 1 0 m)(g14:s 14=I m)(g15:s 15=I 0)(k1000:h 1000=bC ds cs p):
  ∃hh,X=some (.normal,⟨upd (fun _=>.any) 5 (I (M3 (ds.take m) 1)),hh⟩)/\hh 1000=bC ds cs p:=by
 subst hX;exact agX hm (by omega) hb m 0 (awP _) 1 (by decide) (by
  have:(33:Int)^m<=33^8:=by
   have h1:33^m<=33^8:=axC (by decide) h8;grind
  omega) s h g5 g13 g14 g15 k1000
theorem CW(ds:List Int):(aS ds).length=ds.length:=by simp[aS]
theorem ajs{ds:List Int}{cs:List Ri}{p:Int}{m:Nat}(hm:m<=ds.length)(h8:m<=8)(hb:∀d∈ds,0<=d/\d<=32):R F.bound_grid_step [.ref 1000 none 0 0 0,I m] [bC ds cs p]=some (I (M3 (ds.take m) 1),[bC ds cs p]):=by
 refine D3 K5 K4 (zD false) rfl ?_;have hl:=aos (ds:=ds) (cs:=cs) (p:=p) hm h8 hb;have e1:dZ 1 (.rsl 1000 (some 0) 1 0 ds.length) none (some (I (m:Int))) none=some (.rsl 1000 (some 0) 1 0 m):=by
  grind[dZ,jT,jL]
 simp only[uu,Ck,go_sem,bC,CW,e1];generalize hX:aj 0 [5] _=X;obtain⟨hh,rfl,q⟩:=hl _ _ _ hX rfl rfl rfl rfl rfl;exact rO rfl q rfl (by rfl) (by rfl)
def Gy(c1 c2:iG):Prop:=∀f a hs r,c1 f a hs=some r->c2 f a hs=some r
section
variable {c1 c2:iG} {md:Mode}
theorem XK(hc:Gy c1 c2){h:ac}{d:Nat}{zas:List AV}{f:AV}{r:R3}(hz:dS c1 md h d zas f=some r):dS c2 md h d zas f=some r:=by
 cases f<;>simp only[dS]at hz⊢ <;>try (cases hz;done)
 simp only[awN]at hz⊢;obtain⟨p,e1,e2⟩:=hz;unfold jK at e2⊢;split at e2
 ·rename_i hcc;simp only[awN]at e2;obtain⟨q,e3,e4⟩:=e2;refine⟨p,e1,?_⟩;rw[if_pos hcc];simp only[awN];exact⟨q,hc _ _ _ _ e3,e4⟩
 ·cases e2
theorem OO(hc:Gy c1 c2){h:ac}{d:Nat}{zas:List AV}{f:AV}{r:R3}(hz:bE c1 md h d zas f=some r):bE c2 md h d zas f=some r:=by
 unfold bE at hz⊢;split at hz
 ·rename_i hb;rw[if_pos hb];cases f<;>simp only[Ni]at hz⊢ <;>try (cases hz;done)
  simp only[awN]at hz⊢;obtain⟨p,e1,q,e3,e4⟩:=hz;exact⟨p,e1,q,hc _ _ _ _ e3,e4⟩
 ·rename_i hb;rw[if_neg hb];exact XK hc hz
theorem RU(hc:Gy c1 c2){d:Nat}{op:AOp}{s:ak}{h:ac}{r:R3}(hz:step c1 md d op s h=some r):step c2 md d op s h=some r:=by
 cases op with
 |call f zas=>exact OO hc hz
 |callC f zas=>
  simp only[step,awN]at hz⊢;obtain⟨q,e1,e2⟩:=hz;exact⟨q,OO hc e1,e2⟩
 |_=>exact hz
theorem RW(hc:Gy c1 c2){d:Option Nat}{op:AOp}{s:ak}{h:ac}{t:St}(hz:du md.nm s d (step c1 md (d.getD 0) op s h)=some t):du md.nm s d (step c2 md (d.getD 0) op s h)=some t:=by
 cases hs:step c1 md (d.getD 0) op s h with
 |none=>rw[hs]at hz;cases hz
 |some r=>
  rw[hs]at hz;rw[RU hc hs];exact hz
theorem abM(hc:Gy c1 c2){o:COp}{s:ak}{h:ac}{t:St}(hz:lT c1 md o s h=some t):lT c2 md o s h=some t:=by
 unfold lT at hz⊢;cases hg:o.g with
 |none=>rw[hg]at hz;exact RW hc hz
 |some g=>
  rw[hg]at hz;simp only at hz⊢;unfold kP at hz⊢;split at hz
  ·split at hz
   ·rename_i hb;simp only[if_pos hb];exact RW hc hz
   ·rename_i hb;simp only[if_neg hb];exact hz
  ·exact hz
  ·cases hz
theorem Eb(hc:Gy c1 c2):∀ {l:List COp} {s:ak} {h:ac} {t:St},aE c1 md l s h=some t->aE c2 md l s h=some t
 |[],s,h,t,hz=>hz
 |o::l,s,h,t,hz=>by
  simp only[aE,bp]at hz;split at hz
  ·cases hz
  ·rename_i t1 ht1;simp only[aE,bp,abM hc ht1,Eb hc hz]
theorem OP(hc:Gy c1 c2){d:Option Nat}{op:AOp}{s:ak}{h:ac}{f:ac->Fp}{t:St×Fp}(hz:nD s d f (step c1 md (d.getD 0) op s h)=some t):nD s d f (step c2 md (d.getD 0) op s h)=some t:=by
 cases hs:step c1 md (d.getD 0) op s h with
 |none=>rw[hs]at hz;cases hz
 |some r=>
  rw[hs]at hz;rw[RU hc hs];exact hz
theorem abN(hc:Gy c1 c2){o:COp}{s:ak}{h:ac}{t:St×Fp}(hz:eE c1 md o s h=some t):eE c2 md o s h=some t:=by
 unfold eE at hz⊢;cases hg:o.g with
 |none=>rw[hg]at hz;exact OP hc hz
 |some g=>
  rw[hg]at hz;simp only at hz⊢;unfold re at hz⊢;split at hz
  ·split at hz
   ·rename_i hb;simp only[if_pos hb];exact OP hc hz
   ·rename_i hb;simp only[if_neg hb];exact hz
  ·exact hz
  ·cases hz
theorem JR(hc:Gy c1 c2):∀ {l:List COp} {s:ak} {h:ac} {t:St×List Fp},gY c1 md l s h=some t->gY c2 md l s h=some t
 |[],s,h,t,hz=>hz
 |o::l,s,h,t,hz=>by
  simp only[gY,awN]at hz;obtain⟨r,e1,q,e2,e3⟩:=hz;simp only[gY,abN hc e1,JR hc e2,awV,e3]
theorem abO(hc:Gy c1 c2){l:List COp}{ps:List (Nat×Nat)}{s:ak}{h:ac}{t:St}(hz:rg c1 md l ps s h=some t):rg c2 md l ps s h=some t:=by
 unfold rg at hz⊢;cases hb:AW ps with
 |none=>
  rw[hb]at hz;simp only[Bj,awN]at hz;obtain⟨q,e1,e2⟩:=hz;simp only[Bj,JR hc e1,awV,e2]
 |some b=>
  rw[hb]at hz;simp only[GG,awN]at hz;obtain⟨q,e1,e2⟩:=hz;split at e2
  ·rename_i hps;simp only[bp]at e2;split at e2
   ·cases e2
   ·rename_i t1 ht1;simp only[GG,JR hc e1,awV,if_pos hps,ht1,bp,Eb hc e2]
  ·cases e2
theorem RX{b1 b2:ak->ac->Option (Ex×St)}{ks hs:List Nat}(ih:∀ {s:ak} {h:ac} {r:Ex×St},b1 s h=some r->b2 s h=some r):
  ∀ (m:Nat) {j:Nat},m<=j->∀ {s:ak} {h:ac} {r:Ex×St},s7 b1 ks hs m s h=some r->s7 b2 ks hs j s h=some r
 |0,j,hj,s,h,r,hz=>by simp[s7]at hz
 |m+1,j,hj,s,h,r,hz=>by
  obtain⟨j,rfl⟩:∃j',j=j'+1:=⟨j-1,by omega⟩;simp only[s7]at hz⊢;split at hz
  ·rename_i hc;rw[if_pos hc];cases hb:b1 (mk .any (fun i=>gk hs (s i)) ks) (mk .dead h hs)with
   |none=>rw[hb]at hz;cases hz
   |some q=>
    rw[hb]at hz;rw[ih hb];obtain⟨ex,t⟩:=q;cases ex with
    |normal=>exact RX ih m (by omega) hz
    |exit id=>exact hz
    |ret=>exact hz
  ·cases hz
theorem jG(hc:Gy c1 c2){lf lf':Nat}(hl:lf<=lf'):∀ (c:Cmd) {s:ak} {h:ac} {r:Ex×St},cS c1 md lf c s h=some r->cS c2 md lf' c s h=some r
 | .skip,s,h,r,hz=>hz
 | .ops ks l,s,h,r,hz=>by
  simp only[cS,bp]at hz;split at hz
  ·cases hz
  ·rename_i t1 ht1;simp only[cS,Eb hc ht1,bp];exact hz
 | .dops ks l ps,s,h,r,hz=>by
  simp only[cS,bp]at hz;split at hz
  ·cases hz
  ·rename_i t1 ht1;simp only[cS,abO hc ht1,bp];exact hz
 | .seq a b,s,h,r,hz=>by
  simp only[cS,cr]at hz;split at hz
  ·cases hz
  ·rename_i t1 ht1;simp only[cS,cr,jG hc hl a ht1,jG hc hl b hz]
  ·rename_i i t1 ht1;simp only[cS,cr,jG hc hl a ht1];exact hz
  ·rename_i t1 ht1;simp only[cS,cr,jG hc hl a ht1];exact hz
 | .cond c a b,s,h,r,hz=>by
  simp only[cS,wW]at hz;split at hz
  ·rename_i t ht;cases t with
   |true=>simp only[cS,wW,ht,if_true];exact jG hc hl a hz
   |false=>simp only[cS,wW,ht,axV,if_false];exact jG hc hl b hz
  ·cases hz
 | .block id ks a,s,h,r,hz=>by
  simp only[cS,aj]at hz;split at hz
  ·cases hz
  ·rename_i t1 ht1;simp only[cS,aj,jG hc hl a ht1];exact hz
  ·rename_i i t1 ht1;simp only[cS,aj,jG hc hl a ht1];exact hz
  ·rename_i t1 ht1;simp only[cS,aj,jG hc hl a ht1];exact hz
 | .loop ks hs a,s,h,r,hz=>by
  simp only[cS]at hz⊢;exact RX (fun hh=>jG hc hl a hh) lf hl hz
 | .exit id,s,h,r,hz=>hz
 | .ret,s,h,r,hz=>hz
 | .frz is a,s,h,r,hz=>by
  simp only[cS,bp]at hz;split at hz
  ·cases hz
  ·rename_i t1 ht1;simp only[cS,bp,ht1];exact jG hc hl a hz
end
theorem RY(e:Env):∀ (n:Nat),Gy (fg e n) (fg e (n+1))
 |0,f,a,hs,r,hz=>by cases hz
 |n+1,f,a,hs,r,hz=>by
  cases hE:e.E f with
  |some g=>
   simp only[fg,hE]at hz⊢;exact hz
  |none=>
   cases hC:e.C f with
   |none=>
    simp only[fg,hE,hC,Option.bind_none]at hz;cases hz
   |some fd=>
    have h1:Ff (fg e n) {e.md with nm:=e.md.keep f} n fd a hs=some r:=by
     simpa only[fg,hE,hC,awV]using hz
    have h2:Ff (fg e (n+1)) {e.md with nm:=e.md.keep f} (n+1) fd a hs=some r:=by
     unfold Ff at h1⊢;split at h1
     ·rename_i hcc;rw[if_pos hcc];cases hx:cS (fg e n) {e.md with nm:=e.md.keep f} n fd.body (tW a) (ap hs)with
      |none=>rw[hx]at h1;cases h1
      |some q=>
       rw[hx]at h1;rw[jG (RY e n) (Nat.le_succ n) fd.body hx];exact h1
     ·cases h1
    show fg e (n+1+1) f a hs=some r;show(match e.E f with
     |some g=>g a hs
     |none=>(e.C f).bind fun fd=>Ff (fg e (n+1)) {e.md with nm:=e.md.keep f} (n+1) fd a hs)=some r
    rw[hE];show(e.C f).bind (fun fd=>Ff (fg e (n+1)) {e.md with nm:=e.md.keep f} (n+1) fd a hs)=some r;rw[hC];exact h2
theorem ajt(e:Env){n k:Nat}(h:n<=k):Gy (fg e n) (fg e k):=by
 induction h with
 |refl=>exact fun f a hs r hz=>hz
 |step _ ih=>exact fun f a hs r hz=>RY e _ f a hs r (ih f a hs r hz)
theorem Qs{e:Env}{n:Nat}{f:FuncId}{a:List AV}{hs:List Ob}{r:AV×List Ob}(h:fg e n f a hs=some r):jY e f a hs=some r:=by
 unfold jY;rw[po];exact⟨n,fun k hk=>ajt e hk f a hs r h⟩
theorem al2:Option.any bq (some AV.emp)=false:=rfl
def BH(v:Nat):List Int:=awO v 0
theorem al3{h:ac}{id id2 k n:Nat}{rows:List (List AV)}{a:AV}{z:Int}(h1:h id2=.ar k rows)(hn:n=rows.length)(h2:h id=.bx [.any,.any,.any])(hne:id≠id2):
  LT id 0 [.rsl id2 none k 0 n,.emp,I z] (a,h,[])=some (a,upd (upd (upd (upd h id2 .dead) id (.bx [.osl k rows,.any,.any])) id (.bx [.osl k rows,.emp,.any])) id (.bx [.osl k rows,.emp,I z]),[(id2,false)]):=by
 have h3:upd h id2 .dead id=.bx [.any,.any,.any]:=by
  simp_all[upd,if_neg]
 have e1:∀ (g:ac) o,upd g id o id=o:=fun g o=>by simp_all[upd,if_pos]
 have k1:∀K,tq K .emp=.emp:=fun K=>rfl;have k2:∀K,tq K (I z)=I z:=fun K=>rfl
 simp_all[bq,aD,I,LT,rS,HP,QI,LS,Cp]
def CL:List Int->Int->Option Int
 |[],n=>some n
 |d::l,n=>if 400<n*(d+1)then none else CL l (n*(d+1))
def Gr2(blk:Option (Ex×St))(o2 g:Ob):Option Int->Prop
 |some n=>∃hh,blk=some (.normal,⟨upd (upd (upd (fun _=>.any) 11 (I n)) 6 (.ref 24 none 0 0 0)) 2 (.ref 2 none 0 0 0),hh⟩)/\hh 2=o2/\hh 24=g/\(∀a,a≠2->a≠24->hh a=.dead)
 |none=>∃hh,blk=some (.ret,⟨upd (upd (fun _=>.any) 5 (B false)) 4 (.v (.pointer none)),hh⟩)
theorem agY{ds:List Int}{p:Int}{m:Nat}(hm:m=ds.length)(h8:m<=1000)(hb:∀d∈ds,0<=d/\d<=32){o2:Ob}(c2:∀l,aC l o2=true):
  ∀ (k i:Nat),i+k=m->∀ (n:Int),0<=n->n<=400->∀ (s:ak) (h:ac),s 2=.ref 2 none 0 0 0->s 6=.ref 24 none 0 0 0->s 11=I n->s 60=.rsl 24 (some 0) 1 0 m->s 61=I m->s 62=I i->h 2=o2->h 21=.dead->h 24=.bx [.osl 1 (aS ds),.emp,I p]->h 2624=.dead->
  Gr2 (aj 4 [2,6,11] (au (ai R (az false) gH) [2,6,11,60,61,62] [2,21,24,2624] s h)) o2 (.bx [.osl 1 (aS ds),.emp,I p]) (CL (ds.drop i) n):=by
 intro k;induction k with
 |zero=>
  intro i hi n h0 hn s h g2 g6 g11 g60 g61 g62 k2 k21 k24 k2624;have e1:((i:Int)< (m:Int))=False:=ff;have hc:=c2 [2,21,24,2624];rw[axi (by omega),ag];refine⟨?hh0,?_,?_,?_,?_⟩;rotate_left
  ·simp only[gH,go_sem,g2,g6,g11,g60,g61,g62,k2,k21,k24,k2624,hc,e1];rfl
  all_goals simp_all[azJ,if_false,ite_self]
 |succ k ih=>
  intro i hi n h0 hn s h g2 g6 g11 g60 g61 g62 k2 k21 k24 k2624;have hlt:i<ds.length:=by omega
  have e1:((i:Int)< (m:Int))=True:=tt;have e2:(aS ds)[i]?=some [I ds[i]]:=by
   grind[aS]
  have e5:IntKind.i64.wrap ((i:Int)+1)=((i+1:Nat):Int):=wi;have hc:=c2 [2,21,24,2624];rw[axh hlt];have hd:=hb ds[i] (axr hlt);generalize ds[i]=d at e2 hd⊢;have e6:(0<=(i:Int))=True:=tt;have e3:IntKind.i64.wrap (d+1)=d+1:=i64_in _ ⟨by omega,by omega⟩;have hn0:0<=n*(d+1):=Int.mul_nonneg h0 (by omega);have hn3:n*(d+1)<=400*33:=Int.mul_le_mul hn (by omega) (by omega) (by decide);have e4:IntKind.i64.wrap (n*(d+1))=n*(d+1):=i64_in _ ⟨by omega,by omega⟩;have ih':=ih (i+1) (by omega) (n*(d+1)) hn0;have hrow:CL (d::ds.drop (i+1)) n=if 400<n*(d+1)then none else CL (ds.drop (i+1)) (n*(d+1)):=rfl
  rw[hrow,ag];by_cases hq:400<n*(d+1)
  ·have e7:(400<n*(d+1))=True:=eq_true hq;rw[if_pos hq];refine⟨?hh1,?_⟩;rotate_left
   ·simp only[gH,go_sem,g2,g6,g11,g60,g61,g62,k2,k21,k24,k2624,hc,e1,e2,e3,e4,e6,e7,awY,awP,qS,yq];rfl
  ·have e7:(400<n*(d+1))=False:=eq_false hq;simp only[gH,go_sem,g2,g6,g11,g60,g61,g62,k2,k21,k24,k2624,hc,e1,e2,e3,e4,e5,e6,e7,awY,awP,qS,yq];refine ih' (by omega) _ _ ?_ ?_ ?_ ?_ ?_ ?_ ?_ ?_ ?_ ?_
   all_goals first|rfl|assumption
theorem aot{ds:List Int}{p:Int}{m:Nat}(hm:m=ds.length)(h8:m<=1000)(hb:∀d∈ds,0<=d/\d<=32){o2:Ob}(c2:∀l,aC l o2=true)(s:ak)(h:ac)(X:Option (Ex×St))(hX:aj 4 [2,6,11] (au (ai R (az false) gH) [2,6,11,60,61,62] [2,21,24,2624] s h)=X)(g2:s 2=.ref 2 none 0 0 0)(g6:s 6=.ref 24 none 0 0 0)(g11:s 11=I 1)(g60:s 60=.rsl 24 (some 0) 1 0 m)(g61:s 61=I m)(g62:s 62=I 0)(k2:h 2=o2)(k21:h 21=.dead)(k24:h 24=.bx [.osl 1 (aS ds),.emp,I p])(k2624:h 2624=.dead):
  Gr2 X o2 (.bx [.osl 1 (aS ds),.emp,I p]) (CL ds 1):=by
 subst hX;exact agY hm h8 hb c2 m 0 (awP _) 1 (by decide) (by decide) s h g2 g6 g11 g60 g61 g62 k2 k21 k24 k2624
theorem agZ(v:Nat):awO v [I 0]=aS (BH v):=by
 grind[aS,BH,List.map_replicate]
theorem aou{v:Nat}:∀d∈BH v,0<=d/\d<=32:=fun d hd=>by
 rw[List.eq_of_mem_replicate hd];decide
theorem aju(h:ac)(i:Nat)(xs:List AV)(a b:AV)(r:List (List AV)):Em h 1 24 0 1 i 0 xs [] (.bx [.osl 1 r,a,b])=(qW 1 1 i 0 xs 1 r).map fun q=>(.und,upd h 24 (.bx [.osl 1 q,a,b]),[]):=rfl
theorem JS{f:FuncId}{h:ac}{d id:Nat}{zas as':List AV}{o o':Ob}{res:AV}(hm:(az false).m f=[])(hk:(az false).keep f=true)(hn:bo ((az false).sh f) (.ref id none 0 0 0::zas)=.ref id none 0 0 0::as')(hd:zas.all dat=true)(hd':as'.all dat=true)
  (hh:h id=o) (ho:OC o) (ho':OC o') (hb:bf o=true->bf o'=true) (hR:R f (.ref 1000 none 0 0 0::as') [o]=some (res,[o'])) (hr:RT res) (h8:cz res<=8) (hfr:cw h (2000+8*d) (cz res)=true):
  bE R (az false) h d (.ref id none 0 0 0::zas) (.fn f [] [])=some (res,upd h id o',[]):=by
 have h1:bQ h [] (.ref id none 0 0 0::zas)=some (.ref id none 0 0 0::zas,h,[]):=by
  simp only[bQ,dw,awV,List.tail_nil,KC h hd,axe]
 have hp:bF [] ((AV.ref id none 0 0 0::zas).flatMap bX)=[id]:=by
  rw[List.flatMap_cons,D0 fun x hx=>KA (List.all_eq_true.1 hd x hx)];rfl
 have hre:bV h 40 [id] 0=[id]:=by
  simp[bV,hh,ho.ids,bF]
 have h3:bj [id] id=1000:=by simp[bj]
 have hall:(AV.ref id none 0 0 0::as').all (be [id])=true:=by
  grind[be,bk,Oz]
 have hmap:(AV.ref id none 0 0 0::as').map (dQ (bj [id]))=.ref 1000 none 0 0 0::as':=by
  rw[axp,(axy (g:=fun c=>c) fun x hx=>KB (List.all_eq_true.1 hd' x hx) _).trans (axN as')];grind[dQ,jW]
 have hob:([id].map fun a=>dL (bj [id]) (h a))=[o]:=by simp[hh,ho.ren]
 have hids:([id].all fun a=>aC [id] (h a)&&!bS (h a))=true:=by simp[hh,ho.cl,ho.nd]
 unfold bE;rw[if_neg (by grind[jX])];simp only[dS,hm,axc,axe,h1,awV,hp,hre,hn];unfold jK;rw[hall,hids,hmap,hob,hR,axm,if_pos rfl,awV,hk,hm,vU];unfold eJ;have hbf:cY h [] [id] [o']=true:=by
  have:=ho'.nd;grind[bf,cY]
 have hend:oj h [id] [] (res,[o'])=true:=by
  simp[oj,BL,hr.ok,ho'.cl]
 rw[if_pos ⟨rfl,by simp,h8,hfr,hbf,hend⟩];simp[eu,fR,hr.mat,hr.ren,ho'.ren]
theorem cj(ds:List Int)(cs:List Ri)(p:Int):OC (bC ds cs p):=⟨fun _=>rfl,rfl,fun _=>rfl,rfl⟩
theorem JT{ds:List Int}{cs:List Ri}{p:Int}{m:Nat}(hm:m<=ds.length)(h8:m<=8)(hb:∀d∈ds,0<=d/\d<=32){h:ac}{d id:Nat}(hh:h id=bC ds cs p)(hd:h (2000+8*d)=.dead):
  bE R (az false) h d [.ref id none 0 0 0,I m] (.fn F.bound_grid_step [] [])=some (I (M3 (ds.take m) 1),upd h id (bC ds cs p),[]):=
 JS (lR false) (zD false) (as':=[I m]) (by simp only[go_sem]) rfl rfl hh (cj _ _ _) (cj _ _ _) (fun _=>rfl) (ajs hm h8 hb) (alu _) (axJ rfl) (by grind[cw,cz,bS])
theorem yr(a b:AV)(k:Nat)(r:List (List AV)):jV 1 (.bx [a,.osl k r,b])=some (k,r):=rfl
theorem aov{f:FuncId}{fd:FD}{args:List AV}{os:List Ob}{r:AV×List Ob}(hE:cJ.E f=none)(hC:cJ.C f=some fd)(hk:cJ.md.keep f=false)(h1:args.length=fd.np)(h2:os.length<=1000)
  (hz:gZ false fd.rs fd.res os.length (ai R (az false) fd.body (tW args) (ap os))=some r):R f args os=some r:=
 NZ false hE hC hk h1 h2 hz
theorem Wg(a b c d e:Ob):ap [a,b,c,d,e]=upd (upd (upd (upd (upd (fun _=>.dead) 1004 e) 1003 d) 1002 c) 1001 b) 1000 a:=by
 funext i;unfold ap upd;by_cases h0:i=1000
 ·simp_all
 by_cases h1:i=1001
 ·simp_all
 by_cases h2:i=1002
 ·simp_all
 by_cases h3:i=1003
 ·simp_all
 by_cases h4:i=1004
 ·simp_all
 simp only[h0,h1,h2,h3,h4,if_false];by_cases h5:1000<=i
 ·rw[if_pos h5,List.getElem?_eq_none (by simp;omega)];rfl
 grind
theorem Wh(a b c:Ob):ap [a,b,c]=upd (upd (upd (fun _=>.dead) 1002 c) 1001 b) 1000 a:=by
 funext i;unfold ap upd;by_cases h0:i=1000
 ·simp_all
 by_cases h1:i=1001
 ·simp_all
 by_cases h2:i=1002
 ·simp_all
 simp only[h0,h1,h2,if_false];by_cases h5:1000<=i
 ·rw[if_pos h5,List.getElem?_eq_none (by grind)];rfl
 grind
def fJ(x:Ri):Ob:=.bx [B x.lo.neg,lm x.lo.m,I x.lo.e,B x.hi.neg,lm x.hi.m,I x.hi.e,B x.all]
theorem fS(x:Ri):OC (fJ x):=⟨fun _=>rfl,rfl,fun _=>rfl,rfl⟩
theorem abP{l st n:Int}{lo w:Ri}{ds:List Int}{cs cs':List Ri}{p:Int}(hR:R F.bound_grid_unit_1 [I l,I st,.ref 1000 none 0 0 0,.ref 1001 none 0 0 0,.ref 1002 none 0 0 0,.ref 1003 none 0 0 0] [.bx [I n],.bx [.ref 1004 none 0 0 0],fJ lo,fJ w,bC ds cs p]=some (.tup [],[.bx [I n],.bx [.ref 1004 none 0 0 0],fJ lo,fJ w,bC ds cs' p])){h:ac}{d:Nat}(h0:h 1000=bC ds cs p)(h1:h 1001=.bx [I n])(h2:h 1002=.bx [.ref 1000 none 0 0 0])(h3:h 1003=fJ lo)(h4:h 1004=fJ w)(hf:h (2000+8*d)=.dead):
  bE R (az false) h d [I l,I st] (.fn F.bound_grid_unit_1 [] [.ref 1001 none 0 0 0,.ref 1002 none 0 0 0,.ref 1003 none 0 0 0,.ref 1004 none 0 0 0])=some (.tup [],upd (upd (upd (upd (upd h 1001 (.bx [I n])) 1002 (.bx [.ref 1000 none 0 0 0])) 1003 (fJ lo)) 1004 (fJ w)) 1000 (bC ds cs' p),[(1001,true),(1002,true),(1003,true),(1004,true),(1000,true)]):=by
 have hre:bV h 40 [1001,1002,1003,1004] 0=[1001,1002,1003,1004,1000]:=by
  have i0:nK (bC ds cs p)=[]:=(cj ds cs p).ids;have i1:nK (.bx [I n])=[]:=rfl;have i2:nK (.bx [.ref 1000 none 0 0 0])=[1000]:=rfl;have i3:nK (fJ lo)=[]:=(fS lo).ids;have i4:nK (fJ w)=[]:=(fS w).ids
  simp_all[bV,bF]
 unfold bE;rw[if_neg (by simp[jX,eB.1.2.1])];have hin:bQ h [] [I l,I st,.ref 1001 none 0 0 0,.ref 1002 none 0 0 0,.ref 1003 none 0 0 0,.ref 1004 none 0 0 0]=some ([I l,I st,.ref 1001 none 0 0 0,.ref 1002 none 0 0 0,.ref 1003 none 0 0 0,.ref 1004 none 0 0 0],h,[]):=rfl;have hids:bF [] ([I l,I st,AV.ref 1001 none 0 0 0,.ref 1002 none 0 0 0,.ref 1003 none 0 0 0,.ref 1004 none 0 0 0].flatMap bX)=[1001,1002,1003,1004]:=rfl;simp only[dS,eB.1.2.1,axc,axM,hin,awV,hids,hre,eB.1.1];have hn:bo [] [I l,I st,AV.ref 1001 none 0 0 0,.ref 1002 none 0 0 0,.ref 1003 none 0 0 0,.ref 1004 none 0 0 0]=[I l,I st,AV.ref 1001 none 0 0 0,.ref 1002 none 0 0 0,.ref 1003 none 0 0 0,.ref 1004 none 0 0 0]:=rfl;rw[hn];unfold jK;have hob:([1001,1002,1003,1004,1000].map fun a=>dL (bj [1001,1002,1003,1004,1000]) (h a))=[.bx [I n],.bx [.ref 1004 none 0 0 0],fJ lo,fJ w,bC ds cs p]:=by
  simp only[List.map,h0,h1,h2,h3,h4];rfl
 have hcl:([1001,1002,1003,1004,1000].all fun a=>aC [1001,1002,1003,1004,1000] (h a)&&!bS (h a))=true:=by
  simp only[axu,List.all_nil,h0,h1,h2,h3,h4];rfl
 rw[hob,hcl,if_pos (by rfl)];rw[show [I l,I st,AV.ref 1001 none 0 0 0,.ref 1002 none 0 0 0,.ref 1003 none 0 0 0,.ref 1004 none 0 0 0].map (dQ (bj [1001,1002,1003,1004,1000]))=[I l,I st,.ref 1000 none 0 0 0,.ref 1001 none 0 0 0,.ref 1002 none 0 0 0,.ref 1003 none 0 0 0]from rfl,hR,awV,eB.1.2.2.2,eB.1.2.1,vU];unfold eJ;rw[if_pos ⟨rfl,axJ rfl,axJ rfl,by simp[cw,cz],by grind[cY,fJ,bC,bf,bS],rfl⟩];rfl
theorem abQ{l st n:Int}{ds:List Int}{cs cs':List Ri}{p:Int}(hR:R F.bound_grid_bernstein_1 [I l,I st,.ref 1000 none 0 0 0,.ref 1001 none 0 0 0] [.bx [I n],.bx [.ref 1002 none 0 0 0],bC ds cs p]=some (.tup [],[.bx [I n],.bx [.ref 1002 none 0 0 0],bC ds cs' p])){h:ac}{d:Nat}(h0:h 1000=bC ds cs p)(h1:h 1001=.bx [I n])(h2:h 1002=.bx [.ref 1000 none 0 0 0])(hf:h (2000+8*d)=.dead):
  bE R (az false) h d [I l,I st] (.fn F.bound_grid_bernstein_1 [] [.ref 1001 none 0 0 0,.ref 1002 none 0 0 0])=some (.tup [],upd (upd (upd h 1001 (.bx [I n])) 1002 (.bx [.ref 1000 none 0 0 0])) 1000 (bC ds cs' p),[(1001,true),(1002,true),(1000,true)]):=by
 have hre:bV h 40 [1001,1002] 0=[1001,1002,1000]:=by
  have i0:nK (bC ds cs p)=[]:=(cj ds cs p).ids;have i1:nK (.bx [I n])=[]:=rfl;have i2:nK (.bx [.ref 1000 none 0 0 0])=[1000]:=rfl
  simp_all[bV,bF]
 unfold bE;rw[if_neg (by simp[jX,cT.1.2.1])];have hin:bQ h [] [I l,I st,.ref 1001 none 0 0 0,.ref 1002 none 0 0 0]=some ([I l,I st,.ref 1001 none 0 0 0,.ref 1002 none 0 0 0],h,[]):=rfl;have hids:bF [] ([I l,I st,AV.ref 1001 none 0 0 0,.ref 1002 none 0 0 0].flatMap bX)=[1001,1002]:=rfl;simp only[dS,cT.1.2.1,axc,axM,hin,awV,hids,hre,cT.1.1];have hn:bo [] [I l,I st,AV.ref 1001 none 0 0 0,.ref 1002 none 0 0 0]=[I l,I st,AV.ref 1001 none 0 0 0,.ref 1002 none 0 0 0]:=rfl;rw[hn];unfold jK;have hob:([1001,1002,1000].map fun a=>dL (bj [1001,1002,1000]) (h a))=[.bx [I n],.bx [.ref 1002 none 0 0 0],bC ds cs p]:=by
  simp only[List.map,h0,h1,h2];rfl
 have hcl:([1001,1002,1000].all fun a=>aC [1001,1002,1000] (h a)&&!bS (h a))=true:=by
  simp only[axu,List.all_nil,h0,h1,h2];rfl
 rw[hob,hcl,if_pos (by rfl)];rw[show [I l,I st,AV.ref 1001 none 0 0 0,.ref 1002 none 0 0 0].map (dQ (bj [1001,1002,1000]))=[I l,I st,.ref 1000 none 0 0 0,.ref 1001 none 0 0 0]from rfl,hR,awV,cT.1.2.2.2,cT.1.2.1,vU];unfold eJ;rw[if_pos ⟨rfl,axJ rfl,axJ rfl,by simp[cw,cz],by grind[cY,bC,bf,bS],rfl⟩];rfl
theorem Wi{f:FuncId}{h:ac}{d:Nat}{zas as':List AV}{r:Option R3}(hm:(az false).m f=[])(hd:bQ h [] zas=some (as',h,[]))(hc:bE R (az false) h d zas (.fn f [] [])=r):GZ R (az false) d f (as',h,[])=r:=by
 grind[G0]
theorem OQ{i:Nat}{m:Int}{lo w:Ri}{ds:List Int}{cs cs':List Ri}{p:Int}(hR:R F.bound_grid_lines [.ref 1000 none 0 0 0,I i,.fn F.bound_grid_unit_1 [] [.ref 1001 none 0 0 0,.ref 1002 none 0 0 0,.ref 1003 none 0 0 0,.ref 1004 none 0 0 0]] [bC ds cs p,.bx [I m],.bx [.ref 1000 none 0 0 0],fJ lo,fJ w]=some (.tup [],[bC ds cs' p,.bx [I m],.bx [.ref 1000 none 0 0 0],fJ lo,fJ w])){h:ac}{d:Nat}(h0:h 1000=bC ds cs p)(h1:h 8=.bx [I m])(h2:h 3=.bx [.ref 1000 none 0 0 0])(h3:h 6=fJ lo)(h4:h 7=fJ w)(hf:h (2000+8*d)=.dead):
  bE R (az false) h d [.ref 1000 none 0 0 0,I i,.fn F.bound_grid_unit_1 [] [.ref 8 none 0 0 0,.ref 3 none 0 0 0,.ref 6 none 0 0 0,.ref 7 none 0 0 0]] (.fn F.bound_grid_lines [] [])=some (.tup [],upd (upd (upd (upd (upd h 1000 (bC ds cs' p)) 8 (.bx [I m])) 3 (.bx [.ref 1000 none 0 0 0])) 6 (fJ lo)) 7 (fJ w),[(1000,true),(8,true),(3,true),(6,true),(7,true)]):=by
 have hre:bV h 40 [1000,8,3,6,7] 0=[1000,8,3,6,7]:=by
  have i0:nK (bC ds cs p)=[]:=(cj _ _ p).ids;have i1:nK (.bx [I m])=[]:=rfl;have i2:nK (.bx [.ref 1000 none 0 0 0])=[1000]:=rfl;have i3:nK (fJ lo)=[]:=(fS lo).ids;have i4:nK (fJ w)=[]:=(fS w).ids
  simp_all[bV,bF]
 unfold bE;rw[if_neg (by simp[jX,bv.1.2.1])];have hin:bQ h [] [.ref 1000 none 0 0 0,I i,.fn F.bound_grid_unit_1 [] [.ref 8 none 0 0 0,.ref 3 none 0 0 0,.ref 6 none 0 0 0,.ref 7 none 0 0 0]]=some ([.ref 1000 none 0 0 0,I i,.fn F.bound_grid_unit_1 [] [.ref 8 none 0 0 0,.ref 3 none 0 0 0,.ref 6 none 0 0 0,.ref 7 none 0 0 0]],h,[]):=rfl;have hids:bF [] ([AV.ref 1000 none 0 0 0,I i,.fn F.bound_grid_unit_1 [] [.ref 8 none 0 0 0,.ref 3 none 0 0 0,.ref 6 none 0 0 0,.ref 7 none 0 0 0]].flatMap bX)=[1000,8,3,6,7]:=rfl;simp only[dS,bv.1.2.1,axc,axe,hin,awV,hids,hre,bv.1.1];have hn:bo [] [AV.ref 1000 none 0 0 0,I i,.fn F.bound_grid_unit_1 [] [.ref 8 none 0 0 0,.ref 3 none 0 0 0,.ref 6 none 0 0 0,.ref 7 none 0 0 0]]=[AV.ref 1000 none 0 0 0,I i,.fn F.bound_grid_unit_1 [] [.ref 8 none 0 0 0,.ref 3 none 0 0 0,.ref 6 none 0 0 0,.ref 7 none 0 0 0]]:=rfl;rw[hn];unfold jK;have hob:([1000,8,3,6,7].map fun a=>dL (bj [1000,8,3,6,7]) (h a))=[bC ds cs p,.bx [I m],.bx [.ref 1000 none 0 0 0],fJ lo,fJ w]:=by
  simp only[List.map,h0,h1,h2,h3,h4];rfl
 have hcl:([1000,8,3,6,7].all fun a=>aC [1000,8,3,6,7] (h a)&&!bS (h a))=true:=by
  simp only[axu,List.all_nil,h0,h1,h2,h3,h4];rfl
 rw[hob,hcl,if_pos (by rfl)];rw[show [AV.ref 1000 none 0 0 0,I i,.fn F.bound_grid_unit_1 [] [.ref 8 none 0 0 0,.ref 3 none 0 0 0,.ref 6 none 0 0 0,.ref 7 none 0 0 0]].map (dQ (bj [1000,8,3,6,7]))=[.ref 1000 none 0 0 0,I i,.fn F.bound_grid_unit_1 [] [.ref 1001 none 0 0 0,.ref 1002 none 0 0 0,.ref 1003 none 0 0 0,.ref 1004 none 0 0 0]]from rfl,hR,awV,bv.1.2.2.2,bv.1.2.1,vU];unfold eJ;rw[if_pos ⟨rfl,axJ rfl,axJ rfl,by simp[cw,cz],by grind[cY,fJ,bC,bf,bS],rfl⟩];rfl
theorem OR{i:Nat}{m:Int}{ds:List Int}{cs cs':List Ri}{p:Int}(hR:R F.bound_grid_lines [.ref 1000 none 0 0 0,I i,.fn F.bound_grid_bernstein_1 [] [.ref 1001 none 0 0 0,.ref 1002 none 0 0 0]] [bC ds cs p,.bx [I m],.bx [.ref 1000 none 0 0 0]]=some (.tup [],[bC ds cs' p,.bx [I m],.bx [.ref 1000 none 0 0 0]])){h:ac}{d:Nat}(h0:h 1000=bC ds cs p)(h1:h 4=.bx [I m])(h2:h 2=.bx [.ref 1000 none 0 0 0])(hf:h (2000+8*d)=.dead):
  bE R (az false) h d [.ref 1000 none 0 0 0,I i,.fn F.bound_grid_bernstein_1 [] [.ref 4 none 0 0 0,.ref 2 none 0 0 0]] (.fn F.bound_grid_lines [] [])=some (.tup [],upd (upd (upd h 1000 (bC ds cs' p)) 4 (.bx [I m])) 2 (.bx [.ref 1000 none 0 0 0]),[(1000,true),(4,true),(2,true)]):=by
 have hre:bV h 40 [1000,4,2] 0=[1000,4,2]:=by
  have i0:nK (bC ds cs p)=[]:=(cj _ _ p).ids;have i1:nK (.bx [I m])=[]:=rfl;have i2:nK (.bx [.ref 1000 none 0 0 0])=[1000]:=rfl
  simp_all[bV,bF]
 unfold bE;rw[if_neg (by simp[jX,bv.1.2.1])];have hin:bQ h [] [.ref 1000 none 0 0 0,I i,.fn F.bound_grid_bernstein_1 [] [.ref 4 none 0 0 0,.ref 2 none 0 0 0]]=some ([.ref 1000 none 0 0 0,I i,.fn F.bound_grid_bernstein_1 [] [.ref 4 none 0 0 0,.ref 2 none 0 0 0]],h,[]):=rfl;have hids:bF [] ([AV.ref 1000 none 0 0 0,I i,.fn F.bound_grid_bernstein_1 [] [.ref 4 none 0 0 0,.ref 2 none 0 0 0]].flatMap bX)=[1000,4,2]:=rfl;simp only[dS,bv.1.2.1,axc,axe,hin,awV,hids,hre,bv.1.1];have hn:bo [] [AV.ref 1000 none 0 0 0,I i,.fn F.bound_grid_bernstein_1 [] [.ref 4 none 0 0 0,.ref 2 none 0 0 0]]=[AV.ref 1000 none 0 0 0,I i,.fn F.bound_grid_bernstein_1 [] [.ref 4 none 0 0 0,.ref 2 none 0 0 0]]:=rfl;rw[hn];unfold jK;have hob:([1000,4,2].map fun a=>dL (bj [1000,4,2]) (h a))=[bC ds cs p,.bx [I m],.bx [.ref 1000 none 0 0 0]]:=by
  simp only[List.map,h0,h1,h2];rfl
 have hcl:([1000,4,2].all fun a=>aC [1000,4,2] (h a)&&!bS (h a))=true:=by
  simp only[axu,List.all_nil,h0,h1,h2];rfl
 rw[hob,hcl,if_pos (by rfl)];rw[show [AV.ref 1000 none 0 0 0,I i,.fn F.bound_grid_bernstein_1 [] [.ref 4 none 0 0 0,.ref 2 none 0 0 0]].map (dQ (bj [1000,4,2]))=[.ref 1000 none 0 0 0,I i,.fn F.bound_grid_bernstein_1 [] [.ref 1001 none 0 0 0,.ref 1002 none 0 0 0]]from rfl,hR,awV,bv.1.2.2.2,bv.1.2.1,vU];unfold eJ;rw[if_pos ⟨rfl,axJ rfl,axJ rfl,by simp[cw,cz],by grind[cY,bC,bf,bS],rfl⟩];rfl
theorem aeq{h:ac}{id id2:Nat}{cs:List AV}{a:AV}(h1:h id2=.bx cs)(h2:h id=.bx [.any]):LT id 0 [.ref id2 none 0 0 0] (a,h,[])=some (a,upd h id (.bx [.ref id2 none 0 0 0]),[]):=by
 simp_all[bq,LT,rS,HP,inP,LS,Cp]
theorem Zi:∀v,bh (BH v)=0
 |0=>rfl
 |v+1=>by
  have:=Zi v;show bh ((0:Int)::BH v)=0;simp[bh]at this⊢;exact this
theorem Wj:vd aI=true:=by decide
theorem ag0{c:Rd}{p:Int}:aY p [aI,c]=aY p [c]:=by
 simp_all[aY,axu,Wj,awT]
theorem aer:zI aI=0:=cF rfl
theorem aes{c:Rd}{p:Int}{up:Bool}:di aI c p up=bZ c p up:=by
 simp[di,bZ,ag0,aer,Int.zero_add]
theorem Wk{p:Int}(hp:bJ p=true){up:Bool}:bZ aI p up=(aI,0):=by
 simp_all[bJ,awS,decide_eq_true_eq,bZ,aY,axu,List.all_nil,Wj,if_pos,aer,jj]
theorem abR(h:ac)(d:Nat)(r q:List (List AV))(p:Int)(b:Bool):kR h d (some (.tup [.obx [.osl 1 r,.osl 7 q,I p],B b],[]))=if bS (h (2000+8*d))&&bS (h (2000+8*d+1))then some (.tup [.ref (2000+8*d) none 0 0 0,B b],upd h (2000+8*d) (.bx [.osl 1 r,.osl 7 q,I p]),[])else none:=by
 simp[kR,cz,iW,aEt,lS,aD,bq,be,bk,cw,mat,cK,dG]
theorem CX(h:ac)(n:Nat)(g:Bool)(i j:Nat)(r:List (List AV)):og h n g 7 i j (some (7,r))=(r[i]?).bind fun row=>(kt n g row j).map fun a=>(a,h,[]):=rfl
theorem ajv{ds:List Int}{cs:List Ri}{p:Int}{x y:Ri}(ox:OkI x)(oy:OkI y):R F.bound_grid_add [.ref 1000 none 0 0 0,am x,am y] [bC ds cs p]=some (am (cW x y p),[bC ds cs p]):=by
 refine D3 Mt Ms (zV false) rfl ?_;have h:=vM ox oy (p:=p);generalize cW x y p=z at*
 simp only[am,ao]at h;simp only[wo,Ds,am,ao,bC,go_sem,h];exact rO rfl rfl rfl (by rfl) (by simp only[go_sem])
theorem ajw{ds:List Int}{cs:List Ri}{p:Int}{x y:Ri}(ox:OkI x)(oy:OkI y):R F.bound_grid_mul [.ref 1000 none 0 0 0,am x,am y] [bC ds cs p]=some (am (ce x y p),[bC ds cs p]):=by
 refine D3 Mv Mu (zW false) rfl ?_;have h:=vO ox oy (p:=p);generalize ce x y p=z at*
 simp only[am,ao]at h;simp only[wr,Dt,am,ao,bC,go_sem,h];exact rO rfl rfl rfl (by rfl) (by simp only[go_sem])
theorem ahS(x:Ri):RT (am x):=⟨fun _=>rfl,fun _ _=>rfl,fun _=>rfl⟩
theorem RZ{ds:List Int}{cs:List Ri}{p:Int}{x y:Ri}(ox:OkI x)(oy:OkI y){h:ac}{d id:Nat}(hh:h id=bC ds cs p)(hd:h (2000+8*d)=.dead):
  GZ R (az false) d F.bound_grid_add ([.ref id none 0 0 0,am x,am y],h,[])=some (am (cW x y p),upd h id (bC ds cs p),[]):=
 dF (xI false) rfl (JS (xI false) (zV false) (as':=[am x,am y]) (by rw[K6];simp only[am,ao,go_sem]) rfl rfl hh (cj _ _ _) (cj _ _ _) (fun _=>rfl) (ajv ox oy) (ahS _) (axJ rfl) (by simp[cw,am,cz,hd,bS]))
theorem E7{ds:List Int}{cs:List Ri}{p:Int}{x y:Ri}(ox:OkI x)(oy:OkI y){h:ac}{d id:Nat}(hh:h id=bC ds cs p)(hd:h (2000+8*d)=.dead):
  GZ R (az false) d F.bound_grid_mul ([.ref id none 0 0 0,am x,am y],h,[])=some (am (ce x y p),upd h id (bC ds cs p),[]):=
 dF (xJ false) rfl (JS (xJ false) (zW false) (as':=[am x,am y]) (by rw[K7];simp only[am,ao,go_sem]) rfl rfl hh (cj _ _ _) (cj _ _ _) (fun _=>rfl) (ajw ox oy) (ahS _) (axJ rfl) (by simp[cw,am,cz,hd,bS]))
theorem KM{α:Type}{f:α->List AV}(h:∀x,Bi (f x) (f x)=true):∀l:List α,HQ (l.map f) (l.map f)=true
 |[]=>rfl
 |a::l=>by simp only[List.map,HQ,h,KM h l,awT]
theorem aow(z:Int):Bi [I z] [I z]=true:=by simp[Bi,TH,TG]
theorem al4(x:Ri):Bi (ao x) (ao x)=true:=by
 have h:∀m:List Nat,HQ (aB m) (aB m)=true:=KM fun x=>by simp[Bi,TH,TG]
 simp[ao,Bi,TH,TG,lm,h]
theorem al5(ds:List Int)(cs:List Ri)(p:Int):J8 (bC ds cs p) (bC ds cs p)=true:=by
 have h1:HQ (aS ds) (aS ds)=true:=KM aow ds;have h2:HQ (bL cs) (bL cs)=true:=KM al4 cs;simp[bC,J8,Bi,TH,TG,h1,h2]
theorem abS{h h':ac}{d id:Nat}{ds:List Int}{cs:List Ri}{p:Int}{x y:Ri}(hi:id<2000)(hh:h id=bC ds cs p)(hh':h' id=bC ds cs p):iX h d [.ref id none 0 0 0,am x,am y] h'=some ([id],[2000+8*d]):=by
 have hre:bV h 40 [id] 0=[id]:=by simp[bV,hh,(cj ds cs p).ids,bF]
 have hc:Iu h h' [id]=[]:=by simp[Iu,hh,hh',al5]
 show(if _ then _ else if _ then some ((bV h 40 [id] 0).map dx,(Iu h h' (bV h 40 [id] 0)).map dx++[2000+8*d])else none)=_;rw[hre,hc,if_neg (by simp[dat,aD]),if_pos (by rfl)];simp[dx,hi]
def jo(N:Nat)(cs:List Ri)(g:G):Prop:=cs.length=N/\∀k x,cs[k]?=some x->In (g k) x
theorem jo.get{N:Nat}{cs:List Ri}{g:G}(h:jo N cs g){k:Nat}(hk:k<N):∃x,cs[k]?=some x/\In (g k) x:=by
 have:k<cs.length:=by rw[h.1];exact hk
 exact⟨cs[k],List.getElem?_eq_getElem this,h.2 k _ (List.getElem?_eq_getElem this)⟩
theorem jo.set{N:Nat}{cs:List Ri}{g:G}(h:jo N cs g){k:Nat}{x:Ri}{y:Rat}(hx:In y x):jo N (cs.set k x) (gs g k y):=by
 refine⟨by rw[List.length_set];exact h.1,fun j z hz=>?_⟩;rw[List.getElem?_set]at hz;unfold gs;by_cases hj:k=j
 ·subst hj;rw[if_pos rfl]at hz;rw[if_pos rfl];split at hz
  ·cases hz;exact hx
  ·exact nomatch hz
 ·rw[if_neg hj]at hz;rw[if_neg fun h=>hj h.symm];exact h.2 j z hz
def Zj(n:Nat)(lo w:Ri)(ds:List Int)(cs:List Ri)(p:Int)(h:ac):Prop:=h 1000=.bx [I n]/\h 1001=.bx [.ref 1004 none 0 0 0]/\h 1002=fJ lo/\h 1003=fJ w/\h 1004=bC ds cs p
theorem Gz(id:Nat)(h:ac)(i:Nat)(xs:List AV)(a b:AV)(r:List (List AV)):Em h 7 id 1 7 i 0 xs [] (.bx [a,.osl 7 r,b])=(qW 7 7 i 0 xs 7 r).map fun q=>(.und,upd h id (.bx [a,.osl 7 q,b]),[]):=rfl
theorem GA{cs:List Ri}{k:Nat}{u:Ri}(hk:k<cs.length):qW 7 7 k 0 (ao u) 7 (bL cs)=some (bL (cs.set k u)):=by
 have h1:(bL cs)[k]?=some (ao cs[k]):=by unfold bL;rw[List.getElem?_map,List.getElem?_eq_getElem hk];rfl
 unfold qW;rw[if_pos rfl,h1];simp[setRow,ao,bL,List.map_set]
attribute [-go_sem] Bs in
theorem ajx{ds:List Int}{p:Int}{N f st i n:Nat}{lo w:Ri}{l:Rat}(hl:In l lo)(hN:f+n*st<N)(hN4:N<=400)(hn:n<=400):∀ (k:Nat),i+k<=n->∀ (cs:List Ri) (g:G),jo N cs g->∀ (s:ak) (h:ac) (X:Option (Ex×St)),aj 2 [0,1,2,3,4,5,13,14] (au (ai R (az false) hH) [0,1,2,3,4,5,8,9,13,14] [1000,1001,1002,1003,1004] s h)=X->
  s 0=I f->s 1=I st->s 2=.ref 1000 none 0 0 0->s 3=.ref 1001 none 0 0 0->s 4=.ref 1002 none 0 0 0->s 5=.ref 1003 none 0 0 0->s 8=I i->s 9=I ((i:Int)+k-1)->s 13=I n->s 14=I i->Zj n lo w ds cs p h->
  ∃hh cs',X=some (.normal,⟨upd (upd (upd (upd (upd (upd (upd (upd (fun _=>.any) 14 (I i)) 13 (I n)) 5 (.ref 1003 none 0 0 0)) 4 (.ref 1002 none 0 0 0)) 3 (.ref 1001 none 0 0 0)) 2 (.ref 1000 none 0 0 0)) 1 (I st)) 0 (I f),hh⟩)/\Zj n lo w ds cs' p hh/\jo N cs' (LN l (fun j=>f+j*st) i k g):=by
 intro k;induction k with
 |zero=>
  intro hk cs g he s h X hX g0 g1 g2 g3 g4 g5 g8 g9 g13 g14 ho;subst hX;obtain⟨k0,k1,k2,k3,k4⟩:=ho;have e1:((i:Int)<=(i:Int)+((0:Nat):Int)-1)=False:=ff;have hg:=(cj ds cs p).cl [1000,1001,1002,1003,1004];have hlo:=(fS lo).cl [1000,1001,1002,1003,1004];have hw:=(fS w).cl [1000,1001,1002,1003,1004];rw[ag];refine⟨?hh0,cs,?_,?_,he⟩;rotate_left
  ·simp only[hH,go_sem,g0,g1,g2,g3,g4,g5,g8,g9,g13,g14,k0,k1,k2,k3,k4,hg,hlo,hw,e1];rfl
  ·exact⟨rfl,rfl,rfl,rfl,rfl⟩
 |succ k ih=>
  intro hk cs g he s h X hX g0 g1 g2 g3 g4 g5 g8 g9 g13 g14 ho;subst hX;obtain⟨k0,k1,k2,k3,k4⟩:=ho;have hm1:(i+k)*st<=n*st:=awZ _ (by omega);have hm2:(i+k+1)*st<=n*st:=awZ _ (by omega);have hs2:(i+k+1)*st=(i+k)*st+st:=by rw[axk,Nat.one_mul]
  have e1:((i:Int)<=(i:Int)+((k+1:Nat):Int)-1)=True:=tt;have w1:IntKind.i64.wrap (((i:Int)+((k+1:Nat):Int)-1)*st)=(((i+k)*st:Nat):Int):=by
   rw[show((i:Int)+((k+1:Nat):Int)-1)=((i+k:Nat):Int)by omega,←aFX];exact i64_in _ ⟨by omega,by omega⟩
  have w2:IntKind.i64.wrap ((f:Int)+(((i+k)*st:Nat):Int))=((f+(i+k)*st:Nat):Int):=wi;have w3:IntKind.i64.wrap (((f+(i+k)*st:Nat):Int)+(st:Int))=((f+(i+k+1)*st:Nat):Int):=wi;have w4:IntKind.i64.wrap ((i:Int)+((k+1:Nat):Int)-1-1)=(i:Int)+(k:Int)-1:=by rw[i64_in _ ⟨by omega,by omega⟩];omega
  obtain⟨x,x1,x2⟩:=he.get (k:=f+(i+k)*st) (by omega);obtain⟨y,y1,y2⟩:=he.get (k:=f+(i+k+1)*st) (by omega);have hg:=(cj ds cs p).cl [1000,1001,1002,1003,1004];have hlo:=(fS lo).cl [1000,1001,1002,1003,1004];have hw:=(fS w).cl [1000,1001,1002,1003,1004];have cm:=fun(h:ac) (d:Nat) hh hd=>E7 (ds:=ds) (cs:=cs) (p:=p) (h:=h) (d:=d) (id:=1004) hl.ok y2.ok hh hd;have pm:=n8 (p:=p) hl y2;have ca:=fun(h:ac) (d:Nat) hh hd=>RZ (ds:=ds) (cs:=cs) (p:=p) (h:=h) (d:=d) (id:=1004) x2.ok pm.ok hh hd;have pa:=n7 (p:=p) x2 pm;have q1:(bL cs)[f+(i+k)*st]?=some (ao x):=by unfold bL;rw[List.getElem?_map,x1];rfl
  have q2:(bL cs)[f+(i+k+1)*st]?=some (ao y):=by unfold bL;rw[List.getElem?_map,y1];rfl
  have i1:(0<=((f+(i+k)*st:Nat):Int))=True:=tt;have i2:(0<=((f+(i+k+1)*st:Nat):Int))=True:=tt;have i3:(((f+(i+k)*st:Nat):Int)< (cs.length:Int))=True:=eq_true (by rw[he.1];omega);have i4:(((f+(i+k+1)*st:Nat):Int)< (cs.length:Int))=True:=eq_true (by rw[he.1];omega);have sr1:∀u:Ri,qW 7 7 (f+(i+k)*st) 0 (ao u) 7 (bL cs)=some (bL (cs.set (f+(i+k)*st) u)):=fun u=>GA (by rw[he.1];omega);have ih':=ih (by omega) _ _ (he.set (k:=f+(i+k)*st) pa);rw[ag];generalize au _ _ _=L at ih'⊢;generalize ce lo y p=z at*
  generalize cW x z p=u at*
  simp only[bC,am,ao]at cm ca;simp only[ao]at q1 q2 sr1;simp only[bC]at k4 hg;simp only[fJ]at k2 k3 hlo hw;simp only[hH,go_sem,g0,g1,g2,g3,g4,g5,g8,g9,g13,g14,k0,k1,k2,k3,k4,hg,hlo,hw,e1,w1,w2,w3,w4,i1,i2,i3,i4,yr,CX,awY,awP,q1,q2];rw[cm _ _ rfl rfl];have fp:=fun(h h':ac) (d:Nat) (x y:Ri)=>abS (h:=h) (h':=h') (d:=d) (id:=1004) (ds:=ds) (cs:=cs) (p:=p) (x:=x) (y:=y) (by decide);simp only[bC,am,ao]at fp;simp only[go_sem,fp];rw[ca _ _ rfl rfl];simp only[go_sem,fp,i1,i3,awY,awP,Gz,sr1,w4];exact ih' _ _ _ rfl rfl rfl rfl rfl rfl rfl rfl rfl rfl rfl ⟨rfl,rfl,rfl,rfl,rfl⟩
theorem ajy{ds:List Int}{p:Int}{N f st n:Nat}{lo w:Ri}{l:Rat}(hl:In l lo)(hN:f+n*st<N)(hN4:N<=400)(hn:n<=400):∀ (k i:Nat),i+k=n->∀ (cs:List Ri) (g:G),jo N cs g->∀ (s:ak) (h:ac) (X:Option (Ex×St)),aj 0 [0,1,2,3,5] (au (ai R (az false) kv) [0,1,2,3,4,5,13,14] [1000,1001,1002,1003,1004] s h)=X->
  s 0=I f->s 1=I st->s 2=.ref 1000 none 0 0 0->s 3=.ref 1001 none 0 0 0->s 4=.ref 1002 none 0 0 0->s 5=.ref 1003 none 0 0 0->s 13=I n->s 14=I i->Zj n lo w ds cs p h->
  ∃hh cs',X=some (.normal,⟨upd (upd (upd (upd (upd (fun _=>.any) 5 (.ref 1003 none 0 0 0)) 3 (.ref 1001 none 0 0 0)) 2 (.ref 1000 none 0 0 0)) 1 (I st)) 0 (I f),hh⟩)/\Zj n lo w ds cs' p hh/\(∀a,a≠1000->a≠1001->a≠1002->a≠1003->a≠1004->hh a=.dead)/\jo N cs' (LO l (fun j=>f+j*st) k i g):=by
 intro k;induction k with
 |zero=>
  intro i hk cs g he s h X hX g0 g1 g2 g3 g4 g5 g13 g14 ho;subst hX;obtain⟨k0,k1,k2,k3,k4⟩:=ho;have e1:((i:Int)<n)=False:=ff;have hg:=(cj ds cs p).cl [1000,1001,1002,1003,1004];have hlo:=(fS lo).cl [1000,1001,1002,1003,1004];have hw:=(fS w).cl [1000,1001,1002,1003,1004];rw[ag];refine⟨?hh0,cs,?_,?_,?_,he⟩;rotate_left
  ·simp only[kv,go_sem,g0,g1,g2,g3,g4,g5,g13,g14,k0,k1,k2,k3,k4,hg,hlo,hw,e1];rfl
  ·exact⟨rfl,rfl,rfl,rfl,rfl⟩
  ·intro a a1 a2 a3 a4 a5;simp only[azJ,a1,a2,a3,a4,a5,if_false]
 |succ k ih=>
  intro i hk cs g he s h X hX g0 g1 g2 g3 g4 g5 g13 g14 ho;subst hX;have ho':=ho;obtain⟨k0,k1,k2,k3,k4⟩:=ho;have e1:((i:Int)<n)=True:=tt;have w1:IntKind.i64.wrap ((n:Int)-1)=(i:Int)+((k+1:Nat):Int)-1:=by rw[i64_in _ ⟨by omega,by omega⟩];omega
  have w2:IntKind.i64.wrap ((i:Int)+1)=((i+1:Nat):Int):=wi;have hg:=(cj ds cs p).cl [1000,1001,1002,1003,1004];have hlo:=(fS lo).cl [1000,1001,1002,1003,1004];have hw:=(fS w).cl [1000,1001,1002,1003,1004];have hu:=ajx (ds:=ds) (p:=p) (w:=w) hl hN hN4 hn (i:=i) (k+1) (by omega) cs g he;have ih':=ih (i+1) (by omega);rw[ag];generalize au _ _ _=L at ih'⊢;simp only[kv,go_sem,g0,g1,g2,g3,g4,g5,g13,g14,k0,k1,k2,k3,k4,hg,hlo,hw,e1,w1];generalize hX:aj 2 _ _=X;obtain⟨hh,cs',rfl,ho2,he2⟩:=hu _ _ _ hX rfl rfl rfl rfl rfl rfl rfl rfl rfl rfl ⟨rfl,rfl,rfl,rfl,rfl⟩;simp only[go_sem,w2];exact ih' cs' _ he2 _ _ _ rfl rfl rfl rfl rfl rfl rfl rfl rfl ho2
attribute [-go_sem] Bs in
theorem ajz{ds:List Int}{p:Int}{N f st n:Nat}{lo w:Ri}{u:Rat}(hw:In u w)(hN:f+n*st<N)(hN4:N<=400)(hn:n<=400):∀ (k j:Nat),j+k=n+1->∀ (cs:List Ri) (g:G),jo N cs g->∀ (sc:Ri) (b:Rat),In b sc->∀ (s:ak) (h:ac) (X:Option (Ex×St)),aj 4 [] (au (ai R (az false) hF) [0,1,2,3,5,11,12] [11,1000,1001,1002,1003,1004] s h)=X->
  s 0=I f->s 1=I st->s 2=.ref 1000 none 0 0 0->s 3=.ref 1001 none 0 0 0->s 5=.ref 1003 none 0 0 0->s 11=.ref 11 none 0 0 0->s 12=I j->h 11=fJ sc->Zj n lo w ds cs p h->
  ∃hh cs',X=some (.normal,⟨fun _=>.any,hh⟩)/\Zj n lo w ds cs' p hh/\jo N cs' (RM u (fun j=>f+j*st) k j b g):=by
 intro k;induction k with
 |zero=>
  intro j hk cs g he sc b hb s h X hX g0 g1 g2 g3 g5 g11 g12 k11 ho;subst hX;obtain⟨k0,k1,k2,k3,k4⟩:=ho;have e1:((j:Int)<=n)=False:=ff;have hg:=(cj ds cs p).cl [11,1000,1001,1002,1003,1004];have hlo:=(fS lo).cl [11,1000,1001,1002,1003,1004];have hw:=(fS w).cl [11,1000,1001,1002,1003,1004];have hs:=(fS sc).cl [11,1000,1001,1002,1003,1004];rw[ag];refine⟨?hh0,cs,?_,?_,he⟩;rotate_left
  ·simp only[hF,go_sem,g0,g1,g2,g3,g5,g11,g12,k0,k1,k2,k3,k4,k11,hg,hlo,hw,hs,e1];rfl
  ·exact⟨rfl,rfl,rfl,rfl,rfl⟩
 |succ k ih=>
  intro j hk cs g he sc b hb s h X hX g0 g1 g2 g3 g5 g11 g12 k11 ho;subst hX;obtain⟨k0,k1,k2,k3,k4⟩:=ho;have hm1:j*st<=n*st:=awZ _ (by omega);have e1:((j:Int)<=n)=True:=tt;have w1:IntKind.i64.wrap ((j:Int)*st)=((j*st:Nat):Int):=wi (aFX ..).symm (by omega);have w2:IntKind.i64.wrap ((f:Int)+((j*st:Nat):Int))=((f+j*st:Nat):Int):=wi;have w4:IntKind.i64.wrap ((j:Int)+1)=((j+1:Nat):Int):=wi;obtain⟨x,x1,x2⟩:=he.get (k:=f+j*st) (by omega);have hg:=(cj ds cs p).cl [11,1000,1001,1002,1003,1004];have hlo:=(fS lo).cl [11,1000,1001,1002,1003,1004];have hwo:=(fS w).cl [11,1000,1001,1002,1003,1004];have hs:=(fS sc).cl [11,1000,1001,1002,1003,1004];have cm:=fun(h:ac) (d:Nat) hh hd=>E7 (ds:=ds) (cs:=cs) (p:=p) (h:=h) (d:=d) (id:=1004) hb.ok hw.ok hh hd;have pm:=n8 (p:=p) hb hw;have ca:=fun(h:ac) (d:Nat) hh hd=>E7 (ds:=ds) (cs:=cs) (p:=p) (h:=h) (d:=d) (id:=1004) x2.ok pm.ok hh hd;have pa:=n8 (p:=p) x2 pm;have q1:(bL cs)[f+j*st]?=some (ao x):=by unfold bL;rw[List.getElem?_map,x1];rfl
  have i1:(0<=((f+j*st:Nat):Int))=True:=tt;have i3:(((f+j*st:Nat):Int)< (cs.length:Int))=True:=eq_true (by rw[he.1];omega);have sr1:∀u:Ri,qW 7 7 (f+j*st) 0 (ao u) 7 (bL cs)=some (bL (cs.set (f+j*st) u)):=fun u=>GA (by rw[he.1];omega);have ih':=ih (j+1) (by omega) _ _ (he.set (k:=f+j*st) pa) _ _ pm;rw[ag];generalize au _ _ _=L at ih'⊢;generalize ce sc w p=z at*
  generalize ce x z p=v at*
  simp only[bC,am,ao]at cm ca;simp only[ao]at q1 sr1;simp only[bC]at k4 hg;simp only[fJ]at k2 k3 k11 hlo hwo hs;simp only[hF,go_sem,g0,g1,g2,g3,g5,g11,g12,k0,k1,k2,k3,k4,k11,hg,hlo,hwo,hs,e1];rw[cm _ _ rfl rfl];have fp:=fun(h h':ac) (d:Nat) (x y:Ri)=>abS (h:=h) (h':=h') (d:=d) (id:=1004) (ds:=ds) (cs:=cs) (p:=p) (x:=x) (y:=y) (by decide);simp only[bC,am,ao]at fp;simp only[go_sem,w1,w2,i1,i3,yr,CX,awY,awP,q1];rw[ca _ _ rfl rfl];simp only[go_sem,fp,i1,i3,awY,awP,Gz,sr1,w4];exact ih' _ _ _ rfl rfl rfl rfl rfl rfl rfl rfl rfl ⟨rfl,rfl,rfl,rfl,rfl⟩
theorem OS{n:Nat}{h:ac}{os:List Ob}(hm:(cU n).map h=os)(hc:(os.all fun o=>aC (cU n) o)=true):wd [] n h []=some (.tup [],os):=by
 have h1:((cU n).all fun i=>aC (cU n) (h i))=true:=by
  rw[←hm,List.all_map]at hc;exact hc
 unfold wd;rw[h1,hm];rfl
theorem KN{f:FuncId}{fd:FD}{args:List AV}{os:List Ob}{α:Type}{r:α->AV×List Ob}{P:α->Prop}(hE:cJ.E f=none)(hC:cJ.C f=some fd)(hk:cJ.md.keep f=false)(h1:args.length=fd.np)(h2:os.length<=1000)
  (hz:∃a,gZ false fd.rs fd.res os.length (ai R (az false) fd.body (tW args) (ap os))=some (r a)/\P a):∃a,R f args os=some (r a)/\P a:=by
 obtain⟨a,h3,h4⟩:=hz;exact⟨a,aov hE hC hk h1 h2 h3,h4⟩
theorem ag1{ds:List Int}{cs:List Ri}{p:Int}{N f st n:Nat}{lo w:Ri}{l u:Rat}{g:G}(hl:In l lo)(hw:In u w)(he:jo N cs g)(hN:f+n*st<N)(hN4:N<=400)(hn:n<=400):
  ∃cs',R F.bound_grid_unit_1 [I f,I st,.ref 1000 none 0 0 0,.ref 1001 none 0 0 0,.ref 1002 none 0 0 0,.ref 1003 none 0 0 0] [.bx [I n],.bx [.ref 1004 none 0 0 0],fJ lo,fJ w,bC ds cs p]=some (.tup [],[.bx [I n],.bx [.ref 1004 none 0 0 0],fJ lo,fJ w,bC ds cs' p])/\jo N cs' (OD l u n (fun j=>f+j*st) g):=by
 have h2:=ajy (ds:=ds) (p:=p) (w:=w) hl hN hN4 hn n 0 (awP _) cs g he;have h3:=fun(cs:List Ri) (g:G) he=>ajz (ds:=ds) (p:=p) (lo:=lo) (n:=n) (st:=st) (f:=f) hw hN hN4 hn n 1 (Nat.add_comm _ _) cs g he ⟨one,one,false⟩ 1 (by rw[←JO];exact rQ eX.1 eX.2);have hi:=Ju;have hp:=iD eX.2 eX.1;refine KN eB.2.1 eB.2.2 (eB.1.2.2.2 false) rfl (axJ rfl) ?_;have hgo:=(cj ds cs p).cl [1000,1001,1002,1003,1004];have hlo:=(fS lo).cl [1000,1001,1002,1003,1004];have hwo:=(fS w).cl [1000,1001,1002,1003,1004];simp only[ae,ah,am,ao]at hi hp;simp only[rD,zT,Wg,go_sem];generalize hX:aj 0 _ _=X;obtain⟨hh,cs1,rfl,ho,hd,he1⟩:=h2 _ _ _ hX rfl rfl rfl rfl rfl rfl rfl rfl ⟨rfl,rfl,rfl,rfl,rfl⟩;obtain⟨k0,k1,k2,k3,k4⟩:=ho;have d1:=hd 2456 (by decide) (by decide) (by decide) (by decide) (by decide);have d2:=hd 2464 (by decide) (by decide) (by decide) (by decide) (by decide);have d3:=hd 11 (by decide) (by decide) (by decide) (by decide) (by decide);simp only[go_sem,hi,hp,d1,d2,d3];generalize hX:aj 4 _ _=X;obtain⟨hh2,cs2,rfl,ho,he2⟩:=h3 cs1 _ he1 _ _ _ hX rfl rfl rfl rfl rfl rfl rfl rfl ⟨k0,k1,k2,k3,k4⟩;obtain⟨k0,k1,k2,k3,k4⟩:=ho;refine⟨cs2,?_,he2⟩;simp only[go_sem];have hp5:cU 5=[1000,1001,1002,1003,1004]:=rfl;refine OS (by rw[hp5];simp only[List.map,k0,k1,k2,k3,k4]) ?_;simp only[hp5,axu,List.all_nil,(cj ds cs2 p).cl,hlo,hwo];rfl
def xR(n:Nat):Rd:=bm false n 0
theorem Zk{n:Nat}(hn:n<=1000):(vd (xR n)=true/\Ok0 (xR n))/\qv (xR n)=n:=by
 have hr:qF (af (ab (xR n).m)) (xR n).e=true:=by
  unfold xR;by_cases h0:n=0
  ·subst h0;rfl
  ·obtain⟨g1,g2,g3,g4⟩:=rL (neg:=false) (e:=0) h0;have hb:af n<=10:=bK.2 (by omega);rw[g1,g2];unfold qF;simp only[Bool.or_eq_true,awS,decide_eq_true_eq];omega
 have hv:vd (xR n)=true:=Gn hr;have hb:Lb (xR n).m:=yc false n 0;refine⟨⟨hv,hb,axF (zG hv hb) (by decide)⟩,?_⟩;have hc:cH (xR n)=(xR n,0):=by
  simp_all[cH,if_pos]
 have hz:zI (cH (xR n)).1=_:=JE (q:=n) (u:=0) (by decide) (by grind[cH,xR]);rw[hc]at hz;obtain⟨N,hN⟩:∃N:Nat,N=16384:=⟨_,rfl⟩;rw[show((0:Int)+16384).toNat=N by omega]at hz;unfold qv EQ;rw[hz,←hN,show(((n*2^N:Nat):Int):Rat)=n*pQ N by rw[aFX,Int.natCast_pow,aFn];rfl];grind[JG]
theorem aet{n:Nat}(hn:n<=1000):R F.dyadic_Int [I n] []=some (ae (xR n),[]):=by
 have:=On (n:=(n:Int)) (by grind[I64]);exact this
def Zl(n:Nat)(ds:List Int)(cs:List Ri)(p:Int)(h:ac):Prop:=h 1000=.bx [I n]/\h 1001=.bx [.ref 1002 none 0 0 0]/\h 1002=bC ds cs p/\h 1003=.dead
theorem al6{h h':ac}{d:Nat}{l:List AV}(hl:l.all dat=true):iX h d l h'=some ([],[2000+8*d]):=by
 rw[Bs,if_pos hl]
attribute [-go_sem] Bs in
theorem ajA{ds:List Int}{p:Int}{N f st n:Nat}(hN:f+n*st<N)(hN4:N<=400)(hn:n<=400):∀ (k j:Nat),j+k=n->∀ (cs:List Ri) (g:G),jo N cs g->∀ (sc:Ri) (b:Rat),In b sc->∀ (s:ak) (h:ac) (X:Option (Ex×St)),aj 0 [0,1,2,3] (au (ai R (az false) gR) [0,1,2,3,6,7] [6,1000,1001,1002,1003] s h)=X->
  s 0=I f->s 1=I st->s 2=.ref 1000 none 0 0 0->s 3=.ref 1001 none 0 0 0->s 6=.ref 6 none 0 0 0->s 7=I (j+1:Nat)->h 6=fJ sc->Zl n ds cs p h->
  ∃hh cs',X=some (.normal,⟨upd (upd (upd (upd (fun _=>.any) 3 (.ref 1001 none 0 0 0)) 2 (.ref 1000 none 0 0 0)) 1 (I st)) 0 (I f),hh⟩)/\Zl n ds cs' p hh/\jo N cs' (LP n (fun j=>f+j*st) k (j+1) b g):=by
 intro k;induction k with
 |zero=>
  intro j hk cs g he sc b hb s h X hX g0 g1 g2 g3 g6 g7 k6 ho;subst hX;obtain⟨k0,k1,k2,k3⟩:=ho;have e1:(((j+1:Nat):Int)<=n)=False:=ff;have hg:=(cj ds cs p).cl [6,1000,1001,1002,1003];have hs:=(fS sc).cl [6,1000,1001,1002,1003];rw[ag];refine⟨?hh0,cs,?_,?_,he⟩;rotate_left
  ·simp only[gR,go_sem,g0,g1,g2,g3,g6,g7,k0,k1,k2,k3,k6,hg,hs,e1];rfl
  ·exact⟨rfl,rfl,rfl,rfl⟩
 |succ k ih=>
  intro j hk cs g he sc b hb s h X hX g0 g1 g2 g3 g6 g7 k6 ho;subst hX;obtain⟨k0,k1,k2,k3⟩:=ho;have hm1:(j+1)*st<=n*st:=awZ _ (by omega);have e1:(((j+1:Nat):Int)<=n)=True:=tt;have w0:IntKind.i64.wrap ((n:Int)- ((j+1:Nat):Int))=(k:Int):=wi;have w5:IntKind.i64.wrap ((k:Int)+1)=((k+1:Nat):Int):=wi;have w1:IntKind.i64.wrap (((j+1:Nat):Int)*st)=(((j+1)*st:Nat):Int):=wi (aFX ..).symm (by omega);have w2:IntKind.i64.wrap ((f:Int)+(((j+1)*st:Nat):Int))=((f+(j+1)*st:Nat):Int):=wi;have w4:IntKind.i64.wrap (((j+1:Nat):Int)+1)=((j+1+1:Nat):Int):=wi;obtain⟨x,x1,x2⟩:=he.get (k:=f+(j+1)*st) (by omega);have hg:=(cj ds cs p).cl [6,1000,1001,1002,1003];have hs:=(fS sc).cl [6,1000,1001,1002,1003];obtain⟨t1,t2⟩:=Zk (n:=k+1) (by omega);obtain⟨u1,u2⟩:=Zk (n:=j+1) (by omega);have ci1:=aet (n:=k+1) (by omega);have ci2:=aet (n:=j+1) (by omega);have cp1:=iD t1.2 t1.1;have cp2:=iD u1.2 u1.1;have ip1:=rQ t1.1 t1.2;have ip2:=rQ u1.1 u1.2;rw[t2]at ip1;rw[u2]at ip2;have cm:=fun(h:ac) (d:Nat) hh hd=>E7 (ds:=ds) (cs:=cs) (p:=p) (h:=h) (d:=d) (id:=1002) hb.ok ip1.ok hh hd;have pm:=n8 (p:=p) hb ip1;have cd:=Y4 pm.ok ip2.ok (p:=p);have pd:=Ze (p:=p) pm ip2;have cd2:=Y4 x2.ok pd.ok (p:=p);have pd2:=Ze (p:=p) x2 pd;have hbe:b*((n:Rat)- (j+1:Nat)+1)/ (j+1:Nat)=b*((k+1:Nat):Rat)/ ((j+1:Nat):Rat):=by
   have:(n:Rat)=(j+(k+1):Nat):=by rw[hk]
   grind
  have q1:(bL cs)[f+(j+1)*st]?=some (ao x):=by grind[bL]
  have i1:(0<=((f+(j+1)*st:Nat):Int))=True:=tt;have i3:(((f+(j+1)*st:Nat):Int)< (cs.length:Int))=True:=eq_true (by grind);have sr1:∀u:Ri,qW 7 7 (f+(j+1)*st) 0 (ao u) 7 (bL cs)=some (bL (cs.set (f+(j+1)*st) u)):=fun u=>GA (by grind);have ih':=ih (j+1) (by omega) _ _ (he.set (k:=f+(j+1)*st) pd2) _ _ pd;have hdv:LP n (fun j=>f+j*st) (k+1) (j+1) b g=LP n (fun j=>f+j*st) k (j+1+1) (b*((k+1:Nat):Rat)/ ((j+1:Nat):Rat)) (gs g (f+(j+1)*st) (g (f+(j+1)*st)/ (b*((k+1:Nat):Rat)/ ((j+1:Nat):Rat)))):=by
   rw[←hbe];rfl
  rw[hdv,ag];generalize au _ _ _=L at ih'⊢;generalize xR (k+1)=c1 at*
  generalize xR (j+1)=c2 at*
  generalize ce sc ⟨c1,c1,false⟩ p=z at*
  generalize Ql z ⟨c2,c2,false⟩ p=v at*
  generalize Ql x v p=y at*
  simp only[bC,am,ao]at cm;simp only[ae,ah,am,ao]at ci1 ci2 cp1 cp2 cd cd2;simp only[ao]at q1 sr1;simp only[bC]at k2 hg;simp only[fJ]at k6 hs;simp only[gR,go_sem,g0,g1,g2,g3,g6,g7,k0,k1,k2,k3,k6,hg,hs,e1,w0,w5,ci1,cp1];have fp:=fun(h h':ac) (d:Nat) (x y:Ri)=>abS (h:=h) (h':=h') (d:=d) (id:=1002) (ds:=ds) (cs:=cs) (p:=p) (x:=x) (y:=y) (by decide);simp only[bC,am,ao]at fp;have fp1:=fun(h h':ac) (d:Nat)=>fp h h' d sc ⟨c1,c1,false⟩;rw[cm _ _ rfl rfl];simp only[go_sem,fp1,al6,ci2,cp2,cd,w1,w2,i1,i3,yr,CX,awY,awP,q1,cd2,Gz,sr1,w4];exact ih' _ _ _ rfl rfl rfl rfl rfl rfl rfl rfl ⟨rfl,rfl,rfl,rfl⟩
attribute [-go_sem] Bs in
theorem ajB{ds:List Int}{p:Int}{N f st n j:Nat}(hN:f+n*st<N)(hN4:N<=400)(hn:n<=400):∀ (k:Nat),j+k<=n->∀ (cs:List Ri) (g:G),jo N cs g->∀ (s:ak) (h:ac) (X:Option (Ex×St)),aj 4 [0,1,2,3,8] (au (ai R (az false) eU) [0,1,2,3,8,9] [1000,1001,1002,1003] s h)=X->
  s 0=I f->s 1=I st->s 2=.ref 1000 none 0 0 0->s 3=.ref 1001 none 0 0 0->s 8=I (j+1:Nat)->s 9=I (j+k:Nat)->Zl n ds cs p h->
  ∃hh cs',X=some (.normal,⟨upd (upd (upd (upd (upd (fun _=>.any) 8 (I (j+1:Nat))) 3 (.ref 1001 none 0 0 0)) 2 (.ref 1000 none 0 0 0)) 1 (I st)) 0 (I f),hh⟩)/\Zl n ds cs' p hh/\jo N cs' (OB (fun j=>f+j*st) j k g):=by
 intro k;induction k with
 |zero=>
  intro hk cs g he s h X hX g0 g1 g2 g3 g8 g9 ho;subst hX;obtain⟨k0,k1,k2,k3⟩:=ho;have e1:(((j+1:Nat):Int)<=((j+0:Nat):Int))=False:=ff;have hg:=(cj ds cs p).cl [1000,1001,1002,1003];rw[ag];refine⟨?hh0,cs,?_,?_,he⟩;rotate_left
  ·simp only[eU,go_sem,g0,g1,g2,g3,g8,g9,k0,k1,k2,k3,hg,e1];rfl
  ·exact⟨rfl,rfl,rfl,rfl⟩
 |succ k ih=>
  intro hk cs g he s h X hX g0 g1 g2 g3 g8 g9 ho;subst hX;obtain⟨k0,k1,k2,k3⟩:=ho;have hm1:(j+k+1)*st<=n*st:=awZ _ (by omega);have hs2:(j+k+1)*st=(j+k)*st+st:=by grind
  have e1:(((j+1:Nat):Int)<=((j+(k+1):Nat):Int))=True:=tt;have w0:IntKind.i64.wrap (((j+(k+1):Nat):Int)-1)=((j+k:Nat):Int):=wi;have w1:IntKind.i64.wrap (((j+(k+1):Nat):Int)*st)=(((j+k+1)*st:Nat):Int):=wi (aFX ..).symm (by omega);have w2:IntKind.i64.wrap ((f:Int)+(((j+k+1)*st:Nat):Int))=((f+(j+k+1)*st:Nat):Int):=wi;have w3:IntKind.i64.wrap (((j+k:Nat):Int)*st)=(((j+k)*st:Nat):Int):=wi (aFX ..).symm (by omega);have w4:IntKind.i64.wrap ((f:Int)+(((j+k)*st:Nat):Int))=((f+(j+k)*st:Nat):Int):=wi;obtain⟨x,x1,x2⟩:=he.get (k:=f+(j+k+1)*st) (by omega);obtain⟨y,y1,y2⟩:=he.get (k:=f+(j+k)*st) (by omega);have hg:=(cj ds cs p).cl [1000,1001,1002,1003];have ca:=fun(h:ac) (d:Nat) hh hd=>RZ (ds:=ds) (cs:=cs) (p:=p) (h:=h) (d:=d) (id:=1002) x2.ok y2.ok hh hd;have pa:=n7 (p:=p) x2 y2;have q1:(bL cs)[f+(j+k+1)*st]?=some (ao x):=by grind[bL]
  have q2:(bL cs)[f+(j+k)*st]?=some (ao y):=by grind[bL]
  have i1:(0<=((f+(j+k+1)*st:Nat):Int))=True:=tt;have i2:(0<=((f+(j+k)*st:Nat):Int))=True:=tt;have i3:(((f+(j+k+1)*st:Nat):Int)< (cs.length:Int))=True:=eq_true (by grind);have i4:(((f+(j+k)*st:Nat):Int)< (cs.length:Int))=True:=eq_true (by grind);have sr1:∀u:Ri,qW 7 7 (f+(j+k+1)*st) 0 (ao u) 7 (bL cs)=some (bL (cs.set (f+(j+k+1)*st) u)):=fun u=>GA (by grind);have ih':=ih (by omega) _ _ (he.set (k:=f+(j+k+1)*st) pa);have fp:=fun(h h':ac) (d:Nat) (x y:Ri)=>abS (h:=h) (h':=h') (d:=d) (id:=1002) (ds:=ds) (cs:=cs) (p:=p) (x:=x) (y:=y) (by decide);simp only[bC,am,ao]at fp;rw[ag];generalize au _ _ _=L at ih'⊢;generalize cW x y p=z at*
  simp only[bC,am,ao]at ca;simp only[ao]at q1 q2 sr1;simp only[bC]at k2 hg;simp only[eU,go_sem,g0,g1,g2,g3,g8,g9,k0,k1,k2,k3,hg,e1,w0,w1,w2,w3,w4,i1,i2,i3,i4,yr,CX,awY,awP,q1,q2];rw[ca _ _ rfl rfl];simp only[go_sem,fp,w0,i1,i3,awY,awP,Gz,sr1];exact ih' _ _ _ rfl rfl rfl rfl rfl rfl rfl ⟨rfl,rfl,rfl,rfl⟩
theorem ajC{ds:List Int}{p:Int}{N f st n:Nat}(hN:f+n*st<N)(hN4:N<=400)(hn:n<=400):∀ (k j:Nat),j+k=n->∀ (cs:List Ri) (g:G),jo N cs g->∀ (s:ak) (h:ac) (X:Option (Ex×St)),aj 2 [] (au (ai R (az false) gQ) [0,1,2,3,8] [1000,1001,1002,1003] s h)=X->
  s 0=I f->s 1=I st->s 2=.ref 1000 none 0 0 0->s 3=.ref 1001 none 0 0 0->s 8=I (j+1:Nat)->Zl n ds cs p h->
  ∃hh cs',X=some (.normal,⟨fun _=>.any,hh⟩)/\Zl n ds cs' p hh/\jo N cs' (RN (fun j=>f+j*st) k j g):=by
 intro k;induction k with
 |zero=>
  intro j hk cs g he s h X hX g0 g1 g2 g3 g8 ho;subst hX;obtain⟨k0,k1,k2,k3⟩:=ho;have e1:(((j+1:Nat):Int)<=n)=False:=ff;have hg:=(cj ds cs p).cl [1000,1001,1002,1003];rw[ag];refine⟨?hh0,cs,?_,?_,he⟩;rotate_left
  ·simp only[gQ,go_sem,g0,g1,g2,g3,g8,k0,k1,k2,k3,hg,e1];rfl
  ·exact⟨rfl,rfl,rfl,rfl⟩
 |succ k ih=>
  intro j hk cs g he s h X hX g0 g1 g2 g3 g8 ho;subst hX;obtain⟨k0,k1,k2,k3⟩:=ho;have e1:(((j+1:Nat):Int)<=n)=True:=tt;have w2:IntKind.i64.wrap (((j+1:Nat):Int)+1)=((j+1+1:Nat):Int):=wi;have hg:=(cj ds cs p).cl [1000,1001,1002,1003];have hu:=ajB (ds:=ds) (p:=p) hN hN4 hn (j:=j) (k+1) (by omega) cs g he;have ih':=ih (j+1) (by omega);rw[ag];simp only[gQ,go_sem,g0,g1,g2,g3,g8,k0,k1,k2,k3,hg,e1];generalize hX:aj 4 _ _=X;obtain⟨hh,cs',rfl,ho2,he2⟩:=hu _ _ _ hX rfl rfl rfl rfl rfl (by rw[hk];rfl) ⟨rfl,rfl,rfl,rfl⟩;simp only[go_sem,w2];exact ih' cs' _ he2 _ _ _ rfl rfl rfl rfl rfl rfl ho2
theorem ag2{ds:List Int}{cs:List Ri}{p:Int}{N f st n:Nat}{g:G}(he:jo N cs g)(hN:f+n*st<N)(hN4:N<=400)(hn:n<=400):
  ∃cs',R F.bound_grid_bernstein_1 [I f,I st,.ref 1000 none 0 0 0,.ref 1001 none 0 0 0] [.bx [I n],.bx [.ref 1002 none 0 0 0],bC ds cs p]=some (.tup [],[.bx [I n],.bx [.ref 1002 none 0 0 0],bC ds cs' p])/\jo N cs' (OE n (fun j=>f+j*st) g):=by
 have h2:=ajA (ds:=ds) (p:=p) hN hN4 hn n 0 (awP _) cs g he ⟨one,one,false⟩ 1 (by rw[←JO];exact rQ eX.1 eX.2);have h3:=fun(cs:List Ri) (g:G) he=>ajC (ds:=ds) (p:=p) (n:=n) (st:=st) (f:=f) hN hN4 hn n 0 (awP _) cs g he;have hi:=Ju;have hp:=iD eX.2 eX.1;refine KN cT.2.1 cT.2.2 (cT.1.2.2.2 false) rfl (axJ rfl) ?_;simp only[ae,ah,am,ao]at hi hp;simp only[l7,uw,Wh,go_sem,hi,hp];generalize hX:aj 0 _ _=X;obtain⟨hh,cs1,rfl,ho,he1⟩:=h2 _ _ _ hX rfl rfl rfl rfl rfl rfl rfl ⟨rfl,rfl,rfl,rfl⟩;obtain⟨k0,k1,k2,k3⟩:=ho;simp only[go_sem];generalize hX:aj 2 _ _=X;obtain⟨hh2,cs2,rfl,ho,he2⟩:=h3 cs1 _ he1 _ _ _ hX rfl rfl rfl rfl rfl ⟨k0,k1,k2,k3⟩;obtain⟨k0,k1,k2,k3⟩:=ho;refine⟨cs2,?_,he2⟩;have hp3:cU 3=[1000,1001,1002]:=rfl;refine OS (by grind) ?_;rfl
noncomputable def BI:Cmd:=.ops [0,1,2,6,15,16] [cm 32 2,cm 33 7,cm 34 6,⟨(some 35),none,.call (.t 32) [.t 33,.t 34]⟩]
theorem Ec:qB=.seq (.ops [0,1,2,6,15,16,17] [b2 17 .lss 16 15]) (.seq (.cond (.t 17) (.skip) (.exit 0)) (.seq (.block 1 [0,1,2,6,15,16] (.seq (.ops [0,1,2,6,7,15,16] [cm 18 16,cm 7 18]) (.seq (.dops [0,1,2,6,7,15,16,31] [cm 19 7,cm 20 6,b2 21 .quo 19 20,cm 22 0,nk 23 22,fa 24 0 23,ld 25 1 24,cm 26 1,co 27 (.iadrS 1 (.t 25) (.t 26)),ld 28 1 27,co 29 (.bin .add (.t 28) (.c (I 1))),b2 30 .rem 21 29,co 31 (.bin .eql (.t 30) (.c (I 0)))] []) (.cond (.t 31) BI (.skip))))) (.ops [0,1,2,6,15,16] [co 36 (.bin .add (.t 16) (.c (I 1))),cm 16 36]))):=rfl
structure LnO (cl:AV) (ds:List Int) (p:Int) (N k st n:Nat) (op:Nat->G->G) (o1 o2 o3 o4:Ob):Prop where
 c1:aC [1000,1001,1002,1003,1004] o1=true
 c2:aC [1000,1001,1002,1003,1004] o2=true
 c3:aC [1000,1001,1002,1003,1004] o3=true
 c4:aC [1000,1001,1002,1003,1004] o4=true
 c5:gk [1000,1001,1002,1003,1004] cl=cl
 run:∀ (f:Nat) (cs:List Ri) (g:G),jo N cs g->f<N->f/st% (n+1)=0->∀ (s:ak) (h:ac) (X:Option (Ex×St)),ai R (az false) BI s h=X->s 0=.ref 1000 none 0 0 0->s 1=I k->s 2=cl->s 6=I st->s 7=I f->s 15=I N->s 16=I f->h 1000=bC ds cs p->h 1001=o1->h 1002=o2->h 1003=o3->h 1004=o4->h 2280=.dead->
  ∃cs' hh,X=some (.normal,⟨upd (upd (upd (upd (upd (upd (fun _=>.any) 16 (I f)) 15 (I N)) 6 (I st)) 2 cl) 1 (I k)) 0 (.ref 1000 none 0 0 0),hh⟩)/\hh 1000=bC ds cs' p/\hh 1001=o1/\hh 1002=o2/\hh 1003=o3/\hh 1004=o4/\jo N cs' (op f g)
theorem OT{cl:AV}{ds:List Int}{p:Int}{N k st n:Nat}{op:Nat->G->G}{o1 o2 o3 o4:Ob}(L:LnO cl ds p N k st n op o1 o2 o3 o4)(hN4:N<=400)(hs:0<st)(hst:st<=400)(hn:n<=400)(hk:ds[k]?=some (n:Int)):
  ∀ (m i:Nat),i+m=N->∀ (cs:List Ri) (g:G),jo N cs g->∀ (s:ak) (h:ac) (X:Option (Ex×St)),aj 0 [] (au (ai R (az false) qB) [0,1,2,6,15,16] [1000,1001,1002,1003,1004] s h)=X->
  s 0=.ref 1000 none 0 0 0->s 1=I k->s 2=cl->s 6=I st->s 15=I N->s 16=I i->h 1000=bC ds cs p->h 1001=o1->h 1002=o2->h 1003=o3->h 1004=o4->
  ∃cs' hh,X=some (.normal,⟨fun _=>.any,hh⟩)/\hh 1000=bC ds cs' p/\hh 1001=o1/\hh 1002=o2/\hh 1003=o3/\hh 1004=o4/\jo N cs' (ps op st n m i g):=by
 obtain⟨c1,c2,c3,c4,c5,lr⟩:=L;intro m;induction m with
 |zero=>
  intro i hm cs g he s h X hX g0 g1 g2 g6 g15 g16 k0 k1 k2 k3 k4;subst hX;have e1:((i:Int)<N)=False:=ff;have hg:=(cj ds cs p).cl [1000,1001,1002,1003,1004];rw[ag];refine⟨cs,?hh0,?_,?_,?_,?_,?_,?_,he⟩;rotate_left
  ·simp only[Ec,go_sem,g0,g1,g2,g6,g15,g16,k0,k1,k2,k3,k4,hg,c1,c2,c3,c4,c5,e1];rfl
  all_goals rfl
 |succ m ih=>
  intro i hm cs g he s h X hX g0 g1 g2 g6 g15 g16 k0 k1 k2 k3 k4;subst hX;have e1:((i:Int)<N)=True:=tt;have hg:=(cj ds cs p).cl [1000,1001,1002,1003,1004];have w1:IntKind.i64.wrap (Int.tdiv (i:Int) st)=((i/st:Nat):Int):=by
   have:=Nat.div_le_self i st;grind[wi]
  have w2:IntKind.i64.wrap ((n:Int)+1)=((n+1:Nat):Int):=wi;have w4:IntKind.i64.wrap ((i:Int)+1)=((i+1:Nat):Int):=wi;have d1:((st:Int)=0)=False:=ff;have d2:(((n+1:Nat):Int)=0)=False:=ff;have hr:=lr i cs g he (by omega);have ih':=ih (i+1) (by omega);have hps:ps op st n (m+1) i g=ps op st n m (i+1) (if i/st% (n+1)=0 then op i g else g):=rfl;rw[hps,ag];generalize au _ _ _=L at ih'⊢;have hkl:k<ds.length:=(List.getElem?_eq_some_iff.1 hk).1;have i1:(0<=(k:Int))=True:=tt;have i2:((k:Int)< (ds.length:Int))=True:=tt;have q1:(aS ds)[k]?=some [I n]:=by grind[aS]
  by_cases h0:i/st% (n+1)=0
  ·have e2:(Int.tmod ((i/st:Nat):Int) ((n+1:Nat):Int)=0)=True:=eq_true (by grind);rw[if_pos h0];have hr:=hr h0;simp only[bC]at k0 hg;simp only[Ec,go_sem,g0,g1,g2,g6,g15,g16,k0,k1,k2,k3,k4,hg,c1,c2,c3,c4,c5,e1,e2,w1,w2,d1,d2,qS,yq,q1,i1,i2,awY,awP];generalize hX:ai R (az false) BI _ _=X;obtain⟨cs',hh,rfl,r0,r1,r2,r3,r4,he2⟩:=hr _ _ _ hX rfl rfl rfl rfl rfl rfl rfl rfl rfl rfl rfl rfl rfl;simp only[go_sem,w4,c5];exact ih' cs' _ he2 _ _ _ rfl rfl rfl rfl rfl rfl rfl r0 r1 r2 r3 r4
  ·have e2:(Int.tmod ((i/st:Nat):Int) ((n+1:Nat):Int)=0)=False:=eq_false (by grind);rw[if_neg h0];simp only[bC]at k0 hg;simp only[Ec,go_sem,g0,g1,g2,g6,g15,g16,k0,k1,k2,k3,k4,hg,c1,c2,c3,c4,c5,e1,e2,w1,w2,w4,d1,d2,qS,yq,q1,i1,i2,awY,awP];exact ih' cs g he _ _ _ rfl rfl rfl rfl rfl rfl rfl rfl rfl rfl rfl rfl
def dI(l:List Nat):List Int:=l.map Int.ofNat
def bA:List Nat->Nat->Nat
 |[],n=>n
 |d::l,n=>bA l (n*(d+1))
theorem KO:∀ (ds:List Nat) (n:Nat),M3 (dI ds) (n:Int)=(bA ds n:Nat)
 |[],_=>rfl
 |d::ds,n=>by
  show M3 (dI ds) ((n:Int)*(Int.ofNat d+1))=(bA ds (n*(d+1)):Nat);rw[←KO ds (n*(d+1)),aFX];rfl
theorem nu:∀ (ds:List Nat) (n:Nat),0<n->n<=bA ds n
 |[],_,_=>awQ _
 |d::ds,n,h=>awX (Nat.le_mul_of_pos_right n (Nat.succ_pos d)) (nu ds _ (Nat.mul_pos h (Nat.succ_pos d)))
theorem M4:∀ (ds:List Nat) (n:Nat),bA ds n=n*bA ds 1
 |[],n=>(Nat.mul_one n).symm
 |d::ds,n=>by
  show bA ds (n*(d+1))=n*bA ds (1*(d+1));rw[M4 ds (n*(d+1)),M4 ds (1*(d+1)),Nat.one_mul,axn]
theorem HG:∀ (ds:List Nat) (k n d:Nat),ds[k]?=some d->bA ds n=bA (ds.take k) n*(d+1)*bA (ds.drop (k+1)) 1
 |d'::ds,0,n,d,h=>by
  have:d'=d:=by grind
  subst this;exact M4 ds _
 |d'::ds,k+1,n,d,h=>HG ds k (n*(d'+1)) d (by grind)
 |[],_,_,_,h=>by grind
theorem Zm{N st n H f:Nat}(hN:N=st*(n+1)*H)(hs:0<st)(hf:f<N)(h0:f/st% (n+1)=0):f+n*st<N:=by
 have h1:=axS f st;have h2:=axq f hs;have h3:=axS (f/st) (n+1);rw[h0,axo]at h3;generalize f/st/ (n+1)=q at*
 have h4:q<H:=by
  refine Nat.lt_of_mul_lt_mul_left (a:=st*(n+1)) ?_;rw[←hN,axn,h3];omega
 have h5:st*(n+1)*(q+1)<=N:=by
  rw[hN];exact axW _ h4
 rw[←h3]at h1;grind
theorem aeu{dn:List Nat}{cs:List Ri}{p:Int}{k n:Nat}{lo w:Ri}{l u:Rat}{g:G}(hl:In l lo)(hw:In u w)(hk:dn[k]?=some n)(h8:dn.length<=8)(hb:∀d∈dn,d<=32)(hN4:bA dn 1<=400)(he:jo (bA dn 1) cs g):
  ∃cs',R F.bound_grid_lines [.ref 1000 none 0 0 0,I k,.fn F.bound_grid_unit_1 [] [.ref 1001 none 0 0 0,.ref 1002 none 0 0 0,.ref 1003 none 0 0 0,.ref 1004 none 0 0 0]] [bC (dI dn) cs p,.bx [I n],.bx [.ref 1000 none 0 0 0],fJ lo,fJ w]=some (.tup [],[bC (dI dn) cs' p,.bx [I n],.bx [.ref 1000 none 0 0 0],fJ lo,fJ w])/\
   jo (bA dn 1) cs' (ps (fun f=>OD l u n (fun j=>f+j*bA (dn.take k) 1)) (bA (dn.take k) 1) n (bA dn 1) 0 g):=by
 have hkl:k<dn.length:=(List.getElem?_eq_some_iff.1 hk).1;have hn:n<=32:=hb n (List.mem_of_getElem? hk);have hbI:∀d∈dI dn,0<=d/\d<=32:=fun d hd=>by
  obtain⟨x,hx,rfl⟩:=List.mem_map.1 hd;grind
 have hsp:=HG dn k 1 n hk;have hs0:=nu (dn.take k) 1 (by decide);have hst:bA (dn.take k) 1<=400:=by
  refine awX ?_ hN4;rw[hsp,axn];exact Nat.le_mul_of_pos_right _ (Nat.mul_pos (Nat.succ_pos n) (nu _ 1 (by decide)))
 have hstep:=fun(h:ac) (d:Nat) (hh:h 1000=bC (dI dn) cs p) (hd:h (2000+8*d)=.dead)=>dF (lR false) rfl (JT (m:=k) (by grind[dI]) (by omega) hbI (d:=d) hh hd);rw[show(dI dn).take k=dI (dn.take k)from(List.map_take ..).symm,show(1:Int)=((1:Nat):Int)from rfl,KO]at hstep;generalize bA (dn.take k) 1=st at*
 generalize bA dn 1=N at*
 have L:LnO (.fn F.bound_grid_unit_1 [] [.ref 1001 none 0 0 0,.ref 1002 none 0 0 0,.ref 1003 none 0 0 0,.ref 1004 none 0 0 0]) (dI dn) p N k st n (fun f=>OD l u n (fun j=>f+j*st)) (.bx [I n]) (.bx [.ref 1000 none 0 0 0]) (fJ lo) (fJ w):=by
  refine⟨rfl,rfl,(fS lo).cl _,(fS w).cl _,rfl,?_⟩;intro f cs g he hf h0 s h X hX g0 g1 g2 g6 g7 g15 g16 k0 k1 k2 k3 k4 kd;subst hX;obtain⟨cs',hR,he'⟩:=ag1 (ds:=dI dn) (p:=p) hl hw he (Zm hsp (by omega) hf h0) hN4 (by omega);have hc:=abP hR (d:=35) k0 k1 k2 k3 k4 kd;refine⟨cs',?hh0,?_,?_,?_,?_,?_,?_,he'⟩;rotate_left
  ·simp only[BI,go_sem,g0,g1,g2,g6,g7,g15,g16,hc];rfl
  all_goals rfl
 refine KN bv.2.1 bv.2.2 (bv.1.2.2.2 false) rfl (axJ rfl) ?_;have hll:=OT L hN4 (by omega) hst (by omega) (by grind[dI]) N 0 (awP _) cs g he;simp only[nF,uv,Wg,go_sem];rw[hstep _ _ rfl rfl];have hlen:(cs.length:Int)=N:=by rw[he.1]
 have hgo:=(cj (dI dn) cs p).cl [1000,1001,1002,1003,1004];simp only[bC]at hgo⊢;simp only[go_sem,hlen,hgo,(fS lo).cl,(fS w).cl];generalize hX:aj 0 _ _=X;obtain⟨cs',hh,rfl,k0,k1,k2,k3,k4,he2⟩:=hll _ _ _ hX rfl rfl rfl rfl rfl rfl rfl rfl rfl rfl rfl;refine⟨cs',?_,he2⟩;have hp5:cU 5=[1000,1001,1002,1003,1004]:=rfl;refine OS (by grind[List.map,bC]) ?_;rfl
theorem aev{dn:List Nat}{cs:List Ri}{p:Int}{k n:Nat}{g:G}(hk:dn[k]?=some n)(h8:dn.length<=8)(hb:∀d∈dn,d<=32)(hN4:bA dn 1<=400)(he:jo (bA dn 1) cs g):
  ∃cs',R F.bound_grid_lines [.ref 1000 none 0 0 0,I k,.fn F.bound_grid_bernstein_1 [] [.ref 1001 none 0 0 0,.ref 1002 none 0 0 0]] [bC (dI dn) cs p,.bx [I n],.bx [.ref 1000 none 0 0 0]]=some (.tup [],[bC (dI dn) cs' p,.bx [I n],.bx [.ref 1000 none 0 0 0]])/\
   jo (bA dn 1) cs' (ps (fun f=>OE n (fun j=>f+j*bA (dn.take k) 1)) (bA (dn.take k) 1) n (bA dn 1) 0 g):=by
 have hkl:k<dn.length:=(List.getElem?_eq_some_iff.1 hk).1;have hn:n<=32:=hb n (List.mem_of_getElem? hk);have hbI:∀d∈dI dn,0<=d/\d<=32:=fun d hd=>by
  obtain⟨x,hx,rfl⟩:=List.mem_map.1 hd;grind
 have hsp:=HG dn k 1 n hk;have hs0:=nu (dn.take k) 1 (by decide);have hst:bA (dn.take k) 1<=400:=by
  refine awX ?_ hN4;rw[hsp,axn];exact Nat.le_mul_of_pos_right _ (Nat.mul_pos (Nat.succ_pos n) (nu _ 1 (by decide)))
 have hstep:=fun(h:ac) (d:Nat) (hh:h 1000=bC (dI dn) cs p) (hd:h (2000+8*d)=.dead)=>dF (lR false) rfl (JT (m:=k) (by grind[dI]) (by omega) hbI (d:=d) hh hd);rw[show(dI dn).take k=dI (dn.take k)from(List.map_take ..).symm,show(1:Int)=((1:Nat):Int)from rfl,KO]at hstep;generalize bA (dn.take k) 1=st at*
 generalize bA dn 1=N at*
 have L:LnO (.fn F.bound_grid_bernstein_1 [] [.ref 1001 none 0 0 0,.ref 1002 none 0 0 0]) (dI dn) p N k st n (fun f=>OE n (fun j=>f+j*st)) (.bx [I n]) (.bx [.ref 1000 none 0 0 0]) .dead .dead:=by
  refine⟨rfl,rfl,rfl,rfl,rfl,?_⟩;intro f cs g he hf h0 s h X hX g0 g1 g2 g6 g7 g15 g16 k0 k1 k2 k3 k4 kd;subst hX;obtain⟨cs',hR,he'⟩:=ag2 (ds:=dI dn) (p:=p) he (Zm hsp (by omega) hf h0) hN4 (by omega);have hc:=abQ hR (d:=35) k0 k1 k2 kd;refine⟨cs',?hh0,?_,?_,?_,?_,?_,?_,he'⟩;rotate_left
  ·simp only[BI,go_sem,g0,g1,g2,g6,g7,g15,g16,hc];rfl
  all_goals first|rfl|assumption
 refine KN bv.2.1 bv.2.2 (bv.1.2.2.2 false) rfl (axJ rfl) ?_;have hll:=OT L hN4 (by omega) hst (by omega) (by grind[dI]) N 0 (awP _) cs g he;simp only[nF,uv,Wh,go_sem];rw[hstep _ _ rfl rfl];have hlen:(cs.length:Int)=N:=by rw[he.1]
 have hgo:=(cj (dI dn) cs p).cl [1000,1001,1002,1003,1004];simp only[bC]at hgo⊢;simp only[go_sem,hlen,hgo];generalize hX:aj 0 _ _=X;obtain⟨cs',hh,rfl,k0,k1,k2,k3,k4,he2⟩:=hll _ _ _ hX rfl rfl rfl rfl rfl rfl rfl rfl rfl rfl rfl;refine⟨cs',?_,he2⟩;have hp5:cU 3=[1000,1001,1002]:=rfl;refine OS (by grind[List.map,bC]) ?_;rfl
theorem ajD{dn:List Nat}{cs:List Ri}{p:Int}{k n:Nat}{g:G}(hk:dn[k]?=some n)(h8:dn.length<=8)(hb:∀d∈dn,d<=32)(hN4:bA dn 1<=400)(he:jo (bA dn 1) cs g):
  ∃cs',R F.bound_grid_bernstein [.ref 1000 none 0 0 0,I k] [bC (dI dn) cs p]=some (.tup [],[bC (dI dn) cs' p])/\jo (bA dn 1) cs' (ps (fun f=>OE n (fun j=>f+j*bA (dn.take k) 1)) (bA (dn.take k) 1) n (bA dn 1) 0 g):=by
 obtain⟨cs',hR,he'⟩:=aev (p:=p) hk h8 hb hN4 he;refine⟨cs',vT ed.2.1 ed.2.2 (ed.1.2.2.2 false) rfl ?_,he'⟩;have e3:(aS (dI dn))[k]?=some [I n]:=by grind[aS,dI]
 have e7:(0<=(k:Int))=True:=tt;have e8:((k:Int)< ((dI dn).length:Int))=True:=eq_true (by grind[dI]);have hl:=fun(h:ac) (d:Nat) h0 h1 h2 hf=>Wi (bv.1.2.1 false) rfl (OR hR (h:=h) (d:=d) h0 h1 h2 hf);simp only[bC]at hl⊢;simp only[nN,wN,go_sem,awP];rw[aeq (cs:=[.osl 1 (aS (dI dn)),.osl 7 (bL cs),I p]) rfl rfl];simp only[go_sem,e3,e7,e8,CW,awY,awP,qS,yq];rw[hl _ _ rfl rfl rfl rfl];rfl
theorem ajE{dn:List Nat}{cs:List Ri}{p:Int}{k n:Nat}{b:Ri}{g:G}(vl:vd b.lo=true/\Ok0 b.lo)(vh:vd b.hi=true/\Ok0 b.hi)(hk:dn[k]?=some n)(h8:dn.length<=8)(hb:∀d∈dn,d<=32)(hN4:bA dn 1<=400)(he:jo (bA dn 1) cs g):
  ∃cs',R F.bound_grid_unit [.ref 1000 none 0 0 0,I k,am b] [bC (dI dn) cs p]=some (.tup [],[bC (dI dn) cs' p])/\jo (bA dn 1) cs' (ps (fun f=>OD (qv b.lo) (qv b.hi-qv b.lo) n (fun j=>f+j*bA (dn.take k) 1)) (bA (dn.take k) 1) n (bA dn 1) 0 g):=by
 have i1:=rQ vl.1 vl.2;have i2:=rQ vh.1 vh.2;have i3:=Y6 (p:=p) i2 i1;obtain⟨cs',hR,he'⟩:=aeu (p:=p) i1 i3 hk h8 hb hN4 he;refine⟨cs',vT gI.2.1 gI.2.2 (gI.1.2.2.2 false) rfl ?_,he'⟩;have e3:(aS (dI dn))[k]?=some [I n]:=by grind[aS,dI]
 have e7:(0<=(k:Int))=True:=tt;have e8:((k:Int)< ((dI dn).length:Int))=True:=eq_true (by grind[dI]);have hl:=fun(h:ac) (d:Nat) h0 h1 h2 h3 h4 hf=>Wi (bv.1.2.1 false) rfl (OQ hR (h:=h) (d:=d) h0 h1 h2 h3 h4 hf);have p1:=iD vl.2 vl.1;have p2:=iD vh.2 vh.1;have p3:=Qm i2.ok i1.ok (p:=p);simp only[bC,fJ]at hl⊢;simp only[ae,ah,am,ao]at p1 p2 p3;simp only[uq,Ci,am,ao,go_sem,awP];rw[aeq (cs:=[.osl 1 (aS (dI dn)),.osl 7 (bL cs),I p]) rfl rfl];simp only[go_sem,e3,e7,e8,CW,awY,awP,qS,yq,p1,p2,p3];rw[hl _ _ rfl rfl rfl rfl rfl rfl];rfl
theorem ag3{n:Nat}(hn:n<=400):R F.bits_Mul64 [W 1,W n] []=some (.tup [W 0,W n],[]):=by
 refine ax U2 rfl ?_;have a1:dP .and (W 1) (W 4294967295)=some (W 1):=rfl;have a2:dP .and (W n) (W 4294967295)=some (W n):=by
  rw[BG rfl (by omega),axK (by omega)]
 have s1:dP .shr (W 1) (W 32)=some (W 0):=rfl;have s2:dP .shr (W n) (W 32)=some (W 0):=(pR (i:=(n:Int)) (j:=32) (k:=32) rfl rfl (by decide)).trans (by grind);have s3:dP .shr (W 0) (W 32)=some (W 0):=rfl;have a3:dP .and (W 0) (W 4294967295)=some (W 0):=rfl;have w1:IntKind.u64.wrap (1*(n:Int))=n:=dE (by omega) (by omega);have w2:IntKind.u64.wrap (0*(n:Int))=0:=by rw[Int.zero_mul];rfl
 have w3:IntKind.u64.wrap ((0:Int)+0)=0:=rfl;have w4:IntKind.u64.wrap ((1:Int)*0)=0:=rfl;have w5:IntKind.u64.wrap ((0:Int)*0)=0:=rfl;simp only[B6,I9,go_sem,a1,a2,a3,s1,s2,s3,w1,w2,w3,w4,w5]
theorem ajF{n:Nat}(hn:n<=400):R F.bits_Mul [W 1,W n] []=some (.tup [W 0,W n],[]):=by
 refine ax abc rfl ?_;have h:=ag3 hn;simp only[FF,NV,go_sem,h]
theorem ag4{X Z:List AV}{N:Nat}(hN:N<=400)(c:List Bool):∀ (k m:Nat),N-m<=k->1<=m->m<=N->∀ (s:ak) (h:ac) (Y:Option (Ex×St)),aj 0 [7] (au (ai R (az false) cI) [7,8] [30] s h)=Y->
  s 7=.rsl 30 none 7 0 N->s 8=I m->h 30=.ar 7 (awO m X++awO (N-m) Z)->
  ∃hh,Y=some (.normal,⟨upd (fun _=>.any) 7 (.rsl 30 none 7 0 N),hh⟩)/\hh 30=.ar 7 (awO N X):=by
 intro k;induction k with
 |zero=>
  intro m hk h1 hm s h Y hY g7 g8 k30;subst hY;have e:m=N:=by omega
  subst e;have e1:((m:Int)<m)=False:=ff;rw[Nat.sub_self,List.replicate_zero,axe]at k30;rw[ag];refine⟨?hh0,?_,?_⟩;rotate_left
  ·simp only[cI,go_sem,g7,g8,k30,e1];rfl
  ·rfl
 |succ k ih=>
  intro m hk h1 hm s h Y hY g7 g8 k30;by_cases hq:m=N
  ·exact ih m (by omega) h1 hm s h Y hY g7 g8 k30
  subst hY;have e1:((m:Int)<N)=True:=tt;have e2:dZ 7 (.rsl 30 none 7 0 N) (some (I (m:Int))) none none=some (.rsl 30 none 7 m (N-m)):=by grind[dZ,jT,jL]
  have e3:dZ 7 (.rsl 30 none 7 0 N) none (some (I (m:Int))) none=some (.rsl 30 none 7 0 m):=by grind[dZ,jT,jL]
  obtain⟨q,hq2⟩:∃q,min (N-m) m=q:=⟨_,rfl⟩;have hq3:min m (N-m)=q:=by omega
  have ih':=ih (m+q) (by omega) (by omega) (by omega);have hl:(awO m X++awO (N-m) Z).length=N:=by grind
  have t1:List.take q (awO m X++awO (N-m) Z)=awO q X:=by
   grind
  have t2:List.take m (awO m X++awO (N-m) Z)=awO m X:=by
   grind
  have t3:List.drop (m+q) (awO m X++awO (N-m) Z)=awO (N- (m+q)) Z:=by
   rw[List.drop_append,axi (by simp),ax1,axc,List.drop_replicate];grind
  have t4:awO m X++awO q X=awO (m+q) X:=List.replicate_append_replicate;have e4:(0+q<=N)=True:=tt;have e5:(m<=N)=True:=eq_true hm;have w1:IntKind.i64.wrap ((m:Int)+(q:Int))=((m+q:Nat):Int):=wi;rw[ag];simp only[cI,go_sem,g7,g8,k30,e1,e2,e3,hq2,hq3,hl,t1,t2,t3,t4,e4,e5,ax1,w1];exact ih' _ _ _ rfl rfl rfl rfl
theorem aew{x:Ri}{n:Nat}(h1:1<=n)(hn:n<=400):R F.slices_Repeat_api_Interval_api_Interval_ [.sl 7 [ao x],I n] []=some (.osl 7 (bL (awO n x)),[]):=by
 refine ax qE rfl ?_;have hm:=ajF hn;have w1:IntKind.u64.wrap 1=1:=by decide
 have w2:((0+1:Nat):Int)=1:=rfl;have w3:IntKind.u64.wrap (n:Int)=n:=dE rfl (by omega);have w4:IntKind.i64.wrap (n:Int)=n:=wi rfl (by omega);have e1:((0:Int)<0)=False:=ff (by decide);have e2:((n:Int)<0)=False:=ff;have e3:(9223372036854775807< (n:Int))=False:=ff;have z1:qX (.v (.int .i64 (n:Int))) (.v (.int .i64 (n:Int)))=some (n,n):=by
  simp only[qX];grind
 have z2:(n*88<=140737488355328)=True:=tt;have tk:∀A:List AV,List.take n [A]=[A]:=fun A=>axg (by omega);have hmin:min 1 n=1:=axP h1;have dr:List.drop 1 (awO n [B false,.emp,I 0,B false,.emp,I 0,B false])=awO (n-1) [B false,.emp,I 0,B false,.emp,I 0,B false]:=List.drop_replicate;have hl:=ag4 (X:=ao x) (Z:=[B false,.emp,I 0,B false,.emp,I 0,B false]) hn [] n 1 (by omega) (awQ _) h1;simp only[ez,iK,ao,go_sem,axE,axI,w1,w2,w3,w4,hm,e1,e2,e3,z1,z2,tk,hmin,dr,axz,ax1,true_and,Int.natCast_one];generalize hX:aj 0 _ _=X;obtain⟨hh,rfl,q⟩:=hl _ _ _ hX rfl rfl rfl;simp only[go_sem,q,ax1,awP,awQ,if_true,awV,axH];grind[bL,List.map_replicate]
theorem Wl{l:List Nat}{i:Nat}(h:i<l.length):(dI l)[i]?=some ((l.getD i 0:Nat):Int):=by
 grind[dI]
theorem al7{l:List Nat}{i:Nat}(h:i<l.length):(aS (dI l))[i]?=some [I (l.getD i 0:Nat)]:=by
 grind[aS,Wl]
theorem GB(l:List Nat):(dI l).length=l.length:=by simp[dI]
def Mx(dn dn' es:List Nat)(i:Nat):Prop:=dn'.length=dn.length/\(∀d∈dn',d<=32)/\(∀j,dn.getD j 0<=dn'.getD j 0)/\∀j,i<=j->es.getD j 0<=dn'.getD j 0
theorem ajG{v:Nat}{p:Int}(h8:v<=8){es:List Nat}(hes:es.length=v)(he32:∀e∈es,e<=32){o2 o8:Ob}(c2:∀l,aC l o2=true)(c8:∀l,aC l o8=true){A:List Rt}{nA iA:Int}:
  ∀ (k i:Nat),i+k=v->∀dn:List Nat,dn.length=v->(∀d∈dn,d<=32)->∀ (s:ak) (h:ac) (X:Option (Ex×St)),aj 2 [2,6,26,27,28] (au (ai R (az false) lN) [2,6,26,27,28,33,34,35] [2,8,21,24,2624] s h)=X->s 2=.ref 2 none 0 0 0->s 6=.ref 24 none 0 0 0->s 26=.sl 4 (aH A)->s 27=I nA->s 28=I iA->s 33=.sl 1 (aS (dI es))->s 34=I v->s 35=I i->h 2=o2->h 8=o8->h 21=.dead->h 24=.bx [.osl 1 (aS (dI dn)),.emp,I p]->h 2624=.dead->
  ∃hh dn',X=some (.normal,⟨upd (upd (upd (upd (upd (fun _=>.any) 28 (I iA)) 27 (I nA)) 26 (.sl 4 (aH A))) 6 (.ref 24 none 0 0 0)) 2 (.ref 2 none 0 0 0),hh⟩)/\hh 2=o2/\hh 24=.bx [.osl 1 (aS (dI dn')),.emp,I p]/\hh 21=.dead/\hh 2624=.dead/\Mx dn dn' es i:=by
 intro k;induction k with
 |zero=>
  intro i hi dn hd hb s h X hX g2 g6 g26 g27 g28 g33 g34 g35 k2 k8 k21 k24 k2624;subst hX;have e1:((i:Int)< (v:Int))=False:=ff;have hc:=c2 [2,8,21,24,2624];have hc8:=c8 [2,8,21,24,2624];rw[ag];refine⟨?hh0,dn,?_,?_,?_,?_,?_,rfl,hb,fun _=>awQ _,fun j hj=>?_⟩;rotate_left
  ·simp only[lN,go_sem,g2,g6,g26,g27,g28,g33,g34,g35,k2,k8,k21,k24,k2624,hc,hc8,e1];rfl
  ·rfl
  ·rfl
  ·rfl
  ·rfl
  grind
 |succ k ih=>
  intro i hi dn hd hb s h X hX g2 g6 g26 g27 g28 g33 g34 g35 k2 k8 k21 k24 k2624;subst hX;have hlt:i<v:=by omega
  have e1:((i:Int)< (v:Int))=True:=tt;have e2:=al7 (l:=dn) (i:=i) (by omega);have e3:aW (aS (dI es)) (i:Int)=some (.ipt [I (es.getD i 0:Nat)]):=nZ rfl (Wl (by omega));have e5:IntKind.i64.wrap ((i:Int)+1)=((i+1:Nat):Int):=wi;have e6:(0<=(i:Int))=True:=tt;have e7:((i:Int)< ((dI dn).length:Int))=True:=eq_true (by grind[GB]);have hc:=c2 [2,8,21,24,2624];have hc8:=c8 [2,8,21,24,2624];obtain⟨m,hm⟩:∃m,max (dn.getD i 0) (es.getD i 0)=m:=⟨_,rfl⟩;have em:(if((dn.getD i 0:Nat):Int)< ((es.getD i 0:Nat):Int)then((es.getD i 0:Nat):Int)else((dn.getD i 0:Nat):Int))=(m:Int):=by
   omega
  have e4:qW 1 1 i 0 [I (m:Int)] 1 (aS (dI dn))=some (aS (dI (dn.set i m))):=by
   simp_all[qW,if_pos,setRow,aS,dI,List.map_set]
  have hms:∀d∈dn.set i m,d<=32:=fun d hd2=>by
   rcases List.mem_or_eq_of_mem_set hd2 with h|h
   ·exact hb d h
   ·subst h;have h1:dn.getD i 0<=32:=by
     rw[List.getD_eq_getElem?_getD,List.getElem?_eq_getElem (by omega)];exact hb _ (axr _)
    have h2:es.getD i 0<=32:=by
     rw[List.getD_eq_getElem?_getD,List.getElem?_eq_getElem (by omega)];exact he32 _ (axr _)
    omega
  have ih':=ih (i+1) (by omega) (dn.set i m) (by rw[List.length_set];exact hd) hms;rw[ag];generalize au _ _ _=L at ih'⊢;simp only[lN,go_sem,g2,g6,g26,g27,g28,g33,g34,g35,k2,k8,k21,k24,k2624,hc,hc8,e1,e2,e3,e5,e6,e7,awY,awP,qS,yq,aju,em,e4];generalize hX:aj 2 _ _=X;obtain⟨hh,dn',q1,q2,q3,q4,q5,m1,m2,m3,m4⟩:=ih' _ _ _ hX rfl rfl rfl rfl rfl rfl rfl rfl rfl rfl rfl rfl rfl;refine⟨hh,dn',q1,q2,q3,q4,q5,by rw[m1,List.length_set],m2,fun j=>?_,fun j hj=>?_⟩
  all_goals grind
def Nt(v:Nat)(t:Rt)(es:List Nat):Prop:=t.exps=dI es/\es.length=v/\∀e∈es,e<=32
theorem ajH{v:Nat}{p:Int}(h8:v<=8){A:List Rt}{E:List (List Nat)}(hA:A.length=E.length)(h5:A.length<=500)(hn:∀ (i:Nat) (t:Rt) (es:List Nat),A[i]?=some t->E[i]?=some es->Nt v t es){o2:Ob}(c2:∀l,aC l o2=true):
  ∀ (k i:Nat),i+k=A.length->∀dn:List Nat,dn.length=v->(∀d∈dn,d<=32)->∀ (s:ak) (h:ac) (X:Option (Ex×St)),aj 0 [2,6] (au (ai R (az false) pK) [2,6,26,27,28] [2,21,24,2624] s h)=X->s 2=.ref 2 none 0 0 0->s 6=.ref 24 none 0 0 0->s 26=.sl 4 (aH A)->s 27=I A.length->s 28=I i->h 2=o2->h 21=.dead->h 24=.bx [.osl 1 (aS (dI dn)),.emp,I p]->h 2624=.dead->
  ∃hh dn',X=some (.normal,⟨upd (upd (fun _=>.any) 6 (.ref 24 none 0 0 0)) 2 (.ref 2 none 0 0 0),hh⟩)/\hh 2=o2/\hh 24=.bx [.osl 1 (aS (dI dn')),.emp,I p]/\hh 21=.dead/\hh 2624=.dead/\dn'.length=v/\(∀d∈dn',d<=32)/\(∀j,dn.getD j 0<=dn'.getD j 0)/\∀ (a:Nat) (es:List Nat),i<=a->E[a]?=some es->∀j,es.getD j 0<=dn'.getD j 0:=by
 intro k;induction k with
 |zero=>
  intro i hi dn hd hb s h X hX g2 g6 g26 g27 g28 k2 k21 k24 k2624;subst hX;have e1:((i:Int)< (A.length:Int))=False:=ff;have hc:=c2 [2,21,24,2624];rw[ag];refine⟨?hh0,dn,?_,?_,?_,?_,?_,hd,hb,fun _=>awQ _,fun a es ha he=>?_⟩;rotate_left
  ·simp only[pK,go_sem,g2,g6,g26,g27,g28,k2,k21,k24,k2624,hc,e1];rfl
  ·rfl
  ·rfl
  ·rfl
  ·rfl
  grind
 |succ k ih=>
  intro i hi dn hd hb s h X hX g2 g6 g26 g27 g28 k2 k21 k24 k2624;subst hX;have e1:((i:Int)< (A.length:Int))=True:=tt;obtain⟨t,ht⟩:∃t,A[i]?=some t:=⟨_,List.getElem?_eq_getElem (by omega)⟩;obtain⟨es,hes⟩:∃es,E[i]?=some es:=⟨_,List.getElem?_eq_getElem (by omega)⟩;obtain⟨n1,n2,n3⟩:=hn i t es ht hes;have e2:aW (aH A) (i:Int)=some (.ipt (bD t)):=eZ rfl ht;have e5:IntKind.i64.wrap ((i:Int)+1)=((i+1:Nat):Int):=wi;have hc:=c2 [2,21,24,2624];have hg:=ajG (p:=p) h8 n2 n3 c2 (o8:=.bx [.sl 1 (aS (dI es)),B t.c.neg,lm t.c.m,I t.c.e]) (fun _=>rfl) (A:=A) (nA:=A.length) (iA:=i) v 0 (awP _) dn hd hb;have e3:(aS (dI es)).length=v:=by rw[CW,GB,n2]
  rw[bD,n1]at e2;have ih':=ih (i+1) (by omega);rw[ag];simp only[pK,go_sem,g2,g6,g26,g27,g28,k2,k21,k24,k2624,hc,e1,e2,e3];generalize hX:aj 2 _ _=X;obtain⟨hh,dn',rfl,q2,q24,q21,q2624,m1,m2,m3,m4⟩:=hg _ _ _ hX rfl rfl rfl rfl rfl rfl rfl rfl rfl rfl rfl rfl rfl;simp only[go_sem,e5];generalize hX:aj 0 _ _=X;obtain⟨hh2,dn2,r1,r2,r3,r4,r5,u1,u2,u3,u4⟩:=ih' dn' (by omega) m2 _ _ _ hX rfl rfl rfl rfl rfl q2 q21 q24 q2624;grind
theorem R1:∀ (l:List Nat) (d n:Nat),bA (l++[d]) n=bA l n*(d+1)
 |[],_,_=>rfl
 |a::l,d,n=>R1 l d (n*(a+1))
theorem aex{dn:List Nat}{i:Nat}(h:i<dn.length):bA (dn.take (i+1)) 1=bA (dn.take i) 1*(dn.getD i 0+1):=by
 grind[List.take_add_one,R1]
theorem ag5{dn es:List Nat}{i s:Nat}(h:i<dn.length)(h2:i<es.length):pos (dn.drop i) (es.drop i) s=es.getD i 0*s+pos (dn.drop (i+1)) (es.drop (i+1)) (s*(dn.getD i 0+1)):=by
 rw[axh h,axh h2,List.getD_eq_getElem?_getD,List.getD_eq_getElem?_getD,List.getElem?_eq_getElem h,List.getElem?_eq_getElem h2];rfl
theorem ajI{dn es:List Nat}{cs:List Ri}{p:Int}{v:Nat}(h8:v<=8)(hd:dn.length=v)(hb:∀d∈dn,d<=32)(hN4:bA dn 1<=400)(hes:es.length=v)(he32:∀e∈es,e<=32){o2 o15:Ob}(c2:∀l,aC l o2=true)(c15:∀l,aC l o15=true){A:List Rt}{nA iA:Int}:
  ∀ (k i:Nat),i+k=v->∀ (at_:Nat),at_+pos (dn.drop i) (es.drop i) (bA (dn.take i) 1)<=400->∀ (s:ak) (h:ac) (X:Option (Ex×St)),aj 8 [6,15,16,82,83,84] (au (ai R (az false) ju) [6,15,16,82,83,84,89,90,91] [2,15,21,24,2624] s h)=X->s 6=.ref 24 none 0 0 0->s 15=.ref 15 none 0 0 0->s 16=I at_->s 82=.sl 4 (aH A)->s 83=I nA->s 84=I iA->s 89=.sl 1 (aS (dI es))->s 90=I v->s 91=I i->h 2=o2->h 15=o15->h 21=.dead->h 24=bC (dI dn) cs p->h 2624=.dead->
  ∃hh,X=some (.normal,⟨upd (upd (upd (upd (upd (upd (fun _=>.any) 84 (I iA)) 83 (I nA)) 82 (.sl 4 (aH A))) 16 (I (at_+pos (dn.drop i) (es.drop i) (bA (dn.take i) 1):Nat))) 15 (.ref 15 none 0 0 0)) 6 (.ref 24 none 0 0 0),hh⟩)/\hh 2=o2/\hh 15=o15/\hh 24=bC (dI dn) cs p/\(∀a,a≠2->a≠15->a≠24->hh a=.dead):=by
 intro k;induction k with
 |zero=>
  intro i hi at_ hat s h X hX g6 g15 g16 g82 g83 g84 g89 g90 g91 k2 k15 k21 k24 k2624;subst hX;have e1:((i:Int)< (v:Int))=False:=ff;have hc:=c2 [2,15,21,24,2624];have hc15:=c15 [2,15,21,24,2624];have hg:=(cj (dI dn) cs p).cl [2,15,21,24,2624];rw[axi (show dn.length<=i by omega)];have hp0:∀s,pos [] (es.drop i) s=0:=fun s=>by grind[pos]
  rw[hp0,axo,ag];refine⟨?hh0,?_,?_,?_,?_,?_⟩;rotate_left
  ·simp only[ju,go_sem,g6,g15,g16,g82,g83,g84,g89,g90,g91,k2,k15,k21,k24,k2624,hc,hc15,hg,e1];rfl
  all_goals simp_all[azJ,if_false,ite_self]
 |succ k ih=>
  intro i hi at_ hat s h X hX g6 g15 g16 g82 g83 g84 g89 g90 g91 k2 k15 k21 k24 k2624;subst hX;have e1:((i:Int)< (v:Int))=True:=tt;have e3:aW (aS (dI es)) (i:Int)=some (.ipt [I (es.getD i 0:Nat)]):=nZ rfl (Wl (by omega));have e5:IntKind.i64.wrap ((i:Int)+1)=((i+1:Nat):Int):=wi;have hbI:∀d∈dI dn,0<=d/\d<=32:=fun d hd=>by
   obtain⟨x,hx,rfl⟩:=List.mem_map.1 hd;grind
  have hst:=fun(h:ac) (d:Nat) (hh:h 24=bC (dI dn) cs p) (hd:h (2000+8*d)=.dead)=>dF (lR false) rfl (JT (m:=i) (by grind[GB]) (by omega) hbI (d:=d) hh hd);rw[show(dI dn).take i=dI (dn.take i)from(List.map_take ..).symm,show(1:Int)=((1:Nat):Int)from rfl,KO]at hst;rw[ag5 (by omega) (by omega),←aex (by omega),←Nat.add_assoc]at hat⊢;have ih':=ih (i+1) (by omega) (at_+es.getD i 0*bA (dn.take i) 1) hat;generalize bA (dn.take i) 1=st at*
  generalize es.getD i 0=e at*
  have w1:IntKind.i64.wrap ((e:Int)*(st:Int))=((e*st:Nat):Int):=wi (aFX ..).symm (by omega);have w2:IntKind.i64.wrap ((at_:Int)+((e*st:Nat):Int))=((at_+e*st:Nat):Int):=wi;have hc:=c2 [2,15,21,24,2624];have hc15:=c15 [2,15,21,24,2624];have hg:=(cj (dI dn) cs p).cl [2,15,21,24,2624];rw[ag];simp only[ju,go_sem,g6,g15,g16,g82,g83,g84,g89,g90,g91,k2,k15,k21,k24,k2624,hc,hc15,hg,e1,e3];rw[hst _ _ rfl rfl];simp only[go_sem,w1,w2,e5];exact ih' _ _ _ rfl rfl rfl rfl rfl rfl rfl rfl rfl rfl rfl rfl rfl rfl rfl
def gT(dn:List Nat):List Rt->List (List Nat)->G->G
 |t::l,es::r,g=>gT dn l r (gs g (pos dn es 1) (qv t.c))
 |_,_,g=>g
theorem ajJ{dn:List Nat}{p:Int}{v:Nat}(h8:v<=8)(hd:dn.length=v)(hb:∀d∈dn,d<=32)(hN4:bA dn 1<=400){A:List Rt}{E:List (List Nat)}(hA:A.length=E.length)(h5:A.length<=500)(hn:∀ (i:Nat) (t:Rt) (es:List Nat),A[i]?=some t->E[i]?=some es->Nt v t es/\pos dn es 1<bA dn 1/\vd t.c=true/\Ok0 t.c){o2:Ob}(c2:∀l,aC l o2=true):
  ∀ (k i:Nat),i+k=A.length->∀ (cs:List Ri) (g:G),jo (bA dn 1) cs g->∀ (s:ak) (h:ac) (X:Option (Ex×St)),aj 6 [6] (au (ai R (az false) lM) [6,82,83,84] [2,21,24,2624] s h)=X->s 6=.ref 24 none 0 0 0->s 82=.sl 4 (aH A)->s 83=I A.length->s 84=I i->h 2=o2->h 21=.dead->h 24=bC (dI dn) cs p->h 2624=.dead->
  ∃hh cs',X=some (.normal,⟨upd (fun _=>.any) 6 (.ref 24 none 0 0 0),hh⟩)/\hh 24=bC (dI dn) cs' p/\jo (bA dn 1) cs' (gT dn (A.drop i) (E.drop i) g):=by
 intro k;induction k with
 |zero=>
  intro i hi cs g he s h X hX g6 g82 g83 g84 k2 k21 k24 k2624;subst hX;have e1:((i:Int)< (A.length:Int))=False:=ff;have hc:=c2 [2,21,24,2624];have hg:=(cj (dI dn) cs p).cl [2,21,24,2624];rw[axi (show A.length<=i by omega),ag];refine⟨?hh0,cs,?_,?_,he⟩;rotate_left
  ·simp only[lM,go_sem,g6,g82,g83,g84,k2,k21,k24,k2624,hc,hg,e1];rfl
  ·rfl
 |succ k ih=>
  intro i hi cs g he s h X hX g6 g82 g83 g84 k2 k21 k24 k2624;subst hX;have hlt:i<A.length:=by omega
  have e1:((i:Int)< (A.length:Int))=True:=tt;obtain⟨t,ht⟩:∃t,A[i]?=some t:=⟨_,List.getElem?_eq_getElem hlt⟩;obtain⟨es,hes⟩:∃es,E[i]?=some es:=⟨_,List.getElem?_eq_getElem (by omega)⟩;obtain⟨⟨n1,n2,n3⟩,n4,n5,n6⟩:=hn i t es ht hes;have hgT:gT dn (A.drop i) (E.drop i) g=gT dn (A.drop (i+1)) (E.drop (i+1)) (gs g (pos dn es 1) (qv t.c)):=by
   have h1:A[i]=t:=Option.some.inj (by rw[←ht,List.getElem?_eq_getElem hlt]);have h2:E[i]'(by omega)=es:=Option.some.inj (by rw[←hes,List.getElem?_eq_getElem (by omega)]);rw[axh hlt,axh (by omega:i<E.length),h1,h2];rfl
  have e2:aW (aH A) (i:Int)=some (.ipt (bD t)):=eZ rfl ht;have e5:IntKind.i64.wrap ((i:Int)+1)=((i+1:Nat):Int):=wi;have e3:(aS (dI es)).length=v:=by rw[CW,GB,n2]
  rw[bD,n1]at e2;have h0:=ajI (cs:=cs) (p:=p) h8 hd hb hN4 n2 n3 c2 (o15:=.bx [.sl 1 (aS (dI es)),B t.c.neg,lm t.c.m,I t.c.e]) (fun _=>rfl) (A:=A) (nA:=A.length) (iA:=i) v 0 (awP _) 0 (by
   show 0+pos dn es 1<=400;omega)
  have hp0:0+pos (dn.drop 0) (es.drop 0) (bA (dn.take 0) 1)=pos dn es 1:=awP _;rw[hp0]at h0;have hpt:=iD n6 n5;have ih':=ih (i+1) (by omega) _ _ (he.set (k:=pos dn es 1) (rQ n5 n6));rw[hgT];generalize pos dn es 1=P at*
  have i1:(0<=(P:Int))=True:=tt;have i2:((P:Int)< (cs.length:Int))=True:=eq_true (by rw[he.1];omega);have sr1:qW 7 7 P 0 (ao ⟨t.c,t.c,false⟩) 7 (bL cs)=some (bL (cs.set P ⟨t.c,t.c,false⟩)):=GA (by grind);have hc:=c2 [2,21,24,2624];have hg:=(cj (dI dn) cs p).cl [2,21,24,2624];simp only[ae,ah,am,ao]at hpt;simp only[ao]at sr1;rw[ag];simp only[lM,go_sem,g6,g82,g83,g84,k2,k21,k24,k2624,hc,hg,e1,e2,e3];generalize hX:aj 8 _ _=X;obtain⟨hh,rfl,q2,q15,q24,qd⟩:=h0 _ _ _ hX rfl rfl rfl rfl rfl rfl rfl rfl rfl rfl rfl rfl rfl rfl;have b1:=qd 2888 (by decide) (by decide) (by decide);have b2:=qd 2624 (by decide) (by decide) (by decide);have b3:=qd 21 (by decide) (by decide) (by decide);simp only[bC]at q24;simp only[go_sem,q15,q24,b1,hpt,i1,i2,awY,awP,Gz,sr1,e5];exact ih' _ _ _ rfl rfl rfl rfl rfl q2 b3 rfl b2
theorem aey:∀ (dn es:List Nat),dn.length=es.length->(∀j,es.getD j 0<=dn.getD j 0)->OK dn es
 |[],[],_,_=>trivial
 |d::dn,e::es,h,hj=>⟨hj 0,aey dn es (by grind) fun j=>hj (j+1)⟩
 |[],_::_,h,_=>by grind
 |_::_,[],h,_=>by grind
theorem M5:∀ (dn:List Nat) (xs:List Rat),xs.length=dn.length->∀n,zY (pz dn xs) n=bA dn n
 |[],[],_,_=>rfl
 |d::dn,x::xs,h,n=>M5 dn xs (by grind) (n*(d+1))
 |[],_::_,h,_=>by grind
 |_::_,[],h,_=>by grind
theorem Zn:∀ (dn:List Nat) (n:Nat),n<=400->CL (dI dn) (n:Int)=none\/CL (dI dn) (n:Int)=some ((bA dn n:Nat):Int)/\bA dn n<=400
 |[],n,h=>Or.inr ⟨rfl,h⟩
 |d::dn,n,h=>by
  have e:CL (dI (d::dn)) (n:Int)=if 400< (n:Int)*(Int.ofNat d+1)then none else CL (dI dn) ((n:Int)*(Int.ofNat d+1)):=rfl
  have e2:(n:Int)*(Int.ofNat d+1)=((n*(d+1):Nat):Int):=by rfl
  rw[e,e2];split
  ·exact Or.inl rfl
  ·exact Zn dn (n*(d+1)) (by omega)
def GP(v:Nat)(A:List Rt)(E:List (List Nat))(p:Int)(r:AV×List Ob):Prop:=r=(.tup [.v (.pointer none),B false],[])\/∃dn cs,r=(.tup [.obx [.osl 1 (aS (dI dn)),.osl 7 (bL cs),I p],B true],[])/\dn.length=v/\(∀d∈dn,d<=32)/\(∀es∈E,OK dn es)/\bA dn 1<=400/\jo (bA dn 1) cs (gT dn A E fun _=>0)
theorem aez{v:Nat}{p:Int}(h8:v<=8){A:List Rt}{E:List (List Nat)}(hA:A.length=E.length)(h5:A.length<=500)(hn:∀ (i:Nat) (t:Rt) (es:List Nat),A[i]?=some t->E[i]?=some es->Nt v t es/\vd t.c=true/\Ok0 t.c):
  ∃r,R F.bound_gridOf [.agg [I v,.sl 4 (aH A)],I p] []=some r/\GP v A E p r:=by
 have z1:qX (.v (.int .i64 (v:Int))) (.v (.int .i64 (v:Int)))=some (v,v):=by
  simp only[qX];grind
 have z2:(v*8<=140737488355328)=True:=tt;have zr:awO v [I 0]=aS (dI (awO v 0)):=by grind[aS,dI,List.map_replicate]
 have hl:(aS (dI (awO v 0))).length=v:=by grind
 have h4:=ajH (p:=p) h8 hA h5 (fun i t es h1 h2=>(hn i t es h1 h2).1) (o2:=.bx [I v,.sl 4 (aH A)]) (fun _=>rfl) A.length 0 (awP _) (awO v 0) (by simp) (fun d hd=>by grind);have hrl:=sW A;refine KN (r:=fun a=>a) AA.2.1 AA.2.2 (AA.1.2.2.2 false) rfl (axJ rfl) ?_;have hh0:ap []=fun _=>.dead:=by funext i;simp[ap]
 simp only[y6,F0,hh0,go_sem,axI,z1,z2,zr];rw[al3 (k:=1) (rows:=aS (dI (awO v 0))) rfl hl.symm rfl (by decide)];simp only[go_sem];generalize hX:aj 0 _ _=X;obtain⟨hh,dn,rfl,q2,q24,q21,q2624,d1,d2,d3,d4⟩:=h4 _ _ _ hX rfl rfl rfl rfl rfl rfl rfl rfl rfl;have hdl:(dI dn).length=v:=by rw[GB,d1]
 have hbI:∀d∈dI dn,0<=d/\d<=32:=fun d hd=>by
  obtain⟨x,hx,rfl⟩:=List.mem_map.1 hd;grind
 simp only[go_sem,q2,q24,q21,q2624,hdl,CW];generalize hX:aj 4 _ _=X;have hM:=aot (ds:=dI dn) (p:=p) hdl.symm (by omega) hbI (o2:=.bx [I v,.sl 4 (aH A)]) (fun _=>rfl) _ _ _ hX rfl rfl rfl rfl rfl rfl q2 q21 q24 q2624;rcases Zn dn 1 (by decide)with hm| ⟨hm,h4⟩
 ·rw[show(1:Int)=((1:Nat):Int)from rfl,hm]at hM;obtain⟨hh2,rfl⟩:=hM;refine⟨_,?_,Or.inl rfl⟩;simp only[go_sem]
 rw[show(1:Int)=((1:Nat):Int)from rfl,hm]at hM;obtain⟨hh,rfl,q2,q24,qd⟩:=hM;have hle:∀es∈E,OK dn es:=fun es he=>by
  obtain⟨i,hi⟩:=List.getElem?_of_mem he;have hiE:=(List.getElem?_eq_some_iff.1 hi).1;have:=(hn i _ es (List.getElem?_eq_getElem (by omega)) hi).1.2.1;exact aey dn es (by omega) (d4 i es (axz _) hi)
 have hpt:=iD aU.2 aU.1;have hrp:=aew (x:=OA) (nu dn 1 (by decide)) h4;have h1:=ajJ (p:=p) h8 d1 d2 h4 hA h5 (fun i t es h1 h2=>by
  obtain⟨a,b,c⟩:=hn i t es h1 h2;refine⟨a,?_,b,c⟩;have hL:=hle es (List.mem_of_getElem? h2);have:=aeh dn es (awO dn.length 0) hL (by simp) 1 0 (by decide)
  simp_all[M5,awP]) (o2:=.bx [I v,.sl 4 (aH A)]) (fun _=>rfl) A.length 0 (awP _) (awO (bA dn 1) OA) (fun _=>0) ⟨by simp,fun k x hx=>by
   rw[List.getElem?_replicate]at hx;split at hx
   ·cases hx;rw[←HC];exact rQ aU.1 aU.2
   grind⟩
 generalize awO (bA dn 1) OA=cs0 at hrp h1;have b1:=qd 2600 (by decide) (by decide);have b2:=qd 76 (by decide) (by decide);have b3:=qd 2624 (by decide) (by decide);have b4:=qd 21 (by decide) (by decide);simp only[ae,ah,am,ao,aI,OA]at hpt hrp;simp only[ao,go_sem,q24,b1,b2,b3,hpt,hrp];rw[CJ (h:=upd (upd (upd hh 76 _) 76 _) 2624 (.ar 7 (bL cs0))) (id:=24) (p:=1) (id2:=2624) (k:=7) (n:=cs0.length) rfl (Yr _).symm q24 (by decide) (by grind)];simp only[go_sem,al2,axV,q2,hrl];generalize hX:aj 6 _ _=X;obtain⟨hh2,cs2,rfl,r24,he2⟩:=h1 _ _ _ hX rfl rfl rfl rfl q2 b4 rfl rfl;refine⟨_,?_,Or.inr ⟨dn,cs2,rfl,d1,d2,hle,h4,he2⟩⟩;simp only[bC]at r24;simp only[go_sem,r24];rw[if_pos (by rfl)];have e:rh hh2 (.ref 24 none 0 0 0)=some (.obx [.osl 1 (aS (dI dn)),.osl 7 (bL cs2),I p]):=by
  have hp:bg 24=false:=rfl;simp[rh,lU,ZM,r24,hp];exact⟨rfl,rfl,rfl⟩
 rw[e];rfl
def qT:List Nat->List Rat->List (Nat×LF)
 |d::ds,t::ts=>(d,fun v=>dc t v d 0)::qT ds ts
 |_,_=>[]
theorem aeA:∀ (ds:List Nat) (ts:List Rat),OJ (qT ds ts)
 |d::ds,t::ts=>fun p hp=>by
  rcases List.mem_cons.1 hp with rfl|hp
  ·simp_all[OI]
  ·exact aeA ds ts p hp
 |[],_=>fun _ h=>by grind[qT]
 |_::_,[]=>fun _ h=>by grind[qT]
theorem Qt:∀ (dn:List Nat) (ts:List Rat),ts.length=dn.length->∀n,zY (qT dn ts) n=bA dn n
 |[],[],_,_=>rfl
 |d::dn,x::xs,h,n=>Qt dn xs (by grind) (n*(d+1))
 |[],_::_,h,_=>by grind
 |_::_,[],h,_=>by grind
theorem Wm:∀ (dn:List Nat) (ts:List Rat),ts.length=dn.length->∀d t,qT (dn++[d]) (ts++[t])=qT dn ts++[(d,fun v=>dc t v d 0)]
 |[],[],_,_,_=>rfl
 |d::dn,x::xs,h,d',t'=>by
  show _::qT (dn++[d']) (xs++[t'])=_::(qT dn xs++_);rw[Wm dn xs (by simpa using h)]
 |[],_::_,h,_,_=>by grind
 |_::_,[],h,_,_=>by grind
theorem Wn:∀ (a b:List Nat) (n:Nat),bA (a++b) n=bA b (bA a n)
 |[],_,_=>rfl
 |d::a,b,n=>Wn a b (n*(d+1))
theorem ag6{dn1 dn2:List Nat}{n N:Nat}{xs2 ts1:List Rat}(h1:ts1.length=dn1.length)(h2:xs2.length=dn2.length)(hN:N=bA (dn1++n::dn2) 1){x t lo w:Rat}(hx:x=lo+w*t)(g:G):
  ic (qT dn1 ts1++(n,fun v=>pl x v 0 (n+1))::pz dn2 xs2) 1 0 g=
   ic (qT dn1 ts1++(n,fun v=>dc t v n 0)::pz dn2 xs2) 1 0 (ps (fun f=>OE n (fun j=>f+j*bA dn1 1)) (bA dn1 1) n N 0 (ps (fun f=>OD lo w n (fun j=>f+j*bA dn1 1)) (bA dn1 1) n N 0 g)):=by
 have hs:=nu dn1 1 (by decide);have ht1:=Qt dn1 ts1 h1 1;have ht2:=M5 dn2 xs2 h2;rw[Wn]at hN;have hN:N=bA dn2 (bA dn1 1*(n+1)):=hN;generalize bA dn1 1=s at*
 have hi:∀f a b:Nat,f+a*s=f+b*s↔a=b:=fun f a b=>⟨fun h=>Nat.eq_of_mul_eq_mul_right (by omega) (Nat.add_left_cancel h),fun h=>by rw[h]⟩;have c1:pC (n+1) fun v=>pl x v 0 (n+1):=JI _ _ (by simp);have c2:pC (n+1) fun v=>pl t v 0 (n+1):=JI _ _ (by simp);have c3:pC (n+1) fun v=>dc t v n 0:=OI _ _ (by simp);have key:∀ (L L':LF) (op:Nat->G->G) (g:G),pC (n+1) L->pC (n+1) L'->(∀f g,(∀a,(∀m,m<=n->a≠f+m*s)->op f g a=g a)/\L (fun m=>g (f+m*s))=L' (fun m=>op f g (f+m*s)))->
   ic (qT dn1 ts1++(n,L)::pz dn2 xs2) 1 0 g=ic (qT dn1 ts1++(n,L')::pz dn2 xs2) 1 0 (ps op s n N 0 g):=fun L L' op g hL hL' hop=>by
  refine Wd hL hL' (KI dn2 xs2) (qT dn1 ts1) (aeA dn1 ts1) 1 0 (by decide) fun i0 q hi0 hq=>?_;rw[ht1]at hi0 hq⊢;refine(aoo (by omega) hL hL' hop N 0 g).2 _ (axz _) ?_ ?_
  ·grind
  ·have e:i0+q*(s*(n+1))=i0+q*(n+1)*s:=by grind
   rw[e,Nat.add_mul_div_right _ _ (by omega),Nat.div_eq_of_lt hi0,awP,Nat.mul_mod_left]
 rw[key _ _ (fun f=>OD lo w n (fun j=>f+j*s)) g c1 c2 fun f g=>alV hx (hi f) n g];exact key _ _ (fun f=>OE n (fun j=>f+j*s)) _ c2 c3 fun f g=>alW (hi f) n g
theorem aeB{dn:List Nat}{xs:List Rat}(hx:xs.length=dn.length):∀ (A:List Rt) (E:List (List Nat)) (g:G),A.length=E.length->(∀es∈E,OK dn es)->E.Nodup->(∀es∈E,g (pos dn es 1)=0)->(∀ (i:Nat) (t:Rt) (es:List Nat),A[i]?=some t->E[i]?=some es->t.exps=dI es)->
  ic (pz dn xs) 1 0 (gT dn A E g)=ic (pz dn xs) 1 0 g+fv xs A
 |[],[],g,_,_,_,_,_=>by
  show _=_+0;rw[Rat.add_zero];rfl
 |t::A,es::E,g,hA,hle,hnd,h0,hE=>by
  obtain⟨hn1,hn2⟩:=List.nodup_cons.1 hnd;have hes:=hE 0 t es rfl rfl;have hxn:D8 t.exps=es:=by
   rw[hes];unfold D8 dI;rw[List.map_map];exact(axy (g:=fun c=>c) fun x _=>by simp).trans (axN _)
  show ic (pz dn xs) 1 0 (gT dn A E (gs g (pos dn es 1) (qv t.c)))=_;rw[aeB hx A E _ (by grind) (fun e he=>hle e (by grind)) hn2 (fun e he=>by
   unfold gs;rw[if_neg fun hq=>?_]
   ·grind
   ·have:=(Zc dn e es (hle e (by grind)) (hle es (by simp)) 1 0 0 (by decide) (by decide) (by omega)).2;grind) fun i u e h1 h2=>hE (i+1) u e h1 h2]
  rw[alX (KI dn xs),h0 es (by simp)];have hm:=Zb dn es xs (hle es (by simp)) hx 1 0 0 (by decide) (by decide);grind[qv,JJ,D8,fv]
 |[],_::_,_,h,_,_,_,_=>by grind
 |_::_,[],_,h,_,_,_,_=>by grind
theorem ag7{ls:List (Nat×LF)}(ok:OJ ls)(s i:Nat):ic ls s i (fun _=>0)=0:=by
 have:=Qp (a:=0) (c:=0) (g:=fun _=>0) (h:=fun _=>0) ls ok s i;grind
theorem al8{lo hi:Rat}{g:G}{dn:List Nat}{ts:List Rat}(hl:ts.length=dn.length)(ht:∀t∈ts,0<=t/\t<=1)(h:∀k,k<bA dn 1->lo<=g k/\g k<=hi):lo<=ic (qT dn ts) 1 0 g/\ic (qT dn ts) 1 0 g<=hi:=by
 refine Za (qT dn ts) ?_ 1 0 fun q hq=>?_
 ·have:∀ (dn:List Nat) (ts:List Rat),(∀t∈ts,0<=t/\t<=1)->∀p∈qT dn ts,∀v:G,(∀j,j<=p.1->lo<=v j/\v j<=hi)->lo<=p.2 v/\p.2 v<=hi:=by
   intro dn;induction dn with
   |nil=>grind[qT]
   |cons d dn ih=>
    intro ts ht p hp v hv;cases ts with
    |nil=>grind[qT]
    |cons t ts=>
     rcases List.mem_cons.1 hp with rfl|hp
     all_goals grind[Wc]
  exact this dn ts ht
 grind[Qt]
theorem Wo{l:List Int}(h:∀e∈l,0<=e):l=dI (D8 l):=by
 grind[dI,D8,List.map_map,axy,Int.toNat_of_nonneg,axN]
def JU(l:List Rt):List (List Nat):=l.map fun t=>D8 t.exps
theorem ag8{v:Int}{l:List Rt}(c:Cl v l):(JU l).Nodup:=by
 have h1:l.Pairwise fun a b=>a.exps≠b.exps:=c.s.imp fun h=>(RJ h).symm;unfold JU;rw[List.nodup_iff_pairwise_ne,List.pairwise_map];refine List.Pairwise.imp_of_mem (fun{a b} ha hb h he=>h ?_) h1;rw[Wo fun e hx=>((c.t a ha).b e hx).1,Wo fun e hx=>((c.t b hb).b e hx).1,he]
theorem ahT{v:Nat}{l:List Rt}(c:Cl v l)(i:Nat)(t:Rt)(es:List Nat)(h1:l[i]?=some t)(h2:(JU l)[i]?=some es):Nt v t es/\vd t.c=true/\Ok0 t.c:=by
 have hm:=c.t t (List.mem_of_getElem? h1);unfold JU at h2;rw[List.getElem?_map,h1]at h2;have h2:D8 t.exps=es:=Option.some.inj h2;subst h2;refine⟨⟨Wo fun e hx=>(hm.b e hx).1,?_,fun e he=>?_⟩,hm.vc,hm.c⟩
 ·have:=hm.len;grind[D8,List.length_map]
 ·obtain⟨z,hz,rfl⟩:=List.mem_map.1 he;have:=hm.b z hz;omega
def qo(o:Option Rd):Rat:=qv (o.getD aI)
theorem Qu{x:Rat}:∀ (l:List Rt) (o0 o1:Option Rd),(∀t∈l,t.exps=[0]/\o0=none\/t.exps=[1]/\o1=none)->l.Pairwise (fun a b=>a.exps≠b.exps)->∃p0 p1,AM l [o0,o1]=[p0,p1]/\qo p0+qo p1*x=qo o0+qo o1*x+fv [x] l
 |[],o0,o1,_,_=>⟨o0,o1,rfl,by show _=_+0;grind⟩
 |t::l,o0,o1,h,hp=>by
  obtain⟨p1,p2⟩:=List.pairwise_cons.1 hp;have q0:qo none=0:=HC;unfold AM;rcases h t (by simp)with⟨he,rfl⟩| ⟨he,rfl⟩
  ·have hs:[none,o1].set (wC 1 t.exps 0+1).toNat (some t.c)=[some t.c,o1]:=by rw[he];rfl
   rw[hs];obtain⟨a,b,e1,e2⟩:=Qu (x:=x) l (some t.c) o1 (fun u hu=>by
    grind) p2
   refine⟨a,b,e1,?_⟩;rw[e2];show qv t.c+_+_=_+(qv t.c*JJ [x] (D8 t.exps)+fv [x] l);rw[he,q0];show _=_+(qv t.c*(x^0*1)+_);grind
  ·have hs:[o0,none].set (wC 1 t.exps 0+1).toNat (some t.c)=[o0,some t.c]:=by rw[he];rfl
   rw[hs];obtain⟨a,b,e1,e2⟩:=Qu (x:=x) l o0 (some t.c) (fun u hu=>by
    grind) p2
   refine⟨a,b,e1,?_⟩;rw[e2];show _+qv t.c*x+_=_+(qv t.c*JJ [x] (D8 t.exps)+fv [x] l);rw[he,q0];show _=_+(qv t.c*(x^1*1)+_);grind
theorem aeC{a:Rp}(oa:OkP a)(hl:E3 a=true)(h1:a.vars=1)(x:Rat):∃c m,Hx a=[c,m]/\fv [x] a.terms=qv c+qv m*x:=by
 obtain⟨hv,hd⟩:=aiX hl;obtain⟨cl,_⟩:=il oa hv;obtain⟨p0,p1,e1,e2⟩:=Qu (x:=x) a.terms none none (fun t ht=>by
  obtain⟨s1,s2,s3,s4,s5⟩:=Gq hv ht;obtain⟨e,he⟩:=aiY (s2.trans h1);have h3:=s1.2 e (by grind);grind[bh]) (cl.s.imp fun h=>(RJ h).symm)
 refine⟨p0.getD aI,p1.getD aI,?_,?_⟩
 ·simp_all[Hx,Yy,AM]
 grind[qo,HC,p0]
theorem ag9{c m:Rd}{b:Ri}{x:Rat}{p:Int}(vc:vd c=true/\Ok0 c)(vm:vd m=true/\Ok0 m)(hp:bJ p=true)(hb:In x b)(hk:kI b=true):In (qv c+qv m*x) (Hy c m b p):=by
 rcases hb.k with⟨rfl,h1⟩| ⟨_,x1,x2⟩
 ·grind
 have hq:∀ {y:Rd},(dt m y).2=0->qv (dt m y).1=qv m*qv y:=fun{y} h=>by
  have h1:=aiW h;have h2:=(OG (z:=zI m*zI y) (r:=zI (dt m y).1) 16384).1 (Int.le_of_eq h1.symm);have h3:=(OG (z:=zI m*zI y) (r:=zI (dt m y).1) 16384).2 (Int.le_of_eq h1);unfold qv EQ;grind
 unfold Hy abC;split
 ·next h=>
  have v1:=Kt m (Rz m b);have v2:=Kt m (RA m b);have ok:∀ {a b:Rd} {up:Bool},vd (di a b p up).1=true/\Ok0 (di a b p up).1:=fun{a b up}=>by
   grind[di,sK,aU]
  have hm:qv m*qv (Rz m b)<=qv m*x/\qv m*x<=qv m*qv (RA m b):=by
   unfold Rz RA;by_cases hs:cO m<0
   ·have h0:=(HF vm.1).2.1 hs;have a:=Rat.mul_le_mul_of_nonneg_left x1 (show 0≤-qv m by grind);have b:=Rat.mul_le_mul_of_nonneg_left x2 (show 0≤-qv m by grind);grind
   ·have h0:0<=qv m:=Rat.not_lt.1 fun h=>hs ((HF vm.1).2.2 h);grind[Rat.mul_le_mul_of_nonneg_left]
  refine Tp ok ok (fun h=>?_) (fun h=>?_)
  all_goals grind[Wb]
 ·exact Or.inl rfl
def tP:List Ri->List Rat->List Rat->Prop
 |b::dom,x::xs,t::ts=>x=qv b.lo+(qv b.hi-qv b.lo)*t/\0<=t/\t<=1/\tP dom xs ts
 |[],[],[]=>True
 |_,_,_=>False
theorem tP.len:∀ {dom:List Ri} {xs ts:List Rat},tP dom xs ts->xs.length=dom.length/\ts.length=dom.length
 |_::_,_::_,_::_,h=>by
  obtain⟨a,b⟩:=tP.len h.2.2.2;grind
 |[],[],[],_=>⟨rfl,rfl⟩
 |[],_::_,_,h=>h.elim
 |[],[],_::_,h=>h.elim
 |_::_,[],_,h=>h.elim
 |_::_,_::_,[],h=>h.elim
theorem tP.get:∀ {dom:List Ri} {xs ts:List Rat},tP dom xs ts->∀ {i:Nat} {b:Ri},dom[i]?=some b->∃x t,xs[i]?=some x/\ts[i]?=some t/\x=qv b.lo+(qv b.hi-qv b.lo)*t
 |b::_,x::_,t::_,h,0,b',hb=>by
  have:b=b':=by grind
  subst this;exact⟨x,t,rfl,rfl,h.1⟩
 |_::_,_::_,_::_,h,i+1,b,hb=>tP.get h.2.2.2 (i:=i) (by grind)
 |[],_,_,_,_,_,hb=>by grind
 |_::_,[],_,h,_,_,_=>h.elim
 |_::_,_::_,[],h,_,_,_=>h.elim
theorem tP.t01:∀ {dom:List Ri} {xs ts:List Rat},tP dom xs ts->∀t∈ts,0<=t/\t<=1
 |_::_,_::_,_::_,h,t,ht=>by
  rcases List.mem_cons.1 ht with rfl|ht
  ·exact⟨h.2.1,h.2.2.1⟩
  ·exact tP.t01 h.2.2.2 t ht
 |[],[],[],_,t,ht=>by grind
 |[],_::_,_,h,_,_=>h.elim
 |[],[],_::_,h,_,_=>h.elim
 |_::_,[],_,h,_,_=>h.elim
 |_::_,_::_,[],h,_,_=>h.elim
theorem aha{dn:List Nat}{i n:Nat}(h:dn[i]?=some n):dn.take i++n::dn.drop (i+1)=dn/\dn.drop i=n::dn.drop (i+1)/\dn.take (i+1)=dn.take i++[n]:=by
 grind[List.take_append_drop,List.take_add_one]
theorem ajK{dom:List Ri}{dn:List Nat}{p:Int}{v:Nat}(h8:v<=8)(hd:dn.length=v)(hdl:dom.length=v)(hb:∀d∈dn,d<=32)(hN4:bA dn 1<=400)(od:∀b∈dom,VI b){c6:List AV}(hc6:aC [6,2368] (.bx c6)=true):
  ∀ (k i:Nat),i+k=v->∀ (cs:List Ri) (g:G),jo (bA dn 1) cs g->∀ (s:ak) (h:ac) (X:Option (Ex×St)),aj 0 [6,9] (au (ai R (az false) lY) [1,6,9,56,57] [6,2368] s h)=X->s 1=.sl 7 (bL dom)->s 6=.ref 6 none 0 0 0->s 9=.ref 2368 none 0 0 0->s 56=I v->s 57=I i->h 6=.bx c6->h 2368=bC (dI dn) cs p->
  ∃hh cs' g',X=some (.normal,⟨upd (upd (fun _=>.any) 9 (.ref 2368 none 0 0 0)) 6 (.ref 6 none 0 0 0),hh⟩)/\hh 6=.bx c6/\hh 2368=bC (dI dn) cs' p/\(∀a,a≠6->a≠2368->hh a=.dead)/\jo (bA dn 1) cs' g'/\
   ∀xs ts:List Rat,tP dom xs ts->ic (qT (dn.take i) (ts.take i)++pz (dn.drop i) (xs.drop i)) 1 0 g=ic (qT dn ts) 1 0 g':=by
 intro k;induction k with
 |zero=>
  intro i hi cs g he s h X hX g1 g6 g9 g56 g57 k6 k2368;subst hX;have e1:((i:Int)< (v:Int))=False:=ff;have hg:=(cj (dI dn) cs p).cl [6,2368];rw[ag];refine⟨?hh0,cs,g,?_,?_,?_,?_,he,fun xs ts hp=>?_⟩;rotate_left
  ·simp only[lY,go_sem,g1,g6,g9,g56,g57,k6,k2368,hc6,hg,e1];rfl
  ·rfl
  ·rfl
  ·simp_all[azJ,if_false]
  ·obtain⟨l1,l2⟩:=hp.len;rw[axg (by omega),axg (by omega),axi (by omega)];show ic (qT dn ts++[]) 1 0 g=_;grind
 |succ k ih=>
  intro i hi cs g he s h X hX g1 g6 g9 g56 g57 k6 k2368;subst hX;have hlt:i<v:=by omega
  have e1:((i:Int)< (v:Int))=True:=tt;obtain⟨b,hb0⟩:∃b,dom[i]?=some b:=⟨_,List.getElem?_eq_getElem (by omega)⟩;obtain⟨n,hn⟩:∃n,dn[i]?=some n:=⟨_,List.getElem?_eq_getElem (by omega)⟩;have e2:aW (bL dom) (i:Int)=some (.ipt (ao b)):=CR rfl hb0;have e5:IntKind.i64.wrap ((i:Int)+1)=((i+1:Nat):Int):=wi;have vb:=od b (List.mem_of_getElem? hb0);have hg:=(cj (dI dn) cs p).cl [6,2368];obtain⟨cs1,hR1,he1⟩:=ajE (p:=p) vb.1 vb.2 hn (by omega) hb hN4 he;obtain⟨cs2,hR2,he2⟩:=ajD (p:=p) hn (by omega) hb hN4 he1;have hu:=fun(h:ac) (d:Nat) (hh:h 2368=bC (dI dn) cs p) (hd:h (2000+8*d)=.dead)=>dF (gI.1.2.1 false) (by rfl) (Hz (gI.1.2.1 false) (gI.1.2.2.2 false) (zas:=[I i,am b]) (as':=[I i,am b]) (by rw[gI.1.1];simp only[am,ao,go_sem]) rfl rfl hh (cj _ _ _) (cj _ _ _) (fun _=>rfl) hR1 agt (d:=d) (by decide) rfl);have hbn:=fun(h:ac) (d:Nat) (hh:h 2368=bC (dI dn) cs1 p) (hd:h (2000+8*d)=.dead)=>dF (ed.1.2.1 false) (by rfl) (Hz (ed.1.2.1 false) (ed.1.2.2.2 false) (zas:=[I i]) (as':=[I i]) (by rw[ed.1.1];rfl) rfl rfl hh (cj _ _ _) (cj _ _ _) (fun _=>rfl) hR2 agt (d:=d) (by decide) rfl);have ih':=ih (i+1) (by omega) _ _ he2;rw[ag];generalize au _ _ _=L at ih'⊢;simp only[am,ao]at e2 hu;simp only[lY,go_sem,g1,g6,g9,g56,g57,k6,k2368,hc6,hg,e1,e2];rw[hu _ _ rfl rfl];simp only[go_sem];rw[hbn _ _ rfl rfl];simp only[go_sem,e5];generalize hX:aj 0 _ _=X;obtain⟨hh,cs',g',q1,q2,q3,q4,q5,q6⟩:=ih' _ _ _ hX rfl rfl rfl rfl rfl rfl rfl;refine⟨hh,cs',g',q1,q2,q3,q4,q5,fun xs ts hp=>?_⟩;obtain⟨l1,l2⟩:=hp.len;obtain⟨x,t,hx,ht,hxt⟩:=hp.get hb0;rw[←q6 xs ts hp];obtain⟨d1,d2,d3⟩:=aha hn;have hxd:xs.drop i=x::xs.drop (i+1):=by
   grind[axh]
  have htd:ts.take (i+1)=ts.take i++[t]:=by
   grind[List.take_add_one]
  rw[d2,d3,hxd,htd,Wm _ _ (by grind),axL];exact ag6 (by grind) (by grind) (by rw[d1]) hxt g
theorem ajL{ds:List Int}{p:Int}{N:Nat}(hN:N<=400){cs:List Ri}{g:G}(he:jo N cs g){c6:List AV}(hc6:aC [6,12,2368] (.bx c6)=true):∀ (k i:Nat),i+k=N->∀out:Ri,OkI out->(∀j,j<i->In (g j) out)->(∃q,In q out)->∀ (s:ak) (h:ac) (X:Option (Ex×St)),aj 2 [6,12] (au (ai R (az false) lX) [6,12,80,81,82] [6,12,2368] s h)=X->
  s 6=.ref 6 none 0 0 0->s 12=.ref 12 none 0 0 0->s 80=.rsl 2368 (some 1) 7 0 N->s 81=I N->s 82=I i->h 6=.bx c6->h 12=fJ out->h 2368=bC ds cs p->
  ∃hh out',X=some (.normal,⟨upd (upd (fun _=>.any) 12 (.ref 12 none 0 0 0)) 6 (.ref 6 none 0 0 0),hh⟩)/\hh 6=.bx c6/\hh 12=fJ out'/\OkI out'/\(∀j,j<N->In (g j) out'):=by
 intro k;induction k with
 |zero=>
  intro i hi out oo ho hq s h X hX g6 g12 g80 g81 g82 k6 k12 k2368;subst hX;have e1:((i:Int)< (N:Int))=False:=ff;have hg:=(cj ds cs p).cl [6,12,2368];have hoc:=(fS out).cl [6,12,2368];rw[ag];refine⟨?hh0,out,?_,?_,?_,oo,fun j hj=>ho j (by omega)⟩;rotate_left
  ·simp only[lX,go_sem,g6,g12,g80,g81,g82,k6,k12,k2368,hc6,hg,hoc,e1];rfl
  ·rfl
  ·rfl
 |succ k ih=>
  intro i hi out oo ho hq s h X hX g6 g12 g80 g81 g82 k6 k12 k2368;subst hX;have e1:((i:Int)< (N:Int))=True:=tt;have e5:IntKind.i64.wrap ((i:Int)+1)=((i+1:Nat):Int):=wi;obtain⟨x,x1,x2⟩:=he.get (k:=i) (by omega);have q1:(bL cs)[i]?=some (ao x):=by grind[bL]
  have i1:(0<=(i:Int))=True:=tt;have hg:=(cj ds cs p).cl [6,12,2368];have hoc:=(fS out).cl [6,12,2368];have ch:=agO oo x2.ok;have ih':=ih (i+1) (by omega) (KG out x) (by
   obtain⟨q,hq⟩:=hq;exact(HD hq x2).1.ok) (fun j hj=>by
   obtain⟨q,hq⟩:=hq;by_cases hji:j=i
   ·subst hji;exact(HD hq x2).2
   ·exact(HD (ho j (by omega)) x2).1) ⟨_,(HD hq.choose_spec x2).1⟩
  rw[ag];simp only[am,ao]at ch;simp only[ao]at q1;simp only[bC]at k2368 hg;simp only[fJ]at k12 hoc;simp only[lX,go_sem,g6,g12,g80,g81,g82,k6,k12,k2368,hc6,hg,hoc,e1,i1,yr,CX,awY,awP,q1,ch,e5];exact ih' _ _ _ rfl rfl rfl rfl rfl rfl rfl rfl rfl
def BrG(a:Rp)(dom:List Ri)(p:Int)(b:Ri):Prop:=(∀xs ts:List Rat,tP dom xs ts->In (fv xs a.terms) b)/\((ni a dom&&bJ p)=false->b=dN)
theorem tP.inL:∀ {dom:List Ri} {xs ts:List Rat},(∀b∈dom,kI b=true/\VI b)->tP dom xs ts->InL xs dom
 |b::_,x::_,t::_,hk,h=>by
  obtain⟨h1,h2,h3,h4⟩:=h;obtain⟨k1,k2⟩:=hk b (by simp);refine⟨Or.inr ⟨?_,k2,?_⟩,tP.inL (fun b hb=>hk b (by grind)) h4⟩
  ·unfold kI at k1;grind
  ·have hle:qv b.lo<=qv b.hi:=by
    rw[zM];unfold kI vi at k1;grind
   have a:=Rat.mul_nonneg (show 0<=qv b.hi-qv b.lo by grind) h2;have b:=Rat.mul_nonneg (show 0<=qv b.hi-qv b.lo by grind) (show 0<=1-t by grind);grind
 |[],[],[],_,_=>trivial
 |[],_::_,_,_,h=>h.elim
 |[],[],_::_,_,h=>h.elim
 |_::_,[],_,_,h=>h.elim
 |_::_,_::_,[],_,h=>h.elim
theorem OU{a:Rp}{dom:List Ri}(od:∀x∈dom,OkI x)(hd:ni a dom=true):vp a=true/\(dom.length:Int)=a.vars/\∀b∈dom,kI b=true/\VI b:=by
 unfold ni at hd;simp only[awS,decide_eq_true_eq,ax3,List.any_eq_false]at hd;refine⟨hd.1,hd.2.1,fun b hb=>?_⟩;have h1:kI b=true:=by
  grind
 have h2:=h1;unfold kI vi at h2;cases ha:b.all with
 |true=>grind
 |false=>
  rw[ha]at h2;simp at h2;have:=od b hb;exact⟨h1,⟨h2.1,this.lo⟩,⟨h2.2.1,this.hi⟩⟩
theorem Wp{a:Rp}{dom:List Ri}(oa:OkP a)(od:∀x∈dom,OkI x)(h2:dom.length<=100000){p:Int}:∃b,R F.bound_Bernstein [aO a,.sl 7 (bL dom),I p] []=some (am b,[])/\BrG a dom p b:=by
 have hf:=Kq oa od h2 (p:=p);have hw:=Hw;cases hq:(ni a dom&&bJ p)with
 |false=>
  rw[hq]at hf;refine⟨dN,?_,fun _ _ _=>Or.inl rfl,fun _=>rfl⟩;refine ax jv rfl ?_;simp only[aO,am,ao,dN,aI]at hf hw;simp only[fY,jt,aO,am,ao,dN,aI,go_sem,hf,hw]
 |true=>
  rw[hq]at hf;have hdp:=hq;rw[awS]at hdp;obtain⟨hd,hp⟩:=hdp;obtain⟨hv,hl,hk⟩:=OU od hd;obtain⟨cl,v0,v8,h5⟩:=il oa hv;have nf:(ni a dom&&bJ p)=false->∀b:Ri,b=dN:=fun h=>by grind
  by_cases hlin:E3 a=true/\a.vars=1
  ·obtain⟨x,rfl⟩:∃x,dom=[x]:=List.length_eq_one_iff.1 (by omega);obtain⟨c,m,e1,_⟩:=aeC oa hlin.1 hlin.2 0;have hx:=hk x (by simp);obtain⟨k1,_⟩:=YB oa hv;rw[e1]at k1;refine⟨Hy c m x p,agm oa od (by omega) hlin.1 hlin.2 e1 rfl,fun xs ts hpt=>?_,fun h=>nf h _⟩;obtain⟨l1,l2⟩:=hpt.len;obtain⟨y,rfl⟩:∃y,xs=[y]:=List.length_eq_one_iff.1 l1;have hin:=tP.inL (fun b hb=>hk b hb) hpt;obtain⟨c',m',e3,e2⟩:=aeC oa hlin.1 hlin.2 y;rw[e1]at e3;injection e3 with g1 g2
   injection g2 with g2
   subst g1;subst g2;rw[e2];exact ag9 (k1 c (by simp)) (k1 m (by simp)) hp hin.1 hx.1
  ·obtain⟨v,hvv⟩:=ax5 v0;have hL:=Ry oa;obtain⟨r,hg,hgp⟩:=aez (v:=v) (p:=p) (by omega) (A:=a.terms) (E:=JU a.terms) (by simp[JU]) h5 (fun i t es h1 h2=>ahT (hvv▸cl) i t es h1 h2);have hcc:∃L b,VH a=.tup [BE L,B b]/\(b=true->¬a.vars=1):=by
    grind[VH,absurd]
   obtain⟨L,bl,e1,e2⟩:=hcc;rw[e1]at hL;have hVI:∀b∈dom,VI b:=fun b hb=>(hk b hb).2;rcases hgp with rfl| ⟨dn,cs,rfl,d1,d2,d3,d4,he⟩
   ·refine⟨dN,?_,fun _ _ _=>Or.inl rfl,fun _=>rfl⟩;refine ax jv rfl ?_;rw[←hvv]at hg;simp only[aO,am,ao,dN,aI,BE]at hf hw hL;cases bl with
    |true=>
     have e3:(a.vars=1)=False:=eq_false (e2 rfl);simp only[fY,jt,aO,am,ao,dN,aI,go_sem,hf,hw,hL,e3,hg]
    |false=>
     simp only[fY,jt,aO,am,ao,dN,aI,go_sem,hf,hw,hL,hg]
   ·have hdl:dom.length=v:=by omega
    have hbg:=ajK (p:=p) (c6:=[B false,.emp,I 0,B false,.emp,I 0,B false]) (by omega) d1 hdl d2 d4 hVI rfl v 0 (awP _) cs _ he;rw[←hvv]at hg;have hval:∀xs:List Rat,xs.length=dn.length->ic (pz dn xs) 1 0 (gT dn a.terms (JU a.terms) fun _=>0)=fv xs a.terms:=fun xs hx=>by
     rw[aeB hx a.terms (JU a.terms) (fun _=>0) (by simp[JU]) d3 (ag8 cl) (fun _ _=>rfl) fun i t es h1 h2=>(ahT (hvv▸cl) i t es h1 h2).1.1,ag7 (KI dn xs),Rat.zero_add]
    have hfin:∀ (b:Ri) (g':G),(∀xs ts:List Rat,tP dom xs ts->ic (qT (dn.take 0) (ts.take 0)++pz (dn.drop 0) (xs.drop 0)) 1 0 (gT dn a.terms (JU a.terms) fun _=>0)=ic (qT dn ts) 1 0 g')->(∀j,j<bA dn 1->In (g' j) b)->BrG a dom p b:=fun b g' h1 h2=>by
     refine⟨fun xs ts hpt=>?_,fun h=>nf h _⟩;obtain⟨l1,l2⟩:=hpt.len;have h3:=h1 xs ts hpt;have h4:ic (pz dn xs) 1 0 (gT dn a.terms (JU a.terms) fun _=>0)=ic (qT dn ts) 1 0 g':=h3;rw[hval xs (by omega)]at h4;rw[h4];rcases(h2 0 (nu dn 1 (by decide))).k with⟨hW,_⟩| ⟨hkb,_⟩
     ·exact Or.inl hW
     ·have h5:∀j,j<bA dn 1->qv b.lo<=g' j/\g' j<=qv b.hi:=fun j hj=>by
       rcases(h2 j hj).k with⟨rfl,hn⟩| ⟨_,h6⟩
       all_goals grind
      have h6:=al8 (by omega) hpt.t01 h5;refine Or.inr ⟨?_,(h2 0 (nu dn 1 (by decide))).vi,h6.1,h6.2⟩;grind[kI]
    have hh0:ap []=fun _=>.dead:=by funext i;simp[ap]
    refine KN (r:=fun b=>(am b,[])) jv.2.1 jv.2.2 (jv.1.2.2.2 false) rfl (axJ rfl) ?_;simp only[aO,am,ao,BE]at hf hL;have e3:bl=true->(a.vars=1)=False:=fun h=>eq_false (e2 h);have e4:(0:Int)< (bA dn 1:Nat):=by grind[nu]
    cases bl
    all_goals
     simp only[fY,jt,aO,am,ao,hh0,go_sem,hf,hL,e3,hg,abR];generalize hX:aj 0 _ _=X;obtain⟨hh,cs',g',rfl,q6,q2368,qd,he',hv'⟩:=hbg _ _ _ hX rfl rfl rfl (by rw[GB,d1];rfl) rfl rfl rfl;obtain⟨x,x1,x2⟩:=he'.get (k:=0) (nu dn 1 (by decide));have hhl:=ajL (ds:=dI dn) (p:=p) d4 he' (c6:=[B false,.emp,I 0,B false,.emp,I 0,B false]) rfl (bA dn 1) 0 (awP _) x x2.ok (fun j hj=>absurd hj (Nat.not_lt_zero j)) ⟨_,x2⟩;have q1:(bL cs')[0]?=some (ao x):=by unfold bL;rw[List.getElem?_map,x1];rfl
     have i2:(0< (cs'.length:Int))=True:=eq_true (by rw[he'.1];exact e4);have d12:=qd 12 (by decide) (by decide);have hgo:=(cj (dI dn) cs' p).cl [6,12,2368];simp only[bC]at q2368 hgo;simp only[ao]at q1;simp only[go_sem,q6,q2368,d12,i2,Int.le_refl,Int.toNat_zero,yr,CX,q1];generalize hX:aj 2 _ _=X;obtain⟨hh2,out,rfl,r6,r12,oo,hin⟩:=hhl _ _ _ hX rfl rfl (by rw[he'.1];rfl) (by rw[he'.1];rfl) rfl q6 rfl q2368;refine⟨out,?_,hfin out g' hv' hin⟩;simp only[fJ]at r12;simp only[go_sem,r6,r12]
def Qw(x:Ri)(d:Rd):Bool:=vi x&&vd d&& (x.all||decide (zI x.lo<=zI d)&&decide (zI d<=zI x.hi))
theorem aeD{x:Ri}{d:Rd}(ox:OkI x)(od:Ok0 d):R F.interval_Has [am x,ae d] []=some (B (Qw x d),[]):=by
 refine ax Pr rfl ?_;have v1:=mj ox;have v2:=ef od;have c1:=qG ox.lo od;have c2:=qG od ox.hi;unfold Qw;cases h1:vi x with
 |false=>
  rw[h1]at v1;simp only[am,ao,ae,ah]at v1 v2;simp only[i7,mu,am,ao,ae,ah,go_sem,v1,v2]
 |true=>
  rw[h1]at v1;cases h2:vd d with
  |false=>
   rw[h2]at v2;simp only[am,ao,ae,ah]at v1 v2;simp only[i7,mu,am,ao,ae,ah,go_sem,v1,v2]
  |true=>
   rw[h2]at v2;cases h3:x.all with
   |true=>
    simp only[am,ao,ae,ah,h3]at v1 v2;simp only[i7,mu,am,ao,ae,ah,go_sem,v1,v2,h3]
   |false=>
    have hl:vd x.lo=true/\vd x.hi=true:=by
     unfold vi at h1;rw[h3]at h1;simp at h1;exact⟨h1.1,h1.2.1⟩
    rw[if_pos ⟨hl.1,h2⟩]at c1;rw[if_pos ⟨h2,hl.2⟩]at c2;have e1:=@vL (zI x.lo) (zI d);have e2:=@vL (zI d) (zI x.hi);generalize cp (zI x.lo) (zI d)=q1 at c1 e1;generalize cp (zI d) (zI x.hi)=q2 at c2 e2;simp only[am,ao,ae,ah,h3]at v1 v2 c1 c2;by_cases h4:zI x.lo<=zI d
    ·simp only[i7,mu,am,ao,ae,ah,go_sem,v1,v2,h3,c1,c2,e1,e2,h4]
    ·simp only[i7,mu,am,ao,ae,ah,go_sem,v1,v2,h3,c1,e1,h4]
theorem ajM{x:Ri}{d:Rd}(h:In (qv d) x)(hd:vd d=true):Qw x d=true:=by
 unfold Qw;rw[h.v,hd];rcases h with rfl| ⟨h1,_,h3,h4⟩
 ·rfl
 ·rw[zM]at h3 h4;simp[h3,h4]
def HH(a:Rp)(dom:List Ri)(p:Int)(b:Ri):Ri:=if(ni a dom&&bJ p)=true then(if(tN (pg a dom p) b).2=true then(tN (pg a dom p) b).1 else dN)else dN
theorem M6{a:Rp}{dom:List Ri}(oa:OkP a)(od:∀x∈dom,OkI x)(h2:dom.length<=100000){p:Int}{b:Ri}(ob:OkI b)(hb:(ni a dom&&bJ p)=true->R F.bound_Bernstein [aO a,.sl 7 (bL dom),I p] []=some (am b,[])):
  R F.bound_Best [aO a,.sl 7 (bL dom),I p] []=some (am (HH a dom p b),[]):=by
 refine ax UC rfl ?_;have hf:=Kq oa od h2 (p:=p);have hw:=Hw;have hn:=agb oa od h2 (p:=p);have on:=adL (a:=a) (dom:=dom) (p:=p);have hm:=agP (x:=pg a dom p) (y:=b) ⟨on.1.2,on.2.2⟩ ob;unfold HH;generalize pg a dom p=n at hn hm⊢;generalize tN n b=q at hm⊢;obtain⟨m1,m2⟩:=q;cases hq:(ni a dom&&bJ p)with
 |false=>
  rw[hq]at hf;simp only[aO,am,ao,dN,aI]at hf hw;simp only[sj,yK,aO,am,ao,dN,aI,go_sem,hf,hw]
 |true=>
  rw[hq]at hf
  replace hb:=hb hq
  simp only[aO,am,ao,dN,aI]at hf hw hn hb hm;cases m2 with
  |true=>
   simp only[sj,yK,aO,am,ao,go_sem,hf,hw,hn,hb,hm]
  |false=>
   simp only[sj,yK,aO,am,ao,dN,aI,go_sem,hf,hw,hn,hb,hm]
def lF(x y:Ri):Bool:=if vi x=true/\vi y=true/\x.all=false then(y.all||decide (zI y.lo<=zI x.lo)&&decide (zI x.hi<=zI y.hi))else(vi x&& (vi y&&y.all))
theorem abT{x y:Ri}(ox:OkI x)(oy:OkI y):R F.r05_Inside [am x,am y] []=some (B (lF x y),[]):=by
 refine ax UQ rfl ?_;have v1:=EZ ox;have v2:=EZ oy;unfold lF;simp only[am,ao]at v1 v2;cases h1:vi x with
 |false=>
  rw[h1]at v1;simp only[jC,mT,am,ao,go_sem,v1,awU]
 |true=>
  rw[h1]at v1;cases h2:vi y with
  |false=>
   rw[h2]at v2;simp only[jC,mT,am,ao,go_sem,v1,v2,awU,awT]
  |true=>
   rw[h2]at v2;cases h3:x.all with
   |true=>
    rw[h3]at v1;rw[if_neg (by simp)];simp only[jC,mT,am,ao,go_sem,v1,v2,h3,awT]
   |false=>
    rw[h3]at v1;have hx:vd x.lo=true/\vd x.hi=true:=by
     grind[vi]
    cases h4:y.all with
    |true=>
     rw[h4]at v2;simp only[jC,mT,am,ao,go_sem,v1,v2,h3,h4,axQ]
    |false=>
     rw[h4]at v2;have hy:vd y.lo=true/\vd y.hi=true:=by
      grind[vi]
     have c1:=P6 oy.lo ox.lo hy.1 hx.1;have c2:=P6 ox.hi oy.hi hx.2 hy.2;simp only[ae,ah]at c1 c2;by_cases h5:zI y.lo<=zI x.lo
     ·rw[decide_eq_true h5];have e5:(cp (zI y.lo) (zI x.lo)<=0)=True:=by simp_all[vL,eq_true]
      simp only[jC,mT,am,ao,go_sem,v1,v2,h3,h4,c1,c2,e5,vL,awT,axY,decide_true]
     ·rw[decide_eq_false h5];have e5:(cp (zI y.lo) (zI x.lo)<=0)=False:=by simp_all[vL,eq_false]
      simp only[jC,mT,am,ao,go_sem,v1,v2,h3,h4,c1,e5,awU,axY,decide_false]
theorem JV{x y:Ri}(ox:OkI x)(oy:OkI y):R F.interval_Inside [am x,am y] []=some (B (lF x y),[]):=by
 refine ax K2 rfl ?_;have v1:=mj ox;have v2:=mj oy;unfold lF;simp only[am,ao]at v1 v2;cases h1:vi x with
 |false=>
  rw[h1]at v1;simp only[dT,fB,am,ao,go_sem,v1,awU]
 |true=>
  rw[h1]at v1;cases h2:vi y with
  |false=>
   rw[h2]at v2;simp only[dT,fB,am,ao,go_sem,v1,v2,awU,awT]
  |true=>
   rw[h2]at v2;cases h3:x.all with
   |true=>
    rw[h3]at v1;rw[if_neg (by simp)];cases h4:y.all with
    |true=>
     rw[h4]at v2;simp only[dT,fB,am,ao,go_sem,v1,v2,h3,h4,awT]
    |false=>
     rw[h4]at v2;simp only[dT,fB,am,ao,go_sem,v1,v2,h3,h4,awT]
   |false=>
    rw[h3]at v1;have hx:vd x.lo=true/\vd x.hi=true:=by
     grind[vi]
    cases h4:y.all with
    |true=>
     rw[h4]at v2;simp only[dT,fB,am,ao,go_sem,v1,v2,h3,h4,axQ]
    |false=>
     rw[h4]at v2;have hy:vd y.lo=true/\vd y.hi=true:=by
      grind[vi]
     have c1:=qG oy.lo ox.lo;have c2:=qG ox.hi oy.hi;rw[if_pos ⟨hy.1,hx.1⟩]at c1;rw[if_pos ⟨hx.2,hy.2⟩]at c2;have e1:=@vL (zI y.lo) (zI x.lo);have e2:=@vL (zI x.hi) (zI y.hi);generalize cp (zI y.lo) (zI x.lo)=q1 at c1 e1;generalize cp (zI x.hi) (zI y.hi)=q2 at c2 e2;simp only[ae,ah]at c1 c2;by_cases h5:zI y.lo<=zI x.lo
     ·simp only[dT,fB,am,ao,go_sem,v1,v2,h3,h4,c1,c2,e1,e2,h5,axY]
     ·simp only[dT,fB,am,ao,go_sem,v1,v2,h3,h4,c1,e1,h5,axY]
structure Rs where
 dom:List Ri
 ord:Int
 p:Int
structure Rm where
 P:Rp
 R:Ri
abbrev Ed(s:Rs):List AV:=[.sl 7 (bL s.dom),I s.ord,I s.p]
abbrev uM(s:Rs):AV:=.agg (Ed s)
abbrev OV(m:Rm):List AV:=[I m.P.vars,.sl 4 (aH m.P.terms),B m.R.lo.neg,lm m.R.lo.m,I m.R.lo.e,B m.R.hi.neg,lm m.R.hi.m,I m.R.hi.e,B m.R.all]
abbrev kO(m:Rm):AV:=.agg (OV m)
def tp:Rd:=⟨true,[1],0⟩
def lh:Ri:=⟨tp,one,false⟩
def bU:Ri:=⟨aI,aI,false⟩
theorem ajN:R F.dyadic_Int [I (-1)] []=some (ae tp,[]):=by
 grind[On,I64,bm,tp,iw,uA,av,qD,fj]
theorem Zo:vd tp=true/\Ok0 tp:=⟨by decide,⟨fun x hx=>by rw[List.mem_singleton.1 hx];decide,by decide⟩⟩
theorem KP:OkI lh/\VI lh:=⟨⟨Zo.2,eX.2⟩,⟨Zo,eX⟩⟩
theorem R2{x y:Ri}(ox:OkI x)(oy:OkI y):R F.interval_Equal [am x,am y] []=some (B (lF x y&&lF y x),[]):=by
 refine ax Mh rfl ?_;have h1:=JV ox oy;have h2:=JV oy ox;simp only[am,ao]at h1 h2;cases h:lF x y with
 |false=>
  rw[h]at h1;simp only[pH,xr,am,ao,go_sem,h1,awU]
 |true=>
  rw[h]at h1;simp only[pH,xr,am,ao,go_sem,h1,h2,awT]
theorem R4:R F.model_whole [I 0] []=some (am bU,[]):=by
 refine ax SM rfl ?_;have h1:R F.dyadic_Int [I 0] []=some (ae aI,[]):=by grind[On,I64,iN]
 have h2:=iD aU.2 aU.1;simp only[am,ao,ae,ah,aI]at h1 h2;simp only[Aj,HX,am,ao,bU,aI,go_sem,h1,h2]
theorem al9{x y:Ri}(ox:OkI x)(oy:OkI y):R F.model_ValidSpace_1 [am x,.ref 1000 none 0 0 0] [.bx (ao y)]=some (B (!lF x y),[.bx (ao y)]):=by
 refine D3 Hh Hg (vY false) rfl ?_;have h:=JV ox oy;generalize lF x y=b at h⊢;simp only[am,ao]at h;simp only[qh,yS,ao,am,go_sem,h];exact rO rfl rfl rfl rfl rfl
theorem ama:Src F.slices_ContainsFunc_api_Interval_api_Interval_ F.slices_IndexFunc_api_Interval_api_Interval_ 7 true [.o 0 [],.o 2 [],.o 0 [],.o 0 [],.o 2 [],.o 0 [],.o 0 []]:=
 ⟨aK.2.1,aK.2.2,aK.1.2.2.2 false,aK.1.2.1 false,aK.1.2.2.2 false,aK.1.1 false,
  aQ.2.1,aQ.2.2,aQ.1.2.2.2 false⟩
theorem amb{l:List Ri}{y:Ri}(ol:∀x∈l,OkI x)(oy:OkI y)(hl:l.length<4611686018427387904):R F.slices_ContainsFunc_api_Interval_api_Interval_ [.sl 7 (bL l),.fn F.model_ValidSpace_1 [] [.ref 1000 none 0 0 0]] [.bx (ao y)]=some (B (l.any fun x=>!lF x y),[.bx (ao y)]):=
 KD ama (agD y) (zC false) (vY false) hl (Yw l) fun x hx=>⟨am x,am x,rfl,rfl,rfl,by rw[Gd];simp only[am,ao,go_sem],al9 (ol x hx) oy⟩
def mr(s:Rs):Bool:=decide (1<=s.dom.length)&& (decide (s.dom.length<=8)&& (decide (1<=s.ord)&& (decide (s.ord<=16)&& (bJ s.p&&!(s.dom.any fun x=>!lF x lh)))))
theorem Cf{s:Rs}(od:∀x∈s.dom,OkI x)(hl:s.dom.length<4611686018427387904):R F.model_ValidSpace [uM s] []=some (B (mr s),[]):=by
 refine ax Jh rfl ?_;have h1:=ajN;have h2:=Ju;simp only[ae,ah,tp,one]at h1 h2;have hp:bJ s.p=(decide (8<=s.p)&&decide (s.p<=512)):=rfl;unfold mr;rw[hp];by_cases g1:(s.dom.length:Int)<1
 ·have f1:((s.dom.length:Int)<1)=True:=eq_true g1;rw[decide_eq_false (p:=1<=s.dom.length) (by omega),awU];simp only[dB,eS,go_sem,h1,h2,f1]
 have f1:((s.dom.length:Int)<1)=False:=eq_false g1;rw[decide_eq_true (p:=1<=s.dom.length) (by omega),awT];by_cases g2:8< (s.dom.length:Int)
 ·have f2:(8< (s.dom.length:Int))=True:=eq_true g2;rw[decide_eq_false (p:=s.dom.length<=8) (by omega),awU];simp only[dB,eS,go_sem,h1,h2,f1,f2]
 have f2:(8< (s.dom.length:Int))=False:=eq_false g2;rw[decide_eq_true (p:=s.dom.length<=8) (by omega),awT];by_cases g3:s.ord<1
 ·have f3:(s.ord<1)=True:=eq_true g3;rw[decide_eq_false (p:=1<=s.ord) (by omega),awU];simp only[dB,eS,go_sem,h1,h2,f1,f2,f3]
 have f3:(s.ord<1)=False:=eq_false g3;rw[decide_eq_true (p:=1<=s.ord) (by omega),awT];by_cases g4:16<s.ord
 ·have f4:(16<s.ord)=True:=eq_true g4;rw[decide_eq_false (p:=s.ord<=16) (by omega),awU];simp only[dB,eS,go_sem,h1,h2,f1,f2,f3,f4]
 have f4:(16<s.ord)=False:=eq_false g4;rw[decide_eq_true (p:=s.ord<=16) (by omega),awT];by_cases g5:s.p<8
 ·have f5:(s.p<8)=True:=eq_true g5;rw[decide_eq_false (p:=8<=s.p) (by omega),awU,awU];simp only[dB,eS,go_sem,h1,h2,f1,f2,f3,f4,f5]
 have f5:(s.p<8)=False:=eq_false g5;rw[decide_eq_true (p:=8<=s.p) (by omega),awT];by_cases g6:512<s.p
 ·have f6:(512<s.p)=True:=eq_true g6;rw[decide_eq_false (p:=s.p<=512) (by omega),awU];simp only[dB,eS,go_sem,h1,h2,f1,f2,f3,f4,f5,f6]
 have f6:(512<s.p)=False:=eq_false g6;rw[decide_eq_true (p:=s.p<=512) (by omega),awT];have hc:=amb od KP.1 hl;generalize(s.dom.any fun x=>!lF x lh)=b at hc⊢;have hcc:=fun(h:ac) (d:Nat) (hh:h 3=.bx (ao lh)) (hf:h (2000+8*d)=.dead)=>D4 (f:=F.slices_ContainsFunc_api_Interval_api_Interval_) (g:=F.model_ValidSpace_1) (h:=h) (d:=d) (id:=3) (zas:=[.sl 7 (bL s.dom)]) (as':=[.sl 7 (bL s.dom)]) (aQ.1.2.1 false) (aQ.1.2.2.2 false)
  (by rw[aQ.1.1];simp only[go_sem,axM,axc]) rfl rfl hh (agD _) (agD _) (fun h=>h) hc (V0 _) (axJ rfl) (by simp[cw,cz,hf,bS])
 simp only[ao,lh,tp,one,axM,axc,go_sem]at hcc;simp only[dB,eS,go_sem,h1,h2,f1,f2,f3,f4,f5,f6];rw[hcc _ _ rfl rfl];simp only[go_sem]
def zZ(d:Rd)(p:Int):Bool:=bJ p&& (vd d&&decide ((af (ab d.m):Int)<=p))
theorem aox{d:Rd}{p:Int}(od:Ok0 d):R F.round_Is [ae d,I p] []=some (B (zZ d p),[]):=by
 refine ax aa0 rfl ?_;have h1:=AH (p:=p) (l:=[d]) (fun x hx=>by rw[List.mem_singleton.1 hx];exact od) (by simp);have h2:=MG od;have hp:bJ p=(decide (8<=p)&&decide (p<=512)):=rfl;have hf:(aY p [d]=0)=(zZ d p=true\/(bJ p=true/\vd d=true)):=by
  unfold aY zZ;rw[hp];simp only[axu,List.all_nil,Bool.and_true,awS,decide_eq_true_eq,eq_iff_iff];split<;> (try split)<;>grind
 unfold zZ at hf⊢;simp only[BE,DR,axp,axv,ae,ah]at h1 h2;cases hv:vd d with
 |false=>
  rw[hv]at hf h2;have f1:(aY p [d]=0)=False:=by rw[hf];simp
  generalize aY p [d]=q at h1 f1;simp only[wK,CA,ae,ah,go_sem,h1,f1,awU,axx]
 |true=>
  rw[hv]at hf h2;rw[if_pos rfl]at h2;cases hq:bJ p with
  |false=>
   rw[hq]at hf;have f1:(aY p [d]=0)=False:=by rw[hf];simp
   generalize aY p [d]=q at h1 f1;simp only[wK,CA,ae,ah,go_sem,h1,f1,awU]
  |true=>
   rw[hq]at hf;have f1:(aY p [d]=0)=True:=by rw[hf];simp
   generalize aY p [d]=q at h1 f1;generalize(af (ab d.m):Int)=n at h2⊢;simp only[wK,CA,ae,ah,go_sem,h1,h2,f1,awT]
theorem KQ(s:Rs):OC (.bx (Ed s)):=⟨fun _=>rfl,rfl,fun _=>rfl,rfl⟩
theorem aoy{t:Rt}{s:Rs}(ot:Ok0 t.c):R F.model_Valid_1 [.agg (bD t),.ref 1000 none 0 0 0] [.bx (Ed s)]=some (B (!zZ t.c s.p),[.bx (Ed s)]):=by
 refine D3 N5 N4 (Bz false) rfl ?_;have h:=aox (p:=s.p) ot;generalize zZ t.c s.p=b at h⊢;simp only[ae,ah]at h;simp only[xA,EF,bD,go_sem,h];exact rO rfl rfl rfl rfl rfl
theorem ahU:Src F.slices_ContainsFunc_api_Term_api_Term_ F.slices_IndexFunc_api_Term_api_Term_ 4 true [.o 2 [],.o 0 [],.o 2 [],.o 0 []]:=
 ⟨cf.2.1,cf.2.2,cf.1.2.2.2 false,cf.1.2.1 false,cf.1.2.2.2 false,cf.1.1 false,
  aD7.2.1,aD7.2.2,aD7.1.2.2.2 false⟩
theorem Ee(l:List Rt):(aH l).map (dK [.o 2 [],.o 0 [],.o 2 [],.o 0 []])=aH l:=by
 refine qN fun x hx=>?_;simp only[aH,axR]at hx;obtain⟨t,ht,rfl⟩:=hx;simp only[bD,go_sem]
structure OkS (s:Rs):Prop where
 d:∀x∈s.dom,OkI x
 n:s.dom.length<4611686018427387904
structure OkM (m:Rm):Prop where
 c:∀t∈m.P.terms,Ok0 t.c
 r:OkI m.R
 n:m.P.terms.length<4611686018427387904
def uN(s:Rs)(m:Rm):Bool:=mr s&& (vp m.P&& (decide (m.P.vars=s.dom.length)&& (decide (ej m.P<=s.ord)&& (vi m.R&&!(m.P.terms.any fun t=>!zZ t.c s.p)))))
theorem Wq{a:Rp}(oc:∀t∈a.terms,Ok0 t.c)(h:vp a=true):OkP a:=⟨fun t ht=>⟨oc t ht,by
 unfold vp at h;simp only[awS,decide_eq_true_eq]at h;have:=(zH (Ks _ _ h.2.2.2 t ht)).1;omega⟩⟩
theorem aeE{s:Rs}{m:Rm}(os:OkS s)(om:OkM m):R F.model_Valid [uM s,kO m] []=some (B (uN s m),[]):=by
 refine ax SH rfl ?_;have h1:=Cf os.d os.n;have h2:=Ot om.c;have h4:=mj om.r;unfold uN;simp only[aO,am,ao]at h2 h4;cases g1:mr s with
 |false=>
  rw[g1]at h1;simp only[iI,lq,go_sem,h1,awU]
 |true=>
 rw[g1]at h1;cases g2:vp m.P with
 |false=>
  rw[g2]at h2;simp only[iI,lq,go_sem,h1,h2,awU,axx]
 |true=>
 rw[g2]at h2;by_cases g3:m.P.vars=(s.dom.length:Int)
 case neg=>
  have f3:(m.P.vars=(s.dom.length:Int))=False:=eq_false g3;simp only[iI,lq,go_sem,h1,h2,f3,awU,axx]
 have f3:(m.P.vars=(s.dom.length:Int))=True:=eq_true g3;have h3:=E2 (Wq om.c g2);simp only[aO]at h3;by_cases g4:s.ord<ej m.P
 case pos=>
  have f4:(s.ord<ej m.P)=True:=eq_true g4;have f4':(ej m.P<=s.ord)=False:=ff;simp only[iI,lq,go_sem,h1,h2,h3,f3,f4,f4',awU,axx]
 have f4:(s.ord<ej m.P)=False:=eq_false g4;have f4':(ej m.P<=s.ord)=True:=tt;cases g5:vi m.R with
 |false=>
  rw[g5]at h4;simp only[iI,lq,go_sem,h1,h2,h3,h4,f3,f4,f4',awU,axx]
 |true=>
 rw[g5]at h4;have hc:=KD ahU (Frow:=bD) (l:=m.P.terms) (q:=fun t=>!zZ t.c s.p) (KQ s) (ER false) (Bz false) om.n (Ee _) fun t ht=>⟨.agg (bD t),.agg (bD t),rfl,rfl,rfl,by rw[Mk];simp only[bD,go_sem],aoy (om.c t ht)⟩;generalize(m.P.terms.any fun t=>!zZ t.c s.p)=b at hc⊢;have hcc:=fun(h:ac) (d:Nat) (hh:h 2=.bx (Ed s)) (hf:h (2000+8*d)=.dead)=>D4 (f:=F.slices_ContainsFunc_api_Term_api_Term_) (g:=F.model_Valid_1) (h:=h) (d:=d) (id:=2) (zas:=[.sl 4 (aH m.P.terms)]) (as':=[.sl 4 (aH m.P.terms)]) (aD7.1.2.1 false) (aD7.1.2.2.2 false)
  (by rw[aD7.1.1];simp only[go_sem,Ee,axM,axc]) rfl rfl hh (KQ _) (KQ _) (fun h=>h) hc (V0 _) (axJ rfl) (by simp[cw,cz,hf,bS])
 simp only[axM,axc,go_sem]at hcc;simp only[iI,lq,go_sem,h1,h2,h3,h4,f3,f4,f4'];rw[hcc _ _ rfl rfl];simp only[go_sem]
theorem VI.ok'{x:Ri}(h:VI x):OkI x:=⟨h.1.2,h.2.2⟩
theorem KR:∀dom:List Ri,tP dom (dom.map fun b=>qv b.lo) (awO dom.length 0)
 |[]=>trivial
 |b::dom=>⟨by grind,by decide,by decide,KR dom⟩
def IsD(c:List AV)(q:Rd):Prop:=c=[B q.neg,lm q.m,I q.e]\/(c=zb/\q=aI)
theorem IsD.cl{c:List AV}{q:Rd}(h:IsD c q)(l:List Nat):c.all (jq l)=true:=by
 rcases h with rfl| ⟨rfl,_⟩<;>rfl
end Go.Ab
