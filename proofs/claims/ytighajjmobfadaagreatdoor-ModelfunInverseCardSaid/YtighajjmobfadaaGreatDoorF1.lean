/-
  A law of tapes on models holds at every input that the statement speaks of, under the conditions that its card names. Part F1.
-/
import Derived.Test.YtighajjmobfadaaGreatDoorE1
open Nat renaming add_assoc → aDE, add_mul → aC8, add_zero → aDm, div_add_mod → aDC, le_of_ble_eq_true → aDa, le_refl → aCJ, le_trans → aCP, lt_of_le_of_lt → aDe, lt_of_lt_of_le → aDF, min_eq_left → aDx, mod_eq_of_lt → aDq, mod_lt → aDj, mul_assoc → aC9, mul_comm → aC6, mul_le_mul_left → aDD, mul_le_mul_right → aCS, pow_add → aCU, pow_le_pow_right → aDn, pow_succ → aDw, reduceMod → aDo, reduceSub → aDi, two_pow_pos → aC1, zero_add → aCI, zero_le → aC7
open Int renaming eq_ofNat_of_zero_le → aDG, lt_irrefl → aDl, toNat_natCast → aCQ
open Bool renaming and_eq_true → aCK, and_false → aDH, and_self → aDv, false_and → aCO, false_eq_true → aDy, false_ne_true → aCR, not_eq_true' → aDJ, true_and → aCM
open List renaming all_cons → aDb, append_assoc → aDr, append_nil → aCY, cons_append → aDd, drop_eq_getElem_cons → aC4, drop_eq_nil_of_le → aC3, getElem_mem → aC0, length_cons → aDp, length_drop → aDL, length_nil → aDs, length_replicate → aDK, length_take → aCW, map_congr_left → aDk, map_cons → aDc, map_id' → aDu, map_nil → aDh, mem_map → aDz, nil_append → aCT, replicate → aCG, take_of_length_le → aCX
open Option renaming bind_eq_some_iff → aCH, bind_some → aCN, map_some → aDt
open Rat renaming le_trans → aEi, mul_le_mul_of_nonneg_right → aDB, pow_succ → aEh
set_option linter.all false
namespace Go.Ab
open Go Go.IntWalk
set_option maxRecDepth 4000
set_option maxHeartbeats 8000000
variable{A l:List Rt}{E:List (List Nat)}{N UL d f i id j m n q s st top:Nat}{P V Z a b dn es us:List Nat}{cs cs' dom:List Ri}{ds:List Int}{e o p sh v' z:Int}{h:ae}{hi lo t u:Rat}{neg:Bool}{o2:Ob}{os:List Ob}{w x y:Ri}{zas:List AV}
attribute [-go_sem] Qm MH in
theorem akW{a b y:Nat}(hay:a<y)(hy:y<4294967296)(hb:b<4294967296):
  R fah [U a,U b,U y] []=some (.tup [U ((a*4294967296+b)/y:Nat),U ((a*4294967296+b) %y:Nat)],[]):=by
 refine au Yc rfl ?_;have e1:((y:Int)=0)=False:=ff;have e2:((y:Int)<=(a:Int))=False:=ff;have c1:IntKind.u64.wrap (a:Int)=a:=dG rfl ω;have c2:IntKind.u64.wrap (b:Int)=b:=dG rfl ω;have c3:IntKind.u64.wrap (y:Int)=y:=dG rfl ω;have e4:=G5 (n:=a) (k:=32) (i:=(a:Int)) (kk:=.u64) (j:=32) rfl rfl δ ω;have e5:=Pd (m:=a*2^32) (n:=b) (i:=((a*2^32:Nat):Int)) (j:=(b:Int)) rfl rfl ω ω;rw[Gb (x:=a) (c:=b) (k:=32) ω,show a*2^32+b=a*4294967296+b from rfl]at e5;rw[show a*2^32=a*4294967296 from rfl]at e4 e5;obtain⟨N,hN⟩:∃N,a*4294967296+b=N:=⟨_,rfl⟩;rw[hN]at e5⊢;have e6:eX .quo (W N) (W y)=some (W (N/y:Nat)):=by
  rw[R9,if_neg ω,Int.tdiv_eq_ediv_of_nonneg ω];have:N/y<=N:=Nat.div_le_self _ _;rw[dG (n:=N/y) σ ω]
 have e7:eX .rem (W N) (W y)=some (W (N%y:Nat)):=by
  rw[MG,if_neg ω,Int.tmod_eq_emod_of_nonneg ω];rfl
 have hm:=aDj N (show 0<y by omega);have hq:N/y<4294967296:=by
  rw[Nat.div_lt_iff_lt_mul ω];have h3:(a+1)*4294967296<=y*4294967296:=aCS _ ω;rw[aC6 4294967296 y];omega
 have w1:IntKind.u32.wrap ((N/y:Nat):Int)=((N/y:Nat):Int):=CG rfl hq;have w2:IntKind.u32.wrap ((N%y:Nat):Int)=((N%y:Nat):Int):=CG rfl ω;simp only[Ew,go_sem,e1,e2,e4,e5,e6,e7,c1,c2,c3,w1,w2]
def gr(y:Nat):List Nat->List Nat×Nat
 |[]=>([],0)
 |x::l=>(((gr y l).2*4294967296+x)/y::(gr y l).1,((gr y l).2*4294967296+x) %y)
theorem Fj{y:Nat}(hy:0<y):∀ {l:List Nat},Lb l->ab l=ab (gr y l).1*y+(gr y l).2/\(gr y l).2<y/\(gr y l).1.length=l.length
 |[],_=>⟨by simp[gr,ab],hy,rfl⟩
 |x::l,hl=>by
  obtain⟨h1,h2,h3⟩:=Fj hy (l:=l) fun z hz=>hl z (by simp[hz]);unfold gr;refine⟨?_,aDj _ hy,by simp[h3]⟩;show x+4294967296*ab l=(((gr y l).2*4294967296+x)/y+4294967296*ab (gr y l).1)*y+((gr y l).2*4294967296+x) %y;have hm:=aDC ((gr y l).2*4294967296+x) y;rw[aC6]at hm;rw[aC8,aC9];generalize((gr y l).2*4294967296+x)/y*y=A at*
  omega
theorem acr{y:Nat}(hy:0<y)(hyb:y<4294967296):∀ {l:List Nat},Lb l->Lb (gr y l).1
 |[],_=>fun x hx=>(nomatch hx)
 |x::l,hl=>by
  have hl':Lb l:=fun z hz=>hl z (by simp[hz]);have h2:=(Fj hy hl').2.1;have hx:=hl x σ;intro z hz;rcases List.mem_cons.1 hz with h|h
  ·rw[h];show((gr y l).2*4294967296+x)/y<4294967296;rw[Nat.div_lt_iff_lt_mul hy];have h3:((gr y l).2+1)*4294967296<=y*4294967296:=aCS _ ω;rw[aC6 4294967296 y];omega
  ·exact acr hy hyb hl' z h
theorem akX(ha:Lb a){y:Nat}(hy:0<y)(hyb:y<4294967296)(h1:a.length<=100000):
  ∀ (m:Nat),m<=a.length->∀ (s:ap) (h:ae),s 0=lm a->s 1=U y->s 6=.rsl 11 none 1 0 a.length->s 7=U ((gr y (a.drop m)).2:Nat)->s 8=I ((m:Int)-1)->h 11=.ar 1 (aE (aCG m 0++(gr y (a.drop m)).1))->
  ∃hh,ak 0 [6,7] (av (am R (az false) mM) [0,1,6,7,8] [11] s h)=some (.normal,⟨upd (upd bk 7 (U ((gr y a).2:Nat))) 6 (.rsl 11 none 1 0 a.length),hh⟩)/\hh 11=.ar 1 (aE (gr y a).1)/\(∀x,x≠11->hh x=.dead):=by
 intro m;induction m with
 |zero=>
  intro hm s h g0 g1 g6 g7 g8 k11;have e1:(0<=(((0:Nat):Int)-1))=False:=ff;rw[ah];refine⟨?hh0,?_,?_,?_⟩;rotate_left
  ·simp only[mM,go_sem,g0,g1,g6,g7,g8,k11,e1];rfl
  all_goals simp_all[cB,if_false]
 |succ m ih=>
  intro hm s h g0 g1 g6 g7 g8 k11;have hlt:m<a.length:=ω
  have hd:a.drop m=a.getD m 0::a.drop (m+1):=by
   simp_all
  have ha':Lb (a.drop (m+1)):=lZ ha _;obtain⟨q1,q2,q3⟩:=Fj hy ha';have e0:(((m+1:Nat):Int)-1)=(m:Int):=ω
  rw[e0]at g8;have e1:(0<=(m:Int))=True:=tt;have e2:aZ (aE a) (m:Int)=some (.ipt [U (a.getD m 0:Nat)]):=bI rfl ω;have e3:aG ((m:Int)-1)=(m:Int)-1:=i64_in _ ⟨by omega,by omega⟩;have e5:((m:Int)< (a.length:Int))=True:=tt;have e6:=akW (a:=(gr y (a.drop (m+1))).2) (b:=a.getD m 0) q2 hyb (bZ ha m);have ih':=ih ω;rw[hd]at ih';have hs1:(gr y (a.getD m 0::a.drop (m+1))).1=((gr y (a.drop (m+1))).2*4294967296+a.getD m 0)/y::(gr y (a.drop (m+1))).1:=rfl;have hs2:(gr y (a.getD m 0::a.drop (m+1))).2=((gr y (a.drop (m+1))).2*4294967296+a.getD m 0) %y:=rfl;rw[hs1,hs2]at ih';generalize((gr y (a.drop (m+1))).2*4294967296+a.getD m 0)/y=qd at*
  have e7:(aE (aCG (m+1) 0++(gr y (a.drop (m+1))).1))[m]?=some [U (0:Nat)]:=by
   rw[jY γ,List.getD_eq_getElem?_getD,List.getElem?_append_left σ,List.getElem?_replicate,if_pos ω];rfl
  have e8:(aE (aCG (m+1) 0++(gr y (a.drop (m+1))).1)).set m [U (qd:Nat)]=aE (aCG m 0++qd::(gr y (a.drop (m+1))).1):=by
   rw[ns];rw[List.replicate_succ',aDr,List.set_append_right _ _ σ];simp
  rw[ah];simp only[mM,go_sem,g0,g1,g6,g7,g8,k11,e1,e2,e3,e5,e6,e7,e8,aCQ,aCI];exact ih' _ _ rfl rfl rfl rfl rfl rfl
theorem atF(ha:Lb a){y:Nat}(hy:0<y)(hyb:y<4294967296)(h1:a.length<=100000)(s:ap)(h:ae)(X:Option (Ex×St))(hX:ak 0 [6,7] (av (am R (az false) mM) [0,1,6,7,8] [11] s h)=X)
  (g0:s 0=lm a) (g1:s 1=U y) (g6:s 6=.rsl 11 none 1 0 a.length) (g7:s 7=U 0) (g8:s 8=I ((a.length:Int)-1)) (k11:h 11=.ar 1 (aE (aCG a.length 0))):
  ∃hh,X=some (.normal,⟨upd (upd bk 7 (U ((gr y a).2:Nat))) 6 (.rsl 11 none 1 0 a.length),hh⟩)/\hh 11=.ar 1 (aE (gr y a).1)/\(∀x,x≠11->hh x=.dead):=by
 subst hX;have hn:a.drop a.length=[]:=List.drop_of_length_le (aCJ _);refine akX ha hy hyb h1 a.length (aCJ _) s h g0 g1 g6 ?_ g8 ?_
 ·rw[hn];exact g7
 ·rw[hn];show h 11=.ar 1 (aE (aCG a.length 0++[]));grind
theorem akY(ha:Lb a){y:Nat}(hy:0<y)(hyb:y<4294967296)(h1:a.length<=100000):R fcK [lm a,U y] []=some (.tup [lm (gr y a).1,U ((gr y a).2:Nat)],[]):=by
 refine au QT rfl ?_;have hl:=atF ha hy hyb h1;have e3:aG ((a.length:Int)-1)=(a.length:Int)-1:=i64_in _ ⟨by omega,by omega⟩;have e4:=rH (i:=(a.length:Int)) (j:=(a.length:Int)) rfl rfl (aCJ _) ω;have e5:(a.length*4<=140737488355328)=True:=tt;simp only[Az,GX,go_sem,e3,e4,e5,A9];generalize hX:ak 0 _ _=X;obtain⟨hh,rfl,q11,qd⟩:=hl _ _ _ hX rfl rfl rfl rfl rfl rfl;have hlen:=(Fj hy ha).2.2;simp only[go_sem,q11,hlen,aCI,aCJ]
theorem Zc{u b:Nat}(hu:u<4294967296)(hs:s<4294967296)(hb:b<4294967296):IntKind.u64.wrap (IntKind.u64.wrap ((u:Int)- (s:Int))- (b:Int))=(((u+18446744073709551616-s-b) %18446744073709551616:Nat):Int):=by
 grind[IntKind.wrap,IntKind.bits,IntKind.signed]
attribute [-go_sem] Sa H1 in
theorem ahO{Z:List Nat}{lo:Nat}(hV:Lb V)(hq:q<4294967296)(hn:V.length<=100000)(hlo:lo<=100000):
  ∀ (vs us P:List Nat) (i c b:Nat),i+vs.length=V.length->V.drop i=vs->us.length=vs.length->P.length=lo+i->Lb us->c<4294967296->b<=1->∀ (s:ap) (h:ae),s 0=.rsl 1000 none 1 lo (V.length+1)->s 1=lm V->s 2=W q->s 7=W c->s 8=W b->s 14=lm V->s 15=I V.length->s 16=I i->h 1000=.ar 1 (aE (P++(us++Z)))->
  ∃hh,ak 0 [0,1,7,8] (av (am R (az false) nY) [0,1,2,7,8,14,15,16] [1000] s h)=some (.normal,⟨upd (upd (upd (upd bk 8 (W ((vL q us vs c b).2.2:Nat))) 7 (W ((vL q us vs c b).2.1:Nat))) 1 (lm V)) 0 (.rsl 1000 none 1 lo (V.length+1)),hh⟩)/\hh 1000=.ar 1 (aE (P++((vL q us vs c b).1++Z))):=by
 intro vs;induction vs with
 |nil=>
  intro us P i c b hi hd hl hP hu hc hb s h g0 g1 g2 g7 g8 g14 g15 g16 k;have hus:us=[]:=List.length_eq_zero_iff.1 hl;subst hus;have hi':i=V.length:=ω
  subst hi';rw[ah];refine⟨?hh0,?_,?_⟩;rotate_left
  ·simp only[nY,go_sem,g0,g1,g2,g7,g8,g14,g15,g16,k,aDl];rfl
  ·rfl
 |cons y vs ih=>
  intro us P i c b hi hd hl hP hu hc hb s h g0 g1 g2 g7 g8 g14 g15 g16 k;obtain⟨u,us,rfl⟩:∃u us',us=u::us':=by
   cases us with
   |nil=>grind
   |cons u us=>grind
  have hi2:i<V.length:=γ
  have hy:V.getD i 0=y/\V.drop (i+1)=vs:=by
   grind[aC4]
  have hyb:y<4294967296:=by grind[bZ]
  have hub:=hu u σ;have hqy:q*y<=4294967295*4294967295:=Nat.mul_le_mul ω ω;have e1:((i:Int)< (V.length:Int))=True:=tt;have e2:aZ (aE V) (i:Int)=some (.ipt [U (y:Nat)]):=by
   grind[bI]
  have e3:aG ((i:Int)+1)=((i+1:Nat):Int):=wi;have e4:(0<=(i:Int))=True:=tt;have e5:((i:Int)< ((V.length+1:Nat):Int))=True:=tt;have c1:IntKind.u64.wrap (y:Int)=y:=dG rfl ω;have c2:IntKind.u64.wrap ((q:Int)*(y:Int))=((q*y:Nat):Int):=dG σ ω;have c3:IntKind.u64.wrap (((q*y:Nat):Int)+(c:Int))=((q*y+c:Nat):Int):=dG σ ω;have c4:=qE (n:=q*y+c) (k:=32) (i:=((q*y+c:Nat):Int)) (kk:=.u64) (j:=32) rfl rfl ω;rw[show(2:Nat)^32=4294967296 from rfl]at c4;have c5:IntKind.u64.wrap (u:Int)=u:=dG rfl ω;have c6:=zX (n:=q*y+c) (i:=((q*y+c:Nat):Int)) rfl ω;have hs:=aDj (q*y+c) (by decide:0<4294967296);have hc2:(q*y+c)/4294967296<4294967296:=by
   omega
  have c7:=Zc (b:=b) hub hs ω;obtain⟨k1,_⟩:=Tu (b:=b) hub hs hb;have ih':=ih us (P++[(u+18446744073709551616- (q*y+c) %4294967296-b) %18446744073709551616%4294967296]) (i+1) ((q*y+c)/4294967296) ((u+18446744073709551616- (q*y+c) %4294967296-b) %18446744073709551616/9223372036854775808) γ hy.2 γ γ (fun x hx=>hu x (by simp[hx])) hc2 k1;unfold vL;generalize(u+18446744073709551616- (q*y+c) %4294967296-b) %18446744073709551616=x at*
  have c8:IntKind.u32.wrap (x:Int)=((x%4294967296:Nat):Int):=Jy rfl;have c9:=qE (n:=x) (k:=63) (i:=(x:Int)) (kk:=.u64) (j:=63) rfl rfl ω;rw[show(2:Nat)^63=9223372036854775808 from rfl]at c9;have e7:(aE (P++(u::us++Z)))[lo+i]?=some [U (u:Nat)]:=by
   rw[jY (by simp[hP]),List.getD_eq_getElem?_getD,List.getElem?_append_right ω,hP,Nat.sub_self];rfl
  have e8:(aE (P++(u::us++Z))).set (lo+i) [U ((x%4294967296:Nat):Int)]=aE (P++[x%4294967296]++(us++Z)):=by
   rw[ns,←hP,List.set_append_right _ _ (aCJ _),Nat.sub_self,aDr];rfl
  simp only[aDr,aDd,aCT]at ih' e7 e8 k⊢;rw[ah];generalize av _ _ _=L at ih'⊢;simp only[nY,go_sem,g0,g1,g2,g7,g8,g14,g15,g16,k,e1,e2,e3,e4,e5,e7,e8,c1,c2,c3,c4,c5,c6,c7,c8,c9,aCQ];exact ih' _ _ rfl rfl rfl rfl rfl rfl rfl rfl rfl
theorem aqG{lo:Nat}(hV:Lb V)(hq:q<4294967296)(hn:V.length<=100000)(hlo:lo<=100000)(hl:us.length=V.length)(hP:P.length=lo)(hu:Lb us)(s:ap)(h:ae)(X:Option (Ex×St))(hX:ak 0 [0,1,7,8] (av (am R (az false) nY) [0,1,2,7,8,14,15,16] [1000] s h)=X)
  (g0:s 0=.rsl 1000 none 1 lo (V.length+1)) (g1:s 1=lm V) (g2:s 2=W q) (g7:s 7=W 0) (g8:s 8=W 0) (g14:s 14=lm V) (g15:s 15=I V.length) (g16:s 16=I 0) (k:h 1000=.ar 1 (aE (P++(us++Z)))):
  ∃hh,X=some (.normal,⟨upd (upd (upd (upd bk 8 (W ((vL q us V 0 0).2.2:Nat))) 7 (W ((vL q us V 0 0).2.1:Nat))) 1 (lm V)) 0 (.rsl 1000 none 1 lo (V.length+1)),hh⟩)/\hh 1000=.ar 1 (aE (P++((vL q us V 0 0).1++Z))):=by
 subst hX
 simp_all[ahO]
attribute [-go_sem] H1 in
theorem anP{Q:List Nat}{lo:Nat}(hV:Lb V)(hq:q<4294967296)(hn:V.length<=100000)(hlo:lo<=100000)(hl:us.length=V.length)(hP:P.length=lo)(hu:Lb us)(ht:top<4294967296):
  R fcO [.rsl 1000 none 1 lo (V.length+1),lm V,W q] [.ar 1 (aE (P++(us++top::Q)))]=some (B (qu q top us V).2.2,[.ar 1 (aE (P++((qu q top us V).1++(qu q top us V).2.1::Q)))]):=by
 refine oO SL SK (EJ false) rfl ?_;have hx:=aqG (Z:=top::Q) hV hq hn hlo hl hP hu;obtain⟨t1,t2,t3,t4,t5⟩:=Y9 hq hu hV hl (c:=0) (b:=0) δ δ;unfold qu;have e4:(0<=(V.length:Int))=True:=tt;have e5:((V.length:Int)< ((V.length+1:Nat):Int))=True:=tt;simp only[Cc,Ie,go_sem];generalize hX:ak 0 _ _=X;obtain⟨hh,rfl,q1⟩:=hx _ _ _ hX rfl rfl rfl rfl rfl rfl rfl rfl rfl;generalize vL q us V 0 0=r at*
 obtain⟨r1,c,b⟩:=r;simp only at t2 t3 t4 t5 q1⊢;have c5:IntKind.u64.wrap (top:Int)=top:=dG rfl ω;have c7:=Zc (u:=top) (s:=c) (b:=b) ht t2 ω;generalize(top+18446744073709551616-c-b) %18446744073709551616=x at*
 have c8:IntKind.u32.wrap (x:Int)=((x%4294967296:Nat):Int):=Jy rfl;have c9:=qE (n:=x) (k:=63) (i:=(x:Int)) (kk:=.u64) (j:=63) rfl rfl ω;have e7:(aE (P++(r1++top::Q)))[lo+V.length]?=some [U (top:Nat)]:=by
  simp_all[jY,Nat.add_sub_cancel_left,Nat.sub_self]
 have e8:(aE (P++(r1++top::Q))).set (lo+V.length) [U ((x%4294967296:Nat):Int)]=aE (P++(r1++x%4294967296::Q)):=by
  rw[ns,List.set_append_right _ _ ω,List.set_append_right _ _ ω,hP,t5,Nat.add_sub_cancel_left,Nat.sub_self];rfl
 have e9:(((x/9223372036854775808:Nat):Int)=1)=(x/9223372036854775808=1):=by
  grind
 simp only[go_sem,q1,e4,e5,e7,e8,c5,c7,c8,c9,e9,aCQ];rfl
theorem ahP{Q:List Nat}{lo:Nat}(hV:Lb V)(hq:q<4294967296)(hn:V.length<=100000)(hlo:lo<=100000)(hl:us.length=V.length)(hP:P.length=lo)(hu:Lb us)(ht:top<4294967296)(hh:h id=.ar 1 (aE (P++(us++top::Q))))(hd:h (2000+8*d)=.dead):
  bF R (az false) h d [.rsl id none 1 lo (V.length+1),lm V,W q] (.fn fcO [] [])=some (B (qu q top us V).2.2,upd h id (.ar 1 (aE (P++((qu q top us V).1++(qu q top us V).2.1::Q)))),[(id,true)]):=by
 have hm:=SM false;have hs:=QV false;have hk:=EJ false;have hf:=anP (Q:=Q) hV hq hn hlo hl hP hu ht;have hb':lw (az false) [.rsl id none 1 lo (V.length+1),lm V,W q] (.fn fcO [] [])=false:=by
  grind[lw]
 have h1:cu h [1,0,0] [.rsl id none 1 lo (V.length+1),.sl 1 (aE V),W q]=some ([.rsl id none 1 lo (V.length+1),.sl 1 (aE V),W q],h,[]):=by
  simp[cu,ef,yM,gW,aJ]
 have hr:cp h 40 [id] 0=[id]:=by
  grind[cp,nE,bN]
 have hp:bN [] ([AV.rsl id none 1 lo (V.length+1),.sl 1 (aE V),W q].flatMap cH)=[id]:=by
  simp[cH,gL,bN]
 have h3:bu [id] id=1000:=by simp[bu]
 have hnr:cJ (B (qu q top us V).2.2)=1:=rfl;have hnm:bA [[.o 2 []],[.o 2 []],[]] [.rsl id none 1 lo (V.length+1),.sl 1 (aE V),W q]=[.rsl id none 1 lo (V.length+1),.sl 1 (aE V),W q]:=by
  simp only[go_sem];rfl
 unfold bF;rw[if_neg γ];simp only[lm]at hf⊢;simp only[eM,hm,aCT,aCY,h1,aCN,hp,hr,hs,hnm];simp[kt,bo,bw,hh,aF,bU,eG,lu,h3,eH,hf,fE,hnr,cr,hd,dh,bf,oB,CK,ub,gL,kr,gx,GG,eY,mat,eJ,gP,hk,Hu,hm]
theorem akZ{Z Qr:List Nat}{sh n j g:Int}{QL J:Nat}(hV:Lb V)(hu:Lb us)(hl:us.length=V.length)(hn:V.length<=100000)(hP:P.length=J)(hj:j=J)(hJ:J<=100000)(hUL:J+V.length<=UL):
  ∀ (k i:Nat),i+k=V.length->∀ (s:ap) (h:ae),s 8=I sh->s 9=.rsl 2408 none 1 0 UL->s 10=lm V->s 11=I n->s 12=.rsl 70 none 1 0 QL->s 13=I j->s 14=W g->s 15=U (fw us V i:Nat)->s 123=lm V->s 124=I V.length->s 125=I i->h 63=.dead->h 70=.ar 1 (aE Qr)->h 2408=.ar 1 (aE (P++(dH us V i++(us.drop i++Z))))->
  ∃hh,ak 4 [8,9,10,11,12,13,14,15] (av (am R (az false) jF) [8,9,10,11,12,13,14,15,123,124,125] [63,70,2408] s h)=some (.normal,⟨upd (upd (upd (upd (upd (upd (upd (upd bk 15 (U (fw us V V.length:Nat))) 14 (W g)) 13 (I j)) 12 (.rsl 70 none 1 0 QL)) 11 (I n)) 10 (lm V)) 9 (.rsl 2408 none 1 0 UL)) 8 (I sh),hh⟩)/\hh 70=.ar 1 (aE Qr)/\hh 2408=.ar 1 (aE (P++(dH us V V.length++Z)))/\(∀a,a≠70->a≠2408->hh a=.dead):=by
 subst hj;intro k;induction k with
 |zero=>
  intro i hi s h g8 g9 g10 g11 g12 g13 g14 g15 g123 g124 g125 k63 k70 k2408;have hi':i=V.length:=ω
  subst hi';rw[List.drop_of_length_le ω,aCT]at k2408;rw[ah];refine⟨?hh0,?_,?_,?_,?_⟩;rotate_left
  ·simp only[jF,go_sem,g8,g9,g10,g11,g12,g13,g14,g15,g123,g124,g125,k63,k70,k2408,aDl];rfl
  all_goals simp_all[cB,if_false,ite_self]
 |succ k ih=>
  intro i hi s h g8 g9 g10 g11 g12 g13 g14 g15 g123 g124 g125 k63 k70 k2408;have hlt:i<V.length:=ω
  have hd:us.drop i=us.getD i 0::us.drop (i+1):=by
   simp_all
  have hsl:=ko us V i;rw[hd,aDd]at k2408;have e1:((i:Int)< (V.length:Int))=True:=tt;have e2:aZ (aE V) (i:Int)=some (.ipt [U (V.getD i 0:Nat)]):=bI rfl ω;have e3:aG ((i:Int)+1)=((i+1:Nat):Int):=wi;have e4:aG ((J:Int)+(i:Int))=((J+i:Nat):Int):=wi;have e5:(0<=((J+i:Nat):Int))=True:=tt;have e6:(((J+i:Nat):Int)< (UL:Int))=True:=tt;have e9:=O9 (bZ hu i) (bZ hV i) (F9 hu hV i);have e7:(aE (P++(dH us V i++(us.getD i 0::(us.drop (i+1)++Z)))))[J+i]?=some [U (us.getD i 0:Nat)]:=by
   simp_all[jY,Nat.add_sub_cancel_left,Nat.sub_self]
  have e8:(aE (P++(dH us V i++(us.getD i 0::(us.drop (i+1)++Z))))).set (J+i) [U (((us.getD i 0+V.getD i 0+fw us V i) %4294967296:Nat):Int)]=aE (P++(dH us V (i+1)++(us.drop (i+1)++Z))):=by
   rw[ns,List.set_append_right _ _ ω,List.set_append_right _ _ ω,hP,hsl,Nat.add_sub_cancel_left,Nat.sub_self];simp[dH,List.range_succ,HO]
  have ih':=ih (i+1) ω;have hc:fw us V (i+1)=(us.getD i 0+V.getD i 0+fw us V i)/4294967296:=rfl;rw[ah];simp only[jF,go_sem,g8,g9,g10,g11,g12,g13,g14,g15,g123,g124,g125,k63,k70,k2408,e1,e2,e3,e4,e5,e6,e7,e8,e9,aCQ,aCI];exact ih' _ _ rfl rfl rfl rfl rfl rfl rfl rfl rfl rfl rfl rfl rfl rfl
theorem aqH{U:List Nat}{k:Nat}(hU:Lb U)(hV:Lb V)(hvl:V.length=k+2)(h:ab (U.drop (j+1))<ab V):U.getD (j+(k+2)) 0<=V.getD (k+1) 0:=by
 have h1:ab V=ab (V.take (k+1))+4294967296^ (k+1)*V.getD (k+1) 0:=by
  rw[←fX,aCX ω]
 have h2:=di (gH hV (k+1));rw[aCW,aDx ω]at h2;have h3:4294967296^ (k+1)*U.getD (j+(k+2)) 0<=ab (U.drop (j+1)):=by
  by_cases hl:j+1+(k+1)<=U.length
  ·have h4:=He (U.drop (j+1)) (k+1) (by rw[aDL];omega);rw[List.drop_drop]at h4;have h5:=gA U (j+1+(k+1));rw[show j+1+(k+1)=j+(k+2)by omega]at h4 h5;rw[h4,h5,Nat.mul_add];omega
  grind
 refine Nat.le_of_not_lt fun hc=>?_;have h6:4294967296^ (k+1)*(V.getD (k+1) 0+1)<=4294967296^ (k+1)*U.getD (j+(k+2)) 0:=aDD _ hc;rw[Nat.mul_add,Nat.mul_one]at h6;omega
theorem ahQ{U:List Nat}(h:j+n<U.length):U=U.take j++((U.drop j).take n++U.getD (j+n) 0::U.drop (j+n+1)):=by
 grind[aC4,List.drop_drop,List.take_append_drop]
theorem acs{U:List Nat}(hi:i<n):((U.drop j).take n).getD i 0=U.getD (j+i) 0:=by
 rw[List.getD_eq_getElem?_getD,List.getD_eq_getElem?_getD,List.getElem?_take,if_pos hi,List.getElem?_drop]
theorem atG{Qr:List Nat}{n j g:Int}{QL J:Nat}(hV:Lb V)(hu:Lb us)(hl:us.length=V.length)(hn:V.length<=100000)(hP:P.length=J)(hj:j=J)(hJ:J<=100000)(hUL:J+V.length<=UL)(s:ap)(h:ae)(X:Option (Ex×St))(hX:ak 4 [8,9,10,11,12,13,14,15] (av (am R (az false) jF) [8,9,10,11,12,13,14,15,123,124,125] [63,70,2408] s h)=X)
  (g8:s 8=I sh) (g9:s 9=.rsl 2408 none 1 0 UL) (g10:s 10=lm V) (g11:s 11=I n) (g12:s 12=.rsl 70 none 1 0 QL) (g13:s 13=I j) (g14:s 14=W g) (g15:s 15=U 0) (g123:s 123=lm V) (g124:s 124=I V.length) (g125:s 125=I 0) (k63:h 63=.dead) (k70:h 70=.ar 1 (aE Qr)) (k2408:h 2408=.ar 1 (aE (P++(us++Z)))):
  ∃hh,X=some (.normal,⟨upd (upd (upd (upd (upd (upd (upd (upd bk 15 (U (fw us V V.length:Nat))) 14 (W g)) 13 (I j)) 12 (.rsl 70 none 1 0 QL)) 11 (I n)) 10 (lm V)) 9 (.rsl 2408 none 1 0 UL)) 8 (I sh),hh⟩)/\hh 70=.ar 1 (aE Qr)/\hh 2408=.ar 1 (aE (P++(dH us V V.length++Z)))/\(∀a,a≠70->a≠2408->hh a=.dead):=by
 subst hX;exact akZ hV hu hl hn hP hj hJ hUL V.length 0 (aCI _) s h g8 g9 g10 g11 g12 g13 g14 g15 g123 g124 g125 k63 k70 k2408
theorem aqI{vs:List Nat}(hq:q<4294967296)(ht:top<4294967296)(hu:Lb us)(hv:Lb vs)(hl:us.length=vs.length)(hf:(qu q top us vs).2.2=true):1<=q:=by
 obtain⟨t1,t2,t3,t4⟩:=Tv hq ht hu hv hl;rw[if_pos hf]at t1;refine Nat.pos_of_ne_zero fun h0=>?_;rw[h0,Nat.zero_mul,aDm]at t1;have h1:=di t3;rw[h0]at t2 h1 t4;rw[t4]at h1;have h2:4294967296^vs.length*((qu 0 top us vs).2.1+1)<=4294967296^vs.length*4294967296:=aDD _ ω;rw[Nat.mul_add,Nat.mul_one]at h2;omega
theorem ahR{A r:List Nat}{k t:Nat}(h:r.length=k+2):A.take j++(r++t::A.drop (j+(k+2)+1))=qN A j r t:=by
 grind[qN]
theorem ak0{k:Nat}{sh:Int}{QL:Nat}(hV:Lb V)(hvl:V.length=k+2)(hn2:2147483648<=V.getD (k+1) 0)(hn:V.length<=100000)(hUL:UL<=100000):
  ∀ (m:Nat) (A Dn:List Nat),Lb A->A.length=UL->m+(k+2)<=UL->m+Dn.length=QL->ab (A.drop m)<ab V->∀ (s:ap) (h:ae),s 8=I sh->s 9=.rsl 2408 none 1 0 UL->s 10=lm V->s 11=I (k+2:Nat)->s 12=.rsl 70 none 1 0 QL->s 13=I ((m:Int)-1)->h 63=.dead->h 70=.ar 1 (aE (aCG m 0++Dn))->h 2408=.ar 1 (aE A)->
  ∃hh,ak 2 [8,9,11,12] (av (am R (az false) lM) [8,9,10,11,12,13] [63,70,2408] s h)=some (.normal,⟨upd (upd (upd (upd bk 12 (.rsl 70 none 1 0 QL)) 11 (I (k+2:Nat))) 9 (.rsl 2408 none 1 0 UL)) 8 (I sh),hh⟩)/\hh 70=.ar 1 (aE ((Bn V m A).2++Dn))/\hh 2408=.ar 1 (aE (Bn V m A).1)/\(∀a,a≠70->a≠2408->hh a=.dead):=by
 intro m;induction m with
 |zero=>
  intro A Dn hA hl hm hq hlt s h g8 g9 g10 g11 g12 g13 k63 k70 k2408;have e1:(0<=(((0:Nat):Int)-1))=False:=ff;rw[ah];refine⟨?hh0,?_,?_,?_,?_⟩;rotate_left
  ·simp only[lM,go_sem,g8,g9,g10,g11,g12,g13,k63,k70,k2408,e1];rfl
  ·rfl
  ·rfl
  simp_all[cB,if_false,ite_self]
 |succ j ih=>
  intro A Dn hA hl hm hq hlt s h g8 g9 g10 g11 g12 g13 k63 k70 k2408;have e0:(((j+1:Nat):Int)-1)=(j:Int):=ω
  rw[e0]at g13;have e1:(0<=(j:Int))=True:=tt;have w1:aG ((j:Int)+((k+2:Nat):Int))=((j+(k+2):Nat):Int):=wi σ ω;have w2:IntKind.i64.wrap (((j+(k+2):Nat):Int)-1)=((j+(k+1):Nat):Int):=wi;have w3:aG (((j+(k+2):Nat):Int)-2)=((j+k:Nat):Int):=wi;have w4:aG (((k+2:Nat):Int)-1)=((k+1:Nat):Int):=wi;have w5:aG (((k+2:Nat):Int)-2)=((k:Nat):Int):=wi;have w6:aG (((j+(k+2):Nat):Int)+1)=((j+(k+2)+1:Nat):Int):=wi;have w7:aG ((j:Int)-1)=(j:Int)-1:=i64_in _ ⟨by omega,by omega⟩;have r1:aZ (aE V) ((k+1:Nat):Int)=some (.ipt [U (V.getD (k+1) 0:Nat)]):=bI rfl ω;have r2:aZ (aE V) ((k:Nat):Int)=some (.ipt [U (V.getD k 0:Nat)]):=bI rfl ω;have b1:(0<=((j+(k+2):Nat):Int))=True:=tt;have b2:(0<=((j+(k+1):Nat):Int))=True:=tt;have b3:(0<=((j+k:Nat):Int))=True:=tt;have b4:(((j+(k+2):Nat):Int)< (UL:Int))=True:=tt;have b5:(((j+(k+1):Nat):Int)< (UL:Int))=True:=tt;have b6:(((j+k:Nat):Int)< (UL:Int))=True:=tt;have l1:(aE A)[j+(k+2)]?=some [U (A.getD (j+(k+2)) 0:Nat)]:=jY ω;have l2:(aE A)[j+(k+1)]?=some [U (A.getD (j+(k+1)) 0:Nat)]:=jY ω;have l3:(aE A)[j+k]?=some [U (A.getD (j+k) 0:Nat)]:=jY ω;have htop:=aqH hA hV hvl hlt;have hg:=akV (top:=A.getD (j+(k+2)) 0) (next:=A.getD (j+(k+1)) 0) (third:=A.getD (j+k) 0) (v:=V.getD (k+1) 0) (w:=V.getD k 0) hn2 (bZ hV _) htop (bZ hA _) (bZ hA _) (bZ hV _);have hT:CH (A.getD (j+(k+2)) 0) ((A.drop j).take (k+2))=(A.getD (j+(k+2)) 0*4294967296+A.getD (j+(k+1)) 0)*4294967296+A.getD (j+k) 0:=by
   unfold CH;have h1:((A.drop j).take (k+2)).length=k+2:=γ
   rw[h1,show k+2-1=k+1 by omega,show k+2-2=k by omega,acs ω,acs ω]
  have hW:Bm V=V.getD (k+1) 0*4294967296+V.getD k 0:=by
   grind[Bm]
  rw[←hT,←hW]at hg;have hgb:yS (CH (A.getD (j+(k+2)) 0) ((A.drop j).take (k+2))) (Bm V)<4294967296:=by
   grind[yS,CH,Bm,Nat.min_le_left]
  obtain⟨G,hG⟩:∃G,yS (CH (A.getD (j+(k+2)) 0) ((A.drop j).take (k+2))) (Bm V)=G:=⟨_,rfl⟩;rw[hG]at hg hgb;have hsp:=ahQ (U:=A) (j:=j) (n:=k+2) ω;have hwl:((A.drop j).take (k+2)).length=V.length:=γ
  have hpl:(A.take j).length=j:=γ
  have htk:=fun(h:ae) (d:Nat) (hh:h 2408=.ar 1 (aE A)) (hd:h (2000+8*d)=.dead)=>ahP (V:=V) (us:=(A.drop j).take (k+2)) (P:=A.take j) (Q:=A.drop (j+(k+2)+1)) (q:=G) (lo:=j) (top:=A.getD (j+(k+2)) 0) hV hgb hn ω hwl hpl (gH (lZ hA j) _) (bZ hA _) (h:=h) (d:=d) (id:=2408) γ hd;rw[hvl]at htk;have sl:fA 1 (.rsl 2408 none 1 0 UL) (some (I (j:Int))) (some (I ((j+(k+2)+1:Nat):Int))) none=some (.rsl 2408 none 1 j (k+2+1)):=by
   have h1:lG UL UL (some (I ((j+(k+2)+1:Nat):Int)))=some (j+(k+2)+1):=xr rfl ω;have h2:lG 0 (j+(k+2)+1) (some (I (j:Int)))=some j:=xr rfl ω;have h3:j+(k+2)+1-j=k+2+1:=ω
   simp only[fA,lP,h1,h2,aCN,aDt,aCI,h3,if_true,Option.isNone_none]
  rw[ah];generalize av _ _ _=L at ih⊢;simp only[lM,go_sem,g8,g9,g10,g11,g12,g13,k63,k70,k2408,e1,w1,w2,w3,w4,w5,w6,r1,r2,b1,b2,b3,b4,b5,b6,l1,l2,l3,hg,sl,aCQ,aCI];rw[htk _ _ rfl rfl];have hpos:=aqI (q:=G) (top:=A.getD (j+(k+2)) 0) (us:=(A.drop j).take (k+2)) (vs:=V) hgb (bZ hA _) (gH (lZ hA j) _) hV hwl;obtain⟨q1,q2,q3,q4⟩:=Tv (q:=G) (top:=A.getD (j+(k+2)) 0) (us:=(A.drop j).take (k+2)) (vs:=V) hgb (bZ hA _) (gH (lZ hA j) _) hV hwl;have hVb:ab V<4294967296^ (k+2):=by grind[di]
  obtain⟨x1,x2,x3⟩:=acq (n:=k+2) hA ω hVb hlt;have hs:=ahL (top:=A.getD (j+(k+2)) 0) (bZ hA _) (gH (lZ hA j) (k+2)) hV (by rw[hwl,hvl]) hvl hn2 ω;have hdv:Bn V (j+1) A=((Bn V j (qN A j (Aa (A.getD (j+(k+2)) 0) ((A.drop j).take (k+2)) V).1 (Aa (A.getD (j+(k+2)) 0) ((A.drop j).take (k+2)) V).2.1)).1,(Bn V j (qN A j (Aa (A.getD (j+(k+2)) 0) ((A.drop j).take (k+2)) V).1 (Aa (A.getD (j+(k+2)) 0) ((A.drop j).take (k+2)) V).2.1)).2++[(Aa (A.getD (j+(k+2)) 0) ((A.drop j).take (k+2)) V).2.2]):=by
   rw[←hvl];rfl
  rw[x1]at hs;rw[hdv];have hds:Aa (A.getD (j+(k+2)) 0) ((A.drop j).take (k+2)) V=if(qu G (A.getD (j+(k+2)) 0) ((A.drop j).take (k+2)) V).2.2=true then(dH (qu G (A.getD (j+(k+2)) 0) ((A.drop j).take (k+2)) V).1 V V.length,((qu G (A.getD (j+(k+2)) 0) ((A.drop j).take (k+2)) V).2.1+fw (qu G (A.getD (j+(k+2)) 0) ((A.drop j).take (k+2)) V).1 V V.length) %4294967296,G-1)else((qu G (A.getD (j+(k+2)) 0) ((A.drop j).take (k+2)) V).1,(qu G (A.getD (j+(k+2)) 0) ((A.drop j).take (k+2)) V).2.1,G):=by
   unfold Aa;rw[hG]
  generalize qu G (A.getD (j+(k+2)) 0) ((A.drop j).take (k+2)) V=r at*
  obtain⟨ra,rt,rf⟩:=r;generalize Aa (A.getD (j+(k+2)) 0) ((A.drop j).take (k+2)) V=sd at*
  have wg:IntKind.u32.wrap (G:Int)=G:=CG rfl hgb;have o1:(aE (aCG (j+1) 0++Dn))[j]?=some [U (0:Nat)]:=by
   rw[jY (by simp;omega),List.getD_eq_getElem?_getD,List.getElem?_append_left σ,List.getElem?_replicate,if_pos ω];rfl
  have o2:∀z:Nat,(aE (aCG (j+1) 0++Dn)).set j [U (z:Int)]=aE (aCG j 0++z::Dn):=fun z=>by
   rw[ns];congr 1;rw[List.replicate_succ',aDr,List.set_append_right _ _ σ];simp
  have o3:((j:Int)< (QL:Int))=True:=tt;cases rf with
  |false=>
   simp only[aDy,if_false]at hds;subst hds;simp only at hs⊢;obtain⟨d1,d2,d3,d4,d5⟩:=hs;rw[ahR d4];have ih':=ih (qN A j ra rt) (G::Dn) (Tw hA d3 d5) (by rw[Gk ω];exact hl) ω (by simp;omega) (by
    rw[LW ω,ez,d4,w2' x2,d1];exact aDj _ ω)
   simp only[go_sem,w7,wg,o1,o2,o3,e1,aCQ,aCI];rw[aDr];exact ih' _ _ rfl rfl rfl rfl rfl rfl rfl rfl rfl
  |true=>
   simp only[if_true]at hds;subst hds;simp only at hs q2 q3 q4⊢;obtain⟨d1,d2,d3,d4,d5⟩:=hs;have hG1:1<=G:=hpos rfl;have wq:IntKind.u64.wrap ((G:Int)-1)=((G-1:Nat):Int):=dG ω ω;have wg1:IntKind.u32.wrap ((G-1:Nat):Int)=((G-1:Nat):Int):=CG rfl ω;have hx:=atG (V:=V) (us:=ra) (P:=A.take j) (Z:=rt::A.drop (j+(k+2)+1)) (Qr:=aCG (j+1) 0++Dn) (sh:=sh) (n:=(k+2:Nat)) (j:=(j:Int)) (g:=((G-1:Nat):Int)) (UL:=UL) (QL:=QL) (J:=j) hV q3 q4 hn hpl rfl ω ω;simp only[go_sem,wq];generalize hX:ak 4 _ _=X;obtain⟨hh,rfl,y70,y2408,yd⟩:=hx _ _ _ hX rfl rfl rfl rfl rfl rfl rfl rfl rfl rfl rfl rfl rfl rfl;have y63:hh 63=.dead:=yd _ δ δ;have hsl:(dH ra V V.length).length=k+2:=by rw[ko,hvl]
   have wc:IntKind.u32.wrap ((rt:Int)+(fw ra V V.length:Int))=(((rt+fw ra V V.length) %4294967296:Nat):Int):=Jy σ;have z1:(aE (A.take j++(dH ra V V.length++rt::A.drop (j+(k+2)+1))))[j+(k+2)]?=some [U (rt:Nat)]:=by
    rw[jY (by simp[hpl,hsl]),List.getD_eq_getElem?_getD,List.getElem?_append_right ω,List.getElem?_append_right ω,hpl,hsl,Nat.add_sub_cancel_left,Nat.sub_self];rfl
   have z2:(aE (A.take j++(dH ra V V.length++rt::A.drop (j+(k+2)+1)))).set (j+(k+2)) [U (((rt+fw ra V V.length) %4294967296:Nat):Int)]=aE (qN A j (dH ra V V.length) ((rt+fw ra V V.length) %4294967296)):=by
    rw[ns,List.set_append_right _ _ ω,List.set_append_right _ _ ω,hpl,hsl,Nat.add_sub_cancel_left,Nat.sub_self,←ahR hsl];rfl
   have ih':=ih (qN A j (dH ra V V.length) ((rt+fw ra V V.length) %4294967296)) ((G-1)::Dn) (Tw hA d3 d5) (by rw[Gk ω];exact hl) ω (by simp;omega) (by
    rw[LW ω,ez,hsl,w2' x2,d1];exact aDj _ ω)
   generalize qN A j (dH ra V V.length) ((rt+fw ra V V.length) %4294967296)=A2 at*
   generalize(rt+fw ra V V.length) %4294967296=rc at*
   simp only[go_sem,w1,w7,wg1,wc,z1,z2,o1,o2,o3,e1,b1,b4,y63,y70,y2408,aCQ,aCI];rw[aDr];exact ih' _ _ rfl rfl rfl rfl rfl rfl y63 rfl rfl
theorem anQ{x:Nat}(hx:x<4294967296):R fai [U x] []=some (I ((32-ag x:Nat):Int),[]):=by
 refine au Ik rfl ?_;have hb:ag x<=32:=bH.2 hx;have hl:=Yo hx;have w1:aG (32- (ag x:Int))=((32-ag x:Nat):Int):=wi;simp only[rT,go_sem,hl,w1]
theorem atH{A:List Nat}{k:Nat}(hV:Lb V)(hvl:V.length=k+2)(hn2:2147483648<=V.getD (k+1) 0)(hn:V.length<=100000)(hUL:UL<=100000)(hA:Lb A)(hl:A.length=UL)(hm:m+(k+2)<=UL)(hlt:ab (A.drop m)<ab V)(s:ap)(h:ae)(X:Option (Ex×St))(hX:ak 2 [8,9,11,12] (av (am R (az false) lM) [8,9,10,11,12,13] [63,70,2408] s h)=X)
  (g8:s 8=I sh) (g9:s 9=.rsl 2408 none 1 0 UL) (g10:s 10=lm V) (g11:s 11=I (k+2:Nat)) (g12:s 12=.rsl 70 none 1 0 m) (g13:s 13=I ((m:Int)-1)) (k63:h 63=.dead) (k70:h 70=.ar 1 (aE (aCG m 0))) (k2408:h 2408=.ar 1 (aE A)):
  ∃hh,X=some (.normal,⟨upd (upd (upd (upd bk 12 (.rsl 70 none 1 0 m)) 11 (I (k+2:Nat))) 9 (.rsl 2408 none 1 0 UL)) 8 (I sh),hh⟩)/\hh 70=.ar 1 (aE (Bn V m A).2)/\hh 2408=.ar 1 (aE (Bn V m A).1)/\(∀a,a≠70->a≠2408->hh a=.dead):=by
 subst hX;have:=ak0 (sh:=sh) (QL:=m) hV hvl hn2 hn hUL m A [] hA hl hm σ hlt s h g8 g9 g10 g11 g12 g13 k63 (by rw[aCY];exact k70) k2408;rw[aCY]at this;exact this
theorem ak1{k:Nat}(hb:Lb b)(hl:b.length=k+2)(ht:b.getD (k+1) 0≠0):2147483648*4294967296^ (k+1)<=ab b*2^ (32-ag (b.getD (k+1) 0))/\ab b*2^ (32-ag (b.getD (k+1) 0))<4294967296^ (k+2):=by
 have h1:ab b=ab (b.take (k+1))+4294967296^ (k+1)*b.getD (k+1) 0:=by
  rw[←fX,aCX ω]
 have h2:=di (gH hb (k+1));rw[aCW,aDx ω]at h2;have h3:=bZ hb (k+1);generalize b.getD (k+1) 0=x at*
 have h4:ag x<=32:=bH.2 h3;have h5:0<ag x:=gM ht;have h6:=dJ (n:=x) (32-ag x) ht;have h7:2147483648<=x*2^ (32-ag x):=by
  refine Nat.le_of_not_lt fun hc=>?_;have:=bH.2 (show x*2^ (32-ag x)<2^31 from hc);omega
 have h8:(x+1)*2^ (32-ag x)<=4294967296:=by
  have h9:x<2^ag x:=bH.1 (aCJ _);have h10:(x+1)*2^ (32-ag x)<=2^ag x*2^ (32-ag x):=aCS _ h9;rw[←aCU,show ag x+(32-ag x)=32 by omega]at h10;exact h10
 rw[h1];have e:4294967296^ (k+2)=4294967296^ (k+1)*4294967296:=aDw ..;rw[e];generalize 4294967296^ (k+1)=B at*
 generalize 2^ (32-ag x)=S at*
 have h11:B*2147483648<=B*(x*S):=aDD _ h7;have h12:B*((x+1)*S)<=B*4294967296:=aDD _ h8;have h13:(ab (b.take (k+1))+B*x)*S=ab (b.take (k+1))*S+B*(x*S):=by rw[aC8,aC9]
 rw[h13];constructor
 ·omega
 ·have hS:0<S:=by
   rcases Nat.eq_zero_or_pos S with h0|h0
   ·rw[h0]at h7;omega
   ·exact h0
  have h14:ab (b.take (k+1))*S<B*S:=Nat.mul_lt_mul_of_pos_right h2 hS;rw[aC8,Nat.one_mul,Nat.mul_add]at h12;omega
theorem abe(ha:Lb a)(hb:Lb b)(h1:a.length<=50000)(h2:b.length<=50000)(hl:(aA (ab b)).length=1)(hge:ab b<=ab a):R fcB [lm a,lm b] []=some (.tup [lm (gr (ab b) (aA (ab a))).1,lm [ab a%ab b]],[]):=by
 refine au F7 rfl ?_;have t1:=dZ ha ω;have t2:=dZ hb ω;have la:=dU a ha;have hc:=Cf (bh (ab a)) (bh (ab b)) ω ω;rw[aT,aT]at hc;have e1:(cK (ab a) (ab b)<0)=False:=by
  unfold cK;grind
 obtain⟨y,hy⟩:=List.length_eq_one_iff.1 hl;have hv:ab b=y:=by
  grind[aT,ab]
 have hyb:y<4294967296:=by
  have:=bh (ab b);rw[hy]at this;exact this y σ
 have hy0:0<y:=by
  grind[go]
 have hs:=akY (bh (ab a)) hy0 hyb ω;obtain⟨s1,s2,s3⟩:=Fj hy0 (bh (ab a));rw[aT]at s1;have s4:(gr y (aA (ab a))).2=ab a%y:=by
  grind[aC6,Nat.mul_add_mod,aDq]
 rw[hv]at hge⊢;rw[s4]at hs;rw[hy]at t2 hc;have e2:aZ (aE [y]) 0=some (.ipt [U (y:Nat)]):=bI (n:=0) rfl σ;have e3:(([y]:List Nat).length:Int)=1:=rfl;have e4:((1:Nat):Int)=1:=rfl;simp only[sC,Ay,go_sem,t1,t2,hc,e1,e2,e3,e4,hs,decide_true];rfl
theorem abf{k:Nat}(ha:Lb a)(hb:Lb b)(h1:a.length<=50000)(h2:b.length<=50000)(hl:(aA (ab b)).length=k+2)(hge:ab b<=ab a):∃Q Rr,R fcB [lm a,lm b] []=some (.tup [lm Q,lm Rr],[])/\Lb Q/\Lb Rr/\ab Q=ab a/ab b/\ab Rr=ab a%ab b/\Q.length<=100000/\Rr.length<=100000:=by
 have t1:=dZ ha ω;have t2:=dZ hb ω;have la:=dU a ha;have lb:=dU b hb;have hc:=Cf (bh (ab a)) (bh (ab b)) ω ω;rw[aT,aT]at hc;have e1:(cK (ab a) (ab b)<0)=False:=by
  unfold cK;grind
 have hvd:=aT (ab b);have hLd:=bh (ab b);have hb0:ab b≠0:=fun h=>by
  rw[pB.2 h]at hl;grind
 have ht:(aA (ab b)).getD (k+1) 0≠0:=by
  intro h0;have q1:ab (aA (ab b))=ab ((aA (ab b)).take (k+1))+4294967296^ (k+1)*(aA (ab b)).getD (k+1) 0:=by
   rw[←fX,aCX ω]
  have q2:=di (gH hLd (k+1));have q3:=Ur hb0;rw[aCW,aDx ω]at q2;rw[hl,show k+2-1=k+1 from rfl]at q3;rw[h0,Nat.mul_zero,hvd]at q1;omega
 obtain⟨n1,n2⟩:=ak1 hLd hl ht;rw[hvd]at n1 n2;have hy:=bZ hLd (k+1);have hyl:aZ (aE (aA (ab b))) ((k+1:Nat):Int)=some (.ipt [U ((aA (ab b)).getD (k+1) 0:Nat)]):=bI (n:=k+1) rfl ω;generalize(aA (ab b)).getD (k+1) 0=y at*
 have hlz:=anQ hy;have hbl:ag y<=32:=bH.2 hy;have hbp:0<ag y:=gM ht;generalize hs:32-ag y=s at*
 have hs32:s<32:=ω
 have s1:=QX (bh (ab a)) (n:=s) ω ω;have s2:=QX hLd (n:=s) ω ω;rw[aT,show s/32=0 by omega,aCI]at s1 s2;have hsp:(2:Nat)^s<=2147483648:=aDn (n:=2) (i:=s) (j:=31) δ ω;have hAl:=iP (ab a);have hBl:=iP (ab b);have hle:k+2<=(aA (ab a)).length:=by
  rw[←hl];refine Nat.le_of_not_lt fun hc=>?_;have:=uJ hc;omega
 have hA2:ab a*2^s<4294967296^ ((aA (ab a)).length+1):=by
  rw[aDw];exact Nat.mul_lt_mul_of_lt_of_le hAl ω δ
 have hB2:ab b*2^s<4294967296^ ((aA (ab b)).length+1):=by
  rw[aDw];exact Nat.mul_lt_mul_of_lt_of_le hBl ω δ
 have t3:=dZ (m:=dO ((aA (ab b)).length+1) (ab b*2^s)) (ni _ _) (by rw[cZ];omega);rw[l6,aDq hB2]at t3;have hVv:=aT (ab b*2^s);have hVb:=bh (ab b*2^s);have hVl:(aA (ab b*2^s)).length=k+2:=by
  have q1:=lq n2;have q2:=iP (ab b*2^s);refine Nat.le_antisymm q1 (Nat.le_of_not_lt fun hc=>?_);have q3:4294967296^ (aA (ab b*2^s)).length<=4294967296^ (k+1):=aDn δ ω;omega
 have hVt:2147483648<=(aA (ab b*2^s)).getD (k+1) 0:=by
  have q1:ab (aA (ab b*2^s))=ab ((aA (ab b*2^s)).take (k+1))+4294967296^ (k+1)*(aA (ab b*2^s)).getD (k+1) 0:=by
   rw[←fX,aCX ω]
  have q2:=di (gH hVb (k+1));rw[aCW,aDx ω]at q2;refine Nat.le_of_not_lt fun hc=>?_;have q3:4294967296^ (k+1)*((aA (ab b*2^s)).getD (k+1) 0+1)<=4294967296^ (k+1)*2147483648:=aDD _ hc;rw[Nat.mul_add,Nat.mul_one]at q3;omega
 generalize aA (ab b*2^s)=V at*
 obtain⟨m,hm⟩:∃m,(aA (ab a)).length=m+(k+1):=⟨_,(Nat.sub_add_cancel ω).symm⟩;have hUv:ab (dO ((aA (ab a)).length+1) (ab a*2^s))=ab a*2^s:=by rw[l6,aDq hA2]
 have hUb:=ni ((aA (ab a)).length+1) (ab a*2^s);have hUl:=cZ ((aA (ab a)).length+1) (ab a*2^s);have hlt:ab ((dO ((aA (ab a)).length+1) (ab a*2^s)).drop m)<ab V:=by
  rw[AH hUb,hUv,hVv];refine aDF (Nat.div_lt_of_lt_mul ?_) n1;rw[aC6 2147483648,←aC9,←aCU,←hm];exact Nat.mul_lt_mul_of_lt_of_le hAl hsp δ
 generalize dO ((aA (ab a)).length+1) (ab a*2^s)=A at*
 obtain⟨d1,d2,d3,d4,d5,d6⟩:=ahN hVb hVl hVt m A hUb ω hlt;have hdx:=atH (sh:=(s:Int)) hVb hVl hVt ω (UL:=A.length) ω hUb rfl (m:=m) ω hlt;generalize(Bn V m A).1=rr at*
 generalize(Bn V m A).2=qq at*
 have hrt:ab (rr.take (k+2))=ab rr:=by
  have q1:=ez (rr.take (k+2)) (rr.drop (k+2));rw[List.take_append_drop]at q1;have q2:=AH d5 (k+2);rw[Nat.div_eq_of_lt (Nat.lt_trans d2 (by rw[hVv];exact n2))]at q2;rw[q2]at q1;omega
 have s3:=agU (gH d5 (k+2)) (n:=s) (by rw[aCW];omega) ω;rw[hrt,show s/32=0 by omega,Nat.sub_zero]at s3;have hrr:ab rr/2^s=ab a%ab b/\ab qq=ab a/ab b:=by
  rw[hUv,hVv]at d1;rw[hVv]at d2;have q0:0<2^s:=aC1 s;have q1:ab rr%2^s=0:=by
   have:ab a*2^s%2^s=0:=Nat.mul_mod_left ..;rw[d1,aC9,aC6 (ab b),aC9,Nat.add_mul_mod_self_left]at this;exact this
  obtain⟨r,hr⟩:=Nat.dvd_of_mod_eq_zero q1;rw[hr,Nat.mul_div_cancel_left _ q0];rw[hr]at d1 d2;have q2:ab a=r+ab b*ab qq:=by
   refine Nat.eq_of_mul_eq_mul_right q0 ?_;rw[d1];grind
  have q3:r<ab b:=by
   refine Nat.lt_of_mul_lt_mul_right (a:=2^s) ?_;rw[aC6 r];exact d2
  rw[q2,Nat.add_mul_mod_self_left,aDq q3,Nat.add_mul_div_left _ _ ω,Nat.div_eq_of_lt q3,aCI];exact⟨rfl,rfl⟩
 refine⟨qq,dO (aA (ab rr)).length (ab rr/2^s),?_,d6,ni _ _,hrr.2,?_,by omega,?_⟩;rotate_left
 ·rw[l6,aDq (aDe (Nat.div_le_self _ _) (iP _))];exact hrr.1
 ·rw[cZ];have:=dU rr d5;omega
 refine au F7 rfl ?_;generalize dO ((aA (ab b)).length+1) (ab b*2^s)=B2 at s2 t3;have tk:List.take B2.length (aE B2)=aE B2:=aCX (by simp[aE]);have e2:(((aA (ab b)).length:Int)=1)=False:=ff;have w1:aG (((aA (ab b)).length:Int)-1)=((k+1:Nat):Int):=wi;have e3:((A.length:Int)<=(aA (ab a)).length)=False:=ff;have w2:aG ((A.length:Int)-V.length)=((m:Nat):Int):=wi;have w3:aG ((m:Int)-1)=(m:Int)-1:=i64_in _ ⟨by omega,by omega⟩;have z1:qA (.v (.int .i64 (m:Int))) (.v (.int .i64 (m:Int)))=some (m,m):=by
  simp only[qA];rw[if_pos ⟨by omega,by omega,by omega⟩];rfl
 have z2:(m*4<=140737488355328)=True:=tt;simp only[sC,Ay,go_sem,t1,t2,hc,e1,e2,aCI,aCJ,e3,w1,hyl,hlz,s1,s2,tk,t3];rw[ah];simp only[Cz,go_sem,e3,w2,w3,z1,z2];generalize hX:ak 2 _ _=X;obtain⟨hh,rfl,q70,q2408,qd⟩:=hdx _ _ _ hX rfl rfl rfl (by rw[hVl];rfl) rfl rfl rfl (by simp[aE];rfl) rfl;have e4:∀n:Nat,n<=A.length->fA 1 (.rsl 2408 none 1 0 A.length) none (some (I (n:Int))) none=some (.rsl 2408 none 1 0 n):=fun n hn=>by simp[fA,lP,lG,hn]
 have e4:=e4 (k+2) ω;have e5:(0+(k+2)<=rr.length)=True:=tt;have e6:List.take (k+2) (aE rr)=aE (rr.take (k+2)):=(List.map_take ..).symm;simp only[go_sem,q70,q2408,qd 3336 δ δ,e4,e5,e6,s3];rw[d3,if_pos ω,if_pos rfl];simp only[go_sem]
theorem ahS(ha:Lb a)(hb:Lb b)(h1:a.length<=50000)(h2:b.length<=50000)(h0:ab b≠0)(hge:ab b<=ab a):∃Q Rr,R fcB [lm a,lm b] []=some (.tup [lm Q,lm Rr],[])/\Lb Q/\Lb Rr/\ab Q=ab a/ab b/\ab Rr=ab a%ab b/\Q.length<=100000/\Rr.length<=100000:=by
 have la:=dU a ha;have lb:=dU b hb;have hn:(aA (ab b)).length≠0:=fun h=>h0 (pB.1 (List.length_eq_zero_iff.1 h));by_cases hl:(aA (ab b)).length=1
 ·have:=abe ha hb h1 h2 hl hge;have hb1:=iP (ab b);rw[hl,Nat.pow_one]at hb1;obtain⟨s1,s2,s3⟩:=Fj (Nat.pos_of_ne_zero h0) (bh (ab a));rw[aT]at s1;have s4:=acr (Nat.pos_of_ne_zero h0) hb1 (bh (ab a));refine⟨_,_,this,s4,fun x hx=>?_,?_,?_,by omega,by simp⟩
  ·have:x=ab a%ab b:=by simpa using hx
   have:=aDj (ab a) (Nat.pos_of_ne_zero h0);omega
  ·generalize(gr (ab b) (aA (ab a))).2=r at*
   generalize(gr (ab b) (aA (ab a))).1=q at*
   rw[s1,aC6,Nat.mul_add_div (Nat.pos_of_ne_zero h0),Nat.div_eq_of_lt s2,aDm]
  ·simp[ab]
 ·obtain⟨k,hk⟩:∃k,(aA (ab b)).length=k+2:=⟨(aA (ab b)).length-2,by omega⟩;exact abf ha hb h1 h2 hk hge
theorem ahT(ha:Lb a)(hb:Lb b)(h1:a.length<=256)(h2:b.length<=256)(h0:ab b≠0)(hge:ab b<=ab a):R fcu [lm a,lm b] []=some (.tup [lm (aA (ab a/ab b)),lm (aA (ab a%ab b)),I 0],[]):=by
 refine au O3 rfl ?_;have e1:(256<a.length)=False:=ff;have e2:(256<b.length)=False:=ff;obtain⟨Q,Rr,hd,q1,q2,q3,q4,q5,q6⟩:=ahS ha hb ω ω h0 hge;have t1:=dZ q1 ω;have t2:=dZ q2 ω;rw[q3]at t1;rw[q4]at t2;have e3:(((aA (ab b)).length:Int)=0)=False:=eq_false fun h=>h0 (pB.1 (List.length_eq_zero_iff.1 ω));simp only[zg,go_sem,e1,e2,e3,xt,dZ hb ω,hd,t1,t2,SO]
def zG(a b:Rd)(p:Int):Nat:=(p+3+ag (ab b.m)-ag (ab a.m)).toNat
def uM(a b:Rd)(p:Int)(up:Bool):Rd×Int:=if aY p [a,b]=0 then(if b.m.length=0 then(aB,10)else if a.m.length=0 then(aB,0)else
 iX (a.neg !=b.neg) (df (ab a.m*2^zG a b p/ab b.m) (a.e-zG a b p-b.e) (decide (ab a.m*2^zG a b p%ab b.m≠0)) p (up != (a.neg !=b.neg))))else(aB,aY p [a,b])
theorem act{a b:Rd}(oa:Ok0 a)(ob:Ok0 b){up:Bool}:R fdW [af a,af b,I p,B up] []=some (rV (uM a b p up),[]):=by
 refine au aa2 rfl ?_;have hf:R fdX [I p,.sl 3 [[B a.neg,lm a.m,I a.e],[B b.neg,lm b.m,I b.e]]] []=some (I (aY p [a,b]),[]):=C8 (p:=p) (l:=[a,b]) (fun x hx=>by
  grind) (show 2<=100000 by decide)
 unfold uM;by_cases h0:aY p [a,b]=0
 ·obtain⟨v1,v2,v3⟩:=xI h0;have v4:vd a=true/\vd b=true:=γ
  obtain⟨va,vb⟩:=v4;obtain⟨a1,a2,a3,a4⟩:=dj va oa.lb;obtain⟨b1,b2,b3,b4⟩:=dj vb ob.lb;rw[if_pos h0];rw[h0]at hf;by_cases b0:b.m.length=0
  ·have e1:((b.m.length:Int)=0)=True:=tt;rw[if_pos b0];simp only[s7,rV,af,ai,aB,go_sem,hf,e1]
  have e1:((b.m.length:Int)=0)=False:=ff;rw[if_neg b0];by_cases a0:a.m.length=0
  ·have e2:((a.m.length:Int)=0)=True:=tt;rw[if_pos a0];simp only[s7,rV,af,ai,aB,go_sem,hf,e1,e2]
  have e2:((a.m.length:Int)=0)=False:=ff;rw[if_neg a0];have hA:=dQ va a0;have hB:=dQ vb b0;obtain⟨n,rfl⟩:=aDG (show 0<=p by omega);have d1:=Pf oa;have d2:=Pf ob;rw[if_pos va]at d1;rw[if_pos vb]at d2;have hk:zG a b (n:Nat)=((n:Int)+3+ag (ab b.m)-ag (ab a.m)).toNat:=rfl;generalize zG a b (n:Nat)=k at*
  have hm2:=dJ k hA;have hl2:(aA (ab a.m*2^k)).length<=256:=aX ω;have hs:=C7 oa.lb a1 (k:=k) ω hl2;have hge:ab b.m<=ab (aA (ab a.m*2^k)):=by
   rw[aT];refine Nat.le_of_not_lt fun hc=>?_;have:=Bb (Nat.le_of_lt hc) (aCJ _);omega
  have hd:=ahT (bh (ab a.m*2^k)) ob.lb hl2 b1 hB hge;rw[aT]at hd;have hqb:ag (ab a.m*2^k/ab b.m)<=8192:=Bb (Nat.div_le_self _ _) ω;have hrb:ag (ab a.m*2^k%ab b.m)<=8192:=Bb (Nat.mod_le _ _) ω;have hbt:=Ip (bh (ab a.m*2^k%ab b.m)) (aCP (aX (k:=256) ω) δ);rw[aT]at hbt;have hsg:=G7 (M:=aA (ab a.m*2^k/ab b.m)) (e:=a.e-k-b.e) (n:=n) (more:=decide (ab a.m*2^k%ab b.m≠0)) (up:=up) (neg:=a.neg !=b.neg) (bh _) (aX ω) ⟨by omega,by omega⟩ ⟨by omega,by omega⟩;rw[aT]at hsg;have hmr:decide (ab a.m*2^k%ab b.m≠0)=decide ((0:Int)< (ag (ab a.m*2^k%ab b.m):Nat)):=by
   grind[tN,decide_eq_true,gM]
  rw[hmr]at hsg⊢;have w1:aG ((n:Int)+3)=(n:Int)+3:=i64_in _ ⟨by omega,by omega⟩;have w2:aG ((n:Int)+3+(ag (ab b.m):Nat))=(n:Int)+3+(ag (ab b.m):Nat):=i64_in _ ⟨by omega,by omega⟩;have w3:aG ((n:Int)+3+(ag (ab b.m):Nat)- (ag (ab a.m):Nat))=(n:Int)+3+(ag (ab b.m):Nat)- (ag (ab a.m):Nat):=i64_in _ ⟨by omega,by omega⟩;have w4:aG (a.e- (k:Int))=a.e-k:=i64_in _ ⟨by omega,by omega⟩;have w5:aG (a.e- (k:Int)-b.e)=a.e-k-b.e:=i64_in _ ⟨by omega,by omega⟩;have em:(if(0:Int)< (n:Int)+3+(ag (ab b.m):Nat)- (ag (ab a.m):Nat)then(n:Int)+3+(ag (ab b.m):Nat)- (ag (ab a.m):Nat)else 0)=(k:Int):=ω
  simp only[rV,af,ai,zW]at hsg d1 d2;simp only[s7,rV,af,ai,go_sem,hf,e1,e2,d1,d2,w1,w2,w3,w4,w5,em,hs,hd,hbt,xz,hsg]
 ·have e1:(aY p [a,b]=0)=False:=ff h0;rw[if_neg h0];simp only[s7,rV,af,ai,aB,go_sem,hf,e1]
theorem ak2{a b:Rd}(oa:Ok0 a)(ob:Ok0 b):R fdN [af a,af b,I p] []=some (rV (uM a b p true),[]):=by
 refine au vF rfl ?_;have hr:=act oa ob (p:=p) (up:=true);simp only[rV,af,ai]at hr;simp only[CT,rV,af,ai,go_sem,hr]
theorem afe{a b:Rd}(oa:Ok0 a)(ob:Ok0 b):R fdM [af a,af b,I p] []=some (rV (uM a b p false),[]):=by
 refine au rG rfl ?_;have hr:=act oa ob (p:=p) (up:=false);simp only[rV,af,ai]at hr;simp only[Av,rV,af,ai,go_sem,hr]
theorem Fk{a b:Rd}{up:Bool}:vd (uM a b p up).1=true/\Ok0 (uM a b p up).1:=by
 unfold uM;split
 ·split
  ·exact aO
  ·split
   ·exact aO
   ·exact ag3
 ·exact aO
def mT(x y:Ri)(p:Int):Ri:=if(kI x&&kI y&&bC p)=true then(if Kv y=0 then cS else Is (sD (fun a b=>uM a b p false) (fun a b=>uM a b p true) (j7 x y)))else cS
theorem M0(ox:OkI x)(oy:OkI y):R fbi [aj x,aj y,I p] []=some (aj (mT x y p),[]):=by
 refine au Su rfl ?_;have hk:=G9 ox oy;have hp:=mP (p:=p);have hw:=gN;have hs:=Pn oy;have hf:=abW ox oy (p:=p) (dn:=fun a b=>uM a b p false) (up:=fun a b=>uM a b p true) ⟨fun h1 h2=>afe h1 h2,Fk.2,rG.1.1,rG.1.2.1,rG.1.2.2.2,rG.1.2.2.1⟩ ⟨fun h1 h2=>ak2 h1 h2,Fk.2,vF.1.1,vF.1.2.1,vF.1.2.2.2,vF.1.2.2.1⟩;unfold mT;generalize Is (sD (fun a b=>uM a b p false) (fun a b=>uM a b p true) (j7 x y))=z at hf⊢;generalize Kv y=sg at*
 simp only[aj,ao,cS,aB]at hw hf hs;cases h1:(kI x&&kI y)with
 |false=>
  rw[h1]at hk;rw[aCO,if_neg aCR];simp only[m8,aj,ao,cS,aB,go_sem,hk,hw]
 |true=>
  rw[h1]at hk;have hs:=hs ((aCK _ _).mp h1).2;cases h2:bC p with
  |false=>
   rw[h2]at hp;rw[aCM,if_neg aCR];simp only[m8,aj,ao,cS,aB,go_sem,hk,hp,hw]
  |true=>
   rw[h2]at hp;rw[aCM,if_pos rfl];by_cases h3:sg=0
   ·have e3:(sg=0)=True:=eq_true h3;rw[if_pos h3];simp only[m8,aj,ao,cS,aB,go_sem,hk,hp,hw,hs,e3]
   ·have e3:(sg=0)=False:=eq_false h3;rw[if_neg h3];simp only[m8,aj,ao,cS,aB,go_sem,hk,hp,hf,hs,e3]
theorem UQ(ox:OkI x):R fbu [aj x,I p] []=some (aj (qp x p),[]):=by
 refine au OZ rfl ?_;have hk:=oZ ox;have hp:=mP (p:=p);have hw:=gN;have hd:=LG ox.lo (p:=p);have hu:=SY ox.hi (p:=p);unfold qp;generalize cw x.lo p false=r at hd⊢;generalize cw x.hi p true=q at hu⊢;obtain⟨r1,r2⟩:=r;obtain⟨q1,q2⟩:=q;have hm:=Fe (a:=r1) (b:=q1) (e:=r2) (f:=q2);simp only[aj,ao,rV,af,ai]at hw hd hu hm;cases h1:kI x with
 |false=>
  rw[h1]at hk;rw[aDH,if_neg aCR];simp only[nR,aj,ao,go_sem,hk,hw]
 |true=>
  rw[h1]at hk;cases h2:bC p with
  |false=>
   rw[h2]at hp;simp only[nR,aj,ao,go_sem,hk,hp,hw]
  |true=>
   rw[h2]at hp;simp only[nR,aj,ao,go_sem,hk,hp,hw,hd,hu,hm]
def HS(x:Ri):Ri:=if kI x=true then⟨ed x.hi,ed x.lo,false⟩else cS
theorem anR(ox:OkI x):OkI (HS x):=by
 unfold HS;split
 ·exact⟨yE ox.hi,yE ox.lo⟩
 ·exact⟨aO.2,aO.2⟩
theorem anS(ox:OkI x):R fbr [aj x] []=some (aj (HS x),[]):=by
 refine au Sv rfl ?_;have hk:=oZ ox;have hw:=gN;have h1:R faS [af x.lo] []=some (af (ed x.lo),[]):=Ch ox.lo;have h2:R faS [af x.hi] []=some (af (ed x.hi),[]):=Ch ox.hi;unfold HS;simp only[aj,ao,af,ai]at hw h1 h2;cases h0:kI x with
 |false=>
  rw[h0]at hk;simp only[wx,aj,ao,go_sem,hk,hw]
 |true=>
  rw[h0]at hk;simp only[wx,aj,ao,go_sem,hk,h1,h2]
def Co(x y:Ri)(p:Int):Ri:=dq x (HS y) p
theorem M1(ox:OkI x)(oy:OkI y):R fby [aj x,aj y,I p] []=some (aj (Co x y p),[]):=by
 refine au Sz rfl ?_;have h1:=anS oy;have h2:=tC ox (anR oy) (p:=p);unfold Co;simp only[aj,ao]at h1 h2;simp only[BZ,aj,ao,go_sem,h1,h2]
def M2(x y:Ri):Ri:=if(kI x&&kI y)=true then⟨mB x.lo y.lo,mC x.hi y.hi,false⟩else cS
theorem ak3(ox:OkI x)(oy:OkI y):R fbk [aj x,aj y] []=some (aj (M2 x y),[]):=by
 refine au QS rfl ?_;have hk:=G9 ox oy;have hw:=gN;have h1:=SZ ox.lo oy.lo;have h2:=S0 ox.hi oy.hi;unfold M2;simp only[aj,ao,af,ai]at hw h1 h2;cases h0:(kI x&&kI y)with
 |false=>
  rw[h0]at hk;simp only[uC,aj,ao,go_sem,hk,hw]
 |true=>
  rw[h0]at hk;simp only[uC,aj,ao,go_sem,hk,h1,h2]
def Q9:Ri:=⟨aB,aB,false⟩
def wI(x y:Ri):Ri×Bool:=if(vi x&&vi y)=true then(if x.all=true then(y,true)else if y.all=true then(x,true)else if fT (mC x.lo y.lo) (mB x.hi y.hi)<=0 then(⟨mC x.lo y.lo,mB x.hi y.hi,false⟩,true)else(Q9,false))else(Q9,false)
theorem ak4(ox:OkI x)(oy:OkI y):R fbn [aj x,aj y] []=some (.tup [aj (wI x y).1,B (wI x y).2],[]):=by
 refine au QP rfl ?_;have hx:=oW ox;have hy:=oW oy;have h1:=S0 ox.lo oy.lo;have h2:=SZ ox.hi oy.hi;have hc:=pG (Po ox.lo oy.lo) (YA ox.hi oy.hi);rw[show(if vd (mC x.lo y.lo)=true/\vd (mB x.hi y.hi)=true then cM (zI (mC x.lo y.lo)) (zI (mB x.hi y.hi))else 0)=fT (mC x.lo y.lo) (mB x.hi y.hi)from rfl]at hc;unfold wI;generalize fT (mC x.lo y.lo) (mB x.hi y.hi)=cc at hc⊢;simp only[aj,ao,af,ai]at hx hy h1 h2 hc;cases v1:vi x with
 |false=>
  rw[v1]at hx;simp only[iG,aj,ao,Q9,aB,go_sem,hx]
  try rfl
 |true=>
  rw[v1]at hx;cases v2:vi y with
  |false=>
   rw[v2]at hy;simp only[iG,aj,ao,Q9,aB,go_sem,hx,hy]
   try rfl
  |true=>
   rw[v2]at hy;cases a1:x.all with
   |true=>
    rw[a1]at hx;simp only[iG,aj,ao,go_sem,hx,hy,a1]
   |false=>
    rw[a1]at hx;cases a2:y.all with
    |true=>
     rw[a2]at hy;simp only[iG,aj,ao,go_sem,hx,hy,a1,a2]
    |false=>
     rw[a2]at hy;by_cases h3:cc<=0
     ·have e1:(0<cc)=False:=ff;rw[if_pos h3];simp only[iG,aj,ao,go_sem,hx,hy,a1,a2,h1,h2,hc,e1]
     ·have e1:(0<cc)=True:=tt;rw[if_neg h3];simp only[iG,aj,ao,Q9,aB,go_sem,hx,hy,a1,a2,h1,h2,hc,e1]
      try rfl
abbrev G:=Nat->Rat
def pl(x:Rat)(v:G):Nat->Nat->Rat
 |_,0=>0
 |i,c+1=>v i+x*pl x v (i+1) c
def nw(t:Rat)(v:G):Nat->Nat->Rat
 |0,i=>v i
 |n+1,i=>nw t v n i+t*nw t v n (i+1)
def dc(t:Rat)(v:G):Nat->Nat->Rat
 |0,i=>v i
 |n+1,i=>(1-t)*dc t v n i+t*dc t v n (i+1)
def gs(g:G)(a:Nat)(x:Rat):G:=fun i=>if i=a then x else g i
def Oc(lo:Rat)(ad:Nat->Nat)(i:Nat):Nat->G->G
 |0,g=>g
 |k+1,g=>Oc lo ad i k (gs g (ad (i+k)) (g (ad (i+k))+lo*g (ad (i+k+1))))
def Od(lo:Rat)(ad:Nat->Nat):Nat->Nat->G->G
 |0,_,g=>g
 |k+1,i,g=>Od lo ad k (i+1) (Oc lo ad i (k+1) g)
def UR(w:Rat)(ad:Nat->Nat):Nat->Nat->Rat->G->G
 |0,_,_,g=>g
 |k+1,j,b,g=>UR w ad k (j+1) (b*w) (gs g (ad j) (g (ad j)*(b*w)))
def Oe(n:Nat)(ad:Nat->Nat):Nat->Nat->Rat->G->G
 |0,_,_,g=>g
 |k+1,j,b,g=>Oe n ad k (j+1) (b*((n:Rat)-j+1)/j) (gs g (ad j) (g (ad j)/ (b*((n:Rat)-j+1)/j)))
def Ra(ad:Nat->Nat)(j:Nat):Nat->G->G
 |0,g=>g
 |k+1,g=>Ra ad j k (gs g (ad (j+k+1)) (g (ad (j+k+1))+g (ad (j+k))))
def US(ad:Nat->Nat):Nat->Nat->G->G
 |0,_,g=>g
 |k+1,j,g=>US ad k (j+1) (Ra ad j (k+1) g)
def jB:Nat->Nat->Nat
 |_,0=>1
 |0,_+1=>0
 |n+1,k+1=>jB n k+jB n (k+1)
theorem aqJ{lo:Rat}{ad:Nat->Nat}(hi:∀a b,ad a=ad b↔a=b){i:Nat}:∀ (k:Nat) (g:G),(∀a,(∀m,i<=m->m<i+k->a≠ad m)->Oc lo ad i k g a=g a)/\(∀m,i<=m->m<i+k->Oc lo ad i k g (ad m)=g (ad m)+lo*Oc lo ad i k g (ad (m+1))):=by
 intro k;induction k with
 |zero=>exact fun g=>⟨fun _ _=>rfl,fun m h1 h2=>by omega⟩
 |succ k ih=>
  intro g;have e:Oc lo ad i (k+1) g=Oc lo ad i k (gs g (ad (i+k)) (g (ad (i+k))+lo*g (ad (i+k+1)))):=rfl;rw[e];obtain⟨h1,h2⟩:=ih (gs g (ad (i+k)) (g (ad (i+k))+lo*g (ad (i+k+1))));constructor
  ·intro a ha;rw[h1 a fun m hm hk=>ha m hm ω,gs,if_neg (ha _ ω ω)]
  ·intro m hm hk;by_cases hq:m=i+k
   ·grind[gs]
   ·rw[h2 m hm ω,gs,if_neg γ]
theorem aqK{x:Rat}(hx:x=lo+u){v w:G}:∀ (k i:Nat),(∀m,i<=m->m<i+k->w m=v m+lo*w (m+1))->w (i+k)=v (i+k)->pl x v i (k+1)=w i+u*pl x w (i+1) k:=by
 intro k;induction k with
 |zero=>grind[pl]
 |succ k ih=>
  intro i h1 h2;have h3:=ih (i+1) (fun m a b=>h1 m ω ω) γ;grind[pl]
theorem aqL{x:Rat}(hx:x=lo+u){ad:Nat->Nat}(hi:∀a b,ad a=ad b↔a=b):∀ (k i:Nat) (g:G),(∀a,(∀m,i<=m->m<i+k->a≠ad m)->Od lo ad k i g a=g a)/\pl x (fun m=>g (ad m)) i (k+1)=pl u (fun m=>Od lo ad k i g (ad m)) i (k+1):=by
 intro k;induction k with
 |zero=>simp_all[pl,Od]
 |succ k ih=>
  intro i g;obtain⟨h1,h2⟩:=aqJ (lo:=lo) hi (i:=i) (k+1) g;have e:Od lo ad (k+1) i g=Od lo ad k (i+1) (Oc lo ad i (k+1) g):=rfl;rw[e];generalize Oc lo ad i (k+1) g=g1 at*
  obtain⟨h3,h4⟩:=ih (i+1) g1;constructor
  ·grind
  ·rw[aqK hx (v:=fun m=>g (ad m)) (w:=fun m=>g1 (ad m)) (k+1) i h2 (h1 _ fun m _ hk=>by grind),h4];show _=Od lo ad k (i+1) g1 (ad i)+u*_;grind
theorem aqM{w:Rat}{ad:Nat->Nat}(hi:∀a b,ad a=ad b↔a=b):∀ (k j:Nat) (b:Rat) (g:G),(∀a,(∀m,j<=m->m<j+k->a≠ad m)->UR w ad k j b g a=g a)/\(∀m,m<k->UR w ad k j b g (ad (j+m))=g (ad (j+m))*(b*w^ (m+1))):=by
 intro k;induction k with
 |zero=>exact fun j b g=>⟨fun _ _=>rfl,fun m h=>by omega⟩
 |succ k ih=>
  intro j b g;have e:UR w ad (k+1) j b g=UR w ad k (j+1) (b*w) (gs g (ad j) (g (ad j)*(b*w))):=rfl;rw[e];obtain⟨h1,h2⟩:=ih (j+1) (b*w) (gs g (ad j) (g (ad j)*(b*w)));constructor
  ·intro a ha;rw[h1 a fun m hm hk=>ha m ω ω,gs,if_neg (ha _ ω ω)]
  ·intro m hm;cases m with
   |zero=>
    rw[h1 _ fun m hm hk=>by grind];simp[gs]
   |succ m=>
    have:=h2 m ω;rw[show j+1+m=j+(m+1)by omega]at this;rw[this,gs,if_neg γ,aEh w (m+1),aEh w m];grind
theorem aqN{w t:Rat}{v z:G}:∀ (c i:Nat),(∀m,i<=m->m<i+c->z m=v m*w^m)->pl t z i c=w^i*pl (w*t) v i c:=by
 intro c;induction c with
 |zero=>grind[pl]
 |succ c ih=>
  grind[pl,aEh]
theorem Gl(n:Nat):jB n 0=1:=by cases n<;>rfl
theorem IF:∀ (n k:Nat),n<k->jB n k=0
 |_,0,h=>by omega
 |0,_+1,_=>rfl
 |n+1,k+1,h=>by
  show jB n k+jB n (k+1)=0;rw[IF n k ω,IF n (k+1) ω]
theorem M3:∀n k:Nat,k<=n->(jB n (k+1):Int)*(k+1)=jB n k*((n:Int)-k)
 |0,k,h=>by
  have:k=0:=ω
  subst this;rfl
 |n+1,0,_=>by
  have:=M3 n 0 ω;show((jB n 0+jB n 1:Nat):Int)*_=(jB (n+1) 0:Int)*_;simp only[Gl]at this⊢;simp at this⊢;omega
 |n+1,k+1,h=>by
  have h1:=M3 n k ω;show((jB n (k+1)+jB n (k+1+1):Nat):Int)*_=((jB n k+jB n (k+1):Nat):Int)*_;by_cases hk:k+1<=n
  ·have h2:=M3 n (k+1) hk;grind
  ·have:n=k:=ω
   subst this;rw[IF n (n+1) ω,IF n (n+1+1) ω];simp
theorem acu:∀n k:Nat,k<=n->0<jB n k
 |n,0,_=>by grind[Gl]
 |n+1,k+1,h=>Nat.add_pos_left (acu n k ω) _
theorem aqO{n:Nat}{ad:Nat->Nat}(hi:∀a b,ad a=ad b↔a=b):∀ (k j:Nat) (b:Rat) (g:G),j+1+k=n+1->b=jB n j->(∀a,(∀m,j+1<=m->m<j+1+k->a≠ad m)->Oe n ad k (j+1) b g a=g a)/\(∀m,m<k->Oe n ad k (j+1) b g (ad (j+1+m))*jB n (j+1+m)=g (ad (j+1+m))):=by
 intro k;induction k with
 |zero=>exact fun j b g _ _=>⟨fun _ _=>rfl,fun m h=>by omega⟩
 |succ k ih=>
  intro j b g hk hb;have e:Oe n ad (k+1) (j+1) b g=Oe n ad k (j+1+1) (b*((n:Rat)- (j+1:Nat)+1)/ (j+1:Nat)) (gs g (ad (j+1)) (g (ad (j+1))/ (b*((n:Rat)- (j+1:Nat)+1)/ (j+1:Nat)))):=rfl;have hb2:b*((n:Rat)- (j+1:Nat)+1)/ (j+1:Nat)=jB n (j+1):=by
   have h1:=M3 n j ω;have h2:((jB n (j+1):Rat))*(j+1)=jB n j*((n:Rat)-j):=by
    have:=congrArg (fun z:Int=>(z:Rat)) h1;simp only[Rat.intCast_mul,Rat.intCast_sub,Rat.intCast_add,Rat.intCast_natCast]at this;omega
   grind
  rw[e,hb2];have hp:(jB n (j+1):Rat)≠0:=by
   have:=acu n (j+1) ω;intro h0
   simp_all
  obtain⟨h1,h2⟩:=ih (j+1) (jB n (j+1)) (gs g (ad (j+1)) (g (ad (j+1))/jB n (j+1))) ω rfl;constructor
  ·intro a ha;rw[h1 a fun m hm hk=>ha m ω ω,gs,if_neg (ha _ ω ω)]
  ·intro m hm;cases m with
   |zero=>
    rw[h1 _ fun m hm hk=>by grind];simp only[gs,aDm,if_true];grind
   |succ m=>
    have:=h2 m ω;rw[show j+1+1+m=j+1+(m+1)by omega]at this
    simp_all[gs,if_neg]
theorem aqP{t:Rat}{u v w:G}:∀ (c i:Nat),(∀m,i<=m->m<i+c->w m=u m+v m)->pl t w i c=pl t u i c+pl t v i c:=by
 intro c;induction c with
 |zero=>grind[pl]
 |succ c ih=>
  grind[pl]
theorem PC{t:Rat}{v w:G}{d:Nat}:∀ (c i:Nat),(∀m,i<=m->m<i+c->w m=v (m+d))->pl t w i c=pl t v (i+d) c:=by
 intro c;induction c with
 |zero=>intro i _;rfl
 |succ c ih=>
  grind[pl]
theorem anT{t:Rat}{v:G}:∀ (c i:Nat),v (i+c)=0->pl t v i (c+1)=pl t v i c:=by
 intro c;induction c with
 |zero=>grind[pl]
 |succ c ih=>
  grind[pl]
theorem atI{t:Rat}{v:G}:∀ (n i:Nat),nw t v n i=pl t (fun m=>jB n m*v (i+m)) 0 (n+1):=by
 intro n;induction n with
 |zero=>simp only[nw,pl,jB,aDm];grind
 |succ n ih=>
  intro i;have e1:=anT (t:=t) (v:=fun m=>(jB n m:Rat)*v (i+m)) (n+1) 0 (by simp_all[IF]);have e2:pl t (fun m=>(jB n m:Rat)*v (i+m)) 0 (n+1+1)=(jB n 0:Rat)*v (i+0)+t*pl t (fun m=>(jB n m:Rat)*v (i+m)) (0+1) (n+1):=rfl;have e3:pl t (fun m=>(jB (n+1) m:Rat)*v (i+m)) 0 (n+1+1)=(jB (n+1) 0:Rat)*v (i+0)+t*pl t (fun m=>(jB (n+1) m:Rat)*v (i+m)) (0+1) (n+1):=rfl;have e4:=PC (t:=t) (d:=1) (w:=fun m=>(jB n (m+1):Rat)*v (i+(m+1))) (v:=fun m=>(jB n m:Rat)*v (i+m)) (n+1) 0 (fun m _ _=>rfl);have e5:=PC (t:=t) (d:=1) (w:=fun m=>(jB (n+1) (m+1):Rat)*v (i+(m+1))) (v:=fun m=>(jB (n+1) m:Rat)*v (i+m)) (n+1) 0 (fun m _ _=>rfl);have e6:=aqP (t:=t) (w:=fun m=>(jB (n+1) (m+1):Rat)*v (i+(m+1))) (u:=fun m=>(jB n m:Rat)*v (i+1+m)) (v:=fun m=>(jB n (m+1):Rat)*v (i+(m+1))) (n+1) 0 (fun m _ _=>by
   have:jB (n+1) (m+1)=jB n m+jB n (m+1):=rfl;simp only[this,show i+1+m=i+(m+1)by omega,Rat.natCast_add];grind)
  grind[nw,Gl]
theorem aqQ{ad:Nat->Nat}(hi:∀a b,ad a=ad b↔a=b){j:Nat}:∀ (k:Nat) (g:G),(∀a,(∀m,j<=m->m<j+k->a≠ad (m+1))->Ra ad j k g a=g a)/\(∀m,j<=m->m<j+k->Ra ad j k g (ad (m+1))=g (ad (m+1))+g (ad m)):=by
 intro k;induction k with
 |zero=>exact fun g=>⟨fun _ _=>rfl,fun m h1 h2=>by omega⟩
 |succ k ih=>
  intro g;have e:Ra ad j (k+1) g=Ra ad j k (gs g (ad (j+k+1)) (g (ad (j+k+1))+g (ad (j+k)))):=rfl;rw[e];obtain⟨h1,h2⟩:=ih (gs g (ad (j+k+1)) (g (ad (j+k+1))+g (ad (j+k))));constructor
  ·intro a ha;rw[h1 a fun m hm hk=>ha m hm ω,gs,if_neg (ha _ ω ω)]
  ·intro m hm hk;by_cases hq:m=j+k
   ·subst hq;rw[h1 _ fun m hm hk=>by grind];simp[gs]
   ·rw[h2 m hm ω,gs,gs,if_neg γ,if_neg γ]
theorem aqR{t:Rat}{v w:G}{j k:Nat}(h:∀m,j<=m->m<=j+k->w (m+1)=v (m+1)+v m):∀ (d m:Nat),j<=m->m+d<=j+k->nw t w d (m+1)=nw t v d (m+1)+nw t v d m:=by
 intro d;induction d with
 |zero=>exact fun m h1 h2=>h m h1 h2
 |succ d ih=>
  grind[nw]
theorem aqS{t:Rat}{ad:Nat->Nat}(hi:∀a b,ad a=ad b↔a=b):∀ (k j:Nat) (g:G),(∀a,(∀m,j<=m->m<j+k->a≠ad (m+1))->US ad k j g a=g a)/\∀d,d<=k->dc t (fun m=>US ad k j g (ad m)) d j=nw t (fun m=>g (ad m)) d j:=by
 intro k;induction k with
 |zero=>
  intro j g;refine⟨fun _ _=>rfl,fun d hd=>?_⟩;have:d=0:=ω
  subst this;rfl
 |succ k ih=>
  intro j g;obtain⟨h1,h2⟩:=aqQ hi (j:=j) (k+1) g;have e:US ad (k+1) j g=US ad k (j+1) (Ra ad j (k+1) g):=rfl;rw[e];generalize Ra ad j (k+1) g=g1 at*
  obtain⟨h3,h4⟩:=ih (j+1) g1;refine⟨fun a ha=>by rw[h3 a fun m hm hk=>ha m ω ω,h1 a fun m hm hk=>ha m hm hk],fun d=>?_⟩;induction d with
  |zero=>
   intro _;show US ad k (j+1) g1 (ad j)=g (ad j);grind
  |succ d ihd=>
   intro hd;have q3:=aqR (t:=t) (v:=fun m=>g (ad m)) (w:=fun m=>g1 (ad m)) (j:=j) (k:=k) (fun m a b=>h2 m a ω) d j (aCJ _) ω;grind[dc,nw]
def Rb(lo w:Rat)(n:Nat)(ad:Nat->Nat)(g:G):G:=UR w ad n 1 1 (Od lo ad n 0 g)
def Rc(n:Nat)(ad:Nat->Nat)(g:G):G:=US ad n 0 (Oe n ad n 1 1 g)
theorem aqT{x w:Rat}(hx:x=lo+w*t){ad:Nat->Nat}(hi:∀a b,ad a=ad b↔a=b)(n:Nat)(g:G):(∀a,(∀m,m<=n->a≠ad m)->Rb lo w n ad g a=g a)/\pl x (fun m=>g (ad m)) 0 (n+1)=pl t (fun m=>Rb lo w n ad g (ad m)) 0 (n+1):=by
 obtain⟨a1,a2⟩:=aqL hx hi n 0 g;unfold Rb;generalize Od lo ad n 0 g=g1 at*
 obtain⟨b1,b2⟩:=aqM (w:=w) hi n 1 1 g1;generalize UR w ad n 1 1 g1=g2 at*
 rw[a2,aqN (w:=w) (t:=t) (v:=fun m=>g1 (ad m)) (z:=fun m=>g2 (ad m)) (n+1) 0 (fun m _ hm=>by
  cases m with
  |zero=>
   grind
  |succ m=>
   grind),Rat.pow_zero]
 grind
theorem aqU{t:Rat}{ad:Nat->Nat}(hi:∀a b,ad a=ad b↔a=b)(n:Nat)(g:G):(∀a,(∀m,m<=n->a≠ad m)->Rc n ad g a=g a)/\pl t (fun m=>g (ad m)) 0 (n+1)=dc t (fun m=>Rc n ad g (ad m)) n 0:=by
 obtain⟨c1,c2⟩:=aqO (n:=n) hi n 0 1 g ω (by rw[Gl];rfl);unfold Rc;generalize Oe n ad n 1 1 g=g3 at*
 obtain⟨d1,d2⟩:=aqS (t:=t) hi n 0 g3;rw[d2 n (aCJ _),atI];have e:=PC (t:=t) (d:=0) (v:=fun m=>g (ad m)) (w:=fun m=>(jB n m:Rat)*g3 (ad (0+m))) (n+1) 0 (fun m _ hm=>by
  cases m with
  |zero=>
   have q1:=c1 (ad 0) fun m h _=>by grind
   simp_all[aDm,Gl]
  |succ m=>
   grind)
 grind
def pQ(n:Nat):Rat:=((2^n:Int):Rat)
def eQ(n:Nat):Rat:=1/pQ n
theorem ahU(n:Nat):0<pQ n:=by
 have:(0:Int)<2^n:=Int.pow_pos δ;unfold pQ;exact_mod_cast this
theorem D9(n:Nat):eQ n*pQ n=1:=by
 grind[ahU,eQ]
theorem Zd(n:Nat):0<eQ n:=by
 have h:=D9 n;refine Rat.not_le.1 fun hn=>?_;have:=aDB hn (Rat.le_of_lt (ahU n));grind
def EQ:Rat:=eQ 16384
theorem IG:0<EQ:=Zd _
def qv(d:Rd):Rat:=(zI d:Rat)*EQ
theorem IH{a b:Int}(h:a<=b):(a:Rat)<=b:=by exact_mod_cast h
theorem sE{a b:Rd}:qv a<=qv b↔zI a<=zI b:=by
 unfold qv;constructor
 ·intro h;refine Int.not_lt.1 fun hc=>?_;have h1:(zI b:Rat)<zI a:=by exact_mod_cast hc
  have:=Rat.mul_lt_mul_of_pos_right h1 IG;grind
 grind[aDB,IH,Rat.le_of_lt,IG]
theorem Ez:qv aB=0:=by
 unfold qv;rw[cQ rfl];grind
theorem II{d:Rd}(h:vd d=true):qv (ed d)=-qv d/\vd (ed d)=true:=by
 obtain⟨a,b⟩:=we h;unfold qv;rw[a,Rat.intCast_neg];grind
def In(q:Rat)(x:Ri):Prop:=x=cS\/x.all=false/\VI x/\qv x.lo<=q/\q<=qv x.hi
theorem In.vi{q:Rat}(h:In q x):VI x:=by
 rcases h with rfl|h
 ·exact Df
 grind
theorem In.ok{q:Rat}(h:In q x):OkI x:=⟨h.vi.1.2,h.vi.2.2⟩
theorem In.k{q:Rat}(h:In q x):x=cS/\kI x=false\/kI x=true/\qv x.lo<=q/\q<=qv x.hi:=by
 rcases h with rfl| ⟨h1,h2,h3,h4⟩
 ·exact Or.inl ⟨rfl,rfl⟩
 ·exact Or.inr ⟨atx h2.1.1 h2.2.1 (sE.1 (aEi h3 h4)) h1,h3,h4⟩
theorem In.v{q:Rat}(h:In q x):Ab.vi x=true:=by
 rcases h.k with⟨rfl,_⟩| ⟨h,_⟩
 ·rfl
 ·unfold kI at h;grind
theorem Wm{q:Rat}{r s:Rd×Int}(vr:vd r.1=true/\Ok0 r.1)(vs:vd s.1=true/\Ok0 s.1)(h1:r.2=0->qv r.1<=q)(h2:s.2=0->q<=qv s.1):In q (nv r s):=by
 unfold nv;split
 ·next h=>exact Or.inr ⟨rfl,⟨vr,vs⟩,h1 h.1,h2 h.2⟩
 ·exact Or.inl rfl
theorem ip{d:Rd}(h:vd d=true)(ok:Ok0 d):In (qv d) ⟨d,d,false⟩:=Or.inr ⟨rfl,⟨⟨h,ok⟩,⟨h,ok⟩⟩,Rat.le_refl,Rat.le_refl⟩
theorem vM(hp:bC p=true):8<=p/\p<=512:=by
 simp_all[bC,aCK,decide_eq_true_eq]
theorem Re{a b:Rd}(ha:vd a=true)(hb:vd b=true)(hp:bC p=true):aY p [a,b]=0:=by
 grind[vM,aY]
theorem Ze{a b:Rd}{up:Bool}(ha:vd a=true)(hb:vd b=true)(hp:bC p=true)(h:(dk a b p up).2=0):(up=true->qv a+qv b<=qv (dk a b p up).1)/\(up=false->qv (dk a b p up).1<=qv a+qv b):=by
 unfold dk at h⊢;rw[if_pos (Re ha hb hp)]at h⊢;have hh:(up=true->zI a+zI b<=zI (iL (zI a+zI b) (-16384) p up).1*2^0)/\(up=false->zI (iL (zI a+zI b) (-16384) p up).1*2^0<=zI a+zI b):=MZ (j:=0) (vM hp) h;obtain⟨h1,h2⟩:=hh;simp only[Int.pow_zero,Int.mul_one]at h1 h2;have e:qv a+qv b=((zI a+zI b:Int):Rat)*EQ:=by unfold qv;grind
 rw[e];exact⟨fun hu=>aDB (IH (h1 hu)) (Rat.le_of_lt IG),fun hu=>aDB (IH (h2 hu)) (Rat.le_of_lt IG)⟩
theorem Rf{r:Int}(n:Nat):(z<=r*2^n->(z:Rat)*eQ n*eQ n<=r*eQ n)/\(r*2^n<=z->(r:Rat)*eQ n<=z*eQ n*eQ n):=by
 have e:(r:Rat)*eQ n=((r*2^n:Int):Rat)*eQ n*eQ n:=by
  rw[Rat.intCast_mul,show(((2:Int)^n:Int):Rat)=pQ n from rfl];grind[D9]
 rw[e];have h0:=Rat.le_of_lt (Zd n);exact⟨fun h=>aDB (aDB (IH h) h0) h0,fun h=>aDB (aDB (IH h) h0) h0⟩
theorem Rg{a b:Rd}{up:Bool}(ha:vd a=true)(hb:vd b=true)(hp:bC p=true)(h:(gp a b p up).2=0):(up=true->qv a*qv b<=qv (gp a b p up).1)/\(up=false->qv (gp a b p up).1<=qv a*qv b):=by
 unfold gp at h⊢;rw[if_pos (Re ha hb hp)]at h⊢;obtain⟨h1,h2⟩:=MZ (j:=16384) (vM hp) h;have e:qv a*qv b=((zI a*zI b:Int):Rat)*EQ*EQ:=by unfold qv;grind
 rw[e];exact⟨fun hu=>(Rf _).1 (h1 hu),fun hu=>(Rf _).2 (h2 hu)⟩
theorem io{a b:Rat}(hx:In a x)(hy:In b y):In (a+b) (dq x y p):=by
 unfold dq;split
 ·next h=>
  simp only[aCK]at h;obtain⟨⟨kx,ky⟩,hp⟩:=h;rcases hx.k with⟨rfl,h⟩| ⟨_,x1,x2⟩
  ·grind
  rcases hy.k with⟨rfl,h⟩| ⟨_,y1,y2⟩
  ·grind
  have ok:∀ {a b:Rd} {up:Bool},vd (dk a b p up).1=true/\Ok0 (dk a b p up).1:=fun{a b up}=>by
   grind[dk,vH,aO]
  refine Wm ok ok (fun h=>?_) (fun h=>?_)
  ·have:=(Ze hx.vi.1.1 hy.vi.1.1 hp h).2 rfl;grind
  ·have:=(Ze hx.vi.2.1 hy.vi.2.1 hp h).1 rfl;grind
 ·exact Or.inl rfl
theorem acv{a:Rat}(hx:In a x):In (-a) (HS x):=by
 unfold HS;split
 ·next h=>
  rcases hx.k with⟨rfl,h1⟩| ⟨_,x1,x2⟩
  ·grind
  have n1:=II hx.vi.1.1;have n2:=II hx.vi.2.1;exact Or.inr ⟨rfl,⟨⟨n2.2,yE hx.ok.hi⟩,⟨n1.2,yE hx.ok.lo⟩⟩,by grind,by grind⟩
 ·exact Or.inl rfl
theorem Bo{a b:Rat}(hx:In a x)(hy:In b y):In (a-b) (Co x y p):=by
 have:=io (p:=p) hx (acv hy);rw[show a+-b=a-b by grind]at this;exact this
theorem LX{a b:Rd}(ha:vd a=true)(hb:vd b=true):(fT a b<0->qv a<=qv b)/\(¬fT a b<0->qv b<=qv a)/\(0<fT a b->qv b<=qv a)/\(¬0<fT a b->qv a<=qv b)/\(fT a b<=0↔qv a<=qv b)/\(0<=fT a b↔qv b<=qv a):=by
 unfold fT;grind[sE,cM]
theorem Tx{a b:Rd}(ha:vd a=true/\Ok0 a)(hb:vd b=true/\Ok0 b):qv (mB a b)<=qv a/\qv (mB a b)<=qv b/\vd (mB a b)=true/\Ok0 (mB a b)/\(∀q,q<=qv a->q<=qv b->q<=qv (mB a b)):=by
 obtain⟨c1,c2,c3,c4,c5,c6⟩:=LX ha.1 hb.1;grind[mB,Rat.le_refl]
theorem Ty{a b:Rd}(ha:vd a=true/\Ok0 a)(hb:vd b=true/\Ok0 b):qv a<=qv (mC a b)/\qv b<=qv (mC a b)/\vd (mC a b)=true/\Ok0 (mC a b)/\(∀q,qv a<=q->qv b<=q->qv (mC a b)<=q):=by
 obtain⟨c1,c2,c3,c4,c5,c6⟩:=LX ha.1 hb.1;grind[mC,Rat.le_refl]
theorem JS{a b:Rat}(hx:In a x)(hy:In b y):(In a (M2 x y)/\In b (M2 x y)):=by
 unfold M2;split
 ·next h=>
  rcases hx.k with⟨rfl,h1⟩| ⟨_,x1,x2⟩
  ·grind
  rcases hy.k with⟨rfl,h1⟩| ⟨_,y1,y2⟩
  ·grind
  obtain⟨l1,l2,l3,l4,l5⟩:=Tx hx.vi.1 hy.vi.1;obtain⟨m1,m2,m3,m4,m5⟩:=Ty hx.vi.2 hy.vi.2;exact⟨Or.inr ⟨rfl,⟨⟨l3,l4⟩,⟨m3,m4⟩⟩,by grind,by grind⟩,Or.inr ⟨rfl,⟨⟨l3,l4⟩,⟨m3,m4⟩⟩,by grind,by grind⟩⟩
 ·exact⟨Or.inl rfl,Or.inl rfl⟩
theorem JT{q:Rat}(hx:In q x)(hy:In q y):(wI x y).2=true/\In q (wI x y).1:=by
 unfold wI;rw[if_pos (by rw[hx.v,hy.v];rfl)];rcases hx with rfl| ⟨ha,hv,h1,h2⟩
 ·rw[if_pos (show cS.all=true from rfl)];grind
 ·rw[if_neg γ];rcases hy with rfl| ⟨hb,hw,h3,h4⟩
  ·exact⟨rfl,Or.inr ⟨ha,hv,h1,h2⟩⟩
  ·rw[if_neg γ];obtain⟨l1,l2,l3,l4,l5⟩:=Tx hv.2 hw.2;obtain⟨m1,m2,m3,m4,m5⟩:=Ty hv.1 hw.1;have a:=l5 q h2 h4;have b:=m5 q h1 h3;rw[if_pos ((LX m3 l3).2.2.2.2.1.2 (aEi b a))];exact⟨rfl,Or.inr ⟨rfl,⟨⟨m3,m4⟩,⟨l3,l4⟩⟩,b,a⟩⟩
theorem acw{dn up:Rd->Rd->Rd×Int}{pr:Nat->Rd×Rd}(okd:∀a b,vd (dn a b).1=true/\Ok0 (dn a b).1)(oku:∀a b,vd (up a b).1=true/\Ok0 (up a b).1){v:Nat->Rat}
  (hd:∀i,i<4->(dn (pr i).1 (pr i).2).2=0->qv (dn (pr i).1 (pr i).2).1<=v i) (hu:∀i,i<4->(up (pr i).1 (pr i).2).2=0->v i<=qv (up (pr i).1 (pr i).2).1) {q:Rat} (hq:∀lo hi:Rat,(∀i,i<4->lo<=v i/\v i<=hi)->lo<=q/\q<=hi):In q (Is (sD dn up pr)):=by
 have key:∀ (k i:Nat) (o:Rd×Rd),i+k=4->(vd o.1=true/\Ok0 o.1)->(vd o.2=true/\Ok0 o.2)->(∀j,j<i->qv o.1<=v j/\v j<=qv o.2)->In q (Is (Ci dn up pr k i o)):=by
  intro k;induction k with
  |zero=>
   intro i o hi v1 v2 h;have:=hq _ _ fun j hj=>h j ω;exact Or.inr ⟨rfl,⟨v1,v2⟩,this.1,this.2⟩
  |succ k ih=>
   intro i o hi v1 v2 h;unfold Ci;split
   ·next he=>
    have od:=okd (pr i).1 (pr i).2;have ou:=oku (pr i).1 (pr i).2;obtain⟨c1,c2,_,_⟩:=LX od.1 v1.1;obtain⟨_,_,c3,c4,_⟩:=LX ou.1 v2.1;grind
   ·exact Or.inl rfl
 unfold sD;split
 ·grind
 ·exact Or.inl rfl
theorem anU{xl xh x y:Rat}(h1:xl<=x)(h2:x<=xh)(a:lo<=xl*y/\xl*y<=hi)(b:lo<=xh*y/\xh*y<=hi):lo<=x*y/\x*y<=hi:=by
 by_cases h:0<=y
 ·have:=aDB h1 h;have:=aDB h2 h;grind
 ·have h:0≤-y:=γ
  have:=aDB h1 h;have:=aDB h2 h;grind
theorem acx{xl xh x yl yh y:Rat}(h1:xl<=x)(h2:x<=xh)(h3:yl<=y)(h4:y<=yh)(a:lo<=xl*yl/\xl*yl<=hi)(b:lo<=xl*yh/\xl*yh<=hi)(c:lo<=xh*yl/\xh*yl<=hi)(d:lo<=xh*yh/\xh*yh<=hi):lo<=x*y/\x*y<=hi:=by
 grind[Rat.mul_comm,anU]
theorem jG{a b:Rat}(hx:In a x)(hy:In b y):In (a*b) (dt x y p):=by
 unfold dt;split
 ·next h=>
  simp only[aCK]at h;obtain⟨⟨kx,ky⟩,hp⟩:=h;rcases hx.k with⟨rfl,h⟩| ⟨_,x1,x2⟩
  ·grind
  rcases hy.k with⟨rfl,h⟩| ⟨_,y1,y2⟩
  ·grind
  have ok:∀ (up:Bool) (a b:Rd),vd (gp a b p up).1=true/\Ok0 (gp a b p up).1:=fun up a b=>by
   grind[gp,vH,aO]
  have hv:∀i,vd (j7 x y i).1=true/\vd (j7 x y i).2=true:=fun i=>by
   unfold j7;split
   ·exact⟨hx.vi.1.1,hy.vi.1.1⟩
   ·exact⟨hx.vi.1.1,hy.vi.2.1⟩
   ·exact⟨hx.vi.2.1,hy.vi.1.1⟩
   ·exact⟨hx.vi.2.1,hy.vi.2.1⟩
  refine acw (v:=fun i=>qv (j7 x y i).1*qv (j7 x y i).2) (ok false) (ok true) (fun i _ h=>(Rg (hv i).1 (hv i).2 hp h).2 rfl) (fun i _ h=>(Rg (hv i).1 (hv i).2 hp h).1 rfl) fun lo hi h=>?_;exact acx x1 x2 y1 y2 (h 0 δ) (h 1 δ) (h 2 δ) (h 3 δ)
 ·exact Or.inl rfl
abbrev LF:=G->Rat
def Bp(W v:G):Nat->Rat
 |0=>0
 |d+1=>Bp W v d+W d*v d
def se(d:Nat)(L:LF):Prop:=∃W,∀v,L v=Bp W v d
theorem ahV{W v w:G}:∀d:Nat,(∀j,j<d->v j=w j)->Bp W v d=Bp W w d
 |0,_=>rfl
 |d+1,h=>by simp only[Bp];rw[ahV d fun j hj=>h j ω,h d ω]
theorem acy{W v w:G}{a b:Rat}:∀d:Nat,Bp W (fun j=>a*v j+b*w j) d=a*Bp W v d+b*Bp W w d
 |0=>by grind[Bp]
 |d+1=>by simp only[Bp];rw[acy d];grind
theorem amj{U W v:G}{a b:Rat}:∀d:Nat,Bp (fun j=>a*U j+b*W j) v d=a*Bp U v d+b*Bp W v d
 |0=>by grind[Bp]
 |d+1=>by simp only[Bp];rw[amj d];grind
theorem se.cg{L:LF}(h:se d L){v w:G}(e:∀j,j<d->v j=w j):L v=L w:=by
 obtain⟨W,h⟩:=h;rw[h,h,ahV d e]
theorem se.lin{L:LF}(h:se d L){v w:G}{a b:Rat}:L (fun j=>a*v j+b*w j)=a*L v+b*L w:=by
 obtain⟨W,h⟩:=h;rw[h,h,h,acy d]
theorem se.zero{L:LF}(h:se d L):L (fun _=>0)=0:=by
 have:=h.lin (v:=fun _=>0) (w:=fun _=>0) (a:=0) (b:=0);grind
theorem se.swap{c:Nat}{L P:LF}(h:se d L)(hP:se c P)(f:Nat->Nat->Rat):P (fun j=>L (fun r=>f r j))=L (fun r=>P (fun j=>f r j)):=by
 obtain⟨W,hP⟩:=hP;simp only[hP];clear hP;induction c with
 |zero=>exact h.zero.symm
 |succ c ih=>
  simp only[Bp];have:=h.lin (v:=fun r=>Bp W (fun j=>f r j) c) (w:=fun r=>f r c) (a:=1) (b:=W c);grind
theorem ahW(h:i<d):se d fun v=>v i:=by
 refine⟨fun j=>if j=i then 1 else 0,fun v=>?_⟩;have:∀c,Bp (fun j=>if j=i then 1 else 0) v c=if i<c then v i else 0:=by
  intro c;induction c with
  |zero=>rfl
  |succ c ih=>
   simp only[Bp,ih];grind
 grind
theorem se.comb{L M:LF}(h:se d L)(h':se d M)(a b:Rat):se d fun v=>a*L v+b*M v:=by
 obtain⟨W,h⟩:=h;obtain⟨U,h'⟩:=h';exact⟨fun j=>a*W j+b*U j,fun v=>by
  show a*L v+b*M v=_;rw[amj,h,h']⟩
theorem ak5:se d fun _=>0:=⟨fun _=>0,fun v=>by
 induction d with
 |zero=>rfl
 |succ d ih=>grind[Bp]⟩
theorem LY{x:Rat}{d:Nat}:∀c i:Nat,i+c<=d->se d fun v=>pl x v i c
 |0,_,_=>ak5
 |c+1,i,h=>by
  have:=(ahW (d:=d) (i:=i) ω).comb (LY (x:=x) c (i+1) ω) 1 x;simp only[Rat.one_mul]at this;exact this
theorem Rh{t:Rat}{d:Nat}:∀n i:Nat,i+n<d->se d fun v=>dc t v n i
 |0,i,h=>ahW h
 |n+1,i,h=>(Rh (t:=t) n i ω).comb (Rh n (i+1) ω) (1-t) t
theorem Zf{t lo hi:Rat}(h0:0<=t)(h1:t<=1){v:G}:∀n i:Nat,(∀j,i<=j->j<=i+n->lo<=v j/\v j<=hi)->lo<=dc t v n i/\dc t v n i<=hi
 |0,i,h=>h i (aCJ _) (aCJ _)
 |n+1,i,h=>by
  have a:=Zf h0 h1 n i fun j a b=>h j a ω;have b:=Zf h0 h1 n (i+1) fun j a b=>h j ω ω;have h2:0<=1-t:=γ
  simp only[dc];have q1:=Rat.mul_le_mul_of_nonneg_left a.1 h2;have q2:=Rat.mul_le_mul_of_nonneg_left a.2 h2;have q3:=Rat.mul_le_mul_of_nonneg_left b.1 h0;have q4:=Rat.mul_le_mul_of_nonneg_left b.2 h0;grind
def jM:List (Nat×LF)->Nat->Nat->G->Rat
 |[],_,i,g=>g i
 |p::ls,s,i,g=>p.2 fun j=>jM ls (s*(p.1+1)) (i+j*s) g
def CI:List (Nat×LF)->Nat->Nat
 |[],s=>s
 |p::ls,s=>CI ls (s*(p.1+1))
def Rj(ls:List (Nat×LF)):Prop:=∀p∈ls,se (p.1+1) p.2
theorem ahX{g1 g2:G}:∀ (ls:List (Nat×LF)),Rj ls->∀s i:Nat,(∀q,q*s+s<=CI ls s->g1 (i+q*s)=g2 (i+q*s))->jM ls s i g1=jM ls s i g2
 |[],_,s,i,h=>by
  have:=h 0 (by grind[CI]);grind[jM]
 |p::ls,ok,s,i,h=>by
  refine(ok p σ).cg fun j hj=>ahX ls (fun q hq=>ok q γ) _ _ fun q hq=>?_;have e:i+j*s+q*(s*(p.1+1))=i+(j+q*(p.1+1))*s:=γ
  rw[e];refine h _ (aCP ?_ hq);have:(j+1)*s<=(p.1+1)*s:=aCS _ hj;grind
theorem PD{c:Nat}{P:LF}(hP:se c P){g:G}(a:Nat->Nat):∀ (ls:List (Nat×LF)),Rj ls->∀s i:Nat,P (fun j=>jM ls s (i+a j) g)=jM ls s i fun i'=>P fun j=>g (i'+a j)
 |[],_,_,_=>rfl
 |p::ls,ok,s,i=>by
  show P (fun j=>p.2 fun r=>jM ls (s*(p.1+1)) (i+a j+r*s) g)=p.2 fun r=>jM ls (s*(p.1+1)) (i+r*s) _;rw[(ok p σ).swap hP];refine congrArg p.2 (funext fun r=>?_);rw[←PD hP a ls (fun q hq=>ok q γ)];grind
theorem Zg{d:Nat}{P B:LF}(hP:se (d+1) P)(hB:se (d+1) B){post:List (Nat×LF)}(op:Rj post){g g':G}:∀ (pre:List (Nat×LF)),Rj pre->∀s i:Nat,i<s->
  (∀i0 q,i0<CI pre s->q*(CI pre s*(d+1))+CI pre s*(d+1)<=CI post (CI pre s*(d+1))->P (fun j=>g (i0+q*(CI pre s*(d+1))+j*CI pre s))=B (fun j=>g' (i0+q*(CI pre s*(d+1))+j*CI pre s)))->
  jM (pre++(d,P)::post) s i g=jM (pre++(d,B)::post) s i g'
 |[],_,s,i,hi,h=>by
  show P (fun j=>jM post (s*(d+1)) (i+j*s) g)=B (fun j=>jM post (s*(d+1)) (i+j*s) g');rw[PD hP _ post op,PD hB _ post op];exact ahX post op _ _ fun q hq=>h i q hi hq
 |p::pre,ok,s,i,hi,h=>by
  refine(ok p σ).cg fun j hj=>Zg hP hB op pre (fun q hq=>ok q (by simp[hq])) _ _ ?_ h;have:j*s<=p.1*s:=aCS _ ω;grind
theorem acz{lo hi:Rat}{g:G}:∀ (ls:List (Nat×LF)),(∀p∈ls,∀v:G,(∀j,j<=p.1->lo<=v j/\v j<=hi)->lo<=p.2 v/\p.2 v<=hi)->∀s i:Nat,(∀q,q*s+s<=CI ls s->lo<=g (i+q*s)/\g (i+q*s)<=hi)->lo<=jM ls s i g/\jM ls s i g<=hi
 |[],_,s,i,h=>by
  have:=h 0 (by grind[CI]);grind[jM]
 |p::ls,ok,s,i,h=>by
  refine ok p σ _ fun j hj=>acz ls (fun q hq=>ok q γ) _ _ fun q hq=>?_;have e:i+j*s+q*(s*(p.1+1))=i+(j+q*(p.1+1))*s:=γ
  rw[e];refine h _ (aCP ?_ hq);have:j*s<=p.1*s:=aCS _ hj;grind
def ps(op:Nat->G->G)(s n:Nat):Nat->Nat->G->G
 |0,_,g=>g
 |k+1,i,g=>ps op s n k (i+1) (if i/s% (n+1)=0 then op i g else g)
theorem anV{f' m':Nat}(hs:0<s)(h1:f/s% (n+1)=0)(h2:f'/s% (n+1)=0)(hm:m<=n)(hm':m'<=n)(e:f+m*s=f'+m'*s):f=f':=by
 have h3:(f+m*s)/s% (n+1)=m:=by
  rw[Nat.add_mul_div_right _ _ hs,Nat.add_mod,h1,aCI,Nat.mod_mod,aDq ω]
 have h4:(f'+m'*s)/s% (n+1)=m':=by
  rw[Nat.add_mul_div_right _ _ hs,Nat.add_mod,h2,aCI,Nat.mod_mod,aDq ω]
 grind
theorem atJ{L L':LF}(hs:0<s)(cL:se (n+1) L)(cL':se (n+1) L'){op:Nat->G->G}(hop:∀f g,(∀a,(∀m,m<=n->a≠f+m*s)->op f g a=g a)/\L (fun m=>g (f+m*s))=L' (fun m=>op f g (f+m*s))):
  ∀ (k i:Nat) (g:G),(∀f m,f<i->f/s% (n+1)=0->m<=n->ps op s n k i g (f+m*s)=g (f+m*s))/\∀f,i<=f->f<i+k->f/s% (n+1)=0->L (fun m=>g (f+m*s))=L' (fun m=>ps op s n k i g (f+m*s)):=by
 intro k;induction k with
 |zero=>exact fun i g=>⟨fun _ _ _ _ _=>rfl,fun f h1 h2=>by omega⟩
 |succ k ih=>
  intro i g;have e:ps op s n (k+1) i g=ps op s n k (i+1) (if i/s% (n+1)=0 then op i g else g):=rfl;rw[e];have hg:∀f m,f≠i->f/s% (n+1)=0->m<=n->(if i/s% (n+1)=0 then op i g else g) (f+m*s)=g (f+m*s):=fun f m hf h0 hm=>by
   grind[anV]
  have hi:i/s% (n+1)=0->L (fun m=>g (i+m*s))=L' (fun m=>(if i/s% (n+1)=0 then op i g else g) (i+m*s)):=fun h=>by
   simp_all
  generalize(if i/s% (n+1)=0 then op i g else g)=g1 at*
  obtain⟨a,b⟩:=ih (i+1) g1;refine⟨fun f m hf h0 hm=>by rw[a f m ω h0 hm,hg f m ω h0 hm],fun f h1 h2 h0=>?_⟩;by_cases hq:f=i
  ·subst hq;rw[hi h0];exact cL'.cg fun m hm=>(a f m ω h0 ω).symm
  ·rw[←b f ω ω h0];exact cL.cg fun m hm=>(hg f m hq h0 ω).symm
def dl(a:Nat):G:=fun b=>if b=a then 1 else 0
theorem Tz{a c:Rat}{g h:G}:∀ (ls:List (Nat×LF)),Rj ls->∀s i:Nat,jM ls s i (fun b=>a*g b+c*h b)=a*jM ls s i g+c*jM ls s i h
 |[],_,_,_=>rfl
 |p::ls,ok,s,i=>by
  show p.2 (fun j=>jM ls _ (i+j*s) _)=a*p.2 _+c*p.2 _;rw[← (ok p σ).lin];refine congrArg p.2 (funext fun j=>?_);exact Tz ls (fun q hq=>ok q γ) _ _
theorem aqV{ls:List (Nat×LF)}(ok:Rj ls){a:Nat}{g:G}{y:Rat}:jM ls s i (gs g a y)=jM ls s i g+(y-g a)*jM ls s i (dl a):=by
 have:gs g a y=fun b=>1*g b+(y-g a)*dl a b:=by
  grind[gs,dl]
 rw[this,Tz ls ok];grind
def rY:List Nat->List Rat->List (Nat×LF)
 |d::ds,x::xs=>(d,fun v=>pl x v 0 (d+1))::rY ds xs
 |_,_=>[]
theorem M4:∀ (ds:List Nat) (xs:List Rat),Rj (rY ds xs)
 |d::ds,x::xs=>fun p hp=>by
  rcases List.mem_cons.1 hp with rfl|hp
  ·simp_all[LY]
  ·exact M4 ds xs p hp
 |[],_=>fun _ h=>by grind[rY]
 |_::_,[]=>fun _ h=>by grind[rY]
def tP:List Rat->List Nat->Rat
 |x::xs,e::es=>x^e*tP xs es
 |_,_=>1
def pos:List Nat->List Nat->Nat->Nat
 |d::ds,e::es,s=>e*s+pos ds es (s*(d+1))
 |_,_,_=>0
def Rk:List Nat->List Nat->Prop
 |d::ds,e::es=>e<=d/\Rk ds es
 |[],[]=>True
 |_,_=>False
theorem amk{x y:Rat}{e:Nat}:∀c i:Nat,(e<i->pl x (fun j=>if j=e then y else 0) i c=0)/\(i<=e->e<i+c->pl x (fun j=>if j=e then y else 0) i c=x^ (e-i)*y)
 |0,i=>⟨fun _=>rfl,fun h1 h2=>by omega⟩
 |c+1,i=>by
  obtain⟨a,b⟩:=amk (x:=x) (y:=y) (e:=e) c (i+1);simp only[pl];constructor
  ·grind
  ·intro h1 h2;by_cases h:i=e
   ·subst h;grind
   ·rw[if_neg h,b ω ω,show e-i=e- (i+1)+1 by omega,aEh];grind
theorem aml{i0 e:Nat}(h1:i<s)(h2:i0<s):i+j*s=i0+e*s↔i=i0/\j=e:=by
 constructor
 ·intro h;have a:(i+j*s) %s=i:=by rw[Nat.add_mul_mod_self_right,aDq h1]
  have b:(i0+e*s) %s=i0:=by rw[Nat.add_mul_mod_self_right,aDq h2]
  have c:i=i0:=γ
  subst c;exact⟨rfl,Nat.eq_of_mul_eq_mul_right ω (Nat.add_left_cancel h)⟩
 grind
theorem Gm(h:i<s)(hj:j<=d):i+j*s<s*(d+1):=by
 have:j*s<=d*s:=aCS _ hj;grind
theorem acA:∀ (ds es:List Nat) (xs:List Rat),Rk ds es->xs.length=ds.length->∀s i i0:Nat,i<s->i0<s->jM (rY ds xs) s i (dl (i0+pos ds es s))=if i=i0 then tP xs es else 0
 |[],[],xs,_,hx,s,i,i0,_,_=>by
  have:xs=[]:=List.length_eq_zero_iff.1 hx;subst this;rfl
 |d::ds,e::es,x::xs,h,hx,s,i,i0,h1,h2=>by
  show pl x (fun j=>jM (rY ds xs) (s*(d+1)) (i+j*s) (dl (i0+(e*s+pos ds es (s*(d+1)))))) 0 (d+1)=_;have hc:=(LY (x:=x) (d:=d+1) (d+1) 0 σ).cg (v:=fun j=>jM (rY ds xs) (s*(d+1)) (i+j*s) (dl (i0+(e*s+pos ds es (s*(d+1)))))) (w:=fun j=>if j=e then(if i=i0 then tP xs es else 0)else 0) (fun j hj=>by
   rw[←aDE,acA ds es xs h.2 γ (s*(d+1)) _ _ (Gm h1 ω) (Gm h2 h.1)];grind[aml])
  rw[hc,(amk (d+1) 0).2 ω (by have:=h.1;omega)];by_cases ha:i=i0
  ·rw[if_pos ha,if_pos ha];rfl
  grind
 |[],_::_,_,h,_,_,_,_,_,_=>h.elim
 |_::_,[],_,h,_,_,_,_,_,_=>h.elim
 |_::_,_::_,[],_,hx,_,_,_,_,_=>by grind
theorem ahY:∀ (ds es:List Nat) (xs:List Rat),Rk ds es->xs.length=ds.length->∀s i0:Nat,i0<s->i0+pos ds es s<CI (rY ds xs) s
 |[],[],xs,_,hx,s,i0,h2=>by
  exact h2
 |d::ds,e::es,x::xs,h,hx,s,i0,h2=>by
  show i0+(e*s+pos ds es (s*(d+1)))<CI (rY ds xs) (s*(d+1));rw[←aDE];exact ahY ds es xs h.2 γ _ _ (Gm h2 h.1)
 |[],_::_,_,h,_,_,_,_=>h.elim
 |_::_,[],_,h,_,_,_,_=>h.elim
 |_::_,_::_,[],_,hx,_,_,_=>by grind
theorem acB:∀ (ds es es':List Nat),Rk ds es->Rk ds es'->∀s i i0:Nat,i<s->i0<s->i+pos ds es s=i0+pos ds es' s->i=i0/\es=es'
 |[],[],[],_,_,_,_,_,_,_,h=>⟨h,rfl⟩
 |d::ds,e::es,e'::es',h,h',s,i,i0,h1,h2,hq=>by
  have:i+(e*s+pos ds es (s*(d+1)))=i0+(e'*s+pos ds es' (s*(d+1))):=hq;rw[←aDE,←aDE]at this;obtain⟨a,b⟩:=acB ds es es' h.2 h'.2 _ _ _ (Gm h1 h.1) (Gm h2 h'.1) this;obtain⟨c,d⟩:=(aml h1 h2).1 a;exact⟨c,by rw[d,b]⟩
 |[],_::_,_,h,_,_,_,_,_,_,_=>h.elim
 |_::_,[],_,h,_,_,_,_,_,_,_=>h.elim
 |[],[],_::_,_,h,_,_,_,_,_,_=>h.elim
 |_::_,_::_,[],_,h,_,_,_,_,_,_=>h.elim
theorem M5{y:Rat}(h:0<y):0<y⁻¹:=by
 refine Rat.not_le.1 fun hn=>?_;have:=aDB hn (Rat.le_of_lt h);grind
theorem acC{y z:Rat}(h1:0<y)(h2:y<=z):z⁻¹<=y⁻¹:=by
 have a:=M5 h1;have b:=M5 (show 0<z by grind);have c:=aDB (aDB h2 (Rat.le_of_lt a)) (Rat.le_of_lt b);rw[show y*y⁻¹*z⁻¹=z⁻¹ by grind,show z*y⁻¹*z⁻¹=y⁻¹ by grind]at c;omega
theorem ahZ{y z:Rat}(h:0<y/\y<=z\/y<=z/\z<0):z⁻¹<=y⁻¹:=by
 rcases h with⟨h1,h2⟩| ⟨h2,h1⟩
 ·grind[acC]
 ·have:=acC (y:=-z) (z:=-y) γ γ;grind
theorem wJ{d:Rd}:(d.neg=true->zI d=-(mg d:Int))/\(d.neg=false->zI d=mg d):=by
 simp_all[zI,if_pos]
theorem aqW{a b:Rd}{w:Bool}(hN:N=16384)(oa:Ok0 a)(ob:Ok0 b)(va:vd a=true)(vb:vd b=true)(hp:8<=p/\p<=512)(a0:a.m.length≠0)(b0:b.m.length≠0)
  (h:(df (ab a.m*2^zG a b p/ab b.m) (a.e-zG a b p-b.e) (decide (ab a.m*2^zG a b p%ab b.m≠0)) p w).2=0):
  ∃n:Nat,zI (df (ab a.m*2^zG a b p/ab b.m) (a.e-zG a b p-b.e) (decide (ab a.m*2^zG a b p%ab b.m≠0)) p w).1=n/\(w=true->mg a*2^N<=n*mg b)/\(w=false->n*mg b<=mg a*2^N):=by
 obtain⟨a1,a2,a3,a4⟩:=dj va oa.lb;obtain⟨b1,b2,b3,b4⟩:=dj vb ob.lb;have hA:=dQ va a0;have hB:=dQ vb b0;have hk:zG a b p=(p+3+ag (ab b.m)-ag (ab a.m)).toNat:=rfl;generalize zG a b p=k at*
 have hm2:=dJ k hA;have hbM:p< (ag (ab a.m*2^k/ab b.m):Nat):=by
  have h1:2^ (ag (ab a.m*2^k)-1)<=ab a.m*2^k:=Ts ω;have h2:ab b.m<2^ag (ab b.m):=bH.1 (aCJ _);have h3:2^p.toNat*ab b.m<=ab a.m*2^k:=by
   refine aCP (aDD _ (Nat.le_of_lt h2)) (aCP ?_ h1);rw[←aCU];exact aDn δ ω
  have h4:2^p.toNat<=ab a.m*2^k/ab b.m:=(Nat.le_div_iff_mul_le (Nat.pos_of_ne_zero hB)).2 h3;have h5:=kW.2 h4;omega
 have hdm:=aDC (ab a.m*2^k) (ab b.m);have hml:=aDj (ab a.m*2^k) (Nat.pos_of_ne_zero hB);generalize ab a.m*2^k/ab b.m=M at*
 generalize hR:ab a.m*2^k%ab b.m=R at*
 obtain⟨n,n1,n2,n3⟩:=JR (s:=(a.e+16384).toNat+N) (t:=k+(b.e+16384).toNat) (fun h0=>by grind[tN]) hp ω (fun _=>hbM) h;refine⟨n,n1,fun hw=>?_,fun hw=>?_⟩
 ·have g:=n2 hw;have h1:ab a.m*2^k<=(M+(decide (R≠0)).toNat)*ab b.m:=by
   rw[←hdm,aC8,aC6 M];by_cases h0:R=0
   all_goals grind
  refine Nat.le_of_mul_le_mul_right ?_ (aC1 k);have h2:=aCS (2^ ((a.e+16384).toNat+N)) h1;have h3:=aCS (ab b.m) g;unfold mg;grind
 ·have g:=n3 hw;have h1:M*ab b.m<=ab a.m*2^k:=by
   grind
  refine Nat.le_of_mul_le_mul_right ?_ (aC1 k);have h2:=aCS (2^ ((a.e+16384).toNat+N)) h1;have h3:=aCS (ab b.m) g;unfold mg;grind
theorem UT{A B:Nat}(k:Nat)(hB:0<B):(A*2^k<=n*B->(A:Rat)*(B:Rat)⁻¹<=n*eQ k)/\(n*B<=A*2^k->(n:Rat)*eQ k<=(A:Rat)*(B:Rat)⁻¹):=by
 have hb:(0:Rat)<B:=by exact_mod_cast hB
 have hi:=M5 hb;have hk:=Zd k;have hm:=D9 k;have e1:((A*2^k:Nat):Rat)=A*pQ k:=by
  simp_all[pQ,Rat.natCast_mul,Rat.natCast_pow,Rat.intCast_pow]
 have e2:((n*B:Nat):Rat)=n*B:=Rat.natCast_mul _ _;have r1:(A:Rat)*(B:Rat)⁻¹=A*pQ k*(eQ k*(B:Rat)⁻¹):=γ
 have r2:(n:Rat)*eQ k=n*B*(eQ k*(B:Rat)⁻¹):=γ
 have hc:0<=eQ k*(B:Rat)⁻¹:=Rat.mul_nonneg (Rat.le_of_lt hk) (Rat.le_of_lt hi);rw[r1,r2,←e1,←e2];exact⟨fun h=>aDB (by exact_mod_cast h) hc,fun h=>aDB (by exact_mod_cast h) hc⟩
theorem ah0{a b:Rd}{up:Bool}(va:vd a=true/\Ok0 a)(vb:vd b=true/\Ok0 b)(hb:qv b≠0)(hp:bC p=true)(h:(uM a b p up).2=0):(up=true->qv a*(qv b)⁻¹<=qv (uM a b p up).1)/\(up=false->qv (uM a b p up).1<=qv a*(qv b)⁻¹):=by
 unfold uM at h⊢;rw[if_pos (Re va.1 vb.1 hp)]at h⊢;have b0:b.m.length≠0:=fun h0=>hb γ;rw[if_neg b0]at h⊢;by_cases a0:a.m.length=0
 ·rw[if_pos a0,Ez]
  simp_all[qv,cQ]
 rw[if_neg a0]at h⊢;obtain⟨N,hN⟩:∃N:Nat,N=16384:=⟨_,rfl⟩;have hcut:=fun w hw=>aqW (w:=w) hN va.2 vb.2 va.1 vb.1 (vM hp) a0 b0 hw;have hmb:=Ir vb.1 b0;have hE:=IG;generalize hc:df (ab a.m*2^zG a b p/ab b.m) (a.e-zG a b p-b.e) (decide (ab a.m*2^zG a b p%ab b.m≠0)) p=c at*
 have hvc:∀w,vd (c w).1=true:=fun w=>by rw[←hc];exact Tt
 have hq:qv a*(qv b)⁻¹=if(a.neg !=b.neg)=true then-((mg a:Rat)*(mg b:Rat)⁻¹)else(mg a:Rat)*(mg b:Rat)⁻¹:=by
  unfold qv;have i1:((-(mg a:Int):Int):Rat)=-(mg a:Rat):=by rfl
  have i2:((-(mg b:Int):Int):Rat)=-(mg b:Rat):=by rfl
  have i3:((mg a:Int):Rat)=(mg a:Rat):=rfl;have i4:((mg b:Int):Rat)=(mg b:Rat):=rfl;cases ha:a.neg<;>cases hb:b.neg
  ·rw[wJ.2 ha,wJ.2 hb,i3,i4,if_neg δ];grind
  ·rw[wJ.2 ha,wJ.1 hb,i3,i2,if_pos δ];grind
  ·rw[wJ.1 ha,wJ.2 hb,i1,i4,if_pos δ];grind
  ·rw[wJ.1 ha,wJ.1 hb,i1,i2,if_neg δ];grind
 rw[hq];generalize(a.neg !=b.neg)=sg at*
 unfold iX at h⊢;cases sg with
 |true=>
  have h2:(c (up !=true)).2=0:=by
   grind
  rw[if_pos (show(c (up !=true)).2=0/\true=true from⟨h2,rfl⟩),if_pos (show true=true from rfl)];obtain⟨n,n1,n2,n3⟩:=hcut _ h2;rw[(II (hvc _)).1];have e:qv (c (up !=true)).1=(n:Rat)*eQ N:=by unfold qv;rw[n1,hN];rfl
  grind[UT,mg]
 |false=>
  have hn:¬((c (up !=false)).2=0/\false=true):=fun h1=>aCR h1.2;rw[if_neg hn]at h;obtain⟨n,n1,n2,n3⟩:=hcut _ h;have e:qv (c (up !=false)).1=(n:Rat)*eQ N:=by unfold qv;rw[n1,hN];rfl
  grind[UT,mg]
theorem JU{d:Rd}(h:vd d=true):(0<cX d↔0<qv d)/\(cX d<0↔qv d<0):=by
 have hE:=IG;unfold cX;by_cases h0:d.m.length=0
 ·simp_all[qv,cQ,if_pos]
 ·have hm:=Ir h h0;have hq:(0:Rat)< (mg d:Rat)*EQ:=Rat.mul_pos (by exact_mod_cast hm) hE;cases hn:d.neg with
  |true=>
   have:qv d=-((mg d:Rat)*EQ):=by unfold qv;rw[wJ.1 hn,Rat.intCast_neg,Rat.intCast_natCast];grind
   grind
  |false=>
   have:qv d=(mg d:Rat)*EQ:=by unfold qv;rw[wJ.2 hn];rfl
   grind
theorem M6{a b:Rat}(hx:In a x)(hy:In b y):In (a/b) (mT x y p):=by
 unfold mT;split
 ·next h=>
  simp only[aCK]at h;obtain⟨⟨kx,ky⟩,hp⟩:=h;rcases hx.k with⟨rfl,h⟩| ⟨_,x1,x2⟩
  ·grind
  rcases hy.k with⟨rfl,h⟩| ⟨_,y1,y2⟩
  ·grind
  split
  ·exact Or.inl rfl
  ·next hs=>
   have hpr:∀i,((j7 x y i).1=x.lo\/(j7 x y i).1=x.hi)/\((j7 x y i).2=y.lo\/(j7 x y i).2=y.hi):=fun i=>by
    unfold j7;grind
   have hsg:0<qv y.lo\/qv y.hi<0:=by
    unfold Kv at hs;by_cases g1:0<cX y.lo
    ·exact Or.inl ((JU hy.vi.1.1).1.1 g1)
    ·by_cases g2:cX y.hi<0
     ·exact Or.inr ((JU hy.vi.2.1).2.1 g2)
     omega
   have hv:∀i,(vd (j7 x y i).1=true/\Ok0 (j7 x y i).1)/\(vd (j7 x y i).2=true/\Ok0 (j7 x y i).2)/\qv (j7 x y i).2≠0:=fun i=>by
    obtain⟨h1,h2⟩:=hpr i;refine⟨?_,?_,?_⟩
    ·rcases h1 with h1|h1<;>rw[h1]
     ·exact hx.vi.1
     ·exact hx.vi.2
    ·rcases h2 with h1|h1<;>rw[h1]
     ·exact hy.vi.1
     ·exact hy.vi.2
    grind
   refine acw (dn:=fun a b=>uM a b p false) (up:=fun a b=>uM a b p true) (v:=fun i=>qv (j7 x y i).1*(qv (j7 x y i).2)⁻¹) (fun _ _=>Fk) (fun _ _=>Fk) (fun i _ h=>(ah0 (hv i).1 (hv i).2.1 (hv i).2.2 hp h).2 rfl) (fun i _ h=>(ah0 (hv i).1 (hv i).2.1 (hv i).2.2 hp h).1 rfl) fun lo hi h=>?_;have i1:(qv y.hi)⁻¹<=b⁻¹:=ahZ γ;have i2:b⁻¹<=(qv y.lo)⁻¹:=ahZ γ;exact acx x1 x2 i1 i2 (h 1 δ) (h 0 δ) (h 3 δ) (h 2 δ)
 ·exact Or.inl rfl
theorem ah1{up:Bool}(hp:8<=p/\p<=512)(hz:0<=z)(h:(iL z (-16384- (j:Int)) p up).2=0):0<=zI (iL z (-16384- (j:Int)) p up).1:=by
 unfold iL at h⊢;by_cases h0:z=0
 ·rw[if_pos h0,cQ rfl];omega
 ·rw[if_neg h0,decide_eq_false ω]at h⊢;unfold iX at h⊢;rw[if_neg (fun h1=>aCR h1.2)]at h⊢;obtain⟨n,g1,_⟩:=JR (s:=0) (t:=j) ω hp ω (fun h=>absurd h aCR) h;omega
theorem aff{d:Rd}:0<=qv d↔0<=zI d:=by
 rw[←Ez,sE,cQ rfl]
theorem aqX{d:Rd}{up:Bool}(v:vd d=true)(hp:bC p=true)(h:(cw d p up).2=0):(0<=qv d->0<=qv (cw d p up).1)/\(up=true->qv d<=qv (cw d p up).1)/\(up=false->qv (cw d p up).1<=qv d):=by
 refine⟨fun hd=>?_,?_,?_⟩
 ·rw[aff]at hd⊢;have hp2:=vM hp;have hf:aY p [d]=0:=by grind[aY]
  unfold cw at h⊢;rw[if_pos hf]at h⊢;exact ah1 (j:=0) hp2 hd h
 ·rintro rfl
  exact sE.2 (anN v hp h)
 ·rintro rfl
  exact sE.2 (anM v hp h)
theorem anW{a b:Rd}{up:Bool}(ha:vd a=true)(hb:vd b=true)(hp:bC p=true)(h1:0<=qv a)(h2:0<=qv b)(h:(gp a b p up).2=0):0<=qv (gp a b p up).1:=by
 rw[aff]at*
 unfold gp at h⊢;rw[if_pos (Re ha hb hp)]at h⊢;exact ah1 (j:=16384) (vM hp) (Int.mul_nonneg h1 h2) h
theorem LZ{d:Rd}{up:Bool}:vd (cw d p up).1=true/\Ok0 (cw d p up).1:=by
 grind[cw,vH,aO]
theorem L4{a b:Rd}{up:Bool}:vd (gp a b p up).1=true/\Ok0 (gp a b p up).1:=by
 grind[gp,vH,aO]
theorem Wn{d:Rd}{p:Int}{up:Bool}:∀ (k:Nat) (r:Rd×Int),(vd r.1=true/\Ok0 r.1)->vd (pe d p up k r).1=true/\Ok0 (pe d p up k r).1
 |0,_,h=>h
 |k+1,r,h=>by
  unfold pe;split
  ·exact Wn k _ L4
  ·exact h
theorem amm{d:Rd}{p:Int}{up:Bool}(v:vd d=true)(hp:bC p=true)(h0:0<=qv d):∀ (k m:Nat) (r:Rd×Int),vd r.1=true->(r.2=0->0<=qv r.1/\(up=true->qv d^m<=qv r.1)/\(up=false->qv r.1<=qv d^m))->(pe d p up k r).2=0->
  (up=true->qv d^ (m+k)<=qv (pe d p up k r).1)/\(up=false->qv (pe d p up k r).1<=qv d^ (m+k))
 |0,m,r,_,h,he=>(h he).2
 |k+1,m,r,vr,h,he=>by
  unfold pe at he⊢;by_cases hr:r.2=0
  ·rw[if_pos hr]at he⊢;obtain⟨a,b,c⟩:=h hr;rw[show m+(k+1)=m+1+k by omega];refine amm v hp h0 k (m+1) _ L4.1 (fun hm=>⟨anW vr v hp a h0 hm,fun hu=>?_,fun hu=>?_⟩) he
   ·have h1:=(Rg vr v hp hm).1 hu;have h2:=aDB (b hu) h0;grind[aEh,aEi]
   grind[Rg,aDB,aEh,aEi]
  grind
theorem aqY{d:Rd}{up:Bool}(v:vd d=true)(hp:bC p=true)(h0:0<=qv d)(hn:1<=n)(he:(pw d n p up).2=0):(up=true->qv d^n<=qv (pw d n p up).1)/\(up=false->qv (pw d n p up).1<=qv d^n):=by
 have:=amm v hp h0 (n-1) 1 (cw d p up) LZ.1 (fun h=>by
  grind[aqX,qv]) he
 rw[show 1+(n-1)=n by omega]at this;exact this
theorem DH{x:Rat}:∀n:Nat,(-x)^ (2*n+1)=-(x^ (2*n+1))
 |0=>by grind
 |n+1=>by
  have:=DH (x:=x) n;grind
theorem L5{x:Rat}:∀n:Nat,(-x)^ (2*n)=x^ (2*n)
 |0=>by grind
 |n+1=>by
  have:=L5 (x:=x) n;grind
theorem Rl{x:Rat}(h:0<=x):∀n:Nat,0<=x^n
 |0=>by grind
 |n+1=>by rw[aEh];exact Rat.mul_nonneg (Rl h n) h
theorem L6{x y:Rat}(h:0<=x)(h1:x<=y):∀n:Nat,x^n<=y^n
 |0=>by grind
 |n+1=>by
  rw[aEh,aEh];have a:=aDB (L6 h h1 n) h;have b:=Rat.mul_le_mul_of_nonneg_left h1 (Rl (aEi h h1) n);exact aEi a b
theorem afg{x y:Rat}(h1:x<=y)(n:Nat):x^ (2*n+1)<=y^ (2*n+1):=by
 by_cases hx:0<=x
 ·grind[L6]
 ·by_cases hy:0<=y
  ·have a:=Rl (show 0≤-x by grind) (2*n+1);grind[Rl,DH]
  ·have:=L6 (x:=-y) (y:=-x) γ γ (2*n+1);grind[DH]
theorem aqZ{d:Rd}(v:vd d=true):sS d<0↔qv d<0:=by
 rw[← (JU v).2];grind[sS,cX]
theorem Rn{d:Rd}{up:Bool}(v:vd d=true)(hp:bC p=true)(hn:1<=n)(ho:n%2=1\/0<=qv d)(he:(tE d n p up).2=0):(up=true->qv d^n<=qv (tE d n p up).1)/\(up=false->qv (tE d n p up).1<=qv d^n):=by
 unfold tE at he⊢;by_cases hs:sS d<0
 ·rw[if_pos hs]at he⊢;have hq:=(aqZ v).1 hs;obtain⟨n1,n2⟩:=II v;have hodd:n=2*(n/2)+1:=by
   grind
  have hw:=aqY n2 hp γ hn he;grind[vd,pw,ed,Wn,LZ,qv,II,DH]
 ·rw[if_neg hs]at he⊢;exact aqY v hp (Rat.not_lt.1 fun h=>hs ((aqZ v).2 h)) hn he
theorem ah2{d:Rd}(v:vd d=true)(ok:Ok0 d):(vd (me d)=true/\Ok0 (me d))/\0<=qv (me d)/\(qv (me d)=qv d\/qv (me d)=-qv d):=by
 unfold me;by_cases h0:d.m.length=0
 ·rw[if_pos (Or.inr h0),Ez]
  simp_all[qv,cQ,aO,Rat.le_refl]
 ·rw[if_neg γ];have hm:mg ⟨false,d.m,d.e⟩=mg d:=rfl;have h1:zI ⟨false,d.m,d.e⟩=mg d:=by rw[wJ.2 rfl,hm]
  refine⟨⟨?_,ok.1,ok.2⟩,?_,?_⟩
  ·simp_all[vd,if_neg]
  ·grind[aff]
  ·unfold qv;rw[h1];cases hn:d.neg with
   |true=>
    rw[wJ.1 hn,Rat.intCast_neg];grind
   |false=>
    left;rw[wJ.2 hn]
theorem anX{a b:Rat}(hx:In a x)(hb:0<=b)(hab:b=a\/b=-a):In b (lC x)/\(kI x=true->0<=qv (lC x).lo/\(lC x).all=false):=by
 unfold lC;by_cases h:kI x=true
 ·rw[if_pos h];rcases hx.k with⟨rfl,h1⟩| ⟨_,x1,x2⟩
  ·grind
  obtain⟨l1,l2,l3⟩:=ah2 hx.vi.1.1 hx.vi.1.2;obtain⟨h1,h2,h3⟩:=ah2 hx.vi.2.1 hx.vi.2.2;obtain⟨m1,m2,m3,m4,m5⟩:=Ty l1 h1;obtain⟨n1,n2,n3,n4,n5⟩:=Tx l1 h1;have hmag:b<=qv (wo x):=by
   grind[wo]
  have hmig:(vd (Db x)=true/\Ok0 (Db x))/\0<=qv (Db x)/\qv (Db x)<=b:=by
   unfold Db;split
   ·grind[Ez,aO,Rat.le_refl]
   ·next hs=>
    have hsg:0<qv x.lo\/qv x.hi<0:=by
     unfold Kv at hs;by_cases g1:0<cX x.lo
     ·exact Or.inl ((JU hx.vi.1.1).1.1 g1)
     ·by_cases g2:cX x.hi<0
      ·exact Or.inr ((JU hx.vi.2.1).2.1 g2)
      omega
    grind
  exact⟨Or.inr ⟨rfl,⟨hmig.1,⟨m3,m4⟩⟩,hmig.2.2,hmag⟩,fun _=>⟨hmig.2.1,rfl⟩⟩
 ·rw[if_neg h];exact⟨Or.inl rfl,fun hk=>absurd hk h⟩
theorem rM:qv one=1:=by
 obtain⟨N,hN⟩:∃N:Nat,N=16384:=⟨_,rfl⟩;have hm:mg one=2^N:=by
  unfold mg;rw[show(one.e+16384).toNat=N by rw[hN];rfl];exact Nat.one_mul _
 unfold qv EQ;rw[wJ.2 rfl,hm,←hN,show(((2^N:Nat):Int):Rat)=pQ N by grind[pQ,Int.natCast_pow]];grind[D9]
theorem Ro{d:Rd}{up:Bool}:vd (tE d n p up).1=true/\Ok0 (tE d n p up).1:=by
 grind[tE,vd,pw,Wn,LZ,II,yE]
theorem Dk{a:Rat}(hx:In a x):In (a^n) (wr x n p):=by
 unfold wr;split
 ·next h=>
  simp only[aCK]at h;obtain⟨⟨kx,hp⟩,_⟩:=h;split
  ·next h0=>
   subst h0;rw[Rat.pow_zero,←rM];exact ip dW.1 dW.2
  ·next h0=>
   by_cases he:n%2=0
   ·rw[if_pos he];obtain⟨b,hb,hab⟩:∃b:Rat,0<=b/\(b=a\/b=-a):=by
     grind
    obtain⟨h1,h2⟩:=anX hx hb hab;obtain⟨g1,g2⟩:=h2 kx;have hpw:a^n=b^n:=by
     rcases hab with rfl|rfl
     ·rfl
     ·rw[show n=2*(n/2)by omega,L5]
    rw[hpw];rcases h1 with hW| ⟨_,hv,y1,y2⟩
    ·rw[hW]at g2;exact absurd g2 δ
    refine Wm Ro Ro (fun h=>?_) (fun h=>?_)
    ·exact aEi ((Rn hv.1.1 hp ω (Or.inr g1) h).2 rfl) (L6 g1 y1 n)
    ·exact aEi (L6 (aEi g1 y1) y2 n) ((Rn hv.2.1 hp ω (Or.inr (aEi g1 (aEi y1 y2))) h).1 rfl)
   ·rw[if_neg he];rcases hx.k with⟨rfl,h1⟩| ⟨_,x1,x2⟩
    ·grind
    have ho:n=2*(n/2)+1:=ω
    have le:∀ {x y:Rat},x<=y->x^n<=y^n:=fun h=>by
     grind[afg]
    refine Wm Ro Ro (fun h=>?_) (fun h=>?_)
    ·exact aEi ((Rn hx.vi.1.1 hp ω (Or.inl ω) h).2 rfl) (le x1)
    ·exact aEi (le x2) ((Rn hx.vi.2.1 hp ω (Or.inl ω) h).1 rfl)
 ·exact Or.inl rfl
theorem acD{x:Rat}{m:Nat}:∀n:Nat,x^m*x^n=x^ (m+n)
 |0=>by grind
 |n+1=>by rw[aEh,←Rat.mul_assoc,acD n,←aDE,aEh]
theorem anY{a:Rat}(hx:In a x):In (a^n) (Dc x n p):=by
 unfold Dc;split
 ·exact Dk hx
 ·have:=jG (p:=p) (Dk (n:=16) (p:=p) hx) (Dk (n:=n-16) (p:=p) hx);grind[acD]
def InL:List Rat->List Ri->Prop
 |x::xs,d::ds=>In x d/\InL xs ds
 |[],[]=>True
 |_,_=>False
def rN(es:List Int):List Nat:=es.map Int.toNat
def fv(xs:List Rat):List Rt->Rat
 |[]=>0
 |t::l=>qv t.c*tP xs (rN t.exps)+fv xs l
theorem ah4{p:Int}:∀ (xs:List Rat) (ds:List Ri) (es:List Int) (x:Ri) (q:Rat),InL xs ds->ds.length=es.length->In q x->In (q*tP xs (rN es)) (Kw p ds es x)
 |[],[],[],x,q,_,_,h=>by
  show In (q*1) x;grind
 |y::xs,d::ds,e::es,x,q,hl,hd,h=>by
  show In (q*(y^e.toNat*tP xs (rN es))) (Kw p ds es (if 0<e then dt x (Dc d e.toNat p) p else x));rw[←Rat.mul_assoc];refine ah4 xs ds es _ _ hl.2 γ ?_;split
  ·exact jG h (anY hl.1)
  ·rw[show e.toNat=0 by omega,Rat.pow_zero,Rat.mul_one];omega
 |[],_::_,_,_,_,hl,_,_=>hl.elim
 |_::_,[],_,_,_,hl,_,_=>hl.elim
 |_::_,_::_,[],_,_,_,hd,_=>by grind
 |[],[],_::_,_,_,_,hd,_=>by grind
theorem ah5{p:Int}{xs:List Rat}{dom:List Ri}(hl:InL xs dom):∀ (l:List Rt) (s:Ri) (q:Rat),(∀t∈l,vd t.c=true/\Ok0 t.c/\dom.length=t.exps.length)->In q s->In (q+fv xs l) (LI p dom l s)
 |[],s,q,_,h=>by
  show In (q+0) s;grind
 |t::l,s,q,ht,h=>by
  obtain⟨a,b,c⟩:=ht t σ;show In (q+(qv t.c*tP xs (rN t.exps)+fv xs l)) _;rw[←Rat.add_assoc];exact ah5 hl l _ _ (fun u hu=>ht u (by simp[hu])) (io h (ah4 xs dom _ _ _ hl c (ip a b)))
theorem L7{a:Rp}{xs:List Rat}(oa:OkP a)(hl:InL xs dom):In (fv xs a.terms) (n8 a dom p):=by
 unfold n8;split
 ·next h=>
  unfold mQ at h;simp only[aCK,decide_eq_true_eq]at h;obtain⟨⟨hv,hd,_⟩,_⟩:=h;unfold vp at hv;simp only[aCK,decide_eq_true_eq]at hv;have:=ah5 (p:=p) hl a.terms ⟨aB,aB,false⟩ 0 (fun t ht=>by
   have h1:=Cj (MQ _ _ hv.2.2.2 t ht);exact⟨h1.2.1,(oa.t t ht).c,by omega⟩) (by rw[←Ez];exact ip aO.1 aO.2)
  grind
 ·exact Or.inl rfl
def intD(e:Int):Rd:=bg false e.natAbs 0
theorem anZ(h1:1<=e)(h2:e<=32):Ok0 (intD e)/\vd (intD e)=true/\(intD e).m.length≠0:=by
 have hn:e.natAbs≠0:=ω
 have hb:ag e.natAbs<=6:=bH.2 (by
  omega)
 have hc:=Gf (neg:=false) (M:=e.natAbs) (e:=0) ω δ ω;have ho:=yI (z:=e) (f:=0);have hcan:cT e 0=bg false e.natAbs 0:=by
  grind[cT,decide_eq_false]
 rw[hcan,hc]at ho;refine⟨ho.2,ho.1,fun h=>?_⟩;obtain⟨q1,_,q3,_⟩:=rU (neg:=false) (e:=0) hn;have h0:(bg false e.natAbs 0).m=[]:=List.length_eq_zero_iff.1 h;grind[ab]
def dec(l:List Int)(i:Nat):List Int:=l.set i (l.getD i 0-1)
theorem acE:∀ {l:List Int} {i:Nat},i<l.length->bm (dec l i)=bm l-1
 |x::l,0,_=>by
  show(x-1)+bm l=(x+bm l)-1;omega
 |x::l,i+1,h=>by
  have ih:=acE (l:=l) (i:=i) (by simpa using h);show x+bm (dec l i)=(x+bm l)-1;omega
theorem an0{x:Int}(h1:0<=x)(h2:x<=32):R faP [I x] []=some (af (intD x),[]):=by
 have h:=D4 (n:=x) ⟨by omega,by omega⟩;rw[decide_eq_false ω]at h;exact h
theorem ColE.nil{v:Int}{c:AV}(hc:n9 c l)(he:e=0\/e=9):ColE v l [] e c l e:=by
 refine⟨hc,?_⟩;rcases he with rfl|rfl
 ·exact .inl ⟨rfl,rfl,rfl⟩
 ·exact .inr ⟨rfl,fun h=>by omega⟩
structure Bf (v:Int) (l A:List Rt):Prop where
 cl:Cl v l
 lt:∀q∈l,∀t∈A,cA q.exps t.exps<0
theorem Bf.nil{v:Int}(A:List Rt):Bf v [] A:=⟨Cl.nil _,fun q h=>by grind⟩
theorem Bf.drop{v:Int}{t:Rt}(h:Bf v l (t::A)):Bf v l A:=⟨h.cl,fun q hq x hx=>h.lt q hq x γ⟩
theorem Cl.tail{v:Int}{t:Rt}(h:Cl v (t::l)):Cl v l:=⟨fun q hq=>h.t q γ,(List.pairwise_cons.1 h.s).2⟩
theorem Cl.head{v:Int}{t:Rt}(h:Cl v (t::l)):VT v t:=h.t t σ
theorem Bf.push{v:Int}{t:Rt}{d:Rd}(h:Bf v l (t::A))(hA:Cl v (t::A))(vt:VT v ⟨t.exps,d⟩):Bf v (l++[⟨t.exps,d⟩]) A:=by
 refine⟨⟨fun q hq=>?_,?_⟩,fun q hq x hx=>?_⟩
 ·rcases List.mem_append.1 hq with h1|h1
  ·exact h.cl.t q h1
  grind
 ·rw[List.pairwise_append];refine⟨h.cl.s,List.pairwise_singleton _ _,fun q hq x hx=>?_⟩;rw[List.mem_singleton.1 hx];exact h.lt q hq t σ
 ·rcases List.mem_append.1 hq with h1|h1
  ·exact h.lt q h1 x γ
  ·rw[List.mem_singleton.1 h1];exact(List.pairwise_cons.1 hA.s).1 x hx
theorem Cl.dropN{v:Int}:∀ {l:List Rt} (i:Nat),Cl v l->Cl v (l.drop i)
 |l,0,h=>h
 |[],_+1,h=>h
 |_::l,i+1,h=>Cl.dropN i h.tail
theorem Gn{v v':Int}{t:Rt}{d:Rd}{c:AV}(h:Bf v l (t::A))(vt:VT v ⟨t.exps,d⟩)(hl:l.length<=1000000)(hc:n9 c l):
  ∃c1,R fc0 [ac 1000,.sl 1 (aV t.exps),af d] [t3 v' c 0]=some (.tup [],[t3 v' c1 0])/\n9 c1 (l++[⟨t.exps,d⟩]):=by
 obtain⟨c1,l1,e1,g1,g2,g3⟩:=Ti (v':=v') h.cl vt hl hc;have he:lD l ⟨t.exps,d⟩=some (l++[⟨t.exps,d⟩]):=YT fun q hq=>h.lt q hq t σ;grind
def EL(o:Int)(t:Rt):Bool:=decide (bm t.exps<=o)
def CJ(o:Int)(t:Rt):Bool:=!decide (bm t.exps<=o)
def fm(a:Rp)(o:Int):Rp×Rp:=if vp a=true then(⟨a.vars,a.terms.filter (EL o)⟩,⟨a.vars,a.terms.filter (CJ o)⟩)else(p0,p0)
def Gp(blk:Option (Ex×St))(i1 i2:Nat)(S:ap)(v':Int)(l1 l2 r1 r2:List Rt):Prop:=
 ∃hh c1 c2,blk=some (.normal,⟨S,hh⟩)/\hh 4=.bx [I 0,.emp]/\hh 5=.bx [I 0,.emp]/\hh i1=t3 v' c1 0/\hh i2=t3 v' c2 0/\n9 c1 (l1++r1)/\n9 c2 (l2++r2)
theorem Gp.p1{blk:Option (Ex×St)}{i1 i2:Nat}{S:ap}{l1 l2 r1 r2:List Rt}{t:Rt}(h:Gp blk i1 i2 S v' (l1++[t]) l2 r1 r2):Gp blk i1 i2 S v' l1 l2 (t::r1) r2:=by
 obtain⟨hh,c1,c2,h1,h2,h3,h4,h5,h6,h7⟩:=h;exact⟨hh,c1,c2,h1,h2,h3,h4,h5,by rwa[List.append_cons],h7⟩
theorem Gp.p2{blk:Option (Ex×St)}{i1 i2:Nat}{S:ap}{l1 l2 r1 r2:List Rt}{t:Rt}(h:Gp blk i1 i2 S v' l1 (l2++[t]) r1 r2):Gp blk i1 i2 S v' l1 l2 r1 (t::r2):=by
 obtain⟨hh,c1,c2,h1,h2,h3,h4,h5,h6,h7⟩:=h;exact⟨hh,c1,c2,h1,h2,h3,h4,h5,h6,by rwa[List.append_cons]⟩
theorem ak6{v v' o:Int}(hA:Cl v A)(hn:A.length<=100000){o2:Ob}(k2c:∀ids,aF ids o2=true):
  ∀ (k i:Nat),i+k=A.length->∀ (c1 c2:AV) (l1 l2:List Rt),n9 c1 l1->n9 c2 l2->Bf v l1 (A.drop i)->Bf v l2 (A.drop i)->l1.length+k<=1000000->l2.length+k<=1000000->∀ (s:ap) (h:ae),s 1=I o->s 4=ac 4->s 5=ac 5->s 6=ac 2136->s 7=ac 2160->s 22=.sl 4 (aL A)->s 23=I A.length->s 24=I i->h 2=o2->h 4=.bx [I 0,.emp]->h 5=.bx [I 0,.emp]->h 2136=t3 v' c1 0->h 2160=t3 v' c2 0->
  Gp (ak 0 [4,5,6,7] (av (am R (az false) nc) [1,4,5,6,7,22,23,24] [2,4,5,2136,2160] s h)) 2136 2160 (upd (upd (upd (upd bk 7 (ac 2160)) 6 (ac 2136)) 5 (ac 5)) 4 (ac 4)) v' l1 l2 ((A.drop i).filter (EL o)) ((A.drop i).filter (CJ o)):=by
 intro k;induction k with
 |zero=>
  intro i hi c1 c2 l1 l2 hc1 hc2 _ _ _ _ s h g1 g4 g5 g6 g7 g22 g23 g24 k2 k4 k5 k2136 k2160;have e1:((i:Int)< (A.length:Int))=False:=ff;have ho1:=(mD (v:=v') (e:=0) hc1).cl [2,4,5,2136,2160];have ho2:=(mD (v:=v') (e:=0) hc2).cl [2,4,5,2136,2160];have ho3:=k2c [2,4,5,2136,2160];rw[aC3 ω,ah];refine⟨?hh0,c1,c2,?_,?_,?_,?_,?_,by grind,by grind⟩;rotate_left
  ·simp only[nc,go_sem,g1,g4,g5,g6,g7,g22,g23,g24,k2,k4,k5,k2136,k2160,ho1,ho2,ho3,e1];rfl
  ·rfl
  ·rfl
  ·rfl
  ·rfl
 |succ k ih=>
  intro i hi c1 c2 l1 l2 hc1 hc2 b1 b2 hl1 hl2 s h g1 g4 g5 g6 g7 g22 g23 g24 k2 k4 k5 k2136 k2160;have hlt:i<A.length:=ω
  have e1:((i:Int)< (A.length:Int))=True:=tt;have e2:aZ (aL A) (i:Int)=some (.ipt (ce A[i])):=iY rfl (List.getElem?_eq_getElem hlt);have e5:aG ((i:Int)+1)=((i+1:Nat):Int):=wi;have ho1:=(mD (v:=v') (e:=0) hc1).cl [2,4,5,2136,2160];have ho2:=(mD (v:=v') (e:=0) hc2).cl [2,4,5,2136,2160];have ho3:=k2c [2,4,5,2136,2160];have hAd:=hA.dropN i;rw[aC4 hlt]at b1 b2 hAd⊢;have ih':=ih (i+1) ω;have vt:=hAd.head;generalize A[i]=t at e2 vt b1 b2 hAd⊢;have hdeg:=Bh vt.sm;rw[ah];generalize av _ _ _=L at ih'⊢;simp only[ce]at e2;by_cases hd:bm t.exps<=o
  ·have e3:(bm t.exps<=o)=True:=eq_true hd;have f1:(EL o t)=true:=decide_eq_true hd;have f2:¬ (CJ o t)=true:=by simp_all[CJ,decide_eq_true,aCR]
   rw[List.filter_cons_of_pos f1,List.filter_cons_of_neg f2];obtain⟨c3,s1,s2⟩:=Gn (v':=v') b1 vt ω hc1;have hcall:=fun(h:ae) (hh:h 2136=t3 v' c1 0) (d:Nat)=>dX (aW.1.2.1 false) rfl (rK (d:=d) hh hc1 s2 s1);have ih2:=ih' c3 c2 _ l2 s2 hc2 (b1.push hAd vt) b2.drop γ ω;refine Gp.p1 ?_;simp only[af,ai]at hcall;simp only[nc,go_sem,g1,g4,g5,g6,g7,g22,g23,g24,k2,k4,k5,k2136,k2160,ho1,ho2,ho3,e1,e2,hdeg,e3];rw[hcall _ rfl];simp only[go_sem,e5];refine ih2 _ _ ?_ ?_ ?_ ?_ ?_ ?_ ?_ ?_ ?_ ?_ ?_ ?_ ?_
   all_goals first|rfl|assumption
  ·have e3:(bm t.exps<=o)=False:=eq_false hd;have f1:¬ (EL o t)=true:=by simp_all[EL,decide_eq_false,aCR]
   have f2:(CJ o t)=true:=by grind[CJ,decide_eq_false]
   rw[List.filter_cons_of_neg f1,List.filter_cons_of_pos f2];obtain⟨c3,s1,s2⟩:=Gn (v':=v') b2 vt ω hc2;have hcall:=fun(h:ae) (hh:h 2160=t3 v' c2 0) (d:Nat)=>dX (aW.1.2.1 false) rfl (rK (d:=d) hh hc2 s2 s1);have ih2:=ih' c1 c3 l1 _ hc1 s2 b1.drop (b2.push hAd vt) ω γ;refine Gp.p2 ?_;simp only[af,ai]at hcall;simp only[nc,go_sem,g1,g4,g5,g6,g7,g22,g23,g24,k2,k4,k5,k2136,k2160,ho1,ho2,ho3,e1,e2,hdeg,e3];rw[hcall _ rfl];simp only[go_sem,e5];refine ih2 _ _ ?_ ?_ ?_ ?_ ?_ ?_ ?_ ?_ ?_ ?_ ?_ ?_ ?_
   all_goals first|rfl|assumption
theorem atK{v:Int}(hA:Cl v A)(hn:A.length<=100000)(k2c:∀ids,aF ids o2=true)(s:ap)(h:ae)(X:Option (Ex×St))(hX:ak 0 [4,5,6,7] (av (am R (az false) nc) [1,4,5,6,7,22,23,24] [2,4,5,2136,2160] s h)=X)
  (g1:s 1=I o) (g4:s 4=ac 4) (g5:s 5=ac 5) (g6:s 6=ac 2136) (g7:s 7=ac 2160) (g22:s 22=.sl 4 (aL A)) (g23:s 23=I A.length) (g24:s 24=I 0) (k2:h 2=o2) (k4:h 4=.bx [I 0,.emp]) (k5:h 5=.bx [I 0,.emp]) (k2136:h 2136=t3 v' .emp 0) (k2160:h 2160=t3 v' .emp 0):
  Gp X 2136 2160 (upd (upd (upd (upd bk 7 (ac 2160)) 6 (ac 2136)) 5 (ac 5)) 4 (ac 4)) v' [] [] (A.filter (EL o)) (A.filter (CJ o)):=by
 subst hX;exact ak6 hA hn k2c A.length 0 (aCI _) .emp .emp [] [] (.inr ⟨rfl,rfl⟩) (.inr ⟨rfl,rfl⟩) (Bf.nil _) (Bf.nil _) γ γ s h g1 g4 g5 g6 g7 g22 g23 g24 k2 k4 k5 k2136 k2160
def ak7(id:Nat)(s:ap)(h:ae):Ob->Option (ap×ae×K)
 | .bx cs=>some (lQ [(id,true)] s,upd h id (.bx (cs.map nD)),[(id,true)])
 |_=>none
theorem xO(i id x y z:Nat)(s:ap)(h:ae):R1 i s h (.ref id none x y z)=ak7 id s h (h id):=by
 grind[R1,ak7]
theorem Bq(id:Nat)(s:ap)(h:ae)(cs:List AV):ak7 id s h (.bx cs)=some (lQ [(id,true)] s,upd h id (.bx (cs.map nD)),[(id,true)]):=rfl
def ppV(r:Rp×Rp):AV:=.tup [bc r.1,bc r.2]
theorem ah6{a:Rp}(oa:OkP a):R fcV [bc a,I o] []=some (ppV (fm a o),[]):=by
 refine au XV rfl ?_;have v1:=xL oa;simp only[bc]at v1;unfold fm;cases va:vp a with
 |false=>
  rw[va]at v1;simp only[Aj,FP,bc,go_sem,v1];rfl
 |true=>
  rw[va]at v1;obtain⟨ka,a0,a8,al⟩:=gU oa va;have hemp:=Di (v:=a.vars);have hl:=atK (v:=a.vars) (v':=a.vars) (o:=o) ka ω (o2:=.bx [I a.vars,.sl 4 (aL a.terms)]) (fun _=>rfl);simp only[Aj,FP,bc,go_sem,v1,hemp,rL];generalize hX:ak 0 _ _=X;have hM:=hl _ _ _ hX rfl rfl rfl rfl rfl rfl rfl rfl rfl rfl rfl rfl rfl;obtain⟨hh,c1,c2,rfl,q4,q5,q1,q2,i1,i2⟩:=hM;generalize a.terms.filter (EL o)=r1 at i1⊢;generalize a.terms.filter (CJ o)=r2 at i2⊢;rcases i1 with rfl| ⟨rfl,rfl⟩
  ·rcases i2 with rfl| ⟨rfl,rfl⟩
   ·simp only[t3]at q1 q2;simp only[ppV,bc,go_sem,aDi,aDo,q4,q5,q1,q2,xO,Bq,aDc,aDh,zY,xN]
   ·simp only[t3]at q1 q2;simp only[ppV,bc,go_sem,aDi,aDo,q4,q5,q1,q2,xO,Bq,aDc,aDh,zY,xN,Dj];rfl
  ·rcases i2 with rfl| ⟨rfl,rfl⟩
   ·simp only[t3]at q1 q2;simp only[ppV,bc,go_sem,aDi,aDo,q4,q5,q1,q2,xO,Bq,aDc,aDh,zY,xN,Dj];rfl
   ·simp only[t3]at q1 q2;simp only[ppV,bc,go_sem,aDi,aDo,q4,q5,q1,q2,xO,Bq,aDc,aDh,zY,Dj];rfl
def bQ(ds:List Int)(cs:List Ri)(p:Int):Ob:=.bx [.osl 1 (aV ds),.osl 7 (bS cs),I p]
def PE:List Int->Int->Int
 |[],n=>n
 |d::l,n=>PE l (n*(d+1))
theorem tQ(a b:AV)(k:Nat)(r:List (List AV)):lR 0 (.bx [.osl k r,a,b])=some (k,r):=rfl
theorem Br(h:ae)(n:Nat)(g:Bool)(i j:Nat)(r:List (List AV)):qX h n g 1 i j (some (1,r))=(r[i]?).bind fun row=>(mr n g row j).map fun a=>(a,h,[]):=rfl
theorem ak8{cs:List Ri}{p:Int}(hm:m<=ds.length)(h8:m<=1000)(hb:∀d∈ds,0<=d/\d<=32):
  ∀ (k i:Nat),i+k=m->∀ (n:Int),0<=n->n*33^k<=10000000000000->∀ (s:ap) (h:ae),s 5=I n->s 13=.rsl 1000 (some 0) 1 0 m->s 14=I m->s 15=I i->h 1000=bQ ds cs p->
  ∃hh,ak 0 [5] (av (am R (az true) kF) [5,13,14,15] [1000] s h)=some (.normal,⟨upd bk 5 (I (PE ((ds.take m).drop i) n)),hh⟩)/\hh 1000=bQ ds cs p:=by
 intro k;induction k with
 |zero=>
  intro i hi n h0 hn s h g5 g13 g14 g15 k1000;have e1:((i:Int)< (m:Int))=False:=ff;rw[aC3 γ,ah];refine⟨?hh0,?_,?_⟩;rotate_left
  ·simp only[kF,bQ,go_sem,g5,g13,g14,g15,k1000,e1];rfl
  ·rfl
 |succ k ih=>
  intro i hi n h0 hn s h g5 g13 g14 g15 k1000;have hlt2:i< (ds.take m).length:=γ
  have e1:((i:Int)< (m:Int))=True:=tt;have e2:(aV ds)[i]?=some [I (ds.take m)[i]]:=by
   unfold aV;rw[List.getElem?_map,List.getElem_take,List.getElem?_eq_getElem ω];rfl
  have e5:aG ((i:Int)+1)=((i+1:Nat):Int):=wi;rw[aC4 hlt2];have hd:=hb (ds.take m)[i] (List.mem_of_mem_take (aC0 hlt2));generalize(ds.take m)[i]=d at e2 hd⊢;have e6:(0<=(i:Int))=True:=tt;have e3:aG (d+1)=d+1:=i64_in _ ⟨by omega,by omega⟩;have hn2:n*(d+1)*33^k<=n*33^ (k+1):=by
   rw[Int.pow_succ,Int.mul_comm _ 33,←Int.mul_assoc];exact Int.mul_le_mul_of_nonneg_right (Int.mul_le_mul_of_nonneg_left ω h0) (Int.pow_nonneg δ)
  have hp1:(1:Int)<=33^k:=by
   have:=Int.pow_pos (n:=33) (m:=k) δ;omega
  have hn0:0<=n*(d+1):=Int.mul_nonneg h0 ω;have hn3:n*(d+1)<=10000000000000:=by
   have:=Int.mul_le_mul_of_nonneg_left hp1 hn0;omega
  have e4:aG (n*(d+1))=n*(d+1):=i64_in _ ⟨by omega,by omega⟩;have ih':=ih (i+1) ω (n*(d+1)) hn0 ω;rw[ah];simp only[bQ]at k1000;simp only[kF,go_sem,g5,g13,g14,g15,k1000,e1,e2,e3,e4,e5,e6,aCQ,aCI,tQ,Br];exact ih' _ _ rfl rfl rfl rfl rfl
theorem atL(hm:m<=ds.length)(h8:m<=8)(hb:∀d∈ds,0<=d/\d<=32)(s:ap)(h:ae)(X:Option (Ex×St))(hX:ak 0 [5] (av (am R (az true) kF) [5,13,14,15] [1000] s h)=X)(g5:s 5=I 1)(g13:s 13=.rsl 1000 (some 0) 1 0 m)(g14:s 14=I m)(g15:s 15=I 0)(k1000:h 1000=bQ ds cs p):
  ∃hh,X=some (.normal,⟨upd bk 5 (I (PE (ds.take m) 1)),hh⟩)/\hh 1000=bQ ds cs p:=by
 subst hX;exact ak8 hm ω hb m 0 (aCI _) 1 δ (by
  have:(33:Int)^m<=33^8:=by
   have h1:33^m<=33^8:=aDn δ h8;grind
  omega) s h g5 g13 g14 g15 k1000
theorem Dl(ds:List Int):(aV ds).length=ds.length:=by simp[aV]
theorem an1(hm:m<=ds.length)(h8:m<=8)(hb:∀d∈ds,0<=d/\d<=32):R faD [ac 1000,I m] [bQ ds cs p]=some (I (PE (ds.take m) 1),[bQ ds cs p]):=by
 refine zZ Nz Ny (Ce false) rfl ?_;have hl:=atL (ds:=ds) (cs:=cs) (p:=p) hm h8 hb;have e1:fA 1 (.rsl 1000 (some 0) 1 0 ds.length) none (some (I (m:Int))) none=some (.rsl 1000 (some 0) 1 0 m):=by
  grind[fA,lP,lG]
 simp only[xf,EI,go_sem,bQ,Dl,e1];generalize hX:ak 0 [5] _=X;obtain⟨hh,rfl,q⟩:=hl _ _ _ hX rfl rfl rfl rfl rfl;exact gB rfl q rfl (by rfl) (by rfl)
def Hf(c1 c2:jt):Prop:=∀f a hs r,c1 f a hs=some r->c2 f a hs=some r
section
variable {c1 c2:jt} {md:Mode}
theorem abg(hc:Hf c1 c2){f:AV}{r:R3}(hz:eM c1 md h d zas f=some r):eM c2 md h d zas f=some r:=by
 cases f<;>simp only[eM]at hz⊢ <;>try (cases hz;done)
 simp only[aCH]at hz⊢;obtain⟨p,e1,e2⟩:=hz;unfold kt at e2⊢;split at e2
 ·rename_i hcc;simp only[aCH]at e2;obtain⟨q,e3,e4⟩:=e2;refine⟨p,e1,?_⟩;rw[if_pos hcc];simp only[aCH];exact⟨q,hc _ _ _ _ e3,e4⟩
 ·cases e2
theorem Rq(hc:Hf c1 c2){f:AV}{r:R3}(hz:bF c1 md h d zas f=some r):bF c2 md h d zas f=some r:=by
 unfold bF at hz⊢;split at hz
 ·rename_i hb;rw[if_pos hb];cases f<;>simp only[PV]at hz⊢ <;>try (cases hz;done)
  simp only[aCH]at hz⊢;obtain⟨p,e1,q,e3,e4⟩:=hz;exact⟨p,e1,q,hc _ _ _ _ e3,e4⟩
 ·rename_i hb;rw[if_neg hb];exact abg hc hz
theorem UU(hc:Hf c1 c2){op:AOp}{s:ap}{r:R3}(hz:step c1 md d op s h=some r):step c2 md d op s h=some r:=by
 cases op with
 |call f zas=>exact Rq hc hz
 |callC f zas=>
  simp only[step,aCH]at hz⊢;obtain⟨q,e1,e2⟩:=hz;exact⟨q,Rq hc e1,e2⟩
 |_=>exact hz
theorem UV(hc:Hf c1 c2){d:Option Nat}{op:AOp}{s:ap}{t:St}(hz:dY md.nm s d (step c1 md (d.getD 0) op s h)=some t):dY md.nm s d (step c2 md (d.getD 0) op s h)=some t:=by
 cases hs:step c1 md (d.getD 0) op s h with
 |none=>rw[hs]at hz;cases hz
 |some r=>
  rw[hs]at hz;rw[UU hc hs];exact hz
theorem afh(hc:Hf c1 c2){o:COp}{s:ap}{t:St}(hz:oC c1 md o s h=some t):oC c2 md o s h=some t:=by
 unfold oC at hz⊢;cases hg:o.g with
 |none=>rw[hg]at hz;exact UV hc hz
 |some g=>
  rw[hg]at hz;simp only at hz⊢;unfold mV at hz⊢;split at hz
  ·split at hz
   ·rename_i hb;simp only[if_pos hb];exact UV hc hz
   ·rename_i hb;simp only[if_neg hb];exact hz
  ·exact hz
  ·cases hz
theorem Gq(hc:Hf c1 c2):∀ {l:List COp} {s:ap} {h:ae} {t:St},aM c1 md l s h=some t->aM c2 md l s h=some t
 |[],s,h,t,hz=>hz
 |o::l,s,h,t,hz=>by
  simp only[aM,bv]at hz;split at hz
  ·cases hz
  ·rename_i t1 ht1;simp only[aM,bv,afh hc ht1,Gq hc hz]
theorem Ru(hc:Hf c1 c2){d:Option Nat}{op:AOp}{s:ap}{f:ae->Fp}{t:St×Fp}(hz:qB s d f (step c1 md (d.getD 0) op s h)=some t):qB s d f (step c2 md (d.getD 0) op s h)=some t:=by
 cases hs:step c1 md (d.getD 0) op s h with
 |none=>rw[hs]at hz;cases hz
 |some r=>
  rw[hs]at hz;rw[UU hc hs];exact hz
theorem afi(hc:Hf c1 c2){o:COp}{s:ap}{t:St×Fp}(hz:fJ c1 md o s h=some t):fJ c2 md o s h=some t:=by
 unfold fJ at hz⊢;cases hg:o.g with
 |none=>rw[hg]at hz;exact Ru hc hz
 |some g=>
  rw[hg]at hz;simp only at hz⊢;unfold ue at hz⊢;split at hz
  ·split at hz
   ·rename_i hb;simp only[if_pos hb];exact Ru hc hz
   ·rename_i hb;simp only[if_neg hb];exact hz
  ·exact hz
  ·cases hz
theorem L8(hc:Hf c1 c2):∀ {l:List COp} {s:ap} {h:ae} {t:St×List Fp},jI c1 md l s h=some t->jI c2 md l s h=some t
 |[],s,h,t,hz=>hz
 |o::l,s,h,t,hz=>by
  simp only[jI,aCH]at hz;obtain⟨r,e1,q,e2,e3⟩:=hz;simp only[jI,afi hc e1,L8 hc e2,aCN,e3]
theorem afj(hc:Hf c1 c2){l:List COp}{ps:List (Nat×Nat)}{s:ap}{t:St}(hz:ug c1 md l ps s h=some t):ug c2 md l ps s h=some t:=by
 unfold ug at hz⊢;cases hb:Dx ps with
 |none=>
  rw[hb]at hz;simp only[DJ,aCH]at hz;obtain⟨q,e1,e2⟩:=hz;simp only[DJ,L8 hc e1,aCN,e2]
 |some b=>
  rw[hb]at hz;simp only[IU,aCH]at hz;obtain⟨q,e1,e2⟩:=hz;split at e2
  ·rename_i hps;simp only[bv]at e2;split at e2
   ·cases e2
   ·rename_i t1 ht1;simp only[IU,L8 hc e1,aCN,if_pos hps,ht1,bv,Gq hc e2]
  ·cases e2
theorem L9{b1 b2:ap->ae->Option (Ex×St)}{ks hs:List Nat}(ih:∀ {s:ap} {h:ae} {r:Ex×St},b1 s h=some r->b2 s h=some r):
  ∀ (m:Nat) {j:Nat},m<=j->∀ {s:ap} {h:ae} {r:Ex×St},wj b1 ks hs m s h=some r->wj b2 ks hs j s h=some r
 |0,j,hj,s,h,r,hz=>by simp[wj]at hz
 |m+1,j,hj,s,h,r,hz=>by
  obtain⟨j,rfl⟩:∃j',j=j'+1:=⟨j-1,by omega⟩;simp only[wj]at hz⊢;split at hz
  ·rename_i hc;rw[if_pos hc];cases hb:b1 (mk .any (fun i=>iQ hs (s i)) ks) (mk .dead h hs)with
   |none=>rw[hb]at hz;cases hz
   |some q=>
    rw[hb]at hz;rw[ih hb];obtain⟨ex,t⟩:=q;cases ex with
    |normal=>exact L9 ih m ω hz
    |exit id=>exact hz
    |ret=>exact hz
  ·cases hz
theorem j8(hc:Hf c1 c2){lf lf':Nat}(hl:lf<=lf'):∀ (c:Cmd) {s:ap} {h:ae} {r:Ex×St},cU c1 md lf c s h=some r->cU c2 md lf' c s h=some r
 | .skip,s,h,r,hz=>hz
 | .ops ks l,s,h,r,hz=>by
  simp only[cU,bv]at hz;split at hz
  ·cases hz
  ·rename_i t1 ht1;simp only[cU,Gq hc ht1,bv];exact hz
 | .dops ks l ps,s,h,r,hz=>by
  simp only[cU,bv]at hz;split at hz
  ·cases hz
  ·rename_i t1 ht1;simp only[cU,afj hc ht1,bv];exact hz
 | .seq a b,s,h,r,hz=>by
  simp only[cU,cF]at hz;split at hz
  ·cases hz
  ·rename_i t1 ht1;simp only[cU,cF,j8 hc hl a ht1,j8 hc hl b hz]
  ·rename_i i t1 ht1;simp only[cU,cF,j8 hc hl a ht1];exact hz
  ·rename_i t1 ht1;simp only[cU,cF,j8 hc hl a ht1];exact hz
 | .cond c a b,s,h,r,hz=>by
  simp only[cU,ui]at hz;split at hz
  ·rename_i t ht;cases t with
   |true=>simp only[cU,ui,ht,if_true];exact j8 hc hl a hz
   |false=>simp only[cU,ui,ht,aDy,if_false];exact j8 hc hl b hz
  ·cases hz
 | .block id ks a,s,h,r,hz=>by
  simp only[cU,ak]at hz;split at hz
  ·cases hz
  ·rename_i t1 ht1;simp only[cU,ak,j8 hc hl a ht1];exact hz
  ·rename_i i t1 ht1;simp only[cU,ak,j8 hc hl a ht1];exact hz
  ·rename_i t1 ht1;simp only[cU,ak,j8 hc hl a ht1];exact hz
 | .loop ks hs a,s,h,r,hz=>by
  simp only[cU]at hz⊢;exact L9 (fun hh=>j8 hc hl a hh) lf hl hz
 | .exit id,s,h,r,hz=>hz
 | .ret,s,h,r,hz=>hz
 | .frz is a,s,h,r,hz=>by
  simp only[cU,bv]at hz;split at hz
  ·cases hz
  ·rename_i t1 ht1;simp only[cU,bv,ht1];exact j8 hc hl a hz
end
theorem UW(e:Env):∀ (n:Nat),Hf (gj e n) (gj e (n+1))
 |0,f,a,hs,r,hz=>by cases hz
 |n+1,f,a,hs,r,hz=>by
  cases hE:e.E f with
  |some g=>
   simp only[gj,hE]at hz⊢;exact hz
  |none=>
   cases hC:e.C f with
   |none=>
    simp only[gj,hE,hC,Option.bind_none]at hz;cases hz
   |some fd=>
    have h1:CM (gj e n) {e.md with nm:=e.md.keep f} n fd a hs=some r:=by
     simpa only[gj,hE,hC,aCN]using hz
    have h2:CM (gj e (n+1)) {e.md with nm:=e.md.keep f} (n+1) fd a hs=some r:=by
     unfold CM at h1⊢;split at h1
     ·rename_i hcc;rw[if_pos hcc];cases hx:cU (gj e n) {e.md with nm:=e.md.keep f} n fd.body (wk a) (ax hs)with
      |none=>rw[hx]at h1;cases h1
      |some q=>
       rw[hx]at h1;rw[j8 (UW e n) (Nat.le_succ n) fd.body hx];exact h1
     ·cases h1
    show gj e (n+1+1) f a hs=some r;show(match e.E f with
     |some g=>g a hs
     |none=>(e.C f).bind fun fd=>CM (gj e (n+1)) {e.md with nm:=e.md.keep f} (n+1) fd a hs)=some r
    rw[hE];show(e.C f).bind (fun fd=>CM (gj e (n+1)) {e.md with nm:=e.md.keep f} (n+1) fd a hs)=some r;rw[hC];exact h2
theorem an2(e:Env){k:Nat}(h:n<=k):Hf (gj e n) (gj e k):=by
 induction h with
 |refl=>exact fun f a hs r hz=>hz
 |step _ ih=>exact fun f a hs r hz=>UW e _ f a hs r (ih f a hs r hz)
theorem acG{e:Env}{f:FuncId}{a:List AV}{hs:List Ob}{r:AV×List Ob}(h:gj e n f a hs=some r):iw e f a hs=some r:=by
 unfold iw;rw[pM];exact⟨n,fun k hk=>an2 e hk f a hs r h⟩
theorem aq0:Option.any bE (some AV.emp)=false:=rfl
def kL(v:Nat):List Int:=aCG v 0
theorem aq1{id2 k:Nat}{rows:List (List AV)}{a:AV}(h1:h id2=.ar k rows)(hn:n=rows.length)(h2:h id=.bx [.any,.any,.any])(hne:id≠id2):
  Ol id 0 [.rsl id2 none k 0 n,.emp,I z] (a,h,[])=some (a,upd (upd (upd (upd h id2 .dead) id (.bx [.osl k rows,.any,.any])) id (.bx [.osl k rows,.emp,.any])) id (.bx [.osl k rows,.emp,I z]),[(id2,false)]):=by
 have h3:upd h id2 .dead id=.bx [.any,.any,.any]:=by
  simp_all[upd,if_neg]
 have e1:∀ (g:ae) o,upd g id o id=o:=fun g o=>by simp_all[upd,if_pos]
 have k1:∀K,wt K .emp=.emp:=fun K=>rfl;have k2:∀K,wt K (I z)=I z:=fun K=>rfl
 simp_all[bE,aJ,I,Ol,uO,J9,TV,Oj,EN]
def E4:List Int->Int->Option Int
 |[],n=>some n
 |d::l,n=>if 400<n*(d+1)then none else E4 l (n*(d+1))
def Gr2(blk:Option (Ex×St))(o2 g:Ob):Option Int->Prop
 |some n=>∃hh,blk=some (.normal,⟨upd (upd (upd bk 11 (I n)) 6 (ac 24)) 2 (ac 2),hh⟩)/\hh 2=o2/\hh 24=g/\(∀a,a≠2->a≠24->hh a=.dead)
 |none=>∃hh,blk=some (.ret,⟨upd (upd bk 5 (B false)) 4 (.v (.pointer none)),hh⟩)
theorem ak9{p:Int}(hm:m=ds.length)(h8:m<=1000)(hb:∀d∈ds,0<=d/\d<=32){o2:Ob}(c2:∀l,aF l o2=true):
  ∀ (k i:Nat),i+k=m->∀ (n:Int),0<=n->n<=400->∀ (s:ap) (h:ae),s 2=ac 2->s 6=ac 24->s 11=I n->s 60=.rsl 24 (some 0) 1 0 m->s 61=I m->s 62=I i->h 2=o2->h 21=.dead->h 24=.bx [.osl 1 (aV ds),.emp,I p]->h 2624=.dead->
  Gr2 (ak 4 [2,6,11] (av (am R (az false) jn) [2,6,11,60,61,62] [2,21,24,2624] s h)) o2 (.bx [.osl 1 (aV ds),.emp,I p]) (E4 (ds.drop i) n):=by
 intro k;induction k with
 |zero=>
  intro i hi n h0 hn s h g2 g6 g11 g60 g61 g62 k2 k21 k24 k2624;have e1:((i:Int)< (m:Int))=False:=ff;have hc:=c2 [2,21,24,2624];rw[aC3 ω,ah];refine⟨?hh0,?_,?_,?_,?_⟩;rotate_left
  ·simp only[jn,go_sem,g2,g6,g11,g60,g61,g62,k2,k21,k24,k2624,hc,e1];rfl
  all_goals simp_all[cB,if_false,ite_self]
 |succ k ih=>
  intro i hi n h0 hn s h g2 g6 g11 g60 g61 g62 k2 k21 k24 k2624;have hlt:i<ds.length:=ω
  have e1:((i:Int)< (m:Int))=True:=tt;have e2:(aV ds)[i]?=some [I ds[i]]:=by
   grind[aV]
  have e5:aG ((i:Int)+1)=((i+1:Nat):Int):=wi;have hc:=c2 [2,21,24,2624];rw[aC4 hlt];have hd:=hb ds[i] (aC0 hlt);generalize ds[i]=d at e2 hd⊢;have e6:(0<=(i:Int))=True:=tt;have e3:aG (d+1)=d+1:=i64_in _ ⟨by omega,by omega⟩;have hn0:0<=n*(d+1):=Int.mul_nonneg h0 ω;have hn3:n*(d+1)<=400*33:=Int.mul_le_mul hn ω ω δ;have e4:aG (n*(d+1))=n*(d+1):=i64_in _ ⟨by omega,by omega⟩;have ih':=ih (i+1) ω (n*(d+1)) hn0;have hrow:E4 (d::ds.drop (i+1)) n=if 400<n*(d+1)then none else E4 (ds.drop (i+1)) (n*(d+1)):=rfl
  rw[hrow,ah];by_cases hq:400<n*(d+1)
  ·have e7:(400<n*(d+1))=True:=eq_true hq;rw[if_pos hq];refine⟨?hh1,?_⟩;rotate_left
   ·simp only[jn,go_sem,g2,g6,g11,g60,g61,g62,k2,k21,k24,k2624,hc,e1,e2,e3,e4,e6,e7,aCQ,aCI,tQ,Br];rfl
  ·have e7:(400<n*(d+1))=False:=eq_false hq;simp only[jn,go_sem,g2,g6,g11,g60,g61,g62,k2,k21,k24,k2624,hc,e1,e2,e3,e4,e5,e6,e7,aCQ,aCI,tQ,Br];refine ih' ω _ _ ?_ ?_ ?_ ?_ ?_ ?_ ?_ ?_ ?_ ?_
   all_goals first|rfl|assumption
theorem atM(hm:m=ds.length)(h8:m<=1000)(hb:∀d∈ds,0<=d/\d<=32)(c2:∀l,aF l o2=true)(s:ap)(h:ae)(X:Option (Ex×St))(hX:ak 4 [2,6,11] (av (am R (az false) jn) [2,6,11,60,61,62] [2,21,24,2624] s h)=X)(g2:s 2=ac 2)(g6:s 6=ac 24)(g11:s 11=I 1)(g60:s 60=.rsl 24 (some 0) 1 0 m)(g61:s 61=I m)(g62:s 62=I 0)(k2:h 2=o2)(k21:h 21=.dead)(k24:h 24=.bx [.osl 1 (aV ds),.emp,I p])(k2624:h 2624=.dead):
  Gr2 X o2 (.bx [.osl 1 (aV ds),.emp,I p]) (E4 ds 1):=by
 subst hX;exact ak9 hm h8 hb c2 m 0 (aCI _) 1 δ δ s h g2 g6 g11 g60 g61 g62 k2 k21 k24 k2624
theorem Zh(v:Nat):aCG v [I 0]=aV (kL v):=by
 grind[aV,kL,List.map_replicate]
theorem amo{v:Nat}:∀d∈kL v,0<=d/\d<=32:=fun d hd=>by
 rw[List.eq_of_mem_replicate hd];decide
theorem an3(h:ae)(i:Nat)(xs:List AV)(a b:AV)(r:List (List AV)):GE h 1 24 0 1 i 0 xs [] (.bx [.osl 1 r,a,b])=(tZ 1 1 i 0 xs 1 r).map fun q=>(.und,upd h 24 (.bx [.osl 1 q,a,b]),[]):=rfl
theorem Ma{f:FuncId}{as':List AV}{o o':Ob}{res:AV}(hm:(az false).m f=[])(hk:(az false).keep f=true)(hn:bA ((az false).sh f) (ac id::zas)=ac id::as')(hd:zas.all dat=true)(hd':as'.all dat=true)
  (hh:h id=o) (ho:OC o) (ho':OC o') (hb:bf o=true->bf o'=true) (hR:R f (ac 1000::as') [o]=some (res,[o'])) (hr:RT res) (h8:cJ res<=8) (hfr:cr h (2000+8*d) (cJ res)=true):
  bF R (az false) h d (ac id::zas) (.fn f [] [])=some (res,upd h id o',[]):=by
 have h1:cu h [] (ac id::zas)=some (ac id::zas,h,[]):=by
  simp only[cu,ef,aCN,List.tail_nil,MY h hd,aCY]
 have hp:bN [] ((ac id::zas).flatMap cH)=[id]:=by
  rw[List.flatMap_cons,Dh fun x hx=>IC (List.all_eq_true.1 hd x hx)];rfl
 have hre:cp h 40 [id] 0=[id]:=by
  simp[cp,hh,ho.ids,bN]
 have h3:bu [id] id=1000:=by simp[bu]
 have hall:(ac id::as').all (bo [id])=true:=by
  grind[bo,bw,LS]
 have hmap:(ac id::as').map (eG (bu [id]))=ac 1000::as':=by
  rw[aDc,(aDk (g:=fun c=>c) fun x hx=>ID (List.all_eq_true.1 hd' x hx) _).trans (aDu as')];grind[eG,lu]
 have hob:([id].map fun a=>eH (bu [id]) (h a))=[o]:=by simp[hh,ho.ren]
 have hids:([id].all fun a=>aF [id] (h a)&&!bU (h a))=true:=by simp[hh,ho.cl,ho.nd]
 unfold bF;rw[if_neg (by grind[lw])];simp only[eM,hm,aCT,aCY,h1,aCN,hp,hre,hn];unfold kt;rw[hall,hids,hmap,hob,hR,aDv,if_pos rfl,aCN,hk,hm,wh];unfold fE;have hbf:dh h [] [id] [o']=true:=by
  have:=ho'.nd;grind[bf,dh]
 have hend:oB h [id] [] (res,[o'])=true:=by
  simp[oB,CK,hr.ok,ho'.cl]
 rw[if_pos ⟨rfl,by simp,h8,hfr,hbf,hend⟩];simp[eY,gP,hr.mat,hr.ren,ho'.ren]
theorem cR(ds:List Int)(cs:List Ri)(p:Int):OC (bQ ds cs p):=⟨fun _=>rfl,rfl,fun _=>rfl,rfl⟩
theorem Mb(hm:m<=ds.length)(h8:m<=8)(hb:∀d∈ds,0<=d/\d<=32)(hh:h id=bQ ds cs p)(hd:h (2000+8*d)=.dead):
  bF R (az false) h d [ac id,I m] (.fn faD [] [])=some (I (PE (ds.take m) 1),upd h id (bQ ds cs p),[]):=
 Ma (n7 false) (Ce false) (as':=[I m]) (by simp only[go_sem]) rfl rfl hh (cR _ _ _) (cR _ _ _) (fun _=>rfl) (an1 hm h8 hb) (akJ _) (aDa rfl) (by grind[cr,cJ,bU])
theorem Bs(a b:AV)(k:Nat)(r:List (List AV)):lR 1 (.bx [a,.osl k r,b])=some (k,r):=rfl
theorem atN{f:FuncId}{fd:FD}{args:List AV}{r:AV×List Ob}(hE:cW.E f=none)(hC:cW.C f=some fd)(hk:cW.md.keep f=false)(h1:args.length=fd.np)(h2:os.length<=1000)
  (hz:kj false fd.rs fd.res os.length (am R (az false) fd.body (wk args) (ax os))=some r):R f args os=some r:=
 Qy false hE hC hk h1 h2 hz
theorem Zi(a b c d e:Ob):ax [a,b,c,d,e]=upd (upd (upd (upd (upd (fun _=>.dead) 1004 e) 1003 d) 1002 c) 1001 b) 1000 a:=by
 funext i;unfold ax upd;by_cases h0:i=1000
 ·simp_all
 by_cases h1:i=1001
 ·simp_all
 by_cases h2:i=1002
 ·simp_all
 by_cases h3:i=1003
 ·simp_all
 by_cases h4:i=1004
 ·simp_all
 simp only[h0,h1,h2,h3,h4,if_false];by_cases h5:1000<=i
 ·rw[if_pos h5,List.getElem?_eq_none (by simp;omega)];rfl
 grind
theorem Zj(a b c:Ob):ax [a,b,c]=upd (upd (upd (fun _=>.dead) 1002 c) 1001 b) 1000 a:=by
 funext i;unfold ax upd;by_cases h0:i=1000
 ·simp_all
 by_cases h1:i=1001
 ·simp_all
 by_cases h2:i=1002
 ·simp_all
 simp only[h0,h1,h2,if_false];by_cases h5:1000<=i
 ·rw[if_pos h5,List.getElem?_eq_none γ];rfl
 grind
def gV(x:Ri):Ob:=.bx [B x.lo.neg,lm x.lo.m,I x.lo.e,B x.hi.neg,lm x.hi.m,I x.hi.e,B x.all]
theorem iq(x:Ri):OC (gV x):=⟨fun _=>rfl,rfl,fun _=>rfl,rfl⟩
theorem afk{l st n:Int}{lo:Ri}(hR:R faF [I l,I st,ac 1000,ac 1001,ac 1002,ac 1003] [.bx [I n],.bx [ac 1004],gV lo,gV w,bQ ds cs p]=some (.tup [],[.bx [I n],.bx [ac 1004],gV lo,gV w,bQ ds cs' p]))(h0:h 1000=bQ ds cs p)(h1:h 1001=.bx [I n])(h2:h 1002=.bx [ac 1000])(h3:h 1003=gV lo)(h4:h 1004=gV w)(hf:h (2000+8*d)=.dead):
  bF R (az false) h d [I l,I st] (.fn faF [] [ac 1001,ac 1002,ac 1003,ac 1004])=some (.tup [],upd (upd (upd (upd (upd h 1001 (.bx [I n])) 1002 (.bx [ac 1000])) 1003 (gV lo)) 1004 (gV w)) 1000 (bQ ds cs' p),[(1001,true),(1002,true),(1003,true),(1004,true),(1000,true)]):=by
 have hre:cp h 40 [1001,1002,1003,1004] 0=[1001,1002,1003,1004,1000]:=by
  have i0:nE (bQ ds cs p)=[]:=(cR ds cs p).ids;have i1:nE (.bx [I n])=[]:=rfl;have i2:nE (.bx [ac 1000])=[1000]:=rfl;have i3:nE (gV lo)=[]:=(iq lo).ids;have i4:nE (gV w)=[]:=(iq w).ids
  simp_all[cp,bN]
 unfold bF;rw[if_neg (by simp[lw,fH.1.2.1])];have hin:cu h [] [I l,I st,ac 1001,ac 1002,ac 1003,ac 1004]=some ([I l,I st,ac 1001,ac 1002,ac 1003,ac 1004],h,[]):=rfl;have hids:bN [] ([I l,I st,ac 1001,ac 1002,ac 1003,ac 1004].flatMap cH)=[1001,1002,1003,1004]:=rfl;simp only[eM,fH.1.2.1,aCT,aDd,hin,aCN,hids,hre,fH.1.1];have hn:bA [] [I l,I st,ac 1001,ac 1002,ac 1003,ac 1004]=[I l,I st,ac 1001,ac 1002,ac 1003,ac 1004]:=rfl;rw[hn];unfold kt;have hob:([1001,1002,1003,1004,1000].map fun a=>eH (bu [1001,1002,1003,1004,1000]) (h a))=[.bx [I n],.bx [ac 1004],gV lo,gV w,bQ ds cs p]:=by
  simp only[List.map,h0,h1,h2,h3,h4];rfl
 have hcl:([1001,1002,1003,1004,1000].all fun a=>aF [1001,1002,1003,1004,1000] (h a)&&!bU (h a))=true:=by
  simp only[aDb,List.all_nil,h0,h1,h2,h3,h4];rfl
 rw[hob,hcl,if_pos (by rfl)];rw[show [I l,I st,ac 1001,ac 1002,ac 1003,ac 1004].map (eG (bu [1001,1002,1003,1004,1000]))=[I l,I st,ac 1000,ac 1001,ac 1002,ac 1003]from rfl,hR,aCN,fH.1.2.2.2,fH.1.2.1,wh];unfold fE;rw[if_pos ⟨rfl,aDa rfl,aDa rfl,by simp[cr,cJ],by grind[dh,gV,bQ,bf,bU],rfl⟩];rfl
theorem afl{l st n:Int}(hR:R faA [I l,I st,ac 1000,ac 1001] [.bx [I n],.bx [ac 1002],bQ ds cs p]=some (.tup [],[.bx [I n],.bx [ac 1002],bQ ds cs' p]))(h0:h 1000=bQ ds cs p)(h1:h 1001=.bx [I n])(h2:h 1002=.bx [ac 1000])(hf:h (2000+8*d)=.dead):
  bF R (az false) h d [I l,I st] (.fn faA [] [ac 1001,ac 1002])=some (.tup [],upd (upd (upd h 1001 (.bx [I n])) 1002 (.bx [ac 1000])) 1000 (bQ ds cs' p),[(1001,true),(1002,true),(1000,true)]):=by
 have hre:cp h 40 [1001,1002] 0=[1001,1002,1000]:=by
  have i0:nE (bQ ds cs p)=[]:=(cR ds cs p).ids;have i1:nE (.bx [I n])=[]:=rfl;have i2:nE (.bx [ac 1000])=[1000]:=rfl
  simp_all[cp,bN]
 unfold bF;rw[if_neg (by simp[lw,dC.1.2.1])];have hin:cu h [] [I l,I st,ac 1001,ac 1002]=some ([I l,I st,ac 1001,ac 1002],h,[]):=rfl;have hids:bN [] ([I l,I st,ac 1001,ac 1002].flatMap cH)=[1001,1002]:=rfl;simp only[eM,dC.1.2.1,aCT,aDd,hin,aCN,hids,hre,dC.1.1];have hn:bA [] [I l,I st,ac 1001,ac 1002]=[I l,I st,ac 1001,ac 1002]:=rfl;rw[hn];unfold kt;have hob:([1001,1002,1000].map fun a=>eH (bu [1001,1002,1000]) (h a))=[.bx [I n],.bx [ac 1002],bQ ds cs p]:=by
  simp only[List.map,h0,h1,h2];rfl
 have hcl:([1001,1002,1000].all fun a=>aF [1001,1002,1000] (h a)&&!bU (h a))=true:=by
  simp only[aDb,List.all_nil,h0,h1,h2];rfl
 rw[hob,hcl,if_pos (by rfl)];rw[show [I l,I st,ac 1001,ac 1002].map (eG (bu [1001,1002,1000]))=[I l,I st,ac 1000,ac 1001]from rfl,hR,aCN,dC.1.2.2.2,dC.1.2.1,wh];unfold fE;rw[if_pos ⟨rfl,aDa rfl,aDa rfl,by simp[cr,cJ],by grind[dh,bQ,bf,bU],rfl⟩];rfl
theorem Zk{f:FuncId}{as':List AV}{r:Option R3}(hm:(az false).m f=[])(hd:cu h [] zas=some (as',h,[]))(hc:bF R (az false) h d zas (.fn f [] [])=r):Jd R (az false) d f (as',h,[])=r:=by
 grind[Je]
theorem Rw{m:Int}{lo:Ri}(hR:R faB [ac 1000,I i,.fn faF [] [ac 1001,ac 1002,ac 1003,ac 1004]] [bQ ds cs p,.bx [I m],.bx [ac 1000],gV lo,gV w]=some (.tup [],[bQ ds cs' p,.bx [I m],.bx [ac 1000],gV lo,gV w]))(h0:h 1000=bQ ds cs p)(h1:h 8=.bx [I m])(h2:h 3=.bx [ac 1000])(h3:h 6=gV lo)(h4:h 7=gV w)(hf:h (2000+8*d)=.dead):
  bF R (az false) h d [ac 1000,I i,.fn faF [] [ac 8,ac 3,ac 6,ac 7]] (.fn faB [] [])=some (.tup [],upd (upd (upd (upd (upd h 1000 (bQ ds cs' p)) 8 (.bx [I m])) 3 (.bx [ac 1000])) 6 (gV lo)) 7 (gV w),[(1000,true),(8,true),(3,true),(6,true),(7,true)]):=by
 have hre:cp h 40 [1000,8,3,6,7] 0=[1000,8,3,6,7]:=by
  have i0:nE (bQ ds cs p)=[]:=(cR _ _ p).ids;have i1:nE (.bx [I m])=[]:=rfl;have i2:nE (.bx [ac 1000])=[1000]:=rfl;have i3:nE (gV lo)=[]:=(iq lo).ids;have i4:nE (gV w)=[]:=(iq w).ids
  simp_all[cp,bN]
 unfold bF;rw[if_neg (by simp[lw,bK.1.2.1])];have hin:cu h [] [ac 1000,I i,.fn faF [] [ac 8,ac 3,ac 6,ac 7]]=some ([ac 1000,I i,.fn faF [] [ac 8,ac 3,ac 6,ac 7]],h,[]):=rfl;have hids:bN [] ([ac 1000,I i,.fn faF [] [ac 8,ac 3,ac 6,ac 7]].flatMap cH)=[1000,8,3,6,7]:=rfl;simp only[eM,bK.1.2.1,aCT,aCY,hin,aCN,hids,hre,bK.1.1];have hn:bA [] [ac 1000,I i,.fn faF [] [ac 8,ac 3,ac 6,ac 7]]=[ac 1000,I i,.fn faF [] [ac 8,ac 3,ac 6,ac 7]]:=rfl;rw[hn];unfold kt;have hob:([1000,8,3,6,7].map fun a=>eH (bu [1000,8,3,6,7]) (h a))=[bQ ds cs p,.bx [I m],.bx [ac 1000],gV lo,gV w]:=by
  simp only[List.map,h0,h1,h2,h3,h4];rfl
 have hcl:([1000,8,3,6,7].all fun a=>aF [1000,8,3,6,7] (h a)&&!bU (h a))=true:=by
  simp only[aDb,List.all_nil,h0,h1,h2,h3,h4];rfl
 rw[hob,hcl,if_pos (by rfl)];rw[show [ac 1000,I i,.fn faF [] [ac 8,ac 3,ac 6,ac 7]].map (eG (bu [1000,8,3,6,7]))=[ac 1000,I i,.fn faF [] [ac 1001,ac 1002,ac 1003,ac 1004]]from rfl,hR,aCN,bK.1.2.2.2,bK.1.2.1,wh];unfold fE;rw[if_pos ⟨rfl,aDa rfl,aDa rfl,by simp[cr,cJ],by grind[dh,gV,bQ,bf,bU],rfl⟩];rfl
theorem Rx{m:Int}(hR:R faB [ac 1000,I i,.fn faA [] [ac 1001,ac 1002]] [bQ ds cs p,.bx [I m],.bx [ac 1000]]=some (.tup [],[bQ ds cs' p,.bx [I m],.bx [ac 1000]]))(h0:h 1000=bQ ds cs p)(h1:h 4=.bx [I m])(h2:h 2=.bx [ac 1000])(hf:h (2000+8*d)=.dead):
  bF R (az false) h d [ac 1000,I i,.fn faA [] [ac 4,ac 2]] (.fn faB [] [])=some (.tup [],upd (upd (upd h 1000 (bQ ds cs' p)) 4 (.bx [I m])) 2 (.bx [ac 1000]),[(1000,true),(4,true),(2,true)]):=by
 have hre:cp h 40 [1000,4,2] 0=[1000,4,2]:=by
  have i0:nE (bQ ds cs p)=[]:=(cR _ _ p).ids;have i1:nE (.bx [I m])=[]:=rfl;have i2:nE (.bx [ac 1000])=[1000]:=rfl
  simp_all[cp,bN]
 unfold bF;rw[if_neg (by simp[lw,bK.1.2.1])];have hin:cu h [] [ac 1000,I i,.fn faA [] [ac 4,ac 2]]=some ([ac 1000,I i,.fn faA [] [ac 4,ac 2]],h,[]):=rfl;have hids:bN [] ([ac 1000,I i,.fn faA [] [ac 4,ac 2]].flatMap cH)=[1000,4,2]:=rfl;simp only[eM,bK.1.2.1,aCT,aCY,hin,aCN,hids,hre,bK.1.1];have hn:bA [] [ac 1000,I i,.fn faA [] [ac 4,ac 2]]=[ac 1000,I i,.fn faA [] [ac 4,ac 2]]:=rfl;rw[hn];unfold kt;have hob:([1000,4,2].map fun a=>eH (bu [1000,4,2]) (h a))=[bQ ds cs p,.bx [I m],.bx [ac 1000]]:=by
  simp only[List.map,h0,h1,h2];rfl
 have hcl:([1000,4,2].all fun a=>aF [1000,4,2] (h a)&&!bU (h a))=true:=by
  simp only[aDb,List.all_nil,h0,h1,h2];rfl
 rw[hob,hcl,if_pos (by rfl)];rw[show [ac 1000,I i,.fn faA [] [ac 4,ac 2]].map (eG (bu [1000,4,2]))=[ac 1000,I i,.fn faA [] [ac 1001,ac 1002]]from rfl,hR,aCN,bK.1.2.2.2,bK.1.2.1,wh];unfold fE;rw[if_pos ⟨rfl,aDa rfl,aDa rfl,by simp[cr,cJ],by grind[dh,bQ,bf,bU],rfl⟩];rfl
theorem ah7{id2:Nat}{cs:List AV}{a:AV}(h1:h id2=.bx cs)(h2:h id=.bx [.any]):Ol id 0 [ac id2] (a,h,[])=some (a,upd h id (.bx [ac id2]),[]):=by
 simp_all[bE,Ol,uO,J9,inP,Oj,EN]
def EA(v:Nat)(c:Rd):List Rt:=if c.m.length=0 then []else [⟨kL v,c⟩]
def Cp(v:Nat)(c:Rd):Rp:=⟨v,EA v c⟩
theorem TA:∀v,bm (kL v)=0
 |0=>rfl
 |v+1=>by
  have:=TA v;show bm ((0:Int)::kL v)=0;simp[bm]at this⊢;exact this
theorem ah8{v:Nat}{c:Rd}(h8:v<=8)(oc:Ok0 c)(vc:vd c=true)(h0:c.m.length≠0):VT v ⟨kL v,c⟩:=
 ⟨oc,by simp[kL],by omega,vc,h0,amo,by grind[TA]⟩
theorem ah9{call:jt}{md:Mode}{s:ap}(ps acc d k z b l c rest):dB call md ps acc (⟨some d,none,.mkSl k z b l c⟩::rest) s h=kg call md ps acc rest s (some d) (fun _=>some ([],[dx d])) ((qA (ev s l) (ev s c)).bind fun p=>if p.2*b<=140737488355328 then dA h d k (aCG p.1 z) p.1 []else none):=fG _ _ _ _ rfl
theorem ala{v:Nat}{c:Rd}(h8:v<=8)(oc:Ok0 c)(vc:vd c=true):R fcR [I v,af c] []=some (pV (Cp v c,0),[]):=by
 refine au XS rfl ?_;have hv:=eS oc;rw[vc]at hv;have he:=Di (v:=v);have z1:qA (.v (.int .i64 (v:Int))) (.v (.int .i64 (v:Int)))=some (v,v):=by
  simp only[qA];grind
 have z2:(v*8<=140737488355328)=True:=tt;have e1:((v:Int)<0)=False:=ff;have e2:(8< (v:Int))=False:=ff;simp only[af,ai]at hv;by_cases h0:c.m.length=0
 ·have e3:(0< (c.m.length:Int))=False:=ff;simp only[Cp,EA,if_pos h0];simp only[Ai,af,ai,go_sem,e1,e2,e3,hv,he,rL];obtain⟨o,hdn⟩:=D8 (v:=v) (e:=0) (c:=.emp) (l:=[]) (d:=32) (id:=2168) (h:=upd (upd (upd (fun _=>.dead) 3 (.bx [B c.neg,lm c.m,I c.e])) 4 (.bx [I 0,.emp])) 2168 (.bx [I v,.emp,I 0])) rfl (.inr ⟨rfl,rfl⟩) rfl;have hd':=dX (bD.1.2.1 false) rfl hdn;rw[hd'];have e4:rW v (some [])=(⟨v,[]⟩,0):=rfl;rw[e4];simp only[pV,bc,go_sem]
 ·have e3:(0< (c.m.length:Int))=True:=tt;simp only[Cp,EA,if_neg h0];simp only[Ai,af,ai,go_sem,e1,e2,e3,hv,he,rL,ah9,z1,z2,Zh];have k1:(0+v<=(kL v).length)=True:=eq_true (by simp[kL]);have k2:(aV (kL v)).take v=aV (kL v):=aCX (by grind[Dl,kL]);simp only[k1,k2,go_sem];have hadd:=dX (aW.1.2.1 false) rfl (rK (d:=30) (id:=2168) (v:=v) (e:=0) (e':=0) (c:=.emp) (l:=[]) (x:=kL v) (q:=c) (h:=upd (upd (upd (upd (upd (fun _=>.dead) 3 (.bx [B c.neg,lm c.m,I c.e])) 4 (.bx [I 0,.emp])) 2168 (.bx [I v,.emp,I 0])) 28 (.ar 1 (aV (kL v)))) 28 (.fz 1 (aV (kL v)))) rfl (.inr ⟨rfl,rfl⟩) (.inl rfl) (Pw (ah8 h8 oc vc h0)));simp only[af,ai,t3]at hadd;simp only[hadd,go_sem];rw[if_pos (by rfl)];obtain⟨o,hdn⟩:=D8 (v:=v) (e:=0) (c:=.osl 4 (aL [⟨kL v,c⟩])) (l:=[⟨kL v,c⟩]) (d:=32) (id:=2168) (h:=upd (upd (upd (upd (upd (upd (fun _=>.dead) 3 (.bx [B c.neg,lm c.m,I c.e])) 4 (.bx [I 0,.emp])) 2168 (.bx [I v,.emp,I 0])) 28 (.ar 1 (aV (kL v)))) 28 (.fz 1 (aV (kL v)))) 2168 (.bx [I v,.osl 4 (aL [⟨kL v,c⟩]),I 0])) rfl (.inl rfl) rfl;have hd':=dX (bD.1.2.1 false) rfl hdn;rw[hd'];have e4:rW v (some [⟨kL v,c⟩])=(⟨v,[⟨kL v,c⟩]⟩,0):=rfl;have e5:=It [⟨kL v,c⟩];rw[e4];simp only[pV,bc,e5,go_sem]
theorem aia:vd aB=true:=δ
theorem alb{c:Rd}:aY p [aB,c]=aY p [c]:=by
 simp_all[aY,aDb,aia,aCM]
theorem aib:zI aB=0:=cQ rfl
theorem aic{c:Rd}{up:Bool}:dk aB c p up=cw c p up:=by
 simp[dk,cw,alb,aib,Int.zero_add]
theorem Zl(hp:bC p=true){up:Bool}:cw aB p up=(aB,0):=by
 simp_all[bC,aCK,decide_eq_true_eq,cw,aY,aDb,List.all_nil,aia,if_pos,aib,iL]
theorem afm(h:ae)(d:Nat)(r q:List (List AV))(p:Int)(b:Bool):mY h d (some (.tup [.obx [.osl 1 r,.osl 7 q,I p],B b],[]))=if bU (h (2000+8*d))&&bU (h (2000+8*d+1))then some (.tup [.ref (2000+8*d) none 0 0 0,B b],upd h (2000+8*d) (.bx [.osl 1 r,.osl 7 q,I p]),[])else none:=by
 simp[mY,cJ,kr,gx,oA,aJ,bE,bo,bw,cr,mat,dp,eJ]
theorem Fl(h:ae)(n:Nat)(g:Bool)(i j:Nat)(r:List (List AV)):qX h n g 7 i j (some (7,r))=(r[i]?).bind fun row=>(mr n g row j).map fun a=>(a,h,[]):=rfl
theorem an4(ox:OkI x)(oy:OkI y):R fay [ac 1000,aj x,aj y] [bQ ds cs p]=some (aj (dq x y p),[bQ ds cs p]):=by
 refine zZ O5 O4 (CE false) rfl ?_;have h:=tC ox oy (p:=p);generalize dq x y p=z at*
 simp only[aj,ao]at h;simp only[zj,aj,ao,bQ,go_sem,h];exact gB rfl rfl rfl (by rfl) (by simp only[go_sem])
theorem an5(ox:OkI x)(oy:OkI y):R faC [ac 1000,aj x,aj y] [bQ ds cs p]=some (aj (dt x y p),[bQ ds cs p]):=by
 refine zZ O7 O6 (CF false) rfl ?_;have h:=v9 ox oy (p:=p);generalize dt x y p=z at*
 simp only[aj,ao]at h;simp only[zk,aj,ao,bQ,go_sem,h];exact gB rfl rfl rfl (by rfl) (by simp only[go_sem])
theorem afn(x:Ri):RT (aj x):=⟨fun _=>rfl,fun _ _=>rfl,fun _=>rfl⟩
theorem UX(ox:OkI x)(oy:OkI y)(hh:h id=bQ ds cs p)(hd:h (2000+8*d)=.dead):
  Jd R (az false) d fay ([ac id,aj x,aj y],h,[])=some (aj (dq x y p),upd h id (bQ ds cs p),[]):=
 dX (AF false) rfl (Ma (AF false) (CE false) (as':=[aj x,aj y]) (by rw[NA];simp only[aj,ao,go_sem]) rfl rfl hh (cR _ _ _) (cR _ _ _) (fun _=>rfl) (an4 ox oy) (afn _) (aDa rfl) (by simp[cr,aj,cJ,hd,bU]))
theorem Hg(ox:OkI x)(oy:OkI y)(hh:h id=bQ ds cs p)(hd:h (2000+8*d)=.dead):
  Jd R (az false) d faC ([ac id,aj x,aj y],h,[])=some (aj (dt x y p),upd h id (bQ ds cs p),[]):=
 dX (AG false) rfl (Ma (AG false) (CF false) (as':=[aj x,aj y]) (by rw[NB];simp only[aj,ao,go_sem]) rfl rfl hh (cR _ _ _) (cR _ _ _) (fun _=>rfl) (an5 ox oy) (afn _) (aDa rfl) (by simp[cr,aj,cJ,hd,bU]))
theorem M7{α:Type}{f:α->List AV}(h:∀x,Cw (f x) (f x)=true):∀l:List α,Ka (l.map f) (l.map f)=true
 |[]=>rfl
 |a::l=>by simp only[List.map,Ka,h,M7 h l,aCM]
theorem atO(z:Int):Cw [I z] [I z]=true:=by simp[Cw,WF,WE]
theorem aq2(x:Ri):Cw (ao x) (ao x)=true:=by
 have h:∀m:List Nat,Ka (aE m) (aE m)=true:=M7 fun x=>by simp[Cw,WF,WE]
 simp[ao,Cw,WF,WE,lm,h]
theorem aq3(ds:List Int)(cs:List Ri)(p:Int):Mv (bQ ds cs p) (bQ ds cs p)=true:=by
 have h1:Ka (aV ds) (aV ds)=true:=M7 atO ds;have h2:Ka (bS cs) (bS cs)=true:=M7 aq2 cs;simp[bQ,Mv,Cw,WF,WE,h1,h2]
theorem afo{h':ae}(hi:id<2000)(hh:h id=bQ ds cs p)(hh':h' id=bQ ds cs p):i9 h d [ac id,aj x,aj y] h'=some ([id],[2000+8*d]):=by
 have hre:cp h 40 [id] 0=[id]:=by simp[cp,hh,(cR ds cs p).ids,bN]
 have hc:GI h h' [id]=[]:=by simp[GI,hh,hh',aq3]
 show(if _ then _ else if _ then some ((cp h 40 [id] 0).map dx,(GI h h' (cp h 40 [id] 0)).map dx++[2000+8*d])else none)=_;rw[hre,hc,if_neg (by simp[dat,aJ]),if_pos (by rfl)];simp[dx,hi]
def kN(N:Nat)(cs:List Ri)(g:G):Prop:=cs.length=N/\∀k x,cs[k]?=some x->In (g k) x
theorem kN.get{g:G}(h:kN N cs g){k:Nat}(hk:k<N):∃x,cs[k]?=some x/\In (g k) x:=by
 have:k<cs.length:=by rw[h.1];exact hk
 exact⟨cs[k],List.getElem?_eq_getElem this,h.2 k _ (List.getElem?_eq_getElem this)⟩
theorem kN.set{N:Nat}{cs:List Ri}{g:G}(h:kN N cs g){k:Nat}{x:Ri}{y:Rat}(hx:In y x):kN N (cs.set k x) (gs g k y):=by
 refine⟨by rw[List.length_set];exact h.1,fun j z hz=>?_⟩;rw[List.getElem?_set]at hz;unfold gs;by_cases hj:k=j
 ·subst hj;rw[if_pos rfl]at hz;rw[if_pos rfl];split at hz
  ·cases hz;exact hx
  ·exact nomatch hz
 ·rw[if_neg hj]at hz;rw[if_neg fun h=>hj h.symm];exact h.2 j z hz
def unO(n:Nat)(lo w:Ri)(ds:List Int)(cs:List Ri)(p:Int)(h:ae):Prop:=h 1000=.bx [I n]/\h 1001=.bx [ac 1004]/\h 1002=gV lo/\h 1003=gV w/\h 1004=bQ ds cs p
theorem IJ(id:Nat)(h:ae)(i:Nat)(xs:List AV)(a b:AV)(r:List (List AV)):GE h 7 id 1 7 i 0 xs [] (.bx [a,.osl 7 r,b])=(tZ 7 7 i 0 xs 7 r).map fun q=>(.und,upd h id (.bx [a,.osl 7 q,b]),[]):=rfl
theorem IK{k:Nat}{u:Ri}(hk:k<cs.length):tZ 7 7 k 0 (ao u) 7 (bS cs)=some (bS (cs.set k u)):=by
 have h1:(bS cs)[k]?=some (ao cs[k]):=by unfold bS;rw[List.getElem?_map,List.getElem?_eq_getElem hk];rfl
 unfold tZ;rw[if_pos rfl,h1];simp[setRow,ao,bS,List.map_set]
attribute [-go_sem] wV in
theorem an6{ds:List Int}{p:Int}{i:Nat}{lo w:Ri}{l:Rat}(hl:In l lo)(hN:f+n*st<N)(hN4:N<=400)(hn:n<=400):∀ (k:Nat),i+k<=n->∀ (cs:List Ri) (g:G),kN N cs g->∀ (s:ap) (h:ae) (X:Option (Ex×St)),ak 2 [0,1,2,3,4,5,13,14] (av (am R (az false) jK) [0,1,2,3,4,5,8,9,13,14] [1000,1001,1002,1003,1004] s h)=X->
  s 0=I f->s 1=I st->s 2=ac 1000->s 3=ac 1001->s 4=ac 1002->s 5=ac 1003->s 8=I i->s 9=I ((i:Int)+k-1)->s 13=I n->s 14=I i->unO n lo w ds cs p h->
  ∃hh cs',X=some (.normal,⟨upd (upd (upd (upd (upd (upd (upd (upd bk 14 (I i)) 13 (I n)) 5 (ac 1003)) 4 (ac 1002)) 3 (ac 1001)) 2 (ac 1000)) 1 (I st)) 0 (I f),hh⟩)/\unO n lo w ds cs' p hh/\kN N cs' (Oc l (fun j=>f+j*st) i k g):=by
 intro k;induction k with
 |zero=>
  intro hk cs g he s h X hX g0 g1 g2 g3 g4 g5 g8 g9 g13 g14 ho;subst hX;obtain⟨k0,k1,k2,k3,k4⟩:=ho;have e1:((i:Int)<=(i:Int)+((0:Nat):Int)-1)=False:=ff;have hg:=(cR ds cs p).cl [1000,1001,1002,1003,1004];have hlo:=(iq lo).cl [1000,1001,1002,1003,1004];have hw:=(iq w).cl [1000,1001,1002,1003,1004];rw[ah];refine⟨?hh0,cs,?_,?_,he⟩;rotate_left
  ·simp only[jK,go_sem,g0,g1,g2,g3,g4,g5,g8,g9,g13,g14,k0,k1,k2,k3,k4,hg,hlo,hw,e1];rfl
  ·exact⟨rfl,rfl,rfl,rfl,rfl⟩
 |succ k ih=>
  intro hk cs g he s h X hX g0 g1 g2 g3 g4 g5 g8 g9 g13 g14 ho;subst hX;obtain⟨k0,k1,k2,k3,k4⟩:=ho;have hm1:(i+k)*st<=n*st:=aCS _ ω;have hm2:(i+k+1)*st<=n*st:=aCS _ ω;have hs2:(i+k+1)*st=(i+k)*st+st:=by rw[aC8,Nat.one_mul]
  have e1:((i:Int)<=(i:Int)+((k+1:Nat):Int)-1)=True:=tt;have w1:IntKind.i64.wrap (((i:Int)+((k+1:Nat):Int)-1)*st)=(((i+k)*st:Nat):Int):=by
   rw[show((i:Int)+((k+1:Nat):Int)-1)=((i+k:Nat):Int)by omega,←Int.natCast_mul];exact i64_in _ ⟨by omega,by omega⟩
  have w2:aG ((f:Int)+(((i+k)*st:Nat):Int))=((f+(i+k)*st:Nat):Int):=wi;have w3:aG (((f+(i+k)*st:Nat):Int)+(st:Int))=((f+(i+k+1)*st:Nat):Int):=wi;have w4:IntKind.i64.wrap ((i:Int)+((k+1:Nat):Int)-1-1)=(i:Int)+(k:Int)-1:=by rw[i64_in _ ⟨by omega,by omega⟩];omega
  obtain⟨x,x1,x2⟩:=he.get (k:=f+(i+k)*st) ω;obtain⟨y,y1,y2⟩:=he.get (k:=f+(i+k+1)*st) ω;have hg:=(cR ds cs p).cl [1000,1001,1002,1003,1004];have hlo:=(iq lo).cl [1000,1001,1002,1003,1004];have hw:=(iq w).cl [1000,1001,1002,1003,1004];have cm:=fun(h:ae) (d:Nat) hh hd=>Hg (ds:=ds) (cs:=cs) (p:=p) (h:=h) (d:=d) (id:=1004) hl.ok y2.ok hh hd;have pm:=jG (p:=p) hl y2;have ca:=fun(h:ae) (d:Nat) hh hd=>UX (ds:=ds) (cs:=cs) (p:=p) (h:=h) (d:=d) (id:=1004) x2.ok pm.ok hh hd;have pa:=io (p:=p) x2 pm;have q1:(bS cs)[f+(i+k)*st]?=some (ao x):=by unfold bS;rw[List.getElem?_map,x1];rfl
  have q2:(bS cs)[f+(i+k+1)*st]?=some (ao y):=by unfold bS;rw[List.getElem?_map,y1];rfl
  have i1:(0<=((f+(i+k)*st:Nat):Int))=True:=tt;have i2:(0<=((f+(i+k+1)*st:Nat):Int))=True:=tt;have i3:(((f+(i+k)*st:Nat):Int)< (cs.length:Int))=True:=eq_true (by rw[he.1];omega);have i4:(((f+(i+k+1)*st:Nat):Int)< (cs.length:Int))=True:=eq_true (by rw[he.1];omega);have sr1:∀u:Ri,tZ 7 7 (f+(i+k)*st) 0 (ao u) 7 (bS cs)=some (bS (cs.set (f+(i+k)*st) u)):=fun u=>IK (by rw[he.1];omega);have ih':=ih ω _ _ (he.set (k:=f+(i+k)*st) pa);rw[ah];generalize av _ _ _=L at ih'⊢;generalize dt lo y p=z at*
  generalize dq x z p=u at*
  simp only[bQ,aj,ao]at cm ca;simp only[ao]at q1 q2 sr1;simp only[bQ]at k4 hg;simp only[gV]at k2 k3 hlo hw;simp only[jK,go_sem,g0,g1,g2,g3,g4,g5,g8,g9,g13,g14,k0,k1,k2,k3,k4,hg,hlo,hw,e1,w1,w2,w3,w4,i1,i2,i3,i4,Bs,Fl,aCQ,aCI,q1,q2];rw[cm _ _ rfl rfl];have fp:=fun(h h':ae) (d:Nat) (x y:Ri)=>afo (h:=h) (h':=h') (d:=d) (id:=1004) (ds:=ds) (cs:=cs) (p:=p) (x:=x) (y:=y) δ;simp only[bQ,aj,ao]at fp;simp only[go_sem,fp];rw[ca _ _ rfl rfl];simp only[go_sem,fp,i1,i3,aCQ,aCI,IJ,sr1,w4];exact ih' _ _ _ rfl rfl rfl rfl rfl rfl rfl rfl rfl rfl rfl ⟨rfl,rfl,rfl,rfl,rfl⟩
theorem an7{ds:List Int}{p:Int}{lo w:Ri}{l:Rat}(hl:In l lo)(hN:f+n*st<N)(hN4:N<=400)(hn:n<=400):∀ (k i:Nat),i+k=n->∀ (cs:List Ri) (g:G),kN N cs g->∀ (s:ap) (h:ae) (X:Option (Ex×St)),ak 0 [0,1,2,3,5] (av (am R (az false) my) [0,1,2,3,4,5,13,14] [1000,1001,1002,1003,1004] s h)=X->
  s 0=I f->s 1=I st->s 2=ac 1000->s 3=ac 1001->s 4=ac 1002->s 5=ac 1003->s 13=I n->s 14=I i->unO n lo w ds cs p h->
  ∃hh cs',X=some (.normal,⟨upd (upd (upd (upd (upd bk 5 (ac 1003)) 3 (ac 1001)) 2 (ac 1000)) 1 (I st)) 0 (I f),hh⟩)/\unO n lo w ds cs' p hh/\(∀a,a≠1000->a≠1001->a≠1002->a≠1003->a≠1004->hh a=.dead)/\kN N cs' (Od l (fun j=>f+j*st) k i g):=by
 intro k;induction k with
 |zero=>
  intro i hk cs g he s h X hX g0 g1 g2 g3 g4 g5 g13 g14 ho;subst hX;obtain⟨k0,k1,k2,k3,k4⟩:=ho;have e1:((i:Int)<n)=False:=ff;have hg:=(cR ds cs p).cl [1000,1001,1002,1003,1004];have hlo:=(iq lo).cl [1000,1001,1002,1003,1004];have hw:=(iq w).cl [1000,1001,1002,1003,1004];rw[ah];refine⟨?hh0,cs,?_,?_,?_,he⟩;rotate_left
  ·simp only[my,go_sem,g0,g1,g2,g3,g4,g5,g13,g14,k0,k1,k2,k3,k4,hg,hlo,hw,e1];rfl
  ·exact⟨rfl,rfl,rfl,rfl,rfl⟩
  ·intro a a1 a2 a3 a4 a5;simp only[cB,a1,a2,a3,a4,a5,if_false]
 |succ k ih=>
  intro i hk cs g he s h X hX g0 g1 g2 g3 g4 g5 g13 g14 ho;subst hX;have ho':=ho;obtain⟨k0,k1,k2,k3,k4⟩:=ho;have e1:((i:Int)<n)=True:=tt;have w1:IntKind.i64.wrap ((n:Int)-1)=(i:Int)+((k+1:Nat):Int)-1:=by rw[i64_in _ ⟨by omega,by omega⟩];omega
  have w2:aG ((i:Int)+1)=((i+1:Nat):Int):=wi;have hg:=(cR ds cs p).cl [1000,1001,1002,1003,1004];have hlo:=(iq lo).cl [1000,1001,1002,1003,1004];have hw:=(iq w).cl [1000,1001,1002,1003,1004];have hu:=an6 (ds:=ds) (p:=p) (w:=w) hl hN hN4 hn (i:=i) (k+1) ω cs g he;have ih':=ih (i+1) ω;rw[ah];generalize av _ _ _=L at ih'⊢;simp only[my,go_sem,g0,g1,g2,g3,g4,g5,g13,g14,k0,k1,k2,k3,k4,hg,hlo,hw,e1,w1];generalize hX:ak 2 _ _=X;obtain⟨hh,cs',rfl,ho2,he2⟩:=hu _ _ _ hX rfl rfl rfl rfl rfl rfl rfl rfl rfl rfl ⟨rfl,rfl,rfl,rfl,rfl⟩;simp only[go_sem,w2];exact ih' cs' _ he2 _ _ _ rfl rfl rfl rfl rfl rfl rfl rfl rfl ho2
attribute [-go_sem] wV in
theorem an8{ds:List Int}{p:Int}{lo:Ri}(hw:In u w)(hN:f+n*st<N)(hN4:N<=400)(hn:n<=400):∀ (k j:Nat),j+k=n+1->∀ (cs:List Ri) (g:G),kN N cs g->∀ (sc:Ri) (b:Rat),In b sc->∀ (s:ap) (h:ae) (X:Option (Ex×St)),ak 4 [] (av (am R (az false) jJ) [0,1,2,3,5,11,12] [11,1000,1001,1002,1003,1004] s h)=X->
  s 0=I f->s 1=I st->s 2=ac 1000->s 3=ac 1001->s 5=ac 1003->s 11=ac 11->s 12=I j->h 11=gV sc->unO n lo w ds cs p h->
  ∃hh cs',X=some (.normal,⟨fun _=>.any,hh⟩)/\unO n lo w ds cs' p hh/\kN N cs' (UR u (fun j=>f+j*st) k j b g):=by
 intro k;induction k with
 |zero=>
  intro j hk cs g he sc b hb s h X hX g0 g1 g2 g3 g5 g11 g12 k11 ho;subst hX;obtain⟨k0,k1,k2,k3,k4⟩:=ho;have e1:((j:Int)<=n)=False:=ff;have hg:=(cR ds cs p).cl [11,1000,1001,1002,1003,1004];have hlo:=(iq lo).cl [11,1000,1001,1002,1003,1004];have hw:=(iq w).cl [11,1000,1001,1002,1003,1004];have hs:=(iq sc).cl [11,1000,1001,1002,1003,1004];rw[ah];refine⟨?hh0,cs,?_,?_,he⟩;rotate_left
  ·simp only[jJ,go_sem,g0,g1,g2,g3,g5,g11,g12,k0,k1,k2,k3,k4,k11,hg,hlo,hw,hs,e1];rfl
  ·exact⟨rfl,rfl,rfl,rfl,rfl⟩
 |succ k ih=>
  intro j hk cs g he sc b hb s h X hX g0 g1 g2 g3 g5 g11 g12 k11 ho;subst hX;obtain⟨k0,k1,k2,k3,k4⟩:=ho;have hm1:j*st<=n*st:=aCS _ ω;have e1:((j:Int)<=n)=True:=tt;have w1:aG ((j:Int)*st)=((j*st:Nat):Int):=wi (Int.natCast_mul ..).symm ω;have w2:aG ((f:Int)+((j*st:Nat):Int))=((f+j*st:Nat):Int):=wi;have w4:aG ((j:Int)+1)=((j+1:Nat):Int):=wi;obtain⟨x,x1,x2⟩:=he.get (k:=f+j*st) ω;have hg:=(cR ds cs p).cl [11,1000,1001,1002,1003,1004];have hlo:=(iq lo).cl [11,1000,1001,1002,1003,1004];have hwo:=(iq w).cl [11,1000,1001,1002,1003,1004];have hs:=(iq sc).cl [11,1000,1001,1002,1003,1004];have cm:=fun(h:ae) (d:Nat) hh hd=>Hg (ds:=ds) (cs:=cs) (p:=p) (h:=h) (d:=d) (id:=1004) hb.ok hw.ok hh hd;have pm:=jG (p:=p) hb hw;have ca:=fun(h:ae) (d:Nat) hh hd=>Hg (ds:=ds) (cs:=cs) (p:=p) (h:=h) (d:=d) (id:=1004) x2.ok pm.ok hh hd;have pa:=jG (p:=p) x2 pm;have q1:(bS cs)[f+j*st]?=some (ao x):=by unfold bS;rw[List.getElem?_map,x1];rfl
  have i1:(0<=((f+j*st:Nat):Int))=True:=tt;have i3:(((f+j*st:Nat):Int)< (cs.length:Int))=True:=eq_true (by rw[he.1];omega);have sr1:∀u:Ri,tZ 7 7 (f+j*st) 0 (ao u) 7 (bS cs)=some (bS (cs.set (f+j*st) u)):=fun u=>IK (by rw[he.1];omega);have ih':=ih (j+1) ω _ _ (he.set (k:=f+j*st) pa) _ _ pm;rw[ah];generalize av _ _ _=L at ih'⊢;generalize dt sc w p=z at*
  generalize dt x z p=v at*
  simp only[bQ,aj,ao]at cm ca;simp only[ao]at q1 sr1;simp only[bQ]at k4 hg;simp only[gV]at k2 k3 k11 hlo hwo hs;simp only[jJ,go_sem,g0,g1,g2,g3,g5,g11,g12,k0,k1,k2,k3,k4,k11,hg,hlo,hwo,hs,e1];rw[cm _ _ rfl rfl];have fp:=fun(h h':ae) (d:Nat) (x y:Ri)=>afo (h:=h) (h':=h') (d:=d) (id:=1004) (ds:=ds) (cs:=cs) (p:=p) (x:=x) (y:=y) δ;simp only[bQ,aj,ao]at fp;simp only[go_sem,w1,w2,i1,i3,Bs,Fl,aCQ,aCI,q1];rw[ca _ _ rfl rfl];simp only[go_sem,fp,i1,i3,aCQ,aCI,IJ,sr1,w4];exact ih' _ _ _ rfl rfl rfl rfl rfl rfl rfl rfl rfl ⟨rfl,rfl,rfl,rfl,rfl⟩
theorem Ry(hm:(dD n).map h=os)(hc:(os.all fun o=>aF (dD n) o)=true):yU [] n h []=some (.tup [],os):=by
 have h1:((dD n).all fun i=>aF (dD n) (h i))=true:=by
  rw[←hm,List.all_map]at hc;exact hc
 unfold yU;rw[h1,hm];rfl
theorem M8{f:FuncId}{fd:FD}{args:List AV}{α:Type}{r:α->AV×List Ob}{P:α->Prop}(hE:cW.E f=none)(hC:cW.C f=some fd)(hk:cW.md.keep f=false)(h1:args.length=fd.np)(h2:os.length<=1000)
  (hz:∃a,kj false fd.rs fd.res os.length (am R (az false) fd.body (wk args) (ax os))=some (r a)/\P a):∃a,R f args os=some (r a)/\P a:=by
 obtain⟨a,h3,h4⟩:=hz;exact⟨a,atN hE hC hk h1 h2 h3,h4⟩
theorem alc{ds:List Int}{p:Int}{lo:Ri}{l:Rat}{g:G}(hl:In l lo)(hw:In u w)(he:kN N cs g)(hN:f+n*st<N)(hN4:N<=400)(hn:n<=400):
  ∃cs',R faF [I f,I st,ac 1000,ac 1001,ac 1002,ac 1003] [.bx [I n],.bx [ac 1004],gV lo,gV w,bQ ds cs p]=some (.tup [],[.bx [I n],.bx [ac 1004],gV lo,gV w,bQ ds cs' p])/\kN N cs' (Rb l u n (fun j=>f+j*st) g):=by
 have h2:=an7 (ds:=ds) (p:=p) (w:=w) hl hN hN4 hn n 0 (aCI _) cs g he;have h3:=fun(cs:List Ri) (g:G) he=>an8 (ds:=ds) (p:=p) (lo:=lo) (n:=n) (st:=st) (f:=f) hw hN hN4 hn n 1 (Nat.add_comm _ _) cs g he ⟨one,one,false⟩ 1 (by rw[←rM];exact ip dW.1 dW.2);have hi:=LH;have hp:=gO dW.2 dW.1;refine M8 fH.2.1 fH.2.2 (fH.1.2.2.2 false) rfl (aDa rfl) ?_;have hgo:=(cR ds cs p).cl [1000,1001,1002,1003,1004];have hlo:=(iq lo).cl [1000,1001,1002,1003,1004];have hwo:=(iq w).cl [1000,1001,1002,1003,1004];simp only[af,ai,aj,ao]at hi hp;simp only[uD,Cy,Zi,go_sem];generalize hX:ak 0 _ _=X;obtain⟨hh,cs1,rfl,ho,hd,he1⟩:=h2 _ _ _ hX rfl rfl rfl rfl rfl rfl rfl rfl ⟨rfl,rfl,rfl,rfl,rfl⟩;obtain⟨k0,k1,k2,k3,k4⟩:=ho;have d1:=hd 2456 δ δ δ δ δ;have d2:=hd 2464 δ δ δ δ δ;have d3:=hd 11 δ δ δ δ δ;simp only[go_sem,hi,hp,d1,d2,d3];generalize hX:ak 4 _ _=X;obtain⟨hh2,cs2,rfl,ho,he2⟩:=h3 cs1 _ he1 _ _ _ hX rfl rfl rfl rfl rfl rfl rfl rfl ⟨k0,k1,k2,k3,k4⟩;obtain⟨k0,k1,k2,k3,k4⟩:=ho;refine⟨cs2,?_,he2⟩;simp only[go_sem];have hp5:dD 5=[1000,1001,1002,1003,1004]:=rfl;refine Ry (by rw[hp5];simp only[List.map,k0,k1,k2,k3,k4]) ?_;simp only[hp5,aDb,List.all_nil,(cR ds cs2 p).cl,hlo,hwo];rfl
def AO(n:Nat):Rd:=bg false n 0
theorem acI(hn:n<=1000):(vd (AO n)=true/\Ok0 (AO n))/\qv (AO n)=n:=by
 have hr:rI (ag (ab (AO n).m)) (AO n).e=true:=by
  unfold AO;by_cases h0:n=0
  ·subst h0;rfl
  ·obtain⟨g1,g2,g3,g4⟩:=rU (neg:=false) (e:=0) h0;have hb:ag n<=10:=bH.2 ω;rw[g1,g2];unfold rI;simp only[Bool.or_eq_true,aCK,decide_eq_true_eq];omega
 have hv:vd (AO n)=true:=Fd hr;have hb:Lb (AO n).m:=qW false n 0;refine⟨⟨hv,hb,aDe (D3 hv hb) δ⟩,?_⟩;have hc:cI (AO n)=(AO n,0):=by
  simp_all[cI,if_pos]
 have hz:zI (cI (AO n)).1=_:=LV (q:=n) (u:=0) δ (by grind[cI,AO]);rw[hc]at hz;obtain⟨N,hN⟩:∃N:Nat,N=16384:=⟨_,rfl⟩;rw[show((0:Int)+16384).toNat=N by omega]at hz;unfold qv EQ;rw[hz,←hN,show(((n*2^N:Nat):Int):Rat)=n*pQ N by rw[Int.natCast_mul,Int.natCast_pow,Rat.intCast_mul];rfl];grind[D9]
theorem aid(hn:n<=1000):R faP [I n] []=some (af (AO n),[]):=by
 have:=D4 (n:=(n:Int)) (by grind[Ku]);exact this
def beO(n:Nat)(ds:List Int)(cs:List Ri)(p:Int)(h:ae):Prop:=h 1000=.bx [I n]/\h 1001=.bx [ac 1002]/\h 1002=bQ ds cs p/\h 1003=.dead
theorem tK{h':ae}{l:List AV}(hl:l.all dat=true):i9 h d l h'=some ([],[2000+8*d]):=by
 rw[wV,if_pos hl]
attribute [-go_sem] wV in
theorem an9{ds:List Int}{p:Int}(hN:f+n*st<N)(hN4:N<=400)(hn:n<=400):∀ (k j:Nat),j+k=n->∀ (cs:List Ri) (g:G),kN N cs g->∀ (sc:Ri) (b:Rat),In b sc->∀ (s:ap) (h:ae) (X:Option (Ex×St)),ak 0 [0,1,2,3] (av (am R (az false) jA) [0,1,2,3,6,7] [6,1000,1001,1002,1003] s h)=X->
  s 0=I f->s 1=I st->s 2=ac 1000->s 3=ac 1001->s 6=ac 6->s 7=I (j+1:Nat)->h 6=gV sc->beO n ds cs p h->
  ∃hh cs',X=some (.normal,⟨upd (upd (upd (upd bk 3 (ac 1001)) 2 (ac 1000)) 1 (I st)) 0 (I f),hh⟩)/\beO n ds cs' p hh/\kN N cs' (Oe n (fun j=>f+j*st) k (j+1) b g):=by
 intro k;induction k with
 |zero=>
  intro j hk cs g he sc b hb s h X hX g0 g1 g2 g3 g6 g7 k6 ho;subst hX;obtain⟨k0,k1,k2,k3⟩:=ho;have e1:(((j+1:Nat):Int)<=n)=False:=ff;have hg:=(cR ds cs p).cl [6,1000,1001,1002,1003];have hs:=(iq sc).cl [6,1000,1001,1002,1003];rw[ah];refine⟨?hh0,cs,?_,?_,he⟩;rotate_left
  ·simp only[jA,go_sem,g0,g1,g2,g3,g6,g7,k0,k1,k2,k3,k6,hg,hs,e1];rfl
  ·exact⟨rfl,rfl,rfl,rfl⟩
 |succ k ih=>
  intro j hk cs g he sc b hb s h X hX g0 g1 g2 g3 g6 g7 k6 ho;subst hX;obtain⟨k0,k1,k2,k3⟩:=ho;have hm1:(j+1)*st<=n*st:=aCS _ ω;have e1:(((j+1:Nat):Int)<=n)=True:=tt;have w0:aG ((n:Int)- ((j+1:Nat):Int))=(k:Int):=wi;have w5:aG ((k:Int)+1)=((k+1:Nat):Int):=wi;have w1:aG (((j+1:Nat):Int)*st)=(((j+1)*st:Nat):Int):=wi (Int.natCast_mul ..).symm ω;have w2:aG ((f:Int)+(((j+1)*st:Nat):Int))=((f+(j+1)*st:Nat):Int):=wi;have w4:aG (((j+1:Nat):Int)+1)=((j+1+1:Nat):Int):=wi;obtain⟨x,x1,x2⟩:=he.get (k:=f+(j+1)*st) ω;have hg:=(cR ds cs p).cl [6,1000,1001,1002,1003];have hs:=(iq sc).cl [6,1000,1001,1002,1003];obtain⟨t1,t2⟩:=acI (n:=k+1) ω;obtain⟨u1,u2⟩:=acI (n:=j+1) ω;have ci1:=aid (n:=k+1) ω;have ci2:=aid (n:=j+1) ω;have cp1:=gO t1.2 t1.1;have cp2:=gO u1.2 u1.1;have ip1:=ip t1.1 t1.2;have ip2:=ip u1.1 u1.2;rw[t2]at ip1;rw[u2]at ip2;have cm:=fun(h:ae) (d:Nat) hh hd=>Hg (ds:=ds) (cs:=cs) (p:=p) (h:=h) (d:=d) (id:=1002) hb.ok ip1.ok hh hd;have pm:=jG (p:=p) hb ip1;have cd:=M0 pm.ok ip2.ok (p:=p);have pd:=M6 (p:=p) pm ip2;have cd2:=M0 x2.ok pd.ok (p:=p);have pd2:=M6 (p:=p) x2 pd;have hbe:b*((n:Rat)- (j+1:Nat)+1)/ (j+1:Nat)=b*((k+1:Nat):Rat)/ ((j+1:Nat):Rat):=by
   have:(n:Rat)=(j+(k+1):Nat):=by rw[hk]
   grind
  have q1:(bS cs)[f+(j+1)*st]?=some (ao x):=by grind[bS]
  have i1:(0<=((f+(j+1)*st:Nat):Int))=True:=tt;have i3:(((f+(j+1)*st:Nat):Int)< (cs.length:Int))=True:=eq_true γ;have sr1:∀u:Ri,tZ 7 7 (f+(j+1)*st) 0 (ao u) 7 (bS cs)=some (bS (cs.set (f+(j+1)*st) u)):=fun u=>IK γ;have ih':=ih (j+1) ω _ _ (he.set (k:=f+(j+1)*st) pd2) _ _ pd;have hdv:Oe n (fun j=>f+j*st) (k+1) (j+1) b g=Oe n (fun j=>f+j*st) k (j+1+1) (b*((k+1:Nat):Rat)/ ((j+1:Nat):Rat)) (gs g (f+(j+1)*st) (g (f+(j+1)*st)/ (b*((k+1:Nat):Rat)/ ((j+1:Nat):Rat)))):=by
   rw[←hbe];rfl
  rw[hdv,ah];generalize av _ _ _=L at ih'⊢;generalize AO (k+1)=c1 at*
  generalize AO (j+1)=c2 at*
  generalize dt sc ⟨c1,c1,false⟩ p=z at*
  generalize mT z ⟨c2,c2,false⟩ p=v at*
  generalize mT x v p=y at*
  simp only[bQ,aj,ao]at cm;simp only[af,ai,aj,ao]at ci1 ci2 cp1 cp2 cd cd2;simp only[ao]at q1 sr1;simp only[bQ]at k2 hg;simp only[gV]at k6 hs;simp only[jA,go_sem,g0,g1,g2,g3,g6,g7,k0,k1,k2,k3,k6,hg,hs,e1,w0,w5,ci1,cp1];have fp:=fun(h h':ae) (d:Nat) (x y:Ri)=>afo (h:=h) (h':=h') (d:=d) (id:=1002) (ds:=ds) (cs:=cs) (p:=p) (x:=x) (y:=y) δ;simp only[bQ,aj,ao]at fp;have fp1:=fun(h h':ae) (d:Nat)=>fp h h' d sc ⟨c1,c1,false⟩;rw[cm _ _ rfl rfl];simp only[go_sem,fp1,tK,ci2,cp2,cd,w1,w2,i1,i3,Bs,Fl,aCQ,aCI,q1,cd2,IJ,sr1,w4];exact ih' _ _ _ rfl rfl rfl rfl rfl rfl rfl rfl ⟨rfl,rfl,rfl,rfl⟩
attribute [-go_sem] wV in
theorem aoa{ds:List Int}{p:Int}{j:Nat}(hN:f+n*st<N)(hN4:N<=400)(hn:n<=400):∀ (k:Nat),j+k<=n->∀ (cs:List Ri) (g:G),kN N cs g->∀ (s:ap) (h:ae) (X:Option (Ex×St)),ak 4 [0,1,2,3,8] (av (am R (az false) fV) [0,1,2,3,8,9] [1000,1001,1002,1003] s h)=X->
  s 0=I f->s 1=I st->s 2=ac 1000->s 3=ac 1001->s 8=I (j+1:Nat)->s 9=I (j+k:Nat)->beO n ds cs p h->
  ∃hh cs',X=some (.normal,⟨upd (upd (upd (upd (upd bk 8 (I (j+1:Nat))) 3 (ac 1001)) 2 (ac 1000)) 1 (I st)) 0 (I f),hh⟩)/\beO n ds cs' p hh/\kN N cs' (Ra (fun j=>f+j*st) j k g):=by
 intro k;induction k with
 |zero=>
  intro hk cs g he s h X hX g0 g1 g2 g3 g8 g9 ho;subst hX;obtain⟨k0,k1,k2,k3⟩:=ho;have e1:(((j+1:Nat):Int)<=((j+0:Nat):Int))=False:=ff;have hg:=(cR ds cs p).cl [1000,1001,1002,1003];rw[ah];refine⟨?hh0,cs,?_,?_,he⟩;rotate_left
  ·simp only[fV,go_sem,g0,g1,g2,g3,g8,g9,k0,k1,k2,k3,hg,e1];rfl
  ·exact⟨rfl,rfl,rfl,rfl⟩
 |succ k ih=>
  intro hk cs g he s h X hX g0 g1 g2 g3 g8 g9 ho;subst hX;obtain⟨k0,k1,k2,k3⟩:=ho;have hm1:(j+k+1)*st<=n*st:=aCS _ ω;have hs2:(j+k+1)*st=(j+k)*st+st:=γ
  have e1:(((j+1:Nat):Int)<=((j+(k+1):Nat):Int))=True:=tt;have w0:aG (((j+(k+1):Nat):Int)-1)=((j+k:Nat):Int):=wi;have w1:aG (((j+(k+1):Nat):Int)*st)=(((j+k+1)*st:Nat):Int):=wi (Int.natCast_mul ..).symm ω;have w2:aG ((f:Int)+(((j+k+1)*st:Nat):Int))=((f+(j+k+1)*st:Nat):Int):=wi;have w3:aG (((j+k:Nat):Int)*st)=(((j+k)*st:Nat):Int):=wi (Int.natCast_mul ..).symm ω;have w4:aG ((f:Int)+(((j+k)*st:Nat):Int))=((f+(j+k)*st:Nat):Int):=wi;obtain⟨x,x1,x2⟩:=he.get (k:=f+(j+k+1)*st) ω;obtain⟨y,y1,y2⟩:=he.get (k:=f+(j+k)*st) ω;have hg:=(cR ds cs p).cl [1000,1001,1002,1003];have ca:=fun(h:ae) (d:Nat) hh hd=>UX (ds:=ds) (cs:=cs) (p:=p) (h:=h) (d:=d) (id:=1002) x2.ok y2.ok hh hd;have pa:=io (p:=p) x2 y2;have q1:(bS cs)[f+(j+k+1)*st]?=some (ao x):=by grind[bS]
  have q2:(bS cs)[f+(j+k)*st]?=some (ao y):=by grind[bS]
  have i1:(0<=((f+(j+k+1)*st:Nat):Int))=True:=tt;have i2:(0<=((f+(j+k)*st:Nat):Int))=True:=tt;have i3:(((f+(j+k+1)*st:Nat):Int)< (cs.length:Int))=True:=eq_true γ;have i4:(((f+(j+k)*st:Nat):Int)< (cs.length:Int))=True:=eq_true γ;have sr1:∀u:Ri,tZ 7 7 (f+(j+k+1)*st) 0 (ao u) 7 (bS cs)=some (bS (cs.set (f+(j+k+1)*st) u)):=fun u=>IK γ;have ih':=ih ω _ _ (he.set (k:=f+(j+k+1)*st) pa);have fp:=fun(h h':ae) (d:Nat) (x y:Ri)=>afo (h:=h) (h':=h') (d:=d) (id:=1002) (ds:=ds) (cs:=cs) (p:=p) (x:=x) (y:=y) δ;simp only[bQ,aj,ao]at fp;rw[ah];generalize av _ _ _=L at ih'⊢;generalize dq x y p=z at*
  simp only[bQ,aj,ao]at ca;simp only[ao]at q1 q2 sr1;simp only[bQ]at k2 hg;simp only[fV,go_sem,g0,g1,g2,g3,g8,g9,k0,k1,k2,k3,hg,e1,w0,w1,w2,w3,w4,i1,i2,i3,i4,Bs,Fl,aCQ,aCI,q1,q2];rw[ca _ _ rfl rfl];simp only[go_sem,fp,w0,i1,i3,aCQ,aCI,IJ,sr1];exact ih' _ _ _ rfl rfl rfl rfl rfl rfl rfl ⟨rfl,rfl,rfl,rfl⟩
theorem aob{ds:List Int}{p:Int}(hN:f+n*st<N)(hN4:N<=400)(hn:n<=400):∀ (k j:Nat),j+k=n->∀ (cs:List Ri) (g:G),kN N cs g->∀ (s:ap) (h:ae) (X:Option (Ex×St)),ak 2 [] (av (am R (az false) jz) [0,1,2,3,8] [1000,1001,1002,1003] s h)=X->
  s 0=I f->s 1=I st->s 2=ac 1000->s 3=ac 1001->s 8=I (j+1:Nat)->beO n ds cs p h->
  ∃hh cs',X=some (.normal,⟨fun _=>.any,hh⟩)/\beO n ds cs' p hh/\kN N cs' (US (fun j=>f+j*st) k j g):=by
 intro k;induction k with
 |zero=>
  intro j hk cs g he s h X hX g0 g1 g2 g3 g8 ho;subst hX;obtain⟨k0,k1,k2,k3⟩:=ho;have e1:(((j+1:Nat):Int)<=n)=False:=ff;have hg:=(cR ds cs p).cl [1000,1001,1002,1003];rw[ah];refine⟨?hh0,cs,?_,?_,he⟩;rotate_left
  ·simp only[jz,go_sem,g0,g1,g2,g3,g8,k0,k1,k2,k3,hg,e1];rfl
  ·exact⟨rfl,rfl,rfl,rfl⟩
 |succ k ih=>
  intro j hk cs g he s h X hX g0 g1 g2 g3 g8 ho;subst hX;obtain⟨k0,k1,k2,k3⟩:=ho;have e1:(((j+1:Nat):Int)<=n)=True:=tt;have w2:aG (((j+1:Nat):Int)+1)=((j+1+1:Nat):Int):=wi;have hg:=(cR ds cs p).cl [1000,1001,1002,1003];have hu:=aoa (ds:=ds) (p:=p) hN hN4 hn (j:=j) (k+1) ω cs g he;have ih':=ih (j+1) ω;rw[ah];simp only[jz,go_sem,g0,g1,g2,g3,g8,k0,k1,k2,k3,hg,e1];generalize hX:ak 4 _ _=X;obtain⟨hh,cs',rfl,ho2,he2⟩:=hu _ _ _ hX rfl rfl rfl rfl rfl (by rw[hk];rfl) ⟨rfl,rfl,rfl,rfl⟩;simp only[go_sem,w2];exact ih' cs' _ he2 _ _ _ rfl rfl rfl rfl rfl rfl ho2
theorem ald{ds:List Int}{p:Int}{g:G}(he:kN N cs g)(hN:f+n*st<N)(hN4:N<=400)(hn:n<=400):
  ∃cs',R faA [I f,I st,ac 1000,ac 1001] [.bx [I n],.bx [ac 1002],bQ ds cs p]=some (.tup [],[.bx [I n],.bx [ac 1002],bQ ds cs' p])/\kN N cs' (Rc n (fun j=>f+j*st) g):=by
 have h2:=an9 (ds:=ds) (p:=p) hN hN4 hn n 0 (aCI _) cs g he ⟨one,one,false⟩ 1 (by rw[←rM];exact ip dW.1 dW.2);have h3:=fun(cs:List Ri) (g:G) he=>aob (ds:=ds) (p:=p) (n:=n) (st:=st) (f:=f) hN hN4 hn n 0 (aCI _) cs g he;have hi:=LH;have hp:=gO dW.2 dW.1;refine M8 dC.2.1 dC.2.2 (dC.1.2.2.2 false) rfl (aDa rfl) ?_;simp only[af,ai,aj,ao]at hi hp;simp only[oM,xi,Zj,go_sem,hi,hp];generalize hX:ak 0 _ _=X;obtain⟨hh,cs1,rfl,ho,he1⟩:=h2 _ _ _ hX rfl rfl rfl rfl rfl rfl rfl ⟨rfl,rfl,rfl,rfl⟩;obtain⟨k0,k1,k2,k3⟩:=ho;simp only[go_sem];generalize hX:ak 2 _ _=X;obtain⟨hh2,cs2,rfl,ho,he2⟩:=h3 cs1 _ he1 _ _ _ hX rfl rfl rfl rfl rfl ⟨k0,k1,k2,k3⟩;obtain⟨k0,k1,k2,k3⟩:=ho;refine⟨cs2,?_,he2⟩;have hp3:dD 3=[1000,1001,1002]:=rfl;refine Ry γ ?_;rfl
noncomputable def Ea:Cmd:=.ops [0,1,2,6,15,16] [cm 32 2,cm 33 7,cm 34 6,⟨(some 35),none,.call (.t 32) [.t 33,.t 34]⟩]
theorem Gr:tp=.seq (.ops [0,1,2,6,15,16,17] [b2 17 .lss 16 15]) (.seq (.cond (.t 17) (.skip) (.exit 0)) (.seq (.block 1 [0,1,2,6,15,16] (.seq (.ops [0,1,2,6,7,15,16] [cm 18 16,cm 7 18]) (.seq (.dops [0,1,2,6,7,15,16,31] [cm 19 7,cm 20 6,b2 21 .quo 19 20,cm 22 0,nk 23 22,fa 24 0 23,ld 25 1 24,cm 26 1,co 27 (.iadrS 1 (.t 25) (.t 26)),ld 28 1 27,co 29 (.bin .add (.t 28) (.c (I 1))),b2 30 .rem 21 29,co 31 (.bin .eql (.t 30) (.c (I 0)))] []) (.cond (.t 31) Ea (.skip))))) (.ops [0,1,2,6,15,16] [co 36 (.bin .add (.t 16) (.c (I 1))),cm 16 36]))):=rfl
structure LnO (cl:AV) (ds:List Int) (p:Int) (N k st n:Nat) (op:Nat->G->G) (o1 o2 o3 o4:Ob):Prop where
 c1:aF [1000,1001,1002,1003,1004] o1=true
 c2:aF [1000,1001,1002,1003,1004] o2=true
 c3:aF [1000,1001,1002,1003,1004] o3=true
 c4:aF [1000,1001,1002,1003,1004] o4=true
 c5:iQ [1000,1001,1002,1003,1004] cl=cl
 run:∀ (f:Nat) (cs:List Ri) (g:G),kN N cs g->f<N->f/st% (n+1)=0->∀ (s:ap) (h:ae) (X:Option (Ex×St)),am R (az false) Ea s h=X->s 0=ac 1000->s 1=I k->s 2=cl->s 6=I st->s 7=I f->s 15=I N->s 16=I f->h 1000=bQ ds cs p->h 1001=o1->h 1002=o2->h 1003=o3->h 1004=o4->h 2280=.dead->
  ∃cs' hh,X=some (.normal,⟨upd (upd (upd (upd (upd (upd bk 16 (I f)) 15 (I N)) 6 (I st)) 2 cl) 1 (I k)) 0 (ac 1000),hh⟩)/\hh 1000=bQ ds cs' p/\hh 1001=o1/\hh 1002=o2/\hh 1003=o3/\hh 1004=o4/\kN N cs' (op f g)
theorem Rz{cl:AV}{k:Nat}{op:Nat->G->G}{o1 o3 o4:Ob}(L:LnO cl ds p N k st n op o1 o2 o3 o4)(hN4:N<=400)(hs:0<st)(hst:st<=400)(hn:n<=400)(hk:ds[k]?=some (n:Int)):
  ∀ (m i:Nat),i+m=N->∀ (cs:List Ri) (g:G),kN N cs g->∀ (s:ap) (h:ae) (X:Option (Ex×St)),ak 0 [] (av (am R (az false) tp) [0,1,2,6,15,16] [1000,1001,1002,1003,1004] s h)=X->
  s 0=ac 1000->s 1=I k->s 2=cl->s 6=I st->s 15=I N->s 16=I i->h 1000=bQ ds cs p->h 1001=o1->h 1002=o2->h 1003=o3->h 1004=o4->
  ∃cs' hh,X=some (.normal,⟨fun _=>.any,hh⟩)/\hh 1000=bQ ds cs' p/\hh 1001=o1/\hh 1002=o2/\hh 1003=o3/\hh 1004=o4/\kN N cs' (ps op st n m i g):=by
 obtain⟨c1,c2,c3,c4,c5,lr⟩:=L;intro m;induction m with
 |zero=>
  intro i hm cs g he s h X hX g0 g1 g2 g6 g15 g16 k0 k1 k2 k3 k4;subst hX;have e1:((i:Int)<N)=False:=ff;have hg:=(cR ds cs p).cl [1000,1001,1002,1003,1004];rw[ah];refine⟨cs,?hh0,?_,?_,?_,?_,?_,?_,he⟩;rotate_left
  ·simp only[Gr,go_sem,g0,g1,g2,g6,g15,g16,k0,k1,k2,k3,k4,hg,c1,c2,c3,c4,c5,e1];rfl
  all_goals rfl
 |succ m ih=>
  intro i hm cs g he s h X hX g0 g1 g2 g6 g15 g16 k0 k1 k2 k3 k4;subst hX;have e1:((i:Int)<N)=True:=tt;have hg:=(cR ds cs p).cl [1000,1001,1002,1003,1004];have w1:IntKind.i64.wrap (Int.tdiv (i:Int) st)=((i/st:Nat):Int):=by
   have:=Nat.div_le_self i st;grind[wi]
  have w2:aG ((n:Int)+1)=((n+1:Nat):Int):=wi;have w4:aG ((i:Int)+1)=((i+1:Nat):Int):=wi;have d1:((st:Int)=0)=False:=ff;have d2:(((n+1:Nat):Int)=0)=False:=ff;have hr:=lr i cs g he ω;have ih':=ih (i+1) ω;have hps:ps op st n (m+1) i g=ps op st n m (i+1) (if i/st% (n+1)=0 then op i g else g):=rfl;rw[hps,ah];generalize av _ _ _=L at ih'⊢;have hkl:k<ds.length:=(List.getElem?_eq_some_iff.1 hk).1;have i1:(0<=(k:Int))=True:=tt;have i2:((k:Int)< (ds.length:Int))=True:=tt;have q1:(aV ds)[k]?=some [I n]:=by grind[aV]
  by_cases h0:i/st% (n+1)=0
  ·have e2:(Int.tmod ((i/st:Nat):Int) ((n+1:Nat):Int)=0)=True:=eq_true γ;rw[if_pos h0];have hr:=hr h0;simp only[bQ]at k0 hg;simp only[Gr,go_sem,g0,g1,g2,g6,g15,g16,k0,k1,k2,k3,k4,hg,c1,c2,c3,c4,c5,e1,e2,w1,w2,d1,d2,tQ,Br,q1,i1,i2,aCQ,aCI];generalize hX:am R (az false) Ea _ _=X;obtain⟨cs',hh,rfl,r0,r1,r2,r3,r4,he2⟩:=hr _ _ _ hX rfl rfl rfl rfl rfl rfl rfl rfl rfl rfl rfl rfl rfl;simp only[go_sem,w4,c5];exact ih' cs' _ he2 _ _ _ rfl rfl rfl rfl rfl rfl rfl r0 r1 r2 r3 r4
  ·have e2:(Int.tmod ((i/st:Nat):Int) ((n+1:Nat):Int)=0)=False:=eq_false γ;rw[if_neg h0];simp only[bQ]at k0 hg;simp only[Gr,go_sem,g0,g1,g2,g6,g15,g16,k0,k1,k2,k3,k4,hg,c1,c2,c3,c4,c5,e1,e2,w1,w2,w4,d1,d2,tQ,Br,q1,i1,i2,aCQ,aCI];exact ih' cs g he _ _ _ rfl rfl rfl rfl rfl rfl rfl rfl rfl rfl rfl rfl
def dI(l:List Nat):List Int:=l.map Int.ofNat
def bO:List Nat->Nat->Nat
 |[],n=>n
 |d::l,n=>bO l (n*(d+1))
theorem M9:∀ (ds:List Nat) (n:Nat),PE (dI ds) (n:Int)=(bO ds n:Nat)
 |[],_=>rfl
 |d::ds,n=>by
  show PE (dI ds) ((n:Int)*(Int.ofNat d+1))=(bO ds (n*(d+1)):Nat);rw[←M9 ds (n*(d+1)),Int.natCast_mul];rfl
theorem qw:∀ (ds:List Nat) (n:Nat),0<n->n<=bO ds n
 |[],_,_=>aCJ _
 |d::ds,n,h=>aCP (Nat.le_mul_of_pos_right n (Nat.succ_pos d)) (qw ds _ (Nat.mul_pos h (Nat.succ_pos d)))
theorem PF:∀ (ds:List Nat) (n:Nat),bO ds n=n*bO ds 1
 |[],n=>(Nat.mul_one n).symm
 |d::ds,n=>by
  show bO ds (n*(d+1))=n*bO ds (1*(d+1));rw[PF ds (n*(d+1)),PF ds (1*(d+1)),Nat.one_mul,aC9]
theorem JV:∀ (ds:List Nat) (k n d:Nat),ds[k]?=some d->bO ds n=bO (ds.take k) n*(d+1)*bO (ds.drop (k+1)) 1
 |d'::ds,0,n,d,h=>by
  have:d'=d:=γ
  subst this;exact PF ds _
 |d'::ds,k+1,n,d,h=>JV ds k (n*(d'+1)) d γ
 |[],_,_,_,h=>by grind
theorem acK{H:Nat}(hN:N=st*(n+1)*H)(hs:0<st)(hf:f<N)(h0:f/st% (n+1)=0):f+n*st<N:=by
 have h1:=aDC f st;have h2:=aDj f hs;have h3:=aDC (f/st) (n+1);rw[h0,aDm]at h3;generalize f/st/ (n+1)=q at*
 have h4:q<H:=by
  refine Nat.lt_of_mul_lt_mul_left (a:=st*(n+1)) ?_;rw[←hN,aC9,h3];omega
 have h5:st*(n+1)*(q+1)<=N:=by
  rw[hN];exact aDD _ h4
 rw[←h3]at h1;grind
theorem aie{p:Int}{k:Nat}{lo:Ri}{l:Rat}{g:G}(hl:In l lo)(hw:In u w)(hk:dn[k]?=some n)(h8:dn.length<=8)(hb:∀d∈dn,d<=32)(hN4:bO dn 1<=400)(he:kN (bO dn 1) cs g):
  ∃cs',R faB [ac 1000,I k,.fn faF [] [ac 1001,ac 1002,ac 1003,ac 1004]] [bQ (dI dn) cs p,.bx [I n],.bx [ac 1000],gV lo,gV w]=some (.tup [],[bQ (dI dn) cs' p,.bx [I n],.bx [ac 1000],gV lo,gV w])/\
   kN (bO dn 1) cs' (ps (fun f=>Rb l u n (fun j=>f+j*bO (dn.take k) 1)) (bO (dn.take k) 1) n (bO dn 1) 0 g):=by
 have hkl:k<dn.length:=(List.getElem?_eq_some_iff.1 hk).1;have hn:n<=32:=hb n (List.mem_of_getElem? hk);have hbI:∀d∈dI dn,0<=d/\d<=32:=fun d hd=>by
  obtain⟨x,hx,rfl⟩:=List.mem_map.1 hd;grind
 have hsp:=JV dn k 1 n hk;have hs0:=qw (dn.take k) 1 δ;have hst:bO (dn.take k) 1<=400:=by
  refine aCP ?_ hN4;rw[hsp,aC9];exact Nat.le_mul_of_pos_right _ (Nat.mul_pos (Nat.succ_pos n) (qw _ 1 δ))
 have hstep:=fun(h:ae) (d:Nat) (hh:h 1000=bQ (dI dn) cs p) (hd:h (2000+8*d)=.dead)=>dX (n7 false) rfl (Mb (m:=k) (by grind[dI]) ω hbI (d:=d) hh hd);rw[show(dI dn).take k=dI (dn.take k)from(List.map_take ..).symm,show(1:Int)=((1:Nat):Int)from rfl,M9]at hstep;generalize bO (dn.take k) 1=st at*
 generalize bO dn 1=N at*
 have L:LnO (.fn faF [] [ac 1001,ac 1002,ac 1003,ac 1004]) (dI dn) p N k st n (fun f=>Rb l u n (fun j=>f+j*st)) (.bx [I n]) (.bx [ac 1000]) (gV lo) (gV w):=by
  refine⟨rfl,rfl,(iq lo).cl _,(iq w).cl _,rfl,?_⟩;intro f cs g he hf h0 s h X hX g0 g1 g2 g6 g7 g15 g16 k0 k1 k2 k3 k4 kd;subst hX;obtain⟨cs',hR,he'⟩:=alc (ds:=dI dn) (p:=p) hl hw he (acK hsp ω hf h0) hN4 ω;have hc:=afk hR (d:=35) k0 k1 k2 k3 k4 kd;refine⟨cs',?hh0,?_,?_,?_,?_,?_,?_,he'⟩;rotate_left
  ·simp only[Ea,go_sem,g0,g1,g2,g6,g7,g15,g16,hc];rfl
  all_goals rfl
 refine M8 bK.2.1 bK.2.2 (bK.1.2.2.2 false) rfl (aDa rfl) ?_;have hll:=Rz L hN4 ω hst ω (by grind[dI]) N 0 (aCI _) cs g he;simp only[qD,xg,Zi,go_sem];rw[hstep _ _ rfl rfl];have hlen:(cs.length:Int)=N:=by rw[he.1]
 have hgo:=(cR (dI dn) cs p).cl [1000,1001,1002,1003,1004];simp only[bQ]at hgo⊢;simp only[go_sem,hlen,hgo,(iq lo).cl,(iq w).cl];generalize hX:ak 0 _ _=X;obtain⟨cs',hh,rfl,k0,k1,k2,k3,k4,he2⟩:=hll _ _ _ hX rfl rfl rfl rfl rfl rfl rfl rfl rfl rfl rfl;refine⟨cs',?_,he2⟩;have hp5:dD 5=[1000,1001,1002,1003,1004]:=rfl;refine Ry (by grind[List.map,bQ]) ?_;rfl
theorem aif{p:Int}{k:Nat}{g:G}(hk:dn[k]?=some n)(h8:dn.length<=8)(hb:∀d∈dn,d<=32)(hN4:bO dn 1<=400)(he:kN (bO dn 1) cs g):
  ∃cs',R faB [ac 1000,I k,.fn faA [] [ac 1001,ac 1002]] [bQ (dI dn) cs p,.bx [I n],.bx [ac 1000]]=some (.tup [],[bQ (dI dn) cs' p,.bx [I n],.bx [ac 1000]])/\
   kN (bO dn 1) cs' (ps (fun f=>Rc n (fun j=>f+j*bO (dn.take k) 1)) (bO (dn.take k) 1) n (bO dn 1) 0 g):=by
 have hkl:k<dn.length:=(List.getElem?_eq_some_iff.1 hk).1;have hn:n<=32:=hb n (List.mem_of_getElem? hk);have hbI:∀d∈dI dn,0<=d/\d<=32:=fun d hd=>by
  obtain⟨x,hx,rfl⟩:=List.mem_map.1 hd;grind
 have hsp:=JV dn k 1 n hk;have hs0:=qw (dn.take k) 1 δ;have hst:bO (dn.take k) 1<=400:=by
  refine aCP ?_ hN4;rw[hsp,aC9];exact Nat.le_mul_of_pos_right _ (Nat.mul_pos (Nat.succ_pos n) (qw _ 1 δ))
 have hstep:=fun(h:ae) (d:Nat) (hh:h 1000=bQ (dI dn) cs p) (hd:h (2000+8*d)=.dead)=>dX (n7 false) rfl (Mb (m:=k) (by grind[dI]) ω hbI (d:=d) hh hd);rw[show(dI dn).take k=dI (dn.take k)from(List.map_take ..).symm,show(1:Int)=((1:Nat):Int)from rfl,M9]at hstep;generalize bO (dn.take k) 1=st at*
 generalize bO dn 1=N at*
 have L:LnO (.fn faA [] [ac 1001,ac 1002]) (dI dn) p N k st n (fun f=>Rc n (fun j=>f+j*st)) (.bx [I n]) (.bx [ac 1000]) .dead .dead:=by
  refine⟨rfl,rfl,rfl,rfl,rfl,?_⟩;intro f cs g he hf h0 s h X hX g0 g1 g2 g6 g7 g15 g16 k0 k1 k2 k3 k4 kd;subst hX;obtain⟨cs',hR,he'⟩:=ald (ds:=dI dn) (p:=p) he (acK hsp ω hf h0) hN4 ω;have hc:=afl hR (d:=35) k0 k1 k2 kd;refine⟨cs',?hh0,?_,?_,?_,?_,?_,?_,he'⟩;rotate_left
  ·simp only[Ea,go_sem,g0,g1,g2,g6,g7,g15,g16,hc];rfl
  all_goals first|rfl|assumption
 refine M8 bK.2.1 bK.2.2 (bK.1.2.2.2 false) rfl (aDa rfl) ?_;have hll:=Rz L hN4 ω hst ω (by grind[dI]) N 0 (aCI _) cs g he;simp only[qD,xg,Zj,go_sem];rw[hstep _ _ rfl rfl];have hlen:(cs.length:Int)=N:=by rw[he.1]
 have hgo:=(cR (dI dn) cs p).cl [1000,1001,1002,1003,1004];simp only[bQ]at hgo⊢;simp only[go_sem,hlen,hgo];generalize hX:ak 0 _ _=X;obtain⟨cs',hh,rfl,k0,k1,k2,k3,k4,he2⟩:=hll _ _ _ hX rfl rfl rfl rfl rfl rfl rfl rfl rfl rfl rfl;refine⟨cs',?_,he2⟩;have hp5:dD 3=[1000,1001,1002]:=rfl;refine Ry (by grind[List.map,bQ]) ?_;rfl
theorem aoc{p:Int}{k:Nat}{g:G}(hk:dn[k]?=some n)(h8:dn.length<=8)(hb:∀d∈dn,d<=32)(hN4:bO dn 1<=400)(he:kN (bO dn 1) cs g):
  ∃cs',R faz [ac 1000,I k] [bQ (dI dn) cs p]=some (.tup [],[bQ (dI dn) cs' p])/\kN (bO dn 1) cs' (ps (fun f=>Rc n (fun j=>f+j*bO (dn.take k) 1)) (bO (dn.take k) 1) n (bO dn 1) 0 g):=by
 obtain⟨cs',hR,he'⟩:=aif (p:=p) hk h8 hb hN4 he;refine⟨cs',oO fC.2.1 fC.2.2 (fC.1.2.2.2 false) rfl ?_,he'⟩;have e3:(aV (dI dn))[k]?=some [I n]:=by grind[aV,dI]
 have e7:(0<=(k:Int))=True:=tt;have e8:((k:Int)< ((dI dn).length:Int))=True:=eq_true (by grind[dI]);have hl:=fun(h:ae) (d:Nat) h0 h1 h2 hf=>Zk (bK.1.2.1 false) rfl (Rx hR (h:=h) (d:=d) h0 h1 h2 hf);simp only[bQ]at hl⊢;simp only[qM,go_sem,aCI];rw[ah7 (cs:=[.osl 1 (aV (dI dn)),.osl 7 (bS cs),I p]) rfl rfl];simp only[go_sem,e3,e7,e8,Dl,aCQ,aCI,tQ,Br];rw[hl _ _ rfl rfl rfl rfl];rfl
theorem aod{p:Int}{k:Nat}{b:Ri}{g:G}(vl:vd b.lo=true/\Ok0 b.lo)(vh:vd b.hi=true/\Ok0 b.hi)(hk:dn[k]?=some n)(h8:dn.length<=8)(hb:∀d∈dn,d<=32)(hN4:bO dn 1<=400)(he:kN (bO dn 1) cs g):
  ∃cs',R faE [ac 1000,I k,aj b] [bQ (dI dn) cs p]=some (.tup [],[bQ (dI dn) cs' p])/\kN (bO dn 1) cs' (ps (fun f=>Rb (qv b.lo) (qv b.hi-qv b.lo) n (fun j=>f+j*bO (dn.take k) 1)) (bO (dn.take k) 1) n (bO dn 1) 0 g):=by
 have i1:=ip vl.1 vl.2;have i2:=ip vh.1 vh.2;have i3:=Bo (p:=p) i2 i1;obtain⟨cs',hR,he'⟩:=aie (p:=p) i1 i3 hk h8 hb hN4 he;refine⟨cs',oO jo.2.1 jo.2.2 (jo.1.2.2.2 false) rfl ?_,he'⟩;have e3:(aV (dI dn))[k]?=some [I n]:=by grind[aV,dI]
 have e7:(0<=(k:Int))=True:=tt;have e8:((k:Int)< ((dI dn).length:Int))=True:=eq_true (by grind[dI]);have hl:=fun(h:ae) (d:Nat) h0 h1 h2 h3 h4 hf=>Zk (bK.1.2.1 false) rfl (Rw hR (h:=h) (d:=d) h0 h1 h2 h3 h4 hf);have p1:=gO vl.2 vl.1;have p2:=gO vh.2 vh.1;have p3:=M1 i2.ok i1.ok (p:=p);simp only[bQ,gV]at hl⊢;simp only[af,ai,aj,ao]at p1 p2 p3;simp only[xc,aj,ao,go_sem,aCI];rw[ah7 (cs:=[.osl 1 (aV (dI dn)),.osl 7 (bS cs),I p]) rfl rfl];simp only[go_sem,e3,e7,e8,Dl,aCQ,aCI,tQ,Br,p1,p2,p3];rw[hl _ _ rfl rfl rfl rfl rfl rfl];rfl
theorem ale(hn:n<=400):R fam [W 1,W n] []=some (.tup [W 0,W n],[]):=by
 refine au Yb rfl ?_;have a1:eX .and (W 1) (W 4294967295)=some (W 1):=rfl;have a2:eX .and (W n) (W 4294967295)=some (W n):=by
  rw[zX rfl ω,aDq ω]
 have s1:eX .shr (W 1) (W 32)=some (W 0):=rfl;have s2:eX .shr (W n) (W 32)=some (W 0):=(qE (i:=(n:Int)) (j:=32) (k:=32) rfl rfl δ).trans γ;have s3:eX .shr (W 0) (W 32)=some (W 0):=rfl;have a3:eX .and (W 0) (W 4294967295)=some (W 0):=rfl;have w1:IntKind.u64.wrap (1*(n:Int))=n:=dG ω ω;have w2:IntKind.u64.wrap (0*(n:Int))=0:=by rw[Int.zero_mul];rfl
 have w3:IntKind.u64.wrap ((0:Int)+0)=0:=rfl;have w4:IntKind.u64.wrap ((1:Int)*0)=0:=rfl;have w5:IntKind.u64.wrap ((0:Int)*0)=0:=rfl;simp only[Eu,go_sem,a1,a2,a3,s1,s2,s3,w1,w2,w3,w4,w5]
theorem aoe(hn:n<=400):R fak [W 1,W n] []=some (.tup [W 0,W n],[]):=by
 refine au aeH rfl ?_;have h:=ale hn;simp only[HL,go_sem,h]
theorem alf{X Z:List AV}(hN:N<=400)(c:List Bool):∀ (k m:Nat),N-m<=k->1<=m->m<=N->∀ (s:ap) (h:ae) (Y:Option (Ex×St)),ak 0 [7] (av (am R (az false) dm) [7,8] [30] s h)=Y->
  s 7=.rsl 30 none 7 0 N->s 8=I m->h 30=.ar 7 (aCG m X++aCG (N-m) Z)->
  ∃hh,Y=some (.normal,⟨upd bk 7 (.rsl 30 none 7 0 N),hh⟩)/\hh 30=.ar 7 (aCG N X):=by
 intro k;induction k with
 |zero=>
  intro m hk h1 hm s h Y hY g7 g8 k30;subst hY;have e:m=N:=ω
  subst e;have e1:((m:Int)<m)=False:=ff;rw[Nat.sub_self,List.replicate_zero,aCY]at k30;rw[ah];refine⟨?hh0,?_,?_⟩;rotate_left
  ·simp only[dm,go_sem,g7,g8,k30,e1];rfl
  ·rfl
 |succ k ih=>
  intro m hk h1 hm s h Y hY g7 g8 k30;by_cases hq:m=N
  ·exact ih m ω h1 hm s h Y hY g7 g8 k30
  subst hY;have e1:((m:Int)<N)=True:=tt;have e2:fA 7 (.rsl 30 none 7 0 N) (some (I (m:Int))) none none=some (.rsl 30 none 7 m (N-m)):=by grind[fA,lP,lG]
  have e3:fA 7 (.rsl 30 none 7 0 N) none (some (I (m:Int))) none=some (.rsl 30 none 7 0 m):=by grind[fA,lP,lG]
  obtain⟨q,hq2⟩:∃q,min (N-m) m=q:=⟨_,rfl⟩;have hq3:min m (N-m)=q:=ω
  have ih':=ih (m+q) ω ω ω;have hl:(aCG m X++aCG (N-m) Z).length=N:=γ
  have t1:List.take q (aCG m X++aCG (N-m) Z)=aCG q X:=by
   grind
  have t2:List.take m (aCG m X++aCG (N-m) Z)=aCG m X:=by
   grind
  have t3:List.drop (m+q) (aCG m X++aCG (N-m) Z)=aCG (N- (m+q)) Z:=by
   rw[List.drop_append,aC3 σ,aDK,aCT,List.drop_replicate];grind
  have t4:aCG m X++aCG q X=aCG (m+q) X:=List.replicate_append_replicate;have e4:(0+q<=N)=True:=tt;have e5:(m<=N)=True:=eq_true hm;have w1:aG ((m:Int)+(q:Int))=((m+q:Nat):Int):=wi;rw[ah];simp only[dm,go_sem,g7,g8,k30,e1,e2,e3,hq2,hq3,hl,t1,t2,t3,t4,e4,e5,aDK,w1];exact ih' _ _ _ rfl rfl rfl rfl
theorem aig(h1:1<=n)(hn:n<=400):R fer [.sl 7 [ao x],I n] []=some (.osl 7 (bS (aCG n x)),[]):=by
 refine au tv rfl ?_;have hm:=aoe hn;have w1:IntKind.u64.wrap 1=1:=δ
 have w2:((0+1:Nat):Int)=1:=rfl;have w3:IntKind.u64.wrap (n:Int)=n:=dG rfl ω;have w4:aG (n:Int)=n:=wi rfl ω;have e1:((0:Int)<0)=False:=ff δ;have e2:((n:Int)<0)=False:=ff;have e3:(9223372036854775807< (n:Int))=False:=ff;have z1:qA (.v (.int .i64 (n:Int))) (.v (.int .i64 (n:Int)))=some (n,n):=by
  simp only[qA];grind
 have z2:(n*88<=140737488355328)=True:=tt;have tk:∀A:List AV,List.take n [A]=[A]:=fun A=>aCX ω;have hmin:min 1 n=1:=aDx h1;have dr:List.drop 1 (aCG n [B false,.emp,I 0,B false,.emp,I 0,B false])=aCG (n-1) [B false,.emp,I 0,B false,.emp,I 0,B false]:=List.drop_replicate;have hl:=alf (X:=ao x) (Z:=[B false,.emp,I 0,B false,.emp,I 0,B false]) hn [] n 1 ω (aCJ _) h1;simp only[fF,jX,ao,go_sem,aDp,aDs,w1,w2,w3,w4,hm,e1,e2,e3,z1,z2,tk,hmin,dr,aC7,aDK,true_and,Int.natCast_one];generalize hX:ak 0 _ _=X;obtain⟨hh,rfl,q⟩:=hl _ _ _ hX rfl rfl rfl;simp only[go_sem,q,aDK,aCI,aCJ,if_true,aCN,aDt];grind[bS,List.map_replicate]
theorem Zm{l:List Nat}(h:i<l.length):(dI l)[i]?=some ((l.getD i 0:Nat):Int):=by
 grind[dI]
theorem aq4{l:List Nat}(h:i<l.length):(aV (dI l))[i]?=some [I (l.getD i 0:Nat)]:=by
 grind[aV,Zm]
theorem IL(l:List Nat):(dI l).length=l.length:=by simp[dI]
def Mx(dn dn' es:List Nat)(i:Nat):Prop:=dn'.length=dn.length/\(∀d∈dn',d<=32)/\(∀j,dn.getD j 0<=dn'.getD j 0)/\∀j,i<=j->es.getD j 0<=dn'.getD j 0
theorem aof{v:Nat}{p:Int}(h8:v<=8)(hes:es.length=v)(he32:∀e∈es,e<=32){o2 o8:Ob}(c2:∀l,aF l o2=true)(c8:∀l,aF l o8=true){A:List Rt}{nA iA:Int}:
  ∀ (k i:Nat),i+k=v->∀dn:List Nat,dn.length=v->(∀d∈dn,d<=32)->∀ (s:ap) (h:ae) (X:Option (Ex×St)),ak 2 [2,6,26,27,28] (av (am R (az false) nV) [2,6,26,27,28,33,34,35] [2,8,21,24,2624] s h)=X->s 2=ac 2->s 6=ac 24->s 26=.sl 4 (aL A)->s 27=I nA->s 28=I iA->s 33=.sl 1 (aV (dI es))->s 34=I v->s 35=I i->h 2=o2->h 8=o8->h 21=.dead->h 24=.bx [.osl 1 (aV (dI dn)),.emp,I p]->h 2624=.dead->
  ∃hh dn',X=some (.normal,⟨upd (upd (upd (upd (upd bk 28 (I iA)) 27 (I nA)) 26 (.sl 4 (aL A))) 6 (ac 24)) 2 (ac 2),hh⟩)/\hh 2=o2/\hh 24=.bx [.osl 1 (aV (dI dn')),.emp,I p]/\hh 21=.dead/\hh 2624=.dead/\Mx dn dn' es i:=by
 intro k;induction k with
 |zero=>
  intro i hi dn hd hb s h X hX g2 g6 g26 g27 g28 g33 g34 g35 k2 k8 k21 k24 k2624;subst hX;have e1:((i:Int)< (v:Int))=False:=ff;have hc:=c2 [2,8,21,24,2624];have hc8:=c8 [2,8,21,24,2624];rw[ah];refine⟨?hh0,dn,?_,?_,?_,?_,?_,rfl,hb,fun _=>aCJ _,fun j hj=>?_⟩;rotate_left
  ·simp only[nV,go_sem,g2,g6,g26,g27,g28,g33,g34,g35,k2,k8,k21,k24,k2624,hc,hc8,e1];rfl
  ·rfl
  ·rfl
  ·rfl
  ·rfl
  grind
 |succ k ih=>
  intro i hi dn hd hb s h X hX g2 g6 g26 g27 g28 g33 g34 g35 k2 k8 k21 k24 k2624;subst hX;have hlt:i<v:=ω
  have e1:((i:Int)< (v:Int))=True:=tt;have e2:=aq4 (l:=dn) (i:=i) ω;have e3:aZ (aV (dI es)) (i:Int)=some (.ipt [I (es.getD i 0:Nat)]):=pH rfl (Zm ω);have e5:aG ((i:Int)+1)=((i+1:Nat):Int):=wi;have e6:(0<=(i:Int))=True:=tt;have e7:((i:Int)< ((dI dn).length:Int))=True:=eq_true (by grind[IL]);have hc:=c2 [2,8,21,24,2624];have hc8:=c8 [2,8,21,24,2624];obtain⟨m,hm⟩:∃m,max (dn.getD i 0) (es.getD i 0)=m:=⟨_,rfl⟩;have em:(if((dn.getD i 0:Nat):Int)< ((es.getD i 0:Nat):Int)then((es.getD i 0:Nat):Int)else((dn.getD i 0:Nat):Int))=(m:Int):=by
   omega
  have e4:tZ 1 1 i 0 [I (m:Int)] 1 (aV (dI dn))=some (aV (dI (dn.set i m))):=by
   simp_all[tZ,if_pos,setRow,aV,dI,List.map_set]
  have hms:∀d∈dn.set i m,d<=32:=fun d hd2=>by
   rcases List.mem_or_eq_of_mem_set hd2 with h|h
   ·exact hb d h
   ·subst h;have h1:dn.getD i 0<=32:=by
     rw[List.getD_eq_getElem?_getD,List.getElem?_eq_getElem ω];exact hb _ (aC0 _)
    have h2:es.getD i 0<=32:=by
     rw[List.getD_eq_getElem?_getD,List.getElem?_eq_getElem ω];exact he32 _ (aC0 _)
    omega
  have ih':=ih (i+1) ω (dn.set i m) (by rw[List.length_set];exact hd) hms;rw[ah];generalize av _ _ _=L at ih'⊢;simp only[nV,go_sem,g2,g6,g26,g27,g28,g33,g34,g35,k2,k8,k21,k24,k2624,hc,hc8,e1,e2,e3,e5,e6,e7,aCQ,aCI,tQ,Br,an3,em,e4];generalize hX:ak 2 _ _=X;obtain⟨hh,dn',q1,q2,q3,q4,q5,m1,m2,m3,m4⟩:=ih' _ _ _ hX rfl rfl rfl rfl rfl rfl rfl rfl rfl rfl rfl rfl rfl;refine⟨hh,dn',q1,q2,q3,q4,q5,by rw[m1,List.length_set],m2,fun j=>?_,fun j hj=>?_⟩
  all_goals grind
def Nt(v:Nat)(t:Rt)(es:List Nat):Prop:=t.exps=dI es/\es.length=v/\∀e∈es,e<=32
theorem aog{v:Nat}{p:Int}(h8:v<=8)(hA:A.length=E.length)(h5:A.length<=500)(hn:∀ (i:Nat) (t:Rt) (es:List Nat),A[i]?=some t->E[i]?=some es->Nt v t es){o2:Ob}(c2:∀l,aF l o2=true):
  ∀ (k i:Nat),i+k=A.length->∀dn:List Nat,dn.length=v->(∀d∈dn,d<=32)->∀ (s:ap) (h:ae) (X:Option (Ex×St)),ak 0 [2,6] (av (am R (az false) sy) [2,6,26,27,28] [2,21,24,2624] s h)=X->s 2=ac 2->s 6=ac 24->s 26=.sl 4 (aL A)->s 27=I A.length->s 28=I i->h 2=o2->h 21=.dead->h 24=.bx [.osl 1 (aV (dI dn)),.emp,I p]->h 2624=.dead->
  ∃hh dn',X=some (.normal,⟨upd (upd bk 6 (ac 24)) 2 (ac 2),hh⟩)/\hh 2=o2/\hh 24=.bx [.osl 1 (aV (dI dn')),.emp,I p]/\hh 21=.dead/\hh 2624=.dead/\dn'.length=v/\(∀d∈dn',d<=32)/\(∀j,dn.getD j 0<=dn'.getD j 0)/\∀ (a:Nat) (es:List Nat),i<=a->E[a]?=some es->∀j,es.getD j 0<=dn'.getD j 0:=by
 intro k;induction k with
 |zero=>
  intro i hi dn hd hb s h X hX g2 g6 g26 g27 g28 k2 k21 k24 k2624;subst hX;have e1:((i:Int)< (A.length:Int))=False:=ff;have hc:=c2 [2,21,24,2624];rw[ah];refine⟨?hh0,dn,?_,?_,?_,?_,?_,hd,hb,fun _=>aCJ _,fun a es ha he=>?_⟩;rotate_left
  ·simp only[sy,go_sem,g2,g6,g26,g27,g28,k2,k21,k24,k2624,hc,e1];rfl
  ·rfl
  ·rfl
  ·rfl
  ·rfl
  grind
 |succ k ih=>
  intro i hi dn hd hb s h X hX g2 g6 g26 g27 g28 k2 k21 k24 k2624;subst hX;have e1:((i:Int)< (A.length:Int))=True:=tt;obtain⟨t,ht⟩:∃t,A[i]?=some t:=⟨_,List.getElem?_eq_getElem ω⟩;obtain⟨es,hes⟩:∃es,E[i]?=some es:=⟨_,List.getElem?_eq_getElem ω⟩;obtain⟨n1,n2,n3⟩:=hn i t es ht hes;have e2:aZ (aL A) (i:Int)=some (.ipt (ce t)):=iY rfl ht;have e5:aG ((i:Int)+1)=((i+1:Nat):Int):=wi;have hc:=c2 [2,21,24,2624];have hg:=aof (p:=p) h8 n2 n3 c2 (o8:=.bx [.sl 1 (aV (dI es)),B t.c.neg,lm t.c.m,I t.c.e]) (fun _=>rfl) (A:=A) (nA:=A.length) (iA:=i) v 0 (aCI _) dn hd hb;have e3:(aV (dI es)).length=v:=by rw[Dl,IL,n2]
  rw[ce,n1]at e2;have ih':=ih (i+1) ω;rw[ah];simp only[sy,go_sem,g2,g6,g26,g27,g28,k2,k21,k24,k2624,hc,e1,e2,e3];generalize hX:ak 2 _ _=X;obtain⟨hh,dn',rfl,q2,q24,q21,q2624,m1,m2,m3,m4⟩:=hg _ _ _ hX rfl rfl rfl rfl rfl rfl rfl rfl rfl rfl rfl rfl rfl;simp only[go_sem,e5];generalize hX:ak 0 _ _=X;obtain⟨hh2,dn2,r1,r2,r3,r4,r5,u1,u2,u3,u4⟩:=ih' dn' ω m2 _ _ _ hX rfl rfl rfl rfl rfl q2 q21 q24 q2624;grind
theorem UY:∀ (l:List Nat) (d n:Nat),bO (l++[d]) n=bO l n*(d+1)
 |[],_,_=>rfl
 |a::l,d,n=>UY l d (n*(a+1))
theorem aih(h:i<dn.length):bO (dn.take (i+1)) 1=bO (dn.take i) 1*(dn.getD i 0+1):=by
 grind[List.take_add_one,UY]
theorem alg(h:i<dn.length)(h2:i<es.length):pos (dn.drop i) (es.drop i) s=es.getD i 0*s+pos (dn.drop (i+1)) (es.drop (i+1)) (s*(dn.getD i 0+1)):=by
 rw[aC4 h,aC4 h2,List.getD_eq_getElem?_getD,List.getD_eq_getElem?_getD,List.getElem?_eq_getElem h,List.getElem?_eq_getElem h2];rfl
theorem aoh{cs:List Ri}{p:Int}{v:Nat}(h8:v<=8)(hd:dn.length=v)(hb:∀d∈dn,d<=32)(hN4:bO dn 1<=400)(hes:es.length=v)(he32:∀e∈es,e<=32){o2 o15:Ob}(c2:∀l,aF l o2=true)(c15:∀l,aF l o15=true){A:List Rt}{nA iA:Int}:
  ∀ (k i:Nat),i+k=v->∀ (at_:Nat),at_+pos (dn.drop i) (es.drop i) (bO (dn.take i) 1)<=400->∀ (s:ap) (h:ae) (X:Option (Ex×St)),ak 8 [6,15,16,82,83,84] (av (am R (az false) kU) [6,15,16,82,83,84,89,90,91] [2,15,21,24,2624] s h)=X->s 6=ac 24->s 15=ac 15->s 16=I at_->s 82=.sl 4 (aL A)->s 83=I nA->s 84=I iA->s 89=.sl 1 (aV (dI es))->s 90=I v->s 91=I i->h 2=o2->h 15=o15->h 21=.dead->h 24=bQ (dI dn) cs p->h 2624=.dead->
  ∃hh,X=some (.normal,⟨upd (upd (upd (upd (upd (upd bk 84 (I iA)) 83 (I nA)) 82 (.sl 4 (aL A))) 16 (I (at_+pos (dn.drop i) (es.drop i) (bO (dn.take i) 1):Nat))) 15 (ac 15)) 6 (ac 24),hh⟩)/\hh 2=o2/\hh 15=o15/\hh 24=bQ (dI dn) cs p/\(∀a,a≠2->a≠15->a≠24->hh a=.dead):=by
 intro k;induction k with
 |zero=>
  intro i hi at_ hat s h X hX g6 g15 g16 g82 g83 g84 g89 g90 g91 k2 k15 k21 k24 k2624;subst hX;have e1:((i:Int)< (v:Int))=False:=ff;have hc:=c2 [2,15,21,24,2624];have hc15:=c15 [2,15,21,24,2624];have hg:=(cR (dI dn) cs p).cl [2,15,21,24,2624];rw[aC3 (show dn.length<=i by omega)];have hp0:∀s,pos [] (es.drop i) s=0:=fun s=>by grind[pos]
  rw[hp0,aDm,ah];refine⟨?hh0,?_,?_,?_,?_,?_⟩;rotate_left
  ·simp only[kU,go_sem,g6,g15,g16,g82,g83,g84,g89,g90,g91,k2,k15,k21,k24,k2624,hc,hc15,hg,e1];rfl
  all_goals simp_all[cB,if_false,ite_self]
 |succ k ih=>
  intro i hi at_ hat s h X hX g6 g15 g16 g82 g83 g84 g89 g90 g91 k2 k15 k21 k24 k2624;subst hX;have e1:((i:Int)< (v:Int))=True:=tt;have e3:aZ (aV (dI es)) (i:Int)=some (.ipt [I (es.getD i 0:Nat)]):=pH rfl (Zm ω);have e5:aG ((i:Int)+1)=((i+1:Nat):Int):=wi;have hbI:∀d∈dI dn,0<=d/\d<=32:=fun d hd=>by
   obtain⟨x,hx,rfl⟩:=List.mem_map.1 hd;grind
  have hst:=fun(h:ae) (d:Nat) (hh:h 24=bQ (dI dn) cs p) (hd:h (2000+8*d)=.dead)=>dX (n7 false) rfl (Mb (m:=i) (by grind[IL]) ω hbI (d:=d) hh hd);rw[show(dI dn).take i=dI (dn.take i)from(List.map_take ..).symm,show(1:Int)=((1:Nat):Int)from rfl,M9]at hst;rw[alg ω ω,←aih ω,←aDE]at hat⊢;have ih':=ih (i+1) ω (at_+es.getD i 0*bO (dn.take i) 1) hat;generalize bO (dn.take i) 1=st at*
  generalize es.getD i 0=e at*
  have w1:aG ((e:Int)*(st:Int))=((e*st:Nat):Int):=wi (Int.natCast_mul ..).symm ω;have w2:aG ((at_:Int)+((e*st:Nat):Int))=((at_+e*st:Nat):Int):=wi;have hc:=c2 [2,15,21,24,2624];have hc15:=c15 [2,15,21,24,2624];have hg:=(cR (dI dn) cs p).cl [2,15,21,24,2624];rw[ah];simp only[kU,go_sem,g6,g15,g16,g82,g83,g84,g89,g90,g91,k2,k15,k21,k24,k2624,hc,hc15,hg,e1,e3];rw[hst _ _ rfl rfl];simp only[go_sem,w1,w2,e5];exact ih' _ _ _ rfl rfl rfl rfl rfl rfl rfl rfl rfl rfl rfl rfl rfl rfl rfl
def gT(dn:List Nat):List Rt->List (List Nat)->G->G
 |t::l,es::r,g=>gT dn l r (gs g (pos dn es 1) (qv t.c))
 |_,_,g=>g
theorem aoi{p:Int}{v:Nat}(h8:v<=8)(hd:dn.length=v)(hb:∀d∈dn,d<=32)(hN4:bO dn 1<=400)(hA:A.length=E.length)(h5:A.length<=500)(hn:∀ (i:Nat) (t:Rt) (es:List Nat),A[i]?=some t->E[i]?=some es->Nt v t es/\pos dn es 1<bO dn 1/\vd t.c=true/\Ok0 t.c){o2:Ob}(c2:∀l,aF l o2=true):
  ∀ (k i:Nat),i+k=A.length->∀ (cs:List Ri) (g:G),kN (bO dn 1) cs g->∀ (s:ap) (h:ae) (X:Option (Ex×St)),ak 6 [6] (av (am R (az false) nU) [6,82,83,84] [2,21,24,2624] s h)=X->s 6=ac 24->s 82=.sl 4 (aL A)->s 83=I A.length->s 84=I i->h 2=o2->h 21=.dead->h 24=bQ (dI dn) cs p->h 2624=.dead->
  ∃hh cs',X=some (.normal,⟨upd bk 6 (ac 24),hh⟩)/\hh 24=bQ (dI dn) cs' p/\kN (bO dn 1) cs' (gT dn (A.drop i) (E.drop i) g):=by
 intro k;induction k with
 |zero=>
  intro i hi cs g he s h X hX g6 g82 g83 g84 k2 k21 k24 k2624;subst hX;have e1:((i:Int)< (A.length:Int))=False:=ff;have hc:=c2 [2,21,24,2624];have hg:=(cR (dI dn) cs p).cl [2,21,24,2624];rw[aC3 (show A.length<=i by omega),ah];refine⟨?hh0,cs,?_,?_,he⟩;rotate_left
  ·simp only[nU,go_sem,g6,g82,g83,g84,k2,k21,k24,k2624,hc,hg,e1];rfl
  ·rfl
 |succ k ih=>
  intro i hi cs g he s h X hX g6 g82 g83 g84 k2 k21 k24 k2624;subst hX;have hlt:i<A.length:=ω
  have e1:((i:Int)< (A.length:Int))=True:=tt;obtain⟨t,ht⟩:∃t,A[i]?=some t:=⟨_,List.getElem?_eq_getElem hlt⟩;obtain⟨es,hes⟩:∃es,E[i]?=some es:=⟨_,List.getElem?_eq_getElem ω⟩;obtain⟨⟨n1,n2,n3⟩,n4,n5,n6⟩:=hn i t es ht hes;have hgT:gT dn (A.drop i) (E.drop i) g=gT dn (A.drop (i+1)) (E.drop (i+1)) (gs g (pos dn es 1) (qv t.c)):=by
   have h1:A[i]=t:=Option.some.inj (by rw[←ht,List.getElem?_eq_getElem hlt]);have h2:E[i]'(by omega)=es:=Option.some.inj (by rw[←hes,List.getElem?_eq_getElem ω]);rw[aC4 hlt,aC4 (by omega:i<E.length),h1,h2];rfl
  have e2:aZ (aL A) (i:Int)=some (.ipt (ce t)):=iY rfl ht;have e5:aG ((i:Int)+1)=((i+1:Nat):Int):=wi;have e3:(aV (dI es)).length=v:=by rw[Dl,IL,n2]
  rw[ce,n1]at e2;have h0:=aoh (cs:=cs) (p:=p) h8 hd hb hN4 n2 n3 c2 (o15:=.bx [.sl 1 (aV (dI es)),B t.c.neg,lm t.c.m,I t.c.e]) (fun _=>rfl) (A:=A) (nA:=A.length) (iA:=i) v 0 (aCI _) 0 (by
   show 0+pos dn es 1<=400;omega)
  have hp0:0+pos (dn.drop 0) (es.drop 0) (bO (dn.take 0) 1)=pos dn es 1:=aCI _;rw[hp0]at h0;have hpt:=gO n6 n5;have ih':=ih (i+1) ω _ _ (he.set (k:=pos dn es 1) (ip n5 n6));rw[hgT];generalize pos dn es 1=P at*
  have i1:(0<=(P:Int))=True:=tt;have i2:((P:Int)< (cs.length:Int))=True:=eq_true (by rw[he.1];omega);have sr1:tZ 7 7 P 0 (ao ⟨t.c,t.c,false⟩) 7 (bS cs)=some (bS (cs.set P ⟨t.c,t.c,false⟩)):=IK γ;have hc:=c2 [2,21,24,2624];have hg:=(cR (dI dn) cs p).cl [2,21,24,2624];simp only[af,ai,aj,ao]at hpt;simp only[ao]at sr1;rw[ah];simp only[nU,go_sem,g6,g82,g83,g84,k2,k21,k24,k2624,hc,hg,e1,e2,e3];generalize hX:ak 8 _ _=X;obtain⟨hh,rfl,q2,q15,q24,qd⟩:=h0 _ _ _ hX rfl rfl rfl rfl rfl rfl rfl rfl rfl rfl rfl rfl rfl rfl;have b1:=qd 2888 δ δ δ;have b2:=qd 2624 δ δ δ;have b3:=qd 21 δ δ δ;simp only[bQ]at q24;simp only[go_sem,q15,q24,b1,hpt,i1,i2,aCQ,aCI,IJ,sr1,e5];exact ih' _ _ _ rfl rfl rfl rfl rfl q2 b3 rfl b2
theorem aii:∀ (dn es:List Nat),dn.length=es.length->(∀j,es.getD j 0<=dn.getD j 0)->Rk dn es
 |[],[],_,_=>trivial
 |d::dn,e::es,h,hj=>⟨hj 0,aii dn es γ fun j=>hj (j+1)⟩
 |[],_::_,h,_=>by grind
 |_::_,[],h,_=>by grind
theorem PG:∀ (dn:List Nat) (xs:List Rat),xs.length=dn.length->∀n,CI (rY dn xs) n=bO dn n
 |[],[],_,_=>rfl
 |d::dn,x::xs,h,n=>PG dn xs γ (n*(d+1))
 |[],_::_,h,_=>by grind
 |_::_,[],h,_=>by grind
theorem acL:∀ (dn:List Nat) (n:Nat),n<=400->E4 (dI dn) (n:Int)=none\/E4 (dI dn) (n:Int)=some ((bO dn n:Nat):Int)/\bO dn n<=400
 |[],n,h=>Or.inr ⟨rfl,h⟩
 |d::dn,n,h=>by
  have e:E4 (dI (d::dn)) (n:Int)=if 400< (n:Int)*(Int.ofNat d+1)then none else E4 (dI dn) ((n:Int)*(Int.ofNat d+1)):=rfl
  have e2:(n:Int)*(Int.ofNat d+1)=((n*(d+1):Nat):Int):=by rfl
  rw[e,e2];split
  ·exact Or.inl rfl
  ·exact acL dn (n*(d+1)) ω
def GP(v:Nat)(A:List Rt)(E:List (List Nat))(p:Int)(r:AV×List Ob):Prop:=r=(.tup [.v (.pointer none),B false],[])\/∃dn cs,r=(.tup [.obx [.osl 1 (aV (dI dn)),.osl 7 (bS cs),I p],B true],[])/\dn.length=v/\(∀d∈dn,d<=32)/\(∀es∈E,Rk dn es)/\bO dn 1<=400/\kN (bO dn 1) cs (gT dn A E fun _=>0)
theorem aij{v:Nat}{p:Int}(h8:v<=8)(hA:A.length=E.length)(h5:A.length<=500)(hn:∀ (i:Nat) (t:Rt) (es:List Nat),A[i]?=some t->E[i]?=some es->Nt v t es/\vd t.c=true/\Ok0 t.c):
  ∃r,R fax [.agg [I v,.sl 4 (aL A)],I p] []=some r/\GP v A E p r:=by
 have z1:qA (.v (.int .i64 (v:Int))) (.v (.int .i64 (v:Int)))=some (v,v):=by
  simp only[qA];grind
 have z2:(v*8<=140737488355328)=True:=tt;have zr:aCG v [I 0]=aV (dI (aCG v 0)):=by grind[aV,dI,List.map_replicate]
 have hl:(aV (dI (aCG v 0))).length=v:=γ
 have h4:=aog (p:=p) h8 hA h5 (fun i t es h1 h2=>(hn i t es h1 h2).1) (o2:=.bx [I v,.sl 4 (aL A)]) (fun _=>rfl) A.length 0 (aCI _) (aCG v 0) σ (fun d hd=>by grind);have hrl:=tF A;refine M8 (r:=fun a=>a) C5.2.1 C5.2.2 (C5.1.2.2.2 false) rfl (aDa rfl) ?_;have hh0:ax []=fun _=>.dead:=by funext i;simp[ax]
 simp only[B8,H8,hh0,go_sem,aDs,z1,z2,zr];rw[aq1 (k:=1) (rows:=aV (dI (aCG v 0))) rfl hl.symm rfl δ];simp only[go_sem];generalize hX:ak 0 _ _=X;obtain⟨hh,dn,rfl,q2,q24,q21,q2624,d1,d2,d3,d4⟩:=h4 _ _ _ hX rfl rfl rfl rfl rfl rfl rfl rfl rfl;have hdl:(dI dn).length=v:=by rw[IL,d1]
 have hbI:∀d∈dI dn,0<=d/\d<=32:=fun d hd=>by
  obtain⟨x,hx,rfl⟩:=List.mem_map.1 hd;grind
 simp only[go_sem,q2,q24,q21,q2624,hdl,Dl];generalize hX:ak 4 _ _=X;have hM:=atM (ds:=dI dn) (p:=p) hdl.symm ω hbI (o2:=.bx [I v,.sl 4 (aL A)]) (fun _=>rfl) _ _ _ hX rfl rfl rfl rfl rfl rfl q2 q21 q24 q2624;rcases acL dn 1 δ with hm| ⟨hm,h4⟩
 ·rw[show(1:Int)=((1:Nat):Int)from rfl,hm]at hM;obtain⟨hh2,rfl⟩:=hM;refine⟨_,?_,Or.inl rfl⟩;simp only[go_sem]
 rw[show(1:Int)=((1:Nat):Int)from rfl,hm]at hM;obtain⟨hh,rfl,q2,q24,qd⟩:=hM;have hle:∀es∈E,Rk dn es:=fun es he=>by
  obtain⟨i,hi⟩:=List.getElem?_of_mem he;have hiE:=(List.getElem?_eq_some_iff.1 hi).1;have:=(hn i _ es (List.getElem?_eq_getElem ω) hi).1.2.1;exact aii dn es ω (d4 i es (aC7 _) hi)
 have hpt:=gO aO.2 aO.1;have hrp:=aig (x:=Q9) (qw dn 1 δ) h4;have h1:=aoi (p:=p) h8 d1 d2 h4 hA h5 (fun i t es h1 h2=>by
  obtain⟨a,b,c⟩:=hn i t es h1 h2;refine⟨a,?_,b,c⟩;have hL:=hle es (List.mem_of_getElem? h2);have:=ahY dn es (aCG dn.length 0) hL σ 1 0 δ
  simp_all[PG,aCI]) (o2:=.bx [I v,.sl 4 (aL A)]) (fun _=>rfl) A.length 0 (aCI _) (aCG (bO dn 1) Q9) (fun _=>0) ⟨by simp,fun k x hx=>by
   rw[List.getElem?_replicate]at hx;split at hx
   ·cases hx;rw[←Ez];exact ip aO.1 aO.2
   grind⟩
 generalize aCG (bO dn 1) Q9=cs0 at hrp h1;have b1:=qd 2600 δ δ;have b2:=qd 76 δ δ;have b3:=qd 2624 δ δ;have b4:=qd 21 δ δ;simp only[af,ai,aj,ao,aB,Q9]at hpt hrp;simp only[ao,go_sem,q24,b1,b2,b3,hpt,hrp];rw[yK (h:=upd (upd (upd hh 76 _) 76 _) 2624 (.ar 7 (bS cs0))) (id:=24) (p:=1) (id2:=2624) (k:=7) (n:=cs0.length) rfl (abU _).symm q24 δ γ];simp only[go_sem,aq0,aDy,q2,hrl];generalize hX:ak 6 _ _=X;obtain⟨hh2,cs2,rfl,r24,he2⟩:=h1 _ _ _ hX rfl rfl rfl rfl q2 b4 rfl rfl;refine⟨_,?_,Or.inr ⟨dn,cs2,rfl,d1,d2,hle,h4,he2⟩⟩;simp only[bQ]at r24;simp only[go_sem,r24];rw[if_pos (by rfl)];have e:uj hh2 (ac 24)=some (.obx [.osl 1 (aV (dI dn)),.osl 7 (bS cs2),I p]):=by
  have hp:bt 24=false:=rfl;simp[uj,oE,adn,r24,hp];exact⟨rfl,rfl,rfl⟩
 rw[e];rfl
def tT:List Nat->List Rat->List (Nat×LF)
 |d::ds,t::ts=>(d,fun v=>dc t v d 0)::tT ds ts
 |_,_=>[]
theorem aik:∀ (ds:List Nat) (ts:List Rat),Rj (tT ds ts)
 |d::ds,t::ts=>fun p hp=>by
  rcases List.mem_cons.1 hp with rfl|hp
  ·simp_all[Rh]
  ·exact aik ds ts p hp
 |[],_=>fun _ h=>by grind[tT]
 |_::_,[]=>fun _ h=>by grind[tT]
theorem TB:∀ (dn:List Nat) (ts:List Rat),ts.length=dn.length->∀n,CI (tT dn ts) n=bO dn n
 |[],[],_,_=>rfl
 |d::dn,x::xs,h,n=>TB dn xs γ (n*(d+1))
 |[],_::_,h,_=>by grind
 |_::_,[],h,_=>by grind
theorem Zn:∀ (dn:List Nat) (ts:List Rat),ts.length=dn.length->∀d t,tT (dn++[d]) (ts++[t])=tT dn ts++[(d,fun v=>dc t v d 0)]
 |[],[],_,_,_=>rfl
 |d::dn,x::xs,h,d',t'=>by
  show _::tT (dn++[d']) (xs++[t'])=_::(tT dn xs++_);rw[Zn dn xs (by simpa using h)]
 |[],_::_,h,_,_=>by grind
 |_::_,[],h,_,_=>by grind
theorem Zo:∀ (a b:List Nat) (n:Nat),bO (a++b) n=bO b (bO a n)
 |[],_,_=>rfl
 |d::a,b,n=>Zo a b (n*(d+1))
theorem alh{dn1 dn2:List Nat}{xs2 ts1:List Rat}(h1:ts1.length=dn1.length)(h2:xs2.length=dn2.length)(hN:N=bO (dn1++n::dn2) 1){x w:Rat}(hx:x=lo+w*t)(g:G):
  jM (tT dn1 ts1++(n,fun v=>pl x v 0 (n+1))::rY dn2 xs2) 1 0 g=
   jM (tT dn1 ts1++(n,fun v=>dc t v n 0)::rY dn2 xs2) 1 0 (ps (fun f=>Rc n (fun j=>f+j*bO dn1 1)) (bO dn1 1) n N 0 (ps (fun f=>Rb lo w n (fun j=>f+j*bO dn1 1)) (bO dn1 1) n N 0 g)):=by
 have hs:=qw dn1 1 δ;have ht1:=TB dn1 ts1 h1 1;have ht2:=PG dn2 xs2 h2;rw[Zo]at hN;have hN:N=bO dn2 (bO dn1 1*(n+1)):=hN;generalize bO dn1 1=s at*
 have hi:∀f a b:Nat,f+a*s=f+b*s↔a=b:=fun f a b=>⟨fun h=>Nat.eq_of_mul_eq_mul_right ω (Nat.add_left_cancel h),fun h=>by rw[h]⟩;have c1:se (n+1) fun v=>pl x v 0 (n+1):=LY _ _ σ;have c2:se (n+1) fun v=>pl t v 0 (n+1):=LY _ _ σ;have c3:se (n+1) fun v=>dc t v n 0:=Rh _ _ σ;have key:∀ (L L':LF) (op:Nat->G->G) (g:G),se (n+1) L->se (n+1) L'->(∀f g,(∀a,(∀m,m<=n->a≠f+m*s)->op f g a=g a)/\L (fun m=>g (f+m*s))=L' (fun m=>op f g (f+m*s)))->
   jM (tT dn1 ts1++(n,L)::rY dn2 xs2) 1 0 g=jM (tT dn1 ts1++(n,L')::rY dn2 xs2) 1 0 (ps op s n N 0 g):=fun L L' op g hL hL' hop=>by
  refine Zg hL hL' (M4 dn2 xs2) (tT dn1 ts1) (aik dn1 ts1) 1 0 δ fun i0 q hi0 hq=>?_;rw[ht1]at hi0 hq⊢;refine(atJ ω hL hL' hop N 0 g).2 _ (aC7 _) ?_ ?_
  ·grind
  ·have e:i0+q*(s*(n+1))=i0+q*(n+1)*s:=γ
   rw[e,Nat.add_mul_div_right _ _ ω,Nat.div_eq_of_lt hi0,aCI,Nat.mul_mod_left]
 rw[key _ _ (fun f=>Rb lo w n (fun j=>f+j*s)) g c1 c2 fun f g=>aqT hx (hi f) n g];exact key _ _ (fun f=>Rc n (fun j=>f+j*s)) _ c2 c3 fun f g=>aqU (hi f) n g
theorem ail{dn:List Nat}{xs:List Rat}(hx:xs.length=dn.length):∀ (A:List Rt) (E:List (List Nat)) (g:G),A.length=E.length->(∀es∈E,Rk dn es)->E.Nodup->(∀es∈E,g (pos dn es 1)=0)->(∀ (i:Nat) (t:Rt) (es:List Nat),A[i]?=some t->E[i]?=some es->t.exps=dI es)->
  jM (rY dn xs) 1 0 (gT dn A E g)=jM (rY dn xs) 1 0 g+fv xs A
 |[],[],g,_,_,_,_,_=>by
  show _=_+0;rw[Rat.add_zero];rfl
 |t::A,es::E,g,hA,hle,hnd,h0,hE=>by
  obtain⟨hn1,hn2⟩:=List.nodup_cons.1 hnd;have hes:=hE 0 t es rfl rfl;have hxn:rN t.exps=es:=by
   rw[hes];unfold rN dI;rw[List.map_map];exact(aDk (g:=fun c=>c) fun x _=>by simp).trans (aDu _)
  show jM (rY dn xs) 1 0 (gT dn A E (gs g (pos dn es 1) (qv t.c)))=_;rw[ail hx A E _ γ (fun e he=>hle e γ) hn2 (fun e he=>by
   unfold gs;rw[if_neg fun hq=>?_]
   ·grind
   ·have:=(acB dn e es (hle e γ) (hle es σ) 1 0 0 δ δ ω).2;grind) fun i u e h1 h2=>hE (i+1) u e h1 h2]
  rw[aqV (M4 dn xs),h0 es σ];have hm:=acA dn es xs (hle es σ) hx 1 0 0 δ δ;grind[qv,tP,rN,fv]
 |[],_::_,_,h,_,_,_,_=>by grind
 |_::_,[],_,h,_,_,_,_=>by grind
theorem ali{ls:List (Nat×LF)}(ok:Rj ls)(s i:Nat):jM ls s i (fun _=>0)=0:=by
 have:=Tz (a:=0) (c:=0) (g:=fun _=>0) (h:=fun _=>0) ls ok s i;grind
theorem aq5{g:G}{ts:List Rat}(hl:ts.length=dn.length)(ht:∀t∈ts,0<=t/\t<=1)(h:∀k,k<bO dn 1->lo<=g k/\g k<=hi):lo<=jM (tT dn ts) 1 0 g/\jM (tT dn ts) 1 0 g<=hi:=by
 refine acz (tT dn ts) ?_ 1 0 fun q hq=>?_
 ·have:∀ (dn:List Nat) (ts:List Rat),(∀t∈ts,0<=t/\t<=1)->∀p∈tT dn ts,∀v:G,(∀j,j<=p.1->lo<=v j/\v j<=hi)->lo<=p.2 v/\p.2 v<=hi:=by
   intro dn;induction dn with
   |nil=>grind[tT]
   |cons d dn ih=>
    intro ts ht p hp v hv;cases ts with
    |nil=>grind[tT]
    |cons t ts=>
     rcases List.mem_cons.1 hp with rfl|hp
     all_goals grind[Zf]
  exact this dn ts ht
 grind[TB]
theorem Zp{l:List Int}(h:∀e∈l,0<=e):l=dI (rN l):=by
 grind[dI,rN,List.map_map,aDk,Int.toNat_of_nonneg,aDu]
def Mc(l:List Rt):List (List Nat):=l.map fun t=>rN t.exps
theorem alj{v:Int}(c:Cl v l):(Mc l).Nodup:=by
 have h1:l.Pairwise fun a b=>a.exps≠b.exps:=c.s.imp fun h=>(UP h).symm;unfold Mc;rw[List.nodup_iff_pairwise_ne,List.pairwise_map];refine List.Pairwise.imp_of_mem (fun{a b} ha hb h he=>h ?_) h1;rw[Zp fun e hx=>((c.t a ha).b e hx).1,Zp fun e hx=>((c.t b hb).b e hx).1,he]
theorem amp{v:Nat}(c:Cl v l)(i:Nat)(t:Rt)(es:List Nat)(h1:l[i]?=some t)(h2:(Mc l)[i]?=some es):Nt v t es/\vd t.c=true/\Ok0 t.c:=by
 have hm:=c.t t (List.mem_of_getElem? h1);unfold Mc at h2;rw[List.getElem?_map,h1]at h2;have h2:rN t.exps=es:=Option.some.inj h2;subst h2;refine⟨⟨Zp fun e hx=>(hm.b e hx).1,?_,fun e he=>?_⟩,hm.vc,hm.c⟩
 ·have:=hm.len;grind[rN,List.length_map]
 ·obtain⟨z,hz,rfl⟩:=List.mem_map.1 he;have:=hm.b z hz;omega
def qo(o:Option Rd):Rat:=qv (o.getD aB)
theorem TC{x:Rat}:∀ (l:List Rt) (o0 o1:Option Rd),(∀t∈l,t.exps=[0]/\o0=none\/t.exps=[1]/\o1=none)->l.Pairwise (fun a b=>a.exps≠b.exps)->∃p0 p1,Dg l [o0,o1]=[p0,p1]/\qo p0+qo p1*x=qo o0+qo o1*x+fv [x] l
 |[],o0,o1,_,_=>⟨o0,o1,rfl,by show _=_+0;grind⟩
 |t::l,o0,o1,h,hp=>by
  obtain⟨p1,p2⟩:=List.pairwise_cons.1 hp;have q0:qo none=0:=Ez;unfold Dg;rcases h t σ with⟨he,rfl⟩| ⟨he,rfl⟩
  ·have hs:[none,o1].set (zD 1 t.exps 0+1).toNat (some t.c)=[some t.c,o1]:=by rw[he];rfl
   rw[hs];obtain⟨a,b,e1,e2⟩:=TC (x:=x) l (some t.c) o1 (fun u hu=>by
    grind) p2
   refine⟨a,b,e1,?_⟩;rw[e2];show qv t.c+_+_=_+(qv t.c*tP [x] (rN t.exps)+fv [x] l);rw[he,q0];show _=_+(qv t.c*(x^0*1)+_);grind
  ·have hs:[o0,none].set (zD 1 t.exps 0+1).toNat (some t.c)=[o0,some t.c]:=by rw[he];rfl
   rw[hs];obtain⟨a,b,e1,e2⟩:=TC (x:=x) l o0 (some t.c) (fun u hu=>by
    grind) p2
   refine⟨a,b,e1,?_⟩;rw[e2];show _+qv t.c*x+_=_+(qv t.c*tP [x] (rN t.exps)+fv [x] l);rw[he,q0];show _=_+(qv t.c*(x^1*1)+_);grind
theorem aim{a:Rp}(oa:OkP a)(hl:Hc a=true)(h1:a.vars=1)(x:Rat):∃c m,JL a=[c,m]/\fv [x] a.terms=qv c+qv m*x:=by
 obtain⟨hv,hd⟩:=ans hl;obtain⟨cl,_⟩:=gU oa hv;obtain⟨p0,p1,e1,e2⟩:=TC (x:=x) a.terms none none (fun t ht=>by
  obtain⟨s1,s2,s3,s4,s5⟩:=Ix hv ht;obtain⟨e,he⟩:=ant (s2.trans h1);have h3:=s1.2 e γ;grind[bm]) (cl.s.imp fun h=>(UP h).symm)
 refine⟨p0.getD aB,p1.getD aB,?_,?_⟩
 ·simp_all[JL,odV,Dg]
 grind[qo,Ez,p0]
theorem alk{c m:Rd}{b:Ri}{x:Rat}(vc:vd c=true/\Ok0 c)(vm:vd m=true/\Ok0 m)(hp:bC p=true)(hb:In x b)(hk:kI b=true):In (qv c+qv m*x) (JM c m b p):=by
 rcases hb.k with⟨rfl,h1⟩| ⟨_,x1,x2⟩
 ·grind
 have hq:∀ {y:Rd},(dK m y).2=0->qv (dK m y).1=qv m*qv y:=fun{y} h=>by
  have h1:=ab6 h;have h2:=(Rf (z:=zI m*zI y) (r:=zI (dK m y).1) 16384).1 (Int.le_of_eq h1.symm);have h3:=(Rf (z:=zI m*zI y) (r:=zI (dK m y).1) 16384).2 (Int.le_of_eq h1);unfold qv EQ;grind
 unfold JM ae6;split
 ·next h=>
  have v1:=Fh m (UD m b);have v2:=Fh m (UE m b);have ok:∀ {a b:Rd} {up:Bool},vd (dk a b p up).1=true/\Ok0 (dk a b p up).1:=fun{a b up}=>by
   grind[dk,vH,aO]
  have hm:qv m*qv (UD m b)<=qv m*x/\qv m*x<=qv m*qv (UE m b):=by
   unfold UD UE;by_cases hs:cX m<0
   ·have h0:=(JU vm.1).2.1 hs;have a:=Rat.mul_le_mul_of_nonneg_left x1 (show 0≤-qv m by grind);have b:=Rat.mul_le_mul_of_nonneg_left x2 (show 0≤-qv m by grind);grind
   ·have h0:0<=qv m:=Rat.not_lt.1 fun h=>hs ((JU vm.1).2.2 h);grind[Rat.mul_le_mul_of_nonneg_left]
  refine Wm ok ok (fun h=>?_) (fun h=>?_)
  all_goals grind[Ze]
 ·exact Or.inl rfl
def kO:List Ri->List Rat->List Rat->Prop
 |b::dom,x::xs,t::ts=>x=qv b.lo+(qv b.hi-qv b.lo)*t/\0<=t/\t<=1/\kO dom xs ts
 |[],[],[]=>True
 |_,_,_=>False
theorem kO.len:∀ {dom:List Ri} {xs ts:List Rat},kO dom xs ts->xs.length=dom.length/\ts.length=dom.length
 |_::_,_::_,_::_,h=>by
  obtain⟨a,b⟩:=kO.len h.2.2.2;grind
 |[],[],[],_=>⟨rfl,rfl⟩
 |[],_::_,_,h=>h.elim
 |[],[],_::_,h=>h.elim
 |_::_,[],_,h=>h.elim
 |_::_,_::_,[],h=>h.elim
theorem kO.get:∀ {dom:List Ri} {xs ts:List Rat},kO dom xs ts->∀ {i:Nat} {b:Ri},dom[i]?=some b->∃x t,xs[i]?=some x/\ts[i]?=some t/\x=qv b.lo+(qv b.hi-qv b.lo)*t
 |b::_,x::_,t::_,h,0,b',hb=>by
  have:b=b':=γ
  subst this;exact⟨x,t,rfl,rfl,h.1⟩
 |_::_,_::_,_::_,h,i+1,b,hb=>kO.get h.2.2.2 (i:=i) γ
 |[],_,_,_,_,_,hb=>by grind
 |_::_,[],_,h,_,_,_=>h.elim
 |_::_,_::_,[],h,_,_,_=>h.elim
theorem kO.t01:∀ {dom:List Ri} {xs ts:List Rat},kO dom xs ts->∀t∈ts,0<=t/\t<=1
 |_::_,_::_,_::_,h,t,ht=>by
  rcases List.mem_cons.1 ht with rfl|ht
  ·exact⟨h.2.1,h.2.2.1⟩
  ·exact kO.t01 h.2.2.2 t ht
 |[],[],[],_,t,ht=>by grind
 |[],_::_,_,h,_,_=>h.elim
 |[],[],_::_,h,_,_=>h.elim
 |_::_,[],_,h,_,_=>h.elim
 |_::_,_::_,[],h,_,_=>h.elim
theorem alm(h:dn[i]?=some n):dn.take i++n::dn.drop (i+1)=dn/\dn.drop i=n::dn.drop (i+1)/\dn.take (i+1)=dn.take i++[n]:=by
 grind[List.take_append_drop,List.take_add_one]
theorem aoj{p:Int}{v:Nat}(h8:v<=8)(hd:dn.length=v)(hdl:dom.length=v)(hb:∀d∈dn,d<=32)(hN4:bO dn 1<=400)(od:∀b∈dom,VI b){c6:List AV}(hc6:aF [6,2368] (.bx c6)=true):
  ∀ (k i:Nat),i+k=v->∀ (cs:List Ri) (g:G),kN (bO dn 1) cs g->∀ (s:ap) (h:ae) (X:Option (Ex×St)),ak 0 [6,9] (av (am R (az false) oJ) [1,6,9,56,57] [6,2368] s h)=X->s 1=.sl 7 (bS dom)->s 6=ac 6->s 9=ac 2368->s 56=I v->s 57=I i->h 6=.bx c6->h 2368=bQ (dI dn) cs p->
  ∃hh cs' g',X=some (.normal,⟨upd (upd bk 9 (ac 2368)) 6 (ac 6),hh⟩)/\hh 6=.bx c6/\hh 2368=bQ (dI dn) cs' p/\(∀a,a≠6->a≠2368->hh a=.dead)/\kN (bO dn 1) cs' g'/\
   ∀xs ts:List Rat,kO dom xs ts->jM (tT (dn.take i) (ts.take i)++rY (dn.drop i) (xs.drop i)) 1 0 g=jM (tT dn ts) 1 0 g':=by
 intro k;induction k with
 |zero=>
  intro i hi cs g he s h X hX g1 g6 g9 g56 g57 k6 k2368;subst hX;have e1:((i:Int)< (v:Int))=False:=ff;have hg:=(cR (dI dn) cs p).cl [6,2368];rw[ah];refine⟨?hh0,cs,g,?_,?_,?_,?_,he,fun xs ts hp=>?_⟩;rotate_left
  ·simp only[oJ,go_sem,g1,g6,g9,g56,g57,k6,k2368,hc6,hg,e1];rfl
  ·rfl
  ·rfl
  ·simp_all[cB,if_false]
  ·obtain⟨l1,l2⟩:=hp.len;rw[aCX ω,aCX ω,aC3 ω];show jM (tT dn ts++[]) 1 0 g=_;grind
 |succ k ih=>
  intro i hi cs g he s h X hX g1 g6 g9 g56 g57 k6 k2368;subst hX;have hlt:i<v:=ω
  have e1:((i:Int)< (v:Int))=True:=tt;obtain⟨b,hb0⟩:∃b,dom[i]?=some b:=⟨_,List.getElem?_eq_getElem ω⟩;obtain⟨n,hn⟩:∃n,dn[i]?=some n:=⟨_,List.getElem?_eq_getElem ω⟩;have e2:aZ (bS dom) (i:Int)=some (.ipt (ao b)):=Bc rfl hb0;have e5:aG ((i:Int)+1)=((i+1:Nat):Int):=wi;have vb:=od b (List.mem_of_getElem? hb0);have hg:=(cR (dI dn) cs p).cl [6,2368];obtain⟨cs1,hR1,he1⟩:=aod (p:=p) vb.1 vb.2 hn ω hb hN4 he;obtain⟨cs2,hR2,he2⟩:=aoc (p:=p) hn ω hb hN4 he1;have hu:=fun(h:ae) (d:Nat) (hh:h 2368=bQ (dI dn) cs p) (hd:h (2000+8*d)=.dead)=>dX (jo.1.2.1 false) (by rfl) (JP (jo.1.2.1 false) (jo.1.2.2.2 false) (zas:=[I i,aj b]) (as':=[I i,aj b]) (by rw[jo.1.1];simp only[aj,ao,go_sem]) rfl rfl hh (cR _ _ _) (cR _ _ _) (fun _=>rfl) hR1 akK (d:=d) δ rfl);have hbn:=fun(h:ae) (d:Nat) (hh:h 2368=bQ (dI dn) cs1 p) (hd:h (2000+8*d)=.dead)=>dX (fC.1.2.1 false) (by rfl) (JP (fC.1.2.1 false) (fC.1.2.2.2 false) (zas:=[I i]) (as':=[I i]) (by rw[fC.1.1];rfl) rfl rfl hh (cR _ _ _) (cR _ _ _) (fun _=>rfl) hR2 akK (d:=d) δ rfl);have ih':=ih (i+1) ω _ _ he2;rw[ah];generalize av _ _ _=L at ih'⊢;simp only[aj,ao]at e2 hu;simp only[oJ,go_sem,g1,g6,g9,g56,g57,k6,k2368,hc6,hg,e1,e2];rw[hu _ _ rfl rfl];simp only[go_sem];rw[hbn _ _ rfl rfl];simp only[go_sem,e5];generalize hX:ak 0 _ _=X;obtain⟨hh,cs',g',q1,q2,q3,q4,q5,q6⟩:=ih' _ _ _ hX rfl rfl rfl rfl rfl rfl rfl;refine⟨hh,cs',g',q1,q2,q3,q4,q5,fun xs ts hp=>?_⟩;obtain⟨l1,l2⟩:=hp.len;obtain⟨x,t,hx,ht,hxt⟩:=hp.get hb0;rw[←q6 xs ts hp];obtain⟨d1,d2,d3⟩:=alm hn;have hxd:xs.drop i=x::xs.drop (i+1):=by
   grind[aC4]
  have htd:ts.take (i+1)=ts.take i++[t]:=by
   grind[List.take_add_one]
  rw[d2,d3,hxd,htd,Zn _ _ γ,aDr];exact alh γ γ (by rw[d1]) hxt g
theorem aok{ds:List Int}{p:Int}(hN:N<=400){g:G}(he:kN N cs g){c6:List AV}(hc6:aF [6,12,2368] (.bx c6)=true):∀ (k i:Nat),i+k=N->∀out:Ri,OkI out->(∀j,j<i->In (g j) out)->(∃q,In q out)->∀ (s:ap) (h:ae) (X:Option (Ex×St)),ak 2 [6,12] (av (am R (az false) oI) [6,12,80,81,82] [6,12,2368] s h)=X->
  s 6=ac 6->s 12=ac 12->s 80=.rsl 2368 (some 1) 7 0 N->s 81=I N->s 82=I i->h 6=.bx c6->h 12=gV out->h 2368=bQ ds cs p->
  ∃hh out',X=some (.normal,⟨upd (upd bk 12 (ac 12)) 6 (ac 6),hh⟩)/\hh 6=.bx c6/\hh 12=gV out'/\OkI out'/\(∀j,j<N->In (g j) out'):=by
 intro k;induction k with
 |zero=>
  intro i hi out oo ho hq s h X hX g6 g12 g80 g81 g82 k6 k12 k2368;subst hX;have e1:((i:Int)< (N:Int))=False:=ff;have hg:=(cR ds cs p).cl [6,12,2368];have hoc:=(iq out).cl [6,12,2368];rw[ah];refine⟨?hh0,out,?_,?_,?_,oo,fun j hj=>ho j ω⟩;rotate_left
  ·simp only[oI,go_sem,g6,g12,g80,g81,g82,k6,k12,k2368,hc6,hg,hoc,e1];rfl
  ·rfl
  ·rfl
 |succ k ih=>
  intro i hi out oo ho hq s h X hX g6 g12 g80 g81 g82 k6 k12 k2368;subst hX;have e1:((i:Int)< (N:Int))=True:=tt;have e5:aG ((i:Int)+1)=((i+1:Nat):Int):=wi;obtain⟨x,x1,x2⟩:=he.get (k:=i) ω;have q1:(bS cs)[i]?=some (ao x):=by grind[bS]
  have i1:(0<=(i:Int))=True:=tt;have hg:=(cR ds cs p).cl [6,12,2368];have hoc:=(iq out).cl [6,12,2368];have ch:=ak3 oo x2.ok;have ih':=ih (i+1) ω (M2 out x) (by
   obtain⟨q,hq⟩:=hq;exact(JS hq x2).1.ok) (fun j hj=>by
   obtain⟨q,hq⟩:=hq;by_cases hji:j=i
   ·subst hji;exact(JS hq x2).2
   ·exact(JS (ho j ω) x2).1) ⟨_,(JS hq.choose_spec x2).1⟩
  rw[ah];simp only[aj,ao]at ch;simp only[ao]at q1;simp only[bQ]at k2368 hg;simp only[gV]at k12 hoc;simp only[oI,go_sem,g6,g12,g80,g81,g82,k6,k12,k2368,hc6,hg,hoc,e1,i1,Bs,Fl,aCQ,aCI,q1,ch,e5];exact ih' _ _ _ rfl rfl rfl rfl rfl rfl rfl rfl rfl
def BrG(a:Rp)(dom:List Ri)(p:Int)(b:Ri):Prop:=(∀xs ts:List Rat,kO dom xs ts->In (fv xs a.terms) b)/\((mQ a dom&&bC p)=false->b=cS)
theorem kO.inL:∀ {dom:List Ri} {xs ts:List Rat},(∀b∈dom,kI b=true/\VI b)->kO dom xs ts->InL xs dom
 |b::_,x::_,t::_,hk,h=>by
  obtain⟨h1,h2,h3,h4⟩:=h;obtain⟨k1,k2⟩:=hk b σ;refine⟨Or.inr ⟨?_,k2,?_⟩,kO.inL (fun b hb=>hk b γ) h4⟩
  ·unfold kI at k1;grind
  ·have hle:qv b.lo<=qv b.hi:=by
    rw[sE];unfold kI vi at k1;grind
   have a:=Rat.mul_nonneg (show 0<=qv b.hi-qv b.lo by grind) h2;have b:=Rat.mul_nonneg (show 0<=qv b.hi-qv b.lo by grind) (show 0<=1-t by grind);grind
 |[],[],[],_,_=>trivial
 |[],_::_,_,_,h=>h.elim
 |[],[],_::_,_,h=>h.elim
 |_::_,[],_,_,h=>h.elim
 |_::_,_::_,[],_,h=>h.elim
theorem RA{a:Rp}(od:∀x∈dom,OkI x)(hd:mQ a dom=true):vp a=true/\(dom.length:Int)=a.vars/\∀b∈dom,kI b=true/\VI b:=by
 unfold mQ at hd;simp only[aCK,decide_eq_true_eq,aDJ,List.any_eq_false]at hd;refine⟨hd.1,hd.2.1,fun b hb=>?_⟩;have h1:kI b=true:=by
  grind
 have h2:=h1;unfold kI vi at h2;cases ha:b.all with
 |true=>grind
 |false=>
  rw[ha]at h2;simp at h2;have:=od b hb;exact⟨h1,⟨h2.1,this.lo⟩,⟨h2.2.1,this.hi⟩⟩
theorem Zq{a:Rp}(oa:OkP a)(od:∀x∈dom,OkI x)(h2:dom.length<=100000){p:Int}:∃b,R fap [bc a,.sl 7 (bS dom),I p] []=some (aj b,[])/\BrG a dom p b:=by
 have hf:=MP oa od h2 (p:=p);have hw:=JJ;cases hq:(mQ a dom&&bC p)with
 |false=>
  rw[hq]at hf;refine⟨cS,?_,fun _ _ _=>Or.inl rfl,fun _=>rfl⟩;refine au kV rfl ?_;simp only[bc,aj,ao,cS,aB]at hf hw;simp only[iI,kT,bc,aj,ao,cS,aB,go_sem,hf,hw]
 |true=>
  rw[hq]at hf;have hdp:=hq;rw[aCK]at hdp;obtain⟨hd,hp⟩:=hdp;obtain⟨hv,hl,hk⟩:=RA od hd;obtain⟨cl,v0,v8,h5⟩:=gU oa hv;have nf:(mQ a dom&&bC p)=false->∀b:Ri,b=cS:=fun h=>by grind
  by_cases hlin:Hc a=true/\a.vars=1
  ·obtain⟨x,rfl⟩:∃x,dom=[x]:=List.length_eq_one_iff.1 ω;obtain⟨c,m,e1,_⟩:=aim oa hlin.1 hlin.2 0;have hx:=hk x σ;obtain⟨k1,_⟩:=ab5 oa hv;rw[e1]at k1;refine⟨JM c m x p,akD oa od ω hlin.1 hlin.2 e1 rfl,fun xs ts hpt=>?_,fun h=>nf h _⟩;obtain⟨l1,l2⟩:=hpt.len;obtain⟨y,rfl⟩:∃y,xs=[y]:=List.length_eq_one_iff.1 l1;have hin:=kO.inL (fun b hb=>hk b hb) hpt;obtain⟨c',m',e3,e2⟩:=aim oa hlin.1 hlin.2 y;rw[e1]at e3;injection e3 with g1 g2
   injection g2 with g2
   subst g1;subst g2;rw[e2];exact alk (k1 c σ) (k1 m σ) hp hin.1 hx.1
  ·obtain⟨v,hvv⟩:=aDG v0;have hL:=UC oa;obtain⟨r,hg,hgp⟩:=aij (v:=v) (p:=p) ω (A:=a.terms) (E:=Mc a.terms) (by simp[Mc]) h5 (fun i t es h1 h2=>amp (hvv▸cl) i t es h1 h2);have hcc:∃L b,YP a=.tup [eC L,B b]/\(b=true->¬a.vars=1):=by
    grind[YP,absurd]
   obtain⟨L,bl,e1,e2⟩:=hcc;rw[e1]at hL;have hVI:∀b∈dom,VI b:=fun b hb=>(hk b hb).2;rcases hgp with rfl| ⟨dn,cs,rfl,d1,d2,d3,d4,he⟩
   ·refine⟨cS,?_,fun _ _ _=>Or.inl rfl,fun _=>rfl⟩;refine au kV rfl ?_;rw[←hvv]at hg;simp only[bc,aj,ao,cS,aB,eC]at hf hw hL;cases bl with
    |true=>
     have e3:(a.vars=1)=False:=eq_false (e2 rfl);simp only[iI,kT,bc,aj,ao,cS,aB,go_sem,hf,hw,hL,e3,hg]
    |false=>
     simp only[iI,kT,bc,aj,ao,cS,aB,go_sem,hf,hw,hL,hg]
   ·have hdl:dom.length=v:=ω
    have hbg:=aoj (p:=p) (c6:=[B false,.emp,I 0,B false,.emp,I 0,B false]) ω d1 hdl d2 d4 hVI rfl v 0 (aCI _) cs _ he;rw[←hvv]at hg;have hval:∀xs:List Rat,xs.length=dn.length->jM (rY dn xs) 1 0 (gT dn a.terms (Mc a.terms) fun _=>0)=fv xs a.terms:=fun xs hx=>by
     rw[ail hx a.terms (Mc a.terms) (fun _=>0) (by simp[Mc]) d3 (alj cl) (fun _ _=>rfl) fun i t es h1 h2=>(amp (hvv▸cl) i t es h1 h2).1.1,ali (M4 dn xs),Rat.zero_add]
    have hfin:∀ (b:Ri) (g':G),(∀xs ts:List Rat,kO dom xs ts->jM (tT (dn.take 0) (ts.take 0)++rY (dn.drop 0) (xs.drop 0)) 1 0 (gT dn a.terms (Mc a.terms) fun _=>0)=jM (tT dn ts) 1 0 g')->(∀j,j<bO dn 1->In (g' j) b)->BrG a dom p b:=fun b g' h1 h2=>by
     refine⟨fun xs ts hpt=>?_,fun h=>nf h _⟩;obtain⟨l1,l2⟩:=hpt.len;have h3:=h1 xs ts hpt;have h4:jM (rY dn xs) 1 0 (gT dn a.terms (Mc a.terms) fun _=>0)=jM (tT dn ts) 1 0 g':=h3;rw[hval xs ω]at h4;rw[h4];rcases(h2 0 (qw dn 1 δ)).k with⟨hW,_⟩| ⟨hkb,_⟩
     ·exact Or.inl hW
     ·have h5:∀j,j<bO dn 1->qv b.lo<=g' j/\g' j<=qv b.hi:=fun j hj=>by
       rcases(h2 j hj).k with⟨rfl,hn⟩| ⟨_,h6⟩
       all_goals grind
      have h6:=aq5 ω hpt.t01 h5;refine Or.inr ⟨?_,(h2 0 (qw dn 1 δ)).vi,h6.1,h6.2⟩;grind[kI]
    have hh0:ax []=fun _=>.dead:=by funext i;simp[ax]
    refine M8 (r:=fun b=>(aj b,[])) kV.2.1 kV.2.2 (kV.1.2.2.2 false) rfl (aDa rfl) ?_;simp only[bc,aj,ao,eC]at hf hL;have e3:bl=true->(a.vars=1)=False:=fun h=>eq_false (e2 h);have e4:(0:Int)< (bO dn 1:Nat):=by grind[qw]
    cases bl
    all_goals
     simp only[iI,kT,bc,aj,ao,hh0,go_sem,hf,hL,e3,hg,afm];generalize hX:ak 0 _ _=X;obtain⟨hh,cs',g',rfl,q6,q2368,qd,he',hv'⟩:=hbg _ _ _ hX rfl rfl rfl (by rw[IL,d1];rfl) rfl rfl rfl;obtain⟨x,x1,x2⟩:=he'.get (k:=0) (qw dn 1 δ);have hhl:=aok (ds:=dI dn) (p:=p) d4 he' (c6:=[B false,.emp,I 0,B false,.emp,I 0,B false]) rfl (bO dn 1) 0 (aCI _) x x2.ok (fun j hj=>absurd hj (Nat.not_lt_zero j)) ⟨_,x2⟩;have q1:(bS cs')[0]?=some (ao x):=by unfold bS;rw[List.getElem?_map,x1];rfl
     have i2:(0< (cs'.length:Int))=True:=eq_true (by rw[he'.1];exact e4);have d12:=qd 12 δ δ;have hgo:=(cR (dI dn) cs' p).cl [6,12,2368];simp only[bQ]at q2368 hgo;simp only[ao]at q1;simp only[go_sem,q6,q2368,d12,i2,Int.le_refl,Int.toNat_zero,Bs,Fl,q1];generalize hX:ak 2 _ _=X;obtain⟨hh2,out,rfl,r6,r12,oo,hin⟩:=hhl _ _ _ hX rfl rfl (by rw[he'.1];rfl) (by rw[he'.1];rfl) rfl q6 rfl q2368;refine⟨out,?_,hfin out g' hv' hin⟩;simp only[gV]at r12;simp only[go_sem,r6,r12]
def Gs(s:Rd):Rd×Int:=cI (cT (zI s) (-16384- (1:Nat)))
theorem TD{s:Rd}(ok:Ok0 s)(v:vd s=true):bg s.neg (ab s.m) (s.e+-1)=cT (zI s) (-16384- (1:Nat)):=by
 obtain⟨_,h1,h2,_⟩:=dj v ok.lb;have:zI s=bL s.neg (mg s):=rfl;rw[this,←Bk];unfold mg;rw[kH];grind
def uN(x:Ri)(d:Rd):Bool:=vi x&&vd d&& (x.all||decide (zI x.lo<=zI d)&&decide (zI d<=zI x.hi))
theorem Zr{d:Rd}(ox:OkI x)(od:Ok0 d):R fbj [aj x,af d] []=some (B (uN x d),[]):=by
 refine au Sk rfl ?_;have v1:=oW ox;have v2:=eS od;have c1:=pG ox.lo od;have c2:=pG od ox.hi;unfold uN;cases h1:vi x with
 |false=>
  rw[h1]at v1;simp only[aj,ao,af,ai]at v1 v2;simp only[kv,aj,ao,af,ai,go_sem,v1,v2]
 |true=>
  rw[h1]at v1;cases h2:vd d with
  |false=>
   rw[h2]at v2;simp only[aj,ao,af,ai]at v1 v2;simp only[kv,aj,ao,af,ai,go_sem,v1,v2]
  |true=>
   rw[h2]at v2;cases h3:x.all with
   |true=>
    simp only[aj,ao,af,ai,h3]at v1 v2;simp only[kv,aj,ao,af,ai,go_sem,v1,v2,h3]
   |false=>
    have hl:vd x.lo=true/\vd x.hi=true:=by
     grind[vi]
    rw[if_pos ⟨hl.1,h2⟩]at c1;rw[if_pos ⟨h2,hl.2⟩]at c2;have e1:=@yD (zI x.lo) (zI d);have e2:=@yD (zI d) (zI x.hi);simp only[aj,ao,af,ai,h3]at v1 v2 c1 c2;by_cases h4:zI x.lo<=zI d
    ·simp only[kv,aj,ao,af,ai,go_sem,v1,v2,h3,c1,c2,e1,e2,h4]
    ·simp only[kv,aj,ao,af,ai,go_sem,v1,v2,h3,c1,e1,h4]
theorem Na{d:Rd}(h:In (qv d) x)(hd:vd d=true):uN x d=true:=by
 unfold uN;rw[h.v,hd];rcases h with rfl| ⟨h1,_,h3,h4⟩
 ·rfl
 grind[sE]
def JW(a:Rp)(dom:List Ri)(p:Int)(b:Ri):Ri:=if(mQ a dom&&bC p)=true then(if(wI (n8 a dom p) b).2=true then(wI (n8 a dom p) b).1 else cS)else cS
theorem PH{a:Rp}(oa:OkP a)(od:∀x∈dom,OkI x)(h2:dom.length<=100000){b:Ri}(ob:OkI b)(hb:(mQ a dom&&bC p)=true->R fap [bc a,.sl 7 (bS dom),I p] []=some (aj b,[])):
  R faq [bc a,.sl 7 (bS dom),I p] []=some (aj (JW a dom p b),[]):=by
 refine au XQ rfl ?_;have hf:=MP oa od h2 (p:=p);have hw:=JJ;have hn:=aku oa od h2 (p:=p);have on:=ahu (a:=a) (dom:=dom) (p:=p);have hm:=ak4 (x:=n8 a dom p) (y:=b) ⟨on.1.2,on.2.2⟩ ob;unfold JW;generalize n8 a dom p=n at hn hm⊢;generalize wI n b=q at hm⊢;obtain⟨m1,m2⟩:=q;cases hq:(mQ a dom&&bC p)with
 |false=>
  rw[hq]at hf;simp only[bc,aj,ao,cS,aB]at hf hw;simp only[u9,bc,aj,ao,cS,aB,go_sem,hf,hw]
 |true=>
  rw[hq]at hf
  replace hb:=hb hq
  simp only[bc,aj,ao,cS,aB]at hf hw hn hb hm;cases m2 with
  |true=>
   simp only[u9,bc,aj,ao,go_sem,hf,hw,hn,hb,hm]
  |false=>
   simp only[u9,bc,aj,ao,cS,aB,go_sem,hf,hw,hn,hb,hm]
def qx(x y:Ri):Bool:=if vi x=true/\vi y=true/\x.all=false then(y.all||decide (zI y.lo<=zI x.lo)&&decide (zI x.hi<=zI y.hi))else(vi x&& (vi y&&y.all))
theorem afp(ox:OkI x)(oy:OkI y):R fdv [aj x,aj y] []=some (B (qx x y),[]):=by
 refine au XL rfl ?_;have v1:=LK ox;have v2:=LK oy;unfold qx;simp only[aj,ao]at v1 v2;cases h1:vi x with
 |false=>
  rw[h1]at v1;simp only[lh,aj,ao,go_sem,v1,aCO]
 |true=>
  rw[h1]at v1;cases h2:vi y with
  |false=>
   rw[h2]at v2;simp only[lh,aj,ao,go_sem,v1,v2,aCO,aCM]
  |true=>
   rw[h2]at v2;cases h3:x.all with
   |true=>
    rw[h3]at v1;rw[if_neg σ];simp only[lh,aj,ao,go_sem,v1,v2,h3,aCM]
   |false=>
    rw[h3]at v1;have hx:vd x.lo=true/\vd x.hi=true:=by
     grind[vi]
    cases h4:y.all with
    |true=>
     rw[h4]at v2;simp only[lh,aj,ao,go_sem,v1,v2,h3,h4,Bool.true_or]
    |false=>
     rw[h4]at v2;have hy:vd y.lo=true/\vd y.hi=true:=by
      grind[vi]
     have c1:=S9 oy.lo ox.lo hy.1 hx.1;have c2:=S9 ox.hi oy.hi hx.2 hy.2;simp only[af,ai]at c1 c2;by_cases h5:zI y.lo<=zI x.lo
     ·rw[decide_eq_true h5];have e5:(cM (zI y.lo) (zI x.lo)<=0)=True:=by simp_all[yD,eq_true]
      simp only[lh,aj,ao,go_sem,v1,v2,h3,h4,c1,c2,e5,yD,aCM,Bool.false_or,decide_true]
     ·rw[decide_eq_false h5];have e5:(cM (zI y.lo) (zI x.lo)<=0)=False:=by simp_all[yD,eq_false]
      simp only[lh,aj,ao,go_sem,v1,v2,h3,h4,c1,e5,aCO,Bool.false_or,decide_false]
theorem UZ(ox:OkI x)(oy:OkI y):R fbl [aj x,aj y] []=some (B (qx x y),[]):=by
 refine au Nv rfl ?_;have v1:=oW ox;have v2:=oW oy;unfold qx;simp only[aj,ao]at v1 v2;cases h1:vi x with
 |false=>
  rw[h1]at v1;simp only[fj,aj,ao,go_sem,v1,aCO]
 |true=>
  rw[h1]at v1;cases h2:vi y with
  |false=>
   rw[h2]at v2;simp only[fj,aj,ao,go_sem,v1,v2,aCO,aCM]
  |true=>
   rw[h2]at v2;cases h3:x.all with
   |true=>
    rw[h3]at v1;rw[if_neg σ];cases h4:y.all with
    |true=>
     rw[h4]at v2;simp only[fj,aj,ao,go_sem,v1,v2,h3,h4,aCM]
    |false=>
     rw[h4]at v2;simp only[fj,aj,ao,go_sem,v1,v2,h3,h4,aCM]
   |false=>
    rw[h3]at v1;have hx:vd x.lo=true/\vd x.hi=true:=by
     grind[vi]
    cases h4:y.all with
    |true=>
     rw[h4]at v2;simp only[fj,aj,ao,go_sem,v1,v2,h3,h4,Bool.true_or]
    |false=>
     rw[h4]at v2;have hy:vd y.lo=true/\vd y.hi=true:=by
      grind[vi]
     have c1:=pG oy.lo ox.lo;have c2:=pG ox.hi oy.hi;rw[if_pos ⟨hy.1,hx.1⟩]at c1;rw[if_pos ⟨hx.2,hy.2⟩]at c2;have e1:=@yD (zI y.lo) (zI x.lo);have e2:=@yD (zI x.hi) (zI y.hi);generalize cM (zI y.lo) (zI x.lo)=q1 at c1 e1;generalize cM (zI x.hi) (zI y.hi)=q2 at c2 e2;simp only[af,ai]at c1 c2;by_cases h5:zI y.lo<=zI x.lo
     ·simp only[fj,aj,ao,go_sem,v1,v2,h3,h4,c1,c2,e1,e2,h5,Bool.false_or]
     ·simp only[fj,aj,ao,go_sem,v1,v2,h3,h4,c1,e1,h5,Bool.false_or]
structure Rs where
 dom:List Ri
 ord:Int
 p:Int
structure Rm where
 P:Rp
 R:Ri
abbrev wK(s:Rs):List AV:=[.sl 7 (bS s.dom),I s.ord,I s.p]
abbrev oj(s:Rs):AV:=.agg (wK s)
abbrev tU(m:Rm):List AV:=[I m.P.vars,.sl 4 (aL m.P.terms),B m.R.lo.neg,lm m.R.lo.m,I m.R.lo.e,B m.R.hi.neg,lm m.R.hi.m,I m.R.hi.e,B m.R.all]
abbrev fS(m:Rm):AV:=.agg (tU m)
def lE:Rd:=⟨true,[1],0⟩
def bX:Ri:=⟨lE,one,false⟩
def cj:Ri:=⟨aB,aB,false⟩
theorem aol:R faP [I (-1)] []=some (af lE,[]):=by
 grind[D4,Ku,bg,lE,jT,xp,aA,qU,go]
theorem Nb:vd lE=true/\Ok0 lE:=⟨by decide,⟨fun x hx=>by rw[List.mem_singleton.1 hx];decide,by decide⟩⟩
theorem Dm:OkI bX/\VI bX:=⟨⟨Nb.2,dW.2⟩,⟨Nb,dW⟩⟩
theorem U0:R fcf [I 0] []=some (aj cj,[]):=by
 refine au Ks rfl ?_;have h1:R faP [I 0] []=some (af aB,[]):=by grind[D4,Ku,j6]
 have h2:=gO aO.2 aO.1;simp only[aj,ao,af,ai,aB]at h1 h2;simp only[ye,aj,ao,cj,aB,go_sem,h1,h2]
theorem aq6(ox:OkI x)(oy:OkI y):R fb4 [aj x,ac 1000] [.bx (ao y)]=some (B (!qx x y),[.bx (ao y)]):=by
 refine zZ Jr Jq (yO false) rfl ?_;have h:=UZ ox oy;generalize qx x y=b at h⊢;simp only[aj,ao]at h;simp only[sQ,ao,aj,go_sem,h];exact gB rfl rfl rfl rfl rfl
theorem aq7:Src fed fel 7 true [.o 0 [],.o 2 [],.o 0 [],.o 0 [],.o 2 [],.o 0 [],.o 0 []]:=
 ⟨aS.2.1,aS.2.2,aS.1.2.2.2 false,aS.1.2.1 false,aS.1.2.2.2 false,aS.1.1 false,
  aI.2.1,aI.2.2,aI.1.2.2.2 false⟩
theorem aq8{l:List Ri}(ol:∀x∈l,OkI x)(oy:OkI y)(hl:l.length<4611686018427387904):R fed [.sl 7 (bS l),.fn fb4 [] [ac 1000]] [.bx (ao y)]=some (B (l.any fun x=>!qx x y),[.bx (ao y)]):=
 IE aq7 (akS y) (Cd false) (yO false) hl (S6 l) fun x hx=>⟨aj x,aj x,rfl,rfl,rfl,by simp only[aj,ao,go_sem],aq6 (ol x hx) oy⟩
def eE(s:Rs):Bool:=decide (1<=s.dom.length)&& (decide (s.dom.length<=8)&& (decide (1<=s.ord)&& (decide (s.ord<=16)&& (bC s.p&&!(s.dom.any fun x=>!qx x bX)))))
theorem Am{s:Rs}(od:∀x∈s.dom,OkI x)(hl:s.dom.length<4611686018427387904):R fb3 [oj s] []=some (B (eE s),[]):=by
 refine au Lt rfl ?_;have h1:=aol;have h2:=LH;simp only[af,ai,lE,one]at h1 h2;have hp:bC s.p=(decide (8<=s.p)&&decide (s.p<=512)):=rfl;unfold eE;rw[hp];by_cases g1:(s.dom.length:Int)<1
 ·have f1:((s.dom.length:Int)<1)=True:=eq_true g1;rw[decide_eq_false (p:=1<=s.dom.length) ω,aCO];simp only[ey,go_sem,h1,h2,f1]
 have f1:((s.dom.length:Int)<1)=False:=eq_false g1;rw[decide_eq_true (p:=1<=s.dom.length) ω,aCM];by_cases g2:8< (s.dom.length:Int)
 ·have f2:(8< (s.dom.length:Int))=True:=eq_true g2;rw[decide_eq_false (p:=s.dom.length<=8) ω,aCO];simp only[ey,go_sem,h1,h2,f1,f2]
 have f2:(8< (s.dom.length:Int))=False:=eq_false g2;rw[decide_eq_true (p:=s.dom.length<=8) ω,aCM];by_cases g3:s.ord<1
 ·have f3:(s.ord<1)=True:=eq_true g3;rw[decide_eq_false (p:=1<=s.ord) ω,aCO];simp only[ey,go_sem,h1,h2,f1,f2,f3]
 have f3:(s.ord<1)=False:=eq_false g3;rw[decide_eq_true (p:=1<=s.ord) ω,aCM];by_cases g4:16<s.ord
 ·have f4:(16<s.ord)=True:=eq_true g4;rw[decide_eq_false (p:=s.ord<=16) ω,aCO];simp only[ey,go_sem,h1,h2,f1,f2,f3,f4]
 have f4:(16<s.ord)=False:=eq_false g4;rw[decide_eq_true (p:=s.ord<=16) ω,aCM];by_cases g5:s.p<8
 ·have f5:(s.p<8)=True:=eq_true g5;rw[decide_eq_false (p:=8<=s.p) ω,aCO,aCO];simp only[ey,go_sem,h1,h2,f1,f2,f3,f4,f5]
 have f5:(s.p<8)=False:=eq_false g5;rw[decide_eq_true (p:=8<=s.p) ω,aCM];by_cases g6:512<s.p
 ·have f6:(512<s.p)=True:=eq_true g6;rw[decide_eq_false (p:=s.p<=512) ω,aCO];simp only[ey,go_sem,h1,h2,f1,f2,f3,f4,f5,f6]
 have f6:(512<s.p)=False:=eq_false g6;rw[decide_eq_true (p:=s.p<=512) ω,aCM];have hc:=aq8 od Dm.1 hl;generalize(s.dom.any fun x=>!qx x bX)=b at hc⊢;have hcc:=fun(h:ae) (d:Nat) (hh:h 3=.bx (ao bX)) (hf:h (2000+8*d)=.dead)=>uL (f:=fed) (g:=fb4) (h:=h) (d:=d) (id:=3) (zas:=[.sl 7 (bS s.dom)]) (as':=[.sl 7 (bS s.dom)]) (aI.1.2.1 false) (aI.1.2.2.2 false)
  (by rw[aI.1.1];simp only[go_sem,aDd,aCT]) rfl rfl hh (akS _) (akS _) (fun h=>h) hc (LT _) (aDa rfl) (by grind[cr,cJ,bU])
 simp only[ao,bX,lE,one,aDd,aCT,go_sem]at hcc;simp only[ey,go_sem,h1,h2,f1,f2,f3,f4,f5,f6];rw[hcc _ _ rfl rfl];simp only[go_sem]
def Cq(d:Rd)(p:Int):Bool:=bC p&& (vd d&&decide ((ag (ab d.m):Int)<=p))
theorem atP{d:Rd}(od:Ok0 d):R fdP [af d,I p] []=some (B (Cq d p),[]):=by
 refine au aeq rfl ?_;have h1:=C8 (p:=p) (l:=[d]) (fun x hx=>by rw[List.mem_singleton.1 hx];exact od) σ;have h2:=Pf od;have hp:bC p=(decide (8<=p)&&decide (p<=512)):=rfl;have hf:(aY p [d]=0)=(Cq d p=true\/(bC p=true/\vd d=true)):=by
  unfold aY Cq;rw[hp];simp only[aDb,List.all_nil,Bool.and_true,aCK,decide_eq_true_eq,eq_iff_iff];split<;> (try split)<;>grind
 unfold Cq at hf⊢;simp only[eC,wG,aDc,aDh,af,ai]at h1 h2;cases hv:vd d with
 |false=>
  rw[hv]at hf h2;have f1:(aY p [d]=0)=False:=by rw[hf];simp
  generalize aY p [d]=q at h1 f1;simp only[zK,af,ai,go_sem,h1,f1,aCO,aDH]
 |true=>
  rw[hv]at hf h2;rw[if_pos rfl]at h2;cases hq:bC p with
  |false=>
   rw[hq]at hf;have f1:(aY p [d]=0)=False:=by rw[hf];simp
   generalize aY p [d]=q at h1 f1;simp only[zK,af,ai,go_sem,h1,f1,aCO]
  |true=>
   rw[hq]at hf;have f1:(aY p [d]=0)=True:=by rw[hf];simp
   generalize aY p [d]=q at h1 f1;generalize(ag (ab d.m):Int)=n at h2⊢;simp only[zK,af,ai,go_sem,h1,h2,f1,aCM]
theorem Cr(s:Rs):OC (.bx (wK s)):=⟨fun _=>rfl,rfl,fun _=>rfl,rfl⟩
theorem atQ{t:Rt}{s:Rs}(ot:Ok0 t.c):R fb5 [.agg (ce t),ac 1000] [.bx (wK s)]=some (B (!Cq t.c s.p),[.bx (wK s)]):=by
 refine zZ QC QB (DZ false) rfl ?_;have h:=atP (p:=s.p) ot;generalize Cq t.c s.p=b at h⊢;simp only[af,ai]at h;simp only[Ap,ce,go_sem,h];exact gB rfl rfl rfl rfl rfl
theorem amq:Src fef fen 4 true [.o 2 [],.o 0 [],.o 2 [],.o 0 []]:=
 ⟨cO.2.1,cO.2.2,cO.1.2.2.2 false,cO.1.2.1 false,cO.1.2.2.2 false,cO.1.1 false,
  br.2.1,br.2.2,br.1.2.2.2 false⟩
theorem mf(l:List Rt):(aL l).map (eP [.o 2 [],.o 0 [],.o 2 [],.o 0 []])=aL l:=by
 refine tO fun x hx=>?_;simp only[aL,aDz]at hx;obtain⟨t,ht,rfl⟩:=hx;simp only[ce,go_sem]
structure OkS (s:Rs):Prop where
 d:∀x∈s.dom,OkI x
 n:s.dom.length<4611686018427387904
structure OkM (m:Rm):Prop where
 c:∀t∈m.P.terms,Ok0 t.c
 r:OkI m.R
 n:m.P.terms.length<4611686018427387904
def vO(s:Rs)(m:Rm):Bool:=eE s&& (vp m.P&& (decide (m.P.vars=s.dom.length)&& (decide (jL m.P<=s.ord)&& (vi m.R&&!(m.P.terms.any fun t=>!Cq t.c s.p)))))
theorem ain{a:Rp}(oc:∀t∈a.terms,Ok0 t.c)(h:vp a=true):OkP a:=⟨fun t ht=>⟨oc t ht,by
 unfold vp at h;simp only[aCK,decide_eq_true_eq]at h;have:=(Cj (MQ _ _ h.2.2.2 t ht)).1;omega⟩⟩
theorem Eb{s:Rs}{m:Rm}(os:OkS s)(om:OkM m):R fb2 [oj s,fS m] []=some (B (vO s m),[]):=by
 refine au Vt rfl ?_;have h1:=Am os.d os.n;have h2:=Q2 om.c;have h4:=oW om.r;unfold vO;simp only[bc,aj,ao]at h2 h4;cases g1:eE s with
 |false=>
  rw[g1]at h1;simp only[jV,go_sem,h1,aCO]
 |true=>
 rw[g1]at h1;cases g2:vp m.P with
 |false=>
  rw[g2]at h2;simp only[jV,go_sem,h1,h2,aCO,aDH]
 |true=>
 rw[g2]at h2;by_cases g3:m.P.vars=(s.dom.length:Int)
 case neg=>
  have f3:(m.P.vars=(s.dom.length:Int))=False:=eq_false g3;simp only[jV,go_sem,h1,h2,f3,aCO,aDH]
 have f3:(m.P.vars=(s.dom.length:Int))=True:=eq_true g3;have h3:=Hb (ain om.c g2);simp only[bc]at h3;by_cases g4:s.ord<jL m.P
 case pos=>
  have f4:(s.ord<jL m.P)=True:=eq_true g4;have f4':(jL m.P<=s.ord)=False:=ff;simp only[jV,go_sem,h1,h2,h3,f3,f4,f4',aCO,aDH]
 have f4:(s.ord<jL m.P)=False:=eq_false g4;have f4':(jL m.P<=s.ord)=True:=tt;cases g5:vi m.R with
 |false=>
  rw[g5]at h4;simp only[jV,go_sem,h1,h2,h3,h4,f3,f4,f4',aCO,aDH]
 |true=>
 rw[g5]at h4;have hc:=IE amq (Frow:=ce) (l:=m.P.terms) (q:=fun t=>!Cq t.c s.p) (Cr s) (G2 false) (DZ false) om.n (mf _) fun t ht=>⟨.agg (ce t),.agg (ce t),rfl,rfl,rfl,by rw[OI];simp only[ce,go_sem],atQ (om.c t ht)⟩;generalize(m.P.terms.any fun t=>!Cq t.c s.p)=b at hc⊢;have hcc:=fun(h:ae) (d:Nat) (hh:h 2=.bx (wK s)) (hf:h (2000+8*d)=.dead)=>uL (f:=fef) (g:=fb5) (h:=h) (d:=d) (id:=2) (zas:=[.sl 4 (aL m.P.terms)]) (as':=[.sl 4 (aL m.P.terms)]) (br.1.2.1 false) (br.1.2.2.2 false)
  (by rw[br.1.1];simp only[go_sem,mf,aDd,aCT]) rfl rfl hh (Cr _) (Cr _) (fun h=>h) hc (LT _) (aDa rfl) (by simp[cr,cJ,hf,bU])
 simp only[aDd,aCT,go_sem]at hcc;simp only[jV,go_sem,h1,h2,h3,h4,f3,f4,f4'];rw[hcc _ _ rfl rfl];simp only[go_sem]
theorem VI.ok'(h:VI x):OkI x:=⟨h.1.2,h.2.2⟩
theorem Nc:∀dom:List Ri,kO dom (dom.map fun b=>qv b.lo) (aCG dom.length 0)
 |[]=>trivial
 |b::dom=>⟨by grind,by decide,by decide,Nc dom⟩
def IsD(c:List AV)(q:Rd):Prop:=c=[B q.neg,lm q.m,I q.e]\/(c=zb/\q=aB)
theorem IsD.cl{c:List AV}{q:Rd}(h:IsD c q)(l:List Nat):c.all (hF l)=true:=by
 rcases h with rfl| ⟨rfl,_⟩<;>rfl
def oQ(a b:Rd):Rd×Int:=if(vd a&&vd b)=true then cI (cT (zI a-zI b) (-16384))else(aB,1)
theorem Bu(a b:Rd):vd (oQ a b).1=true/\Ok0 (oQ a b).1:=by
 unfold oQ;split
 ·exact yI
 ·exact⟨rfl,⟨fun x hx=>(nomatch hx),by decide⟩⟩
theorem aln{a b:Rd}(vb:vd b=true):oQ a b=eK a (ed b):=by
 grind[we,oQ,eK,Int.sub_eq_add_neg]
theorem Zs{M k:Nat}:zI (bg neg M (-16384+(k:Int)))=bL neg (M*2^k):=by
 by_cases h0:M=0
 ·subst h0;rw[j6,cQ rfl,Nat.zero_mul];cases neg<;>rfl
 ·rw[jT h0];obtain⟨t1,t2⟩:=yz h0;unfold zI mg bL;rw[aT];have hk:(-16384+(k:Int)+((tz M:Nat):Int)+16384).toNat=tz M+k:=ω
  have hm:M/2^tz M*2^ (-16384+(k:Int)+((tz M:Nat):Int)+16384).toNat=M*2^k:=by
   grind
  grind
theorem Zt(h:(Da neg true p q e).2=0):Da neg true p q e=(bg neg q e,0)/\¬ (q≠0/\16384< ((ag q:Nat):Int)+e):=by
 unfold Da at h⊢;grind
theorem acM{q':Nat}(hq:q<=q')(h:¬ (q'≠0/\16384< ((ag q':Nat):Int)+e)):Da neg false p q e=(bg neg q e,0):=by
 unfold Da;rw[if_neg];have h1:=Bb hq (aCJ _);omega
structure NearF (d lo hi:Rd) (q q' r k:Nat):Prop where
 hz:mg d=q*2^k+r
 hr:r<2^k
 hq:q'=if r=0 then q else q+1
 hlo:lo=bg d.neg (if d.neg=true then q' else q) (-16384+(k:Int))
 hhi:hi=bg d.neg (if d.neg=true then q else q') (-16384+(k:Int))
 hw:r≠0->∃t v:Nat,mg d=v*2^t/\t<=k/\k-t<=ag v-8/\8<=ag v/\ag v<=4096/\ag v+t<=32768
theorem RB(d:Rd):zI d=bL d.neg (mg d):=rfl
theorem aio{d:Rd}(ok:Ok0 d)(v:vd d=true)(hp:8<=p/\p<=512)(h0:(cw d p false).2=0)(h1:(cw d p true).2=0):∃q q' r k,NearF d (cw d p false).1 (cw d p true).1 q q' r k:=by
 have hf:aY p [d]=0:=by
  simp_all[aY,aDb,List.all_nil,Bool.and_true,if_true,if_pos]
 have hR:∀up,cw d p up=Gg d.neg (mg d) (-16384) false p up:=fun up=>by
  simp_all[cw,if_pos,RB,Q0]
 rw[hR]at h0 h1;rw[hR,hR];unfold Gg SX at h0 h1⊢;obtain⟨k,hk⟩:∃k,LD (mg d) (-16384) p=k:=⟨_,rfl⟩;rw[hk]at h0 h1⊢;obtain⟨q',hq'⟩:∃q',q'=if mg d%2^k=0 then mg d/2^k else mg d/2^k+1:=⟨_,rfl⟩
 have hle:mg d/2^k<=q':=by
  grind
 have e1:(if((false||decide (mg d%2^k≠0))&&true)=true then mg d/2^k+1 else mg d/2^k)=q':=by
  grind
 have e2:(if((false||decide (mg d%2^k≠0))&&false)=true then mg d/2^k+1 else mg d/2^k)=mg d/2^k:=by
  grind
 have hw:mg d%2^k≠0->∃t v:Nat,mg d=v*2^t/\t<=k/\k-t<=ag v-8/\8<=ag v/\ag v<=4096/\ag v+t<=32768:=by
  intro hr;have hm:d.m.length≠0:=fun h=>hr (by
   have:mg d=0:=by
    unfold mg;rw[List.length_eq_zero_iff.1 h];exact Nat.zero_mul _
   simp_all)
  obtain⟨g1,g2,g3,g4⟩:=zU v hm;obtain⟨b1,b2,b3,b4⟩:=C6 g4 (Nat.pos_iff_ne_zero.1 (gM (dQ v hm)));have hb:=dJ (d.e+16384).toNat (dQ v hm);have hmg:mg d=ab d.m*2^ (d.e+16384).toNat:=rfl;rw[←hmg]at hb;unfold LD at hk;have ht:(d.e+16384).toNat<=k:=Nat.le_of_not_lt fun hlt=>hr (by
   rw[hmg,show(d.e+16384).toNat=k+((d.e+16384).toNat-k)by omega,aCU,←aC9,Nat.mul_right_comm]
   simp_all)
  have hk1:k≠0:=fun h=>hr (by rw[h,Nat.pow_zero,Nat.mod_one]);refine⟨(d.e+16384).toNat,ab d.m,rfl,ht,?_,?_,b1,?_⟩<;>omega
 refine⟨mg d/2^k,q',mg d%2^k,k,?_,aDj _ (aC1 _),hq',?_,?_,hw⟩
 ·grind[aDC]
 all_goals
  cases hn:d.neg with
  |false=>
   rw[hn]at h0 h1;simp only[bne_self_eq_false,Bool.false_bne,e1,e2]at h0 h1⊢;obtain⟨k1,k2⟩:=Zt h1
   first
   | (rw[acM hle k2];rfl)
   | (rw[k1];rfl)
  |true=>
   rw[hn]at h0 h1;simp only[bne_self_eq_false,Bool.bne_false,e1,e2]at h0 h1⊢;obtain⟨k1,k2⟩:=Zt h0
   first
   | (rw[acM hle k2];rfl)
   | (rw[k1];rfl)
theorem Zu{v t k x:Nat}{n:Bool}(h1:k-t<=ag v-8)(h2:8<=ag v)(h3:ag v<=4096)(h4:ag v+t<=32768)(hx:x<=2^ (k-t)):(cI (cT (bL n (x*2^t)) (-16384))).2=0:=by
 have hb:ag x<=k-t+1:=bH.2 (aDe hx (Nat.pow_lt_pow_right δ ω));rw[←Bk,kH,Gf ω ω ω]
def Zv(lo hi:Rd):Rd:=if hi.m.length=0\/(lo.m.length≠0/\lo.e<hi.e)then hi else lo
def Nd(z:Int)(lo hi:Rd):Rd:=if z-zI lo<zI hi-z then lo else if zI hi-z<z-zI lo then hi else Zv lo hi
def nC(d:Rd)(p:Int):Rd×Int:=if(cw d p false).2=0 then(if(cw d p true).2=0 then(Nd (zI d) (cw d p false).1 (cw d p true).1,0)else(aB,(cw d p true).2))else(aB,(cw d p false).2)
structure NearOk (d lo hi:Rd):Prop where
 below:(oQ d lo).2=0
 above:(oQ hi d).2=0
 tie:zI lo≠zI hi->zI d-zI lo=zI hi-zI d->lo.m.length≠0->hi.m.length≠0->lo.e≠hi.e
 le:zI lo<=zI d/\zI d<=zI hi
theorem U1{M:Nat}(h:(bg neg M e).m.length≠0):M≠0/\(bg neg M e).e=e+tz M:=by
 by_cases h0:M=0
 ·subst h0;exact absurd rfl h
 grind[jT]
theorem acN(h:q≠0):tz q≠tz (q+1):=by
 have hs:∀ {n:Nat},n≠0->tz n=0->n%2=1:=fun{n} h0 h1=>by
  have:=(yz h0).2;grind
 grind[xp]
theorem aom{d:Rd}(ok:Ok0 d)(v:vd d=true)(hp:8<=p/\p<=512)(h0:(cw d p false).2=0)(h1:(cw d p true).2=0):NearOk d (cw d p false).1 (cw d p true).1:=by
 obtain⟨q,q',r,k,Fm⟩:=aio ok v hp h0 h1;have vlo:vd (cw d p false).1=true:=by
  unfold cw;split
  ·exact vH.1
  ·rfl
 have vhi:vd (cw d p true).1=true:=by
  unfold cw;split
  ·exact vH.1
  ·rfl
 generalize(cw d p false).1=lo at*
 generalize(cw d p true).1=hi at*
 have zlo:zI lo=bL d.neg ((if d.neg=true then q' else q)*2^k):=by rw[Fm.hlo,Zs]
 have zhi:zI hi=bL d.neg ((if d.neg=true then q else q')*2^k):=by rw[Fm.hhi,Zs]
 have zd:=RB d;have hz:=Fm.hz;have hr:=Fm.hr;have hq:=Fm.hq;have hs1:oQ d lo=cI (cT (zI d-zI lo) (-16384)):=by
  simp_all[oQ,aDv,if_pos]
 have hs2:oQ hi d=cI (cT (zI hi-zI d) (-16384)):=by
  simp_all[oQ,aDv,if_pos]
 by_cases r0:r=0
 ·rw[if_pos r0]at hq;rw[hq,ite_self,←hq]at zlo zhi;have e0:zI d=zI lo:=γ
  have e1:zI d=zI hi:=ω
  have h00:(cI (cT 0 (-16384))).2=0:=by rw[show cT 0 (-16384)=aB from j6];rfl
  refine⟨?_,?_,fun h=>absurd (e0.symm.trans e1) h,by omega⟩
  all_goals grind
 ·rw[if_neg r0]at hq;obtain⟨t,w,w1,w2,w3,w4,w5,w6⟩:=Fm.hw r0;have hp2:(2:Nat)^k=2^ (k-t)*2^t:=by rw[←aCU,show k-t+t=k by omega]
  have hrr:r=(w-q*2^ (k-t))*2^t:=by
   grind[Nat.sub_mul,aC9]
  obtain⟨x,hx⟩:∃x,w-q*2^ (k-t)=x:=⟨_,rfl⟩;rw[hx]at hrr;have hxl:x<2^ (k-t):=by
   rw[hrr,hp2]at hr;exact Nat.lt_of_mul_lt_mul_right hr
  have f1:∀n,(cI (cT (bL n r) (-16384))).2=0:=fun n=>by
   grind[Zu,Nat.le_of_lt]
  have f2:∀n,(cI (cT (bL n (2^k-r)) (-16384))).2=0:=fun n=>by
   rw[hrr,hp2,←Nat.sub_mul];grind[Zu,Nat.sub_le]
  have hq2:q'*2^k=q*2^k+2^k:=γ
  have htie:lo.m.length≠0->hi.m.length≠0->lo.e≠hi.e:=by
   intro m1 m2;rw[Fm.hlo]at m1⊢;rw[Fm.hhi]at m2⊢;obtain⟨a1,a2⟩:=U1 m1;obtain⟨b1,b2⟩:=U1 m2;rw[a2,b2];cases hn:d.neg with
   |false=>
    grind[acN]
   |true=>
    grind[acN]
  generalize 2^k=K at*
  refine⟨?_,?_,fun _ _=>htie,?_⟩
  ·rw[hs1];cases hn:d.neg with
   |false=>
    rw[hn]at zd zlo;have:zI d-zI lo=bL false r:=by grind[qF]
    grind
   |true=>
    rw[hn]at zd zlo;simp only[if_true,rJ]at zd zlo;have:zI d-zI lo=bL false (K-r):=by grind[qF]
    grind
  ·rw[hs2];cases hn:d.neg with
   |false=>
    rw[hn]at zd zhi;have:zI hi-zI d=bL false (K-r):=by grind[qF]
    grind
   |true=>
    rw[hn]at zd zhi;simp only[if_true,rJ]at zd zhi;have:zI hi-zI d=bL false r:=by grind[qF]
    grind
  ·cases hn:d.neg with
   |false=>
    rw[hn]at zd zlo zhi;simp only[aDy,if_false,qF]at zd zlo zhi;omega
   |true=>
    rw[hn]at zd zlo zhi;simp only[if_true,rJ]at zd zlo zhi;omega
end Go.Ab
