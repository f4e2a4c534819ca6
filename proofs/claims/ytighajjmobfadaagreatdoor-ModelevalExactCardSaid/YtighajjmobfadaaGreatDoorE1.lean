/-
  A law of tapes on models holds at every input that the statement speaks of, under the conditions that its card names. Part E1.
-/
import Derived.Test.YtighajjmobfadaaGreatDoorD1
open Nat renaming add_mul → azn, add_zero → azA, div_add_mod → azV, le_of_ble_eq_true → azJ, le_refl → ayZ, le_trans → ay3, lt_of_le_of_lt → azt, lt_of_lt_of_le → azY, min_eq_left → azS, mod_eq_of_lt → azL, mod_lt → azw, mul_assoc → azq, mul_comm → azl, mul_le_mul_left → azR, mul_le_mul_right → ay7, pow_add → azc, pow_le_pow_right → azD, pow_succ → azO, reduceMod → azG, reduceSub → azz, sub_self → az2, two_pow_pos → aze, zero_add → ayX, zero_le → azH
open Int renaming lt_irrefl → azI, natCast_zero → azC, reduceEq → azf, reduceLE → azh, reduceLT → aza, reduceToNat → azu, toNat_natCast → ay4
open Bool renaming and_eq_true → ay1, and_false → az3, and_self → azs, and_true → az1, false_and → ay6, false_eq_true → azK, false_ne_true → ay9, true_and → ay5
open List renaming all_cons → azm, all_eq_true → azk, append_assoc → azB, append_nil → azb, cons_append → azM, drop_eq_getElem_cons → azj, drop_eq_nil_of_le → azi, drop_zero → azZ, getElem_mem → azo, length_append → azr, length_cons → azp, length_drop → azQ, length_map → azW, length_nil → azx, length_replicate → azU, length_take → azd, map_congr_left → azy, map_cons → azv, map_id' → azN, map_nil → azF, mem_map → azP, nil_append → ay8, replicate → ayW, take_of_length_le → azg
open Option renaming bind_eq_some_iff → ayY, bind_some → ay2, map_eq_some_iff → ay0, map_some → azE
set_option linter.all false
namespace Go.Ab
open Go Go.IntWalk
set_option maxRecDepth 4000
set_option maxHeartbeats 4000000
theorem RW{m:List Nat}{i:Nat}(h:m.length<=i):m.getD i 0=0:=by
 grind
theorem ae2(a b:List Nat)(i:Nat):dk a b (i+1)=dk a b i++[Hi a b i]:=by simp[dk,List.range_succ]
theorem ae3(a b:List Nat)(i:Nat):kw a b (i+1)=kw a b i++[I0 a b i]:=by simp[kw,List.range_succ]
theorem ae4{a b:List Nat}(ha:Lb a)(hb:Lb b)(h1:a.length<=100000)(h2:b.length<=100000):∀ (k i:Nat),i+k=max a.length b.length->∀ (s:ai) (h:ac),s 0=lm a->s 1=lm b->s 6=W (eC a b i:Nat)->s 7=I i->GF 49 (dk a b i) (s 5) (h 49)->
  ∃x hh,ah 0 [5,6] (aq (aj R (az false) eP) [0,1,5,6,7] [49] s h)=some (.normal,⟨upd (upd (fun _=>.any) 6 (W (eC a b (max a.length b.length):Nat))) 5 x,hh⟩)/\GF 49 (dk a b (max a.length b.length)) x (hh 49)/\∀a,a≠49->hh a=.dead:=by
 intro k;induction k with
 |zero=>
  intro i hi s h h0 g1 h6 h7 hacc;have e1:((i:Int)< (a.length:Int))=False:=ff;have e2:((i:Int)< (b.length:Int))=False:=ff;have:i=max a.length b.length:=ω
  rw[←this];rw[ag];rcases hacc with⟨g2,h5,hh⟩| ⟨g2,h5,hh⟩
  ·refine⟨.emp,?hh0,?_,Or.inl ⟨g2,rfl,?_⟩,?_⟩;rotate_left
   ·simp only[eP,go_sem,h0,g1,h5,h6,h7,hh,e1,e2];rfl
   all_goals simp_all[cj,if_false]
  ·refine⟨.rsl 49 none 1 0 (dk a b i).length,?hh1,?_,Or.inr ⟨g2,rfl,?_⟩,?_⟩;rotate_left
   ·simp only[eP,go_sem,h0,g1,h5,h6,h7,hh,e1,e2];rfl
   all_goals simp_all[cj,if_false]
 |succ k ih=>
  intro i hi s h h0 g1 h6 h7 hacc;have ih':=ih (i+1) ω;have hx:=bU ha i;have hy:=bU hb i;have hc:=Fn ha hb i;have e3:IntKind.i64.wrap ((i:Int)+1)=((i+1:Nat):Int):=wi;have q1:((dk a b i).length+1)*4<=140737488355328:=by grind[jG]
  have f3:=tt q1;have e4:IntKind.u64.wrap (a.getD i 0:Int)=(a.getD i 0:Int):=dK rfl ω;have e5:IntKind.u64.wrap (b.getD i 0:Int)=(b.getD i 0:Int):=dK rfl ω;have f8:=sW (n:=a.getD i 0+b.getD i 0+eC a b i) (k:=32) (kk:=.u64) (j:=32) rfl rfl ω;rw[show(a.getD i 0+b.getD i 0+eC a b i)/2^32=eC a b (i+1)from rfl]at f8;have f9:=FB (n:=a.getD i 0+b.getD i 0+eC a b i) rfl ω;rw[show(a.getD i 0+b.getD i 0+eC a b i) %4294967296=Hi a b i from rfl]at f9;have f10:IntKind.u32.wrap ((Hi a b i:Nat):Int)=((Hi a b i:Nat):Int):=DK rfl (azw _ ω);rw[ag];rw[ae2]at ih';generalize aq _ _ _=L at ih'⊢;by_cases hla:i<a.length
  ·have e1:((i:Int)< (a.length:Int))=True:=tt;have e2:aU (aC a) (i:Int)=some (.ipt [U (a.getD i 0:Nat)]):=bu rfl hla;have w1:IntKind.u64.wrap ((eC a b i:Int)+(a.getD i 0:Int))=((a.getD i 0+eC a b i:Nat):Int):=dK ω ω;by_cases hlb:i<b.length
   ·have e6:((i:Int)< (b.length:Int))=True:=tt;have e7:aU (aC b) (i:Int)=some (.ipt [U (b.getD i 0:Nat)]):=bu rfl hlb;have w2:IntKind.u64.wrap (((a.getD i 0+eC a b i:Nat):Int)+(b.getD i 0:Int))=((a.getD i 0+b.getD i 0+eC a b i:Nat):Int):=dK ω ω;rcases hacc with⟨g2,h5,hh⟩| ⟨g2,h5,hh⟩
    ·simp only[eP,go_sem,h0,g1,h5,h6,h7,hh,e1,e2,e3,e4,e5,e6,e7,w1,w2,f8,f9,f10];rw[g2]at ih';exact ih' _ _ rfl rfl rfl rfl Ca
    ·simp only[eP,go_sem,h0,g1,h5,h6,h7,hh,e1,e2,e3,e4,e5,e6,e7,w1,w2,f3,f8,f9,f10,true_or,ayX,ayZ,wm];exact ih' _ _ rfl rfl rfl rfl y6
   ·have e6:((i:Int)< (b.length:Int))=False:=ff;have hz:=RW (m:=b) (i:=i) ω;have w2:((a.getD i 0+eC a b i:Nat):Int)=((a.getD i 0+b.getD i 0+eC a b i:Nat):Int):=ω
    rw[w2]at w1;rcases hacc with⟨g2,h5,hh⟩| ⟨g2,h5,hh⟩
    ·simp only[eP,go_sem,h0,g1,h5,h6,h7,hh,e1,e2,e3,e4,e6,w1,f8,f9,f10];rw[g2]at ih';exact ih' _ _ rfl rfl rfl rfl Ca
    ·simp only[eP,go_sem,h0,g1,h5,h6,h7,hh,e1,e2,e3,e4,e6,w1,f3,f8,f9,f10,true_or,ayX,ayZ,wm];exact ih' _ _ rfl rfl rfl rfl y6
  ·have e1:((i:Int)< (a.length:Int))=False:=ff;have hlb:i<b.length:=ω
   have e6:((i:Int)< (b.length:Int))=True:=tt;have e7:aU (aC b) (i:Int)=some (.ipt [U (b.getD i 0:Nat)]):=bu rfl hlb;have hz:=RW (m:=a) (i:=i) ω;have w2:IntKind.u64.wrap ((eC a b i:Int)+(b.getD i 0:Int))=((a.getD i 0+b.getD i 0+eC a b i:Nat):Int):=dK ω ω;rcases hacc with⟨g2,h5,hh⟩| ⟨g2,h5,hh⟩
   ·simp only[eP,go_sem,h0,g1,h5,h6,h7,hh,e1,e3,e5,e6,e7,w2,f8,f9,f10];rw[g2]at ih';exact ih' _ _ rfl rfl rfl rfl Ca
   ·simp only[eP,go_sem,h0,g1,h5,h6,h7,hh,e1,e3,e5,e6,e7,w2,f3,f8,f9,f10,true_or,ayX,ayZ,wm];exact ih' _ _ rfl rfl rfl rfl y6
theorem ahP{a b:List Nat}(_ha:Lb a)(_hb:Lb b){L:Nat}(h1:a.length<=L)(h2:b.length<=L):ab (dk a b L++[eC a b L])=ab a+ab b:=by
 grind[IZ,azg,eA,jG,ab]
theorem ahQ{a b:List Nat}(ha:Lb a)(hb:Lb b)(h1:a.length<=10000)(h2:b.length<=10000):R F.r02_plus [lm a,lm b] []=some (lm (au (ab a+ab b)),[]):=by
 refine av acE rfl ?_;obtain⟨M,hM⟩:∃M,max a.length b.length=M:=⟨_,rfl⟩;have hr:=ae4 ha hb ω ω M 0 ω;rw[hM]at hr;have hsv:=ahP ha hb (L:=M) ω ω;have hc:=Fn ha hb M;have hL:=jG a b M;have hLb:=RB a b M;have q0:GF 49 (dk a b 0) .emp .dead:=Or.inl ⟨rfl,rfl,rfl⟩;generalize dk a b M=out at hr hsv hL hLb;generalize eC a b M=c at hr hsv hc;have ht:=FC (m:=out++[c]) (qi.2 ⟨hLb,jt.2 ⟨by omega,KT⟩⟩) γ;rw[hsv]at ht;have e8:IntKind.u32.wrap (c:Int)=(c:Int):=DK rfl ω;have q1:(out.length+1)*4<=140737488355328:=ω
 have f3:=tt q1;have f4:=Og (out++[c]);rw[show(out++[c]).length=out.length+1 by simp]at f4;generalize au (ab a+ab b)=res at ht⊢;generalize hLL:aq (aj R (az false) eP) [0,1,5,6,7] [49]=L at hr;have hX:∀s h,aj R (az false) (.loop [0,1,5,6,7] [49] eP) s h=L s h:=fun s h=>by rw[←hLL];rfl
 have hr2:∀ (S:ai) (H:ac) (X:Option (Ex×St)),ah 0 [5,6] (L S H)=X->S 0=lm a->S 1=lm b->S 6=W 0->S 7=I 0->S 5=.emp->H 49=.dead->∃x hh,X=some (.normal,⟨upd (upd (fun _=>.any) 6 (W c)) 5 x,hh⟩)/\GF 49 out x (hh 49)/\∀a,a≠49->hh a=.dead:=fun S H X hX a0 a1 a6 a7 a5 b=>by
  rw[←hX];exact hr S H a0 a1 a6 a7 γ
 simp only[Hb,Po,hX,go_sem];generalize hB:ah 0 [5,6] (L _ _)=X;obtain⟨x,hh,g0,hacc,gd⟩:=hr2 _ _ _ hB rfl rfl rfl rfl rfl rfl;rw[g0];rcases hacc with⟨c1,c2,c3⟩| ⟨c1,c2,c3⟩
 ·rw[c1]at ht;have ht':R F.r02_trim [.sl 1 [[U c]]] []=some (lm res,[]):=ht;simp only[go_sem,c2,e8,ht',ne_eq,not_false_eq_true,gd]
 ·simp only[go_sem,c2,c3,e8,f3,f4,ht,ne_eq,not_false_eq_true,gd,wm,true_or,ayX,ayZ,List.length_singleton,Ry,azr]
theorem ac3{a b:List Nat}(ha:Lb a)(hb:Lb b)(h1:a.length<=100000):∀ (k i:Nat),i+k=a.length->∀ (s:ai) (h:ac),s 0=lm a->s 1=lm b->s 6=W (oT a b i:Nat)->s 7=I i->GF 41 (kw a b i) (s 5) (h 41)->
  ∃x hh,ah 0 [5] (aq (aj R (az false) fJ) [0,1,5,6,7] [41] s h)=some (.normal,⟨upd (fun _=>.any) 5 x,hh⟩)/\GF 41 (kw a b a.length) x (hh 41)/\∀a,a≠41->hh a=.dead:=by
 intro k;induction k with
 |zero=>
  intro i hi s h h0 g1 h6 h7 hacc;have e1:((i:Int)< (a.length:Int))=False:=ff;have:i=a.length:=ω
  rw[←this];rw[ag];rcases hacc with⟨g2,h5,hh⟩| ⟨g2,h5,hh⟩
  ·refine⟨.emp,?hh0,?_,Or.inl ⟨g2,rfl,?_⟩,?_⟩;rotate_left
   ·simp only[fJ,go_sem,h0,g1,h5,h6,h7,hh,e1];rfl
   all_goals simp_all[cj,if_false]
  ·refine⟨.rsl 41 none 1 0 (kw a b i).length,?hh1,?_,Or.inr ⟨g2,rfl,?_⟩,?_⟩;rotate_left
   ·simp only[fJ,go_sem,h0,g1,h5,h6,h7,hh,e1];rfl
   all_goals simp_all[cj,if_false]
 |succ k ih=>
  intro i hi s h h0 g1 h6 h7 hacc;have ih':=ih (i+1) ω;have hx:=bU ha i;have hy:=bU hb i;have hc:=HU a b i;have hla:i<a.length:=ω
  have e1:((i:Int)< (a.length:Int))=True:=tt;have e2:aU (aC a) (i:Int)=some (.ipt [U (a.getD i 0:Nat)]):=bu rfl hla;have e3:IntKind.i64.wrap ((i:Int)+1)=((i+1:Nat):Int):=wi;have q1:((kw a b i).length+1)*4<=140737488355328:=by grind[yb]
  have f3:=tt q1;have e4:IntKind.u64.wrap (a.getD i 0:Int)=(a.getD i 0:Int):=dK rfl ω;have e5:IntKind.u64.wrap (b.getD i 0:Int)=(b.getD i 0:Int):=dK rfl ω;have w3:IntKind.u64.wrap ((a.getD i 0:Int)+4294967296)=((a.getD i 0+4294967296:Nat):Int):=dK ω ω;have w4:IntKind.u64.wrap (((a.getD i 0+4294967296:Nat):Int)- ((b.getD i 0+oT a b i:Nat):Int))=((a.getD i 0+4294967296-b.getD i 0-oT a b i:Nat):Int):=dK ω ω;have f8:=sW (n:=a.getD i 0+4294967296-b.getD i 0-oT a b i) (k:=32) (kk:=.u64) (j:=32) rfl rfl ω;have w5:IntKind.u64.wrap (1- (((a.getD i 0+4294967296-b.getD i 0-oT a b i)/2^32:Nat):Int))=((oT a b (i+1):Nat):Int):=by
   grind[dK,HU,oT]
  have f9:=FB (n:=a.getD i 0+4294967296-b.getD i 0-oT a b i) rfl ω;rw[show(a.getD i 0+4294967296-b.getD i 0-oT a b i) %4294967296=I0 a b i from rfl]at f9;have f10:IntKind.u32.wrap ((I0 a b i:Nat):Int)=((I0 a b i:Nat):Int):=DK rfl (azw _ ω);rw[ag];rw[ae3]at ih';generalize aq _ _ _=L at ih'⊢;by_cases hlb:i<b.length
  ·have e6:((i:Int)< (b.length:Int))=True:=tt;have e7:aU (aC b) (i:Int)=some (.ipt [U (b.getD i 0:Nat)]):=bu rfl hlb;have w2:IntKind.u64.wrap ((oT a b i:Int)+(b.getD i 0:Int))=((b.getD i 0+oT a b i:Nat):Int):=dK ω ω;rcases hacc with⟨g2,h5,hh⟩| ⟨g2,h5,hh⟩
   ·simp only[fJ,go_sem,h0,g1,h5,h6,h7,hh,e1,e2,e3,e4,e5,e6,e7,w2,w3,w4,w5,f8,f9,f10];rw[g2]at ih';exact ih' _ _ rfl rfl rfl rfl Ca
   ·simp only[fJ,go_sem,h0,g1,h5,h6,h7,hh,e1,e2,e3,e4,e5,e6,e7,w2,w3,w4,w5,f3,f8,f9,f10,true_or,ayX,ayZ,wm];exact ih' _ _ rfl rfl rfl rfl y6
  ·have e6:((i:Int)< (b.length:Int))=False:=ff;have hz:=RW (m:=b) (i:=i) ω;have w2:((b.getD i 0+oT a b i:Nat):Int)=(oT a b i:Int):=ω
   rw[w2]at w4;rcases hacc with⟨g2,h5,hh⟩| ⟨g2,h5,hh⟩
   ·simp only[fJ,go_sem,h0,g1,h5,h6,h7,hh,e1,e2,e3,e4,e6,w3,w4,w5,f8,f9,f10];rw[g2]at ih';exact ih' _ _ rfl rfl rfl rfl Ca
   ·simp only[fJ,go_sem,h0,g1,h5,h6,h7,hh,e1,e2,e3,e4,e6,w3,w4,w5,f3,f8,f9,f10,true_or,ayX,ayZ,wm];exact ih' _ _ rfl rfl rfl rfl y6
theorem Tu{a b:List Nat}(ha:Lb a)(hb:Lb b)(h1:a.length<=10000)(h2:b.length<=a.length)(hv:ab b<=ab a):R F.r02_minus [lm a,lm b] []=some (lm (au (ab a-ab b)),[]):=by
 refine av Zp rfl ?_;have hr:=ac3 ha hb ω a.length 0 ω;have hall:=W8 ha hb h2 hv;have hsv:ab (kw a b a.length)=ab a-ab b:=by
  rw[hall,mr,azL];grind[azt,Nat.sub_le,cW]
 have hL:=yb a b a.length;have hLb:=RE a b a.length;have q0:GF 41 (kw a b 0) .emp .dead:=Or.inl ⟨rfl,rfl,rfl⟩;generalize kw a b a.length=out at hr hsv hL hLb;have ht:=FC (m:=out) hLb ω;rw[hsv]at ht;generalize hLL:aq (aj R (az false) fJ) [0,1,5,6,7] [41]=L at hr;have hX:∀s h,aj R (az false) (.loop [0,1,5,6,7] [41] fJ) s h=L s h:=fun s h=>by rw[←hLL];rfl
 have hr2:∀ (S:ai) (H:ac) (X:Option (Ex×St)),ah 0 [5] (L S H)=X->S 0=lm a->S 1=lm b->S 6=W 0->S 7=I 0->S 5=.emp->H 41=.dead->∃x hh,X=some (.normal,⟨upd (fun _=>.any) 5 x,hh⟩)/\GF 41 out x (hh 41)/\∀a,a≠41->hh a=.dead:=fun S H X hX a0 a1 a6 a7 a5 b=>by
  rw[←hX];exact hr S H a0 a1 a6 a7 γ
 simp only[EV,Nd,hX,go_sem];generalize hB:ah 0 [5] (L _ _)=X;obtain⟨x,hh,g0,hacc,gd⟩:=hr2 _ _ _ hB rfl rfl rfl rfl rfl rfl;rw[g0];rcases hacc with⟨c1,c2,c3⟩| ⟨c1,c2,c3⟩
 ·rw[c1]at ht;simp only[go_sem,c2,ht,ne_eq,not_false_eq_true,gd]
 ·simp only[go_sem,c2,c3,ht,ne_eq,not_false_eq_true,gd,Og,ayX,ayZ]
theorem ae5{a b:List Nat}(ha:Lb a)(hb:Lb b)(hl:a.length=b.length)(h2:a.length<=100000):∀ (k:Nat),k<=a.length->∀ (s:ai) (h:ac),s 0=lm a->s 1=lm b->s 5=I ((k:Int)-1)->
  cH (ah 0 [] (aq (aj R (az false) fw) [0,1,5] [] s h)) (aj R (az false) uo)=some (.ret,⟨upd (fun _=>.any) 4 (I (cw (ab (a.take k)) (ab (b.take k)))),fun _=>.dead⟩):=by
 intro k;induction k with
 |zero=>
  intro hk s h h0 h1 h5;rw[ag];have e1:(0<=((0:Nat):Int)-1)=False:=ff;have e2:cw (ab []) (ab [])=0:=rfl;simp only[fw,uo,go_sem,h0,h1,h5,e1,e2]
 |succ k ih=>
  intro hk s h h0 h1 h5;have ih':=ih ω;have e1:(0<=((k+1:Nat):Int)-1)=True:=tt;have e2:aU (aC a) (((k+1:Nat):Int)-1)=some (.ipt [U (a.getD k 0:Nat)]):=bu ω ω;have e3:aU (aC b) (((k+1:Nat):Int)-1)=some (.ipt [U (b.getD k 0:Nat)]):=bu ω ω;have e4:IntKind.i64.wrap (((k+1:Nat):Int)-1-1)=(k:Int)-1:=by grind[i64_in]
  have va:=fm a k;have vb:=fm b k;have la:=cW (fK ha k);have lb:=cW (fK hb k);rw[azd,azS ω]at la lb;rw[ag];rcases Nat.lt_trichotomy (a.getD k 0) (b.getD k 0)with hlt|heq|hgt
  ·have e5:((a.getD k 0:Int)< (b.getD k 0:Int))=True:=tt;have e6:cw (ab (a.take (k+1))) (ab (b.take (k+1)))=-1:=by
    have:4294967296^k*(a.getD k 0+1)<=4294967296^k*b.getD k 0:=azR _ hlt;rw[Nat.mul_add]at this;simp only[cw];omega
   simp only[fw,uo,go_sem,h0,h1,h5,e1,e2,e3,e5,e6]
  ·have e5:((a.getD k 0:Int)< (b.getD k 0:Int))=False:=ff;have e7:((b.getD k 0:Int)< (a.getD k 0:Int))=False:=ff;have e6:cw (ab (a.take (k+1))) (ab (b.take (k+1)))=cw (ab (a.take k)) (ab (b.take k)):=by
    grind[cw]
   simp only[fw,go_sem,h0,h1,h5,e1,e2,e3,e5,e6,e7,e4];exact ih' _ _ rfl rfl rfl
  ·have e5:((a.getD k 0:Int)< (b.getD k 0:Int))=False:=ff;have e7:((b.getD k 0:Int)< (a.getD k 0:Int))=True:=tt;have e6:cw (ab (a.take (k+1))) (ab (b.take (k+1)))=1:=by
    have:4294967296^k*(b.getD k 0+1)<=4294967296^k*a.getD k 0:=azR _ hgt;rw[Nat.mul_add]at this;simp only[cw];omega
   simp only[fw,uo,go_sem,h0,h1,h5,e1,e2,e3,e5,e6,e7]
theorem Zx{a b:List Nat}(ha:Lb a)(hb:Lb b)(h1:a.length<=100000)(_h2:b.length<=100000)(hc:a.length=b.length\/(CD a/\CD b)):R F.r02_compare [lm a,lm b] []=some (I (cw (ab a) (ab b)),[]):=by
 refine av Uy rfl ?_;by_cases hl:a.length=b.length
 ·have e1:((a.length:Int)=(b.length:Int))=True:=tt;have e3:IntKind.i64.wrap ((a.length:Int)-1)=(a.length:Int)-1:=i64_in _ ⟨by omega,by omega⟩;have hL:=ae5 ha hb hl h1 a.length (ayZ _);rw[List.take_length,hl,List.take_length,←hl]at hL;generalize hLL:aq (aj R (az false) fw) [0,1,5] []=L at hL;have hX:∀s h,aj R (az false) (.loop [0,1,5] [] fw) s h=L s h:=fun s h=>by rw[←hLL];rfl
  have hL2:∀s h,s 0=lm a->s 1=lm b->s 5=I ((a.length:Int)-1)->je false [[]] [.t 4] 0 (cH (ah 0 [] (L s h)) (aj R (az false) (.seq (.ops [4] [co 4 (.mv (.c (.v (.int .i64 0))))]) (.ret))))=some (I (cw (ab a) (ab b)),[]):=fun s h a0 a1 a5=>by
   rw[show(.seq (.ops [4] [co 4 (.mv (.c (.v (.int .i64 0))))]) (.ret):Cmd)=uo from rfl,hL s h a0 a1 a5];simp only[go_sem]
  show je false [[]] [.t 4] 0 (aj R (az false) tO _ _)=_;unfold tO;show je false [[]] [.t 4] 0 (cH (aj R (az false) (.ops [0,1] [co 4 (.mv (.c (.v (.int .i64 0))))]) _ _) fun s h=>cH (aj R (az false) (.seq (.ops [0,1,10] [cm 6 0,co 7 (.len false (.t 6)),cm 8 1,co 9 (.len false (.t 8)),co 10 (.bin .neq (.t 7) (.t 9))]) (.cond (.t 10) (.seq (.seq (.ops [15] [cm 11 0,co 12 (.len false (.t 11)),cm 13 1,co 14 (.len false (.t 13)),co 15 (.bin .lss (.t 12) (.t 14))]) (.cond (.t 15) (.seq (.ops [4] [co 4 (.mv (.c (.v (.int .i64 (-1)))))]) (.ret)) (.skip))) (.seq (.ops [4] [co 4 (.mv (.c (.v (.int .i64 1))))]) (.ret))) (.skip))) s h) fun s h=>cH (cH (aj R (az false) (.ops [0,1,5] [cm 16 0,co 17 (.len false (.t 16)),co 18 (.bin .sub (.t 17) (.c (.v (.int .i64 1)))),cm 5 18]) s h) fun s h=>ah 0 [] (aj R (az false) (.loop [0,1,5] [] fw) s h)) (aj R (az false) (.seq (.ops [4] [co 4 (.mv (.c (.v (.int .i64 0))))]) (.ret))))=_;simp only[hX];simp only[go_sem,e1,e3];exact hL2 _ _ rfl rfl rfl
 ·have e1:((a.length:Int)=(b.length:Int))=False:=ff;obtain⟨ca,cb⟩:=hc.resolve_left hl;by_cases hlt:a.length<b.length
  ·have e2:((a.length:Int)< (b.length:Int))=True:=tt;have e3:cw (ab a) (ab b)=-1:=by
    simp_all[s7,ab,HO,ca,cw,if_pos]
   rw[e3];simp only[wJ,tO,go_sem,e1,e2]
  ·have e2:((a.length:Int)< (b.length:Int))=False:=ff;have e3:cw (ab a) (ab b)=1:=by
    have:=s7 (x:=ab b) (y:=ab a) (by grind[HO,ca]);unfold cw;omega
   rw[e3];simp only[wJ,tO,go_sem,e1,e2]
theorem Lf{d:Rd}(ok:Ok0 d):R F.r02_Valid [af d] []=some (B (vd d),[]):=by
 refine av Ze rfl ?_;unfold vd;have hl:=ok.len;by_cases a0:d.m.length=0
 ·rw[if_pos a0];have e1:((d.m.length:Int)=0)=True:=tt;cases hn:d.neg with
  |true=>simp only[gD,jF,af,ak,hn,go_sem,e1,Bool.not_true,ay6]
  |false=>simp only[gD,jF,af,ak,hn,go_sem,e1,Bool.not_false,ay5]
 rw[if_neg a0];have e1:((d.m.length:Int)=0)=False:=ff;by_cases a1:¬d.m.length<=256
 ·have e2:(256< (d.m.length:Int))=True:=tt;rw[decide_eq_false a1,ay6];simp only[gD,jF,af,ak,go_sem,e1,e2]
 replace a1:=Decidable.not_not.1 a1
 have e2:(256< (d.m.length:Int))=False:=ff;have e3:aU (aC d.m) 0=some (.ipt [U (d.m.getD 0 0:Nat)]):=bu rfl ω;have e6:IntKind.i64.wrap ((d.m.length:Int)-1)=((d.m.length-1:Nat):Int):=wi;have e7:aU (aC d.m) ((d.m.length-1:Nat):Int)=some (.ipt [U (d.m.getD (d.m.length-1) 0:Nat)]):=bu rfl ω;have hx:=bU ok.lb 0;rw[decide_eq_true a1,ay5];by_cases a3:d.m.getD (d.m.length-1) 0=0
 ·have e8:((d.m.getD (d.m.length-1) 0:Int)=0)=True:=tt;rw[decide_eq_false (p:=d.m.getD (d.m.length-1) 0≠0) (fun h=>h a3),ay6,az3];simp only[gD,jF,af,ak,go_sem,e1,e2,e6,e7,e8]
 have e8:((d.m.getD (d.m.length-1) 0:Int)=0)=False:=ff;rw[decide_eq_true (p:=d.m.getD (d.m.length-1) 0≠0) a3,ay5];have e4:=Xv (n:=d.m.getD 0 0) rfl hx;by_cases a2:¬d.m.getD 0 0%2=1
 ·have e5:(((d.m.getD 0 0%2:Nat):Int)=0)=True:=tt;rw[decide_eq_false a2,ay6];simp only[gD,jF,af,ak,go_sem,e1,e2,e3,e4,e5,e6,e7,e8]
 replace a2:=Decidable.not_not.1 a2
 have e5:(((d.m.getD 0 0%2:Nat):Int)=0)=False:=ff;rw[decide_eq_true a2,ay5];have hv:ab d.m≠0:=KU (Or.inr a3) (fun h=>a0 γ);have hbp:=fR hv;unfold qL;rw[decide_eq_false (p:=ae (ab d.m)=0) ω,Bool.false_or];by_cases a4:d.e< -16384
 ·have f1:(d.e< -16384)=True:=tt a4;rw[decide_eq_false (p:=-16384<=d.e) ω,ay6,az3];simp only[gD,jF,af,ak,go_sem,e1,e2,e3,e4,e5,e6,e7,e8,f1]
 have f1:(d.e< -16384)=False:=ff a4;rw[decide_eq_true (p:=-16384<=d.e) ω,ay5];by_cases a5:16384<d.e
 ·have f2:(16384<d.e)=True:=tt a5;rw[decide_eq_false (p:=d.e<=16384) ω,ay6,az3];simp only[gD,jF,af,ak,go_sem,e1,e2,e3,e4,e5,e6,e7,e8,f1,f2]
 have f2:(16384<d.e)=False:=ff a5;rw[decide_eq_true (p:=d.e<=16384) ω,ay5];have hb:=ahO ok.lb ω (Or.inr a3);have hbl:=I4 ok.lb;have w1:IntKind.i64.wrap (((ae (ab d.m):Nat):Int)+d.e)=((ae (ab d.m):Nat):Int)+d.e:=i64_in _ ⟨by omega,by omega⟩;by_cases a6:ae (ab d.m)<=4096
 ·have f3:(((ae (ab d.m):Nat):Int)<=4096)=True:=tt;rw[decide_eq_true a6,ay5];simp only[gD,jF,af,ak,go_sem,e1,e2,e3,e4,e5,e6,e7,e8,f1,f2,hb,f3,w1]
 ·have f3:(((ae (ab d.m):Nat):Int)<=4096)=False:=ff;rw[decide_eq_false a6,ay6];simp only[gD,jF,af,ak,go_sem,e1,e2,e3,e4,e5,e6,e7,e8,f1,f2,hb,f3]
theorem Xy{neg:Bool}{m:List Nat}{e:Int}(hb:Lb m)(h1:m.length<=9000)(he:-1000000<=e/\e<=1000000):R F.r02_Of [B neg,lm m,I e] []=some (af (br neg (ab m) e),[]):=by
 refine av ahl rfl ?_;have ht:=FC hb ω;have la:=dy m hb;obtain⟨M,hM⟩:∃M,ab m=M:=⟨_,rfl⟩;rw[hM]at ht la⊢;by_cases h0:M=0
 ·have e1:(((au M).length:Int)=0)=True:=tt (by grind[fQ]);rw[h0,jv];simp only[Gf,NB,af,ak,aG,go_sem,ht,e1]
 ·have e1:(((au M).length:Int)=0)=False:=ff (fun h=>h0 (nJ.1 (List.length_eq_zero_iff.1 ω)));have hz:=aeY (bg M) ω (by grind[aN]);rw[aN]at hz;have htz:tz M<32*(au M).length:=by
   refine UV h0 ?_;grind[cW,bg,aN,Nat.pow_mul]
  have hr:=ae1 (bg M) (n:=tz M) ω ω;rw[aN]at hr;have w1:IntKind.i64.wrap (e+((tz M:Nat):Int))=e+((tz M:Nat):Int):=i64_in _ ⟨by omega,by omega⟩;rw[jW h0];simp only[Gf,NB,af,ak,go_sem,ht,e1,hz,hr,w1]
theorem zF{d:Rd}(h:vd d=true):zI (go d)=-zI d/\vd (go d)=true:=by
 unfold go;by_cases h0:d.m.length=0
 ·rw[if_pos (Or.inr h0),cZ h0];exact⟨by rw[cZ rfl];rfl,rfl⟩
 ·constructor
  ·grind[zI,mg]
  simp_all[vd,if_neg]
theorem ahR{d:Rd}(h:vd d=true):CD d.m:=by
 by_cases h0:d.m.length=0
 ·exact Or.inl (List.length_eq_zero_iff.1 h0)
 ·exact Or.inr (AU h h0).2.2.1
def cx(z f:Int):Rd:=br (decide (z<0)) z.natAbs f
theorem zG{neg:Bool}{n:Nat}{f:Int}:br neg n f=cx (bG neg n) f:=by
 unfold cx;by_cases h0:n=0
 ·subst h0;cases neg<;>exact jv.symm
 ·cases neg with
  |false=>
   rw[oQ,Int.natAbs_natCast,decide_eq_false ω]
  |true=>
   rw[qp,Int.natAbs_neg,Int.natAbs_natCast,decide_eq_true ω]
theorem Xz{n:Nat}(h:n%2=1)(k:Nat):tz (n*2^k)=k:=by
 rw[azl,KW k ω,AO h,azA]
theorem uq{d:Rd}(ok:Ok0 d)(h:vd d=true):cx (zI d) (-16384)=d:=by
 by_cases h0:d.m.length=0
 ·rw[cZ h0];have:=BY h h0;subst this;exact jv
 ·obtain⟨h1,h2,h3,h4⟩:=AU h h0;obtain⟨g1,g2,g3,g4⟩:=dZ h ok.lb;have hz:zI d=bG d.neg (mg d):=by
   grind[zI,bG]
  rw[hz,←zG];unfold mg;rw[jX,jW (dv h h0)];have ho:ab d.m%2=1:=by
   have:=fF d.m 0;grind
  rw[AO ho,Nat.pow_zero,Nat.div_one,HO ok.lb (ahR h)];obtain⟨n,m,e⟩:=d;grind
theorem AZ{x y:Nat}(h:x<=y):(au x).length<=(au y).length:=Nat.not_lt.1 fun h2=>by
 have:=s7 h2;omega
theorem akn{a b:Rd}(oa:Ok0 a)(ob:Ok0 b)(va:vd a=true)(vb:vd b=true):R F.r02_Sum [af a,af b] []=some (af (cx (zI a+zI b) (-16384)),[]):=by
 refine av aeo rfl ?_;by_cases a0:a.m.length=0
 ·have e1:((a.m.length:Int)=0)=True:=tt;rw[cZ a0,Int.zero_add,uq ob vb];simp only[sL,zo,af,ak,go_sem,e1]
 have e1:((a.m.length:Int)=0)=False:=ff;by_cases b0:b.m.length=0
 ·have e2:((b.m.length:Int)=0)=True:=tt;rw[cZ b0,Int.add_zero,uq oa va];simp only[sL,zo,af,ak,go_sem,e1,e2]
 have e2:((b.m.length:Int)=0)=False:=ff;obtain⟨a1,a2,a3,a4⟩:=dZ va oa.lb;obtain⟨b1,b2,b3,b4⟩:=dZ vb ob.lb;obtain⟨e,he⟩:∃e,(if b.e<a.e then b.e else a.e)=e:=⟨_,rfl⟩;have he1:-16384<=e/\e<=a.e/\e<=b.e:=by
  omega
 have w1:IntKind.i64.wrap (a.e-e)=(((a.e-e).toNat:Nat):Int):=wi;have w2:IntKind.i64.wrap (b.e-e)=(((b.e-e).toNat:Nat):Int):=wi;have l1:=Xx oa.lb (n:=(a.e-e).toNat) ω ω;have l2:=Xx ob.lb (n:=(b.e-e).toNat) ω ω;have z1:zI a=bG a.neg (ab a.m*2^ (a.e-e).toNat*2^ (e+16384).toNat):=by
  grind[zI,bG,mg,vY]
 have z2:zI b=bG b.neg (ab b.m*2^ (b.e-e).toNat*2^ (e+16384).toNat):=by
  grind[zI,bG,mg,vY]
 have bx:ae (ab a.m*2^ (a.e-e).toNat)<=36864:=by
  grind[dA,dv]
 have by':ae (ab b.m*2^ (b.e-e).toNat)<=36864:=by
  grind[dA,dv]
 rw[z1,z2];generalize ab a.m*2^ (a.e-e).toNat=x at l1 bx⊢;generalize ab b.m*2^ (b.e-e).toNat=y at l2 by'⊢;have lx:(au x).length<=1152:=aT ω;have ly:(au y).length<=1152:=aT ω;have hsum:∀ (n:Bool) (z:Nat),br n z e=cx (bG n (z*2^ (e+16384).toNat)) (-16384):=fun n z=>by
  rw[←zG,jX,show-16384+(((e+16384).toNat:Nat):Int)=e by omega]
 have hcp:=Zx (bg x) (bg y) ω ω (Or.inr ⟨KV x,KV y⟩);rw[aN,aN]at hcp;by_cases hs:a.neg=b.neg
 ·have p1:=ahQ (bg x) (bg y) ω ω;rw[aN,aN]at p1;have bz:ae (x+y)<=36865:=B3 bx by';have o1:=Xy (neg:=a.neg) (m:=au (x+y)) (e:=e) (bg _) (ay3 (aT (k:=1153) ω) δ) ⟨by omega,by omega⟩;rw[aN,hsum]at o1;have hz:bG a.neg (x*2^ (e+16384).toNat)+bG b.neg (y*2^ (e+16384).toNat)=bG a.neg ((x+y)*2^ (e+16384).toNat):=by
   rw[←hs,azn];cases a.neg
   all_goals grind[oQ,qp]
  rw[hz];generalize cx (bG a.neg ((x+y)*2^ (e+16384).toNat)) (-16384)=r at o1⊢;have hs2:(a.neg==b.neg)=true:=γ
  have hs3:(false != (a.neg==b.neg))=true:=γ
  simp only[af,ak]at o1;simp only[sL,zo,af,ak,go_sem,e1,e2,he,w1,w2,l1,l2,hs3,p1,o1]
 ·have hs2:(a.neg==b.neg)=false:=by
   grind
  have hs3:(false != (a.neg==b.neg))=false:=γ
  have hbn:b.neg=!a.neg:=by
   grind
  by_cases hlt:x<y
  ·have e5:(0<=cw x y)=False:=ff (by simp_all[cw,if_pos]);have m1:=Tu (bg y) (bg x) ω (AZ ω) (by grind[aN]);rw[aN,aN]at m1;have o1:=Xy (neg:=b.neg) (m:=au (y-x)) (e:=e) (bg _) (ay3 (AZ (Nat.sub_le _ _)) ω) ⟨by omega,by omega⟩;rw[aN,hsum]at o1;have hz:bG a.neg (x*2^ (e+16384).toNat)+bG b.neg (y*2^ (e+16384).toNat)=bG b.neg ((y-x)*2^ (e+16384).toNat):=by
    grind[Bool.not_true,oQ,qp]
   rw[hz];generalize cx (bG b.neg ((y-x)*2^ (e+16384).toNat)) (-16384)=r at o1⊢;simp only[af,ak]at o1;simp only[sL,zo,af,ak,go_sem,e1,e2,he,w1,w2,l1,l2,hs3,hcp,e5,m1,o1]
  ·have e5:(0<=cw x y)=True:=tt (by unfold cw;omega);have m1:=Tu (bg x) (bg y) ω (AZ ω) (by grind[aN]);rw[aN,aN]at m1;have o1:=Xy (neg:=a.neg) (m:=au (x-y)) (e:=e) (bg _) (ay3 (AZ (Nat.sub_le _ _)) ω) ⟨by omega,by omega⟩;rw[aN,hsum]at o1;have hz:bG a.neg (x*2^ (e+16384).toNat)+bG b.neg (y*2^ (e+16384).toNat)=bG a.neg ((x-y)*2^ (e+16384).toNat):=by
    grind[Bool.not_true,oQ,qp]
   rw[hz];generalize cx (bG a.neg ((x-y)*2^ (e+16384).toNat)) (-16384)=r at o1⊢;simp only[af,ak]at o1;simp only[sL,zo,af,ak,go_sem,e1,e2,he,w1,w2,l1,l2,hs3,hcp,e5,m1,o1]
theorem P2{x y:Int}{k:Nat}(hx:ae x.natAbs<=k)(hy:ae y.natAbs<=k):ae (x+y).natAbs<=k+1:=by
 have:=B3 hx hy;refine ay3 ?_ this;have h2:(x+y).natAbs<=x.natAbs+y.natAbs:=Int.natAbs_add_le _ _;exact bD.2 (azt h2 (bD.1 (ayZ _)))
theorem aak{d:Rd}(ok:Ok0 d)(h:vd d=true):ae (zI d).natAbs<=36864:=by
 obtain⟨h1,h2,h3,h4⟩:=dZ h ok.lb;have:(zI d).natAbs=mg d:=by
  unfold zI;split<;>omega
 rw[this];by_cases h0:d.m.length=0
 ·rw[RH h0];decide
 ·have:=RG h ok.lb h0;rw[ji h h0]at this;omega
theorem ae6{a b:Rd}(oa:Ok0 a)(ob:Ok0 b)(va:vd a=true)(vb:vd b=true):br (a.neg !=b.neg) (ab a.m*ab b.m) (a.e+b.e)=cx (zI a*zI b) (-32768):=by
 obtain⟨a1,a2,a3,a4⟩:=dZ va oa.lb;obtain⟨b1,b2,b3,b4⟩:=dZ vb ob.lb;have hz:zI a*zI b=bG (a.neg !=b.neg) (mg a*mg b):=by
  unfold zI bG;cases a.neg<;>cases b.neg<;>simp[Int.mul_neg,Int.neg_mul]
 have hm:mg a*mg b=ab a.m*ab b.m*2^ ((a.e+16384).toNat+(b.e+16384).toNat):=by
  unfold mg;rw[azc]
  ac_rfl
 rw[hz,←zG,hm,jX,show-32768+(((a.e+16384).toNat+(b.e+16384).toNat:Nat):Int)=a.e+b.e by omega]
theorem RX{a b:Rd}{p:Int}{up:Bool}:vd (di a b p up).1=true:=by
 unfold di;split
 ·exact ub.1
 ·exact aV.1
theorem RY{d:Rd}{p:Int}{up:Bool}:vd (cu d p up).1=true:=by
 unfold cu;split
 ·exact ub.1
 ·exact aV.1
theorem RZ{a b:Rd}(va:vd a=true)(vb:vd b=true):fg a b=eJ (zI a) (zI b):=by simp_all[fg,if_pos]
theorem ang{a b:Rd}(oa:Ok0 a)(ob:Ok0 b)(va:vd a=true)(vb:vd b=true)(h:zI a=zI b):a=b:=by
 rw[←uq oa va,←uq ob vb,h]
theorem oR(x y:Int):(x<y/\eJ x y=-1)\/(x=y/\eJ x y=0)\/(y<x/\eJ x y=1):=by
 unfold eJ;rcases Int.lt_trichotomy x y with h|h|h
 ·exact Or.inl ⟨h,if_pos h⟩
 ·exact Or.inr (Or.inl ⟨h,by rw[if_neg ω];exact if_neg ω⟩)
 ·exact Or.inr (Or.inr ⟨h,by rw[if_neg ω];exact if_pos h⟩)
theorem ac4{a:List Int}(h2:sm a):∀ (k i:Nat),i+k=a.length->∀ (s:ai) (h:ac),s 0=.sl 1 (aI a)->s 3=I (aS (a.take i))->s 4=I i->
  ah 0 [3] (aq (aj R (az false) Av) [0,3,4] [] s h)=some (.normal,⟨upd (fun _=>.any) 3 (I (aS a)),fun _=>.dead⟩):=by
 intro k;induction k with
 |zero=>
  intro i hi s h h0 h3 h4;have e1:((i:Int)<a.length)=False:=ff;rw[azg ω]at h3;rw[ag];simp only[Av,go_sem,h0,h3,h4,e1]
 |succ k ih=>
  intro i hi s h h0 h3 h4;have hlt:i<a.length:=ω
  obtain⟨g1,g2⟩:=h2;have e1:((i:Int)<a.length)=True:=tt;have e2:aU (aI a) (i:Int)=some (.ipt [I a[i]]):=rW rfl (List.getElem?_eq_getElem hlt);have e5:IntKind.i64.wrap ((i:Int)+1)=((i+1:Nat):Int):=wi;have b1:=aeT (l:=a.take i) (fun x hx=>g2 x (List.mem_of_mem_take hx));have b2:=g2 a[i] (azo hlt);have e6:IntKind.i64.wrap (aS (a.take i)+a[i])=aS (a.take (i+1)):=by
   grind[Xt,i64_in]
  have ih':=ih (i+1) ω;rw[ag];simp only[Av,go_sem,h0,h3,h4,e1,e2,e5,e6];exact ih' _ _ rfl rfl rfl
theorem XA{a:List Int}(h2:sm a):R F.r23_sum [.sl 1 (aI a)] []=some (I (aS a),[]):=by
 refine av aep rfl ?_;have h3:=ac4 h2 a.length 0 (ayX _);simp only[IP,Tj,go_sem];rw[h3 _ _ rfl rfl rfl];simp only[go_sem]
theorem ac5{a b:List Int}(hl:a.length=b.length)(h2:a.length<=100000):∀ (k i:Nat),i+k=a.length->∀ (s:ai) (h:ac),s 0=.sl 1 (aI a)->s 1=.sl 1 (aI b)->s 7=I i->
  ∃hh,ah 0 [] (aq (aj R (az false) kU) [0,1,7] [] s h)=if mA (b.drop i) (a.drop i)=0 then some (.normal,⟨fun _=>.any,fun _=>.dead⟩)else some (.ret,⟨upd (fun _=>.any) 4 (I (mA (b.drop i) (a.drop i))),hh⟩):=by
 intro k;induction k with
 |zero=>
  intro i hi s h h0 h1 h7;have e1:((i:Int)<a.length)=False:=ff;rw[azi ω,azi ω,ag];refine⟨fun _=>.dead,?_⟩;show _=if(0:Int)=0 then _ else _
  simp only[kU,go_sem,h0,h1,h7,e1]
 |succ k ih=>
  intro i hi s h h0 h1 h7;have hlt:i<a.length:=ω
  have hlt2:i<b.length:=ω
  have e1:((i:Int)<a.length)=True:=tt;have e2:aU (aI a) (i:Int)=some (.ipt [I a[i]]):=rW rfl (List.getElem?_eq_getElem hlt);have e3:aU (aI b) (i:Int)=some (.ipt [I b[i]]):=rW rfl (List.getElem?_eq_getElem hlt2);have e5:IntKind.i64.wrap ((i:Int)+1)=((i+1:Nat):Int):=wi;rw[azj hlt,azj hlt2,ag];have ih':=ih (i+1) ω;generalize a[i]=x at e2⊢;generalize b[i]=y at e3⊢;unfold mA;rcases oR y x with⟨g,e⟩| ⟨g,e⟩| ⟨g,e⟩
  ·have e6:(y<x)=True:=tt g;simp only[e,↓reduceIte,azf,Int.reduceNeg];refine⟨?hh1,?_⟩;rotate_left;simp only[kU,go_sem,h0,h1,h7,e1,e2,e3,e6];rfl
  ·have e6:(y<x)=False:=ff;have e7:(x<y)=False:=ff;simp only[e,↓reduceIte];simp only[kU,go_sem,h0,h1,h7,e1,e2,e3,e5,e6,e7];exact ih' _ _ rfl rfl rfl
  ·have e6:(y<x)=False:=ff;have e7:(x<y)=True:=tt;simp only[e,↓reduceIte,azf];refine⟨?hh2,?_⟩;rotate_left;simp only[kU,go_sem,h0,h1,h7,e1,e2,e3,e6,e7];rfl
theorem XB{a b:List Int}(ha:sm a)(hb:sm b)(hl:a.length=b.length):R F.r23_Compare [.sl 1 (aI a),.sl 1 (aI b)] []=some (I (bX a b),[]):=by
 refine av Uk rfl ?_;have d1:=XA ha;have d2:=XA hb;have h3:=ac5 hl (by have:=ha.1;omega) a.length 0 (ayX _);simp only[azZ,azC]at h3;unfold bX;rcases oR (aS a) (aS b)with⟨g,e⟩| ⟨g,e⟩| ⟨g,e⟩
 ·have e6:(aS a<aS b)=True:=tt g;rw[e,if_neg δ];simp only[nE,tC,go_sem,d1,d2,e6]
 ·have e6:(aS a<aS b)=False:=ff;have e7:(aS b<aS a)=False:=ff;rw[e,if_pos rfl];by_cases hz:mA b a=0
  ·simp only[if_pos hz]at h3;simp only[nE,tC,go_sem,d1,d2,e6,e7];rw[(h3 _ _ rfl rfl rfl).choose_spec,hz];simp only[go_sem]
  ·simp only[if_neg hz]at h3;simp only[nE,tC,go_sem,d1,d2,e6,e7];rw[(h3 _ _ rfl rfl rfl).choose_spec];simp only[go_sem]
 ·have e6:(aS a<aS b)=False:=ff;have e7:(aS b<aS a)=True:=tt;rw[e,if_neg δ];simp only[nE,tC,go_sem,d1,d2,e6,e7]
structure Len1 (x:Ri):Prop where
 lo:Lb x.lo.m/\x.lo.m.length<=100000
 hi:Lb x.hi.m/\x.hi.m.length<=100000
def VI(x:Ri):Prop:=(vd x.lo=true/\Ok0 x.lo)/\(vd x.hi=true/\Ok0 x.hi)
theorem VI.len{x:Ri}(h:VI x):Len1 x:=⟨⟨h.1.2.1,ay3 (AX h.1.1 h.1.2.1) δ⟩,⟨h.2.2.1,ay3 (AX h.2.1 h.2.2.1) δ⟩⟩
theorem R1:VI ed:=⟨aV,aV⟩
theorem ako{x y:Ri}{p:Int}:VI (gJ x y p):=by
 unfold gJ;split
 ·unfold uX;split
  ·exact⟨⟨RX,L9⟩,⟨RX,L9⟩⟩
  ·exact R1
 ·exact R1
theorem anh{p:Int}{dom:List Ri}:∀ (l:List Rt) (s:Ri),VI s->VI (P1 p dom l s):=by
 intro l;induction l with
 |nil=>exact fun s h=>h
 |cons t l ih=>exact fun s h=>ih _ ako
theorem ae7{a:Rp}{dom:List Ri}{p:Int}:VI (qu a dom p):=by
 unfold qu;split
 ·exact anh _ _ ⟨aV,aV⟩
 ·exact R1
def gM(a:Rp):Int:=if vp a=true then(match a.terms.getLast? with|none=>-1|some t=>aS t.exps)else-1
theorem UZ{a:Rp}(h:vp a=true):0<=a.vars/\a.vars<=8/\a.terms.length<=500/\C0 a.vars none a.terms=true:=by
 simp_all[vp,ay1,decide_eq_true_eq]
theorem Mb{a:Rp}(h:vp a=true){t:Rt}(ht:t∈a.terms):sm t.exps/\(t.exps.length:Int)=a.vars/\vd t.c=true/\t.c.m.length≠0/\aS t.exps<=32:=by
 obtain⟨v1,v2,v3,v4⟩:=UZ h;obtain⟨c1,c2,c3,c4,c5⟩:=FA (Ma _ _ v4 t ht);exact⟨⟨by omega,B8 c4⟩,c1,c2,c3,c5⟩
theorem GG{a:Rp}(ok:OkP a):R F.poly_Degree [be a] []=some (I (gM a),[]):=by
 refine av Uh rfl ?_;have hv:=wl ok;unfold gM;simp only[be]at hv;cases hb:vp a with
 |false=>
  rw[hb]at hv;simp only[rp,yk,be,go_sem,hv]
 |true=>
  rw[hb]at hv;obtain⟨v1,v2,v3,v4⟩:=UZ hb;by_cases h0:a.terms.length=0
  ·have e1:((a.terms.length:Int)=0)=True:=tt;have e4:a.terms.getLast?=none:=by
    grind
   rw[e4];simp only[rp,yk,be,go_sem,hv,e1]
  ·have e1:((a.terms.length:Int)=0)=False:=ff;have e2:IntKind.i64.wrap ((a.terms.length:Int)-1)=((a.terms.length-1:Nat):Int):=by grind[i64_in]
   have hlt:a.terms.length-1<a.terms.length:=ω
   have e3:aU (aD a.terms) ((a.terms.length-1:Nat):Int)=some (.ipt (bV a.terms[a.terms.length-1])):=gy rfl (List.getElem?_eq_getElem hlt);have e4:a.terms.getLast?=some a.terms[a.terms.length-1]:=γ
   obtain⟨c1,c2,c3,c4,c5⟩:=Mb hb (azo hlt);rw[e4];have hd:=zE c1;simp only[bV]at e3;simp only[rp,yk,be,go_sem,hv,e1,e2,e3,hd]
def xO(x:Int):List Int->Nat->Int
 |[],_=>-1
 |y::l,i=>if x=y then i else xO x l (i+1)
theorem ahS{l:List Int}(h2:l.length<=100000)(x:Int):∀ (k i:Nat),i+k=l.length->∀ (s:ai) (h:ac),s 0=.sl 1 (aI l)->s 1=I x->s 7=I l.length->s 8=I i->
  ∃hh,cH (ah 0 [] (aq (aj R (az false) ef) [0,1,7,8] [] s h)) (aj R (az false) (.seq (.ops [4] [co 4 (.mv (.c (I (-1))))]) (.ret)))=some (.ret,⟨upd (fun _=>.any) 4 (I (xO x (l.drop i) i)),hh⟩):=by
 intro k;induction k with
 |zero=>
  intro i hi s h h0 h1 h7 h8;have e1:((i:Int)<l.length)=False:=ff;rw[azi ω,ag];refine⟨?hh0,?_⟩;rotate_left
  ·simp only[ef,xO,go_sem,azz,aza,azh,azf,azu,azG,h0,h1,h7,h8,e1];rfl
 |succ k ih=>
  intro i hi s h h0 h1 h7 h8;have hlt:i<l.length:=ω
  have e1:((i:Int)<l.length)=True:=tt;have e2:aU (aI l) (i:Int)=some (.ipt [I l[i]]):=rW rfl (List.getElem?_eq_getElem hlt);have e5:IntKind.i64.wrap ((i:Int)+1)=((i+1:Nat):Int):=wi;have ih':=ih (i+1) ω;rw[azj hlt,ag];unfold xO;generalize l[i]=y at e2⊢;by_cases hxy:x=y
  ·have e3:(x=y)=True:=tt hxy;refine⟨?hh1,?_⟩;rotate_left
   ·simp only[ef,go_sem,azz,aza,azh,azf,azu,azG,h0,h1,h7,h8,e1,e2,e3];rfl
  ·have e3:(x=y)=False:=ff hxy;simp only[ef,go_sem,azz,aza,azh,azf,azu,azG,h0,h1,h7,h8,e1,e2,e3,e5]at ih'⊢;exact ih' _ _ rfl rfl rfl rfl
theorem ahT{l:List Int}(h2:l.length<=100000){x:Int}:R F.slices_Index_int_int_ [.sl 1 (aI l),I x] []=some (I (xO x l 0),[]):=by
 refine av FZ rfl ?_;have h:=ahS h2 x l.length 0 (ayX _);have h':∀ (S:ai) (H:ac) (X:Option (Ex×St)),cH (ah 0 [] (aq (aj R (az false) ef) [0,1,7,8] [] S H)) (aj R (az false) (.seq (.ops [4] [co 4 (.mv (.c (I (-1))))]) (.ret)))=X->S 0=.sl 1 (aI l)->S 1=I x->S 7=I l.length->S 8=I 0->∃hh,X=some (.ret,⟨upd (fun _=>.any) 4 (I (xO x l 0)),hh⟩):=fun S H X hX=>by
  rw[←hX];exact h S H
 simp only[oj,xk,go_sem,azz,aza,azh,azf,azu,azG];generalize hB:cH (ah 0 [] (aq _ _ _ _ _)) _=X;obtain⟨hh,h3⟩:=h' _ _ _ hB rfl rfl rfl rfl;rw[h3];simp only[go_sem,azz,aza,azh,azf,azu,azG]
def Tv:Option Rd->List AV
 |none=>[B false,.emp,I 0]
 |some d=>ak d
def FE(l:List (Option Rd)):List (List AV):=l.map Tv
@[go_sem] theorem aww(l:List (Option Rd)):(FE l).length=l.length:=by simp[FE]
theorem akp{l:List (Option Rd)}{i:Nat}{o:Option Rd}(h:l[i]?=some o):(FE l)[i]?=some (Tv o):=by grind[FE]
theorem akq(l:List (Option Rd))(i:Nat)(d:Rd):(FE l).set i (ak d)=FE (l.set i (some d)):=by simp[FE,List.map_set,Tv]
theorem akr(n:Nat):ayW n [B false,.emp,I 0]=FE (ayW n none):=by simp[FE,Tv]
def odV(l:List (Option Rd)):List Rd:=l.map fun o=>o.getD aG
theorem aks(l:List (Option Rd)):(FE l).map (dY [.o 0 [],.o 2 [],.o 0 []])=Fu (odV l):=by
 simp only[FE,odV,Fu,List.map_map];refine azy fun o _=>?_;cases o with
 |none=>simp only[Function.comp,Tv,ak,aG,Option.getD,go_sem]
 |some d=>simp only[Function.comp,Tv,ak,Option.getD,go_sem]
theorem akt(o:Option Rd)(d:Rd):(((Tv o).set 0 (B d.neg)).set 1 (lm d.m)).set 2 (I d.e)=ak d/\(3<=(Tv o).length)=True:=by
 cases o<;>exact⟨rfl,tt (ayZ 3)⟩
def Cb:List Rt->List (Option Rd)->List (Option Rd)
 |[],o=>o
 |t::l,o=>Cb l (o.set (xO 1 t.exps 0+1).toNat (some t.c))
theorem aam(x:Int):∀ (l:List Int) (i:Nat),-1<=xO x l i/\xO x l i<l.length+i
 |[],i=>by
  grind[xO,azx]
 |y::l,i=>by
  unfold xO;have:=aam x l (i+1);grind
theorem ahU{a:Rp}(hv:∀t∈a.terms,(t.exps.length:Int)=a.vars)(h8:a.vars<=8)(h5:a.terms.length<=500):∀ (k i:Nat),i+k=a.terms.length->∀ (o:List (Option Rd)),(o.length:Int)=a.vars+1->∀ (s:ai) (h:ac),
  s 4=.rsl 18 none 3 0 o.length->s 20=.sl 4 (aD a.terms)->s 21=I a.terms.length->s 22=I i->h 1=.bx [I a.vars,.sl 4 (aD a.terms)]->h 18=.ar 3 (FE o)->
  ∃hh,ah 0 [4] (aq (aj R (az false) mG) [4,20,21,22] [1,18] s h)=some (.normal,⟨upd (fun _=>.any) 4 (.rsl 18 none 3 0 o.length),hh⟩)/\hh 18=.ar 3 (FE (Cb (a.terms.drop i) o)):=by
 intro k;induction k with
 |zero=>
  intro i hi o ho s h h4 h20 h21 h22 k1 k18;have e1:((i:Int)<a.terms.length)=False:=ff;rw[azi ω,ag];refine⟨?hh0,?_,?_⟩;rotate_left
  ·simp only[mG,go_sem,azz,aza,azh,azf,azu,azG,h4,h20,h21,h22,k1,k18,e1];rfl
  ·rfl
 |succ k ih=>
  intro i hi o ho s h h4 h20 h21 h22 k1 k18;have hlt:i<a.terms.length:=ω
  have e1:((i:Int)<a.terms.length)=True:=tt;have e2:aU (aD a.terms) (i:Int)=some (.ipt (bV a.terms[i])):=gy rfl (List.getElem?_eq_getElem hlt);have e5:IntKind.i64.wrap ((i:Int)+1)=((i+1:Nat):Int):=wi;have c1:=hv a.terms[i] (azo hlt);rw[azj hlt,ag];have ih':=ih (i+1) ω;unfold Cb;generalize a.terms[i]=t at e2 c1⊢;have hx:=ahT (l:=t.exps) (x:=1) ω;obtain⟨x1,x2⟩:=aam 1 t.exps 0;have e6:IntKind.i64.wrap (xO 1 t.exps 0+1)=((xO 1 t.exps 0+1).toNat:Int):=by grind[i64_in]
  generalize hn:(xO 1 t.exps 0+1).toNat=n at e6⊢;have hn2:n<o.length:=ω
  have e7:(0<=(n:Int))=True:=tt;have e8:((n:Int)< (o.length:Int))=True:=tt;have e9:=akp (List.getElem?_eq_getElem hn2);obtain⟨e10,e11⟩:=akt o[n] t.c;have ih2:=ih' (o.set n (some t.c)) γ;rw[List.length_set]at ih2;simp only[bV]at e2;simp only[mG,go_sem,azz,aza,azh,azf,azu,azG,h4,h20,h21,h22,k1,k18,e1,e2,hx,e6,e7,e8,e9,e10,e11,e5,akq,ay4,ayX];exact ih2 _ _ rfl rfl rfl rfl rfl rfl
theorem Oh:∀ (l:List Rt) (o:List (Option Rd)),(Cb l o).length=o.length
 |[],o=>rfl
 |t::l,o=>by
  unfold Cb;rw[Oh l,List.length_set]
def GH(a:Rp):Bool:=vp a&&decide (gM a<=1)
def Ja(a:Rp):List Rd:=odV (Cb a.terms (ayW (a.vars.toNat+1) none))
def XC(a:Rp):AV:=if GH a=true then .tup [CY (Ja a),B true]else .tup [CY [],B false]
theorem Tw{a:Rp}(ok:OkP a):R F.bound_Linear [be a] []=some (XC a,[]):=by
 refine av Rn rfl ?_;have hv:=wl ok;have hd:=GG ok;unfold XC GH;simp only[be]at hv hd;cases hb:vp a with
 |false=>
  rw[hb]at hv;simp only[qh,wO,be,go_sem,azz,aza,azh,azf,azu,azG,hv,CY,Fu]
 |true=>
  rw[hb]at hv;rw[ay5];generalize hg:gM a=g at hd⊢;by_cases h1:g<=1
  ·have e1:(1<g)=False:=ff;rw[if_pos (decide_eq_true h1)];obtain⟨v1,v2,v3,v4⟩:=UZ hb;have hl:=ahU (a:=a) (fun t ht=>(Mb hb ht).2.1) v2 v3 a.terms.length 0 (ayX _) (ayW (a.vars.toNat+1) none) γ;simp only[azZ,azC,azU]at hl;have hl2:=Oh a.terms (ayW (a.vars.toNat+1) none);have hn:=aks (Cb a.terms (ayW (a.vars.toNat+1) none));unfold Ja;generalize Cb a.terms (ayW (a.vars.toNat+1) none)=O at hl hl2 hn⊢;rw[azU]at hl2;generalize hN:a.vars.toNat+1=N at hl hl2⊢;have e2:IntKind.i64.wrap (a.vars+1)=(N:Int):=by grind[i64_in]
   have e3:=se (i:=(N:Int)) (j:=(N:Int)) (l:=N) (c:=N) rfl rfl (ayZ _) ω;have e4:(N*40<=140737488355328)=True:=tt;have e5:(0+N<=O.length)=True:=tt;have e6:(N=O.length)=True:=tt hl2.symm;have h':∀ (S:ai) (H:ac) (X:Option (Ex×St)),ah 0 [4] (aq (aj R (az false) mG) [4,20,21,22] [1,18] S H)=X->S 4=.rsl 18 none 3 0 N->S 20=.sl 4 (aD a.terms)->S 21=I a.terms.length->S 22=I 0->H 1=.bx [I a.vars,.sl 4 (aD a.terms)]->H 18=.ar 3 (FE (ayW N none))->
     ∃hh,X=some (.normal,⟨upd (fun _=>.any) 4 (.rsl 18 none 3 0 N),hh⟩)/\hh 18=.ar 3 (FE O):=fun S H X hX=>by
    rw[←hX];exact hl S H
   simp only[qh,wO,be,go_sem,azz,aza,azh,azf,azu,azG,hv,hd,e1,e2,e3,e4,akr];generalize hB:ah 0 [4] (aq _ _ _ _ _)=X;obtain⟨hh,g0,g1⟩:=h' _ _ _ hB rfl rfl rfl rfl rfl rfl;rw[g0];simp only[go_sem,azz,aza,azh,azf,azu,azG,g1,e5,e6,hn,CY]
  ·have e1:(1<g)=True:=tt;rw[if_neg (fun h=>h1 (of_decide_eq_true h))];simp only[qh,wO,be,go_sem,azz,aza,azh,azf,azu,azG,hv,hd,e1,CY,Fu]
def fh(a b:Rd):Rd×Int:=if(vd a&&vd b)=true then cK (cx (zI a*zI b) (-32768))else(aG,1)
def jD(a b:Rd):Rd×Int:=if(vd a&&vd b)=true then cK (cx (zI a+zI b) (-16384))else(aG,1)
theorem xc{z f:Int}:vd (cK (cx z f)).1=true/\Ok0 (cK (cx z f)).1:=by
 unfold cK cx;by_cases h:qL (ae (ab (br (decide (z<0)) z.natAbs f).m)) (br (decide (z<0)) z.natAbs f).e=true
 ·rw[if_pos h];have hv:=Ec h;have hb:=wZ (decide (z<0)) z.natAbs f;exact⟨hv,hb,azt (AX hv hb) δ⟩
 simp_all[if_neg,aV]
theorem Mc(a b:Rd):vd (fh a b).1=true/\Ok0 (fh a b).1:=by
 grind[fh,xc,aV]
theorem aku(a b:Rd):vd (jD a b).1=true/\Ok0 (jD a b).1:=by
 grind[jD,xc,aV]
theorem Ej{d:Rd}(h:vd d=true)(h0:d.m.length≠0):ab d.m%2=1:=by
 obtain⟨h1,h2,h3,h4⟩:=AU h h0;cases hm:d.m with
 |nil=>grind
 |cons x l=>
  grind[ab]
theorem XD{x y:Nat}(hx:x≠0)(hy:y≠0):ae x+ae y-2<ae (x*y):=by
 have h1:=fR hx;have h2:=fR hy;have h3:2^ (ae x-1)<=x:=kf.1 ω;have h4:2^ (ae y-1)<=y:=kf.1 ω;rw[kf,show ae x+ae y-2=(ae x-1)+(ae y-1)by omega,azc];exact Nat.mul_le_mul h3 h4
theorem akv{a b:Rd}(oa:Ok0 a)(ob:Ok0 b):UX a b=rV (fh a b):=by
 unfold UX fh;by_cases hv:vd a=true/\vd b=true
 ·obtain⟨va,vb⟩:=hv;rw[if_pos ⟨va,vb⟩,va,vb,ay5,if_pos rfl,←ae6 oa ob va vb];by_cases h0:a.m.length=0\/b.m.length=0
  ·rw[if_pos h0];have:ab a.m*ab b.m=0:=by
    rcases h0 with h0|h0
    ·rw[List.length_eq_zero_iff.1 h0];exact Nat.zero_mul _
    ·rw[List.length_eq_zero_iff.1 h0];exact Nat.mul_zero _
   rw[this,jv];rfl
  ·rw[if_neg h0];have a0:a.m.length≠0:=fun h=>h0 (.inl h);have b0:b.m.length≠0:=fun h=>h0 (.inr h);have x0:=dv va a0;have y0:=dv vb b0;by_cases hb:4096<ae (ab a.m)+ae (ab b.m)-1
   ·rw[if_pos hb];have h1:=XD x0 y0;have ho:ab a.m*ab b.m%2=1:=by grind[Nat.mul_mod,Ej]
    have ht:=Xz ho 0;rw[Nat.pow_zero,Nat.mul_one]at ht;obtain⟨g1,g2,g3,g4⟩:=qF (neg:=a.neg !=b.neg) (e:=a.e+b.e) (Nat.mul_ne_zero x0 y0);unfold cK;rw[if_neg]
    ·rfl
    ·intro h2;rw[g1,ht,Nat.pow_zero,Nat.div_one]at h2;have h3:=(BZ h2 ω).1;omega
   simp_all[if_neg,L5]
 ·rw[if_neg hv,if_neg]
  ·rfl
  grind
theorem R2{a b:Rd}(oa:Ok0 a)(ob:Ok0 b):R F.dyadic_Mul [af a,af b] []=some (rV (fh a b),[]):=by
 grind[akv,aj9]
def Tx(m:Rd)(x:Ri):Rd:=if gx m<0 then x.hi else x.lo
def Ty(m:Rd)(x:Ri):Rd:=if gx m<0 then x.lo else x.hi
def ac6(c:Rd)(a b:Rd×Int)(p:Int):Ri:=if a.2=0/\b.2=0 then uX (di c a.1 p false) (di c b.1 p true)else ed
def Jb(c m:Rd)(x:Ri)(p:Int):Ri:=ac6 c (fh m (Tx m x)) (fh m (Ty m x)) p
theorem akw{c m:Rd}{x:Ri}(oc:Ok0 c)(om:Ok0 m)(vm:vd m=true)(ox:OkI x){p:Int}:R F.bound_line [af c,af m,ap x,I p] []=some (ap (Jb c m x p),[]):=by
 refine av WK rfl ?_;have hs:=Ft om vm;have hw:=I9;unfold Jb ac6 uX;simp only[af,ak]at hs;simp only[ap,ax,ed]at hw;have key:∀lo hi:Rd,lo=Tx m x->hi=Ty m x->Ok0 lo->Ok0 hi->je false gO.rs gO.res 0 (aj R (az false) gO.body (uw [af c,af m,ap x,I p]) fun _=>.dead)=some (ap (if(fh m lo).2=0/\(fh m hi).2=0 then(if(di c (fh m lo).1 p false).2=0/\(di c (fh m hi).1 p true).2=0 then⟨(di c (fh m lo).1 p false).1,(di c (fh m hi).1 p true).1,false⟩else ed)else ed),[]):=by
  intro lo hi e1 e2 ol oh;have h1:=R2 om ol;have h2:=R2 om oh;have o1:=(Mc m lo).2;have o2:=(Mc m hi).2;generalize fh m lo=A at h1 o1⊢;generalize fh m hi=D at h2 o2⊢;have h3:=I7 oc o1 (p:=p);have h4:=Xl oc o2 (p:=p);generalize di c A.1 p false=Y at h3⊢;generalize di c D.1 p true=Z at h4⊢;obtain⟨A1,A2⟩:=A;obtain⟨D1,D2⟩:=D;obtain⟨Y1,Y2⟩:=Y;obtain⟨Z1,Z2⟩:=Z;unfold Tx at e1;unfold Ty at e2;simp only[rV,af,ak]at h1 h2 h3 h4;have hc:((gx m<0)=True/\lo=x.hi/\hi=x.lo)\/((gx m<0)=False/\lo=x.lo/\hi=x.hi):=by
   grind
  clear e1 e2;rcases hc with⟨e0,rfl,rfl⟩| ⟨e0,rfl,rfl⟩
  all_goals
   by_cases a1:A2=0
   ·have f1:(A2=0)=True:=tt a1;by_cases a2:D2=0
    ·have f2:(D2=0)=True:=tt a2;rw[if_pos ⟨a1,a2⟩];by_cases a3:Y2=0
     ·have f3:(Y2=0)=True:=tt a3;by_cases a4:Z2=0
      ·have f4:(Z2=0)=True:=tt a4;rw[if_pos ⟨a3,a4⟩];simp only[gO,rK,af,ak,ap,ax,ed,go_sem,azz,aza,azh,azf,azu,azG,hs,e0,h1,h2,h3,h4,f1,f2,f3,f4]
      ·have f4:(Z2=0)=False:=ff a4;rw[if_neg (fun h=>a4 h.2)];simp only[gO,rK,af,ak,ap,ax,ed,go_sem,azz,aza,azh,azf,azu,azG,hs,e0,h1,h2,h3,h4,f1,f2,f3,f4,hw]
     ·have f3:(Y2=0)=False:=ff a3;rw[if_neg (fun h=>a3 h.1)];simp only[gO,rK,af,ak,ap,ax,ed,go_sem,azz,aza,azh,azf,azu,azG,hs,e0,h1,h2,h3,h4,f1,f2,f3,hw]
    ·have f2:(D2=0)=False:=ff a2;rw[if_neg (fun h=>a2 h.2)];simp only[gO,rK,af,ak,ap,ax,ed,go_sem,azz,aza,azh,azf,azu,azG,hs,e0,h1,h2,h3,h4,f1,f2,hw]
   ·have f1:(A2=0)=False:=ff a1;rw[if_neg (fun h=>a1 h.1)];simp only[gO,rK,af,ak,ap,ax,ed,go_sem,azz,aza,azh,azf,azu,azG,hs,e0,h1,h2,h3,h4,f1,hw]
 by_cases hm:gx m<0
 ·exact key _ _ rfl rfl (by unfold Tx;rw[if_pos hm];exact ox.hi) (by unfold Ty;rw[if_pos hm];exact ox.lo)
 ·exact key _ _ rfl rfl (by unfold Tx;rw[if_neg hm];exact ox.lo) (by unfold Ty;rw[if_neg hm];exact ox.hi)
theorem aan:∀ (l:List Rt) (o:List (Option Rd)),(∀t∈l,vd t.c=true/\Ok0 t.c)->(∀x∈o,∀d,x=some d->vd d=true/\Ok0 d)->∀x∈Cb l o,∀d,x=some d->vd d=true/\Ok0 d
 |[],o,_,ho=>ho
 |t::l,o,hl,ho=>by
  unfold Cb;refine aan l _ (fun u hu=>hl u (List.mem_cons_of_mem _ hu)) fun x hx d hd=>?_;rcases List.mem_or_eq_of_mem_set hx with h|h
  ·exact ho x h d hd
  ·rw[h]at hd;obtain rfl:=Option.some.inj hd;exact hl t (List.mem_cons_self ..)
theorem aao{a:Rp}(oa:OkP a)(hv:vp a=true):(∀d∈Ja a,vd d=true/\Ok0 d)/\(Ja a).length=a.vars.toNat+1:=by
 constructor
 ·intro d hd;simp only[Ja,odV,azP]at hd;obtain⟨o,ho,rfl⟩:=hd;have:=aan a.terms (ayW (a.vars.toNat+1) none) (fun t ht=>⟨(Mb hv ht).2.2.1,(oa.t t ht).c⟩) (fun x hx d hd=>by
   rw[List.eq_of_mem_replicate hx]at hd;exact nomatch hd) o ho
  cases o with
  |none=>exact aV
  |some d=>exact this d rfl
 ·simp[Ja,odV,Oh]
theorem ani(a l):aU (a::l) 0=some (.ipt a):=by simp[aU]
theorem anj(a b l):aU (a::b::l) 1=some (.ipt b):=by simp[aU]
theorem ahV{a:Rp}{dom:List Ri}(oa:OkP a)(od:∀x∈dom,OkI x){p:Int}(hf:(pg a dom&&bO p)=true)(hl:GH a=true)(h1:a.vars=1){c m:Rd}{x:Ri}(hlin:Ja a=[c,m])(hdom:dom=[x]):
  R F.bound_Bernstein [be a,.sl 7 (bK dom),I p] []=some (ap (Jb c m x p),[]):=by
 refine av ke rfl ?_;have h2:dom.length<=100000:=by rw[hdom];exact(by decide:1<=100000)
 have hf1:=L8 oa od h2 (p:=p);rw[hf]at hf1;have hL:=Tw oa;unfold XC at hL;rw[if_pos hl,hlin]at hL;have hv:vp a=true:=by
  simp only[GH,ay1]at hl;exact hl.1
 obtain⟨k1,k2⟩:=aao oa hv;rw[hlin]at k1;have kc:=k1 c (List.mem_cons_self ..);have km:=k1 m (List.mem_cons_of_mem _ (List.mem_cons_self ..));have hn:=akw kc.2 km.2 km.1 (od x (by rw[hdom];exact List.mem_cons_self ..)) (p:=p);generalize Jb c m x p=z at hn⊢;subst hdom;have e1:(a.vars=1)=True:=tt h1;simp only[be,bK,azv,azF,ax]at hf1 hL;simp only[CY,Fu,azv,azF,ak]at hL;simp only[af,ak,ap,ax]at hn;simp only[gH,j7,be,bK,azv,azF,ap,ax,go_sem,azz,aza,azh,azf,azu,azG,hf1,hL,hn,e1,ani,anj]
theorem H0{z:Int}{j:Nat}(h:(cK (cx z (-16384-j))).2=0):zI (cK (cx z (-16384-j))).1*2^j=z:=by
 unfold cK at h⊢;by_cases hr:qL (ae (ab (cx z (-16384-j)).m)) (cx z (-16384-j)).e=true
 ·rw[if_pos hr];unfold cx at hr⊢;by_cases h0:z.natAbs=0
  ·have:z=0:=ω
   rw[this,cZ rfl,Int.zero_mul]
  ·obtain⟨g1,g2,g3,g4⟩:=qF (neg:=decide (z<0)) (e:=-16384- (j:Int)) h0;obtain⟨t1,t2⟩:=zu h0;have hp:ae (ab (br (decide (z<0)) z.natAbs (-16384-j)).m)≠0:=by
    grind[fR]
   have he:=BZ hr hp;rw[jW h0];unfold zI mg;rw[aN];have ht:(-16384- (j:Int)+(tz z.natAbs:Nat)+16384).toNat+j=tz z.natAbs:=ω
   generalize(-16384- (j:Int)+(tz z.natAbs:Nat)+16384).toNat=k at ht⊢;have hm:(((z.natAbs/2^tz z.natAbs*2^k:Nat):Int))*2^j=z.natAbs:=by
    have:z.natAbs/2^tz z.natAbs*2^k*2^j=z.natAbs:=by
     grind[azq,azc,azl]
    grind
   grind
 grind
theorem aap{a b:Rd}(h:(jD a b).2=0):zI (jD a b).1=zI a+zI b:=by
 unfold jD at h⊢;split at h
 ·have:=H0 (z:=zI a+zI b) (j:=0) h;grind
 omega
theorem akx{a b:Rd}(h:(fh a b).2=0):zI (fh a b).1*2^16384=zI a*zI b:=by
 unfold fh at h⊢;split at h
 ·rename_i h1;rw[if_pos h1];exact H0 (z:=zI a*zI b) (j:=16384) h
 omega
theorem ank{q t:List Int}(h:bX q t<0):aS q<=aS t:=by
 unfold bX eJ at h;omega
theorem aaq{v:Int}:∀ (l:List Rt) (pr:Option Rt),C0 v pr l=true->∀u∈l.getLast?,∀t∈l,aS t.exps<=aS u.exps
 |[],_,_,u,hu,_,_=>nomatch hu
 |[t],_,_,u,hu,w,hw=>by
  grind
 |t::s::l,pr,h,u,hu,w,hw=>by
  have h2:C0 v (some t) (s::l)=true:=by
   simp_all[C0,ay1]
  have hu2:u∈ (s::l).getLast?:=γ
  have ih:=aaq (s::l) (some t) h2 u hu2;rcases List.mem_cons.1 hw with h3|h3
  ·rw[h3];unfold C0 at h2;simp only[ay1]at h2;have h4:bX t.exps s.exps<0:=of_decide_eq_true h2.2.1;exact Int.le_trans (ank h4) (ih s (List.mem_cons_self ..))
  grind
theorem aky{a:Rp}(h:GH a=true):vp a=true/\∀t∈a.terms,aS t.exps<=1:=by
 simp only[GH,ay1,decide_eq_true_eq]at h;refine⟨h.1,fun t ht=>?_⟩;have h2:=h.2;unfold gM at h2;rw[if_pos h.1]at h2;cases hl:a.terms.getLast? with
 |none=>grind
 |some u=>
  rw[hl]at h2;exact Int.le_trans (aaq a.terms none (UZ h.1).2.2.2 u ω t ht) h2
theorem akz{t:Rt}(h:(t.exps.length:Int)=1):∃e,t.exps=[e]:=by
 match t.exps,h with
 |[e],_=>grind
 |[],h=>grind
 |_::_::l,h=>grind
theorem Zy{d:Rd}(ok:Ok0 d):R F.r02_Checked [af d] []=some (rV (if vd d=true then(d,0)else(aG,9)),[]):=by
 refine av Up rfl ?_;have hv:=Lf ok;simp only[af,ak]at hv;cases hb:vd d with
 |false=>
  rw[hb]at hv;simp only[wF,Di,rV,af,ak,aG,go_sem,hv]
 |true=>
  rw[hb]at hv;simp only[wF,Di,rV,af,ak,go_sem,hv]
theorem ahW(z f:Int):(if vd (cx z f)=true then(cx z f,(0:Int))else(aG,9))=cK (cx z f):=by
 unfold cK;by_cases h:qL (ae (ab (cx z f).m)) (cx z f).e=true
 ·rw[if_pos h,if_pos (show vd (cx z f)=true from Ec h)]
 ·rw[if_neg h,if_neg];intro h2;by_cases h0:(cx z f).m.length=0
  ·rw[BY h2 h0]at h;exact h δ
  grind[AU]
theorem akA{z f:Int}{k:Nat}(h:ae z.natAbs<=32*k)(hk:k<=100000):Ok0 (cx z f):=
 ⟨wZ _ _ _,azt (yY (k:=k) h) ω⟩
theorem akB{a b:Rd}(oa:Ok0 a)(ob:Ok0 b):R F.r02_Add [af a,af b] []=some (rV (jD a b),[]):=by
 refine av aem rfl ?_;have ha:=Lf oa;have hb:=Lf ob;unfold jD;simp only[af,ak]at ha hb;cases va:vd a with
 |false=>
  rw[va]at ha;simp only[Aj,Gg,rV,af,ak,aG,go_sem,ha]
 |true=>
  rw[va]at ha;cases vb:vd b with
  |false=>
   rw[vb]at hb;simp only[Aj,Gg,rV,af,ak,aG,go_sem,ha,hb]
  |true=>
   rw[vb]at hb;have hp:=akn oa ob va vb;have hl:Ok0 (cx (zI a+zI b) (-16384)):=akA (k:=2000) (ay3 (P2 (aak oa va) (aak ob vb)) δ) δ;have hc:=Zy hl;rw[ahW]at hc;simp only[rV,af,ak]at hp hc;simp only[Aj,Gg,rV,af,ak,go_sem,ha,hb,hp,hc]
abbrev zb:List AV:=[B false,.emp,I 0]
@[go_sem] theorem awx(l:List Rd):(Fu l).map (dY [.o 0 [],.o 2 [],.o 0 []])=Fu l:=by
 refine si fun x hx=>?_;simp only[Fu,azP]at hx;obtain⟨t,ht,rfl⟩:=hx;simp only[ak,go_sem]
theorem Cc{d:Rd}(h:vd d=true):cK d=(d,0):=by
 unfold cK;by_cases h0:d.m.length=0
 ·rw[BY h h0];rfl
 simp_all[if_pos,AU]
theorem Lg{d:Rd}(ok:Ok0 d)(h:vd d=true):br d.neg (ab d.m) d.e=d:=by
 have h1:=uq ok h;obtain⟨g1,g2,g3,g4⟩:=dZ h ok.lb;have hz:zI d=bG d.neg (mg d):=rfl;rw[hz,←zG]at h1;grind[mg,jX]
theorem aar{N k:Nat}{neg:Bool}(ho:N%2=1)(hb:4096<ae N):cK (br neg (N*2^k) (-16384))=(aG,9):=by
 have h0:N≠0:=ω
 rw[jX];obtain⟨g1,g2,g3,g4⟩:=qF (neg:=neg) (e:=-16384+(k:Int)) h0;have ht:=Xz ho 0;rw[Nat.pow_zero,Nat.mul_one]at ht;unfold cK;rw[if_neg];intro h2;rw[g1,ht,Nat.pow_zero,Nat.div_one]at h2;have h3:=(BZ h2 ω).1;omega
theorem XE{a b:Rd}(oa:Ok0 a)(ob:Ok0 b)(va:vd a=true)(vb:vd b=true)(na:a.m.length≠0)(nb:b.m.length≠0){e:Int}(he:e=if b.e<a.e then b.e else a.e)(h:4097<aX a-e)(hg:1<aX a-aX b):
  cK (cx (zI a+zI b) (-16384))=(aG,9)/\cK (cx (zI b+zI a) (-16384))=(aG,9):=by
 obtain⟨a1,a2,a3,a4⟩:=dZ va oa.lb;obtain⟨b1,b2,b3,b4⟩:=dZ vb ob.lb;have e1:=ji va na;have e2:=ji vb nb;have he1:-16384<=e/\e<=a.e/\e<=b.e/\(e=a.e\/e=b.e):=by
  omega
 have hne:a.e≠b.e:=ω
 have z1:zI a=bG a.neg (ab a.m*2^ (a.e-e).toNat*2^ (e+16384).toNat):=by
  grind[zI,bG,mg,vY]
 have z2:zI b=bG b.neg (ab b.m*2^ (b.e-e).toNat*2^ (e+16384).toNat):=by
  rw[show zI b=bG b.neg (mg b)from rfl,vY he1.1 he1.2.2.1]
 have bx:(ae (ab a.m*2^ (a.e-e).toNat):Int)=aX a-e:=by
  grind[dA,dv]
 have by':(ae (ab b.m*2^ (b.e-e).toNat):Int)=aX b-e:=by
  grind
 have oX:=Ej va na;have oY:=Ej vb nb;have odd:(ab a.m*2^ (a.e-e).toNat+ab b.m*2^ (b.e-e).toNat) %2=1:=by
  rcases he1.2.2.2 with h1|h1
  ·omega
  ·obtain⟨k,hk⟩:∃k,(a.e-e).toNat=k+1:=⟨(a.e-e).toNat-1,by omega⟩;rw[show(b.e-e).toNat=0 by omega,hk,Nat.pow_zero,Nat.mul_one,azO,←azq];omega
 rw[Int.add_comm (zI b),and_self,z1,z2];generalize ab a.m*2^ (a.e-e).toNat=x at bx odd⊢;generalize ab b.m*2^ (b.e-e).toNat=y at by' odd⊢;generalize(e+16384).toNat=k;have hx:2^ (ae x-1)<=x:=kf.1 ω;have hy:y<2^ (ae x-2):=by
  have h3:y<2^ae y:=bD.1 (ayZ _);grind[azY,azD]
 have hp:2^ (ae x-1)=2^ (ae x-2)*2:=by
  rw[←azO];grind
 have hbig:∀N:Nat,x-y<=N->4096<ae N:=fun N hN=>by
  have h5:ae x-2<ae N:=kf.2 ω;omega
 have hsum:∀ (n:Bool) (z:Nat),cx (bG n (z*2^k)) (-16384)=br n (z*2^k) (-16384):=fun n z=>zG.symm;by_cases hs:a.neg=b.neg
 ·have hz:bG a.neg (x*2^k)+bG b.neg (y*2^k)=bG a.neg ((x+y)*2^k):=by
   rw[←hs,azn];cases a.neg
   all_goals grind[oQ,qp]
  grind[aar]
 ·have hbn:b.neg=!a.neg:=by
   grind
  have hz:bG a.neg (x*2^k)+bG b.neg (y*2^k)=bG a.neg ((x-y)*2^k):=by
   grind[Bool.not_true,oQ,qp]
  rw[hz,hsum];exact aar ω (hbig _ (ayZ _))
noncomputable def rX:Cmd:=.seq (.dops [2,3,4,6,9,10] [fa 65 1 2,ld 66 1 65,fa 67 2 2,ld 68 1 67,cm 69 6,b2 70 .sub 68 69,ca 71 F.dyadic_shifted [.t 66,.t 70],fa 72 1 3,ld 73 1 72,fa 74 2 3,ld 75 1 74,cm 76 6,b2 77 .sub 75 76,ca 78 F.dyadic_shifted [.t 73,.t 77],cm 9 71,cm 10 78] [(6,8),(6,10)]) (.seq (.seq (.ops [2,3,4,6,9,10,83] [fa 79 0 2,ld 80 1 79,fa 81 0 3,ld 82 1 81,co 83 (.eqc false 0 (.t 80) (.t 82))]) (.cond (.t 83) (.seq (.ops [2,4,6,11] [cm 85 9,cm 86 10,ca 87 F.natural_Add [.t 85,.t 86],cm 84 87,co 88 (.ext 0 (.t 84)),co 89 (.ext 1 (.t 84)),cm 11 88,cm 12 89]) (.seq (.ops [4,5] [fa 90 0 2,ld 91 1 90,cm 92 11,cm 93 6,ca 94 F.dyadic_canonical [.t 91,.t 92,.t 93],ca 95 F.dyadic_checked [.t 94],co 96 (.ext 0 (.t 95)),co 97 (.ext 1 (.t 95)),sr 3 (.t 4) (.t 96),cm 5 97]) (.ret))) (.skip))) (.seq (.seq (.ops [2,3,4,6,9,10,101] [cm 98 9,cm 99 10,ca 100 F.natural_Cmp [.t 98,.t 99],co 101 (.bin .lss (.t 100) (.c (I 0)))]) (.cond (.t 101) (.ops [2,4,6,9,10] [la 102 3 3,cm 103 10,cm 104 9,sr 3 (.t 2) (.t 102),cm 9 103,cm 10 104]) (.skip))) (.seq (.ops [2,4,6,13] [cm 106 9,cm 107 10,ca 108 F.natural_Sub [.t 106,.t 107],cm 105 108,co 109 (.ext 0 (.t 105)),co 110 (.ext 1 (.t 105)),cm 13 109,cm 14 110]) (.seq (.ops [4,5] [fa 111 0 2,ld 112 1 111,cm 113 13,cm 114 6,ca 115 F.dyadic_canonical [.t 112,.t 113,.t 114],ca 116 F.dyadic_checked [.t 115],co 117 (.ext 0 (.t 116)),co 118 (.ext 1 (.t 116)),sr 3 (.t 4) (.t 117),cm 5 118]) (.ret)))))
theorem uD:AE=.seq (.ops [2,3,4] [bx 2 3 (.t 0),bx 3 3 (.t 1),al 4 [B false,.emp,I 0],co 5 (.mv (.c (I 0)))]) (.seq (.seq (.ops [2,3,4,24] [fa 15 1 2,ld 16 1 15,co 17 (.len false (.t 16)),co 18 (.bin .eql (.t 17) (.c (I 0))),cm 19 18,cg 20 19 false (.fadr 1 (.t 3)),⟨(some 21),(some (19,false)),.load 1 false (.t 20)⟩,cg 22 19 false (.len false (.t 21)),cg 23 19 false (.bin .eql (.t 22) (.c (I 0))),co 24 (.pick (.t 19) (.c (B true)) (.t 23))]) (.cond (.t 24) (.seq (.seq (.ops [2,3,4,28] [fa 25 1 2,ld 26 1 25,co 27 (.len false (.t 26)),co 28 (.bin .eql (.t 27) (.c (I 0)))]) (.cond (.t 28) (.ops [2,4] [la 29 3 3,sr 3 (.t 2) (.t 29)]) (.skip))) (.seq (.ops [4,5] [fa 30 0 2,ld 31 1 30,fa 32 1 2,ld 33 1 32,fa 34 2 2,ld 35 1 34,ca 36 F.dyadic_canonical [.t 31,.t 33,.t 35],sr 3 (.t 4) (.t 36),co 5 (.mv (.c (I 0)))]) (.ret))) (.skip))) (.seq (.ops [2,3,4,6] [fa 37 2 2,ld 38 1 37,fa 39 2 3,ld 40 1 39,co 41 (.mnx true (.t 38) [.t 40]),cm 6 41]) (.seq (.dops [2,3,4,6,7,8] [la 42 3 2,ca 43 F.dyadic_Top [.t 42],la 44 3 3,ca 45 F.dyadic_Top [.t 44],cm 7 43,cm 8 45] [(1,2)]) (.seq (.seq (.ops [2,3,4,6,63] [cm 46 7,cm 47 8,co 48 (.mnx false (.t 46) [.t 47]),cm 49 6,b2 50 .sub 48 49,co 51 (.bin .gtr (.t 50) (.c (I 4097))),cm 52 51,cg 53 52 true (.mv (.t 7)),cg 54 52 true (.mv (.t 8)),cg 55 52 true (.bin .sub (.t 53) (.t 54)),cg 56 52 true (.bin .gtr (.t 55) (.c (I 1))),cg 57 52 true (.mv (.t 56)),cg 58 57 false (.mv (.t 8)),cg 59 57 false (.mv (.t 7)),cg 60 57 false (.bin .sub (.t 58) (.t 59)),cg 61 57 false (.bin .gtr (.t 60) (.c (I 1))),cg 62 52 true (.pick (.t 57) (.c (B true)) (.t 61)),co 63 (.pick (.t 52) (.t 62) (.c (B false)))]) (.cond (.t 63) (.seq (.ops [4,5] [co 64 (.build [B false,.emp,I 0] []),sr 3 (.t 4) (.t 64),co 5 (.mv (.c (I 9)))]) (.ret)) (.skip))) rX)))):=rfl
theorem ae8{a b:Rd}(oa:Ok0 a)(ob:Ok0 b)(va:vd a=true)(vb:vd b=true)(na:a.m.length≠0)(nb:b.m.length≠0){e:Int}(he1:-16384<=e/\e<=a.e/\e<=b.e)(hX:aX a-e<=5000)(hY:aX b-e<=5000)(s:ai)
  (h2:s 2=.ref 2 none 0 0 0) (h3:s 3=.ref 3 none 0 0 0) (h4:s 4=.ref 4 none 0 0 0) (h6:s 6=I e):
  je false [[.o 0 [],.o 2 [],.o 0 []],[]] [.cell 4 3 true,.t 5] 0 (aj R (az false) rX s (upd (upd (upd (fun _=>.dead) 2 (.bx (ak a))) 3 (.bx (ak b))) 4 (.bx [B false,.emp,I 0])))=some (rV (cK (cx (zI a+zI b) (-16384))),[]):=by
 obtain⟨a1,a2,a3,a4⟩:=dZ va oa.lb;obtain⟨b1,b2,b3,b4⟩:=dZ vb ob.lb;have e1:=ji va na;have e2:=ji vb nb;have w1:IntKind.i64.wrap (a.e-e)=(((a.e-e).toNat:Nat):Int):=wi;have w2:IntKind.i64.wrap (b.e-e)=(((b.e-e).toNat:Nat):Int):=wi;have z1:zI a=bG a.neg (ab a.m*2^ (a.e-e).toNat*2^ (e+16384).toNat):=by
  grind[zI,bG,mg,vY]
 have z2:zI b=bG b.neg (ab b.m*2^ (b.e-e).toNat*2^ (e+16384).toNat):=by
  rw[show zI b=bG b.neg (mg b)from rfl,vY he1.1 he1.2.2]
 have bx:ae (ab a.m*2^ (a.e-e).toNat)<=5000:=by
  grind[dA,dv]
 have by':ae (ab b.m*2^ (b.e-e).toNat)<=5000:=by
  grind[dA,dv]
 have l1:=D0 oa.lb a1 (k:=(a.e-e).toNat) ω (ay3 (aT (k:=157) ω) δ);have l2:=D0 ob.lb b1 (k:=(b.e-e).toNat) ω (ay3 (aT (k:=157) ω) δ);rw[z1,z2];generalize ab a.m*2^ (a.e-e).toNat=x at l1 bx⊢;generalize ab b.m*2^ (b.e-e).toNat=y at l2 by'⊢;have hsum:∀ (n:Bool) (z:Nat),br n z e=cx (bG n (z*2^ (e+16384).toNat)) (-16384):=fun n z=>by
  rw[←zG,jX,show-16384+(((e+16384).toNat:Nat):Int)=e by omega]
 have lx:(au x).length<=157:=aT ω;have ly:(au y).length<=157:=aT ω;have hq:Exq e:=⟨by omega,by omega⟩;have hcp:=AT (bg x) (bg y) ω ω;rw[aN,aN]at hcp;have chk:∀ (n:Bool) (z:Nat),ae z<=5001->R F.dyadic_canonical [B n,lm (au z),I e] []=some (af (br n z e),[])/\R F.dyadic_checked [af (br n z e)] []=some (rV (cK (br n z e)),[]):=fun n z hz=>by
  have hl:(au z).length<=157:=aT ω;have c1:=oE (neg:=n) (m:=au z) (e:=e) (bg z) ω hq;rw[aN]at c1;refine⟨c1,?_⟩;rw[DZ (wZ n z e) (ay3 (yY (k:=157) ω) δ)];exact congrArg (fun v=>some (v,[])) (L5 _)
 by_cases hs:a.neg=b.neg
 ·have p1:=Z9 (x:=x) (y:=y) bx by';obtain⟨c1,c2⟩:=chk a.neg (x+y) (B3 bx by');have hz:bG a.neg (x*2^ (e+16384).toNat)+bG b.neg (y*2^ (e+16384).toNat)=bG a.neg ((x+y)*2^ (e+16384).toNat):=by
   rw[←hs,azn];cases a.neg
   all_goals grind[oQ,qp]
  rw[hz,←hsum];generalize br a.neg (x+y) e=r at c1 c2⊢;generalize cK r=q at c2⊢;obtain⟨q1,q2⟩:=q;have hs2:(a.neg==b.neg)=true:=γ
  have hs3:(false != (a.neg==b.neg))=true:=γ
  simp only[rV,af,ak]at c1 c2;simp only[rX,rV,af,ak,go_sem,h2,h3,h4,h6,w1,w2,l1,l2,hs3,p1,c1,c2]
 ·have hs2:(a.neg==b.neg)=false:=by
   grind
  have hs3:(false != (a.neg==b.neg))=false:=γ
  have hbn:b.neg=!a.neg:=by
   grind
  have hb1:∀u v:Nat,ae u<=5000->ae (u-v)<=5001:=fun u v hu=>zA (Nat.sub_le u v) (ay3 hu δ);by_cases hlt:x<y
  ·have e5:(cw x y<0)=True:=tt (by simp_all[cw,if_pos]);have m1:=L6 (x:=y) (y:=x) by' bx ω;obtain⟨c1,c2⟩:=chk b.neg (y-x) (hb1 _ _ by');have hz:bG a.neg (x*2^ (e+16384).toNat)+bG b.neg (y*2^ (e+16384).toNat)=bG b.neg ((y-x)*2^ (e+16384).toNat):=by
    grind[Bool.not_true,oQ,qp]
   rw[hz,←hsum];generalize br b.neg (y-x) e=r at c1 c2⊢;generalize cK r=q at c2⊢;obtain⟨q1,q2⟩:=q;simp only[rV,af,ak]at c1 c2;simp only[rX,rV,af,ak,go_sem,h2,h3,h4,h6,w1,w2,l1,l2,hs3,hcp,e5,m1,c1,c2]
  ·have e5:(cw x y<0)=False:=ff (by unfold cw;omega);have m1:=L6 (x:=x) (y:=y) bx by' ω;obtain⟨c1,c2⟩:=chk a.neg (x-y) (hb1 _ _ bx);have hz:bG a.neg (x*2^ (e+16384).toNat)+bG b.neg (y*2^ (e+16384).toNat)=bG a.neg ((x-y)*2^ (e+16384).toNat):=by
    grind[Bool.not_true,oQ,qp]
   rw[hz,←hsum];generalize br a.neg (x-y) e=r at c1 c2⊢;generalize cK r=q at c2⊢;obtain⟨q1,q2⟩:=q;simp only[rV,af,ak]at c1 c2;simp only[rX,rV,af,ak,go_sem,h2,h3,h4,h6,w1,w2,l1,l2,hs3,hcp,e5,m1,c1,c2]
theorem aas{a b:Rd}(oa:Ok0 a)(ob:Ok0 b)(va:vd a=true)(vb:vd b=true):R F.dyadic_sum [af a,af b] []=some (rV (cK (cx (zI a+zI b) (-16384))),[]):=by
 refine av WJ rfl ?_;by_cases a0:a.m.length=0
 ·have e1:((a.m.length:Int)=0)=True:=tt;have hz:=BY va a0;obtain⟨b1,b2,b3,b4⟩:=dZ vb ob.lb;have c1:=oE (neg:=b.neg) (m:=b.m) (e:=b.e) ob.lb ω ⟨by omega,by omega⟩;have hr:br b.neg (ab b.m) b.e=b:=Lg ob vb;have hk:cK (cx (zI a+zI b) (-16384))=(b,0):=by
   simp_all[cZ,Int.zero_add,uq,Cc]
  rw[hr]at c1;rw[hk];simp only[af,ak]at c1;simp only[mq,AE,rV,af,ak,go_sem,e1,c1]
 have e1:((a.m.length:Int)=0)=False:=ff;obtain⟨a1,a2,a3,a4⟩:=dZ va oa.lb;by_cases b0:b.m.length=0
 ·have e2:((b.m.length:Int)=0)=True:=tt;have c1:=oE (neg:=a.neg) (m:=a.m) (e:=a.e) oa.lb ω ⟨by omega,by omega⟩;have hr:br a.neg (ab a.m) a.e=a:=Lg oa va;have hk:cK (cx (zI a+zI b) (-16384))=(a,0):=by
   simp_all[cZ,Int.add_zero,uq,Cc]
  rw[hr]at c1;rw[hk];simp only[af,ak]at c1;simp only[mq,AE,rV,af,ak,go_sem,e1,e2,c1]
 have e2:((b.m.length:Int)=0)=False:=ff;obtain⟨b1,b2,b3,b4⟩:=dZ vb ob.lb;have ta:=CX oa;have tb:=CX ob;have q1:=ji va a0;have q2:=ji vb b0;have p1:=fR (dv va a0);have p2:=fR (dv vb b0);simp only[af,ak]at ta tb;have g1:=fun h2 h3=>(XE oa ob va vb a0 b0 rfl h2 h3).1;have g2:=fun h2 h3=>(XE ob oa vb va b0 a0 rfl h2 h3).2;obtain⟨e,he⟩:∃e,(if b.e<a.e then b.e else a.e)=e:=⟨_,rfl⟩;have he2:(if a.e<b.e then a.e else b.e)=e:=by
  omega
 rw[he]at g1;rw[he2]at g2;have he1:-16384<=e/\e<=a.e/\e<=b.e:=by
  omega
 obtain⟨M,hM⟩:∃M,(if aX a<aX b then aX b else aX a)=M:=⟨_,rfl⟩;have w1:IntKind.i64.wrap (M-e)=M-e:=i64_in _ ⟨by omega,by omega⟩;have w2:IntKind.i64.wrap (aX a-aX b)=aX a-aX b:=i64_in _ ⟨by omega,by omega⟩;have w3:IntKind.i64.wrap (aX b-aX a)=aX b-aX a:=i64_in _ ⟨by omega,by omega⟩;by_cases h1:4097<M-e
 ·have f1:(4097<M-e)=True:=tt h1;by_cases h2:1<aX a-aX b
  ·have f2:(1<aX a-aX b)=True:=tt h2;rw[g1 ω h2];simp only[mq,uD,rV,aG,af,ak,go_sem,e1,e2,he,ta,tb,hM,w1,w2,f1,f2]
  ·have f2:(1<aX a-aX b)=False:=ff h2;by_cases h3:1<aX b-aX a
   ·have f3:(1<aX b-aX a)=True:=tt h3;rw[g2 ω h3];simp only[mq,uD,rV,aG,af,ak,go_sem,e1,e2,he,ta,tb,hM,w1,w2,w3,f1,f2,f3]
   omega
 ·have f1:(4097<M-e)=False:=ff h1;simp only[mq,uD,rV,af,ak,go_sem,e1,e2,he,ta,tb,hM,w1,f1];exact ae8 oa ob va vb a0 b0 he1 ω ω _ rfl rfl rfl rfl
theorem akC{a b:Rd}(oa:Ok0 a)(ob:Ok0 b):R F.dyadic_Add [af a,af b] []=some (rV (jD a b),[]):=by
 refine av WB rfl ?_;have v1:=eF oa;have v2:=eF ob;simp only[af,ak]at v1 v2;unfold jD;cases va:vd a with
 |false=>
  rw[va]at v1;simp only[tK,Ay,rV,aG,af,ak,go_sem,v1]
 |true=>
  rw[va]at v1;cases vb:vd b with
  |false=>
   rw[vb]at v2;simp only[tK,Ay,rV,aG,af,ak,go_sem,v1,v2]
  |true=>
   rw[vb]at v2;have hs:=aas oa ob va vb;simp only[rV,af,ak]at hs;simp only[tK,Ay,rV,af,ak,go_sem,v1,v2,hs]
theorem Tz:∀a:List Int,mA a a=0
 |[]=>rfl
 |x::a=>by
  unfold mA;rw[if_pos (by unfold eJ;simp),Tz a]
theorem aat:∀ {a b:List Int},a.length=b.length->mA a b=0->a=b
 |[],[],_,_=>rfl
 |x::a,y::b,h,h2=>by
  unfold mA at h2;rcases oR x y with⟨g,e⟩| ⟨g,e⟩| ⟨g,e⟩<;>rw[e]at h2
  ·omega
  ·rw[g,aat (by simpa using h) h2]
  omega
 |[],_::_,h,_=>by grind
 |_::_,[],h,_=>by grind
theorem TA:∀ {a b:List Int},a.length=b.length->mA b a=-mA a b
 |[],[],_=>rfl
 |x::a,y::b,h=>by
  unfold mA;rcases oR x y with⟨g,e⟩| ⟨g,e⟩| ⟨g,e⟩<;>rcases oR y x with⟨g',e'⟩| ⟨g',e'⟩| ⟨g',e'⟩<;>rw[e,e']<;>first|omega| (simp;done)|skip
  exact TA (by simpa using h)
 |[],_::_,h=>by grind
 |_::_,[],h=>by grind
theorem aau:∀ {a b c:List Int},a.length=b.length->b.length=c.length->(mA a b<=0->mA b c<0->mA a c<0)/\(mA a b<0->mA b c<=0->mA a c<0)
 |[],[],[],_,_=>⟨fun _ h=>by omega,fun h _=>by omega⟩
 |x::a,y::b,z::c,h,h'=>by
  have ih:=aau (a:=a) (b:=b) (c:=c) γ γ;unfold mA;rcases oR x y with⟨g,e⟩| ⟨g,e⟩| ⟨g,e⟩<;>rcases oR y z with⟨g',e'⟩| ⟨g',e'⟩| ⟨g',e'⟩<;>rcases oR x z with⟨g2,e2⟩| ⟨g2,e2⟩| ⟨g2,e2⟩<;>rw[e,e',e2]<;>first|omega|skip
  all_goals first|exact ih|omega
 |[],[],_::_,_,h=>by grind
 |[],_::_,_,h,_=>by grind
 |_::_,[],_,h,_=>by grind
 |_::_,_::_,[],_,h=>by grind
theorem TB(a:List Int):bX a a=0:=by
 simp_all[bX,if_pos,eJ,Tz]
theorem aav{a b:List Int}(h:a.length=b.length)(h2:bX a b=0):a=b:=by
 unfold bX at h2;rcases oR (aS a) (aS b)with⟨g,e⟩| ⟨g,e⟩| ⟨g,e⟩<;>rw[e]at h2
 ·omega
 ·grind[aat]
 omega
theorem Lh{a b:List Int}(h:a.length=b.length):bX b a=-bX a b:=by
 unfold bX;rcases oR (aS a) (aS b)with⟨g,e⟩| ⟨g,e⟩| ⟨g,e⟩<;>rcases oR (aS b) (aS a)with⟨g',e'⟩| ⟨g',e'⟩| ⟨g',e'⟩<;>rw[e,e']<;>first|omega| (simp;done)|skip
 grind[TA]
theorem R4{a b c:List Int}(h:a.length=b.length)(h':b.length=c.length):(bX a b<=0->bX b c<0->bX a c<0)/\(bX a b<0->bX b c<=0->bX a c<0):=by
 have ih:=aau (a:=c) (b:=b) (c:=a) h'.symm h.symm;unfold bX;rcases oR (aS a) (aS b)with⟨g,e⟩| ⟨g,e⟩| ⟨g,e⟩<;>rcases oR (aS b) (aS c)with⟨g',e'⟩| ⟨g',e'⟩| ⟨g',e'⟩<;>rcases oR (aS a) (aS c)with⟨g2,e2⟩| ⟨g2,e2⟩| ⟨g2,e2⟩<;>rw[e,e',e2]<;>first|omega|skip
 all_goals first|exact⟨fun x y=>ih.2 y x,fun x y=>ih.1 y x⟩|omega
structure VT (v:Int) (t:Rt):Prop where
 c:Ok0 t.c
 len:(t.exps.length:Int)=v
 v8:v<=8
 vc:vd t.c=true
 nz:t.c.m.length≠0
 b:∀e∈t.exps,0<=e/\e<=32
 d:aS t.exps<=32
theorem VT.sm{v:Int}{t:Rt}(h:VT v t):sm t.exps:=⟨by have:=h.len;have:=h.v8;omega,h.b⟩
theorem VT.ok{v:Int}{t:Rt}(h:VT v t):OkT t:=⟨h.c,by have:=h.len;have:=h.v8;omega⟩
theorem VT.l2{v:Int}{t q:Rt}(h:VT v t)(h2:VT v q):t.exps.length=q.exps.length:=by have:=h.len;have:=h2.len;omega
structure Cl (v:Int) (l:List Rt):Prop where
 t:∀t∈l,VT v t
 s:l.Pairwise fun a b=>bX a.exps b.exps<0
theorem Cl.nil(v:Int):Cl v []:=⟨(fun _ h=>nomatch h),List.Pairwise.nil⟩
theorem Cl.cons{v:Int}{q:Rt}{l:List Rt}(h:Cl v (q::l)):VT v q/\(∀t∈l,bX q.exps t.exps<0)/\Cl v l:=
 ⟨h.t q σ,(List.pairwise_cons.1 h.s).1,fun t ht=>h.t t γ,(List.pairwise_cons.1 h.s).2⟩
theorem Cl.mk'{v:Int}{q:Rt}{l:List Rt}(h1:VT v q)(h2:∀t∈l,bX q.exps t.exps<0)(h3:Cl v l):Cl v (q::l):=
 ⟨fun t ht=>(List.mem_cons.1 ht).elim (fun e=>e▸h1) (h3.t t),List.pairwise_cons.2 ⟨h2,h3.s⟩⟩
theorem ae9{v:Int}(hv:v<=8):∀ (l:List Rt) (pr:Option Rt),(∀t∈l,OkT t)->C0 v pr l=true->Cl v l/\∀q,pr=some q->(q.exps.length:Int)=v->∀t∈l,bX q.exps t.exps<0
 |[],pr,_,_=>⟨Cl.nil v,fun _ _ _ t ht=>by grind⟩
 |t::l,pr,ok,h=>by
  unfold C0 at h;simp only[ay1]at h;obtain⟨h1,h2,h3⟩:=h;obtain⟨g1,g2⟩:=ae9 hv l (some t) (fun x hx=>ok x γ) h3;obtain⟨k1,k2,k3,k4,k5⟩:=FA h1;have vt:VT v t:=⟨(ok t σ).c,k1,hv,k2,k3,B8 k4,k5⟩;have gt:=g2 t rfl k1;refine⟨Cl.mk' vt gt g1,fun q hq hl x hx=>?_⟩;subst hq;have h4:=of_decide_eq_true h2;rcases List.mem_cons.1 hx with rfl|hx
  ·omega
  ·exact(R4 ω (vt.l2 (g1.t x hx))).1 ω (gt x hx)
theorem jZ{a:Rp}(oa:OkP a)(h:vp a=true):Cl a.vars a.terms/\0<=a.vars/\a.vars<=8/\a.terms.length<=500:=by
 unfold vp at h;simp only[ay1,decide_eq_true_eq]at h;exact⟨(ae9 h.2.1 _ none oa.t h.2.2.2).1,h.1,h.2.1,h.2.2.1⟩
theorem afa{v:Int}:∀ (l:List Rt) (pr:Option Rt),Cl v l->(∀q,pr=some q->∀t∈l,bX q.exps t.exps<0)->C0 v pr l=true
 |[],pr,_,_=>by grind[C0]
 |t::l,pr,c,h=>by
  obtain⟨c1,c2,c3⟩:=c.cons;unfold C0;simp only[ay1];refine⟨?_,?_,afa l (some t) c3 fun q hq=>by grind⟩
  ·unfold PZ;simp only[ay1,decide_eq_true_eq];refine⟨c1.len,c1.vc,c1.nz,?_,c1.d⟩;rw[Bool.not_eq_true',List.any_eq_false];intro e he;have:=c1.b e he;grind[Fz]
  ·unfold acY;grind
theorem U0{v:Int}{l:List Rt}(h:Cl v l)(h0:0<=v)(h8:v<=8)(hl:l.length<=500):vp ⟨v,l⟩=true:=by
 simp_all[vp,ay1,decide_eq_true_eq,afa]
theorem A6{v:Int}{l:List Rt}(h:Cl v l):OkP ⟨v,l⟩:=⟨fun t ht=>(h.t t ht).ok⟩
def bv:List Rt->List Int->Nat
 |[],_=>0
 |q::l,x=>if bX q.exps x<0 then bv l x+1 else 0
def pi:List Rt->Rt->Option (List Rt)
 |[],t=>some [t]
 |q::l,t=>if bX q.exps t.exps<0 then(pi l t).map (q::·)else if bX q.exps t.exps=0 then(if(jD q.c t.c).2=0 then some (if(jD q.c t.c).1.m.length=0 then l else⟨q.exps,(jD q.c t.c).1⟩::l)else none)else some (t::q::l)
theorem H1:∀ (l:List Rt) (x:List Int),bv l x<=l.length
 |[],x=>ayZ _
 |q::l,x=>by
  unfold bv;split
  all_goals simp_all[Nat.succ_le_succ,H1,azH]
theorem R5:∀ {l:List Rt} {x:List Int} {i:Nat} {q:Rt},i<bv l x->l[i]?=some q->bX q.exps x<0
 |[],x,i,q,h,_=>by grind
 |p::l,x,i,q,h,hq=>by
  unfold bv at h;split at h
  ·cases i with
   |zero=>grind
   |succ i=>exact R5 (l:=l) (i:=i) ω γ
  omega
theorem Md:∀ {l:List Rt} {x:List Int} {q:Rt},l[bv l x]?=some q->0<=bX q.exps x
 |[],x,q,h=>by grind
 |p::l,x,q,h=>by
  unfold bv at h;split at h
  ·exact Md (l:=l) γ
  grind
theorem akD{v:Int}{l:List Rt}{x:List Int}(c:Cl v l)(hx:(x.length:Int)=v){i:Nat}{q:Rt}(hi:bv l x<i)(h:l[i]?=some q):0<bX q.exps x:=by
 have hlt:=(List.getElem?_eq_some_iff.1 h).1;have h1:l[bv l x]?=some l[bv l x]:=List.getElem?_eq_getElem ω;have h2:=Md h1;have h3:=(List.getElem?_eq_some_iff.1 h).2;have h4:bX (l[bv l x]).exps q.exps<0:=by
  rw[←h3];exact List.pairwise_iff_getElem.1 c.s _ _ ω hlt hi
 have v1:=c.t _ (azo (by omega:bv l x<l.length));have v2:=c.t q (List.mem_of_getElem? h);generalize l[bv l x]=p at*
 have l1:x.length=p.exps.length:=by have:=v1.len;omega
 have h5:=(R4 l1 (v1.l2 v2)).1 (by grind[Lh]) h4;rw[Lh (by have:=v2.len;omega:x.length=q.exps.length)];omega
theorem R6:∀ (l:List Rt) (t:Rt),pi l t=match l[bv l t.exps]? with
  |none=>some (l.take (bv l t.exps)++t::l.drop (bv l t.exps))
  |some q=>if bX q.exps t.exps=0 then(if(jD q.c t.c).2=0 then some (if(jD q.c t.c).1.m.length=0 then l.take (bv l t.exps)++l.drop (bv l t.exps+1)else l.set (bv l t.exps) ⟨q.exps,(jD q.c t.c).1⟩)else none)else some (l.take (bv l t.exps)++t::l.drop (bv l t.exps))
 |[],t=>rfl
 |q::l,t=>by
  unfold pi bv;by_cases h:bX q.exps t.exps<0
  ·simp only[if_pos h,List.getElem?_cons_succ];rw[R6 l t];cases l[bv l t.exps]? with
   |none=>rfl
   |some p=>
    simp only[];split
    ·split
     ·split<;>rfl
     ·rfl
    ·rfl
  grind
theorem Me{v:Int}:∀ {l l':List Rt} {t:Rt},Cl v l->VT v t->pi l t=some l'->Cl v l'/\∀q:List Int,(q.length:Int)=v->(∀x∈l,bX q x.exps<0)->bX q t.exps<0->∀x∈l',bX q x.exps<0
 |[],l',t,c,vt,h=>by
  cases h;grind[Cl.mk']
 |p::l,l',t,c,vt,h=>by
  obtain⟨c1,c2,c3⟩:=c.cons;unfold pi at h;split at h
  ·rename_i h1;rw[ay0]at h;obtain⟨l2,h2,rfl⟩:=h;obtain⟨g1,g2⟩:=Me c3 vt h2;refine⟨Cl.mk' c1 (g2 p.exps c1.len c2 h1) g1,fun q hq k1 k2 x hx=>?_⟩;grind
  ·split at h
   ·split at h
    ·cases h;split
     ·grind
     ·rename_i h4;obtain⟨a1,a2⟩:=aku p.c t.c;refine⟨Cl.mk' ⟨a2,c1.len,c1.v8,a1,h4,c1.b,c1.d⟩ c2 c3,fun q hq k1 k2 x hx=>?_⟩;grind
    grind
   ·cases h;have h3:bX t.exps p.exps<0:=by
     rw[Lh (c1.l2 vt)];omega
    refine⟨Cl.mk' vt (fun x hx=>?_) c,fun q hq k1 k2 x hx=>?_⟩
    ·rcases List.mem_cons.1 hx with rfl|hx
     ·omega
     ·exact(R4 (vt.l2 c1) (c1.l2 (c3.t x hx))).1 ω (c2 x hx)
    grind
theorem Jc:∀ {l l':List Rt} {t:Rt},pi l t=some l'->l'.length<=l.length+1
 |[],l',t,h=>by cases h;simp
 |p::l,l',t,h=>by
  unfold pi at h;split at h
  ·rw[ay0]at h;obtain⟨l2,h2,rfl⟩:=h;simpa using Jc h2
  grind
theorem Oi:∀ {l:List Rt} {t:Rt},(∀q∈l,bX q.exps t.exps<0)->pi l t=some (l++[t])
 |[],t,_=>rfl
 |p::l,t,h=>by
  unfold pi;rw[if_pos (h p σ),Oi fun q hq=>h q (by simp[hq])];rfl
def j5:List Rt->List Rt->Option (List Rt)
 |l,[]=>some l
 |l,t::ts=>(pi l t).bind fun l'=>j5 l' ts
theorem Oj:∀ (ts us:List Rt) (l:List Rt),j5 l (ts++us)=(j5 l ts).bind fun l'=>j5 l' us
 |[],us,l=>rfl
 |t::ts,us,l=>by
  show(pi l t).bind _=((pi l t).bind _).bind _;cases pi l t with
  |none=>rfl
  |some l'=>exact Oj ts us l'
theorem H2{v:Int}:∀ {ts l l':List Rt},Cl v l->(∀t∈ts,VT v t)->j5 l ts=some l'->Cl v l'/\l'.length<=l.length+ts.length
 |[],l,l',c,_,h=>by cases h;grind
 |t::ts,l,l',c,vt,h=>by
  unfold j5 at h;rw[ayY]at h;obtain⟨l2,h2,h3⟩:=h;obtain⟨g1,g2⟩:=H2 (Me c (vt t σ) h2).1 (fun x hx=>vt x γ) h3;have:=Jc h2;grind
theorem XF{v:Int}:∀ {ts l:List Rt},Cl v (l++ts)->j5 l ts=some (l++ts)
 |[],l,_=>by simp[j5]
 |t::ts,l,c=>by
  have h1:pi l t=some (l++[t]):=Oi fun q hq=>by
   have:=List.pairwise_append.1 c.s;grind
  unfold j5;rw[h1];show j5 (l++[t]) ts=_;rw[XF (v:=v) γ,azB];rfl
section
variable {call:iD} {md:Mode} {s:ai} {h:ac}
@[go_sem] theorem awy(d k x y rest):aF call md (⟨some d,none,.cpy k x y⟩::rest) s h=bq (dC md.nm s (some d) (QJ h k (ev s x) (ev s y))) (aF call md rest):=θ _
@[go_sem] theorem at8(d k x lo hi rest):aF call md (⟨some d,none,.slcM k x lo hi⟩::rest) s h=bq (dC md.nm s (some d) (LL h k (ev s x) (evo s lo) (evo s hi))) (aF call md rest):=θ _
@[go_sem] theorem awz(d k z x rest):aF call md (⟨d,none,.clr k z x⟩::rest) s h=bq (dC md.nm s d (QK h k z (ev s x))) (aF call md rest):=θ _
@[go_sem] theorem at9(d k b z x n rest):aF call md (⟨some d,none,.appz k b z x n⟩::rest) s h=bq (dC md.nm s (some d) (F1 h d k b z (ev s x) (ev s n))) (aF call md rest):=θ _
@[go_sem] theorem aua(d x rest):aF call md (⟨some d,none,.take x⟩::rest) s h=bq (dC md.nm s (some d) (OL h d (ev s x))) (aF call md rest):=θ _
@[go_sem] theorem ask(d f zas rest):aF call md (⟨some d,none,.callC f zas⟩::rest) s h=bq (dC md.nm s (some d) ((bE call md h d (zas.map (ev s)) (ev s f)).bind (zT d))) (aF call md rest):=θ _
@[go_sem] theorem aqf(d k z n ps rest):aF call md (⟨some d,none,.buildC k z n ps⟩::rest) s h=bq (dC md.nm s (some d) (((eU k h (ayW n z) (ps.map fun p=>(p.1,ev s p.2))).bind fun q=>cR q.2.1 d k q.1 n q.2.2).bind F4)) (aF call md rest):=θ _
@[go_sem] theorem apa(d k z n ps):step call md d (.buildC k z n ps) s h=((eU k h (ayW n z) (ps.map fun p=>(p.1,ev s p.2))).bind fun q=>cR q.2.1 d k q.1 n q.2.2).bind F4:=θ _
@[go_sem] theorem apb(ps acc d k z n qs rest):df call md ps acc (⟨some d,none,.buildC k z n qs⟩::rest) s h=jA call md ps acc rest s (some d) (fun _=>if(qs.all fun p=>dat (ev s p.2))=true then some ([],[dF d])else none) (((eU k h (ayW n z) (qs.map fun p=>(p.1,ev s p.2))).bind fun q=>cR q.2.1 d k q.1 n q.2.2).bind F4):=eK _ _ _ _ rfl
@[go_sem] theorem asl(d k z n qs h'):gR d (.buildC k z n qs) s h h'=if(qs.all fun p=>dat (ev s p.2))=true then some ([],[dF d])else none:=θ _
@[go_sem] theorem asm(id k lo n h ks):F4 (.rsl id none k lo n,h,ks)=(nP h id k lo n (h id)).map (fun q=>(q.1,q.2.1,ks++q.2.2)):=θ _
@[go_sem] theorem aub(ps acc d k x y rest):df call md ps acc (⟨some d,none,.cpy k x y⟩::rest) s h=jA call md ps acc rest s (some d) (fun _=>none) (QJ h k (ev s x) (ev s y)):=eK _ _ _ _ rfl
@[go_sem] theorem auc(ps acc d k b x y rest):df call md ps acc (⟨some d,none,.app k b x y⟩::rest) s h=jA call md ps acc rest s (some d) (fun _=>none) (Nv h d k b (ev s x) (ev s y)):=eK _ _ _ _ rfl
@[go_sem] theorem aqg(ps acc d f zas rest):df call md ps acc (⟨some d,none,.callC f zas⟩::rest) s h=jA call md ps acc rest s (some d) (fun _=>Ka d h (pE (zas.map (ev s)) (ev s f))) ((bE call md h d (zas.map (ev s)) (ev s f)).bind (zT d)):=eK _ _ _ _ rfl
@[go_sem] theorem asn(d h l):Ka d h l=if l.all dat=true then some ([],[2000+8*d])else none:=θ _
@[go_sem] theorem awA(d k r h ks):zT d (.sl k r,h,ks)=some (.sl k r,h,ks):=θ _
@[go_sem] theorem aud(d h ks):zT d (.emp,h,ks)=some (.emp,h,ks):=θ _
@[go_sem] theorem aue(d id k lo n h ks):zT d (.rsl id none k lo n,h,ks)=if id=2000+8*d then(nP h id k lo n (h id)).map (fun q=>(q.1,q.2.1,ks++q.2.2))else none:=θ _
@[go_sem] theorem awB(h k id k' lo n y):QJ h k (.rsl id none k' lo n) y=(Vf y).bind fun l=>(wt h k (Ve n y)).bind fun ys=>Vg h id k k' lo n l ys (h id):=θ _
@[go_sem] theorem awC(k r):Vf (.sl k r)=some r.length:=θ _
@[go_sem] theorem auf(id sub k lo n):Vf (.rsl id sub k lo n)=some n:=θ _
@[go_sem] theorem awD(m k r):Ve m (.sl k r)=.sl k (r.take m):=θ _
@[go_sem] theorem aug(m id sub k lo n):Ve m (.rsl id sub k lo n)=.rsl id sub k lo (min m n):=θ _
@[go_sem] theorem awE(h id k lo n l ys r):Vg h id k k lo n l ys (.ar k r)=if lo<=r.length/\ys.length=min l n then some (.v (.int .i64 ys.length),upd h id (.ar k (r.take lo++ys++r.drop (lo+ys.length))),[])else none:=by simp[Vg]
@[go_sem] theorem auh(h k id l0 n lo hi):LL h k (.rsl id none k l0 n) lo hi=OJ h k id l0 lo hi (h id):=by simp[LL]
@[go_sem] theorem aui(h k id l0 lo hi r):OJ h k id l0 lo hi (.ar k r)=if hi.isSome=true/\l0<=r.length then(jH (r.length-l0) lo hi none).map fun p=>(.rsl id none k (l0+p.1) (p.2-p.1),h,[])else none:=by simp[OJ]
@[go_sem] theorem awF(h k z id lo n):QK h k z (.rsl id none k lo n)=Vh h k id lo n z (h id):=by simp[QK]
@[go_sem] theorem awG(h k id lo n z r):Vh h k id lo n z (.ar k r)=if lo+n<=r.length then some (.tup [],upd h id (.ar k (r.take lo++ayW n z++r.drop (lo+n))),[])else none:=by simp[Vh]
@[go_sem] theorem auj(h d k b z id i c m):F1 h d k b z (.rsc id k 0 i c) (.v (.int .i64 m))=if 0<m/\c<i+m.toNat then OK h d k b id i m.toNat z (h id)else none:=by simp[F1]
@[go_sem] theorem auk(h d k b id i m z r):OK h d k b id i m z (.ar k r)=if i<=r.length/\(i+m)*b<=140737488355328 then cR h d k (r.take i++ayW m z) (i+m) []else none:=by simp[OK]
@[go_sem] theorem awH(id k lo n c):rh false (.rsc id k lo n c)=some (I n):=θ _
@[go_sem] theorem awI(id k lo n c):QF (.rsc id k lo n c)=some (I c):=θ _
@[go_sem] theorem awJ(k id l0 n c lo hi mx):dH k (.rsc id k l0 n c) lo hi mx=U8 k id l0 n c lo hi mx:=by simp[dH]
@[go_sem] theorem awK(k id l0 n c x):U8 k id l0 n c none (some x) none=(kG n c (some x)).map fun r=>.rsc id k l0 r c:=θ _
@[go_sem] theorem awL(k id l0 n c x hi):U8 k id l0 n c (some x) hi none=(jH n (some x) hi none).map fun p=>.rsl id none k (l0+p.1) (p.2-p.1):=θ _
@[go_sem] theorem awM(ks id k lo n c):uF ks (.rsc id k lo n c)=if jI ks id none=true then .any else .rsc id k lo n c:=θ _
@[go_sem] theorem aul(h d id k i j):OL h d (.ref id none k i j)=UO h d id (i*k+j) (h id):=θ _
@[go_sem] theorem aum(h d id p cs):UO h d id p (.bx cs)=LM h d id p cs cs[p]?:=θ _
@[go_sem] theorem aso(h d id p cs k r):LM h d id p cs (some (.osl k r))=cR (upd h id (.bx (cs.set p .any))) d k r r.length [(id,true)]:=θ _
@[go_sem] theorem asp(h d id p cs):LM h d id p cs (some .emp)=some (.emp,h,[]):=θ _
@[go_sem] theorem aun(nm)(s h):Bq nm [] s h=some ⟨s,h⟩:=θ _
@[go_sem] theorem asq(nm)(i l s h):Bq nm (i::l) s h=if 200000<=i then(QO (i-200000) s h (s (i-200000))).bind (fun r=>if sx nm r.2.2 then Bq nm l r.1 r.2.1 else none)else if 100000<=i then Bq nm l s (Ir h (s (i-100000)))else(QN i s h (s i)).bind fun r=>if sx nm r.2.2 then Bq nm l r.1 r.2.1 else none:=θ _
@[go_sem] theorem aqh(ks):sx false ks=true:=θ _
@[go_sem] theorem awN(i s h id k lo n):QO i s h (.rsl id none k lo n)=Kb i s h id k lo n (h id):=θ _
@[go_sem] theorem awO(i s h id k lo n c):QO i s h (.rsc id k lo n c)=Kb i s h id k lo n (h id):=θ _
@[go_sem] theorem awP(i s h id k lo n r):Kb i s h id k lo n (.ar k r)=if lo=0/\bk i=false/\bY (h i)=true then some (upd (kP [(id,false)] s) i (.rsl i none k 0 n),upd (upd h id .dead) i (.ar k r),[(id,false)])else none:=by simp[Kb]
@[go_sem] theorem auo(h id k lo n):Ir h (.rsl id none k lo n)=(match h id with| .ar k rows=>upd h id (.ar k (rows.take (lo+n)))|_=>h):=θ _
@[go_sem] theorem awQ(nm)(s h):uG nm 0 s h=some ⟨s,h⟩:=θ _
@[go_sem] theorem awR(nm)(i s h):uG nm (i+1) s h=(SM i s h (s i)).bind fun r=>if sx nm r.2.2 then some ⟨r.1,r.2.1⟩else none:=θ _
@[go_sem] theorem awS(i s h):SM i s h .emp=some (s,h,[]):=θ _
@[go_sem] theorem awT(i s h id p k lo n):SM i s h (.rsl id (some p) k lo n)=if bk i=false then ZF i s h id p k lo n (h id)else none:=θ _
@[go_sem] theorem ayp(i s h id p k lo n cs):ZF i s h id p k lo n (.bx cs)=OR i s h id p k lo n cs cs[p]?:=θ _
@[go_sem] theorem awU(i s h id p k lo n cs r):OR i s h id p k lo n cs (some (.osl k r))=if lo=0/\n=r.length/\bY (h i)=true then some (upd (kP [(id,true)] s) i (.rsl i none k 0 n),upd (upd h id (.bx (cs.set p .any))) i (.ar k r),[(id,true)])else none:=by simp[OR]
@[go_sem] theorem awV(m g ps l):ahf call md m g ps l s h=bq (df call md ps [] (l.take m) s h) fun s h=>bq (uG md.nm g s h) (aF call md (l.drop m)):=θ _
end
theorem aaw{t:Rt}{x:List Int}(ht:sm t.exps)(hx:sm x)(hl:t.exps.length=x.length):R F.poly_collector_add_1 [.agg (bV t),.sl 1 (aI x)] []=some (I (bX t.exps x),[]):=by
 refine av Hh rfl ?_;have ho:=Xu ht hx hl;simp only[pe,xX,bV,go_sem,ho]
theorem akE{v:Int}{l:List Rt}{x:List Int}(c:Cl v l)(hx:sm x)(hl:(x.length:Int)=v)(h2:l.length<=1000000):∀ (k i j:Nat),j-i<=k->i<=bv l x->bv l x<=j->j<=l.length->∀ (s:ai) (h:ac),s 0=.sl 4 (aD l)->s 1=.sl 1 (aI x)->s 2=.fn F.poly_collector_add_1 [] []->s 8=I l.length->s 9=I i->s 10=I j->
  ah 0 [0,1,2,8,9] (aq (aj R (az false) bN) [0,1,2,8,9,10] [] s h)=some (.normal,⟨upd (upd (upd (upd (upd (fun _=>.any) 9 (I (bv l x))) 8 (I l.length)) 2 (.fn F.poly_collector_add_1 [] [])) 1 (.sl 1 (aI x))) 0 (.sl 4 (aD l)),fun _=>.dead⟩):=by
 intro k;induction k with
 |zero=>
  intro i j hk hi hj hn s h h0 h1 h2' h8 h9 h10;have e1:((i:Int)< (j:Int))=False:=ff;obtain rfl:i=bv l x:=ω
  rw[ag];simp only[bN,go_sem,h0,h1,h2',h8,h9,h10,e1]
 |succ k ih=>
  intro i j hk hi hj hn s h h0 h1 h2' h8 h9 h10;by_cases hij:i<j
  ·have e1:((i:Int)< (j:Int))=True:=tt;have e2:IntKind.i64.wrap ((i:Int)+(j:Int))=((i+j:Nat):Int):=wi;have hlt:(i+j)/2<l.length:=ω
   have g1:IntKind.u64.wrap (((i+j:Nat)):Int)=((i+j:Nat):Int):=dK rfl ω;have g2:((1:Int)<0)=False:=ff δ;have g3:Int.fdiv ((i+j:Nat):Int) (2^ (min (Int.toNat 1) 64))=(((i+j)/2:Nat):Int):=by
    grind
   have g4:IntKind.i64.wrap (((i+j)/2:Nat):Int)=(((i+j)/2:Nat):Int):=wi;have e3:aU (aD l) (((i+j)/2:Nat):Int)=some (.ipt (bV l[(i+j)/2])):=gy rfl (List.getElem?_eq_getElem hlt);have q:=c.t _ (azo hlt);have hc:=aaw q.sm hx (by have:=q.len;omega);have p1:bX (l[(i+j)/2]).exps x<0->(i+j)/2<bv l x:=fun ho=>by
    rcases Nat.lt_trichotomy ((i+j)/2) (bv l x)with h|h|h
    ·omega
    ·have:=Md (l:=l) (x:=x) (q:=l[(i+j)/2]) γ;omega
    ·have:=akD c hl h (List.getElem?_eq_getElem hlt);omega
   have p2:¬bX (l[(i+j)/2]).exps x<0->bv l x<=(i+j)/2:=fun ho=>by
    grind[absurd,R5]
   have i1:=ih ((i+j)/2+1) j ω;have i2:=ih i ((i+j)/2) ω hi;generalize l[(i+j)/2]=t at e3 q hc p1 p2;rw[ag];generalize aq _ _ _=L at i1 i2⊢;simp only[bV]at hc e3;by_cases ho:bX t.exps x<0
   ·have e4:(bX t.exps x<0)=True:=tt ho;have e5:IntKind.i64.wrap ((((i+j)/2:Nat):Int)+1)=(((i+j)/2+1:Nat):Int):=wi;have:=p1 ho;simp only[bN,go_sem,h0,h1,h2',h8,h9,h10,e1,e2,g1,g2,g3,g4,e3,hc,e4,e5];exact i1 ω hj hn _ _ rfl rfl rfl rfl rfl rfl
   ·have e4:(bX t.exps x<0)=False:=ff ho;have:=p2 ho;simp only[bN,go_sem,h0,h1,h2',h8,h9,h10,e1,e2,g1,g2,g3,g4,e3,hc,e4];exact i2 this ω _ _ rfl rfl rfl rfl rfl rfl
  grind
def Li(l:List Rt)(x:List Int):Bool:=match l[bv l x]? with
 |some q=>decide (bX q.exps x=0)
 |none=>false
theorem ac7{v:Int}{l:List Rt}{x:List Int}(c:Cl v l)(hx:sm x)(hl:(x.length:Int)=v)(h2:l.length<=1000000):R F.slices_BinarySearchFunc_api_Term_api_Term_Sint_ [.sl 4 (aD l),.sl 1 (aI x),.fn F.poly_collector_add_1 [] []] []=some (.tup [I (bv l x),B (Li l x)],[]):=by
 refine acJ nN nM (fE false) rfl ?_;have h3:=akE c hx hl h2 l.length 0 l.length ω (azH _) (H1 l x) (ayZ _);simp only[dx,gu,go_sem];rw[h3 _ _ rfl rfl rfl rfl rfl rfl];unfold Li;cases hq:l[bv l x]? with
 |none=>
  have:l.length<=bv l x:=List.getElem?_eq_none_iff.1 hq;have e1:((bv l x:Int)< (l.length:Int))=False:=ff;simp only[go_sem,e1]
 |some q=>
  have hlt:=(List.getElem?_eq_some_iff.1 hq).1;have e1:((bv l x:Int)< (l.length:Int))=True:=tt;have vq:=c.t q (List.mem_of_getElem? hq);have hc:=aaw vq.sm hx (by have:=vq.len;omega);have e3:aU (aD l) (bv l x:Int)=some (.ipt (bV q)):=gy rfl hq;simp only[bV]at hc e3;by_cases ho:bX q.exps x=0
  ·have e4:(bX q.exps x=0)=True:=tt ho;simp only[go_sem,e1,e3,hc,e4,decide_true]
  ·have e4:(bX q.exps x=0)=False:=ff ho;simp only[go_sem,e1,e3,hc,e4,decide_false]
theorem TC{d:Rd}(hn:d.m.length≠0)(h1:d.m.length<=100000):R F.poly_copied [af d] []=some (af d,[]):=by
 refine av Uu rfl ?_;have hc:=I2 (m:=d.m) (fun h=>hn γ) h1;simp only[BI,JM,af,ak,go_sem,hc]
theorem aax{h:ac}{d id p n:Nat}{cs:List AV}{rows:List (List AV)}{x:AV}(hh:h id=.bx cs)(hp:cs[p]?=some (.osl 4 rows))(hn:n=rows.length)(hx:∃r,x=.sl 1 r):
  bE R (az false) h d [.rsl id (some p) 4 0 n,x,.fn F.poly_collector_add_1 [] []] (.fn F.slices_BinarySearchFunc_api_Term_api_Term_Sint_ [] [])=(R F.slices_BinarySearchFunc_api_Term_api_Term_Sint_ (bp [[.o 5 [.o 2 [],.o 0 [],.o 2 [],.o 0 []]],[.o 2 []],[]] [.sl 4 rows,x,.fn F.poly_collector_add_1 [] []]) []).bind (Vi h):=by
 obtain⟨r,rfl⟩:=hx;unfold bE
 simp_all[if_pos,kt,gw,OM,ON,QM,abt,zQ,kQ,yB,jj,ay8,azb,fY]
theorem XG(o:Ob):am [o]=upd (fun _=>.dead) 1000 o:=by
 unfold am upd;grind
theorem xd{f:FuncId}{fd:FD}{args:List AV}{o:Ob}{r:AV×List Ob}(hE:cO.E f=none)(hC:cO.C f=some fd)(hk:cO.md.keep f=false)(h1:args.length=fd.np)
  (hz:je false fd.rs fd.res 1 (aj R (az false) fd.body (uw args) (upd (fun _=>.dead) 1000 o))=some r):R f args [o]=some r:=by
 grind[KX,XG]
theorem U1{f:FuncId}{g:List AV->List Ob->Option (AV×List Ob)}{args:List AV}{hs:List Ob}(hE:cO.E f=some g):R f args hs=g args hs:=II hE
theorem TD:R F.slices_Clone_int_int_ [.sl 1 []] []=some (.sl 1 [],[]):=by
 rw[U1 (g:=clF) κ];rfl
theorem TE{x:Int}{l:List Int}(h:l.length<=1000000):R F.slices_Clone_int_int_ [.sl 1 (aI (x::l))] []=some (.osl 1 (aI (x::l)),[]):=by
 rw[U1 (g:=clF) κ];show(if(((aI l).length+1)*8<=140737488355328)then _ else _)=_;rw[if_pos (by grind[rU])];rfl
def mN(c:AV)(l:List Rt):Prop:=c=.osl 4 (aD l)\/(c=.emp/\l=[])
def t3(v:Int)(c:AV)(e:Int):Ob:=.bx [I v,c,I e]
theorem H3{h:ac}{v e:Int}{c:AV}{l:List Rt}(hc:mN c l)(hh:h 1000=t3 v c e):uv [] 1 h []=some (.tup [],[t3 v c e]):=by
 have hp:de 1=[1000]:=rfl;have h2:aA [1000] (t3 v c e)=true:=by
  rcases hc with rfl| ⟨rfl,_⟩<;>rfl
 grind[uv,kH,uH,uI,bp]
theorem XH{v e:Int}{c x:AV}{d:Rd}{l:List Rt}(hc:mN c l)(he:e≠0):R F.poly_collector_add [.ref 1000 none 0 0 0,x,af d] [t3 v c e]=some (.tup [],[t3 v c e]):=by
 refine xd aQ.2.1 aQ.2.2 (aQ.1.2.2.2 false) rfl ?_;have e1:(e=0)=False:=ff he;simp only[gr,jQ,t3,af,ak,go_sem,e1];exact H3 hc rfl
theorem Mf(h:ac)(i:Int)(b:Bool):Vi h (.tup [I i,B b],[])=some (.tup [I i,B b],h,[]):=rfl
theorem iZ{h:ac}{id p id2 k n:Nat}{rows:List (List AV)}{cs:List AV}(h1:h id2=.ar k rows)(hn:n=rows.length)(h2:h id=.bx cs)(hne:id≠id2)(hp:p<cs.length):
  th h id p 1 [.rsl id2 none k 0 n]=some (upd (upd h id2 .dead) id (.bx (cs.set p (.osl k rows))),(id2,false)::(if cs[p]?.any bm then [(id,true)]else [])):=by
 simp_all[upd,if_neg,th,Jw,SL,Nr,DM]
theorem anl{l:List Rt}{t:Rt}{n i:Nat}(hn:n=l.length)(hi:i<=n)(h2:n<=1000000):R F.slices_Insert_api_Term_api_Term_ [.rsl 1000 none 4 0 n,I i,.sl 4 [bV t]] [.ar 4 (aD l)]=some (.osl 4 (aD (l.take i++t::l.drop i)),[.dead]):=by
 rw[U1 (g:=Wl 4 64) κ];show(if(4:Nat)=4/\(4:Nat)=4/\(4:Nat)=4/\n=(aD l).length/\(0:Int)<=(i:Int)/\(i:Int)<=(n:Int)/\(n+1)*64<=140737488355328 then some (AV.osl 4 ((aD l).take (i:Int).toNat++bV t::(aD l).drop (i:Int).toNat),[Ob.dead])else none)=_;rw[if_pos ⟨rfl,rfl,rfl,by rw[nO,hn],by omega,by omega,by omega⟩,ay4];simp[aD,List.map_take,List.map_drop]
theorem akF{t:Rt}:R F.slices_Insert_api_Term_api_Term_ [.emp,I 0,.sl 4 [bV t]] []=some (.osl 4 (aD [t]),[]):=by
 rw[U1 (g:=Wl 4 64) κ];rfl
theorem afb(t:Rt):nrmV [.o 5 [.o 2 [],.o 0 [],.o 2 [],.o 0 []]] (.sl 4 [bV t])=.sl 4 [bV t]:=by
 have:=Eh [t];simp only[aD,azv,azF]at this;simp only[nrmV,List.headD_cons,nrmL,azv,azF,this]
theorem ahX{l:List Rt}{t:Rt}{h:ac}{d a b n i:Nat}(ha:h a=.ar 4 (aD l))(hb:h b=.ar 4 [bV t])(hab:a≠b)(_hda:2000+8*d≠a)(hdb:2000+8*d≠b)(hd:h (2000+8*d)=.dead)(hn:n=l.length)(hi:i<=n)(h2:n<=1000000):
  bE R (az false) h d [.rsl a none 4 0 n,.v (.int .i64 i),.rsl b none 4 0 1] (.fn F.slices_Insert_api_Term_api_Term_ [] [])=
   some (.rsl (2000+8*d) none 4 0 (l.length+1),upd (upd (upd h b (.fz 4 [bV t])) a .dead) (2000+8*d) (.ar 4 (aD (l.take i++t::l.drop i))),[(a,true),(a,false)]):=by
 have hm:=mL false;have hs:=lZ false;have hk:=lg false;have hf:=anl (t:=t) hn hi h2;have hb':kt (az false) [.rsl a none 4 0 n,.v (.int .i64 i),.rsl b none 4 0 1] (.fn F.slices_Insert_api_Term_api_Term_ [] [])=false:=by
  grind[kt]
 have h1:bS h [2,0,0] [.rsl a none 4 0 n,.v (.int .i64 i),.rsl b none 4 0 1]=some ([.rsl a none 4 0 n,.v (.int .i64 i),.sl 4 [bV t]],upd h b (.fz 4 [bV t]),[]):=by
  simp_all[bS,dE,xg,gg,aE,agP,nP,qz]
 have g1:upd h b (.fz 4 [bV t]) a=.ar 4 (aD l):=by
  simp_all[upd,if_neg]
 have g2:upd h b (.fz 4 [bV t]) (2000+8*d)=.dead:=by
  simp_all[upd,if_neg]
 have hr:ce (upd h b (.fz 4 [bV t])) 40 [a] 0=[a]:=by
  grind[ce,oZ,bA]
 have hp:bA [] ([AV.rsl a none 4 0 n,.v (.int .i64 i),.sl 4 [bV t]].flatMap cr)=[a]:=by
  simp[cr,fP,bA]
 have h3:bj [a] a=1000:=by simp[bj]
 have hnr:cF (.osl 4 (aD (l.take i++t::l.drop i)))=1:=rfl;have hlen:(aD (l.take i++t::l.drop i)).length=l.length+1:=by
  grind[nO,azr,azd,azp,azQ]
 have hnm:bp [[],[],[.o 5 [.o 2 [],.o 0 [],.o 2 [],.o 0 []]]] [.rsl a none 4 0 n,.v (.int .i64 i),.sl 4 [bV t]]=[.rsl a none 4 0 n,.v (.int .i64 i),.sl 4 [bV t]]:=by
  simp only[bp,afb];rfl
 unfold bE;simp only[dV,hm,ay8,azb,h1,ay2,hp,hr,hs,hnm];simp[jK,aZ,bo,g1,aA,bY,dS,kr,h3,dT,hf,eG,hnr,cB,g2,cU,bf,mQ,Bp,sv,fP,jJ,fC,F3,ej,mat,dU,fT,hk,GW,hm,hlen]
 simp_all[dL,if_neg,Hu]
theorem ahY{h:ac}{d:Nat}{r:List (List AV)}{i:Int}{b:Bool}(hR:R F.slices_BinarySearchFunc_api_Term_api_Term_Sint_ [.sl 4 [],nrmV [.o 2 []] (.sl 1 r),.fn F.poly_collector_add_1 [] []] []=some (.tup [I i,B b],[]))(h0:h (2000+8*d)=.dead)(h1:h (2000+8*d+1)=.dead):
  bE R (az false) h d [.emp,.sl 1 r,.fn F.poly_collector_add_1 [] []] (.fn F.slices_BinarySearchFunc_api_Term_api_Term_Sint_ [] [])=some (.tup [I i,B b],h,[]):=by
 have hm:=gw false;have hs:=fY false;have hk:=fE false;have hb':kt (az false) [.emp,.sl 1 r,.fn F.poly_collector_add_1 [] []] (.fn F.slices_BinarySearchFunc_api_Term_api_Term_Sint_ [] [])=false:=by
  grind[kt,OM]
 have h3:bS h [3,0,0] [.emp,.sl 1 r,.fn F.poly_collector_add_1 [] []]=some ([.emp,.sl 1 r,.fn F.poly_collector_add_1 [] []],h,[]):=by
  simp[bS,dE,xg,gg,aE]
 have hp:bA [] ([AV.emp,.sl 1 r,.fn F.poly_collector_add_1 [] []].flatMap cr)=[]:=by
  simp[cr,fP,bA]
 have hnm:bp [[.o 5 [.o 2 [],.o 0 [],.o 2 [],.o 0 []]],[.o 2 []],[]] [.emp,.sl 1 r,.fn F.poly_collector_add_1 [] []]=[.sl 4 [],nrmV [.o 2 []] (.sl 1 r),.fn F.poly_collector_add_1 [] []]:=by
  rfl
 obtain⟨q,hq⟩:∃q,nrmV [.o 2 []] (.sl 1 r)=.sl 1 q:=⟨_,rfl⟩;rw[hq]at hR hnm;have hr:∀n,ce h n [] 0=[]:=fun n=>by cases n<;>rfl
 unfold bE;rw[if_neg γ];simp only[dV,hm,ay8,azb,h3,ay2,hp,hr,hs,hnm];simp[jK,aZ,bo,dS,kr,hR,eG,cF,cB,h0,h1,bY,cU,mQ,Bp,sv,jJ,fC,F3,ej,mat,cT,dU,fT,hk,GW,hm]
theorem afc{t:Rt}{h:ac}{d b:Nat}(hb:h b=.ar 4 [bV t])(hdb:2000+8*d≠b)(hd:h (2000+8*d)=.dead):
  bE R (az false) h d [.emp,.v (.int .i64 0),.rsl b none 4 0 1] (.fn F.slices_Insert_api_Term_api_Term_ [] [])=some (.rsl (2000+8*d) none 4 0 1,upd (upd h b (.fz 4 [bV t])) (2000+8*d) (.ar 4 (aD [t])),[]):=by
 have hm:=mL false;have hs:=lZ false;have hk:=lg false;have hf:=akF (t:=t);have hb':kt (az false) [.emp,.v (.int .i64 0),.rsl b none 4 0 1] (.fn F.slices_Insert_api_Term_api_Term_ [] [])=false:=by
  grind[kt]
 have h1:bS h [2,0,0] [.emp,.v (.int .i64 0),.rsl b none 4 0 1]=some ([.emp,.v (.int .i64 0),.sl 4 [bV t]],upd h b (.fz 4 [bV t]),[]):=by
  simp[bS,dE,xg,gg,aE,hb,nP,qz]
 have g2:upd h b (.fz 4 [bV t]) (2000+8*d)=.dead:=by
  simp_all[upd,if_neg]
 have hp:bA [] ([AV.emp,.v (.int .i64 0),.sl 4 [bV t]].flatMap cr)=[]:=by
  simp[cr,fP,bA]
 have hnr:cF (.osl 4 (aD [t]))=1:=rfl;have hnm:bp [[],[],[.o 5 [.o 2 [],.o 0 [],.o 2 [],.o 0 []]]] [.emp,.v (.int .i64 0),.sl 4 [bV t]]=[.emp,.v (.int .i64 0),.sl 4 [bV t]]:=by
  simp only[bp,afb];rfl
 have hr:∀ (h:ac) n,ce h n [] 0=[]:=fun h n=>by cases n<;>rfl
 have hlen:(aD [t]).length=1:=rfl;unfold bE;simp only[dV,hm,ay8,azb,h1,ay2,hp,hr,hs,hnm];simp[jK,aZ,bo,dS,kr,hf,eG,hnr,cB,g2,bY,cU,mQ,Bp,sv,fP,jJ,fC,F3,ej,mat,dU,fT,hk,GW,hm,hlen]
 simp_all[dL,if_neg]
def ClE(x:List Int):Prop:=R F.slices_Clone_int_int_ [.sl 1 (aI x)] []=some (.osl 1 (aI x),[])\/R F.slices_Clone_int_int_ [.sl 1 (aI x)] []=some (.sl 1 (aI x),[])
theorem afd:∀ {x:List Int},x.length<=100000->ClE x
 |[],_=>.inr TD
 |x::l,h=>.inl (TE γ)
theorem XI{v v':Int}{l:List Rt}{t:Rt}(c:Cl v l)(vt:VT v t)(hl:l.length<=1000000)(hf:Li l t.exps=false):
  R F.poly_collector_add [.ref 1000 none 0 0 0,.sl 1 (aI t.exps),af t.c] [t3 v' (.osl 4 (aD l)) 0]=some (.tup [],[t3 v' (.osl 4 (aD (l.take (bv l t.exps)++t::l.drop (bv l t.exps)))) 0]):=by
 refine xd aQ.2.1 aQ.2.2 (aQ.1.2.2.2 false) rfl ?_;have hbs:=ac7 c vt.sm vt.len hl;rw[hf]at hbs;have hcp:=TC vt.nz (ay3 (AX vt.vc vt.c.lb) δ);simp only[af,ak]at hcp;have k1:(aI t.exps).take t.exps.length=aI t.exps:=azg (by simp_all[rU,ayZ]);have hlen:(l.take (bv l t.exps)++t::l.drop (bv l t.exps)).length=l.length+1:=by
  grind
 have hp:=H1 l t.exps;simp only[gr,jQ,t3,af,ak,go_sem];rw[aax rfl rfl (nO l).symm ⟨_,rfl⟩];rcases afd vt.ok.len with hcv|hcv
 all_goals
  simp only[go_sem,hbs,Mf,hcv,hcp,ayX,ayZ,k1];rw[ahX rfl rfl δ δ δ rfl rfl hp hl];generalize l.take (bv l t.exps)++t::l.drop (bv l t.exps)=L at hlen⊢;simp only[go_sem];rw[if_pos (by rfl),iZ rfl (by rw[nO,hlen]) rfl δ (azY δ (ayZ 3))];simp only[go_sem];exact H3 (.inl rfl) rfl
theorem Ol{v':Int}{v:Int}{t:Rt}(vt:VT v t):
  R F.poly_collector_add [.ref 1000 none 0 0 0,.sl 1 (aI t.exps),af t.c] [t3 v' .emp 0]=some (.tup [],[t3 v' (.osl 4 (aD [t])) 0]):=by
 refine xd aQ.2.1 aQ.2.2 (aQ.1.2.2.2 false) rfl ?_;have hbs:=ac7 (l:=[]) (Cl.nil v) vt.sm vt.len (azH _);rw[show bv [] t.exps=0 from rfl,show Li [] t.exps=false from rfl,azC]at hbs;have hcp:=TC vt.nz (ay3 (AX vt.vc vt.c.lb) δ);simp only[af,ak]at hcp;have k1:(aI t.exps).take t.exps.length=aI t.exps:=azg (by simp_all[rU,ayZ]);have k2:nrmV [.o 2 []] (.sl 1 (aI t.exps))=.sl 1 (aI t.exps):=by
  simp only[go_sem]
 simp only[gr,jQ,t3,af,ak,go_sem];rw[ahY (by rw[k2];exact hbs) rfl rfl];rcases afd vt.ok.len with hcv|hcv
 all_goals
  simp only[go_sem,hcv,hcp,ayX,ayZ,k1];rw[afc rfl δ rfl];simp only[go_sem];rw[if_pos (by rfl),iZ rfl (show 1=(aD [t]).length from rfl) rfl δ (azY δ (ayZ 3))];simp only[go_sem];exact H3 (.inl rfl) rfl
theorem FF{d n i:Nat}(h:i<=n):kG d n (some (I i))=some i:=by
 simp_all[kG,if_pos]
theorem anm{h:ac}{j k n:Nat}{rows:List (List AV)}(hj:bk j=false)(hh:h j=.ar k rows)(hn:n=rows.length)(hc:aA [1000] (h 1000)=true):uv [[]] 1 h [.rsl j none k 0 n]=some (.osl k rows,[h 1000]):=by
 simp_all[de,uv,if_pos,uH,sB,mS,C7,uI,bp,nrmV,nrmL,kH,cr,fP]
theorem ann{rows:List (List AV)}{n i:Nat}(hn:n=rows.length)(hi:i<n)(h2:n<=1000000):R F.slices_Delete_api_Term_api_Term_ [.rsl 1000 none 4 0 n,I i,I ((i+1:Nat):Int)] [.ar 4 rows]=some (.osl 4 (rows.take i++rows.drop (i+1)),[.dead]):=by
 refine xd xK xJ (lh false) rfl ?_;subst hn;have b1:kG rows.length rows.length (some (I rows.length))=some rows.length:=FF (ayZ _);have b2:∀d,kG d rows.length (some (I ((i+1:Nat):Int)))=some (i+1):=fun d=>FF ω;have b3:∀d,kG d (i+1) (some (I i))=some i:=fun d=>FF ω;have b4:∀d,kG d rows.length (some (I i))=some i:=fun d=>FF ω;have e1:((i:Int)=((i+1:Nat):Int))=False:=ff;have s1:dH 4 (.rsl 1000 none 4 0 rows.length) (some (I i)) (some (I ((i+1:Nat):Int))) (some (I rows.length))=some .any:=by
  simp_all[dH,if_true,jH,b2,ay2,azE,Option.isNone_some,if_neg,ay9]
 have s2:dH 4 (.rsl 1000 none 4 0 rows.length) none (some (I i)) none=some (.rsl 1000 none 4 0 i):=by
  simp_all[dH,if_true,jH,Fl,ay2,azE,Option.isNone_none,Nat.sub_zero,azA]
 have s3:dH 4 (.rsl 1000 none 4 0 rows.length) (some (I ((i+1:Nat):Int))) none none=some (.rsl 1000 none 4 (i+1) (rows.length- (i+1))):=by
  simp only[dH,if_true,jH,b2,Fl,ay2,azE,Option.isNone_none,ayX]
 have t1:(rows.drop (i+1)).take (rows.length- (i+1))=rows.drop (i+1):=azg γ;have t2:(i+1+(rows.length- (i+1))<=rows.length)=True:=tt;obtain⟨m,hm⟩:∃m,i+(rows.length- (i+1))=m:=⟨_,rfl⟩;obtain⟨D,hD⟩:∃D,rows.take i++rows.drop (i+1)=D:=⟨_,rfl⟩;have d1:D.length=m:=by
  grind
 obtain⟨A,hA⟩:∃A,D++rows.drop m=A:=⟨_,rfl⟩;have a1:A.length=rows.length:=by
  grind
 have a2:A.take m=D:=γ
 have e5:∀h,Nu h 26 4 64 1000 4 0 i (rows.drop (i+1)) 4 rows=some (.rsl 1000 none 4 0 m,upd h 1000 (.ar 4 A),[]):=fun h=>by
  unfold Nu;grind
 have e7:(i=rows.length)=False:=ff;have b5:jH rows.length (some (I m)) (some (I rows.length)) none=some (m,rows.length):=by
  simp only[jH,b1,ay2];rw[FF ω];rfl
 have c1:(m+(rows.length-m)<=rows.length)=True:=tt;have c2:∀z,(D++ayW (rows.length-m) z++A.drop (m+(rows.length-m))).take m=D:=fun z=>by
  rw[azB,List.take_append_of_le_length ω,azg ω]
 rw[hD];simp only[gU,mE,go_sem,s1,s2,s3,e1,t1,t2,e5,e7,false_and,and_false,a1,a2,b5,c1,c2,Nat.sub_zero,ayX,azH,azz,decide_false];exact anm (by rfl) (by rfl) d1.symm (by rfl)
theorem ahZ{l:List Rt}{h:ac}{d a n i:Nat}(ha:h a=.ar 4 (aD l))(_hda:2000+8*d≠a)(hd:h (2000+8*d)=.dead)(hn:n=l.length)(hi:i<n)(h2:n<=1000000):
  bE R (az false) h d [.rsl a none 4 0 n,.v (.int .i64 i),.v (.int .i64 ((i+1:Nat):Int))] (.fn F.slices_Delete_api_Term_api_Term_ [] [])=
   some (.rsl (2000+8*d) none 4 0 (l.length-1),upd (upd h a .dead) (2000+8*d) (.ar 4 (aD (l.take i++l.drop (i+1)))),[(a,true),(a,false)]):=by
 have hm:=xL false;have hs:=wW false;have hk:=lh false;have hf:=ann (rows:=aD l) (n:=n) (i:=i) (by rw[nO,hn]) hi h2;have e1:(aD l).take i++(aD l).drop (i+1)=aD (l.take i++l.drop (i+1)):=by simp[aD,List.map_take,List.map_drop]
 rw[e1]at hf;have hb':kt (az false) [.rsl a none 4 0 n,.v (.int .i64 i),.v (.int .i64 ((i+1:Nat):Int))] (.fn F.slices_Delete_api_Term_api_Term_ [] [])=false:=by
  grind[kt]
 have h1:bS h [2,0,0] [.rsl a none 4 0 n,.v (.int .i64 i),.v (.int .i64 ((i+1:Nat):Int))]=some ([.rsl a none 4 0 n,.v (.int .i64 i),.v (.int .i64 ((i+1:Nat):Int))],h,[]):=by
  simp[bS,dE,xg,gg,aE,ha,agP]
 have hr:ce h 40 [a] 0=[a]:=by
  grind[ce,oZ,bA]
 have hp:bA [] ([AV.rsl a none 4 0 n,.v (.int .i64 i),.v (.int .i64 ((i+1:Nat):Int))].flatMap cr)=[a]:=by
  simp[cr,fP,bA]
 have h3:bj [a] a=1000:=by simp[bj]
 have hnr:cF (.osl 4 (aD (l.take i++l.drop (i+1))))=1:=rfl;have hlen:(aD (l.take i++l.drop (i+1))).length=l.length-1:=by
  grind[nO,azr,azd,azQ]
 unfold bE;simp only[dV,hm,ay8,azb,h1,ay2,hp,hr,hs];simp only[Int.natCast_add,Int.natCast_one]at hf;simp[jK,bp,aZ,bo,ha,aA,bY,dS,kr,h3,dT,hf,eG,hnr,cB,hd,cU,bf,mQ,Bp,sv,fP,jJ,fC,F3,ej,mat,dU,fT,hk,GW,hm,hlen]
 simp_all[dL,if_neg,Hu]
theorem akG(h:ac)(i:Nat)(xs:List AV)(a b:AV)(r:List (List AV)):F0 h 3 1000 1 4 i 1 xs [] (.bx [a,.osl 4 r,b])=(su 3 4 i 1 xs 4 r).map fun q=>(.und,upd h 1000 (.bx [a,.osl 4 q,b]),[]):=rfl
theorem Lj(a b:AV)(k:Nat)(r:List (List AV)):kQ 1 (.bx [a,.osl k r,b])=some (k,r):=rfl
theorem R7(h:ac)(n:Nat)(g:Bool)(i j:Nat)(r:List (List AV)):pC h n g 4 i j (some (4,r))=(r[i]?).bind fun row=>(lj n g row j).map fun a=>(a,h,[]):=rfl
theorem ah0{v v':Int}{l:List Rt}{t q:Rt}(c:Cl v l)(vt:VT v t)(hl:l.length<=1000000)(hq:l[bv l t.exps]?=some q)(ho:bX q.exps t.exps=0):
  R F.poly_collector_add [.ref 1000 none 0 0 0,.sl 1 (aI t.exps),af t.c] [t3 v' (.osl 4 (aD l)) 0]=some (.tup [],[if(jD q.c t.c).2=0 then(if(jD q.c t.c).1.m.length=0 then t3 v' (.osl 4 (aD (l.take (bv l t.exps)++l.drop (bv l t.exps+1)))) 0 else t3 v' (.osl 4 (aD (l.set (bv l t.exps) ⟨q.exps,(jD q.c t.c).1⟩))) 0)else t3 v' (.osl 4 (aD l)) 9]):=by
 refine xd aQ.2.1 aQ.2.2 (aQ.1.2.2.2 false) rfl ?_;have hbs:=ac7 c vt.sm vt.len hl;have hf:Li l t.exps=true:=by
  grind[Li,decide_eq_true]
 rw[hf]at hbs;have vq:=c.t q (List.mem_of_getElem? hq);have hadd:=akC vq.c vt.c;have hlt:=(List.getElem?_eq_some_iff.1 hq).1;have hrow:(aD l)[bv l t.exps]?=some (bV q):=by grind[aD]
 have hi0:(0<=(bv l t.exps:Int)/\(bv l t.exps:Int)< (l.length:Int))=True:=eq_true ⟨by omega,by omega⟩;have hw:IntKind.i64.wrap ((bv l t.exps:Int)+1)=((bv l t.exps+1:Nat):Int):=wi;generalize jD q.c t.c=r at hadd⊢;obtain⟨s,e⟩:=r;simp only[rV,af,ak]at hadd;simp only[bV]at hrow;simp only[gr,jQ,t3,af,ak,go_sem];rw[aax rfl rfl (nO l).symm ⟨_,rfl⟩];by_cases he:e=0
 ·subst he;by_cases hs:s.m.length=0
  ·have e1:((s.m.length:Int)=0)=True:=tt;have hlen:(l.take (bv l t.exps)++l.drop (bv l t.exps+1)).length=l.length-1:=by
    grind
   simp only[go_sem,hbs,Mf,hi0,hrow,hadd,hs,ay4,azC,ayX,Lj,R7,hw];rw[ahZ rfl δ rfl rfl hlt hl];generalize l.take (bv l t.exps)++l.drop (bv l t.exps+1)=L at hlen⊢;simp only[go_sem];rw[iZ rfl (by rw[nO,hlen]) rfl δ (azY δ (ayZ 3))];simp only[go_sem];exact H3 (.inl rfl) rfl
  ·have e1:((s.m.length:Int)=0)=False:=ff;have hset:(aD l).set (bv l t.exps) [.sl 1 (aI q.exps),B s.neg,lm s.m,I s.e]=aD (l.set (bv l t.exps) ⟨q.exps,s⟩):=by
    unfold aD;rw[List.map_set];rfl
   simp only[go_sem,hbs,Mf,hi0,hrow,hadd,hs,e1,ay4,ayX,Lj,R7,hw,akG,hset];exact H3 (.inl rfl) rfl
 ·have e1:(e=0)=False:=ff he;simp only[go_sem,hbs,Mf,hi0,hrow,hadd,e1,ay4,ayX,Lj,R7,hw];exact H3 (.inl rfl) rfl
theorem R8{v v':Int}{l:List Rt}{t:Rt}{cell:AV}(c:Cl v l)(vt:VT v t)(hl:l.length<=1000000)(hc:mN cell l):
  ∃cell' l' e',R F.poly_collector_add [.ref 1000 none 0 0 0,.sl 1 (aI t.exps),af t.c] [t3 v' cell 0]=some (.tup [],[t3 v' cell' e'])/\mN cell' l'/\((e'=0/\pi l t=some l')\/(e'=9/\pi l t=none/\l'=l)):=by
 rcases hc with rfl| ⟨rfl,rfl⟩
 ·rw[R6];cases hq:l[bv l t.exps]? with
  |none=>
   exact⟨_,_,_,XI c vt hl (by grind[Li]),.inl rfl,.inl ⟨rfl,rfl⟩⟩
  |some q=>
   by_cases ho:bX q.exps t.exps=0
   ·have h1:=ah0 (v':=v') c vt hl hq ho;simp only[if_pos ho];by_cases he:(jD q.c t.c).2=0
    ·rw[if_pos he]at h1⊢;by_cases hs:(jD q.c t.c).1.m.length=0
     ·rw[if_pos hs]at h1⊢;exact⟨_,_,_,h1,.inl rfl,.inl ⟨rfl,rfl⟩⟩
     ·rw[if_neg hs]at h1⊢;exact⟨_,_,_,h1,.inl rfl,.inl ⟨rfl,rfl⟩⟩
    ·rw[if_neg he]at h1⊢;exact⟨_,_,_,h1,.inl rfl,.inr ⟨rfl,rfl,rfl⟩⟩
   ·simp only[if_neg ho];exact⟨_,_,_,XI c vt hl (by grind[Li,decide_eq_false]),.inl rfl,.inl ⟨rfl,rfl⟩⟩
 ·exact⟨_,_,_,Ol vt,.inl rfl,.inl ⟨rfl,rfl⟩⟩
theorem VT.zn{v:Int}{t:Rt}(h:VT v t):zI t.c≠0:=by
 rcases N9 t.c h.vc with⟨_,_,h2⟩| ⟨_,h1,h2,_⟩| ⟨_,h1,h2,_⟩
 ·exact absurd h2 h.nz
 all_goals omega
theorem TF{a b:List Int}(h:bX a b<0):b≠a:=by
 grind[TB]
def p0:Rp:=⟨0,[]⟩
def pV(r:Rp×Int):AV:=.tup [be r.1,I r.2]
def pj(v:Int):Option (List Rt)->Rp×Int
 |none=>(p0,9)
 |some l=>if 500<l.length then(p0,5)else(⟨v,l⟩,0)
def yz(a b:Rp):Bool:=vp a&& (vp b&&decide (a.vars=b.vars))
def FG(a b:Rp):Rp×Int:=if yz a b=true then pj a.vars (j5 [] (a.terms++b.terms))else(p0,1)
def y7(t:Rt):Rt:=⟨t.exps,⟨!t.c.neg,t.c.m,t.c.e⟩⟩
def FH(a b:Rp):Rp×Int:=if yz a b=true then pj a.vars (j5 [] (a.terms++b.terms.map y7))else(p0,1)
def kB(a b:List Int):List Int:=List.zipWith (·+·) a b
def Jd(s t:Rt):Option Rt:=if(fh s.c t.c).2=0 then some ⟨kB s.exps t.exps,(fh s.c t.c).1⟩else none
def oG(s:Rt):List Rt->Option (List Rt)
 |[]=>some []
 |t::ts=>(Jd s t).bind fun x=>(oG s ts).map (x::·)
def mO:List Rt->List Rt->Option (List Rt)
 |[],_=>some []
 |s::ss,ts=>(oG s ts).bind fun r=>(mO ss ts).map (r++·)
def Dy(a b:Rp):Rp×Int:=if yz a b=true then(if a.terms.length≠0/\b.terms.length≠0/\32<gM a+gM b then(p0,5)else pj a.vars ((mO a.terms b.terms).bind (j5 [])))else(p0,1)
theorem afe:∃K:Int,K≠0/\∀a b:Rd,(fh a b).2=0->zI (fh a b).1*K=zI a*zI b:=by
 refine⟨2^16384,?_,fun a b h=>?_⟩
 ·grind[Int.pow_ne_zero]
 ·unfold fh at h⊢;split at h
  ·rename_i hc;rw[if_pos hc];exact H0 (j:=16384) h
  omega
noncomputable def KK:Int:=Classical.choose afe
theorem aay{a b:Rd}(h:(fh a b).2=0):zI (fh a b).1*KK=zI a*zI b:=(Classical.choose_spec afe).2 a b h
theorem XJ:∀ {a b:List Int},a.length=b.length->aS (kB a b)=aS a+aS b
 |[],[],_=>rfl
 |x::a,y::b,h=>by
  show x+y+aS (kB a b)=x+aS a+(y+aS b);rw[XJ (by simpa using h)];omega
 |[],_::_,h=>by grind
 |_::_,[],h=>by grind
theorem Ek:∀ {l:List Int},(∀x∈l,0<=x)->0<=aS l/\∀x∈l,x<=aS l
 |[],_=>⟨Int.le_refl _,fun _ h=>by grind⟩
 |y::l,h=>by
  obtain⟨h1,h2⟩:=Ek fun x hx=>h x (List.mem_cons_of_mem _ hx);have h3:=h y σ;grind[aS]
theorem XK:∀ {a b:List Int},(∀x∈a,0<=x)->(∀x∈b,0<=x)->∀x∈kB a b,0<=x
 |[],b,_,_,x,hx=>by simp_all[kB]
 |_::_,[],_,_,x,hx=>by simp_all[kB]
 |y::a,z::b,h1,h2,x,hx=>by
  have hx':x∈ (y+z)::kB a b:=hx;rcases List.mem_cons.1 hx' with rfl|hx'
  ·have:=h1 y σ;have:=h2 z σ;omega
  ·exact XK (fun x hx=>h1 x γ) (fun x hx=>h2 x γ) x hx'
theorem y8{a b:List Int}(h:a.length=b.length):(kB a b).length=a.length:=by
 grind[kB,List.length_zipWith]
theorem XL{v:Int}{s t x:Rt}(vs:VT v s)(vt:VT v t)(hd:aS s.exps+aS t.exps<=32)(h:Jd s t=some x):VT v x:=by
 unfold Jd at h;split at h
 ·rename_i h0;cases h;have hl:=vs.l2 vt;have hp:=XK (fun x hx=>(vs.b x hx).1) (fun x hx=>(vt.b x hx).1);have hs:=XJ hl;obtain⟨q1,q2⟩:vd (fh s.c t.c).1=true/\Ok0 (fh s.c t.c).1:=by
   grind[fh,xc,aV]
  refine⟨q2,by rw[y8 hl];exact vs.len,vs.v8,q1,fun h=>?_,fun e he=>⟨hp e he,?_⟩,by grind⟩
  ·have h1:=aay h0;rw[cZ h,Int.zero_mul]at h1;rcases Int.mul_eq_zero.1 h1.symm with h2|h2
   ·exact vs.zn h2
   ·exact vt.zn h2
  ·have:=(Ek hp).2 e he;omega
 grind
theorem Ll{v:Int}{s:Rt}(vs:VT v s):∀ {ts r:List Rt},(∀t∈ts,VT v t/\aS s.exps+aS t.exps<=32)->oG s ts=some r->(∀x∈r,VT v x)/\r.length=ts.length
 |[],r,_,h=>by cases h;grind
 |t::ts,r,ht,h=>by
  unfold oG at h;rw[ayY]at h;obtain⟨x,h1,h2⟩:=h;rw[ay0]at h2;obtain⟨r2,h3,rfl⟩:=h2;obtain⟨g1,g2⟩:=Ll vs (fun y hy=>ht y γ) h3;have vx:=XL vs (ht t σ).1 (ht t σ).2 h1;grind
theorem TG{v:Int}:∀ {ss ts r:List Rt},(∀s∈ss,VT v s)->(∀t∈ts,VT v t)->(∀s∈ss,∀t∈ts,aS s.exps+aS t.exps<=32)->mO ss ts=some r->(∀x∈r,VT v x)/\r.length=ss.length*ts.length
 |[],ts,r,_,_,_,h=>by cases h;grind
 |s::ss,ts,r,vs,vt,hd,h=>by
  unfold mO at h;rw[ayY]at h;obtain⟨x,h1,h2⟩:=h;rw[ay0]at h2;obtain⟨r2,h3,rfl⟩:=h2;obtain⟨g1,g2⟩:=Ll (vs s σ) (fun t ht=>⟨vt t ht,hd s σ t ht⟩) h1;obtain⟨k1,k2⟩:=TG (fun y hy=>vs y γ) vt (fun y hy t ht=>hd y γ t ht) h3;grind
theorem akH{a b:List Int}(h:bX a b<0):aS a<=aS b:=by
 unfold bX at h;rcases oR (aS a) (aS b)with⟨g,e⟩| ⟨g,e⟩| ⟨g,e⟩<;>rw[e]at h
 all_goals omega
theorem Om{v:Int}:∀ {l:List Rt} {t q:Rt},Cl v l->l.getLast?=some q->t∈l->aS t.exps<=aS q.exps
 |[],t,q,_,h,_=>by grind
 |[x],t,q,_,h,ht=>by
  grind
 |x::y::l,t,q,c,h,ht=>by
  obtain⟨c1,c2,c3⟩:=c.cons;rcases List.mem_cons.1 ht with rfl|ht
  ·have h1:=akH (c2 y σ);have h2:=Om c3 h (t:=y) σ;omega
  ·exact Om c3 h ht
theorem aaz{a:Rp}(oa:OkP a)(h:vp a=true):∀t∈a.terms,aS t.exps<=gM a:=by
 intro t ht;unfold gM;rw[if_pos h];cases hg:a.terms.getLast? with
 |none=>
  grind
 |some q=>exact Om (jZ oa h).1 hg ht
theorem nu{a b:Rp}:yz a b=true↔vp a=true/\vp b=true/\a.vars=b.vars:=by
 grind[yz]
theorem aaA{v:Int}{t:Rt}(h:VT v t):VT v (y7 t):=by
 refine⟨⟨h.c.1,h.c.2⟩,h.len,h.v8,?_,h.nz,h.b,h.d⟩;have h1:=h.vc;have h2:=h.nz
 simp_all[vd,if_neg,y7]
structure Pv (v:Int) (a:Rp):Prop where
 v:a.vars=v
 p:vp a=true
 o:OkP a
theorem Pv.cl{v:Int}{a:Rp}(h:Pv v a):Cl v a.terms:=by
 have:=(jZ h.o h.p).1;rw[h.v]at this;omega
theorem XM{a b:Rp}(oa:OkP a)(ob:OkP b)(va:vp a=true)(vb:vp b=true)(h:¬ (a.terms.length≠0/\b.terms.length≠0/\32<gM a+gM b)):∀s∈a.terms,∀t∈b.terms,aS s.exps+aS t.exps<=32:=by
 intro s hs t ht;have h1:=aaz oa va s hs;have h2:=aaz ob vb t ht;grind
theorem P3:OkP p0:=⟨fun _ h=>by cases h⟩
theorem On{v:Int}{o:Option (List Rt)}(h:∀l,o=some l->Cl v l):OkP (pj v o).1:=by
 unfold pj;grind[P3,A6]
theorem ah1{a b:Rp}(oa:OkP a)(ob:OkP b):OkP (FG a b).1:=by
 unfold FG;split
 ·rename_i hp;obtain⟨va,vb,hv⟩:=nu.1 hp;obtain⟨ca,_⟩:=jZ oa va;obtain⟨cb,_⟩:=jZ ob vb;rw[←hv]at cb;exact On fun l hl=>(H2 (Cl.nil _) (fun t ht=>by
   rcases List.mem_append.1 ht with ht|ht
   ·exact ca.t t ht
   ·exact cb.t t ht) hl).1
 ·exact P3
theorem ah2{a b:Rp}(oa:OkP a)(ob:OkP b):OkP (FH a b).1:=by
 unfold FH;split
 ·rename_i hp;obtain⟨va,vb,hv⟩:=nu.1 hp;obtain⟨ca,_⟩:=jZ oa va;obtain⟨cb,_⟩:=jZ ob vb;rw[←hv]at cb;exact On fun l hl=>(H2 (Cl.nil _) (fun t ht=>by
   rcases List.mem_append.1 ht with ht|ht
   ·exact ca.t t ht
   ·obtain⟨q,hq,rfl⟩:=List.mem_map.1 ht;exact aaA (cb.t q hq)) hl).1
 ·exact P3
theorem ah3{a b:Rp}(oa:OkP a)(ob:OkP b):OkP (Dy a b).1:=by
 unfold Dy;split
 ·rename_i hp;obtain⟨va,vb,hv⟩:=nu.1 hp;split
  ·exact P3
  ·rename_i hd;have hf:=XM oa ob va vb hd;obtain⟨ca,_⟩:=jZ oa va;obtain⟨cb,_⟩:=jZ ob vb;rw[←hv]at cb;refine On fun l hl=>?_;rw[ayY]at hl;obtain⟨r,hr,hl⟩:=hl;exact(H2 (Cl.nil _) (TG ca.t cb.t hf hr).1 hl).1
 ·exact P3
theorem XN{a:AV}(h:aE a=true):fP a=[]:=by cases a<;>simp[aE]at h<;>rfl
theorem aaB{a:AV}(h:aE a=true)(l:List Nat):bo l a=true:=by cases a<;>simp[aE]at h<;>simp[bo,h]
theorem XO{a:AV}(h:aE a=true)(g:Nat->Nat):kr g a=a:=by cases a<;>simp[aE]at h<;>rfl
theorem Cd{α β:Type}{f:α->List β}:∀ {l:List α},(∀x∈l,f x=[])->l.flatMap f=[]
 |[],_=>rfl
 |x::l,h=>by
  simp_all
theorem H4{a:AV}(h:dat a=true):cr a=[]:=by
 cases a<;>simp only[dat]at h<;>first|exact XN h|skip
 ·exact Cd fun x hx=>XN (List.all_eq_true.1 h x hx)
 ·simp[aE]at h;obtain⟨rfl,rfl⟩:=h;rfl
theorem Lm{a:AV}(h:dat a=true)(l:List Nat):aZ l a=true:=by
 cases a<;>simp only[dat]at h<;>first|exact aaB h l|skip
 all_goals grind[aZ,azk,aaB,aE]
theorem H5{a:AV}(h:dat a=true)(g:Nat->Nat):dS g a=a:=by
 cases a<;>simp only[dat]at h<;>first|exact XO h g|skip
 ·rename_i cs;show AV.agg (cs.map (kr g))=_;rw[(azy (g:=fun c=>c) fun x hx=>XO (List.all_eq_true.1 h x hx) g).trans (azN cs)]
 ·simp[aE]at h;obtain⟨rfl,rfl⟩:=h;rfl
theorem P4{a:AV}(h:dat a=true)(hp:ac):dE hp 0 a=some (a,hp,[]):=by
 by_cases hagg:∃cs,a=.agg cs
 ·grind[dat,dE,xg,ng]
 ·have h2:aE a=true:=by cases a<;>first|exact h|exact absurd ⟨_,rfl⟩ hagg
  cases a<;>first| (simp[aE]at h2;done)|rfl|skip
theorem Mg(hp:ac):∀ {l:List AV},l.all dat=true->bS hp [] l=some (l,hp,[])
 |[],_=>rfl
 |a::l,h=>by
  simp only[azm,ay1]at h;simp only[bS,List.headD_nil,P4 h.1,ay2,List.tail_nil,Mg hp h.2,azb]
structure OC (o:Ob):Prop where
 cl:∀l,aA l o=true
 ids:oZ o=[]
 ren:∀g,dT g o=o
 nd:bY o=false
structure RT (r:AV):Prop where
 ren:∀g,GW g r=r
 mat:∀n h,mat n h r=(r,h)
 ok:∀l,jJ l r=true
theorem ah4(z:Int):RT (I z):=⟨fun _=>rfl,fun _ _=>rfl,fun _=>rfl⟩
theorem XP(b:Bool):RT (B b):=⟨fun _=>rfl,fun _ _=>rfl,fun _=>rfl⟩
theorem ur:∀l:List AV,sv [] l=[]
 |[]=>rfl
 |a::l=>by
  show(if(0:Nat)=2 then _ else [])++sv [] l=[];rw[ur l];rfl
theorem Je{f:FuncId}{h:ac}{d id:Nat}{zas as':List AV}{o o':Ob}{res:AV}(hm:(az false).m f=[])(hk:(az false).keep f=false)(hn:bp ((az false).sh f) (.ref id none 0 0 0::zas)=.ref id none 0 0 0::as')(hd:zas.all dat=true)(hd':as'.all dat=true)
  (hh:h id=o) (ho:OC o) (ho':OC o') (hb:bf o=true->bf o'=true) (hR:R f (.ref 1000 none 0 0 0::as') [o]=some (res,[o'])) (hr:RT res) (h8:cF res<=8) (hfr:cB h (2000+8*d) (cF res)=true):
  bE R (az false) h d (.ref id none 0 0 0::zas) (.fn f [] [])=some (res,upd h id o',[(id,true)]):=by
 have h1:bS h [] (.ref id none 0 0 0::zas)=some (.ref id none 0 0 0::zas,h,[]):=by
  simp only[bS,dE,ay2,List.tail_nil,Mg h hd,azb]
 have hp:bA [] ((AV.ref id none 0 0 0::zas).flatMap cr)=[id]:=by
  rw[List.flatMap_cons,Cd fun x hx=>H4 (List.all_eq_true.1 hd x hx)];rfl
 have hre:ce h 40 [id] 0=[id]:=by
  simp[ce,hh,ho.ids,bA]
 have h3:bj [id] id=1000:=by simp[bj]
 have hall:(AV.ref id none 0 0 0::as').all (aZ [id])=true:=by
  grind[aZ,bo,Lm]
 have hmap:(AV.ref id none 0 0 0::as').map (dS (bj [id]))=.ref 1000 none 0 0 0::as':=by
  rw[azv,(azy (g:=fun c=>c) fun x hx=>H5 (List.all_eq_true.1 hd' x hx) _).trans (azN as')];grind[dS,kr]
 have hob:([id].map fun a=>dT (bj [id]) (h a))=[o]:=by simp[hh,ho.ren]
 have hids:([id].all fun a=>aA [id] (h a)&&!bY (h a))=true:=by simp[hh,ho.cl,ho.nd]
 unfold bE;rw[if_neg (by grind[kt])];simp only[dV,hm,ay8,azb,h1,ay2,hp,hre,hn];unfold jK;rw[hall,hids,hmap,hob,hR,azs,if_pos rfl,ay2,hk,hm,ur];unfold eG;have hbf:cU h [] [id] [o']=true:=by
  have:=ho'.nd;grind[bf,cU]
 have hend:mQ h [id] [] (res,[o'])=true:=by
  simp[mQ,Bp,hr.ok,ho'.cl]
 rw[if_pos ⟨rfl,by simp,h8,hfr,hbf,hend⟩];simp[ej,fT,hr.mat,hr.ren,ho'.ren]
theorem dB{f:FuncId}{h:ac}{d id:Nat}{zas:List AV}{r:Option R3}(hm:(az false).m f=[])(hd:zas.all dat=true)(hc:bE R (az false) h d (.ref id none 0 0 0::zas) (.fn f [] [])=r):IJ R (az false) d f (.ref id none 0 0 0::zas,h,[])=r:=by
 have h1:bS h [] (.ref id none 0 0 0::zas)=some (.ref id none 0 0 0::zas,h,[]):=by
  simp only[bS,dE,ay2,List.tail_nil,Mg h hd,azb]
 rw[IK d hm,h1]at hc;exact hc
theorem lA{v e:Int}{c:AV}{l:List Rt}(hc:mN c l):OC (t3 v c e):=by
 rcases hc with rfl| ⟨rfl,_⟩
 ·exact⟨fun l=>rfl,rfl,fun g=>rfl,rfl⟩
 ·exact⟨fun l=>rfl,rfl,fun g=>rfl,rfl⟩
theorem ah5:RT (.tup []):=⟨fun _=>rfl,fun _ _=>rfl,fun _=>rfl⟩
theorem qw{v e e':Int}{c c':AV}{l l':List Rt}{h:ac}{d id:Nat}{x:List Int}{q:Rd}(hh:h id=t3 v c e)(hc:mN c l)(hc':mN c' l')(hR:R F.poly_collector_add [.ref 1000 none 0 0 0,.sl 1 (aI x),af q] [t3 v c e]=some (.tup [],[t3 v c' e'])):
  bE R (az false) h d [.ref id none 0 0 0,.sl 1 (aI x),af q] (.fn F.poly_collector_add [] [])=some (.tup [],upd h id (t3 v c' e'),[(id,true)]):=
 Je (aQ.1.2.1 false) (aQ.1.2.2.2 false) (as':=[.sl 1 (aI x),af q]) (by simp only[af,ak,go_sem]) rfl rfl hh (lA hc) (lA hc') (fun _=>rfl) hR ah5 δ rfl
theorem Ce{v:Int}:R F.poly_empty [I v] []=some (.obx [I v,.emp,I 0],[]):=by
 refine av Wv rfl ?_;rfl
theorem aqi(r:Rp×Int):RT (pV r):=⟨fun _=>rfl,fun _ _=>rfl,fun _=>rfl⟩
theorem uY{h:ac}{o:Ob}{rs:List (List Sh)}{vs us:List AV}{r:AV}(h0:((vs.flatMap cr).filter fun i=>!bk i)=[])(h1:h 1000=o)(ho:aA [1000] o=true)(h2:uH h vs=some us)(h3:uI (bp rs us)=r):uv rs 1 h vs=some (r,[o]):=by
 have hp:de 1=[1000]:=rfl;unfold uv;rw[h0,hp,h2,if_pos (by grind[kH])];grind
theorem yf(x:Value):jC (.v x)=.v x:=rfl
theorem wn(k:Nat)(r:List (List AV)):jC (.osl k r)=.sl k r:=rfl
theorem Cf:jC .emp=.emp:=rfl
theorem ano{v e:Int}{l:List Rt}:uI (bp [[.o 0 [],.o 5 [.o 2 [],.o 0 [],.o 2 [],.o 0 []]],[]] [.agg [I v,.sl 4 (aD l)],I e])=pV (⟨v,l⟩,e):=by
 have h:=Eh l;show AV.tup [.agg [I v,.sl 4 ((aD l).map _)],I e]=_;rw[h];rfl
theorem ah6{v e:Int}{c:AV}{l:List Rt}(hc:mN c l)(he:e≠0):R F.poly_collector_done [.ref 1000 none 0 0 0] [t3 v c e]=some (pV (p0,e),[t3 v c e]):=by
 refine xd bt.2.1 bt.2.2 (bt.1.2.2.2 false) rfl ?_;have e1:(e=0)=False:=ff he;simp only[fG,jo,t3,go_sem,e1];exact uY rfl (by rfl) ((lA hc).cl _) (by rfl) (by rfl)
theorem ah7{v:Int}{l:List Rt}:R F.poly_collector_done [.ref 1000 none 0 0 0] [t3 v (.osl 4 (aD l)) 0]=some (pV (pj v (some l)),[if 500<l.length then t3 v (.osl 4 (aD l)) 0 else .bx [I v,.sl 4 (aD l),I 0]]):=by
 refine xd bt.2.1 bt.2.2 (bt.1.2.2.2 false) rfl ?_;unfold pj;by_cases h:500<l.length
 ·have e1:(500< (l.length:Int))=True:=tt;simp only[if_pos h];simp only[fG,jo,t3,go_sem,e1];exact uY rfl (by rfl) rfl (by rfl) (by rfl)
 ·have e1:(500< (l.length:Int))=False:=ff;simp only[if_neg h];simp only[fG,jo,t3,go_sem,e1,yf,wn];exact uY rfl (by rfl) rfl (by rfl) ano
theorem ah8{v:Int}:R F.poly_collector_done [.ref 1000 none 0 0 0] [t3 v .emp 0]=some (pV (pj v (some [])),[t3 v .emp 0]):=by
 refine xd bt.2.1 bt.2.2 (bt.1.2.2.2 false) rfl ?_;have e1:((500:Int)<0)=False:=ff δ;simp only[fG,jo,t3,go_sem,e1];exact uY rfl (by rfl) rfl (by rfl) (by rfl)
theorem C1{v e:Int}{c:AV}{l:List Rt}{h:ac}{d id:Nat}(hh:h id=t3 v c e)(hc:mN c l)(hf:cB h (2000+8*d) 2=true):
  ∃o,bE R (az false) h d [.ref id none 0 0 0] (.fn F.poly_collector_done [] [])=some (pV (if e=0 then pj v (some l)else(p0,e)),upd h id o,[(id,true)]):=by
 have key:∃o,OC o/\bf o=true/\R F.poly_collector_done [.ref 1000 none 0 0 0] [t3 v c e]=some (pV (if e=0 then pj v (some l)else(p0,e)),[o]):=by
  by_cases he:e=0
  ·subst he;rcases hc with rfl| ⟨rfl,rfl⟩
   ·refine⟨_,?_,?_,ah7⟩
    ·split
     ·exact lA (.inl rfl)
     ·exact⟨fun l=>rfl,rfl,fun g=>rfl,rfl⟩
    ·split<;>rfl
   ·exact⟨_,lA (.inr ⟨rfl,rfl⟩),rfl,ah8⟩
  ·rw[if_neg he];exact⟨_,lA hc,rfl,ah6 hc he⟩
 obtain⟨o,h1,h2,h3⟩:=key;exact⟨o,Je (bt.1.2.1 false) (bt.1.2.2.2 false) (as':=[]) (by rfl) rfl rfl hh (lA hc) h1 (fun _=>h2) h3 (aqi _) (by show 2<=8;decide) hf⟩
theorem R9{a b:Rp}(oa:OkP a)(ob:OkP b):R F.poly_pair [be a,be b] []=some (B (yz a b),[]):=by
 refine av Zh rfl ?_;have h1:=wl oa;have h2:=wl ob;simp only[be]at h1 h2;unfold yz;cases ha:vp a with
 |false=>
  rw[ha]at h1;simp only[vH,CA,be,go_sem,h1]
 |true=>
  rw[ha]at h1;cases hb:vp b with
  |false=>
   rw[hb]at h2;simp only[vH,CA,be,go_sem,h1,h2]
  |true=>
   rw[hb]at h2;simp only[vH,CA,be,go_sem,h1,h2]
structure ColE (v:Int) (l ts:List Rt) (e:Int) (c':AV) (l':List Rt) (e':Int):Prop where
 c:mN c' l'
 r:(e'=0/\e=0/\j5 l ts=some l')\/(e'=9/\(e=0->j5 l ts=none))
theorem ColE.fin{v:Int}{ts:List Rt}{c':AV}{l':List Rt}{e':Int}(h:ColE v [] ts 0 c' l' e'):(if e'=0 then pj v (some l')else(p0,e'))=pj v (j5 [] ts):=by
 rcases h.r with⟨h1,_,h2⟩| ⟨h1,h2⟩
 ·rw[if_pos h1,h2]
 ·rw[h1,if_neg δ,h2 rfl];rfl
theorem ColE.step{v:Int}{l ts:List Rt}{t:Rt}{c:AV}(hc:mN c l){e:Int}(he:e=0\/e=9)(hC:e=0->Cl v l/\l.length+ts.length+1<=1000000)(vt:VT v t){v':Int}:
  ∃c1 l1 e1,R F.poly_collector_add [.ref 1000 none 0 0 0,.sl 1 (aI t.exps),af t.c] [t3 v' c e]=some (.tup [],[t3 v' c1 e1])/\mN c1 l1/\(e1=0\/e1=9)/\(e1=0->Cl v l1/\l1.length+ts.length<=1000000)/\∀c' l' e',ColE v l1 ts e1 c' l' e'->ColE v l (t::ts) e c' l' e':=by
 rcases he with rfl|rfl
 ·obtain⟨h1,h2⟩:=hC rfl;obtain⟨c1,l1,e1,g1,g2,g3⟩:=R8 (v':=v') h1 vt ω hc;refine⟨c1,l1,e1,g1,g2,?_,fun h0=>?_,fun c' l' e' h=>⟨h.c,?_⟩⟩
  ·omega
  ·rcases g3 with⟨_,g⟩| ⟨g,_⟩
   ·have:=Jc g;exact⟨(Me h1 vt g).1,by omega⟩
   omega
  ·rcases g3 with⟨g,k⟩| ⟨g,k,_⟩
   ·rcases h.r with⟨q1,_,q2⟩| ⟨q1,q2⟩
    ·unfold j5;grind
    ·unfold j5;grind
   ·rcases h.r with⟨_,q1,_⟩| ⟨q1,_⟩
    ·omega
    ·unfold j5;grind
 ·refine⟨c,l,9,XH hc δ,hc,.inr rfl,fun h=>by omega,fun c' l' e' h=>⟨h.c,?_⟩⟩;rcases h.r with⟨_,q1,_⟩| ⟨q1,_⟩
  all_goals omega
theorem aff{v v':Int}{T:List Rt}(hT:∀t∈T,VT v t)(hn:T.length<=100000):∀ (k i:Nat),i+k=T.length->∀ (c:AV) (l:List Rt) (e:Int),mN c l->(e=0\/e=9)->(e=0->Cl v l/\l.length+k<=1000000)->
  ∀ (s:ai) (h:ac),s 4=.ref 4 none 0 0 0->s 6=.ref 2128 none 0 0 0->s 22=.sl 4 (aD T)->s 23=I T.length->s 24=I i->h 4=.bx [I 0,.emp]->h 2128=t3 v' c e->
  ∃hh c' l' e',ah 0 [4,6] (aq (aj R (az false) tM) [4,6,22,23,24] [4,2128] s h)=some (.normal,⟨upd (upd (fun _=>.any) 6 (.ref 2128 none 0 0 0)) 4 (.ref 4 none 0 0 0),hh⟩)/\
   hh 4=.bx [I 0,.emp]/\hh 2128=t3 v' c' e'/\(∀a,a≠4->a≠2128->hh a=.dead)/\ColE v l (T.drop i) e c' l' e':=by
 intro k;induction k with
 |zero=>
  intro i hi c l e hc he hC s h h4 h6 h22 h23 h24 k4 k6;have e1:((i:Int)<T.length)=False:=ff;have ho:=(lA (v:=v') (e:=e) hc).cl [4,2128];rw[ag];refine⟨?hh0,c,l,e,?_,?_,?_,?_,?_⟩;rotate_left
  ·simp only[tM,go_sem,h4,h6,h22,h23,h24,k4,k6,ho,e1];rfl
  ·rfl
  ·rfl
  ·simp_all[cj,if_false]
  ·rw[azi ω];refine⟨hc,?_⟩;rcases he with rfl|rfl
   ·exact .inl ⟨rfl,rfl,rfl⟩
   omega
 |succ k ih=>
  intro i hi c l e hc he hC s h h4 h6 h22 h23 h24 k4 k6;have hlt:i<T.length:=ω
  have e1:((i:Int)<T.length)=True:=tt;have e2:aU (aD T) (i:Int)=some (.ipt (bV T[i])):=gy rfl (List.getElem?_eq_getElem hlt);have e5:IntKind.i64.wrap ((i:Int)+1)=((i+1:Nat):Int):=wi;have ho:=(lA (v:=v') (e:=e) hc).cl [4,2128];have hdl:(T.drop (i+1)).length=k:=γ
  obtain⟨c1,l1,ee,g1,g2,g3,g4,g5⟩:=ColE.step (ts:=T.drop (i+1)) hc he (fun h=>by grind) (hT _ (azo hlt)) (v':=v');rw[hdl]at g4;have ih':=ih (i+1) ω c1 l1 ee g2 g3 g4;rw[azj hlt,ag];have hcall:=fun(h:ac) (hh:h 2128=t3 v' c e) (d:Nat)=>dB (aQ.1.2.1 false) rfl (qw (d:=d) hh hc g2 g1);simp only[af,ak]at hcall;simp only[bV]at e2;simp only[tM,go_sem,h4,h6,h22,h23,h24,k4,k6,ho,e1,e2];rw[hcall _ rfl];simp only[go_sem,e5];refine(ih' _ _ ?_ ?_ ?_ ?_ ?_ ?_ ?_).imp fun hh ⟨c',l',e',q1,q2,q3,q4,q5⟩=>⟨c',l',e',q1,q2,q3,q4,g5 _ _ _ q5⟩
  all_goals rfl
theorem aaC:QF .emp=some (I 0):=rfl
theorem XQ(h:ac):Ir h .emp=h:=rfl
theorem ac8:dH 4 .emp none (some (I 0)) none=some .emp:=rfl
theorem ah9{h:ac}{d:Nat}{z:List AV}{n:Nat}(h0:0<n)(h1:n<=1000000):F1 h d 4 64 z .emp (I n)=cR h d 4 (ayW n z) n []:=by
 simp only[F1];grind
theorem aia:R F.slices_Grow_api_Term_api_Term_ [.emp,I 0] []=some (.emp,[]):=by
 refine av oB rfl ?_;have e1:((0:Int)<0)=False:=ff δ;have w1:IntKind.i64.wrap ((0:Int)-0)=0:=δ
 simp only[eZ,jh,go_sem,e1,w1,aaC,XQ]
theorem aib{n:Nat}(h0:0<n)(h1:n<=1000000):R F.slices_Grow_api_Term_api_Term_ [.emp,I n] []=some (.osl 4 [],[]):=by
 refine av oB rfl ?_;have e1:((n:Int)<0)=False:=ff;have e2:(0< (n:Int))=True:=tt;have w0:IntKind.i64.wrap ((0:Int)-0)=0:=δ
 have w1:IntKind.i64.wrap ((n:Int)-0)=(n:Int):=wi;have e5:dH 4 (.rsl 22 none 4 0 n) none (some (I 0)) none=some (.rsl 22 none 4 0 0):=by
  simp[dH,jH,kG]
 have e4:=fun h d z=>ah9 (h:=h) (d:=d) (z:=z) h0 h1;simp only[eZ,jh,go_sem,e1,e2,e4,w0,w1,aaC,XQ,ac8,e5,List.take_zero]
 done
theorem afg{a b:List Rt}(ha:a.length<=100000)(hb:b.length<=100000):R F.slices_Concat_api_Term_api_Term_ [.sl 1 [[.sl 4 (aD a)],[.sl 4 (aD b)]]] []=some (.sl 4 (aD (a++b)),[]):=by
 refine av xM rfl ?_;have w1:IntKind.i64.wrap ((0:Int)+(a.length:Int))=(a.length:Int):=wi;have w2:IntKind.i64.wrap ((a.length:Int)+(b.length:Int))=((a.length+b.length:Nat):Int):=wi;have e1:((a.length:Int)<0)=False:=ff;have e2:(((a.length+b.length:Nat):Int)<0)=False:=ff;have c1:((0:Int)< ((0+1+1:Nat):Int))=True:=tt δ;have c2:((1:Int)< ((0+1+1:Nat):Int))=True:=tt δ;have c3:((2:Int)< ((0+1+1:Nat):Int))=False:=ff δ;have r0:aU [[AV.sl 4 (aD a)],[.sl 4 (aD b)]] 0=some (.ipt [.sl 4 (aD a)]):=rfl;have r1:aU [[AV.sl 4 (aD a)],[.sl 4 (aD b)]] 1=some (.ipt [.sl 4 (aD b)]):=rfl;have i1:IntKind.i64.wrap ((0:Int)+1)=1:=δ
 have i2:IntKind.i64.wrap ((1:Int)+1)=2:=δ
 simp only[gW,mJ,go_sem,azp,azx];rw[ag];simp only[kZ,go_sem,c1,r0,w1,e1,i1];rw[ag];simp only[go_sem,c2,r1,w2,e2,i2];rw[ag];simp only[go_sem,c3];by_cases hz:a.length+b.length=0
 ·have ea:a=[]:=List.length_eq_zero_iff.1 ω;have eb:b=[]:=List.length_eq_zero_iff.1 ω;subst ea eb;have hg:=aia;have a0:∀h d,Nv h d 4 64 .emp (.sl 4 [])=some (.emp,h,[]):=fun h d=>rfl;have hcr:lM (fun _=>.dead) 24 (some (.emp,[]))=some (.emp,fun _=>.dead,[]):=rfl;rw[show aD []=[]from rfl]at*
  simp only[go_sem,hg,hcr,azx,azA,azC];rw[ag];simp only[gk,go_sem,c1,r0,i1,a0];rw[ag];simp only[go_sem,c2,r1,i2,a0];rw[ag];rfl
 ·have hg:=aib (n:=a.length+b.length) ω ω;have b1:(a.length*64<=140737488355328)=True:=tt;have b2:((a.length+b.length)*64<=140737488355328)=True:=tt;simp only[go_sem,hg,azx];rw[ag];simp only[gk,go_sem,c1,r0,i1,b1,or_true,ayX,ay8,azx];rw[ag];simp only[go_sem,c2,r1,i2,b2,or_true];rw[ag];simp only[go_sem,c3,ayX];have hl:(aD a++aD b).length=a.length+b.length:=by grind[azr,nO]
  have hab:aD a++aD b=aD (a++b):=by simp[aD]
  rw[hl,if_pos (ayZ _),if_pos rfl,hab];have h:=Eh (a++b);show some (AV.sl 4 ((aD (a++b)).map _),[])=_;rw[h]
theorem qx(h:ac)(d:Nat)(v:Int):lM h d (some (.obx [I v,.emp,I 0],[]))=if bY (h (2000+8*d))=true then some (.ref (2000+8*d) none 0 0 0,upd h (2000+8*d) (.bx [I v,.emp,I 0]),[])else none:=by
 simp[lM,cF,cB,jJ,fC,mP,aE,bm,mat,dU]
theorem anp{v v':Int}{T:List Rt}(hT:∀t∈T,VT v t)(hn:T.length<=100000)(s:ai)(h:ac)(X:Option (Ex×St))(hX:ah 0 [4,6] (aq (aj R (az false) tM) [4,6,22,23,24] [4,2128] s h)=X)(h4:s 4=.ref 4 none 0 0 0)(h6:s 6=.ref 2128 none 0 0 0)(h22:s 22=.sl 4 (aD T))(h23:s 23=I T.length)(h24:s 24=I 0)(k4:h 4=.bx [I 0,.emp])(k6:h 2128=t3 v' .emp 0):
  ∃hh c' l' e',X=some (.normal,⟨upd (upd (fun _=>.any) 6 (.ref 2128 none 0 0 0)) 4 (.ref 4 none 0 0 0),hh⟩)/\
   hh 4=.bx [I 0,.emp]/\hh 2128=t3 v' c' e'/\(∀a,a≠4->a≠2128->hh a=.dead)/\ColE v [] T 0 c' l' e':=by
 subst hX;exact aff hT hn T.length 0 (ayX _) .emp [] 0 (.inr ⟨rfl,rfl⟩) (.inl rfl) (fun _=>⟨Cl.nil _,by grind⟩) s h h4 h6 h22 h23 h24 k4 k6
theorem aaD{a b:Rp}(oa:OkP a)(ob:OkP b):R F.poly_Add [be a,be b] []=some (pV (FG a b),[]):=by
 refine av acC rfl ?_;have hp:=R9 oa ob;simp only[be]at hp;unfold FG;cases hb:yz a b with
 |false=>
  rw[hb]at hp;simp only[CC,IR,be,go_sem,hp];rfl
 |true=>
  rw[hb]at hp;obtain⟨va,vb,hv⟩:=nu.1 hb;obtain⟨ca,a0,a8,al⟩:=jZ oa va;obtain⟨cb,b0,b8,bl⟩:=jZ ob vb;rw[←hv]at cb;have hT:∀t∈a.terms++b.terms,VT a.vars t:=fun t ht=>by
   rcases List.mem_append.1 ht with ht|ht
   ·exact ca.t t ht
   ·exact cb.t t ht
  have hemp:=Ce (v:=a.vars);have hcat:=afg (a:=a.terms) (b:=b.terms) ω ω;have hl:=anp (v':=a.vars) hT γ;simp only[CC,IR,be,go_sem,hp,hemp,qx,hcat,azp,azx];generalize hX:ah 0 [4,6] _=X;obtain⟨hh,c',l',e',rfl,q2,q3,q4,q5⟩:=hl _ _ _ hX rfl rfl rfl rfl rfl rfl rfl;obtain⟨o,hd⟩:=C1 (d:=36) q3 q5.c (by grind[cB,bY]);have hd':=dB (bt.1.2.1 false) rfl hd;rw[q5.fin]at hd';simp only[pV,be,go_sem,q2,hd']
theorem akI{v:Int}{t:Rt}(vt:VT v t):R F.dyadic_Neg [af t.c] []=some (af (y7 t).c,[]):=by
 have h:=Fr vt.c;have hvc:=vt.vc;rw[if_neg (by rw[hvc];exact fun h=>h.elim (fun h=>by cases h) vt.nz)]at h;exact h
def t2(v:Int)(c:AV):Ob:=.bx [I v,c]
theorem ajo{v:Int}{c:AV}{l:List Rt}(hc:mN c l)(ids:List Nat):aA ids (t2 v c)=true:=by
 rcases hc with rfl| ⟨rfl,_⟩<;>rfl
theorem afh{v v':Int}{a:Rp}{T:List Rt}(hT:∀t∈T,VT v t)(hn:T.length<=100000){o3:Ob}(ho3:aA [2,3,4,6] o3=true):∀ (k i:Nat),i+k=T.length->∀ (c:AV),mN c ((T.take i).map y7)->
  ∀ (s:ai) (h:ac),s 2=.ref 2 none 0 0 0->s 4=.ref 4 none 0 0 0->s 6=.ref 6 none 0 0 0->s 18=.sl 4 (aD T)->s 19=I T.length->s 20=I i->h 2=.bx [I a.vars,.sl 4 (aD a.terms)]->h 3=o3->h 4=.bx [I 0,.emp]->h 6=t2 v' c->
  ∃hh c',ah 0 [2,4,6] (aq (aj R (az false) pq) [2,4,6,18,19,20] [2,3,4,6] s h)=some (.normal,⟨upd (upd (upd (fun _=>.any) 6 (.ref 6 none 0 0 0)) 4 (.ref 4 none 0 0 0)) 2 (.ref 2 none 0 0 0),hh⟩)/\
   hh 2=.bx [I a.vars,.sl 4 (aD a.terms)]/\hh 4=.bx [I 0,.emp]/\hh 6=t2 v' c'/\(∀a,a≠2->a≠3->a≠4->a≠6->hh a=.dead)/\mN c' (T.map y7):=by
 intro k;induction k with
 |zero=>
  intro i hi c hc s h h2 h4 h6 h18 h19 h20 k2 k3 k4 k6;have e1:((i:Int)<T.length)=False:=ff;rw[azg ω]at hc;have ho:=ajo (v:=v') hc [2,3,4,6];rw[ag];refine⟨?hh0,c,?_,?_,?_,?_,?_,hc⟩;rotate_left
  ·simp only[pq,go_sem,h2,h4,h6,h18,h19,h20,k2,k3,k4,k6,ho,ho3,e1];rfl
  ·rfl
  ·rfl
  ·rfl
  ·intro a a1 a2 a3 a4;simp only[cj,a1,a2,a3,a4,if_false]
 |succ k ih=>
  intro i hi c hc s h h2 h4 h6 h18 h19 h20 k2 k3 k4 k6;have hlt:i<T.length:=ω
  have e1:((i:Int)<T.length)=True:=tt;have e2:aU (aD T) (i:Int)=some (.ipt (bV T[i])):=gy rfl (List.getElem?_eq_getElem hlt);have e5:IntKind.i64.wrap ((i:Int)+1)=((i+1:Nat):Int):=wi;have hng:=akI (hT _ (azo hlt));have ho:=ajo (v:=v') hc [2,3,4,6];have ih':=ih (i+1) ω;rw[List.take_succ_eq_append_getElem hlt,List.map_append,List.map_singleton]at ih';have hlen:((T.take i).map y7).length=i:=by rw[azW,azd];omega
  generalize T[i]=t at e2 hng ih';generalize(T.take i).map y7=l at hc ih' hlen;rw[ag];generalize aq _ _ _=L at ih'⊢;simp only[af,ak,y7]at hng;simp only[bV]at e2;rcases hc with rfl| ⟨rfl,rfl⟩
  ·simp only[t2]at k6;have b1:((l.length+1)*64<=140737488355328)=True:=tt;simp only[pq,go_sem,h2,h4,h6,h18,h19,h20,k2,k3,k4,k6,ho3,e1,e2,hng,b1,true_or];rw[if_pos (by rfl),iZ rfl (by rw[azr,nO];rfl) rfl δ (by show 1<2;decide)];simp only[go_sem,e5];refine(ih' (.osl 4 (aD l++[[.sl 1 (aI t.exps),B (!t.c.neg),lm t.c.m,I t.c.e]])) (.inl ?_) _ _ ?_ ?_ ?_ ?_ ?_ ?_ ?_ ?_ ?_ ?_).imp fun hh ⟨c',q⟩=>⟨c',q⟩
   ·simp[aD,bV,y7]
   all_goals rfl
  ·simp only[t2]at k6;simp only[pq,go_sem,h2,h4,h6,h18,h19,h20,k2,k3,k4,k6,ho3,e1,e2,hng];rw[if_pos (by rfl),iZ rfl (show 1=List.length [[AV.sl 1 (aI t.exps),B (!t.c.neg),lm t.c.m,I t.c.e]]from rfl) rfl δ (by show 1<2;decide)];simp only[go_sem,e5];refine(ih' (.osl 4 [[.sl 1 (aI t.exps),B (!t.c.neg),lm t.c.m,I t.c.e]]) (.inl ?_) _ _ ?_ ?_ ?_ ?_ ?_ ?_ ?_ ?_ ?_ ?_).imp fun hh ⟨c',q⟩=>⟨c',q⟩
   all_goals rfl
theorem anq{v v':Int}{a:Rp}{T:List Rt}(hT:∀t∈T,VT v t)(hn:T.length<=100000){o3:Ob}(ho3:aA [2,3,4,6] o3=true)(s:ai)(h:ac)(X:Option (Ex×St))(hX:ah 0 [2,4,6] (aq (aj R (az false) pq) [2,4,6,18,19,20] [2,3,4,6] s h)=X)
  (h2:s 2=.ref 2 none 0 0 0) (h4:s 4=.ref 4 none 0 0 0) (h6:s 6=.ref 6 none 0 0 0) (h18:s 18=.sl 4 (aD T)) (h19:s 19=I T.length) (h20:s 20=I 0) (k2:h 2=.bx [I a.vars,.sl 4 (aD a.terms)]) (k3:h 3=o3) (k4:h 4=.bx [I 0,.emp]) (k6:h 6=.bx [I v',.emp]):
  ∃hh c',X=some (.normal,⟨upd (upd (upd (fun _=>.any) 6 (.ref 6 none 0 0 0)) 4 (.ref 4 none 0 0 0)) 2 (.ref 2 none 0 0 0),hh⟩)/\
   hh 2=.bx [I a.vars,.sl 4 (aD a.terms)]/\hh 4=.bx [I 0,.emp]/\hh 6=t2 v' c'/\(∀a,a≠2->a≠3->a≠4->a≠6->hh a=.dead)/\mN c' (T.map y7):=by
 subst hX;exact afh hT hn ho3 T.length 0 (ayX _) .emp (.inr ⟨rfl,rfl⟩) s h h2 h4 h6 h18 h19 h20 k2 k3 k4 k6
theorem akJ{a b:Rp}(_oa:OkP a)(ob:OkP b)(h:yz a b=true):OkP ⟨b.vars,b.terms.map y7⟩/\FG a ⟨b.vars,b.terms.map y7⟩=FH a b:=by
 obtain⟨va,vb,hv⟩:=nu.1 h;obtain⟨cb,b0,b8,bl⟩:=jZ ob vb;have hp:∀l:List Rt,Cl b.vars l->Cl b.vars (l.map y7):=by
  intro l;induction l with
  |nil=>exact fun c=>c
  |cons t l ih=>
   intro c;obtain⟨c1,c2,c3⟩:=c.cons;refine Cl.mk' (aaA c1) (fun x hx=>?_) (ih c3);obtain⟨q,hq,rfl⟩:=List.mem_map.1 hx;exact c2 q hq
 have hn:=hp _ cb;refine⟨A6 hn,?_⟩;have h2:yz a ⟨b.vars,b.terms.map y7⟩=true:=nu.2 ⟨va,U0 hn b0 b8 (by rw[azW];exact bl),hv⟩;unfold FG FH;rw[if_pos h2,if_pos h]
theorem akK{a b:Rp}(oa:OkP a)(ob:OkP b):R F.poly_Sub [be a,be b] []=some (pV (FH a b),[]):=by
 refine av acB rfl ?_;have hp:=R9 oa ob;simp only[be]at hp;cases hb:yz a b with
 |false=>
  rw[hb]at hp;unfold FH;rw[hb,if_neg ay9];simp only[CB,IQ,be,go_sem,hp];rfl
 |true=>
  rw[hb]at hp;obtain⟨va,vb,hv⟩:=nu.1 hb;obtain⟨cb,b0,b8,bl⟩:=jZ ob vb;obtain⟨on,e1⟩:=akJ oa ob hb;have hadd:=aaD oa on;rw[e1]at hadd;have hl:=anq (v':=b.vars) (a:=a) (T:=b.terms) cb.t ω (o3:=.bx [I b.vars,.sl 4 (aD b.terms)]) rfl;simp only[CB,IQ,be,go_sem,hp];generalize hX:ah 0 [2,4,6] _=X;obtain⟨hh,c',rfl,q2,q3,q4,q5,q6⟩:=hl _ _ _ hX rfl rfl rfl rfl rfl rfl rfl rfl rfl rfl;have d1:hh 2304=.dead:=q5 _ δ δ δ δ;have d2:hh 2305=.dead:=q5 _ δ δ δ δ;generalize FH a b=r at hadd⊢;obtain⟨r1,r2⟩:=r;simp only[pV,be]at hadd;rcases q6 with rfl| ⟨rfl,q6⟩
  ·simp only[t2]at q4;simp only[pV,be,go_sem,q2,q3,q4,d1,d2,yf,wn,hadd]
  ·simp only[t2]at q4;rw[q6]at hadd;rw[show aD []=[]from rfl]at hadd;simp only[pV,be,go_sem,q2,q3,q4,d1,d2,hadd]
theorem XR(l:List Rt)(n:Nat):(aD l).take n=aD (l.take n):=by simp[aD,List.map_take]
theorem aic(l:List Rt)(n:Nat):(aD l).drop n=aD (l.drop n):=by simp[aD,List.map_drop]
theorem Cg(l r:List Rt):aD l++aD r=aD (l++r):=by simp[aD]
theorem anr{l:List Rt}{p:Nat}(h:p<=l.length):dH 4 (.sl 4 (aD l)) none (some (I p)) none=some (.sl 4 (aD (l.take p))):=by
 simp only[dH,if_true,jH,nO,FF h,Fl,ay2,azE,Hn,if_neg ay9,azZ,Nat.sub_zero,XR]
theorem afi{l:List Rt}{p:Nat}(h:p<=l.length):dH 4 (.sl 4 (aD l)) (some (I p)) none none=some (.sl 4 (aD (l.drop p))):=by
 simp only[dH,if_true,jH,nO,FF h,Fl,ay2,azE,Hn,if_neg ay9,XR,aic];rw[azg (by rw[azQ];omega)]
theorem Jf{v:Int}{q t:Rt}(vq:VT v q)(vt:VT v t):R F.r23_Compare [.sl 1 (aI q.exps),.sl 1 (aI t.exps)] []=some (I (bX q.exps t.exps),[]):=XB vq.sm vt.sm (vq.l2 vt)
theorem aid{v:Int}{l:List Rt}{t:Rt}(c:Cl v l)(vt:VT v t)(hl:l.length<=1000000):∀ (k i:Nat),i+k=bv l t.exps->∀ (s:ai) (h:ac),s 0=.sl 4 (aD l)->s 3=.ref 3 none 0 0 0->s 6=I i->h 3=.bx (bV t)->
  ah 0 [0,3,6] (aq (aj R (az false) nS) [0,3,6] [3] s h)=some (.normal,⟨upd (upd (upd (fun _=>.any) 6 (I (bv l t.exps))) 3 (.ref 3 none 0 0 0)) 0 (.sl 4 (aD l)),upd (fun _=>.dead) 3 (.bx (bV t))⟩):=by
 intro k;induction k with
 |zero=>
  intro i hi s h h0 h3 h6 k3;obtain rfl:i=bv l t.exps:=ω
  rw[ag];simp only[bV]at k3;cases hq:l[bv l t.exps]? with
  |none=>
   have:l.length<=bv l t.exps:=List.getElem?_eq_none_iff.1 hq;have e1:((bv l t.exps:Int)< (l.length:Int))=False:=ff;simp only[nS,bV,go_sem,h0,h3,h6,k3,e1]
  |some q=>
   have hlt:=(List.getElem?_eq_some_iff.1 hq).1;have e1:((bv l t.exps:Int)< (l.length:Int))=True:=tt;have e2:aU (aD l) (bv l t.exps:Int)=some (.ipt (bV q)):=gy rfl hq;have hc:=Jf (c.t q (List.mem_of_getElem? hq)) vt;have e3:(bX q.exps t.exps<0)=False:=ff (by have:=Md hq;omega);simp only[bV]at e2;simp only[nS,bV,go_sem,h0,h3,h6,k3,e1,e2,hc,e3]
 |succ k ih=>
  intro i hi s h h0 h3 h6 k3;have hle:=H1 l t.exps;have hlt:i<l.length:=ω
  have e1:((i:Int)< (l.length:Int))=True:=tt;have hq:l[i]?=some l[i]:=List.getElem?_eq_getElem hlt;have e2:aU (aD l) (i:Int)=some (.ipt (bV l[i])):=gy rfl hq;have hc:=Jf (c.t l[i] (List.mem_of_getElem? hq)) vt;have e3:(bX (l[i]).exps t.exps<0)=True:=tt (R5 ω hq);have e5:IntKind.i64.wrap ((i:Int)+1)=((i+1:Nat):Int):=wi;have ih':=ih (i+1) ω;generalize l[i]=q at e2 hc e3;rw[ag];generalize aq _ _ _=L at ih'⊢;simp only[bV]at k3 e2;simp only[nS,go_sem,h0,h3,h6,k3,e1,e2,e5,hc,e3];exact ih' _ _ rfl rfl rfl rfl
def aie:Option (List Rt)->AV
 |none=>.tup [.sl 4 [],B false]
 |some l=>.tup [.sl 4 (aD l),B true]
theorem Jg{L:List Rt}{r:List (List AV)}(h:r=aD L):(Option.map (fun us=>(uI (bp [[.o 5 [.o 2 [],.o 0 [],.o 2 [],.o 0 []]],[]] us),([]:List Ob))) ((some (AV.osl 4 r)).bind fun b=>some [b,.v (.bool true)]))=some (aie (some L),[]):=by
 subst h;have h:=Eh L;show some (AV.tup [.sl 4 ((aD L).map _),B true],[])=_;rw[h];rfl
theorem ac9{v:Int}{l:List Rt}{t:Rt}(c:Cl v l)(vt:VT v t)(hl:l.length<=1000000):R F.r23_Collect [.sl 4 (aD l),.agg (bV t)] []=some (aie (pi l t),[]):=by
 refine av Ug rfl ?_;have hle:=H1 l t.exps;have h3:=aid c vt hl (bv l t.exps) 0 (ayX _);simp only[azC,bV]at h3;have s1:=anr (l:=l) hle;have s2:=afi (l:=l) hle;have l1:(l.take (bv l t.exps)).length=bv l t.exps:=by rw[azd];omega
 have b1:(bv l t.exps*64<=140737488355328)=True:=tt;have b2:((bv l t.exps+1)*64<=140737488355328)=True:=tt;have b3:((bv l t.exps+1+(l.length-bv l t.exps))*64<=140737488355328)=True:=tt;rw[R6];simp only[Bw,JA,bV,go_sem];rw[h3 _ _ rfl rfl rfl rfl];have t0:[[AV.sl 1 (aI t.exps),B t.c.neg,lm t.c.m,I t.c.e]]=aD [t]:=rfl;cases hq:l[bv l t.exps]? with
 |none=>
  have:l.length<=bv l t.exps:=List.getElem?_eq_none_iff.1 hq;have e1:((bv l t.exps:Int)< (l.length:Int))=False:=ff;simp only[go_sem,s1,s2,l1,b1,b2,b3,e1,true_or,ay8,azx,ayX,azp,azr,azQ];rw[if_pos (ayZ _)];exact Jg (by rw[t0,Cg,Cg,azB];rfl)
 |some q=>
  have hlt:=(List.getElem?_eq_some_iff.1 hq).1;have e1:((bv l t.exps:Int)< (l.length:Int))=True:=tt;have e2:aU (aD l) (bv l t.exps:Int)=some (.ipt (bV q)):=gy rfl hq;have vq:=c.t q (List.mem_of_getElem? hq);have hc:=Jf vq vt;simp only[bV]at e2;by_cases ho:bX q.exps t.exps=0
  ·have e3:(bX q.exps t.exps=0)=True:=tt ho;simp only[if_pos ho];have hadd:=akB vq.c vt.c;have hexp:=aav (vq.l2 vt) ho;have hw:IntKind.i64.wrap ((bv l t.exps:Int)+1)=((bv l t.exps+1:Nat):Int):=wi;have s3:=afi (l:=l) (p:=bv l t.exps+1) hlt;have c1:((bv l t.exps+(l.length- (bv l t.exps+1)))*64<=140737488355328)=True:=tt;have c2:((bv l t.exps+1+(l.length- (bv l t.exps+1)))*64<=140737488355328)=True:=tt;generalize jD q.c t.c=r at hadd⊢;obtain⟨s,e⟩:=r;simp only[rV,af,ak]at hadd;by_cases he:e=0
   ·subst he;by_cases hs:s.m.length=0
    ·have f1:(0< (s.m.length:Int))=False:=ff;have f2:(s.m.length=0)=True:=eq_true hs;simp only[go_sem,s1,l1,b1,b2,true_or,ay8,azx,ayX,azp,azr,azQ,s3,hw,e1,e2,hc,e3,hadd,f1,f2,c1];rw[if_pos (ayZ _)];exact Jg (by rw[Cg])
    ·have f1:(0< (s.m.length:Int))=True:=tt;simp only[go_sem,s1,l1,b1,b2,true_or,ay8,azx,ayX,azp,azr,azQ,s3,hw,e1,e2,hc,e3,hadd,f1,c2,hs];rw[if_pos (ayZ _)];refine Jg ?_;rw[List.set_eq_take_append_cons_drop,if_pos hlt,hexp];show aD _++aD [⟨t.exps,s⟩]++aD _=_;rw[Cg,Cg,azB];rfl
   ·have f1:(e=0)=False:=ff he;simp only[go_sem,s1,l1,b1,true_or,ay8,azx,ayX,azp,e1,e2,hc,e3,hadd,f1];rfl
  ·have e3:(bX q.exps t.exps=0)=False:=ff ho;simp only[if_neg ho];simp only[go_sem,s1,s2,l1,b1,b2,b3,true_or,ay8,azx,ayX,azp,azr,azQ,e1,e2,hc,e3];rw[if_pos (ayZ _)];exact Jg (by rw[t0,Cg,Cg,azB];rfl)
def rY:List Nat->List Nat->Bool
 |[],[]=>true
 |x::xs,y::ys=>decide (x=y)&&rY xs ys
 |_,_=>false
theorem Sa:∀ {a b:List Nat},rY a b=true↔a=b
 |[],[]=>by simp[rY]
 |x::a,y::b=>by simp[rY,Sa]
 |[],_::_=>by simp[rY]
 |_::_,[]=>by simp[rY]
theorem aif{x y:Rd}(hl:x.m.length=y.m.length)(h2:x.m.length<=100000):∀ (k i:Nat),i+k=x.m.length->∀ (s:ai) (h:ac),s 2=.ref 2 none 0 0 0->s 3=.ref 3 none 0 0 0->s 5=I i->h 2=.bx (ak x)->h 3=.bx (ak y)->
  ∃hh,ah 0 [] (aq (aj R (az false) lU) [2,3,5] [2,3] s h)=if rY (x.m.drop i) (y.m.drop i)=true then some (.normal,⟨fun _=>.any,hh⟩)else some (.ret,⟨upd (fun _=>.any) 4 (B false),hh⟩):=by
 intro k;induction k with
 |zero=>
  intro i hi s h g2 g3 g5 k2 k3;have e1:((i:Int)<x.m.length)=False:=ff;rw[azi ω,azi ω,ag];simp only[ak]at k2 k3;refine⟨?hh0,?_⟩;rotate_left
  ·simp only[lU,rY,go_sem,g2,g3,g5,k2,k3,e1];rfl
 |succ k ih=>
  intro i hi s h g2 g3 g5 k2 k3;have hlt:i<x.m.length:=ω
  have hlt2:i<y.m.length:=ω
  have e1:((i:Int)<x.m.length)=True:=tt;have e2:aU (aC x.m) (i:Int)=some (.ipt [U (x.m.getD i 0:Nat)]):=bu rfl hlt;have e3:aU (aC y.m) (i:Int)=some (.ipt [U (y.m.getD i 0:Nat)]):=bu rfl hlt2;have e5:IntKind.i64.wrap ((i:Int)+1)=((i+1:Nat):Int):=wi;have ih':=ih (i+1) ω;rw[azj hlt,azj hlt2,ag];have v1:x.m.getD i 0=x.m[i]:=by simp[List.getD,hlt]
  have v2:y.m.getD i 0=y.m[i]:=by simp[List.getD,hlt2]
  rw[v1]at e2;rw[v2]at e3;generalize x.m[i]=p at e2⊢;generalize y.m[i]=q at e3⊢;generalize aq _ _ _=L at ih'⊢;unfold rY;simp only[ak]at k2 k3;by_cases hpq:p=q
  ·have e4:((p:Int)=(q:Int))=True:=tt;rw[decide_eq_true hpq,ay5];simp only[lU,go_sem,g2,g3,g5,k2,k3,e1,e2,e3,e4,e5];exact ih' _ _ rfl rfl rfl rfl rfl
  ·have e4:((p:Int)=(q:Int))=False:=ff;rw[decide_eq_false hpq,ay6];simp only[if_neg ay9];refine⟨?hh1,?_⟩;rotate_left
   ·simp only[lU,go_sem,g2,g3,g5,k2,k3,e1,e2,e3,e4];rfl
theorem aqj{x y:Rd}(hl:x.m.length=y.m.length)(h2:x.m.length<=100000)(s:ai)(h:ac)(X:Option (Ex×St))(hX:ah 0 [] (aq (aj R (az false) lU) [2,3,5] [2,3] s h)=X)(g2:s 2=.ref 2 none 0 0 0)(g3:s 3=.ref 3 none 0 0 0)(g5:s 5=I 0)(k2:h 2=.bx [B x.neg,lm x.m,I x.e])(k3:h 3=.bx [B y.neg,lm y.m,I y.e]):
  ∃hh,X=if rY x.m y.m=true then some (.normal,⟨fun _=>.any,hh⟩)else some (.ret,⟨upd (fun _=>.any) 4 (B false),hh⟩):=by
 subst hX;exact aif hl h2 x.m.length 0 (ayX _) s h g2 g3 g5 k2 k3
def Sc(x y:Rd):Bool:=(x.neg==y.neg)&& (decide (x.e=y.e)&&rY x.m y.m)
theorem akL{x y:Rd}:Sc x y=true↔x=y:=by
 unfold Sc;rw[ay1,ay1,Sa,beq_iff_eq,decide_eq_true_eq];constructor
 ·rintro⟨h1,h2,h3⟩
  cases x;cases y;cases h1;cases h2;cases h3;rfl
 ·rintro rfl
  exact⟨rfl,rfl,rfl⟩
theorem Oo:∀ {a b:List Nat},a.length≠b.length->rY a b=false
 |[],[],h=>absurd rfl h
 |x::a,y::b,h=>by
  unfold rY;rw[Oo (fun e=>h (by simp[e])),az3]
 |[],_::_,_=>rfl
 |_::_,[],_=>rfl
theorem afj{x y:Rd}(hx:x.m.length<=100000):R F.r23_number [af x,af y] []=some (B (Sc x y),[]):=by
 refine av Wq rfl ?_;unfold Sc;cases h1:(x.neg==y.neg)with
 |false=>
  have h4:(true != (x.neg==y.neg))=true:=by rw[h1];rfl
  rw[ay6];simp only[po,vG,af,ak,go_sem,h4]
 |true=>
  have h4:(true != (x.neg==y.neg))=false:=by rw[h1];rfl
  rw[ay5];by_cases h2:x.e=y.e
  ·have e2:(x.e=y.e)=True:=eq_true h2;rw[decide_eq_true h2,ay5];by_cases h3:x.m.length=y.m.length
   ·have e3:((x.m.length:Int)=(y.m.length:Int))=True:=tt;have hl:=aqj (x:=x) (y:=y) h3 hx;simp only[po,vG,af,ak,go_sem,h4,e2,e3];generalize hX:ah 0 [] _=X;obtain⟨hh,rfl⟩:=hl _ _ _ hX rfl rfl rfl rfl rfl;cases rY x.m y.m with
    |true=>
     simp only[go_sem]
    |false=>
     simp only[go_sem]
   ·have e3:((x.m.length:Int)=(y.m.length:Int))=False:=ff;rw[Oo h3];simp only[po,vG,af,ak,go_sem,h4,e2,e3]
  ·have e2:(x.e=y.e)=False:=eq_false h2;rw[decide_eq_false h2,ay6];simp only[po,vG,af,ak,go_sem,h4,e2]
def uZ:List Rt->List Rt->Bool
 |[],[]=>true
 |x::xs,y::ys=>(decide (bX x.exps y.exps=0)&&Sc x.c y.c)&&uZ xs ys
 |_,_=>false
theorem TH:∀ {a b:List Rt},a.length≠b.length->uZ a b=false
 |[],[],h=>absurd rfl h
 |x::a,y::b,h=>by
  unfold uZ;rw[TH (fun e=>h (by simp[e])),az3]
 |[],_::_,_=>rfl
 |_::_,[],_=>rfl
theorem XS{v:Int}:∀ {a b:List Rt},(∀t∈a,VT v t)->(∀t∈b,VT v t)->(uZ a b=true↔a=b)
 |[],[],_,_=>by simp[uZ]
 |x::a,y::b,ha,hb=>by
  have ih:=XS (a:=a) (b:=b) (fun t ht=>ha t (by simp[ht])) (fun t ht=>hb t (by simp[ht]));have vx:=ha x σ;have vy:=hb y σ;unfold uZ;rw[ay1,ay1,decide_eq_true_eq,akL,ih];constructor
  ·rintro⟨⟨h1,h2⟩,rfl⟩
   have h3:=aav (vx.l2 vy) h1;cases x;cases y;cases h3;cases h2;rfl
  ·intro h;cases h;exact⟨⟨TB _,rfl⟩,rfl⟩
 |[],_::_,_,_=>by simp[uZ]
 |_::_,[],_,_=>by simp[uZ]
theorem afk{v:Int}{a b:Rp}(ha:∀t∈a.terms,VT v t)(hb:∀t∈b.terms,VT v t)(hl:a.terms.length=b.terms.length)(h2:a.terms.length<=100000):∀ (k i:Nat),i+k=a.terms.length->∀ (s:ai) (h:ac),s 2=.ref 2 none 0 0 0->s 3=.ref 3 none 0 0 0->s 5=I i->h 2=.bx [I a.vars,.sl 4 (aD a.terms)]->h 3=.bx [I b.vars,.sl 4 (aD b.terms)]->
  ∃hh,ah 0 [] (aq (aj R (az false) mh) [2,3,5] [2,3] s h)=if uZ (a.terms.drop i) (b.terms.drop i)=true then some (.normal,⟨fun _=>.any,hh⟩)else some (.ret,⟨upd (fun _=>.any) 4 (B false),hh⟩):=by
 intro k;induction k with
 |zero=>
  intro i hi s h g2 g3 g5 k2 k3;have e1:((i:Int)<a.terms.length)=False:=ff;rw[azi ω,azi ω,ag];refine⟨?hh0,?_⟩;rotate_left
  ·simp only[mh,uZ,go_sem,g2,g3,g5,k2,k3,e1];rfl
 |succ k ih=>
  intro i hi s h g2 g3 g5 k2 k3;have hlt:i<a.terms.length:=ω
  have hlt2:i<b.terms.length:=ω
  have e1:((i:Int)<a.terms.length)=True:=tt;have e2:aU (aD a.terms) (i:Int)=some (.ipt (bV a.terms[i])):=gy rfl (List.getElem?_eq_getElem hlt);have e3:aU (aD b.terms) (i:Int)=some (.ipt (bV b.terms[i])):=gy rfl (List.getElem?_eq_getElem hlt2);have e5:IntKind.i64.wrap ((i:Int)+1)=((i+1:Nat):Int):=wi;have ih':=ih (i+1) ω;have vx:=ha _ (azo hlt);have vy:=hb _ (azo hlt2);rw[azj hlt,azj hlt2,ag];generalize a.terms[i]=x at e2 vx⊢;generalize b.terms[i]=y at e3 vy⊢;generalize aq _ _ _=L at ih'⊢;have hc:=Jf vx vy;have hnum:=afj (x:=x.c) (y:=y.c) (ay3 (AX vx.vc vx.c.lb) δ);have hle:((x.exps.length:Int)=(y.exps.length:Int))=True:=tt (by have:=vx.l2 vy;omega);unfold uZ;simp only[bV]at e2 e3;simp only[af,ak]at hnum;by_cases ho:bX x.exps y.exps=0
  ·have e4:(bX x.exps y.exps=0)=True:=eq_true ho;rw[decide_eq_true ho,ay5];cases hn:Sc x.c y.c with
   |true=>
    rw[hn]at hnum;rw[ay5];simp only[mh,go_sem,g2,g3,g5,k2,k3,e1,e2,e3,hle,hc,e4,hnum,e5];exact ih' _ _ rfl rfl rfl rfl rfl
   |false=>
    rw[hn]at hnum;rw[ay6];simp only[if_neg ay9];refine⟨?hh1,?_⟩;rotate_left
    ·simp only[mh,go_sem,g2,g3,g5,k2,k3,e1,e2,e3,hle,hc,e4,hnum];rfl
  ·have e4:(bX x.exps y.exps=0)=False:=eq_false ho;rw[decide_eq_false ho,ay6,ay6];simp only[if_neg ay9];refine⟨?hh2,?_⟩;rotate_left
   ·simp only[mh,go_sem,g2,g3,g5,k2,k3,e1,e2,e3,hle,hc,e4];rfl
theorem ans{v:Int}{a b:Rp}(ha:∀t∈a.terms,VT v t)(hb:∀t∈b.terms,VT v t)(hl:a.terms.length=b.terms.length)(h2:a.terms.length<=100000)(s:ai)(h:ac)(X:Option (Ex×St))(hX:ah 0 [] (aq (aj R (az false) mh) [2,3,5] [2,3] s h)=X)
  (g2:s 2=.ref 2 none 0 0 0) (g3:s 3=.ref 3 none 0 0 0) (g5:s 5=I 0) (k2:h 2=.bx [I a.vars,.sl 4 (aD a.terms)]) (k3:h 3=.bx [I b.vars,.sl 4 (aD b.terms)]):
  ∃hh,X=if uZ a.terms b.terms=true then some (.normal,⟨fun _=>.any,hh⟩)else some (.ret,⟨upd (fun _=>.any) 4 (B false),hh⟩):=by
 subst hX;exact afk ha hb hl h2 a.terms.length 0 (ayX _) s h g2 g3 g5 k2 k3
def U2(a b:Rp):Bool:=decide (a.vars=b.vars)&&uZ a.terms b.terms
theorem akM{a b:Rp}(ha:Cl a.vars a.terms)(hb:Cl b.vars b.terms)(h2:a.terms.length<=100000):R F.r23_Same [be a,be b] []=some (B (U2 a b),[]):=by
 refine av acv rfl ?_;unfold U2;by_cases hv:a.vars=b.vars
 ·have e1:(a.vars=b.vars)=True:=eq_true hv;rw[decide_eq_true hv,ay5];by_cases h3:a.terms.length=b.terms.length
  ·have e3:((a.terms.length:Int)=(b.terms.length:Int))=True:=tt;have hbt:=hb.t;rw[←hv]at hbt;have hl:=ans (a:=a) (b:=b) ha.t hbt h3 h2;simp only[xU,DT,be,go_sem,e1,e3];generalize hX:ah 0 [] _=X;obtain⟨hh,rfl⟩:=hl _ _ _ hX rfl rfl rfl rfl rfl;cases uZ a.terms b.terms with
   |true=>simp only[go_sem]
   |false=>simp only[go_sem]
  ·have e3:((a.terms.length:Int)=(b.terms.length:Int))=False:=ff;rw[TH h3];simp only[xU,DT,be,go_sem,e1,e3]
 ·have e1:(a.vars=b.vars)=False:=eq_false hv;rw[decide_eq_false hv,ay6];simp only[xU,DT,be,go_sem,e1]
theorem lmB(m:List Nat):(aC m).map (fun r=>match r with|[.v (.int _ x)]=>x.toNat|_=>0)=m:=by
 grind[aC,List.map_map,azy,azN]
theorem izB(m:List Int):(aI m).map (fun r=>match r with|[.v (.int _ x)]=>x|_=>0)=m:=by
 grind[aI,List.map_map,azy,azN]
def tmB:List AV->Rt
 |[.sl _ m1,.v (.bool n2),.sl _ m2,.v (.int _ e2)]=>⟨m1.map (fun r=>match r with|[.v (.int _ x)]=>x|_=>0),⟨n2,m2.map (fun r=>match r with|[.v (.int _ x)]=>x.toNat|_=>0),e2⟩⟩
 |_=>⟨[],aG⟩
theorem aqk(t:Rt):tmB (bV t)=t:=by
 show(⟨(aI t.exps).map _,⟨t.c.neg,(aC t.c.m).map _,t.c.e⟩⟩:Rt)=t;rw[lmB,izB]
def plC(a:Rp):List AV:=[I a.vars,.sl 4 (aD a.terms)]
def plR(l:List Rp):List (List AV):=l.map plC
@[go_sem] theorem awW(l:List Rp):(plR l).length=l.length:=by simp[plR]
@[go_sem] theorem aup(l:List Rt):(aD l).map (dY [.o 2 [],.o 0 [],.o 0 [],.o 0 []])=aD l:=by
 refine si fun x hx=>?_;simp only[aD,azP]at hx;obtain⟨t,ht,rfl⟩:=hx;simp only[bV,go_sem]
@[go_sem] theorem awX(l:List Rp):(plR l).map (dY [.o 0 [],.o 5 [.o 2 [],.o 0 [],.o 0 [],.o 0 []]])=plR l:=by
 refine si fun x hx=>?_;simp only[plR,azP]at hx;obtain⟨t,ht,rfl⟩:=hx;simp only[plC,go_sem]
structure Res (r:Rp×Int):Prop where
 cl:Cl r.1.vars r.1.terms
 len:r.1.terms.length<=100000
 z:r.2=0\/r.1=p0
theorem ada{a:Rp}(h:Cl a.vars a.terms):U2 a a=true:=by
 unfold U2;rw[decide_eq_true rfl,ay5,(XS h.t h.t).2 rfl]
theorem Sd(l:List Int)(n:Nat)(x:Int):(aI l).set n [I x]=aI (l.set n x):=by simp[aI,List.map_set]
theorem aig{a b:List Int}{i:Nat}{x y:Int}(hx:a[i]?=some x)(hy:b[i]?=some y):(kB a b)[i]?=some (x+y):=by
 unfold kB;rw[List.getElem?_zipWith,hx,hy]
def JZ(a b:List Int)(i:Nat):List Int:=(kB a b).take i++a.drop i
theorem akN{a b:List Int}(h:a.length=b.length){i:Nat}{x:Int}(hx:a[i]?=some x):(JZ a b i)[i]?=some x:=by
 have hlt:=(List.getElem?_eq_some_iff.1 hx).1;unfold JZ;rw[List.getElem?_append_right (by rw[azd,y8 h];omega),azd,y8 h,List.getElem?_drop,show i+(i-min i a.length)=i by omega];exact hx
theorem akO{a b:List Int}(h:a.length=b.length){i:Nat}{x y:Int}(hx:a[i]?=some x)(hy:b[i]?=some y):(JZ a b i).set i (x+y)=JZ a b (i+1):=by
 have hlt:=(List.getElem?_eq_some_iff.1 hx).1;have hg:=aig hx hy;have hlen:=y8 h;unfold JZ;have ht:((kB a b).take i).length=i:=by rw[azd];omega
 rw[List.set_append_right _ _ ω,ht,az2,azj hlt,List.set_cons_zero,List.take_succ_eq_append_getElem (by omega:i< (kB a b).length),azB];have:=(List.getElem?_eq_some_iff.1 hg).2;rw[this];rfl
theorem akP{a b:List Int}(h:a.length=b.length){i:Nat}(hi:a.length<=i):JZ a b i=kB a b:=by
 unfold JZ;rw[azg (by rw[y8 h];omega),azi hi,azb]
theorem afm{v:Int}{p q:Rt}(vp:VT v p)(vq:VT v q){A Bt:List Rt}{nA iA nB iB:Int}{o2 o3 o4 o8 o10 o11 o2352:Ob}(c2:aA [2,3,4,8,10,11,2352,2576] o2=true)(c3:aA [2,3,4,8,10,11,2352,2576] o3=true)(c4:aA [2,3,4,8,10,11,2352,2576] o4=true)(c8:aA [2,3,4,8,10,11,2352,2576] o8=true)(c10:aA [2,3,4,8,10,11,2352,2576] o10=true)(c11:aA [2,3,4,8,10,11,2352,2576] o11=true)(cc:aA [2,3,4,8,10,11,2352,2576] o2352=true):
  ∀ (k i:Nat),i+k=p.exps.length->∀ (s:ai) (h:ac),s 3=.ref 3 none 0 0 0->s 4=.ref 4 none 0 0 0->s 6=.ref 2352 none 0 0 0->s 8=.ref 8 none 0 0 0->s 11=.ref 11 none 0 0 0->s 13=.rsl 2576 none 1 0 p.exps.length->s 46=.sl 4 (aD A)->s 47=I nA->s 48=I iA->s 53=.sl 4 (aD Bt)->s 54=I nB->s 55=I iB->s 74=.sl 1 (aI q.exps)->s 75=I q.exps.length->s 76=I i->h 2=o2->h 3=o3->h 4=o4->h 8=o8->h 10=o10->h 11=o11->h 2352=o2352->h 2576=.ar 1 (aI (JZ p.exps q.exps i))->
  ∃hh,ah 5 [3,4,6,8,11,13,46,47,48,53,54,55] (aq (aj R (az false) kg) [3,4,6,8,11,13,46,47,48,53,54,55,74,75,76] [2,3,4,8,10,11,2352,2576] s h)=some (.normal,⟨upd (upd (upd (upd (upd (upd (upd (upd (upd (upd (upd (upd (fun _=>.any) 55 (I iB)) 54 (I nB)) 53 (.sl 4 (aD Bt))) 48 (I iA)) 47 (I nA)) 46 (.sl 4 (aD A))) 13 (.rsl 2576 none 1 0 p.exps.length)) 11 (.ref 11 none 0 0 0)) 8 (.ref 8 none 0 0 0)) 6 (.ref 2352 none 0 0 0)) 4 (.ref 4 none 0 0 0)) 3 (.ref 3 none 0 0 0),hh⟩)/\
   hh 2=o2/\hh 3=o3/\hh 4=o4/\hh 8=o8/\hh 10=o10/\hh 11=o11/\hh 2352=o2352/\hh 2576=.ar 1 (aI (kB p.exps q.exps))/\∀a,a≠2->a≠3->a≠4->a≠8->a≠10->a≠11->a≠2352->a≠2576->hh a=.dead:=by
 have hl:=vp.l2 vq;have hs:=vp.ok.len;intro k;induction k with
 |zero=>
  intro i hi s h g3 g4 g6 g8 g11 g13 g46 g47 g48 g53 g54 g55 g74 g75 g76 k2 k3 k4 k8 k10 k11 k2352 k2576;have e1:((i:Int)< (q.exps.length:Int))=False:=ff;rw[akP hl ω]at k2576;rw[ag];refine⟨?hh0,?_,?_,?_,?_,?_,?_,?_,?_,?_,?_⟩;rotate_left
  ·simp only[kg,go_sem,g3,g4,g6,g8,g11,g13,g46,g47,g48,g53,g54,g55,g74,g75,g76,k2,k3,k4,k8,k10,k11,k2352,k2576,c2,c3,c4,c8,c10,c11,cc,e1];rfl
  all_goals first|rfl| (intro a a1 a2 a3 a4 a5 a6 a7 a8;simp only[cj,a1,a2,a3,a4,a5,a6,a7,a8,if_false])
 |succ k ih=>
  intro i hi s h g3 g4 g6 g8 g11 g13 g46 g47 g48 g53 g54 g55 g74 g75 g76 k2 k3 k4 k8 k10 k11 k2352 k2576;have hlt:i<p.exps.length:=ω
  have hlt2:i<q.exps.length:=ω
  have e1:((i:Int)< (q.exps.length:Int))=True:=tt;have hq:q.exps[i]?=some q.exps[i]:=List.getElem?_eq_getElem hlt2;have hp:p.exps[i]?=some p.exps[i]:=List.getElem?_eq_getElem hlt;have e2:aU (aI q.exps) (i:Int)=some (.ipt [I q.exps[i]]):=rW rfl hq;have e3:=akN hl hp (b:=q.exps);have e3':(aI (JZ p.exps q.exps i))[i]?=some [I p.exps[i]]:=by simp[aI,e3]
  have e4:=akO hl hp hq;have b1:=vp.b _ (azo hlt);have b2:=vq.b _ (azo hlt2);have e5:IntKind.i64.wrap ((i:Int)+1)=((i+1:Nat):Int):=wi;have e6:(0<=(i:Int)/\(i:Int)< (p.exps.length:Int))=True:=eq_true ⟨by omega,by omega⟩;have e7:IntKind.i64.wrap (p.exps[i]+q.exps[i])=p.exps[i]+q.exps[i]:=i64_in _ ⟨by omega,by omega⟩;have ih':=ih (i+1) ω;rw[←e4,←Sd]at ih';generalize p.exps[i]=x at e3' e7 ih';generalize q.exps[i]=y at e2 e7 ih';rw[ag];generalize aq _ _ _=L at ih'⊢;simp only[kg,go_sem,g3,g4,g6,g8,g11,g13,g46,g47,g48,g53,g54,g55,g74,g75,g76,k2,k3,k4,k8,k10,k11,k2352,k2576,c2,c3,c4,c8,c10,c11,cc,e1,e2,e3',e5,e6,e7,ay4,ayX];exact ih' _ _ rfl rfl rfl rfl rfl rfl rfl rfl rfl rfl rfl rfl rfl rfl rfl rfl rfl rfl rfl rfl rfl rfl rfl
theorem anu{v:Int}{p q:Rt}(vp:VT v p)(vq:VT v q){A Bt:List Rt}{nA iA nB iB:Int}{o2 o3 o4 o8 o10 o11 o2352:Ob}(s:ai)(h:ac)(X:Option (Ex×St))(hX:ah 5 [3,4,6,8,11,13,46,47,48,53,54,55] (aq (aj R (az false) kg) [3,4,6,8,11,13,46,47,48,53,54,55,74,75,76] [2,3,4,8,10,11,2352,2576] s h)=X)
  (g3:s 3=.ref 3 none 0 0 0) (g4:s 4=.ref 4 none 0 0 0) (g6:s 6=.ref 2352 none 0 0 0) (g8:s 8=.ref 8 none 0 0 0) (g11:s 11=.ref 11 none 0 0 0) (g13:s 13=.rsl 2576 none 1 0 p.exps.length) (g46:s 46=.sl 4 (aD A)) (g47:s 47=I nA) (g48:s 48=I iA) (g53:s 53=.sl 4 (aD Bt)) (g54:s 54=I nB) (g55:s 55=I iB) (g74:s 74=.sl 1 (aI q.exps)) (g75:s 75=I q.exps.length) (g76:s 76=I 0) (k2:h 2=o2) (k3:h 3=o3) (k4:h 4=o4) (k8:h 8=o8) (k10:h 10=o10) (k11:h 11=o11) (k2352:h 2352=o2352) (k2576:h 2576=.ar 1 (aI p.exps)) (c2:aA [2,3,4,8,10,11,2352,2576] o2=true) (c3:aA [2,3,4,8,10,11,2352,2576] o3=true) (c4:aA [2,3,4,8,10,11,2352,2576] o4=true) (c8:aA [2,3,4,8,10,11,2352,2576] o8=true) (c10:aA [2,3,4,8,10,11,2352,2576] o10=true) (c11:aA [2,3,4,8,10,11,2352,2576] o11=true) (c2352:aA [2,3,4,8,10,11,2352,2576] o2352=true):
  ∃hh,X=some (.normal,⟨upd (upd (upd (upd (upd (upd (upd (upd (upd (upd (upd (upd (fun _=>.any) 55 (I iB)) 54 (I nB)) 53 (.sl 4 (aD Bt))) 48 (I iA)) 47 (I nA)) 46 (.sl 4 (aD A))) 13 (.rsl 2576 none 1 0 p.exps.length)) 11 (.ref 11 none 0 0 0)) 8 (.ref 8 none 0 0 0)) 6 (.ref 2352 none 0 0 0)) 4 (.ref 4 none 0 0 0)) 3 (.ref 3 none 0 0 0),hh⟩)/\hh 2=o2/\hh 3=o3/\hh 4=o4/\hh 8=o8/\hh 10=o10/\hh 11=o11/\hh 2352=o2352/\hh 2576=.ar 1 (aI (kB p.exps q.exps))/\∀a,a≠2->a≠3->a≠4->a≠8->a≠10->a≠11->a≠2352->a≠2576->hh a=.dead:=by
 subst hX;have hc:JZ p.exps q.exps 0=p.exps:=by simp[JZ]
 rw[←hc]at k2576;exact afm vp vq c2 c3 c4 c8 c10 c11 c2352 p.exps.length 0 (ayX _) s h g3 g4 g6 g8 g11 g13 g46 g47 g48 g53 g54 g55 g74 g75 g76 k2 k3 k4 k8 k10 k11 k2352 k2576
theorem ColE.stepN{v:Int}{l:List Rt}{t:Rt}{c:AV}(hc:mN c l){e:Int}(he:e=0\/e=9)(N:Nat)(hC:e=0->Cl v l/\l.length+N+1<=1000000)(vt:VT v t){v':Int}:
  ∃c1 l1 e1,R F.poly_collector_add [.ref 1000 none 0 0 0,.sl 1 (aI t.exps),af t.c] [t3 v' c e]=some (.tup [],[t3 v' c1 e1])/\mN c1 l1/\(e1=0\/e1=9)/\(e1=0->Cl v l1/\l1.length+N<=1000000)/\∀ts c' l' e',ColE v l1 ts e1 c' l' e'->ColE v l (t::ts) e c' l' e':=by
 obtain⟨c1,l1,e1,g1,g2,g3,g4,_⟩:=ColE.step (ts:=ayW N t) hc he (by rw[azU];exact hC) vt (v':=v');rw[azU]at g4;refine⟨c1,l1,e1,g1,g2,g3,g4,fun ts c' l' e' h=>?_⟩;rcases he with rfl|rfl
 ·obtain⟨h1,h2⟩:=hC rfl;obtain⟨c2,l2,e2,k1,k2,k3⟩:=R8 (v':=v') h1 vt ω hc;rw[k1]at g1;simp only[Option.some.injEq,Prod.mk.injEq,List.cons.injEq,and_true,true_and,t3,Ob.bx.injEq,AV.v.injEq,Value.int.injEq]at g1;obtain⟨rfl,rfl⟩:=g1;have hl:l2=l1:=by
   rcases k2 with rfl| ⟨rfl,rfl⟩
   ·rcases g2 with g2| ⟨g2,_⟩
    ·simp only[AV.osl.injEq,true_and]at g2;have:=congrArg (List.map tmB) g2;unfold aD at this;rw[List.map_map,List.map_map]at this;have hid:∀l:List Rt,l.map (tmB∘bV)=l:=fun l=>(azy (g:=fun c=>c) fun x _=>aqk x).trans (azN l);rw[hid,hid]at this;exact this
    ·cases g2
   ·rcases g2 with g2| ⟨_,g2⟩
    ·cases g2
    ·exact g2.symm
  subst hl;refine⟨h.c,?_⟩;rcases k3 with⟨g,k⟩| ⟨g,k,_⟩
  ·subst g;rcases h.r with⟨q1,_,q2⟩| ⟨q1,q2⟩
   ·refine .inl ⟨q1,rfl,?_⟩;unfold j5;rw[k];exact q2
   ·refine .inr ⟨q1,fun _=>?_⟩;unfold j5;rw[k];exact q2 rfl
  ·subst g;rcases h.r with⟨_,q1,_⟩| ⟨q1,_⟩
   ·omega
   ·refine .inr ⟨q1,fun _=>?_⟩;unfold j5;rw[k];rfl
 ·refine⟨h.c,?_⟩;have:=XH (v:=v') (x:=.sl 1 (aI t.exps)) (d:=t.c) hc (by decide:(9:Int)≠0);rw[this]at g1;simp only[Option.some.injEq,Prod.mk.injEq,List.cons.injEq,and_true,true_and,t3,Ob.bx.injEq,AV.v.injEq,Value.int.injEq]at g1;obtain⟨_,rfl⟩:=g1;rcases h.r with⟨_,q1,_⟩| ⟨q1,_⟩
  ·omega
  ·exact .inr ⟨q1,fun h=>by omega⟩
def Jh(blk:Option (Ex×St))(S:ai)(o2 o3:Ob)(v v':Int)(l:List Rt)(e:Int):Option (List Rt)->Prop
 |some r=>∃hh c' l' e',blk=some (.normal,⟨S,hh⟩)/\hh 2=o2/\hh 3=o3/\hh 4=.bx [I 0,.emp]/\hh 2352=t3 v' c' e'/\(∀a,a≠2->a≠3->a≠4->a≠8->a≠2352->hh a=.dead)/\ColE v l r e c' l' e'
 |none=>∃hh,blk=some (.ret,⟨upd (upd (fun _=>.any) 5 (I 9)) 4 (.ref 4 none 0 0 0),hh⟩)/\hh 4=.bx [I 0,.emp]
theorem afn{v v':Int}{p:Rt}(vp:VT v p){A Bt:List Rt}(hB:∀q∈Bt,VT v q/\aS p.exps+aS q.exps<=32)(hn:Bt.length<=100000){nA iA:Int}{o2:Ob}(c2:∀ids,aA ids o2=true){vb:Int}:
  ∀ (k i:Nat),i+k=Bt.length->∀ (c:AV) (l:List Rt) (e:Int),mN c l->(e=0\/e=9)->(e=0->Cl v l/\l.length+k<=1000000)->∀ (s:ai) (h:ac),s 3=.ref 3 none 0 0 0->s 4=.ref 4 none 0 0 0->s 6=.ref 2352 none 0 0 0->s 8=.ref 8 none 0 0 0->s 46=.sl 4 (aD A)->s 47=I nA->s 48=I iA->s 53=.sl 4 (aD Bt)->s 54=I Bt.length->s 55=I i->h 2=o2->h 3=.bx [I vb,.sl 4 (aD Bt)]->h 4=.bx [I 0,.emp]->h 8=.bx (bV p)->h 2352=t3 v' c e->
  Jh (ah 3 [3,4,6,46,47,48] (aq (aj R (az false) kh) [3,4,6,8,46,47,48,53,54,55] [2,3,4,8,2352] s h)) (upd (upd (upd (upd (upd (upd (fun _=>.any) 48 (I iA)) 47 (I nA)) 46 (.sl 4 (aD A))) 6 (.ref 2352 none 0 0 0)) 4 (.ref 4 none 0 0 0)) 3 (.ref 3 none 0 0 0)) o2 (.bx [I vb,.sl 4 (aD Bt)]) v v' l e (oG p (Bt.drop i)):=by
 intro k;induction k with
 |zero=>
  intro i hi c l e hc he hC s h g3 g4 g6 g8 g46 g47 g48 g53 g54 g55 k2 k3 k4 k8 k2352;have e1:((i:Int)< (Bt.length:Int))=False:=ff;have ho:=(lA (v:=v') (e:=e) hc).cl [2,3,4,8,2352];have ho2:=c2 [2,3,4,8,2352];rw[azi ω,ag];simp only[bV]at k8;refine⟨?hh0,c,l,e,?_,?_,?_,?_,?_,?_,⟨hc,?_⟩⟩;rotate_left
  ·simp only[kh,go_sem,g3,g4,g6,g8,g46,g47,g48,g53,g54,g55,k2,k3,k4,k8,k2352,ho,ho2,e1];rfl
  ·rfl
  ·rfl
  ·rfl
  ·rfl
  ·intro a a1 a2 a3 a4 a5;simp only[cj,a1,a2,a3,a4,a5,if_false]
  ·rcases he with rfl|rfl
   ·exact .inl ⟨rfl,rfl,rfl⟩
   ·exact .inr ⟨rfl,fun h=>by omega⟩
 |succ k ih=>
  intro i hi c l e hc he hC s h g3 g4 g6 g8 g46 g47 g48 g53 g54 g55 k2 k3 k4 k8 k2352;have hlt:i<Bt.length:=ω
  have e1:((i:Int)< (Bt.length:Int))=True:=tt;have e2:aU (aD Bt) (i:Int)=some (.ipt (bV Bt[i])):=gy rfl (List.getElem?_eq_getElem hlt);have e5:IntKind.i64.wrap ((i:Int)+1)=((i+1:Nat):Int):=wi;have ho:=(lA (v:=v') (e:=e) hc).cl;obtain⟨vq,hd⟩:=hB _ (azo hlt);have hmul:=R2 vp.c vq.c;have hdl:(Bt.drop (i+1)).length=k:=by rw[azQ];omega
  rw[azj hlt];have ih':=ih (i+1) ω;have hrow:∀q ts,oG p (q::ts)=(Jd p q).bind fun x=>(oG p ts).map (x::·):=fun q ts=>rfl;rw[hrow];generalize hqq:Bt[i]=q at e2 vq hd hmul⊢;have hVT:=fun x=>XL (x:=x) vp vq hd;rw[ag];generalize aq _ _ _=L at ih'⊢;unfold Jd at hVT⊢;have ho1:=ho [2,3,4,8,2352];have ho2:=c2 [2,3,4,8,2352];have hle:=vp.l2 vq;simp only[bV]at k8 e2;generalize fh p.c q.c=m at hmul hVT⊢;obtain⟨m,em⟩:=m;simp only[rV,af,ak]at hmul;by_cases hm:em=0
  ·subst hm;simp only[if_true,ay2]at hVT⊢;have vx:=hVT _ rfl;obtain⟨c1,l1,e1',s1,s2,s3,s4,s5⟩:=ColE.stepN (t:=⟨kB p.exps q.exps,m⟩) hc he k (fun h=>by have:=hC h;exact⟨this.1,by omega⟩) vx (v':=v');have ih2:=ih' c1 l1 e1' s2 s3 s4;have hcall:=fun(h:ac) (hh:h 2352=t3 v' c e) (d:Nat)=>dB (aQ.1.2.1 false) rfl (qw (d:=d) hh hc s2 s1);simp only[af,ak]at hcall;have hpush:∀ (S:ai) (H:ac),Jh (ah 3 [3,4,6,46,47,48] (L S H)) (upd (upd (upd (upd (upd (upd (fun _=>.any) 48 (I iA)) 47 (I nA)) 46 (.sl 4 (aD A))) 6 (.ref 2352 none 0 0 0)) 4 (.ref 4 none 0 0 0)) 3 (.ref 3 none 0 0 0)) o2 (.bx [I vb,.sl 4 (aD Bt)]) v v' l1 e1' (oG p (Bt.drop (i+1)))->Jh (ah 3 [3,4,6,46,47,48] (L S H)) (upd (upd (upd (upd (upd (upd (fun _=>.any) 48 (I iA)) 47 (I nA)) 46 (.sl 4 (aD A))) 6 (.ref 2352 none 0 0 0)) 4 (.ref 4 none 0 0 0)) 3 (.ref 3 none 0 0 0)) o2 (.bx [I vb,.sl 4 (aD Bt)]) v v' l e ((oG p (Bt.drop (i+1))).map (⟨kB p.exps q.exps,m⟩::·)):=fun S H h=>by
    cases hr:oG p (Bt.drop (i+1))with
    |none=>rw[hr]at h;exact h
    |some r=>
     rw[hr]at h;obtain⟨hh,c',l',e',q1,q2,q3,q4,q5,q6,q7⟩:=h;exact⟨hh,c',l',e',q1,q2,q3,q4,q5,q6,s5 _ _ _ _ q7⟩
   cases hx:p.exps with
   |nil=>
    have hcl:R F.slices_Clone_int_int_ [lm []] []=some (lm [],[]):=TD;have hq0:q.exps=[]:=List.length_eq_zero_iff.1 (by rw[←hle,hx];rfl);rw[hx]at hpush;rw[hx,hq0]at hcall;rw[hx]at k8;rw[hq0]at e2;have i0:aI []=[]:=rfl;have a0:kB [] []=[]:=rfl;have z0:((0:Int)<0)=False:=ff δ;have ho2':=c2 [2,3,4,8,10,11,2352,2576];have ho1':=ho [2,3,4,8,10,11,2352,2576];rw[i0]at k8 e2;rw[a0,i0,amX]at hcall;simp only[kh,go_sem,g3,g4,g6,g8,g46,g47,g48,g53,g54,g55,k2,k3,k4,k8,k2352,ho1,ho2,e1,e2,hmul,hcl,azx,azC];rw[ag];simp only[kg,go_sem,ho1',ho2',z0];rw[hcall _ rfl];simp only[go_sem,e5];refine hpush _ _ (ih2 _ _ rfl rfl rfl rfl rfl rfl rfl rfl rfl rfl rfl rfl rfl ?_ rfl);simp only[bV,hx];rfl
   |cons x xs=>
    have hcl:R F.slices_Clone_int_int_ [.sl 1 (aI p.exps)] []=some (.osl 1 (aI p.exps),[]):=by
     rw[hx];exact TE (by have:=vp.ok.len;rw[hx]at this;simp at this;omega)
    rw[←hx];have hX0:=anu vp vq (A:=A) (Bt:=Bt) (nA:=nA) (iA:=iA) (nB:=(Bt.length:Int)) (iB:=(i:Int)) (o2:=o2) (o3:=.bx [I vb,.sl 4 (aD Bt)]) (o4:=.bx [I 0,.emp]) (o8:=.bx [.sl 1 (aI p.exps),B p.c.neg,lm p.c.m,I p.c.e]) (o10:=.bx [.sl 1 (aI q.exps),B q.c.neg,lm q.c.m,I q.c.e]) (o11:=.bx [B m.neg,lm m.m,I m.e]) (o2352:=t3 v' c e);have k9:(aI (kB p.exps q.exps)).take p.exps.length=aI (kB p.exps q.exps):=azg (by rw[rU,y8 hle];exact ayZ _);have k8l:(kB p.exps q.exps).length=p.exps.length:=y8 hle;simp only[kh,go_sem,g3,g4,g6,g8,g46,g47,g48,g53,g54,g55,k2,k3,k4,k8,k2352,ho1,ho2,e1,e2,hmul,hcl];generalize hXX:ah 5 _ _=X;obtain⟨hh,rfl,q2,q3,q4,q8,q10,q11,qc,q25,qd⟩:=hX0 _ _ _ hXX rfl rfl rfl rfl rfl rfl rfl rfl rfl rfl rfl rfl rfl rfl rfl rfl rfl rfl rfl rfl rfl rfl rfl (c2 _) rfl rfl rfl rfl rfl (ho _);simp only[go_sem,q11,q25,k9,k8l,ayX,ayZ];rw[hcall (upd hh 2576 (.fz 1 (aI (kB p.exps q.exps)))) (by rw[cj,if_neg δ];exact qc)];simp only[go_sem,e5];refine hpush _ _ (ih2 _ _ ?_ ?_ ?_ ?_ ?_ ?_ ?_ ?_ ?_ ?_ ?_ ?_ ?_ ?_ ?_)
    all_goals first|rfl| (simp only[cj,Nat.reduceEqDiff,↓reduceIte,q2,q3,q4,q8];done)| (simp only[cj,Nat.reduceEqDiff,↓reduceIte,q8];rfl)
  ·have f1:(em=0)=False:=ff hm;simp only[if_neg hm,Option.bind_none];refine⟨?hh1,?_,?_⟩;rotate_left
   ·simp only[kh,go_sem,g3,g4,g6,g8,g46,g47,g48,g53,g54,g55,k2,k3,k4,k8,k2352,ho1,ho2,e1,e2,hmul,f1];rfl
   ·rfl
theorem anv{v v':Int}{p:Rt}(vp:VT v p){A Bt:List Rt}(hB:∀q∈Bt,VT v q/\aS p.exps+aS q.exps<=32)(hn:Bt.length<=100000){nA iA:Int}{o2:Ob}(c2:∀ids,aA ids o2=true){vb:Int}
  {c:AV} {l:List Rt} {e:Int} (hc:mN c l) (he:e=0\/e=9) (hC:e=0->Cl v l/\l.length+Bt.length<=1000000) (s:ai) (h:ac) (X:Option (Ex×St)) (hX:ah 3 [3,4,6,46,47,48] (aq (aj R (az false) kh) [3,4,6,8,46,47,48,53,54,55] [2,3,4,8,2352] s h)=X)
  (g3:s 3=.ref 3 none 0 0 0) (g4:s 4=.ref 4 none 0 0 0) (g6:s 6=.ref 2352 none 0 0 0) (g8:s 8=.ref 8 none 0 0 0) (g46:s 46=.sl 4 (aD A)) (g47:s 47=I nA) (g48:s 48=I iA) (g53:s 53=.sl 4 (aD Bt)) (g54:s 54=I Bt.length) (g55:s 55=I 0) (k2:h 2=o2) (k3:h 3=.bx [I vb,.sl 4 (aD Bt)]) (k4:h 4=.bx [I 0,.emp]) (k8:h 8=.bx [.sl 1 (aI p.exps),B p.c.neg,lm p.c.m,I p.c.e]) (k2352:h 2352=t3 v' c e):
  Jh X (upd (upd (upd (upd (upd (upd (fun _=>.any) 48 (I iA)) 47 (I nA)) 46 (.sl 4 (aD A))) 6 (.ref 2352 none 0 0 0)) 4 (.ref 4 none 0 0 0)) 3 (.ref 3 none 0 0 0)) o2 (.bx [I vb,.sl 4 (aD Bt)]) v v' l e (oG p Bt):=by
 subst hX;exact afn vp hB hn c2 Bt.length 0 (ayX _) c l e hc he hC s h g3 g4 g6 g8 g46 g47 g48 g53 g54 g55 k2 k3 k4 k8 k2352
theorem ColE.app{v:Int}{l r r2:List Rt}{e:Int}{c1:AV}{l1:List Rt}{e1:Int}{c':AV}{l':List Rt}{e':Int}(h1:ColE v l r e c1 l1 e1)(h2:ColE v l1 r2 e1 c' l' e'):ColE v l (r++r2) e c' l' e':=by
 refine⟨h2.c,?_⟩;rw[Oj];rcases h1.r with⟨a1,a2,a3⟩| ⟨a1,a2⟩
 ·rw[a3];rcases h2.r with⟨b1,b2,b3⟩| ⟨b1,b2⟩
  ·exact .inl ⟨b1,a2,b3⟩
  ·exact .inr ⟨b1,fun _=>b2 a1⟩
 ·rcases h2.r with⟨b1,b2,b3⟩| ⟨b1,b2⟩
  ·omega
  ·exact .inr ⟨b1,fun h=>by rw[a2 h];rfl⟩
theorem ColE.nx{v:Int}{l r:List Rt}{e:Int}{c1:AV}{l1:List Rt}{e1:Int}(h:ColE v l r e c1 l1 e1)(hC:e=0->Cl v l)(hr:∀t∈r,VT v t):(e1=0\/e1=9)/\(e1=0->e=0/\Cl v l1/\l1.length<=l.length+r.length):=by
 rcases h.r with⟨a1,a2,a3⟩| ⟨a1,a2⟩
 ·exact⟨.inl a1,fun _=>⟨a2,H2 (hC a2) hr a3⟩⟩
 ·exact⟨.inr a1,fun h=>by omega⟩
theorem afo{v v':Int}{A Bt:List Rt}(hA:∀p∈A,VT v p)(hB:∀q∈Bt,VT v q)(hd:∀p∈A,∀q∈Bt,aS p.exps+aS q.exps<=32)(hn:Bt.length<=1000)(hm:A.length<=1000){o2:Ob}(c2:∀ids,aA ids o2=true){vb:Int}:
  ∀ (k i:Nat),i+k=A.length->∀ (c:AV) (l:List Rt) (e:Int),mN c l->(e=0\/e=9)->(e=0->Cl v l/\l.length+k*Bt.length<=1000000)->∀ (s:ai) (h:ac),s 3=.ref 3 none 0 0 0->s 4=.ref 4 none 0 0 0->s 6=.ref 2352 none 0 0 0->s 46=.sl 4 (aD A)->s 47=I A.length->s 48=I i->h 2=o2->h 3=.bx [I vb,.sl 4 (aD Bt)]->h 4=.bx [I 0,.emp]->h 2352=t3 v' c e->
  Jh (ah 1 [4,6] (aq (aj R (az false) tu) [3,4,6,46,47,48] [2,3,4,2352] s h)) (upd (upd (fun _=>.any) 6 (.ref 2352 none 0 0 0)) 4 (.ref 4 none 0 0 0)) o2 (.bx [I vb,.sl 4 (aD Bt)]) v v' l e (mO (A.drop i) Bt):=by
 intro k;induction k with
 |zero=>
  intro i hi c l e hc he hC s h g3 g4 g6 g46 g47 g48 k2 k3 k4 k2352;have e1:((i:Int)< (A.length:Int))=False:=ff;have ho:=(lA (v:=v') (e:=e) hc).cl [2,3,4,2352];have ho2:=c2 [2,3,4,2352];rw[azi ω,ag];refine⟨?hh0,c,l,e,?_,?_,?_,?_,?_,?_,⟨hc,?_⟩⟩;rotate_left
  ·simp only[tu,go_sem,g3,g4,g6,g46,g47,g48,k2,k3,k4,k2352,ho,ho2,e1];rfl
  ·rfl
  ·rfl
  ·rfl
  ·rfl
  ·intro a a1 a2 a3 a4 a5;simp only[cj,a1,a2,a3,a5,if_false]
  ·rcases he with rfl|rfl
   ·exact .inl ⟨rfl,rfl,rfl⟩
   ·exact .inr ⟨rfl,fun h=>by omega⟩
 |succ k ih=>
  intro i hi c l e hc he hC s h g3 g4 g6 g46 g47 g48 k2 k3 k4 k2352;have hlt:i<A.length:=ω
  have e1:((i:Int)< (A.length:Int))=True:=tt;have e2:aU (aD A) (i:Int)=some (.ipt (bV A[i])):=gy rfl (List.getElem?_eq_getElem hlt);have e5:IntKind.i64.wrap ((i:Int)+1)=((i+1:Nat):Int):=wi;have ho:=(lA (v:=v') (e:=e) hc).cl;have vp:=hA _ (azo hlt);have hdp:=hd _ (azo hlt);rw[azj hlt];have ih':=ih (i+1) ω;have hall:∀q ts,mO (q::ts) Bt=(oG q Bt).bind fun r=>(mO ts Bt).map (r++·):=fun q ts=>rfl;rw[hall];generalize A[i]=p at e2 vp hdp⊢;have hl1:=anv vp (A:=A) (Bt:=Bt) (nA:=(A.length:Int)) (iA:=(i:Int)) (fun q hq=>⟨hB q hq,hdp q hq⟩) ω c2 (vb:=vb) (v':=v') hc he (fun h=>by have:=hC h;rw[Nat.succ_mul]at this;exact⟨this.1,by omega⟩);have hRV:=fun r=>Ll (r:=r) vp (fun q hq=>⟨hB q hq,hdp q hq⟩);rw[ag];generalize aq _ _ _=L at ih'⊢;have ho1:=ho [2,3,4,2352];have ho2:=c2 [2,3,4,2352];simp only[bV]at e2;simp only[tu,go_sem,g3,g4,g6,g46,g47,g48,k2,k3,k4,k2352,ho1,ho2,e1,e2];generalize hXX:ah 3 _ _=X;have hM:=hl1 _ _ _ hXX rfl rfl rfl rfl rfl rfl rfl rfl rfl rfl rfl rfl rfl rfl rfl;cases hr:oG p Bt with
  |none=>
   rw[hr]at hM;obtain⟨hh,rfl,q4⟩:=hM;refine⟨hh,?_,q4⟩;simp only[go_sem]
  |some r=>
   rw[hr]at hM;obtain⟨hh,c1,l1,e1',rfl,q2,q3,q4,qc,qd,qe⟩:=hM;obtain⟨w1,w2⟩:=hRV r hr;obtain⟨n1,n2⟩:=qe.nx (fun h=>(hC h).1) w1;have ih2:=ih' c1 l1 e1' qe.c n1 (fun h=>by
    obtain⟨m1,m2,m3⟩:=n2 h;have:=(hC m1).2;rw[Nat.succ_mul]at this;exact⟨m2,by omega⟩)
   simp only[ay2];have hpush:∀ (S:ai) (H:ac),Jh (ah 1 [4,6] (L S H)) (upd (upd (fun _=>.any) 6 (.ref 2352 none 0 0 0)) 4 (.ref 4 none 0 0 0)) o2 (.bx [I vb,.sl 4 (aD Bt)]) v v' l1 e1' (mO (A.drop (i+1)) Bt)->Jh (ah 1 [4,6] (L S H)) (upd (upd (fun _=>.any) 6 (.ref 2352 none 0 0 0)) 4 (.ref 4 none 0 0 0)) o2 (.bx [I vb,.sl 4 (aD Bt)]) v v' l e ((mO (A.drop (i+1)) Bt).map (r++·)):=fun S H h=>by
    cases hr2:mO (A.drop (i+1)) Bt with
    |none=>rw[hr2]at h;exact h
    |some r2=>
     rw[hr2]at h;obtain⟨hh,c',l',e',q1,q2,q3,q4,q5,q6,q7⟩:=h;exact⟨hh,c',l',e',q1,q2,q3,q4,q5,q6,qe.app q7⟩
   simp only[go_sem,e5];refine hpush _ _ (ih2 _ _ ?_ ?_ ?_ ?_ ?_ ?_ ?_ ?_ ?_ ?_)
   all_goals first|rfl|assumption
theorem anw{v v':Int}{A Bt:List Rt}(hA:∀p∈A,VT v p)(hB:∀q∈Bt,VT v q)(hd:∀p∈A,∀q∈Bt,aS p.exps+aS q.exps<=32)(hn:Bt.length<=500)(hm:A.length<=500){o2:Ob}(c2:∀ids,aA ids o2=true){vb:Int}
  (s:ai) (h:ac) (X:Option (Ex×St)) (hX:ah 1 [4,6] (aq (aj R (az false) tu) [3,4,6,46,47,48] [2,3,4,2352] s h)=X) (g3:s 3=.ref 3 none 0 0 0) (g4:s 4=.ref 4 none 0 0 0) (g6:s 6=.ref 2352 none 0 0 0) (g46:s 46=.sl 4 (aD A)) (g47:s 47=I A.length) (g48:s 48=I 0) (k2:h 2=o2) (k3:h 3=.bx [I vb,.sl 4 (aD Bt)]) (k4:h 4=.bx [I 0,.emp]) (k2352:h 2352=.bx [I v',.emp,I 0]):
  Jh X (upd (upd (fun _=>.any) 6 (.ref 2352 none 0 0 0)) 4 (.ref 4 none 0 0 0)) o2 (.bx [I vb,.sl 4 (aD Bt)]) v v' [] 0 (mO A Bt):=by
 subst hX;exact afo hA hB hd ω ω c2 A.length 0 (ayX _) .emp [] 0 (.inr ⟨rfl,rfl⟩) (.inl rfl) (fun _=>⟨Cl.nil _,by
  have:A.length*Bt.length<=500*500:=Nat.mul_le_mul hm hn;show 0+_<=_;omega⟩) s h g3 g4 g6 g46 g47 g48 k2 k3 k4 k2352
theorem anx{v:Int}{t:Rt}(h:VT v t):0<=aS t.exps:=(Ek fun x hx=>(h.b x hx).1).1
theorem aaE{a:Rp}(oa:OkP a):-1<=gM a/\gM a<=32:=by
 unfold gM;split
 ·rename_i h;cases hg:a.terms.getLast? with
  |none=>simp
  |some t=>
   have vt:=(jZ oa h).1.t t (List.mem_of_getLast? hg);have:=anx vt;have:=vt.d;simp only[];omega
 ·omega
theorem akQ{a b:Rp}(oa:OkP a)(ob:OkP b):R F.poly_Mul [be a,be b] []=some (pV (Dy a b),[]):=by
 refine av acx rfl ?_;have hp:=R9 oa ob;have hda:=GG oa;have hdb:=GG ob;have bda:=aaE oa;have bdb:=aaE ob;simp only[be]at hp hda hdb;unfold Dy;cases hb:yz a b with
 |false=>
  rw[hb]at hp;rw[if_neg ay9];simp only[qD,wz,be,go_sem,hp];rfl
 |true=>
  rw[hb]at hp;rw[if_pos rfl];obtain⟨va,vb,hv⟩:=nu.1 hb;obtain⟨ka,a0,a8,al⟩:=jZ oa va;obtain⟨kb,b0,b8,bl⟩:=jZ ob vb;rw[←hv]at kb;have w1:IntKind.i64.wrap (gM a+gM b)=gM a+gM b:=i64_in _ ⟨by omega,by omega⟩;by_cases hd:a.terms.length≠0/\b.terms.length≠0/\32<gM a+gM b
  ·rw[if_pos hd];have e1:(0< (a.terms.length:Int))=True:=tt;have e2:(0< (b.terms.length:Int))=True:=tt;have e3:(32<gM a+gM b)=True:=eq_true hd.2.2;simp only[qD,wz,be,go_sem,hp,hda,hdb,w1,e1,e2,e3];rfl
  ·rw[if_neg hd];have hf:=XM oa ob va vb hd;have hemp:=Ce (v:=a.vars);have hl:=anw (v':=a.vars) (A:=a.terms) (Bt:=b.terms) ka.t kb.t hf ω ω (o2:=.bx [I a.vars,.sl 4 (aD a.terms)]) (fun _=>rfl) (vb:=b.vars);have fin:∀X:Option (Ex×St),Jh X (upd (upd (fun _=>.any) 6 (.ref 2352 none 0 0 0)) 4 (.ref 4 none 0 0 0)) (.bx [I a.vars,.sl 4 (aD a.terms)]) (.bx [I b.vars,.sl 4 (aD b.terms)]) a.vars a.vars [] 0 (mO a.terms b.terms)->
     je false [[.o 0 [],.o 5 [.o 2 [],.o 0 [],.o 2 [],.o 0 []]],[]] [.cell 4 2 true,.t 5] 0 (cH X (aj R (az false) (.seq (.ops [4,5] [cm 95 6,ca 96 F.poly_collector_done [.t 95],co 97 (.ext 0 (.t 96)),co 98 (.ext 1 (.t 96)),sr 2 (.t 4) (.t 97),cm 5 98]) .ret)))=some (pV (pj a.vars ((mO a.terms b.terms).bind (j5 []))),[]):=by
    intro X hM;cases hr:mO a.terms b.terms with
    |none=>
     rw[hr]at hM;obtain⟨hh,rfl,q4⟩:=hM;simp only[Option.bind_none,pj,pV,p0,be,go_sem,q4];rfl
    |some r=>
     rw[hr]at hM;obtain⟨hh,c',l',e',rfl,q2,q3,q4,qc,qd,qe⟩:=hM;obtain⟨o,hdn⟩:=C1 (d:=96) qc qe.c (by simp[cB,qd,bY]);have hd':=dB (bt.1.2.1 false) rfl hdn;rw[qe.fin]at hd';rw[ay2];generalize pj a.vars (j5 [] r)=z at hd'⊢;obtain⟨z1,z2⟩:=z;simp only[pV,be]at hd';simp only[pV,be,go_sem,q4,hd']
   by_cases h1:a.terms.length=0
   ·have e1:(0< (a.terms.length:Int))=False:=ff;simp only[qD,wz,be,go_sem,hp,e1,hemp,qx];generalize hX:ah 1 _ _=X;exact fin X (hl _ _ _ hX rfl rfl rfl rfl rfl rfl rfl rfl rfl rfl)
   ·have e1:(0< (a.terms.length:Int))=True:=tt;by_cases h2:b.terms.length=0
    ·have e2:(0< (b.terms.length:Int))=False:=ff;simp only[qD,wz,be,go_sem,hp,e1,e2,hemp,qx];generalize hX:ah 1 _ _=X;exact fin X (hl _ _ _ hX rfl rfl rfl rfl rfl rfl rfl rfl rfl rfl)
    ·have e2:(0< (b.terms.length:Int))=True:=tt;have e3:(32<gM a+gM b)=False:=eq_false fun h=>hd ⟨h1,h2,h⟩;simp only[qD,wz,be,go_sem,hp,hda,hdb,w1,e1,e2,e3,hemp,qx];generalize hX:ah 1 _ _=X;exact fin X (hl _ _ _ hX rfl rfl rfl rfl rfl rfl rfl rfl rfl rfl)
def IsL(x:AV)(l:List Rt):Prop:=x=.sl 4 (aD l)\/(x=.emp/\l=[])
theorem IsL.keep{x:AV}{l:List Rt}(h:IsL x l)(hs:List Nat):gS hs x=x:=by
 rcases h with rfl| ⟨rfl,_⟩<;>rfl
def IsD(c:List AV)(q:Rd):Prop:=c=[B q.neg,lm q.m,I q.e]\/(c=zb/\q=aG)
theorem IsD.cl{c:List AV}{q:Rd}(h:IsD c q)(l:List Nat):c.all (jk l)=true:=by
 rcases h with rfl| ⟨rfl,_⟩<;>rfl
theorem aih{a b:List Nat}(hl:a.length=b.length)(h2:a.length<4611686018427387904):∀ (k i:Nat),i+k=a.length->∀ (s:ai) (h:ac),s 0=.sl 1 (aC a)->s 1=.sl 1 (aC b)->s 12=I a.length->s 13=I i->
  ∃hh,ah 0 [] (aq (aj R (az false) cV) [0,1,12,13] [] s h)=if rY (a.drop i) (b.drop i)=true then some (.normal,⟨fun _=>.any,hh⟩)else some (.ret,⟨upd (fun _=>.any) 4 (B false),hh⟩):=by
 intro k;induction k with
 |zero=>
  intro i hi s h g0 g1 g12 g13;have e1:((i:Int)<a.length)=False:=ff;rw[azi ω,azi ω,ag];refine⟨?hh0,?_⟩;rotate_left
  ·simp only[cV,rY,go_sem,g0,g1,g12,g13,e1];rfl
 |succ k ih=>
  intro i hi s h g0 g1 g12 g13;have hlt:i<a.length:=ω
  have hlt2:i<b.length:=ω
  have e1:((i:Int)<a.length)=True:=tt;have e2:aU (aC a) (i:Int)=some (.ipt [U (a.getD i 0:Nat)]):=bu rfl hlt;have e3:aU (aC b) (i:Int)=some (.ipt [U (b.getD i 0:Nat)]):=bu rfl hlt2;have v1:a.getD i 0=a[i]:=by simp[List.getD,hlt]
  have v2:b.getD i 0=b[i]:=by simp[List.getD,hlt2]
  rw[v1]at e2;rw[v2]at e3;have e5:IntKind.i64.wrap ((i:Int)+1)=((i+1:Nat):Int):=wi;have ih':=ih (i+1) ω;rw[azj hlt,azj hlt2,ag];generalize a[i]=p at e2⊢;generalize b[i]=q at e3⊢;generalize aq _ _ _=L at ih'⊢;unfold rY;by_cases hpq:p=q
  ·have e4:((p:Int)=(q:Int))=True:=tt;rw[decide_eq_true hpq,ay5];simp only[cV,go_sem,g0,g1,g12,g13,e1,e2,e3,e4,e5];exact ih' _ _ rfl rfl rfl rfl
  ·have e4:((p:Int)=(q:Int))=False:=ff;rw[decide_eq_false hpq,ay6];simp only[if_neg ay9];refine⟨?hh1,?_⟩;rotate_left
   ·simp only[cV,go_sem,g0,g1,g12,g13,e1,e2,e3,e4];rfl
theorem aql{a b:List Nat}(hl:a.length=b.length)(h2:a.length<4611686018427387904)(s:ai)(h:ac)(X:Option (Ex×St))(hX:ah 0 [] (aq (aj R (az false) cV) [0,1,12,13] [] s h)=X)(g0:s 0=.sl 1 (aC a))(g1:s 1=.sl 1 (aC b))(g12:s 12=I a.length)(g13:s 13=I 0):
  ∃hh,X=if rY a b=true then some (.normal,⟨fun _=>.any,hh⟩)else some (.ret,⟨upd (fun _=>.any) 4 (B false),hh⟩):=by
 subst hX;exact aih hl h2 a.length 0 (ayX _) s h g0 g1 g12 g13
theorem anz{a b:List Nat}(h2:a.length<4611686018427387904):R F.slices_Equal_uint32_uint32_ [lm a,lm b] []=some (B (rY a b),[]):=by
 refine av Bb rfl ?_;by_cases h3:a.length=b.length
 ·have e3:((a.length:Int)=(b.length:Int))=True:=tt;have hl:=aql (a:=a) (b:=b) h3 h2;simp only[fW,ku,go_sem,e3];generalize hX:ah 0 [] _=X;obtain⟨hh,rfl⟩:=hl _ _ _ hX rfl rfl rfl rfl;cases rY a b with
  |true=>simp only[go_sem]
  |false=>simp only[go_sem]
 ·have e3:((a.length:Int)=(b.length:Int))=False:=ff;rw[Oo h3];simp only[fW,ku,go_sem,e3]
theorem FI{f:FuncId}{fd:FD}{args:List AV}{o:Ob}{r:AV×List Ob}(hE:cO.E f=none)(hC:cO.C f=some fd)(hk:cO.md.keep f=true)(h1:args.length=fd.np)
  (hz:je true fd.rs fd.res 1 (aj R (az true) fd.body (uw args) (upd (fun _=>.dead) 1000 o))=some r):R f args [o]=some r:=by
 refine KX true hE hC hk h1 σ ?_;rw[XG];exact hz
theorem afp{f:FuncId}{h:ac}{d id:Nat}{zas as':List AV}{o o':Ob}{res:AV}(hm:(az false).m f=[])(hk:(az false).keep f=true)(hn:bp ((az false).sh f) (zas++[.ref id none 0 0 0])=as'++[.ref id none 0 0 0])(hd:zas.all dat=true)(hd':as'.all dat=true)
  (hh:h id=o) (ho:OC o) (ho':OC o') (hb:bf o=true->bf o'=true) (hR:R f (as'++[.ref 1000 none 0 0 0]) [o]=some (res,[o'])) (hr:RT res) (h8:cF res<=8) (hfr:cB h (2000+8*d) (cF res)=true):
  bE R (az false) h d zas (.fn f [] [.ref id none 0 0 0])=some (res,upd h id o',[]):=by
 have hin:∀l:List AV,l.all dat=true->bS h [] (l++[.ref id none 0 0 0])=some (l++[.ref id none 0 0 0],h,[]):=by
  intro l;induction l with
  |nil=>intro _;rfl
  |cons x l ih=>
   intro h2;simp only[azm,ay1]at h2;simp only[azM,bS,List.headD_nil,P4 h2.1,ay2,List.tail_nil,ih h2.2,azb]
 have h1:=hin zas hd;have hp:bA [] ((zas++[AV.ref id none 0 0 0]).flatMap cr)=[id]:=by
  rw[List.flatMap_append,Cd fun x hx=>H4 (List.all_eq_true.1 hd x hx)];rfl
 have hre:ce h 40 [id] 0=[id]:=by
  simp[ce,hh,ho.ids,bA]
 have h3:bj [id] id=1000:=by simp[bj]
 have hall:(as'++[AV.ref id none 0 0 0]).all (aZ [id])=true:=by
  rw[List.all_append,ay1];exact⟨List.all_eq_true.2 fun x hx=>Lm (List.all_eq_true.1 hd' x hx) _,by simp[aZ,bo]⟩
 have hmap:(as'++[AV.ref id none 0 0 0]).map (dS (bj [id]))=as'++[.ref 1000 none 0 0 0]:=by
  rw[List.map_append,(azy (g:=fun c=>c) fun x hx=>H5 (List.all_eq_true.1 hd' x hx) _).trans (azN as')];simp[dS,kr,h3]
 have hob:([id].map fun a=>dT (bj [id]) (h a))=[o]:=by simp[hh,ho.ren]
 have hids:([id].all fun a=>aA [id] (h a)&&!bY (h a))=true:=by simp[hh,ho.cl,ho.nd]
 unfold bE;rw[if_neg (by simp[kt,hm])];simp only[dV,hm,ay8,h1,ay2,hp,hre,hn];unfold jK;rw[hall,hids,hmap,hob,hR,azs,if_pos rfl,ay2,hk,hm,ur];unfold eG;have hbf:cU h [] [id] [o']=true:=by
  have:=ho'.nd;cases h5:bf o with
  |false=>simp[cU,hh,h5,this]
  |true=>simp[cU,hh,h5,hb h5,this]
 have hend:mQ h [id] [] (res,[o'])=true:=by
  simp[mQ,Bp,hr.ok,ho'.cl]
 rw[if_pos ⟨rfl,by simp,h8,hfr,hbf,hend⟩];simp[ej,fT,hr.mat,hr.ren,ho'.ren]
theorem FJ{f g:FuncId}{h:ac}{d id:Nat}{zas as':List AV}{o o':Ob}{res:AV}(hm:(az false).m f=[])(hk:(az false).keep f=false)(hn:bp ((az false).sh f) (zas++[.fn g [] [.ref id none 0 0 0]])=as'++[.fn g [] [.ref id none 0 0 0]])(hd:zas.all dat=true)(hd':as'.all dat=true)
  (hh:h id=o) (ho:OC o) (ho':OC o') (hb:bf o=true->bf o'=true) (hR:R f (as'++[.fn g [] [.ref 1000 none 0 0 0]]) [o]=some (res,[o'])) (hr:RT res) (h8:cF res<=8) (hfr:cB h (2000+8*d) (cF res)=true):
  bE R (az false) h d (zas++[.fn g [] [.ref id none 0 0 0]]) (.fn f [] [])=some (res,upd h id o',[(id,true)]):=by
 have hin:∀l:List AV,l.all dat=true->bS h [] (l++[.fn g [] [.ref id none 0 0 0]])=some (l++[.fn g [] [.ref id none 0 0 0]],h,[]):=by
  intro l;induction l with
  |nil=>intro _;rfl
  |cons x l ih=>
   intro h2;simp only[azm,ay1]at h2;simp only[azM,bS,List.headD_nil,P4 h2.1,ay2,List.tail_nil,ih h2.2,azb]
 have h1:=hin zas hd;have hp:bA [] ((zas++[AV.fn g [] [.ref id none 0 0 0]]).flatMap cr)=[id]:=by
  rw[List.flatMap_append,Cd fun x hx=>H4 (List.all_eq_true.1 hd x hx)];rfl
 have hre:ce h 40 [id] 0=[id]:=by
  simp[ce,hh,ho.ids,bA]
 have h3:bj [id] id=1000:=by simp[bj]
 have hall:(as'++[AV.fn g [] [.ref id none 0 0 0]]).all (aZ [id])=true:=by
  rw[List.all_append,ay1];exact⟨List.all_eq_true.2 fun x hx=>Lm (List.all_eq_true.1 hd' x hx) _,by simp[aZ,bo]⟩
 have hmap:(as'++[AV.fn g [] [.ref id none 0 0 0]]).map (dS (bj [id]))=as'++[.fn g [] [.ref 1000 none 0 0 0]]:=by
  rw[List.map_append,(azy (g:=fun c=>c) fun x hx=>H5 (List.all_eq_true.1 hd' x hx) _).trans (azN as')];simp[dS,kr,h3]
 have hob:([id].map fun a=>dT (bj [id]) (h a))=[o]:=by simp[hh,ho.ren]
 have hids:([id].all fun a=>aA [id] (h a)&&!bY (h a))=true:=by simp[hh,ho.cl,ho.nd]
 unfold bE;rw[if_neg (by simp[kt,hm])];simp only[dV,hm,ay8,azb,h1,ay2,hp,hre,hn];unfold jK;rw[hall,hids,hmap,hob,hR,azs,if_pos rfl,ay2,hk,hm,ur];unfold eG;have hbf:cU h [] [id] [o']=true:=by
  have:=ho'.nd;cases h5:bf o with
  |false=>simp[cU,hh,h5,this]
  |true=>simp[cU,hh,h5,hb h5,this]
 have hend:mQ h [id] [] (res,[o'])=true:=by
  simp[mQ,Bp,hr.ok,ho'.cl]
 rw[if_pos ⟨rfl,by simp,h8,hfr,hbf,hend⟩];simp[ej,fT,hr.mat,hr.ren,ho'.ren]
theorem aii(x:Ri):OC (.bx (ax x)):=⟨fun _=>rfl,rfl,fun _=>rfl,rfl⟩
section
variable {α:Type} {Frow:α→List AV} {l:List α} {q:α→Bool}
def anA(f:FuncId)(o:Ob)(k:Nat)(g:Bool)(Frow:α->List AV)(l:List α)(q:α->Bool):Prop:=
 ∀x∈l,∃a a',lj k g (Frow x) 0=some a/\dat a=true/\dat a'=true/\bp ((az false).sh f) [a,.ref 1000 none 0 0 0]=[a',.ref 1000 none 0 0 0]/\R f [a',.ref 1000 none 0 0 0] [o]=some (B (q x),[o])
def auq(f:FuncId)(k:Nat)(g:Bool)(Frow:α->List AV)(l:List α)(q:α->Bool):Prop:=
 ∀x∈l,∃a,lj k g (Frow x) 0=some a/\dat a=true/\R f (bp ((az false).sh f) [a]) []=some (B (q x),[])
theorem afq{k:Nat}{g:Bool}{f:FuncId}{o:Ob}{cap:List AV}(hc:cap=[]/\o=.dead/\(az false).m f=[]/\auq f k g Frow l q\/cap=[.ref 1000 none 0 0 0]/\OC o/\(az false).m f=[]/\(az false).keep f=true/\anA f o k g Frow l q)(hl:l.length<4611686018427387904):∀ (rest:List α) (n:Nat),l.drop n=rest->n<=l.length->
  ∀ (s:ai) (h:ac),s 0=.sl k (l.map Frow)->s 1=.fn f [] cap->s 7=I l.length->s 8=I n->h 1000=o->
   ∃hh,cH (ah 0 [] (aq (aj R (az false) (rQ k g)) [0,1,7,8] [1000] s h)) (aj R (az false) pz)=some (.ret,⟨upd (fun _=>.any) 4 (I (AS q rest n)),hh⟩)/\hh 1000=o:=by
 have hcl:∀ids,aA ids o=true:=by
  rcases hc with⟨_,rfl,_⟩| ⟨_,h,_⟩
  ·exact fun _=>rfl
  ·exact h.cl
 have hcap:cap=[]\/cap=[.ref 1000 none 0 0 0]:=hc.imp (·.1) (·.1);intro rest;induction rest with
 |nil=>
  intro n hd hn s h h0 h1 h7 h8 h9;have e:n=l.length:=by
   have:=congrArg List.length hd;grind
  subst e;rw[ag];refine⟨?hh0,?_,?_⟩;rotate_left
  ·rcases hcap with rfl|rfl<;> (simp only[rQ,pz,go_sem,h0,h1,h7,h8,h9,hcl,azI,AS];try rfl)
  ·rfl
 |cons x rest ih=>
  intro n hd hn s h h0 h1 h7 h8 h9;have hlt:n<l.length:=by
   grind
  have hr:l[n]?=some x:=by
   have:=congrArg (·[0]?) hd;grind
  have ih':=ih (n+1) (by rw[←List.drop_drop,hd];rfl) hlt;have e1:((n:Int)< (l.length:Int))=True:=tt;have e2:aU (l.map Frow) (n:Int)=some (.ipt (Frow x)):=by simp[aU,hr]
  have e3:IntKind.i64.wrap ((n:Int)+1)=((n+1:Nat):Int):=by grind[i64_in]
  rw[ag];generalize aq _ _ _=L at ih'⊢;simp only[AS];rcases hc with⟨rfl,rfl,hm,hf⟩| ⟨rfl,ho,hm,hk,hf⟩
  ·obtain⟨a,ha,hda,hc⟩:=hf x (List.mem_of_getElem? hr);simp only[rQ,go_sem,h0,h1,h7,h8,h9,e1,e2,ha,CP _ hm,hda,hc];cases hp:q x with
   |true=>exact⟨_,by simp only[pz,go_sem];rfl,rfl⟩
   |false=>
    simp only[go_sem,e3,ay9];exact ih' _ _ rfl rfl rfl rfl rfl
  ·obtain⟨a,a',ha,hda,hda',hn2,hc⟩:=hf x (List.mem_of_getElem? hr);have hcc:=fun(h:ac) (d:Nat) (hh:h 1000=o) (hf:h (2000+8*d)=.dead)=>afp (f:=f) (h:=h) (d:=d) (id:=1000) (zas:=[a]) (as':=[a']) hm hk (by simpa using hn2) (by simp[hda]) (by simp[hda']) hh ho ho (fun h=>h) hc (XP _) (azJ rfl) (by simp[cB,cF,hf,bY]);simp only[rQ,go_sem,h0,h1,h7,h8,h9,hcl,e1,e2,ha];rw[hcc _ _ rfl rfl];cases hp:q x with
   |true=>
    simp only[pz,go_sem];exact⟨_,rfl,rfl⟩
   |false=>
    simp only[go_sem,e3,ay9];exact ih' _ _ rfl rfl rfl rfl rfl
noncomputable abbrev anB (k:Nat) (g:Bool):FD:=⟨2,[[]],[.t 4],.seq (.ops [0,1] [co 4 (.mv (.c (.v (.int .i64 0))))]) (.seq (.seq (.ops [0,1,7,8] [cm 6 0,co 7 (.len false (.t 6)),co 8 (.mv (.c (.v (.int .i64 0))))]) (.block 0 [] (.loop [0,1,7,8] [1000] (rQ k g)))) pz)⟩
variable {ci fi:FuncId} {fd fc:FD} {k:Nat} {g:Bool} {cs:List Sh}
structure Src (ci fi:FuncId) (k:Nat) (g:Bool) (cs:List Sh):Prop where
 iE:cO.E fi=none
 iC:cO.C fi=some (anB k g)
 ik:cO.md.keep fi=false
 im:(az false).m fi=[]
 ik':(az false).keep fi=false
 ish:(az false).sh fi=[[.o (k+1) cs],[]]
 cE:cO.E ci=none
 cC:cO.C ci=some (PR fi)
 ck:cO.md.keep ci=false
theorem Mh(S:Src ci fi k g cs){f:FuncId}{o:Ob}(ho:OC o)(hm:(az false).m f=[])(hk:(az false).keep f=true)(hl:l.length<4611686018427387904)(hr:(l.map Frow).map (dY cs)=l.map Frow)(hf:anA f o k g Frow l q):
  R ci [.sl k (l.map Frow),.fn f [] [.ref 1000 none 0 0 0]] [o]=some (B (l.any q),[o]):=by
 have h:R fi [.sl k (l.map Frow),.fn f [] [.ref 1000 none 0 0 0]] [o]=some (I (AS q l 0),[o]):=by
  refine xd S.iE S.iC S.ik rfl ?_;have hL:=afq (Frow:=Frow) (q:=q) (k:=k) (g:=g) (Or.inr ⟨rfl,ho,hm,hk,hf⟩) hl l 0 rfl (azH _);simp only[go_sem,ajf];have hL2:∀ (S:ai) (H:ac) (X:Option (Ex×St)),cH (ah 0 [] (aq (aj R (az false) (rQ k g)) [0,1,7,8] [1000] S H)) (aj R (az false) pz)=X->S 0=.sl k (l.map Frow)->S 1=.fn f [] [.ref 1000 none 0 0 0]->S 7=I l.length->S 8=I (0:Nat)->H 1000=o->
    ∃hh,X=some (.ret,⟨upd (fun _=>.any) 4 (I (AS q l 0)),hh⟩)/\hh 1000=o:=fun S H X hX a b c d e=>by
   rw[←hX];exact hL S H a b c d e
  generalize hX:cH (ah 0 [] (aq _ _ [1000] _ _)) (aj R (az false) pz)=X;obtain⟨hh,e,e9⟩:=hL2 _ _ _ hX rfl rfl (by simp only[go_sem,azW]) rfl rfl;rw[e];simp only[go_sem];exact uY rfl e9 (ho.cl _) rfl rfl
 refine xd S.cE S.cC S.ck rfl ?_;have ha:=N1 q l 0;have hc:=fun(h':ac) (d:Nat) (hh:h' 1000=o) (hf:h' (2000+8*d)=.dead)=>FJ (f:=fi) (g:=f) (h:=h') (d:=d) (id:=1000) (zas:=[.sl k (l.map Frow)]) (as':=[.sl k (l.map Frow)]) S.im S.ik'
  (by rw[S.ish];simp only[go_sem,hr,azM,ay8]) rfl rfl hh ho ho (fun h=>h) h (ah4 _) (azJ rfl) (by simp[cB,cF,hf,bY])
 simp only[azM,ay8]at hc;simp only[PR,go_sem];rw[hc _ _ rfl rfl];simp only[go_sem,ha];exact uY rfl rfl (ho.cl _) rfl rfl
end
theorem Ln{q:Nat}{u:Int}(hu:-16384<=u)(h:(cK (br false q u)).2=0):zI (cK (br false q u)).1=((q*2^ (u+16384).toNat:Nat):Int):=by
 have e1:br false q u=cx ((q*2^ (u+16384).toNat:Nat):Int) (-16384- (0:Nat)):=by
  unfold cx;rw[decide_eq_false ω,Int.natAbs_natCast,jX];grind
 rw[e1]at h⊢;have:=H0 (j:=0) h;omega
theorem Se{q:Nat}{n:Nat}(h:n<ae q):2^n<=q:=by
 refine Nat.le_of_not_lt fun h1=>?_;have:=bD.2 h1;omega
theorem Ji{M:Nat}{p f:Int}{s t:Nat}{more w:Bool}(h0:M≠0)(hp:8<=p/\p<=512)(hf:f+16384=(s:Int)-t)(hm:more=true->p< (ae M:Nat))(h:(cQ M f more p w).2=0):
  ∃n:Nat,zI (cQ M f more p w).1=(n:Int)/\(w=true->(M+more.toNat)*2^s<=n*2^t)/\(w=false->n*2^t<=M*2^s):=by
 obtain⟨u,hu⟩:∃u,fy M f p=u:=⟨_,rfl⟩;have hu1:-16384<=u/\f+(ae M:Nat)-p<=u/\(u=-16384\/u=f+(ae M:Nat)-p):=by
  grind[fy]
 unfold cQ at h⊢;rw[hu]at h⊢;obtain⟨q,hq⟩:∃q,nj w (rS M f more u)=q:=⟨_,rfl⟩;rw[hq]at h⊢;have hT:(w=true->(M+more.toNat)*2^s<=q*2^ ((u+16384).toNat+t))/\(w=false->q*2^ ((u+16384).toNat+t)<=M*2^s):=by
  unfold rS at hq;by_cases h1:u<=f
  ·have hmf:more=false:=by
    grind
   subst hmf;have hq2:q=M*2^ (f-u).toNat:=by
    grind[nj]
   rw[hq2,azq,←azc,show(f-u).toNat+((u+16384).toNat+t)=s by omega];grind
  ·rw[if_neg h1]at hq;obtain⟨d,hd⟩:∃d,(u-f).toNat=d:=⟨_,rfl⟩;rw[hd]at hq;rw[show(u+16384).toNat+t=d+s by omega,azc,←azq];have hd:=azV M (2^d);have hm:=azw M (aze d);unfold nj at hq;constructor
   ·intro hw;subst hw;refine ay7 _ ?_;by_cases hz:(more||decide (M%2^d≠0))=true
    ·rw[hz,az1,if_pos rfl]at hq;subst hq;have:=Bool.toNat_le more;grind
    grind
   ·intro hw;subst hw;subst hq;refine ay7 _ ?_;grind
 obtain⟨h1,h2⟩:=hT;unfold uC at h⊢;by_cases hb:16384< (ae q:Int)+u
 ·rw[if_pos hb]at h⊢;cases w with
  |true=>grind
  |false=>
   refine⟨_,Ln ω h,fun hw=>absurd hw ay9,fun _=>?_⟩;have h3:=h2 rfl;have h4:2^ (32768+t)<=M*2^s:=by
    by_cases hb0:ae q=0
    ·have hbm:=fR h0;have h5:=Se (show ae M-1<ae M by omega);refine ay3 ?_ (ay7 _ h5);rw[←azc];exact azD δ ω
    ·have h5:=Se (show ae q-1<ae q by omega);refine ay3 ?_ (ay3 (ay7 _ h5) h3);rw[←azc];exact azD δ ω
   have h7:(2^p.toNat-1)*2^ (16384-p+16384).toNat*2^t<=2^ (32768+t):=by
    rw[azq,←azc];refine ay3 (ay7 _ (Nat.sub_le _ 1)) ?_;rw[←azc];exact azD δ ω
   omega
 ·rw[if_neg hb]at h⊢;refine⟨_,Ln hu1.1 h,fun hw=>?_,fun hw=>?_⟩
  all_goals grind
theorem Sf{M:Nat}{f p:Int}{more w:Bool}:vd (cQ M f more p w).1=true:=by
 have hc:∀ (q:Nat) (u:Int),vd (cK (br false q u)).1=true:=fun q u=>by
  have:=(xc (z:=(q:Int)) (f:=u)).1;grind[cx,decide_eq_false,Int.natAbs_natCast]
 grind[cQ,uC,vd,aG]
theorem Mi{z p:Int}{j:Nat}{up:Bool}(hp:8<=p/\p<=512)(h:(jV z (-16384- (j:Int)) p up).2=0):(up=true->z<=zI (jV z (-16384- (j:Int)) p up).1*2^j)/\(up=false->zI (jV z (-16384- (j:Int)) p up).1*2^j<=z):=by
 unfold jV at h⊢;by_cases h0:z=0
 ·rw[if_pos h0,cZ rfl,Int.zero_mul,h0];omega
 ·unfold iw at h⊢;have key:∀w:Bool,(cQ z.natAbs (-16384- (j:Int)) false p w).2=0->∃n:Nat,zI (cQ z.natAbs (-16384- (j:Int)) false p w).1=(n:Int)/\(w=true->(z.natAbs:Int)<=(n:Int)*2^j)/\(w=false->(n:Int)*2^j<=(z.natAbs:Int)):=fun w hc=>by
   obtain⟨n,g1,g2,g3⟩:=Ji (s:=0) (t:=j) ω hp ω (fun h=>absurd h ay9) hc;refine⟨n,g1,fun hw=>?_,fun hw=>?_⟩
   all_goals grind
  by_cases hn:z<0
  ·grind[zF,Sf,Int.neg_mul]
  grind
theorem akR{c:Rd}{p:Int}(vc:vd c=true)(hp:bO p=true)(h:(cu c p false).2=0):zI (cu c p false).1<=zI c:=by
 have hp2:8<=p/\p<=512:=by
  simp_all[bO,ay1,decide_eq_true_eq]
 have hf:aY p [c]=0:=by grind[aY]
 unfold cu at h⊢;rw[if_pos hf]at h⊢;have:=(Mi (j:=0) hp2 h).2 rfl;grind
theorem akS{c:Rd}{p:Int}(vc:vd c=true)(hp:bO p=true)(h:(cu c p true).2=0):zI c<=zI (cu c p true).1:=by
 have hp2:8<=p/\p<=512:=by
  simp_all[bO,ay1,decide_eq_true_eq]
 have hf:aY p [c]=0:=by grind[aY]
 unfold cu at h⊢;rw[if_pos hf]at h⊢;have:=(Mi (j:=0) hp2 h).1 rfl;grind
def xt(T V:Nat):Nat:=min 4294967295 (T/V)
theorem aij{T L V2 M v w k W V:Nat}(hW:W=T*4294967296^k+L)(hV:V=V2*4294967296^k+M)(hL:L<4294967296^k)(hM:M<4294967296^k)(h2:V2=v*4294967296+w)(hv:2147483648<=v)(hlt:W<4294967296*V):
  W/V<=xt T V2/\xt T V2<=W/V+1:=by
 generalize 4294967296^k=b at*
 have hV2:9223372036854775808<=V2:=ω
 have hVp:0<V:=by
  omega
 have hV2p:0<V2:=ω
 constructor
 ·refine Nat.le_min.2 ⟨?_,?_⟩
  ·have:=(Nat.div_lt_iff_lt_mul hVp).2 hlt;omega
  ·rw[Nat.le_div_iff_mul_le hV2p];have h1:W/V*V<=W:=Nat.div_mul_le_self W V;have h3:W/V*V2*b<=W/V*V:=by
    simp_all[azq,azR]
   have h4:W/V*V2*b< (T+1)*b:=by
    grind
   have:=Nat.lt_of_mul_lt_mul_right h4;omega
 ·have hg:xt T V2*V2<=T:=by
   refine ay3 (ay7 V2 (Nat.min_le_right _ _)) (Nat.div_mul_le_self T V2)
  have hg2:xt T V2<=4294967295:=Nat.min_le_left _ _;generalize xt T V2=g at*
  have h1:g*V=g*V2*b+g*M:=γ
  have h2':g*V2*b<=T*b:=ay7 b hg;have h3:g*M<=4294967295*b:=Nat.mul_le_mul hg2 (Nat.le_of_lt hM);have h4:9223372036854775808*b<=V2*b:=ay7 b hV2;have h5:g*V<W+V:=ω
  cases g with
  |zero=>grind
  |succ g=>
   rw[azn,Nat.one_mul]at h5;exact Nat.succ_le_succ ((Nat.le_div_iff_mul_le hVp).2 ω)
theorem XT{q rest third v w T V:Nat}(hT:T=(q*v+rest)*4294967296+third)(hV:V=v*4294967296+w)(hVp:0<V)(hw:w<4294967296)(hq:q<=4294967296):
  (rest<4294967296/\rest*4294967296+third<q*w->T/V<q)/\(¬ (rest<4294967296/\rest*4294967296+third<q*w)->q<=T/V):=by
 have e1:q*V=q*v*4294967296+q*w:=γ
 constructor
 ·rw[Nat.div_lt_iff_lt_mul hVp];omega
 ·rw[Nat.le_div_iff_mul_le hVp];by_cases h1:rest<4294967296
  ·omega
  ·have:q*w<=4294967296*4294967296:=Nat.mul_le_mul hq (Nat.le_of_lt hw);omega
theorem Zz{top next third v w:Nat}(hv:0<v)(hvb:v<4294967296)(ht:top<=v)(hn:next<4294967296)(h3:third<4294967296):
  min (if v<=top then 4294967295 else(top*4294967296+next)/v) (((top*4294967296+next)*4294967296+third)/ (v*4294967296+w))=xt ((top*4294967296+next)*4294967296+third) (v*4294967296+w):=by
 unfold xt;by_cases h:v<=top
 ·rw[if_pos h]
 ·rw[if_neg h];have h1:((top*4294967296+next)*4294967296+third)/ (v*4294967296+w)<=(top*4294967296+next)/v:=by
   rw[Nat.le_div_iff_mul_le hv];have h2:=Nat.div_mul_le_self ((top*4294967296+next)*4294967296+third) (v*4294967296+w);grind
  have h2:(top*4294967296+next)/v<4294967296:=by
   rw[Nat.div_lt_iff_lt_mul hv];omega
  omega
def ue(q:Nat):List Nat->List Nat->Nat->Nat->List Nat×Nat×Nat
 |u::us,y::vs,c,b=>(((u+18446744073709551616- (q*y+c) %4294967296-b) %18446744073709551616%4294967296)::(ue q us vs ((q*y+c)/4294967296) ((u+18446744073709551616- (q*y+c) %4294967296-b) %18446744073709551616/9223372036854775808)).1,(ue q us vs ((q*y+c)/4294967296) ((u+18446744073709551616- (q*y+c) %4294967296-b) %18446744073709551616/9223372036854775808)).2)
 |_,_,c,b=>([],c,b)
theorem Sg{u s b:Nat}(hu:u<4294967296)(hs:s<4294967296)(hb:b<=1):
  (u+18446744073709551616-s-b) %18446744073709551616/9223372036854775808<=1/\(u+18446744073709551616-s-b) %18446744073709551616%4294967296+s+b=u+4294967296*((u+18446744073709551616-s-b) %18446744073709551616/9223372036854775808):=by
 omega
theorem XU{q:Nat}(hq:q<4294967296):∀ {us vs:List Nat} {c b:Nat},Lb us->Lb vs->us.length=vs.length->c<4294967296->b<=1->
  ab us+4294967296^vs.length*((ue q us vs c b).2.1+(ue q us vs c b).2.2)=ab (ue q us vs c b).1+q*ab vs+c+b/\(ue q us vs c b).2.1<4294967296/\(ue q us vs c b).2.2<=1/\Lb (ue q us vs c b).1/\(ue q us vs c b).1.length=vs.length
 |[],[],c,b,_,_,_,hc,hb=>by
  refine⟨?_,hc,hb,fun x hx=>(nomatch hx),rfl⟩;show 0+4294967296^0*(c+b)=0+q*0+c+b;omega
 |u::us,y::vs,c,b,hu,hv,hl,hc,hb=>by
  have hu0:=hu u σ;have hy0:=hv y σ;have hp:q*y+c<4294967296*4294967296:=by
   have h1:q*y<=4294967295*4294967295:=Nat.mul_le_mul ω ω;omega
  have hs:=azw (q*y+c) (by decide:0<4294967296);have hd:=azV (q*y+c) 4294967296;have hc2:(q*y+c)/4294967296<4294967296:=by
   omega
  obtain⟨k1,k2⟩:=Sg (b:=b) hu0 hs hb;have ih:=XU hq (us:=us) (vs:=vs) (c:=(q*y+c)/4294967296) (b:=(u+18446744073709551616- (q*y+c) %4294967296-b) %18446744073709551616/9223372036854775808) (fun x hx=>hu x γ) (fun x hx=>hv x γ) γ hc2 k1;obtain⟨i1,i2,i3,i4,i5⟩:=ih;unfold ue;generalize(u+18446744073709551616- (q*y+c) %4294967296-b) %18446744073709551616/9223372036854775808=b2 at*
  generalize(q*y+c)/4294967296=c2 at*
  generalize ue q us vs c2 b2=r at*
  refine⟨?_,i2,i3,fun x hx=>?_,by grind⟩
  ·grind[ab,azO,azl,azq,Nat.mul_add,Nat.mul_left_comm]
  ·rcases List.mem_cons.1 hx with rfl|hx
   ·omega
   ·exact i4 x hx
 |[],_::_,_,_,_,_,h,_,_=>by grind
 |_::_,[],_,_,_,_,h,_,_=>by grind
def oH(q top:Nat)(us vs:List Nat):List Nat×Nat×Bool:=
 ((ue q us vs 0 0).1,(top+18446744073709551616- (ue q us vs 0 0).2.1- (ue q us vs 0 0).2.2) %18446744073709551616%4294967296,decide ((top+18446744073709551616- (ue q us vs 0 0).2.1- (ue q us vs 0 0).2.2) %18446744073709551616/9223372036854775808=1))
theorem Si{q top:Nat}{us vs:List Nat}(hq:q<4294967296)(ht:top<4294967296)(hu:Lb us)(hv:Lb vs)(hl:us.length=vs.length):
  (ab us+4294967296^vs.length*top+(if(oH q top us vs).2.2=true then 4294967296^vs.length*4294967296 else 0)=ab (oH q top us vs).1+4294967296^vs.length*(oH q top us vs).2.1+q*ab vs)/\(oH q top us vs).2.1<4294967296/\Lb (oH q top us vs).1/\(oH q top us vs).1.length=vs.length:=by
 obtain⟨h1,h2,h3,h4,h5⟩:=XU hq hu hv hl (c:=0) (b:=0) δ δ;unfold oH;generalize ue q us vs 0 0=r at*
 obtain⟨r1,c,b⟩:=r;refine⟨?_,azw _ δ,h4,h5⟩;obtain⟨k1,k2⟩:=Sg (u:=top) (s:=c) (b:=b) ht h2 h3;generalize(top+18446744073709551616-c-b) %18446744073709551616/9223372036854775808=f at*
 generalize(top+18446744073709551616-c-b) %18446744073709551616%4294967296=t2 at*
 have e1:4294967296^vs.length*(c+b)+4294967296^vs.length*t2=4294967296^vs.length*top+4294967296^vs.length*4294967296*f:=by
  grind
 grind
def Bm(top:Nat)(us:List Nat):Nat:=(top*4294967296+us.getD (us.length-1) 0)*4294967296+us.getD (us.length-2) 0
def zH(vs:List Nat):Nat:=vs.getD (vs.length-1) 0*4294967296+vs.getD (vs.length-2) 0
def yg(top:Nat)(us vs:List Nat):List Nat×Nat×Nat:=
 if(oH (xt (Bm top us) (zH vs)) top us vs).2.2=true then
  (dk (oH (xt (Bm top us) (zH vs)) top us vs).1 vs vs.length,((oH (xt (Bm top us) (zH vs)) top us vs).2.1+eC (oH (xt (Bm top us) (zH vs)) top us vs).1 vs vs.length) %4294967296,xt (Bm top us) (zH vs)-1)
 else((oH (xt (Bm top us) (zH vs)) top us vs).1,(oH (xt (Bm top us) (zH vs)) top us vs).2.1,xt (Bm top us) (zH vs))
theorem XV{l:List Nat}{k:Nat}(h:l.length=k+2):ab l=(l.getD (k+1) 0*4294967296+l.getD k 0)*4294967296^k+ab (l.take k):=by
 have h1:=fm l (k+1);have h2:=fm l k;grind
theorem afr{top:Nat}{us vs:List Nat}{k:Nat}(ht:top<4294967296)(hu:Lb us)(hv:Lb vs)(hul:us.length=k+2)(hvl:vs.length=k+2)(hn:2147483648<=vs.getD (k+1) 0)(hlt:ab us+4294967296^ (k+2)*top<4294967296*ab vs):
  ab (yg top us vs).1+4294967296^ (k+2)*(yg top us vs).2.1=(ab us+4294967296^ (k+2)*top) %ab vs/\(yg top us vs).2.2=(ab us+4294967296^ (k+2)*top)/ab vs/\Lb (yg top us vs).1/\(yg top us vs).1.length=k+2/\(yg top us vs).2.1<4294967296:=by
 obtain⟨W,hW⟩:∃W,ab us+4294967296^ (k+2)*top=W:=⟨_,rfl⟩;obtain⟨V,hV⟩:∃V,ab vs=V:=⟨_,rfl⟩;have a1:=XV hul;have a2:=XV hvl;have l1:=cW (fK hu k);have l2:=cW (fK hv k);rw[azd,azS ω]at l1 l2;have hT:W=Bm top us*4294967296^k+ab (us.take k):=by
  unfold Bm;grind
 have hV2:V=zH vs*4294967296^k+ab (vs.take k):=by
  grind[zH]
 rw[hW]at hlt⊢;rw[hV]at hlt⊢;obtain⟨g1,g2⟩:=aij hT hV2 l1 l2 (show zH vs=vs.getD (k+1) 0*4294967296+vs.getD k 0 by grind[zH]) hn hlt;have hgb:xt (Bm top us) (zH vs)<4294967296:=by
  grind[xt,Bm,zH,Nat.min_le_left]
 unfold yg;generalize xt (Bm top us) (zH vs)=g at*
 obtain⟨t1,t2,t3,t4⟩:=Si (q:=g) hgb ht hu hv ω;generalize oH g top us vs=r at*
 obtain⟨r1,r2,f⟩:=r;simp only at t1 t2 t3 t4⊢;rw[hvl,hW,hV]at t1;rw[hvl]at t4;have hVp:0<V:=by
  omega
 have hdm:=azV W V;have hml:=azw W hVp;have hVb:V<4294967296^ (k+2):=by grind[cW]
 have hrb:ab r1<4294967296^ (k+2):=by grind[cW]
 generalize hB:4294967296^ (k+2)=b at*
 cases f with
 |false=>
  simp only[azK,if_false,azA]at t1⊢;have h1:g<=W/V:=(Nat.le_div_iff_mul_le hVp).2 ω;have h2:g=W/V:=Nat.le_antisymm h1 g1;refine⟨?_,h2,t3,t4,t2⟩;rw[h2,azl (W/V) V]at t1;omega
 |true=>
  simp only[if_true]at t1⊢;have hbr:b*r2+ab r1<b*4294967296:=by
   have h1:b*(r2+1)<=b*4294967296:=azR b ω;rw[Nat.mul_add,Nat.mul_one]at h1;omega
  have h1:¬g<=W/V:=fun h=>by
   have:=(Nat.le_div_iff_mul_le hVp).1 h;omega
  have h2:g=W/V+1:=ω
  have s1:=IZ r1 vs (k+2);rw[hB,azg ω,azg ω,hV]at s1;have s2:=RB r1 vs (k+2);have s3:(dk r1 vs (k+2)).length=k+2:=by unfold dk;rw[azW,List.length_range]
  have s4:ab (dk r1 vs (k+2))<b:=by
   have:=cW s2;rw[s3,hB]at this;exact this
  rw[hvl];refine⟨?_,by show g-1=W/V;rw[h2,Nat.add_sub_cancel],s2,s3,azw _ δ⟩;rw[h2,azn,Nat.one_mul,azl (W/V) V]at t1;have e1:ab (dk r1 vs (k+2))+b*(eC r1 vs (k+2)+r2)=b*4294967296+W%V:=by
   rw[Nat.mul_add];omega
  have hc:eC r1 vs (k+2)+r2=4294967296:=by
   have h3:¬eC r1 vs (k+2)+r2<4294967296:=fun h=>by
    have h4:b*(eC r1 vs (k+2)+r2+1)<=b*4294967296:=azR b h;rw[Nat.mul_add b _ 1,Nat.mul_one]at h4;omega
   have h5:¬4294967296<eC r1 vs (k+2)+r2:=fun h=>by
    have h4:b*(4294967296+1)<=b*(eC r1 vs (k+2)+r2):=azR b h;omega
   omega
  rw[hc]at e1;rw[Nat.add_comm r2,hc,Nat.mod_self,Nat.mul_zero];omega
def pk(u:List Nat)(j:Nat)(us:List Nat)(top:Nat):List Nat:=u.take j++(us++top::u.drop (j+us.length+1))
def zJ(vs:List Nat):Nat->List Nat->List Nat×List Nat
 |0,u=>(u,[])
 |j+1,u=>((zJ vs j (pk u j (yg (u.getD (j+vs.length) 0) ((u.drop j).take vs.length) vs).1 (yg (u.getD (j+vs.length) 0) ((u.drop j).take vs.length) vs).2.1)).1,
   (zJ vs j (pk u j (yg (u.getD (j+vs.length) 0) ((u.drop j).take vs.length) vs).1 (yg (u.getD (j+vs.length) 0) ((u.drop j).take vs.length) vs).2.1)).2++[(yg (u.getD (j+vs.length) 0) ((u.drop j).take vs.length) vs).2.2])
theorem GI(l:List Nat)(i:Nat)(h:i<=l.length):ab l=ab (l.take i)+4294967296^i*ab (l.drop i):=by
 grind[eA,List.take_append_drop,azd,azS]
theorem aik(l:List Nat)(x:Nat):ab (l++[x])=ab l+4294967296^l.length*x:=by
 rw[eA];show _+_*(x+4294967296*0)=_;grind
theorem aaF{u:List Nat}{j n V:Nat}(hu:Lb u)(hl:j+n<u.length)(hV:V<4294967296^n)(h:ab (u.drop (j+1))<V):
  ab ((u.drop j).take n)+4294967296^n*u.getD (j+n) 0=ab (u.drop j)/\ab (u.drop (j+n+1))=0/\ab (u.drop j)<4294967296*V:=by
 have h0:=fF u j;have hj:=bU hu j;have h1:=GI (u.drop j) (n+1) γ;rw[List.drop_drop,fm]at h1;have h2:(u.drop j).getD n 0=u.getD (j+n) 0:=by
  grind
 rw[h2,show j+(n+1)=j+n+1 by omega]at h1;have h4:ab (u.drop (j+n+1))=0:=by
  refine Nat.eq_zero_of_not_pos fun hp=>?_;have:4294967296^ (n+1)*1<=4294967296^ (n+1)*ab (u.drop (j+n+1)):=azR _ hp;omega
 grind
theorem FK{u us:List Nat}{j top:Nat}(h:j+us.length<u.length):(pk u j us top).length=u.length:=by
 grind[pk,azr,azp,azd,azQ]
theorem Sj{u us:List Nat}{j top:Nat}(hu:Lb u)(hs:Lb us)(ht:top<4294967296):Lb (pk u j us top):=by
 grind[pk,qi,jt,fK,nK]
theorem Lo{u us:List Nat}{j top:Nat}(h:j<=u.length):(pk u j us top).drop j=us++top::u.drop (j+us.length+1):=by
 unfold pk;rw[List.drop_append_of_le_length (by rw[azd];omega),List.drop_of_length_le (by rw[azd];omega),ay8]
theorem afs{u us:List Nat}{j top:Nat}(h:j<=u.length):(pk u j us top).take j=u.take j:=by
 unfold pk;rw[List.take_append_of_le_length (by rw[azd];omega),List.take_take,Nat.min_self]
theorem w2'{u:List Nat}{j n s2:Nat}(h:ab (u.drop (j+n+1))=0):ab (s2::u.drop (j+n+1))=s2:=by
 simp_all[ab,Nat.mul_zero,azA]
theorem aft{vs:List Nat}{k:Nat}(hv:Lb vs)(hvl:vs.length=k+2)(hn:2147483648<=vs.getD (k+1) 0):
  ∀ (j:Nat) (u:List Nat),Lb u->j+(k+2)<=u.length->ab (u.drop j)<ab vs->ab u=ab (zJ vs j u).1+ab vs*ab (zJ vs j u).2/\ab (zJ vs j u).1<ab vs/\(zJ vs j u).2.length=j/\(zJ vs j u).1.length=u.length/\Lb (zJ vs j u).1/\Lb (zJ vs j u).2
 |0,u,hu,_,h=>by
  refine⟨?_,h,rfl,rfl,hu,fun x hx=>(nomatch hx)⟩;show ab u=ab u+ab vs*0;omega
 |j+1,u,hu,hl,h=>by
  have hVb:ab vs<4294967296^ (k+2):=by grind[cW]
  obtain⟨w1,w2,w3⟩:=aaF (n:=k+2) hu ω hVb h;have hlen:((u.drop j).take (k+2)).length=k+2:=γ
  have hs:=afr (top:=u.getD (j+(k+2)) 0) (bU hu _) (fK (nK hu j) (k+2)) hv hlen hvl hn ω;rw[w1]at hs;unfold zJ;rw[hvl];generalize yg (u.getD (j+(k+2)) 0) ((u.drop j).take (k+2)) vs=s at*
  obtain⟨s1,s2,s3⟩:=s;obtain⟨d1,d2,d3,d4,d5⟩:=hs;simp only at d1 d2 d3 d4 d5⊢;have hd:ab ((pk u j s1 s2).drop j)=ab (u.drop j) %ab vs:=by
   grind[Lo,eA,w2']
  have hVp:0<ab vs:=ω
  have ih:=aft hv hvl hn j (pk u j s1 s2) (Sj hu d3 d5) (by grind[FK]) (by simp_all[azw]);obtain⟨i1,i2,i3,i4,i5,i6⟩:=ih;have hval:=GI (pk u j s1 s2) j (by grind[FK]);rw[afs ω,hd]at hval;have hval2:=GI u j ω;generalize zJ vs j (pk u j s1 s2)=r at*
  obtain⟨r1,r2⟩:=r;refine⟨?_,i2,by grind,by rw[i4,FK ω],i5,?_⟩
  ·grind[aik,Nat.mul_add,azV,ab,Nat.mul_left_comm,Nat.add_comm]
  ·rw[qi];refine⟨i6,fun x hx=>?_⟩
   simp_all[Nat.div_lt_iff_lt_mul]
attribute [-go_sem] Pg LY in
theorem adb{third v w T V:Nat}(hV:V=v*4294967296+w)(hv:2147483648<=v)(hvb:v<4294967296)(hw:w<4294967296)(h3:third<4294967296):
  ∀ (k q rest:Nat),4294967296<=rest+k*2147483648->q<=4294967295->rest<8589934592->T=(q*v+rest)*4294967296+third->∀ (s:ai) (h:ac),s 0=W q->s 1=W rest->s 2=U third->s 3=U v->s 4=U w->
  ∃hh,ah 0 [0] (aq (aj R (az false) gI) [0,1,2,3,4] [] s h)=some (.normal,⟨upd (fun _=>.any) 0 (W (min q (T/V):Nat)),hh⟩):=by
 intro k;induction k with
 |zero=>
  intro q rest hk hq hr hT s h g0 g1 g2 g3 g4;have hs:=(XT (q:=q) hT hV ω hw ω).2 (fun h=>by omega);have e1:((rest:Int)<4294967296)=False:=ff;rw[azS hs,ag];refine⟨fun _=>.dead,?_⟩;simp only[gI,go_sem,g0,g1,g2,g3,g4,e1]
 |succ k ih=>
  intro q rest hk hq hr hT s h g0 g1 g2 g3 g4;have hd:=XT (q:=q) hT hV ω hw ω;by_cases hlt:rest<4294967296
  ·have e1:((rest:Int)<4294967296)=True:=tt;have hqw:q*w<=4294967295*4294967295:=Nat.mul_le_mul hq ω;have e2:IntKind.u64.wrap ((q:Int)*(w:Int))=((q*w:Nat):Int):=dK σ ω;have e3:=Gz (n:=rest) (k:=32) (i:=(rest:Int)) (kk:=.u64) (j:=32) rfl rfl δ ω;have e4:=N6 (m:=rest*2^32) (n:=third) (i:=((rest*2^32:Nat):Int)) (j:=(third:Int)) rfl rfl ω ω;rw[Fq (x:=rest) (c:=third) (k:=32) ω]at e4;have e5:IntKind.u64.wrap (third:Int)=third:=dK rfl ω;have e6:IntKind.u64.wrap (w:Int)=w:=dK rfl ω;have e7:IntKind.u64.wrap (v:Int)=v:=dK rfl ω;by_cases hc:rest*4294967296+third<q*w
   ·have e8:(((rest*2^32+third:Nat):Int)< ((q*w:Nat):Int))=True:=tt;have hq1:1<=q:=Nat.pos_of_ne_zero fun h0=>by grind
    have e9:IntKind.u64.wrap ((q:Int)-1)=((q-1:Nat):Int):=dK ω ω;have e10:IntKind.u64.wrap ((rest:Int)+(v:Int))=((rest+v:Nat):Int):=dK σ ω;have hT2:T=((q-1)*v+(rest+v))*4294967296+third:=by
     rw[hT,Nat.sub_mul,Nat.one_mul];have:v<=q*v:=Nat.le_mul_of_pos_left v hq1;omega
    have ih':=ih (q-1) (rest+v) ω ω ω hT2;have hm:min q (T/V)=min (q-1) (T/V):=ω
    rw[hm,ag];simp only[gI,go_sem,g0,g1,g2,g3,g4,e1,e2,e3,e4,e5,e6,e7,e8,e9,e10];exact ih' _ _ rfl rfl rfl rfl rfl
   ·have e8:(((rest*2^32+third:Nat):Int)< ((q*w:Nat):Int))=False:=ff;have hs:=hd.2 (fun h=>hc h.2);rw[azS hs,ag];refine⟨fun _=>.dead,?_⟩;simp only[gI,go_sem,g0,g1,g2,g3,g4,e1,e2,e3,e4,e5,e6,e8]
  ·have hs:=hd.2 (fun h=>hlt h.1);have e1:((rest:Int)<4294967296)=False:=ff;rw[azS hs,ag];refine⟨fun _=>.dead,?_⟩;simp only[gI,go_sem,g0,g1,g2,g3,g4,e1]
theorem akT{q rest third v w T V:Nat}(hV:V=v*4294967296+w)(hv:2147483648<=v)(hvb:v<4294967296)(hw:w<4294967296)(h3:third<4294967296)(hq:q<=4294967295)(hr:rest<8589934592)(hT:T=(q*v+rest)*4294967296+third)(s:ai)(h:ac)(X:Option (Ex×St))(hX:ah 0 [0] (aq (aj R (az false) gI) [0,1,2,3,4] [] s h)=X)(g0:s 0=W q)(g1:s 1=W rest)(g2:s 2=U third)(g3:s 3=U v)(g4:s 4=U w):
  ∃hh,X=some (.normal,⟨upd (fun _=>.any) 0 (W (min q (T/V):Nat)),hh⟩):=by
 subst hX;exact adb hV hv hvb hw h3 2 q rest ω hq hr hT s h g0 g1 g2 g3 g4
theorem XW{q rest third v w T V:Nat}(hV:V=v*4294967296+w)(hv:2147483648<=v)(hvb:v<4294967296)(hw:w<4294967296)(h3:third<4294967296)(hq:q<=4294967295)(hr:rest<8589934592)(hT:T=(q*v+rest)*4294967296+third):
  R F.natural_digit [W q,W rest,U third,U v,U w] []=some (W (min q (T/V):Nat),[]):=by
 refine av PQ rfl ?_;have hl:=akT hV hv hvb hw h3 hq hr hT;simp only[yU,Gt,go_sem];generalize hX:ah 0 _ _=X;obtain⟨hh,rfl⟩:=hl _ _ _ hX rfl rfl rfl rfl rfl;simp only[go_sem]
attribute [-go_sem] Pg LY in
theorem ail{top next third v w:Nat}(hv:2147483648<=v)(hvb:v<4294967296)(ht:top<=v)(hn:next<4294967296)(h3:third<4294967296)(hw:w<4294967296):
  R F.natural_guess [U top,U next,U third,U v,U w] []=some (W (xt ((top*4294967296+next)*4294967296+third) (v*4294967296+w):Nat),[]):=by
 refine av PO rfl ?_;rw[←Zz ω hvb ht hn h3];have c1:IntKind.u64.wrap (next:Int)=next:=dK rfl ω
 have c2:IntKind.u64.wrap (v:Int)=v:=dK rfl ω;have c3:IntKind.u64.wrap (top:Int)=top:=dK rfl ω;by_cases h:v<=top
 ·have e1:((v:Int)<=(top:Int))=True:=tt;rw[if_pos h];have e2:IntKind.u32.wrap ((top:Int)- (v:Int))=0:=by
   rw[show(top:Int)- (v:Int)=0 by omega];rfl
  have e3:IntKind.u64.wrap 0=0:=rfl;have e4:=Gz (n:=0) (k:=32) (i:=0) (kk:=.u64) (j:=32) rfl rfl δ δ;have e5:IntKind.u64.wrap (0+(next:Int))=next:=dK ω ω
  have e6:IntKind.u64.wrap ((next:Int)+(v:Int))=((next+v:Nat):Int):=dK σ ω;have hd:=XW (q:=4294967295) (rest:=next+v) (third:=third) (v:=v) (w:=w) (T:=(top*4294967296+next)*4294967296+third) rfl hv hvb hw h3 δ ω (by
   omega)
  have e7:(((4294967295:Nat):Int))=4294967295:=rfl;rw[e7]at hd;rw[Nat.zero_mul]at e4;simp only[azC]at e4;simp only[sU,AM,go_sem,e1,e2,e3,e4,e5,e6,c1,c2,hd]
 ·have e1:((v:Int)<=(top:Int))=False:=ff;rw[if_neg h];have e4:=Gz (n:=top) (k:=32) (i:=(top:Int)) (kk:=.u64) (j:=32) rfl rfl δ ω;have e5:=N6 (m:=top*2^32) (n:=next) (i:=((top*2^32:Nat):Int)) (j:=(next:Int)) rfl rfl ω ω;rw[Fq (x:=top) (c:=next) (k:=32) ω,show top*2^32+next=top*4294967296+next from rfl]at e5;obtain⟨N,hN⟩:∃N,top*4294967296+next=N:=⟨_,rfl⟩
  rw[hN]at e5⊢;have hNb:N<18446744073709551616:=ω
  have e6:dq .quo (W N) (W v)=some (W (N/v:Nat)):=by
   rw[LX,if_neg ω,Int.tdiv_eq_ediv_of_nonneg ω];have:N/v<=N:=Nat.div_le_self _ _;grind[dK]
  have e7:dq .rem (W N) (W v)=some (W (N%v:Nat)):=by
   rw[ww,if_neg ω,Int.tmod_eq_emod_of_nonneg ω];rfl
  have hm:=azw N (show 0<v by omega);have hq:N/v<=4294967295:=by
   have:N/v<4294967296:=by
    rw[Nat.div_lt_iff_lt_mul ω];omega
   omega
  have hd:=XW (q:=N/v) (rest:=N%v) (third:=third) (v:=v) (w:=w) (T:=N*4294967296+third) rfl hv hvb hw h3 hq ω (by
   rw[azl (N/v) v,azV])
  simp only[sU,AM,go_sem,e1,e4,e5,e6,e7,c1,c2,c3,hd]
attribute [-go_sem] Pg LY in
theorem aim{a b y:Nat}(hay:a<y)(hy:y<4294967296)(hb:b<4294967296):
  R F.bits_Div32 [U a,U b,U y] []=some (.tup [U ((a*4294967296+b)/y:Nat),U ((a*4294967296+b) %y:Nat)],[]):=by
 refine av WS rfl ?_;have e1:((y:Int)=0)=False:=ff;have e2:((y:Int)<=(a:Int))=False:=ff;have c1:IntKind.u64.wrap (a:Int)=a:=dK rfl ω;have c2:IntKind.u64.wrap (b:Int)=b:=dK rfl ω;have c3:IntKind.u64.wrap (y:Int)=y:=dK rfl ω;have e4:=Gz (n:=a) (k:=32) (i:=(a:Int)) (kk:=.u64) (j:=32) rfl rfl δ ω;have e5:=N6 (m:=a*2^32) (n:=b) (i:=((a*2^32:Nat):Int)) (j:=(b:Int)) rfl rfl ω ω;rw[Fq (x:=a) (c:=b) (k:=32) ω,show a*2^32+b=a*4294967296+b from rfl]at e5;rw[show a*2^32=a*4294967296 from rfl]at e4 e5;obtain⟨N,hN⟩:∃N,a*4294967296+b=N:=⟨_,rfl⟩;rw[hN]at e5⊢;have e6:dq .quo (W N) (W y)=some (W (N/y:Nat)):=by
  rw[LX,if_neg ω,Int.tdiv_eq_ediv_of_nonneg ω];have:N/y<=N:=Nat.div_le_self _ _;rw[dK (n:=N/y) σ ω]
 have e7:dq .rem (W N) (W y)=some (W (N%y:Nat)):=by
  rw[ww,if_neg ω,Int.tmod_eq_emod_of_nonneg ω];rfl
 have hm:=azw N (show 0<y by omega);have hq:N/y<4294967296:=by
  rw[Nat.div_lt_iff_lt_mul ω];have h3:(a+1)*4294967296<=y*4294967296:=ay7 _ ω;rw[azl 4294967296 y];omega
 have w1:IntKind.u32.wrap ((N/y:Nat):Int)=((N/y:Nat):Int):=DK rfl hq;have w2:IntKind.u32.wrap ((N%y:Nat):Int)=((N%y:Nat):Int):=DK rfl ω;simp only[Dw,KS,go_sem,e1,e2,e4,e5,e6,e7,c1,c2,c3,w1,w2]
def fA(y:Nat):List Nat->List Nat×Nat
 |[]=>([],0)
 |x::l=>(((fA y l).2*4294967296+x)/y::(fA y l).1,((fA y l).2*4294967296+x) %y)
theorem El{y:Nat}(hy:0<y):∀ {l:List Nat},Lb l->ab l=ab (fA y l).1*y+(fA y l).2/\(fA y l).2<y/\(fA y l).1.length=l.length
 |[],_=>⟨by simp[fA,ab],hy,rfl⟩
 |x::l,hl=>by
  obtain⟨h1,h2,h3⟩:=El hy (l:=l) fun z hz=>hl z (by simp[hz]);unfold fA;refine⟨?_,azw _ hy,by simp[h3]⟩;show x+4294967296*ab l=(((fA y l).2*4294967296+x)/y+4294967296*ab (fA y l).1)*y+((fA y l).2*4294967296+x) %y;have hm:=azV ((fA y l).2*4294967296+x) y;rw[azl]at hm;rw[azn,azq];generalize((fA y l).2*4294967296+x)/y*y=A at*
  omega
theorem aaG{y:Nat}(hy:0<y)(hyb:y<4294967296):∀ {l:List Nat},Lb l->Lb (fA y l).1
 |[],_=>fun x hx=>(nomatch hx)
 |x::l,hl=>by
  have hl':Lb l:=fun z hz=>hl z (by simp[hz]);have h2:=(El hy hl').2.1;have hx:=hl x σ;intro z hz;rcases List.mem_cons.1 hz with h|h
  ·rw[h];show((fA y l).2*4294967296+x)/y<4294967296;rw[Nat.div_lt_iff_lt_mul hy];have h3:((fA y l).2+1)*4294967296<=y*4294967296:=ay7 _ ω;rw[azl 4294967296 y];omega
  ·exact aaG hy hyb hl' z h
theorem ain{a:List Nat}(ha:Lb a){y:Nat}(hy:0<y)(hyb:y<4294967296)(h1:a.length<=100000):
  ∀ (m:Nat),m<=a.length->∀ (s:ai) (h:ac),s 0=lm a->s 1=U y->s 6=.rsl 11 none 1 0 a.length->s 7=U ((fA y (a.drop m)).2:Nat)->s 8=I ((m:Int)-1)->h 11=.ar 1 (aC (ayW m 0++(fA y (a.drop m)).1))->
  ∃hh,ah 0 [6,7] (aq (aj R (az false) lG) [0,1,6,7,8] [11] s h)=some (.normal,⟨upd (upd (fun _=>.any) 7 (U ((fA y a).2:Nat))) 6 (.rsl 11 none 1 0 a.length),hh⟩)/\hh 11=.ar 1 (aC (fA y a).1)/\(∀x,x≠11->hh x=.dead):=by
 intro m;induction m with
 |zero=>
  intro hm s h g0 g1 g6 g7 g8 k11;have e1:(0<=(((0:Nat):Int)-1))=False:=ff;rw[ag];refine⟨?hh0,?_,?_,?_⟩;rotate_left
  ·simp only[lG,go_sem,g0,g1,g6,g7,g8,k11,e1];rfl
  all_goals simp_all[cj,if_false]
 |succ m ih=>
  intro hm s h g0 g1 g6 g7 g8 k11;have hlt:m<a.length:=ω
  have hd:a.drop m=a.getD m 0::a.drop (m+1):=by
   simp_all
  have ha':Lb (a.drop (m+1)):=nK ha _;obtain⟨q1,q2,q3⟩:=El hy ha';have e0:(((m+1:Nat):Int)-1)=(m:Int):=ω
  rw[e0]at g8;have e1:(0<=(m:Int))=True:=tt;have e2:aU (aC a) (m:Int)=some (.ipt [U (a.getD m 0:Nat)]):=bu rfl ω;have e3:IntKind.i64.wrap ((m:Int)-1)=(m:Int)-1:=i64_in _ ⟨by omega,by omega⟩;have e5:((m:Int)< (a.length:Int))=True:=tt;have e6:=aim (a:=(fA y (a.drop (m+1))).2) (b:=a.getD m 0) q2 hyb (bU ha m);have ih':=ih ω;rw[hd]at ih';have hs1:(fA y (a.getD m 0::a.drop (m+1))).1=((fA y (a.drop (m+1))).2*4294967296+a.getD m 0)/y::(fA y (a.drop (m+1))).1:=rfl;have hs2:(fA y (a.getD m 0::a.drop (m+1))).2=((fA y (a.drop (m+1))).2*4294967296+a.getD m 0) %y:=rfl;rw[hs1,hs2]at ih';generalize((fA y (a.drop (m+1))).2*4294967296+a.getD m 0)/y=qd at*
  have e7:(aC (ayW (m+1) 0++(fA y (a.drop (m+1))).1))[m]?=some [U (0:Nat)]:=by
   rw[kY γ,List.getD_eq_getElem?_getD,List.getElem?_append_left σ,List.getElem?_replicate,if_pos ω];rfl
  have e8:(aC (ayW (m+1) 0++(fA y (a.drop (m+1))).1)).set m [U (qd:Nat)]=aC (ayW m 0++qd::(fA y (a.drop (m+1))).1):=by
   rw[py];rw[List.replicate_succ',azB,List.set_append_right _ _ σ];simp
  rw[ag];simp only[lG,go_sem,g0,g1,g6,g7,g8,k11,e1,e2,e3,e5,e6,e7,e8,ay4,ayX];exact ih' _ _ rfl rfl rfl rfl rfl rfl
theorem aqm{a:List Nat}(ha:Lb a){y:Nat}(hy:0<y)(hyb:y<4294967296)(h1:a.length<=100000)(s:ai)(h:ac)(X:Option (Ex×St))(hX:ah 0 [6,7] (aq (aj R (az false) lG) [0,1,6,7,8] [11] s h)=X)
  (g0:s 0=lm a) (g1:s 1=U y) (g6:s 6=.rsl 11 none 1 0 a.length) (g7:s 7=U 0) (g8:s 8=I ((a.length:Int)-1)) (k11:h 11=.ar 1 (aC (ayW a.length 0))):
  ∃hh,X=some (.normal,⟨upd (upd (fun _=>.any) 7 (U ((fA y a).2:Nat))) 6 (.rsl 11 none 1 0 a.length),hh⟩)/\hh 11=.ar 1 (aC (fA y a).1)/\(∀x,x≠11->hh x=.dead):=by
 subst hX;have hn:a.drop a.length=[]:=List.drop_of_length_le (ayZ _);refine ain ha hy hyb h1 a.length (ayZ _) s h g0 g1 g6 ?_ g8 ?_
 ·rw[hn];exact g7
 ·rw[hn];show h 11=.ar 1 (aC (ayW a.length 0++[]));grind
theorem aio{a:List Nat}(ha:Lb a){y:Nat}(hy:0<y)(hyb:y<4294967296)(h1:a.length<=100000):R F.natural_short [lm a,U y] []=some (.tup [lm (fA y a).1,U ((fA y a).2:Nat)],[]):=by
 refine av PN rfl ?_;have hl:=aqm ha hy hyb h1;have e3:IntKind.i64.wrap ((a.length:Int)-1)=(a.length:Int)-1:=i64_in _ ⟨by omega,by omega⟩;have e4:=se (i:=(a.length:Int)) (j:=(a.length:Int)) rfl rfl (ayZ _) ω;have e5:(a.length*4<=140737488355328)=True:=tt;simp only[yT,Gr,go_sem,e3,e4,e5,BX];generalize hX:ah 0 _ _=X;obtain⟨hh,rfl,q11,qd⟩:=hl _ _ _ hX rfl rfl rfl rfl rfl rfl;have hlen:=(El hy ha).2.2;simp only[go_sem,q11,hlen,ayX,ayZ]
theorem XX{u s b:Nat}(hu:u<4294967296)(hs:s<4294967296)(hb:b<4294967296):IntKind.u64.wrap (IntKind.u64.wrap ((u:Int)- (s:Int))- (b:Int))=(((u+18446744073709551616-s-b) %18446744073709551616:Nat):Int):=by
 grind[IntKind.wrap,IntKind.bits,IntKind.signed]
attribute [-go_sem] QU Hv in
theorem afu{V Z:List Nat}{q lo:Nat}(hV:Lb V)(hq:q<4294967296)(hn:V.length<=100000)(hlo:lo<=100000):
  ∀ (vs us P:List Nat) (i c b:Nat),i+vs.length=V.length->V.drop i=vs->us.length=vs.length->P.length=lo+i->Lb us->c<4294967296->b<=1->∀ (s:ai) (h:ac),s 0=.rsl 1000 none 1 lo (V.length+1)->s 1=lm V->s 2=W q->s 7=W c->s 8=W b->s 14=lm V->s 15=I V.length->s 16=I i->h 1000=.ar 1 (aC (P++(us++Z)))->
  ∃hh,ah 0 [0,1,7,8] (aq (aj R (az false) mK) [0,1,2,7,8,14,15,16] [1000] s h)=some (.normal,⟨upd (upd (upd (upd (fun _=>.any) 8 (W ((ue q us vs c b).2.2:Nat))) 7 (W ((ue q us vs c b).2.1:Nat))) 1 (lm V)) 0 (.rsl 1000 none 1 lo (V.length+1)),hh⟩)/\hh 1000=.ar 1 (aC (P++((ue q us vs c b).1++Z))):=by
 intro vs;induction vs with
 |nil=>
  intro us P i c b hi hd hl hP hu hc hb s h g0 g1 g2 g7 g8 g14 g15 g16 k;have hus:us=[]:=List.length_eq_zero_iff.1 hl;subst hus;have hi':i=V.length:=ω
  subst hi';rw[ag];refine⟨?hh0,?_,?_⟩;rotate_left
  ·simp only[mK,go_sem,g0,g1,g2,g7,g8,g14,g15,g16,k,azI];rfl
  ·rfl
 |cons y vs ih=>
  intro us P i c b hi hd hl hP hu hc hb s h g0 g1 g2 g7 g8 g14 g15 g16 k;obtain⟨u,us,rfl⟩:∃u us',us=u::us':=by
   cases us with
   |nil=>grind
   |cons u us=>grind
  have hi2:i<V.length:=γ
  have hy:V.getD i 0=y/\V.drop (i+1)=vs:=by
   grind[azj]
  have hyb:y<4294967296:=by grind[bU]
  have hub:=hu u σ;have hqy:q*y<=4294967295*4294967295:=Nat.mul_le_mul ω ω;have e1:((i:Int)< (V.length:Int))=True:=tt;have e2:aU (aC V) (i:Int)=some (.ipt [U (y:Nat)]):=by
   grind[bu]
  have e3:IntKind.i64.wrap ((i:Int)+1)=((i+1:Nat):Int):=wi;have e4:(0<=(i:Int))=True:=tt;have e5:((i:Int)< ((V.length+1:Nat):Int))=True:=tt;have c1:IntKind.u64.wrap (y:Int)=y:=dK rfl ω;have c2:IntKind.u64.wrap ((q:Int)*(y:Int))=((q*y:Nat):Int):=dK σ ω;have c3:IntKind.u64.wrap (((q*y:Nat):Int)+(c:Int))=((q*y+c:Nat):Int):=dK σ ω;have c4:=sW (n:=q*y+c) (k:=32) (i:=((q*y+c:Nat):Int)) (kk:=.u64) (j:=32) rfl rfl ω;rw[show(2:Nat)^32=4294967296 from rfl]at c4;have c5:IntKind.u64.wrap (u:Int)=u:=dK rfl ω;have c6:=FB (n:=q*y+c) (i:=((q*y+c:Nat):Int)) rfl ω;have hs:=azw (q*y+c) (by decide:0<4294967296);have hc2:(q*y+c)/4294967296<4294967296:=by
   omega
  have c7:=XX (b:=b) hub hs ω;obtain⟨k1,_⟩:=Sg (b:=b) hub hs hb;have ih':=ih us (P++[(u+18446744073709551616- (q*y+c) %4294967296-b) %18446744073709551616%4294967296]) (i+1) ((q*y+c)/4294967296) ((u+18446744073709551616- (q*y+c) %4294967296-b) %18446744073709551616/9223372036854775808) γ hy.2 γ γ (fun x hx=>hu x (by simp[hx])) hc2 k1;unfold ue;generalize(u+18446744073709551616- (q*y+c) %4294967296-b) %18446744073709551616=x at*
  have c8:IntKind.u32.wrap (x:Int)=((x%4294967296:Nat):Int):=IY rfl;have c9:=sW (n:=x) (k:=63) (i:=(x:Int)) (kk:=.u64) (j:=63) rfl rfl ω;rw[show(2:Nat)^63=9223372036854775808 from rfl]at c9;have e7:(aC (P++(u::us++Z)))[lo+i]?=some [U (u:Nat)]:=by
   rw[kY (by simp[hP]),List.getD_eq_getElem?_getD,List.getElem?_append_right ω,hP,az2];rfl
  have e8:(aC (P++(u::us++Z))).set (lo+i) [U ((x%4294967296:Nat):Int)]=aC (P++[x%4294967296]++(us++Z)):=by
   rw[py,←hP,List.set_append_right _ _ (ayZ _),az2,azB];rfl
  simp only[azB,azM,ay8]at ih' e7 e8 k⊢;rw[ag];generalize aq _ _ _=L at ih'⊢;simp only[mK,go_sem,g0,g1,g2,g7,g8,g14,g15,g16,k,e1,e2,e3,e4,e5,e7,e8,c1,c2,c3,c4,c5,c6,c7,c8,c9,ay4];exact ih' _ _ rfl rfl rfl rfl rfl rfl rfl rfl rfl
theorem anD{V Z us P:List Nat}{q lo:Nat}(hV:Lb V)(hq:q<4294967296)(hn:V.length<=100000)(hlo:lo<=100000)(hl:us.length=V.length)(hP:P.length=lo)(hu:Lb us)(s:ai)(h:ac)(X:Option (Ex×St))(hX:ah 0 [0,1,7,8] (aq (aj R (az false) mK) [0,1,2,7,8,14,15,16] [1000] s h)=X)
  (g0:s 0=.rsl 1000 none 1 lo (V.length+1)) (g1:s 1=lm V) (g2:s 2=W q) (g7:s 7=W 0) (g8:s 8=W 0) (g14:s 14=lm V) (g15:s 15=I V.length) (g16:s 16=I 0) (k:h 1000=.ar 1 (aC (P++(us++Z)))):
  ∃hh,X=some (.normal,⟨upd (upd (upd (upd (fun _=>.any) 8 (W ((ue q us V 0 0).2.2:Nat))) 7 (W ((ue q us V 0 0).2.1:Nat))) 1 (lm V)) 0 (.rsl 1000 none 1 lo (V.length+1)),hh⟩)/\hh 1000=.ar 1 (aC (P++((ue q us V 0 0).1++Z))):=by
 subst hX
 simp_all[afu]
attribute [-go_sem] Hv in
theorem akU{V us P Q:List Nat}{q lo top:Nat}(hV:Lb V)(hq:q<4294967296)(hn:V.length<=100000)(hlo:lo<=100000)(hl:us.length=V.length)(hP:P.length=lo)(hu:Lb us)(ht:top<4294967296):
  R F.natural_take [.rsl 1000 none 1 lo (V.length+1),lm V,W q] [.ar 1 (aC (P++(us++top::Q)))]=some (B (oH q top us V).2.2,[.ar 1 (aC (P++((oH q top us V).1++(oH q top us V).2.1::Q)))]):=by
 refine xd Rw Ru (DJ false) rfl ?_;have hx:=anD (Z:=top::Q) hV hq hn hlo hl hP hu;obtain⟨t1,t2,t3,t4,t5⟩:=XU hq hu hV hl (c:=0) (b:=0) δ δ;unfold oH;have e4:(0<=(V.length:Int))=True:=tt;have e5:((V.length:Int)< ((V.length+1:Nat):Int))=True:=tt;simp only[AN,HN,go_sem];generalize hX:ah 0 _ _=X;obtain⟨hh,rfl,q1⟩:=hx _ _ _ hX rfl rfl rfl rfl rfl rfl rfl rfl rfl;generalize ue q us V 0 0=r at*
 obtain⟨r1,c,b⟩:=r;simp only at t2 t3 t4 t5 q1⊢;have c5:IntKind.u64.wrap (top:Int)=top:=dK rfl ω;have c7:=XX (u:=top) (s:=c) (b:=b) ht t2 ω;generalize(top+18446744073709551616-c-b) %18446744073709551616=x at*
 have c8:IntKind.u32.wrap (x:Int)=((x%4294967296:Nat):Int):=IY rfl;have c9:=sW (n:=x) (k:=63) (i:=(x:Int)) (kk:=.u64) (j:=63) rfl rfl ω;have e7:(aC (P++(r1++top::Q)))[lo+V.length]?=some [U (top:Nat)]:=by
  simp_all[kY,Nat.add_sub_cancel_left,az2]
 have e8:(aC (P++(r1++top::Q))).set (lo+V.length) [U ((x%4294967296:Nat):Int)]=aC (P++(r1++x%4294967296::Q)):=by
  rw[py,List.set_append_right _ _ ω,List.set_append_right _ _ ω,hP,t5,Nat.add_sub_cancel_left,az2];rfl
 have e9:(((x/9223372036854775808:Nat):Int)=1)=(x/9223372036854775808=1):=by
  grind
 simp only[go_sem,q1,e4,e5,e7,e8,c5,c7,c8,c9,e9,ay4];rfl
theorem afv{V us P Q:List Nat}{q lo top:Nat}(hV:Lb V)(hq:q<4294967296)(hn:V.length<=100000)(hlo:lo<=100000)(hl:us.length=V.length)(hP:P.length=lo)(hu:Lb us)(ht:top<4294967296){h:ac}{d id:Nat}(hh:h id=.ar 1 (aC (P++(us++top::Q))))(hd:h (2000+8*d)=.dead):
  bE R (az false) h d [.rsl id none 1 lo (V.length+1),lm V,W q] (.fn F.natural_take [] [])=some (B (oH q top us V).2.2,upd h id (.ar 1 (aC (P++((oH q top us V).1++(oH q top us V).2.1::Q)))),[(id,true)]):=by
 have hm:=Rx false;have hs:=PP false;have hk:=DJ false;have hf:=akU (Q:=Q) hV hq hn hlo hl hP hu ht;have hb':kt (az false) [.rsl id none 1 lo (V.length+1),lm V,W q] (.fn F.natural_take [] [])=false:=by
  grind[kt]
 have h1:bS h [1,0,0] [.rsl id none 1 lo (V.length+1),.sl 1 (aC V),W q]=some ([.rsl id none 1 lo (V.length+1),.sl 1 (aC V),W q],h,[]):=by
  simp[bS,dE,xg,gg,aE]
 have hr:ce h 40 [id] 0=[id]:=by
  grind[ce,oZ,bA]
 have hp:bA [] ([AV.rsl id none 1 lo (V.length+1),.sl 1 (aC V),W q].flatMap cr)=[id]:=by
  simp[cr,fP,bA]
 have h3:bj [id] id=1000:=by simp[bj]
 have hnr:cF (B (oH q top us V).2.2)=1:=rfl;have hnm:bp [[.o 2 []],[.o 2 []],[]] [.rsl id none 1 lo (V.length+1),.sl 1 (aC V),W q]=[.rsl id none 1 lo (V.length+1),.sl 1 (aC V),W q]:=by
  simp only[go_sem];rfl
 unfold bE;rw[if_neg γ];simp only[lm]at hf⊢;simp only[dV,hm,ay8,azb,h1,ay2,hp,hr,hs,hnm];simp[jK,aZ,bo,hh,aA,bY,dS,kr,h3,dT,hf,eG,hnr,cB,hd,cU,bf,mQ,Bp,sv,fP,jJ,fC,F3,ej,mat,dU,fT,hk,GW,hm]
theorem aip{V us P Z Qr:List Nat}{sh n j g:Int}{UL QL J:Nat}(hV:Lb V)(hu:Lb us)(hl:us.length=V.length)(hn:V.length<=100000)(hP:P.length=J)(hj:j=J)(hJ:J<=100000)(hUL:J+V.length<=UL):
  ∀ (k i:Nat),i+k=V.length->∀ (s:ai) (h:ac),s 8=I sh->s 9=.rsl 2408 none 1 0 UL->s 10=lm V->s 11=I n->s 12=.rsl 70 none 1 0 QL->s 13=I j->s 14=W g->s 15=U (eC us V i:Nat)->s 123=lm V->s 124=I V.length->s 125=I i->h 63=.dead->h 70=.ar 1 (aC Qr)->h 2408=.ar 1 (aC (P++(dk us V i++(us.drop i++Z))))->
  ∃hh,ah 4 [8,9,10,11,12,13,14,15] (aq (aj R (az false) iO) [8,9,10,11,12,13,14,15,123,124,125] [63,70,2408] s h)=some (.normal,⟨upd (upd (upd (upd (upd (upd (upd (upd (fun _=>.any) 15 (U (eC us V V.length:Nat))) 14 (W g)) 13 (I j)) 12 (.rsl 70 none 1 0 QL)) 11 (I n)) 10 (lm V)) 9 (.rsl 2408 none 1 0 UL)) 8 (I sh),hh⟩)/\hh 70=.ar 1 (aC Qr)/\hh 2408=.ar 1 (aC (P++(dk us V V.length++Z)))/\(∀a,a≠70->a≠2408->hh a=.dead):=by
 subst hj;intro k;induction k with
 |zero=>
  intro i hi s h g8 g9 g10 g11 g12 g13 g14 g15 g123 g124 g125 k63 k70 k2408;have hi':i=V.length:=ω
  subst hi';rw[List.drop_of_length_le ω,ay8]at k2408;rw[ag];refine⟨?hh0,?_,?_,?_,?_⟩;rotate_left
  ·simp only[iO,go_sem,g8,g9,g10,g11,g12,g13,g14,g15,g123,g124,g125,k63,k70,k2408,azI];rfl
  all_goals simp_all[cj,if_false,ite_self]
 |succ k ih=>
  intro i hi s h g8 g9 g10 g11 g12 g13 g14 g15 g123 g124 g125 k63 k70 k2408;have hlt:i<V.length:=ω
  have hd:us.drop i=us.getD i 0::us.drop (i+1):=by
   simp_all
  have hsl:=jG us V i;rw[hd,azM]at k2408;have e1:((i:Int)< (V.length:Int))=True:=tt;have e2:aU (aC V) (i:Int)=some (.ipt [U (V.getD i 0:Nat)]):=bu rfl ω;have e3:IntKind.i64.wrap ((i:Int)+1)=((i+1:Nat):Int):=wi;have e4:IntKind.i64.wrap ((J:Int)+(i:Int))=((J+i:Nat):Int):=wi;have e5:(0<=((J+i:Nat):Int))=True:=tt;have e6:(((J+i:Nat):Int)< (UL:Int))=True:=tt;have e9:=N2 (bU hu i) (bU hV i) (Fn hu hV i);have e7:(aC (P++(dk us V i++(us.getD i 0::(us.drop (i+1)++Z)))))[J+i]?=some [U (us.getD i 0:Nat)]:=by
   simp_all[kY,Nat.add_sub_cancel_left,az2]
  have e8:(aC (P++(dk us V i++(us.getD i 0::(us.drop (i+1)++Z))))).set (J+i) [U (((us.getD i 0+V.getD i 0+eC us V i) %4294967296:Nat):Int)]=aC (P++(dk us V (i+1)++(us.drop (i+1)++Z))):=by
   rw[py,List.set_append_right _ _ ω,List.set_append_right _ _ ω,hP,hsl,Nat.add_sub_cancel_left,az2];simp[dk,List.range_succ,Hi]
  have ih':=ih (i+1) ω;have hc:eC us V (i+1)=(us.getD i 0+V.getD i 0+eC us V i)/4294967296:=rfl;rw[ag];simp only[iO,go_sem,g8,g9,g10,g11,g12,g13,g14,g15,g123,g124,g125,k63,k70,k2408,e1,e2,e3,e4,e5,e6,e7,e8,e9,ay4,ayX];exact ih' _ _ rfl rfl rfl rfl rfl rfl rfl rfl rfl rfl rfl rfl rfl rfl
end Go.Ab
