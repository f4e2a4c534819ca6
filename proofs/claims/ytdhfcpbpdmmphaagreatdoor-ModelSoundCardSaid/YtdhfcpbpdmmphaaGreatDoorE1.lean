/-
  A law of models holds at every input that the statement speaks of, under the conditions that its card names. Part E1.
-/
import Derived.Test.YtdhfcpbpdmmphaaGreatDoorD1
open Nat renaming add_mul → ayA, add_zero → ayF, div_add_mod → ay4, le_of_ble_eq_true → ayU, le_refl → ayd, le_trans → ayj, lt_of_le_of_lt → ayS, lt_of_lt_of_le → ay8, min_eq_left → ay0, mod_eq_of_lt → ayV, mod_lt → ayI, mul_assoc → ayD, mul_comm → ayy, mul_le_mul_left → ay7, mul_le_mul_right → aym, pow_add → ayn, pow_le_pow_right → ayP, pow_succ → ayZ, reduceMod → ayQ, reduceSub → ayG, two_pow_pos → ayr, zero_add → ayc, zero_le → ayB
open Int renaming eq_ofNat_of_zero_le → aze, lt_irrefl → ay6, natCast_zero → ayO, reduceEq → ayH, reduceLE → ayN, reduceLT → ayz, reduceToNat → ayE, toNat_natCast → ayk
open Bool renaming and_eq_true → ayf, and_false → ay1, and_self → ayK, false_and → ayh, false_eq_true → aza, false_ne_true → ayl, not_eq_true' → azf, true_and → ayg, true_or → ay9
open List renaming all_cons → ayJ, all_eq_true → ayx, append_assoc → ayX, append_nil → ayp, cons_append → ayW, drop_eq_getElem_cons → ayv, drop_eq_nil_of_le → ayw, drop_zero → azb, getElem_mem → ayC, length_append → ay5, length_cons → ayL, length_drop → azd, length_nil → ayR, length_replicate → azc, length_take → ayo, map_congr_left → ayM, map_cons → ays, map_id' → ayY, map_nil → ayu, mem_map → ay2, nil_append → ayq, replicate → aya, take_length → aEf, take_of_length_le → ayt
open Option renaming bind_eq_some_iff → ayb, bind_some → ayi, map_eq_some_iff → aye, map_some → ayT
set_option linter.all false
namespace Go.Ab
open Go Go.IntWalk
set_option maxRecDepth 4000
set_option maxHeartbeats 4000000
theorem QX{m:List Nat}{i:Nat}(h:m.length<=i):m.getD i 0=0:=by
 grind
theorem aeQ(a b:List Nat)(i:Nat):dj a b (i+1)=dj a b i++[Gh a b i]:=by simp[dj,List.range_succ]
theorem aeR(a b:List Nat)(i:Nat):jU a b (i+1)=jU a b i++[HW a b i]:=by simp[jU,List.range_succ]
theorem aeS{a b:List Nat}(ha:Lb a)(hb:Lb b)(h1:a.length<=100000)(h2:b.length<=100000):∀ (k i:Nat),i+k=max a.length b.length->∀ (s:ak) (h:ac),s 0=lm a->s 1=lm b->s 6=W (ez a b i:Nat)->s 7=I i->FE 49 (dj a b i) (s 5) (h 49)->
  ∃x hh,ai 0 [5,6] (ax (aj R (az false) eM) [0,1,5,6,7] [49] s h)=some (.normal,⟨upd (upd (fun _=>.any) 6 (W (ez a b (max a.length b.length):Nat))) 5 x,hh⟩)/\FE 49 (dj a b (max a.length b.length)) x (hh 49)/\∀a,a≠49->hh a=.dead:=by
 intro k;induction k with
 |zero=>
  intro i hi s h h0 g1 h6 h7 hacc;have e1:((i:Int)< (a.length:Int))=False:=ff;have e2:((i:Int)< (b.length:Int))=False:=ff;have:i=max a.length b.length:=ω
  rw[←this];rw[ag];rcases hacc with⟨g2,h5,hh⟩| ⟨g2,h5,hh⟩
  ·refine⟨.emp,?hh0,?_,Or.inl ⟨g2,rfl,?_⟩,?_⟩;rotate_left
   ·simp only[eM,go_sem,h0,g1,h5,h6,h7,hh,e1,e2];rfl
   all_goals simp_all[cV,if_false]
  ·refine⟨.rsl 49 none 1 0 (dj a b i).length,?hh1,?_,Or.inr ⟨g2,rfl,?_⟩,?_⟩;rotate_left
   ·simp only[eM,go_sem,h0,g1,h5,h6,h7,hh,e1,e2];rfl
   all_goals simp_all[cV,if_false]
 |succ k ih=>
  intro i hi s h h0 g1 h6 h7 hacc;have ih':=ih (i+1) ω;have hx:=bO ha i;have hy:=bO hb i;have hc:=Es ha hb i;have e3:IntKind.i64.wrap ((i:Int)+1)=((i+1:Nat):Int):=wi;have q1:((dj a b i).length+1)*4<=140737488355328:=by grind[jh]
  have f3:=tt q1;have e4:IntKind.u64.wrap (a.getD i 0:Int)=(a.getD i 0:Int):=dK rfl ω;have e5:IntKind.u64.wrap (b.getD i 0:Int)=(b.getD i 0:Int):=dK rfl ω;have f8:=qz (n:=a.getD i 0+b.getD i 0+ez a b i) (k:=32) (kk:=.u64) (j:=32) rfl rfl ω;rw[show(a.getD i 0+b.getD i 0+ez a b i)/2^32=ez a b (i+1)from rfl]at f8;have f9:=Ch (n:=a.getD i 0+b.getD i 0+ez a b i) rfl ω;rw[show(a.getD i 0+b.getD i 0+ez a b i) %4294967296=Gh a b i from rfl]at f9;have f10:IntKind.u32.wrap ((Gh a b i:Nat):Int)=((Gh a b i:Nat):Int):=Cb rfl (ayI _ ω);rw[ag];rw[aeQ]at ih';generalize ax _ _ _=L at ih'⊢;by_cases hla:i<a.length
  ·have e1:((i:Int)< (a.length:Int))=True:=tt;have e2:aX (aB a) (i:Int)=some (.ipt [U (a.getD i 0:Nat)]):=bv rfl hla;have w1:IntKind.u64.wrap ((ez a b i:Int)+(a.getD i 0:Int))=((a.getD i 0+ez a b i:Nat):Int):=dK ω ω;by_cases hlb:i<b.length
   ·have e6:((i:Int)< (b.length:Int))=True:=tt;have e7:aX (aB b) (i:Int)=some (.ipt [U (b.getD i 0:Nat)]):=bv rfl hlb;have w2:IntKind.u64.wrap (((a.getD i 0+ez a b i:Nat):Int)+(b.getD i 0:Int))=((a.getD i 0+b.getD i 0+ez a b i:Nat):Int):=dK ω ω;rcases hacc with⟨g2,h5,hh⟩| ⟨g2,h5,hh⟩
    ·simp only[eM,go_sem,h0,g1,h5,h6,h7,hh,e1,e2,e3,e4,e5,e6,e7,w1,w2,f8,f9,f10];rw[g2]at ih';exact ih' _ _ rfl rfl rfl rfl Bl
    ·simp only[eM,go_sem,h0,g1,h5,h6,h7,hh,e1,e2,e3,e4,e5,e6,e7,w1,w2,f3,f8,f9,f10,true_or,ayc,ayd,vk];exact ih' _ _ rfl rfl rfl rfl yp
   ·have e6:((i:Int)< (b.length:Int))=False:=ff;have hz:=QX (m:=b) (i:=i) ω;have w2:((a.getD i 0+ez a b i:Nat):Int)=((a.getD i 0+b.getD i 0+ez a b i:Nat):Int):=ω
    rw[w2]at w1;rcases hacc with⟨g2,h5,hh⟩| ⟨g2,h5,hh⟩
    ·simp only[eM,go_sem,h0,g1,h5,h6,h7,hh,e1,e2,e3,e4,e6,w1,f8,f9,f10];rw[g2]at ih';exact ih' _ _ rfl rfl rfl rfl Bl
    ·simp only[eM,go_sem,h0,g1,h5,h6,h7,hh,e1,e2,e3,e4,e6,w1,f3,f8,f9,f10,true_or,ayc,ayd,vk];exact ih' _ _ rfl rfl rfl rfl yp
  ·have e1:((i:Int)< (a.length:Int))=False:=ff;have hlb:i<b.length:=ω
   have e6:((i:Int)< (b.length:Int))=True:=tt;have e7:aX (aB b) (i:Int)=some (.ipt [U (b.getD i 0:Nat)]):=bv rfl hlb;have hz:=QX (m:=a) (i:=i) ω;have w2:IntKind.u64.wrap ((ez a b i:Int)+(b.getD i 0:Int))=((a.getD i 0+b.getD i 0+ez a b i:Nat):Int):=dK ω ω;rcases hacc with⟨g2,h5,hh⟩| ⟨g2,h5,hh⟩
   ·simp only[eM,go_sem,h0,g1,h5,h6,h7,hh,e1,e3,e5,e6,e7,w2,f8,f9,f10];rw[g2]at ih';exact ih' _ _ rfl rfl rfl rfl Bl
   ·simp only[eM,go_sem,h0,g1,h5,h6,h7,hh,e1,e3,e5,e6,e7,w2,f3,f8,f9,f10,true_or,ayc,ayd,vk];exact ih' _ _ rfl rfl rfl rfl yp
theorem ahD{a b:List Nat}(_ha:Lb a)(_hb:Lb b){L:Nat}(h1:a.length<=L)(h2:b.length<=L):ab (dj a b L++[ez a b L])=ab a+ab b:=by
 grind[HV,ayt,dZ,jh,ab]
theorem ahE{a b:List Nat}(ha:Lb a)(hb:Lb b)(h1:a.length<=10000)(h2:b.length<=10000):R fcS [lm a,lm b] []=some (lm (av (ab a+ab b)),[]):=by
 refine au acq rfl ?_;obtain⟨M,hM⟩:∃M,max a.length b.length=M:=⟨_,rfl⟩;have hr:=aeS ha hb ω ω M 0 ω;rw[hM]at hr;have hsv:=ahD ha hb (L:=M) ω ω;have hc:=Es ha hb M;have hL:=jh a b M;have hLb:=QK a b M;have q0:FE 49 (dj a b 0) .emp .dead:=Or.inl ⟨rfl,rfl,rfl⟩;generalize dj a b M=out at hr hsv hL hLb;generalize ez a b M=c at hr hsv hc;have ht:=EG (m:=out++[c]) (pC.2 ⟨hLb,iT.2 ⟨by omega,JU⟩⟩) γ;rw[hsv]at ht;have e8:IntKind.u32.wrap (c:Int)=(c:Int):=Cb rfl ω;have q1:(out.length+1)*4<=140737488355328:=ω
 have f3:=tt q1;have f4:=NH (out++[c]);rw[show(out++[c]).length=out.length+1 by simp]at f4;generalize av (ab a+ab b)=res at ht⊢;generalize hLL:ax (aj R (az false) eM) [0,1,5,6,7] [49]=L at hr;have hX:∀s h,aj R (az false) (.loop [0,1,5,6,7] [49] eM) s h=L s h:=fun s h=>by rw[←hLL];rfl
 have hr2:∀ (S:ak) (H:ac) (X:Option (Ex×St)),ai 0 [5,6] (L S H)=X->S 0=lm a->S 1=lm b->S 6=W 0->S 7=I 0->S 5=.emp->H 49=.dead->∃x hh,X=some (.normal,⟨upd (upd (fun _=>.any) 6 (W c)) 5 x,hh⟩)/\FE 49 out x (hh 49)/\∀a,a≠49->hh a=.dead:=fun S H X hX a0 a1 a6 a7 a5 b=>by
  rw[←hX];exact hr S H a0 a1 a6 a7 γ
 simp only[F9,OK,hX,go_sem];generalize hB:ai 0 [5,6] (L _ _)=X;obtain⟨x,hh,g0,hacc,gd⟩:=hr2 _ _ _ hB rfl rfl rfl rfl rfl rfl;rw[g0];rcases hacc with⟨c1,c2,c3⟩| ⟨c1,c2,c3⟩
 ·rw[c1]at ht;have ht':R fcV [.sl 1 [[U c]]] []=some (lm res,[]):=ht;simp only[go_sem,c2,e8,ht',ne_eq,not_false_eq_true,gd]
 ·simp only[go_sem,c2,c3,e8,f3,f4,ht,ne_eq,not_false_eq_true,gd,vk,true_or,ayc,ayd,List.length_singleton,QG,ay5]
theorem acQ{a b:List Nat}(ha:Lb a)(hb:Lb b)(h1:a.length<=100000):∀ (k i:Nat),i+k=a.length->∀ (s:ak) (h:ac),s 0=lm a->s 1=lm b->s 6=W (og a b i:Nat)->s 7=I i->FE 41 (jU a b i) (s 5) (h 41)->
  ∃x hh,ai 0 [5] (ax (aj R (az false) fF) [0,1,5,6,7] [41] s h)=some (.normal,⟨upd (fun _=>.any) 5 x,hh⟩)/\FE 41 (jU a b a.length) x (hh 41)/\∀a,a≠41->hh a=.dead:=by
 intro k;induction k with
 |zero=>
  intro i hi s h h0 g1 h6 h7 hacc;have e1:((i:Int)< (a.length:Int))=False:=ff;have:i=a.length:=ω
  rw[←this];rw[ag];rcases hacc with⟨g2,h5,hh⟩| ⟨g2,h5,hh⟩
  ·refine⟨.emp,?hh0,?_,Or.inl ⟨g2,rfl,?_⟩,?_⟩;rotate_left
   ·simp only[fF,go_sem,h0,g1,h5,h6,h7,hh,e1];rfl
   all_goals simp_all[cV,if_false]
  ·refine⟨.rsl 41 none 1 0 (jU a b i).length,?hh1,?_,Or.inr ⟨g2,rfl,?_⟩,?_⟩;rotate_left
   ·simp only[fF,go_sem,h0,g1,h5,h6,h7,hh,e1];rfl
   all_goals simp_all[cV,if_false]
 |succ k ih=>
  intro i hi s h h0 g1 h6 h7 hacc;have ih':=ih (i+1) ω;have hx:=bO ha i;have hy:=bO hb i;have hc:=GT a b i;have hla:i<a.length:=ω
  have e1:((i:Int)< (a.length:Int))=True:=tt;have e2:aX (aB a) (i:Int)=some (.ipt [U (a.getD i 0:Nat)]):=bv rfl hla;have e3:IntKind.i64.wrap ((i:Int)+1)=((i+1:Nat):Int):=wi;have q1:((jU a b i).length+1)*4<=140737488355328:=by grind[xw]
  have f3:=tt q1;have e4:IntKind.u64.wrap (a.getD i 0:Int)=(a.getD i 0:Int):=dK rfl ω;have e5:IntKind.u64.wrap (b.getD i 0:Int)=(b.getD i 0:Int):=dK rfl ω;have w3:IntKind.u64.wrap ((a.getD i 0:Int)+4294967296)=((a.getD i 0+4294967296:Nat):Int):=dK ω ω;have w4:IntKind.u64.wrap (((a.getD i 0+4294967296:Nat):Int)- ((b.getD i 0+og a b i:Nat):Int))=((a.getD i 0+4294967296-b.getD i 0-og a b i:Nat):Int):=dK ω ω;have f8:=qz (n:=a.getD i 0+4294967296-b.getD i 0-og a b i) (k:=32) (kk:=.u64) (j:=32) rfl rfl ω;have w5:IntKind.u64.wrap (1- (((a.getD i 0+4294967296-b.getD i 0-og a b i)/2^32:Nat):Int))=((og a b (i+1):Nat):Int):=by
   grind[dK,GT,og]
  have f9:=Ch (n:=a.getD i 0+4294967296-b.getD i 0-og a b i) rfl ω;rw[show(a.getD i 0+4294967296-b.getD i 0-og a b i) %4294967296=HW a b i from rfl]at f9;have f10:IntKind.u32.wrap ((HW a b i:Nat):Int)=((HW a b i:Nat):Int):=Cb rfl (ayI _ ω);rw[ag];rw[aeR]at ih';generalize ax _ _ _=L at ih'⊢;by_cases hlb:i<b.length
  ·have e6:((i:Int)< (b.length:Int))=True:=tt;have e7:aX (aB b) (i:Int)=some (.ipt [U (b.getD i 0:Nat)]):=bv rfl hlb;have w2:IntKind.u64.wrap ((og a b i:Int)+(b.getD i 0:Int))=((b.getD i 0+og a b i:Nat):Int):=dK ω ω;rcases hacc with⟨g2,h5,hh⟩| ⟨g2,h5,hh⟩
   ·simp only[fF,go_sem,h0,g1,h5,h6,h7,hh,e1,e2,e3,e4,e5,e6,e7,w2,w3,w4,w5,f8,f9,f10];rw[g2]at ih';exact ih' _ _ rfl rfl rfl rfl Bl
   ·simp only[fF,go_sem,h0,g1,h5,h6,h7,hh,e1,e2,e3,e4,e5,e6,e7,w2,w3,w4,w5,f3,f8,f9,f10,true_or,ayc,ayd,vk];exact ih' _ _ rfl rfl rfl rfl yp
  ·have e6:((i:Int)< (b.length:Int))=False:=ff;have hz:=QX (m:=b) (i:=i) ω;have w2:((b.getD i 0+og a b i:Nat):Int)=(og a b i:Int):=ω
   rw[w2]at w4;rcases hacc with⟨g2,h5,hh⟩| ⟨g2,h5,hh⟩
   ·simp only[fF,go_sem,h0,g1,h5,h6,h7,hh,e1,e2,e3,e4,e6,w3,w4,w5,f8,f9,f10];rw[g2]at ih';exact ih' _ _ rfl rfl rfl rfl Bl
   ·simp only[fF,go_sem,h0,g1,h5,h6,h7,hh,e1,e2,e3,e4,e6,w3,w4,w5,f3,f8,f9,f10,true_or,ayc,ayd,vk];exact ih' _ _ rfl rfl rfl rfl yp
theorem SB{a b:List Nat}(ha:Lb a)(hb:Lb b)(h1:a.length<=10000)(h2:b.length<=a.length)(hv:ab b<=ab a):R fcR [lm a,lm b] []=some (lm (av (ab a-ab b)),[]):=by
 refine au YT rfl ?_;have hr:=acQ ha hb ω a.length 0 ω;have hall:=Ws ha hb h2 hv;have hsv:ab (jU a b a.length)=ab a-ab b:=by
  rw[hall,lP,ayV];grind[ayS,Nat.sub_le,cI]
 have hL:=xw a b a.length;have hLb:=QM a b a.length;have q0:FE 41 (jU a b 0) .emp .dead:=Or.inl ⟨rfl,rfl,rfl⟩;generalize jU a b a.length=out at hr hsv hL hLb;have ht:=EG (m:=out) hLb ω;rw[hsv]at ht;generalize hLL:ax (aj R (az false) fF) [0,1,5,6,7] [41]=L at hr;have hX:∀s h,aj R (az false) (.loop [0,1,5,6,7] [41] fF) s h=L s h:=fun s h=>by rw[←hLL];rfl
 have hr2:∀ (S:ak) (H:ac) (X:Option (Ex×St)),ai 0 [5] (L S H)=X->S 0=lm a->S 1=lm b->S 6=W 0->S 7=I 0->S 5=.emp->H 41=.dead->∃x hh,X=some (.normal,⟨upd (fun _=>.any) 5 x,hh⟩)/\FE 41 out x (hh 41)/\∀a,a≠41->hh a=.dead:=fun S H X hX a0 a1 a6 a7 a5 b=>by
  rw[←hX];exact hr S H a0 a1 a6 a7 γ
 simp only[D3,My,hX,go_sem];generalize hB:ai 0 [5] (L _ _)=X;obtain⟨x,hh,g0,hacc,gd⟩:=hr2 _ _ _ hB rfl rfl rfl rfl rfl rfl;rw[g0];rcases hacc with⟨c1,c2,c3⟩| ⟨c1,c2,c3⟩
 ·rw[c1]at ht;simp only[go_sem,c2,ht,ne_eq,not_false_eq_true,gd]
 ·simp only[go_sem,c2,c3,ht,ne_eq,not_false_eq_true,gd,NH,ayc,ayd]
theorem aeT{a b:List Nat}(ha:Lb a)(hb:Lb b)(hl:a.length=b.length)(h2:a.length<=100000):∀ (k:Nat),k<=a.length->∀ (s:ak) (h:ac),s 0=lm a->s 1=lm b->s 5=I ((k:Int)-1)->
  cu (ai 0 [] (ax (aj R (az false) fm) [0,1,5] [] s h)) (aj R (az false) tD)=some (.ret,⟨upd (fun _=>.any) 4 (I (cj (ab (a.take k)) (ab (b.take k)))),fun _=>.dead⟩):=by
 intro k;induction k with
 |zero=>
  intro hk s h h0 h1 h5;rw[ag];have e1:(0<=((0:Nat):Int)-1)=False:=ff;have e2:cj (ab []) (ab [])=0:=rfl;simp only[fm,tD,go_sem,h0,h1,h5,e1,e2]
 |succ k ih=>
  intro hk s h h0 h1 h5;have ih':=ih ω;have e1:(0<=((k+1:Nat):Int)-1)=True:=tt;have e2:aX (aB a) (((k+1:Nat):Int)-1)=some (.ipt [U (a.getD k 0:Nat)]):=bv ω ω;have e3:aX (aB b) (((k+1:Nat):Int)-1)=some (.ipt [U (b.getD k 0:Nat)]):=bv ω ω;have e4:IntKind.i64.wrap (((k+1:Nat):Int)-1-1)=(k:Int)-1:=by grind[i64_in]
  have va:=eK a k;have vb:=eK b k;have la:=cI (fj ha k);have lb:=cI (fj hb k);rw[ayo,ay0 ω]at la lb;rw[ag];rcases Nat.lt_trichotomy (a.getD k 0) (b.getD k 0)with hlt|heq|hgt
  ·have e5:((a.getD k 0:Int)< (b.getD k 0:Int))=True:=tt;have e6:cj (ab (a.take (k+1))) (ab (b.take (k+1)))=-1:=by
    have:4294967296^k*(a.getD k 0+1)<=4294967296^k*b.getD k 0:=ay7 _ hlt;rw[Nat.mul_add]at this;simp only[cj];omega
   simp only[fm,tD,go_sem,h0,h1,h5,e1,e2,e3,e5,e6]
  ·have e5:((a.getD k 0:Int)< (b.getD k 0:Int))=False:=ff;have e7:((b.getD k 0:Int)< (a.getD k 0:Int))=False:=ff;have e6:cj (ab (a.take (k+1))) (ab (b.take (k+1)))=cj (ab (a.take k)) (ab (b.take k)):=by
    grind[cj]
   simp only[fm,go_sem,h0,h1,h5,e1,e2,e3,e5,e6,e7,e4];exact ih' _ _ rfl rfl rfl
  ·have e5:((a.getD k 0:Int)< (b.getD k 0:Int))=False:=ff;have e7:((b.getD k 0:Int)< (a.getD k 0:Int))=True:=tt;have e6:cj (ab (a.take (k+1))) (ab (b.take (k+1)))=1:=by
    have:4294967296^k*(b.getD k 0+1)<=4294967296^k*a.getD k 0:=ay7 _ hgt;rw[Nat.mul_add]at this;simp only[cj];omega
   simp only[fm,tD,go_sem,h0,h1,h5,e1,e2,e3,e5,e6,e7]
theorem Y5{a b:List Nat}(ha:Lb a)(hb:Lb b)(h1:a.length<=100000)(_h2:b.length<=100000)(hc:a.length=b.length\/(BN a/\BN b)):R fcP [lm a,lm b] []=some (I (cj (ab a) (ab b)),[]):=by
 refine au TW rfl ?_;by_cases hl:a.length=b.length
 ·have e1:((a.length:Int)=(b.length:Int))=True:=tt;have e3:IntKind.i64.wrap ((a.length:Int)-1)=(a.length:Int)-1:=i64_in _ ⟨by omega,by omega⟩;have hL:=aeT ha hb hl h1 a.length (ayd _);rw[aEf,hl,aEf,←hl]at hL;generalize hLL:ax (aj R (az false) fm) [0,1,5] []=L at hL;have hX:∀s h,aj R (az false) (.loop [0,1,5] [] fm) s h=L s h:=fun s h=>by rw[←hLL];rfl
  have hL2:∀s h,s 0=lm a->s 1=lm b->s 5=I ((a.length:Int)-1)->ip false [[]] [.t 4] 0 (cu (ai 0 [] (L s h)) (aj R (az false) (.seq (.ops [4] [co 4 (.mv (.c (.v (.int .i64 0))))]) (.ret))))=some (I (cj (ab a) (ab b)),[]):=fun s h a0 a1 a5=>by
   rw[show(.seq (.ops [4] [co 4 (.mv (.c (.v (.int .i64 0))))]) (.ret):Cmd)=tD from rfl,hL s h a0 a1 a5];simp only[go_sem]
  show ip false [[]] [.t 4] 0 (aj R (az false) sO _ _)=_;unfold sO;show ip false [[]] [.t 4] 0 (cu (aj R (az false) (.ops [0,1] [co 4 (.mv (.c (.v (.int .i64 0))))]) _ _) fun s h=>cu (aj R (az false) (.seq (.ops [0,1,10] [cm 6 0,co 7 (.len false (.t 6)),cm 8 1,co 9 (.len false (.t 8)),co 10 (.bin .neq (.t 7) (.t 9))]) (.cond (.t 10) (.seq (.seq (.ops [15] [cm 11 0,co 12 (.len false (.t 11)),cm 13 1,co 14 (.len false (.t 13)),co 15 (.bin .lss (.t 12) (.t 14))]) (.cond (.t 15) (.seq (.ops [4] [co 4 (.mv (.c (.v (.int .i64 (-1)))))]) (.ret)) (.skip))) (.seq (.ops [4] [co 4 (.mv (.c (.v (.int .i64 1))))]) (.ret))) (.skip))) s h) fun s h=>cu (cu (aj R (az false) (.ops [0,1,5] [cm 16 0,co 17 (.len false (.t 16)),co 18 (.bin .sub (.t 17) (.c (.v (.int .i64 1)))),cm 5 18]) s h) fun s h=>ai 0 [] (aj R (az false) (.loop [0,1,5] [] fm) s h)) (aj R (az false) (.seq (.ops [4] [co 4 (.mv (.c (.v (.int .i64 0))))]) (.ret))))=_;simp only[hX];simp only[go_sem,e1,e3];exact hL2 _ _ rfl rfl rfl
 ·have e1:((a.length:Int)=(b.length:Int))=False:=ff;obtain⟨ca,cb⟩:=hc.resolve_left hl;by_cases hlt:a.length<b.length
  ·have e2:((a.length:Int)< (b.length:Int))=True:=tt;have e3:cj (ab a) (ab b)=-1:=by
    simp_all[rZ,ab,GM,ca,cj,if_pos]
   rw[e3];simp only[vS,sO,go_sem,e1,e2]
  ·have e2:((a.length:Int)< (b.length:Int))=False:=ff;have e3:cj (ab a) (ab b)=1:=by
    have:=rZ (x:=ab b) (y:=ab a) (by grind[GM,ca]);unfold cj;omega
   rw[e3];simp only[vS,sO,go_sem,e1,e2]
theorem acR:∀ (x b:Nat),x<4294967296->b+af x<=100000000->∀ (s:ak) (h:ac),s 4=I b->s 5=U x->
  ai 2 [4] (ax (aj R (az false) lN) [4,5] [] s h)=some (.normal,⟨upd (fun _=>.any) 4 (I (b+af x:Nat)),fun _=>.dead⟩):=by
 intro x;induction x using Nat.strongRecOn with
 |ind x ih=>
  intro b hx hb s h h3 h4;rw[ag];by_cases h0:x=0
  ·have e1:(0< (x:Int))=False:=ff;rw[h0,pG,ayF];rw[h0]at e1 h4;simp only[lN,go_sem,h3,h4,e1]
  ·have e1:(0< (x:Int))=True:=tt;have e2:=HY (n:=x) (k:=1) (kk:=.u64) (j:=1) rfl rfl ω;have e3:IntKind.i64.wrap ((b:Int)+1)=((b+1:Nat):Int):=wi;have e4:af x=1+af (x/2^1):=by
    have h5:=jB x 1;have h6:=fu h0;omega
   have ih':=ih (x/2^1) ω (b+1) ω ω;rw[show b+af x=b+1+af (x/2^1)by omega];generalize ax _ _ _=L at ih'⊢;simp only[lN,go_sem,h3,h4,e1,e2,e3];exact ih' _ _ rfl rfl
theorem aeU{y x j:Nat}(hy:y<4294967296^j)(hx:x≠0):af (y+4294967296^j*x)=32*j+af x:=by
 have e:(4294967296:Nat)^j=2^ (32*j):=by
  rw[Nat.pow_mul]
 rw[e]at hy⊢;have h1:2^ (32*j)<=y+2^ (32*j)*x:=ayj (Nat.le_mul_of_pos_right _ (Nat.pos_of_ne_zero hx)) (Nat.le_add_left _ _);rw[Cc _ h1,Nat.add_mul_div_left _ _ (ayr _),Nat.div_eq_of_lt hy,ayc]
theorem aeV{m:List Nat}(hb:Lb m)(hl:m.length<=100000):∀ (k:Nat),k<=m.length->∀ (s:ak) (h:ac),s 0=lm m->s 3=I ((k:Int)-1)->
  cu (ai 0 [] (ax (aj R (az false) iD) [0,3] [] s h)) (aj R (az false) (.seq (.ops [2] [co 2 (.mv (.c (.v (.int .i64 0))))]) (.ret)))=some (.ret,⟨upd (fun _=>.any) 2 (I (af (ab (m.take k)):Nat)),fun _=>.dead⟩):=by
 intro k;induction k with
 |zero=>
  intro hk s h h0 h3;rw[ag];generalize ax _ _ _=L;have e1:(0<=((0:Nat):Int)-1)=False:=ff;have e2:((af (ab []):Nat):Int)=0:=rfl;simp only[iD,go_sem,h0,h3,e1,List.take_zero,e2]
 |succ k ih=>
  intro hk s h h0 h3;have ih':=ih ω;have ek:((k+1:Nat):Int)-1=(k:Int):=ω
  rw[ek]at h3;have e1:(0<=(k:Int))=True:=tt;have e2:aX (aB m) (k:Int)=some (.ipt [U (m.getD k 0:Nat)]):=bv rfl ω;have e4:IntKind.i64.wrap ((k:Int)-1)=(k:Int)-1:=by rw[i64_in]<;>omega
  have hx:=bO hb k;have va:=eK m k;have la:=cI (fj hb k);rw[ayo,ay0 ω]at la;rw[ag];by_cases hz:m.getD k 0=0
  ·have e3:((m.getD k 0:Int)=0)=True:=tt;have e6:ab (m.take (k+1))=ab (m.take k):=by rw[va,hz,Nat.mul_zero,ayF]
   rw[e6];generalize ax _ _ _=L at ih'⊢;generalize hT:aj R (az false) (.seq (.ops [2] [co 2 (.mv (.c (.v (.int .i64 0))))]) (.ret))=T at ih'⊢;simp only[iD,go_sem,h0,h3,e1,e2,e3,e4];exact ih' _ _ rfl rfl
  ·have e3:((m.getD k 0:Int)=0)=False:=ff;have e6:=aeU la hz;rw[←va]at e6;rw[e6];have e5:IntKind.i64.wrap (32*(k:Int))=((32*k:Nat):Int):=wi;have hbl:=(bD (k:=32)).2 hx;have e7:=acR (m.getD k 0) (32*k) hx ω;generalize ax (aj R (az false) iD) _ _=L;generalize hLL:ax (aj R (az false) lN) [4,5] []=L0 at e7;have hX:∀s h,aj R (az false) (.loop [4,5] [] lN) s h=L0 s h:=fun s h=>by rw[←hLL];rfl
   simp only[iD,hX,go_sem,h0,h3,e1,e2,e3,e5];rw[e7 _ _ rfl rfl];simp only[go_sem]
theorem ahF{m:List Nat}(hb:Lb m)(hl:m.length<=100000):R fcA [lm m] []=some (I (af (ab m):Nat),[]):=by
 refine au act rfl ?_;have e2:IntKind.i64.wrap ((m.length:Int)-1)=(m.length:Int)-1:=i64_in _ ⟨by omega,by omega⟩;have hL:=aeV hb hl m.length (ayd _);rw[aEf]at hL;generalize hLL:ax (aj R (az false) iD) [0,3] []=L at hL;have hX:∀s h,aj R (az false) (.loop [0,3] [] iD) s h=L s h:=fun s h=>by rw[←hLL];rfl
 show ip false [[]] [.t 2] 0 (aj R (az false) HN _ _)=_;unfold HN;show ip false [[]] [.t 2] 0 (cu (aj R (az false) (.ops [0] [co 2 (.mv (.c (.v (.int .i64 0))))]) _ _) fun s h=>cu (cu (aj R (az false) (.ops [0,3] [cm 6 0,co 7 (.len false (.t 6)),co 8 (.bin .sub (.t 7) (.c (.v (.int .i64 1)))),cm 3 8]) s h) fun s h=>ai 0 [] (aj R (az false) (.loop [0,3] [] iD) s h)) (aj R (az false) (.seq (.ops [2] [co 2 (.mv (.c (.v (.int .i64 0))))]) (.ret))))=_;simp only[hX];generalize hT:aj R (az false) (.seq (.ops [2] [co 2 (.mv (.c (.v (.int .i64 0))))]) (.ret))=T at hL⊢;simp only[go_sem,e2];rw[hL _ _ rfl rfl];simp only[go_sem]
theorem aCa{a b:List Nat}(ha:Lb a)(hb:Lb b){i n:Nat}(h1:a.length<=100000)(h2:b.length<=100000)(hi:i<a.length):∀ (bs:List Nat) (k:Nat) (D S:List Nat) (c:Nat),b.drop k=bs->k<=b.length->D.length=i+k->bs.length<=S.length->(D++S).length=n->Lb S->c<4294967296->
  ∀ (s:ak) (h:ac),s 0=lm a->s 1=lm b->s 5=.rsl 18 none 1 0 n->s 6=I i->s 7=W c->s 8=I k->h 18=.ar 1 (aB (D++S))->
  ai 2 [0,1,5,6,7] (ax (aj R (az false) azQ) [0,1,5,6,7,8] [18] s h)=
   some (.normal,⟨upd (upd (upd (upd (upd (fun _=>.any) 7 (W ((mi (a.getD i 0) c bs S).2:Nat))) 6 (I i)) 5 (.rsl 18 none 1 0 n)) 1 (lm b)) 0 (lm a),upd (fun _=>.dead) 18 (.ar 1 (aB (D++(mi (a.getD i 0) c bs S).1)))⟩):=by
 have hx:=bO ha i;intro bs;induction bs with
 |nil=>
  intro k D S c hd hk hD hS hn hLS hc s h h0 h1 h5 h6 h7 h8 hh;have:k=b.length:=by
   grind
  subst this;rw[ag];simp only[azQ,go_sem,h0,h1,h5,h6,h7,h8,hh,ay6,mi]
 |cons y bs ih=>
  intro k D S c hd hk hD hS hn hLS hc s h h0 h1' h5 h6 h7 h8 hh;obtain⟨o,S,rfl⟩:∃o S',S=o::S':=by
   cases S with
   |nil=>grind
   |cons o S=>grind
  have hlt:k<b.length:=by
   grind
  have hy:b.getD k 0=y:=by
   have:=congrArg (·[0]?) hd;grind
  have hyb:y<4294967296:=by grind[bO]
  have hob:o<4294967296:=(iT.1 hLS).1;have e0:aX (aB a) (i:Int)=some (.ipt [U (a.getD i 0:Nat)]):=bv rfl hi;generalize a.getD i 0=x at hx e0 ih⊢;have hml:=ael hx hyb hob hc;have hxy:x*y<18446744073709551616:=ω
  have ih':=ih (k+1) (D++[(x*y+o+c) %4294967296]) S ((x*y+o+c)/4294967296) (by rw[←List.drop_drop,hd];rfl) hlt γ γ γ (iT.1 hLS).2 ω;have e1:((k:Int)< (b.length:Int))=True:=tt;have e2:aX (aB b) (k:Int)=some (.ipt [U (y:Nat)]):=by grind[bv]
  have e3:IntKind.i64.wrap ((k:Int)+1)=((k+1:Nat):Int):=wi;have e4:IntKind.i64.wrap ((i:Int)+(k:Int))=((i+k:Nat):Int):=wi;have e5:(0<=((i+k:Nat):Int))=True:=tt;have hin:i+k<n:=γ
  have e6:(((i+k:Nat):Int)< (n:Int))=True:=tt;have e7:(aB (D++o::S))[i+k]?=some [U (o:Nat)]:=by
   grind[kC]
  have f1:IntKind.u64.wrap (x:Int)=x:=dK rfl ω;have f2:IntKind.u64.wrap (y:Int)=y:=dK rfl ω;have f3:IntKind.u64.wrap ((x:Int)*(y:Int))=((x*y:Nat):Int):=dK σ hxy;have f4:IntKind.u64.wrap (o:Int)=o:=dK rfl ω;have f5:IntKind.u64.wrap (((x*y:Nat):Int)+(o:Int))=((x*y+o:Nat):Int):=dK ω ω;have f6:IntKind.u64.wrap (((x*y+o:Nat):Int)+(c:Int))=((x*y+o+c:Nat):Int):=dK ω ω;have f10:=Ch (n:=x*y+o+c) rfl ω;have f7:IntKind.u32.wrap (((x*y+o+c) %4294967296:Nat):Int)=(((x*y+o+c) %4294967296:Nat):Int):=Cb rfl ω;have f8:=qz (n:=x*y+o+c) (k:=32) (kk:=.u64) (j:=32) rfl rfl ω;have f9:(aB (D++o::S)).set (i+k) [U ((x*y+o+c) %4294967296:Nat)]=aB (D++[(x*y+o+c) %4294967296]++S):=by
   rw[oO,←hD,List.set_append_right _ _ (ayd _)];simp
  rw[ag];generalize ax _ _ _=L at ih'⊢;simp only[azQ,go_sem,h0,h1',h5,h6,h7,h8,hh,e0,e1,e2,e3,e4,e5,e6,e7,f1,f2,f3,f4,f5,f6,f7,f8,f9,f10,ayk,ayc,mi];rw[ih' _ _ rfl rfl rfl rfl rfl rfl rfl];grind
theorem aA2{a b:List Nat}{i n j:Nat}{rows:List (List AV)}(s:ak)(h:ac)(h0:s 0=lm a)(h1:s 1=lm b)(h5:s 5=.rsl 18 none 1 0 n)(h6:s 6=I i)(h7:s 7=W 0)(h10:s 10=I j)(hh:h 18=.ar 1 rows):
  ai 4 [0,1,5,6] (ax (aj R (az false) azy) [0,1,5,6,7,10] [18] s h)=some (.normal,⟨upd (upd (upd (upd (fun _=>.any) 6 (I i)) 5 (.rsl 18 none 1 0 n)) 1 (lm b)) 0 (lm a),upd (fun _=>.dead) 18 (.ar 1 rows)⟩):=by
 rw[ag];simp only[azy,go_sem,h0,h1,h5,h6,h7,h10,hh,ay6]
theorem aCr{a b:List Nat}{i n j c:Nat}{rows rows':List (List AV)}(hc:c<4294967296)(hj:j<n)(hn:n<=1000000)(hg:rows[j]?=some [U (0:Nat)])(hs:rows.set j [U (c:Nat)]=rows')(hz:c=0->rows=rows')(s:ak)(h:ac)(h0:s 0=lm a)(h1:s 1=lm b)(h5:s 5=.rsl 18 none 1 0 n)(h6:s 6=I i)(h7:s 7=W c)(h10:s 10=I j)(hh:h 18=.ar 1 rows):
  ai 4 [0,1,5,6] (ax (aj R (az false) azy) [0,1,5,6,7,10] [18] s h)=some (.normal,⟨upd (upd (upd (upd (fun _=>.any) 6 (I i)) 5 (.rsl 18 none 1 0 n)) 1 (lm b)) 0 (lm a),upd (fun _=>.dead) 18 (.ar 1 rows')⟩):=by
 by_cases h00:c=0
 ·grind[aA2]
 ·have e1:(0< (c:Int))=True:=tt;have e2:(0<=(j:Int))=True:=tt;have e3:((j:Int)< (n:Int))=True:=tt;have e4:IntKind.u64.wrap ((0:Nat):Int)=((0:Nat):Int):=dK rfl ω;have e5:IntKind.u64.wrap (((0:Nat):Int)+(c:Int))=(c:Int):=dK ω ω;have e6:=Ch (n:=c) rfl ω;rw[ayV hc]at e6;have e7:IntKind.u32.wrap (c:Int)=(c:Int):=Cb rfl hc;have e8:=qz (n:=c) (k:=32) (kk:=.u64) (j:=32) rfl rfl ω;rw[Nat.div_eq_of_lt hc]at e8;have e9:IntKind.i64.wrap ((j:Int)+1)=((j+1:Nat):Int):=wi;have c0:=aA2 (a:=a) (b:=b) (i:=i) (n:=n) (j:=j+1) (rows:=rows');rw[ag];simp only[azy,go_sem,h0,h1,h5,h6,h7,h10,hh,e1,e2,e3,e4,e5,e6,e7,e8,e9,hg,hs,ayk,ayc];exact c0 _ _ rfl rfl rfl rfl rfl rfl rfl
theorem aBP{a b:List Nat}(ha:Lb a)(hb:Lb b)(h1:a.length<=10000)(h2:b.length<=10000):∀ (k i:Nat),i+k=a.length->∀ (s:ak) (h:ac),s 0=lm a->s 1=lm b->s 5=.rsl 18 none 1 0 (a.length+b.length+1)->s 6=I i->h 18=.ar 1 (aB (ed a b i++aya (k+1) 0))->
  ai 0 [5] (ax (aj R (az false) azT) [0,1,5,6] [18] s h)=
   some (.normal,⟨upd (fun _=>.any) 5 (.rsl 18 none 1 0 (a.length+b.length+1)),upd (fun _=>.dead) 18 (.ar 1 (aB (ed a b a.length++[0])))⟩):=by
 intro k;induction k with
 |zero=>
  intro i hi s h h0 h1 h5 h6 hh;have:i=a.length:=ω
  subst this;rw[ag];simp only[ayc,List.replicate_one]at hh;simp only[azT,go_sem,h0,h1,h5,h6,hh,ay6]
 |succ k ih=>
  intro i hi s h h0 g1 h5 h6 hh;have ih':=ih (i+1) ω;have hx:=bO ha i;have hP:(ed a b i).length=i+b.length:=cT _ _;have hLP:Lb (ed a b i):=oM _ _;have hsp:ed a b i++aya (k+1+1) 0=(ed a b i).take i++((ed a b i).drop i++aya (k+1+1) 0):=by rw[←ayX,List.take_append_drop]
  have e1:((i:Int)< (a.length:Int))=True:=tt;have e3:IntKind.i64.wrap ((i:Int)+1)=((i+1:Nat):Int):=wi;have e4:IntKind.i64.wrap ((i:Int)+(b.length:Int))=((i+b.length:Nat):Int):=wi;have lp:=aCa ha hb (i:=i) (n:=a.length+b.length+1) ω ω ω b 0 ((ed a b i).take i) ((ed a b i).drop i++aya (k+1+1) 0) 0 rfl (ayB _) γ γ γ
   (pC.2 ⟨mV hLP i,fun y hy=>by grind⟩) ω
  rw[aek _ _ _ _ _ γ]at lp;have ml:(mi (a.getD i 0) 0 b ((ed a b i).drop i)).1.length=b.length:=by grind[J4]
  have mc:=Nx hx b ((ed a b i).drop i) 0 hb (mV hLP i) ω;have ps:=aen ha hb (show i<a.length from by omega);rw[hsp]at hh;generalize mi (a.getD i 0) 0 b ((ed a b i).drop i)=r at*
  have e7:(aB ((ed a b i).take i++(r.1++aya (k+1+1) 0)))[i+b.length]?=some [U (0:Nat)]:=by
   grind[ayX,kC]
  have e8:(aB ((ed a b i).take i++(r.1++aya (k+1+1) 0))).set (i+b.length) [U (r.2:Nat)]=aB (ed a b (i+1)++aya (k+1) 0):=by
   grind[ayX,oO,Wn,ed]
  have hz:r.2=0->aB ((ed a b i).take i++(r.1++aya (k+1+1) 0))=aB (ed a b (i+1)++aya (k+1) 0):=fun h0=>by
   grind
  have lc:=aCr (a:=a) (b:=b) (i:=i) (n:=a.length+b.length+1) (j:=i+b.length) mc ω ω e7 e8 hz;rw[ag];simp only[ayO]at lp;simp only[azT,go_sem,h0,g1,h5,h6,hh,e1];rw[lp _ _ rfl rfl rfl rfl rfl rfl rfl];simp only[go_sem,e4];rw[lc _ _ rfl rfl rfl rfl rfl rfl rfl];simp only[go_sem,e3];exact ih' _ _ rfl rfl rfl rfl rfl
theorem aBQ{a b:List Nat}(ha:Lb a)(hb:Lb b)(h1:a.length<=10000)(h2:b.length<=10000):R fcU [lm a,lm b] []=some (lm (av (ab a*ab b)),[]):=by
 refine au aBk rfl ?_;have e1:IntKind.i64.wrap ((a.length:Int)+(b.length:Int))=((a.length+b.length:Nat):Int):=wi;have e1':IntKind.i64.wrap (((a.length+b.length:Nat):Int)+1)=((a.length+b.length+1:Nat):Int):=wi;have e2:=rn (i:=((a.length+b.length+1:Nat):Int)) (j:=((a.length+b.length+1:Nat):Int)) rfl rfl (ayd _) ω;have e3:((a.length+b.length+1)*4<=140737488355328)=True:=tt;have e4:=aBP ha hb h1 h2 a.length 0 ω;have e0:ed a b 0=aya b.length 0:=by
  have:∀n,dE n 0=aya n 0:=fun n=>by
   induction n with
   |zero=>rfl
   |succ n ih=>simp[dE,ih,List.replicate_succ]
  grind[ed,ab]
 have e5:aB (aya (a.length+b.length+1) 0)=aB (ed a b 0++aya (a.length+1) 0):=by
  grind[List.replicate_append_replicate]
 have e6:ed a b a.length=dE (a.length+b.length) (ab a*ab b):=by rw[ed,aEf]
 have hLb:Lb (ed a b a.length++[0]):=pC.2 ⟨by grind[oM],iT.2 ⟨by decide,JU⟩⟩;have hlen:(ed a b a.length++[0]).length=a.length+b.length+1:=by grind[cT]
 have hv:ab (ed a b a.length++[0])=ab a*ab b:=by
  rw[dZ,e6,lP,ayV]
  all_goals simp_all[ab,ayn,Nat.mul_lt_mul'',cI]
 have ht:=EG hLb ω;rw[hv]at ht;have f4:=NH (ed a b a.length++[0]);rw[hlen]at f4;simp only[aAr,aAN,go_sem,e1,e1',e2,e3,Ba,e5];rw[e4 _ _ rfl rfl rfl rfl rfl];simp only[go_sem,f4,ht,hlen,QG,ayc,ayd]
theorem FF{d:Rd}(ok:Ok0 d):R fcN [ae d] []=some (B (vd d),[]):=by
 refine au YN rfl ?_;unfold vd;have hl:=ok.len;by_cases a0:d.m.length=0
 ·rw[if_pos a0];have e1:((d.m.length:Int)=0)=True:=tt;cases hn:d.neg with
  |true=>simp only[gh,jg,ae,ah,hn,go_sem,e1,Bool.not_true,ayh]
  |false=>simp only[gh,jg,ae,ah,hn,go_sem,e1,Bool.not_false,ayg]
 rw[if_neg a0];have e1:((d.m.length:Int)=0)=False:=ff;by_cases a1:¬d.m.length<=256
 ·have e2:(256< (d.m.length:Int))=True:=tt;rw[decide_eq_false a1,ayh];simp only[gh,jg,ae,ah,go_sem,e1,e2]
 replace a1:=Decidable.not_not.1 a1
 have e2:(256< (d.m.length:Int))=False:=ff;have e3:aX (aB d.m) 0=some (.ipt [U (d.m.getD 0 0:Nat)]):=bv rfl ω;have e6:IntKind.i64.wrap ((d.m.length:Int)-1)=((d.m.length-1:Nat):Int):=wi;have e7:aX (aB d.m) ((d.m.length-1:Nat):Int)=some (.ipt [U (d.m.getD (d.m.length-1) 0:Nat)]):=bv rfl ω;have hx:=bO ok.lb 0;rw[decide_eq_true a1,ayg];by_cases a3:d.m.getD (d.m.length-1) 0=0
 ·have e8:((d.m.getD (d.m.length-1) 0:Int)=0)=True:=tt;rw[decide_eq_false (p:=d.m.getD (d.m.length-1) 0≠0) (fun h=>h a3),ayh,ay1];simp only[gh,jg,ae,ah,go_sem,e1,e2,e6,e7,e8]
 have e8:((d.m.getD (d.m.length-1) 0:Int)=0)=False:=ff;rw[decide_eq_true (p:=d.m.getD (d.m.length-1) 0≠0) a3,ayg];have e4:=WP (n:=d.m.getD 0 0) rfl hx;by_cases a2:¬d.m.getD 0 0%2=1
 ·have e5:(((d.m.getD 0 0%2:Nat):Int)=0)=True:=tt;rw[decide_eq_false a2,ayh];simp only[gh,jg,ae,ah,go_sem,e1,e2,e3,e4,e5,e6,e7,e8]
 replace a2:=Decidable.not_not.1 a2
 have e5:(((d.m.getD 0 0%2:Nat):Int)=0)=False:=ff;rw[decide_eq_true a2,ayg];have hv:ab d.m≠0:=JV (Or.inr a3) (fun h=>a0 γ);have hbp:=fu hv;unfold rh;rw[decide_eq_false (p:=af (ab d.m)=0) ω,Bool.false_or];by_cases a4:d.e< -16384
 ·have f1:(d.e< -16384)=True:=tt a4;rw[decide_eq_false (p:=-16384<=d.e) ω,ayh,ay1];simp only[gh,jg,ae,ah,go_sem,e1,e2,e3,e4,e5,e6,e7,e8,f1]
 have f1:(d.e< -16384)=False:=ff a4;rw[decide_eq_true (p:=-16384<=d.e) ω,ayg];by_cases a5:16384<d.e
 ·have f2:(16384<d.e)=True:=tt a5;rw[decide_eq_false (p:=d.e<=16384) ω,ayh,ay1];simp only[gh,jg,ae,ah,go_sem,e1,e2,e3,e4,e5,e6,e7,e8,f1,f2]
 have f2:(16384<d.e)=False:=ff a5;rw[decide_eq_true (p:=d.e<=16384) ω,ayg];have hb:=WQ ok.lb ω (Or.inr a3);have hbl:=H2 ok.lb;have w1:IntKind.i64.wrap (((af (ab d.m):Nat):Int)+d.e)=((af (ab d.m):Nat):Int)+d.e:=i64_in _ ⟨by omega,by omega⟩;by_cases a6:af (ab d.m)<=4096
 ·have f3:(((af (ab d.m):Nat):Int)<=4096)=True:=tt;rw[decide_eq_true a6,ayg];simp only[gh,jg,ae,ah,go_sem,e1,e2,e3,e4,e5,e6,e7,e8,f1,f2,hb,f3,w1]
 ·have f3:(((af (ab d.m):Nat):Int)<=4096)=False:=ff;rw[decide_eq_false a6,ayh];simp only[gh,jg,ae,ah,go_sem,e1,e2,e3,e4,e5,e6,e7,e8,f1,f2,hb,f3]
theorem Pj{neg:Bool}{m:List Nat}{e:Int}(hb:Lb m)(h1:m.length<=9000)(he:-1000000<=e/\e<=1000000):R fcH [B neg,lm m,I e] []=some (ae (bk neg (ab m) e),[]):=by
 refine au ag8 rfl ?_;have ht:=EG hb ω;have la:=dx m hb;obtain⟨M,hM⟩:∃M,ab m=M:=⟨_,rfl⟩;rw[hM]at ht la⊢;by_cases h0:M=0
 ·have e1:(((av M).length:Int)=0)=True:=tt (by grind[ft]);rw[h0,lg];simp only[Fe,MZ,ae,ah,aH,go_sem,ht,e1]
 ·have e1:(((av M).length:Int)=0)=False:=ff (fun h=>h0 (oL.1 (List.length_eq_zero_iff.1 ω)));have hz:=aeM (bc M) ω (by grind[aN]);rw[aN]at hz;have htz:tz M<32*(av M).length:=by
   refine Ul h0 ?_;grind[cI,bc,aN,Nat.pow_mul]
  have hr:=aeP (bc M) (n:=tz M) ω ω;rw[aN]at hr;have w1:IntKind.i64.wrap (e+((tz M:Nat):Int))=e+((tz M:Nat):Int):=i64_in _ ⟨by omega,by omega⟩;rw[iN h0];simp only[Fe,MZ,ae,ah,go_sem,ht,e1,hz,hr,w1]
def acS(d:Rd):Rd:=⟨!d.neg&&decide (0<d.m.length),d.m,d.e⟩
theorem ajZ{d:Rd}:R fcG [ae d] []=some (ae (acS d),[]):=by
 refine au ad8 rfl ?_;unfold acS;cases hn:d.neg with
 |true=>simp only[C8,JC,ae,ah,go_sem,hn,Bool.not_true,ayh]
 |false=>
  have e:decide (0< (d.m.length:Int))=decide (0<d.m.length):=γ
  simp only[C8,JC,ae,ah,go_sem,hn,Bool.not_false,ayg,e]
theorem aj0{d:Rd}(h:vd d=true):acS d=gW d:=by
 unfold acS gW;by_cases h0:d.m.length=0
 ·have:=Bb h h0;subst this;rfl
 ·rw[if_neg (fun h2=>h2.elim (fun h3=>by grind) h0),decide_eq_true ω,Bool.and_true]
theorem yM{d:Rd}(h:vd d=true):zI (gW d)=-zI d/\vd (gW d)=true:=by
 unfold gW;by_cases h0:d.m.length=0
 ·rw[if_pos (Or.inr h0),cO h0];exact⟨by rw[cO rfl];rfl,rfl⟩
 ·constructor
  ·grind[zI,mg]
  simp_all[vd,if_neg]
theorem NI{d:Rd}:R fcJ [ae d] []=some (I (cQ d),[]):=by
 refine au acj rfl ?_;unfold cQ;by_cases h0:d.m.length=0
 ·have e1:((d.m.length:Int)=0)=True:=tt;rw[if_pos h0];simp only[xf,Da,ae,ah,go_sem,e1]
 ·have e1:((d.m.length:Int)=0)=False:=ff;rw[if_neg h0];cases hn:d.neg with
  |true=>
   simp only[xf,Da,ae,ah,go_sem,e1,hn]
  |false=>
   simp only[xf,Da,ae,ah,go_sem,e1,hn]
theorem WT{d:Rd}(h:vd d=true):BN d.m:=by
 by_cases h0:d.m.length=0
 ·exact Or.inl (List.length_eq_zero_iff.1 h0)
 ·exact Or.inr (Cd h h0).2.2.1
theorem ZU{d:Rd}(ok:Ok0 d)(h:vd d=true):R fcM [ae d] []=some (I (aL d),[]):=by
 refine au aea rfl ?_;by_cases h0:d.m.length=0
 ·have e1:((d.m.length:Int)=0)=True:=tt;rw[aL,if_pos (Or.inr h0)];simp only[Db,JI,ae,ah,go_sem,e1]
 ·have e1:((d.m.length:Int)=0)=False:=ff;obtain⟨h1,h2,h3,h4⟩:=ef h ok.lb;rw[iM h h0];have hb:=WQ ok.lb ω (WT h);have w1:IntKind.i64.wrap (((af (ab d.m):Nat):Int)+d.e)=((af (ab d.m):Nat):Int)+d.e:=i64_in _ ⟨by omega,by omega⟩;simp only[Db,JI,ae,ah,go_sem,e1,hb,w1]
def df(z f:Int):Rd:=bk (decide (z<0)) z.natAbs f
theorem yN{neg:Bool}{n:Nat}{f:Int}:bk neg n f=df (bE neg n) f:=by
 unfold df;by_cases h0:n=0
 ·subst h0;cases neg<;>exact lg.symm
 ·cases neg with
  |false=>
   rw[n7,Int.natAbs_natCast,decide_eq_false ω]
  |true=>
   rw[pH,Int.natAbs_neg,Int.natAbs_natCast,decide_eq_true ω]
theorem aeW{n:Nat}(h:n%2=1)(k:Nat):tz (n*2^k)=k:=by
 rw[ayy,JX k ω,xu h,ayF]
theorem Bm{d:Rd}(ok:Ok0 d)(h:vd d=true):df (zI d) (-16384)=d:=by
 by_cases h0:d.m.length=0
 ·rw[cO h0];have:=Bb h h0;subst this;exact lg
 ·obtain⟨h1,h2,h3,h4⟩:=Cd h h0;obtain⟨g1,g2,g3,g4⟩:=ef h ok.lb;have hz:zI d=bE d.neg (mg d):=by
   grind[zI,bE]
  rw[hz,←yN];unfold mg;rw[jC,iN (dt h h0)];have ho:ab d.m%2=1:=by
   have:=fB d.m 0;grind
  rw[xu ho,Nat.pow_zero,Nat.div_one,GM ok.lb (WT h)];obtain⟨n,m,e⟩:=d;grind
theorem Al{x y:Nat}(h:x<=y):(av x).length<=(av y).length:=Nat.not_lt.1 fun h2=>by
 have:=rZ h2;omega
theorem aj1{a b:Rd}(oa:Ok0 a)(ob:Ok0 b)(va:vd a=true)(vb:vd b=true):R fcL [ae a,ae b] []=some (ae (df (zI a+zI b) (-16384)),[]):=by
 refine au ad9 rfl ?_;by_cases a0:a.m.length=0
 ·have e1:((a.m.length:Int)=0)=True:=tt;rw[cO a0,Int.zero_add,Bm ob vb];simp only[rL,yC,ae,ah,go_sem,e1]
 have e1:((a.m.length:Int)=0)=False:=ff;by_cases b0:b.m.length=0
 ·have e2:((b.m.length:Int)=0)=True:=tt;rw[cO b0,Int.add_zero,Bm oa va];simp only[rL,yC,ae,ah,go_sem,e1,e2]
 have e2:((b.m.length:Int)=0)=False:=ff;obtain⟨a1,a2,a3,a4⟩:=ef va oa.lb;obtain⟨b1,b2,b3,b4⟩:=ef vb ob.lb;obtain⟨e,he⟩:∃e,(if b.e<a.e then b.e else a.e)=e:=⟨_,rfl⟩;have he1:-16384<=e/\e<=a.e/\e<=b.e:=by
  omega
 have w1:IntKind.i64.wrap (a.e-e)=(((a.e-e).toNat:Nat):Int):=wi;have w2:IntKind.i64.wrap (b.e-e)=(((b.e-e).toNat:Nat):Int):=wi;have l1:=WS oa.lb (n:=(a.e-e).toNat) ω ω;have l2:=WS ob.lb (n:=(b.e-e).toNat) ω ω;have z1:zI a=bE a.neg (ab a.m*2^ (a.e-e).toNat*2^ (e+16384).toNat):=by
  grind[zI,bE,mg,uX]
 have z2:zI b=bE b.neg (ab b.m*2^ (b.e-e).toNat*2^ (e+16384).toNat):=by
  grind[zI,bE,mg,uX]
 have bx:af (ab a.m*2^ (a.e-e).toNat)<=36864:=by
  grind[dk,dt]
 have by':af (ab b.m*2^ (b.e-e).toNat)<=36864:=by
  grind[dk,dt]
 rw[z1,z2];generalize ab a.m*2^ (a.e-e).toNat=x at l1 bx⊢;generalize ab b.m*2^ (b.e-e).toNat=y at l2 by'⊢;have lx:(av x).length<=1152:=aV ω;have ly:(av y).length<=1152:=aV ω;have hsum:∀ (n:Bool) (z:Nat),bk n z e=df (bE n (z*2^ (e+16384).toNat)) (-16384):=fun n z=>by
  rw[←yN,jC,show-16384+(((e+16384).toNat:Nat):Int)=e by omega]
 have hcp:=Y5 (bc x) (bc y) ω ω (Or.inr ⟨JW x,JW y⟩);rw[aN,aN]at hcp;by_cases hs:a.neg=b.neg
 ·have p1:=ahE (bc x) (bc y) ω ω;rw[aN,aN]at p1;have bz:af (x+y)<=36865:=EB bx by';have o1:=Pj (neg:=a.neg) (m:=av (x+y)) (e:=e) (bc _) (ayj (aV (k:=1153) ω) δ) ⟨by omega,by omega⟩;rw[aN,hsum]at o1;have hz:bE a.neg (x*2^ (e+16384).toNat)+bE b.neg (y*2^ (e+16384).toNat)=bE a.neg ((x+y)*2^ (e+16384).toNat):=by
   rw[←hs,ayA];cases a.neg
   all_goals grind[n7,pH]
  rw[hz];generalize df (bE a.neg ((x+y)*2^ (e+16384).toNat)) (-16384)=r at o1⊢;have hs2:(a.neg==b.neg)=true:=γ
  have hs3:(false != (a.neg==b.neg))=true:=γ
  simp only[ae,ah]at o1;simp only[rL,yC,ae,ah,go_sem,e1,e2,he,w1,w2,l1,l2,hs3,p1,o1]
 ·have hs2:(a.neg==b.neg)=false:=by
   grind
  have hs3:(false != (a.neg==b.neg))=false:=γ
  have hbn:b.neg=!a.neg:=by
   grind
  by_cases hlt:x<y
  ·have e5:(0<=cj x y)=False:=ff (by simp_all[cj,if_pos]);have m1:=SB (bc y) (bc x) ω (Al ω) (by grind[aN]);rw[aN,aN]at m1;have o1:=Pj (neg:=b.neg) (m:=av (y-x)) (e:=e) (bc _) (ayj (Al (Nat.sub_le _ _)) ω) ⟨by omega,by omega⟩;rw[aN,hsum]at o1;have hz:bE a.neg (x*2^ (e+16384).toNat)+bE b.neg (y*2^ (e+16384).toNat)=bE b.neg ((y-x)*2^ (e+16384).toNat):=by
    grind[Bool.not_true,n7,pH]
   rw[hz];generalize df (bE b.neg ((y-x)*2^ (e+16384).toNat)) (-16384)=r at o1⊢;simp only[ae,ah]at o1;simp only[rL,yC,ae,ah,go_sem,e1,e2,he,w1,w2,l1,l2,hs3,hcp,e5,m1,o1]
  ·have e5:(0<=cj x y)=True:=tt (by unfold cj;omega);have m1:=SB (bc x) (bc y) ω (Al ω) (by grind[aN]);rw[aN,aN]at m1;have o1:=Pj (neg:=a.neg) (m:=av (x-y)) (e:=e) (bc _) (ayj (Al (Nat.sub_le _ _)) ω) ⟨by omega,by omega⟩;rw[aN,hsum]at o1;have hz:bE a.neg (x*2^ (e+16384).toNat)+bE b.neg (y*2^ (e+16384).toNat)=bE a.neg ((x-y)*2^ (e+16384).toNat):=by
    grind[Bool.not_true,n7,pH]
   rw[hz];generalize df (bE a.neg ((x-y)*2^ (e+16384).toNat)) (-16384)=r at o1⊢;simp only[ae,ah]at o1;simp only[rL,yC,ae,ah,go_sem,e1,e2,he,w1,w2,l1,l2,hs3,hcp,e5,m1,o1]
theorem aBl{a b:Rd}(oa:Ok0 a)(ob:Ok0 b)(va:vd a=true)(vb:vd b=true):R fcI [ae a,ae b] []=some (ae (bk (a.neg !=b.neg) (ab a.m*ab b.m) (a.e+b.e)),[]):=by
 refine au aA1 rfl ?_;obtain⟨a1,a2,a3,a4⟩:=ef va oa.lb;obtain⟨b1,b2,b3,b4⟩:=ef vb ob.lb;have t1:=aBQ oa.lb ob.lb ω ω;have hp:=J6 (ab a.m) (ab b.m);have w1:IntKind.i64.wrap (a.e+b.e)=a.e+b.e:=i64_in _ ⟨by omega,by omega⟩;have o1:=Pj (neg:=a.neg !=b.neg) (m:=av (ab a.m*ab b.m)) (e:=a.e+b.e) (bc _) (ayj (aV (k:=256) ω) δ) ⟨by omega,by omega⟩;rw[aN]at o1;simp only[aAh,aAD,ae,ah,go_sem,t1,w1,Ai,o1]
theorem atj:(true==true)=true:=rfl
theorem atk:(true==false)=false:=rfl
theorem atl:(false==true)=false:=rfl
theorem atn:(false==false)=true:=rfl
theorem amE:(false !=true)=true:=rfl
theorem amF:(false !=false)=false:=rfl
theorem ahG(z f:Int):cQ (df z f)=if z<0 then-1 else if 0<z then 1 else 0:=by
 unfold df;by_cases h0:z=0
 ·subst h0;rfl
 ·have hn:z.natAbs≠0:=ω
  rw[iN hn];obtain⟨h1,h2⟩:=tC hn;have hl:(av (z.natAbs/2^tz z.natAbs)).length≠0:=fun h=>by
   have:=oL.1 (List.length_eq_zero_iff.1 h);omega
  unfold cQ;grind
theorem aeX{a b:Rd}(oa:Ok0 a)(ob:Ok0 b)(va:vd a=true)(vb:vd b=true)(na:a.m.length≠0)(nb:b.m.length≠0)(h:aL a<aL b):mg a<mg b:=by
 have h1:=K6 va oa.lb na;have h2:=K6 vb ob.lb nb;exact H0 ω
theorem QY{a b:Rd}(oa:Ok0 a)(ob:Ok0 b)(va:vd a=true)(vb:vd b=true):R fcD [ae a,ae b] []=some (I (cx (zI a) (zI b)),[]):=by
 refine au ad5 rfl ?_;have s1:=NI (d:=a);have s2:=NI (d:=b);have t1:=ZU oa va;have t2:=ZU ob vb;have n1:=ajZ (d:=b);rw[aj0 vb]at n1;obtain⟨hz,hvn⟩:=yM vb;have u1:=aj1 oa (ws ob) va hvn;rw[hz]at u1;have u2:=NI (d:=df (zI a+-zI b) (-16384));rw[ahG]at u2;have hca:=Ew a va;have hcb:=Ew b vb;generalize gW b=nb at n1 u1;simp only[ae,ah]at s1 s2 t1 t2 n1 u1 u2;by_cases hs:cQ a=cQ b
 ·have e1:(cQ a=cQ b)=True:=tt hs;by_cases h0:cQ a=0
  ·have e2:(cQ a=0)=True:=tt h0;have hr:cx (zI a) (zI b)=0:=by
    have:zI a=0:=ω
    have:zI b=0:=ω
    simp_all[cx,if_neg]
   rw[hr];simp only[kJ,pn,ae,ah,go_sem,s1,s2,e1,e2]
   try simp only[hs,h0,go_sem,ayG,ayz,ayN,ayH,ayE,ayQ]
  ·have e2:(cQ a=0)=False:=ff h0;have na:a.m.length≠0:=ω
   have nb':b.m.length≠0:=ω
   by_cases ht:aL a=aL b
   ·have e3:(aL a=aL b)=True:=tt ht;have hr:cx (zI a) (zI b)=if zI a+-zI b<0 then-1 else if 0<zI a+-zI b then 1 else 0:=by
     grind[cx]
    rw[hr];simp only[kJ,pn,ae,ah,go_sem,s1,s2,t1,t2,e1,e2,e3,n1,u1,u2]
   ·have e3:(aL a=aL b)=False:=ff ht;by_cases hlt:aL a<aL b
    ·have e4:(aL a<aL b)=True:=tt hlt;have hm:=aeX oa ob va vb na nb' hlt;by_cases hp:0<cQ a
     ·have e5:(0<cQ a)=True:=tt hp;have hr:cx (zI a) (zI b)=-1:=by
       unfold cx;omega
      rw[hr];simp only[kJ,pn,ae,ah,go_sem,s1,s2,t1,t2,e1,e2,e3,e4,e5,decide_true,atj,amE]
     ·have e5:(0<cQ a)=False:=ff hp;have hr:cx (zI a) (zI b)=1:=by
       unfold cx;omega
      rw[hr];simp only[kJ,pn,ae,ah,go_sem,s1,s2,t1,t2,e1,e2,e3,e4,e5,decide_true,decide_false,atk,amF]
    ·have e4:(aL a<aL b)=False:=ff hlt;have hm:=aeX ob oa vb va nb' na ω;by_cases hp:0<cQ a
     ·have e5:(0<cQ a)=True:=tt hp;have hr:cx (zI a) (zI b)=1:=by
       unfold cx;omega
      rw[hr];simp only[kJ,pn,ae,ah,go_sem,s1,s2,t1,t2,e1,e2,e3,e4,e5,decide_true,decide_false,atl,amF]
     ·have e5:(0<cQ a)=False:=ff hp;have hr:cx (zI a) (zI b)=-1:=by
       unfold cx;omega
      rw[hr];simp only[kJ,pn,ae,ah,go_sem,s1,s2,t1,t2,e1,e2,e3,e4,e5,decide_true,decide_false,atn,amE]
 ·have e1:(cQ a=cQ b)=False:=ff hs;by_cases hlt:cQ a<cQ b
  ·have e2:(cQ a<cQ b)=True:=tt hlt;have hr:cx (zI a) (zI b)=-1:=by
    unfold cx;omega
   rw[hr];simp only[kJ,pn,ae,ah,go_sem,s1,s2,e1,e2]
  ·have e2:(cQ a<cQ b)=False:=ff hlt;have hr:cx (zI a) (zI b)=1:=by
    unfold cx;omega
   rw[hr];simp only[kJ,pn,ae,ah,go_sem,s1,s2,e1,e2]
theorem ahH{p:Int}:R fcY [I p] []=some (B (bG p),[]):=by
 refine au acs rfl ?_;unfold bG;by_cases h1:8<=p
 ·have e1:(8<=p)=True:=tt h1;simp only[BM,HM,go_sem,e1,decide_true,ayg]
 ·have e1:(8<=p)=False:=ff h1;simp only[BM,HM,go_sem,e1,decide_false,ayh]
theorem aAx{x y:Int}{k:Nat}(hx:af x.natAbs<=k)(hy:af y.natAbs<=k):af (x+y).natAbs<=k+1:=by
 have:=EB hx hy;refine ayj ?_ this;have h2:(x+y).natAbs<=x.natAbs+y.natAbs:=Int.natAbs_add_le _ _;exact bD.2 (ayS h2 (bD.1 (ayd _)))
theorem aAK{d:Rd}(ok:Ok0 d)(h:vd d=true):af (zI d).natAbs<=36864:=by
 obtain⟨h1,h2,h3,h4⟩:=ef h ok.lb;have:(zI d).natAbs=mg d:=by
  unfold zI;split<;>omega
 rw[this];by_cases h0:d.m.length=0
 ·rw[ZC h0];decide
 ·have:=K6 h ok.lb h0;rw[iM h h0]at this;omega
theorem aeY{a b:Rd}(oa:Ok0 a)(ob:Ok0 b)(va:vd a=true)(vb:vd b=true):bk (a.neg !=b.neg) (ab a.m*ab b.m) (a.e+b.e)=df (zI a*zI b) (-32768):=by
 obtain⟨a1,a2,a3,a4⟩:=ef va oa.lb;obtain⟨b1,b2,b3,b4⟩:=ef vb ob.lb;have hz:zI a*zI b=bE (a.neg !=b.neg) (mg a*mg b):=by
  unfold zI bE;cases a.neg<;>cases b.neg<;>simp[Int.mul_neg,Int.neg_mul]
 have hm:mg a*mg b=ab a.m*ab b.m*2^ ((a.e+16384).toNat+(b.e+16384).toNat):=by
  unfold mg;rw[ayn]
  ac_rfl
 rw[hz,←yN,hm,jC,show-32768+(((a.e+16384).toNat+(b.e+16384).toNat:Nat):Int)=a.e+b.e by omega]
theorem QZ{a b:Rd}{p:Int}{up:Bool}:vd (du a b p up).1=true:=by
 unfold du;split
 ·exact td.1
 ·exact aU.1
theorem Q0{d:Rd}{p:Int}{up:Bool}:vd (bZ d p up).1=true:=by
 unfold bZ;split
 ·exact td.1
 ·exact aU.1
theorem WU{d:Rd}:R fc3 [ae d] []=some (B (z0 d),[]):=by
 refine au acr rfl ?_;unfold z0;cases hn:d.neg with
 |true=>simp only[tw,zS,ae,ah,go_sem,hn,Bool.not_true,ayh]
 |false=>
  by_cases h1:d.m.length=0
  ·have e1:((d.m.length:Int)=0)=True:=tt;by_cases h2:d.e=0
   ·have e2:(d.e=0)=True:=tt h2;rw[decide_eq_true h1,decide_eq_true h2];simp only[tw,zS,ae,ah,go_sem,hn,e1,e2,Bool.not_false,ayg]
   ·have e2:(d.e=0)=False:=ff h2;rw[decide_eq_true h1,decide_eq_false h2];simp only[tw,zS,ae,ah,go_sem,hn,e1,e2,Bool.not_false,ayg]
  ·have e1:((d.m.length:Int)=0)=False:=ff;rw[decide_eq_false h1];simp only[tw,zS,ae,ah,go_sem,hn,e1,Bool.not_false,ayg,ayh]
theorem FG{x:Ri}(ok:OkI x):R fc2 [am x] []=some (B (vi x),[]):=by
 refine au YP rfl ?_;unfold vi;have zl:=WU (d:=x.lo);have zh:=WU (d:=x.hi);have vl:=FF ok.lo;have vh:=FF ok.hi;simp only[ae,ah]at zl zh vl vh;cases ha:x.all with
 |true=>
  cases h1:z0 x.lo with
  |true=>
   rw[h1]at zl;simp only[nu,tv,am,ap,go_sem,ha,zl,zh,ayg]
  |false=>
   rw[h1]at zl;simp only[nu,tv,am,ap,go_sem,ha,zl,ayh]
 |false=>
  cases h1:vd x.lo with
  |false=>
   rw[h1]at vl;simp only[nu,tv,am,ap,go_sem,ha,vl,ayh]
  |true=>
   rw[h1]at vl;cases h2:vd x.hi with
   |false=>
    rw[h2]at vh;simp only[nu,tv,am,ap,go_sem,ha,vl,vh,ayg,ayh]
   |true=>
    rw[h2]at vh;have hc:=QY ok.lo ok.hi h1 h2;simp only[ae,ah]at hc;simp only[nu,tv,am,ap,go_sem,ha,vl,vh,hc,wo,ayg]
theorem ahI{p:Int}:R fc1 [I p] []=some (B (bG p),[]):=by
 refine au ack rfl ?_;unfold bG;by_cases h1:8<=p
 ·have e1:(8<=p)=True:=tt h1;simp only[BK,HJ,go_sem,e1,decide_true,ayg]
 ·have e1:(8<=p)=False:=ff h1;simp only[BK,HJ,go_sem,e1,decide_false,ayh]
theorem Q1{a b:Rd}(va:vd a=true)(vb:vd b=true):eW a b=cx (zI a) (zI b):=by simp_all[eW,if_pos]
theorem aBR{a b:Rd}(oa:Ok0 a)(ob:Ok0 b)(va:vd a=true)(vb:vd b=true)(h:zI a=zI b):a=b:=by
 rw[←Bm oa va,←Bm ob vb,h]
theorem n8(x y:Int):(x<y/\cx x y=-1)\/(x=y/\cx x y=0)\/(y<x/\cx x y=1):=by
 unfold cx;rcases Int.lt_trichotomy x y with h|h|h
 ·exact Or.inl ⟨h,if_pos h⟩
 ·exact Or.inr (Or.inl ⟨h,by rw[if_neg ω];exact if_neg ω⟩)
 ·exact Or.inr (Or.inr ⟨h,by rw[if_neg ω];exact if_pos h⟩)
theorem acT{a:List Int}(h2:sm a):∀ (k i:Nat),i+k=a.length->∀ (s:ak) (h:ac),s 0=.sl 1 (aO a)->s 3=I (bj (a.take i))->s 4=I i->
  ai 0 [3] (ax (aj R (az false) zQ) [0,3,4] [] s h)=some (.normal,⟨upd (fun _=>.any) 3 (I (bj a)),fun _=>.dead⟩):=by
 intro k;induction k with
 |zero=>
  intro i hi s h h0 h3 h4;have e1:((i:Int)<a.length)=False:=ff;rw[ayt ω]at h3;rw[ag];simp only[zQ,go_sem,h0,h3,h4,e1]
 |succ k ih=>
  intro i hi s h h0 h3 h4;have hlt:i<a.length:=ω
  obtain⟨g1,g2⟩:=h2;have e1:((i:Int)<a.length)=True:=tt;have e2:aX (aO a) (i:Int)=some (.ipt [I a[i]]):=oR rfl (List.getElem?_eq_getElem hlt);have e5:IntKind.i64.wrap ((i:Int)+1)=((i+1:Nat):Int):=wi;have b1:=WM (l:=a.take i) (fun x hx=>g2 x (List.mem_of_mem_take hx));have b2:=g2 a[i] (ayC hlt);have e6:IntKind.i64.wrap (bj (a.take i)+a[i])=bj (a.take (i+1)):=by
   grind[NG,i64_in]
  have ih':=ih (i+1) ω;rw[ag];simp only[zQ,go_sem,h0,h3,h4,e1,e2,e5,e6];exact ih' _ _ rfl rfl rfl
theorem NJ{a:List Int}(h2:sm a):R fc8 [.sl 1 (aO a)] []=some (I (bj a),[]):=by
 refine au aed rfl ?_;have h3:=acT h2 a.length 0 (ayc _);simp only[HL,Sq,go_sem];rw[h3 _ _ rfl rfl rfl];simp only[go_sem]
theorem acU{a b:List Int}(hl:a.length=b.length)(h2:a.length<=100000):∀ (k i:Nat),i+k=a.length->∀ (s:ak) (h:ac),s 0=.sl 1 (aO a)->s 1=.sl 1 (aO b)->s 7=I i->
  ∃hh,ai 0 [] (ax (aj R (az false) kw) [0,1,7] [] s h)=if lR (b.drop i) (a.drop i)=0 then some (.normal,⟨fun _=>.any,fun _=>.dead⟩)else some (.ret,⟨upd (fun _=>.any) 4 (I (lR (b.drop i) (a.drop i))),hh⟩):=by
 intro k;induction k with
 |zero=>
  intro i hi s h h0 h1 h7;have e1:((i:Int)<a.length)=False:=ff;rw[ayw ω,ayw ω,ag];refine⟨fun _=>.dead,?_⟩;show _=if(0:Int)=0 then _ else _
  simp only[kw,go_sem,h0,h1,h7,e1]
 |succ k ih=>
  intro i hi s h h0 h1 h7;have hlt:i<a.length:=ω
  have hlt2:i<b.length:=ω
  have e1:((i:Int)<a.length)=True:=tt;have e2:aX (aO a) (i:Int)=some (.ipt [I a[i]]):=oR rfl (List.getElem?_eq_getElem hlt);have e3:aX (aO b) (i:Int)=some (.ipt [I b[i]]):=oR rfl (List.getElem?_eq_getElem hlt2);have e5:IntKind.i64.wrap ((i:Int)+1)=((i+1:Nat):Int):=wi;rw[ayv hlt,ayv hlt2,ag];have ih':=ih (i+1) ω;generalize a[i]=x at e2⊢;generalize b[i]=y at e3⊢;unfold lR;rcases n8 y x with⟨g,e⟩| ⟨g,e⟩| ⟨g,e⟩
  ·have e6:(y<x)=True:=tt g;simp only[e,↓reduceIte,ayH,Int.reduceNeg];refine⟨?hh1,?_⟩;rotate_left;simp only[kw,go_sem,h0,h1,h7,e1,e2,e3,e6];rfl
  ·have e6:(y<x)=False:=ff;have e7:(x<y)=False:=ff;simp only[e,↓reduceIte];simp only[kw,go_sem,h0,h1,h7,e1,e2,e3,e5,e6,e7];exact ih' _ _ rfl rfl rfl
  ·have e6:(y<x)=False:=ff;have e7:(x<y)=True:=tt;simp only[e,↓reduceIte,ayH];refine⟨?hh2,?_⟩;rotate_left;simp only[kw,go_sem,h0,h1,h7,e1,e2,e3,e6,e7];rfl
theorem Ke{a b:List Int}(ha:sm a)(hb:sm b)(hl:a.length=b.length):R fc4 [.sl 1 (aO a),.sl 1 (aO b)] []=some (I (bU a b),[]):=by
 refine au TT rfl ?_;have d1:=NJ ha;have d2:=NJ hb;have h3:=acU hl (by have:=ha.1;omega) a.length 0 (ayc _);simp only[azb,ayO]at h3;unfold bU;rcases n8 (bj a) (bj b)with⟨g,e⟩| ⟨g,e⟩| ⟨g,e⟩
 ·have e6:(bj a<bj b)=True:=tt g;rw[e,if_neg δ];simp only[mS,sN,go_sem,d1,d2,e6]
 ·have e6:(bj a<bj b)=False:=ff;have e7:(bj b<bj a)=False:=ff;rw[e,if_pos rfl];by_cases hz:lR b a=0
  ·simp only[if_pos hz]at h3;simp only[mS,sN,go_sem,d1,d2,e6,e7];rw[(h3 _ _ rfl rfl rfl).choose_spec,hz];simp only[go_sem]
  ·simp only[if_neg hz]at h3;simp only[mS,sN,go_sem,d1,d2,e6,e7];rw[(h3 _ _ rfl rfl rfl).choose_spec];simp only[go_sem]
 ·have e6:(bj a<bj b)=False:=ff;have e7:(bj b<bj a)=True:=tt;rw[e,if_neg δ];simp only[mS,sN,go_sem,d1,d2,e6,e7]
theorem aeZ{t:Rt}(h2:t.exps.length<=1000):∀ (k i:Nat),i+k=t.exps.length->(∀x∈t.exps.take i,0<=x/\x<=32)->∀ (s:ak) (h:ac),s 3=.ref 3 none 0 0 0->s 5=I (bj (t.exps.take i))->s 6=I i->h 3=.bx (bL t)->
  ∃hh,ai 0 [5] (ax (aj R (az false) jP) [3,5,6] [3] s h)=if(t.exps.drop i).any yn=true then some (.ret,⟨upd (fun _=>.any) 4 (B false),hh⟩)else some (.normal,⟨upd (fun _=>.any) 5 (I (bj t.exps)),hh⟩):=by
 intro k;induction k with
 |zero=>
  intro i hi hg s h h3 h5 h6 k3;have e1:((i:Int)<t.exps.length)=False:=ff;rw[ayt ω]at h5;rw[ayw ω,ag];simp only[bL]at k3;refine⟨?hh,?_⟩;rotate_left;show _=if false=true then _ else _
  simp only[jP,go_sem,h3,h5,h6,k3,e1];rfl
 |succ k ih=>
  intro i hi hg s h h3 h5 h6 k3;have hlt:i<t.exps.length:=ω
  have e1:((i:Int)<t.exps.length)=True:=tt;have e2:aX (aO t.exps) (i:Int)=some (.ipt [I t.exps[i]]):=oR rfl (List.getElem?_eq_getElem hlt);have e5:IntKind.i64.wrap ((i:Int)+1)=((i+1:Nat):Int):=wi;have b1:=WM hg;have b3:(t.exps.take i).length<=1000:=γ
  have ih':=ih (i+1) ω;have htk:t.exps.take (i+1)=t.exps.take i++[t.exps[i]]:=by simp_all
  have hst:=NG hlt;rw[ayv hlt,List.any_cons,ag];simp only[bL]at k3;rw[hst]at ih';rw[htk]at ih';generalize t.exps[i]=x at e2 ih'⊢;unfold yn at ih'⊢;by_cases g1:x<0
  ·have e6:(x<0)=True:=tt g1;simp only[decide_eq_true g1,ay9];refine⟨?hh1,?_⟩;rotate_left;simp only[jP,go_sem,h3,h5,h6,k3,e1,e2,e6];rfl
  ·have e6:(x<0)=False:=ff g1;by_cases g2:32<x
   ·have e7:(32<x)=True:=tt g2;simp only[decide_eq_false g1,decide_eq_true g2,Bool.false_or,ay9];refine⟨?hh2,?_⟩;rotate_left;simp only[jP,go_sem,h3,h5,h6,k3,e1,e2,e6,e7];rfl
   ·have e7:(32<x)=False:=ff g2;have e8:IntKind.i64.wrap (bj (t.exps.take i)+x)=bj (t.exps.take i)+x:=i64_in _ ⟨by omega,by omega⟩;simp only[jP,go_sem,h3,h5,h6,k3,e1,e2,e5,e6,e7,e8];exact ih' (fun y hy=>by
     grind) _ _ rfl rfl rfl rfl
theorem ae0{v:Int}{t:Rt}(ok:Ok0 t.c)(hv:v<=1000):R fc9 [I v,.agg (bL t)] []=some (B (G0 v t),[]):=by
 refine au aco rfl ?_;have hvd:=FF ok;simp only[ae,ah]at hvd;unfold G0;by_cases c1:(t.exps.length:Int)=v
 ·have f1:((t.exps.length:Int)=v)=True:=tt c1;cases c2:vd t.c with
  |false=>
   rw[c2]at hvd;simp only[pX,vR,bL,go_sem,f1,hvd]
  |true=>
   rw[c2]at hvd;by_cases c3:t.c.m.length=0
   ·have f3:((t.c.m.length:Int)=0)=True:=tt;rw[decide_eq_false (p:=t.c.m.length≠0) (fun h=>h c3),ayh];simp only[pX,vR,bL,go_sem,f1,hvd,f3]
   ·have f3:((t.c.m.length:Int)=0)=False:=ff;rw[decide_eq_true (p:=t.c.m.length≠0) c3,ayg];have hL:=aeZ (t:=t) ω t.exps.length 0 (ayc _) (fun x hx=>by grind);generalize hLL:ax (aj R (az false) jP) [3,5,6] [3]=L at hL;have hX:∀s h,aj R (az false) (.loop [3,5,6] [3] jP) s h=L s h:=fun s h=>by rw[←hLL];rfl
    have hL2:∀ (S:ak) (H:ac) (X:Option (Ex×St)),ai 0 [5] (L S H)=X->S 3=.ref 3 none 0 0 0->S 5=I 0->S 6=I 0->H 3=.bx (bL t)->∃hh,X=if t.exps.any yn=true then some (.ret,⟨upd (fun _=>.any) 4 (B false),hh⟩)else some (.normal,⟨upd (fun _=>.any) 5 (I (bj t.exps)),hh⟩):=fun S H X hX=>by
     rw[←hX];exact hL S H
    cases c4:t.exps.any yn with
    |true=>
     simp only[c4]at hL2;simp only[pX,vR,hX,bL,go_sem,f1,hvd,f3];generalize hB:ai 0 [5] (L _ _)=X;obtain⟨hh,g0⟩:=hL2 _ _ _ hB rfl rfl rfl rfl;rw[g0];simp only[go_sem]
    |false=>
     simp only[c4,if_neg ayl]at hL2;simp only[pX,vR,hX,bL,go_sem,f1,hvd,f3];generalize hB:ai 0 [5] (L _ _)=X;obtain⟨hh,g0⟩:=hL2 _ _ _ hB rfl rfl rfl rfl;rw[g0];simp only[go_sem]
 ·have f1:((t.exps.length:Int)=v)=False:=ff c1;simp only[pX,vR,bL,go_sem,f1]
theorem ae1{a:Rp}(ok:∀t∈a.terms,Ok0 t.c)(hv:a.vars<=8)(h2:a.terms.length<=500):∀ (k i:Nat),i+k=a.terms.length->∀ (pr:Option Rt),(i=0->pr=none)->(0<i->∃q,pr=some q/\a.terms[i-1]?=some q/\G0 a.vars q=true)->
  ∀ (s:ak) (h:ac),s 1=.ref 1 none 0 0 0->s 3=I i->h 1=.bx [I a.vars,.sl 4 (aJ a.terms)]->
  ∃hh,ai 0 [] (ax (aj R (az false) kt) [1,3] [1] s h)=if yK a.vars pr (a.terms.drop i)=true then some (.normal,⟨fun _=>.any,hh⟩)else some (.ret,⟨upd (fun _=>.any) 2 (B false),hh⟩):=by
 intro k;induction k with
 |zero=>
  intro i hi pr p0 p1 s h h1 h3 k1;have e1:((i:Int)<a.terms.length)=False:=ff;rw[ayw ω,ag];refine⟨?hh0,?_⟩;rotate_left;show _=if true=true then _ else _
  rw[if_pos rfl];simp only[kt,go_sem,h1,h3,k1,e1];rfl
 |succ k ih=>
  intro i hi pr p0 p1 s h h1 h3 k1;have hlt:i<a.terms.length:=ω
  have e1:((i:Int)<a.terms.length)=True:=tt;have e2:aX (aJ a.terms) (i:Int)=some (.ipt (bL a.terms[i])):=fY rfl (List.getElem?_eq_getElem hlt);have e5:IntKind.i64.wrap ((i:Int)+1)=((i+1:Nat):Int):=wi;have okt:=ok a.terms[i] (ayC hlt);have hnext:a.terms[i+1-1]?=some a.terms[i]:=List.getElem?_eq_getElem hlt;rw[ayv hlt,ag];have ih':=ih (i+1) ω (some a.terms[i]) (fun h=>absurd h (Nat.succ_ne_zero _));generalize a.terms[i]=t at e2 okt ih' hnext⊢;have htm:=ae0 okt (v:=a.vars) ω;simp only[bL]at e2 htm;unfold yK;cases hb:G0 a.vars t with
  |false=>
   rw[hb]at htm;refine⟨?hh2,?_⟩;rotate_left;simp only[kt,go_sem,h1,h3,k1,e1,e2,htm];rfl
  |true=>
   rw[hb]at htm;obtain⟨c1,c2,c3,c4,c5⟩:=Ak hb;by_cases hi0:i=0
   ·have f6:(0< (i:Int))=False:=ff;rw[p0 hi0];simp only[kt,go_sem,h1,h3,k1,e1,e2,htm,f6,e5];exact ih' (fun _=>⟨t,rfl,hnext,hb⟩) _ _ rfl rfl rfl
   ·have f6:(0< (i:Int))=True:=tt;obtain⟨q,q1,q2,q3⟩:=p1 ω;obtain⟨d1,d2,d3,d4,d5⟩:=Ak q3;rw[q1];have e7:IntKind.i64.wrap ((i:Int)-1)=((i-1:Nat):Int):=wi;have e8:aX (aJ a.terms) ((i-1:Nat):Int)=some (.ipt (bL q)):=fY rfl q2;simp only[bL]at e8;have ho:=Ke (a:=q.exps) (b:=t.exps) ⟨by omega,wt d4⟩ ⟨by omega,wt c4⟩ ω;simp only[WO];by_cases c6:bU q.exps t.exps<0
    ·have f7:(0<=bU q.exps t.exps)=False:=ff;simp only[decide_eq_true c6,ayg];simp only[kt,go_sem,h1,h3,k1,e1,e2,htm,f6,e5,e7,e8,ho,f7];exact ih' (fun _=>⟨t,rfl,hnext,hb⟩) _ _ rfl rfl rfl
    ·have f7:(0<=bU q.exps t.exps)=True:=tt;simp only[decide_eq_false c6,ayh,if_neg ayl];refine⟨?hh7,?_⟩;rotate_left;simp only[kt,go_sem,h1,h3,k1,e1,e2,htm,f6,e7,e8,ho,f7];rfl
theorem MI{a:Rp}(ok:∀t∈a.terms,Ok0 t.c):R fc7 [aT a] []=some (B (vp a),[]):=by
 refine au YO rfl ?_;unfold vp;by_cases c1:0<=a.vars
 ·have f1:(a.vars<0)=False:=ff;rw[decide_eq_true c1,ayg];by_cases c2:a.vars<=8
  ·have f2:(8<a.vars)=False:=ff;rw[decide_eq_true c2,ayg];by_cases c3:a.terms.length<=500
   ·have f3:(500< (a.terms.length:Int))=False:=ff;rw[decide_eq_true c3,ayg];have h3:=ae1 ok c2 c3 a.terms.length 0 (ayc _) none (fun _=>rfl) (fun h=>absurd h (Nat.lt_irrefl _));simp only[azb,ayO]at h3;cases hb:yK a.vars none a.terms with
    |true=>
     rw[hb]at h3;simp only[nj,tu,aT,go_sem,f1,f2,f3];rw[(h3 _ _ rfl rfl rfl).choose_spec];simp only[go_sem]
    |false=>
     rw[hb]at h3;simp only[nj,tu,aT,go_sem,f1,f2,f3];rw[(h3 _ _ rfl rfl rfl).choose_spec];simp only[go_sem]
   ·have f3:(500< (a.terms.length:Int))=True:=tt;rw[decide_eq_false c3,ayh];simp only[nj,tu,aT,go_sem,f1,f2,f3]
  ·have f2:(8<a.vars)=True:=tt;rw[decide_eq_false c2,ayh];simp only[nj,tu,aT,go_sem,f1,f2]
 ·have f1:(a.vars<0)=True:=tt;rw[decide_eq_false c1,ayh];simp only[nj,tu,aT,go_sem,f1]
theorem acV{a:Rp}(ok:OkP a):R fc7 [aT a] []=some (B (vp a),[]):=MI fun t h=>(ok.t t h).c
structure Len1 (x:Ri):Prop where
 lo:Lb x.lo.m/\x.lo.m.length<=100000
 hi:Lb x.hi.m/\x.hi.m.length<=100000
def VI(x:Ri):Prop:=(vd x.lo=true/\Ok0 x.lo)/\(vd x.hi=true/\Ok0 x.hi)
theorem VI.len{x:Ri}(h:VI x):Len1 x:=⟨⟨h.1.2.1,ayj (Aj h.1.1 h.1.2.1) δ⟩,⟨h.2.2.1,ayj (Aj h.2.1 h.2.2.1) δ⟩⟩
theorem Kf:VI dm:=⟨aU,aU⟩
theorem aj2{x y:Ri}{p:Int}:VI (eG x y p):=by
 unfold eG;split
 ·unfold ui;split
  ·exact⟨⟨QZ,Lc⟩,⟨QZ,Lc⟩⟩
  ·exact Kf
 ·exact Kf
theorem amG{p:Int}{dom:List Ri}:∀ (l:List Rt) (s:Ri),VI s->VI (Pi p dom l s):=by
 intro l;induction l with
 |nil=>exact fun s h=>h
 |cons t l ih=>exact fun s h=>ih _ aj2
theorem ae2{a:Rp}{dom:List Ri}{p:Int}:VI (pI a dom p):=by
 unfold pI;split
 ·exact amG _ _ ⟨aU,aU⟩
 ·exact Kf
def eX(a:Rp):Int:=if vp a=true then(match a.terms.getLast? with|none=>-1|some t=>bj t.exps)else-1
theorem Lf{a:Rp}(h:vp a=true):0<=a.vars/\a.vars<=8/\a.terms.length<=500/\yK a.vars none a.terms=true:=by
 simp_all[vp,ayf,decide_eq_true_eq]
theorem G1{a:Rp}(h:vp a=true){t:Rt}(ht:t∈a.terms):sm t.exps/\(t.exps.length:Int)=a.vars/\vd t.c=true/\t.c.m.length≠0/\bj t.exps<=32:=by
 obtain⟨v1,v2,v3,v4⟩:=Lf h;obtain⟨c1,c2,c3,c4,c5⟩:=Ak (Le _ _ v4 t ht);exact⟨⟨by omega,wt c4⟩,c1,c2,c3,c5⟩
theorem FH{a:Rp}(ok:OkP a):R fcj [aT a] []=some (I (eX a),[]):=by
 refine au TD rfl ?_;have hv:=vj ok;unfold eX;simp only[aT]at hv;cases hb:vp a with
 |false=>
  rw[hb]at hv;simp only[qF,xE,aT,go_sem,hv]
 |true=>
  rw[hb]at hv;obtain⟨v1,v2,v3,v4⟩:=Lf hb;by_cases h0:a.terms.length=0
  ·have e1:((a.terms.length:Int)=0)=True:=tt;have e4:a.terms.getLast?=none:=by
    grind
   rw[e4];simp only[qF,xE,aT,go_sem,hv,e1]
  ·have e1:((a.terms.length:Int)=0)=False:=ff;have e2:IntKind.i64.wrap ((a.terms.length:Int)-1)=((a.terms.length-1:Nat):Int):=by grind[i64_in]
   have hlt:a.terms.length-1<a.terms.length:=ω
   have e3:aX (aJ a.terms) ((a.terms.length-1:Nat):Int)=some (.ipt (bL a.terms[a.terms.length-1])):=fY rfl (List.getElem?_eq_getElem hlt);have e4:a.terms.getLast?=some a.terms[a.terms.length-1]:=γ
   obtain⟨c1,c2,c3,c4,c5⟩:=G1 hb (ayC hlt);rw[e4];have hd:=yJ c1;simp only[bL]at e3;simp only[qF,xE,aT,go_sem,hv,e1,e2,e3,hd]
def wY(x:Int):List Int->Nat->Int
 |[],_=>-1
 |y::l,i=>if x=y then i else wY x l (i+1)
theorem ahJ{l:List Int}(h2:l.length<=100000)(x:Int):∀ (k i:Nat),i+k=l.length->∀ (s:ak) (h:ac),s 0=.sl 1 (aO l)->s 1=I x->s 7=I l.length->s 8=I i->
  ∃hh,cu (ai 0 [] (ax (aj R (az false) dT) [0,1,7,8] [] s h)) (aj R (az false) (.seq (.ops [4] [co 4 (.mv (.c (I (-1))))]) (.ret)))=some (.ret,⟨upd (fun _=>.any) 4 (I (wY x (l.drop i) i)),hh⟩):=by
 intro k;induction k with
 |zero=>
  intro i hi s h h0 h1 h7 h8;have e1:((i:Int)<l.length)=False:=ff;rw[ayw ω,ag];refine⟨?hh0,?_⟩;rotate_left
  ·simp only[dT,wY,go_sem,ayG,ayz,ayN,ayH,ayE,ayQ,h0,h1,h7,h8,e1];rfl
 |succ k ih=>
  intro i hi s h h0 h1 h7 h8;have hlt:i<l.length:=ω
  have e1:((i:Int)<l.length)=True:=tt;have e2:aX (aO l) (i:Int)=some (.ipt [I l[i]]):=oR rfl (List.getElem?_eq_getElem hlt);have e5:IntKind.i64.wrap ((i:Int)+1)=((i+1:Nat):Int):=wi;have ih':=ih (i+1) ω;rw[ayv hlt,ag];unfold wY;generalize l[i]=y at e2⊢;by_cases hxy:x=y
  ·have e3:(x=y)=True:=tt hxy;refine⟨?hh1,?_⟩;rotate_left
   ·simp only[dT,go_sem,ayG,ayz,ayN,ayH,ayE,ayQ,h0,h1,h7,h8,e1,e2,e3];rfl
  ·have e3:(x=y)=False:=ff hxy;simp only[dT,go_sem,ayG,ayz,ayN,ayH,ayE,ayQ,h0,h1,h7,h8,e1,e2,e3,e5]at ih'⊢;exact ih' _ _ rfl rfl rfl rfl
theorem ahK{l:List Int}(h2:l.length<=100000){x:Int}:R fdV [.sl 1 (aO l),I x] []=some (I (wY x l 0),[]):=by
 refine au EZ rfl ?_;have h:=ahJ h2 x l.length 0 (ayc _);have h':∀ (S:ak) (H:ac) (X:Option (Ex×St)),cu (ai 0 [] (ax (aj R (az false) dT) [0,1,7,8] [] S H)) (aj R (az false) (.seq (.ops [4] [co 4 (.mv (.c (I (-1))))]) (.ret)))=X->S 0=.sl 1 (aO l)->S 1=I x->S 7=I l.length->S 8=I 0->∃hh,X=some (.ret,⟨upd (fun _=>.any) 4 (I (wY x l 0)),hh⟩):=fun S H X hX=>by
  rw[←hX];exact h S H
 simp only[nH,wA,go_sem,ayG,ayz,ayN,ayH,ayE,ayQ];generalize hB:cu (ai 0 [] (ax _ _ _ _ _)) _=X;obtain⟨hh,h3⟩:=h' _ _ _ hB rfl rfl rfl rfl;rw[h3];simp only[go_sem,ayG,ayz,ayN,ayH,ayE,ayQ]
def SC:Option Rd->List AV
 |none=>[B false,.emp,I 0]
 |some d=>ah d
def EH(l:List (Option Rd)):List (List AV):=l.map SC
@[go_sem] theorem avJ(l:List (Option Rd)):(EH l).length=l.length:=by simp[EH]
theorem aj3{l:List (Option Rd)}{i:Nat}{o:Option Rd}(h:l[i]?=some o):(EH l)[i]?=some (SC o):=by grind[EH]
theorem aj4(l:List (Option Rd))(i:Nat)(d:Rd):(EH l).set i (ah d)=EH (l.set i (some d)):=by simp[EH,List.map_set,SC]
theorem aj5(n:Nat):aya n [B false,.emp,I 0]=EH (aya n none):=by simp[EH,SC]
def ZV(l:List (Option Rd)):List Rd:=l.map fun o=>o.getD aH
theorem aj6(l:List (Option Rd)):(EH l).map (dQ [.o 0 [],.o 2 [],.o 0 []])=Ez (ZV l):=by
 simp only[EH,ZV,Ez,List.map_map];refine ayM fun o _=>?_;cases o with
 |none=>simp only[Function.comp,SC,ah,aH,Option.getD,go_sem]
 |some d=>simp only[Function.comp,SC,ah,Option.getD,go_sem]
theorem aj7(o:Option Rd)(d:Rd):(((SC o).set 0 (B d.neg)).set 1 (lm d.m)).set 2 (I d.e)=ah d/\(3<=(SC o).length)=True:=by
 cases o<;>exact⟨rfl,tt (ayd 3)⟩
def Bn:List Rt->List (Option Rd)->List (Option Rd)
 |[],o=>o
 |t::l,o=>Bn l (o.set (wY 1 t.exps 0+1).toNat (some t.c))
theorem ZW(x:Int):∀ (l:List Int) (i:Nat),-1<=wY x l i/\wY x l i<l.length+i
 |[],i=>by
  grind[wY,ayR]
 |y::l,i=>by
  unfold wY;have:=ZW x l (i+1);grind
theorem ahL{a:Rp}(hv:∀t∈a.terms,(t.exps.length:Int)=a.vars)(h8:a.vars<=8)(h5:a.terms.length<=500):∀ (k i:Nat),i+k=a.terms.length->∀ (o:List (Option Rd)),(o.length:Int)=a.vars+1->∀ (s:ak) (h:ac),
  s 4=.rsl 18 none 3 0 o.length->s 20=.sl 4 (aJ a.terms)->s 21=I a.terms.length->s 22=I i->h 1=.bx [I a.vars,.sl 4 (aJ a.terms)]->h 18=.ar 3 (EH o)->
  ∃hh,ai 0 [4] (ax (aj R (az false) lY) [4,20,21,22] [1,18] s h)=some (.normal,⟨upd (fun _=>.any) 4 (.rsl 18 none 3 0 o.length),hh⟩)/\hh 18=.ar 3 (EH (Bn (a.terms.drop i) o)):=by
 intro k;induction k with
 |zero=>
  intro i hi o ho s h h4 h20 h21 h22 k1 k18;have e1:((i:Int)<a.terms.length)=False:=ff;rw[ayw ω,ag];refine⟨?hh0,?_,?_⟩;rotate_left
  ·simp only[lY,go_sem,ayG,ayz,ayN,ayH,ayE,ayQ,h4,h20,h21,h22,k1,k18,e1];rfl
  ·rfl
 |succ k ih=>
  intro i hi o ho s h h4 h20 h21 h22 k1 k18;have hlt:i<a.terms.length:=ω
  have e1:((i:Int)<a.terms.length)=True:=tt;have e2:aX (aJ a.terms) (i:Int)=some (.ipt (bL a.terms[i])):=fY rfl (List.getElem?_eq_getElem hlt);have e5:IntKind.i64.wrap ((i:Int)+1)=((i+1:Nat):Int):=wi;have c1:=hv a.terms[i] (ayC hlt);rw[ayv hlt,ag];have ih':=ih (i+1) ω;unfold Bn;generalize a.terms[i]=t at e2 c1⊢;have hx:=ahK (l:=t.exps) (x:=1) ω;obtain⟨x1,x2⟩:=ZW 1 t.exps 0;have e6:IntKind.i64.wrap (wY 1 t.exps 0+1)=((wY 1 t.exps 0+1).toNat:Int):=by grind[i64_in]
  generalize hn:(wY 1 t.exps 0+1).toNat=n at e6⊢;have hn2:n<o.length:=ω
  have e7:(0<=(n:Int))=True:=tt;have e8:((n:Int)< (o.length:Int))=True:=tt;have e9:=aj3 (List.getElem?_eq_getElem hn2);obtain⟨e10,e11⟩:=aj7 o[n] t.c;have ih2:=ih' (o.set n (some t.c)) γ;rw[List.length_set]at ih2;simp only[bL]at e2;simp only[lY,go_sem,ayG,ayz,ayN,ayH,ayE,ayQ,h4,h20,h21,h22,k1,k18,e1,e2,hx,e6,e7,e8,e9,e10,e11,e5,aj4,ayk,ayc];exact ih2 _ _ rfl rfl rfl rfl rfl rfl
theorem NK:∀ (l:List Rt) (o:List (Option Rd)),(Bn l o).length=o.length
 |[],o=>rfl
 |t::l,o=>by
  unfold Bn;rw[NK l,List.length_set]
def FI(a:Rp):Bool:=vp a&&decide (eX a<=1)
def H8(a:Rp):List Rd:=ZV (Bn a.terms (aya (a.vars.toNat+1) none))
def WV(a:Rp):AV:=if FI a=true then .tup [Cf (H8 a),B true]else .tup [Cf [],B false]
theorem SD{a:Rp}(ok:OkP a):R fal [aT a] []=some (WV a,[]):=by
 refine au Qt rfl ?_;have hv:=vj ok;have hd:=FH ok;unfold WV FI;simp only[aT]at hv hd;cases hb:vp a with
 |false=>
  rw[hb]at hv;simp only[py,vV,aT,go_sem,ayG,ayz,ayN,ayH,ayE,ayQ,hv,Cf,Ez]
 |true=>
  rw[hb]at hv;rw[ayg];generalize hg:eX a=g at hd⊢;by_cases h1:g<=1
  ·have e1:(1<g)=False:=ff;rw[if_pos (decide_eq_true h1)];obtain⟨v1,v2,v3,v4⟩:=Lf hb;have hl:=ahL (a:=a) (fun t ht=>(G1 hb ht).2.1) v2 v3 a.terms.length 0 (ayc _) (aya (a.vars.toNat+1) none) γ;simp only[azb,ayO,azc]at hl;have hl2:=NK a.terms (aya (a.vars.toNat+1) none);have hn:=aj6 (Bn a.terms (aya (a.vars.toNat+1) none));unfold H8;generalize Bn a.terms (aya (a.vars.toNat+1) none)=O at hl hl2 hn⊢;rw[azc]at hl2;generalize hN:a.vars.toNat+1=N at hl hl2⊢;have e2:IntKind.i64.wrap (a.vars+1)=(N:Int):=by grind[i64_in]
   have e3:=rn (i:=(N:Int)) (j:=(N:Int)) (l:=N) (c:=N) rfl rfl (ayd _) ω;have e4:(N*40<=140737488355328)=True:=tt;have e5:(0+N<=O.length)=True:=tt;have e6:(N=O.length)=True:=tt hl2.symm;have h':∀ (S:ak) (H:ac) (X:Option (Ex×St)),ai 0 [4] (ax (aj R (az false) lY) [4,20,21,22] [1,18] S H)=X->S 4=.rsl 18 none 3 0 N->S 20=.sl 4 (aJ a.terms)->S 21=I a.terms.length->S 22=I 0->H 1=.bx [I a.vars,.sl 4 (aJ a.terms)]->H 18=.ar 3 (EH (aya N none))->
     ∃hh,X=some (.normal,⟨upd (fun _=>.any) 4 (.rsl 18 none 3 0 N),hh⟩)/\hh 18=.ar 3 (EH O):=fun S H X hX=>by
    rw[←hX];exact hl S H
   simp only[py,vV,aT,go_sem,ayG,ayz,ayN,ayH,ayE,ayQ,hv,hd,e1,e2,e3,e4,aj5];generalize hB:ai 0 [4] (ax _ _ _ _ _)=X;obtain⟨hh,g0,g1⟩:=h' _ _ _ hB rfl rfl rfl rfl rfl rfl;rw[g0];simp only[go_sem,ayG,ayz,ayN,ayH,ayE,ayQ,g1,e5,e6,hn,Cf]
  ·have e1:(1<g)=True:=tt;rw[if_neg (fun h=>h1 (of_decide_eq_true h))];simp only[py,vV,aT,go_sem,ayG,ayz,ayN,ayH,ayE,ayQ,hv,hd,e1,Cf,Ez]
def fS(a b:Rd):Rd×Int:=if(vd a&&vd b)=true then cH (df (zI a*zI b) (-32768))else(aH,1)
def je(a b:Rd):Rd×Int:=if(vd a&&vd b)=true then cH (df (zI a+zI b) (-16384))else(aH,1)
theorem yO{z f:Int}:vd (cH (df z f)).1=true/\Ok0 (cH (df z f)).1:=by
 unfold cH df;by_cases h:rh (af (ab (bk (decide (z<0)) z.natAbs f).m)) (bk (decide (z<0)) z.natAbs f).e=true
 ·rw[if_pos h];have hv:=GY h;have hb:=yG (decide (z<0)) z.natAbs f;exact⟨hv,hb,ayS (Aj hv hb) δ⟩
 simp_all[if_neg,aU]
theorem Lg(a b:Rd):vd (fS a b).1=true/\Ok0 (fS a b).1:=by
 grind[fS,yO,aU]
theorem aj8(a b:Rd):vd (je a b).1=true/\Ok0 (je a b).1:=by
 grind[je,yO,aU]
theorem G2{d:Rd}(h:vd d=true)(h0:d.m.length≠0):ab d.m%2=1:=by
 obtain⟨h1,h2,h3,h4⟩:=Cd h h0;cases hm:d.m with
 |nil=>grind
 |cons x l=>
  grind[ab]
theorem WX{x y:Nat}(hx:x≠0)(hy:y≠0):af x+af y-2<af (x*y):=by
 have h1:=fu hx;have h2:=fu hy;have h3:2^ (af x-1)<=x:=jK.1 ω;have h4:2^ (af y-1)<=y:=jK.1 ω;rw[jK,show af x+af y-2=(af x-1)+(af y-1)by omega,ayn];exact Nat.mul_le_mul h3 h4
theorem aj9{a b:Rd}(oa:Ok0 a)(ob:Ok0 b):Un a b=rV (fS a b):=by
 unfold Un fS;by_cases hv:vd a=true/\vd b=true
 ·obtain⟨va,vb⟩:=hv;rw[if_pos ⟨va,vb⟩,va,vb,ayg,if_pos rfl,←aeY oa ob va vb];by_cases h0:a.m.length=0\/b.m.length=0
  ·rw[if_pos h0];have:ab a.m*ab b.m=0:=by
    rcases h0 with h0|h0
    ·rw[List.length_eq_zero_iff.1 h0];exact Nat.zero_mul _
    ·rw[List.length_eq_zero_iff.1 h0];exact Nat.mul_zero _
   rw[this,lg];rfl
  ·rw[if_neg h0];have a0:a.m.length≠0:=fun h=>h0 (.inl h);have b0:b.m.length≠0:=fun h=>h0 (.inr h);have x0:=dt va a0;have y0:=dt vb b0;by_cases hb:4096<af (ab a.m)+af (ab b.m)-1
   ·rw[if_pos hb];have h1:=WX x0 y0;have ho:ab a.m*ab b.m%2=1:=by grind[Nat.mul_mod,G2]
    have ht:=aeW ho 0;rw[Nat.pow_zero,Nat.mul_one]at ht;obtain⟨g1,g2,g3,g4⟩:=pZ (neg:=a.neg !=b.neg) (e:=a.e+b.e) (Nat.mul_ne_zero x0 y0);unfold cH;rw[if_neg]
    ·rfl
    ·intro h2;rw[g1,ht,Nat.pow_zero,Nat.div_one]at h2;have h3:=(Bc h2 ω).1;omega
   simp_all[if_neg,K7]
 ·rw[if_neg hv,if_neg]
  ·rfl
  grind
theorem Q2{a b:Rd}(oa:Ok0 a)(ob:Ok0 b):R faL [ae a,ae b] []=some (rV (fS a b),[]):=by
 grind[aj9,ajM]
def SE(m:Rd)(x:Ri):Rd:=if cQ m<0 then x.hi else x.lo
def SF(m:Rd)(x:Ri):Rd:=if cQ m<0 then x.lo else x.hi
def acW(c:Rd)(a b:Rd×Int)(p:Int):Ri:=if a.2=0/\b.2=0 then ui (du c a.1 p false) (du c b.1 p true)else dm
def H9(c m:Rd)(x:Ri)(p:Int):Ri:=acW c (fS m (SE m x)) (fS m (SF m x)) p
theorem aka{c m:Rd}{x:Ri}(oc:Ok0 c)(om:Ok0 m)(vm:vd m=true)(ox:OkI x){p:Int}:R faA [ae c,ae m,am x,I p] []=some (am (H9 c m x p),[]):=by
 refine au V9 rfl ?_;have hs:=Ey om vm;have hw:=H7;unfold H9 acW ui;simp only[ae,ah]at hs;simp only[am,ap,dm]at hw;have key:∀lo hi:Rd,lo=SE m x->hi=SF m x->Ok0 lo->Ok0 hi->ip false gy.rs gy.res 0 (aj R (az false) gy.body (uw [ae c,ae m,am x,I p]) fun _=>.dead)=some (am (if(fS m lo).2=0/\(fS m hi).2=0 then(if(du c (fS m lo).1 p false).2=0/\(du c (fS m hi).1 p true).2=0 then⟨(du c (fS m lo).1 p false).1,(du c (fS m hi).1 p true).1,false⟩else dm)else dm),[]):=by
  intro lo hi e1 e2 ol oh;have h1:=Q2 om ol;have h2:=Q2 om oh;have o1:=(Lg m lo).2;have o2:=(Lg m hi).2;generalize fS m lo=A at h1 o1⊢;generalize fS m hi=D at h2 o2⊢;have h3:=H5 oc o1 (p:=p);have h4:=WF oc o2 (p:=p);generalize du c A.1 p false=Y at h3⊢;generalize du c D.1 p true=Z at h4⊢;obtain⟨A1,A2⟩:=A;obtain⟨D1,D2⟩:=D;obtain⟨Y1,Y2⟩:=Y;obtain⟨Z1,Z2⟩:=Z;unfold SE at e1;unfold SF at e2;simp only[rV,ae,ah]at h1 h2 h3 h4;have hc:((cQ m<0)=True/\lo=x.hi/\hi=x.lo)\/((cQ m<0)=False/\lo=x.lo/\hi=x.hi):=by
   grind
  clear e1 e2;rcases hc with⟨e0,rfl,rfl⟩| ⟨e0,rfl,rfl⟩
  all_goals
   by_cases a1:A2=0
   ·have f1:(A2=0)=True:=tt a1;by_cases a2:D2=0
    ·have f2:(D2=0)=True:=tt a2;rw[if_pos ⟨a1,a2⟩];by_cases a3:Y2=0
     ·have f3:(Y2=0)=True:=tt a3;by_cases a4:Z2=0
      ·have f4:(Z2=0)=True:=tt a4;rw[if_pos ⟨a3,a4⟩];simp only[gy,qN,ae,ah,am,ap,dm,go_sem,ayG,ayz,ayN,ayH,ayE,ayQ,hs,e0,h1,h2,h3,h4,f1,f2,f3,f4]
      ·have f4:(Z2=0)=False:=ff a4;rw[if_neg (fun h=>a4 h.2)];simp only[gy,qN,ae,ah,am,ap,dm,go_sem,ayG,ayz,ayN,ayH,ayE,ayQ,hs,e0,h1,h2,h3,h4,f1,f2,f3,f4,hw]
     ·have f3:(Y2=0)=False:=ff a3;rw[if_neg (fun h=>a3 h.1)];simp only[gy,qN,ae,ah,am,ap,dm,go_sem,ayG,ayz,ayN,ayH,ayE,ayQ,hs,e0,h1,h2,h3,h4,f1,f2,f3,hw]
    ·have f2:(D2=0)=False:=ff a2;rw[if_neg (fun h=>a2 h.2)];simp only[gy,qN,ae,ah,am,ap,dm,go_sem,ayG,ayz,ayN,ayH,ayE,ayQ,hs,e0,h1,h2,h3,h4,f1,f2,hw]
   ·have f1:(A2=0)=False:=ff a1;rw[if_neg (fun h=>a1 h.1)];simp only[gy,qN,ae,ah,am,ap,dm,go_sem,ayG,ayz,ayN,ayH,ayE,ayQ,hs,e0,h1,h2,h3,h4,f1,hw]
 by_cases hm:cQ m<0
 ·exact key _ _ rfl rfl (by unfold SE;rw[if_pos hm];exact ox.hi) (by unfold SF;rw[if_pos hm];exact ox.lo)
 ·exact key _ _ rfl rfl (by unfold SE;rw[if_neg hm];exact ox.lo) (by unfold SF;rw[if_neg hm];exact ox.hi)
theorem ZX:∀ (l:List Rt) (o:List (Option Rd)),(∀t∈l,vd t.c=true/\Ok0 t.c)->(∀x∈o,∀d,x=some d->vd d=true/\Ok0 d)->∀x∈Bn l o,∀d,x=some d->vd d=true/\Ok0 d
 |[],o,_,ho=>ho
 |t::l,o,hl,ho=>by
  unfold Bn;refine ZX l _ (fun u hu=>hl u (List.mem_cons_of_mem _ hu)) fun x hx d hd=>?_;rcases List.mem_or_eq_of_mem_set hx with h|h
  ·exact ho x h d hd
  ·rw[h]at hd;obtain rfl:=Option.some.inj hd;exact hl t (List.mem_cons_self ..)
theorem ZY{a:Rp}(oa:OkP a)(hv:vp a=true):(∀d∈H8 a,vd d=true/\Ok0 d)/\(H8 a).length=a.vars.toNat+1:=by
 constructor
 ·intro d hd;simp only[H8,ZV,ay2]at hd;obtain⟨o,ho,rfl⟩:=hd;have:=ZX a.terms (aya (a.vars.toNat+1) none) (fun t ht=>⟨(G1 hv ht).2.2.1,(oa.t t ht).c⟩) (fun x hx d hd=>by
   rw[List.eq_of_mem_replicate hx]at hd;exact nomatch hd) o ho
  cases o with
  |none=>exact aU
  |some d=>exact this d rfl
 ·simp[H8,ZV,NK]
theorem ae3(a l):aX (a::l) 0=some (.ipt a):=by simp[aX]
theorem amH(a b l):aX (a::b::l) 1=some (.ipt b):=by simp[aX]
theorem ahM{a:Rp}{dom:List Ri}(oa:OkP a)(od:∀x∈dom,OkI x){p:Int}(hf:(nP a dom&&bG p)=true)(hl:FI a=true)(h1:a.vars=1){c m:Rd}{x:Ri}(hlin:H8 a=[c,m])(hdom:dom=[x]):
  R faj [aT a,.sl 7 (bQ dom),I p] []=some (am (H9 c m x p),[]):=by
 refine au jJ rfl ?_;have h2:dom.length<=100000:=by rw[hdom];exact(by decide:1<=100000)
 have hf1:=La oa od h2 (p:=p);rw[hf]at hf1;have hL:=SD oa;unfold WV at hL;rw[if_pos hl,hlin]at hL;have hv:vp a=true:=by
  simp only[FI,ayf]at hl;exact hl.1
 obtain⟨k1,k2⟩:=ZY oa hv;rw[hlin]at k1;have kc:=k1 c (List.mem_cons_self ..);have km:=k1 m (List.mem_cons_of_mem _ (List.mem_cons_self ..));have hn:=aka kc.2 km.2 km.1 (od x (by rw[hdom];exact List.mem_cons_self ..)) (p:=p);generalize H9 c m x p=z at hn⊢;subst hdom;have e1:(a.vars=1)=True:=tt h1;simp only[aT,bQ,ays,ayu,ap]at hf1 hL;simp only[Cf,Ez,ays,ayu,ah]at hL;simp only[ae,ah,am,ap]at hn;simp only[gr,jH,aT,bQ,ays,ayu,am,ap,go_sem,ayG,ayz,ayN,ayH,ayE,ayQ,hf1,hL,hn,e1,ae3,amH]
def aes(x:Rd):Nat->Rd->Option Rd
 |0,c=>some c
 |n+1,c=>if(fS c x).2=0 then aes x n (fS c x).1 else none
def azP:List Int->List Rd->Rd->Option Rd
 |e::es,x::xs,c=>(aes x e.toNat c).bind fun d=>azP es xs d
 |_,_,c=>some c
def azO(xs:List Rd):List Rt->Rd->Rd×Int
 |[],s=>(s,0)
 |t::l,s=>match azP t.exps xs t.c with
  |none=>(aH,9)
  |some d=>if(je s d).2=0 then azO xs l (je s d).1 else(aH,9)
def aBw(a:Rp)(xs:List Rd):Bool:=vp a&& (decide ((xs.length:Int)=a.vars)&&xs.all vd)
def anA(a:Rp)(xs:List Rd):Rd×Int:=if aBw a xs=true then azO xs a.terms aH else(aH,1)
theorem Lh{z:Int}{j:Nat}(h:(cH (df z (-16384-j))).2=0):zI (cH (df z (-16384-j))).1*2^j=z:=by
 unfold cH at h⊢;by_cases hr:rh (af (ab (df z (-16384-j)).m)) (df z (-16384-j)).e=true
 ·rw[if_pos hr];unfold df at hr⊢;by_cases h0:z.natAbs=0
  ·have:z=0:=ω
   rw[this,cO rfl,Int.zero_mul]
  ·obtain⟨g1,g2,g3,g4⟩:=pZ (neg:=decide (z<0)) (e:=-16384- (j:Int)) h0;obtain⟨t1,t2⟩:=tC h0;have hp:af (ab (bk (decide (z<0)) z.natAbs (-16384-j)).m)≠0:=by
    grind[fu]
   have he:=Bc hr hp;rw[iN h0];unfold zI mg;rw[aN];have ht:(-16384- (j:Int)+(tz z.natAbs:Nat)+16384).toNat+j=tz z.natAbs:=ω
   generalize(-16384- (j:Int)+(tz z.natAbs:Nat)+16384).toNat=k at ht⊢;have hm:(((z.natAbs/2^tz z.natAbs*2^k:Nat):Int))*2^j=z.natAbs:=by
    have:z.natAbs/2^tz z.natAbs*2^k*2^j=z.natAbs:=by
     grind[ayD,ayn,ayy]
    grind
   grind
 grind
theorem ZZ{a b:Rd}(h:(je a b).2=0):zI (je a b).1=zI a+zI b:=by
 unfold je at h⊢;split at h
 ·have:=Lh (z:=zI a+zI b) (j:=0) h;grind
 omega
theorem akb{a b:Rd}(h:(fS a b).2=0):zI (fS a b).1*2^16384=zI a*zI b:=by
 unfold fS at h⊢;split at h
 ·rename_i h1;rw[if_pos h1];exact Lh (z:=zI a*zI b) (j:=16384) h
 omega
theorem amI{q t:List Int}(h:bU q t<0):bj q<=bj t:=by
 unfold bU cx at h;omega
theorem Z0{v:Int}:∀ (l:List Rt) (pr:Option Rt),yK v pr l=true->∀u∈l.getLast?,∀t∈l,bj t.exps<=bj u.exps
 |[],_,_,u,hu,_,_=>nomatch hu
 |[t],_,_,u,hu,w,hw=>by
  grind
 |t::s::l,pr,h,u,hu,w,hw=>by
  have h2:yK v (some t) (s::l)=true:=by
   simp_all[yK,ayf]
  have hu2:u∈ (s::l).getLast?:=γ
  have ih:=Z0 (s::l) (some t) h2 u hu2;rcases List.mem_cons.1 hw with h3|h3
  ·rw[h3];unfold yK at h2;simp only[ayf]at h2;have h4:bU t.exps s.exps<0:=of_decide_eq_true h2.2.1;exact Int.le_trans (amI h4) (ih s (List.mem_cons_self ..))
  grind
theorem akc{a:Rp}(h:FI a=true):vp a=true/\∀t∈a.terms,bj t.exps<=1:=by
 simp only[FI,ayf,decide_eq_true_eq]at h;refine⟨h.1,fun t ht=>?_⟩;have h2:=h.2;unfold eX at h2;rw[if_pos h.1]at h2;cases hl:a.terms.getLast? with
 |none=>grind
 |some u=>
  rw[hl]at h2;exact Int.le_trans (Z0 a.terms none (Lf h.1).2.2.2 u ω t ht) h2
theorem akd{t:Rt}(h:(t.exps.length:Int)=1):∃e,t.exps=[e]:=by
 match t.exps,h with
 |[e],_=>grind
 |[],h=>grind
 |_::_::l,h=>grind
theorem aAB{d:Rd}(ok:Ok0 d):R fcC [ae d] []=some (rV (if vd d=true then(d,0)else(aH,9)),[]):=by
 refine au aA0 rfl ?_;have hv:=FF ok;simp only[ae,ah]at hv;cases hb:vd d with
 |false=>
  rw[hb]at hv;simp only[azS,aAm,rV,ae,ah,aH,go_sem,hv]
 |true=>
  rw[hb]at hv;simp only[azS,aAm,rV,ae,ah,go_sem,hv]
theorem aAP(z f:Int):(if vd (df z f)=true then(df z f,(0:Int))else(aH,9))=cH (df z f):=by
 unfold cH;by_cases h:rh (af (ab (df z f).m)) (df z f).e=true
 ·rw[if_pos h,if_pos (show vd (df z f)=true from GY h)]
 ·rw[if_neg h,if_neg];intro h2;by_cases h0:(df z f).m.length=0
  ·rw[Bb h2 h0]at h;exact h δ
  grind[Cd]
theorem aBm{z f:Int}{k:Nat}(h:af z.natAbs<=32*k)(hk:k<=100000):Ok0 (df z f):=
 ⟨yG _ _ _,ayS (Be (k:=k) h) ω⟩
theorem aAi{a b:Rd}(oa:Ok0 a)(ob:Ok0 b):R fcF [ae a,ae b] []=some (rV (fS a b),[]):=by
 refine au aBK rfl ?_;have ha:=FF oa;have hb:=FF ob;unfold fS;simp only[ae,ah]at ha hb;cases va:vd a with
 |false=>
  rw[va]at ha;simp only[az6,aAu,rV,ae,ah,aH,go_sem,ha]
 |true=>
  rw[va]at ha;cases vb:vd b with
  |false=>
   rw[vb]at hb;simp only[az6,aAu,rV,ae,ah,aH,go_sem,ha,hb]
  |true=>
   rw[vb]at hb;have hp:=aBl oa ob va vb;rw[aeY oa ob va vb]at hp;have hl:Ok0 (df (zI a*zI b) (-32768)):=by
    rw[←aeY oa ob va vb];have h1:=J6 (ab a.m) (ab b.m);obtain⟨_,_,_,h2⟩:=ef va oa.lb;obtain⟨_,_,_,h3⟩:=ef vb ob.lb;exact⟨yG _ _ _,ayS (Be (k:=256) ω) δ⟩
   have hc:=aAB hl;rw[aAP]at hc;simp only[rV,ae,ah]at hp hc;simp only[az6,aAu,rV,ae,ah,go_sem,ha,hb,hp,hc]
theorem aBn{a b:Rd}(oa:Ok0 a)(ob:Ok0 b):R fcB [ae a,ae b] []=some (rV (je a b),[]):=by
 refine au aBL rfl ?_;have ha:=FF oa;have hb:=FF ob;unfold je;simp only[ae,ah]at ha hb;cases va:vd a with
 |false=>
  rw[va]at ha;simp only[az7,aAv,rV,ae,ah,aH,go_sem,ha]
 |true=>
  rw[va]at ha;cases vb:vd b with
  |false=>
   rw[vb]at hb;simp only[az7,aAv,rV,ae,ah,aH,go_sem,ha,hb]
  |true=>
   rw[vb]at hb;have hp:=aj1 oa ob va vb;have hl:Ok0 (df (zI a+zI b) (-16384)):=aBm (k:=2000) (ayj (aAx (aAK oa va) (aAK ob vb)) δ) δ;have hc:=aAB hl;rw[aAP]at hc;simp only[rV,ae,ah]at hp hc;simp only[az7,aAv,rV,ae,ah,go_sem,ha,hb,hp,hc]
theorem aCb{a b:Rd}(h:(fS a b).2≠0):(fS a b).1=aH:=by
 unfold fS cH at h⊢;grind
def arr(x:Rd)(n:Nat)(c:Rd):Rd×Bool:=match aes x n c with
 |some d=>(d,true)
 |none=>(aH,false)
theorem aBx{x:Rd}(ox:Ok0 x):∀ (n:Nat),n<=100000->∀ (c:Rd),Ok0 c->∀ (s:ak) (h:ac),s 2=I n->s 3=.ref 3 none 0 0 0->s 4=.ref 4 none 0 0 0->s 6=.ref 6 none 0 0 0->h 3=.bx (ah c)->h 4=.bx (ah x)->h 6=.bx [B false,.emp,I 0]->
  ∃hh,cu (ai 0 [3,6] (ax (aj R (az false) azx) [2,3,4,6] [3,4,6] s h)) (aj R (az false) (.seq (.ops [6,7] [la 22 3 3,sr 3 (.t 6) (.t 22),co 7 (.mv (.c (B true)))]) (.ret)))=some (.ret,⟨upd (upd (fun _=>.any) 7 (B (arr x n c).2)) 6 (.ref 6 none 0 0 0),hh⟩)/\hh 6=.bx (ah (arr x n c).1):=by
 intro n;induction n with
 |zero=>
  intro _ c oc s h h2 h3 h4 h6 k3 k4 k6;have e1:(0< ((0:Nat):Int))=False:=ff;rw[ag];refine⟨?hh0,?_,?_⟩;rotate_left
  ·simp only[azx,arr,aes,go_sem,h2,h3,h4,h6,k3,k4,k6,e1];rfl
  ·rfl
 |succ n ih=>
  intro hn c oc s h h2 h3 h4 h6 k3 k4 k6;have e1:(0< ((n+1:Nat):Int))=True:=tt;have e5:IntKind.i64.wrap (((n+1:Nat):Int)-1)=(n:Int):=by grind[i64_in]
  have hm:=aAi oc ox;have he:=aCb (a:=c) (b:=x);have om:=(Lg c x).2;rw[ag];unfold arr aes;by_cases h0:(fS c x).2=0
  ·have ih':=ih ω (fS c x).1 om;generalize fS c x=r at hm h0 ih'⊢;obtain⟨r1,r2⟩:=r;have e2:(r2=0)=True:=tt h0;simp only[rV,ae,ah]at hm k3 k4;simp only[azx,go_sem,h2,h3,h4,h6,k3,k4,k6,e1,e5,hm,e2]at ih'⊢;exact ih' _ _ rfl rfl rfl rfl rfl rfl rfl
  ·rw[if_neg h0]
   replace he:=he h0
   generalize fS c x=r at hm h0 he⊢;obtain⟨r1,r2⟩:=r;have e2:(r2=0)=False:=ff h0;subst he;simp only[rV,ae,ah]at hm k3 k4;refine⟨?hh1,?_,?_⟩;rotate_left
   ·simp only[azx,go_sem,h2,h3,h4,h6,k3,k4,k6,e1,hm,e2];rfl
   ·rfl
theorem aBy{c x:Rd}(oc:Ok0 c)(ox:Ok0 x){n:Nat}(hn:n<=100000):R fda [ae c,ae x,I n] []=some (.tup [ae (arr x n c).1,B (arr x n c).2],[]):=by
 refine au aBj rfl ?_;have h:=aBx ox n hn c oc;have h':∀ (S:ak) (H:ac) (X:Option (Ex×St)),cu (ai 0 [3,6] (ax (aj R (az false) azx) [2,3,4,6] [3,4,6] S H)) (aj R (az false) (.seq (.ops [6,7] [la 22 3 3,sr 3 (.t 6) (.t 22),co 7 (.mv (.c (B true)))]) (.ret)))=X->S 2=I n->S 3=.ref 3 none 0 0 0->S 4=.ref 4 none 0 0 0->S 6=.ref 6 none 0 0 0->H 3=.bx (ah c)->H 4=.bx (ah x)->H 6=.bx [B false,.emp,I 0]->
   ∃hh,X=some (.ret,⟨upd (upd (fun _=>.any) 7 (B (arr x n c).2)) 6 (.ref 6 none 0 0 0),hh⟩)/\hh 6=.bx (ah (arr x n c).1):=fun S H X hX=>by
  rw[←hX];exact h S H
 simp only[aAq,aAM,ae,ah,go_sem];generalize hB:cu (ai 0 [3,6] (ax _ _ _ _ _)) _=X;obtain⟨hh,g1,g2⟩:=h' _ _ _ hB rfl rfl rfl rfl rfl rfl rfl;rw[g1];simp only[ah]at g2;simp only[go_sem,g2]
theorem arH{x:Rd}:∀ (n:Nat) (c d:Rd),Ok0 c->aes x n c=some d->Ok0 d
 |0,c,d,oc,h=>by
  grind[aes,Option.some.inj]
 |n+1,c,d,oc,h=>by
  unfold aes at h;split at h
  ·exact arH n _ d (Lg c x).2 h
  ·exact nomatch h
abbrev zb:List AV:=[B false,.emp,I 0]
theorem aCD{a:Rp}{xs:List Rd}(ox:∀d∈xs,Ok0 d)(h2:xs.length<=100000):∀ (k i:Nat),i+k=xs.length->∀ (s:ak) (h:ac),s 1=Cf xs->s 2=.ref 2 none 0 0 0->s 4=.ref 4 none 0 0 0->s 6=I i->h 2=.bx [I a.vars,.sl 4 (aJ a.terms)]->h 4=.bx zb->
  ∃hh,hh 4=.bx zb/\(((xs.drop i).all vd=true/\hh 2=.bx [I a.vars,.sl 4 (aJ a.terms)]/\(∀a,a≠2->a≠4->hh a=.dead)/\ai 0 [1,2,4] (ax (aj R (az false) azo) [1,2,4,6] [2,4] s h)=some (.normal,⟨upd (upd (upd (fun _=>.any) 4 (.ref 4 none 0 0 0)) 2 (.ref 2 none 0 0 0)) 1 (Cf xs),hh⟩))\/
   ((xs.drop i).all vd=false/\ai 0 [1,2,4] (ax (aj R (az false) azo) [1,2,4,6] [2,4] s h)=some (.ret,⟨upd (upd (fun _=>.any) 5 (I 1)) 4 (.ref 4 none 0 0 0),hh⟩))):=by
 intro k;induction k with
 |zero=>
  intro i hi s h h1 h2 h4 h6 k2 k4;have e1:((i:Int)<xs.length)=False:=ff;rw[ayw ω,ag];refine⟨?hh0,?_,.inl ⟨rfl,?_,?_,?_⟩⟩;rotate_left 4
  ·simp only[azo,Cf,go_sem,h1,h2,h4,h6,k2,k4,e1];rfl
  all_goals simp_all[upd,if_neg]
 |succ k ih=>
  intro i hi s h h1 h2 h4 h6 k2 k4;have hlt:i<xs.length:=ω
  have e1:((i:Int)<xs.length)=True:=tt;have e2:aX (Ez xs) (i:Int)=some (.ipt (ah xs[i])):=ajN rfl (List.getElem?_eq_getElem hlt);have e5:IntKind.i64.wrap ((i:Int)+1)=((i+1:Nat):Int):=wi;have od:=ox xs[i] (ayC hlt);have ih':=ih (i+1) ω;rw[ayv hlt,ag];generalize xs[i]=d at e2 od⊢;have hv:=FF od;unfold Cf at h1 ih'⊢;simp only[ae,ah]at hv e2;cases hb:vd d with
  |true=>
   rw[hb]at hv;rw[show(d::xs.drop (i+1)).all vd=(xs.drop (i+1)).all vd by rw[ayJ,hb,ayg]];simp only[azo,go_sem,h1,h2,h4,h6,k2,k4,e1,e2,e5,hv];exact ih' _ _ rfl rfl rfl rfl rfl rfl
  |false=>
   rw[hb]at hv;rw[show(d::xs.drop (i+1)).all vd=false by rw[ayJ,hb,ayh]];refine⟨?hh1,?_,.inr ⟨rfl,?_⟩⟩;rotate_left 2
   ·simp only[azo,go_sem,h1,h2,h4,h6,k2,k4,e1,e2,hv];rfl
   ·rfl
theorem aBz{es:List Int}{xs:List Rd}{c:Rd}{i:Nat}(h1:i<es.length)(h2:i<xs.length):azP (es.drop i) (xs.drop i) c=(aes xs[i] es[i].toNat c).bind fun d=>azP (es.drop (i+1)) (xs.drop (i+1)) d:=by
 rw[ayv h1,ayv h2];rfl
theorem aCM{a:Rp}{xs:List Rd}{t:Rt}{j:Nat}{c7:List AV}(h7c:c7.all (jG [2,4,7,9])=true)(ox:∀d∈xs,Ok0 d)(hx:(xs.length:Int)=a.vars)(hv:a.vars<=8)(he:t.exps.length=xs.length)(hr:∀e∈t.exps,0<=e/\e<=32)(ht:a.terms[j]?=some t):∀ (k i:Nat),i+k=xs.length->∀ (c:Rd),Ok0 c->∀ (s:ak) (h:ac),s 1=Cf xs->s 2=.ref 2 none 0 0 0->s 4=.ref 4 none 0 0 0->s 7=.ref 7 none 0 0 0->s 8=I j->s 9=.ref 9 none 0 0 0->s 10=I i->
  h 2=.bx [I a.vars,.sl 4 (aJ a.terms)]->h 4=.bx zb->h 7=.bx c7->h 9=.bx (ah c)->
  ∃hh,hh 4=.bx zb/\((∃d,azP (t.exps.drop i) (xs.drop i) c=some d/\Ok0 d/\hh 9=.bx (ah d)/\hh 2=.bx [I a.vars,.sl 4 (aJ a.terms)]/\hh 7=.bx c7/\(∀a,a≠2->a≠4->a≠7->a≠9->hh a=.dead)/\
    ai 4 [1,2,4,7,8,9] (ax (aj R (az false) azm) [1,2,4,7,8,9,10] [2,4,7,9] s h)=some (.normal,⟨upd (upd (upd (upd (upd (upd (fun _=>.any) 9 (.ref 9 none 0 0 0)) 8 (I j)) 7 (.ref 7 none 0 0 0)) 4 (.ref 4 none 0 0 0)) 2 (.ref 2 none 0 0 0)) 1 (Cf xs),hh⟩))\/
   (azP (t.exps.drop i) (xs.drop i) c=none/\ai 4 [1,2,4,7,8,9] (ax (aj R (az false) azm) [1,2,4,7,8,9,10] [2,4,7,9] s h)=some (.ret,⟨upd (upd (fun _=>.any) 5 (I 9)) 4 (.ref 4 none 0 0 0),hh⟩))):=by
 intro k;induction k with
 |zero=>
  intro i hi c oc s h h1 h2 h4 h7 h8 h9 h10 k2 k4 k7 k9;have e1:((i:Int)<a.vars)=False:=ff;rw[ayw (show xs.length<=i by omega),ayw (show t.exps.length<=i by omega),ag];refine⟨?hh0,?_,.inl ⟨c,rfl,oc,?_,?_,?_,?_,?_⟩⟩;rotate_left 6
  ·simp only[azm,Cf,go_sem,h1,h2,h4,h7,h8,h9,h10,k2,k4,k7,k9,h7c,e1];rfl
  all_goals simp_all[upd,if_neg]
 |succ k ih=>
  intro i hi c oc s h h1 h2 h4 h7 h8 h9 h10 k2 k4 k7 k9;have hlt:i<xs.length:=ω
  have hlt2:i<t.exps.length:=ω
  have e1:((i:Int)<a.vars)=True:=tt;have e2:aX (Ez xs) (i:Int)=some (.ipt (ah xs[i])):=ajN rfl (List.getElem?_eq_getElem hlt);have e3:aX (aJ a.terms) (j:Int)=some (.ipt (bL t)):=fY rfl ht;have e4:aX (aO t.exps) (i:Int)=some (.ipt [I t.exps[i]]):=oR rfl (List.getElem?_eq_getElem hlt2);have e5:IntKind.i64.wrap ((i:Int)+1)=((i+1:Nat):Int):=wi;have od:=ox xs[i] (ayC hlt);obtain⟨r1,r2⟩:=hr t.exps[i] (ayC hlt2);have ih':=ih (i+1) ω;rw[aBz hlt2 hlt,ag];generalize t.exps[i]=e at e4 r1 r2⊢;obtain⟨n,rfl⟩:=aze r1;rw[ayk];generalize xs[i]=x at e2 od⊢;have hm:=aBy oc od (n:=n) ω;have hok:=arH (x:=x) n c;unfold arr at hm;unfold Cf at h1 ih'⊢;simp only[bL]at e3;cases hT:aes x n c with
  |some d=>
   have oc2:=hok d oc hT;rw[hT]at hm;simp only[ae,ah]at hm e2 k9
   replace ih':=ih' d oc2
   simp only[azm,go_sem,h1,h2,h4,h7,h8,h9,h10,k2,k4,k7,k9,h7c,e1,e2,e3,e4,e5,hm];exact ih' _ _ rfl rfl rfl rfl rfl rfl rfl rfl rfl rfl rfl
  |none=>
   rw[hT]at hm;simp only[ae,ah,aH]at hm e2 k9;refine⟨?hh1,?_,.inr ⟨rfl,?_⟩⟩;rotate_left 2
   ·simp only[azm,go_sem,h1,h2,h4,h7,h8,h9,h10,k2,k4,k7,k9,h7c,e1,e2,e3,e4,hm];rfl
   ·rfl
theorem aAV{xs:List Rd}{t:Rt}{l:List Rt}{q d:Rd}(h:azP t.exps xs t.c=some d):azO xs (t::l) q=if(je q d).2=0 then azO xs l (je q d).1 else(aH,9):=by
 rw[show azO xs (t::l) q=(match azP t.exps xs t.c with|none=>(aH,(9:Int))|some d=>if(je q d).2=0 then azO xs l (je q d).1 else(aH,9))from rfl,h]
theorem aAW{xs:List Rd}{t:Rt}{l:List Rt}{q:Rd}(h:azP t.exps xs t.c=none):azO xs (t::l) q=(aH,9):=by
 rw[show azO xs (t::l) q=(match azP t.exps xs t.c with|none=>(aH,(9:Int))|some d=>if(je q d).2=0 then azO xs l (je q d).1 else(aH,9))from rfl,h]
theorem aCE{a:Rp}{xs:List Rd}(ox:∀d∈xs,Ok0 d)(oa:OkP a)(hv:vp a=true)(hx:(xs.length:Int)=a.vars):∀ (k i:Nat),i+k=a.terms.length->∀ (q:Rd),Ok0 q->∀ (c7:List AV),(c7=ah q\/(c7=zb/\q=aH))->∀ (s:ak) (h:ac),s 1=Cf xs->s 2=.ref 2 none 0 0 0->s 4=.ref 4 none 0 0 0->s 7=.ref 7 none 0 0 0->s 8=I i->
  h 2=.bx [I a.vars,.sl 4 (aJ a.terms)]->h 4=.bx zb->h 7=.bx c7->
  ∃hh,hh 4=.bx zb/\((∃d c8,azO xs (a.terms.drop i) q=(d,0)/\hh 7=.bx c8/\(c8=ah d\/(c8=zb/\d=aH))/\ai 2 [4,7] (ax (aj R (az false) azq) [1,2,4,7,8] [2,4,7] s h)=some (.normal,⟨upd (upd (fun _=>.any) 7 (.ref 7 none 0 0 0)) 4 (.ref 4 none 0 0 0),hh⟩))\/
   (azO xs (a.terms.drop i) q=(aH,9)/\ai 2 [4,7] (ax (aj R (az false) azq) [1,2,4,7,8] [2,4,7] s h)=some (.ret,⟨upd (upd (fun _=>.any) 5 (I 9)) 4 (.ref 4 none 0 0 0),hh⟩))):=by
 obtain⟨v1,v2,v3,v4⟩:=Lf hv;intro k;induction k with
 |zero=>
  intro i hi q oq c7 hq s h h1 h2 h4 h7 h8 k2 k4 k7;have e1:((i:Int)<a.terms.length)=False:=ff;rw[ayw ω,ag];have h7c:c7.all (jG [2,4,7])=true:=by rcases hq with rfl| ⟨rfl,rfl⟩<;>rfl
  refine⟨?hh0,?_,.inl ⟨q,c7,rfl,?_,hq,?_⟩⟩;rotate_left 3
  ·simp only[azq,go_sem,h1,h2,h4,h7,h8,k2,k4,k7,h7c,e1];rfl
  ·rfl
  ·rfl
 |succ k ih=>
  intro i hi q oq c7 hq s h h1 h2 h4 h7 h8 k2 k4 k7;have hlt:i<a.terms.length:=ω
  have e1:((i:Int)<a.terms.length)=True:=tt;have ht:=List.getElem?_eq_getElem hlt;have e5:IntKind.i64.wrap ((i:Int)+1)=((i+1:Nat):Int):=wi;have okt:=oa.t a.terms[i] (ayC hlt);obtain⟨c1,c2,c3,c4,c5⟩:=G1 hv (ayC hlt);have ih':=ih (i+1) ω;rw[ayv hlt,ag];generalize a.terms[i]=t at ht okt c1 c2 c3 c4 c5⊢;have e2:aX (aJ a.terms) (i:Int)=some (.ipt (bL t)):=fY rfl ht;have h7c:c7.all (jG [2,4,7])=true:=by rcases hq with rfl| ⟨rfl,rfl⟩<;>rfl
  have h7d:c7.all (jG [2,4,7,9])=true:=by rcases hq with rfl| ⟨rfl,rfl⟩<;>rfl
  have hin:=aCM h7d ox hx v2 ω c1.2 ht xs.length 0 (ayc _) t.c okt.c;generalize hL0:ax (aj R (az false) azm) [1,2,4,7,8,9,10] [2,4,7,9]=L0 at hin;have hX:∀s h,aj R (az false) (.loop [1,2,4,7,8,9,10] [2,4,7,9] azm) s h=L0 s h:=fun s h=>by rw[←hL0];rfl
  have hin2:∀ (S:ak) (H:ac) (X:Option (Ex×St)),ai 4 [1,2,4,7,8,9] (L0 S H)=X->S 1=Cf xs->S 2=.ref 2 none 0 0 0->S 4=.ref 4 none 0 0 0->S 7=.ref 7 none 0 0 0->S 8=I i->S 9=.ref 9 none 0 0 0->S 10=I 0->
    H 2=.bx [I a.vars,.sl 4 (aJ a.terms)]->H 4=.bx zb->H 7=.bx c7->H 9=.bx (ah t.c)->
    ∃hh,hh 4=.bx zb/\((∃d,azP t.exps xs t.c=some d/\Ok0 d/\hh 9=.bx (ah d)/\hh 2=.bx [I a.vars,.sl 4 (aJ a.terms)]/\hh 7=.bx c7/\(∀a,a≠2->a≠4->a≠7->a≠9->hh a=.dead)/\
      X=some (.normal,⟨upd (upd (upd (upd (upd (upd (fun _=>.any) 9 (.ref 9 none 0 0 0)) 8 (I i)) 7 (.ref 7 none 0 0 0)) 4 (.ref 4 none 0 0 0)) 2 (.ref 2 none 0 0 0)) 1 (Cf xs),hh⟩))\/
     (azP t.exps xs t.c=none/\X=some (.ret,⟨upd (upd (fun _=>.any) 5 (I 9)) 4 (.ref 4 none 0 0 0),hh⟩))):=fun S H X hX=>by
   rw[←hX];exact hin S H
  simp only[bL]at e2;simp only[ah]at hin2;simp only[azq,hX,go_sem,h1,h2,h4,h7,h8,k2,k4,k7,h7c,e1,e2];generalize hB:ai 4 [1,2,4,7,8,9] (L0 _ _)=X;obtain⟨hh,g4,hd⟩:=hin2 _ _ _ hB rfl rfl rfl rfl rfl rfl rfl rfl rfl rfl rfl;rcases hd with⟨d,p1,od,g9,g2,g7,gd,rfl⟩| ⟨p1,rfl⟩
  ·have hm:=aBn oq od;have om:=(aj8 q d).2;have ih2:=ih' (je q d).1 om (ah (je q d).1) (.inl rfl);rw[aAV p1];generalize je q d=r at hm om ih2⊢;obtain⟨r1,r2⟩:=r;simp only[rV,ae,ah]at hm ih2;have hg:(c7=[B q.neg,lm q.m,I q.e])\/(c7=zb/\q=aH):=hq;rcases hg with rfl| ⟨rfl,rfl⟩
   all_goals try simp only[aH]at hm
   all_goals
    by_cases h0:r2=0
    ·have e3:(r2=0)=True:=tt h0;rw[if_pos h0];generalize azO xs (a.terms.drop (i+1)) r1=Z at ih2⊢;simp only[ah,go_sem,g4,g7,g9,gd,hm,ne_eq,not_false_eq_true,e5,e3];refine ih2 _ _ ?_ ?_ ?_ ?_ ?_ ?_ ?_ ?_
     all_goals first|rfl|exact g2|exact g4
    ·have e3:(r2=0)=False:=ff h0;rw[if_neg h0];refine⟨?_,?_,.inr ⟨rfl,?_⟩⟩;rotate_left 2
     ·simp only[go_sem,g4,g7,g9,gd,hm,ne_eq,not_false_eq_true,e3];rfl
     ·rfl
  ·rw[aAW p1];refine⟨hh,g4,.inr ⟨rfl,?_⟩⟩;simp only[go_sem]
theorem aAX{a:Rp}{xs:List Rd}(oa:OkP a)(ox:∀d∈xs,Ok0 d)(h2:xs.length<=100000):R fc6 [aT a,Cf xs] []=some (rV (anA a xs),[]):=by
 refine au aBv rfl ?_;have hv:=acV oa;unfold anA aBw;simp only[aT]at hv;cases hb:vp a with
 |false=>
  rw[hb]at hv;rw[ayh,if_neg ayl];simp only[azU,aAo,rV,ae,ah,aH,aT,Cf,go_sem,hv]
 |true=>
  rw[hb]at hv;rw[ayg];by_cases hx:(xs.length:Int)=a.vars
  ·have e1:((xs.length:Int)=a.vars)=True:=tt hx;rw[decide_eq_true hx,ayg];have hc:=aCD (a:=a) ox h2 xs.length 0 (ayc _);have ho:=aCE ox oa hb hx a.terms.length 0 (ayc _) aH aU.2 zb (.inr ⟨rfl,rfl⟩);simp only[azb,ayO]at hc ho;generalize hL2:ax (aj R (az false) azo) [1,2,4,6] [2,4]=L2 at hc;have hX2:∀s h,aj R (az false) (.loop [1,2,4,6] [2,4] azo) s h=L2 s h:=fun s h=>by rw[←hL2];rfl
   clear hL2;generalize hL1:ax (aj R (az false) azq) [1,2,4,7,8] [2,4,7]=L1 at ho;have hX1:∀s h,aj R (az false) (.loop [1,2,4,7,8] [2,4,7] azq) s h=L1 s h:=fun s h=>by rw[←hL1];rfl
   clear hL1;have hc2:∀ (S:ak) (H:ac) (X:Option (Ex×St)),ai 0 [1,2,4] (L2 S H)=X->S 1=Cf xs->S 2=.ref 2 none 0 0 0->S 4=.ref 4 none 0 0 0->S 6=I 0->H 2=.bx [I a.vars,.sl 4 (aJ a.terms)]->H 4=.bx zb->
     ∃hh,hh 4=.bx zb/\((xs.all vd=true/\hh 2=.bx [I a.vars,.sl 4 (aJ a.terms)]/\(∀a,a≠2->a≠4->hh a=.dead)/\X=some (.normal,⟨upd (upd (upd (fun _=>.any) 4 (.ref 4 none 0 0 0)) 2 (.ref 2 none 0 0 0)) 1 (Cf xs),hh⟩))\/
      (xs.all vd=false/\X=some (.ret,⟨upd (upd (fun _=>.any) 5 (I 1)) 4 (.ref 4 none 0 0 0),hh⟩))):=fun S H X hX=>by
    rw[←hX];exact hc S H
   have ho2:∀ (S:ak) (H:ac) (X:Option (Ex×St)),ai 2 [4,7] (L1 S H)=X->S 1=Cf xs->S 2=.ref 2 none 0 0 0->S 4=.ref 4 none 0 0 0->S 7=.ref 7 none 0 0 0->S 8=I 0->
     H 2=.bx [I a.vars,.sl 4 (aJ a.terms)]->H 4=.bx zb->H 7=.bx zb->
     ∃hh,hh 4=.bx zb/\((∃d c8,azO xs a.terms aH=(d,0)/\hh 7=.bx c8/\(c8=ah d\/(c8=zb/\d=aH))/\X=some (.normal,⟨upd (upd (fun _=>.any) 7 (.ref 7 none 0 0 0)) 4 (.ref 4 none 0 0 0),hh⟩))\/
      (azO xs a.terms aH=(aH,9)/\X=some (.ret,⟨upd (upd (fun _=>.any) 5 (I 9)) 4 (.ref 4 none 0 0 0),hh⟩))):=fun S H X hX=>by
    rw[←hX];exact ho S H
   clear hc ho;unfold Cf at hc2 ho2;simp only[azU,aAo,hX2,aT,Cf,go_sem,hv,e1];generalize hB:ai 0 [1,2,4] (L2 _ _)=X;obtain⟨hh,g4,hd⟩:=hc2 _ _ _ hB rfl rfl rfl rfl rfl rfl;clear hB hc2;rcases hd with⟨q1,g2,gd,rfl⟩| ⟨q1,rfl⟩
   ·rw[q1,if_pos rfl];simp only[hX1,go_sem,gd,ne_eq,not_false_eq_true];generalize hB:ai 2 [4,7] (L1 _ _)=X;obtain⟨hh2,f4,hd⟩:=ho2 _ _ _ hB rfl rfl rfl rfl rfl g2 g4 rfl;clear hB ho2;rcases hd with⟨d,c8,q1,f7,hq,rfl⟩| ⟨q1,rfl⟩
    ·rw[q1];rcases hq with rfl| ⟨rfl,rfl⟩
     ·simp only[ah]at f7;simp only[rV,ae,ah,go_sem,f4,f7]
     ·simp only[rV,ae,ah,aH,go_sem,f4,f7]
    ·rw[q1];simp only[rV,ae,ah,aH,go_sem,f4]
   ·rw[q1,if_neg ayl];simp only[rV,ae,ah,aH,go_sem,g4]
  ·have e1:((xs.length:Int)=a.vars)=False:=ff hx;rw[decide_eq_false hx,ayh,if_neg ayl];simp only[azU,aAo,rV,ae,ah,aH,aT,Cf,go_sem,hv,e1]
theorem Y6{a:Rp}(ok:OkP a):R fc5 [aT a] []=some (I (eX a),[]):=by
 refine au V1 rfl ?_;have hv:=acV ok;unfold eX;simp only[aT]at hv;cases hb:vp a with
 |false=>
  rw[hb]at hv;rw[if_neg ayl];simp only[sJ,zE,aT,go_sem,hv]
 |true=>
  rw[hb]at hv;rw[if_pos rfl];obtain⟨v1,v2,v3,v4⟩:=Lf hb;by_cases h0:a.terms.length=0
  ·have e1:((a.terms.length:Int)=0)=True:=tt;have e4:a.terms.getLast?=none:=by
    rw[List.length_eq_zero_iff.1 h0];rfl
   rw[e4];simp only[sJ,zE,aT,go_sem,hv,e1]
  ·have e1:((a.terms.length:Int)=0)=False:=ff;have e2:IntKind.i64.wrap ((a.terms.length:Int)-1)=((a.terms.length-1:Nat):Int):=by rw[i64_in]<;>omega
   have hlt:a.terms.length-1<a.terms.length:=ω
   have e3:aX (aJ a.terms) ((a.terms.length-1:Nat):Int)=some (.ipt (bL a.terms[a.terms.length-1])):=fY rfl (List.getElem?_eq_getElem hlt);have e4:a.terms.getLast?=some a.terms[a.terms.length-1]:=by rw[List.getLast?_eq_getElem?,List.getElem?_eq_getElem hlt]
   obtain⟨c1,c2,c3,c4,c5⟩:=G1 hb (ayC hlt);rw[e4];generalize a.terms[a.terms.length-1]=t at e3 c1 c2 c3 c4 c5⊢;have hd:=NJ c1;simp only[bL]at e3;simp only[sJ,zE,aT,go_sem,hv,e1,e2,e3,hd]
@[go_sem] theorem avK(l:List Rd):(Ez l).map (dQ [.o 0 [],.o 2 [],.o 0 []])=Ez l:=by
 refine rp fun x hx=>?_;simp only[Ez,ay2]at hx;obtain⟨t,ht,rfl⟩:=hx;simp only[ah,go_sem]
theorem aBo{xs:List Rd}:∀ (l:List Rt) (s:Rd),vd s=true/\Ok0 s->vd (azO xs l s).1=true/\Ok0 (azO xs l s).1
 |[],s,h=>h
 |t::l,s,h=>by
  cases hp:azP t.exps xs t.c with
  |none=>rw[aAW hp];exact aU
  |some d=>
   rw[aAV hp];split
   ·exact aBo l _ (aj8 s d)
   ·exact aU
theorem aA3(a:Rp)(xs:List Rd):vd (anA a xs).1=true/\Ok0 (anA a xs).1:=by
 grind[anA,aBo,aU]
theorem EI{d:Rd}(h:vd d=true):cH d=(d,0):=by
 unfold cH;by_cases h0:d.m.length=0
 ·rw[Bb h h0];rfl
 simp_all[if_pos,Cd]
theorem Kg{d:Rd}(ok:Ok0 d)(h:vd d=true):bk d.neg (ab d.m) d.e=d:=by
 have h1:=Bm ok h;obtain⟨g1,g2,g3,g4⟩:=ef h ok.lb;have hz:zI d=bE d.neg (mg d):=rfl;rw[hz,←yN]at h1;grind[mg,jC]
theorem Z3{N k:Nat}{neg:Bool}(ho:N%2=1)(hb:4096<af N):cH (bk neg (N*2^k) (-16384))=(aH,9):=by
 have h0:N≠0:=ω
 rw[jC];obtain⟨g1,g2,g3,g4⟩:=pZ (neg:=neg) (e:=-16384+(k:Int)) h0;have ht:=aeW ho 0;rw[Nat.pow_zero,Nat.mul_one]at ht;unfold cH;rw[if_neg];intro h2;rw[g1,ht,Nat.pow_zero,Nat.div_one]at h2;have h3:=(Bc h2 ω).1;omega
theorem WY{a b:Rd}(oa:Ok0 a)(ob:Ok0 b)(va:vd a=true)(vb:vd b=true)(na:a.m.length≠0)(nb:b.m.length≠0){e:Int}(he:e=if b.e<a.e then b.e else a.e)(h:4097<aL a-e)(hg:1<aL a-aL b):
  cH (df (zI a+zI b) (-16384))=(aH,9)/\cH (df (zI b+zI a) (-16384))=(aH,9):=by
 obtain⟨a1,a2,a3,a4⟩:=ef va oa.lb;obtain⟨b1,b2,b3,b4⟩:=ef vb ob.lb;have e1:=iM va na;have e2:=iM vb nb;have he1:-16384<=e/\e<=a.e/\e<=b.e/\(e=a.e\/e=b.e):=by
  omega
 have hne:a.e≠b.e:=ω
 have z1:zI a=bE a.neg (ab a.m*2^ (a.e-e).toNat*2^ (e+16384).toNat):=by
  grind[zI,bE,mg,uX]
 have z2:zI b=bE b.neg (ab b.m*2^ (b.e-e).toNat*2^ (e+16384).toNat):=by
  rw[show zI b=bE b.neg (mg b)from rfl,uX he1.1 he1.2.2.1]
 have bx:(af (ab a.m*2^ (a.e-e).toNat):Int)=aL a-e:=by
  grind[dk,dt]
 have by':(af (ab b.m*2^ (b.e-e).toNat):Int)=aL b-e:=by
  grind
 have oX:=G2 va na;have oY:=G2 vb nb;have odd:(ab a.m*2^ (a.e-e).toNat+ab b.m*2^ (b.e-e).toNat) %2=1:=by
  rcases he1.2.2.2 with h1|h1
  ·omega
  ·obtain⟨k,hk⟩:∃k,(a.e-e).toNat=k+1:=⟨(a.e-e).toNat-1,by omega⟩;rw[show(b.e-e).toNat=0 by omega,hk,Nat.pow_zero,Nat.mul_one,ayZ,←ayD];omega
 rw[Int.add_comm (zI b),and_self,z1,z2];generalize ab a.m*2^ (a.e-e).toNat=x at bx odd⊢;generalize ab b.m*2^ (b.e-e).toNat=y at by' odd⊢;generalize(e+16384).toNat=k;have hx:2^ (af x-1)<=x:=jK.1 ω;have hy:y<2^ (af x-2):=by
  have h3:y<2^af y:=bD.1 (ayd _);grind[ay8,ayP]
 have hp:2^ (af x-1)=2^ (af x-2)*2:=by
  rw[←ayZ];grind
 have hbig:∀N:Nat,x-y<=N->4096<af N:=fun N hN=>by
  have h5:af x-2<af N:=jK.2 ω;omega
 have hsum:∀ (n:Bool) (z:Nat),df (bE n (z*2^k)) (-16384)=bk n (z*2^k) (-16384):=fun n z=>yN.symm;by_cases hs:a.neg=b.neg
 ·have hz:bE a.neg (x*2^k)+bE b.neg (y*2^k)=bE a.neg ((x+y)*2^k):=by
   rw[←hs,ayA];cases a.neg
   all_goals grind[n7,pH]
  grind[Z3]
 ·have hbn:b.neg=!a.neg:=by
   grind
  have hz:bE a.neg (x*2^k)+bE b.neg (y*2^k)=bE a.neg ((x-y)*2^k):=by
   grind[Bool.not_true,n7,pH]
  rw[hz,hsum];exact Z3 ω (hbig _ (ayd _))
noncomputable def rk:Cmd:=.seq (.dops [2,3,4,6,9,10] [fa 65 1 2,ld 66 1 65,fa 67 2 2,ld 68 1 67,cm 69 6,b2 70 .sub 68 69,ca 71 faY [.t 66,.t 70],fa 72 1 3,ld 73 1 72,fa 74 2 3,ld 75 1 74,cm 76 6,b2 77 .sub 75 76,ca 78 faY [.t 73,.t 77],cm 9 71,cm 10 78] [(6,8),(6,10)]) (.seq (.seq (.ops [2,3,4,6,9,10,83] [fa 79 0 2,ld 80 1 79,fa 81 0 3,ld 82 1 81,co 83 (.eqc false 0 (.t 80) (.t 82))]) (.cond (.t 83) (.seq (.ops [2,4,6,11] [cm 85 9,cm 86 10,ca 87 fbW [.t 85,.t 86],cm 84 87,co 88 (.ext 0 (.t 84)),co 89 (.ext 1 (.t 84)),cm 11 88,cm 12 89]) (.seq (.ops [4,5] [fa 90 0 2,ld 91 1 90,cm 92 11,cm 93 6,ca 94 faS [.t 91,.t 92,.t 93],ca 95 faT [.t 94],co 96 (.ext 0 (.t 95)),co 97 (.ext 1 (.t 95)),sr 3 (.t 4) (.t 96),cm 5 97]) (.ret))) (.skip))) (.seq (.seq (.ops [2,3,4,6,9,10,101] [cm 98 9,cm 99 10,ca 100 fbY [.t 98,.t 99],co 101 (.bin .lss (.t 100) (.c (I 0)))]) (.cond (.t 101) (.ops [2,4,6,9,10] [la 102 3 3,cm 103 10,cm 104 9,sr 3 (.t 2) (.t 102),cm 9 103,cm 10 104]) (.skip))) (.seq (.ops [2,4,6,13] [cm 106 9,cm 107 10,ca 108 fb3 [.t 106,.t 107],cm 105 108,co 109 (.ext 0 (.t 105)),co 110 (.ext 1 (.t 105)),cm 13 109,cm 14 110]) (.seq (.ops [4,5] [fa 111 0 2,ld 112 1 111,cm 113 13,cm 114 6,ca 115 faS [.t 112,.t 113,.t 114],ca 116 faT [.t 115],co 117 (.ext 0 (.t 116)),co 118 (.ext 1 (.t 116)),sr 3 (.t 4) (.t 117),cm 5 118]) (.ret)))))
theorem tK:zU=.seq (.ops [2,3,4] [bx 2 3 (.t 0),bx 3 3 (.t 1),al 4 [B false,.emp,I 0],co 5 (.mv (.c (I 0)))]) (.seq (.seq (.ops [2,3,4,24] [fa 15 1 2,ld 16 1 15,co 17 (.len false (.t 16)),co 18 (.bin .eql (.t 17) (.c (I 0))),cm 19 18,cg 20 19 false (.fadr 1 (.t 3)),⟨(some 21),(some (19,false)),.load 1 false (.t 20)⟩,cg 22 19 false (.len false (.t 21)),cg 23 19 false (.bin .eql (.t 22) (.c (I 0))),co 24 (.pick (.t 19) (.c (B true)) (.t 23))]) (.cond (.t 24) (.seq (.seq (.ops [2,3,4,28] [fa 25 1 2,ld 26 1 25,co 27 (.len false (.t 26)),co 28 (.bin .eql (.t 27) (.c (I 0)))]) (.cond (.t 28) (.ops [2,4] [la 29 3 3,sr 3 (.t 2) (.t 29)]) (.skip))) (.seq (.ops [4,5] [fa 30 0 2,ld 31 1 30,fa 32 1 2,ld 33 1 32,fa 34 2 2,ld 35 1 34,ca 36 faS [.t 31,.t 33,.t 35],sr 3 (.t 4) (.t 36),co 5 (.mv (.c (I 0)))]) (.ret))) (.skip))) (.seq (.ops [2,3,4,6] [fa 37 2 2,ld 38 1 37,fa 39 2 3,ld 40 1 39,co 41 (.mnx true (.t 38) [.t 40]),cm 6 41]) (.seq (.dops [2,3,4,6,7,8] [la 42 3 2,ca 43 faQ [.t 42],la 44 3 3,ca 45 faQ [.t 44],cm 7 43,cm 8 45] [(1,2)]) (.seq (.seq (.ops [2,3,4,6,63] [cm 46 7,cm 47 8,co 48 (.mnx false (.t 46) [.t 47]),cm 49 6,b2 50 .sub 48 49,co 51 (.bin .gtr (.t 50) (.c (I 4097))),cm 52 51,cg 53 52 true (.mv (.t 7)),cg 54 52 true (.mv (.t 8)),cg 55 52 true (.bin .sub (.t 53) (.t 54)),cg 56 52 true (.bin .gtr (.t 55) (.c (I 1))),cg 57 52 true (.mv (.t 56)),cg 58 57 false (.mv (.t 8)),cg 59 57 false (.mv (.t 7)),cg 60 57 false (.bin .sub (.t 58) (.t 59)),cg 61 57 false (.bin .gtr (.t 60) (.c (I 1))),cg 62 52 true (.pick (.t 57) (.c (B true)) (.t 61)),co 63 (.pick (.t 52) (.t 62) (.c (B false)))]) (.cond (.t 63) (.seq (.ops [4,5] [co 64 (.build [B false,.emp,I 0] []),sr 3 (.t 4) (.t 64),co 5 (.mv (.c (I 9)))]) (.ret)) (.skip))) rk)))):=rfl
theorem ae4{a b:Rd}(oa:Ok0 a)(ob:Ok0 b)(va:vd a=true)(vb:vd b=true)(na:a.m.length≠0)(nb:b.m.length≠0){e:Int}(he1:-16384<=e/\e<=a.e/\e<=b.e)(hX:aL a-e<=5000)(hY:aL b-e<=5000)(s:ak)
  (h2:s 2=.ref 2 none 0 0 0) (h3:s 3=.ref 3 none 0 0 0) (h4:s 4=.ref 4 none 0 0 0) (h6:s 6=I e):
  ip false [[.o 0 [],.o 2 [],.o 0 []],[]] [.cell 4 3 true,.t 5] 0 (aj R (az false) rk s (upd (upd (upd (fun _=>.dead) 2 (.bx (ah a))) 3 (.bx (ah b))) 4 (.bx [B false,.emp,I 0])))=some (rV (cH (df (zI a+zI b) (-16384))),[]):=by
 obtain⟨a1,a2,a3,a4⟩:=ef va oa.lb;obtain⟨b1,b2,b3,b4⟩:=ef vb ob.lb;have e1:=iM va na;have e2:=iM vb nb;have w1:IntKind.i64.wrap (a.e-e)=(((a.e-e).toNat:Nat):Int):=wi;have w2:IntKind.i64.wrap (b.e-e)=(((b.e-e).toNat:Nat):Int):=wi;have z1:zI a=bE a.neg (ab a.m*2^ (a.e-e).toNat*2^ (e+16384).toNat):=by
  grind[zI,bE,mg,uX]
 have z2:zI b=bE b.neg (ab b.m*2^ (b.e-e).toNat*2^ (e+16384).toNat):=by
  rw[show zI b=bE b.neg (mg b)from rfl,uX he1.1 he1.2.2]
 have bx:af (ab a.m*2^ (a.e-e).toNat)<=5000:=by
  grind[dk,dt]
 have by':af (ab b.m*2^ (b.e-e).toNat)<=5000:=by
  grind[dk,dt]
 have l1:=Di oa.lb a1 (k:=(a.e-e).toNat) ω (ayj (aV (k:=157) ω) δ);have l2:=Di ob.lb b1 (k:=(b.e-e).toNat) ω (ayj (aV (k:=157) ω) δ);rw[z1,z2];generalize ab a.m*2^ (a.e-e).toNat=x at l1 bx⊢;generalize ab b.m*2^ (b.e-e).toNat=y at l2 by'⊢;have hsum:∀ (n:Bool) (z:Nat),bk n z e=df (bE n (z*2^ (e+16384).toNat)) (-16384):=fun n z=>by
  rw[←yN,jC,show-16384+(((e+16384).toNat:Nat):Int)=e by omega]
 have lx:(av x).length<=157:=aV ω;have ly:(av y).length<=157:=aV ω;have hq:Exq e:=⟨by omega,by omega⟩;have hcp:=Ah (bc x) (bc y) ω ω;rw[aN,aN]at hcp;have chk:∀ (n:Bool) (z:Nat),af z<=5001->R faS [B n,lm (av z),I e] []=some (ae (bk n z e),[])/\R faT [ae (bk n z e)] []=some (rV (cH (bk n z e)),[]):=fun n z hz=>by
  have hl:(av z).length<=157:=aV ω;have c1:=nN (neg:=n) (m:=av z) (e:=e) (bc z) ω hq;rw[aN]at c1;refine⟨c1,?_⟩;rw[Dh (yG n z e) (ayj (Be (k:=157) ω) δ)];exact congrArg (fun v=>some (v,[])) (K7 _)
 by_cases hs:a.neg=b.neg
 ·have p1:=ZH (x:=x) (y:=y) bx by';obtain⟨c1,c2⟩:=chk a.neg (x+y) (EB bx by');have hz:bE a.neg (x*2^ (e+16384).toNat)+bE b.neg (y*2^ (e+16384).toNat)=bE a.neg ((x+y)*2^ (e+16384).toNat):=by
   rw[←hs,ayA];cases a.neg
   all_goals grind[n7,pH]
  rw[hz,←hsum];generalize bk a.neg (x+y) e=r at c1 c2⊢;generalize cH r=q at c2⊢;obtain⟨q1,q2⟩:=q;have hs2:(a.neg==b.neg)=true:=γ
  have hs3:(false != (a.neg==b.neg))=true:=γ
  simp only[rV,ae,ah]at c1 c2;simp only[rk,rV,ae,ah,go_sem,h2,h3,h4,h6,w1,w2,l1,l2,hs3,p1,c1,c2]
 ·have hs2:(a.neg==b.neg)=false:=by
   grind
  have hs3:(false != (a.neg==b.neg))=false:=γ
  have hbn:b.neg=!a.neg:=by
   grind
  have hb1:∀u v:Nat,af u<=5000->af (u-v)<=5001:=fun u v hu=>yF (Nat.sub_le u v) (ayj hu δ);by_cases hlt:x<y
  ·have e5:(cj x y<0)=True:=tt (by simp_all[cj,if_pos]);have m1:=K8 (x:=y) (y:=x) by' bx ω;obtain⟨c1,c2⟩:=chk b.neg (y-x) (hb1 _ _ by');have hz:bE a.neg (x*2^ (e+16384).toNat)+bE b.neg (y*2^ (e+16384).toNat)=bE b.neg ((y-x)*2^ (e+16384).toNat):=by
    grind[Bool.not_true,n7,pH]
   rw[hz,←hsum];generalize bk b.neg (y-x) e=r at c1 c2⊢;generalize cH r=q at c2⊢;obtain⟨q1,q2⟩:=q;simp only[rV,ae,ah]at c1 c2;simp only[rk,rV,ae,ah,go_sem,h2,h3,h4,h6,w1,w2,l1,l2,hs3,hcp,e5,m1,c1,c2]
  ·have e5:(cj x y<0)=False:=ff (by unfold cj;omega);have m1:=K8 (x:=x) (y:=y) bx by' ω;obtain⟨c1,c2⟩:=chk a.neg (x-y) (hb1 _ _ bx);have hz:bE a.neg (x*2^ (e+16384).toNat)+bE b.neg (y*2^ (e+16384).toNat)=bE a.neg ((x-y)*2^ (e+16384).toNat):=by
    grind[Bool.not_true,n7,pH]
   rw[hz,←hsum];generalize bk a.neg (x-y) e=r at c1 c2⊢;generalize cH r=q at c2⊢;obtain⟨q1,q2⟩:=q;simp only[rV,ae,ah]at c1 c2;simp only[rk,rV,ae,ah,go_sem,h2,h3,h4,h6,w1,w2,l1,l2,hs3,hcp,e5,m1,c1,c2]
theorem Z4{a b:Rd}(oa:Ok0 a)(ob:Ok0 b)(va:vd a=true)(vb:vd b=true):R fa0 [ae a,ae b] []=some (rV (cH (df (zI a+zI b) (-16384))),[]):=by
 refine au Wb rfl ?_;by_cases a0:a.m.length=0
 ·have e1:((a.m.length:Int)=0)=True:=tt;have hz:=Bb va a0;obtain⟨b1,b2,b3,b4⟩:=ef vb ob.lb;have c1:=nN (neg:=b.neg) (m:=b.m) (e:=b.e) ob.lb ω ⟨by omega,by omega⟩;have hr:bk b.neg (ab b.m) b.e=b:=Kg ob vb;have hk:cH (df (zI a+zI b) (-16384))=(b,0):=by
   simp_all[cO,Int.zero_add,Bm,EI]
  rw[hr]at c1;rw[hk];simp only[ae,ah]at c1;simp only[lO,zU,rV,ae,ah,go_sem,e1,c1]
 have e1:((a.m.length:Int)=0)=False:=ff;obtain⟨a1,a2,a3,a4⟩:=ef va oa.lb;by_cases b0:b.m.length=0
 ·have e2:((b.m.length:Int)=0)=True:=tt;have c1:=nN (neg:=a.neg) (m:=a.m) (e:=a.e) oa.lb ω ⟨by omega,by omega⟩;have hr:bk a.neg (ab a.m) a.e=a:=Kg oa va;have hk:cH (df (zI a+zI b) (-16384))=(a,0):=by
   simp_all[cO,Int.add_zero,Bm,EI]
  rw[hr]at c1;rw[hk];simp only[ae,ah]at c1;simp only[lO,zU,rV,ae,ah,go_sem,e1,e2,c1]
 have e2:((b.m.length:Int)=0)=False:=ff;obtain⟨b1,b2,b3,b4⟩:=ef vb ob.lb;have ta:=Ce oa;have tb:=Ce ob;have q1:=iM va a0;have q2:=iM vb b0;have p1:=fu (dt va a0);have p2:=fu (dt vb b0);simp only[ae,ah]at ta tb;have g1:=fun h2 h3=>(WY oa ob va vb a0 b0 rfl h2 h3).1;have g2:=fun h2 h3=>(WY ob oa vb va b0 a0 rfl h2 h3).2;obtain⟨e,he⟩:∃e,(if b.e<a.e then b.e else a.e)=e:=⟨_,rfl⟩;have he2:(if a.e<b.e then a.e else b.e)=e:=by
  omega
 rw[he]at g1;rw[he2]at g2;have he1:-16384<=e/\e<=a.e/\e<=b.e:=by
  omega
 obtain⟨M,hM⟩:∃M,(if aL a<aL b then aL b else aL a)=M:=⟨_,rfl⟩;have w1:IntKind.i64.wrap (M-e)=M-e:=i64_in _ ⟨by omega,by omega⟩;have w2:IntKind.i64.wrap (aL a-aL b)=aL a-aL b:=i64_in _ ⟨by omega,by omega⟩;have w3:IntKind.i64.wrap (aL b-aL a)=aL b-aL a:=i64_in _ ⟨by omega,by omega⟩;by_cases h1:4097<M-e
 ·have f1:(4097<M-e)=True:=tt h1;by_cases h2:1<aL a-aL b
  ·have f2:(1<aL a-aL b)=True:=tt h2;rw[g1 ω h2];simp only[lO,tK,rV,aH,ae,ah,go_sem,e1,e2,he,ta,tb,hM,w1,w2,f1,f2]
  ·have f2:(1<aL a-aL b)=False:=ff h2;by_cases h3:1<aL b-aL a
   ·have f3:(1<aL b-aL a)=True:=tt h3;rw[g2 ω h3];simp only[lO,tK,rV,aH,ae,ah,go_sem,e1,e2,he,ta,tb,hM,w1,w2,w3,f1,f2,f3]
   omega
 ·have f1:(4097<M-e)=False:=ff h1;simp only[lO,tK,rV,ae,ah,go_sem,e1,e2,he,ta,tb,hM,w1,f1];exact ae4 oa ob va vb a0 b0 he1 ω ω _ rfl rfl rfl rfl
theorem ake{a b:Rd}(oa:Ok0 a)(ob:Ok0 b):R faG [ae a,ae b] []=some (rV (je a b),[]):=by
 refine au V5 rfl ?_;have v1:=eC oa;have v2:=eC ob;simp only[ae,ah]at v1 v2;unfold je;cases va:vd a with
 |false=>
  rw[va]at v1;simp only[sM,zG,rV,aH,ae,ah,go_sem,v1]
 |true=>
  rw[va]at v1;cases vb:vd b with
  |false=>
   rw[vb]at v2;simp only[sM,zG,rV,aH,ae,ah,go_sem,v1,v2]
  |true=>
   rw[vb]at v2;have hs:=Z4 oa ob va vb;simp only[rV,ae,ah]at hs;simp only[sM,zG,rV,ae,ah,go_sem,v1,v2,hs]
theorem SG:∀a:List Int,lR a a=0
 |[]=>rfl
 |x::a=>by
  unfold lR;rw[if_pos (by unfold cx;simp),SG a]
theorem Z5:∀ {a b:List Int},a.length=b.length->lR a b=0->a=b
 |[],[],_,_=>rfl
 |x::a,y::b,h,h2=>by
  unfold lR at h2;rcases n8 x y with⟨g,e⟩| ⟨g,e⟩| ⟨g,e⟩<;>rw[e]at h2
  ·omega
  ·rw[g,Z5 (by simpa using h) h2]
  omega
 |[],_::_,h,_=>by grind
 |_::_,[],h,_=>by grind
theorem SH:∀ {a b:List Int},a.length=b.length->lR b a=-lR a b
 |[],[],_=>rfl
 |x::a,y::b,h=>by
  unfold lR;rcases n8 x y with⟨g,e⟩| ⟨g,e⟩| ⟨g,e⟩<;>rcases n8 y x with⟨g',e'⟩| ⟨g',e'⟩| ⟨g',e'⟩<;>rw[e,e']<;>first|omega| (simp;done)|skip
  exact SH (by simpa using h)
 |[],_::_,h=>by grind
 |_::_,[],h=>by grind
theorem Z6:∀ {a b c:List Int},a.length=b.length->b.length=c.length->(lR a b<=0->lR b c<0->lR a c<0)/\(lR a b<0->lR b c<=0->lR a c<0)
 |[],[],[],_,_=>⟨fun _ h=>by omega,fun h _=>by omega⟩
 |x::a,y::b,z::c,h,h'=>by
  have ih:=Z6 (a:=a) (b:=b) (c:=c) γ γ;unfold lR;rcases n8 x y with⟨g,e⟩| ⟨g,e⟩| ⟨g,e⟩<;>rcases n8 y z with⟨g',e'⟩| ⟨g',e'⟩| ⟨g',e'⟩<;>rcases n8 x z with⟨g2,e2⟩| ⟨g2,e2⟩| ⟨g2,e2⟩<;>rw[e,e',e2]<;>first|omega|skip
  all_goals first|exact ih|omega
 |[],[],_::_,_,h=>by grind
 |[],_::_,_,h,_=>by grind
 |_::_,[],_,h,_=>by grind
 |_::_,_::_,[],_,h=>by grind
theorem SI(a:List Int):bU a a=0:=by
 simp_all[bU,if_pos,cx,SG]
theorem akf{a b:List Int}(h:a.length=b.length)(h2:bU a b=0):a=b:=by
 unfold bU at h2;rcases n8 (bj a) (bj b)with⟨g,e⟩| ⟨g,e⟩| ⟨g,e⟩<;>rw[e]at h2
 ·omega
 ·grind[Z5]
 omega
theorem Kh{a b:List Int}(h:a.length=b.length):bU b a=-bU a b:=by
 unfold bU;rcases n8 (bj a) (bj b)with⟨g,e⟩| ⟨g,e⟩| ⟨g,e⟩<;>rcases n8 (bj b) (bj a)with⟨g',e'⟩| ⟨g',e'⟩| ⟨g',e'⟩<;>rw[e,e']<;>first|omega| (simp;done)|skip
 grind[SH]
theorem Q3{a b c:List Int}(h:a.length=b.length)(h':b.length=c.length):(bU a b<=0->bU b c<0->bU a c<0)/\(bU a b<0->bU b c<=0->bU a c<0):=by
 have ih:=Z6 (a:=c) (b:=b) (c:=a) h'.symm h.symm;unfold bU;rcases n8 (bj a) (bj b)with⟨g,e⟩| ⟨g,e⟩| ⟨g,e⟩<;>rcases n8 (bj b) (bj c)with⟨g',e'⟩| ⟨g',e'⟩| ⟨g',e'⟩<;>rcases n8 (bj a) (bj c)with⟨g2,e2⟩| ⟨g2,e2⟩| ⟨g2,e2⟩<;>rw[e,e',e2]<;>first|omega|skip
 all_goals first|exact⟨fun x y=>ih.2 y x,fun x y=>ih.1 y x⟩|omega
structure VT (v:Int) (t:Rt):Prop where
 c:Ok0 t.c
 len:(t.exps.length:Int)=v
 v8:v<=8
 vc:vd t.c=true
 nz:t.c.m.length≠0
 b:∀e∈t.exps,0<=e/\e<=32
 d:bj t.exps<=32
theorem VT.sm{v:Int}{t:Rt}(h:VT v t):sm t.exps:=⟨by have:=h.len;have:=h.v8;omega,h.b⟩
theorem VT.ok{v:Int}{t:Rt}(h:VT v t):OkT t:=⟨h.c,by have:=h.len;have:=h.v8;omega⟩
theorem VT.l2{v:Int}{t q:Rt}(h:VT v t)(h2:VT v q):t.exps.length=q.exps.length:=by have:=h.len;have:=h2.len;omega
structure Cl (v:Int) (l:List Rt):Prop where
 t:∀t∈l,VT v t
 s:l.Pairwise fun a b=>bU a.exps b.exps<0
theorem Cl.nil(v:Int):Cl v []:=⟨(fun _ h=>nomatch h),List.Pairwise.nil⟩
theorem Cl.cons{v:Int}{q:Rt}{l:List Rt}(h:Cl v (q::l)):VT v q/\(∀t∈l,bU q.exps t.exps<0)/\Cl v l:=
 ⟨h.t q σ,(List.pairwise_cons.1 h.s).1,fun t ht=>h.t t γ,(List.pairwise_cons.1 h.s).2⟩
theorem Cl.mk'{v:Int}{q:Rt}{l:List Rt}(h1:VT v q)(h2:∀t∈l,bU q.exps t.exps<0)(h3:Cl v l):Cl v (q::l):=
 ⟨fun t ht=>(List.mem_cons.1 ht).elim (fun e=>e▸h1) (h3.t t),List.pairwise_cons.2 ⟨h2,h3.s⟩⟩
theorem ae5{v:Int}(hv:v<=8):∀ (l:List Rt) (pr:Option Rt),(∀t∈l,OkT t)->yK v pr l=true->Cl v l/\∀q,pr=some q->(q.exps.length:Int)=v->∀t∈l,bU q.exps t.exps<0
 |[],pr,_,_=>⟨Cl.nil v,fun _ _ _ t ht=>by grind⟩
 |t::l,pr,ok,h=>by
  unfold yK at h;simp only[ayf]at h;obtain⟨h1,h2,h3⟩:=h;obtain⟨g1,g2⟩:=ae5 hv l (some t) (fun x hx=>ok x γ) h3;obtain⟨k1,k2,k3,k4,k5⟩:=Ak h1;have vt:VT v t:=⟨(ok t σ).c,k1,hv,k2,k3,wt k4,k5⟩;have gt:=g2 t rfl k1;refine⟨Cl.mk' vt gt g1,fun q hq hl x hx=>?_⟩;subst hq;have h4:=of_decide_eq_true h2;rcases List.mem_cons.1 hx with rfl|hx
  ·omega
  ·exact(Q3 ω (vt.l2 (g1.t x hx))).1 ω (gt x hx)
theorem lE{a:Rp}(oa:OkP a)(h:vp a=true):Cl a.vars a.terms/\0<=a.vars/\a.vars<=8/\a.terms.length<=500:=by
 unfold vp at h;simp only[ayf,decide_eq_true_eq]at h;exact⟨(ae5 h.2.1 _ none oa.t h.2.2.2).1,h.1,h.2.1,h.2.2.1⟩
theorem ae6{v:Int}:∀ (l:List Rt) (pr:Option Rt),Cl v l->(∀q,pr=some q->∀t∈l,bU q.exps t.exps<0)->yK v pr l=true
 |[],pr,_,_=>by grind[yK]
 |t::l,pr,c,h=>by
  obtain⟨c1,c2,c3⟩:=c.cons;unfold yK;simp only[ayf];refine⟨?_,?_,ae6 l (some t) c3 fun q hq=>by grind⟩
  ·unfold G0;simp only[ayf,decide_eq_true_eq];refine⟨c1.len,c1.vc,c1.nz,?_,c1.d⟩;rw[azf,List.any_eq_false];intro e he;have:=c1.b e he;grind[yn]
  ·unfold WO;grind
theorem Li{v:Int}{l:List Rt}(h:Cl v l)(h0:0<=v)(h8:v<=8)(hl:l.length<=500):vp ⟨v,l⟩=true:=by
 simp_all[vp,ayf,decide_eq_true_eq,ae6]
theorem iW{v:Int}{l:List Rt}(h:Cl v l):OkP ⟨v,l⟩:=⟨fun t ht=>(h.t t ht).ok⟩
def cz:List Rt->List Int->Nat
 |[],_=>0
 |q::l,x=>if bU q.exps x<0 then cz l x+1 else 0
def wZ:List Rt->Rt->Option (List Rt)
 |[],t=>some [t]
 |q::l,t=>if bU q.exps t.exps<0 then(wZ l t).map (q::·)else if bU q.exps t.exps=0 then(if(je q.c t.c).2=0 then some (if(je q.c t.c).1.m.length=0 then l else⟨q.exps,(je q.c t.c).1⟩::l)else none)else some (t::q::l)
theorem Q4:∀ (l:List Rt) (x:List Int),cz l x<=l.length
 |[],x=>ayd _
 |q::l,x=>by
  unfold cz;split
  all_goals simp_all[Nat.succ_le_succ,Q4,ayB]
theorem Z7:∀ {l:List Rt} {x:List Int} {i:Nat} {q:Rt},i<cz l x->l[i]?=some q->bU q.exps x<0
 |[],x,i,q,h,_=>by grind
 |p::l,x,i,q,h,hq=>by
  unfold cz at h;split at h
  ·cases i with
   |zero=>grind
   |succ i=>exact Z7 (l:=l) (i:=i) ω γ
  omega
theorem Q5:∀ {l:List Rt} {x:List Int} {q:Rt},l[cz l x]?=some q->0<=bU q.exps x
 |[],x,q,h=>by grind
 |p::l,x,q,h=>by
  unfold cz at h;split at h
  ·exact Q5 (l:=l) γ
  grind
theorem akg{v:Int}{l:List Rt}{x:List Int}(c:Cl v l)(hx:(x.length:Int)=v){i:Nat}{q:Rt}(hi:cz l x<i)(h:l[i]?=some q):0<bU q.exps x:=by
 have hlt:=(List.getElem?_eq_some_iff.1 h).1;have h1:l[cz l x]?=some l[cz l x]:=List.getElem?_eq_getElem ω;have h2:=Q5 h1;have h3:=(List.getElem?_eq_some_iff.1 h).2;have h4:bU (l[cz l x]).exps q.exps<0:=by
  rw[←h3];exact List.pairwise_iff_getElem.1 c.s _ _ ω hlt hi
 have v1:=c.t _ (ayC (by omega:cz l x<l.length));have v2:=c.t q (List.mem_of_getElem? h);generalize l[cz l x]=p at*
 have l1:x.length=p.exps.length:=by have:=v1.len;omega
 have h5:=(Q3 l1 (v1.l2 v2)).1 (by grind[Kh]) h4;rw[Kh (by have:=v2.len;omega:x.length=q.exps.length)];omega
theorem Z8:∀ (l:List Rt) (t:Rt),wZ l t=match l[cz l t.exps]? with
  |none=>some (l.take (cz l t.exps)++t::l.drop (cz l t.exps))
  |some q=>if bU q.exps t.exps=0 then(if(je q.c t.c).2=0 then some (if(je q.c t.c).1.m.length=0 then l.take (cz l t.exps)++l.drop (cz l t.exps+1)else l.set (cz l t.exps) ⟨q.exps,(je q.c t.c).1⟩)else none)else some (l.take (cz l t.exps)++t::l.drop (cz l t.exps))
 |[],t=>rfl
 |q::l,t=>by
  unfold wZ cz;by_cases h:bU q.exps t.exps<0
  ·simp only[if_pos h,List.getElem?_cons_succ];rw[Z8 l t];cases l[cz l t.exps]? with
   |none=>rfl
   |some p=>
    simp only[];split
    ·split
     ·split<;>rfl
     ·rfl
    ·rfl
  grind
theorem Q6{v:Int}:∀ {l l':List Rt} {t:Rt},Cl v l->VT v t->wZ l t=some l'->Cl v l'/\∀q:List Int,(q.length:Int)=v->(∀x∈l,bU q x.exps<0)->bU q t.exps<0->∀x∈l',bU q x.exps<0
 |[],l',t,c,vt,h=>by
  cases h;grind[Cl.mk']
 |p::l,l',t,c,vt,h=>by
  obtain⟨c1,c2,c3⟩:=c.cons;unfold wZ at h;split at h
  ·rename_i h1;rw[aye]at h;obtain⟨l2,h2,rfl⟩:=h;obtain⟨g1,g2⟩:=Q6 c3 vt h2;refine⟨Cl.mk' c1 (g2 p.exps c1.len c2 h1) g1,fun q hq k1 k2 x hx=>?_⟩;grind
  ·split at h
   ·split at h
    ·cases h;split
     ·grind
     ·rename_i h4;obtain⟨a1,a2⟩:=aj8 p.c t.c;refine⟨Cl.mk' ⟨a2,c1.len,c1.v8,a1,h4,c1.b,c1.d⟩ c2 c3,fun q hq k1 k2 x hx=>?_⟩;grind
    grind
   ·cases h;have h3:bU t.exps p.exps<0:=by
     rw[Kh (c1.l2 vt)];omega
    refine⟨Cl.mk' vt (fun x hx=>?_) c,fun q hq k1 k2 x hx=>?_⟩
    ·rcases List.mem_cons.1 hx with rfl|hx
     ·omega
     ·exact(Q3 (vt.l2 c1) (c1.l2 (c3.t x hx))).1 ω (c2 x hx)
    grind
theorem NL:∀ {l l':List Rt} {t:Rt},wZ l t=some l'->l'.length<=l.length+1
 |[],l',t,h=>by cases h;simp
 |p::l,l',t,h=>by
  unfold wZ at h;split at h
  ·rw[aye]at h;obtain⟨l2,h2,rfl⟩:=h;simpa using NL h2
  grind
theorem WZ:∀ {l:List Rt} {t:Rt},(∀q∈l,bU q.exps t.exps<0)->wZ l t=some (l++[t])
 |[],t,_=>rfl
 |p::l,t,h=>by
  unfold wZ;rw[if_pos (h p σ),WZ fun q hq=>h q (by simp[hq])];rfl
def oE:List Rt->List Rt->Option (List Rt)
 |l,[]=>some l
 |l,t::ts=>(wZ l t).bind fun l'=>oE l' ts
theorem W0:∀ (ts us:List Rt) (l:List Rt),oE l (ts++us)=(oE l ts).bind fun l'=>oE l' us
 |[],us,l=>rfl
 |t::ts,us,l=>by
  show(wZ l t).bind _=((wZ l t).bind _).bind _;cases wZ l t with
  |none=>rfl
  |some l'=>exact W0 ts us l'
theorem Lj{v:Int}:∀ {ts l l':List Rt},Cl v l->(∀t∈ts,VT v t)->oE l ts=some l'->Cl v l'/\l'.length<=l.length+ts.length
 |[],l,l',c,_,h=>by cases h;grind
 |t::ts,l,l',c,vt,h=>by
  unfold oE at h;rw[ayb]at h;obtain⟨l2,h2,h3⟩:=h;obtain⟨g1,g2⟩:=Lj (Q6 c (vt t σ) h2).1 (fun x hx=>vt x γ) h3;have:=NL h2;grind
theorem ap4{v:Int}:∀ {ts l:List Rt},Cl v (l++ts)->oE l ts=some (l++ts)
 |[],l,_=>by simp[oE]
 |t::ts,l,c=>by
  have h1:wZ l t=some (l++[t]):=WZ fun q hq=>by
   have:=List.pairwise_append.1 c.s;grind
  unfold oE;rw[h1];show oE (l++[t]) ts=_;rw[ap4 (v:=v) γ,ayX];rfl
section
variable {call:iG} {md:Mode} {s:ak} {h:ac}
@[go_sem] theorem avL(d k x y rest):aG call md (⟨some d,none,.cpy k x y⟩::rest) s h=bq (dA md.nm s (some d) (PW h k (ev s x) (ev s y))) (aG call md rest):=θ _
@[go_sem] theorem ato(d k x lo hi rest):aG call md (⟨some d,none,.slcM k x lo hi⟩::rest) s h=bq (dA md.nm s (some d) (KR h k (ev s x) (evo s lo) (evo s hi))) (aG call md rest):=θ _
@[go_sem] theorem avM(d k z x rest):aG call md (⟨d,none,.clr k z x⟩::rest) s h=bq (dA md.nm s d (PX h k z (ev s x))) (aG call md rest):=θ _
@[go_sem] theorem atp(d k b z x n rest):aG call md (⟨some d,none,.appz k b z x n⟩::rest) s h=bq (dA md.nm s (some d) (E3 h d k b z (ev s x) (ev s n))) (aG call md rest):=θ _
@[go_sem] theorem atq(d x rest):aG call md (⟨some d,none,.take x⟩::rest) s h=bq (dA md.nm s (some d) (N2 h d (ev s x))) (aG call md rest):=θ _
@[go_sem] theorem arv(d f zas rest):aG call md (⟨some d,none,.callC f zas⟩::rest) s h=bq (dA md.nm s (some d) ((bF call md h d (zas.map (ev s)) (ev s f)).bind (y6 d))) (aG call md rest):=θ _
@[go_sem] theorem apz(d k z n ps rest):aG call md (⟨some d,none,.buildC k z n ps⟩::rest) s h=bq (dA md.nm s (some d) (((eO k h (aya n z) (ps.map fun p=>(p.1,ev s p.2))).bind fun q=>cW q.2.1 d k q.1 n q.2.2).bind E5)) (aG call md rest):=θ _
@[go_sem] theorem aot(d k z n ps):step call md d (.buildC k z n ps) s h=((eO k h (aya n z) (ps.map fun p=>(p.1,ev s p.2))).bind fun q=>cW q.2.1 d k q.1 n q.2.2).bind E5:=θ _
@[go_sem] theorem aou(ps acc d k z n qs rest):cY call md ps acc (⟨some d,none,.buildC k z n qs⟩::rest) s h=i9 call md ps acc rest s (some d) (fun _=>if(qs.all fun p=>dat (ev s p.2))=true then some ([],[dD d])else none) (((eO k h (aya n z) (qs.map fun p=>(p.1,ev s p.2))).bind fun q=>cW q.2.1 d k q.1 n q.2.2).bind E5):=eH _ _ _ _ rfl
@[go_sem] theorem arw(d k z n qs h'):gB d (.buildC k z n qs) s h h'=if(qs.all fun p=>dat (ev s p.2))=true then some ([],[dD d])else none:=θ _
@[go_sem] theorem arx(id k lo n h ks):E5 (.rsl id none k lo n,h,ks)=(mZ h id k lo n (h id)).map (fun q=>(q.1,q.2.1,ks++q.2.2)):=θ _
@[go_sem] theorem atr(ps acc d k x y rest):cY call md ps acc (⟨some d,none,.cpy k x y⟩::rest) s h=i9 call md ps acc rest s (some d) (fun _=>none) (PW h k (ev s x) (ev s y)):=eH _ _ _ _ rfl
@[go_sem] theorem ats(ps acc d k b x y rest):cY call md ps acc (⟨some d,none,.app k b x y⟩::rest) s h=i9 call md ps acc rest s (some d) (fun _=>none) (MR h d k b (ev s x) (ev s y)):=eH _ _ _ _ rfl
@[go_sem] theorem apA(ps acc d f zas rest):cY call md ps acc (⟨some d,none,.callC f zas⟩::rest) s h=i9 call md ps acc rest s (some d) (fun _=>Jb d h (oV (zas.map (ev s)) (ev s f))) ((bF call md h d (zas.map (ev s)) (ev s f)).bind (y6 d)):=eH _ _ _ _ rfl
@[go_sem] theorem ary(d h l):Jb d h l=if l.all dat=true then some ([],[2000+8*d])else none:=θ _
@[go_sem] theorem avN(d k r h ks):y6 d (.sl k r,h,ks)=some (.sl k r,h,ks):=θ _
@[go_sem] theorem att(d h ks):y6 d (.emp,h,ks)=some (.emp,h,ks):=θ _
@[go_sem] theorem atu(d id k lo n h ks):y6 d (.rsl id none k lo n,h,ks)=if id=2000+8*d then(mZ h id k lo n (h id)).map (fun q=>(q.1,q.2.1,ks++q.2.2))else none:=θ _
@[go_sem] theorem avO(h k id k' lo n y):PW h k (.rsl id none k' lo n) y=(UH y).bind fun l=>(vD h k (UG n y)).bind fun ys=>UI h id k k' lo n l ys (h id):=θ _
@[go_sem] theorem avP(k r):UH (.sl k r)=some r.length:=θ _
@[go_sem] theorem atv(id sub k lo n):UH (.rsl id sub k lo n)=some n:=θ _
@[go_sem] theorem avQ(m k r):UG m (.sl k r)=.sl k (r.take m):=θ _
@[go_sem] theorem atw(m id sub k lo n):UG m (.rsl id sub k lo n)=.rsl id sub k lo (min m n):=θ _
@[go_sem] theorem avR(h id k lo n l ys r):UI h id k k lo n l ys (.ar k r)=if lo<=r.length/\ys.length=min l n then some (.v (.int .i64 ys.length),upd h id (.ar k (r.take lo++ys++r.drop (lo+ys.length))),[])else none:=by simp[UI]
@[go_sem] theorem atx(h k id l0 n lo hi):KR h k (.rsl id none k l0 n) lo hi=N0 h k id l0 lo hi (h id):=by simp[KR]
@[go_sem] theorem aty(h k id l0 lo hi r):N0 h k id l0 lo hi (.ar k r)=if hi.isSome=true/\l0<=r.length then(j8 (r.length-l0) lo hi none).map fun p=>(.rsl id none k (l0+p.1) (p.2-p.1),h,[])else none:=by simp[N0]
@[go_sem] theorem avS(h k z id lo n):PX h k z (.rsl id none k lo n)=UJ h k id lo n z (h id):=by simp[PX]
@[go_sem] theorem avT(h k id lo n z r):UJ h k id lo n z (.ar k r)=if lo+n<=r.length then some (.tup [],upd h id (.ar k (r.take lo++aya n z++r.drop (lo+n))),[])else none:=by simp[UJ]
@[go_sem] theorem atz(h d k b z id i c m):E3 h d k b z (.rsc id k 0 i c) (.v (.int .i64 m))=if 0<m/\c<i+m.toNat then N1 h d k b id i m.toNat z (h id)else none:=by simp[E3]
@[go_sem] theorem atA(h d k b id i m z r):N1 h d k b id i m z (.ar k r)=if i<=r.length/\(i+m)*b<=140737488355328 then cW h d k (r.take i++aya m z) (i+m) []else none:=by simp[N1]
@[go_sem] theorem avU(id k lo n c):qB false (.rsc id k lo n c)=some (I n):=θ _
@[go_sem] theorem avV(id k lo n c):PS (.rsc id k lo n c)=some (I c):=θ _
@[go_sem] theorem avW(k id l0 n c lo hi mx):eA k (.rsc id k l0 n c) lo hi mx=UB k id l0 n c lo hi mx:=by simp[eA]
@[go_sem] theorem avX(k id l0 n c x):UB k id l0 n c none (some x) none=(jW n c (some x)).map fun r=>.rsc id k l0 r c:=θ _
@[go_sem] theorem avY(k id l0 n c x hi):UB k id l0 n c (some x) hi none=(j8 n (some x) hi none).map fun p=>.rsl id none k (l0+p.1) (p.2-p.1):=θ _
@[go_sem] theorem avZ(ks id k lo n c):tN ks (.rsc id k lo n c)=if ji ks id none=true then .any else .rsc id k lo n c:=θ _
@[go_sem] theorem atB(h d id k i j):N2 h d (.ref id none k i j)=Ue h d id (i*k+j) (h id):=θ _
@[go_sem] theorem atC(h d id p cs):Ue h d id p (.bx cs)=KS h d id p cs cs[p]?:=θ _
@[go_sem] theorem arz(h d id p cs k r):KS h d id p cs (some (.osl k r))=cW (upd h id (.bx (cs.set p .any))) d k r r.length [(id,true)]:=θ _
@[go_sem] theorem arA(h d id p cs):KS h d id p cs (some .emp)=some (.emp,h,[]):=θ _
@[go_sem] theorem atD(nm)(s h):Az nm [] s h=some ⟨s,h⟩:=θ _
@[go_sem] theorem arB(nm)(i l s h):Az nm (i::l) s h=if 200000<=i then(P0 (i-200000) s h (s (i-200000))).bind (fun r=>if rC nm r.2.2 then Az nm l r.1 r.2.1 else none)else if 100000<=i then Az nm l s (Hj h (s (i-100000)))else(PZ i s h (s i)).bind fun r=>if rC nm r.2.2 then Az nm l r.1 r.2.1 else none:=θ _
@[go_sem] theorem apB(ks):rC false ks=true:=θ _
@[go_sem] theorem av0(i s h id k lo n):P0 i s h (.rsl id none k lo n)=Jc i s h id k lo n (h id):=θ _
@[go_sem] theorem av1(i s h id k lo n c):P0 i s h (.rsc id k lo n c)=Jc i s h id k lo n (h id):=θ _
@[go_sem] theorem av2(i s h id k lo n r):Jc i s h id k lo n (.ar k r)=if lo=0/\bh i=false/\bY (h i)=true then some (upd (ke [(id,false)] s) i (.rsl i none k 0 n),upd (upd h id .dead) i (.ar k r),[(id,false)])else none:=by simp[Jc]
@[go_sem] theorem atE(h id k lo n):Hj h (.rsl id none k lo n)=(match h id with| .ar k rows=>upd h id (.ar k (rows.take (lo+n)))|_=>h):=θ _
@[go_sem] theorem av3(nm)(s h):tO nm 0 s h=some ⟨s,h⟩:=θ _
@[go_sem] theorem av4(nm)(i s h):tO nm (i+1) s h=(RP i s h (s i)).bind fun r=>if rC nm r.2.2 then some ⟨r.1,r.2.1⟩else none:=θ _
@[go_sem] theorem av5(i s h):RP i s h .emp=some (s,h,[]):=θ _
@[go_sem] theorem av6(i s h id p k lo n):RP i s h (.rsl id (some p) k lo n)=if bh i=false then Zd i s h id p k lo n (h id)else none:=θ _
@[go_sem] theorem axC(i s h id p k lo n cs):Zd i s h id p k lo n (.bx cs)=N7 i s h id p k lo n cs cs[p]?:=θ _
@[go_sem] theorem av7(i s h id p k lo n cs r):N7 i s h id p k lo n cs (some (.osl k r))=if lo=0/\n=r.length/\bY (h i)=true then some (upd (ke [(id,true)] s) i (.rsl i none k 0 n),upd (upd h id (.bx (cs.set p .any))) i (.ar k r),[(id,true)])else none:=by simp[N7]
@[go_sem] theorem av8(m g ps l):ag4 call md m g ps l s h=bq (cY call md ps [] (l.take m) s h) fun s h=>bq (tO md.nm g s h) (aG call md (l.drop m)):=θ _
end
theorem Z9{t:Rt}{x:List Int}(ht:sm t.exps)(hx:sm x)(hl:t.exps.length=x.length):R fct [.agg (bL t),.sl 1 (aO x)] []=some (I (bU t.exps x),[]):=by
 refine au Gg rfl ?_;have ho:=WN ht hx hl;simp only[oB,xi,bL,go_sem,ho]
theorem akh{v:Int}{l:List Rt}{x:List Int}(c:Cl v l)(hx:sm x)(hl:(x.length:Int)=v)(h2:l.length<=1000000):∀ (k i j:Nat),j-i<=k->i<=cz l x->cz l x<=j->j<=l.length->∀ (s:ak) (h:ac),s 0=.sl 4 (aJ l)->s 1=.sl 1 (aO x)->s 2=.fn fct [] []->s 8=I l.length->s 9=I i->s 10=I j->
  ai 0 [0,1,2,8,9] (ax (aj R (az false) bK) [0,1,2,8,9,10] [] s h)=some (.normal,⟨upd (upd (upd (upd (upd (fun _=>.any) 9 (I (cz l x))) 8 (I l.length)) 2 (.fn fct [] [])) 1 (.sl 1 (aO x))) 0 (.sl 4 (aJ l)),fun _=>.dead⟩):=by
 intro k;induction k with
 |zero=>
  intro i j hk hi hj hn s h h0 h1 h2' h8 h9 h10;have e1:((i:Int)< (j:Int))=False:=ff;obtain rfl:i=cz l x:=ω
  rw[ag];simp only[bK,go_sem,h0,h1,h2',h8,h9,h10,e1]
 |succ k ih=>
  intro i j hk hi hj hn s h h0 h1 h2' h8 h9 h10;by_cases hij:i<j
  ·have e1:((i:Int)< (j:Int))=True:=tt;have e2:IntKind.i64.wrap ((i:Int)+(j:Int))=((i+j:Nat):Int):=wi;have hlt:(i+j)/2<l.length:=ω
   have g1:IntKind.u64.wrap (((i+j:Nat)):Int)=((i+j:Nat):Int):=dK rfl ω;have g2:((1:Int)<0)=False:=ff δ;have g3:Int.fdiv ((i+j:Nat):Int) (2^ (min (Int.toNat 1) 64))=(((i+j)/2:Nat):Int):=by
    grind
   have g4:IntKind.i64.wrap (((i+j)/2:Nat):Int)=(((i+j)/2:Nat):Int):=wi;have e3:aX (aJ l) (((i+j)/2:Nat):Int)=some (.ipt (bL l[(i+j)/2])):=fY rfl (List.getElem?_eq_getElem hlt);have q:=c.t _ (ayC hlt);have hc:=Z9 q.sm hx (by have:=q.len;omega);have p1:bU (l[(i+j)/2]).exps x<0->(i+j)/2<cz l x:=fun ho=>by
    rcases Nat.lt_trichotomy ((i+j)/2) (cz l x)with h|h|h
    ·omega
    ·have:=Q5 (l:=l) (x:=x) (q:=l[(i+j)/2]) γ;omega
    ·have:=akg c hl h (List.getElem?_eq_getElem hlt);omega
   have p2:¬bU (l[(i+j)/2]).exps x<0->cz l x<=(i+j)/2:=fun ho=>by
    grind[absurd,Z7]
   have i1:=ih ((i+j)/2+1) j ω;have i2:=ih i ((i+j)/2) ω hi;generalize l[(i+j)/2]=t at e3 q hc p1 p2;rw[ag];generalize ax _ _ _=L at i1 i2⊢;simp only[bL]at hc e3;by_cases ho:bU t.exps x<0
   ·have e4:(bU t.exps x<0)=True:=tt ho;have e5:IntKind.i64.wrap ((((i+j)/2:Nat):Int)+1)=(((i+j)/2+1:Nat):Int):=wi;have:=p1 ho;simp only[bK,go_sem,h0,h1,h2',h8,h9,h10,e1,e2,g1,g2,g3,g4,e3,hc,e4,e5];exact i1 ω hj hn _ _ rfl rfl rfl rfl rfl rfl
   ·have e4:(bU t.exps x<0)=False:=ff ho;have:=p2 ho;simp only[bK,go_sem,h0,h1,h2',h8,h9,h10,e1,e2,g1,g2,g3,g4,e3,hc,e4];exact i2 this ω _ _ rfl rfl rfl rfl rfl rfl
  grind
def Ki(l:List Rt)(x:List Int):Bool:=match l[cz l x]? with
 |some q=>decide (bU q.exps x=0)
 |none=>false
theorem acX{v:Int}{l:List Rt}{x:List Int}(c:Cl v l)(hx:sm x)(hl:(x.length:Int)=v)(h2:l.length<=1000000):R fdD [.sl 4 (aJ l),.sl 1 (aO x),.fn fct [] []] []=some (.tup [I (cz l x),B (Ki l x)],[]):=by
 refine QH mX mW (fA false) rfl ?_;have h3:=akh c hx hl h2 l.length 0 l.length ω (ayB _) (Q4 l x) (ayd _);simp only[dw,fW,go_sem];rw[h3 _ _ rfl rfl rfl rfl rfl rfl];unfold Ki;cases hq:l[cz l x]? with
 |none=>
  have:l.length<=cz l x:=List.getElem?_eq_none_iff.1 hq;have e1:((cz l x:Int)< (l.length:Int))=False:=ff;simp only[go_sem,e1]
 |some q=>
  have hlt:=(List.getElem?_eq_some_iff.1 hq).1;have e1:((cz l x:Int)< (l.length:Int))=True:=tt;have vq:=c.t q (List.mem_of_getElem? hq);have hc:=Z9 vq.sm hx (by have:=vq.len;omega);have e3:aX (aJ l) (cz l x:Int)=some (.ipt (bL q)):=fY rfl hq;simp only[bL]at hc e3;by_cases ho:bU q.exps x=0
  ·have e4:(bU q.exps x=0)=True:=tt ho;simp only[go_sem,e1,e3,hc,e4,decide_true]
  ·have e4:(bU q.exps x=0)=False:=ff ho;simp only[go_sem,e1,e3,hc,e4,decide_false]
theorem SJ{d:Rd}(hn:d.m.length≠0)(h1:d.m.length<=100000):R fcv [ae d] []=some (ae d,[]):=by
 refine au TS rfl ?_;have hc:=HZ (m:=d.m) (fun h=>hn γ) h1;simp only[AP,IM,ae,ah,go_sem,hc]
theorem aaa{h:ac}{d id p n:Nat}{cs:List AV}{rows:List (List AV)}{x:AV}(hh:h id=.bx cs)(hp:cs[p]?=some (.osl 4 rows))(hn:n=rows.length)(hx:∃r,x=.sl 1 r):
  bF R (az false) h d [.rsl id (some p) 4 0 n,x,.fn fct [] []] (.fn fdD [] [])=(R fdD (bp [[.o 5 [.o 2 [],.o 0 [],.o 2 [],.o 0 []]],[.o 2 []],[]] [.sl 4 rows,x,.fn fct [] []]) []).bind (UK h):=by
 obtain⟨r,rfl⟩:=hx;unfold bF
 simp_all[if_pos,kh,fX,N3,N4,PY,aa3,yY,kf,xQ,iP,ayq,ayp,fN]
theorem W7(o:Ob):aq [o]=upd (fun _=>.dead) 1000 o:=by
 unfold aq upd;grind
theorem wu{f:FuncId}{fd:FD}{args:List AV}{o:Ob}{r:AV×List Ob}(hE:cK.E f=none)(hC:cK.C f=some fd)(hk:cK.md.keep f=false)(h1:args.length=fd.np)
  (hz:ip false fd.rs fd.res 1 (aj R (az false) fd.body (uw args) (upd (fun _=>.dead) 1000 o))=some r):R f args [o]=some r:=by
 grind[OS,W7]
theorem Up{f:FuncId}{g:List AV->List Ob->Option (AV×List Ob)}{args:List AV}{hs:List Ob}(hE:cK.E f=some g):R f args hs=g args hs:=MX hE
theorem SK:R fdF [.sl 1 []] []=some (.sl 1 [],[]):=by
 rw[Up (g:=clF) κ];rfl
theorem SL{x:Int}{l:List Int}(h:l.length<=1000000):R fdF [.sl 1 (aO (x::l))] []=some (.osl 1 (aO (x::l)),[]):=by
 rw[Up (g:=clF) κ];show(if(((aO l).length+1)*8<=140737488355328)then _ else _)=_;rw[if_pos (by grind[Dw])];rfl
def pJ(c:AV)(l:List Rt):Prop:=c=.osl 4 (aJ l)\/(c=.emp/\l=[])
def t3(v:Int)(c:AV)(e:Int):Ob:=.bx [I v,c,I e]
theorem G3{h:ac}{v e:Int}{c:AV}{l:List Rt}(hc:pJ c l)(hh:h 1000=t3 v c e):wE [] 1 h []=some (.tup [],[t3 v c e]):=by
 have hp:de 1=[1000]:=rfl;have h2:aD [1000] (t3 v c e)=true:=by
  rcases hc with rfl| ⟨rfl,_⟩<;>rfl
 grind[wE,kR,vE,xC,bp]
theorem W8{v e:Int}{c x:AV}{d:Rd}{l:List Rt}(hc:pJ c l)(he:e≠0):R fcs [.ref 1000 none 0 0 0,x,ae d] [t3 v c e]=some (.tup [],[t3 v c e]):=by
 refine wu aS.2.1 aS.2.2 (aS.1.2.2.2 false) rfl ?_;have e1:(e=0)=False:=ff he;simp only[fV,jo,t3,ae,ah,go_sem,e1];exact G3 hc rfl
theorem Ll(h:ac)(i:Int)(b:Bool):UK h (.tup [I i,B b],[])=some (.tup [I i,B b],h,[]):=rfl
theorem Dk{h:ac}{id p id2 k n:Nat}{rows:List (List AV)}{cs:List AV}(h1:h id2=.ar k rows)(hn:n=rows.length)(h2:h id=.bx cs)(hne:id≠id2)(hp:p<cs.length):
  sq h id p 1 [.rsl id2 none k 0 n]=some (upd (upd h id2 .dead) id (.bx (cs.set p (.osl k rows))),(id2,false)::(if cs[p]?.any bt then [(id,true)]else [])):=by
 simp_all[upd,if_neg,sq,Iu,RN,MO,C1]
theorem amJ{l:List Rt}{t:Rt}{n i:Nat}(hn:n=l.length)(hi:i<=n)(h2:n<=1000000):R fdW [.rsl 1000 none 4 0 n,I i,.sl 4 [bL t]] [.ar 4 (aJ l)]=some (.osl 4 (aJ (l.take i++t::l.drop i)),[.dead]):=by
 rw[Up (g:=VJ 4 64) κ];show(if(4:Nat)=4/\(4:Nat)=4/\(4:Nat)=4/\n=(aJ l).length/\(0:Int)<=(i:Int)/\(i:Int)<=(n:Int)/\(n+1)*64<=140737488355328 then some (AV.osl 4 ((aJ l).take (i:Int).toNat++bL t::(aJ l).drop (i:Int).toNat),[Ob.dead])else none)=_;rw[if_pos ⟨rfl,rfl,rfl,by rw[tE,hn],by omega,by omega,by omega⟩,ayk];simp[aJ,List.map_take,List.map_drop]
theorem aki{t:Rt}:R fdW [.emp,I 0,.sl 4 [bL t]] []=some (.osl 4 (aJ [t]),[]):=by
 rw[Up (g:=VJ 4 64) κ];rfl
theorem ae7(t:Rt):nrmV [.o 5 [.o 2 [],.o 0 [],.o 2 [],.o 0 []]] (.sl 4 [bL t])=.sl 4 [bL t]:=by
 have:=GZ [t];simp only[aJ,ays,ayu]at this;simp only[nrmV,List.headD_cons,nrmL,ays,ayu,this]
theorem ahN{l:List Rt}{t:Rt}{h:ac}{d a b n i:Nat}(ha:h a=.ar 4 (aJ l))(hb:h b=.ar 4 [bL t])(hab:a≠b)(_hda:2000+8*d≠a)(hdb:2000+8*d≠b)(hd:h (2000+8*d)=.dead)(hn:n=l.length)(hi:i<=n)(h2:n<=1000000):
  bF R (az false) h d [.rsl a none 4 0 n,.v (.int .i64 i),.rsl b none 4 0 1] (.fn fdW [] [])=
   some (.rsl (2000+8*d) none 4 0 (l.length+1),upd (upd (upd h b (.fz 4 [bL t])) a .dead) (2000+8*d) (.ar 4 (aJ (l.take i++t::l.drop i))),[(a,true),(a,false)]):=by
 have hm:=l9 false;have hs:=lB false;have hk:=kF false;have hf:=amJ (t:=t) hn hi h2;have hb':kh (az false) [.rsl a none 4 0 n,.v (.int .i64 i),.rsl b none 4 0 1] (.fn fdW [] [])=false:=by
  grind[kh]
 have h1:bS h [2,0,0] [.rsl a none 4 0 n,.v (.int .i64 i),.rsl b none 4 0 1]=some ([.rsl a none 4 0 n,.v (.int .i64 i),.sl 4 [bL t]],upd h b (.fz 4 [bL t]),[]):=by
  simp_all[bS,dC,wx,fP,aE,agE,mZ,pO]
 have g1:upd h b (.fz 4 [bL t]) a=.ar 4 (aJ l):=by
  simp_all[upd,if_neg]
 have g2:upd h b (.fz 4 [bL t]) (2000+8*d)=.dead:=by
  simp_all[upd,if_neg]
 have hr:ce (upd h b (.fz 4 [bL t])) 40 [a] 0=[a]:=by
  grind[ce,oA,bH]
 have hp:bH [] ([AV.rsl a none 4 0 n,.v (.int .i64 i),.sl 4 [bL t]].flatMap cf)=[a]:=by
  simp[cf,fI,bH]
 have h3:bm [a] a=1000:=by simp[bm]
 have hnr:cF (.osl 4 (aJ (l.take i++t::l.drop i)))=1:=rfl;have hlen:(aJ (l.take i++t::l.drop i)).length=l.length+1:=by
  grind[tE,ay5,ayo,ayL,azd]
 have hnm:bp [[],[],[.o 5 [.o 2 [],.o 0 [],.o 2 [],.o 0 []]]] [.rsl a none 4 0 n,.v (.int .i64 i),.sl 4 [bL t]]=[.rsl a none 4 0 n,.v (.int .i64 i),.sl 4 [bL t]]:=by
  simp only[bp,ae7];rfl
 unfold bF;simp only[dW,hm,ayq,ayp,h1,ayi,hp,hr,hs,hnm];simp[jV,bg,bo,g1,aD,bY,dV,kg,h3,dS,hf,eP,hnr,cA,g2,dh,bf,oT,Cp,rB,fI,jj,fy,E4,eE,mat,dL,gb,hk,FT,hm,hlen]
 simp_all[dF,if_neg,Gt]
theorem ahO{h:ac}{d:Nat}{r:List (List AV)}{i:Int}{b:Bool}(hR:R fdD [.sl 4 [],nrmV [.o 2 []] (.sl 1 r),.fn fct [] []] []=some (.tup [I i,B b],[]))(h0:h (2000+8*d)=.dead)(h1:h (2000+8*d+1)=.dead):
  bF R (az false) h d [.emp,.sl 1 r,.fn fct [] []] (.fn fdD [] [])=some (.tup [I i,B b],h,[]):=by
 have hm:=fX false;have hs:=fN false;have hk:=fA false;have hb':kh (az false) [.emp,.sl 1 r,.fn fct [] []] (.fn fdD [] [])=false:=by
  grind[kh,N3]
 have h3:bS h [3,0,0] [.emp,.sl 1 r,.fn fct [] []]=some ([.emp,.sl 1 r,.fn fct [] []],h,[]):=by
  simp[bS,dC,wx,fP,aE]
 have hp:bH [] ([AV.emp,.sl 1 r,.fn fct [] []].flatMap cf)=[]:=by
  simp[cf,fI,bH]
 have hnm:bp [[.o 5 [.o 2 [],.o 0 [],.o 2 [],.o 0 []]],[.o 2 []],[]] [.emp,.sl 1 r,.fn fct [] []]=[.sl 4 [],nrmV [.o 2 []] (.sl 1 r),.fn fct [] []]:=by
  rfl
 obtain⟨q,hq⟩:∃q,nrmV [.o 2 []] (.sl 1 r)=.sl 1 q:=⟨_,rfl⟩;rw[hq]at hR hnm;have hr:∀n,ce h n [] 0=[]:=fun n=>by cases n<;>rfl
 unfold bF;rw[if_neg γ];simp only[dW,hm,ayq,ayp,h3,ayi,hp,hr,hs,hnm];simp[jV,bg,bo,dV,kg,hR,eP,cF,cA,h0,h1,bY,dh,oT,Cp,rB,jj,fy,E4,eE,mat,cM,dL,gb,hk,FT,hm]
theorem ae8{t:Rt}{h:ac}{d b:Nat}(hb:h b=.ar 4 [bL t])(hdb:2000+8*d≠b)(hd:h (2000+8*d)=.dead):
  bF R (az false) h d [.emp,.v (.int .i64 0),.rsl b none 4 0 1] (.fn fdW [] [])=some (.rsl (2000+8*d) none 4 0 1,upd (upd h b (.fz 4 [bL t])) (2000+8*d) (.ar 4 (aJ [t])),[]):=by
 have hm:=l9 false;have hs:=lB false;have hk:=kF false;have hf:=aki (t:=t);have hb':kh (az false) [.emp,.v (.int .i64 0),.rsl b none 4 0 1] (.fn fdW [] [])=false:=by
  grind[kh]
 have h1:bS h [2,0,0] [.emp,.v (.int .i64 0),.rsl b none 4 0 1]=some ([.emp,.v (.int .i64 0),.sl 4 [bL t]],upd h b (.fz 4 [bL t]),[]):=by
  simp[bS,dC,wx,fP,aE,hb,mZ,pO]
 have g2:upd h b (.fz 4 [bL t]) (2000+8*d)=.dead:=by
  simp_all[upd,if_neg]
 have hp:bH [] ([AV.emp,.v (.int .i64 0),.sl 4 [bL t]].flatMap cf)=[]:=by
  simp[cf,fI,bH]
 have hnr:cF (.osl 4 (aJ [t]))=1:=rfl;have hnm:bp [[],[],[.o 5 [.o 2 [],.o 0 [],.o 2 [],.o 0 []]]] [.emp,.v (.int .i64 0),.sl 4 [bL t]]=[.emp,.v (.int .i64 0),.sl 4 [bL t]]:=by
  simp only[bp,ae7];rfl
 have hr:∀ (h:ac) n,ce h n [] 0=[]:=fun h n=>by cases n<;>rfl
 have hlen:(aJ [t]).length=1:=rfl;unfold bF;simp only[dW,hm,ayq,ayp,h1,ayi,hp,hr,hs,hnm];simp[jV,bg,bo,dV,kg,hf,eP,hnr,cA,g2,bY,dh,oT,Cp,rB,fI,jj,fy,E4,eE,mat,dL,gb,hk,FT,hm,hlen]
 simp_all[dF,if_neg]
def ClE(x:List Int):Prop:=R fdF [.sl 1 (aO x)] []=some (.osl 1 (aO x),[])\/R fdF [.sl 1 (aO x)] []=some (.sl 1 (aO x),[])
theorem ae9:∀ {x:List Int},x.length<=100000->ClE x
 |[],_=>.inr SK
 |x::l,h=>.inl (SL γ)
theorem W9{v v':Int}{l:List Rt}{t:Rt}(c:Cl v l)(vt:VT v t)(hl:l.length<=1000000)(hf:Ki l t.exps=false):
  R fcs [.ref 1000 none 0 0 0,.sl 1 (aO t.exps),ae t.c] [t3 v' (.osl 4 (aJ l)) 0]=some (.tup [],[t3 v' (.osl 4 (aJ (l.take (cz l t.exps)++t::l.drop (cz l t.exps)))) 0]):=by
 refine wu aS.2.1 aS.2.2 (aS.1.2.2.2 false) rfl ?_;have hbs:=acX c vt.sm vt.len hl;rw[hf]at hbs;have hcp:=SJ vt.nz (ayj (Aj vt.vc vt.c.lb) δ);simp only[ae,ah]at hcp;have k1:(aO t.exps).take t.exps.length=aO t.exps:=ayt (by simp_all[Dw,ayd]);have hlen:(l.take (cz l t.exps)++t::l.drop (cz l t.exps)).length=l.length+1:=by
  grind
 have hp:=Q4 l t.exps;simp only[fV,jo,t3,ae,ah,go_sem];rw[aaa rfl rfl (tE l).symm ⟨_,rfl⟩];rcases ae9 vt.ok.len with hcv|hcv
 all_goals
  simp only[go_sem,hbs,Ll,hcv,hcp,ayc,ayd,k1];rw[ahN rfl rfl δ δ δ rfl rfl hp hl];generalize l.take (cz l t.exps)++t::l.drop (cz l t.exps)=L at hlen⊢;simp only[go_sem];rw[if_pos (by rfl),Dk rfl (by rw[tE,hlen]) rfl δ (ay8 δ (ayd 3))];simp only[go_sem];exact G3 (.inl rfl) rfl
theorem NM{v':Int}{v:Int}{t:Rt}(vt:VT v t):
  R fcs [.ref 1000 none 0 0 0,.sl 1 (aO t.exps),ae t.c] [t3 v' .emp 0]=some (.tup [],[t3 v' (.osl 4 (aJ [t])) 0]):=by
 refine wu aS.2.1 aS.2.2 (aS.1.2.2.2 false) rfl ?_;have hbs:=acX (l:=[]) (Cl.nil v) vt.sm vt.len (ayB _);rw[show cz [] t.exps=0 from rfl,show Ki [] t.exps=false from rfl,ayO]at hbs;have hcp:=SJ vt.nz (ayj (Aj vt.vc vt.c.lb) δ);simp only[ae,ah]at hcp;have k1:(aO t.exps).take t.exps.length=aO t.exps:=ayt (by simp_all[Dw,ayd]);have k2:nrmV [.o 2 []] (.sl 1 (aO t.exps))=.sl 1 (aO t.exps):=by
  simp only[go_sem]
 simp only[fV,jo,t3,ae,ah,go_sem];rw[ahO (by rw[k2];exact hbs) rfl rfl];rcases ae9 vt.ok.len with hcv|hcv
 all_goals
  simp only[go_sem,hcv,hcp,ayc,ayd,k1];rw[ae8 rfl δ rfl];simp only[go_sem];rw[if_pos (by rfl),Dk rfl (show 1=(aJ [t]).length from rfl) rfl δ (ay8 δ (ayd 3))];simp only[go_sem];exact G3 (.inl rfl) rfl
theorem Kj{d n i:Nat}(h:i<=n):jW d n (some (I i))=some i:=by
 simp_all[jW,if_pos]
theorem amK{h:ac}{j k n:Nat}{rows:List (List AV)}(hj:bh j=false)(hh:h j=.ar k rows)(hn:n=rows.length)(hc:aD [1000] (h 1000)=true):wE [[]] 1 h [.rsl j none k 0 n]=some (.osl k rows,[h 1000]):=by
 simp_all[de,wE,if_pos,vE,rG,mq,Cr,xC,bp,nrmV,nrmL,kR,cf,fI]
theorem amL{rows:List (List AV)}{n i:Nat}(hn:n=rows.length)(hi:i<n)(h2:n<=1000000):R fdO [.rsl 1000 none 4 0 n,I i,I ((i+1:Nat):Int)] [.ar 4 rows]=some (.osl 4 (rows.take i++rows.drop (i+1)),[.dead]):=by
 refine wu wU wT (kG false) rfl ?_;subst hn;have b1:jW rows.length rows.length (some (I rows.length))=some rows.length:=Kj (ayd _);have b2:∀d,jW d rows.length (some (I ((i+1:Nat):Int)))=some (i+1):=fun d=>Kj ω;have b3:∀d,jW d (i+1) (some (I i))=some i:=fun d=>Kj ω;have b4:∀d,jW d rows.length (some (I i))=some i:=fun d=>Kj ω;have e1:((i:Int)=((i+1:Nat):Int))=False:=ff;have s1:eA 4 (.rsl 1000 none 4 0 rows.length) (some (I i)) (some (I ((i+1:Nat):Int))) (some (I rows.length))=some .any:=by
  simp_all[eA,if_true,j8,b2,ayi,ayT,Option.isNone_some,if_neg,ayl]
 have s2:eA 4 (.rsl 1000 none 4 0 rows.length) none (some (I i)) none=some (.rsl 1000 none 4 0 i):=by
  simp_all[eA,if_true,j8,Ns,ayi,ayT,Option.isNone_none,Nat.sub_zero,ayF]
 have s3:eA 4 (.rsl 1000 none 4 0 rows.length) (some (I ((i+1:Nat):Int))) none none=some (.rsl 1000 none 4 (i+1) (rows.length- (i+1))):=by
  simp only[eA,if_true,j8,b2,Ns,ayi,ayT,Option.isNone_none,ayc]
 have t1:(rows.drop (i+1)).take (rows.length- (i+1))=rows.drop (i+1):=ayt γ;have t2:(i+1+(rows.length- (i+1))<=rows.length)=True:=tt;obtain⟨m,hm⟩:∃m,i+(rows.length- (i+1))=m:=⟨_,rfl⟩;obtain⟨D,hD⟩:∃D,rows.take i++rows.drop (i+1)=D:=⟨_,rfl⟩;have d1:D.length=m:=by
  grind
 obtain⟨A,hA⟩:∃A,D++rows.drop m=A:=⟨_,rfl⟩;have a1:A.length=rows.length:=by
  grind
 have a2:A.take m=D:=γ
 have e5:∀h,MQ h 26 4 64 1000 4 0 i (rows.drop (i+1)) 4 rows=some (.rsl 1000 none 4 0 m,upd h 1000 (.ar 4 A),[]):=fun h=>by
  unfold MQ;grind
 have e7:(i=rows.length)=False:=ff;have b5:j8 rows.length (some (I m)) (some (I rows.length)) none=some (m,rows.length):=by
  simp only[j8,b1,ayi];rw[Kj ω];rfl
 have c1:(m+(rows.length-m)<=rows.length)=True:=tt;have c2:∀z,(D++aya (rows.length-m) z++A.drop (m+(rows.length-m))).take m=D:=fun z=>by
  rw[ayX,List.take_append_of_le_length ω,ayt ω]
 rw[hD];simp only[gH,lX,go_sem,s1,s2,s3,e1,t1,t2,e5,e7,false_and,and_false,a1,a2,b5,c1,c2,Nat.sub_zero,ayc,ayB,ayG,decide_false];exact amK (by rfl) (by rfl) d1.symm (by rfl)
theorem ahP{l:List Rt}{h:ac}{d a n i:Nat}(ha:h a=.ar 4 (aJ l))(_hda:2000+8*d≠a)(hd:h (2000+8*d)=.dead)(hn:n=l.length)(hi:i<n)(h2:n<=1000000):
  bF R (az false) h d [.rsl a none 4 0 n,.v (.int .i64 i),.v (.int .i64 ((i+1:Nat):Int))] (.fn fdO [] [])=
   some (.rsl (2000+8*d) none 4 0 (l.length-1),upd (upd h a .dead) (2000+8*d) (.ar 4 (aJ (l.take i++l.drop (i+1)))),[(a,true),(a,false)]):=by
 have hm:=wV false;have hs:=wl false;have hk:=kG false;have hf:=amL (rows:=aJ l) (n:=n) (i:=i) (by rw[tE,hn]) hi h2;have e1:(aJ l).take i++(aJ l).drop (i+1)=aJ (l.take i++l.drop (i+1)):=by simp[aJ,List.map_take,List.map_drop]
 rw[e1]at hf;have hb':kh (az false) [.rsl a none 4 0 n,.v (.int .i64 i),.v (.int .i64 ((i+1:Nat):Int))] (.fn fdO [] [])=false:=by
  grind[kh]
 have h1:bS h [2,0,0] [.rsl a none 4 0 n,.v (.int .i64 i),.v (.int .i64 ((i+1:Nat):Int))]=some ([.rsl a none 4 0 n,.v (.int .i64 i),.v (.int .i64 ((i+1:Nat):Int))],h,[]):=by
  simp[bS,dC,wx,fP,aE,ha,agE]
 have hr:ce h 40 [a] 0=[a]:=by
  grind[ce,oA,bH]
 have hp:bH [] ([AV.rsl a none 4 0 n,.v (.int .i64 i),.v (.int .i64 ((i+1:Nat):Int))].flatMap cf)=[a]:=by
  simp[cf,fI,bH]
 have h3:bm [a] a=1000:=by simp[bm]
 have hnr:cF (.osl 4 (aJ (l.take i++l.drop (i+1))))=1:=rfl;have hlen:(aJ (l.take i++l.drop (i+1))).length=l.length-1:=by
  grind[tE,ay5,ayo,azd]
 unfold bF;simp only[dW,hm,ayq,ayp,h1,ayi,hp,hr,hs];simp only[Int.natCast_add,Int.natCast_one]at hf;simp[jV,bp,bg,bo,ha,aD,bY,dV,kg,h3,dS,hf,eP,hnr,cA,hd,dh,bf,oT,Cp,rB,fI,jj,fy,E4,eE,mat,dL,gb,hk,FT,hm,hlen]
 simp_all[dF,if_neg,Gt]
theorem akj(h:ac)(i:Nat)(xs:List AV)(a b:AV)(r:List (List AV)):E2 h 3 1000 1 4 i 1 xs [] (.bx [a,.osl 4 r,b])=(rA 3 4 i 1 xs 4 r).map fun q=>(.und,upd h 1000 (.bx [a,.osl 4 q,b]),[]):=rfl
theorem Kk(a b:AV)(k:Nat)(r:List (List AV)):kf 1 (.bx [a,.osl k r,b])=some (k,r):=rfl
theorem Q7(h:ac)(n:Nat)(g:Bool)(i j:Nat)(r:List (List AV)):oS h n g 4 i j (some (4,r))=(r[i]?).bind fun row=>(kH n g row j).map fun a=>(a,h,[]):=rfl
theorem ahQ{v v':Int}{l:List Rt}{t q:Rt}(c:Cl v l)(vt:VT v t)(hl:l.length<=1000000)(hq:l[cz l t.exps]?=some q)(ho:bU q.exps t.exps=0):
  R fcs [.ref 1000 none 0 0 0,.sl 1 (aO t.exps),ae t.c] [t3 v' (.osl 4 (aJ l)) 0]=some (.tup [],[if(je q.c t.c).2=0 then(if(je q.c t.c).1.m.length=0 then t3 v' (.osl 4 (aJ (l.take (cz l t.exps)++l.drop (cz l t.exps+1)))) 0 else t3 v' (.osl 4 (aJ (l.set (cz l t.exps) ⟨q.exps,(je q.c t.c).1⟩))) 0)else t3 v' (.osl 4 (aJ l)) 9]):=by
 refine wu aS.2.1 aS.2.2 (aS.1.2.2.2 false) rfl ?_;have hbs:=acX c vt.sm vt.len hl;have hf:Ki l t.exps=true:=by
  grind[Ki,decide_eq_true]
 rw[hf]at hbs;have vq:=c.t q (List.mem_of_getElem? hq);have hadd:=ake vq.c vt.c;have hlt:=(List.getElem?_eq_some_iff.1 hq).1;have hrow:(aJ l)[cz l t.exps]?=some (bL q):=by grind[aJ]
 have hi0:(0<=(cz l t.exps:Int)/\(cz l t.exps:Int)< (l.length:Int))=True:=eq_true ⟨by omega,by omega⟩;have hw:IntKind.i64.wrap ((cz l t.exps:Int)+1)=((cz l t.exps+1:Nat):Int):=wi;generalize je q.c t.c=r at hadd⊢;obtain⟨s,e⟩:=r;simp only[rV,ae,ah]at hadd;simp only[bL]at hrow;simp only[fV,jo,t3,ae,ah,go_sem];rw[aaa rfl rfl (tE l).symm ⟨_,rfl⟩];by_cases he:e=0
 ·subst he;by_cases hs:s.m.length=0
  ·have e1:((s.m.length:Int)=0)=True:=tt;have hlen:(l.take (cz l t.exps)++l.drop (cz l t.exps+1)).length=l.length-1:=by
    grind
   simp only[go_sem,hbs,Ll,hi0,hrow,hadd,hs,ayk,ayO,ayc,Kk,Q7,hw];rw[ahP rfl δ rfl rfl hlt hl];generalize l.take (cz l t.exps)++l.drop (cz l t.exps+1)=L at hlen⊢;simp only[go_sem];rw[Dk rfl (by rw[tE,hlen]) rfl δ (ay8 δ (ayd 3))];simp only[go_sem];exact G3 (.inl rfl) rfl
  ·have e1:((s.m.length:Int)=0)=False:=ff;have hset:(aJ l).set (cz l t.exps) [.sl 1 (aO q.exps),B s.neg,lm s.m,I s.e]=aJ (l.set (cz l t.exps) ⟨q.exps,s⟩):=by
    unfold aJ;rw[List.map_set];rfl
   simp only[go_sem,hbs,Ll,hi0,hrow,hadd,hs,e1,ayk,ayc,Kk,Q7,hw,akj,hset];exact G3 (.inl rfl) rfl
 ·have e1:(e=0)=False:=ff he;simp only[go_sem,hbs,Ll,hi0,hrow,hadd,e1,ayk,ayc,Kk,Q7,hw];exact G3 (.inl rfl) rfl
theorem Q8{v v':Int}{l:List Rt}{t:Rt}{cell:AV}(c:Cl v l)(vt:VT v t)(hl:l.length<=1000000)(hc:pJ cell l):
  ∃cell' l' e',R fcs [.ref 1000 none 0 0 0,.sl 1 (aO t.exps),ae t.c] [t3 v' cell 0]=some (.tup [],[t3 v' cell' e'])/\pJ cell' l'/\((e'=0/\wZ l t=some l')\/(e'=9/\wZ l t=none/\l'=l)):=by
 rcases hc with rfl| ⟨rfl,rfl⟩
 ·rw[Z8];cases hq:l[cz l t.exps]? with
  |none=>
   exact⟨_,_,_,W9 c vt hl (by grind[Ki]),.inl rfl,.inl ⟨rfl,rfl⟩⟩
  |some q=>
   by_cases ho:bU q.exps t.exps=0
   ·have h1:=ahQ (v':=v') c vt hl hq ho;simp only[if_pos ho];by_cases he:(je q.c t.c).2=0
    ·rw[if_pos he]at h1⊢;by_cases hs:(je q.c t.c).1.m.length=0
     ·rw[if_pos hs]at h1⊢;exact⟨_,_,_,h1,.inl rfl,.inl ⟨rfl,rfl⟩⟩
     ·rw[if_neg hs]at h1⊢;exact⟨_,_,_,h1,.inl rfl,.inl ⟨rfl,rfl⟩⟩
    ·rw[if_neg he]at h1⊢;exact⟨_,_,_,h1,.inl rfl,.inr ⟨rfl,rfl,rfl⟩⟩
   ·simp only[if_neg ho];exact⟨_,_,_,W9 c vt hl (by grind[Ki,decide_eq_false]),.inl rfl,.inl ⟨rfl,rfl⟩⟩
 ·exact⟨_,_,_,NM vt,.inl rfl,.inl ⟨rfl,rfl⟩⟩
def lfn:List Rt->(List Int->Int)->Int
 |[],_=>0
 |t::l,f=>zI t.c*f t.exps+lfn l f
theorem aDt:∀ (l r:List Rt) (f:List Int->Int),lfn (l++r) f=lfn l f+lfn r f
 |[],r,f=>by simp[lfn]
 |t::l,r,f=>by
  show zI t.c*f t.exps+lfn (l++r) f=zI t.c*f t.exps+lfn l f+lfn r f;rw[aDt l r f,Int.add_assoc]
theorem aDf(k:Int):∀ (l:List Rt) (f:List Int->Int),lfn l (fun x=>k*f x)=k*lfn l f
 |[],f=>by simp[lfn]
 |t::l,f=>by
  show zI t.c*(k*f t.exps)+_=k*(zI t.c*f t.exps+_);rw[aDf k l f,Int.mul_add,Int.mul_left_comm]
theorem aDr:∀ {l:List Rt} {f g:List Int->Int},(∀t∈l,f t.exps=g t.exps)->lfn l f=lfn l g
 |[],f,g,_=>rfl
 |t::l,f,g,h=>by
  show zI t.c*f t.exps+_=zI t.c*g t.exps+_;rw[h t σ,aDr fun x hx=>h x (by simp[hx])]
theorem aA4{v:Int}{f:List Int->Int}:∀ {l l':List Rt} {t:Rt},Cl v l->VT v t->wZ l t=some l'->lfn l' f=lfn l f+zI t.c*f t.exps
 |[],l',t,c,vt,h=>by
  cases h;show zI t.c*f t.exps+0=0+_;omega
 |q::l,l',t,c,vt,h=>by
  obtain⟨c1,c2,c3⟩:=c.cons;unfold wZ at h;split at h
  ·rw[aye]at h;obtain⟨l2,h2,rfl⟩:=h;have ih:=aA4 c3 vt h2 (f:=f);show _+lfn l2 f=(_+lfn l f)+_;rw[ih,Int.add_assoc]
  ·split at h
   ·rename_i h1 h2;have he:=akf (c1.l2 vt) h2;split at h
    ·rename_i h3;cases h;have hz:=ZZ h3;split
     ·rename_i h4;rw[cO h4]at hz;show lfn l f=(zI q.c*f q.exps+lfn l f)+_;grind
     grind[zI,je,lfn,Int.add_mul,Int.add_right_comm]
    grind
   grind[zI,lfn,Int.add_comm]
theorem aA5{v:Int}{f:List Int->Int}:∀ {ts l l':List Rt},Cl v l->(∀t∈ts,VT v t)->oE l ts=some l'->lfn l' f=lfn l f+lfn ts f
 |[],l,l',c,_,h=>by
  cases h;exact(Int.add_zero _).symm
 |t::ts,l,l',c,vt,h=>by
  unfold oE at h;rw[ayb]at h;obtain⟨l2,h2,h3⟩:=h;rw[aA5 (Q6 c (vt t σ) h2).1 (fun x hx=>vt x γ) h3,aA4 c (vt t σ) h2];show _=_+(_+_);omega
theorem VT.zn{v:Int}{t:Rt}(h:VT v t):zI t.c≠0:=by
 rcases Ew t.c h.vc with⟨_,_,h2⟩| ⟨_,h1,h2,_⟩| ⟨_,h1,h2,_⟩
 ·exact absurd h2 h.nz
 all_goals omega
theorem SM{a b:List Int}(h:bU a b<0):b≠a:=by
 grind[SI]
def p0:Rp:=⟨0,[]⟩
def pV(r:Rp×Int):AV:=.tup [aT r.1,I r.2]
def tL(v:Int):Option (List Rt)->Rp×Int
 |none=>(p0,9)
 |some l=>if 500<l.length then(p0,5)else(⟨v,l⟩,0)
def FJ(a b:Rp):Bool:=vp a&& (vp b&&decide (a.vars=b.vars))
def Kl(a b:Rp):Rp×Int:=if FJ a b=true then tL a.vars (oE [] (a.terms++b.terms))else(p0,1)
def aCA(t:Rt):Rt:=⟨t.exps,⟨!t.c.neg,t.c.m,t.c.e⟩⟩
def aC2(a b:Rp):Rp×Int:=if FJ a b=true then tL a.vars (oE [] (a.terms++b.terms.map aCA))else(p0,1)
def mE(a b:List Int):List Int:=List.zipWith (·+·) a b
def Ia(s t:Rt):Option Rt:=if(fS s.c t.c).2=0 then some ⟨mE s.exps t.exps,(fS s.c t.c).1⟩else none
def nQ(s:Rt):List Rt->Option (List Rt)
 |[]=>some []
 |t::ts=>(Ia s t).bind fun x=>(nQ s ts).map (x::·)
def mf:List Rt->List Rt->Option (List Rt)
 |[],_=>some []
 |s::ss,ts=>(nQ s ts).bind fun r=>(mf ss ts).map (r++·)
def Bo(a b:Rp):Rp×Int:=if FJ a b=true then(if a.terms.length≠0/\b.terms.length≠0/\32<eX a+eX b then(p0,5)else tL a.vars ((mf a.terms b.terms).bind (oE [])))else(p0,1)
theorem afa:∃K:Int,K≠0/\∀a b:Rd,(fS a b).2=0->zI (fS a b).1*K=zI a*zI b:=by
 refine⟨2^16384,?_,fun a b h=>?_⟩
 ·grind[Int.pow_ne_zero]
 ·unfold fS at h⊢;split at h
  ·rename_i hc;rw[if_pos hc];exact Lh (j:=16384) h
  omega
noncomputable def KK:Int:=Classical.choose afa
theorem akk{a b:Rd}(h:(fS a b).2=0):zI (fS a b).1*KK=zI a*zI b:=(Classical.choose_spec afa).2 a b h
theorem aDC{s:Rt}{f:List Int->Int}:∀ {ts r:List Rt},nQ s ts=some r->lfn r f*KK=zI s.c*lfn ts fun v=>f (mE s.exps v)
 |[],r,h=>by
  cases h;show 0*KK=zI s.c*0;omega
 |t::ts,r,h=>by
  unfold nQ at h;rw[ayb]at h;obtain⟨x,h1,h2⟩:=h;rw[aye]at h2;obtain⟨r2,h3,rfl⟩:=h2;unfold Ia at h1;split at h1
  ·rename_i h4;cases h1;show(zI (fS s.c t.c).1*f (mE s.exps t.exps)+lfn r2 f)*KK=zI s.c*(zI t.c*f (mE s.exps t.exps)+lfn ts _);rw[Int.add_mul,aDC h3,Int.mul_right_comm,akk h4,Int.mul_add,Int.mul_assoc]
  ·cases h1
theorem aDD{f:List Int->Int}:∀ {ss ts r:List Rt},mf ss ts=some r->lfn r f*KK=lfn ss fun u=>lfn ts fun v=>f (mE u v)
 |[],ts,r,h=>by
  cases h;show 0*KK=0;omega
 |s::ss,ts,r,h=>by
  unfold mf at h;rw[ayb]at h;obtain⟨x,h1,h2⟩:=h;rw[aye]at h2;obtain⟨r2,h3,rfl⟩:=h2;rw[aDt,Int.add_mul,aDC h1,aDD h3];rfl
theorem Xa:∀ {a b:List Int},a.length=b.length->bj (mE a b)=bj a+bj b
 |[],[],_=>rfl
 |x::a,y::b,h=>by
  show x+y+bj (mE a b)=x+bj a+(y+bj b);rw[Xa (by simpa using h)];omega
 |[],_::_,h=>by grind
 |_::_,[],h=>by grind
theorem Lm:∀ {l:List Int},(∀x∈l,0<=x)->0<=bj l/\∀x∈l,x<=bj l
 |[],_=>⟨Int.le_refl _,fun _ h=>by grind⟩
 |y::l,h=>by
  obtain⟨h1,h2⟩:=Lm fun x hx=>h x (List.mem_cons_of_mem _ hx);have h3:=h y σ;grind[bj]
theorem Xb:∀ {a b:List Int},(∀x∈a,0<=x)->(∀x∈b,0<=x)->∀x∈mE a b,0<=x
 |[],b,_,_,x,hx=>by simp_all[mE]
 |_::_,[],_,_,x,hx=>by simp_all[mE]
 |y::a,z::b,h1,h2,x,hx=>by
  have hx':x∈ (y+z)::mE a b:=hx;rcases List.mem_cons.1 hx' with rfl|hx'
  ·have:=h1 y σ;have:=h2 z σ;omega
  ·exact Xb (fun x hx=>h1 x γ) (fun x hx=>h2 x γ) x hx'
theorem yq{a b:List Int}(h:a.length=b.length):(mE a b).length=a.length:=by
 grind[mE,List.length_zipWith]
theorem Xc{v:Int}{s t x:Rt}(vs:VT v s)(vt:VT v t)(hd:bj s.exps+bj t.exps<=32)(h:Ia s t=some x):VT v x:=by
 unfold Ia at h;split at h
 ·rename_i h0;cases h;have hl:=vs.l2 vt;have hp:=Xb (fun x hx=>(vs.b x hx).1) (fun x hx=>(vt.b x hx).1);have hs:=Xa hl;obtain⟨q1,q2⟩:vd (fS s.c t.c).1=true/\Ok0 (fS s.c t.c).1:=by
   grind[fS,yO,aU]
  refine⟨q2,by rw[yq hl];exact vs.len,vs.v8,q1,fun h=>?_,fun e he=>⟨hp e he,?_⟩,by grind⟩
  ·have h1:=akk h0;rw[cO h,Int.zero_mul]at h1;rcases Int.mul_eq_zero.1 h1.symm with h2|h2
   ·exact vs.zn h2
   ·exact vt.zn h2
  ·have:=(Lm hp).2 e he;omega
 grind
theorem Km{v:Int}{s:Rt}(vs:VT v s):∀ {ts r:List Rt},(∀t∈ts,VT v t/\bj s.exps+bj t.exps<=32)->nQ s ts=some r->(∀x∈r,VT v x)/\r.length=ts.length
 |[],r,_,h=>by cases h;grind
 |t::ts,r,ht,h=>by
  unfold nQ at h;rw[ayb]at h;obtain⟨x,h1,h2⟩:=h;rw[aye]at h2;obtain⟨r2,h3,rfl⟩:=h2;obtain⟨g1,g2⟩:=Km vs (fun y hy=>ht y γ) h3;have vx:=Xc vs (ht t σ).1 (ht t σ).2 h1;grind
theorem SN{v:Int}:∀ {ss ts r:List Rt},(∀s∈ss,VT v s)->(∀t∈ts,VT v t)->(∀s∈ss,∀t∈ts,bj s.exps+bj t.exps<=32)->mf ss ts=some r->(∀x∈r,VT v x)/\r.length=ss.length*ts.length
 |[],ts,r,_,_,_,h=>by cases h;grind
 |s::ss,ts,r,vs,vt,hd,h=>by
  unfold mf at h;rw[ayb]at h;obtain⟨x,h1,h2⟩:=h;rw[aye]at h2;obtain⟨r2,h3,rfl⟩:=h2;obtain⟨g1,g2⟩:=Km (vs s σ) (fun t ht=>⟨vt t ht,hd s σ t ht⟩) h1;obtain⟨k1,k2⟩:=SN (fun y hy=>vs y γ) vt (fun y hy t ht=>hd y γ t ht) h3;grind
theorem akl{a b:List Int}(h:bU a b<0):bj a<=bj b:=by
 unfold bU at h;rcases n8 (bj a) (bj b)with⟨g,e⟩| ⟨g,e⟩| ⟨g,e⟩<;>rw[e]at h
 all_goals omega
theorem NN{v:Int}:∀ {l:List Rt} {t q:Rt},Cl v l->l.getLast?=some q->t∈l->bj t.exps<=bj q.exps
 |[],t,q,_,h,_=>by grind
 |[x],t,q,_,h,ht=>by
  grind
 |x::y::l,t,q,c,h,ht=>by
  obtain⟨c1,c2,c3⟩:=c.cons;rcases List.mem_cons.1 ht with rfl|ht
  ·have h1:=akl (c2 y σ);have h2:=NN c3 h (t:=y) σ;omega
  ·exact NN c3 h ht
theorem aab{a:Rp}(oa:OkP a)(h:vp a=true):∀t∈a.terms,bj t.exps<=eX a:=by
 intro t ht;unfold eX;rw[if_pos h];cases hg:a.terms.getLast? with
 |none=>
  grind
 |some q=>exact NN (lE oa h).1 hg ht
theorem Ci{a b:Rp}:FJ a b=true↔vp a=true/\vp b=true/\a.vars=b.vars:=by
 grind[FJ]
theorem aDS{v:Int}{t:Rt}(h:VT v t):VT v (aCA t):=by
 refine⟨⟨h.c.1,h.c.2⟩,h.len,h.v8,?_,h.nz,h.b,h.d⟩;have h1:=h.vc;have h2:=h.nz
 simp_all[vd,if_neg,aCA]
theorem aEv(t:Rt):zI (aCA t).c=-zI t.c:=by
 grind[zI,aCA,mg]
theorem aD1(f:List Int->Int):∀l:List Rt,lfn (l.map aCA) f=-lfn l f
 |[]=>rfl
 |t::l=>by
  show zI (aCA t).c*f t.exps+lfn (l.map aCA) f=-(zI t.c*f t.exps+lfn l f);rw[aD1 f l,aEv,Int.neg_mul];omega
theorem aDT{v:Int}{o:Option (List Rt)}(h:(tL v o).2=0):∃l,o=some l/\l.length<=500/\(tL v o).1=⟨v,l⟩:=by
 unfold tL at h⊢;grind
structure Pv (v:Int) (a:Rp):Prop where
 v:a.vars=v
 p:vp a=true
 o:OkP a
theorem Pv.cl{v:Int}{a:Rp}(h:Pv v a):Cl v a.terms:=by
 have:=(lE h.o h.p).1;rw[h.v]at this;omega
theorem aD2{a b:Rp}(oa:OkP a)(ob:OkP b)(h:(Kl a b).2=0):Pv a.vars a/\Pv a.vars b/\Pv a.vars (Kl a b).1/\∀f,lfn (Kl a b).1.terms f=lfn a.terms f+lfn b.terms f:=by
 unfold Kl at h⊢;split at h
 ·rename_i hp;rw[if_pos hp];obtain⟨va,vb,hv⟩:=Ci.1 hp;obtain⟨l,hl,h5,he⟩:=aDT h;obtain⟨ca,a0,a8,_⟩:=lE oa va;obtain⟨cb,_⟩:=lE ob vb;rw[←hv]at cb;have ht:∀t∈a.terms++b.terms,VT a.vars t:=fun t ht=>by
   rcases List.mem_append.1 ht with ht|ht
   ·exact ca.t t ht
   ·exact cb.t t ht
  have hc:=(Lj (Cl.nil _) ht hl).1;rw[he];refine⟨⟨rfl,va,oa⟩,⟨hv.symm,vb,ob⟩,⟨rfl,Li hc a0 a8 h5,iW hc⟩,fun f=>?_⟩;have:=aA5 (f:=f) (Cl.nil _) ht hl
  simp_all[aDt,lfn,Int.zero_add]
 omega
theorem aD3{a b:Rp}(oa:OkP a)(ob:OkP b)(h:(aC2 a b).2=0):Pv a.vars a/\Pv a.vars b/\Pv a.vars (aC2 a b).1/\∀f,lfn (aC2 a b).1.terms f=lfn a.terms f-lfn b.terms f:=by
 unfold aC2 at h⊢;split at h
 ·rename_i hp;rw[if_pos hp];obtain⟨va,vb,hv⟩:=Ci.1 hp;obtain⟨l,hl,h5,he⟩:=aDT h;obtain⟨ca,a0,a8,_⟩:=lE oa va;obtain⟨cb,_⟩:=lE ob vb;rw[←hv]at cb;have ht:∀t∈a.terms++b.terms.map aCA,VT a.vars t:=fun t ht=>by
   rcases List.mem_append.1 ht with ht|ht
   ·exact ca.t t ht
   ·obtain⟨q,hq,rfl⟩:=List.mem_map.1 ht;exact aDS (cb.t q hq)
  have hc:=(Lj (Cl.nil _) ht hl).1;rw[he];refine⟨⟨rfl,va,oa⟩,⟨hv.symm,vb,ob⟩,⟨rfl,Li hc a0 a8 h5,iW hc⟩,fun f=>?_⟩;have:=aA5 (f:=f) (Cl.nil _) ht hl;rw[aDt,aD1]at this;rw[this];show 0+_=_;omega
 omega
theorem Xd{a b:Rp}(oa:OkP a)(ob:OkP b)(va:vp a=true)(vb:vp b=true)(h:¬ (a.terms.length≠0/\b.terms.length≠0/\32<eX a+eX b)):∀s∈a.terms,∀t∈b.terms,bj s.exps+bj t.exps<=32:=by
 intro s hs t ht;have h1:=aab oa va s hs;have h2:=aab ob vb t ht;grind
theorem aD4{a b:Rp}(oa:OkP a)(ob:OkP b)(h:(Bo a b).2=0):Pv a.vars a/\Pv a.vars b/\Pv a.vars (Bo a b).1/\∀f,lfn (Bo a b).1.terms f*KK=lfn a.terms fun u=>lfn b.terms fun v=>f (mE u v):=by
 unfold Bo at h⊢;split at h
 ·rename_i hp;rw[if_pos hp];obtain⟨va,vb,hv⟩:=Ci.1 hp;split at h
  ·omega
  ·rename_i hd;rw[if_neg hd];have hf:=Xd oa ob va vb hd;obtain⟨l,hl,h5,he⟩:=aDT h;rw[ayb]at hl;obtain⟨r,hr,hl⟩:=hl;obtain⟨ca,a0,a8,_⟩:=lE oa va;obtain⟨cb,_⟩:=lE ob vb;rw[←hv]at cb;have ht:=(SN ca.t cb.t hf hr).1;have hc:=(Lj (Cl.nil _) ht hl).1;rw[he];refine⟨⟨rfl,va,oa⟩,⟨hv.symm,vb,ob⟩,⟨rfl,Li hc a0 a8 h5,iW hc⟩,fun f=>?_⟩;have:=aA5 (f:=f) (Cl.nil _) ht hl;rw[this,←aDD hr];show(0+_)*_=_;grind
 omega
theorem Uq:OkP p0:=⟨fun _ h=>by cases h⟩
theorem Xe{v:Int}{o:Option (List Rt)}(h:∀l,o=some l->Cl v l):OkP (tL v o).1:=by
 unfold tL;grind[Uq,iW]
theorem ahR{a b:Rp}(oa:OkP a)(ob:OkP b):OkP (Kl a b).1:=by
 unfold Kl;split
 ·rename_i hp;obtain⟨va,vb,hv⟩:=Ci.1 hp;obtain⟨ca,_⟩:=lE oa va;obtain⟨cb,_⟩:=lE ob vb;rw[←hv]at cb;exact Xe fun l hl=>(Lj (Cl.nil _) (fun t ht=>by
   rcases List.mem_append.1 ht with ht|ht
   ·exact ca.t t ht
   ·exact cb.t t ht) hl).1
 ·exact Uq
theorem aDw{a b:Rp}(oa:OkP a)(ob:OkP b):OkP (aC2 a b).1:=by
 unfold aC2;split
 ·rename_i hp;obtain⟨va,vb,hv⟩:=Ci.1 hp;obtain⟨ca,_⟩:=lE oa va;obtain⟨cb,_⟩:=lE ob vb;rw[←hv]at cb;exact Xe fun l hl=>(Lj (Cl.nil _) (fun t ht=>by
   rcases List.mem_append.1 ht with ht|ht
   ·exact ca.t t ht
   ·obtain⟨q,hq,rfl⟩:=List.mem_map.1 ht;exact aDS (cb.t q hq)) hl).1
 ·exact Uq
theorem ahS{a b:Rp}(oa:OkP a)(ob:OkP b):OkP (Bo a b).1:=by
 unfold Bo;split
 ·rename_i hp;obtain⟨va,vb,hv⟩:=Ci.1 hp;split
  ·exact Uq
  ·rename_i hd;have hf:=Xd oa ob va vb hd;obtain⟨ca,_⟩:=lE oa va;obtain⟨cb,_⟩:=lE ob vb;rw[←hv]at cb;refine Xe fun l hl=>?_;rw[ayb]at hl;obtain⟨r,hr,hl⟩:=hl;exact(Lj (Cl.nil _) (SN ca.t cb.t hf hr).1 hl).1
 ·exact Uq
theorem Xf{a:AV}(h:aE a=true):fI a=[]:=by cases a<;>simp[aE]at h<;>rfl
theorem aac{a:AV}(h:aE a=true)(l:List Nat):bo l a=true:=by cases a<;>simp[aE]at h<;>simp[bo,h]
theorem Xg{a:AV}(h:aE a=true)(g:Nat->Nat):kg g a=a:=by cases a<;>simp[aE]at h<;>rfl
theorem EJ{α β:Type}{f:α->List β}:∀ {l:List α},(∀x∈l,f x=[])->l.flatMap f=[]
 |[],_=>rfl
 |x::l,h=>by
  simp_all
theorem Ln{a:AV}(h:dat a=true):cf a=[]:=by
 cases a<;>simp only[dat]at h<;>first|exact Xf h|skip
 ·exact EJ fun x hx=>Xf (List.all_eq_true.1 h x hx)
 ·simp[aE]at h;obtain⟨rfl,rfl⟩:=h;rfl
theorem Pk{a:AV}(h:dat a=true)(l:List Nat):bg l a=true:=by
 cases a<;>simp only[dat]at h<;>first|exact aac h l|skip
 all_goals grind[bg,ayx,aac,aE]
theorem Lo{a:AV}(h:dat a=true)(g:Nat->Nat):dV g a=a:=by
 cases a<;>simp only[dat]at h<;>first|exact Xg h g|skip
 ·rename_i cs;show AV.agg (cs.map (kg g))=_;rw[(ayM (g:=fun c=>c) fun x hx=>Xg (List.all_eq_true.1 h x hx) g).trans (ayY cs)]
 ·simp[aE]at h;obtain⟨rfl,rfl⟩:=h;rfl
theorem Xh{a:AV}(h:dat a=true)(hp:ac):dC hp 0 a=some (a,hp,[]):=by
 by_cases hagg:∃cs,a=.agg cs
 ·grind[dat,dC,wx,mI]
 ·have h2:aE a=true:=by cases a<;>first|exact h|exact absurd ⟨_,rfl⟩ hagg
  cases a<;>first| (simp[aE]at h2;done)|rfl|skip
theorem Lp(hp:ac):∀ {l:List AV},l.all dat=true->bS hp [] l=some (l,hp,[])
 |[],_=>rfl
 |a::l,h=>by
  simp only[ayJ,ayf]at h;simp only[bS,List.headD_nil,Xh h.1,ayi,List.tail_nil,Lp hp h.2,ayp]
structure OC (o:Ob):Prop where
 cl:∀l,aD l o=true
 ids:oA o=[]
 ren:∀g,dS g o=o
 nd:bY o=false
structure RT (r:AV):Prop where
 ren:∀g,FT g r=r
 mat:∀n h,mat n h r=(r,h)
 ok:∀l,jj l r=true
theorem amM(z:Int):RT (I z):=⟨fun _=>rfl,fun _ _=>rfl,fun _=>rfl⟩
theorem Xi(b:Bool):RT (B b):=⟨fun _=>rfl,fun _ _=>rfl,fun _=>rfl⟩
theorem wv:∀l:List AV,rB [] l=[]
 |[]=>rfl
 |a::l=>by
  show(if(0:Nat)=2 then _ else [])++rB [] l=[];rw[wv l];rfl
theorem Ib{f:FuncId}{h:ac}{d id:Nat}{zas as':List AV}{o o':Ob}{res:AV}(hm:(az false).m f=[])(hk:(az false).keep f=false)(hn:bp ((az false).sh f) (.ref id none 0 0 0::zas)=.ref id none 0 0 0::as')(hd:zas.all dat=true)(hd':as'.all dat=true)
  (hh:h id=o) (ho:OC o) (ho':OC o') (hb:bf o=true->bf o'=true) (hR:R f (.ref 1000 none 0 0 0::as') [o]=some (res,[o'])) (hr:RT res) (h8:cF res<=8) (hfr:cA h (2000+8*d) (cF res)=true):
  bF R (az false) h d (.ref id none 0 0 0::zas) (.fn f [] [])=some (res,upd h id o',[(id,true)]):=by
 have h1:bS h [] (.ref id none 0 0 0::zas)=some (.ref id none 0 0 0::zas,h,[]):=by
  simp only[bS,dC,ayi,List.tail_nil,Lp h hd,ayp]
 have hp:bH [] ((AV.ref id none 0 0 0::zas).flatMap cf)=[id]:=by
  rw[List.flatMap_cons,EJ fun x hx=>Ln (List.all_eq_true.1 hd x hx)];rfl
 have hre:ce h 40 [id] 0=[id]:=by
  simp[ce,hh,ho.ids,bH]
 have h3:bm [id] id=1000:=by simp[bm]
 have hall:(AV.ref id none 0 0 0::as').all (bg [id])=true:=by
  grind[bg,bo,Pk]
 have hmap:(AV.ref id none 0 0 0::as').map (dV (bm [id]))=.ref 1000 none 0 0 0::as':=by
  rw[ays,(ayM (g:=fun c=>c) fun x hx=>Lo (List.all_eq_true.1 hd' x hx) _).trans (ayY as')];grind[dV,kg]
 have hob:([id].map fun a=>dS (bm [id]) (h a))=[o]:=by simp[hh,ho.ren]
 have hids:([id].all fun a=>aD [id] (h a)&&!bY (h a))=true:=by simp[hh,ho.cl,ho.nd]
 unfold bF;rw[if_neg (by grind[kh])];simp only[dW,hm,ayq,ayp,h1,ayi,hp,hre,hn];unfold jV;rw[hall,hids,hmap,hob,hR,ayK,if_pos rfl,ayi,hk,hm,wv];unfold eP;have hbf:dh h [] [id] [o']=true:=by
  have:=ho'.nd;grind[bf,dh]
 have hend:oT h [id] [] (res,[o'])=true:=by
  simp[oT,Cp,hr.ok,ho'.cl]
 rw[if_pos ⟨rfl,by simp,h8,hfr,hbf,hend⟩];simp[eE,gb,hr.mat,hr.ren,ho'.ren]
theorem dy{f:FuncId}{h:ac}{d id:Nat}{zas:List AV}{r:Option R3}(hm:(az false).m f=[])(hd:zas.all dat=true)(hc:bF R (az false) h d (.ref id none 0 0 0::zas) (.fn f [] [])=r):Hz R (az false) d f (.ref id none 0 0 0::zas,h,[])=r:=by
 have h1:bS h [] (.ref id none 0 0 0::zas)=some (.ref id none 0 0 0::zas,h,[]):=by
  simp only[bS,dC,ayi,List.tail_nil,Lp h hd,ayp]
 rw[HA d hm,h1]at hc;exact hc
theorem kP{v e:Int}{c:AV}{l:List Rt}(hc:pJ c l):OC (t3 v c e):=by
 rcases hc with rfl| ⟨rfl,_⟩
 ·exact⟨fun l=>rfl,rfl,fun g=>rfl,rfl⟩
 ·exact⟨fun l=>rfl,rfl,fun g=>rfl,rfl⟩
theorem ahT:RT (.tup []):=⟨fun _=>rfl,fun _ _=>rfl,fun _=>rfl⟩
theorem pK{v e e':Int}{c c':AV}{l l':List Rt}{h:ac}{d id:Nat}{x:List Int}{q:Rd}(hh:h id=t3 v c e)(hc:pJ c l)(hc':pJ c' l')(hR:R fcs [.ref 1000 none 0 0 0,.sl 1 (aO x),ae q] [t3 v c e]=some (.tup [],[t3 v c' e'])):
  bF R (az false) h d [.ref id none 0 0 0,.sl 1 (aO x),ae q] (.fn fcs [] [])=some (.tup [],upd h id (t3 v c' e'),[(id,true)]):=
 Ib (aS.1.2.1 false) (aS.1.2.2.2 false) (as':=[.sl 1 (aO x),ae q]) (by simp only[ae,ah,go_sem]) rfl rfl hh (kP hc) (kP hc') (fun _=>rfl) hR ahT δ rfl
theorem Bp{v:Int}:R fcx [I v] []=some (.obx [I v,.emp,I 0],[]):=by
 refine au VQ rfl ?_;rfl
theorem apC(r:Rp×Int):RT (pV r):=⟨fun _=>rfl,fun _ _=>rfl,fun _=>rfl⟩
theorem sj{h:ac}{o:Ob}{rs:List (List Sh)}{vs us:List AV}{r:AV}(h0:((vs.flatMap cf).filter fun i=>!bh i)=[])(h1:h 1000=o)(ho:aD [1000] o=true)(h2:vE h vs=some us)(h3:xC (bp rs us)=r):wE rs 1 h vs=some (r,[o]):=by
 have hp:de 1=[1000]:=rfl;unfold wE;rw[h0,hp,h2,if_pos (by grind[kR])];grind
theorem Am(x:Value):lH (.v x)=.v x:=rfl
theorem yr(k:Nat)(r:List (List AV)):lH (.osl k r)=.sl k r:=rfl
theorem Bq:lH .emp=.emp:=rfl
theorem amN{v e:Int}{l:List Rt}:xC (bp [[.o 0 [],.o 5 [.o 2 [],.o 0 [],.o 2 [],.o 0 []]],[]] [.agg [I v,.sl 4 (aJ l)],I e])=pV (⟨v,l⟩,e):=by
 have h:=GZ l;show AV.tup [.agg [I v,.sl 4 ((aJ l).map _)],I e]=_;rw[h];rfl
theorem ahU{v e:Int}{c:AV}{l:List Rt}(hc:pJ c l)(he:e≠0):R fcu [.ref 1000 none 0 0 0] [t3 v c e]=some (pV (p0,e),[t3 v c e]):=by
 refine wu br.2.1 br.2.2 (br.1.2.2.2 false) rfl ?_;have e1:(e=0)=False:=ff he;simp only[fC,iR,t3,go_sem,e1];exact sj rfl (by rfl) ((kP hc).cl _) (by rfl) (by rfl)
theorem ahV{v:Int}{l:List Rt}:R fcu [.ref 1000 none 0 0 0] [t3 v (.osl 4 (aJ l)) 0]=some (pV (tL v (some l)),[if 500<l.length then t3 v (.osl 4 (aJ l)) 0 else .bx [I v,.sl 4 (aJ l),I 0]]):=by
 refine wu br.2.1 br.2.2 (br.1.2.2.2 false) rfl ?_;unfold tL;by_cases h:500<l.length
 ·have e1:(500< (l.length:Int))=True:=tt;simp only[if_pos h];simp only[fC,iR,t3,go_sem,e1];exact sj rfl (by rfl) rfl (by rfl) (by rfl)
 ·have e1:(500< (l.length:Int))=False:=ff;simp only[if_neg h];simp only[fC,iR,t3,go_sem,e1,Am,yr];exact sj rfl (by rfl) rfl (by rfl) amN
theorem ahW{v:Int}:R fcu [.ref 1000 none 0 0 0] [t3 v .emp 0]=some (pV (tL v (some [])),[t3 v .emp 0]):=by
 refine wu br.2.1 br.2.2 (br.1.2.2.2 false) rfl ?_;have e1:((500:Int)<0)=False:=ff δ;simp only[fC,iR,t3,go_sem,e1];exact sj rfl (by rfl) rfl (by rfl) (by rfl)
theorem Cj{v e:Int}{c:AV}{l:List Rt}{h:ac}{d id:Nat}(hh:h id=t3 v c e)(hc:pJ c l)(hf:cA h (2000+8*d) 2=true):
  ∃o,bF R (az false) h d [.ref id none 0 0 0] (.fn fcu [] [])=some (pV (if e=0 then tL v (some l)else(p0,e)),upd h id o,[(id,true)]):=by
 have key:∃o,OC o/\bf o=true/\R fcu [.ref 1000 none 0 0 0] [t3 v c e]=some (pV (if e=0 then tL v (some l)else(p0,e)),[o]):=by
  by_cases he:e=0
  ·subst he;rcases hc with rfl| ⟨rfl,rfl⟩
   ·refine⟨_,?_,?_,ahV⟩
    ·split
     ·exact kP (.inl rfl)
     ·exact⟨fun l=>rfl,rfl,fun g=>rfl,rfl⟩
    ·split<;>rfl
   ·exact⟨_,kP (.inr ⟨rfl,rfl⟩),rfl,ahW⟩
  ·rw[if_neg he];exact⟨_,kP hc,rfl,ahU hc he⟩
 obtain⟨o,h1,h2,h3⟩:=key;exact⟨o,Ib (br.1.2.1 false) (br.1.2.2.2 false) (as':=[]) (by rfl) rfl rfl hh (kP hc) h1 (fun _=>h2) h3 (apC _) (by show 2<=8;decide) hf⟩
theorem aad{a b:Rp}(oa:OkP a)(ob:OkP b):R fcz [aT a,aT b] []=some (B (FJ a b),[]):=by
 refine au YL rfl ?_;have h1:=vj oa;have h2:=vj ob;simp only[aT]at h1 h2;unfold FJ;cases ha:vp a with
 |false=>
  rw[ha]at h1;simp only[uH,BJ,aT,go_sem,h1]
 |true=>
  rw[ha]at h1;cases hb:vp b with
  |false=>
   rw[hb]at h2;simp only[uH,BJ,aT,go_sem,h1,h2]
  |true=>
   rw[hb]at h2;simp only[uH,BJ,aT,go_sem,h1,h2]
structure ColE (v:Int) (l ts:List Rt) (e:Int) (c':AV) (l':List Rt) (e':Int):Prop where
 c:pJ c' l'
 r:(e'=0/\e=0/\oE l ts=some l')\/(e'=9/\(e=0->oE l ts=none))
theorem ColE.fin{v:Int}{ts:List Rt}{c':AV}{l':List Rt}{e':Int}(h:ColE v [] ts 0 c' l' e'):(if e'=0 then tL v (some l')else(p0,e'))=tL v (oE [] ts):=by
 rcases h.r with⟨h1,_,h2⟩| ⟨h1,h2⟩
 ·rw[if_pos h1,h2]
 ·rw[h1,if_neg δ,h2 rfl];rfl
theorem ColE.step{v:Int}{l ts:List Rt}{t:Rt}{c:AV}(hc:pJ c l){e:Int}(he:e=0\/e=9)(hC:e=0->Cl v l/\l.length+ts.length+1<=1000000)(vt:VT v t){v':Int}:
  ∃c1 l1 e1,R fcs [.ref 1000 none 0 0 0,.sl 1 (aO t.exps),ae t.c] [t3 v' c e]=some (.tup [],[t3 v' c1 e1])/\pJ c1 l1/\(e1=0\/e1=9)/\(e1=0->Cl v l1/\l1.length+ts.length<=1000000)/\∀c' l' e',ColE v l1 ts e1 c' l' e'->ColE v l (t::ts) e c' l' e':=by
 rcases he with rfl|rfl
 ·obtain⟨h1,h2⟩:=hC rfl;obtain⟨c1,l1,e1,g1,g2,g3⟩:=Q8 (v':=v') h1 vt ω hc;refine⟨c1,l1,e1,g1,g2,?_,fun h0=>?_,fun c' l' e' h=>⟨h.c,?_⟩⟩
  ·omega
  ·rcases g3 with⟨_,g⟩| ⟨g,_⟩
   ·have:=NL g;exact⟨(Q6 h1 vt g).1,by omega⟩
   omega
  ·rcases g3 with⟨g,k⟩| ⟨g,k,_⟩
   ·rcases h.r with⟨q1,_,q2⟩| ⟨q1,q2⟩
    ·unfold oE;grind
    ·unfold oE;grind
   ·rcases h.r with⟨_,q1,_⟩| ⟨q1,_⟩
    ·omega
    ·unfold oE;grind
 ·refine⟨c,l,9,W8 hc δ,hc,.inr rfl,fun h=>by omega,fun c' l' e' h=>⟨h.c,?_⟩⟩;rcases h.r with⟨_,q1,_⟩| ⟨q1,_⟩
  all_goals omega
theorem afb{v v':Int}{T:List Rt}(hT:∀t∈T,VT v t)(hn:T.length<=100000):∀ (k i:Nat),i+k=T.length->∀ (c:AV) (l:List Rt) (e:Int),pJ c l->(e=0\/e=9)->(e=0->Cl v l/\l.length+k<=1000000)->
  ∀ (s:ak) (h:ac),s 4=.ref 4 none 0 0 0->s 6=.ref 2128 none 0 0 0->s 22=.sl 4 (aJ T)->s 23=I T.length->s 24=I i->h 4=.bx [I 0,.emp]->h 2128=t3 v' c e->
  ∃hh c' l' e',ai 0 [4,6] (ax (aj R (az false) sA) [4,6,22,23,24] [4,2128] s h)=some (.normal,⟨upd (upd (fun _=>.any) 6 (.ref 2128 none 0 0 0)) 4 (.ref 4 none 0 0 0),hh⟩)/\
   hh 4=.bx [I 0,.emp]/\hh 2128=t3 v' c' e'/\(∀a,a≠4->a≠2128->hh a=.dead)/\ColE v l (T.drop i) e c' l' e':=by
 intro k;induction k with
 |zero=>
  intro i hi c l e hc he hC s h h4 h6 h22 h23 h24 k4 k6;have e1:((i:Int)<T.length)=False:=ff;have ho:=(kP (v:=v') (e:=e) hc).cl [4,2128];rw[ag];refine⟨?hh0,c,l,e,?_,?_,?_,?_,?_⟩;rotate_left
  ·simp only[sA,go_sem,h4,h6,h22,h23,h24,k4,k6,ho,e1];rfl
  ·rfl
  ·rfl
  ·simp_all[cV,if_false]
  ·rw[ayw ω];refine⟨hc,?_⟩;rcases he with rfl|rfl
   ·exact .inl ⟨rfl,rfl,rfl⟩
   omega
 |succ k ih=>
  intro i hi c l e hc he hC s h h4 h6 h22 h23 h24 k4 k6;have hlt:i<T.length:=ω
  have e1:((i:Int)<T.length)=True:=tt;have e2:aX (aJ T) (i:Int)=some (.ipt (bL T[i])):=fY rfl (List.getElem?_eq_getElem hlt);have e5:IntKind.i64.wrap ((i:Int)+1)=((i+1:Nat):Int):=wi;have ho:=(kP (v:=v') (e:=e) hc).cl [4,2128];have hdl:(T.drop (i+1)).length=k:=γ
  obtain⟨c1,l1,ee,g1,g2,g3,g4,g5⟩:=ColE.step (ts:=T.drop (i+1)) hc he (fun h=>by grind) (hT _ (ayC hlt)) (v':=v');rw[hdl]at g4;have ih':=ih (i+1) ω c1 l1 ee g2 g3 g4;rw[ayv hlt,ag];have hcall:=fun(h:ac) (hh:h 2128=t3 v' c e) (d:Nat)=>dy (aS.1.2.1 false) rfl (pK (d:=d) hh hc g2 g1);simp only[ae,ah]at hcall;simp only[bL]at e2;simp only[sA,go_sem,h4,h6,h22,h23,h24,k4,k6,ho,e1,e2];rw[hcall _ rfl];simp only[go_sem,e5];refine(ih' _ _ ?_ ?_ ?_ ?_ ?_ ?_ ?_).imp fun hh ⟨c',l',e',q1,q2,q3,q4,q5⟩=>⟨c',l',e',q1,q2,q3,q4,g5 _ _ _ q5⟩
  all_goals rfl
theorem aae:PS .emp=some (I 0):=rfl
theorem Xj(h:ac):Hj h .emp=h:=rfl
theorem acY:eA 4 .emp none (some (I 0)) none=some .emp:=rfl
theorem ahX{h:ac}{d:Nat}{z:List AV}{n:Nat}(h0:0<n)(h1:n<=1000000):E3 h d 4 64 z .emp (I n)=cW h d 4 (aya n z) n []:=by
 simp only[E3];grind
theorem ahY:R fdP [.emp,I 0] []=some (.emp,[]):=by
 refine au nK rfl ?_;have e1:((0:Int)<0)=False:=ff δ;have w1:IntKind.i64.wrap ((0:Int)-0)=0:=δ
 simp only[eS,iJ,go_sem,e1,w1,aae,Xj]
theorem ahZ{n:Nat}(h0:0<n)(h1:n<=1000000):R fdP [.emp,I n] []=some (.osl 4 [],[]):=by
 refine au nK rfl ?_;have e1:((n:Int)<0)=False:=ff;have e2:(0< (n:Int))=True:=tt;have w0:IntKind.i64.wrap ((0:Int)-0)=0:=δ
 have w1:IntKind.i64.wrap ((n:Int)-0)=(n:Int):=wi;have e5:eA 4 (.rsl 22 none 4 0 n) none (some (I 0)) none=some (.rsl 22 none 4 0 0):=by
  simp[eA,j8,jW]
 have e4:=fun h d z=>ahX (h:=h) (d:=d) (z:=z) h0 h1;simp only[eS,iJ,go_sem,e1,e2,e4,w0,w1,aae,Xj,acY,e5,List.take_zero]
 done
theorem afc{a b:List Rt}(ha:a.length<=100000)(hb:b.length<=100000):R fdI [.sl 1 [[.sl 4 (aJ a)],[.sl 4 (aJ b)]]] []=some (.sl 4 (aJ (a++b)),[]):=by
 refine au wS rfl ?_;have w1:IntKind.i64.wrap ((0:Int)+(a.length:Int))=(a.length:Int):=wi;have w2:IntKind.i64.wrap ((a.length:Int)+(b.length:Int))=((a.length+b.length:Nat):Int):=wi;have e1:((a.length:Int)<0)=False:=ff;have e2:(((a.length+b.length:Nat):Int)<0)=False:=ff;have c1:((0:Int)< ((0+1+1:Nat):Int))=True:=tt δ;have c2:((1:Int)< ((0+1+1:Nat):Int))=True:=tt δ;have c3:((2:Int)< ((0+1+1:Nat):Int))=False:=ff δ;have r0:aX [[AV.sl 4 (aJ a)],[.sl 4 (aJ b)]] 0=some (.ipt [.sl 4 (aJ a)]):=rfl;have r1:aX [[AV.sl 4 (aJ a)],[.sl 4 (aJ b)]] 1=some (.ipt [.sl 4 (aJ b)]):=rfl;have i1:IntKind.i64.wrap ((0:Int)+1)=1:=δ
 have i2:IntKind.i64.wrap ((1:Int)+1)=2:=δ
 simp only[gF,lV,go_sem,ayL,ayR];rw[ag];simp only[kE,go_sem,c1,r0,w1,e1,i1];rw[ag];simp only[go_sem,c2,r1,w2,e2,i2];rw[ag];simp only[go_sem,c3];by_cases hz:a.length+b.length=0
 ·have ea:a=[]:=List.length_eq_zero_iff.1 ω;have eb:b=[]:=List.length_eq_zero_iff.1 ω;subst ea eb;have hg:=ahY;have a0:∀h d,MR h d 4 64 .emp (.sl 4 [])=some (.emp,h,[]):=fun h d=>rfl;have hcr:ll (fun _=>.dead) 24 (some (.emp,[]))=some (.emp,fun _=>.dead,[]):=rfl;rw[show aJ []=[]from rfl]at*
  simp only[go_sem,hg,hcr,ayR,ayF,ayO];rw[ag];simp only[fR,go_sem,c1,r0,i1,a0];rw[ag];simp only[go_sem,c2,r1,i2,a0];rw[ag];rfl
 ·have hg:=ahZ (n:=a.length+b.length) ω ω;have b1:(a.length*64<=140737488355328)=True:=tt;have b2:((a.length+b.length)*64<=140737488355328)=True:=tt;simp only[go_sem,hg,ayR];rw[ag];simp only[fR,go_sem,c1,r0,i1,b1,or_true,ayc,ayq,ayR];rw[ag];simp only[go_sem,c2,r1,i2,b2,or_true];rw[ag];simp only[go_sem,c3,ayc];have hl:(aJ a++aJ b).length=a.length+b.length:=by grind[ay5,tE]
  have hab:aJ a++aJ b=aJ (a++b):=by simp[aJ]
  rw[hl,if_pos (ayd _),if_pos rfl,hab];have h:=GZ (a++b);show some (AV.sl 4 ((aJ (a++b)).map _),[])=_;rw[h]
theorem pM(h:ac)(d:Nat)(v:Int):ll h d (some (.obx [I v,.emp,I 0],[]))=if bY (h (2000+8*d))=true then some (.ref (2000+8*d) none 0 0 0,upd h (2000+8*d) (.bx [I v,.emp,I 0]),[])else none:=by
 simp[ll,cF,cA,jj,fy,mh,aE,bt,mat,dL]
theorem amO{v v':Int}{T:List Rt}(hT:∀t∈T,VT v t)(hn:T.length<=100000)(s:ak)(h:ac)(X:Option (Ex×St))(hX:ai 0 [4,6] (ax (aj R (az false) sA) [4,6,22,23,24] [4,2128] s h)=X)(h4:s 4=.ref 4 none 0 0 0)(h6:s 6=.ref 2128 none 0 0 0)(h22:s 22=.sl 4 (aJ T))(h23:s 23=I T.length)(h24:s 24=I 0)(k4:h 4=.bx [I 0,.emp])(k6:h 2128=t3 v' .emp 0):
  ∃hh c' l' e',X=some (.normal,⟨upd (upd (fun _=>.any) 6 (.ref 2128 none 0 0 0)) 4 (.ref 4 none 0 0 0),hh⟩)/\
   hh 4=.bx [I 0,.emp]/\hh 2128=t3 v' c' e'/\(∀a,a≠4->a≠2128->hh a=.dead)/\ColE v [] T 0 c' l' e':=by
 subst hX;exact afb hT hn T.length 0 (ayc _) .emp [] 0 (.inr ⟨rfl,rfl⟩) (.inl rfl) (fun _=>⟨Cl.nil _,by grind⟩) s h h4 h6 h22 h23 h24 k4 k6
theorem akm{a b:Rp}(oa:OkP a)(ob:OkP b):R fci [aT a,aT b] []=some (pV (Kl a b),[]):=by
 refine au acd rfl ?_;have hp:=aad oa ob;simp only[aT]at hp;unfold Kl;cases hb:FJ a b with
 |false=>
  rw[hb]at hp;simp only[BF,HE,aT,go_sem,hp];rfl
 |true=>
  rw[hb]at hp;obtain⟨va,vb,hv⟩:=Ci.1 hb;obtain⟨ca,a0,a8,al⟩:=lE oa va;obtain⟨cb,b0,b8,bl⟩:=lE ob vb;rw[←hv]at cb;have hT:∀t∈a.terms++b.terms,VT a.vars t:=fun t ht=>by
   rcases List.mem_append.1 ht with ht|ht
   ·exact ca.t t ht
   ·exact cb.t t ht
  have hemp:=Bp (v:=a.vars);have hcat:=afc (a:=a.terms) (b:=b.terms) ω ω;have hl:=amO (v':=a.vars) hT γ;simp only[BF,HE,aT,go_sem,hp,hemp,pM,hcat,ayL,ayR];generalize hX:ai 0 [4,6] _=X;obtain⟨hh,c',l',e',rfl,q2,q3,q4,q5⟩:=hl _ _ _ hX rfl rfl rfl rfl rfl rfl rfl;obtain⟨o,hd⟩:=Cj (d:=36) q3 q5.c (by grind[cA,bY]);have hd':=dy (br.1.2.1 false) rfl hd;rw[q5.fin]at hd';simp only[pV,aT,go_sem,q2,hd']
theorem aEw{v:Int}{t:Rt}(vt:VT v t):R faM [ae t.c] []=some (ae (aCA t).c,[]):=by
 have h:=GW vt.c;have hvc:=vt.vc;rw[if_neg (by rw[hvc];exact fun h=>h.elim (fun h=>by cases h) vt.nz)]at h;exact h
def t2(v:Int)(c:AV):Ob:=.bx [I v,c]
theorem aEp{v:Int}{c:AV}{l:List Rt}(hc:pJ c l)(ids:List Nat):aD ids (t2 v c)=true:=by
 rcases hc with rfl| ⟨rfl,_⟩<;>rfl
theorem aEe{v v':Int}{a:Rp}{T:List Rt}(hT:∀t∈T,VT v t)(hn:T.length<=100000){o3:Ob}(ho3:aD [2,3,4,6] o3=true):∀ (k i:Nat),i+k=T.length->∀ (c:AV),pJ c ((T.take i).map aCA)->
  ∀ (s:ak) (h:ac),s 2=.ref 2 none 0 0 0->s 4=.ref 4 none 0 0 0->s 6=.ref 6 none 0 0 0->s 18=.sl 4 (aJ T)->s 19=I T.length->s 20=I i->h 2=.bx [I a.vars,.sl 4 (aJ a.terms)]->h 3=o3->h 4=.bx [I 0,.emp]->h 6=t2 v' c->
  ∃hh c',ai 0 [2,4,6] (ax (aj R (az false) Tj) [2,4,6,18,19,20] [2,3,4,6] s h)=some (.normal,⟨upd (upd (upd (fun _=>.any) 6 (.ref 6 none 0 0 0)) 4 (.ref 4 none 0 0 0)) 2 (.ref 2 none 0 0 0),hh⟩)/\
   hh 2=.bx [I a.vars,.sl 4 (aJ a.terms)]/\hh 4=.bx [I 0,.emp]/\hh 6=t2 v' c'/\(∀a,a≠2->a≠3->a≠4->a≠6->hh a=.dead)/\pJ c' (T.map aCA):=by
 intro k;induction k with
 |zero=>
  intro i hi c hc s h h2 h4 h6 h18 h19 h20 k2 k3 k4 k6;have e1:((i:Int)<T.length)=False:=ff;rw[ayt ω]at hc;have ho:=aEp (v:=v') hc [2,3,4,6];rw[ag];refine⟨?hh0,c,?_,?_,?_,?_,?_,hc⟩;rotate_left
  ·simp only[Tj,go_sem,h2,h4,h6,h18,h19,h20,k2,k3,k4,k6,ho,ho3,e1];rfl
  ·rfl
  ·rfl
  ·rfl
  ·intro a a1 a2 a3 a4;simp only[cV,a1,a2,a3,a4,if_false]
 |succ k ih=>
  intro i hi c hc s h h2 h4 h6 h18 h19 h20 k2 k3 k4 k6;have hlt:i<T.length:=ω
  have e1:((i:Int)<T.length)=True:=tt;have e2:aX (aJ T) (i:Int)=some (.ipt (bL T[i])):=fY rfl (List.getElem?_eq_getElem hlt);have e5:IntKind.i64.wrap ((i:Int)+1)=((i+1:Nat):Int):=wi;have hng:=aEw (hT _ (ayC hlt));have ho:=aEp (v:=v') hc [2,3,4,6];have ih':=ih (i+1) ω;rw[List.take_succ_eq_append_getElem hlt,List.map_append,List.map_singleton]at ih';have hlen:((T.take i).map aCA).length=i:=by rw[List.length_map,ayo];omega
  generalize T[i]=t at e2 hng ih';generalize(T.take i).map aCA=l at hc ih' hlen;rw[ag];generalize ax _ _ _=L at ih'⊢;simp only[ae,ah,aCA]at hng;simp only[bL]at e2;rcases hc with rfl| ⟨rfl,rfl⟩
  ·simp only[t2]at k6;have b1:((l.length+1)*64<=140737488355328)=True:=tt;simp only[Tj,go_sem,h2,h4,h6,h18,h19,h20,k2,k3,k4,k6,ho3,e1,e2,hng,b1,true_or];rw[if_pos (by rfl),Dk rfl (by rw[ay5,tE];rfl) rfl δ (by show 1<2;decide)];simp only[go_sem,e5];refine(ih' (.osl 4 (aJ l++[[.sl 1 (aO t.exps),B (!t.c.neg),lm t.c.m,I t.c.e]])) (.inl ?_) _ _ ?_ ?_ ?_ ?_ ?_ ?_ ?_ ?_ ?_ ?_).imp fun hh ⟨c',q⟩=>⟨c',q⟩
   ·simp[aJ,bL,aCA]
   all_goals rfl
  ·simp only[t2]at k6;simp only[Tj,go_sem,h2,h4,h6,h18,h19,h20,k2,k3,k4,k6,ho3,e1,e2,hng];rw[if_pos (by rfl),Dk rfl (show 1=List.length [[AV.sl 1 (aO t.exps),B (!t.c.neg),lm t.c.m,I t.c.e]]from rfl) rfl δ (by show 1<2;decide)];simp only[go_sem,e5];refine(ih' (.osl 4 [[.sl 1 (aO t.exps),B (!t.c.neg),lm t.c.m,I t.c.e]]) (.inl ?_) _ _ ?_ ?_ ?_ ?_ ?_ ?_ ?_ ?_ ?_ ?_).imp fun hh ⟨c',q⟩=>⟨c',q⟩
   all_goals rfl
theorem aEL{v v':Int}{a:Rp}{T:List Rt}(hT:∀t∈T,VT v t)(hn:T.length<=100000){o3:Ob}(ho3:aD [2,3,4,6] o3=true)(s:ak)(h:ac)(X:Option (Ex×St))(hX:ai 0 [2,4,6] (ax (aj R (az false) Tj) [2,4,6,18,19,20] [2,3,4,6] s h)=X)
  (h2:s 2=.ref 2 none 0 0 0) (h4:s 4=.ref 4 none 0 0 0) (h6:s 6=.ref 6 none 0 0 0) (h18:s 18=.sl 4 (aJ T)) (h19:s 19=I T.length) (h20:s 20=I 0) (k2:h 2=.bx [I a.vars,.sl 4 (aJ a.terms)]) (k3:h 3=o3) (k4:h 4=.bx [I 0,.emp]) (k6:h 6=.bx [I v',.emp]):
  ∃hh c',X=some (.normal,⟨upd (upd (upd (fun _=>.any) 6 (.ref 6 none 0 0 0)) 4 (.ref 4 none 0 0 0)) 2 (.ref 2 none 0 0 0),hh⟩)/\
   hh 2=.bx [I a.vars,.sl 4 (aJ a.terms)]/\hh 4=.bx [I 0,.emp]/\hh 6=t2 v' c'/\(∀a,a≠2->a≠3->a≠4->a≠6->hh a=.dead)/\pJ c' (T.map aCA):=by
 subst hX;exact aEe hT hn ho3 T.length 0 (ayc _) .emp (.inr ⟨rfl,rfl⟩) s h h2 h4 h6 h18 h19 h20 k2 k3 k4 k6
theorem aEx{a b:Rp}(_oa:OkP a)(ob:OkP b)(h:FJ a b=true):OkP ⟨b.vars,b.terms.map aCA⟩/\Kl a ⟨b.vars,b.terms.map aCA⟩=aC2 a b:=by
 obtain⟨va,vb,hv⟩:=Ci.1 h;obtain⟨cb,b0,b8,bl⟩:=lE ob vb;have hp:∀l:List Rt,Cl b.vars l->Cl b.vars (l.map aCA):=by
  intro l;induction l with
  |nil=>exact fun c=>c
  |cons t l ih=>
   intro c;obtain⟨c1,c2,c3⟩:=c.cons;refine Cl.mk' (aDS c1) (fun x hx=>?_) (ih c3);obtain⟨q,hq,rfl⟩:=List.mem_map.1 hx;exact c2 q hq
 have hn:=hp _ cb;refine⟨iW hn,?_⟩;have h2:FJ a ⟨b.vars,b.terms.map aCA⟩=true:=Ci.2 ⟨va,Li hn b0 b8 (by rw[List.length_map];exact bl),hv⟩;unfold Kl aC2;rw[if_pos h2,if_pos h]
theorem aEy{a b:Rp}(oa:OkP a)(ob:OkP b):R fco [aT a,aT b] []=some (pV (aC2 a b),[]):=by
 refine au aps rfl ?_;have hp:=aad oa ob;simp only[aT]at hp;cases hb:FJ a b with
 |false=>
  rw[hb]at hp;unfold aC2;rw[hb,if_neg ayl];simp only[Yv,abZ,aT,go_sem,hp];rfl
 |true=>
  rw[hb]at hp;obtain⟨va,vb,hv⟩:=Ci.1 hb;obtain⟨cb,b0,b8,bl⟩:=lE ob vb;obtain⟨on,e1⟩:=aEx oa ob hb;have hadd:=akm oa on;rw[e1]at hadd;have hl:=aEL (v':=b.vars) (a:=a) (T:=b.terms) cb.t ω (o3:=.bx [I b.vars,.sl 4 (aJ b.terms)]) rfl;simp only[Yv,abZ,aT,go_sem,hp];generalize hX:ai 0 [2,4,6] _=X;obtain⟨hh,c',rfl,q2,q3,q4,q5,q6⟩:=hl _ _ _ hX rfl rfl rfl rfl rfl rfl rfl rfl rfl rfl;have d1:hh 2304=.dead:=q5 _ δ δ δ δ;have d2:hh 2305=.dead:=q5 _ δ δ δ δ;generalize aC2 a b=r at hadd⊢;obtain⟨r1,r2⟩:=r;simp only[pV,aT]at hadd;rcases q6 with rfl| ⟨rfl,q6⟩
  ·simp only[t2]at q4;simp only[pV,aT,go_sem,q2,q3,q4,d1,d2,Am,yr,hadd]
  ·simp only[t2]at q4;rw[q6]at hadd;rw[show aJ []=[]from rfl]at hadd;simp only[pV,aT,go_sem,q2,q3,q4,d1,d2,hadd]
theorem lmB(m:List Nat):(aB m).map (fun r=>match r with|[.v (.int _ x)]=>x.toNat|_=>0)=m:=by
 grind[aB,List.map_map,ayM,ayY]
theorem izB(m:List Int):(aO m).map (fun r=>match r with|[.v (.int _ x)]=>x|_=>0)=m:=by
 grind[aO,List.map_map,ayM,ayY]
def tmB:List AV->Rt
 |[.sl _ m1,.v (.bool n2),.sl _ m2,.v (.int _ e2)]=>⟨m1.map (fun r=>match r with|[.v (.int _ x)]=>x|_=>0),⟨n2,m2.map (fun r=>match r with|[.v (.int _ x)]=>x.toNat|_=>0),e2⟩⟩
 |_=>⟨[],aH⟩
theorem apE(t:Rt):tmB (bL t)=t:=by
 show(⟨(aO t.exps).map _,⟨t.c.neg,(aB t.c.m).map _,t.c.e⟩⟩:Rt)=t;rw[lmB,izB]
def plC(a:Rp):List AV:=[I a.vars,.sl 4 (aJ a.terms)]
def plR(l:List Rp):List (List AV):=l.map plC
@[go_sem] theorem av9(l:List Rp):(plR l).length=l.length:=by simp[plR]
@[go_sem] theorem atF(l:List Rt):(aJ l).map (dQ [.o 2 [],.o 0 [],.o 0 [],.o 0 []])=aJ l:=by
 refine rp fun x hx=>?_;simp only[aJ,ay2]at hx;obtain⟨t,ht,rfl⟩:=hx;simp only[bL,go_sem]
@[go_sem] theorem awa(l:List Rp):(plR l).map (dQ [.o 0 [],.o 5 [.o 2 [],.o 0 [],.o 0 [],.o 0 []]])=plR l:=by
 refine rp fun x hx=>?_;simp only[plR,ay2]at hx;obtain⟨t,ht,rfl⟩:=hx;simp only[plC,go_sem]
structure Res (r:Rp×Int):Prop where
 cl:Cl r.1.vars r.1.terms
 len:r.1.terms.length<=100000
 z:r.2=0\/r.1=p0
theorem aag(l:List Int)(n:Nat)(x:Int):(aO l).set n [I x]=aO (l.set n x):=by simp[aO,List.map_set]
theorem ah2{a b:List Int}{i:Nat}{x y:Int}(hx:a[i]?=some x)(hy:b[i]?=some y):(mE a b)[i]?=some (x+y):=by
 unfold mE;rw[List.getElem?_zipWith,hx,hy]
def I1(a b:List Int)(i:Nat):List Int:=(mE a b).take i++a.drop i
theorem akp{a b:List Int}(h:a.length=b.length){i:Nat}{x:Int}(hx:a[i]?=some x):(I1 a b i)[i]?=some x:=by
 have hlt:=(List.getElem?_eq_some_iff.1 hx).1;unfold I1;rw[List.getElem?_append_right (by rw[ayo,yq h];omega),ayo,yq h,List.getElem?_drop,show i+(i-min i a.length)=i by omega];exact hx
theorem akq{a b:List Int}(h:a.length=b.length){i:Nat}{x y:Int}(hx:a[i]?=some x)(hy:b[i]?=some y):(I1 a b i).set i (x+y)=I1 a b (i+1):=by
 have hlt:=(List.getElem?_eq_some_iff.1 hx).1;have hg:=ah2 hx hy;have hlen:=yq h;unfold I1;have ht:((mE a b).take i).length=i:=by rw[ayo];omega
 rw[List.set_append_right _ _ ω,ht,Nat.sub_self,ayv hlt,List.set_cons_zero,List.take_succ_eq_append_getElem (by omega:i< (mE a b).length),ayX];have:=(List.getElem?_eq_some_iff.1 hg).2;rw[this];rfl
theorem akr{a b:List Int}(h:a.length=b.length){i:Nat}(hi:a.length<=i):I1 a b i=mE a b:=by
 unfold I1;rw[ayt (by rw[yq h];omega),ayw hi,ayp]
theorem afg{v:Int}{p q:Rt}(vp:VT v p)(vq:VT v q){A Bt:List Rt}{nA iA nB iB:Int}{o2 o3 o4 o8 o10 o11 o2352:Ob}(c2:aD [2,3,4,8,10,11,2352,2576] o2=true)(c3:aD [2,3,4,8,10,11,2352,2576] o3=true)(c4:aD [2,3,4,8,10,11,2352,2576] o4=true)(c8:aD [2,3,4,8,10,11,2352,2576] o8=true)(c10:aD [2,3,4,8,10,11,2352,2576] o10=true)(c11:aD [2,3,4,8,10,11,2352,2576] o11=true)(cc:aD [2,3,4,8,10,11,2352,2576] o2352=true):
  ∀ (k i:Nat),i+k=p.exps.length->∀ (s:ak) (h:ac),s 3=.ref 3 none 0 0 0->s 4=.ref 4 none 0 0 0->s 6=.ref 2352 none 0 0 0->s 8=.ref 8 none 0 0 0->s 11=.ref 11 none 0 0 0->s 13=.rsl 2576 none 1 0 p.exps.length->s 46=.sl 4 (aJ A)->s 47=I nA->s 48=I iA->s 53=.sl 4 (aJ Bt)->s 54=I nB->s 55=I iB->s 74=.sl 1 (aO q.exps)->s 75=I q.exps.length->s 76=I i->h 2=o2->h 3=o3->h 4=o4->h 8=o8->h 10=o10->h 11=o11->h 2352=o2352->h 2576=.ar 1 (aO (I1 p.exps q.exps i))->
  ∃hh,ai 5 [3,4,6,8,11,13,46,47,48,53,54,55] (ax (aj R (az false) jL) [3,4,6,8,11,13,46,47,48,53,54,55,74,75,76] [2,3,4,8,10,11,2352,2576] s h)=some (.normal,⟨upd (upd (upd (upd (upd (upd (upd (upd (upd (upd (upd (upd (fun _=>.any) 55 (I iB)) 54 (I nB)) 53 (.sl 4 (aJ Bt))) 48 (I iA)) 47 (I nA)) 46 (.sl 4 (aJ A))) 13 (.rsl 2576 none 1 0 p.exps.length)) 11 (.ref 11 none 0 0 0)) 8 (.ref 8 none 0 0 0)) 6 (.ref 2352 none 0 0 0)) 4 (.ref 4 none 0 0 0)) 3 (.ref 3 none 0 0 0),hh⟩)/\
   hh 2=o2/\hh 3=o3/\hh 4=o4/\hh 8=o8/\hh 10=o10/\hh 11=o11/\hh 2352=o2352/\hh 2576=.ar 1 (aO (mE p.exps q.exps))/\∀a,a≠2->a≠3->a≠4->a≠8->a≠10->a≠11->a≠2352->a≠2576->hh a=.dead:=by
 have hl:=vp.l2 vq;have hs:=vp.ok.len;intro k;induction k with
 |zero=>
  intro i hi s h g3 g4 g6 g8 g11 g13 g46 g47 g48 g53 g54 g55 g74 g75 g76 k2 k3 k4 k8 k10 k11 k2352 k2576;have e1:((i:Int)< (q.exps.length:Int))=False:=ff;rw[akr hl ω]at k2576;rw[ag];refine⟨?hh0,?_,?_,?_,?_,?_,?_,?_,?_,?_,?_⟩;rotate_left
  ·simp only[jL,go_sem,g3,g4,g6,g8,g11,g13,g46,g47,g48,g53,g54,g55,g74,g75,g76,k2,k3,k4,k8,k10,k11,k2352,k2576,c2,c3,c4,c8,c10,c11,cc,e1];rfl
  all_goals first|rfl| (intro a a1 a2 a3 a4 a5 a6 a7 a8;simp only[cV,a1,a2,a3,a4,a5,a6,a7,a8,if_false])
 |succ k ih=>
  intro i hi s h g3 g4 g6 g8 g11 g13 g46 g47 g48 g53 g54 g55 g74 g75 g76 k2 k3 k4 k8 k10 k11 k2352 k2576;have hlt:i<p.exps.length:=ω
  have hlt2:i<q.exps.length:=ω
  have e1:((i:Int)< (q.exps.length:Int))=True:=tt;have hq:q.exps[i]?=some q.exps[i]:=List.getElem?_eq_getElem hlt2;have hp:p.exps[i]?=some p.exps[i]:=List.getElem?_eq_getElem hlt;have e2:aX (aO q.exps) (i:Int)=some (.ipt [I q.exps[i]]):=oR rfl hq;have e3:=akp hl hp (b:=q.exps);have e3':(aO (I1 p.exps q.exps i))[i]?=some [I p.exps[i]]:=by simp[aO,e3]
  have e4:=akq hl hp hq;have b1:=vp.b _ (ayC hlt);have b2:=vq.b _ (ayC hlt2);have e5:IntKind.i64.wrap ((i:Int)+1)=((i+1:Nat):Int):=wi;have e6:(0<=(i:Int)/\(i:Int)< (p.exps.length:Int))=True:=eq_true ⟨by omega,by omega⟩;have e7:IntKind.i64.wrap (p.exps[i]+q.exps[i])=p.exps[i]+q.exps[i]:=i64_in _ ⟨by omega,by omega⟩;have ih':=ih (i+1) ω;rw[←e4,←aag]at ih';generalize p.exps[i]=x at e3' e7 ih';generalize q.exps[i]=y at e2 e7 ih';rw[ag];generalize ax _ _ _=L at ih'⊢;simp only[jL,go_sem,g3,g4,g6,g8,g11,g13,g46,g47,g48,g53,g54,g55,g74,g75,g76,k2,k3,k4,k8,k10,k11,k2352,k2576,c2,c3,c4,c8,c10,c11,cc,e1,e2,e3',e5,e6,e7,ayk,ayc];exact ih' _ _ rfl rfl rfl rfl rfl rfl rfl rfl rfl rfl rfl rfl rfl rfl rfl rfl rfl rfl rfl rfl rfl rfl rfl
theorem amR{v:Int}{p q:Rt}(vp:VT v p)(vq:VT v q){A Bt:List Rt}{nA iA nB iB:Int}{o2 o3 o4 o8 o10 o11 o2352:Ob}(s:ak)(h:ac)(X:Option (Ex×St))(hX:ai 5 [3,4,6,8,11,13,46,47,48,53,54,55] (ax (aj R (az false) jL) [3,4,6,8,11,13,46,47,48,53,54,55,74,75,76] [2,3,4,8,10,11,2352,2576] s h)=X)
  (g3:s 3=.ref 3 none 0 0 0) (g4:s 4=.ref 4 none 0 0 0) (g6:s 6=.ref 2352 none 0 0 0) (g8:s 8=.ref 8 none 0 0 0) (g11:s 11=.ref 11 none 0 0 0) (g13:s 13=.rsl 2576 none 1 0 p.exps.length) (g46:s 46=.sl 4 (aJ A)) (g47:s 47=I nA) (g48:s 48=I iA) (g53:s 53=.sl 4 (aJ Bt)) (g54:s 54=I nB) (g55:s 55=I iB) (g74:s 74=.sl 1 (aO q.exps)) (g75:s 75=I q.exps.length) (g76:s 76=I 0) (k2:h 2=o2) (k3:h 3=o3) (k4:h 4=o4) (k8:h 8=o8) (k10:h 10=o10) (k11:h 11=o11) (k2352:h 2352=o2352) (k2576:h 2576=.ar 1 (aO p.exps)) (c2:aD [2,3,4,8,10,11,2352,2576] o2=true) (c3:aD [2,3,4,8,10,11,2352,2576] o3=true) (c4:aD [2,3,4,8,10,11,2352,2576] o4=true) (c8:aD [2,3,4,8,10,11,2352,2576] o8=true) (c10:aD [2,3,4,8,10,11,2352,2576] o10=true) (c11:aD [2,3,4,8,10,11,2352,2576] o11=true) (c2352:aD [2,3,4,8,10,11,2352,2576] o2352=true):
  ∃hh,X=some (.normal,⟨upd (upd (upd (upd (upd (upd (upd (upd (upd (upd (upd (upd (fun _=>.any) 55 (I iB)) 54 (I nB)) 53 (.sl 4 (aJ Bt))) 48 (I iA)) 47 (I nA)) 46 (.sl 4 (aJ A))) 13 (.rsl 2576 none 1 0 p.exps.length)) 11 (.ref 11 none 0 0 0)) 8 (.ref 8 none 0 0 0)) 6 (.ref 2352 none 0 0 0)) 4 (.ref 4 none 0 0 0)) 3 (.ref 3 none 0 0 0),hh⟩)/\hh 2=o2/\hh 3=o3/\hh 4=o4/\hh 8=o8/\hh 10=o10/\hh 11=o11/\hh 2352=o2352/\hh 2576=.ar 1 (aO (mE p.exps q.exps))/\∀a,a≠2->a≠3->a≠4->a≠8->a≠10->a≠11->a≠2352->a≠2576->hh a=.dead:=by
 subst hX;have hc:I1 p.exps q.exps 0=p.exps:=by simp[I1]
 rw[←hc]at k2576;exact afg vp vq c2 c3 c4 c8 c10 c11 c2352 p.exps.length 0 (ayc _) s h g3 g4 g6 g8 g11 g13 g46 g47 g48 g53 g54 g55 g74 g75 g76 k2 k3 k4 k8 k10 k11 k2352 k2576
theorem ColE.stepN{v:Int}{l:List Rt}{t:Rt}{c:AV}(hc:pJ c l){e:Int}(he:e=0\/e=9)(N:Nat)(hC:e=0->Cl v l/\l.length+N+1<=1000000)(vt:VT v t){v':Int}:
  ∃c1 l1 e1,R fcs [.ref 1000 none 0 0 0,.sl 1 (aO t.exps),ae t.c] [t3 v' c e]=some (.tup [],[t3 v' c1 e1])/\pJ c1 l1/\(e1=0\/e1=9)/\(e1=0->Cl v l1/\l1.length+N<=1000000)/\∀ts c' l' e',ColE v l1 ts e1 c' l' e'->ColE v l (t::ts) e c' l' e':=by
 obtain⟨c1,l1,e1,g1,g2,g3,g4,_⟩:=ColE.step (ts:=aya N t) hc he (by rw[azc];exact hC) vt (v':=v');rw[azc]at g4;refine⟨c1,l1,e1,g1,g2,g3,g4,fun ts c' l' e' h=>?_⟩;rcases he with rfl|rfl
 ·obtain⟨h1,h2⟩:=hC rfl;obtain⟨c2,l2,e2,k1,k2,k3⟩:=Q8 (v':=v') h1 vt ω hc;rw[k1]at g1;simp only[Option.some.injEq,Prod.mk.injEq,List.cons.injEq,and_true,true_and,t3,Ob.bx.injEq,AV.v.injEq,Value.int.injEq]at g1;obtain⟨rfl,rfl⟩:=g1;have hl:l2=l1:=by
   rcases k2 with rfl| ⟨rfl,rfl⟩
   ·rcases g2 with g2| ⟨g2,_⟩
    ·simp only[AV.osl.injEq,true_and]at g2;have:=congrArg (List.map tmB) g2;unfold aJ at this;rw[List.map_map,List.map_map]at this;have hid:∀l:List Rt,l.map (tmB∘bL)=l:=fun l=>(ayM (g:=fun c=>c) fun x _=>apE x).trans (ayY l);rw[hid,hid]at this;exact this
    ·cases g2
   ·rcases g2 with g2| ⟨_,g2⟩
    ·cases g2
    ·exact g2.symm
  subst hl;refine⟨h.c,?_⟩;rcases k3 with⟨g,k⟩| ⟨g,k,_⟩
  ·subst g;rcases h.r with⟨q1,_,q2⟩| ⟨q1,q2⟩
   ·refine .inl ⟨q1,rfl,?_⟩;unfold oE;rw[k];exact q2
   ·refine .inr ⟨q1,fun _=>?_⟩;unfold oE;rw[k];exact q2 rfl
  ·subst g;rcases h.r with⟨_,q1,_⟩| ⟨q1,_⟩
   ·omega
   ·refine .inr ⟨q1,fun _=>?_⟩;unfold oE;rw[k];rfl
 ·refine⟨h.c,?_⟩;have:=W8 (v:=v') (x:=.sl 1 (aO t.exps)) (d:=t.c) hc (by decide:(9:Int)≠0);rw[this]at g1;simp only[Option.some.injEq,Prod.mk.injEq,List.cons.injEq,and_true,true_and,t3,Ob.bx.injEq,AV.v.injEq,Value.int.injEq]at g1;obtain⟨_,rfl⟩:=g1;rcases h.r with⟨_,q1,_⟩| ⟨q1,_⟩
  ·omega
  ·exact .inr ⟨q1,fun h=>by omega⟩
def Ic(blk:Option (Ex×St))(S:ak)(o2 o3:Ob)(v v':Int)(l:List Rt)(e:Int):Option (List Rt)->Prop
 |some r=>∃hh c' l' e',blk=some (.normal,⟨S,hh⟩)/\hh 2=o2/\hh 3=o3/\hh 4=.bx [I 0,.emp]/\hh 2352=t3 v' c' e'/\(∀a,a≠2->a≠3->a≠4->a≠8->a≠2352->hh a=.dead)/\ColE v l r e c' l' e'
 |none=>∃hh,blk=some (.ret,⟨upd (upd (fun _=>.any) 5 (I 9)) 4 (.ref 4 none 0 0 0),hh⟩)/\hh 4=.bx [I 0,.emp]
theorem afh{v v':Int}{p:Rt}(vp:VT v p){A Bt:List Rt}(hB:∀q∈Bt,VT v q/\bj p.exps+bj q.exps<=32)(hn:Bt.length<=100000){nA iA:Int}{o2:Ob}(c2:∀ids,aD ids o2=true){vb:Int}:
  ∀ (k i:Nat),i+k=Bt.length->∀ (c:AV) (l:List Rt) (e:Int),pJ c l->(e=0\/e=9)->(e=0->Cl v l/\l.length+k<=1000000)->∀ (s:ak) (h:ac),s 3=.ref 3 none 0 0 0->s 4=.ref 4 none 0 0 0->s 6=.ref 2352 none 0 0 0->s 8=.ref 8 none 0 0 0->s 46=.sl 4 (aJ A)->s 47=I nA->s 48=I iA->s 53=.sl 4 (aJ Bt)->s 54=I Bt.length->s 55=I i->h 2=o2->h 3=.bx [I vb,.sl 4 (aJ Bt)]->h 4=.bx [I 0,.emp]->h 8=.bx (bL p)->h 2352=t3 v' c e->
  Ic (ai 3 [3,4,6,46,47,48] (ax (aj R (az false) jM) [3,4,6,8,46,47,48,53,54,55] [2,3,4,8,2352] s h)) (upd (upd (upd (upd (upd (upd (fun _=>.any) 48 (I iA)) 47 (I nA)) 46 (.sl 4 (aJ A))) 6 (.ref 2352 none 0 0 0)) 4 (.ref 4 none 0 0 0)) 3 (.ref 3 none 0 0 0)) o2 (.bx [I vb,.sl 4 (aJ Bt)]) v v' l e (nQ p (Bt.drop i)):=by
 intro k;induction k with
 |zero=>
  intro i hi c l e hc he hC s h g3 g4 g6 g8 g46 g47 g48 g53 g54 g55 k2 k3 k4 k8 k2352;have e1:((i:Int)< (Bt.length:Int))=False:=ff;have ho:=(kP (v:=v') (e:=e) hc).cl [2,3,4,8,2352];have ho2:=c2 [2,3,4,8,2352];rw[ayw ω,ag];simp only[bL]at k8;refine⟨?hh0,c,l,e,?_,?_,?_,?_,?_,?_,⟨hc,?_⟩⟩;rotate_left
  ·simp only[jM,go_sem,g3,g4,g6,g8,g46,g47,g48,g53,g54,g55,k2,k3,k4,k8,k2352,ho,ho2,e1];rfl
  ·rfl
  ·rfl
  ·rfl
  ·rfl
  ·intro a a1 a2 a3 a4 a5;simp only[cV,a1,a2,a3,a4,a5,if_false]
  ·rcases he with rfl|rfl
   ·exact .inl ⟨rfl,rfl,rfl⟩
   ·exact .inr ⟨rfl,fun h=>by omega⟩
 |succ k ih=>
  intro i hi c l e hc he hC s h g3 g4 g6 g8 g46 g47 g48 g53 g54 g55 k2 k3 k4 k8 k2352;have hlt:i<Bt.length:=ω
  have e1:((i:Int)< (Bt.length:Int))=True:=tt;have e2:aX (aJ Bt) (i:Int)=some (.ipt (bL Bt[i])):=fY rfl (List.getElem?_eq_getElem hlt);have e5:IntKind.i64.wrap ((i:Int)+1)=((i+1:Nat):Int):=wi;have ho:=(kP (v:=v') (e:=e) hc).cl;obtain⟨vq,hd⟩:=hB _ (ayC hlt);have hmul:=Q2 vp.c vq.c;have hdl:(Bt.drop (i+1)).length=k:=by rw[azd];omega
  rw[ayv hlt];have ih':=ih (i+1) ω;have hrow:∀q ts,nQ p (q::ts)=(Ia p q).bind fun x=>(nQ p ts).map (x::·):=fun q ts=>rfl;rw[hrow];generalize hqq:Bt[i]=q at e2 vq hd hmul⊢;have hVT:=fun x=>Xc (x:=x) vp vq hd;rw[ag];generalize ax _ _ _=L at ih'⊢;unfold Ia at hVT⊢;have ho1:=ho [2,3,4,8,2352];have ho2:=c2 [2,3,4,8,2352];have hle:=vp.l2 vq;simp only[bL]at k8 e2;generalize fS p.c q.c=m at hmul hVT⊢;obtain⟨m,em⟩:=m;simp only[rV,ae,ah]at hmul;by_cases hm:em=0
  ·subst hm;simp only[if_true,ayi]at hVT⊢;have vx:=hVT _ rfl;obtain⟨c1,l1,e1',s1,s2,s3,s4,s5⟩:=ColE.stepN (t:=⟨mE p.exps q.exps,m⟩) hc he k (fun h=>by have:=hC h;exact⟨this.1,by omega⟩) vx (v':=v');have ih2:=ih' c1 l1 e1' s2 s3 s4;have hcall:=fun(h:ac) (hh:h 2352=t3 v' c e) (d:Nat)=>dy (aS.1.2.1 false) rfl (pK (d:=d) hh hc s2 s1);simp only[ae,ah]at hcall;have hpush:∀ (S:ak) (H:ac),Ic (ai 3 [3,4,6,46,47,48] (L S H)) (upd (upd (upd (upd (upd (upd (fun _=>.any) 48 (I iA)) 47 (I nA)) 46 (.sl 4 (aJ A))) 6 (.ref 2352 none 0 0 0)) 4 (.ref 4 none 0 0 0)) 3 (.ref 3 none 0 0 0)) o2 (.bx [I vb,.sl 4 (aJ Bt)]) v v' l1 e1' (nQ p (Bt.drop (i+1)))->Ic (ai 3 [3,4,6,46,47,48] (L S H)) (upd (upd (upd (upd (upd (upd (fun _=>.any) 48 (I iA)) 47 (I nA)) 46 (.sl 4 (aJ A))) 6 (.ref 2352 none 0 0 0)) 4 (.ref 4 none 0 0 0)) 3 (.ref 3 none 0 0 0)) o2 (.bx [I vb,.sl 4 (aJ Bt)]) v v' l e ((nQ p (Bt.drop (i+1))).map (⟨mE p.exps q.exps,m⟩::·)):=fun S H h=>by
    cases hr:nQ p (Bt.drop (i+1))with
    |none=>rw[hr]at h;exact h
    |some r=>
     rw[hr]at h;obtain⟨hh,c',l',e',q1,q2,q3,q4,q5,q6,q7⟩:=h;exact⟨hh,c',l',e',q1,q2,q3,q4,q5,q6,s5 _ _ _ _ q7⟩
   cases hx:p.exps with
   |nil=>
    have hcl:R fdF [lm []] []=some (lm [],[]):=SK;have hq0:q.exps=[]:=List.length_eq_zero_iff.1 (by rw[←hle,hx];rfl);rw[hx]at hpush;rw[hx,hq0]at hcall;rw[hx]at k8;rw[hq0]at e2;have i0:aO []=[]:=rfl;have a0:mE [] []=[]:=rfl;have z0:((0:Int)<0)=False:=ff δ;have ho2':=c2 [2,3,4,8,10,11,2352,2576];have ho1':=ho [2,3,4,8,10,11,2352,2576];rw[i0]at k8 e2;rw[a0,i0,amm]at hcall;simp only[jM,go_sem,g3,g4,g6,g8,g46,g47,g48,g53,g54,g55,k2,k3,k4,k8,k2352,ho1,ho2,e1,e2,hmul,hcl,ayR,ayO];rw[ag];simp only[jL,go_sem,ho1',ho2',z0];rw[hcall _ rfl];simp only[go_sem,e5];refine hpush _ _ (ih2 _ _ rfl rfl rfl rfl rfl rfl rfl rfl rfl rfl rfl rfl rfl ?_ rfl);simp only[bL,hx];rfl
   |cons x xs=>
    have hcl:R fdF [.sl 1 (aO p.exps)] []=some (.osl 1 (aO p.exps),[]):=by
     rw[hx];exact SL (by have:=vp.ok.len;rw[hx]at this;simp at this;omega)
    rw[←hx];have hX0:=amR vp vq (A:=A) (Bt:=Bt) (nA:=nA) (iA:=iA) (nB:=(Bt.length:Int)) (iB:=(i:Int)) (o2:=o2) (o3:=.bx [I vb,.sl 4 (aJ Bt)]) (o4:=.bx [I 0,.emp]) (o8:=.bx [.sl 1 (aO p.exps),B p.c.neg,lm p.c.m,I p.c.e]) (o10:=.bx [.sl 1 (aO q.exps),B q.c.neg,lm q.c.m,I q.c.e]) (o11:=.bx [B m.neg,lm m.m,I m.e]) (o2352:=t3 v' c e);have k9:(aO (mE p.exps q.exps)).take p.exps.length=aO (mE p.exps q.exps):=ayt (by rw[Dw,yq hle];exact ayd _);have k8l:(mE p.exps q.exps).length=p.exps.length:=yq hle;simp only[jM,go_sem,g3,g4,g6,g8,g46,g47,g48,g53,g54,g55,k2,k3,k4,k8,k2352,ho1,ho2,e1,e2,hmul,hcl];generalize hXX:ai 5 _ _=X;obtain⟨hh,rfl,q2,q3,q4,q8,q10,q11,qc,q25,qd⟩:=hX0 _ _ _ hXX rfl rfl rfl rfl rfl rfl rfl rfl rfl rfl rfl rfl rfl rfl rfl rfl rfl rfl rfl rfl rfl rfl rfl (c2 _) rfl rfl rfl rfl rfl (ho _);simp only[go_sem,q11,q25,k9,k8l,ayc,ayd];rw[hcall (upd hh 2576 (.fz 1 (aO (mE p.exps q.exps)))) (by rw[cV,if_neg δ];exact qc)];simp only[go_sem,e5];refine hpush _ _ (ih2 _ _ ?_ ?_ ?_ ?_ ?_ ?_ ?_ ?_ ?_ ?_ ?_ ?_ ?_ ?_ ?_)
    all_goals first|rfl| (simp only[cV,Nat.reduceEqDiff,↓reduceIte,q2,q3,q4,q8];done)| (simp only[cV,Nat.reduceEqDiff,↓reduceIte,q8];rfl)
  ·have f1:(em=0)=False:=ff hm;simp only[if_neg hm,Option.bind_none];refine⟨?hh1,?_,?_⟩;rotate_left
   ·simp only[jM,go_sem,g3,g4,g6,g8,g46,g47,g48,g53,g54,g55,k2,k3,k4,k8,k2352,ho1,ho2,e1,e2,hmul,f1];rfl
   ·rfl
theorem amS{v v':Int}{p:Rt}(vp:VT v p){A Bt:List Rt}(hB:∀q∈Bt,VT v q/\bj p.exps+bj q.exps<=32)(hn:Bt.length<=100000){nA iA:Int}{o2:Ob}(c2:∀ids,aD ids o2=true){vb:Int}
  {c:AV} {l:List Rt} {e:Int} (hc:pJ c l) (he:e=0\/e=9) (hC:e=0->Cl v l/\l.length+Bt.length<=1000000) (s:ak) (h:ac) (X:Option (Ex×St)) (hX:ai 3 [3,4,6,46,47,48] (ax (aj R (az false) jM) [3,4,6,8,46,47,48,53,54,55] [2,3,4,8,2352] s h)=X)
  (g3:s 3=.ref 3 none 0 0 0) (g4:s 4=.ref 4 none 0 0 0) (g6:s 6=.ref 2352 none 0 0 0) (g8:s 8=.ref 8 none 0 0 0) (g46:s 46=.sl 4 (aJ A)) (g47:s 47=I nA) (g48:s 48=I iA) (g53:s 53=.sl 4 (aJ Bt)) (g54:s 54=I Bt.length) (g55:s 55=I 0) (k2:h 2=o2) (k3:h 3=.bx [I vb,.sl 4 (aJ Bt)]) (k4:h 4=.bx [I 0,.emp]) (k8:h 8=.bx [.sl 1 (aO p.exps),B p.c.neg,lm p.c.m,I p.c.e]) (k2352:h 2352=t3 v' c e):
  Ic X (upd (upd (upd (upd (upd (upd (fun _=>.any) 48 (I iA)) 47 (I nA)) 46 (.sl 4 (aJ A))) 6 (.ref 2352 none 0 0 0)) 4 (.ref 4 none 0 0 0)) 3 (.ref 3 none 0 0 0)) o2 (.bx [I vb,.sl 4 (aJ Bt)]) v v' l e (nQ p Bt):=by
 subst hX;exact afh vp hB hn c2 Bt.length 0 (ayc _) c l e hc he hC s h g3 g4 g6 g8 g46 g47 g48 g53 g54 g55 k2 k3 k4 k8 k2352
theorem ColE.app{v:Int}{l r r2:List Rt}{e:Int}{c1:AV}{l1:List Rt}{e1:Int}{c':AV}{l':List Rt}{e':Int}(h1:ColE v l r e c1 l1 e1)(h2:ColE v l1 r2 e1 c' l' e'):ColE v l (r++r2) e c' l' e':=by
 refine⟨h2.c,?_⟩;rw[W0];rcases h1.r with⟨a1,a2,a3⟩| ⟨a1,a2⟩
 ·rw[a3];rcases h2.r with⟨b1,b2,b3⟩| ⟨b1,b2⟩
  ·exact .inl ⟨b1,a2,b3⟩
  ·exact .inr ⟨b1,fun _=>b2 a1⟩
 ·rcases h2.r with⟨b1,b2,b3⟩| ⟨b1,b2⟩
  ·omega
  ·exact .inr ⟨b1,fun h=>by rw[a2 h];rfl⟩
theorem ColE.nx{v:Int}{l r:List Rt}{e:Int}{c1:AV}{l1:List Rt}{e1:Int}(h:ColE v l r e c1 l1 e1)(hC:e=0->Cl v l)(hr:∀t∈r,VT v t):(e1=0\/e1=9)/\(e1=0->e=0/\Cl v l1/\l1.length<=l.length+r.length):=by
 rcases h.r with⟨a1,a2,a3⟩| ⟨a1,a2⟩
 ·exact⟨.inl a1,fun _=>⟨a2,Lj (hC a2) hr a3⟩⟩
 ·exact⟨.inr a1,fun h=>by omega⟩
theorem afi{v v':Int}{A Bt:List Rt}(hA:∀p∈A,VT v p)(hB:∀q∈Bt,VT v q)(hd:∀p∈A,∀q∈Bt,bj p.exps+bj q.exps<=32)(hn:Bt.length<=1000)(hm:A.length<=1000){o2:Ob}(c2:∀ids,aD ids o2=true){vb:Int}:
  ∀ (k i:Nat),i+k=A.length->∀ (c:AV) (l:List Rt) (e:Int),pJ c l->(e=0\/e=9)->(e=0->Cl v l/\l.length+k*Bt.length<=1000000)->∀ (s:ak) (h:ac),s 3=.ref 3 none 0 0 0->s 4=.ref 4 none 0 0 0->s 6=.ref 2352 none 0 0 0->s 46=.sl 4 (aJ A)->s 47=I A.length->s 48=I i->h 2=o2->h 3=.bx [I vb,.sl 4 (aJ Bt)]->h 4=.bx [I 0,.emp]->h 2352=t3 v' c e->
  Ic (ai 1 [4,6] (ax (aj R (az false) sB) [3,4,6,46,47,48] [2,3,4,2352] s h)) (upd (upd (fun _=>.any) 6 (.ref 2352 none 0 0 0)) 4 (.ref 4 none 0 0 0)) o2 (.bx [I vb,.sl 4 (aJ Bt)]) v v' l e (mf (A.drop i) Bt):=by
 intro k;induction k with
 |zero=>
  intro i hi c l e hc he hC s h g3 g4 g6 g46 g47 g48 k2 k3 k4 k2352;have e1:((i:Int)< (A.length:Int))=False:=ff;have ho:=(kP (v:=v') (e:=e) hc).cl [2,3,4,2352];have ho2:=c2 [2,3,4,2352];rw[ayw ω,ag];refine⟨?hh0,c,l,e,?_,?_,?_,?_,?_,?_,⟨hc,?_⟩⟩;rotate_left
  ·simp only[sB,go_sem,g3,g4,g6,g46,g47,g48,k2,k3,k4,k2352,ho,ho2,e1];rfl
  ·rfl
  ·rfl
  ·rfl
  ·rfl
  ·intro a a1 a2 a3 a4 a5;simp only[cV,a1,a2,a3,a5,if_false]
  ·rcases he with rfl|rfl
   ·exact .inl ⟨rfl,rfl,rfl⟩
   ·exact .inr ⟨rfl,fun h=>by omega⟩
 |succ k ih=>
  intro i hi c l e hc he hC s h g3 g4 g6 g46 g47 g48 k2 k3 k4 k2352;have hlt:i<A.length:=ω
  have e1:((i:Int)< (A.length:Int))=True:=tt;have e2:aX (aJ A) (i:Int)=some (.ipt (bL A[i])):=fY rfl (List.getElem?_eq_getElem hlt);have e5:IntKind.i64.wrap ((i:Int)+1)=((i+1:Nat):Int):=wi;have ho:=(kP (v:=v') (e:=e) hc).cl;have vp:=hA _ (ayC hlt);have hdp:=hd _ (ayC hlt);rw[ayv hlt];have ih':=ih (i+1) ω;have hall:∀q ts,mf (q::ts) Bt=(nQ q Bt).bind fun r=>(mf ts Bt).map (r++·):=fun q ts=>rfl;rw[hall];generalize A[i]=p at e2 vp hdp⊢;have hl1:=amS vp (A:=A) (Bt:=Bt) (nA:=(A.length:Int)) (iA:=(i:Int)) (fun q hq=>⟨hB q hq,hdp q hq⟩) ω c2 (vb:=vb) (v':=v') hc he (fun h=>by have:=hC h;rw[Nat.succ_mul]at this;exact⟨this.1,by omega⟩);have hRV:=fun r=>Km (r:=r) vp (fun q hq=>⟨hB q hq,hdp q hq⟩);rw[ag];generalize ax _ _ _=L at ih'⊢;have ho1:=ho [2,3,4,2352];have ho2:=c2 [2,3,4,2352];simp only[bL]at e2;simp only[sB,go_sem,g3,g4,g6,g46,g47,g48,k2,k3,k4,k2352,ho1,ho2,e1,e2];generalize hXX:ai 3 _ _=X;have hM:=hl1 _ _ _ hXX rfl rfl rfl rfl rfl rfl rfl rfl rfl rfl rfl rfl rfl rfl rfl;cases hr:nQ p Bt with
  |none=>
   rw[hr]at hM;obtain⟨hh,rfl,q4⟩:=hM;refine⟨hh,?_,q4⟩;simp only[go_sem]
  |some r=>
   rw[hr]at hM;obtain⟨hh,c1,l1,e1',rfl,q2,q3,q4,qc,qd,qe⟩:=hM;obtain⟨w1,w2⟩:=hRV r hr;obtain⟨n1,n2⟩:=qe.nx (fun h=>(hC h).1) w1;have ih2:=ih' c1 l1 e1' qe.c n1 (fun h=>by
    obtain⟨m1,m2,m3⟩:=n2 h;have:=(hC m1).2;rw[Nat.succ_mul]at this;exact⟨m2,by omega⟩)
   simp only[ayi];have hpush:∀ (S:ak) (H:ac),Ic (ai 1 [4,6] (L S H)) (upd (upd (fun _=>.any) 6 (.ref 2352 none 0 0 0)) 4 (.ref 4 none 0 0 0)) o2 (.bx [I vb,.sl 4 (aJ Bt)]) v v' l1 e1' (mf (A.drop (i+1)) Bt)->Ic (ai 1 [4,6] (L S H)) (upd (upd (fun _=>.any) 6 (.ref 2352 none 0 0 0)) 4 (.ref 4 none 0 0 0)) o2 (.bx [I vb,.sl 4 (aJ Bt)]) v v' l e ((mf (A.drop (i+1)) Bt).map (r++·)):=fun S H h=>by
    cases hr2:mf (A.drop (i+1)) Bt with
    |none=>rw[hr2]at h;exact h
    |some r2=>
     rw[hr2]at h;obtain⟨hh,c',l',e',q1,q2,q3,q4,q5,q6,q7⟩:=h;exact⟨hh,c',l',e',q1,q2,q3,q4,q5,q6,qe.app q7⟩
   simp only[go_sem,e5];refine hpush _ _ (ih2 _ _ ?_ ?_ ?_ ?_ ?_ ?_ ?_ ?_ ?_ ?_)
   all_goals first|rfl|assumption
theorem amT{v v':Int}{A Bt:List Rt}(hA:∀p∈A,VT v p)(hB:∀q∈Bt,VT v q)(hd:∀p∈A,∀q∈Bt,bj p.exps+bj q.exps<=32)(hn:Bt.length<=500)(hm:A.length<=500){o2:Ob}(c2:∀ids,aD ids o2=true){vb:Int}
  (s:ak) (h:ac) (X:Option (Ex×St)) (hX:ai 1 [4,6] (ax (aj R (az false) sB) [3,4,6,46,47,48] [2,3,4,2352] s h)=X) (g3:s 3=.ref 3 none 0 0 0) (g4:s 4=.ref 4 none 0 0 0) (g6:s 6=.ref 2352 none 0 0 0) (g46:s 46=.sl 4 (aJ A)) (g47:s 47=I A.length) (g48:s 48=I 0) (k2:h 2=o2) (k3:h 3=.bx [I vb,.sl 4 (aJ Bt)]) (k4:h 4=.bx [I 0,.emp]) (k2352:h 2352=.bx [I v',.emp,I 0]):
  Ic X (upd (upd (fun _=>.any) 6 (.ref 2352 none 0 0 0)) 4 (.ref 4 none 0 0 0)) o2 (.bx [I vb,.sl 4 (aJ Bt)]) v v' [] 0 (mf A Bt):=by
 subst hX;exact afi hA hB hd ω ω c2 A.length 0 (ayc _) .emp [] 0 (.inr ⟨rfl,rfl⟩) (.inl rfl) (fun _=>⟨Cl.nil _,by
  have:A.length*Bt.length<=500*500:=Nat.mul_le_mul hm hn;show 0+_<=_;omega⟩) s h g3 g4 g6 g46 g47 g48 k2 k3 k4 k2352
theorem amU{v:Int}{t:Rt}(h:VT v t):0<=bj t.exps:=(Lm fun x hx=>(h.b x hx).1).1
theorem aah{a:Rp}(oa:OkP a):-1<=eX a/\eX a<=32:=by
 unfold eX;split
 ·rename_i h;cases hg:a.terms.getLast? with
  |none=>simp
  |some t=>
   have vt:=(lE oa h).1.t t (List.mem_of_getLast? hg);have:=amU vt;have:=vt.d;simp only[];omega
 ·omega
theorem aks{a b:Rp}(oa:OkP a)(ob:OkP b):R fck [aT a,aT b] []=some (pV (Bo a b),[]):=by
 refine au acf rfl ?_;have hp:=aad oa ob;have hda:=FH oa;have hdb:=FH ob;have bda:=aah oa;have bdb:=aah ob;simp only[aT]at hp hda hdb;unfold Bo;cases hb:FJ a b with
 |false=>
  rw[hb]at hp;rw[if_neg ayl];simp only[pT,vH,aT,go_sem,hp];rfl
 |true=>
  rw[hb]at hp;rw[if_pos rfl];obtain⟨va,vb,hv⟩:=Ci.1 hb;obtain⟨ka,a0,a8,al⟩:=lE oa va;obtain⟨kb,b0,b8,bl⟩:=lE ob vb;rw[←hv]at kb;have w1:IntKind.i64.wrap (eX a+eX b)=eX a+eX b:=i64_in _ ⟨by omega,by omega⟩;by_cases hd:a.terms.length≠0/\b.terms.length≠0/\32<eX a+eX b
  ·rw[if_pos hd];have e1:(0< (a.terms.length:Int))=True:=tt;have e2:(0< (b.terms.length:Int))=True:=tt;have e3:(32<eX a+eX b)=True:=eq_true hd.2.2;simp only[pT,vH,aT,go_sem,hp,hda,hdb,w1,e1,e2,e3];rfl
  ·rw[if_neg hd];have hf:=Xd oa ob va vb hd;have hemp:=Bp (v:=a.vars);have hl:=amT (v':=a.vars) (A:=a.terms) (Bt:=b.terms) ka.t kb.t hf ω ω (o2:=.bx [I a.vars,.sl 4 (aJ a.terms)]) (fun _=>rfl) (vb:=b.vars);have fin:∀X:Option (Ex×St),Ic X (upd (upd (fun _=>.any) 6 (.ref 2352 none 0 0 0)) 4 (.ref 4 none 0 0 0)) (.bx [I a.vars,.sl 4 (aJ a.terms)]) (.bx [I b.vars,.sl 4 (aJ b.terms)]) a.vars a.vars [] 0 (mf a.terms b.terms)->
     ip false [[.o 0 [],.o 5 [.o 2 [],.o 0 [],.o 2 [],.o 0 []]],[]] [.cell 4 2 true,.t 5] 0 (cu X (aj R (az false) (.seq (.ops [4,5] [cm 95 6,ca 96 fcu [.t 95],co 97 (.ext 0 (.t 96)),co 98 (.ext 1 (.t 96)),sr 2 (.t 4) (.t 97),cm 5 98]) .ret)))=some (pV (tL a.vars ((mf a.terms b.terms).bind (oE []))),[]):=by
    intro X hM;cases hr:mf a.terms b.terms with
    |none=>
     rw[hr]at hM;obtain⟨hh,rfl,q4⟩:=hM;simp only[Option.bind_none,tL,pV,p0,aT,go_sem,q4];rfl
    |some r=>
     rw[hr]at hM;obtain⟨hh,c',l',e',rfl,q2,q3,q4,qc,qd,qe⟩:=hM;obtain⟨o,hdn⟩:=Cj (d:=96) qc qe.c (by simp[cA,qd,bY]);have hd':=dy (br.1.2.1 false) rfl hdn;rw[qe.fin]at hd';rw[ayi];generalize tL a.vars (oE [] r)=z at hd'⊢;obtain⟨z1,z2⟩:=z;simp only[pV,aT]at hd';simp only[pV,aT,go_sem,q4,hd']
   by_cases h1:a.terms.length=0
   ·have e1:(0< (a.terms.length:Int))=False:=ff;simp only[pT,vH,aT,go_sem,hp,e1,hemp,pM];generalize hX:ai 1 _ _=X;exact fin X (hl _ _ _ hX rfl rfl rfl rfl rfl rfl rfl rfl rfl rfl)
   ·have e1:(0< (a.terms.length:Int))=True:=tt;by_cases h2:b.terms.length=0
    ·have e2:(0< (b.terms.length:Int))=False:=ff;simp only[pT,vH,aT,go_sem,hp,e1,e2,hemp,pM];generalize hX:ai 1 _ _=X;exact fin X (hl _ _ _ hX rfl rfl rfl rfl rfl rfl rfl rfl rfl rfl)
    ·have e2:(0< (b.terms.length:Int))=True:=tt;have e3:(32<eX a+eX b)=False:=eq_false fun h=>hd ⟨h1,h2,h⟩;simp only[pT,vH,aT,go_sem,hp,hda,hdb,w1,e1,e2,e3,hemp,pM];generalize hX:ai 1 _ _=X;exact fin X (hl _ _ _ hX rfl rfl rfl rfl rfl rfl rfl rfl rfl rfl)
def IsL(x:AV)(l:List Rt):Prop:=x=.sl 4 (aJ l)\/(x=.emp/\l=[])
theorem IsL.keep{x:AV}{l:List Rt}(h:IsL x l)(hs:List Nat):gD hs x=x:=by
 rcases h with rfl| ⟨rfl,_⟩<;>rfl
theorem EK{f:FuncId}{fd:FD}{args:List AV}{o:Ob}{r:AV×List Ob}(hE:cK.E f=none)(hC:cK.C f=some fd)(hk:cK.md.keep f=true)(h1:args.length=fd.np)
  (hz:ip true fd.rs fd.res 1 (aj R (az true) fd.body (uw args) (upd (fun _=>.dead) 1000 o))=some r):R f args [o]=some r:=by
 refine OS true hE hC hk h1 σ ?_;rw[W7];exact hz
theorem afj{f:FuncId}{h:ac}{d id:Nat}{zas as':List AV}{o o':Ob}{res:AV}(hm:(az false).m f=[])(hk:(az false).keep f=true)(hn:bp ((az false).sh f) (zas++[.ref id none 0 0 0])=as'++[.ref id none 0 0 0])(hd:zas.all dat=true)(hd':as'.all dat=true)
  (hh:h id=o) (ho:OC o) (ho':OC o') (hb:bf o=true->bf o'=true) (hR:R f (as'++[.ref 1000 none 0 0 0]) [o]=some (res,[o'])) (hr:RT res) (h8:cF res<=8) (hfr:cA h (2000+8*d) (cF res)=true):
  bF R (az false) h d zas (.fn f [] [.ref id none 0 0 0])=some (res,upd h id o',[]):=by
 have hin:∀l:List AV,l.all dat=true->bS h [] (l++[.ref id none 0 0 0])=some (l++[.ref id none 0 0 0],h,[]):=by
  intro l;induction l with
  |nil=>intro _;rfl
  |cons x l ih=>
   intro h2;simp only[ayJ,ayf]at h2;simp only[ayW,bS,List.headD_nil,Xh h2.1,ayi,List.tail_nil,ih h2.2,ayp]
 have h1:=hin zas hd;have hp:bH [] ((zas++[AV.ref id none 0 0 0]).flatMap cf)=[id]:=by
  rw[List.flatMap_append,EJ fun x hx=>Ln (List.all_eq_true.1 hd x hx)];rfl
 have hre:ce h 40 [id] 0=[id]:=by
  simp[ce,hh,ho.ids,bH]
 have h3:bm [id] id=1000:=by simp[bm]
 have hall:(as'++[AV.ref id none 0 0 0]).all (bg [id])=true:=by
  rw[List.all_append,ayf];exact⟨List.all_eq_true.2 fun x hx=>Pk (List.all_eq_true.1 hd' x hx) _,by simp[bg,bo]⟩
 have hmap:(as'++[AV.ref id none 0 0 0]).map (dV (bm [id]))=as'++[.ref 1000 none 0 0 0]:=by
  rw[List.map_append,(ayM (g:=fun c=>c) fun x hx=>Lo (List.all_eq_true.1 hd' x hx) _).trans (ayY as')];simp[dV,kg,h3]
 have hob:([id].map fun a=>dS (bm [id]) (h a))=[o]:=by simp[hh,ho.ren]
 have hids:([id].all fun a=>aD [id] (h a)&&!bY (h a))=true:=by simp[hh,ho.cl,ho.nd]
 unfold bF;rw[if_neg (by simp[kh,hm])];simp only[dW,hm,ayq,h1,ayi,hp,hre,hn];unfold jV;rw[hall,hids,hmap,hob,hR,ayK,if_pos rfl,ayi,hk,hm,wv];unfold eP;have hbf:dh h [] [id] [o']=true:=by
  have:=ho'.nd;cases h5:bf o with
  |false=>simp[dh,hh,h5,this]
  |true=>simp[dh,hh,h5,hb h5,this]
 have hend:oT h [id] [] (res,[o'])=true:=by
  simp[oT,Cp,hr.ok,ho'.cl]
 rw[if_pos ⟨rfl,by simp,h8,hfr,hbf,hend⟩];simp[eE,gb,hr.mat,hr.ren,ho'.ren]
theorem EL{f g:FuncId}{h:ac}{d id:Nat}{zas as':List AV}{o o':Ob}{res:AV}(hm:(az false).m f=[])(hk:(az false).keep f=false)(hn:bp ((az false).sh f) (zas++[.fn g [] [.ref id none 0 0 0]])=as'++[.fn g [] [.ref id none 0 0 0]])(hd:zas.all dat=true)(hd':as'.all dat=true)
  (hh:h id=o) (ho:OC o) (ho':OC o') (hb:bf o=true->bf o'=true) (hR:R f (as'++[.fn g [] [.ref 1000 none 0 0 0]]) [o]=some (res,[o'])) (hr:RT res) (h8:cF res<=8) (hfr:cA h (2000+8*d) (cF res)=true):
  bF R (az false) h d (zas++[.fn g [] [.ref id none 0 0 0]]) (.fn f [] [])=some (res,upd h id o',[(id,true)]):=by
 have hin:∀l:List AV,l.all dat=true->bS h [] (l++[.fn g [] [.ref id none 0 0 0]])=some (l++[.fn g [] [.ref id none 0 0 0]],h,[]):=by
  intro l;induction l with
  |nil=>intro _;rfl
  |cons x l ih=>
   intro h2;simp only[ayJ,ayf]at h2;simp only[ayW,bS,List.headD_nil,Xh h2.1,ayi,List.tail_nil,ih h2.2,ayp]
 have h1:=hin zas hd;have hp:bH [] ((zas++[AV.fn g [] [.ref id none 0 0 0]]).flatMap cf)=[id]:=by
  rw[List.flatMap_append,EJ fun x hx=>Ln (List.all_eq_true.1 hd x hx)];rfl
 have hre:ce h 40 [id] 0=[id]:=by
  simp[ce,hh,ho.ids,bH]
 have h3:bm [id] id=1000:=by simp[bm]
 have hall:(as'++[AV.fn g [] [.ref id none 0 0 0]]).all (bg [id])=true:=by
  rw[List.all_append,ayf];exact⟨List.all_eq_true.2 fun x hx=>Pk (List.all_eq_true.1 hd' x hx) _,by simp[bg,bo]⟩
 have hmap:(as'++[AV.fn g [] [.ref id none 0 0 0]]).map (dV (bm [id]))=as'++[.fn g [] [.ref 1000 none 0 0 0]]:=by
  rw[List.map_append,(ayM (g:=fun c=>c) fun x hx=>Lo (List.all_eq_true.1 hd' x hx) _).trans (ayY as')];simp[dV,kg,h3]
 have hob:([id].map fun a=>dS (bm [id]) (h a))=[o]:=by simp[hh,ho.ren]
 have hids:([id].all fun a=>aD [id] (h a)&&!bY (h a))=true:=by simp[hh,ho.cl,ho.nd]
 unfold bF;rw[if_neg (by simp[kh,hm])];simp only[dW,hm,ayq,ayp,h1,ayi,hp,hre,hn];unfold jV;rw[hall,hids,hmap,hob,hR,ayK,if_pos rfl,ayi,hk,hm,wv];unfold eP;have hbf:dh h [] [id] [o']=true:=by
  have:=ho'.nd;cases h5:bf o with
  |false=>simp[dh,hh,h5,this]
  |true=>simp[dh,hh,h5,hb h5,this]
 have hend:oT h [id] [] (res,[o'])=true:=by
  simp[oT,Cp,hr.ok,ho'.cl]
 rw[if_pos ⟨rfl,by simp,h8,hfr,hbf,hend⟩];simp[eE,gb,hr.mat,hr.ren,ho'.ren]
theorem ah3(x:Ri):OC (.bx (ap x)):=⟨fun _=>rfl,rfl,fun _=>rfl,rfl⟩
variable {α:Type} {Frow:α→List AV} {l:List α} {q:α→Bool}
def amV(f:FuncId)(o:Ob)(k:Nat)(g:Bool)(Frow:α->List AV)(l:List α)(q:α->Bool):Prop:=
 ∀x∈l,∃a a',kH k g (Frow x) 0=some a/\dat a=true/\dat a'=true/\bp ((az false).sh f) [a,.ref 1000 none 0 0 0]=[a',.ref 1000 none 0 0 0]/\R f [a',.ref 1000 none 0 0 0] [o]=some (B (q x),[o])
def amW(f:FuncId)(k:Nat)(g:Bool)(Frow:α->List AV)(l:List α)(q:α->Bool):Prop:=
 ∀x∈l,∃a,kH k g (Frow x) 0=some a/\dat a=true/\R f (bp ((az false).sh f) [a]) []=some (B (q x),[])
theorem SP{k:Nat}{g:Bool}{f:FuncId}{o:Ob}{cap:List AV}(hc:cap=[]/\o=.dead/\(az false).m f=[]/\amW f k g Frow l q\/cap=[.ref 1000 none 0 0 0]/\OC o/\(az false).m f=[]/\(az false).keep f=true/\amV f o k g Frow l q)(hl:l.length<4611686018427387904):∀ (rest:List α) (n:Nat),l.drop n=rest->n<=l.length->
  ∀ (s:ak) (h:ac),s 0=.sl k (l.map Frow)->s 1=.fn f [] cap->s 7=I l.length->s 8=I n->h 1000=o->
   ∃hh,cu (ai 0 [] (ax (aj R (az false) (oQ k g)) [0,1,7,8] [1000] s h)) (aj R (az false) lC)=some (.ret,⟨upd (fun _=>.any) 4 (I (wW q rest n)),hh⟩)/\hh 1000=o:=by
 have hcl:∀ids,aD ids o=true:=by
  rcases hc with⟨_,rfl,_⟩| ⟨_,h,_⟩
  ·exact fun _=>rfl
  ·exact h.cl
 have hcap:cap=[]\/cap=[.ref 1000 none 0 0 0]:=hc.imp (·.1) (·.1);intro rest;induction rest with
 |nil=>
  intro n hd hn s h h0 h1 h7 h8 h9;have e:n=l.length:=by
   have:=congrArg List.length hd;grind
  subst e;rw[ag];refine⟨?hh0,?_,?_⟩;rotate_left
  ·rcases hcap with rfl|rfl<;> (simp only[oQ,lC,go_sem,h0,h1,h7,h8,h9,hcl,ay6,wW];try rfl)
  ·rfl
 |cons x rest ih=>
  intro n hd hn s h h0 h1 h7 h8 h9;have hlt:n<l.length:=by
   grind
  have hr:l[n]?=some x:=by
   have:=congrArg (·[0]?) hd;grind
  have ih':=ih (n+1) (by rw[←List.drop_drop,hd];rfl) hlt;have e1:((n:Int)< (l.length:Int))=True:=tt;have e2:aX (l.map Frow) (n:Int)=some (.ipt (Frow x)):=by simp[aX,hr]
  have e3:IntKind.i64.wrap ((n:Int)+1)=((n+1:Nat):Int):=by grind[i64_in]
  rw[ag];generalize ax _ _ _=L at ih'⊢;simp only[wW];rcases hc with⟨rfl,rfl,hm,hf⟩| ⟨rfl,ho,hm,hk,hf⟩
  ·obtain⟨a,ha,hda,hc⟩:=hf x (List.mem_of_getElem? hr);simp only[oQ,go_sem,h0,h1,h7,h8,h9,e1,e2,ha,yB _ hm,hda,hc];cases hp:q x with
   |true=>exact⟨_,by simp only[lC,go_sem];rfl,rfl⟩
   |false=>
    simp only[go_sem,e3,ayl];exact ih' _ _ rfl rfl rfl rfl rfl
  ·obtain⟨a,a',ha,hda,hda',hn2,hc⟩:=hf x (List.mem_of_getElem? hr);have hcc:=fun(h:ac) (d:Nat) (hh:h 1000=o) (hf:h (2000+8*d)=.dead)=>afj (f:=f) (h:=h) (d:=d) (id:=1000) (zas:=[a]) (as':=[a']) hm hk (by simpa using hn2) (by simp[hda]) (by simp[hda']) hh ho ho (fun h=>h) hc (Xi _) (ayU rfl) (by simp[cA,cF,hf,bY]);simp only[oQ,go_sem,h0,h1,h7,h8,h9,hcl,e1,e2,ha];rw[hcc _ _ rfl rfl];cases hp:q x with
   |true=>
    simp only[lC,go_sem];exact⟨_,rfl,rfl⟩
   |false=>
    simp only[go_sem,e3,ayl];exact ih' _ _ rfl rfl rfl rfl rfl
noncomputable abbrev amX (k:Nat) (g:Bool):FD:=⟨2,[[]],[.t 4],.seq (.ops [0,1] [co 4 (.mv (.c (.v (.int .i64 0))))]) (.seq (.seq (.ops [0,1,7,8] [cm 6 0,co 7 (.len false (.t 6)),co 8 (.mv (.c (.v (.int .i64 0))))]) (.block 0 [] (.loop [0,1,7,8] [1000] (oQ k g)))) lC)⟩
variable {ci fi:FuncId} {fd fc:FD} {k:Nat} {g:Bool} {cs:List Sh}
structure Src (ci fi:FuncId) (k:Nat) (g:Bool) (cs:List Sh):Prop where
 iE:cK.E fi=none
 iC:cK.C fi=some (amX k g)
 ik:cK.md.keep fi=false
 im:(az false).m fi=[]
 ik':(az false).keep fi=false
 ish:(az false).sh fi=[[.o (k+1) cs],[]]
 cE:cK.E ci=none
 cC:cK.C ci=some (J3 fi)
 ck:cK.md.keep ci=false
theorem Lq(S:Src ci fi k g cs){f:FuncId}{o:Ob}(ho:OC o)(hm:(az false).m f=[])(hk:(az false).keep f=true)(hl:l.length<4611686018427387904)(hr:(l.map Frow).map (dQ cs)=l.map Frow)(hf:amV f o k g Frow l q):
  R ci [.sl k (l.map Frow),.fn f [] [.ref 1000 none 0 0 0]] [o]=some (B (l.any q),[o]):=by
 have h:R fi [.sl k (l.map Frow),.fn f [] [.ref 1000 none 0 0 0]] [o]=some (I (wW q l 0),[o]):=by
  refine wu S.iE S.iC S.ik rfl ?_;have hL:=SP (Frow:=Frow) (q:=q) (k:=k) (g:=g) (Or.inr ⟨rfl,ho,hm,hk,hf⟩) hl l 0 rfl (ayB _);simp only[go_sem,abW];have hL2:∀ (S:ak) (H:ac) (X:Option (Ex×St)),cu (ai 0 [] (ax (aj R (az false) (oQ k g)) [0,1,7,8] [1000] S H)) (aj R (az false) lC)=X->S 0=.sl k (l.map Frow)->S 1=.fn f [] [.ref 1000 none 0 0 0]->S 7=I l.length->S 8=I (0:Nat)->H 1000=o->
    ∃hh,X=some (.ret,⟨upd (fun _=>.any) 4 (I (wW q l 0)),hh⟩)/\hh 1000=o:=fun S H X hX a b c d e=>by
   rw[←hX];exact hL S H a b c d e
  generalize hX:cu (ai 0 [] (ax _ _ [1000] _ _)) (aj R (az false) lC)=X;obtain⟨hh,e,e9⟩:=hL2 _ _ _ hX rfl rfl (by simp only[go_sem,List.length_map]) rfl rfl;rw[e];simp only[go_sem];exact sj rfl e9 (ho.cl _) rfl rfl
 refine wu S.cE S.cC S.ck rfl ?_;have ha:=HT q l 0;have hc:=fun(h':ac) (d:Nat) (hh:h' 1000=o) (hf:h' (2000+8*d)=.dead)=>EL (f:=fi) (g:=f) (h:=h') (d:=d) (id:=1000) (zas:=[.sl k (l.map Frow)]) (as':=[.sl k (l.map Frow)]) S.im S.ik'
  (by rw[S.ish];simp only[go_sem,hr,ayW,ayq]) rfl rfl hh ho ho (fun h=>h) h (amM _) (ayU rfl) (by simp[cA,cF,hf,bY])
 simp only[ayW,ayq]at hc;simp only[J3,go_sem];rw[hc _ _ rfl rfl];simp only[go_sem,ha];exact sj rfl rfl (ho.cl _) rfl rfl
theorem aai(S:Src ci fi k g cs){f:FuncId}(hm:(az false).m f=[])(hl:l.length<4611686018427387904)(hr:(l.map Frow).map (dQ cs)=l.map Frow)(hf:amW f k g Frow l q):
  R ci [.sl k (l.map Frow),.fn f [] []] []=some (B (l.any q),[]):=by
 have h:R fi [.sl k (l.map Frow),.fn f [] []] []=some (I (wW q l 0),[]):=by
  refine QH S.iE S.iC S.ik rfl ?_;have hL:=SP (Frow:=Frow) (q:=q) (k:=k) (g:=g) (Or.inl ⟨rfl,rfl,hm,hf⟩) hl l 0 rfl (ayB _);simp only[go_sem,abW];have hL2:∀ (S:ak) (H:ac) (X:Option (Ex×St)),cu (ai 0 [] (ax (aj R (az false) (oQ k g)) [0,1,7,8] [1000] S H)) (aj R (az false) lC)=X->S 0=.sl k (l.map Frow)->S 1=.fn f [] []->S 7=I l.length->S 8=I (0:Nat)->H 1000=.dead->
    ∃hh,X=some (.ret,⟨upd (fun _=>.any) 4 (I (wW q l 0)),hh⟩)/\hh 1000=.dead:=fun S H X hX a b c d e=>by
   rw[←hX];exact hL S H a b c d e
  generalize hX:cu (ai 0 [] (ax _ _ [1000] _ _)) (aj R (az false) lC)=X;obtain⟨hh,e,e9⟩:=hL2 _ _ _ hX rfl rfl (by simp only[go_sem,List.length_map]) rfl rfl;rw[e];simp only[go_sem]
 have ha:=HT q l 0;refine QH S.cE S.cC S.ck rfl ?_;simp only[J3,go_sem,S.im,yB _ S.im,S.ish,hr,h,ha]
theorem Kn{q:Nat}{u:Int}(hu:-16384<=u)(h:(cH (bk false q u)).2=0):zI (cH (bk false q u)).1=((q*2^ (u+16384).toNat:Nat):Int):=by
 have e1:bk false q u=df ((q*2^ (u+16384).toNat:Nat):Int) (-16384- (0:Nat)):=by
  unfold df;rw[decide_eq_false ω,Int.natAbs_natCast,jC];grind
 rw[e1]at h⊢;have:=Lh (j:=0) h;omega
theorem Ra{q:Nat}{n:Nat}(h:n<af q):2^n<=q:=by
 refine Nat.le_of_not_lt fun h1=>?_;have:=bD.2 h1;omega
theorem Ie{M:Nat}{p f:Int}{s t:Nat}{more w:Bool}(h0:M≠0)(hp:8<=p/\p<=512)(hf:f+16384=(s:Int)-t)(hm:more=true->p< (af M:Nat))(h:(cB M f more p w).2=0):
  ∃n:Nat,zI (cB M f more p w).1=(n:Int)/\(w=true->(M+more.toNat)*2^s<=n*2^t)/\(w=false->n*2^t<=M*2^s):=by
 obtain⟨u,hu⟩:∃u,ej M f p=u:=⟨_,rfl⟩;have hu1:-16384<=u/\f+(af M:Nat)-p<=u/\(u=-16384\/u=f+(af M:Nat)-p):=by
  grind[ej]
 unfold cB at h⊢;rw[hu]at h⊢;obtain⟨q,hq⟩:∃q,lD w (nO M f more u)=q:=⟨_,rfl⟩;rw[hq]at h⊢;have hT:(w=true->(M+more.toNat)*2^s<=q*2^ ((u+16384).toNat+t))/\(w=false->q*2^ ((u+16384).toNat+t)<=M*2^s):=by
  unfold nO at hq;by_cases h1:u<=f
  ·have hmf:more=false:=by
    grind
   subst hmf;have hq2:q=M*2^ (f-u).toNat:=by
    grind[lD]
   rw[hq2,ayD,←ayn,show(f-u).toNat+((u+16384).toNat+t)=s by omega];grind
  ·rw[if_neg h1]at hq;obtain⟨d,hd⟩:∃d,(u-f).toNat=d:=⟨_,rfl⟩;rw[hd]at hq;rw[show(u+16384).toNat+t=d+s by omega,ayn,←ayD];have hd:=ay4 M (2^d);have hm:=ayI M (ayr d);unfold lD at hq;constructor
   ·intro hw;subst hw;refine aym _ ?_;by_cases hz:(more||decide (M%2^d≠0))=true
    ·rw[hz,Bool.and_true,if_pos rfl]at hq;subst hq;have:=Bool.toNat_le more;grind
    grind
   ·intro hw;subst hw;subst hq;refine aym _ ?_;grind
 obtain⟨h1,h2⟩:=hT;unfold sf at h⊢;by_cases hb:16384< (af q:Int)+u
 ·rw[if_pos hb]at h⊢;cases w with
  |true=>grind
  |false=>
   refine⟨_,Kn ω h,fun hw=>absurd hw ayl,fun _=>?_⟩;have h3:=h2 rfl;have h4:2^ (32768+t)<=M*2^s:=by
    by_cases hb0:af q=0
    ·have hbm:=fu h0;have h5:=Ra (show af M-1<af M by omega);refine ayj ?_ (aym _ h5);rw[←ayn];exact ayP δ ω
    ·have h5:=Ra (show af q-1<af q by omega);refine ayj ?_ (ayj (aym _ h5) h3);rw[←ayn];exact ayP δ ω
   have h7:(2^p.toNat-1)*2^ (16384-p+16384).toNat*2^t<=2^ (32768+t):=by
    rw[ayD,←ayn];refine ayj (aym _ (Nat.sub_le _ 1)) ?_;rw[←ayn];exact ayP δ ω
   omega
 ·rw[if_neg hb]at h⊢;refine⟨_,Kn hu1.1 h,fun hw=>?_,fun hw=>?_⟩
  all_goals grind
theorem Rb{M:Nat}{f p:Int}{more w:Bool}:vd (cB M f more p w).1=true:=by
 have hc:∀ (q:Nat) (u:Int),vd (cH (bk false q u)).1=true:=fun q u=>by
  have:=(yO (z:=(q:Int)) (f:=u)).1;grind[df,decide_eq_false,Int.natAbs_natCast]
 grind[cB,sf,vd,aH]
theorem Lr{z p:Int}{j:Nat}{up:Bool}(hp:8<=p/\p<=512)(h:(iV z (-16384- (j:Int)) p up).2=0):(up=true->z<=zI (iV z (-16384- (j:Int)) p up).1*2^j)/\(up=false->zI (iV z (-16384- (j:Int)) p up).1*2^j<=z):=by
 unfold iV at h⊢;by_cases h0:z=0
 ·rw[if_pos h0,cO rfl,Int.zero_mul,h0];omega
 ·unfold gI at h⊢;have key:∀w:Bool,(cB z.natAbs (-16384- (j:Int)) false p w).2=0->∃n:Nat,zI (cB z.natAbs (-16384- (j:Int)) false p w).1=(n:Int)/\(w=true->(z.natAbs:Int)<=(n:Int)*2^j)/\(w=false->(n:Int)*2^j<=(z.natAbs:Int)):=fun w hc=>by
   obtain⟨n,g1,g2,g3⟩:=Ie (s:=0) (t:=j) ω hp ω (fun h=>absurd h ayl) hc;refine⟨n,g1,fun hw=>?_,fun hw=>?_⟩
   all_goals grind
  by_cases hn:z<0
  ·grind[yM,Rb,Int.neg_mul]
  grind
theorem akt{c:Rd}{p:Int}(vc:vd c=true)(hp:bG p=true)(h:(bZ c p false).2=0):zI (bZ c p false).1<=zI c:=by
 have hp2:8<=p/\p<=512:=by
  simp_all[bG,ayf,decide_eq_true_eq]
 have hf:aZ p [c]=0:=by grind[aZ]
 unfold bZ at h⊢;rw[if_pos hf]at h⊢;have:=(Lr (j:=0) hp2 h).2 rfl;grind
theorem aku{c:Rd}{p:Int}(vc:vd c=true)(hp:bG p=true)(h:(bZ c p true).2=0):zI c<=zI (bZ c p true).1:=by
 have hp2:8<=p/\p<=512:=by
  simp_all[bG,ayf,decide_eq_true_eq]
 have hf:aZ p [c]=0:=by grind[aZ]
 unfold bZ at h⊢;rw[if_pos hf]at h⊢;have:=(Lr (j:=0) hp2 h).1 rfl;grind
def wD(T V:Nat):Nat:=min 4294967295 (T/V)
theorem ah4{T L V2 M v w k W V:Nat}(hW:W=T*4294967296^k+L)(hV:V=V2*4294967296^k+M)(hL:L<4294967296^k)(hM:M<4294967296^k)(h2:V2=v*4294967296+w)(hv:2147483648<=v)(hlt:W<4294967296*V):
  W/V<=wD T V2/\wD T V2<=W/V+1:=by
 generalize 4294967296^k=b at*
 have hV2:9223372036854775808<=V2:=ω
 have hVp:0<V:=by
  omega
 have hV2p:0<V2:=ω
 constructor
 ·refine Nat.le_min.2 ⟨?_,?_⟩
  ·have:=(Nat.div_lt_iff_lt_mul hVp).2 hlt;omega
  ·rw[Nat.le_div_iff_mul_le hV2p];have h1:W/V*V<=W:=Nat.div_mul_le_self W V;have h3:W/V*V2*b<=W/V*V:=by
    simp_all[ayD,ay7]
   have h4:W/V*V2*b< (T+1)*b:=by
    grind
   have:=Nat.lt_of_mul_lt_mul_right h4;omega
 ·have hg:wD T V2*V2<=T:=by
   refine ayj (aym V2 (Nat.min_le_right _ _)) (Nat.div_mul_le_self T V2)
  have hg2:wD T V2<=4294967295:=Nat.min_le_left _ _;generalize wD T V2=g at*
  have h1:g*V=g*V2*b+g*M:=γ
  have h2':g*V2*b<=T*b:=aym b hg;have h3:g*M<=4294967295*b:=Nat.mul_le_mul hg2 (Nat.le_of_lt hM);have h4:9223372036854775808*b<=V2*b:=aym b hV2;have h5:g*V<W+V:=ω
  cases g with
  |zero=>grind
  |succ g=>
   rw[ayA,Nat.one_mul]at h5;exact Nat.succ_le_succ ((Nat.le_div_iff_mul_le hVp).2 ω)
theorem Xm{q rest third v w T V:Nat}(hT:T=(q*v+rest)*4294967296+third)(hV:V=v*4294967296+w)(hVp:0<V)(hw:w<4294967296)(hq:q<=4294967296):
  (rest<4294967296/\rest*4294967296+third<q*w->T/V<q)/\(¬ (rest<4294967296/\rest*4294967296+third<q*w)->q<=T/V):=by
 have e1:q*V=q*v*4294967296+q*w:=γ
 constructor
 ·rw[Nat.div_lt_iff_lt_mul hVp];omega
 ·rw[Nat.le_div_iff_mul_le hVp];by_cases h1:rest<4294967296
  ·omega
  ·have:q*w<=4294967296*4294967296:=Nat.mul_le_mul hq (Nat.le_of_lt hw);omega
theorem Y7{top next third v w:Nat}(hv:0<v)(hvb:v<4294967296)(ht:top<=v)(hn:next<4294967296)(h3:third<4294967296):
  min (if v<=top then 4294967295 else(top*4294967296+next)/v) (((top*4294967296+next)*4294967296+third)/ (v*4294967296+w))=wD ((top*4294967296+next)*4294967296+third) (v*4294967296+w):=by
 unfold wD;by_cases h:v<=top
 ·rw[if_pos h]
 ·rw[if_neg h];have h1:((top*4294967296+next)*4294967296+third)/ (v*4294967296+w)<=(top*4294967296+next)/v:=by
   rw[Nat.le_div_iff_mul_le hv];have h2:=Nat.div_mul_le_self ((top*4294967296+next)*4294967296+third) (v*4294967296+w);grind
  have h2:(top*4294967296+next)/v<4294967296:=by
   rw[Nat.div_lt_iff_lt_mul hv];omega
  omega
def th(q:Nat):List Nat->List Nat->Nat->Nat->List Nat×Nat×Nat
 |u::us,y::vs,c,b=>(((u+18446744073709551616- (q*y+c) %4294967296-b) %18446744073709551616%4294967296)::(th q us vs ((q*y+c)/4294967296) ((u+18446744073709551616- (q*y+c) %4294967296-b) %18446744073709551616/9223372036854775808)).1,(th q us vs ((q*y+c)/4294967296) ((u+18446744073709551616- (q*y+c) %4294967296-b) %18446744073709551616/9223372036854775808)).2)
 |_,_,c,b=>([],c,b)
theorem Rc{u s b:Nat}(hu:u<4294967296)(hs:s<4294967296)(hb:b<=1):
  (u+18446744073709551616-s-b) %18446744073709551616/9223372036854775808<=1/\(u+18446744073709551616-s-b) %18446744073709551616%4294967296+s+b=u+4294967296*((u+18446744073709551616-s-b) %18446744073709551616/9223372036854775808):=by
 omega
theorem Xn{q:Nat}(hq:q<4294967296):∀ {us vs:List Nat} {c b:Nat},Lb us->Lb vs->us.length=vs.length->c<4294967296->b<=1->
  ab us+4294967296^vs.length*((th q us vs c b).2.1+(th q us vs c b).2.2)=ab (th q us vs c b).1+q*ab vs+c+b/\(th q us vs c b).2.1<4294967296/\(th q us vs c b).2.2<=1/\Lb (th q us vs c b).1/\(th q us vs c b).1.length=vs.length
 |[],[],c,b,_,_,_,hc,hb=>by
  refine⟨?_,hc,hb,fun x hx=>(nomatch hx),rfl⟩;show 0+4294967296^0*(c+b)=0+q*0+c+b;omega
 |u::us,y::vs,c,b,hu,hv,hl,hc,hb=>by
  have hu0:=hu u σ;have hy0:=hv y σ;have hp:q*y+c<4294967296*4294967296:=by
   have h1:q*y<=4294967295*4294967295:=Nat.mul_le_mul ω ω;omega
  have hs:=ayI (q*y+c) (by decide:0<4294967296);have hd:=ay4 (q*y+c) 4294967296;have hc2:(q*y+c)/4294967296<4294967296:=by
   omega
  obtain⟨k1,k2⟩:=Rc (b:=b) hu0 hs hb;have ih:=Xn hq (us:=us) (vs:=vs) (c:=(q*y+c)/4294967296) (b:=(u+18446744073709551616- (q*y+c) %4294967296-b) %18446744073709551616/9223372036854775808) (fun x hx=>hu x γ) (fun x hx=>hv x γ) γ hc2 k1;obtain⟨i1,i2,i3,i4,i5⟩:=ih;unfold th;generalize(u+18446744073709551616- (q*y+c) %4294967296-b) %18446744073709551616/9223372036854775808=b2 at*
  generalize(q*y+c)/4294967296=c2 at*
  generalize th q us vs c2 b2=r at*
  refine⟨?_,i2,i3,fun x hx=>?_,by grind⟩
  ·grind[ab,ayZ,ayy,ayD,Nat.mul_add,Nat.mul_left_comm]
  ·rcases List.mem_cons.1 hx with rfl|hx
   ·omega
   ·exact i4 x hx
 |[],_::_,_,_,_,_,h,_,_=>by grind
 |_::_,[],_,_,_,_,h,_,_=>by grind
def nR(q top:Nat)(us vs:List Nat):List Nat×Nat×Bool:=
 ((th q us vs 0 0).1,(top+18446744073709551616- (th q us vs 0 0).2.1- (th q us vs 0 0).2.2) %18446744073709551616%4294967296,decide ((top+18446744073709551616- (th q us vs 0 0).2.1- (th q us vs 0 0).2.2) %18446744073709551616/9223372036854775808=1))
theorem Re{q top:Nat}{us vs:List Nat}(hq:q<4294967296)(ht:top<4294967296)(hu:Lb us)(hv:Lb vs)(hl:us.length=vs.length):
  (ab us+4294967296^vs.length*top+(if(nR q top us vs).2.2=true then 4294967296^vs.length*4294967296 else 0)=ab (nR q top us vs).1+4294967296^vs.length*(nR q top us vs).2.1+q*ab vs)/\(nR q top us vs).2.1<4294967296/\Lb (nR q top us vs).1/\(nR q top us vs).1.length=vs.length:=by
 obtain⟨h1,h2,h3,h4,h5⟩:=Xn hq hu hv hl (c:=0) (b:=0) δ δ;unfold nR;generalize th q us vs 0 0=r at*
 obtain⟨r1,c,b⟩:=r;refine⟨?_,ayI _ δ,h4,h5⟩;obtain⟨k1,k2⟩:=Rc (u:=top) (s:=c) (b:=b) ht h2 h3;generalize(top+18446744073709551616-c-b) %18446744073709551616/9223372036854775808=f at*
 generalize(top+18446744073709551616-c-b) %18446744073709551616%4294967296=t2 at*
 have e1:4294967296^vs.length*(c+b)+4294967296^vs.length*t2=4294967296^vs.length*top+4294967296^vs.length*4294967296*f:=by
  grind
 grind
def Ax(top:Nat)(us:List Nat):Nat:=(top*4294967296+us.getD (us.length-1) 0)*4294967296+us.getD (us.length-2) 0
def yQ(vs:List Nat):Nat:=vs.getD (vs.length-1) 0*4294967296+vs.getD (vs.length-2) 0
def xA(top:Nat)(us vs:List Nat):List Nat×Nat×Nat:=
 if(nR (wD (Ax top us) (yQ vs)) top us vs).2.2=true then
  (dj (nR (wD (Ax top us) (yQ vs)) top us vs).1 vs vs.length,((nR (wD (Ax top us) (yQ vs)) top us vs).2.1+ez (nR (wD (Ax top us) (yQ vs)) top us vs).1 vs vs.length) %4294967296,wD (Ax top us) (yQ vs)-1)
 else((nR (wD (Ax top us) (yQ vs)) top us vs).1,(nR (wD (Ax top us) (yQ vs)) top us vs).2.1,wD (Ax top us) (yQ vs))
theorem Xo{l:List Nat}{k:Nat}(h:l.length=k+2):ab l=(l.getD (k+1) 0*4294967296+l.getD k 0)*4294967296^k+ab (l.take k):=by
 have h1:=eK l (k+1);have h2:=eK l k;grind
theorem afk{top:Nat}{us vs:List Nat}{k:Nat}(ht:top<4294967296)(hu:Lb us)(hv:Lb vs)(hul:us.length=k+2)(hvl:vs.length=k+2)(hn:2147483648<=vs.getD (k+1) 0)(hlt:ab us+4294967296^ (k+2)*top<4294967296*ab vs):
  ab (xA top us vs).1+4294967296^ (k+2)*(xA top us vs).2.1=(ab us+4294967296^ (k+2)*top) %ab vs/\(xA top us vs).2.2=(ab us+4294967296^ (k+2)*top)/ab vs/\Lb (xA top us vs).1/\(xA top us vs).1.length=k+2/\(xA top us vs).2.1<4294967296:=by
 obtain⟨W,hW⟩:∃W,ab us+4294967296^ (k+2)*top=W:=⟨_,rfl⟩;obtain⟨V,hV⟩:∃V,ab vs=V:=⟨_,rfl⟩;have a1:=Xo hul;have a2:=Xo hvl;have l1:=cI (fj hu k);have l2:=cI (fj hv k);rw[ayo,ay0 ω]at l1 l2;have hT:W=Ax top us*4294967296^k+ab (us.take k):=by
  unfold Ax;grind
 have hV2:V=yQ vs*4294967296^k+ab (vs.take k):=by
  grind[yQ]
 rw[hW]at hlt⊢;rw[hV]at hlt⊢;obtain⟨g1,g2⟩:=ah4 hT hV2 l1 l2 (show yQ vs=vs.getD (k+1) 0*4294967296+vs.getD k 0 by grind[yQ]) hn hlt;have hgb:wD (Ax top us) (yQ vs)<4294967296:=by
  grind[wD,Ax,yQ,Nat.min_le_left]
 unfold xA;generalize wD (Ax top us) (yQ vs)=g at*
 obtain⟨t1,t2,t3,t4⟩:=Re (q:=g) hgb ht hu hv ω;generalize nR g top us vs=r at*
 obtain⟨r1,r2,f⟩:=r;simp only at t1 t2 t3 t4⊢;rw[hvl,hW,hV]at t1;rw[hvl]at t4;have hVp:0<V:=by
  omega
 have hdm:=ay4 W V;have hml:=ayI W hVp;have hVb:V<4294967296^ (k+2):=by grind[cI]
 have hrb:ab r1<4294967296^ (k+2):=by grind[cI]
 generalize hB:4294967296^ (k+2)=b at*
 cases f with
 |false=>
  simp only[aza,if_false,ayF]at t1⊢;have h1:g<=W/V:=(Nat.le_div_iff_mul_le hVp).2 ω;have h2:g=W/V:=Nat.le_antisymm h1 g1;refine⟨?_,h2,t3,t4,t2⟩;rw[h2,ayy (W/V) V]at t1;omega
 |true=>
  simp only[if_true]at t1⊢;have hbr:b*r2+ab r1<b*4294967296:=by
   have h1:b*(r2+1)<=b*4294967296:=ay7 b ω;rw[Nat.mul_add,Nat.mul_one]at h1;omega
  have h1:¬g<=W/V:=fun h=>by
   have:=(Nat.le_div_iff_mul_le hVp).1 h;omega
  have h2:g=W/V+1:=ω
  have s1:=HV r1 vs (k+2);rw[hB,ayt ω,ayt ω,hV]at s1;have s2:=QK r1 vs (k+2);have s3:(dj r1 vs (k+2)).length=k+2:=by unfold dj;rw[List.length_map,List.length_range]
  have s4:ab (dj r1 vs (k+2))<b:=by
   have:=cI s2;rw[s3,hB]at this;exact this
  rw[hvl];refine⟨?_,by show g-1=W/V;rw[h2,Nat.add_sub_cancel],s2,s3,ayI _ δ⟩;rw[h2,ayA,Nat.one_mul,ayy (W/V) V]at t1;have e1:ab (dj r1 vs (k+2))+b*(ez r1 vs (k+2)+r2)=b*4294967296+W%V:=by
   rw[Nat.mul_add];omega
  have hc:ez r1 vs (k+2)+r2=4294967296:=by
   have h3:¬ez r1 vs (k+2)+r2<4294967296:=fun h=>by
    have h4:b*(ez r1 vs (k+2)+r2+1)<=b*4294967296:=ay7 b h;rw[Nat.mul_add b _ 1,Nat.mul_one]at h4;omega
   have h5:¬4294967296<ez r1 vs (k+2)+r2:=fun h=>by
    have h4:b*(4294967296+1)<=b*(ez r1 vs (k+2)+r2):=ay7 b h;omega
   omega
  rw[hc]at e1;rw[Nat.add_comm r2,hc,Nat.mod_self,Nat.mul_zero];omega
end Go.Ab
