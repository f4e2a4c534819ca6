/-
  A law of models holds at every input that the statement speaks of, under the conditions that its card names. Part E1.
-/
import Derived.Test.YtdhfcpbpdmmphaaGreatDoorD1
open Nat renaming add_mul → axk, add_zero → axo, div_add_mod → axS, le_of_ble_eq_true → axJ, le_refl → awQ, le_trans → awX, lt_of_le_of_lt → axF, lt_of_lt_of_le → axX, min_eq_left → axP, mod_eq_of_lt → axK, mod_lt → axq, mul_assoc → axn, mul_comm → axf, mul_le_mul → aFW, mul_le_mul_left → axW, mul_le_mul_right → awZ, pow_add → axa, pow_le_pow_right → axC, pow_succ → axO, reduceMod → axD, reduceSub → axw, two_pow_pos → axb, zero_add → awP, zero_le → axz
open Int renaming eq_ofNat_of_zero_le → ax5, lt_irrefl → axU, natCast_zero → axB, reduceEq → axt, reduceLE → axA, reduceLT → axl, reduceToNat → axs, toNat_natCast → awY
open Bool renaming and_eq_true → awS, and_false → axx, and_self → axm, false_and → awU, false_eq_true → axV, false_ne_true → awW, false_or → axY, not_eq_true' → ax3, not_false → axZ, true_and → awT, true_or → axQ
open List renaming all_cons → axu, all_eq_true → axj, append_assoc → axL, append_nil → axe, cons_append → axM, drop_eq_getElem_cons → axh, drop_eq_nil_of_le → axi, drop_zero → ax0, getElem_mem → axr, length_append → axG, length_cons → axE, length_drop → ax2, length_nil → axI, length_replicate → ax1, length_take → axd, map_congr_left → axy, map_cons → axp, map_id' → axN, map_nil → axv, mem_map → axR, nil_append → axc, replicate → awO, take_length → aEE, take_of_length_le → axg
open Option renaming bind_eq_some_iff → awN, bind_some → awV, map_eq_some_iff → awR, map_some → axH
set_option linter.all false
namespace Go.Ab
open Go Go.IntWalk
set_option maxRecDepth 4000
set_option maxHeartbeats 4000000
theorem P5{m:List Nat}{i:Nat}(h:m.length<=i):m.getD i 0=0:=by
 grind
theorem adz(a b:List Nat)(i:Nat):aEr a b (i+1)=aEr a b i++[FH a b i]:=by simp[aEr,List.range_succ]
theorem adA(a b:List Nat)(i:Nat):jI a b (i+1)=jI a b i++[Hl a b i]:=by simp[jI,List.range_succ]
theorem adB{a b:List Nat}(ha:Lb a)(hb:Lb b)(h1:a.length<=100000)(h2:b.length<=100000):∀ (k i:Nat),i+k=max a.length b.length->∀ (s:ak) (h:ac),s 0=lm a->s 1=lm b->s 6=W (dY a b i:Nat)->s 7=I i->EX 49 (aEr a b i) (s 5) (h 49)->
  ∃x hh,aj 0 [5,6] (au (ai R (az false) eF) [0,1,5,6,7] [49] s h)=some (.normal,⟨upd (upd (fun _=>.any) 6 (W (dY a b (max a.length b.length):Nat))) 5 x,hh⟩)/\EX 49 (aEr a b (max a.length b.length)) x (hh 49)/\∀a,a≠49->hh a=.dead:=by
 intro k;induction k with
 |zero=>
  intro i hi s h h0 g1 h6 h7 hacc;have e1:((i:Int)< (a.length:Int))=False:=ff;have e2:((i:Int)< (b.length:Int))=False:=ff;have:i=max a.length b.length:=by omega
  rw[←this];rw[ag];rcases hacc with⟨g2,h5,hh⟩| ⟨g2,h5,hh⟩
  ·refine⟨.emp,?hh0,?_,Or.inl ⟨g2,rfl,?_⟩,?_⟩;rotate_left
   ·simp only[eF,go_sem,h0,g1,h5,h6,h7,hh,e1,e2];rfl
   all_goals simp_all[azJ,if_false]
  ·refine⟨.rsl 49 none 1 0 (aEr a b i).length,?hh1,?_,Or.inr ⟨g2,rfl,?_⟩,?_⟩;rotate_left
   ·simp only[eF,go_sem,h0,g1,h5,h6,h7,hh,e1,e2];rfl
   all_goals simp_all[azJ,if_false]
 |succ k ih=>
  intro i hi s h h0 g1 h6 h7 hacc;have ih':=ih (i+1) (by omega);have hx:=bN ha i;have hy:=bN hb i;have hc:=DM ha hb i;have e3:IntKind.i64.wrap ((i:Int)+1)=((i+1:Nat):Int):=wi;have q1:((aEr a b i).length+1)*4<=140737488355328:=by grind[iU]
  have f3:=tt q1;have e4:IntKind.u64.wrap (a.getD i 0:Int)=(a.getD i 0:Int):=dE rfl (by omega);have e5:IntKind.u64.wrap (b.getD i 0:Int)=(b.getD i 0:Int):=dE rfl (by omega);have f8:=pR (n:=a.getD i 0+b.getD i 0+dY a b i) (k:=32) (kk:=.u64) (j:=32) rfl rfl (by omega);rw[show(a.getD i 0+b.getD i 0+dY a b i)/2^32=dY a b (i+1)from rfl]at f8;have f9:=BG (n:=a.getD i 0+b.getD i 0+dY a b i) rfl (by omega);rw[show(a.getD i 0+b.getD i 0+dY a b i) %4294967296=FH a b i from rfl]at f9;have f10:IntKind.u32.wrap ((FH a b i:Nat):Int)=((FH a b i:Nat):Int):=BB rfl (axq _ (by omega));rw[ag];rw[adz]at ih';generalize au _ _ _=L at ih'⊢;by_cases hla:i<a.length
  ·have e1:((i:Int)< (a.length:Int))=True:=tt;have e2:aW (aB a) (i:Int)=some (.ipt [U (a.getD i 0:Nat)]):=bt rfl hla;have w1:IntKind.u64.wrap ((dY a b i:Int)+(a.getD i 0:Int))=((a.getD i 0+dY a b i:Nat):Int):=dE (by omega) (by omega);by_cases hlb:i<b.length
   ·have e6:((i:Int)< (b.length:Int))=True:=tt;have e7:aW (aB b) (i:Int)=some (.ipt [U (b.getD i 0:Nat)]):=bt rfl hlb;have w2:IntKind.u64.wrap (((a.getD i 0+dY a b i:Nat):Int)+(b.getD i 0:Int))=((a.getD i 0+b.getD i 0+dY a b i:Nat):Int):=dE (by omega) (by omega);rcases hacc with⟨g2,h5,hh⟩| ⟨g2,h5,hh⟩
    ·simp only[eF,go_sem,h0,g1,h5,h6,h7,hh,e1,e2,e3,e4,e5,e6,e7,w1,w2,f8,f9,f10];rw[g2]at ih';exact ih' _ _ rfl rfl rfl rfl AK
    ·simp only[eF,go_sem,h0,g1,h5,h6,h7,hh,e1,e2,e3,e4,e5,e6,e7,w1,w2,f3,f8,f9,f10,true_or,awP,awQ,uK];exact ih' _ _ rfl rfl rfl rfl xN
   ·have e6:((i:Int)< (b.length:Int))=False:=ff;have hz:=P5 (m:=b) (i:=i) (by omega);have w2:((a.getD i 0+dY a b i:Nat):Int)=((a.getD i 0+b.getD i 0+dY a b i:Nat):Int):=by omega
    rw[w2]at w1;rcases hacc with⟨g2,h5,hh⟩| ⟨g2,h5,hh⟩
    ·simp only[eF,go_sem,h0,g1,h5,h6,h7,hh,e1,e2,e3,e4,e6,w1,f8,f9,f10];rw[g2]at ih';exact ih' _ _ rfl rfl rfl rfl AK
    ·simp only[eF,go_sem,h0,g1,h5,h6,h7,hh,e1,e2,e3,e4,e6,w1,f3,f8,f9,f10,true_or,awP,awQ,uK];exact ih' _ _ rfl rfl rfl rfl xN
  ·have e1:((i:Int)< (a.length:Int))=False:=ff;have hlb:i<b.length:=by omega
   have e6:((i:Int)< (b.length:Int))=True:=tt;have e7:aW (aB b) (i:Int)=some (.ipt [U (b.getD i 0:Nat)]):=bt rfl hlb;have hz:=P5 (m:=a) (i:=i) (by omega);have w2:IntKind.u64.wrap ((dY a b i:Int)+(b.getD i 0:Int))=((a.getD i 0+b.getD i 0+dY a b i:Nat):Int):=dE (by omega) (by omega);rcases hacc with⟨g2,h5,hh⟩| ⟨g2,h5,hh⟩
   ·simp only[eF,go_sem,h0,g1,h5,h6,h7,hh,e1,e3,e5,e6,e7,w2,f8,f9,f10];rw[g2]at ih';exact ih' _ _ rfl rfl rfl rfl AK
   ·simp only[eF,go_sem,h0,g1,h5,h6,h7,hh,e1,e3,e5,e6,e7,w2,f3,f8,f9,f10,true_or,awP,awQ,uK];exact ih' _ _ rfl rfl rfl rfl xN
theorem agc{a b:List Nat}(_ha:Lb a)(_hb:Lb b){L:Nat}(h1:a.length<=L)(h2:b.length<=L):ab (aEr a b L++[dY a b L])=ab a+ab b:=by
 grind[Hk,axg,dV,iU,ab]
theorem agd{a b:List Nat}(ha:Lb a)(hb:Lb b)(h1:a.length<=10000)(h2:b.length<=10000):R F.r02_plus [lm a,lm b] []=some (lm (av (ab a+ab b)),[]):=by
 refine ax aa5 rfl ?_;obtain⟨M,hM⟩:∃M,max a.length b.length=M:=⟨_,rfl⟩;have hr:=adB ha hb (by omega) (by omega) M 0 (by omega);rw[hM]at hr;have hsv:=agc ha hb (L:=M) (by omega) (by omega);have hc:=DM ha hb M;have hL:=iU a b M;have hLb:=PU a b M;have q0:EX 49 (aEr a b 0) .emp .dead:=Or.inl ⟨rfl,rfl,rfl⟩;generalize aEr a b M=out at hr hsv hL hLb;generalize dY a b M=c at hr hsv hc;have ht:=DX (m:=out++[c]) (oZ.2 ⟨hLb,iL.2 ⟨by omega,Jd⟩⟩) (by grind);rw[hsv]at ht;have e8:IntKind.u32.wrap (c:Int)=(c:Int):=BB rfl (by omega);have q1:(out.length+1)*4<=140737488355328:=by omega
 have f3:=tt q1;have f4:=MO (out++[c]);rw[show(out++[c]).length=out.length+1 by simp]at f4;generalize av (ab a+ab b)=res at ht⊢;generalize hLL:au (ai R (az false) eF) [0,1,5,6,7] [49]=L at hr;have hX:∀s h,ai R (az false) (.loop [0,1,5,6,7] [49] eF) s h=L s h:=fun s h=>by rw[←hLL];rfl
 have hr2:∀ (S:ak) (H:ac) (X:Option (Ex×St)),aj 0 [5,6] (L S H)=X->S 0=lm a->S 1=lm b->S 6=W 0->S 7=I 0->S 5=.emp->H 49=.dead->∃x hh,X=some (.normal,⟨upd (upd (fun _=>.any) 6 (W c)) 5 x,hh⟩)/\EX 49 out x (hh 49)/\∀a,a≠49->hh a=.dead:=fun S H X hX a0 a1 a6 a7 a5 b=>by
  rw[←hX];exact hr S H a0 a1 a6 a7 (by grind)
 simp only[Fy,NR,hX,go_sem];generalize hB:aj 0 [5,6] (L _ _)=X;obtain⟨x,hh,g0,hacc,gd⟩:=hr2 _ _ _ hB rfl rfl rfl rfl rfl rfl;rw[g0];rcases hacc with⟨c1,c2,c3⟩| ⟨c1,c2,c3⟩
 ·rw[c1]at ht;have ht':R F.r02_trim [.sl 1 [[U c]]] []=some (lm res,[]):=ht;simp only[go_sem,c2,e8,ht',ne_eq,not_false_eq_true,gd]
 ·simp only[go_sem,c2,c3,e8,f3,f4,ht,ne_eq,not_false_eq_true,gd,uK,true_or,awP,awQ,List.length_singleton,PQ,axG]
theorem abw{a b:List Nat}(ha:Lb a)(hb:Lb b)(h1:a.length<=100000):∀ (k i:Nat),i+k=a.length->∀ (s:ak) (h:ac),s 0=lm a->s 1=lm b->s 6=W (nI a b i:Nat)->s 7=I i->EX 41 (jI a b i) (s 5) (h 41)->
  ∃x hh,aj 0 [5] (au (ai R (az false) fA) [0,1,5,6,7] [41] s h)=some (.normal,⟨upd (fun _=>.any) 5 x,hh⟩)/\EX 41 (jI a b a.length) x (hh 41)/\∀a,a≠41->hh a=.dead:=by
 intro k;induction k with
 |zero=>
  intro i hi s h h0 g1 h6 h7 hacc;have e1:((i:Int)< (a.length:Int))=False:=ff;have:i=a.length:=by omega
  rw[←this];rw[ag];rcases hacc with⟨g2,h5,hh⟩| ⟨g2,h5,hh⟩
  ·refine⟨.emp,?hh0,?_,Or.inl ⟨g2,rfl,?_⟩,?_⟩;rotate_left
   ·simp only[fA,go_sem,h0,g1,h5,h6,h7,hh,e1];rfl
   all_goals simp_all[azJ,if_false]
  ·refine⟨.rsl 41 none 1 0 (jI a b i).length,?hh1,?_,Or.inr ⟨g2,rfl,?_⟩,?_⟩;rotate_left
   ·simp only[fA,go_sem,h0,g1,h5,h6,h7,hh,e1];rfl
   all_goals simp_all[azJ,if_false]
 |succ k ih=>
  intro i hi s h h0 g1 h6 h7 hacc;have ih':=ih (i+1) (by omega);have hx:=bN ha i;have hy:=bN hb i;have hc:=Gi a b i;have hla:i<a.length:=by omega
  have e1:((i:Int)< (a.length:Int))=True:=tt;have e2:aW (aB a) (i:Int)=some (.ipt [U (a.getD i 0:Nat)]):=bt rfl hla;have e3:IntKind.i64.wrap ((i:Int)+1)=((i+1:Nat):Int):=wi;have q1:((jI a b i).length+1)*4<=140737488355328:=by grind[wR]
  have f3:=tt q1;have e4:IntKind.u64.wrap (a.getD i 0:Int)=(a.getD i 0:Int):=dE rfl (by omega);have e5:IntKind.u64.wrap (b.getD i 0:Int)=(b.getD i 0:Int):=dE rfl (by omega);have w3:IntKind.u64.wrap ((a.getD i 0:Int)+4294967296)=((a.getD i 0+4294967296:Nat):Int):=dE (by omega) (by omega);have w4:IntKind.u64.wrap (((a.getD i 0+4294967296:Nat):Int)- ((b.getD i 0+nI a b i:Nat):Int))=((a.getD i 0+4294967296-b.getD i 0-nI a b i:Nat):Int):=dE (by omega) (by omega);have f8:=pR (n:=a.getD i 0+4294967296-b.getD i 0-nI a b i) (k:=32) (kk:=.u64) (j:=32) rfl rfl (by omega);have w5:IntKind.u64.wrap (1- (((a.getD i 0+4294967296-b.getD i 0-nI a b i)/2^32:Nat):Int))=((nI a b (i+1):Nat):Int):=by
   grind[dE,Gi,nI]
  have f9:=BG (n:=a.getD i 0+4294967296-b.getD i 0-nI a b i) rfl (by omega);rw[show(a.getD i 0+4294967296-b.getD i 0-nI a b i) %4294967296=Hl a b i from rfl]at f9;have f10:IntKind.u32.wrap ((Hl a b i:Nat):Int)=((Hl a b i:Nat):Int):=BB rfl (axq _ (by omega));rw[ag];rw[adA]at ih';generalize au _ _ _=L at ih'⊢;by_cases hlb:i<b.length
  ·have e6:((i:Int)< (b.length:Int))=True:=tt;have e7:aW (aB b) (i:Int)=some (.ipt [U (b.getD i 0:Nat)]):=bt rfl hlb;have w2:IntKind.u64.wrap ((nI a b i:Int)+(b.getD i 0:Int))=((b.getD i 0+nI a b i:Nat):Int):=dE (by omega) (by omega);rcases hacc with⟨g2,h5,hh⟩| ⟨g2,h5,hh⟩
   ·simp only[fA,go_sem,h0,g1,h5,h6,h7,hh,e1,e2,e3,e4,e5,e6,e7,w2,w3,w4,w5,f8,f9,f10];rw[g2]at ih';exact ih' _ _ rfl rfl rfl rfl AK
   ·simp only[fA,go_sem,h0,g1,h5,h6,h7,hh,e1,e2,e3,e4,e5,e6,e7,w2,w3,w4,w5,f3,f8,f9,f10,true_or,awP,awQ,uK];exact ih' _ _ rfl rfl rfl rfl xN
  ·have e6:((i:Int)< (b.length:Int))=False:=ff;have hz:=P5 (m:=b) (i:=i) (by omega);have w2:((b.getD i 0+nI a b i:Nat):Int)=(nI a b i:Int):=by omega
   rw[w2]at w4;rcases hacc with⟨g2,h5,hh⟩| ⟨g2,h5,hh⟩
   ·simp only[fA,go_sem,h0,g1,h5,h6,h7,hh,e1,e2,e3,e4,e6,w3,w4,w5,f8,f9,f10];rw[g2]at ih';exact ih' _ _ rfl rfl rfl rfl AK
   ·simp only[fA,go_sem,h0,g1,h5,h6,h7,hh,e1,e2,e3,e4,e6,w3,w4,w5,f3,f8,f9,f10,true_or,awP,awQ,uK];exact ih' _ _ rfl rfl rfl rfl xN
theorem Rw{a b:List Nat}(ha:Lb a)(hb:Lb b)(h1:a.length<=10000)(h2:b.length<=a.length)(hv:ab b<=ab a):R F.r02_minus [lm a,lm b] []=some (lm (av (ab a-ab b)),[]):=by
 refine ax Xw rfl ?_;have hr:=abw ha hb (by omega) a.length 0 (by omega);have hall:=Vf ha hb h2 hv;have hsv:ab (jI a b a.length)=ab a-ab b:=by
  rw[hall,lA,axK];grind[axF,Nat.sub_le,cG]
 have hL:=wR a b a.length;have hLb:=PV a b a.length;have q0:EX 41 (jI a b 0) .emp .dead:=Or.inl ⟨rfl,rfl,rfl⟩;generalize jI a b a.length=out at hr hsv hL hLb;have ht:=DX (m:=out) hLb (by omega);rw[hsv]at ht;generalize hLL:au (ai R (az false) fA) [0,1,5,6,7] [41]=L at hr;have hX:∀s h,ai R (az false) (.loop [0,1,5,6,7] [41] fA) s h=L s h:=fun s h=>by rw[←hLL];rfl
 have hr2:∀ (S:ak) (H:ac) (X:Option (Ex×St)),aj 0 [5] (L S H)=X->S 0=lm a->S 1=lm b->S 6=W 0->S 7=I 0->S 5=.emp->H 41=.dead->∃x hh,X=some (.normal,⟨upd (fun _=>.any) 5 x,hh⟩)/\EX 41 out x (hh 41)/\∀a,a≠41->hh a=.dead:=fun S H X hX a0 a1 a6 a7 a5 b=>by
  rw[←hX];exact hr S H a0 a1 a6 a7 (by grind)
 simp only[Dp,LD,hX,go_sem];generalize hB:aj 0 [5] (L _ _)=X;obtain⟨x,hh,g0,hacc,gd⟩:=hr2 _ _ _ hB rfl rfl rfl rfl rfl rfl;rw[g0];rcases hacc with⟨c1,c2,c3⟩| ⟨c1,c2,c3⟩
 ·rw[c1]at ht;simp only[go_sem,c2,ht,ne_eq,not_false_eq_true,gd]
 ·simp only[go_sem,c2,c3,ht,ne_eq,not_false_eq_true,gd,MO,awP,awQ]
theorem adC{a b:List Nat}(ha:Lb a)(hb:Lb b)(hl:a.length=b.length)(h2:a.length<=100000):∀ (k:Nat),k<=a.length->∀ (s:ak) (h:ac),s 0=lm a->s 1=lm b->s 5=I ((k:Int)-1)->
  cr (aj 0 [] (au (ai R (az false) fh) [0,1,5] [] s h)) (ai R (az false) sU)=some (.ret,⟨upd (fun _=>.any) 4 (I (bY (ab (a.take k)) (ab (b.take k)))),fun _=>.dead⟩):=by
 intro k;induction k with
 |zero=>
  intro hk s h h0 h1 h5;rw[ag];have e1:(0<=((0:Nat):Int)-1)=False:=ff;have e2:bY (ab []) (ab [])=0:=rfl;simp only[fh,sU,go_sem,h0,h1,h5,e1,e2]
 |succ k ih=>
  intro hk s h h0 h1 h5;have ih':=ih (by omega);have e1:(0<=((k+1:Nat):Int)-1)=True:=tt;have e2:aW (aB a) (((k+1:Nat):Int)-1)=some (.ipt [U (a.getD k 0:Nat)]):=bt (by omega) (by omega);have e3:aW (aB b) (((k+1:Nat):Int)-1)=some (.ipt [U (b.getD k 0:Nat)]):=bt (by omega) (by omega);have e4:IntKind.i64.wrap (((k+1:Nat):Int)-1-1)=(k:Int)-1:=by grind[i64_in]
  have va:=eC a k;have vb:=eC b k;have la:=cG (eY ha k);have lb:=cG (eY hb k);rw[axd,axP (by omega)]at la lb;rw[ag];rcases Nat.lt_trichotomy (a.getD k 0) (b.getD k 0)with hlt|heq|hgt
  ·have e5:((a.getD k 0:Int)< (b.getD k 0:Int))=True:=tt;have e6:bY (ab (a.take (k+1))) (ab (b.take (k+1)))=-1:=by
    have:4294967296^k*(a.getD k 0+1)<=4294967296^k*b.getD k 0:=axW _ hlt;rw[Nat.mul_add]at this;simp only[bY];omega
   simp only[fh,sU,go_sem,h0,h1,h5,e1,e2,e3,e5,e6]
  ·have e5:((a.getD k 0:Int)< (b.getD k 0:Int))=False:=ff;have e7:((b.getD k 0:Int)< (a.getD k 0:Int))=False:=ff;have e6:bY (ab (a.take (k+1))) (ab (b.take (k+1)))=bY (ab (a.take k)) (ab (b.take k)):=by
    grind[bY]
   simp only[fh,go_sem,h0,h1,h5,e1,e2,e3,e5,e6,e7,e4];exact ih' _ _ rfl rfl rfl
  ·have e5:((a.getD k 0:Int)< (b.getD k 0:Int))=False:=ff;have e7:((b.getD k 0:Int)< (a.getD k 0:Int))=True:=tt;have e6:bY (ab (a.take (k+1))) (ab (b.take (k+1)))=1:=by
    have:4294967296^k*(b.getD k 0+1)<=4294967296^k*a.getD k 0:=axW _ hgt;rw[Nat.mul_add]at this;simp only[bY];omega
   simp only[fh,sU,go_sem,h0,h1,h5,e1,e2,e3,e5,e6,e7]
theorem XF{a b:List Nat}(ha:Lb a)(hb:Lb b)(h1:a.length<=100000)(_h2:b.length<=100000)(hc:a.length=b.length\/(Bb a/\Bb b)):R F.r02_compare [lm a,lm b] []=some (I (bY (ab a) (ab b)),[]):=by
 refine ax SV rfl ?_;by_cases hl:a.length=b.length
 ·have e1:((a.length:Int)=(b.length:Int))=True:=tt;have e3:IntKind.i64.wrap ((a.length:Int)-1)=(a.length:Int)-1:=i64_in _ ⟨by omega,by omega⟩;have hL:=adC ha hb hl h1 a.length (awQ _);rw[aEE,hl,aEE,←hl]at hL;generalize hLL:au (ai R (az false) fh) [0,1,5] []=L at hL;have hX:∀s h,ai R (az false) (.loop [0,1,5] [] fh) s h=L s h:=fun s h=>by rw[←hLL];rfl
  have hL2:∀s h,s 0=lm a->s 1=lm b->s 5=I ((a.length:Int)-1)->gZ false [[]] [.t 4] 0 (cr (aj 0 [] (L s h)) (ai R (az false) (.seq (.ops [4] [co 4 (.mv (.c (.v (.int .i64 0))))]) (.ret))))=some (I (bY (ab a) (ab b)),[]):=fun s h a0 a1 a5=>by
   rw[show(.seq (.ops [4] [co 4 (.mv (.c (.v (.int .i64 0))))]) (.ret):Cmd)=sU from rfl,hL s h a0 a1 a5];simp only[go_sem]
  show gZ false [[]] [.t 4] 0 (ai R (az false) sA _ _)=_;unfold sA;show gZ false [[]] [.t 4] 0 (cr (ai R (az false) (.ops [0,1] [co 4 (.mv (.c (.v (.int .i64 0))))]) _ _) fun s h=>cr (ai R (az false) (.seq (.ops [0,1,10] [cm 6 0,co 7 (.len false (.t 6)),cm 8 1,co 9 (.len false (.t 8)),co 10 (.bin .neq (.t 7) (.t 9))]) (.cond (.t 10) (.seq (.seq (.ops [15] [cm 11 0,co 12 (.len false (.t 11)),cm 13 1,co 14 (.len false (.t 13)),co 15 (.bin .lss (.t 12) (.t 14))]) (.cond (.t 15) (.seq (.ops [4] [co 4 (.mv (.c (.v (.int .i64 (-1)))))]) (.ret)) (.skip))) (.seq (.ops [4] [co 4 (.mv (.c (.v (.int .i64 1))))]) (.ret))) (.skip))) s h) fun s h=>cr (cr (ai R (az false) (.ops [0,1,5] [cm 16 0,co 17 (.len false (.t 16)),co 18 (.bin .sub (.t 17) (.c (.v (.int .i64 1)))),cm 5 18]) s h) fun s h=>aj 0 [] (ai R (az false) (.loop [0,1,5] [] fh) s h)) (ai R (az false) (.seq (.ops [4] [co 4 (.mv (.c (.v (.int .i64 0))))]) (.ret))))=_;simp only[hX];simp only[go_sem,e1,e3];exact hL2 _ _ rfl rfl rfl
 ·have e1:((a.length:Int)=(b.length:Int))=False:=ff;obtain⟨ca,cb⟩:=hc.resolve_left hl;by_cases hlt:a.length<b.length
  ·have e2:((a.length:Int)< (b.length:Int))=True:=tt;have e3:bY (ab a) (ab b)=-1:=by
    simp_all[rJ,ab,Gc,ca,bY,if_pos]
   rw[e3];simp only[vf,sA,go_sem,e1,e2]
  ·have e2:((a.length:Int)< (b.length:Int))=False:=ff;have e3:bY (ab a) (ab b)=1:=by
    have:=rJ (x:=ab b) (y:=ab a) (by grind[Gc,ca]);unfold bY;omega
   rw[e3];simp only[vf,sA,go_sem,e1,e2]
theorem abx:∀ (x b:Nat),x<4294967296->b+af x<=100000000->∀ (s:ak) (h:ac),s 4=I b->s 5=U x->
  aj 2 [4] (au (ai R (az false) lw) [4,5] [] s h)=some (.normal,⟨upd (fun _=>.any) 4 (I (b+af x:Nat)),fun _=>.dead⟩):=by
 intro x;induction x using Nat.strongRecOn with
 |ind x ih=>
  intro b hx hb s h h3 h4;rw[ag];by_cases h0:x=0
  ·have e1:(0< (x:Int))=False:=ff;rw[h0,pe,axo];rw[h0]at e1 h4;simp only[lw,go_sem,h3,h4,e1]
  ·have e1:(0< (x:Int))=True:=tt;have e2:=Hn (n:=x) (k:=1) (kk:=.u64) (j:=1) rfl rfl (by omega);have e3:IntKind.i64.wrap ((b:Int)+1)=((b+1:Nat):Int):=wi;have e4:af x=1+af (x/2^1):=by
    have h5:=kl x 1;have h6:=eL h0;omega
   have ih':=ih (x/2^1) (by omega) (b+1) (by omega) (by omega);rw[show b+af x=b+1+af (x/2^1)by omega];generalize au _ _ _=L at ih'⊢;simp only[lw,go_sem,h3,h4,e1,e2,e3];exact ih' _ _ rfl rfl
theorem adD{y x j:Nat}(hy:y<4294967296^j)(hx:x≠0):af (y+4294967296^j*x)=32*j+af x:=by
 have e:(4294967296:Nat)^j=2^ (32*j):=by
  rw[Nat.pow_mul]
 rw[e]at hy⊢;have h1:2^ (32*j)<=y+2^ (32*j)*x:=awX (Nat.le_mul_of_pos_right _ (Nat.pos_of_ne_zero hx)) (Nat.le_add_left _ _);rw[BC _ h1,Nat.add_mul_div_left _ _ (axb _),Nat.div_eq_of_lt hy,awP]
theorem adE{m:List Nat}(hb:Lb m)(hl:m.length<=100000):∀ (k:Nat),k<=m.length->∀ (s:ak) (h:ac),s 0=lm m->s 3=I ((k:Int)-1)->
  cr (aj 0 [] (au (ai R (az false) ig) [0,3] [] s h)) (ai R (az false) (.seq (.ops [2] [co 2 (.mv (.c (.v (.int .i64 0))))]) (.ret)))=some (.ret,⟨upd (fun _=>.any) 2 (I (af (ab (m.take k)):Nat)),fun _=>.dead⟩):=by
 intro k;induction k with
 |zero=>
  intro hk s h h0 h3;rw[ag];generalize au _ _ _=L;have e1:(0<=((0:Nat):Int)-1)=False:=ff;have e2:((af (ab []):Nat):Int)=0:=rfl;simp only[ig,go_sem,h0,h3,e1,List.take_zero,e2]
 |succ k ih=>
  intro hk s h h0 h3;have ih':=ih (by omega);have ek:((k+1:Nat):Int)-1=(k:Int):=by omega
  rw[ek]at h3;have e1:(0<=(k:Int))=True:=tt;have e2:aW (aB m) (k:Int)=some (.ipt [U (m.getD k 0:Nat)]):=bt rfl (by omega);have e4:IntKind.i64.wrap ((k:Int)-1)=(k:Int)-1:=by rw[i64_in]<;>omega
  have hx:=bN hb k;have va:=eC m k;have la:=cG (eY hb k);rw[axd,axP (by omega)]at la;rw[ag];by_cases hz:m.getD k 0=0
  ·have e3:((m.getD k 0:Int)=0)=True:=tt;have e6:ab (m.take (k+1))=ab (m.take k):=by rw[va,hz,Nat.mul_zero,axo]
   rw[e6];generalize au _ _ _=L at ih'⊢;generalize hT:ai R (az false) (.seq (.ops [2] [co 2 (.mv (.c (.v (.int .i64 0))))]) (.ret))=T at ih'⊢;simp only[ig,go_sem,h0,h3,e1,e2,e3,e4];exact ih' _ _ rfl rfl
  ·have e3:((m.getD k 0:Int)=0)=False:=ff;have e6:=adD la hz;rw[←va]at e6;rw[e6];have e5:IntKind.i64.wrap (32*(k:Int))=((32*k:Nat):Int):=wi;have hbl:=(bK (k:=32)).2 hx;have e7:=abx (m.getD k 0) (32*k) hx (by omega);generalize au (ai R (az false) ig) _ _=L;generalize hLL:au (ai R (az false) lw) [4,5] []=L0 at e7;have hX:∀s h,ai R (az false) (.loop [4,5] [] lw) s h=L0 s h:=fun s h=>by rw[←hLL];rfl
   simp only[ig,hX,go_sem,h0,h3,e1,e2,e3,e5];rw[e7 _ _ rfl rfl];simp only[go_sem]
theorem age{m:List Nat}(hb:Lb m)(hl:m.length<=100000):R F.r01_Bits [lm m] []=some (I (af (ab m):Nat),[]):=by
 refine ax aa8 rfl ?_;have e2:IntKind.i64.wrap ((m.length:Int)-1)=(m.length:Int)-1:=i64_in _ ⟨by omega,by omega⟩;have hL:=adE hb hl m.length (awQ _);rw[aEE]at hL;generalize hLL:au (ai R (az false) ig) [0,3] []=L at hL;have hX:∀s h,ai R (az false) (.loop [0,3] [] ig) s h=L s h:=fun s h=>by rw[←hLL];rfl
 show gZ false [[]] [.t 2] 0 (ai R (az false) Hc _ _)=_;unfold Hc;show gZ false [[]] [.t 2] 0 (cr (ai R (az false) (.ops [0] [co 2 (.mv (.c (.v (.int .i64 0))))]) _ _) fun s h=>cr (cr (ai R (az false) (.ops [0,3] [cm 6 0,co 7 (.len false (.t 6)),co 8 (.bin .sub (.t 7) (.c (.v (.int .i64 1)))),cm 3 8]) s h) fun s h=>aj 0 [] (ai R (az false) (.loop [0,3] [] ig) s h)) (ai R (az false) (.seq (.ops [2] [co 2 (.mv (.c (.v (.int .i64 0))))]) (.ret))))=_;simp only[hX];generalize hT:ai R (az false) (.seq (.ops [2] [co 2 (.mv (.c (.v (.int .i64 0))))]) (.ret))=T at hL⊢;simp only[go_sem,e2];rw[hL _ _ rfl rfl];simp only[go_sem]
theorem aCI{a b:List Nat}(ha:Lb a)(hb:Lb b){i n:Nat}(h1:a.length<=100000)(h2:b.length<=100000)(hi:i<a.length):∀ (bs:List Nat) (k:Nat) (D S:List Nat) (c:Nat),b.drop k=bs->k<=b.length->D.length=i+k->bs.length<=S.length->(D++S).length=n->Lb S->c<4294967296->
  ∀ (s:ak) (h:ac),s 0=lm a->s 1=lm b->s 5=.rsl 18 none 1 0 n->s 6=I i->s 7=W c->s 8=I k->h 18=.ar 1 (aB (D++S))->
  aj 2 [0,1,5,6,7] (au (ai R (az false) aAN) [0,1,5,6,7,8] [18] s h)=
   some (.normal,⟨upd (upd (upd (upd (upd (fun _=>.any) 7 (W ((mi (a.getD i 0) c bs S).2:Nat))) 6 (I i)) 5 (.rsl 18 none 1 0 n)) 1 (lm b)) 0 (lm a),upd (fun _=>.dead) 18 (.ar 1 (aB (D++(mi (a.getD i 0) c bs S).1)))⟩):=by
 have hx:=bN ha i;intro bs;induction bs with
 |nil=>
  intro k D S c hd hk hD hS hn hLS hc s h h0 h1 h5 h6 h7 h8 hh;have:k=b.length:=by
   grind
  subst this;rw[ag];simp only[aAN,go_sem,h0,h1,h5,h6,h7,h8,hh,axU,mi]
 |cons y bs ih=>
  intro k D S c hd hk hD hS hn hLS hc s h h0 h1' h5 h6 h7 h8 hh;obtain⟨o,S,rfl⟩:∃o S',S=o::S':=by
   cases S with
   |nil=>grind
   |cons o S=>grind
  have hlt:k<b.length:=by
   grind
  have hy:b.getD k 0=y:=by
   have:=congrArg (·[0]?) hd;grind
  have hyb:y<4294967296:=by grind[bN]
  have hob:o<4294967296:=(iL.1 hLS).1;have e0:aW (aB a) (i:Int)=some (.ipt [U (a.getD i 0:Nat)]):=bt rfl hi;generalize a.getD i 0=x at hx e0 ih⊢;have hml:=ac3 hx hyb hob hc;have hxy:x*y<18446744073709551616:=by omega
  have ih':=ih (k+1) (D++[(x*y+o+c) %4294967296]) S ((x*y+o+c)/4294967296) (by rw[←List.drop_drop,hd];rfl) hlt (by grind) (by grind) (by grind) (iL.1 hLS).2 (by omega);have e1:((k:Int)< (b.length:Int))=True:=tt;have e2:aW (aB b) (k:Int)=some (.ipt [U (y:Nat)]):=by grind[bt]
  have e3:IntKind.i64.wrap ((k:Int)+1)=((k+1:Nat):Int):=wi;have e4:IntKind.i64.wrap ((i:Int)+(k:Int))=((i+k:Nat):Int):=wi;have e5:(0<=((i+k:Nat):Int))=True:=tt;have hin:i+k<n:=by grind
  have e6:(((i+k:Nat):Int)< (n:Int))=True:=tt;have e7:(aB (D++o::S))[i+k]?=some [U (o:Nat)]:=by
   grind[kj]
  have f1:IntKind.u64.wrap (x:Int)=x:=dE rfl (by omega);have f2:IntKind.u64.wrap (y:Int)=y:=dE rfl (by omega);have f3:IntKind.u64.wrap ((x:Int)*(y:Int))=((x*y:Nat):Int):=dE (by simp) hxy;have f4:IntKind.u64.wrap (o:Int)=o:=dE rfl (by omega);have f5:IntKind.u64.wrap (((x*y:Nat):Int)+(o:Int))=((x*y+o:Nat):Int):=dE (by omega) (by omega);have f6:IntKind.u64.wrap (((x*y+o:Nat):Int)+(c:Int))=((x*y+o+c:Nat):Int):=dE (by omega) (by omega);have f10:=BG (n:=x*y+o+c) rfl (by omega);have f7:IntKind.u32.wrap (((x*y+o+c) %4294967296:Nat):Int)=(((x*y+o+c) %4294967296:Nat):Int):=BB rfl (by omega);have f8:=pR (n:=x*y+o+c) (k:=32) (kk:=.u64) (j:=32) rfl rfl (by omega);have f9:(aB (D++o::S)).set (i+k) [U ((x*y+o+c) %4294967296:Nat)]=aB (D++[(x*y+o+c) %4294967296]++S):=by
   rw[nX,←hD,List.set_append_right _ _ (awQ _)];simp
  rw[ag];generalize au _ _ _=L at ih'⊢;simp only[aAN,go_sem,h0,h1',h5,h6,h7,h8,hh,e0,e1,e2,e3,e4,e5,e6,e7,f1,f2,f3,f4,f5,f6,f7,f8,f9,f10,awY,awP,mi];rw[ih' _ _ rfl rfl rfl rfl rfl rfl rfl];grind
theorem aBV{a b:List Nat}{i n j:Nat}{rows:List (List AV)}(s:ak)(h:ac)(h0:s 0=lm a)(h1:s 1=lm b)(h5:s 5=.rsl 18 none 1 0 n)(h6:s 6=I i)(h7:s 7=W 0)(h10:s 10=I j)(hh:h 18=.ar 1 rows):
  aj 4 [0,1,5,6] (au (ai R (az false) aAJ) [0,1,5,6,7,10] [18] s h)=some (.normal,⟨upd (upd (upd (upd (fun _=>.any) 6 (I i)) 5 (.rsl 18 none 1 0 n)) 1 (lm b)) 0 (lm a),upd (fun _=>.dead) 18 (.ar 1 rows)⟩):=by
 rw[ag];simp only[aAJ,go_sem,h0,h1,h5,h6,h7,h10,hh,axU]
theorem aCW{a b:List Nat}{i n j c:Nat}{rows rows':List (List AV)}(hc:c<4294967296)(hj:j<n)(hn:n<=1000000)(hg:rows[j]?=some [U (0:Nat)])(hs:rows.set j [U (c:Nat)]=rows')(hz:c=0->rows=rows')(s:ak)(h:ac)(h0:s 0=lm a)(h1:s 1=lm b)(h5:s 5=.rsl 18 none 1 0 n)(h6:s 6=I i)(h7:s 7=W c)(h10:s 10=I j)(hh:h 18=.ar 1 rows):
  aj 4 [0,1,5,6] (au (ai R (az false) aAJ) [0,1,5,6,7,10] [18] s h)=some (.normal,⟨upd (upd (upd (upd (fun _=>.any) 6 (I i)) 5 (.rsl 18 none 1 0 n)) 1 (lm b)) 0 (lm a),upd (fun _=>.dead) 18 (.ar 1 rows')⟩):=by
 by_cases h00:c=0
 ·grind[aBV]
 ·have e1:(0< (c:Int))=True:=tt;have e2:(0<=(j:Int))=True:=tt;have e3:((j:Int)< (n:Int))=True:=tt;have e4:IntKind.u64.wrap ((0:Nat):Int)=((0:Nat):Int):=dE rfl (by omega);have e5:IntKind.u64.wrap (((0:Nat):Int)+(c:Int))=(c:Int):=dE (by omega) (by omega);have e6:=BG (n:=c) rfl (by omega);rw[axK hc]at e6;have e7:IntKind.u32.wrap (c:Int)=(c:Int):=BB rfl hc;have e8:=pR (n:=c) (k:=32) (kk:=.u64) (j:=32) rfl rfl (by omega);rw[Nat.div_eq_of_lt hc]at e8;have e9:IntKind.i64.wrap ((j:Int)+1)=((j+1:Nat):Int):=wi;have c0:=aBV (a:=a) (b:=b) (i:=i) (n:=n) (j:=j+1) (rows:=rows');rw[ag];simp only[aAJ,go_sem,h0,h1,h5,h6,h7,h10,hh,e1,e2,e3,e4,e5,e6,e7,e8,e9,hg,hs,awY,awP];exact c0 _ _ rfl rfl rfl rfl rfl rfl rfl
theorem aCw{a b:List Nat}(ha:Lb a)(hb:Lb b)(h1:a.length<=10000)(h2:b.length<=10000):∀ (k i:Nat),i+k=a.length->∀ (s:ak) (h:ac),s 0=lm a->s 1=lm b->s 5=.rsl 18 none 1 0 (a.length+b.length+1)->s 6=I i->h 18=.ar 1 (aB (dW a b i++awO (k+1) 0))->
  aj 0 [5] (au (ai R (az false) aA0) [0,1,5,6] [18] s h)=
   some (.normal,⟨upd (fun _=>.any) 5 (.rsl 18 none 1 0 (a.length+b.length+1)),upd (fun _=>.dead) 18 (.ar 1 (aB (dW a b a.length++[0])))⟩):=by
 intro k;induction k with
 |zero=>
  intro i hi s h h0 h1 h5 h6 hh;have:i=a.length:=by omega
  subst this;rw[ag];simp only[awP,List.replicate_one]at hh;simp only[aA0,go_sem,h0,h1,h5,h6,hh,axU]
 |succ k ih=>
  intro i hi s h h0 g1 h5 h6 hh;have ih':=ih (i+1) (by omega);have hx:=bN ha i;have hP:(dW a b i).length=i+b.length:=cR _ _;have hLP:Lb (dW a b i):=nV _ _;have hsp:dW a b i++awO (k+1+1) 0=(dW a b i).take i++((dW a b i).drop i++awO (k+1+1) 0):=by rw[←axL,List.take_append_drop]
  have e1:((i:Int)< (a.length:Int))=True:=tt;have e3:IntKind.i64.wrap ((i:Int)+1)=((i+1:Nat):Int):=wi;have e4:IntKind.i64.wrap ((i:Int)+(b.length:Int))=((i+b.length:Nat):Int):=wi;have lp:=aCI ha hb (i:=i) (n:=a.length+b.length+1) (by omega) (by omega) (by omega) b 0 ((dW a b i).take i) ((dW a b i).drop i++awO (k+1+1) 0) 0 rfl (axz _) (by grind) (by grind) (by grind)
   (oZ.2 ⟨mG hLP i,fun y hy=>by grind⟩) (by omega)
  rw[ac2 _ _ _ _ _ (by grind)]at lp;have ml:(mi (a.getD i 0) 0 b ((dW a b i).drop i)).1.length=b.length:=by grind[Jn]
  have mc:=MD hx b ((dW a b i).drop i) 0 hb (mG hLP i) (by omega);have ps:=ac5 ha hb (show i<a.length from by omega);rw[hsp]at hh;generalize mi (a.getD i 0) 0 b ((dW a b i).drop i)=r at*
  have e7:(aB ((dW a b i).take i++(r.1++awO (k+1+1) 0)))[i+b.length]?=some [U (0:Nat)]:=by
   grind[axL,kj]
  have e8:(aB ((dW a b i).take i++(r.1++awO (k+1+1) 0))).set (i+b.length) [U (r.2:Nat)]=aB (dW a b (i+1)++awO (k+1) 0):=by
   grind[axL,nX,Va,dW]
  have hz:r.2=0->aB ((dW a b i).take i++(r.1++awO (k+1+1) 0))=aB (dW a b (i+1)++awO (k+1) 0):=fun h0=>by
   grind
  have lc:=aCW (a:=a) (b:=b) (i:=i) (n:=a.length+b.length+1) (j:=i+b.length) mc (by omega) (by omega) e7 e8 hz;rw[ag];simp only[axB]at lp;simp only[aA0,go_sem,h0,g1,h5,h6,hh,e1];rw[lp _ _ rfl rfl rfl rfl rfl rfl rfl];simp only[go_sem,e4];rw[lc _ _ rfl rfl rfl rfl rfl rfl rfl];simp only[go_sem,e3];exact ih' _ _ rfl rfl rfl rfl rfl
theorem aCx{a b:List Nat}(ha:Lb a)(hb:Lb b)(h1:a.length<=10000)(h2:b.length<=10000):R F.r02_times [lm a,lm b] []=some (lm (av (ab a*ab b)),[]):=by
 refine ax aB7 rfl ?_;have e1:IntKind.i64.wrap ((a.length:Int)+(b.length:Int))=((a.length+b.length:Nat):Int):=wi;have e1':IntKind.i64.wrap (((a.length+b.length:Nat):Int)+1)=((a.length+b.length+1:Nat):Int):=wi;have e2:=qM (i:=((a.length+b.length+1:Nat):Int)) (j:=((a.length+b.length+1:Nat):Int)) rfl rfl (awQ _) (by omega);have e3:((a.length+b.length+1)*4<=140737488355328)=True:=tt;have e4:=aCw ha hb h1 h2 a.length 0 (by omega);have e0:dW a b 0=awO b.length 0:=by
  have:∀n,dy n 0=awO n 0:=fun n=>by
   induction n with
   |zero=>rfl
   |succ n ih=>simp[dy,ih,List.replicate_succ]
  grind[dW,ab]
 have e5:aB (awO (a.length+b.length+1) 0)=aB (dW a b 0++awO (a.length+1) 0):=by
  grind[List.replicate_append_replicate]
 have e6:dW a b a.length=dy (a.length+b.length) (ab a*ab b):=by rw[dW,aEE]
 have hLb:Lb (dW a b a.length++[0]):=oZ.2 ⟨by grind[nV],iL.2 ⟨by decide,Jd⟩⟩;have hlen:(dW a b a.length++[0]).length=a.length+b.length+1:=by grind[cR]
 have hv:ab (dW a b a.length++[0])=ab a*ab b:=by
  rw[dV,e6,lA,axK]
  all_goals simp_all[ab,axa,Nat.mul_lt_mul'',cG]
 have ht:=DX hLb (by omega);rw[hv]at ht;have f4:=MO (dW a b a.length++[0]);rw[hlen]at f4;simp only[aBm,aBD,go_sem,e1,e1',e2,e3,AC,e5];rw[e4 _ _ rfl rfl rfl rfl rfl];simp only[go_sem,f4,ht,hlen,PQ,awP,awQ]
theorem EY{d:Rd}(ok:Ok0 d):R F.r02_Valid [ae d] []=some (B (vd d),[]):=by
 refine ax Xq rfl ?_;unfold vd;have hl:=ok.len;by_cases a0:d.m.length=0
 ·rw[if_pos a0];have e1:((d.m.length:Int)=0)=True:=tt;cases hn:d.neg with
  |true=>simp only[fV,iT,ae,ah,hn,go_sem,e1,Bool.not_true,awU]
  |false=>simp only[fV,iT,ae,ah,hn,go_sem,e1,axZ,awT]
 rw[if_neg a0];have e1:((d.m.length:Int)=0)=False:=ff;by_cases a1:¬d.m.length<=256
 ·have e2:(256< (d.m.length:Int))=True:=tt;rw[decide_eq_false a1,awU];simp only[fV,iT,ae,ah,go_sem,e1,e2]
 replace a1:=Decidable.not_not.1 a1
 have e2:(256< (d.m.length:Int))=False:=ff;have e3:aW (aB d.m) 0=some (.ipt [U (d.m.getD 0 0:Nat)]):=bt rfl (by omega);have e6:IntKind.i64.wrap ((d.m.length:Int)-1)=((d.m.length-1:Nat):Int):=wi;have e7:aW (aB d.m) ((d.m.length-1:Nat):Int)=some (.ipt [U (d.m.getD (d.m.length-1) 0:Nat)]):=bt rfl (by omega);have hx:=bN ok.lb 0;rw[decide_eq_true a1,awT];by_cases a3:d.m.getD (d.m.length-1) 0=0
 ·have e8:((d.m.getD (d.m.length-1) 0:Int)=0)=True:=tt;rw[decide_eq_false (p:=d.m.getD (d.m.length-1) 0≠0) (fun h=>h a3),awU,axx];simp only[fV,iT,ae,ah,go_sem,e1,e2,e6,e7,e8]
 have e8:((d.m.getD (d.m.length-1) 0:Int)=0)=False:=ff;rw[decide_eq_true (p:=d.m.getD (d.m.length-1) 0≠0) a3,awT];have e4:=VB (n:=d.m.getD 0 0) rfl hx;by_cases a2:¬d.m.getD 0 0%2=1
 ·have e5:(((d.m.getD 0 0%2:Nat):Int)=0)=True:=tt;rw[decide_eq_false a2,awU];simp only[fV,iT,ae,ah,go_sem,e1,e2,e3,e4,e5,e6,e7,e8]
 replace a2:=Decidable.not_not.1 a2
 have e5:(((d.m.getD 0 0%2:Nat):Int)=0)=False:=ff;rw[decide_eq_true a2,awT];have hv:ab d.m≠0:=Je (Or.inr a3) (fun h=>a0 (by grind));have hbp:=eL hv;unfold qF;rw[decide_eq_false (p:=af (ab d.m)=0) (by omega),axY];by_cases a4:d.e< -16384
 ·have f1:(d.e< -16384)=True:=tt a4;rw[decide_eq_false (p:=-16384<=d.e) (by omega),awU,axx];simp only[fV,iT,ae,ah,go_sem,e1,e2,e3,e4,e5,e6,e7,e8,f1]
 have f1:(d.e< -16384)=False:=ff a4;rw[decide_eq_true (p:=-16384<=d.e) (by omega),awT];by_cases a5:16384<d.e
 ·have f2:(16384<d.e)=True:=tt a5;rw[decide_eq_false (p:=d.e<=16384) (by omega),awU,axx];simp only[fV,iT,ae,ah,go_sem,e1,e2,e3,e4,e5,e6,e7,e8,f1,f2]
 have f2:(16384<d.e)=False:=ff a5;rw[decide_eq_true (p:=d.e<=16384) (by omega),awT];have hb:=VC ok.lb (by omega) (Or.inr a3);have hbl:=Hr ok.lb;have w1:IntKind.i64.wrap (((af (ab d.m):Nat):Int)+d.e)=((af (ab d.m):Nat):Int)+d.e:=i64_in _ ⟨by omega,by omega⟩;by_cases a6:af (ab d.m)<=4096
 ·have f3:(((af (ab d.m):Nat):Int)<=4096)=True:=tt;rw[decide_eq_true a6,awT];simp only[fV,iT,ae,ah,go_sem,e1,e2,e3,e4,e5,e6,e7,e8,f1,f2,hb,f3,w1]
 ·have f3:(((af (ab d.m):Nat):Int)<=4096)=False:=ff;rw[decide_eq_false a6,awU];simp only[fV,iT,ae,ah,go_sem,e1,e2,e3,e4,e5,e6,e7,e8,f1,f2,hb,f3]
theorem Ov{neg:Bool}{m:List Nat}{e:Int}(hb:Lb m)(h1:m.length<=9000)(he:-1000000<=e/\e<=1000000):R F.r02_Of [B neg,lm m,I e] []=some (ae (bm neg (ab m) e),[]):=by
 refine ax afI rfl ?_;have ht:=DX hb (by omega);have la:=dp m hb;obtain⟨M,hM⟩:∃M,ab m=M:=⟨_,rfl⟩;rw[hM]at ht la⊢;by_cases h0:M=0
 ·have e1:(((av M).length:Int)=0)=True:=tt (by grind[fj]);rw[h0,iN];simp only[EB,L7,ae,ah,aI,go_sem,ht,e1]
 ·have e1:(((av M).length:Int)=0)=False:=ff (fun h=>h0 (nU.1 (List.length_eq_zero_iff.1 (by omega))));have hz:=adv (aZ M) (by omega) (by grind[aN]);rw[aN]at hz;have htz:tz M<32*(av M).length:=by
   refine Tj h0 ?_;grind[cG,aZ,aN,Nat.pow_mul]
  have hr:=ady (aZ M) (n:=tz M) (by omega) (by omega);rw[aN]at hr;have w1:IntKind.i64.wrap (e+((tz M:Nat):Int))=e+((tz M:Nat):Int):=i64_in _ ⟨by omega,by omega⟩;rw[iw h0];simp only[EB,L7,ae,ah,go_sem,ht,e1,hz,hr,w1]
def aby(d:Rd):Rd:=⟨!d.neg&&decide (0<d.m.length),d.m,d.e⟩
theorem aiK{d:Rd}:R F.r02_Neg [ae d] []=some (ae (aby d),[]):=by
 refine ax acQ rfl ?_;unfold aby
 cases hn:d.neg with
 |true=>simp only[Cw,IV,ae,ah,go_sem,hn,Bool.not_true,awU]
 |false=>
  have e:decide (0< (d.m.length:Int))=decide (0<d.m.length):=by grind
  simp only[Cw,IV,ae,ah,go_sem,hn,axZ,awT,e]
theorem aiL{d:Rd}(h:vd d=true):aby d=gJ d:=by
 unfold aby gJ;by_cases h0:d.m.length=0
 ·have:=AD h h0;subst this;rfl
 ·rw[if_neg (fun h2=>h2.elim (fun h3=>by grind) h0),decide_eq_true (by omega),Bool.and_true]
theorem vS{d:Rd}(h:vd d=true):zI (gJ d)=-zI d/\vd (gJ d)=true:=by
 unfold gJ;by_cases h0:d.m.length=0
 ·rw[if_pos (Or.inr h0),cF h0];exact⟨by rw[cF rfl];rfl,rfl⟩
 ·constructor
  ·grind[zI,mg]
  simp_all[vd,if_neg]
theorem MP{d:Rd}:R F.r02_Sign [ae d] []=some (I (cO d),[]):=by
 refine ax aaY rfl ?_;unfold cO;by_cases h0:d.m.length=0
 ·have e1:((d.m.length:Int)=0)=True:=tt;rw[if_pos h0];simp only[wJ,Cy,ae,ah,go_sem,e1]
 ·have e1:((d.m.length:Int)=0)=False:=ff;rw[if_neg h0];cases hn:d.neg with
  |true=>
   simp only[wJ,Cy,ae,ah,go_sem,e1,hn]
  |false=>
   simp only[wJ,Cy,ae,ah,go_sem,e1,hn]
theorem VF{d:Rd}(h:vd d=true):Bb d.m:=by
 by_cases h0:d.m.length=0
 ·exact Or.inl (List.length_eq_zero_iff.1 h0)
 ·exact Or.inr (wT h h0).2.2.1
theorem Yx{d:Rd}(ok:Ok0 d)(h:vd d=true):R F.r02_Top [ae d] []=some (I (aL d),[]):=by
 refine ax acS rfl ?_;by_cases h0:d.m.length=0
 ·have e1:((d.m.length:Int)=0)=True:=tt;rw[aL,if_pos (Or.inr h0)];simp only[Cz,I1,ae,ah,go_sem,e1]
 ·have e1:((d.m.length:Int)=0)=False:=ff;obtain⟨h1,h2,h3,h4⟩:=dM h ok.lb;rw[iv h h0];have hb:=VC ok.lb (by omega) (VF h);have w1:IntKind.i64.wrap (((af (ab d.m):Nat):Int)+d.e)=((af (ab d.m):Nat):Int)+d.e:=i64_in _ ⟨by omega,by omega⟩;simp only[Cz,I1,ae,ah,go_sem,e1,hb,w1]
def cM(z f:Int):Rd:=bm (decide (z<0)) z.natAbs f
theorem yi{neg:Bool}{n:Nat}{f:Int}:bm neg n f=cM (bB neg n) f:=by
 unfold cM;by_cases h0:n=0
 ·subst h0;cases neg<;>exact iN.symm
 ·cases neg with
  |false=>
   rw[lg,Int.natAbs_natCast,decide_eq_false (by omega)]
  |true=>
   rw[pf,Int.natAbs_neg,Int.natAbs_natCast,decide_eq_true (by omega)]
theorem adF{n:Nat}(h:n%2=1)(k:Nat):tz (n*2^k)=k:=by
 rw[axf,Jg k (by omega),uA h,axo]
theorem AL{d:Rd}(ok:Ok0 d)(h:vd d=true):cM (zI d) (-16384)=d:=by
 by_cases h0:d.m.length=0
 ·rw[cF h0];have:=AD h h0;subst this;exact iN
 ·obtain⟨h1,h2,h3,h4⟩:=wT h h0;obtain⟨g1,g2,g3,g4⟩:=dM h ok.lb;have hz:zI d=bB d.neg (mg d):=by
   grind[zI,bB]
  rw[hz,←yi];unfold mg;rw[jk,iw (dh h h0)];have ho:ab d.m%2=1:=by
   have:=fu d.m 0;grind
  rw[uA ho,Nat.pow_zero,Nat.div_one,Gc ok.lb (VF h)];obtain⟨n,m,e⟩:=d;grind
theorem zJ{x y:Nat}(h:x<=y):(av x).length<=(av y).length:=Nat.not_lt.1 fun h2=>by
 have:=rJ h2;omega
theorem aiM{a b:Rd}(oa:Ok0 a)(ob:Ok0 b)(va:vd a=true)(vb:vd b=true):R F.r02_Sum [ae a,ae b] []=some (ae (cM (zI a+zI b) (-16384)),[]):=by
 refine ax acR rfl ?_;by_cases a0:a.m.length=0
 ·have e1:((a.m.length:Int)=0)=True:=tt;rw[cF a0,Int.zero_add,AL ob vb];simp only[rn,xY,ae,ah,go_sem,e1]
 have e1:((a.m.length:Int)=0)=False:=ff;by_cases b0:b.m.length=0
 ·have e2:((b.m.length:Int)=0)=True:=tt;rw[cF b0,Int.add_zero,AL oa va];simp only[rn,xY,ae,ah,go_sem,e1,e2]
 have e2:((b.m.length:Int)=0)=False:=ff;obtain⟨a1,a2,a3,a4⟩:=dM va oa.lb;obtain⟨b1,b2,b3,b4⟩:=dM vb ob.lb;obtain⟨e,he⟩:∃e,(if b.e<a.e then b.e else a.e)=e:=⟨_,rfl⟩;have he1:-16384<=e/\e<=a.e/\e<=b.e:=by
  omega
 have w1:IntKind.i64.wrap (a.e-e)=(((a.e-e).toNat:Nat):Int):=wi;have w2:IntKind.i64.wrap (b.e-e)=(((b.e-e).toNat:Nat):Int):=wi;have l1:=VE oa.lb (n:=(a.e-e).toNat) (by omega) (by omega);have l2:=VE ob.lb (n:=(b.e-e).toNat) (by omega) (by omega);have z1:zI a=bB a.neg (ab a.m*2^ (a.e-e).toNat*2^ (e+16384).toNat):=by
  grind[zI,bB,mg,uE]
 have z2:zI b=bB b.neg (ab b.m*2^ (b.e-e).toNat*2^ (e+16384).toNat):=by
  grind[zI,bB,mg,uE]
 have bx:af (ab a.m*2^ (a.e-e).toNat)<=36864:=by
  grind[dq,dh]
 have by':af (ab b.m*2^ (b.e-e).toNat)<=36864:=by
  grind[dq,dh]
 rw[z1,z2];generalize ab a.m*2^ (a.e-e).toNat=x at l1 bx⊢;generalize ab b.m*2^ (b.e-e).toNat=y at l2 by'⊢;have lx:(av x).length<=1152:=aT (by omega);have ly:(av y).length<=1152:=aT (by omega);have hsum:∀ (n:Bool) (z:Nat),bm n z e=cM (bB n (z*2^ (e+16384).toNat)) (-16384):=fun n z=>by
  rw[←yi,jk,show-16384+(((e+16384).toNat:Nat):Int)=e by omega]
 have hcp:=XF (aZ x) (aZ y) (by omega) (by omega) (Or.inr ⟨Jf x,Jf y⟩);rw[aN,aN]at hcp;by_cases hs:a.neg=b.neg
 ·have p1:=agd (aZ x) (aZ y) (by omega) (by omega);rw[aN,aN]at p1;have bz:af (x+y)<=36865:=DT bx by';have o1:=Ov (neg:=a.neg) (m:=av (x+y)) (e:=e) (aZ _) (awX (aT (k:=1153) (by omega)) (by decide)) ⟨by omega,by omega⟩;rw[aN,hsum]at o1;have hz:bB a.neg (x*2^ (e+16384).toNat)+bB b.neg (y*2^ (e+16384).toNat)=bB a.neg ((x+y)*2^ (e+16384).toNat):=by
   rw[←hs,axk];cases a.neg
   all_goals grind[lg,pf]
  rw[hz];generalize cM (bB a.neg ((x+y)*2^ (e+16384).toNat)) (-16384)=r at o1⊢;have hs2:(a.neg==b.neg)=true:=by grind
  have hs3:(false != (a.neg==b.neg))=true:=by grind
  simp only[ae,ah]at o1;simp only[rn,xY,ae,ah,go_sem,e1,e2,he,w1,w2,l1,l2,hs3,p1,o1]
 ·have hs2:(a.neg==b.neg)=false:=by
   grind
  have hs3:(false != (a.neg==b.neg))=false:=by grind
  have hbn:b.neg=!a.neg:=by
   grind
  by_cases hlt:x<y
  ·have e5:(0<=bY x y)=False:=ff (by simp_all[bY,if_pos]);have m1:=Rw (aZ y) (aZ x) (by omega) (zJ (by omega)) (by grind[aN]);rw[aN,aN]at m1;have o1:=Ov (neg:=b.neg) (m:=av (y-x)) (e:=e) (aZ _) (awX (zJ (Nat.sub_le _ _)) (by omega)) ⟨by omega,by omega⟩;rw[aN,hsum]at o1;have hz:bB a.neg (x*2^ (e+16384).toNat)+bB b.neg (y*2^ (e+16384).toNat)=bB b.neg ((y-x)*2^ (e+16384).toNat):=by
    grind[Bool.not_true,lg,pf]
   rw[hz];generalize cM (bB b.neg ((y-x)*2^ (e+16384).toNat)) (-16384)=r at o1⊢;simp only[ae,ah]at o1;simp only[rn,xY,ae,ah,go_sem,e1,e2,he,w1,w2,l1,l2,hs3,hcp,e5,m1,o1]
  ·have e5:(0<=bY x y)=True:=tt (by unfold bY;omega);have m1:=Rw (aZ x) (aZ y) (by omega) (zJ (by omega)) (by grind[aN]);rw[aN,aN]at m1;have o1:=Ov (neg:=a.neg) (m:=av (x-y)) (e:=e) (aZ _) (awX (zJ (Nat.sub_le _ _)) (by omega)) ⟨by omega,by omega⟩;rw[aN,hsum]at o1;have hz:bB a.neg (x*2^ (e+16384).toNat)+bB b.neg (y*2^ (e+16384).toNat)=bB a.neg ((x-y)*2^ (e+16384).toNat):=by
    grind[Bool.not_true,lg,pf]
   rw[hz];generalize cM (bB a.neg ((x-y)*2^ (e+16384).toNat)) (-16384)=r at o1⊢;simp only[ae,ah]at o1;simp only[rn,xY,ae,ah,go_sem,e1,e2,he,w1,w2,l1,l2,hs3,hcp,e5,m1,o1]
theorem aB8{a b:Rd}(oa:Ok0 a)(ob:Ok0 b)(va:vd a=true)(vb:vd b=true):R F.r02_Product [ae a,ae b] []=some (ae (bm (a.neg !=b.neg) (ab a.m*ab b.m) (a.e+b.e)),[]):=by
 refine ax aBU rfl ?_;obtain⟨a1,a2,a3,a4⟩:=dM va oa.lb;obtain⟨b1,b2,b3,b4⟩:=dM vb ob.lb;have t1:=aCx oa.lb ob.lb (by omega) (by omega);have hp:=Jp (ab a.m) (ab b.m);have w1:IntKind.i64.wrap (a.e+b.e)=a.e+b.e:=i64_in _ ⟨by omega,by omega⟩;have o1:=Ov (neg:=a.neg !=b.neg) (m:=av (ab a.m*ab b.m)) (e:=a.e+b.e) (aZ _) (awX (aT (k:=256) (by omega)) (by decide)) ⟨by omega,by omega⟩;rw[aN]at o1;simp only[aBf,aBw,ae,ah,go_sem,t1,w1,zF,o1]
theorem ar3:(true==true)=true:=rfl
theorem ar4:(true==false)=false:=rfl
theorem ar5:(false==true)=false:=rfl
theorem ar6:(false==false)=true:=rfl
theorem alk:(false !=true)=true:=rfl
theorem alm:(false !=false)=false:=rfl
theorem agf(z f:Int):cO (cM z f)=if z<0 then-1 else if 0<z then 1 else 0:=by
 unfold cM;by_cases h0:z=0
 ·subst h0;rfl
 ·have hn:z.natAbs≠0:=by omega
  rw[iw hn];obtain⟨h1,h2⟩:=sT hn;have hl:(av (z.natAbs/2^tz z.natAbs)).length≠0:=fun h=>by
   have:=nU.1 (List.length_eq_zero_iff.1 h);omega
  unfold cO;grind
theorem adG{a b:Rd}(oa:Ok0 a)(ob:Ok0 b)(va:vd a=true)(vb:vd b=true)(na:a.m.length≠0)(nb:b.m.length≠0)(h:aL a<aL b):mg a<mg b:=by
 have h1:=Kl va oa.lb na;have h2:=Kl vb ob.lb nb;exact Hp (by omega)
theorem P6{a b:Rd}(oa:Ok0 a)(ob:Ok0 b)(va:vd a=true)(vb:vd b=true):R F.r02_Cmp [ae a,ae b] []=some (I (cp (zI a) (zI b)),[]):=by
 refine ax acN rfl ?_;have s1:=MP (d:=a);have s2:=MP (d:=b);have t1:=Yx oa va;have t2:=Yx ob vb;have n1:=aiK (d:=b);rw[aiL vb]at n1;obtain⟨hz,hvn⟩:=vS vb;have u1:=aiM oa (vQ ob) va hvn;rw[hz]at u1;have u2:=MP (d:=cM (zI a+-zI b) (-16384));rw[agf]at u2;have hca:=DP a va;have hcb:=DP b vb;generalize gJ b=nb at n1 u1;simp only[ae,ah]at s1 s2 t1 t2 n1 u1 u2;by_cases hs:cO a=cO b
 ·have e1:(cO a=cO b)=True:=tt hs;by_cases h0:cO a=0
  ·have e2:(cO a=0)=True:=tt h0;have hr:cp (zI a) (zI b)=0:=by
    have:zI a=0:=by omega
    have:zI b=0:=by omega
    simp_all[cp,if_neg]
   rw[hr];simp only[ku,oK,ae,ah,go_sem,s1,s2,e1,e2]
   try simp only[hs,h0,go_sem,axw,axl,axA,axt,axs,axD]
  ·have e2:(cO a=0)=False:=ff h0;have na:a.m.length≠0:=by omega
   have nb':b.m.length≠0:=by omega
   by_cases ht:aL a=aL b
   ·have e3:(aL a=aL b)=True:=tt ht;have hr:cp (zI a) (zI b)=if zI a+-zI b<0 then-1 else if 0<zI a+-zI b then 1 else 0:=by
     grind[cp]
    rw[hr];simp only[ku,oK,ae,ah,go_sem,s1,s2,t1,t2,e1,e2,e3,n1,u1,u2]
   ·have e3:(aL a=aL b)=False:=ff ht;by_cases hlt:aL a<aL b
    ·have e4:(aL a<aL b)=True:=tt hlt;have hm:=adG oa ob va vb na nb' hlt;by_cases hp:0<cO a
     ·have e5:(0<cO a)=True:=tt hp;have hr:cp (zI a) (zI b)=-1:=by
       unfold cp;omega
      rw[hr];simp only[ku,oK,ae,ah,go_sem,s1,s2,t1,t2,e1,e2,e3,e4,e5,decide_true,ar3,alk]
     ·have e5:(0<cO a)=False:=ff hp;have hr:cp (zI a) (zI b)=1:=by
       unfold cp;omega
      rw[hr];simp only[ku,oK,ae,ah,go_sem,s1,s2,t1,t2,e1,e2,e3,e4,e5,decide_true,decide_false,ar4,alm]
    ·have e4:(aL a<aL b)=False:=ff hlt;have hm:=adG ob oa vb va nb' na (by omega);by_cases hp:0<cO a
     ·have e5:(0<cO a)=True:=tt hp;have hr:cp (zI a) (zI b)=1:=by
       unfold cp;omega
      rw[hr];simp only[ku,oK,ae,ah,go_sem,s1,s2,t1,t2,e1,e2,e3,e4,e5,decide_true,decide_false,ar5,alm]
     ·have e5:(0<cO a)=False:=ff hp;have hr:cp (zI a) (zI b)=-1:=by
       unfold cp;omega
      rw[hr];simp only[ku,oK,ae,ah,go_sem,s1,s2,t1,t2,e1,e2,e3,e4,e5,decide_true,decide_false,ar6,alk]
 ·have e1:(cO a=cO b)=False:=ff hs;by_cases hlt:cO a<cO b
  ·have e2:(cO a<cO b)=True:=tt hlt;have hr:cp (zI a) (zI b)=-1:=by
    unfold cp;omega
   rw[hr];simp only[ku,oK,ae,ah,go_sem,s1,s2,e1,e2]
  ·have e2:(cO a<cO b)=False:=ff hlt;have hr:cp (zI a) (zI b)=1:=by
    unfold cp;omega
   rw[hr];simp only[ku,oK,ae,ah,go_sem,s1,s2,e1,e2]
theorem agh{p:Int}:R F.r03_Prec [I p] []=some (B (bJ p),[]):=by
 refine ax aa7 rfl ?_;unfold bJ;by_cases h1:8<=p
 ·have e1:(8<=p)=True:=tt h1;simp only[Ba,Hb,go_sem,e1,decide_true,awT]
 ·have e1:(8<=p)=False:=ff h1;simp only[Ba,Hb,go_sem,e1,decide_false,awU]
theorem aBr{x y:Int}{k:Nat}(hx:af x.natAbs<=k)(hy:af y.natAbs<=k):af (x+y).natAbs<=k+1:=by
 have:=DT hx hy;refine awX ?_ this;have h2:(x+y).natAbs<=x.natAbs+y.natAbs:=Int.natAbs_add_le _ _;exact bK.2 (axF h2 (bK.1 (awQ _)))
theorem aBz{d:Rd}(ok:Ok0 d)(h:vd d=true):af (zI d).natAbs<=36864:=by
 obtain⟨h1,h2,h3,h4⟩:=dM h ok.lb;have:(zI d).natAbs=mg d:=by
  unfold zI;split<;>omega
 rw[this];by_cases h0:d.m.length=0
 ·rw[Yf h0];decide
 ·have:=Kl h ok.lb h0;rw[iv h h0]at this;omega
theorem adH{a b:Rd}(oa:Ok0 a)(ob:Ok0 b)(va:vd a=true)(vb:vd b=true):bm (a.neg !=b.neg) (ab a.m*ab b.m) (a.e+b.e)=cM (zI a*zI b) (-32768):=by
 obtain⟨a1,a2,a3,a4⟩:=dM va oa.lb;obtain⟨b1,b2,b3,b4⟩:=dM vb ob.lb;have hz:zI a*zI b=bB (a.neg !=b.neg) (mg a*mg b):=by
  unfold zI bB;cases a.neg<;>cases b.neg<;>simp[Int.mul_neg,Int.neg_mul]
 have hm:mg a*mg b=ab a.m*ab b.m*2^ ((a.e+16384).toNat+(b.e+16384).toNat):=by
  unfold mg;rw[axa]
  ac_rfl
 rw[hz,←yi,hm,jk,show-32768+(((a.e+16384).toNat+(b.e+16384).toNat:Nat):Int)=a.e+b.e by omega]
theorem P7{a b:Rd}{p:Int}{up:Bool}:vd (di a b p up).1=true:=by
 unfold di;split
 ·exact sK.1
 ·exact aU.1
theorem CU{d:Rd}{p:Int}{up:Bool}:vd (bZ d p up).1=true:=by
 unfold bZ;split
 ·exact sK.1
 ·exact aU.1
theorem VG{d:Rd}:R F.r05_zero [ae d] []=some (B (z0 d),[]):=by
 refine ax aa6 rfl ?_;unfold z0;cases hn:d.neg with
 |true=>simp only[sR,y9,ae,ah,go_sem,hn,Bool.not_true,awU]
 |false=>
  by_cases h1:d.m.length=0
  ·have e1:((d.m.length:Int)=0)=True:=tt;by_cases h2:d.e=0
   ·have e2:(d.e=0)=True:=tt h2;rw[decide_eq_true h1,decide_eq_true h2];simp only[sR,y9,ae,ah,go_sem,hn,e1,e2,axZ,awT]
   ·have e2:(d.e=0)=False:=ff h2;rw[decide_eq_true h1,decide_eq_false h2];simp only[sR,y9,ae,ah,go_sem,hn,e1,e2,axZ,awT]
  ·have e1:((d.m.length:Int)=0)=False:=ff;rw[decide_eq_false h1];simp only[sR,y9,ae,ah,go_sem,hn,e1,axZ,awT,awU]
theorem EZ{x:Ri}(ok:OkI x):R F.r05_Valid [am x] []=some (B (vi x),[]):=by
 refine ax Xs rfl ?_;unfold vi;have zl:=VG (d:=x.lo);have zh:=VG (d:=x.hi);have vl:=EY ok.lo;have vh:=EY ok.hi;simp only[ae,ah]at zl zh vl vh;cases ha:x.all with
 |true=>
  cases h1:z0 x.lo with
  |true=>
   rw[h1]at zl;simp only[mR,sQ,am,ao,go_sem,ha,zl,zh,awT]
  |false=>
   rw[h1]at zl;simp only[mR,sQ,am,ao,go_sem,ha,zl,awU]
 |false=>
  cases h1:vd x.lo with
  |false=>
   rw[h1]at vl;simp only[mR,sQ,am,ao,go_sem,ha,vl,awU]
  |true=>
   rw[h1]at vl;cases h2:vd x.hi with
   |false=>
    rw[h2]at vh;simp only[mR,sQ,am,ao,go_sem,ha,vl,vh,awT,awU]
   |true=>
    rw[h2]at vh;have hc:=P6 ok.lo ok.hi h1 h2;simp only[ae,ah]at hc;simp only[mR,sQ,am,ao,go_sem,ha,vl,vh,hc,vL,awT]
theorem agi{p:Int}:R F.r05_Prec [I p] []=some (B (bJ p),[]):=by
 refine ax aaZ rfl ?_;unfold bJ;by_cases h1:8<=p
 ·have e1:(8<=p)=True:=tt h1;simp only[A8,G8,go_sem,e1,decide_true,awT]
 ·have e1:(8<=p)=False:=ff h1;simp only[A8,G8,go_sem,e1,decide_false,awU]
theorem P8{a b:Rd}(va:vd a=true)(vb:vd b=true):eP a b=cp (zI a) (zI b):=by simp_all[eP,if_pos]
theorem nG(x y:Int):(x<y/\cp x y=-1)\/(x=y/\cp x y=0)\/(y<x/\cp x y=1):=by
 unfold cp;rcases Int.lt_trichotomy x y with h|h|h
 ·exact Or.inl ⟨h,if_pos h⟩
 ·exact Or.inr (Or.inl ⟨h,by rw[if_neg (by omega)];exact if_neg (by omega)⟩)
 ·exact Or.inr (Or.inr ⟨h,by rw[if_neg (by omega)];exact if_pos h⟩)
theorem abz{a:List Int}(h2:sm a):∀ (k i:Nat),i+k=a.length->∀ (s:ak) (h:ac),s 0=.sl 1 (aS a)->s 3=I (bh (a.take i))->s 4=I i->
  aj 0 [3] (au (ai R (az false) y8) [0,3,4] [] s h)=some (.normal,⟨upd (fun _=>.any) 3 (I (bh a)),fun _=>.dead⟩):=by
 intro k;induction k with
 |zero=>
  intro i hi s h h0 h3 h4;have e1:((i:Int)<a.length)=False:=ff;rw[axg (by omega)]at h3;rw[ag];simp only[y8,go_sem,h0,h3,h4,e1]
 |succ k ih=>
  intro i hi s h h0 h3 h4;have hlt:i<a.length:=by omega
  obtain⟨g1,g2⟩:=h2;have e1:((i:Int)<a.length)=True:=tt;have e2:aW (aS a) (i:Int)=some (.ipt [I a[i]]):=nZ rfl (List.getElem?_eq_getElem hlt);have e5:IntKind.i64.wrap ((i:Int)+1)=((i+1:Nat):Int):=wi;have b1:=Vy (l:=a.take i) (fun x hx=>g2 x (List.mem_of_mem_take hx));have b2:=g2 a[i] (axr hlt);have e6:IntKind.i64.wrap (bh (a.take i)+a[i])=bh (a.take (i+1)):=by
   grind[MN,i64_in]
  have ih':=ih (i+1) (by omega);rw[ag];simp only[y8,go_sem,h0,h3,h4,e1,e2,e5,e6];exact ih' _ _ rfl rfl rfl
theorem MQ{a:List Int}(h2:sm a):R F.r23_sum [.sl 1 (aS a)] []=some (I (bh a),[]):=by
 refine ax acV rfl ?_;have h3:=abz h2 a.length 0 (awP _);simp only[Ha,Rf,go_sem];rw[h3 _ _ rfl rfl rfl];simp only[go_sem]
theorem abA{a b:List Int}(hl:a.length=b.length)(h2:a.length<=100000):∀ (k i:Nat),i+k=a.length->∀ (s:ak) (h:ac),s 0=.sl 1 (aS a)->s 1=.sl 1 (aS b)->s 7=I i->
  ∃hh,aj 0 [] (au (ai R (az false) kg) [0,1,7] [] s h)=if lD (b.drop i) (a.drop i)=0 then some (.normal,⟨fun _=>.any,fun _=>.dead⟩)else some (.ret,⟨upd (fun _=>.any) 4 (I (lD (b.drop i) (a.drop i))),hh⟩):=by
 intro k;induction k with
 |zero=>
  intro i hi s h h0 h1 h7;have e1:((i:Int)<a.length)=False:=ff;rw[axi (by omega),axi (by omega),ag];refine⟨fun _=>.dead,?_⟩;show _=if(0:Int)=0 then _ else _
  simp only[kg,go_sem,h0,h1,h7,e1]
 |succ k ih=>
  intro i hi s h h0 h1 h7;have hlt:i<a.length:=by omega
  have hlt2:i<b.length:=by omega
  have e1:((i:Int)<a.length)=True:=tt;have e2:aW (aS a) (i:Int)=some (.ipt [I a[i]]):=nZ rfl (List.getElem?_eq_getElem hlt);have e3:aW (aS b) (i:Int)=some (.ipt [I b[i]]):=nZ rfl (List.getElem?_eq_getElem hlt2);have e5:IntKind.i64.wrap ((i:Int)+1)=((i+1:Nat):Int):=wi;rw[axh hlt,axh hlt2,ag];have ih':=ih (i+1) (by omega);generalize a[i]=x at e2⊢;generalize b[i]=y at e3⊢;unfold lD;rcases nG y x with⟨g,e⟩| ⟨g,e⟩| ⟨g,e⟩
  ·have e6:(y<x)=True:=tt g;simp only[e,↓reduceIte,axt,Int.reduceNeg];refine⟨?hh1,?_⟩;rotate_left;simp only[kg,go_sem,h0,h1,h7,e1,e2,e3,e6];rfl
  ·have e6:(y<x)=False:=ff;have e7:(x<y)=False:=ff;simp only[e,↓reduceIte];simp only[kg,go_sem,h0,h1,h7,e1,e2,e3,e5,e6,e7];exact ih' _ _ rfl rfl rfl
  ·have e6:(y<x)=False:=ff;have e7:(x<y)=True:=tt;simp only[e,↓reduceIte,axt];refine⟨?hh2,?_⟩;rotate_left;simp only[kg,go_sem,h0,h1,h7,e1,e2,e3,e6,e7];rfl
theorem Jw{a b:List Int}(ha:sm a)(hb:sm b)(hl:a.length=b.length):R F.r23_Compare [.sl 1 (aS a),.sl 1 (aS b)] []=some (I (bO a b),[]):=by
 refine ax SS rfl ?_;have d1:=MQ ha;have d2:=MQ hb;have h3:=abA hl (by have:=ha.1;omega) a.length 0 (awP _);simp only[ax0,axB]at h3;unfold bO;rcases nG (bh a) (bh b)with⟨g,e⟩| ⟨g,e⟩| ⟨g,e⟩
 ·have e6:(bh a<bh b)=True:=tt g;rw[e,if_neg (by decide)];simp only[mD,sz,go_sem,d1,d2,e6]
 ·have e6:(bh a<bh b)=False:=ff;have e7:(bh b<bh a)=False:=ff;rw[e,if_pos rfl];by_cases hz:lD b a=0
  ·simp only[if_pos hz]at h3;simp only[mD,sz,go_sem,d1,d2,e6,e7];rw[(h3 _ _ rfl rfl rfl).choose_spec,hz];simp only[go_sem]
  ·simp only[if_neg hz]at h3;simp only[mD,sz,go_sem,d1,d2,e6,e7];rw[(h3 _ _ rfl rfl rfl).choose_spec];simp only[go_sem]
 ·have e6:(bh a<bh b)=False:=ff;have e7:(bh b<bh a)=True:=tt;rw[e,if_neg (by decide)];simp only[mD,sz,go_sem,d1,d2,e6,e7]
theorem adI{t:Rt}(h2:t.exps.length<=1000):∀ (k i:Nat),i+k=t.exps.length->(∀x∈t.exps.take i,0<=x/\x<=32)->∀ (s:ak) (h:ac),s 3=.ref 3 none 0 0 0->s 5=I (bh (t.exps.take i))->s 6=I i->h 3=.bx (bD t)->
  ∃hh,aj 0 [5] (au (ai R (az false) jD) [3,5,6] [3] s h)=if(t.exps.drop i).any xM=true then some (.ret,⟨upd (fun _=>.any) 4 (B false),hh⟩)else some (.normal,⟨upd (fun _=>.any) 5 (I (bh t.exps)),hh⟩):=by
 intro k;induction k with
 |zero=>
  intro i hi hg s h h3 h5 h6 k3;have e1:((i:Int)<t.exps.length)=False:=ff;rw[axg (by omega)]at h5;rw[axi (by omega),ag];simp only[bD]at k3;refine⟨?hh,?_⟩;rotate_left;show _=if false=true then _ else _
  simp only[jD,go_sem,h3,h5,h6,k3,e1];rfl
 |succ k ih=>
  intro i hi hg s h h3 h5 h6 k3;have hlt:i<t.exps.length:=by omega
  have e1:((i:Int)<t.exps.length)=True:=tt;have e2:aW (aS t.exps) (i:Int)=some (.ipt [I t.exps[i]]):=nZ rfl (List.getElem?_eq_getElem hlt);have e5:IntKind.i64.wrap ((i:Int)+1)=((i+1:Nat):Int):=wi;have b1:=Vy hg;have b3:(t.exps.take i).length<=1000:=by grind
  have ih':=ih (i+1) (by omega);have htk:t.exps.take (i+1)=t.exps.take i++[t.exps[i]]:=by simp_all
  have hst:=MN hlt;rw[axh hlt,List.any_cons,ag];simp only[bD]at k3;rw[hst]at ih';rw[htk]at ih';generalize t.exps[i]=x at e2 ih'⊢;unfold xM at ih'⊢;by_cases g1:x<0
  ·have e6:(x<0)=True:=tt g1;simp only[decide_eq_true g1,axQ];refine⟨?hh1,?_⟩;rotate_left;simp only[jD,go_sem,h3,h5,h6,k3,e1,e2,e6];rfl
  ·have e6:(x<0)=False:=ff g1;by_cases g2:32<x
   ·have e7:(32<x)=True:=tt g2;simp only[decide_eq_false g1,decide_eq_true g2,axY,axQ];refine⟨?hh2,?_⟩;rotate_left;simp only[jD,go_sem,h3,h5,h6,k3,e1,e2,e6,e7];rfl
   ·have e7:(32<x)=False:=ff g2;have e8:IntKind.i64.wrap (bh (t.exps.take i)+x)=bh (t.exps.take i)+x:=i64_in _ ⟨by omega,by omega⟩;simp only[jD,go_sem,h3,h5,h6,k3,e1,e2,e5,e6,e7,e8];exact ih' (fun y hy=>by
     grind) _ _ rfl rfl rfl rfl
theorem adJ{v:Int}{t:Rt}(ok:Ok0 t.c)(hv:v<=1000):R F.r23_term [I v,.agg (bD t)] []=some (B (Gp v t),[]):=by
 refine ax aa3 rfl ?_;have hvd:=EY ok;simp only[ae,ah]at hvd;unfold Gp;by_cases c1:(t.exps.length:Int)=v
 ·have f1:((t.exps.length:Int)=v)=True:=tt c1;cases c2:vd t.c with
  |false=>
   rw[c2]at hvd;simp only[px,ve,bD,go_sem,f1,hvd]
  |true=>
   rw[c2]at hvd;by_cases c3:t.c.m.length=0
   ·have f3:((t.c.m.length:Int)=0)=True:=tt;rw[decide_eq_false (p:=t.c.m.length≠0) (fun h=>h c3),awU];simp only[px,ve,bD,go_sem,f1,hvd,f3]
   ·have f3:((t.c.m.length:Int)=0)=False:=ff;rw[decide_eq_true (p:=t.c.m.length≠0) c3,awT];have hL:=adI (t:=t) (by omega) t.exps.length 0 (awP _) (fun x hx=>by grind);generalize hLL:au (ai R (az false) jD) [3,5,6] [3]=L at hL;have hX:∀s h,ai R (az false) (.loop [3,5,6] [3] jD) s h=L s h:=fun s h=>by rw[←hLL];rfl
    have hL2:∀ (S:ak) (H:ac) (X:Option (Ex×St)),aj 0 [5] (L S H)=X->S 3=.ref 3 none 0 0 0->S 5=I 0->S 6=I 0->H 3=.bx (bD t)->∃hh,X=if t.exps.any xM=true then some (.ret,⟨upd (fun _=>.any) 4 (B false),hh⟩)else some (.normal,⟨upd (fun _=>.any) 5 (I (bh t.exps)),hh⟩):=fun S H X hX=>by
     rw[←hX];exact hL S H
    cases c4:t.exps.any xM with
    |true=>
     simp only[c4]at hL2;simp only[px,ve,hX,bD,go_sem,f1,hvd,f3];generalize hB:aj 0 [5] (L _ _)=X;obtain⟨hh,g0⟩:=hL2 _ _ _ hB rfl rfl rfl rfl;rw[g0];simp only[go_sem]
    |false=>
     simp only[c4,if_neg awW]at hL2;simp only[px,ve,hX,bD,go_sem,f1,hvd,f3];generalize hB:aj 0 [5] (L _ _)=X;obtain⟨hh,g0⟩:=hL2 _ _ _ hB rfl rfl rfl rfl;rw[g0];simp only[go_sem]
 ·have f1:((t.exps.length:Int)=v)=False:=ff c1;simp only[px,ve,bD,go_sem,f1]
theorem adK{a:Rp}(ok:∀t∈a.terms,Ok0 t.c)(hv:a.vars<=8)(h2:a.terms.length<=500):∀ (k i:Nat),i+k=a.terms.length->∀ (pr:Option Rt),(i=0->pr=none)->(0<i->∃q,pr=some q/\a.terms[i-1]?=some q/\Gp a.vars q=true)->
  ∀ (s:ak) (h:ac),s 1=.ref 1 none 0 0 0->s 3=I i->h 1=.bx [I a.vars,.sl 4 (aH a.terms)]->
  ∃hh,aj 0 [] (au (ai R (az false) j8) [1,3] [1] s h)=if yg a.vars pr (a.terms.drop i)=true then some (.normal,⟨fun _=>.any,hh⟩)else some (.ret,⟨upd (fun _=>.any) 2 (B false),hh⟩):=by
 intro k;induction k with
 |zero=>
  intro i hi pr p0 p1 s h h1 h3 k1;have e1:((i:Int)<a.terms.length)=False:=ff;rw[axi (by omega),ag];refine⟨?hh0,?_⟩;rotate_left;show _=if true=true then _ else _
  rw[if_pos rfl];simp only[j8,go_sem,h1,h3,k1,e1];rfl
 |succ k ih=>
  intro i hi pr p0 p1 s h h1 h3 k1;have hlt:i<a.terms.length:=by omega
  have e1:((i:Int)<a.terms.length)=True:=tt;have e2:aW (aH a.terms) (i:Int)=some (.ipt (bD a.terms[i])):=eZ rfl (List.getElem?_eq_getElem hlt);have e5:IntKind.i64.wrap ((i:Int)+1)=((i+1:Nat):Int):=wi;have okt:=ok a.terms[i] (axr hlt);have hnext:a.terms[i+1-1]?=some a.terms[i]:=List.getElem?_eq_getElem hlt;rw[axh hlt,ag];have ih':=ih (i+1) (by omega) (some a.terms[i]) (fun h=>absurd h (Nat.succ_ne_zero _));generalize a.terms[i]=t at e2 okt ih' hnext⊢;have htm:=adJ okt (v:=a.vars) (by omega);simp only[bD]at e2 htm;unfold yg;cases hb:Gp a.vars t with
  |false=>
   rw[hb]at htm;refine⟨?hh2,?_⟩;rotate_left;simp only[j8,go_sem,h1,h3,k1,e1,e2,htm];rfl
  |true=>
   rw[hb]at htm;obtain⟨c1,c2,c3,c4,c5⟩:=zH hb;by_cases hi0:i=0
   ·have f6:(0< (i:Int))=False:=ff;rw[p0 hi0];simp only[j8,go_sem,h1,h3,k1,e1,e2,htm,f6,e5];exact ih' (fun _=>⟨t,rfl,hnext,hb⟩) _ _ rfl rfl rfl
   ·have f6:(0< (i:Int))=True:=tt;obtain⟨q,q1,q2,q3⟩:=p1 (by omega);obtain⟨d1,d2,d3,d4,d5⟩:=zH q3;rw[q1];have e7:IntKind.i64.wrap ((i:Int)-1)=((i-1:Nat):Int):=wi;have e8:aW (aH a.terms) ((i-1:Nat):Int)=some (.ipt (bD q)):=eZ rfl q2;simp only[bD]at e8;have ho:=Jw (a:=q.exps) (b:=t.exps) ⟨by omega,vR d4⟩ ⟨by omega,vR c4⟩ (by omega);simp only[VA];by_cases c6:bO q.exps t.exps<0
    ·have f7:(0<=bO q.exps t.exps)=False:=ff;simp only[decide_eq_true c6,awT];simp only[j8,go_sem,h1,h3,k1,e1,e2,htm,f6,e5,e7,e8,ho,f7];exact ih' (fun _=>⟨t,rfl,hnext,hb⟩) _ _ rfl rfl rfl
    ·have f7:(0<=bO q.exps t.exps)=True:=tt;simp only[decide_eq_false c6,awU,if_neg awW];refine⟨?hh7,?_⟩;rotate_left;simp only[j8,go_sem,h1,h3,k1,e1,e2,htm,f6,e7,e8,ho,f7];rfl
theorem LM{a:Rp}(ok:∀t∈a.terms,Ok0 t.c):R F.r23_Valid [aO a] []=some (B (vp a),[]):=by
 refine ax Xr rfl ?_;unfold vp;by_cases c1:0<=a.vars
 ·have f1:(a.vars<0)=False:=ff;rw[decide_eq_true c1,awT];by_cases c2:a.vars<=8
  ·have f2:(8<a.vars)=False:=ff;rw[decide_eq_true c2,awT];by_cases c3:a.terms.length<=500
   ·have f3:(500< (a.terms.length:Int))=False:=ff;rw[decide_eq_true c3,awT];have h3:=adK ok c2 c3 a.terms.length 0 (awP _) none (fun _=>rfl) (fun h=>absurd h (Nat.lt_irrefl _));simp only[ax0,axB]at h3;cases hb:yg a.vars none a.terms with
    |true=>
     rw[hb]at h3;simp only[mP,sP,aO,go_sem,f1,f2,f3];rw[(h3 _ _ rfl rfl rfl).choose_spec];simp only[go_sem]
    |false=>
     rw[hb]at h3;simp only[mP,sP,aO,go_sem,f1,f2,f3];rw[(h3 _ _ rfl rfl rfl).choose_spec];simp only[go_sem]
   ·have f3:(500< (a.terms.length:Int))=True:=tt;rw[decide_eq_false c3,awU];simp only[mP,sP,aO,go_sem,f1,f2,f3]
  ·have f2:(8<a.vars)=True:=tt;rw[decide_eq_false c2,awU];simp only[mP,sP,aO,go_sem,f1,f2]
 ·have f1:(a.vars<0)=True:=tt;rw[decide_eq_false c1,awU];simp only[mP,sP,aO,go_sem,f1]
theorem abB{a:Rp}(ok:OkP a):R F.r23_Valid [aO a] []=some (B (vp a),[]):=LM fun t h=>(ok.t t h).c
structure Len1 (x:Ri):Prop where
 lo:Lb x.lo.m/\x.lo.m.length<=100000
 hi:Lb x.hi.m/\x.hi.m.length<=100000
def VI(x:Ri):Prop:=(vd x.lo=true/\Ok0 x.lo)/\(vd x.hi=true/\Ok0 x.hi)
theorem VI.len{x:Ri}(h:VI x):Len1 x:=⟨⟨h.1.2.1,awX (zG h.1.1 h.1.2.1) (by decide)⟩,⟨h.2.2.1,awX (zG h.2.1 h.2.2.1) (by decide)⟩⟩
theorem MR:VI dN:=⟨aU,aU⟩
theorem aiN{x y:Ri}{p:Int}:VI (cW x y p):=by
 unfold cW;split
 ·unfold tL;split
  ·exact⟨⟨P7,Kr⟩,⟨P7,Kr⟩⟩
  ·exact MR
 ·exact MR
theorem aln{p:Int}{dom:List Ri}:∀ (l:List Rt) (s:Ri),VI s->VI (Ou p dom l s):=by
 intro l;induction l with
 |nil=>exact fun s h=>h
 |cons t l ih=>exact fun s h=>ih _ aiN
theorem adL{a:Rp}{dom:List Ri}{p:Int}:VI (pg a dom p):=by
 unfold pg;split
 ·exact aln _ _ ⟨aU,aU⟩
 ·exact MR
def ej(a:Rp):Int:=if vp a=true then(match a.terms.getLast? with|none=>-1|some t=>bh t.exps)else-1
theorem Ow{a:Rp}(h:vp a=true):0<=a.vars/\a.vars<=8/\a.terms.length<=500/\yg a.vars none a.terms=true:=by
 simp_all[vp,awS,decide_eq_true_eq]
theorem Gq{a:Rp}(h:vp a=true){t:Rt}(ht:t∈a.terms):sm t.exps/\(t.exps.length:Int)=a.vars/\vd t.c=true/\t.c.m.length≠0/\bh t.exps<=32:=by
 obtain⟨v1,v2,v3,v4⟩:=Ow h;obtain⟨c1,c2,c3,c4,c5⟩:=zH (Ks _ _ v4 t ht);exact⟨⟨by omega,vR c4⟩,c1,c2,c3,c5⟩
theorem E2{a:Rp}(ok:OkP a):R F.poly_Degree [aO a] []=some (I (ej a),[]):=by
 refine ax SF rfl ?_;have hv:=qO ok;unfold ej;simp only[aO]at hv;cases hb:vp a with
 |false=>
  rw[hb]at hv;simp only[pZ,wZ,aO,go_sem,hv]
 |true=>
  rw[hb]at hv;obtain⟨v1,v2,v3,v4⟩:=Ow hb;by_cases h0:a.terms.length=0
  ·have e1:((a.terms.length:Int)=0)=True:=tt;have e4:a.terms.getLast?=none:=by
    grind
   rw[e4];simp only[pZ,wZ,aO,go_sem,hv,e1]
  ·have e1:((a.terms.length:Int)=0)=False:=ff;have e2:IntKind.i64.wrap ((a.terms.length:Int)-1)=((a.terms.length-1:Nat):Int):=by grind[i64_in]
   have hlt:a.terms.length-1<a.terms.length:=by omega
   have e3:aW (aH a.terms) ((a.terms.length-1:Nat):Int)=some (.ipt (bD a.terms[a.terms.length-1])):=eZ rfl (List.getElem?_eq_getElem hlt);have e4:a.terms.getLast?=some a.terms[a.terms.length-1]:=by grind
   obtain⟨c1,c2,c3,c4,c5⟩:=Gq hb (axr hlt);rw[e4];have hd:=yf c1;simp only[bD]at e3;simp only[pZ,wZ,aO,go_sem,hv,e1,e2,e3,hd]
def wC(x:Int):List Int->Nat->Int
 |[],_=>-1
 |y::l,i=>if x=y then i else wC x l (i+1)
theorem agj{l:List Int}(h2:l.length<=100000)(x:Int):∀ (k i:Nat),i+k=l.length->∀ (s:ak) (h:ac),s 0=.sl 1 (aS l)->s 1=I x->s 7=I l.length->s 8=I i->
  ∃hh,cr (aj 0 [] (au (ai R (az false) dO) [0,1,7,8] [] s h)) (ai R (az false) (.seq (.ops [4] [co 4 (.mv (.c (I (-1))))]) (.ret)))=some (.ret,⟨upd (fun _=>.any) 4 (I (wC x (l.drop i) i)),hh⟩):=by
 intro k;induction k with
 |zero=>
  intro i hi s h h0 h1 h7 h8;have e1:((i:Int)<l.length)=False:=ff;rw[axi (by omega),ag];refine⟨?hh0,?_⟩;rotate_left
  ·simp only[dO,wC,go_sem,axw,axl,axA,axt,axs,axD,h0,h1,h7,h8,e1];rfl
 |succ k ih=>
  intro i hi s h h0 h1 h7 h8;have hlt:i<l.length:=by omega
  have e1:((i:Int)<l.length)=True:=tt;have e2:aW (aS l) (i:Int)=some (.ipt [I l[i]]):=nZ rfl (List.getElem?_eq_getElem hlt);have e5:IntKind.i64.wrap ((i:Int)+1)=((i+1:Nat):Int):=wi;have ih':=ih (i+1) (by omega);rw[axh hlt,ag];unfold wC;generalize l[i]=y at e2⊢;by_cases hxy:x=y
  ·have e3:(x=y)=True:=tt hxy;refine⟨?hh1,?_⟩;rotate_left
   ·simp only[dO,go_sem,axw,axl,axA,axt,axs,axD,h0,h1,h7,h8,e1,e2,e3];rfl
  ·have e3:(x=y)=False:=ff hxy;simp only[dO,go_sem,axw,axl,axA,axt,axs,axD,h0,h1,h7,h8,e1,e2,e3,e5]at ih'⊢;exact ih' _ _ rfl rfl rfl rfl
theorem agk{l:List Int}(h2:l.length<=100000){x:Int}:R F.slices_Index_int_int_ [.sl 1 (aS l),I x] []=some (I (wC x l 0),[]):=by
 refine ax El rfl ?_;have h:=agj h2 x l.length 0 (awP _);have h':∀ (S:ak) (H:ac) (X:Option (Ex×St)),cr (aj 0 [] (au (ai R (az false) dO) [0,1,7,8] [] S H)) (ai R (az false) (.seq (.ops [4] [co 4 (.mv (.c (I (-1))))]) (.ret)))=X->S 0=.sl 1 (aS l)->S 1=I x->S 7=I l.length->S 8=I 0->∃hh,X=some (.ret,⟨upd (fun _=>.any) 4 (I (wC x l 0)),hh⟩):=fun S H X hX=>by
  rw[←hX];exact h S H
 simp only[mY,vX,go_sem,axw,axl,axA,axt,axs,axD];generalize hB:cr (aj 0 [] (au _ _ _ _ _)) _=X;obtain⟨hh,h3⟩:=h' _ _ _ hB rfl rfl rfl rfl;rw[h3];simp only[go_sem,axw,axl,axA,axt,axs,axD]
def Rx:Option Rd->List AV
 |none=>[B false,.emp,I 0]
 |some d=>ah d
def DY(l:List (Option Rd)):List (List AV):=l.map Rx
@[go_sem] theorem aus(l:List (Option Rd)):(DY l).length=l.length:=by simp[DY]
theorem aiO{l:List (Option Rd)}{i:Nat}{o:Option Rd}(h:l[i]?=some o):(DY l)[i]?=some (Rx o):=by grind[DY]
theorem aiP(l:List (Option Rd))(i:Nat)(d:Rd):(DY l).set i (ah d)=DY (l.set i (some d)):=by simp[DY,List.map_set,Rx]
theorem aiQ(n:Nat):awO n [B false,.emp,I 0]=DY (awO n none):=by simp[DY,Rx]
def Yy(l:List (Option Rd)):List Rd:=l.map fun o=>o.getD aI
theorem aiR(l:List (Option Rd)):(DY l).map (dK [.o 0 [],.o 2 [],.o 0 []])=DR (Yy l):=by
 simp only[DY,Yy,DR,List.map_map];refine axy fun o _=>?_;cases o with
 |none=>simp only[Function.comp,Rx,ah,aI,Option.getD,go_sem]
 |some d=>simp only[Function.comp,Rx,ah,Option.getD,go_sem]
theorem aiS(o:Option Rd)(d:Rd):(((Rx o).set 0 (B d.neg)).set 1 (lm d.m)).set 2 (I d.e)=ah d/\(3<=(Rx o).length)=True:=by
 cases o<;>exact⟨rfl,tt (awQ 3)⟩
def AM:List Rt->List (Option Rd)->List (Option Rd)
 |[],o=>o
 |t::l,o=>AM l (o.set (wC 1 t.exps 0+1).toNat (some t.c))
theorem Yz(x:Int):∀ (l:List Int) (i:Nat),-1<=wC x l i/\wC x l i<l.length+i
 |[],i=>by
  grind[wC,axI]
 |y::l,i=>by
  unfold wC;have:=Yz x l (i+1);grind
theorem agl{a:Rp}(hv:∀t∈a.terms,(t.exps.length:Int)=a.vars)(h8:a.vars<=8)(h5:a.terms.length<=500):∀ (k i:Nat),i+k=a.terms.length->∀ (o:List (Option Rd)),(o.length:Int)=a.vars+1->∀ (s:ak) (h:ac),
  s 4=.rsl 18 none 3 0 o.length->s 20=.sl 4 (aH a.terms)->s 21=I a.terms.length->s 22=I i->h 1=.bx [I a.vars,.sl 4 (aH a.terms)]->h 18=.ar 3 (DY o)->
  ∃hh,aj 0 [4] (au (ai R (az false) lL) [4,20,21,22] [1,18] s h)=some (.normal,⟨upd (fun _=>.any) 4 (.rsl 18 none 3 0 o.length),hh⟩)/\hh 18=.ar 3 (DY (AM (a.terms.drop i) o)):=by
 intro k;induction k with
 |zero=>
  intro i hi o ho s h h4 h20 h21 h22 k1 k18;have e1:((i:Int)<a.terms.length)=False:=ff;rw[axi (by omega),ag];refine⟨?hh0,?_,?_⟩;rotate_left
  ·simp only[lL,go_sem,axw,axl,axA,axt,axs,axD,h4,h20,h21,h22,k1,k18,e1];rfl
  ·rfl
 |succ k ih=>
  intro i hi o ho s h h4 h20 h21 h22 k1 k18;have hlt:i<a.terms.length:=by omega
  have e1:((i:Int)<a.terms.length)=True:=tt;have e2:aW (aH a.terms) (i:Int)=some (.ipt (bD a.terms[i])):=eZ rfl (List.getElem?_eq_getElem hlt);have e5:IntKind.i64.wrap ((i:Int)+1)=((i+1:Nat):Int):=wi;have c1:=hv a.terms[i] (axr hlt);rw[axh hlt,ag];have ih':=ih (i+1) (by omega);unfold AM;generalize a.terms[i]=t at e2 c1⊢;have hx:=agk (l:=t.exps) (x:=1) (by omega);obtain⟨x1,x2⟩:=Yz 1 t.exps 0;have e6:IntKind.i64.wrap (wC 1 t.exps 0+1)=((wC 1 t.exps 0+1).toNat:Int):=by grind[i64_in]
  generalize hn:(wC 1 t.exps 0+1).toNat=n at e6⊢;have hn2:n<o.length:=by omega
  have e7:(0<=(n:Int))=True:=tt;have e8:((n:Int)< (o.length:Int))=True:=tt;have e9:=aiO (List.getElem?_eq_getElem hn2);obtain⟨e10,e11⟩:=aiS o[n] t.c;have ih2:=ih' (o.set n (some t.c)) (by grind);rw[List.length_set]at ih2;simp only[bD]at e2;simp only[lL,go_sem,axw,axl,axA,axt,axs,axD,h4,h20,h21,h22,k1,k18,e1,e2,hx,e6,e7,e8,e9,e10,e11,e5,aiP,awY,awP];exact ih2 _ _ rfl rfl rfl rfl rfl rfl
theorem MS:∀ (l:List Rt) (o:List (Option Rd)),(AM l o).length=o.length
 |[],o=>rfl
 |t::l,o=>by
  unfold AM;rw[MS l,List.length_set]
def E3(a:Rp):Bool:=vp a&&decide (ej a<=1)
def Hx(a:Rp):List Rd:=Yy (AM a.terms (awO (a.vars.toNat+1) none))
def VH(a:Rp):AV:=if E3 a=true then .tup [BE (Hx a),B true]else .tup [BE [],B false]
theorem Ry{a:Rp}(ok:OkP a):R F.bound_Linear [aO a] []=some (VH a,[]):=by
 refine ax PE rfl ?_;have hv:=qO ok;have hd:=E2 ok;unfold VH E3;simp only[aO]at hv hd;cases hb:vp a with
 |false=>
  rw[hb]at hv;simp only[oS,vk,aO,go_sem,axw,axl,axA,axt,axs,axD,hv,BE,DR]
 |true=>
  rw[hb]at hv;rw[awT];generalize hg:ej a=g at hd⊢;by_cases h1:g<=1
  ·have e1:(1<g)=False:=ff;rw[if_pos (decide_eq_true h1)];obtain⟨v1,v2,v3,v4⟩:=Ow hb;have hl:=agl (a:=a) (fun t ht=>(Gq hb ht).2.1) v2 v3 a.terms.length 0 (awP _) (awO (a.vars.toNat+1) none) (by grind);simp only[ax0,axB,ax1]at hl;have hl2:=MS a.terms (awO (a.vars.toNat+1) none);have hn:=aiR (AM a.terms (awO (a.vars.toNat+1) none));unfold Hx;generalize AM a.terms (awO (a.vars.toNat+1) none)=O at hl hl2 hn⊢;rw[ax1]at hl2;generalize hN:a.vars.toNat+1=N at hl hl2⊢;have e2:IntKind.i64.wrap (a.vars+1)=(N:Int):=by grind[i64_in]
   have e3:=qM (i:=(N:Int)) (j:=(N:Int)) (l:=N) (c:=N) rfl rfl (awQ _) (by omega);have e4:(N*40<=140737488355328)=True:=tt;have e5:(0+N<=O.length)=True:=tt;have e6:(N=O.length)=True:=tt hl2.symm;have h':∀ (S:ak) (H:ac) (X:Option (Ex×St)),aj 0 [4] (au (ai R (az false) lL) [4,20,21,22] [1,18] S H)=X->S 4=.rsl 18 none 3 0 N->S 20=.sl 4 (aH a.terms)->S 21=I a.terms.length->S 22=I 0->H 1=.bx [I a.vars,.sl 4 (aH a.terms)]->H 18=.ar 3 (DY (awO N none))->
     ∃hh,X=some (.normal,⟨upd (fun _=>.any) 4 (.rsl 18 none 3 0 N),hh⟩)/\hh 18=.ar 3 (DY O):=fun S H X hX=>by
    rw[←hX];exact hl S H
   simp only[oS,vk,aO,go_sem,axw,axl,axA,axt,axs,axD,hv,hd,e1,e2,e3,e4,aiQ];generalize hB:aj 0 [4] (au _ _ _ _ _)=X;obtain⟨hh,g0,g1⟩:=h' _ _ _ hB rfl rfl rfl rfl rfl rfl;rw[g0];simp only[go_sem,axw,axl,axA,axt,axs,axD,g1,e5,e6,hn,BE]
  ·have e1:(1<g)=True:=tt;rw[if_neg (fun h=>h1 (of_decide_eq_true h))];simp only[oS,vk,aO,go_sem,axw,axl,axA,axt,axs,axD,hv,hd,e1,BE,DR]
def dt(a b:Rd):Rd×Int:=if(vd a&&vd b)=true then cH (cM (zI a*zI b) (-32768))else(aI,1)
def iF(a b:Rd):Rd×Int:=if(vd a&&vd b)=true then cH (cM (zI a+zI b) (-16384))else(aI,1)
theorem yj{z f:Int}:vd (cH (cM z f)).1=true/\Ok0 (cH (cM z f)).1:=by
 unfold cH cM;by_cases h:qF (af (ab (bm (decide (z<0)) z.natAbs f).m)) (bm (decide (z<0)) z.natAbs f).e=true
 ·rw[if_pos h];have hv:=Gn h;have hb:=yc (decide (z<0)) z.natAbs f;exact⟨hv,hb,axF (zG hv hb) (by decide)⟩
 simp_all[if_neg,aU]
theorem Kt(a b:Rd):vd (dt a b).1=true/\Ok0 (dt a b).1:=by
 grind[dt,yj,aU]
theorem aiT(a b:Rd):vd (iF a b).1=true/\Ok0 (iF a b).1:=by
 grind[iF,yj,aU]
theorem Gr{d:Rd}(h:vd d=true)(h0:d.m.length≠0):ab d.m%2=1:=by
 obtain⟨h1,h2,h3,h4⟩:=wT h h0;cases hm:d.m with
 |nil=>grind
 |cons x l=>
  grind[ab]
theorem VJ{x y:Nat}(hx:x≠0)(hy:y≠0):af x+af y-2<af (x*y):=by
 have h1:=eL hx;have h2:=eL hy;have h3:2^ (af x-1)<=x:=jy.1 (by omega);have h4:2^ (af y-1)<=y:=jy.1 (by omega);rw[jy,show af x+af y-2=(af x-1)+(af y-1)by omega,axa];exact aFW h3 h4
theorem aiU{a b:Rd}(oa:Ok0 a)(ob:Ok0 b):Tl a b=rV (dt a b):=by
 unfold Tl dt;by_cases hv:vd a=true/\vd b=true
 ·obtain⟨va,vb⟩:=hv;rw[if_pos ⟨va,vb⟩,va,vb,awT,if_pos rfl,←adH oa ob va vb];by_cases h0:a.m.length=0\/b.m.length=0
  ·rw[if_pos h0];have:ab a.m*ab b.m=0:=by
    rcases h0 with h0|h0
    ·rw[List.length_eq_zero_iff.1 h0];exact Nat.zero_mul _
    ·rw[List.length_eq_zero_iff.1 h0];exact Nat.mul_zero _
   rw[this,iN];rfl
  ·rw[if_neg h0];have a0:a.m.length≠0:=fun h=>h0 (.inl h);have b0:b.m.length≠0:=fun h=>h0 (.inr h);have x0:=dh va a0;have y0:=dh vb b0;by_cases hb:4096<af (ab a.m)+af (ab b.m)-1
   ·rw[if_pos hb];have h1:=VJ x0 y0;have ho:ab a.m*ab b.m%2=1:=by grind[Nat.mul_mod,Gr]
    have ht:=adF ho 0;rw[Nat.pow_zero,Nat.mul_one]at ht;obtain⟨g1,g2,g3,g4⟩:=rL (neg:=a.neg !=b.neg) (e:=a.e+b.e) (Nat.mul_ne_zero x0 y0);unfold cH;rw[if_neg]
    ·rfl
    ·intro h2;rw[g1,ht,Nat.pow_zero,Nat.div_one]at h2;have h3:=(AE h2 (by omega)).1;omega
   simp_all[if_neg,Km]
 ·rw[if_neg hv,if_neg]
  ·rfl
  grind
theorem Ku{a b:Rd}(oa:Ok0 a)(ob:Ok0 b):R F.dyadic_Mul [ae a,ae b] []=some (rV (dt a b),[]):=by
 grind[aiU,aix]
def Rz(m:Rd)(x:Ri):Rd:=if cO m<0 then x.hi else x.lo
def RA(m:Rd)(x:Ri):Rd:=if cO m<0 then x.lo else x.hi
def abC(c:Rd)(a b:Rd×Int)(p:Int):Ri:=if a.2=0/\b.2=0 then tL (di c a.1 p false) (di c b.1 p true)else dN
def Hy(c m:Rd)(x:Ri)(p:Int):Ri:=abC c (dt m (Rz m x)) (dt m (RA m x)) p
theorem aiV{c m:Rd}{x:Ri}(oc:Ok0 c)(om:Ok0 m)(vm:vd m=true)(ox:OkI x){p:Int}:R F.bound_line [ae c,ae m,am x,I p] []=some (am (Hy c m x p),[]):=by
 refine ax UW rfl ?_;have hs:=DQ om vm;have hw:=Hw;unfold Hy abC tL;simp only[ae,ah]at hs;simp only[am,ao,dN]at hw;have key:∀lo hi:Rd,lo=Rz m x->hi=RA m x->Ok0 lo->Ok0 hi->gZ false gg.rs gg.res 0 (ai R (az false) gg.body (tW [ae c,ae m,am x,I p]) fun _=>.dead)=some (am (if(dt m lo).2=0/\(dt m hi).2=0 then(if(di c (dt m lo).1 p false).2=0/\(di c (dt m hi).1 p true).2=0 then⟨(di c (dt m lo).1 p false).1,(di c (dt m hi).1 p true).1,false⟩else dN)else dN),[]):=by
  intro lo hi e1 e2 ol oh;have h1:=Ku om ol;have h2:=Ku om oh;have o1:=(Kt m lo).2;have o2:=(Kt m hi).2;generalize dt m lo=A at h1 o1⊢;generalize dt m hi=D at h2 o2⊢;have h3:=Hu oc o1 (p:=p);have h4:=Vr oc o2 (p:=p);generalize di c A.1 p false=Y at h3⊢;generalize di c D.1 p true=Z at h4⊢;obtain⟨A1,A2⟩:=A;obtain⟨D1,D2⟩:=D;obtain⟨Y1,Y2⟩:=Y;obtain⟨Z1,Z2⟩:=Z;unfold Rz at e1;unfold RA at e2;simp only[rV,ae,ah]at h1 h2 h3 h4;have hc:((cO m<0)=True/\lo=x.hi/\hi=x.lo)\/((cO m<0)=False/\lo=x.lo/\hi=x.hi):=by
   grind
  clear e1 e2;rcases hc with⟨e0,rfl,rfl⟩| ⟨e0,rfl,rfl⟩
  all_goals
   by_cases a1:A2=0
   ·have f1:(A2=0)=True:=tt a1;by_cases a2:D2=0
    ·have f2:(D2=0)=True:=tt a2;rw[if_pos ⟨a1,a2⟩];by_cases a3:Y2=0
     ·have f3:(Y2=0)=True:=tt a3;by_cases a4:Z2=0
      ·have f4:(Z2=0)=True:=tt a4;rw[if_pos ⟨a3,a4⟩];simp only[gg,qj,ae,ah,am,ao,dN,go_sem,axw,axl,axA,axt,axs,axD,hs,e0,h1,h2,h3,h4,f1,f2,f3,f4]
      ·have f4:(Z2=0)=False:=ff a4;rw[if_neg (fun h=>a4 h.2)];simp only[gg,qj,ae,ah,am,ao,dN,go_sem,axw,axl,axA,axt,axs,axD,hs,e0,h1,h2,h3,h4,f1,f2,f3,f4,hw]
     ·have f3:(Y2=0)=False:=ff a3;rw[if_neg (fun h=>a3 h.1)];simp only[gg,qj,ae,ah,am,ao,dN,go_sem,axw,axl,axA,axt,axs,axD,hs,e0,h1,h2,h3,h4,f1,f2,f3,hw]
    ·have f2:(D2=0)=False:=ff a2;rw[if_neg (fun h=>a2 h.2)];simp only[gg,qj,ae,ah,am,ao,dN,go_sem,axw,axl,axA,axt,axs,axD,hs,e0,h1,h2,h3,h4,f1,f2,hw]
   ·have f1:(A2=0)=False:=ff a1;rw[if_neg (fun h=>a1 h.1)];simp only[gg,qj,ae,ah,am,ao,dN,go_sem,axw,axl,axA,axt,axs,axD,hs,e0,h1,h2,h3,h4,f1,hw]
 by_cases hm:cO m<0
 ·exact key _ _ rfl rfl (by unfold Rz;rw[if_pos hm];exact ox.hi) (by unfold RA;rw[if_pos hm];exact ox.lo)
 ·exact key _ _ rfl rfl (by unfold Rz;rw[if_neg hm];exact ox.lo) (by unfold RA;rw[if_neg hm];exact ox.hi)
theorem YA:∀ (l:List Rt) (o:List (Option Rd)),(∀t∈l,vd t.c=true/\Ok0 t.c)->(∀x∈o,∀d,x=some d->vd d=true/\Ok0 d)->∀x∈AM l o,∀d,x=some d->vd d=true/\Ok0 d
 |[],o,_,ho=>ho
 |t::l,o,hl,ho=>by
  unfold AM;refine YA l _ (fun u hu=>hl u (List.mem_cons_of_mem _ hu)) fun x hx d hd=>?_;rcases List.mem_or_eq_of_mem_set hx with h|h
  ·exact ho x h d hd
  ·rw[h]at hd;obtain rfl:=Option.some.inj hd;exact hl t (List.mem_cons_self ..)
theorem YB{a:Rp}(oa:OkP a)(hv:vp a=true):(∀d∈Hx a,vd d=true/\Ok0 d)/\(Hx a).length=a.vars.toNat+1:=by
 constructor
 ·intro d hd;simp only[Hx,Yy,axR]at hd;obtain⟨o,ho,rfl⟩:=hd;have:=YA a.terms (awO (a.vars.toNat+1) none) (fun t ht=>⟨(Gq hv ht).2.2.1,(oa.t t ht).c⟩) (fun x hx d hd=>by
   rw[List.eq_of_mem_replicate hx]at hd;exact nomatch hd) o ho
  cases o with
  |none=>exact aU
  |some d=>exact this d rfl
 ·simp[Hx,Yy,MS]
theorem adN(a l):aW (a::l) 0=some (.ipt a):=by simp[aW]
theorem alp(a b l):aW (a::b::l) 1=some (.ipt b):=by simp[aW]
theorem agm{a:Rp}{dom:List Ri}(oa:OkP a)(od:∀x∈dom,OkI x){p:Int}(hf:(ni a dom&&bJ p)=true)(hl:E3 a=true)(h1:a.vars=1){c m:Rd}{x:Ri}(hlin:Hx a=[c,m])(hdom:dom=[x]):
  R F.bound_Bernstein [aO a,.sl 7 (bL dom),I p] []=some (am (Hy c m x p),[]):=by
 refine ax jv rfl ?_;have h2:dom.length<=100000:=by rw[hdom];exact(by decide:1<=100000)
 have hf1:=Kq oa od h2 (p:=p);rw[hf]at hf1;have hL:=Ry oa;unfold VH at hL;rw[if_pos hl,hlin]at hL;have hv:vp a=true:=by
  simp only[E3,awS]at hl;exact hl.1
 obtain⟨k1,k2⟩:=YB oa hv;rw[hlin]at k1;have kc:=k1 c (List.mem_cons_self ..);have km:=k1 m (List.mem_cons_of_mem _ (List.mem_cons_self ..));have hn:=aiV kc.2 km.2 km.1 (od x (by rw[hdom];exact List.mem_cons_self ..)) (p:=p);generalize Hy c m x p=z at hn⊢;subst hdom;have e1:(a.vars=1)=True:=tt h1;simp only[aO,bL,axp,axv,ao]at hf1 hL;simp only[BE,DR,axp,axv,ah]at hL;simp only[ae,ah,am,ao]at hn;simp only[fY,jt,aO,bL,axp,axv,am,ao,go_sem,axw,axl,axA,axt,axs,axD,hf1,hL,hn,e1,adN,alp]
def azj(x:Rd):Nat->Rd->Option Rd
 |0,c=>some c
 |n+1,c=>if(dt c x).2=0 then azj x n (dt c x).1 else none
def aAL:List Int->List Rd->Rd->Option Rd
 |e::es,x::xs,c=>(azj x e.toNat c).bind fun d=>aAL es xs d
 |_,_,c=>some c
def aAO(xs:List Rd):List Rt->Rd->Rd×Int
 |[],s=>(s,0)
 |t::l,s=>match aAL t.exps xs t.c with
  |none=>(aI,9)
  |some d=>if(iF s d).2=0 then aAO xs l (iF s d).1 else(aI,9)
def aC5(a:Rp)(xs:List Rd):Bool:=vp a&& (decide ((xs.length:Int)=a.vars)&&xs.all vd)
def aAM(a:Rp)(xs:List Rd):Rd×Int:=if aC5 a xs=true then aAO xs a.terms aI else(aI,1)
theorem Kv{z:Int}{j:Nat}(h:(cH (cM z (-16384-j))).2=0):zI (cH (cM z (-16384-j))).1*2^j=z:=by
 unfold cH at h⊢;by_cases hr:qF (af (ab (cM z (-16384-j)).m)) (cM z (-16384-j)).e=true
 ·rw[if_pos hr];unfold cM at hr⊢;by_cases h0:z.natAbs=0
  ·have:z=0:=by omega
   rw[this,cF rfl,Int.zero_mul]
  ·obtain⟨g1,g2,g3,g4⟩:=rL (neg:=decide (z<0)) (e:=-16384- (j:Int)) h0;obtain⟨t1,t2⟩:=sT h0;have hp:af (ab (bm (decide (z<0)) z.natAbs (-16384-j)).m)≠0:=by
    grind[eL]
   have he:=AE hr hp;rw[iw h0];unfold zI mg;rw[aN];have ht:(-16384- (j:Int)+(tz z.natAbs:Nat)+16384).toNat+j=tz z.natAbs:=by omega
   generalize(-16384- (j:Int)+(tz z.natAbs:Nat)+16384).toNat=k at ht⊢;have hm:(((z.natAbs/2^tz z.natAbs*2^k:Nat):Int))*2^j=z.natAbs:=by
    have:z.natAbs/2^tz z.natAbs*2^k*2^j=z.natAbs:=by
     grind[axn,axa,axf]
    grind
   grind
 grind
theorem P9{a b:Rd}(h:(iF a b).2=0):zI (iF a b).1=zI a+zI b:=by
 unfold iF at h⊢;split at h
 ·have:=Kv (z:=zI a+zI b) (j:=0) h;grind
 omega
theorem aiW{a b:Rd}(h:(dt a b).2=0):zI (dt a b).1*2^16384=zI a*zI b:=by
 unfold dt at h⊢;split at h
 ·rename_i h1;rw[if_pos h1];exact Kv (z:=zI a*zI b) (j:=16384) h
 omega
theorem alq{q t:List Int}(h:bO q t<0):bh q<=bh t:=by
 unfold bO cp at h;omega
theorem YC{v:Int}:∀ (l:List Rt) (pr:Option Rt),yg v pr l=true->∀u∈l.getLast?,∀t∈l,bh t.exps<=bh u.exps
 |[],_,_,u,hu,_,_=>nomatch hu
 |[t],_,_,u,hu,w,hw=>by
  grind
 |t::s::l,pr,h,u,hu,w,hw=>by
  have h2:yg v (some t) (s::l)=true:=by
   simp_all[yg,awS]
  have hu2:u∈ (s::l).getLast?:=by grind
  have ih:=YC (s::l) (some t) h2 u hu2;rcases List.mem_cons.1 hw with h3|h3
  ·rw[h3];unfold yg at h2;simp only[awS]at h2;have h4:bO t.exps s.exps<0:=of_decide_eq_true h2.2.1;exact Int.le_trans (alq h4) (ih s (List.mem_cons_self ..))
  grind
theorem aiX{a:Rp}(h:E3 a=true):vp a=true/\∀t∈a.terms,bh t.exps<=1:=by
 simp only[E3,awS,decide_eq_true_eq]at h;refine⟨h.1,fun t ht=>?_⟩;have h2:=h.2;unfold ej at h2;rw[if_pos h.1]at h2;cases hl:a.terms.getLast? with
 |none=>grind
 |some u=>
  rw[hl]at h2;exact Int.le_trans (YC a.terms none (Ow h.1).2.2.2 u (by omega) t ht) h2
theorem aiY{t:Rt}(h:(t.exps.length:Int)=1):∃e,t.exps=[e]:=by
 match t.exps,h with
 |[e],_=>grind
 |[],h=>grind
 |_::_::l,h=>grind
theorem aBu{d:Rd}(ok:Ok0 d):R F.r02_Checked [ae d] []=some (rV (if vd d=true then(d,0)else(aI,9)),[]):=by
 refine ax aBT rfl ?_;have hv:=EY ok;simp only[ae,ah]at hv;cases hb:vd d with
 |false=>
  rw[hb]at hv;simp only[aAZ,aBh,rV,ae,ah,aI,go_sem,hv]
 |true=>
  rw[hb]at hv;simp only[aAZ,aBh,rV,ae,ah,go_sem,hv]
theorem aBE(z f:Int):(if vd (cM z f)=true then(cM z f,(0:Int))else(aI,9))=cH (cM z f):=by
 unfold cH;by_cases h:qF (af (ab (cM z f).m)) (cM z f).e=true
 ·rw[if_pos h,if_pos (show vd (cM z f)=true from Gn h)]
 ·rw[if_neg h,if_neg];intro h2;by_cases h0:(cM z f).m.length=0
  ·rw[AD h2 h0]at h;exact h (by decide)
  grind[wT]
theorem aB9{z f:Int}{k:Nat}(h:af z.natAbs<=32*k)(hk:k<=100000):Ok0 (cM z f):=
 ⟨yc _ _ _,axF (AF (k:=k) h) (by omega)⟩
theorem aCX{a b:Rd}(oa:Ok0 a)(ob:Ok0 b):R F.r02_Mul [ae a,ae b] []=some (rV (dt a b),[]):=by
 refine ax aCr rfl ?_;have ha:=EY oa;have hb:=EY ob;unfold dt;simp only[ae,ah]at ha hb;cases va:vd a with
 |false=>
  rw[va]at ha;simp only[aBb,aBo,rV,ae,ah,aI,go_sem,ha]
 |true=>
  rw[va]at ha;cases vb:vd b with
  |false=>
   rw[vb]at hb;simp only[aBb,aBo,rV,ae,ah,aI,go_sem,ha,hb]
  |true=>
   rw[vb]at hb;have hp:=aB8 oa ob va vb;rw[adH oa ob va vb]at hp;have hl:Ok0 (cM (zI a*zI b) (-32768)):=by
    rw[←adH oa ob va vb];have h1:=Jp (ab a.m) (ab b.m);obtain⟨_,_,_,h2⟩:=dM va oa.lb;obtain⟨_,_,_,h3⟩:=dM vb ob.lb;exact⟨yc _ _ _,axF (AF (k:=256) (by omega)) (by decide)⟩
   have hc:=aBu hl;rw[aBE]at hc;simp only[rV,ae,ah]at hp hc;simp only[aBb,aBo,rV,ae,ah,go_sem,ha,hb,hp,hc]
theorem aCa{a b:Rd}(oa:Ok0 a)(ob:Ok0 b):R F.r02_Add [ae a,ae b] []=some (rV (iF a b),[]):=by
 refine ax aCs rfl ?_;have ha:=EY oa;have hb:=EY ob;unfold iF;simp only[ae,ah]at ha hb;cases va:vd a with
 |false=>
  rw[va]at ha;simp only[aBc,aBp,rV,ae,ah,aI,go_sem,ha]
 |true=>
  rw[va]at ha;cases vb:vd b with
  |false=>
   rw[vb]at hb;simp only[aBc,aBp,rV,ae,ah,aI,go_sem,ha,hb]
  |true=>
   rw[vb]at hb;have hp:=aiM oa ob va vb;have hl:Ok0 (cM (zI a+zI b) (-16384)):=aB9 (k:=2000) (awX (aBr (aBz oa va) (aBz ob vb)) (by decide)) (by decide);have hc:=aBu hl;rw[aBE]at hc;simp only[rV,ae,ah]at hp hc;simp only[aBc,aBp,rV,ae,ah,go_sem,ha,hb,hp,hc]
theorem aCJ{a b:Rd}(h:(dt a b).2≠0):(dt a b).1=aI:=by
 unfold dt cH at h⊢;grind
def az0(x:Rd)(n:Nat)(c:Rd):Rd×Bool:=match azj x n c with
 |some d=>(d,true)
 |none=>(aI,false)
theorem aCh{x:Rd}(ox:Ok0 x):∀ (n:Nat),n<=100000->∀ (c:Rd),Ok0 c->∀ (s:ak) (h:ac),s 2=I n->s 3=.ref 3 none 0 0 0->s 4=.ref 4 none 0 0 0->s 6=.ref 6 none 0 0 0->h 3=.bx (ah c)->h 4=.bx (ah x)->h 6=.bx [B false,.emp,I 0]->
  ∃hh,cr (aj 0 [3,6] (au (ai R (az false) aAt) [2,3,4,6] [3,4,6] s h)) (ai R (az false) (.seq (.ops [6,7] [la 22 3 3,sr 3 (.t 6) (.t 22),co 7 (.mv (.c (B true)))]) (.ret)))=some (.ret,⟨upd (upd (fun _=>.any) 7 (B (az0 x n c).2)) 6 (.ref 6 none 0 0 0),hh⟩)/\hh 6=.bx (ah (az0 x n c).1):=by
 intro n;induction n with
 |zero=>
  intro _ c oc s h h2 h3 h4 h6 k3 k4 k6;have e1:(0< ((0:Nat):Int))=False:=ff;rw[ag];refine⟨?hh0,?_,?_⟩;rotate_left
  ·simp only[aAt,az0,azj,go_sem,h2,h3,h4,h6,k3,k4,k6,e1];rfl
  ·rfl
 |succ n ih=>
  intro hn c oc s h h2 h3 h4 h6 k3 k4 k6;have e1:(0< ((n+1:Nat):Int))=True:=tt;have e5:IntKind.i64.wrap (((n+1:Nat):Int)-1)=(n:Int):=by grind[i64_in]
  have hm:=aCX oc ox;have he:=aCJ (a:=c) (b:=x);have om:=(Kt c x).2;rw[ag];unfold az0 azj;by_cases h0:(dt c x).2=0
  ·have ih':=ih (by omega) (dt c x).1 om;generalize dt c x=r at hm h0 ih'⊢;obtain⟨r1,r2⟩:=r;have e2:(r2=0)=True:=tt h0;simp only[rV,ae,ah]at hm k3 k4;simp only[aAt,go_sem,h2,h3,h4,h6,k3,k4,k6,e1,e5,hm,e2]at ih'⊢;exact ih' _ _ rfl rfl rfl rfl rfl rfl rfl
  ·rw[if_neg h0]
   replace he:=he h0
   generalize dt c x=r at hm h0 he⊢;obtain⟨r1,r2⟩:=r;have e2:(r2=0)=False:=ff h0;subst he;simp only[rV,ae,ah]at hm k3 k4;refine⟨?hh1,?_,?_⟩;rotate_left
   ·simp only[aAt,go_sem,h2,h3,h4,h6,k3,k4,k6,e1,hm,e2];rfl
   ·rfl
theorem aCi{c x:Rd}(oc:Ok0 c)(ox:Ok0 x){n:Nat}(hn:n<=100000):R F.r23_times [ae c,ae x,I n] []=some (.tup [ae (az0 x n c).1,B (az0 x n c).2],[]):=by
 refine ax aB6 rfl ?_;have h:=aCh ox n hn c oc;have h':∀ (S:ak) (H:ac) (X:Option (Ex×St)),cr (aj 0 [3,6] (au (ai R (az false) aAt) [2,3,4,6] [3,4,6] S H)) (ai R (az false) (.seq (.ops [6,7] [la 22 3 3,sr 3 (.t 6) (.t 22),co 7 (.mv (.c (B true)))]) (.ret)))=X->S 2=I n->S 3=.ref 3 none 0 0 0->S 4=.ref 4 none 0 0 0->S 6=.ref 6 none 0 0 0->H 3=.bx (ah c)->H 4=.bx (ah x)->H 6=.bx [B false,.emp,I 0]->
   ∃hh,X=some (.ret,⟨upd (upd (fun _=>.any) 7 (B (az0 x n c).2)) 6 (.ref 6 none 0 0 0),hh⟩)/\hh 6=.bx (ah (az0 x n c).1):=fun S H X hX=>by
  rw[←hX];exact h S H
 simp only[aBl,aBC,ae,ah,go_sem];generalize hB:cr (aj 0 [3,6] (au _ _ _ _ _)) _=X;obtain⟨hh,g1,g2⟩:=h' _ _ _ hB rfl rfl rfl rfl rfl rfl rfl;rw[g1];simp only[ah]at g2;simp only[go_sem,g2]
theorem az9{x:Rd}:∀ (n:Nat) (c d:Rd),Ok0 c->azj x n c=some d->Ok0 d
 |0,c,d,oc,h=>by
  grind[azj,Option.some.inj]
 |n+1,c,d,oc,h=>by
  unfold azj at h;split at h
  ·exact az9 n _ d (Kt c x).2 h
  ·exact nomatch h
abbrev zb:List AV:=[B false,.emp,I 0]
theorem aC6{a:Rp}{xs:List Rd}(ox:∀d∈xs,Ok0 d)(h2:xs.length<=100000):∀ (k i:Nat),i+k=xs.length->∀ (s:ak) (h:ac),s 1=BE xs->s 2=.ref 2 none 0 0 0->s 4=.ref 4 none 0 0 0->s 6=I i->h 2=.bx [I a.vars,.sl 4 (aH a.terms)]->h 4=.bx zb->
  ∃hh,hh 4=.bx zb/\(((xs.drop i).all vd=true/\hh 2=.bx [I a.vars,.sl 4 (aH a.terms)]/\(∀a,a≠2->a≠4->hh a=.dead)/\aj 0 [1,2,4] (au (ai R (az false) aAq) [1,2,4,6] [2,4] s h)=some (.normal,⟨upd (upd (upd (fun _=>.any) 4 (.ref 4 none 0 0 0)) 2 (.ref 2 none 0 0 0)) 1 (BE xs),hh⟩))\/
   ((xs.drop i).all vd=false/\aj 0 [1,2,4] (au (ai R (az false) aAq) [1,2,4,6] [2,4] s h)=some (.ret,⟨upd (upd (fun _=>.any) 5 (I 1)) 4 (.ref 4 none 0 0 0),hh⟩))):=by
 intro k;induction k with
 |zero=>
  intro i hi s h h1 h2 h4 h6 k2 k4;have e1:((i:Int)<xs.length)=False:=ff;rw[axi (by omega),ag];refine⟨?hh0,?_,.inl ⟨rfl,?_,?_,?_⟩⟩;rotate_left 4
  ·simp only[aAq,BE,go_sem,h1,h2,h4,h6,k2,k4,e1];rfl
  all_goals simp_all[upd,if_neg]
 |succ k ih=>
  intro i hi s h h1 h2 h4 h6 k2 k4;have hlt:i<xs.length:=by omega
  have e1:((i:Int)<xs.length)=True:=tt;have e2:aW (DR xs) (i:Int)=some (.ipt (ah xs[i])):=aiy rfl (List.getElem?_eq_getElem hlt);have e5:IntKind.i64.wrap ((i:Int)+1)=((i+1:Nat):Int):=wi;have od:=ox xs[i] (axr hlt);have ih':=ih (i+1) (by omega);rw[axh hlt,ag];generalize xs[i]=d at e2 od⊢;have hv:=EY od;unfold BE at h1 ih'⊢;simp only[ae,ah]at hv e2;cases hb:vd d with
  |true=>
   rw[hb]at hv;rw[show(d::xs.drop (i+1)).all vd=(xs.drop (i+1)).all vd by rw[axu,hb,awT]];simp only[aAq,go_sem,h1,h2,h4,h6,k2,k4,e1,e2,e5,hv];exact ih' _ _ rfl rfl rfl rfl rfl rfl
  |false=>
   rw[hb]at hv;rw[show(d::xs.drop (i+1)).all vd=false by rw[axu,hb,awU]];refine⟨?hh1,?_,.inr ⟨rfl,?_⟩⟩;rotate_left 2
   ·simp only[aAq,go_sem,h1,h2,h4,h6,k2,k4,e1,e2,hv];rfl
   ·rfl
theorem aCj{es:List Int}{xs:List Rd}{c:Rd}{i:Nat}(h1:i<es.length)(h2:i<xs.length):aAL (es.drop i) (xs.drop i) c=(azj xs[i] es[i].toNat c).bind fun d=>aAL (es.drop (i+1)) (xs.drop (i+1)) d:=by
 rw[axh h1,axh h2];rfl
theorem aDh{a:Rp}{xs:List Rd}{t:Rt}{j:Nat}{c7:List AV}(h7c:c7.all (jq [2,4,7,9])=true)(ox:∀d∈xs,Ok0 d)(hx:(xs.length:Int)=a.vars)(hv:a.vars<=8)(he:t.exps.length=xs.length)(hr:∀e∈t.exps,0<=e/\e<=32)(ht:a.terms[j]?=some t):∀ (k i:Nat),i+k=xs.length->∀ (c:Rd),Ok0 c->∀ (s:ak) (h:ac),s 1=BE xs->s 2=.ref 2 none 0 0 0->s 4=.ref 4 none 0 0 0->s 7=.ref 7 none 0 0 0->s 8=I j->s 9=.ref 9 none 0 0 0->s 10=I i->
  h 2=.bx [I a.vars,.sl 4 (aH a.terms)]->h 4=.bx zb->h 7=.bx c7->h 9=.bx (ah c)->
  ∃hh,hh 4=.bx zb/\((∃d,aAL (t.exps.drop i) (xs.drop i) c=some d/\Ok0 d/\hh 9=.bx (ah d)/\hh 2=.bx [I a.vars,.sl 4 (aH a.terms)]/\hh 7=.bx c7/\(∀a,a≠2->a≠4->a≠7->a≠9->hh a=.dead)/\
    aj 4 [1,2,4,7,8,9] (au (ai R (az false) aAp) [1,2,4,7,8,9,10] [2,4,7,9] s h)=some (.normal,⟨upd (upd (upd (upd (upd (upd (fun _=>.any) 9 (.ref 9 none 0 0 0)) 8 (I j)) 7 (.ref 7 none 0 0 0)) 4 (.ref 4 none 0 0 0)) 2 (.ref 2 none 0 0 0)) 1 (BE xs),hh⟩))\/
   (aAL (t.exps.drop i) (xs.drop i) c=none/\aj 4 [1,2,4,7,8,9] (au (ai R (az false) aAp) [1,2,4,7,8,9,10] [2,4,7,9] s h)=some (.ret,⟨upd (upd (fun _=>.any) 5 (I 9)) 4 (.ref 4 none 0 0 0),hh⟩))):=by
 intro k;induction k with
 |zero=>
  intro i hi c oc s h h1 h2 h4 h7 h8 h9 h10 k2 k4 k7 k9;have e1:((i:Int)<a.vars)=False:=ff;rw[axi (show xs.length<=i by omega),axi (show t.exps.length<=i by omega),ag];refine⟨?hh0,?_,.inl ⟨c,rfl,oc,?_,?_,?_,?_,?_⟩⟩;rotate_left 6
  ·simp only[aAp,BE,go_sem,h1,h2,h4,h7,h8,h9,h10,k2,k4,k7,k9,h7c,e1];rfl
  all_goals simp_all[upd,if_neg]
 |succ k ih=>
  intro i hi c oc s h h1 h2 h4 h7 h8 h9 h10 k2 k4 k7 k9;have hlt:i<xs.length:=by omega
  have hlt2:i<t.exps.length:=by omega
  have e1:((i:Int)<a.vars)=True:=tt;have e2:aW (DR xs) (i:Int)=some (.ipt (ah xs[i])):=aiy rfl (List.getElem?_eq_getElem hlt);have e3:aW (aH a.terms) (j:Int)=some (.ipt (bD t)):=eZ rfl ht;have e4:aW (aS t.exps) (i:Int)=some (.ipt [I t.exps[i]]):=nZ rfl (List.getElem?_eq_getElem hlt2);have e5:IntKind.i64.wrap ((i:Int)+1)=((i+1:Nat):Int):=wi;have od:=ox xs[i] (axr hlt);obtain⟨r1,r2⟩:=hr t.exps[i] (axr hlt2);have ih':=ih (i+1) (by omega);rw[aCj hlt2 hlt,ag];generalize t.exps[i]=e at e4 r1 r2⊢;obtain⟨n,rfl⟩:=ax5 r1;rw[awY];generalize xs[i]=x at e2 od⊢;have hm:=aCi oc od (n:=n) (by omega);have hok:=az9 (x:=x) n c;unfold az0 at hm;unfold BE at h1 ih'⊢;simp only[bD]at e3;cases hT:azj x n c with
  |some d=>
   have oc2:=hok d oc hT;rw[hT]at hm;simp only[ae,ah]at hm e2 k9
   replace ih':=ih' d oc2
   simp only[aAp,go_sem,h1,h2,h4,h7,h8,h9,h10,k2,k4,k7,k9,h7c,e1,e2,e3,e4,e5,hm];exact ih' _ _ rfl rfl rfl rfl rfl rfl rfl rfl rfl rfl rfl
  |none=>
   rw[hT]at hm;simp only[ae,ah,aI]at hm e2 k9;refine⟨?hh1,?_,.inr ⟨rfl,?_⟩⟩;rotate_left 2
   ·simp only[aAp,go_sem,h1,h2,h4,h7,h8,h9,h10,k2,k4,k7,k9,h7c,e1,e2,e3,e4,hm];rfl
   ·rfl
theorem aBO{xs:List Rd}{t:Rt}{l:List Rt}{q d:Rd}(h:aAL t.exps xs t.c=some d):aAO xs (t::l) q=if(iF q d).2=0 then aAO xs l (iF q d).1 else(aI,9):=by
 rw[show aAO xs (t::l) q=(match aAL t.exps xs t.c with|none=>(aI,(9:Int))|some d=>if(iF q d).2=0 then aAO xs l (iF q d).1 else(aI,9))from rfl,h]
theorem aBP{xs:List Rd}{t:Rt}{l:List Rt}{q:Rd}(h:aAL t.exps xs t.c=none):aAO xs (t::l) q=(aI,9):=by
 rw[show aAO xs (t::l) q=(match aAL t.exps xs t.c with|none=>(aI,(9:Int))|some d=>if(iF q d).2=0 then aAO xs l (iF q d).1 else(aI,9))from rfl,h]
theorem aC7{a:Rp}{xs:List Rd}(ox:∀d∈xs,Ok0 d)(oa:OkP a)(hv:vp a=true)(hx:(xs.length:Int)=a.vars):∀ (k i:Nat),i+k=a.terms.length->∀ (q:Rd),Ok0 q->∀ (c7:List AV),(c7=ah q\/(c7=zb/\q=aI))->∀ (s:ak) (h:ac),s 1=BE xs->s 2=.ref 2 none 0 0 0->s 4=.ref 4 none 0 0 0->s 7=.ref 7 none 0 0 0->s 8=I i->
  h 2=.bx [I a.vars,.sl 4 (aH a.terms)]->h 4=.bx zb->h 7=.bx c7->
  ∃hh,hh 4=.bx zb/\((∃d c8,aAO xs (a.terms.drop i) q=(d,0)/\hh 7=.bx c8/\(c8=ah d\/(c8=zb/\d=aI))/\aj 2 [4,7] (au (ai R (az false) aAs) [1,2,4,7,8] [2,4,7] s h)=some (.normal,⟨upd (upd (fun _=>.any) 7 (.ref 7 none 0 0 0)) 4 (.ref 4 none 0 0 0),hh⟩))\/
   (aAO xs (a.terms.drop i) q=(aI,9)/\aj 2 [4,7] (au (ai R (az false) aAs) [1,2,4,7,8] [2,4,7] s h)=some (.ret,⟨upd (upd (fun _=>.any) 5 (I 9)) 4 (.ref 4 none 0 0 0),hh⟩))):=by
 obtain⟨v1,v2,v3,v4⟩:=Ow hv;intro k;induction k with
 |zero=>
  intro i hi q oq c7 hq s h h1 h2 h4 h7 h8 k2 k4 k7;have e1:((i:Int)<a.terms.length)=False:=ff;rw[axi (by omega),ag];have h7c:c7.all (jq [2,4,7])=true:=by rcases hq with rfl| ⟨rfl,rfl⟩<;>rfl
  refine⟨?hh0,?_,.inl ⟨q,c7,rfl,?_,hq,?_⟩⟩;rotate_left 3
  ·simp only[aAs,go_sem,h1,h2,h4,h7,h8,k2,k4,k7,h7c,e1];rfl
  ·rfl
  ·rfl
 |succ k ih=>
  intro i hi q oq c7 hq s h h1 h2 h4 h7 h8 k2 k4 k7;have hlt:i<a.terms.length:=by omega
  have e1:((i:Int)<a.terms.length)=True:=tt;have ht:=List.getElem?_eq_getElem hlt;have e5:IntKind.i64.wrap ((i:Int)+1)=((i+1:Nat):Int):=wi;have okt:=oa.t a.terms[i] (axr hlt);obtain⟨c1,c2,c3,c4,c5⟩:=Gq hv (axr hlt);have ih':=ih (i+1) (by omega);rw[axh hlt,ag];generalize a.terms[i]=t at ht okt c1 c2 c3 c4 c5⊢;have e2:aW (aH a.terms) (i:Int)=some (.ipt (bD t)):=eZ rfl ht;have h7c:c7.all (jq [2,4,7])=true:=by rcases hq with rfl| ⟨rfl,rfl⟩<;>rfl
  have h7d:c7.all (jq [2,4,7,9])=true:=by rcases hq with rfl| ⟨rfl,rfl⟩<;>rfl
  have hin:=aDh h7d ox hx v2 (by omega) c1.2 ht xs.length 0 (awP _) t.c okt.c;generalize hL0:au (ai R (az false) aAp) [1,2,4,7,8,9,10] [2,4,7,9]=L0 at hin;have hX:∀s h,ai R (az false) (.loop [1,2,4,7,8,9,10] [2,4,7,9] aAp) s h=L0 s h:=fun s h=>by rw[←hL0];rfl
  have hin2:∀ (S:ak) (H:ac) (X:Option (Ex×St)),aj 4 [1,2,4,7,8,9] (L0 S H)=X->S 1=BE xs->S 2=.ref 2 none 0 0 0->S 4=.ref 4 none 0 0 0->S 7=.ref 7 none 0 0 0->S 8=I i->S 9=.ref 9 none 0 0 0->S 10=I 0->
    H 2=.bx [I a.vars,.sl 4 (aH a.terms)]->H 4=.bx zb->H 7=.bx c7->H 9=.bx (ah t.c)->
    ∃hh,hh 4=.bx zb/\((∃d,aAL t.exps xs t.c=some d/\Ok0 d/\hh 9=.bx (ah d)/\hh 2=.bx [I a.vars,.sl 4 (aH a.terms)]/\hh 7=.bx c7/\(∀a,a≠2->a≠4->a≠7->a≠9->hh a=.dead)/\
      X=some (.normal,⟨upd (upd (upd (upd (upd (upd (fun _=>.any) 9 (.ref 9 none 0 0 0)) 8 (I i)) 7 (.ref 7 none 0 0 0)) 4 (.ref 4 none 0 0 0)) 2 (.ref 2 none 0 0 0)) 1 (BE xs),hh⟩))\/
     (aAL t.exps xs t.c=none/\X=some (.ret,⟨upd (upd (fun _=>.any) 5 (I 9)) 4 (.ref 4 none 0 0 0),hh⟩))):=fun S H X hX=>by
   rw[←hX];exact hin S H
  simp only[bD]at e2;simp only[ah]at hin2;simp only[aAs,hX,go_sem,h1,h2,h4,h7,h8,k2,k4,k7,h7c,e1,e2];generalize hB:aj 4 [1,2,4,7,8,9] (L0 _ _)=X;obtain⟨hh,g4,hd⟩:=hin2 _ _ _ hB rfl rfl rfl rfl rfl rfl rfl rfl rfl rfl rfl;rcases hd with⟨d,p1,od,g9,g2,g7,gd,rfl⟩| ⟨p1,rfl⟩
  ·have hm:=aCa oq od;have om:=(aiT q d).2;have ih2:=ih' (iF q d).1 om (ah (iF q d).1) (.inl rfl);rw[aBO p1];generalize iF q d=r at hm om ih2⊢;obtain⟨r1,r2⟩:=r;simp only[rV,ae,ah]at hm ih2;have hg:(c7=[B q.neg,lm q.m,I q.e])\/(c7=zb/\q=aI):=hq;rcases hg with rfl| ⟨rfl,rfl⟩
   all_goals try simp only[aI]at hm
   all_goals
    by_cases h0:r2=0
    ·have e3:(r2=0)=True:=tt h0;rw[if_pos h0];generalize aAO xs (a.terms.drop (i+1)) r1=Z at ih2⊢;simp only[ah,go_sem,g4,g7,g9,gd,hm,ne_eq,not_false_eq_true,e5,e3];refine ih2 _ _ ?_ ?_ ?_ ?_ ?_ ?_ ?_ ?_
     all_goals first|rfl|exact g2|exact g4
    ·have e3:(r2=0)=False:=ff h0;rw[if_neg h0];refine⟨?_,?_,.inr ⟨rfl,?_⟩⟩;rotate_left 2
     ·simp only[go_sem,g4,g7,g9,gd,hm,ne_eq,not_false_eq_true,e3];rfl
     ·rfl
  ·rw[aBP p1];refine⟨hh,g4,.inr ⟨rfl,?_⟩⟩;simp only[go_sem]
theorem aBQ{a:Rp}{xs:List Rd}(oa:OkP a)(ox:∀d∈xs,Ok0 d)(h2:xs.length<=100000):R F.r23_Eval [aO a,BE xs] []=some (rV (aAM a xs),[]):=by
 refine ax aCg rfl ?_;have hv:=abB oa;unfold aAM aC5;simp only[aO]at hv;cases hb:vp a with
 |false=>
  rw[hb]at hv;rw[awU,if_neg awW];simp only[aA2,aBj,rV,ae,ah,aI,aO,BE,go_sem,hv]
 |true=>
  rw[hb]at hv;rw[awT];by_cases hx:(xs.length:Int)=a.vars
  ·have e1:((xs.length:Int)=a.vars)=True:=tt hx;rw[decide_eq_true hx,awT];have hc:=aC6 (a:=a) ox h2 xs.length 0 (awP _);have ho:=aC7 ox oa hb hx a.terms.length 0 (awP _) aI aU.2 zb (.inr ⟨rfl,rfl⟩);simp only[ax0,axB]at hc ho;generalize hL2:au (ai R (az false) aAq) [1,2,4,6] [2,4]=L2 at hc;have hX2:∀s h,ai R (az false) (.loop [1,2,4,6] [2,4] aAq) s h=L2 s h:=fun s h=>by rw[←hL2];rfl
   clear hL2;generalize hL1:au (ai R (az false) aAs) [1,2,4,7,8] [2,4,7]=L1 at ho;have hX1:∀s h,ai R (az false) (.loop [1,2,4,7,8] [2,4,7] aAs) s h=L1 s h:=fun s h=>by rw[←hL1];rfl
   clear hL1;have hc2:∀ (S:ak) (H:ac) (X:Option (Ex×St)),aj 0 [1,2,4] (L2 S H)=X->S 1=BE xs->S 2=.ref 2 none 0 0 0->S 4=.ref 4 none 0 0 0->S 6=I 0->H 2=.bx [I a.vars,.sl 4 (aH a.terms)]->H 4=.bx zb->
     ∃hh,hh 4=.bx zb/\((xs.all vd=true/\hh 2=.bx [I a.vars,.sl 4 (aH a.terms)]/\(∀a,a≠2->a≠4->hh a=.dead)/\X=some (.normal,⟨upd (upd (upd (fun _=>.any) 4 (.ref 4 none 0 0 0)) 2 (.ref 2 none 0 0 0)) 1 (BE xs),hh⟩))\/
      (xs.all vd=false/\X=some (.ret,⟨upd (upd (fun _=>.any) 5 (I 1)) 4 (.ref 4 none 0 0 0),hh⟩))):=fun S H X hX=>by
    rw[←hX];exact hc S H
   have ho2:∀ (S:ak) (H:ac) (X:Option (Ex×St)),aj 2 [4,7] (L1 S H)=X->S 1=BE xs->S 2=.ref 2 none 0 0 0->S 4=.ref 4 none 0 0 0->S 7=.ref 7 none 0 0 0->S 8=I 0->
     H 2=.bx [I a.vars,.sl 4 (aH a.terms)]->H 4=.bx zb->H 7=.bx zb->
     ∃hh,hh 4=.bx zb/\((∃d c8,aAO xs a.terms aI=(d,0)/\hh 7=.bx c8/\(c8=ah d\/(c8=zb/\d=aI))/\X=some (.normal,⟨upd (upd (fun _=>.any) 7 (.ref 7 none 0 0 0)) 4 (.ref 4 none 0 0 0),hh⟩))\/
      (aAO xs a.terms aI=(aI,9)/\X=some (.ret,⟨upd (upd (fun _=>.any) 5 (I 9)) 4 (.ref 4 none 0 0 0),hh⟩))):=fun S H X hX=>by
    rw[←hX];exact ho S H
   clear hc ho;unfold BE at hc2 ho2;simp only[aA2,aBj,hX2,aO,BE,go_sem,hv,e1];generalize hB:aj 0 [1,2,4] (L2 _ _)=X;obtain⟨hh,g4,hd⟩:=hc2 _ _ _ hB rfl rfl rfl rfl rfl rfl;clear hB hc2;rcases hd with⟨q1,g2,gd,rfl⟩| ⟨q1,rfl⟩
   ·rw[q1,if_pos rfl];simp only[hX1,go_sem,gd,ne_eq,not_false_eq_true];generalize hB:aj 2 [4,7] (L1 _ _)=X;obtain⟨hh2,f4,hd⟩:=ho2 _ _ _ hB rfl rfl rfl rfl rfl g2 g4 rfl;clear hB ho2;rcases hd with⟨d,c8,q1,f7,hq,rfl⟩| ⟨q1,rfl⟩
    ·rw[q1];rcases hq with rfl| ⟨rfl,rfl⟩
     ·simp only[ah]at f7;simp only[rV,ae,ah,go_sem,f4,f7]
     ·simp only[rV,ae,ah,aI,go_sem,f4,f7]
    ·rw[q1];simp only[rV,ae,ah,aI,go_sem,f4]
   ·rw[q1,if_neg awW];simp only[rV,ae,ah,aI,go_sem,g4]
  ·have e1:((xs.length:Int)=a.vars)=False:=ff hx;rw[decide_eq_false hx,awU,if_neg awW];simp only[aA2,aBj,rV,ae,ah,aI,aO,BE,go_sem,hv,e1]
theorem XG{a:Rp}(ok:OkP a):R F.r23_Degree [aO a] []=some (I (ej a),[]):=by
 refine ax UP rfl ?_;have hv:=abB ok;unfold ej;simp only[aO]at hv;cases hb:vp a with
 |false=>
  rw[hb]at hv;rw[if_neg awW];simp only[su,yR,aO,go_sem,hv]
 |true=>
  rw[hb]at hv;rw[if_pos rfl];obtain⟨v1,v2,v3,v4⟩:=Ow hb;by_cases h0:a.terms.length=0
  ·have e1:((a.terms.length:Int)=0)=True:=tt;have e4:a.terms.getLast?=none:=by
    rw[List.length_eq_zero_iff.1 h0];rfl
   rw[e4];simp only[su,yR,aO,go_sem,hv,e1]
  ·have e1:((a.terms.length:Int)=0)=False:=ff;have e2:IntKind.i64.wrap ((a.terms.length:Int)-1)=((a.terms.length-1:Nat):Int):=by rw[i64_in]<;>omega
   have hlt:a.terms.length-1<a.terms.length:=by omega
   have e3:aW (aH a.terms) ((a.terms.length-1:Nat):Int)=some (.ipt (bD a.terms[a.terms.length-1])):=eZ rfl (List.getElem?_eq_getElem hlt);have e4:a.terms.getLast?=some a.terms[a.terms.length-1]:=by rw[List.getLast?_eq_getElem?,List.getElem?_eq_getElem hlt]
   obtain⟨c1,c2,c3,c4,c5⟩:=Gq hb (axr hlt);rw[e4];generalize a.terms[a.terms.length-1]=t at e3 c1 c2 c3 c4 c5⊢;have hd:=MQ c1;simp only[bD]at e3;simp only[su,yR,aO,go_sem,hv,e1,e2,e3,hd]
@[go_sem] theorem aut(l:List Rd):(DR l).map (dK [.o 0 [],.o 2 [],.o 0 []])=DR l:=by
 refine qN fun x hx=>?_;simp only[DR,axR]at hx;obtain⟨t,ht,rfl⟩:=hx;simp only[ah,go_sem]
theorem aCb{xs:List Rd}:∀ (l:List Rt) (s:Rd),vd s=true/\Ok0 s->vd (aAO xs l s).1=true/\Ok0 (aAO xs l s).1
 |[],s,h=>h
 |t::l,s,h=>by
  cases hp:aAL t.exps xs t.c with
  |none=>rw[aBP hp];exact aU
  |some d=>
   rw[aBO hp];split
   ·exact aCb l _ (aiT s d)
   ·exact aU
theorem aBF(a:Rp)(xs:List Rd):vd (aAM a xs).1=true/\Ok0 (aAM a xs).1:=by
 grind[aAM,aCb,aU]
theorem DZ{d:Rd}(h:vd d=true):cH d=(d,0):=by
 unfold cH;by_cases h0:d.m.length=0
 ·rw[AD h h0];rfl
 simp_all[if_pos,wT]
theorem Jx{d:Rd}(ok:Ok0 d)(h:vd d=true):bm d.neg (ab d.m) d.e=d:=by
 have h1:=AL ok h;obtain⟨g1,g2,g3,g4⟩:=dM h ok.lb;have hz:zI d=bB d.neg (mg d):=rfl;rw[hz,←yi]at h1;grind[mg,jk]
theorem YD{N k:Nat}{neg:Bool}(ho:N%2=1)(hb:4096<af N):cH (bm neg (N*2^k) (-16384))=(aI,9):=by
 have h0:N≠0:=by omega
 rw[jk];obtain⟨g1,g2,g3,g4⟩:=rL (neg:=neg) (e:=-16384+(k:Int)) h0;have ht:=adF ho 0;rw[Nat.pow_zero,Nat.mul_one]at ht;unfold cH;rw[if_neg];intro h2;rw[g1,ht,Nat.pow_zero,Nat.div_one]at h2;have h3:=(AE h2 (by omega)).1;omega
theorem VK{a b:Rd}(oa:Ok0 a)(ob:Ok0 b)(va:vd a=true)(vb:vd b=true)(na:a.m.length≠0)(nb:b.m.length≠0){e:Int}(he:e=if b.e<a.e then b.e else a.e)(h:4097<aL a-e)(hg:1<aL a-aL b):
  cH (cM (zI a+zI b) (-16384))=(aI,9)/\cH (cM (zI b+zI a) (-16384))=(aI,9):=by
 obtain⟨a1,a2,a3,a4⟩:=dM va oa.lb;obtain⟨b1,b2,b3,b4⟩:=dM vb ob.lb;have e1:=iv va na;have e2:=iv vb nb;have he1:-16384<=e/\e<=a.e/\e<=b.e/\(e=a.e\/e=b.e):=by
  omega
 have hne:a.e≠b.e:=by omega
 have z1:zI a=bB a.neg (ab a.m*2^ (a.e-e).toNat*2^ (e+16384).toNat):=by
  grind[zI,bB,mg,uE]
 have z2:zI b=bB b.neg (ab b.m*2^ (b.e-e).toNat*2^ (e+16384).toNat):=by
  rw[show zI b=bB b.neg (mg b)from rfl,uE he1.1 he1.2.2.1]
 have bx:(af (ab a.m*2^ (a.e-e).toNat):Int)=aL a-e:=by
  grind[dq,dh]
 have by':(af (ab b.m*2^ (b.e-e).toNat):Int)=aL b-e:=by
  grind
 have oX:=Gr va na;have oY:=Gr vb nb;have odd:(ab a.m*2^ (a.e-e).toNat+ab b.m*2^ (b.e-e).toNat) %2=1:=by
  rcases he1.2.2.2 with h1|h1
  ·omega
  ·obtain⟨k,hk⟩:∃k,(a.e-e).toNat=k+1:=⟨(a.e-e).toNat-1,by omega⟩;rw[show(b.e-e).toNat=0 by omega,hk,Nat.pow_zero,Nat.mul_one,axO,←axn];omega
 rw[Int.add_comm (zI b),and_self,z1,z2];generalize ab a.m*2^ (a.e-e).toNat=x at bx odd⊢;generalize ab b.m*2^ (b.e-e).toNat=y at by' odd⊢;generalize(e+16384).toNat=k;have hx:2^ (af x-1)<=x:=jy.1 (by omega);have hy:y<2^ (af x-2):=by
  have h3:y<2^af y:=bK.1 (awQ _);grind[axX,axC]
 have hp:2^ (af x-1)=2^ (af x-2)*2:=by
  rw[←axO];grind
 have hbig:∀N:Nat,x-y<=N->4096<af N:=fun N hN=>by
  have h5:af x-2<af N:=jy.2 (by omega);omega
 have hsum:∀ (n:Bool) (z:Nat),cM (bB n (z*2^k)) (-16384)=bm n (z*2^k) (-16384):=fun n z=>yi.symm;by_cases hs:a.neg=b.neg
 ·have hz:bB a.neg (x*2^k)+bB b.neg (y*2^k)=bB a.neg ((x+y)*2^k):=by
   rw[←hs,axk];cases a.neg
   all_goals grind[lg,pf]
  grind[YD]
 ·have hbn:b.neg=!a.neg:=by
   grind
  have hz:bB a.neg (x*2^k)+bB b.neg (y*2^k)=bB a.neg ((x-y)*2^k):=by
   grind[Bool.not_true,lg,pf]
  rw[hz,hsum];exact YD (by omega) (hbig _ (awQ _))
noncomputable def qJ:Cmd:=.seq (.dops [2,3,4,6,9,10] [fa 65 1 2,ld 66 1 65,fa 67 2 2,ld 68 1 67,cm 69 6,b2 70 .sub 68 69,ca 71 F.dyadic_shifted [.t 66,.t 70],fa 72 1 3,ld 73 1 72,fa 74 2 3,ld 75 1 74,cm 76 6,b2 77 .sub 75 76,ca 78 F.dyadic_shifted [.t 73,.t 77],cm 9 71,cm 10 78] [(6,8),(6,10)]) (.seq (.seq (.ops [2,3,4,6,9,10,83] [fa 79 0 2,ld 80 1 79,fa 81 0 3,ld 82 1 81,co 83 (.eqc false 0 (.t 80) (.t 82))]) (.cond (.t 83) (.seq (.ops [2,4,6,11] [cm 85 9,cm 86 10,ca 87 F.natural_Add [.t 85,.t 86],cm 84 87,co 88 (.ext 0 (.t 84)),co 89 (.ext 1 (.t 84)),cm 11 88,cm 12 89]) (.seq (.ops [4,5] [fa 90 0 2,ld 91 1 90,cm 92 11,cm 93 6,ca 94 F.dyadic_canonical [.t 91,.t 92,.t 93],ca 95 F.dyadic_checked [.t 94],co 96 (.ext 0 (.t 95)),co 97 (.ext 1 (.t 95)),sr 3 (.t 4) (.t 96),cm 5 97]) (.ret))) (.skip))) (.seq (.seq (.ops [2,3,4,6,9,10,101] [cm 98 9,cm 99 10,ca 100 F.natural_Cmp [.t 98,.t 99],co 101 (.bin .lss (.t 100) (.c (I 0)))]) (.cond (.t 101) (.ops [2,4,6,9,10] [la 102 3 3,cm 103 10,cm 104 9,sr 3 (.t 2) (.t 102),cm 9 103,cm 10 104]) (.skip))) (.seq (.ops [2,4,6,13] [cm 106 9,cm 107 10,ca 108 F.natural_Sub [.t 106,.t 107],cm 105 108,co 109 (.ext 0 (.t 105)),co 110 (.ext 1 (.t 105)),cm 13 109,cm 14 110]) (.seq (.ops [4,5] [fa 111 0 2,ld 112 1 111,cm 113 13,cm 114 6,ca 115 F.dyadic_canonical [.t 112,.t 113,.t 114],ca 116 F.dyadic_checked [.t 115],co 117 (.ext 0 (.t 116)),co 118 (.ext 1 (.t 116)),sr 3 (.t 4) (.t 117),cm 5 118]) (.ret)))))
theorem tl:zf=.seq (.ops [2,3,4] [bx 2 3 (.t 0),bx 3 3 (.t 1),al 4 [B false,.emp,I 0],co 5 (.mv (.c (I 0)))]) (.seq (.seq (.ops [2,3,4,24] [fa 15 1 2,ld 16 1 15,co 17 (.len false (.t 16)),co 18 (.bin .eql (.t 17) (.c (I 0))),cm 19 18,cg 20 19 false (.fadr 1 (.t 3)),⟨(some 21),(some (19,false)),.load 1 false (.t 20)⟩,cg 22 19 false (.len false (.t 21)),cg 23 19 false (.bin .eql (.t 22) (.c (I 0))),co 24 (.pick (.t 19) (.c (B true)) (.t 23))]) (.cond (.t 24) (.seq (.seq (.ops [2,3,4,28] [fa 25 1 2,ld 26 1 25,co 27 (.len false (.t 26)),co 28 (.bin .eql (.t 27) (.c (I 0)))]) (.cond (.t 28) (.ops [2,4] [la 29 3 3,sr 3 (.t 2) (.t 29)]) (.skip))) (.seq (.ops [4,5] [fa 30 0 2,ld 31 1 30,fa 32 1 2,ld 33 1 32,fa 34 2 2,ld 35 1 34,ca 36 F.dyadic_canonical [.t 31,.t 33,.t 35],sr 3 (.t 4) (.t 36),co 5 (.mv (.c (I 0)))]) (.ret))) (.skip))) (.seq (.ops [2,3,4,6] [fa 37 2 2,ld 38 1 37,fa 39 2 3,ld 40 1 39,co 41 (.mnx true (.t 38) [.t 40]),cm 6 41]) (.seq (.dops [2,3,4,6,7,8] [la 42 3 2,ca 43 F.dyadic_Top [.t 42],la 44 3 3,ca 45 F.dyadic_Top [.t 44],cm 7 43,cm 8 45] [(1,2)]) (.seq (.seq (.ops [2,3,4,6,63] [cm 46 7,cm 47 8,co 48 (.mnx false (.t 46) [.t 47]),cm 49 6,b2 50 .sub 48 49,co 51 (.bin .gtr (.t 50) (.c (I 4097))),cm 52 51,cg 53 52 true (.mv (.t 7)),cg 54 52 true (.mv (.t 8)),cg 55 52 true (.bin .sub (.t 53) (.t 54)),cg 56 52 true (.bin .gtr (.t 55) (.c (I 1))),cg 57 52 true (.mv (.t 56)),cg 58 57 false (.mv (.t 8)),cg 59 57 false (.mv (.t 7)),cg 60 57 false (.bin .sub (.t 58) (.t 59)),cg 61 57 false (.bin .gtr (.t 60) (.c (I 1))),cg 62 52 true (.pick (.t 57) (.c (B true)) (.t 61)),co 63 (.pick (.t 52) (.t 62) (.c (B false)))]) (.cond (.t 63) (.seq (.ops [4,5] [co 64 (.build [B false,.emp,I 0] []),sr 3 (.t 4) (.t 64),co 5 (.mv (.c (I 9)))]) (.ret)) (.skip))) qJ)))):=rfl
theorem adO{a b:Rd}(oa:Ok0 a)(ob:Ok0 b)(va:vd a=true)(vb:vd b=true)(na:a.m.length≠0)(nb:b.m.length≠0){e:Int}(he1:-16384<=e/\e<=a.e/\e<=b.e)(hX:aL a-e<=5000)(hY:aL b-e<=5000)(s:ak)
  (h2:s 2=.ref 2 none 0 0 0) (h3:s 3=.ref 3 none 0 0 0) (h4:s 4=.ref 4 none 0 0 0) (h6:s 6=I e):
  gZ false [[.o 0 [],.o 2 [],.o 0 []],[]] [.cell 4 3 true,.t 5] 0 (ai R (az false) qJ s (upd (upd (upd (fun _=>.dead) 2 (.bx (ah a))) 3 (.bx (ah b))) 4 (.bx [B false,.emp,I 0])))=some (rV (cH (cM (zI a+zI b) (-16384))),[]):=by
 obtain⟨a1,a2,a3,a4⟩:=dM va oa.lb;obtain⟨b1,b2,b3,b4⟩:=dM vb ob.lb;have e1:=iv va na;have e2:=iv vb nb;have w1:IntKind.i64.wrap (a.e-e)=(((a.e-e).toNat:Nat):Int):=wi;have w2:IntKind.i64.wrap (b.e-e)=(((b.e-e).toNat:Nat):Int):=wi;have z1:zI a=bB a.neg (ab a.m*2^ (a.e-e).toNat*2^ (e+16384).toNat):=by
  grind[zI,bB,mg,uE]
 have z2:zI b=bB b.neg (ab b.m*2^ (b.e-e).toNat*2^ (e+16384).toNat):=by
  rw[show zI b=bB b.neg (mg b)from rfl,uE he1.1 he1.2.2]
 have bx:af (ab a.m*2^ (a.e-e).toNat)<=5000:=by
  grind[dq,dh]
 have by':af (ab b.m*2^ (b.e-e).toNat)<=5000:=by
  grind[dq,dh]
 have l1:=CG oa.lb a1 (k:=(a.e-e).toNat) (by omega) (awX (aT (k:=157) (by omega)) (by decide));have l2:=CG ob.lb b1 (k:=(b.e-e).toNat) (by omega) (awX (aT (k:=157) (by omega)) (by decide));rw[z1,z2];generalize ab a.m*2^ (a.e-e).toNat=x at l1 bx⊢;generalize ab b.m*2^ (b.e-e).toNat=y at l2 by'⊢;have hsum:∀ (n:Bool) (z:Nat),bm n z e=cM (bB n (z*2^ (e+16384).toNat)) (-16384):=fun n z=>by
  rw[←yi,jk,show-16384+(((e+16384).toNat:Nat):Int)=e by omega]
 have lx:(av x).length<=157:=aT (by omega);have ly:(av y).length<=157:=aT (by omega);have hq:Exq e:=⟨by omega,by omega⟩;have hcp:=zE (aZ x) (aZ y) (by omega) (by omega);rw[aN,aN]at hcp;have chk:∀ (n:Bool) (z:Nat),af z<=5001->R F.dyadic_canonical [B n,lm (av z),I e] []=some (ae (bm n z e),[])/\R F.dyadic_checked [ae (bm n z e)] []=some (rV (cH (bm n z e)),[]):=fun n z hz=>by
  have hl:(av z).length<=157:=aT (by omega);have c1:=ng (neg:=n) (m:=av z) (e:=e) (aZ z) (by omega) hq;rw[aN]at c1;refine⟨c1,?_⟩;rw[CF (yc n z e) (awX (AF (k:=157) (by omega)) (by decide))];exact congrArg (fun v=>some (v,[])) (Km _)
 by_cases hs:a.neg=b.neg
 ·have p1:=Yk (x:=x) (y:=y) bx by';obtain⟨c1,c2⟩:=chk a.neg (x+y) (DT bx by');have hz:bB a.neg (x*2^ (e+16384).toNat)+bB b.neg (y*2^ (e+16384).toNat)=bB a.neg ((x+y)*2^ (e+16384).toNat):=by
   rw[←hs,axk];cases a.neg
   all_goals grind[lg,pf]
  rw[hz,←hsum];generalize bm a.neg (x+y) e=r at c1 c2⊢;generalize cH r=q at c2⊢;obtain⟨q1,q2⟩:=q;have hs2:(a.neg==b.neg)=true:=by grind
  have hs3:(false != (a.neg==b.neg))=true:=by grind
  simp only[rV,ae,ah]at c1 c2;simp only[qJ,rV,ae,ah,go_sem,h2,h3,h4,h6,w1,w2,l1,l2,hs3,p1,c1,c2]
 ·have hs2:(a.neg==b.neg)=false:=by
   grind
  have hs3:(false != (a.neg==b.neg))=false:=by grind
  have hbn:b.neg=!a.neg:=by
   grind
  have hb1:∀u v:Nat,af u<=5000->af (u-v)<=5001:=fun u v hu=>yb (Nat.sub_le u v) (awX hu (by decide));by_cases hlt:x<y
  ·have e5:(bY x y<0)=True:=tt (by simp_all[bY,if_pos]);have m1:=Kn (x:=y) (y:=x) by' bx (by omega);obtain⟨c1,c2⟩:=chk b.neg (y-x) (hb1 _ _ by');have hz:bB a.neg (x*2^ (e+16384).toNat)+bB b.neg (y*2^ (e+16384).toNat)=bB b.neg ((y-x)*2^ (e+16384).toNat):=by
    grind[Bool.not_true,lg,pf]
   rw[hz,←hsum];generalize bm b.neg (y-x) e=r at c1 c2⊢;generalize cH r=q at c2⊢;obtain⟨q1,q2⟩:=q;simp only[rV,ae,ah]at c1 c2;simp only[qJ,rV,ae,ah,go_sem,h2,h3,h4,h6,w1,w2,l1,l2,hs3,hcp,e5,m1,c1,c2]
  ·have e5:(bY x y<0)=False:=ff (by unfold bY;omega);have m1:=Kn (x:=x) (y:=y) bx by' (by omega);obtain⟨c1,c2⟩:=chk a.neg (x-y) (hb1 _ _ bx);have hz:bB a.neg (x*2^ (e+16384).toNat)+bB b.neg (y*2^ (e+16384).toNat)=bB a.neg ((x-y)*2^ (e+16384).toNat):=by
    grind[Bool.not_true,lg,pf]
   rw[hz,←hsum];generalize bm a.neg (x-y) e=r at c1 c2⊢;generalize cH r=q at c2⊢;obtain⟨q1,q2⟩:=q;simp only[rV,ae,ah]at c1 c2;simp only[qJ,rV,ae,ah,go_sem,h2,h3,h4,h6,w1,w2,l1,l2,hs3,hcp,e5,m1,c1,c2]
theorem YE{a b:Rd}(oa:Ok0 a)(ob:Ok0 b)(va:vd a=true)(vb:vd b=true):R F.dyadic_sum [ae a,ae b] []=some (rV (cH (cM (zI a+zI b) (-16384))),[]):=by
 refine ax UY rfl ?_;by_cases a0:a.m.length=0
 ·have e1:((a.m.length:Int)=0)=True:=tt;have hz:=AD va a0;obtain⟨b1,b2,b3,b4⟩:=dM vb ob.lb;have c1:=ng (neg:=b.neg) (m:=b.m) (e:=b.e) ob.lb (by omega) ⟨by omega,by omega⟩;have hr:bm b.neg (ab b.m) b.e=b:=Jx ob vb;have hk:cH (cM (zI a+zI b) (-16384))=(b,0):=by
   simp_all[cF,Int.zero_add,AL,DZ]
  rw[hr]at c1;rw[hk];simp only[ae,ah]at c1;simp only[lz,zf,rV,ae,ah,go_sem,e1,c1]
 have e1:((a.m.length:Int)=0)=False:=ff;obtain⟨a1,a2,a3,a4⟩:=dM va oa.lb;by_cases b0:b.m.length=0
 ·have e2:((b.m.length:Int)=0)=True:=tt;have c1:=ng (neg:=a.neg) (m:=a.m) (e:=a.e) oa.lb (by omega) ⟨by omega,by omega⟩;have hr:bm a.neg (ab a.m) a.e=a:=Jx oa va;have hk:cH (cM (zI a+zI b) (-16384))=(a,0):=by
   simp_all[cF,Int.add_zero,AL,DZ]
  rw[hr]at c1;rw[hk];simp only[ae,ah]at c1;simp only[lz,zf,rV,ae,ah,go_sem,e1,e2,c1]
 have e2:((b.m.length:Int)=0)=False:=ff;obtain⟨b1,b2,b3,b4⟩:=dM vb ob.lb;have ta:=BD oa;have tb:=BD ob;have q1:=iv va a0;have q2:=iv vb b0;have p1:=eL (dh va a0);have p2:=eL (dh vb b0);simp only[ae,ah]at ta tb;have g1:=fun h2 h3=>(VK oa ob va vb a0 b0 rfl h2 h3).1;have g2:=fun h2 h3=>(VK ob oa vb va b0 a0 rfl h2 h3).2;obtain⟨e,he⟩:∃e,(if b.e<a.e then b.e else a.e)=e:=⟨_,rfl⟩;have he2:(if a.e<b.e then a.e else b.e)=e:=by
  omega
 rw[he]at g1;rw[he2]at g2;have he1:-16384<=e/\e<=a.e/\e<=b.e:=by
  omega
 obtain⟨M,hM⟩:∃M,(if aL a<aL b then aL b else aL a)=M:=⟨_,rfl⟩;have w1:IntKind.i64.wrap (M-e)=M-e:=i64_in _ ⟨by omega,by omega⟩;have w2:IntKind.i64.wrap (aL a-aL b)=aL a-aL b:=i64_in _ ⟨by omega,by omega⟩;have w3:IntKind.i64.wrap (aL b-aL a)=aL b-aL a:=i64_in _ ⟨by omega,by omega⟩;by_cases h1:4097<M-e
 ·have f1:(4097<M-e)=True:=tt h1;by_cases h2:1<aL a-aL b
  ·have f2:(1<aL a-aL b)=True:=tt h2;rw[g1 (by omega) h2];simp only[lz,tl,rV,aI,ae,ah,go_sem,e1,e2,he,ta,tb,hM,w1,w2,f1,f2]
  ·have f2:(1<aL a-aL b)=False:=ff h2;by_cases h3:1<aL b-aL a
   ·have f3:(1<aL b-aL a)=True:=tt h3;rw[g2 (by omega) h3];simp only[lz,tl,rV,aI,ae,ah,go_sem,e1,e2,he,ta,tb,hM,w1,w2,w3,f1,f2,f3]
   omega
 ·have f1:(4097<M-e)=False:=ff h1;simp only[lz,tl,rV,ae,ah,go_sem,e1,e2,he,ta,tb,hM,w1,f1];exact adO oa ob va vb a0 b0 he1 (by omega) (by omega) _ rfl rfl rfl rfl
theorem aiZ{a b:Rd}(oa:Ok0 a)(ob:Ok0 b):R F.dyadic_Add [ae a,ae b] []=some (rV (iF a b),[]):=by
 refine ax US rfl ?_;have v1:=ef oa;have v2:=ef ob;simp only[ae,ah]at v1 v2;unfold iF;cases va:vd a with
 |false=>
  rw[va]at v1;simp only[sy,yT,rV,aI,ae,ah,go_sem,v1]
 |true=>
  rw[va]at v1;cases vb:vd b with
  |false=>
   rw[vb]at v2;simp only[sy,yT,rV,aI,ae,ah,go_sem,v1,v2]
  |true=>
   rw[vb]at v2;have hs:=YE oa ob va vb;simp only[rV,ae,ah]at hs;simp only[sy,yT,rV,ae,ah,go_sem,v1,v2,hs]
theorem RB:∀a:List Int,lD a a=0
 |[]=>rfl
 |x::a=>by
  unfold lD;rw[if_pos (by unfold cp;simp),RB a]
theorem YF:∀ {a b:List Int},a.length=b.length->lD a b=0->a=b
 |[],[],_,_=>rfl
 |x::a,y::b,h,h2=>by
  unfold lD at h2;rcases nG x y with⟨g,e⟩| ⟨g,e⟩| ⟨g,e⟩<;>rw[e]at h2
  ·omega
  ·rw[g,YF (by simpa using h) h2]
  omega
 |[],_::_,h,_=>by grind
 |_::_,[],h,_=>by grind
theorem RE:∀ {a b:List Int},a.length=b.length->lD b a=-lD a b
 |[],[],_=>rfl
 |x::a,y::b,h=>by
  unfold lD;rcases nG x y with⟨g,e⟩| ⟨g,e⟩| ⟨g,e⟩<;>rcases nG y x with⟨g',e'⟩| ⟨g',e'⟩| ⟨g',e'⟩<;>rw[e,e']<;>first|omega| (simp;done)|skip
  exact RE (by simpa using h)
 |[],_::_,h=>by grind
 |_::_,[],h=>by grind
theorem YG:∀ {a b c:List Int},a.length=b.length->b.length=c.length->(lD a b<=0->lD b c<0->lD a c<0)/\(lD a b<0->lD b c<=0->lD a c<0)
 |[],[],[],_,_=>⟨fun _ h=>by omega,fun h _=>by omega⟩
 |x::a,y::b,z::c,h,h'=>by
  have ih:=YG (a:=a) (b:=b) (c:=c) (by grind) (by grind);unfold lD;rcases nG x y with⟨g,e⟩| ⟨g,e⟩| ⟨g,e⟩<;>rcases nG y z with⟨g',e'⟩| ⟨g',e'⟩| ⟨g',e'⟩<;>rcases nG x z with⟨g2,e2⟩| ⟨g2,e2⟩| ⟨g2,e2⟩<;>rw[e,e',e2]<;>first|omega|skip
  all_goals first|exact ih|omega
 |[],[],_::_,_,h=>by grind
 |[],_::_,_,h,_=>by grind
 |_::_,[],_,h,_=>by grind
 |_::_,_::_,[],_,h=>by grind
theorem RF(a:List Int):bO a a=0:=by
 simp_all[bO,if_pos,cp,RB]
theorem YH{a b:List Int}(h:a.length=b.length)(h2:bO a b=0):a=b:=by
 unfold bO at h2;rcases nG (bh a) (bh b)with⟨g,e⟩| ⟨g,e⟩| ⟨g,e⟩<;>rw[e]at h2
 ·omega
 ·grind[YF]
 omega
theorem Jy{a b:List Int}(h:a.length=b.length):bO b a=-bO a b:=by
 unfold bO;rcases nG (bh a) (bh b)with⟨g,e⟩| ⟨g,e⟩| ⟨g,e⟩<;>rcases nG (bh b) (bh a)with⟨g',e'⟩| ⟨g',e'⟩| ⟨g',e'⟩<;>rw[e,e']<;>first|omega| (simp;done)|skip
 grind[RE]
theorem Qa{a b c:List Int}(h:a.length=b.length)(h':b.length=c.length):(bO a b<=0->bO b c<0->bO a c<0)/\(bO a b<0->bO b c<=0->bO a c<0):=by
 have ih:=YG (a:=c) (b:=b) (c:=a) h'.symm h.symm;unfold bO;rcases nG (bh a) (bh b)with⟨g,e⟩| ⟨g,e⟩| ⟨g,e⟩<;>rcases nG (bh b) (bh c)with⟨g',e'⟩| ⟨g',e'⟩| ⟨g',e'⟩<;>rcases nG (bh a) (bh c)with⟨g2,e2⟩| ⟨g2,e2⟩| ⟨g2,e2⟩<;>rw[e,e',e2]<;>first|omega|skip
 all_goals first|exact⟨fun x y=>ih.2 y x,fun x y=>ih.1 y x⟩|omega
structure VT (v:Int) (t:Rt):Prop where
 c:Ok0 t.c
 len:(t.exps.length:Int)=v
 v8:v<=8
 vc:vd t.c=true
 nz:t.c.m.length≠0
 b:∀e∈t.exps,0<=e/\e<=32
 d:bh t.exps<=32
theorem VT.sm{v:Int}{t:Rt}(h:VT v t):sm t.exps:=⟨by have:=h.len;have:=h.v8;omega,h.b⟩
theorem VT.ok{v:Int}{t:Rt}(h:VT v t):OkT t:=⟨h.c,by have:=h.len;have:=h.v8;omega⟩
theorem VT.l2{v:Int}{t q:Rt}(h:VT v t)(h2:VT v q):t.exps.length=q.exps.length:=by have:=h.len;have:=h2.len;omega
structure Cl (v:Int) (l:List Rt):Prop where
 t:∀t∈l,VT v t
 s:l.Pairwise fun a b=>bO a.exps b.exps<0
theorem Cl.nil(v:Int):Cl v []:=⟨(fun _ h=>nomatch h),List.Pairwise.nil⟩
theorem Cl.cons{v:Int}{q:Rt}{l:List Rt}(h:Cl v (q::l)):VT v q/\(∀t∈l,bO q.exps t.exps<0)/\Cl v l:=
 ⟨h.t q (by simp),(List.pairwise_cons.1 h.s).1,fun t ht=>h.t t (by grind),(List.pairwise_cons.1 h.s).2⟩
theorem Cl.mk'{v:Int}{q:Rt}{l:List Rt}(h1:VT v q)(h2:∀t∈l,bO q.exps t.exps<0)(h3:Cl v l):Cl v (q::l):=
 ⟨fun t ht=>(List.mem_cons.1 ht).elim (fun e=>e▸h1) (h3.t t),List.pairwise_cons.2 ⟨h2,h3.s⟩⟩
theorem adP{v:Int}(hv:v<=8):∀ (l:List Rt) (pr:Option Rt),(∀t∈l,OkT t)->yg v pr l=true->Cl v l/\∀q,pr=some q->(q.exps.length:Int)=v->∀t∈l,bO q.exps t.exps<0
 |[],pr,_,_=>⟨Cl.nil v,fun _ _ _ t ht=>by grind⟩
 |t::l,pr,ok,h=>by
  unfold yg at h;simp only[awS]at h;obtain⟨h1,h2,h3⟩:=h;obtain⟨g1,g2⟩:=adP hv l (some t) (fun x hx=>ok x (by grind)) h3;obtain⟨k1,k2,k3,k4,k5⟩:=zH h1;have vt:VT v t:=⟨(ok t (by simp)).c,k1,hv,k2,k3,vR k4,k5⟩;have gt:=g2 t rfl k1;refine⟨Cl.mk' vt gt g1,fun q hq hl x hx=>?_⟩;subst hq;have h4:=of_decide_eq_true h2;rcases List.mem_cons.1 hx with rfl|hx
  ·omega
  ·exact(Qa (by omega) (vt.l2 (g1.t x hx))).1 (by omega) (gt x hx)
theorem il{a:Rp}(oa:OkP a)(h:vp a=true):Cl a.vars a.terms/\0<=a.vars/\a.vars<=8/\a.terms.length<=500:=by
 unfold vp at h;simp only[awS,decide_eq_true_eq]at h;exact⟨(adP h.2.1 _ none oa.t h.2.2.2).1,h.1,h.2.1,h.2.2.1⟩
theorem adQ{v:Int}:∀ (l:List Rt) (pr:Option Rt),Cl v l->(∀q,pr=some q->∀t∈l,bO q.exps t.exps<0)->yg v pr l=true
 |[],pr,_,_=>by grind[yg]
 |t::l,pr,c,h=>by
  obtain⟨c1,c2,c3⟩:=c.cons;unfold yg;simp only[awS];refine⟨?_,?_,adQ l (some t) c3 fun q hq=>by grind⟩
  ·unfold Gp;simp only[awS,decide_eq_true_eq];refine⟨c1.len,c1.vc,c1.nz,?_,c1.d⟩;rw[ax3,List.any_eq_false];intro e he;have:=c1.b e he;grind[xM]
  ·unfold VA;grind
theorem CI{v:Int}{l:List Rt}(h:Cl v l)(h0:0<=v)(h8:v<=8)(hl:l.length<=500):vp ⟨v,l⟩=true:=by
 simp_all[vp,awS,decide_eq_true_eq,adQ]
theorem jR{v:Int}{l:List Rt}(h:Cl v l):OkP ⟨v,l⟩:=⟨fun t ht=>(h.t t ht).ok⟩
def cx:List Rt->List Int->Nat
 |[],_=>0
 |q::l,x=>if bO q.exps x<0 then cx l x+1 else 0
def rN:List Rt->Rt->Option (List Rt)
 |[],t=>some [t]
 |q::l,t=>if bO q.exps t.exps<0 then(rN l t).map (q::·)else if bO q.exps t.exps=0 then(if(iF q.c t.c).2=0 then some (if(iF q.c t.c).1.m.length=0 then l else⟨q.exps,(iF q.c t.c).1⟩::l)else none)else some (t::q::l)
theorem Qb:∀ (l:List Rt) (x:List Int),cx l x<=l.length
 |[],x=>awQ _
 |q::l,x=>by
  unfold cx;split
  all_goals simp_all[Nat.succ_le_succ,Qb,axz]
theorem YI:∀ {l:List Rt} {x:List Int} {i:Nat} {q:Rt},i<cx l x->l[i]?=some q->bO q.exps x<0
 |[],x,i,q,h,_=>by grind
 |p::l,x,i,q,h,hq=>by
  unfold cx at h;split at h
  ·cases i with
   |zero=>grind
   |succ i=>exact YI (l:=l) (i:=i) (by omega) (by grind)
  omega
theorem Qc:∀ {l:List Rt} {x:List Int} {q:Rt},l[cx l x]?=some q->0<=bO q.exps x
 |[],x,q,h=>by grind
 |p::l,x,q,h=>by
  unfold cx at h;split at h
  ·exact Qc (l:=l) (by grind)
  grind
theorem ai0{v:Int}{l:List Rt}{x:List Int}(c:Cl v l)(hx:(x.length:Int)=v){i:Nat}{q:Rt}(hi:cx l x<i)(h:l[i]?=some q):0<bO q.exps x:=by
 have hlt:=(List.getElem?_eq_some_iff.1 h).1;have h1:l[cx l x]?=some l[cx l x]:=List.getElem?_eq_getElem (by omega);have h2:=Qc h1;have h3:=(List.getElem?_eq_some_iff.1 h).2;have h4:bO (l[cx l x]).exps q.exps<0:=by
  rw[←h3];exact List.pairwise_iff_getElem.1 c.s _ _ (by omega) hlt hi
 have v1:=c.t _ (axr (by omega:cx l x<l.length));have v2:=c.t q (List.mem_of_getElem? h);generalize l[cx l x]=p at*
 have l1:x.length=p.exps.length:=by have:=v1.len;omega
 have h5:=(Qa l1 (v1.l2 v2)).1 (by grind[Jy]) h4;rw[Jy (by have:=v2.len;omega:x.length=q.exps.length)];omega
theorem YJ:∀ (l:List Rt) (t:Rt),rN l t=match l[cx l t.exps]? with
  |none=>some (l.take (cx l t.exps)++t::l.drop (cx l t.exps))
  |some q=>if bO q.exps t.exps=0 then(if(iF q.c t.c).2=0 then some (if(iF q.c t.c).1.m.length=0 then l.take (cx l t.exps)++l.drop (cx l t.exps+1)else l.set (cx l t.exps) ⟨q.exps,(iF q.c t.c).1⟩)else none)else some (l.take (cx l t.exps)++t::l.drop (cx l t.exps))
 |[],t=>rfl
 |q::l,t=>by
  unfold rN cx;by_cases h:bO q.exps t.exps<0
  ·simp only[if_pos h,List.getElem?_cons_succ];rw[YJ l t];cases l[cx l t.exps]? with
   |none=>rfl
   |some p=>
    simp only[];split
    ·split
     ·split<;>rfl
     ·rfl
    ·rfl
  grind
theorem Kw{v:Int}:∀ {l l':List Rt} {t:Rt},Cl v l->VT v t->rN l t=some l'->Cl v l'/\∀q:List Int,(q.length:Int)=v->(∀x∈l,bO q x.exps<0)->bO q t.exps<0->∀x∈l',bO q x.exps<0
 |[],l',t,c,vt,h=>by
  cases h;grind[Cl.mk']
 |p::l,l',t,c,vt,h=>by
  obtain⟨c1,c2,c3⟩:=c.cons;unfold rN at h;split at h
  ·rename_i h1;rw[awR]at h;obtain⟨l2,h2,rfl⟩:=h;obtain⟨g1,g2⟩:=Kw c3 vt h2;refine⟨Cl.mk' c1 (g2 p.exps c1.len c2 h1) g1,fun q hq k1 k2 x hx=>?_⟩;grind
  ·split at h
   ·split at h
    ·cases h;split
     ·grind
     ·rename_i h4;obtain⟨a1,a2⟩:=aiT p.c t.c;refine⟨Cl.mk' ⟨a2,c1.len,c1.v8,a1,h4,c1.b,c1.d⟩ c2 c3,fun q hq k1 k2 x hx=>?_⟩;grind
    grind
   ·cases h;have h3:bO t.exps p.exps<0:=by
     rw[Jy (c1.l2 vt)];omega
    refine⟨Cl.mk' vt (fun x hx=>?_) c,fun q hq k1 k2 x hx=>?_⟩
    ·rcases List.mem_cons.1 hx with rfl|hx
     ·omega
     ·exact(Qa (vt.l2 c1) (c1.l2 (c3.t x hx))).1 (by omega) (c2 x hx)
    grind
theorem MT:∀ {l l':List Rt} {t:Rt},rN l t=some l'->l'.length<=l.length+1
 |[],l',t,h=>by cases h;simp
 |p::l,l',t,h=>by
  unfold rN at h;split at h
  ·rw[awR]at h;obtain⟨l2,h2,rfl⟩:=h;simpa using MT h2
  grind
theorem MU:∀ {l:List Rt} {t:Rt},(∀q∈l,bO q.exps t.exps<0)->rN l t=some (l++[t])
 |[],t,_=>rfl
 |p::l,t,h=>by
  unfold rN;rw[if_pos (h p (by simp)),MU fun q hq=>h q (by simp[hq])];rfl
def gM:List Rt->List Rt->Option (List Rt)
 |l,[]=>some l
 |l,t::ts=>(rN l t).bind fun l'=>gM l' ts
theorem VL:∀ (ts us:List Rt) (l:List Rt),gM l (ts++us)=(gM l ts).bind fun l'=>gM l' us
 |[],us,l=>rfl
 |t::ts,us,l=>by
  show(rN l t).bind _=((rN l t).bind _).bind _;cases rN l t with
  |none=>rfl
  |some l'=>exact VL ts us l'
theorem Gs{v:Int}:∀ {ts l l':List Rt},Cl v l->(∀t∈ts,VT v t)->gM l ts=some l'->Cl v l'/\l'.length<=l.length+ts.length
 |[],l,l',c,_,h=>by cases h;grind
 |t::ts,l,l',c,vt,h=>by
  unfold gM at h;rw[awN]at h;obtain⟨l2,h2,h3⟩:=h;obtain⟨g1,g2⟩:=Gs (Kw c (vt t (by simp)) h2).1 (fun x hx=>vt x (by grind)) h3;have:=MT h2;grind
section
variable {call:iG} {md:Mode} {s:ak} {h:ac}
@[go_sem] theorem auu(d k x y rest):aE call md (⟨some d,none,.cpy k x y⟩::rest) s h=bp (du md.nm s (some d) (O8 h k (ev s x) (ev s y))) (aE call md rest):=θ _
@[go_sem] theorem ar7(d k x lo hi rest):aE call md (⟨some d,none,.slcM k x lo hi⟩::rest) s h=bp (du md.nm s (some d) (J6 h k (ev s x) (evo s lo) (evo s hi))) (aE call md rest):=θ _
@[go_sem] theorem auv(d k z x rest):aE call md (⟨d,none,.clr k z x⟩::rest) s h=bp (du md.nm s d (O9 h k z (ev s x))) (aE call md rest):=θ _
@[go_sem] theorem ar8(d k b z x n rest):aE call md (⟨some d,none,.appz k b z x n⟩::rest) s h=bp (du md.nm s (some d) (En h d k b z (ev s x) (ev s n))) (aE call md rest):=θ _
@[go_sem] theorem ar9(d x rest):aE call md (⟨some d,none,.take x⟩::rest) s h=bp (du md.nm s (some d) (Ng h d (ev s x))) (aE call md rest):=θ _
@[go_sem] theorem aqf(d f zas rest):aE call md (⟨some d,none,.callC f zas⟩::rest) s h=bp (du md.nm s (some d) ((bE call md h d (zas.map (ev s)) (ev s f)).bind (yw d))) (aE call md rest):=θ _
@[go_sem] theorem aoe(d k z n ps rest):aE call md (⟨some d,none,.buildC k z n ps⟩::rest) s h=bp (du md.nm s (some d) (((eH k h (awO n z) (ps.map fun p=>(p.1,ev s p.2))).bind fun q=>cX q.2.1 d k q.1 n q.2.2).bind Ep)) (aE call md rest):=θ _
@[go_sem] theorem am9(d k z n ps):step call md d (.buildC k z n ps) s h=((eH k h (awO n z) (ps.map fun p=>(p.1,ev s p.2))).bind fun q=>cX q.2.1 d k q.1 n q.2.2).bind Ep:=θ _
@[go_sem] theorem ana(ps acc d k z n qs rest):cV call md ps acc (⟨some d,none,.buildC k z n qs⟩::rest) s h=iZ call md ps acc rest s (some d) (fun _=>if(qs.all fun p=>dat (ev s p.2))=true then some ([],[dx d])else none) (((eH k h (awO n z) (qs.map fun p=>(p.1,ev s p.2))).bind fun q=>cX q.2.1 d k q.1 n q.2.2).bind Ep):=eR _ _ _ _ rfl
@[go_sem] theorem aqg(d k z n qs h'):gj d (.buildC k z n qs) s h h'=if(qs.all fun p=>dat (ev s p.2))=true then some ([],[dx d])else none:=θ _
@[go_sem] theorem aqh(id k lo n h ks):Ep (.rsl id none k lo n,h,ks)=(mJ h id k lo n (h id)).map (fun q=>(q.1,q.2.1,ks++q.2.2)):=θ _
@[go_sem] theorem asa(ps acc d k x y rest):cV call md ps acc (⟨some d,none,.cpy k x y⟩::rest) s h=iZ call md ps acc rest s (some d) (fun _=>none) (O8 h k (ev s x) (ev s y)):=eR _ _ _ _ rfl
@[go_sem] theorem asb(ps acc d k b x y rest):cV call md ps acc (⟨some d,none,.app k b x y⟩::rest) s h=iZ call md ps acc rest s (some d) (fun _=>none) (LV h d k b (ev s x) (ev s y)):=eR _ _ _ _ rfl
@[go_sem] theorem aof(ps acc d f zas rest):cV call md ps acc (⟨some d,none,.callC f zas⟩::rest) s h=iZ call md ps acc rest s (some d) (fun _=>Iv d h (oA (zas.map (ev s)) (ev s f))) ((bE call md h d (zas.map (ev s)) (ev s f)).bind (yw d)):=eR _ _ _ _ rfl
@[go_sem] theorem aqi(d h l):Iv d h l=if l.all dat=true then some ([],[2000+8*d])else none:=θ _
@[go_sem] theorem auw(d k r h ks):yw d (.sl k r,h,ks)=some (.sl k r,h,ks):=θ _
@[go_sem] theorem asc(d h ks):yw d (.emp,h,ks)=some (.emp,h,ks):=θ _
@[go_sem] theorem asd(d id k lo n h ks):yw d (.rsl id none k lo n,h,ks)=if id=2000+8*d then(mJ h id k lo n (h id)).map (fun q=>(q.1,q.2.1,ks++q.2.2))else none:=θ _
@[go_sem] theorem aux(h k id k' lo n y):O8 h k (.rsl id none k' lo n) y=(TC y).bind fun l=>(uP h k (TB n y)).bind fun ys=>TD h id k k' lo n l ys (h id):=θ _
@[go_sem] theorem auy(k r):TC (.sl k r)=some r.length:=θ _
@[go_sem] theorem ase(id sub k lo n):TC (.rsl id sub k lo n)=some n:=θ _
@[go_sem] theorem auz(m k r):TB m (.sl k r)=.sl k (r.take m):=θ _
@[go_sem] theorem asf(m id sub k lo n):TB m (.rsl id sub k lo n)=.rsl id sub k lo (min m n):=θ _
@[go_sem] theorem auA(h id k lo n l ys r):TD h id k k lo n l ys (.ar k r)=if lo<=r.length/\ys.length=min l n then some (.v (.int .i64 ys.length),upd h id (.ar k (r.take lo++ys++r.drop (lo+ys.length))),[])else none:=by simp[TD]
@[go_sem] theorem asg(h k id l0 n lo hi):J6 h k (.rsl id none k l0 n) lo hi=Nd h k id l0 lo hi (h id):=by simp[J6]
@[go_sem] theorem ash(h k id l0 lo hi r):Nd h k id l0 lo hi (.ar k r)=if hi.isSome=true/\l0<=r.length then(jT (r.length-l0) lo hi none).map fun p=>(.rsl id none k (l0+p.1) (p.2-p.1),h,[])else none:=by simp[Nd]
@[go_sem] theorem auB(h k z id lo n):O9 h k z (.rsl id none k lo n)=TE h k id lo n z (h id):=by simp[O9]
@[go_sem] theorem auC(h k id lo n z r):TE h k id lo n z (.ar k r)=if lo+n<=r.length then some (.tup [],upd h id (.ar k (r.take lo++awO n z++r.drop (lo+n))),[])else none:=by simp[TE]
@[go_sem] theorem asi(h d k b z id i c m):En h d k b z (.rsc id k 0 i c) (.v (.int .i64 m))=if 0<m/\c<i+m.toNat then Nf h d k b id i m.toNat z (h id)else none:=by simp[En]
@[go_sem] theorem asj(h d k b id i m z r):Nf h d k b id i m z (.ar k r)=if i<=r.length/\(i+m)*b<=140737488355328 then cX h d k (r.take i++awO m z) (i+m) []else none:=by simp[Nf]
@[go_sem] theorem auD(id k lo n c):pU false (.rsc id k lo n c)=some (I n):=θ _
@[go_sem] theorem auE(id k lo n c):O4 (.rsc id k lo n c)=some (I c):=θ _
@[go_sem] theorem auF(k id l0 n c lo hi mx):dZ k (.rsc id k l0 n c) lo hi mx=Tw k id l0 n c lo hi mx:=by simp[dZ]
@[go_sem] theorem auG(k id l0 n c x):Tw k id l0 n c none (some x) none=(jL n c (some x)).map fun r=>.rsc id k l0 r c:=θ _
@[go_sem] theorem auH(k id l0 n c x hi):Tw k id l0 n c (some x) hi none=(jT n (some x) hi none).map fun p=>.rsl id none k (l0+p.1) (p.2-p.1):=θ _
@[go_sem] theorem auI(ks id k lo n c):tq ks (.rsc id k lo n c)=if iV ks id none=true then .any else .rsc id k lo n c:=θ _
@[go_sem] theorem ask(h d id k i j):Ng h d (.ref id none k i j)=Tc h d id (i*k+j) (h id):=θ _
@[go_sem] theorem asl(h d id p cs):Tc h d id p (.bx cs)=J7 h d id p cs cs[p]?:=θ _
@[go_sem] theorem aqj(h d id p cs k r):J7 h d id p cs (some (.osl k r))=cX (upd h id (.bx (cs.set p .any))) d k r r.length [(id,true)]:=θ _
@[go_sem] theorem aqk(h d id p cs):J7 h d id p cs (some .emp)=some (.emp,h,[]):=θ _
@[go_sem] theorem asm(nm)(s h):Aa nm [] s h=some ⟨s,h⟩:=θ _
@[go_sem] theorem aql(nm)(i l s h):Aa nm (i::l) s h=if 200000<=i then(Pc (i-200000) s h (s (i-200000))).bind (fun r=>if qZ nm r.2.2 then Aa nm l r.1 r.2.1 else none)else if 100000<=i then Aa nm l s (GH h (s (i-100000)))else(Pb i s h (s i)).bind fun r=>if qZ nm r.2.2 then Aa nm l r.1 r.2.1 else none:=θ _
@[go_sem] theorem aog(ks):qZ false ks=true:=θ _
@[go_sem] theorem auJ(i s h id k lo n):Pc i s h (.rsl id none k lo n)=Iw i s h id k lo n (h id):=θ _
@[go_sem] theorem auK(i s h id k lo n c):Pc i s h (.rsc id k lo n c)=Iw i s h id k lo n (h id):=θ _
@[go_sem] theorem auL(i s h id k lo n r):Iw i s h id k lo n (.ar k r)=if lo=0/\bg i=false/\bS (h i)=true then some (upd (jU [(id,false)] s) i (.rsl i none k 0 n),upd (upd h id .dead) i (.ar k r),[(id,false)])else none:=by simp[Iw]
@[go_sem] theorem asn(h id k lo n):GH h (.rsl id none k lo n)=(match h id with| .ar k rows=>upd h id (.ar k (rows.take (lo+n)))|_=>h):=θ _
@[go_sem] theorem auM(nm)(s h):tr nm 0 s h=some ⟨s,h⟩:=θ _
@[go_sem] theorem auN(nm)(i s h):tr nm (i+1) s h=(QJ i s h (s i)).bind fun r=>if qZ nm r.2.2 then some ⟨r.1,r.2.1⟩else none:=θ _
@[go_sem] theorem auO(i s h):QJ i s h .emp=some (s,h,[]):=θ _
@[go_sem] theorem auP(i s h id p k lo n):QJ i s h (.rsl id (some p) k lo n)=if bg i=false then XO i s h id p k lo n (h id)else none:=θ _
@[go_sem] theorem awb(i s h id p k lo n cs):XO i s h id p k lo n (.bx cs)=Nl i s h id p k lo n cs cs[p]?:=θ _
@[go_sem] theorem auQ(i s h id p k lo n cs r):Nl i s h id p k lo n cs (some (.osl k r))=if lo=0/\n=r.length/\bS (h i)=true then some (upd (jU [(id,true)] s) i (.rsl i none k 0 n),upd (upd h id (.bx (cs.set p .any))) i (.ar k r),[(id,true)])else none:=by simp[Nl]
@[go_sem] theorem auR(m g ps l):afE call md m g ps l s h=bp (cV call md ps [] (l.take m) s h) fun s h=>bp (tr md.nm g s h) (aE call md (l.drop m)):=θ _
end
theorem YK{t:Rt}{x:List Int}(ht:sm t.exps)(hx:sm x)(hl:t.exps.length=x.length):R F.poly_collector_add_1 [.agg (bD t),.sl 1 (aS x)] []=some (I (bO t.exps x),[]):=by
 refine ax FG rfl ?_;have ho:=Vz ht hx hl;simp only[nM,wL,bD,go_sem,ho]
theorem ai1{v:Int}{l:List Rt}{x:List Int}(c:Cl v l)(hx:sm x)(hl:(x.length:Int)=v)(h2:l.length<=1000000):∀ (k i j:Nat),j-i<=k->i<=cx l x->cx l x<=j->j<=l.length->∀ (s:ak) (h:ac),s 0=.sl 4 (aH l)->s 1=.sl 1 (aS x)->s 2=.fn F.poly_collector_add_1 [] []->s 8=I l.length->s 9=I i->s 10=I j->
  aj 0 [0,1,2,8,9] (au (ai R (az false) bI) [0,1,2,8,9,10] [] s h)=some (.normal,⟨upd (upd (upd (upd (upd (fun _=>.any) 9 (I (cx l x))) 8 (I l.length)) 2 (.fn F.poly_collector_add_1 [] [])) 1 (.sl 1 (aS x))) 0 (.sl 4 (aH l)),fun _=>.dead⟩):=by
 intro k;induction k with
 |zero=>
  intro i j hk hi hj hn s h h0 h1 h2' h8 h9 h10;have e1:((i:Int)< (j:Int))=False:=ff;obtain rfl:i=cx l x:=by omega
  rw[ag];simp only[bI,go_sem,h0,h1,h2',h8,h9,h10,e1]
 |succ k ih=>
  intro i j hk hi hj hn s h h0 h1 h2' h8 h9 h10;by_cases hij:i<j
  ·have e1:((i:Int)< (j:Int))=True:=tt;have e2:IntKind.i64.wrap ((i:Int)+(j:Int))=((i+j:Nat):Int):=wi;have hlt:(i+j)/2<l.length:=by omega
   have g1:IntKind.u64.wrap (((i+j:Nat)):Int)=((i+j:Nat):Int):=dE rfl (by omega);have g2:((1:Int)<0)=False:=ff (by decide);have g3:Int.fdiv ((i+j:Nat):Int) (2^ (min (Int.toNat 1) 64))=(((i+j)/2:Nat):Int):=by
    grind
   have g4:IntKind.i64.wrap (((i+j)/2:Nat):Int)=(((i+j)/2:Nat):Int):=wi;have e3:aW (aH l) (((i+j)/2:Nat):Int)=some (.ipt (bD l[(i+j)/2])):=eZ rfl (List.getElem?_eq_getElem hlt);have q:=c.t _ (axr hlt);have hc:=YK q.sm hx (by have:=q.len;omega);have p1:bO (l[(i+j)/2]).exps x<0->(i+j)/2<cx l x:=fun ho=>by
    rcases Nat.lt_trichotomy ((i+j)/2) (cx l x)with h|h|h
    ·omega
    ·have:=Qc (l:=l) (x:=x) (q:=l[(i+j)/2]) (by grind);omega
    ·have:=ai0 c hl h (List.getElem?_eq_getElem hlt);omega
   have p2:¬bO (l[(i+j)/2]).exps x<0->cx l x<=(i+j)/2:=fun ho=>by
    grind[absurd,YI]
   have i1:=ih ((i+j)/2+1) j (by omega);have i2:=ih i ((i+j)/2) (by omega) hi;generalize l[(i+j)/2]=t at e3 q hc p1 p2;rw[ag];generalize au _ _ _=L at i1 i2⊢;simp only[bD]at hc e3;by_cases ho:bO t.exps x<0
   ·have e4:(bO t.exps x<0)=True:=tt ho;have e5:IntKind.i64.wrap ((((i+j)/2:Nat):Int)+1)=(((i+j)/2+1:Nat):Int):=wi;have:=p1 ho;simp only[bI,go_sem,h0,h1,h2',h8,h9,h10,e1,e2,g1,g2,g3,g4,e3,hc,e4,e5];exact i1 (by omega) hj hn _ _ rfl rfl rfl rfl rfl rfl
   ·have e4:(bO t.exps x<0)=False:=ff ho;have:=p2 ho;simp only[bI,go_sem,h0,h1,h2',h8,h9,h10,e1,e2,g1,g2,g3,g4,e3,hc,e4];exact i2 this (by omega) _ _ rfl rfl rfl rfl rfl rfl
  grind
def Jz(l:List Rt)(x:List Int):Bool:=match l[cx l x]? with
 |some q=>decide (bO q.exps x=0)
 |none=>false
theorem abD{v:Int}{l:List Rt}{x:List Int}(c:Cl v l)(hx:sm x)(hl:(x.length:Int)=v)(h2:l.length<=1000000):R F.slices_BinarySearchFunc_api_Term_api_Term_Sint_ [.sl 4 (aH l),.sl 1 (aS x),.fn F.poly_collector_add_1 [] []] []=some (.tup [I (cx l x),B (Jz l x)],[]):=by
 refine PR mI mH (ft false) rfl ?_;have h3:=ai1 c hx hl h2 l.length 0 l.length (by omega) (axz _) (Qb l x) (awQ _);simp only[dm,fP,go_sem];rw[h3 _ _ rfl rfl rfl rfl rfl rfl];unfold Jz;cases hq:l[cx l x]? with
 |none=>
  have:l.length<=cx l x:=List.getElem?_eq_none_iff.1 hq;have e1:((cx l x:Int)< (l.length:Int))=False:=ff;simp only[go_sem,e1]
 |some q=>
  have hlt:=(List.getElem?_eq_some_iff.1 hq).1;have e1:((cx l x:Int)< (l.length:Int))=True:=tt;have vq:=c.t q (List.mem_of_getElem? hq);have hc:=YK vq.sm hx (by have:=vq.len;omega);have e3:aW (aH l) (cx l x:Int)=some (.ipt (bD q)):=eZ rfl hq;simp only[bD]at hc e3;by_cases ho:bO q.exps x=0
  ·have e4:(bO q.exps x=0)=True:=tt ho;simp only[go_sem,e1,e3,hc,e4,decide_true]
  ·have e4:(bO q.exps x=0)=False:=ff ho;simp only[go_sem,e1,e3,hc,e4,decide_false]
theorem RG{d:Rd}(hn:d.m.length≠0)(h1:d.m.length<=100000):R F.poly_copied [ae d] []=some (ae d,[]):=by
 refine ax SR rfl ?_;have hc:=Ho (m:=d.m) (fun h=>hn (by grind)) h1;simp only[Ao,H3,ae,ah,go_sem,hc]
theorem YL{h:ac}{d id p n:Nat}{cs:List AV}{rows:List (List AV)}{x:AV}(hh:h id=.bx cs)(hp:cs[p]?=some (.osl 4 rows))(hn:n=rows.length)(hx:∃r,x=.sl 1 r):
  bE R (az false) h d [.rsl id (some p) 4 0 n,x,.fn F.poly_collector_add_1 [] []] (.fn F.slices_BinarySearchFunc_api_Term_api_Term_Sint_ [] [])=(R F.slices_BinarySearchFunc_api_Term_api_Term_Sint_ (bo [[.o 5 [.o 2 [],.o 0 [],.o 2 [],.o 0 []]],[.o 2 []],[]] [.sl 4 rows,x,.fn F.poly_collector_add_1 [] []]) []).bind (TF h):=by
 obtain⟨r,rfl⟩:=hx;unfold bE
 simp_all[if_pos,jX,fQ,Nh,Ni,Pa,ZL,yu,jV,xp,iH,axc,axe,fI]
theorem VM(o:Ob):ap [o]=upd (fun _=>.dead) 1000 o:=by
 unfold ap upd;grind
theorem vT{f:FuncId}{fd:FD}{args:List AV}{o:Ob}{r:AV×List Ob}(hE:cJ.E f=none)(hC:cJ.C f=some fd)(hk:cJ.md.keep f=false)(h1:args.length=fd.np)
  (hz:gZ false fd.rs fd.res 1 (ai R (az false) fd.body (tW args) (upd (fun _=>.dead) 1000 o))=some r):R f args [o]=some r:=by
 grind[NZ,VM]
theorem Tn{f:FuncId}{g:List AV->List Ob->Option (AV×List Ob)}{args:List AV}{hs:List Ob}(hE:cJ.E f=some g):R f args hs=g args hs:=L5 hE
theorem RH:R F.slices_Clone_int_int_ [.sl 1 []] []=some (.sl 1 [],[]):=by
 rw[Tn (g:=clF) κ];rfl
theorem RI{x:Int}{l:List Int}(h:l.length<=1000000):R F.slices_Clone_int_int_ [.sl 1 (aS (x::l))] []=some (.osl 1 (aS (x::l)),[]):=by
 rw[Tn (g:=clF) κ];show(if(((aS l).length+1)*8<=140737488355328)then _ else _)=_;rw[if_pos (by grind[CT])];rfl
def nj(c:AV)(l:List Rt):Prop:=c=.osl 4 (aH l)\/(c=.emp/\l=[])
def t3(v:Int)(c:AV)(e:Int):Ob:=.bx [I v,c,I e]
theorem Gt{h:ac}{v e:Int}{c:AV}{l:List Rt}(hc:nj c l)(hh:h 1000=t3 v c e):wd [] 1 h []=some (.tup [],[t3 v c e]):=by
 have hp:cU 1=[1000]:=rfl;have h2:aC [1000] (t3 v c e)=true:=by
  rcases hc with rfl| ⟨rfl,_⟩<;>rfl
 grind[wd,kD,uQ,wX,bo]
theorem VN{v e:Int}{c x:AV}{d:Rd}{l:List Rt}(hc:nj c l)(he:e≠0):R F.poly_collector_add [.ref 1000 none 0 0 0,x,ae d] [t3 v c e]=some (.tup [],[t3 v c e]):=by
 refine vT aD6.2.1 aD6.2.2 (aD6.1.2.2.2 false) rfl ?_;have e1:(e=0)=False:=ff he;simp only[fO,i8,t3,ae,ah,go_sem,e1];exact Gt hc rfl
theorem Kx(h:ac)(i:Int)(b:Bool):TF h (.tup [I i,B b],[])=some (.tup [I i,B b],h,[]):=rfl
theorem CJ{h:ac}{id p id2 k n:Nat}{rows:List (List AV)}{cs:List AV}(h1:h id2=.ar k rows)(hn:n=rows.length)(h2:h id=.bx cs)(hne:id≠id2)(hp:p<cs.length):
  rS h id p 1 [.rsl id2 none k 0 n]=some (upd (upd h id2 .dead) id (.bx (cs.set p (.osl k rows))),(id2,false)::(if cs[p]?.any bq then [(id,true)]else [])):=by
 simp_all[upd,if_neg,rS,HP,QI,LS,Cp]
theorem alr{l:List Rt}{t:Rt}{n i:Nat}(hn:n=l.length)(hi:i<=n)(h2:n<=1000000):R F.slices_Insert_api_Term_api_Term_ [.rsl 1000 none 4 0 n,I i,.sl 4 [bD t]] [.ar 4 (aH l)]=some (.osl 4 (aH (l.take i++t::l.drop i)),[.dead]):=by
 rw[Tn (g:=UA 4 64) κ];show(if(4:Nat)=4/\(4:Nat)=4/\(4:Nat)=4/\n=(aH l).length/\(0:Int)<=(i:Int)/\(i:Int)<=(n:Int)/\(n+1)*64<=140737488355328 then some (AV.osl 4 ((aH l).take (i:Int).toNat++bD t::(aH l).drop (i:Int).toNat),[Ob.dead])else none)=_;rw[if_pos ⟨rfl,rfl,rfl,by rw[sW,hn],by omega,by omega,by omega⟩,awY];simp[aH,List.map_take,List.map_drop]
theorem ai2{t:Rt}:R F.slices_Insert_api_Term_api_Term_ [.emp,I 0,.sl 4 [bD t]] []=some (.osl 4 (aH [t]),[]):=by
 rw[Tn (g:=UA 4 64) κ];rfl
theorem adR(t:Rt):nrmV [.o 5 [.o 2 [],.o 0 [],.o 2 [],.o 0 []]] (.sl 4 [bD t])=.sl 4 [bD t]:=by
 have:=Kp [t];simp only[aH,axp,axv]at this;simp only[nrmV,List.headD_cons,nrmL,axp,axv,this]
theorem agn{l:List Rt}{t:Rt}{h:ac}{d a b n i:Nat}(ha:h a=.ar 4 (aH l))(hb:h b=.ar 4 [bD t])(hab:a≠b)(_hda:2000+8*d≠a)(hdb:2000+8*d≠b)(hd:h (2000+8*d)=.dead)(hn:n=l.length)(hi:i<=n)(h2:n<=1000000):
  bE R (az false) h d [.rsl a none 4 0 n,.v (.int .i64 i),.rsl b none 4 0 1] (.fn F.slices_Insert_api_Term_api_Term_ [] [])=
   some (.rsl (2000+8*d) none 4 0 (l.length+1),upd (upd (upd h b (.fz 4 [bD t])) a .dead) (2000+8*d) (.ar 4 (aH (l.take i++t::l.drop i))),[(a,true),(a,false)]):=by
 have hm:=lQ false;have hs:=kY false;have hk:=kq false;have hf:=alr (t:=t) hn hi h2;have hb':jX (az false) [.rsl a none 4 0 n,.v (.int .i64 i),.rsl b none 4 0 1] (.fn F.slices_Insert_api_Term_api_Term_ [] [])=false:=by
  grind[jX]
 have h1:bQ h [2,0,0] [.rsl a none 4 0 n,.v (.int .i64 i),.rsl b none 4 0 1]=some ([.rsl a none 4 0 n,.v (.int .i64 i),.sl 4 [bD t]],upd h b (.fz 4 [bD t]),[]):=by
  simp_all[bQ,dw,vV,fK,aD,afe,mJ,pk]
 have g1:upd h b (.fz 4 [bD t]) a=.ar 4 (aH l):=by
  simp_all[upd,if_neg]
 have g2:upd h b (.fz 4 [bD t]) (2000+8*d)=.dead:=by
  simp_all[upd,if_neg]
 have hr:bV (upd h b (.fz 4 [bD t])) 40 [a] 0=[a]:=by
  grind[bV,nK,bF]
 have hp:bF [] ([AV.rsl a none 4 0 n,.v (.int .i64 i),.sl 4 [bD t]].flatMap bX)=[a]:=by
  simp[bX,fE,bF]
 have h3:bj [a] a=1000:=by simp[bj]
 have hnr:cz (.osl 4 (aH (l.take i++t::l.drop i)))=1:=rfl;have hlen:(aH (l.take i++t::l.drop i)).length=l.length+1:=by
  grind[sW,axG,axd,axE,ax2]
 have hnm:bo [[],[],[.o 5 [.o 2 [],.o 0 [],.o 2 [],.o 0 []]]] [.rsl a none 4 0 n,.v (.int .i64 i),.sl 4 [bD t]]=[.rsl a none 4 0 n,.v (.int .i64 i),.sl 4 [bD t]]:=by
  simp only[bo,adR];rfl
 unfold bE;simp only[dS,hm,axc,axe,h1,awV,hp,hr,hs,hnm];simp[jK,be,bk,g1,aC,bS,dQ,jW,h3,dL,hf,eJ,hnr,cw,g2,cY,bf,oj,BL,qY,fE,iW,aEt,Eo,eu,mat,dG,fR,hk,Fe,hm,hlen]
 simp_all[dA,if_neg,FT]
theorem ago{h:ac}{d:Nat}{r:List (List AV)}{i:Int}{b:Bool}(hR:R F.slices_BinarySearchFunc_api_Term_api_Term_Sint_ [.sl 4 [],nrmV [.o 2 []] (.sl 1 r),.fn F.poly_collector_add_1 [] []] []=some (.tup [I i,B b],[]))(h0:h (2000+8*d)=.dead)(h1:h (2000+8*d+1)=.dead):
  bE R (az false) h d [.emp,.sl 1 r,.fn F.poly_collector_add_1 [] []] (.fn F.slices_BinarySearchFunc_api_Term_api_Term_Sint_ [] [])=some (.tup [I i,B b],h,[]):=by
 have hm:=fQ false;have hs:=fI false;have hk:=ft false;have hb':jX (az false) [.emp,.sl 1 r,.fn F.poly_collector_add_1 [] []] (.fn F.slices_BinarySearchFunc_api_Term_api_Term_Sint_ [] [])=false:=by
  grind[jX,Nh]
 have h3:bQ h [3,0,0] [.emp,.sl 1 r,.fn F.poly_collector_add_1 [] []]=some ([.emp,.sl 1 r,.fn F.poly_collector_add_1 [] []],h,[]):=by
  simp[bQ,dw,vV,fK,aD]
 have hp:bF [] ([AV.emp,.sl 1 r,.fn F.poly_collector_add_1 [] []].flatMap bX)=[]:=by
  simp[bX,fE,bF]
 have hnm:bo [[.o 5 [.o 2 [],.o 0 [],.o 2 [],.o 0 []]],[.o 2 []],[]] [.emp,.sl 1 r,.fn F.poly_collector_add_1 [] []]=[.sl 4 [],nrmV [.o 2 []] (.sl 1 r),.fn F.poly_collector_add_1 [] []]:=by
  rfl
 obtain⟨q,hq⟩:∃q,nrmV [.o 2 []] (.sl 1 r)=.sl 1 q:=⟨_,rfl⟩;rw[hq]at hR hnm;have hr:∀n,bV h n [] 0=[]:=fun n=>by cases n<;>rfl
 unfold bE;rw[if_neg (by grind)];simp only[dS,hm,axc,axe,h3,awV,hp,hr,hs,hnm];simp[jK,be,bk,dQ,jW,hR,eJ,cz,cw,h0,h1,bS,cY,oj,BL,qY,iW,aEt,Eo,eu,mat,cK,dG,fR,hk,Fe,hm]
theorem adS{t:Rt}{h:ac}{d b:Nat}(hb:h b=.ar 4 [bD t])(hdb:2000+8*d≠b)(hd:h (2000+8*d)=.dead):
  bE R (az false) h d [.emp,.v (.int .i64 0),.rsl b none 4 0 1] (.fn F.slices_Insert_api_Term_api_Term_ [] [])=some (.rsl (2000+8*d) none 4 0 1,upd (upd h b (.fz 4 [bD t])) (2000+8*d) (.ar 4 (aH [t])),[]):=by
 have hm:=lQ false;have hs:=kY false;have hk:=kq false;have hf:=ai2 (t:=t);have hb':jX (az false) [.emp,.v (.int .i64 0),.rsl b none 4 0 1] (.fn F.slices_Insert_api_Term_api_Term_ [] [])=false:=by
  grind[jX]
 have h1:bQ h [2,0,0] [.emp,.v (.int .i64 0),.rsl b none 4 0 1]=some ([.emp,.v (.int .i64 0),.sl 4 [bD t]],upd h b (.fz 4 [bD t]),[]):=by
  simp[bQ,dw,vV,fK,aD,hb,mJ,pk]
 have g2:upd h b (.fz 4 [bD t]) (2000+8*d)=.dead:=by
  simp_all[upd,if_neg]
 have hp:bF [] ([AV.emp,.v (.int .i64 0),.sl 4 [bD t]].flatMap bX)=[]:=by
  simp[bX,fE,bF]
 have hnr:cz (.osl 4 (aH [t]))=1:=rfl;have hnm:bo [[],[],[.o 5 [.o 2 [],.o 0 [],.o 2 [],.o 0 []]]] [.emp,.v (.int .i64 0),.sl 4 [bD t]]=[.emp,.v (.int .i64 0),.sl 4 [bD t]]:=by
  simp only[bo,adR];rfl
 have hr:∀ (h:ac) n,bV h n [] 0=[]:=fun h n=>by cases n<;>rfl
 have hlen:(aH [t]).length=1:=rfl;unfold bE;simp only[dS,hm,axc,axe,h1,awV,hp,hr,hs,hnm];simp[jK,be,bk,dQ,jW,hf,eJ,hnr,cw,g2,bS,cY,oj,BL,qY,fE,iW,aEt,Eo,eu,mat,dG,fR,hk,Fe,hm,hlen]
 simp_all[dA,if_neg]
def ClE(x:List Int):Prop:=R F.slices_Clone_int_int_ [.sl 1 (aS x)] []=some (.osl 1 (aS x),[])\/R F.slices_Clone_int_int_ [.sl 1 (aS x)] []=some (.sl 1 (aS x),[])
theorem adT:∀ {x:List Int},x.length<=100000->ClE x
 |[],_=>.inr RH
 |x::l,h=>.inl (RI (by grind))
theorem VO{v v':Int}{l:List Rt}{t:Rt}(c:Cl v l)(vt:VT v t)(hl:l.length<=1000000)(hf:Jz l t.exps=false):
  R F.poly_collector_add [.ref 1000 none 0 0 0,.sl 1 (aS t.exps),ae t.c] [t3 v' (.osl 4 (aH l)) 0]=some (.tup [],[t3 v' (.osl 4 (aH (l.take (cx l t.exps)++t::l.drop (cx l t.exps)))) 0]):=by
 refine vT aD6.2.1 aD6.2.2 (aD6.1.2.2.2 false) rfl ?_;have hbs:=abD c vt.sm vt.len hl;rw[hf]at hbs;have hcp:=RG vt.nz (awX (zG vt.vc vt.c.lb) (by decide));simp only[ae,ah]at hcp;have k1:(aS t.exps).take t.exps.length=aS t.exps:=axg (by simp_all[CT,awQ]);have hlen:(l.take (cx l t.exps)++t::l.drop (cx l t.exps)).length=l.length+1:=by
  grind
 have hp:=Qb l t.exps;simp only[fO,i8,t3,ae,ah,go_sem];rw[YL rfl rfl (sW l).symm ⟨_,rfl⟩];rcases adT vt.ok.len with hcv|hcv
 all_goals
  simp only[go_sem,hbs,Kx,hcv,hcp,awP,awQ,k1];rw[agn rfl rfl (by decide) (by decide) (by decide) rfl rfl hp hl];generalize l.take (cx l t.exps)++t::l.drop (cx l t.exps)=L at hlen⊢;simp only[go_sem];rw[if_pos (by rfl),CJ rfl (by rw[sW,hlen]) rfl (by decide) (axX (by decide) (awQ 3))];simp only[go_sem];exact Gt (.inl rfl) rfl
theorem VP{v':Int}{v:Int}{t:Rt}(vt:VT v t):
  R F.poly_collector_add [.ref 1000 none 0 0 0,.sl 1 (aS t.exps),ae t.c] [t3 v' .emp 0]=some (.tup [],[t3 v' (.osl 4 (aH [t])) 0]):=by
 refine vT aD6.2.1 aD6.2.2 (aD6.1.2.2.2 false) rfl ?_;have hbs:=abD (l:=[]) (Cl.nil v) vt.sm vt.len (axz _);rw[show cx [] t.exps=0 from rfl,show Jz [] t.exps=false from rfl,axB]at hbs;have hcp:=RG vt.nz (awX (zG vt.vc vt.c.lb) (by decide));simp only[ae,ah]at hcp;have k1:(aS t.exps).take t.exps.length=aS t.exps:=axg (by simp_all[CT,awQ]);have k2:nrmV [.o 2 []] (.sl 1 (aS t.exps))=.sl 1 (aS t.exps):=by
  simp only[go_sem]
 simp only[fO,i8,t3,ae,ah,go_sem];rw[ago (by rw[k2];exact hbs) rfl rfl];rcases adT vt.ok.len with hcv|hcv
 all_goals
  simp only[go_sem,hcv,hcp,awP,awQ,k1];rw[adS rfl (by decide) rfl];simp only[go_sem];rw[if_pos (by rfl),CJ rfl (show 1=(aH [t]).length from rfl) rfl (by decide) (axX (by decide) (awQ 3))];simp only[go_sem];exact Gt (.inl rfl) rfl
theorem JA{d n i:Nat}(h:i<=n):jL d n (some (I i))=some i:=by
 simp_all[jL,if_pos]
theorem als{h:ac}{j k n:Nat}{rows:List (List AV)}(hj:bg j=false)(hh:h j=.ar k rows)(hn:n=rows.length)(hc:aC [1000] (h 1000)=true):wd [[]] 1 h [.rsl j none k 0 n]=some (.osl k rows,[h 1000]):=by
 simp_all[cU,wd,if_pos,uQ,rh,lU,BN,wX,bo,nrmV,nrmL,kD,bX,fE]
theorem alt{rows:List (List AV)}{n i:Nat}(hn:n=rows.length)(hi:i<n)(h2:n<=1000000):R F.slices_Delete_api_Term_api_Term_ [.rsl 1000 none 4 0 n,I i,I ((i+1:Nat):Int)] [.ar 4 rows]=some (.osl 4 (rows.take i++rows.drop (i+1)),[.dead]):=by
 refine vT wx ww (kr false) rfl ?_;subst hn;have b1:jL rows.length rows.length (some (I rows.length))=some rows.length:=JA (awQ _);have b2:∀d,jL d rows.length (some (I ((i+1:Nat):Int)))=some (i+1):=fun d=>JA (by omega);have b3:∀d,jL d (i+1) (some (I i))=some i:=fun d=>JA (by omega);have b4:∀d,jL d rows.length (some (I i))=some i:=fun d=>JA (by omega);have e1:((i:Int)=((i+1:Nat):Int))=False:=ff;have s1:dZ 4 (.rsl 1000 none 4 0 rows.length) (some (I i)) (some (I ((i+1:Nat):Int))) (some (I rows.length))=some .any:=by
  simp_all[dZ,if_true,jT,b2,awV,axH,Option.isNone_some,if_neg,awW]
 have s2:dZ 4 (.rsl 1000 none 4 0 rows.length) none (some (I i)) none=some (.rsl 1000 none 4 0 i):=by
  simp_all[dZ,if_true,jT,Mz,awV,axH,Option.isNone_none,Nat.sub_zero,axo]
 have s3:dZ 4 (.rsl 1000 none 4 0 rows.length) (some (I ((i+1:Nat):Int))) none none=some (.rsl 1000 none 4 (i+1) (rows.length- (i+1))):=by
  simp only[dZ,if_true,jT,b2,Mz,awV,axH,Option.isNone_none,awP]
 have t1:(rows.drop (i+1)).take (rows.length- (i+1))=rows.drop (i+1):=axg (by grind);have t2:(i+1+(rows.length- (i+1))<=rows.length)=True:=tt;obtain⟨m,hm⟩:∃m,i+(rows.length- (i+1))=m:=⟨_,rfl⟩;obtain⟨D,hD⟩:∃D,rows.take i++rows.drop (i+1)=D:=⟨_,rfl⟩;have d1:D.length=m:=by
  grind
 obtain⟨A,hA⟩:∃A,D++rows.drop m=A:=⟨_,rfl⟩;have a1:A.length=rows.length:=by
  grind
 have a2:A.take m=D:=by grind
 have e5:∀h,LU h 26 4 64 1000 4 0 i (rows.drop (i+1)) 4 rows=some (.rsl 1000 none 4 0 m,upd h 1000 (.ar 4 A),[]):=fun h=>by
  unfold LU;grind
 have e7:(i=rows.length)=False:=ff;have b5:jT rows.length (some (I m)) (some (I rows.length)) none=some (m,rows.length):=by
  simp only[jT,b1,awV];rw[JA (by omega)];rfl
 have c1:(m+(rows.length-m)<=rows.length)=True:=tt;have c2:∀z,(D++awO (rows.length-m) z++A.drop (m+(rows.length-m))).take m=D:=fun z=>by
  rw[axL,List.take_append_of_le_length (by omega),axg (by omega)]
 rw[hD];simp only[aDU,lK,go_sem,s1,s2,s3,e1,t1,t2,e5,e7,false_and,and_false,a1,a2,b5,c1,c2,Nat.sub_zero,awP,axz,axw,decide_false];exact als (by rfl) (by rfl) d1.symm (by rfl)
theorem agp{l:List Rt}{h:ac}{d a n i:Nat}(ha:h a=.ar 4 (aH l))(_hda:2000+8*d≠a)(hd:h (2000+8*d)=.dead)(hn:n=l.length)(hi:i<n)(h2:n<=1000000):
  bE R (az false) h d [.rsl a none 4 0 n,.v (.int .i64 i),.v (.int .i64 ((i+1:Nat):Int))] (.fn F.slices_Delete_api_Term_api_Term_ [] [])=
   some (.rsl (2000+8*d) none 4 0 (l.length-1),upd (upd h a .dead) (2000+8*d) (.ar 4 (aH (l.take i++l.drop (i+1)))),[(a,true),(a,false)]):=by
 have hm:=wz false;have hs:=vH false;have hk:=kr false;have hf:=alt (rows:=aH l) (n:=n) (i:=i) (by rw[sW,hn]) hi h2;have e1:(aH l).take i++(aH l).drop (i+1)=aH (l.take i++l.drop (i+1)):=by simp[aH,List.map_take,List.map_drop]
 rw[e1]at hf;have hb':jX (az false) [.rsl a none 4 0 n,.v (.int .i64 i),.v (.int .i64 ((i+1:Nat):Int))] (.fn F.slices_Delete_api_Term_api_Term_ [] [])=false:=by
  grind[jX]
 have h1:bQ h [2,0,0] [.rsl a none 4 0 n,.v (.int .i64 i),.v (.int .i64 ((i+1:Nat):Int))]=some ([.rsl a none 4 0 n,.v (.int .i64 i),.v (.int .i64 ((i+1:Nat):Int))],h,[]):=by
  simp[bQ,dw,vV,fK,aD,ha,afe]
 have hr:bV h 40 [a] 0=[a]:=by
  grind[bV,nK,bF]
 have hp:bF [] ([AV.rsl a none 4 0 n,.v (.int .i64 i),.v (.int .i64 ((i+1:Nat):Int))].flatMap bX)=[a]:=by
  simp[bX,fE,bF]
 have h3:bj [a] a=1000:=by simp[bj]
 have hnr:cz (.osl 4 (aH (l.take i++l.drop (i+1))))=1:=rfl;have hlen:(aH (l.take i++l.drop (i+1))).length=l.length-1:=by
  grind[sW,axG,axd,ax2]
 unfold bE;simp only[dS,hm,axc,axe,h1,awV,hp,hr,hs];simp only[Int.natCast_add,Int.natCast_one]at hf;simp[jK,bo,be,bk,ha,aC,bS,dQ,jW,h3,dL,hf,eJ,hnr,cw,hd,cY,bf,oj,BL,qY,fE,iW,aEt,Eo,eu,mat,dG,fR,hk,Fe,hm,hlen]
 simp_all[dA,if_neg,FT]
theorem ai3(h:ac)(i:Nat)(xs:List AV)(a b:AV)(r:List (List AV)):Em h 3 1000 1 4 i 1 xs [] (.bx [a,.osl 4 r,b])=(qW 3 4 i 1 xs 4 r).map fun q=>(.und,upd h 1000 (.bx [a,.osl 4 q,b]),[]):=rfl
theorem JB(a b:AV)(k:Nat)(r:List (List AV)):jV 1 (.bx [a,.osl k r,b])=some (k,r):=rfl
theorem Qd(h:ac)(n:Nat)(g:Bool)(i j:Nat)(r:List (List AV)):og h n g 4 i j (some (4,r))=(r[i]?).bind fun row=>(kt n g row j).map fun a=>(a,h,[]):=rfl
theorem agq{v v':Int}{l:List Rt}{t q:Rt}(c:Cl v l)(vt:VT v t)(hl:l.length<=1000000)(hq:l[cx l t.exps]?=some q)(ho:bO q.exps t.exps=0):
  R F.poly_collector_add [.ref 1000 none 0 0 0,.sl 1 (aS t.exps),ae t.c] [t3 v' (.osl 4 (aH l)) 0]=some (.tup [],[if(iF q.c t.c).2=0 then(if(iF q.c t.c).1.m.length=0 then t3 v' (.osl 4 (aH (l.take (cx l t.exps)++l.drop (cx l t.exps+1)))) 0 else t3 v' (.osl 4 (aH (l.set (cx l t.exps) ⟨q.exps,(iF q.c t.c).1⟩))) 0)else t3 v' (.osl 4 (aH l)) 9]):=by
 refine vT aD6.2.1 aD6.2.2 (aD6.1.2.2.2 false) rfl ?_;have hbs:=abD c vt.sm vt.len hl;have hf:Jz l t.exps=true:=by
  grind[Jz,decide_eq_true]
 rw[hf]at hbs;have vq:=c.t q (List.mem_of_getElem? hq);have hadd:=aiZ vq.c vt.c;have hlt:=(List.getElem?_eq_some_iff.1 hq).1;have hrow:(aH l)[cx l t.exps]?=some (bD q):=by grind[aH]
 have hi0:(0<=(cx l t.exps:Int)/\(cx l t.exps:Int)< (l.length:Int))=True:=eq_true ⟨by omega,by omega⟩;have hw:IntKind.i64.wrap ((cx l t.exps:Int)+1)=((cx l t.exps+1:Nat):Int):=wi;generalize iF q.c t.c=r at hadd⊢;obtain⟨s,e⟩:=r;simp only[rV,ae,ah]at hadd;simp only[bD]at hrow;simp only[fO,i8,t3,ae,ah,go_sem];rw[YL rfl rfl (sW l).symm ⟨_,rfl⟩];by_cases he:e=0
 ·subst he;by_cases hs:s.m.length=0
  ·have e1:((s.m.length:Int)=0)=True:=tt;have hlen:(l.take (cx l t.exps)++l.drop (cx l t.exps+1)).length=l.length-1:=by
    grind
   simp only[go_sem,hbs,Kx,hi0,hrow,hadd,hs,awY,axB,awP,JB,Qd,hw];rw[agp rfl (by decide) rfl rfl hlt hl];generalize l.take (cx l t.exps)++l.drop (cx l t.exps+1)=L at hlen⊢;simp only[go_sem];rw[CJ rfl (by rw[sW,hlen]) rfl (by decide) (axX (by decide) (awQ 3))];simp only[go_sem];exact Gt (.inl rfl) rfl
  ·have e1:((s.m.length:Int)=0)=False:=ff;have hset:(aH l).set (cx l t.exps) [.sl 1 (aS q.exps),B s.neg,lm s.m,I s.e]=aH (l.set (cx l t.exps) ⟨q.exps,s⟩):=by
    unfold aH;rw[List.map_set];rfl
   simp only[go_sem,hbs,Kx,hi0,hrow,hadd,hs,e1,awY,awP,JB,Qd,hw,ai3,hset];exact Gt (.inl rfl) rfl
 ·have e1:(e=0)=False:=ff he;simp only[go_sem,hbs,Kx,hi0,hrow,hadd,e1,awY,awP,JB,Qd,hw];exact Gt (.inl rfl) rfl
theorem Qe{v v':Int}{l:List Rt}{t:Rt}{cell:AV}(c:Cl v l)(vt:VT v t)(hl:l.length<=1000000)(hc:nj cell l):
  ∃cell' l' e',R F.poly_collector_add [.ref 1000 none 0 0 0,.sl 1 (aS t.exps),ae t.c] [t3 v' cell 0]=some (.tup [],[t3 v' cell' e'])/\nj cell' l'/\((e'=0/\rN l t=some l')\/(e'=9/\rN l t=none/\l'=l)):=by
 rcases hc with rfl| ⟨rfl,rfl⟩
 ·rw[YJ];cases hq:l[cx l t.exps]? with
  |none=>
   exact⟨_,_,_,VO c vt hl (by grind[Jz]),.inl rfl,.inl ⟨rfl,rfl⟩⟩
  |some q=>
   by_cases ho:bO q.exps t.exps=0
   ·have h1:=agq (v':=v') c vt hl hq ho;simp only[if_pos ho];by_cases he:(iF q.c t.c).2=0
    ·rw[if_pos he]at h1⊢;by_cases hs:(iF q.c t.c).1.m.length=0
     ·rw[if_pos hs]at h1⊢;exact⟨_,_,_,h1,.inl rfl,.inl ⟨rfl,rfl⟩⟩
     ·rw[if_neg hs]at h1⊢;exact⟨_,_,_,h1,.inl rfl,.inl ⟨rfl,rfl⟩⟩
    ·rw[if_neg he]at h1⊢;exact⟨_,_,_,h1,.inl rfl,.inr ⟨rfl,rfl,rfl⟩⟩
   ·simp only[if_neg ho];exact⟨_,_,_,VO c vt hl (by grind[Jz,decide_eq_false]),.inl rfl,.inl ⟨rfl,rfl⟩⟩
 ·exact⟨_,_,_,VP vt,.inl rfl,.inl ⟨rfl,rfl⟩⟩
def pi:List Rt->(List Int->Int)->Int
 |[],_=>0
 |t::l,f=>zI t.c*f t.exps+pi l f
theorem YM:∀ (l r:List Rt) (f:List Int->Int),pi (l++r) f=pi l f+pi r f
 |[],r,f=>by simp[pi]
 |t::l,r,f=>by
  show zI t.c*f t.exps+pi (l++r) f=zI t.c*f t.exps+pi l f+pi r f;rw[YM l r f,Int.add_assoc]
theorem VQ{v:Int}{f:List Int->Int}:∀ {l l':List Rt} {t:Rt},Cl v l->VT v t->rN l t=some l'->pi l' f=pi l f+zI t.c*f t.exps
 |[],l',t,c,vt,h=>by
  cases h;show zI t.c*f t.exps+0=0+_;omega
 |q::l,l',t,c,vt,h=>by
  obtain⟨c1,c2,c3⟩:=c.cons;unfold rN at h;split at h
  ·rw[awR]at h;obtain⟨l2,h2,rfl⟩:=h;have ih:=VQ c3 vt h2 (f:=f);show _+pi l2 f=(_+pi l f)+_;rw[ih,Int.add_assoc]
  ·split at h
   ·rename_i h1 h2;have he:=YH (c1.l2 vt) h2;split at h
    ·rename_i h3;cases h;have hz:=P9 h3;split
     ·rename_i h4;rw[cF h4]at hz;show pi l f=(zI q.c*f q.exps+pi l f)+_;grind
     grind[zI,iF,pi,Int.add_mul,Int.add_right_comm]
    grind
   grind[zI,pi,Int.add_comm]
theorem VR{v:Int}{f:List Int->Int}:∀ {ts l l':List Rt},Cl v l->(∀t∈ts,VT v t)->gM l ts=some l'->pi l' f=pi l f+pi ts f
 |[],l,l',c,_,h=>by
  cases h;exact(Int.add_zero _).symm
 |t::ts,l,l',c,vt,h=>by
  unfold gM at h;rw[awN]at h;obtain⟨l2,h2,h3⟩:=h;rw[VR (Kw c (vt t (by simp)) h2).1 (fun x hx=>vt x (by grind)) h3,VQ c (vt t (by simp)) h2];show _=_+(_+_);omega
theorem VT.zn{v:Int}{t:Rt}(h:VT v t):zI t.c≠0:=by
 rcases DP t.c h.vc with⟨_,_,h2⟩| ⟨_,h1,h2,_⟩| ⟨_,h1,h2,_⟩
 ·exact absurd h2 h.nz
 all_goals omega
theorem RJ{a b:List Int}(h:bO a b<0):b≠a:=by
 grind[RF]
def p0:Rp:=⟨0,[]⟩
def pV(r:Rp×Int):AV:=.tup [aO r.1,I r.2]
def lE(v:Int):Option (List Rt)->Rp×Int
 |none=>(p0,9)
 |some l=>if 500<l.length then(p0,5)else(⟨v,l⟩,0)
def E4(a b:Rp):Bool:=vp a&& (vp b&&decide (a.vars=b.vars))
def Cd(a b:Rp):Rp×Int:=if E4 a b=true then lE a.vars (gM [] (a.terms++b.terms))else(p0,1)
def ayL(t:Rt):Rt:=⟨t.exps,⟨!t.c.neg,t.c.m,t.c.e⟩⟩
def ayM(a b:Rp):Rp×Int:=if E4 a b=true then lE a.vars (gM [] (a.terms++b.terms.map ayL))else(p0,1)
def jl(a b:List Int):List Int:=List.zipWith (·+·) a b
def CK(s t:Rt):Option Rt:=if(dt s.c t.c).2=0 then some ⟨jl s.exps t.exps,(dt s.c t.c).1⟩else none
def kN(s:Rt):List Rt->Option (List Rt)
 |[]=>some []
 |t::ts=>(CK s t).bind fun x=>(kN s ts).map (x::·)
def jS:List Rt->List Rt->Option (List Rt)
 |[],_=>some []
 |s::ss,ts=>(kN s ts).bind fun r=>(jS ss ts).map (r++·)
def jJ(a b:Rp):Rp×Int:=if E4 a b=true then(if a.terms.length≠0/\b.terms.length≠0/\32<ej a+ej b then(p0,5)else lE a.vars ((jS a.terms b.terms).bind (gM [])))else(p0,1)
theorem adU:∃K:Int,K≠0/\∀a b:Rd,(dt a b).2=0->zI (dt a b).1*K=zI a*zI b:=by
 refine⟨2^16384,?_,fun a b h=>?_⟩
 ·grind[Int.pow_ne_zero]
 ·unfold dt at h⊢;split at h
  ·rename_i hc;rw[if_pos hc];exact Kv (j:=16384) h
  omega
noncomputable def KK:Int:=Classical.choose adU
theorem YN{a b:Rd}(h:(dt a b).2=0):zI (dt a b).1*KK=zI a*zI b:=(Classical.choose_spec adU).2 a b h
theorem VU:∀ {a b:List Int},a.length=b.length->bh (jl a b)=bh a+bh b
 |[],[],_=>rfl
 |x::a,y::b,h=>by
  show x+y+bh (jl a b)=x+bh a+(y+bh b);rw[VU (by simpa using h)];omega
 |[],_::_,h=>by grind
 |_::_,[],h=>by grind
theorem Ky:∀ {l:List Int},(∀x∈l,0<=x)->0<=bh l/\∀x∈l,x<=bh l
 |[],_=>⟨Int.le_refl _,fun _ h=>by grind⟩
 |y::l,h=>by
  obtain⟨h1,h2⟩:=Ky fun x hx=>h x (List.mem_cons_of_mem _ hx);have h3:=h y (by simp);grind[bh]
theorem VV:∀ {a b:List Int},(∀x∈a,0<=x)->(∀x∈b,0<=x)->∀x∈jl a b,0<=x
 |[],b,_,_,x,hx=>by simp_all[jl]
 |_::_,[],_,_,x,hx=>by simp_all[jl]
 |y::a,z::b,h1,h2,x,hx=>by
  have hx':x∈ (y+z)::jl a b:=hx;rcases List.mem_cons.1 hx' with rfl|hx'
  ·have:=h1 y (by simp);have:=h2 z (by simp);omega
  ·exact VV (fun x hx=>h1 x (by grind)) (fun x hx=>h2 x (by grind)) x hx'
theorem xO{a b:List Int}(h:a.length=b.length):(jl a b).length=a.length:=by
 grind[jl,List.length_zipWith]
theorem MW{v:Int}{s t x:Rt}(vs:VT v s)(vt:VT v t)(hd:bh s.exps+bh t.exps<=32)(h:CK s t=some x):VT v x:=by
 unfold CK at h;split at h
 ·rename_i h0;cases h;have hl:=vs.l2 vt;have hp:=VV (fun x hx=>(vs.b x hx).1) (fun x hx=>(vt.b x hx).1);have hs:=VU hl;obtain⟨q1,q2⟩:vd (dt s.c t.c).1=true/\Ok0 (dt s.c t.c).1:=by
   grind[dt,yj,aU]
  refine⟨q2,by rw[xO hl];exact vs.len,vs.v8,q1,fun h=>?_,fun e he=>⟨hp e he,?_⟩,by grind⟩
  ·have h1:=YN h0;rw[cF h,Int.zero_mul]at h1;rcases Int.mul_eq_zero.1 h1.symm with h2|h2
   ·exact vs.zn h2
   ·exact vt.zn h2
  ·have:=(Ky hp).2 e he;omega
 grind
theorem JC{v:Int}{s:Rt}(vs:VT v s):∀ {ts r:List Rt},(∀t∈ts,VT v t/\bh s.exps+bh t.exps<=32)->kN s ts=some r->(∀x∈r,VT v x)/\r.length=ts.length
 |[],r,_,h=>by cases h;grind
 |t::ts,r,ht,h=>by
  unfold kN at h;rw[awN]at h;obtain⟨x,h1,h2⟩:=h;rw[awR]at h2;obtain⟨r2,h3,rfl⟩:=h2;obtain⟨g1,g2⟩:=JC vs (fun y hy=>ht y (by grind)) h3;have vx:=MW vs (ht t (by simp)).1 (ht t (by simp)).2 h1;grind
theorem JD{v:Int}:∀ {ss ts r:List Rt},(∀s∈ss,VT v s)->(∀t∈ts,VT v t)->(∀s∈ss,∀t∈ts,bh s.exps+bh t.exps<=32)->jS ss ts=some r->(∀x∈r,VT v x)/\r.length=ss.length*ts.length
 |[],ts,r,_,_,_,h=>by cases h;grind
 |s::ss,ts,r,vs,vt,hd,h=>by
  unfold jS at h;rw[awN]at h;obtain⟨x,h1,h2⟩:=h;rw[awR]at h2;obtain⟨r2,h3,rfl⟩:=h2;obtain⟨g1,g2⟩:=JC (vs s (by simp)) (fun t ht=>⟨vt t ht,hd s (by simp) t ht⟩) h1;obtain⟨k1,k2⟩:=JD (fun y hy=>vs y (by grind)) vt (fun y hy t ht=>hd y (by grind) t ht) h3;grind
theorem ai4{a b:List Int}(h:bO a b<0):bh a<=bh b:=by
 unfold bO at h;rcases nG (bh a) (bh b)with⟨g,e⟩| ⟨g,e⟩| ⟨g,e⟩<;>rw[e]at h
 all_goals omega
theorem MX{v:Int}:∀ {l:List Rt} {t q:Rt},Cl v l->l.getLast?=some q->t∈l->bh t.exps<=bh q.exps
 |[],t,q,_,h,_=>by grind
 |[x],t,q,_,h,ht=>by
  grind
 |x::y::l,t,q,c,h,ht=>by
  obtain⟨c1,c2,c3⟩:=c.cons;rcases List.mem_cons.1 ht with rfl|ht
  ·have h1:=ai4 (c2 y (by simp));have h2:=MX c3 h (t:=y) (by simp);omega
  ·exact MX c3 h ht
theorem YO{a:Rp}(oa:OkP a)(h:vp a=true):∀t∈a.terms,bh t.exps<=ej a:=by
 intro t ht;unfold ej;rw[if_pos h];cases hg:a.terms.getLast? with
 |none=>
  grind
 |some q=>exact MX (il oa h).1 hg ht
theorem qQ{a b:Rp}:E4 a b=true↔vp a=true/\vp b=true/\a.vars=b.vars:=by
 grind[E4]
theorem ay0{v:Int}{t:Rt}(h:VT v t):VT v (ayL t):=by
 refine⟨⟨h.c.1,h.c.2⟩,h.len,h.v8,?_,h.nz,h.b,h.d⟩;have h1:=h.vc;have h2:=h.nz
 simp_all[vd,if_neg,ayL]
theorem aza(t:Rt):zI (ayL t).c=-zI t.c:=by
 grind[zI,ayL,mg]
theorem azd(f:List Int->Int):∀l:List Rt,pi (l.map ayL) f=-pi l f
 |[]=>rfl
 |t::l=>by
  show zI (ayL t).c*f t.exps+pi (l.map ayL) f=-(zI t.c*f t.exps+pi l f);rw[azd f l,aza,Int.neg_mul];omega
theorem ai5{v:Int}{o:Option (List Rt)}(h:(lE v o).2=0):∃l,o=some l/\l.length<=500/\(lE v o).1=⟨v,l⟩:=by
 unfold lE at h⊢;grind
structure Pv (v:Int) (a:Rp):Prop where
 v:a.vars=v
 p:vp a=true
 o:OkP a
theorem Pv.cl{v:Int}{a:Rp}(h:Pv v a):Cl v a.terms:=by
 have:=(il h.o h.p).1;rw[h.v]at this;omega
theorem azM{a b:Rp}(oa:OkP a)(ob:OkP b)(h:(ayM a b).2=0):Pv a.vars a/\Pv a.vars b/\Pv a.vars (ayM a b).1/\∀f,pi (ayM a b).1.terms f=pi a.terms f-pi b.terms f:=by
 unfold ayM at h⊢;split at h
 ·rename_i hp;rw[if_pos hp];obtain⟨va,vb,hv⟩:=qQ.1 hp;obtain⟨l,hl,h5,he⟩:=ai5 h;obtain⟨ca,a0,a8,_⟩:=il oa va;obtain⟨cb,_⟩:=il ob vb;rw[←hv]at cb;have ht:∀t∈a.terms++b.terms.map ayL,VT a.vars t:=fun t ht=>by
   rcases List.mem_append.1 ht with ht|ht
   ·exact ca.t t ht
   ·obtain⟨q,hq,rfl⟩:=List.mem_map.1 ht;exact ay0 (cb.t q hq)
  have hc:=(Gs (Cl.nil _) ht hl).1;rw[he];refine⟨⟨rfl,va,oa⟩,⟨hv.symm,vb,ob⟩,⟨rfl,CI hc a0 a8 h5,jR hc⟩,fun f=>?_⟩;have:=VR (f:=f) (Cl.nil _) ht hl;rw[YM,azd]at this;rw[this];show 0+_=_;omega
 omega
theorem MY{a b:Rp}(oa:OkP a)(ob:OkP b)(va:vp a=true)(vb:vp b=true)(h:¬ (a.terms.length≠0/\b.terms.length≠0/\32<ej a+ej b)):∀s∈a.terms,∀t∈b.terms,bh s.exps+bh t.exps<=32:=by
 intro s hs t ht;have h1:=YO oa va s hs;have h2:=YO ob vb t ht;grind
theorem Kz:OkP p0:=⟨fun _ h=>by cases h⟩
theorem VW{v:Int}{o:Option (List Rt)}(h:∀l,o=some l->Cl v l):OkP (lE v o).1:=by
 unfold lE;grind[Kz,jR]
theorem ags{a b:Rp}(oa:OkP a)(ob:OkP b):OkP (Cd a b).1:=by
 unfold Cd;split
 ·rename_i hp;obtain⟨va,vb,hv⟩:=qQ.1 hp;obtain⟨ca,_⟩:=il oa va;obtain⟨cb,_⟩:=il ob vb;rw[←hv]at cb;exact VW fun l hl=>(Gs (Cl.nil _) (fun t ht=>by
   rcases List.mem_append.1 ht with ht|ht
   ·exact ca.t t ht
   ·exact cb.t t ht) hl).1
 ·exact Kz
theorem ay5{a b:Rp}(oa:OkP a)(ob:OkP b):OkP (ayM a b).1:=by
 unfold ayM;split
 ·rename_i hp;obtain⟨va,vb,hv⟩:=qQ.1 hp;obtain⟨ca,_⟩:=il oa va;obtain⟨cb,_⟩:=il ob vb;rw[←hv]at cb;exact VW fun l hl=>(Gs (Cl.nil _) (fun t ht=>by
   rcases List.mem_append.1 ht with ht|ht
   ·exact ca.t t ht
   ·obtain⟨q,hq,rfl⟩:=List.mem_map.1 ht;exact ay0 (cb.t q hq)) hl).1
 ·exact Kz
theorem MZ{a b:Rp}(oa:OkP a)(ob:OkP b):OkP (jJ a b).1:=by
 unfold jJ;split
 ·rename_i hp;obtain⟨va,vb,hv⟩:=qQ.1 hp;split
  ·exact Kz
  ·rename_i hd;have hf:=MY oa ob va vb hd;obtain⟨ca,_⟩:=il oa va;obtain⟨cb,_⟩:=il ob vb;rw[←hv]at cb;refine VW fun l hl=>?_;rw[awN]at hl;obtain⟨r,hr,hl⟩:=hl;exact(Gs (Cl.nil _) (JD ca.t cb.t hf hr).1 hl).1
 ·exact Kz
theorem VX{a:AV}(h:aD a=true):fE a=[]:=by cases a<;>simp[aD]at h<;>rfl
theorem YP{a:AV}(h:aD a=true)(l:List Nat):bk l a=true:=by cases a<;>simp[aD]at h<;>simp[bk,h]
theorem VY{a:AV}(h:aD a=true)(g:Nat->Nat):jW g a=a:=by cases a<;>simp[aD]at h<;>rfl
theorem D0{α β:Type}{f:α->List β}:∀ {l:List α},(∀x∈l,f x=[])->l.flatMap f=[]
 |[],_=>rfl
 |x::l,h=>by
  simp_all
theorem KA{a:AV}(h:dat a=true):bX a=[]:=by
 cases a<;>simp only[dat]at h<;>first|exact VX h|skip
 ·exact D0 fun x hx=>VX (List.all_eq_true.1 h x hx)
 ·simp[aD]at h;obtain⟨rfl,rfl⟩:=h;rfl
theorem Oz{a:AV}(h:dat a=true)(l:List Nat):be l a=true:=by
 cases a<;>simp only[dat]at h<;>first|exact YP h l|skip
 all_goals grind[be,axj,YP,aD]
theorem KB{a:AV}(h:dat a=true)(g:Nat->Nat):dQ g a=a:=by
 cases a<;>simp only[dat]at h<;>first|exact VY h g|skip
 ·rename_i cs;show AV.agg (cs.map (jW g))=_;rw[(axy (g:=fun c=>c) fun x hx=>VY (List.all_eq_true.1 h x hx) g).trans (axN cs)]
 ·simp[aD]at h;obtain⟨rfl,rfl⟩:=h;rfl
theorem VZ{a:AV}(h:dat a=true)(hp:ac):dw hp 0 a=some (a,hp,[]):=by
 by_cases hagg:∃cs,a=.agg cs
 ·grind[dat,dw,vV,me]
 ·have h2:aD a=true:=by cases a<;>first|exact h|exact absurd ⟨_,rfl⟩ hagg
  cases a<;>first| (simp[aD]at h2;done)|rfl|skip
theorem KC(hp:ac):∀ {l:List AV},l.all dat=true->bQ hp [] l=some (l,hp,[])
 |[],_=>rfl
 |a::l,h=>by
  simp only[axu,awS]at h;simp only[bQ,List.headD_nil,VZ h.1,awV,List.tail_nil,KC hp h.2,axe]
structure OC (o:Ob):Prop where
 cl:∀l,aC l o=true
 ids:nK o=[]
 ren:∀g,dL g o=o
 nd:bS o=false
structure RT (r:AV):Prop where
 ren:∀g,Fe g r=r
 mat:∀n h,mat n h r=(r,h)
 ok:∀l,iW l r=true
theorem alu(z:Int):RT (I z):=⟨fun _=>rfl,fun _ _=>rfl,fun _=>rfl⟩
theorem V0(b:Bool):RT (B b):=⟨fun _=>rfl,fun _ _=>rfl,fun _=>rfl⟩
theorem vU:∀l:List AV,qY [] l=[]
 |[]=>rfl
 |a::l=>by
  show(if(0:Nat)=2 then _ else [])++qY [] l=[];rw[vU l];rfl
theorem Hz{f:FuncId}{h:ac}{d id:Nat}{zas as':List AV}{o o':Ob}{res:AV}(hm:(az false).m f=[])(hk:(az false).keep f=false)(hn:bo ((az false).sh f) (.ref id none 0 0 0::zas)=.ref id none 0 0 0::as')(hd:zas.all dat=true)(hd':as'.all dat=true)
  (hh:h id=o) (ho:OC o) (ho':OC o') (hb:bf o=true->bf o'=true) (hR:R f (.ref 1000 none 0 0 0::as') [o]=some (res,[o'])) (hr:RT res) (h8:cz res<=8) (hfr:cw h (2000+8*d) (cz res)=true):
  bE R (az false) h d (.ref id none 0 0 0::zas) (.fn f [] [])=some (res,upd h id o',[(id,true)]):=by
 have h1:bQ h [] (.ref id none 0 0 0::zas)=some (.ref id none 0 0 0::zas,h,[]):=by
  simp only[bQ,dw,awV,List.tail_nil,KC h hd,axe]
 have hp:bF [] ((AV.ref id none 0 0 0::zas).flatMap bX)=[id]:=by
  rw[List.flatMap_cons,D0 fun x hx=>KA (List.all_eq_true.1 hd x hx)];rfl
 have hre:bV h 40 [id] 0=[id]:=by
  simp[bV,hh,ho.ids,bF]
 have h3:bj [id] id=1000:=by simp[bj]
 have hall:(AV.ref id none 0 0 0::as').all (be [id])=true:=by
  grind[be,bk,Oz]
 have hmap:(AV.ref id none 0 0 0::as').map (dQ (bj [id]))=.ref 1000 none 0 0 0::as':=by
  rw[axp,(axy (g:=fun c=>c) fun x hx=>KB (List.all_eq_true.1 hd' x hx) _).trans (axN as')];grind[dQ,jW]
 have hob:([id].map fun a=>dL (bj [id]) (h a))=[o]:=by simp[hh,ho.ren]
 have hids:([id].all fun a=>aC [id] (h a)&&!bS (h a))=true:=by simp[hh,ho.cl,ho.nd]
 unfold bE;rw[if_neg (by grind[jX])];simp only[dS,hm,axc,axe,h1,awV,hp,hre,hn];unfold jK;rw[hall,hids,hmap,hob,hR,axm,if_pos rfl,awV,hk,hm,vU];unfold eJ;have hbf:cY h [] [id] [o']=true:=by
  have:=ho'.nd;grind[bf,cY]
 have hend:oj h [id] [] (res,[o'])=true:=by
  simp[oj,BL,hr.ok,ho'.cl]
 rw[if_pos ⟨rfl,by simp,h8,hfr,hbf,hend⟩];simp[eu,fR,hr.mat,hr.ren,ho'.ren]
theorem dF{f:FuncId}{h:ac}{d id:Nat}{zas:List AV}{r:Option R3}(hm:(az false).m f=[])(hd:zas.all dat=true)(hc:bE R (az false) h d (.ref id none 0 0 0::zas) (.fn f [] [])=r):GZ R (az false) d f (.ref id none 0 0 0::zas,h,[])=r:=by
 have h1:bQ h [] (.ref id none 0 0 0::zas)=some (.ref id none 0 0 0::zas,h,[]):=by
  simp only[bQ,dw,awV,List.tail_nil,KC h hd,axe]
 rw[G0 d hm,h1]at hc;exact hc
theorem jn{v e:Int}{c:AV}{l:List Rt}(hc:nj c l):OC (t3 v c e):=by
 rcases hc with rfl| ⟨rfl,_⟩
 ·exact⟨fun l=>rfl,rfl,fun g=>rfl,rfl⟩
 ·exact⟨fun l=>rfl,rfl,fun g=>rfl,rfl⟩
theorem agt:RT (.tup []):=⟨fun _=>rfl,fun _ _=>rfl,fun _=>rfl⟩
theorem pj{v e e':Int}{c c':AV}{l l':List Rt}{h:ac}{d id:Nat}{x:List Int}{q:Rd}(hh:h id=t3 v c e)(hc:nj c l)(hc':nj c' l')(hR:R F.poly_collector_add [.ref 1000 none 0 0 0,.sl 1 (aS x),ae q] [t3 v c e]=some (.tup [],[t3 v c' e'])):
  bE R (az false) h d [.ref id none 0 0 0,.sl 1 (aS x),ae q] (.fn F.poly_collector_add [] [])=some (.tup [],upd h id (t3 v c' e'),[(id,true)]):=
 Hz (aD6.1.2.1 false) (aD6.1.2.2.2 false) (as':=[.sl 1 (aS x),ae q]) (by simp only[ae,ah,go_sem]) rfl rfl hh (jn hc) (jn hc') (fun _=>rfl) hR agt (by decide) rfl
theorem AN{v:Int}:R F.poly_empty [I v] []=some (.obx [I v,.emp,I 0],[]):=by
 refine ax UF rfl ?_;rfl
theorem aoh(r:Rp×Int):RT (pV r):=⟨fun _=>rfl,fun _ _=>rfl,fun _=>rfl⟩
theorem rO{h:ac}{o:Ob}{rs:List (List Sh)}{vs us:List AV}{r:AV}(h0:((vs.flatMap bX).filter fun i=>!bg i)=[])(h1:h 1000=o)(ho:aC [1000] o=true)(h2:uQ h vs=some us)(h3:wX (bo rs us)=r):wd rs 1 h vs=some (r,[o]):=by
 have hp:cU 1=[1000]:=rfl;unfold wd;rw[h0,hp,h2,if_pos (by grind[kD])];grind
theorem zK(x:Value):lj (.v x)=.v x:=rfl
theorem xQ(k:Nat)(r:List (List AV)):lj (.osl k r)=.sl k r:=rfl
theorem AO:lj .emp=.emp:=rfl
theorem alv{v e:Int}{l:List Rt}:wX (bo [[.o 0 [],.o 5 [.o 2 [],.o 0 [],.o 2 [],.o 0 []]],[]] [.agg [I v,.sl 4 (aH l)],I e])=pV (⟨v,l⟩,e):=by
 have h:=Kp l;show AV.tup [.agg [I v,.sl 4 ((aH l).map _)],I e]=_;rw[h];rfl
theorem agu{v e:Int}{c:AV}{l:List Rt}(hc:nj c l)(he:e≠0):R F.poly_collector_done [.ref 1000 none 0 0 0] [t3 v c e]=some (pV (p0,e),[t3 v c e]):=by
 refine vT bw.2.1 bw.2.2 (bw.1.2.2.2 false) rfl ?_;have e1:(e=0)=False:=ff he;simp only[fw,iJ,t3,go_sem,e1];exact rO rfl (by rfl) ((jn hc).cl _) (by rfl) (by rfl)
theorem agv{v:Int}{l:List Rt}:R F.poly_collector_done [.ref 1000 none 0 0 0] [t3 v (.osl 4 (aH l)) 0]=some (pV (lE v (some l)),[if 500<l.length then t3 v (.osl 4 (aH l)) 0 else .bx [I v,.sl 4 (aH l),I 0]]):=by
 refine vT bw.2.1 bw.2.2 (bw.1.2.2.2 false) rfl ?_;unfold lE;by_cases h:500<l.length
 ·have e1:(500< (l.length:Int))=True:=tt;simp only[if_pos h];simp only[fw,iJ,t3,go_sem,e1];exact rO rfl (by rfl) rfl (by rfl) (by rfl)
 ·have e1:(500< (l.length:Int))=False:=ff;simp only[if_neg h];simp only[fw,iJ,t3,go_sem,e1,zK,xQ];exact rO rfl (by rfl) rfl (by rfl) alv
theorem agw{v:Int}:R F.poly_collector_done [.ref 1000 none 0 0 0] [t3 v .emp 0]=some (pV (lE v (some [])),[t3 v .emp 0]):=by
 refine vT bw.2.1 bw.2.2 (bw.1.2.2.2 false) rfl ?_;have e1:((500:Int)<0)=False:=ff (by decide);simp only[fw,iJ,t3,go_sem,e1];exact rO rfl (by rfl) rfl (by rfl) (by rfl)
theorem E5{v e:Int}{c:AV}{l:List Rt}{h:ac}{d id:Nat}(hh:h id=t3 v c e)(hc:nj c l)(hf:cw h (2000+8*d) 2=true):
  ∃o,bE R (az false) h d [.ref id none 0 0 0] (.fn F.poly_collector_done [] [])=some (pV (if e=0 then lE v (some l)else(p0,e)),upd h id o,[(id,true)]):=by
 have key:∃o,OC o/\bf o=true/\R F.poly_collector_done [.ref 1000 none 0 0 0] [t3 v c e]=some (pV (if e=0 then lE v (some l)else(p0,e)),[o]):=by
  by_cases he:e=0
  ·subst he;rcases hc with rfl| ⟨rfl,rfl⟩
   ·refine⟨_,?_,?_,agv⟩
    ·split
     ·exact jn (.inl rfl)
     ·exact⟨fun l=>rfl,rfl,fun g=>rfl,rfl⟩
    ·split<;>rfl
   ·exact⟨_,jn (.inr ⟨rfl,rfl⟩),rfl,agw⟩
  ·rw[if_neg he];exact⟨_,jn hc,rfl,agu hc he⟩
 obtain⟨o,h1,h2,h3⟩:=key;exact⟨o,Hz (bw.1.2.1 false) (bw.1.2.2.2 false) (as':=[]) (by rfl) rfl rfl hh (jn hc) h1 (fun _=>h2) h3 (aoh _) (by show 2<=8;decide) hf⟩
theorem YQ{a b:Rp}(oa:OkP a)(ob:OkP b):R F.poly_pair [aO a,aO b] []=some (B (E4 a b),[]):=by
 refine ax Xo rfl ?_;have h1:=qO oa;have h2:=qO ob;simp only[aO]at h1 h2;unfold E4;cases ha:vp a with
 |false=>
  rw[ha]at h1;simp only[ug,A7,aO,go_sem,h1]
 |true=>
  rw[ha]at h1;cases hb:vp b with
  |false=>
   rw[hb]at h2;simp only[ug,A7,aO,go_sem,h1,h2]
  |true=>
   rw[hb]at h2;simp only[ug,A7,aO,go_sem,h1,h2]
structure ColE (v:Int) (l ts:List Rt) (e:Int) (c':AV) (l':List Rt) (e':Int):Prop where
 c:nj c' l'
 r:(e'=0/\e=0/\gM l ts=some l')\/(e'=9/\(e=0->gM l ts=none))
theorem ColE.fin{v:Int}{ts:List Rt}{c':AV}{l':List Rt}{e':Int}(h:ColE v [] ts 0 c' l' e'):(if e'=0 then lE v (some l')else(p0,e'))=lE v (gM [] ts):=by
 rcases h.r with⟨h1,_,h2⟩| ⟨h1,h2⟩
 ·rw[if_pos h1,h2]
 ·rw[h1,if_neg (by decide),h2 rfl];rfl
theorem ColE.step{v:Int}{l ts:List Rt}{t:Rt}{c:AV}(hc:nj c l){e:Int}(he:e=0\/e=9)(hC:e=0->Cl v l/\l.length+ts.length+1<=1000000)(vt:VT v t){v':Int}:
  ∃c1 l1 e1,R F.poly_collector_add [.ref 1000 none 0 0 0,.sl 1 (aS t.exps),ae t.c] [t3 v' c e]=some (.tup [],[t3 v' c1 e1])/\nj c1 l1/\(e1=0\/e1=9)/\(e1=0->Cl v l1/\l1.length+ts.length<=1000000)/\∀c' l' e',ColE v l1 ts e1 c' l' e'->ColE v l (t::ts) e c' l' e':=by
 rcases he with rfl|rfl
 ·obtain⟨h1,h2⟩:=hC rfl;obtain⟨c1,l1,e1,g1,g2,g3⟩:=Qe (v':=v') h1 vt (by omega) hc;refine⟨c1,l1,e1,g1,g2,?_,fun h0=>?_,fun c' l' e' h=>⟨h.c,?_⟩⟩
  ·omega
  ·rcases g3 with⟨_,g⟩| ⟨g,_⟩
   ·have:=MT g;exact⟨(Kw h1 vt g).1,by omega⟩
   omega
  ·rcases g3 with⟨g,k⟩| ⟨g,k,_⟩
   ·rcases h.r with⟨q1,_,q2⟩| ⟨q1,q2⟩
    ·unfold gM;grind
    ·unfold gM;grind
   ·rcases h.r with⟨_,q1,_⟩| ⟨q1,_⟩
    ·omega
    ·unfold gM;grind
 ·refine⟨c,l,9,VN hc (by decide),hc,.inr rfl,fun h=>by omega,fun c' l' e' h=>⟨h.c,?_⟩⟩;rcases h.r with⟨_,q1,_⟩| ⟨q1,_⟩
  all_goals omega
theorem adV{v v':Int}{T:List Rt}(hT:∀t∈T,VT v t)(hn:T.length<=100000):∀ (k i:Nat),i+k=T.length->∀ (c:AV) (l:List Rt) (e:Int),nj c l->(e=0\/e=9)->(e=0->Cl v l/\l.length+k<=1000000)->
  ∀ (s:ak) (h:ac),s 4=.ref 4 none 0 0 0->s 6=.ref 2128 none 0 0 0->s 22=.sl 4 (aH T)->s 23=I T.length->s 24=I i->h 4=.bx [I 0,.emp]->h 2128=t3 v' c e->
  ∃hh c' l' e',aj 0 [4,6] (au (ai R (az false) rZ) [4,6,22,23,24] [4,2128] s h)=some (.normal,⟨upd (upd (fun _=>.any) 6 (.ref 2128 none 0 0 0)) 4 (.ref 4 none 0 0 0),hh⟩)/\
   hh 4=.bx [I 0,.emp]/\hh 2128=t3 v' c' e'/\(∀a,a≠4->a≠2128->hh a=.dead)/\ColE v l (T.drop i) e c' l' e':=by
 intro k;induction k with
 |zero=>
  intro i hi c l e hc he hC s h h4 h6 h22 h23 h24 k4 k6;have e1:((i:Int)<T.length)=False:=ff;have ho:=(jn (v:=v') (e:=e) hc).cl [4,2128];rw[ag];refine⟨?hh0,c,l,e,?_,?_,?_,?_,?_⟩;rotate_left
  ·simp only[rZ,go_sem,h4,h6,h22,h23,h24,k4,k6,ho,e1];rfl
  ·rfl
  ·rfl
  ·simp_all[azJ,if_false]
  ·rw[axi (by omega)];refine⟨hc,?_⟩;rcases he with rfl|rfl
   ·exact .inl ⟨rfl,rfl,rfl⟩
   omega
 |succ k ih=>
  intro i hi c l e hc he hC s h h4 h6 h22 h23 h24 k4 k6;have hlt:i<T.length:=by omega
  have e1:((i:Int)<T.length)=True:=tt;have e2:aW (aH T) (i:Int)=some (.ipt (bD T[i])):=eZ rfl (List.getElem?_eq_getElem hlt);have e5:IntKind.i64.wrap ((i:Int)+1)=((i+1:Nat):Int):=wi;have ho:=(jn (v:=v') (e:=e) hc).cl [4,2128];have hdl:(T.drop (i+1)).length=k:=by grind
  obtain⟨c1,l1,ee,g1,g2,g3,g4,g5⟩:=ColE.step (ts:=T.drop (i+1)) hc he (fun h=>by grind) (hT _ (axr hlt)) (v':=v');rw[hdl]at g4;have ih':=ih (i+1) (by omega) c1 l1 ee g2 g3 g4;rw[axh hlt,ag];have hcall:=fun(h:ac) (hh:h 2128=t3 v' c e) (d:Nat)=>dF (aD6.1.2.1 false) rfl (pj (d:=d) hh hc g2 g1);simp only[ae,ah]at hcall;simp only[bD]at e2;simp only[rZ,go_sem,h4,h6,h22,h23,h24,k4,k6,ho,e1,e2];rw[hcall _ rfl];simp only[go_sem,e5];refine(ih' _ _ ?_ ?_ ?_ ?_ ?_ ?_ ?_).imp fun hh ⟨c',l',e',q1,q2,q3,q4,q5⟩=>⟨c',l',e',q1,q2,q3,q4,g5 _ _ _ q5⟩
  all_goals rfl
theorem YR:O4 .emp=some (I 0):=rfl
theorem V1(h:ac):GH h .emp=h:=rfl
theorem abE:dZ 4 .emp none (some (I 0)) none=some .emp:=rfl
theorem agx{h:ac}{d:Nat}{z:List AV}{n:Nat}(h0:0<n)(h1:n<=1000000):En h d 4 64 z .emp (I n)=cX h d 4 (awO n z) n []:=by
 simp only[En];grind
theorem agy:R F.slices_Grow_api_Term_api_Term_ [.emp,I 0] []=some (.emp,[]):=by
 refine ax m9 rfl ?_;have e1:((0:Int)<0)=False:=ff (by decide);have w1:IntKind.i64.wrap ((0:Int)-0)=0:=by decide
 simp only[eN,iq,go_sem,e1,w1,YR,V1]
theorem agz{n:Nat}(h0:0<n)(h1:n<=1000000):R F.slices_Grow_api_Term_api_Term_ [.emp,I n] []=some (.osl 4 [],[]):=by
 refine ax m9 rfl ?_;have e1:((n:Int)<0)=False:=ff;have e2:(0< (n:Int))=True:=tt;have w0:IntKind.i64.wrap ((0:Int)-0)=0:=by decide
 have w1:IntKind.i64.wrap ((n:Int)-0)=(n:Int):=wi;have e5:dZ 4 (.rsl 22 none 4 0 n) none (some (I 0)) none=some (.rsl 22 none 4 0 0):=by
  simp[dZ,jT,jL]
 have e4:=fun h d z=>agx (h:=h) (d:=d) (z:=z) h0 h1;simp only[eN,iq,go_sem,e1,e2,e4,w0,w1,YR,V1,abE,e5,List.take_zero]
 done
theorem adW{a b:List Rt}(ha:a.length<=100000)(hb:b.length<=100000):R F.slices_Concat_api_Term_api_Term_ [.sl 1 [[.sl 4 (aH a)],[.sl 4 (aH b)]]] []=some (.sl 4 (aH (a++b)),[]):=by
 refine ax wv rfl ?_;have w1:IntKind.i64.wrap ((0:Int)+(a.length:Int))=(a.length:Int):=wi;have w2:IntKind.i64.wrap ((a.length:Int)+(b.length:Int))=((a.length+b.length:Nat):Int):=wi;have e1:((a.length:Int)<0)=False:=ff;have e2:(((a.length+b.length:Nat):Int)<0)=False:=ff;have c1:((0:Int)< ((0+1+1:Nat):Int))=True:=tt (by decide);have c2:((1:Int)< ((0+1+1:Nat):Int))=True:=tt (by decide);have c3:((2:Int)< ((0+1+1:Nat):Int))=False:=ff (by decide);have r0:aW [[AV.sl 4 (aH a)],[.sl 4 (aH b)]] 0=some (.ipt [.sl 4 (aH a)]):=rfl;have r1:aW [[AV.sl 4 (aH a)],[.sl 4 (aH b)]] 1=some (.ipt [.sl 4 (aH b)]):=rfl;have i1:IntKind.i64.wrap ((0:Int)+1)=1:=by decide
 have i2:IntKind.i64.wrap ((1:Int)+1)=2:=by decide
 simp only[go,lI,go_sem,axE,axI];rw[ag];simp only[ko,go_sem,c1,r0,w1,e1,i1];rw[ag];simp only[go_sem,c2,r1,w2,e2,i2];rw[ag];simp only[go_sem,c3];by_cases hz:a.length+b.length=0
 ·have ea:a=[]:=List.length_eq_zero_iff.1 (by omega);have eb:b=[]:=List.length_eq_zero_iff.1 (by omega);subst ea eb;have hg:=agy;have a0:∀h d,LV h d 4 64 .emp (.sl 4 [])=some (.emp,h,[]):=fun h d=>rfl;have hcr:kR (fun _=>.dead) 24 (some (.emp,[]))=some (.emp,fun _=>.dead,[]):=rfl;rw[show aH []=[]from rfl]at*
  simp only[go_sem,hg,hcr,axI,axo,axB];rw[ag];simp only[fM,go_sem,c1,r0,i1,a0];rw[ag];simp only[go_sem,c2,r1,i2,a0];rw[ag];rfl
 ·have hg:=agz (n:=a.length+b.length) (by omega) (by omega);have b1:(a.length*64<=140737488355328)=True:=tt;have b2:((a.length+b.length)*64<=140737488355328)=True:=tt;simp only[go_sem,hg,axI];rw[ag];simp only[fM,go_sem,c1,r0,i1,b1,or_true,awP,axc,axI];rw[ag];simp only[go_sem,c2,r1,i2,b2,or_true];rw[ag];simp only[go_sem,c3,awP];have hl:(aH a++aH b).length=a.length+b.length:=by grind[axG,sW]
  have hab:aH a++aH b=aH (a++b):=by simp[aH]
  rw[hl,if_pos (awQ _),if_pos rfl,hab];have h:=Kp (a++b);show some (AV.sl 4 ((aH (a++b)).map _),[])=_;rw[h]
theorem qR(h:ac)(d:Nat)(v:Int):kR h d (some (.obx [I v,.emp,I 0],[]))=if bS (h (2000+8*d))=true then some (.ref (2000+8*d) none 0 0 0,upd h (2000+8*d) (.bx [I v,.emp,I 0]),[])else none:=by
 simp[kR,cz,cw,iW,aEt,lS,aD,bq,mat,dG]
theorem alx{v v':Int}{T:List Rt}(hT:∀t∈T,VT v t)(hn:T.length<=100000)(s:ak)(h:ac)(X:Option (Ex×St))(hX:aj 0 [4,6] (au (ai R (az false) rZ) [4,6,22,23,24] [4,2128] s h)=X)(h4:s 4=.ref 4 none 0 0 0)(h6:s 6=.ref 2128 none 0 0 0)(h22:s 22=.sl 4 (aH T))(h23:s 23=I T.length)(h24:s 24=I 0)(k4:h 4=.bx [I 0,.emp])(k6:h 2128=t3 v' .emp 0):
  ∃hh c' l' e',X=some (.normal,⟨upd (upd (fun _=>.any) 6 (.ref 2128 none 0 0 0)) 4 (.ref 4 none 0 0 0),hh⟩)/\
   hh 4=.bx [I 0,.emp]/\hh 2128=t3 v' c' e'/\(∀a,a≠4->a≠2128->hh a=.dead)/\ColE v [] T 0 c' l' e':=by
 subst hX;exact adV hT hn T.length 0 (awP _) .emp [] 0 (.inr ⟨rfl,rfl⟩) (.inl rfl) (fun _=>⟨Cl.nil _,by grind⟩) s h h4 h6 h22 h23 h24 k4 k6
theorem ai7{a b:Rp}(oa:OkP a)(ob:OkP b):R F.poly_Add [aO a,aO b] []=some (pV (Cd a b),[]):=by
 refine ax aaS rfl ?_;have hp:=YQ oa ob;simp only[aO]at hp;unfold Cd;cases hb:E4 a b with
 |false=>
  rw[hb]at hp;simp only[aDQ,G4,aO,go_sem,hp];rfl
 |true=>
  rw[hb]at hp;obtain⟨va,vb,hv⟩:=qQ.1 hb;obtain⟨ca,a0,a8,al⟩:=il oa va;obtain⟨cb,b0,b8,bl⟩:=il ob vb;rw[←hv]at cb;have hT:∀t∈a.terms++b.terms,VT a.vars t:=fun t ht=>by
   rcases List.mem_append.1 ht with ht|ht
   ·exact ca.t t ht
   ·exact cb.t t ht
  have hemp:=AN (v:=a.vars);have hcat:=adW (a:=a.terms) (b:=b.terms) (by omega) (by omega);have hl:=alx (v':=a.vars) hT (by grind);simp only[aDQ,G4,aO,go_sem,hp,hemp,qR,hcat,axE,axI];generalize hX:aj 0 [4,6] _=X;obtain⟨hh,c',l',e',rfl,q2,q3,q4,q5⟩:=hl _ _ _ hX rfl rfl rfl rfl rfl rfl rfl;obtain⟨o,hd⟩:=E5 (d:=36) q3 q5.c (by grind[cw,bS]);have hd':=dF (bw.1.2.1 false) rfl hd;rw[q5.fin]at hd';simp only[pV,aO,go_sem,q2,hd']
theorem azN{v:Int}{t:Rt}(vt:VT v t):R F.dyadic_Neg [ae t.c] []=some (ae (ayL t).c,[]):=by
 have h:=Gl vt.c;have hvc:=vt.vc;rw[if_neg (by rw[hvc];exact fun h=>h.elim (fun h=>by cases h) vt.nz)]at h;exact h
def t2(v:Int)(c:AV):Ob:=.bx [I v,c]
theorem azG{v:Int}{c:AV}{l:List Rt}(hc:nj c l)(ids:List Nat):aC ids (t2 v c)=true:=by
 rcases hc with rfl| ⟨rfl,_⟩<;>rfl
theorem azk{v v':Int}{a:Rp}{T:List Rt}(hT:∀t∈T,VT v t)(hn:T.length<=100000){o3:Ob}(ho3:aC [2,3,4,6] o3=true):∀ (k i:Nat),i+k=T.length->∀ (c:AV),nj c ((T.take i).map ayL)->
  ∀ (s:ak) (h:ac),s 2=.ref 2 none 0 0 0->s 4=.ref 4 none 0 0 0->s 6=.ref 6 none 0 0 0->s 18=.sl 4 (aH T)->s 19=I T.length->s 20=I i->h 2=.bx [I a.vars,.sl 4 (aH a.terms)]->h 3=o3->h 4=.bx [I 0,.emp]->h 6=t2 v' c->
  ∃hh c',aj 0 [2,4,6] (au (ai R (az false) ayf) [2,4,6,18,19,20] [2,3,4,6] s h)=some (.normal,⟨upd (upd (upd (fun _=>.any) 6 (.ref 6 none 0 0 0)) 4 (.ref 4 none 0 0 0)) 2 (.ref 2 none 0 0 0),hh⟩)/\
   hh 2=.bx [I a.vars,.sl 4 (aH a.terms)]/\hh 4=.bx [I 0,.emp]/\hh 6=t2 v' c'/\(∀a,a≠2->a≠3->a≠4->a≠6->hh a=.dead)/\nj c' (T.map ayL):=by
 intro k;induction k with
 |zero=>
  intro i hi c hc s h h2 h4 h6 h18 h19 h20 k2 k3 k4 k6;have e1:((i:Int)<T.length)=False:=ff;rw[axg (by omega)]at hc;have ho:=azG (v:=v') hc [2,3,4,6];rw[ag];refine⟨?hh0,c,?_,?_,?_,?_,?_,hc⟩;rotate_left
  ·simp only[ayf,go_sem,h2,h4,h6,h18,h19,h20,k2,k3,k4,k6,ho,ho3,e1];rfl
  ·rfl
  ·rfl
  ·rfl
  ·intro a a1 a2 a3 a4;simp only[azJ,a1,a2,a3,a4,if_false]
 |succ k ih=>
  intro i hi c hc s h h2 h4 h6 h18 h19 h20 k2 k3 k4 k6;have hlt:i<T.length:=by omega
  have e1:((i:Int)<T.length)=True:=tt;have e2:aW (aH T) (i:Int)=some (.ipt (bD T[i])):=eZ rfl (List.getElem?_eq_getElem hlt);have e5:IntKind.i64.wrap ((i:Int)+1)=((i+1:Nat):Int):=wi;have hng:=azN (hT _ (axr hlt));have ho:=azG (v:=v') hc [2,3,4,6];have ih':=ih (i+1) (by omega);rw[List.take_succ_eq_append_getElem hlt,List.map_append,List.map_singleton]at ih';have hlen:((T.take i).map ayL).length=i:=by rw[List.length_map,axd];omega
  generalize T[i]=t at e2 hng ih';generalize(T.take i).map ayL=l at hc ih' hlen;rw[ag];generalize au _ _ _=L at ih'⊢;simp only[ae,ah,ayL]at hng;simp only[bD]at e2;rcases hc with rfl| ⟨rfl,rfl⟩
  ·simp only[t2]at k6;have b1:((l.length+1)*64<=140737488355328)=True:=tt;simp only[ayf,go_sem,h2,h4,h6,h18,h19,h20,k2,k3,k4,k6,ho3,e1,e2,hng,b1,true_or];rw[if_pos (by rfl),CJ rfl (by rw[axG,sW];rfl) rfl (by decide) (by show 1<2;decide)];simp only[go_sem,e5];refine(ih' (.osl 4 (aH l++[[.sl 1 (aS t.exps),B (!t.c.neg),lm t.c.m,I t.c.e]])) (.inl ?_) _ _ ?_ ?_ ?_ ?_ ?_ ?_ ?_ ?_ ?_ ?_).imp fun hh ⟨c',q⟩=>⟨c',q⟩
   ·simp[aH,bD,ayL]
   all_goals rfl
  ·simp only[t2]at k6;simp only[ayf,go_sem,h2,h4,h6,h18,h19,h20,k2,k3,k4,k6,ho3,e1,e2,hng];rw[if_pos (by rfl),CJ rfl (show 1=List.length [[AV.sl 1 (aS t.exps),B (!t.c.neg),lm t.c.m,I t.c.e]]from rfl) rfl (by decide) (by show 1<2;decide)];simp only[go_sem,e5];refine(ih' (.osl 4 [[.sl 1 (aS t.exps),B (!t.c.neg),lm t.c.m,I t.c.e]]) (.inl ?_) _ _ ?_ ?_ ?_ ?_ ?_ ?_ ?_ ?_ ?_ ?_).imp fun hh ⟨c',q⟩=>⟨c',q⟩
   all_goals rfl
theorem azZ{v v':Int}{a:Rp}{T:List Rt}(hT:∀t∈T,VT v t)(hn:T.length<=100000){o3:Ob}(ho3:aC [2,3,4,6] o3=true)(s:ak)(h:ac)(X:Option (Ex×St))(hX:aj 0 [2,4,6] (au (ai R (az false) ayf) [2,4,6,18,19,20] [2,3,4,6] s h)=X)
  (h2:s 2=.ref 2 none 0 0 0) (h4:s 4=.ref 4 none 0 0 0) (h6:s 6=.ref 6 none 0 0 0) (h18:s 18=.sl 4 (aH T)) (h19:s 19=I T.length) (h20:s 20=I 0) (k2:h 2=.bx [I a.vars,.sl 4 (aH a.terms)]) (k3:h 3=o3) (k4:h 4=.bx [I 0,.emp]) (k6:h 6=.bx [I v',.emp]):
  ∃hh c',X=some (.normal,⟨upd (upd (upd (fun _=>.any) 6 (.ref 6 none 0 0 0)) 4 (.ref 4 none 0 0 0)) 2 (.ref 2 none 0 0 0),hh⟩)/\
   hh 2=.bx [I a.vars,.sl 4 (aH a.terms)]/\hh 4=.bx [I 0,.emp]/\hh 6=t2 v' c'/\(∀a,a≠2->a≠3->a≠4->a≠6->hh a=.dead)/\nj c' (T.map ayL):=by
 subst hX;exact azk hT hn ho3 T.length 0 (awP _) .emp (.inr ⟨rfl,rfl⟩) s h h2 h4 h6 h18 h19 h20 k2 k3 k4 k6
theorem azO{a b:Rp}(_oa:OkP a)(ob:OkP b)(h:E4 a b=true):OkP ⟨b.vars,b.terms.map ayL⟩/\Cd a ⟨b.vars,b.terms.map ayL⟩=ayM a b:=by
 obtain⟨va,vb,hv⟩:=qQ.1 h;obtain⟨cb,b0,b8,bl⟩:=il ob vb;have hp:∀l:List Rt,Cl b.vars l->Cl b.vars (l.map ayL):=by
  intro l;induction l with
  |nil=>exact fun c=>c
  |cons t l ih=>
   intro c;obtain⟨c1,c2,c3⟩:=c.cons;refine Cl.mk' (ay0 c1) (fun x hx=>?_) (ih c3);obtain⟨q,hq,rfl⟩:=List.mem_map.1 hx;exact c2 q hq
 have hn:=hp _ cb;refine⟨jR hn,?_⟩;have h2:E4 a ⟨b.vars,b.terms.map ayL⟩=true:=qQ.2 ⟨va,CI hn b0 b8 (by rw[List.length_map];exact bl),hv⟩;unfold Cd ayM;rw[if_pos h2,if_pos h]
theorem azg{a b:Rp}(oa:OkP a)(ob:OkP b):R F.poly_Sub [aO a,aO b] []=some (pV (ayM a b),[]):=by
 refine ax aze rfl ?_;have hp:=YQ oa ob;simp only[aO]at hp;cases hb:E4 a b with
 |false=>
  rw[hb]at hp;unfold ayM;rw[hb,if_neg awW];simp only[ayz,ayF,aO,go_sem,hp];rfl
 |true=>
  rw[hb]at hp;obtain⟨va,vb,hv⟩:=qQ.1 hb;obtain⟨cb,b0,b8,bl⟩:=il ob vb;obtain⟨on,e1⟩:=azO oa ob hb;have hadd:=ai7 oa on;rw[e1]at hadd;have hl:=azZ (v':=b.vars) (a:=a) (T:=b.terms) cb.t (by omega) (o3:=.bx [I b.vars,.sl 4 (aH b.terms)]) rfl;simp only[ayz,ayF,aO,go_sem,hp];generalize hX:aj 0 [2,4,6] _=X;obtain⟨hh,c',rfl,q2,q3,q4,q5,q6⟩:=hl _ _ _ hX rfl rfl rfl rfl rfl rfl rfl rfl rfl rfl;have d1:hh 2304=.dead:=q5 _ (by decide) (by decide) (by decide) (by decide);have d2:hh 2305=.dead:=q5 _ (by decide) (by decide) (by decide) (by decide);generalize ayM a b=r at hadd⊢;obtain⟨r1,r2⟩:=r;simp only[pV,aO]at hadd;rcases q6 with rfl| ⟨rfl,q6⟩
  ·simp only[t2]at q4;simp only[pV,aO,go_sem,q2,q3,q4,d1,d2,zK,xQ,hadd]
  ·simp only[t2]at q4;rw[q6]at hadd;rw[show aH []=[]from rfl]at hadd;simp only[pV,aO,go_sem,q2,q3,q4,d1,d2,hadd]
theorem lmB(m:List Nat):(aB m).map (fun r=>match r with|[.v (.int _ x)]=>x.toNat|_=>0)=m:=by
 grind[aB,List.map_map,axy,axN]
theorem izB(m:List Int):(aS m).map (fun r=>match r with|[.v (.int _ x)]=>x|_=>0)=m:=by
 grind[aS,List.map_map,axy,axN]
def tmB:List AV->Rt
 |[.sl _ m1,.v (.bool n2),.sl _ m2,.v (.int _ e2)]=>⟨m1.map (fun r=>match r with|[.v (.int _ x)]=>x|_=>0),⟨n2,m2.map (fun r=>match r with|[.v (.int _ x)]=>x.toNat|_=>0),e2⟩⟩
 |_=>⟨[],aI⟩
theorem aoj(t:Rt):tmB (bD t)=t:=by
 show(⟨(aS t.exps).map _,⟨t.c.neg,(aB t.c.m).map _,t.c.e⟩⟩:Rt)=t;rw[lmB,izB]
def plC(a:Rp):List AV:=[I a.vars,.sl 4 (aH a.terms)]
def plR(l:List Rp):List (List AV):=l.map plC
@[go_sem] theorem auS(l:List Rp):(plR l).length=l.length:=by simp[plR]
@[go_sem] theorem aso(l:List Rt):(aH l).map (dK [.o 2 [],.o 0 [],.o 0 [],.o 0 []])=aH l:=by
 refine qN fun x hx=>?_;simp only[aH,axR]at hx;obtain⟨t,ht,rfl⟩:=hx;simp only[bD,go_sem]
@[go_sem] theorem auT(l:List Rp):(plR l).map (dK [.o 0 [],.o 5 [.o 2 [],.o 0 [],.o 0 [],.o 0 []]])=plR l:=by
 refine qN fun x hx=>?_;simp only[plR,axR]at hx;obtain⟨t,ht,rfl⟩:=hx;simp only[plC,go_sem]
structure Res (r:Rp×Int):Prop where
 cl:Cl r.1.vars r.1.terms
 len:r.1.terms.length<=100000
 z:r.2=0\/r.1=p0
theorem YT(l:List Int)(n:Nat)(x:Int):(aS l).set n [I x]=aS (l.set n x):=by simp[aS,List.map_set]
theorem agC{a b:List Int}{i:Nat}{x y:Int}(hx:a[i]?=some x)(hy:b[i]?=some y):(jl a b)[i]?=some (x+y):=by
 unfold jl;rw[List.getElem?_zipWith,hx,hy]
def Ij(a b:List Int)(i:Nat):List Int:=(jl a b).take i++a.drop i
theorem aja{a b:List Int}(h:a.length=b.length){i:Nat}{x:Int}(hx:a[i]?=some x):(Ij a b i)[i]?=some x:=by
 have hlt:=(List.getElem?_eq_some_iff.1 hx).1;unfold Ij;rw[List.getElem?_append_right (by rw[axd,xO h];omega),axd,xO h,List.getElem?_drop,show i+(i-min i a.length)=i by omega];exact hx
theorem ajb{a b:List Int}(h:a.length=b.length){i:Nat}{x y:Int}(hx:a[i]?=some x)(hy:b[i]?=some y):(Ij a b i).set i (x+y)=Ij a b (i+1):=by
 have hlt:=(List.getElem?_eq_some_iff.1 hx).1;have hg:=agC hx hy;have hlen:=xO h;unfold Ij;have ht:((jl a b).take i).length=i:=by rw[axd];omega
 rw[List.set_append_right _ _ (by omega),ht,Nat.sub_self,axh hlt,List.set_cons_zero,List.take_succ_eq_append_getElem (by omega:i< (jl a b).length),axL];have:=(List.getElem?_eq_some_iff.1 hg).2;rw[this];rfl
theorem ajc{a b:List Int}(h:a.length=b.length){i:Nat}(hi:a.length<=i):Ij a b i=jl a b:=by
 unfold Ij;rw[axg (by rw[xO h];omega),axi hi,axe]
theorem ad0{v:Int}{p q:Rt}(vp:VT v p)(vq:VT v q){A Bt:List Rt}{nA iA nB iB:Int}{o2 o3 o4 o8 o10 o11 o2352:Ob}(c2:aC [2,3,4,8,10,11,2352,2576] o2=true)(c3:aC [2,3,4,8,10,11,2352,2576] o3=true)(c4:aC [2,3,4,8,10,11,2352,2576] o4=true)(c8:aC [2,3,4,8,10,11,2352,2576] o8=true)(c10:aC [2,3,4,8,10,11,2352,2576] o10=true)(c11:aC [2,3,4,8,10,11,2352,2576] o11=true)(cc:aC [2,3,4,8,10,11,2352,2576] o2352=true):
  ∀ (k i:Nat),i+k=p.exps.length->∀ (s:ak) (h:ac),s 3=.ref 3 none 0 0 0->s 4=.ref 4 none 0 0 0->s 6=.ref 2352 none 0 0 0->s 8=.ref 8 none 0 0 0->s 11=.ref 11 none 0 0 0->s 13=.rsl 2576 none 1 0 p.exps.length->s 46=.sl 4 (aH A)->s 47=I nA->s 48=I iA->s 53=.sl 4 (aH Bt)->s 54=I nB->s 55=I iB->s 74=.sl 1 (aS q.exps)->s 75=I q.exps.length->s 76=I i->h 2=o2->h 3=o3->h 4=o4->h 8=o8->h 10=o10->h 11=o11->h 2352=o2352->h 2576=.ar 1 (aS (Ij p.exps q.exps i))->
  ∃hh,aj 5 [3,4,6,8,11,13,46,47,48,53,54,55] (au (ai R (az false) jz) [3,4,6,8,11,13,46,47,48,53,54,55,74,75,76] [2,3,4,8,10,11,2352,2576] s h)=some (.normal,⟨upd (upd (upd (upd (upd (upd (upd (upd (upd (upd (upd (upd (fun _=>.any) 55 (I iB)) 54 (I nB)) 53 (.sl 4 (aH Bt))) 48 (I iA)) 47 (I nA)) 46 (.sl 4 (aH A))) 13 (.rsl 2576 none 1 0 p.exps.length)) 11 (.ref 11 none 0 0 0)) 8 (.ref 8 none 0 0 0)) 6 (.ref 2352 none 0 0 0)) 4 (.ref 4 none 0 0 0)) 3 (.ref 3 none 0 0 0),hh⟩)/\
   hh 2=o2/\hh 3=o3/\hh 4=o4/\hh 8=o8/\hh 10=o10/\hh 11=o11/\hh 2352=o2352/\hh 2576=.ar 1 (aS (jl p.exps q.exps))/\∀a,a≠2->a≠3->a≠4->a≠8->a≠10->a≠11->a≠2352->a≠2576->hh a=.dead:=by
 have hl:=vp.l2 vq;have hs:=vp.ok.len;intro k;induction k with
 |zero=>
  intro i hi s h g3 g4 g6 g8 g11 g13 g46 g47 g48 g53 g54 g55 g74 g75 g76 k2 k3 k4 k8 k10 k11 k2352 k2576;have e1:((i:Int)< (q.exps.length:Int))=False:=ff;rw[ajc hl (by omega)]at k2576;rw[ag];refine⟨?hh0,?_,?_,?_,?_,?_,?_,?_,?_,?_,?_⟩;rotate_left
  ·simp only[jz,go_sem,g3,g4,g6,g8,g11,g13,g46,g47,g48,g53,g54,g55,g74,g75,g76,k2,k3,k4,k8,k10,k11,k2352,k2576,c2,c3,c4,c8,c10,c11,cc,e1];rfl
  all_goals first|rfl| (intro a a1 a2 a3 a4 a5 a6 a7 a8;simp only[azJ,a1,a2,a3,a4,a5,a6,a7,a8,if_false])
 |succ k ih=>
  intro i hi s h g3 g4 g6 g8 g11 g13 g46 g47 g48 g53 g54 g55 g74 g75 g76 k2 k3 k4 k8 k10 k11 k2352 k2576;have hlt:i<p.exps.length:=by omega
  have hlt2:i<q.exps.length:=by omega
  have e1:((i:Int)< (q.exps.length:Int))=True:=tt;have hq:q.exps[i]?=some q.exps[i]:=List.getElem?_eq_getElem hlt2;have hp:p.exps[i]?=some p.exps[i]:=List.getElem?_eq_getElem hlt;have e2:aW (aS q.exps) (i:Int)=some (.ipt [I q.exps[i]]):=nZ rfl hq;have e3:=aja hl hp (b:=q.exps);have e3':(aS (Ij p.exps q.exps i))[i]?=some [I p.exps[i]]:=by simp[aS,e3]
  have e4:=ajb hl hp hq;have b1:=vp.b _ (axr hlt);have b2:=vq.b _ (axr hlt2);have e5:IntKind.i64.wrap ((i:Int)+1)=((i+1:Nat):Int):=wi;have e6:(0<=(i:Int)/\(i:Int)< (p.exps.length:Int))=True:=eq_true ⟨by omega,by omega⟩;have e7:IntKind.i64.wrap (p.exps[i]+q.exps[i])=p.exps[i]+q.exps[i]:=i64_in _ ⟨by omega,by omega⟩;have ih':=ih (i+1) (by omega);rw[←e4,←YT]at ih';generalize p.exps[i]=x at e3' e7 ih';generalize q.exps[i]=y at e2 e7 ih';rw[ag];generalize au _ _ _=L at ih'⊢;simp only[jz,go_sem,g3,g4,g6,g8,g11,g13,g46,g47,g48,g53,g54,g55,g74,g75,g76,k2,k3,k4,k8,k10,k11,k2352,k2576,c2,c3,c4,c8,c10,c11,cc,e1,e2,e3',e5,e6,e7,awY,awP];exact ih' _ _ rfl rfl rfl rfl rfl rfl rfl rfl rfl rfl rfl rfl rfl rfl rfl rfl rfl rfl rfl rfl rfl rfl rfl
theorem alA{v:Int}{p q:Rt}(vp:VT v p)(vq:VT v q){A Bt:List Rt}{nA iA nB iB:Int}{o2 o3 o4 o8 o10 o11 o2352:Ob}(s:ak)(h:ac)(X:Option (Ex×St))(hX:aj 5 [3,4,6,8,11,13,46,47,48,53,54,55] (au (ai R (az false) jz) [3,4,6,8,11,13,46,47,48,53,54,55,74,75,76] [2,3,4,8,10,11,2352,2576] s h)=X)
  (g3:s 3=.ref 3 none 0 0 0) (g4:s 4=.ref 4 none 0 0 0) (g6:s 6=.ref 2352 none 0 0 0) (g8:s 8=.ref 8 none 0 0 0) (g11:s 11=.ref 11 none 0 0 0) (g13:s 13=.rsl 2576 none 1 0 p.exps.length) (g46:s 46=.sl 4 (aH A)) (g47:s 47=I nA) (g48:s 48=I iA) (g53:s 53=.sl 4 (aH Bt)) (g54:s 54=I nB) (g55:s 55=I iB) (g74:s 74=.sl 1 (aS q.exps)) (g75:s 75=I q.exps.length) (g76:s 76=I 0) (k2:h 2=o2) (k3:h 3=o3) (k4:h 4=o4) (k8:h 8=o8) (k10:h 10=o10) (k11:h 11=o11) (k2352:h 2352=o2352) (k2576:h 2576=.ar 1 (aS p.exps)) (c2:aC [2,3,4,8,10,11,2352,2576] o2=true) (c3:aC [2,3,4,8,10,11,2352,2576] o3=true) (c4:aC [2,3,4,8,10,11,2352,2576] o4=true) (c8:aC [2,3,4,8,10,11,2352,2576] o8=true) (c10:aC [2,3,4,8,10,11,2352,2576] o10=true) (c11:aC [2,3,4,8,10,11,2352,2576] o11=true) (c2352:aC [2,3,4,8,10,11,2352,2576] o2352=true):
  ∃hh,X=some (.normal,⟨upd (upd (upd (upd (upd (upd (upd (upd (upd (upd (upd (upd (fun _=>.any) 55 (I iB)) 54 (I nB)) 53 (.sl 4 (aH Bt))) 48 (I iA)) 47 (I nA)) 46 (.sl 4 (aH A))) 13 (.rsl 2576 none 1 0 p.exps.length)) 11 (.ref 11 none 0 0 0)) 8 (.ref 8 none 0 0 0)) 6 (.ref 2352 none 0 0 0)) 4 (.ref 4 none 0 0 0)) 3 (.ref 3 none 0 0 0),hh⟩)/\hh 2=o2/\hh 3=o3/\hh 4=o4/\hh 8=o8/\hh 10=o10/\hh 11=o11/\hh 2352=o2352/\hh 2576=.ar 1 (aS (jl p.exps q.exps))/\∀a,a≠2->a≠3->a≠4->a≠8->a≠10->a≠11->a≠2352->a≠2576->hh a=.dead:=by
 subst hX;have hc:Ij p.exps q.exps 0=p.exps:=by simp[Ij]
 rw[←hc]at k2576;exact ad0 vp vq c2 c3 c4 c8 c10 c11 c2352 p.exps.length 0 (awP _) s h g3 g4 g6 g8 g11 g13 g46 g47 g48 g53 g54 g55 g74 g75 g76 k2 k3 k4 k8 k10 k11 k2352 k2576
theorem ColE.stepN{v:Int}{l:List Rt}{t:Rt}{c:AV}(hc:nj c l){e:Int}(he:e=0\/e=9)(N:Nat)(hC:e=0->Cl v l/\l.length+N+1<=1000000)(vt:VT v t){v':Int}:
  ∃c1 l1 e1,R F.poly_collector_add [.ref 1000 none 0 0 0,.sl 1 (aS t.exps),ae t.c] [t3 v' c e]=some (.tup [],[t3 v' c1 e1])/\nj c1 l1/\(e1=0\/e1=9)/\(e1=0->Cl v l1/\l1.length+N<=1000000)/\∀ts c' l' e',ColE v l1 ts e1 c' l' e'->ColE v l (t::ts) e c' l' e':=by
 obtain⟨c1,l1,e1,g1,g2,g3,g4,_⟩:=ColE.step (ts:=awO N t) hc he (by rw[ax1];exact hC) vt (v':=v');rw[ax1]at g4;refine⟨c1,l1,e1,g1,g2,g3,g4,fun ts c' l' e' h=>?_⟩;rcases he with rfl|rfl
 ·obtain⟨h1,h2⟩:=hC rfl;obtain⟨c2,l2,e2,k1,k2,k3⟩:=Qe (v':=v') h1 vt (by omega) hc;rw[k1]at g1;simp only[Option.some.injEq,Prod.mk.injEq,List.cons.injEq,and_true,true_and,t3,Ob.bx.injEq,AV.v.injEq,Value.int.injEq]at g1;obtain⟨rfl,rfl⟩:=g1;have hl:l2=l1:=by
   rcases k2 with rfl| ⟨rfl,rfl⟩
   ·rcases g2 with g2| ⟨g2,_⟩
    ·simp only[AV.osl.injEq,true_and]at g2;have:=congrArg (List.map tmB) g2;unfold aH at this;rw[List.map_map,List.map_map]at this;have hid:∀l:List Rt,l.map (tmB∘bD)=l:=fun l=>(axy (g:=fun c=>c) fun x _=>aoj x).trans (axN l);rw[hid,hid]at this;exact this
    ·cases g2
   ·rcases g2 with g2| ⟨_,g2⟩
    ·cases g2
    ·exact g2.symm
  subst hl;refine⟨h.c,?_⟩;rcases k3 with⟨g,k⟩| ⟨g,k,_⟩
  ·subst g;rcases h.r with⟨q1,_,q2⟩| ⟨q1,q2⟩
   ·refine .inl ⟨q1,rfl,?_⟩;unfold gM;rw[k];exact q2
   ·refine .inr ⟨q1,fun _=>?_⟩;unfold gM;rw[k];exact q2 rfl
  ·subst g;rcases h.r with⟨_,q1,_⟩| ⟨q1,_⟩
   ·omega
   ·refine .inr ⟨q1,fun _=>?_⟩;unfold gM;rw[k];rfl
 ·refine⟨h.c,?_⟩;have:=VN (v:=v') (x:=.sl 1 (aS t.exps)) (d:=t.c) hc (by decide:(9:Int)≠0);rw[this]at g1;simp only[Option.some.injEq,Prod.mk.injEq,List.cons.injEq,and_true,true_and,t3,Ob.bx.injEq,AV.v.injEq,Value.int.injEq]at g1;obtain⟨_,rfl⟩:=g1;rcases h.r with⟨_,q1,_⟩| ⟨q1,_⟩
  ·omega
  ·exact .inr ⟨q1,fun h=>by omega⟩
def HA(blk:Option (Ex×St))(S:ak)(o2 o3:Ob)(v v':Int)(l:List Rt)(e:Int):Option (List Rt)->Prop
 |some r=>∃hh c' l' e',blk=some (.normal,⟨S,hh⟩)/\hh 2=o2/\hh 3=o3/\hh 4=.bx [I 0,.emp]/\hh 2352=t3 v' c' e'/\(∀a,a≠2->a≠3->a≠4->a≠8->a≠2352->hh a=.dead)/\ColE v l r e c' l' e'
 |none=>∃hh,blk=some (.ret,⟨upd (upd (fun _=>.any) 5 (I 9)) 4 (.ref 4 none 0 0 0),hh⟩)/\hh 4=.bx [I 0,.emp]
theorem ad1{v v':Int}{p:Rt}(vp:VT v p){A Bt:List Rt}(hB:∀q∈Bt,VT v q/\bh p.exps+bh q.exps<=32)(hn:Bt.length<=100000){nA iA:Int}{o2:Ob}(c2:∀ids,aC ids o2=true){vb:Int}:
  ∀ (k i:Nat),i+k=Bt.length->∀ (c:AV) (l:List Rt) (e:Int),nj c l->(e=0\/e=9)->(e=0->Cl v l/\l.length+k<=1000000)->∀ (s:ak) (h:ac),s 3=.ref 3 none 0 0 0->s 4=.ref 4 none 0 0 0->s 6=.ref 2352 none 0 0 0->s 8=.ref 8 none 0 0 0->s 46=.sl 4 (aH A)->s 47=I nA->s 48=I iA->s 53=.sl 4 (aH Bt)->s 54=I Bt.length->s 55=I i->h 2=o2->h 3=.bx [I vb,.sl 4 (aH Bt)]->h 4=.bx [I 0,.emp]->h 8=.bx (bD p)->h 2352=t3 v' c e->
  HA (aj 3 [3,4,6,46,47,48] (au (ai R (az false) jA) [3,4,6,8,46,47,48,53,54,55] [2,3,4,8,2352] s h)) (upd (upd (upd (upd (upd (upd (fun _=>.any) 48 (I iA)) 47 (I nA)) 46 (.sl 4 (aH A))) 6 (.ref 2352 none 0 0 0)) 4 (.ref 4 none 0 0 0)) 3 (.ref 3 none 0 0 0)) o2 (.bx [I vb,.sl 4 (aH Bt)]) v v' l e (kN p (Bt.drop i)):=by
 intro k;induction k with
 |zero=>
  intro i hi c l e hc he hC s h g3 g4 g6 g8 g46 g47 g48 g53 g54 g55 k2 k3 k4 k8 k2352;have e1:((i:Int)< (Bt.length:Int))=False:=ff;have ho:=(jn (v:=v') (e:=e) hc).cl [2,3,4,8,2352];have ho2:=c2 [2,3,4,8,2352];rw[axi (by omega),ag];simp only[bD]at k8;refine⟨?hh0,c,l,e,?_,?_,?_,?_,?_,?_,⟨hc,?_⟩⟩;rotate_left
  ·simp only[jA,go_sem,g3,g4,g6,g8,g46,g47,g48,g53,g54,g55,k2,k3,k4,k8,k2352,ho,ho2,e1];rfl
  ·rfl
  ·rfl
  ·rfl
  ·rfl
  ·intro a a1 a2 a3 a4 a5;simp only[azJ,a1,a2,a3,a4,a5,if_false]
  ·rcases he with rfl|rfl
   ·exact .inl ⟨rfl,rfl,rfl⟩
   ·exact .inr ⟨rfl,fun h=>by omega⟩
 |succ k ih=>
  intro i hi c l e hc he hC s h g3 g4 g6 g8 g46 g47 g48 g53 g54 g55 k2 k3 k4 k8 k2352;have hlt:i<Bt.length:=by omega
  have e1:((i:Int)< (Bt.length:Int))=True:=tt;have e2:aW (aH Bt) (i:Int)=some (.ipt (bD Bt[i])):=eZ rfl (List.getElem?_eq_getElem hlt);have e5:IntKind.i64.wrap ((i:Int)+1)=((i+1:Nat):Int):=wi;have ho:=(jn (v:=v') (e:=e) hc).cl;obtain⟨vq,hd⟩:=hB _ (axr hlt);have hmul:=Ku vp.c vq.c;have hdl:(Bt.drop (i+1)).length=k:=by rw[ax2];omega
  rw[axh hlt];have ih':=ih (i+1) (by omega);have hrow:∀q ts,kN p (q::ts)=(CK p q).bind fun x=>(kN p ts).map (x::·):=fun q ts=>rfl;rw[hrow];generalize hqq:Bt[i]=q at e2 vq hd hmul⊢;have hVT:=fun x=>MW (x:=x) vp vq hd;rw[ag];generalize au _ _ _=L at ih'⊢;unfold CK at hVT⊢;have ho1:=ho [2,3,4,8,2352];have ho2:=c2 [2,3,4,8,2352];have hle:=vp.l2 vq;simp only[bD]at k8 e2;generalize dt p.c q.c=m at hmul hVT⊢;obtain⟨m,em⟩:=m;simp only[rV,ae,ah]at hmul;by_cases hm:em=0
  ·subst hm;simp only[if_true,awV]at hVT⊢;have vx:=hVT _ rfl;obtain⟨c1,l1,e1',s1,s2,s3,s4,s5⟩:=ColE.stepN (t:=⟨jl p.exps q.exps,m⟩) hc he k (fun h=>by have:=hC h;exact⟨this.1,by omega⟩) vx (v':=v');have ih2:=ih' c1 l1 e1' s2 s3 s4;have hcall:=fun(h:ac) (hh:h 2352=t3 v' c e) (d:Nat)=>dF (aD6.1.2.1 false) rfl (pj (d:=d) hh hc s2 s1);simp only[ae,ah]at hcall;have hpush:∀ (S:ak) (H:ac),HA (aj 3 [3,4,6,46,47,48] (L S H)) (upd (upd (upd (upd (upd (upd (fun _=>.any) 48 (I iA)) 47 (I nA)) 46 (.sl 4 (aH A))) 6 (.ref 2352 none 0 0 0)) 4 (.ref 4 none 0 0 0)) 3 (.ref 3 none 0 0 0)) o2 (.bx [I vb,.sl 4 (aH Bt)]) v v' l1 e1' (kN p (Bt.drop (i+1)))->HA (aj 3 [3,4,6,46,47,48] (L S H)) (upd (upd (upd (upd (upd (upd (fun _=>.any) 48 (I iA)) 47 (I nA)) 46 (.sl 4 (aH A))) 6 (.ref 2352 none 0 0 0)) 4 (.ref 4 none 0 0 0)) 3 (.ref 3 none 0 0 0)) o2 (.bx [I vb,.sl 4 (aH Bt)]) v v' l e ((kN p (Bt.drop (i+1))).map (⟨jl p.exps q.exps,m⟩::·)):=fun S H h=>by
    cases hr:kN p (Bt.drop (i+1))with
    |none=>rw[hr]at h;exact h
    |some r=>
     rw[hr]at h;obtain⟨hh,c',l',e',q1,q2,q3,q4,q5,q6,q7⟩:=h;exact⟨hh,c',l',e',q1,q2,q3,q4,q5,q6,s5 _ _ _ _ q7⟩
   cases hx:p.exps with
   |nil=>
    have hcl:R F.slices_Clone_int_int_ [lm []] []=some (lm [],[]):=RH;have hq0:q.exps=[]:=List.length_eq_zero_iff.1 (by rw[←hle,hx];rfl);rw[hx]at hpush;rw[hx,hq0]at hcall;rw[hx]at k8;rw[hq0]at e2;have i0:aS []=[]:=rfl;have a0:jl [] []=[]:=rfl;have z0:((0:Int)<0)=False:=ff (by decide);have ho2':=c2 [2,3,4,8,10,11,2352,2576];have ho1':=ho [2,3,4,8,10,11,2352,2576];rw[i0]at k8 e2;rw[a0,i0,ak2]at hcall;simp only[jA,go_sem,g3,g4,g6,g8,g46,g47,g48,g53,g54,g55,k2,k3,k4,k8,k2352,ho1,ho2,e1,e2,hmul,hcl,axI,axB];rw[ag];simp only[jz,go_sem,ho1',ho2',z0];rw[hcall _ rfl];simp only[go_sem,e5];refine hpush _ _ (ih2 _ _ rfl rfl rfl rfl rfl rfl rfl rfl rfl rfl rfl rfl rfl ?_ rfl);simp only[bD,hx];rfl
   |cons x xs=>
    have hcl:R F.slices_Clone_int_int_ [.sl 1 (aS p.exps)] []=some (.osl 1 (aS p.exps),[]):=by
     rw[hx];exact RI (by have:=vp.ok.len;rw[hx]at this;simp at this;omega)
    rw[←hx];have hX0:=alA vp vq (A:=A) (Bt:=Bt) (nA:=nA) (iA:=iA) (nB:=(Bt.length:Int)) (iB:=(i:Int)) (o2:=o2) (o3:=.bx [I vb,.sl 4 (aH Bt)]) (o4:=.bx [I 0,.emp]) (o8:=.bx [.sl 1 (aS p.exps),B p.c.neg,lm p.c.m,I p.c.e]) (o10:=.bx [.sl 1 (aS q.exps),B q.c.neg,lm q.c.m,I q.c.e]) (o11:=.bx [B m.neg,lm m.m,I m.e]) (o2352:=t3 v' c e);have k9:(aS (jl p.exps q.exps)).take p.exps.length=aS (jl p.exps q.exps):=axg (by rw[CT,xO hle];exact awQ _);have k8l:(jl p.exps q.exps).length=p.exps.length:=xO hle;simp only[jA,go_sem,g3,g4,g6,g8,g46,g47,g48,g53,g54,g55,k2,k3,k4,k8,k2352,ho1,ho2,e1,e2,hmul,hcl];generalize hXX:aj 5 _ _=X;obtain⟨hh,rfl,q2,q3,q4,q8,q10,q11,qc,q25,qd⟩:=hX0 _ _ _ hXX rfl rfl rfl rfl rfl rfl rfl rfl rfl rfl rfl rfl rfl rfl rfl rfl rfl rfl rfl rfl rfl rfl rfl (c2 _) rfl rfl rfl rfl rfl (ho _);simp only[go_sem,q11,q25,k9,k8l,awP,awQ];rw[hcall (upd hh 2576 (.fz 1 (aS (jl p.exps q.exps)))) (by rw[azJ,if_neg (by decide)];exact qc)];simp only[go_sem,e5];refine hpush _ _ (ih2 _ _ ?_ ?_ ?_ ?_ ?_ ?_ ?_ ?_ ?_ ?_ ?_ ?_ ?_ ?_ ?_)
    all_goals first|rfl| (simp only[azJ,Nat.reduceEqDiff,↓reduceIte,q2,q3,q4,q8];done)| (simp only[azJ,Nat.reduceEqDiff,↓reduceIte,q8];rfl)
  ·have f1:(em=0)=False:=ff hm;simp only[if_neg hm,Option.bind_none];refine⟨?hh1,?_,?_⟩;rotate_left
   ·simp only[jA,go_sem,g3,g4,g6,g8,g46,g47,g48,g53,g54,g55,k2,k3,k4,k8,k2352,ho1,ho2,e1,e2,hmul,f1];rfl
   ·rfl
theorem alB{v v':Int}{p:Rt}(vp:VT v p){A Bt:List Rt}(hB:∀q∈Bt,VT v q/\bh p.exps+bh q.exps<=32)(hn:Bt.length<=100000){nA iA:Int}{o2:Ob}(c2:∀ids,aC ids o2=true){vb:Int}
  {c:AV} {l:List Rt} {e:Int} (hc:nj c l) (he:e=0\/e=9) (hC:e=0->Cl v l/\l.length+Bt.length<=1000000) (s:ak) (h:ac) (X:Option (Ex×St)) (hX:aj 3 [3,4,6,46,47,48] (au (ai R (az false) jA) [3,4,6,8,46,47,48,53,54,55] [2,3,4,8,2352] s h)=X)
  (g3:s 3=.ref 3 none 0 0 0) (g4:s 4=.ref 4 none 0 0 0) (g6:s 6=.ref 2352 none 0 0 0) (g8:s 8=.ref 8 none 0 0 0) (g46:s 46=.sl 4 (aH A)) (g47:s 47=I nA) (g48:s 48=I iA) (g53:s 53=.sl 4 (aH Bt)) (g54:s 54=I Bt.length) (g55:s 55=I 0) (k2:h 2=o2) (k3:h 3=.bx [I vb,.sl 4 (aH Bt)]) (k4:h 4=.bx [I 0,.emp]) (k8:h 8=.bx [.sl 1 (aS p.exps),B p.c.neg,lm p.c.m,I p.c.e]) (k2352:h 2352=t3 v' c e):
  HA X (upd (upd (upd (upd (upd (upd (fun _=>.any) 48 (I iA)) 47 (I nA)) 46 (.sl 4 (aH A))) 6 (.ref 2352 none 0 0 0)) 4 (.ref 4 none 0 0 0)) 3 (.ref 3 none 0 0 0)) o2 (.bx [I vb,.sl 4 (aH Bt)]) v v' l e (kN p Bt):=by
 subst hX;exact ad1 vp hB hn c2 Bt.length 0 (awP _) c l e hc he hC s h g3 g4 g6 g8 g46 g47 g48 g53 g54 g55 k2 k3 k4 k8 k2352
theorem ColE.app{v:Int}{l r r2:List Rt}{e:Int}{c1:AV}{l1:List Rt}{e1:Int}{c':AV}{l':List Rt}{e':Int}(h1:ColE v l r e c1 l1 e1)(h2:ColE v l1 r2 e1 c' l' e'):ColE v l (r++r2) e c' l' e':=by
 refine⟨h2.c,?_⟩;rw[VL];rcases h1.r with⟨a1,a2,a3⟩| ⟨a1,a2⟩
 ·rw[a3];rcases h2.r with⟨b1,b2,b3⟩| ⟨b1,b2⟩
  ·exact .inl ⟨b1,a2,b3⟩
  ·exact .inr ⟨b1,fun _=>b2 a1⟩
 ·rcases h2.r with⟨b1,b2,b3⟩| ⟨b1,b2⟩
  ·omega
  ·exact .inr ⟨b1,fun h=>by rw[a2 h];rfl⟩
theorem ColE.nx{v:Int}{l r:List Rt}{e:Int}{c1:AV}{l1:List Rt}{e1:Int}(h:ColE v l r e c1 l1 e1)(hC:e=0->Cl v l)(hr:∀t∈r,VT v t):(e1=0\/e1=9)/\(e1=0->e=0/\Cl v l1/\l1.length<=l.length+r.length):=by
 rcases h.r with⟨a1,a2,a3⟩| ⟨a1,a2⟩
 ·exact⟨.inl a1,fun _=>⟨a2,Gs (hC a2) hr a3⟩⟩
 ·exact⟨.inr a1,fun h=>by omega⟩
theorem ad2{v v':Int}{A Bt:List Rt}(hA:∀p∈A,VT v p)(hB:∀q∈Bt,VT v q)(hd:∀p∈A,∀q∈Bt,bh p.exps+bh q.exps<=32)(hn:Bt.length<=1000)(hm:A.length<=1000){o2:Ob}(c2:∀ids,aC ids o2=true){vb:Int}:
  ∀ (k i:Nat),i+k=A.length->∀ (c:AV) (l:List Rt) (e:Int),nj c l->(e=0\/e=9)->(e=0->Cl v l/\l.length+k*Bt.length<=1000000)->∀ (s:ak) (h:ac),s 3=.ref 3 none 0 0 0->s 4=.ref 4 none 0 0 0->s 6=.ref 2352 none 0 0 0->s 46=.sl 4 (aH A)->s 47=I A.length->s 48=I i->h 2=o2->h 3=.bx [I vb,.sl 4 (aH Bt)]->h 4=.bx [I 0,.emp]->h 2352=t3 v' c e->
  HA (aj 1 [4,6] (au (ai R (az false) se) [3,4,6,46,47,48] [2,3,4,2352] s h)) (upd (upd (fun _=>.any) 6 (.ref 2352 none 0 0 0)) 4 (.ref 4 none 0 0 0)) o2 (.bx [I vb,.sl 4 (aH Bt)]) v v' l e (jS (A.drop i) Bt):=by
 intro k;induction k with
 |zero=>
  intro i hi c l e hc he hC s h g3 g4 g6 g46 g47 g48 k2 k3 k4 k2352;have e1:((i:Int)< (A.length:Int))=False:=ff;have ho:=(jn (v:=v') (e:=e) hc).cl [2,3,4,2352];have ho2:=c2 [2,3,4,2352];rw[axi (by omega),ag];refine⟨?hh0,c,l,e,?_,?_,?_,?_,?_,?_,⟨hc,?_⟩⟩;rotate_left
  ·simp only[se,go_sem,g3,g4,g6,g46,g47,g48,k2,k3,k4,k2352,ho,ho2,e1];rfl
  ·rfl
  ·rfl
  ·rfl
  ·rfl
  ·intro a a1 a2 a3 a4 a5;simp only[azJ,a1,a2,a3,a5,if_false]
  ·rcases he with rfl|rfl
   ·exact .inl ⟨rfl,rfl,rfl⟩
   ·exact .inr ⟨rfl,fun h=>by omega⟩
 |succ k ih=>
  intro i hi c l e hc he hC s h g3 g4 g6 g46 g47 g48 k2 k3 k4 k2352;have hlt:i<A.length:=by omega
  have e1:((i:Int)< (A.length:Int))=True:=tt;have e2:aW (aH A) (i:Int)=some (.ipt (bD A[i])):=eZ rfl (List.getElem?_eq_getElem hlt);have e5:IntKind.i64.wrap ((i:Int)+1)=((i+1:Nat):Int):=wi;have ho:=(jn (v:=v') (e:=e) hc).cl;have vp:=hA _ (axr hlt);have hdp:=hd _ (axr hlt);rw[axh hlt];have ih':=ih (i+1) (by omega);have hall:∀q ts,jS (q::ts) Bt=(kN q Bt).bind fun r=>(jS ts Bt).map (r++·):=fun q ts=>rfl;rw[hall];generalize A[i]=p at e2 vp hdp⊢;have hl1:=alB vp (A:=A) (Bt:=Bt) (nA:=(A.length:Int)) (iA:=(i:Int)) (fun q hq=>⟨hB q hq,hdp q hq⟩) (by omega) c2 (vb:=vb) (v':=v') hc he (fun h=>by have:=hC h;rw[Nat.succ_mul]at this;exact⟨this.1,by omega⟩);have hRV:=fun r=>JC (r:=r) vp (fun q hq=>⟨hB q hq,hdp q hq⟩);rw[ag];generalize au _ _ _=L at ih'⊢;have ho1:=ho [2,3,4,2352];have ho2:=c2 [2,3,4,2352];simp only[bD]at e2;simp only[se,go_sem,g3,g4,g6,g46,g47,g48,k2,k3,k4,k2352,ho1,ho2,e1,e2];generalize hXX:aj 3 _ _=X;have hM:=hl1 _ _ _ hXX rfl rfl rfl rfl rfl rfl rfl rfl rfl rfl rfl rfl rfl rfl rfl;cases hr:kN p Bt with
  |none=>
   rw[hr]at hM;obtain⟨hh,rfl,q4⟩:=hM;refine⟨hh,?_,q4⟩;simp only[go_sem]
  |some r=>
   rw[hr]at hM;obtain⟨hh,c1,l1,e1',rfl,q2,q3,q4,qc,qd,qe⟩:=hM;obtain⟨w1,w2⟩:=hRV r hr;obtain⟨n1,n2⟩:=qe.nx (fun h=>(hC h).1) w1;have ih2:=ih' c1 l1 e1' qe.c n1 (fun h=>by
    obtain⟨m1,m2,m3⟩:=n2 h;have:=(hC m1).2;rw[Nat.succ_mul]at this;exact⟨m2,by omega⟩)
   simp only[awV];have hpush:∀ (S:ak) (H:ac),HA (aj 1 [4,6] (L S H)) (upd (upd (fun _=>.any) 6 (.ref 2352 none 0 0 0)) 4 (.ref 4 none 0 0 0)) o2 (.bx [I vb,.sl 4 (aH Bt)]) v v' l1 e1' (jS (A.drop (i+1)) Bt)->HA (aj 1 [4,6] (L S H)) (upd (upd (fun _=>.any) 6 (.ref 2352 none 0 0 0)) 4 (.ref 4 none 0 0 0)) o2 (.bx [I vb,.sl 4 (aH Bt)]) v v' l e ((jS (A.drop (i+1)) Bt).map (r++·)):=fun S H h=>by
    cases hr2:jS (A.drop (i+1)) Bt with
    |none=>rw[hr2]at h;exact h
    |some r2=>
     rw[hr2]at h;obtain⟨hh,c',l',e',q1,q2,q3,q4,q5,q6,q7⟩:=h;exact⟨hh,c',l',e',q1,q2,q3,q4,q5,q6,qe.app q7⟩
   simp only[go_sem,e5];refine hpush _ _ (ih2 _ _ ?_ ?_ ?_ ?_ ?_ ?_ ?_ ?_ ?_ ?_)
   all_goals first|rfl|assumption
theorem alC{v v':Int}{A Bt:List Rt}(hA:∀p∈A,VT v p)(hB:∀q∈Bt,VT v q)(hd:∀p∈A,∀q∈Bt,bh p.exps+bh q.exps<=32)(hn:Bt.length<=500)(hm:A.length<=500){o2:Ob}(c2:∀ids,aC ids o2=true){vb:Int}
  (s:ak) (h:ac) (X:Option (Ex×St)) (hX:aj 1 [4,6] (au (ai R (az false) se) [3,4,6,46,47,48] [2,3,4,2352] s h)=X) (g3:s 3=.ref 3 none 0 0 0) (g4:s 4=.ref 4 none 0 0 0) (g6:s 6=.ref 2352 none 0 0 0) (g46:s 46=.sl 4 (aH A)) (g47:s 47=I A.length) (g48:s 48=I 0) (k2:h 2=o2) (k3:h 3=.bx [I vb,.sl 4 (aH Bt)]) (k4:h 4=.bx [I 0,.emp]) (k2352:h 2352=.bx [I v',.emp,I 0]):
  HA X (upd (upd (fun _=>.any) 6 (.ref 2352 none 0 0 0)) 4 (.ref 4 none 0 0 0)) o2 (.bx [I vb,.sl 4 (aH Bt)]) v v' [] 0 (jS A Bt):=by
 subst hX;exact ad2 hA hB hd (by omega) (by omega) c2 A.length 0 (awP _) .emp [] 0 (.inr ⟨rfl,rfl⟩) (.inl rfl) (fun _=>⟨Cl.nil _,by
  have:A.length*Bt.length<=500*500:=aFW hm hn;show 0+_<=_;omega⟩) s h g3 g4 g6 g46 g47 g48 k2 k3 k4 k2352
theorem alD{v:Int}{t:Rt}(h:VT v t):0<=bh t.exps:=(Ky fun x hx=>(h.b x hx).1).1
theorem YV{a:Rp}(oa:OkP a):-1<=ej a/\ej a<=32:=by
 unfold ej;split
 ·rename_i h;cases hg:a.terms.getLast? with
  |none=>simp
  |some t=>
   have vt:=(il oa h).1.t t (List.mem_of_getLast? hg);have:=alD vt;have:=vt.d;simp only[];omega
 ·omega
theorem YW{a b:Rp}(oa:OkP a)(ob:OkP b):R F.poly_Mul [aO a,aO b] []=some (pV (jJ a b),[]):=by
 refine ax aaU rfl ?_;have hp:=YQ oa ob;have hda:=E2 oa;have hdb:=E2 ob;have bda:=YV oa;have bdb:=YV ob;simp only[aO]at hp hda hdb;unfold jJ;cases hb:E4 a b with
 |false=>
  rw[hb]at hp;rw[if_neg awW];simp only[pq,uT,aO,go_sem,hp];rfl
 |true=>
  rw[hb]at hp;rw[if_pos rfl];obtain⟨va,vb,hv⟩:=qQ.1 hb;obtain⟨ka,a0,a8,al⟩:=il oa va;obtain⟨kb,b0,b8,bl⟩:=il ob vb;rw[←hv]at kb;have w1:IntKind.i64.wrap (ej a+ej b)=ej a+ej b:=i64_in _ ⟨by omega,by omega⟩;by_cases hd:a.terms.length≠0/\b.terms.length≠0/\32<ej a+ej b
  ·rw[if_pos hd];have e1:(0< (a.terms.length:Int))=True:=tt;have e2:(0< (b.terms.length:Int))=True:=tt;have e3:(32<ej a+ej b)=True:=eq_true hd.2.2;simp only[pq,uT,aO,go_sem,hp,hda,hdb,w1,e1,e2,e3];rfl
  ·rw[if_neg hd];have hf:=MY oa ob va vb hd;have hemp:=AN (v:=a.vars);have hl:=alC (v':=a.vars) (A:=a.terms) (Bt:=b.terms) ka.t kb.t hf (by omega) (by omega) (o2:=.bx [I a.vars,.sl 4 (aH a.terms)]) (fun _=>rfl) (vb:=b.vars);have fin:∀X:Option (Ex×St),HA X (upd (upd (fun _=>.any) 6 (.ref 2352 none 0 0 0)) 4 (.ref 4 none 0 0 0)) (.bx [I a.vars,.sl 4 (aH a.terms)]) (.bx [I b.vars,.sl 4 (aH b.terms)]) a.vars a.vars [] 0 (jS a.terms b.terms)->
     gZ false [[.o 0 [],.o 5 [.o 2 [],.o 0 [],.o 2 [],.o 0 []]],[]] [.cell 4 2 true,.t 5] 0 (cr X (ai R (az false) (.seq (.ops [4,5] [cm 95 6,ca 96 F.poly_collector_done [.t 95],co 97 (.ext 0 (.t 96)),co 98 (.ext 1 (.t 96)),sr 2 (.t 4) (.t 97),cm 5 98]) .ret)))=some (pV (lE a.vars ((jS a.terms b.terms).bind (gM []))),[]):=by
    intro X hM;cases hr:jS a.terms b.terms with
    |none=>
     rw[hr]at hM;obtain⟨hh,rfl,q4⟩:=hM;simp only[Option.bind_none,lE,pV,p0,aO,go_sem,q4];rfl
    |some r=>
     rw[hr]at hM;obtain⟨hh,c',l',e',rfl,q2,q3,q4,qc,qd,qe⟩:=hM;obtain⟨o,hdn⟩:=E5 (d:=96) qc qe.c (by simp[cw,qd,bS]);have hd':=dF (bw.1.2.1 false) rfl hdn;rw[qe.fin]at hd';rw[awV];generalize lE a.vars (gM [] r)=z at hd'⊢;obtain⟨z1,z2⟩:=z;simp only[pV,aO]at hd';simp only[pV,aO,go_sem,q4,hd']
   by_cases h1:a.terms.length=0
   ·have e1:(0< (a.terms.length:Int))=False:=ff;simp only[pq,uT,aO,go_sem,hp,e1,hemp,qR];generalize hX:aj 1 _ _=X;exact fin X (hl _ _ _ hX rfl rfl rfl rfl rfl rfl rfl rfl rfl rfl)
   ·have e1:(0< (a.terms.length:Int))=True:=tt;by_cases h2:b.terms.length=0
    ·have e2:(0< (b.terms.length:Int))=False:=ff;simp only[pq,uT,aO,go_sem,hp,e1,e2,hemp,qR];generalize hX:aj 1 _ _=X;exact fin X (hl _ _ _ hX rfl rfl rfl rfl rfl rfl rfl rfl rfl rfl)
    ·have e2:(0< (b.terms.length:Int))=True:=tt;have e3:(32<ej a+ej b)=False:=eq_false fun h=>hd ⟨h1,h2,h⟩;simp only[pq,uT,aO,go_sem,hp,hda,hdb,w1,e1,e2,e3,hemp,qR];generalize hX:aj 1 _ _=X;exact fin X (hl _ _ _ hX rfl rfl rfl rfl rfl rfl rfl rfl rfl rfl)
def IsL(x:AV)(l:List Rt):Prop:=x=.sl 4 (aH l)\/(x=.emp/\l=[])
theorem IsL.keep{x:AV}{l:List Rt}(h:IsL x l)(hs:List Nat):gk hs x=x:=by
 rcases h with rfl| ⟨rfl,_⟩<;>rfl
theorem D3{f:FuncId}{fd:FD}{args:List AV}{o:Ob}{r:AV×List Ob}(hE:cJ.E f=none)(hC:cJ.C f=some fd)(hk:cJ.md.keep f=true)(h1:args.length=fd.np)
  (hz:gZ true fd.rs fd.res 1 (ai R (az true) fd.body (tW args) (upd (fun _=>.dead) 1000 o))=some r):R f args [o]=some r:=by
 refine NZ true hE hC hk h1 (by simp) ?_;rw[VM];exact hz
theorem ad3{f:FuncId}{h:ac}{d id:Nat}{zas as':List AV}{o o':Ob}{res:AV}(hm:(az false).m f=[])(hk:(az false).keep f=true)(hn:bo ((az false).sh f) (zas++[.ref id none 0 0 0])=as'++[.ref id none 0 0 0])(hd:zas.all dat=true)(hd':as'.all dat=true)
  (hh:h id=o) (ho:OC o) (ho':OC o') (hb:bf o=true->bf o'=true) (hR:R f (as'++[.ref 1000 none 0 0 0]) [o]=some (res,[o'])) (hr:RT res) (h8:cz res<=8) (hfr:cw h (2000+8*d) (cz res)=true):
  bE R (az false) h d zas (.fn f [] [.ref id none 0 0 0])=some (res,upd h id o',[]):=by
 have hin:∀l:List AV,l.all dat=true->bQ h [] (l++[.ref id none 0 0 0])=some (l++[.ref id none 0 0 0],h,[]):=by
  intro l;induction l with
  |nil=>intro _;rfl
  |cons x l ih=>
   intro h2;simp only[axu,awS]at h2;simp only[axM,bQ,List.headD_nil,VZ h2.1,awV,List.tail_nil,ih h2.2,axe]
 have h1:=hin zas hd;have hp:bF [] ((zas++[AV.ref id none 0 0 0]).flatMap bX)=[id]:=by
  rw[List.flatMap_append,D0 fun x hx=>KA (List.all_eq_true.1 hd x hx)];rfl
 have hre:bV h 40 [id] 0=[id]:=by
  simp[bV,hh,ho.ids,bF]
 have h3:bj [id] id=1000:=by simp[bj]
 have hall:(as'++[AV.ref id none 0 0 0]).all (be [id])=true:=by
  rw[List.all_append,awS];exact⟨List.all_eq_true.2 fun x hx=>Oz (List.all_eq_true.1 hd' x hx) _,by simp[be,bk]⟩
 have hmap:(as'++[AV.ref id none 0 0 0]).map (dQ (bj [id]))=as'++[.ref 1000 none 0 0 0]:=by
  rw[List.map_append,(axy (g:=fun c=>c) fun x hx=>KB (List.all_eq_true.1 hd' x hx) _).trans (axN as')];simp[dQ,jW,h3]
 have hob:([id].map fun a=>dL (bj [id]) (h a))=[o]:=by simp[hh,ho.ren]
 have hids:([id].all fun a=>aC [id] (h a)&&!bS (h a))=true:=by simp[hh,ho.cl,ho.nd]
 unfold bE;rw[if_neg (by simp[jX,hm])];simp only[dS,hm,axc,h1,awV,hp,hre,hn];unfold jK;rw[hall,hids,hmap,hob,hR,axm,if_pos rfl,awV,hk,hm,vU];unfold eJ;have hbf:cY h [] [id] [o']=true:=by
  have:=ho'.nd;cases h5:bf o with
  |false=>simp[cY,hh,h5,this]
  |true=>simp[cY,hh,h5,hb h5,this]
 have hend:oj h [id] [] (res,[o'])=true:=by
  simp[oj,BL,hr.ok,ho'.cl]
 rw[if_pos ⟨rfl,by simp,h8,hfr,hbf,hend⟩];simp[eu,fR,hr.mat,hr.ren,ho'.ren]
theorem D4{f g:FuncId}{h:ac}{d id:Nat}{zas as':List AV}{o o':Ob}{res:AV}(hm:(az false).m f=[])(hk:(az false).keep f=false)(hn:bo ((az false).sh f) (zas++[.fn g [] [.ref id none 0 0 0]])=as'++[.fn g [] [.ref id none 0 0 0]])(hd:zas.all dat=true)(hd':as'.all dat=true)
  (hh:h id=o) (ho:OC o) (ho':OC o') (hb:bf o=true->bf o'=true) (hR:R f (as'++[.fn g [] [.ref 1000 none 0 0 0]]) [o]=some (res,[o'])) (hr:RT res) (h8:cz res<=8) (hfr:cw h (2000+8*d) (cz res)=true):
  bE R (az false) h d (zas++[.fn g [] [.ref id none 0 0 0]]) (.fn f [] [])=some (res,upd h id o',[(id,true)]):=by
 have hin:∀l:List AV,l.all dat=true->bQ h [] (l++[.fn g [] [.ref id none 0 0 0]])=some (l++[.fn g [] [.ref id none 0 0 0]],h,[]):=by
  intro l;induction l with
  |nil=>intro _;rfl
  |cons x l ih=>
   intro h2;simp only[axu,awS]at h2;simp only[axM,bQ,List.headD_nil,VZ h2.1,awV,List.tail_nil,ih h2.2,axe]
 have h1:=hin zas hd;have hp:bF [] ((zas++[AV.fn g [] [.ref id none 0 0 0]]).flatMap bX)=[id]:=by
  rw[List.flatMap_append,D0 fun x hx=>KA (List.all_eq_true.1 hd x hx)];rfl
 have hre:bV h 40 [id] 0=[id]:=by
  simp[bV,hh,ho.ids,bF]
 have h3:bj [id] id=1000:=by simp[bj]
 have hall:(as'++[AV.fn g [] [.ref id none 0 0 0]]).all (be [id])=true:=by
  rw[List.all_append,awS];exact⟨List.all_eq_true.2 fun x hx=>Oz (List.all_eq_true.1 hd' x hx) _,by simp[be,bk]⟩
 have hmap:(as'++[AV.fn g [] [.ref id none 0 0 0]]).map (dQ (bj [id]))=as'++[.fn g [] [.ref 1000 none 0 0 0]]:=by
  rw[List.map_append,(axy (g:=fun c=>c) fun x hx=>KB (List.all_eq_true.1 hd' x hx) _).trans (axN as')];simp[dQ,jW,h3]
 have hob:([id].map fun a=>dL (bj [id]) (h a))=[o]:=by simp[hh,ho.ren]
 have hids:([id].all fun a=>aC [id] (h a)&&!bS (h a))=true:=by simp[hh,ho.cl,ho.nd]
 unfold bE;rw[if_neg (by simp[jX,hm])];simp only[dS,hm,axc,axe,h1,awV,hp,hre,hn];unfold jK;rw[hall,hids,hmap,hob,hR,axm,if_pos rfl,awV,hk,hm,vU];unfold eJ;have hbf:cY h [] [id] [o']=true:=by
  have:=ho'.nd;cases h5:bf o with
  |false=>simp[cY,hh,h5,this]
  |true=>simp[cY,hh,h5,hb h5,this]
 have hend:oj h [id] [] (res,[o'])=true:=by
  simp[oj,BL,hr.ok,ho'.cl]
 rw[if_pos ⟨rfl,by simp,h8,hfr,hbf,hend⟩];simp[eu,fR,hr.mat,hr.ren,ho'.ren]
theorem agD(x:Ri):OC (.bx (ao x)):=⟨fun _=>rfl,rfl,fun _=>rfl,rfl⟩
variable {α:Type} {Frow:α→List AV} {l:List α} {q:α→Bool}
def alE(f:FuncId)(o:Ob)(k:Nat)(g:Bool)(Frow:α->List AV)(l:List α)(q:α->Bool):Prop:=
 ∀x∈l,∃a a',kt k g (Frow x) 0=some a/\dat a=true/\dat a'=true/\bo ((az false).sh f) [a,.ref 1000 none 0 0 0]=[a',.ref 1000 none 0 0 0]/\R f [a',.ref 1000 none 0 0 0] [o]=some (B (q x),[o])
def alF(f:FuncId)(k:Nat)(g:Bool)(Frow:α->List AV)(l:List α)(q:α->Bool):Prop:=
 ∀x∈l,∃a,kt k g (Frow x) 0=some a/\dat a=true/\R f (bo ((az false).sh f) [a]) []=some (B (q x),[])
theorem RL{k:Nat}{g:Bool}{f:FuncId}{o:Ob}{cap:List AV}(hc:cap=[]/\o=.dead/\(az false).m f=[]/\alF f k g Frow l q\/cap=[.ref 1000 none 0 0 0]/\OC o/\(az false).m f=[]/\(az false).keep f=true/\alE f o k g Frow l q)(hl:l.length<4611686018427387904):∀ (rest:List α) (n:Nat),l.drop n=rest->n<=l.length->
  ∀ (s:ak) (h:ac),s 0=.sl k (l.map Frow)->s 1=.fn f [] cap->s 7=I l.length->s 8=I n->h 1000=o->
   ∃hh,cr (aj 0 [] (au (ai R (az false) (nY k g)) [0,1,7,8] [1000] s h)) (ai R (az false) kZ)=some (.ret,⟨upd (fun _=>.any) 4 (I (wA q rest n)),hh⟩)/\hh 1000=o:=by
 have hcl:∀ids,aC ids o=true:=by
  rcases hc with⟨_,rfl,_⟩| ⟨_,h,_⟩
  ·exact fun _=>rfl
  ·exact h.cl
 have hcap:cap=[]\/cap=[.ref 1000 none 0 0 0]:=hc.imp (·.1) (·.1);intro rest;induction rest with
 |nil=>
  intro n hd hn s h h0 h1 h7 h8 h9;have e:n=l.length:=by
   have:=congrArg List.length hd;grind
  subst e;rw[ag];refine⟨?hh0,?_,?_⟩;rotate_left
  ·rcases hcap with rfl|rfl<;> (simp only[nY,kZ,go_sem,h0,h1,h7,h8,h9,hcl,axU,wA];try rfl)
  ·rfl
 |cons x rest ih=>
  intro n hd hn s h h0 h1 h7 h8 h9;have hlt:n<l.length:=by
   grind
  have hr:l[n]?=some x:=by
   have:=congrArg (·[0]?) hd;grind
  have ih':=ih (n+1) (by rw[←List.drop_drop,hd];rfl) hlt;have e1:((n:Int)< (l.length:Int))=True:=tt;have e2:aW (l.map Frow) (n:Int)=some (.ipt (Frow x)):=by simp[aW,hr]
  have e3:IntKind.i64.wrap ((n:Int)+1)=((n+1:Nat):Int):=by grind[i64_in]
  rw[ag];generalize au _ _ _=L at ih'⊢;simp only[wA];rcases hc with⟨rfl,rfl,hm,hf⟩| ⟨rfl,ho,hm,hk,hf⟩
  ·obtain⟨a,ha,hda,hc⟩:=hf x (List.mem_of_getElem? hr);simp only[nY,go_sem,h0,h1,h7,h8,h9,e1,e2,ha,xX _ hm,hda,hc];cases hp:q x with
   |true=>exact⟨_,by simp only[kZ,go_sem];rfl,rfl⟩
   |false=>
    simp only[go_sem,e3,awW];exact ih' _ _ rfl rfl rfl rfl rfl
  ·obtain⟨a,a',ha,hda,hda',hn2,hc⟩:=hf x (List.mem_of_getElem? hr);have hcc:=fun(h:ac) (d:Nat) (hh:h 1000=o) (hf:h (2000+8*d)=.dead)=>ad3 (f:=f) (h:=h) (d:=d) (id:=1000) (zas:=[a]) (as':=[a']) hm hk (by simpa using hn2) (by simp[hda]) (by simp[hda']) hh ho ho (fun h=>h) hc (V0 _) (axJ rfl) (by simp[cw,cz,hf,bS]);simp only[nY,go_sem,h0,h1,h7,h8,h9,hcl,e1,e2,ha];rw[hcc _ _ rfl rfl];cases hp:q x with
   |true=>
    simp only[kZ,go_sem];exact⟨_,rfl,rfl⟩
   |false=>
    simp only[go_sem,e3,awW];exact ih' _ _ rfl rfl rfl rfl rfl
noncomputable abbrev alG (k:Nat) (g:Bool):FD:=⟨2,[[]],[.t 4],.seq (.ops [0,1] [co 4 (.mv (.c (.v (.int .i64 0))))]) (.seq (.seq (.ops [0,1,7,8] [cm 6 0,co 7 (.len false (.t 6)),co 8 (.mv (.c (.v (.int .i64 0))))]) (.block 0 [] (.loop [0,1,7,8] [1000] (nY k g)))) kZ)⟩
variable {ci fi:FuncId} {fd fc:FD} {k:Nat} {g:Bool} {cs:List Sh}
structure Src (ci fi:FuncId) (k:Nat) (g:Bool) (cs:List Sh):Prop where
 iE:cJ.E fi=none
 iC:cJ.C fi=some (alG k g)
 ik:cJ.md.keep fi=false
 im:(az false).m fi=[]
 ik':(az false).keep fi=false
 ish:(az false).sh fi=[[.o (k+1) cs],[]]
 cE:cJ.E ci=none
 cC:cJ.C ci=some (Jm fi)
 ck:cJ.md.keep ci=false
theorem KD(S:Src ci fi k g cs){f:FuncId}{o:Ob}(ho:OC o)(hm:(az false).m f=[])(hk:(az false).keep f=true)(hl:l.length<4611686018427387904)(hr:(l.map Frow).map (dK cs)=l.map Frow)(hf:alE f o k g Frow l q):
  R ci [.sl k (l.map Frow),.fn f [] [.ref 1000 none 0 0 0]] [o]=some (B (l.any q),[o]):=by
 have h:R fi [.sl k (l.map Frow),.fn f [] [.ref 1000 none 0 0 0]] [o]=some (I (wA q l 0),[o]):=by
  refine vT S.iE S.iC S.ik rfl ?_;have hL:=RL (Frow:=Frow) (q:=q) (k:=k) (g:=g) (Or.inr ⟨rfl,ho,hm,hk,hf⟩) hl l 0 rfl (axz _);simp only[go_sem,aaF];have hL2:∀ (S:ak) (H:ac) (X:Option (Ex×St)),cr (aj 0 [] (au (ai R (az false) (nY k g)) [0,1,7,8] [1000] S H)) (ai R (az false) kZ)=X->S 0=.sl k (l.map Frow)->S 1=.fn f [] [.ref 1000 none 0 0 0]->S 7=I l.length->S 8=I (0:Nat)->H 1000=o->
    ∃hh,X=some (.ret,⟨upd (fun _=>.any) 4 (I (wA q l 0)),hh⟩)/\hh 1000=o:=fun S H X hX a b c d e=>by
   rw[←hX];exact hL S H a b c d e
  generalize hX:cr (aj 0 [] (au _ _ [1000] _ _)) (ai R (az false) kZ)=X;obtain⟨hh,e,e9⟩:=hL2 _ _ _ hX rfl rfl (by simp only[go_sem,List.length_map]) rfl rfl;rw[e];simp only[go_sem];exact rO rfl e9 (ho.cl _) rfl rfl
 refine vT S.cE S.cC S.ck rfl ?_;have ha:=Hi q l 0;have hc:=fun(h':ac) (d:Nat) (hh:h' 1000=o) (hf:h' (2000+8*d)=.dead)=>D4 (f:=fi) (g:=f) (h:=h') (d:=d) (id:=1000) (zas:=[.sl k (l.map Frow)]) (as':=[.sl k (l.map Frow)]) S.im S.ik'
  (by rw[S.ish];simp only[go_sem,hr,axM,axc]) rfl rfl hh ho ho (fun h=>h) h (alu _) (axJ rfl) (by simp[cw,cz,hf,bS])
 simp only[axM,axc]at hc;simp only[Jm,go_sem];rw[hc _ _ rfl rfl];simp only[go_sem,ha];exact rO rfl rfl (ho.cl _) rfl rfl
theorem YX(S:Src ci fi k g cs){f:FuncId}(hm:(az false).m f=[])(hl:l.length<4611686018427387904)(hr:(l.map Frow).map (dK cs)=l.map Frow)(hf:alF f k g Frow l q):
  R ci [.sl k (l.map Frow),.fn f [] []] []=some (B (l.any q),[]):=by
 have h:R fi [.sl k (l.map Frow),.fn f [] []] []=some (I (wA q l 0),[]):=by
  refine PR S.iE S.iC S.ik rfl ?_;have hL:=RL (Frow:=Frow) (q:=q) (k:=k) (g:=g) (Or.inl ⟨rfl,rfl,hm,hf⟩) hl l 0 rfl (axz _);simp only[go_sem,aaF];have hL2:∀ (S:ak) (H:ac) (X:Option (Ex×St)),cr (aj 0 [] (au (ai R (az false) (nY k g)) [0,1,7,8] [1000] S H)) (ai R (az false) kZ)=X->S 0=.sl k (l.map Frow)->S 1=.fn f [] []->S 7=I l.length->S 8=I (0:Nat)->H 1000=.dead->
    ∃hh,X=some (.ret,⟨upd (fun _=>.any) 4 (I (wA q l 0)),hh⟩)/\hh 1000=.dead:=fun S H X hX a b c d e=>by
   rw[←hX];exact hL S H a b c d e
  generalize hX:cr (aj 0 [] (au _ _ [1000] _ _)) (ai R (az false) kZ)=X;obtain⟨hh,e,e9⟩:=hL2 _ _ _ hX rfl rfl (by simp only[go_sem,List.length_map]) rfl rfl;rw[e];simp only[go_sem]
 have ha:=Hi q l 0;refine PR S.cE S.cC S.ck rfl ?_;simp only[Jm,go_sem,S.im,xX _ S.im,S.ish,hr,h,ha]
theorem JE{q:Nat}{u:Int}(hu:-16384<=u)(h:(cH (bm false q u)).2=0):zI (cH (bm false q u)).1=((q*2^ (u+16384).toNat:Nat):Int):=by
 have e1:bm false q u=cM ((q*2^ (u+16384).toNat:Nat):Int) (-16384- (0:Nat)):=by
  unfold cM;rw[decide_eq_false (by omega),Int.natAbs_natCast,jk];grind
 rw[e1]at h⊢;have:=Kv (j:=0) h;omega
theorem Qg{q:Nat}{n:Nat}(h:n<af q):2^n<=q:=by
 refine Nat.le_of_not_lt fun h1=>?_;have:=bK.2 h1;omega
theorem HB{M:Nat}{p f:Int}{s t:Nat}{more w:Bool}(h0:M≠0)(hp:8<=p/\p<=512)(hf:f+16384=(s:Int)-t)(hm:more=true->p< (af M:Nat))(h:(cB M f more p w).2=0):
  ∃n:Nat,zI (cB M f more p w).1=(n:Int)/\(w=true->(M+more.toNat)*2^s<=n*2^t)/\(w=false->n*2^t<=M*2^s):=by
 obtain⟨u,hu⟩:∃u,fk M f p=u:=⟨_,rfl⟩;have hu1:-16384<=u/\f+(af M:Nat)-p<=u/\(u=-16384\/u=f+(af M:Nat)-p):=by
  grind[fk]
 unfold cB at h⊢;rw[hu]at h⊢;obtain⟨q,hq⟩:∃q,mh w (qH M f more u)=q:=⟨_,rfl⟩;rw[hq]at h⊢;have hT:(w=true->(M+more.toNat)*2^s<=q*2^ ((u+16384).toNat+t))/\(w=false->q*2^ ((u+16384).toNat+t)<=M*2^s):=by
  unfold qH at hq;by_cases h1:u<=f
  ·have hmf:more=false:=by
    grind
   subst hmf;have hq2:q=M*2^ (f-u).toNat:=by
    grind[mh]
   rw[hq2,axn,←axa,show(f-u).toNat+((u+16384).toNat+t)=s by omega];grind
  ·rw[if_neg h1]at hq;obtain⟨d,hd⟩:∃d,(u-f).toNat=d:=⟨_,rfl⟩;rw[hd]at hq;rw[show(u+16384).toNat+t=d+s by omega,axa,←axn];have hd:=axS M (2^d);have hm:=axq M (axb d);unfold mh at hq;constructor
   ·intro hw;subst hw;refine awZ _ ?_;by_cases hz:(more||decide (M%2^d≠0))=true
    ·rw[hz,Bool.and_true,if_pos rfl]at hq;subst hq;have:=Bool.toNat_le more;grind
    grind
   ·intro hw;subst hw;subst hq;refine awZ _ ?_;grind
 obtain⟨h1,h2⟩:=hT;unfold th at h⊢;by_cases hb:16384< (af q:Int)+u
 ·rw[if_pos hb]at h⊢;cases w with
  |true=>grind
  |false=>
   refine⟨_,JE (by omega) h,fun hw=>absurd hw awW,fun _=>?_⟩;have h3:=h2 rfl;have h4:2^ (32768+t)<=M*2^s:=by
    by_cases hb0:af q=0
    ·have hbm:=eL h0;have h5:=Qg (show af M-1<af M by omega);refine awX ?_ (awZ _ h5);rw[←axa];exact axC (by decide) (by omega)
    ·have h5:=Qg (show af q-1<af q by omega);refine awX ?_ (awX (awZ _ h5) h3);rw[←axa];exact axC (by decide) (by omega)
   have h7:(2^p.toNat-1)*2^ (16384-p+16384).toNat*2^t<=2^ (32768+t):=by
    rw[axn,←axa];refine awX (awZ _ (Nat.sub_le _ 1)) ?_;rw[←axa];exact axC (by decide) (by omega)
   omega
 ·rw[if_neg hb]at h⊢;refine⟨_,JE hu1.1 h,fun hw=>?_,fun hw=>?_⟩
  all_goals grind
theorem Qh{M:Nat}{f p:Int}{more w:Bool}:vd (cB M f more p w).1=true:=by
 have hc:∀ (q:Nat) (u:Int),vd (cH (bm false q u)).1=true:=fun q u=>by
  have:=(yj (z:=(q:Int)) (f:=u)).1;grind[cM,decide_eq_false,Int.natAbs_natCast]
 grind[cB,th,vd,aI]
theorem KE{z p:Int}{j:Nat}{up:Bool}(hp:8<=p/\p<=512)(h:(jj z (-16384- (j:Int)) p up).2=0):(up=true->z<=zI (jj z (-16384- (j:Int)) p up).1*2^j)/\(up=false->zI (jj z (-16384- (j:Int)) p up).1*2^j<=z):=by
 unfold jj at h⊢;by_cases h0:z=0
 ·rw[if_pos h0,cF rfl,Int.zero_mul,h0];omega
 ·unfold gL at h⊢;have key:∀w:Bool,(cB z.natAbs (-16384- (j:Int)) false p w).2=0->∃n:Nat,zI (cB z.natAbs (-16384- (j:Int)) false p w).1=(n:Int)/\(w=true->(z.natAbs:Int)<=(n:Int)*2^j)/\(w=false->(n:Int)*2^j<=(z.natAbs:Int)):=fun w hc=>by
   obtain⟨n,g1,g2,g3⟩:=HB (s:=0) (t:=j) (by omega) hp (by omega) (fun h=>absurd h awW) hc;refine⟨n,g1,fun hw=>?_,fun hw=>?_⟩
   all_goals grind
  by_cases hn:z<0
  ·grind[vS,Qh,Int.neg_mul]
  grind
theorem ajd{c:Rd}{p:Int}(vc:vd c=true)(hp:bJ p=true)(h:(bZ c p false).2=0):zI (bZ c p false).1<=zI c:=by
 have hp2:8<=p/\p<=512:=by
  simp_all[bJ,awS,decide_eq_true_eq]
 have hf:aY p [c]=0:=by grind[aY]
 unfold bZ at h⊢;rw[if_pos hf]at h⊢;have:=(KE (j:=0) hp2 h).2 rfl;grind
theorem aje{c:Rd}{p:Int}(vc:vd c=true)(hp:bJ p=true)(h:(bZ c p true).2=0):zI c<=zI (bZ c p true).1:=by
 have hp2:8<=p/\p<=512:=by
  simp_all[bJ,awS,decide_eq_true_eq]
 have hf:aY p [c]=0:=by grind[aY]
 unfold bZ at h⊢;rw[if_pos hf]at h⊢;have:=(KE (j:=0) hp2 h).1 rfl;grind
def v9(T V:Nat):Nat:=min 4294967295 (T/V)
theorem agE{T L V2 M v w k W V:Nat}(hW:W=T*4294967296^k+L)(hV:V=V2*4294967296^k+M)(hL:L<4294967296^k)(hM:M<4294967296^k)(h2:V2=v*4294967296+w)(hv:2147483648<=v)(hlt:W<4294967296*V):
  W/V<=v9 T V2/\v9 T V2<=W/V+1:=by
 generalize 4294967296^k=b at*
 have hV2:9223372036854775808<=V2:=by omega
 have hVp:0<V:=by
  omega
 have hV2p:0<V2:=by omega
 constructor
 ·refine Nat.le_min.2 ⟨?_,?_⟩
  ·have:=(Nat.div_lt_iff_lt_mul hVp).2 hlt;omega
  ·rw[Nat.le_div_iff_mul_le hV2p];have h1:W/V*V<=W:=Nat.div_mul_le_self W V;have h3:W/V*V2*b<=W/V*V:=by
    simp_all[axn,axW]
   have h4:W/V*V2*b< (T+1)*b:=by
    grind
   have:=Nat.lt_of_mul_lt_mul_right h4;omega
 ·have hg:v9 T V2*V2<=T:=by
   refine awX (awZ V2 (Nat.min_le_right _ _)) (Nat.div_mul_le_self T V2)
  have hg2:v9 T V2<=4294967295:=Nat.min_le_left _ _;generalize v9 T V2=g at*
  have h1:g*V=g*V2*b+g*M:=by grind
  have h2':g*V2*b<=T*b:=awZ b hg;have h3:g*M<=4294967295*b:=aFW hg2 (Nat.le_of_lt hM);have h4:9223372036854775808*b<=V2*b:=awZ b hV2;have h5:g*V<W+V:=by omega
  cases g with
  |zero=>grind
  |succ g=>
   rw[axk,Nat.one_mul]at h5;exact Nat.succ_le_succ ((Nat.le_div_iff_mul_le hVp).2 (by omega))
theorem V5{q rest third v w T V:Nat}(hT:T=(q*v+rest)*4294967296+third)(hV:V=v*4294967296+w)(hVp:0<V)(hw:w<4294967296)(hq:q<=4294967296):
  (rest<4294967296/\rest*4294967296+third<q*w->T/V<q)/\(¬ (rest<4294967296/\rest*4294967296+third<q*w)->q<=T/V):=by
 have e1:q*V=q*v*4294967296+q*w:=by grind
 constructor
 ·rw[Nat.div_lt_iff_lt_mul hVp];omega
 ·rw[Nat.le_div_iff_mul_le hVp];by_cases h1:rest<4294967296
  ·omega
  ·have:q*w<=4294967296*4294967296:=aFW hq (Nat.le_of_lt hw);omega
theorem XH{top next third v w:Nat}(hv:0<v)(hvb:v<4294967296)(ht:top<=v)(hn:next<4294967296)(h3:third<4294967296):
  min (if v<=top then 4294967295 else(top*4294967296+next)/v) (((top*4294967296+next)*4294967296+third)/ (v*4294967296+w))=v9 ((top*4294967296+next)*4294967296+third) (v*4294967296+w):=by
 unfold v9;by_cases h:v<=top
 ·rw[if_pos h]
 ·rw[if_neg h];have h1:((top*4294967296+next)*4294967296+third)/ (v*4294967296+w)<=(top*4294967296+next)/v:=by
   rw[Nat.le_div_iff_mul_le hv];have h2:=Nat.div_mul_le_self ((top*4294967296+next)*4294967296+third) (v*4294967296+w);grind
  have h2:(top*4294967296+next)/v<4294967296:=by
   rw[Nat.div_lt_iff_lt_mul hv];omega
  omega
def sM(q:Nat):List Nat->List Nat->Nat->Nat->List Nat×Nat×Nat
 |u::us,y::vs,c,b=>(((u+18446744073709551616- (q*y+c) %4294967296-b) %18446744073709551616%4294967296)::(sM q us vs ((q*y+c)/4294967296) ((u+18446744073709551616- (q*y+c) %4294967296-b) %18446744073709551616/9223372036854775808)).1,(sM q us vs ((q*y+c)/4294967296) ((u+18446744073709551616- (q*y+c) %4294967296-b) %18446744073709551616/9223372036854775808)).2)
 |_,_,c,b=>([],c,b)
theorem Qi{u s b:Nat}(hu:u<4294967296)(hs:s<4294967296)(hb:b<=1):
  (u+18446744073709551616-s-b) %18446744073709551616/9223372036854775808<=1/\(u+18446744073709551616-s-b) %18446744073709551616%4294967296+s+b=u+4294967296*((u+18446744073709551616-s-b) %18446744073709551616/9223372036854775808):=by
 omega
theorem V6{q:Nat}(hq:q<4294967296):∀ {us vs:List Nat} {c b:Nat},Lb us->Lb vs->us.length=vs.length->c<4294967296->b<=1->
  ab us+4294967296^vs.length*((sM q us vs c b).2.1+(sM q us vs c b).2.2)=ab (sM q us vs c b).1+q*ab vs+c+b/\(sM q us vs c b).2.1<4294967296/\(sM q us vs c b).2.2<=1/\Lb (sM q us vs c b).1/\(sM q us vs c b).1.length=vs.length
 |[],[],c,b,_,_,_,hc,hb=>by
  refine⟨?_,hc,hb,fun x hx=>(nomatch hx),rfl⟩;show 0+4294967296^0*(c+b)=0+q*0+c+b;omega
 |u::us,y::vs,c,b,hu,hv,hl,hc,hb=>by
  have hu0:=hu u (by simp);have hy0:=hv y (by simp);have hp:q*y+c<4294967296*4294967296:=by
   have h1:q*y<=4294967295*4294967295:=aFW (by omega) (by omega);omega
  have hs:=axq (q*y+c) (by decide:0<4294967296);have hd:=axS (q*y+c) 4294967296;have hc2:(q*y+c)/4294967296<4294967296:=by
   omega
  obtain⟨k1,k2⟩:=Qi (b:=b) hu0 hs hb;have ih:=V6 hq (us:=us) (vs:=vs) (c:=(q*y+c)/4294967296) (b:=(u+18446744073709551616- (q*y+c) %4294967296-b) %18446744073709551616/9223372036854775808) (fun x hx=>hu x (by grind)) (fun x hx=>hv x (by grind)) (by grind) hc2 k1;obtain⟨i1,i2,i3,i4,i5⟩:=ih;unfold sM;generalize(u+18446744073709551616- (q*y+c) %4294967296-b) %18446744073709551616/9223372036854775808=b2 at*
  generalize(q*y+c)/4294967296=c2 at*
  generalize sM q us vs c2 b2=r at*
  refine⟨?_,i2,i3,fun x hx=>?_,by grind⟩
  ·grind[ab,axO,axf,axn,Nat.mul_add,Nat.mul_left_comm]
  ·rcases List.mem_cons.1 hx with rfl|hx
   ·omega
   ·exact i4 x hx
 |[],_::_,_,_,_,_,h,_,_=>by grind
 |_::_,[],_,_,_,_,h,_,_=>by grind
def ns(q top:Nat)(us vs:List Nat):List Nat×Nat×Bool:=
 ((sM q us vs 0 0).1,(top+18446744073709551616- (sM q us vs 0 0).2.1- (sM q us vs 0 0).2.2) %18446744073709551616%4294967296,decide ((top+18446744073709551616- (sM q us vs 0 0).2.1- (sM q us vs 0 0).2.2) %18446744073709551616/9223372036854775808=1))
theorem Qj{q top:Nat}{us vs:List Nat}(hq:q<4294967296)(ht:top<4294967296)(hu:Lb us)(hv:Lb vs)(hl:us.length=vs.length):
  (ab us+4294967296^vs.length*top+(if(ns q top us vs).2.2=true then 4294967296^vs.length*4294967296 else 0)=ab (ns q top us vs).1+4294967296^vs.length*(ns q top us vs).2.1+q*ab vs)/\(ns q top us vs).2.1<4294967296/\Lb (ns q top us vs).1/\(ns q top us vs).1.length=vs.length:=by
 obtain⟨h1,h2,h3,h4,h5⟩:=V6 hq hu hv hl (c:=0) (b:=0) (by decide) (by decide);unfold ns;generalize sM q us vs 0 0=r at*
 obtain⟨r1,c,b⟩:=r;refine⟨?_,axq _ (by decide),h4,h5⟩;obtain⟨k1,k2⟩:=Qi (u:=top) (s:=c) (b:=b) ht h2 h3;generalize(top+18446744073709551616-c-b) %18446744073709551616/9223372036854775808=f at*
 generalize(top+18446744073709551616-c-b) %18446744073709551616%4294967296=t2 at*
 have e1:4294967296^vs.length*(c+b)+4294967296^vs.length*t2=4294967296^vs.length*top+4294967296^vs.length*4294967296*f:=by
  grind
 grind
def zX(top:Nat)(us:List Nat):Nat:=(top*4294967296+us.getD (us.length-1) 0)*4294967296+us.getD (us.length-2) 0
def yk(vs:List Nat):Nat:=vs.getD (vs.length-1) 0*4294967296+vs.getD (vs.length-2) 0
def wV(top:Nat)(us vs:List Nat):List Nat×Nat×Nat:=
 if(ns (v9 (zX top us) (yk vs)) top us vs).2.2=true then
  (aEr (ns (v9 (zX top us) (yk vs)) top us vs).1 vs vs.length,((ns (v9 (zX top us) (yk vs)) top us vs).2.1+dY (ns (v9 (zX top us) (yk vs)) top us vs).1 vs vs.length) %4294967296,v9 (zX top us) (yk vs)-1)
 else((ns (v9 (zX top us) (yk vs)) top us vs).1,(ns (v9 (zX top us) (yk vs)) top us vs).2.1,v9 (zX top us) (yk vs))
theorem V7{l:List Nat}{k:Nat}(h:l.length=k+2):ab l=(l.getD (k+1) 0*4294967296+l.getD k 0)*4294967296^k+ab (l.take k):=by
 have h1:=eC l (k+1);have h2:=eC l k;grind
theorem ad4{top:Nat}{us vs:List Nat}{k:Nat}(ht:top<4294967296)(hu:Lb us)(hv:Lb vs)(hul:us.length=k+2)(hvl:vs.length=k+2)(hn:2147483648<=vs.getD (k+1) 0)(hlt:ab us+4294967296^ (k+2)*top<4294967296*ab vs):
  ab (wV top us vs).1+4294967296^ (k+2)*(wV top us vs).2.1=(ab us+4294967296^ (k+2)*top) %ab vs/\(wV top us vs).2.2=(ab us+4294967296^ (k+2)*top)/ab vs/\Lb (wV top us vs).1/\(wV top us vs).1.length=k+2/\(wV top us vs).2.1<4294967296:=by
 obtain⟨W,hW⟩:∃W,ab us+4294967296^ (k+2)*top=W:=⟨_,rfl⟩;obtain⟨V,hV⟩:∃V,ab vs=V:=⟨_,rfl⟩;have a1:=V7 hul;have a2:=V7 hvl;have l1:=cG (eY hu k);have l2:=cG (eY hv k);rw[axd,axP (by omega)]at l1 l2;have hT:W=zX top us*4294967296^k+ab (us.take k):=by
  unfold zX;grind
 have hV2:V=yk vs*4294967296^k+ab (vs.take k):=by
  grind[yk]
 rw[hW]at hlt⊢;rw[hV]at hlt⊢;obtain⟨g1,g2⟩:=agE hT hV2 l1 l2 (show yk vs=vs.getD (k+1) 0*4294967296+vs.getD k 0 by grind[yk]) hn hlt;have hgb:v9 (zX top us) (yk vs)<4294967296:=by
  grind[v9,zX,yk,Nat.min_le_left]
 unfold wV;generalize v9 (zX top us) (yk vs)=g at*
 obtain⟨t1,t2,t3,t4⟩:=Qj (q:=g) hgb ht hu hv (by omega);generalize ns g top us vs=r at*
 obtain⟨r1,r2,f⟩:=r;simp only at t1 t2 t3 t4⊢;rw[hvl,hW,hV]at t1;rw[hvl]at t4;have hVp:0<V:=by
  omega
 have hdm:=axS W V;have hml:=axq W hVp;have hVb:V<4294967296^ (k+2):=by grind[cG]
 have hrb:ab r1<4294967296^ (k+2):=by grind[cG]
 generalize hB:4294967296^ (k+2)=b at*
 cases f with
 |false=>
  simp only[axV,if_false,axo]at t1⊢;have h1:g<=W/V:=(Nat.le_div_iff_mul_le hVp).2 (by omega);have h2:g=W/V:=Nat.le_antisymm h1 g1;refine⟨?_,h2,t3,t4,t2⟩;rw[h2,axf (W/V) V]at t1;omega
 |true=>
  simp only[if_true]at t1⊢;have hbr:b*r2+ab r1<b*4294967296:=by
   have h1:b*(r2+1)<=b*4294967296:=axW b (by omega);rw[Nat.mul_add,Nat.mul_one]at h1;omega
  have h1:¬g<=W/V:=fun h=>by
   have:=(Nat.le_div_iff_mul_le hVp).1 h;omega
  have h2:g=W/V+1:=by omega
  have s1:=Hk r1 vs (k+2);rw[hB,axg (by omega),axg (by omega),hV]at s1;have s2:=PU r1 vs (k+2);have s3:(aEr r1 vs (k+2)).length=k+2:=by unfold aEr;rw[List.length_map,List.length_range]
  have s4:ab (aEr r1 vs (k+2))<b:=by
   have:=cG s2;rw[s3,hB]at this;exact this
  rw[hvl];refine⟨?_,by show g-1=W/V;rw[h2,Nat.add_sub_cancel],s2,s3,axq _ (by decide)⟩;rw[h2,axk,Nat.one_mul,axf (W/V) V]at t1;have e1:ab (aEr r1 vs (k+2))+b*(dY r1 vs (k+2)+r2)=b*4294967296+W%V:=by
   rw[Nat.mul_add];omega
  have hc:dY r1 vs (k+2)+r2=4294967296:=by
   have h3:¬dY r1 vs (k+2)+r2<4294967296:=fun h=>by
    have h4:b*(dY r1 vs (k+2)+r2+1)<=b*4294967296:=axW b h;rw[Nat.mul_add b _ 1,Nat.mul_one]at h4;omega
   have h5:¬4294967296<dY r1 vs (k+2)+r2:=fun h=>by
    have h4:b*(4294967296+1)<=b*(dY r1 vs (k+2)+r2):=axW b h;omega
   omega
  rw[hc]at e1;rw[Nat.add_comm r2,hc,Nat.mod_self,Nat.mul_zero];omega
def nO(u:List Nat)(j:Nat)(us:List Nat)(top:Nat):List Nat:=u.take j++(us++top::u.drop (j+us.length+1))
def ym(vs:List Nat):Nat->List Nat->List Nat×List Nat
 |0,u=>(u,[])
 |j+1,u=>((ym vs j (nO u j (wV (u.getD (j+vs.length) 0) ((u.drop j).take vs.length) vs).1 (wV (u.getD (j+vs.length) 0) ((u.drop j).take vs.length) vs).2.1)).1,
   (ym vs j (nO u j (wV (u.getD (j+vs.length) 0) ((u.drop j).take vs.length) vs).1 (wV (u.getD (j+vs.length) 0) ((u.drop j).take vs.length) vs).2.1)).2++[(wV (u.getD (j+vs.length) 0) ((u.drop j).take vs.length) vs).2.2])
theorem E6(l:List Nat)(i:Nat)(h:i<=l.length):ab l=ab (l.take i)+4294967296^i*ab (l.drop i):=by
 grind[dV,List.take_append_drop,axd,axP]
theorem agF(l:List Nat)(x:Nat):ab (l++[x])=ab l+4294967296^l.length*x:=by
 rw[dV];show _+_*(x+4294967296*0)=_;grind
theorem YY{u:List Nat}{j n V:Nat}(hu:Lb u)(hl:j+n<u.length)(hV:V<4294967296^n)(h:ab (u.drop (j+1))<V):
  ab ((u.drop j).take n)+4294967296^n*u.getD (j+n) 0=ab (u.drop j)/\ab (u.drop (j+n+1))=0/\ab (u.drop j)<4294967296*V:=by
 have h0:=fu u j;have hj:=bN hu j;have h1:=E6 (u.drop j) (n+1) (by grind);rw[List.drop_drop,eC]at h1;have h2:(u.drop j).getD n 0=u.getD (j+n) 0:=by
  grind
 rw[h2,show j+(n+1)=j+n+1 by omega]at h1;have h4:ab (u.drop (j+n+1))=0:=by
  refine Nat.eq_zero_of_not_pos fun hp=>?_;have:4294967296^ (n+1)*1<=4294967296^ (n+1)*ab (u.drop (j+n+1)):=axW _ hp;omega
 grind
theorem D5{u us:List Nat}{j top:Nat}(h:j+us.length<u.length):(nO u j us top).length=u.length:=by
 grind[nO,axG,axE,axd,ax2]
theorem Qk{u us:List Nat}{j top:Nat}(hu:Lb u)(hs:Lb us)(ht:top<4294967296):Lb (nO u j us top):=by
 grind[nO,oZ,iL,eY,mG]
theorem JF{u us:List Nat}{j top:Nat}(h:j<=u.length):(nO u j us top).drop j=us++top::u.drop (j+us.length+1):=by
 unfold nO;rw[List.drop_append_of_le_length (by rw[axd];omega),List.drop_of_length_le (by rw[axd];omega),axc]
theorem ad5{u us:List Nat}{j top:Nat}(h:j<=u.length):(nO u j us top).take j=u.take j:=by
 unfold nO;rw[List.take_append_of_le_length (by rw[axd];omega),List.take_take,Nat.min_self]
theorem w2'{u:List Nat}{j n s2:Nat}(h:ab (u.drop (j+n+1))=0):ab (s2::u.drop (j+n+1))=s2:=by
 simp_all[ab,Nat.mul_zero,axo]
theorem ad6{vs:List Nat}{k:Nat}(hv:Lb vs)(hvl:vs.length=k+2)(hn:2147483648<=vs.getD (k+1) 0):
  ∀ (j:Nat) (u:List Nat),Lb u->j+(k+2)<=u.length->ab (u.drop j)<ab vs->ab u=ab (ym vs j u).1+ab vs*ab (ym vs j u).2/\ab (ym vs j u).1<ab vs/\(ym vs j u).2.length=j/\(ym vs j u).1.length=u.length/\Lb (ym vs j u).1/\Lb (ym vs j u).2
 |0,u,hu,_,h=>by
  refine⟨?_,h,rfl,rfl,hu,fun x hx=>(nomatch hx)⟩;show ab u=ab u+ab vs*0;omega
 |j+1,u,hu,hl,h=>by
  have hVb:ab vs<4294967296^ (k+2):=by grind[cG]
  obtain⟨w1,w2,w3⟩:=YY (n:=k+2) hu (by omega) hVb h;have hlen:((u.drop j).take (k+2)).length=k+2:=by grind
  have hs:=ad4 (top:=u.getD (j+(k+2)) 0) (bN hu _) (eY (mG hu j) (k+2)) hv hlen hvl hn (by omega);rw[w1]at hs;unfold ym;rw[hvl];generalize wV (u.getD (j+(k+2)) 0) ((u.drop j).take (k+2)) vs=s at*
  obtain⟨s1,s2,s3⟩:=s;obtain⟨d1,d2,d3,d4,d5⟩:=hs;simp only at d1 d2 d3 d4 d5⊢;have hd:ab ((nO u j s1 s2).drop j)=ab (u.drop j) %ab vs:=by
   grind[JF,dV,w2']
  have hVp:0<ab vs:=by omega
  have ih:=ad6 hv hvl hn j (nO u j s1 s2) (Qk hu d3 d5) (by grind[D5]) (by simp_all[axq]);obtain⟨i1,i2,i3,i4,i5,i6⟩:=ih;have hval:=E6 (nO u j s1 s2) j (by grind[D5]);rw[ad5 (by omega),hd]at hval;have hval2:=E6 u j (by omega);generalize ym vs j (nO u j s1 s2)=r at*
  obtain⟨r1,r2⟩:=r;refine⟨?_,i2,by grind,by rw[i4,D5 (by omega)],i5,?_⟩
  ·grind[agF,Nat.mul_add,axS,ab,Nat.mul_left_comm,Nat.add_comm]
  ·rw[oZ];refine⟨i6,fun x hx=>?_⟩
   simp_all[Nat.div_lt_iff_lt_mul]
end Go.Ab
