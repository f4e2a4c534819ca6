/-
  A law of tapes on models holds at every input that the statement speaks of, under the conditions that its card names. Part E1.
-/
import Derived.Test.YtighajjmobfadaaGreatDoorD1
open Nat renaming add_mul → aC8, add_zero → aDm, div_add_mod → aDC, le_of_ble_eq_true → aDa, le_refl → aCJ, le_trans → aCP, lt_of_le_of_lt → aDe, lt_of_lt_of_le → aDF, min_eq_left → aDx, mod_eq_of_lt → aDq, mod_lt → aDj, mul_assoc → aC9, mul_comm → aC6, mul_le_mul_left → aDD, mul_le_mul_right → aCS, pow_add → aCU, pow_le_pow_right → aDn, pow_succ → aDw, reduceMod → aDo, reduceSub → aDi, two_pow_pos → aC1, zero_add → aCI, zero_le → aC7
open Int renaming eq_ofNat_of_zero_le → aDG, lt_irrefl → aDl, natCast_zero → aDf, reduceEq → aCZ, reduceLE → aC2, reduceLT → aCV, reduceToNat → aDg, toNat_natCast → aCQ
open Bool renaming and_eq_true → aCK, and_false → aDH, and_self → aDv, false_and → aCO, false_eq_true → aDy, false_ne_true → aCR, not_eq_true' → aDJ, true_and → aCM
open List renaming all_cons → aDb, all_eq_true → aC5, append_assoc → aDr, append_nil → aCY, cons_append → aDd, drop_eq_getElem_cons → aC4, drop_eq_nil_of_le → aC3, drop_zero → aDI, getElem_mem → aC0, length_append → aDA, length_cons → aDp, length_drop → aDL, length_nil → aDs, length_replicate → aDK, length_take → aCW, map_congr_left → aDk, map_cons → aDc, map_id' → aDu, map_nil → aDh, mem_map → aDz, nil_append → aCT, replicate → aCG, take_of_length_le → aCX
open Option renaming bind_eq_some_iff → aCH, bind_some → aCN, map_eq_some_iff → aCL, map_some → aDt
set_option linter.all false
namespace Go.Ab
open Go Go.IntWalk
set_option maxRecDepth 4000
set_option maxHeartbeats 4000000
variable{A Bt T l':List Rt}{M V i id j n rest third top w:Nat}{a x:List Int}{args as' zas:List AV}{b u us:List Nat}{c' res:AV}{d:Rd}{dom:List Ri}{e e' iA nA p v' vb y z:Int}{f:FuncId}{neg:Bool}{o' o2 o3:Ob}{rows:List (List AV)}{t:Rt}{xs:List Rd}
theorem S7{m:List Nat}(h:m.length<=i):m.getD i 0=0:=by
 grind
theorem ahk(a b:List Nat)(i:Nat):dH a b (i+1)=dH a b i++[HO a b i]:=by simp[dH,List.range_succ]
theorem ahl(a b:List Nat)(i:Nat):lB a b (i+1)=lB a b i++[JA a b i]:=by simp[lB,List.range_succ]
theorem ahm{a:List Nat}(ha:Lb a)(hb:Lb b)(h1:a.length<=100000)(h2:b.length<=100000):∀ (k i:Nat),i+k=max a.length b.length->∀ (s:ap) (h:ae),s 0=lm a->s 1=lm b->s 6=W (fw a b i:Nat)->s 7=I i->Ha 49 (dH a b i) (s 5) (h 49)->
  ∃x hh,ak 0 [5,6] (av (am R (az false) fK) [0,1,5,6,7] [49] s h)=some (.normal,⟨upd (upd bk 6 (W (fw a b (max a.length b.length):Nat))) 5 x,hh⟩)/\Ha 49 (dH a b (max a.length b.length)) x (hh 49)/\∀a,a≠49->hh a=.dead:=by
 intro k;induction k with
 |zero=>
  intro i hi s h h0 g1 h6 h7 hacc;have e1:((i:Int)< (a.length:Int))=False:=ff;have e2:((i:Int)< (b.length:Int))=False:=ff;have:i=max a.length b.length:=ω
  rw[←this];rw[ah];rcases hacc with⟨g2,h5,hh⟩| ⟨g2,h5,hh⟩
  ·refine⟨.emp,?hh0,?_,Or.inl ⟨g2,rfl,?_⟩,?_⟩;rotate_left
   ·simp only[fK,go_sem,h0,g1,h5,h6,h7,hh,e1,e2];rfl
   all_goals simp_all[cB,if_false]
  ·refine⟨.rsl 49 none 1 0 (dH a b i).length,?hh1,?_,Or.inr ⟨g2,rfl,?_⟩,?_⟩;rotate_left
   ·simp only[fK,go_sem,h0,g1,h5,h6,h7,hh,e1,e2];rfl
   all_goals simp_all[cB,if_false]
 |succ k ih=>
  intro i hi s h h0 g1 h6 h7 hacc;have ih':=ih (i+1) ω;have hx:=bZ ha i;have hy:=bZ hb i;have hc:=F9 ha hb i;have e3:aG ((i:Int)+1)=((i+1:Nat):Int):=wi;have q1:((dH a b i).length+1)*4<=140737488355328:=by grind[ko]
  have f3:=tt q1;have e4:IntKind.u64.wrap (a.getD i 0:Int)=(a.getD i 0:Int):=dG rfl ω;have e5:IntKind.u64.wrap (b.getD i 0:Int)=(b.getD i 0:Int):=dG rfl ω;have f8:=qE (n:=a.getD i 0+b.getD i 0+fw a b i) (k:=32) (kk:=.u64) (j:=32) rfl rfl ω;rw[show(a.getD i 0+b.getD i 0+fw a b i)/2^32=fw a b (i+1)from rfl]at f8;have f9:=zX (n:=a.getD i 0+b.getD i 0+fw a b i) rfl ω;rw[show(a.getD i 0+b.getD i 0+fw a b i) %4294967296=HO a b i from rfl]at f9;have f10:IntKind.u32.wrap ((HO a b i:Nat):Int)=((HO a b i:Nat):Int):=CG rfl (aDj _ ω);rw[ah];rw[ahk]at ih';generalize av _ _ _=L at ih'⊢;by_cases hla:i<a.length
  ·have e1:((i:Int)< (a.length:Int))=True:=tt;have e2:aZ (aE a) (i:Int)=some (.ipt [U (a.getD i 0:Nat)]):=bI rfl hla;have w1:IntKind.u64.wrap ((fw a b i:Int)+(a.getD i 0:Int))=((a.getD i 0+fw a b i:Nat):Int):=dG ω ω;by_cases hlb:i<b.length
   ·have e6:((i:Int)< (b.length:Int))=True:=tt;have e7:aZ (aE b) (i:Int)=some (.ipt [U (b.getD i 0:Nat)]):=bI rfl hlb;have w2:IntKind.u64.wrap (((a.getD i 0+fw a b i:Nat):Int)+(b.getD i 0:Int))=((a.getD i 0+b.getD i 0+fw a b i:Nat):Int):=dG ω ω;rcases hacc with⟨g2,h5,hh⟩| ⟨g2,h5,hh⟩
    ·simp only[fK,go_sem,h0,g1,h5,h6,h7,hh,e1,e2,e3,e4,e5,e6,e7,w1,w2,f8,f9,f10];rw[g2]at ih';exact ih' _ _ rfl rfl rfl rfl De
    ·simp only[fK,go_sem,h0,g1,h5,h6,h7,hh,e1,e2,e3,e4,e5,e6,e7,w1,w2,f3,f8,f9,f10,true_or,aCI,aCJ,xM];exact ih' _ _ rfl rfl rfl rfl AL
   ·have e6:((i:Int)< (b.length:Int))=False:=ff;have hz:=S7 (m:=b) (i:=i) ω;have w2:((a.getD i 0+fw a b i:Nat):Int)=((a.getD i 0+b.getD i 0+fw a b i:Nat):Int):=ω
    rw[w2]at w1;rcases hacc with⟨g2,h5,hh⟩| ⟨g2,h5,hh⟩
    ·simp only[fK,go_sem,h0,g1,h5,h6,h7,hh,e1,e2,e3,e4,e6,w1,f8,f9,f10];rw[g2]at ih';exact ih' _ _ rfl rfl rfl rfl De
    ·simp only[fK,go_sem,h0,g1,h5,h6,h7,hh,e1,e2,e3,e4,e6,w1,f3,f8,f9,f10,true_or,aCI,aCJ,xM];exact ih' _ _ rfl rfl rfl rfl AL
  ·have e1:((i:Int)< (a.length:Int))=False:=ff;have hlb:i<b.length:=ω
   have e6:((i:Int)< (b.length:Int))=True:=tt;have e7:aZ (aE b) (i:Int)=some (.ipt [U (b.getD i 0:Nat)]):=bI rfl hlb;have hz:=S7 (m:=a) (i:=i) ω;have w2:IntKind.u64.wrap ((fw a b i:Int)+(b.getD i 0:Int))=((a.getD i 0+b.getD i 0+fw a b i:Nat):Int):=dG ω ω;rcases hacc with⟨g2,h5,hh⟩| ⟨g2,h5,hh⟩
   ·simp only[fK,go_sem,h0,g1,h5,h6,h7,hh,e1,e3,e5,e6,e7,w2,f8,f9,f10];rw[g2]at ih';exact ih' _ _ rfl rfl rfl rfl De
   ·simp only[fK,go_sem,h0,g1,h5,h6,h7,hh,e1,e3,e5,e6,e7,w2,f3,f8,f9,f10,true_or,aCI,aCJ,xM];exact ih' _ _ rfl rfl rfl rfl AL
theorem akv{a:List Nat}(_ha:Lb a)(_hb:Lb b){L:Nat}(h1:a.length<=L)(h2:b.length<=L):ab (dH a b L++[fw a b L])=ab a+ab b:=by
 grind[Jz,aCX,ez,ko,ab]
theorem akw{a:List Nat}(ha:Lb a)(hb:Lb b)(h1:a.length<=10000)(h2:b.length<=10000):R fdq [lm a,lm b] []=some (lm (aA (ab a+ab b)),[]):=by
 refine au aeC rfl ?_;obtain⟨M,hM⟩:∃M,max a.length b.length=M:=⟨_,rfl⟩;have hr:=ahm ha hb ω ω M 0 ω;rw[hM]at hr;have hsv:=akv ha hb (L:=M) ω ω;have hc:=F9 ha hb M;have hL:=ko a b M;have hLb:=SP a b M;have q0:Ha 49 (dH a b 0) .emp .dead:=Or.inl ⟨rfl,rfl,rfl⟩;generalize dH a b M=out at hr hsv hL hLb;generalize fw a b M=c at hr hsv hc;have ht:=Dd (m:=out++[c]) (mN.2 ⟨hLb,ig.2 ⟨by omega,If⟩⟩) γ;rw[hsv]at ht;have e8:IntKind.u32.wrap (c:Int)=(c:Int):=CG rfl ω;have q1:(out.length+1)*4<=140737488355328:=ω
 have f3:=tt q1;have f4:=JK (out++[c]);rw[show(out++[c]).length=out.length+1 by simp]at f4;generalize aA (ab a+ab b)=res at ht⊢;generalize hLL:av (am R (az false) fK) [0,1,5,6,7] [49]=L at hr;have hX:∀s h,am R (az false) (.loop [0,1,5,6,7] [49] fK) s h=L s h:=fun s h=>by rw[←hLL];rfl
 have hr2:∀ (S:ap) (H:ae) (X:Option (Ex×St)),ak 0 [5,6] (L S H)=X->S 0=lm a->S 1=lm b->S 6=W 0->S 7=I 0->S 5=.emp->H 49=.dead->∃x hh,X=some (.normal,⟨upd (upd bk 6 (W c)) 5 x,hh⟩)/\Ha 49 out x (hh 49)/\∀a,a≠49->hh a=.dead:=fun S H X hX a0 a1 a6 a7 a5 b=>by
  rw[←hX];exact hr S H a0 a1 a6 a7 γ
 simp only[HG,Qt,hX,go_sem];generalize hB:ak 0 [5,6] (L _ _)=X;obtain⟨x,hh,g0,hacc,gd⟩:=hr2 _ _ _ hB rfl rfl rfl rfl rfl rfl;rw[g0];rcases hacc with⟨c1,c2,c3⟩| ⟨c1,c2,c3⟩
 ·rw[c1]at ht;have ht':R fdt [.sl 1 [[U c]]] []=some (lm res,[]):=ht;simp only[go_sem,c2,e8,ht',ne_eq,not_false_eq_true,gd]
 ·simp only[go_sem,c2,c3,e8,f3,f4,ht,ne_eq,not_false_eq_true,gd,xM,true_or,aCI,aCJ,List.length_singleton,MJ,aDA]
theorem ae1{a:List Nat}(ha:Lb a)(hb:Lb b)(h1:a.length<=100000):∀ (k i:Nat),i+k=a.length->∀ (s:ap) (h:ae),s 0=lm a->s 1=lm b->s 6=W (qJ a b i:Nat)->s 7=I i->Ha 41 (lB a b i) (s 5) (h 41)->
  ∃x hh,ak 0 [5] (av (am R (az false) gG) [0,1,5,6,7] [41] s h)=some (.normal,⟨upd bk 5 x,hh⟩)/\Ha 41 (lB a b a.length) x (hh 41)/\∀a,a≠41->hh a=.dead:=by
 intro k;induction k with
 |zero=>
  intro i hi s h h0 g1 h6 h7 hacc;have e1:((i:Int)< (a.length:Int))=False:=ff;have:i=a.length:=ω
  rw[←this];rw[ah];rcases hacc with⟨g2,h5,hh⟩| ⟨g2,h5,hh⟩
  ·refine⟨.emp,?hh0,?_,Or.inl ⟨g2,rfl,?_⟩,?_⟩;rotate_left
   ·simp only[gG,go_sem,h0,g1,h5,h6,h7,hh,e1];rfl
   all_goals simp_all[cB,if_false]
  ·refine⟨.rsl 41 none 1 0 (lB a b i).length,?hh1,?_,Or.inr ⟨g2,rfl,?_⟩,?_⟩;rotate_left
   ·simp only[gG,go_sem,h0,g1,h5,h6,h7,hh,e1];rfl
   all_goals simp_all[cB,if_false]
 |succ k ih=>
  intro i hi s h h0 g1 h6 h7 hacc;have ih':=ih (i+1) ω;have hx:=bZ ha i;have hy:=bZ hb i;have hc:=Im a b i;have hla:i<a.length:=ω
  have e1:((i:Int)< (a.length:Int))=True:=tt;have e2:aZ (aE a) (i:Int)=some (.ipt [U (a.getD i 0:Nat)]):=bI rfl hla;have e3:aG ((i:Int)+1)=((i+1:Nat):Int):=wi;have q1:((lB a b i).length+1)*4<=140737488355328:=by grind[zQ]
  have f3:=tt q1;have e4:IntKind.u64.wrap (a.getD i 0:Int)=(a.getD i 0:Int):=dG rfl ω;have e5:IntKind.u64.wrap (b.getD i 0:Int)=(b.getD i 0:Int):=dG rfl ω;have w3:IntKind.u64.wrap ((a.getD i 0:Int)+4294967296)=((a.getD i 0+4294967296:Nat):Int):=dG ω ω;have w4:IntKind.u64.wrap (((a.getD i 0+4294967296:Nat):Int)- ((b.getD i 0+qJ a b i:Nat):Int))=((a.getD i 0+4294967296-b.getD i 0-qJ a b i:Nat):Int):=dG ω ω;have f8:=qE (n:=a.getD i 0+4294967296-b.getD i 0-qJ a b i) (k:=32) (kk:=.u64) (j:=32) rfl rfl ω;have w5:IntKind.u64.wrap (1- (((a.getD i 0+4294967296-b.getD i 0-qJ a b i)/2^32:Nat):Int))=((qJ a b (i+1):Nat):Int):=by
   grind[dG,Im,qJ]
  have f9:=zX (n:=a.getD i 0+4294967296-b.getD i 0-qJ a b i) rfl ω;rw[show(a.getD i 0+4294967296-b.getD i 0-qJ a b i) %4294967296=JA a b i from rfl]at f9;have f10:IntKind.u32.wrap ((JA a b i:Nat):Int)=((JA a b i:Nat):Int):=CG rfl (aDj _ ω);rw[ah];rw[ahl]at ih';generalize av _ _ _=L at ih'⊢;by_cases hlb:i<b.length
  ·have e6:((i:Int)< (b.length:Int))=True:=tt;have e7:aZ (aE b) (i:Int)=some (.ipt [U (b.getD i 0:Nat)]):=bI rfl hlb;have w2:IntKind.u64.wrap ((qJ a b i:Int)+(b.getD i 0:Int))=((b.getD i 0+qJ a b i:Nat):Int):=dG ω ω;rcases hacc with⟨g2,h5,hh⟩| ⟨g2,h5,hh⟩
   ·simp only[gG,go_sem,h0,g1,h5,h6,h7,hh,e1,e2,e3,e4,e5,e6,e7,w2,w3,w4,w5,f8,f9,f10];rw[g2]at ih';exact ih' _ _ rfl rfl rfl rfl De
   ·simp only[gG,go_sem,h0,g1,h5,h6,h7,hh,e1,e2,e3,e4,e5,e6,e7,w2,w3,w4,w5,f3,f8,f9,f10,true_or,aCI,aCJ,xM];exact ih' _ _ rfl rfl rfl rfl AL
  ·have e6:((i:Int)< (b.length:Int))=False:=ff;have hz:=S7 (m:=b) (i:=i) ω;have w2:((b.getD i 0+qJ a b i:Nat):Int)=(qJ a b i:Int):=ω
   rw[w2]at w4;rcases hacc with⟨g2,h5,hh⟩| ⟨g2,h5,hh⟩
   ·simp only[gG,go_sem,h0,g1,h5,h6,h7,hh,e1,e2,e3,e4,e6,w3,w4,w5,f8,f9,f10];rw[g2]at ih';exact ih' _ _ rfl rfl rfl rfl De
   ·simp only[gG,go_sem,h0,g1,h5,h6,h7,hh,e1,e2,e3,e4,e6,w3,w4,w5,f3,f8,f9,f10,true_or,aCI,aCJ,xM];exact ih' _ _ rfl rfl rfl rfl AL
theorem Uz{a:List Nat}(ha:Lb a)(hb:Lb b)(h1:a.length<=10000)(h2:b.length<=a.length)(hv:ab b<=ab a):R fdp [lm a,lm b] []=some (lm (aA (ab a-ab b)),[]):=by
 refine au aa3 rfl ?_;have hr:=ae1 ha hb ω a.length 0 ω;have hall:=Yk ha hb h2 hv;have hsv:ab (lB a b a.length)=ab a-ab b:=by
  rw[hall,l6,aDq];grind[aDe,Nat.sub_le,di]
 have hL:=zQ a b a.length;have hLb:=SQ a b a.length;have q0:Ha 41 (lB a b 0) .emp .dead:=Or.inl ⟨rfl,rfl,rfl⟩;generalize lB a b a.length=out at hr hsv hL hLb;have ht:=Dd (m:=out) hLb ω;rw[hsv]at ht;generalize hLL:av (am R (az false) gG) [0,1,5,6,7] [41]=L at hr;have hX:∀s h,am R (az false) (.loop [0,1,5,6,7] [41] gG) s h=L s h:=fun s h=>by rw[←hLL];rfl
 have hr2:∀ (S:ap) (H:ae) (X:Option (Ex×St)),ak 0 [5] (L S H)=X->S 0=lm a->S 1=lm b->S 6=W 0->S 7=I 0->S 5=.emp->H 41=.dead->∃x hh,X=some (.normal,⟨upd bk 5 x,hh⟩)/\Ha 41 out x (hh 41)/\∀a,a≠41->hh a=.dead:=fun S H X hX a0 a1 a6 a7 a5 b=>by
  rw[←hX];exact hr S H a0 a1 a6 a7 γ
 simp only[FQ,N6,hX,go_sem];generalize hB:ak 0 [5] (L _ _)=X;obtain⟨x,hh,g0,hacc,gd⟩:=hr2 _ _ _ hB rfl rfl rfl rfl rfl rfl;rw[g0];rcases hacc with⟨c1,c2,c3⟩| ⟨c1,c2,c3⟩
 ·rw[c1]at ht;simp only[go_sem,c2,ht,ne_eq,not_false_eq_true,gd]
 ·simp only[go_sem,c2,c3,ht,ne_eq,not_false_eq_true,gd,JK,aCI,aCJ]
theorem ahn{a:List Nat}(ha:Lb a)(hb:Lb b)(hl:a.length=b.length)(h2:a.length<=100000):∀ (k:Nat),k<=a.length->∀ (s:ap) (h:ae),s 0=lm a->s 1=lm b->s 5=I ((k:Int)-1)->
  cF (ak 0 [] (av (am R (az false) gk) [0,1,5] [] s h)) (am R (az false) vY)=some (.ret,⟨upd bk 4 (I (cK (ab (a.take k)) (ab (b.take k)))),fun _=>.dead⟩):=by
 intro k;induction k with
 |zero=>
  intro hk s h h0 h1 h5;rw[ah];have e1:(0<=((0:Nat):Int)-1)=False:=ff;have e2:cK (ab []) (ab [])=0:=rfl;simp only[gk,vY,go_sem,h0,h1,h5,e1,e2]
 |succ k ih=>
  intro hk s h h0 h1 h5;have ih':=ih ω;have e1:(0<=((k+1:Nat):Int)-1)=True:=tt;have e2:aZ (aE a) (((k+1:Nat):Int)-1)=some (.ipt [U (a.getD k 0:Nat)]):=bI ω ω;have e3:aZ (aE b) (((k+1:Nat):Int)-1)=some (.ipt [U (b.getD k 0:Nat)]):=bI ω ω;have e4:aG (((k+1:Nat):Int)-1-1)=(k:Int)-1:=by grind[i64_in]
  have va:=fX a k;have vb:=fX b k;have la:=di (gH ha k);have lb:=di (gH hb k);rw[aCW,aDx ω]at la lb;rw[ah];rcases Nat.lt_trichotomy (a.getD k 0) (b.getD k 0)with hlt|heq|hgt
  ·have e5:((a.getD k 0:Int)< (b.getD k 0:Int))=True:=tt;have e6:cK (ab (a.take (k+1))) (ab (b.take (k+1)))=-1:=by
    have:4294967296^k*(a.getD k 0+1)<=4294967296^k*b.getD k 0:=aDD _ hlt;rw[Nat.mul_add]at this;simp only[cK];omega
   simp only[gk,vY,go_sem,h0,h1,h5,e1,e2,e3,e5,e6]
  ·have e5:((a.getD k 0:Int)< (b.getD k 0:Int))=False:=ff;have e7:((b.getD k 0:Int)< (a.getD k 0:Int))=False:=ff;have e6:cK (ab (a.take (k+1))) (ab (b.take (k+1)))=cK (ab (a.take k)) (ab (b.take k)):=by
    grind[cK]
   simp only[gk,go_sem,h0,h1,h5,e1,e2,e3,e5,e6,e7,e4];exact ih' _ _ rfl rfl rfl
  ·have e5:((a.getD k 0:Int)< (b.getD k 0:Int))=False:=ff;have e7:((b.getD k 0:Int)< (a.getD k 0:Int))=True:=tt;have e6:cK (ab (a.take (k+1))) (ab (b.take (k+1)))=1:=by
    have:4294967296^k*(b.getD k 0+1)<=4294967296^k*a.getD k 0:=aDD _ hgt;rw[Nat.mul_add]at this;simp only[cK];omega
   simp only[gk,vY,go_sem,h0,h1,h5,e1,e2,e3,e5,e6,e7]
theorem aba{a:List Nat}(ha:Lb a)(hb:Lb b)(h1:a.length<=100000)(_h2:b.length<=100000)(hc:a.length=b.length\/(DG a/\DG b)):R fdm [lm a,lm b] []=some (I (cK (ab a) (ab b)),[]):=by
 refine au VV rfl ?_;by_cases hl:a.length=b.length
 ·have e1:((a.length:Int)=(b.length:Int))=True:=tt;have e3:IntKind.i64.wrap ((a.length:Int)-1)=(a.length:Int)-1:=i64_in _ ⟨by omega,by omega⟩;have hL:=ahn ha hb hl h1 a.length (aCJ _);rw[List.take_length,hl,List.take_length,←hl]at hL;generalize hLL:av (am R (az false) gk) [0,1,5] []=L at hL;have hX:∀s h,am R (az false) (.loop [0,1,5] [] gk) s h=L s h:=fun s h=>by rw[←hLL];rfl
  have hL2:∀s h,s 0=lm a->s 1=lm b->s 5=I ((a.length:Int)-1)->kj false [[]] [.t 4] 0 (cF (ak 0 [] (L s h)) (am R (az false) (.seq (.ops [4] [co 4 (.mv (.c (.v (.int .i64 0))))]) (.ret))))=some (I (cK (ab a) (ab b)),[]):=fun s h a0 a1 a5=>by
   rw[show(.seq (.ops [4] [co 4 (.mv (.c (.v (.int .i64 0))))]) (.ret):Cmd)=vY from rfl,hL s h a0 a1 a5];simp only[go_sem]
  show kj false [[]] [.t 4] 0 (am R (az false) vB _ _)=_;unfold vB;show kj false [[]] [.t 4] 0 (cF (am R (az false) (.ops [0,1] [co 4 (.mv (.c (.v (.int .i64 0))))]) _ _) fun s h=>cF (am R (az false) (.seq (.ops [0,1,10] [cm 6 0,co 7 (.len false (.t 6)),cm 8 1,co 9 (.len false (.t 8)),co 10 (.bin .neq (.t 7) (.t 9))]) (.cond (.t 10) (.seq (.seq (.ops [15] [cm 11 0,co 12 (.len false (.t 11)),cm 13 1,co 14 (.len false (.t 13)),co 15 (.bin .lss (.t 12) (.t 14))]) (.cond (.t 15) (.seq (.ops [4] [co 4 (.mv (.c (.v (.int .i64 (-1)))))]) (.ret)) (.skip))) (.seq (.ops [4] [co 4 (.mv (.c (.v (.int .i64 1))))]) (.ret))) (.skip))) s h) fun s h=>cF (cF (am R (az false) (.ops [0,1,5] [cm 16 0,co 17 (.len false (.t 16)),co 18 (.bin .sub (.t 17) (.c (.v (.int .i64 1)))),cm 5 18]) s h) fun s h=>ak 0 [] (am R (az false) (.loop [0,1,5] [] gk) s h)) (am R (az false) (.seq (.ops [4] [co 4 (.mv (.c (.v (.int .i64 0))))]) (.ret))))=_;simp only[hX];simp only[go_sem,e1,e3];exact hL2 _ _ rfl rfl rfl
 ·have e1:((a.length:Int)=(b.length:Int))=False:=ff;obtain⟨ca,cb⟩:=hc.resolve_left hl;by_cases hlt:a.length<b.length
  ·have e2:((a.length:Int)< (b.length:Int))=True:=tt;have e3:cK (ab a) (ab b)=-1:=by
    simp_all[uJ,ab,Ig,ca,cK,if_pos]
   rw[e3];simp only[yp,vB,go_sem,e1,e2]
  ·have e2:((a.length:Int)< (b.length:Int))=False:=ff;have e3:cK (ab a) (ab b)=1:=by
    have:=uJ (x:=ab b) (y:=ab a) (by grind[Ig,ca]);unfold cK;omega
   rw[e3];simp only[yp,vB,go_sem,e1,e2]
theorem akx{a:List Nat}(ha:Lb a)(hb:Lb b){n:Nat}(h1:a.length<=100000)(h2:b.length<=100000)(hi:i<a.length):∀ (bs:List Nat) (k:Nat) (D S:List Nat) (c:Nat),b.drop k=bs->k<=b.length->D.length=i+k->bs.length<=S.length->(D++S).length=n->Lb S->c<4294967296->
  ∀ (s:ap) (h:ae),s 0=lm a->s 1=lm b->s 5=.rsl 18 none 1 0 n->s 6=I i->s 7=W c->s 8=I k->h 18=.ar 1 (aE (D++S))->
  ak 2 [0,1,5,6,7] (av (am R (az false) sN) [0,1,5,6,7,8] [18] s h)=
   some (.normal,⟨upd (upd (upd (upd (upd bk 7 (W ((mi (a.getD i 0) c bs S).2:Nat))) 6 (I i)) 5 (.rsl 18 none 1 0 n)) 1 (lm b)) 0 (lm a),upd (fun _=>.dead) 18 (.ar 1 (aE (D++(mi (a.getD i 0) c bs S).1)))⟩):=by
 have hx:=bZ ha i;intro bs;induction bs with
 |nil=>
  intro k D S c hd hk hD hS hn hLS hc s h h0 h1 h5 h6 h7 h8 hh;have:k=b.length:=by
   grind
  subst this;rw[ah];simp only[sN,go_sem,h0,h1,h5,h6,h7,h8,hh,aDl,mi]
 |cons y bs ih=>
  intro k D S c hd hk hD hS hn hLS hc s h h0 h1' h5 h6 h7 h8 hh;obtain⟨o,S,rfl⟩:∃o S',S=o::S':=by
   cases S with
   |nil=>grind
   |cons o S=>grind
  have hlt:k<b.length:=by
   grind
  have hy:b.getD k 0=y:=by
   have:=congrArg (·[0]?) hd;grind
  have hyb:y<4294967296:=by grind[bZ]
  have hob:o<4294967296:=(ig.1 hLS).1;have e0:aZ (aE a) (i:Int)=some (.ipt [U (a.getD i 0:Nat)]):=bI rfl hi;generalize a.getD i 0=x at hx e0 ih⊢;have hml:=Ym hx hyb hob hc;have hxy:x*y<18446744073709551616:=ω
  have ih':=ih (k+1) (D++[(x*y+o+c) %4294967296]) S ((x*y+o+c)/4294967296) (by rw[←List.drop_drop,hd];rfl) hlt γ γ γ (ig.1 hLS).2 ω;have e1:((k:Int)< (b.length:Int))=True:=tt;have e2:aZ (aE b) (k:Int)=some (.ipt [U (y:Nat)]):=by grind[bI]
  have e3:aG ((k:Int)+1)=((k+1:Nat):Int):=wi;have e4:aG ((i:Int)+(k:Int))=((i+k:Nat):Int):=wi;have e5:(0<=((i+k:Nat):Int))=True:=tt;have hin:i+k<n:=γ
  have e6:(((i+k:Nat):Int)< (n:Int))=True:=tt;have e7:(aE (D++o::S))[i+k]?=some [U (o:Nat)]:=by
   grind[jY]
  have f1:IntKind.u64.wrap (x:Int)=x:=dG rfl ω;have f2:IntKind.u64.wrap (y:Int)=y:=dG rfl ω;have f3:IntKind.u64.wrap ((x:Int)*(y:Int))=((x*y:Nat):Int):=dG σ hxy;have f4:IntKind.u64.wrap (o:Int)=o:=dG rfl ω;have f5:IntKind.u64.wrap (((x*y:Nat):Int)+(o:Int))=((x*y+o:Nat):Int):=dG ω ω;have f6:IntKind.u64.wrap (((x*y+o:Nat):Int)+(c:Int))=((x*y+o+c:Nat):Int):=dG ω ω;have f10:=zX (n:=x*y+o+c) rfl ω;have f7:IntKind.u32.wrap (((x*y+o+c) %4294967296:Nat):Int)=(((x*y+o+c) %4294967296:Nat):Int):=CG rfl ω;have f8:=qE (n:=x*y+o+c) (k:=32) (kk:=.u64) (j:=32) rfl rfl ω;have f9:(aE (D++o::S)).set (i+k) [U ((x*y+o+c) %4294967296:Nat)]=aE (D++[(x*y+o+c) %4294967296]++S):=by
   rw[ns,←hD,List.set_append_right _ _ (aCJ _)];simp
  rw[ah];generalize av _ _ _=L at ih'⊢;simp only[sN,go_sem,h0,h1',h5,h6,h7,h8,hh,e0,e1,e2,e3,e4,e5,e6,e7,f1,f2,f3,f4,f5,f6,f7,f8,f9,f10,aCQ,aCI,mi];rw[ih' _ _ rfl rfl rfl rfl rfl rfl rfl];grind
theorem YJ{a:List Nat}(s:ap)(h:ae)(h0:s 0=lm a)(h1:s 1=lm b)(h5:s 5=.rsl 18 none 1 0 n)(h6:s 6=I i)(h7:s 7=W 0)(h10:s 10=I j)(hh:h 18=.ar 1 rows):
  ak 4 [0,1,5,6] (av (am R (az false) pn) [0,1,5,6,7,10] [18] s h)=some (.normal,⟨upd (upd (upd (upd bk 6 (I i)) 5 (.rsl 18 none 1 0 n)) 1 (lm b)) 0 (lm a),upd (fun _=>.dead) 18 (.ar 1 rows)⟩):=by
 rw[ah];simp only[pn,go_sem,h0,h1,h5,h6,h7,h10,hh,aDl]
theorem ang{a:List Nat}{c:Nat}{rows':List (List AV)}(hc:c<4294967296)(hj:j<n)(hn:n<=1000000)(hg:rows[j]?=some [U (0:Nat)])(hs:rows.set j [U (c:Nat)]=rows')(hz:c=0->rows=rows')(s:ap)(h:ae)(h0:s 0=lm a)(h1:s 1=lm b)(h5:s 5=.rsl 18 none 1 0 n)(h6:s 6=I i)(h7:s 7=W c)(h10:s 10=I j)(hh:h 18=.ar 1 rows):
  ak 4 [0,1,5,6] (av (am R (az false) pn) [0,1,5,6,7,10] [18] s h)=some (.normal,⟨upd (upd (upd (upd bk 6 (I i)) 5 (.rsl 18 none 1 0 n)) 1 (lm b)) 0 (lm a),upd (fun _=>.dead) 18 (.ar 1 rows')⟩):=by
 by_cases h00:c=0
 ·grind[YJ]
 ·have e1:(0< (c:Int))=True:=tt;have e2:(0<=(j:Int))=True:=tt;have e3:((j:Int)< (n:Int))=True:=tt;have e4:IntKind.u64.wrap ((0:Nat):Int)=((0:Nat):Int):=dG rfl ω;have e5:IntKind.u64.wrap (((0:Nat):Int)+(c:Int))=(c:Int):=dG ω ω;have e6:=zX (n:=c) rfl ω;rw[aDq hc]at e6;have e7:IntKind.u32.wrap (c:Int)=(c:Int):=CG rfl hc;have e8:=qE (n:=c) (k:=32) (kk:=.u64) (j:=32) rfl rfl ω;rw[Nat.div_eq_of_lt hc]at e8;have e9:aG ((j:Int)+1)=((j+1:Nat):Int):=wi;have c0:=YJ (a:=a) (b:=b) (i:=i) (n:=n) (j:=j+1) (rows:=rows');rw[ah];simp only[pn,go_sem,h0,h1,h5,h6,h7,h10,hh,e1,e2,e3,e4,e5,e6,e7,e8,e9,hg,hs,aCQ,aCI];exact c0 _ _ rfl rfl rfl rfl rfl rfl rfl
theorem aho{a:List Nat}(ha:Lb a)(hb:Lb b)(h1:a.length<=10000)(h2:b.length<=10000):∀ (k i:Nat),i+k=a.length->∀ (s:ap) (h:ae),s 0=lm a->s 1=lm b->s 5=.rsl 18 none 1 0 (a.length+b.length+1)->s 6=I i->h 18=.ar 1 (aE (cz a b i++aCG (k+1) 0))->
  ak 0 [5] (av (am R (az false) yc) [0,1,5,6] [18] s h)=
   some (.normal,⟨upd bk 5 (.rsl 18 none 1 0 (a.length+b.length+1)),upd (fun _=>.dead) 18 (.ar 1 (aE (cz a b a.length++[0])))⟩):=by
 intro k;induction k with
 |zero=>
  intro i hi s h h0 h1 h5 h6 hh;have:i=a.length:=ω
  subst this;rw[ah];simp only[aCI,List.replicate_one]at hh;simp only[yc,go_sem,h0,h1,h5,h6,hh,aDl]
 |succ k ih=>
  intro i hi s h h0 g1 h5 h6 hh;have ih':=ih (i+1) ω;have hx:=bZ ha i;have hP:(cz a b i).length=i+b.length:=cZ _ _;have hLP:Lb (cz a b i):=ni _ _;have hsp:cz a b i++aCG (k+1+1) 0=(cz a b i).take i++((cz a b i).drop i++aCG (k+1+1) 0):=by rw[←aDr,List.take_append_drop]
  have e1:((i:Int)< (a.length:Int))=True:=tt;have e3:aG ((i:Int)+1)=((i+1:Nat):Int):=wi;have e4:aG ((i:Int)+(b.length:Int))=((i+b.length:Nat):Int):=wi;have lp:=akx ha hb (i:=i) (n:=a.length+b.length+1) ω ω ω b 0 ((cz a b i).take i) ((cz a b i).drop i++aCG (k+1+1) 0) 0 rfl (aC7 _) γ γ γ
   (mN.2 ⟨lZ hLP i,fun y hy=>by grind⟩) ω
  rw[Yl _ _ _ _ _ γ]at lp;have ml:(mi (a.getD i 0) 0 b ((cz a b i).drop i)).1.length=b.length:=by grind[G4]
  have mc:=JB hx b ((cz a b i).drop i) 0 hb (lZ hLP i) ω;have ps:=Uv ha hb (show i<a.length from by omega);rw[hsp]at hh;generalize mi (a.getD i 0) 0 b ((cz a b i).drop i)=r at*
  have e7:(aE ((cz a b i).take i++(r.1++aCG (k+1+1) 0)))[i+b.length]?=some [U (0:Nat)]:=by
   grind[aDr,jY]
  have e8:(aE ((cz a b i).take i++(r.1++aCG (k+1+1) 0))).set (i+b.length) [U (r.2:Nat)]=aE (cz a b (i+1)++aCG (k+1) 0):=by
   grind[aDr,ns,Pa,cz]
  have hz:r.2=0->aE ((cz a b i).take i++(r.1++aCG (k+1+1) 0))=aE (cz a b (i+1)++aCG (k+1) 0):=fun h0=>by
   grind
  have lc:=ang (a:=a) (b:=b) (i:=i) (n:=a.length+b.length+1) (j:=i+b.length) mc ω ω e7 e8 hz;rw[ah];simp only[aDf]at lp;simp only[yc,go_sem,h0,g1,h5,h6,hh,e1];rw[lp _ _ rfl rfl rfl rfl rfl rfl rfl];simp only[go_sem,e4];rw[lc _ _ rfl rfl rfl rfl rfl rfl rfl];simp only[go_sem,e3];exact ih' _ _ rfl rfl rfl rfl rfl
theorem UA{a:List Nat}(ha:Lb a)(hb:Lb b)(h1:a.length<=10000)(h2:b.length<=10000):R fds [lm a,lm b] []=some (lm (aA (ab a*ab b)),[]):=by
 refine au aaR rfl ?_;have e1:aG ((a.length:Int)+(b.length:Int))=((a.length+b.length:Nat):Int):=wi;have e1':aG (((a.length+b.length:Nat):Int)+1)=((a.length+b.length+1:Nat):Int):=wi;have e2:=rH (i:=((a.length+b.length+1:Nat):Int)) (j:=((a.length+b.length+1:Nat):Int)) rfl rfl (aCJ _) ω;have e3:((a.length+b.length+1)*4<=140737488355328)=True:=tt;have e4:=aho ha hb h1 h2 a.length 0 ω;have e0:cz a b 0=aCG b.length 0:=by
  have:∀n,dO n 0=aCG n 0:=fun n=>by
   induction n with
   |zero=>rfl
   |succ n ih=>simp[dO,ih,List.replicate_succ]
  grind[cz,ab]
 have e5:aE (aCG (a.length+b.length+1) 0)=aE (cz a b 0++aCG (a.length+1) 0):=by
  grind[List.replicate_append_replicate]
 have e6:cz a b a.length=dO (a.length+b.length) (ab a*ab b):=by rw[cz,List.take_length]
 have hLb:Lb (cz a b a.length++[0]):=mN.2 ⟨by grind[ni],ig.2 ⟨by decide,If⟩⟩;have hlen:(cz a b a.length++[0]).length=a.length+b.length+1:=by grind[cZ]
 have hv:ab (cz a b a.length++[0])=ab a*ab b:=by
  rw[ez,e6,l6,aDq]
  all_goals simp_all[ab,aCU,Nat.mul_lt_mul'',di]
 have ht:=Dd hLb ω;rw[hv]at ht;have f4:=JK (cz a b a.length++[0]);rw[hlen]at f4;simp only[FL,NX,go_sem,e1,e1',e2,e3,A9,e5];rw[e4 _ _ rfl rfl rfl rfl rfl];simp only[go_sem,f4,ht,hlen,MJ,aCI,aCJ]
theorem mR(ok:Ok0 d):R fdk [af d] []=some (B (vd d),[]):=by
 refine au aaM rfl ?_;unfold vd;have hl:=ok.len;by_cases a0:d.m.length=0
 ·rw[if_pos a0];have e1:((d.m.length:Int)=0)=True:=tt;cases hn:d.neg with
  |true=>simp only[iD,af,ai,hn,go_sem,e1,Bool.not_true,aCO]
  |false=>simp only[iD,af,ai,hn,go_sem,e1,Bool.not_false,aCM]
 rw[if_neg a0];have e1:((d.m.length:Int)=0)=False:=ff;by_cases a1:¬d.m.length<=256
 ·have e2:(256< (d.m.length:Int))=True:=tt;rw[decide_eq_false a1,aCO];simp only[iD,af,ai,go_sem,e1,e2]
 replace a1:=Decidable.not_not.1 a1
 have e2:(256< (d.m.length:Int))=False:=ff;have e3:aZ (aE d.m) 0=some (.ipt [U (d.m.getD 0 0:Nat)]):=bI rfl ω;have e6:aG ((d.m.length:Int)-1)=((d.m.length-1:Nat):Int):=wi;have e7:aZ (aE d.m) ((d.m.length-1:Nat):Int)=some (.ipt [U (d.m.getD (d.m.length-1) 0:Nat)]):=bI rfl ω;have hx:=bZ ok.lb 0;rw[decide_eq_true a1,aCM];by_cases a3:d.m.getD (d.m.length-1) 0=0
 ·have e8:((d.m.getD (d.m.length-1) 0:Int)=0)=True:=tt;rw[decide_eq_false (p:=d.m.getD (d.m.length-1) 0≠0) (fun h=>h a3),aCO,aDH];simp only[iD,af,ai,go_sem,e1,e2,e6,e7,e8]
 have e8:((d.m.getD (d.m.length-1) 0:Int)=0)=False:=ff;rw[decide_eq_true (p:=d.m.getD (d.m.length-1) 0≠0) a3,aCM];have e4:=YF (n:=d.m.getD 0 0) rfl hx;by_cases a2:¬d.m.getD 0 0%2=1
 ·have e5:(((d.m.getD 0 0%2:Nat):Int)=0)=True:=tt;rw[decide_eq_false a2,aCO];simp only[iD,af,ai,go_sem,e1,e2,e3,e4,e5,e6,e7,e8]
 replace a2:=Decidable.not_not.1 a2
 have e5:(((d.m.getD 0 0%2:Nat):Int)=0)=False:=ff;rw[decide_eq_true a2,aCM];have hv:ab d.m≠0:=Lp (Or.inr a3) (fun h=>a0 γ);have hbp:=gM hv;unfold rI;rw[decide_eq_false (p:=ag (ab d.m)=0) ω,Bool.false_or];by_cases a4:d.e< -16384
 ·have f1:(d.e< -16384)=True:=tt a4;rw[decide_eq_false (p:=-16384<=d.e) ω,aCO,aDH];simp only[iD,af,ai,go_sem,e1,e2,e3,e4,e5,e6,e7,e8,f1]
 have f1:(d.e< -16384)=False:=ff a4;rw[decide_eq_true (p:=-16384<=d.e) ω,aCM];by_cases a5:16384<d.e
 ·have f2:(16384<d.e)=True:=tt a5;rw[decide_eq_false (p:=d.e<=16384) ω,aCO,aDH];simp only[iD,af,ai,go_sem,e1,e2,e3,e4,e5,e6,e7,e8,f1,f2]
 have f2:(16384<d.e)=False:=ff a5;rw[decide_eq_true (p:=d.e<=16384) ω,aCM];have hb:=YG ok.lb ω (Or.inr a3);have hbl:=xH ok.lb;have w1:aG (((ag (ab d.m):Nat):Int)+d.e)=((ag (ab d.m):Nat):Int)+d.e:=i64_in _ ⟨by omega,by omega⟩;by_cases a6:ag (ab d.m)<=4096
 ·have f3:(((ag (ab d.m):Nat):Int)<=4096)=True:=tt;rw[decide_eq_true a6,aCM];simp only[iD,af,ai,go_sem,e1,e2,e3,e4,e5,e6,e7,e8,f1,f2,hb,f3,w1]
 ·have f3:(((ag (ab d.m):Nat):Int)<=4096)=False:=ff;rw[decide_eq_false a6,aCO];simp only[iD,af,ai,go_sem,e1,e2,e3,e4,e5,e6,e7,e8,f1,f2,hb,f3]
theorem Iw{m:List Nat}(hb:Lb m)(h1:m.length<=9000)(he:-1000000<=e/\e<=1000000):R fde [B neg,lm m,I e] []=some (af (bg neg (ab m) e),[]):=by
 refine au aj2 rfl ?_;have ht:=Dd hb ω;have la:=dU m hb;obtain⟨M,hM⟩:∃M,ab m=M:=⟨_,rfl⟩;rw[hM]at ht la⊢;by_cases h0:M=0
 ·have e1:(((aA M).length:Int)=0)=True:=tt (by grind[go]);rw[h0,j6];simp only[GT,af,ai,aB,go_sem,ht,e1]
 ·have e1:(((aA M).length:Int)=0)=False:=ff (fun h=>h0 (pB.1 (List.length_eq_zero_iff.1 ω)));have hz:=ahf (bh M) ω (by grind[aT]);rw[aT]at hz;have htz:tz M<32*(aA M).length:=by
   refine Wh h0 ?_;grind[di,bh,aT,Nat.pow_mul]
  have hr:=ahj (bh M) (n:=tz M) ω ω;rw[aT]at hr;have w1:aG (e+((tz M:Nat):Int))=e+((tz M:Nat):Int):=i64_in _ ⟨by omega,by omega⟩;rw[jT h0];simp only[GT,af,ai,go_sem,ht,e1,hz,hr,w1]
def ae2(d:Rd):Rd:=⟨!d.neg&&decide (0<d.m.length),d.m,d.e⟩
theorem anh:R fdd [af d] []=some (af (ae2 d),[]):=by
 refine au agK rfl ?_;unfold ae2;cases hn:d.neg with
 |true=>simp only[EW,af,ai,go_sem,hn,Bool.not_true,aCO]
 |false=>
  have e:decide (0< (d.m.length:Int))=decide (0<d.m.length):=γ
  simp only[EW,af,ai,go_sem,hn,Bool.not_false,aCM,e]
theorem ani(h:vd d=true):ae2 d=ed d:=by
 unfold ae2 ed;by_cases h0:d.m.length=0
 ·have:=vZ h h0;subst this;rfl
 ·rw[if_neg (fun h2=>h2.elim (fun h3=>by grind) h0),decide_eq_true ω,Bool.and_true]
theorem we(h:vd d=true):zI (ed d)=-zI d/\vd (ed d)=true:=by
 unfold ed;by_cases h0:d.m.length=0
 ·rw[if_pos (Or.inr h0),cQ h0];exact⟨by rw[cQ rfl];rfl,rfl⟩
 ·constructor
  ·grind[zI,mg]
  simp_all[vd,if_neg]
theorem Pq:R fdh [af d] []=some (I (cX d),[]):=by
 refine au aeD rfl ?_;unfold cX;by_cases h0:d.m.length=0
 ·have e1:((d.m.length:Int)=0)=True:=tt;rw[if_pos h0];simp only[zO,af,ai,go_sem,e1]
 ·have e1:((d.m.length:Int)=0)=False:=ff;rw[if_neg h0];cases hn:d.neg with
  |true=>
   simp only[zO,af,ai,go_sem,e1,hn]
  |false=>
   simp only[zO,af,ai,go_sem,e1,hn]
theorem YK(h:vd d=true):DG d.m:=by
 by_cases h0:d.m.length=0
 ·exact Or.inl (List.length_eq_zero_iff.1 h0)
 ·exact Or.inr (zU h h0).2.2.1
theorem S8(ok:Ok0 d)(h:vd d=true):R fdj [af d] []=some (I (aN d),[]):=by
 refine au Ut rfl ?_;by_cases h0:d.m.length=0
 ·have e1:((d.m.length:Int)=0)=True:=tt;rw[aN,if_pos (Or.inr h0)];simp only[xW,af,ai,go_sem,e1]
 ·have e1:((d.m.length:Int)=0)=False:=ff;obtain⟨h1,h2,h3,h4⟩:=dj h ok.lb;rw[jq h h0];have hb:=YG ok.lb ω (YK h);have w1:aG (((ag (ab d.m):Nat):Int)+d.e)=((ag (ab d.m):Nat):Int)+d.e:=i64_in _ ⟨by omega,by omega⟩;simp only[xW,af,ai,go_sem,e1,hb,w1]
def cT(z f:Int):Rd:=bg (decide (z<0)) z.natAbs f
theorem Bk{f:Int}:bg neg n f=cT (bL neg n) f:=by
 unfold cT;by_cases h0:n=0
 ·subst h0;cases neg<;>exact j6.symm
 ·cases neg with
  |false=>
   rw[qF,Int.natAbs_natCast,decide_eq_false ω]
  |true=>
   rw[rJ,Int.natAbs_neg,Int.natAbs_natCast,decide_eq_true ω]
theorem YL(h:n%2=1)(k:Nat):tz (n*2^k)=k:=by
 rw[aC6,Lr k ω,xp h,aDm]
theorem yH(ok:Ok0 d)(h:vd d=true):cT (zI d) (-16384)=d:=by
 by_cases h0:d.m.length=0
 ·rw[cQ h0];have:=vZ h h0;subst this;exact j6
 ·obtain⟨h1,h2,h3,h4⟩:=zU h h0;obtain⟨g1,g2,g3,g4⟩:=dj h ok.lb;have hz:zI d=bL d.neg (mg d):=by
   grind[zI,bL]
  rw[hz,←Bk];unfold mg;rw[kH,jT (dQ h h0)];have ho:ab d.m%2=1:=by
   have:=gA d.m 0;grind
  rw[xp ho,Nat.pow_zero,Nat.div_one,Ig ok.lb (YK h)];obtain⟨n,m,e⟩:=d;grind
theorem Ck{x y:Nat}(h:x<=y):(aA x).length<=(aA y).length:=Nat.not_lt.1 fun h2=>by
 have:=uJ h2;omega
theorem abZ{a b:Rd}(oa:Ok0 a)(ob:Ok0 b)(va:vd a=true)(vb:vd b=true):R fdi [af a,af b] []=some (af (cT (zI a+zI b) (-16384)),[]):=by
 refine au agG rfl ?_;by_cases a0:a.m.length=0
 ·have e1:((a.m.length:Int)=0)=True:=tt;rw[cQ a0,Int.zero_add,yH ob vb];simp only[uu,af,ai,go_sem,e1]
 have e1:((a.m.length:Int)=0)=False:=ff;by_cases b0:b.m.length=0
 ·have e2:((b.m.length:Int)=0)=True:=tt;rw[cQ b0,Int.add_zero,yH oa va];simp only[uu,af,ai,go_sem,e1,e2]
 have e2:((b.m.length:Int)=0)=False:=ff;obtain⟨a1,a2,a3,a4⟩:=dj va oa.lb;obtain⟨b1,b2,b3,b4⟩:=dj vb ob.lb;obtain⟨e,he⟩:∃e,(if b.e<a.e then b.e else a.e)=e:=⟨_,rfl⟩;have he1:-16384<=e/\e<=a.e/\e<=b.e:=by
  omega
 have w1:aG (a.e-e)=(((a.e-e).toNat:Nat):Int):=wi;have w2:aG (b.e-e)=(((b.e-e).toNat:Nat):Int):=wi;have l1:=YI oa.lb (n:=(a.e-e).toNat) ω ω;have l2:=YI ob.lb (n:=(b.e-e).toNat) ω ω;have z1:zI a=bL a.neg (ab a.m*2^ (a.e-e).toNat*2^ (e+16384).toNat):=by
  grind[zI,bL,mg,xx]
 have z2:zI b=bL b.neg (ab b.m*2^ (b.e-e).toNat*2^ (e+16384).toNat):=by
  grind[zI,bL,mg,xx]
 have bx:ag (ab a.m*2^ (a.e-e).toNat)<=36864:=by
  grind[dJ,dQ]
 have by':ag (ab b.m*2^ (b.e-e).toNat)<=36864:=by
  grind[dJ,dQ]
 rw[z1,z2];generalize ab a.m*2^ (a.e-e).toNat=x at l1 bx⊢;generalize ab b.m*2^ (b.e-e).toNat=y at l2 by'⊢;have lx:(aA x).length<=1152:=aX ω;have ly:(aA y).length<=1152:=aX ω;have hsum:∀ (n:Bool) (z:Nat),bg n z e=cT (bL n (z*2^ (e+16384).toNat)) (-16384):=fun n z=>by
  rw[←Bk,kH,show-16384+(((e+16384).toNat:Nat):Int)=e by omega]
 have hcp:=aba (bh x) (bh y) ω ω (Or.inr ⟨Lq x,Lq y⟩);rw[aT,aT]at hcp;by_cases hs:a.neg=b.neg
 ·have p1:=akw (bh x) (bh y) ω ω;rw[aT,aT]at p1;have bz:ag (x+y)<=36865:=C9 bx by';have o1:=Iw (neg:=a.neg) (m:=aA (x+y)) (e:=e) (bh _) (aCP (aX (k:=1153) ω) δ) ⟨by omega,by omega⟩;rw[aT,hsum]at o1;have hz:bL a.neg (x*2^ (e+16384).toNat)+bL b.neg (y*2^ (e+16384).toNat)=bL a.neg ((x+y)*2^ (e+16384).toNat):=by
   rw[←hs,aC8];cases a.neg
   all_goals grind[qF,rJ]
  rw[hz];generalize cT (bL a.neg ((x+y)*2^ (e+16384).toNat)) (-16384)=r at o1⊢;have hs2:(a.neg==b.neg)=true:=γ
  have hs3:(false != (a.neg==b.neg))=true:=γ
  simp only[af,ai]at o1;simp only[uu,af,ai,go_sem,e1,e2,he,w1,w2,l1,l2,hs3,p1,o1]
 ·have hs2:(a.neg==b.neg)=false:=by
   grind
  have hs3:(false != (a.neg==b.neg))=false:=γ
  have hbn:b.neg=!a.neg:=by
   grind
  by_cases hlt:x<y
  ·have e5:(0<=cK x y)=False:=ff (by simp_all[cK,if_pos]);have m1:=Uz (bh y) (bh x) ω (Ck ω) (by grind[aT]);rw[aT,aT]at m1;have o1:=Iw (neg:=b.neg) (m:=aA (y-x)) (e:=e) (bh _) (aCP (Ck (Nat.sub_le _ _)) ω) ⟨by omega,by omega⟩;rw[aT,hsum]at o1;have hz:bL a.neg (x*2^ (e+16384).toNat)+bL b.neg (y*2^ (e+16384).toNat)=bL b.neg ((y-x)*2^ (e+16384).toNat):=by
    grind[Bool.not_true,qF,rJ]
   rw[hz];generalize cT (bL b.neg ((y-x)*2^ (e+16384).toNat)) (-16384)=r at o1⊢;simp only[af,ai]at o1;simp only[uu,af,ai,go_sem,e1,e2,he,w1,w2,l1,l2,hs3,hcp,e5,m1,o1]
  ·have e5:(0<=cK x y)=True:=tt (by unfold cK;omega);have m1:=Uz (bh x) (bh y) ω (Ck ω) (by grind[aT]);rw[aT,aT]at m1;have o1:=Iw (neg:=a.neg) (m:=aA (x-y)) (e:=e) (bh _) (aCP (Ck (Nat.sub_le _ _)) ω) ⟨by omega,by omega⟩;rw[aT,hsum]at o1;have hz:bL a.neg (x*2^ (e+16384).toNat)+bL b.neg (y*2^ (e+16384).toNat)=bL a.neg ((x-y)*2^ (e+16384).toNat):=by
    grind[Bool.not_true,qF,rJ]
   rw[hz];generalize cT (bL a.neg ((x-y)*2^ (e+16384).toNat)) (-16384)=r at o1⊢;simp only[af,ai]at o1;simp only[uu,af,ai,go_sem,e1,e2,he,w1,w2,l1,l2,hs3,hcp,e5,m1,o1]
theorem abb{a b:Rd}(oa:Ok0 a)(ob:Ok0 b)(va:vd a=true)(vb:vd b=true):R fdf [af a,af b] []=some (af (bg (a.neg !=b.neg) (ab a.m*ab b.m) (a.e+b.e)),[]):=by
 refine au Kp rfl ?_;obtain⟨a1,a2,a3,a4⟩:=dj va oa.lb;obtain⟨b1,b2,b3,b4⟩:=dj vb ob.lb;have t1:=UA oa.lb ob.lb ω ω;have hp:=tw (ab a.m) (ab b.m);have w1:aG (a.e+b.e)=a.e+b.e:=i64_in _ ⟨by omega,by omega⟩;have o1:=Iw (neg:=a.neg !=b.neg) (m:=aA (ab a.m*ab b.m)) (e:=a.e+b.e) (bh _) (aCP (aX (k:=256) ω) δ) ⟨by omega,by omega⟩;rw[aT]at o1;simp only[xX,af,ai,go_sem,t1,w1,xz,o1]
theorem axL:(true==true)=true:=rfl
theorem axM:(true==false)=false:=rfl
theorem axN:(false==true)=false:=rfl
theorem axO:(false==false)=true:=rfl
theorem aqk:(false !=true)=true:=rfl
theorem aql:(false !=false)=false:=rfl
theorem aky(z f:Int):cX (cT z f)=if z<0 then-1 else if 0<z then 1 else 0:=by
 unfold cT;by_cases h0:z=0
 ·subst h0;rfl
 ·have hn:z.natAbs≠0:=ω
  rw[jT hn];obtain⟨h1,h2⟩:=yz hn;have hl:(aA (z.natAbs/2^tz z.natAbs)).length≠0:=fun h=>by
   have:=pB.1 (List.length_eq_zero_iff.1 h);omega
  unfold cX;grind
theorem ahp{a b:Rd}(oa:Ok0 a)(ob:Ok0 b)(va:vd a=true)(vb:vd b=true)(na:a.m.length≠0)(nb:b.m.length≠0)(h:aN a<aN b):mg a<mg b:=by
 have h1:=Iq va oa.lb na;have h2:=Iq vb ob.lb nb;exact JE ω
theorem S9{a b:Rd}(oa:Ok0 a)(ob:Ok0 b)(va:vd a=true)(vb:vd b=true):R fda [af a,af b] []=some (I (cM (zI a) (zI b)),[]):=by
 refine au agI rfl ?_;have s1:=Pq (d:=a);have s2:=Pq (d:=b);have t1:=S8 oa va;have t2:=S8 ob vb;have n1:=anh (d:=b);rw[ani vb]at n1;obtain⟨hz,hvn⟩:=we vb;have u1:=abZ oa (yE ob) va hvn;rw[hz]at u1;have u2:=Pq (d:=cT (zI a+-zI b) (-16384));rw[aky]at u2;have hca:=Gc a va;have hcb:=Gc b vb;generalize ed b=nb at n1 u1;simp only[af,ai]at s1 s2 t1 t2 n1 u1 u2;by_cases hs:cX a=cX b
 ·have e1:(cX a=cX b)=True:=tt hs;by_cases h0:cX a=0
  ·have e2:(cX a=0)=True:=tt h0;have hr:cM (zI a) (zI b)=0:=by
    have:zI a=0:=ω
    have:zI b=0:=ω
    simp_all[cM,if_neg]
   rw[hr];simp only[mu,af,ai,go_sem,s1,s2,e1,e2]
   try simp only[hs,h0,go_sem,aDi,aCV,aC2,aCZ,aDg,aDo]
  ·have e2:(cX a=0)=False:=ff h0;have na:a.m.length≠0:=ω
   have nb':b.m.length≠0:=ω
   by_cases ht:aN a=aN b
   ·have e3:(aN a=aN b)=True:=tt ht;have hr:cM (zI a) (zI b)=if zI a+-zI b<0 then-1 else if 0<zI a+-zI b then 1 else 0:=by
     grind[cM]
    rw[hr];simp only[mu,af,ai,go_sem,s1,s2,t1,t2,e1,e2,e3,n1,u1,u2]
   ·have e3:(aN a=aN b)=False:=ff ht;by_cases hlt:aN a<aN b
    ·have e4:(aN a<aN b)=True:=tt hlt;have hm:=ahp oa ob va vb na nb' hlt;by_cases hp:0<cX a
     ·have e5:(0<cX a)=True:=tt hp;have hr:cM (zI a) (zI b)=-1:=by
       unfold cM;omega
      rw[hr];simp only[mu,af,ai,go_sem,s1,s2,t1,t2,e1,e2,e3,e4,e5,decide_true,axL,aqk]
     ·have e5:(0<cX a)=False:=ff hp;have hr:cM (zI a) (zI b)=1:=by
       unfold cM;omega
      rw[hr];simp only[mu,af,ai,go_sem,s1,s2,t1,t2,e1,e2,e3,e4,e5,decide_true,decide_false,axM,aql]
    ·have e4:(aN a<aN b)=False:=ff hlt;have hm:=ahp ob oa vb va nb' na ω;by_cases hp:0<cX a
     ·have e5:(0<cX a)=True:=tt hp;have hr:cM (zI a) (zI b)=1:=by
       unfold cM;omega
      rw[hr];simp only[mu,af,ai,go_sem,s1,s2,t1,t2,e1,e2,e3,e4,e5,decide_true,decide_false,axN,aql]
     ·have e5:(0<cX a)=False:=ff hp;have hr:cM (zI a) (zI b)=-1:=by
       unfold cM;omega
      rw[hr];simp only[mu,af,ai,go_sem,s1,s2,t1,t2,e1,e2,e3,e4,e5,decide_true,decide_false,axO,aqk]
 ·have e1:(cX a=cX b)=False:=ff hs;by_cases hlt:cX a<cX b
  ·have e2:(cX a<cX b)=True:=tt hlt;have hr:cM (zI a) (zI b)=-1:=by
    unfold cM;omega
   rw[hr];simp only[mu,af,ai,go_sem,s1,s2,e1,e2]
  ·have e2:(cX a<cX b)=False:=ff hlt;have hr:cM (zI a) (zI b)=1:=by
    unfold cM;omega
   rw[hr];simp only[mu,af,ai,go_sem,s1,s2,e1,e2]
theorem ab0:R fdb [I 1] []=some (af one,[]):=by
 refine au agB rfl ?_;have h:=Iw (neg:=false) (m:=[1,0]) (e:=0) (fun x hx=>by
  grind) δ ⟨by decide,by decide⟩
 have h2:bg false (ab [1,0]) 0=one:=by
  show bg false 1 0=one;grind[jT,xp,aA,one,qU,go]
 rw[h2]at h;have h3:R fde [B false,.sl 1 [[U 1],[U 0]],I 0] []=some (af one,[]):=h;have w1:IntKind.u64.wrap 1=1:=rfl;have w2:=zX (n:=1) (i:=1) rfl δ;have w3:=qE (n:=1) (i:=1) (k:=32) (kk:=.u64) (j:=32) rfl rfl ω;rw[show((1%4294967296:Nat):Int)=1 from rfl]at w2;rw[show((1/2^32:Nat):Int)=0 from rfl]at w3;have w4:IntKind.u32.wrap 1=1:=rfl;have w5:IntKind.u32.wrap 0=0:=rfl;simp only[Jg,one,af,ai,go_sem,aCV,w1,w2,w3,w4,w5,h3]
theorem Q3{x:Int}{k:Nat}(hx:ag x.natAbs<=k)(hy:ag y.natAbs<=k):ag (x+y).natAbs<=k+1:=by
 have:=C9 hx hy;refine aCP ?_ this;have h2:(x+y).natAbs<=x.natAbs+y.natAbs:=Int.natAbs_add_le _ _;exact bH.2 (aDe h2 (bH.1 (aCJ _)))
theorem ab1(ok:Ok0 d)(h:vd d=true):ag (zI d).natAbs<=36864:=by
 obtain⟨h1,h2,h3,h4⟩:=dj h ok.lb;have:(zI d).natAbs=mg d:=by
  unfold zI;split<;>omega
 rw[this];by_cases h0:d.m.length=0
 ·rw[SS h0];decide
 ·have:=Iq h ok.lb h0;rw[jq h h0]at this;omega
theorem LJ{a b:Rd}(oa:Ok0 a)(ob:Ok0 b)(va:vd a=true)(vb:vd b=true):bg (a.neg !=b.neg) (ab a.m*ab b.m) (a.e+b.e)=cT (zI a*zI b) (-32768):=by
 obtain⟨a1,a2,a3,a4⟩:=dj va oa.lb;obtain⟨b1,b2,b3,b4⟩:=dj vb ob.lb;have hz:zI a*zI b=bL (a.neg !=b.neg) (mg a*mg b):=by
  unfold zI bL;cases a.neg<;>cases b.neg<;>simp[Int.mul_neg,Int.neg_mul]
 have hm:mg a*mg b=ab a.m*ab b.m*2^ ((a.e+16384).toNat+(b.e+16384).toNat):=by
  unfold mg;rw[aCU]
  ac_rfl
 rw[hz,←Bk,hm,kH,show-32768+(((a.e+16384).toNat+(b.e+16384).toNat:Nat):Int)=a.e+b.e by omega]
theorem MR{a b:Rd}{up:Bool}:vd (dk a b p up).1=true:=by
 unfold dk;split
 ·exact vH.1
 ·exact aO.1
theorem Ta{up:Bool}:vd (cw d p up).1=true:=by
 unfold cw;split
 ·exact vH.1
 ·exact aO.1
theorem YM:R fdz [af d] []=some (B (z0 d),[]):=by
 refine au aex rfl ?_;unfold z0;cases hn:d.neg with
 |true=>simp only[vX,af,ai,go_sem,hn,Bool.not_true,aCO]
 |false=>
  by_cases h1:d.m.length=0
  ·have e1:((d.m.length:Int)=0)=True:=tt;by_cases h2:d.e=0
   ·have e2:(d.e=0)=True:=tt h2;rw[decide_eq_true h1,decide_eq_true h2];simp only[vX,af,ai,go_sem,hn,e1,e2,Bool.not_false,aCM]
   ·have e2:(d.e=0)=False:=ff h2;rw[decide_eq_true h1,decide_eq_false h2];simp only[vX,af,ai,go_sem,hn,e1,e2,Bool.not_false,aCM]
  ·have e1:((d.m.length:Int)=0)=False:=ff;rw[decide_eq_false h1];simp only[vX,af,ai,go_sem,hn,e1,Bool.not_false,aCM,aCO]
theorem LK{x:Ri}(ok:OkI x):R fdy [aj x] []=some (B (vi x),[]):=by
 refine au aaS rfl ?_;unfold vi;have zl:=YM (d:=x.lo);have zh:=YM (d:=x.hi);have vl:=mR ok.lo;have vh:=mR ok.hi;simp only[af,ai]at zl zh vl vh;cases ha:x.all with
 |true=>
  cases h1:z0 x.lo with
  |true=>
   rw[h1]at zl;simp only[pO,aj,ao,go_sem,ha,zl,zh,aCM]
  |false=>
   rw[h1]at zl;simp only[pO,aj,ao,go_sem,ha,zl,aCO]
 |false=>
  cases h1:vd x.lo with
  |false=>
   rw[h1]at vl;simp only[pO,aj,ao,go_sem,ha,vl,aCO]
  |true=>
   rw[h1]at vl;cases h2:vd x.hi with
   |false=>
    rw[h2]at vh;simp only[pO,aj,ao,go_sem,ha,vl,vh,aCM,aCO]
   |true=>
    rw[h2]at vh;have hc:=S9 ok.lo ok.hi h1 h2;simp only[af,ai]at hc;simp only[pO,aj,ao,go_sem,ha,vl,vh,hc,yD,aCM]
theorem ahq:R fdw [af d] []=some (aj ⟨d,d,false⟩,[]):=by
 refine au aaQ rfl ?_;simp only[FK,af,ai,aj,ao,go_sem]
theorem akz:R fdx [I p] []=some (B (bC p),[]):=by
 refine au aeu rfl ?_;unfold bC;by_cases h1:8<=p
 ·have e1:(8<=p)=True:=tt h1;simp only[DD,go_sem,e1,decide_true,aCM]
 ·have e1:(8<=p)=False:=ff h1;simp only[DD,go_sem,e1,decide_false,aCO]
theorem Tb{a b:Rd}(va:vd a=true)(vb:vd b=true):fT a b=cM (zI a) (zI b):=by simp_all[fT,if_pos]
theorem Q4{a b:Rd}(oa:Ok0 a)(ob:Ok0 b)(va:vd a=true)(vb:vd b=true)(h:zI a=zI b):a=b:=by
 rw[←yH oa va,←yH ob vb,h]
theorem anj(h:vd d=true):zI (me d)=(zI d).natAbs/\vd (me d)=true:=by
 unfold me;by_cases h0:d.m.length=0
 ·rw[if_pos (Or.inr h0),cQ h0];exact⟨by rw[cQ rfl];rfl,rfl⟩
 ·rw[if_neg (fun h2=>h2.elim (fun h3=>by rw[h]at h3;exact aCR h3.symm) h0)];constructor
  ·have e1:zI ⟨false,d.m,d.e⟩=(mg d:Int):=rfl;rw[e1];unfold zI;split<;>omega
  ·unfold vd at h⊢;rw[if_neg h0]at h⊢;exact h
theorem qG(x y:Int):(x<y/\cM x y=-1)\/(x=y/\cM x y=0)\/(y<x/\cM x y=1):=by
 unfold cM;rcases Int.lt_trichotomy x y with h|h|h
 ·exact Or.inl ⟨h,if_pos h⟩
 ·exact Or.inr (Or.inl ⟨h,by rw[if_neg ω];exact if_neg ω⟩)
 ·exact Or.inr (Or.inr ⟨h,by rw[if_neg ω];exact if_pos h⟩)
theorem ae3(h2:sm a):∀ (k i:Nat),i+k=a.length->∀ (s:ap) (h:ae),s 0=.sl 1 (aV a)->s 3=I (bm (a.take i))->s 4=I i->
  ak 0 [3] (av (am R (az false) B1) [0,3,4] [] s h)=some (.normal,⟨upd bk 3 (I (bm a)),fun _=>.dead⟩):=by
 intro k;induction k with
 |zero=>
  intro i hi s h h0 h3 h4;have e1:((i:Int)<a.length)=False:=ff;rw[aCX ω]at h3;rw[ah];simp only[B1,go_sem,h0,h3,h4,e1]
 |succ k ih=>
  intro i hi s h h0 h3 h4;have hlt:i<a.length:=ω
  obtain⟨g1,g2⟩:=h2;have e1:((i:Int)<a.length)=True:=tt;have e2:aZ (aV a) (i:Int)=some (.ipt [I a[i]]):=pH rfl (List.getElem?_eq_getElem hlt);have e5:aG ((i:Int)+1)=((i+1:Nat):Int):=wi;have b1:=YC (l:=a.take i) (fun x hx=>g2 x (List.mem_of_mem_take hx));have b2:=g2 a[i] (aC0 hlt);have e6:IntKind.i64.wrap (bm (a.take i)+a[i])=bm (a.take (i+1)):=by
   grind[Pp,i64_in]
  have ih':=ih (i+1) ω;rw[ah];simp only[B1,go_sem,h0,h3,h4,e1,e2,e5,e6];exact ih' _ _ rfl rfl rfl
theorem YN(h2:sm a):R fdD [.sl 1 (aV a)] []=some (I (bm a),[]):=by
 refine au agH rfl ?_;have h3:=ae3 h2 a.length 0 (aCI _);simp only[Ji,Up,go_sem];rw[h3 _ _ rfl rfl rfl];simp only[go_sem]
theorem ae4{b:List Int}(hl:a.length=b.length)(h2:a.length<=100000):∀ (k i:Nat),i+k=a.length->∀ (s:ap) (h:ae),s 0=.sl 1 (aV a)->s 1=.sl 1 (aV b)->s 7=I i->
  ∃hh,ak 0 [] (av (am R (az false) lU) [0,1,7] [] s h)=if nM (b.drop i) (a.drop i)=0 then some (.normal,⟨fun _=>.any,fun _=>.dead⟩)else some (.ret,⟨upd bk 4 (I (nM (b.drop i) (a.drop i))),hh⟩):=by
 intro k;induction k with
 |zero=>
  intro i hi s h h0 h1 h7;have e1:((i:Int)<a.length)=False:=ff;rw[aC3 ω,aC3 ω,ah];refine⟨fun _=>.dead,?_⟩;show _=if(0:Int)=0 then _ else _
  simp only[lU,go_sem,h0,h1,h7,e1]
 |succ k ih=>
  intro i hi s h h0 h1 h7;have hlt:i<a.length:=ω
  have hlt2:i<b.length:=ω
  have e1:((i:Int)<a.length)=True:=tt;have e2:aZ (aV a) (i:Int)=some (.ipt [I a[i]]):=pH rfl (List.getElem?_eq_getElem hlt);have e3:aZ (aV b) (i:Int)=some (.ipt [I b[i]]):=pH rfl (List.getElem?_eq_getElem hlt2);have e5:aG ((i:Int)+1)=((i+1:Nat):Int):=wi;rw[aC4 hlt,aC4 hlt2,ah];have ih':=ih (i+1) ω;generalize a[i]=x at e2⊢;generalize b[i]=y at e3⊢;unfold nM;rcases qG y x with⟨g,e⟩| ⟨g,e⟩| ⟨g,e⟩
  ·have e6:(y<x)=True:=tt g;simp only[e,↓reduceIte,aCZ,Int.reduceNeg];refine⟨?hh1,?_⟩;rotate_left;simp only[lU,go_sem,h0,h1,h7,e1,e2,e3,e6];rfl
  ·have e6:(y<x)=False:=ff;have e7:(x<y)=False:=ff;simp only[e,↓reduceIte];simp only[lU,go_sem,h0,h1,h7,e1,e2,e3,e5,e6,e7];exact ih' _ _ rfl rfl rfl
  ·have e6:(y<x)=False:=ff;have e7:(x<y)=True:=tt;simp only[e,↓reduceIte,aCZ];refine⟨?hh2,?_⟩;rotate_left;simp only[lU,go_sem,h0,h1,h7,e1,e2,e3,e6,e7];rfl
theorem YO{b:List Int}(ha:sm a)(hb:sm b)(hl:a.length=b.length):R fdA [.sl 1 (aV a),.sl 1 (aV b)] []=some (I (cA a b),[]):=by
 refine au VD rfl ?_;have d1:=YN ha;have d2:=YN hb;have h3:=ae4 hl (by have:=ha.1;omega) a.length 0 (aCI _);simp only[aDI,aDf]at h3;unfold cA;rcases qG (bm a) (bm b)with⟨g,e⟩| ⟨g,e⟩| ⟨g,e⟩
 ·have e6:(bm a<bm b)=True:=tt g;rw[e,if_neg δ];simp only[pq,uX,go_sem,d1,d2,e6]
 ·have e6:(bm a<bm b)=False:=ff;have e7:(bm b<bm a)=False:=ff;rw[e,if_pos rfl];by_cases hz:nM b a=0
  ·simp only[if_pos hz]at h3;simp only[pq,uX,go_sem,d1,d2,e6,e7];rw[(h3 _ _ rfl rfl rfl).choose_spec,hz];simp only[go_sem]
  ·simp only[if_neg hz]at h3;simp only[pq,uX,go_sem,d1,d2,e6,e7];rw[(h3 _ _ rfl rfl rfl).choose_spec];simp only[go_sem]
 ·have e6:(bm a<bm b)=False:=ff;have e7:(bm b<bm a)=True:=tt;rw[e,if_neg δ];simp only[pq,uX,go_sem,d1,d2,e6,e7]
theorem ahr(h2:t.exps.length<=1000):∀ (k i:Nat),i+k=t.exps.length->(∀x∈t.exps.take i,0<=x/\x<=32)->∀ (s:ap) (h:ae),s 3=ac 3->s 5=I (bm (t.exps.take i))->s 6=I i->h 3=.bx (ce t)->
  ∃hh,ak 0 [5] (av (am R (az false) lj) [3,5,6] [3] s h)=if(t.exps.drop i).any AK=true then some (.ret,⟨upd bk 4 (B false),hh⟩)else some (.normal,⟨upd bk 5 (I (bm t.exps)),hh⟩):=by
 intro k;induction k with
 |zero=>
  intro i hi hg s h h3 h5 h6 k3;have e1:((i:Int)<t.exps.length)=False:=ff;rw[aCX ω]at h5;rw[aC3 ω,ah];simp only[ce]at k3;refine⟨?hh,?_⟩;rotate_left;show _=if false=true then _ else _
  simp only[lj,go_sem,h3,h5,h6,k3,e1];rfl
 |succ k ih=>
  intro i hi hg s h h3 h5 h6 k3;have hlt:i<t.exps.length:=ω
  have e1:((i:Int)<t.exps.length)=True:=tt;have e2:aZ (aV t.exps) (i:Int)=some (.ipt [I t.exps[i]]):=pH rfl (List.getElem?_eq_getElem hlt);have e5:aG ((i:Int)+1)=((i+1:Nat):Int):=wi;have b1:=YC hg;have b3:(t.exps.take i).length<=1000:=γ
  have ih':=ih (i+1) ω;have htk:t.exps.take (i+1)=t.exps.take i++[t.exps[i]]:=by simp_all
  have hst:=Pp hlt;rw[aC4 hlt,List.any_cons,ah];simp only[ce]at k3;rw[hst]at ih';rw[htk]at ih';generalize t.exps[i]=x at e2 ih'⊢;unfold AK at ih'⊢;by_cases g1:x<0
  ·have e6:(x<0)=True:=tt g1;simp only[decide_eq_true g1,Bool.true_or];refine⟨?hh1,?_⟩;rotate_left;simp only[lj,go_sem,h3,h5,h6,k3,e1,e2,e6];rfl
  ·have e6:(x<0)=False:=ff g1;by_cases g2:32<x
   ·have e7:(32<x)=True:=tt g2;simp only[decide_eq_false g1,decide_eq_true g2,Bool.false_or,Bool.true_or];refine⟨?hh2,?_⟩;rotate_left;simp only[lj,go_sem,h3,h5,h6,k3,e1,e2,e6,e7];rfl
   ·have e7:(32<x)=False:=ff g2;have e8:aG (bm (t.exps.take i)+x)=bm (t.exps.take i)+x:=i64_in _ ⟨by omega,by omega⟩;simp only[lj,go_sem,h3,h5,h6,k3,e1,e2,e5,e6,e7,e8];exact ih' (fun y hy=>by
     grind) _ _ rfl rfl rfl rfl
theorem ahs{v:Int}(ok:Ok0 t.c)(hv:v<=1000):R fdE [I v,.agg (ce t)] []=some (B (Iu v t),[]):=by
 refine au aeA rfl ?_;have hvd:=mR ok;simp only[af,ai]at hvd;unfold Iu;by_cases c1:(t.exps.length:Int)=v
 ·have f1:((t.exps.length:Int)=v)=True:=tt c1;cases c2:vd t.c with
  |false=>
   rw[c2]at hvd;simp only[rS,yn,ce,go_sem,f1,hvd]
  |true=>
   rw[c2]at hvd;by_cases c3:t.c.m.length=0
   ·have f3:((t.c.m.length:Int)=0)=True:=tt;rw[decide_eq_false (p:=t.c.m.length≠0) (fun h=>h c3),aCO];simp only[rS,yn,ce,go_sem,f1,hvd,f3]
   ·have f3:((t.c.m.length:Int)=0)=False:=ff;rw[decide_eq_true (p:=t.c.m.length≠0) c3,aCM];have hL:=ahr (t:=t) ω t.exps.length 0 (aCI _) (fun x hx=>by grind);generalize hLL:av (am R (az false) lj) [3,5,6] [3]=L at hL;have hX:∀s h,am R (az false) (.loop [3,5,6] [3] lj) s h=L s h:=fun s h=>by rw[←hLL];rfl
    have hL2:∀ (S:ap) (H:ae) (X:Option (Ex×St)),ak 0 [5] (L S H)=X->S 3=ac 3->S 5=I 0->S 6=I 0->H 3=.bx (ce t)->∃hh,X=if t.exps.any AK=true then some (.ret,⟨upd bk 4 (B false),hh⟩)else some (.normal,⟨upd bk 5 (I (bm t.exps)),hh⟩):=fun S H X hX=>by
     rw[←hX];exact hL S H
    cases c4:t.exps.any AK with
    |true=>
     simp only[c4]at hL2;simp only[rS,yn,hX,ce,go_sem,f1,hvd,f3];generalize hB:ak 0 [5] (L _ _)=X;obtain⟨hh,g0⟩:=hL2 _ _ _ hB rfl rfl rfl rfl;rw[g0];simp only[go_sem]
    |false=>
     simp only[c4,if_neg aCR]at hL2;simp only[rS,yn,hX,ce,go_sem,f1,hvd,f3];generalize hB:ak 0 [5] (L _ _)=X;obtain⟨hh,g0⟩:=hL2 _ _ _ hB rfl rfl rfl rfl;rw[g0];simp only[go_sem]
 ·have f1:((t.exps.length:Int)=v)=False:=ff c1;simp only[rS,yn,ce,go_sem,f1]
theorem aht{a:Rp}(ok:∀t∈a.terms,Ok0 t.c)(hv:a.vars<=8)(h2:a.terms.length<=500):∀ (k i:Nat),i+k=a.terms.length->∀ (pr:Option Rt),(i=0->pr=none)->(0<i->∃q,pr=some q/\a.terms[i-1]?=some q/\Iu a.vars q=true)->
  ∀ (s:ap) (h:ae),s 1=ac 1->s 3=I i->h 1=.bx [I a.vars,.sl 4 (aL a.terms)]->
  ∃hh,ak 0 [] (av (am R (az false) lW) [1,3] [1] s h)=if Bj a.vars pr (a.terms.drop i)=true then some (.normal,⟨fun _=>.any,hh⟩)else some (.ret,⟨upd bk 2 (B false),hh⟩):=by
 intro k;induction k with
 |zero=>
  intro i hi pr p0 p1 s h h1 h3 k1;have e1:((i:Int)<a.terms.length)=False:=ff;rw[aC3 ω,ah];refine⟨?hh0,?_⟩;rotate_left;show _=if true=true then _ else _
  rw[if_pos rfl];simp only[lW,go_sem,h1,h3,k1,e1];rfl
 |succ k ih=>
  intro i hi pr p0 p1 s h h1 h3 k1;have hlt:i<a.terms.length:=ω
  have e1:((i:Int)<a.terms.length)=True:=tt;have e2:aZ (aL a.terms) (i:Int)=some (.ipt (ce a.terms[i])):=iY rfl (List.getElem?_eq_getElem hlt);have e5:aG ((i:Int)+1)=((i+1:Nat):Int):=wi;have okt:=ok a.terms[i] (aC0 hlt);have hnext:a.terms[i+1-1]?=some a.terms[i]:=List.getElem?_eq_getElem hlt;rw[aC4 hlt,ah];have ih':=ih (i+1) ω (some a.terms[i]) (fun h=>absurd h (Nat.succ_ne_zero _));generalize a.terms[i]=t at e2 okt ih' hnext⊢;have htm:=ahs okt (v:=a.vars) ω;simp only[ce]at e2 htm;unfold Bj;cases hb:Iu a.vars t with
  |false=>
   rw[hb]at htm;refine⟨?hh2,?_⟩;rotate_left;simp only[lW,go_sem,h1,h3,k1,e1,e2,htm];rfl
  |true=>
   rw[hb]at htm;obtain⟨c1,c2,c3,c4,c5⟩:=Cj hb;by_cases hi0:i=0
   ·have f6:(0< (i:Int))=False:=ff;rw[p0 hi0];simp only[lW,go_sem,h1,h3,k1,e1,e2,htm,f6,e5];exact ih' (fun _=>⟨t,rfl,hnext,hb⟩) _ _ rfl rfl rfl
   ·have f6:(0< (i:Int))=True:=tt;obtain⟨q,q1,q2,q3⟩:=p1 ω;obtain⟨d1,d2,d3,d4,d5⟩:=Cj q3;rw[q1];have e7:aG ((i:Int)-1)=((i-1:Nat):Int):=wi;have e8:aZ (aL a.terms) ((i-1:Nat):Int)=some (.ipt (ce q)):=iY rfl q2;simp only[ce]at e8;have ho:=YO (a:=q.exps) (b:=t.exps) ⟨by omega,yF d4⟩ ⟨by omega,yF c4⟩ ω;simp only[YE];by_cases c6:cA q.exps t.exps<0
    ·have f7:(0<=cA q.exps t.exps)=False:=ff;simp only[decide_eq_true c6,aCM];simp only[lW,go_sem,h1,h3,k1,e1,e2,htm,f6,e5,e7,e8,ho,f7];exact ih' (fun _=>⟨t,rfl,hnext,hb⟩) _ _ rfl rfl rfl
    ·have f7:(0<=cA q.exps t.exps)=True:=tt;simp only[decide_eq_false c6,aCO,if_neg aCR];refine⟨?hh7,?_⟩;rotate_left;simp only[lW,go_sem,h1,h3,k1,e1,e2,htm,f6,e7,e8,ho,f7];rfl
theorem abc{a:Rp}(ok:∀t∈a.terms,Ok0 t.c):R fdC [bc a] []=some (B (vp a),[]):=by
 refine au aaZ rfl ?_;unfold vp;by_cases c1:0<=a.vars
 ·have f1:(a.vars<0)=False:=ff;rw[decide_eq_true c1,aCM];by_cases c2:a.vars<=8
  ·have f2:(8<a.vars)=False:=ff;rw[decide_eq_true c2,aCM];by_cases c3:a.terms.length<=500
   ·have f3:(500< (a.terms.length:Int))=False:=ff;rw[decide_eq_true c3,aCM];have h3:=aht ok c2 c3 a.terms.length 0 (aCI _) none (fun _=>rfl) (fun h=>absurd h (Nat.lt_irrefl _));simp only[aDI,aDf]at h3;cases hb:Bj a.vars none a.terms with
    |true=>
     rw[hb]at h3;simp only[pT,vW,bc,go_sem,f1,f2,f3];rw[(h3 _ _ rfl rfl rfl).choose_spec];simp only[go_sem]
    |false=>
     rw[hb]at h3;simp only[pT,vW,bc,go_sem,f1,f2,f3];rw[(h3 _ _ rfl rfl rfl).choose_spec];simp only[go_sem]
   ·have f3:(500< (a.terms.length:Int))=True:=tt;rw[decide_eq_false c3,aCO];simp only[pT,vW,bc,go_sem,f1,f2,f3]
  ·have f2:(8<a.vars)=True:=tt;rw[decide_eq_false c2,aCO];simp only[pT,vW,bc,go_sem,f1,f2]
 ·have f1:(a.vars<0)=True:=tt;rw[decide_eq_false c1,aCO];simp only[pT,vW,bc,go_sem,f1]
theorem ae5{a:Rp}(ok:OkP a):R fdC [bc a] []=some (B (vp a),[]):=abc fun t h=>(ok.t t h).c
structure Len1 (x:Ri):Prop where
 lo:Lb x.lo.m/\x.lo.m.length<=100000
 hi:Lb x.hi.m/\x.hi.m.length<=100000
def VI(x:Ri):Prop:=(vd x.lo=true/\Ok0 x.lo)/\(vd x.hi=true/\Ok0 x.hi)
theorem VI.len{x:Ri}(h:VI x):Len1 x:=⟨⟨h.1.2.1,aCP (D3 h.1.1 h.1.2.1) δ⟩,⟨h.2.2.1,aCP (D3 h.2.1 h.2.2.1) δ⟩⟩
theorem Df:VI cS:=⟨aO,aO⟩
theorem ank{x y:Ri}:VI (dq x y p):=by
 unfold dq;split
 ·unfold nv;split
  ·exact⟨⟨MR,Iv⟩,⟨MR,Iv⟩⟩
  ·exact Df
 ·exact Df
theorem aqm{p:Int}{dom:List Ri}:∀ (l:List Rt) (s:Ri),VI s->VI (LI p dom l s):=by
 intro l;induction l with
 |nil=>exact fun s h=>h
 |cons t l ih=>exact fun s h=>ih _ ank
theorem ahu{a:Rp}:VI (n8 a dom p):=by
 unfold n8;split
 ·exact aqm _ _ ⟨aO,aO⟩
 ·exact Df
def jL(a:Rp):Int:=if vp a=true then(match a.terms.getLast? with|none=>-1|some t=>bm t.exps)else-1
theorem MS{a:Rp}(h:vp a=true):0<=a.vars/\a.vars<=8/\a.terms.length<=500/\Bj a.vars none a.terms=true:=by
 simp_all[vp,aCK,decide_eq_true_eq]
theorem Ix{a:Rp}(h:vp a=true)(ht:t∈a.terms):sm t.exps/\(t.exps.length:Int)=a.vars/\vd t.c=true/\t.c.m.length≠0/\bm t.exps<=32:=by
 obtain⟨v1,v2,v3,v4⟩:=MS h;obtain⟨c1,c2,c3,c4,c5⟩:=Cj (MQ _ _ v4 t ht);exact⟨⟨by omega,yF c4⟩,c1,c2,c3,c5⟩
theorem Hb{a:Rp}(ok:OkP a):R fcS [bc a] []=some (I (jL a),[]):=by
 refine au Vx rfl ?_;have hv:=xL ok;unfold jL;simp only[bc]at hv;cases hb:vp a with
 |false=>
  rw[hb]at hv;simp only[sM,bc,go_sem,hv]
 |true=>
  rw[hb]at hv;obtain⟨v1,v2,v3,v4⟩:=MS hb;by_cases h0:a.terms.length=0
  ·have e1:((a.terms.length:Int)=0)=True:=tt;have e4:a.terms.getLast?=none:=by
    grind
   rw[e4];simp only[sM,bc,go_sem,hv,e1]
  ·have e1:((a.terms.length:Int)=0)=False:=ff;have e2:aG ((a.terms.length:Int)-1)=((a.terms.length-1:Nat):Int):=by grind[i64_in]
   have hlt:a.terms.length-1<a.terms.length:=ω
   have e3:aZ (aL a.terms) ((a.terms.length-1:Nat):Int)=some (.ipt (ce a.terms[a.terms.length-1])):=iY rfl (List.getElem?_eq_getElem hlt);have e4:a.terms.getLast?=some a.terms[a.terms.length-1]:=γ
   obtain⟨c1,c2,c3,c4,c5⟩:=Ix hb (aC0 hlt);rw[e4];have hd:=Bh c1;simp only[ce]at e3;simp only[sM,bc,go_sem,hv,e1,e2,e3,hd]
def zD(x:Int):List Int->Nat->Int
 |[],_=>-1
 |y::l,i=>if x=y then i else zD x l (i+1)
theorem akA{l:List Int}(h2:l.length<=100000)(x:Int):∀ (k i:Nat),i+k=l.length->∀ (s:ap) (h:ae),s 0=.sl 1 (aV l)->s 1=I x->s 7=I l.length->s 8=I i->
  ∃hh,cF (ak 0 [] (av (am R (az false) eW) [0,1,7,8] [] s h)) (am R (az false) (.seq (.ops [4] [co 4 (.mv (.c (I (-1))))]) (.ret)))=some (.ret,⟨upd bk 4 (I (zD x (l.drop i) i)),hh⟩):=by
 intro k;induction k with
 |zero=>
  intro i hi s h h0 h1 h7 h8;have e1:((i:Int)<l.length)=False:=ff;rw[aC3 ω,ah];refine⟨?hh0,?_⟩;rotate_left
  ·simp only[eW,zD,go_sem,aDi,aCV,aC2,aCZ,aDg,aDo,h0,h1,h7,h8,e1];rfl
 |succ k ih=>
  intro i hi s h h0 h1 h7 h8;have hlt:i<l.length:=ω
  have e1:((i:Int)<l.length)=True:=tt;have e2:aZ (aV l) (i:Int)=some (.ipt [I l[i]]):=pH rfl (List.getElem?_eq_getElem hlt);have e5:aG ((i:Int)+1)=((i+1:Nat):Int):=wi;have ih':=ih (i+1) ω;rw[aC4 hlt,ah];unfold zD;generalize l[i]=y at e2⊢;by_cases hxy:x=y
  ·have e3:(x=y)=True:=tt hxy;refine⟨?hh1,?_⟩;rotate_left
   ·simp only[eW,go_sem,aDi,aCV,aC2,aCZ,aDg,aDo,h0,h1,h7,h8,e1,e2,e3];rfl
  ·have e3:(x=y)=False:=ff hxy;simp only[eW,go_sem,aDi,aCV,aC2,aCZ,aDg,aDo,h0,h1,h7,h8,e1,e2,e3,e5]at ih'⊢;exact ih' _ _ rfl rfl rfl rfl
theorem akB{l:List Int}(h2:l.length<=100000){x:Int}:R fep [.sl 1 (aV l),I x] []=some (I (zD x l 0),[]):=by
 refine au GD rfl ?_;have h:=akA h2 x l.length 0 (aCI _);have h':∀ (S:ap) (H:ae) (X:Option (Ex×St)),cF (ak 0 [] (av (am R (az false) eW) [0,1,7,8] [] S H)) (am R (az false) (.seq (.ops [4] [co 4 (.mv (.c (I (-1))))]) (.ret)))=X->S 0=.sl 1 (aV l)->S 1=I x->S 7=I l.length->S 8=I 0->∃hh,X=some (.ret,⟨upd bk 4 (I (zD x l 0)),hh⟩):=fun S H X hX=>by
  rw[←hX];exact h S H
 simp only[pZ,yN,go_sem,aDi,aCV,aC2,aCZ,aDg,aDo];generalize hB:cF (ak 0 [] (av _ _ _ _ _)) _=X;obtain⟨hh,h3⟩:=h' _ _ _ hB rfl rfl rfl rfl;rw[h3];simp only[go_sem,aDi,aCV,aC2,aCZ,aDg,aDo]
def UB:Option Rd->List AV
 |none=>[B false,.emp,I 0]
 |some d=>ai d
def Gi(l:List (Option Rd)):List (List AV):=l.map UB
@[go_sem] theorem aAg(l:List (Option Rd)):(Gi l).length=l.length:=by simp[Gi]
theorem anl{l:List (Option Rd)}{o:Option Rd}(h:l[i]?=some o):(Gi l)[i]?=some (UB o):=by grind[Gi]
theorem anm(l:List (Option Rd))(i:Nat)(d:Rd):(Gi l).set i (ai d)=Gi (l.set i (some d)):=by simp[Gi,List.map_set,UB]
theorem ann(n:Nat):aCG n [B false,.emp,I 0]=Gi (aCG n none):=by simp[Gi,UB]
def odV(l:List (Option Rd)):List Rd:=l.map fun o=>o.getD aB
theorem ano(l:List (Option Rd)):(Gi l).map (eP [.o 0 [],.o 2 [],.o 0 []])=wG (odV l):=by
 simp only[Gi,odV,wG,List.map_map];refine aDk fun o _=>?_;cases o with
 |none=>simp only[Function.comp,UB,ai,aB,Option.getD,go_sem]
 |some d=>simp only[Function.comp,UB,ai,Option.getD,go_sem]
theorem anp(o:Option Rd)(d:Rd):(((UB o).set 0 (B d.neg)).set 1 (lm d.m)).set 2 (I d.e)=ai d/\(3<=(UB o).length)=True:=by
 cases o<;>exact⟨rfl,tt (aCJ 3)⟩
def Dg:List Rt->List (Option Rd)->List (Option Rd)
 |[],o=>o
 |t::l,o=>Dg l (o.set (zD 1 t.exps 0+1).toNat (some t.c))
theorem ab3(x:Int):∀ (l:List Int) (i:Nat),-1<=zD x l i/\zD x l i<l.length+i
 |[],i=>by
  grind[zD,aDs]
 |y::l,i=>by
  unfold zD;have:=ab3 x l (i+1);grind
theorem akC{a:Rp}(hv:∀t∈a.terms,(t.exps.length:Int)=a.vars)(h8:a.vars<=8)(h5:a.terms.length<=500):∀ (k i:Nat),i+k=a.terms.length->∀ (o:List (Option Rd)),(o.length:Int)=a.vars+1->∀ (s:ap) (h:ae),
  s 4=.rsl 18 none 3 0 o.length->s 20=.sl 4 (aL a.terms)->s 21=I a.terms.length->s 22=I i->h 1=.bx [I a.vars,.sl 4 (aL a.terms)]->h 18=.ar 3 (Gi o)->
  ∃hh,ak 0 [4] (av (am R (az false) nT) [4,20,21,22] [1,18] s h)=some (.normal,⟨upd bk 4 (.rsl 18 none 3 0 o.length),hh⟩)/\hh 18=.ar 3 (Gi (Dg (a.terms.drop i) o)):=by
 intro k;induction k with
 |zero=>
  intro i hi o ho s h h4 h20 h21 h22 k1 k18;have e1:((i:Int)<a.terms.length)=False:=ff;rw[aC3 ω,ah];refine⟨?hh0,?_,?_⟩;rotate_left
  ·simp only[nT,go_sem,aDi,aCV,aC2,aCZ,aDg,aDo,h4,h20,h21,h22,k1,k18,e1];rfl
  ·rfl
 |succ k ih=>
  intro i hi o ho s h h4 h20 h21 h22 k1 k18;have hlt:i<a.terms.length:=ω
  have e1:((i:Int)<a.terms.length)=True:=tt;have e2:aZ (aL a.terms) (i:Int)=some (.ipt (ce a.terms[i])):=iY rfl (List.getElem?_eq_getElem hlt);have e5:aG ((i:Int)+1)=((i+1:Nat):Int):=wi;have c1:=hv a.terms[i] (aC0 hlt);rw[aC4 hlt,ah];have ih':=ih (i+1) ω;unfold Dg;generalize a.terms[i]=t at e2 c1⊢;have hx:=akB (l:=t.exps) (x:=1) ω;obtain⟨x1,x2⟩:=ab3 1 t.exps 0;have e6:aG (zD 1 t.exps 0+1)=((zD 1 t.exps 0+1).toNat:Int):=by grind[i64_in]
  generalize hn:(zD 1 t.exps 0+1).toNat=n at e6⊢;have hn2:n<o.length:=ω
  have e7:(0<=(n:Int))=True:=tt;have e8:((n:Int)< (o.length:Int))=True:=tt;have e9:=anl (List.getElem?_eq_getElem hn2);obtain⟨e10,e11⟩:=anp o[n] t.c;have ih2:=ih' (o.set n (some t.c)) γ;rw[List.length_set]at ih2;simp only[ce]at e2;simp only[nT,go_sem,aDi,aCV,aC2,aCZ,aDg,aDo,h4,h20,h21,h22,k1,k18,e1,e2,hx,e6,e7,e8,e9,e10,e11,e5,anm,aCQ,aCI];exact ih2 _ _ rfl rfl rfl rfl rfl rfl
theorem Pr:∀ (l:List Rt) (o:List (Option Rd)),(Dg l o).length=o.length
 |[],o=>rfl
 |t::l,o=>by
  unfold Dg;rw[Pr l,List.length_set]
def Hc(a:Rp):Bool:=vp a&&decide (jL a<=1)
def JL(a:Rp):List Rd:=odV (Dg a.terms (aCG (a.vars.toNat+1) none))
def YP(a:Rp):AV:=if Hc a=true then .tup [eC (JL a),B true]else .tup [eC [],B false]
theorem UC{a:Rp}(ok:OkP a):R fas [bc a] []=some (YP a,[]):=by
 refine au SH rfl ?_;have hv:=xL ok;have hd:=Hb ok;unfold YP Hc;simp only[bc]at hv hd;cases hb:vp a with
 |false=>
  rw[hb]at hv;simp only[rD,yt,bc,go_sem,aDi,aCV,aC2,aCZ,aDg,aDo,hv,eC,wG]
 |true=>
  rw[hb]at hv;rw[aCM];generalize hg:jL a=g at hd⊢;by_cases h1:g<=1
  ·have e1:(1<g)=False:=ff;rw[if_pos (decide_eq_true h1)];obtain⟨v1,v2,v3,v4⟩:=MS hb;have hl:=akC (a:=a) (fun t ht=>(Ix hb ht).2.1) v2 v3 a.terms.length 0 (aCI _) (aCG (a.vars.toNat+1) none) γ;simp only[aDI,aDf,aDK]at hl;have hl2:=Pr a.terms (aCG (a.vars.toNat+1) none);have hn:=ano (Dg a.terms (aCG (a.vars.toNat+1) none));unfold JL;generalize Dg a.terms (aCG (a.vars.toNat+1) none)=O at hl hl2 hn⊢;rw[aDK]at hl2;generalize hN:a.vars.toNat+1=N at hl hl2⊢;have e2:aG (a.vars+1)=(N:Int):=by grind[i64_in]
   have e3:=rH (i:=(N:Int)) (j:=(N:Int)) (l:=N) (c:=N) rfl rfl (aCJ _) ω;have e4:(N*40<=140737488355328)=True:=tt;have e5:(0+N<=O.length)=True:=tt;have e6:(N=O.length)=True:=tt hl2.symm;have h':∀ (S:ap) (H:ae) (X:Option (Ex×St)),ak 0 [4] (av (am R (az false) nT) [4,20,21,22] [1,18] S H)=X->S 4=.rsl 18 none 3 0 N->S 20=.sl 4 (aL a.terms)->S 21=I a.terms.length->S 22=I 0->H 1=.bx [I a.vars,.sl 4 (aL a.terms)]->H 18=.ar 3 (Gi (aCG N none))->
     ∃hh,X=some (.normal,⟨upd bk 4 (.rsl 18 none 3 0 N),hh⟩)/\hh 18=.ar 3 (Gi O):=fun S H X hX=>by
    rw[←hX];exact hl S H
   simp only[rD,yt,bc,go_sem,aDi,aCV,aC2,aCZ,aDg,aDo,hv,hd,e1,e2,e3,e4,ann];generalize hB:ak 0 [4] (av _ _ _ _ _)=X;obtain⟨hh,g0,g1⟩:=h' _ _ _ hB rfl rfl rfl rfl rfl rfl;rw[g0];simp only[go_sem,aDi,aCV,aC2,aCZ,aDg,aDo,g1,e5,e6,hn,eC]
  ·have e1:(1<g)=True:=tt;rw[if_neg (fun h=>h1 (of_decide_eq_true h))];simp only[rD,yt,bc,go_sem,aDi,aCV,aC2,aCZ,aDg,aDo,hv,hd,e1,eC,wG]
def dK(a b:Rd):Rd×Int:=if(vd a&&vd b)=true then cI (cT (zI a*zI b) (-32768))else(aB,1)
def eK(a b:Rd):Rd×Int:=if(vd a&&vd b)=true then cI (cT (zI a+zI b) (-16384))else(aB,1)
theorem yI{f:Int}:vd (cI (cT z f)).1=true/\Ok0 (cI (cT z f)).1:=by
 unfold cI cT;by_cases h:rI (ag (ab (bg (decide (z<0)) z.natAbs f).m)) (bg (decide (z<0)) z.natAbs f).e=true
 ·rw[if_pos h];have hv:=Fd h;have hb:=qW (decide (z<0)) z.natAbs f;exact⟨hv,hb,aDe (D3 hv hb) δ⟩
 simp_all[if_neg,aO]
theorem Fh(a b:Rd):vd (dK a b).1=true/\Ok0 (dK a b).1:=by
 grind[dK,yI,aO]
theorem Iy(a b:Rd):vd (eK a b).1=true/\Ok0 (eK a b).1:=by
 grind[eK,yI,aO]
theorem Fi(h:vd d=true)(h0:d.m.length≠0):ab d.m%2=1:=by
 obtain⟨h1,h2,h3,h4⟩:=zU h h0;cases hm:d.m with
 |nil=>grind
 |cons x l=>
  grind[ab]
theorem YQ{x y:Nat}(hx:x≠0)(hy:y≠0):ag x+ag y-2<ag (x*y):=by
 have h1:=gM hx;have h2:=gM hy;have h3:2^ (ag x-1)<=x:=kW.1 ω;have h4:2^ (ag y-1)<=y:=kW.1 ω;rw[kW,show ag x+ag y-2=(ag x-1)+(ag y-1)by omega,aCU];exact Nat.mul_le_mul h3 h4
theorem anq{a b:Rd}(oa:Ok0 a)(ob:Ok0 b):Wj a b=rV (dK a b):=by
 unfold Wj dK;by_cases hv:vd a=true/\vd b=true
 ·obtain⟨va,vb⟩:=hv;rw[if_pos ⟨va,vb⟩,va,vb,aCM,if_pos rfl,←LJ oa ob va vb];by_cases h0:a.m.length=0\/b.m.length=0
  ·rw[if_pos h0];have:ab a.m*ab b.m=0:=by
    rcases h0 with h0|h0
    ·rw[List.length_eq_zero_iff.1 h0];exact Nat.zero_mul _
    ·rw[List.length_eq_zero_iff.1 h0];exact Nat.mul_zero _
   rw[this,j6];rfl
  ·rw[if_neg h0];have a0:a.m.length≠0:=fun h=>h0 (.inl h);have b0:b.m.length≠0:=fun h=>h0 (.inr h);have x0:=dQ va a0;have y0:=dQ vb b0;by_cases hb:4096<ag (ab a.m)+ag (ab b.m)-1
   ·rw[if_pos hb];have h1:=YQ x0 y0;have ho:ab a.m*ab b.m%2=1:=by grind[Nat.mul_mod,Fi]
    have ht:=YL ho 0;rw[Nat.pow_zero,Nat.mul_one]at ht;obtain⟨g1,g2,g3,g4⟩:=rU (neg:=a.neg !=b.neg) (e:=a.e+b.e) (Nat.mul_ne_zero x0 y0);unfold cI;rw[if_neg]
    ·rfl
    ·intro h2;rw[g1,ht,Nat.pow_zero,Nat.div_one]at h2;have h3:=(C6 h2 ω).1;omega
   simp_all[if_neg,MM]
 ·rw[if_neg hv,if_neg]
  ·rfl
  grind
theorem Tc{a b:Rd}(oa:Ok0 a)(ob:Ok0 b):R faR [af a,af b] []=some (rV (dK a b),[]):=by
 grind[anq,am3]
def UD(m:Rd)(x:Ri):Rd:=if cX m<0 then x.hi else x.lo
def UE(m:Rd)(x:Ri):Rd:=if cX m<0 then x.lo else x.hi
def ae6(c:Rd)(a b:Rd×Int)(p:Int):Ri:=if a.2=0/\b.2=0 then nv (dk c a.1 p false) (dk c b.1 p true)else cS
def JM(c m:Rd)(x:Ri)(p:Int):Ri:=ae6 c (dK m (UD m x)) (dK m (UE m x)) p
theorem anr{c m:Rd}{x:Ri}(oc:Ok0 c)(om:Ok0 m)(vm:vd m=true)(ox:OkI x):R faG [af c,af m,aj x,I p] []=some (aj (JM c m x p),[]):=by
 refine au X4 rfl ?_;have hs:=AI om vm;have hw:=JJ;unfold JM ae6 nv;simp only[af,ai]at hs;simp only[aj,ao,cS]at hw;have key:∀lo hi:Rd,lo=UD m x->hi=UE m x->Ok0 lo->Ok0 hi->kj false iN.rs iN.res 0 (am R (az false) iN.body (wk [af c,af m,aj x,I p]) fun _=>.dead)=some (aj (if(dK m lo).2=0/\(dK m hi).2=0 then(if(dk c (dK m lo).1 p false).2=0/\(dk c (dK m hi).1 p true).2=0 then⟨(dk c (dK m lo).1 p false).1,(dk c (dK m hi).1 p true).1,false⟩else cS)else cS),[]):=by
  intro lo hi e1 e2 ol oh;have h1:=Tc om ol;have h2:=Tc om oh;have o1:=(Fh m lo).2;have o2:=(Fh m hi).2;generalize dK m lo=A at h1 o1⊢;generalize dK m hi=D at h2 o2⊢;have h3:=JI oc o1 (p:=p);have h4:=Pm oc o2 (p:=p);generalize dk c A.1 p false=Y at h3⊢;generalize dk c D.1 p true=Z at h4⊢;obtain⟨A1,A2⟩:=A;obtain⟨D1,D2⟩:=D;obtain⟨Y1,Y2⟩:=Y;obtain⟨Z1,Z2⟩:=Z;unfold UD at e1;unfold UE at e2;simp only[rV,af,ai]at h1 h2 h3 h4;have hc:((cX m<0)=True/\lo=x.hi/\hi=x.lo)\/((cX m<0)=False/\lo=x.lo/\hi=x.hi):=by
   grind
  clear e1 e2;rcases hc with⟨e0,rfl,rfl⟩| ⟨e0,rfl,rfl⟩
  all_goals
   by_cases a1:A2=0
   ·have f1:(A2=0)=True:=tt a1;by_cases a2:D2=0
    ·have f2:(D2=0)=True:=tt a2;rw[if_pos ⟨a1,a2⟩];by_cases a3:Y2=0
     ·have f3:(Y2=0)=True:=tt a3;by_cases a4:Z2=0
      ·have f4:(Z2=0)=True:=tt a4;rw[if_pos ⟨a3,a4⟩];simp only[iN,af,ai,aj,ao,cS,go_sem,aDi,aCV,aC2,aCZ,aDg,aDo,hs,e0,h1,h2,h3,h4,f1,f2,f3,f4]
      ·have f4:(Z2=0)=False:=ff a4;rw[if_neg (fun h=>a4 h.2)];simp only[iN,af,ai,aj,ao,cS,go_sem,aDi,aCV,aC2,aCZ,aDg,aDo,hs,e0,h1,h2,h3,h4,f1,f2,f3,f4,hw]
     ·have f3:(Y2=0)=False:=ff a3;rw[if_neg (fun h=>a3 h.1)];simp only[iN,af,ai,aj,ao,cS,go_sem,aDi,aCV,aC2,aCZ,aDg,aDo,hs,e0,h1,h2,h3,h4,f1,f2,f3,hw]
    ·have f2:(D2=0)=False:=ff a2;rw[if_neg (fun h=>a2 h.2)];simp only[iN,af,ai,aj,ao,cS,go_sem,aDi,aCV,aC2,aCZ,aDg,aDo,hs,e0,h1,h2,h3,h4,f1,f2,hw]
   ·have f1:(A2=0)=False:=ff a1;rw[if_neg (fun h=>a1 h.1)];simp only[iN,af,ai,aj,ao,cS,go_sem,aDi,aCV,aC2,aCZ,aDg,aDo,hs,e0,h1,h2,h3,h4,f1,hw]
 by_cases hm:cX m<0
 ·exact key _ _ rfl rfl (by unfold UD;rw[if_pos hm];exact ox.hi) (by unfold UE;rw[if_pos hm];exact ox.lo)
 ·exact key _ _ rfl rfl (by unfold UD;rw[if_neg hm];exact ox.lo) (by unfold UE;rw[if_neg hm];exact ox.hi)
theorem ab4:∀ (l:List Rt) (o:List (Option Rd)),(∀t∈l,vd t.c=true/\Ok0 t.c)->(∀x∈o,∀d,x=some d->vd d=true/\Ok0 d)->∀x∈Dg l o,∀d,x=some d->vd d=true/\Ok0 d
 |[],o,_,ho=>ho
 |t::l,o,hl,ho=>by
  unfold Dg;refine ab4 l _ (fun u hu=>hl u (List.mem_cons_of_mem _ hu)) fun x hx d hd=>?_;rcases List.mem_or_eq_of_mem_set hx with h|h
  ·exact ho x h d hd
  ·rw[h]at hd;obtain rfl:=Option.some.inj hd;exact hl t (List.mem_cons_self ..)
theorem ab5{a:Rp}(oa:OkP a)(hv:vp a=true):(∀d∈JL a,vd d=true/\Ok0 d)/\(JL a).length=a.vars.toNat+1:=by
 constructor
 ·intro d hd;simp only[JL,odV,aDz]at hd;obtain⟨o,ho,rfl⟩:=hd;have:=ab4 a.terms (aCG (a.vars.toNat+1) none) (fun t ht=>⟨(Ix hv ht).2.2.1,(oa.t t ht).c⟩) (fun x hx d hd=>by
   rw[List.eq_of_mem_replicate hx]at hd;exact nomatch hd) o ho
  cases o with
  |none=>exact aO
  |some d=>exact this d rfl
 ·simp[JL,odV,Pr]
theorem aqn(a l):aZ (a::l) 0=some (.ipt a):=by simp[aZ]
theorem aqo(a b l):aZ (a::b::l) 1=some (.ipt b):=by simp[aZ]
theorem akD{a:Rp}(oa:OkP a)(od:∀x∈dom,OkI x)(hf:(mQ a dom&&bC p)=true)(hl:Hc a=true)(h1:a.vars=1){c m:Rd}{x:Ri}(hlin:JL a=[c,m])(hdom:dom=[x]):
  R fap [bc a,.sl 7 (bS dom),I p] []=some (aj (JM c m x p),[]):=by
 refine au kV rfl ?_;have h2:dom.length<=100000:=by rw[hdom];exact(by decide:1<=100000)
 have hf1:=MP oa od h2 (p:=p);rw[hf]at hf1;have hL:=UC oa;unfold YP at hL;rw[if_pos hl,hlin]at hL;have hv:vp a=true:=by
  simp only[Hc,aCK]at hl;exact hl.1
 obtain⟨k1,k2⟩:=ab5 oa hv;rw[hlin]at k1;have kc:=k1 c (List.mem_cons_self ..);have km:=k1 m (List.mem_cons_of_mem _ (List.mem_cons_self ..));have hn:=anr kc.2 km.2 km.1 (od x (by rw[hdom];exact List.mem_cons_self ..)) (p:=p);generalize JM c m x p=z at hn⊢;subst hdom;have e1:(a.vars=1)=True:=tt h1;simp only[bc,bS,aDc,aDh,ao]at hf1 hL;simp only[eC,wG,aDc,aDh,ai]at hL;simp only[af,ai,aj,ao]at hn;simp only[iI,kT,bc,bS,aDc,aDh,aj,ao,go_sem,aDi,aCV,aC2,aCZ,aDg,aDo,hf1,hL,hn,e1,aqn,aqo]
def vK(x:Rd):Nat->Rd->Option Rd
 |0,c=>some c
 |n+1,c=>if(dK c x).2=0 then vK x n (dK c x).1 else none
def qH:List Int->List Rd->Rd->Option Rd
 |e::es,x::xs,c=>(vK x e.toNat c).bind fun d=>qH es xs d
 |_,_,c=>some c
def tH(xs:List Rd):List Rt->Rd->Rd×Int
 |[],s=>(s,0)
 |t::l,s=>match qH t.exps xs t.c with
  |none=>(aB,9)
  |some d=>if(eK s d).2=0 then tH xs l (eK s d).1 else(aB,9)
def aqp(a:Rp)(xs:List Rd):Bool:=vp a&& (decide ((xs.length:Int)=a.vars)&&xs.all vd)
def yJ(a:Rp)(xs:List Rd):Rd×Int:=if aqp a xs=true then tH xs a.terms aB else(aB,1)
theorem MT(h:(cI (cT z (-16384-j))).2=0):zI (cI (cT z (-16384-j))).1*2^j=z:=by
 unfold cI at h⊢;by_cases hr:rI (ag (ab (cT z (-16384-j)).m)) (cT z (-16384-j)).e=true
 ·rw[if_pos hr];unfold cT at hr⊢;by_cases h0:z.natAbs=0
  ·have:z=0:=ω
   rw[this,cQ rfl,Int.zero_mul]
  ·obtain⟨g1,g2,g3,g4⟩:=rU (neg:=decide (z<0)) (e:=-16384- (j:Int)) h0;obtain⟨t1,t2⟩:=yz h0;have hp:ag (ab (bg (decide (z<0)) z.natAbs (-16384-j)).m)≠0:=by
    grind[gM]
   have he:=C6 hr hp;rw[jT h0];unfold zI mg;rw[aT];have ht:(-16384- (j:Int)+(tz z.natAbs:Nat)+16384).toNat+j=tz z.natAbs:=ω
   generalize(-16384- (j:Int)+(tz z.natAbs:Nat)+16384).toNat=k at ht⊢;have hm:(((z.natAbs/2^tz z.natAbs*2^k:Nat):Int))*2^j=z.natAbs:=by
    have:z.natAbs/2^tz z.natAbs*2^k*2^j=z.natAbs:=by
     grind[aC9,aCU,aC6]
    grind
   grind
 grind
theorem Td{a b:Rd}(h:(eK a b).2=0):zI (eK a b).1=zI a+zI b:=by
 unfold eK at h⊢;split at h
 ·have:=MT (z:=zI a+zI b) (j:=0) h;grind
 omega
theorem ab6{a b:Rd}(h:(dK a b).2=0):zI (dK a b).1*2^16384=zI a*zI b:=by
 unfold dK at h⊢;split at h
 ·rename_i h1;rw[if_pos h1];exact MT (z:=zI a*zI b) (j:=16384) h
 omega
def qp(x:Ri)(p:Int):Ri:=if(bC p&&kI x)=true then nv (cw x.lo p false) (cw x.hi p true)else cS
theorem aqq{q t:List Int}(h:cA q t<0):bm q<=bm t:=by
 unfold cA cM at h;omega
theorem ab7{v:Int}:∀ (l:List Rt) (pr:Option Rt),Bj v pr l=true->∀u∈l.getLast?,∀t∈l,bm t.exps<=bm u.exps
 |[],_,_,u,hu,_,_=>nomatch hu
 |[t],_,_,u,hu,w,hw=>by
  grind
 |t::s::l,pr,h,u,hu,w,hw=>by
  have h2:Bj v (some t) (s::l)=true:=by
   simp_all[Bj,aCK]
  have hu2:u∈ (s::l).getLast?:=γ
  have ih:=ab7 (s::l) (some t) h2 u hu2;rcases List.mem_cons.1 hw with h3|h3
  ·rw[h3];unfold Bj at h2;simp only[aCK]at h2;have h4:cA t.exps s.exps<0:=of_decide_eq_true h2.2.1;exact Int.le_trans (aqq h4) (ih s (List.mem_cons_self ..))
  grind
theorem ans{a:Rp}(h:Hc a=true):vp a=true/\∀t∈a.terms,bm t.exps<=1:=by
 simp only[Hc,aCK,decide_eq_true_eq]at h;refine⟨h.1,fun t ht=>?_⟩;have h2:=h.2;unfold jL at h2;rw[if_pos h.1]at h2;cases hl:a.terms.getLast? with
 |none=>grind
 |some u=>
  rw[hl]at h2;exact Int.le_trans (ab7 a.terms none (MS h.1).2.2.2 u ω t ht) h2
theorem ant(h:(t.exps.length:Int)=1):∃e,t.exps=[e]:=by
 match t.exps,h with
 |[e],_=>grind
 |[],h=>grind
 |_::_::l,h=>grind
theorem Oa(ok:Ok0 d):R fc9 [af d] []=some (rV (if vd d=true then(d,0)else(aB,9)),[]):=by
 refine au VK rfl ?_;have hv:=mR ok;simp only[af,ai]at hv;cases hb:vd d with
 |false=>
  rw[hb]at hv;simp only[yj,rV,af,ai,aB,go_sem,hv]
 |true=>
  rw[hb]at hv;simp only[yj,rV,af,ai,go_sem,hv]
theorem YR(z f:Int):(if vd (cT z f)=true then(cT z f,(0:Int))else(aB,9))=cI (cT z f):=by
 unfold cI;by_cases h:rI (ag (ab (cT z f).m)) (cT z f).e=true
 ·rw[if_pos h,if_pos (show vd (cT z f)=true from Fd h)]
 ·rw[if_neg h,if_neg];intro h2;by_cases h0:(cT z f).m.length=0
  ·rw[vZ h2 h0]at h;exact h δ
  grind[zU]
theorem anu{f:Int}{k:Nat}(h:ag z.natAbs<=32*k)(hk:k<=100000):Ok0 (cT z f):=
 ⟨qW _ _ _,aDe (qj (k:=k) h) ω⟩
theorem anv{a b:Rd}(oa:Ok0 a)(ob:Ok0 b):R fdc [af a,af b] []=some (rV (dK a b),[]):=by
 refine au agJ rfl ?_;have ha:=mR oa;have hb:=mR ob;unfold dK;simp only[af,ai]at ha hb;cases va:vd a with
 |false=>
  rw[va]at ha;simp only[B4,rV,af,ai,aB,go_sem,ha]
 |true=>
  rw[va]at ha;cases vb:vd b with
  |false=>
   rw[vb]at hb;simp only[B4,rV,af,ai,aB,go_sem,ha,hb]
  |true=>
   rw[vb]at hb;have hp:=abb oa ob va vb;rw[LJ oa ob va vb]at hp;have hl:Ok0 (cT (zI a*zI b) (-32768)):=by
    rw[←LJ oa ob va vb];have h1:=tw (ab a.m) (ab b.m);obtain⟨_,_,_,h2⟩:=dj va oa.lb;obtain⟨_,_,_,h3⟩:=dj vb ob.lb;exact⟨qW _ _ _,aDe (qj (k:=256) ω) δ⟩
   have hc:=Oa hl;rw[YR]at hc;simp only[rV,af,ai]at hp hc;simp only[B4,rV,af,ai,go_sem,ha,hb,hp,hc]
theorem ab8{a b:Rd}(oa:Ok0 a)(ob:Ok0 b):R fc8 [af a,af b] []=some (rV (eK a b),[]):=by
 refine au agE rfl ?_;have ha:=mR oa;have hb:=mR ob;unfold eK;simp only[af,ai]at ha hb;cases va:vd a with
 |false=>
  rw[va]at ha;simp only[BR,rV,af,ai,aB,go_sem,ha]
 |true=>
  rw[va]at ha;cases vb:vd b with
  |false=>
   rw[vb]at hb;simp only[BR,rV,af,ai,aB,go_sem,ha,hb]
  |true=>
   rw[vb]at hb;have hp:=abZ oa ob va vb;have hl:Ok0 (cT (zI a+zI b) (-16384)):=anu (k:=2000) (aCP (Q3 (ab1 oa va) (ab1 ob vb)) δ) δ;have hc:=Oa hl;rw[YR]at hc;simp only[rV,af,ai]at hp hc;simp only[BR,rV,af,ai,go_sem,ha,hb,hp,hc]
theorem akE{a b:Rd}(h:(dK a b).2≠0):(dK a b).1=aB:=by
 unfold dK cI at h⊢;grind
def Cm(x:Rd)(n:Nat)(c:Rd):Rd×Bool:=match vK x n c with
 |some d=>(d,true)
 |none=>(aB,false)
theorem ae7{x:Rd}(ox:Ok0 x):∀ (n:Nat),n<=100000->∀ (c:Rd),Ok0 c->∀ (s:ap) (h:ae),s 2=I n->s 3=ac 3->s 4=ac 4->s 6=ac 6->h 3=.bx (ai c)->h 4=.bx (ai x)->h 6=.bx [B false,.emp,I 0]->
  ∃hh,cF (ak 0 [3,6] (av (am R (az false) px) [2,3,4,6] [3,4,6] s h)) (am R (az false) (.seq (.ops [6,7] [la 22 3 3,sr 3 (.t 6) (.t 22),co 7 (.mv (.c (B true)))]) (.ret)))=some (.ret,⟨upd (upd bk 7 (B (Cm x n c).2)) 6 (ac 6),hh⟩)/\hh 6=.bx (ai (Cm x n c).1):=by
 intro n;induction n with
 |zero=>
  intro _ c oc s h h2 h3 h4 h6 k3 k4 k6;have e1:(0< ((0:Nat):Int))=False:=ff;rw[ah];refine⟨?hh0,?_,?_⟩;rotate_left
  ·simp only[px,Cm,vK,go_sem,h2,h3,h4,h6,k3,k4,k6,e1];rfl
  ·rfl
 |succ n ih=>
  intro hn c oc s h h2 h3 h4 h6 k3 k4 k6;have e1:(0< ((n+1:Nat):Int))=True:=tt;have e5:aG (((n+1:Nat):Int)-1)=(n:Int):=by grind[i64_in]
  have hm:=anv oc ox;have he:=akE (a:=c) (b:=x);have om:=(Fh c x).2;rw[ah];unfold Cm vK;by_cases h0:(dK c x).2=0
  ·have ih':=ih ω (dK c x).1 om;generalize dK c x=r at hm h0 ih'⊢;obtain⟨r1,r2⟩:=r;have e2:(r2=0)=True:=tt h0;simp only[rV,af,ai]at hm k3 k4;simp only[px,go_sem,h2,h3,h4,h6,k3,k4,k6,e1,e5,hm,e2]at ih'⊢;exact ih' _ _ rfl rfl rfl rfl rfl rfl rfl
  ·rw[if_neg h0]
   replace he:=he h0
   generalize dK c x=r at hm h0 he⊢;obtain⟨r1,r2⟩:=r;have e2:(r2=0)=False:=ff h0;subst he;simp only[rV,af,ai]at hm k3 k4;refine⟨?hh1,?_,?_⟩;rotate_left
   ·simp only[px,go_sem,h2,h3,h4,h6,k3,k4,k6,e1,hm,e2];rfl
   ·rfl
theorem ae8{c x:Rd}(oc:Ok0 c)(ox:Ok0 x)(hn:n<=100000):R fdF [af c,af x,I n] []=some (.tup [af (Cm x n c).1,B (Cm x n c).2],[]):=by
 refine au aa0 rfl ?_;have h:=ae7 ox n hn c oc;have h':∀ (S:ap) (H:ae) (X:Option (Ex×St)),cF (ak 0 [3,6] (av (am R (az false) px) [2,3,4,6] [3,4,6] S H)) (am R (az false) (.seq (.ops [6,7] [la 22 3 3,sr 3 (.t 6) (.t 22),co 7 (.mv (.c (B true)))]) (.ret)))=X->S 2=I n->S 3=ac 3->S 4=ac 4->S 6=ac 6->H 3=.bx (ai c)->H 4=.bx (ai x)->H 6=.bx [B false,.emp,I 0]->
   ∃hh,X=some (.ret,⟨upd (upd bk 7 (B (Cm x n c).2)) 6 (ac 6),hh⟩)/\hh 6=.bx (ai (Cm x n c).1):=fun S H X hX=>by
  rw[←hX];exact h S H
 simp only[FO,N0,af,ai,go_sem];generalize hB:cF (ak 0 [3,6] (av _ _ _ _ _)) _=X;obtain⟨hh,g1,g2⟩:=h' _ _ _ hB rfl rfl rfl rfl rfl rfl rfl;rw[g1];simp only[ai]at g2;simp only[go_sem,g2]
theorem UF{x:Rd}:∀ (n:Nat) (c d:Rd),Ok0 c->vK x n c=some d->Ok0 d
 |0,c,d,oc,h=>by
  grind[vK,Option.some.inj]
 |n+1,c,d,oc,h=>by
  unfold vK at h;split at h
  ·exact UF n _ d (Fh c x).2 h
  ·exact nomatch h
abbrev zb:List AV:=[B false,.emp,I 0]
theorem aqr{a:Rp}(ox:∀d∈xs,Ok0 d)(h2:xs.length<=100000):∀ (k i:Nat),i+k=xs.length->∀ (s:ap) (h:ae),s 1=eC xs->s 2=ac 2->s 4=ac 4->s 6=I i->h 2=.bx [I a.vars,.sl 4 (aL a.terms)]->h 4=.bx zb->
  ∃hh,hh 4=.bx zb/\(((xs.drop i).all vd=true/\hh 2=.bx [I a.vars,.sl 4 (aL a.terms)]/\(∀a,a≠2->a≠4->hh a=.dead)/\ak 0 [1,2,4] (av (am R (az false) lg) [1,2,4,6] [2,4] s h)=some (.normal,⟨upd (upd (upd bk 4 (ac 4)) 2 (ac 2)) 1 (eC xs),hh⟩))\/
   ((xs.drop i).all vd=false/\ak 0 [1,2,4] (av (am R (az false) lg) [1,2,4,6] [2,4] s h)=some (.ret,⟨upd (upd bk 5 (I 1)) 4 (ac 4),hh⟩))):=by
 intro k;induction k with
 |zero=>
  intro i hi s h h1 h2 h4 h6 k2 k4;have e1:((i:Int)<xs.length)=False:=ff;rw[aC3 ω,ah];refine⟨?hh0,?_,.inl ⟨rfl,?_,?_,?_⟩⟩;rotate_left 4
  ·simp only[lg,eC,go_sem,h1,h2,h4,h6,k2,k4,e1];rfl
  all_goals simp_all[upd,if_neg]
 |succ k ih=>
  intro i hi s h h1 h2 h4 h6 k2 k4;have hlt:i<xs.length:=ω
  have e1:((i:Int)<xs.length)=True:=tt;have e2:aZ (wG xs) (i:Int)=some (.ipt (ai xs[i])):=ML rfl (List.getElem?_eq_getElem hlt);have e5:aG ((i:Int)+1)=((i+1:Nat):Int):=wi;have od:=ox xs[i] (aC0 hlt);have ih':=ih (i+1) ω;rw[aC4 hlt,ah];generalize xs[i]=d at e2 od⊢;have hv:=mR od;unfold eC at h1 ih'⊢;simp only[af,ai]at hv e2;cases hb:vd d with
  |true=>
   rw[hb]at hv;rw[show(d::xs.drop (i+1)).all vd=(xs.drop (i+1)).all vd by rw[aDb,hb,aCM]];simp only[lg,go_sem,h1,h2,h4,h6,k2,k4,e1,e2,e5,hv];exact ih' _ _ rfl rfl rfl rfl rfl rfl
  |false=>
   rw[hb]at hv;rw[show(d::xs.drop (i+1)).all vd=false by rw[aDb,hb,aCO]];refine⟨?hh1,?_,.inr ⟨rfl,?_⟩⟩;rotate_left 2
   ·simp only[lg,go_sem,h1,h2,h4,h6,k2,k4,e1,e2,hv];rfl
   ·rfl
theorem ae9{es:List Int}{c:Rd}(h1:i<es.length)(h2:i<xs.length):qH (es.drop i) (xs.drop i) c=(vK xs[i] es[i].toNat c).bind fun d=>qH (es.drop (i+1)) (xs.drop (i+1)) d:=by
 rw[aC4 h1,aC4 h2];rfl
theorem atz{a:Rp}{c7:List AV}(h7c:c7.all (hF [2,4,7,9])=true)(ox:∀d∈xs,Ok0 d)(hx:(xs.length:Int)=a.vars)(hv:a.vars<=8)(he:t.exps.length=xs.length)(hr:∀e∈t.exps,0<=e/\e<=32)(ht:a.terms[j]?=some t):∀ (k i:Nat),i+k=xs.length->∀ (c:Rd),Ok0 c->∀ (s:ap) (h:ae),s 1=eC xs->s 2=ac 2->s 4=ac 4->s 7=ac 7->s 8=I j->s 9=ac 9->s 10=I i->
  h 2=.bx [I a.vars,.sl 4 (aL a.terms)]->h 4=.bx zb->h 7=.bx c7->h 9=.bx (ai c)->
  ∃hh,hh 4=.bx zb/\((∃d,qH (t.exps.drop i) (xs.drop i) c=some d/\Ok0 d/\hh 9=.bx (ai d)/\hh 2=.bx [I a.vars,.sl 4 (aL a.terms)]/\hh 7=.bx c7/\(∀a,a≠2->a≠4->a≠7->a≠9->hh a=.dead)/\
    ak 4 [1,2,4,7,8,9] (av (am R (az false) jN) [1,2,4,7,8,9,10] [2,4,7,9] s h)=some (.normal,⟨upd (upd (upd (upd (upd (upd bk 9 (ac 9)) 8 (I j)) 7 (ac 7)) 4 (ac 4)) 2 (ac 2)) 1 (eC xs),hh⟩))\/
   (qH (t.exps.drop i) (xs.drop i) c=none/\ak 4 [1,2,4,7,8,9] (av (am R (az false) jN) [1,2,4,7,8,9,10] [2,4,7,9] s h)=some (.ret,⟨upd (upd bk 5 (I 9)) 4 (ac 4),hh⟩))):=by
 intro k;induction k with
 |zero=>
  intro i hi c oc s h h1 h2 h4 h7 h8 h9 h10 k2 k4 k7 k9;have e1:((i:Int)<a.vars)=False:=ff;rw[aC3 (show xs.length<=i by omega),aC3 (show t.exps.length<=i by omega),ah];refine⟨?hh0,?_,.inl ⟨c,rfl,oc,?_,?_,?_,?_,?_⟩⟩;rotate_left 6
  ·simp only[jN,eC,go_sem,h1,h2,h4,h7,h8,h9,h10,k2,k4,k7,k9,h7c,e1];rfl
  all_goals simp_all[upd,if_neg]
 |succ k ih=>
  intro i hi c oc s h h1 h2 h4 h7 h8 h9 h10 k2 k4 k7 k9;have hlt:i<xs.length:=ω
  have hlt2:i<t.exps.length:=ω
  have e1:((i:Int)<a.vars)=True:=tt;have e2:aZ (wG xs) (i:Int)=some (.ipt (ai xs[i])):=ML rfl (List.getElem?_eq_getElem hlt);have e3:aZ (aL a.terms) (j:Int)=some (.ipt (ce t)):=iY rfl ht;have e4:aZ (aV t.exps) (i:Int)=some (.ipt [I t.exps[i]]):=pH rfl (List.getElem?_eq_getElem hlt2);have e5:aG ((i:Int)+1)=((i+1:Nat):Int):=wi;have od:=ox xs[i] (aC0 hlt);obtain⟨r1,r2⟩:=hr t.exps[i] (aC0 hlt2);have ih':=ih (i+1) ω;rw[ae9 hlt2 hlt,ah];generalize t.exps[i]=e at e4 r1 r2⊢;obtain⟨n,rfl⟩:=aDG r1;rw[aCQ];generalize xs[i]=x at e2 od⊢;have hm:=ae8 oc od (n:=n) ω;have hok:=UF (x:=x) n c;unfold Cm at hm;unfold eC at h1 ih'⊢;simp only[ce]at e3;cases hT:vK x n c with
  |some d=>
   have oc2:=hok d oc hT;rw[hT]at hm;simp only[af,ai]at hm e2 k9
   replace ih':=ih' d oc2
   simp only[jN,go_sem,h1,h2,h4,h7,h8,h9,h10,k2,k4,k7,k9,h7c,e1,e2,e3,e4,e5,hm];exact ih' _ _ rfl rfl rfl rfl rfl rfl rfl rfl rfl rfl rfl
  |none=>
   rw[hT]at hm;simp only[af,ai,aB]at hm e2 k9;refine⟨?hh1,?_,.inr ⟨rfl,?_⟩⟩;rotate_left 2
   ·simp only[jN,go_sem,h1,h2,h4,h7,h8,h9,h10,k2,k4,k7,k9,h7c,e1,e2,e3,e4,hm];rfl
   ·rfl
theorem UG{l:List Rt}{q:Rd}(h:qH t.exps xs t.c=some d):tH xs (t::l) q=if(eK q d).2=0 then tH xs l (eK q d).1 else(aB,9):=by
 rw[show tH xs (t::l) q=(match qH t.exps xs t.c with|none=>(aB,(9:Int))|some d=>if(eK q d).2=0 then tH xs l (eK q d).1 else(aB,9))from rfl,h]
theorem UH{l:List Rt}{q:Rd}(h:qH t.exps xs t.c=none):tH xs (t::l) q=(aB,9):=by
 rw[show tH xs (t::l) q=(match qH t.exps xs t.c with|none=>(aB,(9:Int))|some d=>if(eK q d).2=0 then tH xs l (eK q d).1 else(aB,9))from rfl,h]
theorem aqs{a:Rp}(ox:∀d∈xs,Ok0 d)(oa:OkP a)(hv:vp a=true)(hx:(xs.length:Int)=a.vars):∀ (k i:Nat),i+k=a.terms.length->∀ (q:Rd),Ok0 q->∀ (c7:List AV),(c7=ai q\/(c7=zb/\q=aB))->∀ (s:ap) (h:ae),s 1=eC xs->s 2=ac 2->s 4=ac 4->s 7=ac 7->s 8=I i->
  h 2=.bx [I a.vars,.sl 4 (aL a.terms)]->h 4=.bx zb->h 7=.bx c7->
  ∃hh,hh 4=.bx zb/\((∃d c8,tH xs (a.terms.drop i) q=(d,0)/\hh 7=.bx c8/\(c8=ai d\/(c8=zb/\d=aB))/\ak 2 [4,7] (av (am R (az false) nI) [1,2,4,7,8] [2,4,7] s h)=some (.normal,⟨upd (upd bk 7 (ac 7)) 4 (ac 4),hh⟩))\/
   (tH xs (a.terms.drop i) q=(aB,9)/\ak 2 [4,7] (av (am R (az false) nI) [1,2,4,7,8] [2,4,7] s h)=some (.ret,⟨upd (upd bk 5 (I 9)) 4 (ac 4),hh⟩))):=by
 obtain⟨v1,v2,v3,v4⟩:=MS hv;intro k;induction k with
 |zero=>
  intro i hi q oq c7 hq s h h1 h2 h4 h7 h8 k2 k4 k7;have e1:((i:Int)<a.terms.length)=False:=ff;rw[aC3 ω,ah];have h7c:c7.all (hF [2,4,7])=true:=by rcases hq with rfl| ⟨rfl,rfl⟩<;>rfl
  refine⟨?hh0,?_,.inl ⟨q,c7,rfl,?_,hq,?_⟩⟩;rotate_left 3
  ·simp only[nI,go_sem,h1,h2,h4,h7,h8,k2,k4,k7,h7c,e1];rfl
  ·rfl
  ·rfl
 |succ k ih=>
  intro i hi q oq c7 hq s h h1 h2 h4 h7 h8 k2 k4 k7;have hlt:i<a.terms.length:=ω
  have e1:((i:Int)<a.terms.length)=True:=tt;have ht:=List.getElem?_eq_getElem hlt;have e5:aG ((i:Int)+1)=((i+1:Nat):Int):=wi;have okt:=oa.t a.terms[i] (aC0 hlt);obtain⟨c1,c2,c3,c4,c5⟩:=Ix hv (aC0 hlt);have ih':=ih (i+1) ω;rw[aC4 hlt,ah];generalize a.terms[i]=t at ht okt c1 c2 c3 c4 c5⊢;have e2:aZ (aL a.terms) (i:Int)=some (.ipt (ce t)):=iY rfl ht;have h7c:c7.all (hF [2,4,7])=true:=by rcases hq with rfl| ⟨rfl,rfl⟩<;>rfl
  have h7d:c7.all (hF [2,4,7,9])=true:=by rcases hq with rfl| ⟨rfl,rfl⟩<;>rfl
  have hin:=atz h7d ox hx v2 ω c1.2 ht xs.length 0 (aCI _) t.c okt.c;generalize hL0:av (am R (az false) jN) [1,2,4,7,8,9,10] [2,4,7,9]=L0 at hin;have hX:∀s h,am R (az false) (.loop [1,2,4,7,8,9,10] [2,4,7,9] jN) s h=L0 s h:=fun s h=>by rw[←hL0];rfl
  have hin2:∀ (S:ap) (H:ae) (X:Option (Ex×St)),ak 4 [1,2,4,7,8,9] (L0 S H)=X->S 1=eC xs->S 2=ac 2->S 4=ac 4->S 7=ac 7->S 8=I i->S 9=ac 9->S 10=I 0->
    H 2=.bx [I a.vars,.sl 4 (aL a.terms)]->H 4=.bx zb->H 7=.bx c7->H 9=.bx (ai t.c)->
    ∃hh,hh 4=.bx zb/\((∃d,qH t.exps xs t.c=some d/\Ok0 d/\hh 9=.bx (ai d)/\hh 2=.bx [I a.vars,.sl 4 (aL a.terms)]/\hh 7=.bx c7/\(∀a,a≠2->a≠4->a≠7->a≠9->hh a=.dead)/\
      X=some (.normal,⟨upd (upd (upd (upd (upd (upd bk 9 (ac 9)) 8 (I i)) 7 (ac 7)) 4 (ac 4)) 2 (ac 2)) 1 (eC xs),hh⟩))\/
     (qH t.exps xs t.c=none/\X=some (.ret,⟨upd (upd bk 5 (I 9)) 4 (ac 4),hh⟩))):=fun S H X hX=>by
   rw[←hX];exact hin S H
  simp only[ce]at e2;simp only[ai]at hin2;simp only[nI,hX,go_sem,h1,h2,h4,h7,h8,k2,k4,k7,h7c,e1,e2];generalize hB:ak 4 [1,2,4,7,8,9] (L0 _ _)=X;obtain⟨hh,g4,hd⟩:=hin2 _ _ _ hB rfl rfl rfl rfl rfl rfl rfl rfl rfl rfl rfl;rcases hd with⟨d,p1,od,g9,g2,g7,gd,rfl⟩| ⟨p1,rfl⟩
  ·have hm:=ab8 oq od;have om:=(Iy q d).2;have ih2:=ih' (eK q d).1 om (ai (eK q d).1) (.inl rfl);rw[UG p1];generalize eK q d=r at hm om ih2⊢;obtain⟨r1,r2⟩:=r;simp only[rV,af,ai]at hm ih2;have hg:(c7=[B q.neg,lm q.m,I q.e])\/(c7=zb/\q=aB):=hq;rcases hg with rfl| ⟨rfl,rfl⟩
   all_goals try simp only[aB]at hm
   all_goals
    by_cases h0:r2=0
    ·have e3:(r2=0)=True:=tt h0;rw[if_pos h0];generalize tH xs (a.terms.drop (i+1)) r1=Z at ih2⊢;simp only[ai,go_sem,g4,g7,g9,gd,hm,ne_eq,not_false_eq_true,e5,e3];refine ih2 _ _ ?_ ?_ ?_ ?_ ?_ ?_ ?_ ?_
     all_goals first|rfl|exact g2|exact g4
    ·have e3:(r2=0)=False:=ff h0;rw[if_neg h0];refine⟨?_,?_,.inr ⟨rfl,?_⟩⟩;rotate_left 2
     ·simp only[go_sem,g4,g7,g9,gd,hm,ne_eq,not_false_eq_true,e3];rfl
     ·rfl
  ·rw[UH p1];refine⟨hh,g4,.inr ⟨rfl,?_⟩⟩;simp only[go_sem]
theorem ahv{a:Rp}(oa:OkP a)(ox:∀d∈xs,Ok0 d)(h2:xs.length<=100000):R fdB [bc a,eC xs] []=some (rV (yJ a xs),[]):=by
 refine au aes rfl ?_;have hv:=ae5 oa;unfold yJ aqp;simp only[bc]at hv;cases hb:vp a with
 |false=>
  rw[hb]at hv;rw[aCO,if_neg aCR];simp only[zL,EU,rV,af,ai,aB,bc,eC,go_sem,hv]
 |true=>
  rw[hb]at hv;rw[aCM];by_cases hx:(xs.length:Int)=a.vars
  ·have e1:((xs.length:Int)=a.vars)=True:=tt hx;rw[decide_eq_true hx,aCM];have hc:=aqr (a:=a) ox h2 xs.length 0 (aCI _);have ho:=aqs ox oa hb hx a.terms.length 0 (aCI _) aB aO.2 zb (.inr ⟨rfl,rfl⟩);simp only[aDI,aDf]at hc ho;generalize hL2:av (am R (az false) lg) [1,2,4,6] [2,4]=L2 at hc;have hX2:∀s h,am R (az false) (.loop [1,2,4,6] [2,4] lg) s h=L2 s h:=fun s h=>by rw[←hL2];rfl
   clear hL2;generalize hL1:av (am R (az false) nI) [1,2,4,7,8] [2,4,7]=L1 at ho;have hX1:∀s h,am R (az false) (.loop [1,2,4,7,8] [2,4,7] nI) s h=L1 s h:=fun s h=>by rw[←hL1];rfl
   clear hL1;have hc2:∀ (S:ap) (H:ae) (X:Option (Ex×St)),ak 0 [1,2,4] (L2 S H)=X->S 1=eC xs->S 2=ac 2->S 4=ac 4->S 6=I 0->H 2=.bx [I a.vars,.sl 4 (aL a.terms)]->H 4=.bx zb->
     ∃hh,hh 4=.bx zb/\((xs.all vd=true/\hh 2=.bx [I a.vars,.sl 4 (aL a.terms)]/\(∀a,a≠2->a≠4->hh a=.dead)/\X=some (.normal,⟨upd (upd (upd bk 4 (ac 4)) 2 (ac 2)) 1 (eC xs),hh⟩))\/
      (xs.all vd=false/\X=some (.ret,⟨upd (upd bk 5 (I 1)) 4 (ac 4),hh⟩))):=fun S H X hX=>by
    rw[←hX];exact hc S H
   have ho2:∀ (S:ap) (H:ae) (X:Option (Ex×St)),ak 2 [4,7] (L1 S H)=X->S 1=eC xs->S 2=ac 2->S 4=ac 4->S 7=ac 7->S 8=I 0->
     H 2=.bx [I a.vars,.sl 4 (aL a.terms)]->H 4=.bx zb->H 7=.bx zb->
     ∃hh,hh 4=.bx zb/\((∃d c8,tH xs a.terms aB=(d,0)/\hh 7=.bx c8/\(c8=ai d\/(c8=zb/\d=aB))/\X=some (.normal,⟨upd (upd bk 7 (ac 7)) 4 (ac 4),hh⟩))\/
      (tH xs a.terms aB=(aB,9)/\X=some (.ret,⟨upd (upd bk 5 (I 9)) 4 (ac 4),hh⟩))):=fun S H X hX=>by
    rw[←hX];exact ho S H
   clear hc ho;unfold eC at hc2 ho2;simp only[zL,EU,hX2,bc,eC,go_sem,hv,e1];generalize hB:ak 0 [1,2,4] (L2 _ _)=X;obtain⟨hh,g4,hd⟩:=hc2 _ _ _ hB rfl rfl rfl rfl rfl rfl;clear hB hc2;rcases hd with⟨q1,g2,gd,rfl⟩| ⟨q1,rfl⟩
   ·rw[q1,if_pos rfl];simp only[hX1,go_sem,gd,ne_eq,not_false_eq_true];generalize hB:ak 2 [4,7] (L1 _ _)=X;obtain⟨hh2,f4,hd⟩:=ho2 _ _ _ hB rfl rfl rfl rfl rfl g2 g4 rfl;clear hB ho2;rcases hd with⟨d,c8,q1,f7,hq,rfl⟩| ⟨q1,rfl⟩
    ·rw[q1];rcases hq with rfl| ⟨rfl,rfl⟩
     ·simp only[ai]at f7;simp only[rV,af,ai,go_sem,f4,f7]
     ·simp only[rV,af,ai,aB,go_sem,f4,f7]
    ·rw[q1];simp only[rV,af,ai,aB,go_sem,f4]
   ·rw[q1,if_neg aCR];simp only[rV,af,ai,aB,go_sem,g4]
  ·have e1:((xs.length:Int)=a.vars)=False:=ff hx;rw[decide_eq_false hx,aCO,if_neg aCR];simp only[zL,EU,rV,af,ai,aB,bc,eC,go_sem,hv,e1]
@[go_sem] theorem aAh(l:List Rd):(wG l).map (eP [.o 0 [],.o 2 [],.o 0 []])=wG l:=by
 refine tO fun x hx=>?_;simp only[wG,aDz]at hx;obtain⟨t,ht,rfl⟩:=hx;simp only[ai,go_sem]
theorem ab9{xs:List Rd}:∀ (l:List Rt) (s:Rd),vd s=true/\Ok0 s->vd (tH xs l s).1=true/\Ok0 (tH xs l s).1
 |[],s,h=>h
 |t::l,s,h=>by
  cases hp:qH t.exps xs t.c with
  |none=>rw[UH hp];exact aO
  |some d=>
   rw[UG hp];split
   ·exact ab9 l _ (Iy s d)
   ·exact aO
theorem Pt(a:Rp)(xs:List Rd):vd (yJ a xs).1=true/\Ok0 (yJ a xs).1:=by
 grind[yJ,ab9,aO]
theorem JN(h:vd d=true):cI d=(d,0):=by
 unfold cI;by_cases h0:d.m.length=0
 ·rw[vZ h h0];rfl
 simp_all[if_pos,zU]
theorem LL(ok:Ok0 d)(h:vd d=true):bg d.neg (ab d.m) d.e=d:=by
 have h1:=yH ok h;obtain⟨g1,g2,g3,g4⟩:=dj h ok.lb;have hz:zI d=bL d.neg (mg d):=rfl;rw[hz,←Bk]at h1;grind[mg,kH]
theorem aca{N k:Nat}(ho:N%2=1)(hb:4096<ag N):cI (bg neg (N*2^k) (-16384))=(aB,9):=by
 have h0:N≠0:=ω
 rw[kH];obtain⟨g1,g2,g3,g4⟩:=rU (neg:=neg) (e:=-16384+(k:Int)) h0;have ht:=YL ho 0;rw[Nat.pow_zero,Nat.mul_one]at ht;unfold cI;rw[if_neg];intro h2;rw[g1,ht,Nat.pow_zero,Nat.div_one]at h2;have h3:=(C6 h2 ω).1;omega
theorem YS{a b:Rd}(oa:Ok0 a)(ob:Ok0 b)(va:vd a=true)(vb:vd b=true)(na:a.m.length≠0)(nb:b.m.length≠0)(he:e=if b.e<a.e then b.e else a.e)(h:4097<aN a-e)(hg:1<aN a-aN b):
  cI (cT (zI a+zI b) (-16384))=(aB,9)/\cI (cT (zI b+zI a) (-16384))=(aB,9):=by
 obtain⟨a1,a2,a3,a4⟩:=dj va oa.lb;obtain⟨b1,b2,b3,b4⟩:=dj vb ob.lb;have e1:=jq va na;have e2:=jq vb nb;have he1:-16384<=e/\e<=a.e/\e<=b.e/\(e=a.e\/e=b.e):=by
  omega
 have hne:a.e≠b.e:=ω
 have z1:zI a=bL a.neg (ab a.m*2^ (a.e-e).toNat*2^ (e+16384).toNat):=by
  grind[zI,bL,mg,xx]
 have z2:zI b=bL b.neg (ab b.m*2^ (b.e-e).toNat*2^ (e+16384).toNat):=by
  rw[show zI b=bL b.neg (mg b)from rfl,xx he1.1 he1.2.2.1]
 have bx:(ag (ab a.m*2^ (a.e-e).toNat):Int)=aN a-e:=by
  grind[dJ,dQ]
 have by':(ag (ab b.m*2^ (b.e-e).toNat):Int)=aN b-e:=by
  grind
 have oX:=Fi va na;have oY:=Fi vb nb;have odd:(ab a.m*2^ (a.e-e).toNat+ab b.m*2^ (b.e-e).toNat) %2=1:=by
  rcases he1.2.2.2 with h1|h1
  ·omega
  ·obtain⟨k,hk⟩:∃k,(a.e-e).toNat=k+1:=⟨(a.e-e).toNat-1,by omega⟩;rw[show(b.e-e).toNat=0 by omega,hk,Nat.pow_zero,Nat.mul_one,aDw,←aC9];omega
 rw[Int.add_comm (zI b),and_self,z1,z2];generalize ab a.m*2^ (a.e-e).toNat=x at bx odd⊢;generalize ab b.m*2^ (b.e-e).toNat=y at by' odd⊢;generalize(e+16384).toNat=k;have hx:2^ (ag x-1)<=x:=kW.1 ω;have hy:y<2^ (ag x-2):=by
  have h3:y<2^ag y:=bH.1 (aCJ _);grind[aDF,aDn]
 have hp:2^ (ag x-1)=2^ (ag x-2)*2:=by
  rw[←aDw];grind
 have hbig:∀N:Nat,x-y<=N->4096<ag N:=fun N hN=>by
  have h5:ag x-2<ag N:=kW.2 ω;omega
 have hsum:∀ (n:Bool) (z:Nat),cT (bL n (z*2^k)) (-16384)=bg n (z*2^k) (-16384):=fun n z=>Bk.symm;by_cases hs:a.neg=b.neg
 ·have hz:bL a.neg (x*2^k)+bL b.neg (y*2^k)=bL a.neg ((x+y)*2^k):=by
   rw[←hs,aC8];cases a.neg
   all_goals grind[qF,rJ]
  grind[aca]
 ·have hbn:b.neg=!a.neg:=by
   grind
  have hz:bL a.neg (x*2^k)+bL b.neg (y*2^k)=bL a.neg ((x-y)*2^k):=by
   grind[Bool.not_true,qF,rJ]
  rw[hz,hsum];exact aca ω (hbig _ (aCJ _))
noncomputable def tJ:Cmd:=.seq (.dops [2,3,4,6,9,10] [fa 65 1 2,ld 66 1 65,fa 67 2 2,ld 68 1 67,cm 69 6,b2 70 .sub 68 69,ca 71 fa4 [.t 66,.t 70],fa 72 1 3,ld 73 1 72,fa 74 2 3,ld 75 1 74,cm 76 6,b2 77 .sub 75 76,ca 78 fa4 [.t 73,.t 77],cm 9 71,cm 10 78] [(6,8),(6,10)]) (.seq (.seq (.ops [2,3,4,6,9,10,83] [fa 79 0 2,ld 80 1 79,fa 81 0 3,ld 82 1 81,co 83 (.eqc false 0 (.t 80) (.t 82))]) (.cond (.t 83) (.seq (.ops [2,4,6,11] [cm 85 9,cm 86 10,ca 87 fcr [.t 85,.t 86],cm 84 87,co 88 (.ext 0 (.t 84)),co 89 (.ext 1 (.t 84)),cm 11 88,cm 12 89]) (.seq (.ops [4,5] [fa 90 0 2,ld 91 1 90,cm 92 11,cm 93 6,ca 94 faY [.t 91,.t 92,.t 93],ca 95 faZ [.t 94],co 96 (.ext 0 (.t 95)),co 97 (.ext 1 (.t 95)),sr 3 (.t 4) (.t 96),cm 5 97]) (.ret))) (.skip))) (.seq (.seq (.ops [2,3,4,6,9,10,101] [cm 98 9,cm 99 10,ca 100 fct [.t 98,.t 99],co 101 (.bin .lss (.t 100) (.c (I 0)))]) (.cond (.t 101) (.ops [2,4,6,9,10] [la 102 3 3,cm 103 10,cm 104 9,sr 3 (.t 2) (.t 102),cm 9 103,cm 10 104]) (.skip))) (.seq (.ops [2,4,6,13] [cm 106 9,cm 107 10,ca 108 fcy [.t 106,.t 107],cm 105 108,co 109 (.ext 0 (.t 105)),co 110 (.ext 1 (.t 105)),cm 13 109,cm 14 110]) (.seq (.ops [4,5] [fa 111 0 2,ld 112 1 111,cm 113 13,cm 114 6,ca 115 faY [.t 112,.t 113,.t 114],ca 116 faZ [.t 115],co 117 (.ext 0 (.t 116)),co 118 (.ext 1 (.t 116)),sr 3 (.t 4) (.t 117),cm 5 118]) (.ret)))))
theorem ws:B7=.seq (.ops [2,3,4] [bx 2 3 (.t 0),bx 3 3 (.t 1),al 4 [B false,.emp,I 0],co 5 (.mv (.c (I 0)))]) (.seq (.seq (.ops [2,3,4,24] [fa 15 1 2,ld 16 1 15,co 17 (.len false (.t 16)),co 18 (.bin .eql (.t 17) (.c (I 0))),cm 19 18,cg 20 19 false (.fadr 1 (.t 3)),⟨(some 21),(some (19,false)),.load 1 false (.t 20)⟩,cg 22 19 false (.len false (.t 21)),cg 23 19 false (.bin .eql (.t 22) (.c (I 0))),co 24 (.pick (.t 19) (.c (B true)) (.t 23))]) (.cond (.t 24) (.seq (.seq (.ops [2,3,4,28] [fa 25 1 2,ld 26 1 25,co 27 (.len false (.t 26)),co 28 (.bin .eql (.t 27) (.c (I 0)))]) (.cond (.t 28) (.ops [2,4] [la 29 3 3,sr 3 (.t 2) (.t 29)]) (.skip))) (.seq (.ops [4,5] [fa 30 0 2,ld 31 1 30,fa 32 1 2,ld 33 1 32,fa 34 2 2,ld 35 1 34,ca 36 faY [.t 31,.t 33,.t 35],sr 3 (.t 4) (.t 36),co 5 (.mv (.c (I 0)))]) (.ret))) (.skip))) (.seq (.ops [2,3,4,6] [fa 37 2 2,ld 38 1 37,fa 39 2 3,ld 40 1 39,co 41 (.mnx true (.t 38) [.t 40]),cm 6 41]) (.seq (.dops [2,3,4,6,7,8] [la 42 3 2,ca 43 faW [.t 42],la 44 3 3,ca 45 faW [.t 44],cm 7 43,cm 8 45] [(1,2)]) (.seq (.seq (.ops [2,3,4,6,63] [cm 46 7,cm 47 8,co 48 (.mnx false (.t 46) [.t 47]),cm 49 6,b2 50 .sub 48 49,co 51 (.bin .gtr (.t 50) (.c (I 4097))),cm 52 51,cg 53 52 true (.mv (.t 7)),cg 54 52 true (.mv (.t 8)),cg 55 52 true (.bin .sub (.t 53) (.t 54)),cg 56 52 true (.bin .gtr (.t 55) (.c (I 1))),cg 57 52 true (.mv (.t 56)),cg 58 57 false (.mv (.t 8)),cg 59 57 false (.mv (.t 7)),cg 60 57 false (.bin .sub (.t 58) (.t 59)),cg 61 57 false (.bin .gtr (.t 60) (.c (I 1))),cg 62 52 true (.pick (.t 57) (.c (B true)) (.t 61)),co 63 (.pick (.t 52) (.t 62) (.c (B false)))]) (.cond (.t 63) (.seq (.ops [4,5] [co 64 (.build [B false,.emp,I 0] []),sr 3 (.t 4) (.t 64),co 5 (.mv (.c (I 9)))]) (.ret)) (.skip))) tJ)))):=rfl
theorem ahw{a b:Rd}(oa:Ok0 a)(ob:Ok0 b)(va:vd a=true)(vb:vd b=true)(na:a.m.length≠0)(nb:b.m.length≠0)(he1:-16384<=e/\e<=a.e/\e<=b.e)(hX:aN a-e<=5000)(hY:aN b-e<=5000)(s:ap)
  (h2:s 2=ac 2) (h3:s 3=ac 3) (h4:s 4=ac 4) (h6:s 6=I e):
  kj false [[.o 0 [],.o 2 [],.o 0 []],[]] [.cell 4 3 true,.t 5] 0 (am R (az false) tJ s (upd (upd (upd (fun _=>.dead) 2 (.bx (ai a))) 3 (.bx (ai b))) 4 (.bx [B false,.emp,I 0])))=some (rV (cI (cT (zI a+zI b) (-16384))),[]):=by
 obtain⟨a1,a2,a3,a4⟩:=dj va oa.lb;obtain⟨b1,b2,b3,b4⟩:=dj vb ob.lb;have e1:=jq va na;have e2:=jq vb nb;have w1:aG (a.e-e)=(((a.e-e).toNat:Nat):Int):=wi;have w2:aG (b.e-e)=(((b.e-e).toNat:Nat):Int):=wi;have z1:zI a=bL a.neg (ab a.m*2^ (a.e-e).toNat*2^ (e+16384).toNat):=by
  grind[zI,bL,mg,xx]
 have z2:zI b=bL b.neg (ab b.m*2^ (b.e-e).toNat*2^ (e+16384).toNat):=by
  rw[show zI b=bL b.neg (mg b)from rfl,xx he1.1 he1.2.2]
 have bx:ag (ab a.m*2^ (a.e-e).toNat)<=5000:=by
  grind[dJ,dQ]
 have by':ag (ab b.m*2^ (b.e-e).toNat)<=5000:=by
  grind[dJ,dQ]
 have l1:=E2 oa.lb a1 (k:=(a.e-e).toNat) ω (aCP (aX (k:=157) ω) δ);have l2:=E2 ob.lb b1 (k:=(b.e-e).toNat) ω (aCP (aX (k:=157) ω) δ);rw[z1,z2];generalize ab a.m*2^ (a.e-e).toNat=x at l1 bx⊢;generalize ab b.m*2^ (b.e-e).toNat=y at l2 by'⊢;have hsum:∀ (n:Bool) (z:Nat),bg n z e=cT (bL n (z*2^ (e+16384).toNat)) (-16384):=fun n z=>by
  rw[←Bk,kH,show-16384+(((e+16384).toNat:Nat):Int)=e by omega]
 have lx:(aA x).length<=157:=aX ω;have ly:(aA y).length<=157:=aX ω;have hq:Exq e:=⟨by omega,by omega⟩;have hcp:=Cf (bh x) (bh y) ω ω;rw[aT,aT]at hcp;have chk:∀ (n:Bool) (z:Nat),ag z<=5001->R faY [B n,lm (aA z),I e] []=some (af (bg n z e),[])/\R faZ [af (bg n z e)] []=some (rV (cI (bg n z e)),[]):=fun n z hz=>by
  have hl:(aA z).length<=157:=aX ω;have c1:=mO (neg:=n) (m:=aA z) (e:=e) (bh z) ω hq;rw[aT]at c1;refine⟨c1,?_⟩;rw[Cg (qW n z e) (aCP (qj (k:=157) ω) δ)];exact congrArg (fun v=>some (v,[])) (MM _)
 by_cases hs:a.neg=b.neg
 ·have p1:=abO (x:=x) (y:=y) bx by';obtain⟨c1,c2⟩:=chk a.neg (x+y) (C9 bx by');have hz:bL a.neg (x*2^ (e+16384).toNat)+bL b.neg (y*2^ (e+16384).toNat)=bL a.neg ((x+y)*2^ (e+16384).toNat):=by
   rw[←hs,aC8];cases a.neg
   all_goals grind[qF,rJ]
  rw[hz,←hsum];generalize bg a.neg (x+y) e=r at c1 c2⊢;generalize cI r=q at c2⊢;obtain⟨q1,q2⟩:=q;have hs2:(a.neg==b.neg)=true:=γ
  have hs3:(false != (a.neg==b.neg))=true:=γ
  simp only[rV,af,ai]at c1 c2;simp only[tJ,rV,af,ai,go_sem,h2,h3,h4,h6,w1,w2,l1,l2,hs3,p1,c1,c2]
 ·have hs2:(a.neg==b.neg)=false:=by
   grind
  have hs3:(false != (a.neg==b.neg))=false:=γ
  have hbn:b.neg=!a.neg:=by
   grind
  have hb1:∀u v:Nat,ag u<=5000->ag (u-v)<=5001:=fun u v hu=>Bb (Nat.sub_le u v) (aCP hu δ);by_cases hlt:x<y
  ·have e5:(cK x y<0)=True:=tt (by simp_all[cK,if_pos]);have m1:=MN (x:=y) (y:=x) by' bx ω;obtain⟨c1,c2⟩:=chk b.neg (y-x) (hb1 _ _ by');have hz:bL a.neg (x*2^ (e+16384).toNat)+bL b.neg (y*2^ (e+16384).toNat)=bL b.neg ((y-x)*2^ (e+16384).toNat):=by
    grind[Bool.not_true,qF,rJ]
   rw[hz,←hsum];generalize bg b.neg (y-x) e=r at c1 c2⊢;generalize cI r=q at c2⊢;obtain⟨q1,q2⟩:=q;simp only[rV,af,ai]at c1 c2;simp only[tJ,rV,af,ai,go_sem,h2,h3,h4,h6,w1,w2,l1,l2,hs3,hcp,e5,m1,c1,c2]
  ·have e5:(cK x y<0)=False:=ff (by unfold cK;omega);have m1:=MN (x:=x) (y:=y) bx by' ω;obtain⟨c1,c2⟩:=chk a.neg (x-y) (hb1 _ _ bx);have hz:bL a.neg (x*2^ (e+16384).toNat)+bL b.neg (y*2^ (e+16384).toNat)=bL a.neg ((x-y)*2^ (e+16384).toNat):=by
    grind[Bool.not_true,qF,rJ]
   rw[hz,←hsum];generalize bg a.neg (x-y) e=r at c1 c2⊢;generalize cI r=q at c2⊢;obtain⟨q1,q2⟩:=q;simp only[rV,af,ai]at c1 c2;simp only[tJ,rV,af,ai,go_sem,h2,h3,h4,h6,w1,w2,l1,l2,hs3,hcp,e5,m1,c1,c2]
theorem acb{a b:Rd}(oa:Ok0 a)(ob:Ok0 b)(va:vd a=true)(vb:vd b=true):R fa6 [af a,af b] []=some (rV (cI (cT (zI a+zI b) (-16384))),[]):=by
 refine au X3 rfl ?_;by_cases a0:a.m.length=0
 ·have e1:((a.m.length:Int)=0)=True:=tt;have hz:=vZ va a0;obtain⟨b1,b2,b3,b4⟩:=dj vb ob.lb;have c1:=mO (neg:=b.neg) (m:=b.m) (e:=b.e) ob.lb ω ⟨by omega,by omega⟩;have hr:bg b.neg (ab b.m) b.e=b:=LL ob vb;have hk:cI (cT (zI a+zI b) (-16384))=(b,0):=by
   simp_all[cQ,Int.zero_add,yH,JN]
  rw[hr]at c1;rw[hk];simp only[af,ai]at c1;simp only[nJ,B7,rV,af,ai,go_sem,e1,c1]
 have e1:((a.m.length:Int)=0)=False:=ff;obtain⟨a1,a2,a3,a4⟩:=dj va oa.lb;by_cases b0:b.m.length=0
 ·have e2:((b.m.length:Int)=0)=True:=tt;have c1:=mO (neg:=a.neg) (m:=a.m) (e:=a.e) oa.lb ω ⟨by omega,by omega⟩;have hr:bg a.neg (ab a.m) a.e=a:=LL oa va;have hk:cI (cT (zI a+zI b) (-16384))=(a,0):=by
   simp_all[cQ,Int.add_zero,yH,JN]
  rw[hr]at c1;rw[hk];simp only[af,ai]at c1;simp only[nJ,B7,rV,af,ai,go_sem,e1,e2,c1]
 have e2:((b.m.length:Int)=0)=False:=ff;obtain⟨b1,b2,b3,b4⟩:=dj vb ob.lb;have ta:=zV oa;have tb:=zV ob;have q1:=jq va a0;have q2:=jq vb b0;have p1:=gM (dQ va a0);have p2:=gM (dQ vb b0);simp only[af,ai]at ta tb;have g1:=fun h2 h3=>(YS oa ob va vb a0 b0 rfl h2 h3).1;have g2:=fun h2 h3=>(YS ob oa vb va b0 a0 rfl h2 h3).2;obtain⟨e,he⟩:∃e,(if b.e<a.e then b.e else a.e)=e:=⟨_,rfl⟩;have he2:(if a.e<b.e then a.e else b.e)=e:=by
  omega
 rw[he]at g1;rw[he2]at g2;have he1:-16384<=e/\e<=a.e/\e<=b.e:=by
  omega
 obtain⟨M,hM⟩:∃M,(if aN a<aN b then aN b else aN a)=M:=⟨_,rfl⟩;have w1:aG (M-e)=M-e:=i64_in _ ⟨by omega,by omega⟩;have w2:aG (aN a-aN b)=aN a-aN b:=i64_in _ ⟨by omega,by omega⟩;have w3:aG (aN b-aN a)=aN b-aN a:=i64_in _ ⟨by omega,by omega⟩;by_cases h1:4097<M-e
 ·have f1:(4097<M-e)=True:=tt h1;by_cases h2:1<aN a-aN b
  ·have f2:(1<aN a-aN b)=True:=tt h2;rw[g1 ω h2];simp only[nJ,ws,rV,aB,af,ai,go_sem,e1,e2,he,ta,tb,hM,w1,w2,f1,f2]
  ·have f2:(1<aN a-aN b)=False:=ff h2;by_cases h3:1<aN b-aN a
   ·have f3:(1<aN b-aN a)=True:=tt h3;rw[g2 ω h3];simp only[nJ,ws,rV,aB,af,ai,go_sem,e1,e2,he,ta,tb,hM,w1,w2,w3,f1,f2,f3]
   omega
 ·have f1:(4097<M-e)=False:=ff h1;simp only[nJ,ws,rV,af,ai,go_sem,e1,e2,he,ta,tb,hM,w1,f1];exact ahw oa ob va vb a0 b0 he1 ω ω _ rfl rfl rfl rfl
theorem anw{a b:Rd}(oa:Ok0 a)(ob:Ok0 b):R faM [af a,af b] []=some (rV (eK a b),[]):=by
 refine au XT rfl ?_;have v1:=eS oa;have v2:=eS ob;simp only[af,ai]at v1 v2;unfold eK;cases va:vd a with
 |false=>
  rw[va]at v1;simp only[vg,rV,aB,af,ai,go_sem,v1]
 |true=>
  rw[va]at v1;cases vb:vd b with
  |false=>
   rw[vb]at v2;simp only[vg,rV,aB,af,ai,go_sem,v1,v2]
  |true=>
   rw[vb]at v2;have hs:=acb oa ob va vb;simp only[rV,af,ai]at hs;simp only[vg,rV,af,ai,go_sem,v1,v2,hs]
theorem UI:∀a:List Int,nM a a=0
 |[]=>rfl
 |x::a=>by
  unfold nM;rw[if_pos (by unfold cM;simp),UI a]
theorem acd:∀ {a b:List Int},a.length=b.length->nM a b=0->a=b
 |[],[],_,_=>rfl
 |x::a,y::b,h,h2=>by
  unfold nM at h2;rcases qG x y with⟨g,e⟩| ⟨g,e⟩| ⟨g,e⟩<;>rw[e]at h2
  ·omega
  ·rw[g,acd (by simpa using h) h2]
  omega
 |[],_::_,h,_=>by grind
 |_::_,[],h,_=>by grind
theorem UJ:∀ {a b:List Int},a.length=b.length->nM b a=-nM a b
 |[],[],_=>rfl
 |x::a,y::b,h=>by
  unfold nM;rcases qG x y with⟨g,e⟩| ⟨g,e⟩| ⟨g,e⟩<;>rcases qG y x with⟨g',e'⟩| ⟨g',e'⟩| ⟨g',e'⟩<;>rw[e,e']<;>first|omega| (simp;done)|skip
  exact UJ (by simpa using h)
 |[],_::_,h=>by grind
 |_::_,[],h=>by grind
theorem ace:∀ {a b c:List Int},a.length=b.length->b.length=c.length->(nM a b<=0->nM b c<0->nM a c<0)/\(nM a b<0->nM b c<=0->nM a c<0)
 |[],[],[],_,_=>⟨fun _ h=>by omega,fun h _=>by omega⟩
 |x::a,y::b,z::c,h,h'=>by
  have ih:=ace (a:=a) (b:=b) (c:=c) γ γ;unfold nM;rcases qG x y with⟨g,e⟩| ⟨g,e⟩| ⟨g,e⟩<;>rcases qG y z with⟨g',e'⟩| ⟨g',e'⟩| ⟨g',e'⟩<;>rcases qG x z with⟨g2,e2⟩| ⟨g2,e2⟩| ⟨g2,e2⟩<;>rw[e,e',e2]<;>first|omega|skip
  all_goals first|exact ih|omega
 |[],[],_::_,_,h=>by grind
 |[],_::_,_,h,_=>by grind
 |_::_,[],_,h,_=>by grind
 |_::_,_::_,[],_,h=>by grind
theorem UK(a:List Int):cA a a=0:=by
 simp_all[cA,if_pos,cM,UI]
theorem anx{b:List Int}(h:a.length=b.length)(h2:cA a b=0):a=b:=by
 unfold cA at h2;rcases qG (bm a) (bm b)with⟨g,e⟩| ⟨g,e⟩| ⟨g,e⟩<;>rw[e]at h2
 ·omega
 ·grind[acd]
 omega
theorem Hd{b:List Int}(h:a.length=b.length):cA b a=-cA a b:=by
 unfold cA;rcases qG (bm a) (bm b)with⟨g,e⟩| ⟨g,e⟩| ⟨g,e⟩<;>rcases qG (bm b) (bm a)with⟨g',e'⟩| ⟨g',e'⟩| ⟨g',e'⟩<;>rw[e,e']<;>first|omega| (simp;done)|skip
 grind[UJ]
theorem Te{b c:List Int}(h:a.length=b.length)(h':b.length=c.length):(cA a b<=0->cA b c<0->cA a c<0)/\(cA a b<0->cA b c<=0->cA a c<0):=by
 have ih:=ace (a:=c) (b:=b) (c:=a) h'.symm h.symm;unfold cA;rcases qG (bm a) (bm b)with⟨g,e⟩| ⟨g,e⟩| ⟨g,e⟩<;>rcases qG (bm b) (bm c)with⟨g',e'⟩| ⟨g',e'⟩| ⟨g',e'⟩<;>rcases qG (bm a) (bm c)with⟨g2,e2⟩| ⟨g2,e2⟩| ⟨g2,e2⟩<;>rw[e,e',e2]<;>first|omega|skip
 all_goals first|exact⟨fun x y=>ih.2 y x,fun x y=>ih.1 y x⟩|omega
structure VT (v:Int) (t:Rt):Prop where
 c:Ok0 t.c
 len:(t.exps.length:Int)=v
 v8:v<=8
 vc:vd t.c=true
 nz:t.c.m.length≠0
 b:∀e∈t.exps,0<=e/\e<=32
 d:bm t.exps<=32
theorem VT.sm{v:Int}{t:Rt}(h:VT v t):sm t.exps:=⟨by have:=h.len;have:=h.v8;omega,h.b⟩
theorem VT.ok{v:Int}(h:VT v t):OkT t:=⟨h.c,by have:=h.len;have:=h.v8;omega⟩
theorem VT.l2{v:Int}{q:Rt}(h:VT v t)(h2:VT v q):t.exps.length=q.exps.length:=by have:=h.len;have:=h2.len;omega
structure Cl (v:Int) (l:List Rt):Prop where
 t:∀t∈l,VT v t
 s:l.Pairwise fun a b=>cA a.exps b.exps<0
theorem Cl.nil(v:Int):Cl v []:=⟨(fun _ h=>nomatch h),List.Pairwise.nil⟩
theorem Cl.cons{v:Int}{q:Rt}{l:List Rt}(h:Cl v (q::l)):VT v q/\(∀t∈l,cA q.exps t.exps<0)/\Cl v l:=
 ⟨h.t q σ,(List.pairwise_cons.1 h.s).1,fun t ht=>h.t t γ,(List.pairwise_cons.1 h.s).2⟩
theorem Cl.mk'{v:Int}{q:Rt}{l:List Rt}(h1:VT v q)(h2:∀t∈l,cA q.exps t.exps<0)(h3:Cl v l):Cl v (q::l):=
 ⟨fun t ht=>(List.mem_cons.1 ht).elim (fun e=>e▸h1) (h3.t t),List.pairwise_cons.2 ⟨h2,h3.s⟩⟩
theorem ahx{v:Int}(hv:v<=8):∀ (l:List Rt) (pr:Option Rt),(∀t∈l,OkT t)->Bj v pr l=true->Cl v l/\∀q,pr=some q->(q.exps.length:Int)=v->∀t∈l,cA q.exps t.exps<0
 |[],pr,_,_=>⟨Cl.nil v,fun _ _ _ t ht=>by grind⟩
 |t::l,pr,ok,h=>by
  unfold Bj at h;simp only[aCK]at h;obtain⟨h1,h2,h3⟩:=h;obtain⟨g1,g2⟩:=ahx hv l (some t) (fun x hx=>ok x γ) h3;obtain⟨k1,k2,k3,k4,k5⟩:=Cj h1;have vt:VT v t:=⟨(ok t σ).c,k1,hv,k2,k3,yF k4,k5⟩;have gt:=g2 t rfl k1;refine⟨Cl.mk' vt gt g1,fun q hq hl x hx=>?_⟩;subst hq;have h4:=of_decide_eq_true h2;rcases List.mem_cons.1 hx with rfl|hx
  ·omega
  ·exact(Te ω (vt.l2 (g1.t x hx))).1 ω (gt x hx)
theorem gU{a:Rp}(oa:OkP a)(h:vp a=true):Cl a.vars a.terms/\0<=a.vars/\a.vars<=8/\a.terms.length<=500:=by
 unfold vp at h;simp only[aCK,decide_eq_true_eq]at h;exact⟨(ahx h.2.1 _ none oa.t h.2.2.2).1,h.1,h.2.1,h.2.2.1⟩
theorem ahy{v:Int}:∀ (l:List Rt) (pr:Option Rt),Cl v l->(∀q,pr=some q->∀t∈l,cA q.exps t.exps<0)->Bj v pr l=true
 |[],pr,_,_=>by grind[Bj]
 |t::l,pr,c,h=>by
  obtain⟨c1,c2,c3⟩:=c.cons;unfold Bj;simp only[aCK];refine⟨?_,?_,ahy l (some t) c3 fun q hq=>by grind⟩
  ·unfold Iu;simp only[aCK,decide_eq_true_eq];refine⟨c1.len,c1.vc,c1.nz,?_,c1.d⟩;rw[aDJ,List.any_eq_false];intro e he;have:=c1.b e he;grind[AK]
  ·unfold YE;grind
theorem Cn{v:Int}{l:List Rt}(h:Cl v l)(h0:0<=v)(h8:v<=8)(hl:l.length<=500):vp ⟨v,l⟩=true:=by
 simp_all[vp,aCK,decide_eq_true_eq,ahy]
theorem kJ{v:Int}{l:List Rt}(h:Cl v l):OkP ⟨v,l⟩:=⟨fun t ht=>(h.t t ht).ok⟩
def cY:List Rt->List Int->Nat
 |[],_=>0
 |q::l,x=>if cA q.exps x<0 then cY l x+1 else 0
def lD:List Rt->Rt->Option (List Rt)
 |[],t=>some [t]
 |q::l,t=>if cA q.exps t.exps<0 then(lD l t).map (q::·)else if cA q.exps t.exps=0 then(if(eK q.c t.c).2=0 then some (if(eK q.c t.c).1.m.length=0 then l else⟨q.exps,(eK q.c t.c).1⟩::l)else none)else some (t::q::l)
theorem Tf:∀ (l:List Rt) (x:List Int),cY l x<=l.length
 |[],x=>aCJ _
 |q::l,x=>by
  unfold cY;split
  all_goals simp_all[Nat.succ_le_succ,Tf,aC7]
theorem acf:∀ {l:List Rt} {x:List Int} {i:Nat} {q:Rt},i<cY l x->l[i]?=some q->cA q.exps x<0
 |[],x,i,q,h,_=>by grind
 |p::l,x,i,q,h,hq=>by
  unfold cY at h;split at h
  ·cases i with
   |zero=>grind
   |succ i=>exact acf (l:=l) (i:=i) ω γ
  omega
theorem Tg:∀ {l:List Rt} {x:List Int} {q:Rt},l[cY l x]?=some q->0<=cA q.exps x
 |[],x,q,h=>by grind
 |p::l,x,q,h=>by
  unfold cY at h;split at h
  ·exact Tg (l:=l) γ
  grind
theorem anz{v:Int}{l:List Rt}(c:Cl v l)(hx:(x.length:Int)=v){q:Rt}(hi:cY l x<i)(h:l[i]?=some q):0<cA q.exps x:=by
 have hlt:=(List.getElem?_eq_some_iff.1 h).1;have h1:l[cY l x]?=some l[cY l x]:=List.getElem?_eq_getElem ω;have h2:=Tg h1;have h3:=(List.getElem?_eq_some_iff.1 h).2;have h4:cA (l[cY l x]).exps q.exps<0:=by
  rw[←h3];exact List.pairwise_iff_getElem.1 c.s _ _ ω hlt hi
 have v1:=c.t _ (aC0 (by omega:cY l x<l.length));have v2:=c.t q (List.mem_of_getElem? h);generalize l[cY l x]=p at*
 have l1:x.length=p.exps.length:=by have:=v1.len;omega
 have h5:=(Te l1 (v1.l2 v2)).1 (by grind[Hd]) h4;rw[Hd (by have:=v2.len;omega:x.length=q.exps.length)];omega
theorem acg:∀ (l:List Rt) (t:Rt),lD l t=match l[cY l t.exps]? with
  |none=>some (l.take (cY l t.exps)++t::l.drop (cY l t.exps))
  |some q=>if cA q.exps t.exps=0 then(if(eK q.c t.c).2=0 then some (if(eK q.c t.c).1.m.length=0 then l.take (cY l t.exps)++l.drop (cY l t.exps+1)else l.set (cY l t.exps) ⟨q.exps,(eK q.c t.c).1⟩)else none)else some (l.take (cY l t.exps)++t::l.drop (cY l t.exps))
 |[],t=>rfl
 |q::l,t=>by
  unfold lD cY;by_cases h:cA q.exps t.exps<0
  ·simp only[if_pos h,List.getElem?_cons_succ];rw[acg l t];cases l[cY l t.exps]? with
   |none=>rfl
   |some p=>
    simp only[];split
    ·split
     ·split<;>rfl
     ·rfl
    ·rfl
  grind
theorem MU{v:Int}:∀ {l l':List Rt} {t:Rt},Cl v l->VT v t->lD l t=some l'->Cl v l'/\∀q:List Int,(q.length:Int)=v->(∀x∈l,cA q x.exps<0)->cA q t.exps<0->∀x∈l',cA q x.exps<0
 |[],l',t,c,vt,h=>by
  cases h;grind[Cl.mk']
 |p::l,l',t,c,vt,h=>by
  obtain⟨c1,c2,c3⟩:=c.cons;unfold lD at h;split at h
  ·rename_i h1;rw[aCL]at h;obtain⟨l2,h2,rfl⟩:=h;obtain⟨g1,g2⟩:=MU c3 vt h2;refine⟨Cl.mk' c1 (g2 p.exps c1.len c2 h1) g1,fun q hq k1 k2 x hx=>?_⟩;grind
  ·split at h
   ·split at h
    ·cases h;split
     ·grind
     ·rename_i h4;obtain⟨a1,a2⟩:=Iy p.c t.c;refine⟨Cl.mk' ⟨a2,c1.len,c1.v8,a1,h4,c1.b,c1.d⟩ c2 c3,fun q hq k1 k2 x hx=>?_⟩;grind
    grind
   ·cases h;have h3:cA t.exps p.exps<0:=by
     rw[Hd (c1.l2 vt)];omega
    refine⟨Cl.mk' vt (fun x hx=>?_) c,fun q hq k1 k2 x hx=>?_⟩
    ·rcases List.mem_cons.1 hx with rfl|hx
     ·omega
     ·exact(Te (vt.l2 c1) (c1.l2 (c3.t x hx))).1 ω (c2 x hx)
    grind
theorem Pu:∀ {l l':List Rt} {t:Rt},lD l t=some l'->l'.length<=l.length+1
 |[],l',t,h=>by cases h;simp
 |p::l,l',t,h=>by
  unfold lD at h;split at h
  ·rw[aCL]at h;obtain⟨l2,h2,rfl⟩:=h;simpa using Pu h2
  grind
theorem YT:∀ {l:List Rt} {t:Rt},(∀q∈l,cA q.exps t.exps<0)->lD l t=some (l++[t])
 |[],t,_=>rfl
 |p::l,t,h=>by
  unfold lD;rw[if_pos (h p σ),YT fun q hq=>h q (by simp[hq])];rfl
def kK:List Rt->List Rt->Option (List Rt)
 |l,[]=>some l
 |l,t::ts=>(lD l t).bind fun l'=>kK l' ts
theorem YV:∀ (ts us:List Rt) (l:List Rt),kK l (ts++us)=(kK l ts).bind fun l'=>kK l' us
 |[],us,l=>rfl
 |t::ts,us,l=>by
  show(lD l t).bind _=((lD l t).bind _).bind _;cases lD l t with
  |none=>rfl
  |some l'=>exact YV ts us l'
theorem Bl{v:Int}:∀ {ts l l':List Rt},Cl v l->(∀t∈ts,VT v t)->kK l ts=some l'->Cl v l'/\l'.length<=l.length+ts.length
 |[],l,l',c,_,h=>by cases h;grind
 |t::ts,l,l',c,vt,h=>by
  unfold kK at h;rw[aCH]at h;obtain⟨l2,h2,h3⟩:=h;obtain⟨g1,g2⟩:=Bl (MU c (vt t σ) h2).1 (fun x hx=>vt x γ) h3;have:=Pu h2;grind
section
variable {call:jt} {md:Mode} {s:ap} {h:ae}
theorem aAi(d k x y rest):aM call md (⟨some d,none,.cpy k x y⟩::rest) s h=bv (dY md.nm s (some d) (RX h k (ev s x) (ev s y))) (aM call md rest):=θ _
theorem axP(d k x lo hi rest):aM call md (⟨some d,none,.slcM k x lo hi⟩::rest) s h=bv (dY md.nm s (some d) (Mt h k (ev s x) (evo s lo) (evo s hi))) (aM call md rest):=θ _
theorem aAj(d k z x rest):aM call md (⟨d,none,.clr k z x⟩::rest) s h=bv (dY md.nm s d (RY h k z (ev s x))) (aM call md rest):=θ _
theorem axQ(d k b z x n rest):aM call md (⟨some d,none,.appz k b z x n⟩::rest) s h=bv (dY md.nm s (some d) (GF h d k b z (ev s x) (ev s n))) (aM call md rest):=θ _
theorem axR(d x rest):aM call md (⟨some d,none,.take x⟩::rest) s h=bv (dY md.nm s (some d) (PT h d (ev s x))) (aM call md rest):=θ _
theorem avI(d f zas rest):aM call md (⟨some d,none,.callC f zas⟩::rest) s h=bv (dY md.nm s (some d) ((bF call md h d (zas.map (ev s)) (ev s f)).bind (BC d))) (aM call md rest):=θ _
theorem atA(d k z n ps rest):aM call md (⟨some d,none,.buildC k z n ps⟩::rest) s h=bv (dY md.nm s (some d) (((fM k h (aCG n z) (ps.map fun p=>(p.1,ev s p.2))).bind fun q=>dA q.2.1 d k q.1 n q.2.2).bind GH)) (aM call md rest):=θ _
theorem ast(d k z n ps):step call md d (.buildC k z n ps) s h=((fM k h (aCG n z) (ps.map fun p=>(p.1,ev s p.2))).bind fun q=>dA q.2.1 d k q.1 n q.2.2).bind GH:=θ _
theorem asu(ps acc d k z n qs rest):dB call md ps acc (⟨some d,none,.buildC k z n qs⟩::rest) s h=kg call md ps acc rest s (some d) (fun _=>if(qs.all fun p=>dat (ev s p.2))=true then some ([],[dx d])else none) (((fM k h (aCG n z) (qs.map fun p=>(p.1,ev s p.2))).bind fun q=>dA q.2.1 d k q.1 n q.2.2).bind GH):=fG _ _ _ _ rfl
theorem avJ(d k z n qs h'):iu d (.buildC k z n qs) s h h'=if(qs.all fun p=>dat (ev s p.2))=true then some ([],[dx d])else none:=θ _
theorem avK(id k lo n h ks):GH (.rsl id none k lo n,h,ks)=(pI h id k lo n (h id)).map (fun q=>(q.1,q.2.1,ks++q.2.2)):=θ _
theorem axS(ps acc d k x y rest):dB call md ps acc (⟨some d,none,.cpy k x y⟩::rest) s h=kg call md ps acc rest s (some d) (fun _=>none) (RX h k (ev s x) (ev s y)):=fG _ _ _ _ rfl
theorem axT(ps acc d k b x y rest):dB call md ps acc (⟨some d,none,.app k b x y⟩::rest) s h=kg call md ps acc rest s (some d) (fun _=>none) (On h d k b (ev s x) (ev s y)):=fG _ _ _ _ rfl
theorem atB(ps acc d f zas rest):dB call md ps acc (⟨some d,none,.callC f zas⟩::rest) s h=kg call md ps acc rest s (some d) (fun _=>KJ d h (qY (zas.map (ev s)) (ev s f))) ((bF call md h d (zas.map (ev s)) (ev s f)).bind (BC d)):=fG _ _ _ _ rfl
theorem avL(d h l):KJ d h l=if l.all dat=true then some ([],[2000+8*d])else none:=θ _
theorem aAk(d k r h ks):BC d (.sl k r,h,ks)=some (.sl k r,h,ks):=θ _
theorem axU(d h ks):BC d (.emp,h,ks)=some (.emp,h,ks):=θ _
theorem axV(d id k lo n h ks):BC d (.rsl id none k lo n,h,ks)=if id=2000+8*d then(pI h id k lo n (h id)).map (fun q=>(q.1,q.2.1,ks++q.2.2))else none:=θ _
theorem aAl(h k id k' lo n y):RX h k (.rsl id none k' lo n) y=(WA y).bind fun l=>(xS h k (Wz n y)).bind fun ys=>WB h id k k' lo n l ys (h id):=θ _
theorem aAm(k r):WA (.sl k r)=some r.length:=θ _
theorem axW(id sub k lo n):WA (.rsl id sub k lo n)=some n:=θ _
theorem aAn(m k r):Wz m (.sl k r)=.sl k (r.take m):=θ _
theorem axX(m id sub k lo n):Wz m (.rsl id sub k lo n)=.rsl id sub k lo (min m n):=θ _
theorem aAo(h id k lo n l ys r):WB h id k k lo n l ys (.ar k r)=if lo<=r.length/\ys.length=min l n then some (.v (.int .i64 ys.length),upd h id (.ar k (r.take lo++ys++r.drop (lo+ys.length))),[])else none:=by simp[WB]
theorem axY(h k id l0 n lo hi):Mt h k (.rsl id none k l0 n) lo hi=PR h k id l0 lo hi (h id):=by simp[Mt]
theorem axZ(h k id l0 lo hi r):PR h k id l0 lo hi (.ar k r)=if hi.isSome=true/\l0<=r.length then(lP (r.length-l0) lo hi none).map fun p=>(.rsl id none k (l0+p.1) (p.2-p.1),h,[])else none:=by simp[PR]
theorem aAp(h k z id lo n):RY h k z (.rsl id none k lo n)=WC h k id lo n z (h id):=by simp[RY]
theorem aAq(h k id lo n z r):WC h k id lo n z (.ar k r)=if lo+n<=r.length then some (.tup [],upd h id (.ar k (r.take lo++aCG n z++r.drop (lo+n))),[])else none:=by simp[WC]
theorem ax0(h d k b z id i c m):GF h d k b z (.rsc id k 0 i c) (.v (.int .i64 m))=if 0<m/\c<i+m.toNat then PS h d k b id i m.toNat z (h id)else none:=by simp[GF]
theorem ax1(h d k b id i m z r):PS h d k b id i m z (.ar k r)=if i<=r.length/\(i+m)*b<=140737488355328 then dA h d k (r.take i++aCG m z) (i+m) []else none:=by simp[PS]
theorem aAr(id k lo n c):sF false (.rsc id k lo n c)=some (I n):=θ _
theorem aAs(id k lo n c):RP (.rsc id k lo n c)=some (I c):=θ _
theorem aAt(k id l0 n c lo hi mx):fA k (.rsc id k l0 n c) lo hi mx=Wu k id l0 n c lo hi mx:=by simp[fA]
theorem aAu(k id l0 n c x):Wu k id l0 n c none (some x) none=(lG n c (some x)).map fun r=>.rsc id k l0 r c:=θ _
theorem aAv(k id l0 n c x hi):Wu k id l0 n c (some x) hi none=(lP n (some x) hi none).map fun p=>.rsl id none k (l0+p.1) (p.2-p.1):=θ _
theorem aAw(ks id k lo n c):wt ks (.rsc id k lo n c)=if kq ks id none=true then .any else .rsc id k lo n c:=θ _
theorem ax2(h d id k i j):PT h d (.ref id none k i j)=Wa h d id (i*k+j) (h id):=θ _
theorem ax3(h d id p cs):Wa h d id p (.bx cs)=Mu h d id p cs cs[p]?:=θ _
theorem avM(h d id p cs k r):Mu h d id p cs (some (.osl k r))=dA (upd h id (.bx (cs.set p .any))) d k r r.length [(id,true)]:=θ _
theorem avN(h d id p cs):Mu h d id p cs (some .emp)=some (.emp,h,[]):=θ _
theorem ax4(nm)(s h):CL nm [] s h=some ⟨s,h⟩:=θ _
theorem avO(nm)(i l s h):CL nm (i::l) s h=if 200000<=i then(R2 (i-200000) s h (s (i-200000))).bind (fun r=>if ud nm r.2.2 then CL nm l r.1 r.2.1 else none)else if 100000<=i then CL nm l s (IV h (s (i-100000)))else(R1 i s h (s i)).bind fun r=>if ud nm r.2.2 then CL nm l r.1 r.2.1 else none:=θ _
theorem atC(ks):ud false ks=true:=θ _
theorem aAx(i s h id k lo n):R2 i s h (.rsl id none k lo n)=KL i s h id k lo n (h id):=θ _
theorem aAy(i s h id k lo n c):R2 i s h (.rsc id k lo n c)=KL i s h id k lo n (h id):=θ _
theorem aAz(i s h id k lo n r):KL i s h id k lo n (.ar k r)=if lo=0/\bt i=false/\bU (h i)=true then some (upd (lQ [(id,false)] s) i (.rsl i none k 0 n),upd (upd h id .dead) i (.ar k r),[(id,false)])else none:=by simp[KL]
theorem ax5(h id k lo n):IV h (.rsl id none k lo n)=(match h id with| .ar k rows=>upd h id (.ar k (rows.take (lo+n)))|_=>h):=θ _
theorem aAA(nm)(s h):wu nm 0 s h=some ⟨s,h⟩:=θ _
theorem aAB(nm)(i s h):wu nm (i+1) s h=(TW i s h (s i)).bind fun r=>if ud nm r.2.2 then some ⟨r.1,r.2.1⟩else none:=θ _
theorem aAC(i s h):TW i s h .emp=some (s,h,[]):=θ _
theorem aAD(i s h id p k lo n):TW i s h (.rsl id (some p) k lo n)=if bt i=false then ghO i s h id p k lo n (h id)else none:=θ _
theorem aBZ(i s h id p k lo n cs):ghO i s h id p k lo n (.bx cs)=PY i s h id p k lo n cs cs[p]?:=θ _
theorem aAE(i s h id p k lo n cs r):PY i s h id p k lo n cs (some (.osl k r))=if lo=0/\n=r.length/\bU (h i)=true then some (upd (lQ [(id,true)] s) i (.rsl i none k 0 n),upd (upd h id (.bx (cs.set p .any))) i (.ar k r),[(id,true)])else none:=by simp[PY]
theorem aAF(m g ps l):ajV call md m g ps l s h=bv (dB call md ps [] (l.take m) s h) fun s h=>bv (wu md.nm g s h) (aM call md (l.drop m)):=θ _
attribute [go_sem] aAi axP aAj axQ axR avI atA ast asu avJ avK axS axT atB avL aAk axU axV aAl aAm axW aAn axX aAo axY axZ aAp aAq ax0 ax1 aAr aAs aAt aAu aAv aAw ax2 ax3 avM avN ax4 avO atC aAx aAy aAz ax5 aAA aAB aAC aAD aBZ aAE aAF
end
theorem ach(ht:sm t.exps)(hx:sm x)(hl:t.exps.length=x.length):R fc1 [.agg (ce t),.sl 1 (aV x)] []=some (I (cA t.exps x),[]):=by
 refine au HM rfl ?_;have ho:=YD ht hx hl;simp only[qL,ce,go_sem,ho]
theorem anA{v:Int}{l:List Rt}(c:Cl v l)(hx:sm x)(hl:(x.length:Int)=v)(h2:l.length<=1000000):∀ (k i j:Nat),j-i<=k->i<=cY l x->cY l x<=j->j<=l.length->∀ (s:ap) (h:ae),s 0=.sl 4 (aL l)->s 1=.sl 1 (aV x)->s 2=.fn fc1 [] []->s 8=I l.length->s 9=I i->s 10=I j->
  ak 0 [0,1,2,8,9] (av (am R (az false) bY) [0,1,2,8,9,10] [] s h)=some (.normal,⟨upd (upd (upd (upd (upd bk 9 (I (cY l x))) 8 (I l.length)) 2 (.fn fc1 [] [])) 1 (.sl 1 (aV x))) 0 (.sl 4 (aL l)),fun _=>.dead⟩):=by
 intro k;induction k with
 |zero=>
  intro i j hk hi hj hn s h h0 h1 h2' h8 h9 h10;have e1:((i:Int)< (j:Int))=False:=ff;obtain rfl:i=cY l x:=ω
  rw[ah];simp only[bY,go_sem,h0,h1,h2',h8,h9,h10,e1]
 |succ k ih=>
  intro i j hk hi hj hn s h h0 h1 h2' h8 h9 h10;by_cases hij:i<j
  ·have e1:((i:Int)< (j:Int))=True:=tt;have e2:aG ((i:Int)+(j:Int))=((i+j:Nat):Int):=wi;have hlt:(i+j)/2<l.length:=ω
   have g1:IntKind.u64.wrap (((i+j:Nat)):Int)=((i+j:Nat):Int):=dG rfl ω;have g2:((1:Int)<0)=False:=ff δ;have g3:Int.fdiv ((i+j:Nat):Int) (2^ (min (Int.toNat 1) 64))=(((i+j)/2:Nat):Int):=by
    grind
   have g4:aG (((i+j)/2:Nat):Int)=(((i+j)/2:Nat):Int):=wi;have e3:aZ (aL l) (((i+j)/2:Nat):Int)=some (.ipt (ce l[(i+j)/2])):=iY rfl (List.getElem?_eq_getElem hlt);have q:=c.t _ (aC0 hlt);have hc:=ach q.sm hx (by have:=q.len;omega);have p1:cA (l[(i+j)/2]).exps x<0->(i+j)/2<cY l x:=fun ho=>by
    rcases Nat.lt_trichotomy ((i+j)/2) (cY l x)with h|h|h
    ·omega
    ·have:=Tg (l:=l) (x:=x) (q:=l[(i+j)/2]) γ;omega
    ·have:=anz c hl h (List.getElem?_eq_getElem hlt);omega
   have p2:¬cA (l[(i+j)/2]).exps x<0->cY l x<=(i+j)/2:=fun ho=>by
    grind[absurd,acf]
   have i1:=ih ((i+j)/2+1) j ω;have i2:=ih i ((i+j)/2) ω hi;generalize l[(i+j)/2]=t at e3 q hc p1 p2;rw[ah];generalize av _ _ _=L at i1 i2⊢;simp only[ce]at hc e3;by_cases ho:cA t.exps x<0
   ·have e4:(cA t.exps x<0)=True:=tt ho;have e5:aG ((((i+j)/2:Nat):Int)+1)=(((i+j)/2+1:Nat):Int):=wi;have:=p1 ho;simp only[bY,go_sem,h0,h1,h2',h8,h9,h10,e1,e2,g1,g2,g3,g4,e3,hc,e4,e5];exact i1 ω hj hn _ _ rfl rfl rfl rfl rfl rfl
   ·have e4:(cA t.exps x<0)=False:=ff ho;have:=p2 ho;simp only[bY,go_sem,h0,h1,h2',h8,h9,h10,e1,e2,g1,g2,g3,g4,e3,hc,e4];exact i2 this ω _ _ rfl rfl rfl rfl rfl rfl
  grind
def LM(l:List Rt)(x:List Int):Bool:=match l[cY l x]? with
 |some q=>decide (cA q.exps x=0)
 |none=>false
theorem afa{v:Int}{l:List Rt}(c:Cl v l)(hx:sm x)(hl:(x.length:Int)=v)(h2:l.length<=1000000):R fd6 [.sl 4 (aL l),.sl 1 (aV x),.fn fc1 [] []] []=some (.tup [I (cY l x),B (LM l x)],[]):=by
 refine aeI pF pC (gy false) rfl ?_;have h3:=anA c hx hl h2 l.length 0 l.length ω (aC7 _) (Tf l x) (aCJ _);simp only[dT,ie,go_sem];rw[h3 _ _ rfl rfl rfl rfl rfl rfl];unfold LM;cases hq:l[cY l x]? with
 |none=>
  have:l.length<=cY l x:=List.getElem?_eq_none_iff.1 hq;have e1:((cY l x:Int)< (l.length:Int))=False:=ff;simp only[go_sem,e1]
 |some q=>
  have hlt:=(List.getElem?_eq_some_iff.1 hq).1;have e1:((cY l x:Int)< (l.length:Int))=True:=tt;have vq:=c.t q (List.mem_of_getElem? hq);have hc:=ach vq.sm hx (by have:=vq.len;omega);have e3:aZ (aL l) (cY l x:Int)=some (.ipt (ce q)):=iY rfl hq;simp only[ce]at hc e3;by_cases ho:cA q.exps x=0
  ·have e4:(cA q.exps x=0)=True:=tt ho;simp only[go_sem,e1,e3,hc,e4,decide_true]
  ·have e4:(cA q.exps x=0)=False:=ff ho;simp only[go_sem,e1,e3,hc,e4,decide_false]
theorem UM(hn:d.m.length≠0)(h1:d.m.length<=100000):R fc3 [af d] []=some (af d,[]):=by
 refine au VP rfl ?_;have hc:=JD (m:=d.m) (fun h=>hn γ) h1;simp only[CW,af,ai,go_sem,hc]
theorem aci{h:ae}{d p:Nat}{cs:List AV}{x:AV}(hh:h id=.bx cs)(hp:cs[p]?=some (.osl 4 rows))(hn:n=rows.length)(hx:∃r,x=.sl 1 r):
  bF R (az false) h d [.rsl id (some p) 4 0 n,x,.fn fc1 [] []] (.fn fd6 [] [])=(R fd6 (bA [[.o 5 [.o 2 [],.o 0 [],.o 2 [],.o 0 []]],[.o 2 []],[]] [.sl 4 rows,x,.fn fc1 [] []]) []).bind (WD h):=by
 obtain⟨r,rfl⟩:=hx;unfold bF
 simp_all[if_pos,lw,ij,PU,PV,RZ,adm,BA,lR,An,jU,aCT,aCY,gS]
theorem YW(o:Ob):ax [o]=upd (fun _=>.dead) 1000 o:=by
 unfold ax upd;grind
theorem oO{fd:FD}{o:Ob}{r:AV×List Ob}(hE:cW.E f=none)(hC:cW.C f=some fd)(hk:cW.md.keep f=false)(h1:args.length=fd.np)
  (hz:kj false fd.rs fd.res 1 (am R (az false) fd.body (wk args) (upd (fun _=>.dead) 1000 o))=some r):R f args [o]=some r:=by
 grind[Qy,YW]
theorem Wl{g:List AV->List Ob->Option (AV×List Ob)}{hs:List Ob}(hE:cW.E f=some g):R f args hs=g args hs:=Jc hE
theorem UN:R fd8 [.sl 1 []] []=some (.sl 1 [],[]):=by
 rw[Wl (g:=clF) κ];rfl
theorem UO{x:Int}{l:List Int}(h:l.length<=1000000):R fd8 [.sl 1 (aV (x::l))] []=some (.osl 1 (aV (x::l)),[]):=by
 rw[Wl (g:=clF) κ];show(if(((aV l).length+1)*8<=140737488355328)then _ else _)=_;rw[if_pos (by grind[Fg])];rfl
def n9(c:AV)(l:List Rt):Prop:=c=.osl 4 (aL l)\/(c=.emp/\l=[])
def t3(v:Int)(c:AV)(e:Int):Ob:=.bx [I v,c,I e]
theorem Iz{h:ae}{v:Int}{c:AV}{l:List Rt}(hc:n9 c l)(hh:h 1000=t3 v c e):yU [] 1 h []=some (.tup [],[t3 v c e]):=by
 have hp:dD 1=[1000]:=rfl;have h2:aF [1000] (t3 v c e)=true:=by
  rcases hc with rfl| ⟨rfl,_⟩<;>rfl
 grind[yU,mF,xT,Ac,bA]
theorem YX{v:Int}{c x:AV}{l:List Rt}(hc:n9 c l)(he:e≠0):R fc0 [ac 1000,x,af d] [t3 v c e]=some (.tup [],[t3 v c e]):=by
 refine oO aW.2.1 aW.2.2 (aW.1.2.2.2 false) rfl ?_;have e1:(e=0)=False:=ff he;simp only[ic,t3,af,ai,go_sem,e1];exact Iz hc rfl
theorem MV(h:ae)(i:Int)(b:Bool):WD h (.tup [I i,B b],[])=some (.tup [I i,B b],h,[]):=rfl
theorem yK{h:ae}{p id2 k:Nat}{cs:List AV}(h1:h id2=.ar k rows)(hn:n=rows.length)(h2:h id=.bx cs)(hne:id≠id2)(hp:p<cs.length):
  uO h id p 1 [.rsl id2 none k 0 n]=some (upd (upd h id2 .dead) id (.bx (cs.set p (.osl k rows))),(id2,false)::(if cs[p]?.any bE then [(id,true)]else [])):=by
 simp_all[upd,if_neg,uO,J9,TV,Oj,EN]
theorem aqt{l:List Rt}(hn:n=l.length)(hi:i<=n)(h2:n<=1000000):R feq [.rsl 1000 none 4 0 n,I i,.sl 4 [ce t]] [.ar 4 (aL l)]=some (.osl 4 (aL (l.take i++t::l.drop i)),[.dead]):=by
 rw[Wl (g:=XF 4 64) κ];show(if(4:Nat)=4/\(4:Nat)=4/\(4:Nat)=4/\n=(aL l).length/\(0:Int)<=(i:Int)/\(i:Int)<=(n:Int)/\(n+1)*64<=140737488355328 then some (AV.osl 4 ((aL l).take (i:Int).toNat++ce t::(aL l).drop (i:Int).toNat),[Ob.dead])else none)=_;rw[if_pos ⟨rfl,rfl,rfl,by rw[tF,hn],by omega,by omega,by omega⟩,aCQ];simp[aL,List.map_take,List.map_drop]
theorem anB:R feq [.emp,I 0,.sl 4 [ce t]] []=some (.osl 4 (aL [t]),[]):=by
 rw[Wl (g:=XF 4 64) κ];rfl
theorem ahz(t:Rt):nrmV [.o 5 [.o 2 [],.o 0 [],.o 2 [],.o 0 []]] (.sl 4 [ce t])=.sl 4 [ce t]:=by
 have:=It [t];simp only[aL,aDc,aDh]at this;simp only[nrmV,List.headD_cons,nrmL,aDc,aDh,this]
theorem akF{l:List Rt}{h:ae}{d a b:Nat}(ha:h a=.ar 4 (aL l))(hb:h b=.ar 4 [ce t])(hab:a≠b)(_hda:2000+8*d≠a)(hdb:2000+8*d≠b)(hd:h (2000+8*d)=.dead)(hn:n=l.length)(hi:i<=n)(h2:n<=1000000):
  bF R (az false) h d [.rsl a none 4 0 n,.v (.int .i64 i),.rsl b none 4 0 1] (.fn feq [] [])=
   some (.rsl (2000+8*d) none 4 0 (l.length+1),upd (upd (upd h b (.fz 4 [ce t])) a .dead) (2000+8*d) (.ar 4 (aL (l.take i++t::l.drop i))),[(a,true),(a,false)]):=by
 have hm:=nZ false;have hs:=nj false;have hk:=mj false;have hf:=aqt (t:=t) hn hi h2;have hb':lw (az false) [.rsl a none 4 0 n,.v (.int .i64 i),.rsl b none 4 0 1] (.fn feq [] [])=false:=by
  grind[lw]
 have h1:cu h [2,0,0] [.rsl a none 4 0 n,.v (.int .i64 i),.rsl b none 4 0 1]=some ([.rsl a none 4 0 n,.v (.int .i64 i),.sl 4 [ce t]],upd h b (.fz 4 [ce t]),[]):=by
  simp_all[cu,ef,yM,gW,aJ,ajv,pI,rO]
 have g1:upd h b (.fz 4 [ce t]) a=.ar 4 (aL l):=by
  simp_all[upd,if_neg]
 have g2:upd h b (.fz 4 [ce t]) (2000+8*d)=.dead:=by
  simp_all[upd,if_neg]
 have hr:cp (upd h b (.fz 4 [ce t])) 40 [a] 0=[a]:=by
  grind[cp,nE,bN]
 have hp:bN [] ([AV.rsl a none 4 0 n,.v (.int .i64 i),.sl 4 [ce t]].flatMap cH)=[a]:=by
  simp[cH,gL,bN]
 have h3:bu [a] a=1000:=by simp[bu]
 have hnr:cJ (.osl 4 (aL (l.take i++t::l.drop i)))=1:=rfl;have hlen:(aL (l.take i++t::l.drop i)).length=l.length+1:=by
  grind[tF,aDA,aCW,aDp,aDL]
 have hnm:bA [[],[],[.o 5 [.o 2 [],.o 0 [],.o 2 [],.o 0 []]]] [.rsl a none 4 0 n,.v (.int .i64 i),.sl 4 [ce t]]=[.rsl a none 4 0 n,.v (.int .i64 i),.sl 4 [ce t]]:=by
  simp only[bA,ahz];rfl
 unfold bF;simp only[eM,hm,aCT,aCY,h1,aCN,hp,hr,hs,hnm];simp[kt,bo,bw,g1,aF,bU,eG,lu,h3,eH,hf,fE,hnr,cr,g2,dh,bf,oB,CK,ub,gL,kr,gx,GG,eY,mat,eJ,gP,hk,Hu,hm,hlen]
 simp_all[eu,if_neg,H0]
theorem akG{h:ae}{d:Nat}{r:List (List AV)}{i:Int}{b:Bool}(hR:R fd6 [.sl 4 [],nrmV [.o 2 []] (.sl 1 r),.fn fc1 [] []] []=some (.tup [I i,B b],[]))(h0:h (2000+8*d)=.dead)(h1:h (2000+8*d+1)=.dead):
  bF R (az false) h d [.emp,.sl 1 r,.fn fc1 [] []] (.fn fd6 [] [])=some (.tup [I i,B b],h,[]):=by
 have hm:=ij false;have hs:=gS false;have hk:=gy false;have hb':lw (az false) [.emp,.sl 1 r,.fn fc1 [] []] (.fn fd6 [] [])=false:=by
  grind[lw,PU]
 have h3:cu h [3,0,0] [.emp,.sl 1 r,.fn fc1 [] []]=some ([.emp,.sl 1 r,.fn fc1 [] []],h,[]):=by
  simp[cu,ef,yM,gW,aJ]
 have hp:bN [] ([AV.emp,.sl 1 r,.fn fc1 [] []].flatMap cH)=[]:=by
  simp[cH,gL,bN]
 have hnm:bA [[.o 5 [.o 2 [],.o 0 [],.o 2 [],.o 0 []]],[.o 2 []],[]] [.emp,.sl 1 r,.fn fc1 [] []]=[.sl 4 [],nrmV [.o 2 []] (.sl 1 r),.fn fc1 [] []]:=by
  rfl
 obtain⟨q,hq⟩:∃q,nrmV [.o 2 []] (.sl 1 r)=.sl 1 q:=⟨_,rfl⟩;rw[hq]at hR hnm;have hr:∀n,cp h n [] 0=[]:=fun n=>by cases n<;>rfl
 unfold bF;rw[if_neg γ];simp only[eM,hm,aCT,aCY,h3,aCN,hp,hr,hs,hnm];simp[kt,bo,bw,eG,lu,hR,fE,cJ,cr,h0,h1,bU,dh,oB,CK,ub,kr,gx,GG,eY,mat,dp,eJ,gP,hk,Hu,hm]
theorem ahA{h:ae}{d b:Nat}(hb:h b=.ar 4 [ce t])(hdb:2000+8*d≠b)(hd:h (2000+8*d)=.dead):
  bF R (az false) h d [.emp,.v (.int .i64 0),.rsl b none 4 0 1] (.fn feq [] [])=some (.rsl (2000+8*d) none 4 0 1,upd (upd h b (.fz 4 [ce t])) (2000+8*d) (.ar 4 (aL [t])),[]):=by
 have hm:=nZ false;have hs:=nj false;have hk:=mj false;have hf:=anB (t:=t);have hb':lw (az false) [.emp,.v (.int .i64 0),.rsl b none 4 0 1] (.fn feq [] [])=false:=by
  grind[lw]
 have h1:cu h [2,0,0] [.emp,.v (.int .i64 0),.rsl b none 4 0 1]=some ([.emp,.v (.int .i64 0),.sl 4 [ce t]],upd h b (.fz 4 [ce t]),[]):=by
  simp[cu,ef,yM,gW,aJ,hb,pI,rO]
 have g2:upd h b (.fz 4 [ce t]) (2000+8*d)=.dead:=by
  simp_all[upd,if_neg]
 have hp:bN [] ([AV.emp,.v (.int .i64 0),.sl 4 [ce t]].flatMap cH)=[]:=by
  simp[cH,gL,bN]
 have hnr:cJ (.osl 4 (aL [t]))=1:=rfl;have hnm:bA [[],[],[.o 5 [.o 2 [],.o 0 [],.o 2 [],.o 0 []]]] [.emp,.v (.int .i64 0),.sl 4 [ce t]]=[.emp,.v (.int .i64 0),.sl 4 [ce t]]:=by
  simp only[bA,ahz];rfl
 have hr:∀ (h:ae) n,cp h n [] 0=[]:=fun h n=>by cases n<;>rfl
 have hlen:(aL [t]).length=1:=rfl;unfold bF;simp only[eM,hm,aCT,aCY,h1,aCN,hp,hr,hs,hnm];simp[kt,bo,bw,eG,lu,hf,fE,hnr,cr,g2,bU,dh,oB,CK,ub,gL,kr,gx,GG,eY,mat,eJ,gP,hk,Hu,hm,hlen]
 simp_all[eu,if_neg]
def ClE(x:List Int):Prop:=R fd8 [.sl 1 (aV x)] []=some (.osl 1 (aV x),[])\/R fd8 [.sl 1 (aV x)] []=some (.sl 1 (aV x),[])
theorem ahB:∀ {x:List Int},x.length<=100000->ClE x
 |[],_=>.inr UN
 |x::l,h=>.inl (UO γ)
theorem YY{v:Int}{l:List Rt}(c:Cl v l)(vt:VT v t)(hl:l.length<=1000000)(hf:LM l t.exps=false):
  R fc0 [ac 1000,.sl 1 (aV t.exps),af t.c] [t3 v' (.osl 4 (aL l)) 0]=some (.tup [],[t3 v' (.osl 4 (aL (l.take (cY l t.exps)++t::l.drop (cY l t.exps)))) 0]):=by
 refine oO aW.2.1 aW.2.2 (aW.1.2.2.2 false) rfl ?_;have hbs:=afa c vt.sm vt.len hl;rw[hf]at hbs;have hcp:=UM vt.nz (aCP (D3 vt.vc vt.c.lb) δ);simp only[af,ai]at hcp;have k1:(aV t.exps).take t.exps.length=aV t.exps:=aCX (by simp_all[Fg,aCJ]);have hlen:(l.take (cY l t.exps)++t::l.drop (cY l t.exps)).length=l.length+1:=by
  grind
 have hp:=Tf l t.exps;simp only[ic,t3,af,ai,go_sem];rw[aci rfl rfl (tF l).symm ⟨_,rfl⟩];rcases ahB vt.ok.len with hcv|hcv
 all_goals
  simp only[go_sem,hbs,MV,hcv,hcp,aCI,aCJ,k1];rw[akF rfl rfl δ δ δ rfl rfl hp hl];generalize l.take (cY l t.exps)++t::l.drop (cY l t.exps)=L at hlen⊢;simp only[go_sem];rw[if_pos (by rfl),yK rfl (by rw[tF,hlen]) rfl δ (aDF δ (aCJ 3))];simp only[go_sem];exact Iz (.inl rfl) rfl
theorem Pw{v:Int}(vt:VT v t):
  R fc0 [ac 1000,.sl 1 (aV t.exps),af t.c] [t3 v' .emp 0]=some (.tup [],[t3 v' (.osl 4 (aL [t])) 0]):=by
 refine oO aW.2.1 aW.2.2 (aW.1.2.2.2 false) rfl ?_;have hbs:=afa (l:=[]) (Cl.nil v) vt.sm vt.len (aC7 _);rw[show cY [] t.exps=0 from rfl,show LM [] t.exps=false from rfl,aDf]at hbs;have hcp:=UM vt.nz (aCP (D3 vt.vc vt.c.lb) δ);simp only[af,ai]at hcp;have k1:(aV t.exps).take t.exps.length=aV t.exps:=aCX (by simp_all[Fg,aCJ]);have k2:nrmV [.o 2 []] (.sl 1 (aV t.exps))=.sl 1 (aV t.exps):=by
  simp only[go_sem]
 simp only[ic,t3,af,ai,go_sem];rw[akG (by rw[k2];exact hbs) rfl rfl];rcases ahB vt.ok.len with hcv|hcv
 all_goals
  simp only[go_sem,hcv,hcp,aCI,aCJ,k1];rw[ahA rfl δ rfl];simp only[go_sem];rw[if_pos (by rfl),yK rfl (show 1=(aL [t]).length from rfl) rfl δ (aDF δ (aCJ 3))];simp only[go_sem];exact Iz (.inl rfl) rfl
theorem LN{d:Nat}(h:i<=n):lG d n (some (I i))=some i:=by
 simp_all[lG,if_pos]
theorem aqu{h:ae}{k:Nat}(hj:bt j=false)(hh:h j=.ar k rows)(hn:n=rows.length)(hc:aF [1000] (h 1000)=true):yU [[]] 1 h [.rsl j none k 0 n]=some (.osl k rows,[h 1000]):=by
 simp_all[dD,yU,if_pos,xT,uj,oE,Ef,Ac,bA,nrmV,nrmL,mF,cH,gL]
theorem aqv(hn:n=rows.length)(hi:i<n)(h2:n<=1000000):R feh [.rsl 1000 none 4 0 n,I i,I ((i+1:Nat):Int)] [.ar 4 rows]=some (.osl 4 (rows.take i++rows.drop (i+1)),[.dead]):=by
 refine oO zp zo (mq false) rfl ?_;subst hn;have b1:lG rows.length rows.length (some (I rows.length))=some rows.length:=LN (aCJ _);have b2:∀d,lG d rows.length (some (I ((i+1:Nat):Int)))=some (i+1):=fun d=>LN ω;have b3:∀d,lG d (i+1) (some (I i))=some i:=fun d=>LN ω;have b4:∀d,lG d rows.length (some (I i))=some i:=fun d=>LN ω;have e1:((i:Int)=((i+1:Nat):Int))=False:=ff;have s1:fA 4 (.rsl 1000 none 4 0 rows.length) (some (I i)) (some (I ((i+1:Nat):Int))) (some (I rows.length))=some .any:=by
  simp_all[fA,if_true,lP,b2,aCN,aDt,Option.isNone_some,if_neg,aCR]
 have s2:fA 4 (.rsl 1000 none 4 0 rows.length) none (some (I i)) none=some (.rsl 1000 none 4 0 i):=by
  simp_all[fA,if_true,lP,O8,aCN,aDt,Option.isNone_none,Nat.sub_zero,aDm]
 have s3:fA 4 (.rsl 1000 none 4 0 rows.length) (some (I ((i+1:Nat):Int))) none none=some (.rsl 1000 none 4 (i+1) (rows.length- (i+1))):=by
  simp only[fA,if_true,lP,b2,O8,aCN,aDt,Option.isNone_none,aCI]
 have t1:(rows.drop (i+1)).take (rows.length- (i+1))=rows.drop (i+1):=aCX γ;have t2:(i+1+(rows.length- (i+1))<=rows.length)=True:=tt;obtain⟨m,hm⟩:∃m,i+(rows.length- (i+1))=m:=⟨_,rfl⟩;obtain⟨D,hD⟩:∃D,rows.take i++rows.drop (i+1)=D:=⟨_,rfl⟩;have d1:D.length=m:=by
  grind
 obtain⟨A,hA⟩:∃A,D++rows.drop m=A:=⟨_,rfl⟩;have a1:A.length=rows.length:=by
  grind
 have a2:A.take m=D:=γ
 have e5:∀h,Om h 26 4 64 1000 4 0 i (rows.drop (i+1)) 4 rows=some (.rsl 1000 none 4 0 m,upd h 1000 (.ar 4 A),[]):=fun h=>by
  unfold Om;grind
 have e7:(i=rows.length)=False:=ff;have b5:lP rows.length (some (I m)) (some (I rows.length)) none=some (m,rows.length):=by
  simp only[lP,b1,aCN];rw[LN ω];rfl
 have c1:(m+(rows.length-m)<=rows.length)=True:=tt;have c2:∀z,(D++aCG (rows.length-m) z++A.drop (m+(rows.length-m))).take m=D:=fun z=>by
  rw[aDr,List.take_append_of_le_length ω,aCX ω]
 rw[hD];simp only[iU,go_sem,s1,s2,s3,e1,t1,t2,e5,e7,false_and,and_false,a1,a2,b5,c1,c2,Nat.sub_zero,aCI,aC7,aDi,decide_false];exact aqu (by rfl) (by rfl) d1.symm (by rfl)
theorem akH{l:List Rt}{h:ae}{d a:Nat}(ha:h a=.ar 4 (aL l))(_hda:2000+8*d≠a)(hd:h (2000+8*d)=.dead)(hn:n=l.length)(hi:i<n)(h2:n<=1000000):
  bF R (az false) h d [.rsl a none 4 0 n,.v (.int .i64 i),.v (.int .i64 ((i+1:Nat):Int))] (.fn feh [] [])=
   some (.rsl (2000+8*d) none 4 0 (l.length-1),upd (upd h a .dead) (2000+8*d) (.ar 4 (aL (l.take i++l.drop (i+1)))),[(a,true),(a,false)]):=by
 have hm:=zu false;have hs:=yA false;have hk:=mq false;have hf:=aqv (rows:=aL l) (n:=n) (i:=i) (by rw[tF,hn]) hi h2;have e1:(aL l).take i++(aL l).drop (i+1)=aL (l.take i++l.drop (i+1)):=by simp[aL,List.map_take,List.map_drop]
 rw[e1]at hf;have hb':lw (az false) [.rsl a none 4 0 n,.v (.int .i64 i),.v (.int .i64 ((i+1:Nat):Int))] (.fn feh [] [])=false:=by
  grind[lw]
 have h1:cu h [2,0,0] [.rsl a none 4 0 n,.v (.int .i64 i),.v (.int .i64 ((i+1:Nat):Int))]=some ([.rsl a none 4 0 n,.v (.int .i64 i),.v (.int .i64 ((i+1:Nat):Int))],h,[]):=by
  simp[cu,ef,yM,gW,aJ,ha,ajv]
 have hr:cp h 40 [a] 0=[a]:=by
  grind[cp,nE,bN]
 have hp:bN [] ([AV.rsl a none 4 0 n,.v (.int .i64 i),.v (.int .i64 ((i+1:Nat):Int))].flatMap cH)=[a]:=by
  simp[cH,gL,bN]
 have h3:bu [a] a=1000:=by simp[bu]
 have hnr:cJ (.osl 4 (aL (l.take i++l.drop (i+1))))=1:=rfl;have hlen:(aL (l.take i++l.drop (i+1))).length=l.length-1:=by
  grind[tF,aDA,aCW,aDL]
 unfold bF;simp only[eM,hm,aCT,aCY,h1,aCN,hp,hr,hs];simp only[Int.natCast_add,Int.natCast_one]at hf;simp[kt,bA,bo,bw,ha,aF,bU,eG,lu,h3,eH,hf,fE,hnr,cr,hd,dh,bf,oB,CK,ub,gL,kr,gx,GG,eY,mat,eJ,gP,hk,Hu,hm,hlen]
 simp_all[eu,if_neg,H0]
theorem anC(h:ae)(i:Nat)(xs:List AV)(a b:AV)(r:List (List AV)):GE h 3 1000 1 4 i 1 xs [] (.bx [a,.osl 4 r,b])=(tZ 3 4 i 1 xs 4 r).map fun q=>(.und,upd h 1000 (.bx [a,.osl 4 q,b]),[]):=rfl
theorem LO(a b:AV)(k:Nat)(r:List (List AV)):lR 1 (.bx [a,.osl k r,b])=some (k,r):=rfl
theorem Th(h:ae)(n:Nat)(g:Bool)(i j:Nat)(r:List (List AV)):qX h n g 4 i j (some (4,r))=(r[i]?).bind fun row=>(mr n g row j).map fun a=>(a,h,[]):=rfl
theorem akI{v:Int}{l:List Rt}{q:Rt}(c:Cl v l)(vt:VT v t)(hl:l.length<=1000000)(hq:l[cY l t.exps]?=some q)(ho:cA q.exps t.exps=0):
  R fc0 [ac 1000,.sl 1 (aV t.exps),af t.c] [t3 v' (.osl 4 (aL l)) 0]=some (.tup [],[if(eK q.c t.c).2=0 then(if(eK q.c t.c).1.m.length=0 then t3 v' (.osl 4 (aL (l.take (cY l t.exps)++l.drop (cY l t.exps+1)))) 0 else t3 v' (.osl 4 (aL (l.set (cY l t.exps) ⟨q.exps,(eK q.c t.c).1⟩))) 0)else t3 v' (.osl 4 (aL l)) 9]):=by
 refine oO aW.2.1 aW.2.2 (aW.1.2.2.2 false) rfl ?_;have hbs:=afa c vt.sm vt.len hl;have hf:LM l t.exps=true:=by
  grind[LM,decide_eq_true]
 rw[hf]at hbs;have vq:=c.t q (List.mem_of_getElem? hq);have hadd:=anw vq.c vt.c;have hlt:=(List.getElem?_eq_some_iff.1 hq).1;have hrow:(aL l)[cY l t.exps]?=some (ce q):=by grind[aL]
 have hi0:(0<=(cY l t.exps:Int)/\(cY l t.exps:Int)< (l.length:Int))=True:=eq_true ⟨by omega,by omega⟩;have hw:aG ((cY l t.exps:Int)+1)=((cY l t.exps+1:Nat):Int):=wi;generalize eK q.c t.c=r at hadd⊢;obtain⟨s,e⟩:=r;simp only[rV,af,ai]at hadd;simp only[ce]at hrow;simp only[ic,t3,af,ai,go_sem];rw[aci rfl rfl (tF l).symm ⟨_,rfl⟩];by_cases he:e=0
 ·subst he;by_cases hs:s.m.length=0
  ·have e1:((s.m.length:Int)=0)=True:=tt;have hlen:(l.take (cY l t.exps)++l.drop (cY l t.exps+1)).length=l.length-1:=by
    grind
   simp only[go_sem,hbs,MV,hi0,hrow,hadd,hs,aCQ,aDf,aCI,LO,Th,hw];rw[akH rfl δ rfl rfl hlt hl];generalize l.take (cY l t.exps)++l.drop (cY l t.exps+1)=L at hlen⊢;simp only[go_sem];rw[yK rfl (by rw[tF,hlen]) rfl δ (aDF δ (aCJ 3))];simp only[go_sem];exact Iz (.inl rfl) rfl
  ·have e1:((s.m.length:Int)=0)=False:=ff;have hset:(aL l).set (cY l t.exps) [.sl 1 (aV q.exps),B s.neg,lm s.m,I s.e]=aL (l.set (cY l t.exps) ⟨q.exps,s⟩):=by
    unfold aL;rw[List.map_set];rfl
   simp only[go_sem,hbs,MV,hi0,hrow,hadd,hs,e1,aCQ,aCI,LO,Th,hw,anC,hset];exact Iz (.inl rfl) rfl
 ·have e1:(e=0)=False:=ff he;simp only[go_sem,hbs,MV,hi0,hrow,hadd,e1,aCQ,aCI,LO,Th,hw];exact Iz (.inl rfl) rfl
theorem Ti{v v':Int}{l:List Rt}{cell:AV}(c:Cl v l)(vt:VT v t)(hl:l.length<=1000000)(hc:n9 cell l):
  ∃cell' l' e',R fc0 [ac 1000,.sl 1 (aV t.exps),af t.c] [t3 v' cell 0]=some (.tup [],[t3 v' cell' e'])/\n9 cell' l'/\((e'=0/\lD l t=some l')\/(e'=9/\lD l t=none/\l'=l)):=by
 rcases hc with rfl| ⟨rfl,rfl⟩
 ·rw[acg];cases hq:l[cY l t.exps]? with
  |none=>
   exact⟨_,_,_,YY c vt hl (by grind[LM]),.inl rfl,.inl ⟨rfl,rfl⟩⟩
  |some q=>
   by_cases ho:cA q.exps t.exps=0
   ·have h1:=akI (v':=v') c vt hl hq ho;simp only[if_pos ho];by_cases he:(eK q.c t.c).2=0
    ·rw[if_pos he]at h1⊢;by_cases hs:(eK q.c t.c).1.m.length=0
     ·rw[if_pos hs]at h1⊢;exact⟨_,_,_,h1,.inl rfl,.inl ⟨rfl,rfl⟩⟩
     ·rw[if_neg hs]at h1⊢;exact⟨_,_,_,h1,.inl rfl,.inl ⟨rfl,rfl⟩⟩
    ·rw[if_neg he]at h1⊢;exact⟨_,_,_,h1,.inl rfl,.inr ⟨rfl,rfl,rfl⟩⟩
   ·simp only[if_neg ho];exact⟨_,_,_,YY c vt hl (by grind[LM,decide_eq_false]),.inl rfl,.inl ⟨rfl,rfl⟩⟩
 ·exact⟨_,_,_,Pw vt,.inl rfl,.inl ⟨rfl,rfl⟩⟩
def fy:List Rt->(List Int->Int)->Int
 |[],_=>0
 |t::l,f=>zI t.c*f t.exps+fy l f
theorem MW:∀ (l r:List Rt) (f:List Int->Int),fy (l++r) f=fy l f+fy r f
 |[],r,f=>by simp[fy]
 |t::l,r,f=>by
  show zI t.c*f t.exps+fy (l++r) f=zI t.c*f t.exps+fy l f+fy r f;rw[MW l r f,Int.add_assoc]
theorem IA(k:Int):∀ (l:List Rt) (f:List Int->Int),fy l (fun x=>k*f x)=k*fy l f
 |[],f=>by simp[fy]
 |t::l,f=>by
  show zI t.c*(k*f t.exps)+_=k*(zI t.c*f t.exps+_);rw[IA k l f,Int.mul_add,Int.mul_left_comm]
theorem LP:∀ {l:List Rt} {f g:List Int->Int},(∀t∈l,f t.exps=g t.exps)->fy l f=fy l g
 |[],f,g,_=>rfl
 |t::l,f,g,h=>by
  show zI t.c*f t.exps+_=zI t.c*g t.exps+_;rw[h t σ,LP fun x hx=>h x (by simp[hx])]
theorem YZ{v:Int}{f:List Int->Int}:∀ {l l':List Rt} {t:Rt},Cl v l->VT v t->lD l t=some l'->fy l' f=fy l f+zI t.c*f t.exps
 |[],l',t,c,vt,h=>by
  cases h;show zI t.c*f t.exps+0=0+_;omega
 |q::l,l',t,c,vt,h=>by
  obtain⟨c1,c2,c3⟩:=c.cons;unfold lD at h;split at h
  ·rw[aCL]at h;obtain⟨l2,h2,rfl⟩:=h;have ih:=YZ c3 vt h2 (f:=f);show _+fy l2 f=(_+fy l f)+_;rw[ih,Int.add_assoc]
  ·split at h
   ·rename_i h1 h2;have he:=anx (c1.l2 vt) h2;split at h
    ·rename_i h3;cases h;have hz:=Td h3;split
     ·rename_i h4;rw[cQ h4]at hz;show fy l f=(zI q.c*f q.exps+fy l f)+_;grind
     grind[zI,eK,fy,Int.add_mul,Int.add_right_comm]
    grind
   grind[zI,fy,Int.add_comm]
theorem Gj{v:Int}{f:List Int->Int}:∀ {ts l l':List Rt},Cl v l->(∀t∈ts,VT v t)->kK l ts=some l'->fy l' f=fy l f+fy ts f
 |[],l,l',c,_,h=>by
  cases h;exact(Int.add_zero _).symm
 |t::ts,l,l',c,vt,h=>by
  unfold kK at h;rw[aCH]at h;obtain⟨l2,h2,h3⟩:=h;rw[Gj (MU c (vt t σ) h2).1 (fun x hx=>vt x γ) h3,YZ c (vt t σ) h2];show _=_+(_+_);omega
theorem VT.zn{v:Int}(h:VT v t):zI t.c≠0:=by
 rcases Gc t.c h.vc with⟨_,_,h2⟩| ⟨_,h1,h2,_⟩| ⟨_,h1,h2,_⟩
 ·exact absurd h2 h.nz
 all_goals omega
theorem UP{b:List Int}(h:cA a b<0):b≠a:=by
 grind[UK]
def p0:Rp:=⟨0,[]⟩
def pV(r:Rp×Int):AV:=.tup [bc r.1,I r.2]
def rW(v:Int):Option (List Rt)->Rp×Int
 |none=>(p0,9)
 |some l=>if 500<l.length then(p0,5)else(⟨v,l⟩,0)
def Al(a b:Rp):Bool:=vp a&& (vp b&&decide (a.vars=b.vars))
def AM(a b:Rp):Rp×Int:=if Al a b=true then rW a.vars (kK [] (a.terms++b.terms))else(p0,1)
def rX(t:Rt):Rt:=⟨t.exps,⟨!t.c.neg,t.c.m,t.c.e⟩⟩
def zE(a b:Rp):Rp×Int:=if Al a b=true then rW a.vars (kK [] (a.terms++b.terms.map rX))else(p0,1)
def iM(a b:List Int):List Int:=List.zipWith (·+·) a b
def MX(s t:Rt):Option Rt:=if(dK s.c t.c).2=0 then some ⟨iM s.exps t.exps,(dK s.c t.c).1⟩else none
def qt(s:Rt):List Rt->Option (List Rt)
 |[]=>some []
 |t::ts=>(MX s t).bind fun x=>(qt s ts).map (x::·)
def og:List Rt->List Rt->Option (List Rt)
 |[],_=>some []
 |s::ss,ts=>(qt s ts).bind fun r=>(og ss ts).map (r++·)
def zF(a b:Rp):Rp×Int:=if Al a b=true then(if a.terms.length≠0/\b.terms.length≠0/\32<jL a+jL b then(p0,5)else rW a.vars ((og a.terms b.terms).bind (kK [])))else(p0,1)
theorem ahC:∃K:Int,K≠0/\∀a b:Rd,(dK a b).2=0->zI (dK a b).1*K=zI a*zI b:=by
 refine⟨2^16384,?_,fun a b h=>?_⟩
 ·grind[Int.pow_ne_zero]
 ·unfold dK at h⊢;split at h
  ·rename_i hc;rw[if_pos hc];exact MT (j:=16384) h
  omega
noncomputable def KK:Int:=Classical.choose ahC
theorem Tj{a b:Rd}(h:(dK a b).2=0):zI (dK a b).1*KK=zI a*zI b:=(Classical.choose_spec ahC).2 a b h
theorem Q5{s:Rt}{f:List Int->Int}:∀ {ts r:List Rt},qt s ts=some r->fy r f*KK=zI s.c*fy ts fun v=>f (iM s.exps v)
 |[],r,h=>by
  cases h;show 0*KK=zI s.c*0;omega
 |t::ts,r,h=>by
  unfold qt at h;rw[aCH]at h;obtain⟨x,h1,h2⟩:=h;rw[aCL]at h2;obtain⟨r2,h3,rfl⟩:=h2;unfold MX at h1;split at h1
  ·rename_i h4;cases h1;show(zI (dK s.c t.c).1*f (iM s.exps t.exps)+fy r2 f)*KK=zI s.c*(zI t.c*f (iM s.exps t.exps)+fy ts _);rw[Int.add_mul,Q5 h3,Int.mul_right_comm,Tj h4,Int.mul_add,Int.mul_assoc]
  ·cases h1
theorem Q6{f:List Int->Int}:∀ {ss ts r:List Rt},og ss ts=some r->fy r f*KK=fy ss fun u=>fy ts fun v=>f (iM u v)
 |[],ts,r,h=>by
  cases h;show 0*KK=0;omega
 |s::ss,ts,r,h=>by
  unfold og at h;rw[aCH]at h;obtain⟨x,h1,h2⟩:=h;rw[aCL]at h2;obtain⟨r2,h3,rfl⟩:=h2;rw[MW,Int.add_mul,Q5 h1,Q6 h3];rfl
theorem Y0:∀ {a b:List Int},a.length=b.length->bm (iM a b)=bm a+bm b
 |[],[],_=>rfl
 |x::a,y::b,h=>by
  show x+y+bm (iM a b)=x+bm a+(y+bm b);rw[Y0 (by simpa using h)];omega
 |[],_::_,h=>by grind
 |_::_,[],h=>by grind
theorem IB:∀ {l:List Int},(∀x∈l,0<=x)->0<=bm l/\∀x∈l,x<=bm l
 |[],_=>⟨Int.le_refl _,fun _ h=>by grind⟩
 |y::l,h=>by
  obtain⟨h1,h2⟩:=IB fun x hx=>h x (List.mem_cons_of_mem _ hx);have h3:=h y σ;grind[bm]
theorem Y3:∀ {a b:List Int},(∀x∈a,0<=x)->(∀x∈b,0<=x)->∀x∈iM a b,0<=x
 |[],b,_,_,x,hx=>by simp_all[iM]
 |_::_,[],_,_,x,hx=>by simp_all[iM]
 |y::a,z::b,h1,h2,x,hx=>by
  have hx':x∈ (y+z)::iM a b:=hx;rcases List.mem_cons.1 hx' with rfl|hx'
  ·have:=h1 y σ;have:=h2 z σ;omega
  ·exact Y3 (fun x hx=>h1 x γ) (fun x hx=>h2 x γ) x hx'
theorem AN{b:List Int}(h:a.length=b.length):(iM a b).length=a.length:=by
 grind[iM,List.length_zipWith]
theorem Y4{v:Int}{s x:Rt}(vs:VT v s)(vt:VT v t)(hd:bm s.exps+bm t.exps<=32)(h:MX s t=some x):VT v x:=by
 unfold MX at h;split at h
 ·rename_i h0;cases h;have hl:=vs.l2 vt;have hp:=Y3 (fun x hx=>(vs.b x hx).1) (fun x hx=>(vt.b x hx).1);have hs:=Y0 hl;obtain⟨q1,q2⟩:vd (dK s.c t.c).1=true/\Ok0 (dK s.c t.c).1:=by
   grind[dK,yI,aO]
  refine⟨q2,by rw[AN hl];exact vs.len,vs.v8,q1,fun h=>?_,fun e he=>⟨hp e he,?_⟩,by grind⟩
  ·have h1:=Tj h0;rw[cQ h,Int.zero_mul]at h1;rcases Int.mul_eq_zero.1 h1.symm with h2|h2
   ·exact vs.zn h2
   ·exact vt.zn h2
  ·have:=(IB hp).2 e he;omega
 grind
theorem LQ{v:Int}{s:Rt}(vs:VT v s):∀ {ts r:List Rt},(∀t∈ts,VT v t/\bm s.exps+bm t.exps<=32)->qt s ts=some r->(∀x∈r,VT v x)/\r.length=ts.length
 |[],r,_,h=>by cases h;grind
 |t::ts,r,ht,h=>by
  unfold qt at h;rw[aCH]at h;obtain⟨x,h1,h2⟩:=h;rw[aCL]at h2;obtain⟨r2,h3,rfl⟩:=h2;obtain⟨g1,g2⟩:=LQ vs (fun y hy=>ht y γ) h3;have vx:=Y4 vs (ht t σ).1 (ht t σ).2 h1;grind
theorem LR{v:Int}:∀ {ss ts r:List Rt},(∀s∈ss,VT v s)->(∀t∈ts,VT v t)->(∀s∈ss,∀t∈ts,bm s.exps+bm t.exps<=32)->og ss ts=some r->(∀x∈r,VT v x)/\r.length=ss.length*ts.length
 |[],ts,r,_,_,_,h=>by cases h;grind
 |s::ss,ts,r,vs,vt,hd,h=>by
  unfold og at h;rw[aCH]at h;obtain⟨x,h1,h2⟩:=h;rw[aCL]at h2;obtain⟨r2,h3,rfl⟩:=h2;obtain⟨g1,g2⟩:=LQ (vs s σ) (fun t ht=>⟨vt t ht,hd s σ t ht⟩) h1;obtain⟨k1,k2⟩:=LR (fun y hy=>vs y γ) vt (fun y hy t ht=>hd y γ t ht) h3;grind
theorem anD{b:List Int}(h:cA a b<0):bm a<=bm b:=by
 unfold cA at h;rcases qG (bm a) (bm b)with⟨g,e⟩| ⟨g,e⟩| ⟨g,e⟩<;>rw[e]at h
 all_goals omega
theorem Px{v:Int}:∀ {l:List Rt} {t q:Rt},Cl v l->l.getLast?=some q->t∈l->bm t.exps<=bm q.exps
 |[],t,q,_,h,_=>by grind
 |[x],t,q,_,h,ht=>by
  grind
 |x::y::l,t,q,c,h,ht=>by
  obtain⟨c1,c2,c3⟩:=c.cons;rcases List.mem_cons.1 ht with rfl|ht
  ·have h1:=anD (c2 y σ);have h2:=Px c3 h (t:=y) σ;omega
  ·exact Px c3 h ht
theorem acj{a:Rp}(oa:OkP a)(h:vp a=true):∀t∈a.terms,bm t.exps<=jL a:=by
 intro t ht;unfold jL;rw[if_pos h];cases hg:a.terms.getLast? with
 |none=>
  grind
 |some q=>exact Px (gU oa h).1 hg ht
theorem mS{a b:Rp}:Al a b=true↔vp a=true/\vp b=true/\a.vars=b.vars:=by
 grind[Al]
theorem Tk{v:Int}(h:VT v t):VT v (rX t):=by
 refine⟨⟨h.c.1,h.c.2⟩,h.len,h.v8,?_,h.nz,h.b,h.d⟩;have h1:=h.vc;have h2:=h.nz
 simp_all[vd,if_neg,rX]
theorem anE(t:Rt):zI (rX t).c=-zI t.c:=by
 grind[zI,rX,mg]
theorem ack(f:List Int->Int):∀l:List Rt,fy (l.map rX) f=-fy l f
 |[]=>rfl
 |t::l=>by
  show zI (rX t).c*f t.exps+fy (l.map rX) f=-(zI t.c*f t.exps+fy l f);rw[ack f l,anE,Int.neg_mul];omega
theorem Tl{v:Int}{o:Option (List Rt)}(h:(rW v o).2=0):∃l,o=some l/\l.length<=500/\(rW v o).1=⟨v,l⟩:=by
 unfold rW at h⊢;grind
structure Pv (v:Int) (a:Rp):Prop where
 v:a.vars=v
 p:vp a=true
 o:OkP a
theorem Pv.cl{v:Int}{a:Rp}(h:Pv v a):Cl v a.terms:=by
 have:=(gU h.o h.p).1;rw[h.v]at this;omega
theorem Tm{a b:Rp}(oa:OkP a)(ob:OkP b)(h:(AM a b).2=0):Pv a.vars a/\Pv a.vars b/\Pv a.vars (AM a b).1/\∀f,fy (AM a b).1.terms f=fy a.terms f+fy b.terms f:=by
 unfold AM at h⊢;split at h
 ·rename_i hp;rw[if_pos hp];obtain⟨va,vb,hv⟩:=mS.1 hp;obtain⟨l,hl,h5,he⟩:=Tl h;obtain⟨ca,a0,a8,_⟩:=gU oa va;obtain⟨cb,_⟩:=gU ob vb;rw[←hv]at cb;have ht:∀t∈a.terms++b.terms,VT a.vars t:=fun t ht=>by
   rcases List.mem_append.1 ht with ht|ht
   ·exact ca.t t ht
   ·exact cb.t t ht
  have hc:=(Bl (Cl.nil _) ht hl).1;rw[he];refine⟨⟨rfl,va,oa⟩,⟨hv.symm,vb,ob⟩,⟨rfl,Cn hc a0 a8 h5,kJ hc⟩,fun f=>?_⟩;have:=Gj (f:=f) (Cl.nil _) ht hl
  simp_all[MW,fy,Int.zero_add]
 omega
theorem Tn{a b:Rp}(oa:OkP a)(ob:OkP b)(h:(zE a b).2=0):Pv a.vars a/\Pv a.vars b/\Pv a.vars (zE a b).1/\∀f,fy (zE a b).1.terms f=fy a.terms f-fy b.terms f:=by
 unfold zE at h⊢;split at h
 ·rename_i hp;rw[if_pos hp];obtain⟨va,vb,hv⟩:=mS.1 hp;obtain⟨l,hl,h5,he⟩:=Tl h;obtain⟨ca,a0,a8,_⟩:=gU oa va;obtain⟨cb,_⟩:=gU ob vb;rw[←hv]at cb;have ht:∀t∈a.terms++b.terms.map rX,VT a.vars t:=fun t ht=>by
   rcases List.mem_append.1 ht with ht|ht
   ·exact ca.t t ht
   ·obtain⟨q,hq,rfl⟩:=List.mem_map.1 ht;exact Tk (cb.t q hq)
  have hc:=(Bl (Cl.nil _) ht hl).1;rw[he];refine⟨⟨rfl,va,oa⟩,⟨hv.symm,vb,ob⟩,⟨rfl,Cn hc a0 a8 h5,kJ hc⟩,fun f=>?_⟩;have:=Gj (f:=f) (Cl.nil _) ht hl;rw[MW,ack]at this;rw[this];show 0+_=_;omega
 omega
theorem JO{a b:Rp}(oa:OkP a)(ob:OkP b)(va:vp a=true)(vb:vp b=true)(h:¬ (a.terms.length≠0/\b.terms.length≠0/\32<jL a+jL b)):∀s∈a.terms,∀t∈b.terms,bm s.exps+bm t.exps<=32:=by
 intro s hs t ht;have h1:=acj oa va s hs;have h2:=acj ob vb t ht;grind
theorem Tp{a b:Rp}(oa:OkP a)(ob:OkP b)(h:(zF a b).2=0):Pv a.vars a/\Pv a.vars b/\Pv a.vars (zF a b).1/\∀f,fy (zF a b).1.terms f*KK=fy a.terms fun u=>fy b.terms fun v=>f (iM u v):=by
 unfold zF at h⊢;split at h
 ·rename_i hp;rw[if_pos hp];obtain⟨va,vb,hv⟩:=mS.1 hp;split at h
  ·omega
  ·rename_i hd;rw[if_neg hd];have hf:=JO oa ob va vb hd;obtain⟨l,hl,h5,he⟩:=Tl h;rw[aCH]at hl;obtain⟨r,hr,hl⟩:=hl;obtain⟨ca,a0,a8,_⟩:=gU oa va;obtain⟨cb,_⟩:=gU ob vb;rw[←hv]at cb;have ht:=(LR ca.t cb.t hf hr).1;have hc:=(Bl (Cl.nil _) ht hl).1;rw[he];refine⟨⟨rfl,va,oa⟩,⟨hv.symm,vb,ob⟩,⟨rfl,Cn hc a0 a8 h5,kJ hc⟩,fun f=>?_⟩;have:=Gj (f:=f) (Cl.nil _) ht hl;rw[this,←Q6 hr];show(0+_)*_=_;grind
 omega
theorem Q7:OkP p0:=⟨fun _ h=>by cases h⟩
theorem Py{v:Int}{o:Option (List Rt)}(h:∀l,o=some l->Cl v l):OkP (rW v o).1:=by
 unfold rW;grind[Q7,kJ]
theorem Pz{a b:Rp}(oa:OkP a)(ob:OkP b):OkP (AM a b).1:=by
 unfold AM;split
 ·rename_i hp;obtain⟨va,vb,hv⟩:=mS.1 hp;obtain⟨ca,_⟩:=gU oa va;obtain⟨cb,_⟩:=gU ob vb;rw[←hv]at cb;exact Py fun l hl=>(Bl (Cl.nil _) (fun t ht=>by
   rcases List.mem_append.1 ht with ht|ht
   ·exact ca.t t ht
   ·exact cb.t t ht) hl).1
 ·exact Q7
theorem PA{a b:Rp}(oa:OkP a)(ob:OkP b):OkP (zE a b).1:=by
 unfold zE;split
 ·rename_i hp;obtain⟨va,vb,hv⟩:=mS.1 hp;obtain⟨ca,_⟩:=gU oa va;obtain⟨cb,_⟩:=gU ob vb;rw[←hv]at cb;exact Py fun l hl=>(Bl (Cl.nil _) (fun t ht=>by
   rcases List.mem_append.1 ht with ht|ht
   ·exact ca.t t ht
   ·obtain⟨q,hq,rfl⟩:=List.mem_map.1 ht;exact Tk (cb.t q hq)) hl).1
 ·exact Q7
theorem PB{a b:Rp}(oa:OkP a)(ob:OkP b):OkP (zF a b).1:=by
 unfold zF;split
 ·rename_i hp;obtain⟨va,vb,hv⟩:=mS.1 hp;split
  ·exact Q7
  ·rename_i hd;have hf:=JO oa ob va vb hd;obtain⟨ca,_⟩:=gU oa va;obtain⟨cb,_⟩:=gU ob vb;rw[←hv]at cb;refine Py fun l hl=>?_;rw[aCH]at hl;obtain⟨r,hr,hl⟩:=hl;exact(Bl (Cl.nil _) (LR ca.t cb.t hf hr).1 hl).1
 ·exact Q7
theorem Y5{a:AV}(h:aJ a=true):gL a=[]:=by cases a<;>simp[aJ]at h<;>rfl
theorem acl{a:AV}(h:aJ a=true)(l:List Nat):bw l a=true:=by cases a<;>simp[aJ]at h<;>simp[bw,h]
theorem Y6{a:AV}(h:aJ a=true)(g:Nat->Nat):lu g a=a:=by cases a<;>simp[aJ]at h<;>rfl
theorem Dh{α β:Type}{f:α->List β}:∀ {l:List α},(∀x∈l,f x=[])->l.flatMap f=[]
 |[],_=>rfl
 |x::l,h=>by
  simp_all
theorem IC{a:AV}(h:dat a=true):cH a=[]:=by
 cases a<;>simp only[dat]at h<;>first|exact Y5 h|skip
 ·exact Dh fun x hx=>Y5 (List.all_eq_true.1 h x hx)
 ·simp[aJ]at h;obtain⟨rfl,rfl⟩:=h;rfl
theorem LS{a:AV}(h:dat a=true)(l:List Nat):bo l a=true:=by
 cases a<;>simp only[dat]at h<;>first|exact acl h l|skip
 all_goals grind[bo,aC5,acl,aJ]
theorem ID{a:AV}(h:dat a=true)(g:Nat->Nat):eG g a=a:=by
 cases a<;>simp only[dat]at h<;>first|exact Y6 h g|skip
 ·rename_i cs;show AV.agg (cs.map (lu g))=_;rw[(aDk (g:=fun c=>c) fun x hx=>Y6 (List.all_eq_true.1 h x hx) g).trans (aDu cs)]
 ·simp[aJ]at h;obtain⟨rfl,rfl⟩:=h;rfl
theorem Q8{a:AV}(h:dat a=true)(hp:ae):ef hp 0 a=some (a,hp,[]):=by
 by_cases hagg:∃cs,a=.agg cs
 ·grind[dat,ef,yM,oS]
 ·have h2:aJ a=true:=by cases a<;>first|exact h|exact absurd ⟨_,rfl⟩ hagg
  cases a<;>first| (simp[aJ]at h2;done)|rfl|skip
theorem MY(hp:ae):∀ {l:List AV},l.all dat=true->cu hp [] l=some (l,hp,[])
 |[],_=>rfl
 |a::l,h=>by
  simp only[aDb,aCK]at h;simp only[cu,List.headD_nil,Q8 h.1,aCN,List.tail_nil,MY hp h.2,aCY]
structure OC (o:Ob):Prop where
 cl:∀l,aF l o=true
 ids:nE o=[]
 ren:∀g,eH g o=o
 nd:bU o=false
structure RT (r:AV):Prop where
 ren:∀g,Hu g r=r
 mat:∀n h,mat n h r=(r,h)
 ok:∀l,kr l r=true
theorem akJ(z:Int):RT (I z):=⟨fun _=>rfl,fun _ _=>rfl,fun _=>rfl⟩
theorem LT(b:Bool):RT (B b):=⟨fun _=>rfl,fun _ _=>rfl,fun _=>rfl⟩
theorem wh:∀l:List AV,ub [] l=[]
 |[]=>rfl
 |a::l=>by
  show(if(0:Nat)=2 then _ else [])++ub [] l=[];rw[wh l];rfl
theorem JP{h:ae}{d:Nat}{o:Ob}(hm:(az false).m f=[])(hk:(az false).keep f=false)(hn:bA ((az false).sh f) (ac id::zas)=ac id::as')(hd:zas.all dat=true)(hd':as'.all dat=true)
  (hh:h id=o) (ho:OC o) (ho':OC o') (hb:bf o=true->bf o'=true) (hR:R f (ac 1000::as') [o]=some (res,[o'])) (hr:RT res) (h8:cJ res<=8) (hfr:cr h (2000+8*d) (cJ res)=true):
  bF R (az false) h d (ac id::zas) (.fn f [] [])=some (res,upd h id o',[(id,true)]):=by
 have h1:cu h [] (ac id::zas)=some (ac id::zas,h,[]):=by
  simp only[cu,ef,aCN,List.tail_nil,MY h hd,aCY]
 have hp:bN [] ((ac id::zas).flatMap cH)=[id]:=by
  rw[List.flatMap_cons,Dh fun x hx=>IC (List.all_eq_true.1 hd x hx)];rfl
 have hre:cp h 40 [id] 0=[id]:=by
  simp[cp,hh,ho.ids,bN]
 have h3:bu [id] id=1000:=by simp[bu]
 have hall:(ac id::as').all (bo [id])=true:=by
  grind[bo,bw,LS]
 have hmap:(ac id::as').map (eG (bu [id]))=ac 1000::as':=by
  rw[aDc,(aDk (g:=fun c=>c) fun x hx=>ID (List.all_eq_true.1 hd' x hx) _).trans (aDu as')];grind[eG,lu]
 have hob:([id].map fun a=>eH (bu [id]) (h a))=[o]:=by simp[hh,ho.ren]
 have hids:([id].all fun a=>aF [id] (h a)&&!bU (h a))=true:=by simp[hh,ho.cl,ho.nd]
 unfold bF;rw[if_neg (by grind[lw])];simp only[eM,hm,aCT,aCY,h1,aCN,hp,hre,hn];unfold kt;rw[hall,hids,hmap,hob,hR,aDv,if_pos rfl,aCN,hk,hm,wh];unfold fE;have hbf:dh h [] [id] [o']=true:=by
  have:=ho'.nd;grind[bf,dh]
 have hend:oB h [id] [] (res,[o'])=true:=by
  simp[oB,CK,hr.ok,ho'.cl]
 rw[if_pos ⟨rfl,by simp,h8,hfr,hbf,hend⟩];simp[eY,gP,hr.mat,hr.ren,ho'.ren]
theorem dX{h:ae}{d:Nat}{r:Option R3}(hm:(az false).m f=[])(hd:zas.all dat=true)(hc:bF R (az false) h d (ac id::zas) (.fn f [] [])=r):Jd R (az false) d f (ac id::zas,h,[])=r:=by
 have h1:cu h [] (ac id::zas)=some (ac id::zas,h,[]):=by
  simp only[cu,ef,aCN,List.tail_nil,MY h hd,aCY]
 rw[Je d hm,h1]at hc;exact hc
theorem mD{v:Int}{c:AV}{l:List Rt}(hc:n9 c l):OC (t3 v c e):=by
 rcases hc with rfl| ⟨rfl,_⟩
 ·exact⟨fun l=>rfl,rfl,fun g=>rfl,rfl⟩
 ·exact⟨fun l=>rfl,rfl,fun g=>rfl,rfl⟩
theorem akK:RT (.tup []):=⟨fun _=>rfl,fun _ _=>rfl,fun _=>rfl⟩
theorem rK{v:Int}{c:AV}{l:List Rt}{h:ae}{d:Nat}{q:Rd}(hh:h id=t3 v c e)(hc:n9 c l)(hc':n9 c' l')(hR:R fc0 [ac 1000,.sl 1 (aV x),af q] [t3 v c e]=some (.tup [],[t3 v c' e'])):
  bF R (az false) h d [ac id,.sl 1 (aV x),af q] (.fn fc0 [] [])=some (.tup [],upd h id (t3 v c' e'),[(id,true)]):=
 JP (aW.1.2.1 false) (aW.1.2.2.2 false) (as':=[.sl 1 (aV x),af q]) (by simp only[af,ai,go_sem]) rfl rfl hh (mD hc) (mD hc') (fun _=>rfl) hR akK δ rfl
theorem Di{v:Int}:R fc5 [I v] []=some (.obx [I v,.emp,I 0],[]):=by
 refine au XO rfl ?_;rfl
theorem atD(r:Rp×Int):RT (pV r):=⟨fun _=>rfl,fun _ _=>rfl,fun _=>rfl⟩
theorem gB{h:ae}{o:Ob}{rs:List (List Sh)}{vs us:List AV}{r:AV}(h0:((vs.flatMap cH).filter fun i=>!bt i)=[])(h1:h 1000=o)(ho:aF [1000] o=true)(h2:xT h vs=some us)(h3:Ac (bA rs us)=r):yU rs 1 h vs=some (r,[o]):=by
 have hp:dD 1=[1000]:=rfl;unfold yU;rw[h0,hp,h2,if_pos (by grind[mF])];grind
theorem zY(x:Value):nD (.v x)=.v x:=rfl
theorem xN(k:Nat)(r:List (List AV)):nD (.osl k r)=.sl k r:=rfl
theorem Dj:nD .emp=.emp:=rfl
theorem aqw{v:Int}{l:List Rt}:Ac (bA [[.o 0 [],.o 5 [.o 2 [],.o 0 [],.o 2 [],.o 0 []]],[]] [.agg [I v,.sl 4 (aL l)],I e])=pV (⟨v,l⟩,e):=by
 have h:=It l;show AV.tup [.agg [I v,.sl 4 ((aL l).map _)],I e]=_;rw[h];rfl
theorem akL{v:Int}{c:AV}{l:List Rt}(hc:n9 c l)(he:e≠0):R fc2 [ac 1000] [t3 v c e]=some (pV (p0,e),[t3 v c e]):=by
 refine oO bD.2.1 bD.2.2 (bD.1.2.2.2 false) rfl ?_;have e1:(e=0)=False:=ff he;simp only[gD,t3,go_sem,e1];exact gB rfl (by rfl) ((mD hc).cl _) (by rfl) (by rfl)
theorem akM{v:Int}{l:List Rt}:R fc2 [ac 1000] [t3 v (.osl 4 (aL l)) 0]=some (pV (rW v (some l)),[if 500<l.length then t3 v (.osl 4 (aL l)) 0 else .bx [I v,.sl 4 (aL l),I 0]]):=by
 refine oO bD.2.1 bD.2.2 (bD.1.2.2.2 false) rfl ?_;unfold rW;by_cases h:500<l.length
 ·have e1:(500< (l.length:Int))=True:=tt;simp only[if_pos h];simp only[gD,t3,go_sem,e1];exact gB rfl (by rfl) rfl (by rfl) (by rfl)
 ·have e1:(500< (l.length:Int))=False:=ff;simp only[if_neg h];simp only[gD,t3,go_sem,e1,zY,xN];exact gB rfl (by rfl) rfl (by rfl) aqw
theorem akN{v:Int}:R fc2 [ac 1000] [t3 v .emp 0]=some (pV (rW v (some [])),[t3 v .emp 0]):=by
 refine oO bD.2.1 bD.2.2 (bD.1.2.2.2 false) rfl ?_;have e1:((500:Int)<0)=False:=ff δ;simp only[gD,t3,go_sem,e1];exact gB rfl (by rfl) rfl (by rfl) (by rfl)
theorem D8{v:Int}{c:AV}{l:List Rt}{h:ae}{d:Nat}(hh:h id=t3 v c e)(hc:n9 c l)(hf:cr h (2000+8*d) 2=true):
  ∃o,bF R (az false) h d [ac id] (.fn fc2 [] [])=some (pV (if e=0 then rW v (some l)else(p0,e)),upd h id o,[(id,true)]):=by
 have key:∃o,OC o/\bf o=true/\R fc2 [ac 1000] [t3 v c e]=some (pV (if e=0 then rW v (some l)else(p0,e)),[o]):=by
  by_cases he:e=0
  ·subst he;rcases hc with rfl| ⟨rfl,rfl⟩
   ·refine⟨_,?_,?_,akM⟩
    ·split
     ·exact mD (.inl rfl)
     ·exact⟨fun l=>rfl,rfl,fun g=>rfl,rfl⟩
    ·split<;>rfl
   ·exact⟨_,mD (.inr ⟨rfl,rfl⟩),rfl,akN⟩
  ·rw[if_neg he];exact⟨_,mD hc,rfl,akL hc he⟩
 obtain⟨o,h1,h2,h3⟩:=key;exact⟨o,JP (bD.1.2.1 false) (bD.1.2.2.2 false) (as':=[]) (by rfl) rfl rfl hh (mD hc) h1 (fun _=>h2) h3 (atD _) (by show 2<=8;decide) hf⟩
theorem Tq{a b:Rp}(oa:OkP a)(ob:OkP b):R fc7 [bc a,bc b] []=some (B (Al a b),[]):=by
 refine au aaT rfl ?_;have h1:=xL oa;have h2:=xL ob;simp only[bc]at h1 h2;unfold Al;cases ha:vp a with
 |false=>
  rw[ha]at h1;simp only[wX,bc,go_sem,h1]
 |true=>
  rw[ha]at h1;cases hb:vp b with
  |false=>
   rw[hb]at h2;simp only[wX,bc,go_sem,h1,h2]
  |true=>
   rw[hb]at h2;simp only[wX,bc,go_sem,h1,h2]
structure ColE (v:Int) (l ts:List Rt) (e:Int) (c':AV) (l':List Rt) (e':Int):Prop where
 c:n9 c' l'
 r:(e'=0/\e=0/\kK l ts=some l')\/(e'=9/\(e=0->kK l ts=none))
theorem ColE.fin{v:Int}{ts:List Rt}(h:ColE v [] ts 0 c' l' e'):(if e'=0 then rW v (some l')else(p0,e'))=rW v (kK [] ts):=by
 rcases h.r with⟨h1,_,h2⟩| ⟨h1,h2⟩
 ·rw[if_pos h1,h2]
 ·rw[h1,if_neg δ,h2 rfl];rfl
theorem ColE.step{v:Int}{l ts:List Rt}{c:AV}(hc:n9 c l)(he:e=0\/e=9)(hC:e=0->Cl v l/\l.length+ts.length+1<=1000000)(vt:VT v t){v':Int}:
  ∃c1 l1 e1,R fc0 [ac 1000,.sl 1 (aV t.exps),af t.c] [t3 v' c e]=some (.tup [],[t3 v' c1 e1])/\n9 c1 l1/\(e1=0\/e1=9)/\(e1=0->Cl v l1/\l1.length+ts.length<=1000000)/\∀c' l' e',ColE v l1 ts e1 c' l' e'->ColE v l (t::ts) e c' l' e':=by
 rcases he with rfl|rfl
 ·obtain⟨h1,h2⟩:=hC rfl;obtain⟨c1,l1,e1,g1,g2,g3⟩:=Ti (v':=v') h1 vt ω hc;refine⟨c1,l1,e1,g1,g2,?_,fun h0=>?_,fun c' l' e' h=>⟨h.c,?_⟩⟩
  ·omega
  ·rcases g3 with⟨_,g⟩| ⟨g,_⟩
   ·have:=Pu g;exact⟨(MU h1 vt g).1,by omega⟩
   omega
  ·rcases g3 with⟨g,k⟩| ⟨g,k,_⟩
   ·rcases h.r with⟨q1,_,q2⟩| ⟨q1,q2⟩
    ·unfold kK;grind
    ·unfold kK;grind
   ·rcases h.r with⟨_,q1,_⟩| ⟨q1,_⟩
    ·omega
    ·unfold kK;grind
 ·refine⟨c,l,9,YX hc δ,hc,.inr rfl,fun h=>by omega,fun c' l' e' h=>⟨h.c,?_⟩⟩;rcases h.r with⟨_,q1,_⟩| ⟨q1,_⟩
  all_goals omega
theorem ahD{v v':Int}(hT:∀t∈T,VT v t)(hn:T.length<=100000):∀ (k i:Nat),i+k=T.length->∀ (c:AV) (l:List Rt) (e:Int),n9 c l->(e=0\/e=9)->(e=0->Cl v l/\l.length+k<=1000000)->
  ∀ (s:ap) (h:ae),s 4=ac 4->s 6=ac 2128->s 22=.sl 4 (aL T)->s 23=I T.length->s 24=I i->h 4=.bx [I 0,.emp]->h 2128=t3 v' c e->
  ∃hh c' l' e',ak 0 [4,6] (av (am R (az false) vo) [4,6,22,23,24] [4,2128] s h)=some (.normal,⟨upd (upd bk 6 (ac 2128)) 4 (ac 4),hh⟩)/\
   hh 4=.bx [I 0,.emp]/\hh 2128=t3 v' c' e'/\(∀a,a≠4->a≠2128->hh a=.dead)/\ColE v l (T.drop i) e c' l' e':=by
 intro k;induction k with
 |zero=>
  intro i hi c l e hc he hC s h h4 h6 h22 h23 h24 k4 k6;have e1:((i:Int)<T.length)=False:=ff;have ho:=(mD (v:=v') (e:=e) hc).cl [4,2128];rw[ah];refine⟨?hh0,c,l,e,?_,?_,?_,?_,?_⟩;rotate_left
  ·simp only[vo,go_sem,h4,h6,h22,h23,h24,k4,k6,ho,e1];rfl
  ·rfl
  ·rfl
  ·simp_all[cB,if_false]
  ·rw[aC3 ω];refine⟨hc,?_⟩;rcases he with rfl|rfl
   ·exact .inl ⟨rfl,rfl,rfl⟩
   omega
 |succ k ih=>
  intro i hi c l e hc he hC s h h4 h6 h22 h23 h24 k4 k6;have hlt:i<T.length:=ω
  have e1:((i:Int)<T.length)=True:=tt;have e2:aZ (aL T) (i:Int)=some (.ipt (ce T[i])):=iY rfl (List.getElem?_eq_getElem hlt);have e5:aG ((i:Int)+1)=((i+1:Nat):Int):=wi;have ho:=(mD (v:=v') (e:=e) hc).cl [4,2128];have hdl:(T.drop (i+1)).length=k:=γ
  obtain⟨c1,l1,ee,g1,g2,g3,g4,g5⟩:=ColE.step (ts:=T.drop (i+1)) hc he (fun h=>by grind) (hT _ (aC0 hlt)) (v':=v');rw[hdl]at g4;have ih':=ih (i+1) ω c1 l1 ee g2 g3 g4;rw[aC4 hlt,ah];have hcall:=fun(h:ae) (hh:h 2128=t3 v' c e) (d:Nat)=>dX (aW.1.2.1 false) rfl (rK (d:=d) hh hc g2 g1);simp only[af,ai]at hcall;simp only[ce]at e2;simp only[vo,go_sem,h4,h6,h22,h23,h24,k4,k6,ho,e1,e2];rw[hcall _ rfl];simp only[go_sem,e5];refine(ih' _ _ ?_ ?_ ?_ ?_ ?_ ?_ ?_).imp fun hh ⟨c',l',e',q1,q2,q3,q4,q5⟩=>⟨c',l',e',q1,q2,q3,q4,g5 _ _ _ q5⟩
  all_goals rfl
theorem acm:RP .emp=some (I 0):=rfl
theorem Y7(h:ae):IV h .emp=h:=rfl
theorem afb:fA 4 .emp none (some (I 0)) none=some .emp:=rfl
theorem akO{h:ae}{d:Nat}{z:List AV}(h0:0<n)(h1:n<=1000000):GF h d 4 64 z .emp (I n)=dA h d 4 (aCG n z) n []:=by
 simp only[GF];grind
theorem akP:R fej [.emp,I 0] []=some (.emp,[]):=by
 refine au qh rfl ?_;have e1:((0:Int)<0)=False:=ff δ;have w1:aG ((0:Int)-0)=0:=δ
 simp only[fR,go_sem,e1,w1,acm,Y7]
theorem akQ(h0:0<n)(h1:n<=1000000):R fej [.emp,I n] []=some (.osl 4 [],[]):=by
 refine au qh rfl ?_;have e1:((n:Int)<0)=False:=ff;have e2:(0< (n:Int))=True:=tt;have w0:aG ((0:Int)-0)=0:=δ
 have w1:aG ((n:Int)-0)=(n:Int):=wi;have e5:fA 4 (.rsl 22 none 4 0 n) none (some (I 0)) none=some (.rsl 22 none 4 0 0):=by
  simp[fA,lP,lG]
 have e4:=fun h d z=>akO (h:=h) (d:=d) (z:=z) h0 h1;simp only[fR,go_sem,e1,e2,e4,w0,w1,acm,Y7,afb,e5,List.take_zero]
 done
theorem ahE{a b:List Rt}(ha:a.length<=100000)(hb:b.length<=100000):R feb [.sl 1 [[.sl 4 (aL a)],[.sl 4 (aL b)]]] []=some (.sl 4 (aL (a++b)),[]):=by
 refine au zA rfl ?_;have w1:aG ((0:Int)+(a.length:Int))=(a.length:Int):=wi;have w2:aG ((a.length:Int)+(b.length:Int))=((a.length+b.length:Nat):Int):=wi;have e1:((a.length:Int)<0)=False:=ff;have e2:(((a.length+b.length:Nat):Int)<0)=False:=ff;have c1:((0:Int)< ((0+1+1:Nat):Int))=True:=tt δ;have c2:((1:Int)< ((0+1+1:Nat):Int))=True:=tt δ;have c3:((2:Int)< ((0+1+1:Nat):Int))=False:=ff δ;have r0:aZ [[AV.sl 4 (aL a)],[.sl 4 (aL b)]] 0=some (.ipt [.sl 4 (aL a)]):=rfl;have r1:aZ [[AV.sl 4 (aL a)],[.sl 4 (aL b)]] 1=some (.ipt [.sl 4 (aL b)]):=rfl;have i1:aG ((0:Int)+1)=1:=δ
 have i2:aG ((1:Int)+1)=2:=δ
 simp only[iW,nX,go_sem,aDp,aDs];rw[ah];simp only[mh,go_sem,c1,r0,w1,e1,i1];rw[ah];simp only[go_sem,c2,r1,w2,e2,i2];rw[ah];simp only[go_sem,c3];by_cases hz:a.length+b.length=0
 ·have ea:a=[]:=List.length_eq_zero_iff.1 ω;have eb:b=[]:=List.length_eq_zero_iff.1 ω;subst ea eb;have hg:=akP;have a0:∀h d,On h d 4 64 .emp (.sl 4 [])=some (.emp,h,[]):=fun h d=>rfl;have hcr:mY (fun _=>.dead) 24 (some (.emp,[]))=some (.emp,fun _=>.dead,[]):=rfl;rw[show aL []=[]from rfl]at*
  simp only[go_sem,hg,hcr,aDs,aDm,aDf];rw[ah];simp only[gY,go_sem,c1,r0,i1,a0];rw[ah];simp only[go_sem,c2,r1,i2,a0];rw[ah];rfl
 ·have hg:=akQ (n:=a.length+b.length) ω ω;have b1:(a.length*64<=140737488355328)=True:=tt;have b2:((a.length+b.length)*64<=140737488355328)=True:=tt;simp only[go_sem,hg,aDs];rw[ah];simp only[gY,go_sem,c1,r0,i1,b1,or_true,aCI,aCT,aDs];rw[ah];simp only[go_sem,c2,r1,i2,b2,or_true];rw[ah];simp only[go_sem,c3,aCI];have hl:(aL a++aL b).length=a.length+b.length:=by grind[aDA,tF]
  have hab:aL a++aL b=aL (a++b):=by simp[aL]
  rw[hl,if_pos (aCJ _),if_pos rfl,hab];have h:=It (a++b);show some (AV.sl 4 ((aL (a++b)).map _),[])=_;rw[h]
theorem rL(h:ae)(d:Nat)(v:Int):mY h d (some (.obx [I v,.emp,I 0],[]))=if bU (h (2000+8*d))=true then some (.ref (2000+8*d) none 0 0 0,upd h (2000+8*d) (.bx [I v,.emp,I 0]),[])else none:=by
 simp[mY,cJ,cr,kr,gx,oA,aJ,bE,mat,eJ]
theorem aqx{v:Int}(hT:∀t∈T,VT v t)(hn:T.length<=100000)(s:ap)(h:ae)(X:Option (Ex×St))(hX:ak 0 [4,6] (av (am R (az false) vo) [4,6,22,23,24] [4,2128] s h)=X)(h4:s 4=ac 4)(h6:s 6=ac 2128)(h22:s 22=.sl 4 (aL T))(h23:s 23=I T.length)(h24:s 24=I 0)(k4:h 4=.bx [I 0,.emp])(k6:h 2128=t3 v' .emp 0):
  ∃hh c' l' e',X=some (.normal,⟨upd (upd bk 6 (ac 2128)) 4 (ac 4),hh⟩)/\
   hh 4=.bx [I 0,.emp]/\hh 2128=t3 v' c' e'/\(∀a,a≠4->a≠2128->hh a=.dead)/\ColE v [] T 0 c' l' e':=by
 subst hX;exact ahD hT hn T.length 0 (aCI _) .emp [] 0 (.inr ⟨rfl,rfl⟩) (.inl rfl) (fun _=>⟨Cl.nil _,by grind⟩) s h h4 h6 h22 h23 h24 k4 k6
theorem acn{a b:Rp}(oa:OkP a)(ob:OkP b):R fcQ [bc a,bc b] []=some (pV (AM a b),[]):=by
 refine au aez rfl ?_;have hp:=Tq oa ob;simp only[bc]at hp;unfold AM;cases hb:Al a b with
 |false=>
  rw[hb]at hp;simp only[DF,Jk,bc,go_sem,hp];rfl
 |true=>
  rw[hb]at hp;obtain⟨va,vb,hv⟩:=mS.1 hb;obtain⟨ca,a0,a8,al⟩:=gU oa va;obtain⟨cb,b0,b8,bl⟩:=gU ob vb;rw[←hv]at cb;have hT:∀t∈a.terms++b.terms,VT a.vars t:=fun t ht=>by
   rcases List.mem_append.1 ht with ht|ht
   ·exact ca.t t ht
   ·exact cb.t t ht
  have hemp:=Di (v:=a.vars);have hcat:=ahE (a:=a.terms) (b:=b.terms) ω ω;have hl:=aqx (v':=a.vars) hT γ;simp only[DF,Jk,bc,go_sem,hp,hemp,rL,hcat,aDp,aDs];generalize hX:ak 0 [4,6] _=X;obtain⟨hh,c',l',e',rfl,q2,q3,q4,q5⟩:=hl _ _ _ hX rfl rfl rfl rfl rfl rfl rfl;obtain⟨o,hd⟩:=D8 (d:=36) q3 q5.c (by grind[cr,bU]);have hd':=dX (bD.1.2.1 false) rfl hd;rw[q5.fin]at hd';simp only[pV,bc,go_sem,q2,hd']
theorem anF{v:Int}(vt:VT v t):R faS [af t.c] []=some (af (rX t).c,[]):=by
 have h:=Ch vt.c;have hvc:=vt.vc;rw[if_neg (by rw[hvc];exact fun h=>h.elim (fun h=>by cases h) vt.nz)]at h;exact h
def t2(v:Int)(c:AV):Ob:=.bx [I v,c]
theorem ami{v:Int}{c:AV}{l:List Rt}(hc:n9 c l)(ids:List Nat):aF ids (t2 v c)=true:=by
 rcases hc with rfl| ⟨rfl,_⟩<;>rfl
theorem ahF{v v':Int}{a:Rp}(hT:∀t∈T,VT v t)(hn:T.length<=100000)(ho3:aF [2,3,4,6] o3=true):∀ (k i:Nat),i+k=T.length->∀ (c:AV),n9 c ((T.take i).map rX)->
  ∀ (s:ap) (h:ae),s 2=ac 2->s 4=ac 4->s 6=ac 6->s 18=.sl 4 (aL T)->s 19=I T.length->s 20=I i->h 2=.bx [I a.vars,.sl 4 (aL a.terms)]->h 3=o3->h 4=.bx [I 0,.emp]->h 6=t2 v' c->
  ∃hh c',ak 0 [2,4,6] (av (am R (az false) qS) [2,4,6,18,19,20] [2,3,4,6] s h)=some (.normal,⟨upd (upd (upd bk 6 (ac 6)) 4 (ac 4)) 2 (ac 2),hh⟩)/\
   hh 2=.bx [I a.vars,.sl 4 (aL a.terms)]/\hh 4=.bx [I 0,.emp]/\hh 6=t2 v' c'/\(∀a,a≠2->a≠3->a≠4->a≠6->hh a=.dead)/\n9 c' (T.map rX):=by
 intro k;induction k with
 |zero=>
  intro i hi c hc s h h2 h4 h6 h18 h19 h20 k2 k3 k4 k6;have e1:((i:Int)<T.length)=False:=ff;rw[aCX ω]at hc;have ho:=ami (v:=v') hc [2,3,4,6];rw[ah];refine⟨?hh0,c,?_,?_,?_,?_,?_,hc⟩;rotate_left
  ·simp only[qS,go_sem,h2,h4,h6,h18,h19,h20,k2,k3,k4,k6,ho,ho3,e1];rfl
  ·rfl
  ·rfl
  ·rfl
  ·intro a a1 a2 a3 a4;simp only[cB,a1,a2,a3,a4,if_false]
 |succ k ih=>
  intro i hi c hc s h h2 h4 h6 h18 h19 h20 k2 k3 k4 k6;have hlt:i<T.length:=ω
  have e1:((i:Int)<T.length)=True:=tt;have e2:aZ (aL T) (i:Int)=some (.ipt (ce T[i])):=iY rfl (List.getElem?_eq_getElem hlt);have e5:aG ((i:Int)+1)=((i+1:Nat):Int):=wi;have hng:=anF (hT _ (aC0 hlt));have ho:=ami (v:=v') hc [2,3,4,6];have ih':=ih (i+1) ω;rw[List.take_succ_eq_append_getElem hlt,List.map_append,List.map_singleton]at ih';have hlen:((T.take i).map rX).length=i:=by rw[List.length_map,aCW];omega
  generalize T[i]=t at e2 hng ih';generalize(T.take i).map rX=l at hc ih' hlen;rw[ah];generalize av _ _ _=L at ih'⊢;simp only[af,ai,rX]at hng;simp only[ce]at e2;rcases hc with rfl| ⟨rfl,rfl⟩
  ·simp only[t2]at k6;have b1:((l.length+1)*64<=140737488355328)=True:=tt;simp only[qS,go_sem,h2,h4,h6,h18,h19,h20,k2,k3,k4,k6,ho3,e1,e2,hng,b1,true_or];rw[if_pos (by rfl),yK rfl (by rw[aDA,tF];rfl) rfl δ (by show 1<2;decide)];simp only[go_sem,e5];refine(ih' (.osl 4 (aL l++[[.sl 1 (aV t.exps),B (!t.c.neg),lm t.c.m,I t.c.e]])) (.inl ?_) _ _ ?_ ?_ ?_ ?_ ?_ ?_ ?_ ?_ ?_ ?_).imp fun hh ⟨c',q⟩=>⟨c',q⟩
   ·simp[aL,ce,rX]
   all_goals rfl
  ·simp only[t2]at k6;simp only[qS,go_sem,h2,h4,h6,h18,h19,h20,k2,k3,k4,k6,ho3,e1,e2,hng];rw[if_pos (by rfl),yK rfl (show 1=List.length [[AV.sl 1 (aV t.exps),B (!t.c.neg),lm t.c.m,I t.c.e]]from rfl) rfl δ (by show 1<2;decide)];simp only[go_sem,e5];refine(ih' (.osl 4 [[.sl 1 (aV t.exps),B (!t.c.neg),lm t.c.m,I t.c.e]]) (.inl ?_) _ _ ?_ ?_ ?_ ?_ ?_ ?_ ?_ ?_ ?_ ?_).imp fun hh ⟨c',q⟩=>⟨c',q⟩
   all_goals rfl
theorem aqy{v:Int}{a:Rp}(hT:∀t∈T,VT v t)(hn:T.length<=100000)(ho3:aF [2,3,4,6] o3=true)(s:ap)(h:ae)(X:Option (Ex×St))(hX:ak 0 [2,4,6] (av (am R (az false) qS) [2,4,6,18,19,20] [2,3,4,6] s h)=X)
  (h2:s 2=ac 2) (h4:s 4=ac 4) (h6:s 6=ac 6) (h18:s 18=.sl 4 (aL T)) (h19:s 19=I T.length) (h20:s 20=I 0) (k2:h 2=.bx [I a.vars,.sl 4 (aL a.terms)]) (k3:h 3=o3) (k4:h 4=.bx [I 0,.emp]) (k6:h 6=.bx [I v',.emp]):
  ∃hh c',X=some (.normal,⟨upd (upd (upd bk 6 (ac 6)) 4 (ac 4)) 2 (ac 2),hh⟩)/\
   hh 2=.bx [I a.vars,.sl 4 (aL a.terms)]/\hh 4=.bx [I 0,.emp]/\hh 6=t2 v' c'/\(∀a,a≠2->a≠3->a≠4->a≠6->hh a=.dead)/\n9 c' (T.map rX):=by
 subst hX;exact ahF hT hn ho3 T.length 0 (aCI _) .emp (.inr ⟨rfl,rfl⟩) s h h2 h4 h6 h18 h19 h20 k2 k3 k4 k6
theorem anG{a b:Rp}(_oa:OkP a)(ob:OkP b)(h:Al a b=true):OkP ⟨b.vars,b.terms.map rX⟩/\AM a ⟨b.vars,b.terms.map rX⟩=zE a b:=by
 obtain⟨va,vb,hv⟩:=mS.1 h;obtain⟨cb,b0,b8,bl⟩:=gU ob vb;have hp:∀l:List Rt,Cl b.vars l->Cl b.vars (l.map rX):=by
  intro l;induction l with
  |nil=>exact fun c=>c
  |cons t l ih=>
   intro c;obtain⟨c1,c2,c3⟩:=c.cons;refine Cl.mk' (Tk c1) (fun x hx=>?_) (ih c3);obtain⟨q,hq,rfl⟩:=List.mem_map.1 hx;exact c2 q hq
 have hn:=hp _ cb;refine⟨kJ hn,?_⟩;have h2:Al a ⟨b.vars,b.terms.map rX⟩=true:=mS.2 ⟨va,Cn hn b0 b8 (by rw[List.length_map];exact bl),hv⟩;unfold AM zE;rw[if_pos h2,if_pos h]
theorem anH{a b:Rp}(oa:OkP a)(ob:OkP b):R fcW [bc a,bc b] []=some (pV (zE a b),[]):=by
 refine au aey rfl ?_;have hp:=Tq oa ob;simp only[bc]at hp;cases hb:Al a b with
 |false=>
  rw[hb]at hp;unfold zE;rw[hb,if_neg aCR];simp only[DE,Jj,bc,go_sem,hp];rfl
 |true=>
  rw[hb]at hp;obtain⟨va,vb,hv⟩:=mS.1 hb;obtain⟨cb,b0,b8,bl⟩:=gU ob vb;obtain⟨on,e1⟩:=anG oa ob hb;have hadd:=acn oa on;rw[e1]at hadd;have hl:=aqy (v':=b.vars) (a:=a) (T:=b.terms) cb.t ω (o3:=.bx [I b.vars,.sl 4 (aL b.terms)]) rfl;simp only[DE,Jj,bc,go_sem,hp];generalize hX:ak 0 [2,4,6] _=X;obtain⟨hh,c',rfl,q2,q3,q4,q5,q6⟩:=hl _ _ _ hX rfl rfl rfl rfl rfl rfl rfl rfl rfl rfl;have d1:hh 2304=.dead:=q5 _ δ δ δ δ;have d2:hh 2305=.dead:=q5 _ δ δ δ δ;generalize zE a b=r at hadd⊢;obtain⟨r1,r2⟩:=r;simp only[pV,bc]at hadd;rcases q6 with rfl| ⟨rfl,q6⟩
  ·simp only[t2]at q4;simp only[pV,bc,go_sem,q2,q3,q4,d1,d2,zY,xN,hadd]
  ·simp only[t2]at q4;rw[q6]at hadd;rw[show aL []=[]from rfl]at hadd;simp only[pV,bc,go_sem,q2,q3,q4,d1,d2,hadd]
theorem lmB(m:List Nat):(aE m).map (fun r=>match r with|[.v (.int _ x)]=>x.toNat|_=>0)=m:=by
 grind[aE,List.map_map,aDk,aDu]
theorem izB(m:List Int):(aV m).map (fun r=>match r with|[.v (.int _ x)]=>x|_=>0)=m:=by
 grind[aV,List.map_map,aDk,aDu]
def tmB:List AV->Rt
 |[.sl _ m1,.v (.bool n2),.sl _ m2,.v (.int _ e2)]=>⟨m1.map (fun r=>match r with|[.v (.int _ x)]=>x|_=>0),⟨n2,m2.map (fun r=>match r with|[.v (.int _ x)]=>x.toNat|_=>0),e2⟩⟩
 |_=>⟨[],aB⟩
theorem atE(t:Rt):tmB (ce t)=t:=by
 show(⟨(aV t.exps).map _,⟨t.c.neg,(aE t.c.m).map _,t.c.e⟩⟩:Rt)=t;rw[lmB,izB]
def plC(a:Rp):List AV:=[I a.vars,.sl 4 (aL a.terms)]
def plR(l:List Rp):List (List AV):=l.map plC
@[go_sem] theorem aAG(l:List Rp):(plR l).length=l.length:=by simp[plR]
@[go_sem] theorem ax6(l:List Rt):(aL l).map (eP [.o 2 [],.o 0 [],.o 0 [],.o 0 []])=aL l:=by
 refine tO fun x hx=>?_;simp only[aL,aDz]at hx;obtain⟨t,ht,rfl⟩:=hx;simp only[ce,go_sem]
@[go_sem] theorem aAH(l:List Rp):(plR l).map (eP [.o 0 [],.o 5 [.o 2 [],.o 0 [],.o 0 [],.o 0 []]])=plR l:=by
 refine tO fun x hx=>?_;simp only[plR,aDz]at hx;obtain⟨t,ht,rfl⟩:=hx;simp only[plC,go_sem]
structure Res (r:Rp×Int):Prop where
 cl:Cl r.1.vars r.1.terms
 len:r.1.terms.length<=100000
 z:r.2=0\/r.1=p0
theorem aco(l:List Int)(n:Nat)(x:Int):(aV l).set n [I x]=aV (l.set n x):=by simp[aV,List.map_set]
theorem akR{b:List Int}{x:Int}(hx:a[i]?=some x)(hy:b[i]?=some y):(iM a b)[i]?=some (x+y):=by
 unfold iM;rw[List.getElem?_zipWith,hx,hy]
def Kx(a b:List Int)(i:Nat):List Int:=(iM a b).take i++a.drop i
theorem anI{b:List Int}(h:a.length=b.length){x:Int}(hx:a[i]?=some x):(Kx a b i)[i]?=some x:=by
 have hlt:=(List.getElem?_eq_some_iff.1 hx).1;unfold Kx;rw[List.getElem?_append_right (by rw[aCW,AN h];omega),aCW,AN h,List.getElem?_drop,show i+(i-min i a.length)=i by omega];exact hx
theorem anJ{b:List Int}(h:a.length=b.length){x:Int}(hx:a[i]?=some x)(hy:b[i]?=some y):(Kx a b i).set i (x+y)=Kx a b (i+1):=by
 have hlt:=(List.getElem?_eq_some_iff.1 hx).1;have hg:=akR hx hy;have hlen:=AN h;unfold Kx;have ht:((iM a b).take i).length=i:=by rw[aCW];omega
 rw[List.set_append_right _ _ ω,ht,Nat.sub_self,aC4 hlt,List.set_cons_zero,List.take_succ_eq_append_getElem (by omega:i< (iM a b).length),aDr];have:=(List.getElem?_eq_some_iff.1 hg).2;rw[this];rfl
theorem anK{b:List Int}(h:a.length=b.length)(hi:a.length<=i):Kx a b i=iM a b:=by
 unfold Kx;rw[aCX (by rw[AN h];omega),aC3 hi,aCY]
theorem ahH{v:Int}{p q:Rt}(vp:VT v p)(vq:VT v q){A Bt:List Rt}{nA iA nB iB:Int}{o4 o8 o10 o11 o2352:Ob}(c2:aF [2,3,4,8,10,11,2352,2576] o2=true)(c3:aF [2,3,4,8,10,11,2352,2576] o3=true)(c4:aF [2,3,4,8,10,11,2352,2576] o4=true)(c8:aF [2,3,4,8,10,11,2352,2576] o8=true)(c10:aF [2,3,4,8,10,11,2352,2576] o10=true)(c11:aF [2,3,4,8,10,11,2352,2576] o11=true)(cc:aF [2,3,4,8,10,11,2352,2576] o2352=true):
  ∀ (k i:Nat),i+k=p.exps.length->∀ (s:ap) (h:ae),s 3=ac 3->s 4=ac 4->s 6=ac 2352->s 8=ac 8->s 11=ac 11->s 13=.rsl 2576 none 1 0 p.exps.length->s 46=.sl 4 (aL A)->s 47=I nA->s 48=I iA->s 53=.sl 4 (aL Bt)->s 54=I nB->s 55=I iB->s 74=.sl 1 (aV q.exps)->s 75=I q.exps.length->s 76=I i->h 2=o2->h 3=o3->h 4=o4->h 8=o8->h 10=o10->h 11=o11->h 2352=o2352->h 2576=.ar 1 (aV (Kx p.exps q.exps i))->
  ∃hh,ak 5 [3,4,6,8,11,13,46,47,48,53,54,55] (av (am R (az false) kX) [3,4,6,8,11,13,46,47,48,53,54,55,74,75,76] [2,3,4,8,10,11,2352,2576] s h)=some (.normal,⟨upd (upd (upd (upd (upd (upd (upd (upd (upd (upd (upd (upd bk 55 (I iB)) 54 (I nB)) 53 (.sl 4 (aL Bt))) 48 (I iA)) 47 (I nA)) 46 (.sl 4 (aL A))) 13 (.rsl 2576 none 1 0 p.exps.length)) 11 (ac 11)) 8 (ac 8)) 6 (ac 2352)) 4 (ac 4)) 3 (ac 3),hh⟩)/\
   hh 2=o2/\hh 3=o3/\hh 4=o4/\hh 8=o8/\hh 10=o10/\hh 11=o11/\hh 2352=o2352/\hh 2576=.ar 1 (aV (iM p.exps q.exps))/\∀a,a≠2->a≠3->a≠4->a≠8->a≠10->a≠11->a≠2352->a≠2576->hh a=.dead:=by
 have hl:=vp.l2 vq;have hs:=vp.ok.len;intro k;induction k with
 |zero=>
  intro i hi s h g3 g4 g6 g8 g11 g13 g46 g47 g48 g53 g54 g55 g74 g75 g76 k2 k3 k4 k8 k10 k11 k2352 k2576;have e1:((i:Int)< (q.exps.length:Int))=False:=ff;rw[anK hl ω]at k2576;rw[ah];refine⟨?hh0,?_,?_,?_,?_,?_,?_,?_,?_,?_,?_⟩;rotate_left
  ·simp only[kX,go_sem,g3,g4,g6,g8,g11,g13,g46,g47,g48,g53,g54,g55,g74,g75,g76,k2,k3,k4,k8,k10,k11,k2352,k2576,c2,c3,c4,c8,c10,c11,cc,e1];rfl
  all_goals first|rfl| (intro a a1 a2 a3 a4 a5 a6 a7 a8;simp only[cB,a1,a2,a3,a4,a5,a6,a7,a8,if_false])
 |succ k ih=>
  intro i hi s h g3 g4 g6 g8 g11 g13 g46 g47 g48 g53 g54 g55 g74 g75 g76 k2 k3 k4 k8 k10 k11 k2352 k2576;have hlt:i<p.exps.length:=ω
  have hlt2:i<q.exps.length:=ω
  have e1:((i:Int)< (q.exps.length:Int))=True:=tt;have hq:q.exps[i]?=some q.exps[i]:=List.getElem?_eq_getElem hlt2;have hp:p.exps[i]?=some p.exps[i]:=List.getElem?_eq_getElem hlt;have e2:aZ (aV q.exps) (i:Int)=some (.ipt [I q.exps[i]]):=pH rfl hq;have e3:=anI hl hp (b:=q.exps);have e3':(aV (Kx p.exps q.exps i))[i]?=some [I p.exps[i]]:=by simp[aV,e3]
  have e4:=anJ hl hp hq;have b1:=vp.b _ (aC0 hlt);have b2:=vq.b _ (aC0 hlt2);have e5:aG ((i:Int)+1)=((i+1:Nat):Int):=wi;have e6:(0<=(i:Int)/\(i:Int)< (p.exps.length:Int))=True:=eq_true ⟨by omega,by omega⟩;have e7:aG (p.exps[i]+q.exps[i])=p.exps[i]+q.exps[i]:=i64_in _ ⟨by omega,by omega⟩;have ih':=ih (i+1) ω;rw[←e4,←aco]at ih';generalize p.exps[i]=x at e3' e7 ih';generalize q.exps[i]=y at e2 e7 ih';rw[ah];generalize av _ _ _=L at ih'⊢;simp only[kX,go_sem,g3,g4,g6,g8,g11,g13,g46,g47,g48,g53,g54,g55,g74,g75,g76,k2,k3,k4,k8,k10,k11,k2352,k2576,c2,c3,c4,c8,c10,c11,cc,e1,e2,e3',e5,e6,e7,aCQ,aCI];exact ih' _ _ rfl rfl rfl rfl rfl rfl rfl rfl rfl rfl rfl rfl rfl rfl rfl rfl rfl rfl rfl rfl rfl rfl rfl
theorem aqA{v:Int}{p q:Rt}(vp:VT v p)(vq:VT v q){nB iB:Int}{o4 o8 o10 o11 o2352:Ob}(s:ap)(h:ae)(X:Option (Ex×St))(hX:ak 5 [3,4,6,8,11,13,46,47,48,53,54,55] (av (am R (az false) kX) [3,4,6,8,11,13,46,47,48,53,54,55,74,75,76] [2,3,4,8,10,11,2352,2576] s h)=X)
  (g3:s 3=ac 3) (g4:s 4=ac 4) (g6:s 6=ac 2352) (g8:s 8=ac 8) (g11:s 11=ac 11) (g13:s 13=.rsl 2576 none 1 0 p.exps.length) (g46:s 46=.sl 4 (aL A)) (g47:s 47=I nA) (g48:s 48=I iA) (g53:s 53=.sl 4 (aL Bt)) (g54:s 54=I nB) (g55:s 55=I iB) (g74:s 74=.sl 1 (aV q.exps)) (g75:s 75=I q.exps.length) (g76:s 76=I 0) (k2:h 2=o2) (k3:h 3=o3) (k4:h 4=o4) (k8:h 8=o8) (k10:h 10=o10) (k11:h 11=o11) (k2352:h 2352=o2352) (k2576:h 2576=.ar 1 (aV p.exps)) (c2:aF [2,3,4,8,10,11,2352,2576] o2=true) (c3:aF [2,3,4,8,10,11,2352,2576] o3=true) (c4:aF [2,3,4,8,10,11,2352,2576] o4=true) (c8:aF [2,3,4,8,10,11,2352,2576] o8=true) (c10:aF [2,3,4,8,10,11,2352,2576] o10=true) (c11:aF [2,3,4,8,10,11,2352,2576] o11=true) (c2352:aF [2,3,4,8,10,11,2352,2576] o2352=true):
  ∃hh,X=some (.normal,⟨upd (upd (upd (upd (upd (upd (upd (upd (upd (upd (upd (upd bk 55 (I iB)) 54 (I nB)) 53 (.sl 4 (aL Bt))) 48 (I iA)) 47 (I nA)) 46 (.sl 4 (aL A))) 13 (.rsl 2576 none 1 0 p.exps.length)) 11 (ac 11)) 8 (ac 8)) 6 (ac 2352)) 4 (ac 4)) 3 (ac 3),hh⟩)/\hh 2=o2/\hh 3=o3/\hh 4=o4/\hh 8=o8/\hh 10=o10/\hh 11=o11/\hh 2352=o2352/\hh 2576=.ar 1 (aV (iM p.exps q.exps))/\∀a,a≠2->a≠3->a≠4->a≠8->a≠10->a≠11->a≠2352->a≠2576->hh a=.dead:=by
 subst hX;have hc:Kx p.exps q.exps 0=p.exps:=by simp[Kx]
 rw[←hc]at k2576;exact ahH vp vq c2 c3 c4 c8 c10 c11 c2352 p.exps.length 0 (aCI _) s h g3 g4 g6 g8 g11 g13 g46 g47 g48 g53 g54 g55 g74 g75 g76 k2 k3 k4 k8 k10 k11 k2352 k2576
theorem ColE.stepN{v:Int}{l:List Rt}{c:AV}(hc:n9 c l)(he:e=0\/e=9)(N:Nat)(hC:e=0->Cl v l/\l.length+N+1<=1000000)(vt:VT v t){v':Int}:
  ∃c1 l1 e1,R fc0 [ac 1000,.sl 1 (aV t.exps),af t.c] [t3 v' c e]=some (.tup [],[t3 v' c1 e1])/\n9 c1 l1/\(e1=0\/e1=9)/\(e1=0->Cl v l1/\l1.length+N<=1000000)/\∀ts c' l' e',ColE v l1 ts e1 c' l' e'->ColE v l (t::ts) e c' l' e':=by
 obtain⟨c1,l1,e1,g1,g2,g3,g4,_⟩:=ColE.step (ts:=aCG N t) hc he (by rw[aDK];exact hC) vt (v':=v');rw[aDK]at g4;refine⟨c1,l1,e1,g1,g2,g3,g4,fun ts c' l' e' h=>?_⟩;rcases he with rfl|rfl
 ·obtain⟨h1,h2⟩:=hC rfl;obtain⟨c2,l2,e2,k1,k2,k3⟩:=Ti (v':=v') h1 vt ω hc;rw[k1]at g1;simp only[Option.some.injEq,Prod.mk.injEq,List.cons.injEq,and_true,true_and,t3,Ob.bx.injEq,AV.v.injEq,Value.int.injEq]at g1;obtain⟨rfl,rfl⟩:=g1;have hl:l2=l1:=by
   rcases k2 with rfl| ⟨rfl,rfl⟩
   ·rcases g2 with g2| ⟨g2,_⟩
    ·simp only[AV.osl.injEq,true_and]at g2;have:=congrArg (List.map tmB) g2;unfold aL at this;rw[List.map_map,List.map_map]at this;have hid:∀l:List Rt,l.map (tmB∘ce)=l:=fun l=>(aDk (g:=fun c=>c) fun x _=>atE x).trans (aDu l);rw[hid,hid]at this;exact this
    ·cases g2
   ·rcases g2 with g2| ⟨_,g2⟩
    ·cases g2
    ·exact g2.symm
  subst hl;refine⟨h.c,?_⟩;rcases k3 with⟨g,k⟩| ⟨g,k,_⟩
  ·subst g;rcases h.r with⟨q1,_,q2⟩| ⟨q1,q2⟩
   ·refine .inl ⟨q1,rfl,?_⟩;unfold kK;rw[k];exact q2
   ·refine .inr ⟨q1,fun _=>?_⟩;unfold kK;rw[k];exact q2 rfl
  ·subst g;rcases h.r with⟨_,q1,_⟩| ⟨q1,_⟩
   ·omega
   ·refine .inr ⟨q1,fun _=>?_⟩;unfold kK;rw[k];rfl
 ·refine⟨h.c,?_⟩;have:=YX (v:=v') (x:=.sl 1 (aV t.exps)) (d:=t.c) hc (by decide:(9:Int)≠0);rw[this]at g1;simp only[Option.some.injEq,Prod.mk.injEq,List.cons.injEq,and_true,true_and,t3,Ob.bx.injEq,AV.v.injEq,Value.int.injEq]at g1;obtain⟨_,rfl⟩:=g1;rcases h.r with⟨_,q1,_⟩| ⟨q1,_⟩
  ·omega
  ·exact .inr ⟨q1,fun h=>by omega⟩
def JQ(blk:Option (Ex×St))(S:ap)(o2 o3:Ob)(v v':Int)(l:List Rt)(e:Int):Option (List Rt)->Prop
 |some r=>∃hh c' l' e',blk=some (.normal,⟨S,hh⟩)/\hh 2=o2/\hh 3=o3/\hh 4=.bx [I 0,.emp]/\hh 2352=t3 v' c' e'/\(∀a,a≠2->a≠3->a≠4->a≠8->a≠2352->hh a=.dead)/\ColE v l r e c' l' e'
 |none=>∃hh,blk=some (.ret,⟨upd (upd bk 5 (I 9)) 4 (ac 4),hh⟩)/\hh 4=.bx [I 0,.emp]
theorem ahI{v v':Int}{p:Rt}(vp:VT v p){A:List Rt}(hB:∀q∈Bt,VT v q/\bm p.exps+bm q.exps<=32)(hn:Bt.length<=100000){nA iA:Int}{o2:Ob}(c2:∀ids,aF ids o2=true){vb:Int}:
  ∀ (k i:Nat),i+k=Bt.length->∀ (c:AV) (l:List Rt) (e:Int),n9 c l->(e=0\/e=9)->(e=0->Cl v l/\l.length+k<=1000000)->∀ (s:ap) (h:ae),s 3=ac 3->s 4=ac 4->s 6=ac 2352->s 8=ac 8->s 46=.sl 4 (aL A)->s 47=I nA->s 48=I iA->s 53=.sl 4 (aL Bt)->s 54=I Bt.length->s 55=I i->h 2=o2->h 3=.bx [I vb,.sl 4 (aL Bt)]->h 4=.bx [I 0,.emp]->h 8=.bx (ce p)->h 2352=t3 v' c e->
  JQ (ak 3 [3,4,6,46,47,48] (av (am R (az false) kY) [3,4,6,8,46,47,48,53,54,55] [2,3,4,8,2352] s h)) (upd (upd (upd (upd (upd (upd bk 48 (I iA)) 47 (I nA)) 46 (.sl 4 (aL A))) 6 (ac 2352)) 4 (ac 4)) 3 (ac 3)) o2 (.bx [I vb,.sl 4 (aL Bt)]) v v' l e (qt p (Bt.drop i)):=by
 intro k;induction k with
 |zero=>
  intro i hi c l e hc he hC s h g3 g4 g6 g8 g46 g47 g48 g53 g54 g55 k2 k3 k4 k8 k2352;have e1:((i:Int)< (Bt.length:Int))=False:=ff;have ho:=(mD (v:=v') (e:=e) hc).cl [2,3,4,8,2352];have ho2:=c2 [2,3,4,8,2352];rw[aC3 ω,ah];simp only[ce]at k8;refine⟨?hh0,c,l,e,?_,?_,?_,?_,?_,?_,⟨hc,?_⟩⟩;rotate_left
  ·simp only[kY,go_sem,g3,g4,g6,g8,g46,g47,g48,g53,g54,g55,k2,k3,k4,k8,k2352,ho,ho2,e1];rfl
  ·rfl
  ·rfl
  ·rfl
  ·rfl
  ·intro a a1 a2 a3 a4 a5;simp only[cB,a1,a2,a3,a4,a5,if_false]
  ·rcases he with rfl|rfl
   ·exact .inl ⟨rfl,rfl,rfl⟩
   ·exact .inr ⟨rfl,fun h=>by omega⟩
 |succ k ih=>
  intro i hi c l e hc he hC s h g3 g4 g6 g8 g46 g47 g48 g53 g54 g55 k2 k3 k4 k8 k2352;have hlt:i<Bt.length:=ω
  have e1:((i:Int)< (Bt.length:Int))=True:=tt;have e2:aZ (aL Bt) (i:Int)=some (.ipt (ce Bt[i])):=iY rfl (List.getElem?_eq_getElem hlt);have e5:aG ((i:Int)+1)=((i+1:Nat):Int):=wi;have ho:=(mD (v:=v') (e:=e) hc).cl;obtain⟨vq,hd⟩:=hB _ (aC0 hlt);have hmul:=Tc vp.c vq.c;have hdl:(Bt.drop (i+1)).length=k:=by rw[aDL];omega
  rw[aC4 hlt];have ih':=ih (i+1) ω;have hrow:∀q ts,qt p (q::ts)=(MX p q).bind fun x=>(qt p ts).map (x::·):=fun q ts=>rfl;rw[hrow];generalize hqq:Bt[i]=q at e2 vq hd hmul⊢;have hVT:=fun x=>Y4 (x:=x) vp vq hd;rw[ah];generalize av _ _ _=L at ih'⊢;unfold MX at hVT⊢;have ho1:=ho [2,3,4,8,2352];have ho2:=c2 [2,3,4,8,2352];have hle:=vp.l2 vq;simp only[ce]at k8 e2;generalize dK p.c q.c=m at hmul hVT⊢;obtain⟨m,em⟩:=m;simp only[rV,af,ai]at hmul;by_cases hm:em=0
  ·subst hm;simp only[if_true,aCN]at hVT⊢;have vx:=hVT _ rfl;obtain⟨c1,l1,e1',s1,s2,s3,s4,s5⟩:=ColE.stepN (t:=⟨iM p.exps q.exps,m⟩) hc he k (fun h=>by have:=hC h;exact⟨this.1,by omega⟩) vx (v':=v');have ih2:=ih' c1 l1 e1' s2 s3 s4;have hcall:=fun(h:ae) (hh:h 2352=t3 v' c e) (d:Nat)=>dX (aW.1.2.1 false) rfl (rK (d:=d) hh hc s2 s1);simp only[af,ai]at hcall;have hpush:∀ (S:ap) (H:ae),JQ (ak 3 [3,4,6,46,47,48] (L S H)) (upd (upd (upd (upd (upd (upd bk 48 (I iA)) 47 (I nA)) 46 (.sl 4 (aL A))) 6 (ac 2352)) 4 (ac 4)) 3 (ac 3)) o2 (.bx [I vb,.sl 4 (aL Bt)]) v v' l1 e1' (qt p (Bt.drop (i+1)))->JQ (ak 3 [3,4,6,46,47,48] (L S H)) (upd (upd (upd (upd (upd (upd bk 48 (I iA)) 47 (I nA)) 46 (.sl 4 (aL A))) 6 (ac 2352)) 4 (ac 4)) 3 (ac 3)) o2 (.bx [I vb,.sl 4 (aL Bt)]) v v' l e ((qt p (Bt.drop (i+1))).map (⟨iM p.exps q.exps,m⟩::·)):=fun S H h=>by
    cases hr:qt p (Bt.drop (i+1))with
    |none=>rw[hr]at h;exact h
    |some r=>
     rw[hr]at h;obtain⟨hh,c',l',e',q1,q2,q3,q4,q5,q6,q7⟩:=h;exact⟨hh,c',l',e',q1,q2,q3,q4,q5,q6,s5 _ _ _ _ q7⟩
   cases hx:p.exps with
   |nil=>
    have hcl:R fd8 [lm []] []=some (lm [],[]):=UN;have hq0:q.exps=[]:=List.length_eq_zero_iff.1 (by rw[←hle,hx];rfl);rw[hx]at hpush;rw[hx,hq0]at hcall;rw[hx]at k8;rw[hq0]at e2;have i0:aV []=[]:=rfl;have a0:iM [] []=[]:=rfl;have z0:((0:Int)<0)=False:=ff δ;have ho2':=c2 [2,3,4,8,10,11,2352,2576];have ho1':=ho [2,3,4,8,10,11,2352,2576];rw[i0]at k8 e2;rw[a0,i0,ap5]at hcall;simp only[kY,go_sem,g3,g4,g6,g8,g46,g47,g48,g53,g54,g55,k2,k3,k4,k8,k2352,ho1,ho2,e1,e2,hmul,hcl,aDs,aDf];rw[ah];simp only[kX,go_sem,ho1',ho2',z0];rw[hcall _ rfl];simp only[go_sem,e5];refine hpush _ _ (ih2 _ _ rfl rfl rfl rfl rfl rfl rfl rfl rfl rfl rfl rfl rfl ?_ rfl);simp only[ce,hx];rfl
   |cons x xs=>
    have hcl:R fd8 [.sl 1 (aV p.exps)] []=some (.osl 1 (aV p.exps),[]):=by
     rw[hx];exact UO (by have:=vp.ok.len;rw[hx]at this;simp at this;omega)
    rw[←hx];have hX0:=aqA vp vq (A:=A) (Bt:=Bt) (nA:=nA) (iA:=iA) (nB:=(Bt.length:Int)) (iB:=(i:Int)) (o2:=o2) (o3:=.bx [I vb,.sl 4 (aL Bt)]) (o4:=.bx [I 0,.emp]) (o8:=.bx [.sl 1 (aV p.exps),B p.c.neg,lm p.c.m,I p.c.e]) (o10:=.bx [.sl 1 (aV q.exps),B q.c.neg,lm q.c.m,I q.c.e]) (o11:=.bx [B m.neg,lm m.m,I m.e]) (o2352:=t3 v' c e);have k9:(aV (iM p.exps q.exps)).take p.exps.length=aV (iM p.exps q.exps):=aCX (by rw[Fg,AN hle];exact aCJ _);have k8l:(iM p.exps q.exps).length=p.exps.length:=AN hle;simp only[kY,go_sem,g3,g4,g6,g8,g46,g47,g48,g53,g54,g55,k2,k3,k4,k8,k2352,ho1,ho2,e1,e2,hmul,hcl];generalize hXX:ak 5 _ _=X;obtain⟨hh,rfl,q2,q3,q4,q8,q10,q11,qc,q25,qd⟩:=hX0 _ _ _ hXX rfl rfl rfl rfl rfl rfl rfl rfl rfl rfl rfl rfl rfl rfl rfl rfl rfl rfl rfl rfl rfl rfl rfl (c2 _) rfl rfl rfl rfl rfl (ho _);simp only[go_sem,q11,q25,k9,k8l,aCI,aCJ];rw[hcall (upd hh 2576 (.fz 1 (aV (iM p.exps q.exps)))) (by rw[cB,if_neg δ];exact qc)];simp only[go_sem,e5];refine hpush _ _ (ih2 _ _ ?_ ?_ ?_ ?_ ?_ ?_ ?_ ?_ ?_ ?_ ?_ ?_ ?_ ?_ ?_)
    all_goals first|rfl| (simp only[cB,Nat.reduceEqDiff,↓reduceIte,q2,q3,q4,q8];done)| (simp only[cB,Nat.reduceEqDiff,↓reduceIte,q8];rfl)
  ·have f1:(em=0)=False:=ff hm;simp only[if_neg hm,Option.bind_none];refine⟨?hh1,?_,?_⟩;rotate_left
   ·simp only[kY,go_sem,g3,g4,g6,g8,g46,g47,g48,g53,g54,g55,k2,k3,k4,k8,k2352,ho1,ho2,e1,e2,hmul,f1];rfl
   ·rfl
theorem aqB{v:Int}{p:Rt}(vp:VT v p)(hB:∀q∈Bt,VT v q/\bm p.exps+bm q.exps<=32)(hn:Bt.length<=100000)(c2:∀ids,aF ids o2=true)
  {c:AV} {l:List Rt} (hc:n9 c l) (he:e=0\/e=9) (hC:e=0->Cl v l/\l.length+Bt.length<=1000000) (s:ap) (h:ae) (X:Option (Ex×St)) (hX:ak 3 [3,4,6,46,47,48] (av (am R (az false) kY) [3,4,6,8,46,47,48,53,54,55] [2,3,4,8,2352] s h)=X)
  (g3:s 3=ac 3) (g4:s 4=ac 4) (g6:s 6=ac 2352) (g8:s 8=ac 8) (g46:s 46=.sl 4 (aL A)) (g47:s 47=I nA) (g48:s 48=I iA) (g53:s 53=.sl 4 (aL Bt)) (g54:s 54=I Bt.length) (g55:s 55=I 0) (k2:h 2=o2) (k3:h 3=.bx [I vb,.sl 4 (aL Bt)]) (k4:h 4=.bx [I 0,.emp]) (k8:h 8=.bx [.sl 1 (aV p.exps),B p.c.neg,lm p.c.m,I p.c.e]) (k2352:h 2352=t3 v' c e):
  JQ X (upd (upd (upd (upd (upd (upd bk 48 (I iA)) 47 (I nA)) 46 (.sl 4 (aL A))) 6 (ac 2352)) 4 (ac 4)) 3 (ac 3)) o2 (.bx [I vb,.sl 4 (aL Bt)]) v v' l e (qt p Bt):=by
 subst hX;exact ahI vp hB hn c2 Bt.length 0 (aCI _) c l e hc he hC s h g3 g4 g6 g8 g46 g47 g48 g53 g54 g55 k2 k3 k4 k8 k2352
theorem ColE.app{v:Int}{l r r2:List Rt}{c1:AV}{l1:List Rt}{e1:Int}(h1:ColE v l r e c1 l1 e1)(h2:ColE v l1 r2 e1 c' l' e'):ColE v l (r++r2) e c' l' e':=by
 refine⟨h2.c,?_⟩;rw[YV];rcases h1.r with⟨a1,a2,a3⟩| ⟨a1,a2⟩
 ·rw[a3];rcases h2.r with⟨b1,b2,b3⟩| ⟨b1,b2⟩
  ·exact .inl ⟨b1,a2,b3⟩
  ·exact .inr ⟨b1,fun _=>b2 a1⟩
 ·rcases h2.r with⟨b1,b2,b3⟩| ⟨b1,b2⟩
  ·omega
  ·exact .inr ⟨b1,fun h=>by rw[a2 h];rfl⟩
theorem ColE.nx{v:Int}{l r:List Rt}{c1:AV}{l1:List Rt}{e1:Int}(h:ColE v l r e c1 l1 e1)(hC:e=0->Cl v l)(hr:∀t∈r,VT v t):(e1=0\/e1=9)/\(e1=0->e=0/\Cl v l1/\l1.length<=l.length+r.length):=by
 rcases h.r with⟨a1,a2,a3⟩| ⟨a1,a2⟩
 ·exact⟨.inl a1,fun _=>⟨a2,Bl (hC a2) hr a3⟩⟩
 ·exact⟨.inr a1,fun h=>by omega⟩
theorem ahJ{v v':Int}(hA:∀p∈A,VT v p)(hB:∀q∈Bt,VT v q)(hd:∀p∈A,∀q∈Bt,bm p.exps+bm q.exps<=32)(hn:Bt.length<=1000)(hm:A.length<=1000){o2:Ob}(c2:∀ids,aF ids o2=true){vb:Int}:
  ∀ (k i:Nat),i+k=A.length->∀ (c:AV) (l:List Rt) (e:Int),n9 c l->(e=0\/e=9)->(e=0->Cl v l/\l.length+k*Bt.length<=1000000)->∀ (s:ap) (h:ae),s 3=ac 3->s 4=ac 4->s 6=ac 2352->s 46=.sl 4 (aL A)->s 47=I A.length->s 48=I i->h 2=o2->h 3=.bx [I vb,.sl 4 (aL Bt)]->h 4=.bx [I 0,.emp]->h 2352=t3 v' c e->
  JQ (ak 1 [4,6] (av (am R (az false) uV) [3,4,6,46,47,48] [2,3,4,2352] s h)) (upd (upd bk 6 (ac 2352)) 4 (ac 4)) o2 (.bx [I vb,.sl 4 (aL Bt)]) v v' l e (og (A.drop i) Bt):=by
 intro k;induction k with
 |zero=>
  intro i hi c l e hc he hC s h g3 g4 g6 g46 g47 g48 k2 k3 k4 k2352;have e1:((i:Int)< (A.length:Int))=False:=ff;have ho:=(mD (v:=v') (e:=e) hc).cl [2,3,4,2352];have ho2:=c2 [2,3,4,2352];rw[aC3 ω,ah];refine⟨?hh0,c,l,e,?_,?_,?_,?_,?_,?_,⟨hc,?_⟩⟩;rotate_left
  ·simp only[uV,go_sem,g3,g4,g6,g46,g47,g48,k2,k3,k4,k2352,ho,ho2,e1];rfl
  ·rfl
  ·rfl
  ·rfl
  ·rfl
  ·intro a a1 a2 a3 a4 a5;simp only[cB,a1,a2,a3,a5,if_false]
  ·rcases he with rfl|rfl
   ·exact .inl ⟨rfl,rfl,rfl⟩
   ·exact .inr ⟨rfl,fun h=>by omega⟩
 |succ k ih=>
  intro i hi c l e hc he hC s h g3 g4 g6 g46 g47 g48 k2 k3 k4 k2352;have hlt:i<A.length:=ω
  have e1:((i:Int)< (A.length:Int))=True:=tt;have e2:aZ (aL A) (i:Int)=some (.ipt (ce A[i])):=iY rfl (List.getElem?_eq_getElem hlt);have e5:aG ((i:Int)+1)=((i+1:Nat):Int):=wi;have ho:=(mD (v:=v') (e:=e) hc).cl;have vp:=hA _ (aC0 hlt);have hdp:=hd _ (aC0 hlt);rw[aC4 hlt];have ih':=ih (i+1) ω;have hall:∀q ts,og (q::ts) Bt=(qt q Bt).bind fun r=>(og ts Bt).map (r++·):=fun q ts=>rfl;rw[hall];generalize A[i]=p at e2 vp hdp⊢;have hl1:=aqB vp (A:=A) (Bt:=Bt) (nA:=(A.length:Int)) (iA:=(i:Int)) (fun q hq=>⟨hB q hq,hdp q hq⟩) ω c2 (vb:=vb) (v':=v') hc he (fun h=>by have:=hC h;rw[Nat.succ_mul]at this;exact⟨this.1,by omega⟩);have hRV:=fun r=>LQ (r:=r) vp (fun q hq=>⟨hB q hq,hdp q hq⟩);rw[ah];generalize av _ _ _=L at ih'⊢;have ho1:=ho [2,3,4,2352];have ho2:=c2 [2,3,4,2352];simp only[ce]at e2;simp only[uV,go_sem,g3,g4,g6,g46,g47,g48,k2,k3,k4,k2352,ho1,ho2,e1,e2];generalize hXX:ak 3 _ _=X;have hM:=hl1 _ _ _ hXX rfl rfl rfl rfl rfl rfl rfl rfl rfl rfl rfl rfl rfl rfl rfl;cases hr:qt p Bt with
  |none=>
   rw[hr]at hM;obtain⟨hh,rfl,q4⟩:=hM;refine⟨hh,?_,q4⟩;simp only[go_sem]
  |some r=>
   rw[hr]at hM;obtain⟨hh,c1,l1,e1',rfl,q2,q3,q4,qc,qd,qe⟩:=hM;obtain⟨w1,w2⟩:=hRV r hr;obtain⟨n1,n2⟩:=qe.nx (fun h=>(hC h).1) w1;have ih2:=ih' c1 l1 e1' qe.c n1 (fun h=>by
    obtain⟨m1,m2,m3⟩:=n2 h;have:=(hC m1).2;rw[Nat.succ_mul]at this;exact⟨m2,by omega⟩)
   simp only[aCN];have hpush:∀ (S:ap) (H:ae),JQ (ak 1 [4,6] (L S H)) (upd (upd bk 6 (ac 2352)) 4 (ac 4)) o2 (.bx [I vb,.sl 4 (aL Bt)]) v v' l1 e1' (og (A.drop (i+1)) Bt)->JQ (ak 1 [4,6] (L S H)) (upd (upd bk 6 (ac 2352)) 4 (ac 4)) o2 (.bx [I vb,.sl 4 (aL Bt)]) v v' l e ((og (A.drop (i+1)) Bt).map (r++·)):=fun S H h=>by
    cases hr2:og (A.drop (i+1)) Bt with
    |none=>rw[hr2]at h;exact h
    |some r2=>
     rw[hr2]at h;obtain⟨hh,c',l',e',q1,q2,q3,q4,q5,q6,q7⟩:=h;exact⟨hh,c',l',e',q1,q2,q3,q4,q5,q6,qe.app q7⟩
   simp only[go_sem,e5];refine hpush _ _ (ih2 _ _ ?_ ?_ ?_ ?_ ?_ ?_ ?_ ?_ ?_ ?_)
   all_goals first|rfl|assumption
theorem aqC{v:Int}(hA:∀p∈A,VT v p)(hB:∀q∈Bt,VT v q)(hd:∀p∈A,∀q∈Bt,bm p.exps+bm q.exps<=32)(hn:Bt.length<=500)(hm:A.length<=500)(c2:∀ids,aF ids o2=true)
  (s:ap) (h:ae) (X:Option (Ex×St)) (hX:ak 1 [4,6] (av (am R (az false) uV) [3,4,6,46,47,48] [2,3,4,2352] s h)=X) (g3:s 3=ac 3) (g4:s 4=ac 4) (g6:s 6=ac 2352) (g46:s 46=.sl 4 (aL A)) (g47:s 47=I A.length) (g48:s 48=I 0) (k2:h 2=o2) (k3:h 3=.bx [I vb,.sl 4 (aL Bt)]) (k4:h 4=.bx [I 0,.emp]) (k2352:h 2352=.bx [I v',.emp,I 0]):
  JQ X (upd (upd bk 6 (ac 2352)) 4 (ac 4)) o2 (.bx [I vb,.sl 4 (aL Bt)]) v v' [] 0 (og A Bt):=by
 subst hX;exact ahJ hA hB hd ω ω c2 A.length 0 (aCI _) .emp [] 0 (.inr ⟨rfl,rfl⟩) (.inl rfl) (fun _=>⟨Cl.nil _,by
  have:A.length*Bt.length<=500*500:=Nat.mul_le_mul hm hn;show 0+_<=_;omega⟩) s h g3 g4 g6 g46 g47 g48 k2 k3 k4 k2352
theorem aqD{v:Int}(h:VT v t):0<=bm t.exps:=(IB fun x hx=>(h.b x hx).1).1
theorem acp{a:Rp}(oa:OkP a):-1<=jL a/\jL a<=32:=by
 unfold jL;split
 ·rename_i h;cases hg:a.terms.getLast? with
  |none=>simp
  |some t=>
   have vt:=(gU oa h).1.t t (List.mem_of_getLast? hg);have:=aqD vt;have:=vt.d;simp only[];omega
 ·omega
theorem anL{a b:Rp}(oa:OkP a)(ob:OkP b):R fcT [bc a,bc b] []=some (pV (zF a b),[]):=by
 refine au aer rfl ?_;have hp:=Tq oa ob;have hda:=Hb oa;have hdb:=Hb ob;have bda:=acp oa;have bdb:=acp ob;simp only[bc]at hp hda hdb;unfold zF;cases hb:Al a b with
 |false=>
  rw[hb]at hp;rw[if_neg aCR];simp only[rR,x9,bc,go_sem,hp];rfl
 |true=>
  rw[hb]at hp;rw[if_pos rfl];obtain⟨va,vb,hv⟩:=mS.1 hb;obtain⟨ka,a0,a8,al⟩:=gU oa va;obtain⟨kb,b0,b8,bl⟩:=gU ob vb;rw[←hv]at kb;have w1:aG (jL a+jL b)=jL a+jL b:=i64_in _ ⟨by omega,by omega⟩;by_cases hd:a.terms.length≠0/\b.terms.length≠0/\32<jL a+jL b
  ·rw[if_pos hd];have e1:(0< (a.terms.length:Int))=True:=tt;have e2:(0< (b.terms.length:Int))=True:=tt;have e3:(32<jL a+jL b)=True:=eq_true hd.2.2;simp only[rR,x9,bc,go_sem,hp,hda,hdb,w1,e1,e2,e3];rfl
  ·rw[if_neg hd];have hf:=JO oa ob va vb hd;have hemp:=Di (v:=a.vars);have hl:=aqC (v':=a.vars) (A:=a.terms) (Bt:=b.terms) ka.t kb.t hf ω ω (o2:=.bx [I a.vars,.sl 4 (aL a.terms)]) (fun _=>rfl) (vb:=b.vars);have fin:∀X:Option (Ex×St),JQ X (upd (upd bk 6 (ac 2352)) 4 (ac 4)) (.bx [I a.vars,.sl 4 (aL a.terms)]) (.bx [I b.vars,.sl 4 (aL b.terms)]) a.vars a.vars [] 0 (og a.terms b.terms)->
     kj false [[.o 0 [],.o 5 [.o 2 [],.o 0 [],.o 2 [],.o 0 []]],[]] [.cell 4 2 true,.t 5] 0 (cF X (am R (az false) (.seq (.ops [4,5] [cm 95 6,ca 96 fc2 [.t 95],co 97 (.ext 0 (.t 96)),co 98 (.ext 1 (.t 96)),sr 2 (.t 4) (.t 97),cm 5 98]) .ret)))=some (pV (rW a.vars ((og a.terms b.terms).bind (kK []))),[]):=by
    intro X hM;cases hr:og a.terms b.terms with
    |none=>
     rw[hr]at hM;obtain⟨hh,rfl,q4⟩:=hM;simp only[Option.bind_none,rW,pV,p0,bc,go_sem,q4];rfl
    |some r=>
     rw[hr]at hM;obtain⟨hh,c',l',e',rfl,q2,q3,q4,qc,qd,qe⟩:=hM;obtain⟨o,hdn⟩:=D8 (d:=96) qc qe.c (by simp[cr,qd,bU]);have hd':=dX (bD.1.2.1 false) rfl hdn;rw[qe.fin]at hd';rw[aCN];generalize rW a.vars (kK [] r)=z at hd'⊢;obtain⟨z1,z2⟩:=z;simp only[pV,bc]at hd';simp only[pV,bc,go_sem,q4,hd']
   by_cases h1:a.terms.length=0
   ·have e1:(0< (a.terms.length:Int))=False:=ff;simp only[rR,x9,bc,go_sem,hp,e1,hemp,rL];generalize hX:ak 1 _ _=X;exact fin X (hl _ _ _ hX rfl rfl rfl rfl rfl rfl rfl rfl rfl rfl)
   ·have e1:(0< (a.terms.length:Int))=True:=tt;by_cases h2:b.terms.length=0
    ·have e2:(0< (b.terms.length:Int))=False:=ff;simp only[rR,x9,bc,go_sem,hp,e1,e2,hemp,rL];generalize hX:ak 1 _ _=X;exact fin X (hl _ _ _ hX rfl rfl rfl rfl rfl rfl rfl rfl rfl rfl)
    ·have e2:(0< (b.terms.length:Int))=True:=tt;have e3:(32<jL a+jL b)=False:=eq_false fun h=>hd ⟨h1,h2,h⟩;simp only[rR,x9,bc,go_sem,hp,hda,hdb,w1,e1,e2,e3,hemp,rL];generalize hX:ak 1 _ _=X;exact fin X (hl _ _ _ hX rfl rfl rfl rfl rfl rfl rfl rfl rfl rfl)
def IsL(x:AV)(l:List Rt):Prop:=x=.sl 4 (aL l)\/(x=.emp/\l=[])
theorem IsL.keep{x:AV}{l:List Rt}(h:IsL x l)(hs:List Nat):iQ hs x=x:=by
 rcases h with rfl| ⟨rfl,_⟩<;>rfl
theorem zZ{fd:FD}{o:Ob}{r:AV×List Ob}(hE:cW.E f=none)(hC:cW.C f=some fd)(hk:cW.md.keep f=true)(h1:args.length=fd.np)
  (hz:kj true fd.rs fd.res 1 (am R (az true) fd.body (wk args) (upd (fun _=>.dead) 1000 o))=some r):R f args [o]=some r:=by
 refine Qy true hE hC hk h1 σ ?_;rw[YW];exact hz
theorem LU{h:ae}{d:Nat}{o:Ob}(hm:(az false).m f=[])(hk:(az false).keep f=true)(hn:bA ((az false).sh f) (zas++[ac id])=as'++[ac id])(hd:zas.all dat=true)(hd':as'.all dat=true)
  (hh:h id=o) (ho:OC o) (ho':OC o') (hb:bf o=true->bf o'=true) (hR:R f (as'++[ac 1000]) [o]=some (res,[o'])) (hr:RT res) (h8:cJ res<=8) (hfr:cr h (2000+8*d) (cJ res)=true):
  bF R (az false) h d zas (.fn f [] [ac id])=some (res,upd h id o',[]):=by
 have hin:∀l:List AV,l.all dat=true->cu h [] (l++[ac id])=some (l++[ac id],h,[]):=by
  intro l;induction l with
  |nil=>intro _;rfl
  |cons x l ih=>
   intro h2;simp only[aDb,aCK]at h2;simp only[aDd,cu,List.headD_nil,Q8 h2.1,aCN,List.tail_nil,ih h2.2,aCY]
 have h1:=hin zas hd;have hp:bN [] ((zas++[ac id]).flatMap cH)=[id]:=by
  rw[List.flatMap_append,Dh fun x hx=>IC (List.all_eq_true.1 hd x hx)];rfl
 have hre:cp h 40 [id] 0=[id]:=by
  simp[cp,hh,ho.ids,bN]
 have h3:bu [id] id=1000:=by simp[bu]
 have hall:(as'++[ac id]).all (bo [id])=true:=by
  rw[List.all_append,aCK];exact⟨List.all_eq_true.2 fun x hx=>LS (List.all_eq_true.1 hd' x hx) _,by simp[bo,bw]⟩
 have hmap:(as'++[ac id]).map (eG (bu [id]))=as'++[ac 1000]:=by
  rw[List.map_append,(aDk (g:=fun c=>c) fun x hx=>ID (List.all_eq_true.1 hd' x hx) _).trans (aDu as')];simp[eG,lu,h3]
 have hob:([id].map fun a=>eH (bu [id]) (h a))=[o]:=by simp[hh,ho.ren]
 have hids:([id].all fun a=>aF [id] (h a)&&!bU (h a))=true:=by simp[hh,ho.cl,ho.nd]
 unfold bF;rw[if_neg (by simp[lw,hm])];simp only[eM,hm,aCT,h1,aCN,hp,hre,hn];unfold kt;rw[hall,hids,hmap,hob,hR,aDv,if_pos rfl,aCN,hk,hm,wh];unfold fE;have hbf:dh h [] [id] [o']=true:=by
  have:=ho'.nd;cases h5:bf o with
  |false=>simp[dh,hh,h5,this]
  |true=>simp[dh,hh,h5,hb h5,this]
 have hend:oB h [id] [] (res,[o'])=true:=by
  simp[oB,CK,hr.ok,ho'.cl]
 rw[if_pos ⟨rfl,by simp,h8,hfr,hbf,hend⟩];simp[eY,gP,hr.mat,hr.ren,ho'.ren]
theorem uL{g:FuncId}{h:ae}{d:Nat}{o:Ob}(hm:(az false).m f=[])(hk:(az false).keep f=false)(hn:bA ((az false).sh f) (zas++[.fn g [] [ac id]])=as'++[.fn g [] [ac id]])(hd:zas.all dat=true)(hd':as'.all dat=true)
  (hh:h id=o) (ho:OC o) (ho':OC o') (hb:bf o=true->bf o'=true) (hR:R f (as'++[.fn g [] [ac 1000]]) [o]=some (res,[o'])) (hr:RT res) (h8:cJ res<=8) (hfr:cr h (2000+8*d) (cJ res)=true):
  bF R (az false) h d (zas++[.fn g [] [ac id]]) (.fn f [] [])=some (res,upd h id o',[(id,true)]):=by
 have hin:∀l:List AV,l.all dat=true->cu h [] (l++[.fn g [] [ac id]])=some (l++[.fn g [] [ac id]],h,[]):=by
  intro l;induction l with
  |nil=>intro _;rfl
  |cons x l ih=>
   intro h2;simp only[aDb,aCK]at h2;simp only[aDd,cu,List.headD_nil,Q8 h2.1,aCN,List.tail_nil,ih h2.2,aCY]
 have h1:=hin zas hd;have hp:bN [] ((zas++[AV.fn g [] [ac id]]).flatMap cH)=[id]:=by
  rw[List.flatMap_append,Dh fun x hx=>IC (List.all_eq_true.1 hd x hx)];rfl
 have hre:cp h 40 [id] 0=[id]:=by
  simp[cp,hh,ho.ids,bN]
 have h3:bu [id] id=1000:=by simp[bu]
 have hall:(as'++[AV.fn g [] [ac id]]).all (bo [id])=true:=by
  rw[List.all_append,aCK];exact⟨List.all_eq_true.2 fun x hx=>LS (List.all_eq_true.1 hd' x hx) _,by simp[bo,bw]⟩
 have hmap:(as'++[AV.fn g [] [ac id]]).map (eG (bu [id]))=as'++[.fn g [] [ac 1000]]:=by
  rw[List.map_append,(aDk (g:=fun c=>c) fun x hx=>ID (List.all_eq_true.1 hd' x hx) _).trans (aDu as')];simp[eG,lu,h3]
 have hob:([id].map fun a=>eH (bu [id]) (h a))=[o]:=by simp[hh,ho.ren]
 have hids:([id].all fun a=>aF [id] (h a)&&!bU (h a))=true:=by simp[hh,ho.cl,ho.nd]
 unfold bF;rw[if_neg (by simp[lw,hm])];simp only[eM,hm,aCT,aCY,h1,aCN,hp,hre,hn];unfold kt;rw[hall,hids,hmap,hob,hR,aDv,if_pos rfl,aCN,hk,hm,wh];unfold fE;have hbf:dh h [] [id] [o']=true:=by
  have:=ho'.nd;cases h5:bf o with
  |false=>simp[dh,hh,h5,this]
  |true=>simp[dh,hh,h5,hb h5,this]
 have hend:oB h [id] [] (res,[o'])=true:=by
  simp[oB,CK,hr.ok,ho'.cl]
 rw[if_pos ⟨rfl,by simp,h8,hfr,hbf,hend⟩];simp[eY,gP,hr.mat,hr.ren,ho'.ren]
theorem akS(x:Ri):OC (.bx (ao x)):=⟨fun _=>rfl,rfl,fun _=>rfl,rfl⟩
section
variable {α:Type} {Frow:α→List AV} {l:List α} {q:α→Bool}
def afc(f:FuncId)(o:Ob)(k:Nat)(g:Bool)(Frow:α->List AV)(l:List α)(q:α->Bool):Prop:=
 ∀x∈l,∃a a',mr k g (Frow x) 0=some a/\dat a=true/\dat a'=true/\bA ((az false).sh f) [a,ac 1000]=[a',ac 1000]/\R f [a',ac 1000] [o]=some (B (q x),[o])
def ax7(f:FuncId)(k:Nat)(g:Bool)(Frow:α->List AV)(l:List α)(q:α->Bool):Prop:=
 ∀x∈l,∃a,mr k g (Frow x) 0=some a/\dat a=true/\R f (bA ((az false).sh f) [a]) []=some (B (q x),[])
theorem ahK{k:Nat}{g:Bool}{o:Ob}{cap:List AV}(hc:cap=[]/\o=.dead/\(az false).m f=[]/\ax7 f k g Frow l q\/cap=[ac 1000]/\OC o/\(az false).m f=[]/\(az false).keep f=true/\afc f o k g Frow l q)(hl:l.length<4611686018427387904):∀ (rest:List α) (n:Nat),l.drop n=rest->n<=l.length->
  ∀ (s:ap) (h:ae),s 0=.sl k (l.map Frow)->s 1=.fn f [] cap->s 7=I l.length->s 8=I n->h 1000=o->
   ∃hh,cF (ak 0 [] (av (am R (az false) (l7 k g)) [0,1,7,8] [1000] s h)) (am R (az false) jZ)=some (.ret,⟨upd bk 4 (I (uH q rest n)),hh⟩)/\hh 1000=o:=by
 have hcl:∀ids,aF ids o=true:=by
  rcases hc with⟨_,rfl,_⟩| ⟨_,h,_⟩
  ·exact fun _=>rfl
  ·exact h.cl
 have hcap:cap=[]\/cap=[ac 1000]:=hc.imp (·.1) (·.1);intro rest;induction rest with
 |nil=>
  intro n hd hn s h h0 h1 h7 h8 h9;have e:n=l.length:=by
   have:=congrArg List.length hd;grind
  subst e;rw[ah];refine⟨?hh0,?_,?_⟩;rotate_left
  ·rcases hcap with rfl|rfl<;> (simp only[l7,jZ,go_sem,h0,h1,h7,h8,h9,hcl,aDl,uH];try rfl)
  ·rfl
 |cons x rest ih=>
  intro n hd hn s h h0 h1 h7 h8 h9;have hlt:n<l.length:=by
   grind
  have hr:l[n]?=some x:=by
   have:=congrArg (·[0]?) hd;grind
  have ih':=ih (n+1) (by rw[←List.drop_drop,hd];rfl) hlt;have e1:((n:Int)< (l.length:Int))=True:=tt;have e2:aZ (l.map Frow) (n:Int)=some (.ipt (Frow x)):=by simp[aZ,hr]
  have e3:aG ((n:Int)+1)=((n+1:Nat):Int):=by grind[i64_in]
  rw[ah];generalize av _ _ _=L at ih'⊢;simp only[uH];rcases hc with⟨rfl,rfl,hm,hf⟩| ⟨rfl,ho,hm,hk,hf⟩
  ·obtain⟨a,ha,hda,hc⟩:=hf x (List.mem_of_getElem? hr);simp only[l7,go_sem,h0,h1,h7,h8,h9,e1,e2,ha,DR _ hm,hda,hc];cases hp:q x with
   |true=>exact⟨_,by simp only[jZ,go_sem];rfl,rfl⟩
   |false=>
    simp only[go_sem,e3,aCR];exact ih' _ _ rfl rfl rfl rfl rfl
  ·obtain⟨a,a',ha,hda,hda',hn2,hc⟩:=hf x (List.mem_of_getElem? hr);have hcc:=fun(h:ae) (d:Nat) (hh:h 1000=o) (hf:h (2000+8*d)=.dead)=>LU (f:=f) (h:=h) (d:=d) (id:=1000) (zas:=[a]) (as':=[a']) hm hk (by simpa using hn2) (by simp[hda]) (by simp[hda']) hh ho ho (fun h=>h) hc (LT _) (aDa rfl) (by simp[cr,cJ,hf,bU]);simp only[l7,go_sem,h0,h1,h7,h8,h9,hcl,e1,e2,ha];rw[hcc _ _ rfl rfl];cases hp:q x with
   |true=>
    simp only[jZ,go_sem];exact⟨_,rfl,rfl⟩
   |false=>
    simp only[go_sem,e3,aCR];exact ih' _ _ rfl rfl rfl rfl rfl
noncomputable abbrev aqE (k:Nat) (g:Bool):FD:=⟨2,[[]],[.t 4],.seq (.ops [0,1] [co 4 (.mv (.c (.v (.int .i64 0))))]) (.seq (.seq (.ops [0,1,7,8] [cm 6 0,co 7 (.len false (.t 6)),co 8 (.mv (.c (.v (.int .i64 0))))]) (.block 0 [] (.loop [0,1,7,8] [1000] (l7 k g)))) jZ)⟩
variable {ci fi:FuncId} {fd fc:FD} {k:Nat} {g:Bool} {cs:List Sh}
structure Src (ci fi:FuncId) (k:Nat) (g:Bool) (cs:List Sh):Prop where
 iE:cW.E fi=none
 iC:cW.C fi=some (aqE k g)
 ik:cW.md.keep fi=false
 im:(az false).m fi=[]
 ik':(az false).keep fi=false
 ish:(az false).sh fi=[[.o (k+1) cs],[]]
 cE:cW.E ci=none
 cC:cW.C ci=some (Ly fi)
 ck:cW.md.keep ci=false
theorem IE(S:Src ci fi k g cs){o:Ob}(ho:OC o)(hm:(az false).m f=[])(hk:(az false).keep f=true)(hl:l.length<4611686018427387904)(hr:(l.map Frow).map (eP cs)=l.map Frow)(hf:afc f o k g Frow l q):
  R ci [.sl k (l.map Frow),.fn f [] [ac 1000]] [o]=some (B (l.any q),[o]):=by
 have h:R fi [.sl k (l.map Frow),.fn f [] [ac 1000]] [o]=some (I (uH q l 0),[o]):=by
  refine oO S.iE S.iC S.ik rfl ?_;have hL:=ahK (Frow:=Frow) (q:=q) (k:=k) (g:=g) (Or.inr ⟨rfl,ho,hm,hk,hf⟩) hl l 0 rfl (aC7 _);simp only[go_sem,aef];have hL2:∀ (S:ap) (H:ae) (X:Option (Ex×St)),cF (ak 0 [] (av (am R (az false) (l7 k g)) [0,1,7,8] [1000] S H)) (am R (az false) jZ)=X->S 0=.sl k (l.map Frow)->S 1=.fn f [] [ac 1000]->S 7=I l.length->S 8=I (0:Nat)->H 1000=o->
    ∃hh,X=some (.ret,⟨upd bk 4 (I (uH q l 0)),hh⟩)/\hh 1000=o:=fun S H X hX a b c d e=>by
   rw[←hX];exact hL S H a b c d e
  generalize hX:cF (ak 0 [] (av _ _ [1000] _ _)) (am R (az false) jZ)=X;obtain⟨hh,e,e9⟩:=hL2 _ _ _ hX rfl rfl (by simp only[go_sem,List.length_map]) rfl rfl;rw[e];simp only[go_sem];exact gB rfl e9 (ho.cl _) rfl rfl
 refine oO S.cE S.cC S.ck rfl ?_;have ha:=Jx q l 0;have hc:=fun(h':ae) (d:Nat) (hh:h' 1000=o) (hf:h' (2000+8*d)=.dead)=>uL (f:=fi) (g:=f) (h:=h') (d:=d) (id:=1000) (zas:=[.sl k (l.map Frow)]) (as':=[.sl k (l.map Frow)]) S.im S.ik'
  (by rw[S.ish];simp only[go_sem,hr,aDd,aCT]) rfl rfl hh ho ho (fun h=>h) h (akJ _) (aDa rfl) (by simp[cr,cJ,hf,bU])
 simp only[aDd,aCT]at hc;simp only[Ly,go_sem];rw[hc _ _ rfl rfl];simp only[go_sem,ha];exact gB rfl rfl (ho.cl _) rfl rfl
end
theorem LV{q:Nat}{u:Int}(hu:-16384<=u)(h:(cI (bg false q u)).2=0):zI (cI (bg false q u)).1=((q*2^ (u+16384).toNat:Nat):Int):=by
 have e1:bg false q u=cT ((q*2^ (u+16384).toNat:Nat):Int) (-16384- (0:Nat)):=by
  unfold cT;rw[decide_eq_false ω,Int.natAbs_natCast,kH];grind
 rw[e1]at h⊢;have:=MT (j:=0) h;omega
theorem Ts{q:Nat}(h:n<ag q):2^n<=q:=by
 refine Nat.le_of_not_lt fun h1=>?_;have:=bH.2 h1;omega
theorem JR{f:Int}{s t:Nat}{more w:Bool}(h0:M≠0)(hp:8<=p/\p<=512)(hf:f+16384=(s:Int)-t)(hm:more=true->p< (ag M:Nat))(h:(df M f more p w).2=0):
  ∃n:Nat,zI (df M f more p w).1=(n:Int)/\(w=true->(M+more.toNat)*2^s<=n*2^t)/\(w=false->n*2^t<=M*2^s):=by
 obtain⟨u,hu⟩:∃u,fk M f p=u:=⟨_,rfl⟩;have hu1:-16384<=u/\f+(ag M:Nat)-p<=u/\(u=-16384\/u=f+(ag M:Nat)-p):=by
  grind[fk]
 unfold df at h⊢;rw[hu]at h⊢;obtain⟨q,hq⟩:∃q,nu w (qk M f more u)=q:=⟨_,rfl⟩;rw[hq]at h⊢;have hT:(w=true->(M+more.toNat)*2^s<=q*2^ ((u+16384).toNat+t))/\(w=false->q*2^ ((u+16384).toNat+t)<=M*2^s):=by
  unfold qk at hq;by_cases h1:u<=f
  ·have hmf:more=false:=by
    grind
   subst hmf;have hq2:q=M*2^ (f-u).toNat:=by
    grind[nu]
   rw[hq2,aC9,←aCU,show(f-u).toNat+((u+16384).toNat+t)=s by omega];grind
  ·rw[if_neg h1]at hq;obtain⟨d,hd⟩:∃d,(u-f).toNat=d:=⟨_,rfl⟩;rw[hd]at hq;rw[show(u+16384).toNat+t=d+s by omega,aCU,←aC9];have hd:=aDC M (2^d);have hm:=aDj M (aC1 d);unfold nu at hq;constructor
   ·intro hw;subst hw;refine aCS _ ?_;by_cases hz:(more||decide (M%2^d≠0))=true
    ·rw[hz,Bool.and_true,if_pos rfl]at hq;subst hq;have:=Bool.toNat_le more;grind
    grind
   ·intro hw;subst hw;subst hq;refine aCS _ ?_;grind
 obtain⟨h1,h2⟩:=hT;unfold uK at h⊢;by_cases hb:16384< (ag q:Int)+u
 ·rw[if_pos hb]at h⊢;cases w with
  |true=>grind
  |false=>
   refine⟨_,LV ω h,fun hw=>absurd hw aCR,fun _=>?_⟩;have h3:=h2 rfl;have h4:2^ (32768+t)<=M*2^s:=by
    by_cases hb0:ag q=0
    ·have hbm:=gM h0;have h5:=Ts (show ag M-1<ag M by omega);refine aCP ?_ (aCS _ h5);rw[←aCU];exact aDn δ ω
    ·have h5:=Ts (show ag q-1<ag q by omega);refine aCP ?_ (aCP (aCS _ h5) h3);rw[←aCU];exact aDn δ ω
   have h7:(2^p.toNat-1)*2^ (16384-p+16384).toNat*2^t<=2^ (32768+t):=by
    rw[aC9,←aCU];refine aCP (aCS _ (Nat.sub_le _ 1)) ?_;rw[←aCU];exact aDn δ ω
   omega
 ·rw[if_neg hb]at h⊢;refine⟨_,LV hu1.1 h,fun hw=>?_,fun hw=>?_⟩
  all_goals grind
theorem Tt{f:Int}{more w:Bool}:vd (df M f more p w).1=true:=by
 have hc:∀ (q:Nat) (u:Int),vd (cI (bg false q u)).1=true:=fun q u=>by
  have:=(yI (z:=(q:Int)) (f:=u)).1;grind[cT,decide_eq_false,Int.natAbs_natCast]
 grind[df,uK,vd,aB]
theorem MZ{up:Bool}(hp:8<=p/\p<=512)(h:(iL z (-16384- (j:Int)) p up).2=0):(up=true->z<=zI (iL z (-16384- (j:Int)) p up).1*2^j)/\(up=false->zI (iL z (-16384- (j:Int)) p up).1*2^j<=z):=by
 unfold iL at h⊢;by_cases h0:z=0
 ·rw[if_pos h0,cQ rfl,Int.zero_mul,h0];omega
 ·unfold iX at h⊢;have key:∀w:Bool,(df z.natAbs (-16384- (j:Int)) false p w).2=0->∃n:Nat,zI (df z.natAbs (-16384- (j:Int)) false p w).1=(n:Int)/\(w=true->(z.natAbs:Int)<=(n:Int)*2^j)/\(w=false->(n:Int)*2^j<=(z.natAbs:Int)):=fun w hc=>by
   obtain⟨n,g1,g2,g3⟩:=JR (s:=0) (t:=j) ω hp ω (fun h=>absurd h aCR) hc;refine⟨n,g1,fun hw=>?_,fun hw=>?_⟩
   all_goals grind
  by_cases hn:z<0
  ·grind[we,Tt,Int.neg_mul]
  grind
theorem anM{c:Rd}(vc:vd c=true)(hp:bC p=true)(h:(cw c p false).2=0):zI (cw c p false).1<=zI c:=by
 have hp2:8<=p/\p<=512:=by
  simp_all[bC,aCK,decide_eq_true_eq]
 have hf:aY p [c]=0:=by grind[aY]
 unfold cw at h⊢;rw[if_pos hf]at h⊢;have:=(MZ (j:=0) hp2 h).2 rfl;grind
theorem anN{c:Rd}(vc:vd c=true)(hp:bC p=true)(h:(cw c p true).2=0):zI c<=zI (cw c p true).1:=by
 have hp2:8<=p/\p<=512:=by
  simp_all[bC,aCK,decide_eq_true_eq]
 have hf:aY p [c]=0:=by grind[aY]
 unfold cw at h⊢;rw[if_pos hf]at h⊢;have:=(MZ (j:=0) hp2 h).1 rfl;grind
def yS(T V:Nat):Nat:=min 4294967295 (T/V)
theorem akT{T L V2 v k W:Nat}(hW:W=T*4294967296^k+L)(hV:V=V2*4294967296^k+M)(hL:L<4294967296^k)(hM:M<4294967296^k)(h2:V2=v*4294967296+w)(hv:2147483648<=v)(hlt:W<4294967296*V):
  W/V<=yS T V2/\yS T V2<=W/V+1:=by
 generalize 4294967296^k=b at*
 have hV2:9223372036854775808<=V2:=ω
 have hVp:0<V:=by
  omega
 have hV2p:0<V2:=ω
 constructor
 ·refine Nat.le_min.2 ⟨?_,?_⟩
  ·have:=(Nat.div_lt_iff_lt_mul hVp).2 hlt;omega
  ·rw[Nat.le_div_iff_mul_le hV2p];have h1:W/V*V<=W:=Nat.div_mul_le_self W V;have h3:W/V*V2*b<=W/V*V:=by
    simp_all[aC9,aDD]
   have h4:W/V*V2*b< (T+1)*b:=by
    grind
   have:=Nat.lt_of_mul_lt_mul_right h4;omega
 ·have hg:yS T V2*V2<=T:=by
   refine aCP (aCS V2 (Nat.min_le_right _ _)) (Nat.div_mul_le_self T V2)
  have hg2:yS T V2<=4294967295:=Nat.min_le_left _ _;generalize yS T V2=g at*
  have h1:g*V=g*V2*b+g*M:=γ
  have h2':g*V2*b<=T*b:=aCS b hg;have h3:g*M<=4294967295*b:=Nat.mul_le_mul hg2 (Nat.le_of_lt hM);have h4:9223372036854775808*b<=V2*b:=aCS b hV2;have h5:g*V<W+V:=ω
  cases g with
  |zero=>grind
  |succ g=>
   rw[aC8,Nat.one_mul]at h5;exact Nat.succ_le_succ ((Nat.le_div_iff_mul_le hVp).2 ω)
theorem Y8{q v T:Nat}(hT:T=(q*v+rest)*4294967296+third)(hV:V=v*4294967296+w)(hVp:0<V)(hw:w<4294967296)(hq:q<=4294967296):
  (rest<4294967296/\rest*4294967296+third<q*w->T/V<q)/\(¬ (rest<4294967296/\rest*4294967296+third<q*w)->q<=T/V):=by
 have e1:q*V=q*v*4294967296+q*w:=γ
 constructor
 ·rw[Nat.div_lt_iff_lt_mul hVp];omega
 ·rw[Nat.le_div_iff_mul_le hVp];by_cases h1:rest<4294967296
  ·omega
  ·have:q*w<=4294967296*4294967296:=Nat.mul_le_mul hq (Nat.le_of_lt hw);omega
theorem abd{next v:Nat}(hv:0<v)(hvb:v<4294967296)(ht:top<=v)(hn:next<4294967296)(h3:third<4294967296):
  min (if v<=top then 4294967295 else(top*4294967296+next)/v) (((top*4294967296+next)*4294967296+third)/ (v*4294967296+w))=yS ((top*4294967296+next)*4294967296+third) (v*4294967296+w):=by
 unfold yS;by_cases h:v<=top
 ·rw[if_pos h]
 ·rw[if_neg h];have h1:((top*4294967296+next)*4294967296+third)/ (v*4294967296+w)<=(top*4294967296+next)/v:=by
   rw[Nat.le_div_iff_mul_le hv];have h2:=Nat.div_mul_le_self ((top*4294967296+next)*4294967296+third) (v*4294967296+w);grind
  have h2:(top*4294967296+next)/v<4294967296:=by
   rw[Nat.div_lt_iff_lt_mul hv];omega
  omega
def vL(q:Nat):List Nat->List Nat->Nat->Nat->List Nat×Nat×Nat
 |u::us,y::vs,c,b=>(((u+18446744073709551616- (q*y+c) %4294967296-b) %18446744073709551616%4294967296)::(vL q us vs ((q*y+c)/4294967296) ((u+18446744073709551616- (q*y+c) %4294967296-b) %18446744073709551616/9223372036854775808)).1,(vL q us vs ((q*y+c)/4294967296) ((u+18446744073709551616- (q*y+c) %4294967296-b) %18446744073709551616/9223372036854775808)).2)
 |_,_,c,b=>([],c,b)
theorem Tu{u s b:Nat}(hu:u<4294967296)(hs:s<4294967296)(hb:b<=1):
  (u+18446744073709551616-s-b) %18446744073709551616/9223372036854775808<=1/\(u+18446744073709551616-s-b) %18446744073709551616%4294967296+s+b=u+4294967296*((u+18446744073709551616-s-b) %18446744073709551616/9223372036854775808):=by
 omega
theorem Y9{q:Nat}(hq:q<4294967296):∀ {us vs:List Nat} {c b:Nat},Lb us->Lb vs->us.length=vs.length->c<4294967296->b<=1->
  ab us+4294967296^vs.length*((vL q us vs c b).2.1+(vL q us vs c b).2.2)=ab (vL q us vs c b).1+q*ab vs+c+b/\(vL q us vs c b).2.1<4294967296/\(vL q us vs c b).2.2<=1/\Lb (vL q us vs c b).1/\(vL q us vs c b).1.length=vs.length
 |[],[],c,b,_,_,_,hc,hb=>by
  refine⟨?_,hc,hb,fun x hx=>(nomatch hx),rfl⟩;show 0+4294967296^0*(c+b)=0+q*0+c+b;omega
 |u::us,y::vs,c,b,hu,hv,hl,hc,hb=>by
  have hu0:=hu u σ;have hy0:=hv y σ;have hp:q*y+c<4294967296*4294967296:=by
   have h1:q*y<=4294967295*4294967295:=Nat.mul_le_mul ω ω;omega
  have hs:=aDj (q*y+c) (by decide:0<4294967296);have hd:=aDC (q*y+c) 4294967296;have hc2:(q*y+c)/4294967296<4294967296:=by
   omega
  obtain⟨k1,k2⟩:=Tu (b:=b) hu0 hs hb;have ih:=Y9 hq (us:=us) (vs:=vs) (c:=(q*y+c)/4294967296) (b:=(u+18446744073709551616- (q*y+c) %4294967296-b) %18446744073709551616/9223372036854775808) (fun x hx=>hu x γ) (fun x hx=>hv x γ) γ hc2 k1;obtain⟨i1,i2,i3,i4,i5⟩:=ih;unfold vL;generalize(u+18446744073709551616- (q*y+c) %4294967296-b) %18446744073709551616/9223372036854775808=b2 at*
  generalize(q*y+c)/4294967296=c2 at*
  generalize vL q us vs c2 b2=r at*
  refine⟨?_,i2,i3,fun x hx=>?_,by grind⟩
  ·grind[ab,aDw,aC6,aC9,Nat.mul_add,Nat.mul_left_comm]
  ·rcases List.mem_cons.1 hx with rfl|hx
   ·omega
   ·exact i4 x hx
 |[],_::_,_,_,_,_,h,_,_=>by grind
 |_::_,[],_,_,_,_,h,_,_=>by grind
def qu(q top:Nat)(us vs:List Nat):List Nat×Nat×Bool:=
 ((vL q us vs 0 0).1,(top+18446744073709551616- (vL q us vs 0 0).2.1- (vL q us vs 0 0).2.2) %18446744073709551616%4294967296,decide ((top+18446744073709551616- (vL q us vs 0 0).2.1- (vL q us vs 0 0).2.2) %18446744073709551616/9223372036854775808=1))
theorem Tv{q:Nat}{vs:List Nat}(hq:q<4294967296)(ht:top<4294967296)(hu:Lb us)(hv:Lb vs)(hl:us.length=vs.length):
  (ab us+4294967296^vs.length*top+(if(qu q top us vs).2.2=true then 4294967296^vs.length*4294967296 else 0)=ab (qu q top us vs).1+4294967296^vs.length*(qu q top us vs).2.1+q*ab vs)/\(qu q top us vs).2.1<4294967296/\Lb (qu q top us vs).1/\(qu q top us vs).1.length=vs.length:=by
 obtain⟨h1,h2,h3,h4,h5⟩:=Y9 hq hu hv hl (c:=0) (b:=0) δ δ;unfold qu;generalize vL q us vs 0 0=r at*
 obtain⟨r1,c,b⟩:=r;refine⟨?_,aDj _ δ,h4,h5⟩;obtain⟨k1,k2⟩:=Tu (u:=top) (s:=c) (b:=b) ht h2 h3;generalize(top+18446744073709551616-c-b) %18446744073709551616/9223372036854775808=f at*
 generalize(top+18446744073709551616-c-b) %18446744073709551616%4294967296=t2 at*
 have e1:4294967296^vs.length*(c+b)+4294967296^vs.length*t2=4294967296^vs.length*top+4294967296^vs.length*4294967296*f:=by
  grind
 grind
def CH(top:Nat)(us:List Nat):Nat:=(top*4294967296+us.getD (us.length-1) 0)*4294967296+us.getD (us.length-2) 0
def Bm(vs:List Nat):Nat:=vs.getD (vs.length-1) 0*4294967296+vs.getD (vs.length-2) 0
def Aa(top:Nat)(us vs:List Nat):List Nat×Nat×Nat:=
 if(qu (yS (CH top us) (Bm vs)) top us vs).2.2=true then
  (dH (qu (yS (CH top us) (Bm vs)) top us vs).1 vs vs.length,((qu (yS (CH top us) (Bm vs)) top us vs).2.1+fw (qu (yS (CH top us) (Bm vs)) top us vs).1 vs vs.length) %4294967296,yS (CH top us) (Bm vs)-1)
 else((qu (yS (CH top us) (Bm vs)) top us vs).1,(qu (yS (CH top us) (Bm vs)) top us vs).2.1,yS (CH top us) (Bm vs))
theorem Za{l:List Nat}{k:Nat}(h:l.length=k+2):ab l=(l.getD (k+1) 0*4294967296+l.getD k 0)*4294967296^k+ab (l.take k):=by
 have h1:=fX l (k+1);have h2:=fX l k;grind
theorem ahL{vs:List Nat}{k:Nat}(ht:top<4294967296)(hu:Lb us)(hv:Lb vs)(hul:us.length=k+2)(hvl:vs.length=k+2)(hn:2147483648<=vs.getD (k+1) 0)(hlt:ab us+4294967296^ (k+2)*top<4294967296*ab vs):
  ab (Aa top us vs).1+4294967296^ (k+2)*(Aa top us vs).2.1=(ab us+4294967296^ (k+2)*top) %ab vs/\(Aa top us vs).2.2=(ab us+4294967296^ (k+2)*top)/ab vs/\Lb (Aa top us vs).1/\(Aa top us vs).1.length=k+2/\(Aa top us vs).2.1<4294967296:=by
 obtain⟨W,hW⟩:∃W,ab us+4294967296^ (k+2)*top=W:=⟨_,rfl⟩;obtain⟨V,hV⟩:∃V,ab vs=V:=⟨_,rfl⟩;have a1:=Za hul;have a2:=Za hvl;have l1:=di (gH hu k);have l2:=di (gH hv k);rw[aCW,aDx ω]at l1 l2;have hT:W=CH top us*4294967296^k+ab (us.take k):=by
  unfold CH;grind
 have hV2:V=Bm vs*4294967296^k+ab (vs.take k):=by
  grind[Bm]
 rw[hW]at hlt⊢;rw[hV]at hlt⊢;obtain⟨g1,g2⟩:=akT hT hV2 l1 l2 (show Bm vs=vs.getD (k+1) 0*4294967296+vs.getD k 0 by grind[Bm]) hn hlt;have hgb:yS (CH top us) (Bm vs)<4294967296:=by
  grind[yS,CH,Bm,Nat.min_le_left]
 unfold Aa;generalize yS (CH top us) (Bm vs)=g at*
 obtain⟨t1,t2,t3,t4⟩:=Tv (q:=g) hgb ht hu hv ω;generalize qu g top us vs=r at*
 obtain⟨r1,r2,f⟩:=r;simp only at t1 t2 t3 t4⊢;rw[hvl,hW,hV]at t1;rw[hvl]at t4;have hVp:0<V:=by
  omega
 have hdm:=aDC W V;have hml:=aDj W hVp;have hVb:V<4294967296^ (k+2):=by grind[di]
 have hrb:ab r1<4294967296^ (k+2):=by grind[di]
 generalize hB:4294967296^ (k+2)=b at*
 cases f with
 |false=>
  simp only[aDy,if_false,aDm]at t1⊢;have h1:g<=W/V:=(Nat.le_div_iff_mul_le hVp).2 ω;have h2:g=W/V:=Nat.le_antisymm h1 g1;refine⟨?_,h2,t3,t4,t2⟩;rw[h2,aC6 (W/V) V]at t1;omega
 |true=>
  simp only[if_true]at t1⊢;have hbr:b*r2+ab r1<b*4294967296:=by
   have h1:b*(r2+1)<=b*4294967296:=aDD b ω;rw[Nat.mul_add,Nat.mul_one]at h1;omega
  have h1:¬g<=W/V:=fun h=>by
   have:=(Nat.le_div_iff_mul_le hVp).1 h;omega
  have h2:g=W/V+1:=ω
  have s1:=Jz r1 vs (k+2);rw[hB,aCX ω,aCX ω,hV]at s1;have s2:=SP r1 vs (k+2);have s3:(dH r1 vs (k+2)).length=k+2:=by unfold dH;rw[List.length_map,List.length_range]
  have s4:ab (dH r1 vs (k+2))<b:=by
   have:=di s2;rw[s3,hB]at this;exact this
  rw[hvl];refine⟨?_,by show g-1=W/V;rw[h2,Nat.add_sub_cancel],s2,s3,aDj _ δ⟩;rw[h2,aC8,Nat.one_mul,aC6 (W/V) V]at t1;have e1:ab (dH r1 vs (k+2))+b*(fw r1 vs (k+2)+r2)=b*4294967296+W%V:=by
   rw[Nat.mul_add];omega
  have hc:fw r1 vs (k+2)+r2=4294967296:=by
   have h3:¬fw r1 vs (k+2)+r2<4294967296:=fun h=>by
    have h4:b*(fw r1 vs (k+2)+r2+1)<=b*4294967296:=aDD b h;rw[Nat.mul_add b _ 1,Nat.mul_one]at h4;omega
   have h5:¬4294967296<fw r1 vs (k+2)+r2:=fun h=>by
    have h4:b*(4294967296+1)<=b*(fw r1 vs (k+2)+r2):=aDD b h;omega
   omega
  rw[hc]at e1;rw[Nat.add_comm r2,hc,Nat.mod_self,Nat.mul_zero];omega
def qN(u:List Nat)(j:Nat)(us:List Nat)(top:Nat):List Nat:=u.take j++(us++top::u.drop (j+us.length+1))
def Bn(vs:List Nat):Nat->List Nat->List Nat×List Nat
 |0,u=>(u,[])
 |j+1,u=>((Bn vs j (qN u j (Aa (u.getD (j+vs.length) 0) ((u.drop j).take vs.length) vs).1 (Aa (u.getD (j+vs.length) 0) ((u.drop j).take vs.length) vs).2.1)).1,
   (Bn vs j (qN u j (Aa (u.getD (j+vs.length) 0) ((u.drop j).take vs.length) vs).1 (Aa (u.getD (j+vs.length) 0) ((u.drop j).take vs.length) vs).2.1)).2++[(Aa (u.getD (j+vs.length) 0) ((u.drop j).take vs.length) vs).2.2])
theorem He(l:List Nat)(i:Nat)(h:i<=l.length):ab l=ab (l.take i)+4294967296^i*ab (l.drop i):=by
 grind[ez,List.take_append_drop,aCW,aDx]
theorem akU(l:List Nat)(x:Nat):ab (l++[x])=ab l+4294967296^l.length*x:=by
 rw[ez];show _+_*(x+4294967296*0)=_;grind
theorem acq(hu:Lb u)(hl:j+n<u.length)(hV:V<4294967296^n)(h:ab (u.drop (j+1))<V):
  ab ((u.drop j).take n)+4294967296^n*u.getD (j+n) 0=ab (u.drop j)/\ab (u.drop (j+n+1))=0/\ab (u.drop j)<4294967296*V:=by
 have h0:=gA u j;have hj:=bZ hu j;have h1:=He (u.drop j) (n+1) γ;rw[List.drop_drop,fX]at h1;have h2:(u.drop j).getD n 0=u.getD (j+n) 0:=by
  grind
 rw[h2,show j+(n+1)=j+n+1 by omega]at h1;have h4:ab (u.drop (j+n+1))=0:=by
  refine Nat.eq_zero_of_not_pos fun hp=>?_;have:4294967296^ (n+1)*1<=4294967296^ (n+1)*ab (u.drop (j+n+1)):=aDD _ hp;omega
 grind
theorem Gk(h:j+us.length<u.length):(qN u j us top).length=u.length:=by
 grind[qN,aDA,aDp,aCW,aDL]
theorem Tw(hu:Lb u)(hs:Lb us)(ht:top<4294967296):Lb (qN u j us top):=by
 grind[qN,mN,ig,gH,lZ]
theorem LW(h:j<=u.length):(qN u j us top).drop j=us++top::u.drop (j+us.length+1):=by
 unfold qN;rw[List.drop_append_of_le_length (by rw[aCW];omega),List.drop_of_length_le (by rw[aCW];omega),aCT]
theorem ahM(h:j<=u.length):(qN u j us top).take j=u.take j:=by
 unfold qN;rw[List.take_append_of_le_length (by rw[aCW];omega),List.take_take,Nat.min_self]
theorem w2'{s2:Nat}(h:ab (u.drop (j+n+1))=0):ab (s2::u.drop (j+n+1))=s2:=by
 simp_all[ab,Nat.mul_zero,aDm]
theorem ahN{vs:List Nat}{k:Nat}(hv:Lb vs)(hvl:vs.length=k+2)(hn:2147483648<=vs.getD (k+1) 0):
  ∀ (j:Nat) (u:List Nat),Lb u->j+(k+2)<=u.length->ab (u.drop j)<ab vs->ab u=ab (Bn vs j u).1+ab vs*ab (Bn vs j u).2/\ab (Bn vs j u).1<ab vs/\(Bn vs j u).2.length=j/\(Bn vs j u).1.length=u.length/\Lb (Bn vs j u).1/\Lb (Bn vs j u).2
 |0,u,hu,_,h=>by
  refine⟨?_,h,rfl,rfl,hu,fun x hx=>(nomatch hx)⟩;show ab u=ab u+ab vs*0;omega
 |j+1,u,hu,hl,h=>by
  have hVb:ab vs<4294967296^ (k+2):=by grind[di]
  obtain⟨w1,w2,w3⟩:=acq (n:=k+2) hu ω hVb h;have hlen:((u.drop j).take (k+2)).length=k+2:=γ
  have hs:=ahL (top:=u.getD (j+(k+2)) 0) (bZ hu _) (gH (lZ hu j) (k+2)) hv hlen hvl hn ω;rw[w1]at hs;unfold Bn;rw[hvl];generalize Aa (u.getD (j+(k+2)) 0) ((u.drop j).take (k+2)) vs=s at*
  obtain⟨s1,s2,s3⟩:=s;obtain⟨d1,d2,d3,d4,d5⟩:=hs;simp only at d1 d2 d3 d4 d5⊢;have hd:ab ((qN u j s1 s2).drop j)=ab (u.drop j) %ab vs:=by
   grind[LW,ez,w2']
  have hVp:0<ab vs:=ω
  have ih:=ahN hv hvl hn j (qN u j s1 s2) (Tw hu d3 d5) (by grind[Gk]) (by simp_all[aDj]);obtain⟨i1,i2,i3,i4,i5,i6⟩:=ih;have hval:=He (qN u j s1 s2) j (by grind[Gk]);rw[ahM ω,hd]at hval;have hval2:=He u j ω;generalize Bn vs j (qN u j s1 s2)=r at*
  obtain⟨r1,r2⟩:=r;refine⟨?_,i2,by grind,by rw[i4,Gk ω],i5,?_⟩
  ·grind[akU,Nat.mul_add,aDC,ab,Nat.mul_left_comm,Nat.add_comm]
  ·rw[mN];refine⟨i6,fun x hx=>?_⟩
   simp_all[Nat.div_lt_iff_lt_mul]
attribute [-go_sem] Qm MH in
theorem afd{v T:Nat}(hV:V=v*4294967296+w)(hv:2147483648<=v)(hvb:v<4294967296)(hw:w<4294967296)(h3:third<4294967296):
  ∀ (k q rest:Nat),4294967296<=rest+k*2147483648->q<=4294967295->rest<8589934592->T=(q*v+rest)*4294967296+third->∀ (s:ap) (h:ae),s 0=W q->s 1=W rest->s 2=U third->s 3=U v->s 4=U w->
  ∃hh,ak 0 [0] (av (am R (az false) iJ) [0,1,2,3,4] [] s h)=some (.normal,⟨upd bk 0 (W (min q (T/V):Nat)),hh⟩):=by
 intro k;induction k with
 |zero=>
  intro q rest hk hq hr hT s h g0 g1 g2 g3 g4;have hs:=(Y8 (q:=q) hT hV ω hw ω).2 (fun h=>by omega);have e1:((rest:Int)<4294967296)=False:=ff;rw[aDx hs,ah];refine⟨fun _=>.dead,?_⟩;simp only[iJ,go_sem,g0,g1,g2,g3,g4,e1]
 |succ k ih=>
  intro q rest hk hq hr hT s h g0 g1 g2 g3 g4;have hd:=Y8 (q:=q) hT hV ω hw ω;by_cases hlt:rest<4294967296
  ·have e1:((rest:Int)<4294967296)=True:=tt;have hqw:q*w<=4294967295*4294967295:=Nat.mul_le_mul hq ω;have e2:IntKind.u64.wrap ((q:Int)*(w:Int))=((q*w:Nat):Int):=dG σ ω;have e3:=G5 (n:=rest) (k:=32) (i:=(rest:Int)) (kk:=.u64) (j:=32) rfl rfl δ ω;have e4:=Pd (m:=rest*2^32) (n:=third) (i:=((rest*2^32:Nat):Int)) (j:=(third:Int)) rfl rfl ω ω;rw[Gb (x:=rest) (c:=third) (k:=32) ω]at e4;have e5:IntKind.u64.wrap (third:Int)=third:=dG rfl ω;have e6:IntKind.u64.wrap (w:Int)=w:=dG rfl ω;have e7:IntKind.u64.wrap (v:Int)=v:=dG rfl ω;by_cases hc:rest*4294967296+third<q*w
   ·have e8:(((rest*2^32+third:Nat):Int)< ((q*w:Nat):Int))=True:=tt;have hq1:1<=q:=Nat.pos_of_ne_zero fun h0=>by grind
    have e9:IntKind.u64.wrap ((q:Int)-1)=((q-1:Nat):Int):=dG ω ω;have e10:IntKind.u64.wrap ((rest:Int)+(v:Int))=((rest+v:Nat):Int):=dG σ ω;have hT2:T=((q-1)*v+(rest+v))*4294967296+third:=by
     rw[hT,Nat.sub_mul,Nat.one_mul];have:v<=q*v:=Nat.le_mul_of_pos_left v hq1;omega
    have ih':=ih (q-1) (rest+v) ω ω ω hT2;have hm:min q (T/V)=min (q-1) (T/V):=ω
    rw[hm,ah];simp only[iJ,go_sem,g0,g1,g2,g3,g4,e1,e2,e3,e4,e5,e6,e7,e8,e9,e10];exact ih' _ _ rfl rfl rfl rfl rfl
   ·have e8:(((rest*2^32+third:Nat):Int)< ((q*w:Nat):Int))=False:=ff;have hs:=hd.2 (fun h=>hc h.2);rw[aDx hs,ah];refine⟨fun _=>.dead,?_⟩;simp only[iJ,go_sem,g0,g1,g2,g3,g4,e1,e2,e3,e4,e5,e6,e8]
  ·have hs:=hd.2 (fun h=>hlt h.1);have e1:((rest:Int)<4294967296)=False:=ff;rw[aDx hs,ah];refine⟨fun _=>.dead,?_⟩;simp only[iJ,go_sem,g0,g1,g2,g3,g4,e1]
theorem anO{q v T:Nat}(hV:V=v*4294967296+w)(hv:2147483648<=v)(hvb:v<4294967296)(hw:w<4294967296)(h3:third<4294967296)(hq:q<=4294967295)(hr:rest<8589934592)(hT:T=(q*v+rest)*4294967296+third)(s:ap)(h:ae)(X:Option (Ex×St))(hX:ak 0 [0] (av (am R (az false) iJ) [0,1,2,3,4] [] s h)=X)(g0:s 0=W q)(g1:s 1=W rest)(g2:s 2=U third)(g3:s 3=U v)(g4:s 4=U w):
  ∃hh,X=some (.normal,⟨upd bk 0 (W (min q (T/V):Nat)),hh⟩):=by
 subst hX;exact afd hV hv hvb hw h3 2 q rest ω hq hr hT s h g0 g1 g2 g3 g4
theorem Zb{q v T:Nat}(hV:V=v*4294967296+w)(hv:2147483648<=v)(hvb:v<4294967296)(hw:w<4294967296)(h3:third<4294967296)(hq:q<=4294967295)(hr:rest<8589934592)(hT:T=(q*v+rest)*4294967296+third):
  R fcA [W q,W rest,U third,U v,U w] []=some (W (min q (T/V):Nat),[]):=by
 refine au QW rfl ?_;have hl:=anO hV hv hvb hw h3 hq hr hT;simp only[AA,GZ,go_sem];generalize hX:ak 0 _ _=X;obtain⟨hh,rfl⟩:=hl _ _ _ hX rfl rfl rfl rfl rfl;simp only[go_sem]
attribute [-go_sem] Qm MH in
theorem akV{next v:Nat}(hv:2147483648<=v)(hvb:v<4294967296)(ht:top<=v)(hn:next<4294967296)(h3:third<4294967296)(hw:w<4294967296):
  R fcE [U top,U next,U third,U v,U w] []=some (W (yS ((top*4294967296+next)*4294967296+third) (v*4294967296+w):Nat),[]):=by
 refine au QU rfl ?_;rw[←abd ω hvb ht hn h3];have c1:IntKind.u64.wrap (next:Int)=next:=dG rfl ω
 have c2:IntKind.u64.wrap (v:Int)=v:=dG rfl ω;have c3:IntKind.u64.wrap (top:Int)=top:=dG rfl ω;by_cases h:v<=top
 ·have e1:((v:Int)<=(top:Int))=True:=tt;rw[if_pos h];have e2:IntKind.u32.wrap ((top:Int)- (v:Int))=0:=by
   rw[show(top:Int)- (v:Int)=0 by omega];rfl
  have e3:IntKind.u64.wrap 0=0:=rfl;have e4:=G5 (n:=0) (k:=32) (i:=0) (kk:=.u64) (j:=32) rfl rfl δ δ;have e5:IntKind.u64.wrap (0+(next:Int))=next:=dG ω ω
  have e6:IntKind.u64.wrap ((next:Int)+(v:Int))=((next+v:Nat):Int):=dG σ ω;have hd:=Zb (q:=4294967295) (rest:=next+v) (third:=third) (v:=v) (w:=w) (T:=(top*4294967296+next)*4294967296+third) rfl hv hvb hw h3 δ ω (by
   omega)
  have e7:(((4294967295:Nat):Int))=4294967295:=rfl;rw[e7]at hd;rw[Nat.zero_mul]at e4;simp only[aDf]at e4;simp only[uF,go_sem,e1,e2,e3,e4,e5,e6,c1,c2,hd]
 ·have e1:((v:Int)<=(top:Int))=False:=ff;rw[if_neg h];have e4:=G5 (n:=top) (k:=32) (i:=(top:Int)) (kk:=.u64) (j:=32) rfl rfl δ ω;have e5:=Pd (m:=top*2^32) (n:=next) (i:=((top*2^32:Nat):Int)) (j:=(next:Int)) rfl rfl ω ω;rw[Gb (x:=top) (c:=next) (k:=32) ω,show top*2^32+next=top*4294967296+next from rfl]at e5;obtain⟨N,hN⟩:∃N,top*4294967296+next=N:=⟨_,rfl⟩
  rw[hN]at e5⊢;have hNb:N<18446744073709551616:=ω
  have e6:eX .quo (W N) (W v)=some (W (N/v:Nat)):=by
   rw[R9,if_neg ω,Int.tdiv_eq_ediv_of_nonneg ω];have:N/v<=N:=Nat.div_le_self _ _;grind[dG]
  have e7:eX .rem (W N) (W v)=some (W (N%v:Nat)):=by
   rw[MG,if_neg ω,Int.tmod_eq_emod_of_nonneg ω];rfl
  have hm:=aDj N (show 0<v by omega);have hq:N/v<=4294967295:=by
   have:N/v<4294967296:=by
    rw[Nat.div_lt_iff_lt_mul ω];omega
   omega
  have hd:=Zb (q:=N/v) (rest:=N%v) (third:=third) (v:=v) (w:=w) (T:=N*4294967296+third) rfl hv hvb hw h3 hq ω (by
   rw[aC6 (N/v) v,aDC])
  simp only[uF,go_sem,e1,e4,e5,e6,e7,c1,c2,c3,hd]
end Go.Ab
