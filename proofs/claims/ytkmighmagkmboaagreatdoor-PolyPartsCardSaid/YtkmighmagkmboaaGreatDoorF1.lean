/-
  A law of polynomials holds at every input that the statement speaks of, under the conditions that its card names. Part F1.
-/
import Derived.Test.YtkmighmagkmboaaGreatDoorE1
open Nat renaming reduceEqDiff → aez, reduceAdd → aeA, reduceMul → aeB, reduceLeDiff → aeC, reduceBEq → aeD, reduceLT → aeE, reduceSub → axe, reduceMod → axf
open Int renaming reduceEq → axg, reduceLT → aiy, reduceToNat → aiz, reduceLE → axh
namespace Go.Ab
open Go Go.IntWalk
set_option maxRecDepth 4000
set_option maxHeartbeats 1000000
theorem arQ {a:List Nat} (ha:Lb a) {n q:Nat} (h1:a.length≤100000) (hq:q≤100000):∀ (k i:Nat),i+k=a.length→∀ (s:af) (h:aa),s 0=lm a→s 1=I (n:Nat)→s 5=.rsl 11 none 1 0 (q+i)→s 6=W (fW a (n % 32) i:Nat)→s 7=I i →
  h 11=.ar 1 (aP (List.replicate q 0++nP a (n % 32) i))→h 34=.dead →
  aI 0 [5,6] (aU (az R (ab false) ajW) [0,1,5,6,7] [11,34] s h) =
   some (.normal,⟨upd (upd (fun _=>.any) 6 (W (fW a (n % 32) a.length:Nat))) 5 (.rsl 11 none 1 0 (q+a.length)),upd (upd (fun _=>.dead) 34 .dead) 11 (.ar 1 (aP (List.replicate q 0++nP a (n % 32) a.length)))⟩):=by
 intro k
 induction k with
 | zero =>
  intro i hi s h h0 g1 h5 h6 h7 hh hh2
  have:i=a.length:=by omega
  subst this
  rw [aA]
  simp only [ajW,go_sem,↓reduceIte,aez,aeD,h0,g1,h5,h6,h7,hh,hh2,Int.lt_irrefl]
 | succ k ih =>
  intro i hi s h h0 g1 h5 h6 h7 hh hh2
  have ih':=ih (i+1) (by omega)
  have hx:=dQ ha i
  have hr:n % 32 < 32:=Nat.mod_lt _ (by omega)
  have hc:=Bq ha (r:=n % 32) i
  have hp:2 ^ (n % 32)≤2 ^ 31:=Nat.pow_le_pow_right (by omega) (by omega)
  have hxp:a.getD i 0*2 ^ (n % 32)≤4294967295*2 ^ 31:=Nat.mul_le_mul (by omega) hp
  have e1:((i:Int) < (a.length:Int))=True:=tt (by omega)
  have e2:bH (aP a) (i:Int)=some (.ipt [U (a.getD i 0:Nat)]):=df rfl (by omega)
  have e3:IntKind.i64.wrap ((i:Int)+1)=((i+1:Nat):Int):=wi (by omega) (by omega)
  have e4:IntKind.u64.wrap (a.getD i 0:Int)=(a.getD i 0:Int):=pf rfl (by omega)
  have e5:=IS (n:=n) (m:=32) (j:=32) rfl rfl (by omega)
  have e5':IntKind.u64.wrap ((n % 32:Nat):Int)=((n % 32:Nat):Int):=pf rfl (by omega)
  have e6:=PI (n:=a.getD i 0) (k:=n % 32) (kk:=.u64) (j:=((n % 32:Nat):Int)) rfl rfl (by omega) (by omega)
  have e7:=Sl (m:=a.getD i 0*2 ^ (n % 32)) (n:=fW a (n % 32) i) rfl rfl (by omega) (by omega)
  rw [L5 hc] at e7
  have e10:=ajB (n:=a.getD i 0*2 ^ (n % 32)+fW a (n % 32) i) rfl (by omega)
  have e8:IntKind.u32.wrap (((a.getD i 0*2 ^ (n % 32)+fW a (n % 32) i) % 4294967296:Nat):Int)=(((a.getD i 0*2 ^ (n % 32)+fW a (n % 32) i) % 4294967296:Nat):Int):=PF rfl (by omega)
  have e9:=xT (n:=a.getD i 0*2 ^ (n % 32)+fW a (n % 32) i) (k:=32) (kk:=.u64) (j:=32) rfl rfl (by omega)
  have f1:aP (List.replicate q 0++nP a (n % 32) i)++[[U ((a.getD i 0*2 ^ (n % 32)+fW a (n % 32) i) % 4294967296:Nat)]]=aP (List.replicate q 0++nP a (n % 32) (i+1)):=by
   rw [show [[U ((a.getD i 0*2 ^ (n % 32)+fW a (n % 32) i) % 4294967296:Nat)]]=aP [(a.getD i 0*2 ^ (n % 32)+fW a (n % 32) i) % 4294967296] from rfl,Bm,List.append_assoc]
   simp [nP,List.range_succ]
  have f2:(q+i=(List.replicate q 0++nP a (n % 32) i).length)=True:=tt (by simp [qS])
  have f3:((q+i+1)*4≤140737488355328)=True:=tt (by omega)
  rw [aA]
  generalize aU _ _ _=L at ih' ⊢
  simp only [ajW,go_sem,↓reduceIte,aez,aeC,aeE,aeD,h0,g1,h5,h6,h7,hh,hh2,e1,e2,e3,e4,e5,e5',e6,e7,e8,e9,e10,f1,f2,f3,true_or,Nat.zero_add,Nat.le_refl]
  exact ih' _ _ rfl rfl rfl rfl rfl rfl rfl
theorem aoB {a:List Nat} (ha:Lb a) {n:Nat} (h1:a.length≤10000) (hn:n≤100000):R F.r02_left [lm a,I n] []=some (lm (av (ac a*2 ^ n)),[]):=by
 refine aZ aqi aqh (anG false) rfl ?_
 have hc:=Bq ha (r:=n % 32) a.length
 have hp:2 ^ (n % 32)≤2 ^ 31:=Nat.pow_le_pow_right (by omega) (by have:n % 32 < 32:=Nat.mod_lt _ (by omega); omega)
 have e1:=IT (n:=n) (m:=32) (j:=32) rfl rfl (by omega) (by omega)
 have e4:=qm (i:=((n / 32:Nat):Int)) (j:=((n / 32:Nat):Int)) rfl rfl (Nat.le_refl _) (by omega)
 have e5:(n / 32*4≤140737488355328)=True:=tt (by omega)
 have e6:=arQ ha (n:=n) (q:=n / 32) (by omega) (by omega) a.length 0 (by omega)
 have e7:aP (List.replicate (n / 32) 0)=aP (List.replicate (n / 32) 0++nP a (n % 32) 0):=by simp [nP]
 have e8:IntKind.u32.wrap ((fW a (n % 32) a.length:Nat):Int)=((fW a (n % 32) a.length:Nat):Int):=PF rfl (by omega)
 have hall:=Qw ha n
 have f1:aP (List.replicate (n / 32) 0++nP a (n % 32) a.length)++[[U (fW a (n % 32) a.length:Nat)]]=aP (dj (n / 32+a.length+1) (ac a*2 ^ n)):=by
  rw [← hall,show [[U (fW a (n % 32) a.length:Nat)]]=aP [fW a (n % 32) a.length] from rfl,Bm]
 have f2:(n / 32+a.length=(List.replicate (n / 32) 0++nP a (n % 32) a.length).length)=True:=tt (by simp [qS])
 have f3:((n / 32+a.length+1)*4≤140737488355328)=True:=tt (by omega)
 have ht:=akk (py (n / 32+a.length+1) (ac a*2 ^ n)) (by rw [ct]; omega)
 have hv:ac (dj (n / 32+a.length+1) (ac a*2 ^ n))=ac a*2 ^ n:=by
  rw [pz,Nat.mod_eq_of_lt]
  have h:=ju ha
  have h2:2 ^ n≤4294967296 ^ (n / 32+1):=by
   rw [show (4294967296:Nat)=2 ^ 32 from rfl,← Nat.pow_mul]
   exact Nat.pow_le_pow_right (by omega) (by omega)
  rw [show n / 32+a.length+1=a.length+(n / 32+1) from by omega,Nat.pow_add]
  exact Nat.mul_lt_mul_of_lt_of_le h h2 (Nat.pow_pos (by omega))
 rw [hv] at ht
 have f4:(aP (dj (n / 32+a.length+1) (ac a*2 ^ n))).take (n / 32+a.length+1)=aP (dj (n / 32+a.length+1) (ac a*2 ^ n)):=by
  rw [List.take_of_length_le]
  rw [ab4,ct]
  exact Nat.le_refl _
 simp only [akp,ame,go_sem,↓reduceIte,aez,e1,e4,e5,tJ,e7]
 rw [e6 _ _ rfl rfl rfl rfl rfl rfl rfl]
 simp only [go_sem,↓reduceIte,aez,aeB,aeA,aeC,aeE,e8,f1,f2,f3,f4,true_or,Nat.zero_add,Nat.le_refl,ct,ht]
def l4 (d:Nat) (out:List Nat) (x:AV) (o:Ob):Prop:=(out=[]∧x=.emp∧o=.dead)∨(0 < out.length∧x=.rsl d none 1 0 out.length∧o=.ar 1 (aP out))
theorem ajd {d v:Nat}:l4 d ([]++[v]) (.rsl d none 1 0 1) (.ar 1 [[U (v:Nat)]]):=Or.inr ⟨by simp,rfl,rfl⟩
theorem aiY {d v:Nat} {out:List Nat}:l4 d (out++[v]) (.rsl d none 1 0 (out.length+1)) (.ar 1 (aP (out++[v]))):=Or.inr ⟨by simp,by rw [List.length_append]; rfl,rfl⟩
theorem aiM (out:List Nat) (v:Nat):aP out++[[U (v:Nat)]]=aP (out++[v]):=by simp [aP]
theorem ana (a:List Nat) (r i:Nat):pG a r (i+1)=pG a r i++[uS a r i]:=by simp [pG,List.range_succ]
theorem aqE {a:List Nat} (ha:Lb a) {n:Nat} (h1:a.length≤100000):∀ (k i:Nat),i+k=a.length→∀ (s:af) (h:aa),s 0=lm a→s 1=I (n:Nat)→s 6=I i→l4 51 (pG a (n % 32) i) (s 5) (h 51) →
  ∃ x hh,aI 0 [5] (aU (az R (ab false) aie) [0,1,5,6] [51] s h)=some (.normal,⟨upd (fun _=>.any) 5 x,hh⟩)∧l4 51 (pG a (n % 32) a.length) x (hh 51)∧∀ a,a ≠ 51→hh a=.dead:=by
 intro k
 induction k with
 | zero =>
  intro i hi s h h0 g1 h6 hacc
  have:i=a.length:=by omega
  subst this
  rw [aA]
  rcases hacc with ⟨g2,h5,hh⟩ | ⟨g2,h5,hh⟩
  ·refine ⟨.emp,?hh0,?_,Or.inl ⟨g2,rfl,?_⟩,?_⟩
   rotate_left
   ·simp only [aie,go_sem,↓reduceIte,aez,h0,g1,h5,h6,hh,Int.lt_irrefl]
    rfl
   ·rfl
   ·intro b hb
    simp only [jg,hb,if_false]
  ·refine ⟨.rsl 51 none 1 0 (pG a (n % 32) a.length).length,?hh1,?_,Or.inr ⟨g2,rfl,?_⟩,?_⟩
   rotate_left
   ·simp only [aie,go_sem,↓reduceIte,aez,aeD,h0,g1,h5,h6,hh,Int.lt_irrefl]
    rfl
   ·rfl
   ·intro b hb
    simp only [jg,hb,if_false]
 | succ k ih =>
  intro i hi s h h0 g1 h6 hacc
  have ih':=ih (i+1) (by omega)
  have hx:=dQ ha i
  have hy:=dQ ha (i+1)
  have hr:n % 32 < 32:=Nat.mod_lt _ (by omega)
  have e1:((i:Int) < (a.length:Int))=True:=tt (by omega)
  have e2:bH (aP a) (i:Int)=some (.ipt [U (a.getD i 0:Nat)]):=df rfl (by omega)
  have e3:IntKind.i64.wrap ((i:Int)+1)=((i+1:Nat):Int):=wi (by omega) (by omega)
  have e4:IntKind.u64.wrap (a.getD i 0:Int)=(a.getD i 0:Int):=pf rfl (by omega)
  have e5:=IS (n:=n) (m:=32) (j:=32) rfl rfl (by omega)
  have e5':IntKind.u64.wrap ((n % 32:Nat):Int)=((n % 32:Nat):Int):=pf rfl (by omega)
  have q1:((pG a (n % 32) i).length+1)*4≤140737488355328:=by rw [pU]; omega
  have f3:=tt q1
  have hlt:∀ w:Nat,w < 18446744073709551616→w / 2 ^ (n % 32) < 18446744073709551616:=fun w hw=>Nat.lt_of_le_of_lt (Nat.div_le_self _ _) hw
  rw [aA]
  rw [ana] at ih'
  generalize aU _ _ _=L at ih' ⊢
  by_cases hl:i+1 < a.length
  ·have f1:(((i+1:Nat):Int) < (a.length:Int))=True:=tt (by omega)
   have f2:bH (aP a) ((i+1:Nat):Int)=some (.ipt [U (a.getD (i+1) 0:Nat)]):=df rfl hl
   have f5:IntKind.u64.wrap (a.getD (i+1) 0:Int)=(a.getD (i+1) 0:Int):=pf rfl (by omega)
   have f6:=PI (n:=a.getD (i+1) 0) (k:=32) (kk:=.u64) (j:=32) rfl rfl (by omega) (by omega)
   have f7:=Sl (m:=a.getD i 0) (n:=a.getD (i+1) 0*2 ^ 32) rfl rfl (by omega) (by omega)
   rw [Nat.or_comm,L5 hx,show a.getD (i+1) 0*2 ^ 32+a.getD i 0=a.getD i 0+4294967296*a.getD (i+1) 0 by omega] at f7
   have f8:=xT (n:=a.getD i 0+4294967296*a.getD (i+1) 0) (k:=n % 32) (kk:=.u64) (j:=((n % 32:Nat):Int)) rfl rfl (by omega)
   have f9:=ajB (n:=(a.getD i 0+4294967296*a.getD (i+1) 0) / 2 ^ (n % 32)) rfl (hlt _ (by omega))
   rw [show (a.getD i 0+4294967296*a.getD (i+1) 0) / 2 ^ (n % 32) % 4294967296=uS a (n % 32) i from rfl] at f9
   have f10:IntKind.u32.wrap ((uS a (n % 32) i:Nat):Int)=((uS a (n % 32) i:Nat):Int):=PF rfl (Nat.mod_lt _ (by omega))
   rcases hacc with ⟨g2,h5,hh⟩ | ⟨g2,h5,hh⟩
   ·simp only [aie,go_sem,↓reduceIte,aez,aeB,aeA,aeC,aeE,h0,g1,h5,h6,hh,e1,e2,e3,e4,e5,e5',f1,f2,f5,f6,f7,f8,f9,f10]
    rw [g2] at ih'
    exact ih' _ _ rfl rfl rfl ajd
   ·simp only [aie,go_sem,↓reduceIte,aez,aeC,aeE,aeD,h0,g1,h5,h6,hh,e1,e2,e3,e4,e5,e5',f1,f2,f3,f5,f6,f7,f8,f9,f10,true_or,Nat.zero_add,Nat.le_refl,aiM]
    exact ih' _ _ rfl rfl rfl aiY
  ·have f1:(((i+1:Nat):Int) < (a.length:Int))=False:=ff (by omega)
   have hz:a.getD (i+1) 0=0:=by
    rw [List.getD_eq_getElem?_getD,List.getElem?_eq_none (by omega)]
    rfl
   have f8:=xT (n:=a.getD i 0) (k:=n % 32) (kk:=.u64) (j:=((n % 32:Nat):Int)) rfl rfl (by omega)
   have f9:=ajB (n:=a.getD i 0 / 2 ^ (n % 32)) rfl (hlt _ (by omega))
   rw [show a.getD i 0 / 2 ^ (n % 32) % 4294967296=uS a (n % 32) i by unfold uS; rw [hz,Nat.mul_zero,Nat.add_zero]] at f9
   have f10:IntKind.u32.wrap ((uS a (n % 32) i:Nat):Int)=((uS a (n % 32) i:Nat):Int):=PF rfl (Nat.mod_lt _ (by omega))
   rcases hacc with ⟨g2,h5,hh⟩ | ⟨g2,h5,hh⟩
   ·simp only [aie,go_sem,↓reduceIte,aez,aeB,aeA,aeC,aeE,h0,g1,h5,h6,hh,e1,e2,e3,e4,e5,e5',f1,f8,f9,f10]
    rw [g2] at ih'
    exact ih' _ _ rfl rfl rfl ajd
   ·simp only [aie,go_sem,↓reduceIte,aez,aeC,aeE,aeD,h0,g1,h5,h6,hh,e1,e2,e3,e4,e5,e5',f1,f3,f8,f9,f10,true_or,Nat.zero_add,Nat.le_refl,aiM]
    exact ih' _ _ rfl rfl rfl aiY
theorem ajC (m:List Nat):(aP m).take m.length=aP m:=by
 rw [List.take_of_length_le]
 rw [ab4]
 exact Nat.le_refl _
theorem arR {a:List Nat} (ha:Lb a) {n:Nat} (h1:a.length≤10000) (hn:n≤1000000):R F.r02_right [lm a,I n] []=some (lm (av (ac a / 2 ^ n)),[]):=by
 refine aZ apl apk (amK false) rfl ?_
 have e1:=IT (n:=n) (m:=32) (j:=32) rfl rfl (by omega) (by omega)
 by_cases hq:a.length≤n / 32
 ·have e2:((a.length:Int)≤((n / 32:Nat):Int))=True:=tt (by omega)
  have hz:ac a / 2 ^ n=0:=by
   rw [← xg n,← Nat.div_div_eq_div_mul,← G7 ha,List.drop_of_length_le hq]
   exact Nat.zero_div _
  rw [hz,fM]
  simp only [ajz,akY,go_sem,↓reduceIte,aez,e1,e2]
 ·have e2:((a.length:Int)≤((n / 32:Nat):Int))=False:=ff (by omega)
  have e3:dK 1 (lm a) (some (I (n / 32:Nat))) none none=some (lm (a.drop (n / 32))):=by
   rw [GY (a:=n / 32) (b:=a.length) (uQ rfl (by omega)) rfl (Nat.le_refl _),List.take_of_length_le (by rw [List.length_drop]; omega)]
  have hd:=tD ha (n / 32)
  have hl:(a.drop (n / 32)).length≤10000:=by rw [List.length_drop]; omega
  have hv:ac a / 2 ^ n=ac (a.drop (n / 32)) / 2 ^ (n % 32):=by
   rw [G7 ha,Nat.div_div_eq_div_mul,xg]
  rw [hv]
  have hr:=aqE hd (n:=n) (by omega) (a.drop (n / 32)).length 0 (Nat.zero_add _)
  simp only [Int.natCast_zero] at hr
  have hall:=Oh hd (r:=n % 32) (by have:n % 32 < 32:=Nat.mod_lt _ (by omega); omega)
  have hL:=pU (a.drop (n / 32)) (n % 32) (a.drop (n / 32)).length
  have hLb:Lb (pG (a.drop (n / 32)) (n % 32) (a.drop (n / 32)).length):=by
   rw [hall]
   exact py _ _
  have hvv:ac (pG (a.drop (n / 32)) (n % 32) (a.drop (n / 32)).length)=ac (a.drop (n / 32)) / 2 ^ (n % 32):=by
   rw [hall,pz,Nat.mod_eq_of_lt]
   exact Nat.lt_of_le_of_lt (Nat.div_le_self _ _) (ju hd)
  generalize a.drop (n / 32)=m at e3 hd hl hr hall hL hLb hvv ⊢
  have ht:=akk hLb (by rw [hL]; omega)
  rw [hvv] at ht
  have q0:l4 51 (pG m (n % 32) 0) .emp .dead:=Or.inl ⟨rfl,rfl,rfl⟩
  generalize hLL:aU (az R (ab false) aie) [0,1,5,6] [51]=L at hr
  have hX:∀ s h,az R (ab false) (.loop [0,1,5,6] [51] aie) s h=L s h:=fun s h=>by rw [← hLL]; rfl
  clear hLL
  generalize pG m (n % 32) 0=o0 at hr q0
  generalize pG m (n % 32) m.length=out at hr hall hL hLb hvv ht
  generalize av (ac m / 2 ^ (n % 32))=res at ht ⊢
  have hr2:∀ (S:af) (H:aa) (X:Option (Ex × St)),aI 0 [5] (L S H)=X→S 0=lm m→S 1=I n→S 6=I 0→S 5=.emp→H 51=.dead→∃ x hh,X=some (.normal,⟨upd (fun _=>.any) 5 x,hh⟩)∧l4 51 out x (hh 51)∧∀ a,a ≠ 51→hh a=.dead:=fun S H X hX a0 a1 a6 a5 b=>by
   rw [← hX]
   exact hr S H a0 a1 a6 (by rw [a5,b]; exact q0)
  simp only [ajz,akY,hX,go_sem,↓reduceIte,aez,e1,e2,e3]
  generalize hB:aI 0 [5] (L _ _)=X
  obtain ⟨x,hh,g0,hacc,gd⟩:=hr2 _ _ _ hB rfl rfl rfl rfl rfl
  rw [g0]
  rcases hacc with ⟨c1,c2,c3⟩ | ⟨c1,c2,c3⟩
  ·rw [c1] at ht
   simp only [go_sem,↓reduceIte,aez,aeB,aeA,c2,ht,ne_eq,not_false_eq_true,gd]
  ·simp only [go_sem,↓reduceIte,aez,aeB,aeA,c2,c3,ht,ne_eq,not_false_eq_true,gd,ajC,Nat.zero_add,Nat.le_refl]
end Go.Ab
namespace Go.Ab
open Go Go.IntWalk
set_option maxRecDepth 4000
set_option maxHeartbeats 1000000
theorem akJ {m:List Nat} {i:Nat} (h:m.length≤i):m.getD i 0=0:=by
 rw [List.getD_eq_getElem?_getD,List.getElem?_eq_none h]
 rfl
theorem anb (a b:List Nat) (i:Nat):gp a b (i+1)=gp a b i++[zT a b i]:=by simp [gp,List.range_succ]
theorem anc (a b:List Nat) (i:Nat):ki a b (i+1)=ki a b i++[zW a b i]:=by simp [ki,List.range_succ]
theorem arS {a b:List Nat} (ha:Lb a) (hb:Lb b) (h1:a.length≤100000) (h2:b.length≤100000):∀ (k i:Nat),i+k=max a.length b.length→∀ (s:af) (h:aa),s 0=lm a→s 1=lm b→s 6=W (lN a b i:Nat)→s 7=I i→l4 49 (gp a b i) (s 5) (h 49) →
  ∃ x hh,aI 0 [5,6] (aU (az R (ab false) ad5) [0,1,5,6,7] [49] s h)=some (.normal,⟨upd (upd (fun _=>.any) 6 (W (lN a b (max a.length b.length):Nat))) 5 x,hh⟩)∧l4 49 (gp a b (max a.length b.length)) x (hh 49)∧∀ a,a ≠ 49→hh a=.dead:=by
 intro k
 induction k with
 | zero =>
  intro i hi s h h0 g1 h6 h7 hacc
  have e1:((i:Int) < (a.length:Int))=False:=ff (by omega)
  have e2:((i:Int) < (b.length:Int))=False:=ff (by omega)
  have:i=max a.length b.length:=by omega
  rw [← this]
  rw [aA]
  rcases hacc with ⟨g2,h5,hh⟩ | ⟨g2,h5,hh⟩
  ·refine ⟨.emp,?hh0,?_,Or.inl ⟨g2,rfl,?_⟩,?_⟩
   rotate_left
   ·simp only [ad5,go_sem,↓reduceIte,aez,h0,g1,h5,h6,h7,hh,e1,e2]
    rfl
   ·rfl
   ·intro b hb
    simp only [jg,hb,if_false]
  ·refine ⟨.rsl 49 none 1 0 (gp a b i).length,?hh1,?_,Or.inr ⟨g2,rfl,?_⟩,?_⟩
   rotate_left
   ·simp only [ad5,go_sem,↓reduceIte,aez,aeD,h0,g1,h5,h6,h7,hh,e1,e2]
    rfl
   ·rfl
   ·intro b hb
    simp only [jg,hb,if_false]
 | succ k ih =>
  intro i hi s h h0 g1 h6 h7 hacc
  have ih':=ih (i+1) (by omega)
  have hx:=dQ ha i
  have hy:=dQ hb i
  have hc:=Bo ha hb i
  have e3:IntKind.i64.wrap ((i:Int)+1)=((i+1:Nat):Int):=wi (by omega) (by omega)
  have q1:((gp a b i).length+1)*4≤140737488355328:=by rw [gy]; omega
  have f3:=tt q1
  have e4:IntKind.u64.wrap (a.getD i 0:Int)=(a.getD i 0:Int):=pf rfl (by omega)
  have e5:IntKind.u64.wrap (b.getD i 0:Int)=(b.getD i 0:Int):=pf rfl (by omega)
  have f8:=xT (n:=a.getD i 0+b.getD i 0+lN a b i) (k:=32) (kk:=.u64) (j:=32) rfl rfl (by omega)
  rw [show (a.getD i 0+b.getD i 0+lN a b i) / 2 ^ 32=lN a b (i+1) from rfl] at f8
  have f9:=ajB (n:=a.getD i 0+b.getD i 0+lN a b i) rfl (by omega)
  rw [show (a.getD i 0+b.getD i 0+lN a b i) % 4294967296=zT a b i from rfl] at f9
  have f10:IntKind.u32.wrap ((zT a b i:Nat):Int)=((zT a b i:Nat):Int):=PF rfl (Nat.mod_lt _ (by omega))
  rw [aA]
  rw [anb] at ih'
  generalize aU _ _ _=L at ih' ⊢
  by_cases hla:i < a.length
  ·have e1:((i:Int) < (a.length:Int))=True:=tt (by omega)
   have e2:bH (aP a) (i:Int)=some (.ipt [U (a.getD i 0:Nat)]):=df rfl hla
   have w1:IntKind.u64.wrap ((lN a b i:Int)+(a.getD i 0:Int))=((a.getD i 0+lN a b i:Nat):Int):=pf (by omega) (by omega)
   by_cases hlb:i < b.length
   ·have e6:((i:Int) < (b.length:Int))=True:=tt (by omega)
    have e7:bH (aP b) (i:Int)=some (.ipt [U (b.getD i 0:Nat)]):=df rfl hlb
    have w2:IntKind.u64.wrap (((a.getD i 0+lN a b i:Nat):Int)+(b.getD i 0:Int))=((a.getD i 0+b.getD i 0+lN a b i:Nat):Int):=pf (by omega) (by omega)
    rcases hacc with ⟨g2,h5,hh⟩ | ⟨g2,h5,hh⟩
    ·simp only [ad5,go_sem,↓reduceIte,aez,aeB,aeA,aeC,aeE,h0,g1,h5,h6,h7,hh,e1,e2,e3,e4,e5,e6,e7,w1,w2,f8,f9,f10]
     rw [g2] at ih'
     exact ih' _ _ rfl rfl rfl rfl ajd
    ·simp only [ad5,go_sem,↓reduceIte,aez,aeC,aeE,aeD,h0,g1,h5,h6,h7,hh,e1,e2,e3,e4,e5,e6,e7,w1,w2,f3,f8,f9,f10,true_or,Nat.zero_add,Nat.le_refl,aiM]
     exact ih' _ _ rfl rfl rfl rfl aiY
   ·have e6:((i:Int) < (b.length:Int))=False:=ff (by omega)
    have hz:=akJ (m:=b) (i:=i) (by omega)
    have w2:((a.getD i 0+lN a b i:Nat):Int)=((a.getD i 0+b.getD i 0+lN a b i:Nat):Int):=by omega
    rw [w2] at w1
    rcases hacc with ⟨g2,h5,hh⟩ | ⟨g2,h5,hh⟩
    ·simp only [ad5,go_sem,↓reduceIte,aez,aeB,aeA,aeC,aeE,h0,g1,h5,h6,h7,hh,e1,e2,e3,e4,e6,w1,f8,f9,f10]
     rw [g2] at ih'
     exact ih' _ _ rfl rfl rfl rfl ajd
    ·simp only [ad5,go_sem,↓reduceIte,aez,aeC,aeE,aeD,h0,g1,h5,h6,h7,hh,e1,e2,e3,e4,e6,w1,f3,f8,f9,f10,true_or,Nat.zero_add,Nat.le_refl,aiM]
     exact ih' _ _ rfl rfl rfl rfl aiY
  ·have e1:((i:Int) < (a.length:Int))=False:=ff (by omega)
   have hlb:i < b.length:=by omega
   have e6:((i:Int) < (b.length:Int))=True:=tt (by omega)
   have e7:bH (aP b) (i:Int)=some (.ipt [U (b.getD i 0:Nat)]):=df rfl hlb
   have hz:=akJ (m:=a) (i:=i) (by omega)
   have w2:IntKind.u64.wrap ((lN a b i:Int)+(b.getD i 0:Int))=((a.getD i 0+b.getD i 0+lN a b i:Nat):Int):=pf (by omega) (by omega)
   rcases hacc with ⟨g2,h5,hh⟩ | ⟨g2,h5,hh⟩
   ·simp only [ad5,go_sem,↓reduceIte,aez,aeB,aeA,aeC,aeE,h0,g1,h5,h6,h7,hh,e1,e3,e5,e6,e7,w2,f8,f9,f10]
    rw [g2] at ih'
    exact ih' _ _ rfl rfl rfl rfl ajd
   ·simp only [ad5,go_sem,↓reduceIte,aez,aeC,aeE,aeD,h0,g1,h5,h6,h7,hh,e1,e3,e5,e6,e7,w2,f3,f8,f9,f10,true_or,Nat.zero_add,Nat.le_refl,aiM]
    exact ih' _ _ rfl rfl rfl rfl aiY
theorem aoC {a b:List Nat} (_ha:Lb a) (_hb:Lb b) {L:Nat} (h1:a.length≤L) (h2:b.length≤L):ac (gp a b L++[lN a b L])=ac a+ac b:=by
 have h:=G2 a b L
 rw [List.take_of_length_le h1,List.take_of_length_le h2] at h
 rw [fu,gy,← h]
 simp [ac]
theorem asO {a b:List Nat} (ha:Lb a) (hb:Lb b) (h1:a.length≤10000) (h2:b.length≤10000):R F.r02_plus [lm a,lm b] []=some (lm (av (ac a+ac b)),[]):=by
 refine aZ aql aqk (anH false) rfl ?_
 obtain ⟨M,hM⟩:∃ M,max a.length b.length=M:=⟨_,rfl⟩
 have hr:=arS ha hb (by omega) (by omega) M 0 (by omega)
 simp only [Int.natCast_zero] at hr
 rw [hM] at hr
 have hsv:=aoC ha hb (L:=M) (by omega) (by omega)
 have hc:=Bo ha hb M
 have hL:=gy a b M
 have hLb:=Qu a b M
 have q0:l4 49 (gp a b 0) .emp .dead:=Or.inl ⟨rfl,rfl,rfl⟩
 have c0:lN a b 0=0:=rfl
 rw [c0] at hr
 simp only [Int.natCast_zero] at hr
 generalize gp a b 0=o0 at hr q0
 generalize gp a b M=out at hr hsv hL hLb
 generalize lN a b M=c at hr hsv hc
 have ht:=akk (m:=out++[c]) (nN.2 ⟨hLb,eX.2 ⟨by omega,AY⟩⟩) (by rw [List.length_append]; simp; omega)
 rw [hsv] at ht
 have e8:IntKind.u32.wrap (c:Int)=(c:Int):=PF rfl (by omega)
 have q1:(out.length+1)*4≤140737488355328:=by omega
 have f3:=tt q1
 have f4:=ajC (out++[c])
 rw [show (out++[c]).length=out.length+1 by simp] at f4
 generalize av (ac a+ac b)=res at ht ⊢
 generalize hLL:aU (az R (ab false) ad5) [0,1,5,6,7] [49]=L at hr
 have hX:∀ s h,az R (ab false) (.loop [0,1,5,6,7] [49] ad5) s h=L s h:=fun s h=>by rw [← hLL]; rfl
 clear hLL
 have hr2:∀ (S:af) (H:aa) (X:Option (Ex × St)),aI 0 [5,6] (L S H)=X→S 0=lm a→S 1=lm b→S 6=W 0→S 7=I 0→S 5=.emp→H 49=.dead→∃ x hh,X=some (.normal,⟨upd (upd (fun _=>.any) 6 (W c)) 5 x,hh⟩)∧l4 49 out x (hh 49)∧∀ a,a ≠ 49→hh a=.dead:=fun S H X hX a0 a1 a6 a7 a5 b=>by
  rw [← hX]
  exact hr S H a0 a1 a6 a7 (by rw [a5,b]; exact q0)
 simp only [akq,amf,hX,go_sem,↓reduceIte,aez]
 generalize hB:aI 0 [5,6] (L _ _)=X
 obtain ⟨x,hh,g0,hacc,gd⟩:=hr2 _ _ _ hB rfl rfl rfl rfl rfl rfl
 rw [g0]
 rcases hacc with ⟨c1,c2,c3⟩ | ⟨c1,c2,c3⟩
 ·rw [c1] at ht
  have ht':R F.r02_trim [.sl 1 [[U c]]] []=some (lm res,[]):=ht
  simp only [go_sem,↓reduceIte,aez,aeB,aeA,aeC,aeE,c2,e8,ht',ne_eq,not_false_eq_true,gd]
 ·simp only [go_sem,↓reduceIte,aez,aeB,aeA,aeC,aeE,c2,c3,e8,f3,f4,ht,ne_eq,not_false_eq_true,gd,aiM,true_or,Nat.zero_add,Nat.le_refl,List.length_singleton,ab4,List.length_append]
theorem aqF {a b:List Nat} (ha:Lb a) (hb:Lb b) (h1:a.length≤100000):∀ (k i:Nat),i+k=a.length→∀ (s:af) (h:aa),s 0=lm a→s 1=lm b→s 6=W (nO a b i:Nat)→s 7=I i→l4 41 (ki a b i) (s 5) (h 41) →
  ∃ x hh,aI 0 [5] (aU (az R (ab false) aid) [0,1,5,6,7] [41] s h)=some (.normal,⟨upd (fun _=>.any) 5 x,hh⟩)∧l4 41 (ki a b a.length) x (hh 41)∧∀ a,a ≠ 41→hh a=.dead:=by
 intro k
 induction k with
 | zero =>
  intro i hi s h h0 g1 h6 h7 hacc
  have e1:((i:Int) < (a.length:Int))=False:=ff (by omega)
  have:i=a.length:=by omega
  rw [← this]
  rw [aA]
  rcases hacc with ⟨g2,h5,hh⟩ | ⟨g2,h5,hh⟩
  ·refine ⟨.emp,?hh0,?_,Or.inl ⟨g2,rfl,?_⟩,?_⟩
   rotate_left
   ·simp only [aid,go_sem,↓reduceIte,aez,h0,g1,h5,h6,h7,hh,e1]
    rfl
   ·rfl
   ·intro b hb
    simp only [jg,hb,if_false]
  ·refine ⟨.rsl 41 none 1 0 (ki a b i).length,?hh1,?_,Or.inr ⟨g2,rfl,?_⟩,?_⟩
   rotate_left
   ·simp only [aid,go_sem,↓reduceIte,aez,aeD,h0,g1,h5,h6,h7,hh,e1]
    rfl
   ·rfl
   ·intro b hb
    simp only [jg,hb,if_false]
 | succ k ih =>
  intro i hi s h h0 g1 h6 h7 hacc
  have ih':=ih (i+1) (by omega)
  have hx:=dQ ha i
  have hy:=dQ hb i
  have hc:=Bp a b i
  have hla:i < a.length:=by omega
  have e1:((i:Int) < (a.length:Int))=True:=tt (by omega)
  have e2:bH (aP a) (i:Int)=some (.ipt [U (a.getD i 0:Nat)]):=df rfl hla
  have e3:IntKind.i64.wrap ((i:Int)+1)=((i+1:Nat):Int):=wi (by omega) (by omega)
  have q1:((ki a b i).length+1)*4≤140737488355328:=by rw [mS]; omega
  have f3:=tt q1
  have e4:IntKind.u64.wrap (a.getD i 0:Int)=(a.getD i 0:Int):=pf rfl (by omega)
  have e5:IntKind.u64.wrap (b.getD i 0:Int)=(b.getD i 0:Int):=pf rfl (by omega)
  have w3:IntKind.u64.wrap ((a.getD i 0:Int)+4294967296)=((a.getD i 0+4294967296:Nat):Int):=pf (by omega) (by omega)
  have w4:IntKind.u64.wrap (((a.getD i 0+4294967296:Nat):Int) - ((b.getD i 0+nO a b i:Nat):Int))=((a.getD i 0+4294967296 - b.getD i 0 - nO a b i:Nat):Int):=pf (by omega) (by omega)
  have f8:=xT (n:=a.getD i 0+4294967296 - b.getD i 0 - nO a b i) (k:=32) (kk:=.u64) (j:=32) rfl rfl (by omega)
  have w5:IntKind.u64.wrap (1 - (((a.getD i 0+4294967296 - b.getD i 0 - nO a b i) / 2 ^ 32:Nat):Int))=((nO a b (i+1):Nat):Int):=by
   refine pf ?_ (by have:=Bp a b (i+1); omega)
   show _=(((if a.getD i 0 < b.getD i 0+nO a b i then 1 else 0:Nat)):Int)
   split <;> omega
  have f9:=ajB (n:=a.getD i 0+4294967296 - b.getD i 0 - nO a b i) rfl (by omega)
  rw [show (a.getD i 0+4294967296 - b.getD i 0 - nO a b i) % 4294967296=zW a b i from rfl] at f9
  have f10:IntKind.u32.wrap ((zW a b i:Nat):Int)=((zW a b i:Nat):Int):=PF rfl (Nat.mod_lt _ (by omega))
  rw [aA]
  rw [anc] at ih'
  generalize aU _ _ _=L at ih' ⊢
  by_cases hlb:i < b.length
  ·have e6:((i:Int) < (b.length:Int))=True:=tt (by omega)
   have e7:bH (aP b) (i:Int)=some (.ipt [U (b.getD i 0:Nat)]):=df rfl hlb
   have w2:IntKind.u64.wrap ((nO a b i:Int)+(b.getD i 0:Int))=((b.getD i 0+nO a b i:Nat):Int):=pf (by omega) (by omega)
   rcases hacc with ⟨g2,h5,hh⟩ | ⟨g2,h5,hh⟩
   ·simp only [aid,go_sem,↓reduceIte,aez,aeB,aeA,aeC,aeE,h0,g1,h5,h6,h7,hh,e1,e2,e3,e4,e5,e6,e7,w2,w3,w4,w5,f8,f9,f10]
    rw [g2] at ih'
    exact ih' _ _ rfl rfl rfl rfl ajd
   ·simp only [aid,go_sem,↓reduceIte,aez,aeC,aeE,aeD,h0,g1,h5,h6,h7,hh,e1,e2,e3,e4,e5,e6,e7,w2,w3,w4,w5,f3,f8,f9,f10,true_or,Nat.zero_add,Nat.le_refl,aiM]
    exact ih' _ _ rfl rfl rfl rfl aiY
  ·have e6:((i:Int) < (b.length:Int))=False:=ff (by omega)
   have hz:=akJ (m:=b) (i:=i) (by omega)
   have w2:((b.getD i 0+nO a b i:Nat):Int)=(nO a b i:Int):=by omega
   rw [w2] at w4
   rcases hacc with ⟨g2,h5,hh⟩ | ⟨g2,h5,hh⟩
   ·simp only [aid,go_sem,↓reduceIte,aez,aeB,aeA,aeC,aeE,h0,g1,h5,h6,h7,hh,e1,e2,e3,e4,e6,w3,w4,w5,f8,f9,f10]
    rw [g2] at ih'
    exact ih' _ _ rfl rfl rfl rfl ajd
   ·simp only [aid,go_sem,↓reduceIte,aez,aeC,aeE,aeD,h0,g1,h5,h6,h7,hh,e1,e2,e3,e4,e6,w3,w4,w5,f3,f8,f9,f10,true_or,Nat.zero_add,Nat.le_refl,aiM]
    exact ih' _ _ rfl rfl rfl rfl aiY
theorem ane {a b:List Nat} (ha:Lb a) (hb:Lb b) (h1:a.length≤10000) (h2:b.length≤a.length) (hv:ac b≤ac a):R F.r02_minus [lm a,lm b] []=some (lm (av (ac a - ac b)),[]):=by
 refine aZ apf ape (amF false) rfl ?_
 have hr:=aqF ha hb (by omega) a.length 0 (by omega)
 simp only [Int.natCast_zero] at hr
 have hall:=Od ha hb h2 hv
 have hsv:ac (ki a b a.length)=ac a - ac b:=by
  rw [hall,pz,Nat.mod_eq_of_lt]
  exact Nat.lt_of_le_of_lt (Nat.sub_le _ _) (ju ha)
 have hL:=mS a b a.length
 have hLb:=IR a b a.length
 have q0:l4 41 (ki a b 0) .emp .dead:=Or.inl ⟨rfl,rfl,rfl⟩
 have c0:nO a b 0=0:=rfl
 rw [c0] at hr
 simp only [Int.natCast_zero] at hr
 clear hall
 generalize ki a b 0=o0 at hr q0
 generalize ki a b a.length=out at hr hsv hL hLb
 have ht:=akk (m:=out) hLb (by omega)
 rw [hsv] at ht
 generalize av (ac a - ac b)=res at ht ⊢
 generalize hLL:aU (az R (ab false) aid) [0,1,5,6,7] [41]=L at hr
 have hX:∀ s h,az R (ab false) (.loop [0,1,5,6,7] [41] aid) s h=L s h:=fun s h=>by rw [← hLL]; rfl
 clear hLL
 have hr2:∀ (S:af) (H:aa) (X:Option (Ex × St)),aI 0 [5] (L S H)=X→S 0=lm a→S 1=lm b→S 6=W 0→S 7=I 0→S 5=.emp→H 41=.dead→∃ x hh,X=some (.normal,⟨upd (fun _=>.any) 5 x,hh⟩)∧l4 41 out x (hh 41)∧∀ a,a ≠ 41→hh a=.dead:=fun S H X hX a0 a1 a6 a7 a5 b=>by
  rw [← hX]
  exact hr S H a0 a1 a6 a7 (by rw [a5,b]; exact q0)
 simp only [akb,alN,hX,go_sem,↓reduceIte,aez]
 generalize hB:aI 0 [5] (L _ _)=X
 obtain ⟨x,hh,g0,hacc,gd⟩:=hr2 _ _ _ hB rfl rfl rfl rfl rfl rfl
 rw [g0]
 rcases hacc with ⟨c1,c2,c3⟩ | ⟨c1,c2,c3⟩
 ·rw [c1] at ht
  simp only [go_sem,↓reduceIte,aez,aeB,aeA,c2,ht,ne_eq,not_false_eq_true,gd]
 ·simp only [go_sem,↓reduceIte,aez,aeB,aeA,c2,c3,ht,ne_eq,not_false_eq_true,gd,ajC,Nat.zero_add,Nat.le_refl]
end Go.Ab
namespace Go.Ab
open Go Go.IntWalk
set_option maxRecDepth 4000
set_option maxHeartbeats 1000000
theorem arT {a b:List Nat} (ha:Lb a) (hb:Lb b) (hl:a.length=b.length) (h2:a.length≤100000):∀ (k:Nat),k≤a.length→∀ (s:af) (h:aa),s 0=lm a→s 1=lm b→s 5=I ((k:Int) - 1) →
  dG (aI 0 [] (aU (az R (ab false) ah8) [0,1,5] [] s h)) (az R (ab false) tL)=some (.ret,⟨upd (fun _=>.any) 4 (I (dm (ac (a.take k)) (ac (b.take k)))),fun _=>.dead⟩):=by
 intro k
 induction k with
 | zero =>
  intro hk s h h0 h1 h5
  rw [aA]
  generalize aU _ _ _=L
  have e1:(0≤((0:Nat):Int) - 1)=False:=ff (by omega)
  have e2:dm (ac []) (ac [])=0:=rfl
  simp only [ah8,tL,go_sem,↓reduceIte,aez,h0,h1,h5,e1,e2]
 | succ k ih =>
  intro hk s h h0 h1 h5
  have ih':=ih (by omega)
  have e1:(0≤((k+1:Nat):Int) - 1)=True:=tt (by omega)
  have e2:bH (aP a) (((k+1:Nat):Int) - 1)=some (.ipt [U (a.getD k 0:Nat)]):=df (by omega) (by omega)
  have e3:bH (aP b) (((k+1:Nat):Int) - 1)=some (.ipt [U (b.getD k 0:Nat)]):=df (by omega) (by omega)
  have e4:IntKind.i64.wrap (((k+1:Nat):Int) - 1 - 1)=(k:Int) - 1:=by rw [i64_in] <;> omega
  have va:=jD a k
  have vb:=jD b k
  have la:=ju (qX ha k)
  have lb:=ju (qX hb k)
  rw [List.length_take,Nat.min_eq_left (by omega)] at la lb
  rw [aA]
  generalize aU _ _ _=L at ih' ⊢
  rcases Nat.lt_trichotomy (a.getD k 0) (b.getD k 0) with hlt | heq | hgt
  ·have e5:((a.getD k 0:Int) < (b.getD k 0:Int))=True:=tt (by omega)
   have e6:dm (ac (a.take (k+1))) (ac (b.take (k+1)))=-1:=by
    have:4294967296 ^ k*(a.getD k 0+1)≤4294967296 ^ k*b.getD k 0:=Nat.mul_le_mul_left _ hlt
    rw [Nat.mul_add] at this
    simp only [dm]
    rw [if_pos (by omega)]
   simp only [ah8,tL,go_sem,↓reduceIte,aez,h0,h1,h5,e1,e2,e3,e5,e6]
  ·have e5:((a.getD k 0:Int) < (b.getD k 0:Int))=False:=ff (by omega)
   have e7:((b.getD k 0:Int) < (a.getD k 0:Int))=False:=ff (by omega)
   have e6:dm (ac (a.take (k+1))) (ac (b.take (k+1)))=dm (ac (a.take k)) (ac (b.take k)):=by
    rw [va,vb,heq]
    simp only [dm]
    repeat' split
    all_goals first | rfl | omega
   simp only [ah8,go_sem,↓reduceIte,aez,h0,h1,h5,e1,e2,e3,e5,e6,e7,e4]
   exact ih' _ _ rfl rfl rfl
  ·have e5:((a.getD k 0:Int) < (b.getD k 0:Int))=False:=ff (by omega)
   have e7:((b.getD k 0:Int) < (a.getD k 0:Int))=True:=tt (by omega)
   have e6:dm (ac (a.take (k+1))) (ac (b.take (k+1)))=1:=by
    have:4294967296 ^ k*(b.getD k 0+1)≤4294967296 ^ k*a.getD k 0:=Nat.mul_le_mul_left _ hgt
    rw [Nat.mul_add] at this
    simp only [dm]
    rw [if_neg (by omega),if_pos (by omega)]
   simp only [ah8,tL,go_sem,↓reduceIte,aez,h0,h1,h5,e1,e2,e3,e5,e6,e7]
theorem apB {a b:List Nat} (ha:Lb a) (hb:Lb b) (h1:a.length≤100000) (_h2:b.length≤100000) (hc:a.length=b.length∨(uM a∧uM b)):R F.r02_compare [lm a,lm b] []=some (I (dm (ac a) (ac b)),[]):=by
 refine aZ anJ anI (al2 false) rfl ?_
 by_cases hl:a.length=b.length
 ·have e1:((a.length:Int)=(b.length:Int))=True:=tt (by omega)
  have e2:IntKind.i64.wrap ((b.length:Int) - 1)=(b.length:Int) - 1:=i64_in _ ⟨by omega,by omega⟩
  have e3:IntKind.i64.wrap ((a.length:Int) - 1)=(a.length:Int) - 1:=i64_in _ ⟨by omega,by omega⟩
  have hL:=arT ha hb hl h1 a.length (Nat.le_refl _)
  rw [List.take_length,hl,List.take_length,← hl] at hL
  generalize hLL:aU (az R (ab false) ah8) [0,1,5] []=L at hL
  have hX:∀ s h,az R (ab false) (.loop [0,1,5] [] ah8) s h=L s h:=fun s h=>by rw [← hLL]; rfl
  have hL2:∀ s h,s 0=lm a→s 1=lm b→s 5=I ((a.length:Int) - 1)→ajf false [[]] [.t 4] 0 (dG (aI 0 [] (L s h)) (az R (ab false) (.seq (.ops [4] [co 4 (.mv (.c (.v (.int .i64 0))))]) (.ret))))=some (I (dm (ac a) (ac b)),[]):=fun s h a0 a1 a5=>by
   rw [show (.seq (.ops [4] [co 4 (.mv (.c (.v (.int .i64 0))))]) (.ret):Cmd)=tL from rfl,hL s h a0 a1 a5]
   simp only [go_sem,↓reduceIte]
  show ajf false [[]] [.t 4] 0 (az R (ab false) ajk _ _)=_
  unfold ajk
  show ajf false [[]] [.t 4] 0 (dG (az R (ab false) (.ops [0,1] [co 4 (.mv (.c (.v (.int .i64 0))))]) _ _) fun s h=>dG (az R (ab false) (.seq (.ops [0,1,10] [cm 6 0,co 7 (.len false (.t 6)),cm 8 1,co 9 (.len false (.t 8)),co 10 (.bin .neq (.t 7) (.t 9))]) (.cond (.t 10) (.seq (.seq (.ops [15] [cm 11 0,co 12 (.len false (.t 11)),cm 13 1,co 14 (.len false (.t 13)),co 15 (.bin .lss (.t 12) (.t 14))]) (.cond (.t 15) (.seq (.ops [4] [co 4 (.mv (.c (.v (.int .i64 (-1)))))]) (.ret)) (.skip))) (.seq (.ops [4] [co 4 (.mv (.c (.v (.int .i64 1))))]) (.ret))) (.skip))) s h) fun s h=>dG (dG (az R (ab false) (.ops [0,1,5] [cm 16 0,co 17 (.len false (.t 16)),co 18 (.bin .sub (.t 17) (.c (.v (.int .i64 1)))),cm 5 18]) s h) fun s h=>aI 0 [] (az R (ab false) (.loop [0,1,5] [] ah8) s h)) (az R (ab false) (.seq (.ops [4] [co 4 (.mv (.c (.v (.int .i64 0))))]) (.ret))))=_
  simp only [hX]
  generalize hT:az R (ab false) (.seq (.ops [4] [co 4 (.mv (.c (.v (.int .i64 0))))]) (.ret))=T at hL2 ⊢
  simp only [go_sem,↓reduceIte,aez,e1,e3]
  exact hL2 _ _ rfl rfl rfl
 ·have e1:((a.length:Int)=(b.length:Int))=False:=ff (by omega)
  obtain ⟨ca,cb⟩:=hc.resolve_left hl
  by_cases hlt:a.length < b.length
  ·have e2:((a.length:Int) < (b.length:Int))=True:=tt (by omega)
   have e3:dm (ac a) (ac b)=-1:=by
    have:=uR (x:=ac a) (y:=ac b) (by rw [IJ ha ca,IJ hb cb]; exact hlt)
    unfold dm
    rw [if_pos this]
   rw [e3]
   simp only [ai9,ajk,go_sem,↓reduceIte,aez,e1,e2]
  ·have e2:((a.length:Int) < (b.length:Int))=False:=ff (by omega)
   have e3:dm (ac a) (ac b)=1:=by
    have:=uR (x:=ac b) (y:=ac a) (by rw [IJ ha ca,IJ hb cb]; omega)
    unfold dm
    rw [if_neg (by omega),if_pos this]
   rw [e3]
   simp only [ai9,ajk,go_sem,↓reduceIte,aez,e1,e2]
theorem akT {m:List Nat} {i:Nat} (hb:Lb m) (h:m.length≤10000000):R F.r01_at [lm m,I i] []=some (W (m.getD i 0:Nat),[]):=by
 refine aZ asF asE (apA false) rfl ?_
 by_cases hi:i < m.length
 ·have e1:((i:Int) < (m.length:Int))=True:=tt (by omega)
  have e2:bH (aP m) (i:Int)=some (.ipt [U (m.getD i 0:Nat)]):=df rfl hi
  have hx:=dQ hb i
  have e3:IntKind.u64.wrap (m.getD i 0:Int)=(m.getD i 0:Int):=pf rfl (by omega)
  simp only [akv,alV,go_sem,↓reduceIte,aez,e1,e2,e3]
 ·have e1:((i:Int) < (m.length:Int))=False:=ff (by omega)
  have e2:=akJ (m:=m) (i:=i) (by omega)
  rw [e2]
  simp only [akv,alV,go_sem,↓reduceIte,aez,e1,Int.natCast_zero]
theorem aj0 {m:List Nat} (hb:Lb m) (h:m.length≤10000000):R F.r01_Trim [lm m] []=some (lm (av (ac m)),[]):=by
 refine aZ aqu aqt (anT false) rfl ?_
 have h1:dK 1 (lm m) none (some (I (iJ m m.length:Nat))) none=some (lm (av (ac m))):=by
  rw [GY (a:=0) (b:=iJ m m.length) rfl (uQ rfl (tE _ _)) (tE _ _),List.drop_zero,Nat.sub_zero,F9 hb]
 have hl:=dJ m hb
 have e1:((av (ac m)).length*4≤140737488355328)=True:=tt (by omega)
 have hL:∀ (n:Nat),n≤m.length→∀ (s:af) (h:aa),s 0=lm m→s 3=I n →
  aI 0 [0,3] (aU (az R (ab false) alp) [0,3] [] s h)=some (.normal,⟨upd (upd (fun _=>.any) 3 (I (iJ m n))) 0 (lm m),fun _=>.dead⟩):=LT m (by omega)
 simp only [aks,amh,go_sem,↓reduceIte,aez,aeC,aeE,hL m.length (Nat.le_refl _),h1,On,e1,List.nil_append,List.length_nil,true_or,Nat.zero_add,Nat.le_refl,List.replicate_zero]
theorem aqG {a b:List Nat} (ha:Lb a) (hb:Lb b) (hl:a.length≤100000) (h2:b.length≤100000):∀ (k:Nat),k≤100000→∀ (s:af) (h:aa),s 0=lm a→s 1=lm b→s 5=I ((k:Int) - 1) →
  dG (aI 0 [] (aU (az R (ab false) aip) [0,1,5] [] s h)) (az R (ab false) tL)=some (.ret,⟨upd (fun _=>.any) 4 (I (dm (ac (a.take k)) (ac (b.take k)))),fun _=>.dead⟩):=by
 intro k
 induction k with
 | zero =>
  intro hk s h h0 h1 h5
  rw [aA]
  generalize aU _ _ _=L
  have e1:(0≤((0:Nat):Int) - 1)=False:=ff (by omega)
  have e2:dm (ac []) (ac [])=0:=rfl
  simp only [aip,tL,go_sem,↓reduceIte,aez,h0,h1,h5,e1,e2]
 | succ k ih =>
  intro hk s h h0 h1 h5
  have ih':=ih (by omega)
  have e1:(0≤(k:Int))=True:=tt (by omega)
  have ek:((k+1:Nat):Int) - 1=(k:Int):=by omega
  have e2:=akT (m:=a) (i:=k) ha (by omega)
  have e3:=akT (m:=b) (i:=k) hb (by omega)
  have e4:IntKind.i64.wrap ((k:Int) - 1)=(k:Int) - 1:=by rw [i64_in] <;> omega
  have va:=jD a k
  have vb:=jD b k
  have la:=Nat.lt_of_lt_of_le (ju (qX ha k)) (Nat.pow_le_pow_right (by decide) (show (a.take k).length≤k by rw [List.length_take]; omega))
  have lb:=Nat.lt_of_lt_of_le (ju (qX hb k)) (Nat.pow_le_pow_right (by decide) (show (b.take k).length≤k by rw [List.length_take]; omega))
  rw [ek] at h5
  rw [aA]
  generalize aU _ _ _=L at ih' ⊢
  rcases Nat.lt_trichotomy (a.getD k 0) (b.getD k 0) with hlt | heq | hgt
  ·have e5:((a.getD k 0:Int) < (b.getD k 0:Int))=True:=tt (by omega)
   have e6:dm (ac (a.take (k+1))) (ac (b.take (k+1)))=-1:=by
    have:4294967296 ^ k*(a.getD k 0+1)≤4294967296 ^ k*b.getD k 0:=Nat.mul_le_mul_left _ hlt
    rw [Nat.mul_add] at this
    simp only [dm]
    rw [if_pos (by omega)]
   simp only [aip,tL,go_sem,↓reduceIte,aez,aeB,aeA,h0,h1,h5,e1,e2,e3,e5,e6]
  ·have e5:((a.getD k 0:Int) < (b.getD k 0:Int))=False:=ff (by omega)
   have e7:((b.getD k 0:Int) < (a.getD k 0:Int))=False:=ff (by omega)
   have e6:dm (ac (a.take (k+1))) (ac (b.take (k+1)))=dm (ac (a.take k)) (ac (b.take k)):=by
    rw [va,vb,heq]
    simp only [dm]
    repeat' split
    all_goals first | rfl | omega
   simp only [aip,go_sem,↓reduceIte,aez,aeB,aeA,h0,h1,h5,e1,e2,e3,e5,e6,e7,e4]
   exact ih' _ _ rfl rfl rfl
  ·have e5:((a.getD k 0:Int) < (b.getD k 0:Int))=False:=ff (by omega)
   have e7:((b.getD k 0:Int) < (a.getD k 0:Int))=True:=tt (by omega)
   have e6:dm (ac (a.take (k+1))) (ac (b.take (k+1)))=1:=by
    have:4294967296 ^ k*(b.getD k 0+1)≤4294967296 ^ k*a.getD k 0:=Nat.mul_le_mul_left _ hgt
    rw [Nat.mul_add] at this
    simp only [dm]
    rw [if_neg (by omega),if_pos (by omega)]
   simp only [aip,tL,go_sem,↓reduceIte,aez,aeB,aeA,h0,h1,h5,e1,e2,e3,e5,e6,e7]
theorem atG {a b:List Nat} (ha:Lb a) (hb:Lb b) (h1:a.length≤100000) (h2:b.length≤100000):R F.r01_Cmp [lm a,lm b] []=some (I (dm (ac a) (ac b)),[]):=by
 refine aZ aru art (aoq false) rfl ?_
 obtain ⟨M,hM⟩:∃ M,max a.length b.length=M:=⟨_,rfl⟩
 have e1:(if (a.length:Int) < (b.length:Int) then (b.length:Int) else (a.length:Int))=(M:Int):=by
  split <;> omega
 have e2:IntKind.i64.wrap ((M:Int) - 1)=(M:Int) - 1:=i64_in _ ⟨by omega,by omega⟩
 have hL:=aqG ha hb h1 h2 M (by omega)
 rw [List.take_of_length_le (show a.length≤M by omega),List.take_of_length_le (show b.length≤M by omega)] at hL
 generalize hLL:aU (az R (ab false) aip) [0,1,5] []=L at hL
 have hX:∀ s h,az R (ab false) (.loop [0,1,5] [] aip) s h=L s h:=fun s h=>by rw [← hLL]; rfl
 have hL2:∀ s h,s 0=lm a→s 1=lm b→s 5=I ((M:Int) - 1)→ajf false [[]] [.t 4] 0 (dG (aI 0 [] (L s h)) (az R (ab false) (.seq (.ops [4] [co 4 (.mv (.c (.v (.int .i64 0))))]) (.ret))))=some (I (dm (ac a) (ac b)),[]):=fun s h a0 a1 a5=>by
  rw [show (.seq (.ops [4] [co 4 (.mv (.c (.v (.int .i64 0))))]) (.ret):Cmd)=tL from rfl,hL s h a0 a1 a5]
  simp only [go_sem,↓reduceIte]
 show ajf false [[]] [.t 4] 0 (az R (ab false) alv _ _)=_
 unfold alv
 show ajf false [[]] [.t 4] 0 (dG (az R (ab false) (.ops [0,1] [co 4 (.mv (.c (.v (.int .i64 0))))]) _ _) fun s h=>dG (dG (az R (ab false) (.ops [0,1,5] [cm 6 0,co 7 (.len false (.t 6)),cm 8 1,co 9 (.len false (.t 8)),co 10 (.mnx false (.t 7) [(.t 9)]),co 11 (.bin .sub (.t 10) (.c (.v (.int .i64 1)))),cm 5 11]) s h) fun s h=>aI 0 [] (az R (ab false) (.loop [0,1,5] [] aip) s h)) (az R (ab false) (.seq (.ops [4] [co 4 (.mv (.c (.v (.int .i64 0))))]) (.ret))))=_
 simp only [hX]
 generalize hT:az R (ab false) (.seq (.ops [4] [co 4 (.mv (.c (.v (.int .i64 0))))]) (.ret))=T at hL2 ⊢
 simp only [go_sem,↓reduceIte,aez,e1,e2]
 exact hL2 _ _ rfl rfl rfl
end Go.Ab
namespace Go.Ab
open Go Go.IntWalk
set_option maxRecDepth 4000
set_option maxHeartbeats 1000000
theorem aqH:∀ (x b:Nat),x < 4294967296→b+am x≤100000000→∀ (s:af) (h:aa),s 4=I b→s 5=U x →
  aI 2 [4] (aU (az R (ab false) ai0) [4,5] [] s h)=some (.normal,⟨upd (fun _=>.any) 4 (I (b+am x:Nat)),fun _=>.dead⟩):=by
 intro x
 induction x using Nat.strongRecOn with
 | ind x ih =>
  intro b hx hb s h h3 h4
  rw [aA]
  by_cases h0:x=0
  ·have e1:(0 < (x:Int))=False:=ff (by omega)
   rw [h0,L8,Nat.add_zero]
   rw [h0] at e1 h4
   simp only [ai0,go_sem,↓reduceIte,aez,h3,h4,e1]
  ·have e1:(0 < (x:Int))=True:=tt (by omega)
   have e2:=KF (n:=x) (k:=1) (kk:=.u64) (j:=1) rfl rfl (by omega)
   have e3:IntKind.i64.wrap ((b:Int)+1)=((b+1:Nat):Int):=wi (by omega) (by omega)
   have e4:am x=1+am (x / 2 ^ 1):=by
    have h5:=zY x 1
    have h6:=kj h0
    omega
   have ih':=ih (x / 2 ^ 1) (by omega) (b+1) (by omega) (by omega)
   rw [show b+am x=b+1+am (x / 2 ^ 1) by omega]
   generalize aU _ _ _=L at ih' ⊢
   simp only [ai0,go_sem,↓reduceIte,aez,h3,h4,e1,e2,e3]
   exact ih' _ _ rfl rfl
theorem arU {y x j:Nat} (hy:y < 4294967296 ^ j) (hx:x ≠ 0):am (y+4294967296 ^ j*x)=32*j+am x:=by
 have e:(4294967296:Nat) ^ j=2 ^ (32*j):=by
  rw [Nat.pow_mul]
 rw [e] at hy ⊢
 have h1:2 ^ (32*j)≤y+2 ^ (32*j)*x:=Nat.le_trans (Nat.le_mul_of_pos_right _ (Nat.pos_of_ne_zero hx)) (Nat.le_add_left _ _)
 rw [sw _ h1,Nat.add_mul_div_left _ _ (Nat.two_pow_pos _),Nat.div_eq_of_lt hy,Nat.zero_add]
theorem arV {m:List Nat} (hb:Lb m) (hl:m.length≤100000):∀ (k:Nat),k≤m.length→∀ (s:af) (h:aa),s 0=lm m→s 3=I ((k:Int) - 1) →
  dG (aI 0 [] (aU (az R (ab false) ail) [0,3] [] s h)) (az R (ab false) (.seq (.ops [2] [co 2 (.mv (.c (.v (.int .i64 0))))]) (.ret)))=some (.ret,⟨upd (fun _=>.any) 2 (I (am (ac (m.take k)):Nat)),fun _=>.dead⟩):=by
 intro k
 induction k with
 | zero =>
  intro hk s h h0 h3
  rw [aA]
  generalize aU _ _ _=L
  have e1:(0≤((0:Nat):Int) - 1)=False:=ff (by omega)
  have e2:((am (ac []):Nat):Int)=0:=rfl
  simp only [ail,go_sem,↓reduceIte,aez,h0,h3,e1,List.take_zero,e2]
 | succ k ih =>
  intro hk s h h0 h3
  have ih':=ih (by omega)
  have ek:((k+1:Nat):Int) - 1=(k:Int):=by omega
  rw [ek] at h3
  have e1:(0≤(k:Int))=True:=tt (by omega)
  have e2:bH (aP m) (k:Int)=some (.ipt [U (m.getD k 0:Nat)]):=df rfl (by omega)
  have e4:IntKind.i64.wrap ((k:Int) - 1)=(k:Int) - 1:=by rw [i64_in] <;> omega
  have hx:=dQ hb k
  have va:=jD m k
  have la:=ju (qX hb k)
  rw [List.length_take,Nat.min_eq_left (by omega)] at la
  rw [aA]
  by_cases hz:m.getD k 0=0
  ·have e3:((m.getD k 0:Int)=0)=True:=tt (by omega)
   have e6:ac (m.take (k+1))=ac (m.take k):=by rw [va,hz,Nat.mul_zero,Nat.add_zero]
   rw [e6]
   generalize aU _ _ _=L at ih' ⊢
   generalize hT:az R (ab false) (.seq (.ops [2] [co 2 (.mv (.c (.v (.int .i64 0))))]) (.ret))=T at ih' ⊢
   simp only [ail,go_sem,↓reduceIte,aez,h0,h3,e1,e2,e3,e4]
   exact ih' _ _ rfl rfl
  ·have e3:((m.getD k 0:Int)=0)=False:=ff (by omega)
   have e6:=arU la hz
   rw [← va] at e6
   rw [e6]
   have e5:IntKind.i64.wrap (32*(k:Int))=((32*k:Nat):Int):=wi (by omega) (by omega)
   have hbl:=(cX (k:=32)).2 hx
   have e7:=aqH (m.getD k 0) (32*k) hx (by omega)
   generalize aU (az R (ab false) ail) _ _=L
   generalize hLL:aU (az R (ab false) ai0) [4,5] []=L0 at e7
   have hX:∀ s h,az R (ab false) (.loop [4,5] [] ai0) s h=L0 s h:=fun s h=>by rw [← hLL]; rfl
   simp only [ail,hX,go_sem,↓reduceIte,aez,h0,h3,e1,e2,e3,e5]
   rw [e7 _ _ rfl rfl]
   simp only [go_sem,↓reduceIte]
theorem aoD {m:List Nat} (hb:Lb m) (hl:m.length≤100000):R F.r01_Bits [lm m] []=some (I (am (ac m):Nat),[]):=by
 refine aZ aqx aqw (anU false) rfl ?_
 have e2:IntKind.i64.wrap ((m.length:Int) - 1)=(m.length:Int) - 1:=i64_in _ ⟨by omega,by omega⟩
 have hL:=arV hb hl m.length (Nat.le_refl _)
 rw [List.take_length] at hL
 generalize hLL:aU (az R (ab false) ail) [0,3] []=L at hL
 have hX:∀ s h,az R (ab false) (.loop [0,3] [] ail) s h=L s h:=fun s h=>by rw [← hLL]; rfl
 show ajf false [[]] [.t 2] 0 (az R (ab false) alb _ _)=_
 unfold alb
 show ajf false [[]] [.t 2] 0 (dG (az R (ab false) (.ops [0] [co 2 (.mv (.c (.v (.int .i64 0))))]) _ _) fun s h=>dG (dG (az R (ab false) (.ops [0,3] [cm 6 0,co 7 (.len false (.t 6)),co 8 (.bin .sub (.t 7) (.c (.v (.int .i64 1)))),cm 3 8]) s h) fun s h=>aI 0 [] (az R (ab false) (.loop [0,3] [] ail) s h)) (az R (ab false) (.seq (.ops [2] [co 2 (.mv (.c (.v (.int .i64 0))))]) (.ret))))=_
 simp only [hX]
 generalize hT:az R (ab false) (.seq (.ops [2] [co 2 (.mv (.c (.v (.int .i64 0))))]) (.ret))=T at hL ⊢
 simp only [go_sem,↓reduceIte,aez,e2]
 rw [hL _ _ rfl rfl]
 simp only [go_sem,↓reduceIte]
theorem arW {a b:List Nat} (ha:Lb a) (hb:Lb b) (h1:a.length≤100000) (h2:b.length≤100000) {N:Nat} (hN:max a.length b.length≤N) (hN2:N≤100001) (hNc:lN a b N=0) (hc:∀ i,i < N→i < max a.length b.length∨0 < lN a b i):∀ (k i:Nat),i+k=N→∀ (s:af) (h:aa),s 0=lm a→s 1=lm b→s 6=W (lN a b i:Nat)→s 7=I i→l4 36 (gp a b i) (s 5) (h 36) →
  ∃ x hh,aI 0 [5] (aU (az R (ab false) aik) [0,1,5,6,7] [36] s h)=some (.normal,⟨upd (fun _=>.any) 5 x,hh⟩)∧l4 36 (gp a b N) x (hh 36)∧∀ a,a ≠ 36→hh a=.dead:=by
 have em:(if (a.length:Int) < (b.length:Int) then (b.length:Int) else (a.length:Int))=((max a.length b.length:Nat):Int):=by
  split <;> omega
 intro k
 induction k with
 | zero =>
  intro i hi s h h0 g1 h6 h7 hacc
  have:i=N:=by omega
  subst this
  rw [hNc] at h6
  have e1:((i:Int) < ((max a.length b.length:Nat):Int))=False:=ff (by omega)
  rw [aA]
  rcases hacc with ⟨g2,h5,hh⟩ | ⟨g2,h5,hh⟩
  ·refine ⟨.emp,?hh0,?_,Or.inl ⟨g2,rfl,?_⟩,?_⟩
   rotate_left
   ·simp only [aik,go_sem,↓reduceIte,aez,h0,g1,h5,h6,h7,hh,em,e1,Int.natCast_zero,Int.lt_irrefl]
    rfl
   ·rfl
   ·intro b hb
    simp only [jg,hb,if_false]
  ·refine ⟨.rsl 36 none 1 0 (gp a b i).length,?hh1,?_,Or.inr ⟨g2,rfl,?_⟩,?_⟩
   rotate_left
   ·simp only [aik,go_sem,↓reduceIte,aez,aeD,h0,g1,h5,h6,h7,hh,em,e1,Int.natCast_zero,Int.lt_irrefl]
    rfl
   ·rfl
   ·intro b hb
    simp only [jg,hb,if_false]
 | succ k ih =>
  intro i hi s h h0 g1 h6 h7 hacc
  have ih':=ih (i+1) (by omega)
  have hx:=dQ ha i
  have hy:=dQ hb i
  have hcl:=Bo ha hb i
  have t1:=akT (m:=a) (i:=i) ha (by omega)
  have t2:=akT (m:=b) (i:=i) hb (by omega)
  have e3:IntKind.i64.wrap ((i:Int)+1)=((i+1:Nat):Int):=wi (by omega) (by omega)
  have q1:((gp a b i).length+1)*4≤140737488355328:=by rw [gy]; omega
  have f3:=tt q1
  have w1:IntKind.u64.wrap ((a.getD i 0:Int)+(b.getD i 0:Int))=((a.getD i 0+b.getD i 0:Nat):Int):=pf (by omega) (by omega)
  have w2:IntKind.u64.wrap (((a.getD i 0+b.getD i 0:Nat):Int)+(lN a b i:Int))=((a.getD i 0+b.getD i 0+lN a b i:Nat):Int):=pf (by omega) (by omega)
  have f8:=xT (n:=a.getD i 0+b.getD i 0+lN a b i) (k:=32) (kk:=.u64) (j:=32) rfl rfl (by omega)
  rw [show (a.getD i 0+b.getD i 0+lN a b i) / 2 ^ 32=lN a b (i+1) from rfl] at f8
  have f9:=ajB (n:=a.getD i 0+b.getD i 0+lN a b i) rfl (by omega)
  rw [show (a.getD i 0+b.getD i 0+lN a b i) % 4294967296=zT a b i from rfl] at f9
  have f10:IntKind.u32.wrap ((zT a b i:Nat):Int)=((zT a b i:Nat):Int):=PF rfl (Nat.mod_lt _ (by omega))
  rw [aA]
  rw [anb] at ih'
  generalize aU _ _ _=L at ih' ⊢
  by_cases hlt:i < max a.length b.length
  ·have e1:((i:Int) < ((max a.length b.length:Nat):Int))=True:=tt (by omega)
   rcases hacc with ⟨g2,h5,hh⟩ | ⟨g2,h5,hh⟩
   ·simp only [aik,go_sem,↓reduceIte,aez,aeB,aeA,aeC,aeE,h0,g1,h5,h6,h7,hh,em,e1,e3,t1,t2,w1,w2,f8,f9,f10]
    rw [g2] at ih'
    exact ih' _ _ rfl rfl rfl rfl ajd
   ·simp only [aik,go_sem,↓reduceIte,aez,aeB,aeA,aeC,aeE,aeD,h0,g1,h5,h6,h7,hh,em,e1,e3,t1,t2,w1,w2,f3,f8,f9,f10,true_or,Nat.zero_add,Nat.le_refl,aiM]
    exact ih' _ _ rfl rfl rfl rfl aiY
  ·have e1:((i:Int) < ((max a.length b.length:Nat):Int))=False:=ff (by omega)
   have e2:(0 < (lN a b i:Int))=True:=tt (by have:=hc i (by omega); omega)
   rcases hacc with ⟨g2,h5,hh⟩ | ⟨g2,h5,hh⟩
   ·simp only [aik,go_sem,↓reduceIte,aez,aeB,aeA,aeC,aeE,h0,g1,h5,h6,h7,hh,em,e1,e2,e3,t1,t2,w1,w2,f8,f9,f10]
    rw [g2] at ih'
    exact ih' _ _ rfl rfl rfl rfl ajd
   ·simp only [aik,go_sem,↓reduceIte,aez,aeB,aeA,aeC,aeE,aeD,h0,g1,h5,h6,h7,hh,em,e1,e2,e3,t1,t2,w1,w2,f3,f8,f9,f10,true_or,Nat.zero_add,Nat.le_refl,aiM]
    exact ih' _ _ rfl rfl rfl rfl aiY
theorem atH {a b:List Nat} (ha:Lb a) (hb:Lb b) (h1:a.length≤10000) (h2:b.length≤10000):R F.r01_Add [lm a,lm b] []=some (lm (av (ac a+ac b)),[]):=by
 refine aZ arA arz (aos false) rfl ?_
 obtain ⟨N,hN,hN2,hNc,hcc⟩:∃ N,max a.length b.length≤N∧N≤10001∧lN a b N=0∧∀ i,i < N→i < max a.length b.length∨0 < lN a b i:=by
  obtain ⟨M,hM⟩:∃ M,max a.length b.length=M:=⟨_,rfl⟩
  have h3:=Bo ha hb M
  by_cases h0:lN a b M=0
  ·exact ⟨M,by omega,by omega,h0,fun i hi=>Or.inl (by omega)⟩
  ·refine ⟨M+1,by omega,by omega,?_,fun i hi=>?_⟩
   ·show (a.getD M 0+b.getD M 0+lN a b M) / 4294967296=0
    rw [akJ (by omega),akJ (by omega)]
    omega
   ·by_cases hiM:i < M
    ·exact Or.inl (by omega)
    ·have:i=M:=by omega
     rw [this]
     exact Or.inr (by omega)
 have hr:=arW ha hb (by omega) (by omega) hN (by omega) hNc hcc N 0 (by omega)
 simp only [Int.natCast_zero] at hr
 have hsv:=aoC ha hb (L:=N) (by omega) (by omega)
 rw [hNc,fu] at hsv
 have hsv2:ac (gp a b N)=ac a+ac b:=by
  rw [← hsv]
  simp [ac]
 have hL:=gy a b N
 have hLb:=Qu a b N
 have q0:l4 36 (gp a b 0) .emp .dead:=Or.inl ⟨rfl,rfl,rfl⟩
 have c0:lN a b 0=0:=rfl
 rw [c0] at hr
 simp only [Int.natCast_zero] at hr
 clear hsv
 generalize gp a b 0=o0 at hr q0
 generalize gp a b N=out at hr hsv2 hL hLb
 have ht:=aj0 (m:=out) hLb (by omega)
 rw [hsv2] at ht
 generalize av (ac a+ac b)=res at ht ⊢
 generalize hLL:aU (az R (ab false) aik) [0,1,5,6,7] [36]=L at hr
 have hX:∀ s h,az R (ab false) (.loop [0,1,5,6,7] [36] aik) s h=L s h:=fun s h=>by rw [← hLL]; rfl
 clear hLL
 have hr2:∀ (S:af) (H:aa) (X:Option (Ex × St)),aI 0 [5] (L S H)=X→S 0=lm a→S 1=lm b→S 6=W 0→S 7=I 0→S 5=.emp→H 36=.dead→∃ x hh,X=some (.normal,⟨upd (fun _=>.any) 5 x,hh⟩)∧l4 36 out x (hh 36)∧∀ a,a ≠ 36→hh a=.dead:=fun S H X hX a0 a1 a6 a7 a5 b=>by
  rw [← hX]
  exact hr S H a0 a1 a6 a7 (by rw [a5,b]; exact q0)
 simp only [akG,am5,hX,go_sem,↓reduceIte,aez]
 generalize hB:aI 0 [5] (L _ _)=X
 obtain ⟨x,hh,g0,hacc,gd⟩:=hr2 _ _ _ hB rfl rfl rfl rfl rfl rfl
 rw [g0]
 rcases hacc with ⟨c1,c2,c3⟩ | ⟨c1,c2,c3⟩
 ·rw [c1] at ht
  simp only [go_sem,↓reduceIte,aez,aeB,aeA,c2,ht,ne_eq,not_false_eq_true,gd]
 ·simp only [go_sem,↓reduceIte,aez,aeB,aeA,c2,c3,ht,ne_eq,not_false_eq_true,gd,ajC,Nat.zero_add,Nat.le_refl]
theorem arX {a b:List Nat} (ha:Lb a) (hb:Lb b) (h1:a.length≤100000) (h2:b.length≤100000):∀ (k i:Nat),i+k=a.length→∀ (s:af) (h:aa),s 0=lm a→s 1=lm b→s 6=W (nO a b i:Nat)→s 7=I i→l4 30 (ki a b i) (s 5) (h 30) →
  ∃ x hh,aI 0 [5] (aU (az R (ab false) aiD) [0,1,5,6,7] [30] s h)=some (.normal,⟨upd (fun _=>.any) 5 x,hh⟩)∧l4 30 (ki a b a.length) x (hh 30)∧∀ a,a ≠ 30→hh a=.dead:=by
 intro k
 induction k with
 | zero =>
  intro i hi s h h0 g1 h6 h7 hacc
  have e1:((i:Int) < (a.length:Int))=False:=ff (by omega)
  have:i=a.length:=by omega
  rw [← this]
  rw [aA]
  rcases hacc with ⟨g2,h5,hh⟩ | ⟨g2,h5,hh⟩
  ·refine ⟨.emp,?hh0,?_,Or.inl ⟨g2,rfl,?_⟩,?_⟩
   rotate_left
   ·simp only [aiD,go_sem,↓reduceIte,aez,h0,g1,h5,h6,h7,hh,e1]
    rfl
   ·rfl
   ·intro b hb
    simp only [jg,hb,if_false]
  ·refine ⟨.rsl 30 none 1 0 (ki a b i).length,?hh1,?_,Or.inr ⟨g2,rfl,?_⟩,?_⟩
   rotate_left
   ·simp only [aiD,go_sem,↓reduceIte,aez,aeD,h0,g1,h5,h6,h7,hh,e1]
    rfl
   ·rfl
   ·intro b hb
    simp only [jg,hb,if_false]
 | succ k ih =>
  intro i hi s h h0 g1 h6 h7 hacc
  have ih':=ih (i+1) (by omega)
  have hx:=dQ ha i
  have hy:=dQ hb i
  have hc:=Bp a b i
  have t1:=akT (m:=a) (i:=i) ha (by omega)
  have t2:=akT (m:=b) (i:=i) hb (by omega)
  have e1:((i:Int) < (a.length:Int))=True:=tt (by omega)
  have e3:IntKind.i64.wrap ((i:Int)+1)=((i+1:Nat):Int):=wi (by omega) (by omega)
  have q1:((ki a b i).length+1)*4≤140737488355328:=by rw [mS]; omega
  have f3:=tt q1
  have w3:IntKind.u64.wrap ((a.getD i 0:Int)+4294967296)=((a.getD i 0+4294967296:Nat):Int):=pf (by omega) (by omega)
  have w4:IntKind.u64.wrap (((a.getD i 0+4294967296:Nat):Int) - (b.getD i 0:Int))=((a.getD i 0+4294967296 - b.getD i 0:Nat):Int):=pf (by omega) (by omega)
  have w6:IntKind.u64.wrap (((a.getD i 0+4294967296 - b.getD i 0:Nat):Int) - (nO a b i:Int))=((a.getD i 0+4294967296 - b.getD i 0 - nO a b i:Nat):Int):=pf (by omega) (by omega)
  have f8:=xT (n:=a.getD i 0+4294967296 - b.getD i 0 - nO a b i) (k:=32) (kk:=.u64) (j:=32) rfl rfl (by omega)
  have w5:IntKind.u64.wrap (1 - (((a.getD i 0+4294967296 - b.getD i 0 - nO a b i) / 2 ^ 32:Nat):Int))=((nO a b (i+1):Nat):Int):=by
   refine pf ?_ (by have:=Bp a b (i+1); omega)
   show _=(((if a.getD i 0 < b.getD i 0+nO a b i then 1 else 0:Nat)):Int)
   split <;> omega
  have f9:=ajB (n:=a.getD i 0+4294967296 - b.getD i 0 - nO a b i) rfl (by omega)
  rw [show (a.getD i 0+4294967296 - b.getD i 0 - nO a b i) % 4294967296=zW a b i from rfl] at f9
  have f10:IntKind.u32.wrap ((zW a b i:Nat):Int)=((zW a b i:Nat):Int):=PF rfl (Nat.mod_lt _ (by omega))
  rw [aA]
  rw [anc] at ih'
  generalize aU _ _ _=L at ih' ⊢
  rcases hacc with ⟨g2,h5,hh⟩ | ⟨g2,h5,hh⟩
  ·simp only [aiD,go_sem,↓reduceIte,aez,aeB,aeA,aeC,aeE,h0,g1,h5,h6,h7,hh,e1,e3,t1,t2,w3,w4,w5,w6,f8,f9,f10]
   rw [g2] at ih'
   exact ih' _ _ rfl rfl rfl rfl ajd
  ·simp only [aiD,go_sem,↓reduceIte,aez,aeB,aeA,aeC,aeE,aeD,h0,g1,h5,h6,h7,hh,e1,e3,t1,t2,w3,w4,w5,w6,f3,f8,f9,f10,true_or,Nat.zero_add,Nat.le_refl,aiM]
   exact ih' _ _ rfl rfl rfl rfl aiY
theorem atI {a b:List Nat} (ha:Lb a) (hb:Lb b) (h1:a.length≤10000) (h2:b.length≤a.length) (hv:ac b≤ac a):R F.r01_Sub [lm a,lm b] []=some (lm (av (ac a - ac b)),[]):=by
 refine aZ arD arC (aot false) rfl ?_
 have hr:=arX ha hb (by omega) (by omega) a.length 0 (by omega)
 simp only [Int.natCast_zero] at hr
 have hall:=Od ha hb h2 hv
 have hsv:ac (ki a b a.length)=ac a - ac b:=by
  rw [hall,pz,Nat.mod_eq_of_lt]
  exact Nat.lt_of_le_of_lt (Nat.sub_le _ _) (ju ha)
 have hL:=mS a b a.length
 have hLb:=IR a b a.length
 have q0:l4 30 (ki a b 0) .emp .dead:=Or.inl ⟨rfl,rfl,rfl⟩
 have c0:nO a b 0=0:=rfl
 rw [c0] at hr
 simp only [Int.natCast_zero] at hr
 clear hall
 generalize ki a b 0=o0 at hr q0
 generalize ki a b a.length=out at hr hsv hL hLb
 have ht:=aj0 (m:=out) hLb (by omega)
 rw [hsv] at ht
 generalize av (ac a - ac b)=res at ht ⊢
 generalize hLL:aU (az R (ab false) aiD) [0,1,5,6,7] [30]=L at hr
 have hX:∀ s h,az R (ab false) (.loop [0,1,5,6,7] [30] aiD) s h=L s h:=fun s h=>by rw [← hLL]; rfl
 clear hLL
 have hr2:∀ (S:af) (H:aa) (X:Option (Ex × St)),aI 0 [5] (L S H)=X→S 0=lm a→S 1=lm b→S 6=W 0→S 7=I 0→S 5=.emp→H 30=.dead→∃ x hh,X=some (.normal,⟨upd (fun _=>.any) 5 x,hh⟩)∧l4 30 out x (hh 30)∧∀ a,a ≠ 30→hh a=.dead:=fun S H X hX a0 a1 a6 a7 a5 b=>by
  rw [← hX]
  exact hr S H a0 a1 a6 a7 (by rw [a5,b]; exact q0)
 simp only [akH,am6,hX,go_sem,↓reduceIte,aez]
 generalize hB:aI 0 [5] (L _ _)=X
 obtain ⟨x,hh,g0,hacc,gd⟩:=hr2 _ _ _ hB rfl rfl rfl rfl rfl rfl
 rw [g0]
 rcases hacc with ⟨c1,c2,c3⟩ | ⟨c1,c2,c3⟩
 ·rw [c1] at ht
  simp only [go_sem,↓reduceIte,aez,aeB,aeA,c2,ht,ne_eq,not_false_eq_true,gd]
 ·simp only [go_sem,↓reduceIte,aez,aeB,aeA,c2,c3,ht,ne_eq,not_false_eq_true,gd,ajC,Nat.zero_add,Nat.le_refl]
end Go.Ab
namespace Go.Ab
open Go Go.IntWalk
set_option maxRecDepth 4000
set_option maxHeartbeats 1000000
theorem asQ {a b:List Nat} (ha:Lb a) (hb:Lb b) {i n:Nat} (h1:a.length≤100000) (h2:b.length≤100000) (hi:i < a.length):∀ (bs:List Nat) (k:Nat) (D S:List Nat) (c:Nat),b.drop k=bs→k≤b.length→D.length=i+k→bs.length≤S.length→(D++S).length=n→Lb S→c < 4294967296 →
  ∀ (s:af) (h:aa),s 0=lm a→s 1=lm b→s 5=.rsl 18 none 1 0 n→s 6=I i→s 7=W c→s 8=I k→h 18=.ar 1 (aP (D++S)) →
  aI 2 [0,1,5,6,7] (aU (az R (ab false) ajM) [0,1,5,6,7,8] [18] s h) =
   some (.normal,⟨upd (upd (upd (upd (upd (fun _=>.any) 7 (W ((mi (a.getD i 0) c bs S).2:Nat))) 6 (I i)) 5 (.rsl 18 none 1 0 n)) 1 (lm b)) 0 (lm a),upd (fun _=>.dead) 18 (.ar 1 (aP (D++(mi (a.getD i 0) c bs S).1)))⟩):=by
 have hx:=dQ ha i
 intro bs
 induction bs with
 | nil =>
  intro k D S c hd hk hD hS hn hLS hc s h h0 h1 h5 h6 h7 h8 hh
  have:k=b.length:=by
   have:=congrArg List.length hd
   simp at this
   omega
  subst this
  rw [aA]
  simp only [ajM,go_sem,↓reduceIte,aez,aeD,h0,h1,h5,h6,h7,h8,hh,Int.lt_irrefl,mi]
 | cons y bs ih =>
  intro k D S c hd hk hD hS hn hLS hc s h h0 h1' h5 h6 h7 h8 hh
  obtain ⟨o,S,rfl⟩:∃ o S',S=o::S':=by
   cases S with
   | nil=>simp at hS
   | cons o S=>exact ⟨o,S,rfl⟩
  have hlt:k < b.length:=by
   have:=congrArg List.length hd
   simp at this
   omega
  have hy:b.getD k 0=y:=by
   have:=congrArg (·[0]?) hd
   simp only [List.getElem?_drop,Nat.add_zero,List.getElem?_cons_zero] at this
   rw [List.getD_eq_getElem?_getD,this]
   rfl
  have hyb:y < 4294967296:=by rw [← hy]; exact dQ hb k
  have hob:o < 4294967296:=(eX.1 hLS).1
  have e0:bH (aP a) (i:Int)=some (.ipt [U (a.getD i 0:Nat)]):=df rfl hi
  generalize a.getD i 0=x at hx e0 ih ⊢
  have hml:=LY hx hyb hob hc
  have hxy:x*y < 18446744073709551616:=by omega
  have ih':=ih (k+1) (D++[(x*y+o+c) % 4294967296]) S ((x*y+o+c) / 4294967296) (by rw [← List.drop_drop,hd]; rfl) hlt (by simp [hD]; omega) (by simpa using hS) (by simpa using hn) (eX.1 hLS).2 (by omega)
  have e1:((k:Int) < (b.length:Int))=True:=tt (by omega)
  have e2:bH (aP b) (k:Int)=some (.ipt [U (y:Nat)]):=by rw [df rfl hlt,hy]
  have e3:IntKind.i64.wrap ((k:Int)+1)=((k+1:Nat):Int):=wi (by omega) (by omega)
  have e4:IntKind.i64.wrap ((i:Int)+(k:Int))=((i+k:Nat):Int):=wi (by omega) (by omega)
  have e5:(0≤((i+k:Nat):Int))=True:=tt (by omega)
  have hin:i+k < n:=by rw [← hn]; simp [hD]
  have e6:(((i+k:Nat):Int) < (n:Int))=True:=tt (by omega)
  have e7:(aP (D++o::S))[i+k]?=some [U (o:Nat)]:=by
   rw [qZ (by simp [hD])]
   simp [List.getD_eq_getElem?_getD,hD]
  have f1:IntKind.u64.wrap (x:Int)=x:=pf rfl (by omega)
  have f2:IntKind.u64.wrap (y:Int)=y:=pf rfl (by omega)
  have f3:IntKind.u64.wrap ((x:Int)*(y:Int))=((x*y:Nat):Int):=pf (by simp) hxy
  have f4:IntKind.u64.wrap (o:Int)=o:=pf rfl (by omega)
  have f5:IntKind.u64.wrap (((x*y:Nat):Int)+(o:Int))=((x*y+o:Nat):Int):=pf (by omega) (by omega)
  have f6:IntKind.u64.wrap (((x*y+o:Nat):Int)+(c:Int))=((x*y+o+c:Nat):Int):=pf (by omega) (by omega)
  have f10:=ajB (n:=x*y+o+c) rfl (by omega)
  have f7:IntKind.u32.wrap (((x*y+o+c) % 4294967296:Nat):Int)=(((x*y+o+c) % 4294967296:Nat):Int):=PF rfl (by omega)
  have f8:=xT (n:=x*y+o+c) (k:=32) (kk:=.u64) (j:=32) rfl rfl (by omega)
  have f9:(aP (D++o::S)).set (i+k) [U ((x*y+o+c) % 4294967296:Nat)]=aP (D++[(x*y+o+c) % 4294967296]++S):=by
   rw [re,← hD,List.set_append_right _ _ (Nat.le_refl _)]
   simp
  rw [aA]
  generalize aU _ _ _=L at ih' ⊢
  simp only [ajM,go_sem,↓reduceIte,aez,aeC,aeE,aeD,h0,h1',h5,h6,h7,h8,hh,e0,e1,e2,e3,e4,e5,e6,e7,f1,f2,f3,f4,f5,f6,f7,f8,f9,f10,Int.toNat_natCast,Nat.zero_add,mi]
  rw [ih' _ _ rfl rfl rfl rfl rfl rfl rfl]
  simp only [List.append_assoc,List.singleton_append]
theorem aoE {a b:List Nat} {i n j:Nat} {rows:List (List AV)} (s:af) (h:aa) (h0:s 0=lm a) (h1:s 1=lm b) (h5:s 5=.rsl 18 none 1 0 n) (h6:s 6=I i) (h7:s 7=W 0) (h10:s 10=I j) (hh:h 18=.ar 1 rows) :
  aI 4 [0,1,5,6] (aU (az R (ab false) aja) [0,1,5,6,7,10] [18] s h)=some (.normal,⟨upd (upd (upd (upd (fun _=>.any) 6 (I i)) 5 (.rsl 18 none 1 0 n)) 1 (lm b)) 0 (lm a),upd (fun _=>.dead) 18 (.ar 1 rows)⟩):=by
 rw [aA]
 simp only [aja,go_sem,↓reduceIte,aez,aeD,h0,h1,h5,h6,h7,h10,hh,Int.lt_irrefl]
theorem atJ {a b:List Nat} {i n j c:Nat} {rows rows':List (List AV)} (hc:c < 4294967296) (hj:j < n) (hn:n≤1000000) (hg:rows[j]?=some [U (0:Nat)]) (hs:rows.set j [U (c:Nat)]=rows') (hz:c=0→rows=rows') (s:af) (h:aa) (h0:s 0=lm a) (h1:s 1=lm b) (h5:s 5=.rsl 18 none 1 0 n) (h6:s 6=I i) (h7:s 7=W c) (h10:s 10=I j) (hh:h 18=.ar 1 rows) :
  aI 4 [0,1,5,6] (aU (az R (ab false) aja) [0,1,5,6,7,10] [18] s h)=some (.normal,⟨upd (upd (upd (upd (fun _=>.any) 6 (I i)) 5 (.rsl 18 none 1 0 n)) 1 (lm b)) 0 (lm a),upd (fun _=>.dead) 18 (.ar 1 rows')⟩):=by
 by_cases h00:c=0
 ·rw [h00] at h7
  rw [← hz h00]
  exact aoE s h h0 h1 h5 h6 h7 h10 hh
 ·have e1:(0 < (c:Int))=True:=tt (by omega)
  have e2:(0≤(j:Int))=True:=tt (by omega)
  have e3:((j:Int) < (n:Int))=True:=tt (by omega)
  have e4:IntKind.u64.wrap ((0:Nat):Int)=((0:Nat):Int):=pf rfl (by omega)
  have e5:IntKind.u64.wrap (((0:Nat):Int)+(c:Int))=(c:Int):=pf (by omega) (by omega)
  have e6:=ajB (n:=c) rfl (by omega)
  rw [Nat.mod_eq_of_lt hc] at e6
  have e7:IntKind.u32.wrap (c:Int)=(c:Int):=PF rfl hc
  have e8:=xT (n:=c) (k:=32) (kk:=.u64) (j:=32) rfl rfl (by omega)
  rw [Nat.div_eq_of_lt hc] at e8
  have e9:IntKind.i64.wrap ((j:Int)+1)=((j+1:Nat):Int):=wi (by omega) (by omega)
  have c0:=aoE (a:=a) (b:=b) (i:=i) (n:=n) (j:=j+1) (rows:=rows')
  rw [aA]
  generalize aU _ _ _=L at c0 ⊢
  simp only [aja,go_sem,↓reduceIte,aez,aeC,aeD,h0,h1,h5,h6,h7,h10,hh,e1,e2,e3,e4,e5,e6,e7,e8,e9,hg,hs,Int.toNat_natCast,Nat.zero_add]
  exact c0 _ _ rfl rfl rfl rfl rfl rfl rfl
theorem arY {a b:List Nat} (ha:Lb a) (hb:Lb b) (h1:a.length≤10000) (h2:b.length≤10000):∀ (k i:Nat),i+k=a.length→∀ (s:af) (h:aa),s 0=lm a→s 1=lm b→s 5=.rsl 18 none 1 0 (a.length+b.length+1)→s 6=I i→h 18=.ar 1 (aP (bF a b i++List.replicate (k+1) 0)) →
  aI 0 [5] (aU (az R (ab false) ajb) [0,1,5,6] [18] s h) =
   some (.normal,⟨upd (fun _=>.any) 5 (.rsl 18 none 1 0 (a.length+b.length+1)),upd (fun _=>.dead) 18 (.ar 1 (aP (bF a b a.length++[0])))⟩):=by
 intro k
 induction k with
 | zero =>
  intro i hi s h h0 h1 h5 h6 hh
  have:i=a.length:=by omega
  subst this
  rw [aA]
  simp only [Nat.zero_add,List.replicate_one] at hh
  simp only [ajb,go_sem,↓reduceIte,aez,aeD,h0,h1,h5,h6,hh,Int.lt_irrefl]
 | succ k ih =>
  intro i hi s h h0 g1 h5 h6 hh
  have ih':=ih (i+1) (by omega)
  have hx:=dQ ha i
  have hP:(bF a b i).length=i+b.length:=ct _ _
  have hLP:Lb (bF a b i):=py _ _
  have hsp:bF a b i++List.replicate (k+1+1) 0=(bF a b i).take i++((bF a b i).drop i++List.replicate (k+1+1) 0):=by rw [← List.append_assoc,List.take_append_drop]
  have e1:((i:Int) < (a.length:Int))=True:=tt (by omega)
  have e3:IntKind.i64.wrap ((i:Int)+1)=((i+1:Nat):Int):=wi (by omega) (by omega)
  have e4:IntKind.i64.wrap ((i:Int)+(b.length:Int))=((i+b.length:Nat):Int):=wi (by omega) (by omega)
  have lp:=asQ ha hb (i:=i) (n:=a.length+b.length+1) (by omega) (by omega) (by omega) b 0 ((bF a b i).take i) ((bF a b i).drop i++List.replicate (k+1+1) 0) 0 rfl (Nat.zero_le _) (by simp [hP]) (by simp [hP]) (by simp [hP]; omega)
   (nN.2 ⟨tD hLP i,fun y hy=>by rw [List.eq_of_mem_replicate hy]; omega⟩) (by omega)
  rw [LX _ _ _ _ _ (by simp [hP])] at lp
  have ml:(mi (a.getD i 0) 0 b ((bF a b i).drop i)).1.length=b.length:=by rw [xf]; simp [hP]
  have mc:=zX hx b ((bF a b i).drop i) 0 hb (tD hLP i) (by omega)
  have ps:=L4 ha hb (show i < a.length from by omega)
  rw [hsp] at hh
  generalize mi (a.getD i 0) 0 b ((bF a b i).drop i)=r at *
  have hlen:((bF a b i).take i++r.1).length=i+b.length:=by simp [hP,ml]
  have e7:(aP ((bF a b i).take i++(r.1++List.replicate (k+1+1) 0)))[i+b.length]?=some [U (0:Nat)]:=by
   rw [← List.append_assoc,qZ (by simp [hP,ml]),List.getD_eq_getElem?_getD,List.getElem?_append_right (by omega)]
   simp [hlen]
  have e8:(aP ((bF a b i).take i++(r.1++List.replicate (k+1+1) 0))).set (i+b.length) [U (r.2:Nat)]=aP (bF a b (i+1)++List.replicate (k+1) 0):=by
   rw [← List.append_assoc,re]
   have:=rP ((bF a b i).take i++r.1) (k+1+1) r.2 0 (by omega)
   rw [hlen] at this
   have e:(bF a b i).take i++r.1++[r.2]=bF a b (i+1):=by rw [List.append_assoc]; exact ps
   rw [this,e]
   rfl
  have hz:r.2=0→aP ((bF a b i).take i++(r.1++List.replicate (k+1+1) 0))=aP (bF a b (i+1)++List.replicate (k+1) 0):=fun h0=>by
   rw [← ps,h0,List.replicate_succ]
   simp only [List.append_assoc,List.singleton_append]
  have lc:=atJ (a:=a) (b:=b) (i:=i) (n:=a.length+b.length+1) (j:=i+b.length) mc (by omega) (by omega) e7 e8 hz
  rw [aA]
  generalize aU (az R (ab false) ajb) _ _=L at ih' ⊢
  simp only [Int.natCast_zero] at lp
  simp only [ajb,go_sem,↓reduceIte,aez,aeD,h0,g1,h5,h6,hh,e1]
  rw [lp _ _ rfl rfl rfl rfl rfl rfl rfl]
  simp only [go_sem,↓reduceIte,aez,e4]
  rw [lc _ _ rfl rfl rfl rfl rfl rfl rfl]
  simp only [go_sem,↓reduceIte,aez,e3]
  exact ih' _ _ rfl rfl rfl rfl rfl
theorem arZ {a b:List Nat} (ha:Lb a) (hb:Lb b) (h1:a.length≤10000) (h2:b.length≤10000):R F.r02_times [lm a,lm b] []=some (lm (av (ac a*ac b)),[]):=by
 refine aZ apo apn (amL false) rfl ?_
 have e1:IntKind.i64.wrap ((a.length:Int)+(b.length:Int))=((a.length+b.length:Nat):Int):=wi (by omega) (by omega)
 have e1':IntKind.i64.wrap (((a.length+b.length:Nat):Int)+1)=((a.length+b.length+1:Nat):Int):=wi (by omega) (by omega)
 have e2:=qm (i:=((a.length+b.length+1:Nat):Int)) (j:=((a.length+b.length+1:Nat):Int)) rfl rfl (Nat.le_refl _) (by omega)
 have e3:((a.length+b.length+1)*4≤140737488355328)=True:=tt (by omega)
 have e4:=arY ha hb h1 h2 a.length 0 (by omega)
 have e0:bF a b 0=List.replicate b.length 0:=by
  have:∀ n,dj n 0=List.replicate n 0:=fun n=>by
   induction n with
   | zero=>rfl
   | succ n ih=>simp [dj,ih,List.replicate_succ]
  simp [bF,ac,this]
 have e5:aP (List.replicate (a.length+b.length+1) 0)=aP (bF a b 0++List.replicate (a.length+1) 0):=by
  rw [e0,List.replicate_append_replicate,show b.length+(a.length+1)=a.length+b.length+1 by omega]
 have e6:bF a b a.length=dj (a.length+b.length) (ac a*ac b):=by rw [bF,List.take_length]
 have hLb:Lb (bF a b a.length++[0]):=nN.2 ⟨by rw [e6]; exact py _ _,eX.2 ⟨by decide,AY⟩⟩
 have hlen:(bF a b a.length++[0]).length=a.length+b.length+1:=by rw [e6]; simp [ct]
 have hv:ac (bF a b a.length++[0])=ac a*ac b:=by
  rw [fu,e6,pz,Nat.mod_eq_of_lt]
  ·simp [ac]
  ·rw [Nat.pow_add]
   exact Nat.mul_lt_mul'' (ju ha) (ju hb)
 have ht:=akk hLb (by rw [hlen]; omega)
 rw [hv] at ht
 have f4:=ajC (bF a b a.length++[0])
 rw [hlen] at f4
 simp only [akd,alP,go_sem,↓reduceIte,aez,e1,e1',e2,e3,tJ,e5]
 rw [e4 _ _ rfl rfl rfl rfl rfl]
 simp only [go_sem,↓reduceIte,aez,aeB,aeA,f4,ht,hlen,ab4,Nat.zero_add,Nat.le_refl]
end Go.Ab
namespace Go.Ab
open Go Go.IntWalk
set_option maxRecDepth 4000
set_option maxHeartbeats 1000000
theorem awE {m n:Nat} {i j:Int} (hi:i=m) (hj:j=n) (hm:m < 4294967296) (hn:n < 4294967296):dB .or (.v (.int .u32 i)) (.v (.int .u32 j))=some (.v (.int .u32 ((m ||| n:Nat):Int))):=by
 subst hi hj
 rw [RX]
 have e:(BitVec.ofInt IntKind.u32.bits (m:Int) ||| BitVec.ofInt IntKind.u32.bits (n:Int)).toNat=m ||| n:=by
  show (BitVec.ofInt 32 (m:Int) ||| BitVec.ofInt 32 (n:Int)).toNat=m ||| n
  rw [BitVec.toNat_or]
  simp
  rw [Nat.mod_eq_of_lt hm,Nat.mod_eq_of_lt hn]
 rw [e]
 rw [PF rfl (Nat.or_lt_two_pow (n:=32) hm hn)]
theorem atK {x c r:Nat} (hr:r < 32) (hc:c < 2 ^ r):(c ||| x*2 ^ r % 4294967296)=(x*2 ^ r+c) % 4294967296∧x*2 ^ r / 4294967296=(x*2 ^ r+c) / 4294967296:=by
 have e:(4294967296:Nat)=2 ^ (32 - r)*2 ^ r:=by rw [← Nat.pow_add,show 32 - r+r=32 from by omega]
 have h1:x*2 ^ r % 4294967296=x % 2 ^ (32 - r)*2 ^ r:=by
  conv=>lhs; rw [e]
  rw [Nat.mul_mod_mul_right]
 have h2:x % 2 ^ (32 - r)*2 ^ r+2 ^ r≤4294967296:=by
  have h3:(x % 2 ^ (32 - r)+1)*2 ^ r≤2 ^ (32 - r)*2 ^ r:=Nat.mul_le_mul_right _ (Nat.mod_lt _ (Nat.two_pow_pos _))
  rw [← e,Nat.add_mul,Nat.one_mul] at h3
  exact h3
 constructor
 ·rw [Nat.or_comm,h1,L5 hc,← h1]
  omega
 ·omega
theorem ar0 {a:List Nat} (ha:Lb a) {n:Nat} (h1:a.length≤100000) (hq:n / 32≤a.length):∀ (k j:Nat),n / 32+j+k=a.length→∀ (s:af) (h:aa),s 0=lm a→s 1=I n→s 6=I (n / 32+j:Nat)→l4 33 (pG (a.drop (n / 32)) (n % 32) j) (s 5) (h 33) →
  ∃ x hh,aI 0 [5] (aU (az R (ab false) aij) [0,1,5,6] [33] s h)=some (.normal,⟨upd (fun _=>.any) 5 x,hh⟩)∧l4 33 (pG (a.drop (n / 32)) (n % 32) (a.length - n / 32)) x (hh 33)∧∀ a,a ≠ 33→hh a=.dead:=by
 intro k
 induction k with
 | zero =>
  intro j hi s h h0 g1 h6 hacc
  have e1:(((n / 32+j:Nat):Int) < (a.length:Int))=False:=ff (by omega)
  have:j=a.length - n / 32:=by omega
  rw [← this]
  rw [aA]
  rcases hacc with ⟨g2,h5,hh⟩ | ⟨g2,h5,hh⟩
  ·refine ⟨.emp,?hh0,?_,Or.inl ⟨g2,rfl,?_⟩,?_⟩
   rotate_left
   ·simp only [aij,go_sem,↓reduceIte,aez,h0,g1,h5,h6,hh,e1]
    rfl
   ·rfl
   ·intro b hb
    simp only [jg,hb,if_false]
  ·refine ⟨.rsl 33 none 1 0 (pG (a.drop (n / 32)) (n % 32) j).length,?hh1,?_,Or.inr ⟨g2,rfl,?_⟩,?_⟩
   rotate_left
   ·simp only [aij,go_sem,↓reduceIte,aez,aeD,h0,g1,h5,h6,hh,e1]
    rfl
   ·rfl
   ·intro b hb
    simp only [jg,hb,if_false]
 | succ k ih =>
  intro j hi s h h0 g1 h6 hacc
  have ih':=ih (j+1) (by omega)
  have hx:=dQ ha (n / 32+j)
  have hy:=dQ ha (n / 32+j+1)
  have hr:n % 32 < 32:=Nat.mod_lt _ (by omega)
  have t1:=akT (m:=a) (i:=n / 32+j) ha (by omega)
  have t2:=akT (m:=a) (i:=n / 32+j+1) ha (by omega)
  have e1:(((n / 32+j:Nat):Int) < (a.length:Int))=True:=tt (by omega)
  have e3:IntKind.i64.wrap (((n / 32+j:Nat):Int)+1)=((n / 32+j+1:Nat):Int):=wi (by omega) (by omega)
  have e5:=IS (n:=n) (m:=32) (j:=32) rfl rfl (by omega)
  have q1:((pG (a.drop (n / 32)) (n % 32) j).length+1)*4≤140737488355328:=by rw [pU]; omega
  have f3:=tt q1
  have f6:=PI (n:=a.getD (n / 32+j+1) 0) (k:=32) (kk:=.u64) (j:=32) rfl rfl (by omega) (by omega)
  have f7:IntKind.u64.wrap ((a.getD (n / 32+j) 0:Int)+((a.getD (n / 32+j+1) 0*2 ^ 32:Nat):Int))=((a.getD (n / 32+j) 0+4294967296*a.getD (n / 32+j+1) 0:Nat):Int):=pf (by omega) (by omega)
  have f8:=xT (n:=a.getD (n / 32+j) 0+4294967296*a.getD (n / 32+j+1) 0) (k:=n % 32) (kk:=.i64) (j:=((n % 32:Nat):Int)) rfl rfl (by omega)
  have f9:=ajB (n:=(a.getD (n / 32+j) 0+4294967296*a.getD (n / 32+j+1) 0) / 2 ^ (n % 32)) rfl (Nat.lt_of_le_of_lt (Nat.div_le_self _ _) (by omega))
  have f11:(a.getD (n / 32+j) 0+4294967296*a.getD (n / 32+j+1) 0) / 2 ^ (n % 32) % 4294967296=uS (a.drop (n / 32)) (n % 32) j:=by
   unfold uS
   have hg:∀ i,(a.drop (n / 32)).getD i 0=a.getD (n / 32+i) 0:=fun i=>by
    rw [List.getD_eq_getElem?_getD,List.getElem?_drop,← List.getD_eq_getElem?_getD]
   rw [hg,hg,show n / 32+(j+1)=n / 32+j+1 from rfl]
  rw [f11] at f9
  have f10:IntKind.u32.wrap ((uS (a.drop (n / 32)) (n % 32) j:Nat):Int)=((uS (a.drop (n / 32)) (n % 32) j:Nat):Int):=PF rfl (Nat.mod_lt _ (by omega))
  rw [aA]
  rw [ana] at ih'
  generalize aU _ _ _=L at ih' ⊢
  rcases hacc with ⟨g2,h5,hh⟩ | ⟨g2,h5,hh⟩
  ·simp only [aij,go_sem,↓reduceIte,aez,aeB,aeA,aeC,aeE,h0,g1,h5,h6,hh,e1,e3,e5,t1,t2,f6,f7,f8,f9,f10]
   rw [g2] at ih'
   exact ih' _ _ rfl rfl rfl ajd
  ·simp only [aij,go_sem,↓reduceIte,aez,aeB,aeA,aeC,aeE,aeD,h0,g1,h5,h6,hh,e1,e3,e5,t1,t2,f3,f6,f7,f8,f9,f10,true_or,Nat.zero_add,Nat.le_refl,aiM]
   exact ih' _ _ rfl rfl rfl aiY
theorem atL {a:List Nat} (ha:Lb a) {n:Nat} (h1:a.length≤10000) (hn:n≤10000000):R F.r01_Shr [lm a,I n] []=some (lm (av (ac a / 2 ^ n)),[]):=by
 refine aZ arr arq (aoo false) rfl ?_
 have e1:=IT (n:=n) (m:=32) (j:=32) rfl rfl (by omega) (by omega)
 by_cases hq:n / 32≤a.length
 ·have hd:=tD ha (n / 32)
  have hv:ac a / 2 ^ n=ac (a.drop (n / 32)) / 2 ^ (n % 32):=by
   rw [G7 ha,Nat.div_div_eq_div_mul,xg]
  rw [hv]
  have hr:=ar0 ha (n:=n) (by omega) hq (a.length - n / 32) 0 (by omega)
  have hall:=Oh hd (r:=n % 32) (by have:n % 32 < 32:=Nat.mod_lt _ (by omega); omega)
  rw [List.length_drop] at hall
  have hL:=pU (a.drop (n / 32)) (n % 32) (a.length - n / 32)
  have hLb:Lb (pG (a.drop (n / 32)) (n % 32) (a.length - n / 32)):=by
   rw [hall]
   exact py _ _
  have hvv:ac (pG (a.drop (n / 32)) (n % 32) (a.length - n / 32))=ac (a.drop (n / 32)) / 2 ^ (n % 32):=by
   rw [hall,pz,Nat.mod_eq_of_lt]
   have:=ju hd
   rw [List.length_drop] at this
   exact Nat.lt_of_le_of_lt (Nat.div_le_self _ _) this
  have q0:l4 33 (pG (a.drop (n / 32)) (n % 32) 0) .emp .dead:=Or.inl ⟨rfl,rfl,rfl⟩
  have ht:=aj0 hLb (by rw [hL]; omega)
  rw [hvv] at ht
  rw [Nat.add_zero] at hr
  generalize hLL:aU (az R (ab false) aij) [0,1,5,6] [33]=L at hr
  have hX:∀ s h,az R (ab false) (.loop [0,1,5,6] [33] aij) s h=L s h:=fun s h=>by rw [← hLL]; rfl
  clear hLL
  generalize pG (a.drop (n / 32)) (n % 32) 0=o0 at hr q0
  generalize pG (a.drop (n / 32)) (n % 32) (a.length - n / 32)=out at hr hall hL hLb hvv ht
  generalize av (ac (a.drop (n / 32)) / 2 ^ (n % 32))=res at ht ⊢
  have hr2:∀ (S:af) (H:aa) (X:Option (Ex × St)),aI 0 [5] (L S H)=X→S 0=lm a→S 1=I n→S 6=I (n / 32:Nat)→S 5=.emp→H 33=.dead→∃ x hh,X=some (.normal,⟨upd (fun _=>.any) 5 x,hh⟩)∧l4 33 out x (hh 33)∧∀ a,a ≠ 33→hh a=.dead:=fun S H X hX a0 a1 a6 a5 b=>by
   rw [← hX]
   exact hr S H a0 a1 a6 (by rw [a5,b]; exact q0)
  simp only [akf,alu,hX,go_sem,↓reduceIte,aez,e1]
  generalize hB:aI 0 [5] (L _ _)=X
  obtain ⟨x,hh,g0,hacc,gd⟩:=hr2 _ _ _ hB rfl rfl rfl rfl rfl
  rw [g0]
  rcases hacc with ⟨c1,c2,c3⟩ | ⟨c1,c2,c3⟩
  ·rw [c1] at ht
   simp only [go_sem,↓reduceIte,aez,aeB,aeA,c2,ht,ne_eq,not_false_eq_true,gd]
  ·simp only [go_sem,↓reduceIte,aez,aeB,aeA,c2,c3,ht,ne_eq,not_false_eq_true,gd,ajC,Nat.zero_add,Nat.le_refl]
 ·have hz:ac a / 2 ^ n=0:=by
   rw [← xg n,← Nat.div_div_eq_div_mul,← G7 ha,List.drop_of_length_le (by omega)]
   exact Nat.zero_div _
  have e2:(((n / 32:Nat):Int) < (a.length:Int))=False:=ff (by omega)
  have ht:=aj0 (m:=[]) AY (by simp)
  rw [hz,fM]
  rw [show ac []=0 from rfl,fM] at ht
  have hL:∀ s h,s 0=lm a→s 1=I n→s 6=I (n / 32:Nat)→s 5=.emp→h 33=.dead→aI 0 [5] (aU (az R (ab false) aij) [0,1,5,6] [33] s h)=some (.normal,⟨upd (fun _=>.any) 5 .emp,upd (fun _=>.dead) 33 .dead⟩):=fun s h h0 g1 h6 h5 hh=>by
   rw [aA]
   simp only [aij,go_sem,↓reduceIte,aez,h0,g1,h5,h6,hh,e2]
  simp only [akf,alu,go_sem,↓reduceIte,aez,e1]
  rw [hL _ _ rfl rfl rfl rfl rfl]
  simp only [go_sem,↓reduceIte,aez,aeB,aeA,ht]
def shO (a:List Nat) (q r i k:Nat):List Nat:=List.replicate q 0++nP a r i++fW a r i::List.replicate k 0
theorem ar1 {a:List Nat} (ha:Lb a) {n:Nat} (h1:a.length≤100000) (hq:n / 32≤100000):∀ (k i:Nat),i+k=a.length→∀ (s:af) (h:aa),s 0=lm a→s 1=I n→s 5=.rsl 16 none 1 0 (n / 32+a.length+1)→s 6=I i→h 16=.ar 1 (aP (shO a (n / 32) (n % 32) i k)) →
  aI 0 [5] (aU (az R (ab false) akg) [0,1,5,6] [16] s h)=some (.normal,⟨upd (fun _=>.any) 5 (.rsl 16 none 1 0 (n / 32+a.length+1)),upd (fun _=>.dead) 16 (.ar 1 (aP (shO a (n / 32) (n % 32) a.length 0)))⟩):=by
 intro k
 induction k with
 | zero =>
  intro i hi s h h0 g1 h5 h6 hh
  have:i=a.length:=by omega
  subst this
  rw [aA]
  simp only [akg,go_sem,↓reduceIte,aez,aeD,h0,g1,h5,h6,hh,Int.lt_irrefl]
 | succ k ih =>
  intro i hi s h h0 g1 h5 h6 hh
  have ih':=ih (i+1) (by omega)
  have hx:=dQ ha i
  have hr:n % 32 < 32:=Nat.mod_lt _ (by omega)
  have hc:=Bq ha (r:=n % 32) i
  have hp:2 ^ (n % 32)≤2 ^ 31:=Nat.pow_le_pow_right (by omega) (by omega)
  have hxp:a.getD i 0*2 ^ (n % 32)≤4294967295*2 ^ 31:=Nat.mul_le_mul (by omega) hp
  obtain ⟨l1,l2⟩:=atK (x:=a.getD i 0) (c:=fW a (n % 32) i) hr hc
  have hlen:(List.replicate (n / 32) 0++nP a (n % 32) i).length=i+n / 32:=by
   rw [List.length_append,List.length_replicate,qS]
   omega
  have e1:((i:Int) < (a.length:Int))=True:=tt (by omega)
  have e2:bH (aP a) (i:Int)=some (.ipt [U (a.getD i 0:Nat)]):=df rfl (by omega)
  have e3:IntKind.i64.wrap ((i:Int)+1)=((i+1:Nat):Int):=wi (by omega) (by omega)
  have e4:IntKind.u64.wrap (a.getD i 0:Int)=(a.getD i 0:Int):=pf rfl (by omega)
  have e5:=IS (n:=n) (m:=32) (j:=32) rfl rfl (by omega)
  have e6:=PI (n:=a.getD i 0) (k:=n % 32) (kk:=.i64) (j:=((n % 32:Nat):Int)) rfl rfl (by omega) (by omega)
  have e7:=IT (n:=n) (m:=32) (j:=32) rfl rfl (by omega) (by omega)
  have e8:IntKind.i64.wrap ((i:Int)+((n / 32:Nat):Int))=((i+n / 32:Nat):Int):=wi (by omega) (by omega)
  have e9:IntKind.i64.wrap (((i+n / 32:Nat):Int)+1)=((i+n / 32+1:Nat):Int):=wi (by omega) (by omega)
  have b1:(0≤((i+n / 32:Nat):Int))=True:=tt (by omega)
  have b2:(((i+n / 32:Nat):Int) < ((n / 32+a.length+1:Nat):Int))=True:=tt (by omega)
  have b3:(0≤((i+n / 32+1:Nat):Int))=True:=tt (by omega)
  have b4:(((i+n / 32+1:Nat):Int) < ((n / 32+a.length+1:Nat):Int))=True:=tt (by omega)
  have f1:=ajB (n:=a.getD i 0*2 ^ (n % 32)) rfl (by omega)
  have f2:IntKind.u32.wrap ((a.getD i 0*2 ^ (n % 32) % 4294967296:Nat):Int)=((a.getD i 0*2 ^ (n % 32) % 4294967296:Nat):Int):=PF rfl (by omega)
  have f3:=awE (m:=fW a (n % 32) i) (n:=a.getD i 0*2 ^ (n % 32) % 4294967296) rfl rfl (by omega) (by omega)
  rw [l1] at f3
  have f4:=xT (n:=a.getD i 0*2 ^ (n % 32)) (k:=32) (kk:=.u64) (j:=32) rfl rfl (by omega)
  rw [show a.getD i 0*2 ^ (n % 32) / 2 ^ 32=fW a (n % 32) (i+1) from l2] at f4
  have f5:IntKind.u32.wrap ((fW a (n % 32) (i+1):Nat):Int)=((fW a (n % 32) (i+1):Nat):Int):=PF rfl (by have:=Bq ha (r:=n % 32) (i+1); omega)
  have r1:(aP (shO a (n / 32) (n % 32) i (k+1)))[i+n / 32]?=some [U (fW a (n % 32) i:Nat)]:=by
   unfold shO
   rw [qZ (by rw [List.length_append,hlen]; simp),List.getD_eq_getElem?_getD,List.getElem?_append_right (by omega),hlen]
   simp
  have r2:(aP (shO a (n / 32) (n % 32) i (k+1))).set (i+n / 32) [U ((a.getD i 0*2 ^ (n % 32)+fW a (n % 32) i) % 4294967296:Nat)]=aP (List.replicate (n / 32) 0++nP a (n % 32) (i+1)++List.replicate (k+1) 0):=by
   unfold shO
   rw [re,← hlen,List.set_append_right _ _ (Nat.le_refl _)]
   simp [nP,List.range_succ]
  have hlen2:(List.replicate (n / 32) 0++nP a (n % 32) (i+1)).length=i+n / 32+1:=by
   rw [List.length_append,List.length_replicate,qS]
   omega
  have r3:(aP (List.replicate (n / 32) 0++nP a (n % 32) (i+1)++List.replicate (k+1) 0))[i+n / 32+1]?=some [U (0:Nat)]:=by
   rw [qZ (by rw [List.length_append,hlen2]; simp),List.getD_eq_getElem?_getD,List.getElem?_append_right (by omega),hlen2]
   simp [List.replicate_succ]
  have r4:(aP (List.replicate (n / 32) 0++nP a (n % 32) (i+1)++List.replicate (k+1) 0)).set (i+n / 32+1) [U (fW a (n % 32) (i+1):Nat)]=aP (shO a (n / 32) (n % 32) (i+1) k):=by
   unfold shO
   rw [re,← hlen2,List.set_append_right _ _ (Nat.le_refl _)]
   simp [List.replicate_succ]
  rw [aA]
  generalize aU _ _ _=L at ih' ⊢
  simp only [akg,go_sem,↓reduceIte,aez,aeC,aeD,h0,g1,h5,h6,hh,e1,e2,e3,e4,e5,e6,e7,e8,e9,b1,b2,b3,b4,f1,f2,f3,f4,f5,r1,r2,r3,r4,Int.toNat_natCast,Nat.zero_add]
  exact ih' _ _ rfl rfl rfl rfl rfl
theorem apG {a:List Nat} (ha:Lb a) {n:Nat} (h1:a.length≤10000) (hn:n≤1000000):R F.r01_Shl [lm a,I n] []=some (lm (av (ac a*2 ^ n)),[]):=by
 refine aZ arx arw (aor false) rfl ?_
 have hT:=aj0 ha (by omega)
 have la:=dJ a ha
 obtain ⟨m,hm⟩:∃ m,av (ac a)=m:=⟨_,rfl⟩
 have hmb:Lb m:=by rw [← hm]; exact ce _
 have hmv:ac m=ac a:=by rw [← hm]; exact bL _
 rw [hm] at hT la
 rw [← hmv]
 clear hm hmv
 have e1:=IT (n:=n) (m:=32) (j:=32) rfl rfl (by omega) (by omega)
 have e2:IntKind.i64.wrap (((n / 32:Nat):Int)+(m.length:Int))=((n / 32+m.length:Nat):Int):=wi (by omega) (by omega)
 have e3:IntKind.i64.wrap (((n / 32+m.length:Nat):Int)+1)=((n / 32+m.length+1:Nat):Int):=wi (by omega) (by omega)
 have e4:=qm (i:=((n / 32+m.length+1:Nat):Int)) (j:=((n / 32+m.length+1:Nat):Int)) rfl rfl (Nat.le_refl _) (by omega)
 have e5:((n / 32+m.length+1)*4≤140737488355328)=True:=tt (by omega)
 have e7:aP (List.replicate (n / 32+m.length+1) 0)=aP (shO m (n / 32) (n % 32) 0 m.length):=by
  unfold shO
  rw [show n / 32+m.length+1=n / 32+(m.length+1) from rfl,← List.replicate_append_replicate,List.replicate_succ]
  simp [nP,fW]
 have e6:=ar1 hmb (n:=n) (by omega) (by omega) m.length 0 (by omega)
 have hall:=Qw hmb n
 have hO:shO m (n / 32) (n % 32) m.length 0=dj (n / 32+m.length+1) (ac m*2 ^ n):=by
  rw [← hall]
  rfl
 rw [hO] at e6
 have ht:=aj0 (py (n / 32+m.length+1) (ac m*2 ^ n)) (by rw [ct]; omega)
 have hv:ac (dj (n / 32+m.length+1) (ac m*2 ^ n))=ac m*2 ^ n:=by
  rw [pz,Nat.mod_eq_of_lt]
  have h:=ju hmb
  have h2:2 ^ n≤4294967296 ^ (n / 32+1):=by
   rw [show (4294967296:Nat)=2 ^ 32 from rfl,← Nat.pow_mul]
   exact Nat.pow_le_pow_right (by omega) (by omega)
  rw [show n / 32+m.length+1=m.length+(n / 32+1) from by omega,Nat.pow_add]
  exact Nat.mul_lt_mul_of_lt_of_le h h2 (Nat.pow_pos (by omega))
 rw [hv] at ht
 have f4:=ajC (dj (n / 32+m.length+1) (ac m*2 ^ n))
 rw [ct] at f4
 simp only [akF,am4,go_sem,↓reduceIte,aez,aeB,aeA,hT,e1,e2,e3,e4,e5,tJ,e7]
 rw [e6 _ _ rfl rfl rfl rfl rfl]
 simp only [go_sem,↓reduceIte,aez,aeB,aeA,f4,ht,ab4,ct,Nat.zero_add,Nat.le_refl]
end Go.Ab
namespace Go.Ab
open Go Go.IntWalk
set_option maxRecDepth 4000
set_option maxHeartbeats 1000000
theorem ai5 {d:Rd} (ok:Ok0 d):R F.r02_Valid [aF d] []=some (B (vd d),[]):=by
 refine aZ aoZ aoY (amA false) rfl ?_
 unfold vd
 have hl:=ok.len
 by_cases a0:d.m.length=0
 ·rw [if_pos a0]
  have e1:((d.m.length:Int)=0)=True:=tt (by omega)
  cases hn:d.neg with
  | true=>simp only [aia,aim,aF,aW,hn,go_sem,↓reduceIte,aez,aeB,aeA,e1,Bool.not_true,Bool.false_and]
  | false=>simp only [aia,aim,aF,aW,hn,go_sem,↓reduceIte,aez,aeB,aeA,e1,Bool.not_false,Bool.true_and]
 rw [if_neg a0]
 have e1:((d.m.length:Int)=0)=False:=ff (by omega)
 by_cases a1:¬ d.m.length≤256
 ·have e2:(256 < (d.m.length:Int))=True:=tt (by omega)
  rw [decide_eq_false a1,Bool.false_and]
  simp only [aia,aim,aF,aW,go_sem,↓reduceIte,aez,aeB,aeA,e1,e2]
 replace a1:=Decidable.not_not.1 a1
 have e2:(256 < (d.m.length:Int))=False:=ff (by omega)
 have e3:bH (aP d.m) 0=some (.ipt [U (d.m.getD 0 0:Nat)]):=df rfl (by omega)
 have e6:IntKind.i64.wrap ((d.m.length:Int) - 1)=((d.m.length - 1:Nat):Int):=wi (by omega) (by omega)
 have e7:bH (aP d.m) ((d.m.length - 1:Nat):Int)=some (.ipt [U (d.m.getD (d.m.length - 1) 0:Nat)]):=df rfl (by omega)
 have hx:=dQ ok.lb 0
 rw [decide_eq_true a1,Bool.true_and]
 by_cases a3:d.m.getD (d.m.length - 1) 0=0
 ·have e8:((d.m.getD (d.m.length - 1) 0:Int)=0)=True:=tt (by omega)
  rw [decide_eq_false (p:=d.m.getD (d.m.length - 1) 0 ≠ 0) (fun h=>h a3),Bool.false_and,Bool.and_false]
  simp only [aia,aim,aF,aW,go_sem,↓reduceIte,aez,aeB,aeA,e1,e2,e6,e7,e8]
 have e8:((d.m.getD (d.m.length - 1) 0:Int)=0)=False:=ff (by omega)
 rw [decide_eq_true (p:=d.m.getD (d.m.length - 1) 0 ≠ 0) a3,Bool.true_and]
 have e4:=aoy (n:=d.m.getD 0 0) rfl hx
 by_cases a2:¬ d.m.getD 0 0 % 2=1
 ·have e5:(((d.m.getD 0 0 % 2:Nat):Int)=0)=True:=tt (by omega)
  rw [decide_eq_false a2,Bool.false_and]
  simp only [aia,aim,aF,aW,go_sem,↓reduceIte,aez,aeB,aeA,e1,e2,e3,e4,e5,e6,e7,e8]
 replace a2:=Decidable.not_not.1 a2
 have e5:(((d.m.getD 0 0 % 2:Nat):Int)=0)=False:=ff (by omega)
 rw [decide_eq_true a2,Bool.true_and]
 have hv:ac d.m ≠ 0:=LN (Or.inr a3) (fun h=>a0 (by rw [h]; rfl))
 have hbp:=kj hv
 unfold qC
 rw [decide_eq_false (p:=am (ac d.m)=0) (by omega),Bool.false_or]
 by_cases a4:d.e < -16384
 ·have f1:(d.e < -16384)=True:=tt a4
  rw [decide_eq_false (p:=-16384≤d.e) (by omega),Bool.false_and,Bool.and_false]
  simp only [aia,aim,aF,aW,go_sem,↓reduceIte,aez,aeB,aeA,e1,e2,e3,e4,e5,e6,e7,e8,f1]
 have f1:(d.e < -16384)=False:=ff a4
 rw [decide_eq_true (p:=-16384≤d.e) (by omega),Bool.true_and]
 by_cases a5:16384 < d.e
 ·have f2:(16384 < d.e)=True:=tt a5
  rw [decide_eq_false (p:=d.e≤16384) (by omega),Bool.false_and,Bool.and_false]
  simp only [aia,aim,aF,aW,go_sem,↓reduceIte,aez,aeB,aeA,e1,e2,e3,e4,e5,e6,e7,e8,f1,f2]
 have f2:(16384 < d.e)=False:=ff a5
 rw [decide_eq_true (p:=d.e≤16384) (by omega),Bool.true_and]
 have hb:=aoz ok.lb (by omega) (Or.inr a3)
 have hbl:=akL ok.lb
 have w1:IntKind.i64.wrap (((am (ac d.m):Nat):Int)+d.e)=((am (ac d.m):Nat):Int)+d.e:=i64_in _ ⟨by omega,by omega⟩
 by_cases a6:am (ac d.m)≤4096
 ·have f3:(((am (ac d.m):Nat):Int)≤4096)=True:=tt (by omega)
  rw [decide_eq_true a6,Bool.true_and]
  simp only [aia,aim,aF,aW,go_sem,↓reduceIte,aez,aeB,aeA,e1,e2,e3,e4,e5,e6,e7,e8,f1,f2,hb,f3,w1]
 ·have f3:(((am (ac d.m):Nat):Int)≤4096)=False:=ff (by omega)
  rw [decide_eq_false a6,Bool.false_and]
  simp only [aia,aim,aF,aW,go_sem,↓reduceIte,aez,aeB,aeA,e1,e2,e3,e4,e5,e6,e7,e8,f1,f2,hb,f3]
theorem ak3 {neg:Bool} {m:List Nat} {e:Int} (hb:Lb m) (h1:m.length≤9000) (he:-1000000≤e∧e≤1000000):R F.r02_Of [B neg,lm m,I e] []=some (aF (bA neg (ac m) e),[]):=by
 refine aZ asx asw (apd false) rfl ?_
 have ht:=akk hb (by omega)
 have la:=dJ m hb
 obtain ⟨M,hM⟩:∃ M,ac m=M:=⟨_,rfl⟩
 rw [hM] at ht la ⊢
 by_cases h0:M=0
 ·have e1:(((av M).length:Int)=0)=True:=tt (by rw [h0,fM]; rfl)
  rw [h0,iL]
  rw [h0] at ht e1
  simp only [aku,alU,aF,aW,fp,go_sem,↓reduceIte,aez,aeB,aeA,aeC,ht,e1]
 ·have e1:(((av M).length:Int)=0)=False:=ff (fun h=>h0 (mn.1 (List.length_eq_zero_iff.1 (by omega))))
  have hz:=arP (ce M) (by omega) (by rw [bL]; exact h0)
  rw [bL] at hz
  have htz:tz M < 32*(av M).length:=by
   refine Pe h0 ?_
   have:=ju (ce M)
   rw [bL] at this
   rw [Nat.pow_mul]
   exact this
  have hr:=arR (ce M) (n:=tz M) (by omega) (by omega)
  rw [bL] at hr
  have w1:IntKind.i64.wrap (e+((tz M:Nat):Int))=e+((tz M:Nat):Int):=i64_in _ ⟨by omega,by omega⟩
  rw [lR h0]
  simp only [aku,alU,aF,aW,go_sem,↓reduceIte,aez,aeB,aeA,aeC,ht,e1,hz,hr,w1]
def aqI (d:Rd):Rd:=⟨!d.neg && decide (0 < d.m.length),d.m,d.e⟩
theorem ak4 {d:Rd}:R F.r02_Neg [aF d] []=some (aF (aqI d),[]):=by
 refine aZ aq8 aq7 (aof false) rfl ?_
 unfold aqI
 cases hn:d.neg with
 | true=>simp only [aj7,alr,aF,aW,go_sem,↓reduceIte,aez,aeB,aeA,aeC,hn,Bool.not_true,Bool.false_and]
 | false =>
  have e:decide (0 < (d.m.length:Int))=decide (0 < d.m.length):=by rw [decide_eq_decide]; omega
  simp only [aj7,alr,aF,aW,go_sem,↓reduceIte,aez,aeB,aeA,aeC,hn,Bool.not_false,Bool.true_and,e]
theorem ak5 {d:Rd} (h:vd d=true):aqI d=ZH d:=by
 unfold aqI ZH
 by_cases h0:d.m.length=0
 ·rw [if_pos (Or.inr h0),decide_eq_false (by omega),Bool.and_false]
  have:=xU h h0
  subst this
  rfl
 ·rw [if_neg (fun h2=>h2.elim (fun h3=>by rw [h] at h3; exact Bool.false_ne_true h3.symm) h0),decide_eq_true (by omega),Bool.and_true]
theorem afT {d:Rd} (h:vd d=true):zI (ZH d)=-zI d∧vd (ZH d)=true:=by
 unfold ZH
 by_cases h0:d.m.length=0
 ·rw [if_pos (Or.inr h0),rf h0]
  exact ⟨by rw [rf rfl]; rfl,rfl⟩
 ·rw [if_neg (fun h2=>h2.elim (fun h3=>by rw [h] at h3; exact Bool.false_ne_true h3.symm) h0)]
  constructor
  ·unfold zI mg
   cases d.neg <;> simp
  ·unfold vd at h ⊢
   rw [if_neg h0] at h ⊢
   exact h
theorem al9 {d:Rd}:R F.r02_Sign [aF d] []=some (I (lQ d),[]):=by
 refine aZ aqf aqe (anF false) rfl ?_
 unfold lQ
 by_cases h0:d.m.length=0
 ·have e1:((d.m.length:Int)=0)=True:=tt (by omega)
  rw [if_pos h0]
  simp only [ajq,akE,aF,aW,go_sem,↓reduceIte,aez,aeB,aeA,e1]
 ·have e1:((d.m.length:Int)=0)=False:=ff (by omega)
  rw [if_neg h0]
  cases hn:d.neg with
  | true =>
   rw [if_pos rfl]
   simp only [ajq,akE,aF,aW,go_sem,↓reduceIte,aez,aeB,aeA,e1,hn]
  | false =>
   rw [if_neg Bool.false_ne_true]
   simp only [ajq,akE,aF,aW,go_sem,↓reduceIte,aez,aeB,aeA,e1,hn]
theorem Oz {d:Rd} (h:vd d=true):uM d.m:=by
 by_cases h0:d.m.length=0
 ·exact Or.inl (List.length_eq_zero_iff.1 h0)
 ·exact Or.inr (rQ h h0).2.2.1
theorem apH {d:Rd} (ok:Ok0 d) (h:vd d=true):R F.r02_Top [aF d] []=some (I (bo d),[]):=by
 refine aZ ark arj (aom false) rfl ?_
 by_cases h0:d.m.length=0
 ·have e1:((d.m.length:Int)=0)=True:=tt (by omega)
  rw [bo,if_pos (Or.inr h0)]
  simp only [aka,alt,aF,aW,go_sem,↓reduceIte,aez,aeB,aeA,e1]
 ·have e1:((d.m.length:Int)=0)=False:=ff (by omega)
  obtain ⟨h1,h2,h3,h4⟩:=kT h ok.lb
  rw [pI h h0]
  have hb:=aoz ok.lb (by omega) (Oz h)
  have w1:IntKind.i64.wrap (((am (ac d.m):Nat):Int)+d.e)=((am (ac d.m):Nat):Int)+d.e:=i64_in _ ⟨by omega,by omega⟩
  simp only [aka,alt,aF,aW,go_sem,↓reduceIte,aez,aeB,aeA,aeC,aeE,aeD,e1,hb,w1]
def fB (z f:Int):Rd:=bA (decide (z < 0)) z.natAbs f
theorem tP {neg:Bool} {n:Nat} {f:Int}:bA neg n f=fB (fX neg n) f:=by
 unfold fB
 by_cases h0:n=0
 ·subst h0
  rw [iL]
  cases neg <;> exact iL.symm
 ·cases neg with
  | false =>
   rw [jf,Int.natAbs_natCast,decide_eq_false (by omega)]
  | true =>
   rw [je,Int.natAbs_neg,Int.natAbs_natCast,decide_eq_true (by omega)]
theorem Md {n:Nat} (h:n % 2=1) (k:Nat):tz (n*2 ^ k)=k:=by
 rw [Nat.mul_comm,A3 k (by omega),wV h,Nat.add_zero]
theorem tQ {d:Rd} (ok:Ok0 d) (h:vd d=true):fB (zI d) (-16384)=d:=by
 by_cases h0:d.m.length=0
 ·rw [rf h0]
  have:=xU h h0
  subst this
  exact iL
 ·obtain ⟨h1,h2,h3,h4⟩:=rQ h h0
  obtain ⟨g1,g2,g3,g4⟩:=kT h ok.lb
  have hz:zI d=fX d.neg (mg d):=by
   unfold zI fX
   rfl
  rw [hz,← tP]
  unfold mg
  rw [oP,lR (iK h h0)]
  have ho:ac d.m % 2=1:=by
   have:=eA d.m 0
   rw [List.drop_zero] at this
   omega
  rw [wV ho,Nat.pow_zero,Nat.div_one,IJ ok.lb (Oz h)]
  obtain ⟨n,m,e⟩:=d
  show (⟨n,m,-16384+(((e+16384).toNat:Nat):Int)+((0:Nat):Int)⟩:Rd)=_
  rw [show -16384+(((e+16384).toNat:Nat):Int)+((0:Nat):Int)=e by have:-16384≤e:=g2; omega]
theorem ajD {x y:Nat} (h:x≤y):(av x).length≤(av y).length:=Nat.not_lt.1 fun h2=>by
 have:=uR h2
 omega
theorem ak6 {a b:Rd} (oa:Ok0 a) (ob:Ok0 b) (va:vd a=true) (vb:vd b=true):R F.r02_Sum [aF a,aF b] []=some (aF (fB (zI a+zI b) (-16384)),[]):=by
 refine aZ are ard (aok false) rfl ?_
 by_cases a0:a.m.length=0
 ·have e1:((a.m.length:Int)=0)=True:=tt (by omega)
  rw [rf a0,Int.zero_add,tQ ob vb]
  simp only [ai3,aj3,aF,aW,go_sem,↓reduceIte,aez,aeB,aeA,aeC,e1]
 have e1:((a.m.length:Int)=0)=False:=ff (by omega)
 by_cases b0:b.m.length=0
 ·have e2:((b.m.length:Int)=0)=True:=tt (by omega)
  rw [rf b0,Int.add_zero,tQ oa va]
  simp only [ai3,aj3,aF,aW,go_sem,↓reduceIte,aez,aeB,aeA,aeC,e1,e2]
 have e2:((b.m.length:Int)=0)=False:=ff (by omega)
 obtain ⟨a1,a2,a3,a4⟩:=kT va oa.lb
 obtain ⟨b1,b2,b3,b4⟩:=kT vb ob.lb
 obtain ⟨e,he⟩:∃ e,(if b.e < a.e then b.e else a.e)=e:=⟨_,rfl⟩
 have he1:-16384≤e∧e≤a.e∧e≤b.e:=by
  split at he <;> omega
 have w1:IntKind.i64.wrap (a.e - e)=(((a.e - e).toNat:Nat):Int):=wi (by omega) (by omega)
 have w2:IntKind.i64.wrap (b.e - e)=(((b.e - e).toNat:Nat):Int):=wi (by omega) (by omega)
 have l1:=aoB oa.lb (n:=(a.e - e).toNat) (by omega) (by omega)
 have l2:=aoB ob.lb (n:=(b.e - e).toNat) (by omega) (by omega)
 have z1:zI a=fX a.neg (ac a.m*2 ^ (a.e - e).toNat*2 ^ (e+16384).toNat):=by
  rw [show zI a=fX a.neg (mg a) from rfl,pH he1.1 he1.2.1]
 have z2:zI b=fX b.neg (ac b.m*2 ^ (b.e - e).toNat*2 ^ (e+16384).toNat):=by
  rw [show zI b=fX b.neg (mg b) from rfl,pH he1.1 he1.2.2]
 have bx:am (ac a.m*2 ^ (a.e - e).toNat)≤36864:=by
  rw [lO _ (iK va a0)]
  omega
 have by':am (ac b.m*2 ^ (b.e - e).toNat)≤36864:=by
  rw [lO _ (iK vb b0)]
  omega
 rw [z1,z2]
 generalize ac a.m*2 ^ (a.e - e).toNat=x at l1 bx ⊢
 generalize ac b.m*2 ^ (b.e - e).toNat=y at l2 by' ⊢
 have lx:(av x).length≤1152:=bG (by omega)
 have ly:(av y).length≤1152:=bG (by omega)
 have hsum:∀ (n:Bool) (z:Nat),bA n z e=fB (fX n (z*2 ^ (e+16384).toNat)) (-16384):=fun n z=>by
  rw [← tP,oP,show -16384+(((e+16384).toNat:Nat):Int)=e by omega]
 have hcp:=apB (ce x) (ce y) (by omega) (by omega) (Or.inr ⟨LO x,LO y⟩)
 rw [bL,bL] at hcp
 by_cases hs:a.neg=b.neg
 ·have p1:=asO (ce x) (ce y) (by omega) (by omega)
  rw [bL,bL] at p1
  have bz:am (x+y)≤36865:=Hd bx by'
  have o1:=ak3 (neg:=a.neg) (m:=av (x+y)) (e:=e) (ce _) (Nat.le_trans (bG (k:=1153) (by omega)) (by decide)) ⟨by omega,by omega⟩
  rw [bL,hsum] at o1
  have hz:fX a.neg (x*2 ^ (e+16384).toNat)+fX b.neg (y*2 ^ (e+16384).toNat)=fX a.neg ((x+y)*2 ^ (e+16384).toNat):=by
   rw [← hs,Nat.add_mul]
   cases a.neg
   ·rw [jf,jf,jf]
    omega
   ·rw [je,je,je]
    omega
  rw [hz]
  generalize fB (fX a.neg ((x+y)*2 ^ (e+16384).toNat)) (-16384)=r at o1 ⊢
  have hs2:(a.neg == b.neg)=true:=by rw [hs]; exact beq_self_eq_true _
  have hs3:(false != (a.neg == b.neg))=true:=by rw [hs2]; rfl
  simp only [aF,aW] at o1
  simp only [ai3,aj3,aF,aW,go_sem,↓reduceIte,aez,aeB,aeA,aeC,aeE,aeD,e1,e2,he,w1,w2,l1,l2,hs3,p1,o1]
 ·have hs2:(a.neg == b.neg)=false:=by
   cases ha:a.neg <;> cases hb:b.neg <;> first | rfl | (rw [ha,hb] at hs; exact absurd rfl hs)
  have hs3:(false != (a.neg == b.neg))=false:=by rw [hs2]; rfl
  have hbn:b.neg=!a.neg:=by
   cases ha:a.neg <;> cases hb:b.neg <;> first | rfl | (rw [ha,hb] at hs; exact absurd rfl hs)
  by_cases hlt:x < y
  ·have e5:(0≤dm x y)=False:=ff (by unfold dm; rw [if_pos hlt]; decide)
   have m1:=ane (ce y) (ce x) (by omega) (ajD (by omega)) (by rw [bL,bL]; omega)
   rw [bL,bL] at m1
   have o1:=ak3 (neg:=b.neg) (m:=av (y - x)) (e:=e) (ce _) (Nat.le_trans (ajD (Nat.sub_le _ _)) (by omega)) ⟨by omega,by omega⟩
   rw [bL,hsum] at o1
   have hmul:x*2 ^ (e+16384).toNat≤y*2 ^ (e+16384).toNat:=Nat.mul_le_mul_right _ (by omega)
   have hz:fX a.neg (x*2 ^ (e+16384).toNat)+fX b.neg (y*2 ^ (e+16384).toNat)=fX b.neg ((y - x)*2 ^ (e+16384).toNat):=by
    rw [hbn,Nat.sub_mul]
    cases a.neg
    ·rw [Bool.not_false,jf,je,je]
     omega
    ·rw [Bool.not_true,jf,je,jf]
     omega
   rw [hz]
   generalize fB (fX b.neg ((y - x)*2 ^ (e+16384).toNat)) (-16384)=r at o1 ⊢
   simp only [aF,aW] at o1
   simp only [ai3,aj3,aF,aW,go_sem,↓reduceIte,aez,aeB,aeA,aeC,aeE,aeD,e1,e2,he,w1,w2,l1,l2,hs3,hcp,e5,m1,o1]
  ·have e5:(0≤dm x y)=True:=tt (by unfold dm; rw [if_neg hlt]; split <;> decide)
   have m1:=ane (ce x) (ce y) (by omega) (ajD (by omega)) (by rw [bL,bL]; omega)
   rw [bL,bL] at m1
   have o1:=ak3 (neg:=a.neg) (m:=av (x - y)) (e:=e) (ce _) (Nat.le_trans (ajD (Nat.sub_le _ _)) (by omega)) ⟨by omega,by omega⟩
   rw [bL,hsum] at o1
   have hmul:y*2 ^ (e+16384).toNat≤x*2 ^ (e+16384).toNat:=Nat.mul_le_mul_right _ (by omega)
   have hz:fX a.neg (x*2 ^ (e+16384).toNat)+fX b.neg (y*2 ^ (e+16384).toNat)=fX a.neg ((x - y)*2 ^ (e+16384).toNat):=by
    rw [hbn,Nat.sub_mul]
    cases a.neg
    ·rw [Bool.not_false,jf,je,jf]
     omega
    ·rw [Bool.not_true,jf,je,je]
     omega
   rw [hz]
   generalize fB (fX a.neg ((x - y)*2 ^ (e+16384).toNat)) (-16384)=r at o1 ⊢
   simp only [aF,aW] at o1
   simp only [ai3,aj3,aF,aW,go_sem,↓reduceIte,aez,aeB,aeA,aeC,aeE,aeD,e1,e2,he,w1,w2,l1,l2,hs3,hcp,e5,m1,o1]
theorem apC {a b:Rd} (oa:Ok0 a) (ob:Ok0 b) (va:vd a=true) (vb:vd b=true):R F.r02_Product [aF a,aF b] []=some (aF (bA (a.neg != b.neg) (ac a.m*ac b.m) (a.e+b.e)),[]):=by
 refine aZ anM anL (al3 false) rfl ?_
 obtain ⟨a1,a2,a3,a4⟩:=kT va oa.lb
 obtain ⟨b1,b2,b3,b4⟩:=kT vb ob.lb
 have t1:=arZ oa.lb ob.lb (by omega) (by omega)
 have hp:=Hb (ac a.m) (ac b.m)
 have w1:IntKind.i64.wrap (a.e+b.e)=a.e+b.e:=i64_in _ ⟨by omega,by omega⟩
 have o1:=ak3 (neg:=a.neg != b.neg) (m:=av (ac a.m*ac b.m)) (e:=a.e+b.e) (ce _) (Nat.le_trans (bG (k:=256) (by omega)) (by decide)) ⟨by omega,by omega⟩
 rw [bL] at o1
 generalize bA (a.neg != b.neg) (ac a.m*ac b.m) (a.e+b.e)=r at o1 ⊢
 simp only [aF,aW] at o1
 simp only [ajJ,alo,aF,aW,go_sem,↓reduceIte,aez,aeB,aeA,aeC,aeE,aeD,t1,w1,L9,o1]
end Go.Ab
namespace Go.Ab
open Go Go.IntWalk
set_option maxRecDepth 4000
set_option maxHeartbeats 1000000
theorem awF:(true == true)=true:=rfl
theorem awG:(true == false)=false:=rfl
theorem awH:(false == true)=false:=rfl
theorem awI:(false == false)=true:=rfl
theorem auO:(false != true)=true:=rfl
theorem auP:(false != false)=false:=rfl
theorem asR (z f:Int):lQ (fB z f)=if z < 0 then -1 else if 0 < z then 1 else 0:=by
 unfold fB
 by_cases h0:z=0
 ·subst h0
  show lQ (bA _ 0 _)=_
  rw [iL]
  rfl
 ·have hn:z.natAbs ≠ 0:=by omega
  rw [lR hn]
  obtain ⟨h1,h2⟩:=qY hn
  have hl:(av (z.natAbs / 2 ^ tz z.natAbs)).length ≠ 0:=fun h=>by
   have:=mn.1 (List.length_eq_zero_iff.1 h)
   omega
  unfold lQ
  show (if (av (z.natAbs / 2 ^ tz z.natAbs)).length=0 then (0:Int) else if decide (z < 0)=true then -1 else 1)=_
  rw [if_neg hl]
  by_cases h3:z < 0
  ·rw [decide_eq_true h3,if_pos rfl,if_pos h3]
  ·rw [decide_eq_false h3,if_neg Bool.false_ne_true,if_neg h3,if_pos (by omega)]
theorem ar2 {a b:Rd} (oa:Ok0 a) (ob:Ok0 b) (va:vd a=true) (vb:vd b=true) (na:a.m.length ≠ 0) (nb:b.m.length ≠ 0) (h:bo a < bo b):mg a < mg b:=by
 have h1:=IV va oa.lb na
 have h2:=IV vb ob.lb nb
 exact Bv (by omega)
theorem atM {a b:Rd} (oa:Ok0 a) (ob:Ok0 b) (va:vd a=true) (vb:vd b=true):R F.r02_Cmp [aF a,aF b] []=some (I (cq (zI a) (zI b)),[]):=by
 refine aZ arb ara (aoj false) rfl ?_
 have s1:=al9 (d:=a)
 have s2:=al9 (d:=b)
 have t1:=apH oa va
 have t2:=apH ob vb
 have n1:=ak4 (d:=b)
 rw [ak5 vb] at n1
 obtain ⟨hz,hvn⟩:=afT vb
 have u1:=ak6 oa (ahm ob) va hvn
 rw [hz] at u1
 have u2:=al9 (d:=fB (zI a+-zI b) (-16384))
 rw [asR] at u2
 have hca:=zZ a va
 have hcb:=zZ b vb
 generalize fB (zI a+-zI b) (-16384)=sm at u1 u2
 generalize ZH b=nb at n1 u1
 simp only [aF,aW] at s1 s2 t1 t2 n1 u1 u2
 by_cases hs:lQ a=lQ b
 ·have e1:(lQ a=lQ b)=True:=tt hs
  by_cases h0:lQ a=0
  ·have e2:(lQ a=0)=True:=tt h0
   have hr:cq (zI a) (zI b)=0:=by
    have:zI a=0:=by omega
    have:zI b=0:=by omega
    unfold cq
    rw [if_neg (by omega),if_neg (by omega)]
   rw [hr]
   simp only [aio,ai2,aF,aW,go_sem,↓reduceIte,aez,aeB,aeA,aeC,aeE,aeD,s1,s2,e1,e2]
   try simp only [hs,h0,go_sem,↓reduceIte,aez,aeB,aeA,axe,aeC,aeE,aiy,axh,axg,aiz,aeD,axf]
  ·have e2:(lQ a=0)=False:=ff h0
   have na:a.m.length ≠ 0:=by omega
   have nb':b.m.length ≠ 0:=by omega
   by_cases ht:bo a=bo b
   ·have e3:(bo a=bo b)=True:=tt ht
    have hr:cq (zI a) (zI b)=if zI a+-zI b < 0 then -1 else if 0 < zI a+-zI b then 1 else 0:=by
     unfold cq
     repeat' split
     all_goals omega
    rw [hr]
    generalize (if zI a+-zI b < 0 then (-1:Int) else if 0 < zI a+-zI b then 1 else 0)=c at u2 ⊢
    simp only [aio,ai2,aF,aW,go_sem,↓reduceIte,aez,aeB,aeA,aeC,aeE,aeD,s1,s2,t1,t2,e1,e2,e3,n1,u1,u2]
   ·have e3:(bo a=bo b)=False:=ff ht
    by_cases hlt:bo a < bo b
    ·have e4:(bo a < bo b)=True:=tt hlt
     have hm:=ar2 oa ob va vb na nb' hlt
     by_cases hp:0 < lQ a
     ·have e5:(0 < lQ a)=True:=tt hp
      have hr:cq (zI a) (zI b)=-1:=by
       unfold cq
       rw [if_pos (by omega)]
      rw [hr]
      simp only [aio,ai2,aF,aW,go_sem,↓reduceIte,aez,aeB,aeA,aeC,aeE,aeD,s1,s2,t1,t2,e1,e2,e3,e4,e5,decide_true,awF,auO]
     ·have e5:(0 < lQ a)=False:=ff hp
      have hr:cq (zI a) (zI b)=1:=by
       unfold cq
       rw [if_neg (by omega),if_pos (by omega)]
      rw [hr]
      simp only [aio,ai2,aF,aW,go_sem,↓reduceIte,aez,aeB,aeA,aeC,aeE,aeD,s1,s2,t1,t2,e1,e2,e3,e4,e5,decide_true,decide_false,awG,auP]
    ·have e4:(bo a < bo b)=False:=ff hlt
     have hm:=ar2 ob oa vb va nb' na (by omega)
     by_cases hp:0 < lQ a
     ·have e5:(0 < lQ a)=True:=tt hp
      have hr:cq (zI a) (zI b)=1:=by
       unfold cq
       rw [if_neg (by omega),if_pos (by omega)]
      rw [hr]
      simp only [aio,ai2,aF,aW,go_sem,↓reduceIte,aez,aeB,aeA,aeC,aeE,aeD,s1,s2,t1,t2,e1,e2,e3,e4,e5,decide_true,decide_false,awH,auP]
     ·have e5:(0 < lQ a)=False:=ff hp
      have hr:cq (zI a) (zI b)=-1:=by
       unfold cq
       rw [if_pos (by omega)]
      rw [hr]
      simp only [aio,ai2,aF,aW,go_sem,↓reduceIte,aez,aeB,aeA,aeC,aeE,aeD,s1,s2,t1,t2,e1,e2,e3,e4,e5,decide_true,decide_false,awI,auO]
 ·have e1:(lQ a=lQ b)=False:=ff hs
  by_cases hlt:lQ a < lQ b
  ·have e2:(lQ a < lQ b)=True:=tt hlt
   have hr:cq (zI a) (zI b)=-1:=by
    unfold cq
    rw [if_pos (by omega)]
   rw [hr]
   simp only [aio,ai2,aF,aW,go_sem,↓reduceIte,aez,aeB,aeA,aeC,aeE,aeD,s1,s2,e1,e2]
  ·have e2:(lQ a < lQ b)=False:=ff hlt
   have hr:cq (zI a) (zI b)=1:=by
    unfold cq
    rw [if_neg (by omega),if_pos (by omega)]
   rw [hr]
   simp only [aio,ai2,aF,aW,go_sem,↓reduceIte,aez,aeB,aeA,aeC,aeE,aeD,s1,s2,e1,e2]
theorem asS {p:Int}:R F.r03_Prec [I p] []=some (B (amU p),[]):=by
 refine aZ aqr aqq (anS false) rfl ?_
 unfold amU
 by_cases h1:8≤p
 ·have e1:(8≤p)=True:=tt h1
  simp only [ajS,ala,go_sem,↓reduceIte,aez,e1,decide_true,Bool.true_and]
 ·have e1:(8≤p)=False:=ff h1
  simp only [ajS,ala,go_sem,↓reduceIte,aez,e1,decide_false,Bool.false_and]
theorem ar3 {a b:Rd} (oa:Ok0 a) (ob:Ok0 b) {p:Int}:R F.r03_fault [aF a,aF b,I p] []=some (I (Bw p [a,b]),[]):=by
 refine aZ ao8 ao7 (amD false) rfl ?_
 have va:=ai5 oa
 have vb:=ai5 ob
 have hp:=asS (p:=p)
 simp only [aF,aW] at va vb
 unfold Bw
 rw [List.all_cons,List.all_cons,List.all_nil,Bool.and_true]
 cases h1:vd a with
 | false =>
  rw [h1] at va
  rw [Bool.false_and,if_neg Bool.false_ne_true]
  simp only [aiV,ajR,aF,aW,go_sem,↓reduceIte,aez,aeB,aeA,aeC,va]
 | true =>
  rw [h1] at va
  cases h2:vd b with
  | false =>
   rw [h2] at vb
   rw [Bool.and_false,if_neg Bool.false_ne_true]
   simp only [aiV,ajR,aF,aW,go_sem,↓reduceIte,aez,aeB,aeA,aeC,va,vb]
  | true =>
   rw [h2] at vb
   rw [Bool.and_true,if_pos rfl]
   by_cases h3:8≤p∧p≤512
   ·have e3:amU p=true:=by unfold amU; rw [decide_eq_true h3.1,decide_eq_true h3.2]; rfl
    rw [e3] at hp
    rw [if_pos h3]
    simp only [aiV,ajR,aF,aW,go_sem,↓reduceIte,aez,aeB,aeA,aeC,va,vb,hp]
   ·have e3:amU p=false:=by
     unfold amU
     by_cases h8:8≤p
     ·rw [decide_eq_false (p:=p≤512) (fun h=>h3 ⟨h8,h⟩),Bool.and_false]
     ·rw [decide_eq_false h8,Bool.false_and]
    rw [e3] at hp
    rw [if_neg h3]
    simp only [aiV,ajR,aF,aW,go_sem,↓reduceIte,aez,aeB,aeA,aeC,va,vb,hp]
theorem aoF {neg:Bool} {n:Nat} (hn:8≤n∧n≤512):R F.r03_greatest [B neg,I n] []=some (aF (bA neg (2 ^ n - 1) (16384 - (n:Int))),[]):=by
 refine aZ amO amN (alH false) rfl ?_
 have h1:=apG alz (n:=n) (by decide) (by omega)
 rw [akj,Nat.one_mul] at h1
 have hb:am (2 ^ n)≤n+1:=by
  rw [cX]
  exact Nat.pow_lt_pow_right (by decide) (Nat.lt_succ_self n)
 have hl:(av (2 ^ n)).length≤17:=bG (by omega)
 have hp:=Nat.two_pow_pos n
 have hl1:[1].length≤(av (2 ^ n)).length:=Nat.pos_of_ne_zero fun h=>by
  have:=mn.1 (List.length_eq_zero_iff.1 h)
  omega
 have h2:=atI (ce (2 ^ n)) alz (by omega) hl1 (by rw [bL,akj]; omega)
 rw [bL,akj] at h2
 have hbt:=al8 n
 have h3:=ak3 (neg:=neg) (m:=av (2 ^ n - 1)) (e:=16384 - (n:Int)) (ce _) (Nat.le_trans (bG (k:=17) (by omega)) (by decide)) ⟨by omega,by omega⟩
 rw [bL] at h3
 have w1:IntKind.i64.wrap (16384 - (n:Int))=16384 - (n:Int):=i64_in _ ⟨by omega,by omega⟩
 generalize bA neg (2 ^ n - 1) (16384 - (n:Int))=r at h3 ⊢
 simp only [aF,aW] at h3
 simp only [ajt,ak2,aF,aW,go_sem,↓reduceIte,aez,aeB,aeA,aeC,aeE,akM,h1,h2,h3,w1]
def ajr:Cmd:=.seq (.seq (.ops [0,2,4,12,15,16,17,62] [cm 51 16,⟨(some 52),none,.call (.c (.fn F.r01_Bits [] [])) [(.t 51)]⟩,co 53 (.bin .gtr (.t 52) (.c (.v (.int .i64 0)))),cm 54 53,cg 55 54 true (.mv (.t 16)),⟨(some 56),(some (54,true)),.call (.c (.fn F.r01_Bits [] [])) [(.t 55)]⟩,cg 57 54 true (.mv (.t 2)),cg 58 54 true (.bin .add (.t 56) (.t 57)),cg 59 54 true (.mv (.t 15)),cg 60 54 true (.bin .add (.t 58) (.t 59)),cg 61 54 true (.bin .gtr (.t 60) (.c (.v (.int .i64 16384)))),co 62 (.pick (.t 54) (.t 61) (.c (.v (.bool false))))]) (.cond (.t 62) (.seq (.seq (.ops [0,4,12,63] [cm 63 17]) (.cond (.t 63) (.seq (.ops [12,13] [co 64 (.build [(.v (.bool false)),.emp,(.v (.int .i64 0))] []),⟨none,none,.store 3 (.t 12) (.t 64)⟩,co 13 (.mv (.c (.v (.int .i64 9))))]) (.ret)) (.skip))) (.seq (.ops [12,13] [cm 65 0,cm 66 4,⟨(some 67),none,.call (.c (.fn F.r03_greatest [] [])) [(.t 65),(.t 66)]⟩,⟨none,none,.store 3 (.t 12) (.t 67)⟩,co 13 (.mv (.c (.v (.int .i64 0))))]) (.ret))) (.skip))) (.seq (.ops [12,13] [cm 68 0,cm 69 16,cm 70 2,cm 71 15,co 72 (.bin .add (.t 70) (.t 71)),⟨(some 73),none,.call (.c (.fn F.r02_Of [] [])) [(.t 68),(.t 69),(.t 72)]⟩,⟨none,none,.store 3 (.t 12) (.t 73)⟩,co 13 (.mv (.c (.v (.int .i64 0))))]) (.ret))
theorem ajh:am3=.seq (.ops [0,1,2,3,4,5,12] [⟨(some 12),none,.alloc [(.v (.bool false)),.emp,(.v (.int .i64 0))]⟩,co 13 (.mv (.c (.v (.int .i64 0))))]) (.seq (.ops [0,1,2,3,4,5,12] [cm 18 1,⟨(some 19),none,.call (.c (.fn F.r01_Trim [] [])) [(.t 18)]⟩,cm 1 19]) (.seq (.ops [0,1,2,3,4,5,12,14] [cm 20 1,⟨(some 21),none,.call (.c (.fn F.r01_Bits [] [])) [(.t 20)]⟩,cm 14 21]) (.seq (.ops [0,1,2,3,4,5,12,15] [cm 22 14,cm 23 4,co 24 (.bin .sub (.t 22) (.t 23)),cm 25 2,co 26 (.bin .sub (.c (.v (.int .i64 (-16384)))) (.t 25)),co 27 (.mnx false (.t 24) [(.t 26),(.c (.v (.int .i64 0)))]),cm 15 27]) (.seq (.ops [0,1,2,3,4,5,12,15,16] [cm 28 1,cm 29 15,⟨(some 30),none,.call (.c (.fn F.r01_Shr [] [])) [(.t 28),(.t 29)]⟩,cm 16 30]) (.seq (.seq (.ops [0,2,3,4,5,12,15,16,40] [cm 31 15,co 32 (.bin .gtr (.t 31) (.c (.v (.int .i64 0)))),cm 33 32,cg 34 33 true (.mv (.t 16)),cg 35 33 true (.mv (.t 15)),⟨(some 36),(some (33,true)),.call (.c (.fn F.r01_Shl [] [])) [(.t 34),(.t 35)]⟩,cg 37 33 true (.mv (.t 1)),⟨(some 38),(some (33,true)),.call (.c (.fn F.r01_Cmp [] [])) [(.t 36),(.t 37)]⟩,cg 39 33 true (.bin .neq (.t 38) (.c (.v (.int .i64 0)))),co 40 (.pick (.t 33) (.t 39) (.c (.v (.bool false))))]) (.cond (.t 40) (.ops [0,2,3,4,5,12,15,16] [co 3 (.mv (.c (.v (.bool true))))]) (.skip))) (.seq (.ops [0,2,3,4,12,15,16,17] [cm 41 0,cm 42 5,co 43 (.eqc true 0 (.t 41) (.t 42)),cm 17 43]) (.seq (.seq (.ops [0,2,4,12,15,16,17,47] [cm 44 3,cm 45 44,cg 46 45 true (.mv (.t 17)),co 47 (.pick (.t 45) (.t 46) (.c (.v (.bool false))))]) (.cond (.t 47) (.ops [0,2,4,12,15,16,17] [cm 48 16,⟨(some 49),none,.buildSl 1 [(.v (.int .u32 0))] 1 [(0,(.c (.v (.int .u32 1))))]⟩,⟨(some 50),none,.call (.c (.fn F.r01_Add [] [])) [(.t 48),(.t 49)]⟩,cm 16 50]) (.skip))) ajr))))))):=rfl
theorem ar4 {neg out:Bool} {e:Int} {n k q:Nat} (hp:8≤n∧n≤512) (hq:am q≤200000) (he:-100000≤e∧e≤100000) (hk:k≤200000) (s:af) (h:aa) (h0:s 0=B neg) (h2:s 2=I e) (h4:s 4=I n) (h12:s 12=.ref 12 none 0 0 0) (h15:s 15=I k) (h16:s 16=lm (av q)) (h17:s 17=B out)
  (k12:h 12=.bx [.v (.bool false),.emp,.v (.int .i64 0)]) (kd:∀ i,i ≠ 12→i ≠ 49→h i=.dead) :
  ajf false [[.o 0 [],.o 2 [],.o 0 []],[]] [.cell 12 3 true,.t 13] 0 (az R (ab false) ajr s h)=some (rV (ajZ neg out n q (e+k)),[]):=by
 have hl:(av q).length≤6250:=bG (by omega)
 have hb:=aoD (ce q) (by omega)
 rw [bL] at hb
 have w1:IntKind.i64.wrap (((am q:Nat):Int)+e)=((am q:Nat):Int)+e:=i64_in _ ⟨by omega,by omega⟩
 have w2:IntKind.i64.wrap (((am q:Nat):Int)+e+(k:Int))=((am q:Nat):Int)+e+(k:Int):=i64_in _ ⟨by omega,by omega⟩
 have w3:IntKind.i64.wrap (e+(k:Int))=e+(k:Int):=i64_in _ ⟨by omega,by omega⟩
 have ho:=ak3 (neg:=neg) (m:=av q) (e:=e+k) (ce q) (by omega) ⟨by omega,by omega⟩
 rw [bL] at ho
 have hg:=aoF (neg:=neg) hp
 unfold ajZ
 rw [Int.toNat_natCast]
 generalize bA neg (2 ^ n - 1) (16384 - (n:Int))=g at hg ⊢
 generalize bA neg q (e+k)=o at ho ⊢
 simp only [aF,aW] at hg ho
 by_cases h1:q=0
 ·have e1:(0 < ((am q:Nat):Int))=False:=ff (by rw [h1]; decide)
  rw [if_neg (fun h=>h.1 h1)]
  simp only [ajr,rV,aF,aW,go_sem,↓reduceIte,aez,aeB,aeA,aeC,ne_eq,not_false_eq_true,h0,h2,h4,h12,h15,h16,h17,k12,kd,hb,e1,w3,ho]
 ·have hbp:=kj h1
  have e1:(0 < ((am q:Nat):Int))=True:=tt (by omega)
  by_cases h5:16384 < ((am q:Nat):Int)+(e+(k:Int))
  ·have e2:(16384 < ((am q:Nat):Int)+e+(k:Int))=True:=tt (by omega)
   rw [if_pos (show q ≠ 0∧16384 < ((am q:Nat):Int)+(e+(k:Int)) from ⟨h1,h5⟩)]
   cases out with
   | true =>
    rw [if_pos rfl]
    simp only [ajr,rV,aF,aW,fp,go_sem,↓reduceIte,aez,aeB,aeA,aeC,ne_eq,not_false_eq_true,h0,h2,h4,h12,h15,h16,h17,k12,kd,hb,e1,e2,w1,w2]
   | false =>
    rw [if_neg Bool.false_ne_true]
    simp only [ajr,rV,aF,aW,go_sem,↓reduceIte,aez,aeB,aeA,aeC,ne_eq,not_false_eq_true,h0,h2,h4,h12,h15,h16,h17,k12,kd,hb,e1,e2,w1,w2,hg]
  ·have e2:(16384 < ((am q:Nat):Int)+e+(k:Int))=False:=ff (by omega)
   rw [if_neg (fun h=>h5 h.2)]
   simp only [ajr,rV,aF,aW,go_sem,↓reduceIte,aez,aeB,aeA,aeC,ne_eq,not_false_eq_true,h0,h2,h4,h12,h15,h16,h17,k12,kd,hb,e1,e2,w1,w2,w3,ho]
end Go.Ab
namespace Go.Ab
open Go Go.IntWalk
set_option maxRecDepth 4000
set_option maxHeartbeats 1000000
theorem atN {neg up:Bool} {m:List Nat} {e:Int} {n:Nat} (hb:Lb m) (hl:m.length≤1200) (he:-50000≤e∧e≤50000) (hp:8≤n∧n≤512):R F.r03_Cut [B neg,lm m,I e,B false,I n,B up] []=some (rV (ai4 neg (ac m) e false n up),[]):=by
 refine aZ arn arm (aon false) rfl ?_
 have hT:=aj0 hb (by omega)
 have la:=dJ m hb
 obtain ⟨M,hM⟩:∃ M,ac m=M:=⟨_,rfl⟩
 rw [hM] at hT la ⊢
 have hbl:=akL (ce M)
 rw [bL] at hbl
 have hB:=aoD (ce M) (by omega)
 rw [bL] at hB
 have w1:IntKind.i64.wrap (((am M:Nat):Int) - (n:Int))=((am M:Nat):Int) - (n:Int):=i64_in _ ⟨by omega,by omega⟩
 have w2:IntKind.i64.wrap (-16384 - e)=-16384 - e:=i64_in _ ⟨by omega,by omega⟩
 obtain ⟨k,hk⟩:∃ k,ale M e n=k:=⟨_,rfl⟩
 have hk2:(if (if ((am M:Nat):Int) - (n:Int) < -16384 - e then -16384 - e else ((am M:Nat):Int) - (n:Int)) < 0 then (0:Int) else (if ((am M:Nat):Int) - (n:Int) < -16384 - e then -16384 - e else ((am M:Nat):Int) - (n:Int)))=(k:Int):=by
  unfold ale at hk
  split <;> split <;> omega
 have hkb:k≤100000:=by
  unfold ale at hk
  omega
 have hS:=atL (ce M) (n:=k) (by omega) (by omega)
 rw [bL] at hS
 have hq:am (M / 2 ^ k)≤38400:=by
  rw [zY]
  omega
 have hql:(av (M / 2 ^ k)).length≤1200:=bG (by omega)
 have hL:=apG (ce (M / 2 ^ k)) (n:=k) (by omega) (by omega)
 rw [bL] at hL
 have hql2:(av (M / 2 ^ k*2 ^ k)).length≤1200:=Nat.le_trans (ajD (Nat.div_mul_le_self _ _)) (by omega)
 have hC:=atG (ce (M / 2 ^ k*2 ^ k)) (ce M) (by omega) (by omega)
 rw [bL,bL] at hC
 have hA:=atH (ce (M / 2 ^ k)) alz (by omega) (by decide)
 rw [bL,akj] at hA
 have hbs:=am9 (M / 2 ^ k)
 have htl:=fun (out:Bool) (q:Nat) (hq:am q≤200000)=>ar4 (neg:=neg) (out:=out) (e:=e) (n:=n) (k:=k) (q:=q) hp hq ⟨by omega,by omega⟩ (by omega)
 have hdm:=Nat.div_add_mod M (2 ^ k)
 unfold ai4
 rw [hk]
 generalize hout:(neg != up)=out
 unfold amT
 rw [Bool.false_or]
 by_cases hlost:M % 2 ^ k=0
 ·rw [show decide (M % 2 ^ k ≠ 0)=false from decide_eq_false (fun h=>h hlost),Bool.false_and,if_neg Bool.false_ne_true]
  have hc0:dm (M / 2 ^ k*2 ^ k) M=0:=by
   have:M / 2 ^ k*2 ^ k=M:=by rw [Nat.mul_comm]; omega
   rw [this]
   unfold dm
   rw [if_neg (Nat.lt_irrefl _),if_neg (Nat.lt_irrefl _)]
  have e2:(dm (M / 2 ^ k*2 ^ k) M=0)=True:=tt hc0
  by_cases hk0:k=0
  ·have e1:(0 < (k:Int))=False:=ff (by omega)
   simp only [ajg,ajh,go_sem,↓reduceIte,aez,aeB,aeA,aeC,aeE,hT,hB,w1,w2,hk2,hS,e1,L9,hout]
   exact htl out _ (by omega) _ _ rfl rfl rfl rfl rfl rfl rfl rfl (fun i h1 h2=>by simp only [jg,h1,if_false])
  ·have e1:(0 < (k:Int))=True:=tt (by omega)
   simp only [ajg,ajh,go_sem,↓reduceIte,aez,aeB,aeA,aeC,aeE,hT,hB,w1,w2,hk2,hS,e1,hL,hC,e2,L9,hout]
   exact htl out _ (by omega) _ _ rfl rfl rfl rfl rfl rfl rfl rfl (fun i h1 h2=>by simp only [jg,h1,if_false])
 ·rw [show decide (M % 2 ^ k ≠ 0)=true from decide_eq_true hlost,Bool.true_and]
  have hk0:k ≠ 0:=fun h=>by
   rw [h,Nat.pow_zero,Nat.mod_one] at hlost
   exact hlost rfl
  have e1:(0 < (k:Int))=True:=tt (by omega)
  have hc0:dm (M / 2 ^ k*2 ^ k) M=-1:=by
   unfold dm
   rw [if_pos]
   rw [Nat.mul_comm]
   omega
  have e2:(dm (M / 2 ^ k*2 ^ k) M=0)=False:=ff (by omega)
  cases out with
  | false =>
   rw [if_neg Bool.false_ne_true]
   simp only [ajg,ajh,go_sem,↓reduceIte,aez,aeB,aeA,aeC,aeE,hT,hB,w1,w2,hk2,hS,e1,hL,hC,e2,L9,hout]
   exact htl false _ (by omega) _ _ rfl rfl rfl rfl rfl rfl rfl rfl (fun i h1 h2=>by simp only [jg,h1,if_false])
  | true =>
   rw [if_pos rfl]
   simp only [ajg,ajh,go_sem,↓reduceIte,aez,aeB,aeA,aeC,aeE,hT,hB,w1,w2,hk2,hS,e1,hL,hC,e2,L9,hout,akM,hA]
   exact htl true _ (by omega) _ _ rfl rfl rfl rfl rfl rfl rfl rfl (fun i h1 h2=>by simp only [jg,h1,h2,if_false])
theorem ar5 {d:Rd} {up:Bool} {n:Nat} (hb:Lb d.m) (hl:d.m.length≤1200) (he:-50000≤d.e∧d.e≤50000) (hp:8≤n∧n≤512):R F.r03_exact [aF d,I n,B up] []=some (rV (ai4 d.neg (ac d.m) d.e false n up),[]):=by
 refine aZ apb apa (amE false) rfl ?_
 have hc:=atN (neg:=d.neg) (up:=up) hb hl he hp
 generalize ai4 d.neg (ac d.m) d.e false n up=r at hc ⊢
 simp only [rV,aF,aW] at hc
 simp only [aj9,alM,rV,aF,aW,go_sem,↓reduceIte,aez,aeB,aeA,aeC,hc]
theorem asT {z f p:Int} {up:Bool} (hp:8≤p∧p≤512):ai4 (fB z f).neg (ac (fB z f).m) (fB z f).e false p up=X6 z f p up:=by
 rw [alf hp]
 unfold fB
 by_cases h0:z=0
 ·subst h0
  show X6 (fX (bA _ 0 f).neg (ac (bA _ 0 f).m)) (bA _ 0 f).e p up=_
  rw [iL]
  rfl
 ·have hn:z.natAbs ≠ 0:=by omega
  obtain ⟨g1,g2,g3,g4⟩:=nD (neg:=decide (z < 0)) (e:=f) hn
  obtain ⟨h1,h2⟩:=qY hn
  rw [g1,g2]
  have hneg:(bA (decide (z < 0)) z.natAbs f).neg=decide (z < 0):=by rw [lR hn]
  rw [hneg,← arK]
  congr 1
  have h3:((z.natAbs / 2 ^ tz z.natAbs*2 ^ tz z.natAbs:Nat):Int)=z.natAbs:=by
   rw [Nat.mul_comm]
   exact congrArg Nat.cast h1.symm
  rw [Int.natCast_mul,Int.natCast_pow] at h3
  unfold fX
  by_cases h5:z < 0
  ·rw [decide_eq_true h5,if_pos rfl,Int.neg_mul]
   have h6:((z.natAbs / 2 ^ tz z.natAbs:Nat):Int)*2 ^ tz z.natAbs=z.natAbs:=h3
   rw [h6]
   omega
  ·rw [decide_eq_false h5,if_neg Bool.false_ne_true]
   have h6:((z.natAbs / 2 ^ tz z.natAbs:Nat):Int)*2 ^ tz z.natAbs=z.natAbs:=h3
   rw [h6]
   omega
theorem aqJ {p:Int} {d:Rd}:Bw p [d,d]=Bw p [d]:=by
 unfold Bw
 rw [List.all_cons,List.all_cons,List.all_nil,Bool.and_true,Bool.and_self]
theorem anf {d:Rd} (ok:Ok0 d) {p:Int} {up:Bool}:R F.r03_Round [aF d,I p,B up] []=some (rV (ZL d p up),[]):=by
 refine aZ ao5 ao4 (amC false) rfl ?_
 have hf:=ar3 ok ok (p:=p)
 rw [aqJ] at hf
 unfold ZL
 by_cases h0:Bw p [d]=0
 ·obtain ⟨v1,hp⟩:=alA h0
  have v4:vd d=true:=by simpa using v1
  obtain ⟨h1,h2,h3,h4⟩:=kT v4 ok.lb
  rw [if_pos h0]
  rw [h0] at hf
  have hc:ai4 d.neg (ac d.m) d.e false p up=X6 (zI d) (-16384) p up:=by
   have:=asT (z:=zI d) (f:=-16384) (up:=up) hp
   rw [tQ ok v4] at this
   exact this
  obtain ⟨n,rfl⟩:=Int.eq_ofNat_of_zero_le (show 0≤p by omega)
  have he:=ar5 (d:=d) (n:=n) (up:=up) ok.lb (by omega) ⟨by omega,by omega⟩ ⟨by omega,by omega⟩
  rw [hc] at he
  generalize X6 (zI d) (-16384) (n:Nat) up=r at he ⊢
  simp only [rV,aF,aW] at hf he
  simp only [ajy,akX,rV,aF,aW,go_sem,↓reduceIte,aez,aeB,aeA,aeC,hf,he]
 ·have e1:(Bw p [d]=0)=False:=ff h0
  rw [if_neg h0]
  simp only [aF,aW] at hf
  simp only [ajy,akX,rV,aF,aW,fp,go_sem,↓reduceIte,aez,aeB,aeA,aeC,hf,e1]
theorem amw {x y:Int} {k:Nat} (hx:am x.natAbs≤k) (hy:am y.natAbs≤k):am (x+y).natAbs≤k+1:=by
 have:=Hd hx hy
 refine Nat.le_trans ?_ this
 have h2:(x+y).natAbs≤x.natAbs+y.natAbs:=Int.natAbs_add_le _ _
 exact cX.2 (Nat.lt_of_le_of_lt h2 (cX.1 (Nat.le_refl _)))
theorem apI {d:Rd} (ok:Ok0 d) (h:vd d=true):am (zI d).natAbs≤36864:=by
 obtain ⟨h1,h2,h3,h4⟩:=kT h ok.lb
 have:(zI d).natAbs=mg d:=by
  unfold zI
  split <;> omega
 rw [this]
 by_cases h0:d.m.length=0
 ·rw [IW h0]
  decide
 ·have:=IV h ok.lb h0
  rw [pI h h0] at this
  omega
theorem Me {a b:Rd} (oa:Ok0 a) (ob:Ok0 b) (va:vd a=true) (vb:vd b=true):bA (a.neg != b.neg) (ac a.m*ac b.m) (a.e+b.e)=fB (zI a*zI b) (-32768):=by
 obtain ⟨a1,a2,a3,a4⟩:=kT va oa.lb
 obtain ⟨b1,b2,b3,b4⟩:=kT vb ob.lb
 have hz:zI a*zI b=fX (a.neg != b.neg) (mg a*mg b):=by
  unfold zI fX
  cases a.neg <;> cases b.neg <;> simp [Int.mul_neg,Int.neg_mul]
 have hm:mg a*mg b=ac a.m*ac b.m*2 ^ ((a.e+16384).toNat+(b.e+16384).toNat):=by
  unfold mg
  rw [Nat.pow_add]
  ac_rfl
 rw [hz,← tP,hm,oP,show -32768+(((a.e+16384).toNat+(b.e+16384).toNat:Nat):Int)=a.e+b.e by omega]
end Go.Ab
namespace Go.Ab
open Go Go.IntWalk
set_option maxRecDepth 4000
set_option maxHeartbeats 2000000
theorem aj5 {d:Rd} {p:Int} {up:Bool}:vd (ZL d p up).1=true:=by
 unfold ZL
 split
 ·exact amv.1
 ·exact He.1
end Go.Ab
namespace Go.Ab
open Go Go.IntWalk
set_option maxRecDepth 4000
set_option maxHeartbeats 1000000
end Go.Ab
namespace Go.Ab
open Go Go.IntWalk
set_option maxRecDepth 4000
set_option maxHeartbeats 1000000
theorem Mf {a b:Rd} (oa:Ok0 a) (ob:Ok0 b) (va:vd a=true) (vb:vd b=true) (h:zI a=zI b):a=b:=by
 rw [← tQ oa va,← tQ ob vb,h]
theorem iM (x y:Int):(x < y∧cq x y=-1)∨(x=y∧cq x y=0)∨(y < x∧cq x y=1):=by
 unfold cq
 rcases Int.lt_trichotomy x y with h | h | h
 ·exact Or.inl ⟨h,if_pos h⟩
 ·exact Or.inr (Or.inl ⟨h,by rw [if_neg (by omega)]; exact if_neg (by omega)⟩)
 ·exact Or.inr (Or.inr ⟨h,by rw [if_neg (by omega)]; exact if_pos h⟩)
end Go.Ab
namespace Go.Ab
open Go Go.IntWalk
set_option maxRecDepth 4000
set_option maxHeartbeats 1000000
theorem aqK {a:List Int} (h2:sm a):∀ (k i:Nat),i+k=a.length→∀ (s:af) (h:aa),s 0=.sl 1 (aX a)→s 3=I (bc (a.take i))→s 4=I i →
  aI 0 [3] (aU (az R (ab false) aj6) [0,3,4] [] s h)=some (.normal,⟨upd (fun _=>.any) 3 (I (bc a)),fun _=>.dead⟩):=by
 intro k
 induction k with
 | zero =>
  intro i hi s h h0 h3 h4
  have e1:((i:Int) < a.length)=False:=ff (by omega)
  rw [List.take_of_length_le (by omega)] at h3
  rw [aA]
  simp only [aj6,go_sem,↓reduceIte,aez,h0,h3,h4,e1]
 | succ k ih =>
  intro i hi s h h0 h3 h4
  have hlt:i < a.length:=by omega
  obtain ⟨g1,g2⟩:=h2
  have e1:((i:Int) < a.length)=True:=tt (by omega)
  have e2:bH (aX a) (i:Int)=some (.ipt [I a[i]]):=pJ rfl (List.getElem?_eq_getElem hlt)
  have e5:IntKind.i64.wrap ((i:Int)+1)=((i+1:Nat):Int):=wi (by omega) (by omega)
  have b1:=Su (l:=a.take i) (fun x hx=>g2 x (List.mem_of_mem_take hx))
  have b2:=g2 a[i] (List.getElem_mem hlt)
  have b3:(a.take i).length≤1000:=by simp only [List.length_take]; omega
  have e6:IntKind.i64.wrap (bc (a.take i)+a[i])=bc (a.take (i+1)):=by
   rw [Ow hlt]
   exact i64_in _ ⟨by omega,by omega⟩
  have ih':=ih (i+1) (by omega)
  generalize a[i]=x at e2 e6 ⊢
  rw [aA]
  generalize aU _ _ _=L at ih' ⊢
  simp only [aj6,go_sem,↓reduceIte,aez,h0,h3,h4,e1,e2,e5,e6]
  exact ih' _ _ rfl rfl rfl
theorem ama {a:List Int} (h2:sm a):R F.r23_sum [.sl 1 (aX a)] []=some (I (bc a),[]):=by
 refine aZ aq2 aq1 (an7 false) rfl ?_
 have h3:=aqK h2 a.length 0 (Nat.zero_add _)
 simp only [List.take_zero,bc,Int.natCast_zero] at h3
 simp only [akC,am2,go_sem,↓reduceIte,aez]
 rw [h3 _ _ rfl rfl rfl]
 simp only [go_sem,↓reduceIte]
theorem aqL {a b:List Int} (hl:a.length=b.length) (h2:a.length≤100000):∀ (k i:Nat),i+k=a.length→∀ (s:af) (h:aa),s 0=.sl 1 (aX a)→s 1=.sl 1 (aX b)→s 7=I i →
  ∃ hh,aI 0 [] (aU (az R (ab false) aiu) [0,1,7] [] s h)=if eg (b.drop i) (a.drop i)=0 then some (.normal,⟨fun _=>.any,fun _=>.dead⟩) else some (.ret,⟨upd (fun _=>.any) 4 (I (eg (b.drop i) (a.drop i))),hh⟩):=by
 intro k
 induction k with
 | zero =>
  intro i hi s h h0 h1 h7
  have e1:((i:Int) < a.length)=False:=ff (by omega)
  rw [List.drop_eq_nil_of_le (by omega),List.drop_eq_nil_of_le (by omega),aA]
  refine ⟨fun _=>.dead,?_⟩
  show _=if (0:Int)=0 then _ else _
  rw [if_pos rfl]
  simp only [aiu,go_sem,↓reduceIte,aez,h0,h1,h7,e1]
 | succ k ih =>
  intro i hi s h h0 h1 h7
  have hlt:i < a.length:=by omega
  have hlt2:i < b.length:=by omega
  have e1:((i:Int) < a.length)=True:=tt (by omega)
  have e2:bH (aX a) (i:Int)=some (.ipt [I a[i]]):=pJ rfl (List.getElem?_eq_getElem hlt)
  have e3:bH (aX b) (i:Int)=some (.ipt [I b[i]]):=pJ rfl (List.getElem?_eq_getElem hlt2)
  have e5:IntKind.i64.wrap ((i:Int)+1)=((i+1:Nat):Int):=wi (by omega) (by omega)
  rw [List.drop_eq_getElem_cons hlt,List.drop_eq_getElem_cons hlt2,aA]
  have ih':=ih (i+1) (by omega)
  generalize a[i]=x at e2 ⊢
  generalize b[i]=y at e3 ⊢
  generalize aU _ _ _=L at ih' ⊢
  unfold eg
  rcases iM y x with ⟨g,e⟩ | ⟨g,e⟩ | ⟨g,e⟩
  ·have e6:(y < x)=True:=tt g
   simp only [e,↓reduceIte,axg,Int.reduceNeg]
   refine ⟨?hh1,?_⟩
   rotate_left
   simp only [aiu,go_sem,↓reduceIte,aez,h0,h1,h7,e1,e2,e3,e6]
   rfl
  ·have e6:(y < x)=False:=ff (by omega)
   have e7:(x < y)=False:=ff (by omega)
   simp only [e,↓reduceIte]
   simp only [aiu,go_sem,↓reduceIte,aez,h0,h1,h7,e1,e2,e3,e5,e6,e7]
   exact ih' _ _ rfl rfl rfl
  ·have e6:(y < x)=False:=ff (by omega)
   have e7:(x < y)=True:=tt (by omega)
   simp only [e,↓reduceIte,axg]
   refine ⟨?hh2,?_⟩
   rotate_left
   simp only [aiu,go_sem,↓reduceIte,aez,h0,h1,h7,e1,e2,e3,e6,e7]
   rfl
theorem alC {a b:List Int} (ha:sm a) (hb:sm b) (hl:a.length=b.length):R F.r23_Compare [.sl 1 (aX a),.sl 1 (aX b)] []=some (I (bj a b),[]):=by
 refine aZ ann anm (alW false) rfl ?_
 have d1:=ama ha
 have d2:=ama hb
 have h3:=aqL hl (by have:=ha.1; omega) a.length 0 (Nat.zero_add _)
 simp only [List.drop_zero,Int.natCast_zero] at h3
 unfold bj
 rcases iM (bc a) (bc b) with ⟨g,e⟩ | ⟨g,e⟩ | ⟨g,e⟩
 ·have e6:(bc a < bc b)=True:=tt g
  rw [e,if_neg (by decide)]
  simp only [aiv,ajj,go_sem,↓reduceIte,aez,aeB,aeA,d1,d2,e6]
 ·have e6:(bc a < bc b)=False:=ff (by omega)
  have e7:(bc b < bc a)=False:=ff (by omega)
  rw [e,if_pos rfl]
  by_cases hz:eg b a=0
  ·simp only [if_pos hz] at h3
   simp only [aiv,ajj,go_sem,↓reduceIte,aez,aeB,aeA,d1,d2,e6,e7]
   rw [(h3 _ _ rfl rfl rfl).choose_spec,hz]
   simp only [go_sem,↓reduceIte]
  ·simp only [if_neg hz] at h3
   simp only [aiv,ajj,go_sem,↓reduceIte,aez,aeB,aeA,d1,d2,e6,e7]
   rw [(h3 _ _ rfl rfl rfl).choose_spec]
   simp only [go_sem,↓reduceIte]
 ·have e6:(bc a < bc b)=False:=ff (by omega)
  have e7:(bc b < bc a)=True:=tt (by omega)
  rw [e,if_neg (by decide)]
  simp only [aiv,ajj,go_sem,↓reduceIte,aez,aeB,aeA,d1,d2,e6,e7]
theorem ar6 {t:Rt} (h2:t.exps.length≤1000):∀ (k i:Nat),i+k=t.exps.length→(∀ x ∈ t.exps.take i,0≤x∧x≤32)→∀ (s:af) (h:aa),s 3=.ref 3 none 0 0 0→s 5=I (bc (t.exps.take i))→s 6=I i→h 3=.bx (bv t) →
  ∃ hh,aI 0 [5] (aU (az R (ab false) air) [3,5,6] [3] s h)=if (t.exps.drop i).any rR=true then some (.ret,⟨upd (fun _=>.any) 4 (B false),hh⟩) else some (.normal,⟨upd (fun _=>.any) 5 (I (bc t.exps)),hh⟩):=by
 intro k
 induction k with
 | zero =>
  intro i hi hg s h h3 h5 h6 k3
  have e1:((i:Int) < t.exps.length)=False:=ff (by omega)
  rw [List.take_of_length_le (by omega)] at h5
  rw [List.drop_eq_nil_of_le (by omega),aA]
  simp only [bv] at k3
  refine ⟨?hh,?_⟩
  rotate_left
  show _=if false=true then _ else _
  rw [if_neg Bool.false_ne_true]
  simp only [air,go_sem,↓reduceIte,aez,aeB,aeA,aeD,h3,h5,h6,k3,e1]
  rfl
 | succ k ih =>
  intro i hi hg s h h3 h5 h6 k3
  have hlt:i < t.exps.length:=by omega
  have e1:((i:Int) < t.exps.length)=True:=tt (by omega)
  have e2:bH (aX t.exps) (i:Int)=some (.ipt [I t.exps[i]]):=pJ rfl (List.getElem?_eq_getElem hlt)
  have e5:IntKind.i64.wrap ((i:Int)+1)=((i+1:Nat):Int):=wi (by omega) (by omega)
  have b1:=Su hg
  have b3:(t.exps.take i).length≤1000:=by simp only [List.length_take]; omega
  have ih':=ih (i+1) (by omega)
  have htk:t.exps.take (i+1)=t.exps.take i++[t.exps[i]]:=by rw [List.take_add_one,List.getElem?_eq_getElem hlt]; rfl
  have hst:=Ow hlt
  rw [List.drop_eq_getElem_cons hlt,List.any_cons,aA]
  simp only [bv] at k3
  rw [hst] at ih'
  rw [htk] at ih'
  generalize t.exps[i]=x at e2 ih' ⊢
  generalize aU _ _ _=L at ih' ⊢
  unfold rR at ih' ⊢
  by_cases g1:x < 0
  ·have e6:(x < 0)=True:=tt g1
   simp only [decide_eq_true g1,Bool.true_or]
   refine ⟨?hh1,?_⟩
   rotate_left
   rw [if_pos trivial]
   simp only [air,go_sem,↓reduceIte,aez,aeB,aeA,aeD,h3,h5,h6,k3,e1,e2,e6]
   rfl
  ·have e6:(x < 0)=False:=ff g1
   by_cases g2:32 < x
   ·have e7:(32 < x)=True:=tt g2
    simp only [decide_eq_false g1,decide_eq_true g2,Bool.false_or,Bool.true_or]
    refine ⟨?hh2,?_⟩
    rotate_left
    rw [if_pos trivial]
    simp only [air,go_sem,↓reduceIte,aez,aeB,aeA,aeD,h3,h5,h6,k3,e1,e2,e6,e7]
    rfl
   ·have e7:(32 < x)=False:=ff g2
    simp only [decide_eq_false g1,decide_eq_false g2,Bool.false_or]
    have e8:IntKind.i64.wrap (bc (t.exps.take i)+x)=bc (t.exps.take i)+x:=i64_in _ ⟨by omega,by omega⟩
    simp only [air,go_sem,↓reduceIte,aez,aeB,aeA,aeD,h3,h5,h6,k3,e1,e2,e5,e6,e7,e8]
    exact ih' (fun y hy=>by
     rcases List.mem_append.1 hy with h | h
     ·exact hg y h
     ·rw [List.mem_singleton.1 h]
      omega) _ _ rfl rfl rfl rfl
theorem ar7 {v:Int} {t:Rt} (ok:OkT t) (hv:v≤1000):R F.r23_term [I v,.agg (bv t)] []=some (B (Di v t),[]):=by
 refine aZ ap3 ap2 (anu false) rfl ?_
 have hvd:=ai5 ok.c
 simp only [aF,aW] at hvd
 unfold Di
 by_cases c1:(t.exps.length:Int)=v
 ·have f1:((t.exps.length:Int)=v)=True:=tt c1
  rw [decide_eq_true c1,Bool.true_and]
  cases c2:vd t.c with
  | false =>
   rw [c2] at hvd
   rw [Bool.false_and]
   simp only [aiQ,ajH,bv,go_sem,↓reduceIte,aez,aeB,aeA,aeC,f1,hvd]
  | true =>
   rw [c2] at hvd
   rw [Bool.true_and]
   by_cases c3:t.c.m.length=0
   ·have f3:((t.c.m.length:Int)=0)=True:=tt (by omega)
    rw [decide_eq_false (p:=t.c.m.length ≠ 0) (fun h=>h c3),Bool.false_and]
    simp only [aiQ,ajH,bv,go_sem,↓reduceIte,aez,aeB,aeA,aeC,f1,hvd,f3]
   ·have f3:((t.c.m.length:Int)=0)=False:=ff (by omega)
    rw [decide_eq_true (p:=t.c.m.length ≠ 0) c3,Bool.true_and]
    have hL:=ar6 (t:=t) (by omega) t.exps.length 0 (Nat.zero_add _) (fun x hx=>by rw [List.take_zero] at hx; exact nomatch hx)
    simp only [List.drop_zero,List.take_zero,bc,Int.natCast_zero] at hL
    generalize hLL:aU (az R (ab false) air) [3,5,6] [3]=L at hL
    have hX:∀ s h,az R (ab false) (.loop [3,5,6] [3] air) s h=L s h:=fun s h=>by rw [← hLL]; rfl
    clear hLL
    have hL2:∀ (S:af) (H:aa) (X:Option (Ex × St)),aI 0 [5] (L S H)=X→S 3=.ref 3 none 0 0 0→S 5=I 0→S 6=I 0→H 3=.bx (bv t)→∃ hh,X=if t.exps.any rR=true then some (.ret,⟨upd (fun _=>.any) 4 (B false),hh⟩) else some (.normal,⟨upd (fun _=>.any) 5 (I (bc t.exps)),hh⟩):=fun S H X hX=>by
     rw [← hX]
     exact hL S H
    simp only [bv] at hL2
    cases c4:t.exps.any rR with
    | true =>
     simp only [c4] at hL2
     rw [Bool.not_true,Bool.false_and]
     simp only [aiQ,ajH,hX,bv,go_sem,↓reduceIte,aez,aeB,aeA,aeC,f1,hvd,f3]
     generalize hB:aI 0 [5] (L _ _)=X
     obtain ⟨hh,g0⟩:=hL2 _ _ _ hB rfl rfl rfl rfl
     rw [g0]
     simp only [go_sem,↓reduceIte]
    | false =>
     simp only [c4,if_neg Bool.false_ne_true] at hL2
     rw [Bool.not_false,Bool.true_and]
     simp only [aiQ,ajH,hX,bv,go_sem,↓reduceIte,aez,aeB,aeA,aeC,f1,hvd,f3]
     generalize hB:aI 0 [5] (L _ _)=X
     obtain ⟨hh,g0⟩:=hL2 _ _ _ hB rfl rfl rfl rfl
     rw [g0]
     simp only [go_sem,↓reduceIte]
 ·have f1:((t.exps.length:Int)=v)=False:=ff c1
  rw [decide_eq_false c1,Bool.false_and]
  simp only [aiQ,ajH,bv,go_sem,↓reduceIte,aez,aeB,aeA,f1]
theorem ar8 {a:Rp} (ok:OkP a) (hv:a.vars≤8) (h2:a.terms.length≤500):∀ (k i:Nat),i+k=a.terms.length→∀ (pr:Option Rt),(i=0→pr=none)→(0 < i→∃ q,pr=some q∧a.terms[i - 1]?=some q∧Di a.vars q=true) →
  ∀ (s:af) (h:aa),s 1=.ref 1 none 0 0 0→s 3=I i→h 1=.bx [I a.vars,.sl 4 (ax a.terms)] →
  ∃ hh,aI 0 [] (aU (az R (ab false) ait) [1,3] [1] s h)=if tO a.vars pr (a.terms.drop i)=true then some (.normal,⟨fun _=>.any,hh⟩) else some (.ret,⟨upd (fun _=>.any) 2 (B false),hh⟩):=by
 intro k
 induction k with
 | zero =>
  intro i hi pr p0 p1 s h h1 h3 k1
  have e1:((i:Int) < a.terms.length)=False:=ff (by omega)
  rw [List.drop_eq_nil_of_le (by omega),aA]
  refine ⟨?hh0,?_⟩
  rotate_left
  show _=if true=true then _ else _
  rw [if_pos rfl]
  simp only [ait,go_sem,↓reduceIte,aez,aeB,aeA,aeD,h1,h3,k1,e1]
  rfl
 | succ k ih =>
  intro i hi pr p0 p1 s h h1 h3 k1
  have hlt:i < a.terms.length:=by omega
  have e1:((i:Int) < a.terms.length)=True:=tt (by omega)
  have e2:bH (ax a.terms) (i:Int)=some (.ipt (bv a.terms[i])):=jx rfl (List.getElem?_eq_getElem hlt)
  have e5:IntKind.i64.wrap ((i:Int)+1)=((i+1:Nat):Int):=wi (by omega) (by omega)
  have okt:=ok.t a.terms[i] (List.getElem_mem hlt)
  have hnext:a.terms[i+1 - 1]?=some a.terms[i]:=List.getElem?_eq_getElem hlt
  rw [List.drop_eq_getElem_cons hlt,aA]
  have ih':=ih (i+1) (by omega) (some a.terms[i]) (fun h=>absurd h (Nat.succ_ne_zero _))
  generalize a.terms[i]=t at e2 okt ih' hnext ⊢
  generalize aU _ _ _=L at ih' ⊢
  have htm:=ar7 okt (v:=a.vars) (by omega)
  simp only [bv] at e2 htm
  unfold tO
  cases hb:Di a.vars t with
  | false =>
   rw [hb] at htm
   simp only [Bool.false_and,if_neg Bool.false_ne_true]
   refine ⟨?hh2,?_⟩
   rotate_left
   simp only [ait,go_sem,↓reduceIte,aez,aeB,aeA,aeC,aeE,aeD,h1,h3,k1,e1,e2,htm]
   rfl
  | true =>
   rw [hb] at htm
   obtain ⟨c1,c2,c3,c4,c5⟩:=Bx hb
   simp only [Bool.true_and]
   by_cases hi0:i=0
   ·have f6:(0 < (i:Int))=False:=ff (by omega)
    rw [p0 hi0]
    simp only [Hh,Bool.true_and]
    simp only [ait,go_sem,↓reduceIte,aez,aeB,aeA,aeC,aeE,aeD,h1,h3,k1,e1,e2,htm,f6,e5]
    exact ih' (fun _=>⟨t,rfl,hnext,hb⟩) _ _ rfl rfl rfl
   ·have f6:(0 < (i:Int))=True:=tt (by omega)
    obtain ⟨q,q1,q2,q3⟩:=p1 (by omega)
    obtain ⟨d1,d2,d3,d4,d5⟩:=Bx q3
    rw [q1]
    have e7:IntKind.i64.wrap ((i:Int) - 1)=((i - 1:Nat):Int):=wi (by omega) (by omega)
    have e8:bH (ax a.terms) ((i - 1:Nat):Int)=some (.ipt (bv q)):=jx rfl q2
    simp only [bv] at e8
    have ho:=alC (a:=q.exps) (b:=t.exps) ⟨by omega,rh d4⟩ ⟨by omega,rh c4⟩ (by omega)
    simp only [Hh]
    by_cases c6:bj q.exps t.exps < 0
    ·have f7:(0≤bj q.exps t.exps)=False:=ff (by omega)
     simp only [decide_eq_true c6,Bool.true_and]
     simp only [ait,go_sem,↓reduceIte,aez,aeB,aeA,aeC,aeE,aeD,h1,h3,k1,e1,e2,htm,f6,e5,e7,e8,ho,f7]
     exact ih' (fun _=>⟨t,rfl,hnext,hb⟩) _ _ rfl rfl rfl
    ·have f7:(0≤bj q.exps t.exps)=True:=tt (by omega)
     simp only [decide_eq_false c6,Bool.false_and,if_neg Bool.false_ne_true]
     refine ⟨?hh7,?_⟩
     rotate_left
     simp only [ait,go_sem,↓reduceIte,aez,aeB,aeA,aeC,aeE,aeD,h1,h3,k1,e1,e2,htm,f6,e7,e8,ho,f7]
     rfl
theorem alg {a:Rp} (ok:OkP a):R F.r23_Valid [bm a] []=some (B (vp a),[]):=by
 refine aZ aoW aoV (amz false) rfl ?_
 unfold vp
 by_cases c1:0≤a.vars
 ·have f1:(a.vars < 0)=False:=ff (by omega)
  rw [decide_eq_true c1,Bool.true_and]
  by_cases c2:a.vars≤8
  ·have f2:(8 < a.vars)=False:=ff (by omega)
   rw [decide_eq_true c2,Bool.true_and]
   by_cases c3:a.terms.length≤500
   ·have f3:(500 < (a.terms.length:Int))=False:=ff (by omega)
    rw [decide_eq_true c3,Bool.true_and]
    have h3:=ar8 ok c2 c3 a.terms.length 0 (Nat.zero_add _) none (fun _=>rfl) (fun h=>absurd h (Nat.lt_irrefl _))
    simp only [List.drop_zero,Int.natCast_zero] at h3
    cases hb:tO a.vars none a.terms with
    | true =>
     rw [hb] at h3
     simp only [] at h3
     simp only [aiC,ajo,bm,go_sem,↓reduceIte,aez,aeB,aeA,f1,f2,f3]
     rw [(h3 _ _ rfl rfl rfl).choose_spec]
     simp only [go_sem,↓reduceIte]
    | false =>
     rw [hb] at h3
     simp only [if_neg Bool.false_ne_true] at h3
     simp only [aiC,ajo,bm,go_sem,↓reduceIte,aez,aeB,aeA,f1,f2,f3]
     rw [(h3 _ _ rfl rfl rfl).choose_spec]
     simp only [go_sem,↓reduceIte]
   ·have f3:(500 < (a.terms.length:Int))=True:=tt (by omega)
    rw [decide_eq_false c3,Bool.false_and]
    simp only [aiC,ajo,bm,go_sem,↓reduceIte,aez,aeB,aeA,f1,f2,f3]
  ·have f2:(8 < a.vars)=True:=tt (by omega)
   rw [decide_eq_false c2,Bool.false_and]
   simp only [aiC,ajo,bm,go_sem,↓reduceIte,aez,aeB,aeA,f1,f2]
 ·have f1:(a.vars < 0)=True:=tt (by omega)
  rw [decide_eq_false c1,Bool.false_and]
  simp only [aiC,ajo,bm,go_sem,↓reduceIte,aez,aeB,aeA,f1]
end Go.Ab
namespace Go.Ab
open Go Go.IntWalk
set_option maxRecDepth 4000
set_option maxHeartbeats 1000000
end Go.Ab
namespace Go.Ab
open Go Go.IntWalk
set_option maxRecDepth 4000
set_option maxHeartbeats 1000000
structure Len1 (x:Ri):Prop where
 lo:Lb x.lo.m∧x.lo.m.length≤100000
 hi:Lb x.hi.m∧x.hi.m.length≤100000
def VI (x:Ri):Prop:=(vd x.lo=true∧Ok0 x.lo)∧(vd x.hi=true∧Ok0 x.hi)
theorem VI.len {x:Ri} (h:VI x):Len1 x:=⟨⟨h.1.2.1,Nat.le_trans (xi h.1.1 h.1.2.1) (by decide)⟩,⟨h.2.2.1,Nat.le_trans (xi h.2.1 h.2.2.1) (by decide)⟩⟩
end Go.Ab
namespace Go.Ab
open Go Go.IntWalk
set_option maxRecDepth 4000
set_option maxHeartbeats 1000000
end Go.Ab
namespace Go.Ab
open Go Go.IntWalk
set_option maxRecDepth 4000
set_option maxHeartbeats 1000000
def rdE:Option Rd→List AV
 | none=>[B false,.emp,I 0]
 | some d=>aW d
def X9 (l:List (Option Rd)):List (List AV):=l.map rdE
@[go_sem] theorem ab9 (l:List (Option Rd)):(X9 l).length=l.length:=by simp [X9]
end Go.Ab
namespace Go.Ab
open Go Go.IntWalk
set_option maxRecDepth 4000
set_option maxHeartbeats 1000000
def eC (a b:Rd):Rd × Int:=if (vd a && vd b)=true then dU (fB (zI a*zI b) (-32768)) else (fp,1)
def iQ (a b:Rd):Rd × Int:=if (vd a && vd b)=true then dU (fB (zI a+zI b) (-16384)) else (fp,1)
theorem Cy {z f:Int}:vd (dU (fB z f)).1=true∧Ok0 (dU (fB z f)).1:=by
 unfold dU fB
 by_cases h:qC (am (ac (bA (decide (z < 0)) z.natAbs f).m)) (bA (decide (z < 0)) z.natAbs f).e=true
 ·rw [if_pos h]
  have hv:=QD h
  have hb:=Cx (decide (z < 0)) z.natAbs f
  exact ⟨hv,hb,Nat.lt_of_le_of_lt (xi hv hb) (by decide)⟩
 ·rw [if_neg h]
  exact He
theorem afb (a b:Rd):vd (eC a b).1=true∧Ok0 (eC a b).1:=by
 unfold eC
 split
 ·exact Cy
 ·exact He
theorem QH (a b:Rd):vd (iQ a b).1=true∧Ok0 (iQ a b).1:=by
 unfold iQ
 split
 ·exact Cy
 ·exact He
theorem xV {d:Rd} (h:vd d=true) (h0:d.m.length ≠ 0):ac d.m % 2=1:=by
 obtain ⟨h1,h2,h3,h4⟩:=rQ h h0
 cases hm:d.m with
 | nil=>rw [hm] at h0; exact absurd rfl h0
 | cons x l =>
  rw [hm] at h2
  have h2':x % 2=1:=h2
  show (x+4294967296*ac l) % 2=1
  omega
theorem Hi {x y:Nat} (hx:x ≠ 0) (hy:y ≠ 0):am x+am y - 2 < am (x*y):=by
 have h1:=kj hx
 have h2:=kj hy
 have h3:2 ^ (am x - 1)≤x:=kH.1 (by omega)
 have h4:2 ^ (am y - 1)≤y:=kH.1 (by omega)
 rw [kH,show am x+am y - 2=(am x - 1)+(am y - 1) by omega,Nat.pow_add]
 exact Nat.mul_le_mul h3 h4
theorem QI {a b:Rd} (oa:Ok0 a) (ob:Ok0 b):EW a b=rV (eC a b):=by
 unfold EW eC
 by_cases hv:vd a=true∧vd b=true
 ·obtain ⟨va,vb⟩:=hv
  rw [if_pos ⟨va,vb⟩,va,vb,Bool.true_and,if_pos rfl,← Me oa ob va vb]
  by_cases h0:a.m.length=0∨b.m.length=0
  ·rw [if_pos h0]
   have:ac a.m*ac b.m=0:=by
    rcases h0 with h0 | h0
    ·rw [List.length_eq_zero_iff.1 h0]
     exact Nat.zero_mul _
    ·rw [List.length_eq_zero_iff.1 h0]
     exact Nat.mul_zero _
   rw [this,iL]
   rfl
  ·rw [if_neg h0]
   have a0:a.m.length ≠ 0:=fun h=>h0 (.inl h)
   have b0:b.m.length ≠ 0:=fun h=>h0 (.inr h)
   have x0:=iK va a0
   have y0:=iK vb b0
   by_cases hb:4096 < am (ac a.m)+am (ac b.m) - 1
   ·rw [if_pos hb]
    have h1:=Hi x0 y0
    have ho:ac a.m*ac b.m % 2=1:=by rw [Nat.mul_mod,xV va a0,xV vb b0]
    have ht:=Md ho 0
    rw [Nat.pow_zero,Nat.mul_one] at ht
    obtain ⟨g1,g2,g3,g4⟩:=nD (neg:=a.neg != b.neg) (e:=a.e+b.e) (Nat.mul_ne_zero x0 y0)
    unfold dU
    rw [if_neg]
    ·rfl
    ·intro h2
     rw [g1,ht,Nat.pow_zero,Nat.div_one] at h2
     have h3:=(tM h2 (by omega)).1
     omega
   ·rw [if_neg hb]
    exact IX _
 ·rw [if_neg hv,if_neg]
  ·rfl
  ·intro h
   rw [Bool.and_eq_true] at h
   exact hv h
theorem IZ {a b:Rd} (oa:Ok0 a) (ob:Ok0 b):R F.dyadic_Mul [aF a,aF b] []=some (rV (eC a b),[]):=by
 rw [← QI oa ob]
 exact QB oa ob
end Go.Ab
namespace Go.Ab
open Go Go.IntWalk
set_option maxRecDepth 4000
set_option maxHeartbeats 1000000
end Go.Ab
namespace Go.Ab
open Go Go.IntWalk
set_option maxRecDepth 4000
def ad8 (x:Rd):Nat→Rd→Option Rd
 | 0,c=>some c
 | n+1,c=>if (eC c x).2=0 then ad8 x n (eC c x).1 else none
theorem I0 {z:Int} {j:Nat} (h:(dU (fB z (-16384 - j))).2=0):zI (dU (fB z (-16384 - j))).1*2 ^ j=z:=by
 unfold dU at h ⊢
 by_cases hr:qC (am (ac (fB z (-16384 - j)).m)) (fB z (-16384 - j)).e=true
 ·rw [if_pos hr]
  show zI (fB z (-16384 - j))*2 ^ j=z
  unfold fB at hr ⊢
  by_cases h0:z.natAbs=0
  ·rw [h0,iL]
   have:z=0:=by omega
   rw [this,rf rfl,Int.zero_mul]
  ·obtain ⟨g1,g2,g3,g4⟩:=nD (neg:=decide (z < 0)) (e:=-16384 - (j:Int)) h0
   obtain ⟨t1,t2⟩:=qY h0
   have hp:am (ac (bA (decide (z < 0)) z.natAbs (-16384 - j)).m) ≠ 0:=by
    rw [g1]
    exact Nat.pos_iff_ne_zero.1 (kj (by omega))
   have he:=tM hr hp
   rw [g2] at he
   rw [lR h0]
   unfold zI mg
   rw [bL]
   have ht:(-16384 - (j:Int)+(tz z.natAbs:Nat)+16384).toNat+j=tz z.natAbs:=by omega
   generalize (-16384 - (j:Int)+(tz z.natAbs:Nat)+16384).toNat=k at ht ⊢
   have hm:(((z.natAbs / 2 ^ tz z.natAbs*2 ^ k:Nat):Int))*2 ^ j=z.natAbs:=by
    have:z.natAbs / 2 ^ tz z.natAbs*2 ^ k*2 ^ j=z.natAbs:=by
     rw [Nat.mul_assoc,← Nat.pow_add,ht,Nat.mul_comm]
     exact t1.symm
    have h3:=congrArg (Nat.cast (R:=Int)) this
    rw [Int.natCast_mul,Int.natCast_pow] at h3
    exact h3
   show (if decide (z < 0)=true then -(((z.natAbs / 2 ^ tz z.natAbs*2 ^ k:Nat):Int)) else ((z.natAbs / 2 ^ tz z.natAbs*2 ^ k:Nat):Int))*2 ^ j=z
   by_cases hz:z < 0
   ·rw [decide_eq_true hz,if_pos rfl,Int.neg_mul,hm]
    omega
   ·rw [decide_eq_false hz,if_neg Bool.false_ne_true,hm]
    omega
 ·rw [if_neg hr] at h
  exact absurd h (show ((9:Int)=0)→False by decide)
theorem QJ {a b:Rd} (h:(iQ a b).2=0):zI (iQ a b).1=zI a+zI b:=by
 unfold iQ at h ⊢
 split at h
 ·rename_i h1
  rw [if_pos h1]
  have:=I0 (z:=zI a+zI b) (j:=0) h
  rw [Int.pow_zero,Int.mul_one] at this
  exact this
 ·exact absurd h (show ((1:Int)=0)→False by decide)
end Go.Ab
namespace Go.Ab
open Go Go.IntWalk
set_option maxRecDepth 4000
set_option maxHeartbeats 1000000
theorem alS {d:Rd} (ok:Ok0 d):R F.r02_Checked [aF d] []=some (rV (if vd d=true then (d,0) else (fp,9)),[]):=by
 refine aZ anx anw (al0 false) rfl ?_
 have hv:=ai5 ok
 simp only [aF,aW] at hv
 cases hb:vd d with
 | false =>
  rw [hb] at hv
  rw [if_neg Bool.false_ne_true]
  simp only [ai7,aky,rV,aF,aW,fp,go_sem,↓reduceIte,aez,aeB,aeA,aeC,hv]
 | true =>
  rw [hb] at hv
  rw [if_pos rfl]
  simp only [ai7,aky,rV,aF,aW,go_sem,↓reduceIte,aez,aeB,aeA,aeC,hv]
theorem aoG (z f:Int):(if vd (fB z f)=true then (fB z f,(0:Int)) else (fp,9))=dU (fB z f):=by
 unfold dU
 by_cases h:qC (am (ac (fB z f).m)) (fB z f).e=true
 ·rw [if_pos h,if_pos (show vd (fB z f)=true from QD h)]
 ·rw [if_neg h,if_neg]
  intro h2
  by_cases h0:(fB z f).m.length=0
  ·rw [xU h2 h0] at h
   exact h (by decide)
  ·exact h (rQ h2 h0).2.2.2
theorem atO {z f:Int} {k:Nat} (h:am z.natAbs≤32*k) (hk:k≤100000):Ok0 (fB z f) :=
 ⟨Cx _ _ _,Nat.lt_of_le_of_lt (Hc (k:=k) h) (by omega)⟩
theorem atP {a b:Rd} (oa:Ok0 a) (ob:Ok0 b):R F.r02_Mul [aF a,aF b] []=some (rV (eC a b),[]):=by
 refine aZ arh arg (aol false) rfl ?_
 have ha:=ai5 oa
 have hb:=ai5 ob
 unfold eC
 simp only [aF,aW] at ha hb
 cases va:vd a with
 | false =>
  rw [va] at ha
  rw [Bool.false_and,if_neg Bool.false_ne_true]
  simp only [ajI,akS,rV,aF,aW,fp,go_sem,↓reduceIte,aez,aeB,aeA,aeC,ha]
 | true =>
  rw [va] at ha
  cases vb:vd b with
  | false =>
   rw [vb] at hb
   rw [Bool.true_and,if_neg Bool.false_ne_true]
   simp only [ajI,akS,rV,aF,aW,fp,go_sem,↓reduceIte,aez,aeB,aeA,aeC,ha,hb]
  | true =>
   rw [vb] at hb
   rw [Bool.true_and,if_pos rfl]
   have hp:=apC oa ob va vb
   rw [Me oa ob va vb] at hp
   have hl:Ok0 (fB (zI a*zI b) (-32768)):=by
    rw [← Me oa ob va vb]
    have h1:=Hb (ac a.m) (ac b.m)
    obtain ⟨_,_,_,h2⟩:=kT va oa.lb
    obtain ⟨_,_,_,h3⟩:=kT vb ob.lb
    exact ⟨Cx _ _ _,Nat.lt_of_le_of_lt (Hc (k:=256) (by omega)) (by decide)⟩
   have hc:=alS hl
   rw [aoG] at hc
   generalize dU (fB (zI a*zI b) (-32768))=r at hc ⊢
   generalize fB (zI a*zI b) (-32768)=d at hp hc
   simp only [rV,aF,aW] at hp hc
   simp only [ajI,akS,rV,aF,aW,go_sem,↓reduceIte,aez,aeB,aeA,aeC,ha,hb,hp,hc]
theorem apJ {a b:Rd} (oa:Ok0 a) (ob:Ok0 b):R F.r02_Add [aF a,aF b] []=some (rV (iQ a b),[]):=by
 refine aZ aq5 aq4 (aoe false) rfl ?_
 have ha:=ai5 oa
 have hb:=ai5 ob
 unfold iQ
 simp only [aF,aW] at ha hb
 cases va:vd a with
 | false =>
  rw [va] at ha
  rw [Bool.false_and,if_neg Bool.false_ne_true]
  simp only [ajF,akR,rV,aF,aW,fp,go_sem,↓reduceIte,aez,aeB,aeA,aeC,ha]
 | true =>
  rw [va] at ha
  cases vb:vd b with
  | false =>
   rw [vb] at hb
   rw [Bool.true_and,if_neg Bool.false_ne_true]
   simp only [ajF,akR,rV,aF,aW,fp,go_sem,↓reduceIte,aez,aeB,aeA,aeC,ha,hb]
  | true =>
   rw [vb] at hb
   rw [Bool.true_and,if_pos rfl]
   have hp:=ak6 oa ob va vb
   have hl:Ok0 (fB (zI a+zI b) (-16384)):=atO (k:=2000) (Nat.le_trans (amw (apI oa va) (apI ob vb)) (by decide)) (by decide)
   have hc:=alS hl
   rw [aoG] at hc
   generalize dU (fB (zI a+zI b) (-16384))=r at hc ⊢
   generalize fB (zI a+zI b) (-16384)=d at hp hc
   simp only [rV,aF,aW] at hp hc
   simp only [ajF,akR,rV,aF,aW,go_sem,↓reduceIte,aez,aeB,aeA,aeC,ha,hb,hp,hc]
theorem asU {a b:Rd} (h:(eC a b).2 ≠ 0):(eC a b).1=fp:=by
 unfold eC dU at h ⊢
 split
 ·rename_i h1
  rw [if_pos h1] at h
  split
  ·rename_i h2
   rw [if_pos h2] at h
   exact absurd rfl h
  ·rfl
 ·rfl
def afO (x:Rd) (n:Nat) (c:Rd):Rd × Bool:=match ad8 x n c with
 | some d=>(d,true)
 | none=>(fp,false)
theorem aqM {x:Rd} (ox:Ok0 x):∀ (n:Nat),n≤100000→∀ (c:Rd),Ok0 c→∀ (s:af) (h:aa),s 2=I n→s 3=.ref 3 none 0 0 0→s 4=.ref 4 none 0 0 0→s 6=.ref 6 none 0 0 0→h 3=.bx (aW c)→h 4=.bx (aW x)→h 6=.bx [B false,.emp,I 0] →
  ∃ hh,dG (aI 0 [3,6] (aU (az R (ab false) aiR) [2,3,4,6] [3,4,6] s h)) (az R (ab false) (.seq (.ops [6,7] [la 22 3 3,sr 3 (.t 6) (.t 22),co 7 (.mv (.c (B true)))]) (.ret)))=some (.ret,⟨upd (upd (fun _=>.any) 7 (B (afO x n c).2)) 6 (.ref 6 none 0 0 0),hh⟩)∧hh 6=.bx (aW (afO x n c).1):=by
 intro n
 induction n with
 | zero =>
  intro _ c oc s h h2 h3 h4 h6 k3 k4 k6
  have e1:(0 < ((0:Nat):Int))=False:=ff (by omega)
  rw [aA]
  simp only [aW] at k3 k4
  refine ⟨?hh0,?_,?_⟩
  rotate_left
  ·simp only [aiR,afO,ad8,go_sem,↓reduceIte,aez,aeB,aeA,aeC,aeD,h2,h3,h4,h6,k3,k4,k6,e1]
   rfl
  ·rfl
 | succ n ih =>
  intro hn c oc s h h2 h3 h4 h6 k3 k4 k6
  have e1:(0 < ((n+1:Nat):Int))=True:=tt (by omega)
  have e5:IntKind.i64.wrap (((n+1:Nat):Int) - 1)=(n:Int):=by rw [i64_in] <;> omega
  have hm:=atP oc ox
  have he:=asU (a:=c) (b:=x)
  have om:=(afb c x).2
  rw [aA]
  unfold afO ad8
  by_cases h0:(eC c x).2=0
  ·have ih':=ih (by omega) (eC c x).1 om
   rw [if_pos h0]
   unfold afO at ih'
   generalize aU _ _ _=L at ih' ⊢
   generalize eC c x=r at hm h0 ih' ⊢
   obtain ⟨r1,r2⟩:=r
   have e2:(r2=0)=True:=tt h0
   simp only [rV,aF,aW] at hm k3 k4
   simp only [aiR,go_sem,↓reduceIte,aez,aeB,aeA,aeC,aeD,h2,h3,h4,h6,k3,k4,k6,e1,e5,hm,e2] at ih' ⊢
   exact ih' _ _ rfl rfl rfl rfl rfl rfl rfl
  ·rw [if_neg h0]
   replace he:=he h0
   generalize aU _ _ _=L
   generalize eC c x=r at hm h0 he ⊢
   obtain ⟨r1,r2⟩:=r
   have e2:(r2=0)=False:=ff h0
   replace he:r1=fp:=he
   subst he
   simp only [rV,aF,aW] at hm k3 k4
   refine ⟨?hh1,?_,?_⟩
   rotate_left
   ·simp only [aiR,go_sem,↓reduceIte,aez,aeB,aeA,aeC,aeD,h2,h3,h4,h6,k3,k4,k6,e1,hm,e2]
    rfl
   ·rfl
theorem aqN {c x:Rd} (oc:Ok0 c) (ox:Ok0 x) {n:Nat} (hn:n≤100000):R F.r23_times [aF c,aF x,I n] []=some (.tup [aF (afO x n c).1,B (afO x n c).2],[]):=by
 refine aZ ao2 ao1 (amB false) rfl ?_
 have h:=aqM ox n hn c oc
 have h':∀ (S:af) (H:aa) (X:Option (Ex × St)),dG (aI 0 [3,6] (aU (az R (ab false) aiR) [2,3,4,6] [3,4,6] S H)) (az R (ab false) (.seq (.ops [6,7] [la 22 3 3,sr 3 (.t 6) (.t 22),co 7 (.mv (.c (B true)))]) (.ret)))=X→S 2=I n→S 3=.ref 3 none 0 0 0→S 4=.ref 4 none 0 0 0→S 6=.ref 6 none 0 0 0→H 3=.bx (aW c)→H 4=.bx (aW x)→H 6=.bx [B false,.emp,I 0] →
   ∃ hh,X=some (.ret,⟨upd (upd (fun _=>.any) 7 (B (afO x n c).2)) 6 (.ref 6 none 0 0 0),hh⟩)∧hh 6=.bx (aW (afO x n c).1):=fun S H X hX=>by
  rw [← hX]
  exact h S H
 clear h
 simp only [aj8,alL,aF,aW,go_sem,↓reduceIte,aez,aeA]
 generalize hB:dG (aI 0 [3,6] (aU _ _ _ _ _)) _=X
 obtain ⟨hh,g1,g2⟩:=h' _ _ _ hB rfl rfl rfl rfl rfl rfl rfl
 rw [g1]
 simp only [aW] at g2
 simp only [go_sem,↓reduceIte,aez,aeB,aeA,aeC,g2]
theorem afw {x:Rd}:∀ (n:Nat) (c d:Rd),Ok0 c→ad8 x n c=some d→Ok0 d
 | 0,c,d,oc,h=>by
  unfold ad8 at h
  obtain rfl:=Option.some.inj h
  exact oc
 | n+1,c,d,oc,h=>by
  unfold ad8 at h
  split at h
  ·exact afw n _ d (afb c x).2 h
  ·exact nomatch h
end Go.Ab
namespace Go.Ab
open Go Go.IntWalk
set_option maxRecDepth 4000
set_option maxHeartbeats 1000000
abbrev zb:List AV:=[B false,.emp,I 0]
end Go.Ab
namespace Go.Ab
open Go Go.IntWalk
set_option maxRecDepth 4000
set_option maxHeartbeats 1000000
end Go.Ab
namespace Go.Ab
open Go Go.IntWalk
set_option maxRecDepth 4000
set_option maxHeartbeats 1000000
end Go.Ab
namespace Go.Ab
open Go Go.IntWalk
set_option maxRecDepth 4000
set_option maxHeartbeats 1000000
end Go.Ab
namespace Go.Ab
open Go Go.IntWalk
set_option maxRecDepth 4000
set_option maxHeartbeats 1000000
@[go_sem] theorem aca (l:List Rd):(Ma l).map (cf [.o 0 [],.o 2 [],.o 0 []])=Ma l:=by
 refine qo fun x hx=>?_
 simp only [Ma,List.mem_map] at hx
 obtain ⟨t,ht,rfl⟩:=hx
 simp only [aW,go_sem]
end Go.Ab
namespace Go.Ab
open Go Go.IntWalk
set_option maxRecDepth 4000
set_option maxHeartbeats 1000000
theorem Hj {d:Rd} (h:vd d=true):dU d=(d,0):=by
 unfold dU
 by_cases h0:d.m.length=0
 ·rw [xU h h0]
  rfl
 ·rw [if_pos (rQ h h0).2.2.2]
theorem Dk {d:Rd} (ok:Ok0 d) (h:vd d=true):bA d.neg (ac d.m) d.e=d:=by
 have h1:=tQ ok h
 obtain ⟨g1,g2,g3,g4⟩:=kT h ok.lb
 have hz:zI d=fX d.neg (mg d):=rfl
 rw [hz,← tP] at h1
 unfold mg at h1
 rw [oP,show -16384+(((d.e+16384).toNat:Nat):Int)=d.e by omega] at h1
 exact h1
theorem I1 {N k:Nat} {neg:Bool} (ho:N % 2=1) (hb:4096 < am N):dU (bA neg (N*2 ^ k) (-16384))=(fp,9):=by
 have h0:N ≠ 0:=by omega
 rw [oP]
 obtain ⟨g1,g2,g3,g4⟩:=nD (neg:=neg) (e:=-16384+(k:Int)) h0
 have ht:=Md ho 0
 rw [Nat.pow_zero,Nat.mul_one] at ht
 unfold dU
 rw [if_neg]
 intro h2
 rw [g1,ht,Nat.pow_zero,Nat.div_one] at h2
 have h3:=(tM h2 (by omega)).1
 omega
theorem Hk {a b:Rd} (oa:Ok0 a) (ob:Ok0 b) (va:vd a=true) (vb:vd b=true) (na:a.m.length ≠ 0) (nb:b.m.length ≠ 0) {e:Int} (he:e=if b.e < a.e then b.e else a.e) (h:4097 < bo a - e) (hg:1 < bo a - bo b) :
  dU (fB (zI a+zI b) (-16384))=(fp,9)∧dU (fB (zI b+zI a) (-16384))=(fp,9):=by
 obtain ⟨a1,a2,a3,a4⟩:=kT va oa.lb
 obtain ⟨b1,b2,b3,b4⟩:=kT vb ob.lb
 have e1:=pI va na
 have e2:=pI vb nb
 have he1:-16384≤e∧e≤a.e∧e≤b.e∧(e=a.e∨e=b.e):=by
  rw [he]
  split <;> omega
 have hne:a.e ≠ b.e:=by omega
 have z1:zI a=fX a.neg (ac a.m*2 ^ (a.e - e).toNat*2 ^ (e+16384).toNat):=by
  rw [show zI a=fX a.neg (mg a) from rfl,pH he1.1 he1.2.1]
 have z2:zI b=fX b.neg (ac b.m*2 ^ (b.e - e).toNat*2 ^ (e+16384).toNat):=by
  rw [show zI b=fX b.neg (mg b) from rfl,pH he1.1 he1.2.2.1]
 have bx:(am (ac a.m*2 ^ (a.e - e).toNat):Int)=bo a - e:=by
  rw [lO _ (iK va na)]
  omega
 have by':(am (ac b.m*2 ^ (b.e - e).toNat):Int)=bo b - e:=by
  rw [lO _ (iK vb nb)]
  omega
 have oX:=xV va na
 have oY:=xV vb nb
 have odd:(ac a.m*2 ^ (a.e - e).toNat+ac b.m*2 ^ (b.e - e).toNat) % 2=1:=by
  rcases he1.2.2.2 with h1 | h1
  ·obtain ⟨k,hk⟩:∃ k,(b.e - e).toNat=k+1:=⟨(b.e - e).toNat - 1,by omega⟩
   rw [show (a.e - e).toNat=0 by omega,hk,Nat.pow_zero,Nat.mul_one,Nat.pow_succ,← Nat.mul_assoc]
   omega
  ·obtain ⟨k,hk⟩:∃ k,(a.e - e).toNat=k+1:=⟨(a.e - e).toNat - 1,by omega⟩
   rw [show (b.e - e).toNat=0 by omega,hk,Nat.pow_zero,Nat.mul_one,Nat.pow_succ,← Nat.mul_assoc]
   omega
 rw [Int.add_comm (zI b),and_self,z1,z2]
 generalize ac a.m*2 ^ (a.e - e).toNat=x at bx odd ⊢
 generalize ac b.m*2 ^ (b.e - e).toNat=y at by' odd ⊢
 generalize (e+16384).toNat=k
 have hx:2 ^ (am x - 1)≤x:=kH.1 (by omega)
 have hy:y < 2 ^ (am x - 2):=by
  have h3:y < 2 ^ am y:=cX.1 (Nat.le_refl _)
  exact Nat.lt_of_lt_of_le h3 (Nat.pow_le_pow_right (by omega) (by omega))
 have hp:2 ^ (am x - 1)=2 ^ (am x - 2)*2:=by
  rw [← Nat.pow_succ]
  congr 1
  omega
 have hbig:∀ N:Nat,x - y≤N→4096 < am N:=fun N hN=>by
  have h5:am x - 2 < am N:=kH.2 (by omega)
  omega
 have hsum:∀ (n:Bool) (z:Nat),fB (fX n (z*2 ^ k)) (-16384)=bA n (z*2 ^ k) (-16384):=fun n z=>tP.symm
 have hmul:y*2 ^ k≤x*2 ^ k:=Nat.mul_le_mul_right _ (by omega)
 by_cases hs:a.neg=b.neg
 ·have hz:fX a.neg (x*2 ^ k)+fX b.neg (y*2 ^ k)=fX a.neg ((x+y)*2 ^ k):=by
   rw [← hs,Nat.add_mul]
   cases a.neg
   ·rw [jf,jf,jf]
    omega
   ·rw [je,je,je]
    omega
  rw [hz,hsum]
  exact I1 odd (hbig _ (by omega))
 ·have hbn:b.neg=!a.neg:=by
   cases ha:a.neg <;> cases hb:b.neg <;> first | rfl | (rw [ha,hb] at hs; exact absurd rfl hs)
  have hz:fX a.neg (x*2 ^ k)+fX b.neg (y*2 ^ k)=fX a.neg ((x - y)*2 ^ k):=by
   rw [hbn,Nat.sub_mul]
   cases a.neg
   ·rw [Bool.not_false,jf,je,jf]
    omega
   ·rw [Bool.not_true,jf,je,je]
    omega
  rw [hz,hsum]
  exact I1 (by omega) (hbig _ (Nat.le_refl _))
def jy:Cmd:=.seq (.dops [2,3,4,6,9,10] [fa 65 1 2,ld 66 1 65,fa 67 2 2,ld 68 1 67,cm 69 6,b2 70 .sub 68 69,ca 71 F.dyadic_shifted [.t 66,.t 70],fa 72 1 3,ld 73 1 72,fa 74 2 3,ld 75 1 74,cm 76 6,b2 77 .sub 75 76,ca 78 F.dyadic_shifted [.t 73,.t 77],cm 9 71,cm 10 78] [(6,8),(6,10)]) (.seq (.seq (.ops [2,3,4,6,9,10,83] [fa 79 0 2,ld 80 1 79,fa 81 0 3,ld 82 1 81,co 83 (.eqc false 0 (.t 80) (.t 82))]) (.cond (.t 83) (.seq (.ops [2,4,6,11] [cm 85 9,cm 86 10,ca 87 F.natural_Add [.t 85,.t 86],cm 84 87,co 88 (.ext 0 (.t 84)),co 89 (.ext 1 (.t 84)),cm 11 88,cm 12 89]) (.seq (.ops [4,5] [fa 90 0 2,ld 91 1 90,cm 92 11,cm 93 6,ca 94 F.dyadic_canonical [.t 91,.t 92,.t 93],ca 95 F.dyadic_checked [.t 94],co 96 (.ext 0 (.t 95)),co 97 (.ext 1 (.t 95)),sr 3 (.t 4) (.t 96),cm 5 97]) (.ret))) (.skip))) (.seq (.seq (.ops [2,3,4,6,9,10,101] [cm 98 9,cm 99 10,ca 100 F.natural_Cmp [.t 98,.t 99],co 101 (.bin .lss (.t 100) (.c (I 0)))]) (.cond (.t 101) (.ops [2,4,6,9,10] [la 102 3 3,cm 103 10,cm 104 9,sr 3 (.t 2) (.t 102),cm 9 103,cm 10 104]) (.skip))) (.seq (.ops [2,4,6,13] [cm 106 9,cm 107 10,ca 108 F.natural_Sub [.t 106,.t 107],cm 105 108,co 109 (.ext 0 (.t 105)),co 110 (.ext 1 (.t 105)),cm 13 109,cm 14 110]) (.seq (.ops [4,5] [fa 111 0 2,ld 112 1 111,cm 113 13,cm 114 6,ca 115 F.dyadic_canonical [.t 112,.t 113,.t 114],ca 116 F.dyadic_checked [.t 115],co 117 (.ext 0 (.t 116)),co 118 (.ext 1 (.t 116)),sr 3 (.t 4) (.t 117),cm 5 118]) (.ret)))))
theorem hH:oE=.seq (.ops [2,3,4] [bx 2 3 (.t 0),bx 3 3 (.t 1),al 4 [B false,.emp,I 0],co 5 (.mv (.c (I 0)))]) (.seq (.seq (.ops [2,3,4,24] [fa 15 1 2,ld 16 1 15,co 17 (.len false (.t 16)),co 18 (.bin .eql (.t 17) (.c (I 0))),cm 19 18,cg 20 19 false (.fadr 1 (.t 3)),⟨(some 21),(some (19,false)),.load 1 false (.t 20)⟩,cg 22 19 false (.len false (.t 21)),cg 23 19 false (.bin .eql (.t 22) (.c (I 0))),co 24 (.pick (.t 19) (.c (B true)) (.t 23))]) (.cond (.t 24) (.seq (.seq (.ops [2,3,4,28] [fa 25 1 2,ld 26 1 25,co 27 (.len false (.t 26)),co 28 (.bin .eql (.t 27) (.c (I 0)))]) (.cond (.t 28) (.ops [2,4] [la 29 3 3,sr 3 (.t 2) (.t 29)]) (.skip))) (.seq (.ops [4,5] [fa 30 0 2,ld 31 1 30,fa 32 1 2,ld 33 1 32,fa 34 2 2,ld 35 1 34,ca 36 F.dyadic_canonical [.t 31,.t 33,.t 35],sr 3 (.t 4) (.t 36),co 5 (.mv (.c (I 0)))]) (.ret))) (.skip))) (.seq (.ops [2,3,4,6] [fa 37 2 2,ld 38 1 37,fa 39 2 3,ld 40 1 39,co 41 (.mnx true (.t 38) [.t 40]),cm 6 41]) (.seq (.dops [2,3,4,6,7,8] [la 42 3 2,ca 43 F.dyadic_Top [.t 42],la 44 3 3,ca 45 F.dyadic_Top [.t 44],cm 7 43,cm 8 45] [(1,2)]) (.seq (.seq (.ops [2,3,4,6,63] [cm 46 7,cm 47 8,co 48 (.mnx false (.t 46) [.t 47]),cm 49 6,b2 50 .sub 48 49,co 51 (.bin .gtr (.t 50) (.c (I 4097))),cm 52 51,cg 53 52 true (.mv (.t 7)),cg 54 52 true (.mv (.t 8)),cg 55 52 true (.bin .sub (.t 53) (.t 54)),cg 56 52 true (.bin .gtr (.t 55) (.c (I 1))),cg 57 52 true (.mv (.t 56)),cg 58 57 false (.mv (.t 8)),cg 59 57 false (.mv (.t 7)),cg 60 57 false (.bin .sub (.t 58) (.t 59)),cg 61 57 false (.bin .gtr (.t 60) (.c (I 1))),cg 62 52 true (.pick (.t 57) (.c (B true)) (.t 61)),co 63 (.pick (.t 52) (.t 62) (.c (B false)))]) (.cond (.t 63) (.seq (.ops [4,5] [co 64 (.build [B false,.emp,I 0] []),sr 3 (.t 4) (.t 64),co 5 (.mv (.c (I 9)))]) (.ret)) (.skip))) jy)))):=rfl
theorem Dl {a b:Rd} (oa:Ok0 a) (ob:Ok0 b) (va:vd a=true) (vb:vd b=true) (na:a.m.length ≠ 0) (nb:b.m.length ≠ 0) {e:Int} (he1:-16384≤e∧e≤a.e∧e≤b.e) (hX:bo a - e≤5000) (hY:bo b - e≤5000) (s:af)
  (h2:s 2=.ref 2 none 0 0 0) (h3:s 3=.ref 3 none 0 0 0) (h4:s 4=.ref 4 none 0 0 0) (h6:s 6=I e) :
  ajf false [[.o 0 [],.o 2 [],.o 0 []],[]] [.cell 4 3 true,.t 5] 0 (az R (ab false) jy s (upd (upd (upd (fun _=>.dead) 2 (.bx (aW a))) 3 (.bx (aW b))) 4 (.bx [B false,.emp,I 0])))=some (rV (dU (fB (zI a+zI b) (-16384))),[]):=by
 obtain ⟨a1,a2,a3,a4⟩:=kT va oa.lb
 obtain ⟨b1,b2,b3,b4⟩:=kT vb ob.lb
 have e1:=pI va na
 have e2:=pI vb nb
 have w1:IntKind.i64.wrap (a.e - e)=(((a.e - e).toNat:Nat):Int):=wi (by omega) (by omega)
 have w2:IntKind.i64.wrap (b.e - e)=(((b.e - e).toNat:Nat):Int):=wi (by omega) (by omega)
 have z1:zI a=fX a.neg (ac a.m*2 ^ (a.e - e).toNat*2 ^ (e+16384).toNat):=by
  rw [show zI a=fX a.neg (mg a) from rfl,pH he1.1 he1.2.1]
 have z2:zI b=fX b.neg (ac b.m*2 ^ (b.e - e).toNat*2 ^ (e+16384).toNat):=by
  rw [show zI b=fX b.neg (mg b) from rfl,pH he1.1 he1.2.2]
 have bx:am (ac a.m*2 ^ (a.e - e).toNat)≤5000:=by
  rw [lO _ (iK va na)]
  omega
 have by':am (ac b.m*2 ^ (b.e - e).toNat)≤5000:=by
  rw [lO _ (iK vb nb)]
  omega
 have l1:=qT oa.lb a1 (k:=(a.e - e).toNat) (by omega) (Nat.le_trans (bG (k:=157) (by omega)) (by decide))
 have l2:=qT ob.lb b1 (k:=(b.e - e).toNat) (by omega) (Nat.le_trans (bG (k:=157) (by omega)) (by decide))
 rw [z1,z2]
 generalize ac a.m*2 ^ (a.e - e).toNat=x at l1 bx ⊢
 generalize ac b.m*2 ^ (b.e - e).toNat=y at l2 by' ⊢
 have hsum:∀ (n:Bool) (z:Nat),bA n z e=fB (fX n (z*2 ^ (e+16384).toNat)) (-16384):=fun n z=>by
  rw [← tP,oP,show -16384+(((e+16384).toNat:Nat):Int)=e by omega]
 have lx:(av x).length≤157:=bG (by omega)
 have ly:(av y).length≤157:=bG (by omega)
 have hq:X5 e:=⟨by omega,by omega⟩
 have hcp:=xe (ce x) (ce y) (by omega) (by omega)
 rw [bL,bL] at hcp
 have chk:∀ (n:Bool) (z:Nat),am z≤5001→R F.dyadic_canonical [B n,lm (av z),I e] []=some (aF (bA n z e),[])∧R F.dyadic_checked [aF (bA n z e)] []=some (rV (dU (bA n z e)),[]):=fun n z hz=>by
  have hl:(av z).length≤157:=bG (by omega)
  have c1:=lP (neg:=n) (m:=av z) (e:=e) (ce z) (by omega) hq
  rw [bL] at c1
  refine ⟨c1,?_⟩
  rw [Bs (Cx n z e) (Nat.le_trans (Hc (k:=157) (by omega)) (by decide))]
  exact congrArg (fun v=>some (v,[])) (IX _)
 by_cases hs:a.neg=b.neg
 ·have p1:=QC (x:=x) (y:=y) bx by'
  obtain ⟨c1,c2⟩:=chk a.neg (x+y) (Hd bx by')
  have hz:fX a.neg (x*2 ^ (e+16384).toNat)+fX b.neg (y*2 ^ (e+16384).toNat)=fX a.neg ((x+y)*2 ^ (e+16384).toNat):=by
   rw [← hs,Nat.add_mul]
   cases a.neg
   ·rw [jf,jf,jf]
    omega
   ·rw [je,je,je]
    omega
  rw [hz,← hsum]
  generalize bA a.neg (x+y) e=r at c1 c2 ⊢
  generalize dU r=q at c2 ⊢
  obtain ⟨q1,q2⟩:=q
  have hs2:(a.neg == b.neg)=true:=by rw [hs]; exact beq_self_eq_true _
  have hs3:(false != (a.neg == b.neg))=true:=by rw [hs2]; rfl
  simp only [rV,aF,aW] at c1 c2
  simp only [jy,rV,aF,aW,go_sem,↓reduceIte,aez,aeB,aeA,aeC,aeE,aeD,h2,h3,h4,h6,w1,w2,l1,l2,hs3,p1,c1,c2]
 ·have hs2:(a.neg == b.neg)=false:=by
   cases ha:a.neg <;> cases hb:b.neg <;> first | rfl | (rw [ha,hb] at hs; exact absurd rfl hs)
  have hs3:(false != (a.neg == b.neg))=false:=by rw [hs2]; rfl
  have hbn:b.neg=!a.neg:=by
   cases ha:a.neg <;> cases hb:b.neg <;> first | rfl | (rw [ha,hb] at hs; exact absurd rfl hs)
  have hb1:∀ u v:Nat,am u≤5000→am (u - v)≤5001:=fun u v hu=>L7 (Nat.sub_le u v) (Nat.le_trans hu (by decide))
  by_cases hlt:x < y
  ·have e5:(dm x y < 0)=True:=tt (by unfold dm; rw [if_pos hlt]; decide)
   have m1:=IY (x:=y) (y:=x) by' bx (by omega)
   obtain ⟨c1,c2⟩:=chk b.neg (y - x) (hb1 _ _ by')
   have hmul:x*2 ^ (e+16384).toNat≤y*2 ^ (e+16384).toNat:=Nat.mul_le_mul_right _ (by omega)
   have hz:fX a.neg (x*2 ^ (e+16384).toNat)+fX b.neg (y*2 ^ (e+16384).toNat)=fX b.neg ((y - x)*2 ^ (e+16384).toNat):=by
    rw [hbn,Nat.sub_mul]
    cases a.neg
    ·rw [Bool.not_false,jf,je,je]
     omega
    ·rw [Bool.not_true,jf,je,jf]
     omega
   rw [hz,← hsum]
   generalize bA b.neg (y - x) e=r at c1 c2 ⊢
   generalize dU r=q at c2 ⊢
   obtain ⟨q1,q2⟩:=q
   simp only [rV,aF,aW] at c1 c2
   simp only [jy,rV,aF,aW,go_sem,↓reduceIte,aez,aeB,aeA,aeC,aeE,aeD,h2,h3,h4,h6,w1,w2,l1,l2,hs3,hcp,e5,m1,c1,c2]
  ·have e5:(dm x y < 0)=False:=ff (by unfold dm; rw [if_neg hlt]; split <;> decide)
   have m1:=IY (x:=x) (y:=y) bx by' (by omega)
   obtain ⟨c1,c2⟩:=chk a.neg (x - y) (hb1 _ _ bx)
   have hmul:y*2 ^ (e+16384).toNat≤x*2 ^ (e+16384).toNat:=Nat.mul_le_mul_right _ (by omega)
   have hz:fX a.neg (x*2 ^ (e+16384).toNat)+fX b.neg (y*2 ^ (e+16384).toNat)=fX a.neg ((x - y)*2 ^ (e+16384).toNat):=by
    rw [hbn,Nat.sub_mul]
    cases a.neg
    ·rw [Bool.not_false,jf,je,jf]
     omega
    ·rw [Bool.not_true,jf,je,je]
     omega
   rw [hz,← hsum]
   generalize bA a.neg (x - y) e=r at c1 c2 ⊢
   generalize dU r=q at c2 ⊢
   obtain ⟨q1,q2⟩:=q
   simp only [rV,aF,aW] at c1 c2
   simp only [jy,rV,aF,aW,go_sem,↓reduceIte,aez,aeB,aeA,aeC,aeE,aeD,h2,h3,h4,h6,w1,w2,l1,l2,hs3,hcp,e5,m1,c1,c2]
theorem QK {a b:Rd} (oa:Ok0 a) (ob:Ok0 b) (va:vd a=true) (vb:vd b=true):R F.dyadic_sum [aF a,aF b] []=some (rV (dU (fB (zI a+zI b) (-16384))),[]):=by
 refine aZ GD GC (Bd false) rfl ?_
 by_cases a0:a.m.length=0
 ·have e1:((a.m.length:Int)=0)=True:=tt (by omega)
  have hz:=xU va a0
  obtain ⟨b1,b2,b3,b4⟩:=kT vb ob.lb
  have c1:=lP (neg:=b.neg) (m:=b.m) (e:=b.e) ob.lb (by omega) ⟨by omega,by omega⟩
  have hr:bA b.neg (ac b.m) b.e=b:=Dk ob vb
  have hk:dU (fB (zI a+zI b) (-16384))=(b,0):=by
   rw [rf a0,Int.zero_add,tQ ob vb]
   exact Hj vb
  rw [hr] at c1
  rw [hk]
  simp only [aF,aW] at c1
  simp only [dI,oE,rV,aF,aW,go_sem,↓reduceIte,aez,aeB,aeA,aeC,e1,c1]
 have e1:((a.m.length:Int)=0)=False:=ff (by omega)
 obtain ⟨a1,a2,a3,a4⟩:=kT va oa.lb
 by_cases b0:b.m.length=0
 ·have e2:((b.m.length:Int)=0)=True:=tt (by omega)
  have c1:=lP (neg:=a.neg) (m:=a.m) (e:=a.e) oa.lb (by omega) ⟨by omega,by omega⟩
  have hr:bA a.neg (ac a.m) a.e=a:=Dk oa va
  have hk:dU (fB (zI a+zI b) (-16384))=(a,0):=by
   rw [rf b0,Int.add_zero,tQ oa va]
   exact Hj va
  rw [hr] at c1
  rw [hk]
  simp only [aF,aW] at c1
  simp only [dI,oE,rV,aF,aW,go_sem,↓reduceIte,aez,aeB,aeA,aeC,e1,e2,c1]
 have e2:((b.m.length:Int)=0)=False:=ff (by omega)
 obtain ⟨b1,b2,b3,b4⟩:=kT vb ob.lb
 have ta:=Bu oa
 have tb:=Bu ob
 have q1:=pI va a0
 have q2:=pI vb b0
 have p1:=kj (iK va a0)
 have p2:=kj (iK vb b0)
 simp only [aF,aW] at ta tb
 have g1:=fun h2 h3=>(Hk oa ob va vb a0 b0 rfl h2 h3).1
 have g2:=fun h2 h3=>(Hk ob oa vb va b0 a0 rfl h2 h3).2
 obtain ⟨e,he⟩:∃ e,(if b.e < a.e then b.e else a.e)=e:=⟨_,rfl⟩
 have he2:(if a.e < b.e then a.e else b.e)=e:=by
  rw [← he]
  by_cases h:b.e < a.e
  ·rw [if_pos h,if_neg (by omega)]
  ·rw [if_neg h]
   by_cases h2:a.e < b.e
   ·rw [if_pos h2]
   ·rw [if_neg h2]
    omega
 rw [he] at g1
 rw [he2] at g2
 have he1:-16384≤e∧e≤a.e∧e≤b.e:=by
  split at he <;> omega
 obtain ⟨M,hM⟩:∃ M,(if bo a < bo b then bo b else bo a)=M:=⟨_,rfl⟩
 have hM1:bo a≤M∧bo b≤M∧(M=bo a∨M=bo b):=by
  split at hM <;> omega
 have w1:IntKind.i64.wrap (M - e)=M - e:=i64_in _ ⟨by omega,by omega⟩
 have w2:IntKind.i64.wrap (bo a - bo b)=bo a - bo b:=i64_in _ ⟨by omega,by omega⟩
 have w3:IntKind.i64.wrap (bo b - bo a)=bo b - bo a:=i64_in _ ⟨by omega,by omega⟩
 by_cases h1:4097 < M - e
 ·have f1:(4097 < M - e)=True:=tt h1
  by_cases h2:1 < bo a - bo b
  ·have f2:(1 < bo a - bo b)=True:=tt h2
   rw [g1 (by omega) h2]
   simp only [dI,hH,rV,fp,aF,aW,go_sem,↓reduceIte,aez,aeB,aeA,aeC,aeE,aeD,e1,e2,he,ta,tb,hM,w1,w2,f1,f2]
  ·have f2:(1 < bo a - bo b)=False:=ff h2
   by_cases h3:1 < bo b - bo a
   ·have f3:(1 < bo b - bo a)=True:=tt h3
    rw [g2 (by omega) h3]
    simp only [dI,hH,rV,fp,aF,aW,go_sem,↓reduceIte,aez,aeB,aeA,aeC,aeE,aeD,e1,e2,he,ta,tb,hM,w1,w2,w3,f1,f2,f3]
   ·have f3:(1 < bo b - bo a)=False:=ff h3
    simp only [dI,hH,rV,aF,aW,go_sem,↓reduceIte,aez,aeB,aeA,aeC,aeE,aeD,e1,e2,he,ta,tb,hM,w1,w2,w3,f1,f2,f3]
    exact Dl oa ob va vb a0 b0 he1 (by omega) (by omega) _ rfl rfl rfl rfl
 ·have f1:(4097 < M - e)=False:=ff h1
  simp only [dI,hH,rV,aF,aW,go_sem,↓reduceIte,aez,aeB,aeA,aeC,aeE,aeD,e1,e2,he,ta,tb,hM,w1,f1]
  exact Dl oa ob va vb a0 b0 he1 (by omega) (by omega) _ rfl rfl rfl rfl
theorem QL {a b:Rd} (oa:Ok0 a) (ob:Ok0 b):R F.dyadic_Add [aF a,aF b] []=some (rV (iQ a b),[]):=by
 refine aZ Gh Gg (A5 false) rfl ?_
 have v1:=kl oa
 have v2:=kl ob
 simp only [aF,aW] at v1 v2
 unfold iQ
 cases va:vd a with
 | false =>
  rw [va] at v1
  rw [Bool.false_and,if_neg Bool.false_ne_true]
  simp only [ij,oC,rV,fp,aF,aW,go_sem,↓reduceIte,aez,aeB,aeA,aeC,v1]
 | true =>
  rw [va] at v1
  cases vb:vd b with
  | false =>
   rw [vb] at v2
   rw [Bool.and_false,if_neg Bool.false_ne_true]
   simp only [ij,oC,rV,fp,aF,aW,go_sem,↓reduceIte,aez,aeB,aeA,aeC,v1,v2]
  | true =>
   rw [vb] at v2
   have hs:=QK oa ob va vb
   rw [Bool.and_self,if_pos rfl]
   generalize dU (fB (zI a+zI b) (-16384))=q at hs ⊢
   obtain ⟨q1,q2⟩:=q
   simp only [rV,aF,aW] at hs
   simp only [ij,oC,rV,aF,aW,go_sem,↓reduceIte,aez,aeB,aeA,aeC,v1,v2,hs]
end Go.Ab
namespace Go.Ab
open Go Go.IntWalk
theorem Dm:∀ a:List Int,eg a a=0
 | []=>rfl
 | x::a=>by
  unfold eg
  rw [if_pos (by unfold cq; simp),Dm a]
theorem I2:∀ {a b:List Int},a.length=b.length→eg a b=0→a=b
 | [],[],_,_=>rfl
 | x::a,y::b,h,h2=>by
  unfold eg at h2
  rcases iM x y with ⟨g,e⟩ | ⟨g,e⟩ | ⟨g,e⟩ <;> rw [e] at h2
  ·simp at h2
  ·rw [if_pos rfl] at h2
   rw [g,I2 (by simpa using h) h2]
  ·simp at h2
 | [],_::_,h,_=>by simp at h
 | _::_,[],h,_=>by simp at h
theorem Dn:∀ {a b:List Int},a.length=b.length→eg b a=- eg a b
 | [],[],_=>rfl
 | x::a,y::b,h=>by
  unfold eg
  rcases iM x y with ⟨g,e⟩ | ⟨g,e⟩ | ⟨g,e⟩ <;> rcases iM y x with ⟨g',e'⟩ | ⟨g',e'⟩ | ⟨g',e'⟩ <;> rw [e,e'] <;> first | omega | (simp; done) | skip
  rw [if_pos rfl,if_pos rfl]
  exact Dn (by simpa using h)
 | [],_::_,h=>by simp at h
 | _::_,[],h=>by simp at h
theorem I3:∀ {a b c:List Int},a.length=b.length→b.length=c.length→(eg a b≤0→eg b c < 0→eg a c < 0)∧(eg a b < 0→eg b c≤0→eg a c < 0)
 | [],[],[],_,_=>⟨fun _ h=>by simp [eg] at h,fun h _=>by simp [eg] at h⟩
 | x::a,y::b,z::c,h,h'=>by
  have ih:=I3 (a:=a) (b:=b) (c:=c) (by simpa using h) (by simpa using h')
  unfold eg
  rcases iM x y with ⟨g,e⟩ | ⟨g,e⟩ | ⟨g,e⟩ <;> rcases iM y z with ⟨g',e'⟩ | ⟨g',e'⟩ | ⟨g',e'⟩ <;> rcases iM x z with ⟨g2,e2⟩ | ⟨g2,e2⟩ | ⟨g2,e2⟩ <;> rw [e,e',e2] <;> first | omega | skip
  all_goals simp
  all_goals first | exact ih | omega
 | [],[],_::_,_,h=>by simp at h
 | [],_::_,_,h,_=>by simp at h
 | _::_,[],_,h,_=>by simp at h
 | _::_,_::_,[],_,h=>by simp at h
theorem Mg (a:List Int):bj a a=0:=by
 unfold bj
 rw [if_pos (by unfold cq; simp),Dm]
theorem I4 {a b:List Int} (h:a.length=b.length) (h2:bj a b=0):a=b:=by
 unfold bj at h2
 rcases iM (bc a) (bc b) with ⟨g,e⟩ | ⟨g,e⟩ | ⟨g,e⟩ <;> rw [e] at h2
 ·simp at h2
 ·rw [if_pos rfl] at h2
  exact (I2 h.symm h2).symm
 ·simp at h2
theorem sx {a b:List Int} (h:a.length=b.length):bj b a=- bj a b:=by
 unfold bj
 rcases iM (bc a) (bc b) with ⟨g,e⟩ | ⟨g,e⟩ | ⟨g,e⟩ <;> rcases iM (bc b) (bc a) with ⟨g',e'⟩ | ⟨g',e'⟩ | ⟨g',e'⟩ <;> rw [e,e'] <;> first | omega | (simp; done) | skip
 rw [if_pos rfl,if_pos rfl]
 exact Dn h.symm
theorem tT {a b c:List Int} (h:a.length=b.length) (h':b.length=c.length):(bj a b≤0→bj b c < 0→bj a c < 0)∧(bj a b < 0→bj b c≤0→bj a c < 0):=by
 have ih:=I3 (a:=c) (b:=b) (c:=a) h'.symm h.symm
 unfold bj
 rcases iM (bc a) (bc b) with ⟨g,e⟩ | ⟨g,e⟩ | ⟨g,e⟩ <;> rcases iM (bc b) (bc c) with ⟨g',e'⟩ | ⟨g',e'⟩ | ⟨g',e'⟩ <;> rcases iM (bc a) (bc c) with ⟨g2,e2⟩ | ⟨g2,e2⟩ | ⟨g2,e2⟩ <;> rw [e,e',e2] <;> first | omega | skip
 all_goals simp
 all_goals first | exact ⟨fun x y=>ih.2 y x,fun x y=>ih.1 y x⟩ | omega
structure VT (v:Int) (t:Rt):Prop where
 c:Ok0 t.c
 len:(t.exps.length:Int)=v
 v8:v≤8
 vc:vd t.c=true
 nz:t.c.m.length ≠ 0
 b:∀ e ∈ t.exps,0≤e∧e≤32
 d:bc t.exps≤32
theorem VT.sm {v:Int} {t:Rt} (h:VT v t):sm t.exps:=⟨by have:=h.len; have:=h.v8; omega,h.b⟩
theorem VT.ok {v:Int} {t:Rt} (h:VT v t):OkT t:=⟨h.c,by have:=h.len; have:=h.v8; omega⟩
theorem VT.l2 {v:Int} {t q:Rt} (h:VT v t) (h2:VT v q):t.exps.length=q.exps.length:=by have:=h.len; have:=h2.len; omega
structure Cl (v:Int) (l:List Rt):Prop where
 t:∀ t ∈ l,VT v t
 s:l.Pairwise fun a b=>bj a.exps b.exps < 0
theorem Cl.nil (v:Int):Cl v []:=⟨(fun _ h=>nomatch h),List.Pairwise.nil⟩
theorem Cl.cons {v:Int} {q:Rt} {l:List Rt} (h:Cl v (q::l)):VT v q∧(∀ t ∈ l,bj q.exps t.exps < 0)∧Cl v l :=
 ⟨h.t q (by simp),(List.pairwise_cons.1 h.s).1,fun t ht=>h.t t (by simp [ht]),(List.pairwise_cons.1 h.s).2⟩
theorem Cl.mk' {v:Int} {q:Rt} {l:List Rt} (h1:VT v q) (h2:∀ t ∈ l,bj q.exps t.exps < 0) (h3:Cl v l):Cl v (q::l) :=
 ⟨fun t ht=>(List.mem_cons.1 ht).elim (fun e=>e ▸ h1) (h3.t t),List.pairwise_cons.2 ⟨h2,h3.s⟩⟩
theorem Mh {v:Int} (hv:v≤8):∀ (l:List Rt) (pr:Option Rt),(∀ t ∈ l,OkT t)→tO v pr l=true→Cl v l∧∀ q,pr=some q→(q.exps.length:Int)=v→∀ t ∈ l,bj q.exps t.exps < 0
 | [],pr,_,_=>⟨Cl.nil v,fun _ _ _ t ht=>by cases ht⟩
 | t::l,pr,ok,h=>by
  unfold tO at h
  simp only [Bool.and_eq_true] at h
  obtain ⟨h1,h2,h3⟩:=h
  obtain ⟨g1,g2⟩:=Mh hv l (some t) (fun x hx=>ok x (by simp [hx])) h3
  obtain ⟨k1,k2,k3,k4,k5⟩:=Bx h1
  have vt:VT v t:=⟨(ok t (by simp)).c,k1,hv,k2,k3,rh k4,k5⟩
  have gt:=g2 t rfl k1
  refine ⟨Cl.mk' vt gt g1,fun q hq hl x hx=>?_⟩
  subst hq
  unfold Hh at h2
  have h4:=of_decide_eq_true h2
  rcases List.mem_cons.1 hx with rfl | hx
  ·exact h4
  ·exact (tT (by omega) (vt.l2 (g1.t x hx))).1 (by omega) (gt x hx)
theorem eJ {a:Rp} (oa:OkP a) (h:vp a=true):Cl a.vars a.terms∧0≤a.vars∧a.vars≤8∧a.terms.length≤500:=by
 unfold vp at h
 simp only [Bool.and_eq_true,decide_eq_true_eq] at h
 exact ⟨(Mh h.2.1 _ none oa.t h.2.2.2).1,h.1,h.2.1,h.2.2.1⟩
def be:List Rt→List Int→Nat
 | [],_=>0
 | q::l,x=>if bj q.exps x < 0 then be l x+1 else 0
def kU:List Rt→Rt→Option (List Rt)
 | [],t=>some [t]
 | q::l,t=>if bj q.exps t.exps < 0 then (kU l t).map (q::·) else if bj q.exps t.exps=0 then (if (iQ q.c t.c).2=0 then some (if (iQ q.c t.c).1.m.length=0 then l else ⟨q.exps,(iQ q.c t.c).1⟩::l) else none) else some (t::q::l)
theorem xW:∀ (l:List Rt) (x:List Int),be l x≤l.length
 | [],x=>Nat.le_refl _
 | q::l,x=>by
  unfold be
  split
  ·exact Nat.succ_le_succ (xW l x)
  ·exact Nat.zero_le _
theorem I5:∀ {l:List Rt} {x:List Int} {i:Nat} {q:Rt},i < be l x→l[i]?=some q→bj q.exps x < 0
 | [],x,i,q,h,_=>by simp [be] at h
 | p::l,x,i,q,h,hq=>by
  unfold be at h
  split at h
  ·rename_i hc
   cases i with
   | zero=>cases hq; exact hc
   | succ i=>exact I5 (l:=l) (i:=i) (by omega) (by simpa using hq)
  ·omega
theorem Cz:∀ {l:List Rt} {x:List Int} {q:Rt},l[be l x]?=some q→0≤bj q.exps x
 | [],x,q,h=>by simp at h
 | p::l,x,q,h=>by
  unfold be at h
  split at h
  ·exact Cz (l:=l) (by simpa using h)
  ·rename_i hc
   cases h
   omega
theorem QM {v:Int} {l:List Rt} {x:List Int} (c:Cl v l) (hx:(x.length:Int)=v) {i:Nat} {q:Rt} (hi:be l x < i) (h:l[i]?=some q):0 < bj q.exps x:=by
 have hlt:=(List.getElem?_eq_some_iff.1 h).1
 have h1:l[be l x]?=some l[be l x]:=List.getElem?_eq_getElem (by omega)
 have h2:=Cz h1
 have h3:=(List.getElem?_eq_some_iff.1 h).2
 have h4:bj (l[be l x]).exps q.exps < 0:=by
  rw [← h3]
  exact List.pairwise_iff_getElem.1 c.s _ _ (by omega) hlt hi
 have v1:=c.t _ (List.getElem_mem (by omega:be l x < l.length))
 have v2:=c.t q (List.mem_of_getElem? h)
 generalize l[be l x]=p at *
 have l1:x.length=p.exps.length:=by have:=v1.len; omega
 have h5:=(tT l1 (v1.l2 v2)).1 (by rw [sx l1.symm]; omega) h4
 rw [sx (by have:=v2.len; omega:x.length=q.exps.length)]
 omega
theorem I6:∀ (l:List Rt) (t:Rt),kU l t=match l[be l t.exps]? with
  | none=>some (l.take (be l t.exps)++t::l.drop (be l t.exps))
  | some q=>if bj q.exps t.exps=0 then (if (iQ q.c t.c).2=0 then some (if (iQ q.c t.c).1.m.length=0 then l.take (be l t.exps)++l.drop (be l t.exps+1) else l.set (be l t.exps) ⟨q.exps,(iQ q.c t.c).1⟩) else none) else some (l.take (be l t.exps)++t::l.drop (be l t.exps))
 | [],t=>rfl
 | q::l,t=>by
  unfold kU be
  by_cases h:bj q.exps t.exps < 0
  ·simp only [if_pos h,List.getElem?_cons_succ]
   rw [I6 l t]
   cases l[be l t.exps]? with
   | none=>rfl
   | some p =>
    simp only []
    split
    ·split
     ·split <;> rfl
     ·rfl
    ·rfl
  ·simp only [if_neg h,List.getElem?_cons_zero,List.take_zero,List.drop_zero,List.nil_append,List.set_cons_zero,Nat.zero_add,List.drop_one,List.tail_cons]
theorem xX {v:Int}:∀ {l l':List Rt} {t:Rt},Cl v l→VT v t→kU l t=some l'→Cl v l'∧∀ q:List Int,(q.length:Int)=v→(∀ x ∈ l,bj q x.exps < 0)→bj q t.exps < 0→∀ x ∈ l',bj q x.exps < 0
 | [],l',t,c,vt,h=>by
  cases h
  exact ⟨Cl.mk' vt (fun _ h=>by cases h) c,fun q _ _ h x hx=>by simp at hx; subst hx; exact h⟩
 | p::l,l',t,c,vt,h=>by
  obtain ⟨c1,c2,c3⟩:=c.cons
  unfold kU at h
  split at h
  ·rename_i h1
   rw [Option.map_eq_some_iff] at h
   obtain ⟨l2,h2,rfl⟩:=h
   obtain ⟨g1,g2⟩:=xX c3 vt h2
   refine ⟨Cl.mk' c1 (g2 p.exps c1.len c2 h1) g1,fun q hq k1 k2 x hx=>?_⟩
   rcases List.mem_cons.1 hx with rfl | hx
   ·exact k1 x (by simp)
   ·exact g2 q hq (fun y hy=>k1 y (by simp [hy])) k2 x hx
  ·split at h
   ·rename_i h1 h2
    split at h
    ·rename_i h3
     cases h
     split
     ·exact ⟨c3,fun q hq k1 k2 x hx=>k1 x (by simp [hx])⟩
     ·rename_i h4
      obtain ⟨a1,a2⟩:=QH p.c t.c
      refine ⟨Cl.mk' ⟨a2,c1.len,c1.v8,a1,h4,c1.b,c1.d⟩ c2 c3,fun q hq k1 k2 x hx=>?_⟩
      rcases List.mem_cons.1 hx with rfl | hx
      ·exact k1 p (by simp)
      ·exact k1 x (by simp [hx])
    ·cases h
   ·rename_i h1 h2
    cases h
    have h3:bj t.exps p.exps < 0:=by
     rw [sx (c1.l2 vt)]
     omega
    refine ⟨Cl.mk' vt (fun x hx=>?_) c,fun q hq k1 k2 x hx=>?_⟩
    ·rcases List.mem_cons.1 hx with rfl | hx
     ·exact h3
     ·exact (tT (vt.l2 c1) (c1.l2 (c3.t x hx))).1 (by omega) (c2 x hx)
    ·rcases List.mem_cons.1 hx with rfl | hx
     ·exact k2
     ·exact k1 x hx
theorem Aa:∀ {l l':List Rt} {t:Rt},kU l t=some l'→l'.length≤l.length+1
 | [],l',t,h=>by cases h; simp
 | p::l,l',t,h=>by
  unfold kU at h
  split at h
  ·rw [Option.map_eq_some_iff] at h
   obtain ⟨l2,h2,rfl⟩:=h
   simpa using Aa h2
  ·split at h
   ·split at h
    ·cases h
     split
     ·simp
      omega
     ·simp
    ·cases h
   ·cases h
    simp
theorem Hl:∀ {l:List Rt} {t:Rt},(∀ q ∈ l,bj q.exps t.exps < 0)→kU l t=some (l++[t])
 | [],t,_=>rfl
 | p::l,t,h=>by
  unfold kU
  rw [if_pos (h p (by simp)),Hl fun q hq=>h q (by simp [hq])]
  rfl
def ej:List Rt→List Rt→Option (List Rt)
 | l,[]=>some l
 | l,t::ts=>(kU l t).bind fun l'=>ej l' ts
theorem Hm:∀ (ts us:List Rt) (l:List Rt),ej l (ts++us)=(ej l ts).bind fun l'=>ej l' us
 | [],us,l=>rfl
 | t::ts,us,l=>by
  show (kU l t).bind _=((kU l t).bind _).bind _
  cases kU l t with
  | none=>rfl
  | some l'=>exact Hm ts us l'
theorem ri {v:Int}:∀ {ts l l':List Rt},Cl v l→(∀ t ∈ ts,VT v t)→ej l ts=some l'→Cl v l'∧l'.length≤l.length+ts.length
 | [],l,l',c,_,h=>by cases h; exact ⟨c,Nat.le_refl _⟩
 | t::ts,l,l',c,vt,h=>by
  unfold ej at h
  rw [Option.bind_eq_some_iff] at h
  obtain ⟨l2,h2,h3⟩:=h
  obtain ⟨g1,g2⟩:=ri (xX c (vt t (by simp)) h2).1 (fun x hx=>vt x (by simp [hx])) h3
  have:=Aa h2
  exact ⟨g1,by simp; omega⟩
section
variable {call:cT} {md:Mode} {s:af} {h:aa}
@[go_sem] theorem acb (d k x y rest):ao call md (⟨some d,none,.cpy k x y⟩::rest) s h=aK (bN md.nm s (some d) (BM h k (ev s x) (ev s y))) (ao call md rest):=_root_.id rfl
@[go_sem] theorem ZM (d k x lo hi rest):ao call md (⟨some d,none,.slcM k x lo hi⟩::rest) s h=aK (bN md.nm s (some d) (xF h k (ev s x) (evo s lo) (evo s hi))) (ao call md rest):=_root_.id rfl
@[go_sem] theorem acd (d k z x rest):ao call md (⟨d,none,.clr k z x⟩::rest) s h=aK (bN md.nm s d (BN h k z (ev s x))) (ao call md rest):=_root_.id rfl
@[go_sem] theorem ZN (d k b z x n rest):ao call md (⟨some d,none,.appz k b z x n⟩::rest) s h=aK (bN md.nm s (some d) (sd h d k b z (ev s x) (ev s n))) (ao call md rest):=_root_.id rfl
@[go_sem] theorem ZO (d x rest):ao call md (⟨some d,none,.take x⟩::rest) s h=aK (bN md.nm s (some d) (Ar h d (ev s x))) (ao call md rest):=_root_.id rfl
@[go_sem] theorem Ya (d f zas rest):ao call md (⟨some d,none,.callC f zas⟩::rest) s h=aK (bN md.nm s (some d) ((aj call md h d (zas.map (ev s)) (ev s f)).bind (n7 d))) (ao call md rest):=_root_.id rfl
@[go_sem] theorem ZP (ps acc d k x y rest):bC call md ps acc (⟨some d,none,.cpy k x y⟩::rest) s h=eG call md ps acc rest s (some d) (fun _=>none) (BM h k (ev s x) (ev s y)):=cH _ _ _ _ rfl
@[go_sem] theorem ZQ (ps acc d k b x y rest):bC call md ps acc (⟨some d,none,.app k b x y⟩::rest) s h=eG call md ps acc rest s (some d) (fun _=>none) (yM h d k b (ev s x) (ev s y)):=cH _ _ _ _ rfl
@[go_sem] theorem Vu (ps acc d f zas rest):bC call md ps acc (⟨some d,none,.callC f zas⟩::rest) s h=eG call md ps acc rest s (some d) (fun _=>wj d h (io (zas.map (ev s)) (ev s f))) ((aj call md h d (zas.map (ev s)) (ev s f)).bind (n7 d)):=cH _ _ _ _ rfl
@[go_sem] theorem Yb (d h l):wj d h l=if l.all dat=true then some ([],[2000+8*d]) else none:=_root_.id rfl
@[go_sem] theorem ace (d k r h ks):n7 d (.sl k r,h,ks)=some (.sl k r,h,ks):=_root_.id rfl
@[go_sem] theorem ZR (d h ks):n7 d (.emp,h,ks)=some (.emp,h,ks):=_root_.id rfl
@[go_sem] theorem ZS (d id k lo n h ks):n7 d (.rsl id none k lo n,h,ks)=if id=2000+8*d then (jj h id k lo n (h id)).map (fun q=>(q.1,q.2.1,ks++q.2.2)) else none:=_root_.id rfl
@[go_sem] theorem acf (h k id k' lo n y):BM h k (.rsl id none k' lo n) y=(Fa y).bind fun l=>(lV h k (E9 n y)).bind fun ys=>Fb h id k k' lo n l ys (h id):=_root_.id rfl
@[go_sem] theorem acg (k r):Fa (.sl k r)=some r.length:=_root_.id rfl
@[go_sem] theorem ZT (id sub k lo n):Fa (.rsl id sub k lo n)=some n:=_root_.id rfl
@[go_sem] theorem ach (m k r):E9 m (.sl k r)=.sl k (r.take m):=_root_.id rfl
@[go_sem] theorem ZU (m id sub k lo n):E9 m (.rsl id sub k lo n)=.rsl id sub k lo (min m n):=_root_.id rfl
@[go_sem] theorem aci (h id k lo n l ys r):Fb h id k k lo n l ys (.ar k r)=if lo≤r.length∧ys.length=min l n then some (.v (.int .i64 ys.length),upd h id (.ar k (r.take lo++ys++r.drop (lo+ys.length))),[]) else none:=by simp [Fb]
@[go_sem] theorem ZV (h k id l0 n lo hi):xF h k (.rsl id none k l0 n) lo hi=Ap h k id l0 lo hi (h id):=by simp [xF]
@[go_sem] theorem ZW (h k id l0 lo hi r):Ap h k id l0 lo hi (.ar k r)=if hi.isSome=true∧l0≤r.length then (ia (r.length - l0) lo hi none).map fun p=>(.rsl id none k (l0+p.1) (p.2 - p.1),h,[]) else none:=by simp [Ap]
@[go_sem] theorem acj (h k z id lo n):BN h k z (.rsl id none k lo n)=Fc h k id lo n z (h id):=by simp [BN]
@[go_sem] theorem ack (h k id lo n z r):Fc h k id lo n z (.ar k r)=if lo+n≤r.length then some (.tup [],upd h id (.ar k (r.take lo++List.replicate n z++r.drop (lo+n))),[]) else none:=by simp [Fc]
@[go_sem] theorem ZX (h d k b z id i c m):sd h d k b z (.rsc id k 0 i c) (.v (.int .i64 m))=if 0 < m∧c < i+m.toNat then Aq h d k b id i m.toNat z (h id) else none:=by simp [sd]
@[go_sem] theorem ZY (h d k b id i m z r):Aq h d k b id i m z (.ar k r)=if i≤r.length∧(i+m)*b≤140737488355328 then bR h d k (r.take i++List.replicate m z) (i+m) [] else none:=by simp [Aq]
@[go_sem] theorem acl (id k lo n c):jh false (.rsc id k lo n c)=some (I n):=_root_.id rfl
@[go_sem] theorem acm (id k lo n c):BH (.rsc id k lo n c)=some (I c):=_root_.id rfl
@[go_sem] theorem acn (k id l0 n c lo hi mx):dK k (.rsc id k l0 n c) lo hi mx=E3 k id l0 n c lo hi mx:=by simp [dK]
@[go_sem] theorem aco (k id l0 n c x):E3 k id l0 n c none (some x) none=(gJ n c (some x)).map fun r=>.rsc id k l0 r c:=_root_.id rfl
@[go_sem] theorem acp (k id l0 n c x hi):E3 k id l0 n c (some x) hi none=(ia n (some x) hi none).map fun p=>.rsl id none k (l0+p.1) (p.2 - p.1):=_root_.id rfl
@[go_sem] theorem acq (ks id k lo n c):mr ks (.rsc id k lo n c)=if dV ks id none=true then .any else .rsc id k lo n c:=_root_.id rfl
@[go_sem] theorem ZZ (h d id k i j):Ar h d (.ref id none k i j)=EJ h d id (i*k+j) (h id):=_root_.id rfl
@[go_sem] theorem Z0 (h d id p cs):EJ h d id p (.bx cs)=xG h d id p cs cs[p]?:=_root_.id rfl
@[go_sem] theorem Yc (h d id p cs k r):xG h d id p cs (some (.osl k r))=bR (upd h id (.bx (cs.set p .any))) d k r r.length [(id,true)]:=_root_.id rfl
@[go_sem] theorem Yd (h d id p cs):xG h d id p cs (some .emp)=some (.emp,h,[]):=_root_.id rfl
@[go_sem] theorem Z3 (nm:Bool) (s h):pg nm [] s h=some ⟨s,h⟩:=_root_.id rfl
@[go_sem] theorem Ye (nm:Bool) (i l s h):pg nm (i::l) s h=if 200000≤i then (BP (i - 200000) s h (s (i - 200000))).bind (fun r=>if jK nm r.2.2 then pg nm l r.1 r.2.1 else none) else if 100000≤i then pg nm l s (uo h (s (i - 100000))) else (JB i s h (s i)).bind fun r=>if jK nm r.2.2 then pg nm l r.1 r.2.1 else none:=_root_.id rfl
@[go_sem] theorem Vv (ks):jK false ks=true:=_root_.id rfl
@[go_sem] theorem acr (i s h id k lo n):BP i s h (.rsl id none k lo n)=wk i s h id k lo n (h id):=_root_.id rfl
@[go_sem] theorem acs (i s h id k lo n c):BP i s h (.rsc id k lo n c)=wk i s h id k lo n (h id):=_root_.id rfl
@[go_sem] theorem act (i s h id k lo n r):wk i s h id k lo n (.ar k r)=if lo=0∧aG i=false∧cz (h i)=true then some (upd (eN [(id,false)] s) i (.rsl i none k 0 n),upd (upd h id .dead) i (.ar k r),[(id,false)]) else none:=by simp [wk]
@[go_sem] theorem Z4 (h id k lo n):uo h (.rsl id none k lo n)=(match h id with | .ar k rows=>upd h id (.ar k (rows.take (lo+n))) | _=>h):=_root_.id rfl
@[go_sem] theorem acu (nm:Bool) (s h):kW nm 0 s h=some ⟨s,h⟩:=_root_.id rfl
@[go_sem] theorem acv (nm:Bool) (i s h):kW nm (i+1) s h=(CR i s h (s i)).bind fun r=>if jK nm r.2.2 then some ⟨r.1,r.2.1⟩ else none:=_root_.id rfl
@[go_sem] theorem acw (i s h):CR i s h .emp=some (s,h,[]):=_root_.id rfl
@[go_sem] theorem acx (i s h id p k lo n):CR i s h (.rsl id (some p) k lo n)=if aG i=false then Ir i s h id p k lo n (h id) else none:=_root_.id rfl
@[go_sem] theorem adW (i s h id p k lo n cs):Ir i s h id p k lo n (.bx cs)=Aw i s h id p k lo n cs cs[p]?:=_root_.id rfl
@[go_sem] theorem acy (i s h id p k lo n cs r):Aw i s h id p k lo n cs (some (.osl k r))=if lo=0∧n=r.length∧cz (h i)=true then some (upd (eN [(id,true)] s) i (.rsl i none k 0 n),upd (upd h id (.bx (cs.set p .any))) i (.ar k r),[(id,true)]) else none:=by simp [Aw]
@[go_sem] theorem acz (m g ps l):NL call md m g ps l s h=aK (bC call md ps [] (l.take m) s h) fun s h=>aK (kW md.nm g s h) (ao call md (l.drop m)):=_root_.id rfl
end
end Go.Ab
namespace Go.Ab
open Go Go.IntWalk
set_option maxRecDepth 4000
set_option maxHeartbeats 1000000
theorem I7 {t:Rt} {x:List Int} (ht:sm t.exps) (hx:sm x) (hl:t.exps.length=x.length):R F.poly_collector_add_1 [.agg (bv t),.sl 1 (aX x)] []=some (I (bj t.exps x),[]):=by
 refine aZ sQ sP (qO false) rfl ?_
 have ho:=Hg ht hx hl
 simp only [eH,mP,bv,go_sem,↓reduceIte,aez,aeB,aeA,ho]
theorem QN {v:Int} {l:List Rt} {x:List Int} (c:Cl v l) (hx:sm x) (hl:(x.length:Int)=v) (h2:l.length≤1000000):∀ (k i j:Nat),j - i≤k→i≤be l x→be l x≤j→j≤l.length→∀ (s:af) (h:aa),s 0=.sl 4 (ax l)→s 1=.sl 1 (aX x)→s 2=.fn F.poly_collector_add_1 [] []→s 8=I l.length→s 9=I i→s 10=I j →
  aI 0 [0,1,2,8,9] (aU (az R (ab false) aS) [0,1,2,8,9,10] [] s h)=some (.normal,⟨upd (upd (upd (upd (upd (fun _=>.any) 9 (I (be l x))) 8 (I l.length)) 2 (.fn F.poly_collector_add_1 [] [])) 1 (.sl 1 (aX x))) 0 (.sl 4 (ax l)),fun _=>.dead⟩):=by
 intro k
 induction k with
 | zero =>
  intro i j hk hi hj hn s h h0 h1 h2' h8 h9 h10
  have e1:((i:Int) < (j:Int))=False:=ff (by omega)
  obtain rfl:i=be l x:=by omega
  rw [aA]
  simp only [aS,go_sem,↓reduceIte,aez,h0,h1,h2',h8,h9,h10,e1]
 | succ k ih =>
  intro i j hk hi hj hn s h h0 h1 h2' h8 h9 h10
  by_cases hij:i < j
  ·have e1:((i:Int) < (j:Int))=True:=tt (by omega)
   have e2:IntKind.i64.wrap ((i:Int)+(j:Int))=((i+j:Nat):Int):=wi (by omega) (by omega)
   have hlt:(i+j) / 2 < l.length:=by omega
   have g1:IntKind.u64.wrap (((i+j:Nat)):Int)=((i+j:Nat):Int):=pf rfl (by omega)
   have g2:((1:Int) < 0)=False:=ff (by decide)
   have g3:Int.fdiv ((i+j:Nat):Int) (2 ^ (min (Int.toNat 1) 64))=(((i+j) / 2:Nat):Int):=by
    rw [show (2:Int) ^ (min (Int.toNat 1) 64)=2 from rfl,Int.fdiv_eq_ediv_of_nonneg _ (by decide)]
    omega
   have g4:IntKind.i64.wrap (((i+j) / 2:Nat):Int)=(((i+j) / 2:Nat):Int):=wi (by omega) (by omega)
   have e3:bH (ax l) (((i+j) / 2:Nat):Int)=some (.ipt (bv l[(i+j) / 2])):=jx rfl (List.getElem?_eq_getElem hlt)
   have q:=c.t _ (List.getElem_mem hlt)
   have hc:=I7 q.sm hx (by have:=q.len; omega)
   have p1:bj (l[(i+j) / 2]).exps x < 0→(i+j) / 2 < be l x:=fun ho=>by
    rcases Nat.lt_trichotomy ((i+j) / 2) (be l x) with h | h | h
    ·exact h
    ·have:=Cz (l:=l) (x:=x) (q:=l[(i+j) / 2]) (by rw [← h]; exact List.getElem?_eq_getElem hlt)
     omega
    ·have:=QM c hl h (List.getElem?_eq_getElem hlt)
     omega
   have p2:¬ bj (l[(i+j) / 2]).exps x < 0→be l x≤(i+j) / 2:=fun ho=>by
    rcases Nat.lt_or_ge ((i+j) / 2) (be l x) with h | h
    ·exact absurd (I5 h (List.getElem?_eq_getElem hlt)) ho
    ·exact h
   have i1:=ih ((i+j) / 2+1) j (by omega)
   have i2:=ih i ((i+j) / 2) (by omega) hi
   generalize l[(i+j) / 2]=t at e3 q hc p1 p2
   rw [aA]
   generalize aU _ _ _=L at i1 i2 ⊢
   simp only [bv] at hc e3
   by_cases ho:bj t.exps x < 0
   ·have e4:(bj t.exps x < 0)=True:=tt ho
    have e5:IntKind.i64.wrap ((((i+j) / 2:Nat):Int)+1)=(((i+j) / 2+1:Nat):Int):=wi (by omega) (by omega)
    have:=p1 ho
    simp only [aS,go_sem,↓reduceIte,aez,aeB,aeA,aeC,h0,h1,h2',h8,h9,h10,e1,e2,g1,g2,g3,g4,e3,hc,e4,e5]
    exact i1 (by omega) hj hn _ _ rfl rfl rfl rfl rfl rfl
   ·have e4:(bj t.exps x < 0)=False:=ff ho
    have:=p2 ho
    simp only [aS,go_sem,↓reduceIte,aez,aeB,aeA,aeC,h0,h1,h2',h8,h9,h10,e1,e2,g1,g2,g3,g4,e3,hc,e4]
    exact i2 this (by omega) _ _ rfl rfl rfl rfl rfl rfl
  ·exact ih i j (by omega) hi hj hn s h h0 h1 h2' h8 h9 h10
def xj (l:List Rt) (x:List Int):Bool:=match l[be l x]? with
 | some q=>decide (bj q.exps x=0)
 | none=>false
theorem KN {v:Int} {l:List Rt} {x:List Int} (c:Cl v l) (hx:sm x) (hl:(x.length:Int)=v) (h2:l.length≤1000000):R F.slices_BinarySearchFunc_api_Term_api_Term_Sint_ [.sl 4 (ax l),.sl 1 (aX x),.fn F.poly_collector_add_1 [] []] []=some (.tup [I (be l x),B (xj l x)],[]):=by
 refine aZ gH gG (cG false) rfl ?_
 have h3:=QN c hx hl h2 l.length 0 l.length (by omega) (Nat.zero_le _) (xW l x) (Nat.le_refl _)
 simp only [Int.natCast_zero] at h3
 simp only [bg,cV,go_sem,↓reduceIte,aez]
 rw [h3 _ _ rfl rfl rfl rfl rfl rfl]
 unfold xj
 cases hq:l[be l x]? with
 | none =>
  have:l.length≤be l x:=List.getElem?_eq_none_iff.1 hq
  have e1:((be l x:Int) < (l.length:Int))=False:=ff (by omega)
  simp only [go_sem,↓reduceIte,aez,e1]
 | some q =>
  have hlt:=(List.getElem?_eq_some_iff.1 hq).1
  have e1:((be l x:Int) < (l.length:Int))=True:=tt (by omega)
  have vq:=c.t q (List.mem_of_getElem? hq)
  have hc:=I7 vq.sm hx (by have:=vq.len; omega)
  have e3:bH (ax l) (be l x:Int)=some (.ipt (bv q)):=jx rfl hq
  simp only [bv] at hc e3
  by_cases ho:bj q.exps x=0
  ·have e4:(bj q.exps x=0)=True:=tt ho
   simp only [go_sem,↓reduceIte,aez,aeB,aeA,aeC,e1,e3,hc,e4,decide_true]
  ·have e4:(bj q.exps x=0)=False:=ff ho
   simp only [go_sem,↓reduceIte,aez,aeB,aeA,aeC,e1,e3,hc,e4,decide_false]
end Go.Ab
namespace Go.Ab
open Go Go.IntWalk
set_option maxRecDepth 4000
set_option maxHeartbeats 1000000
theorem Do {d:Rd} (hn:d.m.length ≠ 0) (h1:d.m.length≤100000):R F.poly_copied [aF d] []=some (aF d,[]):=by
 refine aZ D4 D3 (ze false) rfl ?_
 have hc:=G9 (m:=d.m) (fun h=>hn (by rw [h]; rfl)) h1
 simp only [l7,afl,aF,aW,go_sem,↓reduceIte,aez,aeB,aeA,aeC,hc]
theorem I8 {h:aa} {d id p n:Nat} {cs:List AV} {rows:List (List AV)} {x:AV} (hh:h id=.bx cs) (hp:cs[p]?=some (.osl 4 rows)) (hn:n=rows.length) (hx:∃ r,x=.sl 1 r) :
  aj R (ab false) h d [.rsl id (some p) 4 0 n,x,.fn F.poly_collector_add_1 [] []] (.fn F.slices_BinarySearchFunc_api_Term_api_Term_Sint_ [] [])=(R F.slices_BinarySearchFunc_api_Term_api_Term_Sint_ (aM [[.o 5 [.o 2 [],.o 0 [],.o 2 [],.o 0 []]],[.o 2 []],[]] [.sl 4 rows,x,.fn F.poly_collector_add_1 [] []]) []).bind (Fd h):=by
 obtain ⟨r,rfl⟩:=hx
 subst hn
 unfold aj
 rw [if_pos (by simp [jJ,cW,As])]
 simp only [At,BO,JA,n5,gz,hh,hp,nf,dO,List.nil_append,List.append_nil,cN]
 simp
theorem Ho (o:Ob):ae [o]=upd (fun _=>.dead) 1000 o:=by
 funext i
 unfold ae upd
 by_cases h:i=1000
 ·subst h
  rfl
 ·rw [if_neg h]
  split
  ·rw [List.getElem?_eq_none (by simp; omega)]
   rfl
  ·rfl
theorem sy {f:FuncId} {fd:FD} {args:List AV} {o:Ob} {r:AV × List Ob} (hE:au.E f=none) (hC:au.C f=some fd) (hk:au.md.keep f=false) (h1:args.length=fd.np)
  (hz:ajf false fd.rs fd.res 1 (az R (ab false) fd.body (pi args) (upd (fun _=>.dead) 1000 o))=some r):R f args [o]=some r:=by
 refine Gc false hE hC hk h1 (by simp) ?_
 rw [Ho]
 exact hz
theorem EX {f:FuncId} {g:List AV→List Ob→Option (AV × List Ob)} {args:List AV} {hs:List Ob} (hE:au.E f=some g):R f args hs=g args hs:=uH hE
theorem Dp:R F.slices_Clone_int_int_ [.sl 1 []] []=some (.sl 1 [],[]):=by
 rw [EX (g:=LQ) (by kernel_rfl)]
 rfl
theorem xk {x:Int} {l:List Int} (h:l.length≤1000000):R F.slices_Clone_int_int_ [.sl 1 (aX (x::l))] []=some (.osl 1 (aX (x::l)),[]):=by
 rw [EX (g:=LQ) (by kernel_rfl)]
 show (if (((aX l).length+1)*8≤140737488355328) then _ else _)=_
 rw [if_pos (by rw [rg]; omega)]
 rfl
def nS (c:AV) (l:List Rt):Prop:=c=.osl 4 (ax l)∨(c=.emp∧l=[])
def t3 (v:Int) (c:AV) (e:Int):Ob:=.bx [I v,c,I e]
theorem tU {h:aa} {v e:Int} {c:AV} {l:List Rt} (hc:nS c l) (hh:h 1000=t3 v c e):n9 [] 1 h []=some (.tup [],[t3 v c e]):=by
 have hp:bU 1=[1000]:=rfl
 have h2:aB [1000] (t3 v c e)=true:=by
  rcases hc with rfl | ⟨rfl,_⟩ <;> rfl
 unfold n9
 rw [hp]
 simp [hh,h2,fw,lX,kX,aM]
theorem Hp {v e:Int} {c x:AV} {d:Rd} {l:List Rt} (hc:nS c l) (he:e ≠ 0):R F.poly_collector_add [.ref 1000 none 0 0 0,x,aF d] [t3 v c e]=some (.tup [],[t3 v c e]):=by
 refine sy go gl (du false) rfl ?_
 have e1:(e=0)=False:=ff he
 simp only [ck,dZ,t3,aF,aW,go_sem,↓reduceIte,aez,aeB,aeA,e1]
 exact tU hc rfl
theorem xY (h:aa) (i:Int) (b:Bool):Fd h (.tup [I i,B b],[])=some (.tup [I i,B b],h,[]):=rfl
theorem uU {h:aa} {id p id2 k n:Nat} {rows:List (List AV)} {cs:List AV} (h1:h id2=.ar k rows) (hn:n=rows.length) (h2:h id=.bx cs) (hne:id ≠ id2) (hp:p < cs.length) :
  mM h id p 1 [.rsl id2 none k 0 n]=some (upd (upd h id2 .dead) id (.bx (cs.set p (.osl k rows))),(id2,false)::(if cs[p]?.any aN then [(id,true)] else [])):=by
 have h3:upd h id2 .dead id=.bx cs:=by
  unfold upd
  rw [if_neg hne,h2]
 subst hn
 simp [mM,yj,h1,E6,E7,h3,hp,ud]
theorem Sw {l:List Rt} {t:Rt} {n i:Nat} (hn:n=l.length) (hi:i≤n) (h2:n≤1000000):R F.slices_Insert_api_Term_api_Term_ [.rsl 1000 none 4 0 n,I i,.sl 4 [bv t]] [.ar 4 (ax l)]=some (.osl 4 (ax (l.take i++t::l.drop i)),[.dead]):=by
 rw [EX (g:=Gb 4 64) (by kernel_rfl)]
 show (if (4:Nat)=4∧(4:Nat)=4∧(4:Nat)=4∧n=(ax l).length∧(0:Int)≤(i:Int)∧(i:Int)≤(n:Int)∧(n+1)*64≤140737488355328 then some (AV.osl 4 ((ax l).take (i:Int).toNat++bv t::(ax l).drop (i:Int).toNat),[Ob.dead]) else none)=_
 rw [if_pos ⟨rfl,rfl,rfl,by rw [gI,hn],by omega,by omega,by omega⟩,Int.toNat_natCast]
 simp [ax,List.map_take,List.map_drop]
theorem QO {t:Rt}:R F.slices_Insert_api_Term_api_Term_ [.emp,I 0,.sl 4 [bv t]] []=some (.osl 4 (ax [t]),[]):=by
 rw [EX (g:=Gb 4 64) (by kernel_rfl)]
 rfl
theorem Mj (t:Rt):nrmV [.o 5 [.o 2 [],.o 0 [],.o 2 [],.o 0 []]] (.sl 4 [bv t])=.sl 4 [bv t]:=by
 have:=tN [t]
 simp only [ax,List.map_cons,List.map_nil] at this
 simp only [nrmV,List.headD_cons,nrmL,List.map_cons,List.map_nil,this]
theorem OA {l:List Rt} {t:Rt} {h:aa} {d a b n i:Nat} (ha:h a=.ar 4 (ax l)) (hb:h b=.ar 4 [bv t]) (hab:a ≠ b) (_hda:2000+8*d ≠ a) (hdb:2000+8*d ≠ b) (hd:h (2000+8*d)=.dead) (hn:n=l.length) (hi:i≤n) (h2:n≤1000000) :
  aj R (ab false) h d [.rsl a none 4 0 n,.v (.int .i64 i),.rsl b none 4 0 1] (.fn F.slices_Insert_api_Term_api_Term_ [] []) =
   some (.rsl (2000+8*d) none 4 0 (l.length+1),upd (upd (upd h b (.fz 4 [bv t])) a .dead) (2000+8*d) (.ar 4 (ax (l.take i++t::l.drop i))),[(a,true),(a,false)]):=by
 have hm:=fV false
 have hs:=fF false
 have hk:=fl false
 have hf:=Sw (t:=t) hn hi h2
 have hb':jJ (ab false) [.rsl a none 4 0 n,.v (.int .i64 i),.rsl b none 4 0 1] (.fn F.slices_Insert_api_Term_api_Term_ [] [])=false:=by
  simp [jJ,hm]
 have h1:ah h [2,0,0] [.rsl a none 4 0 n,.v (.int .i64 i),.rsl b none 4 0 1]=some ([.rsl a none 4 0 n,.v (.int .i64 i),.sl 4 [bv t]],upd h b (.fz 4 [bv t]),[]):=by
  simp [ah,bP,mK,dv,ak,ha,hb,Ni,jj,ji]
 have g1:upd h b (.fz 4 [bv t]) a=.ar 4 (ax l):=by
  unfold upd
  rw [if_neg hab,ha]
 have g2:upd h b (.fz 4 [bv t]) (2000+8*d)=.dead:=by
  unfold upd
  rw [if_neg hdb,hd]
 have hr:bM (upd h b (.fz 4 [bv t])) 40 [a] 0=[a]:=by
  simp [bM,g1,ug,bp]
 have hp:bp [] ([AV.rsl a none 4 0 n,.v (.int .i64 i),.sl 4 [bv t]].flatMap bk)=[a]:=by
  simp [bk,cP,bp]
 have h3:aV [a] a=1000:=by simp [aV]
 have hnr:ch (.osl 4 (ax (l.take i++t::l.drop i)))=1:=rfl
 have hlen:(ax (l.take i++t::l.drop i)).length=l.length+1:=by
  rw [gI,List.length_append,List.length_take,List.length_cons,List.length_drop]
  omega
 have hnm:aM [[],[],[.o 5 [.o 2 [],.o 0 [],.o 2 [],.o 0 []]]] [.rsl a none 4 0 n,.v (.int .i64 i),.sl 4 [bv t]]=[.rsl a none 4 0 n,.v (.int .i64 i),.sl 4 [bv t]]:=by
  simp only [aM,Mj]
  rfl
 unfold aj
 rw [if_neg (by rw [hb']; exact Bool.false_ne_true)]
 simp only [dq,hm,List.nil_append,List.append_nil,h1,Option.bind_some,hp,hr,hs,hnm]
 simp [jI,aJ,aO,g1,aB,cz,cQ,fZ,h3,cD,hf,et,hnr,cr,g2,cU,bf,mU,uj,kV,cP,eE,da,rl,cB,mat,bW,dF,hk,ui,hm,hlen]
 exact ⟨by unfold bQ; rw [if_neg (by omega)],by rw [tq]⟩
theorem OB {h:aa} {d:Nat} {r:List (List AV)} {i:Int} {b:Bool} (hR:R F.slices_BinarySearchFunc_api_Term_api_Term_Sint_ [.sl 4 [],nrmV [.o 2 []] (.sl 1 r),.fn F.poly_collector_add_1 [] []] []=some (.tup [I i,B b],[])) (h0:h (2000+8*d)=.dead) (h1:h (2000+8*d+1)=.dead) :
  aj R (ab false) h d [.emp,.sl 1 r,.fn F.poly_collector_add_1 [] []] (.fn F.slices_BinarySearchFunc_api_Term_api_Term_Sint_ [] [])=some (.tup [I i,B b],h,[]):=by
 have hm:=cW false
 have hs:=cN false
 have hk:=cG false
 have hb':jJ (ab false) [.emp,.sl 1 r,.fn F.poly_collector_add_1 [] []] (.fn F.slices_BinarySearchFunc_api_Term_api_Term_Sint_ [] [])=false:=by
  simp [jJ,hm,As]
 have h3:ah h [3,0,0] [.emp,.sl 1 r,.fn F.poly_collector_add_1 [] []]=some ([.emp,.sl 1 r,.fn F.poly_collector_add_1 [] []],h,[]):=by
  simp [ah,bP,mK,dv,ak]
 have hp:bp [] ([AV.emp,.sl 1 r,.fn F.poly_collector_add_1 [] []].flatMap bk)=[]:=by
  simp [bk,cP,bp]
 have hnm:aM [[.o 5 [.o 2 [],.o 0 [],.o 2 [],.o 0 []]],[.o 2 []],[]] [.emp,.sl 1 r,.fn F.poly_collector_add_1 [] []]=[.sl 4 [],nrmV [.o 2 []] (.sl 1 r),.fn F.poly_collector_add_1 [] []]:=by
  simp only [aM]
  rfl
 obtain ⟨q,hq⟩:∃ q,nrmV [.o 2 []] (.sl 1 r)=.sl 1 q:=⟨_,rfl⟩
 rw [hq] at hR hnm
 have hr:∀ n,bM h n [] 0=[]:=fun n=>by cases n <;> rfl
 unfold aj
 rw [if_neg (by rw [hb']; exact Bool.false_ne_true)]
 simp only [dq,hm,List.nil_append,List.append_nil,h3,Option.bind_some,hp,hr,hs,hnm]
 simp [jI,aJ,aO,cQ,fZ,hR,et,ch,cr,h0,h1,cz,cU,mU,uj,kV,eE,da,rl,cB,mat,bq,bW,dF,hk,ui,hm]
theorem Mk {t:Rt} {h:aa} {d b:Nat} (hb:h b=.ar 4 [bv t]) (hdb:2000+8*d ≠ b) (hd:h (2000+8*d)=.dead) :
  aj R (ab false) h d [.emp,.v (.int .i64 0),.rsl b none 4 0 1] (.fn F.slices_Insert_api_Term_api_Term_ [] [])=some (.rsl (2000+8*d) none 4 0 1,upd (upd h b (.fz 4 [bv t])) (2000+8*d) (.ar 4 (ax [t])),[]):=by
 have hm:=fV false
 have hs:=fF false
 have hk:=fl false
 have hf:=QO (t:=t)
 have hb':jJ (ab false) [.emp,.v (.int .i64 0),.rsl b none 4 0 1] (.fn F.slices_Insert_api_Term_api_Term_ [] [])=false:=by
  simp [jJ,hm]
 have h1:ah h [2,0,0] [.emp,.v (.int .i64 0),.rsl b none 4 0 1]=some ([.emp,.v (.int .i64 0),.sl 4 [bv t]],upd h b (.fz 4 [bv t]),[]):=by
  simp [ah,bP,mK,dv,ak,hb,jj,ji]
 have g2:upd h b (.fz 4 [bv t]) (2000+8*d)=.dead:=by
  unfold upd
  rw [if_neg hdb,hd]
 have hp:bp [] ([AV.emp,.v (.int .i64 0),.sl 4 [bv t]].flatMap bk)=[]:=by
  simp [bk,cP,bp]
 have hnr:ch (.osl 4 (ax [t]))=1:=rfl
 have hnm:aM [[],[],[.o 5 [.o 2 [],.o 0 [],.o 2 [],.o 0 []]]] [.emp,.v (.int .i64 0),.sl 4 [bv t]]=[.emp,.v (.int .i64 0),.sl 4 [bv t]]:=by
  simp only [aM,Mj]
  rfl
 have hr:∀ (h:aa) n,bM h n [] 0=[]:=fun h n=>by cases n <;> rfl
 have hlen:(ax [t]).length=1:=rfl
 unfold aj
 rw [if_neg (by rw [hb']; exact Bool.false_ne_true)]
 simp only [dq,hm,List.nil_append,List.append_nil,h1,Option.bind_some,hp,hr,hs,hnm]
 simp [jI,aJ,aO,cQ,fZ,hf,et,hnr,cr,g2,cz,cU,mU,uj,kV,cP,eE,da,rl,cB,mat,bW,dF,hk,ui,hm,hlen]
 unfold bQ
 rw [if_neg (by omega)]
def ClE (x:List Int):Prop:=R F.slices_Clone_int_int_ [.sl 1 (aX x)] []=some (.osl 1 (aX x),[])∨R F.slices_Clone_int_int_ [.sl 1 (aX x)] []=some (.sl 1 (aX x),[])
theorem Ml:∀ {x:List Int},x.length≤100000→ClE x
 | [],_=>.inr Dp
 | x::l,h=>.inl (xk (by simp at h; omega))
theorem Hq {v v':Int} {l:List Rt} {t:Rt} (c:Cl v l) (vt:VT v t) (hl:l.length≤1000000) (hf:xj l t.exps=false) :
  R F.poly_collector_add [.ref 1000 none 0 0 0,.sl 1 (aX t.exps),aF t.c] [t3 v' (.osl 4 (ax l)) 0]=some (.tup [],[t3 v' (.osl 4 (ax (l.take (be l t.exps)++t::l.drop (be l t.exps)))) 0]):=by
 refine sy go gl (du false) rfl ?_
 have hbs:=KN c vt.sm vt.len hl
 rw [hf] at hbs
 have hcp:=Do vt.nz (Nat.le_trans (xi vt.vc vt.c.lb) (by decide))
 simp only [aF,aW] at hcp
 have k1:(aX t.exps).take t.exps.length=aX t.exps:=List.take_of_length_le (by rw [rg]; exact Nat.le_refl _)
 have k2:(ax l).take l.length=ax l:=List.take_of_length_le (by rw [gI]; exact Nat.le_refl _)
 have hlen:(l.take (be l t.exps)++t::l.drop (be l t.exps)).length=l.length+1:=by
  have:=xW l t.exps
  rw [List.length_append,List.length_take,List.length_cons,List.length_drop]
  omega
 have hp:=xW l t.exps
 simp only [ck,dZ,t3,aF,aW,go_sem,↓reduceIte,aez,aeB,aeA]
 rw [I8 rfl rfl (gI l).symm ⟨_,rfl⟩]
 rcases Ml vt.ok.len with hcv | hcv
 all_goals
  simp only [go_sem,↓reduceIte,aez,aeB,aeA,aeC,aeE,aeD,hbs,xY,hcv,hcp,Nat.zero_add,Nat.le_refl,k1]
  rw [OA rfl rfl (by decide) (by decide) (by decide) rfl rfl hp hl]
  generalize l.take (be l t.exps)++t::l.drop (be l t.exps)=L at hlen ⊢
  simp only [go_sem,↓reduceIte,aez,aeB,aeA,aeC,aeD]
  rw [if_pos (by rfl),uU rfl (by rw [gI,hlen]) rfl (by decide) (Nat.lt_of_lt_of_le (by decide) (Nat.le_refl 3))]
  simp only [go_sem,↓reduceIte]
  exact tU (.inl rfl) rfl
theorem OD {v':Int} {v:Int} {t:Rt} (vt:VT v t) :
  R F.poly_collector_add [.ref 1000 none 0 0 0,.sl 1 (aX t.exps),aF t.c] [t3 v' .emp 0]=some (.tup [],[t3 v' (.osl 4 (ax [t])) 0]):=by
 refine sy go gl (du false) rfl ?_
 have hbs:=KN (l:=[]) (Cl.nil v) vt.sm vt.len (Nat.zero_le _)
 rw [show be [] t.exps=0 from rfl,show xj [] t.exps=false from rfl,Int.natCast_zero] at hbs
 have hcp:=Do vt.nz (Nat.le_trans (xi vt.vc vt.c.lb) (by decide))
 simp only [aF,aW] at hcp
 have k1:(aX t.exps).take t.exps.length=aX t.exps:=List.take_of_length_le (by rw [rg]; exact Nat.le_refl _)
 have k2:nrmV [.o 2 []] (.sl 1 (aX t.exps))=.sl 1 (aX t.exps):=by
  simp only [go_sem]
 have hlen:[t].length=1:=rfl
 simp only [ck,dZ,t3,aF,aW,go_sem,↓reduceIte,aez,aeB,aeA]
 rw [OB (by rw [k2]; exact hbs) rfl rfl]
 rcases Ml vt.ok.len with hcv | hcv
 all_goals
  simp only [go_sem,↓reduceIte,aez,aeB,aeA,aeC,aeE,hcv,hcp,Nat.zero_add,Nat.le_refl,k1]
  rw [Mk rfl (by decide) rfl]
  simp only [go_sem,↓reduceIte,aez,aeB,aeA,aeC]
  rw [if_pos (by rfl),uU rfl (show 1=(ax [t]).length from rfl) rfl (by decide) (Nat.lt_of_lt_of_le (by decide) (Nat.le_refl 3))]
  simp only [go_sem,↓reduceIte]
  exact tU (.inl rfl) rfl
end Go.Ab
namespace Go.Ab
open Go Go.IntWalk
set_option maxRecDepth 4000
set_option maxHeartbeats 1000000
theorem xn {d n i:Nat} (h:i≤n):gJ d n (some (I i))=some i:=by
 simp only [gJ]
 rw [if_pos ⟨by omega,by omega⟩]
 rfl
theorem Sx {h:aa} {j k n:Nat} {rows:List (List AV)} (hj:aG j=false) (hh:h j=.ar k rows) (hn:n=rows.length) (hc:aB [1000] (h 1000)=true):n9 [[]] 1 h [.rsl j none k 0 n]=some (.osl k rows,[h 1000]):=by
 subst hn
 have hp:bU 1=[1000]:=rfl
 unfold n9
 rw [if_pos]
 ·simp [lX,lA,ge,hj,hh,qq,kX,aM,nrmV,nrmL,hp]
 ·simp [hp,hc,fw,bk,cP,hj]
theorem Sy {rows:List (List AV)} {n i:Nat} (hn:n=rows.length) (hi:i < n) (h2:n≤1000000):R F.slices_Delete_api_Term_api_Term_ [.rsl 1000 none 4 0 n,I i,I ((i+1:Nat):Int)] [.ar 4 rows]=some (.osl 4 (rows.take i++rows.drop (i+1)),[.dead]):=by
 refine sy mH mG (fm false) rfl ?_
 subst hn
 have b1:gJ rows.length rows.length (some (I rows.length))=some rows.length:=xn (Nat.le_refl _)
 have b2:∀ d,gJ d rows.length (some (I ((i+1:Nat):Int)))=some (i+1):=fun d=>xn (by omega)
 have b3:∀ d,gJ d (i+1) (some (I i))=some i:=fun d=>xn (by omega)
 have b4:∀ d,gJ d rows.length (some (I i))=some i:=fun d=>xn (by omega)
 have e1:((i:Int)=((i+1:Nat):Int))=False:=ff (by omega)
 have s1:dK 4 (.rsl 1000 none 4 0 rows.length) (some (I i)) (some (I ((i+1:Nat):Int))) (some (I rows.length))=some .any:=by
  simp only [dK,if_true,ia,b1,b2,b3,Option.bind_some,Option.map_some,Option.isNone_some,if_neg Bool.false_ne_true]
 have s2:dK 4 (.rsl 1000 none 4 0 rows.length) none (some (I i)) none=some (.rsl 1000 none 4 0 i):=by
  simp only [dK,if_true,ia,b4,zS,Option.bind_some,Option.map_some,Option.isNone_none,Nat.sub_zero,Nat.add_zero]
 have s3:dK 4 (.rsl 1000 none 4 0 rows.length) (some (I ((i+1:Nat):Int))) none none=some (.rsl 1000 none 4 (i+1) (rows.length - (i+1))):=by
  simp only [dK,if_true,ia,b2,zS,Option.bind_some,Option.map_some,Option.isNone_none,Nat.zero_add]
 have t1:(rows.drop (i+1)).take (rows.length - (i+1))=rows.drop (i+1):=List.take_of_length_le (by rw [List.length_drop]; omega)
 have t2:(i+1+(rows.length - (i+1))≤rows.length)=True:=eq_true (by omega)
 obtain ⟨m,hm⟩:∃ m,i+(rows.length - (i+1))=m:=⟨_,rfl⟩
 obtain ⟨D,hD⟩:∃ D,rows.take i++rows.drop (i+1)=D:=⟨_,rfl⟩
 have d1:D.length=m:=by
  rw [← hD,List.length_append,List.length_take,List.length_drop]
  omega
 obtain ⟨A,hA⟩:∃ A,D++rows.drop m=A:=⟨_,rfl⟩
 have a1:A.length=rows.length:=by
  rw [← hA,List.length_append,List.length_drop,d1]
  omega
 have a2:A.take m=D:=by rw [← hA,List.take_append_of_le_length (by omega),List.take_of_length_le (by omega)]
 have e5:∀ h,yL h 26 4 64 1000 4 0 i (rows.drop (i+1)) 4 rows=some (.rsl 1000 none 4 0 m,upd h 1000 (.ar 4 A),[]):=fun h=>by
  unfold yL
  rw [if_pos ⟨rfl,rfl,by rw [List.length_drop]; omega⟩,List.length_drop,Nat.zero_add,hm,hD,hA]
 have e7:(i=rows.length)=False:=eq_false (by omega)
 have b5:ia rows.length (some (I m)) (some (I rows.length)) none=some (m,rows.length):=by
  simp only [ia,b1,Option.bind_some]
  rw [xn (by omega)]
  rfl
 have c1:(m+(rows.length - m)≤rows.length)=True:=eq_true (by omega)
 have c2:∀ z,(D++List.replicate (rows.length - m) z++A.drop (m+(rows.length - m))).take m=D:=fun z=>by
  rw [List.append_assoc,List.take_append_of_le_length (by omega),List.take_of_length_le (by omega)]
 rw [hD]
 simp only [cd,fT,go_sem,↓reduceIte,aez,aeC,aeE,s1,s2,s3,e1,t1,t2,e5,e7,false_and,and_false,a1,a2,b5,c1,c2,Nat.sub_zero,Nat.zero_add,Nat.zero_le,axe,decide_false]
 exact Sx (by rfl) (by rfl) d1.symm (by rfl)
theorem OE {l:List Rt} {h:aa} {d a n i:Nat} (ha:h a=.ar 4 (ax l)) (_hda:2000+8*d ≠ a) (hd:h (2000+8*d)=.dead) (hn:n=l.length) (hi:i < n) (h2:n≤1000000) :
  aj R (ab false) h d [.rsl a none 4 0 n,.v (.int .i64 i),.v (.int .i64 ((i+1:Nat):Int))] (.fn F.slices_Delete_api_Term_api_Term_ [] []) =
   some (.rsl (2000+8*d) none 4 0 (l.length - 1),upd (upd h a .dead) (2000+8*d) (.ar 4 (ax (l.take i++l.drop (i+1)))),[(a,true),(a,false)]):=by
 have hm:=mI false
 have hs:=mo false
 have hk:=fm false
 have hf:=Sy (rows:=ax l) (n:=n) (i:=i) (by rw [gI,hn]) hi h2
 have e1:(ax l).take i++(ax l).drop (i+1)=ax (l.take i++l.drop (i+1)):=by simp [ax,List.map_take,List.map_drop]
 rw [e1] at hf
 have hb':jJ (ab false) [.rsl a none 4 0 n,.v (.int .i64 i),.v (.int .i64 ((i+1:Nat):Int))] (.fn F.slices_Delete_api_Term_api_Term_ [] [])=false:=by
  simp [jJ,hm]
 have h1:ah h [2,0,0] [.rsl a none 4 0 n,.v (.int .i64 i),.v (.int .i64 ((i+1:Nat):Int))]=some ([.rsl a none 4 0 n,.v (.int .i64 i),.v (.int .i64 ((i+1:Nat):Int))],h,[]):=by
  simp [ah,bP,mK,dv,ak,ha,Ni]
 have hr:bM h 40 [a] 0=[a]:=by
  simp [bM,ha,ug,bp]
 have hp:bp [] ([AV.rsl a none 4 0 n,.v (.int .i64 i),.v (.int .i64 ((i+1:Nat):Int))].flatMap bk)=[a]:=by
  simp [bk,cP,bp]
 have h3:aV [a] a=1000:=by simp [aV]
 have hnr:ch (.osl 4 (ax (l.take i++l.drop (i+1))))=1:=rfl
 have hlen:(ax (l.take i++l.drop (i+1))).length=l.length - 1:=by
  rw [gI,List.length_append,List.length_take,List.length_drop]
  omega
 unfold aj
 rw [if_neg (by rw [hb']; exact Bool.false_ne_true)]
 simp only [dq,hm,List.nil_append,List.append_nil,h1,Option.bind_some,hp,hr,hs]
 simp only [Int.natCast_add,Int.natCast_one] at hf
 simp [jI,aM,aJ,aO,ha,aB,cz,cQ,fZ,h3,cD,hf,et,hnr,cr,hd,cU,bf,mU,uj,kV,cP,eE,da,rl,cB,mat,bW,dF,hk,ui,hm,hlen]
 exact ⟨by unfold bQ; rw [if_neg (by omega)],by rw [tq]⟩
theorem QP (h:aa) (i:Nat) (xs:List AV) (a b:AV) (r:List (List AV)):xE h 3 1000 1 4 i 1 xs [] (.bx [a,.osl 4 r,b])=(wd 3 4 i 1 xs 4 r).map fun q=>(.und,upd h 1000 (.bx [a,.osl 4 q,b]),[]):=rfl
theorem xp (a b:AV) (k:Nat) (r:List (List AV)):gz 1 (.bx [a,.osl k r,b])=some (k,r):=rfl
theorem CA (h:aa) (n:Nat) (g:Bool) (i j:Nat) (r:List (List AV)):jH h n g 4 i j (some (4,r))=(r[i]?).bind fun row=>(im n g row j).map fun a=>(a,h,[]):=rfl
theorem OF {v v':Int} {l:List Rt} {t q:Rt} (c:Cl v l) (vt:VT v t) (hl:l.length≤1000000) (hq:l[be l t.exps]?=some q) (ho:bj q.exps t.exps=0) :
  R F.poly_collector_add [.ref 1000 none 0 0 0,.sl 1 (aX t.exps),aF t.c] [t3 v' (.osl 4 (ax l)) 0]=some (.tup [],[if (iQ q.c t.c).2=0 then (if (iQ q.c t.c).1.m.length=0 then t3 v' (.osl 4 (ax (l.take (be l t.exps)++l.drop (be l t.exps+1)))) 0 else t3 v' (.osl 4 (ax (l.set (be l t.exps) ⟨q.exps,(iQ q.c t.c).1⟩))) 0) else t3 v' (.osl 4 (ax l)) 9]):=by
 refine sy go gl (du false) rfl ?_
 have hbs:=KN c vt.sm vt.len hl
 have hf:xj l t.exps=true:=by
  unfold xj
  rw [hq]
  exact decide_eq_true ho
 rw [hf] at hbs
 have vq:=c.t q (List.mem_of_getElem? hq)
 have hadd:=QL vq.c vt.c
 have hlt:=(List.getElem?_eq_some_iff.1 hq).1
 have hrow:(ax l)[be l t.exps]?=some (bv q):=by simp [ax,hq]
 have hi0:(0≤(be l t.exps:Int)∧(be l t.exps:Int) < (l.length:Int))=True:=eq_true ⟨by omega,by omega⟩
 have hw:IntKind.i64.wrap ((be l t.exps:Int)+1)=((be l t.exps+1:Nat):Int):=wi (by omega) (by omega)
 generalize iQ q.c t.c=r at hadd ⊢
 obtain ⟨s,e⟩:=r
 simp only [rV,aF,aW] at hadd
 simp only [bv] at hrow
 simp only [ck,dZ,t3,aF,aW,go_sem,↓reduceIte,aez,aeB,aeA]
 rw [I8 rfl rfl (gI l).symm ⟨_,rfl⟩]
 by_cases he:e=0
 ·subst he
  by_cases hs:s.m.length=0
  ·have e1:((s.m.length:Int)=0)=True:=tt (by omega)
   have hlen:(l.take (be l t.exps)++l.drop (be l t.exps+1)).length=l.length - 1:=by
    rw [List.length_append,List.length_take,List.length_drop]
    omega
   simp only [go_sem,↓reduceIte,aez,aeB,aeA,aeC,aeE,aeD,hbs,xY,hi0,hrow,hadd,hs,Int.toNat_natCast,Int.natCast_zero,Nat.zero_add,xp,CA,hw]
   rw [OE rfl (by decide) rfl rfl hlt hl]
   generalize l.take (be l t.exps)++l.drop (be l t.exps+1)=L at hlen ⊢
   simp only [go_sem,↓reduceIte,aez,aeB,aeA,aeC,aeD]
   rw [uU rfl (by rw [gI,hlen]) rfl (by decide) (Nat.lt_of_lt_of_le (by decide) (Nat.le_refl 3))]
   simp only [go_sem,↓reduceIte]
   exact tU (.inl rfl) rfl
  ·have e1:((s.m.length:Int)=0)=False:=ff (by omega)
   have hset:(ax l).set (be l t.exps) [.sl 1 (aX q.exps),B s.neg,lm s.m,I s.e]=ax (l.set (be l t.exps) ⟨q.exps,s⟩):=by
    unfold ax
    rw [List.map_set]
    rfl
   simp only [go_sem,↓reduceIte,aez,aeB,aeA,aeC,aeE,aeD,hbs,xY,hi0,hrow,hadd,hs,e1,Int.toNat_natCast,Nat.zero_add,xp,CA,hw,QP,hset]
   exact tU (.inl rfl) rfl
 ·have e1:(e=0)=False:=ff he
  simp only [go_sem,↓reduceIte,aez,aeB,aeA,aeC,aeE,aeD,hbs,xY,hi0,hrow,hadd,e1,Int.toNat_natCast,Nat.zero_add,xp,CA,hw]
  exact tU (.inl rfl) rfl
theorem I9 {v v':Int} {l:List Rt} {t:Rt} {cell:AV} (c:Cl v l) (vt:VT v t) (hl:l.length≤1000000) (hc:nS cell l) :
  ∃ cell' l' e',R F.poly_collector_add [.ref 1000 none 0 0 0,.sl 1 (aX t.exps),aF t.c] [t3 v' cell 0]=some (.tup [],[t3 v' cell' e'])∧nS cell' l'∧((e'=0∧kU l t=some l')∨(e'=9∧kU l t=none∧l'=l)):=by
 rcases hc with rfl | ⟨rfl,rfl⟩
 ·rw [I6]
  cases hq:l[be l t.exps]? with
  | none =>
   exact ⟨_,_,_,Hq c vt hl (by unfold xj; rw [hq]),.inl rfl,.inl ⟨rfl,rfl⟩⟩
  | some q =>
   by_cases ho:bj q.exps t.exps=0
   ·have h1:=OF (v':=v') c vt hl hq ho
    simp only [if_pos ho]
    by_cases he:(iQ q.c t.c).2=0
    ·rw [if_pos he] at h1 ⊢
     by_cases hs:(iQ q.c t.c).1.m.length=0
     ·rw [if_pos hs] at h1 ⊢
      exact ⟨_,_,_,h1,.inl rfl,.inl ⟨rfl,rfl⟩⟩
     ·rw [if_neg hs] at h1 ⊢
      exact ⟨_,_,_,h1,.inl rfl,.inl ⟨rfl,rfl⟩⟩
    ·rw [if_neg he] at h1 ⊢
     exact ⟨_,_,_,h1,.inl rfl,.inr ⟨rfl,rfl,rfl⟩⟩
   ·simp only [if_neg ho]
    exact ⟨_,_,_,Hq c vt hl (by unfold xj; rw [hq]; exact decide_eq_false ho),.inl rfl,.inl ⟨rfl,rfl⟩⟩
 ·exact ⟨_,_,_,OD vt,.inl rfl,.inl ⟨rfl,rfl⟩⟩
end Go.Ab
namespace Go.Ab
open Go Go.IntWalk
end Go.Ab
namespace Go.Ab
open Go Go.IntWalk
def p0:Rp:=⟨0,[]⟩
def pV (r:Rp × Int):AV:=.tup [bm r.1,I r.2]
def ie (v:Int):Option (List Rt)→Rp × Int
 | none=>(p0,9)
 | some l=>if 500 < l.length then (p0,5) else (⟨v,l⟩,0)
def bI (a b:List Int):List Int:=List.zipWith (·+·) a b
end Go.Ab
namespace Go.Ab
open Go Go.IntWalk
structure Pv (v:Int) (a:Rp):Prop where
 v:a.vars=v
 p:vp a=true
 o:OkP a
theorem Pv.cl {v:Int} {a:Rp} (h:Pv v a):Cl v a.terms:=by
 have:=(eJ h.o h.p).1
 rw [h.v] at this
 exact this
end Go.Ab
namespace Go.Ab
open Go Go.IntWalk
set_option maxRecDepth 4000
set_option maxHeartbeats 1000000
theorem Hy {a:AV} (h:ak a=true):cP a=[]:=by cases a <;> simp [ak] at h <;> rfl
theorem Jd {a:AV} (h:ak a=true) (l:List Nat):aO l a=true:=by cases a <;> simp [ak] at h <;> simp [aO,h]
theorem Hz {a:AV} (h:ak a=true) (g:Nat→Nat):fZ g a=a:=by cases a <;> simp [ak] at h <;> rfl
theorem uW {α β:Type} {f:α→List β}:∀ {l:List α},(∀ x ∈ l,f x=[])→l.flatMap f=[]
 | [],_=>rfl
 | x::l,h=>by
  rw [List.flatMap_cons,h x (by simp),uW fun y hy=>h y (by simp [hy])]
  rfl
theorem Je {a:AV} (h:dat a=true):bk a=[]:=by
 cases a <;> simp only [dat] at h <;> first | exact Hy h | skip
 ·rename_i cs
  exact uW fun x hx=>Hy (List.all_eq_true.1 h x hx)
 ·rename_i f x y
  simp [ak] at h
  obtain ⟨rfl,rfl⟩:=h
  rfl
theorem Mm {a:AV} (h:dat a=true) (l:List Nat):aJ l a=true:=by
 cases a <;> simp only [dat] at h <;> first | exact Jd h l | skip
 ·rename_i cs
  simp only [aJ,List.all_eq_true]
  exact fun x hx=>Jd (List.all_eq_true.1 h x hx) l
 ·rename_i f x y
  simp [ak] at h
  obtain ⟨rfl,rfl⟩:=h
  rfl
theorem Jf {a:AV} (h:dat a=true) (g:Nat→Nat):cQ g a=a:=by
 cases a <;> simp only [dat] at h <;> first | exact Hz h g | skip
 ·rename_i cs
  show AV.agg (cs.map (fZ g))=_
  rw [(List.map_congr_left (g:=fun c=>c) fun x hx=>Hz (List.all_eq_true.1 h x hx) g).trans (List.map_id' cs)]
 ·rename_i f x y
  simp [ak] at h
  obtain ⟨rfl,rfl⟩:=h
  rfl
theorem Mn {a:AV} (h:dat a=true) (hp:aa):bP hp 0 a=some (a,hp,[]):=by
 by_cases hagg:∃ cs,a=.agg cs
 ·obtain ⟨cs,rfl⟩:=hagg
  simp only [dat] at h
  simp only [bP,mK]
  rw [gr h hp]
  rfl
 ·have h2:ak a=true:=by cases a <;> first | exact h | exact absurd ⟨_,rfl⟩ hagg
  cases a <;> first | (simp [ak] at h2; done) | rfl | skip
theorem CH (hp:aa):∀ {l:List AV},l.all dat=true→ah hp [] l=some (l,hp,[])
 | [],_=>rfl
 | a::l,h=>by
  simp only [List.all_cons,Bool.and_eq_true] at h
  simp only [ah,List.headD_nil,Mn h.1,Option.bind_some,List.tail_nil,CH hp h.2,List.append_nil]
structure OC (o:Ob):Prop where
 cl:∀ l,aB l o=true
 ids:ug o=[]
 ren:∀ g,cD g o=o
 nd:cz o=false
structure RT (r:AV):Prop where
 ren:∀ g,ui g r=r
 mat:∀ n h,mat n h r=(r,h)
 ok:∀ l,eE l r=true
theorem CI:∀ l:List AV,kV [] l=[]
 | []=>rfl
 | a::l=>by
  show (if (0:Nat)=2 then _ else [])++kV [] l=[]
  rw [CI l]
  rfl
theorem HA {f:FuncId} {h:aa} {d id:Nat} {zas as':List AV} {o o':Ob} {res:AV} (hm:(ab false).m f=[]) (hk:(ab false).keep f=false) (hn:aM ((ab false).sh f) (.ref id none 0 0 0::zas)=.ref id none 0 0 0::as') (hd:zas.all dat=true) (hd':as'.all dat=true)
  (hh:h id=o) (ho:OC o) (ho':OC o') (hb:bf o=true→bf o'=true) (hR:R f (.ref 1000 none 0 0 0::as') [o]=some (res,[o'])) (hr:RT res) (h8:ch res≤8) (hfr:cr h (2000+8*d) (ch res)=true) :
  aj R (ab false) h d (.ref id none 0 0 0::zas) (.fn f [] [])=some (res,upd h id o',[(id,true)]):=by
 have h1:ah h [] (.ref id none 0 0 0::zas)=some (.ref id none 0 0 0::zas,h,[]):=by
  simp only [ah,bP,Option.bind_some,List.tail_nil,CH h hd,List.append_nil]
 have hp:bp [] ((AV.ref id none 0 0 0::zas).flatMap bk)=[id]:=by
  rw [List.flatMap_cons,uW fun x hx=>Je (List.all_eq_true.1 hd x hx)]
  rfl
 have hre:bM h 40 [id] 0=[id]:=by
  simp [bM,hh,ho.ids,bp]
 have h3:aV [id] id=1000:=by simp [aV]
 have hall:(AV.ref id none 0 0 0::as').all (aJ [id])=true:=by
  rw [List.all_cons,Bool.and_eq_true]
  exact ⟨by simp [aJ,aO],List.all_eq_true.2 fun x hx=>Mm (List.all_eq_true.1 hd' x hx) _⟩
 have hmap:(AV.ref id none 0 0 0::as').map (cQ (aV [id]))=.ref 1000 none 0 0 0::as':=by
  rw [List.map_cons,(List.map_congr_left (g:=fun c=>c) fun x hx=>Jf (List.all_eq_true.1 hd' x hx) _).trans (List.map_id' as')]
  simp [cQ,fZ,h3]
 have hob:([id].map fun a=>cD (aV [id]) (h a))=[o]:=by simp [hh,ho.ren]
 have hids:([id].all fun a=>aB [id] (h a) && !cz (h a))=true:=by simp [hh,ho.cl,ho.nd]
 unfold aj
 rw [if_neg (by simp [jJ,hm])]
 simp only [dq,hm,List.nil_append,List.append_nil,h1,Option.bind_some,hp,hre,hn]
 unfold jI
 rw [hall,hids,hmap,hob,hR,Bool.and_self,if_pos rfl,Option.bind_some,hk,hm,CI]
 unfold et
 have hbf:cU h [] [id] [o']=true:=by
  have:=ho'.nd
  cases h5:bf o with
  | false=>simp [cU,hh,h5,this]
  | true=>simp [cU,hh,h5,hb h5,this]
 have hend:mU h [id] [] (res,[o'])=true:=by
  simp [mU,uj,hr.ok,ho'.cl]
 rw [if_pos ⟨rfl,by simp,h8,hfr,hbf,hend⟩]
 simp [cB,dF,hr.mat,hr.ren,ho'.ren]
theorem nU {f:FuncId} {h:aa} {d id:Nat} {zas:List AV} {r:Option R3} (hm:(ab false).m f=[]) (hd:zas.all dat=true) (hc:aj R (ab false) h d (.ref id none 0 0 0::zas) (.fn f [] [])=r):aE R (ab false) d f (.ref id none 0 0 0::zas,h,[])=r:=by
 have h1:ah h [] (.ref id none 0 0 0::zas)=some (.ref id none 0 0 0::zas,h,[]):=by
  simp only [ah,bP,Option.bind_some,List.tail_nil,CH h hd,List.append_nil]
 rw [ai d hm,h1] at hc
 exact hc
theorem ko {v e:Int} {c:AV} {l:List Rt} (hc:nS c l):OC (t3 v c e):=by
 rcases hc with rfl | ⟨rfl,_⟩
 ·exact ⟨fun l=>rfl,rfl,fun g=>rfl,rfl⟩
 ·exact ⟨fun l=>rfl,rfl,fun g=>rfl,rfl⟩
theorem Z5:RT (.tup []):=⟨fun _=>rfl,fun _ _=>rfl,fun _=>rfl⟩
theorem xv {v e e':Int} {c c':AV} {l l':List Rt} {h:aa} {d id:Nat} {x:List Int} {q:Rd} (hh:h id=t3 v c e) (hc:nS c l) (hc':nS c' l') (hR:R F.poly_collector_add [.ref 1000 none 0 0 0,.sl 1 (aX x),aF q] [t3 v c e]=some (.tup [],[t3 v c' e'])) :
  aj R (ab false) h d [.ref id none 0 0 0,.sl 1 (aX x),aF q] (.fn F.poly_collector_add [] [])=some (.tup [],upd h id (t3 v c' e'),[(id,true)]) :=
 HA (ed false) (du false) (as':=[.sl 1 (aX x),aF q]) (by rw [tF]; simp only [aF,aW,go_sem]) rfl rfl hh (ko hc) (ko hc') (fun _=>rfl) hR Z5 (by decide) rfl
end Go.Ab
namespace Go.Ab
open Go Go.IntWalk
set_option maxRecDepth 4000
set_option maxHeartbeats 1000000
theorem Ai {v:Int}:R F.poly_empty [I v] []=some (.obx [I v,.emp,I 0],[]):=by
 refine aZ Gr Gq (Ba false) rfl ?_
 simp only [mZ,wO,go_sem,↓reduceIte,aez,aeA,aeC]
 rfl
theorem Vx (r:Rp × Int):RT (pV r):=⟨fun _=>rfl,fun _ _=>rfl,fun _=>rfl⟩
theorem uX {h:aa} {o:Ob} {rs:List (List Sh)} {vs us:List AV} {r:AV} (h0:((vs.flatMap bk).filter fun i=>!aG i)=[]) (h1:h 1000=o) (ho:aB [1000] o=true) (h2:lX h vs=some us) (h3:kX (aM rs us)=r):n9 rs 1 h vs=some (r,[o]):=by
 have hp:bU 1=[1000]:=rfl
 unfold n9
 rw [h0,hp,h2,if_pos (by simp [fw,h1,ho])]
 simp [h1,h3]
theorem Sz (x:Value):gK (.v x)=.v x:=rfl
theorem OG (k:Nat) (r:List (List AV)):gK (.osl k r)=.sl k r:=rfl
theorem aig:gK .emp=.emp:=rfl
theorem SA {v e:Int} {l:List Rt}:kX (aM [[.o 0 [],.o 5 [.o 2 [],.o 0 [],.o 2 [],.o 0 []]],[]] [.agg [I v,.sl 4 (ax l)],I e])=pV (⟨v,l⟩,e):=by
 have h:=tN l
 show AV.tup [.agg [I v,.sl 4 ((ax l).map _)],I e]=_
 rw [h]
 rfl
theorem OH {v e:Int} {c:AV} {l:List Rt} (hc:nS c l) (he:e ≠ 0):R F.poly_collector_done [.ref 1000 none 0 0 0] [t3 v c e]=some (pV (p0,e),[t3 v c e]):=by
 refine sy jw jv (ef false) rfl ?_
 have e1:(e=0)=False:=ff he
 simp only [bY,dP,t3,go_sem,↓reduceIte,aez,aeB,aeA,aeC,aeE,aeD,e1]
 exact uX rfl (by rfl) ((ko hc).cl _) (by rfl) (by rfl)
theorem OI {v:Int} {l:List Rt}:R F.poly_collector_done [.ref 1000 none 0 0 0] [t3 v (.osl 4 (ax l)) 0]=some (pV (ie v (some l)),[if 500 < l.length then t3 v (.osl 4 (ax l)) 0 else .bx [I v,.sl 4 (ax l),I 0]]):=by
 refine sy jw jv (ef false) rfl ?_
 unfold ie
 by_cases h:500 < l.length
 ·have e1:(500 < (l.length:Int))=True:=tt (by omega)
  simp only [if_pos h]
  simp only [bY,dP,t3,go_sem,↓reduceIte,aez,aeB,aeA,aeC,aeE,aeD,e1]
  exact uX rfl (by rfl) rfl (by rfl) (by rfl)
 ·have e1:(500 < (l.length:Int))=False:=ff (by omega)
  have k2:(ax l).take l.length=ax l:=List.take_of_length_le (by rw [gI]; exact Nat.le_refl _)
  simp only [if_neg h]
  simp only [bY,dP,t3,go_sem,↓reduceIte,aez,aeB,aeA,aeC,aeE,aeD,e1,Sz,OG]
  exact uX rfl (by rfl) rfl (by rfl) SA
theorem OJ {v:Int}:R F.poly_collector_done [.ref 1000 none 0 0 0] [t3 v .emp 0]=some (pV (ie v (some [])),[t3 v .emp 0]):=by
 refine sy jw jv (ef false) rfl ?_
 have e1:((500:Int) < 0)=False:=ff (by decide)
 simp only [bY,dP,t3,go_sem,↓reduceIte,aez,aeB,aeA,aeC,aeE,aeD,e1]
 exact uX rfl (by rfl) rfl (by rfl) (by rfl)
theorem xw {v e:Int} {c:AV} {l:List Rt} {h:aa} {d id:Nat} (hh:h id=t3 v c e) (hc:nS c l) (hf:cr h (2000+8*d) 2=true) :
  ∃ o,aj R (ab false) h d [.ref id none 0 0 0] (.fn F.poly_collector_done [] [])=some (pV (if e=0 then ie v (some l) else (p0,e)),upd h id o,[(id,true)]):=by
 have key:∃ o,OC o∧bf o=true∧R F.poly_collector_done [.ref 1000 none 0 0 0] [t3 v c e]=some (pV (if e=0 then ie v (some l) else (p0,e)),[o]):=by
  by_cases he:e=0
  ·subst he
   rw [if_pos rfl]
   rcases hc with rfl | ⟨rfl,rfl⟩
   ·refine ⟨_,?_,?_,OI⟩
    ·split
     ·exact ko (.inl rfl)
     ·exact ⟨fun l=>rfl,rfl,fun g=>rfl,rfl⟩
    ·split <;> rfl
   ·exact ⟨_,ko (.inr ⟨rfl,rfl⟩),rfl,OJ⟩
  ·rw [if_neg he]
   exact ⟨_,ko hc,rfl,OH hc he⟩
 obtain ⟨o,h1,h2,h3⟩:=key
 exact ⟨o,HA (dR false) (ef false) (as':=[]) (by rw [sO]; rfl) rfl rfl hh (ko hc) h1 (fun _=>h2) h3 (Vx _) (by show 2≤8; decide) hf⟩
structure ColE (v:Int) (l ts:List Rt) (e:Int) (c':AV) (l':List Rt) (e':Int):Prop where
 c:nS c' l'
 r:(e'=0∧e=0∧ej l ts=some l')∨(e'=9∧(e=0→ej l ts=none))
theorem ColE.fin {v:Int} {ts:List Rt} {c':AV} {l':List Rt} {e':Int} (h:ColE v [] ts 0 c' l' e'):(if e'=0 then ie v (some l') else (p0,e'))=ie v (ej [] ts):=by
 rcases h.r with ⟨h1,_,h2⟩ | ⟨h1,h2⟩
 ·rw [if_pos h1,h2]
 ·rw [h1,if_neg (by decide),h2 rfl]
  rfl
theorem ColE.step {v:Int} {l ts:List Rt} {t:Rt} {c:AV} (hc:nS c l) {e:Int} (he:e=0∨e=9) (hC:e=0→Cl v l∧l.length+ts.length+1≤1000000) (vt:VT v t) {v':Int} :
  ∃ c1 l1 e1,R F.poly_collector_add [.ref 1000 none 0 0 0,.sl 1 (aX t.exps),aF t.c] [t3 v' c e]=some (.tup [],[t3 v' c1 e1])∧nS c1 l1∧(e1=0∨e1=9)∧(e1=0→Cl v l1∧l1.length+ts.length≤1000000)∧∀ c' l' e',ColE v l1 ts e1 c' l' e'→ColE v l (t::ts) e c' l' e':=by
 rcases he with rfl | rfl
 ·obtain ⟨h1,h2⟩:=hC rfl
  obtain ⟨c1,l1,e1,g1,g2,g3⟩:=I9 (v':=v') h1 vt (by omega) hc
  refine ⟨c1,l1,e1,g1,g2,?_,fun h0=>?_,fun c' l' e' h=>⟨h.c,?_⟩⟩
  ·rcases g3 with ⟨g,_⟩ | ⟨g,_⟩
   ·exact .inl g
   ·exact .inr g
  ·rcases g3 with ⟨_,g⟩ | ⟨g,_⟩
   ·have:=Aa g
    exact ⟨(xX h1 vt g).1,by omega⟩
   ·omega
  ·rcases g3 with ⟨g,k⟩ | ⟨g,k,_⟩
   ·subst g
    rcases h.r with ⟨q1,_,q2⟩ | ⟨q1,q2⟩
    ·refine .inl ⟨q1,rfl,?_⟩
     unfold ej
     rw [k]
     exact q2
    ·refine .inr ⟨q1,fun _=>?_⟩
     unfold ej
     rw [k]
     exact q2 rfl
   ·subst g
    rcases h.r with ⟨_,q1,_⟩ | ⟨q1,_⟩
    ·omega
    ·refine .inr ⟨q1,fun _=>?_⟩
     unfold ej
     rw [k]
     rfl
 ·refine ⟨c,l,9,Hp hc (by decide),hc,.inr rfl,fun h=>by omega,fun c' l' e' h=>⟨h.c,?_⟩⟩
  rcases h.r with ⟨_,q1,_⟩ | ⟨q1,_⟩
  ·omega
  ·exact .inr ⟨q1,fun h=>by omega⟩
end Go.Ab
namespace Go.Ab
open Go Go.IntWalk
set_option maxRecDepth 4000
set_option maxHeartbeats 1000000
theorem qp (h:aa) (d:Nat) (v:Int):hG h d (some (.obx [I v,.emp,I 0],[]))=if cz (h (2000+8*d))=true then some (.ref (2000+8*d) none 0 0 0,upd h (2000+8*d) (.bx [I v,.emp,I 0]),[]) else none:=by
 simp [hG,ch,cr,eE,da,gL,ak,aN,mat,bW]
end Go.Ab
namespace Go.Ab
open Go Go.IntWalk
set_option maxRecDepth 4000
set_option maxHeartbeats 1000000
def t2 (v:Int) (c:AV):Ob:=.bx [I v,c]
end Go.Ab
namespace Go.Ab
open Go Go.IntWalk
set_option maxRecDepth 4000
set_option maxHeartbeats 1000000
theorem aoH (l:List Rt) (n:Nat):(ax l).take n=ax (l.take n):=by simp [ax,List.map_take]
theorem asV (l:List Rt) (n:Nat):(ax l).drop n=ax (l.drop n):=by simp [ax,List.map_drop]
theorem akl (l r:List Rt):ax l++ax r=ax (l++r):=by simp [ax]
theorem auQ {l:List Rt} {p:Nat} (h:p≤l.length):dK 4 (.sl 4 (ax l)) none (some (I p)) none=some (.sl 4 (ax (l.take p))):=by
 simp only [dK,if_true,ia,gI,xn h,zS,Option.bind_some,Option.map_some,vZ,if_neg Bool.false_ne_true,List.drop_zero,Nat.sub_zero,aoH]
theorem ar9 {l:List Rt} {p:Nat} (h:p≤l.length):dK 4 (.sl 4 (ax l)) (some (I p)) none none=some (.sl 4 (ax (l.drop p))):=by
 simp only [dK,if_true,ia,gI,xn h,zS,Option.bind_some,Option.map_some,vZ,if_neg Bool.false_ne_true,aoH,asV]
 rw [List.take_of_length_le (by rw [List.length_drop]; omega)]
theorem alh {v:Int} {q t:Rt} (vq:VT v q) (vt:VT v t):R F.r23_Compare [.sl 1 (aX q.exps),.sl 1 (aX t.exps)] []=some (I (bj q.exps t.exps),[]):=alC vq.sm vt.sm (vq.l2 vt)
theorem asW {v:Int} {l:List Rt} {t:Rt} (c:Cl v l) (vt:VT v t) (hl:l.length≤1000000):∀ (k i:Nat),i+k=be l t.exps→∀ (s:af) (h:aa),s 0=.sl 4 (ax l)→s 3=.ref 3 none 0 0 0→s 6=I i→h 3=.bx (bv t) →
  aI 0 [0,3,6] (aU (az R (ab false) aiU) [0,3,6] [3] s h)=some (.normal,⟨upd (upd (upd (fun _=>.any) 6 (I (be l t.exps))) 3 (.ref 3 none 0 0 0)) 0 (.sl 4 (ax l)),upd (fun _=>.dead) 3 (.bx (bv t))⟩):=by
 intro k
 induction k with
 | zero =>
  intro i hi s h h0 h3 h6 k3
  obtain rfl:i=be l t.exps:=by omega
  rw [aA]
  simp only [bv] at k3
  cases hq:l[be l t.exps]? with
  | none =>
   have:l.length≤be l t.exps:=List.getElem?_eq_none_iff.1 hq
   have e1:((be l t.exps:Int) < (l.length:Int))=False:=ff (by omega)
   simp only [aiU,bv,go_sem,↓reduceIte,aez,aeD,h0,h3,h6,k3,e1]
  | some q =>
   have hlt:=(List.getElem?_eq_some_iff.1 hq).1
   have e1:((be l t.exps:Int) < (l.length:Int))=True:=tt (by omega)
   have e2:bH (ax l) (be l t.exps:Int)=some (.ipt (bv q)):=jx rfl hq
   have hc:=alh (c.t q (List.mem_of_getElem? hq)) vt
   have e3:(bj q.exps t.exps < 0)=False:=ff (by have:=Cz hq; omega)
   simp only [bv] at e2
   simp only [aiU,bv,go_sem,↓reduceIte,aez,aeB,aeA,aeE,aeD,h0,h3,h6,k3,e1,e2,hc,e3]
 | succ k ih =>
  intro i hi s h h0 h3 h6 k3
  have hle:=xW l t.exps
  have hlt:i < l.length:=by omega
  have e1:((i:Int) < (l.length:Int))=True:=tt (by omega)
  have hq:l[i]?=some l[i]:=List.getElem?_eq_getElem hlt
  have e2:bH (ax l) (i:Int)=some (.ipt (bv l[i])):=jx rfl hq
  have hc:=alh (c.t l[i] (List.mem_of_getElem? hq)) vt
  have e3:(bj (l[i]).exps t.exps < 0)=True:=tt (I5 (by omega) hq)
  have e5:IntKind.i64.wrap ((i:Int)+1)=((i+1:Nat):Int):=wi (by omega) (by omega)
  have ih':=ih (i+1) (by omega)
  generalize l[i]=q at e2 hc e3
  rw [aA]
  generalize aU _ _ _=L at ih' ⊢
  simp only [bv] at k3 e2
  simp only [aiU,go_sem,↓reduceIte,aez,aeB,aeA,aeE,aeD,h0,h3,h6,k3,e1,e2,e5,hc,e3]
  exact ih' _ _ rfl rfl rfl rfl
def aqO:Option (List Rt)→AV
 | none=>.tup [.sl 4 [],B false]
 | some l=>.tup [.sl 4 (ax l),B true]
theorem ali {L:List Rt} {r:List (List AV)} (h:r=ax L):(Option.map (fun us=>(kX (aM [[.o 5 [.o 2 [],.o 0 [],.o 2 [],.o 0 []]],[]] us),([]:List Ob))) ((some (AV.osl 4 r)).bind fun b=>some [b,.v (.bool true)]))=some (aqO (some L),[]):=by
 subst h
 have h:=tN L
 show some (AV.tup [.sl 4 ((ax L).map _),B true],[])=_
 rw [h]
 rfl
theorem aqP {v:Int} {l:List Rt} {t:Rt} (c:Cl v l) (vt:VT v t) (hl:l.length≤1000000):R F.r23_Collect [.sl 4 (ax l),.agg (bv t)] []=some (aqO (kU l t),[]):=by
 refine aZ ans anr (alX false) rfl ?_
 have hle:=xW l t.exps
 have h3:=asW c vt hl (be l t.exps) 0 (Nat.zero_add _)
 simp only [Int.natCast_zero,bv] at h3
 have s1:=auQ (l:=l) hle
 have s2:=ar9 (l:=l) hle
 have l1:(l.take (be l t.exps)).length=be l t.exps:=by rw [List.length_take]; omega
 have b1:(be l t.exps*64≤140737488355328)=True:=eq_true (by omega)
 have b2:((be l t.exps+1)*64≤140737488355328)=True:=eq_true (by omega)
 have b3:((be l t.exps+1+(l.length - be l t.exps))*64≤140737488355328)=True:=eq_true (by omega)
 rw [I6]
 simp only [ajG,alm,bv,go_sem,↓reduceIte,aez,aeA]
 rw [h3 _ _ rfl rfl rfl rfl]
 have t0:[[AV.sl 1 (aX t.exps),B t.c.neg,lm t.c.m,I t.c.e]]=ax [t]:=rfl
 cases hq:l[be l t.exps]? with
 | none =>
  have:l.length≤be l t.exps:=List.getElem?_eq_none_iff.1 hq
  have e1:((be l t.exps:Int) < (l.length:Int))=False:=ff (by omega)
  simp only [go_sem,↓reduceIte,aez,aeB,aeA,aeC,aeE,aeD,s1,s2,l1,b1,b2,b3,e1,true_or,List.nil_append,List.length_nil,Nat.zero_add,List.length_cons,List.length_append,List.length_drop]
  rw [if_pos (Nat.le_refl _)]
  exact ali (by rw [t0,akl,akl,List.append_assoc]; rfl)
 | some q =>
  have hlt:=(List.getElem?_eq_some_iff.1 hq).1
  have e1:((be l t.exps:Int) < (l.length:Int))=True:=tt (by omega)
  have e2:bH (ax l) (be l t.exps:Int)=some (.ipt (bv q)):=jx rfl hq
  have vq:=c.t q (List.mem_of_getElem? hq)
  have hc:=alh vq vt
  simp only [bv] at e2
  by_cases ho:bj q.exps t.exps=0
  ·have e3:(bj q.exps t.exps=0)=True:=tt ho
   simp only [if_pos ho]
   have hadd:=apJ vq.c vt.c
   have hexp:=I4 (vq.l2 vt) ho
   have hw:IntKind.i64.wrap ((be l t.exps:Int)+1)=((be l t.exps+1:Nat):Int):=wi (by omega) (by omega)
   have s3:=ar9 (l:=l) (p:=be l t.exps+1) hlt
   have c1:((be l t.exps+(l.length - (be l t.exps+1)))*64≤140737488355328)=True:=eq_true (by omega)
   have c2:((be l t.exps+1+(l.length - (be l t.exps+1)))*64≤140737488355328)=True:=eq_true (by omega)
   generalize iQ q.c t.c=r at hadd ⊢
   obtain ⟨s,e⟩:=r
   simp only [rV,aF,aW] at hadd
   by_cases he:e=0
   ·subst he
    by_cases hs:s.m.length=0
    ·have f1:(0 < (s.m.length:Int))=False:=ff (by omega)
     have f2:(s.m.length=0)=True:=eq_true hs
     simp only [go_sem,↓reduceIte,aez,aeB,aeA,aeC,aeE,aeD,s1,l1,b1,b2,true_or,List.nil_append,List.length_nil,Nat.zero_add,List.length_cons,List.length_append,List.length_drop,s3,hw,e1,e2,hc,e3,hadd,f1,f2,c1]
     rw [if_pos (Nat.le_refl _)]
     exact ali (by rw [akl])
    ·have f1:(0 < (s.m.length:Int))=True:=tt (by omega)
     simp only [go_sem,↓reduceIte,aez,aeB,aeA,aeC,aeE,aeD,s1,l1,b1,b2,true_or,List.nil_append,List.length_nil,Nat.zero_add,List.length_cons,List.length_append,List.length_drop,s3,hw,e1,e2,hc,e3,hadd,f1,c2,hs]
     rw [if_pos (Nat.le_refl _)]
     refine ali ?_
     rw [List.set_eq_take_append_cons_drop,if_pos hlt,hexp]
     show ax _++ax [⟨t.exps,s⟩]++ax _=_
     rw [akl,akl,List.append_assoc]
     rfl
   ·have f1:(e=0)=False:=ff he
    simp only [go_sem,↓reduceIte,aez,aeB,aeA,aeC,aeE,aeD,s1,l1,b1,true_or,List.nil_append,List.length_nil,Nat.zero_add,List.length_cons,e1,e2,hc,e3,hadd,f1]
    rfl
  ·have e3:(bj q.exps t.exps=0)=False:=ff ho
   simp only [if_neg ho]
   simp only [go_sem,↓reduceIte,aez,aeB,aeA,aeC,aeE,aeD,s1,s2,l1,b1,b2,b3,true_or,List.nil_append,List.length_nil,Nat.zero_add,List.length_cons,List.length_append,List.length_drop,e1,e2,hc,e3]
   rw [if_pos (Nat.le_refl _)]
   exact ali (by rw [t0,akl,akl,List.append_assoc]; rfl)
end Go.Ab
namespace Go.Ab
open Go Go.IntWalk
set_option maxRecDepth 4000
set_option maxHeartbeats 1000000
end Go.Ab
namespace Go.Ab
open Go Go.IntWalk
set_option maxRecDepth 4000
set_option maxHeartbeats 1000000
def ae6:List Nat→List Nat→Bool
 | [],[]=>true
 | x::xs,y::ys=>decide (x=y) && ae6 xs ys
 | _,_=>false
theorem agB:∀ {a b:List Nat},ae6 a b=true↔a=b
 | [],[]=>by simp [ae6]
 | x::a,y::b=>by simp [ae6,agB]
 | [],_::_=>by simp [ae6]
 | _::_,[]=>by simp [ae6]
theorem asX {x y:Rd} (hl:x.m.length=y.m.length) (h2:x.m.length≤100000):∀ (k i:Nat),i+k=x.m.length→∀ (s:af) (h:aa),s 2=.ref 2 none 0 0 0→s 3=.ref 3 none 0 0 0→s 5=I i→h 2=.bx (aW x)→h 3=.bx (aW y) →
  ∃ hh,aI 0 [] (aU (az R (ab false) aiG) [2,3,5] [2,3] s h)=if ae6 (x.m.drop i) (y.m.drop i)=true then some (.normal,⟨fun _=>.any,hh⟩) else some (.ret,⟨upd (fun _=>.any) 4 (B false),hh⟩):=by
 intro k
 induction k with
 | zero =>
  intro i hi s h g2 g3 g5 k2 k3
  have e1:((i:Int) < x.m.length)=False:=ff (by omega)
  rw [List.drop_eq_nil_of_le (by omega),List.drop_eq_nil_of_le (by omega),aA]
  simp only [aW] at k2 k3
  refine ⟨?hh0,?_⟩
  rotate_left
  ·simp only [aiG,ae6,go_sem,↓reduceIte,aez,aeB,aeA,aeD,g2,g3,g5,k2,k3,e1]
   rfl
 | succ k ih =>
  intro i hi s h g2 g3 g5 k2 k3
  have hlt:i < x.m.length:=by omega
  have hlt2:i < y.m.length:=by omega
  have e1:((i:Int) < x.m.length)=True:=tt (by omega)
  have e2:bH (aP x.m) (i:Int)=some (.ipt [U (x.m.getD i 0:Nat)]):=df rfl hlt
  have e3:bH (aP y.m) (i:Int)=some (.ipt [U (y.m.getD i 0:Nat)]):=df rfl hlt2
  have e5:IntKind.i64.wrap ((i:Int)+1)=((i+1:Nat):Int):=wi (by omega) (by omega)
  have ih':=ih (i+1) (by omega)
  rw [List.drop_eq_getElem_cons hlt,List.drop_eq_getElem_cons hlt2,aA]
  have v1:x.m.getD i 0=x.m[i]:=by simp [List.getD,hlt]
  have v2:y.m.getD i 0=y.m[i]:=by simp [List.getD,hlt2]
  rw [v1] at e2
  rw [v2] at e3
  generalize x.m[i]=p at e2 ⊢
  generalize y.m[i]=q at e3 ⊢
  generalize aU _ _ _=L at ih' ⊢
  unfold ae6
  simp only [aW] at k2 k3
  by_cases hpq:p=q
  ·have e4:((p:Int)=(q:Int))=True:=tt (by omega)
   rw [decide_eq_true hpq,Bool.true_and]
   simp only [aiG,go_sem,↓reduceIte,aez,aeB,aeA,aeE,aeD,g2,g3,g5,k2,k3,e1,e2,e3,e4,e5]
   exact ih' _ _ rfl rfl rfl rfl rfl
  ·have e4:((p:Int)=(q:Int))=False:=ff (by omega)
   rw [decide_eq_false hpq,Bool.false_and]
   simp only [if_neg Bool.false_ne_true]
   refine ⟨?hh1,?_⟩
   rotate_left
   ·simp only [aiG,go_sem,↓reduceIte,aez,aeB,aeA,aeE,aeD,g2,g3,g5,k2,k3,e1,e2,e3,e4]
    rfl
theorem awb {x y:Rd} (hl:x.m.length=y.m.length) (h2:x.m.length≤100000) (s:af) (h:aa) (X:Option (Ex × St)) (hX:aI 0 [] (aU (az R (ab false) aiG) [2,3,5] [2,3] s h)=X) (g2:s 2=.ref 2 none 0 0 0) (g3:s 3=.ref 3 none 0 0 0) (g5:s 5=I 0) (k2:h 2=.bx [B x.neg,lm x.m,I x.e]) (k3:h 3=.bx [B y.neg,lm y.m,I y.e]) :
  ∃ hh,X=if ae6 x.m y.m=true then some (.normal,⟨fun _=>.any,hh⟩) else some (.ret,⟨upd (fun _=>.any) 4 (B false),hh⟩):=by
 subst hX
 exact asX hl h2 x.m.length 0 (Nat.zero_add _) s h g2 g3 g5 k2 k3
def amV (x y:Rd):Bool:=(x.neg == y.neg) && (decide (x.e=y.e) && ae6 x.m y.m)
theorem atQ {x y:Rd}:amV x y=true↔x=y:=by
 unfold amV
 rw [Bool.and_eq_true,Bool.and_eq_true,agB,beq_iff_eq,decide_eq_true_eq]
 constructor
 ·rintro ⟨h1,h2,h3⟩
  cases x
  cases y
  cases h1
  cases h2
  cases h3
  rfl
 ·rintro rfl
  exact ⟨rfl,rfl,rfl⟩
theorem agl:∀ {a b:List Nat},a.length ≠ b.length→ae6 a b=false
 | [],[],h=>absurd rfl h
 | x::a,y::b,h=>by
  unfold ae6
  rw [agl (fun e=>h (by simp [e])),Bool.and_false]
 | [],_::_,_=>rfl
 | _::_,[],_=>rfl
theorem asa {x y:Rd} (hx:x.m.length≤100000):R F.r23_number [aF x,aF y] []=some (B (amV x y),[]):=by
 refine aZ an9 an8 (amn false) rfl ?_
 unfold amV
 cases h1:(x.neg == y.neg) with
 | false =>
  have h4:(true != (x.neg == y.neg))=true:=by rw [h1]; rfl
  rw [Bool.false_and]
  simp only [aiL,ajx,aF,aW,go_sem,↓reduceIte,aez,aeB,aeA,h4]
 | true =>
  have h4:(true != (x.neg == y.neg))=false:=by rw [h1]; rfl
  rw [Bool.true_and]
  by_cases h2:x.e=y.e
  ·have e2:(x.e=y.e)=True:=eq_true h2
   rw [decide_eq_true h2,Bool.true_and]
   by_cases h3:x.m.length=y.m.length
   ·have e3:((x.m.length:Int)=(y.m.length:Int))=True:=tt (by omega)
    have hl:=awb (x:=x) (y:=y) h3 hx
    simp only [aiL,ajx,aF,aW,go_sem,↓reduceIte,aez,aeB,aeA,h4,e2,e3]
    generalize hX:aI 0 [] _=X
    obtain ⟨hh,rfl⟩:=hl _ _ _ hX rfl rfl rfl rfl rfl
    cases ae6 x.m y.m with
    | true =>
     simp only [go_sem,↓reduceIte]
    | false =>
     simp only [go_sem,↓reduceIte]
   ·have e3:((x.m.length:Int)=(y.m.length:Int))=False:=ff (by omega)
    rw [agl h3]
    simp only [aiL,ajx,aF,aW,go_sem,↓reduceIte,aez,aeB,aeA,h4,e2,e3]
  ·have e2:(x.e=y.e)=False:=eq_false h2
   rw [decide_eq_false h2,Bool.false_and]
   simp only [aiL,ajx,aF,aW,go_sem,↓reduceIte,aez,aeB,aeA,h4,e2]
def aju:List Rt→List Rt→Bool
 | [],[]=>true
 | x::xs,y::ys=>(decide (bj x.exps y.exps=0) && amV x.c y.c) && aju xs ys
 | _,_=>false
theorem ang:∀ {a b:List Rt},a.length ≠ b.length→aju a b=false
 | [],[],h=>absurd rfl h
 | x::a,y::b,h=>by
  unfold aju
  rw [ang (fun e=>h (by simp [e])),Bool.and_false]
 | [],_::_,_=>rfl
 | _::_,[],_=>rfl
theorem aoI {v:Int}:∀ {a b:List Rt},(∀ t ∈ a,VT v t)→(∀ t ∈ b,VT v t)→(aju a b=true↔a=b)
 | [],[],_,_=>by simp [aju]
 | x::a,y::b,ha,hb=>by
  have ih:=aoI (a:=a) (b:=b) (fun t ht=>ha t (by simp [ht])) (fun t ht=>hb t (by simp [ht]))
  have vx:=ha x (by simp)
  have vy:=hb y (by simp)
  unfold aju
  rw [Bool.and_eq_true,Bool.and_eq_true,decide_eq_true_eq,atQ,ih]
  constructor
  ·rintro ⟨⟨h1,h2⟩,rfl⟩
   have h3:=I4 (vx.l2 vy) h1
   cases x
   cases y
   cases h3
   cases h2
   rfl
  ·intro h
   cases h
   exact ⟨⟨Mg _,rfl⟩,rfl⟩
 | [],_::_,_,_=>by simp [aju]
 | _::_,[],_,_=>by simp [aju]
theorem asb {v:Int} {a b:Rp} (ha:∀ t ∈ a.terms,VT v t) (hb:∀ t ∈ b.terms,VT v t) (hl:a.terms.length=b.terms.length) (h2:a.terms.length≤100000):∀ (k i:Nat),i+k=a.terms.length→∀ (s:af) (h:aa),s 2=.ref 2 none 0 0 0→s 3=.ref 3 none 0 0 0→s 5=I i→h 2=.bx [I a.vars,.sl 4 (ax a.terms)]→h 3=.bx [I b.vars,.sl 4 (ax b.terms)] →
  ∃ hh,aI 0 [] (aU (az R (ab false) aiI) [2,3,5] [2,3] s h)=if aju (a.terms.drop i) (b.terms.drop i)=true then some (.normal,⟨fun _=>.any,hh⟩) else some (.ret,⟨upd (fun _=>.any) 4 (B false),hh⟩):=by
 intro k
 induction k with
 | zero =>
  intro i hi s h g2 g3 g5 k2 k3
  have e1:((i:Int) < a.terms.length)=False:=ff (by omega)
  rw [List.drop_eq_nil_of_le (by omega),List.drop_eq_nil_of_le (by omega),aA]
  refine ⟨?hh0,?_⟩
  rotate_left
  ·simp only [aiI,aju,go_sem,↓reduceIte,aez,aeB,aeA,aeD,g2,g3,g5,k2,k3,e1]
   rfl
 | succ k ih =>
  intro i hi s h g2 g3 g5 k2 k3
  have hlt:i < a.terms.length:=by omega
  have hlt2:i < b.terms.length:=by omega
  have e1:((i:Int) < a.terms.length)=True:=tt (by omega)
  have e2:bH (ax a.terms) (i:Int)=some (.ipt (bv a.terms[i])):=jx rfl (List.getElem?_eq_getElem hlt)
  have e3:bH (ax b.terms) (i:Int)=some (.ipt (bv b.terms[i])):=jx rfl (List.getElem?_eq_getElem hlt2)
  have e5:IntKind.i64.wrap ((i:Int)+1)=((i+1:Nat):Int):=wi (by omega) (by omega)
  have ih':=ih (i+1) (by omega)
  have vx:=ha _ (List.getElem_mem hlt)
  have vy:=hb _ (List.getElem_mem hlt2)
  rw [List.drop_eq_getElem_cons hlt,List.drop_eq_getElem_cons hlt2,aA]
  generalize a.terms[i]=x at e2 vx ⊢
  generalize b.terms[i]=y at e3 vy ⊢
  generalize aU _ _ _=L at ih' ⊢
  have hc:=alh vx vy
  have hnum:=asa (x:=x.c) (y:=y.c) (Nat.le_trans (xi vx.vc vx.c.lb) (by decide))
  have hle:((x.exps.length:Int)=(y.exps.length:Int))=True:=tt (by have:=vx.l2 vy; omega)
  unfold aju
  simp only [bv] at e2 e3
  simp only [aF,aW] at hnum
  by_cases ho:bj x.exps y.exps=0
  ·have e4:(bj x.exps y.exps=0)=True:=eq_true ho
   rw [decide_eq_true ho,Bool.true_and]
   cases hn:amV x.c y.c with
   | true =>
    rw [hn] at hnum
    rw [Bool.true_and]
    simp only [aiI,go_sem,↓reduceIte,aez,aeB,aeA,aeC,aeE,aeD,g2,g3,g5,k2,k3,e1,e2,e3,hle,hc,e4,hnum,e5]
    exact ih' _ _ rfl rfl rfl rfl rfl
   | false =>
    rw [hn] at hnum
    rw [Bool.false_and]
    simp only [if_neg Bool.false_ne_true]
    refine ⟨?hh1,?_⟩
    rotate_left
    ·simp only [aiI,go_sem,↓reduceIte,aez,aeB,aeA,aeC,aeE,aeD,g2,g3,g5,k2,k3,e1,e2,e3,hle,hc,e4,hnum]
     rfl
  ·have e4:(bj x.exps y.exps=0)=False:=eq_false ho
   rw [decide_eq_false ho,Bool.false_and,Bool.false_and]
   simp only [if_neg Bool.false_ne_true]
   refine ⟨?hh2,?_⟩
   rotate_left
   ·simp only [aiI,go_sem,↓reduceIte,aez,aeB,aeA,aeC,aeE,aeD,g2,g3,g5,k2,k3,e1,e2,e3,hle,hc,e4]
    rfl
theorem auR {v:Int} {a b:Rp} (ha:∀ t ∈ a.terms,VT v t) (hb:∀ t ∈ b.terms,VT v t) (hl:a.terms.length=b.terms.length) (h2:a.terms.length≤100000) (s:af) (h:aa) (X:Option (Ex × St)) (hX:aI 0 [] (aU (az R (ab false) aiI) [2,3,5] [2,3] s h)=X)
  (g2:s 2=.ref 2 none 0 0 0) (g3:s 3=.ref 3 none 0 0 0) (g5:s 5=I 0) (k2:h 2=.bx [I a.vars,.sl 4 (ax a.terms)]) (k3:h 3=.bx [I b.vars,.sl 4 (ax b.terms)]) :
  ∃ hh,X=if aju a.terms b.terms=true then some (.normal,⟨fun _=>.any,hh⟩) else some (.ret,⟨upd (fun _=>.any) 4 (B false),hh⟩):=by
 subst hX
 exact asb ha hb hl h2 a.terms.length 0 (Nat.zero_add _) s h g2 g3 g5 k2 k3
def anY (a b:Rp):Bool:=decide (a.vars=b.vars) && aju a.terms b.terms
theorem amW {a b:Rp} (ha:Cl a.vars a.terms) (hb:Cl b.vars b.terms) (h2:a.terms.length≤100000):R F.r23_Same [bm a,bm b] []=some (B (anY a b),[]):=by
 refine aZ apR apQ (ank false) rfl ?_
 unfold anY
 by_cases hv:a.vars=b.vars
 ·have e1:(a.vars=b.vars)=True:=eq_true hv
  rw [decide_eq_true hv,Bool.true_and]
  by_cases h3:a.terms.length=b.terms.length
  ·have e3:((a.terms.length:Int)=(b.terms.length:Int))=True:=tt (by omega)
   have hbt:=hb.t
   rw [← hv] at hbt
   have hl:=auR (a:=a) (b:=b) ha.t hbt h3 h2
   simp only [ajn,akB,bm,go_sem,↓reduceIte,aez,aeB,aeA,e1,e3]
   generalize hX:aI 0 [] _=X
   obtain ⟨hh,rfl⟩:=hl _ _ _ hX rfl rfl rfl rfl rfl
   cases aju a.terms b.terms with
   | true=>simp only [go_sem,↓reduceIte]
   | false=>simp only [go_sem,↓reduceIte]
  ·have e3:((a.terms.length:Int)=(b.terms.length:Int))=False:=ff (by omega)
   rw [ang h3]
   simp only [ajn,akB,bm,go_sem,↓reduceIte,aez,aeB,aeA,e1,e3]
 ·have e1:(a.vars=b.vars)=False:=eq_false hv
  rw [decide_eq_false hv,Bool.false_and]
  simp only [ajn,akB,bm,go_sem,↓reduceIte,aez,aeB,aeA,e1]
end Go.Ab
namespace Go.Ab
open Go Go.IntWalk
set_option maxRecDepth 4000
set_option maxHeartbeats 1000000
def uY (t:Rt):Bool:=decide (10 < t.c.m.length) || decide (20 < t.exps.length)
theorem KP {t:Rt}:R F.l23_great_1_1 [.agg (bv t)] []=some (B (uY t),[]):=by
 refine aZ A9 A8 (wW false) rfl ?_
 unfold uY
 by_cases h:10 < t.c.m.length
 ·have e1:(10 < (t.c.m.length:Int))=True:=tt (by omega)
  rw [decide_eq_true h,Bool.true_or]
  simp only [gP,oD,bv,go_sem,↓reduceIte,aez,aeB,aeA,e1]
 ·have e1:(10 < (t.c.m.length:Int))=False:=ff (by omega)
  rw [decide_eq_false h,Bool.false_or]
  have e2:decide ((20:Int) < (t.exps.length:Int))=decide (20 < t.exps.length):=by rw [decide_eq_decide]; omega
  simp only [gP,oD,bv,go_sem,↓reduceIte,aez,aeB,aeA,e1,e2]
theorem lmB (m:List Nat):(aP m).map (fun r=>match r with | [.v (.int _ x)]=>x.toNat | _=>0)=m:=by
 unfold aP
 rw [List.map_map]
 exact (List.map_congr_left (g:=fun c=>c) fun x _=>by simp).trans (List.map_id' _)
theorem izB (m:List Int):(aX m).map (fun r=>match r with | [.v (.int _ x)]=>x | _=>0)=m:=by
 unfold aX
 rw [List.map_map]
 exact (List.map_congr_left (g:=fun c=>c) fun x _=>by simp).trans (List.map_id' _)
def Dq:List AV→Rt
 | [.sl _ m1,.v (.bool n2),.sl _ m2,.v (.int _ e2)]=>⟨m1.map (fun r=>match r with | [.v (.int _ x)]=>x | _=>0),⟨n2,m2.map (fun r=>match r with | [.v (.int _ x)]=>x.toNat | _=>0),e2⟩⟩
 | _=>⟨[],fp⟩
theorem EY (t:Rt):Dq (bv t)=t:=by
 show (⟨(aX t.exps).map _,⟨t.c.neg,(aP t.c.m).map _,t.c.e⟩⟩:Rt)=t
 rw [lmB,izB]
theorem ON {l:List Rt} (h2:l.length < 4611686018427387904):R F.slices_ContainsFunc_api_Term_api_Term_ [.sl 4 (ax l),.fn F.l23_great_1_1 [] []] []=some (B (l.any uY),[]):=by
 have h1:=Bn (k:=4) (g:=true) (f:=F.l23_great_1_1) (rows:=ax l) (p:=fun r=>uY (Dq r)) lv lu (kg false) rfl (sv false) (by rw [gI]; omega) (fun row hr=>by
  simp only [ax,List.mem_map] at hr
  obtain ⟨t,ht,rfl⟩:=hr
  have hd:=KP (t:=t)
  refine ⟨.agg (bv t),rfl,rfl,?_⟩
  rw [EY]
  simp only [bv] at hd
  simp only [bv,go_sem,hd])
 have h2:=xS (k:=4) j8 j7 (iZ false) rfl (fk false) (kP false) (by simp only [go_sem]) h1
 have h3:(ax l).any (fun r=>uY (Dq r))=l.any uY:=by
  unfold ax
  rw [List.any_map]
  congr 1
  funext t
  exact congrArg uY (EY t)
 rw [h3] at h2
 exact h2
def mT (a:Rp):Bool:=(decide (40 < a.terms.length) && decide (a.terms.length≤500)) || a.terms.any uY
theorem Mq {a:Rp} (h2:a.terms.length < 4611686018427387904):R F.l23_great_1 [bm a] []=some (B (mT a),[]):=by
 refine aZ DO DN (yX false) rfl ?_
 have hc:=ON h2
 have nr:(ax a.terms).map (cf [.o 2 [],.o 0 [],.o 2 [],.o 0 []])=ax a.terms:=tN _
 unfold mT
 by_cases h:40 < a.terms.length
 ·have e1:(40 < (a.terms.length:Int))=True:=tt (by omega)
  rw [decide_eq_true h,Bool.true_and]
  by_cases h5:a.terms.length≤500
  ·have e2:((a.terms.length:Int)≤500)=True:=tt (by omega)
   rw [decide_eq_true h5,Bool.true_or]
   simp only [gC,mY,bm,go_sem,↓reduceIte,aez,aeB,aeA,e1,e2]
  ·have e2:((a.terms.length:Int)≤500)=False:=ff (by omega)
   rw [decide_eq_false h5,Bool.false_or]
   simp only [gC,mY,bm,go_sem,↓reduceIte,aez,aeB,aeA,e1,e2,hc]
 ·have e1:(40 < (a.terms.length:Int))=False:=ff (by omega)
  rw [decide_eq_false h,Bool.false_and,Bool.false_or]
  simp only [gC,mY,bm,go_sem,↓reduceIte,aez,aeB,aeA,e1,hc]
def Ji (a:Rp):List AV:=[I a.vars,.sl 4 (ax a.terms)]
def xx (l:List Rp):List (List AV):=l.map Ji
@[go_sem] theorem QR (l:List Rp):(xx l).length=l.length:=by simp [xx]
@[go_sem] theorem Z6 (l:List Rt):(ax l).map (cf [.o 2 [],.o 0 [],.o 0 [],.o 0 []])=ax l:=by
 refine qo fun x hx=>?_
 simp only [ax,List.mem_map] at hx
 obtain ⟨t,ht,rfl⟩:=hx
 simp only [bv,go_sem]
@[go_sem] theorem acA (l:List Rp):(xx l).map (cf [.o 0 [],.o 5 [.o 2 [],.o 0 [],.o 0 [],.o 0 []]])=xx l:=by
 refine qo fun x hx=>?_
 simp only [xx,List.mem_map] at hx
 obtain ⟨t,ht,rfl⟩:=hx
 simp only [Ji,go_sem]
def SC:List AV→Rp
 | [.v (.int _ v),.sl _ r]=>⟨v,r.map Dq⟩
 | _=>p0
theorem PK (a:Rp):SC (Ji a)=a:=by
 show (⟨a.vars,(ax a.terms).map Dq⟩:Rp)=a
 have h:(ax a.terms).map Dq=a.terms:=by
  unfold ax
  rw [List.map_map]
  exact (List.map_congr_left (g:=fun c=>c) fun x _=>EY x).trans (List.map_id' _)
 rw [h]
theorem OO {l:List Rp} (hl:l.length≤10) (h2:∀ a ∈ l,a.terms.length < 4611686018427387904):R F.l23_great [.sl 2 (xx l)] []=some (B (l.any mT),[]):=by
 refine aZ Ij Ii (B7 false) rfl ?_
 have h1:=Bn (k:=2) (g:=true) (f:=F.l23_great_1) (rows:=xx l) (p:=fun r=>mT (SC r)) ls lr (kf false) rfl (vI false) (by rw [QR]; omega) (fun row hr=>by
  simp only [xx,List.mem_map] at hr
  obtain ⟨t,ht,rfl⟩:=hr
  have hd:=Mq (h2 t ht)
  refine ⟨.agg (Ji t),rfl,rfl,?_⟩
  rw [PK]
  simp only [bm] at hd
  simp only [Ji,go_sem,hd])
 have h2:=xS (k:=2) j5 j3 (iY false) rfl (fj false) (kO false) (by simp only [go_sem]) h1
 have h3:(xx l).any (fun r=>mT (SC r))=l.any mT:=by
  unfold xx
  rw [List.any_map]
  congr 1
  funext t
  exact congrArg mT (PK t)
 rw [h3] at h2
 simp only [oB,yE,go_sem,↓reduceIte,aez,aeB,aeA,h2]
theorem HC {a:Rp} (oc:∀ t ∈ a.terms,Ok0 t.c) (h:mT a=false):OkP a:=by
 unfold mT at h
 rw [Bool.or_eq_false_iff] at h
 refine ⟨fun t ht=>⟨oc t ht,?_⟩⟩
 have:=List.any_eq_false.1 h.2 t ht
 unfold uY at this
 simp at this
 omega
def aqQ (a:Rp):Bool:=decide (a.vars=0) && decide (a.terms.length=0)
theorem atS {a:Rp}:R F.l23_zero [bm a] []=some (B (aqQ a),[]):=by
 refine aZ ap0 apZ (anq false) rfl ?_
 unfold aqQ
 by_cases h:a.vars=0
 ·have e1:(a.vars=0)=True:=eq_true h
  rw [decide_eq_true h,Bool.true_and]
  by_cases h2:a.terms.length=0
  ·have e2:((a.terms.length:Int)=0)=True:=tt (by omega)
   rw [decide_eq_true h2]
   simp only [ajp,akD,bm,go_sem,↓reduceIte,aez,aeB,aeA,e1,e2]
  ·have e2:((a.terms.length:Int)=0)=False:=ff (by omega)
   rw [decide_eq_false h2]
   simp only [ajp,akD,bm,go_sem,↓reduceIte,aez,aeB,aeA,e1,e2]
 ·have e1:(a.vars=0)=False:=eq_false h
  rw [decide_eq_false h,Bool.false_and]
  simp only [ajp,akD,bm,go_sem,↓reduceIte,aez,aeB,aeA,e1]
structure Res (r:Rp × Int):Prop where
 cl:Cl r.1.vars r.1.terms
 len:r.1.terms.length≤100000
 z:r.2=0∨r.1=p0
theorem alj {a:Rp} (h:Cl a.vars a.terms):anY a a=true:=by
 unfold anY
 rw [decide_eq_true rfl,Bool.true_and,(aoI h.t h.t).2 rfl]
theorem aqR {r:Rp × Int} (h:Res r):R F.l23_is [bm r.1,I r.2,bm r.1,I r.2] []=some (B true,[]):=by
 refine aZ asq asp (aoU false) rfl ?_
 have h1:=amW h.cl h.cl h.len
 rw [alj h.cl] at h1
 have h2:=atS (a:=r.1)
 obtain ⟨⟨v,l⟩,e⟩:=r
 simp only [bm] at h1 h2
 by_cases he:e=0
 ·subst he
  simp only [akt,alT,bm,go_sem,↓reduceIte,aez,aeB,aeA,aeC,h1]
 ·have e1:(e=0)=False:=eq_false he
  have hz:aqQ ⟨v,l⟩=true:=by
   rcases h.z with h3 | h3
   ·exact absurd h3 he
   ·cases h3
    rfl
  rw [hz] at h2
  simp only [akt,alT,bm,go_sem,↓reduceIte,aez,aeB,aeA,aeC,h1,h2,e1]
end Go.Ab
namespace Go.Ab
open Go Go.IntWalk
set_option maxRecDepth 4000
set_option maxHeartbeats 2000000
theorem Jj (l:List Int) (n:Nat) (x:Int):(aX l).set n [I x]=aX (l.set n x):=by simp [aX,List.map_set]
def sA (a b:List Int) (i:Nat):List Int:=(bI a b).take i++a.drop i
end Go.Ab
namespace Go.Ab
open Go Go.IntWalk
set_option maxRecDepth 4000
set_option maxHeartbeats 4000000
theorem ColE.stepN {v:Int} {l:List Rt} {t:Rt} {c:AV} (hc:nS c l) {e:Int} (he:e=0∨e=9) (N:Nat) (hC:e=0→Cl v l∧l.length+N+1≤1000000) (vt:VT v t) {v':Int} :
  ∃ c1 l1 e1,R F.poly_collector_add [.ref 1000 none 0 0 0,.sl 1 (aX t.exps),aF t.c] [t3 v' c e]=some (.tup [],[t3 v' c1 e1])∧nS c1 l1∧(e1=0∨e1=9)∧(e1=0→Cl v l1∧l1.length+N≤1000000)∧∀ ts c' l' e',ColE v l1 ts e1 c' l' e'→ColE v l (t::ts) e c' l' e':=by
 obtain ⟨c1,l1,e1,g1,g2,g3,g4,_⟩:=ColE.step (ts:=List.replicate N t) hc he (by rw [List.length_replicate]; exact hC) vt (v':=v')
 rw [List.length_replicate] at g4
 refine ⟨c1,l1,e1,g1,g2,g3,g4,fun ts c' l' e' h=>?_⟩
 rcases he with rfl | rfl
 ·obtain ⟨h1,h2⟩:=hC rfl
  obtain ⟨c2,l2,e2,k1,k2,k3⟩:=I9 (v':=v') h1 vt (by omega) hc
  rw [k1] at g1
  simp only [Option.some.injEq,Prod.mk.injEq,List.cons.injEq,and_true,true_and,t3,Ob.bx.injEq,AV.v.injEq,Value.int.injEq] at g1
  obtain ⟨rfl,rfl⟩:=g1
  have hl:l2=l1:=by
   rcases k2 with rfl | ⟨rfl,rfl⟩
   ·rcases g2 with g2 | ⟨g2,_⟩
    ·simp only [AV.osl.injEq,true_and] at g2
     have:=congrArg (List.map Dq) g2
     unfold ax at this
     rw [List.map_map,List.map_map] at this
     have hid:∀ l:List Rt,l.map (Dq ∘ bv)=l:=fun l=>(List.map_congr_left (g:=fun c=>c) fun x _=>EY x).trans (List.map_id' l)
     rw [hid,hid] at this
     exact this
    ·cases g2
   ·rcases g2 with g2 | ⟨_,g2⟩
    ·cases g2
    ·exact g2.symm
  subst hl
  refine ⟨h.c,?_⟩
  rcases k3 with ⟨g,k⟩ | ⟨g,k,_⟩
  ·subst g
   rcases h.r with ⟨q1,_,q2⟩ | ⟨q1,q2⟩
   ·refine .inl ⟨q1,rfl,?_⟩
    unfold ej
    rw [k]
    exact q2
   ·refine .inr ⟨q1,fun _=>?_⟩
    unfold ej
    rw [k]
    exact q2 rfl
  ·subst g
   rcases h.r with ⟨_,q1,_⟩ | ⟨q1,_⟩
   ·omega
   ·refine .inr ⟨q1,fun _=>?_⟩
    unfold ej
    rw [k]
    rfl
 ·refine ⟨h.c,?_⟩
  have:=Hp (v:=v') (x:=.sl 1 (aX t.exps)) (d:=t.c) hc (by decide:(9:Int) ≠ 0)
  rw [this] at g1
  simp only [Option.some.injEq,Prod.mk.injEq,List.cons.injEq,and_true,true_and,t3,Ob.bx.injEq,AV.v.injEq,Value.int.injEq] at g1
  obtain ⟨_,rfl⟩:=g1
  rcases h.r with ⟨_,q1,_⟩ | ⟨q1,_⟩
  ·omega
  ·exact .inr ⟨q1,fun h=>by omega⟩
end Go.Ab
namespace Go.Ab
open Go Go.IntWalk
set_option maxRecDepth 4000
set_option maxHeartbeats 4000000
theorem ColE.app {v:Int} {l r r2:List Rt} {e:Int} {c1:AV} {l1:List Rt} {e1:Int} {c':AV} {l':List Rt} {e':Int} (h1:ColE v l r e c1 l1 e1) (h2:ColE v l1 r2 e1 c' l' e'):ColE v l (r++r2) e c' l' e':=by
 refine ⟨h2.c,?_⟩
 rw [Hm]
 rcases h1.r with ⟨a1,a2,a3⟩ | ⟨a1,a2⟩
 ·rw [a3]
  rcases h2.r with ⟨b1,b2,b3⟩ | ⟨b1,b2⟩
  ·exact .inl ⟨b1,a2,b3⟩
  ·exact .inr ⟨b1,fun _=>b2 a1⟩
 ·rcases h2.r with ⟨b1,b2,b3⟩ | ⟨b1,b2⟩
  ·omega
  ·exact .inr ⟨b1,fun h=>by rw [a2 h]; rfl⟩
theorem ColE.nx {v:Int} {l r:List Rt} {e:Int} {c1:AV} {l1:List Rt} {e1:Int} (h:ColE v l r e c1 l1 e1) (hC:e=0→Cl v l) (hr:∀ t ∈ r,VT v t):(e1=0∨e1=9)∧(e1=0→e=0∧Cl v l1∧l1.length≤l.length+r.length):=by
 rcases h.r with ⟨a1,a2,a3⟩ | ⟨a1,a2⟩
 ·exact ⟨.inl a1,fun _=>⟨a2,ri (hC a2) hr a3⟩⟩
 ·exact ⟨.inr a1,fun h=>by omega⟩
end Go.Ab
namespace Go.Ab
open Go Go.IntWalk
set_option maxRecDepth 4000
set_option maxHeartbeats 4000000
end Go.Ab
namespace Go.Ab
open Go Go.IntWalk
set_option maxRecDepth 4000
set_option maxHeartbeats 1000000
theorem Aj {l:List Int} {i:Nat} (h:i < l.length):l.getD i 0 ∈ l:=by
 rw [List.getD_eq_getElem?_getD,List.getElem?_eq_getElem h]
 exact List.getElem_mem h
end Go.Ab
namespace Go.Ab
open Go Go.IntWalk
set_option maxRecDepth 4000
set_option maxHeartbeats 4000000
theorem ColE.nil {v:Int} {l:List Rt} {c:AV} {e:Int} (hc:nS c l) (he:e=0∨e=9):ColE v l [] e c l e:=by
 refine ⟨hc,?_⟩
 rcases he with rfl | rfl
 ·exact .inl ⟨rfl,rfl,rfl⟩
 ·exact .inr ⟨rfl,fun h=>by omega⟩
end Go.Ab
namespace Go.Ab
open Go Go.IntWalk
set_option maxRecDepth 4000
set_option maxHeartbeats 4000000
theorem akm (l:List Rt) (t:Rt):ax l++[bv t]=ax (l++[t]):=by simp [ax]
end Go.Ab
namespace Go.Ab
open Go Go.IntWalk
set_option maxRecDepth 4000
set_option maxHeartbeats 4000000
end Go.Ab
namespace Go.Ab
open Go Go.IntWalk
set_option maxRecDepth 4000
set_option maxHeartbeats 4000000
end Go.Ab
