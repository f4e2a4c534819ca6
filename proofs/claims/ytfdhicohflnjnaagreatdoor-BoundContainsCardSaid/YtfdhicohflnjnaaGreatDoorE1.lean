/-
  A law of ranges holds at every input that the statement speaks of, under the conditions that its card names. Part E1.
-/
import Derived.Test.YtfdhicohflnjnaaGreatDoorD1
open Nat renaming reduceAdd → am3, reduceMul → am4, reduceLeDiff → am5, reduceLT → am6, reduceBEq → am7, reduceSub → anc, reduceMod → ane
open Int renaming reduceLT → am8, reduceToNat → am9, reduceLE → ana, reduceEq → anb
set_option linter.all false
namespace Go.Ab
open Go Go.IntWalk
set_option maxRecDepth 4000
set_option maxHeartbeats 8000000
theorem Vf {a:List Nat} (ha:Lb a) {n q:Nat} (h1:a.length≤100000) (hq:q≤100000):∀ (k i:Nat),i+k=a.length→∀ (s:ae) (h:ac),s 0=lm a→s 1=I (n:Nat)→s 5=.rsl 11 none 1 0 (q+i)→s 6=W (dR a (n % 32) i:Nat)→s 7=I i →
  h 11=.ar 1 (az (List.replicate q 0++jM a (n % 32) i))→h 34=.dead →
  ap 0 [5,6] (aq (ak R (aG false) qB) [0,1,5,6,7] [11,34] s h) =
   some (.normal,⟨upd (upd (fun _=>.any) 6 (W (dR a (n % 32) a.length:Nat))) 5 (.rsl 11 none 1 0 (q+a.length)),upd (upd (fun _=>.dead) 34 .dead) 11 (.ar 1 (az (List.replicate q 0++jM a (n % 32) a.length)))⟩):=by
 intro k;induction k with
 | zero =>
  intro i hi s h h0 g1 h5 h6 h7 hh hh2;have:i=a.length:=by omega
  subst this;rw [ai];simp only [qB,go_sem,am7,h0,g1,h5,h6,h7,hh,hh2,Int.lt_irrefl]
 | succ k ih =>
  intro i hi s h h0 g1 h5 h6 h7 hh hh2;have ih':=ih (i+1) (by omega);have hx:=bt ha i;have hc:=zW ha (r:=n % 32) i;have hp:2 ^ (n % 32)≤2 ^ 31:=Nat.pow_le_pow_right (by omega) (by omega);have hxp:a.getD i 0*2 ^ (n % 32)≤4294967295*2 ^ 31:=Nat.mul_le_mul (by omega) hp;have e1:((i:Int) < (a.length:Int))=True:=tt (by omega);have e2:aZ (az a) (i:Int)=some (.ipt [U (a.getD i 0:Nat)]):=bh rfl (by omega);have e3:IntKind.i64.wrap ((i:Int)+1)=((i+1:Nat):Int):=wi (by omega) (by omega);have e4:IntKind.u64.wrap (a.getD i 0:Int)=(a.getD i 0:Int):=cI rfl (by omega);have e5:=wt (n:=n) (m:=32) (j:=32) rfl rfl (by omega);have e5':IntKind.u64.wrap ((n % 32:Nat):Int)=((n % 32:Nat):Int):=cI rfl (by omega);have e6:=yq (n:=a.getD i 0) (k:=n % 32) (kk:=.u64) (j:=((n % 32:Nat):Int)) rfl rfl (by omega) (by omega);have e7:=FJ (m:=a.getD i 0*2 ^ (n % 32)) (n:=dR a (n % 32) i) rfl rfl (by omega) (by omega);rw [xE hc] at e7;have e10:=xK (n:=a.getD i 0*2 ^ (n % 32)+dR a (n % 32) i) rfl (by omega);have e8:IntKind.u32.wrap (((a.getD i 0*2 ^ (n % 32)+dR a (n % 32) i) % 4294967296:Nat):Int)=(((a.getD i 0*2 ^ (n % 32)+dR a (n % 32) i) % 4294967296:Nat):Int):=vN rfl (by omega);have e9:=mr (n:=a.getD i 0*2 ^ (n % 32)+dR a (n % 32) i) (k:=32) (kk:=.u64) (j:=32) rfl rfl (by omega);have f1:az (List.replicate q 0++jM a (n % 32) i)++[[U ((a.getD i 0*2 ^ (n % 32)+dR a (n % 32) i) % 4294967296:Nat)]]=az (List.replicate q 0++jM a (n % 32) (i+1)):=by
   simp_all [U,dR,az,wl,List.append_assoc,jM,List.range_succ]
  have f2:(q+i=(List.replicate q 0++jM a (n % 32) i).length)=True:=tt (by simp [pC]);have f3:((q+i+1)*4≤140737488355328)=True:=tt (by omega);rw [ai];simp only [qB,go_sem,am5,am6,am7,h0,g1,h5,h6,h7,hh,hh2,e1,e2,e3,e4,e5,e5',e6,e7,e8,e9,e10,f1,f2,f3,true_or,Nat.zero_add,Nat.le_refl];exact ih' _ _ rfl rfl rfl rfl rfl rfl rfl
theorem NJ {a:List Nat} (ha:Lb a) {n:Nat} (h1:a.length≤10000) (hn:n≤100000):R F.r02_left [lm a,I n] []=some (lm (ao (aa a*2 ^ n)),[]):=by
 refine aE SU rfl ?_;have hc:=zW ha (r:=n % 32) a.length;have hp:2 ^ (n % 32)≤2 ^ 31:=Nat.pow_le_pow_right (by omega) (by omega);have e1:=wu (n:=n) (m:=32) (j:=32) rfl rfl (by omega) (by omega);have e4:=lO (i:=((n / 32:Nat):Int)) (j:=((n / 32:Nat):Int)) rfl rfl (Nat.le_refl _) (by omega);have e5:(n / 32*4≤140737488355328)=True:=tt (by omega);have e6:=Vf ha (n:=n) (q:=n / 32) (by omega) (by omega) a.length 0 (by omega);have e7:az (List.replicate (n / 32) 0)=az (List.replicate (n / 32) 0++jM a (n % 32) 0):=by simp [jM]
 have e8:IntKind.u32.wrap ((dR a (n % 32) a.length:Nat):Int)=((dR a (n % 32) a.length:Nat):Int):=vN rfl (by omega);have hall:=Qq ha n;have f1:az (List.replicate (n / 32) 0++jM a (n % 32) a.length)++[[U (dR a (n % 32) a.length:Nat)]]=az (cB (n / 32+a.length+1) (aa a*2 ^ n)):=by
  rw [← hall,show [[U (dR a (n % 32) a.length:Nat)]]=az [dR a (n % 32) a.length] from rfl,wl]
 have f2:(n / 32+a.length=(List.replicate (n / 32) 0++jM a (n % 32) a.length).length)=True:=tt (by simp [pC]);have f3:((n / 32+a.length+1)*4≤140737488355328)=True:=tt (by omega);have ht:=xL (jS (n / 32+a.length+1) (aa a*2 ^ n)) (by grind);have hv:aa (cB (n / 32+a.length+1) (aa a*2 ^ n))=aa a*2 ^ n:=by
  rw [iw,Nat.mod_eq_of_lt];have h:=bR ha;have h2:2 ^ n≤4294967296 ^ (n / 32+1):=by
   rw [show (4294967296:Nat)=2 ^ 32 from rfl,← Nat.pow_mul];exact Nat.pow_le_pow_right (by omega) (by omega)
  rw [show n / 32+a.length+1=a.length+(n / 32+1) from by omega,Nat.pow_add];exact Nat.mul_lt_mul_of_lt_of_le h h2 (Nat.pow_pos (by omega))
 rw [hv] at ht;have f4:(az (cB (n / 32+a.length+1) (aa a*2 ^ n))).take (n / 32+a.length+1)=az (cB (n / 32+a.length+1) (aa a*2 ^ n)):=by
  rw [List.take_of_length_le];rw [IH,bK];omega
 simp only [yS,GK,go_sem,e1,e4,e5,tI,e7];rw [e6 _ _ rfl rfl rfl rfl rfl rfl rfl];simp only [go_sem,am4,am3,am5,am6,e8,f1,f2,f3,f4,true_or,Nat.zero_add,Nat.le_refl,bK,ht]
def yz (d:Nat) (out:List Nat) (x:AV) (o:Ob):Prop:=(out=[]∧x=.emp∧o=.dead)∨(0 < out.length∧x=.rsl d none 1 0 out.length∧o=.ar 1 (az out))
theorem tL {d v:Nat}:yz d ([]++[v]) (.rsl d none 1 0 1) (.ar 1 [[U (v:Nat)]]):=Or.inr ⟨by simp,rfl,rfl⟩
theorem qR {d v:Nat} {out:List Nat}:yz d (out++[v]) (.rsl d none 1 0 (out.length+1)) (.ar 1 (az (out++[v]))):=Or.inr ⟨by simp,by grind,rfl⟩
theorem oR (out:List Nat) (v:Nat):az out++[[U (v:Nat)]]=az (out++[v]):=by simp [az]
theorem Vg (a:List Nat) (r i:Nat):ix a r (i+1)=ix a r i++[oL a r i]:=by simp [ix,List.range_succ]
theorem Td {a:List Nat} (ha:Lb a) {n:Nat} (h1:a.length≤100000):∀ (k i:Nat),i+k=a.length→∀ (s:ae) (h:ac),s 0=lm a→s 1=I (n:Nat)→s 6=I i→yz 51 (ix a (n % 32) i) (s 5) (h 51) →
  ∃ x hh,ap 0 [5] (aq (ak R (aG false) dB) [0,1,5,6] [51] s h)=some (.normal,⟨upd (fun _=>.any) 5 x,hh⟩)∧yz 51 (ix a (n % 32) a.length) x (hh 51)∧∀ a,a ≠ 51→hh a=.dead:=by
 intro k;induction k with
 | zero =>
  intro i hi s h h0 g1 h6 hacc;have:i=a.length:=by omega
  subst this;rw [ai];rcases hacc with ⟨g2,h5,hh⟩ | ⟨g2,h5,hh⟩
  ·refine ⟨.emp,?hh0,?_,Or.inl ⟨g2,rfl,?_⟩,?_⟩;rotate_left
   ·simp only [dB,go_sem,h0,g1,h5,h6,hh,Int.lt_irrefl];rfl
   all_goals simp_all [acj,if_false]
  ·refine ⟨.rsl 51 none 1 0 (ix a (n % 32) a.length).length,?hh1,?_,Or.inr ⟨g2,rfl,?_⟩,?_⟩;rotate_left
   ·simp only [dB,go_sem,am7,h0,g1,h5,h6,hh,Int.lt_irrefl];rfl
   all_goals simp_all [acj,if_false]
 | succ k ih =>
  intro i hi s h h0 g1 h6 hacc;have ih':=ih (i+1) (by omega);have hx:=bt ha i;have hy:=bt ha (i+1);have hr:n % 32 < 32:=Nat.mod_lt _ (by omega);have e1:((i:Int) < (a.length:Int))=True:=tt (by omega);have e2:aZ (az a) (i:Int)=some (.ipt [U (a.getD i 0:Nat)]):=bh rfl (by omega);have e3:IntKind.i64.wrap ((i:Int)+1)=((i+1:Nat):Int):=wi (by omega) (by omega);have e4:IntKind.u64.wrap (a.getD i 0:Int)=(a.getD i 0:Int):=cI rfl (by omega);have e5:=wt (n:=n) (m:=32) (j:=32) rfl rfl (by omega);have e5':IntKind.u64.wrap ((n % 32:Nat):Int)=((n % 32:Nat):Int):=cI rfl (by omega);have q1:((ix a (n % 32) i).length+1)*4≤140737488355328:=by grind [m7]
  have f3:=tt q1;have hlt:∀ w:Nat,w < 18446744073709551616→w / 2 ^ (n % 32) < 18446744073709551616:=fun w hw=>Nat.lt_of_le_of_lt (Nat.div_le_self _ _) hw;rw [ai];rw [Vg] at ih';generalize aq _ _ _=L at ih' ⊢;by_cases hl:i+1 < a.length
  ·have f1:(((i+1:Nat):Int) < (a.length:Int))=True:=tt (by omega);have f2:aZ (az a) ((i+1:Nat):Int)=some (.ipt [U (a.getD (i+1) 0:Nat)]):=bh rfl hl;have f5:IntKind.u64.wrap (a.getD (i+1) 0:Int)=(a.getD (i+1) 0:Int):=cI rfl (by omega);have f6:=yq (n:=a.getD (i+1) 0) (k:=32) (kk:=.u64) (j:=32) rfl rfl (by omega) (by omega);have f7:=FJ (m:=a.getD i 0) (n:=a.getD (i+1) 0*2 ^ 32) rfl rfl (by omega) (by omega);rw [Nat.or_comm,xE hx,show a.getD (i+1) 0*2 ^ 32+a.getD i 0=a.getD i 0+4294967296*a.getD (i+1) 0 by omega] at f7;have f8:=mr (n:=a.getD i 0+4294967296*a.getD (i+1) 0) (k:=n % 32) (kk:=.u64) (j:=((n % 32:Nat):Int)) rfl rfl (by omega);have f9:=xK (n:=(a.getD i 0+4294967296*a.getD (i+1) 0) / 2 ^ (n % 32)) rfl (hlt _ (by omega));rw [show (a.getD i 0+4294967296*a.getD (i+1) 0) / 2 ^ (n % 32) % 4294967296=oL a (n % 32) i from rfl] at f9;have f10:IntKind.u32.wrap ((oL a (n % 32) i:Nat):Int)=((oL a (n % 32) i:Nat):Int):=vN rfl (Nat.mod_lt _ (by omega));rcases hacc with ⟨g2,h5,hh⟩ | ⟨g2,h5,hh⟩
   ·simp only [dB,go_sem,am4,am3,am5,am6,h0,g1,h5,h6,hh,e1,e2,e3,e4,e5,e5',f1,f2,f5,f6,f7,f8,f9,f10];rw [g2] at ih';exact ih' _ _ rfl rfl rfl tL
   ·simp only [dB,go_sem,am5,am6,am7,h0,g1,h5,h6,hh,e1,e2,e3,e4,e5,e5',f1,f2,f3,f5,f6,f7,f8,f9,f10,true_or,Nat.zero_add,Nat.le_refl,oR];exact ih' _ _ rfl rfl rfl qR
  ·have f1:(((i+1:Nat):Int) < (a.length:Int))=False:=ff (by omega);have hz:a.getD (i+1) 0=0:=by
    grind
   have f8:=mr (n:=a.getD i 0) (k:=n % 32) (kk:=.u64) (j:=((n % 32:Nat):Int)) rfl rfl (by omega);have f9:=xK (n:=a.getD i 0 / 2 ^ (n % 32)) rfl (hlt _ (by omega));rw [show a.getD i 0 / 2 ^ (n % 32) % 4294967296=oL a (n % 32) i by simp_all [oL,Nat.mul_zero,Nat.add_zero]] at f9;have f10:IntKind.u32.wrap ((oL a (n % 32) i:Nat):Int)=((oL a (n % 32) i:Nat):Int):=vN rfl (Nat.mod_lt _ (by omega));rcases hacc with ⟨g2,h5,hh⟩ | ⟨g2,h5,hh⟩
   ·simp only [dB,go_sem,am4,am3,am5,am6,h0,g1,h5,h6,hh,e1,e2,e3,e4,e5,e5',f1,f8,f9,f10];rw [g2] at ih';exact ih' _ _ rfl rfl rfl tL
   ·simp only [dB,go_sem,am5,am6,am7,h0,g1,h5,h6,hh,e1,e2,e3,e4,e5,e5',f1,f3,f8,f9,f10,true_or,Nat.zero_add,Nat.le_refl,oR];exact ih' _ _ rfl rfl rfl qR
theorem FR (m:List Nat):(az m).take m.length=az m:=by
 simp_all [List.take_of_length_le,IH,Nat.le_refl]
theorem Vh {a:List Nat} (ha:Lb a) {n:Nat} (h1:a.length≤10000) (hn:n≤1000000):R F.r02_right [lm a,I n] []=some (lm (ao (aa a / 2 ^ n)),[]):=by
 refine aE PS rfl ?_;have e1:=wu (n:=n) (m:=32) (j:=32) rfl rfl (by omega) (by omega);by_cases hq:a.length≤n / 32
 ·have e2:((a.length:Int)≤((n / 32:Nat):Int))=True:=tt (by omega);have hz:aa a / 2 ^ n=0:=by
   rw [← re n,← Nat.div_div_eq_div_mul,← qP ha,List.drop_of_length_le hq];exact Nat.zero_div _
  rw [hz,ef];simp only [sf,yV,go_sem,e1,e2]
 ·have e2:((a.length:Int)≤((n / 32:Nat):Int))=False:=ff (by omega);have e3:eu 1 (lm a) (some (I (n / 32:Nat))) none none=some (lm (a.drop (n / 32))):=by
   rw [CL (a:=n / 32) (b:=a.length) (oJ rfl (by omega)) rfl (Nat.le_refl _),List.take_of_length_le (by grind)]
  have hd:=jh ha (n / 32);have hl:(a.drop (n / 32)).length≤10000:=by grind
  have hv:aa a / 2 ^ n=aa (a.drop (n / 32)) / 2 ^ (n % 32):=by
   rw [qP ha,Nat.div_div_eq_div_mul,re]
  rw [hv];have hr:=Td hd (n:=n) (by omega) (a.drop (n / 32)).length 0 (Nat.zero_add _);have hall:=Nk hd (r:=n % 32) (by omega);have hL:=m7 (a.drop (n / 32)) (n % 32) (a.drop (n / 32)).length;have hLb:Lb (ix (a.drop (n / 32)) (n % 32) (a.drop (n / 32)).length):=by
   grind [jS]
  have hvv:aa (ix (a.drop (n / 32)) (n % 32) (a.drop (n / 32)).length)=aa (a.drop (n / 32)) / 2 ^ (n % 32):=by
   rw [hall,iw,Nat.mod_eq_of_lt];exact Nat.lt_of_le_of_lt (Nat.div_le_self _ _) (bR hd)
  generalize a.drop (n / 32)=m at e3 hd hl hr hall hL hLb hvv ⊢;have ht:=xL hLb (by omega);rw [hvv] at ht;have q0:yz 51 (ix m (n % 32) 0) .emp .dead:=Or.inl ⟨rfl,rfl,rfl⟩;generalize hLL:aq (ak R (aG false) dB) [0,1,5,6] [51]=L at hr;have hX:∀ s h,ak R (aG false) (.loop [0,1,5,6] [51] dB) s h=L s h:=fun s h=>by rw [← hLL]; rfl
  generalize ix m (n % 32) m.length=out at hr hall hL hLb hvv ht;have hr2:∀ (S:ae) (H:ac) (X:Option (Ex × St)),ap 0 [5] (L S H)=X→S 0=lm m→S 1=I n→S 6=I 0→S 5=.emp→H 51=.dead→∃ x hh,X=some (.normal,⟨upd (fun _=>.any) 5 x,hh⟩)∧yz 51 out x (hh 51)∧∀ a,a ≠ 51→hh a=.dead:=fun S H X hX a0 a1 a6 a5 b=>by
   rw [← hX];exact hr S H a0 a1 a6 (by grind)
  simp only [sf,yV,hX,go_sem,e1,e2,e3];generalize hB:ap 0 [5] (L _ _)=X;obtain ⟨x,hh,g0,hacc,gd⟩:=hr2 _ _ _ hB rfl rfl rfl rfl rfl;rw [g0];rcases hacc with ⟨c1,c2,c3⟩ | ⟨c1,c2,c3⟩
  ·rw [c1] at ht;simp only [go_sem,am4,am3,c2,ht,ne_eq,not_false_eq_true,gd]
  ·simp only [go_sem,am4,am3,c2,c3,ht,ne_eq,not_false_eq_true,gd,FR,Nat.zero_add,Nat.le_refl]
theorem I9 {m:List Nat} {i:Nat} (h:m.length≤i):m.getD i 0=0:=by
 grind
theorem Vi (a b:List Nat) (i:Nat):bV a b (i+1)=bV a b i++[vA a b i]:=by simp [bV,List.range_succ]
theorem Vj (a b:List Nat) (i:Nat):fO a b (i+1)=fO a b i++[xD a b i]:=by simp [fO,List.range_succ]
theorem Vk {a b:List Nat} (ha:Lb a) (hb:Lb b) (h1:a.length≤100000) (h2:b.length≤100000):∀ (k i:Nat),i+k=max a.length b.length→∀ (s:ae) (h:ac),s 0=lm a→s 1=lm b→s 6=W (cry a b i:Nat)→s 7=I i→yz 49 (bV a b i) (s 5) (h 49) →
  ∃ x hh,ap 0 [5,6] (aq (ak R (aG false) cV) [0,1,5,6,7] [49] s h)=some (.normal,⟨upd (upd (fun _=>.any) 6 (W (cry a b (max a.length b.length):Nat))) 5 x,hh⟩)∧yz 49 (bV a b (max a.length b.length)) x (hh 49)∧∀ a,a ≠ 49→hh a=.dead:=by
 intro k;induction k with
 | zero =>
  intro i hi s h h0 g1 h6 h7 hacc;have e1:((i:Int) < (a.length:Int))=False:=ff (by omega);have e2:((i:Int) < (b.length:Int))=False:=ff (by omega);have:i=max a.length b.length:=by omega
  rw [← this];rw [ai];rcases hacc with ⟨g2,h5,hh⟩ | ⟨g2,h5,hh⟩
  ·refine ⟨.emp,?hh0,?_,Or.inl ⟨g2,rfl,?_⟩,?_⟩;rotate_left
   ·simp only [cV,go_sem,h0,g1,h5,h6,h7,hh,e1,e2];rfl
   all_goals simp_all [acj,if_false]
  ·refine ⟨.rsl 49 none 1 0 (bV a b i).length,?hh1,?_,Or.inr ⟨g2,rfl,?_⟩,?_⟩;rotate_left
   ·simp only [cV,go_sem,am7,h0,g1,h5,h6,h7,hh,e1,e2];rfl
   all_goals simp_all [acj,if_false]
 | succ k ih =>
  intro i hi s h h0 g1 h6 h7 hacc;have ih':=ih (i+1) (by omega);have hx:=bt ha i;have hy:=bt hb i;have hc:=xA ha hb i;have e3:IntKind.i64.wrap ((i:Int)+1)=((i+1:Nat):Int):=wi (by omega) (by omega);have q1:((bV a b i).length+1)*4≤140737488355328:=by grind [dD]
  have f3:=tt q1;have e4:IntKind.u64.wrap (a.getD i 0:Int)=(a.getD i 0:Int):=cI rfl (by omega);have e5:IntKind.u64.wrap (b.getD i 0:Int)=(b.getD i 0:Int):=cI rfl (by omega);have f8:=mr (n:=a.getD i 0+b.getD i 0+cry a b i) (k:=32) (kk:=.u64) (j:=32) rfl rfl (by omega);rw [show (a.getD i 0+b.getD i 0+cry a b i) / 2 ^ 32=cry a b (i+1) from rfl] at f8;have f9:=xK (n:=a.getD i 0+b.getD i 0+cry a b i) rfl (by omega);rw [show (a.getD i 0+b.getD i 0+cry a b i) % 4294967296=vA a b i from rfl] at f9;have f10:IntKind.u32.wrap ((vA a b i:Nat):Int)=((vA a b i:Nat):Int):=vN rfl (Nat.mod_lt _ (by omega));rw [ai];rw [Vi] at ih';generalize aq _ _ _=L at ih' ⊢;by_cases hla:i < a.length
  ·have e1:((i:Int) < (a.length:Int))=True:=tt (by omega);have e2:aZ (az a) (i:Int)=some (.ipt [U (a.getD i 0:Nat)]):=bh rfl hla;have w1:IntKind.u64.wrap ((cry a b i:Int)+(a.getD i 0:Int))=((a.getD i 0+cry a b i:Nat):Int):=cI (by omega) (by omega);by_cases hlb:i < b.length
   ·have e6:((i:Int) < (b.length:Int))=True:=tt (by omega);have e7:aZ (az b) (i:Int)=some (.ipt [U (b.getD i 0:Nat)]):=bh rfl hlb;have w2:IntKind.u64.wrap (((a.getD i 0+cry a b i:Nat):Int)+(b.getD i 0:Int))=((a.getD i 0+b.getD i 0+cry a b i:Nat):Int):=cI (by omega) (by omega);rcases hacc with ⟨g2,h5,hh⟩ | ⟨g2,h5,hh⟩
    ·simp only [cV,go_sem,am4,am3,am5,am6,h0,g1,h5,h6,h7,hh,e1,e2,e3,e4,e5,e6,e7,w1,w2,f8,f9,f10];rw [g2] at ih';exact ih' _ _ rfl rfl rfl rfl tL
    ·simp only [cV,go_sem,am5,am6,am7,h0,g1,h5,h6,h7,hh,e1,e2,e3,e4,e5,e6,e7,w1,w2,f3,f8,f9,f10,true_or,Nat.zero_add,Nat.le_refl,oR];exact ih' _ _ rfl rfl rfl rfl qR
   ·have e6:((i:Int) < (b.length:Int))=False:=ff (by omega);have hz:=I9 (m:=b) (i:=i) (by omega);have w2:((a.getD i 0+cry a b i:Nat):Int)=((a.getD i 0+b.getD i 0+cry a b i:Nat):Int):=by omega
    rw [w2] at w1;rcases hacc with ⟨g2,h5,hh⟩ | ⟨g2,h5,hh⟩
    ·simp only [cV,go_sem,am4,am3,am5,am6,h0,g1,h5,h6,h7,hh,e1,e2,e3,e4,e6,w1,f8,f9,f10];rw [g2] at ih';exact ih' _ _ rfl rfl rfl rfl tL
    ·simp only [cV,go_sem,am5,am6,am7,h0,g1,h5,h6,h7,hh,e1,e2,e3,e4,e6,w1,f3,f8,f9,f10,true_or,Nat.zero_add,Nat.le_refl,oR];exact ih' _ _ rfl rfl rfl rfl qR
  ·have e1:((i:Int) < (a.length:Int))=False:=ff (by omega);have hlb:i < b.length:=by omega
   have e6:((i:Int) < (b.length:Int))=True:=tt (by omega);have e7:aZ (az b) (i:Int)=some (.ipt [U (b.getD i 0:Nat)]):=bh rfl hlb;have hz:=I9 (m:=a) (i:=i) (by omega);have w2:IntKind.u64.wrap ((cry a b i:Int)+(b.getD i 0:Int))=((a.getD i 0+b.getD i 0+cry a b i:Nat):Int):=cI (by omega) (by omega);rcases hacc with ⟨g2,h5,hh⟩ | ⟨g2,h5,hh⟩
   ·simp only [cV,go_sem,am4,am3,am5,am6,h0,g1,h5,h6,h7,hh,e1,e3,e5,e6,e7,w2,f8,f9,f10];rw [g2] at ih';exact ih' _ _ rfl rfl rfl rfl tL
   ·simp only [cV,go_sem,am5,am6,am7,h0,g1,h5,h6,h7,hh,e1,e3,e5,e6,e7,w2,f3,f8,f9,f10,true_or,Nat.zero_add,Nat.le_refl,oR];exact ih' _ _ rfl rfl rfl rfl qR
theorem Xx {a b:List Nat} (_ha:Lb a) (_hb:Lb b) {L:Nat} (h1:a.length≤L) (h2:b.length≤L):aa (bV a b L++[cry a b L])=aa a+aa b:=by
 grind [AO,List.take_of_length_le,cO,dD,aa]
theorem Xy {a b:List Nat} (ha:Lb a) (hb:Lb b) (h1:a.length≤10000) (h2:b.length≤10000):R F.r02_plus [lm a,lm b] []=some (lm (ao (aa a+aa b)),[]):=by
 refine aE SV rfl ?_;obtain ⟨M,hM⟩:∃ M,max a.length b.length=M:=⟨_,rfl⟩;have hr:=Vk ha hb (by omega) (by omega) M 0 (by omega);rw [hM] at hr;have hsv:=Xx ha hb (L:=M) (by omega) (by omega);have hc:=xA ha hb M;have hL:=dD a b M;have hLb:=IK a b M;have q0:yz 49 (bV a b 0) .emp .dead:=Or.inl ⟨rfl,rfl,rfl⟩;generalize bV a b M=out at hr hsv hL hLb;generalize cry a b M=c at hr hsv hc;have ht:=xL (m:=out++[c]) (i8.2 ⟨hLb,fH.2 ⟨by omega,CD⟩⟩) (by grind);rw [hsv] at ht;have e8:IntKind.u32.wrap (c:Int)=(c:Int):=vN rfl (by omega);have q1:(out.length+1)*4≤140737488355328:=by omega
 have f3:=tt q1;have f4:=FR (out++[c]);rw [show (out++[c]).length=out.length+1 by simp] at f4;generalize ao (aa a+aa b)=res at ht ⊢;generalize hLL:aq (ak R (aG false) cV) [0,1,5,6,7] [49]=L at hr;have hX:∀ s h,ak R (aG false) (.loop [0,1,5,6,7] [49] cV) s h=L s h:=fun s h=>by rw [← hLL]; rfl
 have hr2:∀ (S:ae) (H:ac) (X:Option (Ex × St)),ap 0 [5,6] (L S H)=X→S 0=lm a→S 1=lm b→S 6=W 0→S 7=I 0→S 5=.emp→H 49=.dead→∃ x hh,X=some (.normal,⟨upd (upd (fun _=>.any) 6 (W c)) 5 x,hh⟩)∧yz 49 out x (hh 49)∧∀ a,a ≠ 49→hh a=.dead:=fun S H X hX a0 a1 a6 a7 a5 b=>by
  rw [← hX];exact hr S H a0 a1 a6 a7 (by grind)
 simp only [yT,GL,hX,go_sem];generalize hB:ap 0 [5,6] (L _ _)=X;obtain ⟨x,hh,g0,hacc,gd⟩:=hr2 _ _ _ hB rfl rfl rfl rfl rfl rfl;rw [g0];rcases hacc with ⟨c1,c2,c3⟩ | ⟨c1,c2,c3⟩
 ·rw [c1] at ht;have ht':R F.r02_trim [.sl 1 [[U c]]] []=some (lm res,[]):=ht;simp only [go_sem,am4,am3,am5,am6,c2,e8,ht',ne_eq,not_false_eq_true,gd]
 ·simp only [go_sem,am4,am3,am5,am6,c2,c3,e8,f3,f4,ht,ne_eq,not_false_eq_true,gd,oR,true_or,Nat.zero_add,Nat.le_refl,List.length_singleton,IH,List.length_append]
theorem Te {a b:List Nat} (ha:Lb a) (hb:Lb b) (h1:a.length≤100000):∀ (k i:Nat),i+k=a.length→∀ (s:ae) (h:ac),s 0=lm a→s 1=lm b→s 6=W (iq a b i:Nat)→s 7=I i→yz 41 (fO a b i) (s 5) (h 41) →
  ∃ x hh,ap 0 [5] (aq (ak R (aG false) dA) [0,1,5,6,7] [41] s h)=some (.normal,⟨upd (fun _=>.any) 5 x,hh⟩)∧yz 41 (fO a b a.length) x (hh 41)∧∀ a,a ≠ 41→hh a=.dead:=by
 intro k;induction k with
 | zero =>
  intro i hi s h h0 g1 h6 h7 hacc;have e1:((i:Int) < (a.length:Int))=False:=ff (by omega);have:i=a.length:=by omega
  rw [← this];rw [ai];rcases hacc with ⟨g2,h5,hh⟩ | ⟨g2,h5,hh⟩
  ·refine ⟨.emp,?hh0,?_,Or.inl ⟨g2,rfl,?_⟩,?_⟩;rotate_left
   ·simp only [dA,go_sem,h0,g1,h5,h6,h7,hh,e1];rfl
   all_goals simp_all [acj,if_false]
  ·refine ⟨.rsl 41 none 1 0 (fO a b i).length,?hh1,?_,Or.inr ⟨g2,rfl,?_⟩,?_⟩;rotate_left
   ·simp only [dA,go_sem,am7,h0,g1,h5,h6,h7,hh,e1];rfl
   all_goals simp_all [acj,if_false]
 | succ k ih =>
  intro i hi s h h0 g1 h6 h7 hacc;have ih':=ih (i+1) (by omega);have hx:=bt ha i;have hy:=bt hb i;have hc:=zV a b i;have hla:i < a.length:=by omega
  have e1:((i:Int) < (a.length:Int))=True:=tt (by omega);have e2:aZ (az a) (i:Int)=some (.ipt [U (a.getD i 0:Nat)]):=bh rfl hla;have e3:IntKind.i64.wrap ((i:Int)+1)=((i+1:Nat):Int):=wi (by omega) (by omega);have q1:((fO a b i).length+1)*4≤140737488355328:=by grind [kF]
  have f3:=tt q1;have e4:IntKind.u64.wrap (a.getD i 0:Int)=(a.getD i 0:Int):=cI rfl (by omega);have e5:IntKind.u64.wrap (b.getD i 0:Int)=(b.getD i 0:Int):=cI rfl (by omega);have w3:IntKind.u64.wrap ((a.getD i 0:Int)+4294967296)=((a.getD i 0+4294967296:Nat):Int):=cI (by omega) (by omega);have w4:IntKind.u64.wrap (((a.getD i 0+4294967296:Nat):Int) - ((b.getD i 0+iq a b i:Nat):Int))=((a.getD i 0+4294967296 - b.getD i 0 - iq a b i:Nat):Int):=cI (by omega) (by omega);have f8:=mr (n:=a.getD i 0+4294967296 - b.getD i 0 - iq a b i) (k:=32) (kk:=.u64) (j:=32) rfl rfl (by omega);have w5:IntKind.u64.wrap (1 - (((a.getD i 0+4294967296 - b.getD i 0 - iq a b i) / 2 ^ 32:Nat):Int))=((iq a b (i+1):Nat):Int):=by
   grind [cI,zV,iq]
  have f9:=xK (n:=a.getD i 0+4294967296 - b.getD i 0 - iq a b i) rfl (by omega);rw [show (a.getD i 0+4294967296 - b.getD i 0 - iq a b i) % 4294967296=xD a b i from rfl] at f9;have f10:IntKind.u32.wrap ((xD a b i:Nat):Int)=((xD a b i:Nat):Int):=vN rfl (Nat.mod_lt _ (by omega));rw [ai];rw [Vj] at ih';generalize aq _ _ _=L at ih' ⊢;by_cases hlb:i < b.length
  ·have e6:((i:Int) < (b.length:Int))=True:=tt (by omega);have e7:aZ (az b) (i:Int)=some (.ipt [U (b.getD i 0:Nat)]):=bh rfl hlb;have w2:IntKind.u64.wrap ((iq a b i:Int)+(b.getD i 0:Int))=((b.getD i 0+iq a b i:Nat):Int):=cI (by omega) (by omega);rcases hacc with ⟨g2,h5,hh⟩ | ⟨g2,h5,hh⟩
   ·simp only [dA,go_sem,am4,am3,am5,am6,h0,g1,h5,h6,h7,hh,e1,e2,e3,e4,e5,e6,e7,w2,w3,w4,w5,f8,f9,f10];rw [g2] at ih';exact ih' _ _ rfl rfl rfl rfl tL
   ·simp only [dA,go_sem,am5,am6,am7,h0,g1,h5,h6,h7,hh,e1,e2,e3,e4,e5,e6,e7,w2,w3,w4,w5,f3,f8,f9,f10,true_or,Nat.zero_add,Nat.le_refl,oR];exact ih' _ _ rfl rfl rfl rfl qR
  ·have e6:((i:Int) < (b.length:Int))=False:=ff (by omega);have hz:=I9 (m:=b) (i:=i) (by omega);have w2:((b.getD i 0+iq a b i:Nat):Int)=(iq a b i:Int):=by omega
   rw [w2] at w4;rcases hacc with ⟨g2,h5,hh⟩ | ⟨g2,h5,hh⟩
   ·simp only [dA,go_sem,am4,am3,am5,am6,h0,g1,h5,h6,h7,hh,e1,e2,e3,e4,e6,w3,w4,w5,f8,f9,f10];rw [g2] at ih';exact ih' _ _ rfl rfl rfl rfl tL
   ·simp only [dA,go_sem,am5,am6,am7,h0,g1,h5,h6,h7,hh,e1,e2,e3,e4,e6,w3,w4,w5,f3,f8,f9,f10,true_or,Nat.zero_add,Nat.le_refl,oR];exact ih' _ _ rfl rfl rfl rfl qR
theorem Kq {a b:List Nat} (ha:Lb a) (hb:Lb b) (h1:a.length≤10000) (h2:b.length≤a.length) (hv:aa b≤aa a):R F.r02_minus [lm a,lm b] []=some (lm (ao (aa a - aa b)),[]):=by
 refine aE PQ rfl ?_;have hr:=Te ha hb (by omega) a.length 0 (by omega);have hall:=Nj ha hb h2 hv;have hsv:aa (fO a b a.length)=aa a - aa b:=by
  rw [hall,iw,Nat.mod_eq_of_lt];grind [Nat.lt_of_le_of_lt,Nat.sub_le,bR]
 have hL:=kF a b a.length;have hLb:=IL a b a.length;have q0:yz 41 (fO a b 0) .emp .dead:=Or.inl ⟨rfl,rfl,rfl⟩;generalize fO a b a.length=out at hr hsv hL hLb;have ht:=xL (m:=out) hLb (by omega);rw [hsv] at ht;generalize hLL:aq (ak R (aG false) dA) [0,1,5,6,7] [41]=L at hr;have hX:∀ s h,ak R (aG false) (.loop [0,1,5,6,7] [41] dA) s h=L s h:=fun s h=>by rw [← hLL]; rfl
 have hr2:∀ (S:ae) (H:ac) (X:Option (Ex × St)),ap 0 [5] (L S H)=X→S 0=lm a→S 1=lm b→S 6=W 0→S 7=I 0→S 5=.emp→H 41=.dead→∃ x hh,X=some (.normal,⟨upd (fun _=>.any) 5 x,hh⟩)∧yz 41 out x (hh 41)∧∀ a,a ≠ 41→hh a=.dead:=fun S H X hX a0 a1 a6 a7 a5 b=>by
  rw [← hX];exact hr S H a0 a1 a6 a7 (by grind)
 simp only [xf,EP,hX,go_sem];generalize hB:ap 0 [5] (L _ _)=X;obtain ⟨x,hh,g0,hacc,gd⟩:=hr2 _ _ _ hB rfl rfl rfl rfl rfl rfl;rw [g0];rcases hacc with ⟨c1,c2,c3⟩ | ⟨c1,c2,c3⟩
 ·rw [c1] at ht;simp only [go_sem,am4,am3,c2,ht,ne_eq,not_false_eq_true,gd]
 ·simp only [go_sem,am4,am3,c2,c3,ht,ne_eq,not_false_eq_true,gd,FR,Nat.zero_add,Nat.le_refl]
theorem Vl {a b:List Nat} (ha:Lb a) (hb:Lb b) (hl:a.length=b.length) (h2:a.length≤100000):∀ (k:Nat),k≤a.length→∀ (s:ae) (h:ac),s 0=lm a→s 1=lm b→s 5=I ((k:Int) - 1) →
  cj (ap 0 [] (aq (ak R (aG false) dq) [0,1,5] [] s h)) (ak R (aG false) m6)=some (.ret,⟨upd (fun _=>.any) 4 (I (bC (aa (a.take k)) (aa (b.take k)))),fun _=>.dead⟩):=by
 intro k;induction k with
 | zero =>
  intro hk s h h0 h1 h5;rw [ai];have e1:(0≤((0:Nat):Int) - 1)=False:=ff (by omega);have e2:bC (aa []) (aa [])=0:=rfl;simp only [dq,m6,go_sem,h0,h1,h5,e1,e2]
 | succ k ih =>
  intro hk s h h0 h1 h5;have ih':=ih (by omega);have e1:(0≤((k+1:Nat):Int) - 1)=True:=tt (by omega);have e2:aZ (az a) (((k+1:Nat):Int) - 1)=some (.ipt [U (a.getD k 0:Nat)]):=bh (by omega) (by omega);have e3:aZ (az b) (((k+1:Nat):Int) - 1)=some (.ipt [U (b.getD k 0:Nat)]):=bh (by omega) (by omega);have e4:IntKind.i64.wrap (((k+1:Nat):Int) - 1 - 1)=(k:Int) - 1:=by grind [i64_in]
  have va:=dm a k;have vb:=dm b k;have la:=bR (dC ha k);have lb:=bR (dC hb k);rw [List.length_take,Nat.min_eq_left (by omega)] at la lb;rw [ai];rcases Nat.lt_trichotomy (a.getD k 0) (b.getD k 0) with hlt | heq | hgt
  ·have e5:((a.getD k 0:Int) < (b.getD k 0:Int))=True:=tt (by omega);have e6:bC (aa (a.take (k+1))) (aa (b.take (k+1)))=-1:=by
    have:4294967296 ^ k*(a.getD k 0+1)≤4294967296 ^ k*b.getD k 0:=Nat.mul_le_mul_left _ hlt;rw [Nat.mul_add] at this;simp only [bC];omega
   simp only [dq,m6,go_sem,h0,h1,h5,e1,e2,e3,e5,e6]
  ·have e5:((a.getD k 0:Int) < (b.getD k 0:Int))=False:=ff (by omega);have e7:((b.getD k 0:Int) < (a.getD k 0:Int))=False:=ff (by omega);have e6:bC (aa (a.take (k+1))) (aa (b.take (k+1)))=bC (aa (a.take k)) (aa (b.take k)):=by
    grind [bC]
   simp only [dq,go_sem,h0,h1,h5,e1,e2,e3,e5,e6,e7,e4];exact ih' _ _ rfl rfl rfl
  ·have e5:((a.getD k 0:Int) < (b.getD k 0:Int))=False:=ff (by omega);have e7:((b.getD k 0:Int) < (a.getD k 0:Int))=True:=tt (by omega);have e6:bC (aa (a.take (k+1))) (aa (b.take (k+1)))=1:=by
    have:4294967296 ^ k*(b.getD k 0+1)≤4294967296 ^ k*a.getD k 0:=Nat.mul_le_mul_left _ hgt;rw [Nat.mul_add] at this;simp only [bC];omega
   simp only [dq,m6,go_sem,h0,h1,h5,e1,e2,e3,e5,e6,e7]
theorem E2 {a b:List Nat} (ha:Lb a) (hb:Lb b) (h1:a.length≤100000) (_h2:b.length≤100000) (hc:a.length=b.length∨(ui a∧ui b)):R F.r02_compare [lm a,lm b] []=some (I (bC (aa a) (aa b)),[]):=by
 refine aE K9 rfl ?_;by_cases hl:a.length=b.length
 ·have e1:((a.length:Int)=(b.length:Int))=True:=tt (by omega);have e3:IntKind.i64.wrap ((a.length:Int) - 1)=(a.length:Int) - 1:=i64_in _ ⟨by omega,by omega⟩;have hL:=Vl ha hb hl h1 a.length (Nat.le_refl _);rw [List.take_length,hl,List.take_length,← hl] at hL;generalize hLL:aq (ak R (aG false) dq) [0,1,5] []=L at hL;have hX:∀ s h,ak R (aG false) (.loop [0,1,5] [] dq) s h=L s h:=fun s h=>by rw [← hLL]; rfl
  have hL2:∀ s h,s 0=lm a→s 1=lm b→s 5=I ((a.length:Int) - 1)→gx false [[]] [.t 4] 0 (cj (ap 0 [] (L s h)) (ak R (aG false) (.seq (.ops [4] [co 4 (.mv (.c (.v (.int .i64 0))))]) (.ret))))=some (I (bC (aa a) (aa b)),[]):=fun s h a0 a1 a5=>by
   rw [show (.seq (.ops [4] [co 4 (.mv (.c (.v (.int .i64 0))))]) (.ret):Cmd)=m6 from rfl,hL s h a0 a1 a5];simp only [go_sem]
  show gx false [[]] [.t 4] 0 (ak R (aG false) mK _ _)=_;unfold mK;show gx false [[]] [.t 4] 0 (cj (ak R (aG false) (.ops [0,1] [co 4 (.mv (.c (.v (.int .i64 0))))]) _ _) fun s h=>cj (ak R (aG false) (.seq (.ops [0,1,10] [cm 6 0,co 7 (.len false (.t 6)),cm 8 1,co 9 (.len false (.t 8)),co 10 (.bin .neq (.t 7) (.t 9))]) (.cond (.t 10) (.seq (.seq (.ops [15] [cm 11 0,co 12 (.len false (.t 11)),cm 13 1,co 14 (.len false (.t 13)),co 15 (.bin .lss (.t 12) (.t 14))]) (.cond (.t 15) (.seq (.ops [4] [co 4 (.mv (.c (.v (.int .i64 (-1)))))]) (.ret)) (.skip))) (.seq (.ops [4] [co 4 (.mv (.c (.v (.int .i64 1))))]) (.ret))) (.skip))) s h) fun s h=>cj (cj (ak R (aG false) (.ops [0,1,5] [cm 16 0,co 17 (.len false (.t 16)),co 18 (.bin .sub (.t 17) (.c (.v (.int .i64 1)))),cm 5 18]) s h) fun s h=>ap 0 [] (ak R (aG false) (.loop [0,1,5] [] dq) s h)) (ak R (aG false) (.seq (.ops [4] [co 4 (.mv (.c (.v (.int .i64 0))))]) (.ret))))=_;simp only [hX];simp only [go_sem,e1,e3];exact hL2 _ _ rfl rfl rfl
 ·have e1:((a.length:Int)=(b.length:Int))=False:=ff (by omega);obtain ⟨ca,cb⟩:=hc.resolve_left hl;by_cases hlt:a.length < b.length
  ·have e2:((a.length:Int) < (b.length:Int))=True:=tt (by omega);have e3:bC (aa a) (aa b)=-1:=by
    simp_all [mw,aa,tF,ca,bC,if_pos]
   rw [e3];simp only [pn,mK,go_sem,e1,e2]
  ·have e2:((a.length:Int) < (b.length:Int))=False:=ff (by omega);have e3:bC (aa a) (aa b)=1:=by
    have:=mw (x:=aa b) (y:=aa a) (by grind [tF,ca]);unfold bC;omega
   rw [e3];simp only [pn,mK,go_sem,e1,e2]
theorem CW {d:Rd} (ok:Ok0 d):R F.r02_Valid [ag d] []=some (B (vd d),[]):=by
 refine aE PK rfl ?_;unfold vd;have hl:=ok.len;by_cases a0:d.m.length=0
 ·rw [if_pos a0];have e1:((d.m.length:Int)=0)=True:=tt (by omega);cases hn:d.neg with
  | true=>simp only [dZ,fQ,ag,am,hn,go_sem,am4,am3,e1,Bool.not_true,Bool.false_and]
  | false=>simp only [dZ,fQ,ag,am,hn,go_sem,am4,am3,e1,Bool.not_false,Bool.true_and]
 rw [if_neg a0];have e1:((d.m.length:Int)=0)=False:=ff (by omega);by_cases a1:¬ d.m.length≤256
 ·have e2:(256 < (d.m.length:Int))=True:=tt (by omega);rw [decide_eq_false a1,Bool.false_and];simp only [dZ,fQ,ag,am,go_sem,am4,am3,e1,e2]
 replace a1:=Decidable.not_not.1 a1
 have e2:(256 < (d.m.length:Int))=False:=ff (by omega);have e3:aZ (az d.m) 0=some (.ipt [U (d.m.getD 0 0:Nat)]):=bh rfl (by omega);have e6:IntKind.i64.wrap ((d.m.length:Int) - 1)=((d.m.length - 1:Nat):Int):=wi (by omega) (by omega);have e7:aZ (az d.m) ((d.m.length - 1:Nat):Int)=some (.ipt [U (d.m.getD (d.m.length - 1) 0:Nat)]):=bh rfl (by omega);have hx:=bt ok.lb 0;rw [decide_eq_true a1,Bool.true_and];by_cases a3:d.m.getD (d.m.length - 1) 0=0
 ·have e8:((d.m.getD (d.m.length - 1) 0:Int)=0)=True:=tt (by omega);rw [decide_eq_false (p:=d.m.getD (d.m.length - 1) 0 ≠ 0) (fun h=>h a3),Bool.false_and,Bool.and_false];simp only [dZ,fQ,ag,am,go_sem,am4,am3,e1,e2,e6,e7,e8]
 have e8:((d.m.getD (d.m.length - 1) 0:Int)=0)=False:=ff (by omega);rw [decide_eq_true (p:=d.m.getD (d.m.length - 1) 0 ≠ 0) a3,Bool.true_and];have e4:=NG (n:=d.m.getD 0 0) rfl hx;by_cases a2:¬ d.m.getD 0 0 % 2=1
 ·have e5:(((d.m.getD 0 0 % 2:Nat):Int)=0)=True:=tt (by omega);rw [decide_eq_false a2,Bool.false_and];simp only [dZ,fQ,ag,am,go_sem,am4,am3,e1,e2,e3,e4,e5,e6,e7,e8]
 replace a2:=Decidable.not_not.1 a2
 have e5:(((d.m.getD 0 0 % 2:Nat):Int)=0)=False:=ff (by omega);rw [decide_eq_true a2,Bool.true_and];have hv:aa d.m ≠ 0:=CE (Or.inr a3) (fun h=>a0 (by grind));have hbp:=abD hv;unfold nQ;rw [decide_eq_false (p:=af (aa d.m)=0) (by omega),Bool.false_or];by_cases a4:d.e < -16384
 ·have f1:(d.e < -16384)=True:=tt a4;rw [decide_eq_false (p:=-16384≤d.e) (by omega),Bool.false_and,Bool.and_false];simp only [dZ,fQ,ag,am,go_sem,am4,am3,e1,e2,e3,e4,e5,e6,e7,e8,f1]
 have f1:(d.e < -16384)=False:=ff a4;rw [decide_eq_true (p:=-16384≤d.e) (by omega),Bool.true_and];by_cases a5:16384 < d.e
 ·have f2:(16384 < d.e)=True:=tt a5;rw [decide_eq_false (p:=d.e≤16384) (by omega),Bool.false_and,Bool.and_false];simp only [dZ,fQ,ag,am,go_sem,am4,am3,e1,e2,e3,e4,e5,e6,e7,e8,f1,f2]
 have f2:(16384 < d.e)=False:=ff a5;rw [decide_eq_true (p:=d.e≤16384) (by omega),Bool.true_and];have hb:=NH ok.lb (by omega) (Or.inr a3);have hbl:=AU ok.lb;have w1:IntKind.i64.wrap (((af (aa d.m):Nat):Int)+d.e)=((af (aa d.m):Nat):Int)+d.e:=i64_in _ ⟨by omega,by omega⟩;by_cases a6:af (aa d.m)≤4096
 ·have f3:(((af (aa d.m):Nat):Int)≤4096)=True:=tt (by omega);rw [decide_eq_true a6,Bool.true_and];simp only [dZ,fQ,ag,am,go_sem,am4,am3,e1,e2,e3,e4,e5,e6,e7,e8,f1,f2,hb,f3,w1]
 ·have f3:(((af (aa d.m):Nat):Int)≤4096)=False:=ff (by omega);rw [decide_eq_false a6,Bool.false_and];simp only [dZ,fQ,ag,am,go_sem,am4,am3,e1,e2,e3,e4,e5,e6,e7,e8,f1,f2,hb,f3]
theorem NK {neg:Bool} {m:List Nat} {e:Int} (hb:Lb m) (h1:m.length≤9000) (he:-1000000≤e∧e≤1000000):R F.r02_Of [B neg,lm m,I e] []=some (ag (bG neg (aa m) e),[]):=by
 refine aE WX rfl ?_;have ht:=xL hb (by omega);have la:=bX m hb;obtain ⟨M,hM⟩:∃ M,aa m=M:=⟨_,rfl⟩;rw [hM] at ht la ⊢;by_cases h0:M=0
 ·have e1:(((ao M).length:Int)=0)=True:=tt (by grind [ef]);rw [h0,ig];simp only [yg,Fj,ag,am,aP,go_sem,am4,am3,am5,ht,e1]
 ·have e1:(((ao M).length:Int)=0)=False:=ff (fun h=>h0 (gR.1 (List.length_eq_zero_iff.1 (by omega))));have hz:=Ve (aO M) (by omega) (by grind [aK]);rw [aK] at hz;have htz:tz M < 32*(ao M).length:=by
   refine LA h0 ?_;grind [bR,aO,aK,Nat.pow_mul]
  have hr:=Vh (aO M) (n:=tz M) (by omega) (by omega);rw [aK] at hr;have w1:IntKind.i64.wrap (e+((tz M:Nat):Int))=e+((tz M:Nat):Int):=i64_in _ ⟨by omega,by omega⟩;rw [kG h0];simp only [yg,Fj,ag,am,go_sem,am4,am3,am5,ht,e1,hz,hr,w1]
def Tf (d:Rd):Rd:=⟨!d.neg && decide (0 < d.m.length),d.m,d.e⟩
theorem ZD {d:Rd}:R F.r02_Neg [ag d] []=some (ag (Tf d),[]):=by
 refine aE UB rfl ?_;unfold Tf;cases hn:d.neg with
 | true=>simp only [we,Ct,ag,am,go_sem,am4,am3,am5,hn,Bool.not_true,Bool.false_and]
 | false =>
  have e:decide (0 < (d.m.length:Int))=decide (0 < d.m.length):=by grind
  simp only [we,Ct,ag,am,go_sem,am4,am3,am5,hn,Bool.not_false,Bool.true_and,e]
theorem ZE {d:Rd} (h:vd d=true):Tf d=dw d:=by
 unfold Tf dw;by_cases h0:d.m.length=0
 ·have:=DL h h0;subst this;rfl
 ·rw [if_neg (fun h2=>h2.elim (fun h3=>by grind) h0),decide_eq_true (by omega),Bool.and_true]
theorem Ja {d:Rd} (h:vd d=true):zI (dw d)=-zI d∧vd (dw d)=true:=by
 unfold dw;by_cases h0:d.m.length=0
 ·rw [if_pos (Or.inr h0),ez h0];exact ⟨by rw [ez rfl]; rfl,rfl⟩
 ·constructor
  ·grind [zI,mg]
  simp_all [vd,if_neg]
theorem FS {d:Rd}:R F.r02_Sign [ag d] []=some (I (bY d),[]):=by
 refine aE ST rfl ?_;unfold bY;by_cases h0:d.m.length=0
 ·have e1:((d.m.length:Int)=0)=True:=tt (by omega);rw [if_pos h0];simp only [qh,v9,ag,am,go_sem,am4,am3,e1]
 ·have e1:((d.m.length:Int)=0)=False:=ff (by omega);rw [if_neg h0];cases hn:d.neg with
  | true =>
   simp only [qh,v9,ag,am,go_sem,am4,am3,e1,hn]
  | false =>
   simp only [qh,v9,ag,am,go_sem,am4,am3,e1,hn]
theorem NL {d:Rd} (h:vd d=true):ui d.m:=by
 by_cases h0:d.m.length=0
 ·exact Or.inl (List.length_eq_zero_iff.1 h0)
 ·exact Or.inr (zY h h0).2.2.1
theorem QH {d:Rd} (ok:Ok0 d) (h:vd d=true):R F.r02_Top [ag d] []=some (I (aQ d),[]):=by
 refine aE Uz rfl ?_;by_cases h0:d.m.length=0
 ·have e1:((d.m.length:Int)=0)=True:=tt (by omega);rw [aQ,if_pos (Or.inr h0)];simp only [wd,Cs,ag,am,go_sem,am4,am3,e1]
 ·have e1:((d.m.length:Int)=0)=False:=ff (by omega);obtain ⟨h1,h2,h3,h4⟩:=ey h ok.lb;rw [my h h0];have hb:=NH ok.lb (by omega) (NL h);have w1:IntKind.i64.wrap (((af (aa d.m):Nat):Int)+d.e)=((af (aa d.m):Nat):Int)+d.e:=i64_in _ ⟨by omega,by omega⟩;simp only [wd,Cs,ag,am,go_sem,am4,am3,am5,am6,am7,e1,hb,w1]
def gU (z f:Int):Rd:=bG (decide (z < 0)) z.natAbs f
theorem Jb {neg:Bool} {n:Nat} {f:Int}:bG neg n f=gU (bO neg n) f:=by
 unfold gU;by_cases h0:n=0
 ·subst h0;cases neg <;> exact ig.symm
 ·cases neg with
  | false =>
   rw [gZ,Int.natAbs_natCast,decide_eq_false (by omega)]
  | true =>
   rw [gY,Int.natAbs_neg,Int.natAbs_natCast,decide_eq_true (by omega)]
theorem abv {n:Nat} (h:n % 2=1) (k:Nat):tz (n*2 ^ k)=k:=by
 rw [Nat.mul_comm,GT k (by omega),zQ h,Nat.add_zero]
theorem QI {d:Rd} (ok:Ok0 d) (h:vd d=true):gU (zI d) (-16384)=d:=by
 by_cases h0:d.m.length=0
 ·rw [ez h0];have:=DL h h0;subst this;exact ig
 ·obtain ⟨h1,h2,h3,h4⟩:=zY h h0;obtain ⟨g1,g2,g3,g4⟩:=ey h ok.lb;have hz:zI d=bO d.neg (mg d):=by
   grind [zI,bO]
  rw [hz,← Jb];unfold mg;rw [wn,kG (cP h h0)];have ho:aa d.m % 2=1:=by
   have:=dv d.m 0;grind
  rw [zQ ho,Nat.pow_zero,Nat.div_one,tF ok.lb (NL h)];obtain ⟨n,m,e⟩:=d;grind
theorem sD {x y:Nat} (h:x≤y):(ao x).length≤(ao y).length:=Nat.not_lt.1 fun h2=>by
 have:=mw h2;omega
theorem ZF {a b:Rd} (oa:Ok0 a) (ob:Ok0 b) (va:vd a=true) (vb:vd b=true):R F.r02_Sum [ag a,ag b] []=some (ag (gU (zI a+zI b) (-16384)),[]):=by
 refine aE UA rfl ?_;by_cases a0:a.m.length=0
 ·have e1:((a.m.length:Int)=0)=True:=tt (by omega);rw [ez a0,Int.zero_add,QI ob vb];simp only [mh,qY,ag,am,go_sem,am4,am3,am5,e1]
 have e1:((a.m.length:Int)=0)=False:=ff (by omega);by_cases b0:b.m.length=0
 ·have e2:((b.m.length:Int)=0)=True:=tt (by omega);rw [ez b0,Int.add_zero,QI oa va];simp only [mh,qY,ag,am,go_sem,am4,am3,am5,e1,e2]
 have e2:((b.m.length:Int)=0)=False:=ff (by omega);obtain ⟨a1,a2,a3,a4⟩:=ey va oa.lb;obtain ⟨b1,b2,b3,b4⟩:=ey vb ob.lb;obtain ⟨e,he⟩:∃ e,(if b.e < a.e then b.e else a.e)=e:=⟨_,rfl⟩;have he1:-16384≤e∧e≤a.e∧e≤b.e:=by
  omega
 have w1:IntKind.i64.wrap (a.e - e)=(((a.e - e).toNat:Nat):Int):=wi (by omega) (by omega);have w2:IntKind.i64.wrap (b.e - e)=(((b.e - e).toNat:Nat):Int):=wi (by omega) (by omega);have l1:=NJ oa.lb (n:=(a.e - e).toNat) (by omega) (by omega);have l2:=NJ ob.lb (n:=(b.e - e).toNat) (by omega) (by omega);have z1:zI a=bO a.neg (aa a.m*2 ^ (a.e - e).toNat*2 ^ (e+16384).toNat):=by
  grind [zI,bO,mg,AR]
 have z2:zI b=bO b.neg (aa b.m*2 ^ (b.e - e).toNat*2 ^ (e+16384).toNat):=by
  grind [zI,bO,mg,AR]
 have bx:af (aa a.m*2 ^ (a.e - e).toNat)≤36864:=by
  grind [dH,cP]
 have by':af (aa b.m*2 ^ (b.e - e).toNat)≤36864:=by
  grind [dH,cP]
 rw [z1,z2];generalize aa a.m*2 ^ (a.e - e).toNat=x at l1 bx ⊢;generalize aa b.m*2 ^ (b.e - e).toNat=y at l2 by' ⊢;have lx:(ao x).length≤1152:=aS (by omega);have ly:(ao y).length≤1152:=aS (by omega);have hsum:∀ (n:Bool) (z:Nat),bG n z e=gU (bO n (z*2 ^ (e+16384).toNat)) (-16384):=fun n z=>by
  rw [← Jb,wn,show -16384+(((e+16384).toNat:Nat):Int)=e by omega]
 have hcp:=E2 (aO x) (aO y) (by omega) (by omega) (Or.inr ⟨CF x,CF y⟩);rw [aK,aK] at hcp;by_cases hs:a.neg=b.neg
 ·have p1:=Xy (aO x) (aO y) (by omega) (by omega);rw [aK,aK] at p1;have bz:af (x+y)≤36865:=AX bx by';have o1:=NK (neg:=a.neg) (m:=ao (x+y)) (e:=e) (aO _) (Nat.le_trans (aS (k:=1153) (by omega)) (by decide)) ⟨by omega,by omega⟩;rw [aK,hsum] at o1;have hz:bO a.neg (x*2 ^ (e+16384).toNat)+bO b.neg (y*2 ^ (e+16384).toNat)=bO a.neg ((x+y)*2 ^ (e+16384).toNat):=by
   rw [← hs,Nat.add_mul];cases a.neg
   all_goals grind [gZ,gY]
  rw [hz];generalize gU (bO a.neg ((x+y)*2 ^ (e+16384).toNat)) (-16384)=r at o1 ⊢;have hs2:(a.neg == b.neg)=true:=by grind
  have hs3:(false != (a.neg == b.neg))=true:=by grind
  simp only [ag,am] at o1;simp only [mh,qY,ag,am,go_sem,am4,am3,am5,am6,am7,e1,e2,he,w1,w2,l1,l2,hs3,p1,o1]
 ·have hs2:(a.neg == b.neg)=false:=by
   grind
  have hs3:(false != (a.neg == b.neg))=false:=by grind
  have hbn:b.neg=!a.neg:=by
   grind
  by_cases hlt:x < y
  ·have e5:(0≤bC x y)=False:=ff (by simp_all [bC,if_pos]);have m1:=Kq (aO y) (aO x) (by omega) (sD (by omega)) (by grind [aK]);rw [aK,aK] at m1;have o1:=NK (neg:=b.neg) (m:=ao (y - x)) (e:=e) (aO _) (Nat.le_trans (sD (Nat.sub_le _ _)) (by omega)) ⟨by omega,by omega⟩;rw [aK,hsum] at o1;have hz:bO a.neg (x*2 ^ (e+16384).toNat)+bO b.neg (y*2 ^ (e+16384).toNat)=bO b.neg ((y - x)*2 ^ (e+16384).toNat):=by
    grind [Bool.not_true,gZ,gY]
   rw [hz];generalize gU (bO b.neg ((y - x)*2 ^ (e+16384).toNat)) (-16384)=r at o1 ⊢;simp only [ag,am] at o1;simp only [mh,qY,ag,am,go_sem,am4,am3,am5,am6,am7,e1,e2,he,w1,w2,l1,l2,hs3,hcp,e5,m1,o1]
  ·have e5:(0≤bC x y)=True:=tt (by unfold bC; omega);have m1:=Kq (aO x) (aO y) (by omega) (sD (by omega)) (by grind [aK]);rw [aK,aK] at m1;have o1:=NK (neg:=a.neg) (m:=ao (x - y)) (e:=e) (aO _) (Nat.le_trans (sD (Nat.sub_le _ _)) (by omega)) ⟨by omega,by omega⟩;rw [aK,hsum] at o1;have hz:bO a.neg (x*2 ^ (e+16384).toNat)+bO b.neg (y*2 ^ (e+16384).toNat)=bO a.neg ((x - y)*2 ^ (e+16384).toNat):=by
    grind [Bool.not_true,gZ,gY]
   rw [hz];generalize gU (bO a.neg ((x - y)*2 ^ (e+16384).toNat)) (-16384)=r at o1 ⊢;simp only [ag,am] at o1;simp only [mh,qY,ag,am,go_sem,am4,am3,am5,am6,am7,e1,e2,he,w1,w2,l1,l2,hs3,hcp,e5,m1,o1]
theorem ahP:(true == true)=true:=rfl
theorem ahQ:(true == false)=false:=rfl
theorem ahR:(false == true)=false:=rfl
theorem ahS:(false == false)=true:=rfl
theorem abw:(false != true)=true:=rfl
theorem abx:(false != false)=false:=rfl
theorem Xz (z f:Int):bY (gU z f)=if z < 0 then -1 else if 0 < z then 1 else 0:=by
 unfold gU;by_cases h0:z=0
 ·subst h0;rfl
 ·have hn:z.natAbs ≠ 0:=by omega
  rw [kG hn];obtain ⟨h1,h2⟩:=tG hn;have hl:(ao (z.natAbs / 2 ^ tz z.natAbs)).length ≠ 0:=fun h=>by
   have:=gR.1 (List.length_eq_zero_iff.1 h);omega
  unfold bY;grind
theorem Vm {a b:Rd} (oa:Ok0 a) (ob:Ok0 b) (va:vd a=true) (vb:vd b=true) (na:a.m.length ≠ 0) (nb:b.m.length ≠ 0) (h:aQ a < aQ b):mg a < mg b:=by
 have h1:=DN va oa.lb na;have h2:=DN vb ob.lb nb;exact AQ (by omega)
theorem DS {a b:Rd} (oa:Ok0 a) (ob:Ok0 b) (va:vd a=true) (vb:vd b=true):R F.r02_Cmp [ag a,ag b] []=some (I (bI (zI a) (zI b)),[]):=by
 refine aE Uy rfl ?_;have s1:=FS (d:=a);have s2:=FS (d:=b);have t1:=QH oa va;have t2:=QH ob vb;have n1:=ZD (d:=b);rw [ZE vb] at n1;obtain ⟨hz,hvn⟩:=Ja vb;have u1:=ZF oa (ri ob) va hvn;rw [hz] at u1;have u2:=FS (d:=gU (zI a+-zI b) (-16384));rw [Xz] at u2;have hca:=AS a va;have hcb:=AS b vb;generalize dw b=nb at n1 u1;simp only [ag,am] at s1 s2 t1 t2 n1 u1 u2;by_cases hs:bY a=bY b
 ·have e1:(bY a=bY b)=True:=tt hs;by_cases h0:bY a=0
  ·have e2:(bY a=0)=True:=tt h0;have hr:bI (zI a) (zI b)=0:=by
    have:zI a=0:=by omega
    have:zI b=0:=by omega
    simp_all [bI,if_neg]
   rw [hr];simp only [gV,kf,ag,am,go_sem,am4,am3,am5,am6,am7,s1,s2,e1,e2]
   try simp only [hs,h0,go_sem,am4,am3,anc,am5,am6,am8,ana,anb,am9,am7,ane]
  ·have e2:(bY a=0)=False:=ff h0;have na:a.m.length ≠ 0:=by omega
   have nb':b.m.length ≠ 0:=by omega
   by_cases ht:aQ a=aQ b
   ·have e3:(aQ a=aQ b)=True:=tt ht;have hr:bI (zI a) (zI b)=if zI a+-zI b < 0 then -1 else if 0 < zI a+-zI b then 1 else 0:=by
     grind [bI]
    rw [hr];simp only [gV,kf,ag,am,go_sem,am4,am3,am5,am6,am7,s1,s2,t1,t2,e1,e2,e3,n1,u1,u2]
   ·have e3:(aQ a=aQ b)=False:=ff ht;by_cases hlt:aQ a < aQ b
    ·have e4:(aQ a < aQ b)=True:=tt hlt;have hm:=Vm oa ob va vb na nb' hlt;by_cases hp:0 < bY a
     ·have e5:(0 < bY a)=True:=tt hp;have hr:bI (zI a) (zI b)=-1:=by
       unfold bI;omega
      rw [hr];simp only [gV,kf,ag,am,go_sem,am4,am3,am5,am6,am7,s1,s2,t1,t2,e1,e2,e3,e4,e5,decide_true,ahP,abw]
     ·have e5:(0 < bY a)=False:=ff hp;have hr:bI (zI a) (zI b)=1:=by
       unfold bI;omega
      rw [hr];simp only [gV,kf,ag,am,go_sem,am4,am3,am5,am6,am7,s1,s2,t1,t2,e1,e2,e3,e4,e5,decide_true,decide_false,ahQ,abx]
    ·have e4:(aQ a < aQ b)=False:=ff hlt;have hm:=Vm ob oa vb va nb' na (by omega);by_cases hp:0 < bY a
     ·have e5:(0 < bY a)=True:=tt hp;have hr:bI (zI a) (zI b)=1:=by
       unfold bI;omega
      rw [hr];simp only [gV,kf,ag,am,go_sem,am4,am3,am5,am6,am7,s1,s2,t1,t2,e1,e2,e3,e4,e5,decide_true,decide_false,ahR,abx]
     ·have e5:(0 < bY a)=False:=ff hp;have hr:bI (zI a) (zI b)=-1:=by
       unfold bI;omega
      rw [hr];simp only [gV,kf,ag,am,go_sem,am4,am3,am5,am6,am7,s1,s2,t1,t2,e1,e2,e3,e4,e5,decide_true,decide_false,ahS,abw]
 ·have e1:(bY a=bY b)=False:=ff hs;by_cases hlt:bY a < bY b
  ·have e2:(bY a < bY b)=True:=tt hlt;have hr:bI (zI a) (zI b)=-1:=by
    unfold bI;omega
   rw [hr];simp only [gV,kf,ag,am,go_sem,am4,am3,am5,am6,am7,s1,s2,e1,e2]
  ·have e2:(bY a < bY b)=False:=ff hlt;have hr:bI (zI a) (zI b)=1:=by
    unfold bI;omega
   rw [hr];simp only [gV,kf,ag,am,go_sem,am4,am3,am5,am6,am7,s1,s2,e1,e2]
theorem aoL {x y:Int} {k:Nat} (hx:af x.natAbs≤k) (hy:af y.natAbs≤k):af (x+y).natAbs≤k+1:=by
 have:=AX hx hy;refine Nat.le_trans ?_ this;have h2:(x+y).natAbs≤x.natAbs+y.natAbs:=Int.natAbs_add_le _ _;exact bv.2 (Nat.lt_of_le_of_lt h2 (bv.1 (Nat.le_refl _)))
theorem ape {d:Rd} (ok:Ok0 d) (h:vd d=true):af (zI d).natAbs≤36864:=by
 obtain ⟨h1,h2,h3,h4⟩:=ey h ok.lb;have:(zI d).natAbs=mg d:=by
  unfold zI;split <;> omega
 rw [this];by_cases h0:d.m.length=0
 ·rw [Qs h0];decide
 ·have:=DN h ok.lb h0;rw [my h h0] at this;omega
theorem Vn {a b:Rd} (oa:Ok0 a) (ob:Ok0 b) (va:vd a=true) (vb:vd b=true):bG (a.neg != b.neg) (aa a.m*aa b.m) (a.e+b.e)=gU (zI a*zI b) (-32768):=by
 obtain ⟨a1,a2,a3,a4⟩:=ey va oa.lb;obtain ⟨b1,b2,b3,b4⟩:=ey vb ob.lb;have hz:zI a*zI b=bO (a.neg != b.neg) (mg a*mg b):=by
  unfold zI bO;cases a.neg <;> cases b.neg <;> simp [Int.mul_neg,Int.neg_mul]
 have hm:mg a*mg b=aa a.m*aa b.m*2 ^ ((a.e+16384).toNat+(b.e+16384).toNat):=by
  unfold mg;rw [Nat.pow_add]
  ac_rfl
 rw [hz,← Jb,hm,wn,show -32768+(((a.e+16384).toNat+(b.e+16384).toNat:Nat):Int)=a.e+b.e by omega]
theorem QJ {a b:Rd} {p:Int} {up:Bool}:vd (eM a b p up).1=true:=by
 unfold eM;split
 ·exact sz.1
 ·exact bm.1
theorem NM {d:Rd}:R F.r05_zero [ag d] []=some (B (z0 d),[]):=by
 refine aE SO rfl ?_;unfold z0;cases hn:d.neg with
 | true=>simp only [mY,rS,ag,am,go_sem,am4,am3,hn,Bool.not_true,Bool.false_and]
 | false =>
  by_cases h1:d.m.length=0
  ·have e1:((d.m.length:Int)=0)=True:=tt (by omega);by_cases h2:d.e=0
   ·have e2:(d.e=0)=True:=tt h2;rw [decide_eq_true h1,decide_eq_true h2];simp only [mY,rS,ag,am,go_sem,am4,am3,hn,e1,e2,Bool.not_false,Bool.true_and]
   ·have e2:(d.e=0)=False:=ff h2;rw [decide_eq_true h1,decide_eq_false h2];simp only [mY,rS,ag,am,go_sem,am4,am3,hn,e1,e2,Bool.not_false,Bool.true_and]
  ·have e1:((d.m.length:Int)=0)=False:=ff (by omega);rw [decide_eq_false h1];simp only [mY,rS,ag,am,go_sem,am4,am3,hn,e1,Bool.not_false,Bool.true_and,Bool.false_and]
theorem uN {x:Ri} (ok:OkI x):R F.r05_Valid [ax x] []=some (B (vi x),[]):=by
 refine aE PI rfl ?_;unfold vi;have zl:=NM (d:=x.lo);have zh:=NM (d:=x.hi);have vl:=CW ok.lo;have vh:=CW ok.hi;simp only [ag,am] at zl zh vl vh;cases ha:x.all with
 | true =>
  cases h1:z0 x.lo with
  | true =>
   rw [h1] at zl;simp only [jo,mW,ax,aA,go_sem,am4,am3,am5,ha,zl,zh,Bool.true_and]
  | false =>
   rw [h1] at zl;simp only [jo,mW,ax,aA,go_sem,am4,am3,am5,ha,zl,Bool.false_and]
 | false =>
  cases h1:vd x.lo with
  | false =>
   rw [h1] at vl;simp only [jo,mW,ax,aA,go_sem,am4,am3,am5,ha,vl,Bool.false_and]
  | true =>
   rw [h1] at vl;cases h2:vd x.hi with
   | false =>
    rw [h2] at vh;simp only [jo,mW,ax,aA,go_sem,am4,am3,am5,ha,vl,vh,Bool.true_and,Bool.false_and]
   | true =>
    rw [h2] at vh;have hc:=DS ok.lo ok.hi h1 h2;simp only [ag,am] at hc;simp only [jo,mW,ax,aA,go_sem,am4,am3,am5,ha,vl,vh,hc,QA,Bool.true_and]
theorem qF (x y:Int):(x < y∧bI x y=-1)∨(x=y∧bI x y=0)∨(y < x∧bI x y=1):=by
 unfold bI;rcases Int.lt_trichotomy x y with h | h | h
 ·exact Or.inl ⟨h,if_pos h⟩
 ·exact Or.inr (Or.inl ⟨h,by rw [if_neg (by omega)]; exact if_neg (by omega)⟩)
 ·exact Or.inr (Or.inr ⟨h,by rw [if_neg (by omega)]; exact if_pos h⟩)
theorem Tg {a:List Int} (h2:sm a):∀ (k i:Nat),i+k=a.length→∀ (s:ae) (h:ac),s 0=.sl 1 (bw a)→s 3=I (bH (a.take i))→s 4=I i →
  ap 0 [3] (aq (ak R (aG false) rZ) [0,3,4] [] s h)=some (.normal,⟨upd (fun _=>.any) 3 (I (bH a)),fun _=>.dead⟩):=by
 intro k;induction k with
 | zero =>
  intro i hi s h h0 h3 h4;have e1:((i:Int) < a.length)=False:=ff (by omega);rw [List.take_of_length_le (by omega)] at h3;rw [ai];simp only [rZ,go_sem,h0,h3,h4,e1]
 | succ k ih =>
  intro i hi s h h0 h3 h4;have hlt:i < a.length:=by omega
  obtain ⟨g1,g2⟩:=h2;have e1:((i:Int) < a.length)=True:=tt (by omega);have e2:aZ (bw a) (i:Int)=some (.ipt [I a[i]]):=lM rfl (List.getElem?_eq_getElem hlt);have e5:IntKind.i64.wrap ((i:Int)+1)=((i+1:Nat):Int):=wi (by omega) (by omega);have b1:=ND (l:=a.take i) (fun x hx=>g2 x (List.mem_of_mem_take hx));have b2:=g2 a[i] (List.getElem_mem hlt);have e6:IntKind.i64.wrap (bH (a.take i)+a[i])=bH (a.take (i+1)):=by
   grind [FQ,i64_in]
  have ih':=ih (i+1) (by omega);rw [ai];simp only [rZ,go_sem,h0,h3,h4,e1,e2,e5,e6];exact ih' _ _ rfl rfl rfl
theorem NN {a:List Int} (h2:sm a):R F.r23_sum [.sl 1 (bw a)] []=some (I (bH a),[]):=by
 refine aE UC rfl ?_;have h3:=Tg h2 a.length 0 (Nat.zero_add _);simp only [AK,Kj,go_sem];rw [h3 _ _ rfl rfl rfl];simp only [go_sem]
theorem Th {a b:List Int} (hl:a.length=b.length) (h2:a.length≤100000):∀ (k i:Nat),i+k=a.length→∀ (s:ae) (h:ac),s 0=.sl 1 (bw a)→s 1=.sl 1 (bw b)→s 7=I i →
  ∃ hh,ap 0 [] (aq (ak R (aG false) gO) [0,1,7] [] s h)=if iE (b.drop i) (a.drop i)=0 then some (.normal,⟨fun _=>.any,fun _=>.dead⟩) else some (.ret,⟨upd (fun _=>.any) 4 (I (iE (b.drop i) (a.drop i))),hh⟩):=by
 intro k;induction k with
 | zero =>
  intro i hi s h h0 h1 h7;have e1:((i:Int) < a.length)=False:=ff (by omega);rw [List.drop_eq_nil_of_le (by omega),List.drop_eq_nil_of_le (by omega),ai];refine ⟨fun _=>.dead,?_⟩;show _=if (0:Int)=0 then _ else _
  simp only [gO,go_sem,h0,h1,h7,e1]
 | succ k ih =>
  intro i hi s h h0 h1 h7;have hlt:i < a.length:=by omega
  have hlt2:i < b.length:=by omega
  have e1:((i:Int) < a.length)=True:=tt (by omega);have e2:aZ (bw a) (i:Int)=some (.ipt [I a[i]]):=lM rfl (List.getElem?_eq_getElem hlt);have e3:aZ (bw b) (i:Int)=some (.ipt [I b[i]]):=lM rfl (List.getElem?_eq_getElem hlt2);have e5:IntKind.i64.wrap ((i:Int)+1)=((i+1:Nat):Int):=wi (by omega) (by omega);rw [List.drop_eq_getElem_cons hlt,List.drop_eq_getElem_cons hlt2,ai];have ih':=ih (i+1) (by omega);generalize a[i]=x at e2 ⊢;generalize b[i]=y at e3 ⊢;unfold iE;rcases qF y x with ⟨g,e⟩ | ⟨g,e⟩ | ⟨g,e⟩
  ·have e6:(y < x)=True:=tt g;simp only [e,↓reduceIte,anb,Int.reduceNeg];refine ⟨?hh1,?_⟩;rotate_left;simp only [gO,go_sem,h0,h1,h7,e1,e2,e3,e6];rfl
  ·have e6:(y < x)=False:=ff (by omega);have e7:(x < y)=False:=ff (by omega);simp only [e,↓reduceIte];simp only [gO,go_sem,h0,h1,h7,e1,e2,e3,e5,e6,e7];exact ih' _ _ rfl rfl rfl
  ·have e6:(y < x)=False:=ff (by omega);have e7:(x < y)=True:=tt (by omega);simp only [e,↓reduceIte,anb];refine ⟨?hh2,?_⟩;rotate_left;simp only [gO,go_sem,h0,h1,h7,e1,e2,e3,e6,e7];rfl
theorem NO {a b:List Int} (ha:sm a) (hb:sm b) (hl:a.length=b.length):R F.r23_Compare [.sl 1 (bw a),.sl 1 (bw b)] []=some (I (dx a b),[]):=by
 refine aE K4 rfl ?_;have d1:=NN ha;have d2:=NN hb;have h3:=Th hl (by have:=ha.1; omega) a.length 0 (Nat.zero_add _);simp only [List.drop_zero,Int.natCast_zero] at h3;unfold dx;rcases qF (bH a) (bH b) with ⟨g,e⟩ | ⟨g,e⟩ | ⟨g,e⟩
 ·have e6:(bH a < bH b)=True:=tt g;rw [e,if_neg (by decide)];simp only [je,mI,go_sem,am4,am3,d1,d2,e6]
 ·have e6:(bH a < bH b)=False:=ff (by omega);have e7:(bH b < bH a)=False:=ff (by omega);rw [e,if_pos rfl];by_cases hz:iE b a=0
  ·simp only [if_pos hz] at h3;simp only [je,mI,go_sem,am4,am3,d1,d2,e6,e7];rw [(h3 _ _ rfl rfl rfl).choose_spec,hz];simp only [go_sem]
  ·simp only [if_neg hz] at h3;simp only [je,mI,go_sem,am4,am3,d1,d2,e6,e7];rw [(h3 _ _ rfl rfl rfl).choose_spec];simp only [go_sem]
 ·have e6:(bH a < bH b)=False:=ff (by omega);have e7:(bH b < bH a)=True:=tt (by omega);rw [e,if_neg (by decide)];simp only [je,mI,go_sem,am4,am3,d1,d2,e6,e7]
theorem Vp {t:Rt} (h2:t.exps.length≤1000):∀ (k i:Nat),i+k=t.exps.length→(∀ x ∈ t.exps.take i,0≤x∧x≤32)→∀ (s:ae) (h:ac),s 3=.ref 3 none 0 0 0→s 5=I (bH (t.exps.take i))→s 6=I i→h 3=.bx (en t) →
  ∃ hh,ap 0 [5] (aq (ak R (aG false) gq) [3,5,6] [3] s h)=if (t.exps.drop i).any sC=true then some (.ret,⟨upd (fun _=>.any) 4 (B false),hh⟩) else some (.normal,⟨upd (fun _=>.any) 5 (I (bH t.exps)),hh⟩):=by
 intro k;induction k with
 | zero =>
  intro i hi hg s h h3 h5 h6 k3;have e1:((i:Int) < t.exps.length)=False:=ff (by omega);rw [List.take_of_length_le (by omega)] at h5;rw [List.drop_eq_nil_of_le (by omega),ai];simp only [en] at k3;refine ⟨?hh,?_⟩;rotate_left;show _=if false=true then _ else _
  simp only [gq,go_sem,am4,am3,am7,h3,h5,h6,k3,e1];rfl
 | succ k ih =>
  intro i hi hg s h h3 h5 h6 k3;have hlt:i < t.exps.length:=by omega
  have e1:((i:Int) < t.exps.length)=True:=tt (by omega);have e2:aZ (bw t.exps) (i:Int)=some (.ipt [I t.exps[i]]):=lM rfl (List.getElem?_eq_getElem hlt);have e5:IntKind.i64.wrap ((i:Int)+1)=((i+1:Nat):Int):=wi (by omega) (by omega);have b1:=ND hg;have b3:(t.exps.take i).length≤1000:=by grind
  have ih':=ih (i+1) (by omega);have htk:t.exps.take (i+1)=t.exps.take i++[t.exps[i]]:=by simp_all
  have hst:=FQ hlt;rw [List.drop_eq_getElem_cons hlt,List.any_cons,ai];simp only [en] at k3;rw [hst] at ih';rw [htk] at ih';generalize t.exps[i]=x at e2 ih' ⊢;unfold sC at ih' ⊢;by_cases g1:x < 0
  ·have e6:(x < 0)=True:=tt g1;simp only [decide_eq_true g1,Bool.true_or];refine ⟨?hh1,?_⟩;rotate_left;simp only [gq,go_sem,am4,am3,am7,h3,h5,h6,k3,e1,e2,e6];rfl
  ·have e6:(x < 0)=False:=ff g1;by_cases g2:32 < x
   ·have e7:(32 < x)=True:=tt g2;simp only [decide_eq_false g1,decide_eq_true g2,Bool.false_or,Bool.true_or];refine ⟨?hh2,?_⟩;rotate_left;simp only [gq,go_sem,am4,am3,am7,h3,h5,h6,k3,e1,e2,e6,e7];rfl
   ·have e7:(32 < x)=False:=ff g2;have e8:IntKind.i64.wrap (bH (t.exps.take i)+x)=bH (t.exps.take i)+x:=i64_in _ ⟨by omega,by omega⟩;simp only [gq,go_sem,am4,am3,am7,h3,h5,h6,k3,e1,e2,e5,e6,e7,e8];exact ih' (fun y hy=>by
     grind) _ _ rfl rfl rfl rfl
theorem Vq {v:Int} {t:Rt} (ok:OkT t) (hv:v≤1000):R F.r23_term [I v,.agg (en t)] []=some (B (BL v t),[]):=by
 refine aE SR rfl ?_;have hvd:=CW ok.c;simp only [ag,am] at hvd;unfold BL;by_cases c1:(t.exps.length:Int)=v
 ·have f1:((t.exps.length:Int)=v)=True:=tt c1;cases c2:vd t.c with
  | false =>
   rw [c2] at hvd;simp only [kE,pk,en,go_sem,am4,am3,am5,f1,hvd]
  | true =>
   rw [c2] at hvd;by_cases c3:t.c.m.length=0
   ·have f3:((t.c.m.length:Int)=0)=True:=tt (by omega);rw [decide_eq_false (p:=t.c.m.length ≠ 0) (fun h=>h c3),Bool.false_and];simp only [kE,pk,en,go_sem,am4,am3,am5,f1,hvd,f3]
   ·have f3:((t.c.m.length:Int)=0)=False:=ff (by omega);rw [decide_eq_true (p:=t.c.m.length ≠ 0) c3,Bool.true_and];have hL:=Vp (t:=t) (by omega) t.exps.length 0 (Nat.zero_add _) (fun x hx=>by grind);generalize hLL:aq (ak R (aG false) gq) [3,5,6] [3]=L at hL;have hX:∀ s h,ak R (aG false) (.loop [3,5,6] [3] gq) s h=L s h:=fun s h=>by rw [← hLL]; rfl
    have hL2:∀ (S:ae) (H:ac) (X:Option (Ex × St)),ap 0 [5] (L S H)=X→S 3=.ref 3 none 0 0 0→S 5=I 0→S 6=I 0→H 3=.bx (en t)→∃ hh,X=if t.exps.any sC=true then some (.ret,⟨upd (fun _=>.any) 4 (B false),hh⟩) else some (.normal,⟨upd (fun _=>.any) 5 (I (bH t.exps)),hh⟩):=fun S H X hX=>by
     rw [← hX];exact hL S H
    cases c4:t.exps.any sC with
    | true =>
     simp only [c4] at hL2;simp only [kE,pk,hX,en,go_sem,am4,am3,am5,f1,hvd,f3];generalize hB:ap 0 [5] (L _ _)=X;obtain ⟨hh,g0⟩:=hL2 _ _ _ hB rfl rfl rfl rfl;rw [g0];simp only [go_sem]
    | false =>
     simp only [c4,if_neg Bool.false_ne_true] at hL2;simp only [kE,pk,hX,en,go_sem,am4,am3,am5,f1,hvd,f3];generalize hB:ap 0 [5] (L _ _)=X;obtain ⟨hh,g0⟩:=hL2 _ _ _ hB rfl rfl rfl rfl;rw [g0];simp only [go_sem]
 ·have f1:((t.exps.length:Int)=v)=False:=ff c1;simp only [kE,pk,en,go_sem,am4,am3,f1]
theorem Vr {a:Rp} (ok:OkP a) (hv:a.vars≤8) (h2:a.terms.length≤500):∀ (k i:Nat),i+k=a.terms.length→∀ (pr:Option Rt),(i=0→pr=none)→(0 < i→∃ q,pr=some q∧a.terms[i - 1]?=some q∧BL a.vars q=true) →
  ∀ (s:ae) (h:ac),s 1=.ref 1 none 0 0 0→s 3=I i→h 1=.bx [I a.vars,.sl 4 (df a.terms)] →
  ∃ hh,ap 0 [] (aq (ak R (aG false) gL) [1,3] [1] s h)=if uL a.vars pr (a.terms.drop i)=true then some (.normal,⟨fun _=>.any,hh⟩) else some (.ret,⟨upd (fun _=>.any) 2 (B false),hh⟩):=by
 intro k;induction k with
 | zero =>
  intro i hi pr p0 p1 s h h1 h3 k1;have e1:((i:Int) < a.terms.length)=False:=ff (by omega);rw [List.drop_eq_nil_of_le (by omega),ai];refine ⟨?hh0,?_⟩;rotate_left;show _=if true=true then _ else _
  rw [if_pos rfl];simp only [gL,go_sem,am4,am3,am7,h1,h3,k1,e1];rfl
 | succ k ih =>
  intro i hi pr p0 p1 s h h1 h3 k1;have hlt:i < a.terms.length:=by omega
  have e1:((i:Int) < a.terms.length)=True:=tt (by omega);have e2:aZ (df a.terms) (i:Int)=some (.ipt (en a.terms[i])):=pE rfl (List.getElem?_eq_getElem hlt);have e5:IntKind.i64.wrap ((i:Int)+1)=((i+1:Nat):Int):=wi (by omega) (by omega);have okt:=ok.t a.terms[i] (List.getElem_mem hlt);have hnext:a.terms[i+1 - 1]?=some a.terms[i]:=List.getElem?_eq_getElem hlt;rw [List.drop_eq_getElem_cons hlt,ai];have ih':=ih (i+1) (by omega) (some a.terms[i]) (fun h=>absurd h (Nat.succ_ne_zero _));generalize a.terms[i]=t at e2 okt ih' hnext ⊢;have htm:=Vq okt (v:=a.vars) (by omega);simp only [en] at e2 htm;unfold uL;cases hb:BL a.vars t with
  | false =>
   rw [hb] at htm;refine ⟨?hh2,?_⟩;rotate_left;simp only [gL,go_sem,am4,am3,am5,am6,am7,h1,h3,k1,e1,e2,htm];rfl
  | true =>
   rw [hb] at htm;obtain ⟨c1,c2,c3,c4,c5⟩:=uM hb;by_cases hi0:i=0
   ·have f6:(0 < (i:Int))=False:=ff (by omega);rw [p0 hi0];simp only [gL,go_sem,am4,am3,am5,am6,am7,h1,h3,k1,e1,e2,htm,f6,e5];exact ih' (fun _=>⟨t,rfl,hnext,hb⟩) _ _ rfl rfl rfl
   ·have f6:(0 < (i:Int))=True:=tt (by omega);obtain ⟨q,q1,q2,q3⟩:=p1 (by omega);obtain ⟨d1,d2,d3,d4,d5⟩:=uM q3;rw [q1];have e7:IntKind.i64.wrap ((i:Int) - 1)=((i - 1:Nat):Int):=wi (by omega) (by omega);have e8:aZ (df a.terms) ((i - 1:Nat):Int)=some (.ipt (en q)):=pE rfl q2;simp only [en] at e8;have ho:=NO (a:=q.exps) (b:=t.exps) ⟨by omega,pF d4⟩ ⟨by omega,pF c4⟩ (by omega);simp only [I6];by_cases c6:dx q.exps t.exps < 0
    ·have f7:(0≤dx q.exps t.exps)=False:=ff (by omega);simp only [decide_eq_true c6,Bool.true_and];simp only [gL,go_sem,am4,am3,am5,am6,am7,h1,h3,k1,e1,e2,htm,f6,e5,e7,e8,ho,f7];exact ih' (fun _=>⟨t,rfl,hnext,hb⟩) _ _ rfl rfl rfl
    ·have f7:(0≤dx q.exps t.exps)=True:=tt (by omega);simp only [decide_eq_false c6,Bool.false_and,if_neg Bool.false_ne_true];refine ⟨?hh7,?_⟩;rotate_left;simp only [gL,go_sem,am4,am3,am5,am6,am7,h1,h3,k1,e1,e2,htm,f6,e7,e8,ho,f7];rfl
theorem Ti {a:Rp} (ok:OkP a):R F.r23_Valid [bL a] []=some (B (vp a),[]):=by
 refine aE PL rfl ?_;unfold vp;by_cases c1:0≤a.vars
 ·have f1:(a.vars < 0)=False:=ff (by omega);rw [decide_eq_true c1,Bool.true_and];by_cases c2:a.vars≤8
  ·have f2:(8 < a.vars)=False:=ff (by omega);rw [decide_eq_true c2,Bool.true_and];by_cases c3:a.terms.length≤500
   ·have f3:(500 < (a.terms.length:Int))=False:=ff (by omega);rw [decide_eq_true c3,Bool.true_and];have h3:=Vr ok c2 c3 a.terms.length 0 (Nat.zero_add _) none (fun _=>rfl) (fun h=>absurd h (Nat.lt_irrefl _));simp only [List.drop_zero,Int.natCast_zero] at h3;cases hb:uL a.vars none a.terms with
    | true =>
     rw [hb] at h3;simp only [jr,mX,bL,go_sem,am4,am3,f1,f2,f3];rw [(h3 _ _ rfl rfl rfl).choose_spec];simp only [go_sem]
    | false =>
     rw [hb] at h3;simp only [jr,mX,bL,go_sem,am4,am3,f1,f2,f3];rw [(h3 _ _ rfl rfl rfl).choose_spec];simp only [go_sem]
   ·have f3:(500 < (a.terms.length:Int))=True:=tt (by omega);rw [decide_eq_false c3,Bool.false_and];simp only [jr,mX,bL,go_sem,am4,am3,f1,f2,f3]
  ·have f2:(8 < a.vars)=True:=tt (by omega);rw [decide_eq_false c2,Bool.false_and];simp only [jr,mX,bL,go_sem,am4,am3,f1,f2]
 ·have f1:(a.vars < 0)=True:=tt (by omega);rw [decide_eq_false c1,Bool.false_and];simp only [jr,mX,bL,go_sem,am4,am3,f1]
theorem Tj (l:List Ri) (ok:∀ d ∈ l,OkI d) (h2:l.length≤100000):∀ (k i:Nat),i+k=l.length→∀ (s:ae) (h:ac),s 1=.sl 7 (bB l)→s 5=I i →
  ∃ hh,ap 0 [] (aq (ak R (aG false) im) [1,5] [] s h)=if ((l.drop i).any fun x=>!kI x)=true then some (.ret,⟨upd (fun _=>.any) 4 (B false),hh⟩) else some (.normal,⟨fun _=>.any,fun _=>.dead⟩):=by
 intro k;induction k with
 | zero =>
  intro i hi s h h1 h5;have e1:((i:Int) < l.length)=False:=ff (by omega);rw [List.drop_eq_nil_of_le (by omega),ai];refine ⟨fun _=>.dead,?_⟩;simp only [im,go_sem,h1,h5,e1]
 | succ k ih =>
  intro i hi s h h1 h5;have hlt:i < l.length:=by omega
  have e1:((i:Int) < l.length)=True:=tt (by omega);have e2:aZ (bB l) (i:Int)=some (.ipt (aA l[i])):=DO rfl (List.getElem?_eq_getElem hlt);have e5:IntKind.i64.wrap ((i:Int)+1)=((i+1:Nat):Int):=wi (by omega) (by omega);have e3:=uN (ok l[i] (List.getElem_mem hlt));rw [List.drop_eq_getElem_cons hlt,List.any_cons,ai];have ih':=ih (i+1) (by omega);generalize l[i]=d at e2 e3 ⊢;simp only [ax] at e3;simp only [aA] at e2 e3;have hkd:kI d=(!d.all && vi d):=rfl;rw [hkd];cases ha:d.all with
  | true =>
   refine ⟨?hh,?_⟩;rotate_left;simp only [im,go_sem,h1,h5,e1,e2,ha];rfl
  | false =>
   rw [ha] at e3;cases hv:vi d with
   | false =>
    rw [hv] at e3;refine ⟨?hh2,?_⟩;rotate_left;simp only [im,go_sem,am4,am3,am5,h1,h5,e1,e2,e3,ha];rfl
   | true =>
    rw [hv] at e3;simp only [im,go_sem,am4,am3,am5,h1,h5,e1,e2,e3,e5,ha];exact ih' _ _ rfl rfl
theorem PZ {a:Rp} {dom:List Ri} (oa:OkP a) (od:∀ x ∈ dom,OkI x) (h2:dom.length≤100000):R F.r24_Domain [bL a,.sl 7 (bB dom)] []=some (B (kJ a dom),[]):=by
 refine aE MV rfl ?_;have hv:=Ti oa;have hL:=Tj dom od h2 dom.length 0 (Nat.zero_add _);simp only [List.drop_zero,Int.natCast_zero] at hL;simp only [bL] at hv;unfold kJ;cases h1:vp a with
 | false =>
  rw [h1] at hv;simp only [jQ,oA,bL,go_sem,am4,am3,am5,hv]
 | true =>
  rw [h1] at hv;by_cases h3:(dom.length:Int)=a.vars
  ·have e3:((dom.length:Int)=a.vars)=True:=tt h3;cases h4:(dom.any fun x=>!kI x) with
   | true =>
    simp only [h4] at hL;simp only [jQ,oA,bL,go_sem,am4,am3,am5,hv,e3];rw [(hL _ _ rfl rfl).choose_spec];simp only [go_sem]
   | false =>
    simp only [h4,if_neg Bool.false_ne_true] at hL;simp only [jQ,oA,bL,go_sem,am4,am3,am5,hv,e3];rw [(hL _ _ rfl rfl).choose_spec];simp only [go_sem]
  ·have e3:((dom.length:Int)=a.vars)=False:=ff h3;simp only [jQ,oA,bL,go_sem,am4,am3,am5,hv,e3]
def A6 (d:Rd):Bool:=decide (20 < d.m.length) || (decide (300 < d.e) || decide (d.e < -300))
theorem CX {d:Rd}:R F.l24_long [ag d] []=some (B (A6 d),[]):=by
 refine aE SM rfl ?_;unfold A6;by_cases h1:20 < d.m.length
 ·have e1:(20 < (d.m.length:Int))=True:=tt (by omega);rw [decide_eq_true h1,Bool.true_or];simp only [qf,vZ,ag,am,go_sem,am4,am3,e1]
 ·have e1:(20 < (d.m.length:Int))=False:=ff (by omega);rw [decide_eq_false h1,Bool.false_or];by_cases h2:300 < d.e
  ·have e2:(300 < d.e)=True:=tt h2;simp only [qf,vZ,ag,am,go_sem,am4,am3,e1,e2]
  ·have e2:(300 < d.e)=False:=ff h2;simp only [qf,vZ,ag,am,go_sem,am4,am3,e1,e2]
def A7 (t:Rt):Bool:=A6 t.c || decide (8 < t.exps.length)
theorem ZH {t:Rt}:R F.l24_few_1 [.agg (en t)] []=some (B (A7 t),[]):=by
 refine aE EW rfl ?_;have hl:=CX (d:=t.c);simp only [ag,am] at hl;unfold A7;cases h1:A6 t.c with
 | true =>
  rw [h1] at hl;simp only [rO,yO,en,go_sem,am4,am3,am5,hl]
 | false =>
  rw [h1] at hl;have e:decide ((8:Int) < (t.exps.length:Int))=decide (8 < t.exps.length):=by grind
  simp only [rO,yO,en,go_sem,am4,am3,am5,hl,e]
theorem FT (m:List Nat):(az m).map (fun r=>match r with | [.v (.int _ x)]=>x.toNat | _=>0)=m:=by
 grind [az,List.map_map,List.map_congr_left,List.map_id']
theorem XC (m:List Int):(bw m).map (fun r=>match r with | [.v (.int _ x)]=>x | _=>0)=m:=by
 grind [bw,List.map_map,List.map_congr_left,List.map_id']
theorem XD {l:List Rt} (h2:l.length≤100000):R F.slices_ContainsFunc_api_Term_api_Term_ [.sl 4 (df l),.fn F.l24_few_1 [] []] []=some (B (l.any A7),[]):=by
 let p:List AV→Bool:=fun row=>match row with | [.sl _ m1,.v (.bool n2),.sl _ m2,.v (.int _ e2)]=>A7 ⟨m1.map (fun r=>match r with | [.v (.int _ x)]=>x | _=>0),⟨n2,m2.map (fun r=>match r with | [.v (.int _ x)]=>x.toNat | _=>0),e2⟩⟩ | _=>false
 have hp:∀ t:Rt,p (en t)=A7 t:=fun t=>by
  show A7 ⟨(bw t.exps).map _,⟨t.c.neg,(az t.c.m).map _,t.c.e⟩⟩=_;rw [FT,XC]
 have h1:=CN (k:=4) (g:=true) (f:=F.l24_few_1) (rows:=df l) (p:=p) bS.2.1 bS.2.2 (bS.1.2.2.2 false) rfl (EW.1.2.1 false) (by grind [QG]) (fun row hr=>by
  simp only [df,List.mem_map] at hr;obtain ⟨t,ht,rfl⟩:=hr;have hd:=ZH (t:=t);refine ⟨.agg (en t),rfl,rfl,?_⟩;rw [hp];simp only [en] at hd;simp only [en,go_sem,hd])
 have h2:=zT (k:=4) dt.2.1 dt.2.2 (dt.1.2.2.2 false) rfl (bS.1.2.1 false) (bS.1.1 false) (by simp only [go_sem]) h1;have h3:(df l).any p=l.any A7:=by
  unfold df;grind
 grind
def Tk (a:Rp):Bool:=decide (a.vars≤4) && (decide (a.terms.length≤12) && !(a.terms.any A7))
theorem aby {a:Rp}:R F.l24_few [bL a] []=some (B (Tk a),[]):=by
 refine aE Ux rfl ?_;unfold Tk;by_cases h1:a.vars≤4
 ·have e1:(a.vars≤4)=True:=tt h1;by_cases h2:a.terms.length≤12
  ·have e2:((a.terms.length:Int)≤12)=True:=tt (by omega);rw [decide_eq_true h2,Bool.true_and];have hc:=XD (l:=a.terms) (by omega);simp only [rJ,x9,bL,go_sem,am4,am3,e1,e2,hc]
  ·have e2:((a.terms.length:Int)≤12)=False:=ff (by omega);rw [decide_eq_false h2,Bool.false_and];simp only [rJ,x9,bL,go_sem,am4,am3,e1,e2]
 ·have e1:(a.vars≤4)=False:=ff h1;simp only [rJ,x9,bL,go_sem,am4,am3,e1]
def CY (x:Ri):Bool:=A6 x.lo || A6 x.hi
theorem XE {x:Ri}:R F.l24_near_1 [ax x] []=some (B (CY x),[]):=by
 refine aE CG rfl ?_;have h1:=CX (d:=x.lo);have h2:=CX (d:=x.hi);simp only [ag,am] at h1 h2;unfold CY;cases g1:A6 x.lo with
 | true =>
  rw [g1] at h1;simp only [qw,wU,ax,aA,go_sem,am4,am3,am5,h1]
 | false =>
  rw [g1] at h1;simp only [qw,wU,ax,aA,go_sem,am4,am3,am5,h1,h2]
theorem XF {l:List Ri} (h2:l.length≤100000):R F.slices_ContainsFunc_api_Interval_api_Interval_ [.sl 7 (bB l),.fn F.l24_near_1 [] []] []=some (B (l.any CY),[]):=by
 let p:List AV→Bool:=fun row=>match row with | [.v (.bool n1),.sl _ m1,.v (.int _ e1),.v (.bool n2),.sl _ m2,.v (.int _ e2),.v (.bool a)]=>CY ⟨⟨n1,m1.map (fun r=>match r with | [.v (.int _ x)]=>x.toNat | _=>0),e1⟩,⟨n2,m2.map (fun r=>match r with | [.v (.int _ x)]=>x.toNat | _=>0),e2⟩,a⟩ | _=>false
 have hp:∀ x:Ri,p (aA x)=CY x:=fun x=>by
  show CY ⟨⟨x.lo.neg,(az x.lo.m).map _,x.lo.e⟩,⟨x.hi.neg,(az x.hi.m).map _,x.hi.e⟩,x.all⟩=_
  simp_all [FT]
 have h1:=CN (k:=7) (g:=true) (f:=F.l24_near_1) (rows:=bB l) (p:=p) aJ.2.1 aJ.2.2 (aJ.1.2.2.2 false) rfl (CG.1.2.1 false) (by grind [IY]) (fun row hr=>by
  simp only [bB,List.mem_map] at hr;obtain ⟨x,hx,rfl⟩:=hr;have hd:=XE (x:=x);refine ⟨ax x,rfl,rfl,?_⟩;rw [hp];simp only [ax,aA] at hd;simp only [ax,aA,go_sem,hd])
 have h2:=zT (k:=7) bc.2.1 bc.2.2 (bc.1.2.2.2 false) rfl (aJ.1.2.1 false) (aJ.1.1 false) (by simp only [go_sem]) h1;have h3:(bB l).any p=l.any CY:=by
  unfold bB;grind
 grind
def LE (l:List Ri):Bool:=decide (l.length≤8) && !(l.any CY)
theorem ZI {l:List Ri}:R F.l24_near [.sl 7 (bB l)] []=some (B (LE l),[]):=by
 refine aE SK rfl ?_;unfold LE;by_cases h1:l.length≤8
 ·have e1:((l.length:Int)≤8)=True:=tt (by omega);rw [decide_eq_true h1,Bool.true_and];have hc:=XF (l:=l) (by omega);simp only [ub,AG,go_sem,am4,am3,e1,hc]
 ·have e1:((l.length:Int)≤8)=False:=ff (by omega);rw [decide_eq_false h1,Bool.false_and];simp only [ub,AG,go_sem,e1]
structure Len1 (x:Ri):Prop where
 lo:Lb x.lo.m∧x.lo.m.length≤100000
 hi:Lb x.hi.m∧x.hi.m.length≤100000
def VI (x:Ri):Prop:=(vd x.lo=true∧Ok0 x.lo)∧(vd x.hi=true∧Ok0 x.hi)
theorem VI.len {x:Ri} (h:VI x):Len1 x:=⟨⟨h.1.2.1,Nat.le_trans (Ac h.1.1 h.1.2.1) (by decide)⟩,⟨h.2.2.1,Nat.le_trans (Ac h.2.1 h.2.2.1) (by decide)⟩⟩
theorem NP:VI cQ:=⟨bm,bm⟩
theorem ZJ {x y:Ri} {p:Int}:VI (oP x y p):=by
 unfold oP;split
 ·unfold nS;split
  ·exact ⟨⟨QJ,DR⟩,⟨QJ,DR⟩⟩
  ·exact NP
 ·exact NP
theorem abz {p:Int} {dom:List Ri}:∀ (l:List Rt) (s:Ri),VI s→VI (NE p dom l s):=by
 intro l;induction l with
 | nil=>exact fun s h=>h
 | cons t l ih=>exact fun s h=>ih _ ZJ
theorem Vt {a:Rp} {dom:List Ri} {p:Int}:VI (jD a dom p):=by
 unfold jD;split
 ·exact abz _ _ ⟨bm,bm⟩
 ·exact NP
def NQ (a:Rp):Int:=if vp a=true then (match a.terms.getLast? with | none=>-1 | some t=>bH t.exps) else -1
theorem LG {a:Rp} (h:vp a=true):0≤a.vars∧a.vars≤8∧a.terms.length≤500∧uL a.vars none a.terms=true:=by
 simp_all [vp,Bool.and_eq_true,decide_eq_true_eq]
theorem DT {a:Rp} (h:vp a=true) {t:Rt} (ht:t ∈ a.terms):sm t.exps∧(t.exps.length:Int)=a.vars∧vd t.c=true∧t.c.m.length ≠ 0∧bH t.exps≤32:=by
 obtain ⟨v1,v2,v3,v4⟩:=LG h;obtain ⟨c1,c2,c3,c4,c5⟩:=uM (I8 _ _ v4 t ht);exact ⟨⟨by omega,pF c4⟩,c1,c2,c3,c5⟩
theorem Vu {a:Rp} (ok:OkP a):R F.poly_Degree [bL a] []=some (I (NQ a),[]):=by
 refine aE K6 rfl ?_;have hv:=CV ok;unfold NQ;simp only [bL] at hv;cases hb:vp a with
 | false =>
  rw [hb] at hv;simp only [lv,qz,bL,go_sem,am4,am3,am5,hv]
 | true =>
  rw [hb] at hv;obtain ⟨v1,v2,v3,v4⟩:=LG hb;by_cases h0:a.terms.length=0
  ·have e1:((a.terms.length:Int)=0)=True:=tt (by omega);have e4:a.terms.getLast?=none:=by
    grind
   rw [e4];simp only [lv,qz,bL,go_sem,am4,am3,am5,hv,e1]
  ·have e1:((a.terms.length:Int)=0)=False:=ff (by omega);have e2:IntKind.i64.wrap ((a.terms.length:Int) - 1)=((a.terms.length - 1:Nat):Int):=by grind [i64_in]
   have hlt:a.terms.length - 1 < a.terms.length:=by omega
   have e3:aZ (df a.terms) ((a.terms.length - 1:Nat):Int)=some (.ipt (en a.terms[a.terms.length - 1])):=pE rfl (List.getElem?_eq_getElem hlt);have e4:a.terms.getLast?=some a.terms[a.terms.length - 1]:=by grind
   obtain ⟨c1,c2,c3,c4,c5⟩:=DT hb (List.getElem_mem hlt);rw [e4];have hd:=uJ c1;simp only [en] at e3;simp only [lv,qz,bL,go_sem,am4,am3,am5,hv,e1,e2,e3,hd]
def pZ (x:Int):List Int→Nat→Int
 | [],_=>-1
 | y::l,i=>if x=y then i else pZ x l (i+1)
theorem XG {l:List Int} (h2:l.length≤100000) (x:Int):∀ (k i:Nat),i+k=l.length→∀ (s:ae) (h:ac),s 0=.sl 1 (bw l)→s 1=I x→s 7=I l.length→s 8=I i →
  ∃ hh,cj (ap 0 [] (aq (ak R (aG false) cJ) [0,1,7,8] [] s h)) (ak R (aG false) (.seq (.ops [4] [co 4 (.mv (.c (I (-1))))]) (.ret)))=some (.ret,⟨upd (fun _=>.any) 4 (I (pZ x (l.drop i) i)),hh⟩):=by
 intro k;induction k with
 | zero =>
  intro i hi s h h0 h1 h7 h8;have e1:((i:Int) < l.length)=False:=ff (by omega);rw [List.drop_eq_nil_of_le (by omega),ai];refine ⟨?hh0,?_⟩;rotate_left
  ·simp only [cJ,pZ,go_sem,am4,am3,anc,am5,am6,am8,ana,anb,am9,am7,ane,h0,h1,h7,h8,e1];rfl
 | succ k ih =>
  intro i hi s h h0 h1 h7 h8;have hlt:i < l.length:=by omega
  have e1:((i:Int) < l.length)=True:=tt (by omega);have e2:aZ (bw l) (i:Int)=some (.ipt [I l[i]]):=lM rfl (List.getElem?_eq_getElem hlt);have e5:IntKind.i64.wrap ((i:Int)+1)=((i+1:Nat):Int):=wi (by omega) (by omega);have ih':=ih (i+1) (by omega);rw [List.drop_eq_getElem_cons hlt,ai];unfold pZ;generalize l[i]=y at e2 ⊢;by_cases hxy:x=y
  ·have e3:(x=y)=True:=tt hxy;refine ⟨?hh1,?_⟩;rotate_left
   ·simp only [cJ,go_sem,am4,am3,anc,am5,am6,am8,ana,anb,am9,am7,ane,h0,h1,h7,h8,e1,e2,e3];rfl
  ·have e3:(x=y)=False:=ff hxy;simp only [cJ,go_sem,am4,am3,anc,am5,am6,am8,ana,anb,am9,am7,ane,h0,h1,h7,h8,e1,e2,e3,e5] at ih' ⊢;exact ih' _ _ rfl rfl rfl rfl
theorem XH {l:List Int} (h2:l.length≤100000) {x:Int}:R F.slices_Index_int_int_ [.sl 1 (bw l),I x] []=some (I (pZ x l 0),[]):=by
 refine aE xU rfl ?_;have h:=XG h2 x l.length 0 (Nat.zero_add _);have h':∀ (S:ae) (H:ac) (X:Option (Ex × St)),cj (ap 0 [] (aq (ak R (aG false) cJ) [0,1,7,8] [] S H)) (ak R (aG false) (.seq (.ops [4] [co 4 (.mv (.c (I (-1))))]) (.ret)))=X→S 0=.sl 1 (bw l)→S 1=I x→S 7=I l.length→S 8=I 0→∃ hh,X=some (.ret,⟨upd (fun _=>.any) 4 (I (pZ x l 0)),hh⟩):=fun S H X hX=>by
  rw [← hX];exact h S H
 simp only [jv,pI,go_sem,am4,am3,anc,am5,am6,am8,ana,anb,am9,am7,ane];generalize hB:cj (ap 0 [] (aq _ _ _ _ _)) _=X;obtain ⟨hh,h3⟩:=h' _ _ _ hB rfl rfl rfl rfl;rw [h3];simp only [go_sem,am4,am3,anc,am5,am6,am8,ana,anb,am9,am7,ane]
def Ks:Option Rd→List AV
 | none=>[B false,.emp,I 0]
 | some d=>am d
def xM (l:List (Option Rd)):List (List AV):=l.map Ks
@[go_sem] theorem akN (l:List (Option Rd)):(xM l).length=l.length:=by simp [xM]
theorem ZK {l:List (Option Rd)} {i:Nat} {o:Option Rd} (h:l[i]?=some o):(xM l)[i]?=some (Ks o):=by grind [xM]
theorem ZL (l:List (Option Rd)) (i:Nat) (d:Rd):(xM l).set i (am d)=xM (l.set i (some d)):=by simp [xM,List.map_set,Ks]
theorem ZM (n:Nat):List.replicate n [B false,.emp,I 0]=xM (List.replicate n none):=by simp [xM,Ks]
def QK (l:List (Option Rd)):List Rd:=l.map fun o=>o.getD aP
theorem ZN (l:List (Option Rd)):(xM l).map (cX [.o 0 [],.o 2 [],.o 0 []])=yu (QK l):=by
 simp only [xM,QK,yu,List.map_map];refine List.map_congr_left fun o _=>?_;cases o with
 | none=>simp only [Function.comp,Ks,am,aP,Option.getD,go_sem]
 | some d=>simp only [Function.comp,Ks,am,Option.getD,go_sem]
theorem ZO (o:Option Rd) (d:Rd):(((Ks o).set 0 (B d.neg)).set 1 (lm d.m)).set 2 (I d.e)=am d∧(3≤(Ks o).length)=True:=by
 cases o <;> exact ⟨rfl,tt (Nat.le_refl 3)⟩
def tM:List Rt→List (Option Rd)→List (Option Rd)
 | [],o=>o
 | t::l,o=>tM l (o.set (pZ 1 t.exps 0+1).toNat (some t.c))
theorem QM (x:Int):∀ (l:List Int) (i:Nat),-1≤pZ x l i∧pZ x l i < l.length+i
 | [],i=>by
  grind [pZ,List.length_nil]
 | y::l,i=>by
  unfold pZ;have:=QM x l (i+1);grind
theorem XI {a:Rp} (hv:∀ t ∈ a.terms,(t.exps.length:Int)=a.vars) (h8:a.vars≤8) (h5:a.terms.length≤500):∀ (k i:Nat),i+k=a.terms.length→∀ (o:List (Option Rd)),(o.length:Int)=a.vars+1→∀ (s:ae) (h:ac),
  s 4=.rsl 18 none 3 0 o.length→s 20=.sl 4 (df a.terms)→s 21=I a.terms.length→s 22=I i→h 1=.bx [I a.vars,.sl 4 (df a.terms)] →h 18=.ar 3 (xM o) →
  ∃ hh,ap 0 [4] (aq (ak R (aG false) iH) [4,20,21,22] [1,18] s h)=some (.normal,⟨upd (fun _=>.any) 4 (.rsl 18 none 3 0 o.length),hh⟩)∧hh 18=.ar 3 (xM (tM (a.terms.drop i) o)):=by
 intro k;induction k with
 | zero =>
  intro i hi o ho s h h4 h20 h21 h22 k1 k18;have e1:((i:Int) < a.terms.length)=False:=ff (by omega);rw [List.drop_eq_nil_of_le (by omega),ai];refine ⟨?hh0,?_,?_⟩;rotate_left
  ·simp only [iH,go_sem,am4,am3,anc,am5,am6,am8,ana,anb,am9,am7,ane,h4,h20,h21,h22,k1,k18,e1];rfl
  ·rfl
 | succ k ih =>
  intro i hi o ho s h h4 h20 h21 h22 k1 k18;have hlt:i < a.terms.length:=by omega
  have e1:((i:Int) < a.terms.length)=True:=tt (by omega);have e2:aZ (df a.terms) (i:Int)=some (.ipt (en a.terms[i])):=pE rfl (List.getElem?_eq_getElem hlt);have e5:IntKind.i64.wrap ((i:Int)+1)=((i+1:Nat):Int):=wi (by omega) (by omega);have c1:=hv a.terms[i] (List.getElem_mem hlt);rw [List.drop_eq_getElem_cons hlt,ai];have ih':=ih (i+1) (by omega);unfold tM;generalize a.terms[i]=t at e2 c1 ⊢;have hx:=XH (l:=t.exps) (x:=1) (by omega);obtain ⟨x1,x2⟩:=QM 1 t.exps 0;have e6:IntKind.i64.wrap (pZ 1 t.exps 0+1)=((pZ 1 t.exps 0+1).toNat:Int):=by grind [i64_in]
  generalize hn:(pZ 1 t.exps 0+1).toNat=n at e6 ⊢;have hn2:n < o.length:=by omega
  have e7:(0≤(n:Int))=True:=tt (by omega);have e8:((n:Int) < (o.length:Int))=True:=tt (by omega);have e9:=ZK (List.getElem?_eq_getElem hn2);obtain ⟨e10,e11⟩:=ZO o[n] t.c;have ih2:=ih' (o.set n (some t.c)) (by grind);rw [List.length_set] at ih2;simp only [en] at e2;simp only [iH,go_sem,am4,am3,anc,am5,am6,am8,ana,anb,am9,am7,ane,h4,h20,h21,h22,k1,k18,e1,e2,hx,e6,e7,e8,e9,e10,e11,e5,ZL,Int.toNat_natCast,Nat.zero_add];exact ih2 _ _ rfl rfl rfl rfl rfl rfl
theorem FU:∀ (l:List Rt) (o:List (Option Rd)),(tM l o).length=o.length
 | [],o=>rfl
 | t::l,o=>by
  unfold tM;rw [FU l,List.length_set]
def yA (a:Rp):Bool:=vp a && decide (NQ a≤1)
def A8 (a:Rp):List Rd:=QK (tM a.terms (List.replicate (a.vars.toNat+1) none))
def NR (a:Rp):AV:=if yA a=true then .tup [vO (A8 a),B true] else .tup [vO [],B false]
theorem Kt {a:Rp} (ok:OkP a):R F.bound_Linear [bL a] []=some (NR a,[]):=by
 refine aE Iu rfl ?_;have hv:=CV ok;have hd:=Vu ok;unfold NR yA;simp only [bL] at hv hd;cases hb:vp a with
 | false =>
  rw [hb] at hv;simp only [ke,pi,bL,go_sem,am4,am3,anc,am5,am6,am8,ana,anb,am9,am7,ane,hv,vO,yu]
 | true =>
  rw [hb] at hv;rw [Bool.true_and];generalize hg:NQ a=g at hd ⊢;by_cases h1:g≤1
  ·have e1:(1 < g)=False:=ff (by omega);rw [if_pos (decide_eq_true h1)];obtain ⟨v1,v2,v3,v4⟩:=LG hb;have hl:=XI (a:=a) (fun t ht=>(DT hb ht).2.1) v2 v3 a.terms.length 0 (Nat.zero_add _) (List.replicate (a.vars.toNat+1) none) (by grind);simp only [List.drop_zero,Int.natCast_zero,List.length_replicate] at hl;have hl2:=FU a.terms (List.replicate (a.vars.toNat+1) none);have hn:=ZN (tM a.terms (List.replicate (a.vars.toNat+1) none));unfold A8;generalize tM a.terms (List.replicate (a.vars.toNat+1) none)=O at hl hl2 hn ⊢;rw [List.length_replicate] at hl2;generalize hN:a.vars.toNat+1=N at hl hl2 ⊢;have e2:IntKind.i64.wrap (a.vars+1)=(N:Int):=by grind [i64_in]
   have e3:=lO (i:=(N:Int)) (j:=(N:Int)) (l:=N) (c:=N) rfl rfl (Nat.le_refl _) (by omega);have e4:(N*40≤140737488355328)=True:=tt (by omega);have e5:(0+N≤O.length)=True:=tt (by omega);have e6:(N=O.length)=True:=tt hl2.symm;have h':∀ (S:ae) (H:ac) (X:Option (Ex × St)),ap 0 [4] (aq (ak R (aG false) iH) [4,20,21,22] [1,18] S H)=X→S 4=.rsl 18 none 3 0 N→S 20=.sl 4 (df a.terms)→S 21=I a.terms.length→S 22=I 0→H 1=.bx [I a.vars,.sl 4 (df a.terms)]→H 18=.ar 3 (xM (List.replicate N none)) →
     ∃ hh,X=some (.normal,⟨upd (fun _=>.any) 4 (.rsl 18 none 3 0 N),hh⟩)∧hh 18=.ar 3 (xM O):=fun S H X hX=>by
    rw [← hX];exact hl S H
   simp only [ke,pi,bL,go_sem,am4,am3,anc,am5,am6,am8,ana,anb,am9,am7,ane,hv,hd,e1,e2,e3,e4,ZM];generalize hB:ap 0 [4] (aq _ _ _ _ _)=X;obtain ⟨hh,g0,g1⟩:=h' _ _ _ hB rfl rfl rfl rfl rfl rfl;rw [g0];simp only [go_sem,am4,am3,anc,am5,am6,am8,ana,anb,am9,am7,ane,g1,e5,e6,hn,vO]
  ·have e1:(1 < g)=True:=tt (by omega);rw [if_neg (fun h=>h1 (of_decide_eq_true h))];simp only [ke,pi,bL,go_sem,am4,am3,anc,am5,am6,am8,ana,anb,am9,am7,ane,hv,hd,e1,vO,yu]
def jE (a b:Rd):Rd × Int:=if (vd a && vd b)=true then gz (gU (zI a*zI b) (-32768)) else (aP,1)
def Jc (a b:Rd):Rd × Int:=if (vd a && vd b)=true then gz (gU (zI a+zI b) (-16384)) else (aP,1)
theorem Jd {z f:Int}:vd (gz (gU z f)).1=true∧Ok0 (gz (gU z f)).1:=by
 unfold gz gU;by_cases h:nQ (af (aa (bG (decide (z < 0)) z.natAbs f).m)) (bG (decide (z < 0)) z.natAbs f).e=true
 ·rw [if_pos h];have hv:=IW h;have hb:=ww (decide (z < 0)) z.natAbs f;exact ⟨hv,hb,Nat.lt_of_le_of_lt (Ac hv hb) (by decide)⟩
 simp_all [if_neg,bm]
theorem DU (a b:Rd):vd (jE a b).1=true∧Ok0 (jE a b).1:=by
 grind [jE,Jd,bm]
theorem ZP (a b:Rd):vd (Jc a b).1=true∧Ok0 (Jc a b).1:=by
 grind [Jc,Jd,bm]
theorem QN {d:Rd} (h:vd d=true) (h0:d.m.length ≠ 0):aa d.m % 2=1:=by
 obtain ⟨h1,h2,h3,h4⟩:=zY h h0;cases hm:d.m with
 | nil=>grind
 | cons x l =>
  grind [aa]
theorem NS {x y:Nat} (hx:x ≠ 0) (hy:y ≠ 0):af x+af y - 2 < af (x*y):=by
 have h1:=abD hx;have h2:=abD hy;have h3:2 ^ (af x - 1)≤x:=jU.1 (by omega);have h4:2 ^ (af y - 1)≤y:=jU.1 (by omega);rw [jU,show af x+af y - 2=(af x - 1)+(af y - 1) by omega,Nat.pow_add];exact Nat.mul_le_mul h3 h4
theorem ZQ {a b:Rd} (oa:Ok0 a) (ob:Ok0 b):LD a b=rV (jE a b):=by
 unfold LD jE;by_cases hv:vd a=true∧vd b=true
 ·obtain ⟨va,vb⟩:=hv;rw [if_pos ⟨va,vb⟩,va,vb,Bool.true_and,if_pos rfl,← Vn oa ob va vb];by_cases h0:a.m.length=0∨b.m.length=0
  ·rw [if_pos h0];have:aa a.m*aa b.m=0:=by
    rcases h0 with h0 | h0
    ·rw [List.length_eq_zero_iff.1 h0];exact Nat.zero_mul _
    ·rw [List.length_eq_zero_iff.1 h0];exact Nat.mul_zero _
   rw [this,ig];rfl
  ·rw [if_neg h0];have a0:a.m.length ≠ 0:=fun h=>h0 (.inl h);have b0:b.m.length ≠ 0:=fun h=>h0 (.inr h);have x0:=cP va a0;have y0:=cP vb b0;by_cases hb:4096 < af (aa a.m)+af (aa b.m) - 1
   ·rw [if_pos hb];have h1:=NS x0 y0;have ho:aa a.m*aa b.m % 2=1:=by grind [Nat.mul_mod,QN]
    have ht:=abv ho 0;rw [Nat.pow_zero,Nat.mul_one] at ht;obtain ⟨g1,g2,g3,g4⟩:=A3 (neg:=a.neg != b.neg) (e:=a.e+b.e) (Nat.mul_ne_zero x0 y0);unfold gz;rw [if_neg]
    ·rfl
    ·intro h2;rw [g1,ht,Nat.pow_zero,Nat.div_one] at h2;have h3:=(DM h2 (by omega)).1;omega
   simp_all [if_neg,IQ]
 ·rw [if_neg hv,if_neg]
  ·rfl
  grind
theorem QO {a b:Rd} (oa:Ok0 a) (ob:Ok0 b):R F.dyadic_Mul [ag a,ag b] []=some (rV (jE a b),[]):=by
 grind [ZQ,Zm]
def Ku (m:Rd) (x:Ri):Rd:=if bY m < 0 then x.hi else x.lo
def Kv (m:Rd) (x:Ri):Rd:=if bY m < 0 then x.lo else x.hi
def Tm (c:Rd) (a b:Rd × Int) (p:Int):Ri:=if a.2=0∧b.2=0 then nS (eM c a.1 p false) (eM c b.1 p true) else cQ
def A9 (c m:Rd) (x:Ri) (p:Int):Ri:=Tm c (jE m (Ku m x)) (jE m (Kv m x)) p
theorem ZR {c m:Rd} {x:Ri} (oc:Ok0 c) (om:Ok0 m) (vm:vd m=true) (ox:OkI x) {p:Int}:R F.bound_line [ag c,ag m,ax x,I p] []=some (ax (A9 c m x p),[]):=by
 refine aE MY rfl ?_;have hs:=xG om vm;have hw:=A5;unfold A9 Tm nS;simp only [ag,am] at hs;simp only [ax,aA,cQ] at hw;have key:∀ lo hi:Rd,lo=Ku m x→hi=Kv m x→Ok0 lo→Ok0 hi→gx false ej.rs ej.res 0 (ak R (aG false) ej.body (n8 [ag c,ag m,ax x,I p]) fun _=>.dead)=some (ax (if (jE m lo).2=0∧(jE m hi).2=0 then (if (eM c (jE m lo).1 p false).2=0∧(eM c (jE m hi).1 p true).2=0 then ⟨(eM c (jE m lo).1 p false).1,(eM c (jE m hi).1 p true).1,false⟩ else cQ) else cQ),[]):=by
  intro lo hi e1 e2 ol oh;have h1:=QO om ol;have h2:=QO om oh;have o1:=(DU m lo).2;have o2:=(DU m hi).2;generalize jE m lo=A at h1 o1 ⊢;generalize jE m hi=D at h2 o2 ⊢;have h3:=Ha oc o1 (p:=p);have h4:=Nv oc o2 (p:=p);generalize eM c A.1 p false=Y at h3 ⊢;generalize eM c D.1 p true=Z at h4 ⊢;obtain ⟨A1,A2⟩:=A;obtain ⟨D1,D2⟩:=D;obtain ⟨Y1,Y2⟩:=Y;obtain ⟨Z1,Z2⟩:=Z;unfold Ku at e1;unfold Kv at e2;simp only [rV,ag,am] at h1 h2 h3 h4;have hc:((bY m < 0)=True∧lo=x.hi∧hi=x.lo)∨((bY m < 0)=False∧lo=x.lo∧hi=x.hi):=by
   grind
  clear e1 e2;rcases hc with ⟨e0,rfl,rfl⟩ | ⟨e0,rfl,rfl⟩
  all_goals
   by_cases a1:A2=0
   ·have f1:(A2=0)=True:=tt a1;by_cases a2:D2=0
    ·have f2:(D2=0)=True:=tt a2;rw [if_pos ⟨a1,a2⟩];by_cases a3:Y2=0
     ·have f3:(Y2=0)=True:=tt a3;by_cases a4:Z2=0
      ·have f4:(Z2=0)=True:=tt a4;rw [if_pos ⟨a3,a4⟩];simp only [ej,lq,ag,am,ax,aA,cQ,go_sem,am4,am3,anc,am5,am6,am8,ana,anb,am9,am7,ane,hs,e0,h1,h2,h3,h4,f1,f2,f3,f4]
      ·have f4:(Z2=0)=False:=ff a4;rw [if_neg (fun h=>a4 h.2)];simp only [ej,lq,ag,am,ax,aA,cQ,go_sem,am4,am3,anc,am5,am6,am8,ana,anb,am9,am7,ane,hs,e0,h1,h2,h3,h4,f1,f2,f3,f4,hw]
     ·have f3:(Y2=0)=False:=ff a3;rw [if_neg (fun h=>a3 h.1)];simp only [ej,lq,ag,am,ax,aA,cQ,go_sem,am4,am3,anc,am5,am6,am8,ana,anb,am9,am7,ane,hs,e0,h1,h2,h3,h4,f1,f2,f3,hw]
    ·have f2:(D2=0)=False:=ff a2;rw [if_neg (fun h=>a2 h.2)];simp only [ej,lq,ag,am,ax,aA,cQ,go_sem,am4,am3,anc,am5,am6,am8,ana,anb,am9,am7,ane,hs,e0,h1,h2,h3,h4,f1,f2,hw]
   ·have f1:(A2=0)=False:=ff a1;rw [if_neg (fun h=>a1 h.1)];simp only [ej,lq,ag,am,ax,aA,cQ,go_sem,am4,am3,anc,am5,am6,am8,ana,anb,am9,am7,ane,hs,e0,h1,h2,h3,h4,f1,hw]
 by_cases hm:bY m < 0
 ·exact key _ _ rfl rfl (by unfold Ku; rw [if_pos hm]; exact ox.hi) (by unfold Kv; rw [if_pos hm]; exact ox.lo)
 ·exact key _ _ rfl rfl (by unfold Ku; rw [if_neg hm]; exact ox.lo) (by unfold Kv; rw [if_neg hm]; exact ox.hi)
theorem QP:∀ (l:List Rt) (o:List (Option Rd)),(∀ t ∈ l,vd t.c=true∧Ok0 t.c)→(∀ x ∈ o,∀ d,x=some d→vd d=true∧Ok0 d)→∀ x ∈ tM l o,∀ d,x=some d→vd d=true∧Ok0 d
 | [],o,_,ho=>ho
 | t::l,o,hl,ho=>by
  unfold tM;refine QP l _ (fun u hu=>hl u (List.mem_cons_of_mem _ hu)) fun x hx d hd=>?_;rcases List.mem_or_eq_of_mem_set hx with h | h
  ·exact ho x h d hd
  ·rw [h] at hd;obtain rfl:=Option.some.inj hd;exact hl t (List.mem_cons_self ..)
theorem QQ {a:Rp} (oa:OkP a) (hv:vp a=true):(∀ d ∈ A8 a,vd d=true∧Ok0 d)∧(A8 a).length=a.vars.toNat+1:=by
 constructor
 ·intro d hd;simp only [A8,QK,List.mem_map] at hd;obtain ⟨o,ho,rfl⟩:=hd;have:=QP a.terms (List.replicate (a.vars.toNat+1) none) (fun t ht=>⟨(DT hv ht).2.2.1,(oa.t t ht).c⟩) (fun x hx d hd=>by
   rw [List.eq_of_mem_replicate hx] at hd;exact nomatch hd) o ho
  cases o with
  | none=>exact bm
  | some d=>exact this d rfl
 ·simp [A8,QK,FU]
theorem abA (a l):aZ (a::l) 0=some (.ipt a):=by simp [aZ]
theorem abB (a b l):aZ (a::b::l) 1=some (.ipt b):=by simp [aZ]
theorem XJ {a:Rp} {dom:List Ri} (oa:OkP a) (od:∀ x ∈ dom,OkI x) {p:Int} (hf:(kJ a dom && di p)=true) (hl:yA a=true) (h1:a.vars=1) {c m:Rd} {x:Ri} (hlin:A8 a=[c,m]) (hdom:dom=[x]) :
  R F.bound_Bernstein [bL a,.sl 7 (bB dom),I p] []=some (ax (A9 c m x p),[]):=by
 refine aE go rfl ?_;have h2:dom.length≤100000:=by rw [hdom]; exact (by decide:1≤100000)
 have hf1:=DQ oa od h2 (p:=p);rw [hf] at hf1;have hL:=Kt oa;unfold NR at hL;rw [if_pos hl,hlin] at hL;have hv:vp a=true:=by
  simp only [yA,Bool.and_eq_true] at hl;exact hl.1
 obtain ⟨k1,k2⟩:=QQ oa hv;rw [hlin] at k1;have kc:=k1 c (List.mem_cons_self ..);have km:=k1 m (List.mem_cons_of_mem _ (List.mem_cons_self ..));have hn:=ZR kc.2 km.2 km.1 (od x (by rw [hdom]; exact List.mem_cons_self ..)) (p:=p);generalize A9 c m x p=z at hn ⊢;subst hdom;have e1:(a.vars=1)=True:=tt h1;simp only [bL,bB,List.map_cons,List.map_nil,aA] at hf1 hL;simp only [vO,yu,List.map_cons,List.map_nil,am] at hL;simp only [ag,am,ax,aA] at hn;simp only [dX,gk,bL,bB,List.map_cons,List.map_nil,ax,aA,go_sem,am4,am3,anc,am5,am6,am8,ana,anb,am9,am7,ane,hf1,hL,hn,e1,abA,abB]
def an3 (x:Rd):Nat→Rd→Option Rd
 | 0,c=>some c
 | n+1,c=>if (jE c x).2=0 then an3 x n (jE c x).1 else none
def an0:List Int→List Rd→Rd→Option Rd
 | e::es,x::xs,c=>(an3 x e.toNat c).bind fun d=>an0 es xs d
 | _,_,c=>some c
def aod (xs:List Rd):List Rt→Rd→Rd × Int
 | [],s=>(s,0)
 | t::l,s=>match an0 t.exps xs t.c with
  | none=>(aP,9)
  | some d=>if (Jc s d).2=0 then aod xs l (Jc s d).1 else (aP,9)
def apX (a:Rp) (xs:List Rd):Bool:=vp a && (decide ((xs.length:Int)=a.vars) && xs.all vd)
def aov (a:Rp) (xs:List Rd):Rd × Int:=if apX a xs=true then aod xs a.terms aP else (aP,1)
theorem QR {z:Int} {j:Nat} (h:(gz (gU z (-16384 - j))).2=0):zI (gz (gU z (-16384 - j))).1*2 ^ j=z:=by
 unfold gz at h ⊢;by_cases hr:nQ (af (aa (gU z (-16384 - j)).m)) (gU z (-16384 - j)).e=true
 ·rw [if_pos hr];unfold gU at hr ⊢;by_cases h0:z.natAbs=0
  ·have:z=0:=by omega
   rw [this,ez rfl,Int.zero_mul]
  ·obtain ⟨g1,g2,g3,g4⟩:=A3 (neg:=decide (z < 0)) (e:=-16384 - (j:Int)) h0;obtain ⟨t1,t2⟩:=tG h0;have hp:af (aa (bG (decide (z < 0)) z.natAbs (-16384 - j)).m) ≠ 0:=by
    grind [abD]
   have he:=DM hr hp;rw [kG h0];unfold zI mg;rw [aK];have ht:(-16384 - (j:Int)+(tz z.natAbs:Nat)+16384).toNat+j=tz z.natAbs:=by omega
   generalize (-16384 - (j:Int)+(tz z.natAbs:Nat)+16384).toNat=k at ht ⊢;have hm:(((z.natAbs / 2 ^ tz z.natAbs*2 ^ k:Nat):Int))*2 ^ j=z.natAbs:=by
    have:z.natAbs / 2 ^ tz z.natAbs*2 ^ k*2 ^ j=z.natAbs:=by
     grind [Nat.mul_assoc,Nat.pow_add,Nat.mul_comm]
    grind
   grind
 grind
theorem apf {a b:Rd} (h:(Jc a b).2=0):zI (Jc a b).1=zI a+zI b:=by
 unfold Jc at h ⊢;split at h
 ·have:=QR (z:=zI a+zI b) (j:=0) h;grind
 omega
theorem ZS {a b:Rd} (h:(jE a b).2=0):zI (jE a b).1*2 ^ 16384=zI a*zI b:=by
 unfold jE at h ⊢;split at h
 ·rename_i h1;rw [if_pos h1];exact QR (z:=zI a*zI b) (j:=16384) h
 omega
theorem abC {q t:List Int} (h:dx q t < 0):bH q≤bH t:=by
 unfold dx bI at h;omega
theorem QS {v:Int}:∀ (l:List Rt) (pr:Option Rt),uL v pr l=true→∀ u ∈ l.getLast?,∀ t ∈ l,bH t.exps≤bH u.exps
 | [],_,_,u,hu,_,_=>nomatch hu
 | [t],_,_,u,hu,w,hw=>by
  grind
 | t::s::l,pr,h,u,hu,w,hw=>by
  have h2:uL v (some t) (s::l)=true:=by
   simp_all [uL,Bool.and_eq_true]
  have hu2:u ∈ (s::l).getLast?:=by grind
  have ih:=QS (s::l) (some t) h2 u hu2;rcases List.mem_cons.1 hw with h3 | h3
  ·rw [h3];unfold uL at h2;simp only [Bool.and_eq_true] at h2;have h4:dx t.exps s.exps < 0:=of_decide_eq_true h2.2.1;exact Int.le_trans (abC h4) (ih s (List.mem_cons_self ..))
  grind
theorem ZT {a:Rp} (h:yA a=true):vp a=true∧∀ t ∈ a.terms,bH t.exps≤1:=by
 simp only [yA,Bool.and_eq_true,decide_eq_true_eq] at h;refine ⟨h.1,fun t ht=>?_⟩;have h2:=h.2;unfold NQ at h2;rw [if_pos h.1] at h2;cases hl:a.terms.getLast? with
 | none=>grind
 | some u =>
  rw [hl] at h2;exact Int.le_trans (QS a.terms none (LG h.1).2.2.2 u (by omega) t ht) h2
theorem ZU {t:Rt} (h:(t.exps.length:Int)=1):∃ e,t.exps=[e]:=by
 match t.exps,h with
 | [e],_=>grind
 | [],h=>grind
 | _::_::l,h=>grind
theorem NT {q:Nat} {u:Int} (hu:-16384≤u) (h:(gz (bG false q u)).2=0):zI (gz (bG false q u)).1=((q*2 ^ (u+16384).toNat:Nat):Int):=by
 have e1:bG false q u=gU ((q*2 ^ (u+16384).toNat:Nat):Int) (-16384 - (0:Nat)):=by
  unfold gU;rw [decide_eq_false (by omega),Int.natAbs_natCast,wn];grind
 rw [e1] at h ⊢;have:=QR (j:=0) h;omega
theorem Je {q:Nat} {n:Nat} (h:n < af q):2 ^ n≤q:=by
 refine Nat.le_of_not_lt fun h1=>?_;have:=bv.2 h1;omega
theorem FV {M:Nat} {p f:Int} {s t:Nat} {more w:Bool} (h0:M ≠ 0) (hp:8≤p∧p≤512) (hf:f+16384=(s:Int) - t) (hm:more=true→p < (af M:Nat)) (h:(dh M f more p w).2=0) :
  ∃ n:Nat,zI (dh M f more p w).1=(n:Int)∧(w=true→(M+more.toNat)*2 ^ s≤n*2 ^ t)∧(w=false→n*2 ^ t≤M*2 ^ s):=by
 obtain ⟨u,hu⟩:∃ u,dT M f p=u:=⟨_,rfl⟩;have hu1:-16384≤u∧f+(af M:Nat) - p≤u∧(u=-16384∨u=f+(af M:Nat) - p):=by
  grind [dT]
 unfold dh at h ⊢;rw [hu] at h ⊢;obtain ⟨q,hq⟩:∃ q,kM w (oN M f more u)=q:=⟨_,rfl⟩;rw [hq] at h ⊢;have hT:(w=true→(M+more.toNat)*2 ^ s≤q*2 ^ ((u+16384).toNat+t))∧(w=false→q*2 ^ ((u+16384).toNat+t)≤M*2 ^ s):=by
  unfold oN at hq;by_cases h1:u≤f
  ·have hmf:more=false:=by
    grind
   subst hmf;have hq2:q=M*2 ^ (f - u).toNat:=by
    grind [kM]
   rw [hq2,Nat.mul_assoc,← Nat.pow_add,show (f - u).toNat+((u+16384).toNat+t)=s by omega];grind
  ·rw [if_neg h1] at hq;obtain ⟨d,hd⟩:∃ d,(u - f).toNat=d:=⟨_,rfl⟩;rw [hd] at hq;rw [show (u+16384).toNat+t=d+s by omega,Nat.pow_add,← Nat.mul_assoc];have hd:=Nat.div_add_mod M (2 ^ d);have hm:=Nat.mod_lt M (Nat.two_pow_pos d);unfold kM at hq;constructor
   ·intro hw;subst hw;refine Nat.mul_le_mul_right _ ?_;by_cases hz:(more || decide (M % 2 ^ d ≠ 0))=true
    ·rw [hz,Bool.and_true,if_pos rfl] at hq;subst hq;have:=Bool.toNat_le more;grind
    grind
   ·intro hw;subst hw;subst hq;refine Nat.mul_le_mul_right _ ?_;grind
 obtain ⟨h1,h2⟩:=hT;unfold sy at h ⊢;by_cases hb:16384 < (af q:Int)+u
 ·rw [if_pos hb] at h ⊢;cases w with
  | true=>grind
  | false =>
   refine ⟨_,NT (by omega) h,fun hw=>absurd hw Bool.false_ne_true,fun _=>?_⟩;have h3:=h2 rfl;have h4:2 ^ (32768+t)≤M*2 ^ s:=by
    by_cases hb0:af q=0
    ·have hbm:=abD h0;have h5:=Je (show af M - 1 < af M by omega);refine Nat.le_trans ?_ (Nat.mul_le_mul_right _ h5);rw [← Nat.pow_add];exact Nat.pow_le_pow_right (by decide) (by omega)
    ·have h5:=Je (show af q - 1 < af q by omega);refine Nat.le_trans ?_ (Nat.le_trans (Nat.mul_le_mul_right _ h5) h3);rw [← Nat.pow_add];exact Nat.pow_le_pow_right (by decide) (by omega)
   have h7:(2 ^ p.toNat - 1)*2 ^ (16384 - p+16384).toNat*2 ^ t≤2 ^ (32768+t):=by
    rw [Nat.mul_assoc,← Nat.pow_add];refine Nat.le_trans (Nat.mul_le_mul_right _ (Nat.sub_le _ 1)) ?_;rw [← Nat.pow_add];exact Nat.pow_le_pow_right (by decide) (by omega)
   omega
 ·rw [if_neg hb] at h ⊢;refine ⟨_,NT hu1.1 h,fun hw=>?_,fun hw=>?_⟩
  all_goals grind
theorem QT {M:Nat} {f p:Int} {more w:Bool}:vd (dh M f more p w).1=true:=by
 have hc:∀ (q:Nat) (u:Int),vd (gz (bG false q u)).1=true:=fun q u=>by
  have:=(Jd (z:=(q:Int)) (f:=u)).1;grind [gU,decide_eq_false,Int.natAbs_natCast]
 grind [dh,sy,vd,aP]
theorem DV {z p:Int} {j:Nat} {up:Bool} (hp:8≤p∧p≤512) (h:(kN z (-16384 - (j:Int)) p up).2=0):(up=true→z≤zI (kN z (-16384 - (j:Int)) p up).1*2 ^ j)∧(up=false→zI (kN z (-16384 - (j:Int)) p up).1*2 ^ j≤z):=by
 unfold kN at h ⊢;by_cases h0:z=0
 ·rw [if_pos h0,ez rfl,Int.zero_mul,h0];omega
 ·unfold iC at h ⊢;have key:∀ w:Bool,(dh z.natAbs (-16384 - (j:Int)) false p w).2=0→∃ n:Nat,zI (dh z.natAbs (-16384 - (j:Int)) false p w).1=(n:Int)∧(w=true→(z.natAbs:Int)≤(n:Int)*2 ^ j)∧(w=false→(n:Int)*2 ^ j≤(z.natAbs:Int)):=fun w hc=>by
   obtain ⟨n,g1,g2,g3⟩:=FV (s:=0) (t:=j) (by omega) hp (by omega) (fun h=>absurd h Bool.false_ne_true) hc;refine ⟨n,g1,fun hw=>?_,fun hw=>?_⟩
   all_goals grind
  by_cases hn:z < 0
  ·grind [Ja,QT,Int.neg_mul]
  grind
theorem ZV {c:Rd} {p:Int} (vc:vd c=true) (hp:di p=true) (h:(iY c p false).2=0):zI (iY c p false).1≤zI c:=by
 have hp2:8≤p∧p≤512:=by
  simp_all [di,Bool.and_eq_true,decide_eq_true_eq]
 have hf:bp p [c]=0:=by grind [bp]
 unfold iY at h ⊢;rw [if_pos hf] at h ⊢;have:=(DV (j:=0) hp2 h).2 rfl;grind
theorem ZW {c:Rd} {p:Int} (vc:vd c=true) (hp:di p=true) (h:(iY c p true).2=0):zI c≤zI (iY c p true).1:=by
 have hp2:8≤p∧p≤512:=by
  simp_all [di,Bool.and_eq_true,decide_eq_true_eq]
 have hf:bp p [c]=0:=by grind [bp]
 unfold iY at h ⊢;rw [if_pos hf] at h ⊢;have:=(DV (j:=0) hp2 h).1 rfl;grind
def pK (T V:Nat):Nat:=min 4294967295 (T / V)
theorem XK {T L V2 M v w k W V:Nat} (hW:W=T*4294967296 ^ k+L) (hV:V=V2*4294967296 ^ k+M) (hL:L < 4294967296 ^ k) (hM:M < 4294967296 ^ k) (h2:V2=v*4294967296+w) (hv:2147483648≤v) (hlt:W < 4294967296*V) :
  W / V≤pK T V2∧pK T V2≤W / V+1:=by
 generalize 4294967296 ^ k=b at *
 have hV2:9223372036854775808≤V2:=by omega
 have hVp:0 < V:=by
  omega
 have hV2p:0 < V2:=by omega
 constructor
 ·refine Nat.le_min.2 ⟨?_,?_⟩
  ·have:=(Nat.div_lt_iff_lt_mul hVp).2 hlt;omega
  ·rw [Nat.le_div_iff_mul_le hV2p];have h1:W / V*V≤W:=Nat.div_mul_le_self W V;have h3:W / V*V2*b≤W / V*V:=by
    simp_all [Nat.mul_assoc,Nat.mul_le_mul_left]
   have h4:W / V*V2*b < (T+1)*b:=by
    grind
   have:=Nat.lt_of_mul_lt_mul_right h4;omega
 ·have hg:pK T V2*V2≤T:=by
   refine Nat.le_trans (Nat.mul_le_mul_right V2 (Nat.min_le_right _ _)) (Nat.div_mul_le_self T V2)
  have hg2:pK T V2≤4294967295:=Nat.min_le_left _ _;generalize pK T V2=g at *
  have h1:g*V=g*V2*b+g*M:=by grind
  have h2':g*V2*b≤T*b:=Nat.mul_le_mul_right b hg;have h3:g*M≤4294967295*b:=Nat.mul_le_mul hg2 (Nat.le_of_lt hM);have h4:9223372036854775808*b≤V2*b:=Nat.mul_le_mul_right b hV2;have h5:g*V < W+V:=by omega
  cases g with
  | zero=>grind
  | succ g =>
   rw [Nat.add_mul,Nat.one_mul] at h5;exact Nat.succ_le_succ ((Nat.le_div_iff_mul_le hVp).2 (by omega))
theorem NU {q rest third v w T V:Nat} (hT:T=(q*v+rest)*4294967296+third) (hV:V=v*4294967296+w) (hVp:0 < V) (hw:w < 4294967296) (hq:q≤4294967296) :
  (rest < 4294967296∧rest*4294967296+third < q*w→T / V < q)∧(¬ (rest < 4294967296∧rest*4294967296+third < q*w)→q≤T / V):=by
 have e1:q*V=q*v*4294967296+q*w:=by grind
 constructor
 ·rw [Nat.div_lt_iff_lt_mul hVp];omega
 ·rw [Nat.le_div_iff_mul_le hVp];by_cases h1:rest < 4294967296
  ·omega
  ·have:q*w≤4294967296*4294967296:=Nat.mul_le_mul hq (Nat.le_of_lt hw);omega
theorem P0 {top next third v w:Nat} (hv:0 < v) (hvb:v < 4294967296) (ht:top≤v) (hn:next < 4294967296) (h3:third < 4294967296) :
  min (if v≤top then 4294967295 else (top*4294967296+next) / v) (((top*4294967296+next)*4294967296+third) / (v*4294967296+w))=pK ((top*4294967296+next)*4294967296+third) (v*4294967296+w):=by
 unfold pK;by_cases h:v≤top
 ·rw [if_pos h]
 ·rw [if_neg h];have h1:((top*4294967296+next)*4294967296+third) / (v*4294967296+w)≤(top*4294967296+next) / v:=by
   rw [Nat.le_div_iff_mul_le hv];have h2:=Nat.div_mul_le_self ((top*4294967296+next)*4294967296+third) (v*4294967296+w);grind
  have h2:(top*4294967296+next) / v < 4294967296:=by
   rw [Nat.div_lt_iff_lt_mul hv];omega
  omega
def mT (q:Nat):List Nat→List Nat→Nat→Nat→List Nat × Nat × Nat
 | u::us,y::vs,c,b=>(((u+18446744073709551616 - (q*y+c) % 4294967296 - b) % 18446744073709551616 % 4294967296)::(mT q us vs ((q*y+c) / 4294967296) ((u+18446744073709551616 - (q*y+c) % 4294967296 - b) % 18446744073709551616 / 9223372036854775808)).1,(mT q us vs ((q*y+c) / 4294967296) ((u+18446744073709551616 - (q*y+c) % 4294967296 - b) % 18446744073709551616 / 9223372036854775808)).2)
 | _,_,c,b=>([],c,b)
theorem Jf {u s b:Nat} (hu:u < 4294967296) (hs:s < 4294967296) (hb:b≤1) :
  (u+18446744073709551616 - s - b) % 18446744073709551616 / 9223372036854775808≤1∧(u+18446744073709551616 - s - b) % 18446744073709551616 % 4294967296+s+b=u+4294967296*((u+18446744073709551616 - s - b) % 18446744073709551616 / 9223372036854775808):=by
 omega
theorem NV {q:Nat} (hq:q < 4294967296):∀ {us vs:List Nat} {c b:Nat},Lb us→Lb vs→us.length=vs.length→c < 4294967296→b≤1 →
  aa us+4294967296 ^ vs.length*((mT q us vs c b).2.1+(mT q us vs c b).2.2)=aa (mT q us vs c b).1+q*aa vs+c+b∧(mT q us vs c b).2.1 < 4294967296∧(mT q us vs c b).2.2≤1∧Lb (mT q us vs c b).1∧(mT q us vs c b).1.length=vs.length
 | [],[],c,b,_,_,_,hc,hb=>by
  refine ⟨?_,hc,hb,fun x hx=>(nomatch hx),rfl⟩;show 0+4294967296 ^ 0*(c+b)=0+q*0+c+b;omega
 | u::us,y::vs,c,b,hu,hv,hl,hc,hb=>by
  have hu0:=hu u (by simp);have hy0:=hv y (by simp);have hp:q*y+c < 4294967296*4294967296:=by
   have h1:q*y≤4294967295*4294967295:=Nat.mul_le_mul (by omega) (by omega);omega
  have hs:=Nat.mod_lt (q*y+c) (by decide:0 < 4294967296);have hd:=Nat.div_add_mod (q*y+c) 4294967296;have hc2:(q*y+c) / 4294967296 < 4294967296:=by
   omega
  obtain ⟨k1,k2⟩:=Jf (b:=b) hu0 hs hb;have ih:=NV hq (us:=us) (vs:=vs) (c:=(q*y+c) / 4294967296) (b:=(u+18446744073709551616 - (q*y+c) % 4294967296 - b) % 18446744073709551616 / 9223372036854775808) (fun x hx=>hu x (by grind)) (fun x hx=>hv x (by grind)) (by grind) hc2 k1;obtain ⟨i1,i2,i3,i4,i5⟩:=ih;unfold mT;generalize (u+18446744073709551616 - (q*y+c) % 4294967296 - b) % 18446744073709551616 / 9223372036854775808=b2 at *
  generalize (q*y+c) / 4294967296=c2 at *
  generalize mT q us vs c2 b2=r at *
  refine ⟨?_,i2,i3,fun x hx=>?_,by grind⟩
  ·grind [aa,Nat.pow_succ,Nat.mul_comm,Nat.mul_assoc,Nat.mul_add,Nat.mul_left_comm]
  ·rcases List.mem_cons.1 hx with rfl | hx
   ·omega
   ·exact i4 x hx
 | [],_::_,_,_,_,_,h,_,_=>by grind
 | _::_,[],_,_,_,_,h,_,_=>by grind
def ja (q top:Nat) (us vs:List Nat):List Nat × Nat × Bool :=
 ((mT q us vs 0 0).1,(top+18446744073709551616 - (mT q us vs 0 0).2.1 - (mT q us vs 0 0).2.2) % 18446744073709551616 % 4294967296,decide ((top+18446744073709551616 - (mT q us vs 0 0).2.1 - (mT q us vs 0 0).2.2) % 18446744073709551616 / 9223372036854775808=1))
theorem Jg {q top:Nat} {us vs:List Nat} (hq:q < 4294967296) (ht:top < 4294967296) (hu:Lb us) (hv:Lb vs) (hl:us.length=vs.length) :
  (aa us+4294967296 ^ vs.length*top+(if (ja q top us vs).2.2=true then 4294967296 ^ vs.length*4294967296 else 0)=aa (ja q top us vs).1+4294967296 ^ vs.length*(ja q top us vs).2.1+q*aa vs)∧(ja q top us vs).2.1 < 4294967296∧Lb (ja q top us vs).1∧(ja q top us vs).1.length=vs.length:=by
 obtain ⟨h1,h2,h3,h4,h5⟩:=NV hq hu hv hl (c:=0) (b:=0) (by decide) (by decide);unfold ja;generalize mT q us vs 0 0=r at *
 obtain ⟨r1,c,b⟩:=r;refine ⟨?_,Nat.mod_lt _ (by decide),h4,h5⟩;obtain ⟨k1,k2⟩:=Jf (u:=top) (s:=c) (b:=b) ht h2 h3;generalize (top+18446744073709551616 - c - b) % 18446744073709551616 / 9223372036854775808=f at *
 generalize (top+18446744073709551616 - c - b) % 18446744073709551616 % 4294967296=t2 at *
 have e1:4294967296 ^ vs.length*(c+b)+4294967296 ^ vs.length*t2=4294967296 ^ vs.length*top+4294967296 ^ vs.length*4294967296*f:=by
  grind
 grind
def sN (top:Nat) (us:List Nat):Nat:=(top*4294967296+us.getD (us.length - 1) 0)*4294967296+us.getD (us.length - 2) 0
def rj (vs:List Nat):Nat:=vs.getD (vs.length - 1) 0*4294967296+vs.getD (vs.length - 2) 0
def qp (top:Nat) (us vs:List Nat):List Nat × Nat × Nat :=
 if (ja (pK (sN top us) (rj vs)) top us vs).2.2=true then
  (bV (ja (pK (sN top us) (rj vs)) top us vs).1 vs vs.length,((ja (pK (sN top us) (rj vs)) top us vs).2.1+cry (ja (pK (sN top us) (rj vs)) top us vs).1 vs vs.length) % 4294967296,pK (sN top us) (rj vs) - 1)
 else ((ja (pK (sN top us) (rj vs)) top us vs).1,(ja (pK (sN top us) (rj vs)) top us vs).2.1,pK (sN top us) (rj vs))
theorem NW {l:List Nat} {k:Nat} (h:l.length=k+2):aa l=(l.getD (k+1) 0*4294967296+l.getD k 0)*4294967296 ^ k+aa (l.take k):=by
 have h1:=dm l (k+1);have h2:=dm l k;grind
theorem Vv {top:Nat} {us vs:List Nat} {k:Nat} (ht:top < 4294967296) (hu:Lb us) (hv:Lb vs) (hul:us.length=k+2) (hvl:vs.length=k+2) (hn:2147483648≤vs.getD (k+1) 0) (hlt:aa us+4294967296 ^ (k+2)*top < 4294967296*aa vs) :
  aa (qp top us vs).1+4294967296 ^ (k+2)*(qp top us vs).2.1=(aa us+4294967296 ^ (k+2)*top) % aa vs∧(qp top us vs).2.2=(aa us+4294967296 ^ (k+2)*top) / aa vs∧Lb (qp top us vs).1∧(qp top us vs).1.length=k+2∧(qp top us vs).2.1 < 4294967296:=by
 obtain ⟨W,hW⟩:∃ W,aa us+4294967296 ^ (k+2)*top=W:=⟨_,rfl⟩;obtain ⟨V,hV⟩:∃ V,aa vs=V:=⟨_,rfl⟩;have a1:=NW hul;have a2:=NW hvl;have l1:=bR (dC hu k);have l2:=bR (dC hv k);rw [List.length_take,Nat.min_eq_left (by omega)] at l1 l2;have hT:W=sN top us*4294967296 ^ k+aa (us.take k):=by
  unfold sN;grind
 have hV2:V=rj vs*4294967296 ^ k+aa (vs.take k):=by
  grind [rj]
 rw [hW] at hlt ⊢;rw [hV] at hlt ⊢;obtain ⟨g1,g2⟩:=XK hT hV2 l1 l2 (show rj vs=vs.getD (k+1) 0*4294967296+vs.getD k 0 by grind [rj]) hn hlt;have hgb:pK (sN top us) (rj vs) < 4294967296:=by
  grind [pK,sN,rj,Nat.min_le_left]
 unfold qp;generalize pK (sN top us) (rj vs)=g at *
 obtain ⟨t1,t2,t3,t4⟩:=Jg (q:=g) hgb ht hu hv (by omega);generalize ja g top us vs=r at *
 obtain ⟨r1,r2,f⟩:=r;simp only at t1 t2 t3 t4 ⊢;rw [hvl,hW,hV] at t1;rw [hvl] at t4;have hVp:0 < V:=by
  omega
 have hdm:=Nat.div_add_mod W V;have hml:=Nat.mod_lt W hVp;have hVb:V < 4294967296 ^ (k+2):=by grind [bR]
 have hrb:aa r1 < 4294967296 ^ (k+2):=by grind [bR]
 generalize hB:4294967296 ^ (k+2)=b at *
 cases f with
 | false =>
  simp only [Bool.false_eq_true,if_false,Nat.add_zero] at t1 ⊢;have h1:g≤W / V:=(Nat.le_div_iff_mul_le hVp).2 (by omega);have h2:g=W / V:=Nat.le_antisymm h1 g1;refine ⟨?_,h2,t3,t4,t2⟩;rw [h2,Nat.mul_comm (W / V) V] at t1;omega
 | true =>
  simp only [if_true] at t1 ⊢;have hbr:b*r2+aa r1 < b*4294967296:=by
   have h1:b*(r2+1)≤b*4294967296:=Nat.mul_le_mul_left b (by omega);rw [Nat.mul_add,Nat.mul_one] at h1;omega
  have h1:¬ g≤W / V:=fun h=>by
   have:=(Nat.le_div_iff_mul_le hVp).1 h;omega
  have h2:g=W / V+1:=by omega
  have s1:=AO r1 vs (k+2);rw [hB,List.take_of_length_le (by omega),List.take_of_length_le (by omega),hV] at s1;have s2:=IK r1 vs (k+2);have s3:(bV r1 vs (k+2)).length=k+2:=by unfold bV; rw [List.length_map,List.length_range]
  have s4:aa (bV r1 vs (k+2)) < b:=by
   have:=bR s2;rw [s3,hB] at this;exact this
  rw [hvl];refine ⟨?_,by show g - 1=W / V; rw [h2,Nat.add_sub_cancel],s2,s3,Nat.mod_lt _ (by decide)⟩;rw [h2,Nat.add_mul,Nat.one_mul,Nat.mul_comm (W / V) V] at t1;have e1:aa (bV r1 vs (k+2))+b*(cry r1 vs (k+2)+r2)=b*4294967296+W % V:=by
   rw [Nat.mul_add];omega
  have hc:cry r1 vs (k+2)+r2=4294967296:=by
   have h3:¬ cry r1 vs (k+2)+r2 < 4294967296:=fun h=>by
    have h4:b*(cry r1 vs (k+2)+r2+1)≤b*4294967296:=Nat.mul_le_mul_left b h;rw [Nat.mul_add b _ 1,Nat.mul_one] at h4;omega
   have h5:¬ 4294967296 < cry r1 vs (k+2)+r2:=fun h=>by
    have h4:b*(4294967296+1)≤b*(cry r1 vs (k+2)+r2):=Nat.mul_le_mul_left b h;omega
   omega
  rw [hc] at e1;rw [Nat.add_comm r2,hc,Nat.mod_self,Nat.mul_zero];omega
def jN (u:List Nat) (j:Nat) (us:List Nat) (top:Nat):List Nat:=u.take j++(us++top::u.drop (j+us.length+1))
def rk (vs:List Nat):Nat→List Nat→List Nat × List Nat
 | 0,u=>(u,[])
 | j+1,u=>((rk vs j (jN u j (qp (u.getD (j+vs.length) 0) ((u.drop j).take vs.length) vs).1 (qp (u.getD (j+vs.length) 0) ((u.drop j).take vs.length) vs).2.1)).1,
   (rk vs j (jN u j (qp (u.getD (j+vs.length) 0) ((u.drop j).take vs.length) vs).1 (qp (u.getD (j+vs.length) 0) ((u.drop j).take vs.length) vs).2.1)).2++[(qp (u.getD (j+vs.length) 0) ((u.drop j).take vs.length) vs).2.2])
theorem yB (l:List Nat) (i:Nat) (h:i≤l.length):aa l=aa (l.take i)+4294967296 ^ i*aa (l.drop i):=by
 grind [cO,List.take_append_drop,List.length_take,Nat.min_eq_left]
theorem XL (l:List Nat) (x:Nat):aa (l++[x])=aa l+4294967296 ^ l.length*x:=by
 rw [cO];show _+_*(x+4294967296*0)=_;grind
theorem QU {u:List Nat} {j n V:Nat} (hu:Lb u) (hl:j+n < u.length) (hV:V < 4294967296 ^ n) (h:aa (u.drop (j+1)) < V) :
  aa ((u.drop j).take n)+4294967296 ^ n*u.getD (j+n) 0=aa (u.drop j)∧aa (u.drop (j+n+1))=0∧aa (u.drop j) < 4294967296*V:=by
 have h0:=dv u j;have hj:=bt hu j;have h1:=yB (u.drop j) (n+1) (by grind);rw [List.drop_drop,dm] at h1;have h2:(u.drop j).getD n 0=u.getD (j+n) 0:=by
  grind
 rw [h2,show j+(n+1)=j+n+1 by omega] at h1;have h4:aa (u.drop (j+n+1))=0:=by
  refine Nat.eq_zero_of_not_pos fun hp=>?_;have:4294967296 ^ (n+1)*1≤4294967296 ^ (n+1)*aa (u.drop (j+n+1)):=Nat.mul_le_mul_left _ hp;omega
 grind
theorem xN {u us:List Nat} {j top:Nat} (h:j+us.length < u.length):(jN u j us top).length=u.length:=by
 grind [jN,List.length_append,List.length_cons,List.length_take,List.length_drop]
theorem Jh {u us:List Nat} {j top:Nat} (hu:Lb u) (hs:Lb us) (ht:top < 4294967296):Lb (jN u j us top):=by
 grind [jN,i8,fH,dC,jh]
theorem CZ {u us:List Nat} {j top:Nat} (h:j≤u.length):(jN u j us top).drop j=us++top::u.drop (j+us.length+1):=by
 unfold jN;rw [List.drop_append_of_le_length (by rw [List.length_take]; omega),List.drop_of_length_le (by rw [List.length_take]; omega),List.nil_append]
theorem Vw {u us:List Nat} {j top:Nat} (h:j≤u.length):(jN u j us top).take j=u.take j:=by
 unfold jN;rw [List.take_append_of_le_length (by rw [List.length_take]; omega),List.take_take,Nat.min_self]
theorem w2' {u:List Nat} {j n s2:Nat} (h:aa (u.drop (j+n+1))=0):aa (s2::u.drop (j+n+1))=s2:=by
 simp_all [aa,Nat.mul_zero,Nat.add_zero]
theorem Vx {vs:List Nat} {k:Nat} (hv:Lb vs) (hvl:vs.length=k+2) (hn:2147483648≤vs.getD (k+1) 0) :
  ∀ (j:Nat) (u:List Nat),Lb u→j+(k+2)≤u.length→aa (u.drop j) < aa vs→aa u=aa (rk vs j u).1+aa vs*aa (rk vs j u).2∧aa (rk vs j u).1 < aa vs∧(rk vs j u).2.length=j∧(rk vs j u).1.length=u.length∧Lb (rk vs j u).1∧Lb (rk vs j u).2
 | 0,u,hu,_,h=>by
  refine ⟨?_,h,rfl,rfl,hu,fun x hx=>(nomatch hx)⟩;show aa u=aa u+aa vs*0;omega
 | j+1,u,hu,hl,h=>by
  have hVb:aa vs < 4294967296 ^ (k+2):=by grind [bR]
  obtain ⟨w1,w2,w3⟩:=QU (n:=k+2) hu (by omega) hVb h;have hlen:((u.drop j).take (k+2)).length=k+2:=by grind
  have hs:=Vv (top:=u.getD (j+(k+2)) 0) (bt hu _) (dC (jh hu j) (k+2)) hv hlen hvl hn (by omega);rw [w1] at hs;unfold rk;rw [hvl];generalize qp (u.getD (j+(k+2)) 0) ((u.drop j).take (k+2)) vs=s at *
  obtain ⟨s1,s2,s3⟩:=s;obtain ⟨d1,d2,d3,d4,d5⟩:=hs;simp only at d1 d2 d3 d4 d5 ⊢;have hd:aa ((jN u j s1 s2).drop j)=aa (u.drop j) % aa vs:=by
   grind [CZ,cO,w2']
  have hVp:0 < aa vs:=by omega
  have ih:=Vx hv hvl hn j (jN u j s1 s2) (Jh hu d3 d5) (by grind [xN]) (by simp_all [Nat.mod_lt]);obtain ⟨i1,i2,i3,i4,i5,i6⟩:=ih;have hval:=yB (jN u j s1 s2) j (by grind [xN]);rw [Vw (by omega),hd] at hval;have hval2:=yB u j (by omega);generalize rk vs j (jN u j s1 s2)=r at *
  obtain ⟨r1,r2⟩:=r;refine ⟨?_,i2,by grind,by rw [i4,xN (by omega)],i5,?_⟩
  ·grind [XL,Nat.mul_add,Nat.div_add_mod,aa,Nat.mul_left_comm,Nat.add_comm]
  ·rw [i8];refine ⟨i6,fun x hx=>?_⟩
   simp_all [Nat.div_lt_iff_lt_mul]
attribute [-go_sem] GF DH in
theorem Tn {third v w T V:Nat} (hV:V=v*4294967296+w) (hv:2147483648≤v) (hvb:v < 4294967296) (hw:w < 4294967296) (h3:third < 4294967296) :
  ∀ (k q rest:Nat),4294967296≤rest+k*2147483648→q≤4294967295→rest < 8589934592→T=(q*v+rest)*4294967296+third→∀ (s:ae) (h:ac),s 0=W q→s 1=W rest→s 2=U third→s 3=U v→s 4=U w →
  ∃ hh,ap 0 [0] (aq (ak R (aG false) ed) [0,1,2,3,4] [] s h)=some (.normal,⟨upd (fun _=>.any) 0 (W (min q (T / V):Nat)),hh⟩):=by
 intro k;induction k with
 | zero =>
  intro q rest hk hq hr hT s h g0 g1 g2 g3 g4;have hs:=(NU (q:=q) hT hV (by omega) hw (by omega)).2 (fun h=>by omega);have e1:((rest:Int) < 4294967296)=False:=ff (by omega);rw [Nat.min_eq_left hs,ai];refine ⟨fun _=>.dead,?_⟩;simp only [ed,go_sem,g0,g1,g2,g3,g4,e1]
 | succ k ih =>
  intro q rest hk hq hr hT s h g0 g1 g2 g3 g4;have hd:=NU (q:=q) hT hV (by omega) hw (by omega);by_cases hlt:rest < 4294967296
  ·have e1:((rest:Int) < 4294967296)=True:=tt (by omega);have hqw:q*w≤4294967295*4294967295:=Nat.mul_le_mul hq (by omega);have e2:IntKind.u64.wrap ((q:Int)*(w:Int))=((q*w:Nat):Int):=cI (by simp) (by omega);have e3:=yq (n:=rest) (k:=32) (i:=(rest:Int)) (kk:=.u64) (j:=32) rfl rfl (by decide) (by omega);have e4:=FJ (m:=rest*2 ^ 32) (n:=third) (i:=((rest*2 ^ 32:Nat):Int)) (j:=(third:Int)) rfl rfl (by omega) (by omega);rw [xE (x:=rest) (c:=third) (k:=32) (by omega)] at e4;have e5:IntKind.u64.wrap (third:Int)=third:=cI rfl (by omega);have e6:IntKind.u64.wrap (w:Int)=w:=cI rfl (by omega);have e7:IntKind.u64.wrap (v:Int)=v:=cI rfl (by omega);by_cases hc:rest*4294967296+third < q*w
   ·have e8:(((rest*2 ^ 32+third:Nat):Int) < ((q*w:Nat):Int))=True:=tt (by omega);have hq1:1≤q:=Nat.pos_of_ne_zero fun h0=>by grind
    have e9:IntKind.u64.wrap ((q:Int) - 1)=((q - 1:Nat):Int):=cI (by omega) (by omega);have e10:IntKind.u64.wrap ((rest:Int)+(v:Int))=((rest+v:Nat):Int):=cI (by simp) (by omega);have hT2:T=((q - 1)*v+(rest+v))*4294967296+third:=by
     rw [hT,Nat.sub_mul,Nat.one_mul];have:v≤q*v:=Nat.le_mul_of_pos_left v hq1;omega
    have ih':=ih (q - 1) (rest+v) (by omega) (by omega) (by omega) hT2;have hm:min q (T / V)=min (q - 1) (T / V):=by omega
    rw [hm,ai];simp only [ed,go_sem,g0,g1,g2,g3,g4,e1,e2,e3,e4,e5,e6,e7,e8,e9,e10];exact ih' _ _ rfl rfl rfl rfl rfl
   ·have e8:(((rest*2 ^ 32+third:Nat):Int) < ((q*w:Nat):Int))=False:=ff (by omega);have hs:=hd.2 (fun h=>hc h.2);rw [Nat.min_eq_left hs,ai];refine ⟨fun _=>.dead,?_⟩;simp only [ed,go_sem,g0,g1,g2,g3,g4,e1,e2,e3,e4,e5,e6,e8]
  ·have hs:=hd.2 (fun h=>hlt h.1);have e1:((rest:Int) < 4294967296)=False:=ff (by omega);rw [Nat.min_eq_left hs,ai];refine ⟨fun _=>.dead,?_⟩;simp only [ed,go_sem,g0,g1,g2,g3,g4,e1]
theorem ZX {q rest third v w T V:Nat} (hV:V=v*4294967296+w) (hv:2147483648≤v) (hvb:v < 4294967296) (hw:w < 4294967296) (h3:third < 4294967296) (hq:q≤4294967295) (hr:rest < 8589934592) (hT:T=(q*v+rest)*4294967296+third) (s:ae) (h:ac) (X:Option (Ex × St)) (hX:ap 0 [0] (aq (ak R (aG false) ed) [0,1,2,3,4] [] s h)=X) (g0:s 0=W q) (g1:s 1=W rest) (g2:s 2=U third) (g3:s 3=U v) (g4:s 4=U w) :
  ∃ hh,X=some (.normal,⟨upd (fun _=>.any) 0 (W (min q (T / V):Nat)),hh⟩):=by
 subst hX;exact Tn hV hv hvb hw h3 2 q rest (by omega) hq hr hT s h g0 g1 g2 g3 g4
theorem NX {q rest third v w T V:Nat} (hV:V=v*4294967296+w) (hv:2147483648≤v) (hvb:v < 4294967296) (hw:w < 4294967296) (h3:third < 4294967296) (hq:q≤4294967295) (hr:rest < 8589934592) (hT:T=(q*v+rest)*4294967296+third) :
  R F.natural_digit [W q,W rest,U third,U v,U w] []=some (W (min q (T / V):Nat),[]):=by
 refine aE anx rfl ?_;have hl:=ZX hV hv hvb hw h3 hq hr hT;simp only [xv,yp,go_sem];generalize hX:ap 0 _ _=X;obtain ⟨hh,rfl⟩:=hl _ _ _ hX rfl rfl rfl rfl rfl;simp only [go_sem]
attribute [-go_sem] GF DH in
theorem XM {top next third v w:Nat} (hv:2147483648≤v) (hvb:v < 4294967296) (ht:top≤v) (hn:next < 4294967296) (h3:third < 4294967296) (hw:w < 4294967296) :
  R F.natural_guess [U top,U next,U third,U v,U w] []=some (W (pK ((top*4294967296+next)*4294967296+third) (v*4294967296+w):Nat),[]):=by
 refine aE anv rfl ?_;rw [← P0 (by omega) hvb ht hn h3];have c1:IntKind.u64.wrap (next:Int)=next:=cI rfl (by omega)
 have c2:IntKind.u64.wrap (v:Int)=v:=cI rfl (by omega);have c3:IntKind.u64.wrap (top:Int)=top:=cI rfl (by omega);by_cases h:v≤top
 ·have e1:((v:Int)≤(top:Int))=True:=tt (by omega);rw [if_pos h];have e2:IntKind.u32.wrap ((top:Int) - (v:Int))=0:=by
   rw [show (top:Int) - (v:Int)=0 by omega];rfl
  have e3:IntKind.u64.wrap 0=0:=rfl;have e4:=yq (n:=0) (k:=32) (i:=0) (kk:=.u64) (j:=32) rfl rfl (by decide) (by decide);have e5:IntKind.u64.wrap (0+(next:Int))=next:=cI (by omega) (by omega)
  have e6:IntKind.u64.wrap ((next:Int)+(v:Int))=((next+v:Nat):Int):=cI (by simp) (by omega);have hd:=NX (q:=4294967295) (rest:=next+v) (third:=third) (v:=v) (w:=w) (T:=(top*4294967296+next)*4294967296+third) rfl hv hvb hw h3 (by decide) (by omega) (by
   omega)
  have e7:(((4294967295:Nat):Int))=4294967295:=rfl;rw [e7] at hd;rw [Nat.zero_mul] at e4;simp only [Int.natCast_zero] at e4;simp only [qO,sv,go_sem,am4,am3,e1,e2,e3,e4,e5,e6,c1,c2,hd]
 ·have e1:((v:Int)≤(top:Int))=False:=ff (by omega);rw [if_neg h];have e4:=yq (n:=top) (k:=32) (i:=(top:Int)) (kk:=.u64) (j:=32) rfl rfl (by decide) (by omega);have e5:=FJ (m:=top*2 ^ 32) (n:=next) (i:=((top*2 ^ 32:Nat):Int)) (j:=(next:Int)) rfl rfl (by omega) (by omega);rw [xE (x:=top) (c:=next) (k:=32) (by omega),show top*2 ^ 32+next=top*4294967296+next from rfl] at e5;obtain ⟨N,hN⟩:∃ N,top*4294967296+next=N:=⟨_,rfl⟩
  rw [hN] at e5 ⊢;have hNb:N < 18446744073709551616:=by omega
  have e6:cK .quo (W N) (W v)=some (W (N / v:Nat)):=by
   rw [Ij,if_neg (by omega),Int.tdiv_eq_ediv_of_nonneg (by omega)];have:N / v≤N:=Nat.div_le_self _ _;grind [cI]
  have e7:cK .rem (W N) (W v)=some (W (N % v:Nat)):=by
   rw [DG,if_neg (by omega),Int.tmod_eq_emod_of_nonneg (by omega)];rfl
  have hm:=Nat.mod_lt N (show 0 < v by omega);have hq:N / v≤4294967295:=by
   have:N / v < 4294967296:=by
    rw [Nat.div_lt_iff_lt_mul (by omega)];omega
   omega
  have hd:=NX (q:=N / v) (rest:=N % v) (third:=third) (v:=v) (w:=w) (T:=N*4294967296+third) rfl hv hvb hw h3 hq (by omega) (by
   rw [Nat.mul_comm (N / v) v,Nat.div_add_mod])
  simp only [qO,sv,go_sem,am4,am3,e1,e4,e5,e6,e7,c1,c2,c3,hd]
attribute [-go_sem] GF DH in
theorem XN {a b y:Nat} (hay:a < y) (hy:y < 4294967296) (hb:b < 4294967296) :
  R F.bits_Div32 [U a,U b,U y] []=some (.tup [U ((a*4294967296+b) / y:Nat),U ((a*4294967296+b) % y:Nat)],[]):=by
 refine aE anE rfl ?_;have e1:((y:Int)=0)=False:=ff (by omega);have e2:((y:Int)≤(a:Int))=False:=ff (by omega);have c1:IntKind.u64.wrap (a:Int)=a:=cI rfl (by omega);have c2:IntKind.u64.wrap (b:Int)=b:=cI rfl (by omega);have c3:IntKind.u64.wrap (y:Int)=y:=cI rfl (by omega);have e4:=yq (n:=a) (k:=32) (i:=(a:Int)) (kk:=.u64) (j:=32) rfl rfl (by decide) (by omega);have e5:=FJ (m:=a*2 ^ 32) (n:=b) (i:=((a*2 ^ 32:Nat):Int)) (j:=(b:Int)) rfl rfl (by omega) (by omega);rw [xE (x:=a) (c:=b) (k:=32) (by omega),show a*2 ^ 32+b=a*4294967296+b from rfl] at e5;rw [show a*2 ^ 32=a*4294967296 from rfl] at e4 e5;obtain ⟨N,hN⟩:∃ N,a*4294967296+b=N:=⟨_,rfl⟩;rw [hN] at e5 ⊢;have e6:cK .quo (W N) (W y)=some (W (N / y:Nat)):=by
  rw [Ij,if_neg (by omega),Int.tdiv_eq_ediv_of_nonneg (by omega)];have:N / y≤N:=Nat.div_le_self _ _;rw [cI (n:=N / y) (by simp) (by omega)]
 have e7:cK .rem (W N) (W y)=some (W (N % y:Nat)):=by
  rw [DG,if_neg (by omega),Int.tmod_eq_emod_of_nonneg (by omega)];rfl
 have hm:=Nat.mod_lt N (show 0 < y by omega);have hq:N / y < 4294967296:=by
  rw [Nat.div_lt_iff_lt_mul (by omega)];have h3:(a+1)*4294967296≤y*4294967296:=Nat.mul_le_mul_right _ (by omega);rw [Nat.mul_comm 4294967296 y];omega
 have w1:IntKind.u32.wrap ((N / y:Nat):Int)=((N / y:Nat):Int):=vN rfl hq;have w2:IntKind.u32.wrap ((N % y:Nat):Int)=((N % y:Nat):Int):=vN rfl (by omega);simp only [BJ,CC,go_sem,am4,am3,e1,e2,e4,e5,e6,e7,c1,c2,c3,w1,w2]
def cT (y:Nat):List Nat→List Nat × Nat
 | []=>([],0)
 | x::l=>(((cT y l).2*4294967296+x) / y::(cT y l).1,((cT y l).2*4294967296+x) % y)
theorem wx {y:Nat} (hy:0 < y):∀ {l:List Nat},Lb l→aa l=aa (cT y l).1*y+(cT y l).2∧(cT y l).2 < y∧(cT y l).1.length=l.length
 | [],_=>⟨by simp [cT,aa],hy,rfl⟩
 | x::l,hl=>by
  obtain ⟨h1,h2,h3⟩:=wx hy (l:=l) fun z hz=>hl z (by simp [hz]);unfold cT;refine ⟨?_,Nat.mod_lt _ hy,by simp [h3]⟩;show x+4294967296*aa l=(((cT y l).2*4294967296+x) / y+4294967296*aa (cT y l).1)*y+((cT y l).2*4294967296+x) % y;have hm:=Nat.div_add_mod ((cT y l).2*4294967296+x) y;rw [Nat.mul_comm] at hm;rw [Nat.add_mul,Nat.mul_assoc];generalize ((cT y l).2*4294967296+x) / y*y=A at *
  omega
theorem QV {y:Nat} (hy:0 < y) (hyb:y < 4294967296):∀ {l:List Nat},Lb l→Lb (cT y l).1
 | [],_=>fun x hx=>(nomatch hx)
 | x::l,hl=>by
  have hl':Lb l:=fun z hz=>hl z (by simp [hz]);have h2:=(wx hy hl').2.1;have hx:=hl x (by simp);intro z hz;rcases List.mem_cons.1 hz with h | h
  ·rw [h];show ((cT y l).2*4294967296+x) / y < 4294967296;rw [Nat.div_lt_iff_lt_mul hy];have h3:((cT y l).2+1)*4294967296≤y*4294967296:=Nat.mul_le_mul_right _ (by omega);rw [Nat.mul_comm 4294967296 y];omega
  ·exact QV hy hyb hl' z h
theorem XO {a:List Nat} (ha:Lb a) {y:Nat} (hy:0 < y) (hyb:y < 4294967296) (h1:a.length≤100000) :
  ∀ (m:Nat),m≤a.length→∀ (s:ae) (h:ac),s 0=lm a→s 1=U y→s 6=.rsl 11 none 1 0 a.length→s 7=U ((cT y (a.drop m)).2:Nat)→s 8=I ((m:Int) - 1)→h 11=.ar 1 (az (List.replicate m 0++(cT y (a.drop m)).1)) →
  ∃ hh,ap 0 [6,7] (aq (ak R (aG false) ie) [0,1,6,7,8] [11] s h)=some (.normal,⟨upd (upd (fun _=>.any) 7 (U ((cT y a).2:Nat))) 6 (.rsl 11 none 1 0 a.length),hh⟩)∧hh 11=.ar 1 (az (cT y a).1)∧(∀ x,x ≠ 11→hh x=.dead):=by
 intro m;induction m with
 | zero =>
  intro hm s h g0 g1 g6 g7 g8 k11;have e1:(0≤(((0:Nat):Int) - 1))=False:=ff (by omega);rw [ai];refine ⟨?hh0,?_,?_,?_⟩;rotate_left
  ·simp only [ie,go_sem,g0,g1,g6,g7,g8,k11,e1];rfl
  all_goals simp_all [acj,if_false]
 | succ m ih =>
  intro hm s h g0 g1 g6 g7 g8 k11;have hlt:m < a.length:=by omega
  have hd:a.drop m=a.getD m 0::a.drop (m+1):=by
   simp_all
  have ha':Lb (a.drop (m+1)):=jh ha _;obtain ⟨q1,q2,q3⟩:=wx hy ha';have e0:(((m+1:Nat):Int) - 1)=(m:Int):=by omega
  rw [e0] at g8;have e1:(0≤(m:Int))=True:=tt (by omega);have e2:aZ (az a) (m:Int)=some (.ipt [U (a.getD m 0:Nat)]):=bh rfl (by omega);have e3:IntKind.i64.wrap ((m:Int) - 1)=(m:Int) - 1:=i64_in _ ⟨by omega,by omega⟩;have e5:((m:Int) < (a.length:Int))=True:=tt (by omega);have e6:=XN (a:=(cT y (a.drop (m+1))).2) (b:=a.getD m 0) q2 hyb (bt ha m);have ih':=ih (by omega);rw [hd] at ih';have hs1:(cT y (a.getD m 0::a.drop (m+1))).1=((cT y (a.drop (m+1))).2*4294967296+a.getD m 0) / y::(cT y (a.drop (m+1))).1:=rfl;have hs2:(cT y (a.getD m 0::a.drop (m+1))).2=((cT y (a.drop (m+1))).2*4294967296+a.getD m 0) % y:=rfl;rw [hs1,hs2] at ih';generalize ((cT y (a.drop (m+1))).2*4294967296+a.getD m 0) / y=qd at *
  have e7:(az (List.replicate (m+1) 0++(cT y (a.drop (m+1))).1))[m]?=some [U (0:Nat)]:=by
   rw [gS (by grind),List.getD_eq_getElem?_getD,List.getElem?_append_left (by simp),List.getElem?_replicate,if_pos (by omega)];rfl
  have e8:(az (List.replicate (m+1) 0++(cT y (a.drop (m+1))).1)).set m [U (qd:Nat)]=az (List.replicate m 0++qd::(cT y (a.drop (m+1))).1):=by
   rw [jT];rw [List.replicate_succ',List.append_assoc,List.set_append_right _ _ (by simp)];simp
  rw [ai];simp only [ie,go_sem,am4,am3,am5,am6,am7,g0,g1,g6,g7,g8,k11,e1,e2,e3,e5,e6,e7,e8,Int.toNat_natCast,Nat.zero_add];exact ih' _ _ rfl rfl rfl rfl rfl rfl
theorem ad7 {a:List Nat} (ha:Lb a) {y:Nat} (hy:0 < y) (hyb:y < 4294967296) (h1:a.length≤100000) (s:ae) (h:ac) (X:Option (Ex × St)) (hX:ap 0 [6,7] (aq (ak R (aG false) ie) [0,1,6,7,8] [11] s h)=X)
  (g0:s 0=lm a) (g1:s 1=U y) (g6:s 6=.rsl 11 none 1 0 a.length) (g7:s 7=U 0) (g8:s 8=I ((a.length:Int) - 1)) (k11:h 11=.ar 1 (az (List.replicate a.length 0))) :
  ∃ hh,X=some (.normal,⟨upd (upd (fun _=>.any) 7 (U ((cT y a).2:Nat))) 6 (.rsl 11 none 1 0 a.length),hh⟩)∧hh 11=.ar 1 (az (cT y a).1)∧(∀ x,x ≠ 11→hh x=.dead):=by
 subst hX;have hn:a.drop a.length=[]:=List.drop_of_length_le (Nat.le_refl _);refine XO ha hy hyb h1 a.length (Nat.le_refl _) s h g0 g1 g6 ?_ g8 ?_
 ·rw [hn];exact g7
 ·rw [hn];show h 11=.ar 1 (az (List.replicate a.length 0++[]));grind
theorem XP {a:List Nat} (ha:Lb a) {y:Nat} (hy:0 < y) (hyb:y < 4294967296) (h1:a.length≤100000):R F.natural_short [lm a,U y] []=some (.tup [lm (cT y a).1,U ((cT y a).2:Nat)],[]):=by
 refine aE anu rfl ?_;have hl:=ad7 ha hy hyb h1;have e3:IntKind.i64.wrap ((a.length:Int) - 1)=(a.length:Int) - 1:=i64_in _ ⟨by omega,by omega⟩;have e4:=lO (i:=(a.length:Int)) (j:=(a.length:Int)) rfl rfl (Nat.le_refl _) (by omega);have e5:(a.length*4≤140737488355328)=True:=tt (by omega);simp only [xt,yk,go_sem,e3,e4,e5,tI];generalize hX:ap 0 _ _=X;obtain ⟨hh,rfl,q11,qd⟩:=hl _ _ _ hX rfl rfl rfl rfl rfl rfl;have hlen:=(wx hy ha).2.2;simp only [go_sem,am5,am6,q11,hlen,Nat.zero_add,Nat.le_refl]
theorem aoI {d:Rd} (ok:Ok0 d):R F.r02_Checked [ag d] []=some (rV (if vd d=true then (d,0) else (aP,9)),[]):=by
 refine aE aoX rfl ?_;have hv:=CW ok;simp only [ag,am] at hv;cases hb:vd d with
 | false =>
  rw [hb] at hv;simp only [aoh,aot,rV,ag,am,aP,go_sem,am4,am3,am5,hv]
 | true =>
  rw [hb] at hv;simp only [aoh,aot,rV,ag,am,go_sem,am4,am3,am5,hv]
theorem ao2 (z f:Int):(if vd (gU z f)=true then (gU z f,(0:Int)) else (aP,9))=gz (gU z f):=by
 unfold gz;by_cases h:nQ (af (aa (gU z f).m)) (gU z f).e=true
 ·rw [if_pos h,if_pos (show vd (gU z f)=true from IW h)]
 ·rw [if_neg h,if_neg];intro h2;by_cases h0:(gU z f).m.length=0
  ·rw [DL h2 h0] at h;exact h (by decide)
  grind [zY]
theorem apK {z f:Int} {k:Nat} (h:af z.natAbs≤32*k) (hk:k≤100000):Ok0 (gU z f) :=
 ⟨ww _ _ _,Nat.lt_of_le_of_lt (FM (k:=k) h) (by omega)⟩
theorem apL {a b:Rd} (oa:Ok0 a) (ob:Ok0 b):R F.r02_Add [ag a,ag b] []=some (rV (Jc a b),[]):=by
 refine aE apt rfl ?_;have ha:=CW oa;have hb:=CW ob;unfold Jc;simp only [ag,am] at ha hb;cases va:vd a with
 | false =>
  rw [va] at ha;simp only [aok,aoy,rV,ag,am,aP,go_sem,am4,am3,am5,ha]
 | true =>
  rw [va] at ha;cases vb:vd b with
  | false =>
   rw [vb] at hb;simp only [aok,aoy,rV,ag,am,aP,go_sem,am4,am3,am5,ha,hb]
  | true =>
   rw [vb] at hb;have hp:=ZF oa ob va vb;have hl:Ok0 (gU (zI a+zI b) (-16384)):=apK (k:=2000) (Nat.le_trans (aoL (ape oa va) (ape ob vb)) (by decide)) (by decide);have hc:=aoI hl;rw [ao2] at hc;simp only [rV,ag,am] at hp hc;simp only [aok,aoy,rV,ag,am,go_sem,am4,am3,am5,ha,hb,hp,hc]
def aoM (x:Rd) (n:Nat) (c:Rd):Rd × Bool:=match an3 x n c with
 | some d=>(d,true)
 | none=>(aP,false)
theorem aoG {x:Rd}:∀ (n:Nat) (c d:Rd),Ok0 c→an3 x n c=some d→Ok0 d
 | 0,c,d,oc,h=>by
  grind [an3,Option.some.inj]
 | n+1,c,d,oc,h=>by
  unfold an3 at h;split at h
  ·exact aoG n _ d (DU c x).2 h
  ·exact nomatch h
abbrev zb:List AV:=[B false,.emp,I 0]
theorem apm {es:List Int} {xs:List Rd} {c:Rd} {i:Nat} (h1:i < es.length) (h2:i < xs.length):an0 (es.drop i) (xs.drop i) c=(an3 xs[i] es[i].toNat c).bind fun d=>an0 (es.drop (i+1)) (xs.drop (i+1)) d:=by
 rw [List.drop_eq_getElem_cons h1,List.drop_eq_getElem_cons h2];rfl
theorem aoT {xs:List Rd} {t:Rt} {l:List Rt} {q d:Rd} (h:an0 t.exps xs t.c=some d):aod xs (t::l) q=if (Jc q d).2=0 then aod xs l (Jc q d).1 else (aP,9):=by
 rw [show aod xs (t::l) q=(match an0 t.exps xs t.c with | none=>(aP,(9:Int)) | some d=>if (Jc q d).2=0 then aod xs l (Jc q d).1 else (aP,9)) from rfl,h]
theorem aoU {xs:List Rd} {t:Rt} {l:List Rt} {q:Rd} (h:an0 t.exps xs t.c=none):aod xs (t::l) q=(aP,9):=by
 rw [show aod xs (t::l) q=(match an0 t.exps xs t.c with | none=>(aP,(9:Int)) | some d=>if (Jc q d).2=0 then aod xs l (Jc q d).1 else (aP,9)) from rfl,h]
@[go_sem] theorem akO (l:List Rd):(yu l).map (cX [.o 0 [],.o 2 [],.o 0 []])=yu l:=by
 refine uK fun x hx=>?_;simp only [yu,List.mem_map] at hx;obtain ⟨t,ht,rfl⟩:=hx;simp only [am,go_sem]
theorem ao3 {d:Rd} (h:vd d=true):gz d=(d,0):=by
 unfold gz;by_cases h0:d.m.length=0
 ·rw [DL h h0];rfl
 simp_all [if_pos,zY]
theorem aoV {d:Rd} (ok:Ok0 d) (h:vd d=true):bG d.neg (aa d.m) d.e=d:=by
 have h1:=QI ok h;obtain ⟨g1,g2,g3,g4⟩:=ey h ok.lb;have hz:zI d=bO d.neg (mg d):=rfl;rw [hz,← Jb] at h1;grind [mg,wn]
theorem apg {N k:Nat} {neg:Bool} (ho:N % 2=1) (hb:4096 < af N):gz (bG neg (N*2 ^ k) (-16384))=(aP,9):=by
 have h0:N ≠ 0:=by omega
 rw [wn];obtain ⟨g1,g2,g3,g4⟩:=A3 (neg:=neg) (e:=-16384+(k:Int)) h0;have ht:=abv ho 0;rw [Nat.pow_zero,Nat.mul_one] at ht;unfold gz;rw [if_neg];intro h2;rw [g1,ht,Nat.pow_zero,Nat.div_one] at h2;have h3:=(DM h2 (by omega)).1;omega
theorem ao4 {a b:Rd} (oa:Ok0 a) (ob:Ok0 b) (va:vd a=true) (vb:vd b=true) (na:a.m.length ≠ 0) (nb:b.m.length ≠ 0) {e:Int} (he:e=if b.e < a.e then b.e else a.e) (h:4097 < aQ a - e) (hg:1 < aQ a - aQ b) :
  gz (gU (zI a+zI b) (-16384))=(aP,9)∧gz (gU (zI b+zI a) (-16384))=(aP,9):=by
 obtain ⟨a1,a2,a3,a4⟩:=ey va oa.lb;obtain ⟨b1,b2,b3,b4⟩:=ey vb ob.lb;have e1:=my va na;have e2:=my vb nb;have he1:-16384≤e∧e≤a.e∧e≤b.e∧(e=a.e∨e=b.e):=by
  omega
 have hne:a.e ≠ b.e:=by omega
 have z1:zI a=bO a.neg (aa a.m*2 ^ (a.e - e).toNat*2 ^ (e+16384).toNat):=by
  grind [zI,bO,mg,AR]
 have z2:zI b=bO b.neg (aa b.m*2 ^ (b.e - e).toNat*2 ^ (e+16384).toNat):=by
  rw [show zI b=bO b.neg (mg b) from rfl,AR he1.1 he1.2.2.1]
 have bx:(af (aa a.m*2 ^ (a.e - e).toNat):Int)=aQ a - e:=by
  grind [dH,cP]
 have by':(af (aa b.m*2 ^ (b.e - e).toNat):Int)=aQ b - e:=by
  grind
 have oX:=QN va na;have oY:=QN vb nb;have odd:(aa a.m*2 ^ (a.e - e).toNat+aa b.m*2 ^ (b.e - e).toNat) % 2=1:=by
  rcases he1.2.2.2 with h1 | h1
  ·omega
  ·obtain ⟨k,hk⟩:∃ k,(a.e - e).toNat=k+1:=⟨(a.e - e).toNat - 1,by omega⟩;rw [show (b.e - e).toNat=0 by omega,hk,Nat.pow_zero,Nat.mul_one,Nat.pow_succ,← Nat.mul_assoc];omega
 rw [Int.add_comm (zI b),and_self,z1,z2];generalize aa a.m*2 ^ (a.e - e).toNat=x at bx odd ⊢;generalize aa b.m*2 ^ (b.e - e).toNat=y at by' odd ⊢;generalize (e+16384).toNat=k;have hx:2 ^ (af x - 1)≤x:=jU.1 (by omega);have hy:y < 2 ^ (af x - 2):=by
  have h3:y < 2 ^ af y:=bv.1 (Nat.le_refl _);grind [Nat.lt_of_lt_of_le,Nat.pow_le_pow_right]
 have hp:2 ^ (af x - 1)=2 ^ (af x - 2)*2:=by
  rw [← Nat.pow_succ];grind
 have hbig:∀ N:Nat,x - y≤N→4096 < af N:=fun N hN=>by
  have h5:af x - 2 < af N:=jU.2 (by omega);omega
 have hsum:∀ (n:Bool) (z:Nat),gU (bO n (z*2 ^ k)) (-16384)=bG n (z*2 ^ k) (-16384):=fun n z=>Jb.symm;by_cases hs:a.neg=b.neg
 ·have hz:bO a.neg (x*2 ^ k)+bO b.neg (y*2 ^ k)=bO a.neg ((x+y)*2 ^ k):=by
   rw [← hs,Nat.add_mul];cases a.neg
   all_goals grind [gZ,gY]
  grind [apg]
 ·have hbn:b.neg=!a.neg:=by
   grind
  have hz:bO a.neg (x*2 ^ k)+bO b.neg (y*2 ^ k)=bO a.neg ((x - y)*2 ^ k):=by
   grind [Bool.not_true,gZ,gY]
  rw [hz,hsum];exact apg (by omega) (hbig _ (Nat.le_refl _))
noncomputable def an8:Cmd:=.seq (.dops [2,3,4,6,9,10] [fa 65 1 2,ld 66 1 65,fa 67 2 2,ld 68 1 67,cm 69 6,b2 70 .sub 68 69,ca 71 F.dyadic_shifted [.t 66,.t 70],fa 72 1 3,ld 73 1 72,fa 74 2 3,ld 75 1 74,cm 76 6,b2 77 .sub 75 76,ca 78 F.dyadic_shifted [.t 73,.t 77],cm 9 71,cm 10 78] [(6,8),(6,10)]) (.seq (.seq (.ops [2,3,4,6,9,10,83] [fa 79 0 2,ld 80 1 79,fa 81 0 3,ld 82 1 81,co 83 (.eqc false 0 (.t 80) (.t 82))]) (.cond (.t 83) (.seq (.ops [2,4,6,11] [cm 85 9,cm 86 10,ca 87 F.natural_Add [.t 85,.t 86],cm 84 87,co 88 (.ext 0 (.t 84)),co 89 (.ext 1 (.t 84)),cm 11 88,cm 12 89]) (.seq (.ops [4,5] [fa 90 0 2,ld 91 1 90,cm 92 11,cm 93 6,ca 94 F.dyadic_canonical [.t 91,.t 92,.t 93],ca 95 F.dyadic_checked [.t 94],co 96 (.ext 0 (.t 95)),co 97 (.ext 1 (.t 95)),sr 3 (.t 4) (.t 96),cm 5 97]) (.ret))) (.skip))) (.seq (.seq (.ops [2,3,4,6,9,10,101] [cm 98 9,cm 99 10,ca 100 F.natural_Cmp [.t 98,.t 99],co 101 (.bin .lss (.t 100) (.c (I 0)))]) (.cond (.t 101) (.ops [2,4,6,9,10] [la 102 3 3,cm 103 10,cm 104 9,sr 3 (.t 2) (.t 102),cm 9 103,cm 10 104]) (.skip))) (.seq (.ops [2,4,6,13] [cm 106 9,cm 107 10,ca 108 F.natural_Sub [.t 106,.t 107],cm 105 108,co 109 (.ext 0 (.t 105)),co 110 (.ext 1 (.t 105)),cm 13 109,cm 14 110]) (.seq (.ops [4,5] [fa 111 0 2,ld 112 1 111,cm 113 13,cm 114 6,ca 115 F.dyadic_canonical [.t 112,.t 113,.t 114],ca 116 F.dyadic_checked [.t 115],co 117 (.ext 0 (.t 116)),co 118 (.ext 1 (.t 116)),sr 3 (.t 4) (.t 117),cm 5 118]) (.ret)))))
theorem aoe:aom=.seq (.ops [2,3,4] [bx 2 3 (.t 0),bx 3 3 (.t 1),al 4 [B false,.emp,I 0],co 5 (.mv (.c (I 0)))]) (.seq (.seq (.ops [2,3,4,24] [fa 15 1 2,ld 16 1 15,co 17 (.len false (.t 16)),co 18 (.bin .eql (.t 17) (.c (I 0))),cm 19 18,cg 20 19 false (.fadr 1 (.t 3)),⟨(some 21),(some (19,false)),.load 1 false (.t 20)⟩,cg 22 19 false (.len false (.t 21)),cg 23 19 false (.bin .eql (.t 22) (.c (I 0))),co 24 (.pick (.t 19) (.c (B true)) (.t 23))]) (.cond (.t 24) (.seq (.seq (.ops [2,3,4,28] [fa 25 1 2,ld 26 1 25,co 27 (.len false (.t 26)),co 28 (.bin .eql (.t 27) (.c (I 0)))]) (.cond (.t 28) (.ops [2,4] [la 29 3 3,sr 3 (.t 2) (.t 29)]) (.skip))) (.seq (.ops [4,5] [fa 30 0 2,ld 31 1 30,fa 32 1 2,ld 33 1 32,fa 34 2 2,ld 35 1 34,ca 36 F.dyadic_canonical [.t 31,.t 33,.t 35],sr 3 (.t 4) (.t 36),co 5 (.mv (.c (I 0)))]) (.ret))) (.skip))) (.seq (.ops [2,3,4,6] [fa 37 2 2,ld 38 1 37,fa 39 2 3,ld 40 1 39,co 41 (.mnx true (.t 38) [.t 40]),cm 6 41]) (.seq (.dops [2,3,4,6,7,8] [la 42 3 2,ca 43 F.dyadic_Top [.t 42],la 44 3 3,ca 45 F.dyadic_Top [.t 44],cm 7 43,cm 8 45] [(1,2)]) (.seq (.seq (.ops [2,3,4,6,63] [cm 46 7,cm 47 8,co 48 (.mnx false (.t 46) [.t 47]),cm 49 6,b2 50 .sub 48 49,co 51 (.bin .gtr (.t 50) (.c (I 4097))),cm 52 51,cg 53 52 true (.mv (.t 7)),cg 54 52 true (.mv (.t 8)),cg 55 52 true (.bin .sub (.t 53) (.t 54)),cg 56 52 true (.bin .gtr (.t 55) (.c (I 1))),cg 57 52 true (.mv (.t 56)),cg 58 57 false (.mv (.t 8)),cg 59 57 false (.mv (.t 7)),cg 60 57 false (.bin .sub (.t 58) (.t 59)),cg 61 57 false (.bin .gtr (.t 60) (.c (I 1))),cg 62 52 true (.pick (.t 57) (.c (B true)) (.t 61)),co 63 (.pick (.t 52) (.t 62) (.c (B false)))]) (.cond (.t 63) (.seq (.ops [4,5] [co 64 (.build [B false,.emp,I 0] []),sr 3 (.t 4) (.t 64),co 5 (.mv (.c (I 9)))]) (.ret)) (.skip))) an8)))):=rfl
theorem apu {a b:Rd} (oa:Ok0 a) (ob:Ok0 b) (va:vd a=true) (vb:vd b=true) (na:a.m.length ≠ 0) (nb:b.m.length ≠ 0) {e:Int} (he1:-16384≤e∧e≤a.e∧e≤b.e) (hX:aQ a - e≤5000) (hY:aQ b - e≤5000) (s:ae)
  (h2:s 2=.ref 2 none 0 0 0) (h3:s 3=.ref 3 none 0 0 0) (h4:s 4=.ref 4 none 0 0 0) (h6:s 6=I e) :
  gx false [[.o 0 [],.o 2 [],.o 0 []],[]] [.cell 4 3 true,.t 5] 0 (ak R (aG false) an8 s (upd (upd (upd (fun _=>.dead) 2 (.bx (am a))) 3 (.bx (am b))) 4 (.bx [B false,.emp,I 0])))=some (rV (gz (gU (zI a+zI b) (-16384))),[]):=by
 obtain ⟨a1,a2,a3,a4⟩:=ey va oa.lb;obtain ⟨b1,b2,b3,b4⟩:=ey vb ob.lb;have e1:=my va na;have e2:=my vb nb;have w1:IntKind.i64.wrap (a.e - e)=(((a.e - e).toNat:Nat):Int):=wi (by omega) (by omega);have w2:IntKind.i64.wrap (b.e - e)=(((b.e - e).toNat:Nat):Int):=wi (by omega) (by omega);have z1:zI a=bO a.neg (aa a.m*2 ^ (a.e - e).toNat*2 ^ (e+16384).toNat):=by
  grind [zI,bO,mg,AR]
 have z2:zI b=bO b.neg (aa b.m*2 ^ (b.e - e).toNat*2 ^ (e+16384).toNat):=by
  rw [show zI b=bO b.neg (mg b) from rfl,AR he1.1 he1.2.2]
 have bx:af (aa a.m*2 ^ (a.e - e).toNat)≤5000:=by
  grind [dH,cP]
 have by':af (aa b.m*2 ^ (b.e - e).toNat)≤5000:=by
  grind [dH,cP]
 have l1:=G8 oa.lb a1 (k:=(a.e - e).toNat) (by omega) (Nat.le_trans (aS (k:=157) (by omega)) (by decide));have l2:=G8 ob.lb b1 (k:=(b.e - e).toNat) (by omega) (Nat.le_trans (aS (k:=157) (by omega)) (by decide));rw [z1,z2];generalize aa a.m*2 ^ (a.e - e).toNat=x at l1 bx ⊢;generalize aa b.m*2 ^ (b.e - e).toNat=y at l2 by' ⊢;have hsum:∀ (n:Bool) (z:Nat),bG n z e=gU (bO n (z*2 ^ (e+16384).toNat)) (-16384):=fun n z=>by
  rw [← Jb,wn,show -16384+(((e+16384).toNat:Nat):Int)=e by omega]
 have lx:(ao x).length≤157:=aS (by omega);have ly:(ao y).length≤157:=aS (by omega);have hq:Exq e:=⟨by omega,by omega⟩;have hcp:=uH (aO x) (aO y) (by omega) (by omega);rw [aK,aK] at hcp;have chk:∀ (n:Bool) (z:Nat),af z≤5001→R F.dyadic_canonical [B n,lm (ao z),I e] []=some (ag (bG n z e),[])∧R F.dyadic_checked [ag (bG n z e)] []=some (rV (gz (bG n z e)),[]):=fun n z hz=>by
  have hl:(ao z).length≤157:=aS (by omega);have c1:=xF (neg:=n) (m:=ao z) (e:=e) (aO z) (by omega) hq;rw [aK] at c1;refine ⟨c1,?_⟩;rw [G6 (ww n z e) (Nat.le_trans (FM (k:=157) (by omega)) (by decide))];exact congrArg (fun v=>some (v,[])) (IQ _)
 by_cases hs:a.neg=b.neg
 ·have p1:=Zq (x:=x) (y:=y) bx by';obtain ⟨c1,c2⟩:=chk a.neg (x+y) (AX bx by');have hz:bO a.neg (x*2 ^ (e+16384).toNat)+bO b.neg (y*2 ^ (e+16384).toNat)=bO a.neg ((x+y)*2 ^ (e+16384).toNat):=by
   rw [← hs,Nat.add_mul];cases a.neg
   all_goals grind [gZ,gY]
  rw [hz,← hsum];generalize bG a.neg (x+y) e=r at c1 c2 ⊢;generalize gz r=q at c2 ⊢;obtain ⟨q1,q2⟩:=q;have hs2:(a.neg == b.neg)=true:=by grind
  have hs3:(false != (a.neg == b.neg))=true:=by grind
  simp only [rV,ag,am] at c1 c2;simp only [an8,rV,ag,am,go_sem,am4,am3,am5,am6,am7,h2,h3,h4,h6,w1,w2,l1,l2,hs3,p1,c1,c2]
 ·have hs2:(a.neg == b.neg)=false:=by
   grind
  have hs3:(false != (a.neg == b.neg))=false:=by grind
  have hbn:b.neg=!a.neg:=by
   grind
  have hb1:∀ u v:Nat,af u≤5000→af (u - v)≤5001:=fun u v hu=>yr (Nat.sub_le u v) (Nat.le_trans hu (by decide));by_cases hlt:x < y
  ·have e5:(bC x y < 0)=True:=tt (by simp_all [bC,if_pos]);have m1:=Qv (x:=y) (y:=x) by' bx (by omega);obtain ⟨c1,c2⟩:=chk b.neg (y - x) (hb1 _ _ by');have hz:bO a.neg (x*2 ^ (e+16384).toNat)+bO b.neg (y*2 ^ (e+16384).toNat)=bO b.neg ((y - x)*2 ^ (e+16384).toNat):=by
    grind [Bool.not_true,gZ,gY]
   rw [hz,← hsum];generalize bG b.neg (y - x) e=r at c1 c2 ⊢;generalize gz r=q at c2 ⊢;obtain ⟨q1,q2⟩:=q;simp only [rV,ag,am] at c1 c2;simp only [an8,rV,ag,am,go_sem,am4,am3,am5,am6,am7,h2,h3,h4,h6,w1,w2,l1,l2,hs3,hcp,e5,m1,c1,c2]
  ·have e5:(bC x y < 0)=False:=ff (by unfold bC; omega);have m1:=Qv (x:=x) (y:=y) bx by' (by omega);obtain ⟨c1,c2⟩:=chk a.neg (x - y) (hb1 _ _ bx);have hz:bO a.neg (x*2 ^ (e+16384).toNat)+bO b.neg (y*2 ^ (e+16384).toNat)=bO a.neg ((x - y)*2 ^ (e+16384).toNat):=by
    grind [Bool.not_true,gZ,gY]
   rw [hz,← hsum];generalize bG a.neg (x - y) e=r at c1 c2 ⊢;generalize gz r=q at c2 ⊢;obtain ⟨q1,q2⟩:=q;simp only [rV,ag,am] at c1 c2;simp only [an8,rV,ag,am,go_sem,am4,am3,am5,am6,am7,h2,h3,h4,h6,w1,w2,l1,l2,hs3,hcp,e5,m1,c1,c2]
theorem apM {a b:Rd} (oa:Ok0 a) (ob:Ok0 b) (va:vd a=true) (vb:vd b=true):R F.dyadic_sum [ag a,ag b] []=some (rV (gz (gU (zI a+zI b) (-16384))),[]):=by
 refine aE ao1 rfl ?_;by_cases a0:a.m.length=0
 ·have e1:((a.m.length:Int)=0)=True:=tt (by omega);have hz:=DL va a0;obtain ⟨b1,b2,b3,b4⟩:=ey vb ob.lb;have c1:=xF (neg:=b.neg) (m:=b.m) (e:=b.e) ob.lb (by omega) ⟨by omega,by omega⟩;have hr:bG b.neg (aa b.m) b.e=b:=aoV ob vb;have hk:gz (gU (zI a+zI b) (-16384))=(b,0):=by
   simp_all [ez,Int.zero_add,QI,ao3]
  rw [hr] at c1;rw [hk];simp only [ag,am] at c1;simp only [anZ,aom,rV,ag,am,go_sem,am4,am3,am5,e1,c1]
 have e1:((a.m.length:Int)=0)=False:=ff (by omega);obtain ⟨a1,a2,a3,a4⟩:=ey va oa.lb;by_cases b0:b.m.length=0
 ·have e2:((b.m.length:Int)=0)=True:=tt (by omega);have c1:=xF (neg:=a.neg) (m:=a.m) (e:=a.e) oa.lb (by omega) ⟨by omega,by omega⟩;have hr:bG a.neg (aa a.m) a.e=a:=aoV oa va;have hk:gz (gU (zI a+zI b) (-16384))=(a,0):=by
   simp_all [ez,Int.add_zero,QI,ao3]
  rw [hr] at c1;rw [hk];simp only [ag,am] at c1;simp only [anZ,aom,rV,ag,am,go_sem,am4,am3,am5,e1,e2,c1]
 have e2:((b.m.length:Int)=0)=False:=ff (by omega);obtain ⟨b1,b2,b3,b4⟩:=ey vb ob.lb;have ta:=zZ oa;have tb:=zZ ob;have q1:=my va a0;have q2:=my vb b0;have p1:=abD (cP va a0);have p2:=abD (cP vb b0);simp only [ag,am] at ta tb;have g1:=fun h2 h3=>(ao4 oa ob va vb a0 b0 rfl h2 h3).1;have g2:=fun h2 h3=>(ao4 ob oa vb va b0 a0 rfl h2 h3).2;obtain ⟨e,he⟩:∃ e,(if b.e < a.e then b.e else a.e)=e:=⟨_,rfl⟩;have he2:(if a.e < b.e then a.e else b.e)=e:=by
  omega
 rw [he] at g1;rw [he2] at g2;have he1:-16384≤e∧e≤a.e∧e≤b.e:=by
  omega
 obtain ⟨M,hM⟩:∃ M,(if aQ a < aQ b then aQ b else aQ a)=M:=⟨_,rfl⟩;have w1:IntKind.i64.wrap (M - e)=M - e:=i64_in _ ⟨by omega,by omega⟩;have w2:IntKind.i64.wrap (aQ a - aQ b)=aQ a - aQ b:=i64_in _ ⟨by omega,by omega⟩;have w3:IntKind.i64.wrap (aQ b - aQ a)=aQ b - aQ a:=i64_in _ ⟨by omega,by omega⟩;by_cases h1:4097 < M - e
 ·have f1:(4097 < M - e)=True:=tt h1;by_cases h2:1 < aQ a - aQ b
  ·have f2:(1 < aQ a - aQ b)=True:=tt h2;rw [g1 (by omega) h2];simp only [anZ,aoe,rV,aP,ag,am,go_sem,am4,am3,am5,am6,am7,e1,e2,he,ta,tb,hM,w1,w2,f1,f2]
  ·have f2:(1 < aQ a - aQ b)=False:=ff h2;by_cases h3:1 < aQ b - aQ a
   ·have f3:(1 < aQ b - aQ a)=True:=tt h3;rw [g2 (by omega) h3];simp only [anZ,aoe,rV,aP,ag,am,go_sem,am4,am3,am5,am6,am7,e1,e2,he,ta,tb,hM,w1,w2,w3,f1,f2,f3]
   omega
 ·have f1:(4097 < M - e)=False:=ff h1;simp only [anZ,aoe,rV,ag,am,go_sem,am4,am3,am5,am6,am7,e1,e2,he,ta,tb,hM,w1,f1];exact apu oa ob va vb a0 b0 he1 (by omega) (by omega) _ rfl rfl rfl rfl
theorem apN {a b:Rd} (oa:Ok0 a) (ob:Ok0 b):R F.dyadic_Add [ag a,ag b] []=some (rV (Jc a b),[]):=by
 refine aE ao0 rfl ?_;have v1:=gg oa;have v2:=gg ob;simp only [ag,am] at v1 v2;unfold Jc;cases va:vd a with
 | false =>
  rw [va] at v1;simp only [aoc,aol,rV,aP,ag,am,go_sem,am4,am3,am5,v1]
 | true =>
  rw [va] at v1;cases vb:vd b with
  | false =>
   rw [vb] at v2;simp only [aoc,aol,rV,aP,ag,am,go_sem,am4,am3,am5,v1,v2]
  | true =>
   rw [vb] at v2;have hs:=apM oa ob va vb;simp only [rV,ag,am] at hs;simp only [aoc,aol,rV,ag,am,go_sem,am4,am3,am5,v1,v2,hs]
theorem Kw:∀ a:List Int,iE a a=0
 | []=>rfl
 | x::a=>by
  unfold iE;rw [if_pos (by unfold bI; simp),Kw a]
theorem Kx:∀ {a b:List Int},a.length=b.length→iE b a=- iE a b
 | [],[],_=>rfl
 | x::a,y::b,h=>by
  unfold iE;rcases qF x y with ⟨g,e⟩ | ⟨g,e⟩ | ⟨g,e⟩ <;> rcases qF y x with ⟨g',e'⟩ | ⟨g',e'⟩ | ⟨g',e'⟩ <;> rw [e,e'] <;> first | omega | (simp; done) | skip
  exact Kx (by simpa using h)
 | [],_::_,h=>by grind
 | _::_,[],h=>by grind
theorem QW:∀ {a b c:List Int},a.length=b.length→b.length=c.length→(iE a b≤0→iE b c < 0→iE a c < 0)∧(iE a b < 0→iE b c≤0→iE a c < 0)
 | [],[],[],_,_=>⟨fun _ h=>by omega,fun h _=>by omega⟩
 | x::a,y::b,z::c,h,h'=>by
  have ih:=QW (a:=a) (b:=b) (c:=c) (by grind) (by grind);unfold iE;rcases qF x y with ⟨g,e⟩ | ⟨g,e⟩ | ⟨g,e⟩ <;> rcases qF y z with ⟨g',e'⟩ | ⟨g',e'⟩ | ⟨g',e'⟩ <;> rcases qF x z with ⟨g2,e2⟩ | ⟨g2,e2⟩ | ⟨g2,e2⟩ <;> rw [e,e',e2] <;> first | omega | skip
  all_goals first | exact ih | omega
 | [],[],_::_,_,h=>by grind
 | [],_::_,_,h,_=>by grind
 | _::_,[],_,h,_=>by grind
 | _::_,_::_,[],_,h=>by grind
theorem Vy (a:List Int):dx a a=0:=by
 simp_all [dx,if_pos,bI,Kw]
theorem Vz {a b:List Int} (h:a.length=b.length):dx b a=- dx a b:=by
 unfold dx;rcases qF (bH a) (bH b) with ⟨g,e⟩ | ⟨g,e⟩ | ⟨g,e⟩ <;> rcases qF (bH b) (bH a) with ⟨g',e'⟩ | ⟨g',e'⟩ | ⟨g',e'⟩ <;> rw [e,e'] <;> first | omega | (simp; done) | skip
 grind [Kx]
theorem QX {a b c:List Int} (h:a.length=b.length) (h':b.length=c.length):(dx a b≤0→dx b c < 0→dx a c < 0)∧(dx a b < 0→dx b c≤0→dx a c < 0):=by
 have ih:=QW (a:=c) (b:=b) (c:=a) h'.symm h.symm;unfold dx;rcases qF (bH a) (bH b) with ⟨g,e⟩ | ⟨g,e⟩ | ⟨g,e⟩ <;> rcases qF (bH b) (bH c) with ⟨g',e'⟩ | ⟨g',e'⟩ | ⟨g',e'⟩ <;> rcases qF (bH a) (bH c) with ⟨g2,e2⟩ | ⟨g2,e2⟩ | ⟨g2,e2⟩ <;> rw [e,e',e2] <;> first | omega | skip
 all_goals first | exact ⟨fun x y=>ih.2 y x,fun x y=>ih.1 y x⟩ | omega
structure VT (v:Int) (t:Rt):Prop where
 c:Ok0 t.c
 len:(t.exps.length:Int)=v
 v8:v≤8
 vc:vd t.c=true
 nz:t.c.m.length ≠ 0
 b:∀ e ∈ t.exps,0≤e∧e≤32
 d:bH t.exps≤32
theorem VT.sm {v:Int} {t:Rt} (h:VT v t):sm t.exps:=⟨by have:=h.len; have:=h.v8; omega,h.b⟩
theorem VT.ok {v:Int} {t:Rt} (h:VT v t):OkT t:=⟨h.c,by have:=h.len; have:=h.v8; omega⟩
theorem VT.l2 {v:Int} {t q:Rt} (h:VT v t) (h2:VT v q):t.exps.length=q.exps.length:=by have:=h.len; have:=h2.len; omega
structure Cl (v:Int) (l:List Rt):Prop where
 t:∀ t ∈ l,VT v t
 s:l.Pairwise fun a b=>dx a.exps b.exps < 0
theorem Cl.nil (v:Int):Cl v []:=⟨(fun _ h=>nomatch h),List.Pairwise.nil⟩
theorem Cl.cons {v:Int} {q:Rt} {l:List Rt} (h:Cl v (q::l)):VT v q∧(∀ t ∈ l,dx q.exps t.exps < 0)∧Cl v l :=
 ⟨h.t q (by simp),(List.pairwise_cons.1 h.s).1,fun t ht=>h.t t (by grind),(List.pairwise_cons.1 h.s).2⟩
theorem Cl.mk' {v:Int} {q:Rt} {l:List Rt} (h1:VT v q) (h2:∀ t ∈ l,dx q.exps t.exps < 0) (h3:Cl v l):Cl v (q::l) :=
 ⟨fun t ht=>(List.mem_cons.1 ht).elim (fun e=>e ▸ h1) (h3.t t),List.pairwise_cons.2 ⟨h2,h3.s⟩⟩
theorem VA {v:Int} (hv:v≤8):∀ (l:List Rt) (pr:Option Rt),(∀ t ∈ l,OkT t)→uL v pr l=true→Cl v l∧∀ q,pr=some q→(q.exps.length:Int)=v→∀ t ∈ l,dx q.exps t.exps < 0
 | [],pr,_,_=>⟨Cl.nil v,fun _ _ _ t ht=>by grind⟩
 | t::l,pr,ok,h=>by
  unfold uL at h;simp only [Bool.and_eq_true] at h;obtain ⟨h1,h2,h3⟩:=h;obtain ⟨g1,g2⟩:=VA hv l (some t) (fun x hx=>ok x (by grind)) h3;obtain ⟨k1,k2,k3,k4,k5⟩:=uM h1;have vt:VT v t:=⟨(ok t (by simp)).c,k1,hv,k2,k3,pF k4,k5⟩;have gt:=g2 t rfl k1;refine ⟨Cl.mk' vt gt g1,fun q hq hl x hx=>?_⟩;subst hq;have h4:=of_decide_eq_true h2;rcases List.mem_cons.1 hx with rfl | hx
  ·omega
  ·exact (QX (by omega) (vt.l2 (g1.t x hx))).1 (by omega) (gt x hx)
theorem To {a:Rp} (oa:OkP a) (h:vp a=true):Cl a.vars a.terms∧0≤a.vars∧a.vars≤8∧a.terms.length≤500:=by
 unfold vp at h;simp only [Bool.and_eq_true,decide_eq_true_eq] at h;exact ⟨(VA h.2.1 _ none oa.t h.2.2.2).1,h.1,h.2.1,h.2.2.1⟩
def Ba:List Rt→Rt→Option (List Rt)
 | [],t=>some [t]
 | q::l,t=>if dx q.exps t.exps < 0 then (Ba l t).map (q::·) else if dx q.exps t.exps=0 then (if (Jc q.c t.c).2=0 then some (if (Jc q.c t.c).1.m.length=0 then l else ⟨q.exps,(Jc q.c t.c).1⟩::l) else none) else some (t::q::l)
theorem QY {v:Int}:∀ {l l':List Rt} {t:Rt},Cl v l→VT v t→Ba l t=some l'→Cl v l'∧∀ q:List Int,(q.length:Int)=v→(∀ x ∈ l,dx q x.exps < 0)→dx q t.exps < 0→∀ x ∈ l',dx q x.exps < 0
 | [],l',t,c,vt,h=>by
  cases h;grind [Cl.mk']
 | p::l,l',t,c,vt,h=>by
  obtain ⟨c1,c2,c3⟩:=c.cons;unfold Ba at h;split at h
  ·rename_i h1;rw [Option.map_eq_some_iff] at h;obtain ⟨l2,h2,rfl⟩:=h;obtain ⟨g1,g2⟩:=QY c3 vt h2;refine ⟨Cl.mk' c1 (g2 p.exps c1.len c2 h1) g1,fun q hq k1 k2 x hx=>?_⟩;grind
  ·split at h
   ·split at h
    ·cases h;split
     ·grind
     ·rename_i h4;obtain ⟨a1,a2⟩:=ZP p.c t.c;refine ⟨Cl.mk' ⟨a2,c1.len,c1.v8,a1,h4,c1.b,c1.d⟩ c2 c3,fun q hq k1 k2 x hx=>?_⟩;grind
    grind
   ·cases h;have h3:dx t.exps p.exps < 0:=by
     rw [Vz (c1.l2 vt)];omega
    refine ⟨Cl.mk' vt (fun x hx=>?_) c,fun q hq k1 k2 x hx=>?_⟩
    ·rcases List.mem_cons.1 hx with rfl | hx
     ·omega
     ·exact (QX (vt.l2 c1) (c1.l2 (c3.t x hx))).1 (by omega) (c2 x hx)
    grind
theorem NY:∀ {l l':List Rt} {t:Rt},Ba l t=some l'→l'.length≤l.length+1
 | [],l',t,h=>by cases h; simp
 | p::l,l',t,h=>by
  unfold Ba at h;split at h
  ·rw [Option.map_eq_some_iff] at h;obtain ⟨l2,h2,rfl⟩:=h;simpa using NY h2
  grind
def Bb:List Rt→List Rt→Option (List Rt)
 | l,[]=>some l
 | l,t::ts=>(Ba l t).bind fun l'=>Bb l' ts
theorem NZ:∀ (ts us:List Rt) (l:List Rt),Bb l (ts++us)=(Bb l ts).bind fun l'=>Bb l' us
 | [],us,l=>rfl
 | t::ts,us,l=>by
  show (Ba l t).bind _=((Ba l t).bind _).bind _;cases Ba l t with
  | none=>rfl
  | some l'=>exact NZ ts us l'
theorem QZ {v:Int}:∀ {ts l l':List Rt},Cl v l→(∀ t ∈ ts,VT v t)→Bb l ts=some l'→Cl v l'∧l'.length≤l.length+ts.length
 | [],l,l',c,_,h=>by cases h; grind
 | t::ts,l,l',c,vt,h=>by
  unfold Bb at h;rw [Option.bind_eq_some_iff] at h;obtain ⟨l2,h2,h3⟩:=h;obtain ⟨g1,g2⟩:=QZ (QY c (vt t (by simp)) h2).1 (fun x hx=>vt x (by grind)) h3;have:=NY h2;grind
section
variable {call:dP} {md:Mode} {s:ae} {h:ac}
@[go_sem] theorem akP (d k x y rest):aC call md (⟨some d,none,.cpy k x y⟩::rest) s h=aT (cA md.nm s (some d) (H6 h k (ev s x) (ev s y))) (aC call md rest):=_root_.id rfl
@[go_sem] theorem ahT (d k x lo hi rest):aC call md (⟨some d,none,.slcM k x lo hi⟩::rest) s h=aT (cA md.nm s (some d) (Dt h k (ev s x) (evo s lo) (evo s hi))) (aC call md rest):=_root_.id rfl
@[go_sem] theorem akQ (d k z x rest):aC call md (⟨d,none,.clr k z x⟩::rest) s h=aT (cA md.nm s d (H7 h k z (ev s x))) (aC call md rest):=_root_.id rfl
@[go_sem] theorem ahU (d k b z x n rest):aC call md (⟨some d,none,.appz k b z x n⟩::rest) s h=aT (cA md.nm s (some d) (Du h d k b z (ev s x) (ev s n))) (aC call md rest):=_root_.id rfl
@[go_sem] theorem ahV (d x rest):aC call md (⟨some d,none,.take x⟩::rest) s h=aT (cA md.nm s (some d) (Ge h d (ev s x))) (aC call md rest):=_root_.id rfl
@[go_sem] theorem age (d f zas rest):aC call md (⟨some d,none,.callC f zas⟩::rest) s h=aT (cA md.nm s (some d) ((bE call md h d (zas.map (ev s)) (ev s f)).bind (ry d))) (aC call md rest):=_root_.id rfl
@[go_sem] theorem ahW (ps acc d k x y rest):cq call md ps acc (⟨some d,none,.cpy k x y⟩::rest) s h=gB call md ps acc rest s (some d) (fun _=>none) (H6 h k (ev s x) (ev s y)):=dE _ _ _ _ rfl
@[go_sem] theorem ahX (ps acc d k b x y rest):cq call md ps acc (⟨some d,none,.app k b x y⟩::rest) s h=gB call md ps acc rest s (some d) (fun _=>none) (H5 h d k b (ev s x) (ev s y)):=dE _ _ _ _ rfl
@[go_sem] theorem ad8 (ps acc d f zas rest):cq call md ps acc (⟨some d,none,.callC f zas⟩::rest) s h=gB call md ps acc rest s (some d) (fun _=>BV d h (jV (zas.map (ev s)) (ev s f))) ((bE call md h d (zas.map (ev s)) (ev s f)).bind (ry d)):=dE _ _ _ _ rfl
@[go_sem] theorem agf (d h l):BV d h l=if l.all dat=true then some ([],[2000+8*d]) else none:=_root_.id rfl
@[go_sem] theorem akR (d k r h ks):ry d (.sl k r,h,ks)=some (.sl k r,h,ks):=_root_.id rfl
@[go_sem] theorem ahY (d h ks):ry d (.emp,h,ks)=some (.emp,h,ks):=_root_.id rfl
@[go_sem] theorem ahZ (d id k lo n h ks):ry d (.rsl id none k lo n,h,ks)=if id=2000+8*d then (m9 h id k lo n (h id)).map (fun q=>(q.1,q.2.1,ks++q.2.2)) else none:=_root_.id rfl
@[go_sem] theorem akS (h k id k' lo n y):H6 h k (.rsl id none k' lo n) y=(LT y).bind fun l=>(oZ h k (LS n y)).bind fun ys=>LU h id k k' lo n l ys (h id):=_root_.id rfl
@[go_sem] theorem akT (k r):LT (.sl k r)=some r.length:=_root_.id rfl
@[go_sem] theorem ah0 (id sub k lo n):LT (.rsl id sub k lo n)=some n:=_root_.id rfl
@[go_sem] theorem akU (m k r):LS m (.sl k r)=.sl k (r.take m):=_root_.id rfl
@[go_sem] theorem ah1 (m id sub k lo n):LS m (.rsl id sub k lo n)=.rsl id sub k lo (min m n):=_root_.id rfl
@[go_sem] theorem akV (h id k lo n l ys r):LU h id k k lo n l ys (.ar k r)=if lo≤r.length∧ys.length=min l n then some (.v (.int .i64 ys.length),upd h id (.ar k (r.take lo++ys++r.drop (lo+ys.length))),[]) else none:=by simp [LU]
@[go_sem] theorem ah2 (h k id l0 n lo hi):Dt h k (.rsl id none k l0 n) lo hi=Gc h k id l0 lo hi (h id):=by simp [Dt]
@[go_sem] theorem ah3 (h k id l0 lo hi r):Gc h k id l0 lo hi (.ar k r)=if hi.isSome=true∧l0≤r.length then (kw (r.length - l0) lo hi none).map fun p=>(.rsl id none k (l0+p.1) (p.2 - p.1),h,[]) else none:=by simp [Gc]
@[go_sem] theorem akW (h k z id lo n):H7 h k z (.rsl id none k lo n)=LV h k id lo n z (h id):=by simp [H7]
@[go_sem] theorem akX (h k id lo n z r):LV h k id lo n z (.ar k r)=if lo+n≤r.length then some (.tup [],upd h id (.ar k (r.take lo++List.replicate n z++r.drop (lo+n))),[]) else none:=by simp [LV]
@[go_sem] theorem ah4 (h d k b z id i c m):Du h d k b z (.rsc id k 0 i c) (.v (.int .i64 m))=if 0 < m∧c < i+m.toNat then Gd h d k b id i m.toNat z (h id) else none:=by simp [Du]
@[go_sem] theorem ah5 (h d k b id i m z r):Gd h d k b id i m z (.ar k r)=if i≤r.length∧(i+m)*b≤140737488355328 then cY h d k (r.take i++List.replicate m z) (i+m) [] else none:=by simp [Gd]
@[go_sem] theorem akY (id k lo n c):lh false (.rsc id k lo n c)=some (I n):=_root_.id rfl
@[go_sem] theorem akZ (id k lo n c):LO (.rsc id k lo n c)=some (I c):=_root_.id rfl
@[go_sem] theorem ak0 (k id l0 n c lo hi mx):eu k (.rsc id k l0 n c) lo hi mx=LL k id l0 n c lo hi mx:=by simp [eu]
@[go_sem] theorem ak1 (k id l0 n c x):LL k id l0 n c none (some x) none=(jK n c (some x)).map fun r=>.rsc id k l0 r c:=_root_.id rfl
@[go_sem] theorem ak2 (k id l0 n c x hi):LL k id l0 n c (some x) hi none=(kw n (some x) hi none).map fun p=>.rsl id none k (l0+p.1) (p.2 - p.1):=_root_.id rfl
@[go_sem] theorem ak3 (ks id k lo n c):nD ks (.rsc id k lo n c)=if fR ks id none=true then .any else .rsc id k lo n c:=_root_.id rfl
@[go_sem] theorem ah6 (h d id k i j):Ge h d (.ref id none k i j)=Lr h d id (i*k+j) (h id):=_root_.id rfl
@[go_sem] theorem ah7 (h d id p cs):Lr h d id p (.bx cs)=Dv h d id p cs cs[p]?:=_root_.id rfl
@[go_sem] theorem agh (h d id p cs k r):Dv h d id p cs (some (.osl k r))=cY (upd h id (.bx (cs.set p .any))) d k r r.length [(id,true)]:=_root_.id rfl
@[go_sem] theorem agi (h d id p cs):Dv h d id p cs (some .emp)=some (.emp,h,[]):=_root_.id rfl
@[go_sem] theorem ah8 (nm:Bool) (s h):sQ nm [] s h=some ⟨s,h⟩:=_root_.id rfl
@[go_sem] theorem agj (nm:Bool) (i l s h):sQ nm (i::l) s h=if 200000≤i then (Ia (i - 200000) s h (s (i - 200000))).bind (fun r=>if lS nm r.2.2 then sQ nm l r.1 r.2.1 else none) else if 100000≤i then sQ nm l s (Dx h (s (i - 100000))) else (RE i s h (s i)).bind fun r=>if lS nm r.2.2 then sQ nm l r.1 r.2.1 else none:=_root_.id rfl
@[go_sem] theorem ad9 (ks):lS false ks=true:=_root_.id rfl
@[go_sem] theorem ak4 (i s h id k lo n):Ia i s h (.rsl id none k lo n)=BW i s h id k lo n (h id):=_root_.id rfl
@[go_sem] theorem ak5 (i s h id k lo n c):Ia i s h (.rsc id k lo n c)=BW i s h id k lo n (h id):=_root_.id rfl
@[go_sem] theorem ak6 (i s h id k lo n r):BW i s h id k lo n (.ar k r)=if lo=0∧aR i=false∧cM (h i)=true then some (upd (ir [(id,false)] s) i (.rsl i none k 0 n),upd (upd h id .dead) i (.ar k r),[(id,false)]) else none:=by simp [BW]
@[go_sem] theorem ah9 (h id k lo n):Dx h (.rsl id none k lo n)=(match h id with | .ar k rows=>upd h id (.ar k (rows.take (lo+n))) | _=>h):=_root_.id rfl
@[go_sem] theorem ak7 (nm:Bool) (s h):nE nm 0 s h=some ⟨s,h⟩:=_root_.id rfl
@[go_sem] theorem ak8 (nm:Bool) (i s h):nE nm (i+1) s h=(JT i s h (s i)).bind fun r=>if lS nm r.2.2 then some ⟨r.1,r.2.1⟩ else none:=_root_.id rfl
@[go_sem] theorem ak9 (i s h):JT i s h .emp=some (s,h,[]):=_root_.id rfl
@[go_sem] theorem ala (i s h id p k lo n):JT i s h (.rsl id (some p) k lo n)=if aR i=false then P5 i s h id p k lo n (h id) else none:=_root_.id rfl
@[go_sem] theorem amz (i s h id p k lo n cs):P5 i s h id p k lo n (.bx cs)=Gh i s h id p k lo n cs cs[p]?:=_root_.id rfl
@[go_sem] theorem alb (i s h id p k lo n cs r):Gh i s h id p k lo n cs (some (.osl k r))=if lo=0∧n=r.length∧cM (h i)=true then some (upd (ir [(id,true)] s) i (.rsl i none k 0 n),upd (upd h id (.bx (cs.set p .any))) i (.ar k r),[(id,true)]) else none:=by simp [Gh]
@[go_sem] theorem alc (m g ps l):WR call md m g ps l s h=aT (cq call md ps [] (l.take m) s h) fun s h=>aT (nE md.nm g s h) (aC call md (l.drop m)):=_root_.id rfl
end
theorem N0 (o:Ob):aj [o]=upd (fun _=>.dead) 1000 o:=by
 unfold aj upd;grind
theorem Tp {f:FuncId} {fd:FD} {args:List AV} {o:Ob} {r:AV × List Ob} (hE:dK.E f=none) (hC:dK.C f=some fd) (hk:dK.md.keep f=false) (h1:args.length=fd.np)
  (hz:gx false fd.rs fd.res 1 (ak R (aG false) fd.body (n8 args) (upd (fun _=>.dead) 1000 o))=some r):R f args [o]=some r:=by
 grind [GU,N0]
def YK (c:AV) (l:List Rt):Prop:=c=.osl 4 (df l)∨(c=.emp∧l=[])
def t3 (v:Int) (c:AV) (e:Int):Ob:=.bx [I v,c,I e]
theorem Tq {h:ac} {id p id2 k n:Nat} {rows:List (List AV)} {cs:List AV} (h1:h id2=.ar k rows) (hn:n=rows.length) (h2:h id=.bx cs) (hne:id ≠ id2) (hp:p < cs.length) :
  mz h id p 1 [.rsl id2 none k 0 n]=some (upd (upd h id2 .dead) id (.bx (cs.set p (.osl k rows))),(id2,false)::(if cs[p]?.any aU then [(id,true)] else [])):=by
 simp_all [upd,if_neg,mz,Bp,JS,E9,vP]
theorem N1 {u s b:Nat} (hu:u < 4294967296) (hs:s < 4294967296) (hb:b < 4294967296):IntKind.u64.wrap (IntKind.u64.wrap ((u:Int) - (s:Int)) - (b:Int))=(((u+18446744073709551616 - s - b) % 18446744073709551616:Nat):Int):=by
 grind [IntKind.wrap,IntKind.bits,IntKind.signed]
attribute [-go_sem] Ik zu in
theorem VB {V Z:List Nat} {q lo:Nat} (hV:Lb V) (hq:q < 4294967296) (hn:V.length≤100000) (hlo:lo≤100000) :
  ∀ (vs us P:List Nat) (i c b:Nat),i+vs.length=V.length→V.drop i=vs→us.length=vs.length→P.length=lo+i→Lb us→c < 4294967296→b≤1→∀ (s:ae) (h:ac),s 0=.rsl 1000 none 1 lo (V.length+1)→s 1=lm V→s 2=W q→s 7=W c→s 8=W b→s 14=lm V→s 15=I V.length→s 16=I i→h 1000=.ar 1 (az (P++(us++Z))) →
  ∃ hh,ap 0 [0,1,7,8] (aq (ak R (aG false) iM) [0,1,2,7,8,14,15,16] [1000] s h)=some (.normal,⟨upd (upd (upd (upd (fun _=>.any) 8 (W ((mT q us vs c b).2.2:Nat))) 7 (W ((mT q us vs c b).2.1:Nat))) 1 (lm V)) 0 (.rsl 1000 none 1 lo (V.length+1)),hh⟩)∧hh 1000=.ar 1 (az (P++((mT q us vs c b).1++Z))):=by
 intro vs;induction vs with
 | nil =>
  intro us P i c b hi hd hl hP hu hc hb s h g0 g1 g2 g7 g8 g14 g15 g16 k;have hus:us=[]:=List.length_eq_zero_iff.1 hl;subst hus;have hi':i=V.length:=by omega
  subst hi';rw [ai];refine ⟨?hh0,?_,?_⟩;rotate_left
  ·simp only [iM,go_sem,g0,g1,g2,g7,g8,g14,g15,g16,k,Int.lt_irrefl];rfl
  ·rfl
 | cons y vs ih =>
  intro us P i c b hi hd hl hP hu hc hb s h g0 g1 g2 g7 g8 g14 g15 g16 k;obtain ⟨u,us,rfl⟩:∃ u us',us=u::us':=by
   cases us with
   | nil=>grind
   | cons u us=>grind
  have hi2:i < V.length:=by grind
  have hy:V.getD i 0=y∧V.drop (i+1)=vs:=by
   grind [List.drop_eq_getElem_cons]
  have hyb:y < 4294967296:=by grind [bt]
  have hub:=hu u (by simp);have hqy:q*y≤4294967295*4294967295:=Nat.mul_le_mul (by omega) (by omega);have e1:((i:Int) < (V.length:Int))=True:=tt (by omega);have e2:aZ (az V) (i:Int)=some (.ipt [U (y:Nat)]):=by
   grind [bh]
  have e3:IntKind.i64.wrap ((i:Int)+1)=((i+1:Nat):Int):=wi (by omega) (by omega);have e4:(0≤(i:Int))=True:=tt (by omega);have e5:((i:Int) < ((V.length+1:Nat):Int))=True:=tt (by omega);have c1:IntKind.u64.wrap (y:Int)=y:=cI rfl (by omega);have c2:IntKind.u64.wrap ((q:Int)*(y:Int))=((q*y:Nat):Int):=cI (by simp) (by omega);have c3:IntKind.u64.wrap (((q*y:Nat):Int)+(c:Int))=((q*y+c:Nat):Int):=cI (by simp) (by omega);have c4:=mr (n:=q*y+c) (k:=32) (i:=((q*y+c:Nat):Int)) (kk:=.u64) (j:=32) rfl rfl (by omega);rw [show (2:Nat) ^ 32=4294967296 from rfl] at c4;have c5:IntKind.u64.wrap (u:Int)=u:=cI rfl (by omega);have c6:=xK (n:=q*y+c) (i:=((q*y+c:Nat):Int)) rfl (by omega);have hs:=Nat.mod_lt (q*y+c) (by decide:0 < 4294967296);have hc2:(q*y+c) / 4294967296 < 4294967296:=by
   omega
  have c7:=N1 (b:=b) hub hs (by omega);obtain ⟨k1,_⟩:=Jf (b:=b) hub hs hb;have ih':=ih us (P++[(u+18446744073709551616 - (q*y+c) % 4294967296 - b) % 18446744073709551616 % 4294967296]) (i+1) ((q*y+c) / 4294967296) ((u+18446744073709551616 - (q*y+c) % 4294967296 - b) % 18446744073709551616 / 9223372036854775808) (by grind) hy.2 (by grind) (by grind) (fun x hx=>hu x (by simp [hx])) hc2 k1;unfold mT;generalize (u+18446744073709551616 - (q*y+c) % 4294967296 - b) % 18446744073709551616=x at *
  have c8:IntKind.u32.wrap (x:Int)=((x % 4294967296:Nat):Int):=AN rfl;have c9:=mr (n:=x) (k:=63) (i:=(x:Int)) (kk:=.u64) (j:=63) rfl rfl (by omega);rw [show (2:Nat) ^ 63=9223372036854775808 from rfl] at c9;have e7:(az (P++(u::us++Z)))[lo+i]?=some [U (u:Nat)]:=by
   rw [gS (by simp [hP]),List.getD_eq_getElem?_getD,List.getElem?_append_right (by omega),hP,Nat.sub_self];rfl
  have e8:(az (P++(u::us++Z))).set (lo+i) [U ((x % 4294967296:Nat):Int)]=az (P++[x % 4294967296]++(us++Z)):=by
   rw [jT,← hP,List.set_append_right _ _ (Nat.le_refl _),Nat.sub_self,List.append_assoc];rfl
  simp only [List.append_assoc,List.cons_append,List.nil_append] at ih' e7 e8 k ⊢;rw [ai];generalize aq _ _ _=L at ih' ⊢;simp only [iM,go_sem,am4,am3,am5,am6,am7,g0,g1,g2,g7,g8,g14,g15,g16,k,e1,e2,e3,e4,e5,e7,e8,c1,c2,c3,c4,c5,c6,c7,c8,c9,Int.toNat_natCast];exact ih' _ _ rfl rfl rfl rfl rfl rfl rfl rfl rfl
theorem abE {V Z us P:List Nat} {q lo:Nat} (hV:Lb V) (hq:q < 4294967296) (hn:V.length≤100000) (hlo:lo≤100000) (hl:us.length=V.length) (hP:P.length=lo) (hu:Lb us) (s:ae) (h:ac) (X:Option (Ex × St)) (hX:ap 0 [0,1,7,8] (aq (ak R (aG false) iM) [0,1,2,7,8,14,15,16] [1000] s h)=X)
  (g0:s 0=.rsl 1000 none 1 lo (V.length+1)) (g1:s 1=lm V) (g2:s 2=W q) (g7:s 7=W 0) (g8:s 8=W 0) (g14:s 14=lm V) (g15:s 15=I V.length) (g16:s 16=I 0) (k:h 1000=.ar 1 (az (P++(us++Z)))) :
  ∃ hh,X=some (.normal,⟨upd (upd (upd (upd (fun _=>.any) 8 (W ((mT q us V 0 0).2.2:Nat))) 7 (W ((mT q us V 0 0).2.1:Nat))) 1 (lm V)) 0 (.rsl 1000 none 1 lo (V.length+1)),hh⟩)∧hh 1000=.ar 1 (az (P++((mT q us V 0 0).1++Z))):=by
 subst hX
 simp_all [VB]
attribute [-go_sem] zu in
theorem ZY {V us P Q:List Nat} {q lo top:Nat} (hV:Lb V) (hq:q < 4294967296) (hn:V.length≤100000) (hlo:lo≤100000) (hl:us.length=V.length) (hP:P.length=lo) (hu:Lb us) (ht:top < 4294967296) :
  R F.natural_take [.rsl 1000 none 1 lo (V.length+1),lm V,W q] [.ar 1 (az (P++(us++top::Q)))]=some (B (ja q top us V).2.2,[.ar 1 (az (P++((ja q top us V).1++(ja q top us V).2.1::Q)))]):=by
 refine Tp anB anA (agp false) rfl ?_;have hx:=abE (Z:=top::Q) hV hq hn hlo hl hP hu;obtain ⟨t1,t2,t3,t4,t5⟩:=NV hq hu hV hl (c:=0) (b:=0) (by decide) (by decide);unfold ja;have e4:(0≤(V.length:Int))=True:=tt (by omega);have e5:((V.length:Int) < ((V.length+1:Nat):Int))=True:=tt (by omega);simp only [yn,zP,go_sem];generalize hX:ap 0 _ _=X;obtain ⟨hh,rfl,q1⟩:=hx _ _ _ hX rfl rfl rfl rfl rfl rfl rfl rfl rfl;generalize mT q us V 0 0=r at *
 obtain ⟨r1,c,b⟩:=r;simp only at t2 t3 t4 t5 q1 ⊢;have c5:IntKind.u64.wrap (top:Int)=top:=cI rfl (by omega);have c7:=N1 (u:=top) (s:=c) (b:=b) ht t2 (by omega);generalize (top+18446744073709551616 - c - b) % 18446744073709551616=x at *
 have c8:IntKind.u32.wrap (x:Int)=((x % 4294967296:Nat):Int):=AN rfl;have c9:=mr (n:=x) (k:=63) (i:=(x:Int)) (kk:=.u64) (j:=63) rfl rfl (by omega);have e7:(az (P++(r1++top::Q)))[lo+V.length]?=some [U (top:Nat)]:=by
  simp_all [gS,Nat.add_sub_cancel_left,Nat.sub_self]
 have e8:(az (P++(r1++top::Q))).set (lo+V.length) [U ((x % 4294967296:Nat):Int)]=az (P++(r1++x % 4294967296::Q)):=by
  rw [jT,List.set_append_right _ _ (by omega),List.set_append_right _ _ (by omega),hP,t5,Nat.add_sub_cancel_left,Nat.sub_self];rfl
 have e9:(((x / 9223372036854775808:Nat):Int)=1)=(x / 9223372036854775808=1):=by
  grind
 simp only [go_sem,am4,am3,am5,am6,am7,q1,e4,e5,e7,e8,c5,c7,c8,c9,e9,Int.toNat_natCast];rfl
theorem VC {V us P Q:List Nat} {q lo top:Nat} (hV:Lb V) (hq:q < 4294967296) (hn:V.length≤100000) (hlo:lo≤100000) (hl:us.length=V.length) (hP:P.length=lo) (hu:Lb us) (ht:top < 4294967296) {h:ac} {d id:Nat} (hh:h id=.ar 1 (az (P++(us++top::Q)))) (hd:h (2000+8*d)=.dead) :
  bE R (aG false) h d [.rsl id none 1 lo (V.length+1),lm V,W q] (.fn F.natural_take [] [])=some (B (ja q top us V).2.2,upd h id (.ar 1 (az (P++((ja q top us V).1++(ja q top us V).2.1::Q)))),[(id,true)]):=by
 have hm:=anC false;have hs:=anw false;have hk:=agp false;have hf:=ZY (Q:=Q) hV hq hn hlo hl hP hu ht;have hb':pL (aG false) [.rsl id none 1 lo (V.length+1),lm V,W q] (.fn F.natural_take [] [])=false:=by
  grind [pL]
 have h1:bZ h [1,0,0] [.rsl id none 1 lo (V.length+1),.sl 1 (az V),W q]=some ([.rsl id none 1 lo (V.length+1),.sl 1 (az V),W q],h,[]):=by
  simp [bZ,cR,sI,fS,aB]
 have hr:cf h 40 [id] 0=[id]:=by
  grind [cf,lj,bJ]
 have hp:bJ [] ([AV.rsl id none 1 lo (V.length+1),.sl 1 (az V),W q].flatMap bT)=[id]:=by
  simp [bT,fT,bJ]
 have h3:bo [id] id=1000:=by simp [bo]
 have hnr:cG (B (ja q top us V).2.2)=1:=rfl;have hnm:br [[.o 2 []],[.o 2 []],[]] [.rsl id none 1 lo (V.length+1),.sl 1 (az V),W q]=[.rsl id none 1 lo (V.length+1),.sl 1 (az V),W q]:=by
  simp only [go_sem];rfl
 unfold bE;rw [if_neg (by grind)];simp only [lm] at hf ⊢;simp only [dU,hm,List.nil_append,List.append_nil,h1,Option.bind_some,hp,hr,hs,hnm];simp [kR,aV,bg,hh,aM,cM,dM,kB,h3,cZ,hf,fF,hnr,dp,hd,dz,bf,vQ,H9,ru,fT,jH,fE,Em,dS,mat,da,gA,hk,H8,hm]
theorem XQ {V us P Z Qr:List Nat} {sh n j g:Int} {UL QL J:Nat} (hV:Lb V) (hu:Lb us) (hl:us.length=V.length) (hn:V.length≤100000) (hP:P.length=J) (hj:j=J) (hJ:J≤100000) (hUL:J+V.length≤UL) :
  ∀ (k i:Nat),i+k=V.length→∀ (s:ae) (h:ac),s 8=I sh→s 9=.rsl 2408 none 1 0 UL→s 10=lm V→s 11=I n→s 12=.rsl 70 none 1 0 QL→s 13=I j→s 14=W g→s 15=U (cry us V i:Nat)→s 123=lm V→s 124=I V.length→s 125=I i→h 63=.dead→h 70=.ar 1 (az Qr)→h 2408=.ar 1 (az (P++(bV us V i++(us.drop i++Z)))) →
  ∃ hh,ap 4 [8,9,10,11,12,13,14,15] (aq (ak R (aG false) eW) [8,9,10,11,12,13,14,15,123,124,125] [63,70,2408] s h)=some (.normal,⟨upd (upd (upd (upd (upd (upd (upd (upd (fun _=>.any) 15 (U (cry us V V.length:Nat))) 14 (W g)) 13 (I j)) 12 (.rsl 70 none 1 0 QL)) 11 (I n)) 10 (lm V)) 9 (.rsl 2408 none 1 0 UL)) 8 (I sh),hh⟩)∧hh 70=.ar 1 (az Qr)∧hh 2408=.ar 1 (az (P++(bV us V V.length++Z)))∧(∀ a,a ≠ 70→a ≠ 2408→hh a=.dead):=by
 subst hj;intro k;induction k with
 | zero =>
  intro i hi s h g8 g9 g10 g11 g12 g13 g14 g15 g123 g124 g125 k63 k70 k2408;have hi':i=V.length:=by omega
  subst hi';rw [List.drop_of_length_le (by omega),List.nil_append] at k2408;rw [ai];refine ⟨?hh0,?_,?_,?_,?_⟩;rotate_left
  ·simp only [eW,go_sem,am7,g8,g9,g10,g11,g12,g13,g14,g15,g123,g124,g125,k63,k70,k2408,Int.lt_irrefl];rfl
  all_goals simp_all [acj,if_false,ite_self]
 | succ k ih =>
  intro i hi s h g8 g9 g10 g11 g12 g13 g14 g15 g123 g124 g125 k63 k70 k2408;have hlt:i < V.length:=by omega
  have hd:us.drop i=us.getD i 0::us.drop (i+1):=by
   simp_all
  have hsl:=dD us V i;rw [hd,List.cons_append] at k2408;have e1:((i:Int) < (V.length:Int))=True:=tt (by omega);have e2:aZ (az V) (i:Int)=some (.ipt [U (V.getD i 0:Nat)]):=bh rfl (by omega);have e3:IntKind.i64.wrap ((i:Int)+1)=((i+1:Nat):Int):=wi (by omega) (by omega);have e4:IntKind.i64.wrap ((J:Int)+(i:Int))=((J+i:Nat):Int):=wi (by omega) (by omega);have e5:(0≤((J+i:Nat):Int))=True:=tt (by omega);have e6:(((J+i:Nat):Int) < (UL:Int))=True:=tt (by omega);have e9:=FF (bt hu i) (bt hV i) (xA hu hV i);have e7:(az (P++(bV us V i++(us.getD i 0::(us.drop (i+1)++Z)))))[J+i]?=some [U (us.getD i 0:Nat)]:=by
   simp_all [gS,Nat.add_sub_cancel_left,Nat.sub_self]
  have e8:(az (P++(bV us V i++(us.getD i 0::(us.drop (i+1)++Z))))).set (J+i) [U (((us.getD i 0+V.getD i 0+cry us V i) % 4294967296:Nat):Int)]=az (P++(bV us V (i+1)++(us.drop (i+1)++Z))):=by
   rw [jT,List.set_append_right _ _ (by omega),List.set_append_right _ _ (by omega),hP,hsl,Nat.add_sub_cancel_left,Nat.sub_self];simp [bV,List.range_succ,vA]
  have ih':=ih (i+1) (by omega);have hc:cry us V (i+1)=(us.getD i 0+V.getD i 0+cry us V i) / 4294967296:=rfl;rw [ai];simp only [eW,go_sem,am4,am3,am5,am6,am7,g8,g9,g10,g11,g12,g13,g14,g15,g123,g124,g125,k63,k70,k2408,e1,e2,e3,e4,e5,e6,e7,e8,e9,Int.toNat_natCast,Nat.zero_add];exact ih' _ _ rfl rfl rfl rfl rfl rfl rfl rfl rfl rfl rfl rfl rfl rfl
theorem abF {U V:List Nat} {j k:Nat} (hU:Lb U) (hV:Lb V) (hvl:V.length=k+2) (h:aa (U.drop (j+1)) < aa V):U.getD (j+(k+2)) 0≤V.getD (k+1) 0:=by
 have h1:aa V=aa (V.take (k+1))+4294967296 ^ (k+1)*V.getD (k+1) 0:=by
  rw [← dm,List.take_of_length_le (by omega)]
 have h2:=bR (dC hV (k+1));rw [List.length_take,Nat.min_eq_left (by omega)] at h2;have h3:4294967296 ^ (k+1)*U.getD (j+(k+2)) 0≤aa (U.drop (j+1)):=by
  by_cases hl:j+1+(k+1)≤U.length
  ·have h4:=yB (U.drop (j+1)) (k+1) (by rw [List.length_drop]; omega);rw [List.drop_drop] at h4;have h5:=dv U (j+1+(k+1));rw [show j+1+(k+1)=j+(k+2) by omega] at h4 h5;rw [h4,h5,Nat.mul_add];omega
  grind
 refine Nat.le_of_not_lt fun hc=>?_;have h6:4294967296 ^ (k+1)*(V.getD (k+1) 0+1)≤4294967296 ^ (k+1)*U.getD (j+(k+2)) 0:=Nat.mul_le_mul_left _ hc;rw [Nat.mul_add,Nat.mul_one] at h6;omega
theorem VD {U:List Nat} {j n:Nat} (h:j+n < U.length):U=U.take j++((U.drop j).take n++U.getD (j+n) 0::U.drop (j+n+1)):=by
 grind [List.drop_eq_getElem_cons,List.drop_drop,List.take_append_drop]
theorem Q0 {U:List Nat} {j n i:Nat} (hi:i < n):((U.drop j).take n).getD i 0=U.getD (j+i) 0:=by
 rw [List.getD_eq_getElem?_getD,List.getD_eq_getElem?_getD,List.getElem?_take,if_pos hi,List.getElem?_drop]
theorem aea {V us P Z Qr:List Nat} {sh n j g:Int} {UL QL J:Nat} (hV:Lb V) (hu:Lb us) (hl:us.length=V.length) (hn:V.length≤100000) (hP:P.length=J) (hj:j=J) (hJ:J≤100000) (hUL:J+V.length≤UL) (s:ae) (h:ac) (X:Option (Ex × St)) (hX:ap 4 [8,9,10,11,12,13,14,15] (aq (ak R (aG false) eW) [8,9,10,11,12,13,14,15,123,124,125] [63,70,2408] s h)=X)
  (g8:s 8=I sh) (g9:s 9=.rsl 2408 none 1 0 UL) (g10:s 10=lm V) (g11:s 11=I n) (g12:s 12=.rsl 70 none 1 0 QL) (g13:s 13=I j) (g14:s 14=W g) (g15:s 15=U 0) (g123:s 123=lm V) (g124:s 124=I V.length) (g125:s 125=I 0) (k63:h 63=.dead) (k70:h 70=.ar 1 (az Qr)) (k2408:h 2408=.ar 1 (az (P++(us++Z)))) :
  ∃ hh,X=some (.normal,⟨upd (upd (upd (upd (upd (upd (upd (upd (fun _=>.any) 15 (U (cry us V V.length:Nat))) 14 (W g)) 13 (I j)) 12 (.rsl 70 none 1 0 QL)) 11 (I n)) 10 (lm V)) 9 (.rsl 2408 none 1 0 UL)) 8 (I sh),hh⟩)∧hh 70=.ar 1 (az Qr)∧hh 2408=.ar 1 (az (P++(bV us V V.length++Z)))∧(∀ a,a ≠ 70→a ≠ 2408→hh a=.dead):=by
 subst hX;exact XQ hV hu hl hn hP hj hJ hUL V.length 0 (Nat.zero_add _) s h g8 g9 g10 g11 g12 g13 g14 g15 g123 g124 g125 k63 k70 k2408
theorem abG {q top:Nat} {us vs:List Nat} (hq:q < 4294967296) (ht:top < 4294967296) (hu:Lb us) (hv:Lb vs) (hl:us.length=vs.length) (hf:(ja q top us vs).2.2=true):1≤q:=by
 obtain ⟨t1,t2,t3,t4⟩:=Jg hq ht hu hv hl;rw [if_pos hf] at t1;refine Nat.pos_of_ne_zero fun h0=>?_;rw [h0,Nat.zero_mul,Nat.add_zero] at t1;have h1:=bR t3;rw [h0] at t2 h1 t4;rw [t4] at h1;have h2:4294967296 ^ vs.length*((ja 0 top us vs).2.1+1)≤4294967296 ^ vs.length*4294967296:=Nat.mul_le_mul_left _ (by omega);rw [Nat.mul_add,Nat.mul_one] at h2;omega
theorem VE {A r:List Nat} {j k t:Nat} (h:r.length=k+2):A.take j++(r++t::A.drop (j+(k+2)+1))=jN A j r t:=by
 grind [jN]
theorem XR {V:List Nat} {k:Nat} {sh:Int} {UL QL:Nat} (hV:Lb V) (hvl:V.length=k+2) (hn2:2147483648≤V.getD (k+1) 0) (hn:V.length≤100000) (hUL:UL≤100000) :
  ∀ (m:Nat) (A Dn:List Nat),Lb A→A.length=UL→m+(k+2)≤UL→m+Dn.length=QL→aa (A.drop m) < aa V→∀ (s:ae) (h:ac),s 8=I sh→s 9=.rsl 2408 none 1 0 UL→s 10=lm V→s 11=I (k+2:Nat)→s 12=.rsl 70 none 1 0 QL→s 13=I ((m:Int) - 1)→h 63=.dead→h 70=.ar 1 (az (List.replicate m 0++Dn))→h 2408=.ar 1 (az A) →
  ∃ hh,ap 2 [8,9,11,12] (aq (ak R (aG false) gH) [8,9,10,11,12,13] [63,70,2408] s h)=some (.normal,⟨upd (upd (upd (upd (fun _=>.any) 12 (.rsl 70 none 1 0 QL)) 11 (I (k+2:Nat))) 9 (.rsl 2408 none 1 0 UL)) 8 (I sh),hh⟩)∧hh 70=.ar 1 (az ((rk V m A).2++Dn))∧hh 2408=.ar 1 (az (rk V m A).1)∧(∀ a,a ≠ 70→a ≠ 2408→hh a=.dead):=by
 intro m;induction m with
 | zero =>
  intro A Dn hA hl hm hq hlt s h g8 g9 g10 g11 g12 g13 k63 k70 k2408;have e1:(0≤(((0:Nat):Int) - 1))=False:=ff (by omega);rw [ai];refine ⟨?hh0,?_,?_,?_,?_⟩;rotate_left
  ·simp only [gH,go_sem,am7,g8,g9,g10,g11,g12,g13,k63,k70,k2408,e1];rfl
  ·rfl
  ·rfl
  simp_all [acj,if_false,ite_self]
 | succ j ih =>
  intro A Dn hA hl hm hq hlt s h g8 g9 g10 g11 g12 g13 k63 k70 k2408;have e0:(((j+1:Nat):Int) - 1)=(j:Int):=by omega
  rw [e0] at g13;have e1:(0≤(j:Int))=True:=tt (by omega);have w1:IntKind.i64.wrap ((j:Int)+((k+2:Nat):Int))=((j+(k+2):Nat):Int):=wi (by simp) (by omega);have w2:IntKind.i64.wrap (((j+(k+2):Nat):Int) - 1)=((j+(k+1):Nat):Int):=wi (by omega) (by omega);have w3:IntKind.i64.wrap (((j+(k+2):Nat):Int) - 2)=((j+k:Nat):Int):=wi (by omega) (by omega);have w4:IntKind.i64.wrap (((k+2:Nat):Int) - 1)=((k+1:Nat):Int):=wi (by omega) (by omega);have w5:IntKind.i64.wrap (((k+2:Nat):Int) - 2)=((k:Nat):Int):=wi (by omega) (by omega);have w6:IntKind.i64.wrap (((j+(k+2):Nat):Int)+1)=((j+(k+2)+1:Nat):Int):=wi (by omega) (by omega);have w7:IntKind.i64.wrap ((j:Int) - 1)=(j:Int) - 1:=i64_in _ ⟨by omega,by omega⟩;have r1:aZ (az V) ((k+1:Nat):Int)=some (.ipt [U (V.getD (k+1) 0:Nat)]):=bh rfl (by omega);have r2:aZ (az V) ((k:Nat):Int)=some (.ipt [U (V.getD k 0:Nat)]):=bh rfl (by omega);have b1:(0≤((j+(k+2):Nat):Int))=True:=tt (by omega);have b2:(0≤((j+(k+1):Nat):Int))=True:=tt (by omega);have b3:(0≤((j+k:Nat):Int))=True:=tt (by omega);have b4:(((j+(k+2):Nat):Int) < (UL:Int))=True:=tt (by omega);have b5:(((j+(k+1):Nat):Int) < (UL:Int))=True:=tt (by omega);have b6:(((j+k:Nat):Int) < (UL:Int))=True:=tt (by omega);have l1:(az A)[j+(k+2)]?=some [U (A.getD (j+(k+2)) 0:Nat)]:=gS (by omega);have l2:(az A)[j+(k+1)]?=some [U (A.getD (j+(k+1)) 0:Nat)]:=gS (by omega);have l3:(az A)[j+k]?=some [U (A.getD (j+k) 0:Nat)]:=gS (by omega);have htop:=abF hA hV hvl hlt;have hg:=XM (top:=A.getD (j+(k+2)) 0) (next:=A.getD (j+(k+1)) 0) (third:=A.getD (j+k) 0) (v:=V.getD (k+1) 0) (w:=V.getD k 0) hn2 (bt hV _) htop (bt hA _) (bt hA _) (bt hV _);have hT:sN (A.getD (j+(k+2)) 0) ((A.drop j).take (k+2))=(A.getD (j+(k+2)) 0*4294967296+A.getD (j+(k+1)) 0)*4294967296+A.getD (j+k) 0:=by
   unfold sN;have h1:((A.drop j).take (k+2)).length=k+2:=by grind
   rw [h1,show k+2 - 1=k+1 by omega,show k+2 - 2=k by omega,Q0 (by omega),Q0 (by omega)]
  have hW:rj V=V.getD (k+1) 0*4294967296+V.getD k 0:=by
   grind [rj]
  rw [← hT,← hW] at hg;have hgb:pK (sN (A.getD (j+(k+2)) 0) ((A.drop j).take (k+2))) (rj V) < 4294967296:=by
   grind [pK,sN,rj,Nat.min_le_left]
  obtain ⟨G,hG⟩:∃ G,pK (sN (A.getD (j+(k+2)) 0) ((A.drop j).take (k+2))) (rj V)=G:=⟨_,rfl⟩;rw [hG] at hg hgb;have hsp:=VD (U:=A) (j:=j) (n:=k+2) (by omega);have hwl:((A.drop j).take (k+2)).length=V.length:=by grind
  have hpl:(A.take j).length=j:=by grind
  have htk:=fun (h:ac) (d:Nat) (hh:h 2408=.ar 1 (az A)) (hd:h (2000+8*d)=.dead)=>VC (V:=V) (us:=(A.drop j).take (k+2)) (P:=A.take j) (Q:=A.drop (j+(k+2)+1)) (q:=G) (lo:=j) (top:=A.getD (j+(k+2)) 0) hV hgb hn (by omega) hwl hpl (dC (jh hA j) _) (bt hA _) (h:=h) (d:=d) (id:=2408) (by grind) hd;rw [hvl] at htk;have sl:eu 1 (.rsl 2408 none 1 0 UL) (some (I (j:Int))) (some (I ((j+(k+2)+1:Nat):Int))) none=some (.rsl 2408 none 1 j (k+2+1)):=by
   have h1:jK UL UL (some (I ((j+(k+2)+1:Nat):Int)))=some (j+(k+2)+1):=oJ rfl (by omega);have h2:jK 0 (j+(k+2)+1) (some (I (j:Int)))=some j:=oJ rfl (by omega);have h3:j+(k+2)+1 - j=k+2+1:=by omega
   simp only [eu,kw,h1,h2,Option.bind_some,Option.map_some,Nat.zero_add,h3,if_true,Option.isNone_none]
  rw [ai];generalize aq _ _ _=L at ih ⊢;simp only [gH,go_sem,am4,am3,am5,am6,am7,g8,g9,g10,g11,g12,g13,k63,k70,k2408,e1,w1,w2,w3,w4,w5,w6,r1,r2,b1,b2,b3,b4,b5,b6,l1,l2,l3,hg,sl,Int.toNat_natCast,Nat.zero_add];rw [htk _ _ rfl rfl];have hpos:=abG (q:=G) (top:=A.getD (j+(k+2)) 0) (us:=(A.drop j).take (k+2)) (vs:=V) hgb (bt hA _) (dC (jh hA j) _) hV hwl;obtain ⟨q1,q2,q3,q4⟩:=Jg (q:=G) (top:=A.getD (j+(k+2)) 0) (us:=(A.drop j).take (k+2)) (vs:=V) hgb (bt hA _) (dC (jh hA j) _) hV hwl;have hVb:aa V < 4294967296 ^ (k+2):=by grind [bR]
  obtain ⟨x1,x2,x3⟩:=QU (n:=k+2) hA (by omega) hVb hlt;have hs:=Vv (top:=A.getD (j+(k+2)) 0) (bt hA _) (dC (jh hA j) (k+2)) hV (by rw [hwl,hvl]) hvl hn2 (by omega);have hdv:rk V (j+1) A=((rk V j (jN A j (qp (A.getD (j+(k+2)) 0) ((A.drop j).take (k+2)) V).1 (qp (A.getD (j+(k+2)) 0) ((A.drop j).take (k+2)) V).2.1)).1,(rk V j (jN A j (qp (A.getD (j+(k+2)) 0) ((A.drop j).take (k+2)) V).1 (qp (A.getD (j+(k+2)) 0) ((A.drop j).take (k+2)) V).2.1)).2++[(qp (A.getD (j+(k+2)) 0) ((A.drop j).take (k+2)) V).2.2]):=by
   rw [← hvl];rfl
  rw [x1] at hs;rw [hdv];have hds:qp (A.getD (j+(k+2)) 0) ((A.drop j).take (k+2)) V=if (ja G (A.getD (j+(k+2)) 0) ((A.drop j).take (k+2)) V).2.2=true then (bV (ja G (A.getD (j+(k+2)) 0) ((A.drop j).take (k+2)) V).1 V V.length,((ja G (A.getD (j+(k+2)) 0) ((A.drop j).take (k+2)) V).2.1+cry (ja G (A.getD (j+(k+2)) 0) ((A.drop j).take (k+2)) V).1 V V.length) % 4294967296,G - 1) else ((ja G (A.getD (j+(k+2)) 0) ((A.drop j).take (k+2)) V).1,(ja G (A.getD (j+(k+2)) 0) ((A.drop j).take (k+2)) V).2.1,G):=by
   unfold qp;rw [hG]
  generalize ja G (A.getD (j+(k+2)) 0) ((A.drop j).take (k+2)) V=r at *
  obtain ⟨ra,rt,rf⟩:=r;generalize qp (A.getD (j+(k+2)) 0) ((A.drop j).take (k+2)) V=sd at *
  have wg:IntKind.u32.wrap (G:Int)=G:=vN rfl hgb;have o1:(az (List.replicate (j+1) 0++Dn))[j]?=some [U (0:Nat)]:=by
   rw [gS (by simp; omega),List.getD_eq_getElem?_getD,List.getElem?_append_left (by simp),List.getElem?_replicate,if_pos (by omega)];rfl
  have o2:∀ z:Nat,(az (List.replicate (j+1) 0++Dn)).set j [U (z:Int)]=az (List.replicate j 0++z::Dn):=fun z=>by
   rw [jT];congr 1;rw [List.replicate_succ',List.append_assoc,List.set_append_right _ _ (by simp)];simp
  have o3:((j:Int) < (QL:Int))=True:=tt (by omega);cases rf with
  | false =>
   simp only [Bool.false_eq_true,if_false] at hds;subst hds;simp only at hs ⊢;obtain ⟨d1,d2,d3,d4,d5⟩:=hs;rw [VE d4];have ih':=ih (jN A j ra rt) (G::Dn) (Jh hA d3 d5) (by rw [xN (by omega)]; exact hl) (by omega) (by simp; omega) (by
    rw [CZ (by omega),cO,d4,w2' x2,d1];exact Nat.mod_lt _ (by omega))
   simp only [go_sem,am4,am3,am5,am6,am7,w7,wg,o1,o2,o3,e1,Int.toNat_natCast,Nat.zero_add];rw [List.append_assoc];exact ih' _ _ rfl rfl rfl rfl rfl rfl rfl rfl rfl
  | true =>
   simp only [if_true] at hds;subst hds;simp only at hs q2 q3 q4 ⊢;obtain ⟨d1,d2,d3,d4,d5⟩:=hs;have hG1:1≤G:=hpos rfl;have wq:IntKind.u64.wrap ((G:Int) - 1)=((G - 1:Nat):Int):=cI (by omega) (by omega);have wg1:IntKind.u32.wrap ((G - 1:Nat):Int)=((G - 1:Nat):Int):=vN rfl (by omega);have hx:=aea (V:=V) (us:=ra) (P:=A.take j) (Z:=rt::A.drop (j+(k+2)+1)) (Qr:=List.replicate (j+1) 0++Dn) (sh:=sh) (n:=(k+2:Nat)) (j:=(j:Int)) (g:=((G - 1:Nat):Int)) (UL:=UL) (QL:=QL) (J:=j) hV q3 q4 hn hpl rfl (by omega) (by omega);simp only [go_sem,am4,am3,am5,am6,am7,wq];generalize hX:ap 4 _ _=X;obtain ⟨hh,rfl,y70,y2408,yd⟩:=hx _ _ _ hX rfl rfl rfl rfl rfl rfl rfl rfl rfl rfl rfl rfl rfl rfl;have y63:hh 63=.dead:=yd _ (by decide) (by decide);have hsl:(bV ra V V.length).length=k+2:=by rw [dD,hvl]
   have wc:IntKind.u32.wrap ((rt:Int)+(cry ra V V.length:Int))=(((rt+cry ra V V.length) % 4294967296:Nat):Int):=AN (by simp);have z1:(az (A.take j++(bV ra V V.length++rt::A.drop (j+(k+2)+1))))[j+(k+2)]?=some [U (rt:Nat)]:=by
    rw [gS (by simp [hpl,hsl]),List.getD_eq_getElem?_getD,List.getElem?_append_right (by omega),List.getElem?_append_right (by omega),hpl,hsl,Nat.add_sub_cancel_left,Nat.sub_self];rfl
   have z2:(az (A.take j++(bV ra V V.length++rt::A.drop (j+(k+2)+1)))).set (j+(k+2)) [U (((rt+cry ra V V.length) % 4294967296:Nat):Int)]=az (jN A j (bV ra V V.length) ((rt+cry ra V V.length) % 4294967296)):=by
    rw [jT,List.set_append_right _ _ (by omega),List.set_append_right _ _ (by omega),hpl,hsl,Nat.add_sub_cancel_left,Nat.sub_self,← VE hsl];rfl
   have ih':=ih (jN A j (bV ra V V.length) ((rt+cry ra V V.length) % 4294967296)) ((G - 1)::Dn) (Jh hA d3 d5) (by rw [xN (by omega)]; exact hl) (by omega) (by simp; omega) (by
    rw [CZ (by omega),cO,hsl,w2' x2,d1];exact Nat.mod_lt _ (by omega))
   generalize jN A j (bV ra V V.length) ((rt+cry ra V V.length) % 4294967296)=A2 at *
   generalize (rt+cry ra V V.length) % 4294967296=rc at *
   simp only [go_sem,am4,am3,am5,am6,am7,w1,w7,wg1,wc,z1,z2,o1,o2,o3,e1,b1,b4,y63,y70,y2408,Int.toNat_natCast,Nat.zero_add];rw [List.append_assoc];exact ih' _ _ rfl rfl rfl rfl rfl rfl y63 rfl rfl
theorem ZZ {x:Nat} (hx:x < 4294967296):R F.bits_LeadingZeros32 [U x] []=some (I ((32 - af x:Nat):Int),[]):=by
 refine aE anl rfl ?_;have hb:af x≤32:=bv.2 hx;have hl:=Nl hx;have w1:IntKind.i64.wrap (32 - (af x:Int))=((32 - af x:Nat):Int):=wi (by omega) (by omega);simp only [qm,qZ,go_sem,am4,am3,hl,w1]
theorem aeb {V A:List Nat} {k:Nat} {sh:Int} {UL m:Nat} (hV:Lb V) (hvl:V.length=k+2) (hn2:2147483648≤V.getD (k+1) 0) (hn:V.length≤100000) (hUL:UL≤100000) (hA:Lb A) (hl:A.length=UL) (hm:m+(k+2)≤UL) (hlt:aa (A.drop m) < aa V) (s:ae) (h:ac) (X:Option (Ex × St)) (hX:ap 2 [8,9,11,12] (aq (ak R (aG false) gH) [8,9,10,11,12,13] [63,70,2408] s h)=X)
  (g8:s 8=I sh) (g9:s 9=.rsl 2408 none 1 0 UL) (g10:s 10=lm V) (g11:s 11=I (k+2:Nat)) (g12:s 12=.rsl 70 none 1 0 m) (g13:s 13=I ((m:Int) - 1)) (k63:h 63=.dead) (k70:h 70=.ar 1 (az (List.replicate m 0))) (k2408:h 2408=.ar 1 (az A)) :
  ∃ hh,X=some (.normal,⟨upd (upd (upd (upd (fun _=>.any) 12 (.rsl 70 none 1 0 m)) 11 (I (k+2:Nat))) 9 (.rsl 2408 none 1 0 UL)) 8 (I sh),hh⟩)∧hh 70=.ar 1 (az (rk V m A).2)∧hh 2408=.ar 1 (az (rk V m A).1)∧(∀ a,a ≠ 70→a ≠ 2408→hh a=.dead):=by
 subst hX;have:=XR (sh:=sh) (QL:=m) hV hvl hn2 hn hUL m A [] hA hl hm (by simp) hlt s h g8 g9 g10 g11 g12 g13 k63 (by rw [List.append_nil]; exact k70) k2408;rw [List.append_nil] at this;exact this
theorem XS {b:List Nat} {k:Nat} (hb:Lb b) (hl:b.length=k+2) (ht:b.getD (k+1) 0 ≠ 0):2147483648*4294967296 ^ (k+1)≤aa b*2 ^ (32 - af (b.getD (k+1) 0))∧aa b*2 ^ (32 - af (b.getD (k+1) 0)) < 4294967296 ^ (k+2):=by
 have h1:aa b=aa (b.take (k+1))+4294967296 ^ (k+1)*b.getD (k+1) 0:=by
  rw [← dm,List.take_of_length_le (by omega)]
 have h2:=bR (dC hb (k+1));rw [List.length_take,Nat.min_eq_left (by omega)] at h2;have h3:=bt hb (k+1);generalize b.getD (k+1) 0=x at *
 have h4:af x≤32:=bv.2 h3;have h5:0 < af x:=abD ht;have h6:=dH (n:=x) (32 - af x) ht;have h7:2147483648≤x*2 ^ (32 - af x):=by
  refine Nat.le_of_not_lt fun hc=>?_;have:=bv.2 (show x*2 ^ (32 - af x) < 2 ^ 31 from hc);omega
 have h8:(x+1)*2 ^ (32 - af x)≤4294967296:=by
  have h9:x < 2 ^ af x:=bv.1 (Nat.le_refl _);have h10:(x+1)*2 ^ (32 - af x)≤2 ^ af x*2 ^ (32 - af x):=Nat.mul_le_mul_right _ h9;rw [← Nat.pow_add,show af x+(32 - af x)=32 by omega] at h10;exact h10
 rw [h1];have e:4294967296 ^ (k+2)=4294967296 ^ (k+1)*4294967296:=Nat.pow_succ ..;rw [e];generalize 4294967296 ^ (k+1)=B at *
 generalize 2 ^ (32 - af x)=S at *
 have h11:B*2147483648≤B*(x*S):=Nat.mul_le_mul_left _ h7;have h12:B*((x+1)*S)≤B*4294967296:=Nat.mul_le_mul_left _ h8;have h13:(aa (b.take (k+1))+B*x)*S=aa (b.take (k+1))*S+B*(x*S):=by rw [Nat.add_mul,Nat.mul_assoc]
 rw [h13];constructor
 ·omega
 ·have hS:0 < S:=by
   rcases Nat.eq_zero_or_pos S with h0 | h0
   ·rw [h0] at h7; omega
   ·exact h0
  have h14:aa (b.take (k+1))*S < B*S:=Nat.mul_lt_mul_of_pos_right h2 hS;rw [Nat.add_mul,Nat.one_mul,Nat.mul_add] at h12;omega
theorem P1 {a b:List Nat} (ha:Lb a) (hb:Lb b) (h1:a.length≤50000) (h2:b.length≤50000) (hl:(ao (aa b)).length=1) (hge:aa b≤aa a):R F.natural_divide [lm a,lm b] []=some (.tup [lm (cT (aa b) (ao (aa a))).1,lm [aa a % aa b]],[]):=by
 refine aE alf rfl ?_;have t1:=cz ha (by omega);have t2:=cz hb (by omega);have la:=bX a ha;have hc:=uH (aO (aa a)) (aO (aa b)) (by omega) (by omega);rw [aK,aK] at hc;have e1:(bC (aa a) (aa b) < 0)=False:=by
  unfold bC;grind
 obtain ⟨y,hy⟩:=List.length_eq_one_iff.1 hl;have hv:aa b=y:=by
  grind [aK,aa]
 have hyb:y < 4294967296:=by
  have:=aO (aa b);rw [hy] at this;exact this y (by simp)
 have hy0:0 < y:=by
  grind [ef]
 have hs:=XP (aO (aa a)) hy0 hyb (by omega);obtain ⟨s1,s2,s3⟩:=wx hy0 (aO (aa a));rw [aK] at s1;have s4:(cT y (ao (aa a))).2=aa a % y:=by
  grind [Nat.mul_comm,Nat.mul_add_mod,Nat.mod_eq_of_lt]
 rw [hv] at hge ⊢;rw [s4] at hs;rw [hy] at t2 hc;have e2:aZ (az [y]) 0=some (.ipt [U (y:Nat)]):=bh (n:=0) rfl (by simp);have e3:(([y]:List Nat).length:Int)=1:=rfl;have e4:((1:Nat):Int)=1:=rfl;simp only [pU,qN,go_sem,am4,am3,am5,am6,t1,t2,hc,e1,e2,e3,e4,hs,decide_true];rfl
theorem P2 {a b:List Nat} {k:Nat} (ha:Lb a) (hb:Lb b) (h1:a.length≤50000) (h2:b.length≤50000) (hl:(ao (aa b)).length=k+2) (hge:aa b≤aa a):∃ Q Rr,R F.natural_divide [lm a,lm b] []=some (.tup [lm Q,lm Rr],[])∧Lb Q∧Lb Rr∧aa Q=aa a / aa b∧aa Rr=aa a % aa b∧Q.length≤100000∧Rr.length≤100000:=by
 have t1:=cz ha (by omega);have t2:=cz hb (by omega);have la:=bX a ha;have lb:=bX b hb;have hc:=uH (aO (aa a)) (aO (aa b)) (by omega) (by omega);rw [aK,aK] at hc;have e1:(bC (aa a) (aa b) < 0)=False:=by
  unfold bC;grind
 have hvd:=aK (aa b);have hLd:=aO (aa b);have hb0:aa b ≠ 0:=fun h=>by
  rw [gR.2 h] at hl;grind
 have ht:(ao (aa b)).getD (k+1) 0 ≠ 0:=by
  intro h0;have q1:aa (ao (aa b))=aa ((ao (aa b)).take (k+1))+4294967296 ^ (k+1)*(ao (aa b)).getD (k+1) 0:=by
   rw [← dm,List.take_of_length_le (by omega)]
  have q2:=bR (dC hLd (k+1));have q3:=Kl hb0;rw [List.length_take,Nat.min_eq_left (by omega)] at q2;rw [hl,show k+2 - 1=k+1 from rfl] at q3;rw [h0,Nat.mul_zero,hvd] at q1;omega
 obtain ⟨n1,n2⟩:=XS hLd hl ht;rw [hvd] at n1 n2;have hy:=bt hLd (k+1);have hyl:aZ (az (ao (aa b))) ((k+1:Nat):Int)=some (.ipt [U ((ao (aa b)).getD (k+1) 0:Nat)]):=bh (n:=k+1) rfl (by omega);generalize (ao (aa b)).getD (k+1) 0=y at *
 have hlz:=ZZ hy;have hbl:af y≤32:=bv.2 hy;have hbp:0 < af y:=abD ht;generalize hs:32 - af y=s at *
 have hs32:s < 32:=by omega
 have s1:=G4 (aO (aa a)) (n:=s) (by omega) (by omega);have s2:=G4 hLd (n:=s) (by omega) (by omega);rw [aK,show s / 32=0 by omega,Nat.zero_add] at s1 s2;have hsp:(2:Nat) ^ s≤2147483648:=Nat.pow_le_pow_right (n:=2) (i:=s) (j:=31) (by decide) (by omega);have hAl:=du (aa a);have hBl:=du (aa b);have hle:k+2≤(ao (aa a)).length:=by
  rw [← hl];refine Nat.le_of_not_lt fun hc=>?_;have:=mw hc;omega
 have hA2:aa a*2 ^ s < 4294967296 ^ ((ao (aa a)).length+1):=by
  rw [Nat.pow_succ];exact Nat.mul_lt_mul_of_lt_of_le hAl (by omega) (by decide)
 have hB2:aa b*2 ^ s < 4294967296 ^ ((ao (aa b)).length+1):=by
  rw [Nat.pow_succ];exact Nat.mul_lt_mul_of_lt_of_le hBl (by omega) (by decide)
 have t3:=cz (m:=cB ((ao (aa b)).length+1) (aa b*2 ^ s)) (jS _ _) (by rw [bK]; omega);rw [iw,Nat.mod_eq_of_lt hB2] at t3;have hVv:=aK (aa b*2 ^ s);have hVb:=aO (aa b*2 ^ s);have hVl:(ao (aa b*2 ^ s)).length=k+2:=by
  have q1:=gu n2;have q2:=du (aa b*2 ^ s);refine Nat.le_antisymm q1 (Nat.le_of_not_lt fun hc=>?_);have q3:4294967296 ^ (ao (aa b*2 ^ s)).length≤4294967296 ^ (k+1):=Nat.pow_le_pow_right (by decide) (by omega);omega
 have hVt:2147483648≤(ao (aa b*2 ^ s)).getD (k+1) 0:=by
  have q1:aa (ao (aa b*2 ^ s))=aa ((ao (aa b*2 ^ s)).take (k+1))+4294967296 ^ (k+1)*(ao (aa b*2 ^ s)).getD (k+1) 0:=by
   rw [← dm,List.take_of_length_le (by omega)]
  have q2:=bR (dC hVb (k+1));rw [List.length_take,Nat.min_eq_left (by omega)] at q2;refine Nat.le_of_not_lt fun hc=>?_;have q3:4294967296 ^ (k+1)*((ao (aa b*2 ^ s)).getD (k+1) 0+1)≤4294967296 ^ (k+1)*2147483648:=Nat.mul_le_mul_left _ hc;rw [Nat.mul_add,Nat.mul_one] at q3;omega
 generalize ao (aa b*2 ^ s)=V at *
 obtain ⟨m,hm⟩:∃ m,(ao (aa a)).length=m+(k+1):=⟨_,(Nat.sub_add_cancel (by omega)).symm⟩;have hUv:aa (cB ((ao (aa a)).length+1) (aa a*2 ^ s))=aa a*2 ^ s:=by rw [iw,Nat.mod_eq_of_lt hA2]
 have hUb:=jS ((ao (aa a)).length+1) (aa a*2 ^ s);have hUl:=bK ((ao (aa a)).length+1) (aa a*2 ^ s);have hlt:aa ((cB ((ao (aa a)).length+1) (aa a*2 ^ s)).drop m) < aa V:=by
  rw [qP hUb,hUv,hVv];refine Nat.lt_of_lt_of_le (Nat.div_lt_of_lt_mul ?_) n1;rw [Nat.mul_comm 2147483648,← Nat.mul_assoc,← Nat.pow_add,← hm];exact Nat.mul_lt_mul_of_lt_of_le hAl hsp (by decide)
 generalize cB ((ao (aa a)).length+1) (aa a*2 ^ s)=A at *
 obtain ⟨d1,d2,d3,d4,d5,d6⟩:=Vx hVb hVl hVt m A hUb (by omega) hlt;have hdx:=aeb (sh:=(s:Int)) hVb hVl hVt (by omega) (UL:=A.length) (by omega) hUb rfl (m:=m) (by omega) hlt;generalize (rk V m A).1=rr at *
 generalize (rk V m A).2=qq at *
 have hrt:aa (rr.take (k+2))=aa rr:=by
  have q1:=cO (rr.take (k+2)) (rr.drop (k+2));rw [List.take_append_drop] at q1;have q2:=qP d5 (k+2);rw [Nat.div_eq_of_lt (Nat.lt_trans d2 (by rw [hVv]; exact n2))] at q2;rw [q2] at q1;omega
 have s3:=UQ (dC d5 (k+2)) (n:=s) (by rw [List.length_take]; omega) (by omega);rw [hrt,show s / 32=0 by omega,Nat.sub_zero] at s3;have hrr:aa rr / 2 ^ s=aa a % aa b∧aa qq=aa a / aa b:=by
  rw [hUv,hVv] at d1;rw [hVv] at d2;have q0:0 < 2 ^ s:=Nat.two_pow_pos s;have q1:aa rr % 2 ^ s=0:=by
   have:aa a*2 ^ s % 2 ^ s=0:=Nat.mul_mod_left ..;rw [d1,Nat.mul_assoc,Nat.mul_comm (aa b),Nat.mul_assoc,Nat.add_mul_mod_self_left] at this;exact this
  obtain ⟨r,hr⟩:=Nat.dvd_of_mod_eq_zero q1;rw [hr,Nat.mul_div_cancel_left _ q0];rw [hr] at d1 d2;have q2:aa a=r+aa b*aa qq:=by
   refine Nat.eq_of_mul_eq_mul_right q0 ?_;rw [d1];grind
  have q3:r < aa b:=by
   refine Nat.lt_of_mul_lt_mul_right (a:=2 ^ s) ?_;rw [Nat.mul_comm r];exact d2
  rw [q2,Nat.add_mul_mod_self_left,Nat.mod_eq_of_lt q3,Nat.add_mul_div_left _ _ (by omega),Nat.div_eq_of_lt q3,Nat.zero_add];exact ⟨rfl,rfl⟩
 refine ⟨qq,cB (ao (aa rr)).length (aa rr / 2 ^ s),?_,d6,jS _ _,hrr.2,?_,by omega,?_⟩;rotate_left
 ·rw [iw,Nat.mod_eq_of_lt (Nat.lt_of_le_of_lt (Nat.div_le_self _ _) (du _))];exact hrr.1
 ·rw [bK];have:=bX rr d5;omega
 refine aE alf rfl ?_;generalize cB ((ao (aa b)).length+1) (aa b*2 ^ s)=B2 at s2 t3;have tk:List.take B2.length (az B2)=az B2:=List.take_of_length_le (by simp [az]);have e2:(((ao (aa b)).length:Int)=1)=False:=eq_false (by omega);have w1:IntKind.i64.wrap (((ao (aa b)).length:Int) - 1)=((k+1:Nat):Int):=wi (by omega) (by omega);have e3:((A.length:Int)≤(ao (aa a)).length)=False:=eq_false (by omega);have w2:IntKind.i64.wrap ((A.length:Int) - V.length)=((m:Nat):Int):=wi (by omega) (by omega);have w3:IntKind.i64.wrap ((m:Int) - 1)=(m:Int) - 1:=i64_in _ ⟨by omega,by omega⟩;have z1:oW (.v (.int .i64 (m:Int))) (.v (.int .i64 (m:Int)))=some (m,m):=by
  simp only [oW];rw [if_pos ⟨by omega,by omega,by omega⟩];rfl
 have z2:(m*4≤140737488355328)=True:=eq_true (by omega);simp only [pU,qN,go_sem,am4,am3,am5,am6,t1,t2,hc,e1,e2,Nat.zero_add,Nat.le_refl,e3,w1,hyl,hlz,s1,s2,tk,t3];rw [ai];simp only [sM,go_sem,am4,am3,am5,am7,e3,w2,w3,z1,z2];generalize hX:ap 2 _ _=X;obtain ⟨hh,rfl,q70,q2408,qd⟩:=hdx _ _ _ hX rfl rfl rfl (by rw [hVl]; rfl) rfl rfl rfl (by simp [az]; rfl) rfl;have e4:∀ n:Nat,n≤A.length→eu 1 (.rsl 2408 none 1 0 A.length) none (some (I (n:Int))) none=some (.rsl 2408 none 1 0 n):=fun n hn=>by simp [eu,kw,jK,hn]
 have e4:=e4 (k+2) (by omega);have e5:(0+(k+2)≤rr.length)=True:=eq_true (by omega);have e6:List.take (k+2) (az rr)=az (rr.take (k+2)):=(List.map_take ..).symm;simp only [go_sem,am4,am3,am5,am6,q70,q2408,qd 3336 (by decide) (by decide),e4,e5,e6,s3];rw [d3,if_pos (by omega),if_pos rfl];simp only [go_sem]
theorem VF {a b:List Nat} (ha:Lb a) (hb:Lb b) (h1:a.length≤50000) (h2:b.length≤50000) (h0:aa b ≠ 0) (hge:aa b≤aa a):∃ Q Rr,R F.natural_divide [lm a,lm b] []=some (.tup [lm Q,lm Rr],[])∧Lb Q∧Lb Rr∧aa Q=aa a / aa b∧aa Rr=aa a % aa b∧Q.length≤100000∧Rr.length≤100000:=by
 have la:=bX a ha;have lb:=bX b hb;have hn:(ao (aa b)).length ≠ 0:=fun h=>h0 (gR.1 (List.length_eq_zero_iff.1 h));by_cases hl:(ao (aa b)).length=1
 ·have:=P1 ha hb h1 h2 hl hge;have hb1:=du (aa b);rw [hl,Nat.pow_one] at hb1;obtain ⟨s1,s2,s3⟩:=wx (Nat.pos_of_ne_zero h0) (aO (aa a));rw [aK] at s1;have s4:=QV (Nat.pos_of_ne_zero h0) hb1 (aO (aa a));refine ⟨_,_,this,s4,fun x hx=>?_,?_,?_,by omega,by simp⟩
  ·have:x=aa a % aa b:=by simpa using hx
   have:=Nat.mod_lt (aa a) (Nat.pos_of_ne_zero h0);omega
  ·generalize (cT (aa b) (ao (aa a))).2=r at *
   generalize (cT (aa b) (ao (aa a))).1=q at *
   rw [s1,Nat.mul_comm,Nat.mul_add_div (Nat.pos_of_ne_zero h0),Nat.div_eq_of_lt s2,Nat.add_zero]
  ·simp [aa]
 ·obtain ⟨k,hk⟩:∃ k,(ao (aa b)).length=k+2:=⟨(ao (aa b)).length - 2,by omega⟩;exact P2 ha hb h1 h2 hk hge
theorem VG {a b:List Nat} (ha:Lb a) (hb:Lb b) (h1:a.length≤256) (h2:b.length≤256) (h0:aa b ≠ 0) (hge:aa b≤aa a):R F.natural_DivMod [lm a,lm b] []=some (.tup [lm (ao (aa a / aa b)),lm (ao (aa a % aa b)),I 0],[]):=by
 refine aE ans rfl ?_;have e1:(256 < a.length)=False:=ff (by omega);have e2:(256 < b.length)=False:=ff (by omega);obtain ⟨Q,Rr,hd,q1,q2,q3,q4,q5,q6⟩:=VF ha hb (by omega) (by omega) h0 hge;have t1:=cz q1 (by omega);have t2:=cz q2 (by omega);rw [q3] at t1;rw [q4] at t2;have e3:(((ao (aa b)).length:Int)=0)=False:=eq_false fun h=>h0 (gR.1 (List.length_eq_zero_iff.1 (by omega)));simp only [vM,xq,go_sem,am4,am3,am5,am6,e1,e2,e3,oK,cz hb (by omega),hd,t1,t2,IJ]
def p7 (a b:Rd) (p:Int):Nat:=(p+3+af (aa b.m) - af (aa a.m)).toNat
def kK (a b:Rd) (p:Int) (up:Bool):Rd × Int:=if bp p [a,b]=0 then (if b.m.length=0 then (aP,10) else if a.m.length=0 then (aP,0) else
 iC (a.neg != b.neg) (dh (aa a.m*2 ^ p7 a b p / aa b.m) (a.e - p7 a b p - b.e) (decide (aa a.m*2 ^ p7 a b p % aa b.m ≠ 0)) p (up != (a.neg != b.neg)))) else (aP,bp p [a,b])
theorem Q1 {a b:Rd} (oa:Ok0 a) (ob:Ok0 b) {p:Int} {up:Bool}:R F.round_div [ag a,ag b,I p,B up] []=some (rV (kK a b p up),[]):=by
 refine aE anF rfl ?_;have hf:R F.round_fault [I p,.sl 3 [[B a.neg,lm a.m,I a.e],[B b.neg,lm b.m,I b.e]]] []=some (I (bp p [a,b]),[]):=xH (p:=p) (l:=[a,b]) (fun x hx=>by
  grind) (show 2≤100000 by decide)
 unfold kK;by_cases h0:bp p [a,b]=0
 ·obtain ⟨v1,v2,v3⟩:=oO h0;have v4:vd a=true∧vd b=true:=by grind
  obtain ⟨va,vb⟩:=v4;obtain ⟨a1,a2,a3,a4⟩:=ey va oa.lb;obtain ⟨b1,b2,b3,b4⟩:=ey vb ob.lb;rw [if_pos h0];rw [h0] at hf;by_cases b0:b.m.length=0
  ·have e1:((b.m.length:Int)=0)=True:=tt (by omega);rw [if_pos b0];simp only [oH,qk,rV,ag,am,aP,go_sem,am4,am3,am5,am6,hf,e1]
  have e1:((b.m.length:Int)=0)=False:=ff (by omega);rw [if_neg b0];by_cases a0:a.m.length=0
  ·have e2:((a.m.length:Int)=0)=True:=tt (by omega);rw [if_pos a0];simp only [oH,qk,rV,ag,am,aP,go_sem,am4,am3,am5,am6,hf,e1,e2]
  have e2:((a.m.length:Int)=0)=False:=ff (by omega);rw [if_neg a0];have hA:=cP va a0;have hB:=cP vb b0;obtain ⟨n,rfl⟩:=Int.eq_ofNat_of_zero_le (show 0≤p by omega);have d1:=Np oa;have d2:=Np ob;rw [if_pos va] at d1;rw [if_pos vb] at d2;have hk:p7 a b (n:Nat)=((n:Int)+3+af (aa b.m) - af (aa a.m)).toNat:=rfl;generalize p7 a b (n:Nat)=k at *
  have hm2:=dH k hA;have hl2:(ao (aa a.m*2 ^ k)).length≤256:=aS (by omega);have hs:=tJ oa.lb a1 (k:=k) (by omega) hl2;have hge:aa b.m≤aa (ao (aa a.m*2 ^ k)):=by
   rw [aK];refine Nat.le_of_not_lt fun hc=>?_;have:=yr (Nat.le_of_lt hc) (Nat.le_refl _);omega
  have hd:=VG (aO (aa a.m*2 ^ k)) ob.lb hl2 b1 hB hge;rw [aK] at hd;have hqb:af (aa a.m*2 ^ k / aa b.m)≤8192:=yr (Nat.div_le_self _ _) (by omega);have hrb:af (aa a.m*2 ^ k % aa b.m)≤8192:=yr (Nat.mod_le _ _) (by omega);have hbt:=zX (aO (aa a.m*2 ^ k % aa b.m)) (Nat.le_trans (aS (k:=256) (by omega)) (by decide));rw [aK] at hbt;have hsg:=yv (M:=ao (aa a.m*2 ^ k / aa b.m)) (e:=a.e - k - b.e) (n:=n) (more:=decide (aa a.m*2 ^ k % aa b.m ≠ 0)) (up:=up) (neg:=a.neg != b.neg) (aO _) (aS (by omega)) ⟨by omega,by omega⟩ ⟨by omega,by omega⟩;rw [aK] at hsg;have hmr:decide (aa a.m*2 ^ k % aa b.m ≠ 0)=decide ((0:Int) < (af (aa a.m*2 ^ k % aa b.m):Nat)):=by
   grind [oM,decide_eq_true,abD]
  rw [hmr] at hsg ⊢;have w1:IntKind.i64.wrap ((n:Int)+3)=(n:Int)+3:=i64_in _ ⟨by omega,by omega⟩;have w2:IntKind.i64.wrap ((n:Int)+3+(af (aa b.m):Nat))=(n:Int)+3+(af (aa b.m):Nat):=i64_in _ ⟨by omega,by omega⟩;have w3:IntKind.i64.wrap ((n:Int)+3+(af (aa b.m):Nat) - (af (aa a.m):Nat))=(n:Int)+3+(af (aa b.m):Nat) - (af (aa a.m):Nat):=i64_in _ ⟨by omega,by omega⟩;have w4:IntKind.i64.wrap (a.e - (k:Int))=a.e - k:=i64_in _ ⟨by omega,by omega⟩;have w5:IntKind.i64.wrap (a.e - (k:Int) - b.e)=a.e - k - b.e:=i64_in _ ⟨by omega,by omega⟩;have em:(if (0:Int) < (n:Int)+3+(af (aa b.m):Nat) - (af (aa a.m):Nat) then (n:Int)+3+(af (aa b.m):Nat) - (af (aa a.m):Nat) else 0)=(k:Int):=by omega
  simp only [rV,ag,am,qn] at hsg d1 d2;simp only [oH,qk,rV,ag,am,go_sem,am4,am3,am5,am6,am7,hf,e1,e2,d1,d2,w1,w2,w3,w4,w5,em,hs,hd,hbt,sx,hsg]
 ·have e1:(bp p [a,b]=0)=False:=ff h0;rw [if_neg h0];simp only [oH,qk,rV,ag,am,aP,go_sem,am4,am3,am5,am6,hf,e1]
theorem XT {a b:Rd} (oa:Ok0 a) (ob:Ok0 b) {p:Int}:R F.round_DivUp [ag a,ag b,I p] []=some (rV (kK a b p true),[]):=by
 refine aE aeO rfl ?_;have hr:=Q1 oa ob (p:=p) (up:=true);simp only [rV,ag,am] at hr;simp only [zF,BB,rV,ag,am,go_sem,am4,am3,am5,hr]
theorem Ts {a b:Rd} (oa:Ok0 a) (ob:Ok0 b) {p:Int}:R F.round_DivDown [ag a,ag b,I p] []=some (rV (kK a b p false),[]):=by
 refine aE acl rfl ?_;have hr:=Q1 oa ob (p:=p) (up:=false);simp only [rV,ag,am] at hr;simp only [xe,yi,rV,ag,am,go_sem,am4,am3,am5,hr]
theorem DW {a b:Rd} {p:Int} {up:Bool}:vd (kK a b p up).1=true∧Ok0 (kK a b p up).1:=by
 unfold kK;split
 ·split
  ·exact bm
  ·split
   ·exact bm
   ·exact U1
 ·exact bm
def Ji (x y:Ri) (p:Int):Ri:=if (kI x && kI y && di p)=true then (if EZ y=0 then cQ else Ad (nT (fun a b=>kK a b p false) (fun a b=>kK a b p true) (ku x y))) else cQ
theorem Q2 {x y:Ri} (ox:OkI x) (oy:OkI y) {p:Int}:R F.interval_Div [ax x,ax y,I p] []=some (ax (Ji x y p),[]):=by
 refine aE anz rfl ?_;have hk:=yy ox oy;have hp:=sA (p:=p);have hw:=kH;have hs:=Nx oy;have hf:=QB ox oy (p:=p) (dn:=fun a b=>kK a b p false) (up:=fun a b=>kK a b p true) ⟨fun h1 h2=>Ts h1 h2,DW.2,acl.1.1,acl.1.2.1,acl.1.2.2.2,acl.1.2.2.1⟩ ⟨fun h1 h2=>XT h1 h2,DW.2,aeO.1.1,aeO.1.2.1,aeO.1.2.2.2,aeO.1.2.2.1⟩;unfold Ji;generalize Ad (nT (fun a b=>kK a b p false) (fun a b=>kK a b p true) (ku x y))=z at hf ⊢;generalize EZ y=sg at *
 simp only [ax,aA,cQ,aP] at hw hf hs;cases h1:(kI x && kI y) with
 | false =>
  rw [h1] at hk;rw [Bool.false_and,if_neg Bool.false_ne_true];simp only [kj,lA,ax,aA,cQ,aP,go_sem,am4,am3,am5,am6,hk,hw]
 | true =>
  rw [h1] at hk;have hs:=hs ((Bool.and_eq_true _ _).mp h1).2;cases h2:di p with
  | false =>
   rw [h2] at hp;rw [Bool.true_and,if_neg Bool.false_ne_true];simp only [kj,lA,ax,aA,cQ,aP,go_sem,am4,am3,am5,am6,hk,hp,hw]
  | true =>
   rw [h2] at hp;rw [Bool.true_and,if_pos rfl];by_cases h3:sg=0
   ·have e3:(sg=0)=True:=eq_true h3;rw [if_pos h3];simp only [kj,lA,ax,aA,cQ,aP,go_sem,am4,am3,am5,am6,hk,hp,hw,hs,e3]
   ·have e3:(sg=0)=False:=eq_false h3;rw [if_neg h3];simp only [kj,lA,ax,aA,cQ,aP,go_sem,am4,am3,am5,am6,hk,hp,hf,hs,e3]
def C0 (x:Ri):Ri:=if kI x=true then ⟨dw x.hi,dw x.lo,false⟩ else cQ
theorem Z0 {x:Ri} (ox:OkI x):OkI (C0 x):=by
 unfold C0;split
 ·exact ⟨ri ox.hi,ri ox.lo⟩
 ·exact ⟨bm.2,bm.2⟩
theorem Z3 {x:Ri} (ox:OkI x):R F.interval_Neg [ax x] []=some (ax (C0 x),[]):=by
 refine aE Iy rfl ?_;have hk:=rg ox;have hw:=kH;have h1:R F.dyadic_Neg [ag x.lo] []=some (ag (dw x.lo),[]):=CQ ox.lo;have h2:R F.dyadic_Neg [ag x.hi] []=some (ag (dw x.hi),[]):=CQ ox.hi;unfold C0;simp only [ax,aA,ag,am] at hw h1 h2;cases h0:kI x with
 | false =>
  rw [h0] at hk;simp only [nH,td,ax,aA,go_sem,am4,am3,am5,am6,hk,hw]
 | true =>
  rw [h0] at hk;simp only [nH,td,ax,aA,go_sem,am4,am3,am5,am6,am7,hk,h1,h2]
def Tt (x y:Ri) (p:Int):Ri:=oP x (C0 y) p
theorem Z4 {x y:Ri} (ox:OkI x) (oy:OkI y) {p:Int}:R F.interval_Sub [ax x,ax y,I p] []=some (ax (Tt x y p),[]):=by
 refine aE Is rfl ?_;have h1:=Z3 oy;have h2:=IZ ox (Z0 oy) (p:=p);unfold Tt;simp only [ax,aA] at h1 h2;simp only [rN,zz,ax,aA,go_sem,am4,am3,am5,am6,am7,h1,h2]
def Bc (x y:Ri):Ri:=if (kI x && kI y)=true then ⟨fM x.lo y.lo,fN x.hi y.hi,false⟩ else cQ
theorem XU {x y:Ri} (ox:OkI x) (oy:OkI y):R F.interval_Hull [ax x,ax y] []=some (ax (Bc x y),[]):=by
 refine aE GW rfl ?_;have hk:=yy ox oy;have hw:=kH;have h1:=I0 ox.lo oy.lo;have h2:=I1 ox.hi oy.hi;unfold Bc;simp only [ax,aA,ag,am] at hw h1 h2;cases h0:(kI x && kI y) with
 | false =>
  rw [h0] at hk;simp only [l6,rQ,ax,aA,go_sem,am4,am3,am5,am6,hk,hw]
 | true =>
  rw [h0] at hk;simp only [l6,rQ,ax,aA,go_sem,am4,am3,am5,am6,am7,hk,h1,h2]
def E3:Ri:=⟨aP,aP,false⟩
def nU (x y:Ri):Ri × Bool:=if (vi x && vi y)=true then (if x.all=true then (y,true) else if y.all=true then (x,true) else if ce (fN x.lo y.lo) (fM x.hi y.hi)≤0 then (⟨fN x.lo y.lo,fM x.hi y.hi,false⟩,true) else (E3,false)) else (E3,false)
theorem XV {x y:Ri} (ox:OkI x) (oy:OkI y):R F.interval_Meet [ax x,ax y] []=some (.tup [ax (nU x y).1,B (nU x y).2],[]):=by
 refine aE GV rfl ?_;have hx:=yx ox;have hy:=yx oy;have h1:=I1 ox.lo oy.lo;have h2:=I0 ox.hi oy.hi;have hc:=wv (NA ox.lo oy.lo) (Nz ox.hi oy.hi);rw [show (if vd (fN x.lo y.lo)=true∧vd (fM x.hi y.hi)=true then bI (zI (fN x.lo y.lo)) (zI (fM x.hi y.hi)) else 0)=ce (fN x.lo y.lo) (fM x.hi y.hi) from rfl] at hc;unfold nU;generalize ce (fN x.lo y.lo) (fM x.hi y.hi)=cc at hc ⊢;simp only [ax,aA,ag,am] at hx hy h1 h2 hc;cases v1:vi x with
 | false =>
  rw [v1] at hx;simp only [dY,fY,ax,aA,E3,aP,go_sem,am4,am3,am5,hx]
  try rfl
 | true =>
  rw [v1] at hx;cases v2:vi y with
  | false =>
   rw [v2] at hy;simp only [dY,fY,ax,aA,E3,aP,go_sem,am4,am3,am5,hx,hy]
   try rfl
  | true =>
   rw [v2] at hy;cases a1:x.all with
   | true =>
    rw [a1] at hx;simp only [dY,fY,ax,aA,go_sem,am4,am3,am5,hx,hy,a1]
   | false =>
    rw [a1] at hx;cases a2:y.all with
    | true =>
     rw [a2] at hy;simp only [dY,fY,ax,aA,go_sem,am4,am3,am5,hx,hy,a1,a2]
    | false =>
     rw [a2] at hy;by_cases h3:cc≤0
     ·have e1:(0 < cc)=False:=eq_false (by omega);rw [if_pos h3];simp only [dY,fY,ax,aA,go_sem,am4,am3,am5,am6,am7,hx,hy,a1,a2,h1,h2,hc,e1]
     ·have e1:(0 < cc)=True:=eq_true (by omega);rw [if_neg h3];simp only [dY,fY,ax,aA,E3,aP,go_sem,am4,am3,am5,am6,am7,hx,hy,a1,a2,h1,h2,hc,e1]
      try rfl
abbrev G:=Nat→Rat
def pl (x:Rat) (v:G):Nat→Nat→Rat
 | _,0=>0
 | i,c+1=>v i+x*pl x v (i+1) c
def nw (t:Rat) (v:G):Nat→Nat→Rat
 | 0,i=>v i
 | n+1,i=>nw t v n i+t*nw t v n (i+1)
def dc (t:Rat) (v:G):Nat→Nat→Rat
 | 0,i=>v i
 | n+1,i=>(1 - t)*dc t v n i+t*dc t v n (i+1)
def gs (g:G) (a:Nat) (x:Rat):G:=fun i=>if i=a then x else g i
def E4 (lo:Rat) (ad:Nat→Nat) (i:Nat):Nat→G→G
 | 0,g=>g
 | k+1,g=>E4 lo ad i k (gs g (ad (i+k)) (g (ad (i+k))+lo*g (ad (i+k+1))))
def E5 (lo:Rat) (ad:Nat→Nat):Nat→Nat→G→G
 | 0,_,g=>g
 | k+1,i,g=>E5 lo ad k (i+1) (E4 lo ad i (k+1) g)
def Ky (w:Rat) (ad:Nat→Nat):Nat→Nat→Rat→G→G
 | 0,_,_,g=>g
 | k+1,j,b,g=>Ky w ad k (j+1) (b*w) (gs g (ad j) (g (ad j)*(b*w)))
def E6 (n:Nat) (ad:Nat→Nat):Nat→Nat→Rat→G→G
 | 0,_,_,g=>g
 | k+1,j,b,g=>E6 n ad k (j+1) (b*((n:Rat) - j+1) / j) (gs g (ad j) (g (ad j) / (b*((n:Rat) - j+1) / j)))
def Hd (ad:Nat→Nat) (j:Nat):Nat→G→G
 | 0,g=>g
 | k+1,g=>Hd ad j k (gs g (ad (j+k+1)) (g (ad (j+k+1))+g (ad (j+k))))
def He (ad:Nat→Nat):Nat→Nat→G→G
 | 0,_,g=>g
 | k+1,j,g=>He ad k (j+1) (Hd ad j (k+1) g)
def eE:Nat→Nat→Nat
 | _,0=>1
 | 0,_+1=>0
 | n+1,k+1=>eE n k+eE n (k+1)
theorem abH {lo:Rat} {ad:Nat→Nat} (hi:∀ a b,ad a=ad b↔a=b) {i:Nat}:∀ (k:Nat) (g:G),(∀ a,(∀ m,i≤m→m < i+k→a ≠ ad m)→E4 lo ad i k g a=g a)∧(∀ m,i≤m→m < i+k→E4 lo ad i k g (ad m)=g (ad m)+lo*E4 lo ad i k g (ad (m+1))):=by
 intro k;induction k with
 | zero=>exact fun g=>⟨fun _ _=>rfl,fun m h1 h2=>by omega⟩
 | succ k ih =>
  intro g;have e:E4 lo ad i (k+1) g=E4 lo ad i k (gs g (ad (i+k)) (g (ad (i+k))+lo*g (ad (i+k+1)))):=rfl;rw [e];obtain ⟨h1,h2⟩:=ih (gs g (ad (i+k)) (g (ad (i+k))+lo*g (ad (i+k+1))));constructor
  ·intro a ha;rw [h1 a fun m hm hk=>ha m hm (by omega),gs,if_neg (ha _ (by omega) (by omega))]
  ·intro m hm hk;by_cases hq:m=i+k
   ·grind [gs]
   ·rw [h2 m hm (by omega),gs,if_neg (by grind)]
theorem abI {x u lo:Rat} (hx:x=lo+u) {v w:G}:∀ (k i:Nat),(∀ m,i≤m→m < i+k→w m=v m+lo*w (m+1))→w (i+k)=v (i+k)→pl x v i (k+1)=w i+u*pl x w (i+1) k:=by
 intro k;induction k with
 | zero=>grind [pl]
 | succ k ih =>
  intro i h1 h2;have h3:=ih (i+1) (fun m a b=>h1 m (by omega) (by omega)) (by grind);grind [pl]
theorem abJ {x u lo:Rat} (hx:x=lo+u) {ad:Nat→Nat} (hi:∀ a b,ad a=ad b↔a=b):∀ (k i:Nat) (g:G),(∀ a,(∀ m,i≤m→m < i+k→a ≠ ad m)→E5 lo ad k i g a=g a)∧pl x (fun m=>g (ad m)) i (k+1)=pl u (fun m=>E5 lo ad k i g (ad m)) i (k+1):=by
 intro k;induction k with
 | zero=>simp_all [pl,E5]
 | succ k ih =>
  intro i g;obtain ⟨h1,h2⟩:=abH (lo:=lo) hi (i:=i) (k+1) g;have e:E5 lo ad (k+1) i g=E5 lo ad k (i+1) (E4 lo ad i (k+1) g):=rfl;rw [e];generalize E4 lo ad i (k+1) g=g1 at *
  obtain ⟨h3,h4⟩:=ih (i+1) g1;constructor
  ·grind
  ·rw [abI hx (v:=fun m=>g (ad m)) (w:=fun m=>g1 (ad m)) (k+1) i h2 (h1 _ fun m _ hk=>by grind),h4];show _=E5 lo ad k (i+1) g1 (ad i)+u*_;grind
theorem abK {w:Rat} {ad:Nat→Nat} (hi:∀ a b,ad a=ad b↔a=b):∀ (k j:Nat) (b:Rat) (g:G),(∀ a,(∀ m,j≤m→m < j+k→a ≠ ad m)→Ky w ad k j b g a=g a)∧(∀ m,m < k→Ky w ad k j b g (ad (j+m))=g (ad (j+m))*(b*w ^ (m+1))):=by
 intro k;induction k with
 | zero=>exact fun j b g=>⟨fun _ _=>rfl,fun m h=>by omega⟩
 | succ k ih =>
  intro j b g;have e:Ky w ad (k+1) j b g=Ky w ad k (j+1) (b*w) (gs g (ad j) (g (ad j)*(b*w))):=rfl;rw [e];obtain ⟨h1,h2⟩:=ih (j+1) (b*w) (gs g (ad j) (g (ad j)*(b*w)));constructor
  ·intro a ha;rw [h1 a fun m hm hk=>ha m (by omega) (by omega),gs,if_neg (ha _ (by omega) (by omega))]
  ·intro m hm;cases m with
   | zero =>
    rw [h1 _ fun m hm hk=>by grind];simp [gs]
   | succ m =>
    have:=h2 m (by omega);rw [show j+1+m=j+(m+1) by omega] at this;rw [this,gs,if_neg (by grind),Rat.pow_succ w (m+1),Rat.pow_succ w m];grind
theorem abL {w t:Rat} {v z:G}:∀ (c i:Nat),(∀ m,i≤m→m < i+c→z m=v m*w ^ m)→pl t z i c=w ^ i*pl (w*t) v i c:=by
 intro c;induction c with
 | zero=>grind [pl]
 | succ c ih =>
  grind [pl,Rat.pow_succ]
theorem tN (n:Nat):eE n 0=1:=by cases n <;> rfl
theorem Ae:∀ (n k:Nat),n < k→eE n k=0
 | _,0,h=>by omega
 | 0,_+1,_=>rfl
 | n+1,k+1,h=>by
  show eE n k+eE n (k+1)=0;rw [Ae n k (by omega),Ae n (k+1) (by omega)]
theorem DX:∀ n k:Nat,k≤n→(eE n (k+1):Int)*(k+1)=eE n k*((n:Int) - k)
 | 0,k,h=>by
  have:k=0:=by omega
  subst this; rfl
 | n+1,0,_=>by
  have:=DX n 0 (by omega);show ((eE n 0+eE n 1:Nat):Int)*_=(eE (n+1) 0:Int)*_;simp only [tN] at this ⊢;simp at this ⊢;omega
 | n+1,k+1,h=>by
  have h1:=DX n k (by omega);show ((eE n (k+1)+eE n (k+1+1):Nat):Int)*_=((eE n k+eE n (k+1):Nat):Int)*_;by_cases hk:k+1≤n
  ·have h2:=DX n (k+1) hk;grind
  ·have:n=k:=by omega
   subst this;rw [Ae n (n+1) (by omega),Ae n (n+1+1) (by omega)];simp
theorem Q3:∀ n k:Nat,k≤n→0 < eE n k
 | n,0,_=>by grind [tN]
 | n+1,k+1,h=>Nat.add_pos_left (Q3 n k (by omega)) _
theorem abM {n:Nat} {ad:Nat→Nat} (hi:∀ a b,ad a=ad b↔a=b):∀ (k j:Nat) (b:Rat) (g:G),j+1+k=n+1→b=eE n j→(∀ a,(∀ m,j+1≤m→m < j+1+k→a ≠ ad m)→E6 n ad k (j+1) b g a=g a)∧(∀ m,m < k→E6 n ad k (j+1) b g (ad (j+1+m))*eE n (j+1+m)=g (ad (j+1+m))):=by
 intro k;induction k with
 | zero=>exact fun j b g _ _=>⟨fun _ _=>rfl,fun m h=>by omega⟩
 | succ k ih =>
  intro j b g hk hb;have e:E6 n ad (k+1) (j+1) b g=E6 n ad k (j+1+1) (b*((n:Rat) - (j+1:Nat)+1) / (j+1:Nat)) (gs g (ad (j+1)) (g (ad (j+1)) / (b*((n:Rat) - (j+1:Nat)+1) / (j+1:Nat)))):=rfl;have hb2:b*((n:Rat) - (j+1:Nat)+1) / (j+1:Nat)=eE n (j+1):=by
   have h1:=DX n j (by omega);have h2:((eE n (j+1):Rat))*(j+1)=eE n j*((n:Rat) - j):=by
    have:=congrArg (fun z:Int=>(z:Rat)) h1;simp only [Rat.intCast_mul,Rat.intCast_sub,Rat.intCast_add,Rat.intCast_natCast] at this;omega
   grind
  rw [e,hb2];have hp:(eE n (j+1):Rat) ≠ 0:=by
   have:=Q3 n (j+1) (by omega);intro h0
   simp_all
  obtain ⟨h1,h2⟩:=ih (j+1) (eE n (j+1)) (gs g (ad (j+1)) (g (ad (j+1)) / eE n (j+1))) (by omega) rfl;constructor
  ·intro a ha;rw [h1 a fun m hm hk=>ha m (by omega) (by omega),gs,if_neg (ha _ (by omega) (by omega))]
  ·intro m hm;cases m with
   | zero =>
    rw [h1 _ fun m hm hk=>by grind];simp only [gs,Nat.add_zero,if_true];grind
   | succ m =>
    have:=h2 m (by omega);rw [show j+1+1+m=j+1+(m+1) by omega] at this
    simp_all [gs,if_neg]
theorem abN {t:Rat} {u v w:G}:∀ (c i:Nat),(∀ m,i≤m→m < i+c→w m=u m+v m)→pl t w i c=pl t u i c+pl t v i c:=by
 intro c;induction c with
 | zero=>grind [pl]
 | succ c ih =>
  grind [pl]
theorem FW {t:Rat} {v w:G} {d:Nat}:∀ (c i:Nat),(∀ m,i≤m→m < i+c→w m=v (m+d))→pl t w i c=pl t v (i+d) c:=by
 intro c;induction c with
 | zero=>intro i _; rfl
 | succ c ih =>
  grind [pl]
theorem Z5 {t:Rat} {v:G}:∀ (c i:Nat),v (i+c)=0→pl t v i (c+1)=pl t v i c:=by
 intro c;induction c with
 | zero=>grind [pl]
 | succ c ih =>
  grind [pl]
theorem aec {t:Rat} {v:G}:∀ (n i:Nat),nw t v n i=pl t (fun m=>eE n m*v (i+m)) 0 (n+1):=by
 intro n;induction n with
 | zero=>simp only [nw,pl,eE,Nat.add_zero]; grind
 | succ n ih =>
  intro i;have e1:=Z5 (t:=t) (v:=fun m=>(eE n m:Rat)*v (i+m)) (n+1) 0 (by simp_all [Ae]);have e2:pl t (fun m=>(eE n m:Rat)*v (i+m)) 0 (n+1+1)=(eE n 0:Rat)*v (i+0)+t*pl t (fun m=>(eE n m:Rat)*v (i+m)) (0+1) (n+1):=rfl;have e3:pl t (fun m=>(eE (n+1) m:Rat)*v (i+m)) 0 (n+1+1)=(eE (n+1) 0:Rat)*v (i+0)+t*pl t (fun m=>(eE (n+1) m:Rat)*v (i+m)) (0+1) (n+1):=rfl;have e4:=FW (t:=t) (d:=1) (w:=fun m=>(eE n (m+1):Rat)*v (i+(m+1))) (v:=fun m=>(eE n m:Rat)*v (i+m)) (n+1) 0 (fun m _ _=>rfl);have e5:=FW (t:=t) (d:=1) (w:=fun m=>(eE (n+1) (m+1):Rat)*v (i+(m+1))) (v:=fun m=>(eE (n+1) m:Rat)*v (i+m)) (n+1) 0 (fun m _ _=>rfl);have e6:=abN (t:=t) (w:=fun m=>(eE (n+1) (m+1):Rat)*v (i+(m+1))) (u:=fun m=>(eE n m:Rat)*v (i+1+m)) (v:=fun m=>(eE n (m+1):Rat)*v (i+(m+1))) (n+1) 0 (fun m _ _=>by
   have:eE (n+1) (m+1)=eE n m+eE n (m+1):=rfl;simp only [this,show i+1+m=i+(m+1) by omega,Rat.natCast_add];grind)
  grind [nw,tN]
theorem abO {ad:Nat→Nat} (hi:∀ a b,ad a=ad b↔a=b) {j:Nat}:∀ (k:Nat) (g:G),(∀ a,(∀ m,j≤m→m < j+k→a ≠ ad (m+1))→Hd ad j k g a=g a)∧(∀ m,j≤m→m < j+k→Hd ad j k g (ad (m+1))=g (ad (m+1))+g (ad m)):=by
 intro k;induction k with
 | zero=>exact fun g=>⟨fun _ _=>rfl,fun m h1 h2=>by omega⟩
 | succ k ih =>
  intro g;have e:Hd ad j (k+1) g=Hd ad j k (gs g (ad (j+k+1)) (g (ad (j+k+1))+g (ad (j+k)))):=rfl;rw [e];obtain ⟨h1,h2⟩:=ih (gs g (ad (j+k+1)) (g (ad (j+k+1))+g (ad (j+k))));constructor
  ·intro a ha;rw [h1 a fun m hm hk=>ha m hm (by omega),gs,if_neg (ha _ (by omega) (by omega))]
  ·intro m hm hk;by_cases hq:m=j+k
   ·subst hq;rw [h1 _ fun m hm hk=>by grind];simp [gs]
   ·rw [h2 m hm (by omega),gs,gs,if_neg (by grind),if_neg (by grind)]
theorem abP {t:Rat} {v w:G} {j k:Nat} (h:∀ m,j≤m→m≤j+k→w (m+1)=v (m+1)+v m):∀ (d m:Nat),j≤m→m+d≤j+k→nw t w d (m+1)=nw t v d (m+1)+nw t v d m:=by
 intro d;induction d with
 | zero=>exact fun m h1 h2=>h m h1 h2
 | succ d ih =>
  grind [nw]
theorem abQ {t:Rat} {ad:Nat→Nat} (hi:∀ a b,ad a=ad b↔a=b):∀ (k j:Nat) (g:G),(∀ a,(∀ m,j≤m→m < j+k→a ≠ ad (m+1))→He ad k j g a=g a)∧∀ d,d≤k→dc t (fun m=>He ad k j g (ad m)) d j=nw t (fun m=>g (ad m)) d j:=by
 intro k;induction k with
 | zero =>
  intro j g;refine ⟨fun _ _=>rfl,fun d hd=>?_⟩;have:d=0:=by omega
  subst this;rfl
 | succ k ih =>
  intro j g;obtain ⟨h1,h2⟩:=abO hi (j:=j) (k+1) g;have e:He ad (k+1) j g=He ad k (j+1) (Hd ad j (k+1) g):=rfl;rw [e];generalize Hd ad j (k+1) g=g1 at *
  obtain ⟨h3,h4⟩:=ih (j+1) g1;refine ⟨fun a ha=>by rw [h3 a fun m hm hk=>ha m (by omega) (by omega),h1 a fun m hm hk=>ha m hm hk],fun d=>?_⟩;induction d with
  | zero =>
   intro _;show He ad k (j+1) g1 (ad j)=g (ad j);grind
  | succ d ihd =>
   intro hd;have q3:=abP (t:=t) (v:=fun m=>g (ad m)) (w:=fun m=>g1 (ad m)) (j:=j) (k:=k) (fun m a b=>h2 m a (by omega)) d j (Nat.le_refl _) (by omega);grind [dc,nw]
def Hf (lo w:Rat) (n:Nat) (ad:Nat→Nat) (g:G):G:=Ky w ad n 1 1 (E5 lo ad n 0 g)
def Hg (n:Nat) (ad:Nat→Nat) (g:G):G:=He ad n 0 (E6 n ad n 1 1 g)
theorem abR {x t lo w:Rat} (hx:x=lo+w*t) {ad:Nat→Nat} (hi:∀ a b,ad a=ad b↔a=b) (n:Nat) (g:G):(∀ a,(∀ m,m≤n→a ≠ ad m)→Hf lo w n ad g a=g a)∧pl x (fun m=>g (ad m)) 0 (n+1)=pl t (fun m=>Hf lo w n ad g (ad m)) 0 (n+1):=by
 obtain ⟨a1,a2⟩:=abJ hx hi n 0 g;unfold Hf;generalize E5 lo ad n 0 g=g1 at *
 obtain ⟨b1,b2⟩:=abK (w:=w) hi n 1 1 g1;generalize Ky w ad n 1 1 g1=g2 at *
 rw [a2,abL (w:=w) (t:=t) (v:=fun m=>g1 (ad m)) (z:=fun m=>g2 (ad m)) (n+1) 0 (fun m _ hm=>by
  cases m with
  | zero =>
   grind
  | succ m =>
   grind),Rat.pow_zero]
 grind
theorem abS {t:Rat} {ad:Nat→Nat} (hi:∀ a b,ad a=ad b↔a=b) (n:Nat) (g:G):(∀ a,(∀ m,m≤n→a ≠ ad m)→Hg n ad g a=g a)∧pl t (fun m=>g (ad m)) 0 (n+1)=dc t (fun m=>Hg n ad g (ad m)) n 0:=by
 obtain ⟨c1,c2⟩:=abM (n:=n) hi n 0 1 g (by omega) (by rw [tN]; rfl);unfold Hg;generalize E6 n ad n 1 1 g=g3 at *
 obtain ⟨d1,d2⟩:=abQ (t:=t) hi n 0 g3;rw [d2 n (Nat.le_refl _),aec];have e:=FW (t:=t) (d:=0) (v:=fun m=>g (ad m)) (w:=fun m=>(eE n m:Rat)*g3 (ad (0+m))) (n+1) 0 (fun m _ hm=>by
  cases m with
  | zero =>
   have q1:=c1 (ad 0) fun m h _=>by grind
   simp_all [Nat.add_zero,tN]
  | succ m =>
   grind)
 grind
def pQ (n:Nat):Rat:=((2 ^ n:Int):Rat)
def eQ (n:Nat):Rat:=1 / pQ n
theorem VH (n:Nat):0 < pQ n:=by
 have:(0:Int) < 2 ^ n:=Int.pow_pos (by decide);unfold pQ;exact_mod_cast this
theorem C1 (n:Nat):eQ n*pQ n=1:=by
 grind [VH,eQ]
theorem N2 (n:Nat):0 < eQ n:=by
 have h:=C1 n;refine Rat.not_le.1 fun hn=>?_;have:=Rat.mul_le_mul_of_nonneg_right hn (Rat.le_of_lt (VH n));grind
def EQ:Rat:=eQ 16384
theorem Af:0 < EQ:=N2 _
def qv (d:Rd):Rat:=(zI d:Rat)*EQ
theorem Ag {a b:Int} (h:a≤b):(a:Rat)≤b:=by exact_mod_cast h
theorem DY {a b:Rd}:qv a≤qv b↔zI a≤zI b:=by
 unfold qv;constructor
 ·intro h;refine Int.not_lt.1 fun hc=>?_;have h1:(zI b:Rat) < zI a:=by exact_mod_cast hc
  have:=Rat.mul_lt_mul_of_pos_right h1 Af;grind
 grind [Rat.mul_le_mul_of_nonneg_right,Ag,Rat.le_of_lt,Af]
theorem C2:qv aP=0:=by
 unfold qv;rw [ez rfl];grind
theorem Ah {d:Rd} (h:vd d=true):qv (dw d)=-qv d∧vd (dw d)=true:=by
 obtain ⟨a,b⟩:=Ja h;unfold qv;rw [a,Rat.intCast_neg];grind
def In (q:Rat) (x:Ri):Prop:=x=cQ∨x.all=false∧VI x∧qv x.lo≤q∧q≤qv x.hi
theorem In.vi {q:Rat} {x:Ri} (h:In q x):VI x:=by
 rcases h with rfl | h
 ·exact NP
 grind
theorem In.ok {q:Rat} {x:Ri} (h:In q x):OkI x:=⟨h.vi.1.2,h.vi.2.2⟩
theorem In.k {q:Rat} {x:Ri} (h:In q x):x=cQ∧kI x=false∨kI x=true∧qv x.lo≤q∧q≤qv x.hi:=by
 rcases h with rfl | ⟨h1,h2,h3,h4⟩
 ·exact Or.inl ⟨rfl,rfl⟩
 ·exact Or.inr ⟨ad5 h2.1.1 h2.2.1 (DY.1 (Rat.le_trans h3 h4)) h1,h3,h4⟩
theorem In.v {q:Rat} {x:Ri} (h:In q x):Ab.vi x=true:=by
 rcases h.k with ⟨rfl,_⟩ | ⟨h,_⟩
 ·rfl
 ·unfold kI at h;grind
theorem LH {q:Rat} {r s:Rd × Int} (vr:vd r.1=true∧Ok0 r.1) (vs:vd s.1=true∧Ok0 s.1) (h1:r.2=0→qv r.1≤q) (h2:s.2=0→q≤qv s.1):In q (nS r s):=by
 unfold nS;split
 ·next h=>exact Or.inr ⟨rfl,⟨vr,vs⟩,h1 h.1,h2 h.2⟩
 ·exact Or.inl rfl
theorem sE {d:Rd} (h:vd d=true) (ok:Ok0 d):In (qv d) ⟨d,d,false⟩:=Or.inr ⟨rfl,⟨⟨h,ok⟩,⟨h,ok⟩⟩,Rat.le_refl,Rat.le_refl⟩
theorem Ai {p:Int} (hp:di p=true):8≤p∧p≤512:=by
 simp_all [di,Bool.and_eq_true,decide_eq_true_eq]
theorem Hh {a b:Rd} {p:Int} (ha:vd a=true) (hb:vd b=true) (hp:di p=true):bp p [a,b]=0:=by
 grind [Ai,bp]
theorem Hi {a b:Rd} {p:Int} {up:Bool} (ha:vd a=true) (hb:vd b=true) (hp:di p=true) (h:(eM a b p up).2=0):(up=true→qv a+qv b≤qv (eM a b p up).1)∧(up=false→qv (eM a b p up).1≤qv a+qv b):=by
 unfold eM at h ⊢;rw [if_pos (Hh ha hb hp)] at h ⊢;have hh:(up=true→zI a+zI b≤zI (kN (zI a+zI b) (-16384) p up).1*2 ^ 0)∧(up=false→zI (kN (zI a+zI b) (-16384) p up).1*2 ^ 0≤zI a+zI b):=DV (j:=0) (Ai hp) h;obtain ⟨h1,h2⟩:=hh;simp only [Int.pow_zero,Int.mul_one] at h1 h2;have e:qv a+qv b=((zI a+zI b:Int):Rat)*EQ:=by unfold qv; grind
 rw [e];exact ⟨fun hu=>Rat.mul_le_mul_of_nonneg_right (Ag (h1 hu)) (Rat.le_of_lt Af),fun hu=>Rat.mul_le_mul_of_nonneg_right (Ag (h2 hu)) (Rat.le_of_lt Af)⟩
theorem Hj {z r:Int} (n:Nat):(z≤r*2 ^ n→(z:Rat)*eQ n*eQ n≤r*eQ n)∧(r*2 ^ n≤z→(r:Rat)*eQ n≤z*eQ n*eQ n):=by
 have e:(r:Rat)*eQ n=((r*2 ^ n:Int):Rat)*eQ n*eQ n:=by
  rw [Rat.intCast_mul,show (((2:Int) ^ n:Int):Rat)=pQ n from rfl];grind [C1]
 rw [e];have h0:=Rat.le_of_lt (N2 n);exact ⟨fun h=>Rat.mul_le_mul_of_nonneg_right (Rat.mul_le_mul_of_nonneg_right (Ag h) h0) h0,fun h=>Rat.mul_le_mul_of_nonneg_right (Rat.mul_le_mul_of_nonneg_right (Ag h) h0) h0⟩
theorem Hk {a b:Rd} {p:Int} {up:Bool} (ha:vd a=true) (hb:vd b=true) (hp:di p=true) (h:(fl a b p up).2=0):(up=true→qv a*qv b≤qv (fl a b p up).1)∧(up=false→qv (fl a b p up).1≤qv a*qv b):=by
 unfold fl at h ⊢;rw [if_pos (Hh ha hb hp)] at h ⊢;obtain ⟨h1,h2⟩:=DV (j:=16384) (Ai hp) h;have e:qv a*qv b=((zI a*zI b:Int):Rat)*EQ*EQ:=by unfold qv; grind
 rw [e];exact ⟨fun hu=>(Hj _).1 (h1 hu),fun hu=>(Hj _).2 (h2 hu)⟩
theorem DZ {x y:Ri} {a b:Rat} {p:Int} (hx:In a x) (hy:In b y):In (a+b) (oP x y p):=by
 unfold oP;split
 ·next h =>
  simp only [Bool.and_eq_true] at h;obtain ⟨⟨kx,ky⟩,hp⟩:=h;rcases hx.k with ⟨rfl,h⟩ | ⟨_,x1,x2⟩
  ·grind
  rcases hy.k with ⟨rfl,h⟩ | ⟨_,y1,y2⟩
  ·grind
  have ok:∀ {a b:Rd} {up:Bool},vd (eM a b p up).1=true∧Ok0 (eM a b p up).1:=fun {a b up}=>by
   grind [eM,sz,bm]
  refine LH ok ok (fun h=>?_) (fun h=>?_)
  ·have:=(Hi hx.vi.1.1 hy.vi.1.1 hp h).2 rfl;grind
  ·have:=(Hi hx.vi.2.1 hy.vi.2.1 hp h).1 rfl;grind
 ·exact Or.inl rfl
theorem Z6 {x:Ri} {a:Rat} (hx:In a x):In (-a) (C0 x):=by
 unfold C0;split
 ·next h =>
  rcases hx.k with ⟨rfl,h1⟩ | ⟨_,x1,x2⟩
  ·grind
  have n1:=Ah hx.vi.1.1;have n2:=Ah hx.vi.2.1;exact Or.inr ⟨rfl,⟨⟨n2.2,ri hx.ok.hi⟩,⟨n1.2,ri hx.ok.lo⟩⟩,by grind,by grind⟩
 ·exact Or.inl rfl
theorem Z7 {x y:Ri} {a b:Rat} {p:Int} (hx:In a x) (hy:In b y):In (a - b) (Tt x y p):=by
 have:=DZ (p:=p) hx (Z6 hy);rw [show a+-b=a - b by grind] at this;exact this
theorem C3 {a b:Rd} (ha:vd a=true) (hb:vd b=true):(ce a b < 0→qv a≤qv b)∧(¬ce a b < 0→qv b≤qv a)∧(0 < ce a b→qv b≤qv a)∧(¬0 < ce a b→qv a≤qv b)∧(ce a b≤0↔qv a≤qv b)∧(0≤ce a b↔qv b≤qv a):=by
 unfold ce;grind [DY,bI]
theorem D0 {a b:Rd} (ha:vd a=true∧Ok0 a) (hb:vd b=true∧Ok0 b):qv (fM a b)≤qv a∧qv (fM a b)≤qv b∧vd (fM a b)=true∧Ok0 (fM a b)∧(∀ q,q≤qv a→q≤qv b→q≤qv (fM a b)):=by
 obtain ⟨c1,c2,c3,c4,c5,c6⟩:=C3 ha.1 hb.1;grind [fM,Rat.le_refl]
theorem D3 {a b:Rd} (ha:vd a=true∧Ok0 a) (hb:vd b=true∧Ok0 b):qv a≤qv (fN a b)∧qv b≤qv (fN a b)∧vd (fN a b)=true∧Ok0 (fN a b)∧(∀ q,qv a≤q→qv b≤q→qv (fN a b)≤q):=by
 obtain ⟨c1,c2,c3,c4,c5,c6⟩:=C3 ha.1 hb.1;grind [fN,Rat.le_refl]
theorem Bd {x y:Ri} {a b:Rat} (hx:In a x) (hy:In b y):(In a (Bc x y)∧In b (Bc x y)):=by
 unfold Bc;split
 ·next h =>
  rcases hx.k with ⟨rfl,h1⟩ | ⟨_,x1,x2⟩
  ·grind
  rcases hy.k with ⟨rfl,h1⟩ | ⟨_,y1,y2⟩
  ·grind
  obtain ⟨l1,l2,l3,l4,l5⟩:=D0 hx.vi.1 hy.vi.1;obtain ⟨m1,m2,m3,m4,m5⟩:=D3 hx.vi.2 hy.vi.2;exact ⟨Or.inr ⟨rfl,⟨⟨l3,l4⟩,⟨m3,m4⟩⟩,by grind,by grind⟩,Or.inr ⟨rfl,⟨⟨l3,l4⟩,⟨m3,m4⟩⟩,by grind,by grind⟩⟩
 ·exact ⟨Or.inl rfl,Or.inl rfl⟩
theorem XW {x y:Ri} {q:Rat} (hx:In q x) (hy:In q y):(nU x y).2=true∧In q (nU x y).1:=by
 unfold nU;rw [if_pos (by rw [hx.v,hy.v]; rfl)];rcases hx with rfl | ⟨ha,hv,h1,h2⟩
 ·rw [if_pos (show cQ.all=true from rfl)];grind
 ·rw [if_neg (by grind)];rcases hy with rfl | ⟨hb,hw,h3,h4⟩
  ·exact ⟨rfl,Or.inr ⟨ha,hv,h1,h2⟩⟩
  ·rw [if_neg (by grind)];obtain ⟨l1,l2,l3,l4,l5⟩:=D0 hv.2 hw.2;obtain ⟨m1,m2,m3,m4,m5⟩:=D3 hv.1 hw.1;have a:=l5 q h2 h4;have b:=m5 q h1 h3;rw [if_pos ((C3 m3 l3).2.2.2.2.1.2 (Rat.le_trans b a))];exact ⟨rfl,Or.inr ⟨rfl,⟨⟨m3,m4⟩,⟨l3,l4⟩⟩,b,a⟩⟩
theorem Q4 {dn up:Rd→Rd→Rd × Int} {pr:Nat→Rd × Rd} (okd:∀ a b,vd (dn a b).1=true∧Ok0 (dn a b).1) (oku:∀ a b,vd (up a b).1=true∧Ok0 (up a b).1) {v:Nat→Rat}
  (hd:∀ i,i < 4→(dn (pr i).1 (pr i).2).2=0→qv (dn (pr i).1 (pr i).2).1≤v i) (hu:∀ i,i < 4→(up (pr i).1 (pr i).2).2=0→v i≤qv (up (pr i).1 (pr i).2).1) {q:Rat} (hq:∀ lo hi:Rat,(∀ i,i < 4→lo≤v i∧v i≤hi)→lo≤q∧q≤hi):In q (Ad (nT dn up pr)):=by
 have key:∀ (k i:Nat) (o:Rd × Rd),i+k=4→(vd o.1=true∧Ok0 o.1)→(vd o.2=true∧Ok0 o.2)→(∀ j,j < i→qv o.1≤v j∧v j≤qv o.2)→In q (Ad (sB dn up pr k i o)):=by
  intro k;induction k with
  | zero =>
   intro i o hi v1 v2 h;have:=hq _ _ fun j hj=>h j (by omega);exact Or.inr ⟨rfl,⟨v1,v2⟩,this.1,this.2⟩
  | succ k ih =>
   intro i o hi v1 v2 h;unfold sB;split
   ·next he =>
    have od:=okd (pr i).1 (pr i).2;have ou:=oku (pr i).1 (pr i).2;obtain ⟨c1,c2,_,_⟩:=C3 od.1 v1.1;obtain ⟨_,_,c3,c4,_⟩:=C3 ou.1 v2.1;grind
   ·exact Or.inl rfl
 unfold nT;split
 ·grind
 ·exact Or.inl rfl
theorem Jj {xl xh x y lo hi:Rat} (h1:xl≤x) (h2:x≤xh) (a:lo≤xl*y∧xl*y≤hi) (b:lo≤xh*y∧xh*y≤hi):lo≤x*y∧x*y≤hi:=by
 by_cases h:0≤y
 ·have:=Rat.mul_le_mul_of_nonneg_right h1 h;have:=Rat.mul_le_mul_of_nonneg_right h2 h;grind
 ·have h:0≤-y:=by grind
  have:=Rat.mul_le_mul_of_nonneg_right h1 h;have:=Rat.mul_le_mul_of_nonneg_right h2 h;grind
theorem Q5 {xl xh x yl yh y lo hi:Rat} (h1:xl≤x) (h2:x≤xh) (h3:yl≤y) (h4:y≤yh) (a:lo≤xl*yl∧xl*yl≤hi) (b:lo≤xl*yh∧xl*yh≤hi) (c:lo≤xh*yl∧xh*yl≤hi) (d:lo≤xh*yh∧xh*yh≤hi):lo≤x*y∧x*y≤hi:=by
 grind [Rat.mul_comm,Jj]
theorem wz {x y:Ri} {a b:Rat} {p:Int} (hx:In a x) (hy:In b y):In (a*b) (nv x y p):=by
 unfold nv;split
 ·next h =>
  simp only [Bool.and_eq_true] at h;obtain ⟨⟨kx,ky⟩,hp⟩:=h;rcases hx.k with ⟨rfl,h⟩ | ⟨_,x1,x2⟩
  ·grind
  rcases hy.k with ⟨rfl,h⟩ | ⟨_,y1,y2⟩
  ·grind
  have ok:∀ (up:Bool) (a b:Rd),vd (fl a b p up).1=true∧Ok0 (fl a b p up).1:=fun up a b=>by
   grind [fl,sz,bm]
  have hv:∀ i,vd (ku x y i).1=true∧vd (ku x y i).2=true:=fun i=>by
   unfold ku;split
   ·exact ⟨hx.vi.1.1,hy.vi.1.1⟩
   ·exact ⟨hx.vi.1.1,hy.vi.2.1⟩
   ·exact ⟨hx.vi.2.1,hy.vi.1.1⟩
   ·exact ⟨hx.vi.2.1,hy.vi.2.1⟩
  refine Q4 (v:=fun i=>qv (ku x y i).1*qv (ku x y i).2) (ok false) (ok true) (fun i _ h=>(Hk (hv i).1 (hv i).2 hp h).2 rfl) (fun i _ h=>(Hk (hv i).1 (hv i).2 hp h).1 rfl) fun lo hi h=>?_;exact Q5 x1 x2 y1 y2 (h 0 (by decide)) (h 1 (by decide)) (h 2 (by decide)) (h 3 (by decide))
 ·exact Or.inl rfl
abbrev LF:=G→Rat
def oS (W v:G):Nat→Rat
 | 0=>0
 | d+1=>oS W v d+W d*v d
def kO (d:Nat) (L:LF):Prop:=∃ W,∀ v,L v=oS W v d
theorem VJ {W v w:G}:∀ d:Nat,(∀ j,j < d→v j=w j)→oS W v d=oS W w d
 | 0,_=>rfl
 | d+1,h=>by simp only [oS]; rw [VJ d fun j hj=>h j (by omega),h d (by omega)]
theorem Q6 {W v w:G} {a b:Rat}:∀ d:Nat,oS W (fun j=>a*v j+b*w j) d=a*oS W v d+b*oS W w d
 | 0=>by grind [oS]
 | d+1=>by simp only [oS]; rw [Q6 d]; grind
theorem YL {U W v:G} {a b:Rat}:∀ d:Nat,oS (fun j=>a*U j+b*W j) v d=a*oS U v d+b*oS W v d
 | 0=>by grind [oS]
 | d+1=>by simp only [oS]; rw [YL d]; grind
theorem kO.cg {d:Nat} {L:LF} (h:kO d L) {v w:G} (e:∀ j,j < d→v j=w j):L v=L w:=by
 obtain ⟨W,h⟩:=h;rw [h,h,VJ d e]
theorem kO.lin {d:Nat} {L:LF} (h:kO d L) {v w:G} {a b:Rat}:L (fun j=>a*v j+b*w j)=a*L v+b*L w:=by
 obtain ⟨W,h⟩:=h;rw [h,h,h,Q6 d]
theorem kO.zero {d:Nat} {L:LF} (h:kO d L):L (fun _=>0)=0:=by
 have:=h.lin (v:=fun _=>0) (w:=fun _=>0) (a:=0) (b:=0);grind
theorem kO.swap {d c:Nat} {L P:LF} (h:kO d L) (hP:kO c P) (f:Nat→Nat→Rat):P (fun j=>L (fun r=>f r j))=L (fun r=>P (fun j=>f r j)):=by
 obtain ⟨W,hP⟩:=hP;simp only [hP];clear hP;induction c with
 | zero=>exact h.zero.symm
 | succ c ih =>
  simp only [oS];have:=h.lin (v:=fun r=>oS W (fun j=>f r j) c) (w:=fun r=>f r c) (a:=1) (b:=W c);grind
theorem VK {d i:Nat} (h:i < d):kO d fun v=>v i:=by
 refine ⟨fun j=>if j=i then 1 else 0,fun v=>?_⟩;have:∀ c,oS (fun j=>if j=i then 1 else 0) v c=if i < c then v i else 0:=by
  intro c;induction c with
  | zero=>rfl
  | succ c ih =>
   simp only [oS,ih];grind
 grind
theorem kO.comb {d:Nat} {L M:LF} (h:kO d L) (h':kO d M) (a b:Rat):kO d fun v=>a*L v+b*M v:=by
 obtain ⟨W,h⟩:=h;obtain ⟨U,h'⟩:=h';exact ⟨fun j=>a*W j+b*U j,fun v=>by
  show a*L v+b*M v=_;rw [YL,h,h']⟩
theorem XX {d:Nat}:kO d fun _=>0:=⟨fun _=>0,fun v=>by
 induction d with
 | zero=>rfl
 | succ d ih=>grind [oS]⟩
theorem C4 {x:Rat} {d:Nat}:∀ c i:Nat,i+c≤d→kO d fun v=>pl x v i c
 | 0,_,_=>XX
 | c+1,i,h=>by
  have:=(VK (d:=d) (i:=i) (by omega)).comb (C4 (x:=x) c (i+1) (by omega)) 1 x;simp only [Rat.one_mul] at this;exact this
theorem Hl {t:Rat} {d:Nat}:∀ n i:Nat,i+n < d→kO d fun v=>dc t v n i
 | 0,i,h=>VK h
 | n+1,i,h=>(Hl (t:=t) n i (by omega)).comb (Hl n (i+1) (by omega)) (1 - t) t
theorem N3 {t lo hi:Rat} (h0:0≤t) (h1:t≤1) {v:G}:∀ n i:Nat,(∀ j,i≤j→j≤i+n→lo≤v j∧v j≤hi)→lo≤dc t v n i∧dc t v n i≤hi
 | 0,i,h=>h i (Nat.le_refl _) (Nat.le_refl _)
 | n+1,i,h=>by
  have a:=N3 h0 h1 n i fun j a b=>h j a (by omega);have b:=N3 h0 h1 n (i+1) fun j a b=>h j (by omega) (by omega);have h2:0≤1 - t:=by grind
  simp only [dc];have q1:=Rat.mul_le_mul_of_nonneg_left a.1 h2;have q2:=Rat.mul_le_mul_of_nonneg_left a.2 h2;have q3:=Rat.mul_le_mul_of_nonneg_left b.1 h0;have q4:=Rat.mul_le_mul_of_nonneg_left b.2 h0;grind
def eR:List (Nat × LF)→Nat→Nat→G→Rat
 | [],_,i,g=>g i
 | p::ls,s,i,g=>p.2 fun j=>eR ls (s*(p.1+1)) (i+j*s) g
def sO:List (Nat × LF)→Nat→Nat
 | [],s=>s
 | p::ls,s=>sO ls (s*(p.1+1))
def Hm (ls:List (Nat × LF)):Prop:=∀ p ∈ ls,kO (p.1+1) p.2
theorem VL {g1 g2:G}:∀ (ls:List (Nat × LF)),Hm ls→∀ s i:Nat,(∀ q,q*s+s≤sO ls s→g1 (i+q*s)=g2 (i+q*s))→eR ls s i g1=eR ls s i g2
 | [],_,s,i,h=>by
  have:=h 0 (by grind [sO]);grind [eR]
 | p::ls,ok,s,i,h=>by
  refine (ok p (by simp)).cg fun j hj=>VL ls (fun q hq=>ok q (by grind)) _ _ fun q hq=>?_;have e:i+j*s+q*(s*(p.1+1))=i+(j+q*(p.1+1))*s:=by grind
  rw [e];refine h _ (Nat.le_trans ?_ hq);have:(j+1)*s≤(p.1+1)*s:=Nat.mul_le_mul_right _ hj;grind
theorem FX {c:Nat} {P:LF} (hP:kO c P) {g:G} (a:Nat→Nat):∀ (ls:List (Nat × LF)),Hm ls→∀ s i:Nat,P (fun j=>eR ls s (i+a j) g)=eR ls s i fun i'=>P fun j=>g (i'+a j)
 | [],_,_,_=>rfl
 | p::ls,ok,s,i=>by
  show P (fun j=>p.2 fun r=>eR ls (s*(p.1+1)) (i+a j+r*s) g)=p.2 fun r=>eR ls (s*(p.1+1)) (i+r*s) _;rw [(ok p (by simp)).swap hP];refine congrArg p.2 (funext fun r=>?_);rw [← FX hP a ls (fun q hq=>ok q (by grind))];grind
theorem N4 {d:Nat} {P B:LF} (hP:kO (d+1) P) (hB:kO (d+1) B) {post:List (Nat × LF)} (op:Hm post) {g g':G}:∀ (pre:List (Nat × LF)),Hm pre→∀ s i:Nat,i < s →
  (∀ i0 q,i0 < sO pre s→q*(sO pre s*(d+1))+sO pre s*(d+1)≤sO post (sO pre s*(d+1))→P (fun j=>g (i0+q*(sO pre s*(d+1))+j*sO pre s))=B (fun j=>g' (i0+q*(sO pre s*(d+1))+j*sO pre s))) →
  eR (pre++(d,P)::post) s i g=eR (pre++(d,B)::post) s i g'
 | [],_,s,i,hi,h=>by
  show P (fun j=>eR post (s*(d+1)) (i+j*s) g)=B (fun j=>eR post (s*(d+1)) (i+j*s) g');rw [FX hP _ post op,FX hB _ post op];exact VL post op _ _ fun q hq=>h i q hi hq
 | p::pre,ok,s,i,hi,h=>by
  refine (ok p (by simp)).cg fun j hj=>N4 hP hB op pre (fun q hq=>ok q (by simp [hq])) _ _ ?_ h;have:j*s≤p.1*s:=Nat.mul_le_mul_right _ (by omega);grind
theorem Q7 {lo hi:Rat} {g:G}:∀ (ls:List (Nat × LF)),(∀ p ∈ ls,∀ v:G,(∀ j,j≤p.1→lo≤v j∧v j≤hi)→lo≤p.2 v∧p.2 v≤hi)→∀ s i:Nat,(∀ q,q*s+s≤sO ls s→lo≤g (i+q*s)∧g (i+q*s)≤hi)→lo≤eR ls s i g∧eR ls s i g≤hi
 | [],_,s,i,h=>by
  have:=h 0 (by grind [sO]);grind [eR]
 | p::ls,ok,s,i,h=>by
  refine ok p (by simp) _ fun j hj=>Q7 ls (fun q hq=>ok q (by grind)) _ _ fun q hq=>?_;have e:i+j*s+q*(s*(p.1+1))=i+(j+q*(p.1+1))*s:=by grind
  rw [e];refine h _ (Nat.le_trans ?_ hq);have:j*s≤p.1*s:=Nat.mul_le_mul_right _ hj;grind
def ps (op:Nat→G→G) (s n:Nat):Nat→Nat→G→G
 | 0,_,g=>g
 | k+1,i,g=>ps op s n k (i+1) (if i / s % (n+1)=0 then op i g else g)
theorem Z8 {s n f f' m m':Nat} (hs:0 < s) (h1:f / s % (n+1)=0) (h2:f' / s % (n+1)=0) (hm:m≤n) (hm':m'≤n) (e:f+m*s=f'+m'*s):f=f':=by
 have h3:(f+m*s) / s % (n+1)=m:=by
  rw [Nat.add_mul_div_right _ _ hs,Nat.add_mod,h1,Nat.zero_add,Nat.mod_mod,Nat.mod_eq_of_lt (by omega)]
 have h4:(f'+m'*s) / s % (n+1)=m':=by
  rw [Nat.add_mul_div_right _ _ hs,Nat.add_mod,h2,Nat.zero_add,Nat.mod_mod,Nat.mod_eq_of_lt (by omega)]
 grind
theorem aed {L L':LF} {s n:Nat} (hs:0 < s) (cL:kO (n+1) L) (cL':kO (n+1) L') {op:Nat→G→G} (hop:∀ f g,(∀ a,(∀ m,m≤n→a ≠ f+m*s)→op f g a=g a)∧L (fun m=>g (f+m*s))=L' (fun m=>op f g (f+m*s))) :
  ∀ (k i:Nat) (g:G),(∀ f m,f < i→f / s % (n+1)=0→m≤n→ps op s n k i g (f+m*s)=g (f+m*s))∧∀ f,i≤f→f < i+k→f / s % (n+1)=0→L (fun m=>g (f+m*s))=L' (fun m=>ps op s n k i g (f+m*s)):=by
 intro k;induction k with
 | zero=>exact fun i g=>⟨fun _ _ _ _ _=>rfl,fun f h1 h2=>by omega⟩
 | succ k ih =>
  intro i g;have e:ps op s n (k+1) i g=ps op s n k (i+1) (if i / s % (n+1)=0 then op i g else g):=rfl;rw [e];have hg:∀ f m,f ≠ i→f / s % (n+1)=0→m≤n→(if i / s % (n+1)=0 then op i g else g) (f+m*s)=g (f+m*s):=fun f m hf h0 hm=>by
   grind [Z8]
  have hi:i / s % (n+1)=0→L (fun m=>g (i+m*s))=L' (fun m=>(if i / s % (n+1)=0 then op i g else g) (i+m*s)):=fun h=>by
   simp_all
  generalize (if i / s % (n+1)=0 then op i g else g)=g1 at *
  obtain ⟨a,b⟩:=ih (i+1) g1;refine ⟨fun f m hf h0 hm=>by rw [a f m (by omega) h0 hm,hg f m (by omega) h0 hm],fun f h1 h2 h0=>?_⟩;by_cases hq:f=i
  ·subst hq;rw [hi h0];exact cL'.cg fun m hm=>(a f m (by omega) h0 (by omega)).symm
  ·rw [← b f (by omega) (by omega) h0];exact cL.cg fun m hm=>(hg f m hq h0 (by omega)).symm
def dl (a:Nat):G:=fun b=>if b=a then 1 else 0
theorem Jk {a c:Rat} {g h:G}:∀ (ls:List (Nat × LF)),Hm ls→∀ s i:Nat,eR ls s i (fun b=>a*g b+c*h b)=a*eR ls s i g+c*eR ls s i h
 | [],_,_,_=>rfl
 | p::ls,ok,s,i=>by
  show p.2 (fun j=>eR ls _ (i+j*s) _)=a*p.2 _+c*p.2 _;rw [← (ok p (by simp)).lin];refine congrArg p.2 (funext fun j=>?_);exact Jk ls (fun q hq=>ok q (by grind)) _ _
theorem abT {ls:List (Nat × LF)} (ok:Hm ls) {s i a:Nat} {g:G} {y:Rat}:eR ls s i (gs g a y)=eR ls s i g+(y - g a)*eR ls s i (dl a):=by
 have:gs g a y=fun b=>1*g b+(y - g a)*dl a b:=by
  grind [gs,dl]
 rw [this,Jk ls ok];grind
def jO:List Nat→List Rat→List (Nat × LF)
 | d::ds,x::xs=>(d,fun v=>pl x v 0 (d+1))::jO ds xs
 | _,_=>[]
theorem D4:∀ (ds:List Nat) (xs:List Rat),Hm (jO ds xs)
 | d::ds,x::xs=>fun p hp=>by
  rcases List.mem_cons.1 hp with rfl | hp
  ·simp_all [C4]
  ·exact D4 ds xs p hp
 | [],_=>fun _ h=>by grind [jO]
 | _::_,[]=>fun _ h=>by grind [jO]
def C5:List Rat→List Nat→Rat
 | x::xs,e::es=>x ^ e*C5 xs es
 | _,_=>1
def kP:List Nat→List Nat→Nat→Nat
 | d::ds,e::es,s=>e*s+kP ds es (s*(d+1))
 | _,_,_=>0
def Hn:List Nat→List Nat→Prop
 | d::ds,e::es=>e≤d∧Hn ds es
 | [],[]=>True
 | _,_=>False
theorem YM {x y:Rat} {e:Nat}:∀ c i:Nat,(e < i→pl x (fun j=>if j=e then y else 0) i c=0)∧(i≤e→e < i+c→pl x (fun j=>if j=e then y else 0) i c=x ^ (e - i)*y)
 | 0,i=>⟨fun _=>rfl,fun h1 h2=>by omega⟩
 | c+1,i=>by
  obtain ⟨a,b⟩:=YM (x:=x) (y:=y) (e:=e) c (i+1);simp only [pl];constructor
  ·grind
  ·intro h1 h2;by_cases h:i=e
   ·subst h;grind
   ·rw [if_neg h,b (by omega) (by omega),show e - i=e - (i+1)+1 by omega,Rat.pow_succ];grind
theorem YN {s i i0 j e:Nat} (h1:i < s) (h2:i0 < s):i+j*s=i0+e*s↔i=i0∧j=e:=by
 constructor
 ·intro h;have a:(i+j*s) % s=i:=by rw [Nat.add_mul_mod_self_right,Nat.mod_eq_of_lt h1]
  have b:(i0+e*s) % s=i0:=by rw [Nat.add_mul_mod_self_right,Nat.mod_eq_of_lt h2]
  have c:i=i0:=by grind
  subst c;exact ⟨rfl,Nat.eq_of_mul_eq_mul_right (by omega) (Nat.add_left_cancel h)⟩
 grind
theorem xO {s i j d:Nat} (h:i < s) (hj:j≤d):i+j*s < s*(d+1):=by
 have:j*s≤d*s:=Nat.mul_le_mul_right _ hj;grind
theorem Q8:∀ (ds es:List Nat) (xs:List Rat),Hn ds es→xs.length=ds.length→∀ s i i0:Nat,i < s→i0 < s→eR (jO ds xs) s i (dl (i0+kP ds es s))=if i=i0 then C5 xs es else 0
 | [],[],xs,_,hx,s,i,i0,_,_=>by
  have:xs=[]:=List.length_eq_zero_iff.1 hx;subst this;rfl
 | d::ds,e::es,x::xs,h,hx,s,i,i0,h1,h2=>by
  show pl x (fun j=>eR (jO ds xs) (s*(d+1)) (i+j*s) (dl (i0+(e*s+kP ds es (s*(d+1)))))) 0 (d+1)=_;have hc:=(C4 (x:=x) (d:=d+1) (d+1) 0 (by simp)).cg (v:=fun j=>eR (jO ds xs) (s*(d+1)) (i+j*s) (dl (i0+(e*s+kP ds es (s*(d+1)))))) (w:=fun j=>if j=e then (if i=i0 then C5 xs es else 0) else 0) (fun j hj=>by
   rw [← Nat.add_assoc,Q8 ds es xs h.2 (by grind) (s*(d+1)) _ _ (xO h1 (by omega)) (xO h2 h.1)];grind [YN])
  rw [hc,(YM (d+1) 0).2 (by omega) (by have:=h.1; omega)];by_cases ha:i=i0
  ·rw [if_pos ha,if_pos ha]; rfl
  grind
 | [],_::_,_,h,_,_,_,_,_,_=>h.elim
 | _::_,[],_,h,_,_,_,_,_,_=>h.elim
 | _::_,_::_,[],_,hx,_,_,_,_,_=>by grind
theorem VM:∀ (ds es:List Nat) (xs:List Rat),Hn ds es→xs.length=ds.length→∀ s i0:Nat,i0 < s→i0+kP ds es s < sO (jO ds xs) s
 | [],[],xs,_,hx,s,i0,h2=>by
  exact h2
 | d::ds,e::es,x::xs,h,hx,s,i0,h2=>by
  show i0+(e*s+kP ds es (s*(d+1))) < sO (jO ds xs) (s*(d+1));rw [← Nat.add_assoc];exact VM ds es xs h.2 (by grind) _ _ (xO h2 h.1)
 | [],_::_,_,h,_,_,_,_=>h.elim
 | _::_,[],_,h,_,_,_,_=>h.elim
 | _::_,_::_,[],_,hx,_,_,_=>by grind
theorem Q9:∀ (ds es es':List Nat),Hn ds es→Hn ds es'→∀ s i i0:Nat,i < s→i0 < s→i+kP ds es s=i0+kP ds es' s→i=i0∧es=es'
 | [],[],[],_,_,_,_,_,_,_,h=>⟨h,rfl⟩
 | d::ds,e::es,e'::es',h,h',s,i,i0,h1,h2,hq=>by
  have:i+(e*s+kP ds es (s*(d+1)))=i0+(e'*s+kP ds es' (s*(d+1))):=hq;rw [← Nat.add_assoc,← Nat.add_assoc] at this;obtain ⟨a,b⟩:=Q9 ds es es' h.2 h'.2 _ _ _ (xO h1 h.1) (xO h2 h'.1) this;obtain ⟨c,d⟩:=(YN h1 h2).1 a;exact ⟨c,by rw [d,b]⟩
 | [],_::_,_,h,_,_,_,_,_,_,_=>h.elim
 | _::_,[],_,h,_,_,_,_,_,_,_=>h.elim
 | [],[],_::_,_,h,_,_,_,_,_,_=>h.elim
 | _::_,_::_,[],_,h,_,_,_,_,_,_=>h.elim
theorem Jl {y:Rat} (h:0 < y):0 < y⁻¹:=by
 refine Rat.not_le.1 fun hn=>?_;have:=Rat.mul_le_mul_of_nonneg_right hn (Rat.le_of_lt h);grind
theorem Ra {y z:Rat} (h1:0 < y) (h2:y≤z):z⁻¹≤y⁻¹:=by
 have a:=Jl h1;have b:=Jl (show 0 < z by grind);have c:=Rat.mul_le_mul_of_nonneg_right (Rat.mul_le_mul_of_nonneg_right h2 (Rat.le_of_lt a)) (Rat.le_of_lt b);rw [show y*y⁻¹*z⁻¹=z⁻¹ by grind,show z*y⁻¹*z⁻¹=y⁻¹ by grind] at c;omega
theorem VN {y z:Rat} (h:0 < y∧y≤z∨y≤z∧z < 0):z⁻¹≤y⁻¹:=by
 rcases h with ⟨h1,h2⟩ | ⟨h2,h1⟩
 ·grind [Ra]
 ·have:=Ra (y:=-z) (z:=-y) (by grind) (by grind);grind
theorem nV {d:Rd}:(d.neg=true→zI d=-(mg d:Int))∧(d.neg=false→zI d=mg d):=by
 simp_all [zI,if_pos]
theorem abU {a b:Rd} {p:Int} {w:Bool} {N:Nat} (hN:N=16384) (oa:Ok0 a) (ob:Ok0 b) (va:vd a=true) (vb:vd b=true) (hp:8≤p∧p≤512) (a0:a.m.length ≠ 0) (b0:b.m.length ≠ 0)
  (h:(dh (aa a.m*2 ^ p7 a b p / aa b.m) (a.e - p7 a b p - b.e) (decide (aa a.m*2 ^ p7 a b p % aa b.m ≠ 0)) p w).2=0) :
  ∃ n:Nat,zI (dh (aa a.m*2 ^ p7 a b p / aa b.m) (a.e - p7 a b p - b.e) (decide (aa a.m*2 ^ p7 a b p % aa b.m ≠ 0)) p w).1=n∧(w=true→mg a*2 ^ N≤n*mg b)∧(w=false→n*mg b≤mg a*2 ^ N):=by
 obtain ⟨a1,a2,a3,a4⟩:=ey va oa.lb;obtain ⟨b1,b2,b3,b4⟩:=ey vb ob.lb;have hA:=cP va a0;have hB:=cP vb b0;have hk:p7 a b p=(p+3+af (aa b.m) - af (aa a.m)).toNat:=rfl;generalize p7 a b p=k at *
 have hm2:=dH k hA;have hbM:p < (af (aa a.m*2 ^ k / aa b.m):Nat):=by
  have h1:2 ^ (af (aa a.m*2 ^ k) - 1)≤aa a.m*2 ^ k:=Je (by omega);have h2:aa b.m < 2 ^ af (aa b.m):=bv.1 (Nat.le_refl _);have h3:2 ^ p.toNat*aa b.m≤aa a.m*2 ^ k:=by
   refine Nat.le_trans (Nat.mul_le_mul_left _ (Nat.le_of_lt h2)) (Nat.le_trans ?_ h1);rw [← Nat.pow_add];exact Nat.pow_le_pow_right (by decide) (by omega)
  have h4:2 ^ p.toNat≤aa a.m*2 ^ k / aa b.m:=(Nat.le_div_iff_mul_le (Nat.pos_of_ne_zero hB)).2 h3;have h5:=jU.2 h4;omega
 have hdm:=Nat.div_add_mod (aa a.m*2 ^ k) (aa b.m);have hml:=Nat.mod_lt (aa a.m*2 ^ k) (Nat.pos_of_ne_zero hB);generalize aa a.m*2 ^ k / aa b.m=M at *
 generalize hR:aa a.m*2 ^ k % aa b.m=R at *
 obtain ⟨n,n1,n2,n3⟩:=FV (s:=(a.e+16384).toNat+N) (t:=k+(b.e+16384).toNat) (fun h0=>by grind [oM]) hp (by omega) (fun _=>hbM) h;refine ⟨n,n1,fun hw=>?_,fun hw=>?_⟩
 ·have g:=n2 hw;have h1:aa a.m*2 ^ k≤(M+(decide (R ≠ 0)).toNat)*aa b.m:=by
   rw [← hdm,Nat.add_mul,Nat.mul_comm M];by_cases h0:R=0
   all_goals grind
  refine Nat.le_of_mul_le_mul_right ?_ (Nat.two_pow_pos k);have h2:=Nat.mul_le_mul_right (2 ^ ((a.e+16384).toNat+N)) h1;have h3:=Nat.mul_le_mul_right (aa b.m) g;unfold mg;grind
 ·have g:=n3 hw;have h1:M*aa b.m≤aa a.m*2 ^ k:=by
   grind
  refine Nat.le_of_mul_le_mul_right ?_ (Nat.two_pow_pos k);have h2:=Nat.mul_le_mul_right (2 ^ ((a.e+16384).toNat+N)) h1;have h3:=Nat.mul_le_mul_right (aa b.m) g;unfold mg;grind
theorem Kz {A B n:Nat} (k:Nat) (hB:0 < B):(A*2 ^ k≤n*B→(A:Rat)*(B:Rat)⁻¹≤n*eQ k)∧(n*B≤A*2 ^ k→(n:Rat)*eQ k≤(A:Rat)*(B:Rat)⁻¹):=by
 have hb:(0:Rat) < B:=by exact_mod_cast hB
 have hi:=Jl hb;have hk:=N2 k;have hm:=C1 k;have e1:((A*2 ^ k:Nat):Rat)=A*pQ k:=by
  simp_all [pQ,Rat.natCast_mul,Rat.natCast_pow,Rat.intCast_pow]
 have e2:((n*B:Nat):Rat)=n*B:=Rat.natCast_mul _ _;have r1:(A:Rat)*(B:Rat)⁻¹=A*pQ k*(eQ k*(B:Rat)⁻¹):=by grind
 have r2:(n:Rat)*eQ k=n*B*(eQ k*(B:Rat)⁻¹):=by grind
 have hc:0≤eQ k*(B:Rat)⁻¹:=Rat.mul_nonneg (Rat.le_of_lt hk) (Rat.le_of_lt hi);rw [r1,r2,← e1,← e2];exact ⟨fun h=>Rat.mul_le_mul_of_nonneg_right (by exact_mod_cast h) hc,fun h=>Rat.mul_le_mul_of_nonneg_right (by exact_mod_cast h) hc⟩
theorem VO {a b:Rd} {p:Int} {up:Bool} (va:vd a=true∧Ok0 a) (vb:vd b=true∧Ok0 b) (hb:qv b ≠ 0) (hp:di p=true) (h:(kK a b p up).2=0):(up=true→qv a*(qv b)⁻¹≤qv (kK a b p up).1)∧(up=false→qv (kK a b p up).1≤qv a*(qv b)⁻¹):=by
 unfold kK at h ⊢;rw [if_pos (Hh va.1 vb.1 hp)] at h ⊢;have b0:b.m.length ≠ 0:=fun h0=>hb (by grind);rw [if_neg b0] at h ⊢;by_cases a0:a.m.length=0
 ·rw [if_pos a0,C2]
  simp_all [qv,ez]
 rw [if_neg a0] at h ⊢;obtain ⟨N,hN⟩:∃ N:Nat,N=16384:=⟨_,rfl⟩;have hcut:=fun w hw=>abU (w:=w) hN va.2 vb.2 va.1 vb.1 (Ai hp) a0 b0 hw;have hmb:=Aa vb.1 b0;have hE:=Af;generalize hc:dh (aa a.m*2 ^ p7 a b p / aa b.m) (a.e - p7 a b p - b.e) (decide (aa a.m*2 ^ p7 a b p % aa b.m ≠ 0)) p=c at *
 have hvc:∀ w,vd (c w).1=true:=fun w=>by rw [← hc]; exact QT
 have hq:qv a*(qv b)⁻¹=if (a.neg != b.neg)=true then -((mg a:Rat)*(mg b:Rat)⁻¹) else (mg a:Rat)*(mg b:Rat)⁻¹:=by
  unfold qv;have i1:((-(mg a:Int):Int):Rat)=-(mg a:Rat):=by rfl
  have i2:((-(mg b:Int):Int):Rat)=-(mg b:Rat):=by rfl
  have i3:((mg a:Int):Rat)=(mg a:Rat):=rfl;have i4:((mg b:Int):Rat)=(mg b:Rat):=rfl;cases ha:a.neg <;> cases hb:b.neg
  ·rw [nV.2 ha,nV.2 hb,i3,i4,if_neg (by decide)]; grind
  ·rw [nV.2 ha,nV.1 hb,i3,i2,if_pos (by decide)]; grind
  ·rw [nV.1 ha,nV.2 hb,i1,i4,if_pos (by decide)]; grind
  ·rw [nV.1 ha,nV.1 hb,i1,i2,if_neg (by decide)]; grind
 rw [hq];generalize (a.neg != b.neg)=sg at *
 unfold iC at h ⊢;cases sg with
 | true =>
  have h2:(c (up != true)).2=0:=by
   grind
  rw [if_pos (show (c (up != true)).2=0∧true=true from ⟨h2,rfl⟩),if_pos (show true=true from rfl)];obtain ⟨n,n1,n2,n3⟩:=hcut _ h2;rw [(Ah (hvc _)).1];have e:qv (c (up != true)).1=(n:Rat)*eQ N:=by unfold qv; rw [n1,hN]; rfl
  grind [Kz,mg]
 | false =>
  have hn:¬((c (up != false)).2=0∧false=true):=fun h1=>Bool.false_ne_true h1.2;rw [if_neg hn] at h;obtain ⟨n,n1,n2,n3⟩:=hcut _ h;have e:qv (c (up != false)).1=(n:Rat)*eQ N:=by unfold qv; rw [n1,hN]; rfl
  grind [Kz,mg]
theorem Be {d:Rd} (h:vd d=true):(0 < bY d↔0 < qv d)∧(bY d < 0↔qv d < 0):=by
 have hE:=Af;unfold bY;by_cases h0:d.m.length=0
 ·simp_all [qv,ez,if_pos]
 ·have hm:=Aa h h0;have hq:(0:Rat) < (mg d:Rat)*EQ:=Rat.mul_pos (by exact_mod_cast hm) hE;cases hn:d.neg with
  | true =>
   have:qv d=-((mg d:Rat)*EQ):=by unfold qv; rw [nV.1 hn,Rat.intCast_neg,Rat.intCast_natCast]; grind
   grind
  | false =>
   have:qv d=(mg d:Rat)*EQ:=by unfold qv; rw [nV.2 hn]; rfl
   grind
theorem Rb {x y:Ri} {a b:Rat} {p:Int} (hx:In a x) (hy:In b y):In (a / b) (Ji x y p):=by
 unfold Ji;split
 ·next h =>
  simp only [Bool.and_eq_true] at h;obtain ⟨⟨kx,ky⟩,hp⟩:=h;rcases hx.k with ⟨rfl,h⟩ | ⟨_,x1,x2⟩
  ·grind
  rcases hy.k with ⟨rfl,h⟩ | ⟨_,y1,y2⟩
  ·grind
  split
  ·exact Or.inl rfl
  ·next hs =>
   have hpr:∀ i,((ku x y i).1=x.lo∨(ku x y i).1=x.hi)∧((ku x y i).2=y.lo∨(ku x y i).2=y.hi):=fun i=>by
    unfold ku;grind
   have hsg:0 < qv y.lo∨qv y.hi < 0:=by
    unfold EZ at hs;by_cases g1:0 < bY y.lo
    ·exact Or.inl ((Be hy.vi.1.1).1.1 g1)
    ·by_cases g2:bY y.hi < 0
     ·exact Or.inr ((Be hy.vi.2.1).2.1 g2)
     omega
   have hv:∀ i,(vd (ku x y i).1=true∧Ok0 (ku x y i).1)∧(vd (ku x y i).2=true∧Ok0 (ku x y i).2)∧qv (ku x y i).2 ≠ 0:=fun i=>by
    obtain ⟨h1,h2⟩:=hpr i;refine ⟨?_,?_,?_⟩
    ·rcases h1 with h1 | h1 <;> rw [h1]
     ·exact hx.vi.1
     ·exact hx.vi.2
    ·rcases h2 with h1 | h1 <;> rw [h1]
     ·exact hy.vi.1
     ·exact hy.vi.2
    grind
   refine Q4 (dn:=fun a b=>kK a b p false) (up:=fun a b=>kK a b p true) (v:=fun i=>qv (ku x y i).1*(qv (ku x y i).2)⁻¹) (fun _ _=>DW) (fun _ _=>DW) (fun i _ h=>(VO (hv i).1 (hv i).2.1 (hv i).2.2 hp h).2 rfl) (fun i _ h=>(VO (hv i).1 (hv i).2.1 (hv i).2.2 hp h).1 rfl) fun lo hi h=>?_;have i1:(qv y.hi)⁻¹≤b⁻¹:=VN (by grind);have i2:b⁻¹≤(qv y.lo)⁻¹:=VN (by grind);exact Q5 x1 x2 i1 i2 (h 1 (by decide)) (h 0 (by decide)) (h 3 (by decide)) (h 2 (by decide))
 ·exact Or.inl rfl
theorem VP {z p:Int} {j:Nat} {up:Bool} (hp:8≤p∧p≤512) (hz:0≤z) (h:(kN z (-16384 - (j:Int)) p up).2=0):0≤zI (kN z (-16384 - (j:Int)) p up).1:=by
 unfold kN at h ⊢;by_cases h0:z=0
 ·rw [if_pos h0,ez rfl];omega
 ·rw [if_neg h0,decide_eq_false (by omega)] at h ⊢;unfold iC at h ⊢;rw [if_neg (fun h1=>Bool.false_ne_true h1.2)] at h ⊢;obtain ⟨n,g1,_⟩:=FV (s:=0) (t:=j) (by omega) hp (by omega) (fun h=>absurd h Bool.false_ne_true) h;omega
theorem Tu {d:Rd}:0≤qv d↔0≤zI d:=by
 rw [← C2,DY,ez rfl]
theorem abV {d:Rd} {p:Int} {up:Bool} (v:vd d=true) (hp:di p=true) (h:(iY d p up).2=0):(0≤qv d→0≤qv (iY d p up).1)∧(up=true→qv d≤qv (iY d p up).1)∧(up=false→qv (iY d p up).1≤qv d):=by
 refine ⟨fun hd=>?_,?_,?_⟩
 ·rw [Tu] at hd ⊢;have hp2:=Ai hp;have hf:bp p [d]=0:=by grind [bp]
  unfold iY at h ⊢;rw [if_pos hf] at h ⊢;exact VP (j:=0) hp2 hd h
 ·rintro rfl
  exact DY.2 (ZW v hp h)
 ·rintro rfl
  exact DY.2 (ZV v hp h)
theorem Z9 {a b:Rd} {p:Int} {up:Bool} (ha:vd a=true) (hb:vd b=true) (hp:di p=true) (h1:0≤qv a) (h2:0≤qv b) (h:(fl a b p up).2=0):0≤qv (fl a b p up).1:=by
 rw [Tu] at *
 unfold fl at h ⊢;rw [if_pos (Hh ha hb hp)] at h ⊢;exact VP (j:=16384) (Ai hp) (Int.mul_nonneg h1 h2) h
theorem N5 {d:Rd} {p:Int} {up:Bool}:vd (iY d p up).1=true∧Ok0 (iY d p up).1:=by
 grind [iY,sz,bm]
theorem VQ {a b:Rd} {p:Int} {up:Bool}:vd (fl a b p up).1=true∧Ok0 (fl a b p up).1:=by
 grind [fl,sz,bm]
theorem Tv {d:Rd} {p:Int} {up:Bool}:∀ (k:Nat) (r:Rd × Int),(vd r.1=true∧Ok0 r.1)→vd (iP d p up k r).1=true∧Ok0 (iP d p up k r).1
 | 0,_,h=>h
 | k+1,r,h=>by
  unfold iP;split
  ·exact Tv k _ VQ
  ·exact h
theorem YO {d:Rd} {p:Int} {up:Bool} (v:vd d=true) (hp:di p=true) (h0:0≤qv d):∀ (k m:Nat) (r:Rd × Int),vd r.1=true→(r.2=0→0≤qv r.1∧(up=true→qv d ^ m≤qv r.1)∧(up=false→qv r.1≤qv d ^ m))→(iP d p up k r).2=0 →
  (up=true→qv d ^ (m+k)≤qv (iP d p up k r).1)∧(up=false→qv (iP d p up k r).1≤qv d ^ (m+k))
 | 0,m,r,_,h,he=>(h he).2
 | k+1,m,r,vr,h,he=>by
  unfold iP at he ⊢;by_cases hr:r.2=0
  ·rw [if_pos hr] at he ⊢;obtain ⟨a,b,c⟩:=h hr;rw [show m+(k+1)=m+1+k by omega];refine YO v hp h0 k (m+1) _ VQ.1 (fun hm=>⟨Z9 vr v hp a h0 hm,fun hu=>?_,fun hu=>?_⟩) he
   ·have h1:=(Hk vr v hp hm).1 hu;have h2:=Rat.mul_le_mul_of_nonneg_right (b hu) h0;grind [Rat.pow_succ,Rat.le_trans]
   grind [Hk,Rat.mul_le_mul_of_nonneg_right,Rat.pow_succ,Rat.le_trans]
  grind
theorem abW {d:Rd} {p:Int} {up:Bool} {n:Nat} (v:vd d=true) (hp:di p=true) (h0:0≤qv d) (hn:1≤n) (he:(pw d n p up).2=0):(up=true→qv d ^ n≤qv (pw d n p up).1)∧(up=false→qv (pw d n p up).1≤qv d ^ n):=by
 have:=YO v hp h0 (n - 1) 1 (iY d p up) N5.1 (fun h=>by
  grind [abV,qv]) he
 rw [show 1+(n - 1)=n by omega] at this;exact this
theorem qt {x:Rat}:∀ n:Nat,(-x) ^ (2*n+1)=-(x ^ (2*n+1))
 | 0=>by grind
 | n+1=>by
  have:=qt (x:=x) n;grind
theorem C6 {x:Rat}:∀ n:Nat,(-x) ^ (2*n)=x ^ (2*n)
 | 0=>by grind
 | n+1=>by
  have:=C6 (x:=x) n;grind
theorem Ho {x:Rat} (h:0≤x):∀ n:Nat,0≤x ^ n
 | 0=>by grind
 | n+1=>by rw [Rat.pow_succ]; exact Rat.mul_nonneg (Ho h n) h
theorem C7 {x y:Rat} (h:0≤x) (h1:x≤y):∀ n:Nat,x ^ n≤y ^ n
 | 0=>by grind
 | n+1=>by
  rw [Rat.pow_succ,Rat.pow_succ];have a:=Rat.mul_le_mul_of_nonneg_right (C7 h h1 n) h;have b:=Rat.mul_le_mul_of_nonneg_left h1 (Ho (Rat.le_trans h h1) n);exact Rat.le_trans a b
theorem Tw {x y:Rat} (h1:x≤y) (n:Nat):x ^ (2*n+1)≤y ^ (2*n+1):=by
 by_cases hx:0≤x
 ·grind [C7]
 ·by_cases hy:0≤y
  ·have a:=Ho (show 0≤-x by grind) (2*n+1);grind [Ho,qt]
  ·have:=C7 (x:=-y) (y:=-x) (by grind) (by grind) (2*n+1);grind [qt]
theorem abX {d:Rd} (v:vd d=true):sS d < 0↔qv d < 0:=by
 rw [← (Be v).2];grind [sS,bY]
theorem Hp {d:Rd} {p:Int} {up:Bool} {n:Nat} (v:vd d=true) (hp:di p=true) (hn:1≤n) (ho:n % 2=1∨0≤qv d) (he:(oQ d n p up).2=0):(up=true→qv d ^ n≤qv (oQ d n p up).1)∧(up=false→qv (oQ d n p up).1≤qv d ^ n):=by
 unfold oQ at he ⊢;by_cases hs:sS d < 0
 ·rw [if_pos hs] at he ⊢;have hq:=(abX v).1 hs;obtain ⟨n1,n2⟩:=Ah v;have hodd:n=2*(n / 2)+1:=by
   grind
  have hw:=abW n2 hp (by grind) hn he;grind [vd,pw,dw,Tv,N5,qv,Ah,qt]
 ·rw [if_neg hs] at he ⊢;exact abW v hp (Rat.not_lt.1 fun h=>hs ((abX v).2 h)) hn he
theorem VR {d:Rd} (v:vd d=true) (ok:Ok0 d):(vd (lL d)=true∧Ok0 (lL d))∧0≤qv (lL d)∧(qv (lL d)=qv d∨qv (lL d)=-qv d):=by
 unfold lL;by_cases h0:d.m.length=0
 ·rw [if_pos (Or.inr h0),C2]
  simp_all [qv,ez,bm,Rat.le_refl]
 ·rw [if_neg (by grind)];have hm:mg ⟨false,d.m,d.e⟩=mg d:=rfl;have h1:zI ⟨false,d.m,d.e⟩=mg d:=by rw [nV.2 rfl,hm]
  refine ⟨⟨?_,ok.1,ok.2⟩,?_,?_⟩
  ·simp_all [vd,if_neg]
  ·grind [Tu]
  ·unfold qv;rw [h1];cases hn:d.neg with
   | true =>
    rw [nV.1 hn,Rat.intCast_neg];grind
   | false =>
    left;rw [nV.2 hn]
theorem aaa {x:Ri} {a b:Rat} (hx:In a x) (hb:0≤b) (hab:b=a∨b=-a):In b (vC x)∧(kI x=true→0≤qv (vC x).lo∧(vC x).all=false):=by
 unfold vC;by_cases h:kI x=true
 ·rw [if_pos h];rcases hx.k with ⟨rfl,h1⟩ | ⟨_,x1,x2⟩
  ·grind
  obtain ⟨l1,l2,l3⟩:=VR hx.vi.1.1 hx.vi.1.2;obtain ⟨h1,h2,h3⟩:=VR hx.vi.2.1 hx.vi.2.2;obtain ⟨m1,m2,m3,m4,m5⟩:=D3 l1 h1;obtain ⟨n1,n2,n3,n4,n5⟩:=D0 l1 h1;have hmag:b≤qv (I2 x):=by
   grind [I2]
  have hmig:(vd (xJ x)=true∧Ok0 (xJ x))∧0≤qv (xJ x)∧qv (xJ x)≤b:=by
   unfold xJ;split
   ·grind [C2,bm,Rat.le_refl]
   ·next hs =>
    have hsg:0 < qv x.lo∨qv x.hi < 0:=by
     unfold EZ at hs;by_cases g1:0 < bY x.lo
     ·exact Or.inl ((Be hx.vi.1.1).1.1 g1)
     ·by_cases g2:bY x.hi < 0
      ·exact Or.inr ((Be hx.vi.2.1).2.1 g2)
      omega
    grind
  exact ⟨Or.inr ⟨rfl,⟨hmig.1,⟨m3,m4⟩⟩,hmig.2.2,hmag⟩,fun _=>⟨hmig.2.1,rfl⟩⟩
 ·rw [if_neg h];exact ⟨Or.inl rfl,fun hk=>absurd hk h⟩
theorem N6:qv one=1:=by
 obtain ⟨N,hN⟩:∃ N:Nat,N=16384:=⟨_,rfl⟩;have hm:mg one=2 ^ N:=by
  unfold mg;rw [show (one.e+16384).toNat=N by rw [hN]; rfl];exact Nat.one_mul _
 unfold qv EQ;rw [nV.2 rfl,hm,← hN,show (((2 ^ N:Nat):Int):Rat)=pQ N by grind [pQ,Int.natCast_pow]];grind [C1]
theorem Hq {d:Rd} {p:Int} {up:Bool} {n:Nat}:vd (oQ d n p up).1=true∧Ok0 (oQ d n p up).1:=by
 grind [oQ,vd,pw,Tv,N5,Ah,ri]
theorem Jm {x:Ri} {a:Rat} {n:Nat} {p:Int} (hx:In a x):In (a ^ n) (vD x n p):=by
 unfold vD;split
 ·next h =>
  simp only [Bool.and_eq_true] at h;obtain ⟨⟨kx,hp⟩,_⟩:=h;split
  ·next h0 =>
   subst h0;rw [Rat.pow_zero,← N6];exact sE kv.1 kv.2
  ·next h0 =>
   by_cases he:n % 2=0
   ·rw [if_pos he];obtain ⟨b,hb,hab⟩:∃ b:Rat,0≤b∧(b=a∨b=-a):=by
     grind
    obtain ⟨h1,h2⟩:=aaa hx hb hab;obtain ⟨g1,g2⟩:=h2 kx;have hpw:a ^ n=b ^ n:=by
     rcases hab with rfl | rfl
     ·rfl
     ·rw [show n=2*(n / 2) by omega,C6]
    rw [hpw];rcases h1 with hW | ⟨_,hv,y1,y2⟩
    ·rw [hW] at g2;exact absurd g2 (by decide)
    refine LH Hq Hq (fun h=>?_) (fun h=>?_)
    ·exact Rat.le_trans ((Hp hv.1.1 hp (by omega) (Or.inr g1) h).2 rfl) (C7 g1 y1 n)
    ·exact Rat.le_trans (C7 (Rat.le_trans g1 y1) y2 n) ((Hp hv.2.1 hp (by omega) (Or.inr (Rat.le_trans g1 (Rat.le_trans y1 y2))) h).1 rfl)
   ·rw [if_neg he];rcases hx.k with ⟨rfl,h1⟩ | ⟨_,x1,x2⟩
    ·grind
    have ho:n=2*(n / 2)+1:=by omega
    have le:∀ {x y:Rat},x≤y→x ^ n≤y ^ n:=fun h=>by
     grind [Tw]
    refine LH Hq Hq (fun h=>?_) (fun h=>?_)
    ·exact Rat.le_trans ((Hp hx.vi.1.1 hp (by omega) (Or.inl (by omega)) h).2 rfl) (le x1)
    ·exact Rat.le_trans (le x2) ((Hp hx.vi.2.1 hp (by omega) (Or.inl (by omega)) h).1 rfl)
 ·exact Or.inl rfl
theorem Rc {x:Rat} {m:Nat}:∀ n:Nat,x ^ m*x ^ n=x ^ (m+n)
 | 0=>by grind
 | n+1=>by rw [Rat.pow_succ,← Rat.mul_assoc,Rc n,← Nat.add_assoc,Rat.pow_succ]
theorem aab {x:Ri} {a:Rat} {n:Nat} {p:Int} (hx:In a x):In (a ^ n) (A4 x n p):=by
 unfold A4;split
 ·exact Jm hx
 ·have:=wz (p:=p) (Jm (n:=16) (p:=p) hx) (Jm (n:=n - 16) (p:=p) hx);grind [Rc]
def VS:List Rat→List Ri→Prop
 | x::xs,d::ds=>In x d∧VS xs ds
 | [],[]=>True
 | _,_=>False
def yC (es:List Int):List Nat:=es.map Int.toNat
def fv (xs:List Rat):List Rt→Rat
 | []=>0
 | t::l=>qv t.c*C5 xs (yC t.exps)+fv xs l
theorem VU {p:Int}:∀ (xs:List Rat) (ds:List Ri) (es:List Int) (x:Ri) (q:Rat),VS xs ds→ds.length=es.length→In q x→In (q*C5 xs (yC es)) (Hc p ds es x)
 | [],[],[],x,q,_,_,h=>by
  show In (q*1) x;grind
 | y::xs,d::ds,e::es,x,q,hl,hd,h=>by
  show In (q*(y ^ e.toNat*C5 xs (yC es))) (Hc p ds es (if 0 < e then nv x (A4 d e.toNat p) p else x));rw [← Rat.mul_assoc];refine VU xs ds es _ _ hl.2 (by grind) ?_;split
  ·exact wz h (aab hl.1)
  ·rw [show e.toNat=0 by omega,Rat.pow_zero,Rat.mul_one];omega
 | [],_::_,_,_,_,hl,_,_=>hl.elim
 | _::_,[],_,_,_,hl,_,_=>hl.elim
 | _::_,_::_,[],_,_,_,hd,_=>by grind
 | [],[],_::_,_,_,_,hd,_=>by grind
theorem VV {p:Int} {xs:List Rat} {dom:List Ri} (hl:VS xs dom):∀ (l:List Rt) (s:Ri) (q:Rat),(∀ t ∈ l,vd t.c=true∧Ok0 t.c∧dom.length=t.exps.length)→In q s→In (q+fv xs l) (NE p dom l s)
 | [],s,q,_,h=>by
  show In (q+0) s;grind
 | t::l,s,q,ht,h=>by
  obtain ⟨a,b,c⟩:=ht t (by simp);show In (q+(qv t.c*C5 xs (yC t.exps)+fv xs l)) _;rw [← Rat.add_assoc];exact VV hl l _ _ (fun u hu=>ht u (by simp [hu])) (DZ h (VU xs dom _ _ _ hl c (sE a b)))
theorem VW {a:Rp} {dom:List Ri} {xs:List Rat} {p:Int} (oa:OkP a) (hl:VS xs dom):In (fv xs a.terms) (jD a dom p):=by
 unfold jD;split
 ·next h =>
  unfold kJ at h;simp only [Bool.and_eq_true,decide_eq_true_eq] at h;obtain ⟨⟨hv,hd,_⟩,_⟩:=h;unfold vp at hv;simp only [Bool.and_eq_true,decide_eq_true_eq] at hv;have:=VV (p:=p) hl a.terms ⟨aP,aP,false⟩ 0 (fun t ht=>by
   have h1:=uM (I8 _ _ hv.2.2.2 t ht);exact ⟨h1.2.1,(oa.t t ht).c,by omega⟩) (by rw [← C2]; exact sE bm.1 bm.2)
  grind
 ·exact Or.inl rfl
end Go.Ab
