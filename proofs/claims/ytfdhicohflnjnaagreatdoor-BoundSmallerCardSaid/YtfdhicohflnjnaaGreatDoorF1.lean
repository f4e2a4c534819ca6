/-
  A law of ranges holds at every input that the statement speaks of, under the conditions that its card names. Part F1.
-/
import Derived.Lib.Overlaps
import Derived.Laws.Externs
import Derived.Shelf.Slices.Clone
import Derived.Shelf.Lays2
import Derived.Shelf.RegionOpenPlain
import Derived.WalkKit
import Derived.Deep.LoopGhost
import Derived.Lib.Walk
import Derived.Lib.SliceRun
import Derived.Test.YtfdhicohflnjnaaGreatDoorProg
import Derived.Shelf.Spec.TrailingZeros
import Derived.Test.YtfdhicohflnjnaaGreatDoorRows
import Derived.Deep.Strs
import Derived.ProofKit
import Derived.LaidMore
import Derived.OpenShut
import Derived.Carry
import Derived.Test.YtfdhicohflnjnaaGreatDoorE1
open Nat renaming reduceAdd → apA, reduceMul → apB, reduceLeDiff → apC, reduceLT → apD, reduceBEq → apE, reduceSub → apJ, reduceMod → apK
open Int renaming reduceLT → apF, reduceToNat → apG, reduceLE → apH, reduceEq → apI
set_option linter.all false
namespace Go.Ab
open Go Go.IntWalk Go.Proofs Go.Shelf Go.RowKit Go.Lib Go.ChangeShapes Go.WideShapes Go.Deep Go.Proofs.Tryz
set_option maxRecDepth 100000
set_option maxHeartbeats 4000000
def bh (ds:List Int) (cs:List Ri) (p:Int):Ob:=.bx [.osl 1 (bw ds),.osl 7 (aY cs),I p]
def G0:List Int→Int→Int
 | [],n=>n
 | d::l,n=>G0 l (n*(d+1))
theorem l8 (a b:AV) (k:Nat) (r:List (List AV)):jl 0 (.bx [.osl k r,a,b])=some (k,r):=rfl
theorem su (h:ac) (n:Nat) (g:Bool) (i j:Nat) (r:List (List AV)):lh h n g 1 i j (some (1,r))=(r[i]?).bind fun row=>(jR n g row j).map fun a=>(a,h,[]):=rfl
theorem Z8 {ds:List Int} {cs:List Ri} {p:Int} {m:Nat} (hm:m≤ds.length) (h8:m≤1000) (hb:∀ d ∈ ds,0≤d∧d≤32) :
  ∀ (k i:Nat),i+k=m→∀ (n:Int),0≤n→n*33 ^ k≤10000000000000→∀ (s:af) (h:ac),s 5=I n→s 13=.rsl 1000 (some 0) 1 0 m→s 14=I m→s 15=I i→h 1000=bh ds cs p →
  ∃ hh,am 0 [5] (aD (aj R (aH true) gp) [5,13,14,15] [1000] s h)=some (.normal,⟨upd (fun _=>.any) 5 (I (G0 ((ds.take m).drop i) n)),hh⟩)∧hh 1000=bh ds cs p:=by
 intro k;induction k with
 | zero =>
  intro i hi n h0 hn s h g5 g13 g14 g15 k1000;have e1:((i:Int) < (m:Int))=False:=ff (by omega);rw [List.drop_eq_nil_of_le (by grind),ai];refine ⟨?hh0,?_,?_⟩;rotate_left
  ·simp only [gp,bh,go_sem,apE,g5,g13,g14,g15,k1000,e1];rfl
  ·rfl
 | succ k ih =>
  intro i hi n h0 hn s h g5 g13 g14 g15 k1000;have hlt2:i < (ds.take m).length:=by grind
  have e1:((i:Int) < (m:Int))=True:=tt (by omega);have e2:(bw ds)[i]?=some [I (ds.take m)[i]]:=by
   unfold bw;rw [List.getElem?_map,List.getElem_take,List.getElem?_eq_getElem (by omega)];rfl
  have e5:IntKind.i64.wrap ((i:Int)+1)=((i+1:Nat):Int):=wi (by omega) (by omega);rw [List.drop_eq_getElem_cons hlt2];have hd:=hb (ds.take m)[i] (List.mem_of_mem_take (List.getElem_mem hlt2));generalize (ds.take m)[i]=d at e2 hd ⊢;have e6:(0≤(i:Int))=True:=tt (by omega);have e3:IntKind.i64.wrap (d+1)=d+1:=i64_in _ ⟨by omega,by omega⟩;have hn2:n*(d+1)*33 ^ k≤n*33 ^ (k+1):=by
   rw [Int.pow_succ,Int.mul_comm _ 33,← Int.mul_assoc];exact Int.mul_le_mul_of_nonneg_right (Int.mul_le_mul_of_nonneg_left (by omega) h0) (Int.pow_nonneg (by decide))
  have hp1:(1:Int)≤33 ^ k:=by
   have:=Int.pow_pos (n:=33) (m:=k) (by decide);omega
  have hn0:0≤n*(d+1):=Int.mul_nonneg h0 (by omega);have hn3:n*(d+1)≤10000000000000:=by
   have:=Int.mul_le_mul_of_nonneg_left hp1 hn0;omega
  have e4:IntKind.i64.wrap (n*(d+1))=n*(d+1):=i64_in _ ⟨by omega,by omega⟩;have ih':=ih (i+1) (by omega) (n*(d+1)) hn0 (by omega);rw [ai];simp only [bh] at k1000;simp only [gp,go_sem,apE,g5,g13,g14,g15,k1000,e1,e2,e3,e4,e5,e6,Int.toNat_natCast,Nat.zero_add,l8,su];exact ih' _ _ rfl rfl rfl rfl rfl
theorem agw {ds:List Int} {cs:List Ri} {p:Int} {m:Nat} (hm:m≤ds.length) (h8:m≤8) (hb:∀ d ∈ ds,0≤d∧d≤32) (s:af) (h:ac) (X:Option (Ex × St)) (hX:am 0 [5] (aD (aj R (aH true) gp) [5,13,14,15] [1000] s h)=X) (g5:s 5=I 1) (g13:s 13=.rsl 1000 (some 0) 1 0 m) (g14:s 14=I m) (g15:s 15=I 0) (k1000:h 1000=bh ds cs p) :
  ∃ hh,X=some (.normal,⟨upd (fun _=>.any) 5 (I (G0 (ds.take m) 1)),hh⟩)∧hh 1000=bh ds cs p:=by
 subst hX;exact Z8 hm (by omega) hb m 0 (Nat.zero_add _) 1 (by decide) (by
  have:(33:Int) ^ m≤33 ^ 8:=by
   have h1:33 ^ m≤33 ^ 8:=Nat.pow_le_pow_right (by decide) h8;grind
  omega) s h g5 g13 g14 g15 k1000
theorem xu (ds:List Int):(bw ds).length=ds.length:=by simp [bw]
theorem acn {ds:List Int} {cs:List Ri} {p:Int} {m:Nat} (hm:m≤ds.length) (h8:m≤8) (hb:∀ d ∈ ds,0≤d∧d≤32):R F.bound_grid_step [.ref 1000 none 0 0 0,I m] [bh ds cs p]=some (I (G0 (ds.take m) 1),[bh ds cs p]):=by
 refine PH Fk Fj (tv false) rfl ?_;have hl:=agw (ds:=ds) (cs:=cs) (p:=p) hm h8 hb;have e1:gh 1 (.rsl 1000 (some 0) 1 0 ds.length) none (some (I (m:Int))) none=some (.rsl 1000 (some 0) 1 0 m):=by
  grind [gh,nO,lB]
 simp only [o7,wG,go_sem,apB,apA,bh,xu,e1];generalize hX:am 0 [5] _=X;obtain ⟨hh,rfl,q⟩:=hl _ _ _ hX rfl rfl rfl rfl rfl;exact Vj rfl q rfl (by rfl) (by rfl)
def CE (c1 c2:ef):Prop:=∀ f a hs r,c1 f a hs=some r→c2 f a hs=some r
section
variable {c1 c2:ef} {md:Mode}
theorem RP (hc:CE c1 c2) {h:ac} {d:Nat} {zas:List AV} {f:AV} {r:R3} (hz:eP c1 md h d zas f=some r):eP c2 md h d zas f=some r:=by
 cases f <;> simp only [eP] at hz ⊢ <;> try (cases hz; done)
 simp only [Option.bind_eq_some_iff] at hz ⊢;obtain ⟨p,e1,e2⟩:=hz;unfold mj at e2 ⊢;split at e2
 ·rename_i hcc;simp only [Option.bind_eq_some_iff] at e2;obtain ⟨q,e3,e4⟩:=e2;refine ⟨p,e1,?_⟩;rw [if_pos hcc];simp only [Option.bind_eq_some_iff];exact ⟨q,hc _ _ _ _ e3,e4⟩
 ·cases e2
theorem Iy (hc:CE c1 c2) {h:ac} {d:Nat} {zas:List AV} {f:AV} {r:R3} (hz:bI c1 md h d zas f=some r):bI c2 md h d zas f=some r:=by
 unfold bI at hz ⊢;split at hz
 ·rename_i hb;rw [if_pos hb];cases f <;> simp only [MN] at hz ⊢ <;> try (cases hz; done)
  simp only [Option.bind_eq_some_iff] at hz ⊢;obtain ⟨p,e1,q,e3,e4⟩:=hz;exact ⟨p,e1,q,hc _ _ _ _ e3,e4⟩
 ·rename_i hb;rw [if_neg hb];exact RP hc hz
theorem LP (hc:CE c1 c2) {d:Nat} {op:AOp} {s:af} {h:ac} {r:R3} (hz:step c1 md d op s h=some r):step c2 md d op s h=some r:=by
 cases op with
 | call f zas=>exact Iy hc hz
 | callC f zas =>
  simp only [step,Option.bind_eq_some_iff] at hz ⊢;obtain ⟨q,e1,e2⟩:=hz;exact ⟨q,Iy hc e1,e2⟩
 | _=>exact hz
theorem LQ (hc:CE c1 c2) {d:Option Nat} {op:AOp} {s:af} {h:ac} {t:St} (hz:cC md.nm s d (step c1 md (d.getD 0) op s h)=some t):cC md.nm s d (step c2 md (d.getD 0) op s h)=some t:=by
 cases hs:step c1 md (d.getD 0) op s h with
 | none=>rw [hs] at hz; cases hz
 | some r =>
  rw [hs] at hz;rw [LP hc hs];exact hz
theorem Vk (hc:CE c1 c2) {o:COp} {s:af} {h:ac} {t:St} (hz:iZ c1 md o s h=some t):iZ c2 md o s h=some t:=by
 unfold iZ at hz ⊢;cases hg:o.g with
 | none=>rw [hg] at hz; exact LQ hc hz
 | some g =>
  rw [hg] at hz;simp only at hz ⊢;unfold iC at hz ⊢;split at hz
  ·split at hz
   ·rename_i hb;simp only [if_pos hb];exact LQ hc hz
   ·rename_i hb;simp only [if_neg hb];exact hz
  ·exact hz
  ·cases hz
theorem yG (hc:CE c1 c2):∀ {l:List COp} {s:af} {h:ac} {t:St},aC c1 md l s h=some t→aC c2 md l s h=some t
 | [],s,h,t,hz=>hz
 | o::l,s,h,t,hz=>by
  simp only [aC,aT] at hz;split at hz
  ·cases hz
  ·rename_i t1 ht1;simp only [aC,aT,Vk hc ht1,yG hc hz]
theorem Iz (hc:CE c1 c2) {d:Option Nat} {op:AOp} {s:af} {h:ac} {f:ac→Fp} {t:St × Fp} (hz:jS s d f (step c1 md (d.getD 0) op s h)=some t):jS s d f (step c2 md (d.getD 0) op s h)=some t:=by
 cases hs:step c1 md (d.getD 0) op s h with
 | none=>rw [hs] at hz; cases hz
 | some r =>
  rw [hs] at hz;rw [LP hc hs];exact hz
theorem Vl (hc:CE c1 c2) {o:COp} {s:af} {h:ac} {t:St × Fp} (hz:df c1 md o s h=some t):df c2 md o s h=some t:=by
 unfold df at hz ⊢;cases hg:o.g with
 | none=>rw [hg] at hz; exact Iz hc hz
 | some g =>
  rw [hg] at hz;simp only at hz ⊢;unfold mo at hz ⊢;split at hz
  ·split at hz
   ·rename_i hb;simp only [if_pos hb];exact Iz hc hz
   ·rename_i hb;simp only [if_neg hb];exact hz
  ·exact hz
  ·cases hz
theorem DZ (hc:CE c1 c2):∀ {l:List COp} {s:af} {h:ac} {t:St × List Fp},fF c1 md l s h=some t→fF c2 md l s h=some t
 | [],s,h,t,hz=>hz
 | o::l,s,h,t,hz=>by
  simp only [fF,Option.bind_eq_some_iff] at hz;obtain ⟨r,e1,q,e2,e3⟩:=hz;simp only [fF,Vl hc e1,DZ hc e2,Option.bind_some,e3]
theorem Vm (hc:CE c1 c2) {l:List COp} {ps:List (Nat × Nat)} {s:af} {h:ac} {t:St} (hz:mq c1 md l ps s h=some t):mq c2 md l ps s h=some t:=by
 unfold mq at hz ⊢;cases hb:uZ ps with
 | none =>
  rw [hb] at hz;simp only [vD,Option.bind_eq_some_iff] at hz;obtain ⟨q,e1,e2⟩:=hz;simp only [vD,DZ hc e1,Option.bind_some,e2]
 | some b =>
  rw [hb] at hz;simp only [Bl,Option.bind_eq_some_iff] at hz;obtain ⟨q,e1,e2⟩:=hz;split at e2
  ·rename_i hps;simp only [aT] at e2;split at e2
   ·cases e2
   ·rename_i t1 ht1;simp only [Bl,DZ hc e1,Option.bind_some,if_pos hps,ht1,aT,yG hc e2]
  ·cases e2
theorem D0 {b1 b2:af→ac→Option (Ex × St)} {ks hs:List Nat} (ih:∀ {s:af} {h:ac} {r:Ex × St},b1 s h=some r→b2 s h=some r) :
  ∀ (m:Nat) {j:Nat},m≤j→∀ {s:af} {h:ac} {r:Ex × St},nR b1 ks hs m s h=some r→nR b2 ks hs j s h=some r
 | 0,j,hj,s,h,r,hz=>by simp [nR] at hz
 | m+1,j,hj,s,h,r,hz=>by
  obtain ⟨j,rfl⟩:∃ j',j=j'+1:=⟨j - 1,by omega⟩;simp only [nR] at hz ⊢;split at hz
  ·rename_i hc;rw [if_pos hc];cases hb:b1 (mk .any (fun i=>eN hs (s i)) ks) (mk .dead h hs) with
   | none=>rw [hb] at hz; cases hz
   | some q =>
    rw [hb] at hz;rw [ih hb];obtain ⟨ex,t⟩:=q;cases ex with
    | normal=>exact D0 ih m (by omega) hz
    | exit id=>exact hz
    | ret=>exact hz
  ·cases hz
theorem gI (hc:CE c1 c2) {lf lf':Nat} (hl:lf≤lf'):∀ (c:Cmd) {s:af} {h:ac} {r:Ex × St},bF c1 md lf c s h=some r→bF c2 md lf' c s h=some r
 | .skip,s,h,r,hz=>hz
 | .ops ks l,s,h,r,hz=>by
  simp only [bF,aT] at hz;split at hz
  ·cases hz
  ·rename_i t1 ht1;simp only [bF,yG hc ht1,aT];exact hz
 | .dops ks l ps,s,h,r,hz=>by
  simp only [bF,aT] at hz;split at hz
  ·cases hz
  ·rename_i t1 ht1;simp only [bF,Vm hc ht1,aT];exact hz
 | .seq a b,s,h,r,hz=>by
  simp only [bF,bL] at hz;split at hz
  ·cases hz
  ·rename_i t1 ht1;simp only [bF,bL,gI hc hl a ht1,gI hc hl b hz]
  ·rename_i i t1 ht1;simp only [bF,bL,gI hc hl a ht1];exact hz
  ·rename_i t1 ht1;simp only [bF,bL,gI hc hl a ht1];exact hz
 | .cond c a b,s,h,r,hz=>by
  simp only [bF,mr] at hz;split at hz
  ·rename_i t ht;cases t with
   | true=>simp only [bF,mr,ht,if_true]; exact gI hc hl a hz
   | false=>simp only [bF,mr,ht,Bool.false_eq_true,if_false]; exact gI hc hl b hz
  ·cases hz
 | .block id ks a,s,h,r,hz=>by
  simp only [bF,am] at hz;split at hz
  ·cases hz
  ·rename_i t1 ht1;simp only [bF,am,gI hc hl a ht1];exact hz
  ·rename_i i t1 ht1;simp only [bF,am,gI hc hl a ht1];exact hz
  ·rename_i t1 ht1;simp only [bF,am,gI hc hl a ht1];exact hz
 | .loop ks hs a,s,h,r,hz=>by
  simp only [bF] at hz ⊢;exact D0 (fun hh=>gI hc hl a hh) lf hl hz
 | .exit id,s,h,r,hz=>hz
 | .ret,s,h,r,hz=>hz
 | .frz is a,s,h,r,hz=>by
  simp only [bF,aT] at hz;split at hz
  ·cases hz
  ·rename_i t1 ht1;simp only [bF,aT,ht1];exact gI hc hl a hz
end
theorem aei:Option.any aW (some AV.emp)=false:=rfl
theorem aej {h:ac} {id id2 k n:Nat} {rows:List (List AV)} {a:AV} {z:Int} (h1:h id2=.ar k rows) (hn:n=rows.length) (h2:h id=.bx [.any,.any,.any]) (hne:id ≠ id2) :
  F7 id 0 [.rsl id2 none k 0 n,.emp,I z] (a,h,[])=some (a,upd (upd (upd (upd h id2 .dead) id (.bx [.osl k rows,.any,.any])) id (.bx [.osl k rows,.emp,.any])) id (.bx [.osl k rows,.emp,I z]),[(id2,false)]):=by
 have h3:upd h id2 .dead id=.bx [.any,.any,.any]:=by
  simp_all [upd,if_neg]
 have e1:∀ (g:ac) o,upd g id o id=o:=fun g o=>by simp_all [upd,if_pos]
 have k1:∀ K,nY K .emp=.emp:=fun K=>rfl;have k2:∀ K,nY K (I z)=I z:=fun K=>rfl
 simp_all [aW,aB,I,F7,mU,Ch,K3,F6,wN]
def xg:List Int→Int→Option Int
 | [],n=>some n
 | d::l,n=>if 400 < n*(d+1) then none else xg l (n*(d+1))
def Gr2 (blk:Option (Ex × St)) (o2 g:Ob):Option Int→Prop
 | some n=>∃ hh,blk=some (.normal,⟨upd (upd (upd (fun _=>.any) 11 (I n)) 6 (.ref 24 none 0 0 0)) 2 (.ref 2 none 0 0 0),hh⟩)∧hh 2=o2∧hh 24=g∧(∀ a,a ≠ 2→a ≠ 24→hh a=.dead)
 | none=>∃ hh,blk=some (.ret,⟨upd (upd (fun _=>.any) 5 (B false)) 4 (.v (.pointer none)),hh⟩)
theorem Z9 {ds:List Int} {p:Int} {m:Nat} (hm:m=ds.length) (h8:m≤1000) (hb:∀ d ∈ ds,0≤d∧d≤32) {o2:Ob} (c2:∀ l,aO l o2=true) :
  ∀ (k i:Nat),i+k=m→∀ (n:Int),0≤n→n≤400→∀ (s:af) (h:ac),s 2=.ref 2 none 0 0 0→s 6=.ref 24 none 0 0 0→s 11=I n→s 60=.rsl 24 (some 0) 1 0 m→s 61=I m→s 62=I i→h 2=o2→h 21=.dead→h 24=.bx [.osl 1 (bw ds),.emp,I p]→h 2624=.dead →
  Gr2 (am 4 [2,6,11] (aD (aj R (aH false) eZ) [2,6,11,60,61,62] [2,21,24,2624] s h)) o2 (.bx [.osl 1 (bw ds),.emp,I p]) (xg (ds.drop i) n):=by
 intro k;induction k with
 | zero =>
  intro i hi n h0 hn s h g2 g6 g11 g60 g61 g62 k2 k21 k24 k2624;have e1:((i:Int) < (m:Int))=False:=ff (by omega);have hc:=c2 [2,21,24,2624];rw [List.drop_eq_nil_of_le (by omega),ai];refine ⟨?hh0,?_,?_,?_,?_⟩;rotate_left
  ·simp only [eZ,go_sem,apE,g2,g6,g11,g60,g61,g62,k2,k21,k24,k2624,hc,e1];rfl
  all_goals simp_all [ed,if_false,ite_self]
 | succ k ih =>
  intro i hi n h0 hn s h g2 g6 g11 g60 g61 g62 k2 k21 k24 k2624;have hlt:i < ds.length:=by omega
  have e1:((i:Int) < (m:Int))=True:=tt (by omega);have e2:(bw ds)[i]?=some [I ds[i]]:=by
   grind [bw]
  have e5:IntKind.i64.wrap ((i:Int)+1)=((i+1:Nat):Int):=wi (by omega) (by omega);have hc:=c2 [2,21,24,2624];rw [List.drop_eq_getElem_cons hlt];have hd:=hb ds[i] (List.getElem_mem hlt);generalize ds[i]=d at e2 hd ⊢;have e6:(0≤(i:Int))=True:=tt (by omega);have e3:IntKind.i64.wrap (d+1)=d+1:=i64_in _ ⟨by omega,by omega⟩;have hn0:0≤n*(d+1):=Int.mul_nonneg h0 (by omega);have hn3:n*(d+1)≤400*33:=Int.mul_le_mul hn (by omega) (by omega) (by decide);have e4:IntKind.i64.wrap (n*(d+1))=n*(d+1):=i64_in _ ⟨by omega,by omega⟩;have ih':=ih (i+1) (by omega) (n*(d+1)) hn0;have hrow:xg (d::ds.drop (i+1)) n=if 400 < n*(d+1) then none else xg (ds.drop (i+1)) (n*(d+1)):=rfl
  rw [hrow,ai];by_cases hq:400 < n*(d+1)
  ·have e7:(400 < n*(d+1))=True:=eq_true hq;rw [if_pos hq];refine ⟨?hh1,?_⟩;rotate_left
   ·simp only [eZ,go_sem,apE,g2,g6,g11,g60,g61,g62,k2,k21,k24,k2624,hc,e1,e2,e3,e4,e6,e7,Int.toNat_natCast,Nat.zero_add,l8,su];rfl
  ·have e7:(400 < n*(d+1))=False:=eq_false hq;simp only [eZ,go_sem,apE,g2,g6,g11,g60,g61,g62,k2,k21,k24,k2624,hc,e1,e2,e3,e4,e5,e6,e7,Int.toNat_natCast,Nat.zero_add,l8,su];refine ih' (by omega) _ _ ?_ ?_ ?_ ?_ ?_ ?_ ?_ ?_ ?_ ?_
   all_goals first | rfl | assumption
theorem agx {ds:List Int} {p:Int} {m:Nat} (hm:m=ds.length) (h8:m≤1000) (hb:∀ d ∈ ds,0≤d∧d≤32) {o2:Ob} (c2:∀ l,aO l o2=true) (s:af) (h:ac) (X:Option (Ex × St)) (hX:am 4 [2,6,11] (aD (aj R (aH false) eZ) [2,6,11,60,61,62] [2,21,24,2624] s h)=X) (g2:s 2=.ref 2 none 0 0 0) (g6:s 6=.ref 24 none 0 0 0) (g11:s 11=I 1) (g60:s 60=.rsl 24 (some 0) 1 0 m) (g61:s 61=I m) (g62:s 62=I 0) (k2:h 2=o2) (k21:h 21=.dead) (k24:h 24=.bx [.osl 1 (bw ds),.emp,I p]) (k2624:h 2624=.dead) :
  Gr2 X o2 (.bx [.osl 1 (bw ds),.emp,I p]) (xg ds 1):=by
 subst hX;exact Z9 hm h8 hb c2 m 0 (Nat.zero_add _) 1 (by decide) (by decide) s h g2 g6 g11 g60 g61 g62 k2 k21 k24 k2624
theorem aco (h:ac) (i:Nat) (xs:List AV) (a b:AV) (r:List (List AV)):Bk h 1 24 0 1 i 0 xs [] (.bx [.osl 1 r,a,b])=(nQ 1 1 i 0 xs 1 r).map fun q=>(.und,upd h 24 (.bx [.osl 1 q,a,b]),[]):=rfl
theorem D3 {f:FuncId} {h:ac} {d id:Nat} {zas as':List AV} {o o':Ob} {res:AV} (hm:(aH false).m f=[]) (hk:(aH false).keep f=true) (hn:bv ((aH false).sh f) (.ref id none 0 0 0::zas)=.ref id none 0 0 0::as') (hd:zas.all dat=true) (hd':as'.all dat=true)
  (hh:h id=o) (ho:OC o) (ho':OC o') (hb:bf o=true→bf o'=true) (hR:R f (.ref 1000 none 0 0 0::as') [o]=some (res,[o'])) (hr:RT res) (h8:cP res≤8) (hfr:dK h (2000+8*d) (cP res)=true) :
  bI R (aH false) h d (.ref id none 0 0 0::zas) (.fn f [] [])=some (res,upd h id o',[]):=by
 have h1:cr h [] (.ref id none 0 0 0::zas)=some (.ref id none 0 0 0::zas,h,[]):=by
  simp only [cr,de,Option.bind_some,List.tail_nil,E3 h hd,List.append_nil]
 have hp:bV [] ((AV.ref id none 0 0 0::zas).flatMap cj)=[id]:=by
  rw [List.flatMap_cons,GZ fun x hx=>S7 (List.all_eq_true.1 hd x hx)];rfl
 have hre:cq h 40 [id] 0=[id]:=by
  simp [cq,hh,ho.ids,bV]
 have h3:bq [id] id=1000:=by simp [bq]
 have hall:(AV.ref id none 0 0 0::as').all (aZ [id])=true:=by
  grind [aZ,bm,X1]
 have hmap:(AV.ref id none 0 0 0::as').map (ey (bq [id]))=.ref 1000 none 0 0 0::as':=by
  rw [List.map_cons,(List.map_congr_left (g:=fun c=>c) fun x hx=>S8 (List.all_eq_true.1 hd' x hx) _).trans (List.map_id' as')];grind [ey,lD]
 have hob:([id].map fun a=>dp (bq [id]) (h a))=[o]:=by simp [hh,ho.ren]
 have hids:([id].all fun a=>aO [id] (h a) && !cY (h a))=true:=by simp [hh,ho.cl,ho.nd]
 unfold bI;rw [if_neg (by grind [sy])];simp only [eP,hm,List.nil_append,List.append_nil,h1,Option.bind_some,hp,hre,hn];unfold mj;rw [hall,hids,hmap,hob,hR,Bool.and_self,if_pos rfl,Option.bind_some,hk,hm,uT];unfold gz;have hbf:fw h [] [id] [o']=true:=by
  have:=ho'.nd;grind [bf,fw]
 have hend:yO h [id] [] (res,[o'])=true:=by
  simp [yO,Nl,hr.ok,ho'.cl]
 rw [if_pos ⟨rfl,by simp,h8,hfr,hbf,hend⟩];simp [eM,ik,hr.mat,hr.ren,ho'.ren]
theorem bB (ds:List Int) (cs:List Ri) (p:Int):OC (bh ds cs p):=⟨fun _=>rfl,rfl,fun _=>rfl,rfl⟩
theorem akE (z:Int):RT (I z):=⟨fun _=>rfl,fun _ _=>rfl,fun _=>rfl⟩
theorem D4 {ds:List Int} {cs:List Ri} {p:Int} {m:Nat} (hm:m≤ds.length) (h8:m≤8) (hb:∀ d ∈ ds,0≤d∧d≤32) {h:ac} {d id:Nat} (hh:h id=bh ds cs p) (hd:h (2000+8*d)=.dead) :
  bI R (aH false) h d [.ref id none 0 0 0,I m] (.fn F.bound_grid_step [] [])=some (I (G0 (ds.take m) 1),upd h id (bh ds cs p),[]) :=
 D3 (iY false) (tv false) (as':=[I m]) (by simp only [go_sem]) rfl rfl hh (bB _ _ _) (bB _ _ _) (fun _=>rfl) (acn hm h8 hb) (akE _) (Nat.le_of_ble_eq_true rfl) (by grind [dK,cP,cY])
theorem sv (a b:AV) (k:Nat) (r:List (List AV)):jl 1 (.bx [a,.osl k r,b])=some (k,r):=rfl
theorem agy {f:FuncId} {fd:FD} {args:List AV} {os:List Ob} {r:AV × List Ob} (hE:dv.E f=none) (hC:dv.C f=some fd) (hk:dv.md.keep f=false) (h1:args.length=fd.np) (h2:os.length≤1000)
  (hz:gM false fd.rs fd.res os.length (aj R (aH false) fd.body (oO args) (ao os))=some r):R f args os=some r :=
 HU false hE hC hk h1 h2 hz
theorem PJ (a b c d e:Ob):ao [a,b,c,d,e]=upd (upd (upd (upd (upd (fun _=>.dead) 1004 e) 1003 d) 1002 c) 1001 b) 1000 a:=by
 funext i;unfold ao upd;by_cases h0:i=1000
 ·simp_all
 by_cases h1:i=1001
 ·simp_all
 by_cases h2:i=1002
 ·simp_all
 by_cases h3:i=1003
 ·simp_all
 by_cases h4:i=1004
 ·simp_all
 simp only [h0,h1,h2,h3,h4,if_false];by_cases h5:1000≤i
 ·rw [if_pos h5,List.getElem?_eq_none (by simp; omega)]; rfl
 grind
theorem PK (a b c:Ob):ao [a,b,c]=upd (upd (upd (fun _=>.dead) 1002 c) 1001 b) 1000 a:=by
 funext i;unfold ao upd;by_cases h0:i=1000
 ·simp_all
 by_cases h1:i=1001
 ·simp_all
 by_cases h2:i=1002
 ·simp_all
 simp only [h0,h1,h2,if_false];by_cases h5:1000≤i
 ·rw [if_pos h5,List.getElem?_eq_none (by grind)]; rfl
 grind
def dX (x:Ri):Ob:=.bx [B x.lo.neg,lm x.lo.m,I x.lo.e,B x.hi.neg,lm x.hi.m,I x.hi.e,B x.all]
theorem eu (x:Ri):OC (dX x):=⟨fun _=>rfl,rfl,fun _=>rfl,rfl⟩
theorem Vn {l st n:Int} {lo w:Ri} {ds:List Int} {cs cs':List Ri} {p:Int} (hR:R F.bound_grid_unit_1 [I l,I st,.ref 1000 none 0 0 0,.ref 1001 none 0 0 0,.ref 1002 none 0 0 0,.ref 1003 none 0 0 0] [.bx [I n],.bx [.ref 1004 none 0 0 0],dX lo,dX w,bh ds cs p]=some (.tup [],[.bx [I n],.bx [.ref 1004 none 0 0 0],dX lo,dX w,bh ds cs' p])) {h:ac} {d:Nat} (h0:h 1000=bh ds cs p) (h1:h 1001=.bx [I n]) (h2:h 1002=.bx [.ref 1000 none 0 0 0]) (h3:h 1003=dX lo) (h4:h 1004=dX w) (hf:h (2000+8*d)=.dead) :
  bI R (aH false) h d [I l,I st] (.fn F.bound_grid_unit_1 [] [.ref 1001 none 0 0 0,.ref 1002 none 0 0 0,.ref 1003 none 0 0 0,.ref 1004 none 0 0 0])=some (.tup [],upd (upd (upd (upd (upd h 1001 (.bx [I n])) 1002 (.bx [.ref 1000 none 0 0 0])) 1003 (dX lo)) 1004 (dX w)) 1000 (bh ds cs' p),[(1001,true),(1002,true),(1003,true),(1004,true),(1000,true)]):=by
 have hre:cq h 40 [1001,1002,1003,1004] 0=[1001,1002,1003,1004,1000]:=by
  have i0:mh (bh ds cs p)=[]:=(bB ds cs p).ids;have i1:mh (.bx [I n])=[]:=rfl;have i2:mh (.bx [.ref 1000 none 0 0 0])=[1000]:=rfl;have i3:mh (dX lo)=[]:=(eu lo).ids;have i4:mh (dX w)=[]:=(eu w).ids
  simp_all [cq,bV]
 unfold bI;rw [if_neg (by simp [sy,db.1.2.1])];have hin:cr h [] [I l,I st,.ref 1001 none 0 0 0,.ref 1002 none 0 0 0,.ref 1003 none 0 0 0,.ref 1004 none 0 0 0]=some ([I l,I st,.ref 1001 none 0 0 0,.ref 1002 none 0 0 0,.ref 1003 none 0 0 0,.ref 1004 none 0 0 0],h,[]):=rfl;have hids:bV [] ([I l,I st,AV.ref 1001 none 0 0 0,.ref 1002 none 0 0 0,.ref 1003 none 0 0 0,.ref 1004 none 0 0 0].flatMap cj)=[1001,1002,1003,1004]:=rfl;simp only [eP,db.1.2.1,List.nil_append,List.cons_append,hin,Option.bind_some,hids,hre,db.1.1];have hn:bv [] [I l,I st,AV.ref 1001 none 0 0 0,.ref 1002 none 0 0 0,.ref 1003 none 0 0 0,.ref 1004 none 0 0 0]=[I l,I st,AV.ref 1001 none 0 0 0,.ref 1002 none 0 0 0,.ref 1003 none 0 0 0,.ref 1004 none 0 0 0]:=rfl;rw [hn];unfold mj;have hob:([1001,1002,1003,1004,1000].map fun a=>dp (bq [1001,1002,1003,1004,1000]) (h a))=[.bx [I n],.bx [.ref 1004 none 0 0 0],dX lo,dX w,bh ds cs p]:=by
  simp only [List.map,h0,h1,h2,h3,h4];rfl
 have hcl:([1001,1002,1003,1004,1000].all fun a=>aO [1001,1002,1003,1004,1000] (h a) && !cY (h a))=true:=by
  simp only [List.all_cons,List.all_nil,h0,h1,h2,h3,h4];rfl
 rw [hob,hcl,if_pos (by rfl)];rw [show [I l,I st,AV.ref 1001 none 0 0 0,.ref 1002 none 0 0 0,.ref 1003 none 0 0 0,.ref 1004 none 0 0 0].map (ey (bq [1001,1002,1003,1004,1000]))=[I l,I st,.ref 1000 none 0 0 0,.ref 1001 none 0 0 0,.ref 1002 none 0 0 0,.ref 1003 none 0 0 0] from rfl,hR,Option.bind_some,db.1.2.2.2,db.1.2.1,uT];unfold gz;rw [if_pos ⟨rfl,Nat.le_of_ble_eq_true rfl,Nat.le_of_ble_eq_true rfl,by simp [dK,cP],by grind [fw,dX,bh,bf,cY],rfl⟩];rfl
theorem Vo {l st n:Int} {ds:List Int} {cs cs':List Ri} {p:Int} (hR:R F.bound_grid_bernstein_1 [I l,I st,.ref 1000 none 0 0 0,.ref 1001 none 0 0 0] [.bx [I n],.bx [.ref 1002 none 0 0 0],bh ds cs p]=some (.tup [],[.bx [I n],.bx [.ref 1002 none 0 0 0],bh ds cs' p])) {h:ac} {d:Nat} (h0:h 1000=bh ds cs p) (h1:h 1001=.bx [I n]) (h2:h 1002=.bx [.ref 1000 none 0 0 0]) (hf:h (2000+8*d)=.dead) :
  bI R (aH false) h d [I l,I st] (.fn F.bound_grid_bernstein_1 [] [.ref 1001 none 0 0 0,.ref 1002 none 0 0 0])=some (.tup [],upd (upd (upd h 1001 (.bx [I n])) 1002 (.bx [.ref 1000 none 0 0 0])) 1000 (bh ds cs' p),[(1001,true),(1002,true),(1000,true)]):=by
 have hre:cq h 40 [1001,1002] 0=[1001,1002,1000]:=by
  have i0:mh (bh ds cs p)=[]:=(bB ds cs p).ids;have i1:mh (.bx [I n])=[]:=rfl;have i2:mh (.bx [.ref 1000 none 0 0 0])=[1000]:=rfl
  simp_all [cq,bV]
 unfold bI;rw [if_neg (by simp [sy,bX.1.2.1])];have hin:cr h [] [I l,I st,.ref 1001 none 0 0 0,.ref 1002 none 0 0 0]=some ([I l,I st,.ref 1001 none 0 0 0,.ref 1002 none 0 0 0],h,[]):=rfl;have hids:bV [] ([I l,I st,AV.ref 1001 none 0 0 0,.ref 1002 none 0 0 0].flatMap cj)=[1001,1002]:=rfl;simp only [eP,bX.1.2.1,List.nil_append,List.cons_append,hin,Option.bind_some,hids,hre,bX.1.1];have hn:bv [] [I l,I st,AV.ref 1001 none 0 0 0,.ref 1002 none 0 0 0]=[I l,I st,AV.ref 1001 none 0 0 0,.ref 1002 none 0 0 0]:=rfl;rw [hn];unfold mj;have hob:([1001,1002,1000].map fun a=>dp (bq [1001,1002,1000]) (h a))=[.bx [I n],.bx [.ref 1002 none 0 0 0],bh ds cs p]:=by
  simp only [List.map,h0,h1,h2];rfl
 have hcl:([1001,1002,1000].all fun a=>aO [1001,1002,1000] (h a) && !cY (h a))=true:=by
  simp only [List.all_cons,List.all_nil,h0,h1,h2];rfl
 rw [hob,hcl,if_pos (by rfl)];rw [show [I l,I st,AV.ref 1001 none 0 0 0,.ref 1002 none 0 0 0].map (ey (bq [1001,1002,1000]))=[I l,I st,.ref 1000 none 0 0 0,.ref 1001 none 0 0 0] from rfl,hR,Option.bind_some,bX.1.2.2.2,bX.1.2.1,uT];unfold gz;rw [if_pos ⟨rfl,Nat.le_of_ble_eq_true rfl,Nat.le_of_ble_eq_true rfl,by simp [dK,cP],by grind [fw,bh,bf,cY],rfl⟩];rfl
theorem PL {f:FuncId} {h:ac} {d:Nat} {zas as':List AV} {r:Option R3} (hm:(aH false).m f=[]) (hd:cr h [] zas=some (as',h,[])) (hc:bI R (aH false) h d zas (.fn f [] [])=r):BD R (aH false) d f (as',h,[])=r:=by
 grind [BE]
theorem IA {i:Nat} {m:Int} {lo w:Ri} {ds:List Int} {cs cs':List Ri} {p:Int} (hR:R F.bound_grid_lines [.ref 1000 none 0 0 0,I i,.fn F.bound_grid_unit_1 [] [.ref 1001 none 0 0 0,.ref 1002 none 0 0 0,.ref 1003 none 0 0 0,.ref 1004 none 0 0 0]] [bh ds cs p,.bx [I m],.bx [.ref 1000 none 0 0 0],dX lo,dX w]=some (.tup [],[bh ds cs' p,.bx [I m],.bx [.ref 1000 none 0 0 0],dX lo,dX w])) {h:ac} {d:Nat} (h0:h 1000=bh ds cs p) (h1:h 8=.bx [I m]) (h2:h 3=.bx [.ref 1000 none 0 0 0]) (h3:h 6=dX lo) (h4:h 7=dX w) (hf:h (2000+8*d)=.dead) :
  bI R (aH false) h d [.ref 1000 none 0 0 0,I i,.fn F.bound_grid_unit_1 [] [.ref 8 none 0 0 0,.ref 3 none 0 0 0,.ref 6 none 0 0 0,.ref 7 none 0 0 0]] (.fn F.bound_grid_lines [] [])=some (.tup [],upd (upd (upd (upd (upd h 1000 (bh ds cs' p)) 8 (.bx [I m])) 3 (.bx [.ref 1000 none 0 0 0])) 6 (dX lo)) 7 (dX w),[(1000,true),(8,true),(3,true),(6,true),(7,true)]):=by
 have hre:cq h 40 [1000,8,3,6,7] 0=[1000,8,3,6,7]:=by
  have i0:mh (bh ds cs p)=[]:=(bB _ _ p).ids;have i1:mh (.bx [I m])=[]:=rfl;have i2:mh (.bx [.ref 1000 none 0 0 0])=[1000]:=rfl;have i3:mh (dX lo)=[]:=(eu lo).ids;have i4:mh (dX w)=[]:=(eu w).ids
  simp_all [cq,bV]
 unfold bI;rw [if_neg (by simp [sy,bd.1.2.1])];have hin:cr h [] [.ref 1000 none 0 0 0,I i,.fn F.bound_grid_unit_1 [] [.ref 8 none 0 0 0,.ref 3 none 0 0 0,.ref 6 none 0 0 0,.ref 7 none 0 0 0]]=some ([.ref 1000 none 0 0 0,I i,.fn F.bound_grid_unit_1 [] [.ref 8 none 0 0 0,.ref 3 none 0 0 0,.ref 6 none 0 0 0,.ref 7 none 0 0 0]],h,[]):=rfl;have hids:bV [] ([AV.ref 1000 none 0 0 0,I i,.fn F.bound_grid_unit_1 [] [.ref 8 none 0 0 0,.ref 3 none 0 0 0,.ref 6 none 0 0 0,.ref 7 none 0 0 0]].flatMap cj)=[1000,8,3,6,7]:=rfl;simp only [eP,bd.1.2.1,List.nil_append,List.append_nil,hin,Option.bind_some,hids,hre,bd.1.1];have hn:bv [] [AV.ref 1000 none 0 0 0,I i,.fn F.bound_grid_unit_1 [] [.ref 8 none 0 0 0,.ref 3 none 0 0 0,.ref 6 none 0 0 0,.ref 7 none 0 0 0]]=[AV.ref 1000 none 0 0 0,I i,.fn F.bound_grid_unit_1 [] [.ref 8 none 0 0 0,.ref 3 none 0 0 0,.ref 6 none 0 0 0,.ref 7 none 0 0 0]]:=rfl;rw [hn];unfold mj;have hob:([1000,8,3,6,7].map fun a=>dp (bq [1000,8,3,6,7]) (h a))=[bh ds cs p,.bx [I m],.bx [.ref 1000 none 0 0 0],dX lo,dX w]:=by
  simp only [List.map,h0,h1,h2,h3,h4];rfl
 have hcl:([1000,8,3,6,7].all fun a=>aO [1000,8,3,6,7] (h a) && !cY (h a))=true:=by
  simp only [List.all_cons,List.all_nil,h0,h1,h2,h3,h4];rfl
 rw [hob,hcl,if_pos (by rfl)];rw [show [AV.ref 1000 none 0 0 0,I i,.fn F.bound_grid_unit_1 [] [.ref 8 none 0 0 0,.ref 3 none 0 0 0,.ref 6 none 0 0 0,.ref 7 none 0 0 0]].map (ey (bq [1000,8,3,6,7]))=[.ref 1000 none 0 0 0,I i,.fn F.bound_grid_unit_1 [] [.ref 1001 none 0 0 0,.ref 1002 none 0 0 0,.ref 1003 none 0 0 0,.ref 1004 none 0 0 0]] from rfl,hR,Option.bind_some,bd.1.2.2.2,bd.1.2.1,uT];unfold gz;rw [if_pos ⟨rfl,Nat.le_of_ble_eq_true rfl,Nat.le_of_ble_eq_true rfl,by simp [dK,cP],by grind [fw,dX,bh,bf,cY],rfl⟩];rfl
theorem IB {i:Nat} {m:Int} {ds:List Int} {cs cs':List Ri} {p:Int} (hR:R F.bound_grid_lines [.ref 1000 none 0 0 0,I i,.fn F.bound_grid_bernstein_1 [] [.ref 1001 none 0 0 0,.ref 1002 none 0 0 0]] [bh ds cs p,.bx [I m],.bx [.ref 1000 none 0 0 0]]=some (.tup [],[bh ds cs' p,.bx [I m],.bx [.ref 1000 none 0 0 0]])) {h:ac} {d:Nat} (h0:h 1000=bh ds cs p) (h1:h 4=.bx [I m]) (h2:h 2=.bx [.ref 1000 none 0 0 0]) (hf:h (2000+8*d)=.dead) :
  bI R (aH false) h d [.ref 1000 none 0 0 0,I i,.fn F.bound_grid_bernstein_1 [] [.ref 4 none 0 0 0,.ref 2 none 0 0 0]] (.fn F.bound_grid_lines [] [])=some (.tup [],upd (upd (upd h 1000 (bh ds cs' p)) 4 (.bx [I m])) 2 (.bx [.ref 1000 none 0 0 0]),[(1000,true),(4,true),(2,true)]):=by
 have hre:cq h 40 [1000,4,2] 0=[1000,4,2]:=by
  have i0:mh (bh ds cs p)=[]:=(bB _ _ p).ids;have i1:mh (.bx [I m])=[]:=rfl;have i2:mh (.bx [.ref 1000 none 0 0 0])=[1000]:=rfl
  simp_all [cq,bV]
 unfold bI;rw [if_neg (by simp [sy,bd.1.2.1])];have hin:cr h [] [.ref 1000 none 0 0 0,I i,.fn F.bound_grid_bernstein_1 [] [.ref 4 none 0 0 0,.ref 2 none 0 0 0]]=some ([.ref 1000 none 0 0 0,I i,.fn F.bound_grid_bernstein_1 [] [.ref 4 none 0 0 0,.ref 2 none 0 0 0]],h,[]):=rfl;have hids:bV [] ([AV.ref 1000 none 0 0 0,I i,.fn F.bound_grid_bernstein_1 [] [.ref 4 none 0 0 0,.ref 2 none 0 0 0]].flatMap cj)=[1000,4,2]:=rfl;simp only [eP,bd.1.2.1,List.nil_append,List.append_nil,hin,Option.bind_some,hids,hre,bd.1.1];have hn:bv [] [AV.ref 1000 none 0 0 0,I i,.fn F.bound_grid_bernstein_1 [] [.ref 4 none 0 0 0,.ref 2 none 0 0 0]]=[AV.ref 1000 none 0 0 0,I i,.fn F.bound_grid_bernstein_1 [] [.ref 4 none 0 0 0,.ref 2 none 0 0 0]]:=rfl;rw [hn];unfold mj;have hob:([1000,4,2].map fun a=>dp (bq [1000,4,2]) (h a))=[bh ds cs p,.bx [I m],.bx [.ref 1000 none 0 0 0]]:=by
  simp only [List.map,h0,h1,h2];rfl
 have hcl:([1000,4,2].all fun a=>aO [1000,4,2] (h a) && !cY (h a))=true:=by
  simp only [List.all_cons,List.all_nil,h0,h1,h2];rfl
 rw [hob,hcl,if_pos (by rfl)];rw [show [AV.ref 1000 none 0 0 0,I i,.fn F.bound_grid_bernstein_1 [] [.ref 4 none 0 0 0,.ref 2 none 0 0 0]].map (ey (bq [1000,4,2]))=[.ref 1000 none 0 0 0,I i,.fn F.bound_grid_bernstein_1 [] [.ref 1001 none 0 0 0,.ref 1002 none 0 0 0]] from rfl,hR,Option.bind_some,bd.1.2.2.2,bd.1.2.1,uT];unfold gz;rw [if_pos ⟨rfl,Nat.le_of_ble_eq_true rfl,Nat.le_of_ble_eq_true rfl,by simp [dK,cP],by grind [fw,bh,bf,cY],rfl⟩];rfl
theorem X5 {h:ac} {id id2:Nat} {cs:List AV} {a:AV} (h1:h id2=.bx cs) (h2:h id=.bx [.any]):F7 id 0 [.ref id2 none 0 0 0] (a,h,[])=some (a,upd h id (.bx [.ref id2 none 0 0 0]),[]):=by
 simp_all [aW,F7,mU,Ch,inP,F6,wN]
theorem Vp (h:ac) (d:Nat) (r q:List (List AV)) (p:Int) (b:Bool):kv h d (some (.tup [.obx [.osl 1 r,.osl 7 q,I p],B b],[]))=if cY (h (2000+8*d)) && cY (h (2000+8*d+1)) then some (.tup [.ref (2000+8*d) none 0 0 0,B b],upd h (2000+8*d) (.bx [.osl 1 r,.osl 7 q,I p]),[]) else none:=by
 simp [kv,cP,ki,gj,js,aB,aW,aZ,bm,dK,mat,bO,dq]
theorem xv (h:ac) (n:Nat) (g:Bool) (i j:Nat) (r:List (List AV)):lh h n g 7 i j (some (7,r))=(r[i]?).bind fun row=>(jR n g row j).map fun a=>(a,h,[]):=rfl
theorem acp {ds:List Int} {cs:List Ri} {p:Int} {x y:Ri} (ox:OkI x) (oy:OkI y):R F.bound_grid_add [.ref 1000 none 0 0 0,av x,av y] [bh ds cs p]=some (av (j3 x y p),[bh ds cs p]):=by
 refine PH Gt Gs (tT false) rfl ?_;have h:=Ka ox oy (p:=p);generalize j3 x y p=z at *
 simp only [av,az] at h;simp only [qB,xT,av,az,bh,go_sem,apB,apA,apC,h];exact Vj rfl rfl rfl (by rfl) (by simp only [go_sem])
theorem acq {ds:List Int} {cs:List Ri} {p:Int} {x y:Ri} (ox:OkI x) (oy:OkI y):R F.bound_grid_mul [.ref 1000 none 0 0 0,av x,av y] [bh ds cs p]=some (av (jM x y p),[bh ds cs p]):=by
 refine PH Gv Gu (tU false) rfl ?_;have h:=Kd ox oy (p:=p);generalize jM x y p=z at *
 simp only [av,az] at h;simp only [qC,xU,av,az,bh,go_sem,apB,apA,apC,h];exact Vj rfl rfl rfl (by rfl) (by simp only [go_sem])
theorem aaV (x:Ri):RT (av x):=⟨fun _=>rfl,fun _ _=>rfl,fun _=>rfl⟩
theorem LR {ds:List Int} {cs:List Ri} {p:Int} {x y:Ri} (ox:OkI x) (oy:OkI y) {h:ac} {d id:Nat} (hh:h id=bh ds cs p) (hd:h (2000+8*d)=.dead) :
  BD R (aH false) d F.bound_grid_add ([.ref id none 0 0 0,av x,av y],h,[])=some (av (j3 x y p),upd h id (bh ds cs p),[]) :=
 pA (rK false) rfl (D3 (rK false) (tT false) (as':=[av x,av y]) (by rw [Fl]; simp only [av,az,go_sem]) rfl rfl hh (bB _ _ _) (bB _ _ _) (fun _=>rfl) (acp ox oy) (aaV _) (Nat.le_of_ble_eq_true rfl) (by simp [dK,av,cP,hd,cY]))
theorem zG {ds:List Int} {cs:List Ri} {p:Int} {x y:Ri} (ox:OkI x) (oy:OkI y) {h:ac} {d id:Nat} (hh:h id=bh ds cs p) (hd:h (2000+8*d)=.dead) :
  BD R (aH false) d F.bound_grid_mul ([.ref id none 0 0 0,av x,av y],h,[])=some (av (jM x y p),upd h id (bh ds cs p),[]) :=
 pA (rL false) rfl (D3 (rL false) (tU false) (as':=[av x,av y]) (by rw [Fo]; simp only [av,az,go_sem]) rfl rfl hh (bB _ _ _) (bB _ _ _) (fun _=>rfl) (acq ox oy) (aaV _) (Nat.le_of_ble_eq_true rfl) (by simp [dK,av,cP,hd,cY]))
theorem E4 {α:Type} {f:α→List AV} (h:∀ x,tM (f x) (f x)=true):∀ l:List α,Ci (l.map f) (l.map f)=true
 | []=>rfl
 | a::l=>by simp only [List.map,Ci,h,E4 h l,Bool.true_and]
theorem agz (z:Int):tM [I z] [I z]=true:=by simp [tM,No,Nn]
theorem aek (x:Ri):tM (az x) (az x)=true:=by
 have h:∀ m:List Nat,Ci (ax m) (ax m)=true:=E4 fun x=>by simp [tM,No,Nn]
 simp [az,tM,No,Nn,lm,h]
theorem ael (ds:List Int) (cs:List Ri) (p:Int):Er (bh ds cs p) (bh ds cs p)=true:=by
 have h1:Ci (bw ds) (bw ds)=true:=E4 agz ds;have h2:Ci (aY cs) (aY cs)=true:=E4 aek cs;simp [bh,Er,tM,No,Nn,h1,h2]
theorem Vq {h h':ac} {d id:Nat} {ds:List Int} {cs:List Ri} {p:Int} {x y:Ri} (hi:id < 2000) (hh:h id=bh ds cs p) (hh':h' id=bh ds cs p):gk h d [.ref id none 0 0 0,av x,av y] h'=some ([id],[2000+8*d]):=by
 have hre:cq h 40 [id] 0=[id]:=by simp [cq,hh,(bB ds cs p).ids,bV]
 have hc:CM h h' [id]=[]:=by simp [CM,hh,hh',ael]
 show (if _ then _ else if _ then some ((cq h 40 [id] 0).map cJ,(CM h h' (cq h 40 [id] 0)).map cJ++[2000+8*d]) else none)=_;rw [hre,hc,if_neg (by simp [dat,aB]),if_pos (by rfl)];simp [cJ,hi]
def gw (N:Nat) (cs:List Ri) (g:G):Prop:=cs.length=N∧∀ k x,cs[k]?=some x→In (g k) x
theorem gw.get {N:Nat} {cs:List Ri} {g:G} (h:gw N cs g) {k:Nat} (hk:k < N):∃ x,cs[k]?=some x∧In (g k) x:=by
 have:k < cs.length:=by rw [h.1]; exact hk
 exact ⟨cs[k],List.getElem?_eq_getElem this,h.2 k _ (List.getElem?_eq_getElem this)⟩
theorem gw.set {N:Nat} {cs:List Ri} {g:G} (h:gw N cs g) {k:Nat} {x:Ri} {y:Rat} (hx:In y x):gw N (cs.set k x) (gs g k y):=by
 refine ⟨by rw [List.length_set]; exact h.1,fun j z hz=>?_⟩;rw [List.getElem?_set] at hz;unfold gs;by_cases hj:k=j
 ·subst hj;rw [if_pos rfl] at hz;rw [if_pos rfl];split at hz
  ·cases hz;exact hx
  ·exact nomatch hz
 ·rw [if_neg hj] at hz;rw [if_neg fun h=>hj h.symm];exact h.2 j z hz
def Ta (n:Nat) (lo w:Ri) (ds:List Int) (cs:List Ri) (p:Int) (h:ac):Prop:=h 1000=.bx [I n]∧h 1001=.bx [.ref 1004 none 0 0 0]∧h 1002=dX lo∧h 1003=dX w∧h 1004=bh ds cs p
theorem Bd (id:Nat) (h:ac) (i:Nat) (xs:List AV) (a b:AV) (r:List (List AV)):Bk h 7 id 1 7 i 0 xs [] (.bx [a,.osl 7 r,b])=(nQ 7 7 i 0 xs 7 r).map fun q=>(.und,upd h id (.bx [a,.osl 7 q,b]),[]):=rfl
theorem Be {cs:List Ri} {k:Nat} {u:Ri} (hk:k < cs.length):nQ 7 7 k 0 (az u) 7 (aY cs)=some (aY (cs.set k u)):=by
 have h1:(aY cs)[k]?=some (az cs[k]):=by unfold aY; rw [List.getElem?_map,List.getElem?_eq_getElem hk]; rfl
 unfold nQ;rw [if_pos rfl,h1];simp [setRow,az,aY,List.map_set]
attribute [-go_sem] vL in
theorem acr {ds:List Int} {p:Int} {N f st i n:Nat} {lo w:Ri} {l:Rat} (hl:In l lo) (hN:f+n*st < N) (hN4:N≤400) (hn:n≤400):∀ (k:Nat),i+k≤n→∀ (cs:List Ri) (g:G),gw N cs g→∀ (s:af) (h:ac) (X:Option (Ex × St)),am 2 [0,1,2,3,4,5,13,14] (aD (aj R (aH false) fH) [0,1,2,3,4,5,8,9,13,14] [1000,1001,1002,1003,1004] s h)=X →
  s 0=I f→s 1=I st→s 2=.ref 1000 none 0 0 0→s 3=.ref 1001 none 0 0 0→s 4=.ref 1002 none 0 0 0→s 5=.ref 1003 none 0 0 0→s 8=I i→s 9=I ((i:Int)+k - 1)→s 13=I n→s 14=I i→Ta n lo w ds cs p h →
  ∃ hh cs',X=some (.normal,⟨upd (upd (upd (upd (upd (upd (upd (upd (fun _=>.any) 14 (I i)) 13 (I n)) 5 (.ref 1003 none 0 0 0)) 4 (.ref 1002 none 0 0 0)) 3 (.ref 1001 none 0 0 0)) 2 (.ref 1000 none 0 0 0)) 1 (I st)) 0 (I f),hh⟩)∧Ta n lo w ds cs' p hh∧gw N cs' (F0 l (fun j=>f+j*st) i k g):=by
 intro k;induction k with
 | zero =>
  intro hk cs g he s h X hX g0 g1 g2 g3 g4 g5 g8 g9 g13 g14 ho;subst hX;obtain ⟨k0,k1,k2,k3,k4⟩:=ho;have e1:((i:Int)≤(i:Int)+((0:Nat):Int) - 1)=False:=eq_false (by omega);have hg:=(bB ds cs p).cl [1000,1001,1002,1003,1004];have hlo:=(eu lo).cl [1000,1001,1002,1003,1004];have hw:=(eu w).cl [1000,1001,1002,1003,1004];rw [ai];refine ⟨?hh0,cs,?_,?_,he⟩;rotate_left
  ·simp only [fH,go_sem,apE,g0,g1,g2,g3,g4,g5,g8,g9,g13,g14,k0,k1,k2,k3,k4,hg,hlo,hw,e1];rfl
  ·exact ⟨rfl,rfl,rfl,rfl,rfl⟩
 | succ k ih =>
  intro hk cs g he s h X hX g0 g1 g2 g3 g4 g5 g8 g9 g13 g14 ho;subst hX;obtain ⟨k0,k1,k2,k3,k4⟩:=ho;have hm1:(i+k)*st≤n*st:=Nat.mul_le_mul_right _ (by omega);have hm2:(i+k+1)*st≤n*st:=Nat.mul_le_mul_right _ (by omega);have hs2:(i+k+1)*st=(i+k)*st+st:=by rw [Nat.add_mul,Nat.one_mul]
  have e1:((i:Int)≤(i:Int)+((k+1:Nat):Int) - 1)=True:=eq_true (by omega);have w1:IntKind.i64.wrap (((i:Int)+((k+1:Nat):Int) - 1)*st)=(((i+k)*st:Nat):Int):=by
   rw [show ((i:Int)+((k+1:Nat):Int) - 1)=((i+k:Nat):Int) by omega,← Int.natCast_mul];exact i64_in _ ⟨by omega,by omega⟩
  have w2:IntKind.i64.wrap ((f:Int)+(((i+k)*st:Nat):Int))=((f+(i+k)*st:Nat):Int):=wi (by omega) (by omega);have w3:IntKind.i64.wrap (((f+(i+k)*st:Nat):Int)+(st:Int))=((f+(i+k+1)*st:Nat):Int):=wi (by omega) (by omega);have w4:IntKind.i64.wrap ((i:Int)+((k+1:Nat):Int) - 1 - 1)=(i:Int)+(k:Int) - 1:=by rw [i64_in _ ⟨by omega,by omega⟩]; omega
  obtain ⟨x,x1,x2⟩:=he.get (k:=f+(i+k)*st) (by omega);obtain ⟨y,y1,y2⟩:=he.get (k:=f+(i+k+1)*st) (by omega);have hg:=(bB ds cs p).cl [1000,1001,1002,1003,1004];have hlo:=(eu lo).cl [1000,1001,1002,1003,1004];have hw:=(eu w).cl [1000,1001,1002,1003,1004];have cm:=fun (h:ac) (d:Nat) hh hd=>zG (ds:=ds) (cs:=cs) (p:=p) (h:=h) (d:=d) (id:=1004) hl.ok y2.ok hh hd;have pm:=so (p:=p) hl y2;have ca:=fun (h:ac) (d:Nat) hh hd=>LR (ds:=ds) (cs:=cs) (p:=p) (h:=h) (d:=d) (id:=1004) x2.ok pm.ok hh hd;have pa:=xt (p:=p) x2 pm;have q1:(aY cs)[f+(i+k)*st]?=some (az x):=by unfold aY; rw [List.getElem?_map,x1]; rfl
  have q2:(aY cs)[f+(i+k+1)*st]?=some (az y):=by unfold aY; rw [List.getElem?_map,y1]; rfl
  have i1:(0≤((f+(i+k)*st:Nat):Int))=True:=eq_true (by omega);have i2:(0≤((f+(i+k+1)*st:Nat):Int))=True:=eq_true (by omega);have i3:(((f+(i+k)*st:Nat):Int) < (cs.length:Int))=True:=eq_true (by rw [he.1]; omega);have i4:(((f+(i+k+1)*st:Nat):Int) < (cs.length:Int))=True:=eq_true (by rw [he.1]; omega);have sr1:∀ u:Ri,nQ 7 7 (f+(i+k)*st) 0 (az u) 7 (aY cs)=some (aY (cs.set (f+(i+k)*st) u)):=fun u=>Be (by rw [he.1]; omega);have ih':=ih (by omega) _ _ (he.set (k:=f+(i+k)*st) pa);rw [ai];generalize aD _ _ _=L at ih' ⊢;generalize jM lo y p=z at *
  generalize j3 x z p=u at *
  simp only [bh,av,az] at cm ca;simp only [az] at q1 q2 sr1;simp only [bh] at k4 hg;simp only [dX] at k2 k3 hlo hw;simp only [fH,go_sem,apB,apA,apC,apD,apE,g0,g1,g2,g3,g4,g5,g8,g9,g13,g14,k0,k1,k2,k3,k4,hg,hlo,hw,e1,w1,w2,w3,w4,i1,i2,i3,i4,sv,xv,Int.toNat_natCast,Nat.zero_add,q1,q2];rw [cm _ _ rfl rfl];have fp:=fun (h h':ac) (d:Nat) (x y:Ri)=>Vq (h:=h) (h':=h') (d:=d) (id:=1004) (ds:=ds) (cs:=cs) (p:=p) (x:=x) (y:=y) (by decide);simp only [bh,av,az] at fp;simp only [go_sem,apB,apA,fp];rw [ca _ _ rfl rfl];simp only [go_sem,apB,apA,apC,apD,apE,fp,i1,i3,Int.toNat_natCast,Nat.zero_add,Bd,sr1,w4];exact ih' _ _ _ rfl rfl rfl rfl rfl rfl rfl rfl rfl rfl rfl ⟨rfl,rfl,rfl,rfl,rfl⟩
theorem acs {ds:List Int} {p:Int} {N f st n:Nat} {lo w:Ri} {l:Rat} (hl:In l lo) (hN:f+n*st < N) (hN4:N≤400) (hn:n≤400):∀ (k i:Nat),i+k=n→∀ (cs:List Ri) (g:G),gw N cs g→∀ (s:af) (h:ac) (X:Option (Ex × St)),am 0 [0,1,2,3,5] (aD (aj R (aH false) im) [0,1,2,3,4,5,13,14] [1000,1001,1002,1003,1004] s h)=X →
  s 0=I f→s 1=I st→s 2=.ref 1000 none 0 0 0→s 3=.ref 1001 none 0 0 0→s 4=.ref 1002 none 0 0 0→s 5=.ref 1003 none 0 0 0→s 13=I n→s 14=I i→Ta n lo w ds cs p h →
  ∃ hh cs',X=some (.normal,⟨upd (upd (upd (upd (upd (fun _=>.any) 5 (.ref 1003 none 0 0 0)) 3 (.ref 1001 none 0 0 0)) 2 (.ref 1000 none 0 0 0)) 1 (I st)) 0 (I f),hh⟩)∧Ta n lo w ds cs' p hh∧(∀ a,a ≠ 1000→a ≠ 1001→a ≠ 1002→a ≠ 1003→a ≠ 1004→hh a=.dead)∧gw N cs' (F1 l (fun j=>f+j*st) k i g):=by
 intro k;induction k with
 | zero =>
  intro i hk cs g he s h X hX g0 g1 g2 g3 g4 g5 g13 g14 ho;subst hX;obtain ⟨k0,k1,k2,k3,k4⟩:=ho;have e1:((i:Int) < n)=False:=eq_false (by omega);have hg:=(bB ds cs p).cl [1000,1001,1002,1003,1004];have hlo:=(eu lo).cl [1000,1001,1002,1003,1004];have hw:=(eu w).cl [1000,1001,1002,1003,1004];rw [ai];refine ⟨?hh0,cs,?_,?_,?_,he⟩;rotate_left
  ·simp only [im,go_sem,apB,apA,apC,apD,apE,g0,g1,g2,g3,g4,g5,g13,g14,k0,k1,k2,k3,k4,hg,hlo,hw,e1];rfl
  ·exact ⟨rfl,rfl,rfl,rfl,rfl⟩
  ·intro a a1 a2 a3 a4 a5;simp only [ed,a1,a2,a3,a4,a5,if_false]
 | succ k ih =>
  intro i hk cs g he s h X hX g0 g1 g2 g3 g4 g5 g13 g14 ho;subst hX;have ho':=ho;obtain ⟨k0,k1,k2,k3,k4⟩:=ho;have e1:((i:Int) < n)=True:=eq_true (by omega);have w1:IntKind.i64.wrap ((n:Int) - 1)=(i:Int)+((k+1:Nat):Int) - 1:=by rw [i64_in _ ⟨by omega,by omega⟩]; omega
  have w2:IntKind.i64.wrap ((i:Int)+1)=((i+1:Nat):Int):=wi (by omega) (by omega);have hg:=(bB ds cs p).cl [1000,1001,1002,1003,1004];have hlo:=(eu lo).cl [1000,1001,1002,1003,1004];have hw:=(eu w).cl [1000,1001,1002,1003,1004];have hu:=acr (ds:=ds) (p:=p) (w:=w) hl hN hN4 hn (i:=i) (k+1) (by omega) cs g he;have ih':=ih (i+1) (by omega);rw [ai];generalize aD _ _ _=L at ih' ⊢;simp only [im,go_sem,apB,apA,apC,apD,apE,g0,g1,g2,g3,g4,g5,g13,g14,k0,k1,k2,k3,k4,hg,hlo,hw,e1,w1];generalize hX:am 2 _ _=X;obtain ⟨hh,cs',rfl,ho2,he2⟩:=hu _ _ _ hX rfl rfl rfl rfl rfl rfl rfl rfl rfl rfl ⟨rfl,rfl,rfl,rfl,rfl⟩;simp only [go_sem,apE,w2];exact ih' cs' _ he2 _ _ _ rfl rfl rfl rfl rfl rfl rfl rfl rfl ho2
attribute [-go_sem] vL in
theorem act {ds:List Int} {p:Int} {N f st n:Nat} {lo w:Ri} {u:Rat} (hw:In u w) (hN:f+n*st < N) (hN4:N≤400) (hn:n≤400):∀ (k j:Nat),j+k=n+1→∀ (cs:List Ri) (g:G),gw N cs g→∀ (sc:Ri) (b:Rat),In b sc→∀ (s:af) (h:ac) (X:Option (Ex × St)),am 4 [] (aD (aj R (aH false) fG) [0,1,2,3,5,11,12] [11,1000,1001,1002,1003,1004] s h)=X →
  s 0=I f→s 1=I st→s 2=.ref 1000 none 0 0 0→s 3=.ref 1001 none 0 0 0→s 5=.ref 1003 none 0 0 0→s 11=.ref 11 none 0 0 0→s 12=I j→h 11=dX sc→Ta n lo w ds cs p h →
  ∃ hh cs',X=some (.normal,⟨fun _=>.any,hh⟩)∧Ta n lo w ds cs' p hh∧gw N cs' (LK u (fun j=>f+j*st) k j b g):=by
 intro k;induction k with
 | zero =>
  intro j hk cs g he sc b hb s h X hX g0 g1 g2 g3 g5 g11 g12 k11 ho;subst hX;obtain ⟨k0,k1,k2,k3,k4⟩:=ho;have e1:((j:Int)≤n)=False:=eq_false (by omega);have hg:=(bB ds cs p).cl [11,1000,1001,1002,1003,1004];have hlo:=(eu lo).cl [11,1000,1001,1002,1003,1004];have hw:=(eu w).cl [11,1000,1001,1002,1003,1004];have hs:=(eu sc).cl [11,1000,1001,1002,1003,1004];rw [ai];refine ⟨?hh0,cs,?_,?_,he⟩;rotate_left
  ·simp only [fG,go_sem,apB,apA,apC,apD,apE,g0,g1,g2,g3,g5,g11,g12,k0,k1,k2,k3,k4,k11,hg,hlo,hw,hs,e1];rfl
  ·exact ⟨rfl,rfl,rfl,rfl,rfl⟩
 | succ k ih =>
  intro j hk cs g he sc b hb s h X hX g0 g1 g2 g3 g5 g11 g12 k11 ho;subst hX;obtain ⟨k0,k1,k2,k3,k4⟩:=ho;have hm1:j*st≤n*st:=Nat.mul_le_mul_right _ (by omega);have e1:((j:Int)≤n)=True:=eq_true (by omega);have w1:IntKind.i64.wrap ((j:Int)*st)=((j*st:Nat):Int):=wi (Int.natCast_mul ..).symm (by omega);have w2:IntKind.i64.wrap ((f:Int)+((j*st:Nat):Int))=((f+j*st:Nat):Int):=wi (by omega) (by omega);have w4:IntKind.i64.wrap ((j:Int)+1)=((j+1:Nat):Int):=wi (by omega) (by omega);obtain ⟨x,x1,x2⟩:=he.get (k:=f+j*st) (by omega);have hg:=(bB ds cs p).cl [11,1000,1001,1002,1003,1004];have hlo:=(eu lo).cl [11,1000,1001,1002,1003,1004];have hwo:=(eu w).cl [11,1000,1001,1002,1003,1004];have hs:=(eu sc).cl [11,1000,1001,1002,1003,1004];have cm:=fun (h:ac) (d:Nat) hh hd=>zG (ds:=ds) (cs:=cs) (p:=p) (h:=h) (d:=d) (id:=1004) hb.ok hw.ok hh hd;have pm:=so (p:=p) hb hw;have ca:=fun (h:ac) (d:Nat) hh hd=>zG (ds:=ds) (cs:=cs) (p:=p) (h:=h) (d:=d) (id:=1004) x2.ok pm.ok hh hd;have pa:=so (p:=p) x2 pm;have q1:(aY cs)[f+j*st]?=some (az x):=by unfold aY; rw [List.getElem?_map,x1]; rfl
  have i1:(0≤((f+j*st:Nat):Int))=True:=eq_true (by omega);have i3:(((f+j*st:Nat):Int) < (cs.length:Int))=True:=eq_true (by rw [he.1]; omega);have sr1:∀ u:Ri,nQ 7 7 (f+j*st) 0 (az u) 7 (aY cs)=some (aY (cs.set (f+j*st) u)):=fun u=>Be (by rw [he.1]; omega);have ih':=ih (j+1) (by omega) _ _ (he.set (k:=f+j*st) pa) _ _ pm;rw [ai];generalize aD _ _ _=L at ih' ⊢;generalize jM sc w p=z at *
  generalize jM x z p=v at *
  simp only [bh,av,az] at cm ca;simp only [az] at q1 sr1;simp only [bh] at k4 hg;simp only [dX] at k2 k3 k11 hlo hwo hs;simp only [fG,go_sem,apB,apA,apC,apD,apE,g0,g1,g2,g3,g5,g11,g12,k0,k1,k2,k3,k4,k11,hg,hlo,hwo,hs,e1];rw [cm _ _ rfl rfl];have fp:=fun (h h':ac) (d:Nat) (x y:Ri)=>Vq (h:=h) (h':=h') (d:=d) (id:=1004) (ds:=ds) (cs:=cs) (p:=p) (x:=x) (y:=y) (by decide);simp only [bh,av,az] at fp;simp only [go_sem,apB,apA,apC,apD,apE,w1,w2,i1,i3,sv,xv,Int.toNat_natCast,Nat.zero_add,q1];rw [ca _ _ rfl rfl];simp only [go_sem,apB,apA,apC,apD,apE,fp,i1,i3,Int.toNat_natCast,Nat.zero_add,Bd,sr1,w4];exact ih' _ _ _ rfl rfl rfl rfl rfl rfl rfl rfl rfl ⟨rfl,rfl,rfl,rfl,rfl⟩
theorem IC {n:Nat} {h:ac} {os:List Ob} (hm:(cu n).map h=os) (hc:(os.all fun o=>aO (cu n) o)=true):zO [] n h []=some (.tup [],os):=by
 have h1:((cu n).all fun i=>aO (cu n) (h i))=true:=by
  rw [← hm,List.all_map] at hc;exact hc
 unfold zO;rw [h1,hm];rfl
theorem E5 {f:FuncId} {fd:FD} {args:List AV} {os:List Ob} {α:Type} {r:α→AV × List Ob} {P:α→Prop} (hE:dv.E f=none) (hC:dv.C f=some fd) (hk:dv.md.keep f=false) (h1:args.length=fd.np) (h2:os.length≤1000)
  (hz:∃ a,gM false fd.rs fd.res os.length (aj R (aH false) fd.body (oO args) (ao os))=some (r a)∧P a):∃ a,R f args os=some (r a)∧P a:=by
 obtain ⟨a,h3,h4⟩:=hz;exact ⟨a,agy hE hC hk h1 h2 h3,h4⟩
theorem aaa {ds:List Int} {cs:List Ri} {p:Int} {N f st n:Nat} {lo w:Ri} {l u:Rat} {g:G} (hl:In l lo) (hw:In u w) (he:gw N cs g) (hN:f+n*st < N) (hN4:N≤400) (hn:n≤400) :
  ∃ cs',R F.bound_grid_unit_1 [I f,I st,.ref 1000 none 0 0 0,.ref 1001 none 0 0 0,.ref 1002 none 0 0 0,.ref 1003 none 0 0 0] [.bx [I n],.bx [.ref 1004 none 0 0 0],dX lo,dX w,bh ds cs p]=some (.tup [],[.bx [I n],.bx [.ref 1004 none 0 0 0],dX lo,dX w,bh ds cs' p])∧gw N cs' (Im l u n (fun j=>f+j*st) g):=by
 have h2:=acs (ds:=ds) (p:=p) (w:=w) hl hN hN4 hn n 0 (Nat.zero_add _) cs g he;have h3:=fun (cs:List Ri) (g:G) he=>act (ds:=ds) (p:=p) (lo:=lo) (n:=n) (st:=st) (f:=f) hw hN hN4 hn n 1 (Nat.add_comm _ _) cs g he ⟨one,one,false⟩ 1 (by rw [← PD]; exact rx kP.1 kP.2);have hi:=O6;have hp:=iP kP.2 kP.1;refine E5 db.2.1 db.2.2 (db.1.2.2.2 false) rfl (Nat.le_of_ble_eq_true rfl) ?_;have hgo:=(bB ds cs p).cl [1000,1001,1002,1003,1004];have hlo:=(eu lo).cl [1000,1001,1002,1003,1004];have hwo:=(eu w).cl [1000,1001,1002,1003,1004];simp only [ag,ak,av,az] at hi hp;simp only [mG,tP,PJ,go_sem,apB,apA,apC,apD,apE];generalize hX:am 0 _ _=X;obtain ⟨hh,cs1,rfl,ho,hd,he1⟩:=h2 _ _ _ hX rfl rfl rfl rfl rfl rfl rfl rfl ⟨rfl,rfl,rfl,rfl,rfl⟩;obtain ⟨k0,k1,k2,k3,k4⟩:=ho;have d1:=hd 2456 (by decide) (by decide) (by decide) (by decide) (by decide);have d2:=hd 2464 (by decide) (by decide) (by decide) (by decide) (by decide);have d3:=hd 11 (by decide) (by decide) (by decide) (by decide) (by decide);simp only [go_sem,apB,apA,apC,apD,apE,hi,hp,d1,d2,d3];generalize hX:am 4 _ _=X;obtain ⟨hh2,cs2,rfl,ho,he2⟩:=h3 cs1 _ he1 _ _ _ hX rfl rfl rfl rfl rfl rfl rfl rfl ⟨k0,k1,k2,k3,k4⟩;obtain ⟨k0,k1,k2,k3,k4⟩:=ho;refine ⟨cs2,?_,he2⟩;simp only [go_sem,apB,apA,apC,apD,apE];have hp5:cu 5=[1000,1001,1002,1003,1004]:=rfl;refine IC (by rw [hp5]; simp only [List.map,k0,k1,k2,k3,k4]) ?_;simp only [hp5,List.all_cons,List.all_nil,(bB ds cs2 p).cl,hlo,hwo];rfl
def rP (n:Nat):Rd:=bA false n 0
theorem Tb {n:Nat} (hn:n≤1000):(vd (rP n)=true∧Ok0 (rP n))∧qv (rP n)=n:=by
 have hr:lW (ae (aa (rP n).m)) (rP n).e=true:=by
  unfold rP;by_cases h0:n=0
  ·subst h0;rfl
  ·obtain ⟨g1,g2,g3,g4⟩:=yy (neg:=false) (e:=0) h0;have hb:ae n≤10:=bt.2 (by omega);rw [g1,g2];unfold lW;simp only [Bool.or_eq_true,Bool.and_eq_true,decide_eq_true_eq];omega
 have hv:vd (rP n)=true:=EK hr;have hb:Lb (rP n).m:=uO false n 0;refine ⟨⟨hv,hb,Nat.lt_of_le_of_lt (A5 hv hb) (by decide)⟩,?_⟩;have hc:eH (rP n)=(rP n,0):=by
  simp_all [eH,if_pos]
 have hz:zI (eH (rP n)).1=_:=DS (q:=n) (u:=0) (by decide) (by grind [eH,rP]);rw [hc] at hz;obtain ⟨N,hN⟩:∃ N:Nat,N=16384:=⟨_,rfl⟩;rw [show ((0:Int)+16384).toNat=N by omega] at hz;unfold qv EQ;rw [hz,← hN,show (((n*2 ^ N:Nat):Int):Rat)=n*pQ N by rw [Int.natCast_mul,Int.natCast_pow,Rat.intCast_mul]; rfl];grind [DU]
theorem X6 {n:Nat} (hn:n≤1000):R F.dyadic_Int [I n] []=some (ag (rP n),[]):=by
 have:=WX (n:=(n:Int)) (by grind [I64]);exact this
def Tc (n:Nat) (ds:List Int) (cs:List Ri) (p:Int) (h:ac):Prop:=h 1000=.bx [I n]∧h 1001=.bx [.ref 1002 none 0 0 0]∧h 1002=bh ds cs p∧h 1003=.dead
theorem aem {h h':ac} {d:Nat} {l:List AV} (hl:l.all dat=true):gk h d l h'=some ([],[2000+8*d]):=by
 rw [vL,if_pos hl]
attribute [-go_sem] vL in
theorem acu {ds:List Int} {p:Int} {N f st n:Nat} (hN:f+n*st < N) (hN4:N≤400) (hn:n≤400):∀ (k j:Nat),j+k=n→∀ (cs:List Ri) (g:G),gw N cs g→∀ (sc:Ri) (b:Rat),In b sc→∀ (s:af) (h:ac) (X:Option (Ex × St)),am 0 [0,1,2,3] (aD (aj R (aH false) fq) [0,1,2,3,6,7] [6,1000,1001,1002,1003] s h)=X →
  s 0=I f→s 1=I st→s 2=.ref 1000 none 0 0 0→s 3=.ref 1001 none 0 0 0→s 6=.ref 6 none 0 0 0→s 7=I (j+1:Nat)→h 6=dX sc→Tc n ds cs p h →
  ∃ hh cs',X=some (.normal,⟨upd (upd (upd (upd (fun _=>.any) 3 (.ref 1001 none 0 0 0)) 2 (.ref 1000 none 0 0 0)) 1 (I st)) 0 (I f),hh⟩)∧Tc n ds cs' p hh∧gw N cs' (F3 n (fun j=>f+j*st) k (j+1) b g):=by
 intro k;induction k with
 | zero =>
  intro j hk cs g he sc b hb s h X hX g0 g1 g2 g3 g6 g7 k6 ho;subst hX;obtain ⟨k0,k1,k2,k3⟩:=ho;have e1:(((j+1:Nat):Int)≤n)=False:=eq_false (by omega);have hg:=(bB ds cs p).cl [6,1000,1001,1002,1003];have hs:=(eu sc).cl [6,1000,1001,1002,1003];rw [ai];refine ⟨?hh0,cs,?_,?_,he⟩;rotate_left
  ·simp only [fq,go_sem,apB,apA,apC,apD,apE,g0,g1,g2,g3,g6,g7,k0,k1,k2,k3,k6,hg,hs,e1];rfl
  ·exact ⟨rfl,rfl,rfl,rfl⟩
 | succ k ih =>
  intro j hk cs g he sc b hb s h X hX g0 g1 g2 g3 g6 g7 k6 ho;subst hX;obtain ⟨k0,k1,k2,k3⟩:=ho;have hm1:(j+1)*st≤n*st:=Nat.mul_le_mul_right _ (by omega);have e1:(((j+1:Nat):Int)≤n)=True:=eq_true (by omega);have w0:IntKind.i64.wrap ((n:Int) - ((j+1:Nat):Int))=(k:Int):=wi (by omega) (by omega);have w5:IntKind.i64.wrap ((k:Int)+1)=((k+1:Nat):Int):=wi (by omega) (by omega);have w1:IntKind.i64.wrap (((j+1:Nat):Int)*st)=(((j+1)*st:Nat):Int):=wi (Int.natCast_mul ..).symm (by omega);have w2:IntKind.i64.wrap ((f:Int)+(((j+1)*st:Nat):Int))=((f+(j+1)*st:Nat):Int):=wi (by omega) (by omega);have w4:IntKind.i64.wrap (((j+1:Nat):Int)+1)=((j+1+1:Nat):Int):=wi (by omega) (by omega);obtain ⟨x,x1,x2⟩:=he.get (k:=f+(j+1)*st) (by omega);have hg:=(bB ds cs p).cl [6,1000,1001,1002,1003];have hs:=(eu sc).cl [6,1000,1001,1002,1003];obtain ⟨t1,t2⟩:=Tb (n:=k+1) (by omega);obtain ⟨u1,u2⟩:=Tb (n:=j+1) (by omega);have ci1:=X6 (n:=k+1) (by omega);have ci2:=X6 (n:=j+1) (by omega);have cp1:=iP t1.2 t1.1;have cp2:=iP u1.2 u1.1;have ip1:=rx t1.1 t1.2;have ip2:=rx u1.1 u1.2;rw [t2] at ip1;rw [u2] at ip2;have cm:=fun (h:ac) (d:Nat) hh hd=>zG (ds:=ds) (cs:=cs) (p:=p) (h:=h) (d:=d) (id:=1002) hb.ok ip1.ok hh hd;have pm:=so (p:=p) hb ip1;have cd:=SV pm.ok ip2.ok (p:=p);have pd:=S4 (p:=p) pm ip2;have cd2:=SV x2.ok pd.ok (p:=p);have pd2:=S4 (p:=p) x2 pd;have hbe:b*((n:Rat) - (j+1:Nat)+1) / (j+1:Nat)=b*((k+1:Nat):Rat) / ((j+1:Nat):Rat):=by
   have:(n:Rat)=(j+(k+1):Nat):=by rw [hk]
   grind
  have q1:(aY cs)[f+(j+1)*st]?=some (az x):=by grind [aY]
  have i1:(0≤((f+(j+1)*st:Nat):Int))=True:=eq_true (by omega);have i3:(((f+(j+1)*st:Nat):Int) < (cs.length:Int))=True:=eq_true (by grind);have sr1:∀ u:Ri,nQ 7 7 (f+(j+1)*st) 0 (az u) 7 (aY cs)=some (aY (cs.set (f+(j+1)*st) u)):=fun u=>Be (by grind);have ih':=ih (j+1) (by omega) _ _ (he.set (k:=f+(j+1)*st) pd2) _ _ pd;have hdv:F3 n (fun j=>f+j*st) (k+1) (j+1) b g=F3 n (fun j=>f+j*st) k (j+1+1) (b*((k+1:Nat):Rat) / ((j+1:Nat):Rat)) (gs g (f+(j+1)*st) (g (f+(j+1)*st) / (b*((k+1:Nat):Rat) / ((j+1:Nat):Rat)))):=by
   rw [← hbe];rfl
  rw [hdv,ai];generalize aD _ _ _=L at ih' ⊢;generalize rP (k+1)=c1 at *
  generalize rP (j+1)=c2 at *
  generalize jM sc ⟨c1,c1,false⟩ p=z at *
  generalize Ko z ⟨c2,c2,false⟩ p=v at *
  generalize Ko x v p=y at *
  simp only [bh,av,az] at cm;simp only [ag,ak,av,az] at ci1 ci2 cp1 cp2 cd cd2;simp only [az] at q1 sr1;simp only [bh] at k2 hg;simp only [dX] at k6 hs;simp only [fq,go_sem,apB,apA,apC,apD,apE,g0,g1,g2,g3,g6,g7,k0,k1,k2,k3,k6,hg,hs,e1,w0,w5,ci1,cp1];have fp:=fun (h h':ac) (d:Nat) (x y:Ri)=>Vq (h:=h) (h':=h') (d:=d) (id:=1002) (ds:=ds) (cs:=cs) (p:=p) (x:=x) (y:=y) (by decide);simp only [bh,av,az] at fp;have fp1:=fun (h h':ac) (d:Nat)=>fp h h' d sc ⟨c1,c1,false⟩;rw [cm _ _ rfl rfl];simp only [go_sem,apB,apA,apC,apD,apE,fp1,aem,ci2,cp2,cd,w1,w2,i1,i3,sv,xv,Int.toNat_natCast,Nat.zero_add,q1,cd2,Bd,sr1,w4];exact ih' _ _ _ rfl rfl rfl rfl rfl rfl rfl rfl ⟨rfl,rfl,rfl,rfl⟩
attribute [-go_sem] vL in
theorem acv {ds:List Int} {p:Int} {N f st n j:Nat} (hN:f+n*st < N) (hN4:N≤400) (hn:n≤400):∀ (k:Nat),j+k≤n→∀ (cs:List Ri) (g:G),gw N cs g→∀ (s:af) (h:ac) (X:Option (Ex × St)),am 4 [0,1,2,3,8] (aD (aj R (aH false) du) [0,1,2,3,8,9] [1000,1001,1002,1003] s h)=X →
  s 0=I f→s 1=I st→s 2=.ref 1000 none 0 0 0→s 3=.ref 1001 none 0 0 0→s 8=I (j+1:Nat)→s 9=I (j+k:Nat)→Tc n ds cs p h →
  ∃ hh cs',X=some (.normal,⟨upd (upd (upd (upd (upd (fun _=>.any) 8 (I (j+1:Nat))) 3 (.ref 1001 none 0 0 0)) 2 (.ref 1000 none 0 0 0)) 1 (I st)) 0 (I f),hh⟩)∧Tc n ds cs' p hh∧gw N cs' (Il (fun j=>f+j*st) j k g):=by
 intro k;induction k with
 | zero =>
  intro hk cs g he s h X hX g0 g1 g2 g3 g8 g9 ho;subst hX;obtain ⟨k0,k1,k2,k3⟩:=ho;have e1:(((j+1:Nat):Int)≤((j+0:Nat):Int))=False:=eq_false (by omega);have hg:=(bB ds cs p).cl [1000,1001,1002,1003];rw [ai];refine ⟨?hh0,cs,?_,?_,he⟩;rotate_left
  ·simp only [du,go_sem,apB,apA,apC,apD,apE,g0,g1,g2,g3,g8,g9,k0,k1,k2,k3,hg,e1];rfl
  ·exact ⟨rfl,rfl,rfl,rfl⟩
 | succ k ih =>
  intro hk cs g he s h X hX g0 g1 g2 g3 g8 g9 ho;subst hX;obtain ⟨k0,k1,k2,k3⟩:=ho;have hm1:(j+k+1)*st≤n*st:=Nat.mul_le_mul_right _ (by omega);have hs2:(j+k+1)*st=(j+k)*st+st:=by grind
  have e1:(((j+1:Nat):Int)≤((j+(k+1):Nat):Int))=True:=eq_true (by omega);have w0:IntKind.i64.wrap (((j+(k+1):Nat):Int) - 1)=((j+k:Nat):Int):=wi (by omega) (by omega);have w1:IntKind.i64.wrap (((j+(k+1):Nat):Int)*st)=(((j+k+1)*st:Nat):Int):=wi (Int.natCast_mul ..).symm (by omega);have w2:IntKind.i64.wrap ((f:Int)+(((j+k+1)*st:Nat):Int))=((f+(j+k+1)*st:Nat):Int):=wi (by omega) (by omega);have w3:IntKind.i64.wrap (((j+k:Nat):Int)*st)=(((j+k)*st:Nat):Int):=wi (Int.natCast_mul ..).symm (by omega);have w4:IntKind.i64.wrap ((f:Int)+(((j+k)*st:Nat):Int))=((f+(j+k)*st:Nat):Int):=wi (by omega) (by omega);obtain ⟨x,x1,x2⟩:=he.get (k:=f+(j+k+1)*st) (by omega);obtain ⟨y,y1,y2⟩:=he.get (k:=f+(j+k)*st) (by omega);have hg:=(bB ds cs p).cl [1000,1001,1002,1003];have ca:=fun (h:ac) (d:Nat) hh hd=>LR (ds:=ds) (cs:=cs) (p:=p) (h:=h) (d:=d) (id:=1002) x2.ok y2.ok hh hd;have pa:=xt (p:=p) x2 y2;have q1:(aY cs)[f+(j+k+1)*st]?=some (az x):=by grind [aY]
  have q2:(aY cs)[f+(j+k)*st]?=some (az y):=by grind [aY]
  have i1:(0≤((f+(j+k+1)*st:Nat):Int))=True:=eq_true (by omega);have i2:(0≤((f+(j+k)*st:Nat):Int))=True:=eq_true (by omega);have i3:(((f+(j+k+1)*st:Nat):Int) < (cs.length:Int))=True:=eq_true (by grind);have i4:(((f+(j+k)*st:Nat):Int) < (cs.length:Int))=True:=eq_true (by grind);have sr1:∀ u:Ri,nQ 7 7 (f+(j+k+1)*st) 0 (az u) 7 (aY cs)=some (aY (cs.set (f+(j+k+1)*st) u)):=fun u=>Be (by grind);have ih':=ih (by omega) _ _ (he.set (k:=f+(j+k+1)*st) pa);have fp:=fun (h h':ac) (d:Nat) (x y:Ri)=>Vq (h:=h) (h':=h') (d:=d) (id:=1002) (ds:=ds) (cs:=cs) (p:=p) (x:=x) (y:=y) (by decide);simp only [bh,av,az] at fp;rw [ai];generalize aD _ _ _=L at ih' ⊢;generalize j3 x y p=z at *
  simp only [bh,av,az] at ca;simp only [az] at q1 q2 sr1;simp only [bh] at k2 hg;simp only [du,go_sem,apB,apA,apC,apD,apE,g0,g1,g2,g3,g8,g9,k0,k1,k2,k3,hg,e1,w0,w1,w2,w3,w4,i1,i2,i3,i4,sv,xv,Int.toNat_natCast,Nat.zero_add,q1,q2];rw [ca _ _ rfl rfl];simp only [go_sem,apB,apA,apC,apD,apE,fp,w0,i1,i3,Int.toNat_natCast,Nat.zero_add,Bd,sr1];exact ih' _ _ _ rfl rfl rfl rfl rfl rfl rfl ⟨rfl,rfl,rfl,rfl⟩
theorem acw {ds:List Int} {p:Int} {N f st n:Nat} (hN:f+n*st < N) (hN4:N≤400) (hn:n≤400):∀ (k j:Nat),j+k=n→∀ (cs:List Ri) (g:G),gw N cs g→∀ (s:af) (h:ac) (X:Option (Ex × St)),am 2 [] (aD (aj R (aH false) fm) [0,1,2,3,8] [1000,1001,1002,1003] s h)=X →
  s 0=I f→s 1=I st→s 2=.ref 1000 none 0 0 0→s 3=.ref 1001 none 0 0 0→s 8=I (j+1:Nat)→Tc n ds cs p h →
  ∃ hh cs',X=some (.normal,⟨fun _=>.any,hh⟩)∧Tc n ds cs' p hh∧gw N cs' (LL (fun j=>f+j*st) k j g):=by
 intro k;induction k with
 | zero =>
  intro j hk cs g he s h X hX g0 g1 g2 g3 g8 ho;subst hX;obtain ⟨k0,k1,k2,k3⟩:=ho;have e1:(((j+1:Nat):Int)≤n)=False:=eq_false (by omega);have hg:=(bB ds cs p).cl [1000,1001,1002,1003];rw [ai];refine ⟨?hh0,cs,?_,?_,he⟩;rotate_left
  ·simp only [fm,go_sem,apB,apA,apC,apD,apE,g0,g1,g2,g3,g8,k0,k1,k2,k3,hg,e1];rfl
  ·exact ⟨rfl,rfl,rfl,rfl⟩
 | succ k ih =>
  intro j hk cs g he s h X hX g0 g1 g2 g3 g8 ho;subst hX;obtain ⟨k0,k1,k2,k3⟩:=ho;have e1:(((j+1:Nat):Int)≤n)=True:=eq_true (by omega);have w2:IntKind.i64.wrap (((j+1:Nat):Int)+1)=((j+1+1:Nat):Int):=wi (by omega) (by omega);have hg:=(bB ds cs p).cl [1000,1001,1002,1003];have hu:=acv (ds:=ds) (p:=p) hN hN4 hn (j:=j) (k+1) (by omega) cs g he;have ih':=ih (j+1) (by omega);rw [ai];simp only [fm,go_sem,apB,apA,apC,apD,apE,g0,g1,g2,g3,g8,k0,k1,k2,k3,hg,e1];generalize hX:am 4 _ _=X;obtain ⟨hh,cs',rfl,ho2,he2⟩:=hu _ _ _ hX rfl rfl rfl rfl rfl (by rw [hk]; rfl) ⟨rfl,rfl,rfl,rfl⟩;simp only [go_sem,apB,apA,apC,apD,apE,w2];exact ih' cs' _ he2 _ _ _ rfl rfl rfl rfl rfl rfl ho2
theorem aab {ds:List Int} {cs:List Ri} {p:Int} {N f st n:Nat} {g:G} (he:gw N cs g) (hN:f+n*st < N) (hN4:N≤400) (hn:n≤400) :
  ∃ cs',R F.bound_grid_bernstein_1 [I f,I st,.ref 1000 none 0 0 0,.ref 1001 none 0 0 0] [.bx [I n],.bx [.ref 1002 none 0 0 0],bh ds cs p]=some (.tup [],[.bx [I n],.bx [.ref 1002 none 0 0 0],bh ds cs' p])∧gw N cs' (Io n (fun j=>f+j*st) g):=by
 have h2:=acu (ds:=ds) (p:=p) hN hN4 hn n 0 (Nat.zero_add _) cs g he ⟨one,one,false⟩ 1 (by rw [← PD]; exact rx kP.1 kP.2);have h3:=fun (cs:List Ri) (g:G) he=>acw (ds:=ds) (p:=p) (n:=n) (st:=st) (f:=f) hN hN4 hn n 0 (Nat.zero_add _) cs g he;have hi:=O6;have hp:=iP kP.2 kP.1;refine E5 bX.2.1 bX.2.2 (bX.1.2.2.2 false) rfl (Nat.le_of_ble_eq_true rfl) ?_;simp only [ag,ak,av,az] at hi hp;simp only [jd,pf,PK,go_sem,apB,apA,apC,apD,apE,hi,hp];generalize hX:am 0 _ _=X;obtain ⟨hh,cs1,rfl,ho,he1⟩:=h2 _ _ _ hX rfl rfl rfl rfl rfl rfl rfl ⟨rfl,rfl,rfl,rfl⟩;obtain ⟨k0,k1,k2,k3⟩:=ho;simp only [go_sem,apB,apA,apC,apD,apE];generalize hX:am 2 _ _=X;obtain ⟨hh2,cs2,rfl,ho,he2⟩:=h3 cs1 _ he1 _ _ _ hX rfl rfl rfl rfl rfl ⟨k0,k1,k2,k3⟩;obtain ⟨k0,k1,k2,k3⟩:=ho;refine ⟨cs2,?_,he2⟩;have hp3:cu 3=[1000,1001,1002]:=rfl;refine IC (by grind) ?_;rfl
noncomputable def vY:Cmd:=.ops [0,1,2,6,15,16] [cm 32 2,cm 33 7,cm 34 6,⟨(some 35),none,.call (.t 32) [.t 33,.t 34]⟩]
theorem yH:lK=.seq (.ops [0,1,2,6,15,16,17] [b2 17 .lss 16 15]) (.seq (.cond (.t 17) (.skip) (.exit 0)) (.seq (.block 1 [0,1,2,6,15,16] (.seq (.ops [0,1,2,6,7,15,16] [cm 18 16,cm 7 18]) (.seq (.dops [0,1,2,6,7,15,16,31] [cm 19 7,cm 20 6,b2 21 .quo 19 20,cm 22 0,nk 23 22,fa 24 0 23,ld 25 1 24,cm 26 1,co 27 (.iadrS 1 (.t 25) (.t 26)),ld 28 1 27,co 29 (.bin .add (.t 28) (.c (I 1))),b2 30 .rem 21 29,co 31 (.bin .eql (.t 30) (.c (I 0)))] []) (.cond (.t 31) vY (.skip))))) (.ops [0,1,2,6,15,16] [co 36 (.bin .add (.t 16) (.c (I 1))),cm 16 36]))):=rfl
structure LnO (cl:AV) (ds:List Int) (p:Int) (N k st n:Nat) (op:Nat→G→G) (o1 o2 o3 o4:Ob):Prop where
 c1:aO [1000,1001,1002,1003,1004] o1=true
 c2:aO [1000,1001,1002,1003,1004] o2=true
 c3:aO [1000,1001,1002,1003,1004] o3=true
 c4:aO [1000,1001,1002,1003,1004] o4=true
 c5:eN [1000,1001,1002,1003,1004] cl=cl
 run:∀ (f:Nat) (cs:List Ri) (g:G),gw N cs g→f < N→f / st % (n+1)=0→∀ (s:af) (h:ac) (X:Option (Ex × St)),aj R (aH false) vY s h=X→s 0=.ref 1000 none 0 0 0→s 1=I k→s 2=cl→s 6=I st→s 7=I f→s 15=I N→s 16=I f→h 1000=bh ds cs p→h 1001=o1→h 1002=o2→h 1003=o3→h 1004=o4→h 2280=.dead →
  ∃ cs' hh,X=some (.normal,⟨upd (upd (upd (upd (upd (upd (fun _=>.any) 16 (I f)) 15 (I N)) 6 (I st)) 2 cl) 1 (I k)) 0 (.ref 1000 none 0 0 0),hh⟩)∧hh 1000=bh ds cs' p∧hh 1001=o1∧hh 1002=o2∧hh 1003=o3∧hh 1004=o4∧gw N cs' (op f g)
theorem ID {cl:AV} {ds:List Int} {p:Int} {N k st n:Nat} {op:Nat→G→G} {o1 o2 o3 o4:Ob} (L:LnO cl ds p N k st n op o1 o2 o3 o4) (hN4:N≤400) (hs:0 < st) (hst:st≤400) (hn:n≤400) (hk:ds[k]?=some (n:Int)) :
  ∀ (m i:Nat),i+m=N→∀ (cs:List Ri) (g:G),gw N cs g→∀ (s:af) (h:ac) (X:Option (Ex × St)),am 0 [] (aD (aj R (aH false) lK) [0,1,2,6,15,16] [1000,1001,1002,1003,1004] s h)=X →
  s 0=.ref 1000 none 0 0 0→s 1=I k→s 2=cl→s 6=I st→s 15=I N→s 16=I i→h 1000=bh ds cs p→h 1001=o1→h 1002=o2→h 1003=o3→h 1004=o4 →
  ∃ cs' hh,X=some (.normal,⟨fun _=>.any,hh⟩)∧hh 1000=bh ds cs' p∧hh 1001=o1∧hh 1002=o2∧hh 1003=o3∧hh 1004=o4∧gw N cs' (ps op st n m i g):=by
 obtain ⟨c1,c2,c3,c4,c5,lr⟩:=L;intro m;induction m with
 | zero =>
  intro i hm cs g he s h X hX g0 g1 g2 g6 g15 g16 k0 k1 k2 k3 k4;subst hX;have e1:((i:Int) < N)=False:=eq_false (by omega);have hg:=(bB ds cs p).cl [1000,1001,1002,1003,1004];rw [ai];refine ⟨cs,?hh0,?_,?_,?_,?_,?_,?_,he⟩;rotate_left
  ·simp only [yH,go_sem,apB,apA,apC,apD,apE,g0,g1,g2,g6,g15,g16,k0,k1,k2,k3,k4,hg,c1,c2,c3,c4,c5,e1];rfl
  all_goals rfl
 | succ m ih =>
  intro i hm cs g he s h X hX g0 g1 g2 g6 g15 g16 k0 k1 k2 k3 k4;subst hX;have e1:((i:Int) < N)=True:=eq_true (by omega);have hg:=(bB ds cs p).cl [1000,1001,1002,1003,1004];have w1:IntKind.i64.wrap (Int.tdiv (i:Int) st)=((i / st:Nat):Int):=by
   have:=Nat.div_le_self i st;grind [wi]
  have w2:IntKind.i64.wrap ((n:Int)+1)=((n+1:Nat):Int):=wi (by omega) (by omega);have w4:IntKind.i64.wrap ((i:Int)+1)=((i+1:Nat):Int):=wi (by omega) (by omega);have d1:((st:Int)=0)=False:=eq_false (by omega);have d2:(((n+1:Nat):Int)=0)=False:=eq_false (by omega);have hr:=lr i cs g he (by omega);have ih':=ih (i+1) (by omega);have hps:ps op st n (m+1) i g=ps op st n m (i+1) (if i / st % (n+1)=0 then op i g else g):=rfl;rw [hps,ai];generalize aD _ _ _=L at ih' ⊢;have hkl:k < ds.length:=(List.getElem?_eq_some_iff.1 hk).1;have i1:(0≤(k:Int))=True:=eq_true (by omega);have i2:((k:Int) < (ds.length:Int))=True:=eq_true (by omega);have q1:(bw ds)[k]?=some [I n]:=by grind [bw]
  by_cases h0:i / st % (n+1)=0
  ·have e2:(Int.tmod ((i / st:Nat):Int) ((n+1:Nat):Int)=0)=True:=eq_true (by grind);rw [if_pos h0];have hr:=hr h0;simp only [bh] at k0 hg;simp only [yH,go_sem,apB,apA,apC,apD,apE,g0,g1,g2,g6,g15,g16,k0,k1,k2,k3,k4,hg,c1,c2,c3,c4,c5,e1,e2,w1,w2,d1,d2,l8,su,q1,i1,i2,Int.toNat_natCast,Nat.zero_add];generalize hX:aj R (aH false) vY _ _=X;obtain ⟨cs',hh,rfl,r0,r1,r2,r3,r4,he2⟩:=hr _ _ _ hX rfl rfl rfl rfl rfl rfl rfl rfl rfl rfl rfl rfl rfl;simp only [go_sem,apB,apA,apC,apD,apE,w4,c5];exact ih' cs' _ he2 _ _ _ rfl rfl rfl rfl rfl rfl rfl r0 r1 r2 r3 r4
  ·have e2:(Int.tmod ((i / st:Nat):Int) ((n+1:Nat):Int)=0)=False:=eq_false (by grind);rw [if_neg h0];simp only [bh] at k0 hg;simp only [yH,go_sem,apB,apA,apC,apD,apE,g0,g1,g2,g6,g15,g16,k0,k1,k2,k3,k4,hg,c1,c2,c3,c4,c5,e1,e2,w1,w2,w4,d1,d2,l8,su,q1,i1,i2,Int.toNat_natCast,Nat.zero_add];exact ih' cs g he _ _ _ rfl rfl rfl rfl rfl rfl rfl rfl rfl rfl rfl rfl
def dI (l:List Nat):List Int:=l.map Int.ofNat
def bg:List Nat→Nat→Nat
 | [],n=>n
 | d::l,n=>bg l (n*(d+1))
theorem E6:∀ (ds:List Nat) (n:Nat),G0 (dI ds) (n:Int)=(bg ds n:Nat)
 | [],_=>rfl
 | d::ds,n=>by
  show G0 (dI ds) ((n:Int)*(Int.ofNat d+1))=(bg ds (n*(d+1)):Nat);rw [← E6 ds (n*(d+1)),Int.natCast_mul];rfl
theorem jQ:∀ (ds:List Nat) (n:Nat),0 < n→n≤bg ds n
 | [],_,_=>Nat.le_refl _
 | d::ds,n,h=>Nat.le_trans (Nat.le_mul_of_pos_right n (Nat.succ_pos d)) (jQ ds _ (Nat.mul_pos h (Nat.succ_pos d)))
theorem G1:∀ (ds:List Nat) (n:Nat),bg ds n=n*bg ds 1
 | [],n=>(Nat.mul_one n).symm
 | d::ds,n=>by
  show bg ds (n*(d+1))=n*bg ds (1*(d+1));rw [G1 ds (n*(d+1)),G1 ds (1*(d+1)),Nat.one_mul,Nat.mul_assoc]
theorem B9:∀ (ds:List Nat) (k n d:Nat),ds[k]?=some d→bg ds n=bg (ds.take k) n*(d+1)*bg (ds.drop (k+1)) 1
 | d'::ds,0,n,d,h=>by
  have:d'=d:=by grind
  subst this;exact G1 ds _
 | d'::ds,k+1,n,d,h=>B9 ds k (n*(d'+1)) d (by grind)
 | [],_,_,_,h=>by grind
theorem Td {N st n H f:Nat} (hN:N=st*(n+1)*H) (hs:0 < st) (hf:f < N) (h0:f / st % (n+1)=0):f+n*st < N:=by
 have h1:=Nat.div_add_mod f st;have h2:=Nat.mod_lt f hs;have h3:=Nat.div_add_mod (f / st) (n+1);rw [h0,Nat.add_zero] at h3;generalize f / st / (n+1)=q at *
 have h4:q < H:=by
  refine Nat.lt_of_mul_lt_mul_left (a:=st*(n+1)) ?_;rw [← hN,Nat.mul_assoc,h3];omega
 have h5:st*(n+1)*(q+1)≤N:=by
  rw [hN];exact Nat.mul_le_mul_left _ h4
 rw [← h3] at h1;grind
theorem X7 {dn:List Nat} {cs:List Ri} {p:Int} {k n:Nat} {lo w:Ri} {l u:Rat} {g:G} (hl:In l lo) (hw:In u w) (hk:dn[k]?=some n) (h8:dn.length≤8) (hb:∀ d ∈ dn,d≤32) (hN4:bg dn 1≤400) (he:gw (bg dn 1) cs g) :
  ∃ cs',R F.bound_grid_lines [.ref 1000 none 0 0 0,I k,.fn F.bound_grid_unit_1 [] [.ref 1001 none 0 0 0,.ref 1002 none 0 0 0,.ref 1003 none 0 0 0,.ref 1004 none 0 0 0]] [bh (dI dn) cs p,.bx [I n],.bx [.ref 1000 none 0 0 0],dX lo,dX w]=some (.tup [],[bh (dI dn) cs' p,.bx [I n],.bx [.ref 1000 none 0 0 0],dX lo,dX w]) ∧
   gw (bg dn 1) cs' (ps (fun f=>Im l u n (fun j=>f+j*bg (dn.take k) 1)) (bg (dn.take k) 1) n (bg dn 1) 0 g):=by
 have hkl:k < dn.length:=(List.getElem?_eq_some_iff.1 hk).1;have hn:n≤32:=hb n (List.mem_of_getElem? hk);have hbI:∀ d ∈ dI dn,0≤d∧d≤32:=fun d hd=>by
  obtain ⟨x,hx,rfl⟩:=List.mem_map.1 hd;grind
 have hsp:=B9 dn k 1 n hk;have hs0:=jQ (dn.take k) 1 (by decide);have hst:bg (dn.take k) 1≤400:=by
  refine Nat.le_trans ?_ hN4;rw [hsp,Nat.mul_assoc];exact Nat.le_mul_of_pos_right _ (Nat.mul_pos (Nat.succ_pos n) (jQ _ 1 (by decide)))
 have hstep:=fun (h:ac) (d:Nat) (hh:h 1000=bh (dI dn) cs p) (hd:h (2000+8*d)=.dead)=>pA (iY false) rfl (D4 (m:=k) (by grind [dI]) (by omega) hbI (d:=d) hh hd);rw [show (dI dn).take k=dI (dn.take k) from (List.map_take ..).symm,show (1:Int)=((1:Nat):Int) from rfl,E6] at hstep;generalize bg (dn.take k) 1=st at *
 generalize bg dn 1=N at *
 have L:LnO (.fn F.bound_grid_unit_1 [] [.ref 1001 none 0 0 0,.ref 1002 none 0 0 0,.ref 1003 none 0 0 0,.ref 1004 none 0 0 0]) (dI dn) p N k st n (fun f=>Im l u n (fun j=>f+j*st)) (.bx [I n]) (.bx [.ref 1000 none 0 0 0]) (dX lo) (dX w):=by
  refine ⟨rfl,rfl,(eu lo).cl _,(eu w).cl _,rfl,?_⟩;intro f cs g he hf h0 s h X hX g0 g1 g2 g6 g7 g15 g16 k0 k1 k2 k3 k4 kd;subst hX;obtain ⟨cs',hR,he'⟩:=aaa (ds:=dI dn) (p:=p) hl hw he (Td hsp (by omega) hf h0) hN4 (by omega);have hc:=Vn hR (d:=35) k0 k1 k2 k3 k4 kd;refine ⟨cs',?hh0,?_,?_,?_,?_,?_,?_,he'⟩;rotate_left
  ·simp only [vY,go_sem,apB,apA,apC,apD,apE,g0,g1,g2,g6,g7,g15,g16,hc];rfl
  all_goals rfl
 refine E5 bd.2.1 bd.2.2 (bd.1.2.2.2 false) rfl (Nat.le_of_ble_eq_true rfl) ?_;have hll:=ID L hN4 (by omega) hst (by omega) (by grind [dI]) N 0 (Nat.zero_add _) cs g he;simp only [jT,pe,PJ,go_sem,apB,apA,apC,apD,apE];rw [hstep _ _ rfl rfl];have hlen:(cs.length:Int)=N:=by rw [he.1]
 have hgo:=(bB (dI dn) cs p).cl [1000,1001,1002,1003,1004];simp only [bh] at hgo ⊢;simp only [go_sem,apB,apA,apC,apD,apE,hlen,hgo,(eu lo).cl,(eu w).cl];generalize hX:am 0 _ _=X;obtain ⟨cs',hh,rfl,k0,k1,k2,k3,k4,he2⟩:=hll _ _ _ hX rfl rfl rfl rfl rfl rfl rfl rfl rfl rfl rfl;refine ⟨cs',?_,he2⟩;have hp5:cu 5=[1000,1001,1002,1003,1004]:=rfl;refine IC (by grind [List.map,bh]) ?_;rfl
theorem X8 {dn:List Nat} {cs:List Ri} {p:Int} {k n:Nat} {g:G} (hk:dn[k]?=some n) (h8:dn.length≤8) (hb:∀ d ∈ dn,d≤32) (hN4:bg dn 1≤400) (he:gw (bg dn 1) cs g) :
  ∃ cs',R F.bound_grid_lines [.ref 1000 none 0 0 0,I k,.fn F.bound_grid_bernstein_1 [] [.ref 1001 none 0 0 0,.ref 1002 none 0 0 0]] [bh (dI dn) cs p,.bx [I n],.bx [.ref 1000 none 0 0 0]]=some (.tup [],[bh (dI dn) cs' p,.bx [I n],.bx [.ref 1000 none 0 0 0]]) ∧
   gw (bg dn 1) cs' (ps (fun f=>Io n (fun j=>f+j*bg (dn.take k) 1)) (bg (dn.take k) 1) n (bg dn 1) 0 g):=by
 have hkl:k < dn.length:=(List.getElem?_eq_some_iff.1 hk).1;have hn:n≤32:=hb n (List.mem_of_getElem? hk);have hbI:∀ d ∈ dI dn,0≤d∧d≤32:=fun d hd=>by
  obtain ⟨x,hx,rfl⟩:=List.mem_map.1 hd;grind
 have hsp:=B9 dn k 1 n hk;have hs0:=jQ (dn.take k) 1 (by decide);have hst:bg (dn.take k) 1≤400:=by
  refine Nat.le_trans ?_ hN4;rw [hsp,Nat.mul_assoc];exact Nat.le_mul_of_pos_right _ (Nat.mul_pos (Nat.succ_pos n) (jQ _ 1 (by decide)))
 have hstep:=fun (h:ac) (d:Nat) (hh:h 1000=bh (dI dn) cs p) (hd:h (2000+8*d)=.dead)=>pA (iY false) rfl (D4 (m:=k) (by grind [dI]) (by omega) hbI (d:=d) hh hd);rw [show (dI dn).take k=dI (dn.take k) from (List.map_take ..).symm,show (1:Int)=((1:Nat):Int) from rfl,E6] at hstep;generalize bg (dn.take k) 1=st at *
 generalize bg dn 1=N at *
 have L:LnO (.fn F.bound_grid_bernstein_1 [] [.ref 1001 none 0 0 0,.ref 1002 none 0 0 0]) (dI dn) p N k st n (fun f=>Io n (fun j=>f+j*st)) (.bx [I n]) (.bx [.ref 1000 none 0 0 0]) .dead .dead:=by
  refine ⟨rfl,rfl,rfl,rfl,rfl,?_⟩;intro f cs g he hf h0 s h X hX g0 g1 g2 g6 g7 g15 g16 k0 k1 k2 k3 k4 kd;subst hX;obtain ⟨cs',hR,he'⟩:=aab (ds:=dI dn) (p:=p) he (Td hsp (by omega) hf h0) hN4 (by omega);have hc:=Vo hR (d:=35) k0 k1 k2 kd;refine ⟨cs',?hh0,?_,?_,?_,?_,?_,?_,he'⟩;rotate_left
  ·simp only [vY,go_sem,apB,apA,apC,apD,apE,g0,g1,g2,g6,g7,g15,g16,hc];rfl
  all_goals first | rfl | assumption
 refine E5 bd.2.1 bd.2.2 (bd.1.2.2.2 false) rfl (Nat.le_of_ble_eq_true rfl) ?_;have hll:=ID L hN4 (by omega) hst (by omega) (by grind [dI]) N 0 (Nat.zero_add _) cs g he;simp only [jT,pe,PK,go_sem,apB,apA,apC,apD,apE];rw [hstep _ _ rfl rfl];have hlen:(cs.length:Int)=N:=by rw [he.1]
 have hgo:=(bB (dI dn) cs p).cl [1000,1001,1002,1003,1004];simp only [bh] at hgo ⊢;simp only [go_sem,apB,apA,apC,apD,apE,hlen,hgo];generalize hX:am 0 _ _=X;obtain ⟨cs',hh,rfl,k0,k1,k2,k3,k4,he2⟩:=hll _ _ _ hX rfl rfl rfl rfl rfl rfl rfl rfl rfl rfl rfl;refine ⟨cs',?_,he2⟩;have hp5:cu 3=[1000,1001,1002]:=rfl;refine IC (by grind [List.map,bh]) ?_;rfl
theorem acx {dn:List Nat} {cs:List Ri} {p:Int} {k n:Nat} {g:G} (hk:dn[k]?=some n) (h8:dn.length≤8) (hb:∀ d ∈ dn,d≤32) (hN4:bg dn 1≤400) (he:gw (bg dn 1) cs g) :
  ∃ cs',R F.bound_grid_bernstein [.ref 1000 none 0 0 0,I k] [bh (dI dn) cs p]=some (.tup [],[bh (dI dn) cs' p])∧gw (bg dn 1) cs' (ps (fun f=>Io n (fun j=>f+j*bg (dn.take k) 1)) (bg (dn.take k) 1) n (bg dn 1) 0 g):=by
 obtain ⟨cs',hR,he'⟩:=X8 (p:=p) hk h8 hb hN4 he;refine ⟨cs',Vf cW.2.1 cW.2.2 (cW.1.2.2.2 false) rfl ?_,he'⟩;have e3:(bw (dI dn))[k]?=some [I n]:=by grind [bw,dI]
 have e7:(0≤(k:Int))=True:=eq_true (by omega);have e8:((k:Int) < ((dI dn).length:Int))=True:=eq_true (by grind [dI]);have hl:=fun (h:ac) (d:Nat) h0 h1 h2 hf=>PL (bd.1.2.1 false) rfl (IB hR (h:=h) (d:=d) h0 h1 h2 hf);simp only [bh] at hl ⊢;simp only [j1,qP,go_sem,apB,apA,apC,apD,apE,Nat.zero_add];rw [X5 (cs:=[.osl 1 (bw (dI dn)),.osl 7 (aY cs),I p]) rfl rfl];simp only [go_sem,apB,apA,apC,apD,apE,e3,e7,e8,xu,Int.toNat_natCast,Nat.zero_add,l8,su];rw [hl _ _ rfl rfl rfl rfl];rfl
theorem acy {dn:List Nat} {cs:List Ri} {p:Int} {k n:Nat} {b:Ri} {g:G} (vl:vd b.lo=true∧Ok0 b.lo) (vh:vd b.hi=true∧Ok0 b.hi) (hk:dn[k]?=some n) (h8:dn.length≤8) (hb:∀ d ∈ dn,d≤32) (hN4:bg dn 1≤400) (he:gw (bg dn 1) cs g) :
  ∃ cs',R F.bound_grid_unit [.ref 1000 none 0 0 0,I k,av b] [bh (dI dn) cs p]=some (.tup [],[bh (dI dn) cs' p])∧gw (bg dn 1) cs' (ps (fun f=>Im (qv b.lo) (qv b.hi - qv b.lo) n (fun j=>f+j*bg (dn.take k) 1)) (bg (dn.take k) 1) n (bg dn 1) 0 g):=by
 have i1:=rx vl.1 vl.2;have i2:=rx vh.1 vh.2;have i3:=ach (p:=p) i2 i1;obtain ⟨cs',hR,he'⟩:=X7 (p:=p) i1 i3 hk h8 hb hN4 he;refine ⟨cs',Vf fj.2.1 fj.2.2 (fj.1.2.2.2 false) rfl ?_,he'⟩;have e3:(bw (dI dn))[k]?=some [I n]:=by grind [bw,dI]
 have e7:(0≤(k:Int))=True:=eq_true (by omega);have e8:((k:Int) < ((dI dn).length:Int))=True:=eq_true (by grind [dI]);have hl:=fun (h:ac) (d:Nat) h0 h1 h2 h3 h4 hf=>PL (bd.1.2.1 false) rfl (IA hR (h:=h) (d:=d) h0 h1 h2 h3 h4 hf);have p1:=iP vl.2 vl.1;have p2:=iP vh.2 vh.1;have p3:=ace i2.ok i1.ok (p:=p);simp only [bh,dX] at hl ⊢;simp only [ag,ak,av,az] at p1 p2 p3;simp only [oZ,wE,av,az,go_sem,apB,apA,apC,apD,apE,Nat.zero_add];rw [X5 (cs:=[.osl 1 (bw (dI dn)),.osl 7 (aY cs),I p]) rfl rfl];simp only [go_sem,apB,apA,apC,apD,apE,e3,e7,e8,xu,Int.toNat_natCast,Nat.zero_add,l8,su,p1,p2,p3];rw [hl _ _ rfl rfl rfl rfl rfl rfl];rfl
theorem aac {n:Nat} (hn:n≤400):R F.bits_Mul64 [W 1,W n] []=some (.tup [W 0,W n],[]):=by
 refine aA OD rfl ?_;have a1:cO .and (W 1) (W 4294967295)=some (W 1):=rfl;have a2:cO .and (W n) (W 4294967295)=some (W n):=by
  rw [yA rfl (by omega),Nat.mod_eq_of_lt (by omega)]
 have s1:cO .shr (W 1) (W 32)=some (W 0):=rfl;have s2:cO .shr (W n) (W 32)=some (W 0):=(mN (i:=(n:Int)) (j:=32) (k:=32) rfl rfl (by decide)).trans (by grind);have s3:cO .shr (W 0) (W 32)=some (W 0):=rfl;have a3:cO .and (W 0) (W 4294967295)=some (W 0):=rfl;have w1:IntKind.u64.wrap (1*(n:Int))=n:=cK (by omega) (by omega);have w2:IntKind.u64.wrap (0*(n:Int))=0:=by rw [Int.zero_mul]; rfl
 have w3:IntKind.u64.wrap ((0:Int)+0)=0:=rfl;have w4:IntKind.u64.wrap ((1:Int)*0)=0:=rfl;have w5:IntKind.u64.wrap ((0:Int)*0)=0:=rfl;simp only [wu,Dr,go_sem,apB,apA,apC,apD,apE,a1,a2,a3,s1,s2,s3,w1,w2,w3,w4,w5]
theorem acz {n:Nat} (hn:n≤400):R F.bits_Mul [W 1,W n] []=some (.tup [W 0,W n],[]):=by
 refine aA UH rfl ?_;have h:=aac hn;simp only [zY,HL,go_sem,apB,apA,apC,apD,apE,h]
theorem aad {X Z:List AV} {N:Nat} (hN:N≤400) (c:List Bool):∀ (k m:Nat),N - m≤k→1≤m→m≤N→∀ (s:af) (h:ac) (Y:Option (Ex × St)),am 0 [7] (aD (aj R (aH false) bN) [7,8] [30] s h)=Y →
  s 7=.rsl 30 none 7 0 N→s 8=I m→h 30=.ar 7 (List.replicate m X++List.replicate (N - m) Z) →
  ∃ hh,Y=some (.normal,⟨upd (fun _=>.any) 7 (.rsl 30 none 7 0 N),hh⟩)∧hh 30=.ar 7 (List.replicate N X):=by
 intro k;induction k with
 | zero =>
  intro m hk h1 hm s h Y hY g7 g8 k30;subst hY;have e:m=N:=by omega
  subst e;have e1:((m:Int) < m)=False:=eq_false (by omega);rw [Nat.sub_self,List.replicate_zero,List.append_nil] at k30;rw [ai];refine ⟨?hh0,?_,?_⟩;rotate_left
  ·simp only [bN,go_sem,apB,apA,apC,apD,apE,g7,g8,k30,e1];rfl
  ·rfl
 | succ k ih =>
  intro m hk h1 hm s h Y hY g7 g8 k30;by_cases hq:m=N
  ·exact ih m (by omega) h1 hm s h Y hY g7 g8 k30
  subst hY;have e1:((m:Int) < N)=True:=eq_true (by omega);have e2:gh 7 (.rsl 30 none 7 0 N) (some (I (m:Int))) none none=some (.rsl 30 none 7 m (N - m)):=by grind [gh,nO,lB]
  have e3:gh 7 (.rsl 30 none 7 0 N) none (some (I (m:Int))) none=some (.rsl 30 none 7 0 m):=by grind [gh,nO,lB]
  obtain ⟨q,hq2⟩:∃ q,min (N - m) m=q:=⟨_,rfl⟩;have hq3:min m (N - m)=q:=by omega
  have ih':=ih (m+q) (by omega) (by omega) (by omega);have hl:(List.replicate m X++List.replicate (N - m) Z).length=N:=by grind
  have t1:List.take q (List.replicate m X++List.replicate (N - m) Z)=List.replicate q X:=by
   grind
  have t2:List.take m (List.replicate m X++List.replicate (N - m) Z)=List.replicate m X:=by
   grind
  have t3:List.drop (m+q) (List.replicate m X++List.replicate (N - m) Z)=List.replicate (N - (m+q)) Z:=by
   rw [List.drop_append,List.drop_eq_nil_of_le (by simp),List.length_replicate,List.nil_append,List.drop_replicate];grind
  have t4:List.replicate m X++List.replicate q X=List.replicate (m+q) X:=List.replicate_append_replicate;have e4:(0+q≤N)=True:=eq_true (by omega);have e5:(m≤N)=True:=eq_true hm;have w1:IntKind.i64.wrap ((m:Int)+(q:Int))=((m+q:Nat):Int):=wi (by omega) (by omega);rw [ai];simp only [bN,go_sem,apB,apA,apC,apD,apE,g7,g8,k30,e1,e2,e3,hq2,hq3,hl,t1,t2,t3,t4,e4,e5,List.length_replicate,w1];exact ih' _ _ _ rfl rfl rfl rfl
theorem X9 {x:Ri} {n:Nat} (h1:1≤n) (hn:n≤400):R F.slices_Repeat_api_Interval_api_Interval_ [.sl 7 [az x],I n] []=some (.osl 7 (aY (List.replicate n x)),[]):=by
 refine aA lV rfl ?_;have hm:=acz hn;have w1:IntKind.u64.wrap 1=1:=by decide
 have w2:((0+1:Nat):Int)=1:=rfl;have w3:IntKind.u64.wrap (n:Int)=n:=cK rfl (by omega);have w4:IntKind.i64.wrap (n:Int)=n:=wi rfl (by omega);have e1:((0:Int) < 0)=False:=ff (by decide);have e2:((n:Int) < 0)=False:=eq_false (by omega);have e3:(9223372036854775807 < (n:Int))=False:=eq_false (by omega);have z1:pD (.v (.int .i64 (n:Int))) (.v (.int .i64 (n:Int)))=some (n,n):=by
  simp only [pD];grind
 have z2:(n*88≤140737488355328)=True:=eq_true (by omega);have tk:∀ A:List AV,List.take n [A]=[A]:=fun A=>List.take_of_length_le (by omega);have hmin:min 1 n=1:=Nat.min_eq_left h1;have dr:List.drop 1 (List.replicate n [B false,.emp,I 0,B false,.emp,I 0,B false])=List.replicate (n - 1) [B false,.emp,I 0,B false,.emp,I 0,B false]:=List.drop_replicate;have hl:=aad (X:=az x) (Z:=[B false,.emp,I 0,B false,.emp,I 0,B false]) hn [] n 1 (by omega) (Nat.le_refl _) h1;simp only [cZ,fR,az,go_sem,apB,apA,apC,apD,apE,List.length_cons,List.length_nil,w1,w2,w3,w4,hm,e1,e2,e3,z1,z2,tk,hmin,dr,Nat.zero_le,List.length_replicate,true_and,Int.natCast_one];generalize hX:am 0 _ _=X;obtain ⟨hh,rfl,q⟩:=hl _ _ _ hX rfl rfl rfl;simp only [go_sem,apB,apA,apC,apD,apE,q,List.length_replicate,Nat.zero_add,Nat.le_refl,if_true,Option.bind_some,Option.map_some];grind [aY,List.map_replicate]
theorem PM {l:List Nat} {i:Nat} (h:i < l.length):(dI l)[i]?=some ((l.getD i 0:Nat):Int):=by
 grind [dI]
theorem aen {l:List Nat} {i:Nat} (h:i < l.length):(bw (dI l))[i]?=some [I (l.getD i 0:Nat)]:=by
 grind [bw,PM]
theorem Bg (l:List Nat):(dI l).length=l.length:=by simp [dI]
def Mx (dn dn' es:List Nat) (i:Nat):Prop:=dn'.length=dn.length∧(∀ d ∈ dn',d≤32)∧(∀ j,dn.getD j 0≤dn'.getD j 0)∧∀ j,i≤j→es.getD j 0≤dn'.getD j 0
theorem acA {v:Nat} {p:Int} (h8:v≤8) {es:List Nat} (hes:es.length=v) (he32:∀ e ∈ es,e≤32) {o2 o8:Ob} (c2:∀ l,aO l o2=true) (c8:∀ l,aO l o8=true) {A:List Rt} {nA iA:Int} :
  ∀ (k i:Nat),i+k=v→∀ dn:List Nat,dn.length=v→(∀ d ∈ dn,d≤32)→∀ (s:af) (h:ac) (X:Option (Ex × St)),am 2 [2,6,26,27,28] (aD (aj R (aH false) iU) [2,6,26,27,28,33,34,35] [2,8,21,24,2624] s h)=X→s 2=.ref 2 none 0 0 0→s 6=.ref 24 none 0 0 0→s 26=.sl 4 (cU A)→s 27=I nA→s 28=I iA→s 33=.sl 1 (bw (dI es))→s 34=I v→s 35=I i→h 2=o2→h 8=o8→h 21=.dead→h 24=.bx [.osl 1 (bw (dI dn)),.emp,I p]→h 2624=.dead →
  ∃ hh dn',X=some (.normal,⟨upd (upd (upd (upd (upd (fun _=>.any) 28 (I iA)) 27 (I nA)) 26 (.sl 4 (cU A))) 6 (.ref 24 none 0 0 0)) 2 (.ref 2 none 0 0 0),hh⟩)∧hh 2=o2∧hh 24=.bx [.osl 1 (bw (dI dn')),.emp,I p]∧hh 21=.dead∧hh 2624=.dead∧Mx dn dn' es i:=by
 intro k;induction k with
 | zero =>
  intro i hi dn hd hb s h X hX g2 g6 g26 g27 g28 g33 g34 g35 k2 k8 k21 k24 k2624;subst hX;have e1:((i:Int) < (v:Int))=False:=ff (by omega);have hc:=c2 [2,8,21,24,2624];have hc8:=c8 [2,8,21,24,2624];rw [ai];refine ⟨?hh0,dn,?_,?_,?_,?_,?_,rfl,hb,fun _=>Nat.le_refl _,fun j hj=>?_⟩;rotate_left
  ·simp only [iU,go_sem,apB,apA,apC,apD,apE,g2,g6,g26,g27,g28,g33,g34,g35,k2,k8,k21,k24,k2624,hc,hc8,e1];rfl
  ·rfl
  ·rfl
  ·rfl
  ·rfl
  grind
 | succ k ih =>
  intro i hi dn hd hb s h X hX g2 g6 g26 g27 g28 g33 g34 g35 k2 k8 k21 k24 k2624;subst hX;have hlt:i < v:=by omega
  have e1:((i:Int) < (v:Int))=True:=tt (by omega);have e2:=aen (l:=dn) (i:=i) (by omega);have e3:aV (bw (dI es)) (i:Int)=some (.ipt [I (es.getD i 0:Nat)]):=lX rfl (PM (by omega));have e5:IntKind.i64.wrap ((i:Int)+1)=((i+1:Nat):Int):=wi (by omega) (by omega);have e6:(0≤(i:Int))=True:=tt (by omega);have e7:((i:Int) < ((dI dn).length:Int))=True:=eq_true (by grind [Bg]);have hc:=c2 [2,8,21,24,2624];have hc8:=c8 [2,8,21,24,2624];obtain ⟨m,hm⟩:∃ m,max (dn.getD i 0) (es.getD i 0)=m:=⟨_,rfl⟩;have em:(if ((dn.getD i 0:Nat):Int) < ((es.getD i 0:Nat):Int) then ((es.getD i 0:Nat):Int) else ((dn.getD i 0:Nat):Int))=(m:Int):=by
   omega
  have e4:nQ 1 1 i 0 [I (m:Int)] 1 (bw (dI dn))=some (bw (dI (dn.set i m))):=by
   simp_all [nQ,if_pos,setRow,bw,dI,List.map_set]
  have hms:∀ d ∈ dn.set i m,d≤32:=fun d hd2=>by
   rcases List.mem_or_eq_of_mem_set hd2 with h | h
   ·exact hb d h
   ·subst h;have h1:dn.getD i 0≤32:=by
     rw [List.getD_eq_getElem?_getD,List.getElem?_eq_getElem (by omega)];exact hb _ (List.getElem_mem _)
    have h2:es.getD i 0≤32:=by
     rw [List.getD_eq_getElem?_getD,List.getElem?_eq_getElem (by omega)];exact he32 _ (List.getElem_mem _)
    omega
  have ih':=ih (i+1) (by omega) (dn.set i m) (by rw [List.length_set]; exact hd) hms;rw [ai];generalize aD _ _ _=L at ih' ⊢;simp only [iU,go_sem,apB,apA,apC,apD,apE,g2,g6,g26,g27,g28,g33,g34,g35,k2,k8,k21,k24,k2624,hc,hc8,e1,e2,e3,e5,e6,e7,Int.toNat_natCast,Nat.zero_add,l8,su,aco,em,e4];generalize hX:am 2 _ _=X;obtain ⟨hh,dn',q1,q2,q3,q4,q5,m1,m2,m3,m4⟩:=ih' _ _ _ hX rfl rfl rfl rfl rfl rfl rfl rfl rfl rfl rfl rfl rfl;refine ⟨hh,dn',q1,q2,q3,q4,q5,by rw [m1,List.length_set],m2,fun j=>?_,fun j hj=>?_⟩
  all_goals grind
def Nt (v:Nat) (t:Rt) (es:List Nat):Prop:=t.exps=dI es∧es.length=v∧∀ e ∈ es,e≤32
theorem acB {v:Nat} {p:Int} (h8:v≤8) {A:List Rt} {E:List (List Nat)} (hA:A.length=E.length) (h5:A.length≤500) (hn:∀ (i:Nat) (t:Rt) (es:List Nat),A[i]?=some t→E[i]?=some es→Nt v t es) {o2:Ob} (c2:∀ l,aO l o2=true) :
  ∀ (k i:Nat),i+k=A.length→∀ dn:List Nat,dn.length=v→(∀ d ∈ dn,d≤32)→∀ (s:af) (h:ac) (X:Option (Ex × St)),am 0 [2,6] (aD (aj R (aH false) ll) [2,6,26,27,28] [2,21,24,2624] s h)=X→s 2=.ref 2 none 0 0 0→s 6=.ref 24 none 0 0 0→s 26=.sl 4 (cU A)→s 27=I A.length→s 28=I i→h 2=o2→h 21=.dead→h 24=.bx [.osl 1 (bw (dI dn)),.emp,I p]→h 2624=.dead →
  ∃ hh dn',X=some (.normal,⟨upd (upd (fun _=>.any) 6 (.ref 24 none 0 0 0)) 2 (.ref 2 none 0 0 0),hh⟩)∧hh 2=o2∧hh 24=.bx [.osl 1 (bw (dI dn')),.emp,I p]∧hh 21=.dead∧hh 2624=.dead∧dn'.length=v∧(∀ d ∈ dn',d≤32)∧(∀ j,dn.getD j 0≤dn'.getD j 0)∧∀ (a:Nat) (es:List Nat),i≤a→E[a]?=some es→∀ j,es.getD j 0≤dn'.getD j 0:=by
 intro k;induction k with
 | zero =>
  intro i hi dn hd hb s h X hX g2 g6 g26 g27 g28 k2 k21 k24 k2624;subst hX;have e1:((i:Int) < (A.length:Int))=False:=ff (by omega);have hc:=c2 [2,21,24,2624];rw [ai];refine ⟨?hh0,dn,?_,?_,?_,?_,?_,hd,hb,fun _=>Nat.le_refl _,fun a es ha he=>?_⟩;rotate_left
  ·simp only [ll,go_sem,apB,apA,apC,apD,apE,g2,g6,g26,g27,g28,k2,k21,k24,k2624,hc,e1];rfl
  ·rfl
  ·rfl
  ·rfl
  ·rfl
  grind
 | succ k ih =>
  intro i hi dn hd hb s h X hX g2 g6 g26 g27 g28 k2 k21 k24 k2624;subst hX;have e1:((i:Int) < (A.length:Int))=True:=tt (by omega);obtain ⟨t,ht⟩:∃ t,A[i]?=some t:=⟨_,List.getElem?_eq_getElem (by omega)⟩;obtain ⟨es,hes⟩:∃ es,E[i]?=some es:=⟨_,List.getElem?_eq_getElem (by omega)⟩;obtain ⟨n1,n2,n3⟩:=hn i t es ht hes;have e2:aV (cU A) (i:Int)=some (.ipt (eU t)):=qk rfl ht;have e5:IntKind.i64.wrap ((i:Int)+1)=((i+1:Nat):Int):=wi (by omega) (by omega);have hc:=c2 [2,21,24,2624];have hg:=acA (p:=p) h8 n2 n3 c2 (o8:=.bx [.sl 1 (bw (dI es)),B t.c.neg,lm t.c.m,I t.c.e]) (fun _=>rfl) (A:=A) (nA:=A.length) (iA:=i) v 0 (Nat.zero_add _) dn hd hb;have e3:(bw (dI es)).length=v:=by rw [xu,Bg,n2]
  rw [eU,n1] at e2;have ih':=ih (i+1) (by omega);rw [ai];simp only [ll,go_sem,apB,apA,apC,apD,apE,g2,g6,g26,g27,g28,k2,k21,k24,k2624,hc,e1,e2,e3];generalize hX:am 2 _ _=X;obtain ⟨hh,dn',rfl,q2,q24,q21,q2624,m1,m2,m3,m4⟩:=hg _ _ _ hX rfl rfl rfl rfl rfl rfl rfl rfl rfl rfl rfl rfl rfl;simp only [go_sem,apB,apA,apC,apD,apE,e5];generalize hX:am 0 _ _=X;obtain ⟨hh2,dn2,r1,r2,r3,r4,r5,u1,u2,u3,u4⟩:=ih' dn' (by omega) m2 _ _ _ hX rfl rfl rfl rfl rfl q2 q21 q24 q2624;grind
theorem LS:∀ (l:List Nat) (d n:Nat),bg (l++[d]) n=bg l n*(d+1)
 | [],_,_=>rfl
 | a::l,d,n=>LS l d (n*(a+1))
theorem Ya {dn:List Nat} {i:Nat} (h:i < dn.length):bg (dn.take (i+1)) 1=bg (dn.take i) 1*(dn.getD i 0+1):=by
 grind [List.take_add_one,LS]
theorem aae {dn es:List Nat} {i s:Nat} (h:i < dn.length) (h2:i < es.length):l7 (dn.drop i) (es.drop i) s=es.getD i 0*s+l7 (dn.drop (i+1)) (es.drop (i+1)) (s*(dn.getD i 0+1)):=by
 rw [List.drop_eq_getElem_cons h,List.drop_eq_getElem_cons h2,List.getD_eq_getElem?_getD,List.getD_eq_getElem?_getD,List.getElem?_eq_getElem h,List.getElem?_eq_getElem h2];rfl
theorem acC {dn es:List Nat} {cs:List Ri} {p:Int} {v:Nat} (h8:v≤8) (hd:dn.length=v) (hb:∀ d ∈ dn,d≤32) (hN4:bg dn 1≤400) (hes:es.length=v) (he32:∀ e ∈ es,e≤32) {o2 o15:Ob} (c2:∀ l,aO l o2=true) (c15:∀ l,aO l o15=true) {A:List Rt} {nA iA:Int} :
  ∀ (k i:Nat),i+k=v→∀ (at_:Nat),at_+l7 (dn.drop i) (es.drop i) (bg (dn.take i) 1)≤400→∀ (s:af) (h:ac) (X:Option (Ex × St)),am 8 [6,15,16,82,83,84] (aD (aj R (aH false) gB) [6,15,16,82,83,84,89,90,91] [2,15,21,24,2624] s h)=X→s 6=.ref 24 none 0 0 0→s 15=.ref 15 none 0 0 0→s 16=I at_→s 82=.sl 4 (cU A)→s 83=I nA→s 84=I iA→s 89=.sl 1 (bw (dI es))→s 90=I v→s 91=I i→h 2=o2→h 15=o15→h 21=.dead→h 24=bh (dI dn) cs p→h 2624=.dead →
  ∃ hh,X=some (.normal,⟨upd (upd (upd (upd (upd (upd (fun _=>.any) 84 (I iA)) 83 (I nA)) 82 (.sl 4 (cU A))) 16 (I (at_+l7 (dn.drop i) (es.drop i) (bg (dn.take i) 1):Nat))) 15 (.ref 15 none 0 0 0)) 6 (.ref 24 none 0 0 0),hh⟩)∧hh 2=o2∧hh 15=o15∧hh 24=bh (dI dn) cs p∧(∀ a,a ≠ 2→a ≠ 15→a ≠ 24→hh a=.dead):=by
 intro k;induction k with
 | zero =>
  intro i hi at_ hat s h X hX g6 g15 g16 g82 g83 g84 g89 g90 g91 k2 k15 k21 k24 k2624;subst hX;have e1:((i:Int) < (v:Int))=False:=ff (by omega);have hc:=c2 [2,15,21,24,2624];have hc15:=c15 [2,15,21,24,2624];have hg:=(bB (dI dn) cs p).cl [2,15,21,24,2624];rw [List.drop_eq_nil_of_le (show dn.length≤i by omega)];have hp0:∀ s,l7 [] (es.drop i) s=0:=fun s=>by grind [l7]
  rw [hp0,Nat.add_zero,ai];refine ⟨?hh0,?_,?_,?_,?_,?_⟩;rotate_left
  ·simp only [gB,go_sem,apB,apA,apC,apD,apE,g6,g15,g16,g82,g83,g84,g89,g90,g91,k2,k15,k21,k24,k2624,hc,hc15,hg,e1];rfl
  all_goals simp_all [ed,if_false,ite_self]
 | succ k ih =>
  intro i hi at_ hat s h X hX g6 g15 g16 g82 g83 g84 g89 g90 g91 k2 k15 k21 k24 k2624;subst hX;have e1:((i:Int) < (v:Int))=True:=tt (by omega);have e3:aV (bw (dI es)) (i:Int)=some (.ipt [I (es.getD i 0:Nat)]):=lX rfl (PM (by omega));have e5:IntKind.i64.wrap ((i:Int)+1)=((i+1:Nat):Int):=wi (by omega) (by omega);have hbI:∀ d ∈ dI dn,0≤d∧d≤32:=fun d hd=>by
   obtain ⟨x,hx,rfl⟩:=List.mem_map.1 hd;grind
  have hst:=fun (h:ac) (d:Nat) (hh:h 24=bh (dI dn) cs p) (hd:h (2000+8*d)=.dead)=>pA (iY false) rfl (D4 (m:=i) (by grind [Bg]) (by omega) hbI (d:=d) hh hd);rw [show (dI dn).take i=dI (dn.take i) from (List.map_take ..).symm,show (1:Int)=((1:Nat):Int) from rfl,E6] at hst;rw [aae (by omega) (by omega),← Ya (by omega),← Nat.add_assoc] at hat ⊢;have ih':=ih (i+1) (by omega) (at_+es.getD i 0*bg (dn.take i) 1) hat;generalize bg (dn.take i) 1=st at *
  generalize es.getD i 0=e at *
  have w1:IntKind.i64.wrap ((e:Int)*(st:Int))=((e*st:Nat):Int):=wi (Int.natCast_mul ..).symm (by omega);have w2:IntKind.i64.wrap ((at_:Int)+((e*st:Nat):Int))=((at_+e*st:Nat):Int):=wi (by omega) (by omega);have hc:=c2 [2,15,21,24,2624];have hc15:=c15 [2,15,21,24,2624];have hg:=(bB (dI dn) cs p).cl [2,15,21,24,2624];rw [ai];simp only [gB,go_sem,apB,apA,apC,apD,apE,g6,g15,g16,g82,g83,g84,g89,g90,g91,k2,k15,k21,k24,k2624,hc,hc15,hg,e1,e3];rw [hst _ _ rfl rfl];simp only [go_sem,apB,apA,apC,apD,apE,w1,w2,e5];exact ih' _ _ _ rfl rfl rfl rfl rfl rfl rfl rfl rfl rfl rfl rfl rfl rfl rfl
def gT (dn:List Nat):List Rt→List (List Nat)→G→G
 | t::l,es::r,g=>gT dn l r (gs g (l7 dn es 1) (qv t.c))
 | _,_,g=>g
theorem acD {dn:List Nat} {p:Int} {v:Nat} (h8:v≤8) (hd:dn.length=v) (hb:∀ d ∈ dn,d≤32) (hN4:bg dn 1≤400) {A:List Rt} {E:List (List Nat)} (hA:A.length=E.length) (h5:A.length≤500) (hn:∀ (i:Nat) (t:Rt) (es:List Nat),A[i]?=some t→E[i]?=some es→Nt v t es∧l7 dn es 1 < bg dn 1∧vd t.c=true∧Ok0 t.c) {o2:Ob} (c2:∀ l,aO l o2=true) :
  ∀ (k i:Nat),i+k=A.length→∀ (cs:List Ri) (g:G),gw (bg dn 1) cs g→∀ (s:af) (h:ac) (X:Option (Ex × St)),am 6 [6] (aD (aj R (aH false) iT) [6,82,83,84] [2,21,24,2624] s h)=X→s 6=.ref 24 none 0 0 0→s 82=.sl 4 (cU A)→s 83=I A.length→s 84=I i→h 2=o2→h 21=.dead→h 24=bh (dI dn) cs p→h 2624=.dead →
  ∃ hh cs',X=some (.normal,⟨upd (fun _=>.any) 6 (.ref 24 none 0 0 0),hh⟩)∧hh 24=bh (dI dn) cs' p∧gw (bg dn 1) cs' (gT dn (A.drop i) (E.drop i) g):=by
 intro k;induction k with
 | zero =>
  intro i hi cs g he s h X hX g6 g82 g83 g84 k2 k21 k24 k2624;subst hX;have e1:((i:Int) < (A.length:Int))=False:=ff (by omega);have hc:=c2 [2,21,24,2624];have hg:=(bB (dI dn) cs p).cl [2,21,24,2624];rw [List.drop_eq_nil_of_le (show A.length≤i by omega),ai];refine ⟨?hh0,cs,?_,?_,he⟩;rotate_left
  ·simp only [iT,go_sem,apB,apA,apC,apD,apE,g6,g82,g83,g84,k2,k21,k24,k2624,hc,hg,e1];rfl
  ·rfl
 | succ k ih =>
  intro i hi cs g he s h X hX g6 g82 g83 g84 k2 k21 k24 k2624;subst hX;have hlt:i < A.length:=by omega
  have e1:((i:Int) < (A.length:Int))=True:=tt (by omega);obtain ⟨t,ht⟩:∃ t,A[i]?=some t:=⟨_,List.getElem?_eq_getElem hlt⟩;obtain ⟨es,hes⟩:∃ es,E[i]?=some es:=⟨_,List.getElem?_eq_getElem (by omega)⟩;obtain ⟨⟨n1,n2,n3⟩,n4,n5,n6⟩:=hn i t es ht hes;have hgT:gT dn (A.drop i) (E.drop i) g=gT dn (A.drop (i+1)) (E.drop (i+1)) (gs g (l7 dn es 1) (qv t.c)):=by
   have h1:A[i]=t:=Option.some.inj (by rw [← ht,List.getElem?_eq_getElem hlt]);have h2:E[i]'(by omega)=es:=Option.some.inj (by rw [← hes,List.getElem?_eq_getElem (by omega)]);rw [List.drop_eq_getElem_cons hlt,List.drop_eq_getElem_cons (by omega:i < E.length),h1,h2];rfl
  have e2:aV (cU A) (i:Int)=some (.ipt (eU t)):=qk rfl ht;have e5:IntKind.i64.wrap ((i:Int)+1)=((i+1:Nat):Int):=wi (by omega) (by omega);have e3:(bw (dI es)).length=v:=by rw [xu,Bg,n2]
  rw [eU,n1] at e2;have h0:=acC (cs:=cs) (p:=p) h8 hd hb hN4 n2 n3 c2 (o15:=.bx [.sl 1 (bw (dI es)),B t.c.neg,lm t.c.m,I t.c.e]) (fun _=>rfl) (A:=A) (nA:=A.length) (iA:=i) v 0 (Nat.zero_add _) 0 (by
   show 0+l7 dn es 1≤400;omega)
  have hp0:0+l7 (dn.drop 0) (es.drop 0) (bg (dn.take 0) 1)=l7 dn es 1:=Nat.zero_add _;rw [hp0] at h0;have hpt:=iP n6 n5;have ih':=ih (i+1) (by omega) _ _ (he.set (k:=l7 dn es 1) (rx n5 n6));rw [hgT];generalize l7 dn es 1=P at *
  have i1:(0≤(P:Int))=True:=eq_true (by omega);have i2:((P:Int) < (cs.length:Int))=True:=eq_true (by rw [he.1]; omega);have sr1:nQ 7 7 P 0 (az ⟨t.c,t.c,false⟩) 7 (aY cs)=some (aY (cs.set P ⟨t.c,t.c,false⟩)):=Be (by grind);have hc:=c2 [2,21,24,2624];have hg:=(bB (dI dn) cs p).cl [2,21,24,2624];simp only [ag,ak,av,az] at hpt;simp only [az] at sr1;rw [ai];simp only [iT,go_sem,apB,apA,apC,apD,apE,g6,g82,g83,g84,k2,k21,k24,k2624,hc,hg,e1,e2,e3];generalize hX:am 8 _ _=X;obtain ⟨hh,rfl,q2,q15,q24,qd⟩:=h0 _ _ _ hX rfl rfl rfl rfl rfl rfl rfl rfl rfl rfl rfl rfl rfl rfl;have b1:=qd 2888 (by decide) (by decide) (by decide);have b2:=qd 2624 (by decide) (by decide) (by decide);have b3:=qd 21 (by decide) (by decide) (by decide);simp only [bh] at q24;simp only [go_sem,apB,apA,apC,apD,apE,q15,q24,b1,hpt,i1,i2,Int.toNat_natCast,Nat.zero_add,Bd,sr1,e5];exact ih' _ _ _ rfl rfl rfl rfl rfl q2 b3 rfl b2
theorem Yb:∀ (dn es:List Nat),dn.length=es.length→(∀ j,es.getD j 0≤dn.getD j 0)→Iu dn es
 | [],[],_,_=>trivial
 | d::dn,e::es,h,hj=>⟨hj 0,Yb dn es (by grind) fun j=>hj (j+1)⟩
 | [],_::_,h,_=>by grind
 | _::_,[],h,_=>by grind
theorem G2:∀ (dn:List Nat) (xs:List Rat),xs.length=dn.length→∀ n,tW (kY dn xs) n=bg dn n
 | [],[],_,_=>rfl
 | d::dn,x::xs,h,n=>G2 dn xs (by grind) (n*(d+1))
 | [],_::_,h,_=>by grind
 | _::_,[],h,_=>by grind
theorem Te:∀ (dn:List Nat) (n:Nat),n≤400→xg (dI dn) (n:Int)=none∨xg (dI dn) (n:Int)=some ((bg dn n:Nat):Int)∧bg dn n≤400
 | [],n,h=>Or.inr ⟨rfl,h⟩
 | d::dn,n,h=>by
  have e:xg (dI (d::dn)) (n:Int)=if 400 < (n:Int)*(Int.ofNat d+1) then none else xg (dI dn) ((n:Int)*(Int.ofNat d+1)):=rfl
  have e2:(n:Int)*(Int.ofNat d+1)=((n*(d+1):Nat):Int):=by rfl
  rw [e,e2];split
  ·exact Or.inl rfl
  ·exact Te dn (n*(d+1)) (by omega)
def GP (v:Nat) (A:List Rt) (E:List (List Nat)) (p:Int) (r:AV × List Ob):Prop:=r=(.tup [.v (.pointer none),B false],[])∨∃ dn cs,r=(.tup [.obx [.osl 1 (bw (dI dn)),.osl 7 (aY cs),I p],B true],[])∧dn.length=v∧(∀ d ∈ dn,d≤32)∧(∀ es ∈ E,Iu dn es)∧bg dn 1≤400∧gw (bg dn 1) cs (gT dn A E fun _=>0)
theorem Yc {v:Nat} {p:Int} (h8:v≤8) {A:List Rt} {E:List (List Nat)} (hA:A.length=E.length) (h5:A.length≤500) (hn:∀ (i:Nat) (t:Rt) (es:List Nat),A[i]?=some t→E[i]?=some es→Nt v t es∧vd t.c=true∧Ok0 t.c) :
  ∃ r,R F.bound_gridOf [.agg [I v,.sl 4 (cU A)],I p] []=some r∧GP v A E p r:=by
 have z1:pD (.v (.int .i64 (v:Int))) (.v (.int .i64 (v:Int)))=some (v,v):=by
  simp only [pD];grind
 have z2:(v*8≤140737488355328)=True:=eq_true (by omega);have zr:List.replicate v [I 0]=bw (dI (List.replicate v 0)):=by grind [bw,dI,List.map_replicate]
 have hl:(bw (dI (List.replicate v 0))).length=v:=by grind
 have h4:=acB (p:=p) h8 hA h5 (fun i t es h1 h2=>(hn i t es h1 h2).1) (o2:=.bx [I v,.sl 4 (cU A)]) (fun _=>rfl) A.length 0 (Nat.zero_add _) (List.replicate v 0) (by simp) (fun d hd=>by grind);have hrl:=SA A;refine E5 (r:=fun a=>a) uL.2.1 uL.2.2 (uL.1.2.2.2 false) rfl (Nat.le_of_ble_eq_true rfl) ?_;have hh0:ao []=fun _=>.dead:=by funext i; simp [ao]
 simp only [sN,Ax,hh0,go_sem,apB,apA,apC,apD,apE,List.length_nil,z1,z2,zr];rw [aej (k:=1) (rows:=bw (dI (List.replicate v 0))) rfl hl.symm rfl (by decide)];simp only [go_sem,apB,apA,apC,apD,apE];generalize hX:am 0 _ _=X;obtain ⟨hh,dn,rfl,q2,q24,q21,q2624,d1,d2,d3,d4⟩:=h4 _ _ _ hX rfl rfl rfl rfl rfl rfl rfl rfl rfl;have hdl:(dI dn).length=v:=by rw [Bg,d1]
 have hbI:∀ d ∈ dI dn,0≤d∧d≤32:=fun d hd=>by
  obtain ⟨x,hx,rfl⟩:=List.mem_map.1 hd;grind
 simp only [go_sem,apB,apA,apC,apD,apE,q2,q24,q21,q2624,hdl,xu];generalize hX:am 4 _ _=X;have hM:=agx (ds:=dI dn) (p:=p) hdl.symm (by omega) hbI (o2:=.bx [I v,.sl 4 (cU A)]) (fun _=>rfl) _ _ _ hX rfl rfl rfl rfl rfl rfl q2 q21 q24 q2624;rcases Te dn 1 (by decide) with hm | ⟨hm,h4⟩
 ·rw [show (1:Int)=((1:Nat):Int) from rfl,hm] at hM;obtain ⟨hh2,rfl⟩:=hM;refine ⟨_,?_,Or.inl rfl⟩;simp only [go_sem,apB,apA,apC,apD,apE]
 rw [show (1:Int)=((1:Nat):Int) from rfl,hm] at hM;obtain ⟨hh,rfl,q2,q24,qd⟩:=hM;have hle:∀ es ∈ E,Iu dn es:=fun es he=>by
  obtain ⟨i,hi⟩:=List.getElem?_of_mem he;have hiE:=(List.getElem?_eq_some_iff.1 hi).1;have:=(hn i _ es (List.getElem?_eq_getElem (by omega)) hi).1.2.1;exact Yb dn es (by omega) (d4 i es (Nat.zero_le _) hi)
 have hpt:=iP bj.2 bj.1;have hrp:=X9 (x:=Ik) (jQ dn 1 (by decide)) h4;have h1:=acD (p:=p) h8 d1 d2 h4 hA h5 (fun i t es h1 h2=>by
  obtain ⟨a,b,c⟩:=hn i t es h1 h2;refine ⟨a,?_,b,c⟩;have hL:=hle es (List.mem_of_getElem? h2);have:=XR dn es (List.replicate dn.length 0) hL (by simp) 1 0 (by decide)
  simp_all [G2,Nat.zero_add]) (o2:=.bx [I v,.sl 4 (cU A)]) (fun _=>rfl) A.length 0 (Nat.zero_add _) (List.replicate (bg dn 1) Ik) (fun _=>0) ⟨by simp,fun k x hx=>by
   rw [List.getElem?_replicate] at hx;split at hx
   ·cases hx;rw [← B6];exact rx bj.1 bj.2
   grind⟩
 generalize List.replicate (bg dn 1) Ik=cs0 at hrp h1;have b1:=qd 2600 (by decide) (by decide);have b2:=qd 76 (by decide) (by decide);have b3:=qd 2624 (by decide) (by decide);have b4:=qd 21 (by decide) (by decide);simp only [ag,ak,av,az,aK,Ik] at hpt hrp;simp only [az,go_sem,apB,apA,apC,apD,apE,q24,b1,b2,b3,hpt,hrp];rw [Vg (h:=upd (upd (upd hh 76 _) 76 _) 2624 (.ar 7 (aY cs0))) (id:=24) (p:=1) (id2:=2624) (k:=7) (n:=cs0.length) rfl (xp _).symm q24 (by decide) (by grind)];simp only [go_sem,apB,apA,apC,apD,apE,aei,Bool.false_eq_true,q2,hrl];generalize hX:am 6 _ _=X;obtain ⟨hh2,cs2,rfl,r24,he2⟩:=h1 _ _ _ hX rfl rfl rfl rfl q2 b4 rfl rfl;refine ⟨_,?_,Or.inr ⟨dn,cs2,rfl,d1,d2,hle,h4,he2⟩⟩;simp only [bh] at r24;simp only [go_sem,apB,apA,apC,apD,apE,r24];rw [if_pos (by rfl)];have e:oN hh2 (.ref 24 none 0 0 0)=some (.obx [.osl 1 (bw (dI dn)),.osl 7 (aY cs2),I p]):=by
  have hp:aQ 24=false:=rfl;simp [oN,jZ,Tx,r24,hp];exact ⟨rfl,rfl,rfl⟩
 rw [e];rfl
def l9:List Nat→List Rat→List (Nat × LF)
 | d::ds,t::ts=>(d,fun v=>dc t v d 0)::l9 ds ts
 | _,_=>[]
theorem Yd:∀ (ds:List Nat) (ts:List Rat),It (l9 ds ts)
 | d::ds,t::ts=>fun p hp=>by
  rcases List.mem_cons.1 hp with rfl | hp
  ·simp_all [Is]
  ·exact Yd ds ts p hp
 | [],_=>fun _ h=>by grind [l9]
 | _::_,[]=>fun _ h=>by grind [l9]
theorem Kt:∀ (dn:List Nat) (ts:List Rat),ts.length=dn.length→∀ n,tW (l9 dn ts) n=bg dn n
 | [],[],_,_=>rfl
 | d::dn,x::xs,h,n=>Kt dn xs (by grind) (n*(d+1))
 | [],_::_,h,_=>by grind
 | _::_,[],h,_=>by grind
theorem PN:∀ (dn:List Nat) (ts:List Rat),ts.length=dn.length→∀ d t,l9 (dn++[d]) (ts++[t])=l9 dn ts++[(d,fun v=>dc t v d 0)]
 | [],[],_,_,_=>rfl
 | d::dn,x::xs,h,d',t'=>by
  show _::l9 (dn++[d']) (xs++[t'])=_::(l9 dn xs++_);rw [PN dn xs (by simpa using h)]
 | [],_::_,h,_,_=>by grind
 | _::_,[],h,_,_=>by grind
theorem PO:∀ (a b:List Nat) (n:Nat),bg (a++b) n=bg b (bg a n)
 | [],_,_=>rfl
 | d::a,b,n=>PO a b (n*(d+1))
theorem aaf {dn1 dn2:List Nat} {n N:Nat} {xs2 ts1:List Rat} (h1:ts1.length=dn1.length) (h2:xs2.length=dn2.length) (hN:N=bg (dn1++n::dn2) 1) {x t lo w:Rat} (hx:x=lo+w*t) (g:G) :
  fI (l9 dn1 ts1++(n,fun v=>pl x v 0 (n+1))::kY dn2 xs2) 1 0 g =
   fI (l9 dn1 ts1++(n,fun v=>dc t v n 0)::kY dn2 xs2) 1 0 (ps (fun f=>Io n (fun j=>f+j*bg dn1 1)) (bg dn1 1) n N 0 (ps (fun f=>Im lo w n (fun j=>f+j*bg dn1 1)) (bg dn1 1) n N 0 g)):=by
 have hs:=jQ dn1 1 (by decide);have ht1:=Kt dn1 ts1 h1 1;have ht2:=G2 dn2 xs2 h2;rw [PO] at hN;have hN:N=bg dn2 (bg dn1 1*(n+1)):=hN;generalize bg dn1 1=s at *
 have hi:∀ f a b:Nat,f+a*s=f+b*s↔a=b:=fun f a b=>⟨fun h=>Nat.eq_of_mul_eq_mul_right (by omega) (Nat.add_left_cancel h),fun h=>by rw [h]⟩;have c1:lg (n+1) fun v=>pl x v 0 (n+1):=DW _ _ (by simp);have c2:lg (n+1) fun v=>pl t v 0 (n+1):=DW _ _ (by simp);have c3:lg (n+1) fun v=>dc t v n 0:=Is _ _ (by simp);have key:∀ (L L':LF) (op:Nat→G→G) (g:G),lg (n+1) L→lg (n+1) L'→(∀ f g,(∀ a,(∀ m,m≤n→a ≠ f+m*s)→op f g a=g a)∧L (fun m=>g (f+m*s))=L' (fun m=>op f g (f+m*s))) →
   fI (l9 dn1 ts1++(n,L)::kY dn2 xs2) 1 0 g=fI (l9 dn1 ts1++(n,L')::kY dn2 xs2) 1 0 (ps op s n N 0 g):=fun L L' op g hL hL' hop=>by
  refine PC hL hL' (EZ dn2 xs2) (l9 dn1 ts1) (Yd dn1 ts1) 1 0 (by decide) fun i0 q hi0 hq=>?_;rw [ht1] at hi0 hq ⊢;refine (agv (by omega) hL hL' hop N 0 g).2 _ (Nat.zero_le _) ?_ ?_
  ·grind
  ·have e:i0+q*(s*(n+1))=i0+q*(n+1)*s:=by grind
   rw [e,Nat.add_mul_div_right _ _ (by omega),Nat.div_eq_of_lt hi0,Nat.zero_add,Nat.mul_mod_left]
 rw [key _ _ (fun f=>Im lo w n (fun j=>f+j*s)) g c1 c2 fun f g=>ad9 hx (hi f) n g];exact key _ _ (fun f=>Io n (fun j=>f+j*s)) _ c2 c3 fun f g=>aea (hi f) n g
theorem Ye {dn:List Nat} {xs:List Rat} (hx:xs.length=dn.length):∀ (A:List Rt) (E:List (List Nat)) (g:G),A.length=E.length→(∀ es ∈ E,Iu dn es)→E.Nodup→(∀ es ∈ E,g (l7 dn es 1)=0)→(∀ (i:Nat) (t:Rt) (es:List Nat),A[i]?=some t→E[i]?=some es→t.exps=dI es) →
  fI (kY dn xs) 1 0 (gT dn A E g)=fI (kY dn xs) 1 0 g+fv xs A
 | [],[],g,_,_,_,_,_=>by
  show _=_+0;rw [Rat.add_zero];rfl
 | t::A,es::E,g,hA,hle,hnd,h0,hE=>by
  obtain ⟨hn1,hn2⟩:=List.nodup_cons.1 hnd;have hes:=hE 0 t es rfl rfl;have hxn:zF t.exps=es:=by
   rw [hes];unfold zF dI;rw [List.map_map];exact (List.map_congr_left (g:=fun c=>c) fun x _=>by simp).trans (List.map_id' _)
  show fI (kY dn xs) 1 0 (gT dn A E (gs g (l7 dn es 1) (qv t.c)))=_;rw [Ye hx A E _ (by grind) (fun e he=>hle e (by grind)) hn2 (fun e he=>by
   unfold gs;rw [if_neg fun hq=>?_]
   ·grind
   ·have:=(S2 dn e es (hle e (by grind)) (hle es (by simp)) 1 0 0 (by decide) (by decide) (by omega)).2;grind) fun i u e h1 h2=>hE (i+1) u e h1 h2]
  rw [aeb (EZ dn xs),h0 es (by simp)];have hm:=S1 dn es xs (hle es (by simp)) hx 1 0 0 (by decide) (by decide);grind [qv,F4,zF,fv]
 | [],_::_,_,h,_,_,_,_=>by grind
 | _::_,[],_,h,_,_,_,_=>by grind
theorem aag {ls:List (Nat × LF)} (ok:It ls) (s i:Nat):fI ls s i (fun _=>0)=0:=by
 have:=Kr (a:=0) (c:=0) (g:=fun _=>0) (h:=fun _=>0) ls ok s i;grind
theorem aeo {lo hi:Rat} {g:G} {dn:List Nat} {ts:List Rat} (hl:ts.length=dn.length) (ht:∀ t ∈ ts,0≤t∧t≤1) (h:∀ k,k < bg dn 1→lo≤g k∧g k≤hi):lo≤fI (l9 dn ts) 1 0 g∧fI (l9 dn ts) 1 0 g≤hi:=by
 refine S0 (l9 dn ts) ?_ 1 0 fun q hq=>?_
 ·have:∀ (dn:List Nat) (ts:List Rat),(∀ t ∈ ts,0≤t∧t≤1)→∀ p ∈ l9 dn ts,∀ v:G,(∀ j,j≤p.1→lo≤v j∧v j≤hi)→lo≤p.2 v∧p.2 v≤hi:=by
   intro dn;induction dn with
   | nil=>grind [l9]
   | cons d dn ih =>
    intro ts ht p hp v hv;cases ts with
    | nil=>grind [l9]
    | cons t ts =>
     rcases List.mem_cons.1 hp with rfl | hp
     all_goals grind [PB]
  exact this dn ts ht
 grind [Kt]
theorem PP {l:List Int} (h:∀ e ∈ l,0≤e):l=dI (zF l):=by
 grind [dI,zF,List.map_map,List.map_congr_left,Int.toNat_of_nonneg,List.map_id']
def D5 (l:List Rt):List (List Nat):=l.map fun t=>zF t.exps
theorem aah {v:Int} {l:List Rt} (c:Cl v l):(D5 l).Nodup:=by
 have h1:l.Pairwise fun a b=>a.exps ≠ b.exps:=c.s.imp fun h=>(LO h).symm;unfold D5;rw [List.nodup_iff_pairwise_ne,List.pairwise_map];refine List.Pairwise.imp_of_mem (fun {a b} ha hb h he=>h ?_) h1;rw [PP fun e hx=>((c.t a ha).b e hx).1,PP fun e hx=>((c.t b hb).b e hx).1,he]
theorem aaW {v:Nat} {l:List Rt} (c:Cl v l) (i:Nat) (t:Rt) (es:List Nat) (h1:l[i]?=some t) (h2:(D5 l)[i]?=some es):Nt v t es∧vd t.c=true∧Ok0 t.c:=by
 have hm:=c.t t (List.mem_of_getElem? h1);unfold D5 at h2;rw [List.getElem?_map,h1] at h2;have h2:zF t.exps=es:=Option.some.inj h2;subst h2;refine ⟨⟨PP fun e hx=>(hm.b e hx).1,?_,fun e he=>?_⟩,hm.vc,hm.c⟩
 ·have:=hm.len;grind [zF,List.length_map]
 ·obtain ⟨z,hz,rfl⟩:=List.mem_map.1 he;have:=hm.b z hz;omega
def qo (o:Option Rd):Rat:=qv (o.getD aK)
theorem Ku {x:Rat}:∀ (l:List Rt) (o0 o1:Option Rd),(∀ t ∈ l,t.exps=[0]∧o0=none∨t.exps=[1]∧o1=none)→l.Pairwise (fun a b=>a.exps ≠ b.exps)→∃ p0 p1,uS l [o0,o1]=[p0,p1]∧qo p0+qo p1*x=qo o0+qo o1*x+fv [x] l
 | [],o0,o1,_,_=>⟨o0,o1,rfl,by show _=_+0; grind⟩
 | t::l,o0,o1,h,hp=>by
  obtain ⟨p1,p2⟩:=List.pairwise_cons.1 hp;have q0:qo none=0:=B6;unfold uS;rcases h t (by simp) with ⟨he,rfl⟩ | ⟨he,rfl⟩
  ·have hs:[none,o1].set (qL 1 t.exps 0+1).toNat (some t.c)=[some t.c,o1]:=by rw [he]; rfl
   rw [hs];obtain ⟨a,b,e1,e2⟩:=Ku (x:=x) l (some t.c) o1 (fun u hu=>by
    grind) p2
   refine ⟨a,b,e1,?_⟩;rw [e2];show qv t.c+_+_=_+(qv t.c*F4 [x] (zF t.exps)+fv [x] l);rw [he,q0];show _=_+(qv t.c*(x ^ 0*1)+_);grind
  ·have hs:[o0,none].set (qL 1 t.exps 0+1).toNat (some t.c)=[o0,some t.c]:=by rw [he]; rfl
   rw [hs];obtain ⟨a,b,e1,e2⟩:=Ku (x:=x) l o0 (some t.c) (fun u hu=>by
    grind) p2
   refine ⟨a,b,e1,?_⟩;rw [e2];show _+qv t.c*x+_=_+(qv t.c*F4 [x] (zF t.exps)+fv [x] l);rw [he,q0];show _=_+(qv t.c*(x ^ 1*1)+_);grind
theorem Yf {a:Rp} (oa:OkP a) (hl:zD a=true) (h1:a.vars=1) (x:Rat):∃ c m,B0 a=[c,m]∧fv [x] a.terms=qv c+qv m*x:=by
 obtain ⟨hv,hd⟩:=ab2 hl;obtain ⟨cl,_⟩:=Ve oa hv;obtain ⟨p0,p1,e1,e2⟩:=Ku (x:=x) a.terms none none (fun t ht=>by
  obtain ⟨s1,s2,s3,s4,s5⟩:=EP hv ht;obtain ⟨e,he⟩:=ab3 (s2.trans h1);have h3:=s1.2 e (by grind);grind [bY]) (cl.s.imp fun h=>(LO h).symm)
 refine ⟨p0.getD aK,p1.getD aK,?_,?_⟩
 ·simp_all [B0,SG,uS]
 grind [qo,B6,p0]
theorem aai {c m:Rd} {b:Ri} {x:Rat} {p:Int} (vc:vd c=true∧Ok0 c) (vm:vd m=true∧Ok0 m) (hp:bK p=true) (hb:In x b) (hk:kI b=true):In (qv c+qv m*x) (B1 c m b p):=by
 rcases hb.k with ⟨rfl,h1⟩ | ⟨_,x1,x2⟩
 ·grind
 have hq:∀ {y:Rd},(jO m y).2=0→qv (jO m y).1=qv m*qv y:=fun {y} h=>by
  have h1:=ab1 h;have h2:=(Iq (z:=zI m*zI y) (r:=zI (jO m y).1) 16384).1 (Int.le_of_eq h1.symm);have h3:=(Iq (z:=zI m*zI y) (r:=zI (jO m y).1) 16384).2 (Int.le_of_eq h1);unfold qv EQ;grind
 unfold B1 Vc;split
 ·next h =>
  have v1:=ES m (LG m b);have v2:=ES m (LH m b);have ok:∀ {a b:Rd} {up:Bool},vd (cT a b p up).1=true∧Ok0 (cT a b p up).1:=fun {a b up}=>by
   grind [cT,tD,bj]
  have hm:qv m*qv (LG m b)≤qv m*x∧qv m*x≤qv m*qv (LH m b):=by
   unfold LG LH;by_cases hs:bS m < 0
   ·have h0:=(B8 vm.1).2.1 hs;have a:=Rat.mul_le_mul_of_nonneg_left x1 (show 0≤-qv m by grind);have b:=Rat.mul_le_mul_of_nonneg_left x2 (show 0≤-qv m by grind);grind
   ·have h0:0≤qv m:=Rat.not_lt.1 fun h=>hs ((B8 vm.1).2.2 h);grind [Rat.mul_le_mul_of_nonneg_left]
  refine M0 ok ok (fun h=>?_) (fun h=>?_)
  all_goals grind [PA]
 ·exact Or.inl rfl
def qx:List Ri→List Rat→List Rat→Prop
 | b::dom,x::xs,t::ts=>x=qv b.lo+(qv b.hi - qv b.lo)*t∧0≤t∧t≤1∧qx dom xs ts
 | [],[],[]=>True
 | _,_,_=>False
theorem qx.len:∀ {dom:List Ri} {xs ts:List Rat},qx dom xs ts→xs.length=dom.length∧ts.length=dom.length
 | _::_,_::_,_::_,h=>by
  obtain ⟨a,b⟩:=qx.len h.2.2.2;grind
 | [],[],[],_=>⟨rfl,rfl⟩
 | [],_::_,_,h=>h.elim
 | [],[],_::_,h=>h.elim
 | _::_,[],_,h=>h.elim
 | _::_,_::_,[],h=>h.elim
theorem qx.get:∀ {dom:List Ri} {xs ts:List Rat},qx dom xs ts→∀ {i:Nat} {b:Ri},dom[i]?=some b→∃ x t,xs[i]?=some x∧ts[i]?=some t∧x=qv b.lo+(qv b.hi - qv b.lo)*t
 | b::_,x::_,t::_,h,0,b',hb=>by
  have:b=b':=by grind
  subst this;exact ⟨x,t,rfl,rfl,h.1⟩
 | _::_,_::_,_::_,h,i+1,b,hb=>qx.get h.2.2.2 (i:=i) (by grind)
 | [],_,_,_,_,_,hb=>by grind
 | _::_,[],_,h,_,_,_=>h.elim
 | _::_,_::_,[],h,_,_,_=>h.elim
theorem qx.t01:∀ {dom:List Ri} {xs ts:List Rat},qx dom xs ts→∀ t ∈ ts,0≤t∧t≤1
 | _::_,_::_,_::_,h,t,ht=>by
  rcases List.mem_cons.1 ht with rfl | ht
  ·exact ⟨h.2.1,h.2.2.1⟩
  ·exact qx.t01 h.2.2.2 t ht
 | [],[],[],_,t,ht=>by grind
 | [],_::_,_,h,_,_=>h.elim
 | [],[],_::_,h,_,_=>h.elim
 | _::_,[],_,h,_,_=>h.elim
 | _::_,_::_,[],h,_,_=>h.elim
theorem aaj {dn:List Nat} {i n:Nat} (h:dn[i]?=some n):dn.take i++n::dn.drop (i+1)=dn∧dn.drop i=n::dn.drop (i+1)∧dn.take (i+1)=dn.take i++[n]:=by
 grind [List.take_append_drop,List.take_add_one]
theorem acE {dom:List Ri} {dn:List Nat} {p:Int} {v:Nat} (h8:v≤8) (hd:dn.length=v) (hdl:dom.length=v) (hb:∀ d ∈ dn,d≤32) (hN4:bg dn 1≤400) (od:∀ b ∈ dom,VI b) {c6:List AV} (hc6:aO [6,2368] (.bx c6)=true) :
  ∀ (k i:Nat),i+k=v→∀ (cs:List Ri) (g:G),gw (bg dn 1) cs g→∀ (s:af) (h:ac) (X:Option (Ex × St)),am 0 [6,9] (aD (aj R (aH false) ja) [1,6,9,56,57] [6,2368] s h)=X→s 1=.sl 7 (aY dom)→s 6=.ref 6 none 0 0 0→s 9=.ref 2368 none 0 0 0→s 56=I v→s 57=I i→h 6=.bx c6→h 2368=bh (dI dn) cs p →
  ∃ hh cs' g',X=some (.normal,⟨upd (upd (fun _=>.any) 9 (.ref 2368 none 0 0 0)) 6 (.ref 6 none 0 0 0),hh⟩)∧hh 6=.bx c6∧hh 2368=bh (dI dn) cs' p∧(∀ a,a ≠ 6→a ≠ 2368→hh a=.dead)∧gw (bg dn 1) cs' g' ∧
   ∀ xs ts:List Rat,qx dom xs ts→fI (l9 (dn.take i) (ts.take i)++kY (dn.drop i) (xs.drop i)) 1 0 g=fI (l9 dn ts) 1 0 g':=by
 intro k;induction k with
 | zero =>
  intro i hi cs g he s h X hX g1 g6 g9 g56 g57 k6 k2368;subst hX;have e1:((i:Int) < (v:Int))=False:=ff (by omega);have hg:=(bB (dI dn) cs p).cl [6,2368];rw [ai];refine ⟨?hh0,cs,g,?_,?_,?_,?_,he,fun xs ts hp=>?_⟩;rotate_left
  ·simp only [ja,go_sem,apB,apA,apC,apD,apE,g1,g6,g9,g56,g57,k6,k2368,hc6,hg,e1];rfl
  ·rfl
  ·rfl
  ·simp_all [ed,if_false]
  ·obtain ⟨l1,l2⟩:=hp.len;rw [List.take_of_length_le (by omega),List.take_of_length_le (by omega),List.drop_eq_nil_of_le (by omega)];show fI (l9 dn ts++[]) 1 0 g=_;grind
 | succ k ih =>
  intro i hi cs g he s h X hX g1 g6 g9 g56 g57 k6 k2368;subst hX;have hlt:i < v:=by omega
  have e1:((i:Int) < (v:Int))=True:=tt (by omega);obtain ⟨b,hb0⟩:∃ b,dom[i]?=some b:=⟨_,List.getElem?_eq_getElem (by omega)⟩;obtain ⟨n,hn⟩:∃ n,dn[i]?=some n:=⟨_,List.getElem?_eq_getElem (by omega)⟩;have e2:aV (aY dom) (i:Int)=some (.ipt (az b)):=A6 rfl hb0;have e5:IntKind.i64.wrap ((i:Int)+1)=((i+1:Nat):Int):=wi (by omega) (by omega);have vb:=od b (List.mem_of_getElem? hb0);have hg:=(bB (dI dn) cs p).cl [6,2368];obtain ⟨cs1,hR1,he1⟩:=acy (p:=p) vb.1 vb.2 hn (by omega) hb hN4 he;obtain ⟨cs2,hR2,he2⟩:=acx (p:=p) hn (by omega) hb hN4 he1;have hu:=fun (h:ac) (d:Nat) (hh:h 2368=bh (dI dn) cs p) (hd:h (2000+8*d)=.dead)=>pA (fj.1.2.1 false) (by rfl) (PG (fj.1.2.1 false) (fj.1.2.2.2 false) (zas:=[I i,av b]) (as':=[I i,av b]) (by rw [fj.1.1]; simp only [av,az,go_sem]) rfl rfl hh (bB _ _ _) (bB _ _ _) (fun _=>rfl) hR1 aeh (d:=d) (by decide) rfl);have hbn:=fun (h:ac) (d:Nat) (hh:h 2368=bh (dI dn) cs1 p) (hd:h (2000+8*d)=.dead)=>pA (cW.1.2.1 false) (by rfl) (PG (cW.1.2.1 false) (cW.1.2.2.2 false) (zas:=[I i]) (as':=[I i]) (by rw [cW.1.1]; rfl) rfl rfl hh (bB _ _ _) (bB _ _ _) (fun _=>rfl) hR2 aeh (d:=d) (by decide) rfl);have ih':=ih (i+1) (by omega) _ _ he2;rw [ai];generalize aD _ _ _=L at ih' ⊢;simp only [av,az] at e2 hu;simp only [ja,go_sem,apB,apA,apC,apD,apE,g1,g6,g9,g56,g57,k6,k2368,hc6,hg,e1,e2];rw [hu _ _ rfl rfl];simp only [go_sem,apB,apA,apC,apD,apE];rw [hbn _ _ rfl rfl];simp only [go_sem,apB,apA,apC,apD,apE,e5];generalize hX:am 0 _ _=X;obtain ⟨hh,cs',g',q1,q2,q3,q4,q5,q6⟩:=ih' _ _ _ hX rfl rfl rfl rfl rfl rfl rfl;refine ⟨hh,cs',g',q1,q2,q3,q4,q5,fun xs ts hp=>?_⟩;obtain ⟨l1,l2⟩:=hp.len;obtain ⟨x,t,hx,ht,hxt⟩:=hp.get hb0;rw [← q6 xs ts hp];obtain ⟨d1,d2,d3⟩:=aaj hn;have hxd:xs.drop i=x::xs.drop (i+1):=by
   grind [List.drop_eq_getElem_cons]
  have htd:ts.take (i+1)=ts.take i++[t]:=by
   grind [List.take_add_one]
  rw [d2,d3,hxd,htd,PN _ _ (by grind),List.append_assoc];exact aaf (by grind) (by grind) (by rw [d1]) hxt g
theorem acF {ds:List Int} {p:Int} {N:Nat} (hN:N≤400) {cs:List Ri} {g:G} (he:gw N cs g) {c6:List AV} (hc6:aO [6,12,2368] (.bx c6)=true):∀ (k i:Nat),i+k=N→∀ out:Ri,OkI out→(∀ j,j < i→In (g j) out)→(∃ q,In q out)→∀ (s:af) (h:ac) (X:Option (Ex × St)),am 2 [6,12] (aD (aj R (aH false) i9) [6,12,80,81,82] [6,12,2368] s h)=X →
  s 6=.ref 6 none 0 0 0→s 12=.ref 12 none 0 0 0→s 80=.rsl 2368 (some 1) 7 0 N→s 81=I N→s 82=I i→h 6=.bx c6→h 12=dX out→h 2368=bh ds cs p →
  ∃ hh out',X=some (.normal,⟨upd (upd (fun _=>.any) 12 (.ref 12 none 0 0 0)) 6 (.ref 6 none 0 0 0),hh⟩)∧hh 6=.bx c6∧hh 12=dX out'∧OkI out'∧(∀ j,j < N→In (g j) out'):=by
 intro k;induction k with
 | zero =>
  intro i hi out oo ho hq s h X hX g6 g12 g80 g81 g82 k6 k12 k2368;subst hX;have e1:((i:Int) < (N:Int))=False:=ff (by omega);have hg:=(bB ds cs p).cl [6,12,2368];have hoc:=(eu out).cl [6,12,2368];rw [ai];refine ⟨?hh0,out,?_,?_,?_,oo,fun j hj=>ho j (by omega)⟩;rotate_left
  ·simp only [i9,go_sem,apB,apA,apC,apD,apE,g6,g12,g80,g81,g82,k6,k12,k2368,hc6,hg,hoc,e1];rfl
  ·rfl
  ·rfl
 | succ k ih =>
  intro i hi out oo ho hq s h X hX g6 g12 g80 g81 g82 k6 k12 k2368;subst hX;have e1:((i:Int) < (N:Int))=True:=tt (by omega);have e5:IntKind.i64.wrap ((i:Int)+1)=((i+1:Nat):Int):=wi (by omega) (by omega);obtain ⟨x,x1,x2⟩:=he.get (k:=i) (by omega);have q1:(aY cs)[i]?=some (az x):=by grind [aY]
  have i1:(0≤(i:Int))=True:=eq_true (by omega);have hg:=(bB ds cs p).cl [6,12,2368];have hoc:=(eu out).cl [6,12,2368];have ch:=Z4 oo x2.ok;have ih':=ih (i+1) (by omega) (EX out x) (by
   obtain ⟨q,hq⟩:=hq;exact (B7 hq x2).1.ok) (fun j hj=>by
   obtain ⟨q,hq⟩:=hq;by_cases hji:j=i
   ·subst hji;exact (B7 hq x2).2
   ·exact (B7 (ho j (by omega)) x2).1) ⟨_,(B7 hq.choose_spec x2).1⟩
  rw [ai];simp only [av,az] at ch;simp only [az] at q1;simp only [bh] at k2368 hg;simp only [dX] at k12 hoc;simp only [i9,go_sem,apB,apA,apC,apD,apE,g6,g12,g80,g81,g82,k6,k12,k2368,hc6,hg,hoc,e1,i1,sv,xv,Int.toNat_natCast,Nat.zero_add,q1,ch,e5];exact ih' _ _ _ rfl rfl rfl rfl rfl rfl rfl rfl rfl
def BrG (a:Rp) (dom:List Ri) (p:Int) (b:Ri):Prop:=(∀ xs ts:List Rat,qx dom xs ts→In (fv xs a.terms) b)∧((jh a dom && bK p)=false→b=cB)
theorem qx.inL:∀ {dom:List Ri} {xs ts:List Rat},(∀ b ∈ dom,kI b=true∧VI b)→qx dom xs ts→XW xs dom
 | b::_,x::_,t::_,hk,h=>by
  obtain ⟨h1,h2,h3,h4⟩:=h;obtain ⟨k1,k2⟩:=hk b (by simp);refine ⟨Or.inr ⟨?_,k2,?_⟩,qx.inL (fun b hb=>hk b (by grind)) h4⟩
  ·unfold kI at k1;grind
  ·have hle:qv b.lo≤qv b.hi:=by
    rw [qn];unfold kI vi at k1;grind
   have a:=Rat.mul_nonneg (show 0≤qv b.hi - qv b.lo by grind) h2;have b:=Rat.mul_nonneg (show 0≤qv b.hi - qv b.lo by grind) (show 0≤1 - t by grind);grind
 | [],[],[],_,_=>trivial
 | [],_::_,_,_,h=>h.elim
 | [],[],_::_,_,h=>h.elim
 | _::_,[],_,_,h=>h.elim
 | _::_,_::_,[],_,h=>h.elim
theorem Yg {a:Rp} {dom:List Ri} (od:∀ x ∈ dom,OkI x) (hd:jh a dom=true):vp a=true∧(dom.length:Int)=a.vars∧∀ b ∈ dom,kI b=true∧VI b:=by
 unfold jh at hd;simp only [Bool.and_eq_true,decide_eq_true_eq,Bool.not_eq_true',List.any_eq_false] at hd;refine ⟨hd.1,hd.2.1,fun b hb=>?_⟩;have h1:kI b=true:=by
  grind
 have h2:=h1;unfold kI vi at h2;cases ha:b.all with
 | true=>grind
 | false =>
  rw [ha] at h2;simp at h2;have:=od b hb;exact ⟨h1,⟨h2.1,this.lo⟩,⟨h2.2.1,this.hi⟩⟩
theorem PQ {a:Rp} {dom:List Ri} (oa:OkP a) (od:∀ x ∈ dom,OkI x) (h2:dom.length≤100000) {p:Int}:∃ b,R F.bound_Bernstein [bH a,.sl 7 (aY dom),I p] []=some (av b,[])∧BrG a dom p b:=by
 have hf:=EM oa od h2 (p:=p);have hw:=BX;cases hq:(jh a dom && bK p) with
 | false =>
  rw [hq] at hf;refine ⟨cB,?_,fun _ _ _=>Or.inl rfl,fun _=>rfl⟩;refine aA gD rfl ?_;simp only [bH,av,az,cB,aK] at hf hw;simp only [eC,gA,bH,av,az,cB,aK,go_sem,apB,apA,apC,apD,apE,hf,hw]
 | true =>
  rw [hq] at hf;have hdp:=hq;rw [Bool.and_eq_true] at hdp;obtain ⟨hd,hp⟩:=hdp;obtain ⟨hv,hl,hk⟩:=Yg od hd;obtain ⟨cl,v0,v8,h5⟩:=Ve oa hv;have nf:(jh a dom && bK p)=false→∀ b:Ri,b=cB:=fun h=>by grind
  by_cases hlin:zD a=true∧a.vars=1
  ·obtain ⟨x,rfl⟩:∃ x,dom=[x]:=List.length_eq_one_iff.1 (by omega);obtain ⟨c,m,e1,_⟩:=Yf oa hlin.1 hlin.2 0;have hx:=hk x (by simp);obtain ⟨k1,_⟩:=SL oa hv;rw [e1] at k1;refine ⟨B1 c m x p,ZQ oa od (by omega) hlin.1 hlin.2 e1 rfl,fun xs ts hpt=>?_,fun h=>nf h _⟩;obtain ⟨l1,l2⟩:=hpt.len;obtain ⟨y,rfl⟩:∃ y,xs=[y]:=List.length_eq_one_iff.1 l1;have hin:=qx.inL (fun b hb=>hk b hb) hpt;obtain ⟨c',m',e3,e2⟩:=Yf oa hlin.1 hlin.2 y;rw [e1] at e3;injection e3 with g1 g2
   injection g2 with g2
   subst g1;subst g2;rw [e2];exact aai (k1 c (by simp)) (k1 m (by simp)) hp hin.1 hx.1
  ·obtain ⟨v,hvv⟩:=Int.eq_ofNat_of_zero_le v0;have hL:=LE oa;obtain ⟨r,hg,hgp⟩:=Yc (v:=v) (p:=p) (by omega) (A:=a.terms) (E:=D5 a.terms) (by simp [D5]) h5 (fun i t es h1 h2=>aaW (hvv ▸ cl) i t es h1 h2);have hcc:∃ L b,Pn a=.tup [wL L,B b]∧(b=true→¬a.vars=1):=by
    grind [Pn,absurd]
   obtain ⟨L,bl,e1,e2⟩:=hcc;rw [e1] at hL;have hVI:∀ b ∈ dom,VI b:=fun b hb=>(hk b hb).2;rcases hgp with rfl | ⟨dn,cs,rfl,d1,d2,d3,d4,he⟩
   ·refine ⟨cB,?_,fun _ _ _=>Or.inl rfl,fun _=>rfl⟩;refine aA gD rfl ?_;rw [← hvv] at hg;simp only [bH,av,az,cB,aK,wL] at hf hw hL;cases bl with
    | true =>
     have e3:(a.vars=1)=False:=eq_false (e2 rfl);simp only [eC,gA,bH,av,az,cB,aK,go_sem,apB,apA,apC,apD,apE,hf,hw,hL,e3,hg]
    | false =>
     simp only [eC,gA,bH,av,az,cB,aK,go_sem,apB,apA,apC,apD,apE,hf,hw,hL,hg]
   ·have hdl:dom.length=v:=by omega
    have hbg:=acE (p:=p) (c6:=[B false,.emp,I 0,B false,.emp,I 0,B false]) (by omega) d1 hdl d2 d4 hVI rfl v 0 (Nat.zero_add _) cs _ he;rw [← hvv] at hg;have hval:∀ xs:List Rat,xs.length=dn.length→fI (kY dn xs) 1 0 (gT dn a.terms (D5 a.terms) fun _=>0)=fv xs a.terms:=fun xs hx=>by
     rw [Ye hx a.terms (D5 a.terms) (fun _=>0) (by simp [D5]) d3 (aah cl) (fun _ _=>rfl) fun i t es h1 h2=>(aaW (hvv ▸ cl) i t es h1 h2).1.1,aag (EZ dn xs),Rat.zero_add]
    have hfin:∀ (b:Ri) (g':G),(∀ xs ts:List Rat,qx dom xs ts→fI (l9 (dn.take 0) (ts.take 0)++kY (dn.drop 0) (xs.drop 0)) 1 0 (gT dn a.terms (D5 a.terms) fun _=>0)=fI (l9 dn ts) 1 0 g')→(∀ j,j < bg dn 1→In (g' j) b)→BrG a dom p b:=fun b g' h1 h2=>by
     refine ⟨fun xs ts hpt=>?_,fun h=>nf h _⟩;obtain ⟨l1,l2⟩:=hpt.len;have h3:=h1 xs ts hpt;have h4:fI (kY dn xs) 1 0 (gT dn a.terms (D5 a.terms) fun _=>0)=fI (l9 dn ts) 1 0 g':=h3;rw [hval xs (by omega)] at h4;rw [h4];rcases (h2 0 (jQ dn 1 (by decide))).k with ⟨hW,_⟩ | ⟨hkb,_⟩
     ·exact Or.inl hW
     ·have h5:∀ j,j < bg dn 1→qv b.lo≤g' j∧g' j≤qv b.hi:=fun j hj=>by
       rcases (h2 j hj).k with ⟨rfl,hn⟩ | ⟨_,h6⟩
       all_goals grind
      have h6:=aeo (by omega) hpt.t01 h5;refine Or.inr ⟨?_,(h2 0 (jQ dn 1 (by decide))).vi,h6.1,h6.2⟩;grind [kI]
    have hh0:ao []=fun _=>.dead:=by funext i; simp [ao]
    refine E5 (r:=fun b=>(av b,[])) gD.2.1 gD.2.2 (gD.1.2.2.2 false) rfl (Nat.le_of_ble_eq_true rfl) ?_;simp only [bH,av,az,wL] at hf hL;have e3:bl=true→(a.vars=1)=False:=fun h=>eq_false (e2 h);have e4:(0:Int) < (bg dn 1:Nat):=by grind [jQ]
    cases bl
    all_goals
     simp only [eC,gA,bH,av,az,hh0,go_sem,apB,apA,apC,apD,apE,hf,hL,e3,hg,Vp];generalize hX:am 0 _ _=X;obtain ⟨hh,cs',g',rfl,q6,q2368,qd,he',hv'⟩:=hbg _ _ _ hX rfl rfl rfl (by rw [Bg,d1]; rfl) rfl rfl rfl;obtain ⟨x,x1,x2⟩:=he'.get (k:=0) (jQ dn 1 (by decide));have hhl:=acF (ds:=dI dn) (p:=p) d4 he' (c6:=[B false,.emp,I 0,B false,.emp,I 0,B false]) rfl (bg dn 1) 0 (Nat.zero_add _) x x2.ok (fun j hj=>absurd hj (Nat.not_lt_zero j)) ⟨_,x2⟩;have q1:(aY cs')[0]?=some (az x):=by unfold aY; rw [List.getElem?_map,x1]; rfl
     have i2:(0 < (cs'.length:Int))=True:=eq_true (by rw [he'.1]; exact e4);have d12:=qd 12 (by decide) (by decide);have hgo:=(bB (dI dn) cs' p).cl [6,12,2368];simp only [bh] at q2368 hgo;simp only [az] at q1;simp only [go_sem,apB,apA,apC,apD,apE,q6,q2368,d12,i2,Int.le_refl,Int.toNat_zero,sv,xv,q1];generalize hX:am 2 _ _=X;obtain ⟨hh2,out,rfl,r6,r12,oo,hin⟩:=hhl _ _ _ hX rfl rfl (by rw [he'.1]; rfl) (by rw [he'.1]; rfl) rfl q6 rfl q2368;refine ⟨out,?_,hfin out g' hv' hin⟩;simp only [dX] at r12;simp only [go_sem,apB,apA,apC,apD,apE,r6,r12]
theorem PR {k:Int}:R F.r02_exponent [I k] []=some (B (decide (-32768≤k) && decide (k≤32768)),[]):=by
 refine aA JL rfl ?_;by_cases h:-32768≤k
 ·simp only [og,uv,go_sem,apB,apA,apC,apD,apE,h]
 ·simp only [og,uv,go_sem,apB,apA,apC,apD,apE,h]
def Tf (s:Rd):Rd × Int:=eH (dJ (zI s) (-16384 - (1:Nat)))
theorem Tg {s:Rd} (ok:Ok0 s) (v:vd s=true):bA s.neg (aa s.m) (s.e+-1)=dJ (zI s) (-16384 - (1:Nat)):=by
 obtain ⟨_,h1,h2,_⟩:=dT v ok.lb;have:zI s=dz s.neg (mg s):=rfl;rw [this,← EO];unfold mg;rw [tC];congr 1;omega
theorem acG {s:Rd} (ok:Ok0 s) (v:vd s=true):R F.r02_Scale [ag s,I (-1)] []=some (rV (Tf s),[]):=by
 refine aA Ru rfl ?_;obtain ⟨h0,h1,h2,h3⟩:=dT v ok.lb;have hv:=pz ok;rw [v] at hv;have hx:=PR (k:=-1);have ho:=Ii (neg:=s.neg) (m:=s.m) (e:=s.e+-1) ok.lb (by omega) (by omega);rw [Tg ok v] at ho;have hl:Ok0 (dJ (zI s) (-16384 - (1:Nat))):=by
  rw [← Tg ok v];exact ⟨uO _ _ _,Nat.lt_of_le_of_lt (BS (k:=128) (by omega)) (by decide)⟩
 have hc:=FZ hl;rw [Pt] at hc;have ew:IntKind.i64.wrap (s.e+-1)=s.e+-1:=by rw [i64_in] <;> omega
 unfold Tf;generalize dJ (zI s) (-16384 - (1:Nat))=c at ho hc ⊢;generalize eH c=r at hc ⊢;simp only [ag,ak,rV] at hv ho hc;simp only [xQ,FL,rV,ag,ak,go_sem,apB,apA,apC,apD,apE,hv,hx,ho,hc,ew,show decide ((-32768:Int)≤-1)=true from rfl,show decide ((-1:Int)≤32768)=true from rfl]
def tX (a b:Rd):Rd:=if (nX a b).2=0 then (if (Tf (nX a b).1).2=0 then (Tf (nX a b).1).1 else a) else a
theorem Vr {a b:Rd} (oa:Ok0 a) (ob:Ok0 b):R F.l24_between_1 [ag a,ag b] []=some (ag (tX a b),[]):=by
 refine aA HX rfl ?_;have ha:=ab8 oa ob;have hh:=acG (Kj a b).2 (Kj a b).1;unfold tX;generalize Tf (nX a b).1=r at hh ⊢;generalize nX a b=s at ha hh ⊢;simp only [ag,ak,rV] at ha hh;by_cases h1:s.2=0
 ·rw [if_pos h1];by_cases h2:r.2=0
  ·rw [if_pos h2];simp only [jA,n8,ag,ak,go_sem,apB,apA,apC,apD,apE,ha,hh,h1,h2]
  ·rw [if_neg h2];simp only [jA,n8,ag,ak,go_sem,apB,apA,apC,apD,apE,ha,hh,h1,h2]
 ·rw [if_neg h1];simp only [jA,n8,ag,ak,go_sem,apB,apA,apC,apD,apE,ha,h1]
theorem IE {a b:Rd} (va:vd a=true∧Ok0 a):vd (tX a b)=true∧Ok0 (tX a b):=by
 unfold tX;split
 ·split
  ·exact ER
  ·exact va
 ·exact va
theorem Vs {a b:Rd} (h:qv a≤qv b):qv a≤qv (tX a b)∧qv (tX a b)≤qv b:=by
 unfold tX;split
 ·rename_i h1;split
  ·rename_i h2;have e1:=ab0 h1;have e2:=ET (z:=zI (nX a b).1) (j:=1) h2;have e3:zI (Tf (nX a b).1).1*2 ^ 1=zI a+zI b:=by rw [← e1]; exact e2
   rw [qn] at h ⊢;rw [qn];omega
  ·exact ⟨Rat.le_refl,h⟩
 ·exact ⟨Rat.le_refl,h⟩
def yI (x:Ri) (k:Nat):Rd:=match k % 5 with
 | 0=>x.lo
 | 1=>x.hi
 | 2=>tX x.lo x.hi
 | 3=>tX x.lo (tX x.lo x.hi)
 | _=>tX (tX x.lo x.hi) x.hi
theorem Vt {x:Ri} {k:Nat} (h1:vd x.lo=true∧Ok0 x.lo) (h2:vd x.hi=true∧Ok0 x.hi):R F.l24_between [av x,.v (.int .u8 (k:Nat))] []=some (ag (yI x k),[]):=by
 refine aA Mk rfl ?_;have a1:=Vr h1.2 h2.2;have m:=IE (b:=x.hi) h1;have a2:=Vr h1.2 m.2;have a3:=Vr m.2 h2.2;have e1:((k:Int).tmod 5)=((k % 5:Nat):Int):=by rw [Int.tmod_eq_emod_of_nonneg (by omega)]; rfl
 have e2:k % 5 < 5:=Nat.mod_lt _ (by decide);unfold yI;generalize tX x.lo (tX x.lo x.hi)=r2 at a2 ⊢;generalize tX (tX x.lo x.hi) x.hi=r3 at a3 ⊢;generalize tX x.lo x.hi=r1 at a1 a2 a3 ⊢;simp only [ag,ak] at a1 a2 a3;generalize k % 5=j at e1 e2 ⊢;have hj:j=0∨j=1∨j=2∨j=3∨j=4:=by omega
 rcases hj with rfl | rfl | rfl | rfl | rfl <;> simp only [uo,Cm,av,az,ag,ak,go_sem,apB,apA,apC,apD,apE,a1,a2,a3,e1,apI,apF,apH,apG,Int.natCast_zero,Int.natCast_one,Int.cast_ofNat_Int]
def E7 (a:Rp) (dom:List Ri) (p:Int) (b:Ri):Ri:=if (jh a dom && bK p)=true then (if (tK (gZ a dom p) b).2=true then (tK (gZ a dom p) b).1 else cB) else cB
theorem PS {a:Rp} {dom:List Ri} (oa:OkP a) (od:∀ x ∈ dom,OkI x) (h2:dom.length≤100000) {p:Int} {b:Ri} (ob:OkI b) (hb:(jh a dom && bK p)=true→R F.bound_Bernstein [bH a,.sl 7 (aY dom),I p] []=some (av b,[])) :
  R F.bound_Best [bH a,.sl 7 (aY dom),I p] []=some (av (E7 a dom p b),[]):=by
 refine aA Om rfl ?_;have hf:=EM oa od h2 (p:=p);have hw:=BX;have hn:=GO oa od h2 (p:=p);have on:=Xz (a:=a) (dom:=dom) (p:=p);have hm:=GV (x:=gZ a dom p) (y:=b) ⟨on.1.2,on.2.2⟩ ob;unfold E7;generalize gZ a dom p=n at hn hm ⊢;generalize tK n b=q at hm ⊢;obtain ⟨m1,m2⟩:=q;cases hq:(jh a dom && bK p) with
 | false =>
  rw [hq] at hf;simp only [bH,av,az,cB,aK] at hf hw;simp only [m6,sJ,bH,av,az,cB,aK,go_sem,apB,apA,apC,hf,hw]
 | true =>
  rw [hq] at hf
  replace hb:=hb hq
  simp only [bH,av,az,cB,aK] at hf hw hn hb hm;cases m2 with
  | true =>
   simp only [m6,sJ,bH,av,az,go_sem,apB,apA,apC,apD,apE,hf,hw,hn,hb,hm]
  | false =>
   simp only [m6,sJ,bH,av,az,cB,aK,go_sem,apB,apA,apC,apD,apE,hf,hw,hn,hb,hm]
def G3 (x y:Ri):Bool:=if vi x=true∧vi y=true∧x.all=false then (y.all || decide (zI y.lo≤zI x.lo) && decide (zI x.hi≤zI y.hi)) else (vi x && (vi y && y.all))
theorem LT {x y:Ri} (ox:OkI x) (oy:OkI y):R F.interval_Inside [av x,av y] []=some (B (G3 x y),[]):=by
 refine aA Fi rfl ?_;have v1:=se ox;have v2:=se oy;unfold G3;simp only [av,az] at v1 v2;cases h1:vi x with
 | false =>
  rw [h1] at v1;simp only [cQ,dP,av,az,go_sem,apB,apA,apC,apD,apE,v1,Bool.false_and]
 | true =>
  rw [h1] at v1;cases h2:vi y with
  | false =>
   rw [h2] at v2;simp only [cQ,dP,av,az,go_sem,apB,apA,apC,apD,apE,v1,v2,Bool.false_and,Bool.true_and]
  | true =>
   rw [h2] at v2;cases h3:x.all with
   | true =>
    rw [h3] at v1;rw [if_neg (by simp)];cases h4:y.all with
    | true =>
     rw [h4] at v2;simp only [cQ,dP,av,az,go_sem,apB,apA,apC,apD,apE,v1,v2,h3,h4,Bool.true_and]
    | false =>
     rw [h4] at v2;simp only [cQ,dP,av,az,go_sem,apB,apA,apC,apD,apE,v1,v2,h3,h4,Bool.true_and]
   | false =>
    rw [h3] at v1;have hx:vd x.lo=true∧vd x.hi=true:=by
     grind [vi]
    cases h4:y.all with
    | true =>
     rw [h4] at v2;simp only [cQ,dP,av,az,go_sem,apB,apA,apC,apD,apE,v1,v2,h3,h4,Bool.true_or]
    | false =>
     rw [h4] at v2;have hy:vd y.lo=true∧vd y.hi=true:=by
      grind [vi]
     have c1:=qh oy.lo ox.lo;have c2:=qh ox.hi oy.hi;rw [if_pos ⟨hy.1,hx.1⟩] at c1;rw [if_pos ⟨hx.2,hy.2⟩] at c2;have e1:=@EL (zI y.lo) (zI x.lo);have e2:=@EL (zI x.hi) (zI y.hi);generalize bD (zI y.lo) (zI x.lo)=q1 at c1 e1;generalize bD (zI x.hi) (zI y.hi)=q2 at c2 e2;simp only [ag,ak] at c1 c2;by_cases h5:zI y.lo≤zI x.lo
     ·simp only [cQ,dP,av,az,go_sem,apB,apA,apC,apD,apE,v1,v2,h3,h4,c1,c2,e1,e2,h5,Bool.false_or]
     ·simp only [cQ,dP,av,az,go_sem,apB,apA,apC,apD,apE,v1,v2,h3,h4,c1,e1,h5,Bool.false_or]
def D6 (l:List Nat):List (List AV):=l.map fun k=>[.v (.int .u8 (k:Nat))]
@[go_sem] theorem anM (l:List Nat):(D6 l).length=l.length:=by simp [D6]
theorem acH {l:List Nat} {i:Int} {n:Nat} (hi:i=n) (h:n < l.length):aV (D6 l) i=some (.ipt [.v (.int .u8 (l.getD n 0:Nat))]):=by
 subst hi;simp [aV,D6,h]
theorem VI.ok' {x:Ri} (h:VI x):OkI x:=⟨h.1.2,h.2.2⟩
theorem aaX:∀ dom:List Ri,qx dom (dom.map fun b=>qv b.lo) (List.replicate dom.length 0)
 | []=>trivial
 | b::dom=>⟨by grind,by decide,by decide,aaX dom⟩
def IsD (c:List AV) (q:Rd):Prop:=c=[B q.neg,lm q.m,I q.e]∨(c=zb∧q=aK)
theorem IsD.cl {c:List AV} {q:Rd} (h:IsD c q) (l:List Nat):c.all (gy l)=true:=by
 rcases h with rfl | ⟨rfl,_⟩ <;> rfl
theorem M3 {x:Ri} {k:Nat} (h:VI x) (hle:qv x.lo≤qv x.hi):(vd (yI x k)=true∧Ok0 (yI x k))∧qv x.lo≤qv (yI x k)∧qv (yI x k)≤qv x.hi:=by
 have m1:=IE (b:=x.hi) h.1;obtain ⟨q1,q2⟩:=Vs hle;obtain ⟨q3,q4⟩:=Vs q1;obtain ⟨q5,q6⟩:=Vs q2;unfold yI;split
 ·exact ⟨h.1,Rat.le_refl,hle⟩
 ·exact ⟨h.2,hle,Rat.le_refl⟩
 ·exact ⟨m1,q1,q2⟩
 ·exact ⟨IE h.1,q3,Rat.le_trans q4 q2⟩
 ·exact ⟨IE m1,Rat.le_trans q1 q5,q6⟩
theorem M4 {b:Ri} (h:kI b=true):qv b.lo≤qv b.hi:=by
 rw [qn];unfold kI vi at h;cases ha:b.all with
 | true=>rw [ha] at h; simp at h
 | false=>rw [ha] at h; simp at h; exact h.2.2
def rq (w:Bool) (M d:Nat):Nat:=if w=true∧M % 2 ^ d ≠ 0 then M / 2 ^ d+1 else M / 2 ^ d
def dR (M n j:Nat):Nat:=if ae M≤n+j then j else ae M - n
theorem agA (w:Bool) (M d:Nat):(w=true→M≤rq w M d*2 ^ d)∧(w=false→rq w M d*2 ^ d≤M):=by
 have h1:=Nat.div_add_mod M (2 ^ d);have h2:=Nat.mod_lt M (Nat.two_pow_pos d);unfold rq;constructor
 ·rintro rfl
  split
  ·rw [Nat.add_mul,Nat.mul_comm];omega
  ·rename_i h;have:M % 2 ^ d=0:=by grind
   rw [Nat.mul_comm];omega
 ·rintro rfl
  rw [if_neg (by simp),Nat.mul_comm];omega
theorem acI {w:Bool} {M M' d:Nat} (h:M≤M'):rq w M d≤rq w M' d:=by
 have h1:=Nat.div_add_mod M (2 ^ d);have h2:=Nat.mod_lt M (Nat.two_pow_pos d);have h3:=Nat.div_add_mod M' (2 ^ d);have h4:=Nat.mod_lt M' (Nat.two_pow_pos d);have h5:M / 2 ^ d≤M' / 2 ^ d:=Nat.div_le_div_right h;unfold rq;split
 ·rename_i hw;split
  ·omega
  ·rename_i hw';have h6:M' % 2 ^ d=0:=by grind
   rcases Nat.eq_or_lt_of_le h5 with h7 | h7
   ·rw [h7] at h1;omega
   ·omega
 ·split <;> omega
theorem Vu {w:Bool} {M d e:Nat} (h:M < 2 ^ (d+e)):rq w M d≤2 ^ e:=by
 have h1:M / 2 ^ d < 2 ^ e:=by
  rw [Nat.div_lt_iff_lt_mul (Nat.two_pow_pos d),← Nat.pow_add,Nat.add_comm];exact h
 unfold rq;split <;> omega
theorem agB {w:Bool} {M d e:Nat} (h:2 ^ (d+e)≤M):2 ^ e≤rq w M d:=by
 have h1:2 ^ e≤M / 2 ^ d:=by
  rw [Nat.le_div_iff_mul_le (Nat.two_pow_pos d),← Nat.pow_add,Nat.add_comm];exact h
 unfold rq;split <;> omega
theorem RQ {w:Bool} {M M' n j:Nat} (h0:M ≠ 0) (h:M≤M') (hn:8≤n):rq w M (dR M n j)*2 ^ dR M n j≤rq w M' (dR M' n j)*2 ^ dR M' n j:=by
 have hb:ae M≤ae M':=vR h (Nat.le_refl _);have hd:dR M n j≤dR M' n j:=by unfold dR; split <;> split <;> omega
 rcases Nat.eq_or_lt_of_le hd with he | hl
 ·rw [he];exact Nat.mul_le_mul_right _ (acI h)
 ·have k1:dR M' n j=ae M' - n∧n+j < ae M':=by
   unfold dR at hl ⊢;split at hl <;> split at hl <;> grind
  have k2:ae M < ae M':=by
   unfold dR at hl;split at hl <;> split at hl <;> omega
  have k3:2 ^ (ae M' - 1)≤M':=EU (by omega);have k4:2 ^ (ae M' - 1)≤rq w M' (dR M' n j)*2 ^ dR M' n j:=by
   have:=agB (w:=w) (d:=dR M' n j) (e:=ae M' - 1 - dR M' n j) (M:=M') (by rw [show dR M' n j+(ae M' - 1 - dR M' n j)=ae M' - 1 by omega]; exact k3);refine Nat.le_trans ?_ (Nat.mul_le_mul_right _ this);rw [← Nat.pow_add];exact Nat.pow_le_pow_right (by decide) (by omega)
  refine Nat.le_trans ?_ k4;have k5:M < 2 ^ ae M:=bt.1 (Nat.le_refl _);by_cases hc:dR M n j≤ae M
  ·have:=Vu (w:=w) (d:=dR M n j) (e:=ae M - dR M n j) (M:=M) (by rw [show dR M n j+(ae M - dR M n j)=ae M by omega]; exact k5);refine Nat.le_trans (Nat.mul_le_mul_right _ this) ?_;rw [← Nat.pow_add];exact Nat.pow_le_pow_right (by decide) (by omega)
  ·have:=Vu (w:=w) (d:=dR M n j) (e:=0) (M:=M) (Nat.lt_of_lt_of_le k5 (Nat.pow_le_pow_right (by decide) (by omega)));refine Nat.le_trans (Nat.mul_le_mul_right _ this) ?_;rw [← Nat.pow_add];refine Nat.pow_le_pow_right (by decide) ?_;have:dR M n j=j:=by unfold dR at hc ⊢; split <;> grind
   omega
theorem aaY (M n j:Nat):j≤dR M n j∧ae M≤n+dR M n j:=by
 unfold dR;split <;> omega
theorem aak {M j n:Nat} {w:Bool} (hn:8≤n):bJ M (-16384 - (j:Int)) false (n:Int) w=qJ n w (rq w M (dR M n j)) ((dR M n j:Int) - j - 16384):=by
 have hu:dW M (-16384 - (j:Int)) (n:Int)=(dR M n j:Int) - j - 16384:=by
  unfold dW dR;split <;> split <;> omega
 unfold bJ;rw [hu];have hq:nV M (-16384 - (j:Int)) false ((dR M n j:Int) - j - 16384)=(M / 2 ^ dR M n j,decide (M % 2 ^ dR M n j ≠ 0)):=by
  unfold nV;generalize dR M n j=d;by_cases h:d=0
  ·subst h;rw [if_pos (by omega),show ((-16384 - (j:Int)) - (((0:Nat):Int) - j - 16384)).toNat=0 by omega];simp [Nat.mod_one]
  ·rw [if_neg (by omega),show (((d:Int) - j - 16384) - (-16384 - (j:Int))).toNat=d by omega];simp
 rw [hq];congr 1;unfold kO rq;simp
theorem RR {q d T:Nat} (hq:q ≠ 0):T < ae q+d↔2 ^ T≤q*2 ^ d:=by
 by_cases h:d≤T
 ·rw [show T < ae q+d↔T - d < ae q by omega,jr]
  conv=>rhs; rw [show T=(T - d)+d by omega,Nat.pow_add]
  exact (Nat.mul_le_mul_right_iff (Nat.two_pow_pos d)).symm
 ·refine ⟨fun _=>?_,fun _=>by omega⟩;refine Nat.le_trans (Nat.pow_le_pow_right (by decide) (by omega:T≤d)) ?_;exact Nat.le_mul_of_pos_left _ (by omega)
theorem aep {q n k:Nat} (h:q≤2 ^ n) (hk:n < k):ae q≤k:=bt.2 (Nat.lt_of_le_of_lt h (Nat.pow_lt_pow_right (by decide) hk))
theorem aaZ {w:Bool} {M n j:Nat} (hn:n≤512):ae (rq w M (dR M n j))≤4096∧(w=false→rq w M (dR M n j) < 2 ^ n):=by
 have k:=aaY M n j;have k5:M < 2 ^ ae M:=bt.1 (Nat.le_refl _);have k6:M < 2 ^ (dR M n j+n):=Nat.lt_of_lt_of_le k5 (Nat.pow_le_pow_right (by decide) (by omega));have h1:=Vu (w:=w) k6;refine ⟨aep h1 (by omega),?_⟩
 rintro rfl
 unfold rq;rw [if_neg (by simp),Nat.div_lt_iff_lt_mul (Nat.two_pow_pos _),← Nat.pow_add,Nat.add_comm];exact k6
theorem Kv {M j n:Nat} {w:Bool} (h0:M ≠ 0) (hn:8≤n∧n≤512) :
  (rq w M (dR M n j)*2 ^ dR M n j < 2 ^ (32768+j)→(bJ M (-16384 - (j:Int)) false (n:Int) w).2=0∧zI (bJ M (-16384 - (j:Int)) false (n:Int) w).1*2 ^ j=((rq w M (dR M n j)*2 ^ dR M n j:Nat):Int)) ∧
  (2 ^ (32768+j)≤rq w M (dR M n j)*2 ^ dR M n j→(w=true→(bJ M (-16384 - (j:Int)) false (n:Int) w).2 ≠ 0) ∧
   (w=false→(bJ M (-16384 - (j:Int)) false (n:Int) w).2=0∧zI (bJ M (-16384 - (j:Int)) false (n:Int) w).1=(((2 ^ n - 1)*2 ^ (32768 - n):Nat):Int))):=by
 have k:=aaY M n j;obtain ⟨b1,_⟩:=aaZ (w:=w) (M:=M) (j:=j) hn.2;rw [aak hn.1];have hq0:rq w M (dR M n j)=0→¬ 32768+j < ae (rq w M (dR M n j))+dR M n j:=fun h=>by
  rw [h,show ae 0=0 from rfl];have hM:M < 2 ^ dR M n j:=by
   have h2:=(agA w M (dR M n j)).1;unfold rq at h;split at h
   ·exact absurd h (Nat.succ_ne_zero _)
   ·exact Nat.lt_of_div_eq_zero (Nat.two_pow_pos _) h
  have h3:ae M≤dR M n j:=bt.2 hM;have h4:=fk h0;unfold dR at h3 ⊢;split at h3
  ·rename_i h5;rw [if_pos h5];omega
  ·omega
 generalize hd:dR M n j=d at *
 generalize rq w M d=q at *
 have ov:16384 < (ae q:Int)+((d:Int) - j - 16384)↔2 ^ (32768+j)≤q*2 ^ d:=by
  by_cases hq:q=0
  ·have:=hq0 hq;subst hq;rw [Nat.zero_mul];have h5:=Nat.two_pow_pos (32768+j);constructor <;> intro h6 <;> omega
  ·rw [← RR hq];omega
 unfold qJ;constructor
 ·intro h;have h1:¬ 16384 < (ae q:Int)+((d:Int) - j - 16384):=fun hc=>by
   have:=ov.1 hc;omega
  rw [if_neg h1];have hc:=O2 (neg:=false) (M:=q) (e:=(d:Int) - j - 16384) b1 (by omega) (by omega);have h2:(eH (bA false q ((d:Int) - j - 16384))).2=0:=by rw [hc]
  refine ⟨h2,?_⟩;rw [DS (by omega) h2,show ((d:Int) - j - 16384+16384).toNat=d - j by omega,show (2:Int) ^ j=((2 ^ j:Nat):Int) by simp,← Int.natCast_mul,Nat.mul_assoc,← Nat.pow_add,show d - j+j=d by omega]
 ·intro h;have h1:=ov.2 h;rw [if_pos h1];constructor
  ·rintro rfl
   simp
  ·rintro rfl
   rw [if_neg (by simp)];have hp1:2 ^ n - 1 < 2 ^ n:=by have:=Nat.two_pow_pos n; omega
   have hb:ae (2 ^ n - 1)≤n:=bt.2 hp1;have hc:=O2 (neg:=false) (M:=2 ^ n - 1) (e:=16384 - (n:Int)) (by omega) (by omega) (by omega);have h2:(eH (bA false (2 ^ ((n:Int)).toNat - 1) (16384 - (n:Int)))).2=0:=by rw [Int.toNat_natCast,hc]
   refine ⟨h2,?_⟩;rw [DS (by omega) h2,Int.toNat_natCast,show (16384 - (n:Int)+16384).toNat=32768 - n by omega]
theorem PT {M M' j n:Nat} {w:Bool} (h0:M ≠ 0) (hle:M≤M') (hn:8≤n∧n≤512) (h':(bJ M' (-16384 - (j:Int)) false (n:Int) w).2=0) :
  (bJ M (-16384 - (j:Int)) false (n:Int) w).2=0∧zI (bJ M (-16384 - (j:Int)) false (n:Int) w).1≤zI (bJ M' (-16384 - (j:Int)) false (n:Int) w).1:=by
 have hm:=RQ (w:=w) (n:=n) (j:=j) h0 hle hn.1;obtain ⟨a1,a2⟩:=Kv (w:=w) (j:=j) h0 hn;obtain ⟨b1,b2⟩:=Kv (M:=M') (w:=w) (j:=j) (by omega) hn;have hb:=aaZ (w:=w) (M:=M) (j:=j) hn.2;generalize rq w M (dR M n j)=q at *
 generalize rq w M' (dR M' n j)=q' at *
 generalize dR M n j=d at *
 generalize dR M' n j=d' at *
 have hj:(0:Int) < 2 ^ j:=Int.pow_pos (by decide);by_cases o':q'*2 ^ d' < 2 ^ (32768+j)
 ·obtain ⟨_,b3⟩:=b1 o';obtain ⟨a3,a4⟩:=a1 (by omega);refine ⟨a3,Int.le_of_mul_le_mul_right ?_ hj⟩;rw [a4,b3];exact_mod_cast hm
 ·obtain ⟨b3,b4⟩:=b2 (by omega);cases w with
  | true=>exact absurd h' (b3 rfl)
  | false =>
   obtain ⟨_,b5⟩:=b4 rfl;by_cases o:q*2 ^ d < 2 ^ (32768+j)
   ·obtain ⟨a3,a4⟩:=a1 o;refine ⟨a3,Int.le_of_mul_le_mul_right ?_ hj⟩;rw [a4,b5];have hq:=hb.2 rfl;have key:q*2 ^ d≤(2 ^ n - 1)*2 ^ (32768 - n)*2 ^ j:=by
     rw [Nat.mul_assoc,← Nat.pow_add];have e1:32768+j=n+(32768 - n+j):=by omega
     generalize 32768 - n+j=e at e1 ⊢;rw [e1] at o;by_cases hd:d≤e
     ·exact Nat.mul_le_mul (by omega) (Nat.pow_le_pow_right (by decide) hd)
     ·obtain ⟨k,rfl⟩:∃ k,d=e+k:=⟨d - e,by omega⟩;rw [Nat.pow_add,← Nat.mul_assoc,Nat.mul_right_comm] at o ⊢;rw [Nat.pow_add] at o;refine Nat.mul_le_mul_right _ ?_;have:q*2 ^ k < 2 ^ n:=Nat.lt_of_mul_lt_mul_right o;omega
    exact_mod_cast key
   ·obtain ⟨_,a3⟩:=a2 (by omega);obtain ⟨a4,a5⟩:=a3 rfl;exact ⟨a4,by rw [a5,b5]; exact Int.le_refl _⟩
theorem PU {M j n:Nat} (h0:M ≠ 0) (hn:8≤n∧n≤512):(bJ M (-16384 - (j:Int)) false (n:Int) false).2=0:=by
 obtain ⟨a1,a2⟩:=Kv (w:=false) (j:=j) h0 hn;by_cases o:rq false M (dR M n j)*2 ^ dR M n j < 2 ^ (32768+j)
 ·exact (a1 o).1
 ·exact ((a2 (by omega)).2 rfl).1
theorem PV {M j n:Nat} {w:Bool} (h0:M ≠ 0) (hn:8≤n∧n≤512) (h:(bJ M (-16384 - (j:Int)) false (n:Int) w).2=0):0≤zI (bJ M (-16384 - (j:Int)) false (n:Int) w).1:=by
 obtain ⟨k,h1,_⟩:=B3 (s:=0) (t:=j) h0 (p:=n) (by omega) (by omega) (fun h=>absurd h Bool.false_ne_true) h;omega
theorem E8 {z f p:Int} {up:Bool} (h:z < 0):eJ z f p up=gP true (bJ z.natAbs f false p (!up)):=by
 unfold eJ;rw [if_neg (by omega),decide_eq_true h];cases up <;> rfl
theorem xw {z f p:Int} {up:Bool} (h:0 < z):eJ z f p up=bJ z.natAbs f false p up:=by
 unfold eJ;rw [if_neg (by omega),decide_eq_false (by omega)];unfold gP;rw [if_neg (by simp)];cases up <;> rfl
theorem IF {M:Nat} {f p:Int} {w:Bool}:(gP true (bJ M f false p w)).2=(bJ M f false p w).2∧((bJ M f false p w).2=0→zI (gP true (bJ M f false p w)).1=-zI (bJ M f false p w).1):=by
 unfold gP;by_cases h:(bJ M f false p w).2=0
 ·rw [if_pos ⟨h,rfl⟩];exact ⟨rfl,fun _=>(kh Kk).1⟩
 ·rw [if_neg (by simp [h])];exact ⟨rfl,fun h'=>absurd h' h⟩
theorem zH {f p:Int} {up:Bool}:eJ 0 f p up=(aK,0):=by unfold eJ; rw [if_pos rfl]
theorem IG {z z':Int} {j n:Nat} (hn:8≤n∧n≤512) (h:z≤z') (h1:(eJ z (-16384 - (j:Int)) n false).2=0) :
  (eJ z' (-16384 - (j:Int)) n false).2=0∧zI (eJ z (-16384 - (j:Int)) n false).1≤zI (eJ z' (-16384 - (j:Int)) n false).1:=by
 rcases Int.lt_trichotomy z 0 with a | rfl | a
 ·rw [E8 a] at h1 ⊢;obtain ⟨s1,s2⟩:=IF (M:=z.natAbs) (f:=-16384 - (j:Int)) (p:=n) (w:=!false);rw [s1] at h1;rw [s2 h1];have nn:=PV (w:=!false) (j:=j) (show z.natAbs ≠ 0 by omega) hn h1;rcases Int.lt_trichotomy z' 0 with b | rfl | b
  ·rw [E8 b];obtain ⟨t1,t2⟩:=IF (M:=z'.natAbs) (f:=-16384 - (j:Int)) (p:=n) (w:=!false);obtain ⟨m1,m2⟩:=PT (w:=!false) (j:=j) (show z'.natAbs ≠ 0 by omega) (show z'.natAbs≤z.natAbs by omega) hn h1;rw [t1,t2 m1];exact ⟨m1,by omega⟩
  ·rw [zH,bP (d:=aK) rfl];exact ⟨rfl,by omega⟩
  ·rw [xw b];have c:=PU (j:=j) (show z'.natAbs ≠ 0 by omega) hn;have:=PV (j:=j) (show z'.natAbs ≠ 0 by omega) hn c;exact ⟨c,by omega⟩
 ·rw [zH,bP (d:=aK) rfl];rcases Int.lt_or_eq_of_le h with b | rfl
  ·rw [xw b];have c:=PU (j:=j) (show z'.natAbs ≠ 0 by omega) hn;exact ⟨c,PV (j:=j) (show z'.natAbs ≠ 0 by omega) hn c⟩
  ·rw [zH,bP (d:=aK) rfl];exact ⟨rfl,Int.le_refl _⟩
 ·have b:0 < z':=by omega
  rw [xw a,xw b];have c:=PU (j:=j) (show z'.natAbs ≠ 0 by omega) hn;exact ⟨c,(PT (j:=j) (show z.natAbs ≠ 0 by omega) (show z.natAbs≤z'.natAbs by omega) hn c).2⟩
theorem Yh {z:Int} {j n:Nat} (hn:8≤n∧n≤512):(eJ (-z) (-16384 - (j:Int)) n true).2=(eJ z (-16384 - (j:Int)) n false).2∧((eJ z (-16384 - (j:Int)) n false).2=0→zI (eJ (-z) (-16384 - (j:Int)) n true).1=-zI (eJ z (-16384 - (j:Int)) n false).1):=by
 rcases Int.lt_trichotomy z 0 with a | rfl | a
 ·rw [E8 a,xw (by omega),Int.natAbs_neg];obtain ⟨s1,s2⟩:=IF (M:=z.natAbs) (f:=-16384 - (j:Int)) (p:=n) (w:=!false);rw [s1];refine ⟨rfl,fun h=>?_⟩;rw [s2 h,Int.neg_neg];rfl
 ·rw [Int.neg_zero,zH,zH,bP (d:=aK) rfl];exact ⟨rfl,fun _=>rfl⟩
 ·rw [xw a,E8 (by omega),Int.natAbs_neg];obtain ⟨s1,s2⟩:=IF (M:=z.natAbs) (f:=-16384 - (j:Int)) (p:=n) (w:=!true);rw [s1];exact ⟨rfl,fun h=>s2 h⟩
theorem PW {z z':Int} {j n:Nat} (hn:8≤n∧n≤512) (h:z≤z') (h1:(eJ z' (-16384 - (j:Int)) n true).2=0) :
  (eJ z (-16384 - (j:Int)) n true).2=0∧zI (eJ z (-16384 - (j:Int)) n true).1≤zI (eJ z' (-16384 - (j:Int)) n true).1:=by
 obtain ⟨a1,a2⟩:=Yh (z:=-z) (j:=j) hn;obtain ⟨b1,b2⟩:=Yh (z:=-z') (j:=j) hn;rw [Int.neg_neg] at a1 a2 b1 b2;rw [b1] at h1;obtain ⟨c1,c2⟩:=IG (j:=j) hn (show -z'≤-z by omega) h1;rw [a1,a2 c1,b2 h1];exact ⟨c1,by omega⟩
theorem yJ {a b:Rd} {p:Int} (va:vd a=true) (vb:vd b=true) (hp:bK p=true):aX p [a,b]=0∧∃ n:Nat,p=n∧8≤n∧n≤512:=by
 have hp2:8≤p∧p≤512:=by
  simp_all [bK,Bool.and_eq_true,decide_eq_true_eq]
 refine ⟨by grind [aX],p.toNat,by omega,by omega,by omega⟩
theorem LU {a b a' b':Rd} {p:Int} (va:vd a=true) (vb:vd b=true) (va':vd a'=true) (vb':vd b'=true) (hp:bK p=true) (h:zI a'+zI b'≤zI a+zI b) :
  ((cT a' b' p false).2=0→(cT a b p false).2=0∧zI (cT a' b' p false).1≤zI (cT a b p false).1) ∧
  ((cT a b p true).2=0→(cT a' b' p true).2=0∧zI (cT a' b' p true).1≤zI (cT a b p true).1):=by
 obtain ⟨f1,n,rfl,hn⟩:=yJ va vb hp;obtain ⟨f2,_⟩:=yJ va' vb' hp;unfold cT;rw [if_pos f1,if_pos f2,if_pos f1,if_pos f2];exact ⟨fun e=>IG (j:=0) hn h e,fun e=>PW (j:=0) hn h e⟩
theorem zJ {a b a' b':Rd} {p:Int} (va:vd a=true) (vb:vd b=true) (va':vd a'=true) (vb':vd b'=true) (hp:bK p=true) (h:zI a'*zI b'≤zI a*zI b) :
  ((bZ a' b' p false).2=0→(bZ a b p false).2=0∧zI (bZ a' b' p false).1≤zI (bZ a b p false).1) ∧
  ((bZ a b p true).2=0→(bZ a' b' p true).2=0∧zI (bZ a' b' p true).1≤zI (bZ a b p true).1):=by
 obtain ⟨f1,n,rfl,hn⟩:=yJ va vb hp;obtain ⟨f2,_⟩:=yJ va' vb' hp;unfold bZ;rw [if_pos f1,if_pos f2,if_pos f1,if_pos f2];exact ⟨fun e=>IG (j:=16384) hn h e,fun e=>PW (j:=16384) hn h e⟩
def Sb (x y:Ri):Prop:=(∃ q,In q x)∧(y=cB∨x.all=false∧y.all=false∧(∃ q,In q y)∧zI y.lo≤zI x.lo∧zI x.hi≤zI y.hi)
theorem Sb.ins {x y:Ri} (h:Sb x y):G3 x y=true:=by
 obtain ⟨⟨q,hx⟩,rfl | ⟨h1,h2,⟨r,hy⟩,h3,h4⟩⟩:=h
 ·unfold G3;have:=hx.v;split
  ·rfl
  ·rw [this];rfl
 ·unfold G3;rw [if_pos ⟨hx.v,hy.v,h1⟩];simp [h3,h4]
theorem PX:kI cB=false:=rfl
theorem E9 {x:Ri} (h:∃ q,In q x) (ha:x.all=false):kI x=true:=by
 obtain ⟨q,h⟩:=h;unfold kI;rw [ha,h.v];rfl
theorem acJ {x y x' y':Ri} {p:Int} (hx:Sb x x') (hy:Sb y y'):Sb (j3 x y p) (j3 x' y' p):=by
 obtain ⟨⟨q,ix⟩,hx⟩:=hx;obtain ⟨⟨r,iy⟩,hy⟩:=hy;refine ⟨⟨q+r,xt ix iy⟩,?_⟩;by_cases hk:(kI x' && kI y' && bK p)=true
 ·have hk2:=hk;simp only [Bool.and_eq_true] at hk2;obtain ⟨⟨k1,k2⟩,hp⟩:=hk2;rcases hx with rfl | ⟨x1,x2,⟨q',ix'⟩,x3,x4⟩
  ·rw [PX] at k1;cases k1
  rcases hy with rfl | ⟨y1,y2,⟨r',iy'⟩,y3,y4⟩
  ·rw [PX] at k2;cases k2
  have hi:=xt (p:=p) ix' iy';have kx:=E9 ⟨q,ix⟩ x1;have ky:=E9 ⟨r,iy⟩ y1;unfold j3 at hi ⊢;rw [if_pos hk] at hi ⊢;rw [if_pos (by rw [kx,ky,hp]; rfl)];obtain ⟨a1,_⟩:=LU ix.vi.1.1 iy.vi.1.1 ix'.vi.1.1 iy'.vi.1.1 hp (show zI x'.lo+zI y'.lo≤zI x.lo+zI y.lo by omega);obtain ⟨_,a2⟩:=LU ix'.vi.2.1 iy'.vi.2.1 ix.vi.2.1 iy.vi.2.1 hp (show zI x.hi+zI y.hi≤zI x'.hi+zI y'.hi by omega);unfold qi at hi ⊢;by_cases he:(cT x'.lo y'.lo p false).2=0∧(cT x'.hi y'.hi p true).2=0
  ·obtain ⟨b1,b2⟩:=a1 he.1;obtain ⟨b3,b4⟩:=a2 he.2;rw [if_pos he] at hi ⊢;rw [if_pos ⟨b1,b3⟩];exact Or.inr ⟨rfl,rfl,⟨_,hi⟩,b2,b4⟩
  ·rw [if_neg he];exact Or.inl rfl
 ·left;unfold j3;rw [if_neg hk]
theorem IH {a b:Rd} (va:vd a=true) (vb:vd b=true):(dt a b < 0↔zI a < zI b)∧(0 < dt a b↔zI b < zI a):=by
 rw [abP va vb];unfold bD;split
 ·omega
 ·split <;> omega
section
variable {dn up:Rd→Rd→Rd × Int} {pr:Nat→Rd × Rd}
abbrev tY (dn:Rd→Rd→Rd × Int) (pr:Nat→Rd × Rd) (j:Nat):Rd × Int:=dn (pr j).1 (pr j).2
theorem II:∀ (k i:Nat) (o q:Rd × Rd),qj dn up pr k i o=some q→∀ j,i≤j→j < i+k→(tY dn pr j).2=0∧(tY up pr j).2=0
 | 0,i,o,q,_,j,h1,h2=>by omega
 | k+1,i,o,q,h,j,h1,h2=>by
  unfold qj at h;split at h
  ·rename_i he;rcases Nat.eq_or_lt_of_le h1 with rfl | h3
   ·exact he
   ·exact II k (i+1) _ q h j h3 (by omega)
  ·cases h
theorem IJ (okd:∀ a b,vd (dn a b).1=true) (oku:∀ a b,vd (up a b).1=true):∀ (k i:Nat) (o:Rd × Rd),vd o.1=true→vd o.2=true→(∀ j,i≤j→j < i+k→(tY dn pr j).2=0∧(tY up pr j).2=0) →
  ∃ q,qj dn up pr k i o=some q∧zI q.1≤zI o.1∧zI o.2≤zI q.2∧(∀ j,i≤j→j < i+k→zI q.1≤zI (tY dn pr j).1∧zI (tY up pr j).1≤zI q.2) ∧
   (q.1=o.1∨∃ j,i≤j∧j < i+k∧q.1=(tY dn pr j).1)∧(q.2=o.2∨∃ j,i≤j∧j < i+k∧q.2=(tY up pr j).1)
 | 0,i,o,_,_,_=>⟨o,rfl,Int.le_refl _,Int.le_refl _,fun j h1 h2=>by omega,Or.inl rfl,Or.inl rfl⟩
 | k+1,i,o,v1,v2,h=>by
  have h0:=h i (Nat.le_refl _) (by omega);unfold qj;rw [if_pos h0];have c1:=(IH (okd (pr i).1 (pr i).2) v1).1;have c2:=(IH (oku (pr i).1 (pr i).2) v2).2;have w1:=okd (pr i).1 (pr i).2;have w2:=oku (pr i).1 (pr i).2;obtain ⟨q,q0,q1,q2,q3,q4,q5⟩:=IJ okd oku k (i+1) (if dt (dn (pr i).1 (pr i).2).1 o.1 < 0 then (dn (pr i).1 (pr i).2).1 else o.1,if 0 < dt (up (pr i).1 (pr i).2).1 o.2 then (up (pr i).1 (pr i).2).1 else o.2)
   (by simp only; split <;> assumption) (by simp only; split <;> assumption) fun j h1 h2=>h j (by omega) (by omega)
  have a1:zI q.1≤zI o.1∧zI q.1≤zI (tY dn pr i).1:=by
   simp only at q1;split at q1
   ·rename_i hc;have:=c1.1 hc;exact ⟨by omega,q1⟩
   ·rename_i hc;have:=mt c1.2 hc;exact ⟨q1,by show zI q.1≤zI (dn (pr i).1 (pr i).2).1; omega⟩
  have a2:zI o.2≤zI q.2∧zI (tY up pr i).1≤zI q.2:=by
   simp only at q2;split at q2
   ·rename_i hc;have:=c2.1 hc;exact ⟨by omega,q2⟩
   ·rename_i hc;have:=mt c2.2 hc;exact ⟨q2,by show zI (up (pr i).1 (pr i).2).1≤zI q.2; omega⟩
  refine ⟨q,q0,a1.1,a2.1,fun j h1 h2=>?_,?_,?_⟩
  ·rcases Nat.eq_or_lt_of_le h1 with rfl | h3
   ·exact ⟨a1.2,a2.2⟩
   ·exact q3 j h3 (by omega)
  ·rcases q4 with q4 | ⟨j,h1,h2,h3⟩
   ·simp only at q4;split at q4
    ·exact Or.inr ⟨i,Nat.le_refl _,by omega,q4⟩
    ·exact Or.inl q4
   ·exact Or.inr ⟨j,by omega,by omega,h3⟩
  ·rcases q5 with q5 | ⟨j,h1,h2,h3⟩
   ·simp only at q5;split at q5
    ·exact Or.inr ⟨i,Nat.le_refl _,by omega,q5⟩
    ·exact Or.inl q5
   ·exact Or.inr ⟨j,by omega,by omega,h3⟩
theorem Vv {q:Rd × Rd} (h:jV dn up pr=some q):∀ j,j < 4→(tY dn pr j).2=0∧(tY up pr j).2=0:=by
 unfold jV at h;split at h
 ·rename_i he;intro j hj;rcases Nat.eq_zero_or_pos j with rfl | h1
  ·exact he
  ·exact II 3 1 _ q h j h1 (by omega)
 ·cases h
theorem IK (okd:∀ a b,vd (dn a b).1=true) (oku:∀ a b,vd (up a b).1=true) (h:∀ j,j < 4→(tY dn pr j).2=0∧(tY up pr j).2=0) :
  ∃ q,jV dn up pr=some q∧(∀ j,j < 4→zI q.1≤zI (tY dn pr j).1∧zI (tY up pr j).1≤zI q.2)∧(∃ j,j < 4∧q.1=(tY dn pr j).1)∧∃ j,j < 4∧q.2=(tY up pr j).1:=by
 obtain ⟨q,q0,q1,q2,q3,q4,q5⟩:=IJ okd oku 3 1 ((dn (pr 0).1 (pr 0).2).1,(up (pr 0).1 (pr 0).2).1) (okd _ _) (oku _ _) fun j h1 h2=>h j (by omega);refine ⟨q,?_,fun j hj=>?_,?_,?_⟩
 ·unfold jV;rw [if_pos (h 0 (by decide))];exact q0
 ·rcases Nat.eq_zero_or_pos j with rfl | h1
  ·exact ⟨q1,q2⟩
  ·exact q3 j h1 (by omega)
 ·rcases q4 with q4 | ⟨j,h1,h2,h3⟩
  ·exact ⟨0,by decide,q4⟩
  ·exact ⟨j,by omega,h3⟩
 ·rcases q5 with q5 | ⟨j,h1,h2,h3⟩
  ·exact ⟨0,by decide,q5⟩
  ·exact ⟨j,by omega,h3⟩
end
theorem Yi {a b c d x y:Int} (h1:a≤x) (h2:x≤b) (h3:c≤y) (h4:y≤d):(∃ u v,(u=a∨u=b)∧(v=c∨v=d)∧u*v≤x*y)∧∃ u v,(u=a∨u=b)∧(v=c∨v=d)∧x*y≤u*v:=by
 have e1:∃ u,(u=a∨u=b)∧u*y≤x*y:=by
  rcases Int.le_total 0 y with h | h
  ·exact ⟨a,Or.inl rfl,Int.mul_le_mul_of_nonneg_right h1 h⟩
  ·exact ⟨b,Or.inr rfl,Int.mul_le_mul_of_nonpos_right h2 h⟩
 have e2:∃ u,(u=a∨u=b)∧x*y≤u*y:=by
  rcases Int.le_total 0 y with h | h
  ·exact ⟨b,Or.inr rfl,Int.mul_le_mul_of_nonneg_right h2 h⟩
  ·exact ⟨a,Or.inl rfl,Int.mul_le_mul_of_nonpos_right h1 h⟩
 constructor
 ·obtain ⟨u,hu,e⟩:=e1;rcases Int.le_total 0 u with h | h
  ·exact ⟨u,c,hu,Or.inl rfl,Int.le_trans (Int.mul_le_mul_of_nonneg_left h3 h) e⟩
  ·exact ⟨u,d,hu,Or.inr rfl,Int.le_trans (Int.mul_le_mul_of_nonpos_left h h4) e⟩
 ·obtain ⟨u,hu,e⟩:=e2;rcases Int.le_total 0 u with h | h
  ·exact ⟨u,d,hu,Or.inr rfl,Int.le_trans e (Int.mul_le_mul_of_nonneg_left h4 h)⟩
  ·exact ⟨u,c,hu,Or.inl rfl,Int.le_trans e (Int.mul_le_mul_of_nonpos_left h h3)⟩
theorem aa0 {x y:Ri} {u v:Int} (hu:u=zI x.lo∨u=zI x.hi) (hv:v=zI y.lo∨v=zI y.hi):∃ j,j < 4∧zI (en x y j).1=u∧zI (en x y j).2=v:=by
 rcases hu with rfl | rfl <;> rcases hv with rfl | rfl
 ·exact ⟨0,by decide,rfl,rfl⟩
 ·exact ⟨1,by decide,rfl,rfl⟩
 ·exact ⟨2,by decide,rfl,rfl⟩
 ·exact ⟨3,by decide,rfl,rfl⟩
theorem M5 {x:Ri} (h:∃ q,In q x) (ha:x.all=false):zI x.lo≤zI x.hi:=by
 obtain ⟨q,rfl | ⟨_,_,h1,h2⟩⟩:=h
 ·cases ha
 ·exact qn.1 (Rat.le_trans h1 h2)
theorem aeq {x y:Ri} (hx:zI x.lo≤zI x.hi) (hy:zI y.lo≤zI y.hi) (i:Nat):(zI x.lo≤zI (en x y i).1∧zI (en x y i).1≤zI x.hi)∧zI y.lo≤zI (en x y i).2∧zI (en x y i).2≤zI y.hi:=by
 unfold en;split <;> simp only <;> omega
theorem Vw {x y:Ri} (hx:VI x) (hy:VI y) (i:Nat):vd (en x y i).1=true∧vd (en x y i).2=true:=by
 unfold en;split
 ·exact ⟨hx.1.1,hy.1.1⟩
 ·exact ⟨hx.1.1,hy.2.1⟩
 ·exact ⟨hx.2.1,hy.1.1⟩
 ·exact ⟨hx.2.1,hy.2.1⟩
theorem Th {x y x' y':Ri} {p:Int} (hx:Sb x x') (hy:Sb y y'):Sb (jM x y p) (jM x' y' p):=by
 obtain ⟨⟨q,ix⟩,hx⟩:=hx;obtain ⟨⟨r,iy⟩,hy⟩:=hy;refine ⟨⟨q*r,so ix iy⟩,?_⟩;by_cases hk:(kI x' && kI y' && bK p)=true
 ·have hk2:=hk;simp only [Bool.and_eq_true] at hk2;obtain ⟨⟨k1,k2⟩,hp⟩:=hk2;rcases hx with rfl | ⟨x1,x2,⟨q',ix'⟩,x3,x4⟩
  ·rw [PX] at k1;cases k1
  rcases hy with rfl | ⟨y1,y2,⟨r',iy'⟩,y3,y4⟩
  ·rw [PX] at k2;cases k2
  have hi:=so (p:=p) ix' iy';have kx:=E9 ⟨q,ix⟩ x1;have ky:=E9 ⟨r,iy⟩ y1;unfold jM at hi ⊢;rw [if_pos hk] at hi ⊢;rw [if_pos (by rw [kx,ky,hp]; rfl)];cases h4:jV (fun a b=>bZ a b p false) (fun a b=>bZ a b p true) (en x' y') with
  | none=>exact Or.inl rfl
  | some o =>
   rw [h4] at hi;have hn:=Vv h4;obtain ⟨o',g0,g1,_,_⟩:=IK (fun a b=>qY.1) (fun a b=>qY.1) hn;rw [h4] at g0;obtain rfl:=Option.some.inj g0;have lx:=M5 ⟨q,ix⟩ x1;have ly:=M5 ⟨r,iy⟩ y1;have key:∀ i,((bZ (en x y i).1 (en x y i).2 p false).2=0∧zI o.1≤zI (bZ (en x y i).1 (en x y i).2 p false).1)∧(bZ (en x y i).1 (en x y i).2 p true).2=0∧zI (bZ (en x y i).1 (en x y i).2 p true).1≤zI o.2:=fun i=>by
    obtain ⟨⟨a1,a2⟩,a3,a4⟩:=aeq lx ly i;obtain ⟨v1,v2⟩:=Vw ix.vi iy.vi i;obtain ⟨⟨u,v,hu,hv,huv⟩,u',v',hu',hv',huv'⟩:=Yi (Int.le_trans x3 a1) (Int.le_trans a2 x4) (Int.le_trans y3 a3) (Int.le_trans a4 y4);obtain ⟨j,hj,rfl,rfl⟩:=aa0 hu hv;obtain ⟨j',hj',rfl,rfl⟩:=aa0 hu' hv';obtain ⟨w1,w2⟩:=Vw ix'.vi iy'.vi j;obtain ⟨w3,w4⟩:=Vw ix'.vi iy'.vi j';obtain ⟨m1,_⟩:=zJ v1 v2 w1 w2 hp huv;obtain ⟨_,m2⟩:=zJ w3 w4 v1 v2 hp huv';obtain ⟨b1,b2⟩:=m1 (hn j hj).1;obtain ⟨b3,b4⟩:=m2 (hn j' hj').2;exact ⟨⟨b1,Int.le_trans (g1 j hj).1 b2⟩,b3,Int.le_trans b4 (g1 j' hj').2⟩
   obtain ⟨t,t0,_,⟨j,_,t1⟩,j',_,t2⟩:=IK (dn:=fun a b=>bZ a b p false) (up:=fun a b=>bZ a b p true) (pr:=en x y) (fun a b=>qY.1) (fun a b=>qY.1) fun i _=>⟨(key i).1.1,(key i).2.1⟩;rw [t0];refine Or.inr ⟨rfl,rfl,⟨_,hi⟩,?_,?_⟩
   ·show zI o.1≤zI t.1;rw [t1];exact (key j).1.2
   ·show zI t.2≤zI o.2;rw [t2];exact (key j').2.2
 ·left;unfold jM;rw [if_neg hk]
theorem LV {a a':Rd} {p:Int} (va:vd a=true) (va':vd a'=true) (hp:bK p=true) (h:zI a'≤zI a) :
  ((dU a' p false).2=0→(dU a p false).2=0∧zI (dU a' p false).1≤zI (dU a p false).1) ∧
  ((dU a p true).2=0→(dU a' p true).2=0∧zI (dU a' p true).1≤zI (dU a p true).1):=by
 obtain ⟨_,n,rfl,hn⟩:=yJ va va' hp;have f1:aX (n:Int) [a]=0:=by grind [aX]
 have f2:aX (n:Int) [a']=0:=by grind [aX]
 unfold dU;rw [if_pos f1,if_pos f2,if_pos f1,if_pos f2];exact ⟨fun e=>IG (j:=0) hn h e,fun e=>PW (j:=0) hn h e⟩
theorem Ti {p:Int} {up:Bool} (hp:bK p=true):dU aK p up=(aK,0):=by
 have f1:aX p [aK]=0:=by
  have hp2:8≤p∧p≤512:=by
   simp_all [bK,Bool.and_eq_true,decide_eq_true_eq]
  have:vd aK=true:=rfl;grind [aX]
 unfold dU;rw [if_pos f1,bP (d:=aK) rfl,zH]
theorem Yj {a:Rd} {p:Int} {up:Bool} (va:vd a=true) (hp:bK p=true) (h:0≤zI a) (h1:(dU a p up).2=0):0≤zI (dU a p up).1:=by
 have z:zI aK=0:=bP rfl;obtain ⟨m1,m2⟩:=LV va (a':=aK) rfl hp (by omega);rw [Ti hp] at m1 m2;simp only [z] at m1 m2;cases up with
 | false=>have:=(m1 (by trivial)).2; omega
 | true=>have:=(m2 h1).2; omega
theorem Yk {a b:Rd} {p:Int} {up:Bool} (va:vd a=true) (vb:vd b=true) (hp:bK p=true) (ha:0≤zI a) (hb:0≤zI b) (h1:(bZ a b p up).2=0):0≤zI (bZ a b p up).1:=by
 have z:zI aK=0:=bP rfl;have e:∀ up,bZ aK aK p up=(aK,0):=fun up=>by
  unfold bZ;rw [if_pos (yJ rfl rfl hp).1,z,Int.zero_mul,zH]
 obtain ⟨m1,m2⟩:=zJ va vb (a':=aK) (b':=aK) rfl rfl hp (by rw [z,Int.zero_mul]; exact Int.mul_nonneg ha hb);rw [e] at m1 m2;simp only [z] at m1 m2;cases up with
 | false=>have:=(m1 (by trivial)).2; omega
 | true=>have:=(m2 h1).2; omega
theorem Ca {a a':Rd} {p:Int} (va:vd a=true) (va':vd a'=true) (hp:bK p=true) (h0:0≤zI a') (h:zI a'≤zI a):∀ (k:Nat) (r r':Rd × Int),vd r.1=true→vd r'.1=true→0≤zI r'.1→zI r'.1≤zI r.1→r.2=0→r'.2=0 →
  ((ft a' p false k r').2=0→(ft a p false k r).2=0∧zI (ft a' p false k r').1≤zI (ft a p false k r).1) ∧
  ((ft a p true k r).2=0→(ft a' p true k r').2=0∧zI (ft a' p true k r').1≤zI (ft a p true k r).1)
 | 0,r,r',_,_,_,hr,e,e'=>⟨fun _=>⟨e,hr⟩,fun _=>⟨e',hr⟩⟩
 | k+1,r,r',v,v',hz,hr,e,e'=>by
  have hm:zI r'.1*zI a'≤zI r.1*zI a:=Int.mul_le_mul hr h h0 (by omega);obtain ⟨m1,m2⟩:=zJ v va v' va' hp hm;have stop:∀ {b:Rd} {up:Bool} {r:Rd × Int},r.2 ≠ 0→(ft b p up k r).2 ≠ 0:=fun {b up r} hne=>by
   cases k with
   | zero=>exact hne
   | succ k=>unfold ft; rw [if_neg hne]; exact hne
  unfold ft;rw [if_pos e,if_pos e',if_pos e,if_pos e'];constructor
  ·intro hh;by_cases c:(bZ r'.1 a' p false).2=0
   ·obtain ⟨c1,c2⟩:=m1 c;exact (Ca va va' hp h0 h k _ _ qY.1 qY.1 (Yk v' va' hp hz h0 c) c2 c1 c).1 hh
   ·exact absurd hh (stop c)
  ·intro hh;by_cases c:(bZ r.1 a p true).2=0
   ·obtain ⟨c1,c2⟩:=m2 c;exact (Ca va va' hp h0 h k _ _ qY.1 qY.1 (Yk v' va' hp hz h0 c1) c2 c c1).2 hh
   ·exact absurd hh (stop c)
theorem PY {b:Rd} {p:Int} {up:Bool} {r:Rd × Int} (hne:r.2 ≠ 0):∀ k,(ft b p up k r).2 ≠ 0
 | 0=>hne
 | k+1=>by unfold ft; rw [if_neg hne]; exact hne
theorem Kw {a a':Rd} {p:Int} {n:Nat} (va:vd a=true) (va':vd a'=true) (hp:bK p=true) (h0:0≤zI a') (h:zI a'≤zI a) :
  ((pw a' n p false).2=0→(pw a n p false).2=0∧zI (pw a' n p false).1≤zI (pw a n p false).1) ∧
  ((pw a n p true).2=0→(pw a' n p true).2=0∧zI (pw a' n p true).1≤zI (pw a n p true).1):=by
 obtain ⟨m1,m2⟩:=LV va va' hp h;unfold pw;constructor
 ·intro hh;by_cases c:(dU a' p false).2=0
  ·obtain ⟨c1,c2⟩:=m1 c;exact (Ca va va' hp h0 h _ _ _ vX.1 vX.1 (Yj va' hp h0 c) c2 c1 c).1 hh
  ·exact absurd hh (PY c _)
 ·intro hh;by_cases c:(dU a p true).2=0
  ·obtain ⟨c1,c2⟩:=m2 c;exact (Ca va va' hp h0 h _ _ _ vX.1 vX.1 (Yj va' hp h0 c1) c2 c c1).2 hh
  ·exact absurd hh (PY c _)
theorem akF {p:Int} {n:Nat} {up:Bool} (hp:bK p=true):pw aK n p up=(aK,0):=by
 have z:zI aK=0:=bP rfl;have e:bZ aK aK p up=(aK,0):=by
  unfold bZ;rw [if_pos (yJ rfl rfl hp).1,z,Int.zero_mul,zH]
 unfold pw;rw [Ti hp];generalize n - 1=k;induction k with
 | zero=>rfl
 | succ k ih =>
  unfold ft;rw [if_pos rfl];show ft aK p up k (bZ aK aK p up)=_;rw [e];exact ih
theorem aer {a:Rd} {p:Int} {n:Nat} (va:vd a=true) (hp:bK p=true) (h:0≤zI a):(pw a n p false).2=0∧0≤zI (pw a n p false).1∧((pw a n p true).2=0→0≤zI (pw a n p true).1):=by
 have z:zI aK=0:=bP rfl;obtain ⟨m1,m2⟩:=Kw (n:=n) va (a':=aK) rfl hp (by omega) (by omega);rw [akF hp] at m1 m2;simp only [z] at m1 m2;obtain ⟨m3,m4⟩:=m1 (by trivial);exact ⟨m3,m4,fun h=>(m2 h).2⟩
theorem Al {d:Rd} (v:vd d=true):sS d < 0↔zI d < 0:=by
 rw [Z6 v];have:=@M1 d;rw [← Rat.not_le,this];omega
theorem Kx {d:Rd} {p:Int} {n:Nat} {up:Bool}:vd (pw d n p up).1=true:=by
 unfold pw;exact (M2 _ _ vX).1
theorem LW {d d':Rd} {p:Int} {n:Nat} (v:vd d=true) (v':vd d'=true) (hp:bK p=true) (h:zI d'≤zI d) :
  ((gQ d' n p false).2=0→(gQ d n p false).2=0∧zI (gQ d' n p false).1≤zI (gQ d n p false).1) ∧
  ((gQ d n p true).2=0→(gQ d' n p true).2=0∧zI (gQ d' n p true).1≤zI (gQ d n p true).1):=by
 obtain ⟨g1,g2⟩:=kh v;obtain ⟨g3,g4⟩:=kh v';unfold gQ;by_cases c:zI d < 0
 ·have c':zI d' < 0:=by omega
  rw [if_pos ((Al v).2 c),if_pos ((Al v').2 c'),if_pos ((Al v).2 c),if_pos ((Al v').2 c')];obtain ⟨m1,m2⟩:=Kw (n:=n) g4 g2 hp (show 0≤zI (dG d) by omega) (show zI (dG d)≤zI (dG d') by omega);constructor
  ·intro e;obtain ⟨k1,k2⟩:=m2 e;refine ⟨k1,?_⟩;rw [(kh (d:=(pw (dG d') n p !false).1) Kx).1,(kh (d:=(pw (dG d) n p !false).1) Kx).1];exact Int.neg_le_neg k2
  ·intro e;obtain ⟨k1,k2⟩:=m1 e;refine ⟨k1,?_⟩;rw [(kh (d:=(pw (dG d') n p !true).1) Kx).1,(kh (d:=(pw (dG d) n p !true).1) Kx).1];exact Int.neg_le_neg k2
 ·rw [if_neg (mt (Al v).1 c),if_neg (mt (Al v).1 c)];obtain ⟨p1,p2,p3⟩:=aer (n:=n) v hp (by omega);by_cases c':zI d' < 0
  ·rw [if_pos ((Al v').2 c'),if_pos ((Al v').2 c')];obtain ⟨q1,q2,q3⟩:=aer (n:=n) g4 hp (by omega);constructor
   ·intro e;have:=q3 e;refine ⟨p1,?_⟩;rw [(kh (d:=(pw (dG d') n p !false).1) Kx).1];show -zI (pw (dG d') n p true).1≤_;omega
   ·intro e;have:=p3 e;refine ⟨q1,?_⟩;rw [(kh (d:=(pw (dG d') n p !true).1) Kx).1];show -zI (pw (dG d') n p false).1≤_;omega
  ·rw [if_neg (mt (Al v').1 c'),if_neg (mt (Al v').1 c')];exact Kw v v' hp (by omega) h
theorem IL {d:Rd} (v:vd d=true):vd (mR d)=true∧zI (mR d)=((zI d).natAbs:Int):=by
 unfold mR;by_cases h:d.m.length=0
 ·rw [if_pos (Or.inr h),bP h];exact ⟨rfl,bP rfl⟩
 ·rw [if_neg (by simp [v,h])];refine ⟨?_,?_⟩
  ·have h2:=v;unfold vd at h2 ⊢;rw [if_neg h] at h2 ⊢;exact h2
  ·have e1:zI ⟨false,d.m,d.e⟩=(mg d:Int):=rfl;rw [e1];unfold zI;split <;> omega
theorem aa1 {d:Rd} (v:vd d=true):(0 < bS d↔0 < zI d)∧(bS d < 0↔zI d < 0):=by
 have h0:d.m.length=0→zI d=0:=bP;have hp:d.m.length ≠ 0→0 < mg d:=fun h=>by
  unfold mg;exact Nat.mul_pos (by have:=vS v h; have:=SI v h; omega) (Nat.two_pow_pos _)
 unfold bS;by_cases h:d.m.length=0
 ·rw [if_pos h,h0 h];omega
 ·have:=hp h;rw [if_neg h];unfold zI;split <;> omega
theorem aa2 {x:Ri} (h:VI x) (hle:zI x.lo≤zI x.hi):vd (tF x)=true∧zI (tF x)=(if 0 < zI x.lo then zI x.lo else if zI x.hi < 0 then -zI x.hi else 0):=by
 obtain ⟨a1,a2⟩:=IL h.1.1;obtain ⟨b1,b2⟩:=IL h.2.1;obtain ⟨s1,s2⟩:=aa1 h.1.1;obtain ⟨t1,t2⟩:=aa1 h.2.1;have c:=IH a1 b1;unfold tF DM jf;by_cases k1:0 < zI x.lo
 ·rw [if_pos (s1.2 k1),if_neg (by decide),if_pos k1];split
  ·exact ⟨a1,by omega⟩
  ·exact ⟨b1,by omega⟩
 ·rw [if_neg (mt s1.1 k1),if_neg k1];by_cases k2:zI x.hi < 0
  ·rw [if_pos (t2.2 k2),if_neg (by decide),if_pos k2];split
   ·exact ⟨a1,by omega⟩
   ·exact ⟨b1,by omega⟩
  ·rw [if_neg (mt t2.1 k2),if_pos rfl,if_neg k2];exact ⟨rfl,bP rfl⟩
theorem aa3 {x:Ri} (h:VI x):vd (Aj x)=true∧zI (Aj x)=(if (zI x.lo).natAbs≤(zI x.hi).natAbs then ((zI x.hi).natAbs:Int) else (zI x.lo).natAbs):=by
 obtain ⟨a1,a2⟩:=IL h.1.1;obtain ⟨b1,b2⟩:=IL h.2.1;have c:=IH a1 b1;unfold Aj jg;split
 ·refine ⟨a1,?_⟩;split <;> omega
 ·refine ⟨b1,?_⟩;split <;> omega
theorem Ky {x x':Ri} {n:Nat} {p:Int} (hx:Sb x x'):Sb (uQ x n p) (uQ x' n p):=by
 obtain ⟨⟨q,ix⟩,hx⟩:=hx;refine ⟨⟨_,Bc ix⟩,?_⟩;by_cases hk:(kI x' && bK p && decide (n≤16))=true
 ·have hk2:=hk;simp only [Bool.and_eq_true] at hk2;obtain ⟨⟨k1,hp⟩,h16⟩:=hk2;rcases hx with rfl | ⟨x1,x2,⟨q',ix'⟩,x3,x4⟩
  ·rw [PX] at k1;cases k1
  have hi:=Bc (n:=n) (p:=p) ix';have kx:=E9 ⟨q,ix⟩ x1;unfold uQ at hi ⊢;rw [if_pos hk] at hi ⊢;rw [if_pos (show (kI x && bK p && decide (n≤16))=true by rw [kx,hp,h16]; rfl)];by_cases h0:n=0
  ·subst h0;rw [if_pos rfl] at hi ⊢
   try rw [if_pos rfl]
   exact Or.inr ⟨rfl,rfl,⟨_,hi⟩,Int.le_refl _,Int.le_refl _⟩
  ·simp only [if_neg h0] at hi ⊢;have lx:=M5 ⟨q,ix⟩ x1;have lx':=M5 ⟨q',ix'⟩ x2;have hX:((vd (if n % 2=0 then jL x else x).lo=true∧vd (if n % 2=0 then jL x else x).hi=true)∧vd (if n % 2=0 then jL x' else x').lo=true∧vd (if n % 2=0 then jL x' else x').hi=true) ∧
     zI (if n % 2=0 then jL x' else x').lo≤zI (if n % 2=0 then jL x else x).lo∧zI (if n % 2=0 then jL x else x).hi≤zI (if n % 2=0 then jL x' else x').hi:=by
    by_cases h2:n % 2=0
    ·rw [if_pos h2,if_pos h2];unfold jL;rw [if_pos kx,if_pos k1];obtain ⟨m1,m2⟩:=aa2 ix.vi lx;obtain ⟨m3,m4⟩:=aa2 ix'.vi lx';obtain ⟨g1,g2⟩:=aa3 ix.vi;obtain ⟨g3,g4⟩:=aa3 ix'.vi;refine ⟨⟨⟨m1,g1⟩,m3,g3⟩,?_,?_⟩
     ·show zI (tF x')≤zI (tF x);rw [m2,m4];split <;> split <;> (try split) <;> (try split) <;> omega
     ·show zI (Aj x)≤zI (Aj x');rw [g2,g4];split <;> split <;> omega
    ·rw [if_neg h2,if_neg h2];exact ⟨⟨⟨ix.vi.1.1,ix.vi.2.1⟩,ix'.vi.1.1,ix'.vi.2.1⟩,x3,x4⟩
   generalize (if n % 2=0 then jL x else x)=X at hX ⊢;generalize (if n % 2=0 then jL x' else x')=X' at hX hi ⊢;obtain ⟨⟨⟨v1,v2⟩,v3,v4⟩,e1,e2⟩:=hX;obtain ⟨a1,_⟩:=LW (n:=n) v1 v3 hp e1;obtain ⟨_,a2⟩:=LW (n:=n) v4 v2 hp e2;unfold qi at hi ⊢;by_cases he:(gQ X'.lo n p false).2=0∧(gQ X'.hi n p true).2=0
   ·obtain ⟨b1,b2⟩:=a1 he.1;obtain ⟨b3,b4⟩:=a2 he.2;rw [if_pos he] at hi ⊢;rw [if_pos ⟨b1,b3⟩];exact Or.inr ⟨rfl,rfl,⟨_,hi⟩,b2,b4⟩
   ·rw [if_neg he];exact Or.inl rfl
 ·left;unfold uQ;rw [if_neg hk]
theorem acK {x x':Ri} {n:Nat} {p:Int} (hx:Sb x x'):Sb (tG x n p) (tG x' n p):=by
 unfold tG;split
 ·exact Ky hx
 ·exact Th (Ky hx) (Ky hx)
theorem Yl {p:Int}:∀ (ds ds':List Ri) (es:List Int) (x x':Ri),(∀ i,i < ds.length→Sb (ds.getD i cB) (ds'.getD i cB))→ds.length=ds'.length→Sb x x'→Sb (yz p ds es x) (yz p ds' es x')
 | [],[],es,x,x',_,_,h=>by cases es <;> exact h
 | d::ds,d'::ds',[],x,x',_,_,h=>h
 | d::ds,d'::ds',e::es,x,x',hd,hl,h=>by
  show Sb (yz p ds es (if 0 < e then jM x (tG d e.toNat p) p else x)) (yz p ds' es (if 0 < e then jM x' (tG d' e.toNat p) p else x'));refine Yl ds ds' es _ _ (fun i hi=>hd (i+1) (by simp; omega)) (by simpa using hl) ?_;split
  ·exact Th h (acK (hd 0 (by simp)))
  ·exact h
 | [],_::_,_,_,_,_,hl,_=>by simp at hl
 | _::_,[],_,_,_,_,hl,_=>by simp at hl
theorem Ym {p:Int} {ds ds':List Ri} (hd:∀ i,i < ds.length→Sb (ds.getD i cB) (ds'.getD i cB)) (hl:ds.length=ds'.length):∀ (l:List Rt) (s s':Ri),(∀ t ∈ l,vd t.c=true∧Ok0 t.c)→Sb s s'→Sb (DP p ds l s) (DP p ds' l s')
 | [],_,_,_,h=>h
 | t::l,s,s',ht,h=>by
  show Sb (DP p ds l (j3 s (yz p ds t.exps ⟨t.c,t.c,false⟩) p)) (DP p ds' l (j3 s' (yz p ds' t.exps ⟨t.c,t.c,false⟩) p));have hc:=ht t (by simp);have hi:In (qv t.c) ⟨t.c,t.c,false⟩:=Or.inr ⟨rfl,⟨hc,hc⟩,Rat.le_refl,Rat.le_refl⟩;refine Ym hd hl l _ _ (fun t ht'=>ht t (by simp [ht'])) (acJ h (Yl _ _ _ _ _ hd hl ⟨⟨_,hi⟩,Or.inr ⟨rfl,rfl,⟨_,hi⟩,Int.le_refl _,Int.le_refl _⟩⟩))
theorem Vx:R F.slices_Clone_api_Interval_api_Interval_ [.sl 7 []] []=some (.sl 7 [],[]):=by
 refine (BC (g:=Wv) (by kernel_rfl)).trans ?_;rfl
theorem Vy {x:Ri} {l:List Ri} (h:l.length≤100000):R F.slices_Clone_api_Interval_api_Interval_ [.sl 7 (aY (x::l))] []=some (.osl 7 (aY (x::l)),[]):=by
 refine (BC (g:=Wv) (by kernel_rfl)).trans ?_;have:(aY l).length=l.length:=xp l;show (if ((aY l).length+1)*88≤140737488355328 then some (AV.osl 7 (aY (x::l)),[]) else none)=_;rw [if_pos (by omega)]
def oI (x:Ri) (k:Nat):Ri:=if k % 4=0 then ⟨x.lo,yI x 2,x.all⟩ else if k % 4=1 then ⟨yI x 2,x.hi,x.all⟩ else if k % 4=2 then ⟨yI x (k / 4 % 256),yI x (k / 4 % 256),false⟩ else x
def kQ:List Ri→List Nat→List Ri
 | [],_=>[]
 | x::d,z=>oI x (z.getD 0 0)::kQ d z.tail
theorem qp:∀ {d:List Ri} {z:List Nat},(kQ d z).length=d.length
 | [],_=>rfl
 | _::_,_=>by simp [kQ,qp]
theorem Tj:∀ {d:List Ri} {z:List Nat} {i:Nat} (h:i < d.length),(kQ d z)[i]?=some (oI d[i] (z.getD i 0))
 | x::d,z,0,_=>by simp [kQ]
 | x::d,z,i+1,h=>by
  have:=Tj (d:=d) (z:=z.tail) (i:=i) (by simpa using h);simp only [kQ,List.getElem?_cons_succ,this,List.getElem_cons_succ];cases z <;> simp
def tZ (d:List Ri) (z:List Nat) (i:Nat):List Ri:=(kQ d z).take i++d.drop i
theorem acL {d:List Ri} {z:List Nat} {i:Nat} (h:i≤d.length):(tZ d z i).length=d.length:=by
 simp [tZ,qp];omega
theorem acM {d:List Ri} {z:List Nat} {i:Nat} (h:i < d.length):(tZ d z i)[i]?=some d[i]:=by
 unfold tZ;rw [List.getElem?_append_right (by simp [qp]; omega)];simp [qp,Nat.min_eq_left (Nat.le_of_lt h),h]
theorem acN {d:List Ri} {z:List Nat} {i:Nat} (h:i < d.length):(tZ d z i).set i (oI d[i] (z.getD i 0))=tZ d z (i+1):=by
 unfold tZ;have h1:=Tj (z:=z) h;have h2:i < (kQ d z).length:=by rw [qp]; exact h
 rw [List.drop_eq_getElem_cons h,List.set_append_right _ _ (by simp [qp]; omega),List.take_add_one,h1,show i - ((kQ d z).take i).length=0 by simp [qp]; omega,List.set_cons_zero];simp
theorem acO (l:List Ri) (i:Nat) (x:Ri):(aY l).set i (az x)=aY (l.set i x):=by simp [aY,List.map_set]
theorem Yn {x:Ri} {k:Nat} (h:VI x) (ha:x.all=false) (hle:qv x.lo≤qv x.hi):VI (oI x k)∧(oI x k).all=false∧qv (oI x k).lo≤qv (oI x k).hi∧qv x.lo≤qv (oI x k).lo∧qv (oI x k).hi≤qv x.hi:=by
 have b2:=M3 (k:=2) h hle;have b4:=M3 (k:=k / 4 % 256) h hle;unfold oI;split
 ·exact ⟨⟨h.1,b2.1⟩,ha,b2.2.1,Rat.le_refl,b2.2.2⟩
 ·split
  ·exact ⟨⟨b2.1,h.2⟩,ha,b2.2.2,b2.2.1,Rat.le_refl⟩
  ·split
   ·exact ⟨⟨b4.1,b4.1⟩,rfl,Rat.le_refl,b4.2.1,b4.2.2⟩
   ·exact ⟨h,ha,hle,Rat.le_refl,Rat.le_refl⟩
theorem aal {a:Rp} {dom:List Ri} {zt:List Nat} {p:Int} (hv:∀ b ∈ dom,(kI b=true∧VI b)) (h1:dom.length≤100000):∀ (k i:Nat),i+k=dom.length→∀ (s:af) (h:ac),s 1=.sl 7 (aY dom)→s 2=.sl 1 (D6 zt)→s 3=I p→s 4=.ref 4 none 0 0 0 →
  s 9=.rsl 2280 none 7 0 dom.length→s 37=I dom.length→s 38=I i→h 4=.bx [I a.vars,.sl 4 (cU a.terms)]→h 2280=.ar 7 (aY (tZ dom zt i)) →
  ∃ hh,am 0 [1,3,4,9] (aD (aj R (aH false) ce) [1,2,3,4,9,37,38] [4,2280] s h) =
   some (.normal,⟨upd (upd (upd (upd (fun _=>.any) 9 (.rsl 2280 none 7 0 dom.length)) 4 (.ref 4 none 0 0 0)) 3 (I p)) 1 (.sl 7 (aY dom)),hh⟩)∧hh 4=.bx [I a.vars,.sl 4 (cU a.terms)]∧hh 2280=.ar 7 (aY (kQ dom zt))∧∀ a,a ≠ 4→a ≠ 2280→hh a=.dead:=by
 intro k;induction k with
 | zero =>
  intro i hi s h k1 k2 k3 k4 k9 k37 k38 hh hh2;have:i=dom.length:=by omega
  subst this;have e0:tZ dom zt dom.length=kQ dom zt:=by simp [tZ,List.take_of_length_le,qp]
  rw [e0] at hh2;rw [ai];refine ⟨?hh0,?_,?_,?_,?_⟩;rotate_left
  ·simp only [ce,go_sem,apB,apA,apC,apD,apE,k1,k2,k3,k4,k9,k37,k38,hh,hh2,Int.lt_irrefl];rfl
  ·rfl
  ·rfl
  ·intro b hb hb';simp only [ed,hb,hb',if_false]
 | succ k ih =>
  intro i hi s h k1 k2 k3 k4 k9 k37 k38 hh hh2;have ih':=ih (i+1) (by omega);have hlt:i < dom.length:=by omega
  have e1:((i:Int) < (dom.length:Int))=True:=tt (by omega);have e2:aV (aY dom) (i:Int)=some (.ipt (az dom[i])):=A6 rfl (List.getElem?_eq_getElem hlt);have e3:IntKind.i64.wrap ((i:Int)+1)=((i+1:Nat):Int):=wi (by omega) (by omega);have e4:(0≤(i:Int))=True:=eq_true (by omega);obtain ⟨hk,vx⟩:=hv dom[i] (List.getElem_mem hlt);have e5:(aY (tZ dom zt i))[i]?=some (az dom[i]):=by
   have:=acM (z:=zt) hlt;simp [aY,this]
  have ha:dom[i].all=false:=by unfold kI at hk; simp at hk; exact hk.1
  obtain ⟨p1,p2,p3,p4,p5⟩:=Yn (k:=zt.getD i 0) vx ha (M4 hk);have hset:=acN (z:=zt) hlt;have hm:(aY (tZ dom zt i)).set i (az (oI dom[i] (zt.getD i 0)))=aY (tZ dom zt (i+1)):=by rw [acO,hset]
  have hcmp:=qh p1.1.2 p1.2.2;rw [if_pos ⟨p1.1.1,p1.2.1⟩] at hcmp;have hle:(0 < bD (zI (oI dom[i] (zt.getD i 0)).lo) (zI (oI dom[i] (zt.getD i 0)).hi))=False:=by
   rw [qn] at p3;unfold bD;exact eq_false (by split <;> (try split) <;> omega)
  have hi2:∀ r:Ri,((aY (tZ dom zt i)).set i (az r))[i]?=some (az r):=fun r=>by
   rw [List.getElem?_set_self];rw [xp,acL (by omega)];exact hlt
  rw [ai];generalize aD _ _ _=L at ih' ⊢;have hb:∀ k:Nat,R F.l24_between [av dom[i],.v (.int .u8 (k:Nat))] []=some (ag (yI dom[i] k),[]):=fun k=>Vt vx.1 vx.2;have hP:∀ k,R F.interval_Point [ag (yI dom[i] k)] []=some (av ⟨yI dom[i] k,yI dom[i] k,false⟩,[]):=fun k=>iP (M3 vx (M4 hk)).1.2 (M3 vx (M4 hk)).1.1;have e6:(aY (tZ dom zt (i+1)))[i]?=some (az (oI dom[i] (zt.getD i 0))):=by rw [← hm,hi2]
  have e7:zt.getD i 0 % 4=3→aY (tZ dom zt (i+1))=aY (tZ dom zt i):=fun h3=>by
   rw [← hm,show oI dom[i] (zt.getD i 0)=dom[i] by unfold oI; rw [if_neg (by omega),if_neg (by omega),if_neg (by omega)]];obtain ⟨q,e⟩:=List.getElem?_eq_some_iff.1 e5;rw [← e,List.set_getElem_self]
  have m0:∀ q:Nat,((q:Int).tmod 4)=((q % 4:Nat):Int):=fun q=>by rw [Int.tmod_eq_emod_of_nonneg (by omega)]; rfl
  have m1:∀ q:Nat,IntKind.u8.wrap ((q:Int).tdiv 4)=((q / 4 % 256:Nat):Int):=fun q=>by
   rw [Int.tdiv_eq_ediv_of_nonneg (by omega)];simp [IntKind.wrap,IntKind.signed,IntKind.bits]
  have hz0:¬ i < zt.length→zt.getD i 0=0:=fun h=>by simp [List.getD_eq_getElem?_getD,List.getElem?_eq_none (show zt.length≤i by omega)]
  have hzz:i < zt.length→aV (D6 zt) (i:Int)=some (.ipt [.v (.int .u8 (zt.getD i 0:Nat))]):=fun hl=>acH rfl hl;generalize dom[i]=x at *
  generalize zt.getD i 0=z at *
  have hj:z % 4=0∨z % 4=1∨z % 4=2∨z % 4=3:=by omega
  have hb0:=hb (z / 4 % 256);have hP0:=hP (z / 4 % 256);have hb2:=hb 2;simp only [av,az,ag,ak,Int.cast_ofNat_Int] at e2 e5 hb0 hP0 hb2 hcmp hm hi2;by_cases hl:i < zt.length
  ·have f1:((i:Int) < (zt.length:Int))=True:=tt (by omega);have f2:aV (D6 zt) (i:Int)=some (.ipt [.v (.int .u8 (z:Nat))]):=hzz hl;by_cases h3:z % 4=3
   ·rw [e7 h3] at ih' hm e6;simp only [oI,h3,↓reduceIte,Nat.reduceEqDiff,az] at hcmp hle hm e6;simp only [ce,go_sem,apB,apA,apC,apD,apE,k1,k2,k3,k4,k9,k37,k38,hh,hh2,e1,e2,e3,e4,e5,e6,f1,hcmp,hle,hm,Int.natCast_zero,Int.natCast_one,Int.cast_ofNat_Int,apI,Int.toNat_natCast,Nat.zero_add,f2,m0,m1,h3,hb0,hb2,hP0];refine ih' _ _ ?_ ?_ ?_ ?_ ?_ ?_ ?_ ?_ ?_ <;> first | rfl | assumption
   ·rcases hj with hj | hj | hj | hj
    all_goals first | exact absurd hj h3 | skip
    all_goals
     simp only [oI,hj,↓reduceIte,Nat.reduceEqDiff,az] at hcmp hle hm e6;simp only [ce,go_sem,apB,apA,apC,apD,apE,k1,k2,k3,k4,k9,k37,k38,hh,hh2,e1,e2,e3,e4,e5,e6,f1,hcmp,hle,hm,Int.natCast_zero,Int.natCast_one,Int.cast_ofNat_Int,apI,Int.toNat_natCast,Nat.zero_add,f2,m0,m1,hj,hb0,hb2,hP0];refine ih' _ _ ?_ ?_ ?_ ?_ ?_ ?_ ?_ ?_ ?_ <;> first | rfl | assumption
  ·have f1:((i:Int) < (zt.length:Int))=False:=ff (by omega);have hj:z=0:=hz0 hl;subst hj;simp only [oI,Nat.zero_mod,↓reduceIte,Nat.reduceEqDiff,az] at hcmp hle hm e6;simp only [ce,go_sem,apB,apA,apC,apD,apE,k1,k2,k3,k4,k9,k37,k38,hh,hh2,e1,e2,e3,e4,e5,e6,f1,hcmp,hle,hm,Int.natCast_zero,Int.natCast_one,Int.cast_ofNat_Int,apI,Int.toNat_natCast,Nat.zero_add,Int.reduceTMod,hb2];refine ih' _ _ ?_ ?_ ?_ ?_ ?_ ?_ ?_ ?_ ?_ <;> first | rfl | assumption
theorem PZ (i id k lo n:Nat) (s:af) (h:ac):CO i s h (.rsl id none k lo n)=(mf h id k lo n (h id)).map fun r=>(upd (gJ r.2.2 s) i r.1,r.2.1,r.2.2):=rfl
theorem Tk (i k rows) (s:af) (h:ac):CO i s h (.sl k rows)=some (s,h,[]):=rfl
theorem Tl (k r):iJ (.sl k r)=.sl k r:=rfl
def dOk (dom:List Ri):Prop:=∀ b ∈ dom,kI b=true∧VI b
theorem Yo:∀ {dom:List Ri} {zt:List Nat},dOk dom→dOk (kQ dom zt)∧(∃ ts,qx dom ((kQ dom zt).map fun b=>qv b.lo) ts)∧∀ i,i < (kQ dom zt).length→Sb ((kQ dom zt).getD i cB) (dom.getD i cB)
 | [],zt,_=>⟨fun b hb=>(by cases hb),⟨[],trivial⟩,fun i hi=>(by cases hi)⟩
 | x::dom,zt,h=>by
  obtain ⟨h1,⟨ts,h2⟩,h3⟩:=Yo (zt:=zt.tail) fun b hb=>h b (List.mem_cons_of_mem _ hb);obtain ⟨hk,hv⟩:=h x (by simp);have ha:x.all=false:=by unfold kI at hk; simp at hk; exact hk.1
  have hle:=M4 hk;obtain ⟨p1,p2,p3,p4,p5⟩:=Yn (k:=zt.getD 0 0) hv ha hle;show dOk (oI x (zt.getD 0 0)::kQ dom zt.tail)∧(∃ ts,qx (x::dom) (qv (oI x (zt.getD 0 0)).lo::(kQ dom zt.tail).map fun b=>qv b.lo) ts)∧∀ i,i < (oI x (zt.getD 0 0)::kQ dom zt.tail).length→Sb ((oI x (zt.getD 0 0)::kQ dom zt.tail).getD i cB) ((x::dom).getD i cB);generalize oI x (zt.getD 0 0)=y at *
  have iy:In (qv y.lo) y:=Or.inr ⟨p2,p1,Rat.le_refl,p3⟩;have ix:In (qv x.lo) x:=Or.inr ⟨ha,hv,Rat.le_refl,hle⟩;refine ⟨fun b hb=>?_,?_,fun i hi=>?_⟩
  ·rcases List.mem_cons.1 hb with rfl | hb
   ·exact ⟨E9 ⟨_,iy⟩ p2,p1⟩
   ·exact h1 b hb
  ·have q1:qv x.lo≤qv y.lo:=p4;have q2:qv y.lo≤qv x.hi:=Rat.le_trans p3 p5;by_cases he:qv x.hi - qv x.lo=0
   ·exact ⟨0::ts,by grind,Rat.le_refl,by decide,h2⟩
   ·have hp:0 < qv x.hi - qv x.lo:=by grind
    have hi:=E2 hp;have hm:(qv x.hi - qv x.lo)*(qv x.hi - qv x.lo)⁻¹=1:=Rat.mul_inv_cancel _ he;refine ⟨(qv y.lo - qv x.lo)*(qv x.hi - qv x.lo)⁻¹::ts,?_,?_,?_,h2⟩
    ·generalize (qv x.hi - qv x.lo)⁻¹=w at *
     grind
    ·exact Rat.mul_nonneg (by grind) (Rat.le_of_lt hi)
    ·have:=Rat.mul_nonneg (show 0≤qv x.hi - qv y.lo by grind) (Rat.le_of_lt hi);generalize (qv x.hi - qv x.lo)⁻¹=w at *
     grind
  ·cases i with
   | zero=>exact ⟨⟨_,iy⟩,Or.inr ⟨p2,ha,⟨_,ix⟩,qn.1 p4,qn.1 p5⟩⟩
   | succ i=>exact h3 i (by simpa using hi)
theorem P0 {a:Rp} {dom part:List Ri} {p:Int} (oa:OkP a) (hv:vp a=true) (hl:(dom.length:Int)=a.vars) (hd:jh a dom=true) (hd':jh a part=true) (hlen:part.length=dom.length)
  (hs:∀ i,i < part.length→Sb (part.getD i cB) (dom.getD i cB)):G3 (gZ a part p) (gZ a dom p)=true:=by
 unfold gZ;rw [hd,hd',Bool.true_and];cases hp:bK p with
 | false=>exact Sb.ins ⟨⟨0,Or.inl rfl⟩,Or.inl rfl⟩
 | true =>
  rw [if_pos rfl,if_pos rfl];have i0:In 0 ⟨aK,aK,false⟩:=by
   rw [← B6];exact rx bj.1 bj.2
  unfold vp at hv;simp only [Bool.and_eq_true,decide_eq_true_eq] at hv;exact (Ym hs hlen _ _ _ (fun t ht=>⟨(tI (EN _ _ hv.2.2.2 t ht)).2.1,(oa.t t ht).c⟩) ⟨⟨0,i0⟩,Or.inr ⟨rfl,rfl,⟨0,i0⟩,Int.le_refl _,Int.le_refl _⟩⟩).ins
theorem acP {a:Rp} {dom:List Ri} {zt:List Nat} {p:Int} (haw:R F.l24_awake [] []=some (B true,[])) (oc:∀ t ∈ a.terms,Ok0 t.c) (od:∀ x ∈ dom,OkI x):R F.l24_BoundSmaller [bH a,.sl 7 (aY dom),.sl 1 (D6 zt),I p] []=some (B true,[]):=by
 refine aA Dz rfl ?_;have hfw:=adQ (a:=a);have hn:=abR (l:=dom);simp only [bH] at hfw;cases h1:Va a with
 | false =>
  rw [h1] at hfw;simp only [da,eA,bH,go_sem,apB,apA,apC,apD,apE,haw,hfw]
 | true =>
  rw [h1] at hfw;cases h2:MY dom with
  | false =>
   rw [h2] at hn;simp only [da,eA,bH,go_sem,apB,apA,apC,apD,apE,haw,hfw,hn]
  | true =>
   rw [h2] at hn;by_cases h3:200 < p
   ·have e3:(200 < p)=True:=eq_true h3;simp only [da,eA,bH,go_sem,apB,apA,apC,apD,apE,haw,hfw,hn,e3]
   ·have e3:(200 < p)=False:=eq_false h3;unfold Va at h1;unfold MY at h2;simp only [Bool.and_eq_true,decide_eq_true_eq,Bool.not_eq_true'] at h1 h2;have oa:OkP a:=⟨fun t ht=>⟨oc t ht,by
     have:=List.any_eq_false.1 h1.2.2 t ht;unfold BZ at this;simp only [Bool.or_eq_true,decide_eq_true_eq,not_or] at this;omega⟩⟩
    have hdm:=RK oa od (by omega);cases hd:jh a dom with
    | false =>
     rw [hd] at hdm;simp only [bH] at hdm;simp only [da,eA,bH,go_sem,apB,apA,apC,apD,apE,haw,hfw,hn,e3,hdm]
    | true =>
     rw [hd] at hdm;obtain ⟨hv,hl,hk⟩:=Yg od hd;obtain ⟨q1,⟨ts,hpt⟩,hsb⟩:=Yo (zt:=zt) hk;have hlp:=aal (a:=a) (zt:=zt) (p:=p) hk (by omega) dom.length 0 (Nat.zero_add _);have hlen:(kQ dom zt).length=dom.length:=qp;have od':∀ x ∈ kQ dom zt,OkI x:=fun x hx=>(q1 x hx).2.ok';have hd':jh a (kQ dom zt)=true:=by
      unfold jh;rw [hv,hlen,decide_eq_true hl];simp only [Bool.true_and,Bool.not_eq_true',List.any_eq_false];intro x hx;rw [(q1 x hx).1];decide
     obtain ⟨b,hB,hbr,_⟩:=PQ oa od (by omega) (p:=p);obtain ⟨b',hB',hbr',_⟩:=PQ oa od' (by omega) (p:=p);have n1:=GO oa od (by omega) (p:=p);have n2:=GO oa od' (by omega) (p:=p);have hpt':=aaX (kQ dom zt);have i1:=LN (p:=p) oa (qx.inL hk hpt);have i2:=hbr _ _ hpt;have i1':=LN (p:=p) oa (qx.inL q1 hpt');have i2':=hbr' _ _ hpt';have hX:=PS oa od (by omega) (p:=p) (b:=b) i2.ok (fun _=>hB);have hX':=PS oa od' (by omega) (p:=p) (b:=b') i2'.ok (fun _=>hB');have best:∀ {dom:List Ri} {b:Ri} {q:Rat},In q (gZ a dom p)→In q b→In q (E7 a dom p b):=fun {dom b q} i1 i2=>by
      unfold E7;split
      ·obtain ⟨m1,m2⟩:=GX i1 i2;rw [if_pos m1];exact m2
      ·exact Or.inl rfl
     have i3:=best i1 i2;have i3':=best i1' i2';have hM:=GV i3'.ok i3.ok;have hm:=(GX i3' i3).1;have hI:=LT i1'.ok i1.ok;rw [P0 oa hv hl hd hd' hlen hsb] at hI;have hM2:=GV i3.ok i3.ok;have hm2:=(GX i3 i3).1;have hI2:=LT i1.ok i1.ok;have hins:dom=[]→G3 (gZ a dom p) (gZ a dom p)=true:=fun h=>P0 oa hv hl hd hd rfl (by subst h; intro i hi; cases hi);generalize gZ a (kQ dom zt) p=y1 at *
     generalize gZ a dom p=y2 at *
     generalize E7 a (kQ dom zt) p b'=z1 at *
     generalize E7 a dom p b=z2 at *
     generalize tK z1 z2=m at *
     generalize tK z2 z2=m2 at *
     rw [hm] at hM;rw [hm2] at hM2;simp only [bH,av,az] at hdm n1 n2 hX hX' hM hI hM2 hI2;generalize hL:aD (aj R (aH false) ce) [1,2,3,4,9,37,38] [4,2280]=L at hlp;have hXL:∀ s h,aj R (aH false) (.loop [1,2,3,4,9,37,38] [4,2280] ce) s h=L s h:=fun s h=>by rw [← hL]; rfl
     cases dom with
     | nil =>
      have hcl:=Vx;rw [hins rfl] at hI2;rw [show kQ [] zt=[] from rfl] at n2 hX';simp only [show aY []=[] from rfl] at hn hdm n1 n2 hX hX';simp only [da,eA,bH,show aY []=[] from rfl,go_sem,apB,apA,apC,apD,apE,haw,hfw,hn,e3,hdm,hcl,hXL];rw [← hL,ai];simp only [ce,go_sem,apB,apA,apC,apD,apE,Int.lt_irrefl,Int.natCast_zero,apJ,apK,PZ,Tk,PI,S9,X3,Tl,List.map_cons,List.map_nil,n1,hX,hM2,hI2,ne_eq,not_false_eq_true]
     | cons x0 dom0 =>
      have hcl:=Vy (x:=x0) (l:=dom0) (by simp at h2; omega);generalize hD:x0::dom0=dom at *
      clear hL;have hlp2:∀ (S:af) (H:ac) (X:Option (Ex × St)),am 0 [1,3,4,9] (L S H)=X→S 1=.sl 7 (aY dom)→S 2=.sl 1 (D6 zt)→S 3=I p→S 4=.ref 4 none 0 0 0 →
        S 9=.rsl 2280 none 7 0 dom.length→S 37=I dom.length→S 38=I 0→H 4=.bx [I a.vars,.sl 4 (cU a.terms)]→H 2280=.ar 7 (aY dom) →
        ∃ hh,X=some (.normal,⟨upd (upd (upd (upd (fun _=>.any) 9 (.rsl 2280 none 7 0 dom.length)) 4 (.ref 4 none 0 0 0)) 3 (I p)) 1 (.sl 7 (aY dom)),hh⟩)∧hh 4=.bx [I a.vars,.sl 4 (cU a.terms)]∧hh 2280=.ar 7 (aY (kQ dom zt))∧∀ a,a ≠ 4→a ≠ 2280→hh a=.dead:=fun S H X hX k1 k2 k3 k4 k5 k6 k7 k8 k9=>by
       rw [← hX];exact hlp S H k1 k2 k3 k4 k5 k6 k7 k8 (by rw [k9]; simp [tZ])
      clear hlp;simp only [da,eA,bH,go_sem,apB,apA,apC,apD,apE,haw,hfw,hn,e3,hdm,hcl,hXL];generalize hX2:am 0 [1,3,4,9] (L _ _)=X;obtain ⟨hh,g0,g4,g9,gd⟩:=hlp2 _ _ _ hX2 rfl rfl rfl rfl rfl rfl rfl rfl rfl;rw [g0];have et:(aY (kQ dom zt)).take dom.length=aY (kQ dom zt):=List.take_of_length_le (by rw [xp,hlen]; exact Nat.le_refl _);simp only [go_sem,apB,apA,apC,apD,apE,Nat.zero_add,Nat.le_refl,apJ,apK,et,PZ,Tk,PI,S9,X3,Tl,List.map_cons,List.map_nil,g4,g9,gd,n1,n2,hX,hX',hM,hI,ne_eq,not_false_eq_true,hlen]
noncomputable def D7:Env:=⟨fun f=>MV.lookup f,dv.C,dv.md⟩
noncomputable def R0:ef:=dZ D7
theorem acQ {f:FuncId} {fd:FD} {args:List AV} {hs:List Ob} {r:AV × List Ob} (hE:D7.E f=none) (hC:D7.C f=some fd) (hk:D7.md.keep f=false) (h1:args.length=fd.np) (h2:hs.length≤1000)
  (hz:gM false fd.rs fd.res hs.length (aj R0 (aH false) fd.body (oO args) (ao hs))=some r):R0 f args hs=some r:=by
 refine Df hE hC ?_;unfold N2;rw [if_pos ⟨h1,h2⟩,hk];exact hz
theorem aam {args:List AV} {vals:Array Value} (h:vals.size=args.length) {i:Nat} {c:AV} (hc:args[i]?=some c):∃ u,vals[i]?=some u:=by
 have:i < args.length:=(List.getElem?_eq_some_iff.1 hc).1;exact ⟨vals[i]'(by omega),by simp [h,this]⟩
theorem akG {vals:Array Value} {a:Value} (h:vals.size=1) (h0:vals[0]?=some a):vals=#[a]:=by
 apply Array.ext_getElem?;intro i
 match i with
 | 0=>simpa using h0
 | i+1=>simp [h]
theorem LX {w w':World} {X:Nat→Prop} {ρ:br} (hr:Rel w X ρ (ao [])) (hb:Below w.heap.size w w'):Rel w' X ρ (ao [])∧Far false w ρ (ao []) w' ρ (ao []):=by
 have hl:∀ id sub,¬ live (ao []) id sub:=fun id sub=>by
  have hd:ao [] id=.dead:=by
   unfold ao;split <;> simp
  cases sub with
  | none=>simp [live,hd]
  | some p=>simp [live,hd]
 refine ⟨⟨fun id sub _ _ h=>(hl id sub h).elim,fun id sub h=>(hl id sub h).elim,fun id=>?_,fun b hb'=>Nat.lt_of_lt_of_le (hr.xl b hb') hb.size⟩,hb.os,hb.tape,hb.output,hb.size,fun b h1 _=>hb.block b h1,fun b ⟨id,sub,h,_⟩=>(hl id sub h).elim,fun id _ h=>?_,fun h=>by cases h⟩
 ·have hd:ao [] id=.dead:=by
   unfold ao;split <;> simp
  rw [hd];trivial
 ·exfalso;apply h;unfold ao;split <;> simp
theorem Yp {r:List AV} {rs:List (List AV)} (h:(rs.length+1)*88≤140737488355328):R0 F.slices_Clone_api_Interval_api_Interval_ [.sl 7 (r::rs)] []=some (.osl 7 (r::rs),[]):=by
 refine acQ (fd:=dj) (by kernel_rfl) (by kernel_rfl) (by kernel_rfl) rfl (by decide) ?_;have e1:((rs.length+1)*88≤140737488355328)=True:=eq_true h;have e2:Ek false (.sl 7 (r::rs))=some (B false):=rfl;simp only [dj,fZ,go_sem,apC,apD,e1,e2,List.length_cons,List.length_nil,Nat.zero_add,Nat.zero_le,Nat.le_refl,true_and,true_or,List.nil_append]
theorem acR {P:Program} {I:Inv} (he:∀ a w,(callFunc F.slices_Clone_api_Interval_api_Interval_ a).run P w=.ok (.enter F.slices_Clone_api_Interval_api_Interval_ a) w)
  (hW:∀ a c w,Calls P F.slices_Clone_api_Interval_api_Interval_ #[.slice a 0 c] w fun e w'=>(∃ b d,e=.returned (.slice b 0 d))∧Below w.heap.size w w')
  (hR:re P I false F.slices_Clone_api_Interval_api_Interval_ (R0 F.slices_Clone_api_Interval_api_Interval_)):re P I false F.slices_Clone_api_Interval_api_Interval_ Wv:=by
 intro args obs obs' res w X ρ vals n hz hn hi hr hs hv;unfold Wv at hz;split at hz
 ·cases hz;obtain ⟨u0,h0⟩:=aam hs (i:=0) rfl;have d0:=(hv 0 _ _ rfl h0).sl_inv;obtain rfl:=akG hs h0;cases d0 with
  | sl _ _ a cap ad vs hc ha hk hv2 hl hr2 =>
   unfold Enters;rw [he];refine Calls.mono (hW a cap w) fun e w' hw=>?_;obtain ⟨⟨b,c,rfl⟩,hb⟩:=hw;exact ⟨ρ,(LX hr hb).1,(LX hr hb).2,.dat (.sl 7 [] b c ad vs (Nat.zero_le _) (fun h=>absurd rfl h) (fun _ h=>by cases h) (fun i row j c h=>by simp at h) (fun _ h=>by cases h) (fun i row j c h=>by simp at h))⟩
 ·rename_i r rs;split at hz
  ·rename_i hb;cases hz;exact hR (Yp hb) hn hi hr hs hv
  ·cases hz
 ·cases hz
theorem aan (a:Option Addr) (c:Nat) (w:World):Calls Tryz.prog F.slices_Clone_api_Interval_api_Interval_ #[.slice a 0 c] w fun e w'=>(∃ b d,e=.returned (.slice b 0 d))∧Below w.heap.size w w':=by
 have q:∀ (w:World) (a:Option Addr) (n c n' c':Nat),(binOp .eql 25 (.slice a n c) (.slice none n' c')).run Tryz.prog w=.ok (.bool a.isNone) w:=fun w a n c n' c'=>Lib.run_eql_slice_nil w _ _ a n c n' c' Tryz.underlying25;cases a with
 | none =>
  go_enter Tryz.func20,Tryz.ntmps20
  go_wp2
  go_ret
  exact ⟨⟨_,_,rfl⟩,Below.refl _ _⟩
 | some a =>
  go_enter Tryz.func20,Tryz.ntmps20
  go_wp2
  go_ret
  exact ⟨⟨_,_,rfl⟩,(Below.refl _ w).alloc (Nat.le_refl _) _⟩
abbrev G4:=List (Nat × List AV × AV)
def P1:G4→FuncId→List AV→Option AV
 | [],_,_=>none
 | x::l,f,args=>if x.1=f then (if tM x.2.1 args=true then some x.2.2 else P1 l f args) else P1 l f args
def Tm (a:Option AV) (hs:List Ob) (b:Option (AV × List Ob)):Option (AV × List Ob):=match a,hs with
 | some r,[]=>some (r,[])
 | _,_=>b
def Kz (e:Env) (T:G4):Nat→ef
 | 0=>fun _ _ _=>none
 | n+1=>fun f args hs=>Tm (P1 T f args) hs (match e.E f with
  | some g=>g args hs
  | none=>(e.C f).bind fun fd=>CQ (Kz e T n) { e.md with nm:=e.md.keep f } n fd args hs)
theorem KA {e:Env}:∀ {T:G4} {f:FuncId} {args:List AV} {r:AV},(∀ x ∈ T,dZ e x.1 x.2.1 []=some (x.2.2,[]))→P1 T f args=some r→dZ e f args []=some (r,[])
 | [],f,args,r,_,h=>by cases h
 | x::l,f,args,r,ht,h=>by
  unfold P1 at h;split at h
  ·rename_i h1;split at h
   ·rename_i h2;cases h;have:=ht x (by simp);rw [h1,sD h2] at this;exact this
   ·exact KA (fun y hy=>ht y (by simp [hy])) h
  ·exact KA (fun y hy=>ht y (by simp [hy])) h
theorem nH {call:ef} {md:Mode} {lf:Nat}:∀ (c:Cmd) {s:af} {h:ac} {r:Ex × St},bF call md lf c s h=some r→aj call md c s h=some r
 | .skip,s,h,r,hz=>hz
 | .ops ks l,s,h,r,hz=>hz
 | .dops ks l ps,s,h,r,hz=>hz
 | .seq a b,s,h,r,hz=>by
  simp only [bF,bL] at hz;split at hz
  ·cases hz
  ·rename_i t1 ht1;simp only [aj,bL,nH a ht1,nH b hz]
  ·rename_i i t1 ht1;simp only [aj,bL,nH a ht1];exact hz
  ·rename_i t1 ht1;simp only [aj,bL,nH a ht1];exact hz
 | .cond c a b,s,h,r,hz=>by
  simp only [bF,mr] at hz;split at hz
  ·rename_i t ht;cases t with
   | true=>simp only [aj,mr,ht,if_true]; exact nH a hz
   | false=>simp only [aj,mr,ht,Bool.false_eq_true,if_false]; exact nH b hz
  ·cases hz
 | .block id ks a,s,h,r,hz=>by
  simp only [bF,am] at hz;split at hz
  ·cases hz
  ·rename_i t1 ht1;simp only [aj,am,nH a ht1];exact hz
  ·rename_i i t1 ht1;simp only [aj,am,nH a ht1];exact hz
  ·rename_i t1 ht1;simp only [aj,am,nH a ht1];exact hz
 | .loop ks hs a,s,h,r,hz=>by
  simp only [bF] at hz;simp only [aj,aD];rw [kS];exact ⟨lf,fun k hk=>D0 (fun hh=>nH a hh) lf hk hz⟩
 | .exit id,s,h,r,hz=>hz
 | .ret,s,h,r,hz=>hz
 | .frz is a,s,h,r,hz=>by
  simp only [bF,aT] at hz;split at hz
  ·cases hz
  ·rename_i t1 ht1;simp only [aj,aT,ht1];exact nH a hz
theorem Tn {e:Env} {T:G4} (ht:∀ x ∈ T,dZ e x.1 x.2.1 []=some (x.2.2,[])):∀ n,CE (Kz e T n) (dZ e)
 | 0=>fun f a hs r hz=>by cases hz
 | n+1=>fun f a hs r hz=>by
  have old:(match e.E f with | some g=>g a hs | none=>(e.C f).bind fun fd=>CQ (Kz e T n) { e.md with nm:=e.md.keep f } n fd a hs)=some r→dZ e f a hs=some r:=by
   intro hz;split at hz
   ·rename_i g hE;rw [BC hE];exact hz
   ·rename_i hE;simp only [Option.bind_eq_some_iff] at hz;obtain ⟨fd,hC,hz⟩:=hz;refine Df hE hC ?_;unfold CQ at hz;unfold N2;split at hz
    ·rename_i hcc;rw [if_pos hcc];cases hx:bF (Kz e T n) { e.md with nm:=e.md.keep f } n fd.body (oO a) (ao hs) with
     | none=>rw [hx] at hz; cases hz
     | some q =>
      rw [hx] at hz;rw [nH fd.body (gI (Tn ht n) (Nat.le_refl n) fd.body hx)];exact hz
    ·cases hz
  unfold Kz at hz;unfold Tm at hz;split at hz
  ·rename_i r' hl;cases hz;exact KA ht hl
  ·exact old hz
theorem ah {e:Env}:∀ x ∈ ([]:G4),dZ e x.1 x.2.1 []=some (x.2.2,[]):=fun _ h=>by cases h
theorem ab {e:Env} {x:Nat × List AV × AV} {T:G4} (h1:dZ e x.1 x.2.1 []=some (x.2.2,[])) (h2:∀ x ∈ T,dZ e x.1 x.2.1 []=some (x.2.2,[])):∀ y ∈ x::T,dZ e y.1 y.2.1 []=some (y.2.2,[]):=fun y hy=>by
 rcases List.mem_cons.1 hy with rfl | hy
 ·exact h1
 ·exact h2 y hy
theorem aE {e:Env} (T:G4) (n:Nat) (x:Nat × List AV × AV) (ht:∀ x ∈ T,dZ e x.1 x.2.1 []=some (x.2.2,[])) (h:Kz e T n x.1 x.2.1 []=some (x.2.2,[])):dZ e x.1 x.2.1 []=some (x.2.2,[]):=Tn ht n _ _ _ _ h
def aa4:Ren:=⟨fun | 28=>209 | n=>n,fun | 25=>132 | 27=>75 | 53=>190 | n=>n,fun n=>n⟩
theorem Yq:Lays7.n28 Tryz.prog aa4 where
 mixed:=by kernel_rfl
 f28:=by kernel_rfl
 t0:=by kernel_rfl
 a0:=Tryz.isAgg0
 z0:=Tryz.sizeOf0
 v0:=Tryz.zeroValue0
 i0:=by kernel_rfl
 t3:=by kernel_rfl
 a3:=Tryz.isAgg3
 z3:=Tryz.sizeOf3
 v3:=Tryz.zeroValue3
 i3:=by kernel_rfl
 t4:=by kernel_rfl
 a4:=Tryz.isAgg4
 z4:=Tryz.sizeOf4
 v4:=Tryz.zeroValue4
 i4:=by kernel_rfl
 t5:=by kernel_rfl
 a5:=Tryz.isAgg5
 z5:=Tryz.sizeOf5
 v5:=Tryz.zeroValue5
 i5:=by kernel_rfl
 t25:=by kernel_rfl
 a25:=Tryz.isAgg132
 z25:=Tryz.sizeOf132
 v25:=Tryz.zeroValue132
 i25:=by kernel_rfl
 t27:=by kernel_rfl
 a27:=Tryz.isAgg75
 z27:=Tryz.sizeOf75
 v27:=Tryz.zeroValue75
 i27:=by kernel_rfl
 t53:=by kernel_rfl
 a53:=Tryz.isAgg190
 z53:=Tryz.sizeOf190
 v53:=Tryz.zeroValue190
 i53:=by kernel_rfl
 g0:=by kernel_rfl
def KB:Inv where
 p w _:=TabAt 0 Lib.deBruijn32tab w
 stab:=fun {w w' X} h hs j hj=>by rw [ko (hs 0 (.inr rfl))]; exact h j hj
 more:=fun h _=>h
theorem To:∀ (k x:Nat),Lib.ctzFrom k x=Ly k x
 | 0,x=>rfl
 | k+1,x=>by
  unfold Lib.ctzFrom Ly;rw [To k (x / 2),Nat.add_comm]
set_option maxRecDepth 100000 in
theorem aa5:re Tryz.prog KB false F.bits_TrailingZeros32 tzF:=by
 intro args obs obs' res w X ρ vals n hz hn hi hr hs hv;unfold tzF at hz;split at hz
 ·rename_i x;by_cases hc:0 < x∧x < 4294967296∧obs=[]
  ·rw [if_pos hc] at hz;obtain ⟨h0,h1,rfl⟩:=hc;simp only [Option.some.injEq,Prod.mk.injEq] at hz;obtain ⟨rfl,rfl⟩:=hz;have hv0:=hv 0 (.v (.int .u32 x)) (vals.getD 0 undef) rfl (by simp at hs; simp [Array.getD_eq_getD_getElem?,hs]);have e0:vals=#[.int .u32 x]:=by
    simp only [List.length_cons,List.length_nil] at hs;have:=hv0.v_inv.1;apply Array.ext
    ·simpa using hs
    ·intro i h2 h3;have:i=0:=by simp at h3; exact h3
     subst this;simpa [Array.getD_eq_getD_getElem?,hs] using this
   subst e0;obtain ⟨m,rfl⟩:∃ m:Nat,x=m:=⟨x.toNat,by omega⟩;have key:=Any7.bits_TrailingZeros32 Yq m (by omega) w fun _=>hi;have he:(callFunc F.bits_TrailingZeros32 #[.int .u32 (m:Int)]).run Tryz.prog w=.ok (.enter F.bits_TrailingZeros32 #[.int .u32 (m:Int)]) w:=(enters_of (Yq.f28) (by kernel_rfl) rfl:Proofs.Enters Tryz.prog (aa4.f 28)) _ _;unfold Enters;rw [he];refine Calls.mono key fun e w' hw=>?_;obtain ⟨rfl,rfl⟩:=hw;refine ⟨ρ,hr,.refl _ _ _ _,?_⟩;refine .dat ?_;have:Lib.ctz 32 m=Ly 32 m:=by
    unfold Lib.ctz;rw [if_neg (by omega),To]
   simp only [this,Int.toNat_natCast,mat,dq];exact .v _ rfl
  ·rw [if_neg hc] at hz;cases hz
 ·cases hz
section
variable {H:Type} {enc:TypeId × Value→H} {w:World}
def D8 (w:World) (b:Nat):Prop:=b < w.heap.size
def yK (w:World):Prop:=∀ o v,w.cell? ⟨0,o,none⟩=some v→∃ n,v=.int .u8 n
def wC (u:Value):Prop:=u=u
theorem aet (_:yK w) {a:Addr} {u:Value} (h:w.cell? a=some u) (_:wC u):D8 w a.block∧a.spot=none:=by
 have h1:a.spot=none:=by
  unfold World.cell? at h;split at h
  ·split at h
   ·cases h
   ·rename_i hs;simpa using hs
  ·cases h
 refine ⟨?_,h1⟩;unfold World.cell? at h;split at h
 ·rename_i hb;exact (Array.getElem?_eq_some_iff.1 hb).1
 ·cases h
def mT (w:World) (fs:List AV) (cs:List Value):Prop :=
 fs.length=cs.length∧∀ (j:Nat) (c:AV) (u:Value),fs[j]?=some c→cs[j]?=some u→RD w (D8 w) c u∧aB c=true∧u.oneCell'=true
theorem mT.app {fa fb:List AV} {ca cb:List Value} (ha:mT w fa ca) (hb:mT w fb cb):mT w (fa++fb) (ca++cb):=by
 refine ⟨by simp [ha.1,hb.1],fun j c u h1 h2=>?_⟩;by_cases hj:j < fa.length
 ·rw [List.getElem?_append_left hj] at h1;rw [List.getElem?_append_left (by rw [← ha.1]; exact hj)] at h2;exact ha.2 j c u h1 h2
 ·rw [List.getElem?_append_right (by omega)] at h1;rw [List.getElem?_append_right (by rw [← ha.1]; omega),← ha.1] at h2;exact hb.2 _ c u h1 h2
theorem mT.one {c:AV} {u:Value} (h:RD w (D8 w) c u) (hd:aB c=true) (h1:u.oneCell'=true):mT w [c] [u]:=by
 refine ⟨rfl,fun j c' u' hc hu=>?_⟩;cases j with
 | zero=>simp at hc hu; subst hc hu; exact ⟨h,hd,h1⟩
 | succ j=>simp at hc
noncomputable abbrev Tr (w:World) (enc:TypeId × Value→H) (n:Nat) (t:TypeId) (cs:List Value):Option (DataW H × List MemPlace):=DataW.trod enc Tryz.prog w 0 (fun _=>true) true n t cs
def pB (t:TypeId) (d:DataW H):Prop:=∀ m ∈ DataW.weights Tryz.prog t d,m≤reachBytes
theorem aeu {e:TypeId}:∀ {l:List (DataW H)} {d:DataW H} {m:Nat},d ∈ l→m ∈ DataW.weights Tryz.prog e d→m ∈ DataW.weightsAll Tryz.prog e l
 | [],d,m,h,_=>by simp at h
 | a::l,d,m,h,hm=>by
  simp only [DataW.weightsAll,List.mem_append];rcases List.mem_cons.1 h with rfl | h
  ·exact .inl hm
  ·exact .inr (aeu h hm)
theorem Tp {α:Type} {p:Nat→α→Prop}:∀ (n:Nat),(∀ i,i < n→∃ r,p i r)→∃ l:List α,l.length=n∧∀ (i:Nat) (r:α),l[i]?=some r→p i r
 | 0,_=>⟨[],rfl,fun i r h=>by simp at h⟩
 | n+1,h=>by
  obtain ⟨l,h1,h2⟩:=Tp n fun i hi=>h i (by omega);obtain ⟨r,hr⟩:=h n (by omega);refine ⟨l++[r],by simp [h1],fun i r' hi=>?_⟩;by_cases hin:i < n
  ·rw [List.getElem?_append_left (by omega)] at hi;exact h2 i r' hi
  ·rw [List.getElem?_append_right (by omega)] at hi;have:i=n:=by
    have:=(List.getElem?_eq_some_iff.1 hi).1;simp at this;omega
   subst this;simp [h1] at hi;subst hi;exact hr
theorem Bh {α:Type} {t e:TypeId} {k bs:Nat} (ht:Tryz.prog.underlying t=some (.slice e)) (hk:Tryz.prog.cellsOf e=k) (h0:0 < k) (hbs:Tryz.prog.bytesOf e=bs) (F:α→List AV) (Q:α→Prop) (hT:yK w)
  (hrow:∀ n cs' x,Tr w enc n e cs'=some x→pB e x.1→∃ r,Q r∧mT w (F r) cs'∧∃ u,cs'[0]?=some u∧wC u) {fuel:Nat} {cs:List Value} {x:DataW H × List MemPlace}
  (h:Tr w enc fuel t cs=some x) (hw:pB t x.1):∃ (l:List α) (v:Value),cs=[v]∧(∀ r ∈ l,Q r)∧l.length*bs≤reachBytes∧RD w (D8 w) (.sl k (l.map F)) v∧v.oneCell'=true∧wC v:=by
 rcases open_slice ht h with ⟨rfl,_⟩ | ⟨a,len,cap,m,n,D,Pl,rfl,hb,hl,hm,hmm,rfl,hx⟩
 ·exact ⟨[],_,rfl,fun r hr=>by simp at hr,by simp,.sl k [] none 0 ⟨0,0,none⟩ (fun _ _=>undef) (by simp) (fun h=>absurd rfl h) (fun r hr=>by simp at hr) (fun i r j c hr=>by simp at hr) (fun r hr=>by simp at hr) (fun i r j c hr=>by simp at hr),rfl,rfl⟩
 ·have hlm:len≤m:=by rw [hmm]; split <;> omega
  have hwe:∀ i,i < len→pB e (D i):=fun i hi q hq=>by
   refine hw q ?_;simp only [DataW.weights,ht,List.mem_cons,List.mem_append];exact .inr (.inl (aeu (List.mem_map.2 ⟨i,List.mem_range.2 hi,rfl⟩) hq))
  have hbn:len*bs≤reachBytes:=by
   have:=hw ((((List.range len).map D).length+((List.range (m - len)).map fun j=>D (len+j)).length)*Tryz.prog.bytesOf e) (by simp [DataW.weights,ht]);simp only [List.length_map,List.length_range,hbs] at this;exact Nat.le_trans (Nat.mul_le_mul_right _ (by omega)) this
  obtain ⟨l,l1,l2⟩:=Tp (p:=fun i r=>Q r∧∃ cs',w.cells? 0 (a.add (i*k)) k=some cs'∧mT w (F r) cs'∧∃ u,cs'[0]?=some u∧wC u) len fun i hi=>by
   obtain ⟨cs',h1,h2⟩:=hx i (by omega);obtain ⟨r,g1,g2,g3⟩:=hrow _ _ _ h2 (hwe i hi);rw [hk] at h1;exact ⟨r,g1,cs',h1,g2,g3⟩
  have cell:∀ (i:Nat) (row:List AV) (j:Nat) (c:AV),(l.map F)[i]?=some row→row[j]?=some c→∃ u,w.cell? (a.add (i*k+j))=some u∧RD w (D8 w) c u∧aB c=true:=fun i row j c hi hj=>by
   simp only [List.getElem?_map,Option.map_eq_some_iff] at hi;obtain ⟨r,hr,rfl⟩:=hi;obtain ⟨_,cs',c1,c2,_⟩:=l2 i r hr;obtain ⟨_,c3,c4⟩:=World.cells?_some c1;have hjk:j < k:=by
    have:=(List.getElem?_eq_some_iff.1 hj).1;rw [c2.1,c3] at this;exact this
   have:=c4 j hjk;rw [xC] at this;obtain ⟨u,hu⟩:∃ u,cs'[j]?=some u:=⟨cs'[j]'(by omega),by simp⟩;exact ⟨u,by rw [this,hu],(c2.2 j c u hj hu).1,(c2.2 j c u hj hu).2.1⟩
  refine ⟨l,_,rfl,fun r hr=>?_,by rw [l1]; exact hbn,?_,rfl,rfl⟩
  ·obtain ⟨i,hi⟩:=List.getElem?_of_mem hr;exact (l2 i r hi).1
  ·have:=RD.sl (w:=w) (A:=D8 w) k (l.map F) (some a) cap a (fun i j=>(w.cell? (a.add (i*k+j))).getD undef) (by simp [l1,hl]) (fun hne=>?_) (fun row hr=>?_) (fun i row j c hi hj=>?_) (fun row hr c hc=>?_) (fun i row j c hi hj=>?_)
   ·simpa [l1] using this
   ·have hlen:0 < l.length:=List.length_pos_iff.2 fun e=>hne (by simp [e]);obtain ⟨_,cs',c1,c2,u,c3,c4⟩:=l2 0 l[0] (by simp);have:=(World.cells?_some c1).2.2 0 h0;rw [c3,Nat.zero_mul,yR,yR] at this;obtain ⟨q1,q2⟩:=aet hT this c4;exact ⟨rfl,q1,q2⟩
   ·simp only [List.mem_map] at hr;obtain ⟨r,hr,rfl⟩:=hr;obtain ⟨i,hi⟩:=List.getElem?_of_mem hr;obtain ⟨_,cs',c1,c2,_⟩:=l2 i r hi;rw [c2.1];exact (World.cells?_some c1).2.1
   ·obtain ⟨u,q1,_⟩:=cell i row j c hi hj;rw [q1]; rfl
   ·obtain ⟨i,hi⟩:=List.getElem?_of_mem hr;obtain ⟨j,hj⟩:=List.getElem?_of_mem hc;obtain ⟨u,_,_,q⟩:=cell i row j c hi hj;exact q
   ·obtain ⟨u,q1,q2,_⟩:=cell i row j c hi hj;rw [q1]; exact q2
theorem acS {n:Nat} {cs:List Value} {x:DataW H × List MemPlace} (h:Tr w enc n 75 cs=some x) (_:pB 75 x.1):∃ r:Nat,r < 4294967296∧mT w [U (r:Int)] cs∧∃ u,cs[0]?=some u∧wC u:=by
 obtain ⟨z,rfl,rfl,hw⟩:=DataW.trod_int Tryz.underlying75 h;simp only [Lit.wf,Bool.and_eq_true,decide_eq_true_eq] at hw;have h1:(0:Int)≤z:=hw.1;have h2:z≤4294967295:=hw.2;obtain ⟨m,rfl⟩:∃ m:Nat,z=m:=⟨z.toNat,by omega⟩;exact ⟨m,by omega,.one (.v _ rfl) rfl rfl,_,rfl,rfl⟩
theorem acT {n:Nat} {cs:List Value} {x:DataW H × List MemPlace} (h:Tr w enc n 3 cs=some x) (_:pB 3 x.1):∃ r:Int,True∧mT w [I r] cs∧∃ u,cs[0]?=some u∧wC u:=by
 obtain ⟨z,rfl,rfl,hw⟩:=DataW.trod_int Tryz.underlying3 h;exact ⟨z,trivial,.one (.v _ rfl) rfl rfl,_,rfl,rfl⟩
theorem Yr (hT:yK w) {n:Nat} {cs:List Value} {x:DataW H × List MemPlace} (h:Tr w enc n 29 cs=some x) (hw:pB 29 x.1):∃ m:List Nat,(Lb m∧m.length < 4611686018427387904)∧mT w [lm m] cs∧∃ u,cs[0]?=some u∧wC u:=by
 obtain ⟨l,v,rfl,h1,h2,h3,h4,h5⟩:=Bh (k:=1) (bs:=4) Tryz.underlying29 (by kernel_rfl) (by decide) (by kernel_rfl) (fun (r:Nat)=>[U (r:Int)]) (fun r=>r < 4294967296) hT (fun n cs' x=>acS) h hw;refine ⟨l,⟨h1,?_⟩,.one h3 rfl h4,_,rfl,h5⟩;unfold reachBytes at h2;omega
theorem aao (hT:yK w) {n:Nat} {cs:List Value} {x:DataW H × List MemPlace} (h:Tr w enc n 71 cs=some x) (hw:pB 71 x.1):∃ m:List Int,True∧mT w [.sl 1 (bw m)] cs∧∃ u,cs[0]?=some u∧wC u:=by
 obtain ⟨l,v,rfl,h1,h2,h3,h4,h5⟩:=Bh (k:=1) (bs:=8) Tryz.underlying71 (by kernel_rfl) (by decide) (by kernel_rfl) (fun (r:Int)=>[I r]) (fun r=>True) hT (fun n cs' x=>acT) h hw;exact ⟨l,trivial,.one h3 rfl h4,_,rfl,h5⟩
theorem P2 (hT:yK w) {n:Nat} {cs:List Value} {x:DataW H × List MemPlace} (h:Tr w enc n 31 cs=some x) (hw:pB 31 x.1):∃ d:Rd,Ok0 d∧mT w (ak d) cs∧∃ u,cs[0]?=some u∧wC u:=by
 obtain ⟨y0,y1,y2,m,rfl,hl,h0,h1,h2⟩:=trod_struct3 Tryz.underlying31 h;have hl3:cs.length=3:=hl.trans (by kernel_rfl)
 match cs,hl3 with
 | [a,b,c],_ =>
  have k0:Tr w enc m 4 [a]=some y0:=h0;have k1:Tr w enc m 29 [b]=some y1:=h1;have k2:Tr w enc m 3 [c]=some y2:=h2;have w1:pB 29 y1.1:=fun q hq=>hw q (by simp [DataW.weights,DataW.weightsEach,Tryz.underlying31]; exact .inr (.inl hq));obtain ⟨bb,e0,e1⟩:=DataW.trod_bool Tryz.underlying4 k0;simp only [List.cons.injEq,and_true] at e0;subst e0;obtain ⟨l,⟨q1,q2⟩,q3,_⟩:=Yr hT k1 w1;obtain ⟨z,e2,e3,_⟩:=DataW.trod_int Tryz.underlying3 k2;simp only [List.cons.injEq,and_true] at e2;subst e2;exact ⟨⟨bb,l,z⟩,⟨q1,q2⟩,(mT.one (.v _ rfl) rfl rfl).app (q3.app (.one (.v _ rfl) rfl rfl)),_,rfl,rfl⟩
theorem aap (hT:yK w) {n:Nat} {cs:List Value} {x:DataW H × List MemPlace} (h:Tr w enc n 74 cs=some x) (hw:pB 74 x.1):∃ d:Rt,Ok0 d.c∧mT w (eU d) cs∧∃ u,cs[0]?=some u∧wC u:=by
 obtain ⟨y0,y1,m,rfl,hl,h0,h1⟩:=trod_struct2 Tryz.underlying74 h;have hl3:cs.length=4:=hl.trans (by kernel_rfl)
 match cs,hl3 with
 | [a,b,c,d],_ =>
  have k0:Tr w enc m 71 [a]=some y0:=h0;have k1:Tr w enc m 31 [b,c,d]=some y1:=h1;have w0:pB 71 y0.1:=fun q hq=>hw q (by simp [DataW.weights,DataW.weightsEach,Tryz.underlying74]; exact .inl hq);have w1:pB 31 y1.1:=fun q hq=>hw q (by simp [DataW.weights,DataW.weightsEach,Tryz.underlying74]; exact .inr hq);obtain ⟨l,_,q3,q4⟩:=aao hT k0 w0;obtain ⟨d,d1,d2,_⟩:=P2 hT k1 w1;exact ⟨⟨l,d⟩,d1,q3.app d2,q4⟩
theorem aev (hT:yK w) {n:Nat} {cs:List Value} {x:DataW H × List MemPlace} (h:Tr w enc n 33 cs=some x) (hw:pB 33 x.1):∃ d:Ri,OkI d∧mT w (az d) cs∧∃ u,cs[0]?=some u∧wC u:=by
 obtain ⟨y0,y1,y2,m,rfl,hl,h0,h1,h2⟩:=trod_struct3 Tryz.underlying33 h;have hl3:cs.length=7:=hl.trans (by kernel_rfl)
 match cs,hl3 with
 | [a,b,c,d,e,f,g],_ =>
  have k0:Tr w enc m 31 [a,b,c]=some y0:=h0;have k1:Tr w enc m 31 [d,e,f]=some y1:=h1;have k2:Tr w enc m 4 [g]=some y2:=h2;have w0:pB 31 y0.1:=fun q hq=>hw q (by simp [DataW.weights,DataW.weightsEach,Tryz.underlying33]; exact .inl hq);have w1:pB 31 y1.1:=fun q hq=>hw q (by simp [DataW.weights,DataW.weightsEach,Tryz.underlying33]; exact .inr (.inl hq));obtain ⟨d0,p1,p2,p3⟩:=P2 hT k0 w0;obtain ⟨d1,q1,q2,_⟩:=P2 hT k1 w1;obtain ⟨bb,e0,e1⟩:=DataW.trod_bool Tryz.underlying4 k2;simp only [List.cons.injEq,and_true] at e0;subst e0;exact ⟨⟨d0,d1,bb⟩,⟨p1,q1⟩,p2.app (q2.app (.one (.v _ rfl) rfl rfl)),p3⟩
theorem aaq (hT:yK w) {n:Nat} {us:Array Value} {x:DataW H × List MemPlace} (h:Tr w enc n 24 us.toList=some x) (hw:pB 24 x.1):∃ a:Rp,((∀ t ∈ a.terms,Ok0 t.c)∧a.terms.length < 4611686018427387904)∧RD w (D8 w) (bH a) (.agg us):=by
 obtain ⟨y0,y1,m,rfl,hl,h0,h1⟩:=trod_struct2 Tryz.underlying24 h;have hl3:us.toList.length=2:=hl.trans (by kernel_rfl);obtain ⟨cs⟩:=us;simp only at hl3 h0 h1
 match cs,hl3 with
 | [a,b],_ =>
  have k0:Tr w enc m 3 [a]=some y0:=h0;have k1:Tr w enc m 22 [b]=some y1:=h1;have w1:pB 22 y1.1:=fun q hq=>hw q (by simp [DataW.weights,DataW.weightsEach,Tryz.underlying24]; exact .inr hq);obtain ⟨z,e2,e3,_⟩:=DataW.trod_int Tryz.underlying3 k0;simp only [List.cons.injEq,and_true] at e2;subst e2;obtain ⟨l,v,e4,q1,q2,q3,q4,q5⟩:=Bh (k:=4) (bs:=64) Tryz.underlying22 (by kernel_rfl) (by decide) (by kernel_rfl) eU (fun t=>Ok0 t.c) hT (fun n cs' x=>aap hT) k1 w1;simp only [List.cons.injEq,and_true] at e4;subst e4;refine ⟨⟨z,l⟩,⟨q1,by show l.length < _; unfold reachBytes at q2; omega⟩,?_⟩;have rc:mT w [I z,.sl 4 (l.map eU)] [.int .i64 z,b]:=(mT.one (.v _ rfl) rfl rfl).app (.one q3 rfl q4);refine .agg _ _ rfl (fun i u hu=>?_) fun i c u hc hu=>?_
  ·have hu':[Value.int .i64 z,b][i]?=some u:=by simpa using hu
   obtain ⟨c,hc⟩:∃ c,[I z,AV.sl 4 (l.map eU)][i]?=some c:=⟨_,List.getElem?_eq_getElem (by have:=(List.getElem?_eq_some_iff.1 hu').1; simpa using this)⟩;exact (rc.2 i c u hc hu').2.2
  ·exact (rc.2 i c u hc (by simpa using hu)).1
theorem acU (hT:yK w) {n:Nat} {v:Value} {x:DataW H × List MemPlace} (h:Tr w enc n 25 [v]=some x) (hw:pB 25 x.1):∃ l:List Ri,(∀ d ∈ l,OkI d)∧RD w (D8 w) (.sl 7 (aY l)) v:=by
 obtain ⟨l,v',e4,q1,q2,q3,q4,q5⟩:=Bh (k:=7) (bs:=88) Tryz.underlying25 (by kernel_rfl) (by decide) (by kernel_rfl) az OkI hT (fun n cs' x=>aev hT) h hw;simp only [List.cons.injEq,and_true] at e4;subst e4;exact ⟨l,q1,q3⟩
theorem aew {n:Nat} {cs:List Value} {x:DataW H × List MemPlace} (h:Tr w enc n 5 cs=some x) (_:pB 5 x.1):∃ r:Nat,True∧mT w [.v (.int .u8 (r:Int))] cs∧∃ u,cs[0]?=some u∧wC u:=by
 obtain ⟨z,rfl,rfl,hw⟩:=DataW.trod_int Tryz.underlying5 h;simp only [Lit.wf,Bool.and_eq_true,decide_eq_true_eq] at hw;have h1:(0:Int)≤z:=hw.1;obtain ⟨r,rfl⟩:∃ m:Nat,z=m:=⟨z.toNat,by omega⟩;exact ⟨r,trivial,.one (.v _ rfl) rfl rfl,_,rfl,rfl⟩
theorem acV (hT:yK w) {n:Nat} {v:Value} {x:DataW H × List MemPlace} (h:Tr w enc n 42 [v]=some x) (hw:pB 42 x.1):∃ l:List Nat,True∧RD w (D8 w) (.sl 1 (D6 l)) v:=by
 obtain ⟨l,v',e4,q1,q2,q3,q4,q5⟩:=Bh (k:=1) (bs:=1) Tryz.underlying42 (by kernel_rfl) (by decide) (by kernel_rfl) (fun (r:Nat)=>[.v (.int .u8 (r:Int))]) (fun _=>True) hT (fun n cs' x=>aew) h hw;simp only [List.cons.injEq,and_true] at e4;subst e4;exact ⟨l,trivial,q3⟩
end
abbrev TX (f:Nat) (fd:FD):Prop:=Text Go.Proofs.Tryz.prog f fd
theorem tx {f : Nat} {fd : FD} {fn : Func} (h : Go.Proofs.Tryz.prog.funcs[f]? = some fn) (h2 : (fn.body.bind fun c => fX Go.Proofs.Tryz.prog fn.ntmps c fd.body, Bp Go.Proofs.Tryz.prog fn.results.toList, decide (fn.ntmps ≤ 1000), fn.name == "runtime.NumGoroutine") = (some fd.body, some fd.res, true, false)) : TX f fd := by
 simp only [Prod.mk.injEq,Option.bind_eq_some_iff,decide_eq_true_eq] at h2;obtain ⟨⟨c,h3,h4⟩,h5,h6,h7⟩:=h2;exact ⟨⟨fn,c,_,h,h3,rfl,h6,h4,h5,h7⟩⟩
theorem tn:∀ p ∈ ([]:List (Nat × FD)),TX p.1 p.2:=fun _ h=>by cases h
theorem tc {f:Nat} {fd:FD} {l:List (Nat × FD)} (h1:TX f fd) (h2:∀ p ∈ l,TX p.1 p.2):∀ p ∈ (f,fd)::l,TX p.1 p.2:=fun p hp=>by
 rcases List.mem_cons.1 hp with rfl | hp
 ·exact h1
 ·exact h2 p hp
set_option maxRecDepth 100000 in
theorem P3:∀ p ∈ aaK,TX p.1 p.2:=tc (tx func4 (by kernel_rfl)) (tc (tx func9 (by kernel_rfl)) (tc (tx func10 (by kernel_rfl)) (tc (tx func11 (by kernel_rfl)) (tc (tx func12 (by kernel_rfl)) (tc (tx func13 (by kernel_rfl)) (tc (tx func14 (by kernel_rfl)) (tc (tx func15 (by kernel_rfl)) (tc (tx func18 (by kernel_rfl)) (tc (tx func20 (by kernel_rfl)) (tc (tx func21 (by kernel_rfl)) (tc (tx func22 (by kernel_rfl)) (tc (tx func23 (by kernel_rfl)) (tc (tx func24 (by kernel_rfl)) (tc (tx func25 (by kernel_rfl)) (tc (tx func34 (by kernel_rfl)) (tc (tx func35 (by kernel_rfl)) (tc (tx func38 (by kernel_rfl)) (tc (tx func40 (by kernel_rfl)) (tc (tx func41 (by kernel_rfl)) (tc (tx func42 (by kernel_rfl)) (tc (tx func44 (by kernel_rfl)) (tc (tx func46 (by kernel_rfl)) (tc (tx func47 (by kernel_rfl)) (tc (tx func48 (by kernel_rfl)) (tc (tx func49 (by kernel_rfl)) (tc (tx func50 (by kernel_rfl)) (tc (tx func51 (by kernel_rfl)) (tc (tx func52 (by kernel_rfl)) (tc (tx func53 (by kernel_rfl)) (tc (tx func54 (by kernel_rfl)) (tc (tx func55 (by kernel_rfl)) (tc (tx func56 (by kernel_rfl)) (tc (tx func57 (by kernel_rfl)) (tc (tx func58 (by kernel_rfl)) (tc (tx func59 (by kernel_rfl)) (tc (tx func60 (by kernel_rfl)) (tc (tx func61 (by kernel_rfl)) (tc (tx func64 (by kernel_rfl)) (tc (tx func65 (by kernel_rfl)) (tc (tx func66 (by kernel_rfl)) (tc (tx func67 (by kernel_rfl)) (tc (tx func68 (by kernel_rfl)) (tc (tx func69 (by kernel_rfl)) (tc (tx func70 (by kernel_rfl)) (tc (tx func71 (by kernel_rfl)) (tc (tx func72 (by kernel_rfl)) (tc (tx func73 (by kernel_rfl)) (tc (tx func74 (by kernel_rfl)) (tc (tx func75 (by kernel_rfl)) (tc (tx func79 (by kernel_rfl)) (tc (tx func82 (by kernel_rfl)) (tc (tx func84 (by kernel_rfl)) (tc (tx func88 (by kernel_rfl)) (tc (tx func89 (by kernel_rfl)) (tc (tx func90 (by kernel_rfl)) (tc (tx func91 (by kernel_rfl)) (tc (tx func92 (by kernel_rfl)) (tc (tx func93 (by kernel_rfl)) (tc (tx func94 (by kernel_rfl)) (tc (tx func95 (by kernel_rfl)) (tc (tx func98 (by kernel_rfl)) (tc (tx func99 (by kernel_rfl)) (tc (tx func100 (by kernel_rfl)) (tc (tx func101 (by kernel_rfl)) (tc (tx func103 (by kernel_rfl)) (tc (tx func104 (by kernel_rfl)) (tc (tx func105 (by kernel_rfl)) (tc (tx func106 (by kernel_rfl)) (tc (tx func107 (by kernel_rfl)) (tc (tx func108 (by kernel_rfl)) (tc (tx func109 (by kernel_rfl)) (tc (tx func110 (by kernel_rfl)) (tc (tx func111 (by kernel_rfl)) (tc (tx func112 (by kernel_rfl)) (tc (tx func113 (by kernel_rfl)) (tc (tx func114 (by kernel_rfl)) (tc (tx func115 (by kernel_rfl)) (tc (tx func116 (by kernel_rfl)) (tc (tx func117 (by kernel_rfl)) (tc (tx func118 (by kernel_rfl)) (tc (tx func119 (by kernel_rfl)) (tc (tx func120 (by kernel_rfl)) (tc (tx func121 (by kernel_rfl)) (tc (tx func122 (by kernel_rfl)) (tc (tx func123 (by kernel_rfl)) (tc (tx func124 (by kernel_rfl)) (tc (tx func125 (by kernel_rfl)) (tc (tx func126 (by kernel_rfl)) (tc (tx func127 (by kernel_rfl)) (tc (tx func128 (by kernel_rfl)) (tc (tx func129 (by kernel_rfl)) (tc (tx func130 (by kernel_rfl)) (tc (tx func131 (by kernel_rfl)) (tc (tx func132 (by kernel_rfl)) (tc (tx func133 (by kernel_rfl)) (tc (tx func134 (by kernel_rfl)) (tc (tx func135 (by kernel_rfl)) (tc (tx func137 (by kernel_rfl)) (tc (tx func139 (by kernel_rfl)) (tc (tx func145 (by kernel_rfl)) (tc (tx func146 (by kernel_rfl)) (tc (tx func148 (by kernel_rfl)) (tc (tx func149 (by kernel_rfl)) (tc (tx func150 (by kernel_rfl)) (tc (tx func151 (by kernel_rfl)) (tc (tx func152 (by kernel_rfl)) (tc (tx func153 (by kernel_rfl)) (tc (tx func154 (by kernel_rfl)) (tc (tx func155 (by kernel_rfl)) (tc (tx func156 (by kernel_rfl)) (tc (tx func157 (by kernel_rfl)) (tc (tx func158 (by kernel_rfl)) (tc (tx func159 (by kernel_rfl)) (tc (tx func160 (by kernel_rfl)) (tc (tx func161 (by kernel_rfl)) (tc (tx func162 (by kernel_rfl)) (tc (tx func163 (by kernel_rfl)) (tc (tx func164 (by kernel_rfl)) (tc (tx func165 (by kernel_rfl)) (tc (tx func166 (by kernel_rfl)) (tc (tx func167 (by kernel_rfl)) (tc (tx func168 (by kernel_rfl)) (tc (tx func169 (by kernel_rfl)) (tc (tx func170 (by kernel_rfl)) (tc (tx func171 (by kernel_rfl)) (tc (tx func172 (by kernel_rfl)) (tc (tx func173 (by kernel_rfl)) (tc (tx func177 (by kernel_rfl)) (tc (tx func178 (by kernel_rfl)) (tc (tx func179 (by kernel_rfl)) (tc (tx func180 (by kernel_rfl)) (tc (tx func181 (by kernel_rfl)) (tc (tx func182 (by kernel_rfl)) (tc (tx func183 (by kernel_rfl)) (tc (tx func184 (by kernel_rfl)) (tc (tx func185 (by kernel_rfl)) (tc (tx func186 (by kernel_rfl)) (tc (tx func187 (by kernel_rfl)) (tc (tx func188 (by kernel_rfl)) (tc (tx func189 (by kernel_rfl)) (tc (tx func190 (by kernel_rfl)) (tc (tx func191 (by kernel_rfl)) (tc (tx func192 (by kernel_rfl)) (tc (tx func194 (by kernel_rfl)) (tc (tx func195 (by kernel_rfl)) (tc (tx func196 (by kernel_rfl)) (tc (tx func197 (by kernel_rfl)) (tc (tx func198 (by kernel_rfl)) (tc (tx func199 (by kernel_rfl)) (tc (tx func202 (by kernel_rfl)) (tc (tx func203 (by kernel_rfl)) (tc (tx func204 (by kernel_rfl)) (tc (tx func205 (by kernel_rfl)) (tc (tx func206 (by kernel_rfl)) (tc (tx func207 (by kernel_rfl)) (tc (tx func208 (by kernel_rfl)) (tc (tx func210 (by kernel_rfl)) (tc (tx func211 (by kernel_rfl)) (tc (tx func212 (by kernel_rfl)) (tc (tx func213 (by kernel_rfl)) (tc (tx func214 (by kernel_rfl)) (tc (tx func215 (by kernel_rfl)) (tc (tx func218 (by kernel_rfl)) (tc (tx func219 (by kernel_rfl)) (tc (tx func220 (by kernel_rfl)) (tc (tx func221 (by kernel_rfl)) (tc (tx func222 (by kernel_rfl)) (tc (tx func223 (by kernel_rfl)) (tc (tx func224 (by kernel_rfl)) (tc (tx func225 (by kernel_rfl)) (tc (tx func226 (by kernel_rfl)) (tc (tx func227 (by kernel_rfl)) (tn)))))))))))))))))))))))))))))))))))))))))))))))))))))))))))))))))))))))))))))))))))))))))))))))))))))))))))))))))))))))))))))))))))))))))))))))))))))))))))))))))))))))))))))
end Go.Ab
