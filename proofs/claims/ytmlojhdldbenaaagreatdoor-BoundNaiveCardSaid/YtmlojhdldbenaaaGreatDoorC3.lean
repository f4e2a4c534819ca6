/-
  The statement BoundNaive holds of the given program: its card, with the tied table of bits.TrailingZeros32; no further conditions. Part C3.
-/
import Derived.Test.YtmlojhdldbenaaaGreatDoorC2
open Nat renaming reduceEqDiff → amO, reduceAdd → amP, reduceMul → amQ, reduceLeDiff → amR, reduceLT → amS, reduceBEq → amT, reduceSub → amY
open Int renaming reduceLT → amU, reduceToNat → amV, reduceLE → amW, reduceEq → amX
namespace Go.Ab
open Go Go.IntWalk
set_option maxRecDepth 4000
set_option maxHeartbeats 1000000
theorem UM {a b:List Nat} (ha:Lb a) (hb:Lb b) {i n:Nat} (h1:a.length≤100000) (h2:b.length≤100000) (hi:i < a.length):∀ (bs:List Nat) (k:Nat) (D S:List Nat) (c:Nat),b.drop k=bs→k≤b.length→D.length=i+k→bs.length≤S.length→(D++S).length=n→Lb S→c < 4294967296 →
  ∀ (s:am) (h:ac),s 0=lm a→s 1=lm b→s 5 = .rsl 18 none 1 0 n→s 6=I i→s 7=W c→s 8=I k→h 18 = .ar 1 (aE (D++S)) →
  au 2 [0,1,5,6,7] (aq (ak R (ae false) l6) [0,1,5,6,7,8] [18] s h) =
   some (.normal,⟨upd (upd (upd (upd (upd (fun _ => .any) 7 (W ((mi (a.getD i 0) c bs S).2:Nat))) 6 (I i)) 5 (.rsl 18 none 1 0 n)) 1 (lm b)) 0 (lm a),upd (fun _ => .dead) 18 (.ar 1 (aE (D++(mi (a.getD i 0) c bs S).1)))⟩):=by
 have hx:=bd ha i
 intro bs
 induction bs with
 | nil =>
  intro k D S c hd hk hD hS hn hLS hc s h h0 h1 h5 h6 h7 h8 hh
  have:k=b.length:=by
   have:=congrArg List.length hd
   simp at this
   omega
  subst this
  rw [ao]
  simp only [l6,go_sem,↓reduceIte,amO,amT,h0,h1,h5,h6,h7,h8,hh,Int.lt_irrefl,mi]
 | cons y bs ih =>
  intro k D S c hd hk hD hS hn hLS hc s h h0 h1' h5 h6 h7 h8 hh
  obtain ⟨o,S,rfl⟩:∃ o S',S=o::S':=by
   cases S with
   | nil=>simp at hS
   | cons o S=>exact ⟨o,S,rfl⟩
  have hlt:k < b.length:=by
   have:=congrArg List.length hd
   simp at this
   omega
  have hy:b.getD k 0=y:=by
   have:=congrArg (·[0]?) hd
   simp only [List.getElem?_drop,Nat.add_zero,List.getElem?_cons_zero] at this
   rw [List.getD_eq_getElem?_getD,this]
   rfl
  have hyb:y < 4294967296:=by rw [← hy]; exact bd hb k
  have hob:o < 4294967296:=(dh.1 hLS).1
  have e0:aV (aE a) (i:Int)=some (.ipt [U (a.getD i 0:Nat)]):=aX rfl hi
  generalize a.getD i 0=x at hx e0 ih ⊢
  have hml:=KE hx hyb hob hc
  have hxy:x*y < 18446744073709551616:=by omega
  have ih':=ih (k+1) (D++[(x*y+o+c) % 4294967296]) S ((x*y+o+c) / 4294967296) (by rw [← List.drop_drop,hd]; rfl) hlt (by simp [hD]; omega) (by simpa using hS) (by simpa using hn) (dh.1 hLS).2 (by omega)
  have e1:((k:Int) < (b.length:Int))=True:=tt (by omega)
  have e2:aV (aE b) (k:Int)=some (.ipt [U (y:Nat)]):=by rw [aX rfl hlt,hy]
  have e3:IntKind.i64.wrap ((k:Int)+1)=((k+1:Nat):Int):=wi (by omega) (by omega)
  have e4:IntKind.i64.wrap ((i:Int)+(k:Int))=((i+k:Nat):Int):=wi (by omega) (by omega)
  have e5:(0≤((i+k:Nat):Int))=True:=tt (by omega)
  have hin:i+k < n:=by rw [← hn]; simp [hD]
  have e6:(((i+k:Nat):Int) < (n:Int))=True:=tt (by omega)
  have e7:(aE (D++o::S))[i+k]?=some [U (o:Nat)]:=by
   rw [kl (by simp [hD])]
   simp [List.getD_eq_getElem?_getD,hD]
  have f1:IntKind.u64.wrap (x:Int)=x:=cf rfl (by omega)
  have f2:IntKind.u64.wrap (y:Int)=y:=cf rfl (by omega)
  have f3:IntKind.u64.wrap ((x:Int)*(y:Int))=((x*y:Nat):Int):=cf (by simp) hxy
  have f4:IntKind.u64.wrap (o:Int)=o:=cf rfl (by omega)
  have f5:IntKind.u64.wrap (((x*y:Nat):Int)+(o:Int))=((x*y+o:Nat):Int):=cf (by omega) (by omega)
  have f6:IntKind.u64.wrap (((x*y+o:Nat):Int)+(c:Int))=((x*y+o+c:Nat):Int):=cf (by omega) (by omega)
  have f10:=j8 (n:=x*y+o+c) rfl (by omega)
  have f7:IntKind.u32.wrap (((x*y+o+c) % 4294967296:Nat):Int)=(((x*y+o+c) % 4294967296:Nat):Int):=nN rfl (by omega)
  have f8:=gW (n:=x*y+o+c) (k:=32) (kk := .u64) (j:=32) rfl rfl (by omega)
  have f9:(aE (D++o::S)).set (i+k) [U ((x*y+o+c) % 4294967296:Nat)]=aE (D++[(x*y+o+c) % 4294967296]++S):=by
   rw [km,← hD,List.set_append_right _ _ (Nat.le_refl _)]
   simp
  rw [ao]
  generalize aq _ _ _=L at ih' ⊢
  simp only [l6,go_sem,↓reduceIte,amO,amR,amS,amT,h0,h1',h5,h6,h7,h8,hh,e0,e1,e2,e3,e4,e5,e6,e7,f1,f2,f3,f4,f5,f6,f7,f8,f9,f10,Int.toNat_natCast,Nat.zero_add,mi]
  rw [ih' _ _ rfl rfl rfl rfl rfl rfl rfl]
  simp only [List.append_assoc,List.singleton_append]
theorem K1 {a b:List Nat} {i n j:Nat} {rows:List (List AV)} (s:am) (h:ac) (h0:s 0=lm a) (h1:s 1=lm b) (h5:s 5 = .rsl 18 none 1 0 n) (h6:s 6=I i) (h7:s 7=W 0) (h10:s 10=I j) (hh:h 18 = .ar 1 rows) :
  au 4 [0,1,5,6] (aq (ak R (ae false) i6) [0,1,5,6,7,10] [18] s h)=some (.normal,⟨upd (upd (upd (upd (fun _ => .any) 6 (I i)) 5 (.rsl 18 none 1 0 n)) 1 (lm b)) 0 (lm a),upd (fun _ => .dead) 18 (.ar 1 rows)⟩):=by
 rw [ao]
 simp only [i6,go_sem,↓reduceIte,amO,amT,h0,h1,h5,h6,h7,h10,hh,Int.lt_irrefl]
theorem WZ {a b:List Nat} {i n j c:Nat} {rows rows':List (List AV)} (hc:c < 4294967296) (hj:j < n) (hn:n≤1000000) (hg:rows[j]?=some [U (0:Nat)]) (hs:rows.set j [U (c:Nat)]=rows') (hz:c=0→rows=rows') (s:am) (h:ac) (h0:s 0=lm a) (h1:s 1=lm b) (h5:s 5 = .rsl 18 none 1 0 n) (h6:s 6=I i) (h7:s 7=W c) (h10:s 10=I j) (hh:h 18 = .ar 1 rows) :
  au 4 [0,1,5,6] (aq (ak R (ae false) i6) [0,1,5,6,7,10] [18] s h)=some (.normal,⟨upd (upd (upd (upd (fun _ => .any) 6 (I i)) 5 (.rsl 18 none 1 0 n)) 1 (lm b)) 0 (lm a),upd (fun _ => .dead) 18 (.ar 1 rows')⟩):=by
 by_cases h00:c=0
 ·rw [h00] at h7
  rw [← hz h00]
  exact K1 s h h0 h1 h5 h6 h7 h10 hh
 ·have e1:(0 < (c:Int))=True:=tt (by omega)
  have e2:(0≤(j:Int))=True:=tt (by omega)
  have e3:((j:Int) < (n:Int))=True:=tt (by omega)
  have e4:IntKind.u64.wrap ((0:Nat):Int)=((0:Nat):Int):=cf rfl (by omega)
  have e5:IntKind.u64.wrap (((0:Nat):Int)+(c:Int))=(c:Int):=cf (by omega) (by omega)
  have e6:=j8 (n:=c) rfl (by omega)
  rw [Nat.mod_eq_of_lt hc] at e6
  have e7:IntKind.u32.wrap (c:Int)=(c:Int):=nN rfl hc
  have e8:=gW (n:=c) (k:=32) (kk := .u64) (j:=32) rfl rfl (by omega)
  rw [Nat.div_eq_of_lt hc] at e8
  have e9:IntKind.i64.wrap ((j:Int)+1)=((j+1:Nat):Int):=wi (by omega) (by omega)
  have c0:=K1 (a:=a) (b:=b) (i:=i) (n:=n) (j:=j+1) (rows:=rows')
  rw [ao]
  generalize aq _ _ _=L at c0 ⊢
  simp only [i6,go_sem,↓reduceIte,amO,amR,amT,h0,h1,h5,h6,h7,h10,hh,e1,e2,e3,e4,e5,e6,e7,e8,e9,hg,hs,Int.toNat_natCast,Nat.zero_add]
  exact c0 _ _ rfl rfl rfl rfl rfl rfl rfl
theorem SM {a b:List Nat} (ha:Lb a) (hb:Lb b) (h1:a.length≤10000) (h2:b.length≤10000):∀ (k i:Nat),i+k=a.length→∀ (s:am) (h:ac),s 0=lm a→s 1=lm b→s 5 = .rsl 18 none 1 0 (a.length+b.length+1)→s 6=I i→h 18 = .ar 1 (aE (aT a b i++List.replicate (k+1) 0)) →
  au 0 [5] (aq (ak R (ae false) i7) [0,1,5,6] [18] s h) =
   some (.normal,⟨upd (fun _ => .any) 5 (.rsl 18 none 1 0 (a.length+b.length+1)),upd (fun _ => .dead) 18 (.ar 1 (aE (aT a b a.length++[0])))⟩):=by
 intro k
 induction k with
 | zero =>
  intro i hi s h h0 h1 h5 h6 hh
  have:i=a.length:=by omega
  subst this
  rw [ao]
  simp only [Nat.zero_add,List.replicate_one] at hh
  simp only [i7,go_sem,↓reduceIte,amO,amT,h0,h1,h5,h6,hh,Int.lt_irrefl]
 | succ k ih =>
  intro i hi s h h0 g1 h5 h6 hh
  have ih':=ih (i+1) (by omega)
  have hx:=bd ha i
  have hP:(aT a b i).length=i+b.length:=bk _ _
  have hLP:Lb (aT a b i):=gC _ _
  have hsp:aT a b i++List.replicate (k+1+1) 0=(aT a b i).take i++((aT a b i).drop i++List.replicate (k+1+1) 0):=by rw [← List.append_assoc,List.take_append_drop]
  have e1:((i:Int) < (a.length:Int))=True:=tt (by omega)
  have e3:IntKind.i64.wrap ((i:Int)+1)=((i+1:Nat):Int):=wi (by omega) (by omega)
  have e4:IntKind.i64.wrap ((i:Int)+(b.length:Int))=((i+b.length:Nat):Int):=wi (by omega) (by omega)
  have lp:=UM ha hb (i:=i) (n:=a.length+b.length+1) (by omega) (by omega) (by omega) b 0 ((aT a b i).take i) ((aT a b i).drop i++List.replicate (k+1+1) 0) 0 rfl (Nat.zero_le _) (by simp [hP]) (by simp [hP]) (by simp [hP]; omega)
   (iv.2 ⟨mf hLP i,fun y hy=>by rw [List.eq_of_mem_replicate hy]; omega⟩) (by omega)
  rw [KD _ _ _ _ _ (by simp [hP])] at lp
  have ml:(mi (a.getD i 0) 0 b ((aT a b i).drop i)).1.length=b.length:=by rw [tw]; simp [hP]
  have mc:=vT hx b ((aT a b i).drop i) 0 hb (mf hLP i) (by omega)
  have ps:=GW ha hb (show i < a.length from by omega)
  rw [hsp] at hh
  generalize mi (a.getD i 0) 0 b ((aT a b i).drop i)=r at *
  have hlen:((aT a b i).take i++r.1).length=i+b.length:=by simp [hP,ml]
  have e7:(aE ((aT a b i).take i++(r.1++List.replicate (k+1+1) 0)))[i+b.length]?=some [U (0:Nat)]:=by
   rw [← List.append_assoc,kl (by simp [hP,ml]),List.getD_eq_getElem?_getD,List.getElem?_append_right (by omega)]
   simp [hlen]
  have e8:(aE ((aT a b i).take i++(r.1++List.replicate (k+1+1) 0))).set (i+b.length) [U (r.2:Nat)]=aE (aT a b (i+1)++List.replicate (k+1) 0):=by
   rw [← List.append_assoc,km]
   have:=py ((aT a b i).take i++r.1) (k+1+1) r.2 0 (by omega)
   rw [hlen] at this
   have e:(aT a b i).take i++r.1++[r.2]=aT a b (i+1):=by rw [List.append_assoc]; exact ps
   rw [this,e]
   rfl
  have hz:r.2=0→aE ((aT a b i).take i++(r.1++List.replicate (k+1+1) 0))=aE (aT a b (i+1)++List.replicate (k+1) 0):=fun h0=>by
   rw [← ps,h0,List.replicate_succ]
   simp only [List.append_assoc,List.singleton_append]
  have lc:=WZ (a:=a) (b:=b) (i:=i) (n:=a.length+b.length+1) (j:=i+b.length) mc (by omega) (by omega) e7 e8 hz
  rw [ao]
  generalize aq (ak R (ae false) i7) _ _=L at ih' ⊢
  simp only [Int.natCast_zero] at lp
  simp only [i7,go_sem,↓reduceIte,amO,amT,h0,g1,h5,h6,hh,e1]
  rw [lp _ _ rfl rfl rfl rfl rfl rfl rfl]
  simp only [go_sem,↓reduceIte,amO,e4]
  rw [lc _ _ rfl rfl rfl rfl rfl rfl rfl]
  simp only [go_sem,↓reduceIte,amO,e3]
  exact ih' _ _ rfl rfl rfl rfl rfl
theorem SN {a b:List Nat} (ha:Lb a) (hb:Lb b) (h1:a.length≤10000) (h2:b.length≤10000):R F.r02_times [lm a,lm b] []=some (lm (ap (ab a*ab b)),[]):=by
 refine av M3 M2 (Fm false) rfl ?_
 have e1:IntKind.i64.wrap ((a.length:Int)+(b.length:Int))=((a.length+b.length:Nat):Int):=wi (by omega) (by omega)
 have e1':IntKind.i64.wrap (((a.length+b.length:Nat):Int)+1)=((a.length+b.length+1:Nat):Int):=wi (by omega) (by omega)
 have e2:=jo (i:=((a.length+b.length+1:Nat):Int)) (j:=((a.length+b.length+1:Nat):Int)) rfl rfl (Nat.le_refl _) (by omega)
 have e3:((a.length+b.length+1)*4≤140737488355328)=True:=tt (by omega)
 have e4:=SM ha hb h1 h2 a.length 0 (by omega)
 have e0:aT a b 0=List.replicate b.length 0:=by
  have:∀ n,bI n 0=List.replicate n 0:=fun n=>by
   induction n with
   | zero=>rfl
   | succ n ih=>simp [bI,ih,List.replicate_succ]
  simp [aT,ab,this]
 have e5:aE (List.replicate (a.length+b.length+1) 0)=aE (aT a b 0++List.replicate (a.length+1) 0):=by
  rw [e0,List.replicate_append_replicate,show b.length+(a.length+1)=a.length+b.length+1 by omega]
 have e6:aT a b a.length=bI (a.length+b.length) (ab a*ab b):=by rw [aT,List.take_length]
 have hLb:Lb (aT a b a.length++[0]):=iv.2 ⟨by rw [e6]; exact gC _ _,dh.2 ⟨by decide,sx⟩⟩
 have hlen:(aT a b a.length++[0]).length=a.length+b.length+1:=by rw [e6]; simp [bk]
 have hv:ab (aT a b a.length++[0])=ab a*ab b:=by
  rw [di,e6,et,Nat.mod_eq_of_lt]
  ·simp [ab]
  ·rw [Nat.pow_add]
   exact Nat.mul_lt_mul'' (bC ha) (bC hb)
 have ht:=pD hLb (by rw [hlen]; omega)
 rw [hv] at ht
 have f4:=lE (aT a b a.length++[0])
 rw [hlen] at f4
 simp only [oM,AB,go_sem,↓reduceIte,amO,e1,e1',e2,e3,nM,e5]
 rw [e4 _ _ rfl rfl rfl rfl rfl]
 simp only [go_sem,↓reduceIte,amO,amQ,amP,f4,ht,hlen,uR,Nat.zero_add,Nat.le_refl]
end Go.Ab
namespace Go.Ab
open Go Go.IntWalk
set_option maxRecDepth 4000
set_option maxHeartbeats 1000000
theorem ae8 {m n:Nat} {i j:Int} (hi:i=m) (hj:j=n) (hm:m < 4294967296) (hn:n < 4294967296):cU .or (.v (.int .u32 i)) (.v (.int .u32 j))=some (.v (.int .u32 ((m ||| n:Nat):Int))):=by
 subst hi hj
 rw [Rc]
 have e:(BitVec.ofInt IntKind.u32.bits (m:Int) ||| BitVec.ofInt IntKind.u32.bits (n:Int)).toNat=m ||| n:=by
  show (BitVec.ofInt 32 (m:Int) ||| BitVec.ofInt 32 (n:Int)).toNat=m ||| n
  rw [BitVec.toNat_or]
  simp
  rw [Nat.mod_eq_of_lt hm,Nat.mod_eq_of_lt hn]
 rw [e]
 rw [nN rfl (Nat.or_lt_two_pow (n:=32) hm hn)]
theorem W0 {x c r:Nat} (hr:r < 32) (hc:c < 2 ^ r):(c ||| x*2 ^ r % 4294967296)=(x*2 ^ r+c) % 4294967296∧x*2 ^ r / 4294967296=(x*2 ^ r+c) / 4294967296:=by
 have e:(4294967296:Nat)=2 ^ (32 - r)*2 ^ r:=by rw [← Nat.pow_add,show 32 - r+r=32 from by omega]
 have h1:x*2 ^ r % 4294967296=x % 2 ^ (32 - r)*2 ^ r:=by
  conv=>lhs; rw [e]
  rw [Nat.mul_mod_mul_right]
 have h2:x % 2 ^ (32 - r)*2 ^ r+2 ^ r≤4294967296:=by
  have h3:(x % 2 ^ (32 - r)+1)*2 ^ r≤2 ^ (32 - r)*2 ^ r:=Nat.mul_le_mul_right _ (Nat.mod_lt _ (Nat.two_pow_pos _))
  rw [← e,Nat.add_mul,Nat.one_mul] at h3
  exact h3
 constructor
 ·rw [Nat.or_comm,h1,yw hc,← h1]
  omega
 ·omega
theorem SO {a:List Nat} (ha:Lb a) {n:Nat} (h1:a.length≤100000) (hq:n / 32≤a.length):∀ (k j:Nat),n / 32+j+k=a.length→∀ (s:am) (h:ac),s 0=lm a→s 1=I n→s 6=I (n / 32+j:Nat)→jq 33 (dk (a.drop (n / 32)) (n % 32) j) (s 5) (h 33) →
  ∃ x hh,au 0 [5] (aq (ak R (ae false) dG) [0,1,5,6] [33] s h)=some (.normal,⟨upd (fun _ => .any) 5 x,hh⟩)∧jq 33 (dk (a.drop (n / 32)) (n % 32) (a.length - n / 32)) x (hh 33)∧∀ a,a ≠ 33→hh a = .dead:=by
 intro k
 induction k with
 | zero =>
  intro j hi s h h0 g1 h6 hacc
  have e1:(((n / 32+j:Nat):Int) < (a.length:Int))=False:=ff (by omega)
  have:j=a.length - n / 32:=by omega
  rw [← this]
  rw [ao]
  rcases hacc with ⟨g2,h5,hh⟩ | ⟨g2,h5,hh⟩
  ·refine ⟨.emp,?hh0,?_,Or.inl ⟨g2,rfl,?_⟩,?_⟩
   rotate_left
   ·simp only [dG,go_sem,↓reduceIte,amO,h0,g1,h5,h6,hh,e1]
    rfl
   ·rfl
   ·intro b hb
    simp only [bX,hb,if_false]
  ·refine ⟨.rsl 33 none 1 0 (dk (a.drop (n / 32)) (n % 32) j).length,?hh1,?_,Or.inr ⟨g2,rfl,?_⟩,?_⟩
   rotate_left
   ·simp only [dG,go_sem,↓reduceIte,amO,amT,h0,g1,h5,h6,hh,e1]
    rfl
   ·rfl
   ·intro b hb
    simp only [bX,hb,if_false]
 | succ k ih =>
  intro j hi s h h0 g1 h6 hacc
  have ih':=ih (j+1) (by omega)
  have hx:=bd ha (n / 32+j)
  have hy:=bd ha (n / 32+j+1)
  have hr:n % 32 < 32:=Nat.mod_lt _ (by omega)
  have t1:=tC (m:=a) (i:=n / 32+j) ha (by omega)
  have t2:=tC (m:=a) (i:=n / 32+j+1) ha (by omega)
  have e1:(((n / 32+j:Nat):Int) < (a.length:Int))=True:=tt (by omega)
  have e3:IntKind.i64.wrap (((n / 32+j:Nat):Int)+1)=((n / 32+j+1:Nat):Int):=wi (by omega) (by omega)
  have e5:=nO (n:=n) (m:=32) (j:=32) rfl rfl (by omega)
  have q1:((dk (a.drop (n / 32)) (n % 32) j).length+1)*4≤140737488355328:=by rw [gt]; omega
  have f3:=tt q1
  have f6:=zm (n:=a.getD (n / 32+j+1) 0) (k:=32) (kk := .u64) (j:=32) rfl rfl (by omega) (by omega)
  have f7:IntKind.u64.wrap ((a.getD (n / 32+j) 0:Int)+((a.getD (n / 32+j+1) 0*2 ^ 32:Nat):Int))=((a.getD (n / 32+j) 0+4294967296*a.getD (n / 32+j+1) 0:Nat):Int):=cf (by omega) (by omega)
  have f8:=gW (n:=a.getD (n / 32+j) 0+4294967296*a.getD (n / 32+j+1) 0) (k:=n % 32) (kk := .i64) (j:=((n % 32:Nat):Int)) rfl rfl (by omega)
  have f9:=j8 (n:=(a.getD (n / 32+j) 0+4294967296*a.getD (n / 32+j+1) 0) / 2 ^ (n % 32)) rfl (Nat.lt_of_le_of_lt (Nat.div_le_self _ _) (by omega))
  have f11:(a.getD (n / 32+j) 0+4294967296*a.getD (n / 32+j+1) 0) / 2 ^ (n % 32) % 4294967296=iC (a.drop (n / 32)) (n % 32) j:=by
   unfold iC
   have hg:∀ i,(a.drop (n / 32)).getD i 0=a.getD (n / 32+i) 0:=fun i=>by
    rw [List.getD_eq_getElem?_getD,List.getElem?_drop,← List.getD_eq_getElem?_getD]
   rw [hg,hg,show n / 32+(j+1)=n / 32+j+1 from rfl]
  rw [f11] at f9
  have f10:IntKind.u32.wrap ((iC (a.drop (n / 32)) (n % 32) j:Nat):Int)=((iC (a.drop (n / 32)) (n % 32) j:Nat):Int):=nN rfl (Nat.mod_lt _ (by omega))
  rw [ao]
  rw [G2] at ih'
  generalize aq _ _ _=L at ih' ⊢
  rcases hacc with ⟨g2,h5,hh⟩ | ⟨g2,h5,hh⟩
  ·simp only [dG,go_sem,↓reduceIte,amO,amQ,amP,amR,amS,h0,g1,h5,h6,hh,e1,e3,e5,t1,t2,f6,f7,f8,f9,f10]
   rw [g2] at ih'
   exact ih' _ _ rfl rfl rfl jk
  ·simp only [dG,go_sem,↓reduceIte,amO,amQ,amP,amR,amS,amT,h0,g1,h5,h6,hh,e1,e3,e5,t1,t2,f3,f6,f7,f8,f9,f10,true_or,Nat.zero_add,Nat.le_refl,fW]
   exact ih' _ _ rfl rfl rfl gU
theorem W1 {a:List Nat} (ha:Lb a) {n:Nat} (h1:a.length≤10000) (hn:n≤10000000):R F.r01_Shr [lm a,I n] []=some (lm (ap (ab a / 2 ^ n)),[]):=by
 refine av RR RQ (Kk false) rfl ?_
 have e1:=mn (n:=n) (m:=32) (j:=32) rfl rfl (by omega) (by omega)
 by_cases hq:n / 32≤a.length
 ·have hd:=mf ha (n / 32)
  have hv:ab a / 2 ^ n=ab (a.drop (n / 32)) / 2 ^ (n % 32):=by
   rw [ny ha,Nat.div_div_eq_div_mul,jp]
  rw [hv]
  have hr:=SO ha (n:=n) (by omega) hq (a.length - n / 32) 0 (by omega)
  have hall:=BY hd (r:=n % 32) (by have:n % 32 < 32:=Nat.mod_lt _ (by omega); omega)
  rw [List.length_drop] at hall
  have hL:=gt (a.drop (n / 32)) (n % 32) (a.length - n / 32)
  have hLb:Lb (dk (a.drop (n / 32)) (n % 32) (a.length - n / 32)):=by
   rw [hall]
   exact gC _ _
  have hvv:ab (dk (a.drop (n / 32)) (n % 32) (a.length - n / 32))=ab (a.drop (n / 32)) / 2 ^ (n % 32):=by
   rw [hall,et,Nat.mod_eq_of_lt]
   have:=bC hd
   rw [List.length_drop] at this
   exact Nat.lt_of_le_of_lt (Nat.div_le_self _ _) this
  have q0:jq 33 (dk (a.drop (n / 32)) (n % 32) 0) .emp .dead:=Or.inl ⟨rfl,rfl,rfl⟩
  have ht:=nE hLb (by rw [hL]; omega)
  rw [hvv] at ht
  rw [Nat.add_zero] at hr
  generalize hLL:aq (ak R (ae false) dG) [0,1,5,6] [33]=L at hr
  have hX:∀ s h,ak R (ae false) (.loop [0,1,5,6] [33] dG) s h=L s h:=fun s h=>by rw [← hLL]; rfl
  clear hLL
  generalize dk (a.drop (n / 32)) (n % 32) 0=o0 at hr q0
  generalize dk (a.drop (n / 32)) (n % 32) (a.length - n / 32)=out at hr hall hL hLb hvv ht
  generalize ap (ab (a.drop (n / 32)) / 2 ^ (n % 32))=res at ht ⊢
  have hr2:∀ (S:am) (H:ac) (X:Option (Ex × St)),au 0 [5] (L S H)=X→S 0=lm a→S 1=I n→S 6=I (n / 32:Nat)→S 5 = .emp→H 33 = .dead→∃ x hh,X=some (.normal,⟨upd (fun _ => .any) 5 x,hh⟩)∧jq 33 out x (hh 33)∧∀ a,a ≠ 33→hh a = .dead:=fun S H X hX a0 a1 a6 a5 b=>by
   rw [← hX]
   exact hr S H a0 a1 a6 (by rw [a5,b]; exact q0)
  simp only [oS,x4,hX,go_sem,↓reduceIte,amO,e1]
  generalize hB:au 0 [5] (L _ _)=X
  obtain ⟨x,hh,g0,hacc,gd⟩:=hr2 _ _ _ hB rfl rfl rfl rfl rfl
  rw [g0]
  rcases hacc with ⟨c1,c2,c3⟩ | ⟨c1,c2,c3⟩
  ·rw [c1] at ht
   simp only [go_sem,↓reduceIte,amO,amQ,amP,c2,ht,ne_eq,not_false_eq_true,gd]
  ·simp only [go_sem,↓reduceIte,amO,amQ,amP,c2,c3,ht,ne_eq,not_false_eq_true,gd,lE,Nat.zero_add,Nat.le_refl]
 ·have hz:ab a / 2 ^ n=0:=by
   rw [← jp n,← Nat.div_div_eq_div_mul,← ny ha,List.drop_of_length_le (by omega)]
   exact Nat.zero_div _
  have e2:(((n / 32:Nat):Int) < (a.length:Int))=False:=ff (by omega)
  have ht:=nE (m:=[]) sx (by simp)
  rw [hz,ck]
  rw [show ab []=0 from rfl,ck] at ht
  have hL:∀ s h,s 0=lm a→s 1=I n→s 6=I (n / 32:Nat)→s 5 = .emp→h 33 = .dead→au 0 [5] (aq (ak R (ae false) dG) [0,1,5,6] [33] s h)=some (.normal,⟨upd (fun _ => .any) 5 .emp,upd (fun _ => .dead) 33 .dead⟩):=fun s h h0 g1 h6 h5 hh=>by
   rw [ao]
   simp only [dG,go_sem,↓reduceIte,amO,h0,g1,h5,h6,hh,e2]
  simp only [oS,x4,go_sem,↓reduceIte,amO,e1]
  rw [hL _ _ rfl rfl rfl rfl rfl]
  simp only [go_sem,↓reduceIte,amO,amQ,amP,ht]
def yH (a:List Nat) (q r i k:Nat):List Nat:=List.replicate q 0++eD a r i++bP a r i::List.replicate k 0
theorem SP {a:List Nat} (ha:Lb a) {n:Nat} (h1:a.length≤100000) (hq:n / 32≤100000):∀ (k i:Nat),i+k=a.length→∀ (s:am) (h:ac),s 0=lm a→s 1=I n→s 5 = .rsl 16 none 1 0 (n / 32+a.length+1)→s 6=I i→h 16 = .ar 1 (aE (yH a (n / 32) (n % 32) i k)) →
  au 0 [5] (aq (ak R (ae false) oT) [0,1,5,6] [16] s h)=some (.normal,⟨upd (fun _ => .any) 5 (.rsl 16 none 1 0 (n / 32+a.length+1)),upd (fun _ => .dead) 16 (.ar 1 (aE (yH a (n / 32) (n % 32) a.length 0)))⟩):=by
 intro k
 induction k with
 | zero =>
  intro i hi s h h0 g1 h5 h6 hh
  have:i=a.length:=by omega
  subst this
  rw [ao]
  simp only [oT,go_sem,↓reduceIte,amO,amT,h0,g1,h5,h6,hh,Int.lt_irrefl]
 | succ k ih =>
  intro i hi s h h0 g1 h5 h6 hh
  have ih':=ih (i+1) (by omega)
  have hx:=bd ha i
  have hr:n % 32 < 32:=Nat.mod_lt _ (by omega)
  have hc:=qv ha (r:=n % 32) i
  have hp:2 ^ (n % 32)≤2 ^ 31:=Nat.pow_le_pow_right (by omega) (by omega)
  have hxp:a.getD i 0*2 ^ (n % 32)≤4294967295*2 ^ 31:=Nat.mul_le_mul (by omega) hp
  obtain ⟨l1,l2⟩:=W0 (x:=a.getD i 0) (c:=bP a (n % 32) i) hr hc
  have hlen:(List.replicate (n / 32) 0++eD a (n % 32) i).length=i+n / 32:=by
   rw [List.length_append,List.length_replicate,iw]
   omega
  have e1:((i:Int) < (a.length:Int))=True:=tt (by omega)
  have e2:aV (aE a) (i:Int)=some (.ipt [U (a.getD i 0:Nat)]):=aX rfl (by omega)
  have e3:IntKind.i64.wrap ((i:Int)+1)=((i+1:Nat):Int):=wi (by omega) (by omega)
  have e4:IntKind.u64.wrap (a.getD i 0:Int)=(a.getD i 0:Int):=cf rfl (by omega)
  have e5:=nO (n:=n) (m:=32) (j:=32) rfl rfl (by omega)
  have e6:=zm (n:=a.getD i 0) (k:=n % 32) (kk := .i64) (j:=((n % 32:Nat):Int)) rfl rfl (by omega) (by omega)
  have e7:=mn (n:=n) (m:=32) (j:=32) rfl rfl (by omega) (by omega)
  have e8:IntKind.i64.wrap ((i:Int)+((n / 32:Nat):Int))=((i+n / 32:Nat):Int):=wi (by omega) (by omega)
  have e9:IntKind.i64.wrap (((i+n / 32:Nat):Int)+1)=((i+n / 32+1:Nat):Int):=wi (by omega) (by omega)
  have b1:(0≤((i+n / 32:Nat):Int))=True:=tt (by omega)
  have b2:(((i+n / 32:Nat):Int) < ((n / 32+a.length+1:Nat):Int))=True:=tt (by omega)
  have b3:(0≤((i+n / 32+1:Nat):Int))=True:=tt (by omega)
  have b4:(((i+n / 32+1:Nat):Int) < ((n / 32+a.length+1:Nat):Int))=True:=tt (by omega)
  have f1:=j8 (n:=a.getD i 0*2 ^ (n % 32)) rfl (by omega)
  have f2:IntKind.u32.wrap ((a.getD i 0*2 ^ (n % 32) % 4294967296:Nat):Int)=((a.getD i 0*2 ^ (n % 32) % 4294967296:Nat):Int):=nN rfl (by omega)
  have f3:=ae8 (m:=bP a (n % 32) i) (n:=a.getD i 0*2 ^ (n % 32) % 4294967296) rfl rfl (by omega) (by omega)
  rw [l1] at f3
  have f4:=gW (n:=a.getD i 0*2 ^ (n % 32)) (k:=32) (kk := .u64) (j:=32) rfl rfl (by omega)
  rw [show a.getD i 0*2 ^ (n % 32) / 2 ^ 32=bP a (n % 32) (i+1) from l2] at f4
  have f5:IntKind.u32.wrap ((bP a (n % 32) (i+1):Nat):Int)=((bP a (n % 32) (i+1):Nat):Int):=nN rfl (by have:=qv ha (r:=n % 32) (i+1); omega)
  have r1:(aE (yH a (n / 32) (n % 32) i (k+1)))[i+n / 32]?=some [U (bP a (n % 32) i:Nat)]:=by
   unfold yH
   rw [kl (by rw [List.length_append,hlen]; simp),List.getD_eq_getElem?_getD,List.getElem?_append_right (by omega),hlen]
   simp
  have r2:(aE (yH a (n / 32) (n % 32) i (k+1))).set (i+n / 32) [U ((a.getD i 0*2 ^ (n % 32)+bP a (n % 32) i) % 4294967296:Nat)]=aE (List.replicate (n / 32) 0++eD a (n % 32) (i+1)++List.replicate (k+1) 0):=by
   unfold yH
   rw [km,← hlen,List.set_append_right _ _ (Nat.le_refl _)]
   simp [eD,List.range_succ]
  have hlen2:(List.replicate (n / 32) 0++eD a (n % 32) (i+1)).length=i+n / 32+1:=by
   rw [List.length_append,List.length_replicate,iw]
   omega
  have r3:(aE (List.replicate (n / 32) 0++eD a (n % 32) (i+1)++List.replicate (k+1) 0))[i+n / 32+1]?=some [U (0:Nat)]:=by
   rw [kl (by rw [List.length_append,hlen2]; simp),List.getD_eq_getElem?_getD,List.getElem?_append_right (by omega),hlen2]
   simp [List.replicate_succ]
  have r4:(aE (List.replicate (n / 32) 0++eD a (n % 32) (i+1)++List.replicate (k+1) 0)).set (i+n / 32+1) [U (bP a (n % 32) (i+1):Nat)]=aE (yH a (n / 32) (n % 32) (i+1) k):=by
   unfold yH
   rw [km,← hlen2,List.set_append_right _ _ (Nat.le_refl _)]
   simp [List.replicate_succ]
  rw [ao]
  generalize aq _ _ _=L at ih' ⊢
  simp only [oT,go_sem,↓reduceIte,amO,amR,amT,h0,g1,h5,h6,hh,e1,e2,e3,e4,e5,e6,e7,e8,e9,b1,b2,b3,b4,f1,f2,f3,f4,f5,r1,r2,r3,r4,Int.toNat_natCast,Nat.zero_add]
  exact ih' _ _ rfl rfl rfl rfl rfl
theorem N2 {a:List Nat} (ha:Lb a) {n:Nat} (h1:a.length≤10000) (hn:n≤1000000):R F.r01_Shl [lm a,I n] []=some (lm (ap (ab a*2 ^ n)),[]):=by
 refine av RX RW (Km false) rfl ?_
 have hT:=nE ha (by omega)
 have la:=bN a ha
 obtain ⟨m,hm⟩:∃ m,ap (ab a)=m:=⟨_,rfl⟩
 have hmb:Lb m:=by rw [← hm]; exact aM _
 have hmv:ab m=ab a:=by rw [← hm]; exact aF _
 rw [hm] at hT la
 rw [← hmv]
 clear hm hmv
 have e1:=mn (n:=n) (m:=32) (j:=32) rfl rfl (by omega) (by omega)
 have e2:IntKind.i64.wrap (((n / 32:Nat):Int)+(m.length:Int))=((n / 32+m.length:Nat):Int):=wi (by omega) (by omega)
 have e3:IntKind.i64.wrap (((n / 32+m.length:Nat):Int)+1)=((n / 32+m.length+1:Nat):Int):=wi (by omega) (by omega)
 have e4:=jo (i:=((n / 32+m.length+1:Nat):Int)) (j:=((n / 32+m.length+1:Nat):Int)) rfl rfl (Nat.le_refl _) (by omega)
 have e5:((n / 32+m.length+1)*4≤140737488355328)=True:=tt (by omega)
 have e7:aE (List.replicate (n / 32+m.length+1) 0)=aE (yH m (n / 32) (n % 32) 0 m.length):=by
  unfold yH
  rw [show n / 32+m.length+1=n / 32+(m.length+1) from rfl,← List.replicate_append_replicate,List.replicate_succ]
  simp [eD,bP]
 have e6:=SP hmb (n:=n) (by omega) (by omega) m.length 0 (by omega)
 have hall:=FH hmb n
 have hO:yH m (n / 32) (n % 32) m.length 0=bI (n / 32+m.length+1) (ab m*2 ^ n):=by
  rw [← hall]
  rfl
 rw [hO] at e6
 have ht:=nE (gC (n / 32+m.length+1) (ab m*2 ^ n)) (by rw [bk]; omega)
 have hv:ab (bI (n / 32+m.length+1) (ab m*2 ^ n))=ab m*2 ^ n:=by
  rw [et,Nat.mod_eq_of_lt]
  have h:=bC hmb
  have h2:2 ^ n≤4294967296 ^ (n / 32+1):=by
   rw [show (4294967296:Nat)=2 ^ 32 from rfl,← Nat.pow_mul]
   exact Nat.pow_le_pow_right (by omega) (by omega)
  rw [show n / 32+m.length+1=m.length+(n / 32+1) from by omega,Nat.pow_add]
  exact Nat.mul_lt_mul_of_lt_of_le h h2 (Nat.pow_pos (by omega))
 rw [hv] at ht
 have f4:=lE (bI (n / 32+m.length+1) (ab m*2 ^ n))
 rw [bk] at f4
 simp only [rq,GR,go_sem,↓reduceIte,amO,amQ,amP,hT,e1,e2,e3,e4,e5,nM,e7]
 rw [e6 _ _ rfl rfl rfl rfl rfl]
 simp only [go_sem,↓reduceIte,amO,amQ,amP,f4,ht,uR,bk,Nat.zero_add,Nat.le_refl]
end Go.Ab
namespace Go.Ab
open Go Go.IntWalk
set_option maxRecDepth 4000
set_option maxHeartbeats 1000000
theorem qz {d:Rd} (ok:Ok0 d):R F.r02_Valid [af d] []=some (B (vd d),[]):=by
 refine av ML MK (E3 false) rfl ?_
 unfold vd
 have hl:=ok.len
 by_cases a0:d.m.length=0
 ·rw [if_pos a0]
  have e1:((d.m.length:Int)=0)=True:=tt (by omega)
  cases hn:d.neg with
  | true=>simp only [cu,ed,af,aj,hn,go_sem,↓reduceIte,amO,amQ,amP,e1,Bool.not_true,Bool.false_and]
  | false=>simp only [cu,ed,af,aj,hn,go_sem,↓reduceIte,amO,amQ,amP,e1,Bool.not_false,Bool.true_and]
 rw [if_neg a0]
 have e1:((d.m.length:Int)=0)=False:=ff (by omega)
 by_cases a1 : ¬ d.m.length≤256
 ·have e2:(256 < (d.m.length:Int))=True:=tt (by omega)
  rw [decide_eq_false a1,Bool.false_and]
  simp only [cu,ed,af,aj,go_sem,↓reduceIte,amO,amQ,amP,e1,e2]
 replace a1:=Decidable.not_not.1 a1
 have e2:(256 < (d.m.length:Int))=False:=ff (by omega)
 have e3:aV (aE d.m) 0=some (.ipt [U (d.m.getD 0 0:Nat)]):=aX rfl (by omega)
 have e6:IntKind.i64.wrap ((d.m.length:Int) - 1)=((d.m.length - 1:Nat):Int):=wi (by omega) (by omega)
 have e7:aV (aE d.m) ((d.m.length - 1:Nat):Int)=some (.ipt [U (d.m.getD (d.m.length - 1) 0:Nat)]):=aX rfl (by omega)
 have hx:=bd ok.lb 0
 rw [decide_eq_true a1,Bool.true_and]
 by_cases a3:d.m.getD (d.m.length - 1) 0=0
 ·have e8:((d.m.getD (d.m.length - 1) 0:Int)=0)=True:=tt (by omega)
  rw [decide_eq_false (p:=d.m.getD (d.m.length - 1) 0 ≠ 0) (fun h=>h a3),Bool.false_and,Bool.and_false]
  simp only [cu,ed,af,aj,go_sem,↓reduceIte,amO,amQ,amP,e1,e2,e6,e7,e8]
 have e8:((d.m.getD (d.m.length - 1) 0:Int)=0)=False:=ff (by omega)
 rw [decide_eq_true (p:=d.m.getD (d.m.length - 1) 0 ≠ 0) a3,Bool.true_and]
 have e4:=KV (n:=d.m.getD 0 0) rfl hx
 by_cases a2 : ¬ d.m.getD 0 0 % 2=1
 ·have e5:(((d.m.getD 0 0 % 2:Nat):Int)=0)=True:=tt (by omega)
  rw [decide_eq_false a2,Bool.false_and]
  simp only [cu,ed,af,aj,go_sem,↓reduceIte,amO,amQ,amP,e1,e2,e3,e4,e5,e6,e7,e8]
 replace a2:=Decidable.not_not.1 a2
 have e5:(((d.m.getD 0 0 % 2:Nat):Int)=0)=False:=ff (by omega)
 rw [decide_eq_true a2,Bool.true_and]
 have hv:ab d.m ≠ 0:=yc (Or.inr a3) (fun h=>a0 (by rw [h]; rfl))
 have hbp:=eu hv
 unfold mu
 rw [decide_eq_false (p:=ah (ab d.m)=0) (by omega),Bool.false_or]
 by_cases a4:d.e < -16384
 ·have f1:(d.e < -16384)=True:=tt a4
  rw [decide_eq_false (p := -16384≤d.e) (by omega),Bool.false_and,Bool.and_false]
  simp only [cu,ed,af,aj,go_sem,↓reduceIte,amO,amQ,amP,e1,e2,e3,e4,e5,e6,e7,e8,f1]
 have f1:(d.e < -16384)=False:=ff a4
 rw [decide_eq_true (p := -16384≤d.e) (by omega),Bool.true_and]
 by_cases a5:16384 < d.e
 ·have f2:(16384 < d.e)=True:=tt a5
  rw [decide_eq_false (p:=d.e≤16384) (by omega),Bool.false_and,Bool.and_false]
  simp only [cu,ed,af,aj,go_sem,↓reduceIte,amO,amQ,amP,e1,e2,e3,e4,e5,e6,e7,e8,f1,f2]
 have f2:(16384 < d.e)=False:=ff a5
 rw [decide_eq_true (p:=d.e≤16384) (by omega),Bool.true_and]
 have hb:=KW ok.lb (by omega) (Or.inr a3)
 have hbl:=sH ok.lb
 have w1:IntKind.i64.wrap (((ah (ab d.m):Nat):Int)+d.e)=((ah (ab d.m):Nat):Int)+d.e:=i64_in _ ⟨by omega,by omega⟩
 by_cases a6:ah (ab d.m)≤4096
 ·have f3:(((ah (ab d.m):Nat):Int)≤4096)=True:=tt (by omega)
  rw [decide_eq_true a6,Bool.true_and]
  simp only [cu,ed,af,aj,go_sem,↓reduceIte,amO,amQ,amP,e1,e2,e3,e4,e5,e6,e7,e8,f1,f2,hb,f3,w1]
 ·have f3:(((ah (ab d.m):Nat):Int)≤4096)=False:=ff (by omega)
  rw [decide_eq_false a6,Bool.false_and]
  simp only [cu,ed,af,aj,go_sem,↓reduceIte,amO,amQ,amP,e1,e2,e3,e4,e5,e6,e7,e8,f1,f2,hb,f3]
theorem sQ {neg:Bool} {m:List Nat} {e:Int} (hb:Lb m) (h1:m.length≤9000) (he : -1000000≤e∧e≤1000000):R F.r02_Of [B neg,lm m,I e] []=some (af (aU neg (ab m) e),[]):=by
 refine av T4 T3 (MJ false) rfl ?_
 have ht:=pD hb (by omega)
 have la:=bN m hb
 obtain ⟨M,hM⟩:∃ M,ab m=M:=⟨_,rfl⟩
 rw [hM] at ht la ⊢
 by_cases h0:M=0
 ·have e1:(((ap M).length:Int)=0)=True:=tt (by rw [h0,ck]; rfl)
  rw [h0,dc]
  rw [h0] at ht e1
  simp only [qh,AS,af,aj,aQ,go_sem,↓reduceIte,amO,amQ,amP,amR,ht,e1]
 ·have e1:(((ap M).length:Int)=0)=False:=ff (fun h=>h0 (gB.1 (List.length_eq_zero_iff.1 (by omega))))
  have hz:=SD (aM M) (by omega) (by rw [aF]; exact h0)
  rw [aF] at hz
  have htz:tz M < 32*(ap M).length:=by
   refine IC h0 ?_
   have:=bC (aM M)
   rw [aF] at this
   rw [Nat.pow_mul]
   exact this
  have hr:=SF (aM M) (n:=tz M) (by omega) (by omega)
  rw [aF] at hr
  have w1:IntKind.i64.wrap (e+((tz M:Nat):Int))=e+((tz M:Nat):Int):=i64_in _ ⟨by omega,by omega⟩
  rw [fg h0]
  simp only [qh,AS,af,aj,go_sem,↓reduceIte,amO,amQ,amP,amR,ht,e1,hz,hr,w1]
def P6 (d:Rd):Rd:=⟨!d.neg && decide (0 < d.m.length),d.m,d.e⟩
theorem pE {d:Rd}:R F.r02_Neg [af d] []=some (af (P6 d),[]):=by
 refine av RE RB (JW false) rfl ?_
 unfold P6
 cases hn:d.neg with
 | true=>simp only [oB,xW,af,aj,go_sem,↓reduceIte,amO,amQ,amP,amR,hn,Bool.not_true,Bool.false_and]
 | false =>
  have e:decide (0 < (d.m.length:Int))=decide (0 < d.m.length):=by rw [decide_eq_decide]; omega
  simp only [oB,xW,af,aj,go_sem,↓reduceIte,amO,amQ,amP,amR,hn,Bool.not_false,Bool.true_and,e]
theorem pF {d:Rd} (h:vd d=true):P6 d=cP d:=by
 unfold P6 cP
 by_cases h0:d.m.length=0
 ·rw [if_pos (Or.inr h0),decide_eq_false (by omega),Bool.and_false]
  have:=zo h h0
  subst this
  rfl
 ·rw [if_neg (fun h2=>h2.elim (fun h3=>by rw [h] at h3; exact Bool.false_ne_true h3.symm) h0),decide_eq_true (by omega),Bool.and_true]
theorem vc {d:Rd} (h:vd d=true):zI (cP d) = -zI d∧vd (cP d)=true:=by
 unfold cP
 by_cases h0:d.m.length=0
 ·rw [if_pos (Or.inr h0),ia h0]
  exact ⟨by rw [ia rfl]; rfl,rfl⟩
 ·rw [if_neg (fun h2=>h2.elim (fun h3=>by rw [h] at h3; exact Bool.false_ne_true h3.symm) h0)]
  constructor
  ·unfold zI mg
   cases d.neg <;> simp
  ·unfold vd at h ⊢
   rw [if_neg h0] at h ⊢
   exact h
theorem nF {d:Rd}:R F.r02_Sign [af d] []=some (I (br d),[]):=by
 refine av Po Pn (HC false) rfl ?_
 unfold br
 by_cases h0:d.m.length=0
 ·have e1:((d.m.length:Int)=0)=True:=tt (by omega)
  rw [if_pos h0]
  simp only [ki,rn,af,aj,go_sem,↓reduceIte,amO,amQ,amP,e1]
 ·have e1:((d.m.length:Int)=0)=False:=ff (by omega)
  rw [if_neg h0]
  cases hn:d.neg with
  | true =>
   rw [if_pos rfl]
   simp only [ki,rn,af,aj,go_sem,↓reduceIte,amO,amQ,amP,e1,hn]
  | false =>
   rw [if_neg Bool.false_ne_true]
   simp only [ki,rn,af,aj,go_sem,↓reduceIte,amO,amQ,amP,e1,hn]
theorem K2 {d:Rd} (h:vd d=true):pW d.m:=by
 by_cases h0:d.m.length=0
 ·exact Or.inl (List.length_eq_zero_iff.1 h0)
 ·exact Or.inr (yy h h0).2.2.1
theorem N3 {d:Rd} (ok:Ok0 d) (h:vd d=true):R F.r02_Top [af d] []=some (I (aL d),[]):=by
 refine av Ry Rx (JU false) rfl ?_
 by_cases h0:d.m.length=0
 ·have e1:((d.m.length:Int)=0)=True:=tt (by omega)
  rw [aL,if_pos (Or.inr h0)]
  simp only [oA,xV,af,aj,go_sem,↓reduceIte,amO,amQ,amP,e1]
 ·have e1:((d.m.length:Int)=0)=False:=ff (by omega)
  obtain ⟨h1,h2,h3,h4⟩:=cO h ok.lb
  rw [iD h h0]
  have hb:=KW ok.lb (by omega) (K2 h)
  have w1:IntKind.i64.wrap (((ah (ab d.m):Nat):Int)+d.e)=((ah (ab d.m):Nat):Int)+d.e:=i64_in _ ⟨by omega,by omega⟩
  simp only [oA,xV,af,aj,go_sem,↓reduceIte,amO,amQ,amP,amS,amT,e1,hb,w1]
def gq (z f:Int):Rd:=aU (decide (z < 0)) z.natAbs f
theorem FR {neg:Bool} {n:Nat} {f:Int}:aU neg n f=gq (bq neg n) f:=by
 unfold gq
 by_cases h0:n=0
 ·subst h0
  rw [dc]
  cases neg <;> exact dc.symm
 ·cases neg with
  | false =>
   rw [fm,Int.natAbs_natCast,decide_eq_false (by omega)]
  | true =>
   rw [fl,Int.natAbs_neg,Int.natAbs_natCast,decide_eq_true (by omega)]
theorem akU {n:Nat} (h:n % 2=1) (k:Nat):tz (n*2 ^ k)=k:=by
 rw [Nat.mul_comm,C6 k (by omega),sy h,Nat.add_zero]
theorem ve {d:Rd} (ok:Ok0 d) (h:vd d=true):gq (zI d) (-16384)=d:=by
 by_cases h0:d.m.length=0
 ·rw [ia h0]
  have:=zo h h0
  subst this
  exact dc
 ·obtain ⟨h1,h2,h3,h4⟩:=yy h h0
  obtain ⟨g1,g2,g3,g4⟩:=cO h ok.lb
  have hz:zI d=bq d.neg (mg d):=by
   unfold zI bq
   rfl
  rw [hz,← FR]
  unfold mg
  rw [rC,fg (db h h0)]
  have ho:ab d.m % 2=1:=by
   have:=dM d.m 0
   rw [List.drop_zero] at this
   omega
  rw [sy ho,Nat.pow_zero,Nat.div_one,pp ok.lb (K2 h)]
  obtain ⟨n,m,e⟩:=d
  show (⟨n,m,-16384+(((e+16384).toNat:Nat):Int)+((0:Nat):Int)⟩:Rd)=_
  rw [show -16384+(((e+16384).toNat:Nat):Int)+((0:Nat):Int)=e by have : -16384≤e:=g2; omega]
theorem lF {x y:Nat} (h:x≤y):(ap x).length≤(ap y).length:=Nat.not_lt.1 fun h2=>by
 have:=mm h2
 omega
theorem N4 {a b:Rd} (oa:Ok0 a) (ob:Ok0 b) (va:vd a=true) (vb:vd b=true):R F.r02_Sum [af a,af b] []=some (af (gq (zI a+zI b) (-16384)),[]):=by
 refine av RA Rz (JV false) rfl ?_
 by_cases a0:a.m.length=0
 ·have e1:((a.m.length:Int)=0)=True:=tt (by omega)
  rw [ia a0,Int.zero_add,ve ob vb]
  simp only [il,nL,af,aj,go_sem,↓reduceIte,amO,amQ,amP,amR,e1]
 have e1:((a.m.length:Int)=0)=False:=ff (by omega)
 by_cases b0:b.m.length=0
 ·have e2:((b.m.length:Int)=0)=True:=tt (by omega)
  rw [ia b0,Int.add_zero,ve oa va]
  simp only [il,nL,af,aj,go_sem,↓reduceIte,amO,amQ,amP,amR,e1,e2]
 have e2:((b.m.length:Int)=0)=False:=ff (by omega)
 obtain ⟨a1,a2,a3,a4⟩:=cO va oa.lb
 obtain ⟨b1,b2,b3,b4⟩:=cO vb ob.lb
 obtain ⟨e,he⟩:∃ e,(if b.e < a.e then b.e else a.e)=e:=⟨_,rfl⟩
 have he1 : -16384≤e∧e≤a.e∧e≤b.e:=by
  split at he <;> omega
 have w1:IntKind.i64.wrap (a.e - e)=(((a.e - e).toNat:Nat):Int):=wi (by omega) (by omega)
 have w2:IntKind.i64.wrap (b.e - e)=(((b.e - e).toNat:Nat):Int):=wi (by omega) (by omega)
 have l1:=KY oa.lb (n:=(a.e - e).toNat) (by omega) (by omega)
 have l2:=KY ob.lb (n:=(b.e - e).toNat) (by omega) (by omega)
 have z1:zI a=bq a.neg (ab a.m*2 ^ (a.e - e).toNat*2 ^ (e+16384).toNat):=by
  rw [show zI a=bq a.neg (mg a) from rfl,vX he1.1 he1.2.1]
 have z2:zI b=bq b.neg (ab b.m*2 ^ (b.e - e).toNat*2 ^ (e+16384).toNat):=by
  rw [show zI b=bq b.neg (mg b) from rfl,vX he1.1 he1.2.2]
 have bx:ah (ab a.m*2 ^ (a.e - e).toNat)≤36864:=by
  rw [da _ (db va a0)]
  omega
 have by':ah (ab b.m*2 ^ (b.e - e).toNat)≤36864:=by
  rw [da _ (db vb b0)]
  omega
 rw [z1,z2]
 generalize ab a.m*2 ^ (a.e - e).toNat=x at l1 bx ⊢
 generalize ab b.m*2 ^ (b.e - e).toNat=y at l2 by' ⊢
 have lx:(ap x).length≤1152:=aK (by omega)
 have ly:(ap y).length≤1152:=aK (by omega)
 have hsum:∀ (n:Bool) (z:Nat),aU n z e=gq (bq n (z*2 ^ (e+16384).toNat)) (-16384):=fun n z=>by
  rw [← FR,rC,show -16384+(((e+16384).toNat:Nat):Int)=e by omega]
 have hcp:=AJ (aM x) (aM y) (by omega) (by omega) (Or.inr ⟨yd x,yd y⟩)
 rw [aF,aF] at hcp
 by_cases hs:a.neg=b.neg
 ·have p1:=UL (aM x) (aM y) (by omega) (by omega)
  rw [aF,aF] at p1
  have bz:ah (x+y)≤36865:=sI bx by'
  have o1:=sQ (neg:=a.neg) (m:=ap (x+y)) (e:=e) (aM _) (Nat.le_trans (aK (k:=1153) (by omega)) (by decide)) ⟨by omega,by omega⟩
  rw [aF,hsum] at o1
  have hz:bq a.neg (x*2 ^ (e+16384).toNat)+bq b.neg (y*2 ^ (e+16384).toNat)=bq a.neg ((x+y)*2 ^ (e+16384).toNat):=by
   rw [← hs,Nat.add_mul]
   cases a.neg
   ·rw [fm,fm,fm]
    omega
   ·rw [fl,fl,fl]
    omega
  rw [hz]
  generalize gq (bq a.neg ((x+y)*2 ^ (e+16384).toNat)) (-16384)=r at o1 ⊢
  have hs2:(a.neg == b.neg)=true:=by rw [hs]; exact beq_self_eq_true _
  have hs3:(false != (a.neg == b.neg))=true:=by rw [hs2]; rfl
  simp only [af,aj] at o1
  simp only [il,nL,af,aj,go_sem,↓reduceIte,amO,amQ,amP,amR,amS,amT,e1,e2,he,w1,w2,l1,l2,hs3,p1,o1]
 ·have hs2:(a.neg == b.neg)=false:=by
   cases ha:a.neg <;> cases hb:b.neg <;> first | rfl | (rw [ha,hb] at hs; exact absurd rfl hs)
  have hs3:(false != (a.neg == b.neg))=false:=by rw [hs2]; rfl
  have hbn:b.neg = !a.neg:=by
   cases ha:a.neg <;> cases hb:b.neg <;> first | rfl | (rw [ha,hb] at hs; exact absurd rfl hs)
  by_cases hlt:x < y
  ·have e5:(0≤aY x y)=False:=ff (by unfold aY; rw [if_pos hlt]; decide)
   have m1:=G5 (aM y) (aM x) (by omega) (lF (by omega)) (by rw [aF,aF]; omega)
   rw [aF,aF] at m1
   have o1:=sQ (neg:=b.neg) (m:=ap (y - x)) (e:=e) (aM _) (Nat.le_trans (lF (Nat.sub_le _ _)) (by omega)) ⟨by omega,by omega⟩
   rw [aF,hsum] at o1
   have hmul:x*2 ^ (e+16384).toNat≤y*2 ^ (e+16384).toNat:=Nat.mul_le_mul_right _ (by omega)
   have hz:bq a.neg (x*2 ^ (e+16384).toNat)+bq b.neg (y*2 ^ (e+16384).toNat)=bq b.neg ((y - x)*2 ^ (e+16384).toNat):=by
    rw [hbn,Nat.sub_mul]
    cases a.neg
    ·rw [Bool.not_false,fm,fl,fl]
     omega
    ·rw [Bool.not_true,fm,fl,fm]
     omega
   rw [hz]
   generalize gq (bq b.neg ((y - x)*2 ^ (e+16384).toNat)) (-16384)=r at o1 ⊢
   simp only [af,aj] at o1
   simp only [il,nL,af,aj,go_sem,↓reduceIte,amO,amQ,amP,amR,amS,amT,e1,e2,he,w1,w2,l1,l2,hs3,hcp,e5,m1,o1]
  ·have e5:(0≤aY x y)=True:=tt (by unfold aY; rw [if_neg hlt]; split <;> decide)
   have m1:=G5 (aM x) (aM y) (by omega) (lF (by omega)) (by rw [aF,aF]; omega)
   rw [aF,aF] at m1
   have o1:=sQ (neg:=a.neg) (m:=ap (x - y)) (e:=e) (aM _) (Nat.le_trans (lF (Nat.sub_le _ _)) (by omega)) ⟨by omega,by omega⟩
   rw [aF,hsum] at o1
   have hmul:y*2 ^ (e+16384).toNat≤x*2 ^ (e+16384).toNat:=Nat.mul_le_mul_right _ (by omega)
   have hz:bq a.neg (x*2 ^ (e+16384).toNat)+bq b.neg (y*2 ^ (e+16384).toNat)=bq a.neg ((x - y)*2 ^ (e+16384).toNat):=by
    rw [hbn,Nat.sub_mul]
    cases a.neg
    ·rw [Bool.not_false,fm,fl,fm]
     omega
    ·rw [Bool.not_true,fm,fl,fl]
     omega
   rw [hz]
   generalize gq (bq a.neg ((x - y)*2 ^ (e+16384).toNat)) (-16384)=r at o1 ⊢
   simp only [af,aj] at o1
   simp only [il,nL,af,aj,go_sem,↓reduceIte,amO,amQ,amP,amR,amS,amT,e1,e2,he,w1,w2,l1,l2,hs3,hcp,e5,m1,o1]
theorem Nf {a b:Rd} (oa:Ok0 a) (ob:Ok0 b) (va:vd a=true) (vb:vd b=true):R F.r02_Product [af a,af b] []=some (af (aU (a.neg != b.neg) (ab a.m*ab b.m) (a.e+b.e)),[]):=by
 refine av HH HG (Bo false) rfl ?_
 obtain ⟨a1,a2,a3,a4⟩:=cO va oa.lb
 obtain ⟨b1,b2,b3,b4⟩:=cO vb ob.lb
 have t1:=SN oa.lb ob.lb (by omega) (by omega)
 have hp:=oZ (ab a.m) (ab b.m)
 have w1:IntKind.i64.wrap (a.e+b.e)=a.e+b.e:=i64_in _ ⟨by omega,by omega⟩
 have o1:=sQ (neg:=a.neg != b.neg) (m:=ap (ab a.m*ab b.m)) (e:=a.e+b.e) (aM _) (Nat.le_trans (aK (k:=256) (by omega)) (by decide)) ⟨by omega,by omega⟩
 rw [aF] at o1
 generalize aU (a.neg != b.neg) (ab a.m*ab b.m) (a.e+b.e)=r at o1 ⊢
 simp only [af,aj] at o1
 simp only [lW,wE,af,aj,go_sem,↓reduceIte,amO,amQ,amP,amR,amS,amT,t1,w1,jh,o1]
end Go.Ab
namespace Go.Ab
open Go Go.IntWalk
set_option maxRecDepth 4000
set_option maxHeartbeats 1000000
theorem ae9:(true == true)=true:=rfl
theorem afa:(true == false)=false:=rfl
theorem afb:(false == true)=false:=rfl
theorem afc:(false == false)=true:=rfl
theorem YV:(false != true)=true:=rfl
theorem YW:(false != false)=false:=rfl
theorem UN (z f:Int):br (gq z f)=if z < 0 then -1 else if 0 < z then 1 else 0:=by
 unfold gq
 by_cases h0:z=0
 ·subst h0
  show br (aU _ 0 _)=_
  rw [dc]
  rfl
 ·have hn:z.natAbs ≠ 0:=by omega
  rw [fg hn]
  obtain ⟨h1,h2⟩:=pq hn
  have hl:(ap (z.natAbs / 2 ^ tz z.natAbs)).length ≠ 0:=fun h=>by
   have:=gB.1 (List.length_eq_zero_iff.1 h)
   omega
  unfold br
  show (if (ap (z.natAbs / 2 ^ tz z.natAbs)).length=0 then (0:Int) else if decide (z < 0)=true then -1 else 1)=_
  rw [if_neg hl]
  by_cases h3:z < 0
  ·rw [decide_eq_true h3,if_pos rfl,if_pos h3]
  ·rw [decide_eq_false h3,if_neg Bool.false_ne_true,if_neg h3,if_pos (by omega)]
theorem SQ {a b:Rd} (oa:Ok0 a) (ob:Ok0 b) (va:vd a=true) (vb:vd b=true) (na:a.m.length ≠ 0) (nb:b.m.length ≠ 0) (h:aL a < aL b):mg a < mg b:=by
 have h1:=uY va oa.lb na
 have h2:=uY vb ob.lb nb
 exact vW (by omega)
theorem FS {a b:Rd} (oa:Ok0 a) (ob:Ok0 b) (va:vd a=true) (vb:vd b=true):R F.r02_Cmp [af a,af b] []=some (I (bp (zI a) (zI b)),[]):=by
 refine av Rq Ro (JP false) rfl ?_
 have s1:=nF (d:=a)
 have s2:=nF (d:=b)
 have t1:=N3 oa va
 have t2:=N3 ob vb
 have n1:=pE (d:=b)
 rw [pF vb] at n1
 obtain ⟨hz,hvn⟩:=vc vb
 have u1:=N4 oa (mp ob) va hvn
 rw [hz] at u1
 have u2:=nF (d:=gq (zI a + -zI b) (-16384))
 rw [UN] at u2
 have hca:=sF a va
 have hcb:=sF b vb
 generalize gq (zI a + -zI b) (-16384)=sm at u1 u2
 generalize cP b=nb at n1 u1
 simp only [af,aj] at s1 s2 t1 t2 n1 u1 u2
 by_cases hs:br a=br b
 ·have e1:(br a=br b)=True:=tt hs
  by_cases h0:br a=0
  ·have e2:(br a=0)=True:=tt h0
   have hr:bp (zI a) (zI b)=0:=by
    have:zI a=0:=by omega
    have:zI b=0:=by omega
    unfold bp
    rw [if_neg (by omega),if_neg (by omega)]
   rw [hr]
   simp only [ej,ij,af,aj,go_sem,↓reduceIte,amO,amQ,amP,amR,amS,amT,s1,s2,e1,e2]
   try simp only [hs,h0,go_sem,↓reduceIte,amO,amQ,amP,amY,amR,amS,amU,amW,amX,amV,amT,Nat.reduceMod]
  ·have e2:(br a=0)=False:=ff h0
   have na:a.m.length ≠ 0:=by omega
   have nb':b.m.length ≠ 0:=by omega
   by_cases ht:aL a=aL b
   ·have e3:(aL a=aL b)=True:=tt ht
    have hr:bp (zI a) (zI b)=if zI a + -zI b < 0 then -1 else if 0 < zI a + -zI b then 1 else 0:=by
     unfold bp
     repeat' split
     all_goals omega
    rw [hr]
    generalize (if zI a + -zI b < 0 then (-1:Int) else if 0 < zI a + -zI b then 1 else 0)=c at u2 ⊢
    simp only [ej,ij,af,aj,go_sem,↓reduceIte,amO,amQ,amP,amR,amS,amT,s1,s2,t1,t2,e1,e2,e3,n1,u1,u2]
   ·have e3:(aL a=aL b)=False:=ff ht
    by_cases hlt:aL a < aL b
    ·have e4:(aL a < aL b)=True:=tt hlt
     have hm:=SQ oa ob va vb na nb' hlt
     by_cases hp:0 < br a
     ·have e5:(0 < br a)=True:=tt hp
      have hr:bp (zI a) (zI b) = -1:=by
       unfold bp
       rw [if_pos (by omega)]
      rw [hr]
      simp only [ej,ij,af,aj,go_sem,↓reduceIte,amO,amQ,amP,amR,amS,amT,s1,s2,t1,t2,e1,e2,e3,e4,e5,decide_true,ae9,YV]
     ·have e5:(0 < br a)=False:=ff hp
      have hr:bp (zI a) (zI b)=1:=by
       unfold bp
       rw [if_neg (by omega),if_pos (by omega)]
      rw [hr]
      simp only [ej,ij,af,aj,go_sem,↓reduceIte,amO,amQ,amP,amR,amS,amT,s1,s2,t1,t2,e1,e2,e3,e4,e5,decide_true,decide_false,afa,YW]
    ·have e4:(aL a < aL b)=False:=ff hlt
     have hm:=SQ ob oa vb va nb' na (by omega)
     by_cases hp:0 < br a
     ·have e5:(0 < br a)=True:=tt hp
      have hr:bp (zI a) (zI b)=1:=by
       unfold bp
       rw [if_neg (by omega),if_pos (by omega)]
      rw [hr]
      simp only [ej,ij,af,aj,go_sem,↓reduceIte,amO,amQ,amP,amR,amS,amT,s1,s2,t1,t2,e1,e2,e3,e4,e5,decide_true,decide_false,afb,YW]
     ·have e5:(0 < br a)=False:=ff hp
      have hr:bp (zI a) (zI b) = -1:=by
       unfold bp
       rw [if_pos (by omega)]
      rw [hr]
      simp only [ej,ij,af,aj,go_sem,↓reduceIte,amO,amQ,amP,amR,amS,amT,s1,s2,t1,t2,e1,e2,e3,e4,e5,decide_true,decide_false,afc,YV]
 ·have e1:(br a=br b)=False:=ff hs
  by_cases hlt:br a < br b
  ·have e2:(br a < br b)=True:=tt hlt
   have hr:bp (zI a) (zI b) = -1:=by
    unfold bp
    rw [if_pos (by omega)]
   rw [hr]
   simp only [ej,ij,af,aj,go_sem,↓reduceIte,amO,amQ,amP,amR,amS,amT,s1,s2,e1,e2]
  ·have e2:(br a < br b)=False:=ff hlt
   have hr:bp (zI a) (zI b)=1:=by
    unfold bp
    rw [if_neg (by omega),if_pos (by omega)]
   rw [hr]
   simp only [ej,ij,af,aj,go_sem,↓reduceIte,amO,amQ,amP,amR,amS,amT,s1,s2,e1,e2]
theorem G6 {d:Rd} (hb:Lb d.m) (hl:d.m.length≤100000):R F.r02_Equal [af d,af d] []=some (B true,[]):=by
 refine av My Mx (ET false) rfl ?_
 have hc:=AJ hb hb hl hl (Or.inl rfl)
 have e1:aY (ab d.m) (ab d.m)=0:=by
  unfold aY
  rw [if_neg (Nat.lt_irrefl _),if_neg (Nat.lt_irrefl _)]
 rw [e1] at hc
 have e2:(false != (d.neg == d.neg))=true:=by rw [beq_self_eq_true]; rfl
 simp only [oo,Av,af,aj,go_sem,↓reduceIte,amO,amQ,amP,e2,hc]
theorem W2:R F.r02_Int [I 1] []=some (af one,[]):=by
 refine av Rn Rm (JO false) rfl ?_
 have h:=sQ (neg:=false) (m:=[1,0]) (e:=0) (fun x hx=>by
  rcases List.mem_cons.1 hx with h | h
  ·rw [h]; decide
  ·rw [List.mem_singleton.1 h]; decide) (by decide) ⟨by decide,by decide⟩
 have h2:aU false (ab [1,0]) 0=one:=by
  show aU false 1 0=one
  rw [fg (by decide),sy (by decide)]
  show (⟨false,ap 1,0⟩:Rd)=one
  rw [jf (by decide)]
  show (⟨false,1::ap 0,0⟩:Rd)=one
  rw [ck]
  rfl
 rw [h2] at h
 have h3:R F.r02_Of [B false,.sl 1 [[U 1],[U 0]],I 0] []=some (af one,[]):=h
 have w1:IntKind.u64.wrap 1=1:=rfl
 have w2:=j8 (n:=1) (i:=1) rfl (by decide)
 have w3:=gW (n:=1) (i:=1) (k:=32) (kk := .u64) (j:=32) rfl rfl (by omega)
 rw [show ((1 % 4294967296:Nat):Int)=1 from rfl] at w2
 rw [show ((1 / 2 ^ 32:Nat):Int)=0 from rfl] at w3
 have w4:IntKind.u32.wrap 1=1:=rfl
 have w5:IntKind.u32.wrap 0=0:=rfl
 simp only [one,af,aj] at h3
 simp only [rl,GN,one,af,aj,go_sem,↓reduceIte,amO,amQ,amP,amR,amS,amU,w1,w2,w3,w4,w5,h3]
theorem K3 {p:Int}:R F.r03_Prec [I p] []=some (B (ey p),[]):=by
 refine av Pb Pa (Hq false) rfl ?_
 unfold ey
 by_cases h1:8≤p
 ·have e1:(8≤p)=True:=tt h1
  simp only [mK,vG,go_sem,↓reduceIte,amO,e1,decide_true,Bool.true_and]
 ·have e1:(8≤p)=False:=ff h1
  simp only [mK,vG,go_sem,↓reduceIte,amO,e1,decide_false,Bool.false_and]
theorem yI {a b:Rd} (oa:Ok0 a) (ob:Ok0 b) {p:Int}:R F.r03_fault [af a,af b,I p] []=some (I (aZ p [a,b]),[]):=by
 refine av MP MO (E7 false) rfl ?_
 have va:=qz oa
 have vb:=qz ob
 have hp:=K3 (p:=p)
 simp only [af,aj] at va vb
 unfold aZ
 rw [List.all_cons,List.all_cons,List.all_nil,Bool.and_true]
 cases h1:vd a with
 | false =>
  rw [h1] at va
  rw [Bool.false_and,if_neg Bool.false_ne_true]
  simp only [gM,mP,af,aj,go_sem,↓reduceIte,amO,amQ,amP,amR,va]
 | true =>
  rw [h1] at va
  cases h2:vd b with
  | false =>
   rw [h2] at vb
   rw [Bool.and_false,if_neg Bool.false_ne_true]
   simp only [gM,mP,af,aj,go_sem,↓reduceIte,amO,amQ,amP,amR,va,vb]
  | true =>
   rw [h2] at vb
   rw [Bool.and_true,if_pos rfl]
   by_cases h3:8≤p∧p≤512
   ·have e3:ey p=true:=by unfold ey; rw [decide_eq_true h3.1,decide_eq_true h3.2]; rfl
    rw [e3] at hp
    rw [if_pos h3]
    simp only [gM,mP,af,aj,go_sem,↓reduceIte,amO,amQ,amP,amR,va,vb,hp]
   ·have e3:ey p=false:=by
     unfold ey
     by_cases h8:8≤p
     ·rw [decide_eq_false (p:=p≤512) (fun h=>h3 ⟨h8,h⟩),Bool.and_false]
     ·rw [decide_eq_false h8,Bool.false_and]
    rw [e3] at hp
    rw [if_neg h3]
    simp only [gM,mP,af,aj,go_sem,↓reduceIte,amO,amQ,amP,amR,va,vb,hp]
theorem K4 {neg:Bool} {n:Nat} (hn:8≤n∧n≤512):R F.r03_greatest [B neg,I n] []=some (af (aU neg (2 ^ n - 1) (16384 - (n:Int))),[]):=by
 refine av FE FC (z6 false) rfl ?_
 have h1:=N2 yz (n:=n) (by decide) (by omega)
 rw [pz,Nat.one_mul] at h1
 have hb:ah (2 ^ n)≤n+1:=by
  rw [bl]
  exact Nat.pow_lt_pow_right (by decide) (Nat.lt_succ_self n)
 have hl:(ap (2 ^ n)).length≤17:=aK (by omega)
 have hp:=Nat.two_pow_pos n
 have hl1:[1].length≤(ap (2 ^ n)).length:=Nat.pos_of_ne_zero fun h=>by
  have:=gB.1 (List.length_eq_zero_iff.1 h)
  omega
 have h2:=WY (aM (2 ^ n)) yz (by omega) hl1 (by rw [aF,pz]; omega)
 rw [aF,pz] at h2
 have hbt:=B3 n
 have h3:=sQ (neg:=neg) (m:=ap (2 ^ n - 1)) (e:=16384 - (n:Int)) (aM _) (Nat.le_trans (aK (k:=17) (by omega)) (by decide)) ⟨by omega,by omega⟩
 rw [aF] at h3
 have w1:IntKind.i64.wrap (16384 - (n:Int))=16384 - (n:Int):=i64_in _ ⟨by omega,by omega⟩
 generalize aU neg (2 ^ n - 1) (16384 - (n:Int))=r at h3 ⊢
 simp only [af,aj] at h3
 simp only [kN,uJ,af,aj,go_sem,↓reduceIte,amO,amQ,amP,amR,amS,o4,h1,h2,h3,w1]
def kn:Cmd := .seq (.seq (.ops [0,2,4,12,15,16,17,62] [cm 51 16,⟨(some 52),none,.call (.c (.fn F.r01_Bits [] [])) [(.t 51)]⟩,co 53 (.bin .gtr (.t 52) (.c (.v (.int .i64 0)))),cm 54 53,cg 55 54 true (.mv (.t 16)),⟨(some 56),(some (54,true)),.call (.c (.fn F.r01_Bits [] [])) [(.t 55)]⟩,cg 57 54 true (.mv (.t 2)),cg 58 54 true (.bin .add (.t 56) (.t 57)),cg 59 54 true (.mv (.t 15)),cg 60 54 true (.bin .add (.t 58) (.t 59)),cg 61 54 true (.bin .gtr (.t 60) (.c (.v (.int .i64 16384)))),co 62 (.pick (.t 54) (.t 61) (.c (.v (.bool false))))]) (.cond (.t 62) (.seq (.seq (.ops [0,4,12,63] [cm 63 17]) (.cond (.t 63) (.seq (.ops [12,13] [co 64 (.build [(.v (.bool false)),.emp,(.v (.int .i64 0))] []),⟨none,none,.store 3 (.t 12) (.t 64)⟩,co 13 (.mv (.c (.v (.int .i64 9))))]) (.ret)) (.skip))) (.seq (.ops [12,13] [cm 65 0,cm 66 4,⟨(some 67),none,.call (.c (.fn F.r03_greatest [] [])) [(.t 65),(.t 66)]⟩,⟨none,none,.store 3 (.t 12) (.t 67)⟩,co 13 (.mv (.c (.v (.int .i64 0))))]) (.ret))) (.skip))) (.seq (.ops [12,13] [cm 68 0,cm 69 16,cm 70 2,cm 71 15,co 72 (.bin .add (.t 70) (.t 71)),⟨(some 73),none,.call (.c (.fn F.r02_Of [] [])) [(.t 68),(.t 69),(.t 72)]⟩,⟨none,none,.store 3 (.t 12) (.t 73)⟩,co 13 (.mv (.c (.v (.int .i64 0))))]) (.ret))
theorem jT:GP = .seq (.ops [0,1,2,3,4,5,12] [⟨(some 12),none,.alloc [(.v (.bool false)),.emp,(.v (.int .i64 0))]⟩,co 13 (.mv (.c (.v (.int .i64 0))))]) (.seq (.ops [0,1,2,3,4,5,12] [cm 18 1,⟨(some 19),none,.call (.c (.fn F.r01_Trim [] [])) [(.t 18)]⟩,cm 1 19]) (.seq (.ops [0,1,2,3,4,5,12,14] [cm 20 1,⟨(some 21),none,.call (.c (.fn F.r01_Bits [] [])) [(.t 20)]⟩,cm 14 21]) (.seq (.ops [0,1,2,3,4,5,12,15] [cm 22 14,cm 23 4,co 24 (.bin .sub (.t 22) (.t 23)),cm 25 2,co 26 (.bin .sub (.c (.v (.int .i64 (-16384)))) (.t 25)),co 27 (.mnx false (.t 24) [(.t 26),(.c (.v (.int .i64 0)))]),cm 15 27]) (.seq (.ops [0,1,2,3,4,5,12,15,16] [cm 28 1,cm 29 15,⟨(some 30),none,.call (.c (.fn F.r01_Shr [] [])) [(.t 28),(.t 29)]⟩,cm 16 30]) (.seq (.seq (.ops [0,2,3,4,5,12,15,16,40] [cm 31 15,co 32 (.bin .gtr (.t 31) (.c (.v (.int .i64 0)))),cm 33 32,cg 34 33 true (.mv (.t 16)),cg 35 33 true (.mv (.t 15)),⟨(some 36),(some (33,true)),.call (.c (.fn F.r01_Shl [] [])) [(.t 34),(.t 35)]⟩,cg 37 33 true (.mv (.t 1)),⟨(some 38),(some (33,true)),.call (.c (.fn F.r01_Cmp [] [])) [(.t 36),(.t 37)]⟩,cg 39 33 true (.bin .neq (.t 38) (.c (.v (.int .i64 0)))),co 40 (.pick (.t 33) (.t 39) (.c (.v (.bool false))))]) (.cond (.t 40) (.ops [0,2,3,4,5,12,15,16] [co 3 (.mv (.c (.v (.bool true))))]) (.skip))) (.seq (.ops [0,2,3,4,12,15,16,17] [cm 41 0,cm 42 5,co 43 (.eqc true 0 (.t 41) (.t 42)),cm 17 43]) (.seq (.seq (.ops [0,2,4,12,15,16,17,47] [cm 44 3,cm 45 44,cg 46 45 true (.mv (.t 17)),co 47 (.pick (.t 45) (.t 46) (.c (.v (.bool false))))]) (.cond (.t 47) (.ops [0,2,4,12,15,16,17] [cm 48 16,⟨(some 49),none,.buildSl 1 [(.v (.int .u32 0))] 1 [(0,(.c (.v (.int .u32 1))))]⟩,⟨(some 50),none,.call (.c (.fn F.r01_Add [] [])) [(.t 48),(.t 49)]⟩,cm 16 50]) (.skip))) kn))))))):=rfl
theorem SR {neg out:Bool} {e:Int} {n k q:Nat} (hp:8≤n∧n≤512) (hq:ah q≤200000) (he : -100000≤e∧e≤100000) (hk:k≤200000) (s:am) (h:ac) (h0:s 0=B neg) (h2:s 2=I e) (h4:s 4=I n) (h12:s 12 = .ref 12 none 0 0 0) (h15:s 15=I k) (h16:s 16=lm (ap q)) (h17:s 17=B out)
  (k12:h 12 = .bx [.v (.bool false),.emp,.v (.int .i64 0)]) (kd:∀ i,i ≠ 12→i ≠ 49→h i = .dead) :
  eE false [[.o 0 [],.o 2 [],.o 0 []],[]] [.cell 12 3 true,.t 13] 0 (ak R (ae false) kn s h)=some (rV (we neg out n q (e+k)),[]):=by
 have hl:(ap q).length≤6250:=aK (by omega)
 have hb:=K0 (aM q) (by omega)
 rw [aF] at hb
 have w1:IntKind.i64.wrap (((ah q:Nat):Int)+e)=((ah q:Nat):Int)+e:=i64_in _ ⟨by omega,by omega⟩
 have w2:IntKind.i64.wrap (((ah q:Nat):Int)+e+(k:Int))=((ah q:Nat):Int)+e+(k:Int):=i64_in _ ⟨by omega,by omega⟩
 have w3:IntKind.i64.wrap (e+(k:Int))=e+(k:Int):=i64_in _ ⟨by omega,by omega⟩
 have ho:=sQ (neg:=neg) (m:=ap q) (e:=e+k) (aM q) (by omega) ⟨by omega,by omega⟩
 rw [aF] at ho
 have hg:=K4 (neg:=neg) hp
 unfold we
 rw [Int.toNat_natCast]
 generalize aU neg (2 ^ n - 1) (16384 - (n:Int))=g at hg ⊢
 generalize aU neg q (e+k)=o at ho ⊢
 simp only [af,aj] at hg ho
 by_cases h1:q=0
 ·have e1:(0 < ((ah q:Nat):Int))=False:=ff (by rw [h1]; decide)
  rw [if_neg (fun h=>h.1 h1)]
  simp only [kn,rV,af,aj,go_sem,↓reduceIte,amO,amQ,amP,amR,ne_eq,not_false_eq_true,h0,h2,h4,h12,h15,h16,h17,k12,kd,hb,e1,w3,ho]
 ·have hbp:=eu h1
  have e1:(0 < ((ah q:Nat):Int))=True:=tt (by omega)
  by_cases h5:16384 < ((ah q:Nat):Int)+(e+(k:Int))
  ·have e2:(16384 < ((ah q:Nat):Int)+e+(k:Int))=True:=tt (by omega)
   rw [if_pos (show q ≠ 0∧16384 < ((ah q:Nat):Int)+(e+(k:Int)) from ⟨h1,h5⟩)]
   cases out with
   | true =>
    rw [if_pos rfl]
    simp only [kn,rV,af,aj,aQ,go_sem,↓reduceIte,amO,amQ,amP,amR,ne_eq,not_false_eq_true,h0,h2,h4,h12,h15,h16,h17,k12,kd,hb,e1,e2,w1,w2]
   | false =>
    rw [if_neg Bool.false_ne_true]
    simp only [kn,rV,af,aj,go_sem,↓reduceIte,amO,amQ,amP,amR,ne_eq,not_false_eq_true,h0,h2,h4,h12,h15,h16,h17,k12,kd,hb,e1,e2,w1,w2,hg]
  ·have e2:(16384 < ((ah q:Nat):Int)+e+(k:Int))=False:=ff (by omega)
   rw [if_neg (fun h=>h5 h.2)]
   simp only [kn,rV,af,aj,go_sem,↓reduceIte,amO,amQ,amP,amR,ne_eq,not_false_eq_true,h0,h2,h4,h12,h15,h16,h17,k12,kd,hb,e1,e2,w1,w2,w3,ho]
end Go.Ab
namespace Go.Ab
open Go Go.IntWalk
set_option maxRecDepth 4000
set_option maxHeartbeats 1000000
theorem W3 {neg up:Bool} {m:List Nat} {e:Int} {n:Nat} (hb:Lb m) (hl:m.length≤1200) (he : -50000≤e∧e≤50000) (hp:8≤n∧n≤512):R F.r03_Cut [B neg,lm m,I e,B false,I n,B up] []=some (rV (mU neg (ab m) e false n up),[]):=by
 refine av RK RJ (Kd false) rfl ?_
 have hT:=nE hb (by omega)
 have la:=bN m hb
 obtain ⟨M,hM⟩:∃ M,ab m=M:=⟨_,rfl⟩
 rw [hM] at hT la ⊢
 have hbl:=sH (aM M)
 rw [aF] at hbl
 have hB:=K0 (aM M) (by omega)
 rw [aF] at hB
 have w1:IntKind.i64.wrap (((ah M:Nat):Int) - (n:Int))=((ah M:Nat):Int) - (n:Int):=i64_in _ ⟨by omega,by omega⟩
 have w2:IntKind.i64.wrap (-16384 - e) = -16384 - e:=i64_in _ ⟨by omega,by omega⟩
 obtain ⟨k,hk⟩:∃ k,B6 M e n=k:=⟨_,rfl⟩
 have hk2:(if (if ((ah M:Nat):Int) - (n:Int) < -16384 - e then -16384 - e else ((ah M:Nat):Int) - (n:Int)) < 0 then (0:Int) else (if ((ah M:Nat):Int) - (n:Int) < -16384 - e then -16384 - e else ((ah M:Nat):Int) - (n:Int)))=(k:Int):=by
  unfold B6 at hk
  split <;> split <;> omega
 have hkb:k≤100000:=by
  unfold B6 at hk
  omega
 have hS:=W1 (aM M) (n:=k) (by omega) (by omega)
 rw [aF] at hS
 have hq:ah (M / 2 ^ k)≤38400:=by
  rw [du]
  omega
 have hql:(ap (M / 2 ^ k)).length≤1200:=aK (by omega)
 have hL:=N2 (aM (M / 2 ^ k)) (n:=k) (by omega) (by omega)
 rw [aF] at hL
 have hql2:(ap (M / 2 ^ k*2 ^ k)).length≤1200:=Nat.le_trans (lF (Nat.div_mul_le_self _ _)) (by omega)
 have hC:=WW (aM (M / 2 ^ k*2 ^ k)) (aM M) (by omega) (by omega)
 rw [aF,aF] at hC
 have hA:=WX (aM (M / 2 ^ k)) yz (by omega) (by decide)
 rw [aF,pz] at hA
 have hbs:=yD (M / 2 ^ k)
 have htl:=fun (out:Bool) (q:Nat) (hq:ah q≤200000)=>SR (neg:=neg) (out:=out) (e:=e) (n:=n) (k:=k) (q:=q) hp hq ⟨by omega,by omega⟩ (by omega)
 have hdm:=Nat.div_add_mod M (2 ^ k)
 unfold mU
 rw [hk]
 generalize hout:(neg != up)=out
 unfold KO
 rw [Bool.false_or]
 by_cases hlost:M % 2 ^ k=0
 ·rw [show decide (M % 2 ^ k ≠ 0)=false from decide_eq_false (fun h=>h hlost),Bool.false_and,if_neg Bool.false_ne_true]
  have hc0:aY (M / 2 ^ k*2 ^ k) M=0:=by
   have:M / 2 ^ k*2 ^ k=M:=by rw [Nat.mul_comm]; omega
   rw [this]
   unfold aY
   rw [if_neg (Nat.lt_irrefl _),if_neg (Nat.lt_irrefl _)]
  have e2:(aY (M / 2 ^ k*2 ^ k) M=0)=True:=tt hc0
  by_cases hk0:k=0
  ·have e1:(0 < (k:Int))=False:=ff (by omega)
   simp only [jK,jT,go_sem,↓reduceIte,amO,amQ,amP,amR,amS,hT,hB,w1,w2,hk2,hS,e1,jh,hout]
   exact htl out _ (by omega) _ _ rfl rfl rfl rfl rfl rfl rfl rfl (fun i h1 h2=>by simp only [bX,h1,if_false])
  ·have e1:(0 < (k:Int))=True:=tt (by omega)
   simp only [jK,jT,go_sem,↓reduceIte,amO,amQ,amP,amR,amS,hT,hB,w1,w2,hk2,hS,e1,hL,hC,e2,jh,hout]
   exact htl out _ (by omega) _ _ rfl rfl rfl rfl rfl rfl rfl rfl (fun i h1 h2=>by simp only [bX,h1,if_false])
 ·rw [show decide (M % 2 ^ k ≠ 0)=true from decide_eq_true hlost,Bool.true_and]
  have hk0:k ≠ 0:=fun h=>by
   rw [h,Nat.pow_zero,Nat.mod_one] at hlost
   exact hlost rfl
  have e1:(0 < (k:Int))=True:=tt (by omega)
  have hc0:aY (M / 2 ^ k*2 ^ k) M = -1:=by
   unfold aY
   rw [if_pos]
   rw [Nat.mul_comm]
   omega
  have e2:(aY (M / 2 ^ k*2 ^ k) M=0)=False:=ff (by omega)
  cases out with
  | false =>
   rw [if_neg Bool.false_ne_true]
   simp only [jK,jT,go_sem,↓reduceIte,amO,amQ,amP,amR,amS,hT,hB,w1,w2,hk2,hS,e1,hL,hC,e2,jh,hout]
   exact htl false _ (by omega) _ _ rfl rfl rfl rfl rfl rfl rfl rfl (fun i h1 h2=>by simp only [bX,h1,if_false])
  | true =>
   rw [if_pos rfl]
   simp only [jK,jT,go_sem,↓reduceIte,amO,amQ,amP,amR,amS,hT,hB,w1,w2,hk2,hS,e1,hL,hC,e2,jh,hout,o4,hA]
   exact htl true _ (by omega) _ _ rfl rfl rfl rfl rfl rfl rfl rfl (fun i h1 h2=>by simp only [bX,h1,h2,if_false])
theorem yJ {d:Rd} {up:Bool} {n:Nat} (hb:Lb d.m) (hl:d.m.length≤1200) (he : -50000≤d.e∧d.e≤50000) (hp:8≤n∧n≤512):R F.r03_exact [af d,I n,B up] []=some (rV (mU d.neg (ab d.m) d.e false n up),[]):=by
 refine av MR MQ (E8 false) rfl ?_
 have hc:=W3 (neg:=d.neg) (up:=up) hb hl he hp
 generalize mU d.neg (ab d.m) d.e false n up=r at hc ⊢
 simp only [rV,af,aj] at hc
 simp only [oC,Aw,rV,af,aj,go_sem,↓reduceIte,amO,amQ,amP,amR,hc]
theorem Ca {z f p:Int} {up:Bool} (hp:8≤p∧p≤512):mU (gq z f).neg (ab (gq z f).m) (gq z f).e false p up=ji z f p up:=by
 rw [PS hp]
 unfold gq
 by_cases h0:z=0
 ·subst h0
  show ji (bq (aU _ 0 f).neg (ab (aU _ 0 f).m)) (aU _ 0 f).e p up=_
  rw [dc]
  rfl
 ·have hn:z.natAbs ≠ 0:=by omega
  obtain ⟨g1,g2,g3,g4⟩:=pA (neg:=decide (z < 0)) (e:=f) hn
  obtain ⟨h1,h2⟩:=pq hn
  rw [g1,g2]
  have hneg:(aU (decide (z < 0)) z.natAbs f).neg=decide (z < 0):=by rw [fg hn]
  rw [hneg,← GX]
  congr 1
  have h3:((z.natAbs / 2 ^ tz z.natAbs*2 ^ tz z.natAbs:Nat):Int)=z.natAbs:=by
   rw [Nat.mul_comm]
   exact congrArg Nat.cast h1.symm
  rw [Int.natCast_mul,Int.natCast_pow] at h3
  unfold bq
  by_cases h5:z < 0
  ·rw [decide_eq_true h5,if_pos rfl,Int.neg_mul]
   have h6:((z.natAbs / 2 ^ tz z.natAbs:Nat):Int)*2 ^ tz z.natAbs=z.natAbs:=h3
   rw [h6]
   omega
  ·rw [decide_eq_false h5,if_neg Bool.false_ne_true]
   have h6:((z.natAbs / 2 ^ tz z.natAbs:Nat):Int)*2 ^ tz z.natAbs=z.natAbs:=h3
   rw [h6]
   omega
theorem W4 {z f:Int} {k:Nat} (h:ah z.natAbs≤32*k) (hf : -50000≤f∧f+32*k≤50000):Lb (gq z f).m∧(gq z f).m.length≤k ∧ -50000≤(gq z f).e∧(gq z f).e≤50000:=by
 unfold gq
 refine ⟨rH _ _ _,sG h,?_⟩
 by_cases h0:z.natAbs=0
 ·rw [h0,dc]
  exact ⟨by decide,by decide⟩
 ·obtain ⟨g1,g2,g3,g4⟩:=pA (neg:=decide (z < 0)) (e:=f) h0
  rw [g2]
  omega
theorem P7 {p:Int} {d:Rd}:aZ p [d,d]=aZ p [d]:=by
 unfold aZ
 rw [List.all_cons,List.all_cons,List.all_nil,Bool.and_true,Bool.and_self]
theorem G7 {d:Rd} (ok:Ok0 d) {p:Int} {up:Bool}:R F.r03_Round [af d,I p,B up] []=some (rV (nB d p up),[]):=by
 refine av M5 M4 (Fo false) rfl ?_
 have hf:=yI ok ok (p:=p)
 rw [P7] at hf
 unfold nB
 by_cases h0:aZ p [d]=0
 ·obtain ⟨v1,hp⟩:=ix h0
  have v4:vd d=true:=by simpa using v1
  obtain ⟨h1,h2,h3,h4⟩:=cO v4 ok.lb
  rw [if_pos h0]
  rw [h0] at hf
  have hc:mU d.neg (ab d.m) d.e false p up=ji (zI d) (-16384) p up:=by
   have:=Ca (z:=zI d) (f := -16384) (up:=up) hp
   rw [ve ok v4] at this
   exact this
  obtain ⟨n,rfl⟩:=Int.eq_ofNat_of_zero_le (show 0≤p by omega)
  have he:=yJ (d:=d) (n:=n) (up:=up) ok.lb (by omega) ⟨by omega,by omega⟩ ⟨by omega,by omega⟩
  rw [hc] at he
  generalize ji (zI d) (-16384) (n:Nat) up=r at he ⊢
  simp only [rV,af,aj] at hf he
  simp only [lz,tW,rV,af,aj,go_sem,↓reduceIte,amO,amQ,amP,amR,hf,he]
 ·have e1:(aZ p [d]=0)=False:=ff h0
  rw [if_neg h0]
  simp only [af,aj] at hf
  simp only [lz,tW,rV,af,aj,aQ,go_sem,↓reduceIte,amO,amQ,amP,amR,hf,e1]
theorem DO {x y:Int} {k:Nat} (hx:ah x.natAbs≤k) (hy:ah y.natAbs≤k):ah (x+y).natAbs≤k+1:=by
 have:=sI hx hy
 refine Nat.le_trans ?_ this
 have h2:(x+y).natAbs≤x.natAbs+y.natAbs:=Int.natAbs_add_le _ _
 exact bl.2 (Nat.lt_of_le_of_lt h2 (bl.1 (Nat.le_refl _)))
theorem N5 {d:Rd} (ok:Ok0 d) (h:vd d=true):ah (zI d).natAbs≤36864:=by
 obtain ⟨h1,h2,h3,h4⟩:=cO h ok.lb
 have:(zI d).natAbs=mg d:=by
  unfold zI
  split <;> omega
 rw [this]
 by_cases h0:d.m.length=0
 ·rw [FJ h0]
  decide
 ·have:=uY h ok.lb h0
  rw [iD h h0] at this
  omega
theorem N6 {a b:Rd} (oa:Ok0 a) (ob:Ok0 b) {p:Int} {up:Bool}:R F.r03_Add [af a,af b,I p,B up] []=some (rV (iE a b p up),[]):=by
 refine av Rw Ru (JR false) rfl ?_
 have hf:=yI oa ob (p:=p)
 unfold iE
 by_cases h0:aZ p [a,b]=0
 ·obtain ⟨v1,hp⟩:=ix h0
  have v4:vd a=true∧vd b=true:=by simpa using v1
  rw [if_pos h0]
  rw [h0] at hf
  have hs:=N4 oa ob v4.1 v4.2
  have hb:=DO (N5 oa v4.1) (N5 ob v4.2)
  obtain ⟨b1,b2,b3⟩:=W4 (z:=zI a+zI b) (f := -16384) (k:=1153) (by omega) ⟨by decide,by decide⟩
  have hc:=Ca (z:=zI a+zI b) (f := -16384) (up:=up) hp
  obtain ⟨n,rfl⟩:=Int.eq_ofNat_of_zero_le (show 0≤p by omega)
  have he:=yJ (d:=gq (zI a+zI b) (-16384)) (n:=n) (up:=up) b1 (by omega) b3 ⟨by omega,by omega⟩
  rw [hc] at he
  generalize gq (zI a+zI b) (-16384)=sm at hs he
  generalize ji (zI a+zI b) (-16384) (n:Nat) up=r at he ⊢
  simp only [rV,af,aj] at hf hs he
  simp only [ot,xU,rV,af,aj,go_sem,↓reduceIte,amO,amQ,amP,amR,hf,hs,he]
 ·have e1:(aZ p [a,b]=0)=False:=ff h0
  rw [if_neg h0]
  simp only [af,aj] at hf
  simp only [ot,xU,rV,af,aj,aQ,go_sem,↓reduceIte,amO,amQ,amP,amR,hf,e1]
theorem SS {a b:Rd} (oa:Ok0 a) (ob:Ok0 b) (va:vd a=true) (vb:vd b=true):aU (a.neg != b.neg) (ab a.m*ab b.m) (a.e+b.e)=gq (zI a*zI b) (-32768):=by
 obtain ⟨a1,a2,a3,a4⟩:=cO va oa.lb
 obtain ⟨b1,b2,b3,b4⟩:=cO vb ob.lb
 have hz:zI a*zI b=bq (a.neg != b.neg) (mg a*mg b):=by
  unfold zI bq
  cases a.neg <;> cases b.neg <;> simp [Int.mul_neg,Int.neg_mul]
 have hm:mg a*mg b=ab a.m*ab b.m*2 ^ ((a.e+16384).toNat+(b.e+16384).toNat):=by
  unfold mg
  rw [Nat.pow_add]
  ac_rfl
 rw [hz,← FR,hm,rC,show -32768+(((a.e+16384).toNat+(b.e+16384).toNat:Nat):Int)=a.e+b.e by omega]
theorem rK {a b:Rd} (oa:Ok0 a) (ob:Ok0 b) {p:Int} {up:Bool}:R F.r03_Mul [af a,af b,I p,B up] []=some (rV (aO a b p up),[]):=by
 refine av Rs Rr (JQ false) rfl ?_
 have hf:=yI oa ob (p:=p)
 unfold aO
 by_cases h0:aZ p [a,b]=0
 ·obtain ⟨v1,hp⟩:=ix h0
  have v4:vd a=true∧vd b=true:=by simpa using v1
  obtain ⟨a1,a2,a3,a4⟩:=cO v4.1 oa.lb
  obtain ⟨b1,b2,b3,b4⟩:=cO v4.2 ob.lb
  rw [if_pos h0]
  rw [h0] at hf
  have hs:=Nf oa ob v4.1 v4.2
  have hpb:=oZ (ab a.m) (ab b.m)
  have hc:=Ca (z:=zI a*zI b) (f := -32768) (up:=up) hp
  have hlb:=rH (a.neg != b.neg) (ab a.m*ab b.m) (a.e+b.e)
  have hln:(aU (a.neg != b.neg) (ab a.m*ab b.m) (a.e+b.e)).m.length≤256:=sG (by omega)
  have hee : -50000≤(aU (a.neg != b.neg) (ab a.m*ab b.m) (a.e+b.e)).e∧(aU (a.neg != b.neg) (ab a.m*ab b.m) (a.e+b.e)).e≤50000:=by
   by_cases hz:ab a.m*ab b.m=0
   ·rw [hz,dc]
    exact ⟨by decide,by decide⟩
   ·obtain ⟨g1,g2,g3,g4⟩:=pA (neg:=a.neg != b.neg) (e:=a.e+b.e) hz
    rw [g2]
    omega
  rw [← SS oa ob v4.1 v4.2] at hc
  obtain ⟨n,rfl⟩:=Int.eq_ofNat_of_zero_le (show 0≤p by omega)
  have he:=yJ (d:=aU (a.neg != b.neg) (ab a.m*ab b.m) (a.e+b.e)) (n:=n) (up:=up) hlb (by omega) hee ⟨by omega,by omega⟩
  rw [hc] at he
  generalize aU (a.neg != b.neg) (ab a.m*ab b.m) (a.e+b.e)=sm at hs he
  generalize ji (zI a*zI b) (-32768) (n:Nat) up=r at he ⊢
  simp only [rV,af,aj] at hf hs he
  simp only [oq,xT,rV,af,aj,go_sem,↓reduceIte,amO,amQ,amP,amR,hf,hs,he]
 ·have e1:(aZ p [a,b]=0)=False:=ff h0
  rw [if_neg h0]
  simp only [af,aj] at hf
  simp only [oq,xT,rV,af,aj,aQ,go_sem,↓reduceIte,amO,amQ,amP,amR,hf,e1]
end Go.Ab
namespace Go.Ab
open Go Go.IntWalk
set_option maxRecDepth 4000
set_option maxHeartbeats 2000000
theorem vf {a b:Rd} {p:Int} {up:Bool}:vd (aO a b p up).1=true:=by
 unfold aO
 split
 ·exact u3.1
 ·exact bw.1
theorem N7 {a b:Rd} {p:Int} {up:Bool}:vd (iE a b p up).1=true:=by
 unfold iE
 split
 ·exact u3.1
 ·exact bw.1
theorem W5 {d:Rd} {p:Int} {up:Bool}:vd (nB d p up).1=true:=by
 unfold nB
 split
 ·exact u3.1
 ·exact bw.1
theorem YX {d:Rd} {p:Int} {up:Bool}:∀ (k:Nat) (r:Rd × Int),vd r.1=true→vd (cQ d p up k r).1=true:=by
 intro k
 induction k with
 | zero=>exact fun r h=>h
 | succ k ih =>
  intro r h
  unfold cQ
  split
  ·exact ih _ vf
  ·exact h
theorem VF {d:Rd} {n:Nat} {p:Int} {up:Bool}:vd (pw d n p up).1=true:=YX _ _ W5
theorem K5 {d:Rd}:R F.r05_zero [af d] []=some (B (z0 d),[]):=by
 refine av Pm Pk (HB false) rfl ?_
 unfold z0
 cases hn:d.neg with
 | true=>simp only [iB,ow,af,aj,go_sem,↓reduceIte,amO,amQ,amP,hn,Bool.not_true,Bool.false_and]
 | false =>
  by_cases h1:d.m.length=0
  ·have e1:((d.m.length:Int)=0)=True:=tt (by omega)
   by_cases h2:d.e=0
   ·have e2:(d.e=0)=True:=tt h2
    rw [decide_eq_true h1,decide_eq_true h2]
    simp only [iB,ow,af,aj,go_sem,↓reduceIte,amO,amQ,amP,hn,e1,e2,Bool.not_false,Bool.true_and]
   ·have e2:(d.e=0)=False:=ff h2
    rw [decide_eq_true h1,decide_eq_false h2]
    simp only [iB,ow,af,aj,go_sem,↓reduceIte,amO,amQ,amP,hn,e1,e2,Bool.not_false,Bool.true_and]
  ·have e1:((d.m.length:Int)=0)=False:=ff (by omega)
   rw [decide_eq_false h1]
   simp only [iB,ow,af,aj,go_sem,↓reduceIte,amO,amQ,amP,hn,e1,Bool.not_false,Bool.true_and,Bool.false_and]
theorem G8 {x:Ri} (ok:OkI x):R F.r05_Valid [ax x] []=some (B (vi x),[]):=by
 refine av MA Mz (EU false) rfl ?_
 unfold vi
 have zl:=K5 (d:=x.lo)
 have zh:=K5 (d:=x.hi)
 have vl:=qz ok.lo
 have vh:=qz ok.hi
 simp only [af,aj] at zl zh vl vh
 cases ha:x.all with
 | true =>
  rw [if_pos rfl]
  cases h1:z0 x.lo with
  | true =>
   rw [h1] at zl
   simp only [fy,ke,ax,az,go_sem,↓reduceIte,amO,amQ,amP,amR,ha,zl,zh,Bool.true_and]
  | false =>
   rw [h1] at zl
   simp only [fy,ke,ax,az,go_sem,↓reduceIte,amO,amQ,amP,amR,ha,zl,Bool.false_and]
 | false =>
  rw [if_neg Bool.false_ne_true]
  cases h1:vd x.lo with
  | false =>
   rw [h1] at vl
   simp only [fy,ke,ax,az,go_sem,↓reduceIte,amO,amQ,amP,amR,ha,vl,Bool.false_and]
  | true =>
   rw [h1] at vl
   cases h2:vd x.hi with
   | false =>
    rw [h2] at vh
    simp only [fy,ke,ax,az,go_sem,↓reduceIte,amO,amQ,amP,amR,ha,vl,vh,Bool.true_and,Bool.false_and]
   | true =>
    rw [h2] at vh
    have hc:=FS ok.lo ok.hi h1 h2
    simp only [af,aj] at hc
    simp only [fy,ke,ax,az,go_sem,↓reduceIte,amO,amQ,amP,amR,ha,vl,vh,hc,NU,Bool.true_and]
theorem jr:R F.r05_Whole [] []=some (ax jj,[]):=by
 refine av Ms Mr (EQ false) rfl ?_
 simp only [oj,At,ax,az,jj,aQ,go_sem,↓reduceIte,amO,amQ,amP,amR]
theorem yK {d:Rd}:R F.r05_Point [af d] []=some (ax ⟨d,d,false⟩,[]):=by
 refine av Mu Mt (ER false) rfl ?_
 simp only [om,Au,af,aj,ax,az,go_sem,↓reduceIte,amO,amQ,amP,amR]
theorem Cb {p:Int}:R F.r05_Prec [I p] []=some (B (ey p),[]):=by
 refine av Pd Pc (Hv false) rfl ?_
 unfold ey
 by_cases h1:8≤p
 ·have e1:(8≤p)=True:=tt h1
  simp only [mL,vJ,go_sem,↓reduceIte,amO,e1,decide_true,Bool.true_and]
 ·have e1:(8≤p)=False:=ff h1
  simp only [mL,vJ,go_sem,↓reduceIte,amO,e1,decide_false,Bool.false_and]
theorem lG {x:Ri} (ok:OkI x):R F.r05_known [ax x] []=some (B (kI x),[]):=by
 refine av ME MD (E0 false) rfl ?_
 have hv:=G8 ok
 simp only [ax,az] at hv
 unfold kI
 cases h1:vi x with
 | false =>
  rw [h1] at hv
  rw [Bool.and_false]
  simp only [lr,tP,ax,az,go_sem,↓reduceIte,amO,amQ,amP,amR,hv]
 | true =>
  rw [h1] at hv
  rw [Bool.and_true]
  simp only [lr,tP,ax,az,go_sem,↓reduceIte,amO,amQ,amP,amR,hv]
theorem sR {a b:Rd} {e f:Int}:R F.r05_made [af a,I e,af b,I f] []=some (ax (fp (a,e) (b,f)),[]):=by
 refine av Pj Pi (Hy false) rfl ?_
 have hw:=jr
 simp only [ax,az] at hw
 unfold fp
 by_cases h1:e=0
 ·have e1:(e=0)=True:=tt h1
  by_cases h2:f=0
  ·have e2:(f=0)=True:=tt h2
   rw [if_pos ⟨h1,h2⟩]
   simp only [kh,rm,af,aj,ax,az,go_sem,↓reduceIte,amO,amQ,amP,amR,e1,e2]
  ·have e2:(f=0)=False:=ff h2
   rw [if_neg (fun h=>h2 h.2)]
   simp only [kh,rm,af,aj,ax,az,go_sem,↓reduceIte,amO,amQ,amP,amR,e1,e2,hw]
 ·have e1:(e=0)=False:=ff h1
  rw [if_neg (fun h=>h1 h.1)]
  simp only [kh,rm,af,aj,ax,az,go_sem,↓reduceIte,amO,amQ,amP,amR,e1,hw]
theorem UO (x y:Ri) (p:Int):qQ x y p=if (ey p && kI x && kI y)=true then fp (iE x.lo y.lo p false) (iE x.hi y.hi p true) else jj:=by
 unfold qQ
 cases ey p <;> cases kI x <;> cases kI y <;> rfl
theorem W6 {x y:Ri} (ox:OkI x) (oy:OkI y) {p:Int}:R F.r05_Add [ax x,ax y,I p] []=some (ax (qQ x y p),[]):=by
 refine av Rl Rk (JN false) rfl ?_
 rw [UO]
 have hkx:=lG ox
 have hky:=lG oy
 have hp:=Cb (p:=p)
 have hw:=jr
 have hd:=N6 ox.lo oy.lo (p:=p) (up:=false)
 have hu:=N6 ox.hi oy.hi (p:=p) (up:=true)
 generalize iE x.lo y.lo p false=r at hd ⊢
 generalize iE x.hi y.hi p true=q at hu ⊢
 obtain ⟨r1,r2⟩:=r
 obtain ⟨q1,q2⟩:=q
 have hm:=sR (a:=r1) (b:=q1) (e:=r2) (f:=q2)
 generalize fp (r1,r2) (q1,q2)=z at hm ⊢
 simp only [ax,az,rV,af,aj] at hkx hky hw hd hu hm
 cases h2:ey p with
 | false =>
  rw [h2] at hp
  rw [Bool.false_and,Bool.false_and,if_neg Bool.false_ne_true]
  simp only [jC,qf,ax,az,go_sem,↓reduceIte,amO,amQ,amP,amR,hp,hw]
 | true =>
  rw [h2] at hp
  rw [Bool.true_and]
  cases h1:kI x with
  | false =>
   rw [h1] at hkx
   rw [Bool.false_and,if_neg Bool.false_ne_true]
   simp only [jC,qf,ax,az,go_sem,↓reduceIte,amO,amQ,amP,amR,hp,hkx,hw]
  | true =>
   rw [h1] at hkx
   rw [Bool.true_and]
   cases h3:kI y with
   | false =>
    rw [h3] at hky
    rw [if_neg Bool.false_ne_true]
    simp only [jC,qf,ax,az,go_sem,↓reduceIte,amO,amQ,amP,amR,hp,hkx,hky,hw]
   | true =>
    rw [h3] at hky
    rw [if_pos rfl]
    simp only [jC,qf,ax,az,go_sem,↓reduceIte,amO,amQ,amP,amR,hp,hkx,hky,hd,hu,hm]
theorem G9 {a b:Rd} (oa:Ok0 a) (ob:Ok0 b) (va:vd a=true) (vb:vd b=true):R F.r05_least [af a,af b] []=some (af (fP a b),[]):=by
 refine av MG MF (E1 false) rfl ?_
 have hc:=FS oa ob va vb
 have hcc:ce a b=bp (zI a) (zI b):=by unfold ce; rw [if_pos ⟨va,vb⟩]
 rw [← hcc] at hc
 simp only [af,aj] at hc
 unfold fP
 by_cases h:ce a b≤0
 ·have e1:(ce a b≤0)=True:=tt h
  rw [if_pos h]
  simp only [ls,tQ,af,aj,go_sem,↓reduceIte,amO,amQ,amP,amR,hc,e1]
 ·have e1:(ce a b≤0)=False:=ff h
  rw [if_neg h]
  simp only [ls,tQ,af,aj,go_sem,↓reduceIte,amO,amQ,amP,amR,hc,e1]
theorem wj {a b:Rd} (oa:Ok0 a) (ob:Ok0 b) (va:vd a=true) (vb:vd b=true):R F.r05_most [af a,af b] []=some (af (fq a b),[]):=by
 refine av Ph Pg (Hx false) rfl ?_
 have hc:=FS oa ob va vb
 have hcc:ce a b=bp (zI a) (zI b):=by unfold ce; rw [if_pos ⟨va,vb⟩]
 rw [← hcc] at hc
 simp only [af,aj] at hc
 unfold fq
 by_cases h:0≤ce a b
 ·have e1:(0≤ce a b)=True:=tt h
  rw [if_pos h]
  simp only [mM,vK,af,aj,go_sem,↓reduceIte,amO,amQ,amP,amR,hc,e1]
 ·have e1:(0≤ce a b)=False:=ff h
  rw [if_neg h]
  simp only [mM,vK,af,aj,go_sem,↓reduceIte,amO,amQ,amP,amR,hc,e1]
def P8 (x y:Ri):List (List AV):=[[B x.lo.neg,lm x.lo.m,I x.lo.e,B y.lo.neg,lm y.lo.m,I y.lo.e],[B x.lo.neg,lm x.lo.m,I x.lo.e,B y.hi.neg,lm y.hi.m,I y.hi.e],[B x.hi.neg,lm x.hi.m,I x.hi.e,B y.lo.neg,lm y.lo.m,I y.lo.e],[B x.hi.neg,lm x.hi.m,I x.hi.e,B y.hi.neg,lm y.hi.m,I y.hi.e]]
theorem UP {x y:Ri}:R F.r05_ends [ax x,ax y] []=some (.sl 6 (P8 x y),[]):=by
 refine av Pf Pe (Hw false) rfl ?_
 simp only [pP,CT,ax,az,P8,go_sem,↓reduceIte,amO,amQ,amP,amR,amS,List.map_cons,List.map_nil]
theorem rL {a b:Rd} (va:vd a=true) (vb:vd b=true):ce a b=bp (zI a) (zI b):=by unfold ce; rw [if_pos ⟨va,vb⟩]
theorem YY (x y:Int):(bp x y = -1∧bp y x=1)∨(bp x y=1∧bp y x = -1)∨(bp x y=0∧bp y x=0):=by
 unfold bp
 rcases Int.lt_trichotomy x y with h | h | h
 ·exact Or.inl ⟨if_pos h,by rw [if_neg (by omega),if_pos h]⟩
 ·subst h
  exact Or.inr (Or.inr ⟨by rw [if_neg (Int.lt_irrefl _)]; exact if_neg (Int.lt_irrefl _),by rw [if_neg (Int.lt_irrefl _)]; exact if_neg (Int.lt_irrefl _)⟩)
 ·exact Or.inr (Or.inl ⟨by rw [if_neg (by omega),if_pos h],if_pos h⟩)
theorem ST {a b:Rd} (va:vd a=true) (vb:vd b=true):(if ce a b < 0 then a else b)=fP b a:=by
 unfold fP
 rw [rL va vb,rL vb va]
 rcases YY (zI a) (zI b) with ⟨h1,h2⟩ | ⟨h1,h2⟩ | ⟨h1,h2⟩ <;> rw [h1,h2] <;> rfl
theorem SU {a b:Rd} (va:vd a=true) (vb:vd b=true):(if 0 < ce a b then a else b)=fq b a:=by
 unfold fq
 rw [rL va vb,rL vb va]
 rcases YY (zI a) (zI b) with ⟨h1,h2⟩ | ⟨h1,h2⟩ | ⟨h1,h2⟩ <;> rw [h1,h2] <;> rfl
theorem P9 {a:Rd}:fP a a=a:=by unfold fP; split <;> rfl
theorem Qa {a:Rd}:fq a a=a:=by unfold fq; split <;> rfl
theorem Cc {a b:Rd} (va:vd a=true) (vb:vd b=true):vd (fP a b)=true:=by
 unfold fP
 split
 ·exact va
 ·exact vb
theorem sT {a b:Rd} (va:vd a=true) (vb:vd b=true):vd (fq a b)=true:=by
 unfold fq
 split
 ·exact va
 ·exact vb
def wk (x:Option (Ex × St)) (o:Option (Rd × Rd)):Prop:=match o with
 | some q=>∃ hh,x=some (.normal,⟨upd (upd (fun _ => .any) 8 (.ref 8 none 0 0 0)) 6 (.ref 6 none 0 0 0),hh⟩)∧hh 6 = .bx [.v (.bool false),.emp,.v (.int .i64 0),.v (.bool false),.emp,.v (.int .i64 0),.v (.bool false)]∧hh 8 = .bx (az ⟨q.1,q.2,false⟩)
 | none=>∃ hh,x=some (.ret,⟨upd (fun _ => .any) 6 (.ref 6 none 0 0 0),hh⟩)∧hh 6 = .bx (az jj)
theorem SV {p:Int} {E:List (List AV)} {pr:Nat→Rd × Rd} (hidx:∀ i:Nat,i < 4→aV E i=some (.ipt [B (pr i).1.neg,lm (pr i).1.m,I (pr i).1.e,B (pr i).2.neg,lm (pr i).2.m,I (pr i).2.e]))
  (hok:∀ i,Ok0 (pr i).1∧Ok0 (pr i).2):∀ (k i:Nat),i+k=4→1≤i→∀ (lo hi:Rd) (s:am) (h:ac),Ok0 lo→Ok0 hi→vd lo=true→vd hi=true→s 2=I p→s 6 = .ref 6 none 0 0 0→s 7 = .sl 6 E→s 8 = .ref 8 none 0 0 0→s 9=I i →
  h 6 = .bx [.v (.bool false),.emp,.v (.int .i64 0),.v (.bool false),.emp,.v (.int .i64 0),.v (.bool false)]→h 8 = .bx (az ⟨lo,hi,false⟩) →
  wk (au 0 [6,8] (aq (ak R (ae false) ct) [2,6,7,8,9] [6,8] s h)) (jS (fun a b=>aO a b p false) (fun a b=>aO a b p true) pr k i (lo,hi)):=by
 intro k
 induction k with
 | zero =>
  intro i hi4 h1 lo hi s h olo ohi vlo vhi h2 h6 h7 h8 h9 k6 k8
  have e1:((i:Int) < 4)=False:=ff (by omega)
  simp only [az] at k8
  rw [ao]
  refine ⟨?hh,?_,?_,?_⟩
  rotate_left
  ·simp only [ct,go_sem,↓reduceIte,amO,amT,h2,h6,h7,h8,h9,k6,k8,e1]
   rfl
  ·rfl
  ·rfl
 | succ k ih =>
  intro i hi4 h1 lo hi s h olo ohi vlo vhi h2 h6 h7 h8 h9 k6 k8
  have e1:((i:Int) < 4)=True:=tt (by omega)
  have e0:((i:Int)=0)=False:=ff (by omega)
  have ei:=hidx i (by omega)
  have e5:IntKind.i64.wrap ((i:Int)+1)=((i+1:Nat):Int):=wi (by omega) (by omega)
  have hd:=rK (hok i).1 (hok i).2 (p:=p) (up:=false)
  have hu:=rK (hok i).1 (hok i).2 (p:=p) (up:=true)
  have hw:=jr
  have okd:=fh (a:=(pr i).1) (b:=(pr i).2) (p:=p) (up:=false)
  have oku:=fh (a:=(pr i).1) (b:=(pr i).2) (p:=p) (up:=true)
  have vdd:=vf (a:=(pr i).1) (b:=(pr i).2) (p:=p) (up:=false)
  have vdu:=vf (a:=(pr i).1) (b:=(pr i).2) (p:=p) (up:=true)
  have c1:=G9 olo okd vlo vdd
  have c2:=wj ohi oku vhi vdu
  have ih':=ih (i+1) (by omega) (by omega)
  have x1:=ST vdd vlo
  have x2:=SU vdu vhi
  unfold jS
  simp only [az] at k8
  show wk _ (if (aO (pr i).1 (pr i).2 p false).2=0∧(aO (pr i).1 (pr i).2 p true).2=0 then jS (fun a b=>aO a b p false) (fun a b=>aO a b p true) pr k (i+1) (if ce (aO (pr i).1 (pr i).2 p false).1 lo < 0 then (aO (pr i).1 (pr i).2 p false).1 else lo,if 0 < ce (aO (pr i).1 (pr i).2 p true).1 hi then (aO (pr i).1 (pr i).2 p true).1 else hi) else none)
  rw [x1,x2]
  clear x1 x2
  generalize aO (pr i).1 (pr i).2 p false=r at hd okd vdd c1 ⊢
  generalize aO (pr i).1 (pr i).2 p true=q at hu oku vdu c2 ⊢
  obtain ⟨r1,r2⟩:=r
  obtain ⟨q1,q2⟩:=q
  show wk _ (if r2=0∧q2=0 then jS (fun a b=>aO a b p false) (fun a b=>aO a b p true) pr k (i+1) (fP lo r1,fq hi q1) else none)
  have ol:=B8 olo okd
  have oh:=sL ohi oku
  have vl:=Cc vlo vdd
  have vh:=sT vhi vdu
  generalize fP lo r1=nl at c1 ol vl ⊢
  generalize fq hi q1=nh at c2 oh vh ⊢
  simp only [rV,af,aj,ax,az,jj,aQ] at hd hu hw c1 c2
  rw [ao]
  generalize aq _ _ _=L at ih' ⊢
  by_cases hr:r2=0
  ·have er:(r2=0)=True:=tt hr
   by_cases hq:q2=0
   ·have eq:(q2=0)=True:=tt hq
    rw [if_pos (show r2=0∧q2=0 from ⟨hr,hq⟩)]
    simp only [ct,Int.cast_ofNat_Int,go_sem,↓reduceIte,amO,amQ,amP,amR,amS,amU,amW,amV,amT,h2,h6,h7,h8,h9,k6,k8,e1,e0,ei,hd,hu,er,eq,c1,c2,e5]
    exact ih' nl nh _ _ ol oh vl vh rfl rfl rfl rfl rfl rfl rfl
   ·have eq:(q2=0)=False:=ff hq
    rw [if_neg (show ¬(r2=0∧q2=0) from fun h=>hq h.2)]
    refine ⟨?hh1,?_,?_⟩
    rotate_left
    ·simp only [ct,Int.cast_ofNat_Int,go_sem,↓reduceIte,amO,amQ,amP,amR,amS,amU,amW,amV,amT,h2,h6,h7,h8,h9,k6,k8,e1,ei,hd,hu,er,eq,hw]
     rfl
    ·rfl
  ·have er:(r2=0)=False:=ff hr
   rw [if_neg (show ¬(r2=0∧q2=0) from fun h=>hr h.1)]
   refine ⟨?hh2,?_,?_⟩
   rotate_left
   ·simp only [ct,Int.cast_ofNat_Int,go_sem,↓reduceIte,amO,amQ,amP,amR,amS,amU,amW,amV,amT,h2,h6,h7,h8,h9,k6,k8,e1,ei,hd,hu,er,hw]
    rfl
   ·rfl
theorem Qb {p:Int} {E:List (List AV)} {pr:Nat→Rd × Rd} (hidx:∀ i:Nat,i < 4→aV E i=some (.ipt [B (pr i).1.neg,lm (pr i).1.m,I (pr i).1.e,B (pr i).2.neg,lm (pr i).2.m,I (pr i).2.e]))
  (hok:∀ i,Ok0 (pr i).1∧Ok0 (pr i).2) (s:am) (h:ac) (h2:s 2=I p) (h6:s 6 = .ref 6 none 0 0 0) (h7:s 7 = .sl 6 E) (h8:s 8 = .ref 8 none 0 0 0) (h9:s 9=I 0)
  (k6:h 6 = .bx [.v (.bool false),.emp,.v (.int .i64 0),.v (.bool false),.emp,.v (.int .i64 0),.v (.bool false)]) (k8:h 8 = .bx [.v (.bool false),.emp,.v (.int .i64 0),.v (.bool false),.emp,.v (.int .i64 0),.v (.bool false)]) :
  wk (au 0 [6,8] (aq (ak R (ae false) ct) [2,6,7,8,9] [6,8] s h)) (kP (fun a b=>aO a b p false) (fun a b=>aO a b p true) pr):=by
 have ei:=hidx 0 (by decide)
 simp only [Int.natCast_zero] at ei
 have hd:=rK (hok 0).1 (hok 0).2 (p:=p) (up:=false)
 have hu:=rK (hok 0).1 (hok 0).2 (p:=p) (up:=true)
 have hw:=jr
 have okd:=fh (a:=(pr 0).1) (b:=(pr 0).2) (p:=p) (up:=false)
 have oku:=fh (a:=(pr 0).1) (b:=(pr 0).2) (p:=p) (up:=true)
 have vdd:=vf (a:=(pr 0).1) (b:=(pr 0).2) (p:=p) (up:=false)
 have vdu:=vf (a:=(pr 0).1) (b:=(pr 0).2) (p:=p) (up:=true)
 have ih':=SV (p:=p) (E:=E) (pr:=pr) hidx hok 3 1 rfl (by decide)
 unfold kP
 show wk _ (if (aO (pr 0).1 (pr 0).2 p false).2=0∧(aO (pr 0).1 (pr 0).2 p true).2=0 then jS (fun a b=>aO a b p false) (fun a b=>aO a b p true) pr 3 1 ((aO (pr 0).1 (pr 0).2 p false).1,(aO (pr 0).1 (pr 0).2 p true).1) else none)
 generalize aO (pr 0).1 (pr 0).2 p false=r at hd okd vdd ⊢
 generalize aO (pr 0).1 (pr 0).2 p true=q at hu oku vdu ⊢
 obtain ⟨r1,r2⟩:=r
 obtain ⟨q1,q2⟩:=q
 have c1:=G9 (a:=r1) (b:=r1) okd okd vdd vdd
 have c2:=wj (a:=q1) (b:=q1) oku oku vdu vdu
 rw [P9] at c1
 rw [Qa] at c2
 show wk _ (if r2=0∧q2=0 then jS (fun a b=>aO a b p false) (fun a b=>aO a b p true) pr 3 1 (r1,q1) else none)
 simp only [rV,af,aj,ax,az,jj,aQ] at hd hu hw c1 c2
 rw [ao]
 generalize aq _ _ _=L at ih' ⊢
 have e6:IntKind.i64.wrap (0+1)=1:=rfl
 by_cases hr:r2=0
 ·have er:(r2=0)=True:=tt hr
  by_cases hq:q2=0
  ·have eq:(q2=0)=True:=tt hq
   rw [if_pos (show r2=0∧q2=0 from ⟨hr,hq⟩)]
   simp only [ct,Int.cast_ofNat_Int,go_sem,↓reduceIte,amO,amQ,amP,amR,amS,amU,amW,amV,amT,h2,h6,h7,h8,h9,k6,k8,ei,hd,hu,er,eq,c1,c2,e6]
   exact ih' r1 q1 _ _ okd oku vdd vdu rfl rfl rfl rfl rfl rfl rfl
  ·have eq:(q2=0)=False:=ff hq
   rw [if_neg (show ¬(r2=0∧q2=0) from fun h=>hq h.2)]
   refine ⟨?hh1,?_,?_⟩
   rotate_left
   ·simp only [ct,Int.cast_ofNat_Int,go_sem,↓reduceIte,amO,amQ,amP,amR,amS,amU,amW,amV,amT,h2,h6,h7,h8,h9,k6,k8,ei,hd,hu,er,eq,hw]
    rfl
   ·rfl
 ·have er:(r2=0)=False:=ff hr
  rw [if_neg (show ¬(r2=0∧q2=0) from fun h=>hr h.1)]
  refine ⟨?hh2,?_,?_⟩
  rotate_left
  ·simp only [ct,Int.cast_ofNat_Int,go_sem,↓reduceIte,amO,amQ,amP,amR,amS,amU,amW,amV,amT,h2,h6,h7,h8,h9,k6,k8,ei,hd,hu,er,hw]
   rfl
  ·rfl
theorem UQ (x y:Ri) (p:Int):pB x y p=if (ey p && kI x && kI y)=true then wU (kP (fun a b=>aO a b p false) (fun a b=>aO a b p true) (pc x y)) else jj:=by
 unfold pB
 cases ey p <;> cases kI x <;> cases kI y <;> rfl
theorem N8 {x y:Ri} (ox:OkI x) (oy:OkI y) {p:Int}:R F.r05_Mul [ax x,ax y,I p] []=some (ax (pB x y p),[]):=by
 refine av Rj Rh (JM false) rfl ?_
 rw [UQ]
 have hkx:=lG ox
 have hky:=lG oy
 have hp:=Cb (p:=p)
 have hw:=jr
 have he:=UP (x:=x) (y:=y)
 obtain ⟨E,hE⟩:∃ E,P8 x y=E:=⟨_,rfl⟩
 have hidx:∀ i:Nat,i < 4→aV E i=some (.ipt [B (pc x y i).1.neg,lm (pc x y i).1.m,I (pc x y i).1.e,B (pc x y i).2.neg,lm (pc x y i).2.m,I (pc x y i).2.e]):=fun i hi=>by
  rw [← hE]
  match i,hi with
  | 0,_=>rfl
  | 1,_=>rfl
  | 2,_=>rfl
  | 3,_=>rfl
 rw [hE] at he
 have hf:=Qb (p:=p) hidx (Sp ox oy)
 clear hE hidx
 generalize hLL:aq (ak R (ae false) ct) [2,6,7,8,9] [6,8]=L at hf
 have hX:∀ s h,ak R (ae false) (.loop [2,6,7,8,9] [6,8] ct) s h=L s h:=fun s h=>by rw [← hLL]; rfl
 clear hLL
 generalize kP (fun a b=>aO a b p false) (fun a b=>aO a b p true) (pc x y)=o at hf ⊢
 have hf2:∀ (S:am) (H:ac) (X:Option (Ex × St)),au 0 [6,8] (L S H)=X→S 2=I p→S 6 = .ref 6 none 0 0 0→S 7 = .sl 6 E→S 8 = .ref 8 none 0 0 0→S 9=I 0 →
  H 6 = .bx [.v (.bool false),.emp,.v (.int .i64 0),.v (.bool false),.emp,.v (.int .i64 0),.v (.bool false)]→H 8 = .bx [.v (.bool false),.emp,.v (.int .i64 0),.v (.bool false),.emp,.v (.int .i64 0),.v (.bool false)]→wk X o:=fun S H X hX=>by
  rw [← hX]
  exact hf S H
 simp only [ax,az] at hkx hky hw he
 cases h2:ey p with
 | false =>
  rw [h2] at hp
  rw [Bool.false_and,Bool.false_and,if_neg Bool.false_ne_true]
  simp only [jB,qe,ax,az,go_sem,↓reduceIte,amO,amQ,amP,amR,hp,hw]
 | true =>
  rw [h2] at hp
  rw [Bool.true_and]
  cases h1:kI x with
  | false =>
   rw [h1] at hkx
   rw [Bool.false_and,if_neg Bool.false_ne_true]
   simp only [jB,qe,ax,az,go_sem,↓reduceIte,amO,amQ,amP,amR,hp,hkx,hw]
  | true =>
   rw [h1] at hkx
   rw [Bool.true_and]
   cases h3:kI y with
   | false =>
    rw [h3] at hky
    rw [if_neg Bool.false_ne_true]
    simp only [jB,qe,ax,az,go_sem,↓reduceIte,amO,amQ,amP,amR,hp,hkx,hky,hw]
   | true =>
    rw [h3] at hky
    rw [if_pos rfl]
    simp only [jB,qe,hX,ax,az,go_sem,↓reduceIte,amO,amQ,amP,amR,hp,hkx,hky,he]
    generalize hB:au 0 [6,8] (L _ _)=X
    have hg:=hf2 _ _ _ hB rfl rfl rfl rfl rfl rfl rfl
    cases o with
    | none =>
     obtain ⟨hh,g1,g2⟩:=hg
     rw [g1]
     simp only [az,jj,aQ] at g2
     simp only [wU,jj,aQ,g2,go_sem,↓reduceIte,amQ,amP,amR]
    | some q =>
     obtain ⟨hh,g1,g2,g3⟩:=hg
     rw [g1]
     simp only [az] at g2 g3
     simp only [wU,g2,g3,go_sem,↓reduceIte,amO,amQ,amP,amR]
end Go.Ab
namespace Go.Ab
open Go Go.IntWalk
set_option maxRecDepth 4000
set_option maxHeartbeats 1000000
theorem Qc {d:Rd} (ok:Ok0 d) {p:Int} {n:Nat} (hn:n≤100000):∀ (k i:Nat),i+k=n→∀ (r:Rd × Int),Ok0 r.1→∀ (s:am) (h:ac),s 1=I n→s 2=I p→s 3 = .ref 3 none 0 0 0→s 6 = .ref 6 none 0 0 0→s 8 = .ref 8 none 0 0 0→s 9=I r.2→s 10=I i →
  h 3 = .bx (aj d)→h 6 = .bx [.v (.bool false),.emp,.v (.int .i64 0)]→h 8 = .bx (aj r.1) →
  ∃ hh,au 0 [6,8,9] (aq (ak R (ae false) dg) [1,2,3,6,8,9,10] [3,6,8] s h)=some (.normal,⟨upd (upd (upd (fun _ => .any) 9 (I (cQ d p true k r).2)) 8 (.ref 8 none 0 0 0)) 6 (.ref 6 none 0 0 0),hh⟩)∧hh 6 = .bx [.v (.bool false),.emp,.v (.int .i64 0)]∧hh 8 = .bx (aj (cQ d p true k r).1):=by
 intro k
 induction k with
 | zero =>
  intro i hi r hr s h h1 h2 h3 h6 h8 h9 h10 k3 k6 k8
  have e1:((i:Int) < n)=False:=ff (by omega)
  obtain ⟨r1,r2⟩:=r
  simp only [aj] at k3 k8
  rw [ao]
  refine ⟨?hh0,?_,?_,?_⟩
  rotate_left
  ·simp only [dg,cQ,go_sem,↓reduceIte,amO,amT,h1,h2,h3,h6,h8,h9,h10,k3,k6,k8,e1]
   rfl
  ·rfl
  ·rfl
 | succ k ih =>
  intro i hi r hr s h h1 h2 h3 h6 h8 h9 h10 k3 k6 k8
  have e1:((i:Int) < n)=True:=tt (by omega)
  have e5:IntKind.i64.wrap ((i:Int)+1)=((i+1:Nat):Int):=wi (by omega) (by omega)
  obtain ⟨r1,r2⟩:=r
  have hm:=rK hr ok (p:=p) (up:=true)
  have okm:=fh (a:=r1) (b:=d) (p:=p) (up:=true)
  have ih':=ih (i+1) (by omega)
  unfold cQ
  show ∃ hh,_=some (Ex.normal,(⟨upd (upd (upd (fun _=>AV.any) 9 (I (if r2=0 then cQ d p true k (aO r1 d p true) else (r1,r2)).2)) 8 _) 6 _,hh⟩:St))∧_∧hh 8 = .bx (aj (if r2=0 then cQ d p true k (aO r1 d p true) else (r1,r2)).1)
  generalize aO r1 d p true=q at hm okm ⊢
  obtain ⟨q1,q2⟩:=q
  simp only [rV,af,aj] at hm k3 k8
  rw [ao]
  by_cases hr:r2=0
  ·have er:(r2=0)=True:=tt hr
   rw [if_pos hr]
   generalize aq _ _ _=L at ih' ⊢
   simp only [dg,aj,go_sem,↓reduceIte,amO,amQ,amP,amR,amT,h1,h2,h3,h6,h8,h9,h10,k3,k6,k8,e1,er,hm,e5]
   exact ih' (q1,q2) okm _ _ rfl rfl rfl rfl rfl rfl rfl rfl rfl rfl
  ·have er:(r2=0)=False:=ff hr
   rw [if_neg hr]
   refine ⟨?hh1,?_,?_,?_⟩
   rotate_left
   ·simp only [dg,go_sem,↓reduceIte,amO,amT,h1,h2,h3,h6,h8,h9,h10,k3,k6,k8,e1,er]
    rfl
   ·rfl
   ·rfl
theorem K6 {d:Rd} (ok:Ok0 d) {p:Int} {n:Nat} (hn:n≤100000):R F.r05_powUp [af d,I n,I p] []=some (rV (pw d n p true),[]):=by
 refine av MT MS (E9 false) rfl ?_
 have hr:=G7 ok (p:=p) (up:=true)
 have okr:=u5 (d:=d) (p:=p) (up:=true)
 unfold pw
 generalize nB d p true=r at hr okr ⊢
 have hl:∀ (s:am) (h:ac),s 1=I n→s 2=I p→s 3 = .ref 3 none 0 0 0→s 6 = .ref 6 none 0 0 0→s 8 = .ref 8 none 0 0 0→s 9=I r.2→s 10=I 1 →
  h 3 = .bx (aj d)→h 6 = .bx [.v (.bool false),.emp,.v (.int .i64 0)]→h 8 = .bx (aj r.1) →
  ∃ hh,au 0 [6,8,9] (aq (ak R (ae false) dg) [1,2,3,6,8,9,10] [3,6,8] s h)=some (.normal,⟨upd (upd (upd (fun _ => .any) 9 (I (cQ d p true (n - 1) r).2)) 8 (.ref 8 none 0 0 0)) 6 (.ref 6 none 0 0 0),hh⟩)∧hh 6 = .bx [.v (.bool false),.emp,.v (.int .i64 0)]∧hh 8 = .bx (aj (cQ d p true (n - 1) r).1):=by
  by_cases h0:n=0
  ·intro s h a1 a2 a3 a6 a8 a9 a10 b3 b6 b8
   have e1:((1:Int) < (n:Nat))=False:=ff (by omega)
   subst h0
   obtain ⟨r1,r2⟩:=r
   simp only [aj] at b3 b8
   rw [ao]
   refine ⟨?hh0,?_,?_,?_⟩
   rotate_left
   ·simp only [dg,cQ,go_sem,↓reduceIte,amO,amY,amT,a1,a2,a3,a6,a8,a9,a10,b3,b6,b8,e1]
    rfl
   ·rfl
   ·rfl
  ·have:=Qc ok (p:=p) hn (n - 1) 1 (by omega) r okr
   intro s h a1 a2 a3 a6 a8 a9 a10
   exact this s h a1 a2 a3 a6 a8 a9 a10
 generalize cQ d p true (n - 1) r=q at hl ⊢
 obtain ⟨r1,r2⟩:=r
 obtain ⟨q1,q2⟩:=q
 generalize hLL:aq (ak R (ae false) dg) [1,2,3,6,8,9,10] [3,6,8]=L at hl
 have hX:∀ s h,ak R (ae false) (.loop [1,2,3,6,8,9,10] [3,6,8] dg) s h=L s h:=fun s h=>by rw [← hLL]; rfl
 clear hLL
 have hl2:∀ (S:am) (H:ac) (X:Option (Ex × St)),au 0 [6,8,9] (L S H)=X→S 1=I n→S 2=I p→S 3 = .ref 3 none 0 0 0→S 6 = .ref 6 none 0 0 0→S 8 = .ref 8 none 0 0 0→S 9=I r2→S 10=I 1 →
  H 3 = .bx (aj d)→H 6 = .bx [.v (.bool false),.emp,.v (.int .i64 0)]→H 8 = .bx (aj r1) →
  ∃ hh,X=some (.normal,⟨upd (upd (upd (fun _ => .any) 9 (I q2)) 8 (.ref 8 none 0 0 0)) 6 (.ref 6 none 0 0 0),hh⟩)∧hh 6 = .bx [.v (.bool false),.emp,.v (.int .i64 0)]∧hh 8 = .bx (aj q1):=fun S H X hX=>by
  rw [← hX]
  exact hl S H
 clear hl
 simp only [rV,af,aj] at hr hl2
 simp only [oE,Ax,hX,rV,af,aj,go_sem,↓reduceIte,amO,amQ,amP,amR,hr]
 generalize hB:au 0 [6,8,9] (L _ _)=X
 obtain ⟨hh,g1,g2,g3⟩:=hl2 _ _ _ hB rfl rfl rfl rfl rfl rfl rfl rfl rfl rfl
 rw [g1]
 simp only [go_sem,↓reduceIte,amO,amQ,amP,amR,g2,g3]
theorem Qd {d:Rd} (ok:Ok0 d) {p:Int} {n:Nat} (hn:n≤100000):∀ (k i:Nat),i+k=n→∀ (r:Rd × Int),Ok0 r.1→∀ (s:am) (h:ac),s 1=I n→s 2=I p→s 3 = .ref 3 none 0 0 0→s 6 = .ref 6 none 0 0 0→s 8 = .ref 8 none 0 0 0→s 9=I r.2→s 10=I i →
  h 3 = .bx (aj d)→h 6 = .bx [.v (.bool false),.emp,.v (.int .i64 0)]→h 8 = .bx (aj r.1) →
  ∃ hh,au 0 [6,8,9] (aq (ak R (ae false) cj) [1,2,3,6,8,9,10] [3,6,8] s h)=some (.normal,⟨upd (upd (upd (fun _ => .any) 9 (I (cQ d p false k r).2)) 8 (.ref 8 none 0 0 0)) 6 (.ref 6 none 0 0 0),hh⟩)∧hh 6 = .bx [.v (.bool false),.emp,.v (.int .i64 0)]∧hh 8 = .bx (aj (cQ d p false k r).1):=by
 intro k
 induction k with
 | zero =>
  intro i hi r hr s h h1 h2 h3 h6 h8 h9 h10 k3 k6 k8
  have e1:((i:Int) < n)=False:=ff (by omega)
  obtain ⟨r1,r2⟩:=r
  simp only [aj] at k3 k8
  rw [ao]
  refine ⟨?hh0,?_,?_,?_⟩
  rotate_left
  ·simp only [cj,cQ,go_sem,↓reduceIte,amO,amT,h1,h2,h3,h6,h8,h9,h10,k3,k6,k8,e1]
   rfl
  ·rfl
  ·rfl
 | succ k ih =>
  intro i hi r hr s h h1 h2 h3 h6 h8 h9 h10 k3 k6 k8
  have e1:((i:Int) < n)=True:=tt (by omega)
  have e5:IntKind.i64.wrap ((i:Int)+1)=((i+1:Nat):Int):=wi (by omega) (by omega)
  obtain ⟨r1,r2⟩:=r
  have hm:=rK hr ok (p:=p) (up:=false)
  have okm:=fh (a:=r1) (b:=d) (p:=p) (up:=false)
  have ih':=ih (i+1) (by omega)
  unfold cQ
  show ∃ hh,_=some (Ex.normal,(⟨upd (upd (upd (fun _=>AV.any) 9 (I (if r2=0 then cQ d p false k (aO r1 d p false) else (r1,r2)).2)) 8 _) 6 _,hh⟩:St))∧_∧hh 8 = .bx (aj (if r2=0 then cQ d p false k (aO r1 d p false) else (r1,r2)).1)
  generalize aO r1 d p false=q at hm okm ⊢
  obtain ⟨q1,q2⟩:=q
  simp only [rV,af,aj] at hm k3 k8
  rw [ao]
  by_cases hr:r2=0
  ·have er:(r2=0)=True:=tt hr
   rw [if_pos hr]
   generalize aq _ _ _=L at ih' ⊢
   simp only [cj,aj,go_sem,↓reduceIte,amO,amQ,amP,amR,amT,h1,h2,h3,h6,h8,h9,h10,k3,k6,k8,e1,er,hm,e5]
   exact ih' (q1,q2) okm _ _ rfl rfl rfl rfl rfl rfl rfl rfl rfl rfl
  ·have er:(r2=0)=False:=ff hr
   rw [if_neg hr]
   refine ⟨?hh1,?_,?_,?_⟩
   rotate_left
   ·simp only [cj,go_sem,↓reduceIte,amO,amT,h1,h2,h3,h6,h8,h9,h10,k3,k6,k8,e1,er]
    rfl
   ·rfl
   ·rfl
theorem K7 {d:Rd} (ok:Ok0 d) {p:Int} {n:Nat} (hn:n≤100000):R F.r05_powDown [af d,I n,I p] []=some (rV (pw d n p false),[]):=by
 refine av HJ HI (Bp false) rfl ?_
 have hr:=G7 ok (p:=p) (up:=false)
 have okr:=u5 (d:=d) (p:=p) (up:=false)
 unfold pw
 generalize nB d p false=r at hr okr ⊢
 have hl:∀ (s:am) (h:ac),s 1=I n→s 2=I p→s 3 = .ref 3 none 0 0 0→s 6 = .ref 6 none 0 0 0→s 8 = .ref 8 none 0 0 0→s 9=I r.2→s 10=I 1 →
  h 3 = .bx (aj d)→h 6 = .bx [.v (.bool false),.emp,.v (.int .i64 0)]→h 8 = .bx (aj r.1) →
  ∃ hh,au 0 [6,8,9] (aq (ak R (ae false) cj) [1,2,3,6,8,9,10] [3,6,8] s h)=some (.normal,⟨upd (upd (upd (fun _ => .any) 9 (I (cQ d p false (n - 1) r).2)) 8 (.ref 8 none 0 0 0)) 6 (.ref 6 none 0 0 0),hh⟩)∧hh 6 = .bx [.v (.bool false),.emp,.v (.int .i64 0)]∧hh 8 = .bx (aj (cQ d p false (n - 1) r).1):=by
  by_cases h0:n=0
  ·intro s h a1 a2 a3 a6 a8 a9 a10 b3 b6 b8
   have e1:((1:Int) < (n:Nat))=False:=ff (by omega)
   subst h0
   obtain ⟨r1,r2⟩:=r
   simp only [aj] at b3 b8
   rw [ao]
   refine ⟨?hh0,?_,?_,?_⟩
   rotate_left
   ·simp only [cj,cQ,go_sem,↓reduceIte,amO,amY,amT,a1,a2,a3,a6,a8,a9,a10,b3,b6,b8,e1]
    rfl
   ·rfl
   ·rfl
  ·have:=Qd ok (p:=p) hn (n - 1) 1 (by omega) r okr
   intro s h a1 a2 a3 a6 a8 a9 a10
   exact this s h a1 a2 a3 a6 a8 a9 a10
 generalize cQ d p false (n - 1) r=q at hl ⊢
 obtain ⟨r1,r2⟩:=r
 obtain ⟨q1,q2⟩:=q
 generalize hLL:aq (ak R (ae false) cj) [1,2,3,6,8,9,10] [3,6,8]=L at hl
 have hX:∀ s h,ak R (ae false) (.loop [1,2,3,6,8,9,10] [3,6,8] cj) s h=L s h:=fun s h=>by rw [← hLL]; rfl
 clear hLL
 have hl2:∀ (S:am) (H:ac) (X:Option (Ex × St)),au 0 [6,8,9] (L S H)=X→S 1=I n→S 2=I p→S 3 = .ref 3 none 0 0 0→S 6 = .ref 6 none 0 0 0→S 8 = .ref 8 none 0 0 0→S 9=I r2→S 10=I 1 →
  H 3 = .bx (aj d)→H 6 = .bx [.v (.bool false),.emp,.v (.int .i64 0)]→H 8 = .bx (aj r1) →
  ∃ hh,X=some (.normal,⟨upd (upd (upd (fun _ => .any) 9 (I q2)) 8 (.ref 8 none 0 0 0)) 6 (.ref 6 none 0 0 0),hh⟩)∧hh 6 = .bx [.v (.bool false),.emp,.v (.int .i64 0)]∧hh 8 = .bx (aj q1):=fun S H X hX=>by
  rw [← hX]
  exact hl S H
 clear hl
 simp only [rV,af,aj] at hr hl2
 simp only [lX,wF,hX,rV,af,aj,go_sem,↓reduceIte,amO,amQ,amP,amR,hr]
 generalize hB:au 0 [6,8,9] (L _ _)=X
 obtain ⟨hh,g1,g2,g3⟩:=hl2 _ _ _ hB rfl rfl rfl rfl rfl rfl rfl rfl rfl rfl
 rw [g1]
 simp only [go_sem,↓reduceIte,amO,amQ,amP,amR,g2,g3]
end Go.Ab
namespace Go.Ab
open Go Go.IntWalk
set_option maxRecDepth 4000
set_option maxHeartbeats 1000000
theorem SW {a b:Rd} (oa:Ok0 a) (ob:Ok0 b) (va:vd a=true) (vb:vd b=true) (h:zI a=zI b):a=b:=by
 rw [← ve oa va,← ve ob vb,h]
theorem rM {d:Rd} (h:vd d=true):zI (gT d)=(zI d).natAbs∧vd (gT d)=true:=by
 unfold gT
 by_cases h0:d.m.length=0
 ·rw [if_pos (Or.inr h0),ia h0]
  exact ⟨by rw [ia rfl]; rfl,rfl⟩
 ·rw [if_neg (fun h2=>h2.elim (fun h3=>by rw [h] at h3; exact Bool.false_ne_true h3.symm) h0)]
  constructor
  ·have e1:zI ⟨false,d.m,d.e⟩=(mg d:Int):=rfl
   rw [e1]
   unfold zI
   split <;> omega
  ·unfold vd at h ⊢
   rw [if_neg h0] at h ⊢
   exact h
theorem IF (x y:Int):(x < y∧bp x y = -1)∨(x=y∧bp x y=0)∨(y < x∧bp x y=1):=by
 unfold bp
 rcases Int.lt_trichotomy x y with h | h | h
 ·exact Or.inl ⟨h,if_pos h⟩
 ·exact Or.inr (Or.inl ⟨h,by rw [if_neg (by omega)]; exact if_neg (by omega)⟩)
 ·exact Or.inr (Or.inr ⟨h,by rw [if_neg (by omega)]; exact if_pos h⟩)
theorem Cd {a b:Rd} (va:vd a=true) (vb:vd b=true):zI (fq a b)=max (zI a) (zI b):=by
 unfold fq
 rw [rL va vb]
 rcases IF (zI a) (zI b) with ⟨h,e⟩ | ⟨h,e⟩ | ⟨h,e⟩
 ·rw [e,if_neg (by decide)]
  omega
 ·rw [e,if_pos (by decide)]
  omega
 ·rw [e,if_pos (by decide)]
  omega
theorem UR {a b:Rd} (va:vd a=true) (vb:vd b=true):zI (fP a b)=min (zI a) (zI b):=by
 unfold fP
 rw [rL va vb]
 rcases IF (zI a) (zI b) with ⟨h,e⟩ | ⟨h,e⟩ | ⟨h,e⟩
 ·rw [e,if_pos (by decide)]
  omega
 ·rw [e,if_pos (by decide)]
  omega
 ·rw [e,if_neg (by decide)]
  omega
theorem YZ {x:Ri} (ok:OkI x) (h:kI x=true):fq (cP x.lo) x.hi=yF x:=by
 obtain ⟨v1,v2,v3,v4⟩:=wg h
 obtain ⟨n1,n2⟩:=vc v1
 obtain ⟨a1,a2⟩:=rM v1
 obtain ⟨b1,b2⟩:=rM v2
 refine SW (sL (mp ok.lo) ok.hi) (sL (ib ok.lo) (ib ok.hi)) (sT n2 v2) (sT a2 b2) ?_
 show _=zI (fq (gT x.lo) (gT x.hi))
 rw [Cd n2 v2,Cd a2 b2,n1,a1,b1]
 omega
theorem SX {d:Rd} (h:vd d=true):(0 < br d↔0 < zI d)∧(br d < 0↔zI d < 0):=by
 have:=sF d h
 omega
theorem Y0 {x:Ri} (ok:OkI x) (h:kI x=true) (hs:u4 x ≠ 0):fq x.lo (cP x.hi)=fP (gT x.lo) (gT x.hi):=by
 obtain ⟨v1,v2,v3,v4⟩:=wg h
 obtain ⟨n1,n2⟩:=vc v2
 obtain ⟨a1,a2⟩:=rM v1
 obtain ⟨b1,b2⟩:=rM v2
 have s1:=SX v1
 have s2:=SX v2
 refine SW (sL ok.lo (mp ok.hi)) (B8 (ib ok.lo) (ib ok.hi)) (sT v1 n2) (Cc a2 b2) ?_
 rw [Cd v1 n2,UR a2 b2,n1,a1,b1]
 unfold u4 at hs
 split at hs
 ·omega
 ·split at hs
  ·omega
  ·omega
theorem US {x:Ri} (ok:OkI x) (hx:kI x=true):R F.r05_Sign [ax x] []=some (I (u4 x),[]):=by
 refine av PI PH (Ig false) rfl ?_
 have hk:=lG ok
 rw [hx] at hk
 have s1:=nF (d:=x.lo)
 have s2:=nF (d:=x.hi)
 simp only [ax,az,af,aj] at hk s1 s2
 unfold u4
 by_cases h1:0 < br x.lo
 ·have e1:(0 < br x.lo)=True:=tt h1
  rw [if_pos h1]
  simp only [kj,rt,ax,az,go_sem,↓reduceIte,amO,amQ,amP,amR,hk,s1,e1]
 ·have e1:(0 < br x.lo)=False:=ff h1
  rw [if_neg h1]
  by_cases h2:br x.hi < 0
  ·have e2:(br x.hi < 0)=True:=tt h2
   rw [if_pos h2]
   simp only [kj,rt,ax,az,go_sem,↓reduceIte,amO,amQ,amP,amR,hk,s1,e1,s2,e2]
  ·have e2:(br x.hi < 0)=False:=ff h2
   rw [if_neg h2]
   simp only [kj,rt,ax,az,go_sem,↓reduceIte,amO,amQ,amP,amR,hk,s1,e1,s2,e2]
theorem W7 {x:Ri} (ok:OkI x) (hx:kI x=true):R F.r05_Mig [ax x] []=some (af (sK x),[]):=by
 refine av RM RL (Ke false) rfl ?_
 obtain ⟨v1,v2,v3,v4⟩:=wg hx
 obtain ⟨n1,n2⟩:=vc v2
 have hs:=US ok hx
 have hn:=pE (d:=x.hi)
 rw [pF v2] at hn
 have hm:=wj ok.lo (mp ok.hi) v1 n2
 have he:=Y0 ok hx
 unfold sK
 by_cases h1:u4 x=0
 ·have e1:(u4 x=0)=True:=tt h1
  rw [if_pos h1]
  simp only [ax,az] at hs
  simp only [oN,x0,ax,az,af,aj,aQ,go_sem,↓reduceIte,amO,amQ,amP,amR,hs,e1]
 ·have e1:(u4 x=0)=False:=ff h1
  rw [if_neg h1]
  rw [he h1] at hm
  generalize cP x.hi=b2 at hn hm
  generalize fP (gT x.lo) (gT x.hi)=b3 at hm ⊢
  simp only [ax,az,af,aj] at hs hn hm
  simp only [oN,x0,ax,az,af,aj,go_sem,↓reduceIte,amO,amQ,amP,amR,amS,amT,hs,e1,hn,hm]
theorem W8 {x:Ri} (ok:OkI x) (hx:kI x=true):R F.r05_Mag [ax x] []=some (af (yF x),[]):=by
 refine av RP RN (Kf false) rfl ?_
 obtain ⟨v1,v2,v3,v4⟩:=wg hx
 obtain ⟨n1,n2⟩:=vc v1
 have hn:=pE (d:=x.lo)
 rw [pF v1] at hn
 have hm:=wj (mp ok.lo) ok.hi n2 v2
 rw [YZ ok hx] at hm
 generalize cP x.lo=b2 at hn hm
 generalize yF x=b3 at hm ⊢
 simp only [af,aj] at hn hm
 simp only [rp,GQ,ax,az,af,aj,go_sem,↓reduceIte,amO,amQ,amP,amR,amS,amT,hn,hm]
theorem W9 {x:Ri} (ok:OkI x):R F.r05_Abs [ax x] []=some (ax (mC x),[]):=by
 refine av RG RF (J1 false) rfl ?_
 have hk:=lG ok
 have hw:=jr
 unfold mC
 simp only [ax,az] at hk hw
 cases hx:kI x with
 | false =>
  rw [hx] at hk
  rw [if_neg Bool.false_ne_true]
  simp only [oD,xX,ax,az,go_sem,↓reduceIte,amO,amQ,amP,amR,hk,hw]
 | true =>
  rw [hx] at hk
  rw [if_pos rfl]
  have h1:=W7 ok hx
  have h2:=W8 ok hx
  generalize sK x=b1 at h1 ⊢
  generalize yF x=b2 at h2 ⊢
  simp only [ax,az,af,aj] at h1 h2
  simp only [oD,xX,ax,az,go_sem,↓reduceIte,amO,amQ,amP,amR,amS,amT,hk,h1,h2]
theorem Y1 {d:Rd} (h:vd d=true):sS d=br d:=by
 unfold sS br
 by_cases h0:d.m.length=0
 ·rw [if_pos (Or.inr h0),if_pos h0]
 ·rw [if_neg (fun h2=>h2.elim (fun h3=>by rw [h] at h3; exact Bool.false_ne_true h3.symm) h0),if_neg h0]
def ic:Cmd := .seq (.ops [1,2,6,7,8,9] [co 40 (.fadr 0 (.t 7)),⟨(some 41),none,.load 3 true (.t 40)⟩,cm 42 1,cm 43 2,⟨(some 44),none,.call (.c (.fn F.r05_powDown [] [])) [(.t 41),(.t 42),(.t 43)]⟩,cm 39 44,co 45 (.ext 0 (.t 39)),co 46 (.ext 1 (.t 39)),⟨(some 8),none,.alloc [(.v (.bool false)),.emp,(.v (.int .i64 0))]⟩,⟨none,none,.store 3 (.t 8) (.t 45)⟩,cm 9 46]) (.seq (.seq (.ops [1,2,6,7,8,9,50] [co 47 (.fadr 0 (.t 7)),⟨(some 48),none,.load 3 true (.t 47)⟩,⟨(some 49),none,.call (.c (.fn F.r02_Sign [] [])) [(.t 48)]⟩,co 50 (.bin .lss (.t 49) (.c (.v (.int .i64 0))))]) (.cond (.t 50) (.seq (.ops [1,2,6,7,8,9] [co 52 (.fadr 0 (.t 7)),⟨(some 53),none,.load 3 true (.t 52)⟩,⟨(some 54),none,.call (.c (.fn F.r02_Neg [] [])) [(.t 53)]⟩,cm 55 1,cm 56 2,⟨(some 57),none,.call (.c (.fn F.r05_powUp [] [])) [(.t 54),(.t 55),(.t 56)]⟩,cm 51 57,co 58 (.ext 0 (.t 51)),co 59 (.ext 1 (.t 51)),⟨none,none,.store 3 (.t 8) (.t 58)⟩,cm 9 59]) (.ops [1,2,6,7,8,9] [⟨(some 60),none,.load 3 true (.t 8)⟩,⟨(some 61),none,.call (.c (.fn F.r02_Neg [] [])) [(.t 60)]⟩,⟨none,none,.store 3 (.t 8) (.t 61)⟩])) (.skip))) (.seq (.ops [1,2,6,7,8,9,10,11] [co 63 (.fadr 3 (.t 7)),⟨(some 64),none,.load 3 true (.t 63)⟩,cm 65 1,cm 66 2,⟨(some 67),none,.call (.c (.fn F.r05_powUp [] [])) [(.t 64),(.t 65),(.t 66)]⟩,cm 62 67,co 68 (.ext 0 (.t 62)),co 69 (.ext 1 (.t 62)),⟨(some 10),none,.alloc [(.v (.bool false)),.emp,(.v (.int .i64 0))]⟩,⟨none,none,.store 3 (.t 10) (.t 68)⟩,cm 11 69]) (.seq (.seq (.ops [1,2,6,7,8,9,10,11,73] [co 70 (.fadr 3 (.t 7)),⟨(some 71),none,.load 3 true (.t 70)⟩,⟨(some 72),none,.call (.c (.fn F.r02_Sign [] [])) [(.t 71)]⟩,co 73 (.bin .lss (.t 72) (.c (.v (.int .i64 0))))]) (.cond (.t 73) (.seq (.ops [6,8,9,10,11] [co 75 (.fadr 3 (.t 7)),⟨(some 76),none,.load 3 true (.t 75)⟩,⟨(some 77),none,.call (.c (.fn F.r02_Neg [] [])) [(.t 76)]⟩,cm 78 1,cm 79 2,⟨(some 80),none,.call (.c (.fn F.r05_powDown [] [])) [(.t 77),(.t 78),(.t 79)]⟩,cm 74 80,co 81 (.ext 0 (.t 74)),co 82 (.ext 1 (.t 74)),⟨none,none,.store 3 (.t 10) (.t 81)⟩,cm 11 82]) (.ops [6,8,9,10,11] [⟨(some 83),none,.load 3 true (.t 10)⟩,⟨(some 84),none,.call (.c (.fn F.r02_Neg [] [])) [(.t 83)]⟩,⟨none,none,.store 3 (.t 10) (.t 84)⟩])) (.skip))) (.seq (.ops [6] [⟨(some 85),none,.load 3 true (.t 8)⟩,cm 86 9,⟨(some 87),none,.load 3 true (.t 10)⟩,cm 88 11,⟨(some 89),none,.call (.c (.fn F.r05_made [] [])) [(.t 85),(.t 86),(.t 87),(.t 88)]⟩,⟨none,none,.store 7 (.t 6) (.t 89)⟩]) (.ret)))))
theorem qA:kg = .seq (.ops [1,2,3,6] [⟨(some 3),none,.box 7 (.t 0)⟩,⟨(some 6),none,.alloc [(.v (.bool false)),.emp,(.v (.int .i64 0)),(.v (.bool false)),.emp,(.v (.int .i64 0)),(.v (.bool false))]⟩]) (.seq (.seq (.ops [1,2,3,6,27] [cm 12 2,⟨(some 13),none,.call (.c (.fn F.r05_Prec [] [])) [(.t 12)]⟩,co 14 (.un .not (.t 13)),cm 15 14,⟨(some 16),(some (15,false)),.load 7 true (.t 3)⟩,⟨(some 17),(some (15,false)),.call (.c (.fn F.r05_known [] [])) [(.t 16)]⟩,cg 18 15 false (.un .not (.t 17)),co 19 (.pick (.t 15) (.c (.v (.bool true))) (.t 18)),cm 20 19,cg 21 20 false (.mv (.t 1)),cg 22 20 false (.bin .lss (.t 21) (.c (.v (.int .i64 0)))),co 23 (.pick (.t 20) (.c (.v (.bool true))) (.t 22)),cm 24 23,cg 25 24 false (.mv (.t 1)),cg 26 24 false (.bin .gtr (.t 25) (.c (.v (.int .i64 16)))),co 27 (.pick (.t 24) (.c (.v (.bool true))) (.t 26))]) (.cond (.t 27) (.seq (.ops [6] [⟨(some 28),none,.call (.c (.fn F.r05_Whole [] [])) []⟩,⟨none,none,.store 7 (.t 6) (.t 28)⟩]) (.ret)) (.skip))) (.seq (.seq (.ops [1,2,3,6,30] [cm 29 1,co 30 (.bin .eql (.t 29) (.c (.v (.int .i64 0))))]) (.cond (.t 30) (.seq (.ops [6] [⟨(some 31),none,.call (.c (.fn F.r02_Int [] [])) [(.c (.v (.int .i64 1)))]⟩,⟨(some 32),none,.call (.c (.fn F.r05_Point [] [])) [(.t 31)]⟩,⟨none,none,.store 7 (.t 6) (.t 32)⟩]) (.ret)) (.skip))) (.seq (.ops [1,2,3,6,7] [⟨(some 33),none,.load 7 true (.t 3)⟩,⟨(some 7),none,.alloc [(.v (.bool false)),.emp,(.v (.int .i64 0)),(.v (.bool false)),.emp,(.v (.int .i64 0)),(.v (.bool false))]⟩,⟨none,none,.store 7 (.t 7) (.t 33)⟩]) (.seq (.seq (.ops [1,2,3,6,7,36] [cm 34 1,co 35 (.bin .rem (.t 34) (.c (.v (.int .i64 2)))),co 36 (.bin .eql (.t 35) (.c (.v (.int .i64 0))))]) (.cond (.t 36) (.ops [1,2,6,7] [⟨(some 37),none,.load 7 true (.t 3)⟩,⟨(some 38),none,.call (.c (.fn F.r05_Abs [] [])) [(.t 37)]⟩,⟨none,none,.store 7 (.t 7) (.t 38)⟩]) (.skip))) ic)))):=rfl
theorem Ha {y:Ri} (ok:OkI y) (v1:vd y.lo=true) (v2:vd y.hi=true) {p:Int} {n:Nat} (hn:n≤100000) (s:am) (h:ac) (h1:s 1=I n) (h2:s 2=I p) (h6:s 6 = .ref 6 none 0 0 0) (h7:s 7 = .ref 7 none 0 0 0)
  (k6:h 6 = .bx [.v (.bool false),.emp,.v (.int .i64 0),.v (.bool false),.emp,.v (.int .i64 0),.v (.bool false)]) (k7:h 7 = .bx (az y)) (kd:∀ i,i ≠ 3→i ≠ 6→i ≠ 7→h i = .dead) :
  eE false [[.o 0 [],.o 2 [],.o 0 [],.o 0 [],.o 2 [],.o 0 [],.o 0 []]] [.cell 6 7 true] 0 (ak R (ae false) ic s h)=some (ax (fp (nD y.lo n p false) (nD y.hi n p true)),[]):=by
 have s1:=nF (d:=y.lo)
 have s2:=nF (d:=y.hi)
 have p1:=K7 ok.lo hn (p:=p)
 have p2:=K6 ok.hi hn (p:=p)
 have n1:=pE (d:=y.lo)
 have n2:=pE (d:=y.hi)
 rw [pF v1] at n1
 rw [pF v2] at n2
 have p3:=K6 (mp ok.lo) hn (p:=p)
 have p4:=K7 (mp ok.hi) hn (p:=p)
 have w3:=VF (d:=cP y.lo) (n:=n) (p:=p) (up:=true)
 have w4:=VF (d:=cP y.hi) (n:=n) (p:=p) (up:=false)
 unfold nD
 rw [Y1 v1,Y1 v2,Bool.not_false,Bool.not_true]
 generalize cP y.lo=nl at n1 p3 w3 ⊢
 generalize cP y.hi=nh at n2 p4 w4 ⊢
 generalize pw y.lo n p false=r at p1 ⊢
 generalize pw y.hi n p true=q at p2 ⊢
 generalize pw nl n p true=r3 at p3 w3 ⊢
 generalize pw nh n p false=q4 at p4 w4 ⊢
 obtain ⟨r1,r2⟩:=r
 obtain ⟨q1,q2⟩:=q
 obtain ⟨r31,r32⟩:=r3
 obtain ⟨q41,q42⟩:=q4
 have n3:=pE (d:=r31)
 have n4:=pE (d:=q41)
 rw [pF w3] at n3
 rw [pF w4] at n4
 show _=some (ax (fp (if br y.lo < 0 then (cP r31,r32) else (r1,r2)) (if br y.hi < 0 then (cP q41,q42) else (q1,q2))),[])
 generalize cP r31=nr at n3 ⊢
 generalize cP q41=nq at n4 ⊢
 have m1:=sR (a:=nr) (b:=nq) (e:=r32) (f:=q42)
 have m2:=sR (a:=nr) (b:=q1) (e:=r32) (f:=q2)
 have m3:=sR (a:=r1) (b:=nq) (e:=r2) (f:=q42)
 have m4:=sR (a:=r1) (b:=q1) (e:=r2) (f:=q2)
 simp only [rV,az,af,aj] at s1 s2 p1 p2 p3 p4 n1 n2 n3 n4 m1 m2 m3 m4 k7
 by_cases g1:br y.lo < 0
 ·have e1:(br y.lo < 0)=True:=tt g1
  rw [if_pos g1]
  by_cases g2:br y.hi < 0
  ·have e2:(br y.hi < 0)=True:=tt g2
   rw [if_pos g2]
   generalize fp (nr,r32) (nq,q42)=z at m1 ⊢
   simp only [ax,az] at m1
   simp only [ic,ax,az,go_sem,↓reduceIte,amO,amQ,amP,amR,ne_eq,not_false_eq_true,h1,h2,h6,h7,k6,k7,kd,s1,s2,p1,p2,p3,p4,n1,n2,n3,n4,e1,e2,m1]
  ·have e2:(br y.hi < 0)=False:=ff g2
   rw [if_neg g2]
   generalize fp (nr,r32) (q1,q2)=z at m2 ⊢
   simp only [ax,az] at m2
   simp only [ic,ax,az,go_sem,↓reduceIte,amO,amQ,amP,amR,ne_eq,not_false_eq_true,h1,h2,h6,h7,k6,k7,kd,s1,s2,p1,p2,p3,n1,n3,e1,e2,m2]
 ·have e1:(br y.lo < 0)=False:=ff g1
  rw [if_neg g1]
  by_cases g2:br y.hi < 0
  ·have e2:(br y.hi < 0)=True:=tt g2
   rw [if_pos g2]
   generalize fp (r1,r2) (nq,q42)=z at m3 ⊢
   simp only [ax,az] at m3
   simp only [ic,ax,az,go_sem,↓reduceIte,amO,amQ,amP,amR,ne_eq,not_false_eq_true,h1,h2,h6,h7,k6,k7,kd,s1,s2,p1,p2,p4,n2,n4,e1,e2,m3]
  ·have e2:(br y.hi < 0)=False:=ff g2
   rw [if_neg g2]
   generalize fp (r1,r2) (q1,q2)=z at m4 ⊢
   simp only [ax,az] at m4
   simp only [ic,ax,az,go_sem,↓reduceIte,amO,amQ,amP,amR,ne_eq,not_false_eq_true,h1,h2,h6,h7,k6,k7,kd,s1,s2,p1,p2,e1,e2,m4]
theorem UT (x:Ri) (n:Nat) (p:Int):mE x n p=if (ey p && kI x && decide (n≤16))=true then (if n=0 then ⟨one,one,false⟩ else fp (nD (if n % 2=0 then mC x else x).lo n p false) (nD (if n % 2=0 then mC x else x).hi n p true)) else jj:=by
 unfold mE
 rw [Bool.and_comm (kI x)]
theorem Xa {x:Ri} (hx:kI x=true):vd (mC x).lo=true∧vd (mC x).hi=true:=by
 obtain ⟨v1,v2,v3,v4⟩:=wg hx
 obtain ⟨a1,a2⟩:=rM v1
 obtain ⟨b1,b2⟩:=rM v2
 unfold mC
 rw [if_pos hx]
 constructor
 ·show vd (sK x)=true
  unfold sK
  split
  ·rfl
  ·exact Cc a2 b2
 ·exact sT a2 b2
theorem yL {x:Ri} (ok:OkI x) {p:Int} {n:Nat} (hn:n≤100000):R F.r05_Power [ax x,I n,I p] []=some (ax (mE x n p),[]):=by
 refine av MI MH (E2 false) rfl ?_
 have hk:=lG ok
 have hp:=Cb (p:=p)
 have hw:=jr
 have n0:((n:Int) < 0)=False:=ff (by omega)
 rw [UT]
 simp only [ax,az] at hk hw
 cases h2:ey p with
 | false =>
  rw [h2] at hp
  rw [Bool.false_and,Bool.false_and,if_neg Bool.false_ne_true]
  simp only [el,kg,ax,az,go_sem,↓reduceIte,amO,amQ,amP,amR,hp,hw]
 | true =>
  rw [h2] at hp
  cases h1:kI x with
  | false =>
   rw [h1] at hk
   rw [Bool.true_and,Bool.false_and,if_neg Bool.false_ne_true]
   simp only [el,kg,ax,az,go_sem,↓reduceIte,amO,amQ,amP,amR,hp,hk,hw]
  | true =>
   rw [h1] at hk
   rw [Bool.true_and,Bool.true_and]
   by_cases h3:n≤16
   ·have e3:(16 < (n:Int))=False:=ff (by omega)
    rw [if_pos (decide_eq_true h3)]
    by_cases h4:n=0
    ·have e4:((n:Int)=0)=True:=tt (by omega)
     rw [if_pos h4]
     have g1:=W2
     have g2:=yK (d:=one)
     simp only [one,ax,az,af,aj] at g1 g2
     simp only [el,kg,one,ax,az,go_sem,↓reduceIte,amO,amQ,amP,amR,hk,hp,n0,e3,e4,g1,g2]
    ·have e4:((n:Int)=0)=False:=ff (by omega)
     rw [if_neg h4]
     by_cases h5:n % 2=0
     ·have e5:((n:Int).tmod 2=0)=True:=tt (by rw [Int.tmod_eq_emod_of_nonneg (by omega)]; omega)
      rw [if_pos h5]
      have ha:=W9 ok
      have oa:=FQ ok
      obtain ⟨va,vb⟩:=Xa h1
      generalize mC x=y at ha oa va vb ⊢
      simp only [ax,az] at ha
      simp only [el,qA,ax,az,go_sem,↓reduceIte,amO,amQ,amP,amR,amX,hk,hp,n0,e3,e4,e5,ha]
      exact Ha oa va vb hn _ _ rfl rfl rfl rfl rfl rfl (fun i g3 g6 g7=>by simp only [bX,g3,g6,g7,if_false])
     ·have e5:((n:Int).tmod 2=0)=False:=ff (by rw [Int.tmod_eq_emod_of_nonneg (by omega)]; omega)
      rw [if_neg h5]
      obtain ⟨v1,v2,v3,v4⟩:=wg h1
      simp only [el,qA,ax,az,go_sem,↓reduceIte,amO,amQ,amP,amR,amX,hk,hp,n0,e3,e4,e5]
      exact Ha ok v1 v2 hn _ _ rfl rfl rfl rfl rfl rfl (fun i g3 g6 g7=>by simp only [bX,g3,g6,g7,if_false])
   ·have e3:(16 < (n:Int))=True:=tt (by omega)
    rw [if_neg (fun h=>h3 (of_decide_eq_true h))]
    simp only [el,kg,ax,az,go_sem,↓reduceIte,amO,amQ,amP,amR,hk,hp,n0,e3,hw]
theorem Qe {x:Ri} (ok:OkI x) {p:Int} {e:Nat} (hn:e≤100000):R F.r24_power [ax x,I e,I p] []=some (ax (wh x e p),[]):=by
 refine av Mw Mv (ES false) rfl ?_
 unfold wh
 by_cases h1:e≤16
 ·have e1:((e:Int)≤16)=True:=tt (by omega)
  rw [if_pos h1]
  have h2:=yL ok hn (p:=p)
  generalize mE x e p=z at h2 ⊢
  simp only [ax,az] at h2
  simp only [lq,tO,ax,az,go_sem,↓reduceIte,amO,amQ,amP,amR,e1,h2]
 ·have e1:((e:Int)≤16)=False:=ff (by omega)
  rw [if_neg h1]
  have h2:=yL ok (show 16≤100000 by decide) (p:=p)
  have h3:=yL ok (show e - 16≤100000 by omega) (p:=p)
  have o2:=u6 ok (n:=16) (p:=p)
  have o3:=u6 ok (n:=e - 16) (p:=p)
  have w1:IntKind.i64.wrap ((e:Int) - 16)=((e - 16:Nat):Int):=wi (by omega) (by omega)
  generalize mE x 16 p=z2 at h2 o2 ⊢
  generalize mE x (e - 16) p=z3 at h3 o3 ⊢
  have h4:=N8 o2 o3 (p:=p)
  generalize pB z2 z3 p=z4 at h4 ⊢
  simp only [ax,az,Int.cast_ofNat_Int] at h2 h3 h4
  simp only [lq,tO,ax,az,go_sem,↓reduceIte,amO,amQ,amP,amR,amS,amT,e1,h2,h3,h4,w1]
end Go.Ab
namespace Go.Ab
open Go Go.IntWalk
set_option maxRecDepth 4000
set_option maxHeartbeats 1000000
theorem Qf {a:List Int} (h2:sm a):∀ (k i:Nat),i+k=a.length→∀ (s:am) (h:ac),s 0 = .sl 1 (dO a)→s 3=I (cc (a.take i))→s 4=I i →
  au 0 [3] (aq (ak R (ae false) oL) [0,3,4] [] s h)=some (.normal,⟨upd (fun _ => .any) 3 (I (cc a)),fun _ => .dead⟩):=by
 intro k
 induction k with
 | zero =>
  intro i hi s h h0 h3 h4
  have e1:((i:Int) < a.length)=False:=ff (by omega)
  rw [List.take_of_length_le (by omega)] at h3
  rw [ao]
  simp only [oL,go_sem,↓reduceIte,amO,h0,h3,h4,e1]
 | succ k ih =>
  intro i hi s h h0 h3 h4
  have hlt:i < a.length:=by omega
  obtain ⟨g1,g2⟩:=h2
  have e1:((i:Int) < a.length)=True:=tt (by omega)
  have e2:aV (dO a) (i:Int)=some (.ipt [I a[i]]):=mq rfl (List.getElem?_eq_getElem hlt)
  have e5:IntKind.i64.wrap ((i:Int)+1)=((i+1:Nat):Int):=wi (by omega) (by omega)
  have b1:=KT (l:=a.take i) (fun x hx=>g2 x (List.mem_of_mem_take hx))
  have b2:=g2 a[i] (List.getElem_mem hlt)
  have b3:(a.take i).length≤1000:=by simp only [List.length_take]; omega
  have e6:IntKind.i64.wrap (cc (a.take i)+a[i])=cc (a.take (i+1)):=by
   rw [B9 hlt]
   exact i64_in _ ⟨by omega,by omega⟩
  have ih':=ih (i+1) (by omega)
  generalize a[i]=x at e2 e6 ⊢
  rw [ao]
  generalize aq _ _ _=L at ih' ⊢
  simp only [oL,go_sem,↓reduceIte,amO,h0,h3,h4,e1,e2,e5,e6]
  exact ih' _ _ rfl rfl rfl
theorem K8 {a:List Int} (h2:sm a):R F.r23_sum [.sl 1 (dO a)] []=some (I (cc a),[]):=by
 refine av RI RH (Kc false) rfl ?_
 have h3:=Qf h2 a.length 0 (Nat.zero_add _)
 simp only [List.take_zero,cc,Int.natCast_zero] at h3
 simp only [ro,GO,go_sem,↓reduceIte,amO]
 rw [h3 _ _ rfl rfl rfl]
 simp only [go_sem,↓reduceIte]
theorem Qg {a b:List Int} (hl:a.length=b.length) (h2:a.length≤100000):∀ (k i:Nat),i+k=a.length→∀ (s:am) (h:ac),s 0 = .sl 1 (dO a)→s 1 = .sl 1 (dO b)→s 7=I i →
  ∃ hh,au 0 [] (aq (ak R (ae false) eS) [0,1,7] [] s h)=if sM (b.drop i) (a.drop i)=0 then some (.normal,⟨fun _ => .any,fun _ => .dead⟩) else some (.ret,⟨upd (fun _ => .any) 4 (I (sM (b.drop i) (a.drop i))),hh⟩):=by
 intro k
 induction k with
 | zero =>
  intro i hi s h h0 h1 h7
  have e1:((i:Int) < a.length)=False:=ff (by omega)
  rw [List.drop_eq_nil_of_le (by omega),List.drop_eq_nil_of_le (by omega),ao]
  refine ⟨fun _ => .dead,?_⟩
  show _=if (0:Int)=0 then _ else _
  rw [if_pos rfl]
  simp only [eS,go_sem,↓reduceIte,amO,h0,h1,h7,e1]
 | succ k ih =>
  intro i hi s h h0 h1 h7
  have hlt:i < a.length:=by omega
  have hlt2:i < b.length:=by omega
  have e1:((i:Int) < a.length)=True:=tt (by omega)
  have e2:aV (dO a) (i:Int)=some (.ipt [I a[i]]):=mq rfl (List.getElem?_eq_getElem hlt)
  have e3:aV (dO b) (i:Int)=some (.ipt [I b[i]]):=mq rfl (List.getElem?_eq_getElem hlt2)
  have e5:IntKind.i64.wrap ((i:Int)+1)=((i+1:Nat):Int):=wi (by omega) (by omega)
  rw [List.drop_eq_getElem_cons hlt,List.drop_eq_getElem_cons hlt2,ao]
  have ih':=ih (i+1) (by omega)
  generalize a[i]=x at e2 ⊢
  generalize b[i]=y at e3 ⊢
  generalize aq _ _ _=L at ih' ⊢
  unfold sM
  rcases IF y x with ⟨g,e⟩ | ⟨g,e⟩ | ⟨g,e⟩
  ·have e6:(y < x)=True:=tt g
   simp only [e,↓reduceIte,amX,Int.reduceNeg]
   refine ⟨?hh1,?_⟩
   rotate_left
   simp only [eS,go_sem,↓reduceIte,amO,h0,h1,h7,e1,e2,e3,e6]
   rfl
  ·have e6:(y < x)=False:=ff (by omega)
   have e7:(x < y)=False:=ff (by omega)
   simp only [e,↓reduceIte]
   simp only [eS,go_sem,↓reduceIte,amO,h0,h1,h7,e1,e2,e3,e5,e6,e7]
   exact ih' _ _ rfl rfl rfl
  ·have e6:(y < x)=False:=ff (by omega)
   have e7:(x < y)=True:=tt (by omega)
   simp only [e,↓reduceIte,amX]
   refine ⟨?hh2,?_⟩
   rotate_left
   simp only [eS,go_sem,↓reduceIte,amO,h0,h1,h7,e1,e2,e3,e6,e7]
   rfl
theorem K9 {a b:List Int} (ha:sm a) (hb:sm b) (hl:a.length=b.length):R F.r23_Compare [.sl 1 (dO a),.sl 1 (dO b)] []=some (I (sN a b),[]):=by
 refine av HF HE (Bn false) rfl ?_
 have d1:=K8 ha
 have d2:=K8 hb
 have h3:=Qg hl (by have:=ha.1; omega) a.length 0 (Nat.zero_add _)
 simp only [List.drop_zero,Int.natCast_zero] at h3
 unfold sN
 rcases IF (cc a) (cc b) with ⟨g,e⟩ | ⟨g,e⟩ | ⟨g,e⟩
 ·have e6:(cc a < cc b)=True:=tt g
  rw [e,if_neg (by decide)]
  simp only [eT,j1,go_sem,↓reduceIte,amO,amQ,amP,d1,d2,e6]
 ·have e6:(cc a < cc b)=False:=ff (by omega)
  have e7:(cc b < cc a)=False:=ff (by omega)
  rw [e,if_pos rfl]
  by_cases hz:sM b a=0
  ·simp only [if_pos hz] at h3
   simp only [eT,j1,go_sem,↓reduceIte,amO,amQ,amP,d1,d2,e6,e7]
   rw [(h3 _ _ rfl rfl rfl).choose_spec,hz]
   simp only [go_sem,↓reduceIte]
  ·simp only [if_neg hz] at h3
   simp only [eT,j1,go_sem,↓reduceIte,amO,amQ,amP,d1,d2,e6,e7]
   rw [(h3 _ _ rfl rfl rfl).choose_spec]
   simp only [go_sem,↓reduceIte]
 ·have e6:(cc a < cc b)=False:=ff (by omega)
  have e7:(cc b < cc a)=True:=tt (by omega)
  rw [e,if_neg (by decide)]
  simp only [eT,j1,go_sem,↓reduceIte,amO,amQ,amP,d1,d2,e6,e7]
theorem SY {t:Rt} (h2:t.exps.length≤1000):∀ (k i:Nat),i+k=t.exps.length→(∀ x ∈ t.exps.take i,0≤x∧x≤32)→∀ (s:am) (h:ac),s 3 = .ref 3 none 0 0 0→s 5=I (cc (t.exps.take i))→s 6=I i→h 3 = .bx (dY t) →
  ∃ hh,au 0 [5] (aq (ak R (ae false) eC) [3,5,6] [3] s h)=if (t.exps.drop i).any o6=true then some (.ret,⟨upd (fun _ => .any) 4 (B false),hh⟩) else some (.normal,⟨upd (fun _ => .any) 5 (I (cc t.exps)),hh⟩):=by
 intro k
 induction k with
 | zero =>
  intro i hi hg s h h3 h5 h6 k3
  have e1:((i:Int) < t.exps.length)=False:=ff (by omega)
  rw [List.take_of_length_le (by omega)] at h5
  rw [List.drop_eq_nil_of_le (by omega),ao]
  simp only [dY] at k3
  refine ⟨?hh,?_⟩
  rotate_left
  show _=if false=true then _ else _
  rw [if_neg Bool.false_ne_true]
  simp only [eC,go_sem,↓reduceIte,amO,amQ,amP,amT,h3,h5,h6,k3,e1]
  rfl
 | succ k ih =>
  intro i hi hg s h h3 h5 h6 k3
  have hlt:i < t.exps.length:=by omega
  have e1:((i:Int) < t.exps.length)=True:=tt (by omega)
  have e2:aV (dO t.exps) (i:Int)=some (.ipt [I t.exps[i]]):=mq rfl (List.getElem?_eq_getElem hlt)
  have e5:IntKind.i64.wrap ((i:Int)+1)=((i+1:Nat):Int):=wi (by omega) (by omega)
  have b1:=KT hg
  have b3:(t.exps.take i).length≤1000:=by simp only [List.length_take]; omega
  have ih':=ih (i+1) (by omega)
  have htk:t.exps.take (i+1)=t.exps.take i++[t.exps[i]]:=by rw [List.take_add_one,List.getElem?_eq_getElem hlt]; rfl
  have hst:=B9 hlt
  rw [List.drop_eq_getElem_cons hlt,List.any_cons,ao]
  simp only [dY] at k3
  rw [hst] at ih'
  rw [htk] at ih'
  generalize t.exps[i]=x at e2 ih' ⊢
  generalize aq _ _ _=L at ih' ⊢
  unfold o6 at ih' ⊢
  by_cases g1:x < 0
  ·have e6:(x < 0)=True:=tt g1
   simp only [decide_eq_true g1,Bool.true_or]
   refine ⟨?hh1,?_⟩
   rotate_left
   rw [if_pos trivial]
   simp only [eC,go_sem,↓reduceIte,amO,amQ,amP,amT,h3,h5,h6,k3,e1,e2,e6]
   rfl
  ·have e6:(x < 0)=False:=ff g1
   by_cases g2:32 < x
   ·have e7:(32 < x)=True:=tt g2
    simp only [decide_eq_false g1,decide_eq_true g2,Bool.false_or,Bool.true_or]
    refine ⟨?hh2,?_⟩
    rotate_left
    rw [if_pos trivial]
    simp only [eC,go_sem,↓reduceIte,amO,amQ,amP,amT,h3,h5,h6,k3,e1,e2,e6,e7]
    rfl
   ·have e7:(32 < x)=False:=ff g2
    simp only [decide_eq_false g1,decide_eq_false g2,Bool.false_or]
    have e8:IntKind.i64.wrap (cc (t.exps.take i)+x)=cc (t.exps.take i)+x:=i64_in _ ⟨by omega,by omega⟩
    simp only [eC,go_sem,↓reduceIte,amO,amQ,amP,amT,h3,h5,h6,k3,e1,e2,e5,e6,e7,e8]
    exact ih' (fun y hy=>by
     rcases List.mem_append.1 hy with h | h
     ·exact hg y h
     ·rw [List.mem_singleton.1 h]
      omega) _ _ rfl rfl rfl rfl
theorem SZ {v:Int} {t:Rt} (ok:OkT t) (hv:v≤1000):R F.r23_term [I v,.agg (dY t)] []=some (B (u7 v t),[]):=by
 refine av Pq Pp (HD false) rfl ?_
 have hvd:=qz ok.c
 simp only [af,aj] at hvd
 unfold u7
 by_cases c1:(t.exps.length:Int)=v
 ·have f1:((t.exps.length:Int)=v)=True:=tt c1
  rw [decide_eq_true c1,Bool.true_and]
  cases c2:vd t.c with
  | false =>
   rw [c2] at hvd
   rw [Bool.false_and]
   simp only [gr,lV,dY,go_sem,↓reduceIte,amO,amQ,amP,amR,f1,hvd]
  | true =>
   rw [c2] at hvd
   rw [Bool.true_and]
   by_cases c3:t.c.m.length=0
   ·have f3:((t.c.m.length:Int)=0)=True:=tt (by omega)
    rw [decide_eq_false (p:=t.c.m.length ≠ 0) (fun h=>h c3),Bool.false_and]
    simp only [gr,lV,dY,go_sem,↓reduceIte,amO,amQ,amP,amR,f1,hvd,f3]
   ·have f3:((t.c.m.length:Int)=0)=False:=ff (by omega)
    rw [decide_eq_true (p:=t.c.m.length ≠ 0) c3,Bool.true_and]
    have hL:=SY (t:=t) (by omega) t.exps.length 0 (Nat.zero_add _) (fun x hx=>by rw [List.take_zero] at hx; exact nomatch hx)
    simp only [List.drop_zero,List.take_zero,cc,Int.natCast_zero] at hL
    generalize hLL:aq (ak R (ae false) eC) [3,5,6] [3]=L at hL
    have hX:∀ s h,ak R (ae false) (.loop [3,5,6] [3] eC) s h=L s h:=fun s h=>by rw [← hLL]; rfl
    clear hLL
    have hL2:∀ (S:am) (H:ac) (X:Option (Ex × St)),au 0 [5] (L S H)=X→S 3 = .ref 3 none 0 0 0→S 5=I 0→S 6=I 0→H 3 = .bx (dY t)→∃ hh,X=if t.exps.any o6=true then some (.ret,⟨upd (fun _ => .any) 4 (B false),hh⟩) else some (.normal,⟨upd (fun _ => .any) 5 (I (cc t.exps)),hh⟩):=fun S H X hX=>by
     rw [← hX]
     exact hL S H
    simp only [dY] at hL2
    cases c4:t.exps.any o6 with
    | true =>
     simp only [c4] at hL2
     rw [Bool.not_true,Bool.false_and]
     simp only [gr,lV,hX,dY,go_sem,↓reduceIte,amO,amQ,amP,amR,f1,hvd,f3]
     generalize hB:au 0 [5] (L _ _)=X
     obtain ⟨hh,g0⟩:=hL2 _ _ _ hB rfl rfl rfl rfl
     rw [g0]
     simp only [go_sem,↓reduceIte]
    | false =>
     simp only [c4,if_neg Bool.false_ne_true] at hL2
     rw [Bool.not_false,Bool.true_and]
     simp only [gr,lV,hX,dY,go_sem,↓reduceIte,amO,amQ,amP,amR,f1,hvd,f3]
     generalize hB:au 0 [5] (L _ _)=X
     obtain ⟨hh,g0⟩:=hL2 _ _ _ hB rfl rfl rfl rfl
     rw [g0]
     simp only [go_sem,↓reduceIte]
 ·have f1:((t.exps.length:Int)=v)=False:=ff c1
  rw [decide_eq_false c1,Bool.false_and]
  simp only [gr,lV,dY,go_sem,↓reduceIte,amO,amQ,amP,f1]
theorem S0 {a:Rp} (ok:OkP a) (hv:a.vars≤8) (h2:a.terms.length≤500):∀ (k i:Nat),i+k=a.terms.length→∀ (pr:Option Rt),(i=0→pr=none)→(0 < i→∃ q,pr=some q∧a.terms[i - 1]?=some q∧u7 a.vars q=true) →
  ∀ (s:am) (h:ac),s 1 = .ref 1 none 0 0 0→s 3=I i→h 1 = .bx [I a.vars,.sl 4 (ez a.terms)] →
  ∃ hh,au 0 [] (aq (ak R (ae false) eP) [1,3] [1] s h)=if AH a.vars pr (a.terms.drop i)=true then some (.normal,⟨fun _ => .any,hh⟩) else some (.ret,⟨upd (fun _ => .any) 2 (B false),hh⟩):=by
 intro k
 induction k with
 | zero =>
  intro i hi pr p0 p1 s h h1 h3 k1
  have e1:((i:Int) < a.terms.length)=False:=ff (by omega)
  rw [List.drop_eq_nil_of_le (by omega),ao]
  refine ⟨?hh0,?_⟩
  rotate_left
  show _=if true=true then _ else _
  rw [if_pos rfl]
  simp only [eP,go_sem,↓reduceIte,amO,amQ,amP,amT,h1,h3,k1,e1]
  rfl
 | succ k ih =>
  intro i hi pr p0 p1 s h h1 h3 k1
  have hlt:i < a.terms.length:=by omega
  have e1:((i:Int) < a.terms.length)=True:=tt (by omega)
  have e2:aV (ez a.terms) (i:Int)=some (.ipt (dY a.terms[i])):=pC rfl (List.getElem?_eq_getElem hlt)
  have e5:IntKind.i64.wrap ((i:Int)+1)=((i+1:Nat):Int):=wi (by omega) (by omega)
  have okt:=ok.t a.terms[i] (List.getElem_mem hlt)
  have hnext:a.terms[i+1 - 1]?=some a.terms[i]:=List.getElem?_eq_getElem hlt
  rw [List.drop_eq_getElem_cons hlt,ao]
  have ih':=ih (i+1) (by omega) (some a.terms[i]) (fun h=>absurd h (Nat.succ_ne_zero _))
  generalize a.terms[i]=t at e2 okt ih' hnext ⊢
  generalize aq _ _ _=L at ih' ⊢
  have htm:=SZ okt (v:=a.vars) (by omega)
  simp only [dY] at e2 htm
  unfold AH
  cases hb:u7 a.vars t with
  | false =>
   rw [hb] at htm
   simp only [Bool.false_and,if_neg Bool.false_ne_true]
   refine ⟨?hh2,?_⟩
   rotate_left
   simp only [eP,go_sem,↓reduceIte,amO,amQ,amP,amR,amS,amT,h1,h3,k1,e1,e2,htm]
   rfl
  | true =>
   rw [hb] at htm
   obtain ⟨c1,c2,c3,c4,c5⟩:=u9 hb
   simp only [Bool.true_and]
   by_cases hi0:i=0
   ·have f6:(0 < (i:Int))=False:=ff (by omega)
    rw [p0 hi0]
    simp only [KU,Bool.true_and]
    simp only [eP,go_sem,↓reduceIte,amO,amQ,amP,amR,amS,amT,h1,h3,k1,e1,e2,htm,f6,e5]
    exact ih' (fun _=>⟨t,rfl,hnext,hb⟩) _ _ rfl rfl rfl
   ·have f6:(0 < (i:Int))=True:=tt (by omega)
    obtain ⟨q,q1,q2,q3⟩:=p1 (by omega)
    obtain ⟨d1,d2,d3,d4,d5⟩:=u9 q3
    rw [q1]
    have e7:IntKind.i64.wrap ((i:Int) - 1)=((i - 1:Nat):Int):=wi (by omega) (by omega)
    have e8:aV (ez a.terms) ((i - 1:Nat):Int)=some (.ipt (dY q)):=pC rfl q2
    simp only [dY] at e8
    have ho:=K9 (a:=q.exps) (b:=t.exps) ⟨by omega,nR d4⟩ ⟨by omega,nR c4⟩ (by omega)
    simp only [KU]
    by_cases c6:sN q.exps t.exps < 0
    ·have f7:(0≤sN q.exps t.exps)=False:=ff (by omega)
     simp only [decide_eq_true c6,Bool.true_and]
     simp only [eP,go_sem,↓reduceIte,amO,amQ,amP,amR,amS,amT,h1,h3,k1,e1,e2,htm,f6,e5,e7,e8,ho,f7]
     exact ih' (fun _=>⟨t,rfl,hnext,hb⟩) _ _ rfl rfl rfl
    ·have f7:(0≤sN q.exps t.exps)=True:=tt (by omega)
     simp only [decide_eq_false c6,Bool.false_and,if_neg Bool.false_ne_true]
     refine ⟨?hh7,?_⟩
     rotate_left
     simp only [eP,go_sem,↓reduceIte,amO,amQ,amP,amR,amS,amT,h1,h3,k1,e1,e2,htm,f6,e7,e8,ho,f7]
     rfl
theorem Qh {a:Rp} (ok:OkP a):R F.r23_Valid [cI a] []=some (B (vp a),[]):=by
 refine av MC MB (EZ false) rfl ?_
 unfold vp
 by_cases c1:0≤a.vars
 ·have f1:(a.vars < 0)=False:=ff (by omega)
  rw [decide_eq_true c1,Bool.true_and]
  by_cases c2:a.vars≤8
  ·have f2:(8 < a.vars)=False:=ff (by omega)
   rw [decide_eq_true c2,Bool.true_and]
   by_cases c3:a.terms.length≤500
   ·have f3:(500 < (a.terms.length:Int))=False:=ff (by omega)
    rw [decide_eq_true c3,Bool.true_and]
    have h3:=S0 ok c2 c3 a.terms.length 0 (Nat.zero_add _) none (fun _=>rfl) (fun h=>absurd h (Nat.lt_irrefl _))
    simp only [List.drop_zero,Int.natCast_zero] at h3
    cases hb:AH a.vars none a.terms with
    | true =>
     rw [hb] at h3
     simp only [] at h3
     simp only [fA,kf,cI,go_sem,↓reduceIte,amO,amQ,amP,f1,f2,f3]
     rw [(h3 _ _ rfl rfl rfl).choose_spec]
     simp only [go_sem,↓reduceIte]
    | false =>
     rw [hb] at h3
     simp only [if_neg Bool.false_ne_true] at h3
     simp only [fA,kf,cI,go_sem,↓reduceIte,amO,amQ,amP,f1,f2,f3]
     rw [(h3 _ _ rfl rfl rfl).choose_spec]
     simp only [go_sem,↓reduceIte]
   ·have f3:(500 < (a.terms.length:Int))=True:=tt (by omega)
    rw [decide_eq_false c3,Bool.false_and]
    simp only [fA,kf,cI,go_sem,↓reduceIte,amO,amQ,amP,f1,f2,f3]
  ·have f2:(8 < a.vars)=True:=tt (by omega)
   rw [decide_eq_false c2,Bool.false_and]
   simp only [fA,kf,cI,go_sem,↓reduceIte,amO,amQ,amP,f1,f2]
 ·have f1:(a.vars < 0)=True:=tt (by omega)
  rw [decide_eq_false c1,Bool.false_and]
  simp only [fA,kf,cI,go_sem,↓reduceIte,amO,amQ,amP,f1]
end Go.Ab
namespace Go.Ab
open Go Go.IntWalk
set_option maxRecDepth 4000
set_option maxHeartbeats 1000000
theorem Qi (l:List Ri) (ok:∀ d ∈ l,OkI d) (h2:l.length≤100000):∀ (k i:Nat),i+k=l.length→∀ (s:am) (h:ac),s 1 = .sl 7 (dp l)→s 5=I i →
  ∃ hh,au 0 [] (aq (ak R (ae false) fL) [1,5] [] s h)=if ((l.drop i).any fun x => !kI x)=true then some (.ret,⟨upd (fun _ => .any) 4 (B false),hh⟩) else some (.normal,⟨fun _ => .any,fun _ => .dead⟩):=by
 intro k
 induction k with
 | zero =>
  intro i hi s h h1 h5
  have e1:((i:Int) < l.length)=False:=ff (by omega)
  rw [List.drop_eq_nil_of_le (by omega),ao]
  refine ⟨fun _ => .dead,?_⟩
  show _=if false=true then _ else _
  rw [if_neg Bool.false_ne_true]
  simp only [fL,go_sem,↓reduceIte,amO,h1,h5,e1]
 | succ k ih =>
  intro i hi s h h1 h5
  have hlt:i < l.length:=by omega
  have e1:((i:Int) < l.length)=True:=tt (by omega)
  have e2:aV (dp l) (i:Int)=some (.ipt (az l[i])):=zq rfl (List.getElem?_eq_getElem hlt)
  have e5:IntKind.i64.wrap ((i:Int)+1)=((i+1:Nat):Int):=wi (by omega) (by omega)
  have e3:=G8 (ok l[i] (List.getElem_mem hlt))
  rw [List.drop_eq_getElem_cons hlt,List.any_cons,ao]
  have ih':=ih (i+1) (by omega)
  generalize l[i]=d at e2 e3 ⊢
  simp only [ax] at e3
  simp only [az] at e2 e3
  generalize aq _ _ _=L at ih' ⊢
  have hkd:kI d=(!d.all && vi d):=rfl
  rw [hkd]
  cases ha:d.all with
  | true =>
   refine ⟨?hh,?_⟩
   rotate_left
   rw [Bool.not_true,Bool.false_and,Bool.not_false,Bool.true_or,if_pos rfl]
   simp only [fL,go_sem,↓reduceIte,amO,h1,h5,e1,e2,ha]
   rfl
  | false =>
   rw [ha] at e3
   cases hv:vi d with
   | false =>
    rw [hv] at e3
    refine ⟨?hh2,?_⟩
    rotate_left
    rw [Bool.and_false,Bool.not_false,Bool.true_or,if_pos rfl]
    simp only [fL,go_sem,↓reduceIte,amO,amQ,amP,amR,h1,h5,e1,e2,e3,ha]
    rfl
   | true =>
    rw [hv] at e3
    rw [Bool.not_false,Bool.true_and,Bool.not_true,Bool.false_or]
    simp only [fL,go_sem,↓reduceIte,amO,amQ,amP,amR,h1,h5,e1,e2,e3,e5,ha]
    exact ih' _ _ rfl rfl
theorem Ng {a:Rp} {dom:List Ri} (oa:OkP a) (od:∀ x ∈ dom,OkI x) (h2:dom.length≤100000):R F.r24_Domain [cI a,.sl 7 (dp dom)] []=some (B (sO a dom),[]):=by
 refine av JL JK (C9 false) rfl ?_
 have hv:=Qh oa
 have hL:=Qi dom od h2 dom.length 0 (Nat.zero_add _)
 simp only [List.drop_zero,Int.natCast_zero] at hL
 simp only [cI] at hv
 unfold sO
 cases h1:vp a with
 | false =>
  rw [h1] at hv
  rw [Bool.false_and]
  simp only [fS,ll,cI,go_sem,↓reduceIte,amO,amQ,amP,amR,hv]
 | true =>
  rw [h1] at hv
  rw [Bool.true_and]
  by_cases h3:(dom.length:Int)=a.vars
  ·have e3:((dom.length:Int)=a.vars)=True:=tt h3
   rw [decide_eq_true h3,Bool.true_and]
   cases h4:(dom.any fun x => !kI x) with
   | true =>
    simp only [h4] at hL
    rw [Bool.not_true]
    simp only [fS,ll,cI,go_sem,↓reduceIte,amO,amQ,amP,amR,hv,e3]
    rw [(hL _ _ rfl rfl).choose_spec]
    simp only [go_sem,↓reduceIte]
   | false =>
    simp only [h4,if_neg Bool.false_ne_true] at hL
    rw [Bool.not_false]
    simp only [fS,ll,cI,go_sem,↓reduceIte,amO,amQ,amP,amR,hv,e3]
    rw [(hL _ _ rfl rfl).choose_spec]
    simp only [go_sem,↓reduceIte]
  ·have e3:((dom.length:Int)=a.vars)=False:=ff h3
   rw [decide_eq_false h3,Bool.false_and]
   simp only [fS,ll,cI,go_sem,↓reduceIte,amO,amQ,amP,amR,hv,e3]
theorem Xb {dom:List Ri} (od:∀ x ∈ dom,OkI x) {a:Rp} {t:Rt} {ti:Nat} (ht:a.terms[ti]?=some t) (hl:dom.length=t.exps.length) (hv:(dom.length:Int)=a.vars) (h2:dom.length≤100000) (he:∀ e ∈ t.exps,0≤e∧e≤32) {p:Int} {c6 c7:List AV}
  (q6:bh [3,6,7,9] (.bx c6)=true) (q7:bh [3,6,7,9] (.bx c7)=true) :
  ∀ (k i:Nat),i+k=dom.length→∀ (x:Ri),OkI x→∀ (s:am) (h:ac),s 1 = .sl 7 (dp dom)→s 2=I p→s 3 = .ref 3 none 0 0 0→s 6 = .ref 6 none 0 0 0→s 7 = .ref 7 none 0 0 0→s 8=I ti→s 9 = .ref 9 none 0 0 0→s 10=I i →
  h 3 = .bx [I a.vars,.sl 4 (ez a.terms)]→h 6 = .bx c6→h 7 = .bx c7→h 9 = .bx (az x) →
  ∃ hh,au 2 [1,2,3,6,7,8,9] (aq (ak R (ae false) eM) [1,2,3,6,7,8,9,10] [3,6,7,9] s h)=some (.normal,⟨upd (upd (upd (upd (upd (upd (upd (fun _ => .any) 9 (.ref 9 none 0 0 0)) 8 (I ti)) 7 (.ref 7 none 0 0 0)) 6 (.ref 6 none 0 0 0)) 3 (.ref 3 none 0 0 0)) 2 (I p)) 1 (.sl 7 (dp dom)),hh⟩) ∧
   hh 3 = .bx [I a.vars,.sl 4 (ez a.terms)]∧hh 6 = .bx c6∧hh 7 = .bx c7∧hh 9 = .bx (az (AI p (dom.drop i) (t.exps.drop i) x))∧∀ b,b ≠ 3→b ≠ 6→b ≠ 7→b ≠ 9→hh b = .dead:=by
 have e2:aV (ez a.terms) (ti:Int)=some (.ipt (dY t)):=pC rfl ht
 simp only [dY] at e2
 intro k
 induction k with
 | zero =>
  intro i hi x ox s h h1 h2' h3 h6 h7 h8 h9 h10 k3 k6 k7 k9
  have e1:((i:Int) < a.vars)=False:=ff (by omega)
  rw [List.drop_eq_nil_of_le (by omega),List.drop_eq_nil_of_le (by omega),ao]
  simp only [az] at k9
  refine ⟨?hh0,?_,?_,?_,?_,?_,?_⟩
  rotate_left
  ·simp only [eM,go_sem,↓reduceIte,amO,amQ,amP,amT,h1,h2',h3,h6,h7,h8,h9,h10,k3,k6,k7,k9,q6,q7,e1]
   rfl
  ·rfl
  ·rfl
  ·rfl
  ·rfl
  ·intro b b3 b6 b7 b9
   simp only [bX,b3,b6,b7,b9,if_false]
 | succ k ih =>
  intro i hi x ox s h h1 h2' h3 h6 h7 h8 h9 h10 k3 k6 k7 k9
  have hlt:i < t.exps.length:=by omega
  have hlt2:i < dom.length:=by omega
  have e1:((i:Int) < a.vars)=True:=tt (by omega)
  have e4:aV (dO t.exps) (i:Int)=some (.ipt [I t.exps[i]]):=mq rfl (List.getElem?_eq_getElem hlt)
  have e3:aV (dp dom) (i:Int)=some (.ipt (az dom[i])):=zq rfl (List.getElem?_eq_getElem hlt2)
  have e5:IntKind.i64.wrap ((i:Int)+1)=((i+1:Nat):Int):=wi (by omega) (by omega)
  have oki:=od dom[i] (List.getElem_mem hlt2)
  have hb:=he t.exps[i] (List.getElem_mem hlt)
  rw [List.drop_eq_getElem_cons hlt,List.drop_eq_getElem_cons hlt2,ao]
  have ih':=ih (i+1) (by omega)
  unfold AI
  generalize t.exps[i]=e at e4 hb ⊢
  generalize dom[i]=d at e3 oki ⊢
  obtain ⟨m,rfl⟩:=Int.eq_ofNat_of_zero_le hb.1
  rw [Int.toNat_natCast]
  have hpw:=Qe oki (e:=m) (by omega) (p:=p)
  have opw:=N0 oki (e:=m) (p:=p)
  generalize wh d m p=y at hpw opw ⊢
  have hmu:=N8 ox opw (p:=p)
  have omu:=zu (x:=x) (y:=y) (p:=p)
  generalize pB x y p=z at hmu omu ⊢
  generalize aq _ _ _=L at ih' ⊢
  simp only [ax,az] at e3 hpw hmu k9
  by_cases hm:0 < (m:Int)
  ·have f1:(0 < (m:Int))=True:=tt hm
   rw [if_pos hm]
   simp only [eM,go_sem,↓reduceIte,amO,amQ,amP,amR,amS,amT,h1,h2',h3,h6,h7,h8,h9,h10,k3,k6,k7,k9,q6,q7,e1,e2,e3,e4,f1,hpw,hmu,e5]
   exact ih' z omu _ _ rfl rfl rfl rfl rfl rfl rfl rfl rfl rfl rfl rfl
  ·have f1:(0 < (m:Int))=False:=ff hm
   rw [if_neg hm]
   simp only [eM,go_sem,↓reduceIte,amO,amQ,amP,amR,amS,amT,h1,h2',h3,h6,h7,h8,h9,h10,k3,k6,k7,k9,q6,q7,e1,e2,e3,e4,f1,e5]
   exact ih' x ox _ _ rfl rfl rfl rfl rfl rfl rfl rfl rfl rfl rfl rfl
theorem Nh {a:Rp} {dom:List Ri} (oa:OkP a) (od:∀ x ∈ dom,OkI x) (hv:∀ t ∈ a.terms,u7 a.vars t=true) (hl:(dom.length:Int)=a.vars) (h8:a.vars≤8) (h5:a.terms.length≤500) {p:Int} :
  ∀ (k i:Nat),i+k=a.terms.length→∀ (x:Ri),OkI x→∀ (s:am) (h:ac),s 1 = .sl 7 (dp dom)→s 2=I p→s 3 = .ref 3 none 0 0 0→s 6 = .ref 6 none 0 0 0→s 7 = .ref 7 none 0 0 0→s 8=I i →
  h 3 = .bx [I a.vars,.sl 4 (ez a.terms)]→h 6 = .bx [.v (.bool false),.emp,.v (.int .i64 0),.v (.bool false),.emp,.v (.int .i64 0),.v (.bool false)]→h 7 = .bx (az x) →
  ∃ hh,au 0 [6,7] (aq (ak R (ae false) gw) [1,2,3,6,7,8] [3,6,7] s h)=some (.normal,⟨upd (upd (fun _ => .any) 7 (.ref 7 none 0 0 0)) 6 (.ref 6 none 0 0 0),hh⟩)∧hh 6 = .bx [.v (.bool false),.emp,.v (.int .i64 0),.v (.bool false),.emp,.v (.int .i64 0),.v (.bool false)]∧hh 7 = .bx (az (DN p dom (a.terms.drop i) x)):=by
 intro k
 induction k with
 | zero =>
  intro i hi x ox s h h1 h2 h3 h6 h7 h8' k3 k6 k7
  have e1:((i:Int) < a.terms.length)=False:=ff (by omega)
  rw [List.drop_eq_nil_of_le (by omega),ao]
  simp only [az] at k7
  refine ⟨?hh0,?_,?_,?_⟩
  rotate_left
  ·simp only [gw,go_sem,↓reduceIte,amO,amQ,amP,amT,h1,h2,h3,h6,h7,h8',k3,k6,k7,e1]
   rfl
  ·rfl
  ·rfl
 | succ k ih =>
  intro i hi x ox s h h1 h2 h3 h6 h7 h8' k3 k6 k7
  have hlt:i < a.terms.length:=by omega
  have e1:((i:Int) < a.terms.length)=True:=tt (by omega)
  have ht:a.terms[i]?=some a.terms[i]:=List.getElem?_eq_getElem hlt
  have e2:aV (ez a.terms) (i:Int)=some (.ipt (dY a.terms[i])):=pC rfl ht
  have e5:IntKind.i64.wrap ((i:Int)+1)=((i+1:Nat):Int):=wi (by omega) (by omega)
  have okt:=oa.t a.terms[i] (List.getElem_mem hlt)
  obtain ⟨c1,c2,c3,c4,c5⟩:=u9 (hv a.terms[i] (List.getElem_mem hlt))
  rw [List.drop_eq_getElem_cons hlt,ao]
  have ih':=ih (i+1) (by omega)
  unfold DN
  generalize a.terms[i]=t at e2 ht okt c1 c2 c3 c4 c5 ⊢
  have hpt:=yK (d:=t.c)
  have hin:=Xb (dom:=dom) od (a:=a) (t:=t) (ti:=i) ht (by omega) hl (by omega) (nR c4) (p:=p) (c6:=[.v (.bool false),.emp,.v (.int .i64 0),.v (.bool false),.emp,.v (.int .i64 0),.v (.bool false)]) (c7:=az x) rfl rfl dom.length 0 (Nat.zero_add _) ⟨t.c,t.c,false⟩ ⟨okt.c,okt.c⟩
  simp only [List.drop_zero,Int.natCast_zero] at hin
  have oy:=Sz (p:=p) dom t.exps ⟨t.c,t.c,false⟩ ⟨okt.c,okt.c⟩
  generalize AI p dom t.exps ⟨t.c,t.c,false⟩=y at hin oy ⊢
  have hadd:=W6 ox oy (p:=p)
  have oz:=NZ (x:=x) (y:=y) (p:=p)
  generalize qQ x y p=z at hadd oz ⊢
  generalize hL0:aq (ak R (ae false) eM) [1,2,3,6,7,8,9,10] [3,6,7,9]=L0 at hin
  have hin2:∀ (S:am) (H:ac) (X:Option (Ex × St)),au 2 [1,2,3,6,7,8,9] (L0 S H)=X→S 1 = .sl 7 (dp dom)→S 2=I p→S 3 = .ref 3 none 0 0 0→S 6 = .ref 6 none 0 0 0→S 7 = .ref 7 none 0 0 0→S 8=I i→S 9 = .ref 9 none 0 0 0→S 10=I 0 →
   H 3 = .bx [I a.vars,.sl 4 (ez a.terms)]→H 6 = .bx [.v (.bool false),.emp,.v (.int .i64 0),.v (.bool false),.emp,.v (.int .i64 0),.v (.bool false)]→H 7 = .bx (az x)→H 9 = .bx (az ⟨t.c,t.c,false⟩) →
   ∃ hh,X=some (.normal,⟨upd (upd (upd (upd (upd (upd (upd (fun _ => .any) 9 (.ref 9 none 0 0 0)) 8 (I i)) 7 (.ref 7 none 0 0 0)) 6 (.ref 6 none 0 0 0)) 3 (.ref 3 none 0 0 0)) 2 (I p)) 1 (.sl 7 (dp dom)),hh⟩) ∧
    hh 3 = .bx [I a.vars,.sl 4 (ez a.terms)]∧hh 6 = .bx [.v (.bool false),.emp,.v (.int .i64 0),.v (.bool false),.emp,.v (.int .i64 0),.v (.bool false)]∧hh 7 = .bx (az x)∧hh 9 = .bx (az y)∧∀ b,b ≠ 3→b ≠ 6→b ≠ 7→b ≠ 9→hh b = .dead:=fun S H X hX=>by
   rw [← hX]
   exact hin S H
  have hX:∀ s h,ak R (ae false) (.loop [1,2,3,6,7,8,9,10] [3,6,7,9] eM) s h=L0 s h:=fun s h=>by rw [← hL0]; rfl
  clear hL0
  generalize aq _ _ _=L at ih' ⊢
  clear hin
  simp only [dY] at e2
  simp only [ax,az,af,aj] at hpt hadd k7 hin2
  simp only [gw,hX,go_sem,↓reduceIte,amO,amQ,amP,amR,amT,h1,h2,h3,h6,h7,h8',k3,k6,k7,e1,e2,hpt]
  generalize hB:au 2 [1,2,3,6,7,8,9] (L0 _ _)=X
  obtain ⟨hh,g0,g3,g6,g7,g9,gd⟩:=hin2 _ _ _ hB rfl rfl rfl rfl rfl rfl rfl rfl rfl rfl rfl rfl
  rw [g0]
  simp only [go_sem,↓reduceIte,amO,amQ,amP,amR,ne_eq,not_false_eq_true,g7,g9,gd,hadd,e5]
  refine ih' z oz _ _ ?_ ?_ ?_ ?_ ?_ ?_ ?_ ?_ ?_
  all_goals first | rfl | exact g3 | exact g6
theorem Qj {a:Rp} {dom:List Ri} (oa:OkP a) (od:∀ x ∈ dom,OkI x) (h2:dom.length≤100000) {p:Int}:R F.r24_Naive [cI a,.sl 7 (dp dom),I p] []=some (ax (sP a dom p),[]):=by
 refine av Mm Ml (EJ false) rfl ?_
 have hd:=Ng oa od h2
 have hp:=K3 (p:=p)
 have hw:=jr
 unfold sP
 simp only [cI] at hd
 simp only [ax,az] at hw
 cases hb1:sO a dom with
 | false =>
  rw [hb1] at hd
  rw [Bool.false_and,if_neg Bool.false_ne_true]
  simp only [iT,pO,cI,ax,az,go_sem,↓reduceIte,amO,amQ,amP,amR,hd,hw]
 | true =>
  rw [hb1] at hd
  rw [Bool.true_and]
  cases hb2:ey p with
  | false =>
   rw [hb2] at hp
   rw [if_neg Bool.false_ne_true]
   simp only [iT,pO,cI,ax,az,go_sem,↓reduceIte,amO,amQ,amP,amR,hd,hp,hw]
  | true =>
   rw [hb2] at hp
   rw [if_pos rfl]
   simp only [sO,vp,Bool.and_eq_true,decide_eq_true_eq] at hb1
   obtain ⟨⟨v1,v2,v3,v4⟩,v5,v6⟩:=hb1
   have ho:=Nh oa od (N1 _ _ v4) v5 v2 v3 (p:=p) a.terms.length 0 (Nat.zero_add _) ⟨aQ,aQ,false⟩ ⟨bw.2,bw.2⟩
   simp only [List.drop_zero,Int.natCast_zero] at ho
   generalize DN p dom a.terms ⟨aQ,aQ,false⟩=z at ho ⊢
   have hpt:=yK (d:=aQ)
   generalize hL0:aq (ak R (ae false) gw) [1,2,3,6,7,8] [3,6,7]=L0 at ho
   have hX:∀ s h,ak R (ae false) (.loop [1,2,3,6,7,8] [3,6,7] gw) s h=L0 s h:=fun s h=>by rw [← hL0]; rfl
   clear hL0
   have ho2:∀ (S:am) (H:ac) (X:Option (Ex × St)),au 0 [6,7] (L0 S H)=X→S 1 = .sl 7 (dp dom)→S 2=I p→S 3 = .ref 3 none 0 0 0→S 6 = .ref 6 none 0 0 0→S 7 = .ref 7 none 0 0 0→S 8=I 0 →
    H 3 = .bx [I a.vars,.sl 4 (ez a.terms)]→H 6 = .bx [.v (.bool false),.emp,.v (.int .i64 0),.v (.bool false),.emp,.v (.int .i64 0),.v (.bool false)]→H 7 = .bx (az ⟨aQ,aQ,false⟩) →
    ∃ hh,X=some (.normal,⟨upd (upd (fun _ => .any) 7 (.ref 7 none 0 0 0)) 6 (.ref 6 none 0 0 0),hh⟩)∧hh 6 = .bx [.v (.bool false),.emp,.v (.int .i64 0),.v (.bool false),.emp,.v (.int .i64 0),.v (.bool false)]∧hh 7 = .bx (az z):=fun S H X hX=>by
    rw [← hX]
    exact ho S H
   clear ho
   simp only [ax,az,af,aj,aQ] at hpt ho2
   simp only [iT,pO,hX,cI,ax,az,go_sem,↓reduceIte,amO,amQ,amP,amR,hd,hp,hpt]
   generalize hB:au 0 [6,7] (L0 _ _)=X
   obtain ⟨hh,g0,g6,g7⟩:=ho2 _ _ _ hB rfl rfl rfl rfl rfl rfl rfl rfl rfl
   rw [g0]
   simp only [go_sem,↓reduceIte,amO,amQ,amP,amR,g6,g7]
end Go.Ab
namespace Go.Ab
open Go Go.IntWalk
set_option maxRecDepth 4000
set_option maxHeartbeats 1000000
def wl (d:Rd):Bool:=decide (20 < d.m.length) || (decide (300 < d.e) || decide (d.e < -300))
theorem yM {d:Rd}:R F.l24_long [af d] []=some (B (wl d),[]):=by
 refine av O9 O8 (Hl false) rfl ?_
 unfold wl
 by_cases h1:20 < d.m.length
 ·have e1:(20 < (d.m.length:Int))=True:=tt (by omega)
  rw [decide_eq_true h1,Bool.true_or]
  simp only [kc,rk,af,aj,go_sem,↓reduceIte,amO,amQ,amP,e1]
 ·have e1:(20 < (d.m.length:Int))=False:=ff (by omega)
  rw [decide_eq_false h1,Bool.false_or]
  by_cases h2:300 < d.e
  ·have e2:(300 < d.e)=True:=tt h2
   rw [decide_eq_true h2,Bool.true_or]
   simp only [kc,rk,af,aj,go_sem,↓reduceIte,amO,amQ,amP,e1,e2]
  ·have e2:(300 < d.e)=False:=ff h2
   rw [decide_eq_false h2,Bool.false_or]
   simp only [kc,rk,af,aj,go_sem,↓reduceIte,amO,amQ,amP,e1,e2]
def wm (t:Rt):Bool:=wl t.c || decide (8 < t.exps.length)
theorem Xc {t:Rt}:R F.l24_few_1 [.agg (dY t)] []=some (B (wm t),[]):=by
 refine av Mq Mp (EL false) rfl ?_
 have hl:=yM (d:=t.c)
 simp only [af,aj] at hl
 unfold wm
 cases h1:wl t.c with
 | true =>
  rw [h1] at hl
  rw [Bool.true_or]
  simp only [lk,tN,dY,go_sem,↓reduceIte,amO,amQ,amP,amR,hl]
 | false =>
  rw [h1] at hl
  rw [Bool.false_or]
  have e:decide ((8:Int) < (t.exps.length:Int))=decide (8 < t.exps.length):=by rw [decide_eq_decide]; omega
  simp only [lk,tN,dY,go_sem,↓reduceIte,amO,amQ,amP,amR,hl,e]
theorem Ce (m:List Nat):(aE m).map (fun r=>match r with | [.v (.int _ x)]=>x.toNat | _=>0)=m:=by
 unfold aE
 rw [List.map_map]
 exact (List.map_congr_left (g:=fun c=>c) fun x _=>by simp).trans (List.map_id' _)
theorem UU (m:List Int):(dO m).map (fun r=>match r with | [.v (.int _ x)]=>x | _=>0)=m:=by
 unfold dO
 rw [List.map_map]
 exact (List.map_congr_left (g:=fun c=>c) fun x _=>by simp).trans (List.map_id' _)
theorem UV {l:List Rt} (h2:l.length≤100000):R F.slices_ContainsFunc_api_Term_api_Term_ [.sl 4 (ez l),.fn F.l24_few_1 [] []] []=some (B (l.any wm),[]):=by
 let p:List AV→Bool:=fun row=>match row with | [.sl _ m1,.v (.bool n2),.sl _ m2,.v (.int _ e2)]=>wm ⟨m1.map (fun r=>match r with | [.v (.int _ x)]=>x | _=>0),⟨n2,m2.map (fun r=>match r with | [.v (.int _ x)]=>x.toNat | _=>0),e2⟩⟩ | _=>false
 have hp:∀ t:Rt,p (dY t)=wm t:=fun t=>by
  show wm ⟨(dO t.exps).map _,⟨t.c.neg,(aE t.c.m).map _,t.c.e⟩⟩=_
  rw [Ce,UU]
 have h1:=yu (k:=4) (g:=true) (f:=F.l24_few_1) (rows:=ez l) (p:=p) kS kR (jQ false) rfl (nf false _) (by rw [WT]; omega) (fun row hr=>by
  simp only [ez,List.mem_map] at hr
  obtain ⟨t,ht,rfl⟩:=hr
  have hd:=Xc (t:=t)
  refine ⟨.agg (dY t),rfl,rfl,?_⟩
  rw [hp]
  simp only [dY] at hd
  simp only [dY,go_sem,hd])
 have h2:=uU (k:=4) jP jO (iH false) rfl (nf false _) (kx false) (by simp only [go_sem]) h1
 have h3:(ez l).any p=l.any wm:=by
  unfold ez
  rw [List.any_map]
  congr 1
  funext t
  exact hp t
 rw [h3] at h2
 exact h2
def Qk (a:Rp):Bool:=decide (a.vars≤4) && (decide (a.terms.length≤12) && !(a.terms.any wm))
theorem Y2 {a:Rp}:R F.l24_few [cI a] []=some (B (Qk a),[]):=by
 refine av Rg Rf (JF false) rfl ?_
 unfold Qk
 by_cases h1:a.vars≤4
 ·have e1:(a.vars≤4)=True:=tt h1
  rw [decide_eq_true h1,Bool.true_and]
  by_cases h2:a.terms.length≤12
  ·have e2:((a.terms.length:Int)≤12)=True:=tt (by omega)
   rw [decide_eq_true h2,Bool.true_and]
   have hc:=UV (l:=a.terms) (by omega)
   simp only [lN,tg,cI,go_sem,↓reduceIte,amO,amQ,amP,e1,e2,hc]
  ·have e2:((a.terms.length:Int)≤12)=False:=ff (by omega)
   rw [decide_eq_false h2,Bool.false_and]
   simp only [lN,tg,cI,go_sem,↓reduceIte,amO,amQ,amP,e1,e2]
 ·have e1:(a.vars≤4)=False:=ff h1
  rw [decide_eq_false h1,Bool.false_and]
  simp only [lN,tg,cI,go_sem,↓reduceIte,amO,amQ,amP,e1]
def yN (x:Ri):Bool:=wl x.lo || wl x.hi
theorem UW {x:Ri}:R F.l24_near_1 [ax x] []=some (B (yN x),[]):=by
 refine av JH JG (C7 false) rfl ?_
 have h1:=yM (d:=x.lo)
 have h2:=yM (d:=x.hi)
 simp only [af,aj] at h1 h2
 unfold yN
 cases g1:wl x.lo with
 | true =>
  rw [g1] at h1
  rw [Bool.true_or]
  simp only [jX,r7,ax,az,go_sem,↓reduceIte,amO,amQ,amP,amR,h1]
 | false =>
  rw [g1] at h1
  rw [Bool.false_or]
  simp only [jX,r7,ax,az,go_sem,↓reduceIte,amO,amQ,amP,amR,h1,h2]
theorem UX {l:List Ri} (h2:l.length≤100000):R F.slices_ContainsFunc_api_Interval_api_Interval_ [.sl 7 (dp l),.fn F.l24_near_1 [] []] []=some (B (l.any yN),[]):=by
 let p:List AV→Bool:=fun row=>match row with | [.v (.bool n1),.sl _ m1,.v (.int _ e1),.v (.bool n2),.sl _ m2,.v (.int _ e2),.v (.bool a)]=>yN ⟨⟨n1,m1.map (fun r=>match r with | [.v (.int _ x)]=>x.toNat | _=>0),e1⟩,⟨n2,m2.map (fun r=>match r with | [.v (.int _ x)]=>x.toNat | _=>0),e2⟩,a⟩ | _=>false
 have hp:∀ x:Ri,p (az x)=yN x:=fun x=>by
  show yN ⟨⟨x.lo.neg,(aE x.lo.m).map _,x.lo.e⟩,⟨x.hi.neg,(aE x.hi.m).map _,x.hi.e⟩,x.all⟩=_
  rw [Ce,Ce]
 have h1:=yu (k:=7) (g:=true) (f:=F.l24_near_1) (rows:=dp l) (p:=p) dw dv (c8 false) rfl (nf false _) (by rw [NV]; omega) (fun row hr=>by
  simp only [dp,List.mem_map] at hr
  obtain ⟨x,hx,rfl⟩:=hr
  have hd:=UW (x:=x)
  refine ⟨ax x,rfl,rfl,?_⟩
  rw [hp]
  simp only [ax,az] at hd
  simp only [ax,az,go_sem,hd])
 have h2:=uU (k:=7) cZ cY (cH false) rfl (nf false _) (dm false) (by simp only [go_sem]) h1
 have h3:(dp l).any p=l.any yN:=by
  unfold dp
  rw [List.any_map]
  congr 1
  funext x
  exact hp x
 rw [h3] at h2
 exact h2
def IG (l:List Ri):Bool:=decide (l.length≤8) && !(l.any yN)
theorem Xd {l:List Ri}:R F.l24_near [.sl 7 (dp l)] []=some (B (IG l),[]):=by
 refine av O7 O6 (Hi false) rfl ?_
 unfold IG
 by_cases h1:l.length≤8
 ·have e1:((l.length:Int)≤8)=True:=tt (by omega)
  rw [decide_eq_true h1,Bool.true_and]
  have hc:=UX (l:=l) (by omega)
  simp only [mJ,vF,go_sem,↓reduceIte,amO,amQ,amP,e1,hc]
 ·have e1:((l.length:Int)≤8)=False:=ff (by omega)
  rw [decide_eq_false h1,Bool.false_and]
  simp only [mJ,vF,go_sem,↓reduceIte,amO,e1]
structure Len1 (x:Ri):Prop where
 lo:Lb x.lo.m∧x.lo.m.length≤100000
 hi:Lb x.hi.m∧x.hi.m.length≤100000
theorem S1 {x:Ri} (h:Len1 x):R F.r05_Equal [ax x,ax x] []=some (B true,[]):=by
 refine av Mo Mn (EK false) rfl ?_
 have h1:=G6 h.lo.1 h.lo.2
 have h2:=G6 h.hi.1 h.hi.2
 simp only [af,aj] at h1 h2
 have e2:(false != (x.all == x.all))=true:=by rw [beq_self_eq_true]; rfl
 simp only [og,As,ax,az,go_sem,↓reduceIte,amO,amQ,amP,amR,e2,h1,h2]
theorem Ql {x:Ri} (h:Len1 x):R F.l24_equal [ax x,ax x] []=some (B true,[]):=by
 refine av Mk Mj (EI false) rfl ?_
 have h1:=S1 h
 simp only [ax,az] at h1
 cases ha:x.all with
 | true =>
  rw [ha] at h1
  simp only [lj,tM,ax,az,go_sem,↓reduceIte,amO,amQ,amP,amR,ha]
 | false =>
  rw [ha] at h1
  simp only [lj,tM,ax,az,go_sem,↓reduceIte,amO,amQ,amP,amR,ha,h1]
def VI (x:Ri):Prop:=(vd x.lo=true∧Ok0 x.lo)∧(vd x.hi=true∧Ok0 x.hi)
theorem VI.len {x:Ri} (h:VI x):Len1 x:=⟨⟨h.1.2.1,Nat.le_trans (DK h.1.1 h.1.2.1) (by decide)⟩,⟨h.2.2.1,Nat.le_trans (DK h.2.1 h.2.2.1) (by decide)⟩⟩
theorem UY:VI jj:=⟨bw,bw⟩
theorem Xe {x y:Ri} {p:Int}:VI (qQ x y p):=by
 unfold qQ
 split
 ·unfold fp
  split
  ·exact ⟨⟨N7,zw⟩,⟨N7,zw⟩⟩
  ·exact UY
 ·exact UY
theorem Y3 {p:Int} {dom:List Ri}:∀ (l:List Rt) (s:Ri),VI s→VI (DN p dom l s):=by
 intro l
 induction l with
 | nil=>exact fun s h=>h
 | cons t l ih=>exact fun s h=>ih _ Xe
theorem S2 {a:Rp} {dom:List Ri} {p:Int}:VI (sP a dom p):=by
 unfold sP
 split
 ·exact Y3 _ _ ⟨bw,bw⟩
 ·exact UY
theorem Y4 {a:Rp} {dom:List Ri} {p:Int} (haw:R F.l24_awake [] []=some (B true,[])) (oc:∀ t ∈ a.terms,Ok0 t.c) (od:∀ x ∈ dom,OkI x):R F.l24_BoundNaive [cI a,.sl 7 (dp dom),I p] []=some (B true,[]):=by
 refine av A1 AZ (w7 false) rfl ?_
 have hf:=Y2 (a:=a)
 have hn:=Xd (l:=dom)
 simp only [cI] at hf
 cases h1:Qk a with
 | false =>
  rw [h1] at hf
  simp only [dt,gF,cI,go_sem,↓reduceIte,amO,amQ,amP,amR,haw,hf]
 | true =>
  rw [h1] at hf
  cases h2:IG dom with
  | false =>
   rw [h2] at hn
   simp only [dt,gF,cI,go_sem,↓reduceIte,amO,amQ,amP,amR,haw,hf,hn]
  | true =>
   rw [h2] at hn
   by_cases h3:200 < p
   ·have e3:(200 < p)=True:=tt h3
    simp only [dt,gF,cI,go_sem,↓reduceIte,amO,amQ,amP,amR,haw,hf,hn,e3]
   ·have e3:(200 < p)=False:=ff h3
    unfold Qk at h1
    unfold IG at h2
    simp only [Bool.and_eq_true,decide_eq_true_eq,Bool.not_eq_true'] at h1 h2
    have oa:OkP a:=⟨fun t ht=>⟨oc t ht,by
     have:=List.any_eq_false.1 h1.2.2 t ht
     unfold wm at this
     simp only [Bool.or_eq_true,decide_eq_true_eq,not_or] at this
     omega⟩⟩
    have n1:=UK oa od (by omega) (p:=p)
    have n2:=Qj oa od (by omega) (p:=p)
    have n3:=Ql (S2 (a:=a) (dom:=dom) (p:=p)).len
    generalize sP a dom p=z at n1 n2 n3
    simp only [cI,ax,az] at n1 n2 n3
    simp only [dt,gF,cI,go_sem,↓reduceIte,amO,amQ,amP,amR,amS,amT,haw,hf,hn,e3,n1,n2,n3]
end Go.Ab
