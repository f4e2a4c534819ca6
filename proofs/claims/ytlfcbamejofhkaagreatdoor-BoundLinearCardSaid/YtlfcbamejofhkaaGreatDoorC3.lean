/-
  The statement BoundLinear holds of the given program: its card, with the tied table of bits.TrailingZeros32; no further conditions. Part C3.
-/
import Derived.Test.YtlfcbamejofhkaaGreatDoorC2
open Nat renaming reduceEqDiff → alS, reduceAdd → alT, reduceMul → alU, reduceLeDiff → alV, reduceLT → alW, reduceBEq → alX, reduceSub → al1, reduceMod → al3
open Int renaming reduceLT → alY, reduceToNat → alZ, reduceEq → al0, reduceLE → al2
namespace Go.Ab
open Go Go.IntWalk
set_option maxRecDepth 4000
set_option maxHeartbeats 1000000
theorem Tn {a b:List Nat} (ha:Lb a) (hb:Lb b) {i n:Nat} (h1:a.length≤100000) (h2:b.length≤100000) (hi:i < a.length):∀ (bs:List Nat) (k:Nat) (D S:List Nat) (c:Nat),b.drop k=bs→k≤b.length→D.length=i+k→bs.length≤S.length→(D++S).length=n→Lb S→c < 4294967296 →
  ∀ (s:aj) (h:ac),s 0=lm a→s 1=lm b→s 5 = .rsl 18 none 1 0 n→s 6=I i→s 7=W c→s 8=I k→h 18 = .ar 1 (aC (D++S)) →
  au 2 [0,1,5,6,7] (aq (ak R (ae false) lD) [0,1,5,6,7,8] [18] s h) =
   some (.normal,⟨upd (upd (upd (upd (upd (fun _ => .any) 7 (W ((mi (a.getD i 0) c bs S).2:Nat))) 6 (I i)) 5 (.rsl 18 none 1 0 n)) 1 (lm b)) 0 (lm a),upd (fun _ => .dead) 18 (.ar 1 (aC (D++(mi (a.getD i 0) c bs S).1)))⟩):=by
 have hx:=aZ ha i
 intro bs
 induction bs with
 | nil =>
  intro k D S c hd hk hD hS hn hLS hc s h h0 h1 h5 h6 h7 h8 hh
  have:k=b.length:=by
   have:=congrArg List.length hd
   simp at this
   omega
  subst this
  rw [ao]
  simp only [lD,go_sem,↓reduceIte,alS,alX,h0,h1,h5,h6,h7,h8,hh,Int.lt_irrefl,mi]
 | cons y bs ih =>
  intro k D S c hd hk hD hS hn hLS hc s h h0 h1' h5 h6 h7 h8 hh
  obtain ⟨o,S,rfl⟩:∃ o S',S=o::S':=by
   cases S with
   | nil=>simp at hS
   | cons o S=>exact ⟨o,S,rfl⟩
  have hlt:k < b.length:=by
   have:=congrArg List.length hd
   simp at this
   omega
  have hy:b.getD k 0=y:=by
   have:=congrArg (·[0]?) hd
   simp only [List.getElem?_drop,Nat.add_zero,List.getElem?_cons_zero] at this
   rw [List.getD_eq_getElem?_getD,this]
   rfl
  have hyb:y < 4294967296:=by rw [← hy]; exact aZ hb k
  have hob:o < 4294967296:=(da.1 hLS).1
  have e0:aN (aC a) (i:Int)=some (.ipt [U (a.getD i 0:Nat)]):=aS rfl hi
  generalize a.getD i 0=x at hx e0 ih ⊢
  have hml:=I6 hx hyb hob hc
  have hxy:x*y < 18446744073709551616:=by omega
  have ih':=ih (k+1) (D++[(x*y+o+c) % 4294967296]) S ((x*y+o+c) / 4294967296) (by rw [← List.drop_drop,hd]; rfl) hlt (by simp [hD]; omega) (by simpa using hS) (by simpa using hn) (da.1 hLS).2 (by omega)
  have e1:((k:Int) < (b.length:Int))=True:=tt (by omega)
  have e2:aN (aC b) (k:Int)=some (.ipt [U (y:Nat)]):=by rw [aS rfl hlt,hy]
  have e3:IntKind.i64.wrap ((k:Int)+1)=((k+1:Nat):Int):=wi (by omega) (by omega)
  have e4:IntKind.i64.wrap ((i:Int)+(k:Int))=((i+k:Nat):Int):=wi (by omega) (by omega)
  have e5:(0≤((i+k:Nat):Int))=True:=tt (by omega)
  have hin:i+k < n:=by rw [← hn]; simp [hD]
  have e6:(((i+k:Nat):Int) < (n:Int))=True:=tt (by omega)
  have e7:(aC (D++o::S))[i+k]?=some [U (o:Nat)]:=by
   rw [jN (by simp [hD])]
   simp [List.getD_eq_getElem?_getD,hD]
  have f1:IntKind.u64.wrap (x:Int)=x:=cf rfl (by omega)
  have f2:IntKind.u64.wrap (y:Int)=y:=cf rfl (by omega)
  have f3:IntKind.u64.wrap ((x:Int)*(y:Int))=((x*y:Nat):Int):=cf (by simp) hxy
  have f4:IntKind.u64.wrap (o:Int)=o:=cf rfl (by omega)
  have f5:IntKind.u64.wrap (((x*y:Nat):Int)+(o:Int))=((x*y+o:Nat):Int):=cf (by omega) (by omega)
  have f6:IntKind.u64.wrap (((x*y+o:Nat):Int)+(c:Int))=((x*y+o+c:Nat):Int):=cf (by omega) (by omega)
  have f10:=kN (n:=x*y+o+c) rfl (by omega)
  have f7:IntKind.u32.wrap (((x*y+o+c) % 4294967296:Nat):Int)=(((x*y+o+c) % 4294967296:Nat):Int):=oo rfl (by omega)
  have f8:=io (n:=x*y+o+c) (k:=32) (kk := .u64) (j:=32) rfl rfl (by omega)
  have f9:(aC (D++o::S)).set (i+k) [U ((x*y+o+c) % 4294967296:Nat)]=aC (D++[(x*y+o+c) % 4294967296]++S):=by
   rw [jO,← hD,List.set_append_right _ _ (Nat.le_refl _)]
   simp
  rw [ao]
  generalize aq _ _ _=L at ih' ⊢
  simp only [lD,go_sem,↓reduceIte,alS,alV,alW,alX,h0,h1',h5,h6,h7,h8,hh,e0,e1,e2,e3,e4,e5,e6,e7,f1,f2,f3,f4,f5,f6,f7,f8,f9,f10,Int.toNat_natCast,Nat.zero_add,mi]
  rw [ih' _ _ rfl rfl rfl rfl rfl rfl rfl]
  simp only [List.append_assoc,List.singleton_append]
theorem Jr {a b:List Nat} {i n j:Nat} {rows:List (List AV)} (s:aj) (h:ac) (h0:s 0=lm a) (h1:s 1=lm b) (h5:s 5 = .rsl 18 none 1 0 n) (h6:s 6=I i) (h7:s 7=W 0) (h10:s 10=I j) (hh:h 18 = .ar 1 rows) :
  au 4 [0,1,5,6] (aq (ak R (ae false) iF) [0,1,5,6,7,10] [18] s h)=some (.normal,⟨upd (upd (upd (upd (fun _ => .any) 6 (I i)) 5 (.rsl 18 none 1 0 n)) 1 (lm b)) 0 (lm a),upd (fun _ => .dead) 18 (.ar 1 rows)⟩):=by
 rw [ao]
 simp only [iF,go_sem,↓reduceIte,alS,alX,h0,h1,h5,h6,h7,h10,hh,Int.lt_irrefl]
theorem V6 {a b:List Nat} {i n j c:Nat} {rows rows':List (List AV)} (hc:c < 4294967296) (hj:j < n) (hn:n≤1000000) (hg:rows[j]?=some [U (0:Nat)]) (hs:rows.set j [U (c:Nat)]=rows') (hz:c=0→rows=rows') (s:aj) (h:ac) (h0:s 0=lm a) (h1:s 1=lm b) (h5:s 5 = .rsl 18 none 1 0 n) (h6:s 6=I i) (h7:s 7=W c) (h10:s 10=I j) (hh:h 18 = .ar 1 rows) :
  au 4 [0,1,5,6] (aq (ak R (ae false) iF) [0,1,5,6,7,10] [18] s h)=some (.normal,⟨upd (upd (upd (upd (fun _ => .any) 6 (I i)) 5 (.rsl 18 none 1 0 n)) 1 (lm b)) 0 (lm a),upd (fun _ => .dead) 18 (.ar 1 rows')⟩):=by
 by_cases h00:c=0
 ·rw [h00] at h7
  rw [← hz h00]
  exact Jr s h h0 h1 h5 h6 h7 h10 hh
 ·have e1:(0 < (c:Int))=True:=tt (by omega)
  have e2:(0≤(j:Int))=True:=tt (by omega)
  have e3:((j:Int) < (n:Int))=True:=tt (by omega)
  have e4:IntKind.u64.wrap ((0:Nat):Int)=((0:Nat):Int):=cf rfl (by omega)
  have e5:IntKind.u64.wrap (((0:Nat):Int)+(c:Int))=(c:Int):=cf (by omega) (by omega)
  have e6:=kN (n:=c) rfl (by omega)
  rw [Nat.mod_eq_of_lt hc] at e6
  have e7:IntKind.u32.wrap (c:Int)=(c:Int):=oo rfl hc
  have e8:=io (n:=c) (k:=32) (kk := .u64) (j:=32) rfl rfl (by omega)
  rw [Nat.div_eq_of_lt hc] at e8
  have e9:IntKind.i64.wrap ((j:Int)+1)=((j+1:Nat):Int):=wi (by omega) (by omega)
  have c0:=Jr (a:=a) (b:=b) (i:=i) (n:=n) (j:=j+1) (rows:=rows')
  rw [ao]
  generalize aq _ _ _=L at c0 ⊢
  simp only [iF,go_sem,↓reduceIte,alS,alV,alX,h0,h1,h5,h6,h7,h10,hh,e1,e2,e3,e4,e5,e6,e7,e8,e9,hg,hs,Int.toNat_natCast,Nat.zero_add]
  exact c0 _ _ rfl rfl rfl rfl rfl rfl rfl
theorem QS {a b:List Nat} (ha:Lb a) (hb:Lb b) (h1:a.length≤10000) (h2:b.length≤10000):∀ (k i:Nat),i+k=a.length→∀ (s:aj) (h:ac),s 0=lm a→s 1=lm b→s 5 = .rsl 18 none 1 0 (a.length+b.length+1)→s 6=I i→h 18 = .ar 1 (aC (aR a b i++List.replicate (k+1) 0)) →
  au 0 [5] (aq (ak R (ae false) iG) [0,1,5,6] [18] s h) =
   some (.normal,⟨upd (fun _ => .any) 5 (.rsl 18 none 1 0 (a.length+b.length+1)),upd (fun _ => .dead) 18 (.ar 1 (aC (aR a b a.length++[0])))⟩):=by
 intro k
 induction k with
 | zero =>
  intro i hi s h h0 h1 h5 h6 hh
  have:i=a.length:=by omega
  subst this
  rw [ao]
  simp only [Nat.zero_add,List.replicate_one] at hh
  simp only [iG,go_sem,↓reduceIte,alS,alX,h0,h1,h5,h6,hh,Int.lt_irrefl]
 | succ k ih =>
  intro i hi s h h0 g1 h5 h6 hh
  have ih':=ih (i+1) (by omega)
  have hx:=aZ ha i
  have hP:(aR a b i).length=i+b.length:=be _ _
  have hLP:Lb (aR a b i):=gh _ _
  have hsp:aR a b i++List.replicate (k+1+1) 0=(aR a b i).take i++((aR a b i).drop i++List.replicate (k+1+1) 0):=by rw [← List.append_assoc,List.take_append_drop]
  have e1:((i:Int) < (a.length:Int))=True:=tt (by omega)
  have e3:IntKind.i64.wrap ((i:Int)+1)=((i+1:Nat):Int):=wi (by omega) (by omega)
  have e4:IntKind.i64.wrap ((i:Int)+(b.length:Int))=((i+b.length:Nat):Int):=wi (by omega) (by omega)
  have lp:=Tn ha hb (i:=i) (n:=a.length+b.length+1) (by omega) (by omega) (by omega) b 0 ((aR a b i).take i) ((aR a b i).drop i++List.replicate (k+1+1) 0) 0 rfl (Nat.zero_le _) (by simp [hP]) (by simp [hP]) (by simp [hP]; omega)
   (gY.2 ⟨lH hLP i,fun y hy=>by rw [List.eq_of_mem_replicate hy]; omega⟩) (by omega)
  rw [I5 _ _ _ _ _ (by simp [hP])] at lp
  have ml:(mi (a.getD i 0) 0 b ((aR a b i).drop i)).1.length=b.length:=by rw [sq]; simp [hP]
  have mc:=uK hx b ((aR a b i).drop i) 0 hb (lH hLP i) (by omega)
  have ps:=Fe ha hb (show i < a.length from by omega)
  rw [hsp] at hh
  generalize mi (a.getD i 0) 0 b ((aR a b i).drop i)=r at *
  have hlen:((aR a b i).take i++r.1).length=i+b.length:=by simp [hP,ml]
  have e7:(aC ((aR a b i).take i++(r.1++List.replicate (k+1+1) 0)))[i+b.length]?=some [U (0:Nat)]:=by
   rw [← List.append_assoc,jN (by simp [hP,ml]),List.getD_eq_getElem?_getD,List.getElem?_append_right (by omega)]
   simp [hlen]
  have e8:(aC ((aR a b i).take i++(r.1++List.replicate (k+1+1) 0))).set (i+b.length) [U (r.2:Nat)]=aC (aR a b (i+1)++List.replicate (k+1) 0):=by
   rw [← List.append_assoc,jO]
   have:=oZ ((aR a b i).take i++r.1) (k+1+1) r.2 0 (by omega)
   rw [hlen] at this
   have e:(aR a b i).take i++r.1++[r.2]=aR a b (i+1):=by rw [List.append_assoc]; exact ps
   rw [this,e]
   rfl
  have hz:r.2=0→aC ((aR a b i).take i++(r.1++List.replicate (k+1+1) 0))=aC (aR a b (i+1)++List.replicate (k+1) 0):=fun h0=>by
   rw [← ps,h0,List.replicate_succ]
   simp only [List.append_assoc,List.singleton_append]
  have lc:=V6 (a:=a) (b:=b) (i:=i) (n:=a.length+b.length+1) (j:=i+b.length) mc (by omega) (by omega) e7 e8 hz
  rw [ao]
  generalize aq (ak R (ae false) iG) _ _=L at ih' ⊢
  simp only [Int.natCast_zero] at lp
  simp only [iG,go_sem,↓reduceIte,alS,alX,h0,g1,h5,h6,hh,e1]
  rw [lp _ _ rfl rfl rfl rfl rfl rfl rfl]
  simp only [go_sem,↓reduceIte,alS,e4]
  rw [lc _ _ rfl rfl rfl rfl rfl rfl rfl]
  simp only [go_sem,↓reduceIte,alS,e3]
  exact ih' _ _ rfl rfl rfl rfl rfl
theorem QT {a b:List Nat} (ha:Lb a) (hb:Lb b) (h1:a.length≤10000) (h2:b.length≤10000):R F.r02_times [lm a,lm b] []=some (lm (ap (ab a*ab b)),[]):=by
 refine aB Lp Lo (DQ false) rfl ?_
 have e1:IntKind.i64.wrap ((a.length:Int)+(b.length:Int))=((a.length+b.length:Nat):Int):=wi (by omega) (by omega)
 have e1':IntKind.i64.wrap (((a.length+b.length:Nat):Int)+1)=((a.length+b.length+1:Nat):Int):=wi (by omega) (by omega)
 have e2:=fU (i:=((a.length+b.length+1:Nat):Int)) (j:=((a.length+b.length+1:Nat):Int)) rfl rfl (Nat.le_refl _) (by omega)
 have e3:((a.length+b.length+1)*4≤140737488355328)=True:=tt (by omega)
 have e4:=QS ha hb h1 h2 a.length 0 (by omega)
 have e0:aR a b 0=List.replicate b.length 0:=by
  have:∀ n,bR n 0=List.replicate n 0:=fun n=>by
   induction n with
   | zero=>rfl
   | succ n ih=>simp [bR,ih,List.replicate_succ]
  simp [aR,ab,this]
 have e5:aC (List.replicate (a.length+b.length+1) 0)=aC (aR a b 0++List.replicate (a.length+1) 0):=by
  rw [e0,List.replicate_append_replicate,show b.length+(a.length+1)=a.length+b.length+1 by omega]
 have e6:aR a b a.length=bR (a.length+b.length) (ab a*ab b):=by rw [aR,List.take_length]
 have hLb:Lb (aR a b a.length++[0]):=gY.2 ⟨by rw [e6]; exact gh _ _,da.2 ⟨by decide,rH⟩⟩
 have hlen:(aR a b a.length++[0]).length=a.length+b.length+1:=by rw [e6]; simp [be]
 have hv:ab (aR a b a.length++[0])=ab a*ab b:=by
  rw [db,e6,eI,Nat.mod_eq_of_lt]
  ·simp [ab]
  ·rw [Nat.pow_add]
   exact Nat.mul_lt_mul'' (bD ha) (bD hb)
 have ht:=o8 hLb (by rw [hlen]; omega)
 rw [hv] at ht
 have f4:=kO (aR a b a.length++[0])
 rw [hlen] at f4
 simp only [n6,y9,go_sem,↓reduceIte,alS,e1,e1',e2,e3,nc,e5]
 rw [e4 _ _ rfl rfl rfl rfl rfl]
 simp only [go_sem,↓reduceIte,alS,alU,alT,f4,ht,hlen,tE,Nat.zero_add,Nat.le_refl]
end Go.Ab
namespace Go.Ab
open Go Go.IntWalk
set_option maxRecDepth 4000
set_option maxHeartbeats 1000000
theorem aeq {m n:Nat} {i j:Int} (hi:i=m) (hj:j=n) (hm:m < 4294967296) (hn:n < 4294967296):cd .or (.v (.int .u32 i)) (.v (.int .u32 j))=some (.v (.int .u32 ((m ||| n:Nat):Int))):=by
 subst hi hj
 rw [PG]
 have e:(BitVec.ofInt IntKind.u32.bits (m:Int) ||| BitVec.ofInt IntKind.u32.bits (n:Int)).toNat=m ||| n:=by
  show (BitVec.ofInt 32 (m:Int) ||| BitVec.ofInt 32 (n:Int)).toNat=m ||| n
  rw [BitVec.toNat_or]
  simp
  rw [Nat.mod_eq_of_lt hm,Nat.mod_eq_of_lt hn]
 rw [e]
 rw [oo rfl (Nat.or_lt_two_pow (n:=32) hm hn)]
theorem V7 {x c r:Nat} (hr:r < 32) (hc:c < 2 ^ r):(c ||| x*2 ^ r % 4294967296)=(x*2 ^ r+c) % 4294967296∧x*2 ^ r / 4294967296=(x*2 ^ r+c) / 4294967296:=by
 have e:(4294967296:Nat)=2 ^ (32 - r)*2 ^ r:=by rw [← Nat.pow_add,show 32 - r+r=32 from by omega]
 have h1:x*2 ^ r % 4294967296=x % 2 ^ (32 - r)*2 ^ r:=by
  conv=>lhs; rw [e]
  rw [Nat.mul_mod_mul_right]
 have h2:x % 2 ^ (32 - r)*2 ^ r+2 ^ r≤4294967296:=by
  have h3:(x % 2 ^ (32 - r)+1)*2 ^ r≤2 ^ (32 - r)*2 ^ r:=Nat.mul_le_mul_right _ (Nat.mod_lt _ (Nat.two_pow_pos _))
  rw [← e,Nat.add_mul,Nat.one_mul] at h3
  exact h3
 constructor
 ·rw [Nat.or_comm,h1,xg hc,← h1]
  omega
 ·omega
theorem QU {a:List Nat} (ha:Lb a) {n:Nat} (h1:a.length≤100000) (hq:n / 32≤a.length):∀ (k j:Nat),n / 32+j+k=a.length→∀ (s:aj) (h:ac),s 0=lm a→s 1=I n→s 6=I (n / 32+j:Nat)→iU 33 (de (a.drop (n / 32)) (n % 32) j) (s 5) (h 33) →
  ∃ x hh,au 0 [5] (aq (ak R (ae false) dz) [0,1,5,6] [33] s h)=some (.normal,⟨upd (fun _ => .any) 5 x,hh⟩)∧iU 33 (de (a.drop (n / 32)) (n % 32) (a.length - n / 32)) x (hh 33)∧∀ a,a ≠ 33→hh a = .dead:=by
 intro k
 induction k with
 | zero =>
  intro j hi s h h0 g1 h6 hacc
  have e1:(((n / 32+j:Nat):Int) < (a.length:Int))=False:=ff (by omega)
  have:j=a.length - n / 32:=by omega
  rw [← this]
  rw [ao]
  rcases hacc with ⟨g2,h5,hh⟩ | ⟨g2,h5,hh⟩
  ·refine ⟨.emp,?hh0,?_,Or.inl ⟨g2,rfl,?_⟩,?_⟩
   rotate_left
   ·simp only [dz,go_sem,↓reduceIte,alS,h0,g1,h5,h6,hh,e1]
    rfl
   ·rfl
   ·intro b hb
    simp only [cY,hb,if_false]
  ·refine ⟨.rsl 33 none 1 0 (de (a.drop (n / 32)) (n % 32) j).length,?hh1,?_,Or.inr ⟨g2,rfl,?_⟩,?_⟩
   rotate_left
   ·simp only [dz,go_sem,↓reduceIte,alS,alX,h0,g1,h5,h6,hh,e1]
    rfl
   ·rfl
   ·intro b hb
    simp only [cY,hb,if_false]
 | succ k ih =>
  intro j hi s h h0 g1 h6 hacc
  have ih':=ih (j+1) (by omega)
  have hx:=aZ ha (n / 32+j)
  have hy:=aZ ha (n / 32+j+1)
  have hr:n % 32 < 32:=Nat.mod_lt _ (by omega)
  have t1:=su (m:=a) (i:=n / 32+j) ha (by omega)
  have t2:=su (m:=a) (i:=n / 32+j+1) ha (by omega)
  have e1:(((n / 32+j:Nat):Int) < (a.length:Int))=True:=tt (by omega)
  have e3:IntKind.i64.wrap (((n / 32+j:Nat):Int)+1)=((n / 32+j+1:Nat):Int):=wi (by omega) (by omega)
  have e5:=nf (n:=n) (m:=32) (j:=32) rfl rfl (by omega)
  have q1:((de (a.drop (n / 32)) (n % 32) j).length+1)*4≤140737488355328:=by rw [fV]; omega
  have f3:=tt q1
  have f6:=xZ (n:=a.getD (n / 32+j+1) 0) (k:=32) (kk := .u64) (j:=32) rfl rfl (by omega) (by omega)
  have f7:IntKind.u64.wrap ((a.getD (n / 32+j) 0:Int)+((a.getD (n / 32+j+1) 0*2 ^ 32:Nat):Int))=((a.getD (n / 32+j) 0+4294967296*a.getD (n / 32+j+1) 0:Nat):Int):=cf (by omega) (by omega)
  have f8:=io (n:=a.getD (n / 32+j) 0+4294967296*a.getD (n / 32+j+1) 0) (k:=n % 32) (kk := .i64) (j:=((n % 32:Nat):Int)) rfl rfl (by omega)
  have f9:=kN (n:=(a.getD (n / 32+j) 0+4294967296*a.getD (n / 32+j+1) 0) / 2 ^ (n % 32)) rfl (Nat.lt_of_le_of_lt (Nat.div_le_self _ _) (by omega))
  have f11:(a.getD (n / 32+j) 0+4294967296*a.getD (n / 32+j+1) 0) / 2 ^ (n % 32) % 4294967296=hH (a.drop (n / 32)) (n % 32) j:=by
   unfold hH
   have hg:∀ i,(a.drop (n / 32)).getD i 0=a.getD (n / 32+i) 0:=fun i=>by
    rw [List.getD_eq_getElem?_getD,List.getElem?_drop,← List.getD_eq_getElem?_getD]
   rw [hg,hg,show n / 32+(j+1)=n / 32+j+1 from rfl]
  rw [f11] at f9
  have f10:IntKind.u32.wrap ((hH (a.drop (n / 32)) (n % 32) j:Nat):Int)=((hH (a.drop (n / 32)) (n % 32) j:Nat):Int):=oo rfl (Nat.mod_lt _ (by omega))
  rw [ao]
  rw [Fk] at ih'
  generalize aq _ _ _=L at ih' ⊢
  rcases hacc with ⟨g2,h5,hh⟩ | ⟨g2,h5,hh⟩
  ·simp only [dz,go_sem,↓reduceIte,alS,alU,alT,alV,alW,h0,g1,h5,h6,hh,e1,e3,e5,t1,t2,f6,f7,f8,f9,f10]
   rw [g2] at ih'
   exact ih' _ _ rfl rfl rfl iN
  ·simp only [dz,go_sem,↓reduceIte,alS,alU,alT,alV,alW,alX,h0,g1,h5,h6,hh,e1,e3,e5,t1,t2,f3,f6,f7,f8,f9,f10,true_or,Nat.zero_add,Nat.le_refl,fC]
   exact ih' _ _ rfl rfl rfl gy
theorem V8 {a:List Nat} (ha:Lb a) {n:Nat} (h1:a.length≤10000) (hn:n≤10000000):R F.r01_Shr [lm a,I n] []=some (lm (ap (ab a / 2 ^ n)),[]):=by
 refine aB Qc Qb (IK false) rfl ?_
 have e1:=lL (n:=n) (m:=32) (j:=32) rfl rfl (by omega) (by omega)
 by_cases hq:n / 32≤a.length
 ·have hd:=lH ha (n / 32)
  have hv:ab a / 2 ^ n=ab (a.drop (n / 32)) / 2 ^ (n % 32):=by
   rw [mV ha,Nat.div_div_eq_div_mul,iR]
  rw [hv]
  have hr:=QU ha (n:=n) (by omega) hq (a.length - n / 32) 0 (by omega)
  have hall:=AD hd (r:=n % 32) (by have:n % 32 < 32:=Nat.mod_lt _ (by omega); omega)
  rw [List.length_drop] at hall
  have hL:=fV (a.drop (n / 32)) (n % 32) (a.length - n / 32)
  have hLb:Lb (de (a.drop (n / 32)) (n % 32) (a.length - n / 32)):=by
   rw [hall]
   exact gh _ _
  have hvv:ab (de (a.drop (n / 32)) (n % 32) (a.length - n / 32))=ab (a.drop (n / 32)) / 2 ^ (n % 32):=by
   rw [hall,eI,Nat.mod_eq_of_lt]
   have:=bD hd
   rw [List.length_drop] at this
   exact Nat.lt_of_le_of_lt (Nat.div_le_self _ _) this
  have q0:iU 33 (de (a.drop (n / 32)) (n % 32) 0) .emp .dead:=Or.inl ⟨rfl,rfl,rfl⟩
  have ht:=mX hLb (by rw [hL]; omega)
  rw [hvv] at ht
  rw [Nat.add_zero] at hr
  generalize hLL:aq (ak R (ae false) dz) [0,1,5,6] [33]=L at hr
  have hX:∀ s h,ak R (ae false) (.loop [0,1,5,6] [33] dz) s h=L s h:=fun s h=>by rw [← hLL]; rfl
  clear hLL
  generalize de (a.drop (n / 32)) (n % 32) 0=o0 at hr q0
  generalize de (a.drop (n / 32)) (n % 32) (a.length - n / 32)=out at hr hall hL hLb hvv ht
  generalize ap (ab (a.drop (n / 32)) / 2 ^ (n % 32))=res at ht ⊢
  have hr2:∀ (S:aj) (H:ac) (X:Option (Ex × St)),au 0 [5] (L S H)=X→S 0=lm a→S 1=I n→S 6=I (n / 32:Nat)→S 5 = .emp→H 33 = .dead→∃ x hh,X=some (.normal,⟨upd (fun _ => .any) 5 x,hh⟩)∧iU 33 out x (hh 33)∧∀ a,a ≠ 33→hh a = .dead:=fun S H X hX a0 a1 a6 a5 b=>by
   rw [← hX]
   exact hr S H a0 a1 a6 (by rw [a5,b]; exact q0)
  simp only [n4,wJ,hX,go_sem,↓reduceIte,alS,e1]
  generalize hB:au 0 [5] (L _ _)=X
  obtain ⟨x,hh,g0,hacc,gd⟩:=hr2 _ _ _ hB rfl rfl rfl rfl rfl
  rw [g0]
  rcases hacc with ⟨c1,c2,c3⟩ | ⟨c1,c2,c3⟩
  ·rw [c1] at ht
   simp only [go_sem,↓reduceIte,alS,alU,alT,c2,ht,ne_eq,not_false_eq_true,gd]
  ·simp only [go_sem,↓reduceIte,alS,alU,alT,c2,c3,ht,ne_eq,not_false_eq_true,gd,kO,Nat.zero_add,Nat.le_refl]
 ·have hz:ab a / 2 ^ n=0:=by
   rw [← iR n,← Nat.div_div_eq_div_mul,← mV ha,List.drop_of_length_le (by omega)]
   exact Nat.zero_div _
  have e2:(((n / 32:Nat):Int) < (a.length:Int))=False:=ff (by omega)
  have ht:=mX (m:=[]) rH (by simp)
  rw [hz,cO]
  rw [show ab []=0 from rfl,cO] at ht
  have hL:∀ s h,s 0=lm a→s 1=I n→s 6=I (n / 32:Nat)→s 5 = .emp→h 33 = .dead→au 0 [5] (aq (ak R (ae false) dz) [0,1,5,6] [33] s h)=some (.normal,⟨upd (fun _ => .any) 5 .emp,upd (fun _ => .dead) 33 .dead⟩):=fun s h h0 g1 h6 h5 hh=>by
   rw [ao]
   simp only [dz,go_sem,↓reduceIte,alS,h0,g1,h5,h6,hh,e2]
  simp only [n4,wJ,go_sem,↓reduceIte,alS,e1]
  rw [hL _ _ rfl rfl rfl rfl rfl]
  simp only [go_sem,↓reduceIte,alS,alU,alT,ht]
def xt (a:List Nat) (q r i k:Nat):List Nat:=List.replicate q 0++ej a r i++bT a r i::List.replicate k 0
theorem QV {a:List Nat} (ha:Lb a) {n:Nat} (h1:a.length≤100000) (hq:n / 32≤100000):∀ (k i:Nat),i+k=a.length→∀ (s:aj) (h:ac),s 0=lm a→s 1=I n→s 5 = .rsl 16 none 1 0 (n / 32+a.length+1)→s 6=I i→h 16 = .ar 1 (aC (xt a (n / 32) (n % 32) i k)) →
  au 0 [5] (aq (ak R (ae false) n5) [0,1,5,6] [16] s h)=some (.normal,⟨upd (fun _ => .any) 5 (.rsl 16 none 1 0 (n / 32+a.length+1)),upd (fun _ => .dead) 16 (.ar 1 (aC (xt a (n / 32) (n % 32) a.length 0)))⟩):=by
 intro k
 induction k with
 | zero =>
  intro i hi s h h0 g1 h5 h6 hh
  have:i=a.length:=by omega
  subst this
  rw [ao]
  simp only [n5,go_sem,↓reduceIte,alS,alX,h0,g1,h5,h6,hh,Int.lt_irrefl]
 | succ k ih =>
  intro i hi s h h0 g1 h5 h6 hh
  have ih':=ih (i+1) (by omega)
  have hx:=aZ ha i
  have hr:n % 32 < 32:=Nat.mod_lt _ (by omega)
  have hc:=pP ha (r:=n % 32) i
  have hp:2 ^ (n % 32)≤2 ^ 31:=Nat.pow_le_pow_right (by omega) (by omega)
  have hxp:a.getD i 0*2 ^ (n % 32)≤4294967295*2 ^ 31:=Nat.mul_le_mul (by omega) hp
  obtain ⟨l1,l2⟩:=V7 (x:=a.getD i 0) (c:=bT a (n % 32) i) hr hc
  have hlen:(List.replicate (n / 32) 0++ej a (n % 32) i).length=i+n / 32:=by
   rw [List.length_append,List.length_replicate,gZ]
   omega
  have e1:((i:Int) < (a.length:Int))=True:=tt (by omega)
  have e2:aN (aC a) (i:Int)=some (.ipt [U (a.getD i 0:Nat)]):=aS rfl (by omega)
  have e3:IntKind.i64.wrap ((i:Int)+1)=((i+1:Nat):Int):=wi (by omega) (by omega)
  have e4:IntKind.u64.wrap (a.getD i 0:Int)=(a.getD i 0:Int):=cf rfl (by omega)
  have e5:=nf (n:=n) (m:=32) (j:=32) rfl rfl (by omega)
  have e6:=xZ (n:=a.getD i 0) (k:=n % 32) (kk := .i64) (j:=((n % 32:Nat):Int)) rfl rfl (by omega) (by omega)
  have e7:=lL (n:=n) (m:=32) (j:=32) rfl rfl (by omega) (by omega)
  have e8:IntKind.i64.wrap ((i:Int)+((n / 32:Nat):Int))=((i+n / 32:Nat):Int):=wi (by omega) (by omega)
  have e9:IntKind.i64.wrap (((i+n / 32:Nat):Int)+1)=((i+n / 32+1:Nat):Int):=wi (by omega) (by omega)
  have b1:(0≤((i+n / 32:Nat):Int))=True:=tt (by omega)
  have b2:(((i+n / 32:Nat):Int) < ((n / 32+a.length+1:Nat):Int))=True:=tt (by omega)
  have b3:(0≤((i+n / 32+1:Nat):Int))=True:=tt (by omega)
  have b4:(((i+n / 32+1:Nat):Int) < ((n / 32+a.length+1:Nat):Int))=True:=tt (by omega)
  have f1:=kN (n:=a.getD i 0*2 ^ (n % 32)) rfl (by omega)
  have f2:IntKind.u32.wrap ((a.getD i 0*2 ^ (n % 32) % 4294967296:Nat):Int)=((a.getD i 0*2 ^ (n % 32) % 4294967296:Nat):Int):=oo rfl (by omega)
  have f3:=aeq (m:=bT a (n % 32) i) (n:=a.getD i 0*2 ^ (n % 32) % 4294967296) rfl rfl (by omega) (by omega)
  rw [l1] at f3
  have f4:=io (n:=a.getD i 0*2 ^ (n % 32)) (k:=32) (kk := .u64) (j:=32) rfl rfl (by omega)
  rw [show a.getD i 0*2 ^ (n % 32) / 2 ^ 32=bT a (n % 32) (i+1) from l2] at f4
  have f5:IntKind.u32.wrap ((bT a (n % 32) (i+1):Nat):Int)=((bT a (n % 32) (i+1):Nat):Int):=oo rfl (by have:=pP ha (r:=n % 32) (i+1); omega)
  have r1:(aC (xt a (n / 32) (n % 32) i (k+1)))[i+n / 32]?=some [U (bT a (n % 32) i:Nat)]:=by
   unfold xt
   rw [jN (by rw [List.length_append,hlen]; simp),List.getD_eq_getElem?_getD,List.getElem?_append_right (by omega),hlen]
   simp
  have r2:(aC (xt a (n / 32) (n % 32) i (k+1))).set (i+n / 32) [U ((a.getD i 0*2 ^ (n % 32)+bT a (n % 32) i) % 4294967296:Nat)]=aC (List.replicate (n / 32) 0++ej a (n % 32) (i+1)++List.replicate (k+1) 0):=by
   unfold xt
   rw [jO,← hlen,List.set_append_right _ _ (Nat.le_refl _)]
   simp [ej,List.range_succ]
  have hlen2:(List.replicate (n / 32) 0++ej a (n % 32) (i+1)).length=i+n / 32+1:=by
   rw [List.length_append,List.length_replicate,gZ]
   omega
  have r3:(aC (List.replicate (n / 32) 0++ej a (n % 32) (i+1)++List.replicate (k+1) 0))[i+n / 32+1]?=some [U (0:Nat)]:=by
   rw [jN (by rw [List.length_append,hlen2]; simp),List.getD_eq_getElem?_getD,List.getElem?_append_right (by omega),hlen2]
   simp [List.replicate_succ]
  have r4:(aC (List.replicate (n / 32) 0++ej a (n % 32) (i+1)++List.replicate (k+1) 0)).set (i+n / 32+1) [U (bT a (n % 32) (i+1):Nat)]=aC (xt a (n / 32) (n % 32) (i+1) k):=by
   unfold xt
   rw [jO,← hlen2,List.set_append_right _ _ (Nat.le_refl _)]
   simp [List.replicate_succ]
  rw [ao]
  generalize aq _ _ _=L at ih' ⊢
  simp only [n5,go_sem,↓reduceIte,alS,alV,alX,h0,g1,h5,h6,hh,e1,e2,e3,e4,e5,e6,e7,e8,e9,b1,b2,b3,b4,f1,f2,f3,f4,f5,r1,r2,r3,r4,Int.toNat_natCast,Nat.zero_add]
  exact ih' _ _ rfl rfl rfl rfl rfl
theorem Me {a:List Nat} (ha:Lb a) {n:Nat} (h1:a.length≤10000) (hn:n≤1000000):R F.r01_Shl [lm a,I n] []=some (lm (ap (ab a*2 ^ n)),[]):=by
 refine aB Qg Qf (IM false) rfl ?_
 have hT:=mX ha (by omega)
 have la:=bS a ha
 obtain ⟨m,hm⟩:∃ m,ap (ab a)=m:=⟨_,rfl⟩
 have hmb:Lb m:=by rw [← hm]; exact aL _
 have hmv:ab m=ab a:=by rw [← hm]; exact aD _
 rw [hm] at hT la
 rw [← hmv]
 clear hm hmv
 have e1:=lL (n:=n) (m:=32) (j:=32) rfl rfl (by omega) (by omega)
 have e2:IntKind.i64.wrap (((n / 32:Nat):Int)+(m.length:Int))=((n / 32+m.length:Nat):Int):=wi (by omega) (by omega)
 have e3:IntKind.i64.wrap (((n / 32+m.length:Nat):Int)+1)=((n / 32+m.length+1:Nat):Int):=wi (by omega) (by omega)
 have e4:=fU (i:=((n / 32+m.length+1:Nat):Int)) (j:=((n / 32+m.length+1:Nat):Int)) rfl rfl (Nat.le_refl _) (by omega)
 have e5:((n / 32+m.length+1)*4≤140737488355328)=True:=tt (by omega)
 have e7:aC (List.replicate (n / 32+m.length+1) 0)=aC (xt m (n / 32) (n % 32) 0 m.length):=by
  unfold xt
  rw [show n / 32+m.length+1=n / 32+(m.length+1) from rfl,← List.replicate_append_replicate,List.replicate_succ]
  simp [ej,bT]
 have e6:=QV hmb (n:=n) (by omega) (by omega) m.length 0 (by omega)
 have hall:=DW hmb n
 have hO:xt m (n / 32) (n % 32) m.length 0=bR (n / 32+m.length+1) (ab m*2 ^ n):=by
  rw [← hall]
  rfl
 rw [hO] at e6
 have ht:=mX (gh (n / 32+m.length+1) (ab m*2 ^ n)) (by rw [be]; omega)
 have hv:ab (bR (n / 32+m.length+1) (ab m*2 ^ n))=ab m*2 ^ n:=by
  rw [eI,Nat.mod_eq_of_lt]
  have h:=bD hmb
  have h2:2 ^ n≤4294967296 ^ (n / 32+1):=by
   rw [show (4294967296:Nat)=2 ^ 32 from rfl,← Nat.pow_mul]
   exact Nat.pow_le_pow_right (by omega) (by omega)
  rw [show n / 32+m.length+1=m.length+(n / 32+1) from by omega,Nat.pow_add]
  exact Nat.mul_lt_mul_of_lt_of_le h h2 (Nat.pow_pos (by omega))
 rw [hv] at ht
 have f4:=kO (bR (n / 32+m.length+1) (ab m*2 ^ n))
 rw [be] at f4
 simp only [qH,E9,go_sem,↓reduceIte,alS,alU,alT,hT,e1,e2,e3,e4,e5,nc,e7]
 rw [e6 _ _ rfl rfl rfl rfl rfl]
 simp only [go_sem,↓reduceIte,alS,alU,alT,f4,ht,tE,be,Nat.zero_add,Nat.le_refl]
end Go.Ab
namespace Go.Ab
open Go Go.IntWalk
set_option maxRecDepth 4000
set_option maxHeartbeats 1000000
theorem fg {d:Rd} (ok:Ok0 d):R F.r02_Valid [ai d] []=some (B (vd d),[]):=by
 refine aB K7 K6 (Ds false) rfl ?_
 unfold vd
 have hl:=ok.len
 by_cases a0:d.m.length=0
 ·rw [if_pos a0]
  have e1:((d.m.length:Int)=0)=True:=tt (by omega)
  cases hn:d.neg with
  | true=>simp only [cj,dT,ai,am,hn,go_sem,↓reduceIte,alS,alU,alT,e1,Bool.not_true,Bool.false_and]
  | false=>simp only [cj,dT,ai,am,hn,go_sem,↓reduceIte,alS,alU,alT,e1,Bool.not_false,Bool.true_and]
 rw [if_neg a0]
 have e1:((d.m.length:Int)=0)=False:=ff (by omega)
 by_cases a1 : ¬ d.m.length≤256
 ·have e2:(256 < (d.m.length:Int))=True:=tt (by omega)
  rw [decide_eq_false a1,Bool.false_and]
  simp only [cj,dT,ai,am,go_sem,↓reduceIte,alS,alU,alT,e1,e2]
 replace a1:=Decidable.not_not.1 a1
 have e2:(256 < (d.m.length:Int))=False:=ff (by omega)
 have e3:aN (aC d.m) 0=some (.ipt [U (d.m.getD 0 0:Nat)]):=aS rfl (by omega)
 have e6:IntKind.i64.wrap ((d.m.length:Int) - 1)=((d.m.length - 1:Nat):Int):=wi (by omega) (by omega)
 have e7:aN (aC d.m) ((d.m.length - 1:Nat):Int)=some (.ipt [U (d.m.getD (d.m.length - 1) 0:Nat)]):=aS rfl (by omega)
 have hx:=aZ ok.lb 0
 rw [decide_eq_true a1,Bool.true_and]
 by_cases a3:d.m.getD (d.m.length - 1) 0=0
 ·have e8:((d.m.getD (d.m.length - 1) 0:Int)=0)=True:=tt (by omega)
  rw [decide_eq_false (p:=d.m.getD (d.m.length - 1) 0 ≠ 0) (fun h=>h a3),Bool.false_and,Bool.and_false]
  simp only [cj,dT,ai,am,go_sem,↓reduceIte,alS,alU,alT,e1,e2,e6,e7,e8]
 have e8:((d.m.getD (d.m.length - 1) 0:Int)=0)=False:=ff (by omega)
 rw [decide_eq_true (p:=d.m.getD (d.m.length - 1) 0 ≠ 0) a3,Bool.true_and]
 have e4:=Jl (n:=d.m.getD 0 0) rfl hx
 by_cases a2 : ¬ d.m.getD 0 0 % 2=1
 ·have e5:(((d.m.getD 0 0 % 2:Nat):Int)=0)=True:=tt (by omega)
  rw [decide_eq_false a2,Bool.false_and]
  simp only [cj,dT,ai,am,go_sem,↓reduceIte,alS,alU,alT,e1,e2,e3,e4,e5,e6,e7,e8]
 replace a2:=Decidable.not_not.1 a2
 have e5:(((d.m.getD 0 0 % 2:Nat):Int)=0)=False:=ff (by omega)
 rw [decide_eq_true a2,Bool.true_and]
 have hv:ab d.m ≠ 0:=wQ (Or.inr a3) (fun h=>a0 (by rw [h]; rfl))
 have hbp:=cS hv
 unfold iS
 rw [decide_eq_false (p:=af (ab d.m)=0) (by omega),Bool.false_or]
 by_cases a4:d.e < -16384
 ·have f1:(d.e < -16384)=True:=tt a4
  rw [decide_eq_false (p := -16384≤d.e) (by omega),Bool.false_and,Bool.and_false]
  simp only [cj,dT,ai,am,go_sem,↓reduceIte,alS,alU,alT,e1,e2,e3,e4,e5,e6,e7,e8,f1]
 have f1:(d.e < -16384)=False:=ff a4
 rw [decide_eq_true (p := -16384≤d.e) (by omega),Bool.true_and]
 by_cases a5:16384 < d.e
 ·have f2:(16384 < d.e)=True:=tt a5
  rw [decide_eq_false (p:=d.e≤16384) (by omega),Bool.false_and,Bool.and_false]
  simp only [cj,dT,ai,am,go_sem,↓reduceIte,alS,alU,alT,e1,e2,e3,e4,e5,e6,e7,e8,f1,f2]
 have f2:(16384 < d.e)=False:=ff a5
 rw [decide_eq_true (p:=d.e≤16384) (by omega),Bool.true_and]
 have hb:=Jm ok.lb (by omega) (Or.inr a3)
 have hbl:=rN ok.lb
 have w1:IntKind.i64.wrap (((af (ab d.m):Nat):Int)+d.e)=((af (ab d.m):Nat):Int)+d.e:=i64_in _ ⟨by omega,by omega⟩
 by_cases a6:af (ab d.m)≤4096
 ·have f3:(((af (ab d.m):Nat):Int)≤4096)=True:=tt (by omega)
  rw [decide_eq_true a6,Bool.true_and]
  simp only [cj,dT,ai,am,go_sem,↓reduceIte,alS,alU,alT,e1,e2,e3,e4,e5,e6,e7,e8,f1,f2,hb,f3,w1]
 ·have f3:(((af (ab d.m):Nat):Int)≤4096)=False:=ff (by omega)
  rw [decide_eq_false a6,Bool.false_and]
  simp only [cj,dT,ai,am,go_sem,↓reduceIte,alS,alU,alT,e1,e2,e3,e4,e5,e6,e7,e8,f1,f2,hb,f3]
theorem tM {neg:Bool} {m:List Nat} {e:Int} (hb:Lb m) (h1:m.length≤9000) (he : -1000000≤e∧e≤1000000):R F.r02_Of [B neg,lm m,I e] []=some (ai (aV neg (ab m) e),[]):=by
 refine aB Sw Sv (La false) rfl ?_
 have ht:=o8 hb (by omega)
 have la:=bS m hb
 obtain ⟨M,hM⟩:∃ M,ab m=M:=⟨_,rfl⟩
 rw [hM] at ht la ⊢
 by_cases h0:M=0
 ·have e1:(((ap M).length:Int)=0)=True:=tt (by rw [h0,cO]; rfl)
  rw [h0,cC]
  rw [h0] at ht e1
  simp only [pE,zA,ai,am,aH,go_sem,↓reduceIte,alS,alU,alT,alV,ht,e1]
 ·have e1:(((ap M).length:Int)=0)=False:=ff (fun h=>h0 (gg.1 (List.length_eq_zero_iff.1 (by omega))))
  have hz:=QJ (aL M) (by omega) (by rw [aD]; exact h0)
  rw [aD] at hz
  have htz:tz M < 32*(ap M).length:=by
   refine G4 h0 ?_
   have:=bD (aL M)
   rw [aD] at this
   rw [Nat.pow_mul]
   exact this
  have hr:=QL (aL M) (n:=tz M) (by omega) (by omega)
  rw [aD] at hr
  have w1:IntKind.i64.wrap (e+((tz M:Nat):Int))=e+((tz M:Nat):Int):=i64_in _ ⟨by omega,by omega⟩
  rw [fB h0]
  simp only [pE,zA,ai,am,go_sem,↓reduceIte,alS,alU,alT,alV,ht,e1,hz,hr,w1]
def Ot (d:Rd):Rd:=⟨!d.neg && decide (0 < d.m.length),d.m,d.e⟩
theorem V9 {d:Rd}:R F.r02_Neg [ai d] []=some (ai (Ot d),[]):=by
 refine aB PU PT (Ip false) rfl ?_
 unfold Ot
 cases hn:d.neg with
 | true=>simp only [nI,wE,ai,am,go_sem,↓reduceIte,alS,alU,alT,alV,hn,Bool.not_true,Bool.false_and]
 | false =>
  have e:decide (0 < (d.m.length:Int))=decide (0 < d.m.length):=by rw [decide_eq_decide]; omega
  simp only [nI,wE,ai,am,go_sem,↓reduceIte,alS,alU,alT,alV,hn,Bool.not_false,Bool.true_and,e]
theorem Wa {d:Rd} (h:vd d=true):Ot d=oC d:=by
 unfold Ot oC
 by_cases h0:d.m.length=0
 ·rw [if_pos (Or.inr h0),decide_eq_false (by omega),Bool.and_false]
  have:=qU h h0
  subst this
  rfl
 ·rw [if_neg (fun h2=>h2.elim (fun h3=>by rw [h] at h3; exact Bool.false_ne_true h3.symm) h0),decide_eq_true (by omega),Bool.and_true]
theorem Wb {d:Rd} (h:vd d=true):zI (oC d) = -zI d∧vd (oC d)=true:=by
 unfold oC
 by_cases h0:d.m.length=0
 ·rw [if_pos (Or.inr h0),iL h0]
  exact ⟨by rw [iL rfl]; rfl,rfl⟩
 ·rw [if_neg (fun h2=>h2.elim (fun h3=>by rw [h] at h3; exact Bool.false_ne_true h3.symm) h0)]
  constructor
  ·unfold zI mg
   cases d.neg <;> simp
  ·unfold vd at h ⊢
   rw [if_neg h0] at h ⊢
   exact h
theorem AO {d:Rd}:R F.r02_Sign [ai d] []=some (I (bU d),[]):=by
 refine aB NG NF (FX false) rfl ?_
 unfold bU
 by_cases h0:d.m.length=0
 ·have e1:((d.m.length:Int)=0)=True:=tt (by omega)
  rw [if_pos h0]
  simp only [jL,qE,ai,am,go_sem,↓reduceIte,alS,alU,alT,e1]
 ·have e1:((d.m.length:Int)=0)=False:=ff (by omega)
  rw [if_neg h0]
  cases hn:d.neg with
  | true =>
   rw [if_pos rfl]
   simp only [jL,qE,ai,am,go_sem,↓reduceIte,alS,alU,alT,e1,hn]
  | false =>
   rw [if_neg Bool.false_ne_true]
   simp only [jL,qE,ai,am,go_sem,↓reduceIte,alS,alU,alT,e1,hn]
theorem Js {d:Rd} (h:vd d=true):pp d.m:=by
 by_cases h0:d.m.length=0
 ·exact Or.inl (List.length_eq_zero_iff.1 h0)
 ·exact Or.inr (pR h h0).2.2.1
theorem Mf {d:Rd} (ok:Ok0 d) (h:vd d=true):R F.r02_Top [ai d] []=some (I (aK d),[]):=by
 refine aB PQ PP (In false) rfl ?_
 by_cases h0:d.m.length=0
 ·have e1:((d.m.length:Int)=0)=True:=tt (by omega)
  rw [aK,if_pos (Or.inr h0)]
  simp only [nH,wD,ai,am,go_sem,↓reduceIte,alS,alU,alT,e1]
 ·have e1:((d.m.length:Int)=0)=False:=ff (by omega)
  obtain ⟨h1,h2,h3,h4⟩:=dS h ok.lb
  rw [ia h h0]
  have hb:=Jm ok.lb (by omega) (Js h)
  have w1:IntKind.i64.wrap (((af (ab d.m):Nat):Int)+d.e)=((af (ab d.m):Nat):Int)+d.e:=i64_in _ ⟨by omega,by omega⟩
  simp only [nH,wD,ai,am,go_sem,↓reduceIte,alS,alU,alT,alW,alX,e1,hb,w1]
def bL (z f:Int):Rd:=aV (decide (z < 0)) z.natAbs f
theorem D7 {neg:Bool} {n:Nat} {f:Int}:aV neg n f=bL (bk neg n) f:=by
 unfold bL
 by_cases h0:n=0
 ·subst h0
  rw [cC]
  cases neg <;> exact cC.symm
 ·cases neg with
  | false =>
   rw [eN,Int.natAbs_natCast,decide_eq_false (by omega)]
  | true =>
   rw [eM,Int.natAbs_neg,Int.natAbs_natCast,decide_eq_true (by omega)]
theorem Yd {n:Nat} (h:n % 2=1) (k:Nat):tz (n*2 ^ k)=k:=by
 rw [Nat.mul_comm,BS k (by omega),wS h,Nat.add_zero]
theorem qX {d:Rd} (ok:Ok0 d) (h:vd d=true):bL (zI d) (-16384)=d:=by
 by_cases h0:d.m.length=0
 ·rw [iL h0]
  have:=qU h h0
  subst this
  exact cC
 ·obtain ⟨h1,h2,h3,h4⟩:=pR h h0
  obtain ⟨g1,g2,g3,g4⟩:=dS h ok.lb
  have hz:zI d=bk d.neg (mg d):=by
   unfold zI bk
   rfl
  rw [hz,← D7]
  unfold mg
  rw [qO,fB (cU h h0)]
  have ho:ab d.m % 2=1:=by
   have:=dF d.m 0
   rw [List.drop_zero] at this
   omega
  rw [wS ho,Nat.pow_zero,Nat.div_one,oU ok.lb (Js h)]
  obtain ⟨n,m,e⟩:=d
  show (⟨n,m,-16384+(((e+16384).toNat:Nat):Int)+((0:Nat):Int)⟩:Rd)=_
  rw [show -16384+(((e+16384).toNat:Nat):Int)+((0:Nat):Int)=e by have : -16384≤e:=g2; omega]
theorem kP {x y:Nat} (h:x≤y):(ap x).length≤(ap y).length:=Nat.not_lt.1 fun h2=>by
 have:=lK h2
 omega
theorem Mg {a b:Rd} (oa:Ok0 a) (ob:Ok0 b) (va:vd a=true) (vb:vd b=true):R F.r02_Sum [ai a,ai b] []=some (ai (bL (zI a+zI b) (-16384)),[]):=by
 refine aB PS PR (Io false) rfl ?_
 by_cases a0:a.m.length=0
 ·have e1:((a.m.length:Int)=0)=True:=tt (by omega)
  rw [iL a0,Int.zero_add,qX ob vb]
  simp only [gR,m8,ai,am,go_sem,↓reduceIte,alS,alU,alT,alV,e1]
 have e1:((a.m.length:Int)=0)=False:=ff (by omega)
 by_cases b0:b.m.length=0
 ·have e2:((b.m.length:Int)=0)=True:=tt (by omega)
  rw [iL b0,Int.add_zero,qX oa va]
  simp only [gR,m8,ai,am,go_sem,↓reduceIte,alS,alU,alT,alV,e1,e2]
 have e2:((b.m.length:Int)=0)=False:=ff (by omega)
 obtain ⟨a1,a2,a3,a4⟩:=dS va oa.lb
 obtain ⟨b1,b2,b3,b4⟩:=dS vb ob.lb
 obtain ⟨e,he⟩:∃ e,(if b.e < a.e then b.e else a.e)=e:=⟨_,rfl⟩
 have he1 : -16384≤e∧e≤a.e∧e≤b.e:=by
  split at he <;> omega
 have w1:IntKind.i64.wrap (a.e - e)=(((a.e - e).toNat:Nat):Int):=wi (by omega) (by omega)
 have w2:IntKind.i64.wrap (b.e - e)=(((b.e - e).toNat:Nat):Int):=wi (by omega) (by omega)
 have l1:=Jo oa.lb (n:=(a.e - e).toNat) (by omega) (by omega)
 have l2:=Jo ob.lb (n:=(b.e - e).toNat) (by omega) (by omega)
 have z1:zI a=bk a.neg (ab a.m*2 ^ (a.e - e).toNat*2 ^ (e+16384).toNat):=by
  rw [show zI a=bk a.neg (mg a) from rfl,uO he1.1 he1.2.1]
 have z2:zI b=bk b.neg (ab b.m*2 ^ (b.e - e).toNat*2 ^ (e+16384).toNat):=by
  rw [show zI b=bk b.neg (mg b) from rfl,uO he1.1 he1.2.2]
 have bx:af (ab a.m*2 ^ (a.e - e).toNat)≤36864:=by
  rw [cT _ (cU va a0)]
  omega
 have by':af (ab b.m*2 ^ (b.e - e).toNat)≤36864:=by
  rw [cT _ (cU vb b0)]
  omega
 rw [z1,z2]
 generalize ab a.m*2 ^ (a.e - e).toNat=x at l1 bx ⊢
 generalize ab b.m*2 ^ (b.e - e).toNat=y at l2 by' ⊢
 have lx:(ap x).length≤1152:=aJ (by omega)
 have ly:(ap y).length≤1152:=aJ (by omega)
 have hsum:∀ (n:Bool) (z:Nat),aV n z e=bL (bk n (z*2 ^ (e+16384).toNat)) (-16384):=fun n z=>by
  rw [← D7,qO,show -16384+(((e+16384).toNat:Nat):Int)=e by omega]
 have hcp:=zi (aL x) (aL y) (by omega) (by omega) (Or.inr ⟨wR x,wR y⟩)
 rw [aD,aD] at hcp
 by_cases hs:a.neg=b.neg
 ·have p1:=Tm (aL x) (aL y) (by omega) (by omega)
  rw [aD,aD] at p1
  have bz:af (x+y)≤36865:=rO bx by'
  have o1:=tM (neg:=a.neg) (m:=ap (x+y)) (e:=e) (aL _) (Nat.le_trans (aJ (k:=1153) (by omega)) (by decide)) ⟨by omega,by omega⟩
  rw [aD,hsum] at o1
  have hz:bk a.neg (x*2 ^ (e+16384).toNat)+bk b.neg (y*2 ^ (e+16384).toNat)=bk a.neg ((x+y)*2 ^ (e+16384).toNat):=by
   rw [← hs,Nat.add_mul]
   cases a.neg
   ·rw [eN,eN,eN]
    omega
   ·rw [eM,eM,eM]
    omega
  rw [hz]
  generalize bL (bk a.neg ((x+y)*2 ^ (e+16384).toNat)) (-16384)=r at o1 ⊢
  have hs2:(a.neg == b.neg)=true:=by rw [hs]; exact beq_self_eq_true _
  have hs3:(false != (a.neg == b.neg))=true:=by rw [hs2]; rfl
  simp only [ai,am] at o1
  simp only [gR,m8,ai,am,go_sem,↓reduceIte,alS,alU,alT,alV,alW,alX,e1,e2,he,w1,w2,l1,l2,hs3,p1,o1]
 ·have hs2:(a.neg == b.neg)=false:=by
   cases ha:a.neg <;> cases hb:b.neg <;> first | rfl | (rw [ha,hb] at hs; exact absurd rfl hs)
  have hs3:(false != (a.neg == b.neg))=false:=by rw [hs2]; rfl
  have hbn:b.neg = !a.neg:=by
   cases ha:a.neg <;> cases hb:b.neg <;> first | rfl | (rw [ha,hb] at hs; exact absurd rfl hs)
  by_cases hlt:x < y
  ·have e5:(0≤aT x y)=False:=ff (by unfold aT; rw [if_pos hlt]; decide)
   have m1:=Fo (aL y) (aL x) (by omega) (kP (by omega)) (by rw [aD,aD]; omega)
   rw [aD,aD] at m1
   have o1:=tM (neg:=b.neg) (m:=ap (y - x)) (e:=e) (aL _) (Nat.le_trans (kP (Nat.sub_le _ _)) (by omega)) ⟨by omega,by omega⟩
   rw [aD,hsum] at o1
   have hmul:x*2 ^ (e+16384).toNat≤y*2 ^ (e+16384).toNat:=Nat.mul_le_mul_right _ (by omega)
   have hz:bk a.neg (x*2 ^ (e+16384).toNat)+bk b.neg (y*2 ^ (e+16384).toNat)=bk b.neg ((y - x)*2 ^ (e+16384).toNat):=by
    rw [hbn,Nat.sub_mul]
    cases a.neg
    ·rw [Bool.not_false,eN,eM,eM]
     omega
    ·rw [Bool.not_true,eN,eM,eN]
     omega
   rw [hz]
   generalize bL (bk b.neg ((y - x)*2 ^ (e+16384).toNat)) (-16384)=r at o1 ⊢
   simp only [ai,am] at o1
   simp only [gR,m8,ai,am,go_sem,↓reduceIte,alS,alU,alT,alV,alW,alX,e1,e2,he,w1,w2,l1,l2,hs3,hcp,e5,m1,o1]
  ·have e5:(0≤aT x y)=True:=tt (by unfold aT; rw [if_neg hlt]; split <;> decide)
   have m1:=Fo (aL x) (aL y) (by omega) (kP (by omega)) (by rw [aD,aD]; omega)
   rw [aD,aD] at m1
   have o1:=tM (neg:=a.neg) (m:=ap (x - y)) (e:=e) (aL _) (Nat.le_trans (kP (Nat.sub_le _ _)) (by omega)) ⟨by omega,by omega⟩
   rw [aD,hsum] at o1
   have hmul:y*2 ^ (e+16384).toNat≤x*2 ^ (e+16384).toNat:=Nat.mul_le_mul_right _ (by omega)
   have hz:bk a.neg (x*2 ^ (e+16384).toNat)+bk b.neg (y*2 ^ (e+16384).toNat)=bk a.neg ((x - y)*2 ^ (e+16384).toNat):=by
    rw [hbn,Nat.sub_mul]
    cases a.neg
    ·rw [Bool.not_false,eN,eM,eN]
     omega
    ·rw [Bool.not_true,eN,eM,eM]
     omega
   rw [hz]
   generalize bL (bk a.neg ((x - y)*2 ^ (e+16384).toNat)) (-16384)=r at o1 ⊢
   simp only [ai,am] at o1
   simp only [gR,m8,ai,am,go_sem,↓reduceIte,alS,alU,alT,alV,alW,alX,e1,e2,he,w1,w2,l1,l2,hs3,hcp,e5,m1,o1]
theorem Ly {a b:Rd} (oa:Ok0 a) (ob:Ok0 b) (va:vd a=true) (vb:vd b=true):R F.r02_Product [ai a,ai b] []=some (ai (aV (a.neg != b.neg) (ab a.m*ab b.m) (a.e+b.e)),[]):=by
 refine aB Gy Gx (Ag false) rfl ?_
 obtain ⟨a1,a2,a3,a4⟩:=dS va oa.lb
 obtain ⟨b1,b2,b3,b4⟩:=dS vb ob.lb
 have t1:=QT oa.lb ob.lb (by omega) (by omega)
 have hp:=rL (ab a.m) (ab b.m)
 have w1:IntKind.i64.wrap (a.e+b.e)=a.e+b.e:=i64_in _ ⟨by omega,by omega⟩
 have o1:=tM (neg:=a.neg != b.neg) (m:=ap (ab a.m*ab b.m)) (e:=a.e+b.e) (aL _) (Nat.le_trans (aJ (k:=256) (by omega)) (by decide)) ⟨by omega,by omega⟩
 rw [aD] at o1
 generalize aV (a.neg != b.neg) (ab a.m*ab b.m) (a.e+b.e)=r at o1 ⊢
 simp only [ai,am] at o1
 simp only [lz,vr,ai,am,go_sem,↓reduceIte,alS,alU,alT,alV,alW,alX,t1,w1,jD,o1]
end Go.Ab
namespace Go.Ab
open Go Go.IntWalk
set_option maxRecDepth 4000
set_option maxHeartbeats 1000000
theorem xu:(true == true)=true:=rfl
theorem aer:(true == false)=false:=rfl
theorem aes:(false == true)=false:=rfl
theorem Ye:(false == false)=true:=rfl
theorem Yf:(false != true)=true:=rfl
theorem Yg:(false != false)=false:=rfl
theorem To (z f:Int):bU (bL z f)=if z < 0 then -1 else if 0 < z then 1 else 0:=by
 unfold bL
 by_cases h0:z=0
 ·subst h0
  show bU (aV _ 0 _)=_
  rw [cC]
  rfl
 ·have hn:z.natAbs ≠ 0:=by omega
  rw [fB hn]
  obtain ⟨h1,h2⟩:=m9 hn
  have hl:(ap (z.natAbs / 2 ^ tz z.natAbs)).length ≠ 0:=fun h=>by
   have:=gg.1 (List.length_eq_zero_iff.1 h)
   omega
  unfold bU
  show (if (ap (z.natAbs / 2 ^ tz z.natAbs)).length=0 then (0:Int) else if decide (z < 0)=true then -1 else 1)=_
  rw [if_neg hl]
  by_cases h3:z < 0
  ·rw [decide_eq_true h3,if_pos rfl,if_pos h3]
  ·rw [decide_eq_false h3,if_neg Bool.false_ne_true,if_neg h3,if_pos (by omega)]
theorem QW {a b:Rd} (oa:Ok0 a) (ob:Ok0 b) (va:vd a=true) (vb:vd b=true) (na:a.m.length ≠ 0) (nb:b.m.length ≠ 0) (h:aK a < aK b):mg a < mg b:=by
 have h1:=tK va oa.lb na
 have h2:=tK vb ob.lb nb
 exact uN (by omega)
theorem Mh {a b:Rd} (oa:Ok0 a) (ob:Ok0 b) (va:vd a=true) (vb:vd b=true):R F.r02_Cmp [ai a,ai b] []=some (I (bw (zI a) (zI b)),[]):=by
 refine aB PN PM (If false) rfl ?_
 have s1:=AO (d:=a)
 have s2:=AO (d:=b)
 have t1:=Mf oa va
 have t2:=Mf ob vb
 have n1:=V9 (d:=b)
 rw [Wa vb] at n1
 obtain ⟨hz,hvn⟩:=Wb vb
 have u1:=Mg oa (VX ob) va hvn
 rw [hz] at u1
 have u2:=AO (d:=bL (zI a + -zI b) (-16384))
 rw [To] at u2
 have hca:=rK a va
 have hcb:=rK b vb
 generalize bL (zI a + -zI b) (-16384)=sm at u1 u2
 generalize oC b=nb at n1 u1
 simp only [ai,am] at s1 s2 t1 t2 n1 u1 u2
 by_cases hs:bU a=bU b
 ·have e1:(bU a=bU b)=True:=tt hs
  by_cases h0:bU a=0
  ·have e2:(bU a=0)=True:=tt h0
   have hr:bw (zI a) (zI b)=0:=by
    have:zI a=0:=by omega
    have:zI b=0:=by omega
    unfold bw
    rw [if_neg (by omega),if_neg (by omega)]
   rw [hr]
   simp only [d6,gP,ai,am,go_sem,↓reduceIte,alS,alU,alT,alV,alW,alX,s1,s2,e1,e2]
   try simp only [hs,h0,go_sem,↓reduceIte,alS,alU,alT,al1,alV,alW,alY,al2,al0,alZ,alX,al3]
  ·have e2:(bU a=0)=False:=ff h0
   have na:a.m.length ≠ 0:=by omega
   have nb':b.m.length ≠ 0:=by omega
   by_cases ht:aK a=aK b
   ·have e3:(aK a=aK b)=True:=tt ht
    have hr:bw (zI a) (zI b)=if zI a + -zI b < 0 then -1 else if 0 < zI a + -zI b then 1 else 0:=by
     unfold bw
     repeat' split
     all_goals omega
    rw [hr]
    generalize (if zI a + -zI b < 0 then (-1:Int) else if 0 < zI a + -zI b then 1 else 0)=c at u2 ⊢
    simp only [d6,gP,ai,am,go_sem,↓reduceIte,alS,alU,alT,alV,alW,alX,s1,s2,t1,t2,e1,e2,e3,n1,u1,u2]
   ·have e3:(aK a=aK b)=False:=ff ht
    by_cases hlt:aK a < aK b
    ·have e4:(aK a < aK b)=True:=tt hlt
     have hm:=QW oa ob va vb na nb' hlt
     by_cases hp:0 < bU a
     ·have e5:(0 < bU a)=True:=tt hp
      have hr:bw (zI a) (zI b) = -1:=by
       unfold bw
       rw [if_pos (by omega)]
      rw [hr]
      simp only [d6,gP,ai,am,go_sem,↓reduceIte,alS,alU,alT,alV,alW,alX,s1,s2,t1,t2,e1,e2,e3,e4,e5,decide_true,xu,Yf]
     ·have e5:(0 < bU a)=False:=ff hp
      have hr:bw (zI a) (zI b)=1:=by
       unfold bw
       rw [if_neg (by omega),if_pos (by omega)]
      rw [hr]
      simp only [d6,gP,ai,am,go_sem,↓reduceIte,alS,alU,alT,alV,alW,alX,s1,s2,t1,t2,e1,e2,e3,e4,e5,decide_true,decide_false,aer,Yg]
    ·have e4:(aK a < aK b)=False:=ff hlt
     have hm:=QW ob oa vb va nb' na (by omega)
     by_cases hp:0 < bU a
     ·have e5:(0 < bU a)=True:=tt hp
      have hr:bw (zI a) (zI b)=1:=by
       unfold bw
       rw [if_neg (by omega),if_pos (by omega)]
      rw [hr]
      simp only [d6,gP,ai,am,go_sem,↓reduceIte,alS,alU,alT,alV,alW,alX,s1,s2,t1,t2,e1,e2,e3,e4,e5,decide_true,decide_false,aes,Yg]
     ·have e5:(0 < bU a)=False:=ff hp
      have hr:bw (zI a) (zI b) = -1:=by
       unfold bw
       rw [if_pos (by omega)]
      rw [hr]
      simp only [d6,gP,ai,am,go_sem,↓reduceIte,alS,alU,alT,alV,alW,alX,s1,s2,t1,t2,e1,e2,e3,e4,e5,decide_true,decide_false,Ye,Yf]
 ·have e1:(bU a=bU b)=False:=ff hs
  by_cases hlt:bU a < bU b
  ·have e2:(bU a < bU b)=True:=tt hlt
   have hr:bw (zI a) (zI b) = -1:=by
    unfold bw
    rw [if_pos (by omega)]
   rw [hr]
   simp only [d6,gP,ai,am,go_sem,↓reduceIte,alS,alU,alT,alV,alW,alX,s1,s2,e1,e2]
  ·have e2:(bU a < bU b)=False:=ff hlt
   have hr:bw (zI a) (zI b)=1:=by
    unfold bw
    rw [if_neg (by omega),if_pos (by omega)]
   rw [hr]
   simp only [d6,gP,ai,am,go_sem,↓reduceIte,alS,alU,alT,alV,alW,alX,s1,s2,e1,e2]
theorem xv {d:Rd} (hb:Lb d.m) (hl:d.m.length≤100000):R F.r02_Equal [ai d,ai d] []=some (B true,[]):=by
 refine aB KX KW (Dl false) rfl ?_
 have hc:=zi hb hb hl hl (Or.inl rfl)
 have e1:aT (ab d.m) (ab d.m)=0:=by
  unfold aT
  rw [if_neg (Nat.lt_irrefl _),if_neg (Nat.lt_irrefl _)]
 rw [e1] at hc
 have e2:(false != (d.neg == d.neg))=true:=by rw [beq_self_eq_true]; rfl
 simp only [nF,yX,ai,am,go_sem,↓reduceIte,alS,alU,alT,e2,hc]
theorem Jt {p:Int}:R F.r03_Prec [I p] []=some (B (kM p),[]):=by
 refine aB NA Nz (FQ false) rfl ?_
 unfold kM
 by_cases h1:8≤p
 ·have e1:(8≤p)=True:=tt h1
  simp only [l7,ur,go_sem,↓reduceIte,alS,e1,decide_true,Bool.true_and]
 ·have e1:(8≤p)=False:=ff h1
  simp only [l7,ur,go_sem,↓reduceIte,alS,e1,decide_false,Bool.false_and]
theorem QX {a b:Rd} (oa:Ok0 a) (ob:Ok0 b) {p:Int}:R F.r03_fault [ai a,ai b,I p] []=some (I (bj p [a,b]),[]):=by
 refine aB Lf Le (Dz false) rfl ?_
 have va:=fg oa
 have vb:=fg ob
 have hp:=Jt (p:=p)
 simp only [ai,am] at va vb
 unfold bj
 rw [List.all_cons,List.all_cons,List.all_nil,Bool.and_true]
 cases h1:vd a with
 | false =>
  rw [h1] at va
  rw [Bool.false_and,if_neg Bool.false_ne_true]
  simp only [go,me,ai,am,go_sem,↓reduceIte,alS,alU,alT,alV,va]
 | true =>
  rw [h1] at va
  cases h2:vd b with
  | false =>
   rw [h2] at vb
   rw [Bool.and_false,if_neg Bool.false_ne_true]
   simp only [go,me,ai,am,go_sem,↓reduceIte,alS,alU,alT,alV,va,vb]
  | true =>
   rw [h2] at vb
   rw [Bool.and_true,if_pos rfl]
   by_cases h3:8≤p∧p≤512
   ·have e3:kM p=true:=by unfold kM; rw [decide_eq_true h3.1,decide_eq_true h3.2]; rfl
    rw [e3] at hp
    rw [if_pos h3]
    simp only [go,me,ai,am,go_sem,↓reduceIte,alS,alU,alT,alV,va,vb,hp]
   ·have e3:kM p=false:=by
     unfold kM
     by_cases h8:8≤p
     ·rw [decide_eq_false (p:=p≤512) (fun h=>h3 ⟨h8,h⟩),Bool.and_false]
     ·rw [decide_eq_false h8,Bool.false_and]
    rw [e3] at hp
    rw [if_neg h3]
    simp only [go,me,ai,am,go_sem,↓reduceIte,alS,alU,alT,alV,va,vb,hp]
theorem Ju {neg:Bool} {n:Nat} (hn:8≤n∧n≤512):R F.r03_greatest [B neg,I n] []=some (ai (aV neg (2 ^ n - 1) (16384 - (n:Int))),[]):=by
 refine aB DP DO (yA false) rfl ?_
 have h1:=Me xj (n:=n) (by decide) (by omega)
 rw [o5,Nat.one_mul] at h1
 have hb:af (2 ^ n)≤n+1:=by
  rw [bh]
  exact Nat.pow_lt_pow_right (by decide) (Nat.lt_succ_self n)
 have hl:(ap (2 ^ n)).length≤17:=aJ (by omega)
 have hp:=Nat.two_pow_pos n
 have hl1:[1].length≤(ap (2 ^ n)).length:=Nat.pos_of_ne_zero fun h=>by
  have:=gg.1 (List.length_eq_zero_iff.1 h)
  omega
 have h2:=V5 (aL (2 ^ n)) xj (by omega) hl1 (by rw [aD,o5]; omega)
 rw [aD,o5] at h2
 have hbt:=AJ n
 have h3:=tM (neg:=neg) (m:=ap (2 ^ n - 1)) (e:=16384 - (n:Int)) (aL _) (Nat.le_trans (aJ (k:=17) (by omega)) (by decide)) ⟨by omega,by omega⟩
 rw [aD] at h3
 have w1:IntKind.i64.wrap (16384 - (n:Int))=16384 - (n:Int):=i64_in _ ⟨by omega,by omega⟩
 generalize aV neg (2 ^ n - 1) (16384 - (n:Int))=r at h3 ⊢
 simp only [ai,am] at h3
 simp only [kf,tv,ai,am,go_sem,↓reduceIte,alS,alU,alT,alV,alW,oA,h1,h2,h3,w1]
def jQ:Cmd := .seq (.seq (.ops [0,2,4,12,15,16,17,62] [cm 51 16,⟨(some 52),none,.call (.c (.fn F.r01_Bits [] [])) [(.t 51)]⟩,co 53 (.bin .gtr (.t 52) (.c (.v (.int .i64 0)))),cm 54 53,cg 55 54 true (.mv (.t 16)),⟨(some 56),(some (54,true)),.call (.c (.fn F.r01_Bits [] [])) [(.t 55)]⟩,cg 57 54 true (.mv (.t 2)),cg 58 54 true (.bin .add (.t 56) (.t 57)),cg 59 54 true (.mv (.t 15)),cg 60 54 true (.bin .add (.t 58) (.t 59)),cg 61 54 true (.bin .gtr (.t 60) (.c (.v (.int .i64 16384)))),co 62 (.pick (.t 54) (.t 61) (.c (.v (.bool false))))]) (.cond (.t 62) (.seq (.seq (.ops [0,4,12,63] [cm 63 17]) (.cond (.t 63) (.seq (.ops [12,13] [co 64 (.build [(.v (.bool false)),.emp,(.v (.int .i64 0))] []),⟨none,none,.store 3 (.t 12) (.t 64)⟩,co 13 (.mv (.c (.v (.int .i64 9))))]) (.ret)) (.skip))) (.seq (.ops [12,13] [cm 65 0,cm 66 4,⟨(some 67),none,.call (.c (.fn F.r03_greatest [] [])) [(.t 65),(.t 66)]⟩,⟨none,none,.store 3 (.t 12) (.t 67)⟩,co 13 (.mv (.c (.v (.int .i64 0))))]) (.ret))) (.skip))) (.seq (.ops [12,13] [cm 68 0,cm 69 16,cm 70 2,cm 71 15,co 72 (.bin .add (.t 70) (.t 71)),⟨(some 73),none,.call (.c (.fn F.r02_Of [] [])) [(.t 68),(.t 69),(.t 72)]⟩,⟨none,none,.store 3 (.t 12) (.t 73)⟩,co 13 (.mv (.c (.v (.int .i64 0))))]) (.ret))
theorem jq:E8 = .seq (.ops [0,1,2,3,4,5,12] [⟨(some 12),none,.alloc [(.v (.bool false)),.emp,(.v (.int .i64 0))]⟩,co 13 (.mv (.c (.v (.int .i64 0))))]) (.seq (.ops [0,1,2,3,4,5,12] [cm 18 1,⟨(some 19),none,.call (.c (.fn F.r01_Trim [] [])) [(.t 18)]⟩,cm 1 19]) (.seq (.ops [0,1,2,3,4,5,12,14] [cm 20 1,⟨(some 21),none,.call (.c (.fn F.r01_Bits [] [])) [(.t 20)]⟩,cm 14 21]) (.seq (.ops [0,1,2,3,4,5,12,15] [cm 22 14,cm 23 4,co 24 (.bin .sub (.t 22) (.t 23)),cm 25 2,co 26 (.bin .sub (.c (.v (.int .i64 (-16384)))) (.t 25)),co 27 (.mnx false (.t 24) [(.t 26),(.c (.v (.int .i64 0)))]),cm 15 27]) (.seq (.ops [0,1,2,3,4,5,12,15,16] [cm 28 1,cm 29 15,⟨(some 30),none,.call (.c (.fn F.r01_Shr [] [])) [(.t 28),(.t 29)]⟩,cm 16 30]) (.seq (.seq (.ops [0,2,3,4,5,12,15,16,40] [cm 31 15,co 32 (.bin .gtr (.t 31) (.c (.v (.int .i64 0)))),cm 33 32,cg 34 33 true (.mv (.t 16)),cg 35 33 true (.mv (.t 15)),⟨(some 36),(some (33,true)),.call (.c (.fn F.r01_Shl [] [])) [(.t 34),(.t 35)]⟩,cg 37 33 true (.mv (.t 1)),⟨(some 38),(some (33,true)),.call (.c (.fn F.r01_Cmp [] [])) [(.t 36),(.t 37)]⟩,cg 39 33 true (.bin .neq (.t 38) (.c (.v (.int .i64 0)))),co 40 (.pick (.t 33) (.t 39) (.c (.v (.bool false))))]) (.cond (.t 40) (.ops [0,2,3,4,5,12,15,16] [co 3 (.mv (.c (.v (.bool true))))]) (.skip))) (.seq (.ops [0,2,3,4,12,15,16,17] [cm 41 0,cm 42 5,co 43 (.eqc true 0 (.t 41) (.t 42)),cm 17 43]) (.seq (.seq (.ops [0,2,4,12,15,16,17,47] [cm 44 3,cm 45 44,cg 46 45 true (.mv (.t 17)),co 47 (.pick (.t 45) (.t 46) (.c (.v (.bool false))))]) (.cond (.t 47) (.ops [0,2,4,12,15,16,17] [cm 48 16,⟨(some 49),none,.buildSl 1 [(.v (.int .u32 0))] 1 [(0,(.c (.v (.int .u32 1))))]⟩,⟨(some 50),none,.call (.c (.fn F.r01_Add [] [])) [(.t 48),(.t 49)]⟩,cm 16 50]) (.skip))) jQ))))))):=rfl
theorem QY {neg out:Bool} {e:Int} {n k q:Nat} (hp:8≤n∧n≤512) (hq:af q≤200000) (he : -100000≤e∧e≤100000) (hk:k≤200000) (s:aj) (h:ac) (h0:s 0=B neg) (h2:s 2=I e) (h4:s 4=I n) (h12:s 12 = .ref 12 none 0 0 0) (h15:s 15=I k) (h16:s 16=lm (ap q)) (h17:s 17=B out)
  (k12:h 12 = .bx [.v (.bool false),.emp,.v (.int .i64 0)]) (kd:∀ i,i ≠ 12→i ≠ 49→h i = .dead) :
  iY false [[.o 0 [],.o 2 [],.o 0 []],[]] [.cell 12 3 true,.t 13] 0 (ak R (ae false) jQ s h)=some (rV (uS neg out n q (e+k)),[]):=by
 have hl:(ap q).length≤6250:=aJ (by omega)
 have hb:=Jq (aL q) (by omega)
 rw [aD] at hb
 have w1:IntKind.i64.wrap (((af q:Nat):Int)+e)=((af q:Nat):Int)+e:=i64_in _ ⟨by omega,by omega⟩
 have w2:IntKind.i64.wrap (((af q:Nat):Int)+e+(k:Int))=((af q:Nat):Int)+e+(k:Int):=i64_in _ ⟨by omega,by omega⟩
 have w3:IntKind.i64.wrap (e+(k:Int))=e+(k:Int):=i64_in _ ⟨by omega,by omega⟩
 have ho:=tM (neg:=neg) (m:=ap q) (e:=e+k) (aL q) (by omega) ⟨by omega,by omega⟩
 rw [aD] at ho
 have hg:=Ju (neg:=neg) hp
 unfold uS
 rw [Int.toNat_natCast]
 generalize aV neg (2 ^ n - 1) (16384 - (n:Int))=g at hg ⊢
 generalize aV neg q (e+k)=o at ho ⊢
 simp only [ai,am] at hg ho
 by_cases h1:q=0
 ·have e1:(0 < ((af q:Nat):Int))=False:=ff (by rw [h1]; decide)
  rw [if_neg (fun h=>h.1 h1)]
  simp only [jQ,rV,ai,am,go_sem,↓reduceIte,alS,alU,alT,alV,ne_eq,not_false_eq_true,h0,h2,h4,h12,h15,h16,h17,k12,kd,hb,e1,w3,ho]
 ·have hbp:=cS h1
  have e1:(0 < ((af q:Nat):Int))=True:=tt (by omega)
  by_cases h5:16384 < ((af q:Nat):Int)+(e+(k:Int))
  ·have e2:(16384 < ((af q:Nat):Int)+e+(k:Int))=True:=tt (by omega)
   rw [if_pos (show q ≠ 0∧16384 < ((af q:Nat):Int)+(e+(k:Int)) from ⟨h1,h5⟩)]
   cases out with
   | true =>
    rw [if_pos rfl]
    simp only [jQ,rV,ai,am,aH,go_sem,↓reduceIte,alS,alU,alT,alV,ne_eq,not_false_eq_true,h0,h2,h4,h12,h15,h16,h17,k12,kd,hb,e1,e2,w1,w2]
   | false =>
    rw [if_neg Bool.false_ne_true]
    simp only [jQ,rV,ai,am,go_sem,↓reduceIte,alS,alU,alT,alV,ne_eq,not_false_eq_true,h0,h2,h4,h12,h15,h16,h17,k12,kd,hb,e1,e2,w1,w2,hg]
  ·have e2:(16384 < ((af q:Nat):Int)+e+(k:Int))=False:=ff (by omega)
   rw [if_neg (fun h=>h5 h.2)]
   simp only [jQ,rV,ai,am,go_sem,↓reduceIte,alS,alU,alT,alV,ne_eq,not_false_eq_true,h0,h2,h4,h12,h15,h16,h17,k12,kd,hb,e1,e2,w1,w2,w3,ho]
end Go.Ab
namespace Go.Ab
open Go Go.IntWalk
set_option maxRecDepth 4000
set_option maxHeartbeats 1000000
theorem Wc {neg up:Bool} {m:List Nat} {e:Int} {n:Nat} (hb:Lb m) (hl:m.length≤1200) (he : -50000≤e∧e≤50000) (hp:8≤n∧n≤512):R F.r03_Cut [B neg,lm m,I e,B false,I n,B up] []=some (rV (mn neg (ab m) e false n up),[]):=by
 refine aB Qa P9 (IF false) rfl ?_
 have hT:=mX hb (by omega)
 have la:=bS m hb
 obtain ⟨M,hM⟩:∃ M,ab m=M:=⟨_,rfl⟩
 rw [hM] at hT la ⊢
 have hbl:=rN (aL M)
 rw [aD] at hbl
 have hB:=Jq (aL M) (by omega)
 rw [aD] at hB
 have w1:IntKind.i64.wrap (((af M:Nat):Int) - (n:Int))=((af M:Nat):Int) - (n:Int):=i64_in _ ⟨by omega,by omega⟩
 have w2:IntKind.i64.wrap (-16384 - e) = -16384 - e:=i64_in _ ⟨by omega,by omega⟩
 obtain ⟨k,hk⟩:∃ k,AM M e n=k:=⟨_,rfl⟩
 have hk2:(if (if ((af M:Nat):Int) - (n:Int) < -16384 - e then -16384 - e else ((af M:Nat):Int) - (n:Int)) < 0 then (0:Int) else (if ((af M:Nat):Int) - (n:Int) < -16384 - e then -16384 - e else ((af M:Nat):Int) - (n:Int)))=(k:Int):=by
  unfold AM at hk
  split <;> split <;> omega
 have hkb:k≤100000:=by
  unfold AM at hk
  omega
 have hS:=V8 (aL M) (n:=k) (by omega) (by omega)
 rw [aD] at hS
 have hq:af (M / 2 ^ k)≤38400:=by
  rw [di]
  omega
 have hql:(ap (M / 2 ^ k)).length≤1200:=aJ (by omega)
 have hL:=Me (aL (M / 2 ^ k)) (n:=k) (by omega) (by omega)
 rw [aD] at hL
 have hql2:(ap (M / 2 ^ k*2 ^ k)).length≤1200:=Nat.le_trans (kP (Nat.div_mul_le_self _ _)) (by omega)
 have hC:=V3 (aL (M / 2 ^ k*2 ^ k)) (aL M) (by omega) (by omega)
 rw [aD,aD] at hC
 have hA:=V4 (aL (M / 2 ^ k)) xj (by omega) (by decide)
 rw [aD,o5] at hA
 have hbs:=xk (M / 2 ^ k)
 have htl:=fun (out:Bool) (q:Nat) (hq:af q≤200000)=>QY (neg:=neg) (out:=out) (e:=e) (n:=n) (k:=k) (q:=q) hp hq ⟨by omega,by omega⟩ (by omega)
 have hdm:=Nat.div_add_mod M (2 ^ k)
 unfold mn
 rw [hk]
 generalize hout:(neg != up)=out
 unfold Jg
 rw [Bool.false_or]
 by_cases hlost:M % 2 ^ k=0
 ·rw [show decide (M % 2 ^ k ≠ 0)=false from decide_eq_false (fun h=>h hlost),Bool.false_and,if_neg Bool.false_ne_true]
  have hc0:aT (M / 2 ^ k*2 ^ k) M=0:=by
   have:M / 2 ^ k*2 ^ k=M:=by rw [Nat.mul_comm]; omega
   rw [this]
   unfold aT
   rw [if_neg (Nat.lt_irrefl _),if_neg (Nat.lt_irrefl _)]
  have e2:(aT (M / 2 ^ k*2 ^ k) M=0)=True:=tt hc0
  by_cases hk0:k=0
  ·have e1:(0 < (k:Int))=False:=ff (by omega)
   simp only [jg,jq,go_sem,↓reduceIte,alS,alU,alT,alV,alW,hT,hB,w1,w2,hk2,hS,e1,jD,hout]
   exact htl out _ (by omega) _ _ rfl rfl rfl rfl rfl rfl rfl rfl (fun i h1 h2=>by simp only [cY,h1,if_false])
  ·have e1:(0 < (k:Int))=True:=tt (by omega)
   simp only [jg,jq,go_sem,↓reduceIte,alS,alU,alT,alV,alW,hT,hB,w1,w2,hk2,hS,e1,hL,hC,e2,jD,hout]
   exact htl out _ (by omega) _ _ rfl rfl rfl rfl rfl rfl rfl rfl (fun i h1 h2=>by simp only [cY,h1,if_false])
 ·rw [show decide (M % 2 ^ k ≠ 0)=true from decide_eq_true hlost,Bool.true_and]
  have hk0:k ≠ 0:=fun h=>by
   rw [h,Nat.pow_zero,Nat.mod_one] at hlost
   exact hlost rfl
  have e1:(0 < (k:Int))=True:=tt (by omega)
  have hc0:aT (M / 2 ^ k*2 ^ k) M = -1:=by
   unfold aT
   rw [if_pos]
   rw [Nat.mul_comm]
   omega
  have e2:(aT (M / 2 ^ k*2 ^ k) M=0)=False:=ff (by omega)
  cases out with
  | false =>
   rw [if_neg Bool.false_ne_true]
   simp only [jg,jq,go_sem,↓reduceIte,alS,alU,alT,alV,alW,hT,hB,w1,w2,hk2,hS,e1,hL,hC,e2,jD,hout]
   exact htl false _ (by omega) _ _ rfl rfl rfl rfl rfl rfl rfl rfl (fun i h1 h2=>by simp only [cY,h1,if_false])
  | true =>
   rw [if_pos rfl]
   simp only [jg,jq,go_sem,↓reduceIte,alS,alU,alT,alV,alW,hT,hB,w1,w2,hk2,hS,e1,hL,hC,e2,jD,hout,oA,hA]
   exact htl true _ (by omega) _ _ rfl rfl rfl rfl rfl rfl rfl rfl (fun i h1 h2=>by simp only [cY,h1,h2,if_false])
theorem QZ {d:Rd} {up:Bool} {n:Nat} (hb:Lb d.m) (hl:d.m.length≤1200) (he : -50000≤d.e∧d.e≤50000) (hp:8≤n∧n≤512):R F.r03_exact [ai d,I n,B up] []=some (rV (mn d.neg (ab d.m) d.e false n up),[]):=by
 refine aB Lh Lg (DA false) rfl ?_
 have hc:=Wc (neg:=d.neg) (up:=up) hb hl he hp
 generalize mn d.neg (ab d.m) d.e false n up=r at hc ⊢
 simp only [rV,ai,am] at hc
 simp only [nT,y5,rV,ai,am,go_sem,↓reduceIte,alS,alU,alT,alV,hc]
theorem Tp {z f p:Int} {up:Bool} (hp:8≤p∧p≤512):mn (bL z f).neg (ab (bL z f).m) (bL z f).e false p up=kK z f p up:=by
 rw [Of hp]
 unfold bL
 by_cases h0:z=0
 ·subst h0
  show kK (bk (aV _ 0 f).neg (ab (aV _ 0 f).m)) (aV _ 0 f).e p up=_
  rw [cC]
  rfl
 ·have hn:z.natAbs ≠ 0:=by omega
  obtain ⟨g1,g2,g3,g4⟩:=o6 (neg:=decide (z < 0)) (e:=f) hn
  obtain ⟨h1,h2⟩:=m9 hn
  rw [g1,g2]
  have hneg:(aV (decide (z < 0)) z.natAbs f).neg=decide (z < 0):=by rw [fB hn]
  rw [hneg,← Fh]
  congr 1
  have h3:((z.natAbs / 2 ^ tz z.natAbs*2 ^ tz z.natAbs:Nat):Int)=z.natAbs:=by
   rw [Nat.mul_comm]
   exact congrArg Nat.cast h1.symm
  rw [Int.natCast_mul,Int.natCast_pow] at h3
  unfold bk
  by_cases h5:z < 0
  ·rw [decide_eq_true h5,if_pos rfl,Int.neg_mul]
   have h6:((z.natAbs / 2 ^ tz z.natAbs:Nat):Int)*2 ^ tz z.natAbs=z.natAbs:=h3
   rw [h6]
   omega
  ·rw [decide_eq_false h5,if_neg Bool.false_ne_true]
   have h6:((z.natAbs / 2 ^ tz z.natAbs:Nat):Int)*2 ^ tz z.natAbs=z.natAbs:=h3
   rw [h6]
   omega
theorem Ou {p:Int} {d:Rd}:bj p [d,d]=bj p [d]:=by
 unfold bj
 rw [List.all_cons,List.all_cons,List.all_nil,Bool.and_true,Bool.and_self]
theorem Fq {d:Rd} (ok:Ok0 d) {p:Int} {up:Bool}:R F.r03_Round [ai d,I p,B up] []=some (rV (qk d p up),[]):=by
 refine aB K5 K4 (Dp false) rfl ?_
 have hf:=QX ok ok (p:=p)
 rw [Ou] at hf
 unfold qk
 by_cases h0:bj p [d]=0
 ·obtain ⟨v1,hp⟩:=pT h0
  have v4:vd d=true:=by simpa using v1
  obtain ⟨h1,h2,h3,h4⟩:=dS v4 ok.lb
  rw [if_pos h0]
  rw [h0] at hf
  have hc:mn d.neg (ab d.m) d.e false p up=kK (zI d) (-16384) p up:=by
   have:=Tp (z:=zI d) (f := -16384) (up:=up) hp
   rw [qX ok v4] at this
   exact this
  obtain ⟨n,rfl⟩:=Int.eq_ofNat_of_zero_le (show 0≤p by omega)
  have he:=QZ (d:=d) (n:=n) (up:=up) ok.lb (by omega) ⟨by omega,by omega⟩ ⟨by omega,by omega⟩
  rw [hc] at he
  generalize kK (zI d) (-16384) (n:Nat) up=r at he ⊢
  simp only [rV,ai,am] at hf he
  simp only [kC,sI,rV,ai,am,go_sem,↓reduceIte,alS,alU,alT,alV,hf,he]
 ·have e1:(bj p [d]=0)=False:=ff h0
  rw [if_neg h0]
  simp only [ai,am] at hf
  simp only [kC,sI,rV,ai,am,aH,go_sem,↓reduceIte,alS,alU,alT,alV,hf,e1]
theorem Ci {x y:Int} {k:Nat} (hx:af x.natAbs≤k) (hy:af y.natAbs≤k):af (x+y).natAbs≤k+1:=by
 have:=rO hx hy
 refine Nat.le_trans ?_ this
 have h2:(x+y).natAbs≤x.natAbs+y.natAbs:=Int.natAbs_add_le _ _
 exact bh.2 (Nat.lt_of_le_of_lt h2 (bh.1 (Nat.le_refl _)))
theorem Mi {d:Rd} (ok:Ok0 d) (h:vd d=true):af (zI d).natAbs≤36864:=by
 obtain ⟨h1,h2,h3,h4⟩:=dS h ok.lb
 have:(zI d).natAbs=mg d:=by
  unfold zI
  split <;> omega
 rw [this]
 by_cases h0:d.m.length=0
 ·rw [DX h0]
  decide
 ·have:=tK h ok.lb h0
  rw [ia h h0] at this
  omega
theorem xw {a b:Rd} (oa:Ok0 a) (ob:Ok0 b) (va:vd a=true) (vb:vd b=true):aV (a.neg != b.neg) (ab a.m*ab b.m) (a.e+b.e)=bL (zI a*zI b) (-32768):=by
 obtain ⟨a1,a2,a3,a4⟩:=dS va oa.lb
 obtain ⟨b1,b2,b3,b4⟩:=dS vb ob.lb
 have hz:zI a*zI b=bk (a.neg != b.neg) (mg a*mg b):=by
  unfold zI bk
  cases a.neg <;> cases b.neg <;> simp [Int.mul_neg,Int.neg_mul]
 have hm:mg a*mg b=ab a.m*ab b.m*2 ^ ((a.e+16384).toNat+(b.e+16384).toNat):=by
  unfold mg
  rw [Nat.pow_add]
  ac_rfl
 rw [hz,← D7,hm,qO,show -32768+(((a.e+16384).toNat+(b.e+16384).toNat:Nat):Int)=a.e+b.e by omega]
end Go.Ab
namespace Go.Ab
open Go Go.IntWalk
set_option maxRecDepth 4000
set_option maxHeartbeats 2000000
theorem Jv {d:Rd}:R F.r05_zero [ai d] []=some (B (z0 d),[]):=by
 refine aB NP NO (Ga false) rfl ?_
 unfold z0
 cases hn:d.neg with
 | true=>simp only [hG,nQ,ai,am,go_sem,↓reduceIte,alS,alU,alT,hn,Bool.not_true,Bool.false_and]
 | false =>
  by_cases h1:d.m.length=0
  ·have e1:((d.m.length:Int)=0)=True:=tt (by omega)
   by_cases h2:d.e=0
   ·have e2:(d.e=0)=True:=tt h2
    rw [decide_eq_true h1,decide_eq_true h2]
    simp only [hG,nQ,ai,am,go_sem,↓reduceIte,alS,alU,alT,hn,e1,e2,Bool.not_false,Bool.true_and]
   ·have e2:(d.e=0)=False:=ff h2
    rw [decide_eq_true h1,decide_eq_false h2]
    simp only [hG,nQ,ai,am,go_sem,↓reduceIte,alS,alU,alT,hn,e1,e2,Bool.not_false,Bool.true_and]
  ·have e1:((d.m.length:Int)=0)=False:=ff (by omega)
   rw [decide_eq_false h1]
   simp only [hG,nQ,ai,am,go_sem,↓reduceIte,alS,alU,alT,hn,e1,Bool.not_false,Bool.true_and,Bool.false_and]
theorem Fr {x:Ri} (ok:OkI x):R F.r05_Valid [bv x] []=some (B (vi x),[]):=by
 refine aB KZ KY (Dm false) rfl ?_
 unfold vi
 have zl:=Jv (d:=x.lo)
 have zh:=Jv (d:=x.hi)
 have vl:=fg ok.lo
 have vh:=fg ok.hi
 simp only [ai,am] at zl zh vl vh
 cases ha:x.all with
 | true =>
  rw [if_pos rfl]
  cases h1:z0 x.lo with
  | true =>
   rw [h1] at zl
   simp only [eT,jK,bv,bu,go_sem,↓reduceIte,alS,alU,alT,alV,ha,zl,zh,Bool.true_and]
  | false =>
   rw [h1] at zl
   simp only [eT,jK,bv,bu,go_sem,↓reduceIte,alS,alU,alT,alV,ha,zl,Bool.false_and]
 | false =>
  rw [if_neg Bool.false_ne_true]
  cases h1:vd x.lo with
  | false =>
   rw [h1] at vl
   simp only [eT,jK,bv,bu,go_sem,↓reduceIte,alS,alU,alT,alV,ha,vl,Bool.false_and]
  | true =>
   rw [h1] at vl
   cases h2:vd x.hi with
   | false =>
    rw [h2] at vh
    simp only [eT,jK,bv,bu,go_sem,↓reduceIte,alS,alU,alT,alV,ha,vl,vh,Bool.true_and,Bool.false_and]
   | true =>
    rw [h2] at vh
    have hc:=Mh ok.lo ok.hi h1 h2
    simp only [ai,am] at hc
    simp only [eT,jK,bv,bu,go_sem,↓reduceIte,alS,alU,alT,alV,ha,vl,vh,hc,Mc,Bool.true_and]
theorem Ft:R F.r05_Whole [] []=some (bv qr,[]):=by
 refine aB K3 K2 (Do false) rfl ?_
 simp only [nK,yY,bv,bu,qr,aH,go_sem,↓reduceIte,alS,alU,alT,alV]
theorem Tq {p:Int}:R F.r05_Prec [I p] []=some (B (kM p),[]):=by
 refine aB NJ NI (F0 false) rfl ?_
 unfold kM
 by_cases h1:8≤p
 ·have e1:(8≤p)=True:=tt h1
  simp only [l8,uv,go_sem,↓reduceIte,alS,e1,decide_true,Bool.true_and]
 ·have e1:(8≤p)=False:=ff h1
  simp only [l8,uv,go_sem,↓reduceIte,alS,e1,decide_false,Bool.false_and]
theorem Q0 {x:Ri} (ok:OkI x):R F.r05_known [bv x] []=some (B (kI x),[]):=by
 refine aB K1 K0 (Dn false) rfl ?_
 have hv:=Fr ok
 simp only [bv,bu] at hv
 unfold kI
 cases h1:vi x with
 | false =>
  rw [h1] at hv
  rw [Bool.and_false]
  simp only [kB,sH,bv,bu,go_sem,↓reduceIte,alS,alU,alT,alV,hv]
 | true =>
  rw [h1] at hv
  rw [Bool.and_true]
  simp only [kB,sH,bv,bu,go_sem,↓reduceIte,alS,alU,alT,alV,hv]
theorem Ts {a b:Rd} {e f:Int}:R F.r05_made [ai a,I e,ai b,I f] []=some (bv (uT (a,e) (b,f)),[]):=by
 refine aB NL NK (F1 false) rfl ?_
 have hw:=Ft
 simp only [bv,bu] at hw
 unfold uT
 by_cases h1:e=0
 ·have e1:(e=0)=True:=tt h1
  by_cases h2:f=0
  ·have e2:(f=0)=True:=tt h2
   rw [if_pos ⟨h1,h2⟩]
   simp only [jM,qF,ai,am,bv,bu,go_sem,↓reduceIte,alS,alU,alT,alV,e1,e2]
  ·have e2:(f=0)=False:=ff h2
   rw [if_neg (fun h=>h2 h.2)]
   simp only [jM,qF,ai,am,bv,bu,go_sem,↓reduceIte,alS,alU,alT,alV,e1,e2,hw]
 ·have e1:(e=0)=False:=ff h1
  rw [if_neg (fun h=>h1 h.1)]
  simp only [jM,qF,ai,am,bv,bu,go_sem,↓reduceIte,alS,alU,alT,alV,e1,hw]
end Go.Ab
namespace Go.Ab
open Go Go.IntWalk
set_option maxRecDepth 4000
set_option maxHeartbeats 1000000
end Go.Ab
namespace Go.Ab
open Go Go.IntWalk
set_option maxRecDepth 4000
set_option maxHeartbeats 1000000
theorem Yh {a b:Rd} (oa:Ok0 a) (ob:Ok0 b) (va:vd a=true) (vb:vd b=true) (h:zI a=zI b):a=b:=by
 rw [← qX oa va,← qX ob vb,h]
theorem UC (x y:Int):(x < y∧bw x y = -1)∨(x=y∧bw x y=0)∨(y < x∧bw x y=1):=by
 unfold bw
 rcases Int.lt_trichotomy x y with h | h | h
 ·exact Or.inl ⟨h,if_pos h⟩
 ·exact Or.inr (Or.inl ⟨h,by rw [if_neg (by omega)]; exact if_neg (by omega)⟩)
 ·exact Or.inr (Or.inr ⟨h,by rw [if_neg (by omega)]; exact if_pos h⟩)
theorem Q1 {d:Rd} (h:vd d=true):(0 < bU d↔0 < zI d)∧(bU d < 0↔zI d < 0):=by
 have:=rK d h
 omega
end Go.Ab
namespace Go.Ab
open Go Go.IntWalk
set_option maxRecDepth 4000
set_option maxHeartbeats 1000000
theorem Ov {a:List Int} (h2:sm a):∀ (k i:Nat),i+k=a.length→∀ (s:aj) (h:ac),s 0 = .sl 1 (dp a)→s 3=I (bl (a.take i))→s 4=I i →
  au 0 [3] (aq (ak R (ae false) nP) [0,3,4] [] s h)=some (.normal,⟨upd (fun _ => .any) 3 (I (bl a)),fun _ => .dead⟩):=by
 intro k
 induction k with
 | zero =>
  intro i hi s h h0 h3 h4
  have e1:((i:Int) < a.length)=False:=ff (by omega)
  rw [List.take_of_length_le (by omega)] at h3
  rw [ao]
  simp only [nP,go_sem,↓reduceIte,alS,h0,h3,h4,e1]
 | succ k ih =>
  intro i hi s h h0 h3 h4
  have hlt:i < a.length:=by omega
  obtain ⟨g1,g2⟩:=h2
  have e1:((i:Int) < a.length)=True:=tt (by omega)
  have e2:aN (dp a) (i:Int)=some (.ipt [I a[i]]):=jP rfl (List.getElem?_eq_getElem hlt)
  have e5:IntKind.i64.wrap ((i:Int)+1)=((i+1:Nat):Int):=wi (by omega) (by omega)
  have b1:=Jj (l:=a.take i) (fun x hx=>g2 x (List.mem_of_mem_take hx))
  have b2:=g2 a[i] (List.getElem_mem hlt)
  have b3:(a.take i).length≤1000:=by simp only [List.length_take]; omega
  have e6:IntKind.i64.wrap (bl (a.take i)+a[i])=bl (a.take (i+1)):=by
   rw [AN hlt]
   exact i64_in _ ⟨by omega,by omega⟩
  have ih':=ih (i+1) (by omega)
  generalize a[i]=x at e2 e6 ⊢
  rw [ao]
  generalize aq _ _ _=L at ih' ⊢
  simp only [nP,go_sem,↓reduceIte,alS,h0,h3,h4,e1,e2,e5,e6]
  exact ih' _ _ rfl rfl rfl
theorem AP {a:List Int} (h2:sm a):R F.r23_sum [.sl 1 (dp a)] []=some (I (bl a),[]):=by
 refine aB P0 PZ (Ix false) rfl ?_
 have h3:=Ov h2 a.length 0 (Nat.zero_add _)
 simp only [List.take_zero,bl,Int.natCast_zero] at h3
 simp only [qG,E7,go_sem,↓reduceIte,alS]
 rw [h3 _ _ rfl rfl rfl]
 simp only [go_sem,↓reduceIte]
theorem Ow {a b:List Int} (hl:a.length=b.length) (h2:a.length≤100000):∀ (k i:Nat),i+k=a.length→∀ (s:aj) (h:ac),s 0 = .sl 1 (dp a)→s 1 = .sl 1 (dp b)→s 7=I i →
  ∃ hh,au 0 [] (aq (ak R (ae false) ez) [0,1,7] [] s h)=if rP (b.drop i) (a.drop i)=0 then some (.normal,⟨fun _ => .any,fun _ => .dead⟩) else some (.ret,⟨upd (fun _ => .any) 4 (I (rP (b.drop i) (a.drop i))),hh⟩):=by
 intro k
 induction k with
 | zero =>
  intro i hi s h h0 h1 h7
  have e1:((i:Int) < a.length)=False:=ff (by omega)
  rw [List.drop_eq_nil_of_le (by omega),List.drop_eq_nil_of_le (by omega),ao]
  refine ⟨fun _ => .dead,?_⟩
  show _=if (0:Int)=0 then _ else _
  rw [if_pos rfl]
  simp only [ez,go_sem,↓reduceIte,alS,h0,h1,h7,e1]
 | succ k ih =>
  intro i hi s h h0 h1 h7
  have hlt:i < a.length:=by omega
  have hlt2:i < b.length:=by omega
  have e1:((i:Int) < a.length)=True:=tt (by omega)
  have e2:aN (dp a) (i:Int)=some (.ipt [I a[i]]):=jP rfl (List.getElem?_eq_getElem hlt)
  have e3:aN (dp b) (i:Int)=some (.ipt [I b[i]]):=jP rfl (List.getElem?_eq_getElem hlt2)
  have e5:IntKind.i64.wrap ((i:Int)+1)=((i+1:Nat):Int):=wi (by omega) (by omega)
  rw [List.drop_eq_getElem_cons hlt,List.drop_eq_getElem_cons hlt2,ao]
  have ih':=ih (i+1) (by omega)
  generalize a[i]=x at e2 ⊢
  generalize b[i]=y at e3 ⊢
  generalize aq _ _ _=L at ih' ⊢
  unfold rP
  rcases UC y x with ⟨g,e⟩ | ⟨g,e⟩ | ⟨g,e⟩
  ·have e6:(y < x)=True:=tt g
   simp only [e,↓reduceIte,al0,Int.reduceNeg]
   refine ⟨?hh1,?_⟩
   rotate_left
   simp only [ez,go_sem,↓reduceIte,alS,h0,h1,h7,e1,e2,e3,e6]
   rfl
  ·have e6:(y < x)=False:=ff (by omega)
   have e7:(x < y)=False:=ff (by omega)
   simp only [e,↓reduceIte]
   simp only [ez,go_sem,↓reduceIte,alS,h0,h1,h7,e1,e2,e3,e5,e6,e7]
   exact ih' _ _ rfl rfl rfl
  ·have e6:(y < x)=False:=ff (by omega)
   have e7:(x < y)=True:=tt (by omega)
   simp only [e,↓reduceIte,al0]
   refine ⟨?hh2,?_⟩
   rotate_left
   simp only [ez,go_sem,↓reduceIte,alS,h0,h1,h7,e1,e2,e3,e6,e7]
   rfl
theorem Jw {a b:List Int} (ha:sm a) (hb:sm b) (hl:a.length=b.length):R F.r23_Compare [.sl 1 (dp a),.sl 1 (dp b)] []=some (I (jp a b),[]):=by
 refine aB F7 F6 (zP false) rfl ?_
 have d1:=AP ha
 have d2:=AP hb
 have h3:=Ow hl (by have:=ha.1; omega) a.length 0 (Nat.zero_add _)
 simp only [List.drop_zero,Int.natCast_zero] at h3
 unfold jp
 rcases UC (bl a) (bl b) with ⟨g,e⟩ | ⟨g,e⟩ | ⟨g,e⟩
 ·have e6:(bl a < bl b)=True:=tt g
  rw [e,if_neg (by decide)]
  simp only [eA,jy,go_sem,↓reduceIte,alS,alU,alT,d1,d2,e6]
 ·have e6:(bl a < bl b)=False:=ff (by omega)
  have e7:(bl b < bl a)=False:=ff (by omega)
  rw [e,if_pos rfl]
  by_cases hz:rP b a=0
  ·simp only [if_pos hz] at h3
   simp only [eA,jy,go_sem,↓reduceIte,alS,alU,alT,d1,d2,e6,e7]
   rw [(h3 _ _ rfl rfl rfl).choose_spec,hz]
   simp only [go_sem,↓reduceIte]
  ·simp only [if_neg hz] at h3
   simp only [eA,jy,go_sem,↓reduceIte,alS,alU,alT,d1,d2,e6,e7]
   rw [(h3 _ _ rfl rfl rfl).choose_spec]
   simp only [go_sem,↓reduceIte]
 ·have e6:(bl a < bl b)=False:=ff (by omega)
  have e7:(bl b < bl a)=True:=tt (by omega)
  rw [e,if_neg (by decide)]
  simp only [eA,jy,go_sem,↓reduceIte,alS,alU,alT,d1,d2,e6,e7]
theorem Q2 {t:Rt} (h2:t.exps.length≤1000):∀ (k i:Nat),i+k=t.exps.length→(∀ x ∈ t.exps.take i,0≤x∧x≤32)→∀ (s:aj) (h:ac),s 3 = .ref 3 none 0 0 0→s 5=I (bl (t.exps.take i))→s 6=I i→h 3 = .bx (cV t) →
  ∃ hh,au 0 [5] (aq (ak R (ae false) ei) [3,5,6] [3] s h)=if (t.exps.drop i).any oD=true then some (.ret,⟨upd (fun _ => .any) 4 (B false),hh⟩) else some (.normal,⟨upd (fun _ => .any) 5 (I (bl t.exps)),hh⟩):=by
 intro k
 induction k with
 | zero =>
  intro i hi hg s h h3 h5 h6 k3
  have e1:((i:Int) < t.exps.length)=False:=ff (by omega)
  rw [List.take_of_length_le (by omega)] at h5
  rw [List.drop_eq_nil_of_le (by omega),ao]
  simp only [cV] at k3
  refine ⟨?hh,?_⟩
  rotate_left
  show _=if false=true then _ else _
  rw [if_neg Bool.false_ne_true]
  simp only [ei,go_sem,↓reduceIte,alS,alU,alT,alX,h3,h5,h6,k3,e1]
  rfl
 | succ k ih =>
  intro i hi hg s h h3 h5 h6 k3
  have hlt:i < t.exps.length:=by omega
  have e1:((i:Int) < t.exps.length)=True:=tt (by omega)
  have e2:aN (dp t.exps) (i:Int)=some (.ipt [I t.exps[i]]):=jP rfl (List.getElem?_eq_getElem hlt)
  have e5:IntKind.i64.wrap ((i:Int)+1)=((i+1:Nat):Int):=wi (by omega) (by omega)
  have b1:=Jj hg
  have b3:(t.exps.take i).length≤1000:=by simp only [List.length_take]; omega
  have ih':=ih (i+1) (by omega)
  have htk:t.exps.take (i+1)=t.exps.take i++[t.exps[i]]:=by rw [List.take_add_one,List.getElem?_eq_getElem hlt]; rfl
  have hst:=AN hlt
  rw [List.drop_eq_getElem_cons hlt,List.any_cons,ao]
  simp only [cV] at k3
  rw [hst] at ih'
  rw [htk] at ih'
  generalize t.exps[i]=x at e2 ih' ⊢
  generalize aq _ _ _=L at ih' ⊢
  unfold oD at ih' ⊢
  by_cases g1:x < 0
  ·have e6:(x < 0)=True:=tt g1
   simp only [decide_eq_true g1,Bool.true_or]
   refine ⟨?hh1,?_⟩
   rotate_left
   rw [if_pos trivial]
   simp only [ei,go_sem,↓reduceIte,alS,alU,alT,alX,h3,h5,h6,k3,e1,e2,e6]
   rfl
  ·have e6:(x < 0)=False:=ff g1
   by_cases g2:32 < x
   ·have e7:(32 < x)=True:=tt g2
    simp only [decide_eq_false g1,decide_eq_true g2,Bool.false_or,Bool.true_or]
    refine ⟨?hh2,?_⟩
    rotate_left
    rw [if_pos trivial]
    simp only [ei,go_sem,↓reduceIte,alS,alU,alT,alX,h3,h5,h6,k3,e1,e2,e6,e7]
    rfl
   ·have e7:(32 < x)=False:=ff g2
    simp only [decide_eq_false g1,decide_eq_false g2,Bool.false_or]
    have e8:IntKind.i64.wrap (bl (t.exps.take i)+x)=bl (t.exps.take i)+x:=i64_in _ ⟨by omega,by omega⟩
    simp only [ei,go_sem,↓reduceIte,alS,alU,alT,alX,h3,h5,h6,k3,e1,e2,e5,e6,e7,e8]
    exact ih' (fun y hy=>by
     rcases List.mem_append.1 hy with h | h
     ·exact hg y h
     ·rw [List.mem_singleton.1 h]
      omega) _ _ rfl rfl rfl rfl
theorem Q3 {v:Int} {t:Rt} (ok:OkT t) (hv:v≤1000):R F.r23_term [I v,.agg (cV t)] []=some (B (xp v t),[]):=by
 refine aB NN NM (F5 false) rfl ?_
 have hvd:=fg ok.c
 simp only [ai,am] at hvd
 unfold xp
 by_cases c1:(t.exps.length:Int)=v
 ·have f1:((t.exps.length:Int)=v)=True:=tt c1
  rw [decide_eq_true c1,Bool.true_and]
  cases c2:vd t.c with
  | false =>
   rw [c2] at hvd
   rw [Bool.false_and]
   simp only [fT,lq,cV,go_sem,↓reduceIte,alS,alU,alT,alV,f1,hvd]
  | true =>
   rw [c2] at hvd
   rw [Bool.true_and]
   by_cases c3:t.c.m.length=0
   ·have f3:((t.c.m.length:Int)=0)=True:=tt (by omega)
    rw [decide_eq_false (p:=t.c.m.length ≠ 0) (fun h=>h c3),Bool.false_and]
    simp only [fT,lq,cV,go_sem,↓reduceIte,alS,alU,alT,alV,f1,hvd,f3]
   ·have f3:((t.c.m.length:Int)=0)=False:=ff (by omega)
    rw [decide_eq_true (p:=t.c.m.length ≠ 0) c3,Bool.true_and]
    have hL:=Q2 (t:=t) (by omega) t.exps.length 0 (Nat.zero_add _) (fun x hx=>by rw [List.take_zero] at hx; exact nomatch hx)
    simp only [List.drop_zero,List.take_zero,bl,Int.natCast_zero] at hL
    generalize hLL:aq (ak R (ae false) ei) [3,5,6] [3]=L at hL
    have hX:∀ s h,ak R (ae false) (.loop [3,5,6] [3] ei) s h=L s h:=fun s h=>by rw [← hLL]; rfl
    clear hLL
    have hL2:∀ (S:aj) (H:ac) (X:Option (Ex × St)),au 0 [5] (L S H)=X→S 3 = .ref 3 none 0 0 0→S 5=I 0→S 6=I 0→H 3 = .bx (cV t)→∃ hh,X=if t.exps.any oD=true then some (.ret,⟨upd (fun _ => .any) 4 (B false),hh⟩) else some (.normal,⟨upd (fun _ => .any) 5 (I (bl t.exps)),hh⟩):=fun S H X hX=>by
     rw [← hX]
     exact hL S H
    simp only [cV] at hL2
    cases c4:t.exps.any oD with
    | true =>
     simp only [c4] at hL2
     rw [Bool.not_true,Bool.false_and]
     simp only [fT,lq,hX,cV,go_sem,↓reduceIte,alS,alU,alT,alV,f1,hvd,f3]
     generalize hB:au 0 [5] (L _ _)=X
     obtain ⟨hh,g0⟩:=hL2 _ _ _ hB rfl rfl rfl rfl
     rw [g0]
     simp only [go_sem,↓reduceIte]
    | false =>
     simp only [c4,if_neg Bool.false_ne_true] at hL2
     rw [Bool.not_false,Bool.true_and]
     simp only [fT,lq,hX,cV,go_sem,↓reduceIte,alS,alU,alT,alV,f1,hvd,f3]
     generalize hB:au 0 [5] (L _ _)=X
     obtain ⟨hh,g0⟩:=hL2 _ _ _ hB rfl rfl rfl rfl
     rw [g0]
     simp only [go_sem,↓reduceIte]
 ·have f1:((t.exps.length:Int)=v)=False:=ff c1
  rw [decide_eq_false c1,Bool.false_and]
  simp only [fT,lq,cV,go_sem,↓reduceIte,alS,alU,alT,f1]
theorem Q4 {a:Rp} (ok:OkP a) (hv:a.vars≤8) (h2:a.terms.length≤500):∀ (k i:Nat),i+k=a.terms.length→∀ (pr:Option Rt),(i=0→pr=none)→(0 < i→∃ q,pr=some q∧a.terms[i - 1]?=some q∧xp a.vars q=true) →
  ∀ (s:aj) (h:ac),s 1 = .ref 1 none 0 0 0→s 3=I i→h 1 = .bx [I a.vars,.sl 4 (cW a.terms)] →
  ∃ hh,au 0 [] (aq (ak R (ae false) ew) [1,3] [1] s h)=if nh a.vars pr (a.terms.drop i)=true then some (.normal,⟨fun _ => .any,hh⟩) else some (.ret,⟨upd (fun _ => .any) 2 (B false),hh⟩):=by
 intro k
 induction k with
 | zero =>
  intro i hi pr p0 p1 s h h1 h3 k1
  have e1:((i:Int) < a.terms.length)=False:=ff (by omega)
  rw [List.drop_eq_nil_of_le (by omega),ao]
  refine ⟨?hh0,?_⟩
  rotate_left
  show _=if true=true then _ else _
  rw [if_pos rfl]
  simp only [ew,go_sem,↓reduceIte,alS,alU,alT,alX,h1,h3,k1,e1]
  rfl
 | succ k ih =>
  intro i hi pr p0 p1 s h h1 h3 k1
  have hlt:i < a.terms.length:=by omega
  have e1:((i:Int) < a.terms.length)=True:=tt (by omega)
  have e2:aN (cW a.terms) (i:Int)=some (.ipt (cV a.terms[i])):=iM rfl (List.getElem?_eq_getElem hlt)
  have e5:IntKind.i64.wrap ((i:Int)+1)=((i+1:Nat):Int):=wi (by omega) (by omega)
  have okt:=ok.t a.terms[i] (List.getElem_mem hlt)
  have hnext:a.terms[i+1 - 1]?=some a.terms[i]:=List.getElem?_eq_getElem hlt
  rw [List.drop_eq_getElem_cons hlt,ao]
  have ih':=ih (i+1) (by omega) (some a.terms[i]) (fun h=>absurd h (Nat.succ_ne_zero _))
  generalize a.terms[i]=t at e2 okt ih' hnext ⊢
  generalize aq _ _ _=L at ih' ⊢
  have htm:=Q3 okt (v:=a.vars) (by omega)
  simp only [cV] at e2 htm
  unfold nh
  cases hb:xp a.vars t with
  | false =>
   rw [hb] at htm
   simp only [Bool.false_and,if_neg Bool.false_ne_true]
   refine ⟨?hh2,?_⟩
   rotate_left
   simp only [ew,go_sem,↓reduceIte,alS,alU,alT,alV,alW,alX,h1,h3,k1,e1,e2,htm]
   rfl
  | true =>
   rw [hb] at htm
   obtain ⟨c1,c2,c3,c4,c5⟩:=xq hb
   simp only [Bool.true_and]
   by_cases hi0:i=0
   ·have f6:(0 < (i:Int))=False:=ff (by omega)
    rw [p0 hi0]
    simp only [Jk,Bool.true_and]
    simp only [ew,go_sem,↓reduceIte,alS,alU,alT,alV,alW,alX,h1,h3,k1,e1,e2,htm,f6,e5]
    exact ih' (fun _=>⟨t,rfl,hnext,hb⟩) _ _ rfl rfl rfl
   ·have f6:(0 < (i:Int))=True:=tt (by omega)
    obtain ⟨q,q1,q2,q3⟩:=p1 (by omega)
    obtain ⟨d1,d2,d3,d4,d5⟩:=xq q3
    rw [q1]
    have e7:IntKind.i64.wrap ((i:Int) - 1)=((i - 1:Nat):Int):=wi (by omega) (by omega)
    have e8:aN (cW a.terms) ((i - 1:Nat):Int)=some (.ipt (cV q)):=iM rfl q2
    simp only [cV] at e8
    have ho:=Jw (a:=q.exps) (b:=t.exps) ⟨by omega,o7 d4⟩ ⟨by omega,o7 c4⟩ (by omega)
    simp only [Jk]
    by_cases c6:jp q.exps t.exps < 0
    ·have f7:(0≤jp q.exps t.exps)=False:=ff (by omega)
     simp only [decide_eq_true c6,Bool.true_and]
     simp only [ew,go_sem,↓reduceIte,alS,alU,alT,alV,alW,alX,h1,h3,k1,e1,e2,htm,f6,e5,e7,e8,ho,f7]
     exact ih' (fun _=>⟨t,rfl,hnext,hb⟩) _ _ rfl rfl rfl
    ·have f7:(0≤jp q.exps t.exps)=True:=tt (by omega)
     simp only [decide_eq_false c6,Bool.false_and,if_neg Bool.false_ne_true]
     refine ⟨?hh7,?_⟩
     rotate_left
     simp only [ew,go_sem,↓reduceIte,alS,alU,alT,alV,alW,alX,h1,h3,k1,e1,e2,htm,f6,e7,e8,ho,f7]
     rfl
theorem qP {a:Rp} (ok:OkP a):R F.r23_Valid [a8 a] []=some (B (vp a),[]):=by
 refine aB KV KU (Dk false) rfl ?_
 unfold vp
 by_cases c1:0≤a.vars
 ·have f1:(a.vars < 0)=False:=ff (by omega)
  rw [decide_eq_true c1,Bool.true_and]
  by_cases c2:a.vars≤8
  ·have f2:(8 < a.vars)=False:=ff (by omega)
   rw [decide_eq_true c2,Bool.true_and]
   by_cases c3:a.terms.length≤500
   ·have f3:(500 < (a.terms.length:Int))=False:=ff (by omega)
    rw [decide_eq_true c3,Bool.true_and]
    have h3:=Q4 ok c2 c3 a.terms.length 0 (Nat.zero_add _) none (fun _=>rfl) (fun h=>absurd h (Nat.lt_irrefl _))
    simp only [List.drop_zero,Int.natCast_zero] at h3
    cases hb:nh a.vars none a.terms with
    | true =>
     rw [hb] at h3
     simp only [] at h3
     simp only [eS,jJ,a8,go_sem,↓reduceIte,alS,alU,alT,f1,f2,f3]
     rw [(h3 _ _ rfl rfl rfl).choose_spec]
     simp only [go_sem,↓reduceIte]
    | false =>
     rw [hb] at h3
     simp only [if_neg Bool.false_ne_true] at h3
     simp only [eS,jJ,a8,go_sem,↓reduceIte,alS,alU,alT,f1,f2,f3]
     rw [(h3 _ _ rfl rfl rfl).choose_spec]
     simp only [go_sem,↓reduceIte]
   ·have f3:(500 < (a.terms.length:Int))=True:=tt (by omega)
    rw [decide_eq_false c3,Bool.false_and]
    simp only [eS,jJ,a8,go_sem,↓reduceIte,alS,alU,alT,f1,f2,f3]
  ·have f2:(8 < a.vars)=True:=tt (by omega)
   rw [decide_eq_false c2,Bool.false_and]
   simp only [eS,jJ,a8,go_sem,↓reduceIte,alS,alU,alT,f1,f2]
 ·have f1:(a.vars < 0)=True:=tt (by omega)
  rw [decide_eq_false c1,Bool.false_and]
  simp only [eS,jJ,a8,go_sem,↓reduceIte,alS,alU,alT,f1]
end Go.Ab
namespace Go.Ab
open Go Go.IntWalk
set_option maxRecDepth 4000
set_option maxHeartbeats 1000000
theorem Ox (l:List Ri) (ok:∀ d ∈ l,OkI d) (h2:l.length≤100000):∀ (k i:Nat),i+k=l.length→∀ (s:aj) (h:ac),s 1 = .sl 7 (dB l)→s 5=I i →
  ∃ hh,au 0 [] (aq (ak R (ae false) fl) [1,5] [] s h)=if ((l.drop i).any fun x => !kI x)=true then some (.ret,⟨upd (fun _ => .any) 4 (B false),hh⟩) else some (.normal,⟨fun _ => .any,fun _ => .dead⟩):=by
 intro k
 induction k with
 | zero =>
  intro i hi s h h1 h5
  have e1:((i:Int) < l.length)=False:=ff (by omega)
  rw [List.drop_eq_nil_of_le (by omega),ao]
  refine ⟨fun _ => .dead,?_⟩
  show _=if false=true then _ else _
  rw [if_neg Bool.false_ne_true]
  simp only [fl,go_sem,↓reduceIte,alS,h1,h5,e1]
 | succ k ih =>
  intro i hi s h h1 h5
  have hlt:i < l.length:=by omega
  have e1:((i:Int) < l.length)=True:=tt (by omega)
  have e2:aN (dB l) (i:Int)=some (.ipt (bu l[i])):=VW rfl (List.getElem?_eq_getElem hlt)
  have e5:IntKind.i64.wrap ((i:Int)+1)=((i+1:Nat):Int):=wi (by omega) (by omega)
  have e3:=Fr (ok l[i] (List.getElem_mem hlt))
  rw [List.drop_eq_getElem_cons hlt,List.any_cons,ao]
  have ih':=ih (i+1) (by omega)
  generalize l[i]=d at e2 e3 ⊢
  simp only [bv] at e3
  simp only [bu] at e2 e3
  generalize aq _ _ _=L at ih' ⊢
  have hkd:kI d=(!d.all && vi d):=rfl
  rw [hkd]
  cases ha:d.all with
  | true =>
   refine ⟨?hh,?_⟩
   rotate_left
   rw [Bool.not_true,Bool.false_and,Bool.not_false,Bool.true_or,if_pos rfl]
   simp only [fl,go_sem,↓reduceIte,alS,h1,h5,e1,e2,ha]
   rfl
  | false =>
   rw [ha] at e3
   cases hv:vi d with
   | false =>
    rw [hv] at e3
    refine ⟨?hh2,?_⟩
    rotate_left
    rw [Bool.and_false,Bool.not_false,Bool.true_or,if_pos rfl]
    simp only [fl,go_sem,↓reduceIte,alS,alU,alT,alV,h1,h5,e1,e2,e3,ha]
    rfl
   | true =>
    rw [hv] at e3
    rw [Bool.not_false,Bool.true_and,Bool.not_true,Bool.false_or]
    simp only [fl,go_sem,↓reduceIte,alS,alU,alT,alV,h1,h5,e1,e2,e3,e5,ha]
    exact ih' _ _ rfl rfl
theorem zj {a:Rp} {dom:List Ri} (oa:OkP a) (od:∀ x ∈ dom,OkI x) (h2:dom.length≤100000):R F.r24_Domain [a8 a,.sl 7 (dB dom)] []=some (B (rQ a dom),[]):=by
 refine aB Ie Ic (BU false) rfl ?_
 have hv:=qP oa
 have hL:=Ox dom od h2 dom.length 0 (Nat.zero_add _)
 simp only [List.drop_zero,Int.natCast_zero] at hL
 simp only [a8] at hv
 unfold rQ
 cases h1:vp a with
 | false =>
  rw [h1] at hv
  rw [Bool.false_and]
  simp only [fv,ky,a8,go_sem,↓reduceIte,alS,alU,alT,alV,hv]
 | true =>
  rw [h1] at hv
  rw [Bool.true_and]
  by_cases h3:(dom.length:Int)=a.vars
  ·have e3:((dom.length:Int)=a.vars)=True:=tt h3
   rw [decide_eq_true h3,Bool.true_and]
   cases h4:(dom.any fun x => !kI x) with
   | true =>
    simp only [h4] at hL
    rw [Bool.not_true]
    simp only [fv,ky,a8,go_sem,↓reduceIte,alS,alU,alT,alV,hv,e3]
    rw [(hL _ _ rfl rfl).choose_spec]
    simp only [go_sem,↓reduceIte]
   | false =>
    simp only [h4,if_neg Bool.false_ne_true] at hL
    rw [Bool.not_false]
    simp only [fv,ky,a8,go_sem,↓reduceIte,alS,alU,alT,alV,hv,e3]
    rw [(hL _ _ rfl rfl).choose_spec]
    simp only [go_sem,↓reduceIte]
  ·have e3:((dom.length:Int)=a.vars)=False:=ff h3
   rw [decide_eq_false h3,Bool.false_and]
   simp only [fv,ky,a8,go_sem,↓reduceIte,alS,alU,alT,alV,hv,e3]
end Go.Ab
namespace Go.Ab
open Go Go.IntWalk
set_option maxRecDepth 4000
set_option maxHeartbeats 1000000
def uU (d:Rd):Bool:=decide (20 < d.m.length) || (decide (300 < d.e) || decide (d.e < -300))
theorem xx {d:Rd}:R F.l24_long [ai d] []=some (B (uU d),[]):=by
 refine aB NE ND (FU false) rfl ?_
 unfold uU
 by_cases h1:20 < d.m.length
 ·have e1:(20 < (d.m.length:Int))=True:=tt (by omega)
  rw [decide_eq_true h1,Bool.true_or]
  simp only [jI,qD,ai,am,go_sem,↓reduceIte,alS,alU,alT,e1]
 ·have e1:(20 < (d.m.length:Int))=False:=ff (by omega)
  rw [decide_eq_false h1,Bool.false_or]
  by_cases h2:300 < d.e
  ·have e2:(300 < d.e)=True:=tt h2
   rw [decide_eq_true h2,Bool.true_or]
   simp only [jI,qD,ai,am,go_sem,↓reduceIte,alS,alU,alT,e1,e2]
  ·have e2:(300 < d.e)=False:=ff h2
   rw [decide_eq_false h2,Bool.false_or]
   simp only [jI,qD,ai,am,go_sem,↓reduceIte,alS,alU,alT,e1,e2]
def uV (t:Rt):Bool:=uU t.c || decide (8 < t.exps.length)
theorem Wd {t:Rt}:R F.l24_few_1 [.agg (cV t)] []=some (B (uV t),[]):=by
 refine aB KT KS (Dj false) rfl ?_
 have hl:=xx (d:=t.c)
 simp only [ai,am] at hl
 unfold uV
 cases h1:uU t.c with
 | true =>
  rw [h1] at hl
  rw [Bool.true_or]
  simp only [kA,sF,cV,go_sem,↓reduceIte,alS,alU,alT,alV,hl]
 | false =>
  rw [h1] at hl
  rw [Bool.false_or]
  have e:decide ((8:Int) < (t.exps.length:Int))=decide (8 < t.exps.length):=by rw [decide_eq_decide]; omega
  simp only [kA,sF,cV,go_sem,↓reduceIte,alS,alU,alT,alV,hl,e]
theorem AQ (m:List Nat):(aC m).map (fun r=>match r with | [.v (.int _ x)]=>x.toNat | _=>0)=m:=by
 unfold aC
 rw [List.map_map]
 exact (List.map_congr_left (g:=fun c=>c) fun x _=>by simp).trans (List.map_id' _)
theorem Tt (m:List Int):(dp m).map (fun r=>match r with | [.v (.int _ x)]=>x | _=>0)=m:=by
 unfold dp
 rw [List.map_map]
 exact (List.map_congr_left (g:=fun c=>c) fun x _=>by simp).trans (List.map_id' _)
theorem Tu {l:List Rt} (h2:l.length≤100000):R F.slices_ContainsFunc_api_Term_api_Term_ [.sl 4 (cW l),.fn F.l24_few_1 [] []] []=some (B (l.any uV),[]):=by
 let p:List AV→Bool:=fun row=>match row with | [.sl _ m1,.v (.bool n2),.sl _ m2,.v (.int _ e2)]=>uV ⟨m1.map (fun r=>match r with | [.v (.int _ x)]=>x | _=>0),⟨n2,m2.map (fun r=>match r with | [.v (.int _ x)]=>x.toNat | _=>0),e2⟩⟩ | _=>false
 have hp:∀ t:Rt,p (cV t)=uV t:=fun t=>by
  show uV ⟨(dp t.exps).map _,⟨t.c.neg,(aC t.c.m).map _,t.c.e⟩⟩=_
  rw [AQ,Tt]
 have h1:=xe (k:=4) (g:=true) (f:=F.l24_few_1) (rows:=cW l) (p:=p) kj ki (jn false) rfl (mF false _) (by rw [VZ]; omega) (fun row hr=>by
  simp only [cW,List.mem_map] at hr
  obtain ⟨t,ht,rfl⟩:=hr
  have hd:=Wd (t:=t)
  refine ⟨.agg (cV t),rfl,rfl,?_⟩
  rw [hp]
  simp only [cV] at hd
  simp only [cV,go_sem,hd])
 have h2:=tG (k:=4) jm jl (ie false) rfl (mF false _) (jY false) (by simp only [go_sem]) h1
 have h3:(cW l).any p=l.any uV:=by
  unfold cW
  rw [List.any_map]
  congr 1
  funext t
  exact hp t
 rw [h3] at h2
 exact h2
def Oy (a:Rp):Bool:=decide (a.vars≤4) && (decide (a.terms.length≤12) && !(a.terms.any uV))
theorem Yi {a:Rp}:R F.l24_few [a8 a] []=some (B (Oy a),[]):=by
 refine aB PL PK (H9 false) rfl ?_
 unfold Oy
 by_cases h1:a.vars≤4
 ·have e1:(a.vars≤4)=True:=tt h1
  rw [decide_eq_true h1,Bool.true_and]
  by_cases h2:a.terms.length≤12
  ·have e2:((a.terms.length:Int)≤12)=True:=tt (by omega)
   rw [decide_eq_true h2,Bool.true_and]
   have hc:=Tu (l:=a.terms) (by omega)
   simp only [kZ,sd,a8,go_sem,↓reduceIte,alS,alU,alT,e1,e2,hc]
  ·have e2:((a.terms.length:Int)≤12)=False:=ff (by omega)
   rw [decide_eq_false h2,Bool.false_and]
   simp only [kZ,sd,a8,go_sem,↓reduceIte,alS,alU,alT,e1,e2]
 ·have e1:(a.vars≤4)=False:=ff h1
  rw [decide_eq_false h1,Bool.false_and]
  simp only [kZ,sd,a8,go_sem,↓reduceIte,alS,alU,alT,e1]
def xy (x:Ri):Bool:=uU x.lo || uU x.hi
theorem Tv {x:Ri}:R F.l24_near_1 [bv x] []=some (B (xy x),[]):=by
 refine aB Ih Ig (BV false) rfl ?_
 have h1:=xx (d:=x.lo)
 have h2:=xx (d:=x.hi)
 simp only [ai,am] at h1 h2
 unfold xy
 cases g1:uU x.lo with
 | true =>
  rw [g1] at h1
  rw [Bool.true_or]
  simp only [jv,ro,bv,bu,go_sem,↓reduceIte,alS,alU,alT,alV,h1]
 | false =>
  rw [g1] at h1
  rw [Bool.false_or]
  simp only [jv,ro,bv,bu,go_sem,↓reduceIte,alS,alU,alT,alV,h1,h2]
theorem Tw {l:List Ri} (h2:l.length≤100000):R F.slices_ContainsFunc_api_Interval_api_Interval_ [.sl 7 (dB l),.fn F.l24_near_1 [] []] []=some (B (l.any xy),[]):=by
 let p:List AV→Bool:=fun row=>match row with | [.v (.bool n1),.sl _ m1,.v (.int _ e1),.v (.bool n2),.sl _ m2,.v (.int _ e2),.v (.bool a)]=>xy ⟨⟨n1,m1.map (fun r=>match r with | [.v (.int _ x)]=>x.toNat | _=>0),e1⟩,⟨n2,m2.map (fun r=>match r with | [.v (.int _ x)]=>x.toNat | _=>0),e2⟩,a⟩ | _=>false
 have hp:∀ x:Ri,p (bu x)=xy x:=fun x=>by
  show xy ⟨⟨x.lo.neg,(aC x.lo.m).map _,x.lo.e⟩,⟨x.hi.neg,(aC x.hi.m).map _,x.hi.e⟩,x.all⟩=_
  rw [AQ,AQ]
 have h1:=xe (k:=7) (g:=true) (f:=F.l24_near_1) (rows:=dB l) (p:=p) dm dk (cR false) rfl (mF false _) (by rw [Md]; omega) (fun row hr=>by
  simp only [dB,List.mem_map] at hr
  obtain ⟨x,hx,rfl⟩:=hr
  have hd:=Tv (x:=x)
  refine ⟨bv x,rfl,rfl,?_⟩
  rw [hp]
  simp only [bv,bu] at hd
  simp only [bv,bu,go_sem,hd])
 have h2:=tG (k:=7) cQ cP (cB false) rfl (mF false _) (df false) (by simp only [go_sem]) h1
 have h3:(dB l).any p=l.any xy:=by
  unfold dB
  rw [List.any_map]
  congr 1
  funext x
  exact hp x
 rw [h3] at h2
 exact h2
def G9 (l:List Ri):Bool:=decide (l.length≤8) && !(l.any xy)
theorem We {l:List Ri}:R F.l24_near [.sl 7 (dB l)] []=some (B (G9 l),[]):=by
 refine aB Nw Nv (FO false) rfl ?_
 unfold G9
 by_cases h1:l.length≤8
 ·have e1:((l.length:Int)≤8)=True:=tt (by omega)
  rw [decide_eq_true h1,Bool.true_and]
  have hc:=Tw (l:=l) (by omega)
  simp only [l6,uq,go_sem,↓reduceIte,alS,alU,alT,e1,hc]
 ·have e1:((l.length:Int)≤8)=False:=ff (by omega)
  rw [decide_eq_false h1,Bool.false_and]
  simp only [l6,uq,go_sem,↓reduceIte,alS,e1]
structure Len1 (x:Ri):Prop where
 lo:Lb x.lo.m∧x.lo.m.length≤100000
 hi:Lb x.hi.m∧x.hi.m.length≤100000
theorem Q5 {x:Ri} (h:Len1 x):R F.r05_Equal [bv x,bv x] []=some (B true,[]):=by
 refine aB KR KQ (Di false) rfl ?_
 have h1:=xv h.lo.1 h.lo.2
 have h2:=xv h.hi.1 h.hi.2
 simp only [ai,am] at h1 h2
 have e2:(false != (x.all == x.all))=true:=by rw [beq_self_eq_true]; rfl
 simp only [nD,yW,bv,bu,go_sem,↓reduceIte,alS,alU,alT,alV,e2,h1,h2]
theorem Oz {x:Ri} (h:Len1 x):R F.l24_equal [bv x,bv x] []=some (B true,[]):=by
 refine aB KN KM (Dg false) rfl ?_
 have h1:=Q5 h
 simp only [bv,bu] at h1
 cases ha:x.all with
 | true =>
  rw [ha] at h1
  simp only [kz,sE,bv,bu,go_sem,↓reduceIte,alS,alU,alT,alV,ha]
 | false =>
  rw [ha] at h1
  simp only [kz,sE,bv,bu,go_sem,↓reduceIte,alS,alU,alT,alV,ha,h1]
def VI (x:Ri):Prop:=(vd x.lo=true∧Ok0 x.lo)∧(vd x.hi=true∧Ok0 x.hi)
theorem VI.len {x:Ri} (h:VI x):Len1 x:=⟨⟨h.1.2.1,Nat.le_trans (tL h.1.1 h.1.2.1) (by decide)⟩,⟨h.2.2.1,Nat.le_trans (tL h.2.1 h.2.2.1) (by decide)⟩⟩
theorem Yj:VI qr:=⟨fe,fe⟩
end Go.Ab
