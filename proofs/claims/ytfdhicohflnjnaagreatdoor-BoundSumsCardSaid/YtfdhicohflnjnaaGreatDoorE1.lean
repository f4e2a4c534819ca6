/-
  A law of ranges holds at every input that the statement speaks of, under the conditions that its card names. Part E1.
-/
import Derived.Test.YtfdhicohflnjnaaGreatDoorD1
open Nat renaming reduceAdd → apA, reduceMul → apB, reduceLeDiff → apC, reduceLT → apD, reduceBEq → apE, reduceSub → apJ, reduceMod → apK
open Int renaming reduceLT → apF, reduceToNat → apG, reduceLE → apH, reduceEq → apI
set_option linter.all false
namespace Go.Ab
open Go Go.IntWalk
set_option maxRecDepth 4000
set_option maxHeartbeats 8000000
theorem Xm{a:List Nat}(ha:Lb a){n q:Nat}(h1:a.length<=100000)(hq:q<=100000):∀ (k i:Nat),i+k=a.length->∀ (s:af) (h:ac),s 0=lm a->s 1=I (n:Nat)->s 5=.rsl 11 none 1 0 (q+i)->s 6=W (fT a (n%32) i:Nat)->s 7=I i->
  h 11=.ar 1 (ax (List.replicate q 0++jY a (n%32) i))->h 34=.dead->
  am 0 [5,6] (aD (aj R (aH false) aqI) [0,1,5,6,7] [11,34] s h)=
   some (.normal,⟨upd (upd (fun _=>.any) 6 (W (fT a (n%32) a.length:Nat))) 5 (.rsl 11 none 1 0 (q+a.length)),upd (upd (fun _=>.dead) 34 .dead) 11 (.ar 1 (ax (List.replicate q 0++jY a (n%32) a.length)))⟩):=by
 intro k;induction k with
 |zero=>
  intro i hi s h h0 g1 h5 h6 h7 hh hh2;have:i=a.length:=by omega
  subst this;rw[ai];simp only[aqI,go_sem,apE,h0,g1,h5,h6,h7,hh,hh2,Int.lt_irrefl]
 |succ k ih=>
  intro i hi s h h0 g1 h5 h6 h7 hh hh2;have ih':=ih (i+1) (by omega);have hx:=bu ha i;have hc:=AW ha (r:=n%32) i;have hp:2^ (n%32)<=2^31:=Nat.pow_le_pow_right (by omega) (by omega);have hxp:a.getD i 0*2^ (n%32)<=4294967295*2^31:=Nat.mul_le_mul (by omega) hp;have e1:((i:Int)< (a.length:Int))=True:=tt (by omega);have e2:aV (ax a) (i:Int)=some (.ipt [U (a.getD i 0:Nat)]):=bk rfl (by omega);have e3:IntKind.i64.wrap ((i:Int)+1)=((i+1:Nat):Int):=wi (by omega) (by omega);have e4:IntKind.u64.wrap (a.getD i 0:Int)=(a.getD i 0:Int):=cK rfl (by omega);have e5:=xk (n:=n) (m:=32) (j:=32) rfl rfl (by omega);have e5':IntKind.u64.wrap ((n%32:Nat):Int)=((n%32:Nat):Int):=cK rfl (by omega);have e6:=zk (n:=a.getD i 0) (k:=n%32) (kk:=.u64) (j:=((n%32:Nat):Int)) rfl rfl (by omega) (by omega);have e7:=GG (m:=a.getD i 0*2^ (n%32)) (n:=fT a (n%32) i) rfl rfl (by omega) (by omega);rw[yr hc]at e7;have e10:=yA (n:=a.getD i 0*2^ (n%32)+fT a (n%32) i) rfl (by omega);have e8:IntKind.u32.wrap (((a.getD i 0*2^ (n%32)+fT a (n%32) i) %4294967296:Nat):Int)=(((a.getD i 0*2^ (n%32)+fT a (n%32) i) %4294967296:Nat):Int):=wK rfl (by omega);have e9:=mN (n:=a.getD i 0*2^ (n%32)+fT a (n%32) i) (k:=32) (kk:=.u64) (j:=32) rfl rfl (by omega);have f1:ax (List.replicate q 0++jY a (n%32) i)++[[U ((a.getD i 0*2^ (n%32)+fT a (n%32) i) %4294967296:Nat)]]=ax (List.replicate q 0++jY a (n%32) (i+1)):=by
   simp_all[U,fT,ax,xd,List.append_assoc,jY,List.range_succ]
  have f2:(q+i=(List.replicate q 0++jY a (n%32) i).length)=True:=tt (by simp[qf]);have f3:((q+i+1)*4<=140737488355328)=True:=tt (by omega);rw[ai];simp only[aqI,go_sem,apC,apD,apE,h0,g1,h5,h6,h7,hh,hh2,e1,e2,e3,e4,e5,e5',e6,e7,e8,e9,e10,f1,f2,f3,true_or,Nat.zero_add,Nat.le_refl];exact ih' _ _ rfl rfl rfl rfl rfl rfl rfl
theorem Pf{a:List Nat}(ha:Lb a){n:Nat}(h1:a.length<=10000)(hn:n<=100000):R F.r02_left [lm a,I n] []=some (lm (ap (aa a*2^n)),[]):=by
 refine aA UI rfl ?_;have hc:=AW ha (r:=n%32) a.length;have hp:2^ (n%32)<=2^31:=Nat.pow_le_pow_right (by omega) (by omega);have e1:=xn (n:=n) (m:=32) (j:=32) rfl rfl (by omega) (by omega);have e4:=l6 (i:=((n/32:Nat):Int)) (j:=((n/32:Nat):Int)) rfl rfl (Nat.le_refl _) (by omega);have e5:(n/32*4<=140737488355328)=True:=tt (by omega);have e6:=Xm ha (n:=n) (q:=n/32) (by omega) (by omega) a.length 0 (by omega);have e7:ax (List.replicate (n/32) 0)=ax (List.replicate (n/32) 0++jY a (n%32) 0):=by simp[jY]
 have e8:IntKind.u32.wrap ((fT a (n%32) a.length:Nat):Int)=((fT a (n%32) a.length:Nat):Int):=wK rfl (by omega);have hall:=Sl ha n;have f1:ax (List.replicate (n/32) 0++jY a (n%32) a.length)++[[U (fT a (n%32) a.length:Nat)]]=ax (cD (n/32+a.length+1) (aa a*2^n)):=by
  rw[←hall,show [[U (fT a (n%32) a.length:Nat)]]=ax [fT a (n%32) a.length]from rfl,xd]
 have f2:(n/32+a.length=(List.replicate (n/32) 0++jY a (n%32) a.length).length)=True:=tt (by simp[qf]);have f3:((n/32+a.length+1)*4<=140737488355328)=True:=tt (by omega);have ht:=yB (kf (n/32+a.length+1) (aa a*2^n)) (by grind);have hv:aa (cD (n/32+a.length+1) (aa a*2^n))=aa a*2^n:=by
  rw[iN,Nat.mod_eq_of_lt];have h:=bQ ha;have h2:2^n<=4294967296^ (n/32+1):=by
   rw[show(4294967296:Nat)=2^32 from rfl,←Nat.pow_mul];exact Nat.pow_le_pow_right (by omega) (by omega)
  rw[show n/32+a.length+1=a.length+(n/32+1)from by omega,Nat.pow_add];exact Nat.mul_lt_mul_of_lt_of_le h h2 (Nat.pow_pos (by omega))
 rw[hv]at ht;have f4:(ax (cD (n/32+a.length+1) (aa a*2^n))).take (n/32+a.length+1)=ax (cD (n/32+a.length+1) (aa a*2^n)):=by
  rw[List.take_of_length_le];rw[JX,bU];omega
 simp only[zZ,HM,go_sem,e1,e4,e5,uN,e7];rw[e6 _ _ rfl rfl rfl rfl rfl rfl rfl];simp only[go_sem,apB,apA,apC,apD,e8,f1,f2,f3,f4,true_or,Nat.zero_add,Nat.le_refl,bU,ht]
def zC(d:Nat)(out:List Nat)(x:AV)(o:Ob):Prop:=(out=[]/\x=.emp/\o=.dead)\/(0<out.length/\x=.rsl d none 1 0 out.length/\o=.ar 1 (ax out))
theorem uR{d v:Nat}:zC d ([]++[v]) (.rsl d none 1 0 1) (.ar 1 [[U (v:Nat)]]):=Or.inr ⟨by simp,rfl,rfl⟩
theorem rO{d v:Nat}{out:List Nat}:zC d (out++[v]) (.rsl d none 1 0 (out.length+1)) (.ar 1 (ax (out++[v]))):=Or.inr ⟨by simp,by grind,rfl⟩
theorem py(out:List Nat)(v:Nat):ax out++[[U (v:Nat)]]=ax (out++[v]):=by simp[ax]
theorem Xn(a:List Nat)(r i:Nat):jK a r (i+1)=jK a r i++[po a r i]:=by simp[jK,List.range_succ]
theorem U3{a:List Nat}(ha:Lb a){n:Nat}(h1:a.length<=100000):∀ (k i:Nat),i+k=a.length->∀ (s:af) (h:ac),s 0=lm a->s 1=I (n:Nat)->s 6=I i->zC 51 (jK a (n%32) i) (s 5) (h 51)->
  ∃x hh,am 0 [5] (aD (aj R (aH false) dM) [0,1,5,6] [51] s h)=some (.normal,⟨upd (fun _=>.any) 5 x,hh⟩)/\zC 51 (jK a (n%32) a.length) x (hh 51)/\∀a,a≠51->hh a=.dead:=by
 intro k;induction k with
 |zero=>
  intro i hi s h h0 g1 h6 hacc;have:i=a.length:=by omega
  subst this;rw[ai];rcases hacc with⟨g2,h5,hh⟩| ⟨g2,h5,hh⟩
  ·refine⟨.emp,?hh0,?_,Or.inl ⟨g2,rfl,?_⟩,?_⟩;rotate_left
   ·simp only[dM,go_sem,h0,g1,h5,h6,hh,Int.lt_irrefl];rfl
   all_goals simp_all[ed,if_false]
  ·refine⟨.rsl 51 none 1 0 (jK a (n%32) a.length).length,?hh1,?_,Or.inr ⟨g2,rfl,?_⟩,?_⟩;rotate_left
   ·simp only[dM,go_sem,apE,h0,g1,h5,h6,hh,Int.lt_irrefl];rfl
   all_goals simp_all[ed,if_false]
 |succ k ih=>
  intro i hi s h h0 g1 h6 hacc;have ih':=ih (i+1) (by omega);have hx:=bu ha i;have hy:=bu ha (i+1);have hr:n%32<32:=Nat.mod_lt _ (by omega);have e1:((i:Int)< (a.length:Int))=True:=tt (by omega);have e2:aV (ax a) (i:Int)=some (.ipt [U (a.getD i 0:Nat)]):=bk rfl (by omega);have e3:IntKind.i64.wrap ((i:Int)+1)=((i+1:Nat):Int):=wi (by omega) (by omega);have e4:IntKind.u64.wrap (a.getD i 0:Int)=(a.getD i 0:Int):=cK rfl (by omega);have e5:=xk (n:=n) (m:=32) (j:=32) rfl rfl (by omega);have e5':IntKind.u64.wrap ((n%32:Nat):Int)=((n%32:Nat):Int):=cK rfl (by omega);have q1:((jK a (n%32) i).length+1)*4<=140737488355328:=by grind[qV]
  have f3:=tt q1;have hlt:∀w:Nat,w<18446744073709551616->w/2^ (n%32)<18446744073709551616:=fun w hw=>Nat.lt_of_le_of_lt (Nat.div_le_self _ _) hw;rw[ai];rw[Xn]at ih';generalize aD _ _ _=L at ih'⊢;by_cases hl:i+1<a.length
  ·have f1:(((i+1:Nat):Int)< (a.length:Int))=True:=tt (by omega);have f2:aV (ax a) ((i+1:Nat):Int)=some (.ipt [U (a.getD (i+1) 0:Nat)]):=bk rfl hl;have f5:IntKind.u64.wrap (a.getD (i+1) 0:Int)=(a.getD (i+1) 0:Int):=cK rfl (by omega);have f6:=zk (n:=a.getD (i+1) 0) (k:=32) (kk:=.u64) (j:=32) rfl rfl (by omega) (by omega);have f7:=GG (m:=a.getD i 0) (n:=a.getD (i+1) 0*2^32) rfl rfl (by omega) (by omega);rw[Nat.or_comm,yr hx,show a.getD (i+1) 0*2^32+a.getD i 0=a.getD i 0+4294967296*a.getD (i+1) 0 by omega]at f7;have f8:=mN (n:=a.getD i 0+4294967296*a.getD (i+1) 0) (k:=n%32) (kk:=.u64) (j:=((n%32:Nat):Int)) rfl rfl (by omega);have f9:=yA (n:=(a.getD i 0+4294967296*a.getD (i+1) 0)/2^ (n%32)) rfl (hlt _ (by omega));rw[show(a.getD i 0+4294967296*a.getD (i+1) 0)/2^ (n%32) %4294967296=po a (n%32) i from rfl]at f9;have f10:IntKind.u32.wrap ((po a (n%32) i:Nat):Int)=((po a (n%32) i:Nat):Int):=wK rfl (Nat.mod_lt _ (by omega));rcases hacc with⟨g2,h5,hh⟩| ⟨g2,h5,hh⟩
   ·simp only[dM,go_sem,apB,apA,apC,apD,h0,g1,h5,h6,hh,e1,e2,e3,e4,e5,e5',f1,f2,f5,f6,f7,f8,f9,f10];rw[g2]at ih';exact ih' _ _ rfl rfl rfl uR
   ·simp only[dM,go_sem,apC,apD,apE,h0,g1,h5,h6,hh,e1,e2,e3,e4,e5,e5',f1,f2,f3,f5,f6,f7,f8,f9,f10,true_or,Nat.zero_add,Nat.le_refl,py];exact ih' _ _ rfl rfl rfl rO
  ·have f1:(((i+1:Nat):Int)< (a.length:Int))=False:=ff (by omega);have hz:a.getD (i+1) 0=0:=by
    grind
   have f8:=mN (n:=a.getD i 0) (k:=n%32) (kk:=.u64) (j:=((n%32:Nat):Int)) rfl rfl (by omega);have f9:=yA (n:=a.getD i 0/2^ (n%32)) rfl (hlt _ (by omega));rw[show a.getD i 0/2^ (n%32) %4294967296=po a (n%32) i by simp_all[po,Nat.mul_zero,Nat.add_zero]]at f9;have f10:IntKind.u32.wrap ((po a (n%32) i:Nat):Int)=((po a (n%32) i:Nat):Int):=wK rfl (Nat.mod_lt _ (by omega));rcases hacc with⟨g2,h5,hh⟩| ⟨g2,h5,hh⟩
   ·simp only[dM,go_sem,apB,apA,apC,apD,h0,g1,h5,h6,hh,e1,e2,e3,e4,e5,e5',f1,f8,f9,f10];rw[g2]at ih';exact ih' _ _ rfl rfl rfl uR
   ·simp only[dM,go_sem,apC,apD,apE,h0,g1,h5,h6,hh,e1,e2,e3,e4,e5,e5',f1,f3,f8,f9,f10,true_or,Nat.zero_add,Nat.le_refl,py];exact ih' _ _ rfl rfl rfl rO
theorem GQ(m:List Nat):(ax m).take m.length=ax m:=by
 simp_all[List.take_of_length_le,JX,Nat.le_refl]
theorem Xo{a:List Nat}(ha:Lb a){n:Nat}(h1:a.length<=10000)(hn:n<=1000000):R F.r02_right [lm a,I n] []=some (lm (ap (aa a/2^n)),[]):=by
 refine aA Rz rfl ?_;have e1:=xn (n:=n) (m:=32) (j:=32) rfl rfl (by omega) (by omega);by_cases hq:a.length<=n/32
 ·have e2:((a.length:Int)<=((n/32:Nat):Int))=True:=tt (by omega);have hz:aa a/2^n=0:=by
   rw[←rZ n,←Nat.div_div_eq_div_mul,←rM ha,List.drop_of_length_le hq];exact Nat.zero_div _
  rw[hz,fQ];simp only[s9,Ad,go_sem,e1,e2]
 ·have e2:((a.length:Int)<=((n/32:Nat):Int))=False:=ff (by omega);have e3:gh 1 (lm a) (some (I (n/32:Nat))) none none=some (lm (a.drop (n/32))):=by
   rw[DE (a:=n/32) (b:=a.length) (pk rfl (by omega)) rfl (Nat.le_refl _),List.take_of_length_le (by grind)]
  have hd:=jq ha (n/32);have hl:(a.drop (n/32)).length<=10000:=by grind
  have hv:aa a/2^n=aa (a.drop (n/32))/2^ (n%32):=by
   rw[rM ha,Nat.div_div_eq_div_mul,rZ]
  rw[hv];have hr:=U3 hd (n:=n) (by omega) (a.drop (n/32)).length 0 (Nat.zero_add _);have hall:=OS hd (r:=n%32) (by omega);have hL:=qV (a.drop (n/32)) (n%32) (a.drop (n/32)).length;have hLb:Lb (jK (a.drop (n/32)) (n%32) (a.drop (n/32)).length):=by
   grind[kf]
  have hvv:aa (jK (a.drop (n/32)) (n%32) (a.drop (n/32)).length)=aa (a.drop (n/32))/2^ (n%32):=by
   rw[hall,iN,Nat.mod_eq_of_lt];exact Nat.lt_of_le_of_lt (Nat.div_le_self _ _) (bQ hd)
  generalize a.drop (n/32)=m at e3 hd hl hr hall hL hLb hvv⊢;have ht:=yB hLb (by omega);rw[hvv]at ht;have q0:zC 51 (jK m (n%32) 0) .emp .dead:=Or.inl ⟨rfl,rfl,rfl⟩;generalize hLL:aD (aj R (aH false) dM) [0,1,5,6] [51]=L at hr;have hX:∀s h,aj R (aH false) (.loop [0,1,5,6] [51] dM) s h=L s h:=fun s h=>by rw[←hLL];rfl
  generalize jK m (n%32) m.length=out at hr hall hL hLb hvv ht;have hr2:∀ (S:af) (H:ac) (X:Option (Ex×St)),am 0 [5] (L S H)=X->S 0=lm m->S 1=I n->S 6=I 0->S 5=.emp->H 51=.dead->∃x hh,X=some (.normal,⟨upd (fun _=>.any) 5 x,hh⟩)/\zC 51 out x (hh 51)/\∀a,a≠51->hh a=.dead:=fun S H X hX a0 a1 a6 a5 b=>by
   rw[←hX];exact hr S H a0 a1 a6 (by grind)
  simp only[s9,Ad,hX,go_sem,e1,e2,e3];generalize hB:am 0 [5] (L _ _)=X;obtain⟨x,hh,g0,hacc,gd⟩:=hr2 _ _ _ hB rfl rfl rfl rfl rfl;rw[g0];rcases hacc with⟨c1,c2,c3⟩| ⟨c1,c2,c3⟩
  ·rw[c1]at ht;simp only[go_sem,apB,apA,c2,ht,ne_eq,not_false_eq_true,gd]
  ·simp only[go_sem,apB,apA,c2,c3,ht,ne_eq,not_false_eq_true,gd,GQ,Nat.zero_add,Nat.le_refl]
theorem Ki{m:List Nat}{i:Nat}(h:m.length<=i):m.getD i 0=0:=by
 grind
theorem Xp(a b:List Nat)(i:Nat):cp a b (i+1)=cp a b i++[Ag a b i]:=by simp[cp,List.range_succ]
theorem Xq(a b:List Nat)(i:Nat):gO a b (i+1)=gO a b i++[BN a b i]:=by simp[gO,List.range_succ]
theorem Xr{a b:List Nat}(ha:Lb a)(hb:Lb b)(h1:a.length<=100000)(h2:b.length<=100000):∀ (k i:Nat),i+k=max a.length b.length->∀ (s:af) (h:ac),s 0=lm a->s 1=lm b->s 6=W (cV a b i:Nat)->s 7=I i->zC 49 (cp a b i) (s 5) (h 49)->
  ∃x hh,am 0 [5,6] (aD (aj R (aH false) dh) [0,1,5,6,7] [49] s h)=some (.normal,⟨upd (upd (fun _=>.any) 6 (W (cV a b (max a.length b.length):Nat))) 5 x,hh⟩)/\zC 49 (cp a b (max a.length b.length)) x (hh 49)/\∀a,a≠49->hh a=.dead:=by
 intro k;induction k with
 |zero=>
  intro i hi s h h0 g1 h6 h7 hacc;have e1:((i:Int)< (a.length:Int))=False:=ff (by omega);have e2:((i:Int)< (b.length:Int))=False:=ff (by omega);have:i=max a.length b.length:=by omega
  rw[←this];rw[ai];rcases hacc with⟨g2,h5,hh⟩| ⟨g2,h5,hh⟩
  ·refine⟨.emp,?hh0,?_,Or.inl ⟨g2,rfl,?_⟩,?_⟩;rotate_left
   ·simp only[dh,go_sem,h0,g1,h5,h6,h7,hh,e1,e2];rfl
   all_goals simp_all[ed,if_false]
  ·refine⟨.rsl 49 none 1 0 (cp a b i).length,?hh1,?_,Or.inr ⟨g2,rfl,?_⟩,?_⟩;rotate_left
   ·simp only[dh,go_sem,apE,h0,g1,h5,h6,h7,hh,e1,e2];rfl
   all_goals simp_all[ed,if_false]
 |succ k ih=>
  intro i hi s h h0 g1 h6 h7 hacc;have ih':=ih (i+1) (by omega);have hx:=bu ha i;have hy:=bu hb i;have hc:=yp ha hb i;have e3:IntKind.i64.wrap ((i:Int)+1)=((i+1:Nat):Int):=wi (by omega) (by omega);have q1:((cp a b i).length+1)*4<=140737488355328:=by grind[gg]
  have f3:=tt q1;have e4:IntKind.u64.wrap (a.getD i 0:Int)=(a.getD i 0:Int):=cK rfl (by omega);have e5:IntKind.u64.wrap (b.getD i 0:Int)=(b.getD i 0:Int):=cK rfl (by omega);have f8:=mN (n:=a.getD i 0+b.getD i 0+cV a b i) (k:=32) (kk:=.u64) (j:=32) rfl rfl (by omega);rw[show(a.getD i 0+b.getD i 0+cV a b i)/2^32=cV a b (i+1)from rfl]at f8;have f9:=yA (n:=a.getD i 0+b.getD i 0+cV a b i) rfl (by omega);rw[show(a.getD i 0+b.getD i 0+cV a b i) %4294967296=Ag a b i from rfl]at f9;have f10:IntKind.u32.wrap ((Ag a b i:Nat):Int)=((Ag a b i:Nat):Int):=wK rfl (Nat.mod_lt _ (by omega));rw[ai];rw[Xp]at ih';generalize aD _ _ _=L at ih'⊢;by_cases hla:i<a.length
  ·have e1:((i:Int)< (a.length:Int))=True:=tt (by omega);have e2:aV (ax a) (i:Int)=some (.ipt [U (a.getD i 0:Nat)]):=bk rfl hla;have w1:IntKind.u64.wrap ((cV a b i:Int)+(a.getD i 0:Int))=((a.getD i 0+cV a b i:Nat):Int):=cK (by omega) (by omega);by_cases hlb:i<b.length
   ·have e6:((i:Int)< (b.length:Int))=True:=tt (by omega);have e7:aV (ax b) (i:Int)=some (.ipt [U (b.getD i 0:Nat)]):=bk rfl hlb;have w2:IntKind.u64.wrap (((a.getD i 0+cV a b i:Nat):Int)+(b.getD i 0:Int))=((a.getD i 0+b.getD i 0+cV a b i:Nat):Int):=cK (by omega) (by omega);rcases hacc with⟨g2,h5,hh⟩| ⟨g2,h5,hh⟩
    ·simp only[dh,go_sem,apB,apA,apC,apD,h0,g1,h5,h6,h7,hh,e1,e2,e3,e4,e5,e6,e7,w1,w2,f8,f9,f10];rw[g2]at ih';exact ih' _ _ rfl rfl rfl rfl uR
    ·simp only[dh,go_sem,apC,apD,apE,h0,g1,h5,h6,h7,hh,e1,e2,e3,e4,e5,e6,e7,w1,w2,f3,f8,f9,f10,true_or,Nat.zero_add,Nat.le_refl,py];exact ih' _ _ rfl rfl rfl rfl rO
   ·have e6:((i:Int)< (b.length:Int))=False:=ff (by omega);have hz:=Ki (m:=b) (i:=i) (by omega);have w2:((a.getD i 0+cV a b i:Nat):Int)=((a.getD i 0+b.getD i 0+cV a b i:Nat):Int):=by omega
    rw[w2]at w1;rcases hacc with⟨g2,h5,hh⟩| ⟨g2,h5,hh⟩
    ·simp only[dh,go_sem,apB,apA,apC,apD,h0,g1,h5,h6,h7,hh,e1,e2,e3,e4,e6,w1,f8,f9,f10];rw[g2]at ih';exact ih' _ _ rfl rfl rfl rfl uR
    ·simp only[dh,go_sem,apC,apD,apE,h0,g1,h5,h6,h7,hh,e1,e2,e3,e4,e6,w1,f3,f8,f9,f10,true_or,Nat.zero_add,Nat.le_refl,py];exact ih' _ _ rfl rfl rfl rfl rO
  ·have e1:((i:Int)< (a.length:Int))=False:=ff (by omega);have hlb:i<b.length:=by omega
   have e6:((i:Int)< (b.length:Int))=True:=tt (by omega);have e7:aV (ax b) (i:Int)=some (.ipt [U (b.getD i 0:Nat)]):=bk rfl hlb;have hz:=Ki (m:=a) (i:=i) (by omega);have w2:IntKind.u64.wrap ((cV a b i:Int)+(b.getD i 0:Int))=((a.getD i 0+b.getD i 0+cV a b i:Nat):Int):=cK (by omega) (by omega);rcases hacc with⟨g2,h5,hh⟩| ⟨g2,h5,hh⟩
   ·simp only[dh,go_sem,apB,apA,apC,apD,h0,g1,h5,h6,h7,hh,e1,e3,e5,e6,e7,w2,f8,f9,f10];rw[g2]at ih';exact ih' _ _ rfl rfl rfl rfl uR
   ·simp only[dh,go_sem,apC,apD,apE,h0,g1,h5,h6,h7,hh,e1,e3,e5,e6,e7,w2,f3,f8,f9,f10,true_or,Nat.zero_add,Nat.le_refl,py];exact ih' _ _ rfl rfl rfl rfl rO
theorem ZG{a b:List Nat}(_ha:Lb a)(_hb:Lb b){L:Nat}(h1:a.length<=L)(h2:b.length<=L):aa (cp a b L++[cV a b L])=aa a+aa b:=by
 grind[BM,List.take_of_length_le,cS,gg,aa]
theorem ZH{a b:List Nat}(ha:Lb a)(hb:Lb b)(h1:a.length<=10000)(h2:b.length<=10000):R F.r02_plus [lm a,lm b] []=some (lm (ap (aa a+aa b)),[]):=by
 refine aA UJ rfl ?_;obtain⟨M,hM⟩:∃M,max a.length b.length=M:=⟨_,rfl⟩;have hr:=Xr ha hb (by omega) (by omega) M 0 (by omega);rw[hM]at hr;have hsv:=ZG ha hb (L:=M) (by omega) (by omega);have hc:=yp ha hb M;have hL:=gg a b M;have hLb:=JZ a b M;have q0:zC 49 (cp a b 0) .emp .dead:=Or.inl ⟨rfl,rfl,rfl⟩;generalize cp a b M=out at hr hsv hL hLb;generalize cV a b M=c at hr hsv hc;have ht:=yB (m:=out++[c]) (kL.2 ⟨hLb,fS.2 ⟨by omega,Dw⟩⟩) (by grind);rw[hsv]at ht;have e8:IntKind.u32.wrap (c:Int)=(c:Int):=wK rfl (by omega);have q1:(out.length+1)*4<=140737488355328:=by omega
 have f3:=tt q1;have f4:=GQ (out++[c]);rw[show(out++[c]).length=out.length+1 by simp]at f4;generalize ap (aa a+aa b)=res at ht⊢;generalize hLL:aD (aj R (aH false) dh) [0,1,5,6,7] [49]=L at hr;have hX:∀s h,aj R (aH false) (.loop [0,1,5,6,7] [49] dh) s h=L s h:=fun s h=>by rw[←hLL];rfl
 have hr2:∀ (S:af) (H:ac) (X:Option (Ex×St)),am 0 [5,6] (L S H)=X->S 0=lm a->S 1=lm b->S 6=W 0->S 7=I 0->S 5=.emp->H 49=.dead->∃x hh,X=some (.normal,⟨upd (upd (fun _=>.any) 6 (W c)) 5 x,hh⟩)/\zC 49 out x (hh 49)/\∀a,a≠49->hh a=.dead:=fun S H X hX a0 a1 a6 a7 a5 b=>by
  rw[←hX];exact hr S H a0 a1 a6 a7 (by grind)
 simp only[Aa,HN,hX,go_sem];generalize hB:am 0 [5,6] (L _ _)=X;obtain⟨x,hh,g0,hacc,gd⟩:=hr2 _ _ _ hB rfl rfl rfl rfl rfl rfl;rw[g0];rcases hacc with⟨c1,c2,c3⟩| ⟨c1,c2,c3⟩
 ·rw[c1]at ht;have ht':R F.r02_trim [.sl 1 [[U c]]] []=some (lm res,[]):=ht;simp only[go_sem,apB,apA,apC,apD,c2,e8,ht',ne_eq,not_false_eq_true,gd]
 ·simp only[go_sem,apB,apA,apC,apD,c2,c3,e8,f3,f4,ht,ne_eq,not_false_eq_true,gd,py,true_or,Nat.zero_add,Nat.le_refl,List.length_singleton,JX,List.length_append]
theorem U4{a b:List Nat}(ha:Lb a)(hb:Lb b)(h1:a.length<=100000):∀ (k i:Nat),i+k=a.length->∀ (s:af) (h:ac),s 0=lm a->s 1=lm b->s 6=W (jX a b i:Nat)->s 7=I i->zC 41 (gO a b i) (s 5) (h 41)->
  ∃x hh,am 0 [5] (aD (aj R (aH false) dL) [0,1,5,6,7] [41] s h)=some (.normal,⟨upd (fun _=>.any) 5 x,hh⟩)/\zC 41 (gO a b a.length) x (hh 41)/\∀a,a≠41->hh a=.dead:=by
 intro k;induction k with
 |zero=>
  intro i hi s h h0 g1 h6 h7 hacc;have e1:((i:Int)< (a.length:Int))=False:=ff (by omega);have:i=a.length:=by omega
  rw[←this];rw[ai];rcases hacc with⟨g2,h5,hh⟩| ⟨g2,h5,hh⟩
  ·refine⟨.emp,?hh0,?_,Or.inl ⟨g2,rfl,?_⟩,?_⟩;rotate_left
   ·simp only[dL,go_sem,h0,g1,h5,h6,h7,hh,e1];rfl
   all_goals simp_all[ed,if_false]
  ·refine⟨.rsl 41 none 1 0 (gO a b i).length,?hh1,?_,Or.inr ⟨g2,rfl,?_⟩,?_⟩;rotate_left
   ·simp only[dL,go_sem,apE,h0,g1,h5,h6,h7,hh,e1];rfl
   all_goals simp_all[ed,if_false]
 |succ k ih=>
  intro i hi s h h0 g1 h6 h7 hacc;have ih':=ih (i+1) (by omega);have hx:=bu ha i;have hy:=bu hb i;have hc:=AU a b i;have hla:i<a.length:=by omega
  have e1:((i:Int)< (a.length:Int))=True:=tt (by omega);have e2:aV (ax a) (i:Int)=some (.ipt [U (a.getD i 0:Nat)]):=bk rfl hla;have e3:IntKind.i64.wrap ((i:Int)+1)=((i+1:Nat):Int):=wi (by omega) (by omega);have q1:((gO a b i).length+1)*4<=140737488355328:=by grind[qU]
  have f3:=tt q1;have e4:IntKind.u64.wrap (a.getD i 0:Int)=(a.getD i 0:Int):=cK rfl (by omega);have e5:IntKind.u64.wrap (b.getD i 0:Int)=(b.getD i 0:Int):=cK rfl (by omega);have w3:IntKind.u64.wrap ((a.getD i 0:Int)+4294967296)=((a.getD i 0+4294967296:Nat):Int):=cK (by omega) (by omega);have w4:IntKind.u64.wrap (((a.getD i 0+4294967296:Nat):Int)- ((b.getD i 0+jX a b i:Nat):Int))=((a.getD i 0+4294967296-b.getD i 0-jX a b i:Nat):Int):=cK (by omega) (by omega);have f8:=mN (n:=a.getD i 0+4294967296-b.getD i 0-jX a b i) (k:=32) (kk:=.u64) (j:=32) rfl rfl (by omega);have w5:IntKind.u64.wrap (1- (((a.getD i 0+4294967296-b.getD i 0-jX a b i)/2^32:Nat):Int))=((jX a b (i+1):Nat):Int):=by
   grind[cK,AU,jX]
  have f9:=yA (n:=a.getD i 0+4294967296-b.getD i 0-jX a b i) rfl (by omega);rw[show(a.getD i 0+4294967296-b.getD i 0-jX a b i) %4294967296=BN a b i from rfl]at f9;have f10:IntKind.u32.wrap ((BN a b i:Nat):Int)=((BN a b i:Nat):Int):=wK rfl (Nat.mod_lt _ (by omega));rw[ai];rw[Xq]at ih';generalize aD _ _ _=L at ih'⊢;by_cases hlb:i<b.length
  ·have e6:((i:Int)< (b.length:Int))=True:=tt (by omega);have e7:aV (ax b) (i:Int)=some (.ipt [U (b.getD i 0:Nat)]):=bk rfl hlb;have w2:IntKind.u64.wrap ((jX a b i:Int)+(b.getD i 0:Int))=((b.getD i 0+jX a b i:Nat):Int):=cK (by omega) (by omega);rcases hacc with⟨g2,h5,hh⟩| ⟨g2,h5,hh⟩
   ·simp only[dL,go_sem,apB,apA,apC,apD,h0,g1,h5,h6,h7,hh,e1,e2,e3,e4,e5,e6,e7,w2,w3,w4,w5,f8,f9,f10];rw[g2]at ih';exact ih' _ _ rfl rfl rfl rfl uR
   ·simp only[dL,go_sem,apC,apD,apE,h0,g1,h5,h6,h7,hh,e1,e2,e3,e4,e5,e6,e7,w2,w3,w4,w5,f3,f8,f9,f10,true_or,Nat.zero_add,Nat.le_refl,py];exact ih' _ _ rfl rfl rfl rfl rO
  ·have e6:((i:Int)< (b.length:Int))=False:=ff (by omega);have hz:=Ki (m:=b) (i:=i) (by omega);have w2:((b.getD i 0+jX a b i:Nat):Int)=(jX a b i:Int):=by omega
   rw[w2]at w4;rcases hacc with⟨g2,h5,hh⟩| ⟨g2,h5,hh⟩
   ·simp only[dL,go_sem,apB,apA,apC,apD,h0,g1,h5,h6,h7,hh,e1,e2,e3,e4,e6,w3,w4,w5,f8,f9,f10];rw[g2]at ih';exact ih' _ _ rfl rfl rfl rfl uR
   ·simp only[dL,go_sem,apC,apD,apE,h0,g1,h5,h6,h7,hh,e1,e2,e3,e4,e6,w3,w4,w5,f3,f8,f9,f10,true_or,Nat.zero_add,Nat.le_refl,py];exact ih' _ _ rfl rfl rfl rfl rO
theorem LC{a b:List Nat}(ha:Lb a)(hb:Lb b)(h1:a.length<=10000)(h2:b.length<=a.length)(hv:aa b<=aa a):R F.r02_minus [lm a,lm b] []=some (lm (ap (aa a-aa b)),[]):=by
 refine aA Rx rfl ?_;have hr:=U4 ha hb (by omega) a.length 0 (by omega);have hall:=OR ha hb h2 hv;have hsv:aa (gO a b a.length)=aa a-aa b:=by
  rw[hall,iN,Nat.mod_eq_of_lt];grind[Nat.lt_of_le_of_lt,Nat.sub_le,bQ]
 have hL:=qU a b a.length;have hLb:=J0 a b a.length;have q0:zC 41 (gO a b 0) .emp .dead:=Or.inl ⟨rfl,rfl,rfl⟩;generalize gO a b a.length=out at hr hsv hL hLb;have ht:=yB (m:=out) hLb (by omega);rw[hsv]at ht;generalize hLL:aD (aj R (aH false) dL) [0,1,5,6,7] [41]=L at hr;have hX:∀s h,aj R (aH false) (.loop [0,1,5,6,7] [41] dL) s h=L s h:=fun s h=>by rw[←hLL];rfl
 have hr2:∀ (S:af) (H:ac) (X:Option (Ex×St)),am 0 [5] (L S H)=X->S 0=lm a->S 1=lm b->S 6=W 0->S 7=I 0->S 5=.emp->H 41=.dead->∃x hh,X=some (.normal,⟨upd (fun _=>.any) 5 x,hh⟩)/\zC 41 out x (hh 41)/\∀a,a≠41->hh a=.dead:=fun S H X hX a0 a1 a6 a7 a5 b=>by
  rw[←hX];exact hr S H a0 a1 a6 a7 (by grind)
 simp only[xY,FQ,hX,go_sem];generalize hB:am 0 [5] (L _ _)=X;obtain⟨x,hh,g0,hacc,gd⟩:=hr2 _ _ _ hB rfl rfl rfl rfl rfl rfl;rw[g0];rcases hacc with⟨c1,c2,c3⟩| ⟨c1,c2,c3⟩
 ·rw[c1]at ht;simp only[go_sem,apB,apA,c2,ht,ne_eq,not_false_eq_true,gd]
 ·simp only[go_sem,apB,apA,c2,c3,ht,ne_eq,not_false_eq_true,gd,GQ,Nat.zero_add,Nat.le_refl]
theorem Xs{a b:List Nat}(ha:Lb a)(hb:Lb b)(hl:a.length=b.length)(h2:a.length<=100000):∀ (k:Nat),k<=a.length->∀ (s:af) (h:ac),s 0=lm a->s 1=lm b->s 5=I ((k:Int)-1)->
  bL (am 0 [] (aD (aj R (aH false) dC) [0,1,5] [] s h)) (aj R (aH false) nN)=some (.ret,⟨upd (fun _=>.any) 4 (I (bE (aa (a.take k)) (aa (b.take k)))),fun _=>.dead⟩):=by
 intro k;induction k with
 |zero=>
  intro hk s h h0 h1 h5;rw[ai];have e1:(0<=((0:Nat):Int)-1)=False:=ff (by omega);have e2:bE (aa []) (aa [])=0:=rfl;simp only[dC,nN,go_sem,h0,h1,h5,e1,e2]
 |succ k ih=>
  intro hk s h h0 h1 h5;have ih':=ih (by omega);have e1:(0<=((k+1:Nat):Int)-1)=True:=tt (by omega);have e2:aV (ax a) (((k+1:Nat):Int)-1)=some (.ipt [U (a.getD k 0:Nat)]):=bk (by omega) (by omega);have e3:aV (ax b) (((k+1:Nat):Int)-1)=some (.ipt [U (b.getD k 0:Nat)]):=bk (by omega) (by omega);have e4:IntKind.i64.wrap (((k+1:Nat):Int)-1-1)=(k:Int)-1:=by grind[i64_in]
  have va:=dx a k;have vb:=dx b k;have la:=bQ (dN ha k);have lb:=bQ (dN hb k);rw[List.length_take,Nat.min_eq_left (by omega)]at la lb;rw[ai];rcases Nat.lt_trichotomy (a.getD k 0) (b.getD k 0)with hlt|heq|hgt
  ·have e5:((a.getD k 0:Int)< (b.getD k 0:Int))=True:=tt (by omega);have e6:bE (aa (a.take (k+1))) (aa (b.take (k+1)))=-1:=by
    have:4294967296^k*(a.getD k 0+1)<=4294967296^k*b.getD k 0:=Nat.mul_le_mul_left _ hlt;rw[Nat.mul_add]at this;simp only[bE];omega
   simp only[dC,nN,go_sem,h0,h1,h5,e1,e2,e3,e5,e6]
  ·have e5:((a.getD k 0:Int)< (b.getD k 0:Int))=False:=ff (by omega);have e7:((b.getD k 0:Int)< (a.getD k 0:Int))=False:=ff (by omega);have e6:bE (aa (a.take (k+1))) (aa (b.take (k+1)))=bE (aa (a.take k)) (aa (b.take k)):=by
    grind[bE]
   simp only[dC,go_sem,h0,h1,h5,e1,e2,e3,e5,e6,e7,e4];exact ih' _ _ rfl rfl rfl
  ·have e5:((a.getD k 0:Int)< (b.getD k 0:Int))=False:=ff (by omega);have e7:((b.getD k 0:Int)< (a.getD k 0:Int))=True:=tt (by omega);have e6:bE (aa (a.take (k+1))) (aa (b.take (k+1)))=1:=by
    have:4294967296^k*(b.getD k 0+1)<=4294967296^k*a.getD k 0:=Nat.mul_le_mul_left _ hgt;rw[Nat.mul_add]at this;simp only[bE];omega
   simp only[dC,nN,go_sem,h0,h1,h5,e1,e2,e3,e5,e6,e7]
theorem RJ{a b:List Nat}(ha:Lb a)(hb:Lb b)(h1:a.length<=100000)(_h2:b.length<=100000)(hc:a.length=b.length\/(vo a/\vo b)):R F.r02_compare [lm a,lm b] []=some (I (bE (aa a) (aa b)),[]):=by
 refine aA Mu rfl ?_;by_cases hl:a.length=b.length
 ·have e1:((a.length:Int)=(b.length:Int))=True:=tt (by omega);have e3:IntKind.i64.wrap ((a.length:Int)-1)=(a.length:Int)-1:=i64_in _ ⟨by omega,by omega⟩;have hL:=Xs ha hb hl h1 a.length (Nat.le_refl _);rw[List.take_length,hl,List.take_length,←hl]at hL;generalize hLL:aD (aj R (aH false) dC) [0,1,5] []=L at hL;have hX:∀s h,aj R (aH false) (.loop [0,1,5] [] dC) s h=L s h:=fun s h=>by rw[←hLL];rfl
  have hL2:∀s h,s 0=lm a->s 1=lm b->s 5=I ((a.length:Int)-1)->gM false [[]] [.t 4] 0 (bL (am 0 [] (L s h)) (aj R (aH false) (.seq (.ops [4] [co 4 (.mv (.c (.v (.int .i64 0))))]) (.ret))))=some (I (bE (aa a) (aa b)),[]):=fun s h a0 a1 a5=>by
   rw[show(.seq (.ops [4] [co 4 (.mv (.c (.v (.int .i64 0))))]) (.ret):Cmd)=nN from rfl,hL s h a0 a1 a5];simp only[go_sem]
  show gM false [[]] [.t 4] 0 (aj R (aH false) ng _ _)=_;unfold ng;show gM false [[]] [.t 4] 0 (bL (aj R (aH false) (.ops [0,1] [co 4 (.mv (.c (.v (.int .i64 0))))]) _ _) fun s h=>bL (aj R (aH false) (.seq (.ops [0,1,10] [cm 6 0,co 7 (.len false (.t 6)),cm 8 1,co 9 (.len false (.t 8)),co 10 (.bin .neq (.t 7) (.t 9))]) (.cond (.t 10) (.seq (.seq (.ops [15] [cm 11 0,co 12 (.len false (.t 11)),cm 13 1,co 14 (.len false (.t 13)),co 15 (.bin .lss (.t 12) (.t 14))]) (.cond (.t 15) (.seq (.ops [4] [co 4 (.mv (.c (.v (.int .i64 (-1)))))]) (.ret)) (.skip))) (.seq (.ops [4] [co 4 (.mv (.c (.v (.int .i64 1))))]) (.ret))) (.skip))) s h) fun s h=>bL (bL (aj R (aH false) (.ops [0,1,5] [cm 16 0,co 17 (.len false (.t 16)),co 18 (.bin .sub (.t 17) (.c (.v (.int .i64 1)))),cm 5 18]) s h) fun s h=>am 0 [] (aj R (aH false) (.loop [0,1,5] [] dC) s h)) (aj R (aH false) (.seq (.ops [4] [co 4 (.mv (.c (.v (.int .i64 0))))]) (.ret))))=_;simp only[hX];simp only[go_sem,e1,e3];exact hL2 _ _ rfl rfl rfl
 ·have e1:((a.length:Int)=(b.length:Int))=False:=ff (by omega);obtain⟨ca,cb⟩:=hc.resolve_left hl;by_cases hlt:a.length<b.length
  ·have e2:((a.length:Int)< (b.length:Int))=True:=tt (by omega);have e3:bE (aa a) (aa b)=-1:=by
    simp_all[mP,aa,AL,ca,bE,if_pos]
   rw[e3];simp only[pP,ng,go_sem,e1,e2]
  ·have e2:((a.length:Int)< (b.length:Int))=False:=ff (by omega);have e3:bE (aa a) (aa b)=1:=by
    have:=mP (x:=aa b) (y:=aa a) (by grind[AL,ca]);unfold bE;omega
   rw[e3];simp only[pP,ng,go_sem,e1,e2]
theorem pz{d:Rd}(ok:Ok0 d):R F.r02_Valid [ag d] []=some (B (vd d),[]):=by
 refine aA Rq rfl ?_;unfold vd;have hl:=ok.len;by_cases a0:d.m.length=0
 ·rw[if_pos a0];have e1:((d.m.length:Int)=0)=True:=tt (by omega);cases hn:d.neg with
  |true=>simp only[eF,ge,ag,ak,hn,go_sem,apB,apA,e1,Bool.not_true,Bool.false_and]
  |false=>simp only[eF,ge,ag,ak,hn,go_sem,apB,apA,e1,Bool.not_false,Bool.true_and]
 rw[if_neg a0];have e1:((d.m.length:Int)=0)=False:=ff (by omega);by_cases a1:¬d.m.length<=256
 ·have e2:(256< (d.m.length:Int))=True:=tt (by omega);rw[decide_eq_false a1,Bool.false_and];simp only[eF,ge,ag,ak,go_sem,apB,apA,e1,e2]
 replace a1:=Decidable.not_not.1 a1
 have e2:(256< (d.m.length:Int))=False:=ff (by omega);have e3:aV (ax d.m) 0=some (.ipt [U (d.m.getD 0 0:Nat)]):=bk rfl (by omega);have e6:IntKind.i64.wrap ((d.m.length:Int)-1)=((d.m.length-1:Nat):Int):=wi (by omega) (by omega);have e7:aV (ax d.m) ((d.m.length-1:Nat):Int)=some (.ipt [U (d.m.getD (d.m.length-1) 0:Nat)]):=bk rfl (by omega);have hx:=bu ok.lb 0;rw[decide_eq_true a1,Bool.true_and];by_cases a3:d.m.getD (d.m.length-1) 0=0
 ·have e8:((d.m.getD (d.m.length-1) 0:Int)=0)=True:=tt (by omega);rw[decide_eq_false (p:=d.m.getD (d.m.length-1) 0≠0) (fun h=>h a3),Bool.false_and,Bool.and_false];simp only[eF,ge,ag,ak,go_sem,apB,apA,e1,e2,e6,e7,e8]
 have e8:((d.m.getD (d.m.length-1) 0:Int)=0)=False:=ff (by omega);rw[decide_eq_true (p:=d.m.getD (d.m.length-1) 0≠0) a3,Bool.true_and];have e4:=Pc (n:=d.m.getD 0 0) rfl hx;by_cases a2:¬d.m.getD 0 0%2=1
 ·have e5:(((d.m.getD 0 0%2:Nat):Int)=0)=True:=tt (by omega);rw[decide_eq_false a2,Bool.false_and];simp only[eF,ge,ag,ak,go_sem,apB,apA,e1,e2,e3,e4,e5,e6,e7,e8]
 replace a2:=Decidable.not_not.1 a2
 have e5:(((d.m.getD 0 0%2:Nat):Int)=0)=False:=ff (by omega);rw[decide_eq_true a2,Bool.true_and];have hv:aa d.m≠0:=Dx (Or.inr a3) (fun h=>a0 (by grind));have hbp:=fk hv;unfold lW;rw[decide_eq_false (p:=ae (aa d.m)=0) (by omega),Bool.false_or];by_cases a4:d.e< -16384
 ·have f1:(d.e< -16384)=True:=tt a4;rw[decide_eq_false (p:=-16384<=d.e) (by omega),Bool.false_and,Bool.and_false];simp only[eF,ge,ag,ak,go_sem,apB,apA,e1,e2,e3,e4,e5,e6,e7,e8,f1]
 have f1:(d.e< -16384)=False:=ff a4;rw[decide_eq_true (p:=-16384<=d.e) (by omega),Bool.true_and];by_cases a5:16384<d.e
 ·have f2:(16384<d.e)=True:=tt a5;rw[decide_eq_false (p:=d.e<=16384) (by omega),Bool.false_and,Bool.and_false];simp only[eF,ge,ag,ak,go_sem,apB,apA,e1,e2,e3,e4,e5,e6,e7,e8,f1,f2]
 have f2:(16384<d.e)=False:=ff a5;rw[decide_eq_true (p:=d.e<=16384) (by omega),Bool.true_and];have hb:=Pd ok.lb (by omega) (Or.inr a3);have hbl:=BU ok.lb;have w1:IntKind.i64.wrap (((ae (aa d.m):Nat):Int)+d.e)=((ae (aa d.m):Nat):Int)+d.e:=i64_in _ ⟨by omega,by omega⟩;by_cases a6:ae (aa d.m)<=4096
 ·have f3:(((ae (aa d.m):Nat):Int)<=4096)=True:=tt (by omega);rw[decide_eq_true a6,Bool.true_and];simp only[eF,ge,ag,ak,go_sem,apB,apA,e1,e2,e3,e4,e5,e6,e7,e8,f1,f2,hb,f3,w1]
 ·have f3:(((ae (aa d.m):Nat):Int)<=4096)=False:=ff (by omega);rw[decide_eq_false a6,Bool.false_and];simp only[eF,ge,ag,ak,go_sem,apB,apA,e1,e2,e3,e4,e5,e6,e7,e8,f1,f2,hb,f3]
theorem Ii{neg:Bool}{m:List Nat}{e:Int}(hb:Lb m)(h1:m.length<=9000)(he:-1000000<=e/\e<=1000000):R F.r02_Of [B neg,lm m,I e] []=some (ag (bA neg (aa m) e),[]):=by
 refine aA Za rfl ?_;have ht:=yB hb (by omega);have la:=cz m hb;obtain⟨M,hM⟩:∃M,aa m=M:=⟨_,rfl⟩;rw[hM]at ht la⊢;by_cases h0:M=0
 ·have e1:(((ap M).length:Int)=0)=True:=tt (by grind[fQ]);rw[h0,pu];simp only[y9,Gf,ag,ak,aK,go_sem,apB,apA,apC,ht,e1]
 ·have e1:(((ap M).length:Int)=0)=False:=ff (fun h=>h0 (ke.1 (List.length_eq_zero_iff.1 (by omega))));have hz:=Xl (aP M) (by omega) (by grind[aL]);rw[aL]at hz;have htz:tz M<32*(ap M).length:=by
   refine MU h0 ?_;grind[bQ,aP,aL,Nat.pow_mul]
  have hr:=Xo (aP M) (n:=tz M) (by omega) (by omega);rw[aL]at hr;have w1:IntKind.i64.wrap (e+((tz M:Nat):Int))=e+((tz M:Nat):Int):=i64_in _ ⟨by omega,by omega⟩;rw[mQ h0];simp only[y9,Gf,ag,ak,go_sem,apB,apA,apC,ht,e1,hz,hr,w1]
def U5(d:Rd):Rd:=⟨!d.neg&&decide (0<d.m.length),d.m,d.e⟩
theorem abM{d:Rd}:R F.r02_Neg [ag d] []=some (ag (U5 d),[]):=by
 refine aA WC rfl ?_;unfold U5;cases hn:d.neg with
 |true=>simp only[wY,Dl,ag,ak,go_sem,apB,apA,apC,hn,Bool.not_true,Bool.false_and]
 |false=>
  have e:decide (0< (d.m.length:Int))=decide (0<d.m.length):=by grind
  simp only[wY,Dl,ag,ak,go_sem,apB,apA,apC,hn,Bool.not_false,Bool.true_and,e]
theorem abN{d:Rd}(h:vd d=true):U5 d=dG d:=by
 unfold U5 dG;by_cases h0:d.m.length=0
 ·have:=AY h h0;subst this;rfl
 ·rw[if_neg (fun h2=>h2.elim (fun h3=>by grind) h0),decide_eq_true (by omega),Bool.and_true]
theorem kh{d:Rd}(h:vd d=true):zI (dG d)=-zI d/\vd (dG d)=true:=by
 unfold dG;by_cases h0:d.m.length=0
 ·rw[if_pos (Or.inr h0),bP h0];exact⟨by rw[bP rfl];rfl,rfl⟩
 ·constructor
  ·grind[zI,mg]
  simp_all[vd,if_neg]
theorem GR{d:Rd}:R F.r02_Sign [ag d] []=some (I (bS d),[]):=by
 refine aA UG rfl ?_;unfold bS;by_cases h0:d.m.length=0
 ·have e1:((d.m.length:Int)=0)=True:=tt (by omega);rw[if_pos h0];simp only[qQ,wW,ag,ak,go_sem,apB,apA,e1]
 ·have e1:((d.m.length:Int)=0)=False:=ff (by omega);rw[if_neg h0];cases hn:d.neg with
  |true=>
   simp only[qQ,wW,ag,ak,go_sem,apB,apA,e1,hn]
  |false=>
   simp only[qQ,wW,ag,ak,go_sem,apB,apA,e1,hn]
theorem Pg{d:Rd}(h:vd d=true):vo d.m:=by
 by_cases h0:d.m.length=0
 ·exact Or.inl (List.length_eq_zero_iff.1 h0)
 ·exact Or.inr (vS h h0).2.2.1
theorem SB{d:Rd}(ok:Ok0 d)(h:vd d=true):R F.r02_Top [ag d] []=some (I (aR d),[]):=by
 refine aA WA rfl ?_;by_cases h0:d.m.length=0
 ·have e1:((d.m.length:Int)=0)=True:=tt (by omega);rw[aR,if_pos (Or.inr h0)];simp only[wX,Dk,ag,ak,go_sem,apB,apA,e1]
 ·have e1:((d.m.length:Int)=0)=False:=ff (by omega);obtain⟨h1,h2,h3,h4⟩:=dT h ok.lb;rw[kW h h0];have hb:=Pd ok.lb (by omega) (Pg h);have w1:IntKind.i64.wrap (((ae (aa d.m):Nat):Int)+d.e)=((ae (aa d.m):Nat):Int)+d.e:=i64_in _ ⟨by omega,by omega⟩;simp only[wX,Dk,ag,ak,go_sem,apB,apA,apC,apD,apE,e1,hb,w1]
def dJ(z f:Int):Rd:=bA (decide (z<0)) z.natAbs f
theorem EO{neg:Bool}{n:Nat}{f:Int}:bA neg n f=dJ (dz neg n) f:=by
 unfold dJ;by_cases h0:n=0
 ·subst h0;cases neg<;>exact pu.symm
 ·cases neg with
  |false=>
   rw[zz,Int.natAbs_natCast,decide_eq_false (by omega)]
  |true=>
   rw[xf,Int.natAbs_neg,Int.natAbs_natCast,decide_eq_true (by omega)]
theorem adN{n:Nat}(h:n%2=1)(k:Nat):tz (n*2^k)=k:=by
 rw[Nat.mul_comm,HT k (by omega),AM h,Nat.add_zero]
theorem SC{d:Rd}(ok:Ok0 d)(h:vd d=true):dJ (zI d) (-16384)=d:=by
 by_cases h0:d.m.length=0
 ·rw[bP h0];have:=AY h h0;subst this;exact pu
 ·obtain⟨h1,h2,h3,h4⟩:=vS h h0;obtain⟨g1,g2,g3,g4⟩:=dT h ok.lb;have hz:zI d=dz d.neg (mg d):=by
   grind[zI,dz]
  rw[hz,←EO];unfold mg;rw[tC,mQ (dy h h0)];have ho:aa d.m%2=1:=by
   have:=dF d.m 0;grind
  rw[AM ho,Nat.pow_zero,Nat.div_one,AL ok.lb (Pg h)];obtain⟨n,m,e⟩:=d;grind
theorem tJ{x y:Nat}(h:x<=y):(ap x).length<=(ap y).length:=Nat.not_lt.1 fun h2=>by
 have:=mP h2;omega
theorem SD{a b:Rd}(oa:Ok0 a)(ob:Ok0 b)(va:vd a=true)(vb:vd b=true):R F.r02_Sum [ag a,ag b] []=some (ag (dJ (zI a+zI b) (-16384)),[]):=by
 refine aA WB rfl ?_;by_cases a0:a.m.length=0
 ·have e1:((a.m.length:Int)=0)=True:=tt (by omega);rw[bP a0,Int.zero_add,SC ob vb];simp only[mH,rW,ag,ak,go_sem,apB,apA,apC,e1]
 have e1:((a.m.length:Int)=0)=False:=ff (by omega);by_cases b0:b.m.length=0
 ·have e2:((b.m.length:Int)=0)=True:=tt (by omega);rw[bP b0,Int.add_zero,SC oa va];simp only[mH,rW,ag,ak,go_sem,apB,apA,apC,e1,e2]
 have e2:((b.m.length:Int)=0)=False:=ff (by omega);obtain⟨a1,a2,a3,a4⟩:=dT va oa.lb;obtain⟨b1,b2,b3,b4⟩:=dT vb ob.lb;obtain⟨e,he⟩:∃e,(if b.e<a.e then b.e else a.e)=e:=⟨_,rfl⟩;have he1:-16384<=e/\e<=a.e/\e<=b.e:=by
  omega
 have w1:IntKind.i64.wrap (a.e-e)=(((a.e-e).toNat:Nat):Int):=wi (by omega) (by omega);have w2:IntKind.i64.wrap (b.e-e)=(((b.e-e).toNat:Nat):Int):=wi (by omega) (by omega);have l1:=Pf oa.lb (n:=(a.e-e).toNat) (by omega) (by omega);have l2:=Pf ob.lb (n:=(b.e-e).toNat) (by omega) (by omega);have z1:zI a=dz a.neg (aa a.m*2^ (a.e-e).toNat*2^ (e+16384).toNat):=by
  grind[zI,dz,mg,BQ]
 have z2:zI b=dz b.neg (aa b.m*2^ (b.e-e).toNat*2^ (e+16384).toNat):=by
  grind[zI,dz,mg,BQ]
 have bx:ae (aa a.m*2^ (a.e-e).toNat)<=36864:=by
  grind[dS,dy]
 have by':ae (aa b.m*2^ (b.e-e).toNat)<=36864:=by
  grind[dS,dy]
 rw[z1,z2];generalize aa a.m*2^ (a.e-e).toNat=x at l1 bx⊢;generalize aa b.m*2^ (b.e-e).toNat=y at l2 by'⊢;have lx:(ap x).length<=1152:=aS (by omega);have ly:(ap y).length<=1152:=aS (by omega);have hsum:∀ (n:Bool) (z:Nat),bA n z e=dJ (dz n (z*2^ (e+16384).toNat)) (-16384):=fun n z=>by
  rw[←EO,tC,show-16384+(((e+16384).toNat:Nat):Int)=e by omega]
 have hcp:=RJ (aP x) (aP y) (by omega) (by omega) (Or.inr ⟨Dy x,Dy y⟩);rw[aL,aL]at hcp;by_cases hs:a.neg=b.neg
 ·have p1:=ZH (aP x) (aP y) (by omega) (by omega);rw[aL,aL]at p1;have bz:ae (x+y)<=36865:=yx bx by';have o1:=Ii (neg:=a.neg) (m:=ap (x+y)) (e:=e) (aP _) (Nat.le_trans (aS (k:=1153) (by omega)) (by decide)) ⟨by omega,by omega⟩;rw[aL,hsum]at o1;have hz:dz a.neg (x*2^ (e+16384).toNat)+dz b.neg (y*2^ (e+16384).toNat)=dz a.neg ((x+y)*2^ (e+16384).toNat):=by
   rw[←hs,Nat.add_mul];cases a.neg
   all_goals grind[zz,xf]
  rw[hz];generalize dJ (dz a.neg ((x+y)*2^ (e+16384).toNat)) (-16384)=r at o1⊢;have hs2:(a.neg==b.neg)=true:=by grind
  have hs3:(false != (a.neg==b.neg))=true:=by grind
  simp only[ag,ak]at o1;simp only[mH,rW,ag,ak,go_sem,apB,apA,apC,apD,apE,e1,e2,he,w1,w2,l1,l2,hs3,p1,o1]
 ·have hs2:(a.neg==b.neg)=false:=by
   grind
  have hs3:(false != (a.neg==b.neg))=false:=by grind
  have hbn:b.neg=!a.neg:=by
   grind
  by_cases hlt:x<y
  ·have e5:(0<=bE x y)=False:=ff (by simp_all[bE,if_pos]);have m1:=LC (aP y) (aP x) (by omega) (tJ (by omega)) (by grind[aL]);rw[aL,aL]at m1;have o1:=Ii (neg:=b.neg) (m:=ap (y-x)) (e:=e) (aP _) (Nat.le_trans (tJ (Nat.sub_le _ _)) (by omega)) ⟨by omega,by omega⟩;rw[aL,hsum]at o1;have hz:dz a.neg (x*2^ (e+16384).toNat)+dz b.neg (y*2^ (e+16384).toNat)=dz b.neg ((y-x)*2^ (e+16384).toNat):=by
    grind[Bool.not_true,zz,xf]
   rw[hz];generalize dJ (dz b.neg ((y-x)*2^ (e+16384).toNat)) (-16384)=r at o1⊢;simp only[ag,ak]at o1;simp only[mH,rW,ag,ak,go_sem,apB,apA,apC,apD,apE,e1,e2,he,w1,w2,l1,l2,hs3,hcp,e5,m1,o1]
  ·have e5:(0<=bE x y)=True:=tt (by unfold bE;omega);have m1:=LC (aP x) (aP y) (by omega) (tJ (by omega)) (by grind[aL]);rw[aL,aL]at m1;have o1:=Ii (neg:=a.neg) (m:=ap (x-y)) (e:=e) (aP _) (Nat.le_trans (tJ (Nat.sub_le _ _)) (by omega)) ⟨by omega,by omega⟩;rw[aL,hsum]at o1;have hz:dz a.neg (x*2^ (e+16384).toNat)+dz b.neg (y*2^ (e+16384).toNat)=dz a.neg ((x-y)*2^ (e+16384).toNat):=by
    grind[Bool.not_true,zz,xf]
   rw[hz];generalize dJ (dz a.neg ((x-y)*2^ (e+16384).toNat)) (-16384)=r at o1⊢;simp only[ag,ak]at o1;simp only[mH,rW,ag,ak,go_sem,apB,apA,apC,apD,apE,e1,e2,he,w1,w2,l1,l2,hs3,hcp,e5,m1,o1]
theorem aki:(true==true)=true:=rfl
theorem akj:(true==false)=false:=rfl
theorem akk:(false==true)=false:=rfl
theorem akl:(false==false)=true:=rfl
theorem adO:(false !=true)=true:=rfl
theorem adP:(false !=false)=false:=rfl
theorem ZI(z f:Int):bS (dJ z f)=if z<0 then-1 else if 0<z then 1 else 0:=by
 unfold dJ;by_cases h0:z=0
 ·subst h0;rfl
 ·have hn:z.natAbs≠0:=by omega
  rw[mQ hn];obtain⟨h1,h2⟩:=uK hn;have hl:(ap (z.natAbs/2^tz z.natAbs)).length≠0:=fun h=>by
   have:=ke.1 (List.length_eq_zero_iff.1 h);omega
  unfold bS;grind
theorem Xt{a b:Rd}(oa:Ok0 a)(ob:Ok0 b)(va:vd a=true)(vb:vd b=true)(na:a.m.length≠0)(nb:b.m.length≠0)(h:aR a<aR b):mg a<mg b:=by
 have h1:=A3 va oa.lb na;have h2:=A3 vb ob.lb nb;exact BP (by omega)
theorem abO{a b:Rd}(oa:Ok0 a)(ob:Ok0 b)(va:vd a=true)(vb:vd b=true):R F.r02_Cmp [ag a,ag b] []=some (I (bD (zI a) (zI b)),[]):=by
 refine aA Wx rfl ?_;have s1:=GR (d:=a);have s2:=GR (d:=b);have t1:=SB oa va;have t2:=SB ob vb;have n1:=abM (d:=b);rw[abN vb]at n1;obtain⟨hz,hvn⟩:=kh vb;have u1:=SD oa (sj ob) va hvn;rw[hz]at u1;have u2:=GR (d:=dJ (zI a+-zI b) (-16384));rw[ZI]at u2;have hca:=BR a va;have hcb:=BR b vb;generalize dG b=nb at n1 u1;simp only[ag,ak]at s1 s2 t1 t2 n1 u1 u2;by_cases hs:bS a=bS b
 ·have e1:(bS a=bS b)=True:=tt hs;by_cases h0:bS a=0
  ·have e2:(bS a=0)=True:=tt h0;have hr:bD (zI a) (zI b)=0:=by
    have:zI a=0:=by omega
    have:zI b=0:=by omega
    simp_all[bD,if_neg]
   rw[hr];simp only[il,kC,ag,ak,go_sem,apB,apA,apC,apD,apE,s1,s2,e1,e2]
   try simp only[hs,h0,go_sem,apB,apA,apJ,apC,apD,apF,apH,apI,apG,apE,apK]
  ·have e2:(bS a=0)=False:=ff h0;have na:a.m.length≠0:=by omega
   have nb':b.m.length≠0:=by omega
   by_cases ht:aR a=aR b
   ·have e3:(aR a=aR b)=True:=tt ht;have hr:bD (zI a) (zI b)=if zI a+-zI b<0 then-1 else if 0<zI a+-zI b then 1 else 0:=by
     grind[bD]
    rw[hr];simp only[il,kC,ag,ak,go_sem,apB,apA,apC,apD,apE,s1,s2,t1,t2,e1,e2,e3,n1,u1,u2]
   ·have e3:(aR a=aR b)=False:=ff ht;by_cases hlt:aR a<aR b
    ·have e4:(aR a<aR b)=True:=tt hlt;have hm:=Xt oa ob va vb na nb' hlt;by_cases hp:0<bS a
     ·have e5:(0<bS a)=True:=tt hp;have hr:bD (zI a) (zI b)=-1:=by
       unfold bD;omega
      rw[hr];simp only[il,kC,ag,ak,go_sem,apB,apA,apC,apD,apE,s1,s2,t1,t2,e1,e2,e3,e4,e5,decide_true,aki,adO]
     ·have e5:(0<bS a)=False:=ff hp;have hr:bD (zI a) (zI b)=1:=by
       unfold bD;omega
      rw[hr];simp only[il,kC,ag,ak,go_sem,apB,apA,apC,apD,apE,s1,s2,t1,t2,e1,e2,e3,e4,e5,decide_true,decide_false,akj,adP]
    ·have e4:(aR a<aR b)=False:=ff hlt;have hm:=Xt ob oa vb va nb' na (by omega);by_cases hp:0<bS a
     ·have e5:(0<bS a)=True:=tt hp;have hr:bD (zI a) (zI b)=1:=by
       unfold bD;omega
      rw[hr];simp only[il,kC,ag,ak,go_sem,apB,apA,apC,apD,apE,s1,s2,t1,t2,e1,e2,e3,e4,e5,decide_true,decide_false,akk,adP]
     ·have e5:(0<bS a)=False:=ff hp;have hr:bD (zI a) (zI b)=-1:=by
       unfold bD;omega
      rw[hr];simp only[il,kC,ag,ak,go_sem,apB,apA,apC,apD,apE,s1,s2,t1,t2,e1,e2,e3,e4,e5,decide_true,decide_false,akl,adO]
 ·have e1:(bS a=bS b)=False:=ff hs;by_cases hlt:bS a<bS b
  ·have e2:(bS a<bS b)=True:=tt hlt;have hr:bD (zI a) (zI b)=-1:=by
    unfold bD;omega
   rw[hr];simp only[il,kC,ag,ak,go_sem,apB,apA,apC,apD,apE,s1,s2,e1,e2]
  ·have e2:(bS a<bS b)=False:=ff hlt;have hr:bD (zI a) (zI b)=1:=by
    unfold bD;omega
   rw[hr];simp only[il,kC,ag,ak,go_sem,apB,apA,apC,apD,apE,s1,s2,e1,e2]
theorem Xu{a b:Rd}(oa:Ok0 a)(ob:Ok0 b)(va:vd a=true)(vb:vd b=true):bA (a.neg !=b.neg) (aa a.m*aa b.m) (a.e+b.e)=dJ (zI a*zI b) (-32768):=by
 obtain⟨a1,a2,a3,a4⟩:=dT va oa.lb;obtain⟨b1,b2,b3,b4⟩:=dT vb ob.lb;have hz:zI a*zI b=dz (a.neg !=b.neg) (mg a*mg b):=by
  unfold zI dz;cases a.neg<;>cases b.neg<;>simp[Int.mul_neg,Int.neg_mul]
 have hm:mg a*mg b=aa a.m*aa b.m*2^ ((a.e+16384).toNat+(b.e+16384).toNat):=by
  unfold mg;rw[Nat.pow_add]
  ac_rfl
 rw[hz,←EO,hm,tC,show-32768+(((a.e+16384).toNat+(b.e+16384).toNat:Nat):Int)=a.e+b.e by omega]
theorem SF{a b:Rd}{p:Int}{up:Bool}:vd (cT a b p up).1=true:=by
 unfold cT;split
 ·exact tD.1
 ·exact bj.1
theorem Ph{d:Rd}:R F.r05_zero [ag d] []=some (B (z0 d),[]):=by
 refine aA UB rfl ?_;unfold z0;cases hn:d.neg with
 |true=>simp only[nM,sP,ag,ak,go_sem,apB,apA,hn,Bool.not_true,Bool.false_and]
 |false=>
  by_cases h1:d.m.length=0
  ·have e1:((d.m.length:Int)=0)=True:=tt (by omega);by_cases h2:d.e=0
   ·have e2:(d.e=0)=True:=tt h2;rw[decide_eq_true h1,decide_eq_true h2];simp only[nM,sP,ag,ak,go_sem,apB,apA,hn,e1,e2,Bool.not_false,Bool.true_and]
   ·have e2:(d.e=0)=False:=ff h2;rw[decide_eq_true h1,decide_eq_false h2];simp only[nM,sP,ag,ak,go_sem,apB,apA,hn,e1,e2,Bool.not_false,Bool.true_and]
  ·have e1:((d.m.length:Int)=0)=False:=ff (by omega);rw[decide_eq_false h1];simp only[nM,sP,ag,ak,go_sem,apB,apA,hn,e1,Bool.not_false,Bool.true_and,Bool.false_and]
theorem Xv{x:Ri}(ok:OkI x):R F.r05_Valid [av x] []=some (B (vi x),[]):=by
 refine aA Ro rfl ?_;unfold vi;have zl:=Ph (d:=x.lo);have zh:=Ph (d:=x.hi);have vl:=pz ok.lo;have vh:=pz ok.hi;simp only[ag,ak]at zl zh vl vh;cases ha:x.all with
 |true=>
  cases h1:z0 x.lo with
  |true=>
   rw[h1]at zl;simp only[aqa,nJ,av,az,go_sem,apB,apA,apC,ha,zl,zh,Bool.true_and]
  |false=>
   rw[h1]at zl;simp only[aqa,nJ,av,az,go_sem,apB,apA,apC,ha,zl,Bool.false_and]
 |false=>
  cases h1:vd x.lo with
  |false=>
   rw[h1]at vl;simp only[aqa,nJ,av,az,go_sem,apB,apA,apC,ha,vl,Bool.false_and]
  |true=>
   rw[h1]at vl;cases h2:vd x.hi with
   |false=>
    rw[h2]at vh;simp only[aqa,nJ,av,az,go_sem,apB,apA,apC,ha,vl,vh,Bool.true_and,Bool.false_and]
   |true=>
    rw[h2]at vh;have hc:=abO ok.lo ok.hi h1 h2;simp only[ag,ak]at hc;simp only[aqa,nJ,av,az,go_sem,apB,apA,apC,ha,vl,vh,hc,EL,Bool.true_and]
theorem ru(x y:Int):(x<y/\bD x y=-1)\/(x=y/\bD x y=0)\/(y<x/\bD x y=1):=by
 unfold bD;rcases Int.lt_trichotomy x y with h|h|h
 ·exact Or.inl ⟨h,if_pos h⟩
 ·exact Or.inr (Or.inl ⟨h,by rw[if_neg (by omega)];exact if_neg (by omega)⟩)
 ·exact Or.inr (Or.inr ⟨h,by rw[if_neg (by omega)];exact if_pos h⟩)
theorem U6{a:List Int}(h2:sm a):∀ (k i:Nat),i+k=a.length->∀ (s:af) (h:ac),s 0=.sl 1 (bw a)->s 3=I (bY (a.take i))->s 4=I i->
  am 0 [3] (aD (aj R (aH false) s6) [0,3,4] [] s h)=some (.normal,⟨upd (fun _=>.any) 3 (I (bY a)),fun _=>.dead⟩):=by
 intro k;induction k with
 |zero=>
  intro i hi s h h0 h3 h4;have e1:((i:Int)<a.length)=False:=ff (by omega);rw[List.take_of_length_le (by omega)]at h3;rw[ai];simp only[s6,go_sem,h0,h3,h4,e1]
 |succ k ih=>
  intro i hi s h h0 h3 h4;have hlt:i<a.length:=by omega
  obtain⟨g1,g2⟩:=h2;have e1:((i:Int)<a.length)=True:=tt (by omega);have e2:aV (bw a) (i:Int)=some (.ipt [I a[i]]):=lX rfl (List.getElem?_eq_getElem hlt);have e5:IntKind.i64.wrap ((i:Int)+1)=((i+1:Nat):Int):=wi (by omega) (by omega);have b1:=Pb (l:=a.take i) (fun x hx=>g2 x (List.mem_of_mem_take hx));have b2:=g2 a[i] (List.getElem_mem hlt);have e6:IntKind.i64.wrap (bY (a.take i)+a[i])=bY (a.take (i+1)):=by
   grind[GN,i64_in]
  have ih':=ih (i+1) (by omega);rw[ai];simp only[s6,go_sem,h0,h3,h4,e1,e2,e5,e6];exact ih' _ _ rfl rfl rfl
theorem Pi{a:List Int}(h2:sm a):R F.r23_sum [.sl 1 (bw a)] []=some (I (bY a),[]):=by
 refine aA WD rfl ?_;have h3:=U6 h2 a.length 0 (Nat.zero_add _);simp only[BH,Lv,go_sem];rw[h3 _ _ rfl rfl rfl];simp only[go_sem]
theorem U7{a b:List Int}(hl:a.length=b.length)(h2:a.length<=100000):∀ (k i:Nat),i+k=a.length->∀ (s:af) (h:ac),s 0=.sl 1 (bw a)->s 1=.sl 1 (bw b)->s 7=I i->
  ∃hh,am 0 [] (aD (aj R (aH false) ic) [0,1,7] [] s h)=if jN (b.drop i) (a.drop i)=0 then some (.normal,⟨fun _=>.any,fun _=>.dead⟩)else some (.ret,⟨upd (fun _=>.any) 4 (I (jN (b.drop i) (a.drop i))),hh⟩):=by
 intro k;induction k with
 |zero=>
  intro i hi s h h0 h1 h7;have e1:((i:Int)<a.length)=False:=ff (by omega);rw[List.drop_eq_nil_of_le (by omega),List.drop_eq_nil_of_le (by omega),ai];refine⟨fun _=>.dead,?_⟩;show _=if(0:Int)=0 then _ else _
  simp only[ic,go_sem,h0,h1,h7,e1]
 |succ k ih=>
  intro i hi s h h0 h1 h7;have hlt:i<a.length:=by omega
  have hlt2:i<b.length:=by omega
  have e1:((i:Int)<a.length)=True:=tt (by omega);have e2:aV (bw a) (i:Int)=some (.ipt [I a[i]]):=lX rfl (List.getElem?_eq_getElem hlt);have e3:aV (bw b) (i:Int)=some (.ipt [I b[i]]):=lX rfl (List.getElem?_eq_getElem hlt2);have e5:IntKind.i64.wrap ((i:Int)+1)=((i+1:Nat):Int):=wi (by omega) (by omega);rw[List.drop_eq_getElem_cons hlt,List.drop_eq_getElem_cons hlt2,ai];have ih':=ih (i+1) (by omega);generalize a[i]=x at e2⊢;generalize b[i]=y at e3⊢;unfold jN;rcases ru y x with⟨g,e⟩| ⟨g,e⟩| ⟨g,e⟩
  ·have e6:(y<x)=True:=tt g;simp only[e,↓reduceIte,apI,Int.reduceNeg];refine⟨?hh1,?_⟩;rotate_left;simp only[ic,go_sem,h0,h1,h7,e1,e2,e3,e6];rfl
  ·have e6:(y<x)=False:=ff (by omega);have e7:(x<y)=False:=ff (by omega);simp only[e,↓reduceIte];simp only[ic,go_sem,h0,h1,h7,e1,e2,e3,e5,e6,e7];exact ih' _ _ rfl rfl rfl
  ·have e6:(y<x)=False:=ff (by omega);have e7:(x<y)=True:=tt (by omega);simp only[e,↓reduceIte,apI];refine⟨?hh2,?_⟩;rotate_left;simp only[ic,go_sem,h0,h1,h7,e1,e2,e3,e6,e7];rfl
theorem Pj{a b:List Int}(ha:sm a)(hb:sm b)(hl:a.length=b.length):R F.r23_Compare [.sl 1 (bw a),.sl 1 (bw b)] []=some (I (dH a b),[]):=by
 refine aA Mo rfl ?_;have d1:=Pi ha;have d2:=Pi hb;have h3:=U7 hl (by have:=ha.1;omega) a.length 0 (Nat.zero_add _);simp only[List.drop_zero,Int.natCast_zero]at h3;unfold dH;rcases ru (bY a) (bY b)with⟨g,e⟩| ⟨g,e⟩| ⟨g,e⟩
 ·have e6:(bY a<bY b)=True:=tt g;rw[e,if_neg (by decide)];simp only[jn,m9,go_sem,apB,apA,d1,d2,e6]
 ·have e6:(bY a<bY b)=False:=ff (by omega);have e7:(bY b<bY a)=False:=ff (by omega);rw[e,if_pos rfl];by_cases hz:jN b a=0
  ·simp only[if_pos hz]at h3;simp only[jn,m9,go_sem,apB,apA,d1,d2,e6,e7];rw[(h3 _ _ rfl rfl rfl).choose_spec,hz];simp only[go_sem]
  ·simp only[if_neg hz]at h3;simp only[jn,m9,go_sem,apB,apA,d1,d2,e6,e7];rw[(h3 _ _ rfl rfl rfl).choose_spec];simp only[go_sem]
 ·have e6:(bY a<bY b)=False:=ff (by omega);have e7:(bY b<bY a)=True:=tt (by omega);rw[e,if_neg (by decide)];simp only[jn,m9,go_sem,apB,apA,d1,d2,e6,e7]
theorem Xw{t:Rt}(h2:t.exps.length<=1000):∀ (k i:Nat),i+k=t.exps.length->(∀x∈t.exps.take i,0<=x/\x<=32)->∀ (s:af) (h:ac),s 3=.ref 3 none 0 0 0->s 5=I (bY (t.exps.take i))->s 6=I i->h 3=.bx (eU t)->
  ∃hh,am 0 [5] (aD (aj R (aH false) gF) [3,5,6] [3] s h)=if(t.exps.drop i).any tH=true then some (.ret,⟨upd (fun _=>.any) 4 (B false),hh⟩)else some (.normal,⟨upd (fun _=>.any) 5 (I (bY t.exps)),hh⟩):=by
 intro k;induction k with
 |zero=>
  intro i hi hg s h h3 h5 h6 k3;have e1:((i:Int)<t.exps.length)=False:=ff (by omega);rw[List.take_of_length_le (by omega)]at h5;rw[List.drop_eq_nil_of_le (by omega),ai];simp only[eU]at k3;refine⟨?hh,?_⟩;rotate_left;show _=if false=true then _ else _
  simp only[gF,go_sem,apB,apA,apE,h3,h5,h6,k3,e1];rfl
 |succ k ih=>
  intro i hi hg s h h3 h5 h6 k3;have hlt:i<t.exps.length:=by omega
  have e1:((i:Int)<t.exps.length)=True:=tt (by omega);have e2:aV (bw t.exps) (i:Int)=some (.ipt [I t.exps[i]]):=lX rfl (List.getElem?_eq_getElem hlt);have e5:IntKind.i64.wrap ((i:Int)+1)=((i+1:Nat):Int):=wi (by omega) (by omega);have b1:=Pb hg;have b3:(t.exps.take i).length<=1000:=by grind
  have ih':=ih (i+1) (by omega);have htk:t.exps.take (i+1)=t.exps.take i++[t.exps[i]]:=by simp_all
  have hst:=GN hlt;rw[List.drop_eq_getElem_cons hlt,List.any_cons,ai];simp only[eU]at k3;rw[hst]at ih';rw[htk]at ih';generalize t.exps[i]=x at e2 ih'⊢;unfold tH at ih'⊢;by_cases g1:x<0
  ·have e6:(x<0)=True:=tt g1;simp only[decide_eq_true g1,Bool.true_or];refine⟨?hh1,?_⟩;rotate_left;simp only[gF,go_sem,apB,apA,apE,h3,h5,h6,k3,e1,e2,e6];rfl
  ·have e6:(x<0)=False:=ff g1;by_cases g2:32<x
   ·have e7:(32<x)=True:=tt g2;simp only[decide_eq_false g1,decide_eq_true g2,Bool.false_or,Bool.true_or];refine⟨?hh2,?_⟩;rotate_left;simp only[gF,go_sem,apB,apA,apE,h3,h5,h6,k3,e1,e2,e6,e7];rfl
   ·have e7:(32<x)=False:=ff g2;have e8:IntKind.i64.wrap (bY (t.exps.take i)+x)=bY (t.exps.take i)+x:=i64_in _ ⟨by omega,by omega⟩;simp only[gF,go_sem,apB,apA,apE,h3,h5,h6,k3,e1,e2,e5,e6,e7,e8];exact ih' (fun y hy=>by
     grind) _ _ rfl rfl rfl rfl
theorem Xx{v:Int}{t:Rt}(ok:Ok0 t.c)(hv:v<=1000):R F.r23_term [I v,.agg (eU t)] []=some (B (CD v t),[]):=by
 refine aA UE rfl ?_;have hvd:=pz ok;simp only[ag,ak]at hvd;unfold CD;by_cases c1:(t.exps.length:Int)=v
 ·have f1:((t.exps.length:Int)=v)=True:=tt c1;cases c2:vd t.c with
  |false=>
   rw[c2]at hvd;simp only[kT,pN,eU,go_sem,apB,apA,apC,f1,hvd]
  |true=>
   rw[c2]at hvd;by_cases c3:t.c.m.length=0
   ·have f3:((t.c.m.length:Int)=0)=True:=tt (by omega);rw[decide_eq_false (p:=t.c.m.length≠0) (fun h=>h c3),Bool.false_and];simp only[kT,pN,eU,go_sem,apB,apA,apC,f1,hvd,f3]
   ·have f3:((t.c.m.length:Int)=0)=False:=ff (by omega);rw[decide_eq_true (p:=t.c.m.length≠0) c3,Bool.true_and];have hL:=Xw (t:=t) (by omega) t.exps.length 0 (Nat.zero_add _) (fun x hx=>by grind);generalize hLL:aD (aj R (aH false) gF) [3,5,6] [3]=L at hL;have hX:∀s h,aj R (aH false) (.loop [3,5,6] [3] gF) s h=L s h:=fun s h=>by rw[←hLL];rfl
    have hL2:∀ (S:af) (H:ac) (X:Option (Ex×St)),am 0 [5] (L S H)=X->S 3=.ref 3 none 0 0 0->S 5=I 0->S 6=I 0->H 3=.bx (eU t)->∃hh,X=if t.exps.any tH=true then some (.ret,⟨upd (fun _=>.any) 4 (B false),hh⟩)else some (.normal,⟨upd (fun _=>.any) 5 (I (bY t.exps)),hh⟩):=fun S H X hX=>by
     rw[←hX];exact hL S H
    cases c4:t.exps.any tH with
    |true=>
     simp only[c4]at hL2;simp only[kT,pN,hX,eU,go_sem,apB,apA,apC,f1,hvd,f3];generalize hB:am 0 [5] (L _ _)=X;obtain⟨hh,g0⟩:=hL2 _ _ _ hB rfl rfl rfl rfl;rw[g0];simp only[go_sem]
    |false=>
     simp only[c4,if_neg Bool.false_ne_true]at hL2;simp only[kT,pN,hX,eU,go_sem,apB,apA,apC,f1,hvd,f3];generalize hB:am 0 [5] (L _ _)=X;obtain⟨hh,g0⟩:=hL2 _ _ _ hB rfl rfl rfl rfl;rw[g0];simp only[go_sem]
 ·have f1:((t.exps.length:Int)=v)=False:=ff c1;simp only[kT,pN,eU,go_sem,apB,apA,f1]
theorem Xy{a:Rp}(ok:∀t∈a.terms,Ok0 t.c)(hv:a.vars<=8)(h2:a.terms.length<=500):∀ (k i:Nat),i+k=a.terms.length->∀ (pr:Option Rt),(i=0->pr=none)->(0<i->∃q,pr=some q/\a.terms[i-1]?=some q/\CD a.vars q=true)->
  ∀ (s:af) (h:ac),s 1=.ref 1 none 0 0 0->s 3=I i->h 1=.bx [I a.vars,.sl 4 (cU a.terms)]->
  ∃hh,am 0 [] (aD (aj R (aH false) hH) [1,3] [1] s h)=if vW a.vars pr (a.terms.drop i)=true then some (.normal,⟨fun _=>.any,hh⟩)else some (.ret,⟨upd (fun _=>.any) 2 (B false),hh⟩):=by
 intro k;induction k with
 |zero=>
  intro i hi pr p0 p1 s h h1 h3 k1;have e1:((i:Int)<a.terms.length)=False:=ff (by omega);rw[List.drop_eq_nil_of_le (by omega),ai];refine⟨?hh0,?_⟩;rotate_left;show _=if true=true then _ else _
  rw[if_pos rfl];simp only[hH,go_sem,apB,apA,apE,h1,h3,k1,e1];rfl
 |succ k ih=>
  intro i hi pr p0 p1 s h h1 h3 k1;have hlt:i<a.terms.length:=by omega
  have e1:((i:Int)<a.terms.length)=True:=tt (by omega);have e2:aV (cU a.terms) (i:Int)=some (.ipt (eU a.terms[i])):=qk rfl (List.getElem?_eq_getElem hlt);have e5:IntKind.i64.wrap ((i:Int)+1)=((i+1:Nat):Int):=wi (by omega) (by omega);have okt:=ok a.terms[i] (List.getElem_mem hlt);have hnext:a.terms[i+1-1]?=some a.terms[i]:=List.getElem?_eq_getElem hlt;rw[List.drop_eq_getElem_cons hlt,ai];have ih':=ih (i+1) (by omega) (some a.terms[i]) (fun h=>absurd h (Nat.succ_ne_zero _));generalize a.terms[i]=t at e2 okt ih' hnext⊢;have htm:=Xx okt (v:=a.vars) (by omega);simp only[eU]at e2 htm;unfold vW;cases hb:CD a.vars t with
  |false=>
   rw[hb]at htm;refine⟨?hh2,?_⟩;rotate_left;simp only[hH,go_sem,apB,apA,apC,apD,apE,h1,h3,k1,e1,e2,htm];rfl
  |true=>
   rw[hb]at htm;obtain⟨c1,c2,c3,c4,c5⟩:=tI hb;by_cases hi0:i=0
   ·have f6:(0< (i:Int))=False:=ff (by omega);rw[p0 hi0];simp only[hH,go_sem,apB,apA,apC,apD,apE,h1,h3,k1,e1,e2,htm,f6,e5];exact ih' (fun _=>⟨t,rfl,hnext,hb⟩) _ _ rfl rfl rfl
   ·have f6:(0< (i:Int))=True:=tt (by omega);obtain⟨q,q1,q2,q3⟩:=p1 (by omega);obtain⟨d1,d2,d3,d4,d5⟩:=tI q3;rw[q1];have e7:IntKind.i64.wrap ((i:Int)-1)=((i-1:Nat):Int):=wi (by omega) (by omega);have e8:aV (cU a.terms) ((i-1:Nat):Int)=some (.ipt (eU q)):=qk rfl q2;simp only[eU]at e8;have ho:=Pj (a:=q.exps) (b:=t.exps) ⟨by omega,qm d4⟩ ⟨by omega,qm c4⟩ (by omega);simp only[UZ];by_cases c6:dH q.exps t.exps<0
    ·have f7:(0<=dH q.exps t.exps)=False:=ff (by omega);simp only[decide_eq_true c6,Bool.true_and];simp only[hH,go_sem,apB,apA,apC,apD,apE,h1,h3,k1,e1,e2,htm,f6,e5,e7,e8,ho,f7];exact ih' (fun _=>⟨t,rfl,hnext,hb⟩) _ _ rfl rfl rfl
    ·have f7:(0<=dH q.exps t.exps)=True:=tt (by omega);simp only[decide_eq_false c6,Bool.false_and,if_neg Bool.false_ne_true];refine⟨?hh7,?_⟩;rotate_left;simp only[hH,go_sem,apB,apA,apC,apD,apE,h1,h3,k1,e1,e2,htm,f6,e7,e8,ho,f7];rfl
theorem atT{a:Rp}(ok:∀t∈a.terms,Ok0 t.c):R F.r23_Valid [bH a] []=some (B (vp a),[]):=by
 refine aA Rs rfl ?_;unfold vp;by_cases c1:0<=a.vars
 ·have f1:(a.vars<0)=False:=ff (by omega);rw[decide_eq_true c1,Bool.true_and];by_cases c2:a.vars<=8
  ·have f2:(8<a.vars)=False:=ff (by omega);rw[decide_eq_true c2,Bool.true_and];by_cases c3:a.terms.length<=500
   ·have f3:(500< (a.terms.length:Int))=False:=ff (by omega);rw[decide_eq_true c3,Bool.true_and];have h3:=Xy ok c2 c3 a.terms.length 0 (Nat.zero_add _) none (fun _=>rfl) (fun h=>absurd h (Nat.lt_irrefl _));simp only[List.drop_zero,Int.natCast_zero]at h3;cases hb:vW a.vars none a.terms with
    |true=>
     rw[hb]at h3;simp only[jz,nK,bH,go_sem,apB,apA,f1,f2,f3];rw[(h3 _ _ rfl rfl rfl).choose_spec];simp only[go_sem]
    |false=>
     rw[hb]at h3;simp only[jz,nK,bH,go_sem,apB,apA,f1,f2,f3];rw[(h3 _ _ rfl rfl rfl).choose_spec];simp only[go_sem]
   ·have f3:(500< (a.terms.length:Int))=True:=tt (by omega);rw[decide_eq_false c3,Bool.false_and];simp only[jz,nK,bH,go_sem,apB,apA,f1,f2,f3]
  ·have f2:(8<a.vars)=True:=tt (by omega);rw[decide_eq_false c2,Bool.false_and];simp only[jz,nK,bH,go_sem,apB,apA,f1,f2]
 ·have f1:(a.vars<0)=True:=tt (by omega);rw[decide_eq_false c1,Bool.false_and];simp only[jz,nK,bH,go_sem,apB,apA,f1]
theorem U8{a:Rp}(ok:OkP a):R F.r23_Valid [bH a] []=some (B (vp a),[]):=atT fun t h=>(ok.t t h).c
theorem U9(l:List Ri)(ok:∀d∈l,OkI d)(h2:l.length<=100000):∀ (k i:Nat),i+k=l.length->∀ (s:af) (h:ac),s 1=.sl 7 (aY l)->s 5=I i->
  ∃hh,am 0 [] (aD (aj R (aH false) iF) [1,5] [] s h)=if((l.drop i).any fun x=>!kI x)=true then some (.ret,⟨upd (fun _=>.any) 4 (B false),hh⟩)else some (.normal,⟨fun _=>.any,fun _=>.dead⟩):=by
 intro k;induction k with
 |zero=>
  intro i hi s h h1 h5;have e1:((i:Int)<l.length)=False:=ff (by omega);rw[List.drop_eq_nil_of_le (by omega),ai];refine⟨fun _=>.dead,?_⟩;simp only[iF,go_sem,h1,h5,e1]
 |succ k ih=>
  intro i hi s h h1 h5;have hlt:i<l.length:=by omega
  have e1:((i:Int)<l.length)=True:=tt (by omega);have e2:aV (aY l) (i:Int)=some (.ipt (az l[i])):=A6 rfl (List.getElem?_eq_getElem hlt);have e5:IntKind.i64.wrap ((i:Int)+1)=((i+1:Nat):Int):=wi (by omega) (by omega);have e3:=Xv (ok l[i] (List.getElem_mem hlt));rw[List.drop_eq_getElem_cons hlt,List.any_cons,ai];have ih':=ih (i+1) (by omega);generalize l[i]=d at e2 e3⊢;simp only[av]at e3;simp only[az]at e2 e3;have hkd:kI d=(!d.all&&vi d):=rfl;rw[hkd];cases ha:d.all with
  |true=>
   refine⟨?hh,?_⟩;rotate_left;simp only[iF,go_sem,h1,h5,e1,e2,ha];rfl
  |false=>
   rw[ha]at e3;cases hv:vi d with
   |false=>
    rw[hv]at e3;refine⟨?hh2,?_⟩;rotate_left;simp only[iF,go_sem,apB,apA,apC,h1,h5,e1,e2,e3,ha];rfl
   |true=>
    rw[hv]at e3;simp only[iF,go_sem,apB,apA,apC,h1,h5,e1,e2,e3,e5,ha];exact ih' _ _ rfl rfl
theorem RK{a:Rp}{dom:List Ri}(oa:OkP a)(od:∀x∈dom,OkI x)(h2:dom.length<=100000):R F.r24_Domain [bH a,.sl 7 (aY dom)] []=some (B (jh a dom),[]):=by
 refine aA On rfl ?_;have hv:=U8 oa;have hL:=U9 dom od h2 dom.length 0 (Nat.zero_add _);simp only[List.drop_zero,Int.natCast_zero]at hL;simp only[bH]at hv;unfold jh;cases h1:vp a with
 |false=>
  rw[h1]at hv;simp only[j7,oW,bH,go_sem,apB,apA,apC,hv]
 |true=>
  rw[h1]at hv;by_cases h3:(dom.length:Int)=a.vars
  ·have e3:((dom.length:Int)=a.vars)=True:=tt h3;cases h4:(dom.any fun x=>!kI x)with
   |true=>
    simp only[h4]at hL;simp only[j7,oW,bH,go_sem,apB,apA,apC,hv,e3];rw[(hL _ _ rfl rfl).choose_spec];simp only[go_sem]
   |false=>
    simp only[h4,if_neg Bool.false_ne_true]at hL;simp only[j7,oW,bH,go_sem,apB,apA,apC,hv,e3];rw[(hL _ _ rfl rfl).choose_spec];simp only[go_sem]
  ·have e3:((dom.length:Int)=a.vars)=False:=ff h3;simp only[j7,oW,bH,go_sem,apB,apA,apC,hv,e3]
def BY(d:Rd):Bool:=decide (20<d.m.length)|| (decide (300<d.e)||decide (d.e< -300))
theorem DQ{d:Rd}:R F.l24_long [ag d] []=some (B (BY d),[]):=by
 refine aA UA rfl ?_;unfold BY;by_cases h1:20<d.m.length
 ·have e1:(20< (d.m.length:Int))=True:=tt (by omega);rw[decide_eq_true h1,Bool.true_or];simp only[qO,wV,ag,ak,go_sem,apB,apA,e1]
 ·have e1:(20< (d.m.length:Int))=False:=ff (by omega);rw[decide_eq_false h1,Bool.false_or];by_cases h2:300<d.e
  ·have e2:(300<d.e)=True:=tt h2;simp only[qO,wV,ag,ak,go_sem,apB,apA,e1,e2]
  ·have e2:(300<d.e)=False:=ff h2;simp only[qO,wV,ag,ak,go_sem,apB,apA,e1,e2]
def BZ(t:Rt):Bool:=BY t.c||decide (8<t.exps.length)
theorem abQ{t:Rt}:R F.l24_few_1 [.agg (eU t)] []=some (B (BZ t),[]):=by
 refine aA FW rfl ?_;have hl:=DQ (d:=t.c);simp only[ag,ak]at hl;unfold BZ;cases h1:BY t.c with
 |true=>
  rw[h1]at hl;simp only[sL,zV,eU,go_sem,apB,apA,apC,hl]
 |false=>
  rw[h1]at hl;have e:decide ((8:Int)< (t.exps.length:Int))=decide (8<t.exps.length):=by grind
  simp only[sL,zV,eU,go_sem,apB,apA,apC,hl,e]
theorem Pk(m:List Nat):(ax m).map (fun r=>match r with|[.v (.int _ x)]=>x.toNat|_=>0)=m:=by
 grind[ax,List.map_map,List.map_congr_left,List.map_id']
theorem ZJ(m:List Int):(bw m).map (fun r=>match r with|[.v (.int _ x)]=>x|_=>0)=m:=by
 grind[bw,List.map_map,List.map_congr_left,List.map_id']
theorem ZK{l:List Rt}(h2:l.length<=100000):R F.slices_ContainsFunc_api_Term_api_Term_ [.sl 4 (cU l),.fn F.l24_few_1 [] []] []=some (B (l.any BZ),[]):=by
 let p:List AV->Bool:=fun row=>match row with|[.sl _ m1,.v (.bool n2),.sl _ m2,.v (.int _ e2)]=>BZ ⟨m1.map (fun r=>match r with|[.v (.int _ x)]=>x|_=>0),⟨n2,m2.map (fun r=>match r with|[.v (.int _ x)]=>x.toNat|_=>0),e2⟩⟩|_=>false
 have hp:∀t:Rt,p (eU t)=BZ t:=fun t=>by
  show BZ ⟨(bw t.exps).map _,⟨t.c.neg,(ax t.c.m).map _,t.c.e⟩⟩=_;rw[Pk,ZJ]
 have h1:=DF (k:=4) (g:=true) (f:=F.l24_few_1) (rows:=cU l) (p:=p) bR.2.1 bR.2.2 (bR.1.2.2.2 false) rfl (FW.1.2.1 false) (by grind[SA]) (fun row hr=>by
  simp only[cU,List.mem_map]at hr;obtain⟨t,ht,rfl⟩:=hr;have hd:=abQ (t:=t);refine⟨.agg (eU t),rfl,rfl,?_⟩;rw[hp];simp only[eU]at hd;simp only[eU,go_sem,hd])
 have h2:=AS (k:=4) dD.2.1 dD.2.2 (dD.1.2.2.2 false) rfl (bR.1.2.1 false) (bR.1.1 false) (by simp only[go_sem]) h1;have h3:(cU l).any p=l.any BZ:=by
  unfold cU;grind
 grind
def Va(a:Rp):Bool:=decide (a.vars<=4)&& (decide (a.terms.length<=12)&&!(a.terms.any BZ))
theorem adQ{a:Rp}:R F.l24_few [bH a] []=some (B (Va a),[]):=by
 refine aA Ww rfl ?_;unfold Va;by_cases h1:a.vars<=4
 ·have e1:(a.vars<=4)=True:=tt h1;by_cases h2:a.terms.length<=12
  ·have e2:((a.terms.length:Int)<=12)=True:=tt (by omega);rw[decide_eq_true h2,Bool.true_and];have hc:=ZK (l:=a.terms) (by omega);simp only[sI,yX,bH,go_sem,apB,apA,e1,e2,hc]
  ·have e2:((a.terms.length:Int)<=12)=False:=ff (by omega);rw[decide_eq_false h2,Bool.false_and];simp only[sI,yX,bH,go_sem,apB,apA,e1,e2]
 ·have e1:(a.vars<=4)=False:=ff h1;simp only[sI,yX,bH,go_sem,apB,apA,e1]
def DR(x:Ri):Bool:=BY x.lo||BY x.hi
theorem ZL{x:Ri}:R F.l24_near_1 [av x] []=some (B (DR x),[]):=by
 refine aA DA rfl ?_;have h1:=DQ (d:=x.lo);have h2:=DQ (d:=x.hi);simp only[ag,ak]at h1 h2;unfold DR;cases g1:BY x.lo with
 |true=>
  rw[g1]at h1;simp only[rg,xP,av,az,go_sem,apB,apA,apC,h1]
 |false=>
  rw[g1]at h1;simp only[rg,xP,av,az,go_sem,apB,apA,apC,h1,h2]
theorem ZM{l:List Ri}(h2:l.length<=100000):R F.slices_ContainsFunc_api_Interval_api_Interval_ [.sl 7 (aY l),.fn F.l24_near_1 [] []] []=some (B (l.any DR),[]):=by
 let p:List AV->Bool:=fun row=>match row with|[.v (.bool n1),.sl _ m1,.v (.int _ e1),.v (.bool n2),.sl _ m2,.v (.int _ e2),.v (.bool a)]=>DR ⟨⟨n1,m1.map (fun r=>match r with|[.v (.int _ x)]=>x.toNat|_=>0),e1⟩,⟨n2,m2.map (fun r=>match r with|[.v (.int _ x)]=>x.toNat|_=>0),e2⟩,a⟩|_=>false
 have hp:∀x:Ri,p (az x)=DR x:=fun x=>by
  show DR ⟨⟨x.lo.neg,(ax x.lo.m).map _,x.lo.e⟩,⟨x.hi.neg,(ax x.hi.m).map _,x.hi.e⟩,x.all⟩=_
  simp_all[Pk]
 have h1:=DF (k:=7) (g:=true) (f:=F.l24_near_1) (rows:=aY l) (p:=p) aJ.2.1 aJ.2.2 (aJ.1.2.2.2 false) rfl (DA.1.2.1 false) (by grind[xp]) (fun row hr=>by
  simp only[aY,List.mem_map]at hr;obtain⟨x,hx,rfl⟩:=hr;have hd:=ZL (x:=x);refine⟨av x,rfl,rfl,?_⟩;rw[hp];simp only[av,az]at hd;simp only[av,az,go_sem,hd])
 have h2:=AS (k:=7) be.2.1 be.2.2 (be.1.2.2.2 false) rfl (aJ.1.2.1 false) (aJ.1.1 false) (by simp only[go_sem]) h1;have h3:(aY l).any p=l.any DR:=by
  unfold aY;grind
 grind
def MY(l:List Ri):Bool:=decide (l.length<=8)&&!(l.any DR)
theorem abR{l:List Ri}:R F.l24_near [.sl 7 (aY l)] []=some (B (MY l),[]):=by
 refine aA Uz rfl ?_;unfold MY;by_cases h1:l.length<=8
 ·have e1:((l.length:Int)<=8)=True:=tt (by omega);rw[decide_eq_true h1,Bool.true_and];have hc:=ZM (l:=l) (by omega);simp only[vj,BF,go_sem,apB,apA,e1,hc]
 ·have e1:((l.length:Int)<=8)=False:=ff (by omega);rw[decide_eq_false h1,Bool.false_and];simp only[vj,BF,go_sem,e1]
structure Len1 (x:Ri):Prop where
 lo:Lb x.lo.m/\x.lo.m.length<=100000
 hi:Lb x.hi.m/\x.hi.m.length<=100000
def VI(x:Ri):Prop:=(vd x.lo=true/\Ok0 x.lo)/\(vd x.hi=true/\Ok0 x.hi)
theorem VI.len{x:Ri}(h:VI x):Len1 x:=⟨⟨h.1.2.1,Nat.le_trans (A5 h.1.1 h.1.2.1) (by decide)⟩,⟨h.2.2.1,Nat.le_trans (A5 h.2.1 h.2.2.1) (by decide)⟩⟩
theorem Vb:VI cB:=⟨bj,bj⟩
theorem abS{x y:Ri}{p:Int}:VI (j3 x y p):=by
 unfold j3;split
 ·unfold qi;split
  ·exact⟨⟨SF,Kh⟩,⟨SF,Kh⟩⟩
  ·exact Vb
 ·exact Vb
theorem adR{p:Int}{dom:List Ri}:∀ (l:List Rt) (s:Ri),VI s->VI (DP p dom l s):=by
 intro l;induction l with
 |nil=>exact fun s h=>h
 |cons t l ih=>exact fun s h=>ih _ abS
theorem Xz{a:Rp}{dom:List Ri}{p:Int}:VI (gZ a dom p):=by
 unfold gZ;split
 ·exact adR _ _ ⟨bj,bj⟩
 ·exact Vb
def Pm(a:Rp):Int:=if vp a=true then(match a.terms.getLast? with|none=>-1|some t=>bY t.exps)else-1
theorem MZ{a:Rp}(h:vp a=true):0<=a.vars/\a.vars<=8/\a.terms.length<=500/\vW a.vars none a.terms=true:=by
 simp_all[vp,Bool.and_eq_true,decide_eq_true_eq]
theorem EP{a:Rp}(h:vp a=true){t:Rt}(ht:t∈a.terms):sm t.exps/\(t.exps.length:Int)=a.vars/\vd t.c=true/\t.c.m.length≠0/\bY t.exps<=32:=by
 obtain⟨v1,v2,v3,v4⟩:=MZ h;obtain⟨c1,c2,c3,c4,c5⟩:=tI (EN _ _ v4 t ht);exact⟨⟨by omega,qm c4⟩,c1,c2,c3,c5⟩
theorem XA{a:Rp}(ok:OkP a):R F.poly_Degree [bH a] []=some (I (Pm a),[]):=by
 refine aA Mq rfl ?_;have hv:=DO ok;unfold Pm;simp only[bH]at hv;cases hb:vp a with
 |false=>
  rw[hb]at hv;simp only[lI,rj,bH,go_sem,apB,apA,apC,hv]
 |true=>
  rw[hb]at hv;obtain⟨v1,v2,v3,v4⟩:=MZ hb;by_cases h0:a.terms.length=0
  ·have e1:((a.terms.length:Int)=0)=True:=tt (by omega);have e4:a.terms.getLast?=none:=by
    grind
   rw[e4];simp only[lI,rj,bH,go_sem,apB,apA,apC,hv,e1]
  ·have e1:((a.terms.length:Int)=0)=False:=ff (by omega);have e2:IntKind.i64.wrap ((a.terms.length:Int)-1)=((a.terms.length-1:Nat):Int):=by grind[i64_in]
   have hlt:a.terms.length-1<a.terms.length:=by omega
   have e3:aV (cU a.terms) ((a.terms.length-1:Nat):Int)=some (.ipt (eU a.terms[a.terms.length-1])):=qk rfl (List.getElem?_eq_getElem hlt);have e4:a.terms.getLast?=some a.terms[a.terms.length-1]:=by grind
   obtain⟨c1,c2,c3,c4,c5⟩:=EP hb (List.getElem_mem hlt);rw[e4];have hd:=vU c1;simp only[eU]at e3;simp only[lI,rj,bH,go_sem,apB,apA,apC,hv,e1,e2,e3,hd]
def qL(x:Int):List Int->Nat->Int
 |[],_=>-1
 |y::l,i=>if x=y then i else qL x l (i+1)
theorem ZN{l:List Int}(h2:l.length<=100000)(x:Int):∀ (k i:Nat),i+k=l.length->∀ (s:af) (h:ac),s 0=.sl 1 (bw l)->s 1=I x->s 7=I l.length->s 8=I i->
  ∃hh,bL (am 0 [] (aD (aj R (aH false) cM) [0,1,7,8] [] s h)) (aj R (aH false) (.seq (.ops [4] [co 4 (.mv (.c (I (-1))))]) (.ret)))=some (.ret,⟨upd (fun _=>.any) 4 (I (qL x (l.drop i) i)),hh⟩):=by
 intro k;induction k with
 |zero=>
  intro i hi s h h0 h1 h7 h8;have e1:((i:Int)<l.length)=False:=ff (by omega);rw[List.drop_eq_nil_of_le (by omega),ai];refine⟨?hh0,?_⟩;rotate_left
  ·simp only[cM,qL,go_sem,apB,apA,apJ,apC,apD,apF,apH,apI,apG,apE,apK,h0,h1,h7,h8,e1];rfl
 |succ k ih=>
  intro i hi s h h0 h1 h7 h8;have hlt:i<l.length:=by omega
  have e1:((i:Int)<l.length)=True:=tt (by omega);have e2:aV (bw l) (i:Int)=some (.ipt [I l[i]]):=lX rfl (List.getElem?_eq_getElem hlt);have e5:IntKind.i64.wrap ((i:Int)+1)=((i+1:Nat):Int):=wi (by omega) (by omega);have ih':=ih (i+1) (by omega);rw[List.drop_eq_getElem_cons hlt,ai];unfold qL;generalize l[i]=y at e2⊢;by_cases hxy:x=y
  ·have e3:(x=y)=True:=tt hxy;refine⟨?hh1,?_⟩;rotate_left
   ·simp only[cM,go_sem,apB,apA,apJ,apC,apD,apF,apH,apI,apG,apE,apK,h0,h1,h7,h8,e1,e2,e3];rfl
  ·have e3:(x=y)=False:=ff hxy;simp only[cM,go_sem,apB,apA,apJ,apC,apD,apF,apH,apI,apG,apE,apK,h0,h1,h7,h8,e1,e2,e3,e5]at ih'⊢;exact ih' _ _ rfl rfl rfl rfl
theorem ZO{l:List Int}(h2:l.length<=100000){x:Int}:R F.slices_Index_int_int_ [.sl 1 (bw l),I x] []=some (I (qL x l 0),[]):=by
 refine aA yN rfl ?_;have h:=ZN h2 x l.length 0 (Nat.zero_add _);have h':∀ (S:af) (H:ac) (X:Option (Ex×St)),bL (am 0 [] (aD (aj R (aH false) cM) [0,1,7,8] [] S H)) (aj R (aH false) (.seq (.ops [4] [co 4 (.mv (.c (I (-1))))]) (.ret)))=X->S 0=.sl 1 (bw l)->S 1=I x->S 7=I l.length->S 8=I 0->∃hh,X=some (.ret,⟨upd (fun _=>.any) 4 (I (qL x l 0)),hh⟩):=fun S H X hX=>by
  rw[←hX];exact h S H
 simp only[jD,qt,go_sem,apB,apA,apJ,apC,apD,apF,apH,apI,apG,apE,apK];generalize hB:bL (am 0 [] (aD _ _ _ _ _)) _=X;obtain⟨hh,h3⟩:=h' _ _ _ hB rfl rfl rfl rfl;rw[h3];simp only[go_sem,apB,apA,apJ,apC,apD,apF,apH,apI,apG,apE,apK]
def LD:Option Rd->List AV
 |none=>[B false,.emp,I 0]
 |some d=>ak d
def yC(l:List (Option Rd)):List (List AV):=l.map LD
@[go_sem] theorem anj(l:List (Option Rd)):(yC l).length=l.length:=by simp[yC]
theorem abT{l:List (Option Rd)}{i:Nat}{o:Option Rd}(h:l[i]?=some o):(yC l)[i]?=some (LD o):=by grind[yC]
theorem abU(l:List (Option Rd))(i:Nat)(d:Rd):(yC l).set i (ak d)=yC (l.set i (some d)):=by simp[yC,List.map_set,LD]
theorem abV(n:Nat):List.replicate n [B false,.emp,I 0]=yC (List.replicate n none):=by simp[yC,LD]
def SG(l:List (Option Rd)):List Rd:=l.map fun o=>o.getD aK
theorem abW(l:List (Option Rd)):(yC l).map (dB [.o 0 [],.o 2 [],.o 0 []])=zp (SG l):=by
 simp only[yC,SG,zp,List.map_map];refine List.map_congr_left fun o _=>?_;cases o with
 |none=>simp only[Function.comp,LD,ak,aK,Option.getD,go_sem]
 |some d=>simp only[Function.comp,LD,ak,Option.getD,go_sem]
theorem abX(o:Option Rd)(d:Rd):(((LD o).set 0 (B d.neg)).set 1 (lm d.m)).set 2 (I d.e)=ak d/\(3<=(LD o).length)=True:=by
 cases o<;>exact⟨rfl,tt (Nat.le_refl 3)⟩
def uS:List Rt->List (Option Rd)->List (Option Rd)
 |[],o=>o
 |t::l,o=>uS l (o.set (qL 1 t.exps 0+1).toNat (some t.c))
theorem SH(x:Int):∀ (l:List Int) (i:Nat),-1<=qL x l i/\qL x l i<l.length+i
 |[],i=>by
  grind[qL,List.length_nil]
 |y::l,i=>by
  unfold qL;have:=SH x l (i+1);grind
theorem ZP{a:Rp}(hv:∀t∈a.terms,(t.exps.length:Int)=a.vars)(h8:a.vars<=8)(h5:a.terms.length<=500):∀ (k i:Nat),i+k=a.terms.length->∀ (o:List (Option Rd)),(o.length:Int)=a.vars+1->∀ (s:af) (h:ac),
  s 4=.rsl 18 none 3 0 o.length->s 20=.sl 4 (cU a.terms)->s 21=I a.terms.length->s 22=I i->h 1=.bx [I a.vars,.sl 4 (cU a.terms)]->h 18=.ar 3 (yC o)->
  ∃hh,am 0 [4] (aD (aj R (aH false) iS) [4,20,21,22] [1,18] s h)=some (.normal,⟨upd (fun _=>.any) 4 (.rsl 18 none 3 0 o.length),hh⟩)/\hh 18=.ar 3 (yC (uS (a.terms.drop i) o)):=by
 intro k;induction k with
 |zero=>
  intro i hi o ho s h h4 h20 h21 h22 k1 k18;have e1:((i:Int)<a.terms.length)=False:=ff (by omega);rw[List.drop_eq_nil_of_le (by omega),ai];refine⟨?hh0,?_,?_⟩;rotate_left
  ·simp only[iS,go_sem,apB,apA,apJ,apC,apD,apF,apH,apI,apG,apE,apK,h4,h20,h21,h22,k1,k18,e1];rfl
  ·rfl
 |succ k ih=>
  intro i hi o ho s h h4 h20 h21 h22 k1 k18;have hlt:i<a.terms.length:=by omega
  have e1:((i:Int)<a.terms.length)=True:=tt (by omega);have e2:aV (cU a.terms) (i:Int)=some (.ipt (eU a.terms[i])):=qk rfl (List.getElem?_eq_getElem hlt);have e5:IntKind.i64.wrap ((i:Int)+1)=((i+1:Nat):Int):=wi (by omega) (by omega);have c1:=hv a.terms[i] (List.getElem_mem hlt);rw[List.drop_eq_getElem_cons hlt,ai];have ih':=ih (i+1) (by omega);unfold uS;generalize a.terms[i]=t at e2 c1⊢;have hx:=ZO (l:=t.exps) (x:=1) (by omega);obtain⟨x1,x2⟩:=SH 1 t.exps 0;have e6:IntKind.i64.wrap (qL 1 t.exps 0+1)=((qL 1 t.exps 0+1).toNat:Int):=by grind[i64_in]
  generalize hn:(qL 1 t.exps 0+1).toNat=n at e6⊢;have hn2:n<o.length:=by omega
  have e7:(0<=(n:Int))=True:=tt (by omega);have e8:((n:Int)< (o.length:Int))=True:=tt (by omega);have e9:=abT (List.getElem?_eq_getElem hn2);obtain⟨e10,e11⟩:=abX o[n] t.c;have ih2:=ih' (o.set n (some t.c)) (by grind);rw[List.length_set]at ih2;simp only[eU]at e2;simp only[iS,go_sem,apB,apA,apJ,apC,apD,apF,apH,apI,apG,apE,apK,h4,h20,h21,h22,k1,k18,e1,e2,hx,e6,e7,e8,e9,e10,e11,e5,abU,Int.toNat_natCast,Nat.zero_add];exact ih2 _ _ rfl rfl rfl rfl rfl rfl
theorem GT:∀ (l:List Rt) (o:List (Option Rd)),(uS l o).length=o.length
 |[],o=>rfl
 |t::l,o=>by
  unfold uS;rw[GT l,List.length_set]
def zD(a:Rp):Bool:=vp a&&decide (Pm a<=1)
def B0(a:Rp):List Rd:=SG (uS a.terms (List.replicate (a.vars.toNat+1) none))
def Pn(a:Rp):AV:=if zD a=true then .tup [wL (B0 a),B true]else .tup [wL [],B false]
theorem LE{a:Rp}(ok:OkP a):R F.bound_Linear [bH a] []=some (Pn a,[]):=by
 refine aA JG rfl ?_;have hv:=DO ok;have hd:=XA ok;unfold Pn zD;simp only[bH]at hv hd;cases hb:vp a with
 |false=>
  rw[hb]at hv;simp only[kB,pL,bH,go_sem,apB,apA,apJ,apC,apD,apF,apH,apI,apG,apE,apK,hv,wL,zp]
 |true=>
  rw[hb]at hv;rw[Bool.true_and];generalize hg:Pm a=g at hd⊢;by_cases h1:g<=1
  ·have e1:(1<g)=False:=ff (by omega);rw[if_pos (decide_eq_true h1)];obtain⟨v1,v2,v3,v4⟩:=MZ hb;have hl:=ZP (a:=a) (fun t ht=>(EP hb ht).2.1) v2 v3 a.terms.length 0 (Nat.zero_add _) (List.replicate (a.vars.toNat+1) none) (by grind);simp only[List.drop_zero,Int.natCast_zero,List.length_replicate]at hl;have hl2:=GT a.terms (List.replicate (a.vars.toNat+1) none);have hn:=abW (uS a.terms (List.replicate (a.vars.toNat+1) none));unfold B0;generalize uS a.terms (List.replicate (a.vars.toNat+1) none)=O at hl hl2 hn⊢;rw[List.length_replicate]at hl2;generalize hN:a.vars.toNat+1=N at hl hl2⊢;have e2:IntKind.i64.wrap (a.vars+1)=(N:Int):=by grind[i64_in]
   have e3:=l6 (i:=(N:Int)) (j:=(N:Int)) (l:=N) (c:=N) rfl rfl (Nat.le_refl _) (by omega);have e4:(N*40<=140737488355328)=True:=tt (by omega);have e5:(0+N<=O.length)=True:=tt (by omega);have e6:(N=O.length)=True:=tt hl2.symm;have h':∀ (S:af) (H:ac) (X:Option (Ex×St)),am 0 [4] (aD (aj R (aH false) iS) [4,20,21,22] [1,18] S H)=X->S 4=.rsl 18 none 3 0 N->S 20=.sl 4 (cU a.terms)->S 21=I a.terms.length->S 22=I 0->H 1=.bx [I a.vars,.sl 4 (cU a.terms)]->H 18=.ar 3 (yC (List.replicate N none))->
     ∃hh,X=some (.normal,⟨upd (fun _=>.any) 4 (.rsl 18 none 3 0 N),hh⟩)/\hh 18=.ar 3 (yC O):=fun S H X hX=>by
    rw[←hX];exact hl S H
   simp only[kB,pL,bH,go_sem,apB,apA,apJ,apC,apD,apF,apH,apI,apG,apE,apK,hv,hd,e1,e2,e3,e4,abV];generalize hB:am 0 [4] (aD _ _ _ _ _)=X;obtain⟨hh,g0,g1⟩:=h' _ _ _ hB rfl rfl rfl rfl rfl rfl;rw[g0];simp only[go_sem,apB,apA,apJ,apC,apD,apF,apH,apI,apG,apE,apK,g1,e5,e6,hn,wL]
  ·have e1:(1<g)=True:=tt (by omega);rw[if_neg (fun h=>h1 (of_decide_eq_true h))];simp only[kB,pL,bH,go_sem,apB,apA,apJ,apC,apD,apF,apH,apI,apG,apE,apK,hv,hd,e1,wL,zp]
def jO(a b:Rd):Rd×Int:=if(vd a&&vd b)=true then eH (dJ (zI a*zI b) (-32768))else(aK,1)
def nX(a b:Rd):Rd×Int:=if(vd a&&vd b)=true then eH (dJ (zI a+zI b) (-16384))else(aK,1)
theorem ER{z f:Int}:vd (eH (dJ z f)).1=true/\Ok0 (eH (dJ z f)).1:=by
 unfold eH dJ;by_cases h:lW (ae (aa (bA (decide (z<0)) z.natAbs f).m)) (bA (decide (z<0)) z.natAbs f).e=true
 ·rw[if_pos h];have hv:=EK h;have hb:=uO (decide (z<0)) z.natAbs f;exact⟨hv,hb,Nat.lt_of_le_of_lt (A5 hv hb) (by decide)⟩
 simp_all[if_neg,bj]
theorem ES(a b:Rd):vd (jO a b).1=true/\Ok0 (jO a b).1:=by
 grind[jO,ER,bj]
theorem Kj(a b:Rd):vd (nX a b).1=true/\Ok0 (nX a b).1:=by
 grind[nX,ER,bj]
theorem SI{d:Rd}(h:vd d=true)(h0:d.m.length≠0):aa d.m%2=1:=by
 obtain⟨h1,h2,h3,h4⟩:=vS h h0;cases hm:d.m with
 |nil=>grind
 |cons x l=>
  grind[aa]
theorem Po{x y:Nat}(hx:x≠0)(hy:y≠0):ae x+ae y-2<ae (x*y):=by
 have h1:=fk hx;have h2:=fk hy;have h3:2^ (ae x-1)<=x:=jr.1 (by omega);have h4:2^ (ae y-1)<=y:=jr.1 (by omega);rw[jr,show ae x+ae y-2=(ae x-1)+(ae y-1)by omega,Nat.pow_add];exact Nat.mul_le_mul h3 h4
theorem abY{a b:Rd}(oa:Ok0 a)(ob:Ok0 b):MW a b=rV (jO a b):=by
 unfold MW jO;by_cases hv:vd a=true/\vd b=true
 ·obtain⟨va,vb⟩:=hv;rw[if_pos ⟨va,vb⟩,va,vb,Bool.true_and,if_pos rfl,←Xu oa ob va vb];by_cases h0:a.m.length=0\/b.m.length=0
  ·rw[if_pos h0];have:aa a.m*aa b.m=0:=by
    rcases h0 with h0|h0
    ·rw[List.length_eq_zero_iff.1 h0];exact Nat.zero_mul _
    ·rw[List.length_eq_zero_iff.1 h0];exact Nat.mul_zero _
   rw[this,pu];rfl
  ·rw[if_neg h0];have a0:a.m.length≠0:=fun h=>h0 (.inl h);have b0:b.m.length≠0:=fun h=>h0 (.inr h);have x0:=dy va a0;have y0:=dy vb b0;by_cases hb:4096<ae (aa a.m)+ae (aa b.m)-1
   ·rw[if_pos hb];have h1:=Po x0 y0;have ho:aa a.m*aa b.m%2=1:=by grind[Nat.mul_mod,SI]
    have ht:=adN ho 0;rw[Nat.pow_zero,Nat.mul_one]at ht;obtain⟨g1,g2,g3,g4⟩:=yy (neg:=a.neg !=b.neg) (e:=a.e+b.e) (Nat.mul_ne_zero x0 y0);unfold eH;rw[if_neg]
    ·rfl
    ·intro h2;rw[g1,ht,Nat.pow_zero,Nat.div_one]at h2;have h3:=(EJ h2 (by omega)).1;omega
   simp_all[if_neg,J3]
 ·rw[if_neg hv,if_neg]
  ·rfl
  grind
theorem SJ{a b:Rd}(oa:Ok0 a)(ob:Ok0 b):R F.dyadic_Mul [ag a,ag b] []=some (rV (jO a b),[]):=by
 grind[abY,abv]
def LG(m:Rd)(x:Ri):Rd:=if bS m<0 then x.hi else x.lo
def LH(m:Rd)(x:Ri):Rd:=if bS m<0 then x.lo else x.hi
def Vc(c:Rd)(a b:Rd×Int)(p:Int):Ri:=if a.2=0/\b.2=0 then qi (cT c a.1 p false) (cT c b.1 p true)else cB
def B1(c m:Rd)(x:Ri)(p:Int):Ri:=Vc c (jO m (LG m x)) (jO m (LH m x)) p
theorem abZ{c m:Rd}{x:Ri}(oc:Ok0 c)(om:Ok0 m)(vm:vd m=true)(ox:OkI x){p:Int}:R F.bound_line [ag c,ag m,av x,I p] []=some (av (B1 c m x p),[]):=by
 refine aA Ot rfl ?_;have hs:=yu om vm;have hw:=BX;unfold B1 Vc qi;simp only[ag,ak]at hs;simp only[av,az,cB]at hw;have key:∀lo hi:Rd,lo=LG m x->hi=LH m x->Ok0 lo->Ok0 hi->gM false eK.rs eK.res 0 (aj R (aH false) eK.body (oO [ag c,ag m,av x,I p]) fun _=>.dead)=some (av (if(jO m lo).2=0/\(jO m hi).2=0 then(if(cT c (jO m lo).1 p false).2=0/\(cT c (jO m hi).1 p true).2=0 then⟨(cT c (jO m lo).1 p false).1,(cT c (jO m hi).1 p true).1,false⟩else cB)else cB),[]):=by
  intro lo hi e1 e2 ol oh;have h1:=SJ om ol;have h2:=SJ om oh;have o1:=(ES m lo).2;have o2:=(ES m hi).2;generalize jO m lo=A at h1 o1⊢;generalize jO m hi=D at h2 o2⊢;have h3:=Ig oc o1 (p:=p);have h4:=O3 oc o2 (p:=p);generalize cT c A.1 p false=Y at h3⊢;generalize cT c D.1 p true=Z at h4⊢;obtain⟨A1,A2⟩:=A;obtain⟨D1,D2⟩:=D;obtain⟨Y1,Y2⟩:=Y;obtain⟨Z1,Z2⟩:=Z;unfold LG at e1;unfold LH at e2;simp only[rV,ag,ak]at h1 h2 h3 h4;have hc:((bS m<0)=True/\lo=x.hi/\hi=x.lo)\/((bS m<0)=False/\lo=x.lo/\hi=x.hi):=by
   grind
  clear e1 e2;rcases hc with⟨e0,rfl,rfl⟩| ⟨e0,rfl,rfl⟩
  all_goals
   by_cases a1:A2=0
   ·have f1:(A2=0)=True:=tt a1;by_cases a2:D2=0
    ·have f2:(D2=0)=True:=tt a2;rw[if_pos ⟨a1,a2⟩];by_cases a3:Y2=0
     ·have f3:(Y2=0)=True:=tt a3;by_cases a4:Z2=0
      ·have f4:(Z2=0)=True:=tt a4;rw[if_pos ⟨a3,a4⟩];simp only[eK,lG,ag,ak,av,az,cB,go_sem,apB,apA,apJ,apC,apD,apF,apH,apI,apG,apE,apK,hs,e0,h1,h2,h3,h4,f1,f2,f3,f4]
      ·have f4:(Z2=0)=False:=ff a4;rw[if_neg (fun h=>a4 h.2)];simp only[eK,lG,ag,ak,av,az,cB,go_sem,apB,apA,apJ,apC,apD,apF,apH,apI,apG,apE,apK,hs,e0,h1,h2,h3,h4,f1,f2,f3,f4,hw]
     ·have f3:(Y2=0)=False:=ff a3;rw[if_neg (fun h=>a3 h.1)];simp only[eK,lG,ag,ak,av,az,cB,go_sem,apB,apA,apJ,apC,apD,apF,apH,apI,apG,apE,apK,hs,e0,h1,h2,h3,h4,f1,f2,f3,hw]
    ·have f2:(D2=0)=False:=ff a2;rw[if_neg (fun h=>a2 h.2)];simp only[eK,lG,ag,ak,av,az,cB,go_sem,apB,apA,apJ,apC,apD,apF,apH,apI,apG,apE,apK,hs,e0,h1,h2,h3,h4,f1,f2,hw]
   ·have f1:(A2=0)=False:=ff a1;rw[if_neg (fun h=>a1 h.1)];simp only[eK,lG,ag,ak,av,az,cB,go_sem,apB,apA,apJ,apC,apD,apF,apH,apI,apG,apE,apK,hs,e0,h1,h2,h3,h4,f1,hw]
 by_cases hm:bS m<0
 ·exact key _ _ rfl rfl (by unfold LG;rw[if_pos hm];exact ox.hi) (by unfold LH;rw[if_pos hm];exact ox.lo)
 ·exact key _ _ rfl rfl (by unfold LG;rw[if_neg hm];exact ox.lo) (by unfold LH;rw[if_neg hm];exact ox.hi)
theorem SK:∀ (l:List Rt) (o:List (Option Rd)),(∀t∈l,vd t.c=true/\Ok0 t.c)->(∀x∈o,∀d,x=some d->vd d=true/\Ok0 d)->∀x∈uS l o,∀d,x=some d->vd d=true/\Ok0 d
 |[],o,_,ho=>ho
 |t::l,o,hl,ho=>by
  unfold uS;refine SK l _ (fun u hu=>hl u (List.mem_cons_of_mem _ hu)) fun x hx d hd=>?_;rcases List.mem_or_eq_of_mem_set hx with h|h
  ·exact ho x h d hd
  ·rw[h]at hd;obtain rfl:=Option.some.inj hd;exact hl t (List.mem_cons_self ..)
theorem SL{a:Rp}(oa:OkP a)(hv:vp a=true):(∀d∈B0 a,vd d=true/\Ok0 d)/\(B0 a).length=a.vars.toNat+1:=by
 constructor
 ·intro d hd;simp only[B0,SG,List.mem_map]at hd;obtain⟨o,ho,rfl⟩:=hd;have:=SK a.terms (List.replicate (a.vars.toNat+1) none) (fun t ht=>⟨(EP hv ht).2.2.1,(oa.t t ht).c⟩) (fun x hx d hd=>by
   rw[List.eq_of_mem_replicate hx]at hd;exact nomatch hd) o ho
  cases o with
  |none=>exact bj
  |some d=>exact this d rfl
 ·simp[B0,SG,GT]
theorem adS(a l):aV (a::l) 0=some (.ipt a):=by simp[aV]
theorem adT(a b l):aV (a::b::l) 1=some (.ipt b):=by simp[aV]
theorem ZQ{a:Rp}{dom:List Ri}(oa:OkP a)(od:∀x∈dom,OkI x){p:Int}(hf:(jh a dom&&bK p)=true)(hl:zD a=true)(h1:a.vars=1){c m:Rd}{x:Ri}(hlin:B0 a=[c,m])(hdom:dom=[x]):
  R F.bound_Bernstein [bH a,.sl 7 (aY dom),I p] []=some (av (B1 c m x p),[]):=by
 refine aA gD rfl ?_;have h2:dom.length<=100000:=by rw[hdom];exact(by decide:1<=100000)
 have hf1:=EM oa od h2 (p:=p);rw[hf]at hf1;have hL:=LE oa;unfold Pn at hL;rw[if_pos hl,hlin]at hL;have hv:vp a=true:=by
  simp only[zD,Bool.and_eq_true]at hl;exact hl.1
 obtain⟨k1,k2⟩:=SL oa hv;rw[hlin]at k1;have kc:=k1 c (List.mem_cons_self ..);have km:=k1 m (List.mem_cons_of_mem _ (List.mem_cons_self ..));have hn:=abZ kc.2 km.2 km.1 (od x (by rw[hdom];exact List.mem_cons_self ..)) (p:=p);generalize B1 c m x p=z at hn⊢;subst hdom;have e1:(a.vars=1)=True:=tt h1;simp only[bH,aY,List.map_cons,List.map_nil,az]at hf1 hL;simp only[wL,zp,List.map_cons,List.map_nil,ak]at hL;simp only[ag,ak,av,az]at hn;simp only[eC,gA,bH,aY,List.map_cons,List.map_nil,av,az,go_sem,apB,apA,apJ,apC,apD,apF,apH,apI,apG,apE,apK,hf1,hL,hn,e1,adS,adT]
def aqf(x:Rd):Nat->Rd->Option Rd
 |0,c=>some c
 |n+1,c=>if(jO c x).2=0 then aqf x n (jO c x).1 else none
def ap3:List Int->List Rd->Rd->Option Rd
 |e::es,x::xs,c=>(aqf x e.toNat c).bind fun d=>ap3 es xs d
 |_,_,c=>some c
def aqi(xs:List Rd):List Rt->Rd->Rd×Int
 |[],s=>(s,0)
 |t::l,s=>match ap3 t.exps xs t.c with
  |none=>(aK,9)
  |some d=>if(nX s d).2=0 then aqi xs l (nX s d).1 else(aK,9)
def ars(a:Rp)(xs:List Rd):Bool:=vp a&& (decide ((xs.length:Int)=a.vars)&&xs.all vd)
def apN(a:Rp)(xs:List Rd):Rd×Int:=if ars a xs=true then aqi xs a.terms aK else(aK,1)
theorem ET{z:Int}{j:Nat}(h:(eH (dJ z (-16384-j))).2=0):zI (eH (dJ z (-16384-j))).1*2^j=z:=by
 unfold eH at h⊢;by_cases hr:lW (ae (aa (dJ z (-16384-j)).m)) (dJ z (-16384-j)).e=true
 ·rw[if_pos hr];unfold dJ at hr⊢;by_cases h0:z.natAbs=0
  ·have:z=0:=by omega
   rw[this,bP rfl,Int.zero_mul]
  ·obtain⟨g1,g2,g3,g4⟩:=yy (neg:=decide (z<0)) (e:=-16384- (j:Int)) h0;obtain⟨t1,t2⟩:=uK h0;have hp:ae (aa (bA (decide (z<0)) z.natAbs (-16384-j)).m)≠0:=by
    grind[fk]
   have he:=EJ hr hp;rw[mQ h0];unfold zI mg;rw[aL];have ht:(-16384- (j:Int)+(tz z.natAbs:Nat)+16384).toNat+j=tz z.natAbs:=by omega
   generalize(-16384- (j:Int)+(tz z.natAbs:Nat)+16384).toNat=k at ht⊢;have hm:(((z.natAbs/2^tz z.natAbs*2^k:Nat):Int))*2^j=z.natAbs:=by
    have:z.natAbs/2^tz z.natAbs*2^k*2^j=z.natAbs:=by
     grind[Nat.mul_assoc,Nat.pow_add,Nat.mul_comm]
    grind
   grind
 grind
theorem ab0{a b:Rd}(h:(nX a b).2=0):zI (nX a b).1=zI a+zI b:=by
 unfold nX at h⊢;split at h
 ·have:=ET (z:=zI a+zI b) (j:=0) h;grind
 omega
theorem ab1{a b:Rd}(h:(jO a b).2=0):zI (jO a b).1*2^16384=zI a*zI b:=by
 unfold jO at h⊢;split at h
 ·rename_i h1;rw[if_pos h1];exact ET (z:=zI a*zI b) (j:=16384) h
 omega
theorem adU{q t:List Int}(h:dH q t<0):bY q<=bY t:=by
 unfold dH bD at h;omega
theorem SM{v:Int}:∀ (l:List Rt) (pr:Option Rt),vW v pr l=true->∀u∈l.getLast?,∀t∈l,bY t.exps<=bY u.exps
 |[],_,_,u,hu,_,_=>nomatch hu
 |[t],_,_,u,hu,w,hw=>by
  grind
 |t::s::l,pr,h,u,hu,w,hw=>by
  have h2:vW v (some t) (s::l)=true:=by
   simp_all[vW,Bool.and_eq_true]
  have hu2:u∈ (s::l).getLast?:=by grind
  have ih:=SM (s::l) (some t) h2 u hu2;rcases List.mem_cons.1 hw with h3|h3
  ·rw[h3];unfold vW at h2;simp only[Bool.and_eq_true]at h2;have h4:dH t.exps s.exps<0:=of_decide_eq_true h2.2.1;exact Int.le_trans (adU h4) (ih s (List.mem_cons_self ..))
  grind
theorem ab2{a:Rp}(h:zD a=true):vp a=true/\∀t∈a.terms,bY t.exps<=1:=by
 simp only[zD,Bool.and_eq_true,decide_eq_true_eq]at h;refine⟨h.1,fun t ht=>?_⟩;have h2:=h.2;unfold Pm at h2;rw[if_pos h.1]at h2;cases hl:a.terms.getLast? with
 |none=>grind
 |some u=>
  rw[hl]at h2;exact Int.le_trans (SM a.terms none (MZ h.1).2.2.2 u (by omega) t ht) h2
theorem ab3{t:Rt}(h:(t.exps.length:Int)=1):∃e,t.exps=[e]:=by
 match t.exps,h with
 |[e],_=>grind
 |[],h=>grind
 |_::_::l,h=>grind
theorem DS{q:Nat}{u:Int}(hu:-16384<=u)(h:(eH (bA false q u)).2=0):zI (eH (bA false q u)).1=((q*2^ (u+16384).toNat:Nat):Int):=by
 have e1:bA false q u=dJ ((q*2^ (u+16384).toNat:Nat):Int) (-16384- (0:Nat)):=by
  unfold dJ;rw[decide_eq_false (by omega),Int.natAbs_natCast,tC];grind
 rw[e1]at h⊢;have:=ET (j:=0) h;omega
theorem EU{q:Nat}{n:Nat}(h:n<ae q):2^n<=q:=by
 refine Nat.le_of_not_lt fun h1=>?_;have:=bt.2 h1;omega
theorem B3{M:Nat}{p f:Int}{s t:Nat}{more w:Bool}(h0:M≠0)(hp:8<=p/\p<=512)(hf:f+16384=(s:Int)-t)(hm:more=true->p< (ae M:Nat))(h:(bJ M f more p w).2=0):
  ∃n:Nat,zI (bJ M f more p w).1=(n:Int)/\(w=true->(M+more.toNat)*2^s<=n*2^t)/\(w=false->n*2^t<=M*2^s):=by
 obtain⟨u,hu⟩:∃u,dW M f p=u:=⟨_,rfl⟩;have hu1:-16384<=u/\f+(ae M:Nat)-p<=u/\(u=-16384\/u=f+(ae M:Nat)-p):=by
  grind[dW]
 unfold bJ at h⊢;rw[hu]at h⊢;obtain⟨q,hq⟩:∃q,kO w (nV M f more u)=q:=⟨_,rfl⟩;rw[hq]at h⊢;have hT:(w=true->(M+more.toNat)*2^s<=q*2^ ((u+16384).toNat+t))/\(w=false->q*2^ ((u+16384).toNat+t)<=M*2^s):=by
  unfold nV at hq;by_cases h1:u<=f
  ·have hmf:more=false:=by
    grind
   subst hmf;have hq2:q=M*2^ (f-u).toNat:=by
    grind[kO]
   rw[hq2,Nat.mul_assoc,←Nat.pow_add,show(f-u).toNat+((u+16384).toNat+t)=s by omega];grind
  ·rw[if_neg h1]at hq;obtain⟨d,hd⟩:∃d,(u-f).toNat=d:=⟨_,rfl⟩;rw[hd]at hq;rw[show(u+16384).toNat+t=d+s by omega,Nat.pow_add,←Nat.mul_assoc];have hd:=Nat.div_add_mod M (2^d);have hm:=Nat.mod_lt M (Nat.two_pow_pos d);unfold kO at hq;constructor
   ·intro hw;subst hw;refine Nat.mul_le_mul_right _ ?_;by_cases hz:(more||decide (M%2^d≠0))=true
    ·rw[hz,Bool.and_true,if_pos rfl]at hq;subst hq;have:=Bool.toNat_le more;grind
    grind
   ·intro hw;subst hw;subst hq;refine Nat.mul_le_mul_right _ ?_;grind
 obtain⟨h1,h2⟩:=hT;unfold qJ at h⊢;by_cases hb:16384< (ae q:Int)+u
 ·rw[if_pos hb]at h⊢;cases w with
  |true=>grind
  |false=>
   refine⟨_,DS (by omega) h,fun hw=>absurd hw Bool.false_ne_true,fun _=>?_⟩;have h3:=h2 rfl;have h4:2^ (32768+t)<=M*2^s:=by
    by_cases hb0:ae q=0
    ·have hbm:=fk h0;have h5:=EU (show ae M-1<ae M by omega);refine Nat.le_trans ?_ (Nat.mul_le_mul_right _ h5);rw[←Nat.pow_add];exact Nat.pow_le_pow_right (by decide) (by omega)
    ·have h5:=EU (show ae q-1<ae q by omega);refine Nat.le_trans ?_ (Nat.le_trans (Nat.mul_le_mul_right _ h5) h3);rw[←Nat.pow_add];exact Nat.pow_le_pow_right (by decide) (by omega)
   have h7:(2^p.toNat-1)*2^ (16384-p+16384).toNat*2^t<=2^ (32768+t):=by
    rw[Nat.mul_assoc,←Nat.pow_add];refine Nat.le_trans (Nat.mul_le_mul_right _ (Nat.sub_le _ 1)) ?_;rw[←Nat.pow_add];exact Nat.pow_le_pow_right (by decide) (by omega)
   omega
 ·rw[if_neg hb]at h⊢;refine⟨_,DS hu1.1 h,fun hw=>?_,fun hw=>?_⟩
  all_goals grind
theorem Kk{M:Nat}{f p:Int}{more w:Bool}:vd (bJ M f more p w).1=true:=by
 have hc:∀ (q:Nat) (u:Int),vd (eH (bA false q u)).1=true:=fun q u=>by
  have:=(ER (z:=(q:Int)) (f:=u)).1;grind[dJ,decide_eq_false,Int.natAbs_natCast]
 grind[bJ,qJ,vd,aK]
theorem EV{z p:Int}{j:Nat}{up:Bool}(hp:8<=p/\p<=512)(h:(eJ z (-16384- (j:Int)) p up).2=0):(up=true->z<=zI (eJ z (-16384- (j:Int)) p up).1*2^j)/\(up=false->zI (eJ z (-16384- (j:Int)) p up).1*2^j<=z):=by
 unfold eJ at h⊢;by_cases h0:z=0
 ·rw[if_pos h0,bP rfl,Int.zero_mul,h0];omega
 ·unfold gP at h⊢;have key:∀w:Bool,(bJ z.natAbs (-16384- (j:Int)) false p w).2=0->∃n:Nat,zI (bJ z.natAbs (-16384- (j:Int)) false p w).1=(n:Int)/\(w=true->(z.natAbs:Int)<=(n:Int)*2^j)/\(w=false->(n:Int)*2^j<=(z.natAbs:Int)):=fun w hc=>by
   obtain⟨n,g1,g2,g3⟩:=B3 (s:=0) (t:=j) (by omega) hp (by omega) (fun h=>absurd h Bool.false_ne_true) hc;refine⟨n,g1,fun hw=>?_,fun hw=>?_⟩
   all_goals grind
  by_cases hn:z<0
  ·grind[kh,Kk,Int.neg_mul]
  grind
theorem ab4{c:Rd}{p:Int}(vc:vd c=true)(hp:bK p=true)(h:(dU c p false).2=0):zI (dU c p false).1<=zI c:=by
 have hp2:8<=p/\p<=512:=by
  simp_all[bK,Bool.and_eq_true,decide_eq_true_eq]
 have hf:aX p [c]=0:=by grind[aX]
 unfold dU at h⊢;rw[if_pos hf]at h⊢;have:=(EV (j:=0) hp2 h).2 rfl;grind
theorem ab5{c:Rd}{p:Int}(vc:vd c=true)(hp:bK p=true)(h:(dU c p true).2=0):zI c<=zI (dU c p true).1:=by
 have hp2:8<=p/\p<=512:=by
  simp_all[bK,Bool.and_eq_true,decide_eq_true_eq]
 have hf:aX p [c]=0:=by grind[aX]
 unfold dU at h⊢;rw[if_pos hf]at h⊢;have:=(EV (j:=0) hp2 h).1 rfl;grind
def qw(T V:Nat):Nat:=min 4294967295 (T/V)
theorem ZR{T L V2 M v w k W V:Nat}(hW:W=T*4294967296^k+L)(hV:V=V2*4294967296^k+M)(hL:L<4294967296^k)(hM:M<4294967296^k)(h2:V2=v*4294967296+w)(hv:2147483648<=v)(hlt:W<4294967296*V):
  W/V<=qw T V2/\qw T V2<=W/V+1:=by
 generalize 4294967296^k=b at*
 have hV2:9223372036854775808<=V2:=by omega
 have hVp:0<V:=by
  omega
 have hV2p:0<V2:=by omega
 constructor
 ·refine Nat.le_min.2 ⟨?_,?_⟩
  ·have:=(Nat.div_lt_iff_lt_mul hVp).2 hlt;omega
  ·rw[Nat.le_div_iff_mul_le hV2p];have h1:W/V*V<=W:=Nat.div_mul_le_self W V;have h3:W/V*V2*b<=W/V*V:=by
    simp_all[Nat.mul_assoc,Nat.mul_le_mul_left]
   have h4:W/V*V2*b< (T+1)*b:=by
    grind
   have:=Nat.lt_of_mul_lt_mul_right h4;omega
 ·have hg:qw T V2*V2<=T:=by
   refine Nat.le_trans (Nat.mul_le_mul_right V2 (Nat.min_le_right _ _)) (Nat.div_mul_le_self T V2)
  have hg2:qw T V2<=4294967295:=Nat.min_le_left _ _;generalize qw T V2=g at*
  have h1:g*V=g*V2*b+g*M:=by grind
  have h2':g*V2*b<=T*b:=Nat.mul_le_mul_right b hg;have h3:g*M<=4294967295*b:=Nat.mul_le_mul hg2 (Nat.le_of_lt hM);have h4:9223372036854775808*b<=V2*b:=Nat.mul_le_mul_right b hV2;have h5:g*V<W+V:=by omega
  cases g with
  |zero=>grind
  |succ g=>
   rw[Nat.add_mul,Nat.one_mul]at h5;exact Nat.succ_le_succ ((Nat.le_div_iff_mul_le hVp).2 (by omega))
theorem Pp{q rest third v w T V:Nat}(hT:T=(q*v+rest)*4294967296+third)(hV:V=v*4294967296+w)(hVp:0<V)(hw:w<4294967296)(hq:q<=4294967296):
  (rest<4294967296/\rest*4294967296+third<q*w->T/V<q)/\(¬ (rest<4294967296/\rest*4294967296+third<q*w)->q<=T/V):=by
 have e1:q*V=q*v*4294967296+q*w:=by grind
 constructor
 ·rw[Nat.div_lt_iff_lt_mul hVp];omega
 ·rw[Nat.le_div_iff_mul_le hVp];by_cases h1:rest<4294967296
  ·omega
  ·have:q*w<=4294967296*4294967296:=Nat.mul_le_mul hq (Nat.le_of_lt hw);omega
theorem RL{top next third v w:Nat}(hv:0<v)(hvb:v<4294967296)(ht:top<=v)(hn:next<4294967296)(h3:third<4294967296):
  min (if v<=top then 4294967295 else(top*4294967296+next)/v) (((top*4294967296+next)*4294967296+third)/ (v*4294967296+w))=qw ((top*4294967296+next)*4294967296+third) (v*4294967296+w):=by
 unfold qw;by_cases h:v<=top
 ·rw[if_pos h]
 ·rw[if_neg h];have h1:((top*4294967296+next)*4294967296+third)/ (v*4294967296+w)<=(top*4294967296+next)/v:=by
   rw[Nat.le_div_iff_mul_le hv];have h2:=Nat.div_mul_le_self ((top*4294967296+next)*4294967296+third) (v*4294967296+w);grind
  have h2:(top*4294967296+next)/v<4294967296:=by
   rw[Nat.div_lt_iff_lt_mul hv];omega
  omega
def nG(q:Nat):List Nat->List Nat->Nat->Nat->List Nat×Nat×Nat
 |u::us,y::vs,c,b=>(((u+18446744073709551616- (q*y+c) %4294967296-b) %18446744073709551616%4294967296)::(nG q us vs ((q*y+c)/4294967296) ((u+18446744073709551616- (q*y+c) %4294967296-b) %18446744073709551616/9223372036854775808)).1,(nG q us vs ((q*y+c)/4294967296) ((u+18446744073709551616- (q*y+c) %4294967296-b) %18446744073709551616/9223372036854775808)).2)
 |_,_,c,b=>([],c,b)
theorem Kl{u s b:Nat}(hu:u<4294967296)(hs:s<4294967296)(hb:b<=1):
  (u+18446744073709551616-s-b) %18446744073709551616/9223372036854775808<=1/\(u+18446744073709551616-s-b) %18446744073709551616%4294967296+s+b=u+4294967296*((u+18446744073709551616-s-b) %18446744073709551616/9223372036854775808):=by
 omega
theorem Pq{q:Nat}(hq:q<4294967296):∀ {us vs:List Nat} {c b:Nat},Lb us->Lb vs->us.length=vs.length->c<4294967296->b<=1->
  aa us+4294967296^vs.length*((nG q us vs c b).2.1+(nG q us vs c b).2.2)=aa (nG q us vs c b).1+q*aa vs+c+b/\(nG q us vs c b).2.1<4294967296/\(nG q us vs c b).2.2<=1/\Lb (nG q us vs c b).1/\(nG q us vs c b).1.length=vs.length
 |[],[],c,b,_,_,_,hc,hb=>by
  refine⟨?_,hc,hb,fun x hx=>(nomatch hx),rfl⟩;show 0+4294967296^0*(c+b)=0+q*0+c+b;omega
 |u::us,y::vs,c,b,hu,hv,hl,hc,hb=>by
  have hu0:=hu u (by simp);have hy0:=hv y (by simp);have hp:q*y+c<4294967296*4294967296:=by
   have h1:q*y<=4294967295*4294967295:=Nat.mul_le_mul (by omega) (by omega);omega
  have hs:=Nat.mod_lt (q*y+c) (by decide:0<4294967296);have hd:=Nat.div_add_mod (q*y+c) 4294967296;have hc2:(q*y+c)/4294967296<4294967296:=by
   omega
  obtain⟨k1,k2⟩:=Kl (b:=b) hu0 hs hb;have ih:=Pq hq (us:=us) (vs:=vs) (c:=(q*y+c)/4294967296) (b:=(u+18446744073709551616- (q*y+c) %4294967296-b) %18446744073709551616/9223372036854775808) (fun x hx=>hu x (by grind)) (fun x hx=>hv x (by grind)) (by grind) hc2 k1;obtain⟨i1,i2,i3,i4,i5⟩:=ih;unfold nG;generalize(u+18446744073709551616- (q*y+c) %4294967296-b) %18446744073709551616/9223372036854775808=b2 at*
  generalize(q*y+c)/4294967296=c2 at*
  generalize nG q us vs c2 b2=r at*
  refine⟨?_,i2,i3,fun x hx=>?_,by grind⟩
  ·grind[aa,Nat.pow_succ,Nat.mul_comm,Nat.mul_assoc,Nat.mul_add,Nat.mul_left_comm]
  ·rcases List.mem_cons.1 hx with rfl|hx
   ·omega
   ·exact i4 x hx
 |[],_::_,_,_,_,_,h,_,_=>by grind
 |_::_,[],_,_,_,_,h,_,_=>by grind
def jP(q top:Nat)(us vs:List Nat):List Nat×Nat×Bool:=
 ((nG q us vs 0 0).1,(top+18446744073709551616- (nG q us vs 0 0).2.1- (nG q us vs 0 0).2.2) %18446744073709551616%4294967296,decide ((top+18446744073709551616- (nG q us vs 0 0).2.1- (nG q us vs 0 0).2.2) %18446744073709551616/9223372036854775808=1))
theorem Km{q top:Nat}{us vs:List Nat}(hq:q<4294967296)(ht:top<4294967296)(hu:Lb us)(hv:Lb vs)(hl:us.length=vs.length):
  (aa us+4294967296^vs.length*top+(if(jP q top us vs).2.2=true then 4294967296^vs.length*4294967296 else 0)=aa (jP q top us vs).1+4294967296^vs.length*(jP q top us vs).2.1+q*aa vs)/\(jP q top us vs).2.1<4294967296/\Lb (jP q top us vs).1/\(jP q top us vs).1.length=vs.length:=by
 obtain⟨h1,h2,h3,h4,h5⟩:=Pq hq hu hv hl (c:=0) (b:=0) (by decide) (by decide);unfold jP;generalize nG q us vs 0 0=r at*
 obtain⟨r1,c,b⟩:=r;refine⟨?_,Nat.mod_lt _ (by decide),h4,h5⟩;obtain⟨k1,k2⟩:=Kl (u:=top) (s:=c) (b:=b) ht h2 h3;generalize(top+18446744073709551616-c-b) %18446744073709551616/9223372036854775808=f at*
 generalize(top+18446744073709551616-c-b) %18446744073709551616%4294967296=t2 at*
 have e1:4294967296^vs.length*(c+b)+4294967296^vs.length*t2=4294967296^vs.length*top+4294967296^vs.length*4294967296*f:=by
  grind
 grind
def tV(top:Nat)(us:List Nat):Nat:=(top*4294967296+us.getD (us.length-1) 0)*4294967296+us.getD (us.length-2) 0
def sk(vs:List Nat):Nat:=vs.getD (vs.length-1) 0*4294967296+vs.getD (vs.length-2) 0
def qX(top:Nat)(us vs:List Nat):List Nat×Nat×Nat:=
 if(jP (qw (tV top us) (sk vs)) top us vs).2.2=true then
  (cp (jP (qw (tV top us) (sk vs)) top us vs).1 vs vs.length,((jP (qw (tV top us) (sk vs)) top us vs).2.1+cV (jP (qw (tV top us) (sk vs)) top us vs).1 vs vs.length) %4294967296,qw (tV top us) (sk vs)-1)
 else((jP (qw (tV top us) (sk vs)) top us vs).1,(jP (qw (tV top us) (sk vs)) top us vs).2.1,qw (tV top us) (sk vs))
theorem Pr{l:List Nat}{k:Nat}(h:l.length=k+2):aa l=(l.getD (k+1) 0*4294967296+l.getD k 0)*4294967296^k+aa (l.take k):=by
 have h1:=dx l (k+1);have h2:=dx l k;grind
theorem XB{top:Nat}{us vs:List Nat}{k:Nat}(ht:top<4294967296)(hu:Lb us)(hv:Lb vs)(hul:us.length=k+2)(hvl:vs.length=k+2)(hn:2147483648<=vs.getD (k+1) 0)(hlt:aa us+4294967296^ (k+2)*top<4294967296*aa vs):
  aa (qX top us vs).1+4294967296^ (k+2)*(qX top us vs).2.1=(aa us+4294967296^ (k+2)*top) %aa vs/\(qX top us vs).2.2=(aa us+4294967296^ (k+2)*top)/aa vs/\Lb (qX top us vs).1/\(qX top us vs).1.length=k+2/\(qX top us vs).2.1<4294967296:=by
 obtain⟨W,hW⟩:∃W,aa us+4294967296^ (k+2)*top=W:=⟨_,rfl⟩;obtain⟨V,hV⟩:∃V,aa vs=V:=⟨_,rfl⟩;have a1:=Pr hul;have a2:=Pr hvl;have l1:=bQ (dN hu k);have l2:=bQ (dN hv k);rw[List.length_take,Nat.min_eq_left (by omega)]at l1 l2;have hT:W=tV top us*4294967296^k+aa (us.take k):=by
  unfold tV;grind
 have hV2:V=sk vs*4294967296^k+aa (vs.take k):=by
  grind[sk]
 rw[hW]at hlt⊢;rw[hV]at hlt⊢;obtain⟨g1,g2⟩:=ZR hT hV2 l1 l2 (show sk vs=vs.getD (k+1) 0*4294967296+vs.getD k 0 by grind[sk]) hn hlt;have hgb:qw (tV top us) (sk vs)<4294967296:=by
  grind[qw,tV,sk,Nat.min_le_left]
 unfold qX;generalize qw (tV top us) (sk vs)=g at*
 obtain⟨t1,t2,t3,t4⟩:=Km (q:=g) hgb ht hu hv (by omega);generalize jP g top us vs=r at*
 obtain⟨r1,r2,f⟩:=r;simp only at t1 t2 t3 t4⊢;rw[hvl,hW,hV]at t1;rw[hvl]at t4;have hVp:0<V:=by
  omega
 have hdm:=Nat.div_add_mod W V;have hml:=Nat.mod_lt W hVp;have hVb:V<4294967296^ (k+2):=by grind[bQ]
 have hrb:aa r1<4294967296^ (k+2):=by grind[bQ]
 generalize hB:4294967296^ (k+2)=b at*
 cases f with
 |false=>
  simp only[Bool.false_eq_true,if_false,Nat.add_zero]at t1⊢;have h1:g<=W/V:=(Nat.le_div_iff_mul_le hVp).2 (by omega);have h2:g=W/V:=Nat.le_antisymm h1 g1;refine⟨?_,h2,t3,t4,t2⟩;rw[h2,Nat.mul_comm (W/V) V]at t1;omega
 |true=>
  simp only[if_true]at t1⊢;have hbr:b*r2+aa r1<b*4294967296:=by
   have h1:b*(r2+1)<=b*4294967296:=Nat.mul_le_mul_left b (by omega);rw[Nat.mul_add,Nat.mul_one]at h1;omega
  have h1:¬g<=W/V:=fun h=>by
   have:=(Nat.le_div_iff_mul_le hVp).1 h;omega
  have h2:g=W/V+1:=by omega
  have s1:=BM r1 vs (k+2);rw[hB,List.take_of_length_le (by omega),List.take_of_length_le (by omega),hV]at s1;have s2:=JZ r1 vs (k+2);have s3:(cp r1 vs (k+2)).length=k+2:=by unfold cp;rw[List.length_map,List.length_range]
  have s4:aa (cp r1 vs (k+2))<b:=by
   have:=bQ s2;rw[s3,hB]at this;exact this
  rw[hvl];refine⟨?_,by show g-1=W/V;rw[h2,Nat.add_sub_cancel],s2,s3,Nat.mod_lt _ (by decide)⟩;rw[h2,Nat.add_mul,Nat.one_mul,Nat.mul_comm (W/V) V]at t1;have e1:aa (cp r1 vs (k+2))+b*(cV r1 vs (k+2)+r2)=b*4294967296+W%V:=by
   rw[Nat.mul_add];omega
  have hc:cV r1 vs (k+2)+r2=4294967296:=by
   have h3:¬cV r1 vs (k+2)+r2<4294967296:=fun h=>by
    have h4:b*(cV r1 vs (k+2)+r2+1)<=b*4294967296:=Nat.mul_le_mul_left b h;rw[Nat.mul_add b _ 1,Nat.mul_one]at h4;omega
   have h5:¬4294967296<cV r1 vs (k+2)+r2:=fun h=>by
    have h4:b*(4294967296+1)<=b*(cV r1 vs (k+2)+r2):=Nat.mul_le_mul_left b h;omega
   omega
  rw[hc]at e1;rw[Nat.add_comm r2,hc,Nat.mod_self,Nat.mul_zero];omega
def j5(u:List Nat)(j:Nat)(us:List Nat)(top:Nat):List Nat:=u.take j++(us++top::u.drop (j+us.length+1))
def sn(vs:List Nat):Nat->List Nat->List Nat×List Nat
 |0,u=>(u,[])
 |j+1,u=>((sn vs j (j5 u j (qX (u.getD (j+vs.length) 0) ((u.drop j).take vs.length) vs).1 (qX (u.getD (j+vs.length) 0) ((u.drop j).take vs.length) vs).2.1)).1,
   (sn vs j (j5 u j (qX (u.getD (j+vs.length) 0) ((u.drop j).take vs.length) vs).1 (qX (u.getD (j+vs.length) 0) ((u.drop j).take vs.length) vs).2.1)).2++[(qX (u.getD (j+vs.length) 0) ((u.drop j).take vs.length) vs).2.2])
theorem zE(l:List Nat)(i:Nat)(h:i<=l.length):aa l=aa (l.take i)+4294967296^i*aa (l.drop i):=by
 grind[cS,List.take_append_drop,List.length_take,Nat.min_eq_left]
theorem ZS(l:List Nat)(x:Nat):aa (l++[x])=aa l+4294967296^l.length*x:=by
 rw[cS];show _+_*(x+4294967296*0)=_;grind
theorem SN{u:List Nat}{j n V:Nat}(hu:Lb u)(hl:j+n<u.length)(hV:V<4294967296^n)(h:aa (u.drop (j+1))<V):
  aa ((u.drop j).take n)+4294967296^n*u.getD (j+n) 0=aa (u.drop j)/\aa (u.drop (j+n+1))=0/\aa (u.drop j)<4294967296*V:=by
 have h0:=dF u j;have hj:=bu hu j;have h1:=zE (u.drop j) (n+1) (by grind);rw[List.drop_drop,dx]at h1;have h2:(u.drop j).getD n 0=u.getD (j+n) 0:=by
  grind
 rw[h2,show j+(n+1)=j+n+1 by omega]at h1;have h4:aa (u.drop (j+n+1))=0:=by
  refine Nat.eq_zero_of_not_pos fun hp=>?_;have:4294967296^ (n+1)*1<=4294967296^ (n+1)*aa (u.drop (j+n+1)):=Nat.mul_le_mul_left _ hp;omega
 grind
theorem yD{u us:List Nat}{j top:Nat}(h:j+us.length<u.length):(j5 u j us top).length=u.length:=by
 grind[j5,List.length_append,List.length_cons,List.length_take,List.length_drop]
theorem Kn{u us:List Nat}{j top:Nat}(hu:Lb u)(hs:Lb us)(ht:top<4294967296):Lb (j5 u j us top):=by
 grind[j5,kL,fS,dN,jq]
theorem DT{u us:List Nat}{j top:Nat}(h:j<=u.length):(j5 u j us top).drop j=us++top::u.drop (j+us.length+1):=by
 unfold j5;rw[List.drop_append_of_le_length (by rw[List.length_take];omega),List.drop_of_length_le (by rw[List.length_take];omega),List.nil_append]
theorem XC{u us:List Nat}{j top:Nat}(h:j<=u.length):(j5 u j us top).take j=u.take j:=by
 unfold j5;rw[List.take_append_of_le_length (by rw[List.length_take];omega),List.take_take,Nat.min_self]
theorem w2'{u:List Nat}{j n s2:Nat}(h:aa (u.drop (j+n+1))=0):aa (s2::u.drop (j+n+1))=s2:=by
 simp_all[aa,Nat.mul_zero,Nat.add_zero]
theorem XD{vs:List Nat}{k:Nat}(hv:Lb vs)(hvl:vs.length=k+2)(hn:2147483648<=vs.getD (k+1) 0):
  ∀ (j:Nat) (u:List Nat),Lb u->j+(k+2)<=u.length->aa (u.drop j)<aa vs->aa u=aa (sn vs j u).1+aa vs*aa (sn vs j u).2/\aa (sn vs j u).1<aa vs/\(sn vs j u).2.length=j/\(sn vs j u).1.length=u.length/\Lb (sn vs j u).1/\Lb (sn vs j u).2
 |0,u,hu,_,h=>by
  refine⟨?_,h,rfl,rfl,hu,fun x hx=>(nomatch hx)⟩;show aa u=aa u+aa vs*0;omega
 |j+1,u,hu,hl,h=>by
  have hVb:aa vs<4294967296^ (k+2):=by grind[bQ]
  obtain⟨w1,w2,w3⟩:=SN (n:=k+2) hu (by omega) hVb h;have hlen:((u.drop j).take (k+2)).length=k+2:=by grind
  have hs:=XB (top:=u.getD (j+(k+2)) 0) (bu hu _) (dN (jq hu j) (k+2)) hv hlen hvl hn (by omega);rw[w1]at hs;unfold sn;rw[hvl];generalize qX (u.getD (j+(k+2)) 0) ((u.drop j).take (k+2)) vs=s at*
  obtain⟨s1,s2,s3⟩:=s;obtain⟨d1,d2,d3,d4,d5⟩:=hs;simp only at d1 d2 d3 d4 d5⊢;have hd:aa ((j5 u j s1 s2).drop j)=aa (u.drop j) %aa vs:=by
   grind[DT,cS,w2']
  have hVp:0<aa vs:=by omega
  have ih:=XD hv hvl hn j (j5 u j s1 s2) (Kn hu d3 d5) (by grind[yD]) (by simp_all[Nat.mod_lt]);obtain⟨i1,i2,i3,i4,i5,i6⟩:=ih;have hval:=zE (j5 u j s1 s2) j (by grind[yD]);rw[XC (by omega),hd]at hval;have hval2:=zE u j (by omega);generalize sn vs j (j5 u j s1 s2)=r at*
  obtain⟨r1,r2⟩:=r;refine⟨?_,i2,by grind,by rw[i4,yD (by omega)],i5,?_⟩
  ·grind[ZS,Nat.mul_add,Nat.div_add_mod,aa,Nat.mul_left_comm,Nat.add_comm]
  ·rw[kL];refine⟨i6,fun x hx=>?_⟩
   simp_all[Nat.div_lt_iff_lt_mul]
attribute [-go_sem] HH EG in
theorem Vd{third v w T V:Nat}(hV:V=v*4294967296+w)(hv:2147483648<=v)(hvb:v<4294967296)(hw:w<4294967296)(h3:third<4294967296):
  ∀ (k q rest:Nat),4294967296<=rest+k*2147483648->q<=4294967295->rest<8589934592->T=(q*v+rest)*4294967296+third->∀ (s:af) (h:ac),s 0=W q->s 1=W rest->s 2=U third->s 3=U v->s 4=U w->
  ∃hh,am 0 [0] (aD (aj R (aH false) eG) [0,1,2,3,4] [] s h)=some (.normal,⟨upd (fun _=>.any) 0 (W (min q (T/V):Nat)),hh⟩):=by
 intro k;induction k with
 |zero=>
  intro q rest hk hq hr hT s h g0 g1 g2 g3 g4;have hs:=(Pp (q:=q) hT hV (by omega) hw (by omega)).2 (fun h=>by omega);have e1:((rest:Int)<4294967296)=False:=ff (by omega);rw[Nat.min_eq_left hs,ai];refine⟨fun _=>.dead,?_⟩;simp only[eG,go_sem,g0,g1,g2,g3,g4,e1]
 |succ k ih=>
  intro q rest hk hq hr hT s h g0 g1 g2 g3 g4;have hd:=Pp (q:=q) hT hV (by omega) hw (by omega);by_cases hlt:rest<4294967296
  ·have e1:((rest:Int)<4294967296)=True:=tt (by omega);have hqw:q*w<=4294967295*4294967295:=Nat.mul_le_mul hq (by omega);have e2:IntKind.u64.wrap ((q:Int)*(w:Int))=((q*w:Nat):Int):=cK (by simp) (by omega);have e3:=zk (n:=rest) (k:=32) (i:=(rest:Int)) (kk:=.u64) (j:=32) rfl rfl (by decide) (by omega);have e4:=GG (m:=rest*2^32) (n:=third) (i:=((rest*2^32:Nat):Int)) (j:=(third:Int)) rfl rfl (by omega) (by omega);rw[yr (x:=rest) (c:=third) (k:=32) (by omega)]at e4;have e5:IntKind.u64.wrap (third:Int)=third:=cK rfl (by omega);have e6:IntKind.u64.wrap (w:Int)=w:=cK rfl (by omega);have e7:IntKind.u64.wrap (v:Int)=v:=cK rfl (by omega);by_cases hc:rest*4294967296+third<q*w
   ·have e8:(((rest*2^32+third:Nat):Int)< ((q*w:Nat):Int))=True:=tt (by omega);have hq1:1<=q:=Nat.pos_of_ne_zero fun h0=>by grind
    have e9:IntKind.u64.wrap ((q:Int)-1)=((q-1:Nat):Int):=cK (by omega) (by omega);have e10:IntKind.u64.wrap ((rest:Int)+(v:Int))=((rest+v:Nat):Int):=cK (by simp) (by omega);have hT2:T=((q-1)*v+(rest+v))*4294967296+third:=by
     rw[hT,Nat.sub_mul,Nat.one_mul];have:v<=q*v:=Nat.le_mul_of_pos_left v hq1;omega
    have ih':=ih (q-1) (rest+v) (by omega) (by omega) (by omega) hT2;have hm:min q (T/V)=min (q-1) (T/V):=by omega
    rw[hm,ai];simp only[eG,go_sem,g0,g1,g2,g3,g4,e1,e2,e3,e4,e5,e6,e7,e8,e9,e10];exact ih' _ _ rfl rfl rfl rfl rfl
   ·have e8:(((rest*2^32+third:Nat):Int)< ((q*w:Nat):Int))=False:=ff (by omega);have hs:=hd.2 (fun h=>hc h.2);rw[Nat.min_eq_left hs,ai];refine⟨fun _=>.dead,?_⟩;simp only[eG,go_sem,g0,g1,g2,g3,g4,e1,e2,e3,e4,e5,e6,e8]
  ·have hs:=hd.2 (fun h=>hlt h.1);have e1:((rest:Int)<4294967296)=False:=ff (by omega);rw[Nat.min_eq_left hs,ai];refine⟨fun _=>.dead,?_⟩;simp only[eG,go_sem,g0,g1,g2,g3,g4,e1]
theorem ab6{q rest third v w T V:Nat}(hV:V=v*4294967296+w)(hv:2147483648<=v)(hvb:v<4294967296)(hw:w<4294967296)(h3:third<4294967296)(hq:q<=4294967295)(hr:rest<8589934592)(hT:T=(q*v+rest)*4294967296+third)(s:af)(h:ac)(X:Option (Ex×St))(hX:am 0 [0] (aD (aj R (aH false) eG) [0,1,2,3,4] [] s h)=X)(g0:s 0=W q)(g1:s 1=W rest)(g2:s 2=U third)(g3:s 3=U v)(g4:s 4=U w):
  ∃hh,X=some (.normal,⟨upd (fun _=>.any) 0 (W (min q (T/V):Nat)),hh⟩):=by
 subst hX;exact Vd hV hv hvb hw h3 2 q rest (by omega) hq hr hT s h g0 g1 g2 g3 g4
theorem Ps{q rest third v w T V:Nat}(hV:V=v*4294967296+w)(hv:2147483648<=v)(hvb:v<4294967296)(hw:w<4294967296)(h3:third<4294967296)(hq:q<=4294967295)(hr:rest<8589934592)(hT:T=(q*v+rest)*4294967296+third):
  R F.natural_digit [W q,W rest,U third,U v,U w] []=some (W (min q (T/V):Nat),[]):=by
 refine aA H8 rfl ?_;have hl:=ab6 hV hv hvb hw h3 hq hr hT;simp only[rJ,zj,go_sem];generalize hX:am 0 _ _=X;obtain⟨hh,rfl⟩:=hl _ _ _ hX rfl rfl rfl rfl rfl;simp only[go_sem]
attribute [-go_sem] HH EG in
theorem ZT{top next third v w:Nat}(hv:2147483648<=v)(hvb:v<4294967296)(ht:top<=v)(hn:next<4294967296)(h3:third<4294967296)(hw:w<4294967296):
  R F.natural_guess [U top,U next,U third,U v,U w] []=some (W (qw ((top*4294967296+next)*4294967296+third) (v*4294967296+w):Nat),[]):=by
 refine aA H6 rfl ?_;rw[←RL (by omega) hvb ht hn h3];have c1:IntKind.u64.wrap (next:Int)=next:=cK rfl (by omega)
 have c2:IntKind.u64.wrap (v:Int)=v:=cK rfl (by omega);have c3:IntKind.u64.wrap (top:Int)=top:=cK rfl (by omega);by_cases h:v<=top
 ·have e1:((v:Int)<=(top:Int))=True:=tt (by omega);rw[if_pos h];have e2:IntKind.u32.wrap ((top:Int)- (v:Int))=0:=by
   rw[show(top:Int)- (v:Int)=0 by omega];rfl
  have e3:IntKind.u64.wrap 0=0:=rfl;have e4:=zk (n:=0) (k:=32) (i:=0) (kk:=.u64) (j:=32) rfl rfl (by decide) (by decide);have e5:IntKind.u64.wrap (0+(next:Int))=next:=cK (by omega) (by omega)
  have e6:IntKind.u64.wrap ((next:Int)+(v:Int))=((next+v:Nat):Int):=cK (by simp) (by omega);have hd:=Ps (q:=4294967295) (rest:=next+v) (third:=third) (v:=v) (w:=w) (T:=(top*4294967296+next)*4294967296+third) rfl hv hvb hw h3 (by decide) (by omega) (by
   omega)
  have e7:(((4294967295:Nat):Int))=4294967295:=rfl;rw[e7]at hd;rw[Nat.zero_mul]at e4;simp only[Int.natCast_zero]at e4;simp only[mM,tr,go_sem,apB,apA,e1,e2,e3,e4,e5,e6,c1,c2,hd]
 ·have e1:((v:Int)<=(top:Int))=False:=ff (by omega);rw[if_neg h];have e4:=zk (n:=top) (k:=32) (i:=(top:Int)) (kk:=.u64) (j:=32) rfl rfl (by decide) (by omega);have e5:=GG (m:=top*2^32) (n:=next) (i:=((top*2^32:Nat):Int)) (j:=(next:Int)) rfl rfl (by omega) (by omega);rw[yr (x:=top) (c:=next) (k:=32) (by omega),show top*2^32+next=top*4294967296+next from rfl]at e5;obtain⟨N,hN⟩:∃N,top*4294967296+next=N:=⟨_,rfl⟩
  rw[hN]at e5⊢;have hNb:N<18446744073709551616:=by omega
  have e6:cO .quo (W N) (W v)=some (W (N/v:Nat)):=by
   rw[Jv,if_neg (by omega),Int.tdiv_eq_ediv_of_nonneg (by omega)];have:N/v<=N:=Nat.div_le_self _ _;grind[cK]
  have e7:cO .rem (W N) (W v)=some (W (N%v:Nat)):=by
   rw[EF,if_neg (by omega),Int.tmod_eq_emod_of_nonneg (by omega)];rfl
  have hm:=Nat.mod_lt N (show 0<v by omega);have hq:N/v<=4294967295:=by
   have:N/v<4294967296:=by
    rw[Nat.div_lt_iff_lt_mul (by omega)];omega
   omega
  have hd:=Ps (q:=N/v) (rest:=N%v) (third:=third) (v:=v) (w:=w) (T:=N*4294967296+third) rfl hv hvb hw h3 hq (by omega) (by
   rw[Nat.mul_comm (N/v) v,Nat.div_add_mod])
  simp only[mM,tr,go_sem,apB,apA,e1,e4,e5,e6,e7,c1,c2,c3,hd]
attribute [-go_sem] HH EG in
theorem ZU{a b y:Nat}(hay:a<y)(hy:y<4294967296)(hb:b<4294967296):
  R F.bits_Div32 [U a,U b,U y] []=some (.tup [U ((a*4294967296+b)/y:Nat),U ((a*4294967296+b) %y:Nat)],[]):=by
 refine aA OI rfl ?_;have e1:((y:Int)=0)=False:=ff (by omega);have e2:((y:Int)<=(a:Int))=False:=ff (by omega);have c1:IntKind.u64.wrap (a:Int)=a:=cK rfl (by omega);have c2:IntKind.u64.wrap (b:Int)=b:=cK rfl (by omega);have c3:IntKind.u64.wrap (y:Int)=y:=cK rfl (by omega);have e4:=zk (n:=a) (k:=32) (i:=(a:Int)) (kk:=.u64) (j:=32) rfl rfl (by decide) (by omega);have e5:=GG (m:=a*2^32) (n:=b) (i:=((a*2^32:Nat):Int)) (j:=(b:Int)) rfl rfl (by omega) (by omega);rw[yr (x:=a) (c:=b) (k:=32) (by omega),show a*2^32+b=a*4294967296+b from rfl]at e5;rw[show a*2^32=a*4294967296 from rfl]at e4 e5;obtain⟨N,hN⟩:∃N,a*4294967296+b=N:=⟨_,rfl⟩;rw[hN]at e5⊢;have e6:cO .quo (W N) (W y)=some (W (N/y:Nat)):=by
  rw[Jv,if_neg (by omega),Int.tdiv_eq_ediv_of_nonneg (by omega)];have:N/y<=N:=Nat.div_le_self _ _;rw[cK (n:=N/y) (by simp) (by omega)]
 have e7:cO .rem (W N) (W y)=some (W (N%y:Nat)):=by
  rw[EF,if_neg (by omega),Int.tmod_eq_emod_of_nonneg (by omega)];rfl
 have hm:=Nat.mod_lt N (show 0<y by omega);have hq:N/y<4294967296:=by
  rw[Nat.div_lt_iff_lt_mul (by omega)];have h3:(a+1)*4294967296<=y*4294967296:=Nat.mul_le_mul_right _ (by omega);rw[Nat.mul_comm 4294967296 y];omega
 have w1:IntKind.u32.wrap ((N/y:Nat):Int)=((N/y:Nat):Int):=wK rfl hq;have w2:IntKind.u32.wrap ((N%y:Nat):Int)=((N%y:Nat):Int):=wK rfl (by omega);simp only[wA,Dv,go_sem,apB,apA,e1,e2,e4,e5,e6,e7,c1,c2,c3,w1,w2]
def dE(y:Nat):List Nat->List Nat×Nat
 |[]=>([],0)
 |x::l=>(((dE y l).2*4294967296+x)/y::(dE y l).1,((dE y l).2*4294967296+x) %y)
theorem xr{y:Nat}(hy:0<y):∀ {l:List Nat},Lb l->aa l=aa (dE y l).1*y+(dE y l).2/\(dE y l).2<y/\(dE y l).1.length=l.length
 |[],_=>⟨by simp[dE,aa],hy,rfl⟩
 |x::l,hl=>by
  obtain⟨h1,h2,h3⟩:=xr hy (l:=l) fun z hz=>hl z (by simp[hz]);unfold dE;refine⟨?_,Nat.mod_lt _ hy,by simp[h3]⟩;show x+4294967296*aa l=(((dE y l).2*4294967296+x)/y+4294967296*aa (dE y l).1)*y+((dE y l).2*4294967296+x) %y;have hm:=Nat.div_add_mod ((dE y l).2*4294967296+x) y;rw[Nat.mul_comm]at hm;rw[Nat.add_mul,Nat.mul_assoc];generalize((dE y l).2*4294967296+x)/y*y=A at*
  omega
theorem SO{y:Nat}(hy:0<y)(hyb:y<4294967296):∀ {l:List Nat},Lb l->Lb (dE y l).1
 |[],_=>fun x hx=>(nomatch hx)
 |x::l,hl=>by
  have hl':Lb l:=fun z hz=>hl z (by simp[hz]);have h2:=(xr hy hl').2.1;have hx:=hl x (by simp);intro z hz;rcases List.mem_cons.1 hz with h|h
  ·rw[h];show((dE y l).2*4294967296+x)/y<4294967296;rw[Nat.div_lt_iff_lt_mul hy];have h3:((dE y l).2+1)*4294967296<=y*4294967296:=Nat.mul_le_mul_right _ (by omega);rw[Nat.mul_comm 4294967296 y];omega
  ·exact SO hy hyb hl' z h
theorem ZV{a:List Nat}(ha:Lb a){y:Nat}(hy:0<y)(hyb:y<4294967296)(h1:a.length<=100000):
  ∀ (m:Nat),m<=a.length->∀ (s:af) (h:ac),s 0=lm a->s 1=U y->s 6=.rsl 11 none 1 0 a.length->s 7=U ((dE y (a.drop m)).2:Nat)->s 8=I ((m:Int)-1)->h 11=.ar 1 (ax (List.replicate m 0++(dE y (a.drop m)).1))->
  ∃hh,am 0 [6,7] (aD (aj R (aH false) iw) [0,1,6,7,8] [11] s h)=some (.normal,⟨upd (upd (fun _=>.any) 7 (U ((dE y a).2:Nat))) 6 (.rsl 11 none 1 0 a.length),hh⟩)/\hh 11=.ar 1 (ax (dE y a).1)/\(∀x,x≠11->hh x=.dead):=by
 intro m;induction m with
 |zero=>
  intro hm s h g0 g1 g6 g7 g8 k11;have e1:(0<=(((0:Nat):Int)-1))=False:=ff (by omega);rw[ai];refine⟨?hh0,?_,?_,?_⟩;rotate_left
  ·simp only[iw,go_sem,g0,g1,g6,g7,g8,k11,e1];rfl
  all_goals simp_all[ed,if_false]
 |succ m ih=>
  intro hm s h g0 g1 g6 g7 g8 k11;have hlt:m<a.length:=by omega
  have hd:a.drop m=a.getD m 0::a.drop (m+1):=by
   simp_all
  have ha':Lb (a.drop (m+1)):=jq ha _;obtain⟨q1,q2,q3⟩:=xr hy ha';have e0:(((m+1:Nat):Int)-1)=(m:Int):=by omega
  rw[e0]at g8;have e1:(0<=(m:Int))=True:=tt (by omega);have e2:aV (ax a) (m:Int)=some (.ipt [U (a.getD m 0:Nat)]):=bk rfl (by omega);have e3:IntKind.i64.wrap ((m:Int)-1)=(m:Int)-1:=i64_in _ ⟨by omega,by omega⟩;have e5:((m:Int)< (a.length:Int))=True:=tt (by omega);have e6:=ZU (a:=(dE y (a.drop (m+1))).2) (b:=a.getD m 0) q2 hyb (bu ha m);have ih':=ih (by omega);rw[hd]at ih';have hs1:(dE y (a.getD m 0::a.drop (m+1))).1=((dE y (a.drop (m+1))).2*4294967296+a.getD m 0)/y::(dE y (a.drop (m+1))).1:=rfl;have hs2:(dE y (a.getD m 0::a.drop (m+1))).2=((dE y (a.drop (m+1))).2*4294967296+a.getD m 0) %y:=rfl;rw[hs1,hs2]at ih';generalize((dE y (a.drop (m+1))).2*4294967296+a.getD m 0)/y=qd at*
  have e7:(ax (List.replicate (m+1) 0++(dE y (a.drop (m+1))).1))[m]?=some [U (0:Nat)]:=by
   rw[ij (by grind),List.getD_eq_getElem?_getD,List.getElem?_append_left (by simp),List.getElem?_replicate,if_pos (by omega)];rfl
  have e8:(ax (List.replicate (m+1) 0++(dE y (a.drop (m+1))).1)).set m [U (qd:Nat)]=ax (List.replicate m 0++qd::(dE y (a.drop (m+1))).1):=by
   rw[kg];rw[List.replicate_succ',List.append_assoc,List.set_append_right _ _ (by simp)];simp
  rw[ai];simp only[iw,go_sem,apB,apA,apC,apD,apE,g0,g1,g6,g7,g8,k11,e1,e2,e3,e5,e6,e7,e8,Int.toNat_natCast,Nat.zero_add];exact ih' _ _ rfl rfl rfl rfl rfl rfl
theorem ago{a:List Nat}(ha:Lb a){y:Nat}(hy:0<y)(hyb:y<4294967296)(h1:a.length<=100000)(s:af)(h:ac)(X:Option (Ex×St))(hX:am 0 [6,7] (aD (aj R (aH false) iw) [0,1,6,7,8] [11] s h)=X)
  (g0:s 0=lm a) (g1:s 1=U y) (g6:s 6=.rsl 11 none 1 0 a.length) (g7:s 7=U 0) (g8:s 8=I ((a.length:Int)-1)) (k11:h 11=.ar 1 (ax (List.replicate a.length 0))):
  ∃hh,X=some (.normal,⟨upd (upd (fun _=>.any) 7 (U ((dE y a).2:Nat))) 6 (.rsl 11 none 1 0 a.length),hh⟩)/\hh 11=.ar 1 (ax (dE y a).1)/\(∀x,x≠11->hh x=.dead):=by
 subst hX;have hn:a.drop a.length=[]:=List.drop_of_length_le (Nat.le_refl _);refine ZV ha hy hyb h1 a.length (Nat.le_refl _) s h g0 g1 g6 ?_ g8 ?_
 ·rw[hn];exact g7
 ·rw[hn];show h 11=.ar 1 (ax (List.replicate a.length 0++[]));grind
theorem ZW{a:List Nat}(ha:Lb a){y:Nat}(hy:0<y)(hyb:y<4294967296)(h1:a.length<=100000):R F.natural_short [lm a,U y] []=some (.tup [lm (dE y a).1,U ((dE y a).2:Nat)],[]):=by
 refine aA H5 rfl ?_;have hl:=ago ha hy hyb h1;have e3:IntKind.i64.wrap ((a.length:Int)-1)=(a.length:Int)-1:=i64_in _ ⟨by omega,by omega⟩;have e4:=l6 (i:=(a.length:Int)) (j:=(a.length:Int)) rfl rfl (Nat.le_refl _) (by omega);have e5:(a.length*4<=140737488355328)=True:=tt (by omega);simp only[rI,zg,go_sem,e3,e4,e5,uN];generalize hX:am 0 _ _=X;obtain⟨hh,rfl,q11,qd⟩:=hl _ _ _ hX rfl rfl rfl rfl rfl rfl;have hlen:=(xr hy ha).2.2;simp only[go_sem,apC,apD,q11,hlen,Nat.zero_add,Nat.le_refl]
def arx(x:Rd)(n:Nat)(c:Rd):Rd×Bool:=match aqf x n c with
 |some d=>(d,true)
 |none=>(aK,false)
theorem arg{x:Rd}:∀ (n:Nat) (c d:Rd),Ok0 c->aqf x n c=some d->Ok0 d
 |0,c,d,oc,h=>by
  grind[aqf,Option.some.inj]
 |n+1,c,d,oc,h=>by
  unfold aqf at h;split at h
  ·exact arg n _ d (ES c x).2 h
  ·exact nomatch h
abbrev zb:List AV:=[B false,.emp,I 0]
theorem asR{es:List Int}{xs:List Rd}{c:Rd}{i:Nat}(h1:i<es.length)(h2:i<xs.length):ap3 (es.drop i) (xs.drop i) c=(aqf xs[i] es[i].toNat c).bind fun d=>ap3 (es.drop (i+1)) (xs.drop (i+1)) d:=by
 rw[List.drop_eq_getElem_cons h1,List.drop_eq_getElem_cons h2];rfl
theorem arH{xs:List Rd}{t:Rt}{l:List Rt}{q d:Rd}(h:ap3 t.exps xs t.c=some d):aqi xs (t::l) q=if(nX q d).2=0 then aqi xs l (nX q d).1 else(aK,9):=by
 rw[show aqi xs (t::l) q=(match ap3 t.exps xs t.c with|none=>(aK,(9:Int))|some d=>if(nX q d).2=0 then aqi xs l (nX q d).1 else(aK,9))from rfl,h]
theorem arI{xs:List Rd}{t:Rt}{l:List Rt}{q:Rd}(h:ap3 t.exps xs t.c=none):aqi xs (t::l) q=(aK,9):=by
 rw[show aqi xs (t::l) q=(match ap3 t.exps xs t.c with|none=>(aK,(9:Int))|some d=>if(nX q d).2=0 then aqi xs l (nX q d).1 else(aK,9))from rfl,h]
@[go_sem] theorem ank(l:List Rd):(zp l).map (dB [.o 0 [],.o 2 [],.o 0 []])=zp l:=by
 refine vV fun x hx=>?_;simp only[zp,List.mem_map]at hx;obtain⟨t,ht,rfl⟩:=hx;simp only[ak,go_sem]
theorem ar8{d:Rd}(h:vd d=true):eH d=(d,0):=by
 unfold eH;by_cases h0:d.m.length=0
 ·rw[AY h h0];rfl
 simp_all[if_pos,vS]
theorem arJ{d:Rd}(ok:Ok0 d)(h:vd d=true):bA d.neg (aa d.m) d.e=d:=by
 have h1:=SC ok h;obtain⟨g1,g2,g3,g4⟩:=dT h ok.lb;have hz:zI d=dz d.neg (mg d):=rfl;rw[hz,←EO]at h1;grind[mg,tC]
theorem asw{N k:Nat}{neg:Bool}(ho:N%2=1)(hb:4096<ae N):eH (bA neg (N*2^k) (-16384))=(aK,9):=by
 have h0:N≠0:=by omega
 rw[tC];obtain⟨g1,g2,g3,g4⟩:=yy (neg:=neg) (e:=-16384+(k:Int)) h0;have ht:=adN ho 0;rw[Nat.pow_zero,Nat.mul_one]at ht;unfold eH;rw[if_neg];intro h2;rw[g1,ht,Nat.pow_zero,Nat.div_one]at h2;have h3:=(EJ h2 (by omega)).1;omega
theorem ar9{a b:Rd}(oa:Ok0 a)(ob:Ok0 b)(va:vd a=true)(vb:vd b=true)(na:a.m.length≠0)(nb:b.m.length≠0){e:Int}(he:e=if b.e<a.e then b.e else a.e)(h:4097<aR a-e)(hg:1<aR a-aR b):
  eH (dJ (zI a+zI b) (-16384))=(aK,9)/\eH (dJ (zI b+zI a) (-16384))=(aK,9):=by
 obtain⟨a1,a2,a3,a4⟩:=dT va oa.lb;obtain⟨b1,b2,b3,b4⟩:=dT vb ob.lb;have e1:=kW va na;have e2:=kW vb nb;have he1:-16384<=e/\e<=a.e/\e<=b.e/\(e=a.e\/e=b.e):=by
  omega
 have hne:a.e≠b.e:=by omega
 have z1:zI a=dz a.neg (aa a.m*2^ (a.e-e).toNat*2^ (e+16384).toNat):=by
  grind[zI,dz,mg,BQ]
 have z2:zI b=dz b.neg (aa b.m*2^ (b.e-e).toNat*2^ (e+16384).toNat):=by
  rw[show zI b=dz b.neg (mg b)from rfl,BQ he1.1 he1.2.2.1]
 have bx:(ae (aa a.m*2^ (a.e-e).toNat):Int)=aR a-e:=by
  grind[dS,dy]
 have by':(ae (aa b.m*2^ (b.e-e).toNat):Int)=aR b-e:=by
  grind
 have oX:=SI va na;have oY:=SI vb nb;have odd:(aa a.m*2^ (a.e-e).toNat+aa b.m*2^ (b.e-e).toNat) %2=1:=by
  rcases he1.2.2.2 with h1|h1
  ·omega
  ·obtain⟨k,hk⟩:∃k,(a.e-e).toNat=k+1:=⟨(a.e-e).toNat-1,by omega⟩;rw[show(b.e-e).toNat=0 by omega,hk,Nat.pow_zero,Nat.mul_one,Nat.pow_succ,←Nat.mul_assoc];omega
 rw[Int.add_comm (zI b),and_self,z1,z2];generalize aa a.m*2^ (a.e-e).toNat=x at bx odd⊢;generalize aa b.m*2^ (b.e-e).toNat=y at by' odd⊢;generalize(e+16384).toNat=k;have hx:2^ (ae x-1)<=x:=jr.1 (by omega);have hy:y<2^ (ae x-2):=by
  have h3:y<2^ae y:=bt.1 (Nat.le_refl _);grind[Nat.lt_of_lt_of_le,Nat.pow_le_pow_right]
 have hp:2^ (ae x-1)=2^ (ae x-2)*2:=by
  rw[←Nat.pow_succ];grind
 have hbig:∀N:Nat,x-y<=N->4096<ae N:=fun N hN=>by
  have h5:ae x-2<ae N:=jr.2 (by omega);omega
 have hsum:∀ (n:Bool) (z:Nat),dJ (dz n (z*2^k)) (-16384)=bA n (z*2^k) (-16384):=fun n z=>EO.symm;by_cases hs:a.neg=b.neg
 ·have hz:dz a.neg (x*2^k)+dz b.neg (y*2^k)=dz a.neg ((x+y)*2^k):=by
   rw[←hs,Nat.add_mul];cases a.neg
   all_goals grind[zz,xf]
  grind[asw]
 ·have hbn:b.neg=!a.neg:=by
   grind
  have hz:dz a.neg (x*2^k)+dz b.neg (y*2^k)=dz a.neg ((x-y)*2^k):=by
   grind[Bool.not_true,zz,xf]
  rw[hz,hsum];exact asw (by omega) (hbig _ (Nat.le_refl _))
noncomputable def aql:Cmd:=.seq (.dops [2,3,4,6,9,10] [fa 65 1 2,ld 66 1 65,fa 67 2 2,ld 68 1 67,cm 69 6,b2 70 .sub 68 69,ca 71 F.dyadic_shifted [.t 66,.t 70],fa 72 1 3,ld 73 1 72,fa 74 2 3,ld 75 1 74,cm 76 6,b2 77 .sub 75 76,ca 78 F.dyadic_shifted [.t 73,.t 77],cm 9 71,cm 10 78] [(6,8),(6,10)]) (.seq (.seq (.ops [2,3,4,6,9,10,83] [fa 79 0 2,ld 80 1 79,fa 81 0 3,ld 82 1 81,co 83 (.eqc false 0 (.t 80) (.t 82))]) (.cond (.t 83) (.seq (.ops [2,4,6,11] [cm 85 9,cm 86 10,ca 87 F.natural_Add [.t 85,.t 86],cm 84 87,co 88 (.ext 0 (.t 84)),co 89 (.ext 1 (.t 84)),cm 11 88,cm 12 89]) (.seq (.ops [4,5] [fa 90 0 2,ld 91 1 90,cm 92 11,cm 93 6,ca 94 F.dyadic_canonical [.t 91,.t 92,.t 93],ca 95 F.dyadic_checked [.t 94],co 96 (.ext 0 (.t 95)),co 97 (.ext 1 (.t 95)),sr 3 (.t 4) (.t 96),cm 5 97]) (.ret))) (.skip))) (.seq (.seq (.ops [2,3,4,6,9,10,101] [cm 98 9,cm 99 10,ca 100 F.natural_Cmp [.t 98,.t 99],co 101 (.bin .lss (.t 100) (.c (I 0)))]) (.cond (.t 101) (.ops [2,4,6,9,10] [la 102 3 3,cm 103 10,cm 104 9,sr 3 (.t 2) (.t 102),cm 9 103,cm 10 104]) (.skip))) (.seq (.ops [2,4,6,13] [cm 106 9,cm 107 10,ca 108 F.natural_Sub [.t 106,.t 107],cm 105 108,co 109 (.ext 0 (.t 105)),co 110 (.ext 1 (.t 105)),cm 13 109,cm 14 110]) (.seq (.ops [4,5] [fa 111 0 2,ld 112 1 111,cm 113 13,cm 114 6,ca 115 F.dyadic_canonical [.t 112,.t 113,.t 114],ca 116 F.dyadic_checked [.t 115],co 117 (.ext 0 (.t 116)),co 118 (.ext 1 (.t 116)),sr 3 (.t 4) (.t 117),cm 5 118]) (.ret)))))
theorem aqx:aqP=.seq (.ops [2,3,4] [bx 2 3 (.t 0),bx 3 3 (.t 1),al 4 [B false,.emp,I 0],co 5 (.mv (.c (I 0)))]) (.seq (.seq (.ops [2,3,4,24] [fa 15 1 2,ld 16 1 15,co 17 (.len false (.t 16)),co 18 (.bin .eql (.t 17) (.c (I 0))),cm 19 18,cg 20 19 false (.fadr 1 (.t 3)),⟨(some 21),(some (19,false)),.load 1 false (.t 20)⟩,cg 22 19 false (.len false (.t 21)),cg 23 19 false (.bin .eql (.t 22) (.c (I 0))),co 24 (.pick (.t 19) (.c (B true)) (.t 23))]) (.cond (.t 24) (.seq (.seq (.ops [2,3,4,28] [fa 25 1 2,ld 26 1 25,co 27 (.len false (.t 26)),co 28 (.bin .eql (.t 27) (.c (I 0)))]) (.cond (.t 28) (.ops [2,4] [la 29 3 3,sr 3 (.t 2) (.t 29)]) (.skip))) (.seq (.ops [4,5] [fa 30 0 2,ld 31 1 30,fa 32 1 2,ld 33 1 32,fa 34 2 2,ld 35 1 34,ca 36 F.dyadic_canonical [.t 31,.t 33,.t 35],sr 3 (.t 4) (.t 36),co 5 (.mv (.c (I 0)))]) (.ret))) (.skip))) (.seq (.ops [2,3,4,6] [fa 37 2 2,ld 38 1 37,fa 39 2 3,ld 40 1 39,co 41 (.mnx true (.t 38) [.t 40]),cm 6 41]) (.seq (.dops [2,3,4,6,7,8] [la 42 3 2,ca 43 F.dyadic_Top [.t 42],la 44 3 3,ca 45 F.dyadic_Top [.t 44],cm 7 43,cm 8 45] [(1,2)]) (.seq (.seq (.ops [2,3,4,6,63] [cm 46 7,cm 47 8,co 48 (.mnx false (.t 46) [.t 47]),cm 49 6,b2 50 .sub 48 49,co 51 (.bin .gtr (.t 50) (.c (I 4097))),cm 52 51,cg 53 52 true (.mv (.t 7)),cg 54 52 true (.mv (.t 8)),cg 55 52 true (.bin .sub (.t 53) (.t 54)),cg 56 52 true (.bin .gtr (.t 55) (.c (I 1))),cg 57 52 true (.mv (.t 56)),cg 58 57 false (.mv (.t 8)),cg 59 57 false (.mv (.t 7)),cg 60 57 false (.bin .sub (.t 58) (.t 59)),cg 61 57 false (.bin .gtr (.t 60) (.c (I 1))),cg 62 52 true (.pick (.t 57) (.c (B true)) (.t 61)),co 63 (.pick (.t 52) (.t 62) (.c (B false)))]) (.cond (.t 63) (.seq (.ops [4,5] [co 64 (.build [B false,.emp,I 0] []),sr 3 (.t 4) (.t 64),co 5 (.mv (.c (I 9)))]) (.ret)) (.skip))) aql)))):=rfl
theorem as3{a b:Rd}(oa:Ok0 a)(ob:Ok0 b)(va:vd a=true)(vb:vd b=true)(na:a.m.length≠0)(nb:b.m.length≠0){e:Int}(he1:-16384<=e/\e<=a.e/\e<=b.e)(hX:aR a-e<=5000)(hY:aR b-e<=5000)(s:af)
  (h2:s 2=.ref 2 none 0 0 0) (h3:s 3=.ref 3 none 0 0 0) (h4:s 4=.ref 4 none 0 0 0) (h6:s 6=I e):
  gM false [[.o 0 [],.o 2 [],.o 0 []],[]] [.cell 4 3 true,.t 5] 0 (aj R (aH false) aql s (upd (upd (upd (fun _=>.dead) 2 (.bx (ak a))) 3 (.bx (ak b))) 4 (.bx [B false,.emp,I 0])))=some (rV (eH (dJ (zI a+zI b) (-16384))),[]):=by
 obtain⟨a1,a2,a3,a4⟩:=dT va oa.lb;obtain⟨b1,b2,b3,b4⟩:=dT vb ob.lb;have e1:=kW va na;have e2:=kW vb nb;have w1:IntKind.i64.wrap (a.e-e)=(((a.e-e).toNat:Nat):Int):=wi (by omega) (by omega);have w2:IntKind.i64.wrap (b.e-e)=(((b.e-e).toNat:Nat):Int):=wi (by omega) (by omega);have z1:zI a=dz a.neg (aa a.m*2^ (a.e-e).toNat*2^ (e+16384).toNat):=by
  grind[zI,dz,mg,BQ]
 have z2:zI b=dz b.neg (aa b.m*2^ (b.e-e).toNat*2^ (e+16384).toNat):=by
  rw[show zI b=dz b.neg (mg b)from rfl,BQ he1.1 he1.2.2]
 have bx:ae (aa a.m*2^ (a.e-e).toNat)<=5000:=by
  grind[dS,dy]
 have by':ae (aa b.m*2^ (b.e-e).toNat)<=5000:=by
  grind[dS,dy]
 have l1:=Ie oa.lb a1 (k:=(a.e-e).toNat) (by omega) (Nat.le_trans (aS (k:=157) (by omega)) (by decide));have l2:=Ie ob.lb b1 (k:=(b.e-e).toNat) (by omega) (Nat.le_trans (aS (k:=157) (by omega)) (by decide));rw[z1,z2];generalize aa a.m*2^ (a.e-e).toNat=x at l1 bx⊢;generalize aa b.m*2^ (b.e-e).toNat=y at l2 by'⊢;have hsum:∀ (n:Bool) (z:Nat),bA n z e=dJ (dz n (z*2^ (e+16384).toNat)) (-16384):=fun n z=>by
  rw[←EO,tC,show-16384+(((e+16384).toNat:Nat):Int)=e by omega]
 have lx:(ap x).length<=157:=aS (by omega);have ly:(ap y).length<=157:=aS (by omega);have hq:Exq e:=⟨by omega,by omega⟩;have hcp:=vQ (aP x) (aP y) (by omega) (by omega);rw[aL,aL]at hcp;have chk:∀ (n:Bool) (z:Nat),ae z<=5001->R F.dyadic_canonical [B n,lm (ap z),I e] []=some (ag (bA n z e),[])/\R F.dyadic_checked [ag (bA n z e)] []=some (rV (eH (bA n z e)),[]):=fun n z hz=>by
  have hl:(ap z).length<=157:=aS (by omega);have c1:=yt (neg:=n) (m:=ap z) (e:=e) (aP z) (by omega) hq;rw[aL]at c1;refine⟨c1,?_⟩;rw[Ib (uO n z e) (Nat.le_trans (BS (k:=157) (by omega)) (by decide))];exact congrArg (fun v=>some (v,[])) (J3 _)
 by_cases hs:a.neg=b.neg
 ·have p1:=abz (x:=x) (y:=y) bx by';obtain⟨c1,c2⟩:=chk a.neg (x+y) (yx bx by');have hz:dz a.neg (x*2^ (e+16384).toNat)+dz b.neg (y*2^ (e+16384).toNat)=dz a.neg ((x+y)*2^ (e+16384).toNat):=by
   rw[←hs,Nat.add_mul];cases a.neg
   all_goals grind[zz,xf]
  rw[hz,←hsum];generalize bA a.neg (x+y) e=r at c1 c2⊢;generalize eH r=q at c2⊢;obtain⟨q1,q2⟩:=q;have hs2:(a.neg==b.neg)=true:=by grind
  have hs3:(false != (a.neg==b.neg))=true:=by grind
  simp only[rV,ag,ak]at c1 c2;simp only[aql,rV,ag,ak,go_sem,apB,apA,apC,apD,apE,h2,h3,h4,h6,w1,w2,l1,l2,hs3,p1,c1,c2]
 ·have hs2:(a.neg==b.neg)=false:=by
   grind
  have hs3:(false != (a.neg==b.neg))=false:=by grind
  have hbn:b.neg=!a.neg:=by
   grind
  have hb1:∀u v:Nat,ae u<=5000->ae (u-v)<=5001:=fun u v hu=>vR (Nat.sub_le u v) (Nat.le_trans hu (by decide));by_cases hlt:x<y
  ·have e5:(bE x y<0)=True:=tt (by simp_all[bE,if_pos]);have m1:=Sq (x:=y) (y:=x) by' bx (by omega);obtain⟨c1,c2⟩:=chk b.neg (y-x) (hb1 _ _ by');have hz:dz a.neg (x*2^ (e+16384).toNat)+dz b.neg (y*2^ (e+16384).toNat)=dz b.neg ((y-x)*2^ (e+16384).toNat):=by
    grind[Bool.not_true,zz,xf]
   rw[hz,←hsum];generalize bA b.neg (y-x) e=r at c1 c2⊢;generalize eH r=q at c2⊢;obtain⟨q1,q2⟩:=q;simp only[rV,ag,ak]at c1 c2;simp only[aql,rV,ag,ak,go_sem,apB,apA,apC,apD,apE,h2,h3,h4,h6,w1,w2,l1,l2,hs3,hcp,e5,m1,c1,c2]
  ·have e5:(bE x y<0)=False:=ff (by unfold bE;omega);have m1:=Sq (x:=x) (y:=y) bx by' (by omega);obtain⟨c1,c2⟩:=chk a.neg (x-y) (hb1 _ _ bx);have hz:dz a.neg (x*2^ (e+16384).toNat)+dz b.neg (y*2^ (e+16384).toNat)=dz a.neg ((x-y)*2^ (e+16384).toNat):=by
    grind[Bool.not_true,zz,xf]
   rw[hz,←hsum];generalize bA a.neg (x-y) e=r at c1 c2⊢;generalize eH r=q at c2⊢;obtain⟨q1,q2⟩:=q;simp only[rV,ag,ak]at c1 c2;simp only[aql,rV,ag,ak,go_sem,apB,apA,apC,apD,apE,h2,h3,h4,h6,w1,w2,l1,l2,hs3,hcp,e5,m1,c1,c2]
theorem at0{a b:Rd}(oa:Ok0 a)(ob:Ok0 b)(va:vd a=true)(vb:vd b=true):R F.dyadic_sum [ag a,ag b] []=some (rV (eH (dJ (zI a+zI b) (-16384))),[]):=by
 refine aA ar7 rfl ?_;by_cases a0:a.m.length=0
 ·have e1:((a.m.length:Int)=0)=True:=tt (by omega);have hz:=AY va a0;obtain⟨b1,b2,b3,b4⟩:=dT vb ob.lb;have c1:=yt (neg:=b.neg) (m:=b.m) (e:=b.e) ob.lb (by omega) ⟨by omega,by omega⟩;have hr:bA b.neg (aa b.m) b.e=b:=arJ ob vb;have hk:eH (dJ (zI a+zI b) (-16384))=(b,0):=by
   simp_all[bP,Int.zero_add,SC,ar8]
  rw[hr]at c1;rw[hk];simp only[ag,ak]at c1;simp only[apX,aqP,rV,ag,ak,go_sem,apB,apA,apC,e1,c1]
 have e1:((a.m.length:Int)=0)=False:=ff (by omega);obtain⟨a1,a2,a3,a4⟩:=dT va oa.lb;by_cases b0:b.m.length=0
 ·have e2:((b.m.length:Int)=0)=True:=tt (by omega);have c1:=yt (neg:=a.neg) (m:=a.m) (e:=a.e) oa.lb (by omega) ⟨by omega,by omega⟩;have hr:bA a.neg (aa a.m) a.e=a:=arJ oa va;have hk:eH (dJ (zI a+zI b) (-16384))=(a,0):=by
   simp_all[bP,Int.add_zero,SC,ar8]
  rw[hr]at c1;rw[hk];simp only[ag,ak]at c1;simp only[apX,aqP,rV,ag,ak,go_sem,apB,apA,apC,e1,e2,c1]
 have e2:((b.m.length:Int)=0)=False:=ff (by omega);obtain⟨b1,b2,b3,b4⟩:=dT vb ob.lb;have ta:=AZ oa;have tb:=AZ ob;have q1:=kW va a0;have q2:=kW vb b0;have p1:=fk (dy va a0);have p2:=fk (dy vb b0);simp only[ag,ak]at ta tb;have g1:=fun h2 h3=>(ar9 oa ob va vb a0 b0 rfl h2 h3).1;have g2:=fun h2 h3=>(ar9 ob oa vb va b0 a0 rfl h2 h3).2;obtain⟨e,he⟩:∃e,(if b.e<a.e then b.e else a.e)=e:=⟨_,rfl⟩;have he2:(if a.e<b.e then a.e else b.e)=e:=by
  omega
 rw[he]at g1;rw[he2]at g2;have he1:-16384<=e/\e<=a.e/\e<=b.e:=by
  omega
 obtain⟨M,hM⟩:∃M,(if aR a<aR b then aR b else aR a)=M:=⟨_,rfl⟩;have w1:IntKind.i64.wrap (M-e)=M-e:=i64_in _ ⟨by omega,by omega⟩;have w2:IntKind.i64.wrap (aR a-aR b)=aR a-aR b:=i64_in _ ⟨by omega,by omega⟩;have w3:IntKind.i64.wrap (aR b-aR a)=aR b-aR a:=i64_in _ ⟨by omega,by omega⟩;by_cases h1:4097<M-e
 ·have f1:(4097<M-e)=True:=tt h1;by_cases h2:1<aR a-aR b
  ·have f2:(1<aR a-aR b)=True:=tt h2;rw[g1 (by omega) h2];simp only[apX,aqx,rV,aK,ag,ak,go_sem,apB,apA,apC,apD,apE,e1,e2,he,ta,tb,hM,w1,w2,f1,f2]
  ·have f2:(1<aR a-aR b)=False:=ff h2;by_cases h3:1<aR b-aR a
   ·have f3:(1<aR b-aR a)=True:=tt h3;rw[g2 (by omega) h3];simp only[apX,aqx,rV,aK,ag,ak,go_sem,apB,apA,apC,apD,apE,e1,e2,he,ta,tb,hM,w1,w2,w3,f1,f2,f3]
   omega
 ·have f1:(4097<M-e)=False:=ff h1;simp only[apX,aqx,rV,ag,ak,go_sem,apB,apA,apC,apD,apE,e1,e2,he,ta,tb,hM,w1,f1];exact as3 oa ob va vb a0 b0 he1 (by omega) (by omega) _ rfl rfl rfl rfl
theorem asx{a b:Rd}(oa:Ok0 a)(ob:Ok0 b):R F.dyadic_Add [ag a,ag b] []=some (rV (nX a b),[]):=by
 refine aA ar5 rfl ?_;have v1:=gu oa;have v2:=gu ob;simp only[ag,ak]at v1 v2;unfold nX;cases va:vd a with
 |false=>
  rw[va]at v1;simp only[aqt,aqO,rV,aK,ag,ak,go_sem,apB,apA,apC,v1]
 |true=>
  rw[va]at v1;cases vb:vd b with
  |false=>
   rw[vb]at v2;simp only[aqt,aqO,rV,aK,ag,ak,go_sem,apB,apA,apC,v1,v2]
  |true=>
   rw[vb]at v2;have hs:=at0 oa ob va vb;simp only[rV,ag,ak]at hs;simp only[aqt,aqO,rV,ag,ak,go_sem,apB,apA,apC,v1,v2,hs]
theorem LI:∀a:List Int,jN a a=0
 |[]=>rfl
 |x::a=>by
  unfold jN;rw[if_pos (by unfold bD;simp),LI a]
theorem asy:∀ {a b:List Int},a.length=b.length->jN a b=0->a=b
 |[],[],_,_=>rfl
 |x::a,y::b,h,h2=>by
  unfold jN at h2;rcases ru x y with⟨g,e⟩| ⟨g,e⟩| ⟨g,e⟩<;>rw[e]at h2
  ·omega
  ·rw[g,asy (by simpa using h) h2]
  omega
 |[],_::_,h,_=>by grind
 |_::_,[],h,_=>by grind
theorem LJ:∀ {a b:List Int},a.length=b.length->jN b a=-jN a b
 |[],[],_=>rfl
 |x::a,y::b,h=>by
  unfold jN;rcases ru x y with⟨g,e⟩| ⟨g,e⟩| ⟨g,e⟩<;>rcases ru y x with⟨g',e'⟩| ⟨g',e'⟩| ⟨g',e'⟩<;>rw[e,e']<;>first|omega| (simp;done)|skip
  exact LJ (by simpa using h)
 |[],_::_,h=>by grind
 |_::_,[],h=>by grind
theorem SP:∀ {a b c:List Int},a.length=b.length->b.length=c.length->(jN a b<=0->jN b c<0->jN a c<0)/\(jN a b<0->jN b c<=0->jN a c<0)
 |[],[],[],_,_=>⟨fun _ h=>by omega,fun h _=>by omega⟩
 |x::a,y::b,z::c,h,h'=>by
  have ih:=SP (a:=a) (b:=b) (c:=c) (by grind) (by grind);unfold jN;rcases ru x y with⟨g,e⟩| ⟨g,e⟩| ⟨g,e⟩<;>rcases ru y z with⟨g',e'⟩| ⟨g',e'⟩| ⟨g',e'⟩<;>rcases ru x z with⟨g2,e2⟩| ⟨g2,e2⟩| ⟨g2,e2⟩<;>rw[e,e',e2]<;>first|omega|skip
  all_goals first|exact ih|omega
 |[],[],_::_,_,h=>by grind
 |[],_::_,_,h,_=>by grind
 |_::_,[],_,h,_=>by grind
 |_::_,_::_,[],_,h=>by grind
theorem XE(a:List Int):dH a a=0:=by
 simp_all[dH,if_pos,bD,LI]
theorem at1{a b:List Int}(h:a.length=b.length)(h2:dH a b=0):a=b:=by
 unfold dH at h2;rcases ru (bY a) (bY b)with⟨g,e⟩| ⟨g,e⟩| ⟨g,e⟩<;>rw[e]at h2
 ·omega
 ·grind[asy]
 omega
theorem XF{a b:List Int}(h:a.length=b.length):dH b a=-dH a b:=by
 unfold dH;rcases ru (bY a) (bY b)with⟨g,e⟩| ⟨g,e⟩| ⟨g,e⟩<;>rcases ru (bY b) (bY a)with⟨g',e'⟩| ⟨g',e'⟩| ⟨g',e'⟩<;>rw[e,e']<;>first|omega| (simp;done)|skip
 grind[LJ]
theorem SQ{a b c:List Int}(h:a.length=b.length)(h':b.length=c.length):(dH a b<=0->dH b c<0->dH a c<0)/\(dH a b<0->dH b c<=0->dH a c<0):=by
 have ih:=SP (a:=c) (b:=b) (c:=a) h'.symm h.symm;unfold dH;rcases ru (bY a) (bY b)with⟨g,e⟩| ⟨g,e⟩| ⟨g,e⟩<;>rcases ru (bY b) (bY c)with⟨g',e'⟩| ⟨g',e'⟩| ⟨g',e'⟩<;>rcases ru (bY a) (bY c)with⟨g2,e2⟩| ⟨g2,e2⟩| ⟨g2,e2⟩<;>rw[e,e',e2]<;>first|omega|skip
 all_goals first|exact⟨fun x y=>ih.2 y x,fun x y=>ih.1 y x⟩|omega
structure VT (v:Int) (t:Rt):Prop where
 c:Ok0 t.c
 len:(t.exps.length:Int)=v
 v8:v<=8
 vc:vd t.c=true
 nz:t.c.m.length≠0
 b:∀e∈t.exps,0<=e/\e<=32
 d:bY t.exps<=32
theorem VT.sm{v:Int}{t:Rt}(h:VT v t):sm t.exps:=⟨by have:=h.len;have:=h.v8;omega,h.b⟩
theorem VT.ok{v:Int}{t:Rt}(h:VT v t):OkT t:=⟨h.c,by have:=h.len;have:=h.v8;omega⟩
theorem VT.l2{v:Int}{t q:Rt}(h:VT v t)(h2:VT v q):t.exps.length=q.exps.length:=by have:=h.len;have:=h2.len;omega
structure Cl (v:Int) (l:List Rt):Prop where
 t:∀t∈l,VT v t
 s:l.Pairwise fun a b=>dH a.exps b.exps<0
theorem Cl.nil(v:Int):Cl v []:=⟨(fun _ h=>nomatch h),List.Pairwise.nil⟩
theorem Cl.cons{v:Int}{q:Rt}{l:List Rt}(h:Cl v (q::l)):VT v q/\(∀t∈l,dH q.exps t.exps<0)/\Cl v l:=
 ⟨h.t q (by simp),(List.pairwise_cons.1 h.s).1,fun t ht=>h.t t (by grind),(List.pairwise_cons.1 h.s).2⟩
theorem Cl.mk'{v:Int}{q:Rt}{l:List Rt}(h1:VT v q)(h2:∀t∈l,dH q.exps t.exps<0)(h3:Cl v l):Cl v (q::l):=
 ⟨fun t ht=>(List.mem_cons.1 ht).elim (fun e=>e▸h1) (h3.t t),List.pairwise_cons.2 ⟨h2,h3.s⟩⟩
theorem XG{v:Int}(hv:v<=8):∀ (l:List Rt) (pr:Option Rt),(∀t∈l,OkT t)->vW v pr l=true->Cl v l/\∀q,pr=some q->(q.exps.length:Int)=v->∀t∈l,dH q.exps t.exps<0
 |[],pr,_,_=>⟨Cl.nil v,fun _ _ _ t ht=>by grind⟩
 |t::l,pr,ok,h=>by
  unfold vW at h;simp only[Bool.and_eq_true]at h;obtain⟨h1,h2,h3⟩:=h;obtain⟨g1,g2⟩:=XG hv l (some t) (fun x hx=>ok x (by grind)) h3;obtain⟨k1,k2,k3,k4,k5⟩:=tI h1;have vt:VT v t:=⟨(ok t (by simp)).c,k1,hv,k2,k3,qm k4,k5⟩;have gt:=g2 t rfl k1;refine⟨Cl.mk' vt gt g1,fun q hq hl x hx=>?_⟩;subst hq;have h4:=of_decide_eq_true h2;rcases List.mem_cons.1 hx with rfl|hx
  ·omega
  ·exact(SQ (by omega) (vt.l2 (g1.t x hx))).1 (by omega) (gt x hx)
theorem Ve{a:Rp}(oa:OkP a)(h:vp a=true):Cl a.vars a.terms/\0<=a.vars/\a.vars<=8/\a.terms.length<=500:=by
 unfold vp at h;simp only[Bool.and_eq_true,decide_eq_true_eq]at h;exact⟨(XG h.2.1 _ none oa.t h.2.2.2).1,h.1,h.2.1,h.2.2.1⟩
theorem as4{v:Int}:∀ (l:List Rt) (pr:Option Rt),Cl v l->(∀q,pr=some q->∀t∈l,dH q.exps t.exps<0)->vW v pr l=true
 |[],pr,_,_=>by grind[vW]
 |t::l,pr,c,h=>by
  obtain⟨c1,c2,c3⟩:=c.cons;unfold vW;simp only[Bool.and_eq_true];refine⟨?_,?_,as4 l (some t) c3 fun q hq=>by grind⟩
  ·unfold CD;simp only[Bool.and_eq_true,decide_eq_true_eq];refine⟨c1.len,c1.vc,c1.nz,?_,c1.d⟩;rw[Bool.not_eq_true',List.any_eq_false];intro e he;have:=c1.b e he;grind[tH]
  ·unfold UZ;grind
theorem atU{v:Int}{l:List Rt}(h:Cl v l)(h0:0<=v)(h8:v<=8)(hl:l.length<=500):vp ⟨v,l⟩=true:=by
 simp_all[vp,Bool.and_eq_true,decide_eq_true_eq,as4]
theorem as5{v:Int}{l:List Rt}(h:Cl v l):OkP ⟨v,l⟩:=⟨fun t ht=>(h.t t ht).ok⟩
def adz:List Rt->List Int->Nat
 |[],_=>0
 |q::l,x=>if dH q.exps x<0 then adz l x+1 else 0
def B4:List Rt->Rt->Option (List Rt)
 |[],t=>some [t]
 |q::l,t=>if dH q.exps t.exps<0 then(B4 l t).map (q::·)else if dH q.exps t.exps=0 then(if(nX q.c t.c).2=0 then some (if(nX q.c t.c).1.m.length=0 then l else⟨q.exps,(nX q.c t.c).1⟩::l)else none)else some (t::q::l)
theorem arA:∀ (l:List Rt) (x:List Int),adz l x<=l.length
 |[],x=>Nat.le_refl _
 |q::l,x=>by
  unfold adz;split
  all_goals simp_all[Nat.succ_le_succ,arA,Nat.zero_le]
theorem asz:∀ {l:List Rt} {x:List Int} {i:Nat} {q:Rt},i<adz l x->l[i]?=some q->dH q.exps x<0
 |[],x,i,q,h,_=>by grind
 |p::l,x,i,q,h,hq=>by
  unfold adz at h;split at h
  ·cases i with
   |zero=>grind
   |succ i=>exact asz (l:=l) (i:=i) (by omega) (by grind)
  omega
theorem arB:∀ {l:List Rt} {x:List Int} {q:Rt},l[adz l x]?=some q->0<=dH q.exps x
 |[],x,q,h=>by grind
 |p::l,x,q,h=>by
  unfold adz at h;split at h
  ·exact arB (l:=l) (by grind)
  grind
theorem at2{v:Int}{l:List Rt}{x:List Int}(c:Cl v l)(hx:(x.length:Int)=v){i:Nat}{q:Rt}(hi:adz l x<i)(h:l[i]?=some q):0<dH q.exps x:=by
 have hlt:=(List.getElem?_eq_some_iff.1 h).1;have h1:l[adz l x]?=some l[adz l x]:=List.getElem?_eq_getElem (by omega);have h2:=arB h1;have h3:=(List.getElem?_eq_some_iff.1 h).2;have h4:dH (l[adz l x]).exps q.exps<0:=by
  rw[←h3];exact List.pairwise_iff_getElem.1 c.s _ _ (by omega) hlt hi
 have v1:=c.t _ (List.getElem_mem (by omega:adz l x<l.length));have v2:=c.t q (List.mem_of_getElem? h);generalize l[adz l x]=p at*
 have l1:x.length=p.exps.length:=by have:=v1.len;omega
 have h5:=(SQ l1 (v1.l2 v2)).1 (by grind[XF]) h4;rw[XF (by have:=v2.len;omega:x.length=q.exps.length)];omega
theorem asA:∀ (l:List Rt) (t:Rt),B4 l t=match l[adz l t.exps]? with
  |none=>some (l.take (adz l t.exps)++t::l.drop (adz l t.exps))
  |some q=>if dH q.exps t.exps=0 then(if(nX q.c t.c).2=0 then some (if(nX q.c t.c).1.m.length=0 then l.take (adz l t.exps)++l.drop (adz l t.exps+1)else l.set (adz l t.exps) ⟨q.exps,(nX q.c t.c).1⟩)else none)else some (l.take (adz l t.exps)++t::l.drop (adz l t.exps))
 |[],t=>rfl
 |q::l,t=>by
  unfold B4 adz;by_cases h:dH q.exps t.exps<0
  ·simp only[if_pos h,List.getElem?_cons_succ];rw[asA l t];cases l[adz l t.exps]? with
   |none=>rfl
   |some p=>
    simp only[];split
    ·split
     ·split<;>rfl
     ·rfl
    ·rfl
  grind
theorem SR{v:Int}:∀ {l l':List Rt} {t:Rt},Cl v l->VT v t->B4 l t=some l'->Cl v l'/\∀q:List Int,(q.length:Int)=v->(∀x∈l,dH q x.exps<0)->dH q t.exps<0->∀x∈l',dH q x.exps<0
 |[],l',t,c,vt,h=>by
  cases h;grind[Cl.mk']
 |p::l,l',t,c,vt,h=>by
  obtain⟨c1,c2,c3⟩:=c.cons;unfold B4 at h;split at h
  ·rename_i h1;rw[Option.map_eq_some_iff]at h;obtain⟨l2,h2,rfl⟩:=h;obtain⟨g1,g2⟩:=SR c3 vt h2;refine⟨Cl.mk' c1 (g2 p.exps c1.len c2 h1) g1,fun q hq k1 k2 x hx=>?_⟩;grind
  ·split at h
   ·split at h
    ·cases h;split
     ·grind
     ·rename_i h4;obtain⟨a1,a2⟩:=Kj p.c t.c;refine⟨Cl.mk' ⟨a2,c1.len,c1.v8,a1,h4,c1.b,c1.d⟩ c2 c3,fun q hq k1 k2 x hx=>?_⟩;grind
    grind
   ·cases h;have h3:dH t.exps p.exps<0:=by
     rw[XF (c1.l2 vt)];omega
    refine⟨Cl.mk' vt (fun x hx=>?_) c,fun q hq k1 k2 x hx=>?_⟩
    ·rcases List.mem_cons.1 hx with rfl|hx
     ·omega
     ·exact(SQ (vt.l2 c1) (c1.l2 (c3.t x hx))).1 (by omega) (c2 x hx)
    grind
theorem Pu:∀ {l l':List Rt} {t:Rt},B4 l t=some l'->l'.length<=l.length+1
 |[],l',t,h=>by cases h;simp
 |p::l,l',t,h=>by
  unfold B4 at h;split at h
  ·rw[Option.map_eq_some_iff]at h;obtain⟨l2,h2,rfl⟩:=h;simpa using Pu h2
  grind
theorem asa:∀ {l:List Rt} {t:Rt},(∀q∈l,dH q.exps t.exps<0)->B4 l t=some (l++[t])
 |[],t,_=>rfl
 |p::l,t,h=>by
  unfold B4;rw[if_pos (h p (by simp)),asa fun q hq=>h q (by simp[hq])];rfl
def B5:List Rt->List Rt->Option (List Rt)
 |l,[]=>some l
 |l,t::ts=>(B4 l t).bind fun l'=>B5 l' ts
theorem Pw:∀ (ts us:List Rt) (l:List Rt),B5 l (ts++us)=(B5 l ts).bind fun l'=>B5 l' us
 |[],us,l=>rfl
 |t::ts,us,l=>by
  show(B4 l t).bind _=((B4 l t).bind _).bind _;cases B4 l t with
  |none=>rfl
  |some l'=>exact Pw ts us l'
theorem SS{v:Int}:∀ {ts l l':List Rt},Cl v l->(∀t∈ts,VT v t)->B5 l ts=some l'->Cl v l'/\l'.length<=l.length+ts.length
 |[],l,l',c,_,h=>by cases h;grind
 |t::ts,l,l',c,vt,h=>by
  unfold B5 at h;rw[Option.bind_eq_some_iff]at h;obtain⟨l2,h2,h3⟩:=h;obtain⟨g1,g2⟩:=SS (SR c (vt t (by simp)) h2).1 (fun x hx=>vt x (by grind)) h3;have:=Pu h2;grind
theorem asb{v:Int}:∀ {ts l:List Rt},Cl v (l++ts)->B5 l ts=some (l++ts)
 |[],l,_=>by simp[B5]
 |t::ts,l,c=>by
  have h1:B4 l t=some (l++[t]):=asa fun q hq=>by
   have:=List.pairwise_append.1 c.s;grind
  unfold B5;rw[h1];show B5 (l++[t]) ts=_;rw[asb (v:=v) (by grind),List.append_assoc];rfl
section
variable {call:ef} {md:Mode} {s:af} {h:ac}
@[go_sem] theorem anl(d k x y rest):aC call md (⟨some d,none,.cpy k x y⟩::rest) s h=aT (aqv md.nm s (some d) (Jm h k (ev s x) (ev s y))) (aC call md rest):=_root_.id rfl
@[go_sem] theorem akm(d k x lo hi rest):aC call md (⟨some d,none,.slcM k x lo hi⟩::rest) s h=aT (aqv md.nm s (some d) (En h k (ev s x) (evo s lo) (evo s hi))) (aC call md rest):=_root_.id rfl
@[go_sem] theorem anm(d k z x rest):aC call md (⟨d,none,.clr k z x⟩::rest) s h=aT (aqv md.nm s d (Jn h k z (ev s x))) (aC call md rest):=_root_.id rfl
@[go_sem] theorem akn(d k b z x n rest):aC call md (⟨some d,none,.appz k b z x n⟩::rest) s h=aT (aqv md.nm s (some d) (Eo h d k b z (ev s x) (ev s n))) (aC call md rest):=_root_.id rfl
@[go_sem] theorem ako(d x rest):aC call md (⟨some d,none,.take x⟩::rest) s h=aT (aqv md.nm s (some d) (Hg h d (ev s x))) (aC call md rest):=_root_.id rfl
@[go_sem] theorem aiz(d f zas rest):aC call md (⟨some d,none,.callC f zas⟩::rest) s h=aT (aqv md.nm s (some d) ((bI call md h d (zas.map (ev s)) (ev s f)).bind (sz d))) (aC call md rest):=_root_.id rfl
@[go_sem] theorem akp(ps acc d k x y rest):aqu call md ps acc (⟨some d,none,.cpy k x y⟩::rest) s h=gR call md ps acc rest s (some d) (fun _=>none) (Jm h k (ev s x) (ev s y)):=dO _ _ _ _ rfl
@[go_sem] theorem akq(ps acc d k b x y rest):aqu call md ps acc (⟨some d,none,.app k b x y⟩::rest) s h=gR call md ps acc rest s (some d) (fun _=>none) (Jl h d k b (ev s x) (ev s y)):=dO _ _ _ _ rfl
@[go_sem] theorem agp(ps acc d f zas rest):aqu call md ps acc (⟨some d,none,.callC f zas⟩::rest) s h=gR call md ps acc rest s (some d) (fun _=>CN d h (kj (zas.map (ev s)) (ev s f))) ((bI call md h d (zas.map (ev s)) (ev s f)).bind (sz d)):=dO _ _ _ _ rfl
@[go_sem] theorem aiA(d h l):CN d h l=if l.all dat=true then some ([],[2000+8*d])else none:=_root_.id rfl
@[go_sem] theorem ann(d k r h ks):sz d (.sl k r,h,ks)=some (.sl k r,h,ks):=_root_.id rfl
@[go_sem] theorem akr(d h ks):sz d (.emp,h,ks)=some (.emp,h,ks):=_root_.id rfl
@[go_sem] theorem aks(d id k lo n h ks):sz d (.rsl id none k lo n,h,ks)=if id=2000+8*d then(mf h id k lo n (h id)).map (fun q=>(q.1,q.2.1,ks++q.2.2))else none:=_root_.id rfl
@[go_sem] theorem ano(h k id k' lo n y):Jm h k (.rsl id none k' lo n) y=(Nh y).bind fun l=>(pE h k (Ng n y)).bind fun ys=>Ni h id k k' lo n l ys (h id):=_root_.id rfl
@[go_sem] theorem anp(k r):Nh (.sl k r)=some r.length:=_root_.id rfl
@[go_sem] theorem akt(id sub k lo n):Nh (.rsl id sub k lo n)=some n:=_root_.id rfl
@[go_sem] theorem anq(m k r):Ng m (.sl k r)=.sl k (r.take m):=_root_.id rfl
@[go_sem] theorem aku(m id sub k lo n):Ng m (.rsl id sub k lo n)=.rsl id sub k lo (min m n):=_root_.id rfl
@[go_sem] theorem anr(h id k lo n l ys r):Ni h id k k lo n l ys (.ar k r)=if lo<=r.length/\ys.length=min l n then some (.v (.int .i64 ys.length),upd h id (.ar k (r.take lo++ys++r.drop (lo+ys.length))),[])else none:=by simp[Ni]
@[go_sem] theorem akv(h k id l0 n lo hi):En h k (.rsl id none k l0 n) lo hi=He h k id l0 lo hi (h id):=by simp[En]
@[go_sem] theorem akw(h k id l0 lo hi r):He h k id l0 lo hi (.ar k r)=if hi.isSome=true/\l0<=r.length then(nO (r.length-l0) lo hi none).map fun p=>(.rsl id none k (l0+p.1) (p.2-p.1),h,[])else none:=by simp[He]
@[go_sem] theorem ans(h k z id lo n):Jn h k z (.rsl id none k lo n)=Nj h k id lo n z (h id):=by simp[Jn]
@[go_sem] theorem ant(h k id lo n z r):Nj h k id lo n z (.ar k r)=if lo+n<=r.length then some (.tup [],upd h id (.ar k (r.take lo++List.replicate n z++r.drop (lo+n))),[])else none:=by simp[Nj]
@[go_sem] theorem akx(h d k b z id i c m):Eo h d k b z (.rsc id k 0 i c) (.v (.int .i64 m))=if 0<m/\c<i+m.toNat then Hf h d k b id i m.toNat z (h id)else none:=by simp[Eo]
@[go_sem] theorem aky(h d k b id i m z r):Hf h d k b id i m z (.ar k r)=if i<=r.length/\(i+m)*b<=140737488355328 then dA h d k (r.take i++List.replicate m z) (i+m) []else none:=by simp[Hf]
@[go_sem] theorem anu(id k lo n c):lC false (.rsc id k lo n c)=some (I n):=_root_.id rfl
@[go_sem] theorem anv(id k lo n c):Nc (.rsc id k lo n c)=some (I c):=_root_.id rfl
@[go_sem] theorem anw(k id l0 n c lo hi mx):gh k (.rsc id k l0 n c) lo hi mx=M9 k id l0 n c lo hi mx:=by simp[gh]
@[go_sem] theorem anx(k id l0 n c x):M9 k id l0 n c none (some x) none=(lB n c (some x)).map fun r=>.rsc id k l0 r c:=_root_.id rfl
@[go_sem] theorem anz(k id l0 n c x hi):M9 k id l0 n c (some x) hi none=(nO n (some x) hi none).map fun p=>.rsl id none k (l0+p.1) (p.2-p.1):=_root_.id rfl
@[go_sem] theorem anA(ks id k lo n c):nY ks (.rsc id k lo n c)=if gS ks id none=true then .any else .rsc id k lo n c:=_root_.id rfl
@[go_sem] theorem akz(h d id k i j):Hg h d (.ref id none k i j)=MM h d id (i*k+j) (h id):=_root_.id rfl
@[go_sem] theorem akA(h d id p cs):MM h d id p (.bx cs)=Ep h d id p cs cs[p]?:=_root_.id rfl
@[go_sem] theorem aiB(h d id p cs k r):Ep h d id p cs (some (.osl k r))=dA (upd h id (.bx (cs.set p .any))) d k r r.length [(id,true)]:=_root_.id rfl
@[go_sem] theorem aiC(h d id p cs):Ep h d id p cs (some .emp)=some (.emp,h,[]):=_root_.id rfl
@[go_sem] theorem akB(nm:Bool)(s h):ud nm [] s h=some ⟨s,h⟩:=_root_.id rfl
@[go_sem] theorem aiD(nm:Bool)(i l s h):ud nm (i::l) s h=if 200000<=i then(Jo (i-200000) s h (s (i-200000))).bind (fun r=>if mn nm r.2.2 then ud nm l r.1 r.2.1 else none)else if 100000<=i then ud nm l s (Es h (s (i-100000)))else(CO i s h (s i)).bind fun r=>if mn nm r.2.2 then ud nm l r.1 r.2.1 else none:=_root_.id rfl
@[go_sem] theorem agq(ks):mn false ks=true:=_root_.id rfl
@[go_sem] theorem anB(i s h id k lo n):Jo i s h (.rsl id none k lo n)=CP i s h id k lo n (h id):=_root_.id rfl
@[go_sem] theorem anC(i s h id k lo n c):Jo i s h (.rsc id k lo n c)=CP i s h id k lo n (h id):=_root_.id rfl
@[go_sem] theorem anD(i s h id k lo n r):CP i s h id k lo n (.ar k r)=if lo=0/\aQ i=false/\cY (h i)=true then some (upd (gJ [(id,false)] s) i (.rsl i none k 0 n),upd (upd h id .dead) i (.ar k r),[(id,false)])else none:=by simp[CP]
@[go_sem] theorem akC(h id k lo n):Es h (.rsl id none k lo n)=(match h id with| .ar k rows=>upd h id (.ar k (rows.take (lo+n)))|_=>h):=_root_.id rfl
@[go_sem] theorem anE(nm:Bool)(s h):nZ nm 0 s h=some ⟨s,h⟩:=_root_.id rfl
@[go_sem] theorem anF(nm:Bool)(i s h):nZ nm (i+1) s h=(K4 i s h (s i)).bind fun r=>if mn nm r.2.2 then some ⟨r.1,r.2.1⟩else none:=_root_.id rfl
@[go_sem] theorem anG(i s h):K4 i s h .emp=some (s,h,[]):=_root_.id rfl
@[go_sem] theorem anH(i s h id p k lo n):K4 i s h (.rsl id (some p) k lo n)=if aQ i=false then RW i s h id p k lo n (h id)else none:=_root_.id rfl
@[go_sem] theorem ao6(i s h id p k lo n cs):RW i s h id p k lo n (.bx cs)=Hk i s h id p k lo n cs cs[p]?:=_root_.id rfl
@[go_sem] theorem anI(i s h id p k lo n cs r):Hk i s h id p k lo n cs (some (.osl k r))=if lo=0/\n=r.length/\cY (h i)=true then some (upd (gJ [(id,true)] s) i (.rsl i none k 0 n),upd (upd h id (.bx (cs.set p .any))) i (.ar k r),[(id,true)])else none:=by simp[Hk]
@[go_sem] theorem anJ(m g ps l):Y6 call md m g ps l s h=aT (aqu call md ps [] (l.take m) s h) fun s h=>aT (nZ md.nm g s h) (aC call md (l.drop m)):=_root_.id rfl
end
theorem asB{t:Rt}{x:List Int}(ht:sm t.exps)(hx:sm x)(hl:t.exps.length=x.length):R F.poly_collector_add_1 [.agg (eU t),.sl 1 (bw x)] []=some (I (dH t.exps x),[]):=by
 refine aA aq4 rfl ?_;have ho:=ZD ht hx hl;simp only[aqe,aqH,eU,go_sem,apB,apA,ho]
theorem at3{v:Int}{l:List Rt}{x:List Int}(c:Cl v l)(hx:sm x)(hl:(x.length:Int)=v)(h2:l.length<=1000000):∀ (k i j:Nat),j-i<=k->i<=adz l x->adz l x<=j->j<=l.length->∀ (s:af) (h:ac),s 0=.sl 4 (cU l)->s 1=.sl 1 (bw x)->s 2=.fn F.poly_collector_add_1 [] []->s 8=I l.length->s 9=I i->s 10=I j->
  am 0 [0,1,2,8,9] (aD (aj R (aH false) aa6) [0,1,2,8,9,10] [] s h)=some (.normal,⟨upd (upd (upd (upd (upd (fun _=>.any) 9 (I (adz l x))) 8 (I l.length)) 2 (.fn F.poly_collector_add_1 [] [])) 1 (.sl 1 (bw x))) 0 (.sl 4 (cU l)),fun _=>.dead⟩):=by
 intro k;induction k with
 |zero=>
  intro i j hk hi hj hn s h h0 h1 h2' h8 h9 h10;have e1:((i:Int)< (j:Int))=False:=ff (by omega);obtain rfl:i=adz l x:=by omega
  rw[ai];simp only[aa6,go_sem,h0,h1,h2',h8,h9,h10,e1]
 |succ k ih=>
  intro i j hk hi hj hn s h h0 h1 h2' h8 h9 h10;by_cases hij:i<j
  ·have e1:((i:Int)< (j:Int))=True:=tt (by omega);have e2:IntKind.i64.wrap ((i:Int)+(j:Int))=((i+j:Nat):Int):=wi (by omega) (by omega);have hlt:(i+j)/2<l.length:=by omega
   have g1:IntKind.u64.wrap (((i+j:Nat)):Int)=((i+j:Nat):Int):=cK rfl (by omega);have g2:((1:Int)<0)=False:=ff (by decide);have g3:Int.fdiv ((i+j:Nat):Int) (2^ (min (Int.toNat 1) 64))=(((i+j)/2:Nat):Int):=by
    grind
   have g4:IntKind.i64.wrap (((i+j)/2:Nat):Int)=(((i+j)/2:Nat):Int):=wi (by omega) (by omega);have e3:aV (cU l) (((i+j)/2:Nat):Int)=some (.ipt (eU l[(i+j)/2])):=qk rfl (List.getElem?_eq_getElem hlt);have q:=c.t _ (List.getElem_mem hlt);have hc:=asB q.sm hx (by have:=q.len;omega);have p1:dH (l[(i+j)/2]).exps x<0->(i+j)/2<adz l x:=fun ho=>by
    rcases Nat.lt_trichotomy ((i+j)/2) (adz l x)with h|h|h
    ·omega
    ·have:=arB (l:=l) (x:=x) (q:=l[(i+j)/2]) (by grind);omega
    ·have:=at2 c hl h (List.getElem?_eq_getElem hlt);omega
   have p2:¬dH (l[(i+j)/2]).exps x<0->adz l x<=(i+j)/2:=fun ho=>by
    grind[absurd,asz]
   have i1:=ih ((i+j)/2+1) j (by omega);have i2:=ih i ((i+j)/2) (by omega) hi;generalize l[(i+j)/2]=t at e3 q hc p1 p2;rw[ai];generalize aD _ _ _=L at i1 i2⊢;simp only[eU]at hc e3;by_cases ho:dH t.exps x<0
   ·have e4:(dH t.exps x<0)=True:=tt ho;have e5:IntKind.i64.wrap ((((i+j)/2:Nat):Int)+1)=(((i+j)/2+1:Nat):Int):=wi (by omega) (by omega);have:=p1 ho;simp only[aa6,go_sem,apB,apA,apC,h0,h1,h2',h8,h9,h10,e1,e2,g1,g2,g3,g4,e3,hc,e4,e5];exact i1 (by omega) hj hn _ _ rfl rfl rfl rfl rfl rfl
   ·have e4:(dH t.exps x<0)=False:=ff ho;have:=p2 ho;simp only[aa6,go_sem,apB,apA,apC,h0,h1,h2',h8,h9,h10,e1,e2,g1,g2,g3,g4,e3,hc,e4];exact i2 this (by omega) _ _ rfl rfl rfl rfl rfl rfl
  grind
def arh(l:List Rt)(x:List Int):Bool:=match l[adz l x]? with
 |some q=>decide (dH q.exps x=0)
 |none=>false
theorem asS{v:Int}{l:List Rt}{x:List Int}(c:Cl v l)(hx:sm x)(hl:(x.length:Int)=v)(h2:l.length<=1000000):R F.slices_BinarySearchFunc_api_Term_api_Term_Sint_ [.sl 4 (cU l),.sl 1 (bw x),.fn F.poly_collector_add_1 [] []] []=some (.tup [I (adz l x),B (arh l x)],[]):=by
 refine Zd ap9 ap8 (ag8 false) rfl ?_;have h3:=at3 c hx hl h2 l.length 0 l.length (by omega) (Nat.zero_le _) (arA l x) (Nat.le_refl _);simp only[aey,aiH,go_sem];rw[h3 _ _ rfl rfl rfl rfl rfl rfl];unfold arh;cases hq:l[adz l x]? with
 |none=>
  have:l.length<=adz l x:=List.getElem?_eq_none_iff.1 hq;have e1:((adz l x:Int)< (l.length:Int))=False:=ff (by omega);simp only[go_sem,e1]
 |some q=>
  have hlt:=(List.getElem?_eq_some_iff.1 hq).1;have e1:((adz l x:Int)< (l.length:Int))=True:=tt (by omega);have vq:=c.t q (List.mem_of_getElem? hq);have hc:=asB vq.sm hx (by have:=vq.len;omega);have e3:aV (cU l) (adz l x:Int)=some (.ipt (eU q)):=qk rfl hq;simp only[eU]at hc e3;by_cases ho:dH q.exps x=0
  ·have e4:(dH q.exps x=0)=True:=tt ho;simp only[go_sem,apB,apA,apC,e1,e3,hc,e4,decide_true]
  ·have e4:(dH q.exps x=0)=False:=ff ho;simp only[go_sem,apB,apA,apC,e1,e3,hc,e4,decide_false]
theorem arK{d:Rd}(hn:d.m.length≠0)(h1:d.m.length<=100000):R F.poly_copied [ag d] []=some (ag d,[]):=by
 refine aA arZ rfl ?_;have hc:=GI (m:=d.m) (fun h=>hn (by grind)) h1;simp only[aqV,ard,ag,ak,go_sem,apB,apA,apC,hc]
theorem asC{h:ac}{d id p n:Nat}{cs:List AV}{rows:List (List AV)}{x:AV}(hh:h id=.bx cs)(hp:cs[p]?=some (.osl 4 rows))(hn:n=rows.length)(hx:∃r,x=.sl 1 r):
  bI R (aH false) h d [.rsl id (some p) 4 0 n,x,.fn F.poly_collector_add_1 [] []] (.fn F.slices_BinarySearchFunc_api_Term_api_Term_Sint_ [] [])=(R F.slices_BinarySearchFunc_api_Term_api_Term_Sint_ (bv [[.o 5 [.o 2 [],.o 0 [],.o 2 [],.o 0 []]],[.o 2 []],[]] [.sl 4 rows,x,.fn F.poly_collector_add_1 [] []]) []).bind (YC h):=by
 obtain⟨r,rfl⟩:=hx;unfold bI
 simp_all[if_pos,sy,aiI,Tw,MN,Nm,YB,vC,jl,ub,gx,List.nil_append,List.append_nil,aiE]
theorem Px(o:Ob):ao [o]=upd (fun _=>.dead) 1000 o:=by
 unfold ao upd;grind
theorem Vf{f:FuncId}{fd:FD}{args:List AV}{o:Ob}{r:AV×List Ob}(hE:dv.E f=none)(hC:dv.C f=some fd)(hk:dv.md.keep f=false)(h1:args.length=fd.np)
  (hz:gM false fd.rs fd.res 1 (aj R (aH false) fd.body (oO args) (upd (fun _=>.dead) 1000 o))=some r):R f args [o]=some r:=by
 grind[HU,Px]
theorem ar0{f:FuncId}{g:List AV->List Ob->Option (AV×List Ob)}{args:List AV}{hs:List Ob}(hE:dv.E f=some g):R f args hs=g args hs:=BC hE
theorem as6:R F.slices_Clone_int_int_ [.sl 1 []] []=some (.sl 1 [],[]):=by
 rw[ar0 (g:=clF) (by kernel_rfl)];rfl
theorem arL{x:Int}{l:List Int}(h:l.length<=1000000):R F.slices_Clone_int_int_ [.sl 1 (bw (x::l))] []=some (.osl 1 (bw (x::l)),[]):=by
 rw[ar0 (g:=clF) (by kernel_rfl)];show(if(((bw l).length+1)*8<=140737488355328)then _ else _)=_;rw[if_pos (by grind[abI])];rfl
def IsT(c:AV)(l:List Rt):Prop:=c=.osl 4 (cU l)\/(c=.emp/\l=[])
def t3(v:Int)(c:AV)(e:Int):Ob:=.bx [I v,c,I e]
theorem aq8{h:ac}{v e:Int}{c:AV}{l:List Rt}(hc:IsT c l)(hh:h 1000=t3 v c e):zO [] 1 h []=some (.tup [],[t3 v c e]):=by
 have hp:cu 1=[1000]:=rfl;have h2:aO [1000] (t3 v c e)=true:=by
  rcases hc with rfl| ⟨rfl,_⟩<;>rfl
 grind[zO,kl,u9,yP,bv]
theorem asc{v e:Int}{c x:AV}{d:Rd}{l:List Rt}(hc:IsT c l)(he:e≠0):R F.poly_collector_add [.ref 1000 none 0 0 0,x,ag d] [t3 v c e]=some (.tup [],[t3 v c e]):=by
 refine Vf aaL.2.1 aaL.2.2 (aaL.1.2.2.2 false) rfl ?_;have e1:(e=0)=False:=ff he;simp only[aiG,apM,t3,ag,ak,go_sem,apB,apA,e1];exact aq8 hc rfl
theorem arm(h:ac)(i:Int)(b:Bool):YC h (.tup [I i,B b],[])=some (.tup [I i,B b],h,[]):=rfl
theorem Vg{h:ac}{id p id2 k n:Nat}{rows:List (List AV)}{cs:List AV}(h1:h id2=.ar k rows)(hn:n=rows.length)(h2:h id=.bx cs)(hne:id≠id2)(hp:p<cs.length):
  mU h id p 1 [.rsl id2 none k 0 n]=some (upd (upd h id2 .dead) id (.bx (cs.set p (.osl k rows))),(id2,false)::(if cs[p]?.any aW then [(id,true)]else [])):=by
 simp_all[upd,if_neg,mU,Ch,K3,F6,wN]
theorem auq{l:List Rt}{t:Rt}{n i:Nat}(hn:n=l.length)(hi:i<=n)(h2:n<=1000000):R F.slices_Insert_api_Term_api_Term_ [.rsl 1000 none 4 0 n,I i,.sl 4 [eU t]] [.ar 4 (cU l)]=some (.osl 4 (cU (l.take i++t::l.drop i)),[.dead]):=by
 rw[ar0 (g:=ar3 4 64) (by kernel_rfl)];show(if(4:Nat)=4/\(4:Nat)=4/\(4:Nat)=4/\n=(cU l).length/\(0:Int)<=(i:Int)/\(i:Int)<=(n:Int)/\(n+1)*64<=140737488355328 then some (AV.osl 4 ((cU l).take (i:Int).toNat++eU t::(cU l).drop (i:Int).toNat),[Ob.dead])else none)=_;rw[if_pos ⟨rfl,rfl,rfl,by rw[SA,hn],by omega,by omega,by omega⟩,Int.toNat_natCast];simp[cU,List.map_take,List.map_drop]
theorem at4{t:Rt}:R F.slices_Insert_api_Term_api_Term_ [.emp,I 0,.sl 4 [eU t]] []=some (.osl 4 (cU [t]),[]):=by
 rw[ar0 (g:=ar3 4 64) (by kernel_rfl)];rfl
theorem as7(t:Rt):nrmV [.o 5 [.o 2 [],.o 0 [],.o 2 [],.o 0 []]] (.sl 4 [eU t])=.sl 4 [eU t]:=by
 have:=anh [t];simp only[cU,List.map_cons,List.map_nil]at this;simp only[nrmV,List.headD_cons,nrmL,List.map_cons,List.map_nil,this]
theorem ato{l:List Rt}{t:Rt}{h:ac}{d a b n i:Nat}(ha:h a=.ar 4 (cU l))(hb:h b=.ar 4 [eU t])(hab:a≠b)(_hda:2000+8*d≠a)(hdb:2000+8*d≠b)(hd:h (2000+8*d)=.dead)(hn:n=l.length)(hi:i<=n)(h2:n<=1000000):
  bI R (aH false) h d [.rsl a none 4 0 n,.v (.int .i64 i),.rsl b none 4 0 1] (.fn F.slices_Insert_api_Term_api_Term_ [] [])=
   some (.rsl (2000+8*d) none 4 0 (l.length+1),upd (upd (upd h b (.fz 4 [eU t])) a .dead) (2000+8*d) (.ar 4 (cU (l.take i++t::l.drop i))),[(a,true),(a,false)]):=by
 have hm:=ap0 false;have hs:=apW false;have hk:=apS false;have hf:=auq (t:=t) hn hi h2;have hb':sy (aH false) [.rsl a none 4 0 n,.v (.int .i64 i),.rsl b none 4 0 1] (.fn F.slices_Insert_api_Term_api_Term_ [] [])=false:=by
  grind[sy]
 have h1:cr h [2,0,0] [.rsl a none 4 0 n,.v (.int .i64 i),.rsl b none 4 0 1]=some ([.rsl a none 4 0 n,.v (.int .i64 i),.sl 4 [eU t]],upd h b (.fz 4 [eU t]),[]):=by
  simp_all[cr,de,vA,gL,aB,aiL,mf,nP]
 have g1:upd h b (.fz 4 [eU t]) a=.ar 4 (cU l):=by
  simp_all[upd,if_neg]
 have g2:upd h b (.fz 4 [eU t]) (2000+8*d)=.dead:=by
  simp_all[upd,if_neg]
 have hr:cq (upd h b (.fz 4 [eU t])) 40 [a] 0=[a]:=by
  grind[cq,mh,bV]
 have hp:bV [] ([AV.rsl a none 4 0 n,.v (.int .i64 i),.sl 4 [eU t]].flatMap cj)=[a]:=by
  simp[cj,iq,bV]
 have h3:bq [a] a=1000:=by simp[bq]
 have hnr:cP (.osl 4 (cU (l.take i++t::l.drop i)))=1:=rfl;have hlen:(cU (l.take i++t::l.drop i)).length=l.length+1:=by
  grind[SA,List.length_append,List.length_take,List.length_cons,List.length_drop]
 have hnm:bv [[],[],[.o 5 [.o 2 [],.o 0 [],.o 2 [],.o 0 []]]] [.rsl a none 4 0 n,.v (.int .i64 i),.sl 4 [eU t]]=[.rsl a none 4 0 n,.v (.int .i64 i),.sl 4 [eU t]]:=by
  simp only[bv,as7];rfl
 unfold bI;simp only[eP,hm,List.nil_append,List.append_nil,h1,Option.bind_some,hp,hr,hs,hnm];simp[mj,aZ,bm,g1,aO,cY,ey,lD,h3,dp,hf,gz,hnr,dK,g2,fw,bf,yO,Nl,uX,iq,apL,gj,Hh,eM,mat,dq,aqL,hk,Nk,hm,hlen]
 simp_all[cX,if_neg,Jr]
theorem atp{h:ac}{d:Nat}{r:List (List AV)}{i:Int}{b:Bool}(hR:R F.slices_BinarySearchFunc_api_Term_api_Term_Sint_ [.sl 4 [],nrmV [.o 2 []] (.sl 1 r),.fn F.poly_collector_add_1 [] []] []=some (.tup [I i,B b],[]))(h0:h (2000+8*d)=.dead)(h1:h (2000+8*d+1)=.dead):
  bI R (aH false) h d [.emp,.sl 1 r,.fn F.poly_collector_add_1 [] []] (.fn F.slices_BinarySearchFunc_api_Term_api_Term_Sint_ [] [])=some (.tup [I i,B b],h,[]):=by
 have hm:=aiI false;have hs:=aiE false;have hk:=ag8 false;have hb':sy (aH false) [.emp,.sl 1 r,.fn F.poly_collector_add_1 [] []] (.fn F.slices_BinarySearchFunc_api_Term_api_Term_Sint_ [] [])=false:=by
  grind[sy,Tw]
 have h3:cr h [3,0,0] [.emp,.sl 1 r,.fn F.poly_collector_add_1 [] []]=some ([.emp,.sl 1 r,.fn F.poly_collector_add_1 [] []],h,[]):=by
  simp[cr,de,vA,gL,aB]
 have hp:bV [] ([AV.emp,.sl 1 r,.fn F.poly_collector_add_1 [] []].flatMap cj)=[]:=by
  simp[cj,iq,bV]
 have hnm:bv [[.o 5 [.o 2 [],.o 0 [],.o 2 [],.o 0 []]],[.o 2 []],[]] [.emp,.sl 1 r,.fn F.poly_collector_add_1 [] []]=[.sl 4 [],nrmV [.o 2 []] (.sl 1 r),.fn F.poly_collector_add_1 [] []]:=by
  rfl
 obtain⟨q,hq⟩:∃q,nrmV [.o 2 []] (.sl 1 r)=.sl 1 q:=⟨_,rfl⟩;rw[hq]at hR hnm;have hr:∀n,cq h n [] 0=[]:=fun n=>by cases n<;>rfl
 unfold bI;rw[if_neg (by grind)];simp only[eP,hm,List.nil_append,List.append_nil,h3,Option.bind_some,hp,hr,hs,hnm];simp[mj,aZ,bm,ey,lD,hR,gz,cP,dK,h0,h1,cY,fw,yO,Nl,uX,apL,gj,Hh,eM,mat,bO,dq,aqL,hk,Nk,hm]
theorem as8{t:Rt}{h:ac}{d b:Nat}(hb:h b=.ar 4 [eU t])(hdb:2000+8*d≠b)(hd:h (2000+8*d)=.dead):
  bI R (aH false) h d [.emp,.v (.int .i64 0),.rsl b none 4 0 1] (.fn F.slices_Insert_api_Term_api_Term_ [] [])=some (.rsl (2000+8*d) none 4 0 1,upd (upd h b (.fz 4 [eU t])) (2000+8*d) (.ar 4 (cU [t])),[]):=by
 have hm:=ap0 false;have hs:=apW false;have hk:=apS false;have hf:=at4 (t:=t);have hb':sy (aH false) [.emp,.v (.int .i64 0),.rsl b none 4 0 1] (.fn F.slices_Insert_api_Term_api_Term_ [] [])=false:=by
  grind[sy]
 have h1:cr h [2,0,0] [.emp,.v (.int .i64 0),.rsl b none 4 0 1]=some ([.emp,.v (.int .i64 0),.sl 4 [eU t]],upd h b (.fz 4 [eU t]),[]):=by
  simp[cr,de,vA,gL,aB,hb,mf,nP]
 have g2:upd h b (.fz 4 [eU t]) (2000+8*d)=.dead:=by
  simp_all[upd,if_neg]
 have hp:bV [] ([AV.emp,.v (.int .i64 0),.sl 4 [eU t]].flatMap cj)=[]:=by
  simp[cj,iq,bV]
 have hnr:cP (.osl 4 (cU [t]))=1:=rfl;have hnm:bv [[],[],[.o 5 [.o 2 [],.o 0 [],.o 2 [],.o 0 []]]] [.emp,.v (.int .i64 0),.sl 4 [eU t]]=[.emp,.v (.int .i64 0),.sl 4 [eU t]]:=by
  simp only[bv,as7];rfl
 have hr:∀ (h:ac) n,cq h n [] 0=[]:=fun h n=>by cases n<;>rfl
 have hlen:(cU [t]).length=1:=rfl;unfold bI;simp only[eP,hm,List.nil_append,List.append_nil,h1,Option.bind_some,hp,hr,hs,hnm];simp[mj,aZ,bm,ey,lD,hf,gz,hnr,dK,g2,cY,fw,yO,Nl,uX,iq,apL,gj,Hh,eM,mat,dq,aqL,hk,Nk,hm,hlen]
 simp_all[cX,if_neg]
def ClE(x:List Int):Prop:=R F.slices_Clone_int_int_ [.sl 1 (bw x)] []=some (.osl 1 (bw x),[])\/R F.slices_Clone_int_int_ [.sl 1 (bw x)] []=some (.sl 1 (bw x),[])
theorem as9:∀ {x:List Int},x.length<=100000->ClE x
 |[],_=>.inr as6
 |x::l,h=>.inl (arL (by grind))
theorem asd{v v':Int}{l:List Rt}{t:Rt}(c:Cl v l)(vt:VT v t)(hl:l.length<=1000000)(hf:arh l t.exps=false):
  R F.poly_collector_add [.ref 1000 none 0 0 0,.sl 1 (bw t.exps),ag t.c] [t3 v' (.osl 4 (cU l)) 0]=some (.tup [],[t3 v' (.osl 4 (cU (l.take (adz l t.exps)++t::l.drop (adz l t.exps)))) 0]):=by
 refine Vf aaL.2.1 aaL.2.2 (aaL.1.2.2.2 false) rfl ?_;have hbs:=asS c vt.sm vt.len hl;rw[hf]at hbs;have hcp:=arK vt.nz (Nat.le_trans (A5 vt.vc vt.c.lb) (by decide));simp only[ag,ak]at hcp;have k1:(bw t.exps).take t.exps.length=bw t.exps:=List.take_of_length_le (by simp_all[abI,Nat.le_refl]);have hlen:(l.take (adz l t.exps)++t::l.drop (adz l t.exps)).length=l.length+1:=by
  grind
 have hp:=arA l t.exps;simp only[aiG,apM,t3,ag,ak,go_sem,apB,apA];rw[asC rfl rfl (SA l).symm ⟨_,rfl⟩];rcases as9 vt.ok.len with hcv|hcv
 all_goals
  simp only[go_sem,apB,apA,apC,apD,apE,hbs,arm,hcv,hcp,Nat.zero_add,Nat.le_refl,k1];rw[ato rfl rfl (by decide) (by decide) (by decide) rfl rfl hp hl];generalize l.take (adz l t.exps)++t::l.drop (adz l t.exps)=L at hlen⊢;simp only[go_sem,apB,apA,apC,apE];rw[if_pos (by rfl),Vg rfl (by rw[SA,hlen]) rfl (by decide) (Nat.lt_of_lt_of_le (by decide) (Nat.le_refl 3))];simp only[go_sem];exact aq8 (.inl rfl) rfl
theorem atq{v':Int}{v:Int}{t:Rt}(vt:VT v t):
  R F.poly_collector_add [.ref 1000 none 0 0 0,.sl 1 (bw t.exps),ag t.c] [t3 v' .emp 0]=some (.tup [],[t3 v' (.osl 4 (cU [t])) 0]):=by
 refine Vf aaL.2.1 aaL.2.2 (aaL.1.2.2.2 false) rfl ?_;have hbs:=asS (l:=[]) (Cl.nil v) vt.sm vt.len (Nat.zero_le _);rw[show adz [] t.exps=0 from rfl,show arh [] t.exps=false from rfl,Int.natCast_zero]at hbs;have hcp:=arK vt.nz (Nat.le_trans (A5 vt.vc vt.c.lb) (by decide));simp only[ag,ak]at hcp;have k1:(bw t.exps).take t.exps.length=bw t.exps:=List.take_of_length_le (by simp_all[abI,Nat.le_refl]);have k2:nrmV [.o 2 []] (.sl 1 (bw t.exps))=.sl 1 (bw t.exps):=by
  simp only[go_sem]
 simp only[aiG,apM,t3,ag,ak,go_sem,apB,apA];rw[atp (by rw[k2];exact hbs) rfl rfl];rcases as9 vt.ok.len with hcv|hcv
 all_goals
  simp only[go_sem,apB,apA,apC,apD,hcv,hcp,Nat.zero_add,Nat.le_refl,k1];rw[as8 rfl (by decide) rfl];simp only[go_sem,apB,apA,apC];rw[if_pos (by rfl),Vg rfl (show 1=(cU [t]).length from rfl) rfl (by decide) (Nat.lt_of_lt_of_le (by decide) (Nat.le_refl 3))];simp only[go_sem];exact aq8 (.inl rfl) rfl
theorem Py{u s b:Nat}(hu:u<4294967296)(hs:s<4294967296)(hb:b<4294967296):IntKind.u64.wrap (IntKind.u64.wrap ((u:Int)- (s:Int))- (b:Int))=(((u+18446744073709551616-s-b) %18446744073709551616:Nat):Int):=by
 grind[IntKind.wrap,IntKind.bits,IntKind.signed]
attribute [-go_sem] Jw Av in
theorem XH{V Z:List Nat}{q lo:Nat}(hV:Lb V)(hq:q<4294967296)(hn:V.length<=100000)(hlo:lo<=100000):
  ∀ (vs us P:List Nat) (i c b:Nat),i+vs.length=V.length->V.drop i=vs->us.length=vs.length->P.length=lo+i->Lb us->c<4294967296->b<=1->∀ (s:af) (h:ac),s 0=.rsl 1000 none 1 lo (V.length+1)->s 1=lm V->s 2=W q->s 7=W c->s 8=W b->s 14=lm V->s 15=I V.length->s 16=I i->h 1000=.ar 1 (ax (P++(us++Z)))->
  ∃hh,am 0 [0,1,7,8] (aD (aj R (aH false) iX) [0,1,2,7,8,14,15,16] [1000] s h)=some (.normal,⟨upd (upd (upd (upd (fun _=>.any) 8 (W ((nG q us vs c b).2.2:Nat))) 7 (W ((nG q us vs c b).2.1:Nat))) 1 (lm V)) 0 (.rsl 1000 none 1 lo (V.length+1)),hh⟩)/\hh 1000=.ar 1 (ax (P++((nG q us vs c b).1++Z))):=by
 intro vs;induction vs with
 |nil=>
  intro us P i c b hi hd hl hP hu hc hb s h g0 g1 g2 g7 g8 g14 g15 g16 k;have hus:us=[]:=List.length_eq_zero_iff.1 hl;subst hus;have hi':i=V.length:=by omega
  subst hi';rw[ai];refine⟨?hh0,?_,?_⟩;rotate_left
  ·simp only[iX,go_sem,g0,g1,g2,g7,g8,g14,g15,g16,k,Int.lt_irrefl];rfl
  ·rfl
 |cons y vs ih=>
  intro us P i c b hi hd hl hP hu hc hb s h g0 g1 g2 g7 g8 g14 g15 g16 k;obtain⟨u,us,rfl⟩:∃u us',us=u::us':=by
   cases us with
   |nil=>grind
   |cons u us=>grind
  have hi2:i<V.length:=by grind
  have hy:V.getD i 0=y/\V.drop (i+1)=vs:=by
   grind[List.drop_eq_getElem_cons]
  have hyb:y<4294967296:=by grind[bu]
  have hub:=hu u (by simp);have hqy:q*y<=4294967295*4294967295:=Nat.mul_le_mul (by omega) (by omega);have e1:((i:Int)< (V.length:Int))=True:=tt (by omega);have e2:aV (ax V) (i:Int)=some (.ipt [U (y:Nat)]):=by
   grind[bk]
  have e3:IntKind.i64.wrap ((i:Int)+1)=((i+1:Nat):Int):=wi (by omega) (by omega);have e4:(0<=(i:Int))=True:=tt (by omega);have e5:((i:Int)< ((V.length+1:Nat):Int))=True:=tt (by omega);have c1:IntKind.u64.wrap (y:Int)=y:=cK rfl (by omega);have c2:IntKind.u64.wrap ((q:Int)*(y:Int))=((q*y:Nat):Int):=cK (by simp) (by omega);have c3:IntKind.u64.wrap (((q*y:Nat):Int)+(c:Int))=((q*y+c:Nat):Int):=cK (by simp) (by omega);have c4:=mN (n:=q*y+c) (k:=32) (i:=((q*y+c:Nat):Int)) (kk:=.u64) (j:=32) rfl rfl (by omega);rw[show(2:Nat)^32=4294967296 from rfl]at c4;have c5:IntKind.u64.wrap (u:Int)=u:=cK rfl (by omega);have c6:=yA (n:=q*y+c) (i:=((q*y+c:Nat):Int)) rfl (by omega);have hs:=Nat.mod_lt (q*y+c) (by decide:0<4294967296);have hc2:(q*y+c)/4294967296<4294967296:=by
   omega
  have c7:=Py (b:=b) hub hs (by omega);obtain⟨k1,_⟩:=Kl (b:=b) hub hs hb;have ih':=ih us (P++[(u+18446744073709551616- (q*y+c) %4294967296-b) %18446744073709551616%4294967296]) (i+1) ((q*y+c)/4294967296) ((u+18446744073709551616- (q*y+c) %4294967296-b) %18446744073709551616/9223372036854775808) (by grind) hy.2 (by grind) (by grind) (fun x hx=>hu x (by simp[hx])) hc2 k1;unfold nG;generalize(u+18446744073709551616- (q*y+c) %4294967296-b) %18446744073709551616=x at*
  have c8:IntKind.u32.wrap (x:Int)=((x%4294967296:Nat):Int):=BL rfl;have c9:=mN (n:=x) (k:=63) (i:=(x:Int)) (kk:=.u64) (j:=63) rfl rfl (by omega);rw[show(2:Nat)^63=9223372036854775808 from rfl]at c9;have e7:(ax (P++(u::us++Z)))[lo+i]?=some [U (u:Nat)]:=by
   rw[ij (by simp[hP]),List.getD_eq_getElem?_getD,List.getElem?_append_right (by omega),hP,Nat.sub_self];rfl
  have e8:(ax (P++(u::us++Z))).set (lo+i) [U ((x%4294967296:Nat):Int)]=ax (P++[x%4294967296]++(us++Z)):=by
   rw[kg,←hP,List.set_append_right _ _ (Nat.le_refl _),Nat.sub_self,List.append_assoc];rfl
  simp only[List.append_assoc,List.cons_append,List.nil_append]at ih' e7 e8 k⊢;rw[ai];generalize aD _ _ _=L at ih'⊢;simp only[iX,go_sem,apB,apA,apC,apD,apE,g0,g1,g2,g7,g8,g14,g15,g16,k,e1,e2,e3,e4,e5,e7,e8,c1,c2,c3,c4,c5,c6,c7,c8,c9,Int.toNat_natCast];exact ih' _ _ rfl rfl rfl rfl rfl rfl rfl rfl rfl
theorem adW{V Z us P:List Nat}{q lo:Nat}(hV:Lb V)(hq:q<4294967296)(hn:V.length<=100000)(hlo:lo<=100000)(hl:us.length=V.length)(hP:P.length=lo)(hu:Lb us)(s:af)(h:ac)(X:Option (Ex×St))(hX:am 0 [0,1,7,8] (aD (aj R (aH false) iX) [0,1,2,7,8,14,15,16] [1000] s h)=X)
  (g0:s 0=.rsl 1000 none 1 lo (V.length+1)) (g1:s 1=lm V) (g2:s 2=W q) (g7:s 7=W 0) (g8:s 8=W 0) (g14:s 14=lm V) (g15:s 15=I V.length) (g16:s 16=I 0) (k:h 1000=.ar 1 (ax (P++(us++Z)))):
  ∃hh,X=some (.normal,⟨upd (upd (upd (upd (fun _=>.any) 8 (W ((nG q us V 0 0).2.2:Nat))) 7 (W ((nG q us V 0 0).2.1:Nat))) 1 (lm V)) 0 (.rsl 1000 none 1 lo (V.length+1)),hh⟩)/\hh 1000=.ar 1 (ax (P++((nG q us V 0 0).1++Z))):=by
 subst hX
 simp_all[XH]
attribute [-go_sem] Av in
theorem ab9{V us P Q:List Nat}{q lo top:Nat}(hV:Lb V)(hq:q<4294967296)(hn:V.length<=100000)(hlo:lo<=100000)(hl:us.length=V.length)(hP:P.length=lo)(hu:Lb us)(ht:top<4294967296):
  R F.natural_take [.rsl 1000 none 1 lo (V.length+1),lm V,W q] [.ar 1 (ax (P++(us++top::Q)))]=some (B (jP q top us V).2.2,[.ar 1 (ax (P++((jP q top us V).1++(jP q top us V).2.1::Q)))]):=by
 refine Vf JV JU (wJ false) rfl ?_;have hx:=adW (Z:=top::Q) hV hq hn hlo hl hP hu;obtain⟨t1,t2,t3,t4,t5⟩:=Pq hq hu hV hl (c:=0) (b:=0) (by decide) (by decide);unfold jP;have e4:(0<=(V.length:Int))=True:=tt (by omega);have e5:((V.length:Int)< ((V.length+1:Nat):Int))=True:=tt (by omega);simp only[tu,AK,go_sem];generalize hX:am 0 _ _=X;obtain⟨hh,rfl,q1⟩:=hx _ _ _ hX rfl rfl rfl rfl rfl rfl rfl rfl rfl;generalize nG q us V 0 0=r at*
 obtain⟨r1,c,b⟩:=r;simp only at t2 t3 t4 t5 q1⊢;have c5:IntKind.u64.wrap (top:Int)=top:=cK rfl (by omega);have c7:=Py (u:=top) (s:=c) (b:=b) ht t2 (by omega);generalize(top+18446744073709551616-c-b) %18446744073709551616=x at*
 have c8:IntKind.u32.wrap (x:Int)=((x%4294967296:Nat):Int):=BL rfl;have c9:=mN (n:=x) (k:=63) (i:=(x:Int)) (kk:=.u64) (j:=63) rfl rfl (by omega);have e7:(ax (P++(r1++top::Q)))[lo+V.length]?=some [U (top:Nat)]:=by
  simp_all[ij,Nat.add_sub_cancel_left,Nat.sub_self]
 have e8:(ax (P++(r1++top::Q))).set (lo+V.length) [U ((x%4294967296:Nat):Int)]=ax (P++(r1++x%4294967296::Q)):=by
  rw[kg,List.set_append_right _ _ (by omega),List.set_append_right _ _ (by omega),hP,t5,Nat.add_sub_cancel_left,Nat.sub_self];rfl
 have e9:(((x/9223372036854775808:Nat):Int)=1)=(x/9223372036854775808=1):=by
  grind
 simp only[go_sem,apB,apA,apC,apD,apE,q1,e4,e5,e7,e8,c5,c7,c8,c9,e9,Int.toNat_natCast];rfl
theorem XI{V us P Q:List Nat}{q lo top:Nat}(hV:Lb V)(hq:q<4294967296)(hn:V.length<=100000)(hlo:lo<=100000)(hl:us.length=V.length)(hP:P.length=lo)(hu:Lb us)(ht:top<4294967296){h:ac}{d id:Nat}(hh:h id=.ar 1 (ax (P++(us++top::Q))))(hd:h (2000+8*d)=.dead):
  bI R (aH false) h d [.rsl id none 1 lo (V.length+1),lm V,W q] (.fn F.natural_take [] [])=some (B (jP q top us V).2.2,upd h id (.ar 1 (ax (P++((jP q top us V).1++(jP q top us V).2.1::Q)))),[(id,true)]):=by
 have hm:=JW false;have hs:=H7 false;have hk:=wJ false;have hf:=ab9 (Q:=Q) hV hq hn hlo hl hP hu ht;have hb':sy (aH false) [.rsl id none 1 lo (V.length+1),lm V,W q] (.fn F.natural_take [] [])=false:=by
  grind[sy]
 have h1:cr h [1,0,0] [.rsl id none 1 lo (V.length+1),.sl 1 (ax V),W q]=some ([.rsl id none 1 lo (V.length+1),.sl 1 (ax V),W q],h,[]):=by
  simp[cr,de,vA,gL,aB]
 have hr:cq h 40 [id] 0=[id]:=by
  grind[cq,mh,bV]
 have hp:bV [] ([AV.rsl id none 1 lo (V.length+1),.sl 1 (ax V),W q].flatMap cj)=[id]:=by
  simp[cj,iq,bV]
 have h3:bq [id] id=1000:=by simp[bq]
 have hnr:cP (B (jP q top us V).2.2)=1:=rfl;have hnm:bv [[.o 2 []],[.o 2 []],[]] [.rsl id none 1 lo (V.length+1),.sl 1 (ax V),W q]=[.rsl id none 1 lo (V.length+1),.sl 1 (ax V),W q]:=by
  simp only[go_sem];rfl
 unfold bI;rw[if_neg (by grind)];simp only[lm]at hf⊢;simp only[eP,hm,List.nil_append,List.append_nil,h1,Option.bind_some,hp,hr,hs,hnm];simp[mj,aZ,bm,hh,aO,cY,ey,lD,h3,dp,hf,gz,hnr,dK,hd,fw,bf,yO,Nl,uX,iq,apL,gj,Hh,eM,mat,dq,aqL,hk,Nk,hm]
theorem ZX{V us P Z Qr:List Nat}{sh n j g:Int}{UL QL J:Nat}(hV:Lb V)(hu:Lb us)(hl:us.length=V.length)(hn:V.length<=100000)(hP:P.length=J)(hj:j=J)(hJ:J<=100000)(hUL:J+V.length<=UL):
  ∀ (k i:Nat),i+k=V.length->∀ (s:af) (h:ac),s 8=I sh->s 9=.rsl 2408 none 1 0 UL->s 10=lm V->s 11=I n->s 12=.rsl 70 none 1 0 QL->s 13=I j->s 14=W g->s 15=U (cV us V i:Nat)->s 123=lm V->s 124=I V.length->s 125=I i->h 63=.dead->h 70=.ar 1 (ax Qr)->h 2408=.ar 1 (ax (P++(cp us V i++(us.drop i++Z))))->
  ∃hh,am 4 [8,9,10,11,12,13,14,15] (aD (aj R (aH false) fB) [8,9,10,11,12,13,14,15,123,124,125] [63,70,2408] s h)=some (.normal,⟨upd (upd (upd (upd (upd (upd (upd (upd (fun _=>.any) 15 (U (cV us V V.length:Nat))) 14 (W g)) 13 (I j)) 12 (.rsl 70 none 1 0 QL)) 11 (I n)) 10 (lm V)) 9 (.rsl 2408 none 1 0 UL)) 8 (I sh),hh⟩)/\hh 70=.ar 1 (ax Qr)/\hh 2408=.ar 1 (ax (P++(cp us V V.length++Z)))/\(∀a,a≠70->a≠2408->hh a=.dead):=by
 subst hj;intro k;induction k with
 |zero=>
  intro i hi s h g8 g9 g10 g11 g12 g13 g14 g15 g123 g124 g125 k63 k70 k2408;have hi':i=V.length:=by omega
  subst hi';rw[List.drop_of_length_le (by omega),List.nil_append]at k2408;rw[ai];refine⟨?hh0,?_,?_,?_,?_⟩;rotate_left
  ·simp only[fB,go_sem,apE,g8,g9,g10,g11,g12,g13,g14,g15,g123,g124,g125,k63,k70,k2408,Int.lt_irrefl];rfl
  all_goals simp_all[ed,if_false,ite_self]
 |succ k ih=>
  intro i hi s h g8 g9 g10 g11 g12 g13 g14 g15 g123 g124 g125 k63 k70 k2408;have hlt:i<V.length:=by omega
  have hd:us.drop i=us.getD i 0::us.drop (i+1):=by
   simp_all
  have hsl:=gg us V i;rw[hd,List.cons_append]at k2408;have e1:((i:Int)< (V.length:Int))=True:=tt (by omega);have e2:aV (ax V) (i:Int)=some (.ipt [U (V.getD i 0:Nat)]):=bk rfl (by omega);have e3:IntKind.i64.wrap ((i:Int)+1)=((i+1:Nat):Int):=wi (by omega) (by omega);have e4:IntKind.i64.wrap ((J:Int)+(i:Int))=((J+i:Nat):Int):=wi (by omega) (by omega);have e5:(0<=((J+i:Nat):Int))=True:=tt (by omega);have e6:(((J+i:Nat):Int)< (UL:Int))=True:=tt (by omega);have e9:=GC (bu hu i) (bu hV i) (yp hu hV i);have e7:(ax (P++(cp us V i++(us.getD i 0::(us.drop (i+1)++Z)))))[J+i]?=some [U (us.getD i 0:Nat)]:=by
   simp_all[ij,Nat.add_sub_cancel_left,Nat.sub_self]
  have e8:(ax (P++(cp us V i++(us.getD i 0::(us.drop (i+1)++Z))))).set (J+i) [U (((us.getD i 0+V.getD i 0+cV us V i) %4294967296:Nat):Int)]=ax (P++(cp us V (i+1)++(us.drop (i+1)++Z))):=by
   rw[kg,List.set_append_right _ _ (by omega),List.set_append_right _ _ (by omega),hP,hsl,Nat.add_sub_cancel_left,Nat.sub_self];simp[cp,List.range_succ,Ag]
  have ih':=ih (i+1) (by omega);have hc:cV us V (i+1)=(us.getD i 0+V.getD i 0+cV us V i)/4294967296:=rfl;rw[ai];simp only[fB,go_sem,apB,apA,apC,apD,apE,g8,g9,g10,g11,g12,g13,g14,g15,g123,g124,g125,k63,k70,k2408,e1,e2,e3,e4,e5,e6,e7,e8,e9,Int.toNat_natCast,Nat.zero_add];exact ih' _ _ rfl rfl rfl rfl rfl rfl rfl rfl rfl rfl rfl rfl rfl rfl
theorem adX{U V:List Nat}{j k:Nat}(hU:Lb U)(hV:Lb V)(hvl:V.length=k+2)(h:aa (U.drop (j+1))<aa V):U.getD (j+(k+2)) 0<=V.getD (k+1) 0:=by
 have h1:aa V=aa (V.take (k+1))+4294967296^ (k+1)*V.getD (k+1) 0:=by
  rw[←dx,List.take_of_length_le (by omega)]
 have h2:=bQ (dN hV (k+1));rw[List.length_take,Nat.min_eq_left (by omega)]at h2;have h3:4294967296^ (k+1)*U.getD (j+(k+2)) 0<=aa (U.drop (j+1)):=by
  by_cases hl:j+1+(k+1)<=U.length
  ·have h4:=zE (U.drop (j+1)) (k+1) (by rw[List.length_drop];omega);rw[List.drop_drop]at h4;have h5:=dF U (j+1+(k+1));rw[show j+1+(k+1)=j+(k+2)by omega]at h4 h5;rw[h4,h5,Nat.mul_add];omega
  grind
 refine Nat.le_of_not_lt fun hc=>?_;have h6:4294967296^ (k+1)*(V.getD (k+1) 0+1)<=4294967296^ (k+1)*U.getD (j+(k+2)) 0:=Nat.mul_le_mul_left _ hc;rw[Nat.mul_add,Nat.mul_one]at h6;omega
theorem XJ{U:List Nat}{j n:Nat}(h:j+n<U.length):U=U.take j++((U.drop j).take n++U.getD (j+n) 0::U.drop (j+n+1)):=by
 grind[List.drop_eq_getElem_cons,List.drop_drop,List.take_append_drop]
theorem ST{U:List Nat}{j n i:Nat}(hi:i<n):((U.drop j).take n).getD i 0=U.getD (j+i) 0:=by
 rw[List.getD_eq_getElem?_getD,List.getD_eq_getElem?_getD,List.getElem?_take,if_pos hi,List.getElem?_drop]
theorem ags{V us P Z Qr:List Nat}{sh n j g:Int}{UL QL J:Nat}(hV:Lb V)(hu:Lb us)(hl:us.length=V.length)(hn:V.length<=100000)(hP:P.length=J)(hj:j=J)(hJ:J<=100000)(hUL:J+V.length<=UL)(s:af)(h:ac)(X:Option (Ex×St))(hX:am 4 [8,9,10,11,12,13,14,15] (aD (aj R (aH false) fB) [8,9,10,11,12,13,14,15,123,124,125] [63,70,2408] s h)=X)
  (g8:s 8=I sh) (g9:s 9=.rsl 2408 none 1 0 UL) (g10:s 10=lm V) (g11:s 11=I n) (g12:s 12=.rsl 70 none 1 0 QL) (g13:s 13=I j) (g14:s 14=W g) (g15:s 15=U 0) (g123:s 123=lm V) (g124:s 124=I V.length) (g125:s 125=I 0) (k63:h 63=.dead) (k70:h 70=.ar 1 (ax Qr)) (k2408:h 2408=.ar 1 (ax (P++(us++Z)))):
  ∃hh,X=some (.normal,⟨upd (upd (upd (upd (upd (upd (upd (upd (fun _=>.any) 15 (U (cV us V V.length:Nat))) 14 (W g)) 13 (I j)) 12 (.rsl 70 none 1 0 QL)) 11 (I n)) 10 (lm V)) 9 (.rsl 2408 none 1 0 UL)) 8 (I sh),hh⟩)/\hh 70=.ar 1 (ax Qr)/\hh 2408=.ar 1 (ax (P++(cp us V V.length++Z)))/\(∀a,a≠70->a≠2408->hh a=.dead):=by
 subst hX;exact ZX hV hu hl hn hP hj hJ hUL V.length 0 (Nat.zero_add _) s h g8 g9 g10 g11 g12 g13 g14 g15 g123 g124 g125 k63 k70 k2408
theorem adY{q top:Nat}{us vs:List Nat}(hq:q<4294967296)(ht:top<4294967296)(hu:Lb us)(hv:Lb vs)(hl:us.length=vs.length)(hf:(jP q top us vs).2.2=true):1<=q:=by
 obtain⟨t1,t2,t3,t4⟩:=Km hq ht hu hv hl;rw[if_pos hf]at t1;refine Nat.pos_of_ne_zero fun h0=>?_;rw[h0,Nat.zero_mul,Nat.add_zero]at t1;have h1:=bQ t3;rw[h0]at t2 h1 t4;rw[t4]at h1;have h2:4294967296^vs.length*((jP 0 top us vs).2.1+1)<=4294967296^vs.length*4294967296:=Nat.mul_le_mul_left _ (by omega);rw[Nat.mul_add,Nat.mul_one]at h2;omega
theorem XK{A r:List Nat}{j k t:Nat}(h:r.length=k+2):A.take j++(r++t::A.drop (j+(k+2)+1))=j5 A j r t:=by
 grind[j5]
theorem ZY{V:List Nat}{k:Nat}{sh:Int}{UL QL:Nat}(hV:Lb V)(hvl:V.length=k+2)(hn2:2147483648<=V.getD (k+1) 0)(hn:V.length<=100000)(hUL:UL<=100000):
  ∀ (m:Nat) (A Dn:List Nat),Lb A->A.length=UL->m+(k+2)<=UL->m+Dn.length=QL->aa (A.drop m)<aa V->∀ (s:af) (h:ac),s 8=I sh->s 9=.rsl 2408 none 1 0 UL->s 10=lm V->s 11=I (k+2:Nat)->s 12=.rsl 70 none 1 0 QL->s 13=I ((m:Int)-1)->h 63=.dead->h 70=.ar 1 (ax (List.replicate m 0++Dn))->h 2408=.ar 1 (ax A)->
  ∃hh,am 2 [8,9,11,12] (aD (aj R (aH false) gY) [8,9,10,11,12,13] [63,70,2408] s h)=some (.normal,⟨upd (upd (upd (upd (fun _=>.any) 12 (.rsl 70 none 1 0 QL)) 11 (I (k+2:Nat))) 9 (.rsl 2408 none 1 0 UL)) 8 (I sh),hh⟩)/\hh 70=.ar 1 (ax ((sn V m A).2++Dn))/\hh 2408=.ar 1 (ax (sn V m A).1)/\(∀a,a≠70->a≠2408->hh a=.dead):=by
 intro m;induction m with
 |zero=>
  intro A Dn hA hl hm hq hlt s h g8 g9 g10 g11 g12 g13 k63 k70 k2408;have e1:(0<=(((0:Nat):Int)-1))=False:=ff (by omega);rw[ai];refine⟨?hh0,?_,?_,?_,?_⟩;rotate_left
  ·simp only[gY,go_sem,apE,g8,g9,g10,g11,g12,g13,k63,k70,k2408,e1];rfl
  ·rfl
  ·rfl
  simp_all[ed,if_false,ite_self]
 |succ j ih=>
  intro A Dn hA hl hm hq hlt s h g8 g9 g10 g11 g12 g13 k63 k70 k2408;have e0:(((j+1:Nat):Int)-1)=(j:Int):=by omega
  rw[e0]at g13;have e1:(0<=(j:Int))=True:=tt (by omega);have w1:IntKind.i64.wrap ((j:Int)+((k+2:Nat):Int))=((j+(k+2):Nat):Int):=wi (by simp) (by omega);have w2:IntKind.i64.wrap (((j+(k+2):Nat):Int)-1)=((j+(k+1):Nat):Int):=wi (by omega) (by omega);have w3:IntKind.i64.wrap (((j+(k+2):Nat):Int)-2)=((j+k:Nat):Int):=wi (by omega) (by omega);have w4:IntKind.i64.wrap (((k+2:Nat):Int)-1)=((k+1:Nat):Int):=wi (by omega) (by omega);have w5:IntKind.i64.wrap (((k+2:Nat):Int)-2)=((k:Nat):Int):=wi (by omega) (by omega);have w6:IntKind.i64.wrap (((j+(k+2):Nat):Int)+1)=((j+(k+2)+1:Nat):Int):=wi (by omega) (by omega);have w7:IntKind.i64.wrap ((j:Int)-1)=(j:Int)-1:=i64_in _ ⟨by omega,by omega⟩;have r1:aV (ax V) ((k+1:Nat):Int)=some (.ipt [U (V.getD (k+1) 0:Nat)]):=bk rfl (by omega);have r2:aV (ax V) ((k:Nat):Int)=some (.ipt [U (V.getD k 0:Nat)]):=bk rfl (by omega);have b1:(0<=((j+(k+2):Nat):Int))=True:=tt (by omega);have b2:(0<=((j+(k+1):Nat):Int))=True:=tt (by omega);have b3:(0<=((j+k:Nat):Int))=True:=tt (by omega);have b4:(((j+(k+2):Nat):Int)< (UL:Int))=True:=tt (by omega);have b5:(((j+(k+1):Nat):Int)< (UL:Int))=True:=tt (by omega);have b6:(((j+k:Nat):Int)< (UL:Int))=True:=tt (by omega);have l1:(ax A)[j+(k+2)]?=some [U (A.getD (j+(k+2)) 0:Nat)]:=ij (by omega);have l2:(ax A)[j+(k+1)]?=some [U (A.getD (j+(k+1)) 0:Nat)]:=ij (by omega);have l3:(ax A)[j+k]?=some [U (A.getD (j+k) 0:Nat)]:=ij (by omega);have htop:=adX hA hV hvl hlt;have hg:=ZT (top:=A.getD (j+(k+2)) 0) (next:=A.getD (j+(k+1)) 0) (third:=A.getD (j+k) 0) (v:=V.getD (k+1) 0) (w:=V.getD k 0) hn2 (bu hV _) htop (bu hA _) (bu hA _) (bu hV _);have hT:tV (A.getD (j+(k+2)) 0) ((A.drop j).take (k+2))=(A.getD (j+(k+2)) 0*4294967296+A.getD (j+(k+1)) 0)*4294967296+A.getD (j+k) 0:=by
   unfold tV;have h1:((A.drop j).take (k+2)).length=k+2:=by grind
   rw[h1,show k+2-1=k+1 by omega,show k+2-2=k by omega,ST (by omega),ST (by omega)]
  have hW:sk V=V.getD (k+1) 0*4294967296+V.getD k 0:=by
   grind[sk]
  rw[←hT,←hW]at hg;have hgb:qw (tV (A.getD (j+(k+2)) 0) ((A.drop j).take (k+2))) (sk V)<4294967296:=by
   grind[qw,tV,sk,Nat.min_le_left]
  obtain⟨G,hG⟩:∃G,qw (tV (A.getD (j+(k+2)) 0) ((A.drop j).take (k+2))) (sk V)=G:=⟨_,rfl⟩;rw[hG]at hg hgb;have hsp:=XJ (U:=A) (j:=j) (n:=k+2) (by omega);have hwl:((A.drop j).take (k+2)).length=V.length:=by grind
  have hpl:(A.take j).length=j:=by grind
  have htk:=fun(h:ac) (d:Nat) (hh:h 2408=.ar 1 (ax A)) (hd:h (2000+8*d)=.dead)=>XI (V:=V) (us:=(A.drop j).take (k+2)) (P:=A.take j) (Q:=A.drop (j+(k+2)+1)) (q:=G) (lo:=j) (top:=A.getD (j+(k+2)) 0) hV hgb hn (by omega) hwl hpl (dN (jq hA j) _) (bu hA _) (h:=h) (d:=d) (id:=2408) (by grind) hd;rw[hvl]at htk;have sl:gh 1 (.rsl 2408 none 1 0 UL) (some (I (j:Int))) (some (I ((j+(k+2)+1:Nat):Int))) none=some (.rsl 2408 none 1 j (k+2+1)):=by
   have h1:lB UL UL (some (I ((j+(k+2)+1:Nat):Int)))=some (j+(k+2)+1):=pk rfl (by omega);have h2:lB 0 (j+(k+2)+1) (some (I (j:Int)))=some j:=pk rfl (by omega);have h3:j+(k+2)+1-j=k+2+1:=by omega
   simp only[gh,nO,h1,h2,Option.bind_some,Option.map_some,Nat.zero_add,h3,if_true,Option.isNone_none]
  rw[ai];generalize aD _ _ _=L at ih⊢;simp only[gY,go_sem,apB,apA,apC,apD,apE,g8,g9,g10,g11,g12,g13,k63,k70,k2408,e1,w1,w2,w3,w4,w5,w6,r1,r2,b1,b2,b3,b4,b5,b6,l1,l2,l3,hg,sl,Int.toNat_natCast,Nat.zero_add];rw[htk _ _ rfl rfl];have hpos:=adY (q:=G) (top:=A.getD (j+(k+2)) 0) (us:=(A.drop j).take (k+2)) (vs:=V) hgb (bu hA _) (dN (jq hA j) _) hV hwl;obtain⟨q1,q2,q3,q4⟩:=Km (q:=G) (top:=A.getD (j+(k+2)) 0) (us:=(A.drop j).take (k+2)) (vs:=V) hgb (bu hA _) (dN (jq hA j) _) hV hwl;have hVb:aa V<4294967296^ (k+2):=by grind[bQ]
  obtain⟨x1,x2,x3⟩:=SN (n:=k+2) hA (by omega) hVb hlt;have hs:=XB (top:=A.getD (j+(k+2)) 0) (bu hA _) (dN (jq hA j) (k+2)) hV (by rw[hwl,hvl]) hvl hn2 (by omega);have hdv:sn V (j+1) A=((sn V j (j5 A j (qX (A.getD (j+(k+2)) 0) ((A.drop j).take (k+2)) V).1 (qX (A.getD (j+(k+2)) 0) ((A.drop j).take (k+2)) V).2.1)).1,(sn V j (j5 A j (qX (A.getD (j+(k+2)) 0) ((A.drop j).take (k+2)) V).1 (qX (A.getD (j+(k+2)) 0) ((A.drop j).take (k+2)) V).2.1)).2++[(qX (A.getD (j+(k+2)) 0) ((A.drop j).take (k+2)) V).2.2]):=by
   rw[←hvl];rfl
  rw[x1]at hs;rw[hdv];have hds:qX (A.getD (j+(k+2)) 0) ((A.drop j).take (k+2)) V=if(jP G (A.getD (j+(k+2)) 0) ((A.drop j).take (k+2)) V).2.2=true then(cp (jP G (A.getD (j+(k+2)) 0) ((A.drop j).take (k+2)) V).1 V V.length,((jP G (A.getD (j+(k+2)) 0) ((A.drop j).take (k+2)) V).2.1+cV (jP G (A.getD (j+(k+2)) 0) ((A.drop j).take (k+2)) V).1 V V.length) %4294967296,G-1)else((jP G (A.getD (j+(k+2)) 0) ((A.drop j).take (k+2)) V).1,(jP G (A.getD (j+(k+2)) 0) ((A.drop j).take (k+2)) V).2.1,G):=by
   unfold qX;rw[hG]
  generalize jP G (A.getD (j+(k+2)) 0) ((A.drop j).take (k+2)) V=r at*
  obtain⟨ra,rt,rf⟩:=r;generalize qX (A.getD (j+(k+2)) 0) ((A.drop j).take (k+2)) V=sd at*
  have wg:IntKind.u32.wrap (G:Int)=G:=wK rfl hgb;have o1:(ax (List.replicate (j+1) 0++Dn))[j]?=some [U (0:Nat)]:=by
   rw[ij (by simp;omega),List.getD_eq_getElem?_getD,List.getElem?_append_left (by simp),List.getElem?_replicate,if_pos (by omega)];rfl
  have o2:∀z:Nat,(ax (List.replicate (j+1) 0++Dn)).set j [U (z:Int)]=ax (List.replicate j 0++z::Dn):=fun z=>by
   rw[kg];congr 1;rw[List.replicate_succ',List.append_assoc,List.set_append_right _ _ (by simp)];simp
  have o3:((j:Int)< (QL:Int))=True:=tt (by omega);cases rf with
  |false=>
   simp only[Bool.false_eq_true,if_false]at hds;subst hds;simp only at hs⊢;obtain⟨d1,d2,d3,d4,d5⟩:=hs;rw[XK d4];have ih':=ih (j5 A j ra rt) (G::Dn) (Kn hA d3 d5) (by rw[yD (by omega)];exact hl) (by omega) (by simp;omega) (by
    rw[DT (by omega),cS,d4,w2' x2,d1];exact Nat.mod_lt _ (by omega))
   simp only[go_sem,apB,apA,apC,apD,apE,w7,wg,o1,o2,o3,e1,Int.toNat_natCast,Nat.zero_add];rw[List.append_assoc];exact ih' _ _ rfl rfl rfl rfl rfl rfl rfl rfl rfl
  |true=>
   simp only[if_true]at hds;subst hds;simp only at hs q2 q3 q4⊢;obtain⟨d1,d2,d3,d4,d5⟩:=hs;have hG1:1<=G:=hpos rfl;have wq:IntKind.u64.wrap ((G:Int)-1)=((G-1:Nat):Int):=cK (by omega) (by omega);have wg1:IntKind.u32.wrap ((G-1:Nat):Int)=((G-1:Nat):Int):=wK rfl (by omega);have hx:=ags (V:=V) (us:=ra) (P:=A.take j) (Z:=rt::A.drop (j+(k+2)+1)) (Qr:=List.replicate (j+1) 0++Dn) (sh:=sh) (n:=(k+2:Nat)) (j:=(j:Int)) (g:=((G-1:Nat):Int)) (UL:=UL) (QL:=QL) (J:=j) hV q3 q4 hn hpl rfl (by omega) (by omega);simp only[go_sem,apB,apA,apC,apD,apE,wq];generalize hX:am 4 _ _=X;obtain⟨hh,rfl,y70,y2408,yd⟩:=hx _ _ _ hX rfl rfl rfl rfl rfl rfl rfl rfl rfl rfl rfl rfl rfl rfl;have y63:hh 63=.dead:=yd _ (by decide) (by decide);have hsl:(cp ra V V.length).length=k+2:=by rw[gg,hvl]
   have wc:IntKind.u32.wrap ((rt:Int)+(cV ra V V.length:Int))=(((rt+cV ra V V.length) %4294967296:Nat):Int):=BL (by simp);have z1:(ax (A.take j++(cp ra V V.length++rt::A.drop (j+(k+2)+1))))[j+(k+2)]?=some [U (rt:Nat)]:=by
    rw[ij (by simp[hpl,hsl]),List.getD_eq_getElem?_getD,List.getElem?_append_right (by omega),List.getElem?_append_right (by omega),hpl,hsl,Nat.add_sub_cancel_left,Nat.sub_self];rfl
   have z2:(ax (A.take j++(cp ra V V.length++rt::A.drop (j+(k+2)+1)))).set (j+(k+2)) [U (((rt+cV ra V V.length) %4294967296:Nat):Int)]=ax (j5 A j (cp ra V V.length) ((rt+cV ra V V.length) %4294967296)):=by
    rw[kg,List.set_append_right _ _ (by omega),List.set_append_right _ _ (by omega),hpl,hsl,Nat.add_sub_cancel_left,Nat.sub_self,←XK hsl];rfl
   have ih':=ih (j5 A j (cp ra V V.length) ((rt+cV ra V V.length) %4294967296)) ((G-1)::Dn) (Kn hA d3 d5) (by rw[yD (by omega)];exact hl) (by omega) (by simp;omega) (by
    rw[DT (by omega),cS,hsl,w2' x2,d1];exact Nat.mod_lt _ (by omega))
   generalize j5 A j (cp ra V V.length) ((rt+cV ra V V.length) %4294967296)=A2 at*
   generalize(rt+cV ra V V.length) %4294967296=rc at*
   simp only[go_sem,apB,apA,apC,apD,apE,w1,w7,wg1,wc,z1,z2,o1,o2,o3,e1,b1,b4,y63,y70,y2408,Int.toNat_natCast,Nat.zero_add];rw[List.append_assoc];exact ih' _ _ rfl rfl rfl rfl rfl rfl y63 rfl rfl
theorem aca{x:Nat}(hx:x<4294967296):R F.bits_LeadingZeros32 [U x] []=some (I ((32-ae x:Nat):Int),[]):=by
 refine aA AP rfl ?_;have hb:ae x<=32:=bt.2 hx;have hl:=OT hx;have w1:IntKind.i64.wrap (32- (ae x:Int))=((32-ae x:Nat):Int):=wi (by omega) (by omega);simp only[kU,rX,go_sem,apB,apA,hl,w1]
theorem agt{V A:List Nat}{k:Nat}{sh:Int}{UL m:Nat}(hV:Lb V)(hvl:V.length=k+2)(hn2:2147483648<=V.getD (k+1) 0)(hn:V.length<=100000)(hUL:UL<=100000)(hA:Lb A)(hl:A.length=UL)(hm:m+(k+2)<=UL)(hlt:aa (A.drop m)<aa V)(s:af)(h:ac)(X:Option (Ex×St))(hX:am 2 [8,9,11,12] (aD (aj R (aH false) gY) [8,9,10,11,12,13] [63,70,2408] s h)=X)
  (g8:s 8=I sh) (g9:s 9=.rsl 2408 none 1 0 UL) (g10:s 10=lm V) (g11:s 11=I (k+2:Nat)) (g12:s 12=.rsl 70 none 1 0 m) (g13:s 13=I ((m:Int)-1)) (k63:h 63=.dead) (k70:h 70=.ar 1 (ax (List.replicate m 0))) (k2408:h 2408=.ar 1 (ax A)):
  ∃hh,X=some (.normal,⟨upd (upd (upd (upd (fun _=>.any) 12 (.rsl 70 none 1 0 m)) 11 (I (k+2:Nat))) 9 (.rsl 2408 none 1 0 UL)) 8 (I sh),hh⟩)/\hh 70=.ar 1 (ax (sn V m A).2)/\hh 2408=.ar 1 (ax (sn V m A).1)/\(∀a,a≠70->a≠2408->hh a=.dead):=by
 subst hX;have:=ZY (sh:=sh) (QL:=m) hV hvl hn2 hn hUL m A [] hA hl hm (by simp) hlt s h g8 g9 g10 g11 g12 g13 k63 (by rw[List.append_nil];exact k70) k2408;rw[List.append_nil]at this;exact this
theorem ZZ{b:List Nat}{k:Nat}(hb:Lb b)(hl:b.length=k+2)(ht:b.getD (k+1) 0≠0):2147483648*4294967296^ (k+1)<=aa b*2^ (32-ae (b.getD (k+1) 0))/\aa b*2^ (32-ae (b.getD (k+1) 0))<4294967296^ (k+2):=by
 have h1:aa b=aa (b.take (k+1))+4294967296^ (k+1)*b.getD (k+1) 0:=by
  rw[←dx,List.take_of_length_le (by omega)]
 have h2:=bQ (dN hb (k+1));rw[List.length_take,Nat.min_eq_left (by omega)]at h2;have h3:=bu hb (k+1);generalize b.getD (k+1) 0=x at*
 have h4:ae x<=32:=bt.2 h3;have h5:0<ae x:=fk ht;have h6:=dS (n:=x) (32-ae x) ht;have h7:2147483648<=x*2^ (32-ae x):=by
  refine Nat.le_of_not_lt fun hc=>?_;have:=bt.2 (show x*2^ (32-ae x)<2^31 from hc);omega
 have h8:(x+1)*2^ (32-ae x)<=4294967296:=by
  have h9:x<2^ae x:=bt.1 (Nat.le_refl _);have h10:(x+1)*2^ (32-ae x)<=2^ae x*2^ (32-ae x):=Nat.mul_le_mul_right _ h9;rw[←Nat.pow_add,show ae x+(32-ae x)=32 by omega]at h10;exact h10
 rw[h1];have e:4294967296^ (k+2)=4294967296^ (k+1)*4294967296:=Nat.pow_succ ..;rw[e];generalize 4294967296^ (k+1)=B at*
 generalize 2^ (32-ae x)=S at*
 have h11:B*2147483648<=B*(x*S):=Nat.mul_le_mul_left _ h7;have h12:B*((x+1)*S)<=B*4294967296:=Nat.mul_le_mul_left _ h8;have h13:(aa (b.take (k+1))+B*x)*S=aa (b.take (k+1))*S+B*(x*S):=by rw[Nat.add_mul,Nat.mul_assoc]
 rw[h13];constructor
 ·omega
 ·have hS:0<S:=by
   rcases Nat.eq_zero_or_pos S with h0|h0
   ·rw[h0]at h7;omega
   ·exact h0
  have h14:aa (b.take (k+1))*S<B*S:=Nat.mul_lt_mul_of_pos_right h2 hS;rw[Nat.add_mul,Nat.one_mul,Nat.mul_add]at h12;omega
theorem RM{a b:List Nat}(ha:Lb a)(hb:Lb b)(h1:a.length<=50000)(h2:b.length<=50000)(hl:(ap (aa b)).length=1)(hge:aa b<=aa a):R F.natural_divide [lm a,lm b] []=some (.tup [lm (dE (aa b) (ap (aa a))).1,lm [aa a%aa b]],[]):=by
 refine aA ym rfl ?_;have t1:=cA ha (by omega);have t2:=cA hb (by omega);have la:=cz a ha;have hc:=vQ (aP (aa a)) (aP (aa b)) (by omega) (by omega);rw[aL,aL]at hc;have e1:(bE (aa a) (aa b)<0)=False:=by
  unfold bE;grind
 obtain⟨y,hy⟩:=List.length_eq_one_iff.1 hl;have hv:aa b=y:=by
  grind[aL,aa]
 have hyb:y<4294967296:=by
  have:=aP (aa b);rw[hy]at this;exact this y (by simp)
 have hy0:0<y:=by
  grind[fQ]
 have hs:=ZW (aP (aa a)) hy0 hyb (by omega);obtain⟨s1,s2,s3⟩:=xr hy0 (aP (aa a));rw[aL]at s1;have s4:(dE y (ap (aa a))).2=aa a%y:=by
  grind[Nat.mul_comm,Nat.mul_add_mod,Nat.mod_eq_of_lt]
 rw[hv]at hge⊢;rw[s4]at hs;rw[hy]at t2 hc;have e2:aV (ax [y]) 0=some (.ipt [U (y:Nat)]):=bk (n:=0) rfl (by simp);have e3:(([y]:List Nat).length:Int)=1:=rfl;have e4:((1:Nat):Int)=1:=rfl;simp only[lA,rH,go_sem,apB,apA,apC,apD,t1,t2,hc,e1,e2,e3,e4,hs,decide_true];rfl
theorem RN{a b:List Nat}{k:Nat}(ha:Lb a)(hb:Lb b)(h1:a.length<=50000)(h2:b.length<=50000)(hl:(ap (aa b)).length=k+2)(hge:aa b<=aa a):∃Q Rr,R F.natural_divide [lm a,lm b] []=some (.tup [lm Q,lm Rr],[])/\Lb Q/\Lb Rr/\aa Q=aa a/aa b/\aa Rr=aa a%aa b/\Q.length<=100000/\Rr.length<=100000:=by
 have t1:=cA ha (by omega);have t2:=cA hb (by omega);have la:=cz a ha;have lb:=cz b hb;have hc:=vQ (aP (aa a)) (aP (aa b)) (by omega) (by omega);rw[aL,aL]at hc;have e1:(bE (aa a) (aa b)<0)=False:=by
  unfold bE;grind
 have hvd:=aL (aa b);have hLd:=aP (aa b);have hb0:aa b≠0:=fun h=>by
  rw[ke.2 h]at hl;grind
 have ht:(ap (aa b)).getD (k+1) 0≠0:=by
  intro h0;have q1:aa (ap (aa b))=aa ((ap (aa b)).take (k+1))+4294967296^ (k+1)*(ap (aa b)).getD (k+1) 0:=by
   rw[←dx,List.take_of_length_le (by omega)]
  have q2:=bQ (dN hLd (k+1));have q3:=Lx hb0;rw[List.length_take,Nat.min_eq_left (by omega)]at q2;rw[hl,show k+2-1=k+1 from rfl]at q3;rw[h0,Nat.mul_zero,hvd]at q1;omega
 obtain⟨n1,n2⟩:=ZZ hLd hl ht;rw[hvd]at n1 n2;have hy:=bu hLd (k+1);have hyl:aV (ax (ap (aa b))) ((k+1:Nat):Int)=some (.ipt [U ((ap (aa b)).getD (k+1) 0:Nat)]):=bk (n:=k+1) rfl (by omega);generalize(ap (aa b)).getD (k+1) 0=y at*
 have hlz:=aca hy;have hbl:ae y<=32:=bt.2 hy;have hbp:0<ae y:=fk ht;generalize hs:32-ae y=s at*
 have hs32:s<32:=by omega
 have s1:=H9 (aP (aa a)) (n:=s) (by omega) (by omega);have s2:=H9 hLd (n:=s) (by omega) (by omega);rw[aL,show s/32=0 by omega,Nat.zero_add]at s1 s2;have hsp:(2:Nat)^s<=2147483648:=Nat.pow_le_pow_right (n:=2) (i:=s) (j:=31) (by decide) (by omega);have hAl:=eL (aa a);have hBl:=eL (aa b);have hle:k+2<=(ap (aa a)).length:=by
  rw[←hl];refine Nat.le_of_not_lt fun hc=>?_;have:=mP hc;omega
 have hA2:aa a*2^s<4294967296^ ((ap (aa a)).length+1):=by
  rw[Nat.pow_succ];exact Nat.mul_lt_mul_of_lt_of_le hAl (by omega) (by decide)
 have hB2:aa b*2^s<4294967296^ ((ap (aa b)).length+1):=by
  rw[Nat.pow_succ];exact Nat.mul_lt_mul_of_lt_of_le hBl (by omega) (by decide)
 have t3:=cA (m:=cD ((ap (aa b)).length+1) (aa b*2^s)) (kf _ _) (by rw[bU];omega);rw[iN,Nat.mod_eq_of_lt hB2]at t3;have hVv:=aL (aa b*2^s);have hVb:=aP (aa b*2^s);have hVl:(ap (aa b*2^s)).length=k+2:=by
  have q1:=gH n2;have q2:=eL (aa b*2^s);refine Nat.le_antisymm q1 (Nat.le_of_not_lt fun hc=>?_);have q3:4294967296^ (ap (aa b*2^s)).length<=4294967296^ (k+1):=Nat.pow_le_pow_right (by decide) (by omega);omega
 have hVt:2147483648<=(ap (aa b*2^s)).getD (k+1) 0:=by
  have q1:aa (ap (aa b*2^s))=aa ((ap (aa b*2^s)).take (k+1))+4294967296^ (k+1)*(ap (aa b*2^s)).getD (k+1) 0:=by
   rw[←dx,List.take_of_length_le (by omega)]
  have q2:=bQ (dN hVb (k+1));rw[List.length_take,Nat.min_eq_left (by omega)]at q2;refine Nat.le_of_not_lt fun hc=>?_;have q3:4294967296^ (k+1)*((ap (aa b*2^s)).getD (k+1) 0+1)<=4294967296^ (k+1)*2147483648:=Nat.mul_le_mul_left _ hc;rw[Nat.mul_add,Nat.mul_one]at q3;omega
 generalize ap (aa b*2^s)=V at*
 obtain⟨m,hm⟩:∃m,(ap (aa a)).length=m+(k+1):=⟨_,(Nat.sub_add_cancel (by omega)).symm⟩;have hUv:aa (cD ((ap (aa a)).length+1) (aa a*2^s))=aa a*2^s:=by rw[iN,Nat.mod_eq_of_lt hA2]
 have hUb:=kf ((ap (aa a)).length+1) (aa a*2^s);have hUl:=bU ((ap (aa a)).length+1) (aa a*2^s);have hlt:aa ((cD ((ap (aa a)).length+1) (aa a*2^s)).drop m)<aa V:=by
  rw[rM hUb,hUv,hVv];refine Nat.lt_of_lt_of_le (Nat.div_lt_of_lt_mul ?_) n1;rw[Nat.mul_comm 2147483648,←Nat.mul_assoc,←Nat.pow_add,←hm];exact Nat.mul_lt_mul_of_lt_of_le hAl hsp (by decide)
 generalize cD ((ap (aa a)).length+1) (aa a*2^s)=A at*
 obtain⟨d1,d2,d3,d4,d5,d6⟩:=XD hVb hVl hVt m A hUb (by omega) hlt;have hdx:=agt (sh:=(s:Int)) hVb hVl hVt (by omega) (UL:=A.length) (by omega) hUb rfl (m:=m) (by omega) hlt;generalize(sn V m A).1=rr at*
 generalize(sn V m A).2=qq at*
 have hrt:aa (rr.take (k+2))=aa rr:=by
  have q1:=cS (rr.take (k+2)) (rr.drop (k+2));rw[List.take_append_drop]at q1;have q2:=rM d5 (k+2);rw[Nat.div_eq_of_lt (Nat.lt_trans d2 (by rw[hVv];exact n2))]at q2;rw[q2]at q1;omega
 have s3:=WQ (dN d5 (k+2)) (n:=s) (by rw[List.length_take];omega) (by omega);rw[hrt,show s/32=0 by omega,Nat.sub_zero]at s3;have hrr:aa rr/2^s=aa a%aa b/\aa qq=aa a/aa b:=by
  rw[hUv,hVv]at d1;rw[hVv]at d2;have q0:0<2^s:=Nat.two_pow_pos s;have q1:aa rr%2^s=0:=by
   have:aa a*2^s%2^s=0:=Nat.mul_mod_left ..;rw[d1,Nat.mul_assoc,Nat.mul_comm (aa b),Nat.mul_assoc,Nat.add_mul_mod_self_left]at this;exact this
  obtain⟨r,hr⟩:=Nat.dvd_of_mod_eq_zero q1;rw[hr,Nat.mul_div_cancel_left _ q0];rw[hr]at d1 d2;have q2:aa a=r+aa b*aa qq:=by
   refine Nat.eq_of_mul_eq_mul_right q0 ?_;rw[d1];grind
  have q3:r<aa b:=by
   refine Nat.lt_of_mul_lt_mul_right (a:=2^s) ?_;rw[Nat.mul_comm r];exact d2
  rw[q2,Nat.add_mul_mod_self_left,Nat.mod_eq_of_lt q3,Nat.add_mul_div_left _ _ (by omega),Nat.div_eq_of_lt q3,Nat.zero_add];exact⟨rfl,rfl⟩
 refine⟨qq,cD (ap (aa rr)).length (aa rr/2^s),?_,d6,kf _ _,hrr.2,?_,by omega,?_⟩;rotate_left
 ·rw[iN,Nat.mod_eq_of_lt (Nat.lt_of_le_of_lt (Nat.div_le_self _ _) (eL _))];exact hrr.1
 ·rw[bU];have:=cz rr d5;omega
 refine aA ym rfl ?_;generalize cD ((ap (aa b)).length+1) (aa b*2^s)=B2 at s2 t3;have tk:List.take B2.length (ax B2)=ax B2:=List.take_of_length_le (by simp[ax]);have e2:(((ap (aa b)).length:Int)=1)=False:=eq_false (by omega);have w1:IntKind.i64.wrap (((ap (aa b)).length:Int)-1)=((k+1:Nat):Int):=wi (by omega) (by omega);have e3:((A.length:Int)<=(ap (aa a)).length)=False:=eq_false (by omega);have w2:IntKind.i64.wrap ((A.length:Int)-V.length)=((m:Nat):Int):=wi (by omega) (by omega);have w3:IntKind.i64.wrap ((m:Int)-1)=(m:Int)-1:=i64_in _ ⟨by omega,by omega⟩;have z1:pD (.v (.int .i64 (m:Int))) (.v (.int .i64 (m:Int)))=some (m,m):=by
  simp only[pD];rw[if_pos ⟨by omega,by omega,by omega⟩];rfl
 have z2:(m*4<=140737488355328)=True:=eq_true (by omega);simp only[lA,rH,go_sem,apB,apA,apC,apD,t1,t2,hc,e1,e2,Nat.zero_add,Nat.le_refl,e3,w1,hyl,hlz,s1,s2,tk,t3];rw[ai];simp only[tQ,go_sem,apB,apA,apC,apE,e3,w2,w3,z1,z2];generalize hX:am 2 _ _=X;obtain⟨hh,rfl,q70,q2408,qd⟩:=hdx _ _ _ hX rfl rfl rfl (by rw[hVl];rfl) rfl rfl rfl (by simp[ax];rfl) rfl;have e4:∀n:Nat,n<=A.length->gh 1 (.rsl 2408 none 1 0 A.length) none (some (I (n:Int))) none=some (.rsl 2408 none 1 0 n):=fun n hn=>by simp[gh,nO,lB,hn]
 have e4:=e4 (k+2) (by omega);have e5:(0+(k+2)<=rr.length)=True:=eq_true (by omega);have e6:List.take (k+2) (ax rr)=ax (rr.take (k+2)):=(List.map_take ..).symm;simp only[go_sem,apB,apA,apC,apD,q70,q2408,qd 3336 (by decide) (by decide),e4,e5,e6,s3];rw[d3,if_pos (by omega),if_pos rfl];simp only[go_sem]
theorem XL{a b:List Nat}(ha:Lb a)(hb:Lb b)(h1:a.length<=50000)(h2:b.length<=50000)(h0:aa b≠0)(hge:aa b<=aa a):∃Q Rr,R F.natural_divide [lm a,lm b] []=some (.tup [lm Q,lm Rr],[])/\Lb Q/\Lb Rr/\aa Q=aa a/aa b/\aa Rr=aa a%aa b/\Q.length<=100000/\Rr.length<=100000:=by
 have la:=cz a ha;have lb:=cz b hb;have hn:(ap (aa b)).length≠0:=fun h=>h0 (ke.1 (List.length_eq_zero_iff.1 h));by_cases hl:(ap (aa b)).length=1
 ·have:=RM ha hb h1 h2 hl hge;have hb1:=eL (aa b);rw[hl,Nat.pow_one]at hb1;obtain⟨s1,s2,s3⟩:=xr (Nat.pos_of_ne_zero h0) (aP (aa a));rw[aL]at s1;have s4:=SO (Nat.pos_of_ne_zero h0) hb1 (aP (aa a));refine⟨_,_,this,s4,fun x hx=>?_,?_,?_,by omega,by simp⟩
  ·have:x=aa a%aa b:=by simpa using hx
   have:=Nat.mod_lt (aa a) (Nat.pos_of_ne_zero h0);omega
  ·generalize(dE (aa b) (ap (aa a))).2=r at*
   generalize(dE (aa b) (ap (aa a))).1=q at*
   rw[s1,Nat.mul_comm,Nat.mul_add_div (Nat.pos_of_ne_zero h0),Nat.div_eq_of_lt s2,Nat.add_zero]
  ·simp[aa]
 ·obtain⟨k,hk⟩:∃k,(ap (aa b)).length=k+2:=⟨(ap (aa b)).length-2,by omega⟩;exact RN ha hb h1 h2 hk hge
theorem XM{a b:List Nat}(ha:Lb a)(hb:Lb b)(h1:a.length<=256)(h2:b.length<=256)(h0:aa b≠0)(hge:aa b<=aa a):R F.natural_DivMod [lm a,lm b] []=some (.tup [lm (ap (aa a/aa b)),lm (ap (aa a%aa b)),I 0],[]):=by
 refine aA GB rfl ?_;have e1:(256<a.length)=False:=ff (by omega);have e2:(256<b.length)=False:=ff (by omega);obtain⟨Q,Rr,hd,q1,q2,q3,q4,q5,q6⟩:=XL ha hb (by omega) (by omega) h0 hge;have t1:=cA q1 (by omega);have t2:=cA q2 (by omega);rw[q3]at t1;rw[q4]at t2;have e3:(((ap (aa b)).length:Int)=0)=False:=eq_false fun h=>h0 (ke.1 (List.length_eq_zero_iff.1 (by omega)));simp only[qH,yc,go_sem,apB,apA,apC,apD,e1,e2,e3,pn,cA hb (by omega),hd,t1,t2,JY]
def qM(a b:Rd)(p:Int):Nat:=(p+3+ae (aa b.m)-ae (aa a.m)).toNat
def mS(a b:Rd)(p:Int)(up:Bool):Rd×Int:=if aX p [a,b]=0 then(if b.m.length=0 then(aK,10)else if a.m.length=0 then(aK,0)else
 gP (a.neg !=b.neg) (bJ (aa a.m*2^qM a b p/aa b.m) (a.e-qM a b p-b.e) (decide (aa a.m*2^qM a b p%aa b.m≠0)) p (up != (a.neg !=b.neg))))else(aK,aX p [a,b])
theorem SU{a b:Rd}(oa:Ok0 a)(ob:Ok0 b){p:Int}{up:Bool}:R F.round_div [ag a,ag b,I p,B up] []=some (rV (mS a b p up),[]):=by
 refine aA RB rfl ?_;have hf:R F.round_fault [I p,.sl 3 [[B a.neg,lm a.m,I a.e],[B b.neg,lm b.m,I b.e]]] []=some (I (aX p [a,b]),[]):=yv (p:=p) (l:=[a,b]) (fun x hx=>by
  grind) (show 2<=100000 by decide)
 unfold mS;by_cases h0:aX p [a,b]=0
 ·obtain⟨v1,v2,v3⟩:=pq h0;have v4:vd a=true/\vd b=true:=by grind
  obtain⟨va,vb⟩:=v4;obtain⟨a1,a2,a3,a4⟩:=dT va oa.lb;obtain⟨b1,b2,b3,b4⟩:=dT vb ob.lb;rw[if_pos h0];rw[h0]at hf;by_cases b0:b.m.length=0
  ·have e1:((b.m.length:Int)=0)=True:=tt (by omega);rw[if_pos b0];simp only[lU,qT,rV,ag,ak,aK,go_sem,apB,apA,apC,apD,hf,e1]
  have e1:((b.m.length:Int)=0)=False:=ff (by omega);rw[if_neg b0];by_cases a0:a.m.length=0
  ·have e2:((a.m.length:Int)=0)=True:=tt (by omega);rw[if_pos a0];simp only[lU,qT,rV,ag,ak,aK,go_sem,apB,apA,apC,apD,hf,e1,e2]
  have e2:((a.m.length:Int)=0)=False:=ff (by omega);rw[if_neg a0];have hA:=dy va a0;have hB:=dy vb b0;obtain⟨n,rfl⟩:=Int.eq_ofNat_of_zero_le (show 0<=p by omega);have d1:=OX oa;have d2:=OX ob;rw[if_pos va]at d1;rw[if_pos vb]at d2;have hk:qM a b (n:Nat)=((n:Int)+3+ae (aa b.m)-ae (aa a.m)).toNat:=rfl;generalize qM a b (n:Nat)=k at*
  have hm2:=dS k hA;have hl2:(ap (aa a.m*2^k)).length<=256:=aS (by omega);have hs:=uP oa.lb a1 (k:=k) (by omega) hl2;have hge:aa b.m<=aa (ap (aa a.m*2^k)):=by
   rw[aL];refine Nat.le_of_not_lt fun hc=>?_;have:=vR (Nat.le_of_lt hc) (Nat.le_refl _);omega
  have hd:=XM (aP (aa a.m*2^k)) ob.lb hl2 b1 hB hge;rw[aL]at hd;have hqb:ae (aa a.m*2^k/aa b.m)<=8192:=vR (Nat.div_le_self _ _) (by omega);have hrb:ae (aa a.m*2^k%aa b.m)<=8192:=vR (Nat.mod_le _ _) (by omega);have hbt:=AX (aP (aa a.m*2^k%aa b.m)) (Nat.le_trans (aS (k:=256) (by omega)) (by decide));rw[aL]at hbt;have hsg:=zu (M:=ap (aa a.m*2^k/aa b.m)) (e:=a.e-k-b.e) (n:=n) (more:=decide (aa a.m*2^k%aa b.m≠0)) (up:=up) (neg:=a.neg !=b.neg) (aP _) (aS (by omega)) ⟨by omega,by omega⟩ ⟨by omega,by omega⟩;rw[aL]at hsg;have hmr:decide (aa a.m*2^k%aa b.m≠0)=decide ((0:Int)< (ae (aa a.m*2^k%aa b.m):Nat)):=by
   grind[pp,decide_eq_true,fk]
  rw[hmr]at hsg⊢;have w1:IntKind.i64.wrap ((n:Int)+3)=(n:Int)+3:=i64_in _ ⟨by omega,by omega⟩;have w2:IntKind.i64.wrap ((n:Int)+3+(ae (aa b.m):Nat))=(n:Int)+3+(ae (aa b.m):Nat):=i64_in _ ⟨by omega,by omega⟩;have w3:IntKind.i64.wrap ((n:Int)+3+(ae (aa b.m):Nat)- (ae (aa a.m):Nat))=(n:Int)+3+(ae (aa b.m):Nat)- (ae (aa a.m):Nat):=i64_in _ ⟨by omega,by omega⟩;have w4:IntKind.i64.wrap (a.e- (k:Int))=a.e-k:=i64_in _ ⟨by omega,by omega⟩;have w5:IntKind.i64.wrap (a.e- (k:Int)-b.e)=a.e-k-b.e:=i64_in _ ⟨by omega,by omega⟩;have em:(if(0:Int)< (n:Int)+3+(ae (aa b.m):Nat)- (ae (aa a.m):Nat)then(n:Int)+3+(ae (aa b.m):Nat)- (ae (aa a.m):Nat)else 0)=(k:Int):=by omega
  simp only[rV,ag,ak,qW]at hsg d1 d2;simp only[lU,qT,rV,ag,ak,go_sem,apB,apA,apC,apD,apE,hf,e1,e2,d1,d2,w1,w2,w3,w4,w5,em,hs,hd,hbt,tw,hsg]
 ·have e1:(aX p [a,b]=0)=False:=ff h0;rw[if_neg h0];simp only[lU,qT,rV,ag,ak,aK,go_sem,apB,apA,apC,apD,hf,e1]
theorem Z0{a b:Rd}(oa:Ok0 a)(ob:Ok0 b){p:Int}:R F.round_DivUp [ag a,ag b,I p] []=some (rV (mS a b p true),[]):=by
 refine aA nD rfl ?_;have hr:=SU oa ob (p:=p) (up:=true);simp only[rV,ag,ak]at hr;simp only[uC,Cu,rV,ag,ak,go_sem,apB,apA,apC,hr]
theorem Vh{a b:Rd}(oa:Ok0 a)(ob:Ok0 b){p:Int}:R F.round_DivDown [ag a,ag b,I p] []=some (rV (mS a b p false),[]):=by
 refine aA kN rfl ?_;have hr:=SU oa ob (p:=p) (up:=false);simp only[rV,ag,ak]at hr;simp only[rG,ze,rV,ag,ak,go_sem,apB,apA,apC,hr]
theorem EW{a b:Rd}{p:Int}{up:Bool}:vd (mS a b p up).1=true/\Ok0 (mS a b p up).1:=by
 unfold mS;split
 ·split
  ·exact bj
  ·split
   ·exact bj
   ·exact W8
 ·exact bj
def Ko(x y:Ri)(p:Int):Ri:=if(kI x&&kI y&&bK p)=true then(if DM y=0 then cB else CC (jV (fun a b=>mS a b p false) (fun a b=>mS a b p true) (en x y)))else cB
theorem SV{x y:Ri}(ox:OkI x)(oy:OkI y){p:Int}:R F.interval_Div [av x,av y,I p] []=some (av (Ko x y p),[]):=by
 refine aA JK rfl ?_;have hk:=zB ox oy;have hp:=tE (p:=p);have hw:=kX;have hs:=O5 oy;have hf:=Sw ox oy (p:=p) (dn:=fun a b=>mS a b p false) (up:=fun a b=>mS a b p true) ⟨fun h1 h2=>Vh h1 h2,EW.2,kN.1.1,kN.1.2.1,kN.1.2.2.2,kN.1.2.2.1⟩ ⟨fun h1 h2=>Z0 h1 h2,EW.2,nD.1.1,nD.1.2.1,nD.1.2.2.2,nD.1.2.2.1⟩;unfold Ko;generalize CC (jV (fun a b=>mS a b p false) (fun a b=>mS a b p true) (en x y))=z at hf⊢;generalize DM y=sg at*
 simp only[av,az,cB,aK]at hw hf hs;cases h1:(kI x&&kI y)with
 |false=>
  rw[h1]at hk;rw[Bool.false_and,if_neg Bool.false_ne_true];simp only[iI,lL,av,az,cB,aK,go_sem,apB,apA,apC,apD,hk,hw]
 |true=>
  rw[h1]at hk;have hs:=hs ((Bool.and_eq_true _ _).mp h1).2;cases h2:bK p with
  |false=>
   rw[h2]at hp;rw[Bool.true_and,if_neg Bool.false_ne_true];simp only[iI,lL,av,az,cB,aK,go_sem,apB,apA,apC,apD,hk,hp,hw]
  |true=>
   rw[h2]at hp;rw[Bool.true_and,if_pos rfl];by_cases h3:sg=0
   ·have e3:(sg=0)=True:=eq_true h3;rw[if_pos h3];simp only[iI,lL,av,az,cB,aK,go_sem,apB,apA,apC,apD,hk,hp,hw,hs,e3]
   ·have e3:(sg=0)=False:=eq_false h3;rw[if_neg h3];simp only[iI,lL,av,az,cB,aK,go_sem,apB,apA,apC,apD,hk,hp,hf,hs,e3]
def GU(x:Ri):Ri:=if kI x=true then⟨dG x.hi,dG x.lo,false⟩else cB
theorem acb{x:Ri}(ox:OkI x):OkI (GU x):=by
 unfold GU;split
 ·exact⟨sj ox.hi,sj ox.lo⟩
 ·exact⟨bj.2,bj.2⟩
theorem acd{x:Ri}(ox:OkI x):R F.interval_Neg [av x] []=some (av (GU x),[]):=by
 refine aA JJ rfl ?_;have hk:=sf ox;have hw:=kX;have h1:R F.dyadic_Neg [ag x.lo] []=some (ag (dG x.lo),[]):=DI ox.lo;have h2:R F.dyadic_Neg [ag x.hi] []=some (ag (dG x.hi),[]):=DI ox.hi;unfold GU;simp only[av,az,ag,ak]at hw h1 h2;cases h0:kI x with
 |false=>
  rw[h0]at hk;simp only[oe,ut,av,az,go_sem,apB,apA,apC,apD,hk,hw]
 |true=>
  rw[h0]at hk;simp only[oe,ut,av,az,go_sem,apB,apA,apC,apD,apE,hk,h1,h2]
def Z3(x y:Ri)(p:Int):Ri:=j3 x (GU y) p
theorem ace{x y:Ri}(ox:OkI x)(oy:OkI y){p:Int}:R F.interval_Sub [av x,av y,I p] []=some (av (Z3 x y p),[]):=by
 refine aA JE rfl ?_;have h1:=acd oy;have h2:=Ka ox (acb oy) (p:=p);unfold Z3;simp only[av,az]at h1 h2;simp only[sK,Aw,av,az,go_sem,apB,apA,apC,apD,apE,h1,h2]
def EX(x y:Ri):Ri:=if(kI x&&kI y)=true then⟨jf x.lo y.lo,jg x.hi y.hi,false⟩else cB
theorem Z4{x y:Ri}(ox:OkI x)(oy:OkI y):R F.interval_Hull [av x,av y] []=some (av (EX x y),[]):=by
 refine aA HW rfl ?_;have hk:=zB ox oy;have hw:=kX;have h1:=Kb ox.lo oy.lo;have h2:=Kc ox.hi oy.hi;unfold EX;simp only[av,az,ag,ak]at hw h1 h2;cases h0:(kI x&&kI y)with
 |false=>
  rw[h0]at hk;simp only[mA,sO,av,az,go_sem,apB,apA,apC,apD,hk,hw]
 |true=>
  rw[h0]at hk;simp only[mA,sO,av,az,go_sem,apB,apA,apC,apD,apE,hk,h1,h2]
def Ik:Ri:=⟨aK,aK,false⟩
def tK(x y:Ri):Ri×Bool:=if(vi x&&vi y)=true then(if x.all=true then(y,true)else if y.all=true then(x,true)else if dt (jg x.lo y.lo) (jf x.hi y.hi)<=0 then(⟨jg x.lo y.lo,jf x.hi y.hi,false⟩,true)else(Ik,false))else(Ik,false)
theorem GV{x y:Ri}(ox:OkI x)(oy:OkI y):R F.interval_Meet [av x,av y] []=some (.tup [av (tK x y).1,B (tK x y).2],[]):=by
 refine aA HV rfl ?_;have hx:=se ox;have hy:=se oy;have h1:=Kc ox.lo oy.lo;have h2:=Kb ox.hi oy.hi;have hc:=qh (O8 ox.lo oy.lo) (O7 ox.hi oy.hi);rw[show(if vd (jg x.lo y.lo)=true/\vd (jf x.hi y.hi)=true then bD (zI (jg x.lo y.lo)) (zI (jf x.hi y.hi))else 0)=dt (jg x.lo y.lo) (jf x.hi y.hi)from rfl]at hc;unfold tK;generalize dt (jg x.lo y.lo) (jf x.hi y.hi)=cc at hc⊢;simp only[av,az,ag,ak]at hx hy h1 h2 hc;cases v1:vi x with
 |false=>
  rw[v1]at hx;simp only[eE,go,av,az,Ik,aK,go_sem,apB,apA,apC,hx]
  try rfl
 |true=>
  rw[v1]at hx;cases v2:vi y with
  |false=>
   rw[v2]at hy;simp only[eE,go,av,az,Ik,aK,go_sem,apB,apA,apC,hx,hy]
   try rfl
  |true=>
   rw[v2]at hy;cases a1:x.all with
   |true=>
    rw[a1]at hx;simp only[eE,go,av,az,go_sem,apB,apA,apC,hx,hy,a1]
   |false=>
    rw[a1]at hx;cases a2:y.all with
    |true=>
     rw[a2]at hy;simp only[eE,go,av,az,go_sem,apB,apA,apC,hx,hy,a1,a2]
    |false=>
     rw[a2]at hy;by_cases h3:cc<=0
     ·have e1:(0<cc)=False:=eq_false (by omega);rw[if_pos h3];simp only[eE,go,av,az,go_sem,apB,apA,apC,apD,apE,hx,hy,a1,a2,h1,h2,hc,e1]
     ·have e1:(0<cc)=True:=eq_true (by omega);rw[if_neg h3];simp only[eE,go,av,az,Ik,aK,go_sem,apB,apA,apC,apD,apE,hx,hy,a1,a2,h1,h2,hc,e1]
      try rfl
abbrev G:=Nat->Rat
def pl(x:Rat)(v:G):Nat->Nat->Rat
 |_,0=>0
 |i,c+1=>v i+x*pl x v (i+1) c
def nw(t:Rat)(v:G):Nat->Nat->Rat
 |0,i=>v i
 |n+1,i=>nw t v n i+t*nw t v n (i+1)
def dc(t:Rat)(v:G):Nat->Nat->Rat
 |0,i=>v i
 |n+1,i=>(1-t)*dc t v n i+t*dc t v n (i+1)
def gs(g:G)(a:Nat)(x:Rat):G:=fun i=>if i=a then x else g i
def F0(lo:Rat)(ad:Nat->Nat)(i:Nat):Nat->G->G
 |0,g=>g
 |k+1,g=>F0 lo ad i k (gs g (ad (i+k)) (g (ad (i+k))+lo*g (ad (i+k+1))))
def F1(lo:Rat)(ad:Nat->Nat):Nat->Nat->G->G
 |0,_,g=>g
 |k+1,i,g=>F1 lo ad k (i+1) (F0 lo ad i (k+1) g)
def LK(w:Rat)(ad:Nat->Nat):Nat->Nat->Rat->G->G
 |0,_,_,g=>g
 |k+1,j,b,g=>LK w ad k (j+1) (b*w) (gs g (ad j) (g (ad j)*(b*w)))
def F3(n:Nat)(ad:Nat->Nat):Nat->Nat->Rat->G->G
 |0,_,_,g=>g
 |k+1,j,b,g=>F3 n ad k (j+1) (b*((n:Rat)-j+1)/j) (gs g (ad j) (g (ad j)/ (b*((n:Rat)-j+1)/j)))
def Il(ad:Nat->Nat)(j:Nat):Nat->G->G
 |0,g=>g
 |k+1,g=>Il ad j k (gs g (ad (j+k+1)) (g (ad (j+k+1))+g (ad (j+k))))
def LL(ad:Nat->Nat):Nat->Nat->G->G
 |0,_,g=>g
 |k+1,j,g=>LL ad k (j+1) (Il ad j (k+1) g)
def fu:Nat->Nat->Nat
 |_,0=>1
 |0,_+1=>0
 |n+1,k+1=>fu n k+fu n (k+1)
theorem adZ{lo:Rat}{ad:Nat->Nat}(hi:∀a b,ad a=ad b↔a=b){i:Nat}:∀ (k:Nat) (g:G),(∀a,(∀m,i<=m->m<i+k->a≠ad m)->F0 lo ad i k g a=g a)/\(∀m,i<=m->m<i+k->F0 lo ad i k g (ad m)=g (ad m)+lo*F0 lo ad i k g (ad (m+1))):=by
 intro k;induction k with
 |zero=>exact fun g=>⟨fun _ _=>rfl,fun m h1 h2=>by omega⟩
 |succ k ih=>
  intro g;have e:F0 lo ad i (k+1) g=F0 lo ad i k (gs g (ad (i+k)) (g (ad (i+k))+lo*g (ad (i+k+1)))):=rfl;rw[e];obtain⟨h1,h2⟩:=ih (gs g (ad (i+k)) (g (ad (i+k))+lo*g (ad (i+k+1))));constructor
  ·intro a ha;rw[h1 a fun m hm hk=>ha m hm (by omega),gs,if_neg (ha _ (by omega) (by omega))]
  ·intro m hm hk;by_cases hq:m=i+k
   ·grind[gs]
   ·rw[h2 m hm (by omega),gs,if_neg (by grind)]
theorem ad0{x u lo:Rat}(hx:x=lo+u){v w:G}:∀ (k i:Nat),(∀m,i<=m->m<i+k->w m=v m+lo*w (m+1))->w (i+k)=v (i+k)->pl x v i (k+1)=w i+u*pl x w (i+1) k:=by
 intro k;induction k with
 |zero=>grind[pl]
 |succ k ih=>
  intro i h1 h2;have h3:=ih (i+1) (fun m a b=>h1 m (by omega) (by omega)) (by grind);grind[pl]
theorem ad1{x u lo:Rat}(hx:x=lo+u){ad:Nat->Nat}(hi:∀a b,ad a=ad b↔a=b):∀ (k i:Nat) (g:G),(∀a,(∀m,i<=m->m<i+k->a≠ad m)->F1 lo ad k i g a=g a)/\pl x (fun m=>g (ad m)) i (k+1)=pl u (fun m=>F1 lo ad k i g (ad m)) i (k+1):=by
 intro k;induction k with
 |zero=>simp_all[pl,F1]
 |succ k ih=>
  intro i g;obtain⟨h1,h2⟩:=adZ (lo:=lo) hi (i:=i) (k+1) g;have e:F1 lo ad (k+1) i g=F1 lo ad k (i+1) (F0 lo ad i (k+1) g):=rfl;rw[e];generalize F0 lo ad i (k+1) g=g1 at*
  obtain⟨h3,h4⟩:=ih (i+1) g1;constructor
  ·grind
  ·rw[ad0 hx (v:=fun m=>g (ad m)) (w:=fun m=>g1 (ad m)) (k+1) i h2 (h1 _ fun m _ hk=>by grind),h4];show _=F1 lo ad k (i+1) g1 (ad i)+u*_;grind
theorem ad2{w:Rat}{ad:Nat->Nat}(hi:∀a b,ad a=ad b↔a=b):∀ (k j:Nat) (b:Rat) (g:G),(∀a,(∀m,j<=m->m<j+k->a≠ad m)->LK w ad k j b g a=g a)/\(∀m,m<k->LK w ad k j b g (ad (j+m))=g (ad (j+m))*(b*w^ (m+1))):=by
 intro k;induction k with
 |zero=>exact fun j b g=>⟨fun _ _=>rfl,fun m h=>by omega⟩
 |succ k ih=>
  intro j b g;have e:LK w ad (k+1) j b g=LK w ad k (j+1) (b*w) (gs g (ad j) (g (ad j)*(b*w))):=rfl;rw[e];obtain⟨h1,h2⟩:=ih (j+1) (b*w) (gs g (ad j) (g (ad j)*(b*w)));constructor
  ·intro a ha;rw[h1 a fun m hm hk=>ha m (by omega) (by omega),gs,if_neg (ha _ (by omega) (by omega))]
  ·intro m hm;cases m with
   |zero=>
    rw[h1 _ fun m hm hk=>by grind];simp[gs]
   |succ m=>
    have:=h2 m (by omega);rw[show j+1+m=j+(m+1)by omega]at this;rw[this,gs,if_neg (by grind),Rat.pow_succ w (m+1),Rat.pow_succ w m];grind
theorem ad3{w t:Rat}{v z:G}:∀ (c i:Nat),(∀m,i<=m->m<i+c->z m=v m*w^m)->pl t z i c=w^i*pl (w*t) v i c:=by
 intro c;induction c with
 |zero=>grind[pl]
 |succ c ih=>
  grind[pl,Rat.pow_succ]
theorem yE(n:Nat):fu n 0=1:=by cases n<;>rfl
theorem A7:∀ (n k:Nat),n<k->fu n k=0
 |_,0,h=>by omega
 |0,_+1,_=>rfl
 |n+1,k+1,h=>by
  show fu n k+fu n (k+1)=0;rw[A7 n k (by omega),A7 n (k+1) (by omega)]
theorem EY:∀n k:Nat,k<=n->(fu n (k+1):Int)*(k+1)=fu n k*((n:Int)-k)
 |0,k,h=>by
  have:k=0:=by omega
  subst this;rfl
 |n+1,0,_=>by
  have:=EY n 0 (by omega);show((fu n 0+fu n 1:Nat):Int)*_=(fu (n+1) 0:Int)*_;simp only[yE]at this⊢;simp at this⊢;omega
 |n+1,k+1,h=>by
  have h1:=EY n k (by omega);show((fu n (k+1)+fu n (k+1+1):Nat):Int)*_=((fu n k+fu n (k+1):Nat):Int)*_;by_cases hk:k+1<=n
  ·have h2:=EY n (k+1) hk;grind
  ·have:n=k:=by omega
   subst this;rw[A7 n (n+1) (by omega),A7 n (n+1+1) (by omega)];simp
theorem SW:∀n k:Nat,k<=n->0<fu n k
 |n,0,_=>by grind[yE]
 |n+1,k+1,h=>Nat.add_pos_left (SW n k (by omega)) _
theorem ad4{n:Nat}{ad:Nat->Nat}(hi:∀a b,ad a=ad b↔a=b):∀ (k j:Nat) (b:Rat) (g:G),j+1+k=n+1->b=fu n j->(∀a,(∀m,j+1<=m->m<j+1+k->a≠ad m)->F3 n ad k (j+1) b g a=g a)/\(∀m,m<k->F3 n ad k (j+1) b g (ad (j+1+m))*fu n (j+1+m)=g (ad (j+1+m))):=by
 intro k;induction k with
 |zero=>exact fun j b g _ _=>⟨fun _ _=>rfl,fun m h=>by omega⟩
 |succ k ih=>
  intro j b g hk hb;have e:F3 n ad (k+1) (j+1) b g=F3 n ad k (j+1+1) (b*((n:Rat)- (j+1:Nat)+1)/ (j+1:Nat)) (gs g (ad (j+1)) (g (ad (j+1))/ (b*((n:Rat)- (j+1:Nat)+1)/ (j+1:Nat)))):=rfl;have hb2:b*((n:Rat)- (j+1:Nat)+1)/ (j+1:Nat)=fu n (j+1):=by
   have h1:=EY n j (by omega);have h2:((fu n (j+1):Rat))*(j+1)=fu n j*((n:Rat)-j):=by
    have:=congrArg (fun z:Int=>(z:Rat)) h1;simp only[Rat.intCast_mul,Rat.intCast_sub,Rat.intCast_add,Rat.intCast_natCast]at this;omega
   grind
  rw[e,hb2];have hp:(fu n (j+1):Rat)≠0:=by
   have:=SW n (j+1) (by omega);intro h0
   simp_all
  obtain⟨h1,h2⟩:=ih (j+1) (fu n (j+1)) (gs g (ad (j+1)) (g (ad (j+1))/fu n (j+1))) (by omega) rfl;constructor
  ·intro a ha;rw[h1 a fun m hm hk=>ha m (by omega) (by omega),gs,if_neg (ha _ (by omega) (by omega))]
  ·intro m hm;cases m with
   |zero=>
    rw[h1 _ fun m hm hk=>by grind];simp only[gs,Nat.add_zero,if_true];grind
   |succ m=>
    have:=h2 m (by omega);rw[show j+1+1+m=j+1+(m+1)by omega]at this
    simp_all[gs,if_neg]
theorem ad5{t:Rat}{u v w:G}:∀ (c i:Nat),(∀m,i<=m->m<i+c->w m=u m+v m)->pl t w i c=pl t u i c+pl t v i c:=by
 intro c;induction c with
 |zero=>grind[pl]
 |succ c ih=>
  grind[pl]
theorem GW{t:Rat}{v w:G}{d:Nat}:∀ (c i:Nat),(∀m,i<=m->m<i+c->w m=v (m+d))->pl t w i c=pl t v (i+d) c:=by
 intro c;induction c with
 |zero=>intro i _;rfl
 |succ c ih=>
  grind[pl]
theorem acf{t:Rat}{v:G}:∀ (c i:Nat),v (i+c)=0->pl t v i (c+1)=pl t v i c:=by
 intro c;induction c with
 |zero=>grind[pl]
 |succ c ih=>
  grind[pl]
theorem agu{t:Rat}{v:G}:∀ (n i:Nat),nw t v n i=pl t (fun m=>fu n m*v (i+m)) 0 (n+1):=by
 intro n;induction n with
 |zero=>simp only[nw,pl,fu,Nat.add_zero];grind
 |succ n ih=>
  intro i;have e1:=acf (t:=t) (v:=fun m=>(fu n m:Rat)*v (i+m)) (n+1) 0 (by simp_all[A7]);have e2:pl t (fun m=>(fu n m:Rat)*v (i+m)) 0 (n+1+1)=(fu n 0:Rat)*v (i+0)+t*pl t (fun m=>(fu n m:Rat)*v (i+m)) (0+1) (n+1):=rfl;have e3:pl t (fun m=>(fu (n+1) m:Rat)*v (i+m)) 0 (n+1+1)=(fu (n+1) 0:Rat)*v (i+0)+t*pl t (fun m=>(fu (n+1) m:Rat)*v (i+m)) (0+1) (n+1):=rfl;have e4:=GW (t:=t) (d:=1) (w:=fun m=>(fu n (m+1):Rat)*v (i+(m+1))) (v:=fun m=>(fu n m:Rat)*v (i+m)) (n+1) 0 (fun m _ _=>rfl);have e5:=GW (t:=t) (d:=1) (w:=fun m=>(fu (n+1) (m+1):Rat)*v (i+(m+1))) (v:=fun m=>(fu (n+1) m:Rat)*v (i+m)) (n+1) 0 (fun m _ _=>rfl);have e6:=ad5 (t:=t) (w:=fun m=>(fu (n+1) (m+1):Rat)*v (i+(m+1))) (u:=fun m=>(fu n m:Rat)*v (i+1+m)) (v:=fun m=>(fu n (m+1):Rat)*v (i+(m+1))) (n+1) 0 (fun m _ _=>by
   have:fu (n+1) (m+1)=fu n m+fu n (m+1):=rfl;simp only[this,show i+1+m=i+(m+1)by omega,Rat.natCast_add];grind)
  grind[nw,yE]
theorem ad6{ad:Nat->Nat}(hi:∀a b,ad a=ad b↔a=b){j:Nat}:∀ (k:Nat) (g:G),(∀a,(∀m,j<=m->m<j+k->a≠ad (m+1))->Il ad j k g a=g a)/\(∀m,j<=m->m<j+k->Il ad j k g (ad (m+1))=g (ad (m+1))+g (ad m)):=by
 intro k;induction k with
 |zero=>exact fun g=>⟨fun _ _=>rfl,fun m h1 h2=>by omega⟩
 |succ k ih=>
  intro g;have e:Il ad j (k+1) g=Il ad j k (gs g (ad (j+k+1)) (g (ad (j+k+1))+g (ad (j+k)))):=rfl;rw[e];obtain⟨h1,h2⟩:=ih (gs g (ad (j+k+1)) (g (ad (j+k+1))+g (ad (j+k))));constructor
  ·intro a ha;rw[h1 a fun m hm hk=>ha m hm (by omega),gs,if_neg (ha _ (by omega) (by omega))]
  ·intro m hm hk;by_cases hq:m=j+k
   ·subst hq;rw[h1 _ fun m hm hk=>by grind];simp[gs]
   ·rw[h2 m hm (by omega),gs,gs,if_neg (by grind),if_neg (by grind)]
theorem ad7{t:Rat}{v w:G}{j k:Nat}(h:∀m,j<=m->m<=j+k->w (m+1)=v (m+1)+v m):∀ (d m:Nat),j<=m->m+d<=j+k->nw t w d (m+1)=nw t v d (m+1)+nw t v d m:=by
 intro d;induction d with
 |zero=>exact fun m h1 h2=>h m h1 h2
 |succ d ih=>
  grind[nw]
theorem ad8{t:Rat}{ad:Nat->Nat}(hi:∀a b,ad a=ad b↔a=b):∀ (k j:Nat) (g:G),(∀a,(∀m,j<=m->m<j+k->a≠ad (m+1))->LL ad k j g a=g a)/\∀d,d<=k->dc t (fun m=>LL ad k j g (ad m)) d j=nw t (fun m=>g (ad m)) d j:=by
 intro k;induction k with
 |zero=>
  intro j g;refine⟨fun _ _=>rfl,fun d hd=>?_⟩;have:d=0:=by omega
  subst this;rfl
 |succ k ih=>
  intro j g;obtain⟨h1,h2⟩:=ad6 hi (j:=j) (k+1) g;have e:LL ad (k+1) j g=LL ad k (j+1) (Il ad j (k+1) g):=rfl;rw[e];generalize Il ad j (k+1) g=g1 at*
  obtain⟨h3,h4⟩:=ih (j+1) g1;refine⟨fun a ha=>by rw[h3 a fun m hm hk=>ha m (by omega) (by omega),h1 a fun m hm hk=>ha m hm hk],fun d=>?_⟩;induction d with
  |zero=>
   intro _;show LL ad k (j+1) g1 (ad j)=g (ad j);grind
  |succ d ihd=>
   intro hd;have q3:=ad7 (t:=t) (v:=fun m=>g (ad m)) (w:=fun m=>g1 (ad m)) (j:=j) (k:=k) (fun m a b=>h2 m a (by omega)) d j (Nat.le_refl _) (by omega);grind[dc,nw]
def Im(lo w:Rat)(n:Nat)(ad:Nat->Nat)(g:G):G:=LK w ad n 1 1 (F1 lo ad n 0 g)
def Io(n:Nat)(ad:Nat->Nat)(g:G):G:=LL ad n 0 (F3 n ad n 1 1 g)
theorem ad9{x t lo w:Rat}(hx:x=lo+w*t){ad:Nat->Nat}(hi:∀a b,ad a=ad b↔a=b)(n:Nat)(g:G):(∀a,(∀m,m<=n->a≠ad m)->Im lo w n ad g a=g a)/\pl x (fun m=>g (ad m)) 0 (n+1)=pl t (fun m=>Im lo w n ad g (ad m)) 0 (n+1):=by
 obtain⟨a1,a2⟩:=ad1 hx hi n 0 g;unfold Im;generalize F1 lo ad n 0 g=g1 at*
 obtain⟨b1,b2⟩:=ad2 (w:=w) hi n 1 1 g1;generalize LK w ad n 1 1 g1=g2 at*
 rw[a2,ad3 (w:=w) (t:=t) (v:=fun m=>g1 (ad m)) (z:=fun m=>g2 (ad m)) (n+1) 0 (fun m _ hm=>by
  cases m with
  |zero=>
   grind
  |succ m=>
   grind),Rat.pow_zero]
 grind
theorem aea{t:Rat}{ad:Nat->Nat}(hi:∀a b,ad a=ad b↔a=b)(n:Nat)(g:G):(∀a,(∀m,m<=n->a≠ad m)->Io n ad g a=g a)/\pl t (fun m=>g (ad m)) 0 (n+1)=dc t (fun m=>Io n ad g (ad m)) n 0:=by
 obtain⟨c1,c2⟩:=ad4 (n:=n) hi n 0 1 g (by omega) (by rw[yE];rfl);unfold Io;generalize F3 n ad n 1 1 g=g3 at*
 obtain⟨d1,d2⟩:=ad8 (t:=t) hi n 0 g3;rw[d2 n (Nat.le_refl _),agu];have e:=GW (t:=t) (d:=0) (v:=fun m=>g (ad m)) (w:=fun m=>(fu n m:Rat)*g3 (ad (0+m))) (n+1) 0 (fun m _ hm=>by
  cases m with
  |zero=>
   have q1:=c1 (ad 0) fun m h _=>by grind
   simp_all[Nat.add_zero,yE]
  |succ m=>
   grind)
 grind
def pQ(n:Nat):Rat:=((2^n:Int):Rat)
def eQ(n:Nat):Rat:=1/pQ n
theorem XN(n:Nat):0<pQ n:=by
 have:(0:Int)<2^n:=Int.pow_pos (by decide);unfold pQ;exact_mod_cast this
theorem DU(n:Nat):eQ n*pQ n=1:=by
 grind[XN,eQ]
theorem Pz(n:Nat):0<eQ n:=by
 have h:=DU n;refine Rat.not_le.1 fun hn=>?_;have:=Rat.mul_le_mul_of_nonneg_right hn (Rat.le_of_lt (XN n));grind
def EQ:Rat:=eQ 16384
theorem A8:0<EQ:=Pz _
def qv(d:Rd):Rat:=(zI d:Rat)*EQ
theorem A9{a b:Int}(h:a<=b):(a:Rat)<=b:=by exact_mod_cast h
theorem qn{a b:Rd}:qv a<=qv b↔zI a<=zI b:=by
 unfold qv;constructor
 ·intro h;refine Int.not_lt.1 fun hc=>?_;have h1:(zI b:Rat)<zI a:=by exact_mod_cast hc
  have:=Rat.mul_lt_mul_of_pos_right h1 A8;grind
 grind[Rat.mul_le_mul_of_nonneg_right,A9,Rat.le_of_lt,A8]
theorem B6:qv aK=0:=by
 unfold qv;rw[bP rfl];grind
theorem Ba{d:Rd}(h:vd d=true):qv (dG d)=-qv d/\vd (dG d)=true:=by
 obtain⟨a,b⟩:=kh h;unfold qv;rw[a,Rat.intCast_neg];grind
def In(q:Rat)(x:Ri):Prop:=x=cB\/x.all=false/\VI x/\qv x.lo<=q/\q<=qv x.hi
theorem In.vi{q:Rat}{x:Ri}(h:In q x):VI x:=by
 rcases h with rfl|h
 ·exact Vb
 grind
theorem In.ok{q:Rat}{x:Ri}(h:In q x):OkI x:=⟨h.vi.1.2,h.vi.2.2⟩
theorem In.k{q:Rat}{x:Ri}(h:In q x):x=cB/\kI x=false\/kI x=true/\qv x.lo<=q/\q<=qv x.hi:=by
 rcases h with rfl| ⟨h1,h2,h3,h4⟩
 ·exact Or.inl ⟨rfl,rfl⟩
 ·exact Or.inr ⟨agm h2.1.1 h2.2.1 (qn.1 (Rat.le_trans h3 h4)) h1,h3,h4⟩
theorem In.v{q:Rat}{x:Ri}(h:In q x):Ab.vi x=true:=by
 rcases h.k with⟨rfl,_⟩| ⟨h,_⟩
 ·rfl
 ·unfold kI at h;grind
theorem M0{q:Rat}{r s:Rd×Int}(vr:vd r.1=true/\Ok0 r.1)(vs:vd s.1=true/\Ok0 s.1)(h1:r.2=0->qv r.1<=q)(h2:s.2=0->q<=qv s.1):In q (qi r s):=by
 unfold qi;split
 ·next h=>exact Or.inr ⟨rfl,⟨vr,vs⟩,h1 h.1,h2 h.2⟩
 ·exact Or.inl rfl
theorem rx{d:Rd}(h:vd d=true)(ok:Ok0 d):In (qv d) ⟨d,d,false⟩:=Or.inr ⟨rfl,⟨⟨h,ok⟩,⟨h,ok⟩⟩,Rat.le_refl,Rat.le_refl⟩
theorem Bb{p:Int}(hp:bK p=true):8<=p/\p<=512:=by
 simp_all[bK,Bool.and_eq_true,decide_eq_true_eq]
theorem Ip{a b:Rd}{p:Int}(ha:vd a=true)(hb:vd b=true)(hp:bK p=true):aX p [a,b]=0:=by
 grind[Bb,aX]
theorem PA{a b:Rd}{p:Int}{up:Bool}(ha:vd a=true)(hb:vd b=true)(hp:bK p=true)(h:(cT a b p up).2=0):(up=true->qv a+qv b<=qv (cT a b p up).1)/\(up=false->qv (cT a b p up).1<=qv a+qv b):=by
 unfold cT at h⊢;rw[if_pos (Ip ha hb hp)]at h⊢;have hh:(up=true->zI a+zI b<=zI (eJ (zI a+zI b) (-16384) p up).1*2^0)/\(up=false->zI (eJ (zI a+zI b) (-16384) p up).1*2^0<=zI a+zI b):=EV (j:=0) (Bb hp) h;obtain⟨h1,h2⟩:=hh;simp only[Int.pow_zero,Int.mul_one]at h1 h2;have e:qv a+qv b=((zI a+zI b:Int):Rat)*EQ:=by unfold qv;grind
 rw[e];exact⟨fun hu=>Rat.mul_le_mul_of_nonneg_right (A9 (h1 hu)) (Rat.le_of_lt A8),fun hu=>Rat.mul_le_mul_of_nonneg_right (A9 (h2 hu)) (Rat.le_of_lt A8)⟩
theorem Iq{z r:Int}(n:Nat):(z<=r*2^n->(z:Rat)*eQ n*eQ n<=r*eQ n)/\(r*2^n<=z->(r:Rat)*eQ n<=z*eQ n*eQ n):=by
 have e:(r:Rat)*eQ n=((r*2^n:Int):Rat)*eQ n*eQ n:=by
  rw[Rat.intCast_mul,show(((2:Int)^n:Int):Rat)=pQ n from rfl];grind[DU]
 rw[e];have h0:=Rat.le_of_lt (Pz n);exact⟨fun h=>Rat.mul_le_mul_of_nonneg_right (Rat.mul_le_mul_of_nonneg_right (A9 h) h0) h0,fun h=>Rat.mul_le_mul_of_nonneg_right (Rat.mul_le_mul_of_nonneg_right (A9 h) h0) h0⟩
theorem Ir{a b:Rd}{p:Int}{up:Bool}(ha:vd a=true)(hb:vd b=true)(hp:bK p=true)(h:(bZ a b p up).2=0):(up=true->qv a*qv b<=qv (bZ a b p up).1)/\(up=false->qv (bZ a b p up).1<=qv a*qv b):=by
 unfold bZ at h⊢;rw[if_pos (Ip ha hb hp)]at h⊢;obtain⟨h1,h2⟩:=EV (j:=16384) (Bb hp) h;have e:qv a*qv b=((zI a*zI b:Int):Rat)*EQ*EQ:=by unfold qv;grind
 rw[e];exact⟨fun hu=>(Iq _).1 (h1 hu),fun hu=>(Iq _).2 (h2 hu)⟩
theorem xt{x y:Ri}{a b:Rat}{p:Int}(hx:In a x)(hy:In b y):In (a+b) (j3 x y p):=by
 unfold j3;split
 ·next h=>
  simp only[Bool.and_eq_true]at h;obtain⟨⟨kx,ky⟩,hp⟩:=h;rcases hx.k with⟨rfl,h⟩| ⟨_,x1,x2⟩
  ·grind
  rcases hy.k with⟨rfl,h⟩| ⟨_,y1,y2⟩
  ·grind
  have ok:∀ {a b:Rd} {up:Bool},vd (cT a b p up).1=true/\Ok0 (cT a b p up).1:=fun{a b up}=>by
   grind[cT,tD,bj]
  refine M0 ok ok (fun h=>?_) (fun h=>?_)
  ·have:=(PA hx.vi.1.1 hy.vi.1.1 hp h).2 rfl;grind
  ·have:=(PA hx.vi.2.1 hy.vi.2.1 hp h).1 rfl;grind
 ·exact Or.inl rfl
theorem acg{x:Ri}{a:Rat}(hx:In a x):In (-a) (GU x):=by
 unfold GU;split
 ·next h=>
  rcases hx.k with⟨rfl,h1⟩| ⟨_,x1,x2⟩
  ·grind
  have n1:=Ba hx.vi.1.1;have n2:=Ba hx.vi.2.1;exact Or.inr ⟨rfl,⟨⟨n2.2,sj hx.ok.hi⟩,⟨n1.2,sj hx.ok.lo⟩⟩,by grind,by grind⟩
 ·exact Or.inl rfl
theorem ach{x y:Ri}{a b:Rat}{p:Int}(hx:In a x)(hy:In b y):In (a-b) (Z3 x y p):=by
 have:=xt (p:=p) hx (acg hy);rw[show a+-b=a-b by grind]at this;exact this
theorem DV{a b:Rd}(ha:vd a=true)(hb:vd b=true):(dt a b<0->qv a<=qv b)/\(¬dt a b<0->qv b<=qv a)/\(0<dt a b->qv b<=qv a)/\(¬0<dt a b->qv a<=qv b)/\(dt a b<=0↔qv a<=qv b)/\(0<=dt a b↔qv b<=qv a):=by
 unfold dt;grind[qn,bD]
theorem Kp{a b:Rd}(ha:vd a=true/\Ok0 a)(hb:vd b=true/\Ok0 b):qv (jf a b)<=qv a/\qv (jf a b)<=qv b/\vd (jf a b)=true/\Ok0 (jf a b)/\(∀q,q<=qv a->q<=qv b->q<=qv (jf a b)):=by
 obtain⟨c1,c2,c3,c4,c5,c6⟩:=DV ha.1 hb.1;grind[jf,Rat.le_refl]
theorem Kq{a b:Rd}(ha:vd a=true/\Ok0 a)(hb:vd b=true/\Ok0 b):qv a<=qv (jg a b)/\qv b<=qv (jg a b)/\vd (jg a b)=true/\Ok0 (jg a b)/\(∀q,qv a<=q->qv b<=q->qv (jg a b)<=q):=by
 obtain⟨c1,c2,c3,c4,c5,c6⟩:=DV ha.1 hb.1;grind[jg,Rat.le_refl]
theorem B7{x y:Ri}{a b:Rat}(hx:In a x)(hy:In b y):(In a (EX x y)/\In b (EX x y)):=by
 unfold EX;split
 ·next h=>
  rcases hx.k with⟨rfl,h1⟩| ⟨_,x1,x2⟩
  ·grind
  rcases hy.k with⟨rfl,h1⟩| ⟨_,y1,y2⟩
  ·grind
  obtain⟨l1,l2,l3,l4,l5⟩:=Kp hx.vi.1 hy.vi.1;obtain⟨m1,m2,m3,m4,m5⟩:=Kq hx.vi.2 hy.vi.2;exact⟨Or.inr ⟨rfl,⟨⟨l3,l4⟩,⟨m3,m4⟩⟩,by grind,by grind⟩,Or.inr ⟨rfl,⟨⟨l3,l4⟩,⟨m3,m4⟩⟩,by grind,by grind⟩⟩
 ·exact⟨Or.inl rfl,Or.inl rfl⟩
theorem GX{x y:Ri}{q:Rat}(hx:In q x)(hy:In q y):(tK x y).2=true/\In q (tK x y).1:=by
 unfold tK;rw[if_pos (by rw[hx.v,hy.v];rfl)];rcases hx with rfl| ⟨ha,hv,h1,h2⟩
 ·rw[if_pos (show cB.all=true from rfl)];grind
 ·rw[if_neg (by grind)];rcases hy with rfl| ⟨hb,hw,h3,h4⟩
  ·exact⟨rfl,Or.inr ⟨ha,hv,h1,h2⟩⟩
  ·rw[if_neg (by grind)];obtain⟨l1,l2,l3,l4,l5⟩:=Kp hv.2 hw.2;obtain⟨m1,m2,m3,m4,m5⟩:=Kq hv.1 hw.1;have a:=l5 q h2 h4;have b:=m5 q h1 h3;rw[if_pos ((DV m3 l3).2.2.2.2.1.2 (Rat.le_trans b a))];exact⟨rfl,Or.inr ⟨rfl,⟨⟨m3,m4⟩,⟨l3,l4⟩⟩,b,a⟩⟩
theorem SX{dn up:Rd->Rd->Rd×Int}{pr:Nat->Rd×Rd}(okd:∀a b,vd (dn a b).1=true/\Ok0 (dn a b).1)(oku:∀a b,vd (up a b).1=true/\Ok0 (up a b).1){v:Nat->Rat}
  (hd:∀i,i<4->(dn (pr i).1 (pr i).2).2=0->qv (dn (pr i).1 (pr i).2).1<=v i) (hu:∀i,i<4->(up (pr i).1 (pr i).2).2=0->v i<=qv (up (pr i).1 (pr i).2).1) {q:Rat} (hq:∀lo hi:Rat,(∀i,i<4->lo<=v i/\v i<=hi)->lo<=q/\q<=hi):In q (CC (jV dn up pr)):=by
 have key:∀ (k i:Nat) (o:Rd×Rd),i+k=4->(vd o.1=true/\Ok0 o.1)->(vd o.2=true/\Ok0 o.2)->(∀j,j<i->qv o.1<=v j/\v j<=qv o.2)->In q (CC (qj dn up pr k i o)):=by
  intro k;induction k with
  |zero=>
   intro i o hi v1 v2 h;have:=hq _ _ fun j hj=>h j (by omega);exact Or.inr ⟨rfl,⟨v1,v2⟩,this.1,this.2⟩
  |succ k ih=>
   intro i o hi v1 v2 h;unfold qj;split
   ·next he=>
    have od:=okd (pr i).1 (pr i).2;have ou:=oku (pr i).1 (pr i).2;obtain⟨c1,c2,_,_⟩:=DV od.1 v1.1;obtain⟨_,_,c3,c4,_⟩:=DV ou.1 v2.1;grind
   ·exact Or.inl rfl
 unfold jV;split
 ·grind
 ·exact Or.inl rfl
theorem aci{xl xh x y lo hi:Rat}(h1:xl<=x)(h2:x<=xh)(a:lo<=xl*y/\xl*y<=hi)(b:lo<=xh*y/\xh*y<=hi):lo<=x*y/\x*y<=hi:=by
 by_cases h:0<=y
 ·have:=Rat.mul_le_mul_of_nonneg_right h1 h;have:=Rat.mul_le_mul_of_nonneg_right h2 h;grind
 ·have h:0≤-y:=by grind
  have:=Rat.mul_le_mul_of_nonneg_right h1 h;have:=Rat.mul_le_mul_of_nonneg_right h2 h;grind
theorem SY{xl xh x yl yh y lo hi:Rat}(h1:xl<=x)(h2:x<=xh)(h3:yl<=y)(h4:y<=yh)(a:lo<=xl*yl/\xl*yl<=hi)(b:lo<=xl*yh/\xl*yh<=hi)(c:lo<=xh*yl/\xh*yl<=hi)(d:lo<=xh*yh/\xh*yh<=hi):lo<=x*y/\x*y<=hi:=by
 grind[Rat.mul_comm,aci]
theorem so{x y:Ri}{a b:Rat}{p:Int}(hx:In a x)(hy:In b y):In (a*b) (jM x y p):=by
 unfold jM;split
 ·next h=>
  simp only[Bool.and_eq_true]at h;obtain⟨⟨kx,ky⟩,hp⟩:=h;rcases hx.k with⟨rfl,h⟩| ⟨_,x1,x2⟩
  ·grind
  rcases hy.k with⟨rfl,h⟩| ⟨_,y1,y2⟩
  ·grind
  have ok:∀ (up:Bool) (a b:Rd),vd (bZ a b p up).1=true/\Ok0 (bZ a b p up).1:=fun up a b=>by
   grind[bZ,tD,bj]
  have hv:∀i,vd (en x y i).1=true/\vd (en x y i).2=true:=fun i=>by
   unfold en;split
   ·exact⟨hx.vi.1.1,hy.vi.1.1⟩
   ·exact⟨hx.vi.1.1,hy.vi.2.1⟩
   ·exact⟨hx.vi.2.1,hy.vi.1.1⟩
   ·exact⟨hx.vi.2.1,hy.vi.2.1⟩
  refine SX (v:=fun i=>qv (en x y i).1*qv (en x y i).2) (ok false) (ok true) (fun i _ h=>(Ir (hv i).1 (hv i).2 hp h).2 rfl) (fun i _ h=>(Ir (hv i).1 (hv i).2 hp h).1 rfl) fun lo hi h=>?_;exact SY x1 x2 y1 y2 (h 0 (by decide)) (h 1 (by decide)) (h 2 (by decide)) (h 3 (by decide))
 ·exact Or.inl rfl
abbrev LF:=G->Rat
def sq(W v:G):Nat->Rat
 |0=>0
 |d+1=>sq W v d+W d*v d
def lg(d:Nat)(L:LF):Prop:=∃W,∀v,L v=sq W v d
theorem XO{W v w:G}:∀d:Nat,(∀j,j<d->v j=w j)->sq W v d=sq W w d
 |0,_=>rfl
 |d+1,h=>by simp only[sq];rw[XO d fun j hj=>h j (by omega),h d (by omega)]
theorem SZ{W v w:G}{a b:Rat}:∀d:Nat,sq W (fun j=>a*v j+b*w j) d=a*sq W v d+b*sq W w d
 |0=>by grind[sq]
 |d+1=>by simp only[sq];rw[SZ d];grind
theorem aaR{U W v:G}{a b:Rat}:∀d:Nat,sq (fun j=>a*U j+b*W j) v d=a*sq U v d+b*sq W v d
 |0=>by grind[sq]
 |d+1=>by simp only[sq];rw[aaR d];grind
theorem lg.cg{d:Nat}{L:LF}(h:lg d L){v w:G}(e:∀j,j<d->v j=w j):L v=L w:=by
 obtain⟨W,h⟩:=h;rw[h,h,XO d e]
theorem lg.lin{d:Nat}{L:LF}(h:lg d L){v w:G}{a b:Rat}:L (fun j=>a*v j+b*w j)=a*L v+b*L w:=by
 obtain⟨W,h⟩:=h;rw[h,h,h,SZ d]
theorem lg.zero{d:Nat}{L:LF}(h:lg d L):L (fun _=>0)=0:=by
 have:=h.lin (v:=fun _=>0) (w:=fun _=>0) (a:=0) (b:=0);grind
theorem lg.swap{d c:Nat}{L P:LF}(h:lg d L)(hP:lg c P)(f:Nat->Nat->Rat):P (fun j=>L (fun r=>f r j))=L (fun r=>P (fun j=>f r j)):=by
 obtain⟨W,hP⟩:=hP;simp only[hP];clear hP;induction c with
 |zero=>exact h.zero.symm
 |succ c ih=>
  simp only[sq];have:=h.lin (v:=fun r=>sq W (fun j=>f r j) c) (w:=fun r=>f r c) (a:=1) (b:=W c);grind
theorem XP{d i:Nat}(h:i<d):lg d fun v=>v i:=by
 refine⟨fun j=>if j=i then 1 else 0,fun v=>?_⟩;have:∀c,sq (fun j=>if j=i then 1 else 0) v c=if i<c then v i else 0:=by
  intro c;induction c with
  |zero=>rfl
  |succ c ih=>
   simp only[sq,ih];grind
 grind
theorem lg.comb{d:Nat}{L M:LF}(h:lg d L)(h':lg d M)(a b:Rat):lg d fun v=>a*L v+b*M v:=by
 obtain⟨W,h⟩:=h;obtain⟨U,h'⟩:=h';exact⟨fun j=>a*W j+b*U j,fun v=>by
  show a*L v+b*M v=_;rw[aaR,h,h']⟩
theorem Z5{d:Nat}:lg d fun _=>0:=⟨fun _=>0,fun v=>by
 induction d with
 |zero=>rfl
 |succ d ih=>grind[sq]⟩
theorem DW{x:Rat}{d:Nat}:∀c i:Nat,i+c<=d->lg d fun v=>pl x v i c
 |0,_,_=>Z5
 |c+1,i,h=>by
  have:=(XP (d:=d) (i:=i) (by omega)).comb (DW (x:=x) c (i+1) (by omega)) 1 x;simp only[Rat.one_mul]at this;exact this
theorem Is{t:Rat}{d:Nat}:∀n i:Nat,i+n<d->lg d fun v=>dc t v n i
 |0,i,h=>XP h
 |n+1,i,h=>(Is (t:=t) n i (by omega)).comb (Is n (i+1) (by omega)) (1-t) t
theorem PB{t lo hi:Rat}(h0:0<=t)(h1:t<=1){v:G}:∀n i:Nat,(∀j,i<=j->j<=i+n->lo<=v j/\v j<=hi)->lo<=dc t v n i/\dc t v n i<=hi
 |0,i,h=>h i (Nat.le_refl _) (Nat.le_refl _)
 |n+1,i,h=>by
  have a:=PB h0 h1 n i fun j a b=>h j a (by omega);have b:=PB h0 h1 n (i+1) fun j a b=>h j (by omega) (by omega);have h2:0<=1-t:=by grind
  simp only[dc];have q1:=Rat.mul_le_mul_of_nonneg_left a.1 h2;have q2:=Rat.mul_le_mul_of_nonneg_left a.2 h2;have q3:=Rat.mul_le_mul_of_nonneg_left b.1 h0;have q4:=Rat.mul_le_mul_of_nonneg_left b.2 h0;grind
def fI:List (Nat×LF)->Nat->Nat->G->Rat
 |[],_,i,g=>g i
 |p::ls,s,i,g=>p.2 fun j=>fI ls (s*(p.1+1)) (i+j*s) g
def tW:List (Nat×LF)->Nat->Nat
 |[],s=>s
 |p::ls,s=>tW ls (s*(p.1+1))
def It(ls:List (Nat×LF)):Prop:=∀p∈ls,lg (p.1+1) p.2
theorem XQ{g1 g2:G}:∀ (ls:List (Nat×LF)),It ls->∀s i:Nat,(∀q,q*s+s<=tW ls s->g1 (i+q*s)=g2 (i+q*s))->fI ls s i g1=fI ls s i g2
 |[],_,s,i,h=>by
  have:=h 0 (by grind[tW]);grind[fI]
 |p::ls,ok,s,i,h=>by
  refine(ok p (by simp)).cg fun j hj=>XQ ls (fun q hq=>ok q (by grind)) _ _ fun q hq=>?_;have e:i+j*s+q*(s*(p.1+1))=i+(j+q*(p.1+1))*s:=by grind
  rw[e];refine h _ (Nat.le_trans ?_ hq);have:(j+1)*s<=(p.1+1)*s:=Nat.mul_le_mul_right _ hj;grind
theorem GY{c:Nat}{P:LF}(hP:lg c P){g:G}(a:Nat->Nat):∀ (ls:List (Nat×LF)),It ls->∀s i:Nat,P (fun j=>fI ls s (i+a j) g)=fI ls s i fun i'=>P fun j=>g (i'+a j)
 |[],_,_,_=>rfl
 |p::ls,ok,s,i=>by
  show P (fun j=>p.2 fun r=>fI ls (s*(p.1+1)) (i+a j+r*s) g)=p.2 fun r=>fI ls (s*(p.1+1)) (i+r*s) _;rw[(ok p (by simp)).swap hP];refine congrArg p.2 (funext fun r=>?_);rw[←GY hP a ls (fun q hq=>ok q (by grind))];grind
theorem PC{d:Nat}{P B:LF}(hP:lg (d+1) P)(hB:lg (d+1) B){post:List (Nat×LF)}(op:It post){g g':G}:∀ (pre:List (Nat×LF)),It pre->∀s i:Nat,i<s->
  (∀i0 q,i0<tW pre s->q*(tW pre s*(d+1))+tW pre s*(d+1)<=tW post (tW pre s*(d+1))->P (fun j=>g (i0+q*(tW pre s*(d+1))+j*tW pre s))=B (fun j=>g' (i0+q*(tW pre s*(d+1))+j*tW pre s)))->
  fI (pre++(d,P)::post) s i g=fI (pre++(d,B)::post) s i g'
 |[],_,s,i,hi,h=>by
  show P (fun j=>fI post (s*(d+1)) (i+j*s) g)=B (fun j=>fI post (s*(d+1)) (i+j*s) g');rw[GY hP _ post op,GY hB _ post op];exact XQ post op _ _ fun q hq=>h i q hi hq
 |p::pre,ok,s,i,hi,h=>by
  refine(ok p (by simp)).cg fun j hj=>PC hP hB op pre (fun q hq=>ok q (by simp[hq])) _ _ ?_ h;have:j*s<=p.1*s:=Nat.mul_le_mul_right _ (by omega);grind
theorem S0{lo hi:Rat}{g:G}:∀ (ls:List (Nat×LF)),(∀p∈ls,∀v:G,(∀j,j<=p.1->lo<=v j/\v j<=hi)->lo<=p.2 v/\p.2 v<=hi)->∀s i:Nat,(∀q,q*s+s<=tW ls s->lo<=g (i+q*s)/\g (i+q*s)<=hi)->lo<=fI ls s i g/\fI ls s i g<=hi
 |[],_,s,i,h=>by
  have:=h 0 (by grind[tW]);grind[fI]
 |p::ls,ok,s,i,h=>by
  refine ok p (by simp) _ fun j hj=>S0 ls (fun q hq=>ok q (by grind)) _ _ fun q hq=>?_;have e:i+j*s+q*(s*(p.1+1))=i+(j+q*(p.1+1))*s:=by grind
  rw[e];refine h _ (Nat.le_trans ?_ hq);have:j*s<=p.1*s:=Nat.mul_le_mul_right _ hj;grind
def ps(op:Nat->G->G)(s n:Nat):Nat->Nat->G->G
 |0,_,g=>g
 |k+1,i,g=>ps op s n k (i+1) (if i/s% (n+1)=0 then op i g else g)
theorem acj{s n f f' m m':Nat}(hs:0<s)(h1:f/s% (n+1)=0)(h2:f'/s% (n+1)=0)(hm:m<=n)(hm':m'<=n)(e:f+m*s=f'+m'*s):f=f':=by
 have h3:(f+m*s)/s% (n+1)=m:=by
  rw[Nat.add_mul_div_right _ _ hs,Nat.add_mod,h1,Nat.zero_add,Nat.mod_mod,Nat.mod_eq_of_lt (by omega)]
 have h4:(f'+m'*s)/s% (n+1)=m':=by
  rw[Nat.add_mul_div_right _ _ hs,Nat.add_mod,h2,Nat.zero_add,Nat.mod_mod,Nat.mod_eq_of_lt (by omega)]
 grind
theorem agv{L L':LF}{s n:Nat}(hs:0<s)(cL:lg (n+1) L)(cL':lg (n+1) L'){op:Nat->G->G}(hop:∀f g,(∀a,(∀m,m<=n->a≠f+m*s)->op f g a=g a)/\L (fun m=>g (f+m*s))=L' (fun m=>op f g (f+m*s))):
  ∀ (k i:Nat) (g:G),(∀f m,f<i->f/s% (n+1)=0->m<=n->ps op s n k i g (f+m*s)=g (f+m*s))/\∀f,i<=f->f<i+k->f/s% (n+1)=0->L (fun m=>g (f+m*s))=L' (fun m=>ps op s n k i g (f+m*s)):=by
 intro k;induction k with
 |zero=>exact fun i g=>⟨fun _ _ _ _ _=>rfl,fun f h1 h2=>by omega⟩
 |succ k ih=>
  intro i g;have e:ps op s n (k+1) i g=ps op s n k (i+1) (if i/s% (n+1)=0 then op i g else g):=rfl;rw[e];have hg:∀f m,f≠i->f/s% (n+1)=0->m<=n->(if i/s% (n+1)=0 then op i g else g) (f+m*s)=g (f+m*s):=fun f m hf h0 hm=>by
   grind[acj]
  have hi:i/s% (n+1)=0->L (fun m=>g (i+m*s))=L' (fun m=>(if i/s% (n+1)=0 then op i g else g) (i+m*s)):=fun h=>by
   simp_all
  generalize(if i/s% (n+1)=0 then op i g else g)=g1 at*
  obtain⟨a,b⟩:=ih (i+1) g1;refine⟨fun f m hf h0 hm=>by rw[a f m (by omega) h0 hm,hg f m (by omega) h0 hm],fun f h1 h2 h0=>?_⟩;by_cases hq:f=i
  ·subst hq;rw[hi h0];exact cL'.cg fun m hm=>(a f m (by omega) h0 (by omega)).symm
  ·rw[←b f (by omega) (by omega) h0];exact cL.cg fun m hm=>(hg f m hq h0 (by omega)).symm
def dl(a:Nat):G:=fun b=>if b=a then 1 else 0
theorem Kr{a c:Rat}{g h:G}:∀ (ls:List (Nat×LF)),It ls->∀s i:Nat,fI ls s i (fun b=>a*g b+c*h b)=a*fI ls s i g+c*fI ls s i h
 |[],_,_,_=>rfl
 |p::ls,ok,s,i=>by
  show p.2 (fun j=>fI ls _ (i+j*s) _)=a*p.2 _+c*p.2 _;rw[← (ok p (by simp)).lin];refine congrArg p.2 (funext fun j=>?_);exact Kr ls (fun q hq=>ok q (by grind)) _ _
theorem aeb{ls:List (Nat×LF)}(ok:It ls){s i a:Nat}{g:G}{y:Rat}:fI ls s i (gs g a y)=fI ls s i g+(y-g a)*fI ls s i (dl a):=by
 have:gs g a y=fun b=>1*g b+(y-g a)*dl a b:=by
  grind[gs,dl]
 rw[this,Kr ls ok];grind
def kY:List Nat->List Rat->List (Nat×LF)
 |d::ds,x::xs=>(d,fun v=>pl x v 0 (d+1))::kY ds xs
 |_,_=>[]
theorem EZ:∀ (ds:List Nat) (xs:List Rat),It (kY ds xs)
 |d::ds,x::xs=>fun p hp=>by
  rcases List.mem_cons.1 hp with rfl|hp
  ·simp_all[DW]
  ·exact EZ ds xs p hp
 |[],_=>fun _ h=>by grind[kY]
 |_::_,[]=>fun _ h=>by grind[kY]
def F4:List Rat->List Nat->Rat
 |x::xs,e::es=>x^e*F4 xs es
 |_,_=>1
def l7:List Nat->List Nat->Nat->Nat
 |d::ds,e::es,s=>e*s+l7 ds es (s*(d+1))
 |_,_,_=>0
def Iu:List Nat->List Nat->Prop
 |d::ds,e::es=>e<=d/\Iu ds es
 |[],[]=>True
 |_,_=>False
theorem aaS{x y:Rat}{e:Nat}:∀c i:Nat,(e<i->pl x (fun j=>if j=e then y else 0) i c=0)/\(i<=e->e<i+c->pl x (fun j=>if j=e then y else 0) i c=x^ (e-i)*y)
 |0,i=>⟨fun _=>rfl,fun h1 h2=>by omega⟩
 |c+1,i=>by
  obtain⟨a,b⟩:=aaS (x:=x) (y:=y) (e:=e) c (i+1);simp only[pl];constructor
  ·grind
  ·intro h1 h2;by_cases h:i=e
   ·subst h;grind
   ·rw[if_neg h,b (by omega) (by omega),show e-i=e- (i+1)+1 by omega,Rat.pow_succ];grind
theorem aaT{s i i0 j e:Nat}(h1:i<s)(h2:i0<s):i+j*s=i0+e*s↔i=i0/\j=e:=by
 constructor
 ·intro h;have a:(i+j*s) %s=i:=by rw[Nat.add_mul_mod_self_right,Nat.mod_eq_of_lt h1]
  have b:(i0+e*s) %s=i0:=by rw[Nat.add_mul_mod_self_right,Nat.mod_eq_of_lt h2]
  have c:i=i0:=by grind
  subst c;exact⟨rfl,Nat.eq_of_mul_eq_mul_right (by omega) (Nat.add_left_cancel h)⟩
 grind
theorem yF{s i j d:Nat}(h:i<s)(hj:j<=d):i+j*s<s*(d+1):=by
 have:j*s<=d*s:=Nat.mul_le_mul_right _ hj;grind
theorem S1:∀ (ds es:List Nat) (xs:List Rat),Iu ds es->xs.length=ds.length->∀s i i0:Nat,i<s->i0<s->fI (kY ds xs) s i (dl (i0+l7 ds es s))=if i=i0 then F4 xs es else 0
 |[],[],xs,_,hx,s,i,i0,_,_=>by
  have:xs=[]:=List.length_eq_zero_iff.1 hx;subst this;rfl
 |d::ds,e::es,x::xs,h,hx,s,i,i0,h1,h2=>by
  show pl x (fun j=>fI (kY ds xs) (s*(d+1)) (i+j*s) (dl (i0+(e*s+l7 ds es (s*(d+1)))))) 0 (d+1)=_;have hc:=(DW (x:=x) (d:=d+1) (d+1) 0 (by simp)).cg (v:=fun j=>fI (kY ds xs) (s*(d+1)) (i+j*s) (dl (i0+(e*s+l7 ds es (s*(d+1)))))) (w:=fun j=>if j=e then(if i=i0 then F4 xs es else 0)else 0) (fun j hj=>by
   rw[←Nat.add_assoc,S1 ds es xs h.2 (by grind) (s*(d+1)) _ _ (yF h1 (by omega)) (yF h2 h.1)];grind[aaT])
  rw[hc,(aaS (d+1) 0).2 (by omega) (by have:=h.1;omega)];by_cases ha:i=i0
  ·rw[if_pos ha,if_pos ha];rfl
  grind
 |[],_::_,_,h,_,_,_,_,_,_=>h.elim
 |_::_,[],_,h,_,_,_,_,_,_=>h.elim
 |_::_,_::_,[],_,hx,_,_,_,_,_=>by grind
theorem XR:∀ (ds es:List Nat) (xs:List Rat),Iu ds es->xs.length=ds.length->∀s i0:Nat,i0<s->i0+l7 ds es s<tW (kY ds xs) s
 |[],[],xs,_,hx,s,i0,h2=>by
  exact h2
 |d::ds,e::es,x::xs,h,hx,s,i0,h2=>by
  show i0+(e*s+l7 ds es (s*(d+1)))<tW (kY ds xs) (s*(d+1));rw[←Nat.add_assoc];exact XR ds es xs h.2 (by grind) _ _ (yF h2 h.1)
 |[],_::_,_,h,_,_,_,_=>h.elim
 |_::_,[],_,h,_,_,_,_=>h.elim
 |_::_,_::_,[],_,hx,_,_,_=>by grind
theorem S2:∀ (ds es es':List Nat),Iu ds es->Iu ds es'->∀s i i0:Nat,i<s->i0<s->i+l7 ds es s=i0+l7 ds es' s->i=i0/\es=es'
 |[],[],[],_,_,_,_,_,_,_,h=>⟨h,rfl⟩
 |d::ds,e::es,e'::es',h,h',s,i,i0,h1,h2,hq=>by
  have:i+(e*s+l7 ds es (s*(d+1)))=i0+(e'*s+l7 ds es' (s*(d+1))):=hq;rw[←Nat.add_assoc,←Nat.add_assoc]at this;obtain⟨a,b⟩:=S2 ds es es' h.2 h'.2 _ _ _ (yF h1 h.1) (yF h2 h'.1) this;obtain⟨c,d⟩:=(aaT h1 h2).1 a;exact⟨c,by rw[d,b]⟩
 |[],_::_,_,h,_,_,_,_,_,_,_=>h.elim
 |_::_,[],_,h,_,_,_,_,_,_,_=>h.elim
 |[],[],_::_,_,h,_,_,_,_,_,_=>h.elim
 |_::_,_::_,[],_,h,_,_,_,_,_,_=>h.elim
end Go.Ab
