/-
  A law of models holds at every input that the statement speaks of, under the conditions that its card names. Part G1.
-/
import Derived.Test.YtdhfcpbpdmmphaaGreatDoorProg
import Derived.Shelf.Spec.TrailingZeros
import Derived.Test.YtdhfcpbpdmmphaaGreatDoorRows
import Derived.Deep.Strs
import Derived.ProofKit
import Derived.LaidMore
import Derived.OpenShut
import Derived.Carry
import Derived.Lib.Overlaps
import Derived.Laws.Externs
import Derived.Shelf.Slices.Clone
import Derived.Test.YtdhfcpbpdmmphaaGreatDoorF1
open Nat renaming add_zero → axo, le_of_ble_eq_true → axJ, le_refl → awQ, le_trans → awX, lt_of_lt_of_le → axX, min_eq_left → axP, mul_assoc → axn, mul_comm → axf, mul_le_mul_right → awZ, pow_add → axa, reduceMod → axD, reduceSub → axw, two_pow_pos → axb, zero_add → awP, zero_le → axz
open Int renaming eq_ofNat_of_zero_le → ax5, lt_irrefl → axU, natCast_mul → aFX, reduceEq → axt, toNat_natCast → awY
open Bool renaming and_eq_true → awS, and_false → axx, and_self → axm, false_and → awU, false_ne_true → awW, false_or → axY, not_eq_true' → ax3, not_false → axZ, true_and → awT, true_or → axQ
open List renaming append_assoc → axL, append_nil → axe, cons_append → axM, drop_eq_getElem_cons → axh, drop_eq_nil_of_le → axi, drop_zero → ax0, getElem_mem → axr, length_append → axG, length_cons → axE, length_drop → ax2, length_nil → axI, length_replicate → ax1, length_take → axd, map_cons → axp, map_nil → axv, mem_append → ax4, mem_map → axR, nil_append → axc, replicate → awO, take_of_length_le → axg
open Option renaming bind_eq_some_iff → awN, bind_some → awV, map_eq_some_iff → awR, map_some → axH
set_option linter.all false
namespace Go.Ab
open Go Go.IntWalk Go.Proofs Go.Shelf Go.ChangeShapes Go.WideShapes Go.Deep Go.RowKit Go.Proofs.Tryz
set_option maxRecDepth 100000
set_option maxHeartbeats 8000000
theorem Qx{a b:Rd}(oa:Ok0 a)(ob:Ok0 b):R F.dyadic_Sub [ae a,ae b] []=some (rV (l8 a b),[]):=by
 refine ax UV rfl ?_;have v1:=ef oa;have v2:=ef ob;simp only[ae,ah]at v1 v2;unfold l8;cases va:vd a with
 |false=>
  rw[va]at v1;simp only[sB,yX,rV,aI,ae,ah,go_sem,v1]
 |true=>
  rw[va]at v1;cases vb:vd b with
  |false=>
   rw[vb]at v2;simp only[sB,yX,rV,aI,ae,ah,go_sem,v1,v2]
  |true=>
   rw[vb]at v2;obtain⟨z1,z2⟩:=vS vb;have hn:R F.dyadic_Neg [ae b] []=some (ae (gJ b),[]):=Gl ob;have hs:=YE oa (vQ ob) va z2;rw[z1,←Int.sub_eq_add_neg]at hs;simp only[rV,ae,ah]at hn hs;simp only[sB,yX,rV,ae,ah,go_sem,v1,v2,hn,hs]
theorem ajP{d:Rd}{p:Int}{up:Bool}(h:(bZ d p up).2=0):vd d=true/\(8<=p/\p<=512):=by
 unfold bZ at h;by_cases hf:aY p [d]=0
 ·unfold aY at hf;grind
 grind
theorem Zr{a b:Rd}(vb:vd b=true)(h:(l8 a b).2=0):zI (l8 a b).1=zI a-zI b:=by
 grind[ahb,P9,vS,Int.sub_eq_add_neg]
theorem ajQ{d:Rd}(ok:Ok0 d){p:Int}:R F.round_Near [ae d,I p] []=some (rV (pT d p),[]):=by
 refine ax UU rfl ?_;have hd:=Ru ok (p:=p);have hu:=Yq ok (p:=p);unfold pT;by_cases h0:(bZ d p false).2=0
 ·rw[if_pos h0];obtain⟨v,hp⟩:=ajP h0;have vl:=CU (d:=d) (p:=p) (up:=false);have ol:=vP (d:=d) (p:=p) (up:=false);by_cases h1:(bZ d p true).2=0
  ·rw[if_pos h1];have vh:=CU (d:=d) (p:=p) (up:=true);have oh:=vP (d:=d) (p:=p) (up:=true);have hk:=ajO ok v hp h0 h1;generalize bZ d p false=lo at*
   generalize bZ d p true=hi at*
   obtain⟨lo,el⟩:=lo;obtain⟨hi,eh⟩:=hi;have h0':el=0:=h0;have h1':eh=0:=h1;subst h0';subst h1';have s1:=Qx ok ol;have s2:=Qx oh ok;have c:=qG (AP d lo).2 (AP hi d).2;rw[if_pos ⟨(AP d lo).1,(AP hi d).1⟩,Zr vl hk.below,Zr v hk.above]at c;show _=some (rV (OW (zI d) lo hi,0),[]);unfold OW;generalize l8 d lo=x at s1 c;generalize l8 hi d=y at s2 c;simp only[rV,ae,ah]at hd hu s1 s2 c;rcases nG (zI d-zI lo) (zI hi-zI d)with⟨g,e⟩| ⟨g,e⟩| ⟨g,e⟩
   ·rw[e]at c;rw[if_pos g];simp only[ge,jg,rV,ae,ah,go_sem,axt,hd,hu,s1,s2,c]
   ·rw[e]at c;rw[if_neg (by omega),if_neg (by omega)];unfold abU;by_cases m1:hi.m.length=0
    ·have e1:((hi.m.length:Int)=0)=True:=tt;rw[if_pos (.inl m1)];simp only[ge,jg,rV,ae,ah,go_sem,axt,hd,hu,s1,s2,c,e1]
    ·have e1:((hi.m.length:Int)=0)=False:=ff;by_cases m2:lo.m.length=0
     ·have e2:(0< (lo.m.length:Int))=False:=ff;rw[if_neg (by omega)];simp only[ge,jg,rV,ae,ah,go_sem,axt,hd,hu,s1,s2,c,e1,e2]
     ·have e2:(0< (lo.m.length:Int))=True:=tt;by_cases m3:lo.e<hi.e
      ·have e3:(lo.e<hi.e)=True:=eq_true m3;rw[if_pos (.inr ⟨m2,m3⟩)];simp only[ge,jg,rV,ae,ah,go_sem,axt,hd,hu,s1,s2,c,e1,e2,e3]
      ·have e3:(lo.e<hi.e)=False:=eq_false m3;rw[if_neg (by omega)];simp only[ge,jg,rV,ae,ah,go_sem,axt,hd,hu,s1,s2,c,e1,e2,e3]
   ·rw[e]at c;rw[if_neg (by omega),if_pos (by omega)];simp only[ge,jg,rV,ae,ah,go_sem,axt,hd,hu,s1,s2,c]
  ·rw[if_neg h1];generalize bZ d p false=lo at*
   generalize bZ d p true=hi at*
   have e1:(hi.2=0)=False:=eq_false h1;have e0:(lo.2=0)=True:=eq_true h0;simp only[rV,ae,ah]at hd hu;simp only[ge,jg,rV,aI,ae,ah,go_sem,hd,hu,e0,e1]
 ·rw[if_neg h0];generalize bZ d p false=lo at*
  have e0:(lo.2=0)=False:=eq_false h0;simp only[rV,ae,ah]at hd;simp only[ge,jg,rV,aI,ae,ah,go_sem,hd,e0]
theorem M7(d:Rd)(p:Int):vd (pT d p).1=true/\Ok0 (pT d p).1:=by
 unfold pT;split
 ·split
  ·unfold OW abU;grind[CU,vP]
  ·exact aU
 ·exact aU
def ey(x:List Int)(c:Rd)(l:List Rt):List Rt:=if c.m.length=0 then l else⟨x,c⟩::l
def Cg(p:Int):List Rt->Option (List Rt×List Rt)
 |[]=>some ([],[])
 |t::ts=>if(pT t.c p).2=0 then(if(l8 t.c (pT t.c p).1).2=0 then(Cg p ts).map fun q=>(ey t.exps (pT t.c p).1 q.1,ey t.exps (l8 t.c (pT t.c p).1).1 q.2)else none)else none
def eM(a:Rp)(p:Int):(Rp×Rp)×Int:=if vp a=true then(if p<8\/512<p then((p0,p0),2)else match Cg p a.terms with
 |none=>((p0,p0),9)
 |some q=>((⟨a.vars,q.1⟩,⟨a.vars,q.2⟩),0))else((p0,p0),1)
def R6(r:(Rp×Rp)×Int):AV:=.tup [aO r.1.1,aO r.1.2,I r.2]
def Qy(blk:Option (Ex×St))(i1 i2:Nat)(S:ak)(v':Int)(l1 l2:List Rt):Option (List Rt×List Rt)->Prop
 |some q=>Ea blk i1 i2 S v' l1 l2 q.1 q.2
 |none=>∃hh,blk=some (.ret,⟨upd (upd (upd (fun _=>.any) 6 (I 9)) 5 (.ref 5 none 0 0 0)) 4 (.ref 4 none 0 0 0),hh⟩)/\hh 4=.bx [I 0,.emp]/\hh 5=.bx [I 0,.emp]
theorem E8{x:List Int}{c:Rd}{l r:List Rt}:l++ey x c []++r=l++ey x c r:=by
 unfold ey;split
 ·rw[axe]
 ·rw[axL];rfl
theorem Qy.step{blk:Option (Ex×St)}{i1 i2:Nat}{S:ak}{v':Int}{l1 l2:List Rt}{x:List Int}{c d:Rd}:∀ {o:Option (List Rt×List Rt)},Qy blk i1 i2 S v' (l1++ey x c []) (l2++ey x d []) o->Qy blk i1 i2 S v' l1 l2 (o.map fun q=>(ey x c q.1,ey x d q.2)):=by
 intro o h;cases o with
 |none=>exact h
 |some q=>
  obtain⟨hh,c1,c2,h1,h2,h3,h4,h5,h6,h7⟩:=h;exact⟨hh,c1,c2,h1,h2,h3,h4,h5,by rwa[E8]at h6,by rwa[E8]at h7⟩
theorem VT.put{v:Int}{t:Rt}{d:Rd}(h:VT v t)(od:Ok0 d)(vdd:vd d=true)(nd:d.m.length≠0):VT v ⟨t.exps,d⟩:=⟨od,h.len,h.v8,vdd,nd,h.b,h.d⟩
theorem ahc{v v' p:Int}{A:List Rt}(hA:Cl v A)(hn:A.length<=100000){o2:Ob}(k2c:∀ids,aC ids o2=true):
  ∀ (k i:Nat),i+k=A.length->∀ (c1 c2:AV) (l1 l2:List Rt),nj c1 l1->nj c2 l2->Bf v l1 (A.drop i)->Bf v l2 (A.drop i)->l1.length+k<=1000000->l2.length+k<=1000000->∀ (s:ak) (h:ac),s 1=I p->s 4=.ref 4 none 0 0 0->s 5=.ref 5 none 0 0 0->s 7=.ref 2248 none 0 0 0->s 8=.ref 2272 none 0 0 0->s 36=.sl 4 (aH A)->s 37=I A.length->s 38=I i->h 2=o2->h 4=.bx [I 0,.emp]->h 5=.bx [I 0,.emp]->h 2248=t3 v' c1 0->h 2272=t3 v' c2 0->
  Qy (aj 1 [4,5,7,8] (au (ai R (az false) eO) [1,4,5,7,8,36,37,38] [2,4,5,2248,2272] s h)) 2248 2272 (upd (upd (upd (upd (fun _=>.any) 8 (.ref 2272 none 0 0 0)) 7 (.ref 2248 none 0 0 0)) 5 (.ref 5 none 0 0 0)) 4 (.ref 4 none 0 0 0)) v' l1 l2 (Cg p (A.drop i)):=by
 intro k;induction k with
 |zero=>
  intro i hi c1 c2 l1 l2 hc1 hc2 _ _ _ _ s h g1 g4 g5 g7 g8 g36 g37 g38 k2 k4 k5 k2248 k2272;have e1:((i:Int)< (A.length:Int))=False:=ff;have ho1:=(jn (v:=v') (e:=0) hc1).cl [2,4,5,2248,2272];have ho2:=(jn (v:=v') (e:=0) hc2).cl [2,4,5,2248,2272];have ho3:=k2c [2,4,5,2248,2272];rw[axi (by omega),ag];refine⟨?hh0,c1,c2,?_,?_,?_,?_,?_,by grind,by grind⟩;rotate_left
  ·simp only[eO,go_sem,g1,g4,g5,g7,g8,g36,g37,g38,k2,k4,k5,k2248,k2272,ho1,ho2,ho3,e1];rfl
  ·rfl
  ·rfl
  ·rfl
  ·rfl
 |succ k ih=>
  intro i hi c1 c2 l1 l2 hc1 hc2 b1 b2 hl1 hl2 s h g1 g4 g5 g7 g8 g36 g37 g38 k2 k4 k5 k2248 k2272;have hlt:i<A.length:=by omega
  have e1:((i:Int)< (A.length:Int))=True:=tt;have e2:aW (aH A) (i:Int)=some (.ipt (bD A[i])):=eZ rfl (List.getElem?_eq_getElem hlt);have e5:IntKind.i64.wrap ((i:Int)+1)=((i+1:Nat):Int):=wi;have ho1:=(jn (v:=v') (e:=0) hc1).cl [2,4,5,2248,2272];have ho2:=(jn (v:=v') (e:=0) hc2).cl [2,4,5,2248,2272];have ho3:=k2c [2,4,5,2248,2272];have hAd:=hA.dropN i;rw[axh hlt]at b1 b2 hAd⊢;have ih':=ih (i+1) (by omega);have vt:=hAd.head;have hrow:∀q ts,Cg p (q::ts)=if(pT q.c p).2=0 then(if(l8 q.c (pT q.c p).1).2=0 then(Cg p ts).map fun x=>(ey q.exps (pT q.c p).1 x.1,ey q.exps (l8 q.c (pT q.c p).1).1 x.2)else none)else none:=fun q ts=>rfl
  rw[hrow];generalize A[i]=t at e2 vt b1 b2 hAd⊢;have hnr:=ajQ vt.c (p:=p);obtain⟨vm,om⟩:=M7 t.c p;rw[ag];generalize au _ _ _=L at ih'⊢;generalize pT t.c p=m at hnr vm om⊢;obtain⟨m,em⟩:=m;have hsb:=Qx vt.c om;obtain⟨vq,oq⟩:=AP t.c m;simp only at hsb vq oq;generalize l8 t.c m=q at hsb vq oq⊢;obtain⟨q,eq⟩:=q;simp only[bD]at e2;simp only[rV,ae,ah]at hnr hsb;by_cases hm:em=0
  ·subst hm;rw[if_pos rfl];by_cases hq:eq=0
   ·subst hq;rw[if_pos rfl];refine Qy.step ?_;simp only at vm om vq oq;by_cases zm:m.m.length=0
    ·have f1:(0< (m.m.length:Int))=False:=ff;have x1:l1++ey t.exps m []=l1:=by simp_all[ey,if_pos,axe]
     simp only[x1];by_cases zq:q.m.length=0
     ·have f2:(0< (q.m.length:Int))=False:=ff;have x2:l2++ey t.exps q []=l2:=by simp_all[ey,if_pos,axe]
      simp only[x2];have ih2:=ih' c1 c2 l1 l2 hc1 hc2 b1.drop b2.drop (by omega) (by omega);simp only[eO,go_sem,g1,g4,g5,g7,g8,g36,g37,g38,k2,k4,k5,k2248,k2272,ho1,ho2,ho3,e1,e2,hnr,hsb,f1,f2,e5];refine ih2 _ _ ?_ ?_ ?_ ?_ ?_ ?_ ?_ ?_ ?_ ?_ ?_ ?_ ?_
      all_goals first|rfl|assumption
     ·have f2:(0< (q.m.length:Int))=True:=tt;have x2:l2++ey t.exps q []=l2++[⟨t.exps,q⟩]:=by simp_all[ey,if_neg]
      simp only[x2];obtain⟨c4,s3,s4⟩:=D9 (v':=v') b2 (vt.put oq vq zq) (by omega) hc2;have hcall2:=fun(h:ac) (hh:h 2272=t3 v' c2 0) (d:Nat)=>dF (aD6.1.2.1 false) rfl (pj (d:=d) hh hc2 s4 s3);have ih2:=ih' c1 c4 l1 _ hc1 s4 b1.drop (b2.push hAd (vt.put oq vq zq)) (by omega) (by grind);simp only[ae,ah]at hcall2;simp only[eO,go_sem,g1,g4,g5,g7,g8,g36,g37,g38,k2,k4,k5,k2248,k2272,ho1,ho2,ho3,e1,e2,hnr,hsb,f1,f2];rw[hcall2 _ rfl];simp only[go_sem,e5];refine ih2 _ _ ?_ ?_ ?_ ?_ ?_ ?_ ?_ ?_ ?_ ?_ ?_ ?_ ?_
      all_goals first|rfl|assumption
    ·have f1:(0< (m.m.length:Int))=True:=tt;have x1:l1++ey t.exps m []=l1++[⟨t.exps,m⟩]:=by simp_all[ey,if_neg]
     simp only[x1];obtain⟨c3,s1,s2⟩:=D9 (v':=v') b1 (vt.put om vm zm) (by omega) hc1;have hcall:=fun(h:ac) (hh:h 2248=t3 v' c1 0) (d:Nat)=>dF (aD6.1.2.1 false) rfl (pj (d:=d) hh hc1 s2 s1);have bp1:=b1.push hAd (vt.put om vm zm);have lp1:(l1++[(⟨t.exps,m⟩:Rt)]).length+k<=1000000:=by grind
     simp only[ae,ah]at hcall;by_cases zq:q.m.length=0
     ·have f2:(0< (q.m.length:Int))=False:=ff;have x2:l2++ey t.exps q []=l2:=by simp_all[ey,if_pos,axe]
      simp only[x2];have ih2:=ih' c3 c2 _ l2 s2 hc2 bp1 b2.drop lp1 (by omega);simp only[eO,go_sem,g1,g4,g5,g7,g8,g36,g37,g38,k2,k4,k5,k2248,k2272,ho1,ho2,ho3,e1,e2,hnr,hsb,f1];rw[hcall _ rfl];simp only[go_sem,f2,e5];refine ih2 _ _ ?_ ?_ ?_ ?_ ?_ ?_ ?_ ?_ ?_ ?_ ?_ ?_ ?_
      all_goals first|rfl|assumption
     ·have f2:(0< (q.m.length:Int))=True:=tt;have x2:l2++ey t.exps q []=l2++[⟨t.exps,q⟩]:=by unfold ey;rw[if_neg zq]
      simp only[x2];obtain⟨c4,s3,s4⟩:=D9 (v':=v') b2 (vt.put oq vq zq) (by omega) hc2;have hcall2:=fun(h:ac) (hh:h 2272=t3 v' c2 0) (d:Nat)=>dF (aD6.1.2.1 false) rfl (pj (d:=d) hh hc2 s4 s3);have ih2:=ih' c3 c4 _ _ s2 s4 bp1 (b2.push hAd (vt.put oq vq zq)) lp1 (by grind);simp only[ae,ah]at hcall2;simp only[eO,go_sem,g1,g4,g5,g7,g8,g36,g37,g38,k2,k4,k5,k2248,k2272,ho1,ho2,ho3,e1,e2,hnr,hsb,f1];rw[hcall _ rfl];simp only[go_sem,f2];rw[hcall2 _ rfl];simp only[go_sem,e5];refine ih2 _ _ ?_ ?_ ?_ ?_ ?_ ?_ ?_ ?_ ?_ ?_ ?_ ?_ ?_
      all_goals first|rfl|assumption
   ·rw[if_neg hq];have f1:(eq=0)=False:=ff hq;refine⟨?hh1,?_,?_,?_⟩;rotate_left
    ·simp only[eO,go_sem,g1,g4,g5,g7,g8,g36,g37,g38,k2,k4,k5,k2248,k2272,ho1,ho2,ho3,e1,e2,hnr,hsb,f1];rfl
    ·rfl
    ·rfl
  ·rw[if_neg hm];have f1:(em=0)=False:=ff hm;refine⟨?hh2,?_,?_,?_⟩;rotate_left
   ·simp only[eO,go_sem,g1,g4,g5,g7,g8,g36,g37,g38,k2,k4,k5,k2248,k2272,ho1,ho2,ho3,e1,e2,hnr,f1];rfl
   ·rfl
   ·rfl
theorem aoz{v v' p:Int}{A:List Rt}(hA:Cl v A)(hn:A.length<=100000){o2:Ob}(k2c:∀ids,aC ids o2=true)(s:ak)(h:ac)(X:Option (Ex×St))(hX:aj 1 [4,5,7,8] (au (ai R (az false) eO) [1,4,5,7,8,36,37,38] [2,4,5,2248,2272] s h)=X)
  (g1:s 1=I p) (g4:s 4=.ref 4 none 0 0 0) (g5:s 5=.ref 5 none 0 0 0) (g7:s 7=.ref 2248 none 0 0 0) (g8:s 8=.ref 2272 none 0 0 0) (g36:s 36=.sl 4 (aH A)) (g37:s 37=I A.length) (g38:s 38=I 0) (k2:h 2=o2) (k4:h 4=.bx [I 0,.emp]) (k5:h 5=.bx [I 0,.emp]) (k2248:h 2248=t3 v' .emp 0) (k2272:h 2272=t3 v' .emp 0):
  Qy X 2248 2272 (upd (upd (upd (upd (fun _=>.any) 8 (.ref 2272 none 0 0 0)) 7 (.ref 2248 none 0 0 0)) 5 (.ref 5 none 0 0 0)) 4 (.ref 4 none 0 0 0)) v' [] [] (Cg p A):=by
 subst hX;exact ahc hA hn k2c A.length 0 (awP _) .emp .emp [] [] (.inr ⟨rfl,rfl⟩) (.inr ⟨rfl,rfl⟩) (Bf.nil _) (Bf.nil _) (by grind) (by grind) s h g1 g4 g5 g7 g8 g36 g37 g38 k2 k4 k5 k2248 k2272
theorem R7{a:Rp}{p:Int}(oa:OkP a):R F.poly_Round [aO a,I p] []=some (R6 (eM a p),[]):=by
 refine ax UN rfl ?_;have v1:=qO oa;simp only[aO]at v1;unfold eM;cases va:vp a with
 |false=>
  rw[va]at v1;simp only[nR,ui,aO,go_sem,v1];rfl
 |true=>
  rw[va]at v1;rw[if_pos rfl];by_cases h8:p<8
  ·have e0:(p<8)=True:=eq_true h8;simp only[nR,ui,aO,go_sem,v1,e0];rfl
  ·have e0:(p<8)=False:=eq_false h8;by_cases h9:512<p
   ·have e3:(512<p)=True:=eq_true h9;simp only[nR,ui,aO,go_sem,v1,e0,e3];rfl
   ·have e3:(512<p)=False:=eq_false h9;rw[if_neg (by omega)];obtain⟨ka,a0,a8,al⟩:=il oa va;have hemp:=AN (v:=a.vars);have hl:=aoz (v:=a.vars) (v':=a.vars) (p:=p) ka (by omega) (o2:=.bx [I a.vars,.sl 4 (aH a.terms)]) (fun _=>rfl);simp only[nR,ui,aO,go_sem,v1,e0,e3,hemp,qR];generalize hX:aj 1 _ _=X;have hM:=hl _ _ _ hX rfl rfl rfl rfl rfl rfl rfl rfl rfl rfl rfl rfl rfl;cases hr:Cg p a.terms with
    |none=>
     rw[hr]at hM;obtain⟨hh,rfl,q4,q5⟩:=hM;simp only[R6,p0,aO,go_sem,q4,q5];rfl
    |some q=>
     rw[hr]at hM;obtain⟨hh,c1,c2,rfl,q4,q5,q1,q2,i1,i2⟩:=hM;obtain⟨r1,r2⟩:=q;simp only[t3]at q1 q2;rcases i1 with rfl| ⟨rfl,rfl⟩
     ·rcases i2 with rfl| ⟨rfl,rfl⟩
      ·simp only[R6,aO,go_sem,axw,axD,q4,q5,q1,q2,uL,yp,axp,axv,zK,xQ]
      ·simp only[R6,aO,go_sem,axw,axD,q4,q5,q1,q2,uL,yp,axp,axv,zK,xQ,AO];rfl
     ·rcases i2 with rfl| ⟨rfl,rfl⟩
      ·simp only[R6,aO,go_sem,axw,axD,q4,q5,q1,q2,uL,yp,axp,axv,zK,xQ,AO];rfl
      ·simp only[R6,aO,go_sem,axw,axD,q4,q5,q1,q2,uL,yp,axp,axv,zK,AO];rfl
def M8(blk:Option (Ex×St))(i1 i2:Nat)(S:ak)(v':Int)(l1 l2 r1 r2:List Rt):Prop:=
 ∃hh c1 c2,blk=some (.normal,⟨S,hh⟩)/\hh 4=.bx [I 0,.emp]/\hh 5=.bx [I 0,.emp]/\hh i1=.bx [I v',c1]/\hh i2=.bx [I v',c2]/\nj c1 (l1++r1)/\nj c2 (l2++r2)
theorem M8.p1{blk:Option (Ex×St)}{i1 i2:Nat}{S:ak}{v':Int}{l1 l2 r1 r2:List Rt}{t:Rt}(h:M8 blk i1 i2 S v' (l1++[t]) l2 r1 r2):M8 blk i1 i2 S v' l1 l2 (t::r1) r2:=by
 obtain⟨hh,c1,c2,h1,h2,h3,h4,h5,h6,h7⟩:=h;exact⟨hh,c1,c2,h1,h2,h3,h4,h5,by rwa[List.append_cons],h7⟩
theorem M8.p2{blk:Option (Ex×St)}{i1 i2:Nat}{S:ak}{v':Int}{l1 l2 r1 r2:List Rt}{t:Rt}(h:M8 blk i1 i2 S v' l1 (l2++[t]) r1 r2):M8 blk i1 i2 S v' l1 l2 r1 (t::r2):=by
 obtain⟨hh,c1,c2,h1,h2,h3,h4,h5,h6,h7⟩:=h;exact⟨hh,c1,c2,h1,h2,h3,h4,h5,h6,by rwa[List.append_cons]⟩
def ahd(blk:Option (Ex×St))(i1 i2:Nat)(S:ak)(v':Int)(l1 l2:List Rt):Option (List Rt×List Rt)->Prop
 |some q=>M8 blk i1 i2 S v' l1 l2 q.1 q.2
 |none=>∃hh,blk=some (.ret,⟨upd (upd (upd (fun _=>.any) 6 (I 9)) 5 (.ref 5 none 0 0 0)) 4 (.ref 4 none 0 0 0),hh⟩)/\hh 4=.bx [I 0,.emp]/\hh 5=.bx [I 0,.emp]
theorem ahd.step{blk:Option (Ex×St)}{i1 i2:Nat}{S:ak}{v':Int}{l1 l2:List Rt}{x:List Int}{c d:Rd}:∀ {o:Option (List Rt×List Rt)},ahd blk i1 i2 S v' (l1++ey x c []) (l2++ey x d []) o->ahd blk i1 i2 S v' l1 l2 (o.map fun q=>(ey x c q.1,ey x d q.2)):=by
 intro o h;cases o with
 |none=>exact h
 |some q=>
  obtain⟨hh,c1,c2,h1,h2,h3,h4,h5,h6,h7⟩:=h;exact⟨hh,c1,c2,h1,h2,h3,h4,h5,by rwa[E8]at h6,by rwa[E8]at h7⟩
theorem Cl.filter{v:Int}{l:List Rt}(h:Cl v l)(p:Rt->Bool):Cl v (l.filter p):=⟨fun t ht=>h.t t (List.mem_filter.1 ht).1,h.s.filter p⟩
theorem JW{a:Rp}{o:Int}(oa:OkP a):(Cl (cP a o).1.vars (cP a o).1.terms/\(cP a o).1.terms.length<=100000)/\(Cl (cP a o).2.vars (cP a o).2.terms/\(cP a o).2.terms.length<=100000):=by
 unfold cP;cases va:vp a with
 |false=>
  rw[if_neg awW];exact⟨⟨Cl.nil _,by decide⟩,⟨Cl.nil _,by decide⟩⟩
 |true=>
  obtain⟨ka,a0,a8,al⟩:=il oa va;exact⟨⟨ka.filter _,by grind⟩,⟨ka.filter _,by grind⟩⟩
theorem Zs{v p:Int}:∀ {ts:List Rt} {q:List Rt×List Rt},Cl v ts->Cg p ts=some q->(Cl v q.1/\q.1.length<=ts.length/\∀y∈q.1,∃t∈ts,y.exps=t.exps)/\(Cl v q.2/\q.2.length<=ts.length/\∀y∈q.2,∃t∈ts,y.exps=t.exps)
 |[],q,_,h=>by
  cases h;grind
 |t::ts,q,c,h=>by
  obtain⟨vt,ht,c2⟩:=c.cons;unfold Cg at h;split at h
  ·split at h
   ·rw[awR]at h;obtain⟨q2,h2,rfl⟩:=h;obtain⟨⟨k1,k2,k3⟩,⟨k4,k5,k6⟩⟩:=Zs c2 h2;have key:∀ {d:Rd} {l:List Rt},vd d=true->Ok0 d->Cl v l->l.length<=ts.length->(∀y∈l,∃t∈ts,y.exps=t.exps)->Cl v (ey t.exps d l)/\(ey t.exps d l).length<=(t::ts).length/\∀y∈ey t.exps d l,∃q∈t::ts,y.exps=q.exps:=by
     intro d l vdd od cl hl hy;unfold ey;split
     ·refine⟨cl,by simp;omega,fun y h=>?_⟩;obtain⟨q,hq,he⟩:=hy y h;exact⟨q,by simp[hq],he⟩
     ·rename_i h0;refine⟨Cl.mk' (vt.put od vdd h0) (fun y h=>?_) cl,by simp;omega,fun y h=>?_⟩
      ·obtain⟨q,hq,he⟩:=hy y h;rw[he];exact ht q hq
      ·rcases List.mem_cons.1 h with rfl|h
       ·exact⟨t,by simp,rfl⟩
       ·obtain⟨q,hq,he⟩:=hy y h;exact⟨q,by simp[hq],he⟩
    exact⟨key (M7 _ _).1 (M7 _ _).2 k1 k2 k3,key (AP _ _).1 (AP _ _).2 k4 k5 k6⟩
   ·cases h
  ·cases h
theorem JX{a:Rp}{p:Int}(oa:OkP a):Res ((eM a p).1.1,(eM a p).2)/\Res ((eM a p).1.2,(eM a p).2):=by
 have h0:∀e,Res (p0,e):=fun e=>⟨Cl.nil _,axz _,.inr rfl⟩;unfold eM;cases va:vp a with
 |false=>
  grind
 |true=>
  rw[if_pos rfl];split
  ·grind
  ·obtain⟨ka,a0,a8,al⟩:=il oa va;cases hr:Cg p a.terms with
   |none=>grind
   |some q=>
    obtain⟨⟨k1,k2,_⟩,⟨k3,k4,_⟩⟩:=Zs ka hr;exact⟨⟨k1,by grind,.inl rfl⟩,⟨k3,by grind,.inl rfl⟩⟩
abbrev R8(l:List Rm):List (List AV):=l.map fun m=>OV m
theorem aoA{s:Rs}{m:Rm}(os:OkS s)(om:OkM m):R F.model_every_1 [kO m,.ref 1000 none 0 0 0] [.bx (Ed s)]=some (B (!uN s m),[.bx (Ed s)]):=by
 refine D3 N7 N6 (BA false) rfl ?_;have h:=aeE os om;generalize uN s m=b at h⊢;simp only[xB,EG,go_sem,h];exact rO rfl rfl rfl rfl rfl
theorem amc(l:List (List AV)):l.map (dK [])=l:=qN fun x _=>Un x
theorem amd:Src F.slices_ContainsFunc_api_Model_api_Model_ F.slices_IndexFunc_api_Model_api_Model_ 9 true [.o 0 [],.o 5 [],.o 0 [],.o 2 [],.o 0 [],.o 0 [],.o 2 [],.o 0 [],.o 0 []]:=
 ⟨bT.2.1,bT.2.2,bT.1.2.2.2 false,bT.1.2.1 false,bT.1.2.2.2 false,bT.1.1 false,
  aX.2.1,aX.2.2,aX.1.2.2.2 false⟩
theorem ajR(m:Rm):dK [.o 0 [],.o 5 [],.o 0 [],.o 2 [],.o 0 [],.o 0 [],.o 2 [],.o 0 [],.o 0 []] (OV m)=OV m:=by
 simp only[go_sem,amc]
theorem KS(l:List Rm):(R8 l).map (dK [.o 0 [],.o 5 [],.o 0 [],.o 2 [],.o 0 [],.o 0 [],.o 2 [],.o 0 [],.o 0 []])=R8 l:=by
 refine qN fun x hx=>?_;obtain⟨t,ht,rfl⟩:=List.mem_map.1 hx;exact ajR t
def Ef(s:Rs)(l:List Rm):Bool:=mr s&&!(l.any fun m=>!uN s m)
theorem M9{s:Rs}{l:List Rm}(os:OkS s)(om:∀m∈l,OkM m)(hl:l.length<4611686018427387904):R F.model_every [uM s,.sl 9 (R8 l)] []=some (B (Ef s l),[]):=by
 refine ax SK rfl ?_;have h1:=Cf os.d os.n;unfold Ef;cases g1:mr s with
 |false=>
  rw[g1]at h1;simp only[uV,BU,go_sem,h1,awU]
 |true=>
 rw[g1]at h1;have hc:=KD amd (Frow:=fun m=>OV m) (l:=l) (q:=fun m=>!uN s m) (KQ s) (ES false) (BA false) hl (KS _) fun m hm=>⟨kO m,kO m,rfl,rfl,rfl,by rw[Ml];simp only[go_sem,Ee],aoA os (om m hm)⟩;generalize(l.any fun m=>!uN s m)=b at hc⊢;have hcc:=fun(h:ac) (d:Nat) (hh:h 2=.bx (Ed s)) (hf:h (2000+8*d)=.dead)=>D4 (f:=F.slices_ContainsFunc_api_Model_api_Model_) (g:=F.model_every_1) (h:=h) (d:=d) (id:=2) (zas:=[.sl 9 (R8 l)]) (as':=[.sl 9 (R8 l)]) (aX.1.2.1 false) (aX.1.2.2.2 false)
  (by rw[aX.1.1];simp only[go_sem,KS,axM,axc]) rfl rfl hh (KQ _) (KQ _) (fun h=>h) hc (V0 _) (axJ rfl) (by simp[cw,cz,hf,bS])
 simp only[axM,axc,go_sem]at hcc;simp only[uV,BU,go_sem,h1];rw[hcc _ _ rfl rfl];simp only[go_sem]
def fm(s:Rs):Rm:=⟨⟨s.dom.length,[]⟩,dN⟩
theorem GC{s:Rs}:R F.model_none [uM s] []=some (kO (fm s),[]):=by
 refine ax UG rfl ?_;have h:=lC;simp only[am,ao,dN,aI]at h;simp only[BV,IY,fm,dN,aI,axv,go_sem,h];rfl
noncomputable def JY (a:Rp) (dom:List Ri) (p:Int):Ri:=open Classical in if h:∃z,R F.bound_Best [aO a,.sl 7 (bL dom),I p] []=some (am z,[])/\OkI z/\vi z=true then Classical.choose h else dN
theorem KT{a:Rp}{dom:List Ri}{p:Int}(oa:OkP a)(od:∀x∈dom,OkI x)(h2:dom.length<=100000):R F.bound_Best [aO a,.sl 7 (bL dom),I p] []=some (am (JY a dom p),[])/\OkI (JY a dom p)/\vi (JY a dom p)=true:=by
 have h:∃z,R F.bound_Best [aO a,.sl 7 (bL dom),I p] []=some (am z,[])/\OkI z/\vi z=true:=by
  obtain⟨b,hB,hbr,hbn⟩:=Wp oa od h2 (p:=p);cases hq:(ni a dom&&bJ p)with
  |false=>
   have hb:=hbn hq;subst hb;refine⟨_,M6 oa od h2 (p:=p) (b:=dN) MR.ok' (fun _=>hB),?_⟩;unfold HH;rw[hq];exact⟨MR.ok',rfl⟩
  |true=>
   have hq2:=hq;rw[awS]at hq2;obtain⟨hv,hl,hk⟩:=OU od hq2.1;have i2:=hbr _ _ (KR dom);obtain⟨m1,m2⟩:=HE (JP (p:=p) oa (tP.inL hk (KR dom))) i2;refine⟨_,M6 oa od h2 (p:=p) (b:=b) i2.ok (fun _=>hB),?_⟩;unfold HH;rw[if_pos hq,if_pos m1];exact⟨m2.ok,m2.v⟩
 unfold JY;rw[dif_pos h];exact Classical.choose_spec h
noncomputable def dH (a:Rp) (dom:List Ri) (p:Int):Ri:=if a.terms.length=0 then bU else JY a dom p
theorem qK{a:Rp}{dom:List Ri}{p:Int}(oa:OkP a)(od:∀x∈dom,OkI x)(h2:dom.length<=100000):OkI (dH a dom p)/\vi (dH a dom p)=true:=by
 unfold dH;split
 ·exact⟨⟨aU.2,aU.2⟩,by have v:=aU.1;unfold bU;grind[vi]⟩
 ·exact(KT oa od h2).2
theorem BJ{a:Rp}{dom:List Ri}{p:Int}(oa:OkP a)(od:∀x∈dom,OkI x)(h2:dom.length<=100000):R F.model_ranged [aO a,.sl 7 (bL dom),I p] []=some (am (dH a dom p),[]):=by
 refine ax Pz rfl ?_;have h1:=R4;have h3:=(KT oa od h2 (p:=p)).1;unfold dH;generalize JY a dom p=z at h3⊢;simp only[aO,am,ao]at h1 h3;by_cases g:a.terms.length=0
 ·have f:((a.terms.length:Int)=0)=True:=tt;rw[if_pos g];simp only[tw,Ah,aO,am,ao,go_sem,h1,f]
 ·have f:((a.terms.length:Int)=0)=False:=ff;rw[if_neg g];simp only[tw,Ah,aO,am,ao,go_sem,h3,f]
noncomputable def wF (s:Rs) (q:Rp):(Rp×Ri)×Bool:=
 if(eM (cP q s.ord).1 s.p).2=0 then((⟨s.dom.length,(eM (cP q s.ord).1 s.p).1.1.terms⟩,cW (dH (cP q s.ord).2 s.dom s.p) (dH (eM (cP q s.ord).1 s.p).1.2 s.dom s.p) s.p),true)
 else(((eM (cP q s.ord).1 s.p).1.1,bU),false)
theorem ajS{s:Rs}{q:Rp}(os:OkS s)(oq:OkP q)(h2:s.dom.length<=100000):R F.model_cut [uM s,aO q] []=some (.tup [aO (wF s q).1.1,am (wF s q).1.2,B (wF s q).2],[]):=by
 refine ax Xt rfl ?_;have h1:=RR (o:=s.ord) oq;obtain⟨⟨c1,_⟩,c2,_⟩:=JW (o:=s.ord) oq;unfold wF;generalize cP q s.ord=sp at h1 c1 c2⊢;have h3:=R7 (p:=s.p) (jR c1);obtain⟨r1,r2⟩:=JX (p:=s.p) (jR c1);generalize eM sp.1 s.p=r at h3 r1 r2⊢;have h4:=BJ (p:=s.p) (jR c2) os.d h2;have h5:=BJ (p:=s.p) (jR r2.cl) os.d h2;have k4:=qK (p:=s.p) (jR c2) os.d h2;have k5:=qK (p:=s.p) (jR r2.cl) os.d h2;generalize dH sp.2 s.dom s.p=x at h4 k4⊢;simp only at h5 k5;generalize dH r.1.2 s.dom s.p=y at h5 k5⊢;have h6:=vM k4.1 k5.1 (p:=s.p);generalize cW x y s.p=z at h6⊢;simp only[Wf,R6,aO,am,ao]at h1 h3 h4 h5 h6;by_cases g:r.2=0
 ·have f:(r.2=0)=True:=eq_true g;rw[if_pos g];simp only[yU,Fu,aO,am,ao,go_sem,h1,h3,h4,h5,h6,f]
 ·have f:(r.2=0)=False:=eq_false g;rw[if_neg g];simp only[yU,Fu,aO,am,ao,bU,aI,go_sem,h1,h3,f]
noncomputable def gr (s:Rs) (q:Rp) (e:Int) (r:Ri):Rm:=if e=0 then(if(wF s q).2=true then⟨(wF s q).1.1,cW r (wF s q).1.2 s.p⟩else fm s)else fm s
theorem ajT{s:Rs}{q:Rp}:OkI (wF s q).1.2:=by
 unfold wF;split
 ·exact s6
 ·exact⟨aU.2,aU.2⟩
theorem Na{s:Rs}{q:Rp}{e:Int}{r:Ri}(os:OkS s)(oq:OkP q)(or:OkI r)(h2:s.dom.length<=100000):R F.model_made [uM s,aO q,I e,am r] []=some (kO (gr s q e r),[]):=by
 refine ax UH rfl ?_;have h1:=GC (s:=s);have h3:=ajS os oq h2;have h4:=vM or (ajT (s:=s) (q:=q)) (p:=s.p);unfold gr;generalize wF s q=c at h3 h4⊢;generalize cW r c.1.2 s.p=z at h4⊢;simp only[aO,am,ao]at h3 h4;by_cases g:e=0
 ·have f:(e=0)=True:=eq_true g;rw[if_pos g];cases g2:c.2 with
  |true=>
   rw[g2]at h3;rw[if_pos rfl];simp only[sn,yN,aO,am,ao,go_sem,h3,h4,f]
  |false=>
   rw[g2]at h3;rw[if_neg awW];generalize fm s=n at h1⊢;simp only[sn,yN,aO,am,ao,go_sem,h1,h3,f]
 ·have f:(e=0)=False:=eq_false g;rw[if_neg g];generalize fm s=n at h1⊢;simp only[sn,yN,aO,am,ao,go_sem,h1,f]
theorem ame:R F.r02_Int [I 0] []=some (ae aI,[]):=Qs (n:=60) κ
theorem amf:R F.r02_Int [I 1] []=some (ae one,[]):=Qs (n:=60) κ
theorem ahe:R F.r02_Int [I (-1)] []=some (ae tp,[]):=Qs (n:=60) κ
theorem ahW:R F.l25_n [I 0] []=some (am bU,[]):=by
 refine ax aip rfl ?_;have h1:=ame;have h2:=iD aU.2 aU.1;simp only[am,ao,ae,ah,aI]at h1 h2;simp only[L6,X7,am,ao,bU,aI,go_sem,h1,h2]
theorem Zt:R F.r25_Unit [] []=some (am lh,[]):=by
 refine ax aaW rfl ?_;have h1:=ahe;have h2:=amf;simp only[ae,ah,tp,one]at h1 h2;simp only[Ft,NN,am,ao,lh,tp,one,go_sem,h1,h2]
theorem amg{d:Rd}{p:Int}(od:Ok0 d)(hl:d.m.length<=100000):R F.r03_Is [ae d,I p] []=some (B (zZ d p),[]):=by
 refine ax afJ rfl ?_;have h1:=agh (p:=p);have h2:=EY od;have h3:=age od.lb hl;unfold zZ;simp only[ae,ah]at h2;cases g1:bJ p with
 |false=>
  rw[g1]at h1;simp only[Bu,G7,ae,ah,go_sem,h1,awU]
 |true=>
 rw[g1]at h1;cases g2:vd d with
 |false=>
  rw[g2]at h2;simp only[Bu,G7,ae,ah,go_sem,h1,h2,awU,axx]
 |true=>
 rw[g2]at h2;simp only[Bu,G7,ae,ah,go_sem,h1,h2,h3,awT]
theorem amh{x y:Ri}(h:vi x=false\/x.all=true)(hy:y.all=false):lF x y=false:=by
 grind[lF]
theorem ajU{s:Rs}(os:OkS s)(hl:s.dom.length<=100000):∀ (rest:List Ri) (n:Nat),s.dom.drop n=rest->n<=s.dom.length->∀ (S:ak) (h:ac),S 1=.ref 1 none 0 0 0->S 3=I n->h 1=.bx (Ed s)->
  ∃hh,aj 0 [] (au (ai R (az false) gp) [1,3] [1] S h)=if(rest.any fun x=>!lF x lh)=true then some (.ret,⟨upd (fun _=>.any) 2 (B false),hh⟩)else some (.normal,⟨fun _=>.any,hh⟩):=by
 intro rest;induction rest with
 |nil=>
  intro n hd hn S h h1 h3 k1;have e:n=s.dom.length:=by
   have:=congrArg List.length hd;grind
  subst e;rw[ag];refine⟨?hh0,?_⟩;rotate_left
  ·simp only[gp,go_sem,h1,h3,k1,axU];rfl
 |cons x rest ih=>
  intro n hd hn S h h1 h3 k1;have hlt:n<s.dom.length:=by
   grind
  have hr:s.dom[n]?=some x:=by
   have:=congrArg (·[0]?) hd;grind
  have ih':=ih (n+1) (by rw[←List.drop_drop,hd];rfl) hlt;have e1:((n:Int)< (s.dom.length:Int))=True:=tt;have e2:aW (bL s.dom) (n:Int)=some (.ipt (ao x)):=CR rfl hr;have e3:IntKind.i64.wrap ((n:Int)+1)=((n+1:Nat):Int):=by grind[i64_in]
  have ox:=os.d x (List.mem_of_getElem? hr);have v1:=EZ ox;have v2:=Zt;have v3:=abT ox KP.1;have hk:=amh (x:=x) (y:=lh);rw[List.any_cons,ag];generalize lF x lh=bi at v3 hk⊢;simp only[am,ao,lh,tp,one]at e2 v1 v2 v3;cases g1:vi x with
  |false=>
   rw[g1]at v1;rw[hk (Or.inl g1) rfl];refine⟨?hh1,?_⟩;rotate_left
   ·simp only[gp,go_sem,h1,h3,k1,e1,e2,v1];rfl
  |true=>
  rw[g1]at v1;cases g2:x.all with
  |true=>
   rw[hk (Or.inr g2) rfl];rw[g2]at v1 e2;refine⟨?hh2,?_⟩;rotate_left
   ·simp only[gp,go_sem,h1,h3,k1,e1,e2,v1];rfl
  |false=>
  rw[g2]at v1 e2 v3;cases bi with
  |false=>
   refine⟨?hh3,?_⟩;rotate_left
   ·simp only[gp,go_sem,h1,h3,k1,e1,e2,v1,v2,v3];rfl
  |true=>
   simp only[gp,go_sem,h1,h3,k1,e1,e2,e3,v1,v2,v3];exact ih' _ _ rfl rfl rfl
theorem ahf{s:Rs}(os:OkS s):R F.r25_Space [uM s] []=some (B (mr s),[]):=by
 refine ax Xm rfl ?_;have hp:=agi (p:=s.p);unfold mr;by_cases g1:(s.dom.length:Int)<1
 ·have f1:((s.dom.length:Int)<1)=True:=eq_true g1;rw[decide_eq_false (p:=1<=s.dom.length) (by omega),awU];simp only[kG,pu,go_sem,f1]
 have f1:((s.dom.length:Int)<1)=False:=eq_false g1;rw[decide_eq_true (p:=1<=s.dom.length) (by omega),awT];by_cases g2:8< (s.dom.length:Int)
 ·have f2:(8< (s.dom.length:Int))=True:=eq_true g2;rw[decide_eq_false (p:=s.dom.length<=8) (by omega),awU];simp only[kG,pu,go_sem,f1,f2]
 have f2:(8< (s.dom.length:Int))=False:=eq_false g2;rw[decide_eq_true (p:=s.dom.length<=8) (by omega),awT];by_cases g3:s.ord<1
 ·have f3:(s.ord<1)=True:=eq_true g3;rw[decide_eq_false (p:=1<=s.ord) (by omega),awU];simp only[kG,pu,go_sem,f1,f2,f3]
 have f3:(s.ord<1)=False:=eq_false g3;rw[decide_eq_true (p:=1<=s.ord) (by omega),awT];by_cases g4:16<s.ord
 ·have f4:(16<s.ord)=True:=eq_true g4;rw[decide_eq_false (p:=s.ord<=16) (by omega),awU];simp only[kG,pu,go_sem,f1,f2,f3,f4]
 have f4:(16<s.ord)=False:=eq_false g4;rw[decide_eq_true (p:=s.ord<=16) (by omega),awT];cases g5:bJ s.p with
 |false=>
  rw[g5]at hp;simp only[kG,pu,go_sem,f1,f2,f3,f4,hp,awU]
 |true=>
 rw[g5]at hp;have hL:=ajU os (by omega) s.dom 0 rfl (axz _);generalize hLL:au (ai R (az false) gp) [1,3] [1]=L at hL;have hXL:∀s h,ai R (az false) (.loop [1,3] [1] gp) s h=L s h:=fun s h=>by rw[←hLL];rfl
 clear hLL;rw[awT];generalize(s.dom.any fun x=>!lF x lh)=b at hL⊢;have hL2:∀ (S:ak) (h:ac) (X:Option (Ex×St)),aj 0 [] (L S h)=X->S 1=.ref 1 none 0 0 0->S 3=I 0->h 1=.bx (Ed s)->∃hh,X=if b=true then some (.ret,⟨upd (fun _=>.any) 2 (B false),hh⟩)else some (.normal,⟨fun _=>.any,hh⟩):=fun S h X hX k1 k2 k3=>by
  rw[←hX];exact hL S h k1 k2 k3
 simp only[kG,pu,go_sem,f1,f2,f3,f4,hp,hXL];generalize hX2:aj 0 [] (L _ _)=X;obtain⟨hh,g0⟩:=hL2 _ _ _ hX2 rfl rfl rfl;rw[g0];cases b with
 |true=>
  rw[if_pos rfl];simp only[go_sem]
 |false=>
  rw[if_neg awW];simp only[go_sem]
theorem ajV{s:Rs}{m:Rm}(hc:∀t∈m.P.terms,Ok0 t.c/\t.c.m.length<=100000)(hl:m.P.terms.length<=100000):∀ (rest:List Rt) (n:Nat),m.P.terms.drop n=rest->n<=m.P.terms.length->∀ (S:ak) (h:ac),S 2=.ref 2 none 0 0 0->S 3=.ref 3 none 0 0 0->S 5=I n->h 2=.bx (Ed s)->h 3=.bx (OV m)->
  ∃hh,aj 0 [] (au (ai R (az false) j6) [2,3,5] [2,3] S h)=if(rest.any fun t=>!zZ t.c s.p)=true then some (.ret,⟨upd (fun _=>.any) 4 (B false),hh⟩)else some (.normal,⟨fun _=>.any,hh⟩):=by
 intro rest;induction rest with
 |nil=>
  intro n hd hn S h h2 h3 h5 k2 k3;have e:n=m.P.terms.length:=by
   have:=congrArg List.length hd;grind
  subst e;rw[ag];refine⟨?hh0,?_⟩;rotate_left
  ·rw[List.any_nil,if_neg awW];simp only[j6,go_sem,h2,h3,h5,k2,k3,axU];rfl
 |cons x rest ih=>
  intro n hd hn S h h2 h3 h5 k2 k3;have hlt:n<m.P.terms.length:=by
   grind
  have hr:m.P.terms[n]?=some x:=by
   have:=congrArg (·[0]?) hd;grind
  have ih':=ih (n+1) (by rw[←List.drop_drop,hd];rfl) hlt;have e1:((n:Int)< (m.P.terms.length:Int))=True:=tt;have e2:aW (aH m.P.terms) (n:Int)=some (.ipt (bD x)):=eZ rfl hr;have e3:IntKind.i64.wrap ((n:Int)+1)=((n+1:Nat):Int):=by grind[i64_in]
  obtain⟨ox,lx⟩:=hc x (List.mem_of_getElem? hr);have v1:=amg (p:=s.p) ox lx;rw[ag];generalize au _ _ _=L at ih'⊢;simp only[bD]at e2;simp only[ae,ah]at v1;rw[List.any_cons];cases g1:zZ x.c s.p with
  |false=>
   rw[g1]at v1;refine⟨?hh1,?_⟩;rotate_left
   ·rw[axZ,axQ,if_pos rfl];simp only[j6,go_sem,h2,h3,h5,k2,k3,e1,e2,v1];rfl
  |true=>
   rw[g1]at v1;simp only[Bool.not_true,axY];simp only[j6,go_sem,h2,h3,h5,k2,k3,e1,e2,e3,v1];exact ih' _ _ rfl rfl rfl rfl rfl
theorem R9{s:Rs}{m:Rm}(os:OkS s)(om:OkM m)(hm:∀t∈m.P.terms,t.c.m.length<=100000):R F.r25_Valid [uM s,kO m] []=some (B (uN s m),[]):=by
 refine ax Xl rfl ?_;have h1:=ahf os;have h2:=LM om.c;have h4:=EZ om.r;unfold uN;simp only[aO,am,ao]at h2 h4;cases g1:mr s with
 |false=>
  rw[g1]at h1;simp only[kF,pt,go_sem,h1,awU]
 |true=>
 rw[g1]at h1;cases g2:vp m.P with
 |false=>
  rw[g2]at h2;simp only[kF,pt,go_sem,h1,h2,awU,axx]
 |true=>
 rw[g2]at h2;by_cases g3:m.P.vars=(s.dom.length:Int)
 case neg=>
  have f3:(m.P.vars=(s.dom.length:Int))=False:=eq_false g3;simp only[kF,pt,go_sem,h1,h2,f3,awU,axx]
 have f3:(m.P.vars=(s.dom.length:Int))=True:=eq_true g3;have op:=Wq om.c g2;have h3:=XG op;simp only[aO]at h3;by_cases g4:s.ord<ej m.P
 case pos=>
  have f4:(s.ord<ej m.P)=True:=eq_true g4;have f4':(ej m.P<=s.ord)=False:=ff;simp only[kF,pt,go_sem,h1,h2,h3,f3,f4,f4',awU,axx]
 have f4:(s.ord<ej m.P)=False:=eq_false g4;have f4':(ej m.P<=s.ord)=True:=tt;cases g5:vi m.R with
 |false=>
  rw[g5]at h4;simp only[kF,pt,go_sem,h1,h2,h3,h4,f3,f4,f4',awU,axx]
 |true=>
 rw[g5]at h4;have hL:=ajV (s:=s) (m:=m) (fun t ht=>⟨om.c t ht,hm t ht⟩) (by have:=(il op g2).2.2.2;omega) m.P.terms 0 rfl (axz _);generalize hLL:au (ai R (az false) j6) [2,3,5] [2,3]=L at hL;have hXL:∀s h,ai R (az false) (.loop [2,3,5] [2,3] j6) s h=L s h:=fun s h=>by rw[←hLL];rfl
 clear hLL;generalize(m.P.terms.any fun t=>!zZ t.c s.p)=b at hL⊢;have hL2:∀ (S:ak) (h:ac) (X:Option (Ex×St)),aj 0 [] (L S h)=X->S 2=.ref 2 none 0 0 0->S 3=.ref 3 none 0 0 0->S 5=I 0->h 2=.bx (Ed s)->h 3=.bx (OV m)->∃hh,X=if b=true then some (.ret,⟨upd (fun _=>.any) 4 (B false),hh⟩)else some (.normal,⟨fun _=>.any,hh⟩):=fun S h X hX k1 k2 k3 k4 k5=>by
  rw[←hX];exact hL S h k1 k2 k3 k4 k5
 simp only[kF,pt,go_sem,h1,h2,h3,h4,f3,f4,f4',hXL];generalize hX2:aj 0 [] (L _ _)=X;obtain⟨hh,g0⟩:=hL2 _ _ _ hX2 rfl rfl rfl rfl rfl;rw[g0];cases b with
 |true=>
  rw[if_pos rfl];simp only[go_sem]
 |false=>
  rw[if_neg awW];simp only[go_sem]
theorem aeH{s:Rs}{a b:Rm}(os:OkS s)(oa:OkM a)(ob:OkM b)(ha:∀t∈a.P.terms,t.c.m.length<=100000)(hb:∀t∈b.P.terms,t.c.m.length<=100000):R F.l25_pair [uM s,kO a,kO b] []=some (B (uN s a&&uN s b),[]):=by
 refine ax aaQ rfl ?_;have h1:=R9 os oa ha;have h2:=R9 os ob hb;cases g:uN s a with
 |false=>
  rw[g]at h1;simp only[aDD,G1,go_sem,h1,awU]
 |true=>
  rw[g]at h1;simp only[aDD,G1,go_sem,h1,h2,awT]
theorem aEG{s:Rs}:R F.l25_all [uM s] []=some (kO (fm s),[]):=by
 refine ax acP rfl ?_;have h:=lC;simp only[am,ao,dN,aI]at h;simp only[G6,Re,fm,dN,aI,axv,go_sem,h];rfl
theorem Sa{x:Ri}(h:vi x=true):lF x x=true:=by
 unfold lF;cases ha:x.all with
 |true=>simp[h]
 |false=>simp[h]
theorem Sc{m:Rm}(hr:OkI m.R)(hv:vi m.R=true)(hc:Cl m.P.vars m.P.terms)(hn:m.P.terms.length<=100000):R F.l25_same [kO m,kO m] []=some (B true,[]):=by
 refine ax aaT rfl ?_;have h1:=R2 hr hr;rw[Sa hv,axm]at h1;have h2:=ai9 hc hc hn;rw[abF hc]at h2;simp only[aO,am,ao]at h1 h2;simp only[Fo,NM,go_sem,h1,h2]
theorem E9{s:Rs}{a:Rp}(oa:OkP a)(os:OkS s)(h2:s.dom.length<=100000):R F.l25_span [uM s,aO a] []=some (am (dH a s.dom s.p),[]):=by
 refine ax aaR rfl ?_;have h1:=ahW;have h3:=(KT oa os.d h2 (p:=s.p)).1;unfold dH;generalize JY a s.dom s.p=z at h3⊢;simp only[aO,am,ao]at h1 h3;by_cases g:a.terms.length=0
 ·have f:((a.terms.length:Int)=0)=True:=tt;rw[if_pos g];simp only[aDx,G3,aO,am,ao,go_sem,h1,f]
 ·have f:((a.terms.length:Int)=0)=False:=ff;rw[if_neg g];simp only[aDx,G3,aO,am,ao,go_sem,h3,f]
def nv(p:Int):Ri->List Ri->Ri
 |x,[]=>x
 |x,y::l=>nv p (cW x y p) l
theorem Qz{p:Int}:∀ {l:List Ri} {x:Ri},OkI x->OkI (nv p x l)
 |[],_,h=>h
 |y::l,x,_=>(Qz (l:=l) s6:OkI (nv p (cW x y p) l))
theorem aeI{s:Rs}{l:List Ri}(ol:∀x∈l,OkI x)(hl:l.length<=100000):∀ (rest:List Ri) (n:Nat) (x:Ri),OkI x->l.drop n=rest->n<=l.length->∀ (S:ak) (h:ac),S 3=.ref 3 none 0 0 0->S 4=.ref 4 none 0 0 0->S 6=.ref 6 none 0 0 0->S 9=.sl 7 (bL l)->S 10=I l.length->S 11=I n->h 3=.bx (Ed s)->h 4=.bx (ao x)->h 6=.bx [B false,.emp,I 0,B false,.emp,I 0,B false]->
  ∃hh,aj 0 [4,6] (au (ai R (az false) pY) [3,4,6,9,10,11] [3,4,6] S h)=some (.normal,⟨upd (upd (fun _=>.any) 6 (.ref 6 none 0 0 0)) 4 (.ref 4 none 0 0 0),hh⟩)/\hh 4=.bx (ao (nv s.p x rest))/\hh 6=.bx [B false,.emp,I 0,B false,.emp,I 0,B false]:=by
 intro rest;induction rest with
 |nil=>
  intro n x ox hd hn S h h3 h4 h6 h9 h10 h11 k3 k4 k6;have e:n=l.length:=by
   have:=congrArg List.length hd;grind
  subst e;rw[ag];simp only[ao]at k4;refine⟨?hh0,?_,?_,?_⟩;rotate_left
  ·simp only[pY,go_sem,h3,h4,h6,h9,h10,h11,k3,k4,k6,axU];rfl
  ·rfl
  ·rfl
 |cons y rest ih=>
  intro n x ox hd hn S h h3 h4 h6 h9 h10 h11 k3 k4 k6;have hlt:n<l.length:=by
   grind
  have hr:l[n]?=some y:=by
   have:=congrArg (·[0]?) hd;grind
  have ih':=ih (n+1) (cW x y s.p) s6 (by rw[←List.drop_drop,hd];rfl) hlt;have e1:((n:Int)< (l.length:Int))=True:=tt;have e2:aW (bL l) (n:Int)=some (.ipt (ao y)):=CR rfl hr;have e3:IntKind.i64.wrap ((n:Int)+1)=((n+1:Nat):Int):=by grind[i64_in]
  have v1:=vM ox (ol y (List.mem_of_getElem? hr)) (p:=s.p);rw[ag];rw[show nv s.p x (y::rest)=nv s.p (cW x y s.p) rest from rfl];generalize au _ _ _=L at ih'⊢;generalize cW x y s.p=z at v1 ih'⊢;simp only[ao]at e2 k4;simp only[am,ao]at v1;simp only[pY,go_sem,h3,h4,h6,h9,h10,h11,k3,k4,k6,e1,e2,e3,v1];exact ih' _ _ rfl rfl rfl rfl rfl rfl rfl rfl rfl
theorem HI{s:Rs}{l:List Ri}{x:Ri}(ox:OkI x)(ol:∀x∈l,OkI x)(hl:l.length<=100000):R F.l25_sum [uM s,am x,.sl 7 (bL l)] []=some (am (nv s.p x l),[]):=by
 refine ax acL rfl ?_;have hL:=aeI (s:=s) ol hl l 0 x ox rfl (axz _);generalize hLL:au (ai R (az false) pY) [3,4,6,9,10,11] [3,4,6]=L at hL;have hXL:∀s h,ai R (az false) (.loop [3,4,6,9,10,11] [3,4,6] pY) s h=L s h:=fun s h=>by rw[←hLL];rfl
 clear hLL;generalize nv s.p x l=z at hL⊢;have hL2:∀ (S:ak) (h:ac) (X:Option (Ex×St)),aj 0 [4,6] (L S h)=X->S 3=.ref 3 none 0 0 0->S 4=.ref 4 none 0 0 0->S 6=.ref 6 none 0 0 0->S 9=.sl 7 (bL l)->S 10=I l.length->S 11=I 0->h 3=.bx (Ed s)->h 4=.bx (ao x)->h 6=.bx [B false,.emp,I 0,B false,.emp,I 0,B false]->
   ∃hh,X=some (.normal,⟨upd (upd (fun _=>.any) 6 (.ref 6 none 0 0 0)) 4 (.ref 4 none 0 0 0),hh⟩)/\hh 4=.bx (ao z)/\hh 6=.bx [B false,.emp,I 0,B false,.emp,I 0,B false]:=fun S h X hX a b c d e f g i j=>by
  rw[←hX];exact hL S h a b c d e f g i j
 simp only[G2,Rb,am,ao,go_sem,hXL];generalize hX2:aj 0 [4,6] (L _ _)=X;obtain⟨hh,g0,g4,g6⟩:=hL2 _ _ _ hX2 rfl rfl rfl rfl rfl rfl rfl rfl rfl;rw[g0];simp only[ao]at g4;simp only[go_sem,g4,g6]
theorem aeJ{p:Int}{l:List Ri}(ol:∀x∈l,OkI x)(hl:l.length<=100000):∀ (rest:List Ri) (n:Nat) (x:Ri),OkI x->l.drop n=rest->n<=l.length->∀ (S:ak) (h:ac),S 0=I p->S 4=.ref 4 none 0 0 0->S 6=.ref 6 none 0 0 0->S 9=.sl 7 (bL l)->S 10=I l.length->S 11=I n->h 4=.bx (ao x)->h 6=.bx [B false,.emp,I 0,B false,.emp,I 0,B false]->
  ∃hh,aj 0 [4,6] (au (ai R (az false) mA) [0,4,6,9,10,11] [4,6] S h)=some (.normal,⟨upd (upd (fun _=>.any) 6 (.ref 6 none 0 0 0)) 4 (.ref 4 none 0 0 0),hh⟩)/\hh 4=.bx (ao (nv p x rest))/\hh 6=.bx [B false,.emp,I 0,B false,.emp,I 0,B false]:=by
 intro rest;induction rest with
 |nil=>
  intro n x ox hd hn S h h0 h4 h6 h9 h10 h11 k4 k6;have e:n=l.length:=by
   have:=congrArg List.length hd;grind
  subst e;rw[ag];simp only[ao]at k4;refine⟨?hh0,?_,?_,?_⟩;rotate_left
  ·simp only[mA,go_sem,h0,h4,h6,h9,h10,h11,k4,k6,axU];rfl
  ·rfl
  ·rfl
 |cons y rest ih=>
  intro n x ox hd hn S h h0 h4 h6 h9 h10 h11 k4 k6;have hlt:n<l.length:=by
   grind
  have hr:l[n]?=some y:=by
   have:=congrArg (·[0]?) hd;grind
  have ih':=ih (n+1) (cW x y p) s6 (by rw[←List.drop_drop,hd];rfl) hlt;have e1:((n:Int)< (l.length:Int))=True:=tt;have e2:aW (bL l) (n:Int)=some (.ipt (ao y)):=CR rfl hr;have e3:IntKind.i64.wrap ((n:Int)+1)=((n+1:Nat):Int):=by grind[i64_in]
  have v1:=vM ox (ol y (List.mem_of_getElem? hr)) (p:=p);rw[ag];rw[show nv p x (y::rest)=nv p (cW x y p) rest from rfl];generalize au _ _ _=L at ih'⊢;generalize cW x y p=z at v1 ih'⊢;simp only[ao]at e2 k4;simp only[am,ao]at v1;simp only[mA,go_sem,h0,h4,h6,h9,h10,h11,k4,k6,e1,e2,e3,v1];exact ih' _ _ rfl rfl rfl rfl rfl rfl rfl rfl
theorem ajW{p:Int}{l:List Ri}{x:Ri}(ox:OkI x)(ol:∀x∈l,OkI x)(hl:l.length<=100000):R F.model_sum [I p,am x,.sl 7 (bL l)] []=some (am (nv p x l),[]):=by
 refine ax Xp rfl ?_;have hL:=aeJ (p:=p) ol hl l 0 x ox rfl (axz _);generalize hLL:au (ai R (az false) mA) [0,4,6,9,10,11] [4,6]=L at hL;have hXL:∀s h,ai R (az false) (.loop [0,4,6,9,10,11] [4,6] mA) s h=L s h:=fun s h=>by rw[←hLL];rfl
 clear hLL;generalize nv p x l=z at hL⊢;have hL2:∀ (S:ak) (h:ac) (X:Option (Ex×St)),aj 0 [4,6] (L S h)=X->S 0=I p->S 4=.ref 4 none 0 0 0->S 6=.ref 6 none 0 0 0->S 9=.sl 7 (bL l)->S 10=I l.length->S 11=I 0->h 4=.bx (ao x)->h 6=.bx [B false,.emp,I 0,B false,.emp,I 0,B false]->
   ∃hh,X=some (.normal,⟨upd (upd (fun _=>.any) 6 (.ref 6 none 0 0 0)) 4 (.ref 4 none 0 0 0),hh⟩)/\hh 4=.bx (ao z)/\hh 6=.bx [B false,.emp,I 0,B false,.emp,I 0,B false]:=fun S h X hX a b c d e f i j=>by
  rw[←hX];exact hL S h a b c d e f i j
 simp only[Di,Lw,am,ao,go_sem,hXL];generalize hX2:aj 0 [4,6] (L _ _)=X;obtain⟨hh,g0,g4,g6⟩:=hL2 _ _ _ hX2 rfl rfl rfl rfl rfl rfl rfl rfl;rw[g0];simp only[ao]at g4;simp only[go_sem,g4,g6]
noncomputable def Ts (s:Rs) (q:Rp) (e:Int) (r:Ri):Rm:=
 if e=0 then(if(eM (cP q s.ord).1 s.p).2=0 then⟨(eM (cP q s.ord).1 s.p).1.1,cW r (cW (dH (cP q s.ord).2 s.dom s.p) (dH (eM (cP q s.ord).1 s.p).1.2 s.dom s.p) s.p) s.p⟩else fm s)else fm s
theorem Zu{s:Rs}{q:Rp}{e:Int}{r:Ri}(os:OkS s)(oq:OkP q)(or:OkI r)(h2:s.dom.length<=100000):R F.l25_cut [uM s,aO q,I e,am r] []=some (kO (Ts s q e r),[]):=by
 refine ax acO rfl ?_;have h0:=aEG (s:=s);have h1:=RR (o:=s.ord) oq;obtain⟨⟨c1,_⟩,c2,_⟩:=JW (o:=s.ord) oq;unfold Ts;generalize cP q s.ord=sp at h1 c1 c2⊢;have h3:=R7 (p:=s.p) (jR c1);obtain⟨r1,r2⟩:=JX (p:=s.p) (jR c1);generalize eM sp.1 s.p=rr at h3 r1 r2⊢;have h4:=E9 (jR c2) os h2;have h5:=E9 (jR r2.cl) os h2;have k4:=qK (p:=s.p) (jR c2) os.d h2;have k5:=qK (p:=s.p) (jR r2.cl) os.d h2;generalize dH sp.2 s.dom s.p=x at h4 k4⊢;simp only at h5 k5;generalize dH rr.1.2 s.dom s.p=y at h5 k5⊢;have h6:=HI (s:=s) k4.1 (l:=[y]) (fun z hz=>by rw[List.mem_singleton.1 hz];exact k5.1) (by simp);have h7:=HI (s:=s) or (l:=[cW x y s.p]) (fun z hz=>by rw[List.mem_singleton.1 hz];exact s6) (by simp);simp only[nv]at h6 h7;generalize cW x y s.p=z at h6 h7⊢;generalize cW r z s.p=t at h7⊢;generalize fm s=n at h0⊢;simp only[Wf,R6,aO,am,ao,bL,axp,axv]at h1 h3 h4 h5 h6 h7;by_cases g:e=0
 ·have f:(e=0)=True:=eq_true g;rw[if_pos g];by_cases g2:rr.2=0
  ·have f2:(rr.2=0)=True:=eq_true g2;rw[if_pos g2];simp only[yH,Ez,aO,am,ao,go_sem,h1,h3,h4,h5,h6,h7,f,f2]
  ·have f2:(rr.2=0)=False:=eq_false g2;rw[if_neg g2];simp only[yH,Ez,aO,am,ao,go_sem,h0,h1,h3,f,f2]
 ·have f:(e=0)=False:=eq_false g;rw[if_neg g];simp only[yH,Ez,aO,am,ao,go_sem,h0,h1,h3,f]
theorem Sd{s:Rs}{q:Rp}{e:Int}{r:Ri}(hq:e=0->vp q=true/\q.vars=s.dom.length):Ts s q e r=gr s q e r:=by
 unfold Ts gr wF;by_cases g:e=0
 ·obtain⟨h1,h2⟩:=hq g;rw[if_pos g,if_pos g];by_cases g2:(eM (cP q s.ord).1 s.p).2=0
  ·have hv:(eM (cP q s.ord).1 s.p).1.1.vars=s.dom.length:=by
    have e1:(cP q s.ord).1.vars=q.vars:=by unfold cP;rw[if_pos h1]
    unfold eM at g2⊢;split at g2
    ·split at g2
     ·cases g2
     ·split at g2
      ·cases g2
      ·rename_i k1 k2 _ _ hr;rw[if_pos k1,if_neg k2];exact e1.trans h2
    ·cases g2
   rw[if_pos g2,if_pos g2,if_pos rfl];generalize(eM (cP q s.ord).1 s.p).1.1=P at hv⊢;obtain⟨v,l⟩:=P;simp only at hv;subst hv;rfl
  ·rw[if_neg g2,if_neg g2,if_neg awW]
 ·rw[if_neg g,if_neg g]
noncomputable def adM (s:Rs) (a b:Rm):Rm:=if Ef s [a,b]=true then gr s (Cd a.P b.P).1 (Cd a.P b.P).2 (cW a.R b.R s.p)else fm s
noncomputable def azw (s:Rs) (a b:Rm):Rm:=if Ef s [a,b]=true then gr s (ayM a.P b.P).1 (ayM a.P b.P).2 (Ce a.R b.R s.p)else fm s
theorem OX{s:Rs}{l:List Rm}(h:Ef s l=true):mr s=true/\∀m∈l,uN s m=true:=by
 unfold Ef at h;simp only[awS,ax3,List.any_eq_false]at h;exact⟨h.1,fun m hm=>by have:=h.2 m hm;simpa using this⟩
theorem n9{s:Rs}(h:mr s=true):s.dom.length<=8/\bJ s.p=true:=by
 unfold mr at h;simp only[awS,decide_eq_true_eq]at h;exact⟨h.2.1,h.2.2.2.2.1⟩
theorem Eg{s:Rs}{m:Rm}(om:OkM m)(h:uN s m=true):OkP m.P/\vp m.P=true/\m.P.vars=s.dom.length/\vi m.R=true:=by
 unfold uN at h;simp only[awS,decide_eq_true_eq]at h;exact⟨Wq om.c h.2.1,h.2.1,h.2.2.1,h.2.2.2.2.1⟩
theorem two{α:Type}{p:α->Prop}{a b:α}(ha:p a)(hb:p b):∀m∈[a,b],p m:=fun m hm=>by
 simp at hm;rcases hm with rfl|rfl
 ·exact ha
 ·exact hb
theorem ajX{s:Rs}{a b:Rm}(os:OkS s)(oa:OkM a)(ob:OkM b):R F.model_Add [uM s,kO a,kO b] []=some (kO (adM s a b),[]):=by
 refine ax Xi rfl ?_;have h1:=M9 os (l:=[a,b]) (two oa ob) (by simp);have h2:=GC (s:=s);unfold adM;simp only[axp,axv]at h1;cases g:Ef s [a,b]with
 |false=>
  rw[g]at h1;generalize fm s=n at h2⊢;rw[if_neg awW];simp only[yF,Fq,go_sem,h1,h2]
 |true=>
  rw[g]at h1;obtain⟨q1,q2⟩:=OX g;obtain⟨a1,_⟩:=Eg oa (q2 a (by simp));obtain⟨b1,_⟩:=Eg ob (q2 b (by simp));have h3:=ai7 a1 b1;have h4:=vM oa.r ob.r (p:=s.p);have h5:=Na (e:=(Cd a.P b.P).2) (r:=cW a.R b.R s.p) os (ags a1 b1) s6 (by have:=(n9 q1).1;omega);generalize gr s (Cd a.P b.P).1 (Cd a.P b.P).2 (cW a.R b.R s.p)=z at h5⊢;generalize Cd a.P b.P=t at h3 h5;generalize cW a.R b.R s.p=x at h4 h5;rw[if_pos rfl];simp only[pV,aO,am,ao]at h3 h4 h5;simp only[yF,Fq,go_sem,h1,h3,h4,h5]
theorem Tt{x:Ri}(h:kI x=true):x.all=false/\vd x.lo=true/\vd x.hi=true:=by
 grind[kI,vi]
def HJ(x:Ri):Bool:=decide (20<x.lo.m.length)||decide (20<x.hi.m.length)
theorem ahY{x:Ri}:R F.l25_great_1 [am x] []=some (B (HJ x),[]):=by
 refine ax Ca rfl ?_;unfold HJ;by_cases g:20<x.lo.m.length
 ·have f:(20< (x.lo.m.length:Int))=True:=tt;rw[decide_eq_true g,axQ];simp only[uU,BT,am,ao,go_sem,f]
 ·have f:(20< (x.lo.m.length:Int))=False:=ff;have f2:(20< (x.hi.m.length:Int))=(20<x.hi.m.length):=by grind
  rw[decide_eq_false g,axY];simp only[uU,BT,am,ao,go_sem,f,f2]
theorem ami{t:Rt}:R F.l25_great_2_1 [.agg (bD t)] []=some (B (decide (20<t.c.m.length)),[]):=by
 refine ax zB rfl ?_;have f2:(20< (t.c.m.length:Int))=(20<t.c.m.length):=by grind
 simp only[xt,EA,bD,go_sem,f2]
def GD(m:Rm):Bool:=decide (40<m.P.terms.length)|| (HJ m.R||m.P.terms.any fun t=>decide (20<t.c.m.length))
abbrev oG1:Ob:=.bx [.fn F.l25_great_1 [] []]
theorem abV:OC oG1:=⟨fun _=>rfl,rfl,fun _=>rfl,rfl⟩
theorem aoB{m:Rm}(hn:m.P.terms.length<4611686018427387904):R F.l25_great_2 [kO m,.ref 1000 none 0 0 0] [oG1]=some (B (GD m),[oG1]):=by
 refine D3 SJ SI (DG false) rfl ?_;unfold GD;by_cases g:40<m.P.terms.length
 ·have f:(40< (m.P.terms.length:Int))=True:=tt;rw[decide_eq_true g,axQ];simp only[qf,w9,go_sem,f];exact rO rfl rfl rfl rfl rfl
 have f:(40< (m.P.terms.length:Int))=False:=ff;rw[decide_eq_false g,axY];have h1:=ahY (x:=m.R);have h2:R F.slices_ContainsFunc_api_Term_api_Term_ [.sl 4 (aH m.P.terms),.fn F.l25_great_2_1 [] []] []=some (B (m.P.terms.any fun t=>decide (20<t.c.m.length)),[]):=YX ahU (Frow:=bD) (f:=F.l25_great_2_1) (zB.1.2.1 false) hn (Ee _) fun t ht=>⟨.agg (bD t),rfl,rfl,by simp only[bD,go_sem];exact ami⟩;simp only[am,ao]at h1;cases g2:HJ m.R with
 |true=>
  rw[g2]at h1;simp only[qf,w9,go_sem,f,h1];exact rO rfl rfl rfl rfl rfl
 |false=>
  rw[g2]at h1;simp only[qf,w9,go_sem,f,h1,h2];exact rO rfl rfl rfl rfl rfl
def JZ(s:Rs)(l:List Rm):Bool:=(decide (3< (s.dom.length:Int))&&decide ((s.dom.length:Int)<=8))|| ((decide (6<s.ord)&&decide (s.ord<=16))|| ((decide (64<s.p)&&decide (s.p<=512))|| (decide (100< (s.dom.length:Int))|| (s.dom.any HJ||l.any GD))))
theorem pr3(x y:Bool):x=false\/x=true/\y=false\/x=true/\y=true:=by cases x<;>cases y<;>simp
theorem abW{s:Rs}{l:List Rm}(os:OkS s)(om:∀m∈l,OkM m)(hl:l.length<4611686018427387904):R F.l25_great [uM s,.sl 9 (R8 l)] []=some (B (JZ s l),[]):=by
 refine ax Xh rfl ?_;have h1:R F.slices_ContainsFunc_api_Interval_api_Interval_ [.sl 7 (bL s.dom),.fn F.l25_great_1 [] []] []=some (B (s.dom.any HJ),[]):=YX ama (Frow:=ao) (f:=F.l25_great_1) (Ca.1.2.1 false) os.n (Yw _) fun x hx=>⟨am x,rfl,rfl,by rw[Ca.1.1];simp only[am,ao,go_sem];exact ahY⟩;have h2:=KD amd (Frow:=fun m=>OV m) (l:=l) (q:=GD) abV (If false) (DG false) hl (KS _) fun m hm=>⟨kO m,kO m,rfl,rfl,rfl,by rw[Px];simp only[go_sem,Ee],aoB (om m hm).n⟩;have h2':=fun(h:ac) (d:Nat) (hh:h 5=oG1) (hf:h (2000+8*d)=.dead)=>D4 (f:=F.slices_ContainsFunc_api_Model_api_Model_) (g:=F.l25_great_2) (h:=h) (d:=d) (id:=5) (zas:=[.sl 9 (R8 l)]) (as':=[.sl 9 (R8 l)]) (aX.1.2.1 false) (aX.1.2.2.2 false)
  (by rw[aX.1.1];simp only[go_sem,KS,axM,axc]) rfl rfl hh abV abV (fun h=>h) h2 (V0 _) (axJ rfl) (by grind[cw,cz,bS])
 simp only[axM,axc,go_sem]at h2';unfold JZ;generalize s.dom.any HJ=b1 at h1⊢;generalize l.any GD=b2 at h2'⊢;generalize d1:decide (3< (s.dom.length:Int))=x1;generalize d2:decide ((s.dom.length:Int)<=8)=x2;generalize d3:decide (6<s.ord)=x3;generalize d4:decide (s.ord<=16)=x4;generalize d5:decide (64<s.p)=x5;generalize d6:decide (s.p<=512)=x6;generalize d7:decide (100< (s.dom.length:Int))=x7;rcases pr3 x1 x2 with rfl| ⟨rfl,rfl⟩| ⟨rfl,rfl⟩
 case inr.inr=>simp only[kE,pp,go_sem,d1,d2,axm,axQ]
 all_goals
  rcases pr3 x3 x4 with rfl| ⟨rfl,rfl⟩| ⟨rfl,rfl⟩
  case inr.inr=>simp only[kE,pp,go_sem,d1,d2,d3,d4,axm,axQ,Bool.or_true]
  all_goals
   rcases pr3 x5 x6 with rfl| ⟨rfl,rfl⟩| ⟨rfl,rfl⟩
   case inr.inr=>simp only[kE,pp,go_sem,d1,d2,d3,d4,d5,d6,axm,axQ,Bool.or_true]
   all_goals
    cases x7 with
    |true=>simp only[kE,pp,go_sem,d1,d2,d3,d4,d5,d6,d7,axm,axQ,Bool.or_true]
    |false=>
     cases b1 with
     |true=>simp only[kE,pp,go_sem,d1,d2,d3,d4,d5,d6,d7,h1,axm,axQ,Bool.or_true]
     |false=>
      simp only[kE,pp,go_sem,d1,d2,d3,d4,d5,d6,d7,h1];rw[h2' _ _ rfl rfl];simp only[go_sem]
noncomputable def Nb (s:Rs) (a b:Rm):Rm:=if Ef s [a,b]=true then gr s (jJ a.P b.P).1 (jJ a.P b.P).2 (nv s.p (ce (dH a.P s.dom s.p) b.R s.p) [ce (dH b.P s.dom s.p) a.R s.p,ce a.R b.R s.p])else fm s
theorem QA{s:Rs}{a b:Rm}(os:OkS s)(oa:OkM a)(ob:OkM b):R F.model_Mul [uM s,kO a,kO b] []=some (kO (Nb s a b),[]):=by
 refine ax Xj rfl ?_;have h1:=M9 os (l:=[a,b]) (two oa ob) (by simp);have h2:=GC (s:=s);unfold Nb;simp only[axp,axv]at h1;cases g:Ef s [a,b]with
 |false=>
  rw[g]at h1;simp only[yG,Fr,go_sem,h1,h2]
 |true=>
  rw[g]at h1;obtain⟨q1,q2⟩:=OX g;obtain⟨a1,_⟩:=Eg oa (q2 a (by simp));obtain⟨b1,_⟩:=Eg ob (q2 b (by simp));have hl:s.dom.length<=100000:=by grind[n9]
  have h3:=YW a1 b1;have r1:=BJ (p:=s.p) a1 os.d hl;have r2:=BJ (p:=s.p) b1 os.d hl;have k1:=(qK (p:=s.p) a1 os.d hl).1;have k2:=(qK (p:=s.p) b1 os.d hl).1;generalize dH a.P s.dom s.p=x at r1 k1⊢;generalize dH b.P s.dom s.p=y at r2 k2⊢;have m1:=vO k1 ob.r (p:=s.p);have m2:=vO k2 oa.r (p:=s.p);have m3:=vO oa.r ob.r (p:=s.p);have h4:=ajW (p:=s.p) (x:=ce x b.R s.p) (l:=[ce y a.R s.p,ce a.R b.R s.p]) kn (two kn kn) (by simp);have h5:=Na (q:=(jJ a.P b.P).1) (e:=(jJ a.P b.P).2) (r:=nv s.p (ce x b.R s.p) [ce y a.R s.p,ce a.R b.R s.p]) os (MZ a1 b1) (Qz kn) hl;simp only[pV,aO,am,ao]at h3 h5 r1 r2 m1 m2 m3;simp only[am,ao,bL,axp,axv]at h4;simp only[yG,Fr,go_sem,h1,h3,h4,h5,r1,r2,m1,m2,m3]
theorem amk:∃W:Int,∀n:Nat,n≠0->zI (bm false n 0)=n*W:=by
 refine⟨((2^16384:Nat):Int),fun n hn=>?_⟩;obtain⟨q1,q2,_,_⟩:=rL (neg:=false) (e:=0) hn;obtain⟨t1,_⟩:=sT hn;have hneg:(bm false n 0).neg=false:=by rw[iw hn]
 unfold zI mg;rw[hneg,if_neg awW,q1,q2];have ht:((0:Int)+(tz n:Int)+16384).toNat=tz n+16384:=by omega
 rw[ht];generalize 16384=k;rw[axa,←axn,axf (n/2^tz n),←t1,aFX]
theorem Zw{x y:Ri}{p:Int}:OkI (Ce x y p):=s6
theorem J0{s:Rs}:OkI (fm s).R/\vi (fm s).R=true/\Cl (fm s).P.vars (fm s).P.terms/\(fm s).P.terms.length<=100000:=⟨MR.ok',rfl,Cl.nil _,axz _⟩
theorem ah0{d:Rd}(h:z0 d=true):d=aI:=by
 obtain⟨n,m,e⟩:=d;unfold z0 at h;simp only[awS,ax3,decide_eq_true_eq]at h;obtain⟨h1,h2,h3⟩:=h;subst h1 h3;rw[List.length_eq_zero_iff.1 h2];rfl
theorem HL{x:Ri}(ox:OkI x)(v:vi x=true):∃q,In q x:=by
 cases ha:x.all with
 |true=>
  refine⟨0,Or.inl ?_⟩;unfold vi at v;rw[ha]at v;simp at v;obtain⟨l,h,a⟩:=x;simp only at v ha;rw[ah0 v.1,ah0 v.2,ha];rfl
 |false=>
  have hk:kI x=true:=by grind[kI]
  obtain⟨_,h1,h2⟩:=Tt hk;exact⟨qv x.lo,Or.inr ⟨ha,⟨⟨h1,ox.lo⟩,h2,ox.hi⟩,Rat.le_refl,zM.2 (ahL hk).2.2.1⟩⟩
theorem ahj{s:Rs}{q:Rp}{e:Int}{r:Ri}(oq:OkP q)(os:OkS s)(hl:s.dom.length<=100000)(hv:e=0->vp q=true->q.vars=s.dom.length)(ir:∃q,In q r):OkI (gr s q e r).R/\vi (gr s q e r).R=true/\Cl (gr s q e r).P.vars (gr s q e r).P.terms/\(gr s q e r).P.terms.length<=100000:=by
 unfold gr;split
 ·rename_i he;have hv:=hv he;split
  ·rename_i hc;obtain⟨⟨c1,_⟩,c2,_⟩:=JW (o:=s.ord) oq;obtain⟨r1,r2⟩:=JX (p:=s.p) (jR c1);unfold wF at hc⊢;split at hc
   ·rename_i h0;rw[if_pos h0];have k4:=qK (p:=s.p) (jR c2) os.d hl;have k5:=qK (p:=s.p) (jR r2.cl) os.d hl;obtain⟨q4,i4⟩:=HL k4.1 k4.2;obtain⟨q5,i5⟩:=HL k5.1 k5.2;obtain⟨q6,i6⟩:=ir;have ii:=n7 (p:=s.p) i6 (n7 (p:=s.p) i4 i5);refine⟨ii.ok,ii.v,?_,r1.len⟩;have hcl:=r1.cl;cases hq:vp q with
    |true=>
     have e1:(cP q s.ord).1.vars=q.vars:=by simp_all[cP,if_pos]
     have e2:(eM (cP q s.ord).1 s.p).1.1.vars=q.vars:=by
      unfold eM at h0⊢;grind
     rw[←hv hq,←e2];omega
    |false=>
     have e1:(cP q s.ord).1=p0:=by simp_all[cP,if_neg]
     have e2:(eM p0 s.p).1.1.terms=[]:=by
      unfold eM;split
      ·split
       ·rfl
       ·rfl
      ·rfl
     grind[Cl.nil]
   grind
  ·exact J0
 ·exact J0
theorem Se{s:Rs}{q:Rp}{e:Int}{r:Ri}(oq:OkP q)(os:OkS s)(hl:s.dom.length<=100000)(hv:e=0->vp q=true->q.vars=s.dom.length)(ir:∃q,In q r):R F.l25_same [kO (gr s q e r),kO (gr s q e r)] []=some (B true,[]):=by
 grind[ahj,Sc]
theorem aeN{s:Rs}:R F.l25_same [kO (fm s),kO (fm s)] []=some (B true,[]):=by
 grind[J0,Sc]
theorem azP{s:Rs}{a b:Rm}(os:OkS s)(oa:OkM a)(ob:OkM b):R F.model_Sub [uM s,kO a,kO b] []=some (kO (azw s a b),[]):=by
 refine ax ayB rfl ?_;have h1:=M9 os (l:=[a,b]) (two oa ob) (by simp);have h2:=GC (s:=s);unfold azw;simp only[axp,axv]at h1;cases g:Ef s [a,b]with
 |false=>
  rw[g]at h1;generalize fm s=n at h2⊢;rw[if_neg awW];simp only[aoO,awa,go_sem,h1,h2]
 |true=>
  rw[g]at h1;obtain⟨q1,q2⟩:=OX g;obtain⟨a1,_⟩:=Eg oa (q2 a (by simp));obtain⟨b1,_⟩:=Eg ob (q2 b (by simp));have h3:=azg a1 b1;have h4:=Qm oa.r ob.r (p:=s.p);have h5:=Na (e:=(ayM a.P b.P).2) (r:=Ce a.R b.R s.p) os (ay5 a1 b1) Zw (by have:=(n9 q1).1;omega);generalize gr s (ayM a.P b.P).1 (ayM a.P b.P).2 (Ce a.R b.R s.p)=z at h5⊢;generalize ayM a.P b.P=t at h3 h5;generalize Ce a.R b.R s.p=x at h4 h5;rw[if_pos rfl];simp only[pV,aO,am,ao]at h3 h4 h5;simp only[aoO,awa,go_sem,h1,h3,h4,h5]
noncomputable def azx (s:Rs) (a:Rm):Rm:=if Ef s [a]=true then(if(gy a.P tp).2=0 then⟨(gy a.P tp).1,M0 a.R⟩else fm s)else fm s
theorem azt{α:Type}{p:α->Prop}{a:α}(ha:p a):∀m∈[a],p m:=fun m hm=>by rw[List.mem_singleton.1 hm];exact ha
theorem azQ{s:Rs}{a:Rm}(os:OkS s)(oa:OkM a):R F.model_Neg [uM s,kO a] []=some (kO (azx s a),[]):=by
 refine ax ayC rfl ?_;have h1:=M9 os (l:=[a]) (azt oa) (by simp);have h2:=GC (s:=s);unfold azx;simp only[axp,axv]at h1;cases g:Ef s [a]with
 |false=>
  rw[g]at h1;generalize fm s=n at h2⊢;rw[if_neg awW];simp only[aqb,awc,go_sem,h1,h2]
 |true=>
  rw[g]at h1;obtain⟨q1,q2⟩:=OX g;obtain⟨a1,_⟩:=Eg oa (q2 a (by simp));have h0:=ajN;have h3:=RQ a1 Zo.2;have h4:=ajj oa.r;generalize fm s=n at h2⊢;generalize hm:tp=mo at h0 h3⊢;generalize gy a.P mo=t at h3⊢;generalize M0 a.R=x at h4⊢;rw[if_pos rfl];simp only[pV,aO,am,ao,ae,ah]at h0 h3 h4;by_cases g2:t.2=0
  ·have f:(t.2=0)=True:=eq_true g2;rw[if_pos g2];simp only[aqb,awc,go_sem,h0,h1,h3,h4,f]
  ·have f:(t.2=0)=False:=eq_false g2;rw[if_neg g2];simp only[aqb,awc,go_sem,h0,h1,h2,h3,f]
noncomputable def azy (s:Rs) (a:Rm) (r:Ri):Rm:=if Ef s [a]=true then⟨a.P,cW a.R r s.p⟩else fm s
theorem azp{s:Rs}{a:Rm}{r:Ri}(os:OkS s)(oa:OkM a)(or:OkI r):R F.model_Widen [uM s,kO a,am r] []=some (kO (azy s a r),[]):=by
 refine ax ayj rfl ?_;have h1:=M9 os (l:=[a]) (azt oa) (by simp);have h2:=GC (s:=s);unfold azy;simp only[axp,axv]at h1;cases g:Ef s [a]with
 |false=>
  rw[g]at h1;generalize fm s=n at h2⊢;rw[if_neg awW];simp only[akx,aqu,am,ao,go_sem,h1,h2]
 |true=>
  rw[g]at h1;have h4:=vM oa.r or (p:=s.p);generalize cW a.R r s.p=x at h4⊢;rw[if_pos rfl];simp only[am,ao]at h4;simp only[akx,aqu,am,ao,go_sem,h1,h4]
noncomputable def azz (s:Rs) (a:Rm):Ri:=if Ef s [a]=true then cW (dH a.P s.dom s.p) a.R s.p else dN
theorem azq{s:Rs}{a:Rm}(os:OkS s)(oa:OkM a):R F.model_Bound [uM s,kO a] []=some (am (azz s a),[]):=by
 refine ax ayi rfl ?_;have h1:=M9 os (l:=[a]) (azt oa) (by simp);have h2:=lC;unfold azz;simp only[axp,axv]at h1;cases g:Ef s [a]with
 |false=>
  rw[g]at h1;rw[if_neg awW];simp only[am,ao,dN,aI]at h2;simp only[akv,aqt,am,ao,dN,aI,go_sem,h1,h2]
 |true=>
  rw[g]at h1;obtain⟨q1,q2⟩:=OX g;obtain⟨a1,_⟩:=Eg oa (q2 a (by simp));have hl:s.dom.length<=100000:=by have:=(n9 q1).1;omega
  have h3:=BJ (p:=s.p) a1 os.d hl;have k1:=(qK (p:=s.p) a1 os.d hl).1;generalize dH a.P s.dom s.p=x at h3 k1⊢;have h4:=vM k1 oa.r (p:=s.p);generalize cW x a.R s.p=z at h4⊢;rw[if_pos rfl];simp only[aO,am,ao]at h3 h4;simp only[akv,aqt,am,ao,go_sem,h1,h3,h4]
def ayY:List Ri->List Ri->Bool
 |x::l,y::m=>lF x y&&ayY l m
 |_,_=>true
theorem azR{x d:List Ri}(ox:∀a∈x,OkI a)(od:∀a∈d,OkI a)(hx:x.length<4611686018427387904)(he:x.length=d.length):∀ (rx rd:List Ri) (n:Nat),x.drop n=rx->d.drop n=rd->n<=x.length->∀ (S:ak) (h:ac),S 1=.sl 7 (bL d)->S 2=.fn F.interval_Inside [] []->S 15=.sl 7 (bL x)->S 16=I x.length->S 17=I n->
  ∃hh,aj 0 [] (au (ai R (az false) adZ) [1,2,15,16,17] [] S h)=if ayY rx rd=true then some (.normal,⟨fun _=>.any,hh⟩)else some (.ret,⟨upd (fun _=>.any) 6 (B false),hh⟩):=by
 intro rx;induction rx with
 |nil=>
  intro rd n hd1 hd2 hn S h h1 h2 h15 h16 h17;have e:n=x.length:=by
   have:=congrArg List.length hd1;grind
  subst e;rw[ag];refine⟨?hh0,?_⟩;rotate_left
  ·simp only[adZ,go_sem,h1,h2,h15,h16,h17,axU];rfl
 |cons a rx ih=>
  intro rd n hd1 hd2 hn S h h1 h2 h15 h16 h17;have hlt:n<x.length:=by
   grind
  have ra:x[n]?=some a:=by
   have:=congrArg (·[0]?) hd1;grind
  have hb:∃b,d[n]?=some b:=⟨d[n]'(by omega),List.getElem?_eq_getElem (by omega)⟩;obtain⟨b,rb⟩:=hb;have hrd:rd=b::d.drop (n+1):=by
   grind[axh,Option.some.injEq]
  subst hrd;have ih':=ih (d.drop (n+1)) (n+1) (by rw[←List.drop_drop,hd1];rfl) rfl hlt;have e1:((n:Int)< (x.length:Int))=True:=tt;have e2:aW (bL x) (n:Int)=some (.ipt (ao a)):=CR rfl ra;have e3:aW (bL d) (n:Int)=some (.ipt (ao b)):=CR rfl rb;have e4:IntKind.i64.wrap ((n:Int)+1)=((n+1:Nat):Int):=by grind[i64_in]
  have v1:=JV (ox a (List.mem_of_getElem? ra)) (od b (List.mem_of_getElem? rb));rw[ag,show ayY (a::rx) (b::d.drop (n+1))=(lF a b&&ayY rx (d.drop (n+1)))from rfl];simp only[am,ao]at e2 e3 v1;cases g:lF a b with
  |false=>
   rw[g]at v1;refine⟨?hh1,?_⟩;rotate_left
   ·simp only[adZ,go_sem,h1,h2,h15,h16,h17,e1,e2,e3,v1];rfl
  |true=>
   rw[g]at v1;simp only[adZ,go_sem,h1,h2,h15,h16,h17,e1,e2,e3,e4,v1];exact ih' _ _ rfl rfl rfl rfl rfl
def ay8(x d:List Ri):Bool:=decide (x.length=d.length)&&ayY x d
theorem az3{x d:List Ri}(ox:∀a∈x,OkI a)(od:∀a∈d,OkI a)(hx:x.length<4611686018427387904):R F.slices_EqualFunc_api_Interval_Sapi_Interval_api_Interval_api_Interval_ [.sl 7 (bL x),.sl 7 (bL d),.fn F.interval_Inside [] []] []=some (B (ay8 x d),[]):=by
 refine ax ahZ rfl ?_;unfold ay8;by_cases he:x.length=d.length
 ·have f:((x.length:Int)=(d.length:Int))=True:=tt;rw[decide_eq_true he,awT];have hL:=azR ox od hx he x d 0 rfl rfl (axz _);generalize hLL:au (ai R (az false) adZ) [1,2,15,16,17] []=L at hL;have hXL:∀s h,ai R (az false) (.loop [1,2,15,16,17] [] adZ) s h=L s h:=fun s h=>by rw[←hLL];rfl
  have hL2:∀ (S:ak) (h:ac) (X:Option (Ex×St)),aj 0 [] (L S h)=X->S 1=.sl 7 (bL d)->S 2=.fn F.interval_Inside [] []->S 15=.sl 7 (bL x)->S 16=I x.length->S 17=I 0->
    ∃hh,X=if ayY x d=true then some (.normal,⟨fun _=>.any,hh⟩)else some (.ret,⟨upd (fun _=>.any) 6 (B false),hh⟩):=fun S h X hX a b c d e=>by
   rw[←hX];exact hL S h a b c d e
  simp only[aem,ahD,go_sem,f,hXL];generalize hX2:aj 0 [] (L _ _)=X;obtain⟨hh,g0⟩:=hL2 _ _ _ hX2 rfl rfl rfl rfl rfl;rw[g0];cases ayY x d with
  |true=>
   simp only[go_sem]
  |false=>
   simp only[go_sem]
 ·have f:((x.length:Int)=(d.length:Int))=False:=ff;rw[decide_eq_false he,awU];simp only[aem,ahD,go_sem,f]
noncomputable def azA (s:Rs) (a:Rm) (x:List Ri):Ri:=if(Ef s [a]&&ay8 x s.dom)=true then cW (dH a.P x s.p) a.R s.p else dN
theorem azB{s:Rs}{a:Rm}{x:List Ri}(os:OkS s)(oa:OkM a)(ox:∀b∈x,OkI b)(hx:x.length<=100000):R F.model_Eval [uM s,kO a,.sl 7 (bL x)] []=some (am (azA s a x),[]):=by
 refine ax ayn rfl ?_;have h1:=M9 os (l:=[a]) (azt oa) (by simp);have h2:=lC;unfold azA;simp only[axp,axv]at h1;cases g:Ef s [a]with
 |false=>
  rw[g]at h1;simp only[alz,aqw,am,ao,dN,aI,go_sem,h1,h2]
 |true=>
  rw[g]at h1;have h5:=az3 ox os.d (by omega);cases g2:ay8 x s.dom with
  |false=>
   rw[g2]at h5;simp only[alz,aqw,am,ao,dN,aI,go_sem,h1,h2,h5]
  |true=>
   rw[g2]at h5;obtain⟨q1,q2⟩:=OX g;obtain⟨a1,_⟩:=Eg oa (q2 a (by simp));have h3:=BJ (p:=s.p) a1 ox hx;have k1:=(qK (p:=s.p) a1 ox hx).1;have h4:=vM k1 oa.r (p:=s.p);simp only[aO,am,ao]at h3 h4;simp only[alz,aqw,am,ao,go_sem,h1,h3,h4,h5]
theorem ab0{z:Int}{k:Nat}{e:Int}:cM (z*((2^k:Nat):Int)) e=cM z (e+k):=by
 have hp:0< ((2^k:Nat):Int):=Int.natCast_pos.2 (axb k);generalize hP:(2^k:Nat)=P at hp;grind[Int.mul_nonneg,Int.le_of_lt,Int.mul_neg_of_neg_of_pos,cM,Int.natAbs_mul,Int.natAbs_natCast,jk]
theorem azS:∃k:Nat,(k:Int)=16384/\zI tp=-((2^k:Nat):Int):=by
 refine⟨(tp.e+16384).toNat,by simp[tp],?_⟩;grind[zI,tp,bB,mg,ab]
theorem azr{v:Int}{t:Rt}(h:VT v t):dt t.c tp=((ayL t).c,0):=by
 have g:=ay0 h;unfold dt;rw[h.vc,Zo.1,axm,if_pos rfl];obtain⟨k,hk,hz⟩:=azS;have e:zI t.c*-((2^k:Nat):Int)=zI (ayL t).c*((2^k:Nat):Int):=by
  rw[aza,Int.mul_neg,Int.neg_mul]
 rw[hz,e,ab0,show(-32768:Int)+k=-16384 by omega,AL g.c g.vc,DZ g.vc]
theorem ayZ{v:Int}:∀ {ts:List Rt},Cl v ts->wE tp ts=some (ts.map ayL)
 |[],_=>rfl
 |t::ts,c=>by
  obtain⟨vt,_,c2⟩:=c.cons;unfold wE;rw[azr vt,if_pos rfl,ayZ c2];rfl
theorem ay2{a:Rp}(oa:OkP a)(va:vp a=true):gy a tp=(⟨a.vars,a.terms.map ayL⟩,0):=by
 unfold gy;rw[if_pos ⟨va,Zo.1⟩,if_neg (show¬tp.m.length=0 by decide),ayZ (il oa va).1]
theorem Sf{s:Rs}{l:List Rm}(h:JZ s l=false):∀m∈l,m.P.terms.length<=40/\∀t∈m.P.terms,t.c.m.length<=100000:=by
 unfold JZ at h;simp only[Bool.or_eq_false_iff]at h;intro m hm;have:=List.any_eq_false.1 h.2.2.2.2.2 m hm;unfold GD at this;simp only[Bool.or_eq_true,not_or,decide_eq_true_eq,List.any_eq_true,not_exists,not_and]at this;exact⟨by omega,fun t ht=>by have:=this.2.2 t ht;omega⟩
theorem ajY{s:Rs}{a b:Rm}(h1:uN s a=true)(h2:uN s b=true):Ef s [a,b]=true/\Ef s [a]=true:=by
 have:mr s=true:=by unfold uN at h1;simp only[awS]at h1;exact h1.1
 unfold Ef;simp[this,h1,h2]
theorem az4{x:Ri}:R F.l25_ModelSums_1 [am x] []=some (B (HJ x),[]):=by
 refine ax ayW rfl ?_;unfold HJ;by_cases g:20<x.lo.m.length
 ·have f:(20< (x.lo.m.length:Int))=True:=tt;rw[decide_eq_true g,axQ];simp only[ayN,ayV,am,ao,go_sem,f]
 ·have f:(20< (x.lo.m.length:Int))=False:=ff;have f2:(20< (x.hi.m.length:Int))=(20<x.hi.m.length):=by simp only[eq_iff_iff];omega
  rw[decide_eq_false g,axY];simp only[ayN,ayV,am,ao,go_sem,f,f2]
def pwX(x d:Ri):Bool:=vi x&& (!x.all&&lF x d)
def pwL:List Ri->List Ri->Bool
 |x::l,y::m=>pwX x y&&pwL l m
 |_,_=>true
theorem azT{x d:List Ri}{n:Nat}(h:n=min x.length d.length):pwL (x.drop n) (d.drop n)=true:=by
 by_cases g:x.length<=d.length
 ·rw[axi (show x.length<=n by omega)];cases d.drop n<;>rfl
 ·rw[axi (show d.length<=n by omega)];cases x.drop n<;>rfl
theorem azU{s:Rs}{a:Rm}{x:List Ri}(od:∀y∈s.dom,OkI y)(ox:∀y∈x,OkI y)(hx:x.length<=100000):∀ (k n:Nat) (b:Bool),n+k=min x.length s.dom.length->∀ (S:ak) (h:ac),S 3=.sl 7 (bL x)->S 4=.ref 4 none 0 0 0->S 5=.ref 5 none 0 0 0->S 17=B b->S 171=I (min x.length s.dom.length:Nat)->S 172=I n->h 4=.bx (Ed s)->h 5=.bx (OV a)->
  ∃hh,aj 0 [3,4,5,17] (au (ai R (az false) ayr) [3,4,5,17,171,172] [4,5] S h)=some (.normal,⟨upd (upd (upd (upd (fun _=>.any) 17 (B (b&&pwL (x.drop n) (s.dom.drop n)))) 5 (.ref 5 none 0 0 0)) 4 (.ref 4 none 0 0 0)) 3 (.sl 7 (bL x)),hh⟩)/\hh 4=.bx (Ed s)/\hh 5=.bx (OV a)/\∀i,i≠4->i≠5->hh i=.dead:=by
 intro k;induction k with
 |zero=>
  intro n b hn S h h3 h4 h5 h17 h171 h172 k4 k5;rw[axo]at hn;rw[←hn]at h171;rw[azT hn,Bool.and_true,ag];refine⟨?hh0,?_,?_,?_,?_⟩;rotate_left
  ·simp only[ayr,go_sem,h3,h4,h5,h17,h171,h172,k4,k5,axU];rfl
  ·rfl
  ·rfl
  ·intro i a1 a2;simp only[azJ,a1,a2,if_false]
 |succ k ih=>
  intro n b hn S h h3 h4 h5 h17 h171 h172 k4 k5;have hl1:n<x.length:=by omega
  have hl2:n<s.dom.length:=by omega
  generalize hm:min x.length s.dom.length=m at hn h171;have e1:((n:Int)< (m:Int))=True:=tt;have ra:x[n]?=some x[n]:=List.getElem?_eq_getElem hl1;have rb:s.dom[n]?=some s.dom[n]:=List.getElem?_eq_getElem hl2;have e2:aW (bL x) (n:Int)=some (.ipt (ao x[n])):=CR rfl ra;have e3:aW (bL s.dom) (n:Int)=some (.ipt (ao s.dom[n])):=CR rfl rb;have e4:IntKind.i64.wrap ((n:Int)+1)=((n+1:Nat):Int):=by grind[i64_in]
  have v0:=mj (ox x[n] (axr hl1));have v1:=JV (ox x[n] (axr hl1)) (od s.dom[n] (axr hl2));have ih':=ih (n+1) (b&&pwX x[n] s.dom[n]) (by omega);rw[hm]at ih';rw[ag,axh hl1,axh hl2,show pwL (x[n]::x.drop (n+1)) (s.dom[n]::s.dom.drop (n+1))=(pwX x[n] s.dom[n]&&pwL (x.drop (n+1)) (s.dom.drop (n+1)))from rfl,←Bool.and_assoc];unfold pwX at ih'⊢;generalize au _ _ _=L at ih'⊢;generalize pwL _ _=w at ih'⊢;generalize x[n]=xn at*
  generalize s.dom[n]=dn at*
  simp only[am,ao]at e2 e3 v0 v1;cases b with
  |false=>
   simp only[ayr,go_sem,h3,h4,h5,h17,h171,h172,k4,k5,e1,e4,awU];exact ih' _ _ rfl rfl rfl rfl rfl rfl rfl rfl
  |true=>
  rw[awT]at ih'⊢;cases g1:vi xn with
  |false=>
   rw[g1]at v0 ih';simp only[ayr,go_sem,h3,h4,h5,h17,h171,h172,k4,k5,e1,e2,e4,v0,awU];exact ih' _ _ rfl rfl rfl rfl rfl rfl rfl rfl
  |true=>
  rw[g1]at v0 ih';cases g2:xn.all with
  |true=>
   rw[g2]at v0 ih' e2;simp only[ayr,go_sem,h3,h4,h5,h17,h171,h172,k4,k5,e1,e2,e4,v0,awT,Bool.not_true,awU];exact ih' _ _ rfl rfl rfl rfl rfl rfl rfl rfl
  |false=>
  rw[g2]at v0 ih' e2 v1;generalize lF xn dn=bi at v1 ih'⊢;simp only[ayr,go_sem,h3,h4,h5,h17,h171,h172,k4,k5,e1,e2,e3,e4,v0,v1,awT,axZ];exact ih' _ _ rfl rfl rfl rfl rfl rfl rfl rfl
theorem az5{x y:Ri}(h:y.all=false):pwX x y=lF x y:=by
 grind[pwX,g1,vi,amh]
theorem azs:∀ {x d:List Ri},(∀y∈d,y.all=false)->pwL x d=ayY x d
 |[],[],_=>rfl
 |[],_::_,_=>rfl
 |_::_,[],_=>rfl
 |x::l,y::m,h=>by
  show(pwX x y&&pwL l m)=(lF x y&&ayY l m);rw[az5 (h y (by simp)),azs fun z hz=>h z (by simp[hz])]
theorem azV{s:Rs}(h:mr s=true):∀y∈s.dom,y.all=false:=by
 unfold mr at h;grind[amh,lh]
theorem az6{s:Rs}{x:List Ri}(h:mr s=true):ay8 x s.dom=(decide ((x.length:Int)=(s.dom.length:Int))&&pwL x s.dom):=by
 unfold ay8;rw[azs (azV h)];grind
theorem azv{s:Rs}{a b:Rm}(h:(uN s a&&uN s b)=false):Ef s [a,b]=false:=by
 unfold Ef;rw[List.any_cons,List.any_cons,List.any_nil];revert h;cases uN s a<;>cases uN s b<;>simp
theorem azC{s:Rs}{a b:Rm}{x:List Ri}(haw:R F.l25_awake [] []=some (B true,[]))(os:OkS s)(oa:OkM a)(ob:OkM b)(ox:∀y∈x,OkI y):R F.l25_ModelSums [uM s,kO a,kO b,.sl 7 (bL x)] []=some (B true,[]):=by
 refine ax ay7 rfl ?_;have hg:=abW os (l:=[a,b]) (two oa ob) (by simp);simp only[axp,axv]at hg;cases g0:JZ s [a,b]with
 |true=>
  rw[g0]at hg;simp only[ayJ,ayK,go_sem,haw,hg]
 |false=>
 rw[g0]at hg;by_cases g1:10< (x.length:Int)
 case pos=>
  have f1:(10< (x.length:Int))=True:=eq_true g1;simp only[ayJ,ayK,go_sem,haw,hg,f1]
 have f1:(10< (x.length:Int))=False:=eq_false g1;have hlo:R F.slices_ContainsFunc_api_Interval_api_Interval_ [.sl 7 (bL x),.fn F.l25_ModelSums_1 [] []] []=some (B (x.any HJ),[]):=YX ama (Frow:=ao) (f:=F.l25_ModelSums_1) (q:=HJ) (ayW.1.2.1 false) (by omega) (Yw _) fun y hy=>⟨am y,rfl,rfl,by rw[ayW.1.1];simp only[am,ao,go_sem];exact az4⟩;cases g2:x.any HJ with
 |true=>
  rw[g2]at hlo;simp only[ayJ,ayK,go_sem,haw,hg,f1,hlo]
 |false=>
 rw[g2]at hlo;have hpr:=aeH os oa ob (Sf g0 a (by simp)).2 (Sf g0 b (by simp)).2;have hadd:=ajX os oa ob;have hsub:=azP os oa ob;unfold adM at hadd;unfold azw at hsub;cases g3:uN s a&&uN s b with
 |false=>
  rw[g3]at hpr;rw[azv g3,if_neg awW]at hadd hsub;have hnone:=aEG (s:=s);have hsn:=aeN (s:=s);generalize fm s=n at*
  simp only[ayJ,ayK,go_sem,haw,hg,f1,hlo,hpr,hadd,hsub,hnone,hsn]
 |true=>
 rw[g3]at hpr;rw[awS]at g3;obtain⟨va,vb⟩:=g3;obtain⟨e2,e1⟩:=ajY va vb;rw[if_pos e2]at hadd hsub;have hsp:=(OX e1).1;have hs8:=n9 hsp;have hl:s.dom.length<=100000:=by omega
 have hxl:x.length<=100000:=by omega
 obtain⟨a1,a2,a3,a4⟩:=Eg oa va;obtain⟨b1,b2,b3,b4⟩:=Eg ob vb;obtain⟨ca,_,_,al⟩:=il a1 a2;obtain⟨_,ja⟩:=HL oa.r a4;obtain⟨_,jb⟩:=HL ob.r b4;have h3:=ai7 a1 b1;have h4:=azg a1 b1;have s1:=HI (s:=s) (x:=a.R) (l:=[b.R]) oa.r (azt ob.r) (by simp);have s2:=Qm oa.r ob.r (p:=s.p);have hq1:(Cd a.P b.P).2=0->vp (Cd a.P b.P).1=true/\(Cd a.P b.P).1.vars=s.dom.length:=fun h=>by
  obtain⟨_,_,pv,_⟩:=azL a1 b1 h;exact⟨pv.p,pv.v.trans a3⟩
 have hq2:(ayM a.P b.P).2=0->vp (ayM a.P b.P).1=true/\(ayM a.P b.P).1.vars=s.dom.length:=fun h=>by
  obtain⟨_,_,pv,_⟩:=azM a1 b1 h;exact⟨pv.p,pv.v.trans a3⟩
 have c1:=Zu (e:=(Cd a.P b.P).2) (r:=cW a.R b.R s.p) os (ags a1 b1) s6 hl;rw[Sd hq1]at c1;have c2:=Zu (e:=(ayM a.P b.P).2) (r:=Ce a.R b.R s.p) os (ay5 a1 b1) Zw hl;rw[Sd hq2]at c2;have i1:=n7 (p:=s.p) ja jb;have m1:=Se (e:=(Cd a.P b.P).2) (ags a1 b1) os hl (fun h _=>(hq1 h).2) ⟨_,i1⟩;have m2:=Se (e:=(ayM a.P b.P).2) (ay5 a1 b1) os hl (fun h _=>(hq2 h).2) ⟨_,Y6 (p:=s.p) ja jb⟩;generalize gr s (Cd a.P b.P).1 (Cd a.P b.P).2 _=z1 at hadd c1 m1;generalize gr s (ayM a.P b.P).1 (ayM a.P b.P).2 _=z2 at hsub c2 m2;clear hq1 hq2;generalize Cd a.P b.P=t1 at h3 c1;generalize ayM a.P b.P=t2 at h4 c2;have hneg:=azQ os oa;have h5:=RQ a1 Zo.2;unfold azx at hneg;rw[if_pos e1,ay2 a1 a2,if_pos rfl]at hneg;rw[ay2 a1 a2]at h5;have h6:=ahe;have h7:=ajj oa.r;have i2:=ajl ja;obtain⟨k1,k2,_⟩:=KL Zo.2 Zo.1 (by decide) ca (ayZ ca);have m3:=Sc (m:=⟨⟨a.P.vars,a.P.terms.map ayL⟩,M0 a.R⟩) i2.ok i2.v k1 (by show(a.P.terms.map ayL).length<=100000;omega);have hwid:=azp os oa ob.r;unfold azy at hwid;rw[if_pos e1]at hwid;have m4:=Sc (m:=⟨a.P,cW a.R b.R s.p⟩) i1.ok i1.v ca (by show a.P.terms.length<=100000;omega);have hbnd:=azq os oa;unfold azz at hbnd;rw[if_pos e1]at hbnd;have r1:=E9 (s:=s) a1 os hl;obtain⟨p1,p2⟩:=qK (p:=s.p) a1 os.d hl;have s3:=HI (s:=s) (x:=dH a.P s.dom s.p) (l:=[a.R]) p1 (azt oa.r) (by simp);obtain⟨_,j1⟩:=HL p1 p2;have i3:=n7 (p:=s.p) j1 ja;have m5:=R2 i3.ok i3.ok;rw[Sa i3.v,axm]at m5;have hL:=azU (a:=a) os.d ox hxl (min x.length s.dom.length) 0 (decide ((x.length:Int)=(s.dom.length:Int))) (awP _);have hev:=azB os oa ox hxl;unfold azA at hev;rw[e1,awT,az6 hsp]at hev;rw[ax0,ax0]at hL;generalize hLL:au (ai R (az false) ayr) [3,4,5,17,171,172] [4,5]=L at hL;have hXL:∀s h,ai R (az false) (.loop [3,4,5,17,171,172] [4,5] ayr) s h=L s h:=fun s h=>by rw[←hLL];rfl
 clear hLL;have hmn:(if(s.dom.length:Int)< (x.length:Int)then(s.dom.length:Int)else(x.length:Int))=((min x.length s.dom.length:Nat):Int):=by split<;>omega
 generalize min x.length s.dom.length=mn at hL hmn;generalize(decide ((x.length:Int)=(s.dom.length:Int))&&pwL x s.dom)=bin at hL hev;have hL2:∀ (S:ak) (h:ac) (X:Option (Ex×St)),aj 0 [3,4,5,17] (L S h)=X->S 3=.sl 7 (bL x)->S 4=.ref 4 none 0 0 0->S 5=.ref 5 none 0 0 0->S 17=B (decide ((x.length:Int)=(s.dom.length:Int)))->S 171=I mn->S 172=I 0->h 4=.bx (Ed s)->h 5=.bx (OV a)->
   ∃hh,X=some (.normal,⟨upd (upd (upd (upd (fun _=>.any) 17 (B bin)) 5 (.ref 5 none 0 0 0)) 4 (.ref 4 none 0 0 0)) 3 (.sl 7 (bL x)),hh⟩)/\hh 4=.bx (Ed s)/\hh 5=.bx (OV a)/\∀i,i≠4->i≠5->hh i=.dead:=fun S h X hX a b c d e f g i=>by
  rw[←hX];exact hL S h a b c d e f g i
 simp only[nv]at s1 s3;generalize cW (dH a.P s.dom s.p) a.R s.p=u1 at hbnd s3 m5;generalize dH a.P s.dom s.p=u2 at r1 s3;generalize cW a.R b.R s.p=u3 at s1 c1 hwid m4;generalize Ce a.R b.R s.p=u4 at s2 c2;generalize M0 a.R=u5 at hneg h7 m3;generalize a.P.terms.map ayL=u6 at hneg h5 m3;have l1:∀y:Ri,bL [y]=[ao y]:=fun y=>rfl;simp only[pV,aO,am,ao,ae,ah,tp,l1]at h3 h4 h5 h6 h7 s1 s2 s3 c1 c2 r1 hwid hbnd m5;cases bin with
 |false=>
  rw[if_neg awW]at hev;have hw:=lC;have m6:=R2 (x:=dN) (y:=dN) MR.ok' MR.ok';rw[Sa rfl,axm]at m6;simp only[am,ao,dN,aI]at hev hw m6;simp only[ayJ,ayK,go_sem,haw,hg,f1,hlo,hpr,hadd,hsub,h3,h4,h5,h6,h7,s1,s2,s3,c1,c2,m1,m2,m3,m4,m5,r1,hneg,hwid,hbnd,hmn,hXL];generalize hX2:aj 0 [3,4,5,17] (L _ _)=X;obtain⟨hh,g4,g5,g6,gd⟩:=hL2 _ _ _ hX2 rfl rfl rfl rfl rfl rfl rfl rfl;have gz:∀i,6<=i->hh i=.dead:=fun i hi=>gd i (by omega) (by omega);rw[g4];simp only[go_sem,g5,g6,gz,hev,hw,m6]
 |true=>
  rw[if_pos rfl]at hev;have hn0:=ahW;have hbe:=(KT a1 ox hxl (p:=s.p)).1;obtain⟨p3,p4⟩:=qK (p:=s.p) a1 ox hxl;have s4:=HI (s:=s) (x:=dH a.P x s.p) (l:=[a.R]) p3 (azt oa.r) (by simp);obtain⟨_,j2⟩:=HL p3 p4;have i4:=n7 (p:=s.p) j2 ja;have m7:=R2 i4.ok i4.ok;rw[Sa i4.v,axm]at m7;simp only[nv]at s4;generalize cW (dH a.P x s.p) a.R s.p=u7 at hev s4 m7;simp only[ayJ,ayK,go_sem,haw,hg,f1,hlo,hpr,hadd,hsub,h3,h4,h5,h6,h7,s1,s2,s3,c1,c2,m1,m2,m3,m4,m5,r1,hneg,hwid,hbnd,hmn,hXL];generalize hX2:aj 0 [3,4,5,17] (L _ _)=X;obtain⟨hh,g4,g5,g6,gd⟩:=hL2 _ _ _ hX2 rfl rfl rfl rfl rfl rfl rfl rfl;have gz:∀i,6<=i->hh i=.dead:=fun i hi=>gd i (by omega) (by omega);rw[g4];unfold dH at s4;by_cases g7:a.P.terms.length=0
  ·have f7:(0< (a.P.terms.length:Int))=False:=ff;rw[if_pos g7]at s4;simp only[am,ao,l1]at hev hn0 s4 m7;simp only[go_sem,g5,g6,gz,hev,hn0,s4,m7,f7]
  ·have f7:(0< (a.P.terms.length:Int))=True:=tt;rw[if_neg g7]at s4;generalize JY a.P x s.p=u8 at hbe s4;simp only[aO,am,ao,l1]at hev hn0 hbe s4 m7;simp only[go_sem,g5,g6,gz,hev,hn0,hbe,s4,m7,f7]
noncomputable def FK:Env:=⟨fun f=>Tk.lookup f,cJ.C,cJ.md⟩
noncomputable def R0:iG:=jY FK
theorem GE{f:FuncId}{fd:FD}{args:List AV}{hs:List Ob}{r:AV×List Ob}(hE:FK.E f=none)(hC:FK.C f=some fd)(hk:FK.md.keep f=false)(h1:args.length=fd.np)(h2:hs.length<=1000)
  (hz:gZ false fd.rs fd.res hs.length (ai R0 (az false) fd.body (tW args) (ap hs))=some r):R0 f args hs=some r:=by
 refine Q7 hE hC ?_;unfold aaE;rw[if_pos ⟨h1,h2⟩,hk];exact hz
theorem zP(o:Ob):ap [o]=upd (fun _=>.dead) 1000 o:=by
 funext i;unfold ap upd;by_cases h:i=1000
 ·subst h;rfl
 ·rw[if_neg h];split
  ·rw[List.getElem?_eq_none (by simp;omega)];rfl
  ·rfl
theorem ahl{r:List AV}{rs:List (List AV)}(h:(rs.length+1)*8<=140737488355328):R0 F.slices_Clone_int_int_ [.sl 1 (r::rs)] []=some (.osl 1 (r::rs),[]):=by
 refine GE (fd:=mM) κ κ κ rfl (by decide) ?_;have e1:((rs.length+1)*8<=140737488355328)=True:=eq_true h;have e2:J3 false (.sl 1 (r::rs))=some (B false):=rfl;simp only[mM,vW,go_sem,e1,e2,axE,axI,awP,axz,awQ,true_and,true_or,axc]
theorem ahm:dZ 4 .emp (some (I 0)) none none=some .emp:=rfl
theorem ajZ{r:List AV}:R0 F.slices_Insert_api_Term_api_Term_ [.emp,I 0,.sl 4 [r]] []=some (.osl 4 [r],[]):=by
 refine GE (fd:=br) κ κ κ rfl (by decide) ?_;have e1:((1:Int)=0)=False:=by decide
 simp only[br,df,go_sem,ahm,axE,axI,Int.natCast_one,e1,awP]
theorem AQ{n i:Nat}(h:i<=n):jT n (some (I i)) none none=some (i,n):=by
 simp only[jT,jL,awV];rw[if_pos ⟨by omega,by omega⟩];rfl
theorem aeP{id k l0 n i:Nat}(h:i<=n):dZ k (.rsl id none k l0 n) (some (I i)) none none=some (.rsl id none k (l0+i) (n-i)):=by
 simp only[dZ,if_true,AQ h,axH,Option.isNone_none]
theorem QB{h:ac}{j k n:Nat}{rows:List (List AV)}(hj:bg j=false)(hh:h j=.ar k rows)(hn:n=rows.length)(hc:aC [1000] (h 1000)=true):wd [[]] 1 h [.rsl j none k 0 n]=some (.osl k rows,[h 1000]):=by
 subst hn;have hp:cU 1=[1000]:=rfl;unfold wd;rw[if_pos]
 ·simp[uQ,rh,lU,hj,hh,BN,wX,bo,nrmV,nrmL,hp]
 ·simp[hp,hc,kD,bX,fE,hj]
theorem aeQ{r:List AV}{rows:List (List AV)}{n:Nat}(hn:n=rows.length)(hb:(n+1)*64<=140737488355328):R0 F.slices_Insert_api_Term_api_Term_ [.rsl 1000 none 4 0 n,I n,.sl 4 [r]] [.ar 4 rows]=some (.osl 4 (rows++[r]),[.dead]):=by
 refine GE (fd:=br) κ κ κ rfl (by simp) ?_;subst hn;rw[zP];have e1:((1:Int)=0)=False:=by decide
 have e2:=aeP (id:=1000) (k:=4) (l0:=0) (awQ rows.length);have e3:((rows.length+1)*64<=140737488355328)=True:=eq_true hb;have e4:(rows.length+1<=rows.length)=False:=ff;have e5:∀h,LU h 25 4 64 1000 4 0 rows.length [r] 4 rows=cX (upd h 1000 .dead) 25 4 (rows++[r]) (rows.length+1) [(1000,false)]:=fun h=>by
  simp only[LU,List.length_singleton];rw[if_neg (by omega),if_pos ⟨trivial,trivial,trivial,trivial,hb⟩]
 simp only[br,df,go_sem,axE,axI,Int.natCast_one,e1,e2,e3,e4,e5,awP,axo,Nat.sub_self,or_self,awQ,axG];exact QB rfl rfl (by simp) rfl
theorem aml{f:FuncId}{g:List AV->List Ob->Option (AV×List Ob)}{args:List AV}{hs:List Ob}(hE:FK.E f=some g):R0 f args hs=g args hs:=L5 hE
theorem aj0{h:ac}{d:Nat}{r:List AV}{rows:List (List AV)}{lo m:Nat}(hh:h 1000=.ar 4 rows)(hd:h (2000+8*d)=.dead):
  bE R0 (az false) h d [.sl 4 [r],.rsl 1000 none 4 lo m] (.fn F.slices_overlaps_api_Term_ [] [])=some (B false,upd h 1000 (.ar 4 rows),[(1000,true)]):=by
 have hm:(az false).m F.slices_overlaps_api_Term_=[0,1]:=by kernel_rfl
 have hs:(az false).sh F.slices_overlaps_api_Term_=[]:=by kernel_rfl
 have hk:(az false).keep F.slices_overlaps_api_Term_=false:=by kernel_rfl
 have hf:R0 F.slices_overlaps_api_Term_ [.sl 4 [r],.rsl 1000 none 4 lo m] [.ar 4 rows]=some (B false,[.ar 4 rows]):=by
  rw[aml (g:=X9 4) κ];simp[X9]
 have hb:jX (az false) [.sl 4 [r],.rsl 1000 none 4 lo m] (.fn F.slices_overlaps_api_Term_ [] [])=false:=by
  simp[jX,hm]
 have hr:bV h 40 [1000] 0=[1000]:=by
  simp[bV,hh,nK,bF]
 have hn:cz (B false)=1:=rfl;unfold bE;rw[if_neg (by rw[hb];exact awW)];have h1:bQ h [0,1] [.sl 4 [r],.rsl 1000 none 4 lo m]=some ([.sl 4 [r],.rsl 1000 none 4 lo m],h,[]):=by
  simp[bQ,dw,vV,fK,aD]
 have h2:bF [] ([AV.sl 4 [r],.rsl 1000 none 4 lo m].flatMap bX)=[1000]:=by
  simp[bX,fE,bF]
 have h3:bj [1000] 1000=1000:=rfl;simp only[dS,hm,axc,axe,h1,awV,h2,hr,hs];simp[jK,bo,be,bk,hh,aC,bS,dQ,jW,h3,dL,hf,eJ,hn,cw,hd,cY,bf,oj,BL,qY,fE,iW,aEt,Eo,eu,mat,dG,fR,hk,Fe,hm]
theorem Sg{id k l0 n i:Nat}:dZ k (.rsl id none k l0 n) (some (I i)) none none=(jT n (some (I i)) none none).map fun p=>.rsl id none k (l0+p.1) (p.2-p.1):=by
 simp only[dZ,if_true,Option.isNone_none]
theorem aeR{n c i:Nat}(h:i<=c):jL n c (some (I i))=some i:=by
 simp only[jL];rw[if_pos ⟨by omega,by omega⟩];rfl
theorem aj1{r:List AV}{rows:List (List AV)}{n i:Nat}(hn:n=rows.length)(hi:i<n)(hb:(n+1)*64<=140737488355328):
  R0 F.slices_Insert_api_Term_api_Term_ [.rsc 1000 4 0 n n,I i,.sl 4 [r]] [.ar 4 rows]=some (.osl 4 (rows.take i++r::rows.drop i),[.ar 4 rows]):=by
 refine GE (fd:=br) κ κ κ rfl (by simp) ?_;rw[zP];have e1:((1:Int)=0)=False:=by decide
 have e2:((i:Int)=(n:Int))=False:=ff;have e3:IntKind.i64.wrap ((n:Int)+1)=((n+1:Nat):Int):=wi;have e4:((n:Int)< ((n+1:Nat):Int))=True:=tt;have e5:IntKind.i64.wrap (((n+1:Nat):Int)- (i:Int))=((n+1-i:Nat):Int):=wi;have e6:IntKind.i64.wrap ((i:Int)+1)=((i+1:Nat):Int):=wi;have b1:=AQ (n:=n) (i:=i) (by omega);have b2:=aeR (n:=n) (c:=n) (i:=i) (by omega);have b3:=AQ (n:=n+1) (i:=i) (by omega);have b4:=AQ (n:=n+1) (i:=i+1) (by omega);have f1:((0:Int)< ((n+1-i:Nat):Int))=True:=tt;have f2:(n<i+((n+1-i:Nat):Int).toNat)=True:=tt;have f3:i+((n+1-i:Nat):Int).toNat=n+1:=by omega
 have f4:(i<=rows.length)=True:=tt;have f5:((n+1)*64<=140737488355328)=True:=eq_true hb;have f6:(n<n+1)=True:=tt;obtain⟨A,hA⟩:∃A,rows.take i++awO ((n+1-i:Nat):Int).toNat [AV.emp,B false,AV.emp,I 0]=A:=⟨_,rfl⟩;have a1:A.length=n+1:=by rw[←hA,axG,axd,ax1];omega
 have a2:A.take i=rows.take i:=by
  rw[←hA,List.take_append_of_le_length (by rw[axd];omega),axg (by rw[axd];omega)]
 have a3:(i<=A.length)=True:=tt;obtain⟨D,hD⟩:∃D,A.take i++[r]++A.drop (i+1)=D:=⟨_,rfl⟩;have d1:D.length=n+1:=by
  rw[←hD,axG,axG,axd,ax2,List.length_singleton];omega
 have d2:D.take (i+1)=rows.take i++[r]:=by
  rw[←hD,a2,List.take_append_of_le_length (by rw[axG,axd,List.length_singleton];omega),axg (by rw[axG,axd,List.length_singleton];omega)]
 have d3:(i+1<=D.length)=True:=tt;have t1:List.take (n+1-i) [r]=[r]:=axg (by rw[List.length_singleton];omega);have t2:(rows.drop i).take (n-i)=rows.drop i:=axg (by rw[ax2];omega);have t3:(1=min 1 (n+1-i))=True:=tt;have t4:n+1- (i+1)=n-i:=by omega
 have t5:(i+(n-i)<=rows.length)=True:=tt;have t6:(rows.drop i).length=n-i:=by rw[ax2];omega
 have t7:D.drop (i+1+(n-i))=[]:=axi (by omega);simp only[br,df,go_sem,axE,axI,Int.natCast_one,e1,e2,e3,e4,e5,e6,b1,b2,b3,b4,f1,f2,f3,f4,f5,f6,hA,hD,a3,d3,t1,t2,t3,t4,t5,t6,t7,Nat.min_self,awP,axo,Nat.sub_self,or_self,awQ,Sg,and_self];rw[d2];have hfin:rows.take i++[r]++rows.drop i=rows.take i++r::rows.drop i:=by rw[axL];rfl
 rw[hfin];exact QB rfl rfl (by rw[axG,axd,axE,ax2];omega) rfl
theorem aj2{r:List AV}{rows:List (List AV)}{n i c:Nat}(hn:n=rows.length)(hi:i<n)(hc:n+1<=c)(hb:(n+1)*64<=140737488355328):
  R0 F.slices_Insert_api_Term_api_Term_ [.rsc 1000 4 0 n c,I i,.sl 4 [r]] [.ar 4 rows]=some (.osl 4 (rows.take i++r::rows.drop i),[.dead]):=by
 refine GE (fd:=br) κ κ κ rfl (by simp) ?_;rw[zP];have e1:((1:Int)=0)=False:=by decide
 have e2:((i:Int)=(n:Int))=False:=ff;have e3:IntKind.i64.wrap ((n:Int)+1)=((n+1:Nat):Int):=wi;have e4:((c:Int)< ((n+1:Nat):Int))=False:=ff;have e6:IntKind.i64.wrap ((i:Int)+1)=((i+1:Nat):Int):=wi;have b1:=AQ (n:=n) (i:=i) (by omega);have b2:=aeR (n:=n) (c:=c) (i:=n+1) hc;have b3:=AQ (n:=n+1) (i:=i) (by omega);have b4:=AQ (n:=n+1) (i:=i+1) (by omega);have o1:=fun(h:ac) (h0:h 1000=.ar 4 rows) (h1:h (2000+8*67)=.dead)=>aj0 (r:=r) (lo:=i+1) (m:=n-i) h0 h1;have t1:List.take (n+1-i) [r]=[r]:=axg (by rw[List.length_singleton];omega);have t2:(rows.drop i).take (n-i)=rows.drop i:=axg (by rw[ax2];omega);have t3:(1=min 1 (n+1-i))=True:=tt;have t4:n+1- (i+1)=n-i:=by omega
 have t5:(i+(n-i)<=rows.length)=True:=tt;have t6:(rows.drop i).length=n-i:=by rw[ax2];omega
 have t8:min (n-i) (n+1-i)=n-i:=by omega
 have t9:(n-i=min (n+1-i) (n-i))=True:=tt;have f4:(i+1<=rows.length)=True:=tt;have t7:rows.drop (i+1+(n-i))=[]:=axi (by omega);obtain⟨A,hA⟩:∃A,rows.take (i+1)++rows.drop i=A:=⟨_,rfl⟩;have a1:A.length=n+1:=by
  rw[←hA,axG,axd,ax2];omega
 have a2:A.take i=rows.take i:=by
  rw[←hA,List.take_append_of_le_length (by rw[axd];omega),List.take_take,axP (by omega)]
 have a4:A.drop (i+1)=rows.drop i:=by
  rw[←hA,List.drop_append_of_le_length (by rw[axd];omega),axi (by rw[axd];omega),axc]
 have a3:(i<=A.length)=True:=tt;simp only[br,df,go_sem,axE,axI,Int.natCast_one,e1,e2,e3,e4,e6,b1,b2,b3,b4,t4,awP];rw[o1 _ rfl rfl];simp only[go_sem,axE,axI,Int.natCast_one,e1,e2,e3,e4,e6,b1,b2,b3,b4,t1,t2,t3,t4,t5,t6,t7,t8,t9,f4,a3,hA,awP,axo,Nat.sub_self,or_self,awQ,Sg,and_self];rw[a2,a4,show rows.take i++[r]++rows.drop i=rows.take i++r::rows.drop i by rw[axL];rfl];exact QB rfl rfl (by rw[axG,axd,axE,ax2];omega) rfl
def ah1:Ren:=⟨fun|28=>242|n=>n,fun|25=>121|27=>57|53=>218|n=>n,fun n=>n⟩
theorem aeS:Lays7.n28 Tryz.prog ah1 where
 mixed:=by kernel_rfl
 f28:=by kernel_rfl
 t0:=by kernel_rfl
 a0:=Tryz.isAgg0
 z0:=Tryz.sizeOf0
 v0:=Tryz.zeroValue0
 i0:=by kernel_rfl
 t3:=by kernel_rfl
 a3:=Tryz.isAgg3
 z3:=Tryz.sizeOf3
 v3:=Tryz.zeroValue3
 i3:=by kernel_rfl
 t4:=by kernel_rfl
 a4:=Tryz.isAgg4
 z4:=Tryz.sizeOf4
 v4:=Tryz.zeroValue4
 i4:=by kernel_rfl
 t5:=by kernel_rfl
 a5:=Tryz.isAgg5
 z5:=Tryz.sizeOf5
 v5:=Tryz.zeroValue5
 i5:=by kernel_rfl
 t25:=by kernel_rfl
 a25:=Tryz.isAgg121
 z25:=Tryz.sizeOf121
 v25:=Tryz.zeroValue121
 i25:=by kernel_rfl
 t27:=by kernel_rfl
 a27:=Tryz.isAgg57
 z27:=Tryz.sizeOf57
 v27:=Tryz.zeroValue57
 i27:=by kernel_rfl
 t53:=by kernel_rfl
 a53:=Tryz.isAgg218
 z53:=Tryz.sizeOf218
 v53:=Tryz.zeroValue218
 i53:=by kernel_rfl
 g0:=by kernel_rfl
def J1:Inv where
 p w _:=TabAt 0 Lib.deBruijn32tab w
 stab:=fun{w w' X} h hs j hj=>by rw[oE (hs 0 (.inr rfl))];exact h j hj
 more:=fun h _=>h
theorem Zx:∀ (k x:Nat),Lib.ctzFrom k x=Rj k x
 |0,x=>rfl
 |k+1,x=>by
  unfold Lib.ctzFrom Rj;rw[Zx k (x/2),Nat.add_comm]
set_option maxRecDepth 100000 in
theorem ah2:pF Tryz.prog J1 false F.bits_TrailingZeros32 tzF:=by
 intro args obs obs' res w X ρ vals n hz hn hi hr hs hv;unfold tzF at hz;split at hz
 ·rename_i x;by_cases hc:0<x/\x<4294967296/\obs=[]
  ·rw[if_pos hc]at hz;obtain⟨h0,h1,rfl⟩:=hc;simp only[Option.some.injEq,Prod.mk.injEq]at hz;obtain⟨rfl,rfl⟩:=hz;have hv0:=hv 0 (.v (.int .u32 x)) (vals.getD 0 undef) rfl (by simp at hs;simp[Array.getD_eq_getD_getElem?,hs]);have e0:vals=#[.int .u32 x]:=by
    simp only[axE,axI]at hs;have:=hv0.v_inv.1;apply Array.ext
    ·simpa using hs
    ·intro i h2 h3;have:i=0:=by simp at h3;exact h3
     subst this;simpa [Array.getD_eq_getD_getElem?,hs]using this
   subst e0;obtain⟨m,rfl⟩:∃m:Nat,x=m:=⟨x.toNat,by omega⟩;have key:=Any7.bits_TrailingZeros32 aeS m (by omega) w fun _=>hi;have he:(callFunc F.bits_TrailingZeros32 #[.int .u32 (m:Int)]).run Tryz.prog w=.ok (.enter F.bits_TrailingZeros32 #[.int .u32 (m:Int)]) w:=(enters_of (aeS.f28) κ rfl:Proofs.Enters Tryz.prog (ah1.f 28)) _ _;unfold Enters;rw[he];refine Calls.mono key fun e w' hw=>?_;obtain⟨rfl,rfl⟩:=hw;refine⟨ρ,hr,.refl _ _ _ _,?_⟩;refine .dat ?_;have:Lib.ctz 32 m=Rj 32 m:=by
    unfold Lib.ctz;rw[if_neg (by omega),Zx]
   simp only[this,awY,mat,dG];exact .v _ rfl
  ·rw[if_neg hc]at hz;cases hz
 ·cases hz
section
variable {H:Type} {enc:TypeId × Value→H} {w:World}
def Ik(w:World)(b:Nat):Prop:=b<w.heap.size
def Eh(w:World):Prop:=∀o v,w.cell? ⟨0,o,none⟩=some v->∃n,v=.int .u8 n
def Ei(u:Value):Prop:=u=u
theorem amm(_:Eh w){a:Addr}{u:Value}(h:w.cell? a=some u)(_:Ei u):Ik w a.block/\a.spot=none:=by
 have h1:a.spot=none:=by
  unfold World.cell? at h;split at h
  ·split at h
   ·cases h
   ·rename_i hs;simpa using hs
  ·cases h
 refine⟨?_,h1⟩;unfold World.cell? at h;split at h
 ·rename_i hb;exact(Array.getElem?_eq_some_iff.1 hb).1
 ·cases h
def pA(w:World)(fs:List AV)(cs:List Value):Prop:=
 fs.length=cs.length/\∀ (j:Nat) (c:AV) (u:Value),fs[j]?=some c->cs[j]?=some u->RD w (Ik w) c u/\aD c=true/\u.oneCell'=true
theorem pA.app{fa fb:List AV}{ca cb:List Value}(ha:pA w fa ca)(hb:pA w fb cb):pA w (fa++fb) (ca++cb):=by
 refine⟨by simp[ha.1,hb.1],fun j c u h1 h2=>?_⟩;by_cases hj:j<fa.length
 ·rw[List.getElem?_append_left hj]at h1;rw[List.getElem?_append_left (by rw[←ha.1];exact hj)]at h2;exact ha.2 j c u h1 h2
 ·rw[List.getElem?_append_right (by omega)]at h1;rw[List.getElem?_append_right (by rw[←ha.1];omega),←ha.1]at h2;exact hb.2 _ c u h1 h2
theorem pA.one{c:AV}{u:Value}(h:RD w (Ik w) c u)(hd:aD c=true)(h1:u.oneCell'=true):pA w [c] [u]:=by
 refine⟨rfl,fun j c' u' hc hu=>?_⟩;cases j with
 |zero=>simp at hc hu;subst hc hu;exact⟨h,hd,h1⟩
 |succ j=>simp at hc
noncomputable abbrev Tr (w:World) (enc:TypeId×Value->H) (n:Nat) (t:TypeId) (cs:List Value):Option (DataW H×List MemPlace):=DataW.trod enc Tryz.prog w 0 (fun _=>true) true n t cs
def qU(t:TypeId)(d:DataW H):Prop:=∀m∈DataW.weights Tryz.prog t d,m<=reachBytes
theorem amn{e:TypeId}:∀ {l:List (DataW H)} {d:DataW H} {m:Nat},d∈l->m∈DataW.weights Tryz.prog e d->m∈DataW.weightsAll Tryz.prog e l
 |[],d,m,h,_=>by simp at h
 |a::l,d,m,h,hm=>by
  simp only[DataW.weightsAll,ax4];rcases List.mem_cons.1 h with rfl|h
  ·exact .inl hm
  ·exact .inr (amn h hm)
theorem Zy{α:Type}{p:Nat->α->Prop}:∀ (n:Nat),(∀i,i<n->∃r,p i r)->∃l:List α,l.length=n/\∀ (i:Nat) (r:α),l[i]?=some r->p i r
 |0,_=>⟨[],rfl,fun i r h=>by simp at h⟩
 |n+1,h=>by
  obtain⟨l,h1,h2⟩:=Zy n fun i hi=>h i (by omega);obtain⟨r,hr⟩:=h n (by omega);refine⟨l++[r],by simp[h1],fun i r' hi=>?_⟩;by_cases hin:i<n
  ·rw[List.getElem?_append_left (by omega)]at hi;exact h2 i r' hi
  ·rw[List.getElem?_append_right (by omega)]at hi;have:i=n:=by
    have:=(List.getElem?_eq_some_iff.1 hi).1;simp at this;omega
   subst this;simp[h1]at hi;subst hi;exact hr
theorem KU{α:Type}{t e:TypeId}{k bs:Nat}(ht:Tryz.prog.underlying t=some (.slice e))(hk:Tryz.prog.cellsOf e=k)(h0:0<k)(hbs:Tryz.prog.bytesOf e=bs)(F:α->List AV)(Q:α->Prop)(hT:Eh w)
  (hrow:∀n cs' x,Tr w enc n e cs'=some x->qU e x.1->∃r,Q r/\pA w (F r) cs'/\∃u,cs'[0]?=some u/\Ei u) {fuel:Nat} {cs:List Value} {x:DataW H×List MemPlace}
  (h:Tr w enc fuel t cs=some x) (hw:qU t x.1):∃ (l:List α) (v:Value),cs=[v]/\(∀r∈l,Q r)/\l.length*bs<=reachBytes/\RD w (Ik w) (.sl k (l.map F)) v/\v.oneCell'=true/\Ei v:=by
 rcases open_slice ht h with⟨rfl,_⟩| ⟨a,len,cap,m,n,D,Pl,rfl,hb,hl,hm,hmm,rfl,hx⟩
 ·exact⟨[],_,rfl,fun r hr=>by simp at hr,by simp,.sl k [] none 0 ⟨0,0,none⟩ (fun _ _=>undef) (by simp) (fun h=>absurd rfl h) (fun r hr=>by simp at hr) (fun i r j c hr=>by simp at hr) (fun r hr=>by simp at hr) (fun i r j c hr=>by simp at hr),rfl,rfl⟩
 ·have hlm:len<=m:=by rw[hmm];split<;>omega
  have hwe:∀i,i<len->qU e (D i):=fun i hi q hq=>by
   refine hw q ?_;simp only[DataW.weights,ht,List.mem_cons,ax4];exact .inr (.inl (amn (List.mem_map.2 ⟨i,List.mem_range.2 hi,rfl⟩) hq))
  have hbn:len*bs<=reachBytes:=by
   have:=hw ((((List.range len).map D).length+((List.range (m-len)).map fun j=>D (len+j)).length)*Tryz.prog.bytesOf e) (by simp[DataW.weights,ht]);simp only[List.length_map,List.length_range,hbs]at this;exact awX (awZ _ (by omega)) this
  obtain⟨l,l1,l2⟩:=Zy (p:=fun i r=>Q r/\∃cs',w.cells? 0 (a.add (i*k)) k=some cs'/\pA w (F r) cs'/\∃u,cs'[0]?=some u/\Ei u) len fun i hi=>by
   obtain⟨cs',h1,h2⟩:=hx i (by omega);obtain⟨r,g1,g2,g3⟩:=hrow _ _ _ h2 (hwe i hi);rw[hk]at h1;exact⟨r,g1,cs',h1,g2,g3⟩
  have cell:∀ (i:Nat) (row:List AV) (j:Nat) (c:AV),(l.map F)[i]?=some row->row[j]?=some c->∃u,w.cell? (a.add (i*k+j))=some u/\RD w (Ik w) c u/\aD c=true:=fun i row j c hi hj=>by
   simp only[List.getElem?_map,awR]at hi;obtain⟨r,hr,rfl⟩:=hi;obtain⟨_,cs',c1,c2,_⟩:=l2 i r hr;obtain⟨_,c3,c4⟩:=World.cells?_some c1;have hjk:j<k:=by
    have:=(List.getElem?_eq_some_iff.1 hj).1;rw[c2.1,c3]at this;exact this
   have:=c4 j hjk;rw[C2]at this;obtain⟨u,hu⟩:∃u,cs'[j]?=some u:=⟨cs'[j]'(by omega),by simp⟩;exact⟨u,by rw[this,hu],(c2.2 j c u hj hu).1,(c2.2 j c u hj hu).2.1⟩
  refine⟨l,_,rfl,fun r hr=>?_,by rw[l1];exact hbn,?_,rfl,rfl⟩
  ·obtain⟨i,hi⟩:=List.getElem?_of_mem hr;exact(l2 i r hi).1
  ·have:=RD.sl (w:=w) (A:=Ik w) k (l.map F) (some a) cap a (fun i j=>(w.cell? (a.add (i*k+j))).getD undef) (by simp[l1,hl]) (fun hne=>?_) (fun row hr=>?_) (fun i row j c hi hj=>?_) (fun row hr c hc=>?_) (fun i row j c hi hj=>?_)
   ·simpa [l1]using this
   ·have hlen:0<l.length:=List.length_pos_iff.2 fun e=>hne (by simp[e]);obtain⟨_,cs',c1,c2,u,c3,c4⟩:=l2 0 l[0] (by simp);have:=(World.cells?_some c1).2.2 0 h0;rw[c3,Nat.zero_mul,Es,Es]at this;obtain⟨q1,q2⟩:=amm hT this c4;exact⟨rfl,q1,q2⟩
   ·simp only[axR]at hr;obtain⟨r,hr,rfl⟩:=hr;obtain⟨i,hi⟩:=List.getElem?_of_mem hr;obtain⟨_,cs',c1,c2,_⟩:=l2 i r hi;rw[c2.1];exact(World.cells?_some c1).2.1
   ·obtain⟨u,q1,_⟩:=cell i row j c hi hj;rw[q1];rfl
   ·obtain⟨i,hi⟩:=List.getElem?_of_mem hr;obtain⟨j,hj⟩:=List.getElem?_of_mem hc;obtain⟨u,_,_,q⟩:=cell i row j c hi hj;exact q
   ·obtain⟨u,q1,q2,_⟩:=cell i row j c hi hj;rw[q1];exact q2
theorem aj3{n:Nat}{cs:List Value}{x:DataW H×List MemPlace}(h:Tr w enc n 57 cs=some x)(_:qU 57 x.1):∃r:Nat,r<4294967296/\pA w [U (r:Int)] cs/\∃u,cs[0]?=some u/\Ei u:=by
 obtain⟨z,rfl,rfl,hw⟩:=DataW.trod_int Tryz.underlying57 h;simp only[Lit.wf,awS,decide_eq_true_eq]at hw;have h1:(0:Int)<=z:=hw.1;have h2:z<=4294967295:=hw.2;obtain⟨m,rfl⟩:∃m:Nat,z=m:=⟨z.toNat,by omega⟩;exact⟨m,by omega,.one (.v _ rfl) rfl rfl,_,rfl,rfl⟩
theorem aj4{n:Nat}{cs:List Value}{x:DataW H×List MemPlace}(h:Tr w enc n 3 cs=some x)(_:qU 3 x.1):∃r:Int,True/\pA w [I r] cs/\∃u,cs[0]?=some u/\Ei u:=by
 obtain⟨z,rfl,rfl,hw⟩:=DataW.trod_int Tryz.underlying3 h;exact⟨z,trivial,.one (.v _ rfl) rfl rfl,_,rfl,rfl⟩
theorem aeT(hT:Eh w){n:Nat}{cs:List Value}{x:DataW H×List MemPlace}(h:Tr w enc n 28 cs=some x)(hw:qU 28 x.1):∃m:List Nat,(Lb m/\m.length<4611686018427387904)/\pA w [lm m] cs/\∃u,cs[0]?=some u/\Ei u:=by
 obtain⟨l,v,rfl,h1,h2,h3,h4,h5⟩:=KU (k:=1) (bs:=4) Tryz.underlying28 κ (by decide) κ (fun(r:Nat)=>[U (r:Int)]) (fun r=>r<4294967296) hT (fun n cs' x=>aj3) h hw;refine⟨l,⟨h1,?_⟩,.one h3 rfl h4,_,rfl,h5⟩;unfold reachBytes at h2;omega
theorem ahn(hT:Eh w){n:Nat}{cs:List Value}{x:DataW H×List MemPlace}(h:Tr w enc n 54 cs=some x)(hw:qU 54 x.1):∃m:List Int,True/\pA w [.sl 1 (aS m)] cs/\∃u,cs[0]?=some u/\Ei u:=by
 obtain⟨l,v,rfl,h1,h2,h3,h4,h5⟩:=KU (k:=1) (bs:=8) Tryz.underlying54 κ (by decide) κ (fun(r:Int)=>[I r]) (fun r=>True) hT (fun n cs' x=>aj4) h hw;exact⟨l,trivial,.one h3 rfl h4,_,rfl,h5⟩
theorem Wv(hT:Eh w){n:Nat}{cs:List Value}{x:DataW H×List MemPlace}(h:Tr w enc n 30 cs=some x)(hw:qU 30 x.1):∃d:Rd,Ok0 d/\pA w (ah d) cs/\∃u,cs[0]?=some u/\Ei u:=by
 obtain⟨y0,y1,y2,m,rfl,hl,h0,h1,h2⟩:=trod_struct3 Tryz.underlying30 h;have hl3:cs.length=3:=hl.trans κ
 match cs,hl3 with
 |[a,b,c],_=>
  have k0:Tr w enc m 4 [a]=some y0:=h0;have k1:Tr w enc m 28 [b]=some y1:=h1;have k2:Tr w enc m 3 [c]=some y2:=h2;have w1:qU 28 y1.1:=fun q hq=>hw q (by simp[DataW.weights,DataW.weightsEach,Tryz.underlying30];exact .inr (.inl hq));obtain⟨bb,e0,e1⟩:=DataW.trod_bool Tryz.underlying4 k0;simp only[List.cons.injEq,and_true]at e0;subst e0;obtain⟨l,⟨q1,q2⟩,q3,_⟩:=aeT hT k1 w1;obtain⟨z,e2,e3,_⟩:=DataW.trod_int Tryz.underlying3 k2;simp only[List.cons.injEq,and_true]at e2;subst e2;exact⟨⟨bb,l,z⟩,⟨q1,q2⟩,(pA.one (.v _ rfl) rfl rfl).app (q3.app (.one (.v _ rfl) rfl rfl)),_,rfl,rfl⟩
theorem aho(hT:Eh w){n:Nat}{cs:List Value}{x:DataW H×List MemPlace}(h:Tr w enc n 56 cs=some x)(hw:qU 56 x.1):∃d:Rt,Ok0 d.c/\pA w (bD d) cs/\∃u,cs[0]?=some u/\Ei u:=by
 obtain⟨y0,y1,m,rfl,hl,h0,h1⟩:=trod_struct2 Tryz.underlying56 h;have hl3:cs.length=4:=hl.trans κ
 match cs,hl3 with
 |[a,b,c,d],_=>
  have k0:Tr w enc m 54 [a]=some y0:=h0;have k1:Tr w enc m 30 [b,c,d]=some y1:=h1;have w0:qU 54 y0.1:=fun q hq=>hw q (by simp[DataW.weights,DataW.weightsEach,Tryz.underlying56];exact .inl hq);have w1:qU 30 y1.1:=fun q hq=>hw q (by simp[DataW.weights,DataW.weightsEach,Tryz.underlying56];exact .inr hq);obtain⟨l,_,q3,q4⟩:=ahn hT k0 w0;obtain⟨d,d1,d2,_⟩:=Wv hT k1 w1;exact⟨⟨l,d⟩,d1,q3.app d2,q4⟩
theorem Ww(hT:Eh w){n:Nat}{cs:List Value}{x:DataW H×List MemPlace}(h:Tr w enc n 32 cs=some x)(hw:qU 32 x.1):∃d:Ri,OkI d/\pA w (ao d) cs/\∃u,cs[0]?=some u/\Ei u:=by
 obtain⟨y0,y1,y2,m,rfl,hl,h0,h1,h2⟩:=trod_struct3 Tryz.underlying32 h;have hl3:cs.length=7:=hl.trans κ
 match cs,hl3 with
 |[a,b,c,d,e,f,g],_=>
  have k0:Tr w enc m 30 [a,b,c]=some y0:=h0;have k1:Tr w enc m 30 [d,e,f]=some y1:=h1;have k2:Tr w enc m 4 [g]=some y2:=h2;have w0:qU 30 y0.1:=fun q hq=>hw q (by simp[DataW.weights,DataW.weightsEach,Tryz.underlying32];exact .inl hq);have w1:qU 30 y1.1:=fun q hq=>hw q (by simp[DataW.weights,DataW.weightsEach,Tryz.underlying32];exact .inr (.inl hq));obtain⟨d0,p1,p2,p3⟩:=Wv hT k0 w0;obtain⟨d1,q1,q2,_⟩:=Wv hT k1 w1;obtain⟨bb,e0,e1⟩:=DataW.trod_bool Tryz.underlying4 k2;simp only[List.cons.injEq,and_true]at e0;subst e0;exact⟨⟨d0,d1,bb⟩,⟨p1,q1⟩,p2.app (q2.app (.one (.v _ rfl) rfl rfl)),p3⟩
theorem azW(hT:Eh w){n:Nat}{v:Value}{x:DataW H×List MemPlace}(h:Tr w enc n 22 [v]=some x)(hw:qU 22 x.1):∃l:List Ri,(∀d∈l,OkI d)/\RD w (Ik w) (.sl 7 (bL l)) v:=by
 obtain⟨l,v',e4,q1,q2,q3,q4,q5⟩:=KU (k:=7) (bs:=88) Tryz.underlying22 κ (by decide) κ ao OkI hT (fun n cs' x=>Ww hT) h hw;simp only[List.cons.injEq,and_true]at e4;subst e4;exact⟨l,q1,q3⟩
theorem QC{fs:List AV}{us:Array Value}(rc:pA w fs us.toList):RD w (Ik w) (.agg fs) (.agg us):=by
 refine .agg _ _ (by have:=rc.1;simpa using this.symm) (fun i u hu=>?_) fun i c u hc hu=>(rc.2 i c u hc (by simpa using hu)).1;have hu':us.toList[i]?=some u:=by simpa using hu
 obtain⟨c,hc⟩:∃c,fs[i]?=some c:=⟨_,List.getElem?_eq_getElem (by rw[rc.1];exact(List.getElem?_eq_some_iff.1 hu').1)⟩;exact(rc.2 i c u hc hu').2.2
theorem aeU(hT:Eh w){n:Nat}{us:Array Value}{x:DataW H×List MemPlace}(h:Tr w enc n 24 us.toList=some x)(hw:qU 24 x.1):∃s:Rs,OkS s/\RD w (Ik w) (uM s) (.agg us):=by
 obtain⟨y0,y1,y2,m,rfl,hl,h0,h1,h2⟩:=trod_struct3 Tryz.underlying24 h;have hl3:us.toList.length=3:=hl.trans κ;obtain⟨cs⟩:=us;simp only at hl3 h0 h1 h2
 match cs,hl3 with
 |[a,b,c],_=>
  have k0:Tr w enc m 22 [a]=some y0:=h0;have k1:Tr w enc m 3 [b]=some y1:=h1;have k2:Tr w enc m 3 [c]=some y2:=h2;have w0:qU 22 y0.1:=fun q hq=>hw q (by simp[DataW.weights,DataW.weightsEach,Tryz.underlying24];exact .inl hq);obtain⟨z1,e2,e3,_⟩:=DataW.trod_int Tryz.underlying3 k1;obtain⟨z2,e4,e5,_⟩:=DataW.trod_int Tryz.underlying3 k2;simp only[List.cons.injEq,and_true]at e2 e4;subst e2 e4;obtain⟨l,v,e4,q1,q2,q3,q4,q5⟩:=KU (k:=7) (bs:=88) Tryz.underlying22 κ (by decide) κ ao OkI hT (fun n cs' x=>Ww hT) k0 w0;simp only[List.cons.injEq,and_true]at e4;subst e4;exact⟨⟨l,z1,z2⟩,⟨q1,by show l.length<_;unfold reachBytes at q2;omega⟩,QC ((pA.one q3 rfl q4).app ((pA.one (.v _ rfl) rfl rfl).app (.one (.v _ rfl) rfl rfl)))⟩
theorem Si(hT:Eh w){n:Nat}{us:Array Value}{x:DataW H×List MemPlace}(h:Tr w enc n 34 us.toList=some x)(hw:qU 34 x.1):∃s:Rm,OkM s/\RD w (Ik w) (kO s) (.agg us):=by
 obtain⟨y0,y1,m,rfl,hl,h0,h1⟩:=trod_struct2 Tryz.underlying34 h;have hl3:us.toList.length=9:=hl.trans κ;obtain⟨cs⟩:=us;simp only at hl3 h0 h1
 match cs,hl3 with
 |[a,b,c1,c2,c3,c4,c5,c6,c7],_=>
  have k0:Tr w enc m 27 [a,b]=some y0:=h0;have k1:Tr w enc m 32 [c1,c2,c3,c4,c5,c6,c7]=some y1:=h1;have w0:qU 27 y0.1:=fun q hq=>hw q (by simp[DataW.weights,DataW.weightsEach,Tryz.underlying34];exact .inl hq);have w1:qU 32 y1.1:=fun q hq=>hw q (by simp[DataW.weights,DataW.weightsEach,Tryz.underlying34];exact .inr hq);obtain⟨d,d1,d2,_⟩:=Ww hT k1 w1;obtain⟨u0,u1,m2,rfl,hl,h0,h1⟩:=trod_struct2 Tryz.underlying27 k0;have k2:Tr w enc m2 3 [a]=some u0:=h0;have k3:Tr w enc m2 25 [b]=some u1:=h1;have w2:qU 25 u1.1:=fun q hq=>w0 q (by simp[DataW.weights,DataW.weightsEach,Tryz.underlying27];exact .inr hq);obtain⟨z,e2,e3,_⟩:=DataW.trod_int Tryz.underlying3 k2;simp only[List.cons.injEq,and_true]at e2;subst e2;obtain⟨l,v,e4,q1,q2,q3,q4,q5⟩:=KU (k:=4) (bs:=64) Tryz.underlying25 κ (by decide) κ bD (fun t=>Ok0 t.c) hT (fun n cs' x=>aho hT) k3 w2;simp only[List.cons.injEq,and_true]at e4;subst e4;exact⟨⟨⟨z,l⟩,d⟩,⟨q1,d1,by show l.length<_;unfold reachBytes at q2;omega⟩,QC ((pA.one (.v _ rfl) rfl rfl).app ((pA.one q3 rfl q4).app d2))⟩
end
theorem HM{args:List AV}{vals:Array Value}(h:vals.size=args.length){i:Nat}{c:AV}(hc:args[i]?=some c):∃u,vals[i]?=some u:=by
 have:i<args.length:=(List.getElem?_eq_some_iff.1 hc).1;exact⟨vals[i]'(by omega),by simp[h,this]⟩
theorem asp{vals:Array Value}{a:Value}(h:vals.size=1)(h0:vals[0]?=some a):vals=#[a]:=by
 apply Array.ext_getElem?;intro i
 match i with
 |0=>simpa using h0
 |i+1=>simp[h]
theorem asq{vals:Array Value}{a b:Value}(h:vals.size=2)(h0:vals[0]?=some a)(h1:vals[1]?=some b):vals=#[a,b]:=by
 apply Array.ext_getElem?;intro i
 match i with
 |0=>simpa using h0
 |1=>simpa using h1
 |i+2=>simp[h]
theorem Sj{w:World}{a:Addr}{us:Array Value}{e:TypeId}(h:w.heap[a.block]?=some (.cells us e (0,0))):w.frozen? a=false:=by
 simp[World.frozen?,h]
theorem aj6{P:Program}(w:World)(tS tR e:TypeId)(ht:P.underlying tS=some (.slice e))(size:Nat)(hz:∀w,(Go.sizeOf e).run P w=.ok size w)(a:Addr)(b:Option Addr)(la ca cb:Nat):
  (Extern.SlicesOverlaps.overlaps #[tS,tS] #[tR] #[.slice (some a) la ca,.slice b 0 cb]).run P w=.ok (.bool false) w:=by
 change Sem.run P (α:=Value) (do
  let some t:= (#[tS,tS]:Array TypeId)[0]?|stuck "slices.overlaps: no parameter types"
  let .slice elem←underlying t|stuck "slices.overlaps: slice type expected"
  let size←sizeOf elem
  match (some a:Option Addr),b with
  |some a,some b=>
   if la=0\/0=0\/size=0 then pure (Value.bool false)
   else if a.block !=b.block&& (←frozen a)&& (←frozen b)then unsupported .addressObserved
   else do
    if a.block !=b.block then do
     noView a;noView b
     if←mayBeOne a b then return Value.bool ((←choose (.extern "sameAddr.stringBytes" 2))==1)
    pure (Value.bool (a.block==b.block&&a.off<b.off+0*size&&b.off<a.off+la*size))
  |_,_=>pure (Value.bool false)) w=_
 cases b<;>simp[run_underlying ht,hz]
theorem amo{P:Program}(w:World)(tS tR e:TypeId)(ht:P.underlying tS=some (.slice e))(size:Nat)(hz:∀w,(Go.sizeOf e).run P w=.ok size w)
  (a b:Addr) (la ca lb cb:Nat) (hne:a.block≠b.block) (tA:TypeId) (kA:Nat) {us:Array Value} {tB:TypeId}
  (hkA:kA≠0) (hsa:w.shape? a.block=some (tA,kA)) (hb:w.heap[b.block]?=some (.cells us tB (0,0))) (hu:us.size≠0):
  (Extern.SlicesOverlaps.overlaps #[tS,tS] #[tR] #[.slice (some a) la ca,.slice (some b) lb cb]).run P w=.ok (.bool false) w:=by
 have hnb:(a.block !=b.block)=true:=by simpa using hne
 have hnb':(a.block==b.block)=false:=by simpa using hne
 have hsb:w.shape? b.block=some (tB,us.size):=by simp[World.shape?,hb]
 have hfb:w.frozen? b=false:=Sj hb;have hfe:w.frozen? {block:=b.block,off:=us.size}=false:=Sj (a:=⟨b.block,us.size,none⟩) hb;change Sem.run P (α:=Value) (do
  let some t:= (#[tS,tS]:Array TypeId)[0]?|stuck "slices.overlaps: no parameter types"
  let .slice elem←underlying t|stuck "slices.overlaps: slice type expected"
  let size←sizeOf elem
  match (some a:Option Addr),(some b:Option Addr)with
  |some a,some b=>
   if la=0\/lb=0\/size=0 then pure (Value.bool false)
   else if a.block !=b.block&& (←frozen a)&& (←frozen b)then unsupported .addressObserved
   else do
    if a.block !=b.block then do
     noView a;noView b
     if←mayBeOne a b then return Value.bool ((←choose (.extern "sameAddr.stringBytes" 2))==1)
    pure (Value.bool (a.block==b.block&&a.off<b.off+lb*size&&b.off<a.off+la*size))
  |_,_=>pure (Value.bool false)) w=_
 by_cases h0:la=0\/lb=0\/size=0
 ·simp[run_underlying ht,hz,h0]
 ·obtain⟨n,hn⟩:∃n,us.size=n+1:=⟨us.size-1,by omega⟩;rw[hn]at hsb hfe;obtain⟨kA,rfl⟩:∃k,kA=k+1:=⟨kA-1,by omega⟩;cases hfa:w.frozen? a<;>cases hfa2:w.frozen? {block:=a.block,off:=kA+1}<;>
   simp[run_underlying ht,hz,h0,hnb,hnb',frozen,noView,viewAt,mayBeOne,stringish,shape,Sem.run,hsa,hsb,hfa,hfa2,hfb,hfe]
theorem abX{w:World}{a:Addr}{v:Value}(h:w.cell? a=some v):∃t k,k≠0/\w.shape? a.block=some (t,k):=by
 unfold World.cell? at h;split at h
 ·rename_i cs t fr hb;refine⟨t,cs.size,fun h0=>?_,by unfold World.shape?;rw[hb]⟩;split at h
  ·cases h
  ·have:=(Array.getElem?_eq_some_iff.1 h).1;omega
 ·cases h
theorem amp{P:Program}{I:Inv}{f:FuncId}{fn:Func}{tS tR e:TypeId}{size:Nat}(hf:P.funcs[f]?=some fn)(hname: (fn.name== "runtime.NumGoroutine")=false)(hb:fn.body.isNone=true)(hn:Extern.findNext fn=none)
  (he:Extern.find fn=some (Extern.SlicesOverlaps.overlaps #[tS,tS] #[tR])) (ht:P.underlying tS=some (.slice e)) (hz:∀w,(Go.sizeOf e).run P w=.ok size w):pF P I false f (X9 4):=by
 intro args obs obs' res w X ρ vals n hz' hn' hi hr hs hv;unfold X9 at hz';split at hz'
 ·rename_i k0 row rows k1 lo m k2 rows2;split at hz'
  ·rename_i hk;obtain⟨rfl,rfl,rfl⟩:=hk;cases hz';obtain⟨u0,h0⟩:=HM hs (i:=0) rfl;obtain⟨u1,h1⟩:=HM hs (i:=1) rfl;have e0:=hv 0 _ _ rfl h0;have e1:=hv 1 _ _ rfl h1;obtain rfl:=asq hs h0 h1;have d0:=e0.sl_inv;obtain⟨a1,cap1,rfl,hp,hn1,hb1,ha1⟩:=e1.rsl_inv;have ho:RO w (aJ w X (ap [.ar 4 rows2]) ρ) ρ (ap [.ar 4 rows2]) 1000 (.ar 4 rows2):=hr.ob 1000;obtain⟨us,tB,g1,g2,g3,g4⟩:=ho;have hlive:live (ap [.ar 4 rows2]) 1000 none:=trivial;cases d0 with
   |sl _ _ a cap ad vs hc ha hk hv2 hl hr2=>
    obtain⟨rfl,hA,hsp⟩:=ha (by simp);have hlen:=hk row (by simp);obtain⟨c,hrow⟩:∃c,row[0]?=some c:=⟨row[0]'(by omega),by simp⟩;have hcell:=hv2 0 row 0 c rfl hrow;obtain⟨tA,kA,hkA,hsh⟩:=abX hcell;rw[oB]at hsh;have run:(callFunc f #[.slice (some ad) (row::rows).length cap,.slice a1 m cap1]).run P w=.ok (.value (.bool false)) w:=by
     rw[run_callFunc_extern hf hname hb hn he];by_cases hm:m=0
     ·subst hm;rw[aj6 w tS tR e ht size hz];rfl
     ·rcases ha1 with h|rfl
      ·omega
      ·rw[amo w tS tR e ht size hz ad ⟨(ρ 1000 none).1,lo*4,none⟩ _ cap m cap1 (fun hh=>hA.2.2 ⟨1000,none,hlive,hh.symm⟩) tA kA hkA hsh g1 (by omega)];rfl
    unfold Enters;rw[run];exact⟨ρ,hr,.refl _ _ _ _,.dat (.v _ rfl)⟩
  ·cases hz'
 ·cases hz'
theorem aj7{P:Program}{I:Inv}(hR:pF P I false F.slices_Insert_api_Term_api_Term_ (R0 F.slices_Insert_api_Term_api_Term_)):pF P I false F.slices_Insert_api_Term_api_Term_ (UA 4 64):=by
 intro args obs obs' res w X ρ vals n hz hn hi hr hs hv;unfold UA at hz;split at hz
 ·rename_i k0 r;split at hz
  ·rename_i hk;subst hk;cases hz;exact hR ajZ hn hi hr hs hv
  ·cases hz
 ·rename_i k1 m i k0 r k2 rows;split at hz
  ·rename_i hk;obtain⟨rfl,rfl,rfl,rfl,hi0,hi1,hb⟩:=hk;cases hz;obtain⟨i,rfl⟩:=ax5 hi0;rw[awY];by_cases hend:i=rows.length
   ·subst hend;have:=hR (aeQ (r:=r) rfl hb) hn hi hr hs hv;rw[axg (awQ _),axi (awQ _)];exact this
   ·have hlt:i<rows.length:=by omega
    obtain⟨u0,h0⟩:=HM hs (i:=0) rfl;obtain⟨a,cap,rfl,hp,hn1,hb1,ha⟩:=(hv 0 _ _ rfl h0).rsl_inv;have hv':∀ (j:Nat) (c:AV) (u:Value),[AV.rsc 1000 4 0 rows.length cap,.v (.int .i64 i),.sl 4 [r]][j]?=some c->vals[j]?=some u->RV w (aJ w X (ap [.ar 4 rows]) ρ) ρ (ap [.ar 4 rows]) c u:=by
     intro j c u hc hu
     match j,hc with
     |0,hc=>
      cases hc;rw[h0]at hu;cases hu;exact .rsc 1000 4 0 _ cap a hp hn1 hb1 ha
     |j+1,hc=>exact hv (j+1) c u hc hu
    rcases Nat.lt_or_ge rows.length cap with hc|hc
    ·exact hR (aj2 rfl hlt hc hb) hn hi hr hs hv'
    ·obtain rfl:cap=rows.length:=by omega
     refine(hR (aj1 rfl hlt hb) hn hi hr hs hv').mono fun v w' ⟨ρ',q1,q2,q3⟩=>?_;generalize rows.take i++r::rows.drop i=L at q1 q2 q3⊢;have hd:=Nw q1 (id:=1000) (k:=4) (rows:=rows) (by
      show(if 1000=n then _ else _)=_;rw[if_neg (by omega)];rfl)
     have eq:upd (mat n (ap [.ar 4 rows]) (.osl 4 L)).2 1000 .dead=(mat n (ap [.dead]) (.osl 4 L)).2:=by
      show upd (upd (ap [.ar 4 rows]) n (.ar 4 L)) 1000 .dead=upd (ap [.dead]) n (.ar 4 L);rw[zP,zP];funext j;unfold upd;by_cases h1:j=1000
      ·rw[if_pos h1,if_neg (by omega),if_pos h1]
      ·rw[if_neg h1,if_neg h1,if_neg h1]
     rw[eq]at hd;refine⟨ρ',hd.1,q2.trans (hd.2.far rfl),hd.2.rvk q3 (.inr ?_)⟩;show iV [(1000,false)] n none=false;simp[iV];omega
  ·cases hz
 ·cases hz
theorem Sk{w w':World}{X:Nat->Prop}{ρ:dX}(hr:Rel w X ρ (ap []))(hb:Below w.heap.size w w'):Rel w' X ρ (ap [])/\Far false w ρ (ap []) w' ρ (ap []):=by
 have hl:∀id sub,¬live (ap []) id sub:=fun id sub=>by
  have hd:ap [] id=.dead:=by
   unfold ap;split<;>simp
  cases sub with
  |none=>simp[live,hd]
  |some p=>simp[live,hd]
 refine⟨⟨fun id sub _ _ h=>(hl id sub h).elim,fun id sub h=>(hl id sub h).elim,fun id=>?_,fun b hb'=>axX (hr.xl b hb') hb.size⟩,hb.os,hb.tape,hb.output,hb.size,fun b h1 _=>hb.block b h1,fun b ⟨id,sub,h,_⟩=>(hl id sub h).elim,fun id _ h=>?_,fun h=>by cases h⟩
 ·have hd:ap [] id=.dead:=by
   unfold ap;split<;>simp
  rw[hd];trivial
 ·exfalso;apply h;unfold ap;split<;>simp
theorem amq{P:Program}{I:Inv}{ρ0:Ren}(L:Lays2.n15 P ρ0)(hf:ρ0.f 15=F.slices_Clone_int_int_)(he:∀a w,(callFunc F.slices_Clone_int_int_ a).run P w=.ok (.enter F.slices_Clone_int_int_ a) w)
  (hR:pF P I false F.slices_Clone_int_int_ (R0 F.slices_Clone_int_int_)):pF P I false F.slices_Clone_int_int_ clF:=by
 intro args obs obs' res w X ρ vals n hz hn hi hr hs hv;unfold clF at hz;split at hz
 ·cases hz;obtain⟨u0,h0⟩:=HM hs (i:=0) rfl;have d0:=(hv 0 _ _ rfl h0).sl_inv;obtain rfl:=asp hs h0;cases d0 with
  |sl _ _ a cap ad vs hc ha hk hv2 hl hr2=>
   unfold Enters;rw[he];have fin:∀ (w':World) (b:Option Addr) (c:Nat),Below w.heap.size w w'->∃ρ',Rel w' X ρ' (mat n (ap []) (.sl 1 [])).2/\Far false w ρ (ap []) w' ρ' (mat n (ap []) (.sl 1 [])).2/\
     RV w' (aJ w' X (mat n (ap []) (.sl 1 [])).2 ρ') ρ' (mat n (ap []) (.sl 1 [])).2 (mat n (ap []) (.sl 1 [])).1 (.slice b 0 c):=fun w' b c hb=>
    ⟨ρ,(Sk hr hb).1,(Sk hr hb).2,.dat (.sl 1 [] b c ad vs (axz _) (fun h=>absurd rfl h) (fun _ h=>by cases h) (fun i row j c h=>by simp at h) (fun _ h=>by cases h) (fun i row j c h=>by simp at h))⟩
   cases a with
   |none=>
    have key:=Any.slices_Clone_int_nil L 0 cap w;rw[hf]at key;refine Calls.mono key fun e w' hw=>?_;obtain⟨rfl,rfl⟩:=hw;exact fin _ _ _ (Below.refl _ _)
   |some a0=>
    have key:=Any.slices_Clone_int_zero L a0 cap w;rw[hf]at key;refine Calls.mono key fun e w' hw=>?_;obtain⟨v',rfl,⟨_,hown⟩,_,hb⟩:=hw;rcases hown with⟨rfl,_⟩| ⟨g,c2,Ij,rfl,_⟩
    ·exact fin _ _ _ hb
    ·exact fin _ _ _ hb
 ·rename_i r rs;split at hz
  ·rename_i hb;cases hz;exact hR (ahl hb) hn hi hr hs hv
  ·cases hz
 ·cases hz
abbrev TX(f:Nat)(fd:FD):Prop:=Text Go.Proofs.Tryz.prog f fd
theorem tx{f:Nat}{fd:FD}{fn:Func}(h:Go.Proofs.Tryz.prog.funcs[f]?=some fn)(h2: (fn.body.bind fun c=>iQ Go.Proofs.Tryz.prog fn.ntmps c fd.body,GL Go.Proofs.Tryz.prog fn.results.toList,decide (fn.ntmps<=1000),fn.name== "runtime.NumGoroutine")= (some fd.body,some fd.res,true,false)):TX f fd:=by
 simp only[Prod.mk.injEq,awN,decide_eq_true_eq]at h2;obtain⟨⟨c,h3,h4⟩,h5,h6,h7⟩:=h2;exact⟨⟨fn,c,_,h,h3,rfl,h6,h4,h5,h7⟩⟩
theorem tn:∀p∈ ([]:List (Nat×FD)),TX p.1 p.2:=fun _ h=>by cases h
theorem tc{f:Nat}{fd:FD}{l:List (Nat×FD)}(h1:TX f fd)(h2:∀p∈l,TX p.1 p.2):∀p∈ (f,fd)::l,TX p.1 p.2:=fun p hp=>by
 rcases List.mem_cons.1 hp with rfl|hp
 ·exact h1
 ·exact h2 p hp
set_option maxRecDepth 100000 in
theorem Wx:∀p∈ahG,TX p.1 p.2:=tc (tx func239 κ) (tc (tx func249 κ) (tc (tx func260 κ) (tc (tx func261 κ) (tc (tx func263 κ) (tc (tx func266 κ) (tc (tx func267 κ) (tc (tx func269 κ) (tc (tx func161 κ) (tc (tx func198 κ) (tc (tx func206 κ) (tc (tx func207 κ) (tc (tx func208 κ) (tc (tx func209 κ) (tc (tx func210 κ) (tc (tx func213 κ) (tc (tx func231 κ) (tc (tx func234 κ) (tc (tx func237 κ) (tc (tx func238 κ) (tc (tx func241 κ) (tc (tx func243 κ) (tc (tx func250 κ) (tc (tx func251 κ) (tc (tx func253 κ) (tc (tx func254 κ) (tc (tx func262 κ) (tc (tx func264 κ) (tc (tx func265 κ) (tc (tx func270 κ) (tc (tx func200 κ) (tc (tx func235 κ) (tc (tx func26 κ) (tc (tx func37 κ) (tc (tx func54 κ) (tc (tx func59 κ) (tc (tx func78 κ) (tc (tx func89 κ) (tc (tx func120 κ) (tc (tx func121 κ) (tc (tx func122 κ) (tc (tx func141 κ) (tc (tx func145 κ) (tc (tx func148 κ) (tc (tx func151 κ) (tc (tx func154 κ) (tc (tx func158 κ) (tc (tx func201 κ) (tc (tx func205 κ) (tc (tx func214 κ) (tc (tx func223 κ) (tc (tx func224 κ) (tc (tx func240 κ) (tc (tx func255 κ) (tc (tx func85 κ) (tc (tx func86 κ) (tc (tx func88 κ) (tc (tx func98 κ) (tc (tx func102 κ) (tc (tx func103 κ) (tc (tx func146 κ) (tc (tx func147 κ) (tc (tx func153 κ) (tc (tx func160 κ) (tc (tx func162 κ) (tc (tx func163 κ) (tc (tx func177 κ) (tc (tx func179 κ) (tc (tx func196 κ) (tc (tx func197 κ) (tc (tx func199 κ) (tc (tx func204 κ) (tc (tx func211 κ) (tc (tx func212 κ) (tc (tx func256 κ) (tc (tx func268 κ) (tc (tx func118 κ) (tc (tx func134 κ) (tc (tx func135 κ) (tc (tx func140 κ) (tc (tx func143 κ) (tc (tx func164 κ) (tc (tx func165 κ) (tc (tx func176 κ) (tc (tx func178 κ) (tc (tx func194 κ) (tc (tx func195 κ) (tc (tx func215 κ) (tc (tx func216 κ) (tc (tx func217 κ) (tc (tx func218 κ) (tc (tx func219 κ) (tc (tx func220 κ) (tc (tx func232 κ) (tc (tx func233 κ) (tc (tx func244 κ) (tc (tx func245 κ) (tc (tx func246 κ) (tc (tx func17 κ) (tc (tx func22 κ) (tc (tx func45 κ) (tc (tx func49 κ) (tc (tx func50 κ) (tc (tx func61 κ) (tc (tx func63 κ) (tc (tx func64 κ) (tc (tx func68 κ) (tc (tx func82 κ) (tc (tx func100 κ) (tc (tx func115 κ) (tc (tx func116 κ) (tc (tx func117 κ) (tc (tx func125 κ) (tc (tx func132 κ) (tc (tx func133 κ) (tc (tx func144 κ) (tc (tx func181 κ) (tc (tx func182 κ) (tc (tx func189 κ) (tc (tx func222 κ) (tc (tx func247 κ) (tc (tx func248 κ) (tc (tx func257 κ) (tc (tx func258 κ) (tc (tx func259 κ) (tc (tx func65 κ) (tc (tx func123 κ) (tc (tx func124 κ) (tc (tx func126 κ) (tc (tx func127 κ) (tc (tx func180 κ) (tc (tx func183 κ) (tc (tx func184 κ) (tc (tx func185 κ) (tc (tx func186 κ) (tc (tx func187 κ) (tc (tx func188 κ) (tc (tx func221 κ) (tc (tx func225 κ) (tc (tx func226 κ) (tc (tx func227 κ) (tc (tx func228 κ) (tc (tx func229 κ) (tc (tx func230 κ) (tc (tx func16 κ) (tc (tx func27 κ) (tc (tx func31 κ) (tc (tx func32 κ) (tc (tx func48 κ) (tc (tx func75 κ) (tc (tx func84 κ) (tc (tx func90 κ) (tc (tx func91 κ) (tc (tx func92 κ) (tc (tx func96 κ) (tc (tx func97 κ) (tc (tx func113 κ) (tc (tx func114 κ) (tc (tx func149 κ) (tc (tx func150 κ) (tc (tx func152 κ) (tc (tx func159 κ) (tc (tx func29 κ) (tc (tx func30 κ) (tc (tx func33 κ) (tc (tx func51 κ) (tc (tx func52 κ) (tc (tx func57 κ) (tc (tx func62 κ) (tc (tx func69 κ) (tc (tx func71 κ) (tc (tx func73 κ) (tc (tx func81 κ) (tc (tx func83 κ) (tc (tx func94 κ) (tc (tx func95 κ) (tc (tx func99 κ) (tc (tx func101 κ) (tc (tx func136 κ) (tc (tx func139 κ) (tc (tx func142 κ) (tc (tx func157 κ) (tc (tx func193 κ) (tc (tx func35 κ) (tc (tx func41 κ) (tc (tx func58 κ) (tc (tx func104 κ) (tc (tx func105 κ) (tc (tx func110 κ) (tc (tx func111 κ) (tc (tx func112 κ) (tc (tx func166 κ) (tc (tx func167 κ) (tc (tx func168 κ) (tc (tx func169 κ) (tc (tx func172 κ) (tc (tx func173 κ) (tc (tx func174 κ) (tc (tx func175 κ) (tc (tx func130 κ) (tc (tx func192 κ) (tc (tx func129 κ) (tc (tx func137 κ) (tc (tx func138 κ) (tc (tx func191 κ) (tc (tx func66 κ) (tc (tx func70 κ) (tc (tx func76 κ) (tc (tx func93 κ) (tc (tx func108 κ) (tc (tx func128 κ) (tc (tx func155 κ) (tc (tx func156 κ) (tc (tx func171 κ) (tc (tx func190 κ) (tc (tx func9 κ) (tc (tx func12 κ) (tc (tx func13 κ) (tc (tx func15 κ) (tc (tx func18 κ) (tc (tx func19 κ) (tc (tx func25 κ) (tc (tx func28 κ) (tc (tx func43 κ) (tc (tx func46 κ) (tc (tx func60 κ) (tc (tx func77 κ) (tc (tx func79 κ) (tc (tx func80 κ) (tn)))))))))))))))))))))))))))))))))))))))))))))))))))))))))))))))))))))))))))))))))))))))))))))))))))))))))))))))))))))))))))))))))))))))))))))))))))))))))))))))))))))))))))))))))))))))))))))))))))))))))))))))))))))))))))))))))))))
end Go.Ab
