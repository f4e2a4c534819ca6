/-
  A law of tapes on models holds at every input that the statement speaks of, under the conditions that its card names. Part G1.
-/
import Derived.Test.YtighajjmobfadaaGreatDoorProg
import Derived.Shelf.Spec.TrailingZeros
import Derived.Test.YtighajjmobfadaaGreatDoorF1
open Nat renaming add_assoc → aDE, add_zero → aDm, div_add_mod → aDC, le_of_ble_eq_true → aDa, le_refl → aCJ, le_trans → aCP, lt_of_le_of_lt → aDe, lt_of_lt_of_le → aDF, min_eq_left → aDx, mul_assoc → aC9, mul_le_mul_right → aCS, pow_add → aCU, pow_le_pow_right → aDn, pow_succ → aDw, reduceMod → aDo, reduceSub → aDi, two_pow_pos → aC1, zero_add → aCI, zero_le → aC7
open Int renaming eq_ofNat_of_zero_le → aDG, lt_irrefl → aDl, natCast_zero → aDf, reduceEq → aCZ, reduceLE → aC2, reduceLT → aCV, toNat_natCast → aCQ
open Bool renaming and_eq_true → aCK, and_false → aDH, and_self → aDv, false_and → aCO, false_eq_true → aDy, false_ne_true → aCR, not_eq_true' → aDJ, true_and → aCM
open List renaming all_cons → aDb, all_eq_true → aC5, append_assoc → aDr, append_nil → aCY, cons_append → aDd, drop_eq_getElem_cons → aC4, drop_eq_nil_of_le → aC3, getElem_mem → aC0, length_append → aDA, length_cons → aDp, length_drop → aDL, length_nil → aDs, length_replicate → aDK, length_take → aCW, map_congr_left → aDk, map_cons → aDc, map_id' → aDu, map_nil → aDh, nil_append → aCT, replicate → aCG, take_of_length_le → aCX
open Option renaming bind_eq_some_iff → aCH, bind_some → aCN, map_eq_some_iff → aCL, map_some → aDt
open Rat renaming le_trans → aEi, mul_le_mul_of_nonneg_right → aDB, pow_succ → aEh
set_option linter.all false
namespace Go.Ab
open Go Go.IntWalk Go.Proofs Go.Shelf
set_option maxRecDepth 4000
set_option maxHeartbeats 8000000
variable{A l1 r1 r2:List Rt}{M i1 i2 id:Nat}{blk:Option (Ex×St)}{dom:List Ri}{p v':Int}{pk:List Nat}{rows:List (List AV)}{t:Rt}{x y:Ri}{β:Type}
theorem TE{a b:Rd}(oa:Ok0 a)(ob:Ok0 b):R faV [af a,af b] []=some (rV (oQ a b),[]):=by
 refine au X6 rfl ?_;have v1:=eS oa;have v2:=eS ob;simp only[af,ai]at v1 v2;unfold oQ;cases va:vd a with
 |false=>
  rw[va]at v1;simp only[vD,rV,aB,af,ai,go_sem,v1]
 |true=>
  rw[va]at v1;cases vb:vd b with
  |false=>
   rw[vb]at v2;simp only[vD,rV,aB,af,ai,go_sem,v1,v2]
  |true=>
   rw[vb]at v2;obtain⟨z1,z2⟩:=we vb;have hn:R faS [af b] []=some (af (ed b),[]):=Ch ob;have hs:=acb oa (yE ob) va z2;rw[z1,←Int.sub_eq_add_neg]at hs;simp only[rV,af,ai]at hn hs;simp only[vD,rV,af,ai,go_sem,v1,v2,hn,hs]
theorem aon{d:Rd}{up:Bool}(h:(cw d p up).2=0):vd d=true/\(8<=p/\p<=512):=by
 unfold cw at h;by_cases hf:aY p [d]=0
 ·unfold aY at hf;grind
 grind
theorem TF{a b:Rd}(vb:vd b=true)(h:(oQ a b).2=0):zI (oQ a b).1=zI a-zI b:=by
 grind[aln,Td,we,Int.sub_eq_add_neg]
theorem aoo{d:Rd}(ok:Ok0 d):R fdS [af d,I p] []=some (rV (nC d p),[]):=by
 refine au X5 rfl ?_;have hd:=LG ok (p:=p);have hu:=SY ok (p:=p);unfold nC;by_cases h0:(cw d p false).2=0
 ·rw[if_pos h0];obtain⟨v,hp⟩:=aon h0;have vl:=Ta (d:=d) (p:=p) (up:=false);have ol:=Bg (d:=d) (p:=p) (up:=false);by_cases h1:(cw d p true).2=0
  ·rw[if_pos h1];have vh:=Ta (d:=d) (p:=p) (up:=true);have oh:=Bg (d:=d) (p:=p) (up:=true);have hk:=aom ok v hp h0 h1;generalize cw d p false=lo at*
   generalize cw d p true=hi at*
   obtain⟨lo,el⟩:=lo;obtain⟨hi,eh⟩:=hi;have h0':el=0:=h0;have h1':eh=0:=h1;subst h0';subst h1';have s1:=TE ok ol;have s2:=TE oh ok;have c:=pG (Bu d lo).2 (Bu hi d).2;rw[if_pos ⟨(Bu d lo).1,(Bu hi d).1⟩,TF vl hk.below,TF v hk.above]at c;show _=some (rV (Nd (zI d) lo hi,0),[]);unfold Nd;generalize oQ d lo=x at s1 c;generalize oQ hi d=y at s2 c;simp only[rV,af,ai]at hd hu s1 s2 c;rcases qG (zI d-zI lo) (zI hi-zI d)with⟨g,e⟩| ⟨g,e⟩| ⟨g,e⟩
   ·rw[e]at c;rw[if_pos g];simp only[iO,rV,af,ai,go_sem,aCZ,hd,hu,s1,s2,c]
   ·rw[e]at c;rw[if_neg ω,if_neg ω];unfold Zv;by_cases m1:hi.m.length=0
    ·have e1:((hi.m.length:Int)=0)=True:=tt;rw[if_pos (.inl m1)];simp only[iO,rV,af,ai,go_sem,aCZ,hd,hu,s1,s2,c,e1]
    ·have e1:((hi.m.length:Int)=0)=False:=ff;by_cases m2:lo.m.length=0
     ·have e2:(0< (lo.m.length:Int))=False:=ff;rw[if_neg ω];simp only[iO,rV,af,ai,go_sem,aCZ,hd,hu,s1,s2,c,e1,e2]
     ·have e2:(0< (lo.m.length:Int))=True:=tt;by_cases m3:lo.e<hi.e
      ·have e3:(lo.e<hi.e)=True:=eq_true m3;rw[if_pos (.inr ⟨m2,m3⟩)];simp only[iO,rV,af,ai,go_sem,aCZ,hd,hu,s1,s2,c,e1,e2,e3]
      ·have e3:(lo.e<hi.e)=False:=eq_false m3;rw[if_neg ω];simp only[iO,rV,af,ai,go_sem,aCZ,hd,hu,s1,s2,c,e1,e2,e3]
   ·rw[e]at c;rw[if_neg ω,if_pos ω];simp only[iO,rV,af,ai,go_sem,aCZ,hd,hu,s1,s2,c]
  ·rw[if_neg h1];generalize cw d p false=lo at*
   generalize cw d p true=hi at*
   have e1:(hi.2=0)=False:=eq_false h1;have e0:(lo.2=0)=True:=eq_true h0;simp only[rV,af,ai]at hd hu;simp only[iO,rV,aB,af,ai,go_sem,hd,hu,e0,e1]
 ·rw[if_neg h0];generalize cw d p false=lo at*
  have e0:(lo.2=0)=False:=eq_false h0;simp only[rV,af,ai]at hd;simp only[iO,rV,aB,af,ai,go_sem,hd,e0]
theorem Gt(d:Rd)(p:Int):vd (nC d p).1=true/\Ok0 (nC d p).1:=by
 unfold nC;split
 ·split
  ·unfold Nd Zv;grind[Ta,Bg]
  ·exact aO
 ·exact aO
def ej(x:List Int)(c:Rd)(l:List Rt):List Rt:=if c.m.length=0 then l else⟨x,c⟩::l
def xQ(p:Int):List Rt->Option (List Rt×List Rt)
 |[]=>some ([],[])
 |t::ts=>if(nC t.c p).2=0 then(if(oQ t.c (nC t.c p).1).2=0 then(xQ p ts).map fun q=>(ej t.exps (nC t.c p).1 q.1,ej t.exps (oQ t.c (nC t.c p).1).1 q.2)else none)else none
def fY(a:Rp)(p:Int):(Rp×Rp)×Int:=if vp a=true then(if p<8\/512<p then((p0,p0),2)else match xQ p a.terms with
 |none=>((p0,p0),9)
 |some q=>((⟨a.vars,q.1⟩,⟨a.vars,q.2⟩),0))else((p0,p0),1)
def Zw(r:(Rp×Rp)×Int):AV:=.tup [bc r.1.1,bc r.1.2,I r.2]
def TG(blk:Option (Ex×St))(i1 i2:Nat)(S:ap)(v':Int)(l1 l2:List Rt):Option (List Rt×List Rt)->Prop
 |some q=>Gp blk i1 i2 S v' l1 l2 q.1 q.2
 |none=>∃hh,blk=some (.ret,⟨upd (upd (upd bk 6 (I 9)) 5 (ac 5)) 4 (ac 4),hh⟩)/\hh 4=.bx [I 0,.emp]/\hh 5=.bx [I 0,.emp]
theorem Hh{x:List Int}{c:Rd}{l r:List Rt}:l++ej x c []++r=l++ej x c r:=by
 unfold ej;split
 ·rw[aCY]
 ·rw[aDr];rfl
theorem TG.step{blk:Option (Ex×St)}{i1 i2:Nat}{S:ap}{v':Int}{l1 l2:List Rt}{x:List Int}{c d:Rd}:∀ {o:Option (List Rt×List Rt)},TG blk i1 i2 S v' (l1++ej x c []) (l2++ej x d []) o->TG blk i1 i2 S v' l1 l2 (o.map fun q=>(ej x c q.1,ej x d q.2)):=by
 intro o h;cases o with
 |none=>exact h
 |some q=>
  obtain⟨hh,c1,c2,h1,h2,h3,h4,h5,h6,h7⟩:=h;exact⟨hh,c1,c2,h1,h2,h3,h4,h5,by rwa[Hh]at h6,by rwa[Hh]at h7⟩
theorem VT.put{v:Int}{d:Rd}(h:VT v t)(od:Ok0 d)(vdd:vd d=true)(nd:d.m.length≠0):VT v ⟨t.exps,d⟩:=⟨od,h.len,h.v8,vdd,nd,h.b,h.d⟩
theorem alp{v v' p:Int}(hA:Cl v A)(hn:A.length<=100000){o2:Ob}(k2c:∀ids,aF ids o2=true):
  ∀ (k i:Nat),i+k=A.length->∀ (c1 c2:AV) (l1 l2:List Rt),n9 c1 l1->n9 c2 l2->Bf v l1 (A.drop i)->Bf v l2 (A.drop i)->l1.length+k<=1000000->l2.length+k<=1000000->∀ (s:ap) (h:ae),s 1=I p->s 4=ac 4->s 5=ac 5->s 7=ac 2248->s 8=ac 2272->s 36=.sl 4 (aL A)->s 37=I A.length->s 38=I i->h 2=o2->h 4=.bx [I 0,.emp]->h 5=.bx [I 0,.emp]->h 2248=t3 v' c1 0->h 2272=t3 v' c2 0->
  TG (ak 1 [4,5,7,8] (av (am R (az false) fQ) [1,4,5,7,8,36,37,38] [2,4,5,2248,2272] s h)) 2248 2272 (upd (upd (upd (upd bk 8 (ac 2272)) 7 (ac 2248)) 5 (ac 5)) 4 (ac 4)) v' l1 l2 (xQ p (A.drop i)):=by
 intro k;induction k with
 |zero=>
  intro i hi c1 c2 l1 l2 hc1 hc2 _ _ _ _ s h g1 g4 g5 g7 g8 g36 g37 g38 k2 k4 k5 k2248 k2272;have e1:((i:Int)< (A.length:Int))=False:=ff;have ho1:=(mD (v:=v') (e:=0) hc1).cl [2,4,5,2248,2272];have ho2:=(mD (v:=v') (e:=0) hc2).cl [2,4,5,2248,2272];have ho3:=k2c [2,4,5,2248,2272];rw[aC3 ω,ah];refine⟨?hh0,c1,c2,?_,?_,?_,?_,?_,by grind,by grind⟩;rotate_left
  ·simp only[fQ,go_sem,g1,g4,g5,g7,g8,g36,g37,g38,k2,k4,k5,k2248,k2272,ho1,ho2,ho3,e1];rfl
  ·rfl
  ·rfl
  ·rfl
  ·rfl
 |succ k ih=>
  intro i hi c1 c2 l1 l2 hc1 hc2 b1 b2 hl1 hl2 s h g1 g4 g5 g7 g8 g36 g37 g38 k2 k4 k5 k2248 k2272;have hlt:i<A.length:=ω
  have e1:((i:Int)< (A.length:Int))=True:=tt;have e2:aZ (aL A) (i:Int)=some (.ipt (ce A[i])):=iY rfl (List.getElem?_eq_getElem hlt);have e5:aG ((i:Int)+1)=((i+1:Nat):Int):=wi;have ho1:=(mD (v:=v') (e:=0) hc1).cl [2,4,5,2248,2272];have ho2:=(mD (v:=v') (e:=0) hc2).cl [2,4,5,2248,2272];have ho3:=k2c [2,4,5,2248,2272];have hAd:=hA.dropN i;rw[aC4 hlt]at b1 b2 hAd⊢;have ih':=ih (i+1) ω;have vt:=hAd.head;have hrow:∀q ts,xQ p (q::ts)=if(nC q.c p).2=0 then(if(oQ q.c (nC q.c p).1).2=0 then(xQ p ts).map fun x=>(ej q.exps (nC q.c p).1 x.1,ej q.exps (oQ q.c (nC q.c p).1).1 x.2)else none)else none:=fun q ts=>rfl
  rw[hrow];generalize A[i]=t at e2 vt b1 b2 hAd⊢;have hnr:=aoo vt.c (p:=p);obtain⟨vm,om⟩:=Gt t.c p;rw[ah];generalize av _ _ _=L at ih'⊢;generalize nC t.c p=m at hnr vm om⊢;obtain⟨m,em⟩:=m;have hsb:=TE vt.c om;obtain⟨vq,oq⟩:=Bu t.c m;simp only at hsb vq oq;generalize oQ t.c m=q at hsb vq oq⊢;obtain⟨q,eq⟩:=q;simp only[ce]at e2;simp only[rV,af,ai]at hnr hsb;by_cases hm:em=0
  ·subst hm;rw[if_pos rfl];by_cases hq:eq=0
   ·subst hq;rw[if_pos rfl];refine TG.step ?_;simp only at vm om vq oq;by_cases zm:m.m.length=0
    ·have f1:(0< (m.m.length:Int))=False:=ff;have x1:l1++ej t.exps m []=l1:=by simp_all[ej,if_pos,aCY]
     simp only[x1];by_cases zq:q.m.length=0
     ·have f2:(0< (q.m.length:Int))=False:=ff;have x2:l2++ej t.exps q []=l2:=by simp_all[ej,if_pos,aCY]
      simp only[x2];have ih2:=ih' c1 c2 l1 l2 hc1 hc2 b1.drop b2.drop ω ω;simp only[fQ,go_sem,g1,g4,g5,g7,g8,g36,g37,g38,k2,k4,k5,k2248,k2272,ho1,ho2,ho3,e1,e2,hnr,hsb,f1,f2,e5];refine ih2 _ _ ?_ ?_ ?_ ?_ ?_ ?_ ?_ ?_ ?_ ?_ ?_ ?_ ?_
      all_goals first|rfl|assumption
     ·have f2:(0< (q.m.length:Int))=True:=tt;have x2:l2++ej t.exps q []=l2++[⟨t.exps,q⟩]:=by simp_all[ej,if_neg]
      simp only[x2];obtain⟨c4,s3,s4⟩:=Gn (v':=v') b2 (vt.put oq vq zq) ω hc2;have hcall2:=fun(h:ae) (hh:h 2272=t3 v' c2 0) (d:Nat)=>dX (aW.1.2.1 false) rfl (rK (d:=d) hh hc2 s4 s3);have ih2:=ih' c1 c4 l1 _ hc1 s4 b1.drop (b2.push hAd (vt.put oq vq zq)) ω γ;simp only[af,ai]at hcall2;simp only[fQ,go_sem,g1,g4,g5,g7,g8,g36,g37,g38,k2,k4,k5,k2248,k2272,ho1,ho2,ho3,e1,e2,hnr,hsb,f1,f2];rw[hcall2 _ rfl];simp only[go_sem,e5];refine ih2 _ _ ?_ ?_ ?_ ?_ ?_ ?_ ?_ ?_ ?_ ?_ ?_ ?_ ?_
      all_goals first|rfl|assumption
    ·have f1:(0< (m.m.length:Int))=True:=tt;have x1:l1++ej t.exps m []=l1++[⟨t.exps,m⟩]:=by simp_all[ej,if_neg]
     simp only[x1];obtain⟨c3,s1,s2⟩:=Gn (v':=v') b1 (vt.put om vm zm) ω hc1;have hcall:=fun(h:ae) (hh:h 2248=t3 v' c1 0) (d:Nat)=>dX (aW.1.2.1 false) rfl (rK (d:=d) hh hc1 s2 s1);have bp1:=b1.push hAd (vt.put om vm zm);have lp1:(l1++[(⟨t.exps,m⟩:Rt)]).length+k<=1000000:=γ
     simp only[af,ai]at hcall;by_cases zq:q.m.length=0
     ·have f2:(0< (q.m.length:Int))=False:=ff;have x2:l2++ej t.exps q []=l2:=by simp_all[ej,if_pos,aCY]
      simp only[x2];have ih2:=ih' c3 c2 _ l2 s2 hc2 bp1 b2.drop lp1 ω;simp only[fQ,go_sem,g1,g4,g5,g7,g8,g36,g37,g38,k2,k4,k5,k2248,k2272,ho1,ho2,ho3,e1,e2,hnr,hsb,f1];rw[hcall _ rfl];simp only[go_sem,f2,e5];refine ih2 _ _ ?_ ?_ ?_ ?_ ?_ ?_ ?_ ?_ ?_ ?_ ?_ ?_ ?_
      all_goals first|rfl|assumption
     ·have f2:(0< (q.m.length:Int))=True:=tt;have x2:l2++ej t.exps q []=l2++[⟨t.exps,q⟩]:=by unfold ej;rw[if_neg zq]
      simp only[x2];obtain⟨c4,s3,s4⟩:=Gn (v':=v') b2 (vt.put oq vq zq) ω hc2;have hcall2:=fun(h:ae) (hh:h 2272=t3 v' c2 0) (d:Nat)=>dX (aW.1.2.1 false) rfl (rK (d:=d) hh hc2 s4 s3);have ih2:=ih' c3 c4 _ _ s2 s4 bp1 (b2.push hAd (vt.put oq vq zq)) lp1 γ;simp only[af,ai]at hcall2;simp only[fQ,go_sem,g1,g4,g5,g7,g8,g36,g37,g38,k2,k4,k5,k2248,k2272,ho1,ho2,ho3,e1,e2,hnr,hsb,f1];rw[hcall _ rfl];simp only[go_sem,f2];rw[hcall2 _ rfl];simp only[go_sem,e5];refine ih2 _ _ ?_ ?_ ?_ ?_ ?_ ?_ ?_ ?_ ?_ ?_ ?_ ?_ ?_
      all_goals first|rfl|assumption
   ·rw[if_neg hq];have f1:(eq=0)=False:=ff hq;refine⟨?hh1,?_,?_,?_⟩;rotate_left
    ·simp only[fQ,go_sem,g1,g4,g5,g7,g8,g36,g37,g38,k2,k4,k5,k2248,k2272,ho1,ho2,ho3,e1,e2,hnr,hsb,f1];rfl
    ·rfl
    ·rfl
  ·rw[if_neg hm];have f1:(em=0)=False:=ff hm;refine⟨?hh2,?_,?_,?_⟩;rotate_left
   ·simp only[fQ,go_sem,g1,g4,g5,g7,g8,g36,g37,g38,k2,k4,k5,k2248,k2272,ho1,ho2,ho3,e1,e2,hnr,f1];rfl
   ·rfl
   ·rfl
theorem atS{v:Int}(hA:Cl v A)(hn:A.length<=100000){o2:Ob}(k2c:∀ids,aF ids o2=true)(s:ap)(h:ae)(X:Option (Ex×St))(hX:ak 1 [4,5,7,8] (av (am R (az false) fQ) [1,4,5,7,8,36,37,38] [2,4,5,2248,2272] s h)=X)
  (g1:s 1=I p) (g4:s 4=ac 4) (g5:s 5=ac 5) (g7:s 7=ac 2248) (g8:s 8=ac 2272) (g36:s 36=.sl 4 (aL A)) (g37:s 37=I A.length) (g38:s 38=I 0) (k2:h 2=o2) (k4:h 4=.bx [I 0,.emp]) (k5:h 5=.bx [I 0,.emp]) (k2248:h 2248=t3 v' .emp 0) (k2272:h 2272=t3 v' .emp 0):
  TG X 2248 2272 (upd (upd (upd (upd bk 8 (ac 2272)) 7 (ac 2248)) 5 (ac 5)) 4 (ac 4)) v' [] [] (xQ p A):=by
 subst hX;exact alp hA hn k2c A.length 0 (aCI _) .emp .emp [] [] (.inr ⟨rfl,rfl⟩) (.inr ⟨rfl,rfl⟩) (Bf.nil _) (Bf.nil _) γ γ s h g1 g4 g5 g7 g8 g36 g37 g38 k2 k4 k5 k2248 k2272
theorem aip{a:Rp}(oa:OkP a):R fcU [bc a,I p] []=some (Zw (fY a p),[]):=by
 refine au XW rfl ?_;have v1:=xL oa;simp only[bc]at v1;unfold fY;cases va:vp a with
 |false=>
  rw[va]at v1;simp only[qR,wZ,bc,go_sem,v1];rfl
 |true=>
  rw[va]at v1;rw[if_pos rfl];by_cases h8:p<8
  ·have e0:(p<8)=True:=eq_true h8;simp only[qR,wZ,bc,go_sem,v1,e0];rfl
  ·have e0:(p<8)=False:=eq_false h8;by_cases h9:512<p
   ·have e3:(512<p)=True:=eq_true h9;simp only[qR,wZ,bc,go_sem,v1,e0,e3];rfl
   ·have e3:(512<p)=False:=eq_false h9;rw[if_neg ω];obtain⟨ka,a0,a8,al⟩:=gU oa va;have hemp:=Di (v:=a.vars);have hl:=atS (v:=a.vars) (v':=a.vars) (p:=p) ka ω (o2:=.bx [I a.vars,.sl 4 (aL a.terms)]) (fun _=>rfl);simp only[qR,wZ,bc,go_sem,v1,e0,e3,hemp,rL];generalize hX:ak 1 _ _=X;have hM:=hl _ _ _ hX rfl rfl rfl rfl rfl rfl rfl rfl rfl rfl rfl rfl rfl;cases hr:xQ p a.terms with
    |none=>
     rw[hr]at hM;obtain⟨hh,rfl,q4,q5⟩:=hM;simp only[Zw,p0,bc,go_sem,q4,q5];rfl
    |some q=>
     rw[hr]at hM;obtain⟨hh,c1,c2,rfl,q4,q5,q1,q2,i1,i2⟩:=hM;obtain⟨r1,r2⟩:=q;simp only[t3]at q1 q2;rcases i1 with rfl| ⟨rfl,rfl⟩
     ·rcases i2 with rfl| ⟨rfl,rfl⟩
      ·simp only[Zw,bc,go_sem,aDi,aDo,q4,q5,q1,q2,xO,Bq,aDc,aDh,zY,xN]
      ·simp only[Zw,bc,go_sem,aDi,aDo,q4,q5,q1,q2,xO,Bq,aDc,aDh,zY,xN,Dj];rfl
     ·rcases i2 with rfl| ⟨rfl,rfl⟩
      ·simp only[Zw,bc,go_sem,aDi,aDo,q4,q5,q1,q2,xO,Bq,aDc,aDh,zY,xN,Dj];rfl
      ·simp only[Zw,bc,go_sem,aDi,aDo,q4,q5,q1,q2,xO,Bq,aDc,aDh,zY,Dj];rfl
def PI(blk:Option (Ex×St))(i1 i2:Nat)(S:ap)(v':Int)(l1 l2 r1 r2:List Rt):Prop:=
 ∃hh c1 c2,blk=some (.normal,⟨S,hh⟩)/\hh 4=.bx [I 0,.emp]/\hh 5=.bx [I 0,.emp]/\hh i1=.bx [I v',c1]/\hh i2=.bx [I v',c2]/\n9 c1 (l1++r1)/\n9 c2 (l2++r2)
theorem PI.p1{S:ap}{l2:List Rt}(h:PI blk i1 i2 S v' (l1++[t]) l2 r1 r2):PI blk i1 i2 S v' l1 l2 (t::r1) r2:=by
 obtain⟨hh,c1,c2,h1,h2,h3,h4,h5,h6,h7⟩:=h;exact⟨hh,c1,c2,h1,h2,h3,h4,h5,by rwa[List.append_cons],h7⟩
theorem PI.p2{S:ap}{l2:List Rt}(h:PI blk i1 i2 S v' l1 (l2++[t]) r1 r2):PI blk i1 i2 S v' l1 l2 r1 (t::r2):=by
 obtain⟨hh,c1,c2,h1,h2,h3,h4,h5,h6,h7⟩:=h;exact⟨hh,c1,c2,h1,h2,h3,h4,h5,h6,by rwa[List.append_cons]⟩
def alq(blk:Option (Ex×St))(i1 i2:Nat)(S:ap)(v':Int)(l1 l2:List Rt):Option (List Rt×List Rt)->Prop
 |some q=>PI blk i1 i2 S v' l1 l2 q.1 q.2
 |none=>∃hh,blk=some (.ret,⟨upd (upd (upd bk 6 (I 9)) 5 (ac 5)) 4 (ac 4),hh⟩)/\hh 4=.bx [I 0,.emp]/\hh 5=.bx [I 0,.emp]
theorem alq.step{blk:Option (Ex×St)}{i1 i2:Nat}{S:ap}{v':Int}{l1 l2:List Rt}{x:List Int}{c d:Rd}:∀ {o:Option (List Rt×List Rt)},alq blk i1 i2 S v' (l1++ej x c []) (l2++ej x d []) o->alq blk i1 i2 S v' l1 l2 (o.map fun q=>(ej x c q.1,ej x d q.2)):=by
 intro o h;cases o with
 |none=>exact h
 |some q=>
  obtain⟨hh,c1,c2,h1,h2,h3,h4,h5,h6,h7⟩:=h;exact⟨hh,c1,c2,h1,h2,h3,h4,h5,by rwa[Hh]at h6,by rwa[Hh]at h7⟩
theorem Cl.filter{v:Int}{l:List Rt}(h:Cl v l)(p:Rt->Bool):Cl v (l.filter p):=⟨fun t ht=>h.t t (List.mem_filter.1 ht).1,h.s.filter p⟩
theorem Hi{a:Rp}{o:Int}(oa:OkP a):(Cl (fm a o).1.vars (fm a o).1.terms/\(fm a o).1.terms.length<=100000)/\(Cl (fm a o).2.vars (fm a o).2.terms/\(fm a o).2.terms.length<=100000):=by
 unfold fm;cases va:vp a with
 |false=>
  rw[if_neg aCR];exact⟨⟨Cl.nil _,by decide⟩,⟨Cl.nil _,by decide⟩⟩
 |true=>
  obtain⟨ka,a0,a8,al⟩:=gU oa va;exact⟨⟨ka.filter _,by grind⟩,⟨ka.filter _,by grind⟩⟩
theorem IM{v p:Int}:∀ {ts:List Rt} {q:List Rt×List Rt},Cl v ts->xQ p ts=some q->(Cl v q.1/\q.1.length<=ts.length/\∀y∈q.1,∃t∈ts,y.exps=t.exps)/\(Cl v q.2/\q.2.length<=ts.length/\∀y∈q.2,∃t∈ts,y.exps=t.exps)
 |[],q,_,h=>by
  cases h;grind
 |t::ts,q,c,h=>by
  obtain⟨vt,ht,c2⟩:=c.cons;unfold xQ at h;split at h
  ·split at h
   ·rw[aCL]at h;obtain⟨q2,h2,rfl⟩:=h;obtain⟨⟨k1,k2,k3⟩,⟨k4,k5,k6⟩⟩:=IM c2 h2;have key:∀ {d:Rd} {l:List Rt},vd d=true->Ok0 d->Cl v l->l.length<=ts.length->(∀y∈l,∃t∈ts,y.exps=t.exps)->Cl v (ej t.exps d l)/\(ej t.exps d l).length<=(t::ts).length/\∀y∈ej t.exps d l,∃q∈t::ts,y.exps=q.exps:=by
     intro d l vdd od cl hl hy;unfold ej;split
     ·refine⟨cl,by simp;omega,fun y h=>?_⟩;obtain⟨q,hq,he⟩:=hy y h;exact⟨q,by simp[hq],he⟩
     ·rename_i h0;refine⟨Cl.mk' (vt.put od vdd h0) (fun y h=>?_) cl,by simp;omega,fun y h=>?_⟩
      ·obtain⟨q,hq,he⟩:=hy y h;rw[he];exact ht q hq
      ·rcases List.mem_cons.1 h with rfl|h
       ·exact⟨t,by simp,rfl⟩
       ·obtain⟨q,hq,he⟩:=hy y h;exact⟨q,by simp[hq],he⟩
    exact⟨key (Gt _ _).1 (Gt _ _).2 k1 k2 k3,key (Bu _ _).1 (Bu _ _).2 k4 k5 k6⟩
   ·cases h
  ·cases h
theorem U2{a:Rp}(oa:OkP a):Res ((fY a p).1.1,(fY a p).2)/\Res ((fY a p).1.2,(fY a p).2):=by
 have h0:∀e,Res (p0,e):=fun e=>⟨Cl.nil _,aC7 _,.inr rfl⟩;unfold fY;cases va:vp a with
 |false=>
  grind
 |true=>
  rw[if_pos rfl];split
  ·grind
  ·obtain⟨ka,a0,a8,al⟩:=gU oa va;cases hr:xQ p a.terms with
   |none=>grind
   |some q=>
    obtain⟨⟨k1,k2,_⟩,⟨k3,k4,_⟩⟩:=IM ka hr;exact⟨⟨k1,by grind,.inl rfl⟩,⟨k3,by grind,.inl rfl⟩⟩
abbrev U3(l:List Rm):List (List AV):=l.map fun m=>tU m
theorem atT{s:Rs}{m:Rm}(os:OkS s)(om:OkM m):R fca [fS m,ac 1000] [.bx (wK s)]=some (B (!vO s m),[.bx (wK s)]):=by
 refine zZ QI QH (D0 false) rfl ?_;have h:=Eb os om;generalize vO s m=b at h⊢;simp only[As,go_sem,h];exact gB rfl rfl rfl rfl rfl
theorem ax8(l:List (List AV)):l.map (eP [])=l:=tO fun x _=>Xu x
theorem aq9:Src fee fem 9 true [.o 0 [],.o 5 [],.o 0 [],.o 2 [],.o 0 [],.o 0 [],.o 2 [],.o 0 [],.o 0 []]:=
 ⟨cG.2.1,cG.2.2,cG.1.2.2.2 false,cG.1.2.1 false,cG.1.2.2.2 false,cG.1.1 false,
  bj.2.1,bj.2.2,bj.1.2.2.2 false⟩
theorem aoq(m:Rm):eP [.o 0 [],.o 5 [],.o 0 [],.o 2 [],.o 0 [],.o 0 [],.o 2 [],.o 0 [],.o 0 []] (tU m)=tU m:=by
 simp only[go_sem,ax8]
theorem Nf(l:List Rm):(U3 l).map (eP [.o 0 [],.o 5 [],.o 0 [],.o 2 [],.o 0 [],.o 0 [],.o 2 [],.o 0 [],.o 0 []])=U3 l:=by
 refine tO fun x hx=>?_;obtain⟨t,ht,rfl⟩:=List.mem_map.1 hx;exact aoq t
def yT(s:Rs)(l:List Rm):Bool:=eE s&&!(l.any fun m=>!vO s m)
theorem Do{s:Rs}{l:List Rm}(os:OkS s)(om:∀m∈l,OkM m)(hl:l.length<4611686018427387904):R fb9 [oj s,.sl 9 (U3 l)] []=some (B (yT s l),[]):=by
 refine au VA rfl ?_;have h1:=Am os.d os.n;unfold yT;cases g1:eE s with
 |false=>
  rw[g1]at h1;simp only[xZ,go_sem,h1,aCO]
 |true=>
 rw[g1]at h1;have hc:=IE aq9 (Frow:=fun m=>tU m) (l:=l) (q:=fun m=>!vO s m) (Cr s) (G3 false) (D0 false) hl (Nf _) fun m hm=>⟨fS m,fS m,rfl,rfl,rfl,by rw[OP];simp only[go_sem,mf],atT os (om m hm)⟩;generalize(l.any fun m=>!vO s m)=b at hc⊢;have hcc:=fun(h:ae) (d:Nat) (hh:h 2=.bx (wK s)) (hf:h (2000+8*d)=.dead)=>uL (f:=fee) (g:=fca) (h:=h) (d:=d) (id:=2) (zas:=[.sl 9 (U3 l)]) (as':=[.sl 9 (U3 l)]) (bj.1.2.1 false) (bj.1.2.2.2 false)
  (by rw[bj.1.1];simp only[go_sem,Nf,aDd,aCT]) rfl rfl hh (Cr _) (Cr _) (fun h=>h) hc (LT _) (aDa rfl) (by simp[cr,cJ,hf,bU])
 simp only[aDd,aCT,go_sem]at hcc;simp only[xZ,go_sem,h1];rw[hcc _ _ rfl rfl];simp only[go_sem]
def dV(s:Rs):Rm:=⟨⟨s.dom.length,[]⟩,cS⟩
theorem Dp{s:Rs}:R fcc [oj s] []=some (fS (dV s),[]):=by
 refine au XI rfl ?_;have h:=gN;simp only[aj,ao,cS,aB]at h;simp only[El,dV,cS,aB,aDh,go_sem,h];rfl
noncomputable def PJ (a:Rp) (dom:List Ri) (p:Int):Ri:=open Classical in if h:∃z,R faq [bc a,.sl 7 (bS dom),I p] []=some (aj z,[])/\OkI z/\vi z=true then Classical.choose h else cS
theorem TH{a:Rp}(oa:OkP a)(od:∀x∈dom,OkI x)(h2:dom.length<=100000):R faq [bc a,.sl 7 (bS dom),I p] []=some (aj (PJ a dom p),[])/\OkI (PJ a dom p)/\vi (PJ a dom p)=true:=by
 have h:∃z,R faq [bc a,.sl 7 (bS dom),I p] []=some (aj z,[])/\OkI z/\vi z=true:=by
  obtain⟨b,hB,hbr,hbn⟩:=Zq oa od h2 (p:=p);cases hq:(mQ a dom&&bC p)with
  |false=>
   have hb:=hbn hq;subst hb;refine⟨_,PH oa od h2 (p:=p) (b:=cS) Df.ok' (fun _=>hB),?_⟩;unfold JW;rw[hq];exact⟨Df.ok',rfl⟩
  |true=>
   have hq2:=hq;rw[aCK]at hq2;obtain⟨hv,hl,hk⟩:=RA od hq2.1;have i2:=hbr _ _ (Nc dom);obtain⟨m1,m2⟩:=JT (L7 (p:=p) oa (kO.inL hk (Nc dom))) i2;refine⟨_,PH oa od h2 (p:=p) (b:=b) i2.ok (fun _=>hB),?_⟩;unfold JW;rw[if_pos hq,if_pos m1];exact⟨m2.ok,m2.v⟩
 unfold PJ;rw[dif_pos h];exact Classical.choose_spec h
noncomputable def mU (a:Rp) (dom:List Ri) (p:Int):Ri:=if a.terms.length=0 then cj else PJ a dom p
theorem tL{a:Rp}(oa:OkP a)(od:∀x∈dom,OkI x)(h2:dom.length<=100000):OkI (mU a dom p)/\vi (mU a dom p)=true:=by
 unfold mU;split
 ·exact⟨⟨aO.2,aO.2⟩,by have v:=aO.1;unfold cj;grind[vi]⟩
 ·exact(TH oa od h2).2
theorem Bv{a:Rp}(oa:OkP a)(od:∀x∈dom,OkI x)(h2:dom.length<=100000):R fcd [bc a,.sl 7 (bS dom),I p] []=some (aj (mU a dom p),[]):=by
 refine au Sr rfl ?_;have h1:=U0;have h3:=(TH oa od h2 (p:=p)).1;unfold mU;generalize PJ a dom p=z at h3⊢;simp only[bc,aj,ao]at h1 h3;by_cases g:a.terms.length=0
 ·have f:((a.terms.length:Int)=0)=True:=tt;rw[if_pos g];simp only[ww,bc,aj,ao,go_sem,h1,f]
 ·have f:((a.terms.length:Int)=0)=False:=ff;rw[if_neg g];simp only[ww,bc,aj,ao,go_sem,h3,f]
noncomputable def AP (s:Rs) (q:Rp):(Rp×Ri)×Bool:=
 if(fY (fm q s.ord).1 s.p).2=0 then((⟨s.dom.length,(fY (fm q s.ord).1 s.p).1.1.terms⟩,dq (mU (fm q s.ord).2 s.dom s.p) (mU (fY (fm q s.ord).1 s.p).1.2 s.dom s.p) s.p),true)
 else(((fY (fm q s.ord).1 s.p).1.1,cj),false)
theorem aor{s:Rs}{q:Rp}(os:OkS s)(oq:OkP q)(h2:s.dom.length<=100000):R fb8 [oj s,bc q] []=some (.tup [bc (AP s q).1.1,aj (AP s q).1.2,B (AP s q).2],[]):=by
 refine au aaU rfl ?_;have h1:=ah6 (o:=s.ord) oq;obtain⟨⟨c1,_⟩,c2,_⟩:=Hi (o:=s.ord) oq;unfold AP;generalize fm q s.ord=sp at h1 c1 c2⊢;have h3:=aip (p:=s.p) (kJ c1);obtain⟨r1,r2⟩:=U2 (p:=s.p) (kJ c1);generalize fY sp.1 s.p=r at h3 r1 r2⊢;have h4:=Bv (p:=s.p) (kJ c2) os.d h2;have h5:=Bv (p:=s.p) (kJ r2.cl) os.d h2;have k4:=tL (p:=s.p) (kJ c2) os.d h2;have k5:=tL (p:=s.p) (kJ r2.cl) os.d h2;generalize mU sp.2 s.dom s.p=x at h4 k4⊢;simp only at h5 k5;generalize mU r.1.2 s.dom s.p=y at h5 k5⊢;have h6:=tC k4.1 k5.1 (p:=s.p);generalize dq x y s.p=z at h6⊢;simp only[ppV,Zw,bc,aj,ao]at h1 h3 h4 h5 h6;by_cases g:r.2=0
 ·have f:(r.2=0)=True:=eq_true g;rw[if_pos g];simp only[BW,bc,aj,ao,go_sem,h1,h3,h4,h5,h6,f]
 ·have f:(r.2=0)=False:=eq_false g;rw[if_neg g];simp only[BW,bc,aj,ao,cj,aB,go_sem,h1,h3,f]
noncomputable def kP (s:Rs) (q:Rp) (e:Int) (r:Ri):Rm:=if e=0 then(if(AP s q).2=true then⟨(AP s q).1.1,dq r (AP s q).1.2 s.p⟩else dV s)else dV s
theorem aos{s:Rs}{q:Rp}:OkI (AP s q).1.2:=by
 unfold AP;split
 ·exact yG
 ·exact⟨aO.2,aO.2⟩
theorem JX{s:Rs}{q:Rp}{e:Int}{r:Ri}(os:OkS s)(oq:OkP q)(or:OkI r)(h2:s.dom.length<=100000):R fcb [oj s,bc q,I e,aj r] []=some (fS (kP s q e r),[]):=by
 refine au XJ rfl ?_;have h1:=Dp (s:=s);have h3:=aor os oq h2;have h4:=tC or (aos (s:=s) (q:=q)) (p:=s.p);unfold kP;generalize AP s q=c at h3 h4⊢;generalize dq r c.1.2 s.p=z at h4⊢;simp only[bc,aj,ao]at h3 h4;by_cases g:e=0
 ·have f:(e=0)=True:=eq_true g;rw[if_pos g];cases g2:c.2 with
  |true=>
   rw[g2]at h3;rw[if_pos rfl];simp only[uW,bc,aj,ao,go_sem,h3,h4,f]
  |false=>
   rw[g2]at h3;rw[if_neg aCR];generalize dV s=n at h1⊢;simp only[uW,bc,aj,ao,go_sem,h1,h3,f]
 ·have f:(e=0)=False:=eq_false g;rw[if_neg g];generalize dV s=n at h1⊢;simp only[uW,bc,aj,ao,go_sem,h1,f]
def rq(w:Bool)(M d:Nat):Nat:=if w=true/\M%2^d≠0 then M/2^d+1 else M/2^d
def dR(M n j:Nat):Nat:=if ag M<=n+j then j else ag M-n
theorem aot{w:Bool}{M' d:Nat}(h:M<=M'):rq w M d<=rq w M' d:=by
 have h1:=aDC M (2^d);have h3:=aDC M' (2^d);have h5:M/2^d<=M'/2^d:=Nat.div_le_div_right h;grind[rq,Nat.eq_or_lt_of_le]
theorem atU{w:Bool}{d e:Nat}(h:M<2^ (d+e)):rq w M d<=2^e:=by
 have h1:M/2^d<2^e:=by
  rw[Nat.div_lt_iff_lt_mul (aC1 d),←aCU,Nat.add_comm];omega
 grind[rq]
theorem amr(M n j:Nat):j<=dR M n j/\ag M<=n+dR M n j:=by
 grind[dR]
theorem alr{j n:Nat}{w:Bool}(hn:8<=n):df M (-16384- (j:Int)) false (n:Int) w=uK n w (rq w M (dR M n j)) ((dR M n j:Int)-j-16384):=by
 have hu:fk M (-16384- (j:Int)) (n:Int)=(dR M n j:Int)-j-16384:=by
  grind[fk,dR]
 unfold df;have hq:qk M (-16384- (j:Int)) false ((dR M n j:Int)-j-16384)=(M/2^dR M n j,decide (M%2^dR M n j≠0)):=by
  unfold qk;generalize dR M n j=d;by_cases h:d=0
  ·subst h;grind
  grind
 grind[nu,rq]
theorem abh{q d T:Nat}(hq:q≠0):T<ag q+d↔2^T<=q*2^d:=by
 by_cases h:d<=T
 ·rw[show T<ag q+d↔T-d<ag q by omega,kW]
  conv=>rhs;rw[show T=(T-d)+d by omega,aCU]
  simp_all[Nat.mul_le_mul_right_iff,aC1]
 ·refine⟨fun _=>?_,fun _=>by omega⟩;refine aCP (aDn δ (by omega:T<=d)) ?_;exact Nat.le_mul_of_pos_left _ ω
theorem ara{q n k:Nat}(h:q<=2^n)(hk:n<k):ag q<=k:=bH.2 (aDe h (Nat.pow_lt_pow_right δ hk))
theorem atV{w:Bool}{n j:Nat}(hn:n<=512):ag (rq w M (dR M n j))<=4096/\(w=false->rq w M (dR M n j)<2^n):=by
 have k:=amr M n j;have k5:M<2^ag M:=bH.1 (aCJ _);have k6:M<2^ (dR M n j+n):=aDF k5 (aDn δ ω);have h1:=atU (w:=w) k6;refine⟨ara h1 ω,?_⟩
 simp_all[rq,if_neg,Nat.div_lt_iff_lt_mul,aC1,aCU,Nat.add_comm]
theorem aou{j n:Nat}{w:Bool}(h0:M≠0)(hn:8<=n/\n<=512):
  (rq w M (dR M n j)*2^dR M n j<2^ (32768+j)->(df M (-16384- (j:Int)) false (n:Int) w).2=0/\zI (df M (-16384- (j:Int)) false (n:Int) w).1*2^j=((rq w M (dR M n j)*2^dR M n j:Nat):Int))/\
  (2^ (32768+j)<=rq w M (dR M n j)*2^dR M n j->(w=true->(df M (-16384- (j:Int)) false (n:Int) w).2≠0)/\
   (w=false->(df M (-16384- (j:Int)) false (n:Int) w).2=0/\zI (df M (-16384- (j:Int)) false (n:Int) w).1=(((2^n-1)*2^ (32768-n):Nat):Int))):=by
 have k:=amr M n j;obtain⟨b1,_⟩:=atV (w:=w) (M:=M) (j:=j) hn.2;rw[alr hn.1];have hq0:rq w M (dR M n j)=0->¬32768+j<ag (rq w M (dR M n j))+dR M n j:=fun h=>by
  rw[h,show ag 0=0 from rfl];have hM:M<2^dR M n j:=by
   unfold rq at h;split at h
   all_goals simp_all
  have h3:ag M<=dR M n j:=bH.2 hM;unfold dR at h3⊢;grind
 generalize hd:dR M n j=d at*
 generalize rq w M d=q at*
 have ov:16384< (ag q:Int)+((d:Int)-j-16384)↔2^ (32768+j)<=q*2^d:=by
  by_cases hq:q=0
  ·subst hq;have h5:=aC1 (32768+j);constructor<;>intro h6<;>omega
  ·rw[←abh hq];omega
 unfold uK;constructor
 ·intro h;have h1:¬16384< (ag q:Int)+((d:Int)-j-16384):=fun hc=>by
   omega
  rw[if_neg h1];have hc:=Gf (neg:=false) (M:=q) (e:=(d:Int)-j-16384) b1 ω ω;have h2:(cI (bg false q ((d:Int)-j-16384))).2=0:=by rw[hc]
  refine⟨h2,?_⟩;rw[LV ω h2,show((d:Int)-j-16384+16384).toNat=d-j by omega,show(2:Int)^j=((2^j:Nat):Int)by simp,←Int.natCast_mul,aC9,←aCU,show d-j+j=d by omega]
 ·intro h;have h1:=ov.2 h;rw[if_pos h1];constructor
  ·rintro rfl
   simp
  ·rintro rfl
   rw[if_neg σ];have hp1:2^n-1<2^n:=by have:=aC1 n;omega
   have hb:ag (2^n-1)<=n:=bH.2 hp1;have hc:=Gf (neg:=false) (M:=2^n-1) (e:=16384- (n:Int)) ω ω ω;have h2:(cI (bg false (2^ ((n:Int)).toNat-1) (16384- (n:Int)))).2=0:=by rw[aCQ,hc]
   refine⟨h2,?_⟩;rw[LV ω h2,aCQ,show(16384- (n:Int)+16384).toNat=32768-n by omega]
theorem arb{j n:Nat}{w:Bool}(h0:M≠0)(hn:8<=n/\n<=512)(h:(df M (-16384- (j:Int)) false (n:Int) w).2=0):0<=zI (df M (-16384- (j:Int)) false (n:Int) w).1:=by
 obtain⟨k,h1,_⟩:=JR (s:=0) (t:=j) h0 (p:=n) ω ω (fun h=>absurd h aCR) h;omega
theorem aov{z f:Int}{up:Bool}(h:z<0):iL z f p up=iX true (df z.natAbs f false p (!up)):=by
 unfold iL;rw[if_neg ω,decide_eq_true h]
 simp_all
theorem aow{z f:Int}{up:Bool}(h:0<z):iL z f p up=df z.natAbs f false p up:=by
 unfold iL;rw[if_neg ω,decide_eq_false ω]
 simp_all[iX,if_neg]
theorem arc{f:Int}{w:Bool}:(iX true (df M f false p w)).2=(df M f false p w).2/\((df M f false p w).2=0->zI (iX true (df M f false p w)).1=-zI (df M f false p w).1):=by
 unfold iX;by_cases h:(df M f false p w).2=0
 all_goals simp_all[if_pos,we,Tt,if_neg,absurd]
theorem atW{f:Int}{up:Bool}:iL 0 f p up=(aB,0):=by simp_all[iL,if_pos]
theorem aiq{a b:Rd}(va:vd a=true)(vb:vd b=true)(hp:bC p=true):aY p [a,b]=0/\∃n:Nat,p=n/\8<=n/\n<=512:=by
 have hp2:8<=p/\p<=512:=by
  simp_all[bC,aCK,decide_eq_true_eq]
 refine⟨by grind[aY],p.toNat,by omega,by omega,by omega⟩
def Sb(x y:Ri):Prop:=(∃q,In q x)/\(y=cS\/x.all=false/\y.all=false/\(∃q,In q y)/\zI y.lo<=zI x.lo/\zI x.hi<=zI y.hi)
theorem Sb.ins(h:Sb x y):qx x y=true:=by
 obtain⟨⟨q,hx⟩,rfl| ⟨h1,h2,⟨r,hy⟩,h3,h4⟩⟩:=h
 ·unfold qx;have:=hx.v;split
  ·rfl
  ·rw[this];rfl
 ·unfold qx;rw[if_pos ⟨hx.v,hy.v,h1⟩];grind
theorem aB3:kI cS=false:=rfl
theorem afq(h:∃q,In q x)(ha:x.all=false):kI x=true:=by
 obtain⟨q,h⟩:=h;unfold kI;rw[ha,h.v];rfl
theorem air{a b:List Nat}(h:lm a=lm b):a=b:=by
 unfold lm aE at h;grind[List.map_inj_right]
theorem aox(h:aj x=aj y):x=y:=by
 unfold aj ao at h;simp only[AV.agg.injEq,List.cons.injEq,AV.v.injEq,Value.bool.injEq,Value.int.injEq,true_and,and_true]at h;obtain⟨h1,g2,h3,h4,g5,h6,h7⟩:=h;have h2:=air g2;have h5:=air g5;obtain⟨⟨a1,a2,a3⟩,⟨a4,a5,a6⟩,a7⟩:=x
 simp_all
theorem Zx{a:Rp}{p:Int}(oa:OkP a)(od:∀x∈dom,OkI x)(h2:dom.length<=100000)(hd:mQ a dom=true):∃b,PJ a dom p=JW a dom p b/\∀xs ts:List Rat,kO dom xs ts->In (fv xs a.terms) b:=by
 obtain⟨b,hB,hbr,_⟩:=Zq oa od h2 (p:=p);have i2:=hbr _ _ (Nc dom);have h3:=PH oa od h2 (p:=p) (b:=b) i2.ok (fun _=>hB);grind[TH,aox]
theorem Ec{a:Rp}(oa:OkP a)(od:∀x∈dom,OkI x)(h2:dom.length<=100000)(hd:mQ a dom=true){xs ts:List Rat}(hpt:kO dom xs ts):In (fv xs a.terms) (mU a dom p):=by
 unfold mU;split
 ·rename_i h0;have e:a.terms=[]:=List.length_eq_zero_iff.1 h0;rw[e];have:=ip aO.1 aO.2;rwa[show qv aB=0 by unfold qv;rw[cQ rfl];simp]at this
 ·obtain⟨b,hb,hbr⟩:=Zx (p:=p) oa od h2 hd;obtain⟨hv,hl,hk⟩:=RA od hd;rw[hb];unfold JW;split
  ·obtain⟨m1,m2⟩:=JT (L7 (p:=p) oa (kO.inL hk hpt)) (hbr _ _ hpt);grind
  ·exact Or.inl rfl
theorem aoy{a b:Rd}(va:vd a=true)(vb:vd b=true):zI a<=zI (mC a b):=by
 unfold mC;rw[Tb va vb];rcases qG (zI a) (zI b)with⟨g,e⟩| ⟨g,e⟩| ⟨g,e⟩<;>rw[e]<;>simp<;>omega
theorem aoz{a b:Rd}(va:vd a=true)(vb:vd b=true):zI (mB a b)<=zI a:=by
 grind[mB,Tb,qG,zI]
theorem aoA(hx:x.all=false){q:Rat}(ix:In q x)(iy:In q y):Sb (wI x y).1 x:=by
 obtain⟨m1,m2⟩:=JT ix iy;refine⟨⟨q,m2⟩,Or.inr ?_⟩;have key:(wI x y).1.all=false/\zI x.lo<=zI (wI x y).1.lo/\zI (wI x y).1.hi<=zI x.hi:=by
  have vx:=ix.vi;have vy:=iy.vi;unfold wI at m1⊢;rw[ix.v,iy.v,aDv,if_pos rfl,hx,if_neg aCR]at m1⊢;split
  ·grind
  ·split
   ·exact⟨rfl,aoy vx.1.1 vy.1.1,aoz vx.2.1 vy.2.1⟩
   grind
 grind
theorem ais{a:Rp}(oa:OkP a)(od:∀x∈dom,OkI x)(h2:dom.length<=100000)(hd:mQ a dom=true)(hp:bC p=true)(h0:a.terms.length≠0)(hn:(n8 a dom p).all=false):Sb (mU a dom p) (n8 a dom p):=by
 unfold mU;obtain⟨b,hb,hbr⟩:=Zx (p:=p) oa od h2 hd;obtain⟨hv,hl,hk⟩:=RA od hd;have i1:=L7 (p:=p) oa (kO.inL hk (Nc dom));have i2:=hbr _ _ (Nc dom);rw[hb];unfold JW;rw[hd,hp,aDv,if_pos rfl,if_pos (JT i1 i2).1];grind[aoA]
theorem RE{a b:Rd}(va:vd a=true)(vb:vd b=true):(fT a b<0↔zI a<zI b)/\(0<fT a b↔zI b<zI a):=by
 rw[Tb va vb];unfold cM;split
 ·omega
 ·split<;>omega
section
variable {dn up:Rd→Rd→Rd × Int} {pr:Nat→Rd × Rd}
abbrev Hj(dn:Rd->Rd->Rd×Int)(pr:Nat->Rd×Rd)(j:Nat):Rd×Int:=dn (pr j).1 (pr j).2
theorem RF(okd:∀a b,vd (dn a b).1=true)(oku:∀a b,vd (up a b).1=true):∀ (k i:Nat) (o:Rd×Rd),vd o.1=true->vd o.2=true->(∀j,i<=j->j<i+k->(Hj dn pr j).2=0/\(Hj up pr j).2=0)->
  ∃q,Ci dn up pr k i o=some q/\zI q.1<=zI o.1/\zI o.2<=zI q.2/\(∀j,i<=j->j<i+k->zI q.1<=zI (Hj dn pr j).1/\zI (Hj up pr j).1<=zI q.2)/\
   (q.1=o.1\/∃j,i<=j/\j<i+k/\q.1=(Hj dn pr j).1)/\(q.2=o.2\/∃j,i<=j/\j<i+k/\q.2=(Hj up pr j).1)
 |0,i,o,_,_,_=>⟨o,rfl,Int.le_refl _,Int.le_refl _,fun j h1 h2=>by omega,Or.inl rfl,Or.inl rfl⟩
 |k+1,i,o,v1,v2,h=>by
  have h0:=h i (aCJ _) ω;unfold Ci;rw[if_pos h0];have c1:=(RE (okd (pr i).1 (pr i).2) v1).1;have c2:=(RE (oku (pr i).1 (pr i).2) v2).2;have w1:=okd (pr i).1 (pr i).2;have w2:=oku (pr i).1 (pr i).2;obtain⟨q,q0,q1,q2,q3,q4,q5⟩:=RF okd oku k (i+1) (if fT (dn (pr i).1 (pr i).2).1 o.1<0 then(dn (pr i).1 (pr i).2).1 else o.1,if 0<fT (up (pr i).1 (pr i).2).1 o.2 then(up (pr i).1 (pr i).2).1 else o.2)
   (by simp only;split<;>assumption) (by simp only;split<;>assumption) fun j h1 h2=>h j ω ω
  have a1:zI q.1<=zI o.1/\zI q.1<=zI (Hj dn pr i).1:=by
   simp only at q1;split at q1
   ·rename_i hc;have:=c1.1 hc;exact⟨by omega,q1⟩
   ·rename_i hc;have:=mt c1.2 hc;exact⟨q1,by show zI q.1<=zI (dn (pr i).1 (pr i).2).1;omega⟩
  have a2:zI o.2<=zI q.2/\zI (Hj up pr i).1<=zI q.2:=by
   simp only at q2;split at q2
   ·rename_i hc;have:=c2.1 hc;exact⟨by omega,q2⟩
   ·rename_i hc;have:=mt c2.2 hc;exact⟨q2,by show zI (up (pr i).1 (pr i).2).1<=zI q.2;omega⟩
  refine⟨q,q0,a1.1,a2.1,fun j h1 h2=>?_,?_,?_⟩
  ·rcases Nat.eq_or_lt_of_le h1 with rfl|h3
   ·exact⟨a1.2,a2.2⟩
   ·exact q3 j h3 ω
  ·rcases q4 with q4| ⟨j,h1,h2,h3⟩
   ·simp only at q4;split at q4
    ·exact Or.inr ⟨i,aCJ _,by omega,q4⟩
    ·exact Or.inl q4
   ·exact Or.inr ⟨j,by omega,by omega,h3⟩
  ·rcases q5 with q5| ⟨j,h1,h2,h3⟩
   ·simp only at q5;split at q5
    ·exact Or.inr ⟨i,aCJ _,by omega,q5⟩
    ·exact Or.inl q5
   ·exact Or.inr ⟨j,by omega,by omega,h3⟩
theorem afr(okd:∀a b,vd (dn a b).1=true)(oku:∀a b,vd (up a b).1=true)(h:∀j,j<4->(Hj dn pr j).2=0/\(Hj up pr j).2=0):
  ∃q,sD dn up pr=some q/\(∀j,j<4->zI q.1<=zI (Hj dn pr j).1/\zI (Hj up pr j).1<=zI q.2)/\(∃j,j<4/\q.1=(Hj dn pr j).1)/\∃j,j<4/\q.2=(Hj up pr j).1:=by
 obtain⟨q,q0,q1,q2,q3,q4,q5⟩:=RF okd oku 3 1 ((dn (pr 0).1 (pr 0).2).1,(up (pr 0).1 (pr 0).2).1) (okd _ _) (oku _ _) fun j h1 h2=>h j ω;refine⟨q,?_,fun j hj=>?_,?_,?_⟩
 ·unfold sD;rw[if_pos (h 0 δ)];exact q0
 ·rcases Nat.eq_zero_or_pos j with rfl|h1
  ·exact⟨q1,q2⟩
  ·exact q3 j h1 ω
 ·rcases q4 with q4| ⟨j,h1,h2,h3⟩
  ·exact⟨0,by decide,q4⟩
  ·exact⟨j,by omega,h3⟩
 ·rcases q5 with q5| ⟨j,h1,h2,h3⟩
  ·exact⟨0,by decide,q5⟩
  ·exact⟨j,by omega,h3⟩
end
theorem ams(h:∃q,In q x)(ha:x.all=false):zI x.lo<=zI x.hi:=by
 obtain⟨q,rfl| ⟨_,_,h1,h2⟩⟩:=h
 ·cases ha
 ·exact sE.1 (aEi h1 h2)
theorem atX(hx:VI x)(hy:VI y)(i:Nat):vd (j7 x y i).1=true/\vd (j7 x y i).2=true:=by
 unfold j7;split
 ·exact⟨hx.1.1,hy.1.1⟩
 ·exact⟨hx.1.1,hy.2.1⟩
 ·exact⟨hx.2.1,hy.1.1⟩
 ·exact⟨hx.2.1,hy.2.1⟩
theorem ax9{d:Rd}{n:Nat}{up:Bool}:vd (pw d n p up).1=true:=by
 unfold pw;exact(Wn _ _ LZ).1
theorem RG{d:Rd}(v:vd d=true):vd (me d)=true/\zI (me d)=((zI d).natAbs:Int):=by
 unfold me;by_cases h:d.m.length=0
 ·rw[if_pos (Or.inr h),cQ h];exact⟨rfl,cQ rfl⟩
 ·refine⟨?_,?_⟩
  ·simp_all[vd,if_neg]
  grind[zI,mg]
theorem amt{d:Rd}(v:vd d=true):(0<cX d↔0<zI d)/\(cX d<0↔zI d<0):=by
 have h0:d.m.length=0->zI d=0:=cQ;have hp:d.m.length≠0->0<mg d:=fun h=>by
  exact Nat.mul_pos (by grind[Fi]) (aC1 _)
 unfold cX;by_cases h:d.m.length=0
 ·omega
 ·grind[zI]
theorem atY(h:VI x)(hle:zI x.lo<=zI x.hi):vd (Db x)=true/\zI (Db x)=(if 0<zI x.lo then zI x.lo else if zI x.hi<0 then-zI x.hi else 0):=by
 obtain⟨a1,a2⟩:=RG h.1.1;obtain⟨b1,b2⟩:=RG h.2.1;obtain⟨s1,s2⟩:=amt h.1.1;obtain⟨t1,t2⟩:=amt h.2.1;have c:=RE a1 b1;unfold Db Kv mB;by_cases k1:0<zI x.lo
 ·grind
 ·rw[if_neg (mt s1.1 k1),if_neg k1];by_cases k2:zI x.hi<0
  ·grind
  ·rw[if_neg (mt t2.1 k2),if_pos rfl,if_neg k2];exact⟨rfl,cQ rfl⟩
theorem amu(h:VI x):vd (wo x)=true/\zI (wo x)=(if(zI x.lo).natAbs<=(zI x.hi).natAbs then((zI x.hi).natAbs:Int)else(zI x.lo).natAbs):=by
 obtain⟨a1,a2⟩:=RG h.1.1;obtain⟨b1,b2⟩:=RG h.2.1;have c:=RE a1 b1;grind[wo,mC]
theorem aya{w:Bool}{T d:Nat}(h:d<=T):rq w (2^T) d=2^ (T-d):=by
 have e:2^T=2^ (T-d)*2^d:=by rw[←aCU];grind
 simp_all[rq,if_neg,Nat.mul_mod_left,Nat.mul_div_cancel,aC1]
theorem ait{j n m:Nat}{w:Bool}(h0:M≠0)(hn:8<=n/\n<=512)(hm:m<16384)(h:M<=2^ (16384+m+j)):
  (df M (-16384- (j:Int)) false (n:Int) w).2=0/\0<=zI (df M (-16384- (j:Int)) false (n:Int) w).1/\zI (df M (-16384- (j:Int)) false (n:Int) w).1<=((2^ (16384+m):Nat):Int):=by
 have hd:dR M n j<=16384+m+j:=by
  have:=bH.2 (aDe h (Nat.pow_lt_pow_right δ (Nat.lt_succ_self _)));unfold dR;split<;>omega
 have h1:rq w M (dR M n j)*2^dR M n j<=2^ (16384+m+j):=by
  refine aCP (aCS _ (aot h)) ?_;rw[aya hd,←aCU];exact aDn δ ω
 obtain⟨c1,c2⟩:=(aou (w:=w) (j:=j) h0 hn).1 (aDe h1 (Nat.pow_lt_pow_right δ ω));have c3:=arb (w:=w) (j:=j) h0 hn c1;refine⟨c1,c3,?_⟩;have h2:zI (df M (-16384- (j:Int)) false (n:Int) w).1*((2^j:Nat):Int)<=((2^ (16384+m):Nat):Int)*((2^j:Nat):Int):=by
  rw[←Int.natCast_mul,←aCU];refine Int.le_trans (Int.le_of_eq ?_) (Int.ofNat_le.2 h1);rw[←c2];simp
 exact Int.le_of_mul_le_mul_right h2 (Int.ofNat_lt.2 (aC1 j))
theorem Zy{z:Int}{j n m:Nat}{up:Bool}(hn:8<=n/\n<=512)(hm:m<16384)(h:z.natAbs<=2^ (16384+m+j)):
  (iL z (-16384- (j:Int)) n up).2=0/\(zI (iL z (-16384- (j:Int)) n up).1).natAbs<=2^ (16384+m):=by
 rcases Int.lt_trichotomy z 0 with a|rfl|a
 ·rw[aov a];obtain⟨s1,s2⟩:=arc (M:=z.natAbs) (f:=-16384- (j:Int)) (p:=n) (w:=!up);obtain⟨b1,b2,b3⟩:=ait (w:=!up) (show z.natAbs≠0 by omega) hn hm h;omega
 ·simp_all[atW,cQ,aB,aC7]
 ·rw[aow a];obtain⟨b1,b2,b3⟩:=ait (w:=up) (show z.natAbs≠0 by omega) hn hm h;omega
def Ld(m:Nat)(d:Rd):Prop:=(zI d).natAbs<=2^ (16384+m)
theorem Ld.up{m k:Nat}{d:Rd}(h:Ld m d)(hk:m<=k):Ld k d:=aCP h (aDn δ ω)
theorem TI{a b:Rd}{m:Nat}{up:Bool}(va:vd a=true)(vb:vd b=true)(hp:bC p=true)(hm:m+1<16384)(ha:Ld m a)(hb:Ld m b):(dk a b p up).2=0/\Ld (m+1) (dk a b p up).1:=by
 obtain⟨f1,n,rfl,hn⟩:=aiq va vb hp;unfold dk;rw[if_pos f1];refine Zy (j:=0) hn hm ?_;unfold Ld at ha hb;have e:2^ (16384+(m+1)+0)=2^ (16384+m)+2^ (16384+m):=by rw[aDm,←aDE,aDw];omega
 omega
theorem acO{a b:Rd}{m k:Nat}{up:Bool}(va:vd a=true)(vb:vd b=true)(hp:bC p=true)(hm:m+k<16384)(ha:Ld m a)(hb:Ld k b):(gp a b p up).2=0/\Ld (m+k) (gp a b p up).1:=by
 obtain⟨f1,n,rfl,hn⟩:=aiq va vb hp;unfold gp;rw[if_pos f1];refine Zy (j:=16384) hn hm ?_;rw[Int.natAbs_mul,show 16384+(m+k)+16384=(16384+m)+(16384+k)by omega,aCU];exact Nat.mul_le_mul ha hb
theorem aoB{a:Rd}{m:Nat}{up:Bool}(va:vd a=true)(hp:bC p=true)(hm:m<16384)(ha:Ld m a):(cw a p up).2=0/\Ld m (cw a p up).1:=by
 have hp2:=vM hp;unfold cw;rw[if_pos (by grind[aY])];obtain⟨n,rfl⟩:∃n:Nat,p=n:=⟨p.toNat,by omega⟩;exact Zy (j:=0) ω hm ha
theorem aiu{a:Rd}{p:Int}{up:Bool}(va:vd a=true)(hp:bC p=true)(ha:Ld 0 a):∀ (k:Nat) (r:Rd×Int),vd r.1=true->r.2=0->Ld 0 r.1->(pe a p up k r).2=0/\Ld 0 (pe a p up k r).1
 |0,r,_,h1,h2=>⟨h1,h2⟩
 |k+1,r,vr,h1,h2=>by
  unfold pe;rw[if_pos h1];obtain⟨m1,m2⟩:=acO (up:=up) vr va hp δ h2 ha;exact aiu va hp ha k _ L4.1 m1 m2
theorem atZ{a:Rd}{n:Nat}{up:Bool}(va:vd a=true)(hp:bC p=true)(ha:Ld 0 a):(pw a n p up).2=0/\Ld 0 (pw a n p up).1:=by
 obtain⟨m1,m2⟩:=aoB (up:=up) va hp δ ha;exact aiu va hp ha _ _ LZ.1 m1 m2
theorem acP{a:Rd}{n:Nat}{up:Bool}(va:vd a=true)(hp:bC p=true)(ha:Ld 0 a):(tE a n p up).2=0/\Ld 0 (tE a n p up).1:=by
 grind[tE,atZ,Ld,ed,g1,Int.natAbs_neg,we,ax9]
structure Bd (m:Nat) (x:Ri):Prop where
 i:∃q,In q x
 a:x.all=false
 l:Ld m x.lo
 h:Ld m x.hi
theorem Bd.up{m k:Nat}{x:Ri}(h:Bd m x)(hk:m<=k):Bd k x:=⟨h.i,h.a,h.l.up hk,h.h.up hk⟩
theorem Bd.v{m:Nat}(h:Bd m x):VI x:=h.i.elim fun _ h=>h.vi
theorem Bd.k{m:Nat}(h:Bd m x):kI x=true:=afq h.i h.a
theorem Ng{m:Nat}(hp:bC p=true)(hm:m+1<16384)(hx:Bd m x)(hy:Bd m y):Bd (m+1) (dq x y p):=by
 obtain⟨q,ix⟩:=hx.i;obtain⟨r,iy⟩:=hy.i;have hi:=io (p:=p) ix iy;obtain⟨a1,a2⟩:=TI (up:=false) ix.vi.1.1 iy.vi.1.1 hp hm hx.l hy.l;obtain⟨a3,a4⟩:=TI (up:=true) ix.vi.2.1 iy.vi.2.1 hp hm hx.h hy.h;have e:dq x y p=⟨(dk x.lo y.lo p false).1,(dk x.hi y.hi p true).1,false⟩:=by
  unfold dq nv;rw[hx.k,hy.k,hp,aDv,aDv,if_pos rfl,if_pos ⟨a1,a3⟩]
 rw[e]at hi⊢;exact⟨⟨_,hi⟩,rfl,a2,a4⟩
theorem acQ{m k:Nat}(hp:bC p=true)(hm:m+k<16384)(hx:Bd m x)(hy:Bd k y):Bd (m+k) (dt x y p):=by
 obtain⟨q,ix⟩:=hx.i;obtain⟨r,iy⟩:=hy.i;have hi:=jG (p:=p) ix iy;have lx:∀i,Ld m (j7 x y i).1:=fun i=>by unfold j7;split;exact hx.l;exact hx.l;exact hx.h;exact hx.h
 have ly:∀i,Ld k (j7 x y i).2:=fun i=>by unfold j7;split;exact hy.l;exact hy.h;exact hy.l;exact hy.h
 have key:∀i up,(gp (j7 x y i).1 (j7 x y i).2 p up).2=0/\Ld (m+k) (gp (j7 x y i).1 (j7 x y i).2 p up).1:=fun i up=>by
  obtain⟨v1,v2⟩:=atX ix.vi iy.vi i;grind[acO]
 obtain⟨t,t0,_,⟨j,_,t1⟩,j',_,t2⟩:=afr (dn:=fun a b=>gp a b p false) (up:=fun a b=>gp a b p true) (pr:=j7 x y) (fun a b=>L4.1) (fun a b=>L4.1) fun i _=>⟨(key i false).1,(key i true).1⟩;have e:dt x y p=⟨t.1,t.2,false⟩:=by
  unfold dt;rw[hx.k,hy.k,hp,aDv,aDv,if_pos rfl,t0];rfl
 rw[e]at hi⊢;refine⟨⟨_,hi⟩,rfl,?_,?_⟩
 all_goals grind
theorem Md{n:Bool}{k:Nat}:zI ⟨n,[1],(k:Int)⟩=bL n (2^ (16384+k)):=by
 have h1:zI ⟨n,[1],(k:Int)⟩=bL n (mg ⟨n,[1],(k:Int)⟩):=rfl;rw[h1];unfold mg;rw[show((k:Int)+16384).toNat=16384+k by omega]
 simp_all[ab,Nat.one_mul]
theorem aoC{n:Bool}{a:Nat}:(bL n a).natAbs=a:=by
 grind[bL]
theorem ayb{n:Bool}{k:Nat}:Ld k ⟨n,[1],(k:Int)⟩:=by
 simp_all[Ld,Md,aoC,aCJ]
theorem aiv:Ld 0 one:=ayb (k:=0)
theorem TJ{n:Nat}(hp:bC p=true)(h16:n<=16)(hx:Bd 0 x):Bd 0 (wr x n p):=by
 obtain⟨q,ix⟩:=hx.i;have hi:=Dk (n:=n) (p:=p) ix;have e0:=hx.k;unfold wr at hi⊢;rw[if_pos (by rw[e0,hp];simp[h16])]at hi⊢;by_cases h0:n=0
 ·rw[if_pos h0]at hi⊢;exact⟨⟨_,hi⟩,rfl,aiv,aiv⟩
 ·rw[if_neg h0]at hi⊢;have hX:(vd (if n%2=0 then lC x else x).lo=true/\vd (if n%2=0 then lC x else x).hi=true)/\Ld 0 (if n%2=0 then lC x else x).lo/\Ld 0 (if n%2=0 then lC x else x).hi:=by
   have b1:=hx.l;have b2:=hx.h;split
   ·unfold lC;obtain⟨m1,m2⟩:=atY ix.vi (ams hx.i hx.a);obtain⟨g1,g2⟩:=amu ix.vi;grind[Ld,b2,g1,zI,Db,wo]
   ·exact⟨⟨ix.vi.1.1,ix.vi.2.1⟩,b1,b2⟩
  obtain⟨⟨v1,v2⟩,l1,l2⟩:=hX;obtain⟨a1,a2⟩:=acP (n:=n) (up:=false) v1 hp l1;obtain⟨a3,a4⟩:=acP (n:=n) (up:=true) v2 hp l2;unfold nv at hi⊢;rw[if_pos ⟨a1,a3⟩]at hi⊢;exact⟨⟨_,hi⟩,rfl,a2,a4⟩
theorem aoD{n:Nat}(hp:bC p=true)(h16:n<=32)(hx:Bd 0 x):Bd 0 (Dc x n p):=by
 unfold Dc;split
 ·grind[TJ]
 ·exact acQ (m:=0) (k:=0) hp δ (TJ hp ω hx) (TJ hp ω hx)
theorem aiw{p:Int}{m:Nat}(hp:bC p=true)(hm:m<16384):∀ (ds:List Ri) (es:List Int) (x:Ri),(∀d∈ds,Bd 0 d)->(∀e∈es,e<=32)->Bd m x->Bd m (Kw p ds es x)
 |[],es,x,_,_,h=>by cases es<;>exact h
 |d::ds,[],x,_,_,h=>h
 |d::ds,e::es,x,hd,he,h=>by
  refine aiw hp hm ds es _ (fun i hi=>hd i γ) (fun i hi=>he i γ) ?_;split
  ·have:=he e σ;exact acQ (m:=m) (k:=0) hp hm h (aoD hp ω (hd d σ))
  omega
theorem aix{p:Int}{ds:List Ri}{m:Nat}(hp:bC p=true)(hd:∀d∈ds,Bd 0 d):∀ (l:List Rt) (k:Nat) (s:Ri),m+k+l.length<16384->(∀t∈l,vd t.c=true/\Ok0 t.c/\Ld m t.c/\∀e∈t.exps,e<=32)->Bd (m+k) s->Bd (m+k+l.length) (LI p ds l s)
 |[],_,_,_,_,h=>h
 |t::l,k,s,hl,ht,h=>by
  show Bd _ (LI p ds l (dq s (Kw p ds t.exps ⟨t.c,t.c,false⟩) p));obtain⟨c1,c2,c3,c4⟩:=ht t σ;have hl2:m+k+(l.length+1)<16384:=hl;have:=aix hp hd l (k+1) _ ω (fun t ht'=>ht t γ) (Ng (m:=m+k) hp ω h ((aiw hp ω ds t.exps _ hd c4 ⟨⟨_,ip c1 c2⟩,rfl,c3,c3⟩).up (Nat.le_add_right m k)));grind
theorem AQ{m:Nat}:Bd m cj:=by
 have h:Ld m aB:=by unfold Ld;rw[cQ rfl];grind
 exact⟨⟨_,ip aO.1 aO.2⟩,rfl,h,h⟩
theorem Sb.bd{m:Nat}(h:Sb x y)(hy:Bd m y):Bd m x:=by
 obtain⟨i,rfl| ⟨h1,h2,_,h3,h4⟩⟩:=h
 ·cases hy.a
 ·have:=ams i h1;have l1:=hy.l;have l2:=hy.h;unfold Ld at l1 l2;refine⟨i,h1,?_,?_⟩<;> (unfold Ld;generalize 2^ (16384+m)=T at*;omega)
def Me:List Int->List Rd->Int
 |e::es,x::xs=>zI x^e.toNat*Me es xs
 |_,_=>1
def dg:List Int->List Rd->Nat
 |e::es,_::xs=>e.toNat+dg es xs
 |_,_=>0
theorem Wo:∀ {es:List Int} {xs:List Rd},(∀e∈es,0<=e)->(dg es xs:Int)<=bm es
 |e::es,x::xs,h=>by
  have ih:=Wo (es:=es) (xs:=xs) fun y hy=>h y γ;have he:=h e σ;grind[dg,bm]
 |[],xs,h=>by show((0:Nat):Int)<=0;decide
 |e::es,[],h=>by
  have h2:=(IB (l:=e::es) fun y hy=>h y hy).1;show((0:Nat):Int)<=bm (e::es);omega
noncomputable def ph (xs:List Rd) (u:List Int):Int:=Me u xs*KK^ (32-dg u xs)
theorem VT.dg{v:Int}{t:Rt}(vt:VT v t)(xs:List Rd):dg t.exps xs<=32:=by
 have h1:=Wo (xs:=xs) fun e he=>(vt.b e he).1;have h2:=vt.d;omega
theorem acR:∀ {u v:List Int} {xs:List Rd},u.length=v.length->(∀e∈u,0<=e)->(∀e∈v,0<=e)->Me (iM u v) xs=Me u xs*Me v xs/\dg (iM u v) xs=dg u xs+dg v xs
 |a::u,b::v,x::xs,hl,hu,hv=>by
  obtain⟨h1,h2⟩:=acR (u:=u) (v:=v) (xs:=xs) γ (fun e he=>hu e γ) (fun e he=>hv e γ);have ha:=hu a σ;have hb:=hv b σ;have ht:(a+b).toNat=a.toNat+b.toNat:=ω
  constructor
  ·simp_all[zI,Me,iM,Int.pow_add,Int.mul_assoc,Int.mul_left_comm]
  ·show(a+b).toNat+dg (iM u v) xs=a.toNat+dg u xs+(b.toNat+dg v xs);omega
 |[],[],xs,_,_,_=>⟨rfl,rfl⟩
 |a::u,b::v,[],_,_,_=>⟨rfl,rfl⟩
theorem ard{w:Int}{q:Rt}(vt:VT w t)(vq:VT w q)(hd:bm t.exps+bm q.exps<=32)(xs:List Rd):ph xs (iM t.exps q.exps)*KK^32=ph xs t.exps*ph xs q.exps:=by
 have nt:=fun e he=>(vt.b e he).1;have nq:=fun e he=>(vq.b e he).1;obtain⟨h1,h2⟩:=acR (xs:=xs) (vt.l2 vq) nt nq;have d1:=Wo (xs:=xs) nt;have d2:=Wo (xs:=xs) nq;unfold ph;have hp:KK^ (32- (dg t.exps xs+dg q.exps xs))*KK^32=KK^ (32-dg t.exps xs)*KK^ (32-dg q.exps xs):=by
  rw[←Int.pow_add,←Int.pow_add];grind
 grind
inductive Mrg:List Rt->List Rt->List Rt->Prop
 |nil:Mrg [] [] []
 |left {A r1 r2:List Rt} {t:Rt}:Mrg A r1 r2->Mrg (t::A) (t::r1) r2
 |right {A r1 r2:List Rt} {t:Rt}:Mrg A r1 r2->Mrg (t::A) r1 (t::r2)
 |both {A r1 r2:List Rt} {t:Rt} {c d:Rd}:Mrg A r1 r2->eK c d=(t.c,0)->Mrg (t::A) (⟨t.exps,c⟩::r1) (⟨t.exps,d⟩::r2)
theorem Mrg.mem(h:Mrg A r1 r2):(∀y∈r1,∃t∈A,y.exps=t.exps)/\∀y∈r2,∃t∈A,y.exps=t.exps:=by
 induction h with
 |nil=>grind
 |left h ih=>
  grind
 |right h ih=>
  grind
 |both h _ ih=>
  grind
theorem aiy{y:Rt}{l:List Rt}(h:cA t.exps y.exps<0):lD (t::l) y=(lD l y).map (t::·):=by
 show(if cA t.exps y.exps<0 then _ else _)=_;grind
theorem Hk{t:Rt}:∀ {ts l:List Rt},(∀y∈ts,cA t.exps y.exps<0)->kK (t::l) ts=(kK l ts).map (t::·)
 |[],l,_=>rfl
 |y::ts,l,h=>by
  show(lD (t::l) y).bind (fun l'=>kK l' ts)=((lD l y).bind fun l'=>kK l' ts).map (t::·);rw[aiy (h y σ)];cases lD l y with
  |none=>rfl
  |some l'=>exact Hk (fun q hq=>h q (by simp[hq]))
theorem aiz{t:Rt}:∀ {l:List Rt},(∀y∈l,cA t.exps y.exps<0/\t.exps.length=y.exps.length)->lD l t=some (t::l)
 |[],_=>rfl
 |y::l,h=>by
  obtain⟨h1,h2⟩:=h y σ;have h3:=Hd h2;show(if cA y.exps t.exps<0 then _ else if cA y.exps t.exps=0 then _ else _)=_;grind
theorem aoE{v:Int}(c:Cl v A)(h:Mrg A r1 r2):kK r1 r2=some A:=by
 induction h with
 |nil=>rfl
 |left h ih=>
  obtain⟨vt,ht,c2⟩:=c.cons;rw[Hk fun y hy=>?_,ih c2]
  ·rfl
  ·obtain⟨q,hq,he⟩:=h.mem.2 y hy;grind
 |right h ih=>
  rename_i A r1 r2 t;obtain⟨vt,ht,c2⟩:=c.cons;have hi:lD r1 t=some (t::r1):=aiz fun y hy=>by
   obtain⟨q,hq,he⟩:=h.mem.1 y hy;rw[he];exact⟨ht q hq,vt.l2 (c2.t q hq)⟩
  show(lD r1 t).bind (fun l'=>kK l' r2)=_;rw[hi,aCN,Hk fun y hy=>?_,ih c2]
  ·rfl
  ·obtain⟨q,hq,he⟩:=h.mem.2 y hy;grind
 |both h hadd ih=>
  rename_i A r1 r2 t c' d;obtain⟨vt,ht,c2⟩:=c.cons;have hi:lD (⟨t.exps,c'⟩::r1) ⟨t.exps,d⟩=some (t::r1):=by
   show(if cA t.exps t.exps<0 then _ else if cA t.exps t.exps=0 then(if(eK c' d).2=0 then some (if(eK c' d).1.m.length=0 then r1 else⟨t.exps,(eK c' d).1⟩::r1)else none)else _)=_;rw[UK,if_neg ω,if_pos rfl,hadd,if_pos rfl,if_neg vt.nz]
  show(lD (⟨t.exps,c'⟩::r1) ⟨t.exps,d⟩).bind (fun l'=>kK l' r2)=_;rw[hi,aCN,Hk fun y hy=>?_,ih c2]
  ·rfl
  ·obtain⟨q,hq,he⟩:=h.mem.2 y hy;grind
theorem Mf(o:Int):∀A:List Rt,Mrg A (A.filter (EL o)) (A.filter (CJ o))
 |[]=>.nil
 |t::A=>by
  by_cases hd:bm t.exps<=o
  ·have f1:(EL o t)=true:=decide_eq_true hd;have f2:¬ (CJ o t)=true:=by unfold CJ;rw[decide_eq_true hd];exact aCR
   rw[List.filter_cons_of_pos f1,List.filter_cons_of_neg f2];exact .left (Mf o A)
  ·have f1:¬ (EL o t)=true:=by unfold EL;rw[decide_eq_false hd];exact aCR
   have f2:(CJ o t)=true:=by unfold CJ;rw[decide_eq_false hd];rfl
   rw[List.filter_cons_of_neg f1,List.filter_cons_of_pos f2];exact .right (Mf o A)
theorem aiA{c d t:Rd}(ot:Ok0 t)(vt:vd t=true)(vc:vd c=true)(vdd:vd d=true)(h:zI c+zI d=zI t):eK c d=(t,0):=by
 unfold eK;rw[vc,vdd,aDv,if_pos rfl,h,yH ot vt];unfold cI;by_cases h0:t.m.length=0
 ·rw[vZ vt h0];rfl
 grind[zU]
theorem afs{v:Int}{c d:Rd}{l2:List Rt}(vt:VT v t)(om:Ok0 c)(vm:vd c=true)(oq:Ok0 d)(vq:vd d=true)(hz:zI d=zI t.c-zI c)(ih:Mrg A l1 l2):Mrg (t::A) (ej t.exps c l1) (ej t.exps d l2):=by
 unfold ej;by_cases hc:c.m.length=0
 ·rw[if_pos hc];have hd:d=t.c:=Q4 oq vt.c vq vt.vc (by rw[hz,cQ hc,Int.sub_zero]);rw[hd,if_neg vt.nz];exact .right ih
 ·rw[if_neg hc];by_cases hd:d.m.length=0
  ·rw[if_pos hd];have hcc:c=t.c:=Q4 om vt.c vm vt.vc (by grind[cQ]);rw[hcc];exact .left ih
  ·rw[if_neg hd];exact .both ih (aiA vt.c vt.vc vm vq ω)
theorem U4{v p:Int}:∀ {A:List Rt} {q:List Rt×List Rt},(∀t∈A,VT v t)->xQ p A=some q->Mrg A q.1 q.2
 |[],q,_,h=>by
  cases h;exact .nil
 |t::A,q,hv,h=>by
  have vt:=hv t σ;unfold xQ at h;split at h
  ·split at h
   ·rename_i h1 h2;rw[aCL]at h;obtain⟨q2,h3,rfl⟩:=h;have ih:=U4 (fun x hx=>hv x γ) h3;grind[Gt,Bu,nC,afs,TF]
   grind
  grind
theorem are:R fdb [I 1] []=some (af one,[]):=acG (n:=60) κ
theorem als:R fdb [I (-1)] []=some (af lE,[]):=acG (n:=60) κ
theorem aoF:R fdH [] []=some (aj bX,[]):=by
 refine au aev rfl ?_;have h1:=als;have h2:=are;simp only[af,ai,lE,one]at h1 h2;simp only[HC,aj,ao,bX,lE,one,go_sem,h1,h2]
theorem arf(h:vi x=false\/x.all=true)(hy:y.all=false):qx x y=false:=by
 grind[qx]
theorem aoG{s:Rs}(os:OkS s)(hl:s.dom.length<=100000):∀ (rest:List Ri) (n:Nat),s.dom.drop n=rest->n<=s.dom.length->∀ (S:ap) (h:ae),S 1=ac 1->S 3=I n->h 1=.bx (wK s)->
  ∃hh,ak 0 [] (av (am R (az false) iS) [1,3] [1] S h)=if(rest.any fun x=>!qx x bX)=true then some (.ret,⟨upd bk 2 (B false),hh⟩)else some (.normal,⟨fun _=>.any,hh⟩):=by
 intro rest;induction rest with
 |nil=>
  intro n hd hn S h h1 h3 k1;have e:n=s.dom.length:=by
   have:=congrArg List.length hd;grind
  subst e;rw[ah];refine⟨?hh0,?_⟩;rotate_left
  ·simp only[iS,go_sem,h1,h3,k1,aDl];rfl
 |cons x rest ih=>
  intro n hd hn S h h1 h3 k1;have hlt:n<s.dom.length:=by
   grind
  have hr:s.dom[n]?=some x:=by
   have:=congrArg (·[0]?) hd;grind
  have ih':=ih (n+1) (by rw[←List.drop_drop,hd];rfl) hlt;have e1:((n:Int)< (s.dom.length:Int))=True:=tt;have e2:aZ (bS s.dom) (n:Int)=some (.ipt (ao x)):=Bc rfl hr;have e3:aG ((n:Int)+1)=((n+1:Nat):Int):=by grind[i64_in]
  have ox:=os.d x (List.mem_of_getElem? hr);have v1:=LK ox;have v2:=aoF;have v3:=afp ox Dm.1;have hk:=arf (x:=x) (y:=bX);rw[List.any_cons,ah];generalize qx x bX=bi at v3 hk⊢;simp only[aj,ao,bX,lE,one]at e2 v1 v2 v3;cases g1:vi x with
  |false=>
   rw[g1]at v1;rw[hk (Or.inl g1) rfl];refine⟨?hh1,?_⟩;rotate_left
   ·simp only[iS,go_sem,h1,h3,k1,e1,e2,v1];rfl
  |true=>
  rw[g1]at v1;cases g2:x.all with
  |true=>
   rw[hk (Or.inr g2) rfl];rw[g2]at v1 e2;refine⟨?hh2,?_⟩;rotate_left
   ·simp only[iS,go_sem,h1,h3,k1,e1,e2,v1];rfl
  |false=>
  rw[g2]at v1 e2 v3;cases bi with
  |false=>
   refine⟨?hh3,?_⟩;rotate_left
   ·simp only[iS,go_sem,h1,h3,k1,e1,e2,v1,v2,v3];rfl
  |true=>
   simp only[iS,go_sem,h1,h3,k1,e1,e2,e3,v1,v2,v3];exact ih' _ _ rfl rfl rfl
theorem alt{s:Rs}(os:OkS s):R fdG [oj s] []=some (B (eE s),[]):=by
 refine au aaO rfl ?_;have hp:=akz (p:=s.p);unfold eE;by_cases g1:(s.dom.length:Int)<1
 ·have f1:((s.dom.length:Int)<1)=True:=eq_true g1;rw[decide_eq_false (p:=1<=s.dom.length) ω,aCO];simp only[mH,rQ,go_sem,f1]
 have f1:((s.dom.length:Int)<1)=False:=eq_false g1;rw[decide_eq_true (p:=1<=s.dom.length) ω,aCM];by_cases g2:8< (s.dom.length:Int)
 ·have f2:(8< (s.dom.length:Int))=True:=eq_true g2;rw[decide_eq_false (p:=s.dom.length<=8) ω,aCO];simp only[mH,rQ,go_sem,f1,f2]
 have f2:(8< (s.dom.length:Int))=False:=eq_false g2;rw[decide_eq_true (p:=s.dom.length<=8) ω,aCM];by_cases g3:s.ord<1
 ·have f3:(s.ord<1)=True:=eq_true g3;rw[decide_eq_false (p:=1<=s.ord) ω,aCO];simp only[mH,rQ,go_sem,f1,f2,f3]
 have f3:(s.ord<1)=False:=eq_false g3;rw[decide_eq_true (p:=1<=s.ord) ω,aCM];by_cases g4:16<s.ord
 ·have f4:(16<s.ord)=True:=eq_true g4;rw[decide_eq_false (p:=s.ord<=16) ω,aCO];simp only[mH,rQ,go_sem,f1,f2,f3,f4]
 have f4:(16<s.ord)=False:=eq_false g4;rw[decide_eq_true (p:=s.ord<=16) ω,aCM];cases g5:bC s.p with
 |false=>
  rw[g5]at hp;simp only[mH,rQ,go_sem,f1,f2,f3,f4,hp,aCO]
 |true=>
 rw[g5]at hp;have hL:=aoG os ω s.dom 0 rfl (aC7 _);generalize hLL:av (am R (az false) iS) [1,3] [1]=L at hL;have hXL:∀s h,am R (az false) (.loop [1,3] [1] iS) s h=L s h:=fun s h=>by rw[←hLL];rfl
 clear hLL;rw[aCM];generalize(s.dom.any fun x=>!qx x bX)=b at hL⊢;have hL2:∀ (S:ap) (h:ae) (X:Option (Ex×St)),ak 0 [] (L S h)=X->S 1=ac 1->S 3=I 0->h 1=.bx (wK s)->∃hh,X=if b=true then some (.ret,⟨upd bk 2 (B false),hh⟩)else some (.normal,⟨fun _=>.any,hh⟩):=fun S h X hX k1 k2 k3=>by
  rw[←hX];exact hL S h k1 k2 k3
 simp only[mH,rQ,go_sem,f1,f2,f3,f4,hp,hXL];generalize hX2:ak 0 [] (L _ _)=X;obtain⟨hh,g0⟩:=hL2 _ _ _ hX2 rfl rfl rfl;rw[g0];cases b with
 |true=>
  rw[if_pos rfl];simp only[go_sem]
 |false=>
  rw[if_neg aCR];simp only[go_sem]
def EB(p:Int):Ri->List Ri->Ri
 |x,[]=>x
 |x,y::l=>EB p (dq x y p) l
theorem acS{p:Int}:∀ {l:List Ri} {x:Ri},OkI x->OkI (EB p x l)
 |[],_,h=>h
 |y::l,x,_=>(acS (l:=l) yG:OkI (EB p (dq x y p) l))
theorem aiB{p:Int}{l:List Ri}(ol:∀x∈l,OkI x)(hl:l.length<=100000):∀ (rest:List Ri) (n:Nat) (x:Ri),OkI x->l.drop n=rest->n<=l.length->∀ (S:ap) (h:ae),S 0=I p->S 4=ac 4->S 6=ac 6->S 9=.sl 7 (bS l)->S 10=I l.length->S 11=I n->h 4=.bx (ao x)->h 6=.bx [B false,.emp,I 0,B false,.emp,I 0,B false]->
  ∃hh,ak 0 [4,6] (av (am R (az false) pj) [0,4,6,9,10,11] [4,6] S h)=some (.normal,⟨upd (upd bk 6 (ac 6)) 4 (ac 4),hh⟩)/\hh 4=.bx (ao (EB p x rest))/\hh 6=.bx [B false,.emp,I 0,B false,.emp,I 0,B false]:=by
 intro rest;induction rest with
 |nil=>
  intro n x ox hd hn S h h0 h4 h6 h9 h10 h11 k4 k6;have e:n=l.length:=by
   have:=congrArg List.length hd;grind
  subst e;rw[ah];simp only[ao]at k4;refine⟨?hh0,?_,?_,?_⟩;rotate_left
  ·simp only[pj,go_sem,h0,h4,h6,h9,h10,h11,k4,k6,aDl];rfl
  ·rfl
  ·rfl
 |cons y rest ih=>
  intro n x ox hd hn S h h0 h4 h6 h9 h10 h11 k4 k6;have hlt:n<l.length:=by
   grind
  have hr:l[n]?=some y:=by
   have:=congrArg (·[0]?) hd;grind
  have ih':=ih (n+1) (dq x y p) yG (by rw[←List.drop_drop,hd];rfl) hlt;have e1:((n:Int)< (l.length:Int))=True:=tt;have e2:aZ (bS l) (n:Int)=some (.ipt (ao y)):=Bc rfl hr;have e3:aG ((n:Int)+1)=((n+1:Nat):Int):=by grind[i64_in]
  have v1:=tC ox (ol y (List.mem_of_getElem? hr)) (p:=p);rw[ah];rw[show EB p x (y::rest)=EB p (dq x y p) rest from rfl];generalize av _ _ _=L at ih'⊢;generalize dq x y p=z at v1 ih'⊢;simp only[ao]at e2 k4;simp only[aj,ao]at v1;simp only[pj,go_sem,h0,h4,h6,h9,h10,h11,k4,k6,e1,e2,e3,v1];exact ih' _ _ rfl rfl rfl rfl rfl rfl rfl rfl
theorem aoH{l:List Ri}(ox:OkI x)(ol:∀x∈l,OkI x)(hl:l.length<=100000):R fce [I p,aj x,.sl 7 (bS l)] []=some (aj (EB p x l),[]):=by
 refine au aaP rfl ?_;have hL:=aiB (p:=p) ol hl l 0 x ox rfl (aC7 _);generalize hLL:av (am R (az false) pj) [0,4,6,9,10,11] [4,6]=L at hL;have hXL:∀s h,am R (az false) (.loop [0,4,6,9,10,11] [4,6] pj) s h=L s h:=fun s h=>by rw[←hLL];rfl
 clear hLL;generalize EB p x l=z at hL⊢;have hL2:∀ (S:ap) (h:ae) (X:Option (Ex×St)),ak 0 [4,6] (L S h)=X->S 0=I p->S 4=ac 4->S 6=ac 6->S 9=.sl 7 (bS l)->S 10=I l.length->S 11=I 0->h 4=.bx (ao x)->h 6=.bx [B false,.emp,I 0,B false,.emp,I 0,B false]->
   ∃hh,X=some (.normal,⟨upd (upd bk 6 (ac 6)) 4 (ac 4),hh⟩)/\hh 4=.bx (ao z)/\hh 6=.bx [B false,.emp,I 0,B false,.emp,I 0,B false]:=fun S h X hX a b c d e f i j=>by
  rw[←hX];exact hL S h a b c d e f i j
 simp only[FJ,NV,aj,ao,go_sem,hXL];generalize hX2:ak 0 [4,6] (L _ _)=X;obtain⟨hh,g0,g4,g6⟩:=hL2 _ _ _ hX2 rfl rfl rfl rfl rfl rfl rfl rfl;rw[g0];simp only[ao]at g4;simp only[go_sem,g4,g6]
noncomputable def Of (s:Rs) (a b:Rm):Rm:=if yT s [a,b]=true then kP s (AM a.P b.P).1 (AM a.P b.P).2 (dq a.R b.R s.p)else dV s
noncomputable def PK (s:Rs) (a b:Rm):Rm:=if yT s [a,b]=true then kP s (zE a.P b.P).1 (zE a.P b.P).2 (Co a.R b.R s.p)else dV s
theorem vP{s:Rs}{l:List Rm}(h:yT s l=true):eE s=true/\∀m∈l,vO s m=true:=by
 simp_all[yT,aCK,aDJ,List.any_eq_false]
theorem fP{s:Rs}(h:eE s=true):s.dom.length<=8/\bC s.p=true:=by
 simp_all[eE,aCK,decide_eq_true_eq]
theorem ge{s:Rs}{m:Rm}(om:OkM m)(h:vO s m=true):OkP m.P/\vp m.P=true/\m.P.vars=s.dom.length/\vi m.R=true:=by
 unfold vO at h;simp only[aCK,decide_eq_true_eq]at h;exact⟨ain om.c h.2.1,h.2.1,h.2.2.1,h.2.2.2.2.1⟩
theorem two{α:Type}{p:α->Prop}{a b:α}(ha:p a)(hb:p b):∀m∈[a,b],p m:=fun m hm=>by
 grind
theorem aoI{s:Rs}{a b:Rm}(os:OkS s)(oa:OkM a)(ob:OkM b):R fbW [oj s,fS a,fS b] []=some (fS (Of s a b),[]):=by
 refine au aaW rfl ?_;have h1:=Do os (l:=[a,b]) (two oa ob) σ;have h2:=Dp (s:=s);unfold Of;simp only[aDc,aDh]at h1;cases g:yT s [a,b]with
 |false=>
  rw[g]at h1;simp only[BY,go_sem,h1,h2]
 |true=>
  rw[g]at h1;obtain⟨q1,q2⟩:=vP g;obtain⟨a1,_⟩:=ge oa (q2 a σ);obtain⟨b1,_⟩:=ge ob (q2 b σ);have h3:=acn a1 b1;have h4:=tC oa.r ob.r (p:=s.p);have h5:=JX (e:=(AM a.P b.P).2) (r:=dq a.R b.R s.p) os (Pz a1 b1) yG (by grind[fP]);simp only[pV,bc,aj,ao]at h3 h4 h5;simp only[BY,go_sem,h1,h3,h4,h5]
theorem PL{s:Rd}(ok:Ok0 s)(v:vd s=true):R faT [af s,I (-1)] []=some (rV (Gs s),[]):=by
 refine au Ii rfl ?_;obtain⟨h0,h1,h2,h3⟩:=dj v ok.lb;have hv:=eS ok;rw[v]at hv;have hx:=zT (e:=-1);have ho:=mO (neg:=s.neg) (m:=s.m) (e:=s.e+-1) ok.lb ω (by grind[Exq]);rw[TD ok v]at ho;have hl:Ok0 (cT (zI s) (-16384- (1:Nat))):=by
  rw[←TD ok v];exact⟨qW _ _ _,aDe (qj (k:=128) ω) δ⟩
 have hc:=Cg hl.lb (by
  rw[←TD ok v];exact aCP (qj (k:=128) ω) δ)
 have e:(if rI (ag (ab (cT (zI s) (-16384- (1:Nat))).m)) (cT (zI s) (-16384- (1:Nat))).e=true then AV.tup [af (cT (zI s) (-16384- (1:Nat))),I 0]else .tup [af aB,I 9])=rV (Gs s):=by
  grind[Gs,cI,rV]
 rw[e]at hc;have ew:aG (s.e+-1)=s.e+-1:=by grind[i64_in]
 simp only[af,ai,rV]at hv ho hc;simp only[wA,rV,af,ai,go_sem,hv,hx,ho,hc,ew,show decide ((-32768:Int)≤-1)=true from rfl,show decide ((-1:Int)<=32768)=true from rfl]
def qO(x:Ri)(p:Int):Rd:=if(kI x&&bC p)=true then(if(dk x.lo x.hi p false).2=0 then(if(Gs (dk x.lo x.hi p false).1).2=0 then(if uN x (Gs (dk x.lo x.hi p false).1).1=true then(Gs (dk x.lo x.hi p false).1).1 else x.lo)else x.lo)else x.lo)else aB
theorem Hl(h:kI x=true):x.all=false/\vd x.lo=true/\vd x.hi=true:=by
 grind[kI,vi]
theorem yL(ox:OkI x):vd (qO x p)=true/\Ok0 (qO x p):=by
 unfold qO;split
 ·rename_i h;rw[aCK]at h;have hl:=(Hl h.1).2.1;split
  ·split
   ·split
    ·exact yI
    ·exact⟨hl,ox.lo⟩
   ·exact⟨hl,ox.lo⟩
  ·exact⟨hl,ox.lo⟩
 ·exact aO
theorem Zz(ox:OkI x):R fbo [aj x,I p] []=some (af (qO x p),[]):=by
 refine au Sp rfl ?_;have h1:=oZ ox;have h2:=mP (p:=p);unfold qO;cases g1:kI x with
 |false=>
  rw[g1]at h1;simp only[jv,aj,ao,af,ai,aB,go_sem,h1,aCO,aDy]
 |true=>
 rw[g1]at h1;cases g2:bC p with
 |false=>
  rw[g2]at h2;simp only[jv,aj,ao,af,ai,aB,go_sem,h1,h2,aDH,aDy]
 |true=>
 rw[g2]at h2;have h3:=JI ox.lo ox.hi (p:=p);have h4:=PL (Iv (a:=x.lo) (b:=x.hi) (p:=p) (up:=false)) MR;have h5:=Zr ox (d:=(Gs (dk x.lo x.hi p false).1).1) yI.2;generalize uN x (Gs (dk x.lo x.hi p false).1).1=b at h5⊢;generalize Gs (dk x.lo x.hi p false).1=m at h4 h5⊢;generalize dk x.lo x.hi p false=s at h3 h4⊢;simp only[aj,ao,af,ai,rV]at h3 h4 h5;by_cases k1:s.2=0
 case neg=>
  have f1:(s.2=0)=False:=eq_false k1;simp only[jv,aj,ao,af,ai,go_sem,h1,h2,h3,f1]
 have f1:(s.2=0)=True:=eq_true k1;by_cases k2:m.2=0
 case neg=>
  have f2:(m.2=0)=False:=eq_false k2;simp only[jv,aj,ao,af,ai,go_sem,h1,h2,h3,h4,f1,f2]
 have f2:(m.2=0)=True:=eq_true k2;cases b with
 |false=>
  simp only[jv,aj,ao,af,ai,go_sem,h1,h2,h3,h4,h5,f1,f2]
 |true=>
  simp only[jv,aj,ao,af,ai,go_sem,h1,h2,h3,h4,h5,f1,f2]
noncomputable def AR (s:Rs) (a b:Rm):Rm:=if yT s [a,b]=true then kP s (zF a.P b.P).1 (zF a.P b.P).2 (EB s.p (dt (mU a.P s.dom s.p) b.R s.p) [dt (mU b.P s.dom s.p) a.R s.p,dt a.R b.R s.p])else dV s
theorem acT{s:Rs}{a b:Rm}(os:OkS s)(oa:OkM a)(ob:OkM b):R fb0 [oj s,fS a,fS b] []=some (fS (AR s a b),[]):=by
 refine au aaK rfl ?_;have h1:=Do os (l:=[a,b]) (two oa ob) σ;have h2:=Dp (s:=s);unfold AR;simp only[aDc,aDh]at h1;cases g:yT s [a,b]with
 |false=>
  rw[g]at h1;simp only[BO,go_sem,h1,h2]
 |true=>
  rw[g]at h1;obtain⟨q1,q2⟩:=vP g;obtain⟨a1,_⟩:=ge oa (q2 a σ);obtain⟨b1,_⟩:=ge ob (q2 b σ);have hl:s.dom.length<=100000:=by grind[fP]
  have h3:=anL a1 b1;have r1:=Bv (p:=s.p) a1 os.d hl;have r2:=Bv (p:=s.p) b1 os.d hl;have k1:=(tL (p:=s.p) a1 os.d hl).1;have k2:=(tL (p:=s.p) b1 os.d hl).1;generalize mU a.P s.dom s.p=x at r1 k1⊢;generalize mU b.P s.dom s.p=y at r2 k2⊢;have m1:=v9 k1 ob.r (p:=s.p);have m2:=v9 k2 oa.r (p:=s.p);have m3:=v9 oa.r ob.r (p:=s.p);have h4:=aoH (p:=s.p) (x:=dt x b.R s.p) (l:=[dt y a.R s.p,dt a.R b.R s.p]) tG (two tG tG) σ;have h5:=JX (q:=(zF a.P b.P).1) (e:=(zF a.P b.P).2) (r:=EB s.p (dt x b.R s.p) [dt y a.R s.p,dt a.R b.R s.p]) os (PB a1 b1) (acS tG) hl;simp only[pV,bc,aj,ao]at h3 h5 r1 r2 m1 m2 m3;simp only[aj,ao,bS,aDc,aDh]at h4;simp only[BO,go_sem,h1,h3,h4,h5,r1,r2,m1,m2,m3]
theorem Nh:OkI (Co x y p):=yG
theorem U5{s:Rs}:OkI (dV s).R/\vi (dV s).R=true/\Cl (dV s).P.vars (dV s).P.terms/\(dV s).P.terms.length<=100000:=⟨Df.ok',rfl,Cl.nil _,aC7 _⟩
theorem Wp{d:Rd}(h:z0 d=true):d=aB:=by
 obtain⟨n,m,e⟩:=d;unfold z0 at h;simp only[aCK,aDJ,decide_eq_true_eq]at h;obtain⟨h1,h2,h3⟩:=h;subst h1 h3;rw[List.length_eq_zero_iff.1 h2];rfl
theorem E5(ox:OkI x)(v:vi x=true):∃q,In q x:=by
 cases ha:x.all with
 |true=>
  refine⟨0,Or.inl ?_⟩;unfold vi at v;rw[ha]at v;simp at v;obtain⟨l,h,a⟩:=x;simp only at v ha;rw[Wp v.1,Wp v.2,ha];rfl
 |false=>
  have hk:kI x=true:=by grind[kI]
  obtain⟨_,h1,h2⟩:=Hl hk;exact⟨qv x.lo,Or.inr ⟨ha,⟨⟨h1,ox.lo⟩,h2,ox.hi⟩,Rat.le_refl,sE.2 (amg hk).2.2.1⟩⟩
theorem ZA{s:Rs}{q:Rp}{e:Int}{r:Ri}(oq:OkP q)(os:OkS s)(hl:s.dom.length<=100000)(hv:e=0->vp q=true->q.vars=s.dom.length)(ir:∃q,In q r):OkI (kP s q e r).R/\vi (kP s q e r).R=true/\Cl (kP s q e r).P.vars (kP s q e r).P.terms/\(kP s q e r).P.terms.length<=100000:=by
 unfold kP;split
 ·rename_i he;have hv:=hv he;split
  ·rename_i hc;obtain⟨⟨c1,_⟩,c2,_⟩:=Hi (o:=s.ord) oq;obtain⟨r1,r2⟩:=U2 (p:=s.p) (kJ c1);unfold AP at hc⊢;split at hc
   ·rename_i h0;rw[if_pos h0];have k4:=tL (p:=s.p) (kJ c2) os.d hl;have k5:=tL (p:=s.p) (kJ r2.cl) os.d hl;obtain⟨q4,i4⟩:=E5 k4.1 k4.2;obtain⟨q5,i5⟩:=E5 k5.1 k5.2;obtain⟨q6,i6⟩:=ir;have ii:=io (p:=s.p) i6 (io (p:=s.p) i4 i5);refine⟨ii.ok,ii.v,?_,r1.len⟩;have hcl:=r1.cl;cases hq:vp q with
    |true=>
     have e1:(fm q s.ord).1.vars=q.vars:=by simp_all[fm,if_pos]
     have e2:(fY (fm q s.ord).1 s.p).1.1.vars=q.vars:=by
      unfold fY at h0⊢;grind
     rw[←hv hq,←e2];omega
    |false=>
     have e1:(fm q s.ord).1=p0:=by simp_all[fm,if_neg]
     have e2:(fY p0 s.p).1.1.terms=[]:=by
      unfold fY;split
      ·split
       ·rfl
       ·rfl
      ·rfl
     grind[Cl.nil]
   grind
  ·exact U5
 ·exact U5
theorem aoJ{s:Rs}{a b:Rm}(os:OkS s)(oa:OkM a)(ob:OkM b):R fb1 [oj s,fS a,fS b] []=some (fS (PK s a b),[]):=by
 refine au aaV rfl ?_;have h1:=Do os (l:=[a,b]) (two oa ob) σ;have h2:=Dp (s:=s);unfold PK;simp only[aDc,aDh]at h1;cases g:yT s [a,b]with
 |false=>
  rw[g]at h1;simp only[BX,go_sem,h1,h2]
 |true=>
  rw[g]at h1;obtain⟨q1,q2⟩:=vP g;obtain⟨a1,_⟩:=ge oa (q2 a σ);obtain⟨b1,_⟩:=ge ob (q2 b σ);have h3:=anH a1 b1;have h4:=M1 oa.r ob.r (p:=s.p);have h5:=JX (e:=(zE a.P b.P).2) (r:=Co a.R b.R s.p) os (PA a1 b1) Nh (by grind[fP]);simp only[pV,bc,aj,ao]at h3 h4 h5;simp only[BX,go_sem,h1,h3,h4,h5]
theorem alu{α:Type}{p:α->Prop}{a:α}(ha:p a):∀m∈[a],p m:=fun m hm=>by grind
noncomputable def Mg (s:Rs) (a:Rm) (r:Ri):Rm:=if yT s [a]=true then⟨a.P,dq a.R r s.p⟩else dV s
theorem aiC{s:Rs}{a:Rm}{r:Ri}(os:OkS s)(oa:OkM a)(or:OkI r):R fb7 [oj s,fS a,aj r] []=some (fS (Mg s a r),[]):=by
 refine au VJ rfl ?_;have h1:=Do os (l:=[a]) (alu oa) σ;have h2:=Dp (s:=s);unfold Mg;simp only[aDc,aDh]at h1;cases g:yT s [a]with
 |false=>
  rw[g]at h1;simp only[yg,aj,ao,go_sem,h1,h2]
 |true=>
  rw[g]at h1;have h4:=tC oa.r or (p:=s.p);simp only[aj,ao]at h4;simp only[yg,aj,ao,go_sem,h1,h4]
noncomputable def dL (s:Rs) (a:Rm):Ri:=if yT s [a]=true then dq (mU a.P s.dom s.p) a.R s.p else cS
theorem Hm{s:Rs}{a:Rm}(os:OkS s)(oa:OkM a):R fbX [oj s,fS a] []=some (aj (dL s a),[]):=by
 refine au VB rfl ?_;have h1:=Do os (l:=[a]) (alu oa) σ;have h2:=gN;unfold dL;simp only[aDc,aDh]at h1;cases g:yT s [a]with
 |false=>
  rw[g]at h1;simp only[yb,aj,ao,cS,aB,go_sem,h1,h2]
 |true=>
  rw[g]at h1;obtain⟨q1,q2⟩:=vP g;obtain⟨a1,_⟩:=ge oa (q2 a σ);have hl:s.dom.length<=100000:=by grind[fP]
  have h3:=Bv (p:=s.p) a1 os.d hl;have k1:=(tL (p:=s.p) a1 os.d hl).1;have h4:=tC k1 oa.r (p:=s.p);simp only[bc,aj,ao]at h3 h4;simp only[yb,aj,ao,go_sem,h1,h3,h4]
def PM:List Ri->List Ri->Bool
 |x::l,y::m=>qx x y&&PM l m
 |_,_=>true
theorem aoK{x d:List Ri}(ox:∀a∈x,OkI a)(od:∀a∈d,OkI a)(hx:x.length<4611686018427387904)(he:x.length=d.length):∀ (rx rd:List Ri) (n:Nat),x.drop n=rx->d.drop n=rd->n<=x.length->∀ (S:ap) (h:ae),S 1=.sl 7 (bS d)->S 2=.fn fbl [] []->S 15=.sl 7 (bS x)->S 16=I x.length->S 17=I n->
  ∃hh,ak 0 [] (av (am R (az false) aK) [1,2,15,16,17] [] S h)=if PM rx rd=true then some (.normal,⟨fun _=>.any,hh⟩)else some (.ret,⟨upd bk 6 (B false),hh⟩):=by
 intro rx;induction rx with
 |nil=>
  intro rd n hd1 hd2 hn S h h1 h2 h15 h16 h17;have e:n=x.length:=by
   have:=congrArg List.length hd1;grind
  subst e;rw[ah];refine⟨?hh0,?_⟩;rotate_left
  ·simp only[aK,go_sem,h1,h2,h15,h16,h17,aDl];rfl
 |cons a rx ih=>
  intro rd n hd1 hd2 hn S h h1 h2 h15 h16 h17;have hlt:n<x.length:=by
   grind
  have ra:x[n]?=some a:=by
   have:=congrArg (·[0]?) hd1;grind
  have hb:∃b,d[n]?=some b:=⟨d[n]'(by omega),List.getElem?_eq_getElem ω⟩;obtain⟨b,rb⟩:=hb;have hrd:rd=b::d.drop (n+1):=by
   grind[aC4,Option.some.injEq]
  subst hrd;have ih':=ih (d.drop (n+1)) (n+1) (by rw[←List.drop_drop,hd1];rfl) rfl hlt;have e1:((n:Int)< (x.length:Int))=True:=tt;have e2:aZ (bS x) (n:Int)=some (.ipt (ao a)):=Bc rfl ra;have e3:aZ (bS d) (n:Int)=some (.ipt (ao b)):=Bc rfl rb;have e4:aG ((n:Int)+1)=((n+1:Nat):Int):=by grind[i64_in]
  have v1:=UZ (ox a (List.mem_of_getElem? ra)) (od b (List.mem_of_getElem? rb));rw[ah,show PM (a::rx) (b::d.drop (n+1))=(qx a b&&PM rx (d.drop (n+1)))from rfl];simp only[aj,ao]at e2 e3 v1;cases g:qx a b with
  |false=>
   rw[g]at v1;refine⟨?hh1,?_⟩;rotate_left
   ·simp only[aK,go_sem,h1,h2,h15,h16,h17,e1,e2,e3,v1];rfl
  |true=>
   rw[g]at v1;simp only[aK,go_sem,h1,h2,h15,h16,h17,e1,e2,e3,e4,v1];exact ih' _ _ rfl rfl rfl rfl rfl
def ZB(x d:List Ri):Bool:=decide (x.length=d.length)&&PM x d
theorem arg{x d:List Ri}(ox:∀a∈x,OkI a)(od:∀a∈d,OkI a)(hx:x.length<4611686018427387904):R fei [.sl 7 (bS x),.sl 7 (bS d),.fn fbl [] []] []=some (B (ZB x d),[]):=by
 refine au iK rfl ?_;unfold ZB;by_cases he:x.length=d.length
 ·have f:((x.length:Int)=(d.length:Int))=True:=tt;rw[decide_eq_true he,aCM];have hL:=aoK ox od hx he x d 0 rfl rfl (aC7 _);generalize hLL:av (am R (az false) aK) [1,2,15,16,17] []=L at hL;have hXL:∀s h,am R (az false) (.loop [1,2,15,16,17] [] aK) s h=L s h:=fun s h=>by rw[←hLL];rfl
  have hL2:∀ (S:ap) (h:ae) (X:Option (Ex×St)),ak 0 [] (L S h)=X->S 1=.sl 7 (bS d)->S 2=.fn fbl [] []->S 15=.sl 7 (bS x)->S 16=I x.length->S 17=I 0->
    ∃hh,X=if PM x d=true then some (.normal,⟨fun _=>.any,hh⟩)else some (.ret,⟨upd bk 6 (B false),hh⟩):=fun S h X hX a b c d e=>by
   rw[←hX];exact hL S h a b c d e
  simp only[bB,cx,go_sem,f,hXL];generalize hX2:ak 0 [] (L _ _)=X;obtain⟨hh,g0⟩:=hL2 _ _ _ hX2 rfl rfl rfl rfl rfl;rw[g0];cases PM x d with
  |true=>
   simp only[go_sem]
  |false=>
   simp only[go_sem]
 ·have f:((x.length:Int)=(d.length:Int))=False:=ff;rw[decide_eq_false he,aCO];simp only[bB,cx,go_sem,f]
noncomputable def Gu (s:Rs) (a:Rm) (x:List Ri):Ri:=if(yT s [a]&&ZB x s.dom)=true then dq (mU a.P x s.p) a.R s.p else cS
theorem ZC{s:Rs}{a:Rm}{x:List Ri}(os:OkS s)(oa:OkM a)(ox:∀b∈x,OkI b)(hx:x.length<=100000):R fbZ [oj s,fS a,.sl 7 (bS x)] []=some (aj (Gu s a x),[]):=by
 refine au XG rfl ?_;have h1:=Do os (l:=[a]) (alu oa) σ;have h2:=gN;unfold Gu;simp only[aDc,aDh]at h1;cases g:yT s [a]with
 |false=>
  rw[g]at h1;simp only[uU,aj,ao,cS,aB,go_sem,h1,h2]
 |true=>
  rw[g]at h1;have h5:=arg ox os.d ω;cases g2:ZB x s.dom with
  |false=>
   rw[g2]at h5;simp only[uU,aj,ao,cS,aB,go_sem,h1,h2,h5]
  |true=>
   rw[g2]at h5;obtain⟨q1,q2⟩:=vP g;obtain⟨a1,_⟩:=ge oa (q2 a σ);have h3:=Bv (p:=s.p) a1 ox hx;have k1:=(tL (p:=s.p) a1 ox hx).1;have h4:=tC k1 oa.r (p:=s.p);simp only[bc,aj,ao]at h3 h4;simp only[uU,aj,ao,go_sem,h1,h3,h4,h5]
def inc(l:List Int)(i:Nat):List Int:=l.set i (l.getD i 0+1)
theorem acU(l:List Int)(i:Nat):(inc l i).length=l.length:=by simp[inc]
theorem arh{l:List Int}{i:Nat}(h:i<l.length):(inc l i).getD i 0=l.getD i 0+1:=by
 grind[inc]
theorem aoL{l:List Int}{i:Nat}(h:i<l.length):dec (inc l i) i=l:=by
 simp_all[dec,arh,inc,List.set_set,Int.add_sub_cancel,List.set_getElem_self]
theorem acV{l:List Int}{i:Nat}(h:i<l.length):bm (inc l i)=bm l+1:=by
 grind[acE,inc,acU,aoL]
def alv(x:List Int):Rt:=⟨x,one⟩
def ayc(v:Int)(t:Rt)(i:Nat):Rp:=⟨v,[alv (inc t.exps i)]⟩
structure VS (v:Int) (i:Nat) (t:Rt):Prop where
 vt:VT v t
 hd:bm t.exps<=16
 hi:i<t.exps.length
theorem TK{l:List Int}{i:Nat}(h:∀e∈l,0<=e/\e<=32)(hi:i<l.length):0<=l.getD i 0/\l.getD i 0<=bm l:=by
 simp_all[IB]
theorem VS.inc{v:Int}{i:Nat}{t:Rt}(h:VS v i t){d:Rd}(od:Ok0 d)(vdd:vd d=true)(nd:d.m.length≠0):VT v ⟨inc t.exps i,d⟩:=by
 obtain⟨x1,x2⟩:=TK h.vt.b h.hi;have:=h.hd;refine⟨od,by rw[acU];exact h.vt.len,h.vt.v8,vdd,nd,fun e he=>?_,by rw[acV h.hi];omega⟩;rcases List.mem_or_eq_of_mem_set he with h2|rfl
 ·exact h.vt.b e h2
 omega
theorem VS.one{v:Int}{i:Nat}(h:VS v i t):VT v (alv (Go.Ab.inc t.exps i)):=h.inc dW.2 dW.1 δ
theorem VS.oneC{v:Int}{i:Nat}(h:VS v i t):Cl v [alv (Go.Ab.inc t.exps i)]:=Cl.mk' h.one (fun _ h=>nomatch h) (Cl.nil _)
theorem VS.vp{v:Int}{i:Nat}{t:Rt}(h:VS v i t)(h0:0<=v):vp (ayc v t i)=true:=Cn h.oneC h0 h.vt.v8 γ
theorem VS.intD{v:Int}{i:Nat}{t:Rt}(h:VS v i t):Ok0 (intD (t.exps.getD i 0+1))/\vd (intD (t.exps.getD i 0+1))=true:=by
 obtain⟨x1,x2⟩:=TK h.vt.b h.hi;have:=h.hd;obtain⟨k1,k2,_⟩:=anZ (e:=t.exps.getD i 0+1) ω ω;grind
def rZ(v i:Nat):List Int:=(kL v).set i 1
def alx(v i:Nat):Rp:=⟨v,[⟨rZ v i,one⟩]⟩
theorem PN(v i:Nat):(rZ v i).length=v:=by simp[rZ,kL]
theorem aly{v i:Nat}(h:i<v):bm (rZ v i)=1:=by
 have:=acV (l:=kL v) (i:=i) (by grind[kL]);grind[TA,inc,kL,rZ]
theorem ari{v i:Nat}(h8:v<=8)(h:i<v):VT v ⟨rZ v i,one⟩:=by
 refine⟨dW.2,by grind[rZ,PN],by omega,dW.1,(by show(1:Nat)≠0;decide),fun e he=>?_,by grind[aly]⟩;rcases List.mem_or_eq_of_mem_set he with h|rfl
 ·exact amo e h
 omega
theorem arj{v:Nat}{i:Int}:R fcZ [I v,I i] []=some (if v<=8/\0<=i/\i<v then pV (alx v i.toNat,0)else pV (p0,2),[]):=by
 refine au aet rfl ?_;have e1:((v:Int)<0)=False:=ff;by_cases g:v<=8/\0<=i/\i<v
 ·rw[if_pos g];obtain⟨h8,g1,g2⟩:=g;obtain⟨n,rfl⟩:=aDG g1;have hn:n<v:=ω
  have e2:(8< (v:Int))=False:=ff;have e3:((n:Int)<0)=False:=ff;have e4:((v:Int)<=(n:Int))=False:=ff;have z1:qA (.v (.int .i64 (v:Int))) (.v (.int .i64 (v:Int)))=some (v,v):=by
   grind[qA]
  have z2:(v*8<=140737488355328)=True:=tt;have he:=Di (v:=v);have h1:=LH;simp only[af,ai]at h1;have ei:Int.toNat (n:Int)=n:=aCQ _;have k0:(aV (kL v)).set n [I 1]=aV (rZ v n):=aco _ _ _;have k3:(aV (kL v))[n]?=some [I 0]:=by grind[aV,kL]
  have e7:(0<=(n:Int)/\(n:Int)< (v:Int))=True:=eq_true ⟨by omega,by omega⟩;simp only[vV,go_sem,e1,e2,e3,e4,h1,he,rL,z1,z2,Zh,e7,ei,k0,k3,aCI];have k1:(v<=(rZ v n).length)=True:=eq_true (by simp_all[PN,aCJ]);have k2:(aV (rZ v n)).take v=aV (rZ v n):=aCX (by simp_all[Fg,PN,aCJ]);simp only[k1,k2,go_sem];have hadd:=dX (aW.1.2.1 false) rfl (rK (d:=34) (id:=2240) (v:=v) (e:=0) (e':=0) (c:=.emp) (l:=[]) (x:=rZ v n) (q:=one) (h:=upd (upd (upd (upd (upd (fun _=>.dead) 4 (.bx [I 0,.emp])) 25 (.ar 1 (aV (kL v)))) 25 (.ar 1 (aV (rZ v n)))) 2240 (.bx [I v,.emp,I 0])) 25 (.fz 1 (aV (rZ v n)))) rfl (.inr ⟨rfl,rfl⟩) (.inl rfl) (Pw (ari h8 hn)));simp only[af,ai,t3]at hadd;simp only[hadd,go_sem];obtain⟨o,hdn⟩:=D8 (v:=v) (e:=0) (c:=.osl 4 (aL [⟨rZ v n,one⟩])) (l:=[⟨rZ v n,one⟩]) (d:=36) (id:=2240) (h:=upd (upd (upd (upd (upd (upd (fun _=>.dead) 4 (.bx [I 0,.emp])) 25 (.ar 1 (aV (kL v)))) 25 (.ar 1 (aV (rZ v n)))) 2240 (.bx [I v,.emp,I 0])) 25 (.fz 1 (aV (rZ v n)))) 2240 (.bx [I v,.osl 4 (aL [⟨rZ v n,one⟩]),I 0])) rfl (.inl rfl) rfl;have hd':=dX (bD.1.2.1 false) rfl hdn;rw[hd'];have e4:rW v (some [⟨rZ v n,one⟩])=(alx v n,0):=rfl;have e5:=It [⟨rZ v n,one⟩];rw[e4];simp only[pV,bc,e5,go_sem]
 ·rw[if_neg g];by_cases g1:v<=8
  ·have e2:(8< (v:Int))=False:=ff;by_cases g2:0<=i
   ·have e3:(i<0)=False:=ff;have e4:((v:Int)<=i)=True:=tt;simp only[vV,go_sem,e1,e2,e3,e4];rfl
   ·have e3:(i<0)=True:=tt;simp only[vV,go_sem,e1,e2,e3];rfl
  ·have e2:(8< (v:Int))=True:=tt;simp only[vV,go_sem,e1,e2];rfl
noncomputable def aft (s:Rs) (i:Int):Rm:=if(eE s&&decide (0<=i/\i<s.dom.length))=true then⟨alx s.dom.length i.toNat,cj⟩else dV s
theorem aoM{s:Rs}{i:Int}(os:OkS s):R fb6 [oj s,I i] []=some (fS (aft s i),[]):=by
 refine au aaN rfl ?_;have h1:=Am os.d os.n;have h2:=Dp (s:=s);have h3:=arj (v:=s.dom.length) (i:=i);have h4:=U0;unfold aft;by_cases g:s.dom.length<=8/\0<=i/\i<s.dom.length
 ·rw[if_pos g]at h3;rw[decide_eq_true g.2,Bool.and_true];simp only[pV,bc,aj,ao]at h3 h4;cases g1:eE s with
  |false=>
   rw[g1]at h1;simp only[sK,go_sem,h1,h2,h3]
  |true=>
   rw[g1]at h1;simp only[sK,go_sem,h1,h3,h4]
 ·rw[if_neg g]at h3;have gf:(eE s&&decide (0<=i/\i<s.dom.length))=false:=by
   grind[g1,eE,decide_eq_false,fP]
  rw[gf,if_neg aCR];simp only[pV,bc,p0]at h3;have f:((2:Int)=0)=False:=eq_false δ;cases g1:eE s with
  |false=>
   rw[g1]at h1;simp only[sK,go_sem,h1,h2,h3]
  |true=>
   rw[g1]at h1;simp only[sK,go_sem,h1,h2,h3,f]
noncomputable def gZ (s:Rs) (x:Ri):Rm:=if(eE s&&kI x)=true then kP s (Cp s.dom.length (qO x s.p)) 0 (Co x ⟨qO x s.p,qO x s.p,false⟩ s.p)else dV s
theorem Ni{v:Nat}{c:Rd}(h8:v<=8)(oc:Ok0 c)(vc:vd c=true):Cl v (EA v c):=by
 grind[EA,Cl.nil,Cl.mk',ah8]
theorem Bw{s:Rs}(os:OkS s)(ox:OkI x):R fbY [oj s,aj x] []=some (fS (gZ s x),[]):=by
 refine au VC rfl ?_;have h1:=Am os.d os.n;have h2:=Dp (s:=s);have hv:=oW ox;unfold gZ;simp only[aj,ao]at hv;cases g:eE s with
 |false=>
  rw[g]at h1;simp only[po,aj,ao,go_sem,h1,h2]
 |true=>
 rw[g]at h1;unfold kI;cases g2:x.all with
 |true=>
  simp only[po,aj,ao,go_sem,h1,h2,g2]
 |false=>
 rw[g2]at hv;cases g3:vi x with
 |false=>
  rw[g3]at hv;simp only[po,aj,ao,go_sem,h1,h2,g2,hv]
 |true=>
 rw[g3]at hv;have h8:=(fP g).1;have hl:s.dom.length<=100000:=ω
 have hm:=Zz ox (p:=s.p);obtain⟨mv,mo⟩:=yL (p:=s.p) ox;have hs:=ala h8 mo mv;have hp:=gO mo mv;have pok:OkI ⟨qO x s.p,qO x s.p,false⟩:=⟨mo,mo⟩;have u1:=M1 ox pok (p:=s.p);have h5:=JX (q:=Cp s.dom.length (qO x s.p)) (e:=0) (r:=Co x ⟨qO x s.p,qO x s.p,false⟩ s.p) os (kJ (Ni h8 mo mv)) Nh hl;simp only[pV,bc,aj,ao,af,ai,g2]at hm hs hp u1 h5;simp only[po,aj,ao,go_sem,h1,h5,g2,hv,hm,hs,hp,u1]
theorem ark{neg:Bool}{n:Nat}{e:Int}(h:M<=2^n)(hn:1<=n):ag (ab (bg neg M e).m)<=n:=by
 by_cases h0:M=0
 ·subst h0;exact aC7 _
 ·obtain⟨k1,_,k3,_⟩:=rU (neg:=neg) (e:=e) h0;rw[k1,bH];have h2:M/2^tz M<=M:=Nat.div_le_self _ _;grind
theorem ayd{n:Nat}{e:Int}{more up:Bool}:nu up (qk M e more (fk M e (n:Nat)))<=2^n:=by
 have key:(qk M e more (fk M e (n:Nat))).1<2^n:=by
  obtain⟨u,hu⟩:∃u,fk M e (n:Nat)=u:=⟨_,rfl⟩;have hu2:e+(ag M:Nat)-n<=u:=by
   grind[fk]
  unfold qk;split
  ·by_cases h0:M=0
   ·grind
   ·rw[←bH,dJ _ h0];omega
  ·rw[←bH,l8];omega
 grind[nu]
theorem aiD{n:Nat}{e:Int}{more up:Bool}(hn:1<=n):ag (ab (df M e more (n:Nat) up).1.m)<=n:=by
 have h0:ag (ab aB.m)<=n:=aC7 _;have hc:∀ (q:Nat) (u:Int),q<=2^n->ag (ab (cI (bg false q u)).1.m)<=n:=fun q u hq=>by
  unfold cI;split
  all_goals simp_all[ark]
 grind[df,uK,aCQ,Nat.sub_le,ayd]
theorem arl{z f:Int}{n:Nat}{up:Bool}(hn:1<=n):ag (ab (iL z f (n:Nat) up).1.m)<=n:=by
 have h0:ag (ab aB.m)<=n:=aC7 _;unfold iL;split
 ·omega
 ·unfold iX;split
  ·unfold ed;grind[aiD]
  grind[aiD]
theorem aoN{d:Rd}{n:Nat}{up:Bool}(hn:1<=n):ag (ab (cw d (n:Nat) up).1.m)<=n:=by
 unfold cw;split
 ·exact arl hn
 ·exact aC7 _
theorem aiE{d:Rd}(hp:bC p=true):Cq (nC d p).1 p=true:=by
 have hp2:=vM hp;obtain⟨n,rfl⟩:=aDG (show 0<=p by omega);have hb:ag (ab (nC d (n:Nat)).1.m)<=n:=by
  unfold nC;split
  ·split
   ·grind[Nd,Zv,aoN]
   ·exact aC7 _
  ·exact aC7 _
 simp_all[Cq,Gt,aCM,decide_eq_true]
theorem ZD{p:Int}(hp:bC p=true):∀ {ts:List Rt} {q:List Rt×List Rt},xQ p ts=some q->∀t∈q.1,Cq t.c p=true
 |[],q,h=>by
  cases h;grind
 |t::ts,q,h=>by
  unfold xQ at h;split at h
  ·split at h
   ·rw[aCL]at h;obtain⟨q2,h2,rfl⟩:=h;have ih:=ZD hp h2;intro y hy;unfold ej at hy;split at hy
    ·exact ih y hy
    ·rcases List.mem_cons.1 hy with rfl|hy
     ·exact aiE hp
     ·exact ih y hy
   ·cases h
  ·cases h
theorem alz{a:Rp}{o:Int}(ho:-1<=o)(h:∀t∈a.terms,bm t.exps<=o):jL a<=o:=by
 grind[jL]
theorem aoO{s:Rs}(h:eE s=true):1<=s.dom.length/\1<=s.ord:=by
 simp_all[eE,aCK,decide_eq_true_eq]
theorem RH{s:Rs}{m:Rm}(hs:eE s=true)(c:Cl s.dom.length m.P.terms)(hv:m.P.vars=s.dom.length)(hl:m.P.terms.length<=500)(hd:∀t∈m.P.terms,bm t.exps<=s.ord)(hr:vi m.R=true)(hi:∀t∈m.P.terms,Cq t.c s.p=true):vO s m=true:=by
 unfold vO;have h8:=(fP hs).1;have hp:vp m.P=true:=by
  have:m.P=⟨(s.dom.length:Int),m.P.terms⟩:=by rw[←hv]
  grind[Cn]
 rw[hs,hp,decide_eq_true hv,decide_eq_true (alz (by grind[aoO]) hd),hr,aCM,aCM,aCM,aCM,aCM,aDJ,List.any_eq_false];grind
theorem afu{s:Rs}(hs:eE s=true):vO s (dV s)=true:=RH hs (Cl.nil _) rfl (aC7 _) (fun _ h=>nomatch h) rfl (fun _ h=>nomatch h)
theorem afv{s:Rs}{q:Rp}{e:Int}{r:Ri}(oq:OkP q)(os:OkS s)(hs:eE s=true)(hq:vp q=true->q.vars=s.dom.length)(ir:∃q,In q r):vO s (kP s q e r)=true:=by
 have hl:s.dom.length<=100000:=by grind[fP]
 have hp:=(fP hs).2;obtain⟨_,m2,m3,_⟩:=ZA (e:=e) oq os hl (fun _=>hq) ir;by_cases hz:kP s q e r=dV s
 ·grind[afu]
 have hm:(fY (fm q s.ord).1 s.p).2=0/\(kP s q e r).P=⟨s.dom.length,(fY (fm q s.ord).1 s.p).1.1.terms⟩:=by
  unfold kP at hz⊢;split at hz
  ·split at hz
   ·rename_i hc;unfold AP at hc⊢;grind
   grind
  grind
 obtain⟨h0,hP⟩:=hm;have key:∀t∈ (fY (fm q s.ord).1 s.p).1.1.terms,bm t.exps<=s.ord/\Cq t.c s.p=true:=by
  unfold fY at h0⊢;split at h0
  ·rename_i k1;rw[if_pos k1];split at h0
   ·omega
   ·rename_i k2;rw[if_neg k2];split at h0
    ·omega
    ·rename_i o q2 hr;obtain⟨c1,_⟩:=Hi (o:=s.ord) oq;obtain⟨⟨_,_,k3⟩,_⟩:=IM c1.1 hr;intro t ht;refine⟨?_,ZD hp hr t ht⟩;obtain⟨y,hy,he⟩:=k3 t ht;unfold fm at hy;split at hy
     all_goals simp_all[EL,of_decide_eq_true,absurd,p0]
  omega
 have hlen:(fY (fm q s.ord).1 s.p).1.1.terms.length<=500:=by
  unfold fY at h0⊢;split at h0
  ·rename_i k1;split at h0
   ·omega
   ·split at h0
    ·omega
    ·rename_i o q2 hr;obtain⟨c1,_⟩:=Hi (o:=s.ord) oq;obtain⟨⟨_,k3,_⟩,_⟩:=IM c1.1 hr;have k4:=(MS k1).2.2.1;grind
  omega
 grind[RH]
theorem aoP{n:Bool}{a k:Nat}:bL n (a*2^k)=bL n a*2^k:=by
 grind[bL,Int.natCast_mul,Int.neg_mul]
theorem alA{c:Rd}{up:Bool}(ok:Ok0 c)(vc:vd c=true)(hp:bC p=true)(hb:(ag (ab c.m):Int)<=p):cw c p up=(c,0):=by
 have hp2:=vM hp;by_cases h0:c.m.length=0
 ·grind[vZ,Zl]
 have hi:(ag (ab c.m):Int)+c.e<=16384∧-16384<=c.e:=by
  have h:=vc;unfold vd at h;rw[if_neg h0]at h;have o:=Fi vc h0;simp only[aCK,decide_eq_true_eq]at h;have hi:=C6 h.2.2.2 (by have:=(kW (n:=ab c.m) (k:=0)).2 ω;omega);omega
 unfold cw;rw[if_pos (by grind[aY]),show zI c=bL c.neg (mg c)from rfl];unfold mg;rw[aoP,D5,show(-16384:Int)+((c.e+16384).toNat:Int)=c.e by omega,←Q0 hp2];have hk:LD (ab c.m) c.e p=0:=by grind[LD]
 simp_all[Gg,SX,ab,Nat.pow_zero,Nat.mod_one,Nat.div_one,Da,if_neg,LL]
theorem aiF{c:Rd}(ok:Ok0 c)(vc:vd c=true)(hp:bC p=true)(hb:(ag (ab c.m):Int)<=p):nC c p=(c,0):=by
 simp_all[nC,alA,if_pos,Nd,Zv]
theorem aiG{c:Rd}(vc:vd c=true):oQ c c=(aB,0):=by
 unfold oQ;rw[vc,aDv,if_pos rfl,Int.sub_self];exact JN rfl
theorem ZE{p:Int}(hp:bC p=true):∀ts:List Rt,(∀t∈ts,Ok0 t.c/\t.c.m.length≠0/\Cq t.c p=true)->xQ p ts=some (ts,[])
 |[],_=>rfl
 |t::ts,h=>by
  obtain⟨h1,h2,h3⟩:=h t σ;unfold Cq at h3;simp only[aCK,decide_eq_true_eq]at h3;have hn:=aiF h1 h3.2.1 hp h3.2.2;unfold xQ;rw[hn,if_pos rfl,aiG h3.2.1,if_pos rfl,ZE hp ts fun t ht=>h t (by simp[ht])];show some (ej t.exps t.c ts,ej t.exps aB [])=_;unfold ej;rw[if_neg h2,if_pos (show aB.m.length=0 from rfl)]
structure Fit (s:Rs) (q:Rp):Prop where
 v:q.vars=s.dom.length
 n:q.terms.length<=500
 c:Cl s.dom.length q.terms
 d:∀t∈q.terms,bm t.exps<=s.ord
 r:∀t∈q.terms,Cq t.c s.p=true
theorem Fit.ok{s:Rs}{q:Rp}(h:Fit s q):OkP q:=⟨fun t ht=>(h.c.t t ht).ok⟩
theorem Fit.vp{s:Rs}{q:Rp}(hs:eE s=true)(h:Fit s q):vp q=true:=by
 have:=h.v;obtain⟨v,l⟩:=q;subst this;exact Cn h.c ω (by have:=(fP hs).1;omega) h.n
theorem aiH{s:Rs}{q:Rp}(hs:eE s=true)(h:Fit s q):fm q s.ord=(q,⟨q.vars,[]⟩):=by
 unfold fm;rw[if_pos (h.vp hs),List.filter_eq_self.2 fun t ht=>by exact decide_eq_true (h.d t ht),List.filter_eq_nil_iff.2 fun t ht=>by unfold CJ;rw[decide_eq_true (h.d t ht)];grind]
theorem aiI{s:Rs}{q:Rp}(hs:eE s=true)(h:Fit s q):fY q s.p=((q,⟨q.vars,[]⟩),0):=by
 have hp:=(fP hs).2;have hp2:=vM hp;unfold fY;rw[if_pos (h.vp hs),if_neg ω,ZE hp _ fun t ht=>⟨(h.c.t t ht).c,(h.c.t t ht).nz,h.r t ht⟩]
theorem acW(hp:bC p=true):dq cj cj p=cj:=by
 unfold dq;rw[(AQ (m:=0)).k,hp,aDv,aDv,if_pos rfl];show nv (dk aB aB p false) (dk aB aB p true)=_;rw[aic,aic,Zl hp,Zl hp];rfl
theorem aoQ{v:Int}:mU ⟨v,[]⟩ dom p=cj:=by
 simp_all[mU,if_pos]
theorem aoR{s:Rs}{q:Rp}(hs:eE s=true)(h:Fit s q):AP s q=((q,cj),true):=by
 unfold AP;simp only[aiH hs h,aiI hs h,aoQ,acW (fP hs).2,←h.v];rfl
theorem aoS(hv:OkI x)(h:qx x bX=true):Bd 0 x:=by
 unfold qx at h;split at h
 ·rename_i g;obtain⟨g1,g2,g3⟩:=g;simp only[bX,Bool.false_or,aCK,decide_eq_true_eq]at h;have h5:zI lE<=zI x.lo:=of_decide_eq_true h.1;have h6:zI x.hi<=zI one:=of_decide_eq_true h.2;have k:kI x=true:=by grind[kI,g1]
  obtain⟨_,v1,v2⟩:=Hl k;have hl:zI x.lo<=zI x.hi:=by
   simp_all[vi,g1,if_neg,aCK,decide_eq_true_eq]
  have e1:zI one=((2^ (16384+0):Nat):Int):=Md (n:=false) (k:=0);have e2:zI lE=-((2^ (16384+0):Nat):Int):=Md (n:=true) (k:=0);refine⟨⟨qv x.lo,Or.inr ⟨g3,⟨⟨v1,hv.1⟩,⟨v2,hv.2⟩⟩,Rat.le_refl,sE.2 hl⟩⟩,g3,?_,?_⟩<;> (unfold Ld;generalize 2^ (16384+0)=T at e1 e2⊢;omega)
 grind[bX]
theorem Mh{s:Rs}(os:OkS s)(hs:eE s=true):∀x∈s.dom,Bd 0 x:=fun x hx=>by
 unfold eE at hs;exact aoS (os.d x hx) γ
theorem Dq{s:Rs}(os:OkS s)(hs:eE s=true){q:Rp}(hv:vp q=true)(h:q.vars=s.dom.length):mQ q s.dom=true:=by
 unfold mQ;rw[hv,decide_eq_true h.symm,aCM,aCM,aDJ,List.any_eq_false];exact fun x hx=>by rw[(Mh os hs x hx).k];grind
theorem arm{s:Rs}(os:OkS s)(hs:eE s=true){q:Rp}{m:Nat}(oq:OkP q)(hv:vp q=true)(h:q.vars=s.dom.length)(hc:∀t∈q.terms,Ld m t.c)(hm:m+q.terms.length<16384):Bd (m+q.terms.length) (mU q s.dom s.p):=by
 have hp:=(fP hs).2;have hd:=Dq os hs hv h;have hcl:=(gU oq hv).1;by_cases h0:q.terms.length=0
 ·simp_all[mU,if_pos,AQ]
 ·have hb:Bd (m+q.terms.length) (n8 q s.dom s.p):=by
   unfold n8;rw[hd,hp,aDv,if_pos rfl];exact aix (k:=0) hp (Mh os hs) q.terms _ hm (fun t ht=>⟨(hcl.t t ht).vc,(hcl.t t ht).c,hc t ht,fun e he=>((hcl.t t ht).b e he).2⟩) AQ
  exact(ais oq os.d (by grind[fP]) hd hp h0 hb.a).bd hb
def Ky(a b:Rat)(q:Rat->Rat->Rat):Prop:=∃C,0<=C/\∀x y,a<=x->x<=b->a<=y->y<=b→-C<=q x y/\q x y<=C
theorem Ky.add{a b:Rat}{p q:Rat->Rat->Rat}(hp:Ky a b p)(hq:Ky a b q):Ky a b fun x y=>p x y+q x y:=by
 obtain⟨C,c0,hc⟩:=hp;obtain⟨D,d0,hd⟩:=hq;refine⟨C+D,by grind,fun x y h1 h2 h3 h4=>?_⟩;grind
theorem Ky.mul{a b:Rat}{p q:Rat->Rat->Rat}(hp:Ky a b p)(hq:Ky a b q):Ky a b fun x y=>p x y*q x y:=by
 obtain⟨C,c0,hc⟩:=hp;obtain⟨D,d0,hd⟩:=hq;refine⟨C*D,Rat.mul_nonneg c0 d0,fun x y h1 h2 h3 h4=>?_⟩;obtain⟨u1,u2⟩:=hc x y h1 h2 h3 h4;obtain⟨v1,v2⟩:=hd x y h1 h2 h3 h4;show-(C*D)<=p x y*q x y/\p x y*q x y<=C*D;generalize p x y=u at*
 generalize q x y=v at*
 have k1:=Rat.mul_nonneg (show 0<=C-u by grind) (show 0<=D-v by grind);have k2:=Rat.mul_nonneg (show 0<=C+u by grind) (show 0<=D+v by grind);have k3:=Rat.mul_nonneg (show 0<=C-u by grind) (show 0<=D+v by grind);have k4:=Rat.mul_nonneg (show 0<=C+u by grind) (show 0<=D-v by grind);grind
theorem Ky.c{a b:Rat}(k:Rat):Ky a b fun _ _=>k:=by
 rcases Rat.le_total (a:=0) (b:=k)with h|h
 ·exact⟨k,h,fun _ _ _ _ _ _=>by grind⟩
 ·exact⟨-k,by grind,fun _ _ _ _ _ _=>by grind⟩
def Smo(a b:Rat)(f g:Rat->Rat):Prop:=∃q,Ky a b q/\∀x y,f y-f x-g x*(y-x)=(y-x)*(y-x)*q x y
theorem Smo.lin{a b c d:Rat}{f g f' g':Rat->Rat}(h1:Smo a b f g)(h2:Smo a b f' g')(hd:d=c):Smo a b (fun x=>c*f x+f' x) fun x=>d*g x+g' x:=by
 obtain⟨q,hq,e⟩:=h1;obtain⟨q',hq',e'⟩:=h2;refine⟨fun x y=>d*q x y+q' x y,((Ky.c _).mul hq).add hq',fun x y=>?_⟩;grind
def Og(l:List Nat):List (List AV):=l.map fun k=>[.v (.int .u8 (k:Nat))]
@[go_sem] theorem aAI(l:List Nat):(Og l).length=l.length:=by simp[Og]
theorem aoT{l:List Nat}{i:Int}{n:Nat}(hi:i=n)(h:n<l.length):aZ (Og l) i=some (.ipt [.v (.int .u8 (l.getD n 0:Nat))]):=by
 grind[aZ,Og]
def arn(d:Nat)(out:List Rd)(x:AV)(o:Ob):Prop:=(out=[]/\x=.emp/\o=.dead)\/(0<out.length/\x=.rsl d none 3 0 out.length/\o=.ar 3 (wG out))
theorem aro{a b:Rd}(h:(dK a b).2=0):qv (dK a b).1=qv a*qv b:=by
 have e:=ab6 h;have e2:=D9 16384;have e3:(zI (dK a b).1:Rat)*pQ 16384=(zI a:Rat)*zI b:=by
  unfold pQ;rw[←Rat.intCast_mul,←Rat.intCast_mul,e]
 unfold qv EQ;grind
theorem aiJ{a b:Rd}(h:(eK a b).2=0):qv (eK a b).1=qv a+qv b:=by
 simp_all[qv,Td,Rat.intCast_add,Rat.add_mul]
theorem ZF{x:Rd}:∀ {n:Nat} {c d:Rd},vK x n c=some d->qv d=qv c*qv x^n
 |0,c,d,h=>by
  cases h;grind
 |n+1,c,d,h=>by
  unfold vK at h;split at h
  ·rename_i h0;rw[ZF h,aro h0,aEh];grind
  ·cases h
theorem acX:∀ {es:List Int} {xs:List Rd} {c d:Rd},qH es xs c=some d->qv d=qv c*tP (xs.map qv) (rN es)
 |e::es,x::xs,c,d,h=>by
  simp only[qH,aCH]at h;obtain⟨m,h1,h2⟩:=h;show qv d=qv c*(qv x^e.toNat*tP (xs.map qv) (rN es));rw[acX h2,ZF h1,Rat.mul_assoc]
 |[],xs,c,d,h=>by
  grind[qH,rN,tP]
 |e::es,[],c,d,h=>by
  grind[qH,rN,tP]
theorem aiK{xs:List Rd}:∀ {l:List Rt} {s:Rd},(tH xs l s).2=0->qv (tH xs l s).1=qv s+fv (xs.map qv) l
 |[],s,_=>by
  grind[tH,fv]
 |t::l,s,h=>by
  unfold tH at h⊢;cases hp:qH t.exps xs t.c with
  |none=>grind
  |some d=>
   rw[hp]at h;simp only at h⊢;split at h
   ·rename_i h0;rw[if_pos h0,aiK h,aiJ h0,acX hp];grind[qv,tP,rN,fv]
   omega
theorem aoU{a:Rp}{xs:List Rd}(h:(yJ a xs).2=0):qv (yJ a xs).1=fv (xs.map qv) a.terms:=by
 unfold yJ at h⊢;split at h
 ·rename_i he;rw[if_pos he,aiK h,Ez];grind
 omega
theorem amx{b:Ri}(h:kI b=true):qv b.lo<=qv b.hi:=by
 grind[sE,kI,vi]
theorem PO(x:Rat)(m:Nat):∀n,x^ (m+n)=x^m*x^n
 |0=>by grind
 |n+1=>by rw[←aDE,aEh,PO x m n,aEh,Rat.mul_assoc]
theorem aiL:∀ {es:List Int} {xs:List Rd},tP (xs.map qv) (rN es)=(Me es xs:Rat)*EQ^dg es xs
 |e::es,x::xs=>by
  show qv x^e.toNat*tP (xs.map qv) (rN es)=((zI x^e.toNat*Me es xs:Int):Rat)*EQ^ (e.toNat+dg es xs);rw[aiL,PO,Rat.intCast_mul];have:qv x^e.toNat=((zI x^e.toNat:Int):Rat)*EQ^e.toNat:=by
   generalize e.toNat=n;induction n with
   |zero=>grind
   |succ n ih=>
    grind[qv]
  grind
 |[],xs=>by
  show tP _ _=((1:Int):Rat)*EQ^0
  simp_all[Rat.pow_zero,rN,tP]
 |e::es,[]=>by
  show(1:Rat)=((1:Int):Rat)*EQ^0;grind
theorem Mi{xs:List Rd}{W:Int}(hW:(W:Rat)*EQ=1){w:Int}:∀ {l:List Rt},(∀t∈l,VT w t)->fv (xs.map qv) l*(W:Rat)^32=EQ*(fy l (fun u=>Me u xs*W^ (32-dg u xs)):Rat)
 |[],_=>by show(0:Rat)*_=EQ*((0:Int):Rat);simp
 |t::l,h=>by
  have ih:=Mi (xs:=xs) hW (l:=l) fun t ht=>h t (List.mem_cons_of_mem _ ht);have hd:=(h t σ).dg xs;show(qv t.c*tP (xs.map qv) (rN t.exps)+fv (xs.map qv) l)*(W:Rat)^32=EQ*((zI t.c*(Me t.exps xs*W^ (32-dg t.exps xs))+fy l _:Int):Rat);rw[Rat.intCast_add,Rat.mul_add,←ih,aiL,Rat.intCast_mul,Rat.intCast_mul];have e1:∀n:Nat,((W^n:Int):Rat)=(W:Rat)^n:=fun n=>by
   grind
  have e2:∀n:Nat,(W:Rat)^n*EQ^n=1:=fun n=>by
   induction n with
   |zero=>grind
   |succ n ih=>
    grind
  have e3:(W:Rat)^32=(W:Rat)^ (32-dg t.exps xs)*(W:Rat)^dg t.exps xs:=by rw[←PO];grind
  have e4:=e2 (dg t.exps xs);rw[e1,e3,show qv t.c=(zI t.c:Rat)*EQ from rfl];grind
theorem arp{a b:Rp}{xs:List Rd}(oa:OkP a)(ob:OkP b)(h:(AM a b).2=0):fv (xs.map qv) (AM a b).1.terms=fv (xs.map qv) a.terms+fv (xs.map qv) b.terms:=by
 obtain⟨pa,pb,pc,f⟩:=Tm oa ob h;have hW:(((2:Int)^16384:Int):Rat)*EQ=1:=by
  have:=D9 16384;rw[Rat.mul_comm];exact this
 have q1:=Mi (xs:=xs) hW pa.cl.t;have q2:=Mi (xs:=xs) hW pb.cl.t;have q3:=Mi (xs:=xs) hW pc.cl.t;rw[f,Rat.intCast_add,Rat.mul_add,←q1,←q2,←Rat.add_mul]at q3;grind
def cE(dom:List Ri)(k j:Nat):Rd:=if k/2^j%2=1 then(dom.getD j cS).hi else(dom.getD j cS).lo
theorem aye{a b y:Rat}(h1:a<=y)(h2:y<=b):∃t,y=a+(b-a)*t/\0<=t/\t<=1:=by
 by_cases he:b-a=0
 ·exact⟨0,by grind,Rat.le_refl,by decide⟩
 ·have hp:0<b-a:=γ
  have hi:=M5 hp;have hm:(b-a)*(b-a)⁻¹=1:=Rat.mul_inv_cancel _ he;refine⟨(y-a)*(b-a)⁻¹,?_,Rat.mul_nonneg γ (Rat.le_of_lt hi),?_⟩
  ·generalize(b-a)⁻¹=w at*
   grind
  ·have:=Rat.mul_nonneg (show 0<=b-y by grind) (Rat.le_of_lt hi);generalize(b-a)⁻¹=w at*
   grind
theorem afw{z:Int}{k:Nat}{e:Int}:cT (z*((2^k:Nat):Int)) e=cT z (e+k):=by
 have hp:0< ((2^k:Nat):Int):=Int.natCast_pos.2 (aC1 k);generalize hP:(2^k:Nat)=P at hp;grind[Int.mul_nonneg,Int.le_of_lt,Int.mul_neg_of_neg_of_pos,cT,Int.natAbs_mul,Int.natAbs_natCast,kH]
def ayf:Rd:=⟨false,[1],1⟩
theorem aiM:dK one one=(one,0):=by
 unfold dK;rw[dW.1,aDv,if_pos rfl];have h:zI one=((2^ (16384+0):Nat):Int):=Md (n:=false) (k:=0);have h2:=afw (z:=zI one) (k:=16384+0) (e:=-32768);rw[←h]at h2;rw[h2,show(-32768:Int)+((16384+0:Nat):Int)=-16384 by omega,yH dW.2 dW.1,JN dW.1]
def s0:Rs:=⟨[bX],2,24⟩
abbrev tX(n:Int)(c:Rd):Rt:=⟨[n],c⟩
def xP:Rp:=⟨1,[tX 1 one]⟩
def hP:Rp:=⟨1,[tX 3 ayf,tX 4 one]⟩
theorem at0{n:Int}{c:Rd}(hn:0<=n/\n<=32)(h:vd c=true/\Ok0 c)(h0:c.m.length≠0):VT 1 (tX n c):=⟨h.2,rfl,by decide,h.1,h0,fun e he=>by grind,by show n+0<=32;omega⟩
theorem cl1{a:Rt}(h:VT 1 a):Cl 1 [a]:=Cl.mk' h (fun _ h=>nomatch h) (Cl.nil _)
theorem v1_{n:Int}(hn:0<=n/\n<=32):VT 1 (tX n one):=at0 hn dW δ
theorem aoV:In (qv lE) bX:=Or.inr ⟨rfl,Dm.2,Rat.le_refl,sE.2 (by
 rw[show zI lE=bL true (2^ (16384+0))from Md (k:=0),show zI bX.hi=bL false (2^ (16384+0))from Md (k:=0)];simp only[bL,if_true,aDy,if_false];omega)⟩
theorem alB{q:Rat}(h:In q x)(ha:x.all=false):qx x x=true:=Sb.ins ⟨⟨_,h⟩,Or.inr ⟨ha,ha,⟨_,h⟩,Int.le_refl _,Int.le_refl _⟩⟩
theorem z3:EB s0.p cj [cj,cj]=cj:=by
 simp only[EB,acW (show bC s0.p=true from rfl)]
theorem afx:(KK:Rat)*EQ=1:=by
 have h:=Tj (a:=one) (b:=one) (by rw[aiM]);rw[aiM]at h;have h1:=rM;unfold qv at h1;have hk:KK=zI one:=by
  refine Int.eq_of_mul_eq_mul_left (fun h0=>?_) h
  simp_all
 grind
noncomputable def RI:Rat:=(KK:Rat)^32*KK
theorem aiN:(KK:Rat)≠0:=fun h=>by
 grind[afx]
theorem arq:RI≠0:=by
 have hp:∀n:Nat,(KK:Rat)^n≠0:=fun n=>by
  induction n with
  |zero=>grind
  |succ n ih=>grind[aiN]
 exact fun h=>(Rat.mul_eq_zero.1 h).elim (hp 32) aiN
theorem E6{xs:List Rd}{w:Int}{l:List Rt}(h:∀t∈l,VT w t):fv (xs.map qv) l*RI=(fy l (ph xs):Rat):=by
 have h1:=Mi (xs:=xs) afx h;have h2:(fy l (fun u=>Me u xs*KK^ (32-dg u xs)):Rat)=(fy l (ph xs):Rat):=rfl;rw[h2]at h1;unfold RI;rw[←Rat.mul_assoc,h1,Rat.mul_comm,←Rat.mul_assoc,afx,Rat.one_mul]
theorem alC{x y:Rat}(h:x*RI=y*RI):x=y:=by
 have hm:RI*RI⁻¹=1:=Rat.mul_inv_cancel _ arq;grind
theorem arr{a b:Rp}{xs:List Rd}(oa:OkP a)(ob:OkP b)(h:(zE a b).2=0):fv (xs.map qv) (zE a b).1.terms=fv (xs.map qv) a.terms-fv (xs.map qv) b.terms:=by
 obtain⟨pa,pb,pc,f⟩:=Tn oa ob h;refine alC ?_;rw[E6 pc.cl.t,f,Rat.intCast_sub,←E6 pa.cl.t,←E6 pb.cl.t];grind
theorem ars{a b:Rp}{xs:List Rd}(oa:OkP a)(ob:OkP b)(h3:(zF a b).2=0):fv (xs.map qv) (zF a b).1.terms=fv (xs.map qv) a.terms*fv (xs.map qv) b.terms:=by
 obtain⟨pa,pb,k,f⟩:=Tp oa ob h3;have hfit:∀s∈a.terms,∀t∈b.terms,bm s.exps+bm t.exps<=32:=by
  unfold zF at h3;split at h3
  ·split at h3
   ·omega
   ·rename_i hd;exact JO oa ob pa.p pb.p hd
  omega
 have la:=pa.cl.t;have lb:=pb.cl.t;have e2:(fy a.terms fun u=>fy b.terms fun v=>ph xs (iM u v))*KK^32=fy a.terms (ph xs)*fy b.terms (ph xs):=by
  rw[Int.mul_comm,←IA,Int.mul_comm (fy a.terms (ph xs)),←IA];refine LP fun t ht=>?_;rw[←IA,Int.mul_comm,←IA];grind[LP,ard,la,Int.mul_comm]
 rw[←f (ph xs)]at e2;have e3:(fy (zF a b).1.terms (ph xs):Rat)*RI=(fy a.terms (ph xs):Rat)*(fy b.terms (ph xs):Rat):=by
  rw[←Rat.intCast_mul,←e2,Rat.intCast_mul,Rat.intCast_mul,Rat.intCast_pow];grind[RI]
 rw[←E6 la,←E6 lb,←E6 k.cl.t]at e3;grind[alC]
theorem aiO{v:Int}{xs:List Rd}(c:Cl v A)(c1:Cl v r1)(c2:Cl v r2)(h:Mrg A r1 r2):fv (xs.map qv) A=fv (xs.map qv) r1+fv (xs.map qv) r2:=by
 have h1:=Gj (f:=ph xs) c1 c2.t (aoE c h);refine alC ?_;rw[E6 c.t,h1,Rat.intCast_add,←E6 c1.t,←E6 c2.t];grind
def qy(m:Rm)(xs:List Rat)(w:Rat):Prop:=In (w-fv xs m.P.terms) m.R
theorem AS{s:Rs}{xs:List Rat}{w:Rat}:qy (dV s) xs w:=Or.inl rfl
theorem JY{s:Rs}{q:Rp}{e:Int}{r:Ri}{xs:List Rd}{ts:List Rat}{w:Rat}(os:OkS s)(hs:eE s=true)(oq:OkP q)(hv:e=0->vp q=true/\q.vars=s.dom.length)(hpt:kO s.dom (xs.map qv) ts)(hw:e=0->In (w-fv (xs.map qv) q.terms) r):qy (kP s q e r) (xs.map qv) w:=by
 unfold kP;split
 case isFalse=>exact AS
 rename_i he;obtain⟨vq,vv⟩:=hv he;have hr:=hw he;obtain⟨cq,v0,v8,vl⟩:=gU oq vq;have hl:s.dom.length<=100000:=ω
 have sp:fm q s.ord=(⟨q.vars,q.terms.filter (EL s.ord)⟩,⟨q.vars,q.terms.filter (CJ s.ord)⟩):=by simp_all[fm,if_pos]
 have n1:=List.length_filter_le (EL s.ord) q.terms;have n2:=List.length_filter_le (CJ s.ord) q.terms;have c1:=cq.filter (EL s.ord);have c2:=cq.filter (CJ s.ord);have f1:=aiO (xs:=xs) cq c1 c2 (Mf s.ord q.terms);unfold AP;rw[sp];generalize q.terms.filter (EL s.ord)=lo at*
 generalize q.terms.filter (CJ s.ord)=hi at*
 have vlo:vp ⟨q.vars,lo⟩=true:=Cn c1 v0 v8 ω;have vhi:vp ⟨q.vars,hi⟩=true:=Cn c2 v0 v8 ω;by_cases g:(fY ⟨q.vars,lo⟩ s.p).2=0
 case neg=>
  simp_all[if_neg,aCR,AS]
 unfold fY at g⊢;rw[if_pos vlo]at g⊢;split at g
 ·omega
 rename_i hp;rw[if_neg hp];cases hR:xQ s.p lo with
 |none=>grind
 |some z=>
  obtain⟨⟨k1,m1,_⟩,k2,m2,_⟩:=IM c1 hR;have f2:=aiO (xs:=xs) c1 k1 k2 (U4 c1.t hR);have vr:vp ⟨q.vars,z.2⟩=true:=Cn k2 v0 v8 ω;have i1:=Ec (p:=s.p) (kJ c2) os.d hl (Dq os hs vhi vv) hpt;have i2:=Ec (p:=s.p) (kJ k2) os.d hl (Dq os hs vr vv) hpt;have:=io (p:=s.p) hr (io (p:=s.p) i1 i2);show In (w-fv (xs.map qv) z.1) _;grind
section
variable {s:Rs} {a b:Rm} {xs:List Rd} {ts:List Rat} {u v:Rat}
theorem aoW(os:OkS s)(oa:OkM a)(ob:OkM b)(hpt:kO s.dom (xs.map qv) ts)(ha:qy a (xs.map qv) u)(hb:qy b (xs.map qv) v):qy (Of s a b) (xs.map qv) (u+v):=by
 unfold Of;split
 case isFalse=>exact AS
 rename_i h;obtain⟨q1,q2⟩:=vP h;obtain⟨a1,a2,a3,_⟩:=ge oa (q2 a σ);obtain⟨b1,_⟩:=ge ob (q2 b σ);refine JY os q1 (Pz a1 b1) (fun e=>?_) hpt fun e=>?_
 ·obtain⟨_,_,k,_⟩:=Tm a1 b1 e;exact⟨k.p,k.v.trans a3⟩
 ·have:=io (p:=s.p) ha hb;grind[arp,fv,qv]
theorem aoX(os:OkS s)(oa:OkM a)(ob:OkM b)(hpt:kO s.dom (xs.map qv) ts)(ha:qy a (xs.map qv) u)(hb:qy b (xs.map qv) v):qy (PK s a b) (xs.map qv) (u-v):=by
 unfold PK;split
 case isFalse=>exact AS
 rename_i h;obtain⟨q1,q2⟩:=vP h;obtain⟨a1,a2,a3,_⟩:=ge oa (q2 a σ);obtain⟨b1,_⟩:=ge ob (q2 b σ);refine JY os q1 (PA a1 b1) (fun e=>?_) hpt fun e=>?_
 ·obtain⟨_,_,k,_⟩:=Tn a1 b1 e;exact⟨k.p,k.v.trans a3⟩
 ·have:=Bo (p:=s.p) ha hb;grind[arr,fv,qv]
theorem acY(os:OkS s)(oa:OkM a)(ob:OkM b)(hpt:kO s.dom (xs.map qv) ts)(ha:qy a (xs.map qv) u)(hb:qy b (xs.map qv) v):qy (AR s a b) (xs.map qv) (u*v):=by
 unfold AR;split
 case isFalse=>exact AS
 rename_i h;obtain⟨q1,q2⟩:=vP h;obtain⟨a1,a2,a3,_⟩:=ge oa (q2 a σ);obtain⟨b1,b2,b3,_⟩:=ge ob (q2 b σ);have hl:s.dom.length<=100000:=by grind[fP]
 refine JY os q1 (PB a1 b1) (fun e=>?_) hpt fun e=>?_
 ·obtain⟨_,_,k,_⟩:=Tp a1 b1 e;exact⟨k.p,k.v.trans a3⟩
 ·have i1:=Ec (p:=s.p) a1 os.d hl (Dq os q1 a2 a3) hpt;have i2:=Ec (p:=s.p) b1 os.d hl (Dq os q1 b2 b3) hpt;rw[ars a1 b1 e];unfold qy at ha hb;generalize fv (xs.map qv) a.P.terms=A at*
  generalize fv (xs.map qv) b.P.terms=B at*
  have:=io (p:=s.p) (io (p:=s.p) (jG (p:=s.p) i1 hb) (jG (p:=s.p) i2 ha)) (jG (p:=s.p) ha hb);have e2:u*v-A*B=A*(v-B)+B*(u-A)+(u-A)*(v-B):=γ
  rw[e2];exact this
theorem acZ:qv lE=-1:=by
 have e:zI lE=-zI one:=by
  rw[show zI lE=bL true (2^ (16384+0))from Md (k:=0),show zI one=bL false (2^ (16384+0))from Md (k:=0)];rfl
 rw[←rM];unfold qv;rw[e];grind
theorem art(v:vi x=true)(ha:x.all=true):x=cS:=by
 unfold vi at v;rw[ha]at v;simp at v;obtain⟨l,h,a⟩:=x;simp only at v ha;rw[Wp v.1,Wp v.2,ha];rfl
theorem ZG{d:Rd}(ox:OkI x)(h:uN x d=true):In (qv d) x/\vd d=true:=by
 unfold uN at h;simp only[aCK,Bool.or_eq_true,decide_eq_true_eq]at h;obtain⟨⟨h1,h2⟩,h3⟩:=h;refine⟨?_,h2⟩;cases ha:x.all with
 |true=>exact Or.inl (art h1 ha)
 |false=>
  obtain⟨_,v1,v2⟩:=Hl (show kI x=true by grind[kI]);rcases h3 with h3| ⟨h3,h4⟩
  ·grind
  ·exact Or.inr ⟨ha,⟨⟨v1,ox.lo⟩,v2,ox.hi⟩,sE.2 h3,sE.2 h4⟩
end
def ptB:List Ri->List Rd->Bool
 |d::ds,x::xs=>uN d x&&ptB ds xs
 |_,_=>true
def ptR(s:Rs)(x:List Rd):Bool:=decide (x.length=s.dom.length)&&ptB s.dom x
def Gv(m:Rm)(x:List Rd)(r:Rd):Rd×Bool:=if(yJ m.P x).2=0 then((eK (yJ m.P x).1 r).1,decide ((eK (yJ m.P x).1 r).2=0))else((yJ m.P x).1,false)
theorem afy{m:Rm}{x:List Rd}{r:Rd}(om:OkP m.P)(ox:∀d∈x,Ok0 d)(h2:x.length<=100000)(or:Ok0 r):R fdI [fS m,eC x,af r] []=some (.tup [af (Gv m x r).1,B (Gv m x r).2],[]):=by
 refine au aaL rfl ?_;have h1:=ahv om ox h2;have o1:=(Pt m.P x).2;unfold Gv;generalize yJ m.P x=v at h1 o1⊢;have h3:=ab8 o1 or;simp only[rV,bc,af,ai,eC]at h1 h3;by_cases g:v.2=0
 ·have f:(v.2=0)=True:=eq_true g;simp only[BP,af,ai,eC,go_sem,h1,h3,f]
 ·have f:(v.2=0)=False:=eq_false g;simp only[BP,af,ai,eC,go_sem,h1,f]
theorem at1{m:Rm}{x:List Rd}{r:Rd}(h:(Gv m x r).2=true):qv (Gv m x r).1=fv (x.map qv) m.P.terms+qv r:=by
 unfold Gv at h⊢;split at h
 all_goals simp_all[if_pos,aiJ,of_decide_eq_true,aoU]
theorem aru(m:Rm)(x:List Rd)(r:Rd):Ok0 (Gv m x r).1:=by
 grind[Gv,Iy,Pt]
theorem aiP:∀ {ds:List Ri} {xs:List Rd},(∀d∈ds,OkI d/\d.all=false)->xs.length=ds.length->ptB ds xs=true->∃ts,kO ds (xs.map qv) ts
 |[],[],_,_,_=>⟨[],trivial⟩
 |d::ds,x::xs,hd,hl,h=>by
  have h':(uN d x&&ptB ds xs)=true:=h;rw[aCK]at h';obtain⟨ts,ht⟩:=aiP (ds:=ds) (xs:=xs) (fun d h=>hd d γ) γ h'.2;obtain⟨o,ha⟩:=hd d σ;rcases(ZG o h'.1).1 with rfl| ⟨_,_,h1,h2⟩
  ·cases ha
  ·obtain⟨t,t1,t2,t3⟩:=aye h1 h2;exact⟨t::ts,t1,t2,t3,ht⟩
theorem at2{s:Rs}{x:List Rd}(os:OkS s)(hs:eE s=true)(h:ptR s x=true):∃ts,kO s.dom (x.map qv) ts:=by
 unfold ptR at h;rw[aCK,decide_eq_true_eq]at h;exact aiP (fun d hd=>⟨os.d d hd,(Mh os hs d hd).a⟩) h.1 h.2
def arv(d:Nat)(out:List Ri)(x:AV)(o:Ob):Prop:=(out=[]/\x=.emp/\o=.dead)\/(0<out.length/\x=.rsl d none 7 0 out.length/\o=.ar 7 (bS out))
def du(d:Rd):Ri:=⟨d,d,false⟩
theorem VS.ct{v:Int}{i:Nat}(h:VS v i t):R fcf [I (t.exps.getD i 0+1)] []=some (aj ⟨Go.Ab.intD (t.exps.getD i 0+1),Go.Ab.intD (t.exps.getD i 0+1),false⟩,[]):=by
 refine au Ks rfl ?_;obtain⟨x1,x2⟩:=TK h.vt.b h.hi;have:=h.hd;have k1:=an0 (x:=t.exps.getD i 0+1) ω ω;have k2:=gO h.intD.1 h.intD.2;simp only[aj,ao,af,ai]at k1 k2;simp only[ye,aj,ao,go_sem,k1,k2]
section
variable {s:Rs} {a b:Rm} {xs:List Rd} {ts:List Rat} {u v:Rat}
theorem arw(os:OkS s)(oa:OkM a)(hpt:kO s.dom (xs.map qv) ts)(ha:qy a (xs.map qv) u):In u (dL s a):=by
 unfold dL;split
 case isFalse=>exact Or.inl rfl
 rename_i h;obtain⟨q1,q2⟩:=vP h;obtain⟨a1,a2,a3,_⟩:=ge oa (q2 a σ);have hl:s.dom.length<=100000:=by grind[fP]
 have:=io (p:=s.p) (Ec (p:=s.p) a1 os.d hl (Dq os q1 a2 a3) hpt) ha;grind
theorem ZH{x:List Ri}(oa:OkM a)(ox:∀d∈x,OkI d/\kI d=true)(hpt:kO x (xs.map qv) ts)(ha:qy a (xs.map qv) u):In u (Gu s a x):=by
 unfold Gu;split
 case isFalse=>exact Or.inl rfl
 rename_i h;unfold ZB at h;simp only[aCK,decide_eq_true_eq]at h;obtain⟨h,hl,_⟩:=h;obtain⟨q1,q2⟩:=vP h;obtain⟨a1,a2,a3,_⟩:=ge oa (q2 a σ);have hd:mQ a.P x=true:=by
  simp_all[mQ,decide_eq_true,aCM,aDJ,List.any_eq_false,aCR]
 have:=io (p:=s.p) (Ec (p:=s.p) a1 (fun d h=>(ox d h).1) (by grind[fP]) hd hpt) ha;grind
end
theorem alD{s:Rs}{q:Rp}{e:Int}{r:Ri}(oq:OkP q)(os:OkS s)(hs:eE s=true)(hv:e=0->vp q=true->q.vars=s.dom.length)(ir:∃q,In q r):OkM (kP s q e r):=by
 obtain⟨k1,k2,k3,k4⟩:=ZA (e:=e) oq os (by have:=(fP hs).1;omega) hv ir;exact⟨fun t ht=>(k3.t t ht).c,k1,by omega⟩
theorem alE{s:Rs}:OkM (dV s):=⟨(fun _ h=>nomatch h),Df.ok',by show 0<_;decide⟩
noncomputable def JZ (s:Rs) (d:Rm) (c:Ri) (g:Ri->Int->Ri):Nat->Rm->Rm
 |0,out=>out
 |k+1,out=>JZ s d c g k (Of s (AR s out d) (gZ s (g c k)))
def IN(x:Ri)(n:Nat)(p:Int):Ri:=if n<=16 then wr x n p else dt (wr x 16 p) (wr x (n-16) p) p
noncomputable def kQ (s:Rs) (a:Rm):Rd:=qO (dL s a) s.p
noncomputable def ZI (s:Rs) (a:Rm):Rm:=PK s a (gZ s (du (kQ s a)))
noncomputable def Mj (s:Rs) (a:Rm) (g:Ri->Int->Ri):Ri:=dt (g (dL s a) (s.ord+1)) (IN (Co (dL s a) (du (kQ s a)) s.p) (s.ord.toNat+1) s.p) s.p
noncomputable def J0 (s:Rs) (a:Rm) (g:Ri->Int->Ri):Rm:=
 Mg s (JZ s (ZI s a) (du (kQ s a)) g s.ord.toNat (gZ s (g (du (kQ s a)) s.ord))) (Mj s a g)
def hv(cf:Nat->Rat)(x:Rat):Nat->Rat->Rat
 |0,y=>y
 |k+1,y=>hv cf x k (y*x+cf k)
section
variable {s:Rs} {a b:Rm} {xs:List Rd} {ts:List Rat} {u v:Rat}
theorem ZJ{a:Rat}{n:Nat}(hx:In a x):In (a^n) (IN x n p):=by
 unfold IN;split
 ·exact Dk hx
 ·have:=jG (p:=p) (Dk (n:=16) (p:=p) hx) (Dk (n:=n-16) (p:=p) hx);have e:a^n=a^16*a^ (n-16):=by
   rw[show n=16+(n-16)by omega];generalize n-16=k;induction k with
   |zero=>grind
   |succ k ih=>grind
  rwa[e]
theorem ac1:∀ (w:List Rat) (v:Nat),tP w (rN (kL v))=1
 |[],0=>rfl
 |[],_+1=>rfl
 |_::_,0=>rfl
 |x::w,v+1=>by
  show x^0*tP w (rN (kL v))=1;rw[ac1 w v];grind
theorem arx{n:Nat}{c:Rd}{w:List Rat}:fv w (Cp n c).terms=qv c:=by
 unfold Cp EA;split
 ·rename_i h;show(0:Rat)=(zI c:Rat)*EQ;rw[cQ h];grind
 ·show qv c*tP w (rN (kL n))+0=_;rw[ac1];grind
structure VM (s:Rs) (m:Rm):Prop where
 ok:OkM m
 v:vO s m=true
theorem Fn(hs:eE s=true):VM s (dV s):=⟨alE,RH hs (Cl.nil _) rfl (aC7 _) (fun _ h=>nomatch h) rfl (fun _ h=>nomatch h)⟩
theorem Nj{q:Rp}{e:Int}{r:Ri}(oq:OkP q)(os:OkS s)(hs:eE s=true)(hq:e=0->vp q=true->q.vars=s.dom.length)(ir:∃q,In q r):VM s (kP s q e r):=by
 by_cases h:e=0
 ·exact⟨alD oq os hs hq ir,afv oq os hs (hq h) ir⟩
 ·unfold kP;rw[if_neg h];exact Fn hs
theorem qz(os:OkS s)(hs:eE s=true)(ox:OkI x):VM s (gZ s x):=by
 unfold gZ;split
 case isFalse=>exact Fn hs
 rename_i h;rw[aCK]at h;obtain⟨m1,m2⟩:=yL (p:=s.p) ox;obtain⟨q,hq⟩:=E5 ox (by have:=h.2;unfold kI at this;grind);exact Nj (kJ (Ni (fP hs).1 m2 m1)) os hs (fun _ _=>rfl) ⟨_,Bo (p:=s.p) hq (ip m1 m2)⟩
theorem J1{m:Rm}(h:VM s m):∃q,In q m.R:=E5 h.ok.r (ge h.ok h.v).2.2.2
theorem afz(os:OkS s)(hs:eE s=true)(ha:VM s a)(hb:VM s b):VM s (Of s a b):=by
 unfold Of;split
 case isFalse=>exact Fn hs
 obtain⟨a1,_,a3,_⟩:=ge ha.ok ha.v;obtain⟨b1,_⟩:=ge hb.ok hb.v;obtain⟨q,hq⟩:=J1 ha;obtain⟨r,hr⟩:=J1 hb;exact Nj (Pz a1 b1) os hs (fun e _=>by
  obtain⟨_,_,k,_⟩:=Tm a1 b1 e;exact k.v.trans a3) ⟨_,io (p:=s.p) hq hr⟩
theorem ZK(os:OkS s)(hs:eE s=true)(ha:VM s a)(hb:VM s b):VM s (PK s a b):=by
 unfold PK;split
 case isFalse=>exact Fn hs
 obtain⟨a1,_,a3,_⟩:=ge ha.ok ha.v;obtain⟨b1,_⟩:=ge hb.ok hb.v;obtain⟨q,hq⟩:=J1 ha;obtain⟨r,hr⟩:=J1 hb;exact Nj (PA a1 b1) os hs (fun e _=>by
  obtain⟨_,_,k,_⟩:=Tn a1 b1 e;exact k.v.trans a3) ⟨_,Bo (p:=s.p) hq hr⟩
theorem Gw(os:OkS s)(hs:eE s=true)(ha:VM s a)(hb:VM s b):VM s (AR s a b):=by
 unfold AR;split
 case isFalse=>exact Fn hs
 obtain⟨a1,a2,a3,_⟩:=ge ha.ok ha.v;obtain⟨b1,b2,b3,_⟩:=ge hb.ok hb.v;obtain⟨q,hq⟩:=J1 ha;obtain⟨r,hr⟩:=J1 hb;have hl:s.dom.length<=100000:=by have:=(fP hs).1;omega
 have k1:=tL (p:=s.p) a1 os.d hl;have k2:=tL (p:=s.p) b1 os.d hl;obtain⟨y,hy⟩:=E5 k1.1 k1.2;obtain⟨z,hz⟩:=E5 k2.1 k2.2;refine Nj (PB a1 b1) os hs (fun e _=>?_) ⟨_,io (p:=s.p) (io (p:=s.p) (jG (p:=s.p) hy hr) (jG (p:=s.p) hz hq)) (jG (p:=s.p) hq hr)⟩;obtain⟨_,_,k,_⟩:=Tp a1 b1 e;exact k.v.trans a3
theorem aiQ(hs:eE s=true)(ha:VM s a)(hx:∃q,In q x):VM s (Mg s a x):=by
 unfold Mg;split
 case isFalse=>exact Fn hs
 obtain⟨q,hq⟩:=J1 ha;obtain⟨r,hr⟩:=hx;have hi:=io (p:=s.p) hq hr;refine⟨⟨ha.ok.c,hi.ok,ha.ok.n⟩,?_⟩;have h:=ha.v;unfold vO at h⊢;simp only[aCK]at h⊢;exact⟨h.1,h.2.1,h.2.2.1,h.2.2.2.1,hi.v,h.2.2.2.2.2⟩
theorem IP(os:OkS s)(ox:OkI x)(hpt:kO s.dom (xs.map qv) ts)(hx:In v x):qy (gZ s x) (xs.map qv) v:=by
 unfold gZ;split
 case isFalse=>exact AS
 rename_i h;rw[aCK]at h;have h8:=(fP h.1).1;obtain⟨m1,m2⟩:=yL (p:=s.p) ox;have hc:=Ni (v:=s.dom.length) h8 m2 m1;refine JY os h.1 (kJ hc) (fun _=>⟨Cn hc (by show(0:Int)<=(s.dom.length:Nat);omega) (by show((s.dom.length:Nat):Int)<=8;omega) ?_,rfl⟩) hpt fun _=>?_
 ·show(EA _ _).length<=500;unfold EA;split<;>simp
 ·rw[arx];exact Bo (p:=s.p) hx (ip m1 m2)
theorem aoY{r:Rat}(hx:In r x)(ha:qy a (xs.map qv) u):qy (Mg s a x) (xs.map qv) (u+r):=by
 unfold Mg;split
 case isFalse=>exact AS
 have:=io (p:=s.p) ha hx;show In (u+r-fv (xs.map qv) a.P.terms) (dq a.R x s.p);have e:u+r-fv (xs.map qv) a.P.terms=u-fv (xs.map qv) a.P.terms+r:=γ
 rwa[e]
theorem ZL{d:Rm}{c:Ri}{g:Ri->Int->Ri}(os:OkS s)(hs:eE s=true)(hd:VM s d)(hg:∀k,OkI (g c k)):∀ (k:Nat) (out:Rm),VM s out->VM s (JZ s d c g k out)
 |0,_,h=>h
 |k+1,_,h=>ZL os hs hd hg k _ (afz os hs (Gw os hs h hd) (qz os hs (hg k)))
theorem ac2{d:Rm}{c:Ri}{g:Ri->Int->Ri}{cf:Nat->Rat}(os:OkS s)(hs:eE s=true)(hd:VM s d)(hg:∀k,OkI (g c k))(hpt:kO s.dom (xs.map qv) ts)(hx:qy d (xs.map qv) u):∀ (k:Nat) (out:Rm) (v:Rat),(∀j,j<k->In (cf j) (g c j))->VM s out->qy out (xs.map qv) v->qy (JZ s d c g k out) (xs.map qv) (hv cf u k v)
 |0,_,_,_,_,h=>h
 |k+1,_,_,hc,ho,h=>ac2 os hs hd hg hpt hx k _ _ (fun j hj=>hc j ω) (afz os hs (Gw os hs ho hd) (qz os hs (hg k)))
   (aoW os (Gw os hs ho hd).ok (qz os hs (hg k)).ok hpt (acY os ho.ok hd.ok hpt h hx) (IP os (hg k) hpt (hc k ω)))
theorem aoZ{g:Ri->Int->Ri}{cf:Nat->Rat}{r:Rat}(os:OkS s)(hs:eE s=true)(ha:VM s a)(hg:∀x k,OkI (g x k))(hpt:kO s.dom (xs.map qv) ts)(hu:qy a (xs.map qv) u)
  (h1:∀j,j<=s.ord.toNat->In (cf j) (g (du (kQ s a)) j)) (h2:In r (g (dL s a) (s.ord+1))):qy (J0 s a g) (xs.map qv) (hv cf (u-qv (kQ s a)) s.ord.toNat (cf s.ord.toNat)+r*(u-qv (kQ s a))^ (s.ord.toNat+1)):=by
 have hb:=arw os ha.ok hpt hu;obtain⟨m1,m2⟩:=yL (p:=s.p) hb.ok;have hc:In (qv (kQ s a)) (du (kQ s a)):=ip m1 m2;have vc:=qz os hs hc.ok;have hd:=aoX os ha.ok vc.ok hpt hu (IP os hc.ok hpt hc);have hn:((s.ord.toNat:Nat):Int)=s.ord:=by
  unfold eE at hs;simp only[aCK,decide_eq_true_eq]at hs;omega
 refine aoY (jG h2 (ZJ (Bo hb hc))) ?_;have k:=h1 _ (aCJ _);rw[hn]at k;exact ac2 os hs (ZK os hs ha vc) (hg _) hpt hd _ _ _ (fun j hj=>h1 j ω) (qz os hs (hg _ _)) (IP os (hg _ _) hpt k)
end
theorem ary{h:ae}{i:Nat}{o:Ob}(hh:h i=o):upd h i o=h:=by
 funext j;unfold upd;grind
section
variable {f g:FuncId} {h:ae} {d i j:Nat} {zas as':List AV} {o q:Ob} {res:AV}
end
theorem at3(m:Rm):RT (fS m):=⟨fun _=>rfl,fun _ _=>rfl,fun _=>rfl⟩
theorem Nk{s:Rs}{a:Rm}:OkI (dL s a):=by
 unfold dL;split
 ·exact yG
 ·exact Df.ok'
theorem av3{s:Rs}{a:Rm}{x:List Ri}:OkI (Gu s a x):=by
 unfold Gu;split
 ·exact yG
 ·exact Df.ok'
def Ed(n:Int):Rd:=bg (decide (n<0)) n.natAbs 0
theorem vR{n:Int}(h:Ku n):vd (Ed n)=true/\Ok0 (Ed n):=by
 have hb:ag n.natAbs<=64:=bH.2 (by
  obtain⟨h1,h2⟩:=h;have:n.natAbs<=9223372036854775808:=ω
  exact aDe this δ)
 unfold Ed;by_cases g:n.natAbs=0
 ·rw[g,j6];exact aO
 exact⟨Fd (Pk g ω δ ω),⟨qW _ _ _,aDe (qj (k:=128) ω) δ⟩⟩
abbrev gw(n:Int):Ri:=du (Ed n)
theorem Cs{n:Int}(h:Ku n):OkI (gw n):=⟨(vR h).2,(vR h).2⟩
theorem PP{n:Int}(h:Ku n):R fcm [I n] []=some (aj (gw n),[]):=by
 refine au Ns rfl ?_;have h1:=D4 h;have h2:=gO (vR h).2 (vR h).1;rw[show bg (decide (n<0)) n.natAbs 0=Ed n from rfl]at h1;unfold gw du;generalize Ed n=d at h1 h2⊢;simp only[aj,ao,af,ai]at h1 h2;simp only[wW,aj,ao,go_sem,h1,h2]
theorem ac3(ok:OkI x){p:Int}{n:Nat}(hn:n<=16):R fcn [aj x,I n,I p] []=some (aj (wr x n p),[]):=by
 refine au F0 rfl ?_;have h:=D7 ok (p:=p) (n:=n) ω;have e1:((n:Int)<=16)=True:=tt;generalize wr x n p=y at h⊢;simp only[aj,ao]at h;simp only[sn,aj,ao,go_sem,e1,h]
theorem at4(ok:OkI x){p:Int}{n:Nat}(hn:n<=32):R fcn [aj x,I n,I p] []=some (aj (IN x n p),[]):=by
 unfold IN;by_cases g:n<=16
 ·rw[if_pos g];exact ac3 ok g
 rw[if_neg g];refine au F0 rfl ?_;have h1:=D7 ok (p:=p) (n:=16) ω;have h2:=ac3 ok (p:=p) (n:=n-16) ω;have h3:=v9 (Ff ok (n:=16) (p:=p)) (Ff ok (n:=n-16) (p:=p)) (p:=p);have e1:((n:Int)<=16)=False:=ff;have e2:aG ((n:Int)-16)=((n-16:Nat):Int):=wi;generalize dt _ _ p=z at h3⊢;generalize wr x (n-16) p=y at h2 h3;generalize wr x 16 p=w at h1 h3;simp only[aj,ao,Int.cast_ofNat_Int]at h1 h2 h3;simp only[sn,aj,ao,go_sem,e1,e2,h1,h2,h3]
theorem Mk{s:Rs}(os:OkS s):R fcp [oj s] []=some (fS (dV s),[]):=by
 refine au OJ rfl ?_;have h1:=gN;have h2:=Bw os (x:=cS) Df.ok';have e:gZ s cS=dV s:=by
  unfold gZ;rw[if_neg (by simp[kI,cS])]
 rw[e]at h2;simp only[aj,ao,cS,aB]at h1 h2;simp only[yW,go_sem,h1,h2]
def IQ(x:Ri)(p:Int):Bool:=kI x&& (bC p&&decide ((dk x.hi (ed x.lo) p true).2=0))
theorem ac4(h:IQ x p=true):x.all=false:=by
 unfold IQ kI at h;grind
theorem ZM{p:Int}(ox:OkI x):∃w b,R fbC [aj x,I p] []=some (.tup [af w,B b],[])/\Ok0 w/\vd w=true/\b=IQ x p:=by
 have h1:=oZ ox;have h2:=mP (p:=p);cases g1:kI x with
 |false=>
  rw[g1]at h1;refine⟨aB,false,au AE rfl ?_,aO.2,aO.1,by simp[IQ,g1]⟩;simp only[nQ,aj,ao,af,ai,aB,go_sem,h1]
 |true=>
 rw[g1]at h1;cases g2:bC p with
 |false=>
  rw[g2]at h2;refine⟨aB,false,au AE rfl ?_,aO.2,aO.1,by simp[IQ,g2]⟩;simp only[nQ,aj,ao,af,ai,aB,go_sem,h1,h2]
 |true=>
 rw[g2]at h2;obtain⟨_,v1,v2⟩:=Hl g1;have h3:=Ch ox.lo;rw[show(if vd x.lo=false\/x.lo.m.length=0 then aB else(⟨!x.lo.neg,x.lo.m,x.lo.e⟩:Rd))=ed x.lo from rfl]at h3;have on:Ok0 (ed x.lo):=by
  unfold ed;split
  ·exact aO.2
  ·exact⟨ox.lo.1,ox.lo.2⟩
 have h4:=Pm ox.hi on (p:=p);refine⟨(dk x.hi (ed x.lo) p true).1,decide ((dk x.hi (ed x.lo) p true).2=0),au AE rfl ?_,Iv,MR,by simp[IQ,g1,g2]⟩;generalize dk x.hi (ed x.lo) p true=r at h4⊢;generalize ed x.lo=n at h3 h4;simp only[rV,af,ai]at h3 h4;simp only[nQ,aj,ao,af,ai,go_sem,h1,h2,h3,h4]
theorem arz{s:Rd}(ok:Ok0 s)(v:vd s=true):∃r:Rd×Int,R faT [af s,I 3] []=some (rV r,[])/\Ok0 r.1:=by
 obtain⟨h0,h1,h2,h3⟩:=dj v ok.lb;have hl:Ok0 (bg s.neg (ab s.m) (s.e+3)):=⟨qW _ _ _,aDe (qj (k:=128) ω) δ⟩;refine⟨cI (bg s.neg (ab s.m) (s.e+3)),au Ii rfl ?_,?_⟩
 ·have hv:=eS ok;rw[v]at hv;have hx:=zT (e:=3);have ho:=mO (neg:=s.neg) (m:=s.m) (e:=s.e+3) ok.lb ω (by grind[Exq]);have hc:=Cg hl.lb (aCP (qj (k:=128) ω) δ);have ew:aG (s.e+3)=s.e+3:=by grind[i64_in]
  generalize bg s.neg (ab s.m) (s.e+3)=d at ho hc⊢;have e:(if rI (ag (ab d.m)) d.e=true then AV.tup [af d,I 0]else .tup [af aB,I 9])=rV (cI d):=by
   grind[cI,rV]
  rw[e]at hc;simp only[af,ai,rV]at hv ho hc;simp only[wA,rV,af,ai,go_sem,hv,hx,ho,hc,ew,show decide ((-32768:Int)<=3)=true from rfl,show decide ((3:Int)<=32768)=true from rfl]
 ·unfold cI;split
  ·exact hl
  ·exact aO.2
theorem alF{s:Rs}{a b:Rm}(os:OkS s)(oa:OkM a)(ob:OkM b):∃w,R fcq [oj s,fS a,fS b] []=some (B w,[])/\(w=false->IQ (dL s b) s.p=true->(dL s a).all=false):=by
 have h1:=Hm os oa;have h2:=Hm os ob;obtain⟨w1,b1,h3,o1,v1,e1⟩:=ZM (x:=dL s a) (p:=s.p) Nk;obtain⟨w2,b2,h4,o2,v2,e2⟩:=ZM (x:=dL s b) (p:=s.p) Nk;obtain⟨r,h5,o3⟩:=arz o2 v2;have h6:=pG o1 o3;generalize dL s a=x at*
 generalize dL s b=y at*
 generalize(if vd w1=true/\vd r.1=true then cM (zI w1) (zI r.1)else 0)=k at h6;simp only[aj,ao,af,ai,rV]at h1 h2 h3 h4 h5 h6;cases b2 with
 |false=>
  refine⟨false,au uG rfl ?_,fun _ h=>by rw[←e2]at h;cases h⟩;simp only[kS,go_sem,h1,h2,h3,h4]
 |true=>
 cases b1 with
 |false=>
  refine⟨true,au uG rfl ?_,fun h=>by cases h⟩;simp only[kS,go_sem,h1,h2,h3,h4,h5]
 |true=>
 by_cases g:r.2=0
 ·have f:=tt g;refine⟨decide (0<k),au uG rfl ?_,fun _ _=>ac4 e1.symm⟩;simp only[kS,go_sem,h1,h2,h3,h4,h5,h6,f]
 ·have f:=ff g;refine⟨false,au uG rfl ?_,fun _ _=>ac4 e1.symm⟩;simp only[kS,go_sem,h1,h2,h3,h4,h5,f]
theorem afA{l:List Nat}{p:Nat->Bool}{x:Nat}(h:x∈ (l.filter p).map dx):x∈l.map dx:=by
 obtain⟨y,hy,rfl⟩:=List.mem_map.1 h;exact List.mem_map_of_mem (List.mem_filter.1 hy).1
theorem Nl{a b:List Nat}(h:∀x∈a,x∉b):sG a b=true:=by
 unfold sG;rw[aC5];intro x hx;simp[h x hx]
theorem amz(h h':ae)(d:Nat){a b g:Bool}{m n:List Nat}{e f:Int}{z:Value}(hi:nE (h 1000)=[]):i9 h d [.agg [B a,lm m,I e,B b,lm n,I f,B g],.v z,ac 1000] h'=some ([1000],(GI h h' [1000]).map dx++[2000+8*d]):=by
 have hre:cp h 40 [1000] 0=[1000]:=by simp[cp,hi,bN]
 show(if _ then _ else if _ then some ((cp h 40 [1000] 0).map dx,(GI h h' (cp h 40 [1000] 0)).map dx++[2000+8*d])else none)=_;rw[hre];rfl
theorem alG{h h':ae}{d x:Nat}(hx:x∈ (GI h h' [1000]).map dx++[2000+8*d]):x=1000\/x=2000+8*d:=by
 rcases List.mem_append.1 hx with h1|h1
 ·have:=afA h1;simp[dx]at this;exact .inl this
 ·exact .inr (List.mem_singleton.1 h1)
section
variable {a b g:Bool} {m n:List Nat} {e f:Int} {z:Value} {r w:List Nat}
theorem Gx(h h':ae)(d:Nat)(hi:nE (h 1000)=[])(hk:sG (r++w) [1000,2000+8*d]=true):mW (i9 h d [.agg [B a,lm m,I e,B b,lm n,I f,B g],.v z,ac 1000] h') (some (r,w))=true:=by
 rw[amz h h' d hi];have hk':∀x,x∈r\/x∈w->x≠1000/\x≠2000+8*d:=fun x hx=>by
  have:=GQ hk (List.mem_append.2 hx);simpa using this
 show(sG _ (r++w)&&sG w [1000])=true;rw[Nl (fun x hx hm=>by have:=hk' x (List.mem_append.1 hm);have:=alG hx;omega),Nl (fun x hx hm=>by have:=hk' x (.inr hx);simp at hm;omega)];rfl
theorem Gy(h h':ae)(d:Nat)(hi:nE (h 1000)=[])(hk:sG (r++w) [1000,2000+8*d]=true):mW (some (r,w)) (i9 h d [.agg [B a,lm m,I e,B b,lm n,I f,B g],.v z,ac 1000] h')=true:=by
 rw[amz h h' d hi];have hk':∀x,x∈r\/x∈w->x≠1000/\x≠2000+8*d:=fun x hx=>by
  have:=GQ hk (List.mem_append.2 hx);simpa using this
 show(sG w ([1000]++_)&&sG _ r)=true;rw[Nl (fun x hx hm=>by
  have:=hk' x (.inr hx);rcases List.mem_append.1 hm with h1|h1
  ·simp at h1;omega
  ·have:=alG h1;omega),Nl (fun x hx hm=>by have:=hk' x (.inl hm);have:=alG hx;omega)]
 rfl
end
abbrev zM:List AV:=[I 0,.emp,B false,.emp,I 0,B false,.emp,I 0,B false]
attribute [-go_sem] wV in
theorem alH{s:Rs}{d:Rm}{b c:Ri}{f:FuncId}{g:Ri->Int->Ri}{o:Ob}{N:Int}(os:OkS s)(hs:eE s=true)(hd:VM s d)(hg:∀k,OkI (g c k))(ho:OC o)
  (hf:∀ (k:Nat),k<=17->∀ (h:ae) (e:Nat),h 1000=o->h (2000+8*e)=.dead->bF R (az false) h e [aj c,I k] (.fn f [] [ac 1000])=some (aj (g c k),h,[])):∀ (k:Nat) (out:Rm),VM s out->k<=17->∀ (S:ap) (h:ae) (X:Option (Ex×St)),ak 0 [2,3,6,7,8,10,11] (av (am R (az false) iT) [2,3,6,7,8,9,10,11,12] [3,6,7,8,9,11,1000,1001] S h)=X->
  S 2=.fn f [] [ac 1000]->S 3=ac 3->S 6=ac 6->S 7=ac 7->S 8=ac 8->S 9=ac 9->S 10=I N->S 11=ac 11->S 12=I ((k:Int)-1)->
  h 3=.bx (wK s)->h 6=.bx zM->h 7=.bx (ao b)->h 8=.bx (ao c)->h 9=.bx (tU d)->h 11=.bx (tU out)->h 1000=o->h 1001=.dead->
  ∃hh,X=some (.normal,⟨upd (upd (upd (upd (upd (upd (upd bk 11 (ac 11)) 10 (I N)) 8 (ac 8)) 7 (ac 7)) 6 (ac 6)) 3 (ac 3)) 2 (.fn f [] [ac 1000]),hh⟩)/\hh 3=.bx (wK s)/\hh 6=.bx zM/\hh 7=.bx (ao b)/\hh 8=.bx (ao c)/\hh 11=.bx (tU (JZ s d c g k out))/\hh 1000=o/\∀i,i≠3->i≠6->i≠7->i≠8->i≠9->i≠11->i≠1000->hh i=.dead:=by
 have hcl:=ho.cl;have hids:=ho.ids;clear ho;intro k;induction k with
 |zero=>
  intro out ho hk S h X hX k2 k3 k6 k7 k8 k9 k10 k11 k12 h3 h6 h7 h8 h9 h11 h0 h1;subst hX;rw[ah];have e1:(0<=((0:Nat):Int)-1)=False:=ff;refine⟨?hh0,?_,?_,?_,?_,?_,?_,?_,?_⟩;rotate_left
  ·simp only[iT,go_sem,k2,k3,k6,k7,k8,k9,k10,k11,k12,h3,h6,h7,h8,h9,h11,h0,h1,hcl,e1];rfl
  all_goals first|rfl| (intro i b1 b2 b3 b4 b5 b6 b7;simp only[cB,b1,b2,b3,b4,b5,b6,b7,if_false];try (split<;>rfl))
 |succ k ih=>
  intro out ho hk S h X hX k2 k3 k6 k7 k8 k9 k10 k11 k12 h3 h6 h7 h8 h9 h11 h0 h1;have vm:=Gw os hs ho hd;have vc:=qz os hs (hg k);have ih':=ih (Of s (AR s out d) (gZ s (g c k))) (afz os hs vm vc) ω;have e1:(0<=((k+1:Nat):Int)-1)=True:=tt;have e2:((k+1:Nat):Int)-1=k:=ω
  have e3:aG ((k:Int)-1)=(k:Int)-1:=by grind[i64_in]
  have m1:=acT os ho.ok hd.ok;have m2:=Bw os (hg k);have m3:=aoI os vm.ok vc.ok;have hc:=hf k ω;rw[e2]at k12;have e4:(0<=(k:Int))=True:=tt;subst hX;rw[ah];generalize av _ _ _=L at ih'⊢;rw[show JZ s d c g (k+1) out=JZ s d c g k (Of s (AR s out d) (gZ s (g c k)))from rfl];generalize Of s (AR s out d) (gZ s (g c k))=y3 at*
  generalize AR s out d=y1 at*
  generalize gZ s (g c k)=y2 at*
  generalize g c k=x at*
  simp only[aj,ao]at hc m2 h8;simp only[iT,ao,go_sem,k2,k3,k6,k7,k8,k9,k10,k11,k12,h3,h6,h7,h8,h9,h11,h0,h1,hcl,e4,m1,tK];rw[hc _ _ rfl rfl];simp only[go_sem,hcl,hids,Gx,Gy,tK,m2,m3,e3];exact ih' _ _ _ rfl rfl rfl rfl rfl rfl rfl rfl rfl rfl rfl rfl rfl rfl rfl rfl rfl rfl
theorem arA{n:Nat}(ok:OkI x):OkI (IN x n p):=by
 unfold IN;split
 ·exact Ff ok
 ·exact tG
theorem aiR{s:Rs}{a:Rm}(os:OkS s)(oa:OkM a):∃q,In q (dL s a):=by
 unfold dL;split
 case isFalse=>exact⟨0,.inl rfl⟩
 rename_i h;obtain⟨q1,q2⟩:=vP h;obtain⟨a1,a2,a3,a4⟩:=ge oa (q2 a σ);obtain⟨k1,k2⟩:=tL (p:=s.p) a1 os.d (by have:=(fP q1).1;omega);obtain⟨y,hy⟩:=E5 k1 k2;obtain⟨z,hz⟩:=E5 oa.r a4;exact⟨_,io (p:=s.p) hy hz⟩
attribute [-go_sem] wV in
theorem arB{s:Rs}{a:Rm}{f:FuncId}{g:Ri->Int->Ri}{o:Ob}(os:OkS s)(oa:OkM a)(ho:OC o)(hg:∀x k,OkI (g x k))(hgi:∀k,∃q,In q (g (dL s a) k))(hf:∀x,x=du (kQ s a)\/x=dL s a->∀ (k:Nat),k<=17->∀ (h:ae) (e:Nat),h 1000=o->h (2000+8*e)=.dead->bF R (az false) h e [aj x,I k] (.fn f [] [ac 1000])=some (aj (g x k),h,[])):
  ∃m,R fco [oj s,fS a,.fn f [] [ac 1000]] [o]=some (fS m,[o])/\((dL s a).all=true/\m=dV s\/(dL s a).all=false/\eE s=true/\vO s a=true/\(m=J0 s a g/\(IQ (dL s (gZ s (g (dL s a) 0))) s.p=true->(dL s (J0 s a g)).all=false)\/m=gZ s (g (dL s a) 0))):=by
 have hb:=Hm os oa;have okb:=Nk (s:=s) (a:=a);have hcl:=ho.cl;have hids:=ho.ids;cases g0:(dL s a).all with
 |true=>
  refine⟨dV s,oO dv.2.1 dv.2.2 (dv.1.2.2.2 false) rfl ?_,.inl ⟨rfl,rfl⟩⟩;have hw:=Mk os;generalize dL s a=b at*
  generalize dV s=z at*
  simp only[aj,ao]at hb;simp only[mI,sk,go_sem,hb,hw,g0];exact gB rfl rfl (hcl _) rfl (by simp only[go_sem,mf])
 |false=>
 have he:yT s [a]=true:=by
  cases h:yT s [a]with
  |true=>rfl
  |false=>
   unfold dL at g0;rw[h,if_neg aCR]at g0;cases g0
 obtain⟨hs,q2⟩:=vP he;have va:=q2 a σ;have ha:VM s a:=⟨oa,va⟩;obtain⟨m1,m2⟩:=yL (p:=s.p) okb;have hm:R fbo [aj (dL s a),I s.p] []=some (af (kQ s a),[]):=Zz okb;have hp:R fbs [af (kQ s a)] []=some (aj (du (kQ s a)),[]):=gO m2 m1;have okc:OkI (du (kQ s a)):=⟨m2,m2⟩;have vc:=qz os hs okc;have h1:=Bw os okc;have h2:R fb1 [oj s,fS a,fS (gZ s (du (kQ s a)))] []=some (fS (ZI s a),[]):=aoJ os oa vc.ok;have vd:VM s (ZI s a):=ZK os hs ha vc;obtain⟨n,hn⟩:∃n:Nat,s.ord=n:=aDG (by
  unfold eE at hs;simp only[aCK,decide_eq_true_eq]at hs;omega)
 have hn17:n<=16:=by
  unfold eE at hs;simp only[aCK,decide_eq_true_eq]at hs;omega
 have hnt:s.ord.toNat=n:=ω
 have h3:=hf _ (.inl rfl) n ω;have h4:=Bw os (hg (du (kQ s a)) n);have v4:=qz os hs (hg (du (kQ s a)) n);have hL:=fun b N=>alH (b:=b) (N:=N) os hs vd (hg (du (kQ s a))) ho (fun k hk h e=>hf _ (.inl rfl) k hk h e) n _ v4 ω;have vh:=ZL os hs vd (hg (du (kQ s a))) n _ v4;have h5:=M1 okb okc (p:=s.p);have h6:=hf _ (.inr rfl) (n+1) ω;have h7:=at4 (Nh (x:=dL s a) (y:=du (kQ s a)) (p:=s.p)) (p:=s.p) (n:=n+1) ω;have eR:Mj s a g=dt (g (dL s a) ((n+1:Nat):Int)) (IN (Co (dL s a) (du (kQ s a)) s.p) (n+1) s.p) s.p:=by
  unfold Mj;rw[hnt,hn];rfl
 have h8:R fbq [aj (g (dL s a) ((n+1:Nat):Int)),aj (IN (Co (dL s a) (du (kQ s a)) s.p) (n+1) s.p),I s.p] []=some (aj (Mj s a g),[]):=by
  rw[eR];exact v9 (hg _ _) (arA Nh)
 obtain⟨qb,hqb⟩:=aiR os oa;obtain⟨qg,hqg⟩:=hgi ((n+1:Nat):Int);have iR:∃q,In q (Mj s a g):=by
  rw[eR];exact⟨_,jG hqg (ZJ (Bo hqb (ip m1 m2)))⟩
 have eO:J0 s a g=Mg s (JZ s (ZI s a) (du (kQ s a)) g n (gZ s (g (du (kQ s a)) n))) (Mj s a g):=by
  unfold J0;rw[hnt,hn]
 have vw:=aiQ hs vh iR;rw[←eO]at vw;have h9:=aiC os vh.ok (r:=Mj s a g) (iR.elim fun _ h=>h.ok);rw[←eO]at h9;have h10:=hf _ (.inr rfl) 0 ω;have h11:=Bw os (hg (dL s a) 0);have vk:=qz os hs (hg (dL s a) 0);obtain⟨w,h12,hw⟩:=alF os vw.ok vk.ok;clear eO eR vw vh vk v4 vc vd ha hqg hqb iR m1 m2 okc okb hgi hg hf he q2;have lL:=hL (dL s a) s.ord;clear hL;rw[hn]at lL;obtain⟨dom,ord,p⟩:=s;simp only at hn;subst hn;generalize dL ⟨dom,(n:Int),p⟩ a=b at*
 generalize kQ ⟨dom,(n:Int),p⟩ a=cc at*
 generalize ZI ⟨dom,(n:Int),p⟩ a=D at*
 generalize Mj ⟨dom,(n:Int),p⟩ a g=RR at*
 generalize J0 ⟨dom,(n:Int),p⟩ a g=OO at*
 simp only[aDf]at h10;simp only at hm h5 h7 h8 lL;generalize gZ ⟨dom,(n:Int),p⟩ (du cc)=c1 at*
 generalize g (du cc) n=x1 at*
 generalize gZ ⟨dom,(n:Int),p⟩ x1=c2 at*
 generalize gZ ⟨dom,(n:Int),p⟩ (g b 0)=c3 at*
 generalize JZ _ D (du cc) g n c2=HH at*
 generalize Co b (du cc) p=e1 at*
 generalize IN e1 (n+1) p=pw at*
 generalize g b ((n+1:Nat):Int)=x2 at*
 generalize g b 0=x3 at*
 generalize hLL:av (am R (az false) iT)=L at lL;have hX:∀s h,am R (az false) (.loop [2,3,6,7,8,9,10,11,12] [3,6,7,8,9,11,1000,1001] iT) s h=L [2,3,6,7,8,9,10,11,12] [3,6,7,8,9,11,1000,1001] s h:=fun s h=>by rw[←hLL];rfl
 clear hLL;have w1:aG ((n:Int)-1)=(n:Int)-1:=by grind[i64_in]
 have w2:aG ((n:Int)+1)=((n+1:Nat):Int):=wi;simp only[du,aj,ao,af,ai]at hb hm hp h1 h2 h3 h4 h5 h6 h7 h8 h9 h10 h11 lL;rw[g0]at hm h5;simp only[g0]at h6 h10 lL;cases w with
 |false=>
  refine⟨OO,oO dv.2.1 dv.2.2 (dv.1.2.2.2 false) rfl ?_,.inr ⟨rfl,hs,va,.inl ⟨rfl,hw rfl⟩⟩⟩;simp only[mI,sk,go_sem,hb,g0,hm,hp,h1,h2,hX,tK,hcl,hids];rw[h3 _ _ rfl rfl];simp only[go_sem,hcl,hids,Gx,Gy,tK,h4,w1,hX];generalize hBB:ak 0 [2,3,6,7,8,10,11] (L _ _ _ _)=X;obtain⟨hh,hE,k3,k6,k7,k8,k11,k0,kd⟩:=lL _ _ _ hBB rfl rfl rfl rfl rfl rfl rfl rfl rfl rfl rfl rfl rfl rfl rfl rfl rfl;rw[hE];simp only[go_sem,hcl,hids,tK,k3,k6,k7,k8,k11,k0,kd,ne_eq,not_false_eq_true,h5,w2];rw[h6 _ _ (by simp only[go_sem,k0]) (by simp only[go_sem,kd,ne_eq,not_false_eq_true])];simp only[go_sem,hcl,hids,Gx,Gy,tK,k3,k6,k7,k8,k11,k0,kd,ne_eq,not_false_eq_true,w2,h7,h8,h9];rw[h10 _ _ (by simp only[go_sem,k0]) (by simp only[go_sem,kd,ne_eq,not_false_eq_true])];simp only[go_sem,hcl,hids,Gx,Gy,tK,k3,k6,k7,k8,k11,k0,kd,ne_eq,not_false_eq_true,h11,h12];exact gB rfl (by simp only[go_sem,k0]) (hcl _) rfl (by simp only[go_sem,mf])
 |true=>
  refine⟨c3,oO dv.2.1 dv.2.2 (dv.1.2.2.2 false) rfl ?_,.inr ⟨rfl,hs,va,.inr rfl⟩⟩;simp only[mI,sk,go_sem,hb,g0,hm,hp,h1,h2,hX,tK,hcl,hids];rw[h3 _ _ rfl rfl];simp only[go_sem,hcl,hids,Gx,Gy,tK,h4,w1,hX];generalize hBB:ak 0 [2,3,6,7,8,10,11] (L _ _ _ _)=X;obtain⟨hh,hE,k3,k6,k7,k8,k11,k0,kd⟩:=lL _ _ _ hBB rfl rfl rfl rfl rfl rfl rfl rfl rfl rfl rfl rfl rfl rfl rfl rfl rfl;rw[hE];simp only[go_sem,hcl,hids,tK,k3,k6,k7,k8,k11,k0,kd,ne_eq,not_false_eq_true,h5,w2];rw[h6 _ _ (by simp only[go_sem,k0]) (by simp only[go_sem,kd,ne_eq,not_false_eq_true])];simp only[go_sem,hcl,hids,Gx,Gy,tK,k3,k6,k7,k8,k11,k0,kd,ne_eq,not_false_eq_true,w2,h7,h8,h9];rw[h10 _ _ (by simp only[go_sem,k0]) (by simp only[go_sem,kd,ne_eq,not_false_eq_true])];simp only[go_sem,hcl,hids,Gx,Gy,tK,k3,k6,k7,k8,k11,k0,kd,ne_eq,not_false_eq_true,h11,h12];exact gB rfl (by simp only[go_sem,k0]) (hcl _) rfl (by simp only[go_sem,mf])
def J2(p:Int):Nat->Nat->Ri->Ri
 |0,_,x=>x
 |n+1,i,x=>J2 p n (i+1) (dt x (gw i) p)
def Dr(k:Nat)(p:Int):Ri:=J2 p (k-1) 2 (gw 1)
theorem ac6{p:Int}:∀ (n i:Nat) {x:Ri},OkI x->OkI (J2 p n i x)
 |0,_,_,h=>h
 |n+1,i,x,_=>(ac6 n (i+1) tG:OkI (J2 p n (i+1) (dt x (gw i) p)))
theorem J3{n:Nat}(h:n<=100):Ku (n:Int):=⟨by omega,by omega⟩
theorem ao0{k:Nat}:OkI (Dr k p):=ac6 _ _ (Cs (J3 (n:=1) ω))
theorem alJ{k:Nat}{p:Int}(hk:k<=50):∀ (n i:Nat) (x:Ri),OkI x->i+n=k+1->2<=i->∀ (S:ap) (h:ae) (X:Option (Ex×St)),ak 0 [4,5] (av (am R (az false) dM) [0,1,4,5,6] [4,5] S h)=X->
  S 0=I k->S 1=I p->S 4=ac 4->S 5=ac 5->S 6=I i->h 4=.bx [B false,.emp,I 0,B false,.emp,I 0,B false]->h 5=.bx (ao x)->
  ∃hh,X=some (.normal,⟨upd (upd bk 5 (ac 5)) 4 (ac 4),hh⟩)/\hh 4=.bx [B false,.emp,I 0,B false,.emp,I 0,B false]/\hh 5=.bx (ao (J2 p n i x)):=by
 intro n;induction n with
 |zero=>
  intro i x ox hi h2 S h X hX k0 k1 k4 k5 k6 h4 h5;have e1:((i:Int)<=(k:Int))=False:=ff;subst hX;rw[ah];refine⟨?hh0,?_,?_,?_⟩;rotate_left
  ·simp only[dM,go_sem,k0,k1,k4,k5,k6,h4,h5,e1];rfl
  all_goals rfl
 |succ n ih=>
  intro i x ox hi h2 S h X hX k0 k1 k4 k5 k6 h4 h5;have ih':=ih (i+1) (dt x (gw i) p) tG ω ω;have e1:((i:Int)<=(k:Int))=True:=tt;have e3:aG ((i:Int)+1)=((i+1:Nat):Int):=wi;have q1:=PP (n:=i) (J3 ω);have q2:=v9 ox (Cs (J3 (n:=i) ω)) (p:=p);rw[show J2 p (n+1) i x=J2 p n (i+1) (dt x (gw i) p)from rfl];subst hX;rw[ah];generalize av _ _ _=L at ih'⊢;generalize dt x (gw i) p=y at*
  generalize gw (i:Int)=z at*
  simp only[aj,ao]at q1 q2 h5 ih';simp only[dM,go_sem,k0,k1,k4,k5,k6,h4,h5,e1,e3,q1,q2];exact ih' _ _ _ rfl rfl rfl rfl rfl rfl rfl rfl
theorem ao1{k:Nat}{p:Int}(hk:k<=50):R fcl [I k,I p] []=some (aj (Dr k p),[]):=by
 refine au Jp rfl ?_;have h1:=PP (n:=1) ⟨by decide,by decide⟩;have o1:OkI (gw 1):=Cs ⟨by decide,by decide⟩;have hL:∀ (S:ap) (h:ae) (X:Option (Ex×St)),ak 0 [4,5] (av (am R (az false) dM) [0,1,4,5,6] [4,5] S h)=X->
   S 0=I k->S 1=I p->S 4=ac 4->S 5=ac 5->S 6=I 2->h 4=.bx [B false,.emp,I 0,B false,.emp,I 0,B false]->h 5=.bx (ao (gw 1))->
   ∃hh,X=some (.normal,⟨upd (upd bk 5 (ac 5)) 4 (ac 4),hh⟩)/\hh 4=.bx [B false,.emp,I 0,B false,.emp,I 0,B false]/\hh 5=.bx (ao (Dr k p)):=by
  by_cases g:1<=k
  ·exact alJ hk (k-1) 2 _ o1 ω (aCJ 2)
  ·intro S h X hX k0 k1 k4 k5 k6 h4 h5;have e0:k=0:=ω
   subst e0;have e1:((2:Int)<=((0:Nat):Int))=False:=ff;subst hX;rw[ah];refine⟨?hh0,?_,?_,?_⟩;rotate_left
   ·simp only[dM,go_sem,k0,k1,k4,k5,k6,h4,h5,e1];rfl
   all_goals rfl
 generalize hLL:av (am R (az false) dM)=L at hL;have hX:∀s h,am R (az false) (.loop [0,1,4,5,6] [4,5] dM) s h=L [0,1,4,5,6] [4,5] s h:=fun s h=>by rw[←hLL];rfl
 clear hLL;generalize Dr k p=y at*
 generalize gw 1=x at*
 simp only[aj,ao]at h1 hL;simp only[sO,BV,aj,ao,go_sem,h1,hX];generalize hBB:ak 0 [4,5] (L _ _ _ _)=X;obtain⟨hh,hE,k4,k5⟩:=hL _ _ _ hBB rfl rfl rfl rfl rfl rfl rfl;rw[hE];simp only[go_sem,k4,k5]
theorem ZO:OkI (mT x y p):=by
 unfold mT;split
 ·split
  ·exact⟨aO.2,aO.2⟩
  ·exact ahc (fun _ _=>Fk.2) (fun _ _=>Fk.2)
 ·exact⟨aO.2,aO.2⟩
theorem ao2{s:Rs}{k:Nat}(ox:OkI x)(oy:OkI y)(hk:k<=50)(he:R fa8 [aj x,I s.p] []=some (aj y,[])):R fch [aj x,I k,ac 1000] [.bx (wK s)]=some (aj (mT y (Dr k s.p) s.p),[.bx (wK s)]):=by
 refine zZ OL OK (CD false) rfl ?_;have h1:=ao1 (p:=s.p) hk;have h2:=M0 oy ao0 (p:=s.p) (y:=Dr k s.p);generalize mT y (Dr k s.p) s.p=z at h2⊢;generalize Dr k s.p=w at h1 h2;simp only[aj,ao]at he h1 h2;simp only[yX,aj,ao,go_sem,he,h1,h2];exact gB rfl rfl rfl rfl (by simp only[go_sem])
def sI(d:Rd):Int:=bL d.neg (ab d.m)
theorem RJ(d:Rd):zI d=sI d*2^ (d.e+16384).toNat:=by
 rw[RB];unfold sI mg bL;split
 ·rw[Int.neg_mul,Int.natCast_mul,Int.natCast_pow];rfl
 ·rw[Int.natCast_mul,Int.natCast_pow];rfl
def TL(a b:Rd):Bool:=decide (-16384<=a.e)&&decide (-16384<=b.e)
def TM(a b:Rd)(p:Int)(up:Bool):Rd×Int:=if aY p [a,b]=0 then(if TL a b=true then iL (sI a*sI b) (a.e+b.e) p up else iL (zI a*zI b) (-32768) p up)else(aB,aY p [a,b])
theorem TN{a b:Rd}{up:Bool}:gp a b p up=TM a b p up:=by
 unfold gp TM;split
 ·split
  ·rename_i h;unfold TL at h;simp only[aCK,decide_eq_true_eq]at h;rw[RJ a,RJ b];have e:sI a*2^ (a.e+16384).toNat*(sI b*2^ (b.e+16384).toNat)=sI a*sI b*2^ ((a.e+16384).toNat+(b.e+16384).toNat):=by
    rw[Int.pow_add];grind
   rw[e,D5];congr 1;omega
  ·rfl
 ·rfl
def afB(a b:Rd)(p:Int)(up:Bool):Rd×Int:=if aY p [a,b]=0 then(if TL a b=true then iL (sI a*2^ (a.e-min a.e b.e).toNat+sI b*2^ (b.e-min a.e b.e).toNat) (min a.e b.e) p up else iL (zI a+zI b) (-16384) p up)else(aB,aY p [a,b])
theorem ao3{a b:Rd}{up:Bool}:dk a b p up=afB a b p up:=by
 unfold dk afB;split
 ·split
  ·rename_i h;unfold TL at h;simp only[aCK,decide_eq_true_eq]at h;rw[RJ a,RJ b];have e1:(a.e+16384).toNat=(a.e-min a.e b.e).toNat+(min a.e b.e+16384).toNat:=ω
   have e2:(b.e+16384).toNat=(b.e-min a.e b.e).toNat+(min a.e b.e+16384).toNat:=ω
   rw[e1,e2,Int.pow_add,Int.pow_add,←Int.mul_assoc,←Int.mul_assoc,←Int.add_mul,D5];congr 1;omega
  ·rfl
 ·rfl
def alK(x y:Ri)(p:Int):Ri:=if(kI x&&kI y&&bC p)=true then Is (sD (fun a b=>TM a b p false) (fun a b=>TM a b p true) (j7 x y))else cS
theorem ac7:dt x y p=alK x y p:=by
 unfold dt alK;simp only[TN]
def afC(x y:Ri)(p:Int):Ri:=if(kI x&&kI y&&bC p)=true then nv (afB x.lo y.lo p false) (afB x.hi y.hi p true)else cS
theorem TO:dq x y p=afC x y p:=by
 unfold dq afC;simp only[ao3]
def afD(d:Rd)(p:Int)(up:Bool):Rd×Int:=if aY p [d]=0 then(if TL d d=true then iL (sI d) d.e p up else iL (zI d) (-16384) p up)else(aB,aY p [d])
theorem ao4{d:Rd}{up:Bool}:cw d p up=afD d p up:=by
 unfold cw afD;split
 ·split
  ·rename_i h;unfold TL at h;simp only[aCK,decide_eq_true_eq]at h;rw[RJ d,D5];congr 1;omega
  ·rfl
 ·rfl
def aiS(x:Ri)(p:Int):Ri:=if(bC p&&kI x)=true then nv (afD x.lo p false) (afD x.hi p true)else cS
theorem Hn:qp x p=aiS x p:=by
 unfold qp aiS;simp only[ao4]
theorem J4{n:Int}(h:Ku n):R fbf [I n] []=some (aj (gw n),[]):=by
 refine au OX rfl ?_;have h1:=D4 h;have h2:=gO (vR h).2 (vR h).1;rw[show bg (decide (n<0)) n.natAbs 0=Ed n from rfl]at h1;unfold gw du;generalize Ed n=d at h1 h2⊢;simp only[aj,ao,af,ai]at h1 h2;simp only[y7,aj,ao,go_sem,h1,h2]
abbrev RK(p:Int):AV:=.agg [I p]
theorem ac8(ox:OkI x)(oy:OkI y):R faa [RK p,aj x,aj y] []=some (aj (dq x y p),[]):=by
 refine au Jv rfl ?_;have h:=tC ox oy (p:=p);generalize dq x y p=z at h⊢;simp only[aj,ao]at h;simp only[tr,aj,ao,go_sem,h]
theorem ao5(ox:OkI x)(oy:OkI y):R fae [RK p,aj x,aj y] []=some (aj (dt x y p),[]):=by
 refine au Jw rfl ?_;have h:=v9 ox oy (p:=p);generalize dt x y p=z at h⊢;simp only[aj,ao]at h;simp only[tu,aj,ao,go_sem,h]
theorem ao6(ox:OkI x)(oy:OkI y):R fab [RK p,aj x,aj y] []=some (aj (mT x y p),[]):=by
 refine au Ju rfl ?_;have h:=M0 ox oy (p:=p);generalize mT x y p=z at h⊢;simp only[aj,ao]at h;simp only[tq,aj,ao,go_sem,h]
def smB(x:Ri)(p:Int):Bool:=decide (cX (wo x)=0)||decide (aN (wo x)≤-p)
theorem ZP(ok:OkI x)(hx:kI x=true):vd (wo x)=true/\Ok0 (wo x):=by
 have h:vd x.lo=true/\vd x.hi=true:=by grind[kI,vi]
 have hv:VI x:=⟨⟨h.1,ok.lo⟩,⟨h.2,ok.hi⟩⟩;exact⟨(amu hv).1,Po (tD ok.lo) (tD ok.hi)⟩
theorem aiU(ok:OkI x)(hx:kI x=true)(hp:0<=p/\p<=1000):R faf [RK p,aj x] []=some (B (smB x p),[]):=by
 refine au HN rfl ?_;have h1:=Yz ok hx;obtain⟨m1,m2⟩:=ZP ok hx;have h2:=AI m2 m1;have h3:=zV m2;have e1:aG (0-p)=-p:=by grind[i64_in]
 unfold smB;generalize wo x=d at*
 generalize aN d=t at*
 generalize cX d=g at*
 simp only[aj,ao,af,ai]at h1 h2 h3;by_cases c1:g=0
 ·have f1:=tt c1;simp only[lF,aj,ao,go_sem,h1,h2,h3,f1,e1,decide_true,Bool.true_or]
 ·have f1:=ff c1;simp only[lF,aj,ao,go_sem,h1,h2,h3,f1,e1,decide_false,Bool.false_or]
def EC(x:Ri):Ri:=⟨ed (wo x),wo x,false⟩
theorem abi(ok:OkI x)(hx:kI x=true):R fa9 [aj x] []=some (aj (EC x),[]):=by
 refine au NC rfl ?_;have h1:=Yz ok hx;obtain⟨m1,m2⟩:=ZP ok hx;have h2:=Ch m2;unfold EC ed;generalize wo x=d at*
 generalize(if vd d=false\/d.m.length=0 then aB else(⟨!d.neg,d.m,d.e⟩:Rd))=n at*
 simp only[aj,ao,af,ai]at h1 h2;simp only[xk,aj,ao,go_sem,h1,h2]
def U6(y:Ri)(p:Int):Nat->Nat->Ri->Ri->Option (Ri×Ri)
 |0,_,_,_=>none
 |f+1,n,t,s=>if kI (mT (dt t y p) (gw n) p)=true then(if smB (mT (dt t y p) (gw n) p) p=true then some (mT (dt t y p) (gw n) p,dq s (mT (dt t y p) (gw n) p) p)else U6 y p f (n+1) (mT (dt t y p) (gw n) p) (dq s (mT (dt t y p) (gw n) p) p))else none
theorem aiV{n:Nat}(h:n<=1000):Ku (n:Int):=⟨by omega,by omega⟩
abbrev zC:List AV:=[B false,.emp,I 0,B false,.emp,I 0,B false]
theorem alL{r:Ri×Ri}(oy:OkI y)(hp:0<=p/\p<=1000):∀ (f n:Nat) (t s:Ri),OkI t->OkI s->n+f<=1000->U6 y p f n t s=some r->∀ (S:ap) (h:ae) (X:Option (Ex×St)),ak 0 [2,4,5,6] (av (am R (az false) gh) [2,3,4,5,6,7] [2,3,4,5,6] S h)=X->
  S 2=ac 2->S 3=ac 3->S 4=ac 4->S 5=ac 5->S 6=ac 6->S 7=I n->h 2=.bx [I p]->h 3=.bx (ao y)->h 4=.bx zC->h 5=.bx (ao t)->h 6=.bx (ao s)->
  OkI r.1/\OkI r.2/\∃hh,X=some (.normal,⟨upd (upd (upd (upd bk 6 (ac 6)) 5 (ac 5)) 4 (ac 4)) 2 (ac 2),hh⟩)/\hh 2=.bx [I p]/\hh 4=.bx zC/\hh 5=.bx (ao r.1)/\hh 6=.bx (ao r.2)/\∀i,i≠2->i≠3->i≠4->i≠5->i≠6->hh i=.dead:=by
 intro f;induction f with
 |zero=>intro n t s _ _ _ h;cases h
 |succ f ih=>
  intro n t s ot os hn hx S h X hX k2 k3 k4 k5 k6 k7 h2 h3 h4 h5 h6;have on:=Cs (aiV (n:=n) ω);have q1:=ao5 ot oy (p:=p);have q2:=J4 (n:=n) (aiV ω);have q3:=ao6 (tG (x:=t) (y:=y) (p:=p)) on (p:=p);have od:OkI (mT (dt t y p) (gw n) p):=ZO;have q4:=ac8 os od (p:=p);have oa:OkI (dq s (mT (dt t y p) (gw n) p) p):=yG;unfold U6 at hx;generalize dq s (mT (dt t y p) (gw n) p) p=s1 at*
  generalize mT (dt t y p) (gw n) p=t1 at*
  generalize dt t y p=m1 at*
  generalize gw (n:Int)=z at*
  cases c1:kI t1 with
  |false=>
   rw[c1,if_neg aCR]at hx;cases hx
  |true=>
  rw[c1,if_pos rfl]at hx;have q5:=aiU od c1 hp;have e3:aG ((n:Int)+1)=((n+1:Nat):Int):=wi;cases c2:smB t1 p with
  |true=>
   rw[c2,if_pos rfl]at hx;cases hx;rw[c2]at q5;subst hX;rw[ah];simp only[aj,ao]at q1 q2 q3 q4 q5 h3 h5 h6;refine⟨od,oa,?hh0,?_,?_,?_,?_,?_,?_⟩;rotate_left
   ·simp only[gh,go_sem,k2,k3,k4,k5,k6,k7,h2,h3,h4,h5,h6,q1,q2,q3,q4,q5];rfl
   all_goals first|rfl| (intro i b1 b2 b3 b4 b5;simp only[cB,b1,b2,b3,b4,b5,if_false];try (split<;>rfl))
  |false=>
   rw[c2,if_neg aCR]at hx;rw[c2]at q5;have ih':=ih (n+1) t1 s1 od oa ω hx;subst hX;rw[ah];generalize av _ _ _=L at ih'⊢;simp only[aj,ao]at q1 q2 q3 q4 q5 h3 h5 h6 ih';simp only[gh,go_sem,k2,k3,k4,k5,k6,k7,h2,h3,h4,h5,h6,q1,q2,q3,q4,q5,e3];exact ih' _ _ _ rfl rfl rfl rfl rfl rfl rfl rfl rfl rfl rfl rfl
theorem ao7(ok:OkI x)(hx:kI x=true):OkI (EC x):=by
 obtain⟨m1,m2⟩:=ZP ok hx;unfold EC ed;generalize wo x=d at*
 refine⟨?_,m2⟩;show Ok0 (if _ then _ else _);split
 ·exact aO.2
 ·exact⟨m2.lb,m2.len⟩
theorem amA{y:Ri}{p:Int}{r:Ri×Ri}:∀ (f n:Nat) (t s:Ri),U6 y p f n t s=some r->kI r.1=true
 |0,_,_,_,h=>by cases h
 |f+1,n,t,s,h=>by
  unfold U6 at h;split at h
  ·rename_i hk;split at h
   ·cases h;exact hk
   ·exact amA f _ _ _ h
  ·cases h
theorem ao8{f:Nat}{r:Ri×Ri}(oy:OkI y)(hp:0<=p/\p<=1000)(hf:f<=900)(hx:U6 y p f 1 (gw 1) (gw 1)=some r):R fac [RK p,aj y] []=some (aj (dq r.2 (EC r.1) p),[]):=by
 refine au Jt rfl ?_;have h1:=J4 (n:=1) ⟨by decide,by decide⟩;have o1:OkI (gw 1):=Cs ⟨by decide,by decide⟩;have hL:=alL oy hp f 1 _ _ o1 o1 ω hx;have hk:=amA _ _ _ _ hx;have hA:OkI r.1->R fa9 [aj r.1] []=some (aj (EC r.1),[]):=fun h=>abi h hk;have hS:OkI r.1->OkI r.2->R faa [RK p,aj r.2,aj (EC r.1)] []=some (aj (dq r.2 (EC r.1) p),[]):=fun h g=>ac8 g (ao7 h hk);generalize dq r.2 (EC r.1) p=z at*
 generalize EC r.1=a at*
 obtain⟨t,s⟩:=r;simp only at hA hS hL;clear hx hk;generalize gw 1=x1 at*
 generalize hLL:av (am R (az false) gh)=L at hL;have hX:∀s h,am R (az false) (.loop [2,3,4,5,6,7] [2,3,4,5,6] gh) s h=L [2,3,4,5,6,7] [2,3,4,5,6] s h:=fun s h=>by rw[←hLL];rfl
 clear hLL;simp only[aj,ao]at h1 hL hA hS;simp only[th,Ca,aj,ao,go_sem,h1,hX];generalize hBB:ak 0 [2,4,5,6] (L _ _ _ _)=X;obtain⟨ot,os,hh,hE,k2,k4,k5,k6,kd⟩:=hL _ _ _ hBB rfl rfl rfl rfl rfl rfl rfl rfl rfl rfl rfl;have hA:=hA ot;have hS:=hS ot os;rw[hE];simp only[go_sem,k2,k4,k5,k6,kd,ne_eq,not_false_eq_true,hA,hS]
def Kz(x:Ri)(p:Int):Ri:=if(!(lC x).all&&bC p)=true then nv (gp (lC x).lo (lC x).lo p false) (gp (lC x).hi (lC x).hi p true)else cS
theorem arC(ox:OkI x):R fbx [aj x,I p] []=some (aj (Kz x p),[]):=by
 refine au Nx rfl ?_;have ha:=abV ox;have oa:=S1 ox;have hp:=mP (p:=p);have hw:=gN;have hd:=HQ oa.lo oa.lo (p:=p);have hu:=LE oa.hi oa.hi (p:=p);unfold Kz;generalize lC x=y at*
 generalize gp y.lo y.lo p false=r at hd⊢;generalize gp y.hi y.hi p true=q at hu⊢;obtain⟨r1,r2⟩:=r;obtain⟨q1,q2⟩:=q;have hm:=Fe (a:=r1) (b:=q1) (e:=r2) (f:=q2);simp only[aj,ao,rV,af,ai]at ha hw hd hu hm;cases h1:y.all with
 |true=>
  rw[Bool.not_true,aCO,if_neg aCR];simp only[mJ,aj,ao,go_sem,ha,h1,hw]
 |false=>
  rw[Bool.not_false,aCM];rw[h1]at ha;cases h2:bC p with
  |false=>
   rw[h2]at hp;rw[if_neg aCR];simp only[mJ,aj,ao,go_sem,ha,hp,hw]
  |true=>
   rw[h2]at hp;rw[if_pos rfl];simp only[mJ,aj,ao,go_sem,ha,hp,hw,hd,hu,hm]
theorem aiW{s:Rd}:vd (Gs s).1=true/\Ok0 (Gs s).1:=yI
def Oi(x:Ri):Ri:=if kI x=true then nv (Gs x.lo) (Gs x.hi)else cS
theorem arD:OkI (Oi x):=by
 unfold Oi;split
 ·exact Gh aiW.2 aiW.2
 ·exact Df.ok'
theorem alM(ox:OkI x):R fbv [aj x,I (-1)] []=some (aj (Oi x),[]):=by
 refine au OW rfl ?_;have hk:=oZ ox;have hw:=gN;unfold Oi;cases h1:kI x with
 |false=>
  rw[h1]at hk;simp only[aj,ao,cS,aB]at hk hw;simp only[sx,aj,ao,cS,aB,go_sem,hk,hw,aDy]
 |true=>
  rw[h1]at hk;obtain⟨_,v1,v2⟩:=Hl h1;have hl:=PL ox.lo v1;have hh:=PL ox.hi v2;rw[if_pos rfl];generalize Gs x.lo=r at*
  generalize Gs x.hi=q at*
  obtain⟨r1,r2⟩:=r;obtain⟨q1,q2⟩:=q;have hm:=Fe (a:=r1) (b:=q1) (e:=r2) (f:=q2);simp only[aj,ao,rV,af,ai]at hk hw hl hh hm;simp only[sx,aj,ao,go_sem,hk,hl,hh,hm]
theorem arE:OkI (Kz x p):=by
 unfold Kz;split
 ·exact Gh Be Be
 ·exact Df.ok'
theorem U7:OkI (qp x p):=by
 unfold qp;split
 ·exact Gh Bg Bg
 ·exact Df.ok'
def afE(e:Int->Ri->Option Ri):Prop:=∀ (p:Int) (y z:Ri),0<=p/\p<=1000->OkI y->e p y=some z->R fac [RK p,aj y] []=some (aj z,[])/\OkI z
def ZQ(e:Int->Ri->Option Ri)(p:Int):Nat->Ri->Option Ri
 |0,y=>e p y
 |n+1,y=>(ZQ e p n (Oi y)).map fun z=>Kz z p
theorem RL{e:Int->Ri->Option Ri}(he:afE e){p:Int}(hp:0<=p/\p<=1000):∀ (n:Nat) {y z:Ri},n<=100->OkI y->ZQ e p n y=some z->R fad [RK p,aj y,I n] []=some (aj z,[])/\OkI z
 |0,y,z,_,oy,h=>by
  obtain⟨hx,oz⟩:=he p y z hp oy h;refine⟨au yQ rfl ?_,oz⟩;simp only[aj,ao]at hx;simp only[kE,aj,ao,go_sem,hx,show decide (((0:Nat):Int)=0)=true from rfl]
 |n+1,y,z,hn,oy,h=>by
  unfold ZQ at h;rw[aCL]at h;obtain⟨r,h1,rfl⟩:=h;obtain⟨g1,g2⟩:=RL he hp n ω arD h1;have g3:=arC g2 (p:=p);have g4:=alM oy;have e1:aG (((n+1:Nat):Int)-1)=(n:Int):=wi;have e2:(((n+1:Nat):Int)=0)=False:=ff;refine⟨au yQ rfl ?_,arE⟩;generalize Kz r p=z at*
  generalize Oi y=q at*
  simp only[aj,ao]at g1 g3 g4;simp only[kE,aj,ao,go_sem,g1,g3,g4,e1,e2]
def ZR(d:Rd):Bool:=decide (cM (zI (me d)) (zI (Ed 1000))<=0)
theorem ac9{d:Rd}(ok:Ok0 d)(v:vd d=true):R fbd [af d] []=some (B (ZR d),[]):=by
 refine au KE rfl ?_;have h1:=LA ok;have hn:Ku 1000:=⟨by omega,by omega⟩;have h2:=D4 hn;rw[show bg (decide ((1000:Int)<0)) (Int.natAbs 1000) 0=Ed 1000 from rfl]at h2;have h3:=pG (a:=me d) (b:=Ed 1000) (tD ok) (vR hn).2;rw[if_pos ⟨(anj v).2,(vR hn).1⟩]at h3;rw[show(if vd d=false\/d.m.length=0 then aB else(⟨false,d.m,d.e⟩:Rd))=me d from rfl]at h1;unfold ZR;generalize cM (zI (me d)) (zI (Ed 1000))=c at*
 generalize me d=a at*
 generalize Ed 1000=b at*
 simp only[af,ai]at h1 h2 h3;simp only[uv,af,ai,go_sem,h1,h2,h3]
theorem aiX(ok:OkI x)(hk:kI x=true)(hp:bC p=true):R fbb [aj x,I p] []=some (B true,[]):=by
 refine au QK rfl ?_;have h1:=oW ok;unfold kI at hk;simp only[aCK,aDJ]at hk;rw[hk.2]at h1;have hp2:=vM hp;have e1:(8<=p)=True:=tt hp2.1;have e2:(p<=512)=True:=tt hp2.2;simp only[aj,ao,hk.1]at h1;simp only[Aw,aj,ao,go_sem,h1,hk.1,e1,e2]
theorem alN{q:Int}(hp:0<=p/\p<=1000)(hq:0<=q/\q<=1000):R fbc [I p,I q] []=some (RK (if 512<p+q then 512 else p+q),[]):=by
 refine au OY rfl ?_;have e1:IntKind.i64.wrap (p+q)=p+q:=by rw[i64_in]<;>omega
 simp only[y8,go_sem,e1]
def Nm(a b:Ri):Ri:=if(a.all||b.all)=true then cS else⟨a.lo,b.hi,false⟩
theorem ao9{a b:Ri}:R fba [aj a,aj b] []=some (aj (Nm a b),[]):=by
 refine au QM rfl ?_;have hw:=gN;unfold Nm;simp only[aj,ao,cS,aB]at hw;cases h1:a.all<;>cases h2:b.all<;>simp only[Ax,aj,ao,cS,aB,go_sem,h1,h2,hw,Bool.or_true,Bool.or_false,aDy]
def Gz(d:Rd):Nat:=(if aN d+1<0 then 0 else aN d+1).toNat
def Ho(d:Rd)(p:Int):Int:=if 512<p+(Gz d+24)then 512 else p+(Gz d+24)
def U8(e:Int->Ri->Option Ri)(d:Rd)(p:Int):Option Ri:=if cX d=0 then some (gw 1)else(ZQ e (Ho d p) (Gz d) (qp (du d) (Ho d p))).map fun z=>qp z p
theorem ZS{e:Int->Ri->Option Ri}(he:afE e){d:Rd}{z:Ri}(ok:Ok0 d)(v:vd d=true)(hp:bC p=true)(ht:aN d<=50)(h:U8 e d p=some z):R fbe [af d,I p] []=some (aj z,[])/\OkI z:=by
 have h1:=AI ok v;have o1:OkI (gw 1):=Cs ⟨by decide,by decide⟩;have hp2:=vM hp;unfold U8 at h;by_cases g:cX d=0
 ·rw[if_pos g]at h;have hz:z=gw 1:=(Option.some.inj h).symm;have h2:=J4 (n:=1) ⟨by decide,by decide⟩;rw[←hz]at h2 o1;clear hz h;have f:=tt g;refine⟨au F3 rfl ?_,o1⟩;generalize cX d=q at*
  simp only[aj,ao,af,ai]at h1 h2;simp only[su,aj,ao,af,ai,go_sem,h1,h2,f]
 ·rw[if_neg g,aCL]at h;obtain⟨y,hy,rfl⟩:=h;have f:=ff g;have h3:=zV ok;have h4:=gO ok v;have hN:(if aN d+1<0 then 0 else aN d+1)=((Gz d:Nat):Int):=by
   unfold Gz;split<;>omega
  have hN2:Gz d<=51:=by
   have:=hN;split at this<;>omega
  have tb:-100000<=aN d:=by
   unfold aN;split
   ·omega
   ·rename_i hh;have:=(dj v ok.lb).2.1;omega
  have e1:IntKind.i64.wrap (aN d+1)=aN d+1:=by rw[i64_in]<;>omega
  have e2:IntKind.i64.wrap ((Gz d:Int)+24)=(Gz d:Int)+24:=by rw[i64_in]<;>omega
  have h5:=alN (p:=p) (q:=(Gz d:Int)+24) ⟨by omega,by omega⟩ ⟨by omega,by omega⟩;rw[show(if 512<p+((Gz d:Int)+24)then(512:Int)else p+((Gz d:Int)+24))=Ho d p from rfl]at h5;have hP:0<=Ho d p/\Ho d p<=1000:=by
   unfold Ho;split<;>omega
  have okp:OkI (⟨d,d,false⟩:Ri):=⟨ok,ok⟩;have h6:=UQ okp (p:=Ho d p);have okr:OkI (qp (du d) (Ho d p)):=U7;obtain⟨h7,oy⟩:=RL he hP (Gz d) ω okr hy;have h8:=UQ oy (p:=p);refine⟨au F3 rfl ?_,U7⟩;simp only[du]at h7;clear hy okr;generalize qp y p=z at*
  generalize qp ⟨d,d,false⟩ (Ho d p)=w at*
  generalize Ho d p=pp at*
  generalize Gz d=nn at*
  generalize aN d=td at*
  generalize cX d=q at*
  simp only[aj,ao,af,ai]at h1 h3 h4 h5 h6 h7 h8;simp only[su,aj,ao,af,ai,go_sem,h1,h3,h4,h5,h6,h7,h8,f,e1,e2,hN]
theorem ZT{e:Int->Ri->Option Ri}(he:afE e){a b:Ri}(ok:OkI x)(hk:kI x=true)(hp:bC p=true)(m1:ZR x.lo=true)(m2:ZR x.hi=true)(t1:aN x.lo<=50)(t2:aN x.hi<=50)(h1:U8 e x.lo p=some a)(h2:U8 e x.hi p=some b):R fa8 [aj x,I p] []=some (aj (Nm a b),[]):=by
 obtain⟨_,v1,v2⟩:=Hl hk;have g1:=aiX ok hk hp;have g2:=ac9 ok.lo v1;have g3:=ac9 ok.hi v2;obtain⟨g4,oa⟩:=ZS he ok.lo v1 hp t1 h1;obtain⟨g5,ob⟩:=ZS he ok.hi v2 hp t2 h2;have g6:=ao9 (a:=a) (b:=b);rw[m1]at g2;rw[m2]at g3;refine au Sx rfl ?_;generalize Nm a b=z at*
 simp only[aj,ao,af,ai]at g1 g2 g3 g4 g5 g6;simp only[BU,aj,ao,go_sem,g1,g2,g3,g4,g5,g6]
def fcN(n:Nat)(k:Nat->β):β:=match n with
 |0=>k 0
 |n+1=>k (n+1)
theorem aiY{n:Nat}{k:Nat->β}:fcN n k=k n:=by cases n<;>rfl
def ZU{β:Type}:List Nat->(List Nat->β)->β
 |[],k=>k []
 |x::l,k=>fcN x fun x=>ZU l fun l=>k (x::l)
theorem aiZ{β:Type}:∀ {l:List Nat} {k:List Nat->β},ZU l k=k l
 |[],_=>rfl
 |x::l,k=>by
  unfold ZU;rw[aiY,aiZ]
def fcD(d:Rd)(k:Rd->β):β:=match d with
 | ⟨false,m,.ofNat e⟩=>fcN e fun e=>ZU m fun m=>k ⟨false,m,.ofNat e⟩
 | ⟨true,m,.ofNat e⟩=>fcN e fun e=>ZU m fun m=>k ⟨true,m,.ofNat e⟩
 | ⟨false,m,.negSucc e⟩=>fcN e fun e=>ZU m fun m=>k ⟨false,m,.negSucc e⟩
 | ⟨true,m,.negSucc e⟩=>fcN e fun e=>ZU m fun m=>k ⟨true,m,.negSucc e⟩
theorem arF{d:Rd}{k:Rd->β}:fcD d k=k d:=by
 obtain⟨n,m,e⟩:=d;cases n<;>cases e<;>simp[fcD,aiY,aiZ]
def fcI(x:Ri)(k:Ri->β):β:=match x with
 | ⟨a,b,false⟩=>fcD a fun a=>fcD b fun b=>k ⟨a,b,false⟩
 | ⟨a,b,true⟩=>fcD a fun a=>fcD b fun b=>k ⟨a,b,true⟩
theorem arG{k:Ri->β}:fcI x k=k x:=by
 obtain⟨a,b,c⟩:=x;cases c<;>simp[fcI,arF]
def exT(y:Ri)(p:Int):Nat->Nat->Ri->Ri->Option Ri
 |0,_,_,_=>none
 |f+1,n,t,s=>fcI (mT (alK t y p) (gw n) p) fun t1=>fcI (afC s t1 p) fun s1=>if kI t1=true then(if smB t1 p=true then some (afC s1 (EC t1) p)else exT y p f (n+1) t1 s1)else none
theorem ai0{y:Ri}{p:Int}:∀ (f n:Nat) (t s:Ri),exT y p f n t s=(U6 y p f n t s).map fun r=>dq r.2 (EC r.1) p
 |0,_,_,_=>rfl
 |f+1,n,t,s=>by
  unfold exT U6;simp only[arG,←ac7,←TO];split
  ·split
   ·rfl
   ·rw[ai0 f]
  ·rfl
def ZV(p:Int)(y:Ri):Option Ri:=exT y p 900 1 (gw 1) (gw 1)
theorem ai1:afE ZV:=fun p y z hp oy h=>by
 unfold ZV at h;rw[ai0,aCL]at h;obtain⟨r,h1,rfl⟩:=h;exact⟨ao8 oy hp (aCJ _) h1,yG⟩
theorem arH:Kz x p=if(!(lC x).all&&bC p)=true then nv (TM (lC x).lo (lC x).lo p false) (TM (lC x).hi (lC x).hi p true)else cS:=by
 unfold Kz;rw[TN,TN]
def arI:Ri:=du ⟨false,[1],-1⟩
def arJ:Ri:=du ⟨true,[1],-1⟩
def qP4:Ri:=du ⟨false,[1],-2⟩
def qM4:Ri:=du ⟨true,[1],-2⟩
def pA0:Ri:=⟨⟨false,[3492859111,2439759751,2],-65⟩,⟨false,[3893913211,1219879875,1],-64⟩,false⟩
def pB0:Ri:=⟨⟨false,[2420202757,494793685,3],-66⟩,⟨false,[1678792517,3344923893],-64⟩,false⟩
def pA1:Ri:=⟨⟨false,[3235084575,1277505987,3],-65⟩,⟨false,[3765025955,2786236641,1],-64⟩,false⟩
def pA2:Ri:=⟨⟨false,[2330798673,3084996962,2],-64⟩,⟨false,[1165399369,1542498481,1],-63⟩,false⟩
def pA3:Ri:=⟨⟨false,[4230622289,86],-37⟩,⟨false,[4166277283,173],-38⟩,false⟩
def pB1:Ri:=⟨⟨false,[4183859169,915091398,1],-65⟩,⟨false,[4072751067,1830182797,2],-66⟩,false⟩
def pB2:Ri:=⟨⟨false,[2649159861,4050306757,2],-67⟩,⟨false,[2649159923,4050306757,2],-67⟩,false⟩
def pB3:Ri:=⟨⟨false,[1521594727,188],-41⟩,⟨false,[2337682989,23],-38⟩,false⟩
theorem xA:qp (du one) 66=du one/\qp (du lE) 66=du lE:=by
 rw[Hn,Hn];exact⟨by kernel_rfl,by kernel_rfl⟩
theorem xB:Oi (du one)=arI/\Oi (du lE)=arJ:=⟨by kernel_rfl,by kernel_rfl⟩
theorem xC:Oi arI=qP4/\Oi arJ=qM4:=⟨by kernel_rfl,by kernel_rfl⟩
theorem xD:ZV 66 qP4=some pA0/\ZV 66 qM4=some pB0:=⟨by kernel_rfl,by kernel_rfl⟩
theorem xE:Kz pA0 66=pA1/\Kz pA1 66=pA2/\Kz pB0 66=pB1/\Kz pB1 66=pB2:=by
 simp only[arH];exact⟨by kernel_rfl,by kernel_rfl,by kernel_rfl,by kernel_rfl⟩
theorem xF:qp pA2 40=pA3/\qp pB2 40=pB3:=by
 rw[Hn,Hn];exact⟨by kernel_rfl,by kernel_rfl⟩
theorem xG:U8 ZV one 40=some pA3/\U8 ZV lE 40=some pB3:=by
 have n1:Gz one=2/\Gz lE=2:=⟨by kernel_rfl,by kernel_rfl⟩;have p1:Ho one 40=66/\Ho lE 40=66:=⟨by kernel_rfl,by kernel_rfl⟩;have s1:¬cX one=0/\¬cX lE=0:=⟨by decide,by decide⟩;unfold U8;rw[if_neg s1.1,if_neg s1.2,n1.1,n1.2,p1.1,p1.2,xA.1,xA.2];unfold ZQ;rw[xB.1,xB.2];unfold ZQ;rw[xC.1,xC.2];unfold ZQ;rw[xD.1,xD.2];simp only[aDt,xE.1,xE.2.1,xE.2.2.1,xE.2.2.2,xF.1,xF.2,and_self]
theorem tpU:aN one<=50/\aN lE<=50:=by
 have h1:aN one=1:=by kernel_rfl
 have h2:aN lE=1:=by kernel_rfl
 rw[h1,h2];decide
theorem apa(d:Rd):Nm (du d) (du d)=du d:=rfl
def pE:Ri:=⟨pB3.lo,pA3.hi,false⟩
theorem ai2:R fa8 [aj bX,I 40] []=some (aj pE,[]):=
 ZT ai1 Dm.1 κ rfl κ κ tpU.2 tpU.1 xG.2 xG.1
theorem ai3:R fa8 [aj cj,I 40] []=some (aj (gw 1),[]):=by
 have h:U8 ZV aB 40=some (gw 1):=if_pos rfl;have hm:ZR aB=true:=by kernel_rfl
 have ht:aN aB<=50:=δ
 have hk:kI cj=true:=by kernel_rfl
 have e:Nm (gw 1) (gw 1)=gw 1:=apa (Ed 1);rw[←e];exact ZT ai1 ⟨aO.2,aO.2⟩ hk rfl hm hm ht ht h h
abbrev afF:=List (Nat×List AV×AV)
def ZW:afF->FuncId->List AV->Option AV
 |[],_,_=>none
 |x::l,f,args=>if x.1=f then(if Cw x.2.1 args=true then some x.2.2 else ZW l f args)else ZW l f args
def adc(a:Option AV)(hs:List Ob)(b:Option (AV×List Ob)):Option (AV×List Ob):=match a,hs with
 |some r,[]=>some (r,[])
 |_,_=>b
abbrev Lk:=FuncId->List AV->Option AV
def TP(e:Env)(T:Lk):Nat->jt
 |0=>fun _ _ _=>none
 |n+1=>fun f args hs=>adc (T f args) hs (match e.E f with
  |some g=>g args hs
  |none=>(e.C f).bind fun fd=>CM (TP e T n) {e.md with nm:=e.md.keep f} n fd args hs)
def ayg(e:Env)(T:Lk):Prop:=∀f args r,T f args=some r->iw e f args []=some (r,[])
theorem TQ{e:Env}:∀ {T:afF} {f:FuncId} {args:List AV} {r:AV},(∀x∈T,iw e x.1 x.2.1 []=some (x.2.2,[]))->ZW T f args=some r->iw e f args []=some (r,[])
 |[],f,args,r,_,h=>by cases h
 |x::l,f,args,r,ht,h=>by
  unfold ZW at h;split at h
  ·rename_i h1;split at h
   ·rename_i h2;cases h;have:=ht x σ;rw[h1,BJ h2]at this;exact this
   ·exact TQ (fun y hy=>ht y (by simp[hy])) h
  ·exact TQ (fun y hy=>ht y (by simp[hy])) h
theorem vS{call:jt}{md:Mode}{lf:Nat}:∀ (c:Cmd) {s:ap} {h:ae} {r:Ex×St},cU call md lf c s h=some r->am call md c s h=some r
 | .skip,s,h,r,hz=>hz
 | .ops ks l,s,h,r,hz=>hz
 | .dops ks l ps,s,h,r,hz=>hz
 | .seq a b,s,h,r,hz=>by
  simp only[cU,cF]at hz;split at hz
  ·cases hz
  ·rename_i t1 ht1;simp only[am,cF,vS a ht1,vS b hz]
  ·rename_i i t1 ht1;simp only[am,cF,vS a ht1];exact hz
  ·rename_i t1 ht1;simp only[am,cF,vS a ht1];exact hz
 | .cond c a b,s,h,r,hz=>by
  simp only[cU,ui]at hz;split at hz
  ·rename_i t ht;cases t with
   |true=>simp only[am,ui,ht,if_true];exact vS a hz
   |false=>simp only[am,ui,ht,aDy,if_false];exact vS b hz
  ·cases hz
 | .block id ks a,s,h,r,hz=>by
  simp only[cU,ak]at hz;split at hz
  ·cases hz
  ·rename_i t1 ht1;simp only[am,ak,vS a ht1];exact hz
  ·rename_i i t1 ht1;simp only[am,ak,vS a ht1];exact hz
  ·rename_i t1 ht1;simp only[am,ak,vS a ht1];exact hz
 | .loop ks hs a,s,h,r,hz=>by
  simp only[cU]at hz;simp only[am,av];rw[pM];exact⟨lf,fun k hk=>L9 (fun hh=>vS a hh) lf hk hz⟩
 | .exit id,s,h,r,hz=>hz
 | .ret,s,h,r,hz=>hz
 | .frz is a,s,h,r,hz=>by
  simp only[cU,bv]at hz;split at hz
  ·cases hz
  ·rename_i t1 ht1;simp only[am,bv,ht1];exact vS a hz
theorem ade{e:Env}{T:Lk}(ht:ayg e T):∀n,Hf (TP e T n) (iw e)
 |0=>fun f a hs r hz=>by cases hz
 |n+1=>fun f a hs r hz=>by
  have old:(match e.E f with|some g=>g a hs|none=>(e.C f).bind fun fd=>CM (TP e T n) {e.md with nm:=e.md.keep f} n fd a hs)=some r->iw e f a hs=some r:=by
   intro hz;split at hz
   ·rename_i g hE;rw[Jc hE];exact hz
   ·rename_i hE;simp only[aCH]at hz;obtain⟨fd,hC,hz⟩:=hz;refine K9 hE hC ?_;unfold CM at hz;unfold Xr;split at hz
    ·rename_i hcc;rw[if_pos hcc];cases hx:cU (TP e T n) {e.md with nm:=e.md.keep f} n fd.body (wk a) (ax hs)with
     |none=>rw[hx]at hz;cases hz
     |some q=>
      rw[hx]at hz;rw[vS fd.body (j8 (ade ht n) (aCJ n) fd.body hx)];exact hz
    ·cases hz
  unfold TP at hz;unfold adc at hz;split at hz
  ·rename_i r' hl;cases hz;exact ht _ _ _ hl
  ·exact old hz
theorem alO{e:Env}:∀x∈ ([]:afF),iw e x.1 x.2.1 []=some (x.2.2,[]):=fun _ h=>by cases h
theorem ayh{e:Env}(T:afF)(n:Nat)(x:Nat×List AV×AV)(ht:∀x∈T,iw e x.1 x.2.1 []=some (x.2.2,[]))(h:TP e (ZW T) n x.1 x.2.1 []=some (x.2.2,[])):iw e x.1 x.2.1 []=some (x.2.2,[]):=ade (fun _ _ _ h=>TQ ht h) n _ _ _ _ h
def s6:Rs:=⟨[bX],4,40⟩
theorem GA:eE s6=true:=by
 have h:=alB aoV rfl;unfold eE;simp[s6,h];rfl
theorem Hp:OkS s6:=⟨fun x hx=>by rw[List.mem_singleton.1 hx];exact Dm.1,by decide⟩
theorem AT:Fit s6 xP:=⟨rfl,by decide,cl1 (v1_ δ),by decide+revert,fun t ht=>by rw[List.mem_singleton.1 ht];decide⟩
theorem alP:OkM ⟨xP,cj⟩:=⟨fun t ht=>(AT.c.t t ht).c,⟨aO.2,aO.2⟩,by decide⟩
theorem ayi:aft s6 0=⟨xP,cj⟩:=by
 unfold aft;rw[GA];rfl
theorem ayj:Dc bX 1 40=bX:=by kernel_rfl
theorem ayk:dt ⟨one,one,false⟩ bX 40=bX:=by
 rw[ac7];kernel_rfl
theorem arK:dq cj bX 40=bX/\dq bX cj 40=bX:=by
 rw[TO,TO];exact⟨by kernel_rfl,by kernel_rfl⟩
theorem afG:mQ xP [bX]=true:=Dq Hp GA (AT.vp GA) rfl
theorem arL:n8 xP [bX] 40=bX:=by
 unfold n8;rw[afG,show bC 40=true from rfl,aDv,if_pos rfl];have e:LI 40 [bX] xP.terms ⟨aB,aB,false⟩=dq cj (dt ⟨one,one,false⟩ (Dc bX 1 40) 40) 40:=by
  simp only[xP,tX,LI,Kw,cj,aCV,if_true,Int.toNat_one]
 rw[e,ayj,ayk,arK.1]
theorem ayl:mU xP [bX] 40=bX:=by
 have od:∀x∈[bX],OkI x:=Hp.d;have hsb:=ais (dom:=[bX]) (p:=40) AT.ok od δ afG rfl δ (by rw[arL];rfl);rw[arL]at hsb;have q1:=rM;have q2:=acZ;have h1:=Ec (dom:=[bX]) (p:=40) AT.ok od δ afG (xs:=[1]) (ts:=[1]) ⟨by grind[bX],by decide,by decide,trivial⟩;have h2:=Ec (dom:=[bX]) (p:=40) AT.ok od δ afG (xs:=[-1]) (ts:=[0]) ⟨by grind[bX],by decide,by decide,trivial⟩;have e1:fv [1] xP.terms=1:=by
  simp[fv,xP,tX,tP,rN,q1,Rat.add_zero]
 have e2:fv [-1] xP.terms=-1:=by
  simp[fv,xP,tX,tP,rN,q1,Rat.add_zero]
 rw[e1]at h1;rw[e2]at h2;generalize mU xP [bX] 40=z at*
 obtain⟨_,hsb⟩:=hsb;rcases hsb with h| ⟨ha,_,_,l1,l2⟩
 ·cases h
 rcases h1 with h| ⟨_,vz,_,g1⟩
 ·rw[h]at ha;cases ha
 rcases h2 with h| ⟨_,_,g2,_⟩
 ·rw[h]at ha;cases ha
 rw[←q1,sE]at g1;rw[←q2,sE]at g2;obtain⟨a,b,c⟩:=z;have x1:a=lE:=Q4 vz.1.2 Nb.2 vz.1.1 Nb.1 (Int.le_antisymm g2 l1);have x2:b=one:=Q4 vz.2.2 dW.2 vz.2.1 dW.1 (Int.le_antisymm l2 g1);rw[x1,x2,show c=false from ha];rfl
theorem ZX:dL s6 ⟨xP,cj⟩=bX:=by
 have hv:vO s6 ⟨xP,cj⟩=true:=RH GA AT.c AT.v AT.n AT.d ((AQ (m:=0)).i.elim fun _ h=>h.v) AT.r;have he:yT s6 [⟨xP,cj⟩]=true:=by
  unfold yT;simp[GA,hv]
 unfold dL;rw[if_pos he];show dq (mU xP [bX] 40) cj 40=bX;rw[ayl,arK.2]
theorem Wq:Ed 1=one:=by
 have h:(1:Int).natAbs≠0:=δ
 unfold Ed;rw[jT h,show(1:Int).natAbs=1*2^0 from rfl,YL rfl,Nat.pow_zero,Nat.mul_one,Nat.div_one,qU δ,show(1:Nat)/4294967296=0 from rfl,pB.2 rfl];rfl
theorem alQ:kQ s6 ⟨xP,cj⟩=aB:=by
 unfold kQ;rw[ZX];kernel_rfl
theorem RM:OkI pE:=⟨⟨fun x hx=>by
 have:x=1521594727\/x=188:=by simpa [pE,pB3]using hx
 rcases this with rfl|rfl<;>decide,by decide⟩,⟨fun x hx=>by
 have:x=4166277283\/x=173:=by simpa [pE,pA3]using hx
 rcases this with rfl|rfl<;>decide,by decide⟩⟩
def eF(x:Ri):Ri:=if x.lo.m.length=0 then gw 1 else pE
theorem at5(x:Ri):OkI (eF x):=by
 unfold eF;split
 ·exact Cs ⟨by decide,by decide⟩
 ·exact RM
theorem at6(h:x=cj\/x=bX):R fa8 [aj x,I 40] []=some (aj (eF x),[]):=by
 rcases h with rfl|rfl
 ·exact ai3
 ·exact ai2
def gF(x:Ri)(k:Int):Ri:=mT (eF x) (Dr (min k.toNat 50) 40) 40
theorem afH(x:Ri)(k:Int):OkI (gF x k):=ZO
theorem adf{p:Int}:∀ (n i:Nat) {x:Ri} {q:Rat},i+n<=100->In q x->∃r,In r (J2 p n i x)
 |0,_,_,q,_,h=>⟨q,h⟩
 |n+1,i,x,q,hi,h=>by
  have hz:=vR (n:=(i:Int)) (J3 ω);exact adf n (i+1) ω (jG h (ip hz.1 hz.2))
theorem apb{k:Nat}(hk:k<=50){p:Int}:∃r,In r (Dr k p):=by
 have hz:=vR (n:=1) (J3 (n:=1) ω);exact adf _ _ ω (ip hz.1 hz.2)
theorem afI(x:Ri):In 1 (eF x):=by
 unfold eF;split
 ·have hz:=vR (n:=1) (J3 (n:=1) ω);have:=ip hz.1 hz.2;rw[Wq,rM]at this;rw[show gw 1=du one by unfold gw;rw[Wq]];exact this
 ·have h:uN pE one=true:=by kernel_rfl
  have:=(ZG RM h).1;rwa[rM]at this
theorem Hq(x:Ri)(k:Int):∃q,In q (gF x k):=by
 obtain⟨r,hr⟩:=apb (k:=min k.toNat 50) (p:=40) ω;exact⟨_,M6 (afI x) hr⟩
theorem aym(x:Ri):In 1 (gF x 0):=by
 have hz:=vR (n:=1) (J3 (n:=1) ω);have h1:=ip hz.1 hz.2;rw[Wq,rM]at h1;have h:=M6 (p:=40) (afI x) h1;rw[show(1:Rat)/1=1 by grind]at h;show In 1 (mT (eF x) (Dr 0 40) 40);unfold Dr J2;rw[show gw 1=du one by unfold gw;rw[Wq]];exact h
theorem vm6:VM s6 ⟨xP,cj⟩:=⟨alP,RH GA AT.c AT.v AT.n AT.d ((AQ (m:=0)).i.elim fun _ h=>h.v) AT.r⟩
theorem apc:∃m,R fcg [oj s6,fS ⟨xP,cj⟩] []=some (fS m,[])/\(m=J0 s6 ⟨xP,cj⟩ gF/\(IQ (dL s6 (gZ s6 (gF bX 0))) 40=true->(dL s6 (J0 s6 ⟨xP,cj⟩ gF)).all=false)\/m=gZ s6 (gF bX 0)):=by
 have hc:∀x,x=du (kQ s6 ⟨xP,cj⟩)\/x=dL s6 ⟨xP,cj⟩->∀ (k:Nat),k<=17->∀ (h:ae) (e:Nat),h 1000=.bx (wK s6)->h (2000+8*e)=.dead->bF R (az false) h e [aj x,I k] (.fn fch [] [ac 1000])=some (aj (gF x k),h,[]):=by
  intro x hx k hk h e h0 hd;have hx':x=cj\/x=bX:=by
   rw[alQ,ZX]at hx;exact hx
  have ox:OkI x:=by
   rcases hx' with rfl|rfl
   ·exact⟨aO.2,aO.2⟩
   ·exact Dm.1
  have hR:=ao2 (s:=s6) (k:=k) ox (at5 x) ω (at6 hx');have hg:gF x k=mT (eF x) (Dr k s6.p) s6.p:=by
   unfold gF;rw[aCQ,aDx ω];rfl
  rw[hg];have hh:=LU (f:=fch) (h:=h) (d:=e) (id:=1000) (zas:=[aj x,I k]) (as':=[aj x,I k]) (F1 false) (CD false) (by rw[Nu];simp only[aj,ao,go_sem,aDd,aCT]) rfl rfl h0 (Cr s6) (Cr s6) (fun h=>h) hR (afn _) (aDa rfl) (by show cr h (2000+8*e) 1=true;simp[cr,hd,bU]);rw[ary h0]at hh;exact hh
 obtain⟨m,h1,h2⟩:=arB (s:=s6) (a:=⟨xP,cj⟩) (f:=fch) (g:=gF) (o:=.bx (wK s6)) Hp vm6.ok (Cr s6) afH (fun k=>Hq _ k) hc;refine⟨m,?_,?_⟩
 ·refine au Sl rfl ?_;have hcc:=fun(h:ae) (d:Nat) (hh:h 2=.bx (wK s6)) (hf:h (2000+8*d)=.dead)=>uL (f:=fco) (g:=fch) (h:=h) (d:=d) (id:=2) (zas:=[oj s6,fS ⟨xP,cj⟩]) (as':=[oj s6,fS ⟨xP,cj⟩]) (dv.1.2.1 false) (dv.1.2.2.2 false)
   (by rw[dv.1.1];simp only[go_sem,mf,aDd,aCT]) rfl rfl hh (Cr _) (Cr _) (fun h=>h) h1 (at3 _) (aDa rfl) (by show cr h (2000+8*d) 1=true;simp[cr,hf,bU])
  simp only[aDd,aCT,go_sem]at hcc;simp only[BQ,go_sem];rw[hcc _ _ rfl rfl];simp only[go_sem]
 ·rw[ZX]at h2;rcases h2 with⟨h,_⟩| ⟨_,_,_,h⟩
  ·cases h
  ·exact h
def ldB(m:Nat)(d:Rd):Bool:=Nat.ble (zI d).natAbs (2^ (16384+m))
theorem ZY{m:Nat}{d:Rd}(h:ldB m d=true):Ld m d:=aDa h
theorem at7{m:Nat}(h:Bd m x)(hp:bC p=true)(hm:m+1<16384):IQ x p=true:=by
 obtain⟨n1,n2⟩:=we h.v.1.1;have hl:Ld m (ed x.lo):=by
  have:=h.l;unfold Ld at this⊢;rw[n1,Int.natAbs_neg];exact this
 have:=(TI (up:=true) h.v.2.1 n2 hp hm h.h hl).1;unfold IQ;rw[h.k,hp,this];rfl
theorem at8{s:Rs}{m:Rm}(h:(dL s m).all=false):m.R.all=false:=by
 cases g:m.R.all with
 |false=>rfl
 |true=>
  unfold dL at h;split at h
  ·unfold dq at h;have hk:kI m.R=false:=by
    unfold kI;rw[g];rfl
   rw[hk,aDH,aCO,if_neg aCR]at h;cases h
  ·cases h
theorem ayn:gF bX 0=pE:=by kernel_rfl
theorem ZZ{c:Rd}:∀t∈EA 1 c,t=⟨kL 1,c⟩/\c.m.length≠0:=fun t ht=>by
 unfold EA at ht;split at ht
 ·exact nomatch ht
 ·rename_i h;exact⟨List.mem_singleton.1 ht,h⟩
theorem ai5{c:Rd}:(EA 1 c).length<=1:=by
 unfold EA;split
 ·exact aC7 _
 ·exact aCJ _
theorem apd{c:Rd}(v:vd c=true)(o:Ok0 c)(hr:Cq c 40=true):Fit s6 (Cp 1 c):=by
 have hl:=ai5 (c:=c);refine⟨rfl,aCP hl δ,Ni (v:=1) δ o v,fun t ht=>?_,fun t ht=>?_⟩
 ·rw[(ZZ t ht).1];show bm (kL 1)<=4;decide
 ·rw[(ZZ t ht).1];exact hr
theorem arM(hx:Bd 2 x)(ox:OkI x)(hc:Ld 2 (qO x 40))(hr:Cq (qO x 40) 40=true):Bd 4 (gZ s6 x).R/\IQ (dL s6 (gZ s6 x)) 40=true:=by
 obtain⟨v,o⟩:=yL (p:=40) ox;have e0:gZ s6 x=kP s6 (Cp 1 (qO x 40)) 0 (Co x (du (qO x 40)) 40):=by
  unfold gZ;rw[GA,hx.k,aDv,if_pos rfl];rfl
 have vm:=qz Hp GA ox;generalize qO x 40=c at*
 have hf:=apd v o hr;have e1:gZ s6 x=⟨Cp 1 c,dq (Co x (du c) 40) cj 40⟩:=by
  rw[e0];unfold kP;rw[aoR GA hf,if_pos rfl,if_pos rfl];rfl
 have hn:Bd 2 (HS (du c)):=by
  have h:=acv (ip v o);obtain⟨n1,n2⟩:=we v;have hl:Ld 2 (ed c):=by
   unfold Ld at hc⊢;rw[n1,Int.natAbs_neg];exact hc
  have hk:kI (du c)=true:=afq ⟨_,ip v o⟩ rfl;have e:HS (du c)=⟨ed c,ed c,false⟩:=if_pos hk;have h':In (-(qv c)) (HS (du c)):=h;rw[e]at h'⊢;exact⟨⟨_,h'⟩,rfl,hl,hl⟩
 have hb:Bd 4 (gZ s6 x).R:=by
  rw[e1];exact Ng rfl δ (Ng rfl δ hx hn) AQ
 refine⟨hb,?_⟩;have he:yT s6 [gZ s6 x]=true:=by
  unfold yT;simp[GA,vm.v]
 have hr:=arm (m:=2) Hp GA (q:=Cp 1 c) hf.ok (hf.vp GA) rfl (fun t ht=>by
  rw[(ZZ t ht).1];exact hc) (by have:=hf.n;omega)
 have hl:(Cp 1 c).terms.length<=1:=ai5;have h:=Ng (p:=40) rfl δ (hr.up (by omega:2+(Cp 1 c).terms.length<=4)) hb;have e:(gZ s6 x).P=Cp 1 c:=by rw[e1]
 unfold dL;rw[if_pos he,e];exact at7 h rfl δ
theorem at9:Bd 2 pE:=by
 have h:=afI bX;have e:eF bX=pE:=if_neg δ;rw[e]at h;exact⟨⟨_,h⟩,rfl,ZY κ,ZY κ⟩
theorem amF:Bd 4 (gZ s6 pE).R/\IQ (dL s6 (gZ s6 pE)) 40=true:=
 arM at9 RM (ZY κ) κ
theorem arN{s:Rs}{a:Rm}{g:Ri->Int->Ri}(os:OkS s)(hs:eE s=true)(ha:VM s a)(hg:∀x k,OkI (g x k))(hgi:∀k,∃q,In q (g (dL s a) k)):VM s (J0 s a g):=by
 obtain⟨m1,m2⟩:=yL (x:=dL s a) (p:=s.p) Nk;obtain⟨qb,hqb⟩:=aiR os ha.ok;obtain⟨qg,hqg⟩:=hgi (s.ord+1);have vc:=qz os hs (x:=du (kQ s a)) ⟨m2,m2⟩;exact aiQ hs (ZL os hs (ZK os hs ha vc) (hg _) _ _ (qz os hs (hg _ _))) ⟨_,jG hqg (ZJ (Bo hqb (ip m1 m2)))⟩
theorem arO{cf:Nat->Rat}:∀ (k:Nat) (y:Rat),hv cf 0 (k+1) y=cf 0
 |0,y=>by
  show y*0+cf 0=cf 0;grind
 |k+1,y=>arO k _
theorem ayo:∃m,R fcg [oj s6,fS ⟨xP,cj⟩] []=some (fS m,[])/\VM s6 m/\m.R.all=false/\In 1 (Gu s6 m [cj]):=by
 have hvm:=vm6;have hvv:([aB].map qv)=[0]:=by
  show [qv aB]=_;rw[Ez]
 obtain⟨m,h1,h2⟩:=apc;refine⟨m,h1,?_⟩;clear h1;rw[ayn]at h2;have hx:∀d∈[cj],OkI d/\kI d=true:=fun d hd=>by
  rw[List.mem_singleton.1 hd];exact⟨⟨aO.2,aO.2⟩,(AQ (m:=0)).k⟩
 have q1:=rM;have q2:=acZ;have q0:=Ez;have hz:kO [cj] ([aB].map qv) [0]:=⟨by show qv aB=_;grind[cj],by decide,by decide,trivial⟩;have hu:kO s6.dom ([aB].map qv) [1/2]:=⟨by show qv aB=_;grind[bX],by decide+kernel,by decide+kernel,trivial⟩;rcases h2 with⟨hm,hw⟩|hm
 ·rw[hm];have vm:=arN Hp GA vm6 afH fun k=>Hq _ k;have hd:qy ⟨xP,cj⟩ ([aB].map qv) 0:=by
   have e:fv [0] xP.terms=0:=by
    simp[fv,xP,tX,tP,rN];grind
   have h:=ip aO.1 aO.2;rw[q0]at h;unfold qy;rw[hvv,e,show(0:Rat)-0=0 by grind];exact h
  have ht:=aoZ (cf:=fun j=>if j=0 then 1 else Classical.choose (Hq cj j)) (r:=Classical.choose (Hq bX 5)) Hp GA vm6 afH hu hd (fun j hj=>by
   rw[alQ];show In (if j=0 then 1 else Classical.choose (Hq cj (j:Int))) (gF cj (j:Int));split
   ·rename_i h;rw[h];exact aym cj
   ·exact Classical.choose_spec (Hq cj (j:Int))) (by
   rw[ZX];exact Classical.choose_spec (Hq bX 5))
  refine⟨vm,at8 (hw amF.2),ZH vm.ok hx hz ?_⟩;rw[alQ,q0,show(0:Rat)-0=0 by grind,show s6.ord.toNat=3+1 from rfl,arO]at ht;have e:∀r:Rat,(if(0:Nat)=0 then(1:Rat)else r)+Classical.choose (Hq bX 5)*0^ (3+1+1)=1:=fun r=>by
   rw[if_pos rfl];grind
  rw[e]at ht;exact ht
 ·rw[hm];have vm:=qz Hp GA RM;refine⟨vm,amF.1.a,ZH vm.ok hx hz (IP Hp RM hu ?_)⟩;have h:=afI bX;have e:eF bX=pE:=if_neg δ;rw[e]at h;exact h
theorem ai6:R fbV [] []=some (oj s6,[]):=ayh (e:=cW) [] 60 (fbV,[],oj s6) alO κ
theorem aua{s:ap}{h h':ae}(d k z n qs):iu d (.buildSl k z n qs) s h h'=if(qs.all fun p=>dat (ev s p.2))=true then some ([],[dx d])else none:=θ _
theorem ape:R fci [oj s6,fS ⟨xP,cj⟩] []=some (fS (dV s6),[]):=by
 refine au Ls rfl ?_;have h1:=Hm Hp vm6.ok;have h2:=Pn Dm.1 κ;have h3:=Mk Hp;rw[ZX]at h1;have hs:Kv bX=0:=δ
 rw[hs]at h2;have ha:bX.all=false:=rfl;generalize s6=s at h1 h3⊢;generalize(⟨xP,cj⟩:Rm)=x at h1⊢;generalize dV s=z at h3⊢;generalize bX=u at*
 simp only[aj,ao,ha]at h1 h2;simp only[wm,go_sem,aCZ,aC2,aCV,decide_false,decide_true,h1,h2,h3,mf]
theorem ayp:R fbN [] []=some (B true,[]):=by
 obtain⟨⟨P,⟨lo,hi',al⟩⟩,h1,hv,hR,hi⟩:=ayo;have hR:al=false:=hR;subst hR;obtain⟨m,hm⟩:∃m:Rm,m=⟨P,⟨lo,hi',false⟩⟩:=⟨_,rfl⟩;rw[←hm]at h1 hv hi;have g1:=ai6;have g2:=aoM (s:=s6) (i:=0) Hp;rw[ayi]at g2;have g3:=ZC (x:=[cj]) Hp hv.ok (fun b hb=>by rw[List.mem_singleton.1 hb];exact⟨aO.2,aO.2⟩) δ;have g4:=ab0;have q1:=rM;have g5:=Zr (x:=Gu s6 m [cj]) hi.ok dW.2;rw[Na (by rw[q1];exact hi) dW.1]at g5;have g6:=ape;have g7:=Eb Hp hv.ok;rw[hv.v]at g7;refine au aaH rfl ?_;have hn:(dV s6).R.all=true:=rfl;have e0:bS [cj]=[[B false,lm [],I 0,B false,lm [],I 0,B false]]:=rfl;rw[e0]at g3;generalize Gu s6 m [cj]=v at*
 generalize dV s6=z at*
 obtain⟨zP,⟨zl,zh,za⟩⟩:=z;have hn:za=true:=hn;subst hn;generalize(⟨xP,cj⟩:Rm)=x at*
 generalize s6=s at*
 subst hm;simp only[aj,ao,af,ai]at g1 g2 g3 g4 g5 g6 g7;simp only[FH,go_sem,aCZ,aC2,aCV,decide_false,decide_true,g1,g2,h1,g3,g4,g5,g6,g7,mf,aua]
theorem ai7{f:FuncId}{h:ae}{d:Nat}{zas as':List AV}{o o':Ob}{res:AV}(hm:(az false).m f=[])(hk:(az false).keep f=false)(hn:bA ((az false).sh f) (zas++[ac id])=as'++[ac id])(hd:zas.all dat=true)(hd':as'.all dat=true)
  (hh:h id=o) (ho:OC o) (ho':OC o') (hb:bf o=true->bf o'=true) (hR:R f (as'++[ac 1000]) [o]=some (res,[o'])) (hr:RT res) (h8:cJ res<=8) (hfr:cr h (2000+8*d) (cJ res)=true):
  bF R (az false) h d zas (.fn f [] [ac id])=some (res,upd h id o',[(id,true)]):=by
 have hin:∀l:List AV,l.all dat=true->cu h [] (l++[ac id])=some (l++[ac id],h,[]):=by
  intro l;induction l with
  |nil=>intro _;rfl
  |cons x l ih=>
   intro h2;simp only[aDb,aCK]at h2;simp only[aDd,cu,List.headD_nil,Q8 h2.1,aCN,List.tail_nil,ih h2.2,aCY]
 have h1:=hin zas hd;have hp:bN [] ((zas++[ac id]).flatMap cH)=[id]:=by
  rw[List.flatMap_append,Dh fun x hx=>IC (List.all_eq_true.1 hd x hx)];rfl
 have hre:cp h 40 [id] 0=[id]:=by
  simp[cp,hh,ho.ids,bN]
 have h3:bu [id] id=1000:=by simp[bu]
 have hall:(as'++[ac id]).all (bo [id])=true:=by
  rw[List.all_append,aCK];exact⟨List.all_eq_true.2 fun x hx=>LS (List.all_eq_true.1 hd' x hx) _,by simp[bo,bw]⟩
 have hmap:(as'++[ac id]).map (eG (bu [id]))=as'++[ac 1000]:=by
  rw[List.map_append,(aDk (g:=fun c=>c) fun x hx=>ID (List.all_eq_true.1 hd' x hx) _).trans (aDu as')];simp[eG,lu,h3]
 have hob:([id].map fun a=>eH (bu [id]) (h a))=[o]:=by simp[hh,ho.ren]
 have hids:([id].all fun a=>aF [id] (h a)&&!bU (h a))=true:=by simp[hh,ho.cl,ho.nd]
 unfold bF;rw[if_neg (by simp[lw,hm])];simp only[eM,hm,aCT,h1,aCN,hp,hre,hn];unfold kt;rw[hall,hids,hmap,hob,hR,aDv,if_pos rfl,aCN,hk,hm,wh];unfold fE;have hbf:dh h [] [id] [o']=true:=by
  have:=ho'.nd;cases h5:bf o with
  |false=>simp[dh,hh,h5,this]
  |true=>simp[dh,hh,h5,hb h5,this]
 have hend:oB h [id] [] (res,[o'])=true:=by
  simp[oB,CK,hr.ok,ho'.cl]
 rw[if_pos ⟨rfl,by simp,h8,hfr,hbf,hend⟩];simp[eY,gP,hr.mat,hr.ren,ho'.ren]
section
variable {α:Type} {Frow:α→List AV} {l:List α} {q:α→Bool}
theorem ai8{k:Nat}{g:Bool}{f:FuncId}{o:Ob}(ho:OC o)(hm:(az false).m f=[])(hk:(az false).keep f=false)(hf:afc f o k g Frow l q)(hl:l.length<4611686018427387904):∀ (rest:List α) (n:Nat),l.drop n=rest->n<=l.length->
  ∀ (s:ap) (h:ae),s 0=.sl k (l.map Frow)->s 1=.fn f [] [ac 1000]->s 7=I l.length->s 8=I n->h 1000=o->
   ∃hh,cF (ak 0 [] (av (am R (az false) (l7 k g)) [0,1,7,8] [1000] s h)) (am R (az false) jZ)=some (.ret,⟨upd bk 4 (I (uH q rest n)),hh⟩)/\hh 1000=o:=by
 intro rest;induction rest with
 |nil=>
  intro n hd hn s h h0 h1 h7 h8 h9;have e:n=l.length:=by
   have:=congrArg List.length hd;grind
  subst e;rw[ah];refine⟨?hh0,?_,?_⟩;rotate_left
  ·simp only[l7,jZ,go_sem,h0,h1,h7,h8,h9,ho.cl,aDl,uH];rfl
  ·rfl
 |cons x rest ih=>
  intro n hd hn s h h0 h1 h7 h8 h9;have hlt:n<l.length:=by
   grind
  have hr:l[n]?=some x:=by
   have:=congrArg (·[0]?) hd;grind
  have ih':=ih (n+1) (by rw[←List.drop_drop,hd];rfl) hlt;have e1:((n:Int)< (l.length:Int))=True:=tt;have e2:aZ (l.map Frow) (n:Int)=some (.ipt (Frow x)):=by simp[aZ,hr]
  have e3:aG ((n:Int)+1)=((n+1:Nat):Int):=by grind[i64_in]
  rw[ah];generalize av _ _ _=L at ih'⊢;simp only[uH];obtain⟨a,a',ha,hda,hda',hn2,hc⟩:=hf x (List.mem_of_getElem? hr);have hcc:=fun(h:ae) (d:Nat) (hh:h 1000=o) (hf:h (2000+8*d)=.dead)=>ai7 (f:=f) (h:=h) (d:=d) (id:=1000) (zas:=[a]) (as':=[a']) hm hk (by simpa using hn2) (by simp[hda]) (by simp[hda']) hh ho ho (fun h=>h) hc (LT _) (aDa rfl) (by simp[cr,cJ,hf,bU]);simp only[l7,go_sem,h0,h1,h7,h8,h9,ho.cl,e1,e2,ha];rw[hcc _ _ rfl rfl];cases hp:q x with
  |true=>
   simp only[jZ,go_sem];exact⟨_,rfl,rfl⟩
  |false=>
   simp only[go_sem,h0,h1,h7,h8,e3,aCR];exact ih' _ _ rfl rfl rfl rfl rfl
variable {ci fi:FuncId} {k:Nat} {g:Bool} {cs:List Sh}
theorem apf(S:Src ci fi k g cs){f:FuncId}{o:Ob}(ho:OC o)(hm:(az false).m f=[])(hk:(az false).keep f=false)(hl:l.length<4611686018427387904)(hr:(l.map Frow).map (eP cs)=l.map Frow)(hf:afc f o k g Frow l q):
  R ci [.sl k (l.map Frow),.fn f [] [ac 1000]] [o]=some (B (l.any q),[o]):=by
 have h:R fi [.sl k (l.map Frow),.fn f [] [ac 1000]] [o]=some (I (uH q l 0),[o]):=by
  refine oO S.iE S.iC S.ik rfl ?_;have hL:=ai8 (Frow:=Frow) (q:=q) (k:=k) (g:=g) ho hm hk hf hl l 0 rfl (aC7 _);simp only[go_sem,aef];have hL2:∀ (S:ap) (H:ae) (X:Option (Ex×St)),cF (ak 0 [] (av (am R (az false) (l7 k g)) [0,1,7,8] [1000] S H)) (am R (az false) jZ)=X->S 0=.sl k (l.map Frow)->S 1=.fn f [] [ac 1000]->S 7=I l.length->S 8=I (0:Nat)->H 1000=o->
    ∃hh,X=some (.ret,⟨upd bk 4 (I (uH q l 0)),hh⟩)/\hh 1000=o:=fun S H X hX a b c d e=>by
   rw[←hX];exact hL S H a b c d e
  generalize hX:cF (ak 0 [] (av _ _ [1000] _ _)) (am R (az false) jZ)=X;obtain⟨hh,e,e9⟩:=hL2 _ _ _ hX rfl rfl (by simp only[go_sem,List.length_map]) rfl rfl;rw[e];simp only[go_sem];exact gB rfl e9 (ho.cl _) rfl rfl
 refine oO S.cE S.cC S.ck rfl ?_;have ha:=Jx q l 0;have hc:=fun(h':ae) (d:Nat) (hh:h' 1000=o) (hf:h' (2000+8*d)=.dead)=>uL (f:=fi) (g:=f) (h:=h') (d:=d) (id:=1000) (zas:=[.sl k (l.map Frow)]) (as':=[.sl k (l.map Frow)]) S.im S.ik'
  (by rw[S.ish];simp only[go_sem,hr,aDd,aCT]) rfl rfl hh ho ho (fun h=>h) h (akJ _) (aDa rfl) (by simp[cr,cJ,hf,bU])
 simp only[aDd,aCT]at hc;simp only[Ly,go_sem];rw[hc _ _ rfl rfl];simp only[go_sem,ha];exact gB rfl rfl (ho.cl _) rfl rfl
end
def afJ(m:List Nat):Nat:=if m.length=0 then 0 else 32*(m.length-1)+ag (m.getD (m.length-1) 0)
theorem ai9{m:List Nat}(hb:Lb m)(h:m.length<=1000000):R fdl [lm m] []=some (I (afJ m:Nat),[]):=by
 refine au QF rfl ?_;unfold afJ;by_cases h0:m.length=0
 ·have:m=[]:=List.length_eq_zero_iff.1 h0;subst this;simp only[vU,BS,go_sem,aDs,aDf]
 ·rw[if_neg h0];have e1:((m.length:Int)=0)=False:=ff;have e2:aG ((m.length:Int)-1)=((m.length-1:Nat):Int):=wi;have e3:aG (32*((m.length-1:Nat):Int))=((32*(m.length-1):Nat):Int):=wi;have e4:aZ (aE m) ((m.length-1:Nat):Int)=some (.ipt [U (m.getD (m.length-1) 0:Nat)]):=bI rfl ω;have hx:=bZ hb (m.length-1);have e5:=Uy (m.getD (m.length-1) 0) (32*(m.length-1)) hx (by have:=(bH (k:=32)).2 hx;omega);simp only[vU,BS,go_sem,e1,e2,e3,e4];rw[e5 _ _ rfl rfl];simp only[go_sem]
def afK(d:Rd):Int:=if d.m.length=0 then 0 else IntKind.i64.wrap ((afJ d.m:Nat)+d.e)
theorem alR{d:Rd}(ok:Ok0 d)(h:d.m.length<=1000000):R fdj [af d] []=some (I (afK d),[]):=by
 refine au Ut rfl ?_;unfold afK;by_cases h0:d.m.length=0
 ·have e1:((d.m.length:Int)=0)=True:=tt;rw[if_pos h0];simp only[xW,af,ai,go_sem,e1]
 ·have e1:((d.m.length:Int)=0)=False:=ff;rw[if_neg h0];have hb:=ai9 ok.lb h;simp only[xW,af,ai,go_sem,e1,hb]
def KA(d:Rd):Bool:=if 6<d.m.length then true else if d.e< -200 then true else if 20<afK d then true else !vd d
theorem Mn{d:Rd}(ok:Ok0 d):R fbR [af d] []=some (B (KA d),[]):=by
 refine au Vu rfl ?_;have hl:=ok.len;unfold KA;by_cases g1:6<d.m.length
 ·have e1:((6:Int)< (d.m.length:Int))=True:=tt;rw[if_pos g1];simp only[pf,af,ai,go_sem,e1]
 have e1:((6:Int)< (d.m.length:Int))=False:=ff;rw[if_neg g1];by_cases g2:d.e< -200
 ·have e2:(d.e< -200)=True:=eq_true g2;rw[if_pos g2];simp only[pf,af,ai,go_sem,e1,e2]
 have e2:(d.e< -200)=False:=eq_false g2;rw[if_neg g2];have h1:=alR ok ω;have h2:=mR ok;generalize vd d=v at h2⊢;generalize afK d=t at h1⊢;simp only[af,ai]at h1 h2;by_cases g3:20<t
 ·have e3:(20<t)=True:=eq_true g3;rw[if_pos g3];simp only[pf,af,ai,go_sem,e1,e2,h1,e3]
 have e3:(20<t)=False:=eq_false g3;rw[if_neg g3];simp only[pf,af,ai,go_sem,e1,e2,h1,h2,e3]
noncomputable abbrev bq:Ob:=.bx [.fn fbR [] []]
theorem E7:OC bq:=⟨fun _=>rfl,rfl,fun _=>rfl,rfl⟩
def sa2(x:Ri):Bool:=KA x.lo||KA x.hi
theorem arP(ok:OkI x):R fbS [aj x,ac 1000] [bq]=some (B (sa2 x),[bq]):=by
 refine zZ Vw Vv (FY false) rfl ?_;have h1:=Mn ok.1;have h2:=Mn ok.2;unfold sa2;generalize KA x.lo=a at h1⊢;generalize KA x.hi=b at h2⊢;simp only[af,ai]at h1 h2;cases a
 ·simp only[xY,aj,ao,go_sem,h1,h2];exact gB rfl rfl rfl rfl rfl
 ·simp only[xY,aj,ao,go_sem,h1,h2];exact gB rfl rfl rfl rfl rfl
def Z0(t:Rt):Bool:=decide (10<t.exps.length)||KA t.c
theorem apg(ok:Ok0 t.c):R fbU [.agg (ce t),ac 1000] [bq]=some (B (Z0 t),[bq]):=by
 refine zZ QA Qz (DY false) rfl ?_;have h1:=Mn ok;unfold Z0;generalize KA t.c=a at h1⊢;simp only[af,ai]at h1;by_cases g1:10<t.exps.length
 ·have e1:((10:Int)< (t.exps.length:Int))=True:=tt;rw[decide_eq_true g1];simp only[uq,ce,go_sem,e1,Bool.true_or];exact gB rfl rfl rfl rfl rfl
 ·have e1:((10:Int)< (t.exps.length:Int))=False:=ff;rw[decide_eq_false g1];simp only[uq,ce,go_sem,e1,h1,Bool.false_or];exact gB rfl rfl rfl rfl rfl
def sa3(m:Rm):Bool:=decide (20<m.P.terms.length)|| (KA m.R.lo|| (KA m.R.hi||m.P.terms.any Z0))
theorem arQ{m:Rm}(om:OkM m):R fbT [fS m,ac 1000] [bq]=some (B (sa3 m),[bq]):=by
 refine oO qV.2.1 qV.2.2 (qV.1.2.2.2 false) rfl ?_;have hn:=om.n;unfold sa3;by_cases g:20<m.P.terms.length
 ·have f:(20< (m.P.terms.length:Int))=True:=tt;rw[decide_eq_true g,Bool.true_or];simp only[pg,go_sem,f];exact gB rfl rfl rfl rfl rfl
 have f:(20< (m.P.terms.length:Int))=False:=ff;rw[decide_eq_false g,Bool.false_or];have h1:=Mn om.r.1;have h2:=Mn om.r.2;have h3:=IE amq (Frow:=ce) (l:=m.P.terms) (q:=Z0) E7 (G1 false) (DY false) hn (mf _) fun t ht=>⟨.agg (ce t),.agg (ce t),rfl,rfl,rfl,by rw[OG];simp only[ce,go_sem],apg (om.c t ht)⟩;have h3':=fun(h:ae) (d:Nat) (hh:h 1000=bq) (hf:h (2000+8*d)=.dead)=>uL (f:=fef) (g:=fbU) (h:=h) (d:=d) (id:=1000) (zas:=[.sl 4 (aL m.P.terms)]) (as':=[.sl 4 (aL m.P.terms)]) (br.1.2.1 false) (br.1.2.2.2 false)
  (by rw[br.1.1];simp only[go_sem,mf,aDd,aCT]) rfl rfl hh E7 E7 (fun h=>h) h3 (LT _) (aDa rfl) (by simp[cr,cJ,hf,bU])
 simp only[aDd,aCT,go_sem]at h3';generalize KA m.R.lo=a at h1⊢;generalize KA m.R.hi=b at h2⊢;generalize m.P.terms.any Z0=c at h3'⊢;simp only[af,ai]at h1 h2;cases a
 ·cases b
  ·simp only[pg,go_sem,f,h1,h2];rw[h3' _ _ rfl rfl];simp only[go_sem];exact gB rfl rfl rfl rfl rfl
  ·simp only[pg,go_sem,f,h1,h2];exact gB rfl rfl rfl rfl rfl
 ·simp only[pg,go_sem,f,h1,h2];exact gB rfl rfl rfl rfl rfl
def smR(s:Rs)(l:List Rm):Bool:=if 3<s.dom.length then false else if 6<s.ord then false else if 64<s.p then false else if eE s=false then false else if s.dom.any sa2=true then false else !(l.any sa3)
theorem alS{s:Rs}{l:List Rm}(os:OkS s)(om:∀m∈l,OkM m)(hl:l.length<4611686018427387904):R fbQ [oj s,.sl 9 (U3 l)] []=some (B (smR s l),[]):=by
 refine au aaI rfl ?_;have h0:=alt os;have h1:=IE aq7 (Frow:=ao) (l:=s.dom) (q:=sa2) E7 (Kq false) (FY false) os.n (S6 _) fun x hx=>⟨aj x,aj x,rfl,rfl,rfl,by rw[Sn];simp only[aj,ao,go_sem],arP (os.d x hx)⟩;have h2:=apf aq9 (Frow:=fun m=>tU m) (l:=l) (q:=sa3) E7 (qV.1.2.1 false) (qV.1.2.2.2 false) hl (Nf _) fun m hm=>⟨fS m,fS m,rfl,rfl,rfl,by rw[qV.1.1];simp only[go_sem,mf],arQ (om m hm)⟩;have h1':=fun(h:ae) (d:Nat) (hh:h 5=bq) (hf:h (2000+8*d)=.dead)=>uL (f:=fed) (g:=fbS) (h:=h) (d:=d) (id:=5) (zas:=[.sl 7 (bS s.dom)]) (as':=[.sl 7 (bS s.dom)]) (aI.1.2.1 false) (aI.1.2.2.2 false)
  (by rw[aI.1.1];simp only[go_sem,S6,aDd,aCT]) rfl rfl hh E7 E7 (fun h=>h) h1 (LT _) (aDa rfl) (by simp[cr,cJ,hf,bU])
 have h2':=fun(h:ae) (d:Nat) (hh:h 5=bq) (hf:h (2000+8*d)=.dead)=>uL (f:=fee) (g:=fbT) (h:=h) (d:=d) (id:=5) (zas:=[.sl 9 (U3 l)]) (as':=[.sl 9 (U3 l)]) (bj.1.2.1 false) (bj.1.2.2.2 false)
  (by rw[bj.1.1];simp only[go_sem,Nf,aDd,aCT]) rfl rfl hh E7 E7 (fun h=>h) h2 (LT _) (aDa rfl) (by simp[cr,cJ,hf,bU])
 simp only[aDd,aCT,go_sem]at h1' h2';unfold smR;generalize s.dom.any sa2=b1 at h1'⊢;generalize l.any sa3=b2 at h2'⊢;generalize eE s=v at h0⊢;by_cases g1:3<s.dom.length
 ·have f1:(3< (s.dom.length:Int))=True:=tt;rw[if_pos g1];simp only[mG,go_sem,f1]
 have f1:(3< (s.dom.length:Int))=False:=ff;rw[if_neg g1];by_cases g2:6<s.ord
 ·have f2:(6<s.ord)=True:=eq_true g2;rw[if_pos g2];simp only[mG,go_sem,f1,f2]
 have f2:(6<s.ord)=False:=eq_false g2;rw[if_neg g2];by_cases g3:64<s.p
 ·have f3:(64<s.p)=True:=eq_true g3;rw[if_pos g3];simp only[mG,go_sem,f1,f2,f3]
 have f3:(64<s.p)=False:=eq_false g3;rw[if_neg g3];cases v
 ·rw[if_pos rfl];simp only[mG,go_sem,f1,f2,f3,h0]
 rw[if_neg δ];cases b1
 ·rw[if_neg δ];simp only[mG,go_sem,f1,f2,f3,h0];rw[h1' _ _ rfl rfl];simp only[go_sem];rw[h2' _ _ rfl rfl];simp only[go_sem]
 ·rw[if_pos rfl];simp only[mG,go_sem,f1,f2,f3,h0];rw[h1' _ _ rfl rfl];simp only[go_sem]
abbrev zB6:List AV:=[B false,.emp,I 0,B false,.emp,I 0,B false]
theorem aph{s:Rs}{a:Rm}{x:List Rd}(h1:x.length<=100000):∀ (k i:Nat),i+k=x.length->∀ (S:ap) (h:ae) (X:Option (Ex×St)),ak 0 [3,4,6,7] (av (am R (az false) oT) [3,4,6,7,10,11,12] [3,4,6,20] S h)=X->S 3=ac 3->S 4=ac 4->S 6=ac 6->S 10=eC x->S 11=I x.length->S 12=I i->h 3=.bx (wK s)->h 4=.bx (tU a)->h 6=.bx zB6->arv 20 ((x.take i).map du) (S 7) (h 20)->
  ∃y hh,X=some (.normal,⟨upd (upd (upd (upd bk 7 y) 6 (ac 6)) 4 (ac 4)) 3 (ac 3),hh⟩)/\arv 20 (x.map du) y (hh 20)/\hh 3=.bx (wK s)/\hh 4=.bx (tU a)/\hh 6=.bx zB6/\∀b,b≠3->b≠4->b≠6->b≠20->hh b=.dead:=by
 intro k;induction k with
 |zero=>
  intro i hi S h X hX k3 k4 k6 k10 k11 k12 h3 h4 h6 hacc;have:i=x.length:=ω
  subst this;subst hX;rw[List.take_length]at hacc;rw[ah];rcases hacc with⟨g2,k7,h20⟩| ⟨g2,k7,h20⟩
  ·refine⟨.emp,?hh0,?_,Or.inl ⟨g2,rfl,?_⟩,?_,?_,?_,?_⟩;rotate_left
   ·simp only[oT,eC,go_sem,k3,k4,k6,k7,k10,k11,k12,h3,h4,h6,h20,aDl];rfl
   all_goals first|rfl| (intro b b1 b2 b3 b4;simp only[cB,b1,b2,b3,b4,if_false])
  ·refine⟨.rsl 20 none 7 0 (x.map du).length,?hh1,?_,Or.inr ⟨g2,rfl,?_⟩,?_,?_,?_,?_⟩;rotate_left
   ·simp only[oT,eC,go_sem,k3,k4,k6,k7,k10,k11,k12,h3,h4,h6,h20,aDl];rfl
   all_goals first|rfl| (intro b b1 b2 b3 b4;simp only[cB,b1,b2,b3,b4,if_false])
 |succ k ih=>
  intro i hi S h X hX k3 k4 k6 k10 k11 k12 h3 h4 h6 hacc;have ih':=ih (i+1) ω;have hlt:i<x.length:=ω
  have e1:((i:Int)< (x.length:Int))=True:=tt;have e2:aZ (wG x) (i:Int)=some (.ipt (ai x[i])):=ML rfl (List.getElem?_eq_getElem hlt);have e3:aG ((i:Int)+1)=((i+1:Nat):Int):=wi;have hp:=ahq (d:=x[i]);have q1:(((x.take i).map du).length+1)*88<=140737488355328:=by rw[List.length_map,aCW];omega
  have f3:=tt q1;have et:(x.take (i+1)).map du=(x.take i).map du++[du x[i]]:=by rw[List.take_succ_eq_append_getElem hlt,List.map_append];rfl
  rw[et]at ih';subst hX;rw[ah];generalize av _ _ _=L at ih'⊢;generalize x[i]=d at e2 hp ih';generalize(x.take i).map du=out at hacc q1 f3 ih'⊢;rw[show du d=⟨d,d,false⟩from rfl]at ih';simp only[aj,ao,af,ai]at e2 hp;rcases hacc with⟨rfl,k7,h20⟩| ⟨g2,k7,h20⟩
  ·simp only[oT,eC,go_sem,k3,k4,k6,k7,k10,k11,k12,h3,h4,h6,h20,e1,e2,e3,hp];exact ih' _ _ _ rfl rfl rfl rfl rfl rfl rfl rfl rfl rfl (Or.inr ⟨by simp,rfl,rfl⟩)
  ·simp only[oT,eC,go_sem,k3,k4,k6,k7,k10,k11,k12,h3,h4,h6,h20,e1,e2,e3,hp,f3,true_or,aCI,aCJ];refine ih' _ _ _ rfl rfl rfl rfl rfl rfl rfl rfl rfl rfl (Or.inr ⟨by simp,?_,?_⟩)<;>simp[cB,bS,ao]
theorem alT{s:Rs}{a:Rm}{x:List Rd}(os:OkS s)(oa:OkM a)(ox:∀d∈x,Ok0 d)(h1:x.length<=100000):R fbM [oj s,fS a,eC x] []=some (aj (Gu s a (x.map du)),[]):=by
 refine au ajZ rfl ?_;have hL:=aph (s:=s) (a:=a) h1 x.length 0 (aCI _);have hE:=ZC (x:=x.map du) os oa (fun b hb=>by
  obtain⟨d,hd,rfl⟩:=List.mem_map.1 hb;exact⟨ox d hd,ox d hd⟩) (by rw[List.length_map];exact h1)
 generalize hLL:av (am R (az false) oT)=L at hL;have hX:∀s h,am R (az false) (.loop [3,4,6,7,10,11,12] [3,4,6,20] oT) s h=L [3,4,6,7,10,11,12] [3,4,6,20] s h:=fun s h=>by rw[←hLL];rfl
 simp only[Lc,Xx,eC,go_sem,hX,am4];generalize hB:ak 0 [3,4,6,7] (L _ _ _ _)=X;obtain⟨y,hh,e,hacc,q3,q4,q6,q9⟩:=hL _ _ _ hB rfl rfl rfl rfl rfl rfl rfl rfl rfl (Or.inl ⟨by rw[List.take_zero];rfl,rfl,rfl⟩);rw[e];generalize Gu s a (x.map du)=v at hE⊢;simp only[aj,ao]at hE;have hn:∀b,b≠3->b≠4->b≠6->b≠20->hh b=.dead:=q9;rcases hacc with⟨g2,rfl,h20⟩| ⟨g2,rfl,h20⟩
 ·rw[g2]at hE;simp only[bS,aDh]at hE;simp only[go_sem,q3,q4,q6,h20,hE,aj,ao,hn,ne_eq,not_false_eq_true]
 ·have htk:List.take (x.map du).length (bS (x.map du))=bS (x.map du):=aCX (by simp[bS]);simp only[go_sem,q3,q4,q6,h20,hE,aj,ao,hn,ne_eq,not_false_eq_true,aCI,aCJ,htk]
def afL(pk:List Nat)(i:Nat):Int:=if i<pk.length then IntKind.i64.wrap (pk.getD i 0:Nat)else 0
def EM(pk:List Nat)(x:Ri)(i:Nat):Rd:=if(afL pk i).tmod 3=0 then x.lo else if(afL pk i).tmod 3=1 then x.hi else qO x 40
abbrev Z3(pk:List Nat):Ob:=.bx [.sl 1 (Og pk)]
theorem amG(pk:List Nat):OC (Z3 pk):=⟨fun _=>rfl,rfl,fun _=>rfl,rfl⟩
theorem arS{i:Nat}(ox:OkI x):R fbP [aj x,I i,ac 1000] [Z3 pk]=some (af (EM pk x i),[Z3 pk]):=by
 refine zZ Vz Vy (FZ false) rfl ?_;have hm:=Zz (p:=40) ox;unfold EM;generalize hw:afL pk i=w;unfold afL at hw;generalize qO x 40=m at hm⊢;simp only[aj,ao,af,ai]at hm;by_cases g:i<pk.length
 ·have f:((i:Int)< (pk.length:Int))=True:=tt;have e2:aZ (Og pk) (i:Int)=some (.ipt [.v (.int .u8 (pk.getD i 0:Nat))]):=aoT rfl g;rw[if_pos g]at hw;by_cases g0:w.tmod 3=0
  ·rw[if_pos g0];have f0:=eq_true g0;simp only[pi,aj,ao,af,ai,go_sem,aCZ,aC2,aCV,decide_false,decide_true,f,e2,hw,f0];exact gB rfl rfl rfl rfl (by simp only[go_sem])
  rw[if_neg g0];have f0:=eq_false g0;by_cases g1:w.tmod 3=1
  ·rw[if_pos g1];have f1:=eq_true g1;simp only[pi,aj,ao,af,ai,go_sem,aCZ,aC2,aCV,decide_false,decide_true,f,e2,hw,f0,f1];exact gB rfl rfl rfl rfl (by simp only[go_sem])
  rw[if_neg g1];have f1:=eq_false g1;simp only[pi,aj,ao,af,ai,go_sem,aCZ,aC2,aCV,decide_false,decide_true,f,e2,hw,f0,f1,hm];exact gB rfl rfl rfl rfl (by simp only[go_sem])
 ·have f:((i:Int)< (pk.length:Int))=False:=ff;rw[if_neg g]at hw;subst hw;rw[if_pos δ];simp only[pi,aj,ao,af,ai,go_sem,f,Int.zero_tmod,aCZ,aC2,aCV,decide_false,decide_true];exact gB rfl rfl rfl rfl (by simp only[go_sem])
def Ct(pk:List Nat)(dom:List Ri)(n:Nat):List Rd:=(List.range n).map fun i=>EM pk (dom.getD i cS) i
theorem alU{n:Nat}(h:n<dom.length):Ct pk dom (n+1)=Ct pk dom n++[EM pk dom[n] n]:=by
 unfold Ct;rw[List.range_succ,List.map_append,aDc,aDh];simp[h]
theorem TR{n:Nat}:(Ct pk dom n).length=n:=by simp[Ct]
theorem ajc{i:Nat}(ox:OkI x):Ok0 (EM pk x i):=by
 unfold EM;split
 ·exact ox.1
 ·split
  ·exact ox.2
  ·exact(yL ox).2
theorem aub(d:Rd):RT (af d):=⟨fun _=>rfl,fun _ _=>rfl,fun _=>rfl⟩
theorem adg{i:Nat}(ox:OkI x)(h:ae)(d:Nat)(hh:h 5=Z3 pk)(hf:h (2000+8*d)=.dead):bF R (az false) h d [aj x,I i] (.fn fbP [] [ac 5])=some (af (EM pk x i),upd h 5 (Z3 pk),[]):=
 LU (f:=fbP) (h:=h) (d:=d) (id:=5) (zas:=[aj x,I i]) (as':=[aj x,I i]) (Kr false) (FZ false) (by rw[So];simp only[aj,ao,go_sem,aDd,aCT]) rfl rfl hh (amG pk) (amG pk) (fun h=>h) (arS ox) (aub _) (aDa rfl) (by
  show cr h (2000+8*d) 1=true;simp[cr,hf,bU])
abbrev zB3:List AV:=[B false,.emp,I 0]
theorem api{s:Rs}{a:Rm}{pk:List Nat}(os:OkS s)(h1:s.dom.length<=100000):∀ (k i:Nat),i+k=s.dom.length->∀ (S:ap) (h:ae) (X:Option (Ex×St)),ak 0 [3,4,7,8,9] (av (am R (az false) jW) [3,4,7,8,9,14,15,16] [3,4,5,7,27] S h)=X->S 3=ac 3->S 4=ac 4->S 7=ac 7->S 8=.fn fbP [] [ac 5]->S 14=.sl 7 (bS s.dom)->S 15=I s.dom.length->S 16=I i->h 3=.bx (wK s)->h 4=.bx (tU a)->h 5=Z3 pk->h 7=.bx zB3->arn 27 (Ct pk s.dom i) (S 9) (h 27)->
  ∃y hh,X=some (.normal,⟨upd (upd (upd (upd (upd bk 9 y) 8 (.fn fbP [] [ac 5])) 7 (ac 7)) 4 (ac 4)) 3 (ac 3),hh⟩)/\arn 27 (Ct pk s.dom s.dom.length) y (hh 27)/\hh 3=.bx (wK s)/\hh 4=.bx (tU a)/\hh 5=Z3 pk/\hh 7=.bx zB3/\∀b,b≠3->b≠4->b≠5->b≠7->b≠27->hh b=.dead:=by
 intro k;induction k with
 |zero=>
  intro i hi S h X hX k3 k4 k7 k8 k14 k15 k16 h3 h4 h5 h7 hacc;have:i=s.dom.length:=ω
  subst this;subst hX;rw[ah];rcases hacc with⟨g2,k9,h27⟩| ⟨g2,k9,h27⟩
  ·refine⟨.emp,?hh0,?_,Or.inl ⟨g2,rfl,?_⟩,?_,?_,?_,?_,?_⟩;rotate_left
   ·simp only[jW,go_sem,k3,k4,k7,k8,k9,k14,k15,k16,h3,h4,h5,h7,h27,aDl];rfl
   all_goals first|rfl| (intro b b1 b2 b3 b4 b5;simp only[cB,b1,b2,b3,b4,b5,if_false])
  ·refine⟨.rsl 27 none 3 0 (Ct pk s.dom s.dom.length).length,?hh1,?_,Or.inr ⟨g2,rfl,?_⟩,?_,?_,?_,?_,?_⟩;rotate_left
   ·simp only[jW,go_sem,k3,k4,k7,k8,k9,k14,k15,k16,h3,h4,h5,h7,h27,aDl];rfl
   all_goals first|rfl| (intro b b1 b2 b3 b4 b5;simp only[cB,b1,b2,b3,b4,b5,if_false])
 |succ k ih=>
  intro i hi S h X hX k3 k4 k7 k8 k14 k15 k16 h3 h4 h5 h7 hacc;have ih':=ih (i+1) ω;have hlt:i<s.dom.length:=ω
  have e1:((i:Int)< (s.dom.length:Int))=True:=tt;have e2:aZ (bS s.dom) (i:Int)=some (.ipt (ao s.dom[i])):=Bc rfl (List.getElem?_eq_getElem hlt);have e3:aG ((i:Int)+1)=((i+1:Nat):Int):=wi;have hcc:=adg (i:=i) (pk:=pk) (os.d _ (aC0 hlt));have q1:((Ct pk s.dom i).length+1)*40<=140737488355328:=by rw[TR];omega
  have f3:=tt q1;rw[alU hlt]at ih';subst hX;rw[ah];generalize av _ _ _=L at ih'⊢;generalize s.dom[i]=x at e2 hcc ih';generalize Ct pk s.dom i=out at hacc q1 f3 ih'⊢;generalize EM pk x i=d at hcc ih';simp only[aj,ao,af,ai]at e2 hcc;rcases hacc with⟨rfl,k9,h27⟩| ⟨g2,k9,h27⟩
  ·simp only[jW,go_sem,k3,k4,k7,k8,k9,k14,k15,k16,h3,h4,h5,h7,h27,e1,e2,e3];rw[hcc _ _ rfl rfl];simp only[go_sem,k3,k4,k7,k8,k9,k14,k15,k16,h3,h4,h5,h7,h27,e1,e2,e3];exact ih' _ _ _ rfl rfl rfl rfl rfl rfl rfl rfl rfl rfl rfl rfl (Or.inr ⟨by simp,rfl,rfl⟩)
  ·simp only[jW,go_sem,k3,k4,k7,k8,k9,k14,k15,k16,h3,h4,h5,h7,h27,e1,e2,e3];rw[hcc _ _ rfl rfl];simp only[go_sem,k3,k4,k7,k8,k9,k14,k15,k16,h3,h4,h5,h7,h27,e1,e2,e3,f3,true_or,aCI,aCJ];refine ih' _ _ _ rfl rfl rfl rfl rfl rfl rfl rfl rfl rfl rfl rfl (Or.inr ⟨by simp,?_,?_⟩)<;>simp[cB,wG,ai]
theorem alV{s:Rs}{a:Rm}(os:OkS s)(oa:OkM a)(h1:s.dom.length<=100000):R fbO [oj s,fS a,.sl 1 (Og pk)] []=some (.tup [eC (Ct pk s.dom s.dom.length),af (EM pk a.R s.dom.length)],[]):=by
 refine au aaJ rfl ?_;have hL:=api (a:=a) (pk:=pk) os h1 s.dom.length 0 (aCI _);have hcc:=adg (i:=s.dom.length) (pk:=pk) oa.r;generalize hLL:av (am R (az false) jW)=L at hL;have hX:∀s h,am R (az false) (.loop [3,4,7,8,9,14,15,16] [3,4,5,7,27] jW) s h=L [3,4,7,8,9,14,15,16] [3,4,5,7,27] s h:=fun s h=>by rw[←hLL];rfl
 simp only[FI,NU,go_sem,hX];generalize hB:ak 0 [3,4,7,8,9] (L _ _ _ _)=X;obtain⟨y,hh,e,hacc,q3,q4,q5,q7,hn⟩:=hL _ _ _ hB rfl rfl rfl rfl rfl rfl rfl rfl rfl rfl rfl (Or.inl ⟨rfl,rfl,rfl⟩);rw[e];generalize Ct pk s.dom s.dom.length=out at hacc⊢;generalize EM pk a.R s.dom.length=v at hcc⊢;simp only[aj,ao,af,ai]at hcc;rcases hacc with⟨rfl,rfl,h27⟩| ⟨g2,rfl,h27⟩
 ·simp only[go_sem,q3,q4,q5,q7,h27];rw[hcc _ _ q5 (hn _ δ δ δ δ δ)];simp only[go_sem,q3,q4,q5,q7,h27,eC,af,ai,wG,aDh]
 ·have htk:List.take out.length (wG out)=wG out:=aCX (by simp[wG]);simp only[go_sem,q3,q4,q5,q7,h27];rw[hcc _ _ q5 (hn _ δ δ δ δ δ)];simp only[go_sem,q3,q4,q5,q7,h27,aCI,aCJ,htk,eC,af,ai]
theorem afM{i:Nat}(ox:OkI x)(hk:kI x=true):uN x (EM pk x i)=true/\vd (EM pk x i)=true:=by
 obtain⟨ha,h1,h2⟩:=Hl hk;obtain⟨q,hq⟩:=E5 ox (by unfold kI at hk;grind);have hv:=hq.vi;have hl:uN x x.lo=true:=Na (Or.inr ⟨ha,hv,Rat.le_refl,amx hk⟩) h1;have hh:uN x x.hi=true:=Na (Or.inr ⟨ha,hv,amx hk,Rat.le_refl⟩) h2;unfold EM;split
 ·exact⟨hl,h1⟩
 ·split
  ·exact⟨hh,h2⟩
  ·refine⟨?_,(yL ox).1⟩;unfold qO;rw[hk,if_pos δ];split
   ·split
    ·split
     ·assumption
     ·exact hl
    ·exact hl
   ·exact hl
theorem aje:∀ {ds:List Ri} {xs:List Rd},(∀i (h1:i<ds.length) (h2:i<xs.length),uN ds[i] xs[i]=true)->ptB ds xs=true
 |[],[],_=>rfl
 |[],_::_,_=>rfl
 |_::_,[],_=>rfl
 |d::ds,x::xs,h=>by
  show(uN d x&&ptB ds xs)=true;have h0:uN d x=true:=h 0 σ σ;rw[h0,aje fun i h1 h2=>h (i+1) (by simpa using h1) (by simpa using h2)];rfl
theorem aue{s:Rs}(os:OkS s)(hs:eE s=true):ptR s (Ct pk s.dom s.dom.length)=true:=by
 unfold ptR;rw[TR,decide_eq_true rfl,aCM];refine aje fun i h1 h2=>?_;have e:(Ct pk s.dom s.dom.length)[i]=EM pk s.dom[i] i:=by
  unfold Ct;simp[h1]
 rw[e];exact(afM (os.d _ (aC0 h1)) (Mh os hs _ (aC0 h1)).k).1
theorem auf{s:Rs}{pk:List Nat}(os:OkS s)(hs:eE s=true):∀d∈Ct pk s.dom s.dom.length,vd d=true/\Ok0 d:=by
 intro d hd;unfold Ct at hd;obtain⟨i,hi,rfl⟩:=List.mem_map.1 hd;have hi:=List.mem_range.1 hi;have e:s.dom.getD i cS=s.dom[i]:=by simp[hi]
 rw[e];exact⟨(afM (os.d _ (aC0 hi)) (Mh os hs _ (aC0 hi)).k).2,ajc (os.d _ (aC0 hi))⟩
theorem Z5:∀xs:List Rd,kO (xs.map du) (xs.map qv) (aCG xs.length 0)
 |[]=>trivial
 |x::xs=>⟨by show qv x=qv x+(qv x-qv x)*0;grind,by decide,by decide,Z5 xs⟩
theorem arU{a:Rm}{x:List Rd}{r:Rd}:vd (Gv a x r).1=true:=by
 unfold Gv;split
 ·exact(Iy _ _).1
 ·exact(Pt _ _).1
theorem ayq:Ed 1=one:=by kernel_rfl
def gJ(p:Int)(x:Ri)(k:Int):Ri:=if k.toNat%2=1 then HS (mT (gw 1) (IN x (k.toNat+1) p) p)else mT (gw 1) (IN x (k.toNat+1) p) p
theorem av4(ok:OkI x){n:Nat}:OkI (IN x n p):=by
 unfold IN;split
 ·exact Ff ok
 ·exact tG
theorem ac0(p:Int)(x:Ri)(k:Int):OkI (gJ p x k):=by
 unfold gJ;split
 ·exact anR ZO
 ·exact ZO
theorem aAJ{s:Rs}{k:Nat}(ox:OkI x)(hk:k<=20):R fcj [aj x,I k,ac 1000] [.bx (wK s)]=some (aj (gJ s.p x k),[.bx (wK s)]):=by
 refine zZ acF ab2 (aaa false) rfl ?_;have h1:=PP (n:=1) ⟨by decide,by decide⟩;have o1:OkI (gw 1):=Cs ⟨by decide,by decide⟩;have h2:=at4 ox (p:=s.p) (n:=k+1) ω;have h3:=M0 o1 (av4 ox (n:=k+1) (p:=s.p)) (p:=s.p);have w1:aG ((k:Int)+1)=((k+1:Nat):Int):=wi;have w2:(k:Int).tmod 2=((k%2:Nat):Int):=by
  rw[Int.tmod_eq_emod_of_nonneg ω];rfl
 unfold gJ;rw[aCQ];have od:OkI (mT (gw 1) (IN x (k+1) s.p) s.p):=ZO;generalize mT (gw 1) (IN x (k+1) s.p) s.p=y at h3 od⊢;have h4:=anS od;generalize IN x (k+1) s.p=q at h2 h3;generalize gw 1=o at h1 h3;generalize HS y=ny at h4⊢;simp only[aj,ao]at h1 h2 h3 h4;by_cases g:k%2=1
 ·rw[if_pos g];have f:(((k%2:Nat):Int)=1)=True:=tt;simp only[abk,aj,ao,go_sem,aCZ,aC2,aCV,decide_false,decide_true,w1,w2,h1,h2,h3,h4,f];exact gB rfl rfl rfl rfl (by simp only[go_sem])
 ·rw[if_neg g];have f:(((k%2:Nat):Int)=1)=False:=ff;simp only[abk,aj,ao,go_sem,aCZ,aC2,aCV,decide_false,decide_true,w1,w2,h1,h2,h3,f];exact gB rfl rfl rfl rfl (by simp only[go_sem])
theorem ada{p q w:Rat}{z:Ri}(hp:In p z)(hq:In q z)(h1:p<=w)(h2:w<=q):In w z:=by
 rcases hp with h| ⟨a,v,l,_⟩
 ·exact Or.inl h
 ·rcases hq with h| ⟨_,_,_,r⟩
  ·exact Or.inl h
  ·exact Or.inr ⟨a,v,aEi l h1,aEi h2 r⟩
def sgq(k:Nat):Rat:=if k%2=1 then-1 else 1
theorem acJ(k:Nat):sgq (k+1)=-sgq k:=by
 unfold sgq;by_cases h:k%2=1
 ·rw[if_pos h,if_neg ω];grind
 ·rw[if_neg h,if_pos ω]
theorem adb{k:Nat}{w:Rat}(h:In w (IN x (k+1) p)):In (sgq k*(1/w)) (gJ p x k):=by
 have h1:In 1 (gw 1):=by
  have:=ip dW.1 dW.2;rw[rM]at this;unfold gw du;rw[ayq];exact this
 have h2:=M6 (p:=p) h1 h;unfold gJ sgq;rw[aCQ];split
 ·have:=acv h2;rwa[show(-1:Rat)*(1/w)=-(1/w)by grind]
 ·rwa[show(1:Rat)*(1/w)=1/w by grind]
theorem aAK{c d u:Rat}(hu:u=c+d)(c0:c≠0)(u0:u≠0):∀ (k:Nat) (y:Rat),hv (fun j=>sgq j*(1/c^ (j+1))) d k y=1/u-sgq k*(d^k/c^k)/u+y*d^k:=by
 intro k;induction k with
 |zero=>
  intro y;show y=_;unfold sgq;rw[if_neg δ];grind
 |succ k ih=>
  intro y;show hv _ d k (y*d+sgq k*(1/c^ (k+1)))=_;rw[ih,acJ,aEh,aEh];have hc:c^k≠0:=by
   clear ih;induction k with
   |zero=>grind
   |succ k ih=>
    rw[aEh];grind
  generalize c^k=A at*
  generalize d^k=D at*
  generalize sgq k=S at*
  subst hu;have hA:A*c≠0:=γ
  have e1:1/ (A*c)=(1/A)*(1/c):=γ
  grind
theorem aAL(ox:OkI x)(hk:kI x=true)(hp:bC p=true):uN x (qO x p)=true:=by
 obtain⟨ha,h1,h2⟩:=Hl hk;obtain⟨q,hq⟩:=E5 ox (by unfold kI at hk;grind);have hl:uN x x.lo=true:=Na (Or.inr ⟨ha,hq.vi,Rat.le_refl,amx hk⟩) h1;unfold qO;rw[hk,hp,if_pos δ];split
 ·split
  ·split
   ·assumption
   ·exact hl
  ·exact hl
 ·exact hl
theorem amn{x:Rat}(h:0<=x):∀n:Nat,0<=x^n
 |0=>by
  rw[Rat.pow_zero];decide
 |n+1=>by
  rw[aEh];exact Rat.mul_nonneg (amn h n) h
theorem av0{a c u:Rat}{n:Nat}(h0:0<=a)(h1:a<=c)(h2:a<=u):a^ (n+1)<=c^n*u:=by
 rw[aEh];exact aEi (aDB (L6 h0 h1 n) h0) (Rat.mul_le_mul_of_nonneg_left h2 (amn (aEi h0 h1) n))
theorem av1{b c u:Rat}{n:Nat}(h0:0<=c)(h3:0<=u)(h1:c<=b)(h2:u<=b):c^n*u<=b^ (n+1):=by
 rw[aEh];exact aEi (aDB (L6 h0 h1 n) h3) (Rat.mul_le_mul_of_nonneg_left h2 (amn (aEi h0 h1) n))
theorem afS(x:Rat):∀n:Nat,(-x)^n=sgq n*x^n
 |0=>by
  unfold sgq;rw[if_neg δ];grind
 |n+1=>by
  rw[aEh,afS x n,acJ,aEh];grind
theorem aB5(n:Nat):sgq n=1\/sgq n=-1:=by
 unfold sgq;split
 ·exact Or.inr rfl
 ·exact Or.inl rfl
theorem afW(v:VI x)(hs:¬Kv x=0):0<qv x.lo\/qv x.hi<0:=by
 unfold Kv at hs;by_cases g1:0<cX x.lo
 ·exact Or.inl ((JU v.1.1).1.1 g1)
 ·by_cases g2:cX x.hi<0
  ·exact Or.inr ((JU v.2.1).2.1 g2)
  omega
theorem aB6{c u:Rat}{n:Nat}(hc:In c x)(hu:In u x)(ha:x.all=false)(hs:¬Kv x=0):In (c^n*u) (IN x (n+1) p):=by
 rcases hc with h| ⟨_,v,c1,c2⟩
 ·rw[h]at ha;cases ha
 rcases hu with h| ⟨_,_,u1,u2⟩
 ·rw[h]at ha;cases ha
 have il:In (qv x.lo^ (n+1)) (IN x (n+1) p):=ZJ (Or.inr ⟨ha,v,Rat.le_refl,aEi c1 c2⟩);have ih:In (qv x.hi^ (n+1)) (IN x (n+1) p):=ZJ (Or.inr ⟨ha,v,aEi c1 c2,Rat.le_refl⟩);have sd:=afW v hs;generalize qv x.lo=l at*
 generalize qv x.hi=h at*
 rcases sd with g|g
 ·exact ada il ih (av0 γ c1 u1) (av1 γ γ c2 u2)
 ·have k1:=av0 (a:=-h) (c:=-c) (u:=-u) (n:=n) γ γ γ;have k2:=av1 (b:=-l) (c:=-c) (u:=-u) (n:=n) γ γ γ γ;rw[afS,afS]at k1 k2;rw[acJ]at k1 k2;have e:sgq n*c^n*-u=-sgq n*(c^n*u):=γ
  rw[e]at k1 k2;generalize c^n*u=w at*
  rcases aB5 n with q|q
  ·rw[q]at k1 k2;exact ada il ih γ γ
  ·rw[q]at k1 k2;exact ada ih il γ γ
theorem aBR{c d u:Rat}(hu:u=c+d)(c0:c≠0)(u0:u≠0)(n:Nat):hv (fun j=>sgq j*(1/c^ (j+1))) d n (sgq n*(1/c^ (n+1)))+sgq (n+1)*(1/ (c^ (n+1)*u))*d^ (n+1)=1/u:=by
 have e:=aAK hu c0 u0 (n+1) 0;have e2:hv (fun j=>sgq j*(1/c^ (j+1))) d (n+1) 0=hv (fun j=>sgq j*(1/c^ (j+1))) d n (sgq n*(1/c^ (n+1))):=by
  show hv _ d n (0*d+sgq n*(1/c^ (n+1)))=_;congr 1;grind
 rw[←e2,e];generalize d^ (n+1)=D;generalize c^ (n+1)=C;generalize sgq (n+1)=S;grind
theorem aBS{s:Rs}{a:Rm}{xs:List Rd}{ts:List Rat}{u:Rat}(os:OkS s)(hs:eE s=true)(ha:VM s a)(hpt:kO s.dom (xs.map qv) ts)(hu:qy a (xs.map qv) u)(hB:(dL s a).all=false)(hsg:¬Kv (dL s a)=0):
  u≠0/\qy (J0 s a (gJ s.p)) (xs.map qv) (1/u)/\qy (gZ s (gJ s.p (dL s a) 0)) (xs.map qv) (1/u):=by
 have hb:=arw os ha.ok hpt hu;obtain⟨m1,m2⟩:=yL (p:=s.p) hb.ok;have hcB:In (qv (kQ s a)) (dL s a):=(ZG hb.ok (aAL hb.ok (afq ⟨u,hb⟩ hB) (fP hs).2)).1;have sides:∀ {w:Rat},In w (dL s a)->w≠0:=fun{w} h=>by
  rcases h with h| ⟨_,v,l,r⟩
  ·rw[h]at hB;cases hB
  ·rcases afW v hsg with g|g<;>grind
 have u0:=sides hb;have c0:=sides hcB;have hn:((s.ord.toNat:Nat):Int)=s.ord:=by
  unfold eE at hs;simp only[aCK,decide_eq_true_eq]at hs;omega
 have hr:=adb (k:=s.ord.toNat+1) (aB6 (n:=s.ord.toNat+1) (p:=s.p) hcB hb hB hsg);rw[show((s.ord.toNat+1:Nat):Int)=s.ord+1 by omega]at hr;have ht:=aoZ (g:=gJ s.p) (cf:=fun j=>sgq j*(1/qv (kQ s a)^ (j+1))) os hs ha (ac0 s.p) hpt hu (fun j _=>adb (ZJ (ip m1 m2))) hr;have hz:=adb (k:=0) (ZJ (n:=0+1) (p:=s.p) hb);refine⟨u0,?_,?_⟩
 ·have e:=aBR (c:=qv (kQ s a)) (d:=u-qv (kQ s a)) (u:=u) γ c0 u0 s.ord.toNat;rw[←e];exact ht
 ·refine IP os (ac0 _ _ _) hpt ?_;have e:sgq 0*(1/u^ (0+1))=1/u:=by
   unfold sgq;rw[if_neg δ];grind
  rwa[e]at hz
theorem amv{s:Rs}{a:Rm}(os:OkS s)(hs:eE s=true)(ha:VM s a):∃m,R fci [oj s,fS a] []=some (fS m,[])/\VM s m/\(m=dV s\/∀ {xs:List Rd} {ts:List Rat} {u:Rat},kO s.dom (xs.map qv) ts->qy a (xs.map qv) u->u≠0/\qy m (xs.map qv) (1/u)):=by
 have h1:=Hm os ha.ok;have okb:=Nk (s:=s) (a:=a);have h3:=Mk os;have kB:=fun h=>Pn (x:=dL s a) okb h;obtain⟨q0,hq0⟩:=aiR os ha.ok;cases hB:(dL s a).all with
 |true=>
  refine⟨dV s,au Ls rfl ?_,Fn hs,Or.inl rfl⟩;generalize dL s a=b at*
  generalize dV s=z at*
  simp only[aj,ao,hB]at h1;simp only[wm,go_sem,aCZ,aC2,aCV,decide_false,decide_true,h1,h3,mf]
 |false=>
 have kb:=afq ⟨q0,hq0⟩ hB;have h2:=kB kb;by_cases hg:Kv (dL s a)=0
 ·refine⟨dV s,au Ls rfl ?_,Fn hs,Or.inl rfl⟩;rw[hg]at h2;generalize dL s a=b at*
  generalize dV s=z at*
  simp only[aj,ao,hB]at h1 h2;simp only[wm,go_sem,aCZ,aC2,aCV,decide_false,decide_true,h1,h2,h3,mf]
 ·have hgi:∀k,∃q,In q (gJ s.p (dL s a) k):=fun k=>by
   have h:=adb (k:=k.toNat) (ZJ (n:=k.toNat+1) (p:=s.p) hq0);unfold gJ at h⊢;rw[aCQ]at h;exact⟨_,h⟩
  have hc:∀x,x=du (kQ s a)\/x=dL s a->∀ (k:Nat),k<=17->∀ (h:ae) (e:Nat),h 1000=.bx (wK s)->h (2000+8*e)=.dead->bF R (az false) h e [aj x,I k] (.fn fcj [] [ac 1000])=some (aj (gJ s.p x k),h,[]):=by
   intro x hx k hk h e h0 hd;have ox:OkI x:=by
    rcases hx with rfl|rfl
    ·exact⟨(yL okb).2,(yL okb).2⟩
    ·exact okb
   have hh:=LU (f:=fcj) (h:=h) (d:=e) (id:=1000) (zas:=[aj x,I k]) (as':=[aj x,I k]) (Jo false) (aaa false) (by rw[abD];simp only[aj,ao,go_sem,aDd,aCT]) rfl rfl h0 (Cr s) (Cr s) (fun h=>h) (aAJ ox ω) (afn _) (aDa rfl) (by
    show cr h (2000+8*e) 1=true;simp[cr,hd,bU])
   rw[ary h0]at hh;exact hh
  obtain⟨m,g1,g2⟩:=arB (s:=s) (a:=a) (f:=fcj) (g:=gJ s.p) (o:=.bx (wK s)) os ha.ok (Cr s) (ac0 s.p) hgi hc;refine⟨m,?_,?_,Or.inr ?_⟩
  ·refine au Ls rfl ?_;have hcc:=fun(h:ae) (d:Nat) (hh:h 2=.bx (wK s)) (hf:h (2000+8*d)=.dead)=>uL (f:=fco) (g:=fcj) (h:=h) (d:=d) (id:=2) (zas:=[oj s,fS a]) (as':=[oj s,fS a]) (dv.1.2.1 false) (dv.1.2.2.2 false)
    (by rw[dv.1.1];simp only[go_sem,mf,aDd,aCT]) rfl rfl hh (Cr _) (Cr _) (fun h=>h) g1 (at3 _) (aDa rfl) (by show cr h (2000+8*d) 1=true;simp[cr,hf,bU])
   simp only[aDd,aCT,go_sem]at hcc;have f2:=eq_false hg;generalize Kv (dL s a)=sg at*
   generalize dL s a=b at*
   simp only[aj,ao,hB]at h1 h2;simp only[wm,go_sem,aCZ,aC2,aCV,decide_false,decide_true,h1,h2,f2];rw[hcc _ _ rfl rfl];simp only[go_sem,aCZ,aC2,aCV,decide_false,decide_true]
  ·rcases g2 with⟨h,_⟩| ⟨_,_,_,⟨rfl,_⟩|rfl⟩
   ·rw[hB]at h;cases h
   ·exact arN os hs ha (ac0 s.p) hgi
   ·exact qz os hs (ac0 _ _ _)
  ·intro xs ts u hpt hu;obtain⟨d1,d2,d3⟩:=aBS os hs ha hpt hu hB hg;rcases g2 with⟨h,_⟩| ⟨_,_,_,⟨rfl,_⟩|rfl⟩
   ·rw[hB]at h;cases h
   ·exact⟨d1,d2⟩
   ·exact⟨d1,d3⟩
theorem aB7{s:Rs}{q:Rp}{e:Int}:(kP s q e cS).R=cS:=by
 unfold kP;split
 ·split
  ·simp[dq,aB3]
  ·rfl
 ·rfl
theorem amw{s:Rs}{a b:Rm}(h:a.R=cS\/b.R=cS):(AR s a b).R=cS:=by
 unfold AR;split
 ·have e:EB s.p (dt (mU a.P s.dom s.p) b.R s.p) [dt (mU b.P s.dom s.p) a.R s.p,dt a.R b.R s.p]=cS:=by
   rcases h with h|h<;>rw[h]<;>simp[EB,dq,dt,aB3]
  rw[e];exact aB7
 ·rfl
theorem av2{m:Rm}{xs:List Rat}{w:Rat}(h:m.R=cS):qy m xs w:=Or.inl h
theorem aui{s:Rs}{a b m:Rm}(os:OkS s)(ob:OkM b)(om:OkM m)(h:R fci [oj s,fS a] []=some (fS m,[])):R fev [oj s,fS b,fS a] []=some (fS (if b.R.all=true then dV s else AR s b m),[]):=by
 refine au acH rfl ?_;have h1:=Mk os;have h2:=acT os ob om;cases g:b.R.all with
 |true=>
  rw[if_pos rfl];generalize dV s=z at*
  simp only[abl,go_sem,aCZ,aC2,aCV,decide_false,decide_true,h1,g,mf]
 |false=>
  rw[if_neg δ];generalize AR s b m=z at*
  simp only[fS,tU,g]at h2;simp only[abl,go_sem,aCZ,aC2,aCV,decide_false,decide_true,h,h2,g,mf]
theorem avE{s:Rs}{a b:Rm}{pk:List Nat}(haw:R fbN [] []=some (B true,[]))(os:OkS s)(oa:OkM a)(ob:OkM b):R feu [oj s,fS a,fS b,.sl 1 (Og pk)] []=some (B true,[]):=by
 refine au abG rfl ?_;have hg:=alS os (l:=[a,b]) (two oa ob) σ;simp only[aDc,aDh]at hg;cases g0:smR s [a,b]with
 |false=>
  rw[g0]at hg;simp only[abj,go_sem,haw,hg]
 |true=>
 rw[g0]at hg;have hv:=Eb os oa;cases g1:vO s a with
 |false=>
  rw[g1]at hv;simp only[abj,go_sem,haw,hg,hv]
 |true=>
 rw[g1]at hv;have hw:=Eb os ob;cases g2:vO s b with
 |false=>
  rw[g2]at hw;simp only[abj,go_sem,haw,hg,hv,hw]
 |true=>
 rw[g2]at hw;have hs:eE s=true:=by
  unfold vO at g1;simp only[aCK]at g1;exact g1.1
 have hs8:=(fP hs).1;have hl:s.dom.length<=100000:=ω
 have h1:=alV (pk:=pk) os ob hl;have ox:=auf (pk:=pk) os hs;obtain⟨ts,hpt⟩:=at2 os hs (aue (pk:=pk) os hs);have lx:(Ct pk s.dom s.dom.length).length<=100000:=by rw[TR];exact hl
 have hR:b.R.all=false->uN b.R (EM pk b.R s.dom.length)=true:=fun h=>(afM ob.r (by
  have:=(ge ob g2).2.2.2;unfold kI;rw[this,h];rfl)).1
 have or:=ajc (pk:=pk) (i:=s.dom.length) ob.r;generalize Ct pk s.dom s.dom.length=x at*
 generalize EM pk b.R s.dom.length=r at*
 have va:VM s a:=⟨oa,g1⟩;have vb:VM s b:=⟨ob,g2⟩;obtain⟨m,h2,vm,hm⟩:=amv os hs va;have h3:=acT os oa vm.ok;have vp:=Gw os hs va vm;have h4:=aui os ob vm.ok h2;have h5:=alT os vp.ok (fun d hd=>(ox d hd).2) lx;have vq:VM s (if b.R.all=true then dV s else AR s b m):=by
  split
  ·exact Fn hs
  ·exact Gw os hs vb vm
 have h6:=acT os vq.ok oa;have vQ:=Gw os hs vq va;have h7:=alT os vQ.ok (fun d hd=>(ox d hd).2) lx;have ok2:∀d∈x.map du,OkI d/\kI d=true:=fun d hd=>by
  obtain⟨y,hy,rfl⟩:=List.mem_map.1 hd;exact⟨⟨(ox y hy).2,(ox y hy).2⟩,afq ⟨_,ip (ox y hy).1 (ox y hy).2⟩ rfl⟩
 obtain⟨t,ht⟩:=J1 va;have hu:qy a (x.map qv) (fv (x.map qv) a.P.terms+t):=by
  unfold qy;have e:fv (x.map qv) a.P.terms+t-fv (x.map qv) a.P.terms=t:=γ
  rwa[e]
 generalize fv (x.map qv) a.P.terms+t=u at hu;have d1:qy (AR s a m) (x.map qv) 1:=by
  rcases hm with rfl|hm
  ·exact av2 (amw (Or.inr rfl))
  ·obtain⟨u0,hi⟩:=hm hpt hu;have:=acY os va.ok vm.ok hpt hu hi;rwa[show u*(1/u)=1 by grind]at this
 have i1:=ZH (s:=s) vp.ok ok2 (Z5 x) d1;have h8:=Zr i1.ok dW.2;rw[Na (by rw[rM];exact i1) dW.1]at h8;have h9:=afy (m:=b) (ge ob g2).1 (fun d hd=>(ox d hd).2) lx or;have hval:=@at1 b x r;have oval:=aru b x r;have vval:=@arU b x r;generalize Gv b x r=w at h9 hval oval vval;obtain⟨v,w2⟩:=w;simp only at h9 hval oval vval;have e1:=ab0;have i2:w2=true->b.R.all=false->uN (Gu s (AR s (if b.R.all=true then dV s else AR s b m) a) (x.map du)) v=true:=fun hw2 hb=>by
  rw[if_neg (by rw[hb];decide)];have hvd:qy b (x.map qv) (qv v):=by
   unfold qy;rw[hval hw2];have:=(ZG ob.r (hR hb)).1;have e:fv (x.map qv) b.P.terms+qv r-fv (x.map qv) b.P.terms=qv r:=γ
   rwa[e]
  rw[if_neg (by rw[hb];decide)]at vQ;have d2:qy (AR s (AR s b m) a) (x.map qv) (qv v):=by
   rcases hm with rfl|hm
   ·exact av2 (amw (Or.inl (amw (Or.inr rfl))))
   ·obtain⟨u0,hi⟩:=hm hpt hu;have:=acY os (Gw os hs vb vm).ok va.ok hpt (acY os vb.ok vm.ok hpt hvd hi) hu;rwa[show qv v*(1/u)*u=qv v by grind]at this
  exact Na (ZH (s:=s) vQ.ok ok2 (Z5 x) d2) vval
 have oe:OkI (Gu s (AR s (if b.R.all=true then dV s else AR s b m) a) (x.map du)):=av3;have h10:=Zr oe oval;clear hval d1 i1 hu hm vQ vq vp;generalize Gu s (AR s (if b.R.all=true then dV s else AR s b m) a) (x.map du)=y2 at*
 generalize AR s (if b.R.all=true then dV s else AR s b m) a=q2 at*
 generalize(if b.R.all=true then dV s else AR s b m)=q1 at*
 generalize Gu s (AR s a m) (x.map du)=y1 at*
 generalize AR s a m=p1 at*
 generalize one=o at*
 simp only[af,ai,eC,aj,ao]at h1 e1 h5 h7 h8 h9 h10;cases g3:b.R.all with
 |true=>
  simp only[fS,tU,g3]at hw hg h1 h4 h9;simp only[abj,eC,go_sem,aCZ,aC2,aCV,decide_false,decide_true,haw,hg,hv,hw,g3,h1,h2,h3,h4,h5,h6,h7,e1,h8,h9]
 |false=>
  simp only[fS,tU,g3]at hw hg h1 h4 h9;cases w2 with
  |false=>
   simp only[abj,eC,go_sem,aCZ,aC2,aCV,decide_false,decide_true,haw,hg,hv,hw,g3,h1,h2,h3,h4,h5,h6,h7,e1,h8,h9]
  |true=>
   rw[i2 rfl g3]at h10;simp only[abj,eC,go_sem,aCZ,aC2,aCV,decide_false,decide_true,haw,hg,hv,hw,g3,h1,h2,h3,h4,h5,h6,h7,e1,h8,h9,h10]
noncomputable def HT:Env:=⟨fun f=>Wi.lookup f,cW.C,cW.md⟩
noncomputable def R0:jt:=iw HT
theorem IR{f:FuncId}{fd:FD}{args:List AV}{hs:List Ob}{r:AV×List Ob}(hE:HT.E f=none)(hC:HT.C f=some fd)(hk:HT.md.keep f=false)(h1:args.length=fd.np)(h2:hs.length<=1000)
  (hz:kj false fd.rs fd.res hs.length (am R0 (az false) fd.body (wk args) (ax hs))=some r):R0 f args hs=some r:=by
 refine K9 hE hC ?_;unfold Xr;rw[if_pos ⟨h1,h2⟩,hk];exact hz
theorem Cu(o:Ob):ax [o]=upd (fun _=>.dead) 1000 o:=by
 funext i;unfold ax upd;by_cases h:i=1000
 ·subst h;rfl
 ·rw[if_neg h];split
  ·rw[List.getElem?_eq_none (by simp;omega)];rfl
  ·rfl
theorem alX{r:List AV}{rs:List (List AV)}(h:(rs.length+1)*8<=140737488355328):R0 fd8 [.sl 1 (r::rs)] []=some (.osl 1 (r::rs),[]):=by
 refine IR (fd:=pS) κ κ κ rfl δ ?_;have e1:((rs.length+1)*8<=140737488355328)=True:=eq_true h;have e2:Mq false (.sl 1 (r::rs))=some (B false):=rfl;simp only[pS,go_sem,e1,e2,aDp,aDs,aCI,aC7,aCJ,true_and,true_or,aCT]
theorem alY:fA 4 .emp (some (I 0)) none none=some .emp:=rfl
theorem apk{r:List AV}:R0 feq [.emp,I 0,.sl 4 [r]] []=some (.osl 4 [r],[]):=by
 refine IR (fd:=bG) κ κ κ rfl δ ?_;have e1:((1:Int)=0)=False:=δ
 simp only[bG,go_sem,alY,aDp,aDs,Int.natCast_one,e1,aCI]
theorem Ds{n i:Nat}(h:i<=n):lP n (some (I i)) none none=some (i,n):=by
 simp only[lP,lG,aCN];rw[if_pos ⟨by omega,by omega⟩];rfl
theorem ajg{k l0 n i:Nat}(h:i<=n):fA k (.rsl id none k l0 n) (some (I i)) none none=some (.rsl id none k (l0+i) (n-i)):=by
 simp only[fA,if_true,Ds h,aDt,Option.isNone_none]
theorem TT{h:ae}{j k n:Nat}(hj:bt j=false)(hh:h j=.ar k rows)(hn:n=rows.length)(hc:aF [1000] (h 1000)=true):yU [[]] 1 h [.rsl j none k 0 n]=some (.osl k rows,[h 1000]):=by
 subst hn;have hp:dD 1=[1000]:=rfl;unfold yU;rw[if_pos]
 ·simp[xT,uj,oE,hj,hh,Ef,Ac,bA,nrmV,nrmL,hp]
 ·simp[hp,hc,mF,cH,gL,hj]
theorem ajh{r:List AV}{n:Nat}(hn:n=rows.length)(hb:(n+1)*64<=140737488355328):R0 feq [.rsl 1000 none 4 0 n,I n,.sl 4 [r]] [.ar 4 rows]=some (.osl 4 (rows++[r]),[.dead]):=by
 refine IR (fd:=bG) κ κ κ rfl σ ?_;subst hn;rw[Cu];have e1:((1:Int)=0)=False:=δ
 have e2:=ajg (id:=1000) (k:=4) (l0:=0) (aCJ rows.length);have e3:((rows.length+1)*64<=140737488355328)=True:=eq_true hb;have e4:(rows.length+1<=rows.length)=False:=ff;have e5:∀h,Om h 25 4 64 1000 4 0 rows.length [r] 4 rows=dA (upd h 1000 .dead) 25 4 (rows++[r]) (rows.length+1) [(1000,false)]:=fun h=>by
  simp only[Om,List.length_singleton];rw[if_neg ω,if_pos ⟨trivial,trivial,trivial,trivial,hb⟩]
 simp only[bG,go_sem,aDp,aDs,Int.natCast_one,e1,e2,e3,e4,e5,aCI,aDm,Nat.sub_self,or_self,aCJ,aDA];exact TT rfl rfl σ rfl
theorem arV{f:FuncId}{g:List AV->List Ob->Option (AV×List Ob)}{args:List AV}{hs:List Ob}(hE:HT.E f=some g):R0 f args hs=g args hs:=Jc hE
theorem apl{h:ae}{d:Nat}{r:List AV}{lo m:Nat}(hh:h 1000=.ar 4 rows)(hd:h (2000+8*d)=.dead):
  bF R0 (az false) h d [.sl 4 [r],.rsl 1000 none 4 lo m] (.fn fes [] [])=some (B false,upd h 1000 (.ar 4 rows),[(1000,true)]):=by
 have hm:(az false).m fes=[0,1]:=by kernel_rfl
 have hs:(az false).sh fes=[]:=by kernel_rfl
 have hk:(az false).keep fes=false:=by kernel_rfl
 have hf:R0 fes [.sl 4 [r],.rsl 1000 none 4 lo m] [.ar 4 rows]=some (B false,[.ar 4 rows]):=by
  rw[arV (g:=ovF 4) κ];simp[ovF]
 have hb:lw (az false) [.sl 4 [r],.rsl 1000 none 4 lo m] (.fn fes [] [])=false:=by
  simp[lw,hm]
 have hr:cp h 40 [1000] 0=[1000]:=by
  simp[cp,hh,nE,bN]
 have hn:cJ (B false)=1:=rfl;unfold bF;rw[if_neg (by rw[hb];exact aCR)];have h1:cu h [0,1] [.sl 4 [r],.rsl 1000 none 4 lo m]=some ([.sl 4 [r],.rsl 1000 none 4 lo m],h,[]):=by
  simp[cu,ef,yM,gW,aJ]
 have h2:bN [] ([AV.sl 4 [r],.rsl 1000 none 4 lo m].flatMap cH)=[1000]:=by
  simp[cH,gL,bN]
 have h3:bu [1000] 1000=1000:=rfl;simp only[eM,hm,aCT,aCY,h1,aCN,h2,hr,hs];simp[kt,bA,bo,bw,hh,aF,bU,eG,lu,h3,eH,hf,fE,hn,cr,hd,dh,bf,oB,CK,ub,gL,kr,gx,GG,eY,mat,eJ,gP,hk,Hu,hm]
theorem U9{k l0 n i:Nat}:fA k (.rsl id none k l0 n) (some (I i)) none none=(lP n (some (I i)) none none).map fun p=>.rsl id none k (l0+p.1) (p.2-p.1):=by
 simp only[fA,if_true,Option.isNone_none]
theorem aji{n c i:Nat}(h:i<=c):lG n c (some (I i))=some i:=by
 simp only[lG];rw[if_pos ⟨by omega,by omega⟩];rfl
theorem apm{r:List AV}{n i:Nat}(hn:n=rows.length)(hi:i<n)(hb:(n+1)*64<=140737488355328):
  R0 feq [.rsc 1000 4 0 n n,I i,.sl 4 [r]] [.ar 4 rows]=some (.osl 4 (rows.take i++r::rows.drop i),[.ar 4 rows]):=by
 refine IR (fd:=bG) κ κ κ rfl σ ?_;rw[Cu];have e1:((1:Int)=0)=False:=δ
 have e2:((i:Int)=(n:Int))=False:=ff;have e3:aG ((n:Int)+1)=((n+1:Nat):Int):=wi;have e4:((n:Int)< ((n+1:Nat):Int))=True:=tt;have e5:aG (((n+1:Nat):Int)- (i:Int))=((n+1-i:Nat):Int):=wi;have e6:aG ((i:Int)+1)=((i+1:Nat):Int):=wi;have b1:=Ds (n:=n) (i:=i) ω;have b2:=aji (n:=n) (c:=n) (i:=i) ω;have b3:=Ds (n:=n+1) (i:=i) ω;have b4:=Ds (n:=n+1) (i:=i+1) ω;have f1:((0:Int)< ((n+1-i:Nat):Int))=True:=tt;have f2:(n<i+((n+1-i:Nat):Int).toNat)=True:=tt;have f3:i+((n+1-i:Nat):Int).toNat=n+1:=ω
 have f4:(i<=rows.length)=True:=tt;have f5:((n+1)*64<=140737488355328)=True:=eq_true hb;have f6:(n<n+1)=True:=tt;obtain⟨A,hA⟩:∃A,rows.take i++aCG ((n+1-i:Nat):Int).toNat [AV.emp,B false,AV.emp,I 0]=A:=⟨_,rfl⟩;have a1:A.length=n+1:=by rw[←hA,aDA,aCW,aDK];omega
 have a2:A.take i=rows.take i:=by
  rw[←hA,List.take_append_of_le_length (by rw[aCW];omega),aCX (by rw[aCW];omega)]
 have a3:(i<=A.length)=True:=tt;obtain⟨D,hD⟩:∃D,A.take i++[r]++A.drop (i+1)=D:=⟨_,rfl⟩;have d1:D.length=n+1:=by
  rw[←hD,aDA,aDA,aCW,aDL,List.length_singleton];omega
 have d2:D.take (i+1)=rows.take i++[r]:=by
  rw[←hD,a2,List.take_append_of_le_length (by rw[aDA,aCW,List.length_singleton];omega),aCX (by rw[aDA,aCW,List.length_singleton];omega)]
 have d3:(i+1<=D.length)=True:=tt;have t1:List.take (n+1-i) [r]=[r]:=aCX (by rw[List.length_singleton];omega);have t2:(rows.drop i).take (n-i)=rows.drop i:=aCX (by rw[aDL];omega);have t3:(1=min 1 (n+1-i))=True:=tt;have t4:n+1- (i+1)=n-i:=ω
 have t5:(i+(n-i)<=rows.length)=True:=tt;have t6:(rows.drop i).length=n-i:=by rw[aDL];omega
 have t7:D.drop (i+1+(n-i))=[]:=aC3 ω;simp only[bG,go_sem,aDp,aDs,Int.natCast_one,e1,e2,e3,e4,e5,e6,b1,b2,b3,b4,f1,f2,f3,f4,f5,f6,hA,hD,a3,d3,t1,t2,t3,t4,t5,t6,t7,Nat.min_self,aCI,aDm,Nat.sub_self,or_self,aCJ,U9,and_self];rw[d2];have hfin:rows.take i++[r]++rows.drop i=rows.take i++r::rows.drop i:=by rw[aDr];rfl
 rw[hfin];exact TT rfl rfl (by rw[aDA,aCW,aDp,aDL];omega) rfl
theorem apn{r:List AV}{n i c:Nat}(hn:n=rows.length)(hi:i<n)(hc:n+1<=c)(hb:(n+1)*64<=140737488355328):
  R0 feq [.rsc 1000 4 0 n c,I i,.sl 4 [r]] [.ar 4 rows]=some (.osl 4 (rows.take i++r::rows.drop i),[.dead]):=by
 refine IR (fd:=bG) κ κ κ rfl σ ?_;rw[Cu];have e1:((1:Int)=0)=False:=δ
 have e2:((i:Int)=(n:Int))=False:=ff;have e3:aG ((n:Int)+1)=((n+1:Nat):Int):=wi;have e4:((c:Int)< ((n+1:Nat):Int))=False:=ff;have e6:aG ((i:Int)+1)=((i+1:Nat):Int):=wi;have b1:=Ds (n:=n) (i:=i) ω;have b2:=aji (n:=n) (c:=c) (i:=n+1) hc;have b3:=Ds (n:=n+1) (i:=i) ω;have b4:=Ds (n:=n+1) (i:=i+1) ω;have o1:=fun(h:ae) (h0:h 1000=.ar 4 rows) (h1:h (2000+8*67)=.dead)=>apl (r:=r) (lo:=i+1) (m:=n-i) h0 h1;have t1:List.take (n+1-i) [r]=[r]:=aCX (by rw[List.length_singleton];omega);have t2:(rows.drop i).take (n-i)=rows.drop i:=aCX (by rw[aDL];omega);have t3:(1=min 1 (n+1-i))=True:=tt;have t4:n+1- (i+1)=n-i:=ω
 have t5:(i+(n-i)<=rows.length)=True:=tt;have t6:(rows.drop i).length=n-i:=by rw[aDL];omega
 have t8:min (n-i) (n+1-i)=n-i:=ω
 have t9:(n-i=min (n+1-i) (n-i))=True:=tt;have f4:(i+1<=rows.length)=True:=tt;have t7:rows.drop (i+1+(n-i))=[]:=aC3 ω;obtain⟨A,hA⟩:∃A,rows.take (i+1)++rows.drop i=A:=⟨_,rfl⟩;have a1:A.length=n+1:=by
  rw[←hA,aDA,aCW,aDL];omega
 have a2:A.take i=rows.take i:=by
  rw[←hA,List.take_append_of_le_length (by rw[aCW];omega),List.take_take,aDx ω]
 have a4:A.drop (i+1)=rows.drop i:=by
  rw[←hA,List.drop_append_of_le_length (by rw[aCW];omega),aC3 (by rw[aCW];omega),aCT]
 have a3:(i<=A.length)=True:=tt;simp only[bG,go_sem,aDp,aDs,Int.natCast_one,e1,e2,e3,e4,e6,b1,b2,b3,b4,t4,aCI];rw[o1 _ rfl rfl];simp only[go_sem,aDp,aDs,Int.natCast_one,e1,e2,e3,e4,e6,b1,b2,b3,b4,t1,t2,t3,t4,t5,t6,t7,t8,t9,f4,a3,hA,aCI,aDm,Nat.sub_self,or_self,aCJ,U9,and_self];rw[a2,a4,show rows.take i++[r]++rows.drop i=rows.take i++r::rows.drop i by rw[aDr];rfl];exact TT rfl rfl (by rw[aDA,aCW,aDp,aDL];omega) rfl
def amH:Ren:=⟨fun|28=>268|n=>n,fun|25=>110|27=>109|53=>243|n=>n,fun n=>n⟩
theorem ajj:Lays7.n28 Tryz.prog amH where
 mixed:=by kernel_rfl
 f28:=by kernel_rfl
 t0:=by kernel_rfl
 a0:=Tryz.isAgg0
 z0:=Tryz.sizeOf0
 v0:=Tryz.zeroValue0
 i0:=by kernel_rfl
 t3:=by kernel_rfl
 a3:=Tryz.isAgg3
 z3:=Tryz.sizeOf3
 v3:=Tryz.zeroValue3
 i3:=by kernel_rfl
 t4:=by kernel_rfl
 a4:=Tryz.isAgg4
 z4:=Tryz.sizeOf4
 v4:=Tryz.zeroValue4
 i4:=by kernel_rfl
 t5:=by kernel_rfl
 a5:=Tryz.isAgg5
 z5:=Tryz.sizeOf5
 v5:=Tryz.zeroValue5
 i5:=by kernel_rfl
 t25:=by kernel_rfl
 a25:=Tryz.isAgg110
 z25:=Tryz.sizeOf110
 v25:=Tryz.zeroValue110
 i25:=by kernel_rfl
 t27:=by kernel_rfl
 a27:=Tryz.isAgg109
 z27:=Tryz.sizeOf109
 v27:=Tryz.zeroValue109
 i27:=by kernel_rfl
 t53:=by kernel_rfl
 a53:=Tryz.isAgg243
 z53:=Tryz.sizeOf243
 v53:=Tryz.zeroValue243
 i53:=by kernel_rfl
 g0:=by kernel_rfl
def Mo:Inv where
 p w _:=TabAt 0 Lib.deBruijn32tab w
 stab:=fun{w w' X} h hs j hj=>by rw[rg (hs 0 (.inr rfl))];exact h j hj
 more:=fun h _=>h
theorem adh:∀ (k x:Nat),Lib.ctzFrom k x=Us k x
 |0,x=>rfl
 |k+1,x=>by
  unfold Lib.ctzFrom Us;rw[adh k (x/2),Nat.add_comm]
set_option maxRecDepth 100000 in
theorem amI:si Tryz.prog Mo false fao tzF:=by
 intro args obs obs' res w X ρ vals n hz hn hi hr hs hv;unfold tzF at hz;split at hz
 ·rename_i x;by_cases hc:0<x/\x<4294967296/\obs=[]
  ·rw[if_pos hc]at hz;obtain⟨h0,h1,rfl⟩:=hc;simp only[Option.some.injEq,Prod.mk.injEq]at hz;obtain⟨rfl,rfl⟩:=hz;have hv0:=hv 0 (.v (.int .u32 x)) (vals.getD 0 undef) rfl (by simp at hs;simp[Array.getD_eq_getD_getElem?,hs]);have e0:vals=#[.int .u32 x]:=by
    simp only[aDp,aDs]at hs;have:=hv0.v_inv.1;apply Array.ext
    ·simpa using hs
    ·intro i h2 h3;have:i=0:=by simp at h3;exact h3
     subst this;simpa [Array.getD_eq_getD_getElem?,hs]using this
   subst e0;obtain⟨m,rfl⟩:∃m:Nat,x=m:=⟨x.toNat,by omega⟩;have key:=Any7.bits_TrailingZeros32 ajj m ω w fun _=>hi;have he:(callFunc fao #[.int .u32 (m:Int)]).run Tryz.prog w=.ok (.enter fao #[.int .u32 (m:Int)]) w:=(enters_of (ajj.f28) κ rfl:Proofs.Enters Tryz.prog (amH.f 28)) _ _;unfold Enters;rw[he];refine Calls.mono key fun e w' hw=>?_;obtain⟨rfl,rfl⟩:=hw;refine⟨ρ,hr,.refl _ _ _ _,?_⟩;refine .dat ?_;have:Lib.ctz 32 m=Us 32 m:=by
    unfold Lib.ctz;rw[if_neg ω,adh]
   simp only[this,aCQ,mat,eJ];exact .v _ rfl
  ·rw[if_neg hc]at hz;cases hz
 ·cases hz
end Go.Ab
