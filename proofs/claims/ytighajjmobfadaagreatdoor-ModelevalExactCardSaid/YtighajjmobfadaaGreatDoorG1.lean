/-
  A law of tapes on models holds at every input that the statement speaks of, under the conditions that its card names. Part G1.
-/
import Derived.Test.YtighajjmobfadaaGreatDoorProg
import Derived.Shelf.Spec.TrailingZeros
import Derived.Test.YtighajjmobfadaaGreatDoorRows
import Derived.OpenShut
import Derived.Deep.Strs
import Derived.ProofKit
import Derived.LaidMore
import Derived.Carry
import Derived.Lib.Overlaps
import Derived.Laws.Externs
import Derived.Shelf.Slices.Clone
import Derived.Test.YtighajjmobfadaaGreatDoorF1
open Nat renaming add_assoc → az0, add_zero → azA, div_add_mod → azV, le_of_ble_eq_true → azJ, le_refl → ayZ, le_trans → ay3, lt_of_le_of_lt → azt, lt_of_lt_of_le → azY, min_eq_left → azS, mod_eq_of_lt → azL, mul_assoc → azq, mul_comm → azl, mul_le_mul_left → azR, mul_le_mul_right → ay7, pow_add → azc, pow_le_pow_right → azD, pow_succ → azO, sub_self → az2, two_pow_pos → aze, zero_add → ayX, zero_le → azH
open Int renaming eq_ofNat_of_zero_le → az4, lt_irrefl → azI, reduceEq → azf, reduceLE → azh, reduceLT → aza, toNat_natCast → ay4
open Bool renaming and_eq_true → ay1, and_false → az3, and_self → azs, and_true → az1, false_and → ay6, false_eq_true → azK, false_ne_true → ay9, true_and → ay5
open List renaming all_cons → azm, all_nil → azX, append_assoc → azB, append_nil → azb, cons_append → azM, drop_eq_getElem_cons → azj, drop_eq_nil_of_le → azi, drop_zero → azZ, getElem_mem → azo, length_append → azr, length_cons → azp, length_drop → azQ, length_map → azW, length_nil → azx, length_replicate → azU, length_take → azd, map_congr_left → azy, map_cons → azv, map_id' → azN, map_nil → azF, mem_map → azP, nil_append → ay8, replicate → ayW, take_of_length_le → azg
open Option renaming bind_eq_some_iff → ayY, bind_some → ay2, map_eq_some_iff → ay0, map_some → azE
set_option linter.all false
namespace Go.Ab
open Go Go.IntWalk Go.Proofs Go.Shelf Go.ChangeShapes Go.WideShapes Go.Deep Go.RowKit Go.Proofs.Tryz
set_option maxRecDepth 100000
set_option maxHeartbeats 16000000
theorem Cl.filter{v:Int}{l:List Rt}(h:Cl v l)(p:Rt->Bool):Cl v (l.filter p):=⟨fun t ht=>h.t t (List.mem_filter.1 ht).1,h.s.filter p⟩
theorem af8{a:Rp}{o:Int}(oa:OkP a):(Cl (lH a o).1.vars (lH a o).1.terms/\(lH a o).1.terms.length<=100000)/\(Cl (lH a o).2.vars (lH a o).2.terms/\(lH a o).2.terms.length<=100000):=by
 unfold lH;cases va:vp a with
 |false=>
  rw[if_neg ay9];exact⟨⟨Cl.nil _,by decide⟩,⟨Cl.nil _,by decide⟩⟩
 |true=>
  obtain⟨ka,a0,a8,al⟩:=jZ oa va;exact⟨⟨ka.filter _,by grind⟩,⟨ka.filter _,by grind⟩⟩
theorem aa4{v p:Int}:∀ {ts:List Rt} {q:List Rt×List Rt},Cl v ts->Dz p ts=some q->(Cl v q.1/\q.1.length<=ts.length/\∀y∈q.1,∃t∈ts,y.exps=t.exps)/\(Cl v q.2/\q.2.length<=ts.length/\∀y∈q.2,∃t∈ts,y.exps=t.exps)
 |[],q,_,h=>by
  cases h;grind
 |t::ts,q,c,h=>by
  obtain⟨vt,ht,c2⟩:=c.cons;unfold Dz at h;split at h
  ·split at h
   ·rw[ay0]at h;obtain⟨q2,h2,rfl⟩:=h;obtain⟨⟨k1,k2,k3⟩,⟨k4,k5,k6⟩⟩:=aa4 c2 h2;have key:∀ {d:Rd} {l:List Rt},vd d=true->Ok0 d->Cl v l->l.length<=ts.length->(∀y∈l,∃t∈ts,y.exps=t.exps)->Cl v (dO t.exps d l)/\(dO t.exps d l).length<=(t::ts).length/\∀y∈dO t.exps d l,∃q∈t::ts,y.exps=q.exps:=by
     intro d l vdd od cl hl hy;unfold dO;split
     ·refine⟨cl,by simp;omega,fun y h=>?_⟩;obtain⟨q,hq,he⟩:=hy y h;exact⟨q,by simp[hq],he⟩
     ·rename_i h0;refine⟨Cl.mk' (vt.put od vdd h0) (fun y h=>?_) cl,by simp;omega,fun y h=>?_⟩
      ·obtain⟨q,hq,he⟩:=hy y h;rw[he];exact ht q hq
      ·rcases List.mem_cons.1 h with rfl|h
       ·exact⟨t,by simp,rfl⟩
       ·obtain⟨q,hq,he⟩:=hy y h;exact⟨q,by simp[hq],he⟩
    exact⟨key (Oz _ _).1 (Oz _ _).2 k1 k2 k3,key (Cm _ _).1 (Cm _ _).2 k4 k5 k6⟩
   ·cases h
  ·cases h
theorem af9{a:Rp}{p:Int}(oa:OkP a):Res ((qy a p).1.1,(qy a p).2)/\Res ((qy a p).1.2,(qy a p).2):=by
 have h0:∀e,Res (p0,e):=fun e=>⟨Cl.nil _,azH _,.inr rfl⟩;unfold qy;cases va:vp a with
 |false=>
  grind
 |true=>
  rw[if_pos rfl];split
  ·grind
  ·obtain⟨ka,a0,a8,al⟩:=jZ oa va;cases hr:Dz p a.terms with
   |none=>grind
   |some q=>
    obtain⟨⟨k1,k2,_⟩,⟨k3,k4,_⟩⟩:=aa4 ka hr;exact⟨⟨k1,by grind,.inl rfl⟩,⟨k3,by grind,.inl rfl⟩⟩
abbrev gN(l:List Rm):List (List AV):=l.map fun m=>FS m
theorem aqA{s:Rs}{m:Rm}(os:OkS s)(om:OkM m):R F.model_every_1 [oJ m,.ref 1000 none 0 0 0] [.bx (J1 s)]=some (B (!FU s m),[.bx (J1 s)]):=by
 refine FI PE PD (CW false) rfl ?_;have h:=af4 os om;generalize FU s m=b at h⊢;simp only[yK,Gj,go_sem,h];exact uY rfl rfl rfl rfl rfl
theorem aus(l:List (List AV)):l.map (dY [])=l:=si fun x _=>V6 x
theorem aut:Src F.slices_ContainsFunc_api_Model_api_Model_ F.slices_IndexFunc_api_Model_api_Model_ 9 true [.o 0 [],.o 5 [],.o 0 [],.o 2 [],.o 0 [],.o 0 [],.o 2 [],.o 0 [],.o 0 []]:=
 ⟨cp.2.1,cp.2.2,cp.1.2.2.2 false,cp.1.2.1 false,cp.1.2.2.2 false,cp.1.1 false,
  bT.2.1,bT.2.2,bT.1.2.2.2 false⟩
theorem aly(m:Rm):dY [.o 0 [],.o 5 [],.o 0 [],.o 2 [],.o 0 [],.o 0 [],.o 2 [],.o 0 [],.o 0 []] (FS m)=FS m:=by
 simp only[go_sem,aus]
theorem Mv(l:List Rm):(gN l).map (dY [.o 0 [],.o 5 [],.o 0 [],.o 2 [],.o 0 [],.o 0 [],.o 2 [],.o 0 [],.o 0 []])=gN l:=by
 refine si fun x hx=>?_;obtain⟨t,ht,rfl⟩:=List.mem_map.1 hx;exact aly t
def GM(s:Rs)(l:List Rm):Bool:=l6 s&&!(l.any fun m=>!FU s m)
theorem OB{s:Rs}{l:List Rm}(os:OkS s)(om:∀m∈l,OkM m)(hl:l.length<4611686018427387904):R F.model_every [xu s,.sl 9 (gN l)] []=some (B (GM s l),[]):=by
 refine av Ui rfl ?_;have h1:=pA os.d os.n;unfold GM;cases g1:l6 s with
 |false=>
  rw[g1]at h1;simp only[wx,Dd,go_sem,h1,ay6]
 |true=>
 rw[g1]at h1;have hc:=Mh aut (Frow:=fun m=>FS m) (l:=l) (q:=fun m=>!FU s m) (Mt s) (Gy false) (CW false) hl (Mv _) fun m hm=>⟨oJ m,oJ m,rfl,rfl,rfl,by rw[NN];simp only[go_sem,FT],aqA os (om m hm)⟩;generalize(l.any fun m=>!FU s m)=b at hc⊢;have hcc:=fun(h:ac) (d:Nat) (hh:h 2=.bx (J1 s)) (hf:h (2000+8*d)=.dead)=>FJ (f:=F.slices_ContainsFunc_api_Model_api_Model_) (g:=F.model_every_1) (h:=h) (d:=d) (id:=2) (zas:=[.sl 9 (gN l)]) (as':=[.sl 9 (gN l)]) (bT.1.2.1 false) (bT.1.2.2.2 false)
  (by rw[bT.1.1];simp only[go_sem,Mv,azM,ay8]) rfl rfl hh (Mt _) (Mt _) (fun h=>h) hc (XP _) (azJ rfl) (by simp[cB,cF,hf,bY])
 simp only[azM,ay8,go_sem]at hcc;simp only[wx,Dd,go_sem,h1];rw[hcc _ _ rfl rfl];simp only[go_sem]
def kF(s:Rs):Rm:=⟨⟨s.dom.length,[]⟩,ed⟩
theorem Eo{s:Rs}:R F.model_none [xu s] []=some (oJ (kF s),[]):=by
 refine av Wn rfl ?_;have h:=oF;simp only[ap,ax,ed,aG]at h;simp only[De,KC,kF,ed,aG,azF,go_sem,h];rfl
noncomputable def OD (a:Rp) (dom:List Ri) (p:Int):Ri:=open Classical in if h:∃z,R F.bound_Best [be a,.sl 7 (bK dom),I p] []=some (ap z,[])/\OkI z/\vi z=true then Classical.choose h else ed
theorem Sz{a:Rp}{dom:List Ri}{p:Int}(oa:OkP a)(od:∀x∈dom,OkI x)(h2:dom.length<=100000):R F.bound_Best [be a,.sl 7 (bK dom),I p] []=some (ap (OD a dom p),[])/\OkI (OD a dom p)/\vi (OD a dom p)=true:=by
 have h:∃z,R F.bound_Best [be a,.sl 7 (bK dom),I p] []=some (ap z,[])/\OkI z/\vi z=true:=by
  obtain⟨b,hB,hbr,hbn⟩:=Yl oa od h2 (p:=p);cases hq:(pg a dom&&bO p)with
  |false=>
   have hb:=hbn hq;subst hb;refine⟨_,Oy oa od h2 (p:=p) (b:=ed) R1.ok' (fun _=>hB),?_⟩;unfold Mr;rw[hq];exact⟨R1.ok',rfl⟩
  |true=>
   have hq2:=hq;rw[ay1]at hq2;obtain⟨hv,hl,hk⟩:=Yk od hq2.1;have i2:=hbr _ _ (Mu dom);obtain⟨m1,m2⟩:=Ot (TL (p:=p) oa (yi.inL hk (Mu dom))) i2;refine⟨_,Oy oa od h2 (p:=p) (b:=b) i2.ok (fun _=>hB),?_⟩;unfold Mr;rw[if_pos hq,if_pos m1];exact⟨m2.ok,m2.v⟩
 unfold OD;rw[dif_pos h];exact Classical.choose_spec h
noncomputable def qJ (a:Rp) (dom:List Ri) (p:Int):Ri:=if a.terms.length=0 then bc else OD a dom p
theorem Mw{a:Rp}{dom:List Ri}{p:Int}(oa:OkP a)(od:∀x∈dom,OkI x)(h2:dom.length<=100000):OkI (qJ a dom p)/\vi (qJ a dom p)=true:=by
 unfold qJ;split
 ·exact⟨⟨aV.2,aV.2⟩,by have v:=aV.1;unfold bc;grind[vi]⟩
 ·exact(Sz oa od h2).2
theorem GN{a:Rp}{dom:List Ri}{p:Int}(oa:OkP a)(od:∀x∈dom,OkI x)(h2:dom.length<=100000):R F.model_ranged [be a,.sl 7 (bK dom),I p] []=some (ap (qJ a dom p),[]):=by
 refine av Q3 rfl ?_;have h1:=TQ;have h3:=(Sz oa od h2 (p:=p)).1;unfold qJ;generalize OD a dom p=z at h3⊢;simp only[be,ap,ax]at h1 h3;by_cases g:a.terms.length=0
 ·have f:((a.terms.length:Int)=0)=True:=tt;rw[if_pos g];simp only[uK,Bz,be,ap,ax,go_sem,h1,f]
 ·have f:((a.terms.length:Int)=0)=False:=ff;rw[if_neg g];simp only[uK,Bz,be,ap,ax,go_sem,h3,f]
noncomputable def DA (s:Rs) (q:Rp):(Rp×Ri)×Bool:=
 if(qy (lH q s.ord).1 s.p).2=0 then((⟨s.dom.length,(qy (lH q s.ord).1 s.p).1.1.terms⟩,gJ (qJ (lH q s.ord).2 s.dom s.p) (qJ (qy (lH q s.ord).1 s.p).1.2 s.dom s.p) s.p),true)
 else(((qy (lH q s.ord).1 s.p).1.1,bc),false)
theorem alz{s:Rs}{q:Rp}(os:OkS s)(oq:OkP q)(h2:s.dom.length<=100000):R F.model_cut [xu s,be q] []=some (.tup [be (DA s q).1.1,ap (DA s q).1.2,B (DA s q).2],[]):=by
 refine av Zi rfl ?_;have h1:=afM (o:=s.ord) oq;obtain⟨⟨c1,_⟩,c2,_⟩:=af8 (o:=s.ord) oq;unfold DA;generalize lH q s.ord=sp at h1 c1 c2⊢;have h3:=af7 (p:=s.p) (A6 c1);obtain⟨r1,r2⟩:=af9 (p:=s.p) (A6 c1);generalize qy sp.1 s.p=r at h3 r1 r2⊢;have h4:=GN (p:=s.p) (A6 c2) os.d h2;have h5:=GN (p:=s.p) (A6 r2.cl) os.d h2;have k4:=Mw (p:=s.p) (A6 c2) os.d h2;have k5:=Mw (p:=s.p) (A6 r2.cl) os.d h2;generalize qJ sp.2 s.dom s.p=x at h4 k4⊢;simp only at h5 k5;generalize qJ r.1.2 s.dom s.p=y at h5 k5⊢;have h6:=B6 k4.1 k5.1 (p:=s.p);generalize gJ x y s.p=z at h6⊢;simp only[ppV,Yp,be,ap,ax]at h1 h3 h4 h5 h6;by_cases g:r.2=0
 ·have f:(r.2=0)=True:=eq_true g;rw[if_pos g];simp only[Ap,G5,be,ap,ax,go_sem,h1,h3,h4,h5,h6,f]
 ·have f:(r.2=0)=False:=eq_false g;rw[if_neg g];simp only[Ap,G5,be,ap,ax,bc,aG,go_sem,h1,h3,f]
noncomputable def D6 (s:Rs) (q:Rp) (e:Int) (r:Ri):Rm:=if e=0 then(if(DA s q).2=true then⟨(DA s q).1.1,gJ r (DA s q).1.2 s.p⟩else kF s)else kF s
theorem alA{s:Rs}{q:Rp}:OkI (DA s q).1.2:=by
 unfold DA;split
 ·exact Ei
 ·exact⟨aV.2,aV.2⟩
theorem Jm{s:Rs}{q:Rp}{e:Int}{r:Ri}(os:OkS s)(oq:OkP q)(or:OkI r)(h2:s.dom.length<=100000):R F.model_made [xu s,be q,I e,ap r] []=some (oJ (D6 s q e r),[]):=by
 refine av Wo rfl ?_;have h1:=Eo (s:=s);have h3:=alz os oq h2;have h4:=B6 or (alA (s:=s) (q:=q)) (p:=s.p);unfold D6;generalize DA s q=c at h3 h4⊢;generalize gJ r c.1.2 s.p=z at h4⊢;simp only[be,ap,ax]at h3 h4;by_cases g:e=0
 ·have f:(e=0)=True:=eq_true g;rw[if_pos g];cases g2:c.2 with
  |true=>
   rw[g2]at h3;rw[if_pos rfl];simp only[tv,Ai,be,ap,ax,go_sem,h3,h4,f]
  |false=>
   rw[g2]at h3;rw[if_neg ay9];generalize kF s=n at h1⊢;simp only[tv,Ai,be,ap,ax,go_sem,h1,h3,f]
 ·have f:(e=0)=False:=eq_false g;rw[if_neg g];generalize kF s=n at h1⊢;simp only[tv,Ai,be,ap,ax,go_sem,h1,f]
def A8(p:Int):Ri->List Ri->Ri
 |x,[]=>x
 |x,y::l=>A8 p (gJ x y p) l
theorem aa5{p:Int}:∀ {l:List Ri} {x:Ri},OkI x->OkI (A8 p x l)
 |[],_,h=>h
 |y::l,x,_=>(aa5 (l:=l) Ei:OkI (A8 p (gJ x y p) l))
theorem aga{p:Int}{l:List Ri}(ol:∀x∈l,OkI x)(hl:l.length<=100000):∀ (rest:List Ri) (n:Nat) (x:Ri),OkI x->l.drop n=rest->n<=l.length->∀ (S:ai) (h:ac),S 0=I p->S 4=.ref 4 none 0 0 0->S 6=.ref 6 none 0 0 0->S 9=.sl 7 (bK l)->S 10=I l.length->S 11=I n->h 4=.bx (ax x)->h 6=.bx [B false,.emp,I 0,B false,.emp,I 0,B false]->
  ∃hh,ah 0 [4,6] (aq (aj R (az false) nC) [0,4,6,9,10,11] [4,6] S h)=some (.normal,⟨upd (upd (fun _=>.any) 6 (.ref 6 none 0 0 0)) 4 (.ref 4 none 0 0 0),hh⟩)/\hh 4=.bx (ax (A8 p x rest))/\hh 6=.bx [B false,.emp,I 0,B false,.emp,I 0,B false]:=by
 intro rest;induction rest with
 |nil=>
  intro n x ox hd hn S h h0 h4 h6 h9 h10 h11 k4 k6;have e:n=l.length:=by
   have:=congrArg List.length hd;grind
  subst e;rw[ag];simp only[ax]at k4;refine⟨?hh0,?_,?_,?_⟩;rotate_left
  ·simp only[nC,go_sem,h0,h4,h6,h9,h10,h11,k4,k6,azI];rfl
  ·rfl
  ·rfl
 |cons y rest ih=>
  intro n x ox hd hn S h h0 h4 h6 h9 h10 h11 k4 k6;have hlt:n<l.length:=by
   grind
  have hr:l[n]?=some y:=by
   have:=congrArg (·[0]?) hd;grind
  have ih':=ih (n+1) (gJ x y p) Ei (by rw[←List.drop_drop,hd];rfl) hlt;have e1:((n:Int)< (l.length:Int))=True:=tt;have e2:aU (bK l) (n:Int)=some (.ipt (ax y)):=L7 rfl hr;have e3:IntKind.i64.wrap ((n:Int)+1)=((n+1:Nat):Int):=by grind[i64_in]
  have v1:=B6 ox (ol y (List.mem_of_getElem? hr)) (p:=p);rw[ag];rw[show A8 p x (y::rest)=A8 p (gJ x y p) rest from rfl];generalize aq _ _ _=L at ih'⊢;generalize gJ x y p=z at v1 ih'⊢;simp only[ax]at e2 k4;simp only[ap,ax]at v1;simp only[nC,go_sem,h0,h4,h6,h9,h10,h11,k4,k6,e1,e2,e3,v1];exact ih' _ _ rfl rfl rfl rfl rfl rfl rfl rfl
theorem alB{p:Int}{l:List Ri}{x:Ri}(ox:OkI x)(ol:∀x∈l,OkI x)(hl:l.length<=100000):R F.model_sum [I p,ap x,.sl 7 (bK l)] []=some (ap (A8 p x l),[]):=by
 refine av Zg rfl ?_;have hL:=aga (p:=p) ol hl l 0 x ox rfl (azH _);generalize hLL:aq (aj R (az false) nC) [0,4,6,9,10,11] [4,6]=L at hL;have hXL:∀s h,aj R (az false) (.loop [0,4,6,9,10,11] [4,6] nC) s h=L s h:=fun s h=>by rw[←hLL];rfl
 clear hLL;generalize A8 p x l=z at hL⊢;have hL2:∀ (S:ai) (h:ac) (X:Option (Ex×St)),ah 0 [4,6] (L S h)=X->S 0=I p->S 4=.ref 4 none 0 0 0->S 6=.ref 6 none 0 0 0->S 9=.sl 7 (bK l)->S 10=I l.length->S 11=I 0->h 4=.bx (ax x)->h 6=.bx [B false,.emp,I 0,B false,.emp,I 0,B false]->
   ∃hh,X=some (.normal,⟨upd (upd (fun _=>.any) 6 (.ref 6 none 0 0 0)) 4 (.ref 4 none 0 0 0),hh⟩)/\hh 4=.bx (ax z)/\hh 6=.bx [B false,.emp,I 0,B false,.emp,I 0,B false]:=fun S h X hX a b c d e f i j=>by
  rw[←hX];exact hL S h a b c d e f i j
 simp only[EK,M5,ap,ax,go_sem,hXL];generalize hX2:ah 0 [4,6] (L _ _)=X;obtain⟨hh,g0,g4,g6⟩:=hL2 _ _ _ hX2 rfl rfl rfl rfl rfl rfl rfl rfl;rw[g0];simp only[ax]at g4;simp only[go_sem,g4,g6]
noncomputable def LC (s:Rs) (a b:Rm):Rm:=if GM s [a,b]=true then D6 s (FG a.P b.P).1 (FG a.P b.P).2 (gJ a.R b.R s.p)else kF s
noncomputable def adn (s:Rs) (a b:Rm):Rm:=if GM s [a,b]=true then D6 s (FH a.P b.P).1 (FH a.P b.P).2 (Hl a.R b.R s.p)else kF s
theorem Yq{s:Rs}{l:List Rm}(h:GM s l=true):l6 s=true/\∀m∈l,FU s m=true:=by
 simp_all[GM,ay1,Bool.not_eq_true',List.any_eq_false]
theorem pB{s:Rs}(h:l6 s=true):s.dom.length<=8/\bO s.p=true:=by
 simp_all[l6,ay1,decide_eq_true_eq]
theorem Ig{s:Rs}{m:Rm}(om:OkM m)(h:FU s m=true):OkP m.P/\vp m.P=true/\m.P.vars=s.dom.length/\vi m.R=true:=by
 unfold FU at h;simp only[ay1,decide_eq_true_eq]at h;exact⟨af3 om.c h.2.1,h.2.1,h.2.2.1,h.2.2.2.2.1⟩
theorem two{α:Type}{p:α->Prop}{a b:α}(ha:p a)(hb:p b):∀m∈[a,b],p m:=fun m hm=>by
 grind
theorem alC{s:Rs}{a b:Rm}(os:OkS s)(oa:OkM a)(ob:OkM b):R F.model_Add [xu s,oJ a,oJ b] []=some (oJ (LC s a b),[]):=by
 refine av Zk rfl ?_;have h1:=OB os (l:=[a,b]) (two oa ob) σ;have h2:=Eo (s:=s);unfold LC;simp only[azv,azF]at h1;cases g:GM s [a,b]with
 |false=>
  rw[g]at h1;simp only[Ar,G7,go_sem,h1,h2]
 |true=>
  rw[g]at h1;obtain⟨q1,q2⟩:=Yq g;obtain⟨a1,_⟩:=Ig oa (q2 a σ);obtain⟨b1,_⟩:=Ig ob (q2 b σ);have h3:=aaD a1 b1;have h4:=B6 oa.r ob.r (p:=s.p);have h5:=Jm (e:=(FG a.P b.P).2) (r:=gJ a.R b.R s.p) os (ah1 a1 b1) Ei (by grind[pB]);simp only[pV,be,ap,ax]at h3 h4 h5;simp only[Ar,G7,go_sem,h1,h3,h4,h5]
theorem aiO{s:Rd}(ok:Ok0 s)(v:vd s=true):R F.dyadic_Scale [af s,I (-1)] []=some (rV (Qp s),[]):=by
 refine av Q9 rfl ?_;obtain⟨h0,h1,h2,h3⟩:=dZ v ok.lb;have hv:=eF ok;rw[v]at hv;have hx:=CE (e:=-1);have ho:=oE (neg:=s.neg) (m:=s.m) (e:=s.e+-1) ok.lb ω (by grind[Exq]);rw[Sv ok v]at ho;have hl:Ok0 (cx (zI s) (-16384- (1:Nat))):=by
  rw[←Sv ok v];exact⟨wZ _ _ _,azt (yY (k:=128) ω) δ⟩
 have hc:=DZ hl.lb (by
  rw[←Sv ok v];exact ay3 (yY (k:=128) ω) δ)
 have e:(if qL (ae (ab (cx (zI s) (-16384- (1:Nat))).m)) (cx (zI s) (-16384- (1:Nat))).e=true then AV.tup [af (cx (zI s) (-16384- (1:Nat))),I 0]else .tup [af aG,I 9])=rV (Qp s):=by
  grind[Qp,cK,rV]
 rw[e]at hc;have ew:IntKind.i64.wrap (s.e+-1)=s.e+-1:=by grind[i64_in]
 simp only[af,ak,rV]at hv ho hc;simp only[An,HA,rV,af,ak,go_sem,hv,hx,ho,hc,ew,show decide ((-32768:Int)≤-1)=true from rfl,show decide ((-1:Int)<=32768)=true from rfl]
def ze(x:Ri)(p:Int):Rd:=if(kI x&&bO p)=true then(if(di x.lo x.hi p false).2=0 then(if(Qp (di x.lo x.hi p false).1).2=0 then(if Ym x (Qp (di x.lo x.hi p false).1).1=true then(Qp (di x.lo x.hi p false).1).1 else x.lo)else x.lo)else x.lo)else aG
theorem ado{x:Ri}(h:kI x=true):x.all=false/\vd x.lo=true/\vd x.hi=true:=by
 grind[kI,vi]
theorem alD{x:Ri}{p:Int}(ox:OkI x):vd (ze x p)=true/\Ok0 (ze x p):=by
 unfold ze;split
 ·rename_i h;rw[ay1]at h;have hl:=(ado h.1).2.1;split
  ·split
   ·split
    ·exact xc
    ·exact⟨hl,ox.lo⟩
   ·exact⟨hl,ox.lo⟩
  ·exact⟨hl,ox.lo⟩
 ·exact aV
theorem an7{x:Ri}{p:Int}(ox:OkI x):R F.interval_Mid [ap x,I p] []=some (af (ze x p),[]):=by
 refine av Q2 rfl ?_;have h1:=wh ox;have h2:=we (p:=p);unfold ze;cases g1:kI x with
 |false=>
  rw[g1]at h1;simp only[iG,kS,ap,ax,af,ak,aG,go_sem,h1,ay6,azK]
 |true=>
 rw[g1]at h1;cases g2:bO p with
 |false=>
  rw[g2]at h2;simp only[iG,kS,ap,ax,af,ak,aG,go_sem,h1,h2,az3,azK]
 |true=>
 rw[g2]at h2;have h3:=I7 ox.lo ox.hi (p:=p);have h4:=aiO (L9 (a:=x.lo) (b:=x.hi) (p:=p) (up:=false)) RX;have h5:=an4 ox (d:=(Qp (di x.lo x.hi p false).1).1) xc.2;generalize Ym x (Qp (di x.lo x.hi p false).1).1=b at h5⊢;generalize Qp (di x.lo x.hi p false).1=m at h4 h5⊢;generalize di x.lo x.hi p false=s at h3 h4⊢;simp only[ap,ax,af,ak,rV]at h3 h4 h5;by_cases k1:s.2=0
 case neg=>
  have f1:(s.2=0)=False:=eq_false k1;simp only[iG,kS,ap,ax,af,ak,go_sem,h1,h2,h3,f1]
 have f1:(s.2=0)=True:=eq_true k1;by_cases k2:m.2=0
 case neg=>
  have f2:(m.2=0)=False:=eq_false k2;simp only[iG,kS,ap,ax,af,ak,go_sem,h1,h2,h3,h4,f1,f2]
 have f2:(m.2=0)=True:=eq_true k2;cases b with
 |false=>
  simp only[iG,kS,ap,ax,af,ak,go_sem,h1,h2,h3,h4,h5,f1,f2]
 |true=>
  simp only[iG,kS,ap,ax,af,ak,go_sem,h1,h2,h3,h4,h5,f1,f2]
noncomputable def Cn (s:Rs) (a b:Rm):Rm:=if GM s [a,b]=true then D6 s (Dy a.P b.P).1 (Dy a.P b.P).2 (A8 s.p (gX (qJ a.P s.dom s.p) b.R s.p) [gX (qJ b.P s.dom s.p) a.R s.p,gX a.R b.R s.p])else kF s
theorem aa6{s:Rs}{a b:Rm}(os:OkS s)(oa:OkM a)(ob:OkM b):R F.model_Mul [xu s,oJ a,oJ b] []=some (oJ (Cn s a b),[]):=by
 refine av Zd rfl ?_;have h1:=OB os (l:=[a,b]) (two oa ob) σ;have h2:=Eo (s:=s);unfold Cn;simp only[azv,azF]at h1;cases g:GM s [a,b]with
 |false=>
  rw[g]at h1;simp only[Ag,G4,go_sem,h1,h2]
 |true=>
  rw[g]at h1;obtain⟨q1,q2⟩:=Yq g;obtain⟨a1,_⟩:=Ig oa (q2 a σ);obtain⟨b1,_⟩:=Ig ob (q2 b σ);have hl:s.dom.length<=100000:=by grind[pB]
  have h3:=akQ a1 b1;have r1:=GN (p:=s.p) a1 os.d hl;have r2:=GN (p:=s.p) b1 os.d hl;have k1:=(Mw (p:=s.p) a1 os.d hl).1;have k2:=(Mw (p:=s.p) b1 os.d hl).1;generalize qJ a.P s.dom s.p=x at r1 k1⊢;generalize qJ b.P s.dom s.p=y at r2 k2⊢;have m1:=Ef k1 ob.r (p:=s.p);have m2:=Ef k2 oa.r (p:=s.p);have m3:=Ef oa.r ob.r (p:=s.p);have h4:=alB (p:=s.p) (x:=gX x b.R s.p) (l:=[gX y a.R s.p,gX a.R b.R s.p]) B9 (two B9 B9) σ;have h5:=Jm (q:=(Dy a.P b.P).1) (e:=(Dy a.P b.P).2) (r:=A8 s.p (gX x b.R s.p) [gX y a.R s.p,gX a.R b.R s.p]) os (ah3 a1 b1) (aa5 B9) hl;simp only[pV,be,ap,ax]at h3 h5 r1 r2 m1 m2 m3;simp only[ap,ax,bK,azv,azF]at h4;simp only[Ag,G4,go_sem,h1,h3,h4,h5,r1,r2,m1,m2,m3]
theorem aa7{x y:Ri}{p:Int}:OkI (Hl x y p):=Ei
theorem Nq{x:Rd}(ox:Ok0 x):R F.l27_number [af x,af x] []=some (B true,[]):=by
 refine av Wr rfl ?_;have h:=anz (a:=x.m) (b:=x.m) ox.2;rw[Sa.2 rfl]at h;have hb:(false != (x.neg==x.neg))=true:=by rw[beq_self_eq_true];rfl
 simp only[Dg,KE,af,ak,go_sem,h,hb]
theorem aiP{x:Ri}(ox:OkI x):R F.l27_one [ap x,ap x] []=some (B true,[]):=by
 refine av aek rfl ?_;have h1:=Nq ox.lo;have h2:=Nq ox.hi;have hb:(false != (x.all==x.all))=true:=by rw[beq_self_eq_true];rfl
 simp only[af,ak]at h1 h2;simp only[IM,Ti,ap,ax,go_sem,h1,h2,hb]
theorem alE{s:Rs}{a b:Rm}(os:OkS s)(oa:OkM a)(ob:OkM b):R F.model_Sub [xu s,oJ a,oJ b] []=some (oJ (adn s a b),[]):=by
 refine av Zj rfl ?_;have h1:=OB os (l:=[a,b]) (two oa ob) σ;have h2:=Eo (s:=s);unfold adn;simp only[azv,azF]at h1;cases g:GM s [a,b]with
 |false=>
  rw[g]at h1;simp only[Aq,G6,go_sem,h1,h2]
 |true=>
  rw[g]at h1;obtain⟨q1,q2⟩:=Yq g;obtain⟨a1,_⟩:=Ig oa (q2 a σ);obtain⟨b1,_⟩:=Ig ob (q2 b σ);have h3:=akK a1 b1;have h4:=Sl oa.r ob.r (p:=s.p);have h5:=Jm (e:=(FH a.P b.P).2) (r:=Hl a.R b.R s.p) os (ah2 a1 b1) aa7 (by grind[pB]);simp only[pV,be,ap,ax]at h3 h4 h5;simp only[Aq,G6,go_sem,h1,h3,h4,h5]
def rq(w:Bool)(M d:Nat):Nat:=if w=true/\M%2^d≠0 then M/2^d+1 else M/2^d
def dR(M n j:Nat):Nat:=if ae M<=n+j then j else ae M-n
theorem alF{w:Bool}{M M' d:Nat}(h:M<=M'):rq w M d<=rq w M' d:=by
 have h1:=azV M (2^d);have h3:=azV M' (2^d);have h5:M/2^d<=M'/2^d:=Nat.div_le_div_right h;grind[rq,Nat.eq_or_lt_of_le]
theorem aqB{w:Bool}{M d e:Nat}(h:M<2^ (d+e)):rq w M d<=2^e:=by
 have h1:M/2^d<2^e:=by
  rw[Nat.div_lt_iff_lt_mul (aze d),←azc,Nat.add_comm];omega
 grind[rq]
theorem ajz(M n j:Nat):j<=dR M n j/\ae M<=n+dR M n j:=by
 grind[dR]
theorem aiQ{M j n:Nat}{w:Bool}(hn:8<=n):cQ M (-16384- (j:Int)) false (n:Int) w=uC n w (rq w M (dR M n j)) ((dR M n j:Int)-j-16384):=by
 have hu:fy M (-16384- (j:Int)) (n:Int)=(dR M n j:Int)-j-16384:=by
  grind[fy,dR]
 unfold cQ;have hq:rS M (-16384- (j:Int)) false ((dR M n j:Int)-j-16384)=(M/2^dR M n j,decide (M%2^dR M n j≠0)):=by
  unfold rS;generalize dR M n j=d;by_cases h:d=0
  ·subst h;grind
  grind
 grind[nj,rq]
theorem ZD{q d T:Nat}(hq:q≠0):T<ae q+d↔2^T<=q*2^d:=by
 by_cases h:d<=T
 ·rw[show T<ae q+d↔T-d<ae q by omega,kf]
  conv=>rhs;rw[show T=(T-d)+d by omega,azc]
  simp_all[Nat.mul_le_mul_right_iff,aze]
 ·refine⟨fun _=>?_,fun _=>by omega⟩;refine ay3 (azD δ (by omega:T<=d)) ?_;exact Nat.le_mul_of_pos_left _ ω
theorem an8{q n k:Nat}(h:q<=2^n)(hk:n<k):ae q<=k:=bD.2 (azt h (Nat.pow_lt_pow_right δ hk))
theorem aqC{w:Bool}{M n j:Nat}(hn:n<=512):ae (rq w M (dR M n j))<=4096/\(w=false->rq w M (dR M n j)<2^n):=by
 have k:=ajz M n j;have k5:M<2^ae M:=bD.1 (ayZ _);have k6:M<2^ (dR M n j+n):=azY k5 (azD δ ω);have h1:=aqB (w:=w) k6;refine⟨an8 h1 ω,?_⟩
 simp_all[rq,if_neg,Nat.div_lt_iff_lt_mul,aze,azc,Nat.add_comm]
theorem alG{M j n:Nat}{w:Bool}(h0:M≠0)(hn:8<=n/\n<=512):
  (rq w M (dR M n j)*2^dR M n j<2^ (32768+j)->(cQ M (-16384- (j:Int)) false (n:Int) w).2=0/\zI (cQ M (-16384- (j:Int)) false (n:Int) w).1*2^j=((rq w M (dR M n j)*2^dR M n j:Nat):Int))/\
  (2^ (32768+j)<=rq w M (dR M n j)*2^dR M n j->(w=true->(cQ M (-16384- (j:Int)) false (n:Int) w).2≠0)/\
   (w=false->(cQ M (-16384- (j:Int)) false (n:Int) w).2=0/\zI (cQ M (-16384- (j:Int)) false (n:Int) w).1=(((2^n-1)*2^ (32768-n):Nat):Int))):=by
 have k:=ajz M n j;obtain⟨b1,_⟩:=aqC (w:=w) (M:=M) (j:=j) hn.2;rw[aiQ hn.1];have hq0:rq w M (dR M n j)=0->¬32768+j<ae (rq w M (dR M n j))+dR M n j:=fun h=>by
  rw[h,show ae 0=0 from rfl];have hM:M<2^dR M n j:=by
   unfold rq at h;split at h
   all_goals simp_all
  have h3:ae M<=dR M n j:=bD.2 hM;unfold dR at h3⊢;grind
 generalize hd:dR M n j=d at*
 generalize rq w M d=q at*
 have ov:16384< (ae q:Int)+((d:Int)-j-16384)↔2^ (32768+j)<=q*2^d:=by
  by_cases hq:q=0
  ·subst hq;have h5:=aze (32768+j);constructor<;>intro h6<;>omega
  ·rw[←ZD hq];omega
 unfold uC;constructor
 ·intro h;have h1:¬16384< (ae q:Int)+((d:Int)-j-16384):=fun hc=>by
   omega
  rw[if_neg h1];have hc:=B4 (neg:=false) (M:=q) (e:=(d:Int)-j-16384) b1 ω ω;have h2:(cK (br false q ((d:Int)-j-16384))).2=0:=by rw[hc]
  refine⟨h2,?_⟩;rw[Ln ω h2,show((d:Int)-j-16384+16384).toNat=d-j by omega,show(2:Int)^j=((2^j:Nat):Int)by simp,←Int.natCast_mul,azq,←azc,show d-j+j=d by omega]
 ·intro h;have h1:=ov.2 h;rw[if_pos h1];constructor
  ·rintro rfl
   simp
  ·rintro rfl
   rw[if_neg σ];have hp1:2^n-1<2^n:=by have:=aze n;omega
   have hb:ae (2^n-1)<=n:=bD.2 hp1;have hc:=B4 (neg:=false) (M:=2^n-1) (e:=16384- (n:Int)) ω ω ω;have h2:(cK (br false (2^ ((n:Int)).toNat-1) (16384- (n:Int)))).2=0:=by rw[ay4,hc]
   refine⟨h2,?_⟩;rw[Ln ω h2,ay4,show(16384- (n:Int)+16384).toNat=32768-n by omega]
theorem an9{M j n:Nat}{w:Bool}(h0:M≠0)(hn:8<=n/\n<=512)(h:(cQ M (-16384- (j:Int)) false (n:Int) w).2=0):0<=zI (cQ M (-16384- (j:Int)) false (n:Int) w).1:=by
 obtain⟨k,h1,_⟩:=Ji (s:=0) (t:=j) h0 (p:=n) ω ω (fun h=>absurd h ay9) h;omega
theorem alH{z f p:Int}{up:Bool}(h:z<0):jV z f p up=iw true (cQ z.natAbs f false p (!up)):=by
 unfold jV;rw[if_neg ω,decide_eq_true h]
 simp_all
theorem alI{z f p:Int}{up:Bool}(h:0<z):jV z f p up=cQ z.natAbs f false p up:=by
 unfold jV;rw[if_neg ω,decide_eq_false ω]
 simp_all[iw,if_neg]
theorem aoa{M:Nat}{f p:Int}{w:Bool}:(iw true (cQ M f false p w)).2=(cQ M f false p w).2/\((cQ M f false p w).2=0->zI (iw true (cQ M f false p w)).1=-zI (cQ M f false p w).1):=by
 unfold iw;by_cases h:(cQ M f false p w).2=0
 all_goals simp_all[if_pos,zF,Sf,if_neg,absurd]
theorem adp{f p:Int}{up:Bool}:jV 0 f p up=(aG,0):=by simp_all[jV,if_pos]
theorem Yr{a b:Rd}{p:Int}(va:vd a=true)(vb:vd b=true)(hp:bO p=true):aY p [a,b]=0/\∃n:Nat,p=n/\8<=n/\n<=512:=by
 have hp2:8<=p/\p<=512:=by
  simp_all[bO,ay1,decide_eq_true_eq]
 refine⟨by grind[aY],p.toNat,by omega,by omega,by omega⟩
def Sb(x y:Ri):Prop:=(∃q,In q x)/\(y=ed\/x.all=false/\y.all=false/\(∃q,In q y)/\zI y.lo<=zI x.lo/\zI x.hi<=zI y.hi)
theorem Sb.ins{x y:Ri}(h:Sb x y):Ck x y=true:=by
 obtain⟨⟨q,hx⟩,rfl| ⟨h1,h2,⟨r,hy⟩,h3,h4⟩⟩:=h
 ·unfold Ck;have:=hx.v;split
  ·rfl
  ·rw[this];rfl
 ·unfold Ck;rw[if_pos ⟨hx.v,hy.v,h1⟩];grind
theorem aqD{x:Ri}(h:∃q,In q x)(ha:x.all=false):kI x=true:=by
 obtain⟨q,h⟩:=h;unfold kI;rw[ha,h.v];rfl
theorem agb{a b:List Nat}(h:lm a=lm b):a=b:=by
 unfold lm aC at h;grind[List.map_inj_right]
theorem alJ{x y:Ri}(h:ap x=ap y):x=y:=by
 unfold ap ax at h;simp only[AV.agg.injEq,List.cons.injEq,AV.v.injEq,Value.bool.injEq,Value.int.injEq,true_and,and_true]at h;obtain⟨h1,g2,h3,h4,g5,h6,h7⟩:=h;have h2:=agb g2;have h5:=agb g5;obtain⟨⟨a1,a2,a3⟩,⟨a4,a5,a6⟩,a7⟩:=x
 simp_all
theorem aiR{a:Rp}{dom:List Ri}{p:Int}(oa:OkP a)(od:∀x∈dom,OkI x)(h2:dom.length<=100000)(hd:pg a dom=true):∃b,OD a dom p=Mr a dom p b/\∀xs ts:List Rat,yi dom xs ts->In (fv xs a.terms) b:=by
 obtain⟨b,hB,hbr,_⟩:=Yl oa od h2 (p:=p);have i2:=hbr _ _ (Mu dom);have h3:=Oy oa od h2 (p:=p) (b:=b) i2.ok (fun _=>hB);grind[Sz,alJ]
theorem alK{a b:Rd}(va:vd a=true)(vb:vd b=true):zI a<=zI (lw a b):=by
 unfold lw;rw[RZ va vb];rcases oR (zI a) (zI b)with⟨g,e⟩| ⟨g,e⟩| ⟨g,e⟩<;>rw[e]<;>simp<;>omega
theorem alL{a b:Rd}(va:vd a=true)(vb:vd b=true):zI (lu a b)<=zI a:=by
 grind[lu,RZ,oR,zI]
theorem alM{x y:Ri}(hx:x.all=false){q:Rat}(ix:In q x)(iy:In q y):Sb (u9 x y).1 x:=by
 obtain⟨m1,m2⟩:=Ot ix iy;refine⟨⟨q,m2⟩,Or.inr ?_⟩;have key:(u9 x y).1.all=false/\zI x.lo<=zI (u9 x y).1.lo/\zI (u9 x y).1.hi<=zI x.hi:=by
  have vx:=ix.vi;have vy:=iy.vi;unfold u9 at m1⊢;rw[ix.v,iy.v,azs,if_pos rfl,hx,if_neg ay9]at m1⊢;split
  ·grind
  ·split
   ·exact⟨rfl,alK vx.1.1 vy.1.1,alL vx.2.1 vy.2.1⟩
   grind
 grind
theorem aob{a:Rp}{dom:List Ri}{p:Int}(oa:OkP a)(od:∀x∈dom,OkI x)(h2:dom.length<=100000)(hd:pg a dom=true)(hp:bO p=true)(h0:a.terms.length≠0)(hn:(qu a dom p).all=false):Sb (qJ a dom p) (qu a dom p):=by
 unfold qJ;obtain⟨b,hb,hbr⟩:=aiR (p:=p) oa od h2 hd;obtain⟨hv,hl,hk⟩:=Yk od hd;have i1:=TL (p:=p) oa (yi.inL hk (Mu dom));have i2:=hbr _ _ (Mu dom);rw[hb];unfold Mr;rw[hd,hp,azs,if_pos rfl,if_pos (Ot i1 i2).1];grind[alM]
theorem Qs{a b:Rd}(va:vd a=true)(vb:vd b=true):(fg a b<0↔zI a<zI b)/\(0<fg a b↔zI b<zI a):=by
 rw[RZ va vb];unfold eJ;split
 ·omega
 ·split<;>omega
section
variable {dn up:Rd→Rd→Rd × Int} {pr:Nat→Rd × Rd}
abbrev GO(dn:Rd->Rd->Rd×Int)(pr:Nat->Rd×Rd)(j:Nat):Rd×Int:=dn (pr j).1 (pr j).2
theorem Qt(okd:∀a b,vd (dn a b).1=true)(oku:∀a b,vd (up a b).1=true):∀ (k i:Nat) (o:Rd×Rd),vd o.1=true->vd o.2=true->(∀j,i<=j->j<i+k->(GO dn pr j).2=0/\(GO up pr j).2=0)->
  ∃q,w9 dn up pr k i o=some q/\zI q.1<=zI o.1/\zI o.2<=zI q.2/\(∀j,i<=j->j<i+k->zI q.1<=zI (GO dn pr j).1/\zI (GO up pr j).1<=zI q.2)/\
   (q.1=o.1\/∃j,i<=j/\j<i+k/\q.1=(GO dn pr j).1)/\(q.2=o.2\/∃j,i<=j/\j<i+k/\q.2=(GO up pr j).1)
 |0,i,o,_,_,_=>⟨o,rfl,Int.le_refl _,Int.le_refl _,fun j h1 h2=>by omega,Or.inl rfl,Or.inl rfl⟩
 |k+1,i,o,v1,v2,h=>by
  have h0:=h i (ayZ _) ω;unfold w9;rw[if_pos h0];have c1:=(Qs (okd (pr i).1 (pr i).2) v1).1;have c2:=(Qs (oku (pr i).1 (pr i).2) v2).2;have w1:=okd (pr i).1 (pr i).2;have w2:=oku (pr i).1 (pr i).2;obtain⟨q,q0,q1,q2,q3,q4,q5⟩:=Qt okd oku k (i+1) (if fg (dn (pr i).1 (pr i).2).1 o.1<0 then(dn (pr i).1 (pr i).2).1 else o.1,if 0<fg (up (pr i).1 (pr i).2).1 o.2 then(up (pr i).1 (pr i).2).1 else o.2)
   (by simp only;split<;>assumption) (by simp only;split<;>assumption) fun j h1 h2=>h j ω ω
  have a1:zI q.1<=zI o.1/\zI q.1<=zI (GO dn pr i).1:=by
   simp only at q1;split at q1
   ·rename_i hc;have:=c1.1 hc;exact⟨by omega,q1⟩
   ·rename_i hc;have:=mt c1.2 hc;exact⟨q1,by show zI q.1<=zI (dn (pr i).1 (pr i).2).1;omega⟩
  have a2:zI o.2<=zI q.2/\zI (GO up pr i).1<=zI q.2:=by
   simp only at q2;split at q2
   ·rename_i hc;have:=c2.1 hc;exact⟨by omega,q2⟩
   ·rename_i hc;have:=mt c2.2 hc;exact⟨q2,by show zI (up (pr i).1 (pr i).2).1<=zI q.2;omega⟩
  refine⟨q,q0,a1.1,a2.1,fun j h1 h2=>?_,?_,?_⟩
  ·rcases Nat.eq_or_lt_of_le h1 with rfl|h3
   ·exact⟨a1.2,a2.2⟩
   ·exact q3 j h3 ω
  ·rcases q4 with q4| ⟨j,h1,h2,h3⟩
   ·simp only at q4;split at q4
    ·exact Or.inr ⟨i,ayZ _,by omega,q4⟩
    ·exact Or.inl q4
   ·exact Or.inr ⟨j,by omega,by omega,h3⟩
  ·rcases q5 with q5| ⟨j,h1,h2,h3⟩
   ·simp only at q5;split at q5
    ·exact Or.inr ⟨i,ayZ _,by omega,q5⟩
    ·exact Or.inl q5
   ·exact Or.inr ⟨j,by omega,by omega,h3⟩
theorem adq(okd:∀a b,vd (dn a b).1=true)(oku:∀a b,vd (up a b).1=true)(h:∀j,j<4->(GO dn pr j).2=0/\(GO up pr j).2=0):
  ∃q,re dn up pr=some q/\(∀j,j<4->zI q.1<=zI (GO dn pr j).1/\zI (GO up pr j).1<=zI q.2)/\(∃j,j<4/\q.1=(GO dn pr j).1)/\∃j,j<4/\q.2=(GO up pr j).1:=by
 obtain⟨q,q0,q1,q2,q3,q4,q5⟩:=Qt okd oku 3 1 ((dn (pr 0).1 (pr 0).2).1,(up (pr 0).1 (pr 0).2).1) (okd _ _) (oku _ _) fun j h1 h2=>h j ω;refine⟨q,?_,fun j hj=>?_,?_,?_⟩
 ·unfold re;rw[if_pos (h 0 δ)];exact q0
 ·rcases Nat.eq_zero_or_pos j with rfl|h1
  ·exact⟨q1,q2⟩
  ·exact q3 j h1 ω
 ·rcases q4 with q4| ⟨j,h1,h2,h3⟩
  ·exact⟨0,by decide,q4⟩
  ·exact⟨j,by omega,h3⟩
 ·rcases q5 with q5| ⟨j,h1,h2,h3⟩
  ·exact⟨0,by decide,q5⟩
  ·exact⟨j,by omega,h3⟩
end
theorem ajA{x:Ri}(h:∃q,In q x)(ha:x.all=false):zI x.lo<=zI x.hi:=by
 obtain⟨q,rfl| ⟨_,_,h1,h2⟩⟩:=h
 ·cases ha
 ·exact D4.1 (Rat.le_trans h1 h2)
theorem aqE{x y:Ri}(hx:VI x)(hy:VI y)(i:Nat):vd (gL x y i).1=true/\vd (gL x y i).2=true:=by
 unfold gL;split
 ·exact⟨hx.1.1,hy.1.1⟩
 ·exact⟨hx.1.1,hy.2.1⟩
 ·exact⟨hx.2.1,hy.1.1⟩
 ·exact⟨hx.2.1,hy.2.1⟩
theorem auu{d:Rd}{p:Int}{n:Nat}{up:Bool}:vd (pw d n p up).1=true:=by
 unfold pw;exact(U4 _ _ Lt).1
theorem Qu{d:Rd}(v:vd d=true):vd (s9 d)=true/\zI (s9 d)=((zI d).natAbs:Int):=by
 unfold s9;by_cases h:d.m.length=0
 ·rw[if_pos (Or.inr h),cZ h];exact⟨rfl,cZ rfl⟩
 ·refine⟨?_,?_⟩
  ·simp_all[vd,if_neg]
  grind[zI,mg]
theorem ajB{d:Rd}(v:vd d=true):(0<gx d↔0<zI d)/\(gx d<0↔zI d<0):=by
 have h0:d.m.length=0->zI d=0:=cZ;have hp:d.m.length≠0->0<mg d:=fun h=>by
  exact Nat.mul_pos (by grind[Ej]) (aze _)
 unfold gx;by_cases h:d.m.length=0
 ·omega
 ·grind[zI]
theorem aqF{x:Ri}(h:VI x)(hle:zI x.lo<=zI x.hi):vd (B7 x)=true/\zI (B7 x)=(if 0<zI x.lo then zI x.lo else if zI x.hi<0 then-zI x.hi else 0):=by
 obtain⟨a1,a2⟩:=Qu h.1.1;obtain⟨b1,b2⟩:=Qu h.2.1;obtain⟨s1,s2⟩:=ajB h.1.1;obtain⟨t1,t2⟩:=ajB h.2.1;have c:=Qs a1 b1;unfold B7 K9 lu;by_cases k1:0<zI x.lo
 ·grind
 ·rw[if_neg (mt s1.1 k1),if_neg k1];by_cases k2:zI x.hi<0
  ·grind
  ·rw[if_neg (mt t2.1 k2),if_pos rfl,if_neg k2];exact⟨rfl,cZ rfl⟩
theorem aqG{x:Ri}(h:VI x):vd (I8 x)=true/\zI (I8 x)=(if(zI x.lo).natAbs<=(zI x.hi).natAbs then((zI x.hi).natAbs:Int)else(zI x.lo).natAbs):=by
 obtain⟨a1,a2⟩:=Qu h.1.1;obtain⟨b1,b2⟩:=Qu h.2.1;have c:=Qs a1 b1;grind[I8,lw]
theorem auv{w:Bool}{T d:Nat}(h:d<=T):rq w (2^T) d=2^ (T-d):=by
 have e:2^T=2^ (T-d)*2^d:=by rw[←azc];grind
 simp_all[rq,if_neg,Nat.mul_mod_left,Nat.mul_div_cancel,aze]
theorem agc{M j n m:Nat}{w:Bool}(h0:M≠0)(hn:8<=n/\n<=512)(hm:m<16384)(h:M<=2^ (16384+m+j)):
  (cQ M (-16384- (j:Int)) false (n:Int) w).2=0/\0<=zI (cQ M (-16384- (j:Int)) false (n:Int) w).1/\zI (cQ M (-16384- (j:Int)) false (n:Int) w).1<=((2^ (16384+m):Nat):Int):=by
 have hd:dR M n j<=16384+m+j:=by
  have:=bD.2 (azt h (Nat.pow_lt_pow_right δ (Nat.lt_succ_self _)));unfold dR;split<;>omega
 have h1:rq w M (dR M n j)*2^dR M n j<=2^ (16384+m+j):=by
  refine ay3 (ay7 _ (alF h)) ?_;rw[auv hd,←azc];exact azD δ ω
 obtain⟨c1,c2⟩:=(alG (w:=w) (j:=j) h0 hn).1 (azt h1 (Nat.pow_lt_pow_right δ ω));have c3:=an9 (w:=w) (j:=j) h0 hn c1;refine⟨c1,c3,?_⟩;have h2:zI (cQ M (-16384- (j:Int)) false (n:Int) w).1*((2^j:Nat):Int)<=((2^ (16384+m):Nat):Int)*((2^j:Nat):Int):=by
  rw[←Int.natCast_mul,←azc];refine Int.le_trans (Int.le_of_eq ?_) (Int.ofNat_le.2 h1);rw[←c2];simp
 exact Int.le_of_mul_le_mul_right h2 (Int.ofNat_lt.2 (aze j))
theorem Ys{z:Int}{j n m:Nat}{up:Bool}(hn:8<=n/\n<=512)(hm:m<16384)(h:z.natAbs<=2^ (16384+m+j)):
  (jV z (-16384- (j:Int)) n up).2=0/\(zI (jV z (-16384- (j:Int)) n up).1).natAbs<=2^ (16384+m):=by
 rcases Int.lt_trichotomy z 0 with a|rfl|a
 ·rw[alH a];obtain⟨s1,s2⟩:=aoa (M:=z.natAbs) (f:=-16384- (j:Int)) (p:=n) (w:=!up);obtain⟨b1,b2,b3⟩:=agc (w:=!up) (show z.natAbs≠0 by omega) hn hm h;omega
 ·simp_all[adp,cZ,aG,azH]
 ·rw[alI a];obtain⟨b1,b2,b3⟩:=agc (w:=up) (show z.natAbs≠0 by omega) hn hm h;omega
def Ld(m:Nat)(d:Rd):Prop:=(zI d).natAbs<=2^ (16384+m)
theorem Ld.up{m k:Nat}{d:Rd}(h:Ld m d)(hk:m<=k):Ld k d:=ay3 h (azD δ ω)
theorem aa8{a b:Rd}{p:Int}{m:Nat}{up:Bool}(va:vd a=true)(vb:vd b=true)(hp:bO p=true)(hm:m+1<16384)(ha:Ld m a)(hb:Ld m b):(di a b p up).2=0/\Ld (m+1) (di a b p up).1:=by
 obtain⟨f1,n,rfl,hn⟩:=Yr va vb hp;unfold di;rw[if_pos f1];refine Ys (j:=0) hn hm ?_;unfold Ld at ha hb;have e:2^ (16384+(m+1)+0)=2^ (16384+m)+2^ (16384+m):=by rw[azA,←az0,azO];omega
 omega
theorem aa9{a b:Rd}{p:Int}{m k:Nat}{up:Bool}(va:vd a=true)(vb:vd b=true)(hp:bO p=true)(hm:m+k<16384)(ha:Ld m a)(hb:Ld k b):(fS a b p up).2=0/\Ld (m+k) (fS a b p up).1:=by
 obtain⟨f1,n,rfl,hn⟩:=Yr va vb hp;unfold fS;rw[if_pos f1];refine Ys (j:=16384) hn hm ?_;rw[Int.natAbs_mul,show 16384+(m+k)+16384=(16384+m)+(16384+k)by omega,azc];exact Nat.mul_le_mul ha hb
theorem alN{a:Rd}{p:Int}{m:Nat}{up:Bool}(va:vd a=true)(hp:bO p=true)(hm:m<16384)(ha:Ld m a):(cu a p up).2=0/\Ld m (cu a p up).1:=by
 have hp2:=A7 hp;unfold cu;rw[if_pos (by grind[aY])];obtain⟨n,rfl⟩:∃n:Nat,p=n:=⟨p.toNat,by omega⟩;exact Ys (j:=0) ω hm ha
theorem agd{a:Rd}{p:Int}{up:Bool}(va:vd a=true)(hp:bO p=true)(ha:Ld 0 a):∀ (k:Nat) (r:Rd×Int),vd r.1=true->r.2=0->Ld 0 r.1->(ns a p up k r).2=0/\Ld 0 (ns a p up k r).1
 |0,r,_,h1,h2=>⟨h1,h2⟩
 |k+1,r,vr,h1,h2=>by
  unfold ns;rw[if_pos h1];obtain⟨m1,m2⟩:=aa9 (up:=up) vr va hp δ h2 ha;exact agd va hp ha k _ Lu.1 m1 m2
theorem aqH{a:Rd}{p:Int}{n:Nat}{up:Bool}(va:vd a=true)(hp:bO p=true)(ha:Ld 0 a):(pw a n p up).2=0/\Ld 0 (pw a n p up).1:=by
 obtain⟨m1,m2⟩:=alN (up:=up) va hp δ ha;exact agd va hp ha _ _ Lt.1 m1 m2
theorem aba{a:Rd}{p:Int}{n:Nat}{up:Bool}(va:vd a=true)(hp:bO p=true)(ha:Ld 0 a):(rT a n p up).2=0/\Ld 0 (rT a n p up).1:=by
 grind[rT,aqH,Ld,go,g1,Int.natAbs_neg,zF,auu]
structure Bd (m:Nat) (x:Ri):Prop where
 i:∃q,In q x
 a:x.all=false
 l:Ld m x.lo
 h:Ld m x.hi
theorem Bd.up{m k:Nat}{x:Ri}(h:Bd m x)(hk:m<=k):Bd k x:=⟨h.i,h.a,h.l.up hk,h.h.up hk⟩
theorem Bd.v{m:Nat}{x:Ri}(h:Bd m x):VI x:=h.i.elim fun _ h=>h.vi
theorem Bd.k{m:Nat}{x:Ri}(h:Bd m x):kI x=true:=aqD h.i h.a
theorem alO{x y:Ri}{p:Int}{m:Nat}(hp:bO p=true)(hm:m+1<16384)(hx:Bd m x)(hy:Bd m y):Bd (m+1) (gJ x y p):=by
 obtain⟨q,ix⟩:=hx.i;obtain⟨r,iy⟩:=hy.i;have hi:=Ib (p:=p) ix iy;obtain⟨a1,a2⟩:=aa8 (up:=false) ix.vi.1.1 iy.vi.1.1 hp hm hx.l hy.l;obtain⟨a3,a4⟩:=aa8 (up:=true) ix.vi.2.1 iy.vi.2.1 hp hm hx.h hy.h;have e:gJ x y p=⟨(di x.lo y.lo p false).1,(di x.hi y.hi p true).1,false⟩:=by
  unfold gJ uX;rw[hx.k,hy.k,hp,azs,azs,if_pos rfl,if_pos ⟨a1,a3⟩]
 rw[e]at hi⊢;exact⟨⟨_,hi⟩,rfl,a2,a4⟩
theorem abb{x y:Ri}{p:Int}{m k:Nat}(hp:bO p=true)(hm:m+k<16384)(hx:Bd m x)(hy:Bd k y):Bd (m+k) (gX x y p):=by
 obtain⟨q,ix⟩:=hx.i;obtain⟨r,iy⟩:=hy.i;have hi:=Ch (p:=p) ix iy;have lx:∀i,Ld m (gL x y i).1:=fun i=>by unfold gL;split;exact hx.l;exact hx.l;exact hx.h;exact hx.h
 have ly:∀i,Ld k (gL x y i).2:=fun i=>by unfold gL;split;exact hy.l;exact hy.h;exact hy.l;exact hy.h
 have key:∀i up,(fS (gL x y i).1 (gL x y i).2 p up).2=0/\Ld (m+k) (fS (gL x y i).1 (gL x y i).2 p up).1:=fun i up=>by
  obtain⟨v1,v2⟩:=aqE ix.vi iy.vi i;grind[aa9]
 obtain⟨t,t0,_,⟨j,_,t1⟩,j',_,t2⟩:=adq (dn:=fun a b=>fS a b p false) (up:=fun a b=>fS a b p true) (pr:=gL x y) (fun a b=>Lu.1) (fun a b=>Lu.1) fun i _=>⟨(key i false).1,(key i true).1⟩;have e:gX x y p=⟨t.1,t.2,false⟩:=by
  unfold gX;rw[hx.k,hy.k,hp,azs,azs,if_pos rfl,t0];rfl
 rw[e]at hi⊢;refine⟨⟨_,hi⟩,rfl,?_,?_⟩
 all_goals grind
theorem OE{n:Bool}{k:Nat}:zI ⟨n,[1],(k:Int)⟩=bG n (2^ (16384+k)):=by
 have h1:zI ⟨n,[1],(k:Int)⟩=bG n (mg ⟨n,[1],(k:Int)⟩):=rfl;rw[h1];unfold mg;rw[show((k:Int)+16384).toNat=16384+k by omega]
 simp_all[ab,Nat.one_mul]
theorem alP{n:Bool}{a:Nat}:(bG n a).natAbs=a:=by
 grind[bG]
theorem auw{n:Bool}{k:Nat}:Ld k ⟨n,[1],(k:Int)⟩:=by
 simp_all[Ld,OE,alP,ayZ]
theorem Qv:Ld 0 one:=auw (k:=0)
theorem SA{x:Ri}{n:Nat}{p:Int}(hp:bO p=true)(h16:n<=16)(hx:Bd 0 x):Bd 0 (AY x n p):=by
 obtain⟨q,ix⟩:=hx.i;have hi:=Mn (n:=n) (p:=p) ix;have e0:=hx.k;unfold AY at hi⊢;rw[if_pos (by rw[e0,hp];simp[h16])]at hi⊢;by_cases h0:n=0
 ·rw[if_pos h0]at hi⊢;exact⟨⟨_,hi⟩,rfl,Qv,Qv⟩
 ·rw[if_neg h0]at hi⊢;have hX:(vd (if n%2=0 then wj x else x).lo=true/\vd (if n%2=0 then wj x else x).hi=true)/\Ld 0 (if n%2=0 then wj x else x).lo/\Ld 0 (if n%2=0 then wj x else x).hi:=by
   have b1:=hx.l;have b2:=hx.h;split
   ·unfold wj;obtain⟨m1,m2⟩:=aqF ix.vi (ajA hx.i hx.a);obtain⟨g1,g2⟩:=aqG ix.vi;grind[Ld,b2,g1,zI,B7,I8]
   ·exact⟨⟨ix.vi.1.1,ix.vi.2.1⟩,b1,b2⟩
  obtain⟨⟨v1,v2⟩,l1,l2⟩:=hX;obtain⟨a1,a2⟩:=aba (n:=n) (up:=false) v1 hp l1;obtain⟨a3,a4⟩:=aba (n:=n) (up:=true) v2 hp l2;unfold uX at hi⊢;rw[if_pos ⟨a1,a3⟩]at hi⊢;exact⟨⟨_,hi⟩,rfl,a2,a4⟩
theorem alQ{x:Ri}{n:Nat}{p:Int}(hp:bO p=true)(h16:n<=32)(hx:Bd 0 x):Bd 0 (Fy x n p):=by
 unfold Fy;split
 ·grind[SA]
 ·exact abb (m:=0) (k:=0) hp δ (SA hp ω hx) (SA hp ω hx)
theorem age{p:Int}{m:Nat}(hp:bO p=true)(hm:m<16384):∀ (ds:List Ri) (es:List Int) (x:Ri),(∀d∈ds,Bd 0 d)->(∀e∈es,e<=32)->Bd m x->Bd m (Le p ds es x)
 |[],es,x,_,_,h=>by cases es<;>exact h
 |d::ds,[],x,_,_,h=>h
 |d::ds,e::es,x,hd,he,h=>by
  refine age hp hm ds es _ (fun i hi=>hd i γ) (fun i hi=>he i γ) ?_;split
  ·have:=he e σ;exact abb (m:=m) (k:=0) hp hm h (alQ hp ω (hd d σ))
  omega
theorem agf{p:Int}{ds:List Ri}{m:Nat}(hp:bO p=true)(hd:∀d∈ds,Bd 0 d):∀ (l:List Rt) (k:Nat) (s:Ri),m+k+l.length<16384->(∀t∈l,vd t.c=true/\Ok0 t.c/\Ld m t.c/\∀e∈t.exps,e<=32)->Bd (m+k) s->Bd (m+k+l.length) (P1 p ds l s)
 |[],_,_,_,_,h=>h
 |t::l,k,s,hl,ht,h=>by
  show Bd _ (P1 p ds l (gJ s (Le p ds t.exps ⟨t.c,t.c,false⟩) p));obtain⟨c1,c2,c3,c4⟩:=ht t σ;have hl2:m+k+(l.length+1)<16384:=hl;have:=agf hp hd l (k+1) _ ω (fun t ht'=>ht t γ) (alO (m:=m+k) hp ω h ((age hp ω ds t.exps _ hd c4 ⟨⟨_,xe c1 c2⟩,rfl,c3,c3⟩).up (Nat.le_add_right m k)));grind
theorem te{m:Nat}:Bd m bc:=by
 have h:Ld m aG:=by unfold Ld;rw[cZ rfl];grind
 exact⟨⟨_,xe aV.1 aV.2⟩,rfl,h,h⟩
theorem Sb.bd{m:Nat}{x y:Ri}(h:Sb x y)(hy:Bd m y):Bd m x:=by
 obtain⟨i,rfl| ⟨h1,h2,_,h3,h4⟩⟩:=h
 ·cases hy.a
 ·have:=ajA i h1;have l1:=hy.l;have l2:=hy.h;unfold Ld at l1 l2;refine⟨i,h1,?_,?_⟩<;> (unfold Ld;generalize 2^ (16384+m)=T at*;omega)
inductive Mrg:List Rt->List Rt->List Rt->Prop
 |nil:Mrg [] [] []
 |left {A r1 r2:List Rt} {t:Rt}:Mrg A r1 r2->Mrg (t::A) (t::r1) r2
 |right {A r1 r2:List Rt} {t:Rt}:Mrg A r1 r2->Mrg (t::A) r1 (t::r2)
 |both {A r1 r2:List Rt} {t:Rt} {c d:Rd}:Mrg A r1 r2->jD c d=(t.c,0)->Mrg (t::A) (⟨t.exps,c⟩::r1) (⟨t.exps,d⟩::r2)
theorem Mrg.mem{A r1 r2:List Rt}(h:Mrg A r1 r2):(∀y∈r1,∃t∈A,y.exps=t.exps)/\∀y∈r2,∃t∈A,y.exps=t.exps:=by
 induction h with
 |nil=>grind
 |left h ih=>
  grind
 |right h ih=>
  grind
 |both h _ ih=>
  grind
def inc(l:List Int)(i:Nat):List Int:=l.set i (l.getD i 0+1)
theorem Ih(l:List Int)(i:Nat):(inc l i).length=l.length:=by simp[inc]
theorem aoc{l:List Int}{i:Nat}(h:i<l.length):(inc l i).getD i 0=l.getD i 0+1:=by
 grind[inc]
theorem alR{l:List Int}{i:Nat}(h:i<l.length):dec (inc l i) i=l:=by
 simp_all[dec,aoc,inc,List.set_set,Int.add_sub_cancel,List.set_getElem_self]
theorem Ep{l:List Int}{i:Nat}(h:i<l.length):aS (inc l i)=aS l+1:=by
 grind[aaU,inc,Ih,alR]
def aiS(x:List Int):Rt:=⟨x,one⟩
def aux(v:Int)(t:Rt)(i:Nat):Rp:=⟨v,[aiS (inc t.exps i)]⟩
structure VS (v:Int) (i:Nat) (t:Rt):Prop where
 vt:VT v t
 hd:aS t.exps<=16
 hi:i<t.exps.length
theorem SB{l:List Int}{i:Nat}(h:∀e∈l,0<=e/\e<=32)(hi:i<l.length):0<=l.getD i 0/\l.getD i 0<=aS l:=by
 simp_all[Ek]
theorem VS.inc{v:Int}{i:Nat}{t:Rt}(h:VS v i t){d:Rd}(od:Ok0 d)(vdd:vd d=true)(nd:d.m.length≠0):VT v ⟨inc t.exps i,d⟩:=by
 obtain⟨x1,x2⟩:=SB h.vt.b h.hi;have:=h.hd;refine⟨od,by rw[Ih];exact h.vt.len,h.vt.v8,vdd,nd,fun e he=>?_,by rw[Ep h.hi];omega⟩;rcases List.mem_or_eq_of_mem_set he with h2|rfl
 ·exact h.vt.b e h2
 omega
theorem VS.one{v:Int}{i:Nat}{t:Rt}(h:VS v i t):VT v (aiS (Go.Ab.inc t.exps i)):=h.inc dW.2 dW.1 δ
theorem VS.oneC{v:Int}{i:Nat}{t:Rt}(h:VS v i t):Cl v [aiS (Go.Ab.inc t.exps i)]:=Cl.mk' h.one (fun _ h=>nomatch h) (Cl.nil _)
theorem VS.vp{v:Int}{i:Nat}{t:Rt}(h:VS v i t)(h0:0<=v):vp (aux v t i)=true:=U0 h.oneC h0 h.vt.v8 γ
theorem VS.intD{v:Int}{i:Nat}{t:Rt}(h:VS v i t):Ok0 (intD (t.exps.getD i 0+1))/\vd (intD (t.exps.getD i 0+1))=true:=by
 obtain⟨x1,x2⟩:=SB h.vt.b h.hi;have:=h.hd;obtain⟨k1,k2,_⟩:=ak6 (e:=t.exps.getD i 0+1) ω ω;grind
def m9(v i:Nat):List Int:=(iL v).set i 1
def Jn(v i:Nat):Rp:=⟨v,[⟨m9 v i,one⟩]⟩
theorem Jo(v i:Nat):(m9 v i).length=v:=by simp[m9,iL]
theorem OF{v i:Nat}(h:i<v):aS (m9 v i)=1:=by
 have:=Ep (l:=iL v) (i:=i) (by grind[iL]);grind[Em,inc,iL,m9]
theorem agh{v i:Nat}(h8:v<=8)(h:i<v):VT v ⟨m9 v i,one⟩:=by
 refine⟨dW.2,by grind[m9,Jo],by omega,dW.1,(by show(1:Nat)≠0;decide),fun e he=>?_,by grind[OF]⟩;rcases List.mem_or_eq_of_mem_set he with h|rfl
 ·exact U5 e h
 omega
theorem aod{v:Nat}{i:Int}:R F.poly_Var [I v,I i] []=some (if v<=8/\0<=i/\i<v then pV (Jn v i.toNat,0)else pV (p0,2),[]):=by
 refine av acz rfl ?_;have e1:((v:Int)<0)=False:=ff;by_cases g:v<=8/\0<=i/\i<v
 ·rw[if_pos g];obtain⟨h8,g1,g2⟩:=g;obtain⟨n,rfl⟩:=az4 g1;have hn:n<v:=ω
  have e2:(8< (v:Int))=False:=ff;have e3:((n:Int)<0)=False:=ff;have e4:((v:Int)<=(n:Int))=False:=ff;have z1:lI (.v (.int .i64 (v:Int))) (.v (.int .i64 (v:Int)))=some (v,v):=by
   grind[lI]
  have z2:(v*8<=140737488355328)=True:=tt;have he:=Ce (v:=v);have h1:=La;simp only[af,ak]at h1;have ei:Int.toNat (n:Int)=n:=ay4 _;have k0:(aI (iL v)).set n [I 1]=aI (m9 v n):=Sd _ _ _;have k3:(aI (iL v))[n]?=some [I 0]:=by grind[aI,iL]
  have e7:(0<=(n:Int)/\(n:Int)< (v:Int))=True:=eq_true ⟨by omega,by omega⟩;simp only[uk,Ak,go_sem,e1,e2,e3,e4,h1,he,qx,z1,z2,X8,e7,ei,k0,k3,ayX];have k1:(v<=(m9 v n).length)=True:=eq_true (by simp_all[Jo,ayZ]);have k2:(aI (m9 v n)).take v=aI (m9 v n):=azg (by simp_all[rU,Jo,ayZ]);simp only[k1,k2,go_sem];have hadd:=dB (aQ.1.2.1 false) rfl (qw (d:=34) (id:=2240) (v:=v) (e:=0) (e':=0) (c:=.emp) (l:=[]) (x:=m9 v n) (q:=one) (h:=upd (upd (upd (upd (upd (fun _=>.dead) 4 (.bx [I 0,.emp])) 25 (.ar 1 (aI (iL v)))) 25 (.ar 1 (aI (m9 v n)))) 2240 (.bx [I v,.emp,I 0])) 25 (.fz 1 (aI (m9 v n)))) rfl (.inr ⟨rfl,rfl⟩) (.inl rfl) (Ol (agh h8 hn)));simp only[af,ak,t3]at hadd;simp only[hadd,go_sem];obtain⟨o,hdn⟩:=C1 (v:=v) (e:=0) (c:=.osl 4 (aD [⟨m9 v n,one⟩])) (l:=[⟨m9 v n,one⟩]) (d:=36) (id:=2240) (h:=upd (upd (upd (upd (upd (upd (fun _=>.dead) 4 (.bx [I 0,.emp])) 25 (.ar 1 (aI (iL v)))) 25 (.ar 1 (aI (m9 v n)))) 2240 (.bx [I v,.emp,I 0])) 25 (.fz 1 (aI (m9 v n)))) 2240 (.bx [I v,.osl 4 (aD [⟨m9 v n,one⟩]),I 0])) rfl (.inl rfl) rfl;have hd':=dB (bt.1.2.1 false) rfl hdn;rw[hd'];have e4:pj v (some [⟨m9 v n,one⟩])=(Jn v n,0):=rfl;have e5:=Eh [⟨m9 v n,one⟩];rw[e4];simp only[pV,be,e5,go_sem]
 ·rw[if_neg g];by_cases g1:v<=8
  ·have e2:(8< (v:Int))=False:=ff;by_cases g2:0<=i
   ·have e3:(i<0)=False:=ff;have e4:((v:Int)<=i)=True:=tt;simp only[uk,Ak,go_sem,e1,e2,e3,e4];rfl
   ·have e3:(i<0)=True:=tt;simp only[uk,Ak,go_sem,e1,e2,e3];rfl
  ·have e2:(8< (v:Int))=True:=tt;simp only[uk,Ak,go_sem,e1,e2];rfl
noncomputable def xQ (s:Rs) (i:Int):Rm:=if(l6 s&&decide (0<=i/\i<s.dom.length))=true then⟨Jn s.dom.length i.toNat,bc⟩else kF s
theorem SC{s:Rs}{i:Int}(os:OkS s):R F.model_Var [xu s,I i] []=some (oJ (xQ s i),[]):=by
 refine av Zf rfl ?_;have h1:=pA os.d os.n;have h2:=Eo (s:=s);have h3:=aod (v:=s.dom.length) (i:=i);have h4:=TQ;unfold xQ;by_cases g:s.dom.length<=8/\0<=i/\i<s.dom.length
 ·rw[if_pos g]at h3;rw[decide_eq_true g.2,az1];simp only[pV,be,ap,ax]at h3 h4;cases g1:l6 s with
  |false=>
   rw[g1]at h1;simp only[rk,xT,go_sem,h1,h2,h3]
  |true=>
   rw[g1]at h1;simp only[rk,xT,go_sem,h1,h3,h4]
 ·rw[if_neg g]at h3;have gf:(l6 s&&decide (0<=i/\i<s.dom.length))=false:=by
   grind[g1,l6,decide_eq_false,pB]
  rw[gf,if_neg ay9];simp only[pV,be,p0]at h3;have f:((2:Int)=0)=False:=eq_false δ;cases g1:l6 s with
  |false=>
   rw[g1]at h1;simp only[rk,xT,go_sem,h1,h2,h3]
  |true=>
   rw[g1]at h1;simp only[rk,xT,go_sem,h1,h2,h3,f]
noncomputable def LD (s:Rs) (x:Ri):Rm:=if(l6 s&&kI x)=true then D6 s (Yd s.dom.length (ze x s.p)) 0 (Hl x ⟨ze x s.p,ze x s.p,false⟩ s.p)else kF s
theorem alS{v:Nat}{c:Rd}(h8:v<=8)(oc:Ok0 c)(vc:vd c=true):Cl v (Yc v c):=by
 grind[Yc,Cl.nil,Cl.mk',afO]
theorem agi{s:Rs}{x:Ri}(os:OkS s)(ox:OkI x):R F.model_Const [xu s,ap x] []=some (oJ (LD s x),[]):=by
 refine av Uj rfl ?_;have h1:=pA os.d os.n;have h2:=Eo (s:=s);have hv:=qt ox;unfold LD;simp only[ap,ax]at hv;cases g:l6 s with
 |false=>
  rw[g]at h1;simp only[nD,tw,ap,ax,go_sem,h1,h2]
 |true=>
 rw[g]at h1;unfold kI;cases g2:x.all with
 |true=>
  simp only[nD,tw,ap,ax,go_sem,h1,h2,g2]
 |false=>
 rw[g2]at hv;cases g3:vi x with
 |false=>
  rw[g3]at hv;simp only[nD,tw,ap,ax,go_sem,h1,h2,g2,hv]
 |true=>
 rw[g3]at hv;have h8:=(pB g).1;have hl:s.dom.length<=100000:=ω
 have hm:=an7 ox (p:=s.p);obtain⟨mv,mo⟩:=alD (p:=s.p) ox;have hs:=aiz h8 mo mv;have hp:=jY mo mv;have pok:OkI ⟨ze x s.p,ze x s.p,false⟩:=⟨mo,mo⟩;have u1:=Sl ox pok (p:=s.p);have h5:=Jm (q:=Yd s.dom.length (ze x s.p)) (e:=0) (r:=Hl x ⟨ze x s.p,ze x s.p,false⟩ s.p) os (A6 (alS h8 mo mv)) aa7 hl;simp only[pV,be,ap,ax,af,ak,g2]at hm hs hp u1 h5;simp only[nD,tw,ap,ax,go_sem,h1,h5,g2,hv,hm,hs,hp,u1]
theorem aoe{neg:Bool}{M n:Nat}{e:Int}(h:M<=2^n)(hn:1<=n):ae (ab (br neg M e).m)<=n:=by
 by_cases h0:M=0
 ·subst h0;exact azH _
 ·obtain⟨k1,_,k3,_⟩:=qF (neg:=neg) (e:=e) h0;rw[k1,bD];have h2:M/2^tz M<=M:=Nat.div_le_self _ _;grind
theorem OG{a:Rp}{o:Int}(ho:-1<=o)(h:∀t∈a.terms,aS t.exps<=o):gM a<=o:=by
 grind[gM]
theorem My{s:Rs}(h:l6 s=true):1<=s.dom.length/\1<=s.ord:=by
 simp_all[l6,ay1,decide_eq_true_eq]
theorem ajC{s:Rs}{m:Rm}(hs:l6 s=true)(c:Cl s.dom.length m.P.terms)(hv:m.P.vars=s.dom.length)(hl:m.P.terms.length<=500)(hd:∀t∈m.P.terms,aS t.exps<=s.ord)(hr:vi m.R=true)(hi:∀t∈m.P.terms,Bo t.c s.p=true):FU s m=true:=by
 unfold FU;have h8:=(pB hs).1;have hp:vp m.P=true:=by
  have:m.P=⟨(s.dom.length:Int),m.P.terms⟩:=by rw[←hv]
  grind[U0]
 rw[hs,hp,decide_eq_true hv,decide_eq_true (OG (by grind[My]) hd),hr,ay5,ay5,ay5,ay5,ay5,Bool.not_eq_true',List.any_eq_false];grind
theorem abc{n:Bool}{a k:Nat}:bG n (a*2^k)=bG n a*2^k:=by
 grind[bG,Int.natCast_mul,Int.neg_mul]
theorem Yt{c:Rd}{p:Int}{up:Bool}(ok:Ok0 c)(vc:vd c=true)(hp:bO p=true)(hb:(ae (ab c.m):Int)<=p):cu c p up=(c,0):=by
 have hp2:=A7 hp;by_cases h0:c.m.length=0
 ·grind[BY,Yf]
 have hi:(ae (ab c.m):Int)+c.e<=16384∧-16384<=c.e:=by
  have h:=vc;unfold vd at h;rw[if_neg h0]at h;have o:=Ej vc h0;simp only[ay1,decide_eq_true_eq]at h;have hi:=BZ h.2.2.2 (by have:=(kf (n:=ab c.m) (k:=0)).2 ω;omega);omega
 unfold cu;rw[if_pos (by grind[aY]),show zI c=bG c.neg (mg c)from rfl];unfold mg;rw[abc,K7,show(-16384:Int)+((c.e+16384).toNat:Int)=c.e by omega,←PX hp2];have hk:K8 (ab c.m) c.e p=0:=by grind[K8]
 simp_all[Fx,RM,ab,Nat.pow_zero,Nat.mod_one,Nat.div_one,B5,if_neg,Lg]
theorem agj{c:Rd}{p:Int}(ok:Ok0 c)(vc:vd c=true)(hp:bO p=true)(hb:(ae (ab c.m):Int)<=p):rg c p=(c,0):=by
 simp_all[rg,Yt,if_pos,Qq,adm]
theorem agk{c:Rd}(vc:vd c=true):m8 c c=(aG,0):=by
 unfold m8;rw[vc,azs,if_pos rfl,Int.sub_self];exact Cc rfl
theorem Yu{p:Int}(hp:bO p=true):∀ts:List Rt,(∀t∈ts,Ok0 t.c/\t.c.m.length≠0/\Bo t.c p=true)->Dz p ts=some (ts,[])
 |[],_=>rfl
 |t::ts,h=>by
  obtain⟨h1,h2,h3⟩:=h t σ;unfold Bo at h3;simp only[ay1,decide_eq_true_eq]at h3;have hn:=agj h1 h3.2.1 hp h3.2.2;unfold Dz;rw[hn,if_pos rfl,agk h3.2.1,if_pos rfl,Yu hp ts fun t ht=>h t (by simp[ht])];show some (dO t.exps t.c ts,dO t.exps aG [])=_;unfold dO;rw[if_neg h2,if_pos (show aG.m.length=0 from rfl)]
structure Fit (s:Rs) (q:Rp):Prop where
 v:q.vars=s.dom.length
 n:q.terms.length<=500
 c:Cl s.dom.length q.terms
 d:∀t∈q.terms,aS t.exps<=s.ord
 r:∀t∈q.terms,Bo t.c s.p=true
theorem Fit.ok{s:Rs}{q:Rp}(h:Fit s q):OkP q:=⟨fun t ht=>(h.c.t t ht).ok⟩
theorem Fit.vp{s:Rs}{q:Rp}(hs:l6 s=true)(h:Fit s q):vp q=true:=by
 have:=h.v;obtain⟨v,l⟩:=q;subst this;exact U0 h.c ω (by have:=(pB hs).1;omega) h.n
theorem agl{s:Rs}{q:Rp}(hs:l6 s=true)(h:Fit s q):lH q s.ord=(q,⟨q.vars,[]⟩):=by
 unfold lH;rw[if_pos (h.vp hs),List.filter_eq_self.2 fun t ht=>by exact decide_eq_true (h.d t ht),List.filter_eq_nil_iff.2 fun t ht=>by unfold Qi;rw[decide_eq_true (h.d t ht)];grind]
theorem agm{s:Rs}{q:Rp}(hs:l6 s=true)(h:Fit s q):qy q s.p=((q,⟨q.vars,[]⟩),0):=by
 have hp:=(pB hs).2;have hp2:=A7 hp;unfold qy;rw[if_pos (h.vp hs),if_neg ω,Yu hp _ fun t ht=>⟨(h.c.t t ht).c,(h.c.t t ht).nz,h.r t ht⟩]
theorem Co{p:Int}(hp:bO p=true):gJ bc bc p=bc:=by
 unfold gJ;rw[(te (m:=0)).k,hp,azs,azs,if_pos rfl];show uX (di aG aG p false) (di aG aG p true)=_;rw[afR,afR,Yf hp,Yf hp];rfl
theorem alT{v p:Int}{dom:List Ri}:qJ ⟨v,[]⟩ dom p=bc:=by
 simp_all[qJ,if_pos]
theorem alU{s:Rs}{q:Rp}(hs:l6 s=true)(h:Fit s q):DA s q=((q,bc),true):=by
 unfold DA;simp only[agl hs h,agm hs h,alT,Co (pB hs).2,←h.v];rfl
theorem FV{s:Rs}{q:Rp}(hs:l6 s=true)(h:Fit s q):D6 s q 0 bc=⟨q,bc⟩:=by
 simp_all[D6,alU,if_pos,Co,pB]
theorem Qw{r:Ri}{p:Int}(hk:kI r=true)(hp:bO p=true):gX r bc p=bc:=by
 obtain⟨_,v1,v2⟩:=ado hk;have e1:∀i,(gL r bc i).2=aG:=fun i=>by unfold gL;split<;>rfl
 have e2:∀i,vd (gL r bc i).1=true:=fun i=>by unfold gL;grind
 have e3:∀i up,fS (gL r bc i).1 (gL r bc i).2 p up=(aG,0):=fun i up=>by
  rw[e1];unfold fS;rw[if_pos (Yr (e2 i) Ye hp).1,cZ (d:=aG) rfl,Int.mul_zero,adp]
 unfold gX;rw[hk,hp,(te (m:=0)).k,azs,azs,if_pos rfl];unfold re;simp only[e3,and_self,if_true];have e4:∀k i,w9 (fun a b=>fS a b p false) (fun a b=>fS a b p true) (gL r bc) k i (aG,aG)=some (aG,aG):=fun k=>by
  induction k with
  |zero=>exact fun i=>rfl
  |succ k ih=>
   simp_all[w9,and_self,if_true,ite_self]
 rw[e4];rfl
theorem alV{x:Ri}(hv:OkI x)(h:Ck x dp=true):Bd 0 x:=by
 unfold Ck at h;split at h
 ·rename_i g;obtain⟨g1,g2,g3⟩:=g;simp only[dp,Bool.false_or,ay1,decide_eq_true_eq]at h;have h5:zI qI<=zI x.lo:=of_decide_eq_true h.1;have h6:zI x.hi<=zI one:=of_decide_eq_true h.2;have k:kI x=true:=by grind[kI,g1]
  obtain⟨_,v1,v2⟩:=ado k;have hl:zI x.lo<=zI x.hi:=by
   simp_all[vi,g1,if_neg,ay1,decide_eq_true_eq]
  have e1:zI one=((2^ (16384+0):Nat):Int):=OE (n:=false) (k:=0);have e2:zI qI=-((2^ (16384+0):Nat):Int):=OE (n:=true) (k:=0);refine⟨⟨qv x.lo,Or.inr ⟨g3,⟨⟨v1,hv.1⟩,⟨v2,hv.2⟩⟩,Rat.le_refl,D4.2 hl⟩⟩,g3,?_,?_⟩<;> (unfold Ld;generalize 2^ (16384+0)=T at e1 e2⊢;omega)
 grind[dp]
theorem agn{s:Rs}(os:OkS s)(hs:l6 s=true):∀x∈s.dom,Bd 0 x:=fun x hx=>by
 unfold l6 at hs;exact alV (os.d x hx) γ
theorem alW{s:Rs}(os:OkS s)(hs:l6 s=true){q:Rp}(hv:vp q=true)(h:q.vars=s.dom.length):pg q s.dom=true:=by
 unfold pg;rw[hv,decide_eq_true h.symm,ay5,ay5,Bool.not_eq_true',List.any_eq_false];exact fun x hx=>by rw[(agn os hs x hx).k];grind
theorem ago{s:Rs}(os:OkS s)(hs:l6 s=true){q:Rp}{m:Nat}(oq:OkP q)(hv:vp q=true)(h:q.vars=s.dom.length)(hc:∀t∈q.terms,Ld m t.c)(hm:m+q.terms.length<16384):Bd (m+q.terms.length) (qJ q s.dom s.p):=by
 have hp:=(pB hs).2;have hd:=alW os hs hv h;have hcl:=(jZ oq hv).1;by_cases h0:q.terms.length=0
 ·simp_all[qJ,if_pos,te]
 ·have hb:Bd (m+q.terms.length) (qu q s.dom s.p):=by
   unfold qu;rw[hd,hp,azs,if_pos rfl];exact agf (k:=0) hp (agn os hs) q.terms _ hm (fun t ht=>⟨(hcl.t t ht).vc,(hcl.t t ht).c,hc t ht,fun e he=>((hcl.t t ht).b e he).2⟩) te
  exact(aob oq os.d (by grind[pB]) hd hp h0 hb.a).bd hb
def J2(a b:Rat)(q:Rat->Rat->Rat):Prop:=∃C,0<=C/\∀x y,a<=x->x<=b->a<=y->y<=b→-C<=q x y/\q x y<=C
theorem J2.add{a b:Rat}{p q:Rat->Rat->Rat}(hp:J2 a b p)(hq:J2 a b q):J2 a b fun x y=>p x y+q x y:=by
 obtain⟨C,c0,hc⟩:=hp;obtain⟨D,d0,hd⟩:=hq;refine⟨C+D,by grind,fun x y h1 h2 h3 h4=>?_⟩;grind
theorem J2.mul{a b:Rat}{p q:Rat->Rat->Rat}(hp:J2 a b p)(hq:J2 a b q):J2 a b fun x y=>p x y*q x y:=by
 obtain⟨C,c0,hc⟩:=hp;obtain⟨D,d0,hd⟩:=hq;refine⟨C*D,Rat.mul_nonneg c0 d0,fun x y h1 h2 h3 h4=>?_⟩;obtain⟨u1,u2⟩:=hc x y h1 h2 h3 h4;obtain⟨v1,v2⟩:=hd x y h1 h2 h3 h4;show-(C*D)<=p x y*q x y/\p x y*q x y<=C*D;generalize p x y=u at*
 generalize q x y=v at*
 have k1:=Rat.mul_nonneg (show 0<=C-u by grind) (show 0<=D-v by grind);have k2:=Rat.mul_nonneg (show 0<=C+u by grind) (show 0<=D+v by grind);have k3:=Rat.mul_nonneg (show 0<=C-u by grind) (show 0<=D+v by grind);have k4:=Rat.mul_nonneg (show 0<=C+u by grind) (show 0<=D-v by grind);grind
theorem J2.c{a b:Rat}(k:Rat):J2 a b fun _ _=>k:=by
 rcases Rat.le_total (a:=0) (b:=k)with h|h
 ·exact⟨k,h,fun _ _ _ _ _ _=>by grind⟩
 ·exact⟨-k,by grind,fun _ _ _ _ _ _=>by grind⟩
def Smo(a b:Rat)(f g:Rat->Rat):Prop:=∃q,J2 a b q/\∀x y,f y-f x-g x*(y-x)=(y-x)*(y-x)*q x y
theorem Smo.lin{a b c d:Rat}{f g f' g':Rat->Rat}(h1:Smo a b f g)(h2:Smo a b f' g')(hd:d=c):Smo a b (fun x=>c*f x+f' x) fun x=>d*g x+g' x:=by
 obtain⟨q,hq,e⟩:=h1;obtain⟨q',hq',e'⟩:=h2;refine⟨fun x y=>d*q x y+q' x y,((J2.c _).mul hq).add hq',fun x y=>?_⟩;grind
def u8R(l:List Nat):List (List AV):=l.map fun k=>[.v (.int .u8 (k:Nat))]
@[go_sem] theorem awY(l:List Nat):(u8R l).length=l.length:=by simp[u8R]
def cE(dom:List Ri)(k j:Nat):Rd:=if k/2^j%2=1 then(dom.getD j ed).hi else(dom.getD j ed).lo
theorem Jp{z:Int}{k:Nat}{e:Int}:cx (z*((2^k:Nat):Int)) e=cx z (e+k):=by
 have hp:0< ((2^k:Nat):Int):=Int.natCast_pos.2 (aze k);generalize hP:(2^k:Nat)=P at hp;grind[Int.mul_nonneg,Int.le_of_lt,Int.mul_neg_of_neg_of_pos,cx,Int.natAbs_mul,Int.natAbs_natCast,jX]
theorem alX:∃k:Nat,(k:Int)=16384/\zI qI=-((2^k:Nat):Int):=by
 refine⟨(qI.e+16384).toNat,by simp[qI],?_⟩;grind[zI,qI,bG,mg,ab]
def auy:Rd:=⟨false,[1],1⟩
theorem Yv:fh one one=(one,0):=by
 unfold fh;rw[dW.1,azs,if_pos rfl];have h:zI one=((2^ (16384+0):Nat):Int):=OE (n:=false) (k:=0);have h2:=Jp (z:=zI one) (k:=16384+0) (e:=-32768);rw[←h]at h2;rw[h2,show(-32768:Int)+((16384+0:Nat):Int)=-16384 by omega,uq dW.2 dW.1,Cc dW.1]
def s0:Rs:=⟨[dp],2,24⟩
abbrev tX(n:Int)(c:Rd):Rt:=⟨[n],c⟩
def hP:Rp:=⟨1,[tX 3 auy,tX 4 one]⟩
theorem abd:In (qv qI) dp:=Or.inr ⟨rfl,Ms.2,Rat.le_refl,D4.2 (by
 rw[show zI qI=bG true (2^ (16384+0))from OE (k:=0),show zI dp.hi=bG false (2^ (16384+0))from OE (k:=0)];simp only[bG,if_true,azK,if_false];omega)⟩
theorem Yw{x:Ri}{q:Rat}(h:In q x)(ha:x.all=false):Ck x x=true:=Sb.ins ⟨⟨_,h⟩,Or.inr ⟨ha,ha,⟨_,h⟩,Int.le_refl _,Int.le_refl _⟩⟩
theorem z3:A8 s0.p bc [bc,bc]=bc:=by
 simp only[A8,Co (show bO s0.p=true from rfl)]
section
variable {s:Rs} {a b:Rm} {xs:List Rd} {ts:List Rat} {u v:Rat}
end
theorem aiT(o q:Ob):am [o,q]=upd (upd (fun _=>.dead) 1000 o) 1001 q:=by
 unfold am upd;funext i;by_cases h1:i=1001
 ·subst h1;rfl
 ·by_cases h2:i=1000
  ·subst h2;rfl
  ·simp only[h1,h2,if_false];split
   ·rw[List.getElem?_eq_none (by simp;omega)];rfl
   ·rfl
theorem aqI(k:Bool){f:FuncId}{fd:FD}{args:List AV}{o q:Ob}{r:AV×List Ob}(hE:cO.E f=none)(hC:cO.C f=some fd)(hk:cO.md.keep f=k)(h1:args.length=fd.np)
  (hz:je k fd.rs fd.res 2 (aj R (az k) fd.body (uw args) (upd (upd (fun _=>.dead) 1000 o) 1001 q))=some r):R f args [o,q]=some r:=by
 refine KX k hE hC hk h1 σ ?_;rw[aiT];exact hz
theorem ajE{h:ac}{o q:Ob}{rs:List (List Sh)}{vs us:List AV}{r:AV}(h0:((vs.flatMap cr).filter fun i=>!bk i)=[])(h1:h 1000=o)(h4:h 1001=q)(ho:aA [1000,1001] o=true)(hq:aA [1000,1001] q=true)(h2:uH h vs=some us)(h3:uI (bp rs us)=r):uv rs 2 h vs=some (r,[o,q]):=by
 have hp:de 2=[1000,1001]:=rfl;unfold uv;rw[h0,hp,h2,if_pos (by grind[kH])];grind
theorem aof{h:ac}{i:Nat}{o:Ob}(hh:h i=o):upd h i o=h:=by
 funext j;unfold upd;grind
section
variable {f g:FuncId} {h:ac} {d i j:Nat} {zas as':List AV} {o q:Ob} {res:AV}
end
def adr(d:Nat)(out:List Rm)(x:AV)(o:Ob):Prop:=(out=[]/\x=.emp/\o=.dead)\/(0<out.length/\x=.rsl d none 9 0 out.length/\o=.ar 9 (gN out))
abbrev Yx:=List (Nat×List AV×AV)
def Yy:Yx->FuncId->List AV->Option AV
 |[],_,_=>none
 |x::l,f,args=>if x.1=f then(if Be x.2.1 args=true then some x.2.2 else Yy l f args)else Yy l f args
def abe(a:Option AV)(hs:List Ob)(b:Option (AV×List Ob)):Option (AV×List Ob):=match a,hs with
 |some r,[]=>some (r,[])
 |_,_=>b
abbrev Lk:=FuncId->List AV->Option AV
def SD(e:Env)(T:Lk):Nat->iD
 |0=>fun _ _ _=>none
 |n+1=>fun f args hs=>abe (T f args) hs (match e.E f with
  |some g=>g args hs
  |none=>(e.C f).bind fun fd=>Kc (SD e T n) {e.md with nm:=e.md.keep f} n fd args hs)
def auz(e:Env)(T:Lk):Prop:=∀f args r,T f args=some r->gj e f args []=some (r,[])
theorem SE{e:Env}:∀ {T:Yx} {f:FuncId} {args:List AV} {r:AV},(∀x∈T,gj e x.1 x.2.1 []=some (x.2.2,[]))->Yy T f args=some r->gj e f args []=some (r,[])
 |[],f,args,r,_,h=>by cases h
 |x::l,f,args,r,ht,h=>by
  unfold Yy at h;split at h
  ·rename_i h1;split at h
   ·rename_i h2;cases h;have:=ht x σ;rw[h1,Aa h2]at this;exact this
   ·exact SE (fun y hy=>ht y (by simp[hy])) h
  ·exact SE (fun y hy=>ht y (by simp[hy])) h
theorem ug{call:iD}{md:Mode}{lf:Nat}:∀ (c:Cmd) {s:ai} {h:ac} {r:Ex×St},cI call md lf c s h=some r->aj call md c s h=some r
 | .skip,s,h,r,hz=>hz
 | .ops ks l,s,h,r,hz=>hz
 | .dops ks l ps,s,h,r,hz=>hz
 | .seq a b,s,h,r,hz=>by
  simp only[cI,cH]at hz;split at hz
  ·cases hz
  ·rename_i t1 ht1;simp only[aj,cH,ug a ht1,ug b hz]
  ·rename_i i t1 ht1;simp only[aj,cH,ug a ht1];exact hz
  ·rename_i t1 ht1;simp only[aj,cH,ug a ht1];exact hz
 | .cond c a b,s,h,r,hz=>by
  simp only[cI,sA]at hz;split at hz
  ·rename_i t ht;cases t with
   |true=>simp only[aj,sA,ht,if_true];exact ug a hz
   |false=>simp only[aj,sA,ht,azK,if_false];exact ug b hz
  ·cases hz
 | .block id ks a,s,h,r,hz=>by
  simp only[cI,ah]at hz;split at hz
  ·cases hz
  ·rename_i t1 ht1;simp only[aj,ah,ug a ht1];exact hz
  ·rename_i i t1 ht1;simp only[aj,ah,ug a ht1];exact hz
  ·rename_i t1 ht1;simp only[aj,ah,ug a ht1];exact hz
 | .loop ks hs a,s,h,r,hz=>by
  simp only[cI]at hz;simp only[aj,aq];rw[qB];exact⟨lf,fun k hk=>Ly (fun hh=>ug a hh) lf hk hz⟩
 | .exit id,s,h,r,hz=>hz
 | .ret,s,h,r,hz=>hz
 | .frz is a,s,h,r,hz=>by
  simp only[cI,bq]at hz;split at hz
  ·cases hz
  ·rename_i t1 ht1;simp only[aj,bq,ht1];exact ug a hz
theorem abf{e:Env}{T:Lk}(ht:auz e T):∀n,J0 (SD e T n) (gj e)
 |0=>fun f a hs r hz=>by cases hz
 |n+1=>fun f a hs r hz=>by
  have old:(match e.E f with|some g=>g a hs|none=>(e.C f).bind fun fd=>Kc (SD e T n) {e.md with nm:=e.md.keep f} n fd a hs)=some r->gj e f a hs=some r:=by
   intro hz;split at hz
   ·rename_i g hE;rw[II hE];exact hz
   ·rename_i hE;simp only[ayY]at hz;obtain⟨fd,hC,hz⟩:=hz;refine KA hE hC ?_;unfold Kc at hz;unfold V3;split at hz
    ·rename_i hcc;rw[if_pos hcc];cases hx:cI (SD e T n) {e.md with nm:=e.md.keep f} n fd.body (uw a) (am hs)with
     |none=>rw[hx]at hz;cases hz
     |some q=>
      rw[hx]at hz;rw[ug fd.body (kq (abf ht n) (ayZ n) fd.body hx)];exact hz
    ·cases hz
  unfold SD at hz;unfold abe at hz;split at hz
  ·rename_i r' hl;cases hz;exact ht _ _ _ hl
  ·exact old hz
theorem aiU{e:Env}:∀x∈ ([]:Yx),gj e x.1 x.2.1 []=some (x.2.2,[]):=fun _ h=>by cases h
theorem C3{e:Env}{x:Nat×List AV×AV}{T:Yx}(h1:gj e x.1 x.2.1 []=some (x.2.2,[]))(h2:∀x∈T,gj e x.1 x.2.1 []=some (x.2.2,[])):∀y∈x::T,gj e y.1 y.2.1 []=some (y.2.2,[]):=fun y hy=>by
 rcases List.mem_cons.1 hy with rfl|hy
 ·exact h1
 ·exact h2 y hy
theorem auA{e:Env}(T:Yx)(n:Nat)(x:Nat×List AV×AV)(ht:∀x∈T,gj e x.1 x.2.1 []=some (x.2.2,[]))(h:SD e (Yy T) n x.1 x.2.1 []=some (x.2.2,[])):gj e x.1 x.2.1 []=some (x.2.2,[]):=abf (fun _ _ _ h=>SE ht h) n _ _ _ _ h
def s2:Rs:=⟨[dp,dp],2,53⟩
abbrev tY(x y:Int)(c:Rd):Rt:=⟨[x,y],c⟩
def aP:Rp:=⟨2,[tY 1 0 one]⟩
def bP:Rp:=⟨2,[tY 0 1 one]⟩
def cP:Rp:=⟨2,[tY 1 1 one]⟩
def dP:Rp:=⟨2,[tY 1 0 qI,tY 1 1 one]⟩
theorem Qx{x y:Int}{c:Rd}(hx:0<=x/\x<=2)(hy:0<=y/\y<=2)(h:vd c=true/\Ok0 c)(h0:c.m.length≠0):VT 2 (tY x y c):=⟨h.2,rfl,by decide,h.1,h0,fun e he=>by grind,by show x+(y+0)<=32;omega⟩
theorem SF{v:Int}{a:Rt}(h:VT v a):Cl v [a]:=Cl.mk' h (fun _ h=>nomatch h) (Cl.nil _)
theorem Qy:Fit s2 aP:=⟨rfl,by decide,SF (Qx δ δ dW δ),by decide+revert,fun t ht=>by rw[List.mem_singleton.1 ht];decide⟩
theorem ads:Fit s2 bP:=⟨rfl,by decide,SF (Qx δ δ dW δ),by decide+revert,fun t ht=>by rw[List.mem_singleton.1 ht];decide⟩
theorem adt:Fit s2 cP:=⟨rfl,by decide,SF (Qx δ δ dW δ),by decide+revert,fun t ht=>by rw[List.mem_singleton.1 ht];decide⟩
theorem auB:Cl 2 dP.terms:=Cl.mk' (Qx δ δ Sw δ) (by decide+revert) (SF (Qx δ δ dW δ))
theorem aqJ:Fit s2 dP:=⟨rfl,by decide,auB,by decide+revert,by decide+revert⟩
theorem Qz:l6 s2=true:=by
 have h:=Yw abd rfl;unfold l6;simp[s2,h];rfl
theorem Yz:OkS s2:=by
 refine⟨fun x hx=>?_,by decide⟩;have e:x=dp:=by simpa [s2]using hx
 rw[e];exact Ms.1
theorem vm2{q:Rp}(h:Fit s2 q):FU s2 ⟨q,bc⟩=true:=ajC Qz h.c h.v h.n h.d ((te (m:=0)).i.elim fun _ h=>h.v) h.r
theorem ev2{a b:Rp}(ha:Fit s2 a)(hb:Fit s2 b):GM s2 [⟨a,bc⟩,⟨b,bc⟩]=true:=by
 grind[GM,Qz,vm2]
theorem aog:Dy aP bP=(cP,0):=by
 unfold Dy;simp only[aP,bP,tY,mO,oG,Jd,Yv,if_true,ay2,azE,azb];rfl
theorem aoh:FH cP aP=(dP,0):=by rfl
theorem mz2{q:Rp}(h:Fit s2 q)(hl:∀t∈q.terms,t.c=one):gX (qJ q s2.dom s2.p) bc s2.p=bc:=
 Qw (ago (m:=0) Yz Qz h.ok (h.vp Qz) h.v (fun t ht=>by grind[Qv]) (by have:=h.n;omega)).k rfl
theorem aqK:Cn s2 ⟨aP,bc⟩ ⟨bP,bc⟩=⟨cP,bc⟩:=by
 unfold Cn;rw[if_pos (ev2 Qy ads),aog,mz2 Qy (fun t ht=>by rw[List.mem_singleton.1 ht]),mz2 ads (fun t ht=>by rw[List.mem_singleton.1 ht]),Qw (te (m:=0)).k (show bO s2.p=true from rfl)];simp only[A8,Co (show bO s2.p=true from rfl)];exact FV Qz adt
theorem alY:FL bc=bc:=by
 unfold FL;rw[(te (m:=0)).k,if_pos rfl];have:go aG=aG:=by unfold go;exact if_pos (Or.inr rfl)
 show(⟨go aG,go aG,false⟩:Ri)=_;rw[this];rfl
theorem aqL:adn s2 ⟨cP,bc⟩ ⟨aP,bc⟩=⟨dP,bc⟩:=by
 unfold adn;rw[if_pos (ev2 adt Qy),aoh];show D6 s2 dP 0 (gJ bc (FL bc) s2.p)=_;rw[alY,Co (show bO s2.p=true from rfl)];exact FV Qz aqJ
theorem aqM:xQ s2 0=⟨aP,bc⟩:=by
 unfold xQ;rw[Qz];rfl
theorem aqN:xQ s2 1=⟨bP,bc⟩:=by
 unfold xQ;rw[Qz];rfl
theorem adu{q:Rp}(h:Fit s2 q):OkM ⟨q,bc⟩:=⟨fun t ht=>(h.c.t t ht).c,⟨aV.2,aV.2⟩,by have:=h.n;show q.terms.length<_;omega⟩
theorem aoi:R F.l27_awake [] []=some (B true,[]):=by
 have h0:=pA Yz.d Yz.n;have h1:=SC (i:=0) Yz;have h2:=SC (i:=1) Yz;have h3:=aa6 Yz (adu Qy) (adu ads);have h4:=alE Yz (adu adt) (adu Qy);rw[Qz]at h0;rw[aqM]at h1;rw[aqN]at h2;rw[aqK]at h3;rw[aqL]at h4;exact auA (e:=cO) [(F.model_ValidSpace,[xu s2],B true),(F.model_Var,[xu s2,I 0],oJ ⟨aP,bc⟩),(F.model_Var,[xu s2,I 1],oJ ⟨bP,bc⟩),(F.model_Mul,[xu s2,oJ ⟨aP,bc⟩,oJ ⟨bP,bc⟩],oJ ⟨cP,bc⟩),(F.model_Sub,[xu s2,oJ ⟨cP,bc⟩,oJ ⟨aP,bc⟩],oJ ⟨dP,bc⟩)] 100 (F.l27_awake,[],B true) (C3 h0 (C3 h1 (C3 h2 (C3 h3 (C3 h4 aiU))))) κ
theorem VS.ct{v:Int}{i:Nat}{t:Rt}(h:VS v i t):R F.model_whole [I (t.exps.getD i 0+1)] []=some (ap ⟨Go.Ab.intD (t.exps.getD i 0+1),Go.Ab.intD (t.exps.getD i 0+1),false⟩,[]):=by
 refine av JW rfl ?_;obtain⟨x1,x2⟩:=SB h.vt.b h.hi;have:=h.hd;have k1:=ak7 (x:=t.exps.getD i 0+1) ω ω;have k2:=jY h.intD.1 h.intD.2;simp only[ap,ax,af,ak]at k1 k2;simp only[wB,Df,ap,ax,go_sem,k1,k2]
theorem alZ:zI one=-zI qI:=by
 grind[zI,qI,bG,mg,one]
theorem aiV{d:Rd}(od:Ok0 d)(vdd:vd d=true):fh one d=(d,0):=by
 unfold fh;rw[vdd,dW.1,azs,if_pos rfl];obtain⟨k,hk,hz⟩:=alX;rw[alZ,hz,Int.neg_neg,Int.mul_comm,Jp,show(-32768:Int)+k=-16384 by omega,uq od vdd,Cc vdd]
section
variable {s:Rs} {a b:Rm} {xs:List Rd} {ts:List Rat} {u v:Rat}
end
def pw2(x:Ri)(n:Nat)(p:Int):Ri:=if n<=16 then AY x n p else gX (AY x 16 p) (AY x (n-16) p) p
def hv(cf:Nat->Rat)(x:Rat):Nat->Rat->Rat
 |0,y=>y
 |k+1,y=>hv cf x k (y*x+cf k)
section
variable {s:Rs} {a b:Rm} {xs:List Rd} {ts:List Rat} {u v:Rat}
structure VM (s:Rs) (m:Rm):Prop where
 ok:OkM m
 v:FU s m=true
end
def dG(n:Int):Rd:=br (decide (n<0)) n.natAbs 0
theorem ui{n:Int}(h:Xc n):vd (dG n)=true/\Ok0 (dG n):=by
 have hb:ae n.natAbs<=64:=bD.2 (by
  obtain⟨h1,h2⟩:=h;have:n.natAbs<=9223372036854775808:=ω
  exact azt this δ)
 unfold dG;by_cases g:n.natAbs=0
 ·rw[g,jv];exact aV
 exact⟨Ec (Of g ω δ ω),⟨wZ _ _ _,azt (yY (k:=128) ω) δ⟩⟩
theorem aok:KK=((2^ (16384+0):Nat):Int):=by
 have h:=aay (a:=one) (b:=one) (by rw[Yv]);rw[Yv]at h;have h1:zI one=((2^ (16384+0):Nat):Int):=OE (n:=false) (k:=0);have hp:∀k:Nat,0<2^k:=fun k=>aze k;have h2:=hp (16384+0);rw[h1]at h;generalize 2^ (16384+0)=T at*
 exact Int.eq_of_mul_eq_mul_left ω h
theorem SG{z e:Int}:cx (z*KK) e=cx z (e+16384):=by
 have h:=Jp (z:=z) (k:=16384+0) (e:=e);rw[←aok]at h;exact h
theorem abg{n:Int}(h:n.natAbs<=2^60):(cK (cx n 0)).2=0:=by
 have hb:ae n.natAbs<=61:=bD.2 (azt h δ);unfold cx;rw[B4 ω δ ω]
def C4(B:Nat)(z:Int):Prop:=∃n:Int,z=n*KK/\n.natAbs<=B
theorem C4.up{B C:Nat}{z:Int}(h:C4 B z)(hc:B<=C):C4 C z:=h.imp fun _ h=>⟨h.1,ay3 h.2 hc⟩
theorem aiW{a b:Rd}{B C:Nat}(va:vd a=true)(vb:vd b=true)(ha:C4 B (zI a))(hb:C4 C (zI b))(h:B+C<=2^60):(jD a b).2=0/\C4 (B+C) (zI (jD a b).1):=by
 obtain⟨n,h1,h2⟩:=ha;obtain⟨m,h3,h4⟩:=hb;have e:(jD a b).2=0:=by
  unfold jD;rw[va,vb,azs,if_pos rfl,h1,h3,←Int.add_mul,SG,show(-16384:Int)+16384=0 by omega];exact abg ω
 exact⟨e,n+m,by rw[aap e,h1,h3,Int.add_mul],by omega⟩
theorem abh{c:Rd}(oc:Ok0 c)(vc:vd c=true)(h:C4 (2^60) (zI c)):Bo c 64=true:=by
 obtain⟨n,h1,h2⟩:=h;unfold Bo;have e:=uq oc vc;rw[h1,SG,show(-16384:Int)+16384=0 by omega]at e;have hb:ae (ab c.m)<=60:=by
  rw[←e];unfold cx;exact aoe h2 δ
 rw[vc,decide_eq_true (by omega:(ae (ab c.m):Int)<=64)];rfl
def Wt:List Rt->Nat->Prop
 |[],_=>True
 |t::l,B=>∃n C,C4 n (zI t.c)/\Wt l C/\n+C<=B
theorem Wt.up:∀ {l:List Rt} {B C:Nat},Wt l B->B<=C->Wt l C
 |[],_,_,_,_=>trivial
 |_::_,_,_,⟨n,D,h1,h2,h3⟩,h=>⟨n,D,h1,h2,by omega⟩
theorem Wt.mem:∀ {l:List Rt} {B:Nat},Wt l B->∀t∈l,C4 B (zI t.c)
 |t::l,B,⟨n,D,h1,h2,h3⟩,y,hy=>by
  rcases List.mem_cons.1 hy with rfl|hy
  ·exact h1.up ω
  ·exact(h2.mem y hy).up ω
theorem Wt.app:∀ {l r:List Rt} {B C:Nat},Wt l B->Wt r C->Wt (l++r) (B+C)
 |[],r,B,C,_,h=>h.up ω
 |t::l,r,B,C,⟨n,D,h1,h2,h3⟩,h=>⟨n,D+C,h1,h2.app h,by omega⟩
theorem Wt.of{B:Nat}:∀ {l:List Rt},(∀t∈l,C4 B (zI t.c))->Wt l (B*l.length)
 |[],_=>trivial
 |t::l,h=>⟨B,B*l.length,h t σ,Wt.of fun x hx=>h x (by simp[hx]),by rw[azp,Nat.mul_succ];omega⟩
theorem YA{v:Int}{G:List Int->Prop}:∀ {l:List Rt} {t:Rt} {B C:Nat},Cl v l->VT v t->Wt l B->C4 C (zI t.c)->B+C<=2^60->(∀q∈l,G q.exps)->G t.exps->∃l',pi l t=some l'/\Wt l' (B+C)/\∀q∈l',G q.exps
 |[],t,B,C,_,_,_,h,_,_,g=>⟨[t],rfl,⟨C,0,h,trivial,by omega⟩,fun q hq=>by rw[List.mem_singleton.1 hq];exact g⟩
 |q::l,t,B,C,c,vt,⟨n,D,w1,w2,w3⟩,h,hB,gl,g=>by
  obtain⟨vq,_,c2⟩:=c.cons;have g2:∀x∈l,G x.exps:=fun x hx=>gl x (by simp[hx]);have gq:=gl q σ;unfold pi;split
  ·obtain⟨l',e,k1,k2⟩:=YA c2 vt w2 h ω g2 g;rw[e];exact⟨q::l',rfl,⟨n,D+C,w1,k1,by omega⟩,fun x hx=>(List.mem_cons.1 hx).elim (fun e=>e▸gq) (k2 x)⟩
  ·split
   ·obtain⟨e1,e2⟩:=aiW vq.vc vt.vc w1 h ω;rw[if_pos e1];refine⟨_,rfl,?_,?_⟩
    ·split
     ·exact w2.up ω
     ·exact⟨n+C,D,e2,w2,by omega⟩
    ·split
     ·exact g2
     ·exact fun x hx=>(List.mem_cons.1 hx).elim (fun e=>e▸gq) (g2 x)
   ·exact⟨_,rfl,⟨C,B,h,⟨n,D,w1,w2,w3⟩,by omega⟩,fun x hx=>(List.mem_cons.1 hx).elim (fun e=>e▸g) (gl x)⟩
structure Ex1 (s:Rs) (a:Rp):Prop where
 o:OkP a
 p:vp a=true
 v:a.vars=s.dom.length
 d:gM a<=s.ord
 n:a.terms.length<=10
 c:∀t∈a.terms,C4 16000 (zI t.c)
theorem Ex1.t{s:Rs}{a:Rp}(h:Ex1 s a):∀t∈a.terms,VT s.dom.length t:=by
 have:=(jZ h.o h.p).1.t;rw[h.v]at this;exact this
def Sm(c:Int):Prop:=-128<=c/\c<=128
theorem Sm.i{c:Int}(h:Sm c):Xc c:=by
 obtain⟨h1,h2⟩:=h;exact⟨by omega,by omega⟩
theorem aol{c:Int}(h:Sm c):(cK (dG c)).2=0:=by
 obtain⟨h1,h2⟩:=h;have:c.natAbs<=2^60:=ay3 (by omega:c.natAbs<=128) δ;exact abg (n:=c) this
theorem YB{c:Int}(h:Sm c):C4 128 (zI (dG c)):=by
 refine⟨c,?_,by obtain⟨h1,h2⟩:=h;omega⟩;have e:cx (c*KK) (-16384- (0:Nat))=dG c:=by
  rw[show(-16384:Int)- (0:Nat)=-16384 by omega,SG];rfl
 have h2:=H0 (z:=c*KK) (j:=0) (by rw[e];exact aol h);rw[e,Cc (ui h.i).1]at h2;simpa using h2
theorem U6{c:Int}(h:c≠0):(dG c).m.length≠0:=by
 have hn:c.natAbs≠0:=ω
 unfold dG;rw[jW hn];intro h0;have h1:=nJ.1 (List.length_eq_zero_iff.1 h0);have h2:=(qF (neg:=false) (e:=0) hn).2.2.1;omega
theorem aiX:dG 0=aG:=by
 unfold dG;exact jv
theorem agp{c:Int}(h:Sm c):Bo (dG c) 64=true:=abh (ui h.i).2 (ui h.i).1 ((YB h).up δ)
theorem aqO{c:Int}(h:Sm c):(ae (ab (dG c).m):Int)<=64:=by
 have:=agp h;unfold Bo at this;simp only[ay1,decide_eq_true_eq]at this;exact this.2.2
theorem C4.ldd{B k:Nat}{z:Int}(h:C4 B z)(hb:B<=2^k):z.natAbs<=2^ (16384+k):=by
 obtain⟨n,rfl,h2⟩:=h;have e:∀a:Nat,2^ (a+k)=2^k*2^ (a+0):=fun a=>by rw[azA,azc,azl]
 rw[Int.natAbs_mul,e,aok];generalize 2^ (16384+0)=T;rw[Int.natAbs_natCast];exact Nat.mul_le_mul (ay3 h2 hb) (ayZ _)
theorem Mz{neg:Bool}{n:Int}{m k:Nat}(h1:m%2=1)(h2:n.natAbs=m*2^k)(h3:m<4294967296)(hs:neg=decide (n<0)):(⟨neg,[m],(k:Int)⟩:Rd)=dG n:=by
 have hn:m*2^k≠0:=Nat.mul_ne_zero ω (Nat.ne_of_gt (aze k));unfold dG;rw[h2,jW hn,Xz h1,Nat.mul_div_cancel _ (aze k),rO ω,azL h3,Nat.div_eq_of_lt h3,nJ.2 rfl,hs];simp
theorem C4.Ld{B m:Nat}{d:Rd}(h:C4 B (zI d))(hb:B<=2^m):Go.Ab.Ld m d:=h.ldd hb
theorem aqP{c:Int}(h:Sm c){up:Bool}:qG (dG c) (dG 1) 64 up=(dG c,0):=by
 obtain⟨v,o⟩:=ui h.i;have p64:bO 64=true:=rfl;have e1:dG 1=one:=(Mz (neg:=false) (n:=1) (m:=1) (k:=0) rfl rfl δ rfl).symm;have hr:=Yt (up:=up) o v p64 (aqO h);have hf:aY 64 [dG c]=0:=by
  unfold aY;simp[v]
 unfold qG;rw[e1,Ia v dW.1 p64,if_pos rfl,if_neg δ];by_cases g:c=0
 ·subst g;rw[aiX];rfl
 rw[if_neg (U6 g)];have hv:ab one.m=1:=rfl;have he:one.e=0:=rfl;have hn:one.neg=false:=rfl;have hm:ab (dG c).m≠0:=by
  have:=Ej v (U6 g);omega
 rw[hv,he,hn,Nat.div_one,Nat.mod_one,Bool.bne_false,show decide ((0:Nat)≠0)=false from rfl,GC hm];unfold cu at hr;rw[if_pos hf,show zI (dG c)=bG (dG c).neg (mg (dG c))from rfl]at hr;unfold mg at hr;rw[abc,K7]at hr;have hi:=(dZ v o.lb).2.1;rw[show(-16384:Int)+(((dG c).e+16384).toNat:Int)=(dG c).e by omega]at hr;have:=HY (n:=ab (dG c).m) (f:=(dG c).e) (p:=64) (up:=up) (neg:=(dG c).neg) hm;unfold bG at hr;rw[this]at hr;rw[show(dG c).e- (uE (dG c) one 64:Int)-0+(uE (dG c) one 64:Nat)=(dG c).e by omega];exact hr
theorem aom{d:Rd}(v:vd d=true)(o:Ok0 d){p:Int}(hp:bO p=true):ze ⟨d,d,false⟩ p=d:=by
 have k:kI ⟨d,d,false⟩=true:=by simp[kI,vi,v]
 unfold ze;rw[k,hp,azs,if_pos rfl];split
 ·split
  ·split
   ·rename_i h;unfold Ym at h;simp only[ay1,Bool.false_or,decide_eq_true_eq]at h;obtain⟨⟨_,h1⟩,h2,h3⟩:=h;exact ang (xc (f:=-16384- (1:Nat))).2 o h1 v (Int.le_antisymm h3 h2)
   ·rfl
  ·rfl
 ·rfl
theorem aon{d:Rd}(v:vd d=true){p:Int}(hp:bO p=true):Hl ⟨d,d,false⟩ ⟨d,d,false⟩ p=bc:=by
 have k:kI ⟨d,d,false⟩=true:=by simp[kI,vi,v]
 obtain⟨z,vn⟩:=zF v;have k2:kI ⟨go d,go d,false⟩=true:=by simp[kI,vi,vn]
 unfold Hl FL gJ;rw[if_pos k,k,k2,hp,azs,azs,if_pos rfl];have e:∀up,di d (go d) p up=(aG,0):=fun up=>by
  unfold di;rw[Ia v vn hp,if_pos rfl,z,Int.add_right_neg,adp]
 rw[e,e];rfl
def vf(v:Int)(e:List Int)(c:Int):Rp:=⟨v,dO e (dG c) []⟩
structure Sq (s:Rs):Prop where
 os:OkS s
 sp:l6 s=true
 p:s.p=64
 h8:s.dom.length<=8
 o:s.ord<=16
theorem Sq.pr{s:Rs}(h:Sq s):bO s.p=true:=by rw[h.p];rfl
structure Xp (s:Rs) (e:List Int):Prop where
 l:e.length=s.dom.length
 b:∀x∈e,0<=x
 d:aS e<=s.ord
theorem Xp.vt{s:Rs}(hs:Sq s){e:List Int}(h:Xp s e){c:Int}(hc:Sm c)(h0:c≠0):VT s.dom.length ⟨e,dG c⟩:=by
 have h8:=hs.h8;have ho:=hs.o;have hd:=h.d;refine⟨(ui hc.i).2,by rw[h.l],by omega,(ui hc.i).1,U6 h0,fun x hx=>?_,Int.le_trans hd ω⟩;have:=(Ek (l:=e) h.b).2 x hx;exact⟨h.b x hx,by omega⟩
theorem ajF{s:Rs}:Fit s ⟨s.dom.length,[]⟩:=⟨rfl,azH _,Cl.nil _,(fun _ h=>nomatch h),fun _ h=>nomatch h⟩
theorem SH{v:Int}{e:List Int}:vf v e 0=⟨v,[]⟩:=by
 unfold vf dO;rw[aiX,if_pos (show aG.m.length=0 from rfl)]
theorem SI{v:Int}{e:List Int}{c:Int}(h:c≠0):vf v e c=⟨v,[⟨e,dG c⟩]⟩:=by
 unfold vf dO;rw[if_neg (U6 h)]
theorem Ii{s:Rs}(hs:Sq s){e:List Int}(h:Xp s e){c:Int}(hc:Sm c):Fit s (vf s.dom.length e c):=by
 by_cases g:c=0
 ·subst g;rw[SH];exact ajF
 rw[SI g];refine⟨rfl,(by show 1<=500;decide),SF (h.vt hs hc g),fun t ht=>?_,fun t ht=>?_⟩
 ·rw[List.mem_singleton.1 ht];exact h.d
 ·rw[List.mem_singleton.1 ht,hs.p];exact agp hc
theorem agq{s:Rs}(hs:Sq s){q:Rp}(h:Fit s q):FU s ⟨q,bc⟩=true:=ajC hs.sp h.c h.v h.n h.d ((te (m:=0)).i.elim fun _ h=>h.v) h.r
theorem ags{s:Rs}(hs:Sq s){a b:Rp}(ha:Fit s a)(hb:Fit s b):GM s [⟨a,bc⟩,⟨b,bc⟩]=true:=by
 have h1:=agq hs ha;have h2:=agq hs hb;have h3:=hs.sp;unfold GM;simp[h1,h2,h3]
theorem agt{s:Rs}(hs:Sq s){q:Rp}(h:Fit s q)(hl:∀t∈q.terms,Ld 20 t.c):gX (qJ q s.dom s.p) bc s.p=bc:=
 Qw (ago (m:=20) hs.os hs.sp h.ok (h.vp hs.sp) h.v hl (by have:=h.n;omega)).k hs.pr
theorem aqQ{v:Int}{e:List Int}{c:Int}(hc:Sm c):∀t∈ (vf v e c).terms,Ld 20 t.c:=fun t ht=>by
 by_cases g:c=0
 ·subst g;rw[SH]at ht;exact nomatch ht
 rw[SI g]at ht;rw[List.mem_singleton.1 ht];exact(YB hc).Ld δ
theorem abi{s:Rs}(hs:Sq s){i:Nat}(hi:i<s.dom.length):Fit s (Jn s.dom.length i):=by
 have ho:=(My hs.sp).2;refine⟨rfl,(by show 1<=500;decide),SF (agh hs.h8 hi),fun t ht=>?_,fun t ht=>?_⟩
 ·rw[List.mem_singleton.1 ht,OF hi];exact ho
 ·rw[List.mem_singleton.1 ht,hs.p];show Bo one 64=true;decide
theorem aiY:∀ {e:List Int} {i:Nat},i<e.length->kB e (m9 e.length i)=inc e i:=by
 intro e i hi;apply List.ext_getElem
 ·simp[kB,inc,Jo]
 ·intro n h1 h2;simp only[kB,List.getElem_zipWith,inc,m9,iL];have h3:n<e.length:=by simpa [inc]using h2
  by_cases g:i=n
  ·subst g;simp[List.getElem_set,hi]
  ·simp[List.getElem_set,g]
theorem aiZ{c:Int}(hc:Sm c):fh (dG c) one=(dG c,0):=by
 obtain⟨v,o⟩:=ui hc.i;have h:=aiV o v;unfold fh at h⊢;rw[Bool.and_comm,Int.mul_comm];exact h
theorem aoo{s:Rs}(hs:Sq s){e:List Int}(h:Xp s e){c:Int}(hc:Sm c){i:Nat}(hi:i<s.dom.length)(hd:aS e+1<=s.ord):Cn s ⟨vf s.dom.length e c,bc⟩ (xQ s i)=⟨vf s.dom.length (inc e i) c,bc⟩:=by
 have hv:xQ s (i:Int)=⟨Jn s.dom.length i,bc⟩:=by
  unfold xQ;rw[hs.sp,decide_eq_true (by omega:0<=(i:Int)/\(i:Int)< (s.dom.length:Int)),azs,if_pos rfl,ay4]
 have hx:Xp s (inc e i):=⟨by rw[Ih,h.l],fun x hx=>by
  rcases List.mem_or_eq_of_mem_set hx with hx|rfl
  ·exact h.b x hx
  ·have:=h.b _ (Ci (l:=e) (i:=i) (by rw[h.l];exact hi));omega,by rw[Ep (by rw[h.l];exact hi)];exact hd⟩
 have f1:=Ii hs h hc;have f2:=abi hs hi;have f3:=Ii hs hx hc;have hm:Dy (vf s.dom.length e c) (Jn s.dom.length i)=(vf s.dom.length (inc e i) c,0):=by
  have ho:=hs.o;have q1:=f1.vp hs.sp;have q2:=f2.vp hs.sp;unfold Dy;rw[if_pos (nu.2 ⟨q1,q2,rfl⟩)];by_cases g:c=0
  ·subst g;rw[SH,SH];rfl
  have d1:gM (vf s.dom.length e c)<=aS e:=OG (by
   have:=(Ek (l:=e) h.b).1;omega) fun t ht=>by
   rw[SI g]at ht;rw[List.mem_singleton.1 ht];exact Int.le_refl _
  have d2:gM (Jn s.dom.length i)<=1:=OG δ fun t ht=>by
   rw[List.mem_singleton.1 ht,OF hi];exact Int.le_refl _
  rw[if_neg ω,SI g,SI g];have ea:kB e (m9 s.dom.length i)=inc e i:=by
   have:=aiY (e:=e) (i:=i) (by rw[h.l];exact hi);rw[h.l]at this;exact this
  simp only[Jn,mO,oG,Jd,aiZ hc,if_true,ay2,azE,azb,ea];rfl
 rw[hv];unfold Cn;rw[if_pos (ags hs f1 f2),hm];simp only[];rw[agt hs f1 (aqQ hc),agt hs f2 (fun t ht=>by rw[List.mem_singleton.1 ht];exact Qv.up δ),Qw (te (m:=0)).k hs.pr];simp only[A8,Co hs.pr];exact FV hs.sp f3
theorem agu{s:Rs}(hs:Sq s){c:Int}(hc:Sm c):LD s ⟨dG c,dG c,false⟩=⟨vf s.dom.length (iL s.dom.length) c,bc⟩:=by
 obtain⟨v,o⟩:=ui hc.i;have k:kI ⟨dG c,dG c,false⟩=true:=by simp[kI,vi,v]
 have ho:=(My hs.sp).2;unfold LD;rw[hs.sp,k,azs,if_pos rfl,aom v o hs.pr,aon v hs.pr];exact FV hs.sp (Ii hs ⟨by simp[iL],fun x hx=>(U5 x hx).1,by rw[Em];omega⟩ hc)
structure Ps (s:Rs) (L:List Rt) (N:Nat):Prop where
 c:Cl s.dom.length L
 w:Wt L (128*N)
 n:L.length<=N
 d:∀t∈L,aS t.exps<=s.ord
theorem Ps.fit{s:Rs}(hs:Sq s){L:List Rt}{N:Nat}(h:Ps s L N)(hN:N<=500):Fit s ⟨s.dom.length,L⟩:=
 ⟨rfl,ay3 h.n hN,h.c,h.d,fun t ht=>by
  rw[hs.p];refine abh (h.c.t t ht).c (h.c.t t ht).vc ((h.w.mem t ht).up ?_);exact ay3 (azR 128 hN) δ⟩
theorem Ps.up{s:Rs}{L:List Rt}{N M:Nat}(h:Ps s L N)(hM:N<=M):Ps s L M:=⟨h.c,h.w.up (azR 128 hM),ay3 h.n hM,h.d⟩
theorem auC{s:Rs}{N:Nat}:Ps s [] N:=⟨Cl.nil _,trivial,azH _,fun _ h=>nomatch h⟩
def yA(L:List Rt)(e:List Int)(c:Int):List Rt:=if c=0 then L else(pi L ⟨e,dG c⟩).getD L
theorem agv{s:Rs}(hs:Sq s){L:List Rt}{N:Nat}(hL:Ps s L N)(hN:N<=400){e:List Int}(h:Xp s e){c:Int}(hc:Sm c)(h0:c≠0):pi L ⟨e,dG c⟩=some (yA L e c)/\Ps s (yA L e c) (N+1):=by
 have vt:=h.vt hs hc h0;have hB:128*N+128<=2^60:=ay3 (by omega:128*N+128<=128*500) δ;obtain⟨L',e1,w,d⟩:=YA (G:=fun x=>aS x<=s.ord) hL.c vt hL.w (YB hc) hB hL.d h.d;have ea:yA L e c=L':=by
  unfold yA;rw[if_neg h0,e1];rfl
 rw[ea];exact⟨e1,(Me hL.c vt e1).1,w.up ω,ay3 (Jc e1) (by have:=hL.n;omega),d⟩
theorem aoq{s:Rs}(hs:Sq s){L:List Rt}{N:Nat}(hL:Ps s L N)(hN:N<=400){e:List Int}(h:Xp s e){c:Int}(hc:Sm c):LC s ⟨⟨s.dom.length,L⟩,bc⟩ ⟨vf s.dom.length e c,bc⟩=⟨⟨s.dom.length,yA L e c⟩,bc⟩/\Ps s (yA L e c) (N+1):=by
 have f1:=hL.fit hs ω;have f2:=Ii hs h hc;have q1:=f1.vp hs.sp;have q2:=f2.vp hs.sp;have key:FG ⟨s.dom.length,L⟩ (vf s.dom.length e c)=(⟨s.dom.length,yA L e c⟩,0)/\Ps s (yA L e c) (N+1):=by
  unfold FG;rw[if_pos (nu.2 ⟨q1,q2,rfl⟩)];have hself:j5 [] L=some L:=XF (l:=[]) hL.c;by_cases g:c=0
  ·subst g;rw[SH];have e0:yA L e 0=L:=if_pos rfl;have hn:=hL.n;rw[e0];refine⟨?_,hL.up ω⟩;show pj _ (j5 [] (L++[]))=_;rw[azb,hself];unfold pj;simp only;rw[if_neg ω]
  ·obtain⟨e1,hp⟩:=agv hs hL hN h hc g;have hn:=hp.n;refine⟨?_,hp⟩;rw[SI g];show pj _ (j5 [] (L++[⟨e,dG c⟩]))=_;rw[Oj,hself,ay2];unfold j5;rw[e1,ay2];unfold j5 pj;simp only;rw[if_neg ω]
 refine⟨?_,key.2⟩;unfold LC;rw[if_pos (ags hs f1 f2),key.1,Co hs.pr];exact FV hs.sp (key.2.fit hs ω)
theorem al0{neg:Bool}:∀ (N n:Nat),n<=N->1<=n->n<=128->∀ (e:Nat),e+n<=1000->∀ (S:ai) (h:ac) (X:Option (Ex×St)),ah 0 [0,2,3] (aq (aj R (az false) Ah) [0,2,3] [2,3,25] S h)=X->S 0=I n->S 2=.ref 2 none 0 0 0->S 3=.ref 3 none 0 0 0->h 2=.bx [B false,.emp,I 0]->h 3=.bx [B neg,.emp,I e]->h 25=.dead->
  ∃m k hh,m%2=1/\n=m*2^k/\X=some (.normal,⟨upd (upd (upd (fun _=>.any) 3 (.ref 3 none 0 0 0)) 2 (.ref 2 none 0 0 0)) 0 (I (m:Nat)),hh⟩)/\hh 2=.bx [B false,.emp,I 0]/\hh 3=.bx [B neg,.emp,I (e+k:Nat)]/\(∀b,b≠2->b≠3->hh b=.dead):=by
 intro N;induction N with
 |zero=>intro n h1 h2;omega
 |succ N ih=>
  intro n hN h1 h128 e he S h X hX k0 k2 k3 h2 h3 h25;have e6:dq .rem (I n) (I 2)=some (I (n%2:Nat)):=by
   rw[ww,if_neg ω,Int.tmod_eq_emod_of_nonneg ω];rfl
  subst hX;rw[ag];by_cases g:n%2=0
  ·have e7:dq .quo (I n) (I 2)=some (I (n/2:Nat)):=by
    rw[LX,if_neg ω,Int.tdiv_eq_ediv_of_nonneg ω];have:IntKind.i64.wrap ((n:Int)/2)=((n/2:Nat):Int):=wi;rw[this]
   have e5:(((n%2:Nat):Int)=0)=True:=tt;have e8:IntKind.i64.wrap ((e:Int)+1)=((e+1:Nat):Int):=wi;have ih':=ih (n/2) ω ω ω (e+1) ω;generalize aq _ _ _=L at ih'⊢;simp only[Ah,go_sem,k0,k2,k3,h2,h3,h25,e6,e7,e5,e8];generalize hX:ah 0 [0,2,3] (L _ _)=X;obtain⟨m,k,hh,q1,q2,q3,q4,q5,q6⟩:=ih' _ _ _ hX rfl rfl rfl rfl rfl rfl;refine⟨m,k+1,hh,q1,?_,q3,q4,?_,q6⟩
   ·rw[azO,←azq,←q2];omega
   ·rw[q5,show e+1+k=e+(k+1)by omega]
  ·have e5:(((n%2:Nat):Int)=0)=False:=ff;refine⟨n,0,?hh0,by omega,by omega,?_,?_,?_,?_⟩
   case hh0=>exact upd (upd (upd (fun _=>.dead) 25 .dead) 3 (.bx [B neg,.emp,I e])) 2 (.bx [B false,.emp,I 0])
   ·simp only[Ah,go_sem,k0,k2,k3,h2,h3,h25,e6,e5]
   ·rfl
   ·rfl
   ·intro b b1 b2;simp only[cj,b1,b2,if_false,ite_self]
theorem OH{n:Int}(hn:Sm n):R F.l27_num [I n] []=some (af (dG n),[]):=by
 refine av aej rfl ?_;obtain⟨n1,n2⟩:=hn;have e1:IntKind.i64.wrap (0-n)=-n:=by rw[i64_in]<;>omega
 have e2:(if n< -n then-n else n)=((n.natAbs:Nat):Int):=by split<;>omega
 by_cases g:n=0
 ·have g0:((n.natAbs:Nat):Int)=0:=ω
  have e3:(((n.natAbs:Nat):Int)=0)=True:=tt g0;rw[g,aiX];rw[g]at e1 e2 e3;simp only[DS,KB,go_sem,e1,e2,e3];rfl
 ·have e3:(((n.natAbs:Nat):Int)=0)=False:=ff;have hL:=al0 (neg:=decide (n<0)) n.natAbs n.natAbs (ayZ _) ω ω 0 ω;simp only[DS,KB,go_sem,e1,e2,e3];generalize hX:ah 0 [0,2,3] _=X;obtain⟨m,k,hh,q1,q2,rfl,q4,q5,q6⟩:=hL _ _ _ hX rfl rfl rfl rfl rfl rfl;have hm:m<=n.natAbs:=by
   have:=Nat.le_mul_of_pos_right m (aze k);omega
  have e4:IntKind.u32.wrap (m:Int)=(m:Int):=by rw[u32_in]<;>omega
  have e5:hh 25=.dead:=q6 25 ω ω;rw[←Mz q1 q2 ω rfl];rw[ayX]at q5;simp only[go_sem,q4,q5,e4,e5,af,ak];rw[iZ (h:=upd hh 25 (.ar 1 [[.v (.int .u32 (m:Int))]])) (id:=3) (p:=1) (id2:=25) (k:=1) (n:=1) (cs:=[B (decide (n<0)),.emp,I k]) rfl rfl q5 δ (by show 1<3;decide)];simp only[go_sem,q4,q5,show Option.any bm (some AV.emp)=false from rfl,azK];rfl
theorem agw{n:Int}(h1:-1073741824<=n)(h2:n<=1073741824):R F.ratio_size [I n] []=some (W n.natAbs,[]):=by
 refine av WG rfl ?_;by_cases g:n<0
 ·have e1:(n<0)=True:=tt g;have e2:IntKind.i64.wrap (0-n)=-n:=by rw[i64_in]<;>omega
  have e3:IntKind.u64.wrap (-n)=((n.natAbs:Nat):Int):=dK ω ω;simp only[yw,EX,go_sem,e1,e2,e3]
 ·have e1:(n<0)=False:=ff g;have e3:IntKind.u64.wrap n=((n.natAbs:Nat):Int):=dK ω ω;simp only[yw,EX,go_sem,e1,e3]
theorem al1{a:Nat}:R F.ratio_gcd [W a,W 1] []=some (W 1,[]):=by
 refine av Zq rfl ?_;have e6:dq .rem (W a) (W 1)=some (W 0):=by
  rw[ww,if_neg ω,Int.tmod_eq_emod_of_nonneg ω,Int.emod_one]
 simp only[EW,Nf,go_sem];rw[ag];simp only[BN,go_sem,e6,show decide ((1:Int)=0)=false from rfl];rw[ag];simp only[BN,go_sem,show decide ((0:Int)=0)=true from rfl]
theorem abj{c:Int}(hc:Sm c):R F.ratio_Valid [.agg [I c,I 1]] []=some (B true,[]):=by
 obtain⟨n1,n2⟩:=hc;refine av Uq rfl ?_;have h1:=agw (n:=c) ω ω;have h2:R F.ratio_size [I 1] []=some (W 1,[]):=agw (n:=1) ω ω;have h3:=al1 (a:=c.natAbs);have e1:(-1073741824<=c)=True:=tt;have e2:(c<=1073741824)=True:=tt;simp only[BF,JJ,go_sem,h1,h2,h3,e1,e2,show decide ((1:Int)<=1)=true from rfl,show decide ((1:Int)<=1073741824)=true from rfl]
theorem al2{c:Int}(hc:Sm c):R F.ratio_Enclose [.agg [I c,I 1],I 64] []=some (ap ⟨dG c,dG c,false⟩,[]):=by
 refine av PB rfl ?_;have h1:=abj hc;have h2:=Fw hc.i;have h3:=Fw (n:=1) ⟨by omega,by omega⟩;have o1:=(ui hc.i).2;have o2:=(ui (n:=1) ⟨by omega,by omega⟩).2;have h4:=P5 o1 o2 (p:=64);have h5:=XY o1 o2 (p:=64);rw[aqP hc]at h4 h5;rw[show br (decide (c<0)) c.natAbs 0=dG c from rfl]at h2;rw[show br (decide ((1:Int)<0)) (Int.natAbs 1) 0=dG 1 from rfl]at h3;generalize dG 1=d1 at h3 h4 h5;generalize dG c=d at h2 h4 h5⊢;simp only[rV,af,ak]at h2 h3 h4 h5;simp only[yG,Gh,ap,ax,go_sem,h1,h2,h3,h4,h5]
structure To where
 k:Int
 a:Int
 b:Int
 n:Int
 cn:Int
 cd:Int
abbrev sn(o:To):List AV:=[I o.k,I o.a,I o.b,I o.n,I o.cn,I o.cd]
abbrev qN(l:List To):List (List AV):=l.map sn
def Okp(n:Int)(o:To):Prop:=(∃c,Sm c/\o=⟨1,0,0,0,c,1⟩)\/∃k a b,(k=3\/k=5)/\(0<=a/\a<n)/\(0<=b/\b<n)/\o=⟨k,a,b,0,0,0⟩
theorem ai0:R F.tape_operands [I 1] []=some (I 0,[])/\R F.tape_operands [I 3] []=some (I 2,[])/\R F.tape_operands [I 5] []=some (I 2,[]):=by
 refine⟨av AQ rfl ?_,av AQ rfl ?_,av AQ rfl ?_⟩
 all_goals simp only[yQ,Gq,go_sem,azf,azh,aza,decide_false,decide_true]
theorem agx{n:Int}{o:To}(h:Okp n o):R F.tape_proper [.agg (sn o),I n] []=some (B true,[]):=by
 refine av Uz rfl ?_;obtain⟨p1,p2,p3⟩:=ai0;have q:QD false 9 (AV.agg [I 0,I 0,I 0,I 0,I 0,I 0]) (AV.agg [I 0,I 0,I 0,I 0,I 0,I 0])=some (B true):=rfl;rcases h with⟨c,hc,rfl⟩| ⟨k,a,b,hk,⟨a1,a2⟩,⟨b1,b2⟩,rfl⟩
 ·have h1:=abj hc;simp only[rH,yv,sn,go_sem,azf,azh,aza,decide_false,decide_true,p1,h1,q]
 ·have e1:(a<0)=False:=ff;have e2:(n<=a)=False:=ff;have e3:(b<0)=False:=ff;have e4:(n<=b)=False:=ff;rcases hk with rfl|rfl
  ·simp only[rH,yv,sn,go_sem,azf,azh,aza,decide_false,decide_true,p2,e1,e2,e3,e4,q]
  ·simp only[rH,yv,sn,go_sem,azf,azh,aza,decide_false,decide_true,p3,e1,e2,e3,e4,q]
theorem adv{f:FuncId}{h:ac}{d i j:Nat}{zas as':List AV}{o o' q:Ob}{res:AV}(hm:(az false).m f=[])(hk:(az false).keep f=false)(hn:bp ((az false).sh f) (zas++[.ref i none 0 0 0,.ref j none 0 0 0])=as'++[.ref i none 0 0 0,.ref j none 0 0 0])(hd:zas.all dat=true)(hd':as'.all dat=true)(hij:i≠j)
  (hi:h i=o) (hj:h j=q) (ho:OC o) (ho':OC o') (hq:OC q) (hb:bf o=true->bf o'=true) (hR:R f (as'++[.ref 1000 none 0 0 0,.ref 1001 none 0 0 0]) [o,q]=some (res,[o',q])) (hr:RT res) (h8:cF res<=8) (hfr:cB h (2000+8*d) (cF res)=true):
  bE R (az false) h d zas (.fn f [] [.ref i none 0 0 0,.ref j none 0 0 0])=some (res,upd h i o',[(i,true),(j,true)]):=by
 have hin:∀l:List AV,l.all dat=true->bS h [] (l++[.ref i none 0 0 0,.ref j none 0 0 0])=some (l++[.ref i none 0 0 0,.ref j none 0 0 0],h,[]):=by
  intro l;induction l with
  |nil=>intro _;rfl
  |cons x l ih=>
   intro h2;simp only[azm,ay1]at h2;simp only[azM,bS,List.headD_nil,P4 h2.1,ay2,List.tail_nil,ih h2.2,azb]
 have h1:=hin zas hd;have hp:bA [] ((zas++[AV.ref i none 0 0 0,.ref j none 0 0 0]).flatMap cr)=[i,j]:=by
  rw[List.flatMap_append,Cd fun x hx=>H4 (List.all_eq_true.1 hd x hx)];show bA [] [i,j]=[i,j];simp[bA,hij,Ne.symm hij]
 have hre:ce h 40 [i,j] 0=[i,j]:=by
  simp[ce,hi,hj,ho.ids,hq.ids,bA]
 have p1:bj [i,j] i=1000:=by simp[bj]
 have p2:bj [i,j] j=1001:=by
  have e:(i==j)=false:=by simpa using hij
  simp[bj,List.idxOf_cons,e]
 have hall:(as'++[AV.ref i none 0 0 0,.ref j none 0 0 0]).all (aZ [i,j])=true:=by
  rw[List.all_append,ay1];exact⟨List.all_eq_true.2 fun x hx=>Lm (List.all_eq_true.1 hd' x hx) _,by simp[aZ,bo]⟩
 have hmap:(as'++[AV.ref i none 0 0 0,.ref j none 0 0 0]).map (dS (bj [i,j]))=as'++[.ref 1000 none 0 0 0,.ref 1001 none 0 0 0]:=by
  rw[List.map_append,(azy (g:=fun c=>c) fun x hx=>H5 (List.all_eq_true.1 hd' x hx) _).trans (azN as')];simp[dS,kr,p1,p2]
 have hob:([i,j].map fun a=>dT (bj [i,j]) (h a))=[o,q]:=by simp[hi,hj,ho.ren,hq.ren]
 have hids:([i,j].all fun a=>aA [i,j] (h a)&&!bY (h a))=true:=by simp[hi,hj,ho.cl,ho.nd,hq.cl,hq.nd]
 have hji:j≠i:=Ne.symm hij;unfold bE;rw[if_neg (by simp[kt,hm])];simp only[dV,hm,ay8,h1,ay2,hp,hre,hn];unfold jK;rw[hall,hids,hmap,hob,hR,azs,if_pos rfl,ay2,hk,hm,ur];unfold eG;have hbf:cU h [] [i,j] [o',q]=true:=by
  have n1:=ho'.nd;have n2:=hq.nd;cases h5:bf o<;>cases h6:bf q<;>cases h7:bf o'<;>simp_all[cU]
 have hend:mQ h [i,j] [] (res,[o',q])=true:=by
  simp[mQ,Bp,hr.ok,ho'.cl,hq.cl]
 rw[if_pos ⟨rfl,by simp,h8,hfr,hbf,hend⟩];have e9:upd (upd h i o') j q=upd h i o':=aof (by simp[upd,hji,hj]);simp[ej,fT,hr.mat,hr.ren,ho'.ren,hq.ren,e9]
theorem aor{h:ac}{d id n:Nat}{ys rows:List (List AV)}{x y:AV}(hn:n=rows.length)(hb:(n+ys.length)*48<=140737488355328):Vc h d 6 48 id 1 6 0 n ys (.bx [x,.osl 6 rows,y])=cR (upd h id (.bx [x,.any,y])) d 6 (rows++ys) (n+ys.length) [(id,true)]:=by
 show(if _ then _ else _)=_;rw[if_pos ⟨rfl,rfl,rfl,hn,hb⟩];rfl
theorem aos{h:ac}{d id n:Nat}{ys rows:List (List AV)}{x y:AV}(hn:n=rows.length)(hb:(n+ys.length)*88<=140737488355328):Vc h d 7 88 id 0 7 0 n ys (.bx [.osl 7 rows,x,y])=cR (upd h id (.bx [.any,x,y])) d 7 (rows++ys) (n+ys.length) [(id,true)]:=by
 show(if _ then _ else _)=_;rw[if_pos ⟨rfl,rfl,rfl,hn,hb⟩];rfl
theorem aot{n:Nat}{O:List To}{o:To}{c:AV}(hc:c=.emp/\O=[]\/c=.osl 6 (qN O))(hO:O.length<=1000)(hn:n<=10):R F.l27_ModelevalExact_1 [.agg (sn o),.ref 1000 none 0 0 0,.ref 1001 none 0 0 0] [.bx [I n,c,.emp],.bx [I n]]=some (I (n+O.length:Nat),[.bx [I n,.osl 6 (qN (O++[o])),.emp],.bx [I n]]):=by
 refine aqI false fL.2.1 fL.2.2 (fL.1.2.2.2 false) rfl ?_;have e1:IntKind.i64.wrap ((n:Int)+((O.length+1:Nat):Int))=((n+O.length+1:Nat):Int):=wi;have e2:IntKind.i64.wrap (((n+O.length+1:Nat):Int)-1)=((n+O.length:Nat):Int):=wi;rcases hc with⟨rfl,rfl⟩|rfl
 ·have e3:IntKind.i64.wrap ((n:Int)+((1:Nat):Int))=((n+1:Nat):Int):=wi;have e4:IntKind.i64.wrap (((n+1:Nat):Int)-1)=(n:Int):=wi;simp only[kE,qC,sn,go_sem,e1,e2];rw[iZ rfl (show 1=List.length [sn o]from rfl) rfl δ (by show 1<3;decide)];simp only[go_sem,e3,e4,show Option.any bm (some AV.emp)=false from rfl,azK];exact ajE rfl rfl rfl rfl rfl rfl rfl
 ·have l2:(qN O).length=O.length:=azW _;have l3:(qN O++[sn o]).length=O.length+1:=by rw[azr,l2];rfl
  simp only[kE,qC,sn,go_sem,e1,e2];rw[aor rfl (by rw[l2];show(O.length+1)*48<=_;omega)];simp only[go_sem,e1,e2];rw[iZ rfl (by rw[azr];rfl) rfl δ (by show 1<3;decide)];simp only[sn]at l3;have e5:qN (O++[o])=qN O++[sn o]:=by simp[qN]
  rw[e5];simp only[go_sem,l3,e1,e2,show Option.any bm (some AV.any)=false from rfl,azK];exact ajE rfl rfl rfl rfl rfl rfl rfl
theorem Jq{n:Nat}{O:List To}{o:To}{c:AV}{h:ac}{d:Nat}(hc:c=.emp/\O=[]\/c=.osl 6 (qN O))(hO:O.length<=1000)(hn:n<=10)(h12:h 12=.bx [I n,c,.emp])(h7:h 7=.bx [I n])(hd:h (2000+8*d)=.dead):
  bE R (az false) h d [.agg (sn o)] (.fn F.l27_ModelevalExact_1 [] [.ref 12 none 0 0 0,.ref 7 none 0 0 0])=some (I (n+O.length:Nat),upd h 12 (.bx [I n,.osl 6 (qN (O++[o])),.emp]),[(12,true),(7,true)]):=by
 refine adv (as':=[.agg (sn o)]) (fL.1.2.1 false) (fL.1.2.2.2 false) (by rw[fL.1.1];simp only[sn,go_sem,azM,ay8]) rfl rfl δ h12 h7 ?_ ⟨fun _=>rfl,rfl,fun _=>rfl,rfl⟩ ⟨fun _=>rfl,rfl,fun _=>rfl,rfl⟩ ?_ (aot hc hO hn) (ah4 _) (azJ rfl) (by simp[cB,cF,hd,bY])
 ·rcases hc with⟨rfl,rfl⟩|rfl<;>exact⟨fun _=>rfl,rfl,fun _=>rfl,rfl⟩
 ·intro _;rcases hc with⟨rfl,rfl⟩|rfl<;>first|rfl|assumption
def LE(n:Nat)(O:List To):Prop:=∀i o,O[i]?=some o->Okp ((n+i:Nat):Int) o
theorem abk{l:List To}{n:Nat}{o:To}(h:l[n]?=some o):aU (qN l) (n:Int)=some (.ipt (sn o)):=by
 simp[aU,qN,h]
abbrev J3(n:Nat)(O:List To)(outs:List Int):List AV:=[I n,.sl 6 (qN O),.sl 1 (aI outs)]
abbrev tpA(n:Nat)(O:List To)(outs:List Int):AV:=.agg (J3 n O outs)
theorem al3{n:Nat}{O:List To}{outs:List Int}(hO:LE n O)(hn:n<=8)(hl:O.length<=200):∀ (k i:Nat),i+k=O.length->∀ (S:ai) (h:ac) (X:Option (Ex×St)),ah 0 [1] (aq (aj R (az false) uO) [1,26,27,28] [1] S h)=X->S 1=.ref 1 none 0 0 0->S 26=.sl 6 (qN O)->S 27=I O.length->S 28=I i->h 1=.bx (J3 n O outs)->
  ∃hh,X=some (.normal,⟨upd (fun _=>.any) 1 (.ref 1 none 0 0 0),hh⟩)/\hh 1=.bx (J3 n O outs)/\∀b,b≠1->hh b=.dead:=by
 intro k;induction k with
 |zero=>
  intro i hi S h X hX k1 k26 k27 k28 h1;have:i=O.length:=ω
  subst this;subst hX;rw[ag];refine⟨?hh0,?_,?_,?_⟩
  case hh0=>exact upd (fun _=>.dead) 1 (.bx (J3 n O outs))
  ·simp only[uO,go_sem,k1,k26,k27,k28,h1,azI]
  ·rfl
  ·intro b b1;simp only[cj,b1,if_false]
 |succ k ih=>
  intro i hi S h X hX k1 k26 k27 k28 h1;have hlt:i<O.length:=ω
  have e1:((i:Int)< (O.length:Int))=True:=tt;have e2:aU (qN O) (i:Int)=some (.ipt (sn O[i])):=abk (List.getElem?_eq_getElem hlt);have e3:IntKind.i64.wrap ((i:Int)+1)=((i+1:Nat):Int):=wi;have e4:IntKind.i64.wrap ((n:Int)+(i:Int))=((n+i:Nat):Int):=wi;have hp:=agx (hO i O[i] (List.getElem?_eq_getElem hlt));have ih':=ih (i+1) ω;subst hX;rw[ag];generalize aq _ _ _=L at ih'⊢;generalize O[i]=o at e2 hp;simp only[sn]at e2 hp;simp only[uO,go_sem,k1,k26,k27,k28,h1,e1,e2,e3,e4,hp];exact ih' _ _ _ rfl rfl rfl rfl rfl rfl
theorem auD:Src F.slices_ContainsFunc_int_int_ F.slices_IndexFunc_int_int_ 1 false []:=
 ⟨bJ.2.1,bJ.2.2,bJ.1.2.2.2 false,bJ.1.2.1 false,bJ.1.2.2.2 false,bJ.1.1 false,bQ.2.1,bQ.2.2,bQ.1.2.2.2 false⟩
theorem YC{n:Nat}{O:List To}{outs:List Int}:OC (.bx (J3 n O outs)):=⟨fun _=>rfl,rfl,fun _=>rfl,rfl⟩
theorem aov{n:Nat}{O:List To}{outs:List Int}(hn:n<=8)(hl:O.length<=200){k:Int}:R F.tape_Valid_1 [I k,.ref 1000 none 0 0 0] [.bx (J3 n O outs)]=some (B (decide (k<0)||decide (((n+O.length:Nat):Int)<=k)),[.bx (J3 n O outs)]):=by
 refine FI Re Rc (DI true) rfl ?_;have e4:IntKind.i64.wrap ((n:Int)+(O.length:Int))=((n+O.length:Nat):Int):=wi;have l2:(qN O).length=O.length:=azW _;by_cases g:k<0
 ·have f:(k<0)=True:=tt g;rw[decide_eq_true g,Bool.true_or];simp only[uR,BM,go_sem,f,l2,e4];exact uY rfl rfl (YC.cl _) rfl rfl
 ·have f:(k<0)=False:=ff g;rw[decide_eq_false g,Bool.false_or];simp only[uR,BM,go_sem,f,l2,e4];exact uY rfl rfl (YC.cl _) rfl rfl
theorem ai1{n:Nat}{O:List To}{outs:List Int}(hO:LE n O)(hn:n<=8)(hl:O.length<=200)(ho:outs.length<=200)(hk:∀k∈outs,0<=k/\k< ((n+O.length:Nat):Int)):R F.tape_Valid [tpA n O outs] []=some (B true,[]):=by
 refine av WA rfl ?_;have e1:((n:Int)<0)=False:=ff;have e2:(8< (n:Int))=False:=ff;have l2:(qN O).length=O.length:=azW _;have l3:(aI outs).length=outs.length:=rU _;have e3:(200< (O.length:Int))=False:=ff;have e4:(200< (outs.length:Int))=False:=ff;have hL:=al3 (outs:=outs) hO hn hl O.length 0 (ayX _);have hb:(outs.any fun k=>decide (k<0)||decide (((n+O.length:Nat):Int)<=k))=false:=by
  rw[List.any_eq_false];intro k hm;obtain⟨h1,h2⟩:=hk k hm;rw[decide_eq_false ω,decide_eq_false ω];exact ay9
 have hS:=Mh auD (Frow:=fun z:Int=>[I z]) (l:=outs) (q:=fun k=>decide (k<0)||decide (((n+O.length:Nat):Int)<=k)) (o:=.bx (J3 n O outs)) (f:=F.tape_Valid_1) YC (HR false) (DI false) ω (by simp[dY]) fun k hm=>⟨I k,I k,rfl,rfl,rfl,by rw[PJ];rfl,aov hn hl⟩;rw[hb]at hS;have hcc:=fun(h:ac) (d:Nat) (hh:h 1=.bx (J3 n O outs)) (hf:h (2000+8*d)=.dead)=>FJ (f:=F.slices_ContainsFunc_int_int_) (g:=F.tape_Valid_1) (h:=h) (d:=d) (id:=1) (zas:=[.sl 1 (aI outs)]) (as':=[.sl 1 (aI outs)]) (bQ.1.2.1 false) (bQ.1.2.2.2 false)
  (by rw[bQ.1.1];simp only[go_sem,azM,ay8]) rfl rfl hh YC YC (fun h=>h) hS (XP _) (azJ rfl) (by simp[cB,cF,hf,bY])
 simp only[azM,ay8,go_sem]at hcc;simp only[Dj,KH,go_sem,e1,e2,e3,e4,l2,l3];generalize hX:ah 0 [1] _=X;obtain⟨hh,rfl,q1,q2⟩:=hL _ _ _ hX rfl rfl rfl rfl rfl;simp only[go_sem,q1,q2];rw[hcc _ _ q1 (q2 _ δ)];simp only[go_sem]
theorem agy{s:Rs}{n:Nat}{O:List To}{outs:List Int}{xs:List Rm}(os:OkS s)(hs:l6 s=true)(hO:LE n O)(hn:n<=8)(hl:O.length<=200)(ho:outs.length<=200)(hk:∀k∈outs,0<=k/\k< ((n+O.length:Nat):Int))(hx:xs.length=n):R F.modeleval_valid [xu s,tpA n O outs,.sl 9 (gN xs)] []=some (B true,[]):=by
 refine av MG rfl ?_;have h1:=pA os.d os.n;have h2:=ai1 hO hn hl ho hk;have l2:(gN xs).length=xs.length:=azW _;rw[hs]at h1;simp only[vF,DC,go_sem,h1,h2,l2,hx]
theorem agz{xs:List Rm}(hx:xs.length≠0)(hl:xs.length<=1000):R F.slices_Clone_api_Model_api_Model_ [.sl 9 (gN xs)] []=some (.osl 9 (gN xs),[]):=by
 refine av wV rfl ?_;have l2:(gN xs).length=xs.length:=azW _;generalize gN xs=q at l2;cases q with
 |nil=>exact absurd l2.symm hx
 |cons r rs=>
  have l3:rs.length+1=xs.length:=l2;have e2:Io false (.sl 9 (r::rs))=some (B false):=rfl;have e1:((rs.length+1)*120<=140737488355328)=True:=tt;simp only[gE,lS,go_sem,e1,e2,azp,azx,ayX,azH,ayZ,true_and,true_or,ay8]
theorem al4{s:Rs}{a b:Rm}(os:OkS s)(oa:OkM a)(ob:OkM b){n:Int}:R F.modelfun_Apply [xu s,I 3,I n,oJ a,oJ b] []=some (oJ (LC s a b),[]):=by
 refine av Ff rfl ?_;have h1:=alC os oa ob;generalize LC s a b=c at h1⊢;simp only[qS,yH,go_sem,azf,azh,aza,decide_false,decide_true,h1]
theorem al5{s:Rs}{a b:Rm}(os:OkS s)(oa:OkM a)(ob:OkM b){n:Int}:R F.modelfun_Apply [xu s,I 5,I n,oJ a,oJ b] []=some (oJ (Cn s a b),[]):=by
 refine av Ff rfl ?_;have h1:=aa6 os oa ob;generalize Cn s a b=c at h1⊢;simp only[qS,yH,go_sem,azf,azh,aza,decide_false,decide_true,h1]
noncomputable def GQ (s:Rs) (all:List Rm) (o:To):Rm:=if o.k=1 then LD s ⟨dG o.cn,dG o.cn,false⟩else if o.k=5 then Cn s (all.getD o.a.toNat (kF s)) (all.getD o.b.toNat (kF s))else LC s (all.getD o.a.toNat (kF s)) (all.getD o.b.toNat (kF s))
noncomputable def cM (s:Rs):List Rm->List To->List Rm
 |all,[]=>all
 |all,o::O=>cM s (all++[GQ s all o]) O
theorem QA{s:Rs}{o:To}:∀ {O:List To} {all:List Rm},cM s all (O++[o])=cM s all O++[GQ s (cM s all O) o]
 |[],_=>rfl
 |_::O,_=>QA (O:=O)
theorem TS{s:Rs}:∀ {O:List To} {all:List Rm},∃l,cM s all O=all++l
 |[],all=>⟨[],(azb _).symm⟩
 |o::O,all=>by
  obtain⟨l,h⟩:=TS (s:=s) (O:=O) (all:=all++[GQ s all o]);exact⟨[GQ s all o]++l,by show cM s (all++[GQ s all o]) O=_;rw[h,azB]⟩
theorem LG{s:Rs}:∀ {O:List To} {all:List Rm},(cM s all O).length=all.length+O.length
 |[],all=>rfl
 |o::O,all=>by
  show(cM s (all++[GQ s all o]) O).length=_;rw[LG];simp;omega
theorem Jr{l:List Rm}{i:Nat}{d:Rm}(h:i<l.length):l.getD i d=l[i]:=by simp[List.getD,h]
theorem ai2{s:Rs}{n:Nat}{O:List To}{outs:List Int}(os:OkS s)(hp:s.p=64)(hO:LE n O)(hn:n<=8)(hl:O.length<=200):∀ (k i:Nat),i+k=O.length->∀ (all:List Rm),all.length=n+i->(∀m∈cM s all (O.drop i),OkM m)->∀ (S:ai) (h:ac) (X:Option (Ex×St)),ah 0 [4,7] (aq (aj R (az false) jn) [3,4,7,21,22,23] [3,4,47,59,83,2152] S h)=X->S 3=.ref 3 none 0 0 0->S 4=.ref 4 none 0 0 0->S 21=.sl 6 (qN O)->S 22=I O.length->S 23=I i->h 3=.bx (J1 s)->h 4=.bx (J3 n O outs)->h 47=.dead->h 59=.dead->h 83=.dead->S 7=.rsl 2152 none 9 0 all.length->h 2152=.ar 9 (gN all)->
  ∃S' hh,X=some (.normal,⟨S',hh⟩)/\S' 4=.ref 4 none 0 0 0/\S' 7=.rsl 2152 none 9 0 (cM s all (O.drop i)).length/\hh 2152=.ar 9 (gN (cM s all (O.drop i)))/\hh 4=.bx (J3 n O outs)/\∀b,b≠2152->b≠4->b≠3->hh b=.dead:=by
 intro k;induction k with
 |zero=>
  intro i hi all ha hm S h X hX k3 k4 k21 k22 k23 h3 h4 h47 h59 h83 k7 h21;have:i=O.length:=ω
  subst this;subst hX;rw[ag,List.drop_length];simp only[jn,go_sem,k3,k4,k7,k21,k22,k23,h3,h4,h47,h59,h83,h21,azI];refine⟨_,_,rfl,rfl,rfl,rfl,rfl,?_⟩;intro b b1 b2 b3;simp only[cj,b1,b2,b3,if_false,ite_self]
 |succ k ih=>
  intro i hi all ha hm S h X hX k3 k4 k21 k22 k23 h3 h4 h47 h59 h83 k7 h21;have hlt:i<O.length:=ω
  have e1:((i:Int)< (O.length:Int))=True:=tt;have e2:aU (qN O) (i:Int)=some (.ipt (sn O[i])):=abk (List.getElem?_eq_getElem hlt);have e3:IntKind.i64.wrap ((i:Int)+1)=((i+1:Nat):Int):=wi;have ho:=hO i O[i] (List.getElem?_eq_getElem hlt);rw[azj hlt]at hm⊢;have ih':=ih (i+1) ω (all++[GQ s all O[i]]) (by rw[azr,ha];rfl) hm;have hM:∀m∈all,OkM m:=fun m h=>hm m (by
   obtain⟨l,hl⟩:=TS (s:=s) (O:=O[i]::O.drop (i+1)) (all:=all);rw[hl];exact List.mem_append_left _ h)
  have l9:(gN all).length=all.length:=azW _;have b1:(all.length+1)*120<=140737488355328:=ω
  have f3:=tt b1;subst hX;rw[ag];generalize hLL:aq _ _ _=L at ih'⊢;have hvs:∀o,cM s all (o::O.drop (i+1))=cM s (all++[GQ s all o]) (O.drop (i+1)):=fun _=>rfl;rw[hvs];generalize O[i]=o at e2 ho ih'⊢;rcases ho with⟨c,hc,rfl⟩| ⟨kk,a,b,hk,⟨a1,a2⟩,⟨b1',b2⟩,rfl⟩
  ·have c1:=al2 hc;rw[←hp]at c1;have hv:GQ s all ⟨1,0,0,0,c,1⟩=LD s ⟨dG c,dG c,false⟩:=rfl;have c2:=agi os (x:=⟨dG c,dG c,false⟩) ⟨(ui hc.i).2,(ui hc.i).2⟩;rw[hv]at ih'⊢;generalize LD s ⟨dG c,dG c,false⟩=m at c2 ih'⊢;have et:gN (all++[m])=gN all++[FS m]:=by simp[gN]
   have el:(all++[m]).length=all.length+1:=σ
   rw[et,el]at ih';simp only[ap,ax]at c1 c2;simp only[sn]at e2;simp only[jn,go_sem,azf,azh,aza,decide_false,decide_true,k3,k4,k7,k21,k22,k23,h3,h4,h47,h59,h83,h21,e1,e2,e3,c1,c2,f3,l9,true_or,or_true,ayX,ayZ,List.tail_cons,azm,azX,az1];exact ih' _ _ _ rfl rfl rfl rfl rfl rfl rfl rfl rfl rfl rfl rfl rfl
  ·obtain⟨na,rfl⟩:=az4 a1;obtain⟨nb,rfl⟩:=az4 b1';have la:na<all.length:=ω
   have lb:nb<all.length:=ω
   have ra:(gN all)[na]?=some (FS all[na]):=by simp[gN,la]
   have qa:(0<=(na:Int)/\(na:Int)< (all.length:Int))=True:=eq_true ⟨by omega,by omega⟩;have qb:(0<=(nb:Int)/\(nb:Int)< (all.length:Int))=True:=eq_true ⟨by omega,by omega⟩;have rb:(gN all)[nb]?=some (FS all[nb]):=by simp[gN,lb]
   have oa:=hM _ (azo la);have ob:=hM _ (azo lb);have ga:all.getD na (kF s)=all[na]:=Jr la;have gb:all.getD nb (kF s)=all[nb]:=Jr lb;rcases hk with rfl|rfl
   ·have hv:GQ s all ⟨3,na,nb,0,0,0⟩=LC s all[na] all[nb]:=by
     rw[←ga,←gb];rfl
    have c1:=al4 os oa ob (n:=0);rw[hv]at ih'⊢;generalize all[na]=ma at ra c1 ih'⊢;generalize all[nb]=mb at rb c1 ih'⊢;generalize LC s ma mb=m at c1 ih'⊢;have et:gN (all++[m])=gN all++[FS m]:=by simp[gN]
    have el:(all++[m]).length=all.length+1:=σ
    rw[et,el]at ih';simp only[sn]at e2;simp only[jn,go_sem,azf,azh,aza,decide_false,decide_true,k3,k4,k7,k21,k22,k23,h3,h4,h47,h59,h83,h21,e1,e2,e3,ra,rb,qa,qb,ay4,c1,f3,l9,true_or,or_true,ayX,ayZ,List.tail_cons,azm,azX,az1];exact ih' _ _ _ rfl rfl rfl rfl rfl rfl rfl rfl rfl rfl rfl rfl rfl
   ·have hv:GQ s all ⟨5,na,nb,0,0,0⟩=Cn s all[na] all[nb]:=by
     rw[←ga,←gb];rfl
    have c1:=al5 os oa ob (n:=0);rw[hv]at ih'⊢;generalize all[na]=ma at ra c1 ih'⊢;generalize all[nb]=mb at rb c1 ih'⊢;generalize Cn s ma mb=m at c1 ih'⊢;have et:gN (all++[m])=gN all++[FS m]:=by simp[gN]
    have el:(all++[m]).length=all.length+1:=σ
    rw[et,el]at ih';simp only[sn]at e2;simp only[jn,go_sem,azf,azh,aza,decide_false,decide_true,k3,k4,k7,k21,k22,k23,h3,h4,h47,h59,h83,h21,e1,e2,e3,ra,rb,qa,qb,ay4,c1,f3,l9,true_or,or_true,ayX,ayZ,List.tail_cons,azm,azX,az1];exact ih' _ _ _ rfl rfl rfl rfl rfl rfl rfl rfl rfl rfl rfl rfl rfl
theorem al6{n k:Nat}{O:List To}{V:List Rm}{m:Rm}{S:ai}{h:ac}{X:Option (Ex×St)}(hX:ah 3 [10] (aq (aj R (az false) pO) [7,10,86,87,88] [4,47,59,83,98,2152] S h)=X)(k7:S 7=.rsl 2152 none 9 0 V.length)(k10:S 10=.rsl 98 none 9 0 1)(k86:S 86=.sl 1 (aI [(k:Int)]))(k87:S 87=I 1)(k88:S 88=I 1)(h4:h 4=.bx (J3 n O [(k:Int)]))(h47:h 47=.dead)(h59:h 59=.dead)(h83:h 83=.dead)(h98:h 98=.ar 9 [FS m])(h21:h 2152=.ar 9 (gN V)):
  ∃hh,X=some (.normal,⟨upd (fun _=>.any) 10 (.rsl 98 none 9 0 1),hh⟩)/\hh 98=.ar 9 [FS m]:=by
 subst hX;rw[ag];simp only[pO,go_sem,k7,k10,k86,k87,k88,h4,h47,h59,h83,h98,h21,show decide ((1:Int)<1)=false from rfl];exact⟨_,rfl,rfl⟩
theorem aow{s:Rs}{n:Nat}{O:List To}{xs:List Rm}{k:Nat}(os:OkS s)(hs:l6 s=true)(hp:s.p=64)(hO:LE n O)(hn:n<=8)(hn0:n≠0)(hl:O.length<=200)(hx:xs.length=n)(hm:∀m∈cM s xs O,OkM m)(hk:k<n+O.length):R F.modeleval_Run [xu s,tpA n O [(k:Int)],.sl 9 (gN xs)] []=some (.sl 9 (gN [(cM s xs O).getD k (kF s)]),[]):=by
 refine av Px rfl ?_;have h1:=agy (outs:=[(k:Int)]) os hs hO hn hl (by show 1<=200;decide) (fun z hz=>by
  rw[List.mem_singleton.1 hz];omega) hx
 have h2:=agz (xs:=xs) ω ω;have hL:=ai2 (outs:=[(k:Int)]) os hp hO hn hl O.length 0 (ayX _) xs ω (by rw[azZ];exact hm);rw[azZ]at hL;have hlen:(cM s xs O).length=n+O.length:=by rw[LG,hx]
 have lv:k< (cM s xs O).length:=ω
 rw[Jr lv];have ra:(gN (cM s xs O))[k]?=some (FS (cM s xs O)[k]):=by simp[gN,lv]
 have qa:(0<=(k:Int)/\(k:Int)< ((cM s xs O).length:Int))=True:=eq_true ⟨by omega,by omega⟩;have l9:(gN xs).length=xs.length:=azW _;have lO:(qN O).length=O.length:=azW _;have lv9:(gN (cM s xs O)).length=(cM s xs O).length:=azW _;generalize(cM s xs O)[k]=m at ra⊢;generalize hV:cM s xs O=V at hL ra qa lv9 lv⊢;simp only[yE,Gc,go_sem,Mv,h1,h2,l9,lO];generalize hX:ah 0 [4,7] _=X;obtain⟨S',hh,rfl,q1,q2,q3,q4,q5⟩:=hL _ _ _ hX rfl rfl rfl rfl rfl rfl rfl rfl rfl rfl rfl rfl;have q98:=q5 98 δ δ δ;have q59:=q5 59 δ δ δ;have q83:=q5 83 δ δ δ;have q47:=q5 47 δ δ δ;have e0:aU (aI [(k:Int)]) 0=some (.ipt [I k]):=rfl;simp only[go_sem,q1,q2,q4];rw[ag];have hZ:=@al6 n k O V m;generalize aq _ _ _=L at hZ⊢;simp only[pO,go_sem,q1,q2,q3,q4,q98,q59,q83,q47,e0,ra,qa,ay4,lv9,ayX,ayZ,or_true,true_or,show decide ((0:Int)< ((1:Nat):Int))=true from rfl,show IntKind.i64.wrap ((0:Int)+1)=1 from rfl];generalize hX2:ah 3 [10] _=X;obtain⟨h2,rfl,q7⟩:=hZ hX2 rfl rfl rfl rfl rfl rfl rfl rfl rfl rfl rfl;simp only[go_sem,q7]
theorem Ij{s:Rs}{q:Rp}(h:Fit s q):OkM ⟨q,bc⟩:=⟨fun t ht=>(h.c.t t ht).c,⟨aV.2,aV.2⟩,by have:=h.n;show q.terms.length<_;omega⟩
structure Gd (s:Rs) (xs:List Rm) (O:List To) (q:Nat) (L:List Rt) (N:Nat):Prop where
 sq:Sq s
 x:xs.length=s.dom.length
 t:LE s.dom.length O
 ok:∀m∈cM s xs O,OkM m
 v:∀i,i<s.dom.length->(cM s xs O)[i]?=some (xQ s i)
 q:(cM s xs O)[q]?=some ⟨⟨s.dom.length,L⟩,bc⟩
 ps:Ps s L N
theorem Gd.len{s:Rs}{xs:List Rm}{O:List To}{q:Nat}{L:List Rt}{N:Nat}(g:Gd s xs O q L N):(cM s xs O).length=s.dom.length+O.length:=by rw[LG,g.x]
theorem agA{n:Nat}{O:List To}{o:To}(h:LE n O)(ho:Okp ((n+O.length:Nat):Int) o):LE n (O++[o]):=fun i p hp=>by
 by_cases g:i<O.length
 ·rw[List.getElem?_append_left g]at hp;exact h i p hp
 ·rw[List.getElem?_append_right ω]at hp;obtain⟨h1,h2⟩:=List.getElem?_eq_some_iff.1 hp;have h1:i-O.length<1:=h1;have:i=O.length:=ω
  subst this;have h3:o=p:=by simpa using h2
  rw[←h3];exact ho
theorem YD{l:List Rm}{m r:Rm}{i:Nat}(h:l[i]?=some r):(l++[m])[i]?=some r:=by
 rw[List.getElem?_append_left (List.getElem?_eq_some_iff.1 h).1];exact h
theorem Ik{l:List Rm}{m d:Rm}{i:Nat}(h:l[i]?=some m):l.getD i d=m:=by simp[List.getD,h]
theorem Gd.step{s:Rs}{xs:List Rm}{O:List To}{q:Nat}{L:List Rt}{N:Nat}(g:Gd s xs O q L N){o:To}{m:Rm}(ho:Okp ((s.dom.length+O.length:Nat):Int) o)(hm:GQ s (cM s xs O) o=m)(om:OkM m):Gd s xs (O++[o]) q L N/\(cM s xs (O++[o]))[s.dom.length+O.length]?=some m:=by
 have e:cM s xs (O++[o])=cM s xs O++[m]:=by rw[QA,hm]
 refine⟨⟨g.sq,g.x,agA g.t ho,?_,?_,?_,g.ps⟩,?_⟩
 ·rw[e];intro y hy;rcases List.mem_append.1 hy with hy|hy
  ·exact g.ok y hy
  ·rw[List.mem_singleton.1 hy];exact om
 ·intro i hi;rw[e];exact YD (g.v i hi)
 ·rw[e];exact YD g.q
 ·rw[e,←g.len];simp
theorem Gd.con{s:Rs}{xs:List Rm}{O:List To}{q:Nat}{L:List Rt}{N:Nat}(g:Gd s xs O q L N){c:Int}(hc:Sm c):Gd s xs (O++[⟨1,0,0,0,c,1⟩]) q L N/\(cM s xs (O++[⟨1,0,0,0,c,1⟩]))[s.dom.length+O.length]?=some ⟨vf s.dom.length (iL s.dom.length) c,bc⟩:=by
 have ho:=(My g.sq.sp).2;refine g.step (.inl ⟨c,hc,rfl⟩) (agu g.sq hc) (Ij (Ii g.sq ⟨by simp[iL],fun x hx=>(U5 x hx).1,by rw[Em];omega⟩ hc))
theorem Gd.mul{s:Rs}{xs:List Rm}{O:List To}{q:Nat}{L:List Rt}{N:Nat}(g:Gd s xs O q L N){c:Int}(hc:Sm c){a i:Nat}{e:List Int}(ha:(cM s xs O)[a]?=some ⟨vf s.dom.length e c,bc⟩)(he:Xp s e)(hi:i<s.dom.length)(hd:aS e+1<=s.ord):
  Gd s xs (O++[⟨5,a,i,0,0,0⟩]) q L N/\(cM s xs (O++[⟨5,a,i,0,0,0⟩]))[s.dom.length+O.length]?=some ⟨vf s.dom.length (inc e i) c,bc⟩/\Xp s (inc e i):=by
 have hx:Xp s (inc e i):=⟨by rw[Ih,he.l],fun x hx=>by
  rcases List.mem_or_eq_of_mem_set hx with hx|rfl
  ·exact he.b x hx
  ·have:=he.b _ (Ci (l:=e) (i:=i) (by rw[he.l];exact hi));omega,by rw[Ep (by rw[he.l];exact hi)];exact hd⟩
 have hl:=(List.getElem?_eq_some_iff.1 ha).1;rw[g.len]at hl;have hv:GQ s (cM s xs O) ⟨5,a,i,0,0,0⟩=Cn s ⟨vf s.dom.length e c,bc⟩ (xQ s i):=by
  show Cn s ((cM s xs O).getD (a:Int).toNat (kF s)) ((cM s xs O).getD (i:Int).toNat (kF s))=_;rw[ay4,ay4,Ik ha,Ik (g.v i hi)]
 obtain⟨h1,h2⟩:=g.step (o:=⟨5,a,i,0,0,0⟩) (.inr ⟨5,a,i,.inr rfl,⟨by omega,by omega⟩,⟨by omega,by omega⟩,rfl⟩) (hv.trans (aoo g.sq he hc hi hd)) (Ij (Ii g.sq hx hc));exact⟨h1,h2,hx⟩
theorem Gd.add{s:Rs}{xs:List Rm}{O:List To}{q:Nat}{L:List Rt}{N:Nat}(g:Gd s xs O q L N)(hN:N<=400){c:Int}(hc:Sm c){a:Nat}{e:List Int}(ha:(cM s xs O)[a]?=some ⟨vf s.dom.length e c,bc⟩)(he:Xp s e):
  Gd s xs (O++[⟨3,q,a,0,0,0⟩]) (s.dom.length+O.length) (yA L e c) (N+1):=by
 have hl:=(List.getElem?_eq_some_iff.1 ha).1;have hq:=(List.getElem?_eq_some_iff.1 g.q).1;rw[g.len]at hl hq;obtain⟨k1,k2⟩:=aoq g.sq g.ps hN he hc;have hv:GQ s (cM s xs O) ⟨3,q,a,0,0,0⟩=LC s ⟨⟨s.dom.length,L⟩,bc⟩ ⟨vf s.dom.length e c,bc⟩:=by
  show LC s ((cM s xs O).getD (q:Int).toNat (kF s)) ((cM s xs O).getD (a:Int).toNat (kF s))=_;rw[ay4,ay4,Ik ha,Ik g.q]
 obtain⟨h1,h2⟩:=g.step (o:=⟨3,q,a,0,0,0⟩) (.inr ⟨3,q,a,.inl rfl,⟨by omega,by omega⟩,⟨by omega,by omega⟩,rfl⟩) (hv.trans k1) (Ij (k2.fit g.sq ω));exact⟨g.sq,g.x,h1.t,h1.ok,h1.v,h2,k2⟩
def iV(e:List Int)(i:Nat)(j:Int):List Int:=(e.take i++ayW (e.length-i) 0).set i j
theorem ut{e:List Int}{i:Nat}{j:Int}(h:i<=e.length):(iV e i j).length=e.length:=by
 simp[iV];omega
theorem xf{e:List Int}{i n:Nat}{j:Int}(h:i<e.length)(hn:n< (iV e i j).length):(iV e i j)[n]=if n<i then e.getD n 0 else if n=i then j else 0:=by
 have hl:=ut (e:=e) (i:=i) (j:=j) ω;have hn2:n<e.length:=ω
 simp only[iV,List.getElem_set];by_cases g1:n<i
 ·rw[if_neg ω,if_pos g1,List.getElem_append_left (by simp;omega)];simp[List.getD,hn2]
 ·by_cases g2:n=i
  ·rw[if_pos g2.symm,if_neg g1,if_pos g2]
  ·rw[if_neg ω,if_neg g1,if_neg g2,List.getElem_append_right (by simp;omega)];simp
theorem MA{e u:List Int}{i:Nat}{j:Int}(h:i<e.length)(hl:u.length=e.length)(hu:∀n,n<e.length->u.getD n 0=if n<i then e.getD n 0 else if n=i then j else 0):u=iV e i j:=by
 apply List.ext_getElem
 ·rw[ut ω,hl]
 ·intro n h1 h2;rw[xf h h2,←hu n ω];simp[List.getD,h1]
theorem SJ{e:List Int}{i:Nat}{j:Int}(h:i<e.length):inc (iV e i j) i=iV e i (j+1):=by
 have hl:=ut (e:=e) (i:=i) (j:=j) ω;refine MA h (by rw[Ih,hl]) fun n hn=>?_;have hn':n< (iV e i j).length:=ω
 have hi':i< (iV e i j).length:=ω
 have e1:=xf (j:=j) h hn';have e2:=xf (j:=j) h hi';rw[if_neg ω,if_pos rfl]at e2;unfold inc;simp only[List.getD,List.getElem?_set,hi',hn',e2,List.getElem?_eq_getElem,Option.getD_some,e1];by_cases g1:i=n
 ·subst g1;simp
 ·simp[g1,Ne.symm g1]
theorem Js{l:List Int}{n:Nat}(h:n<l.length):l.getD n 0=l[n]:=by simp[List.getD,h]
theorem YE{e:List Int}{i:Nat}(h:i+1<e.length):iV e i (e.getD i 0)=iV e (i+1) 0:=by
 have hl:=ut (e:=e) (i:=i) (j:=e.getD i 0) ω;refine MA h hl fun n hn=>?_;have hn':n< (iV e i (e.getD i 0)).length:=ω
 rw[Js hn',xf ω hn'];by_cases g1:n<i
 ·rw[if_pos g1,if_pos ω]
 ·by_cases g2:n=i
  ·rw[if_neg g1,if_pos g2,if_pos ω,g2]
  ·rw[if_neg g1,if_neg g2,if_neg ω];split<;>rfl
theorem abl{e:List Int}{i:Nat}(h:i+1=e.length):iV e i (e.getD i 0)=e:=by
 refine(MA ω rfl fun n hn=>?_).symm;by_cases g1:n<i
 ·rw[if_pos g1]
 ·rw[if_neg g1,if_pos ω];congr 1;omega
theorem adw{e:List Int}(h:0<e.length):iL e.length=iV e 0 0:=by
 refine MA h (by simp[iL]) fun n hn=>?_;rw[if_neg ω];simp[iL,List.getD,hn]
theorem YF:∀ {u e:List Int},u.length=e.length->(∀n,n<e.length->u.getD n 0<=e.getD n 0)->aS u<=aS e
 |[],[],_,_=>Int.le_refl _
 |x::u,y::e,hl,h=>by
  have h0:=h 0 σ;have ih:=YF (u:=u) (e:=e) (by simpa using hl) fun n hn=>by
   have:=h (n+1) (by simpa using hn);simpa [List.getD]using this
  have h0:x<=y:=by simpa [List.getD]using h0
  show x+aS u<=y+aS e;omega
 |[],_::_,hl,_=>by simp at hl
 |_::_,[],hl,_=>by simp at hl
theorem aox{s:Rs}{e:List Int}(he:Xp s e){i:Nat}(hi:i<e.length){j:Int}(h0:0<=j)(hj:j<=e.getD i 0):Xp s (iV e i j)/\(j<e.getD i 0->aS (iV e i j)+1<=s.ord):=by
 have hl:=ut (e:=e) (i:=i) (j:=j) ω;have hm:∀k:Int,k<=e.getD i 0->aS (iV e i k)<=aS e:=fun k hk=>YF (ut ω) fun n hn=>by
  have hn':n< (iV e i k).length:=by rw[ut ω];exact hn
  rw[Js hn',xf hi hn'];have h1:0<=e.getD n 0:=he.b _ (Ci hn);split
  ·exact Int.le_refl _
  ·split
   ·rename_i h2;rw[h2];exact hk
   ·exact h1
 have hd:=he.d;refine⟨⟨by rw[hl,he.l],fun x hx=>?_,Int.le_trans (hm j hj) hd⟩,fun h=>?_⟩
 ·obtain⟨n,hn,rfl⟩:=List.getElem_of_mem hx;rw[xf hi hn];split
  ·exact he.b _ (Ci ω)
  ·split
   ·exact h0
   ·exact Int.le_refl _
 ·have h1:=hm (j+1) ω;rw[←SJ hi,Ep ω]at h1;omega
abbrev Il(t:List Int):List AV:=t.map fun z=>.v (.int .i8 z)
abbrev GR(T:List (List Int)):List (List AV):=T.map Il
structure Bx (S:ai) (h:ac) (s:Rs) (n:Nat) (k:Int) (T:List (List Int)) (i:Nat) (xs:List Rm) (O:List To) (wc:AV) (q:Nat):Prop where
 k7:S 7=.ref 7 none 0 0 0
 k8:S 8=I k
 k9:S 9=.ref 9 none 0 0 0
 k10:S 10=.rsl 61 none 9 0 n
 k12:S 12=.ref 12 none 0 0 0
 k13:S 13=.fn F.l27_ModelevalExact_1 [] [.ref 12 none 0 0 0,.ref 7 none 0 0 0]
 k14:S 14=.ref 14 none 0 0 0
 k15:S 15=I q
 k72:S 72=.sl 4 (GR T)
 k73:S 73=I T.length
 k74:S 74=I i
 h7:h 7=.bx [I n]
 h9:h 9=.bx (J1 s)
 h12:h 12=.bx [I n,.osl 6 (qN O),.emp]
 h14:h 14=.bx [I n,wc]
 h61:h 61=.ar 9 (gN xs)
 h49:h 49=.dead
 h150:h 150=.dead
structure Bi (S:ai) (h:ac) (s:Rs) (n:Nat) (k:Int) (T:List (List Int)) (i:Nat) (xs:List Rm) (O:List To) (wc:AV) (q:Nat) (t ex:List Int):Prop extends Bx S h s n k T i xs O wc q where
 k17:S 17=.ref 17 none 0 0 0
 k18:S 18=.rsl 79 none 1 0 n
 h17:h 17=.bx (Il t)
 h79:h 79=.ar 1 (aI ex)
theorem MB(ids:List Nat):∀t:List Int,aA ids (.bx (Il t))=true:=fun t=>by
 simp[aA,Il,jk,aZ,bo]
theorem al7{s:Rs}{n:Nat}{kk:Int}{T:List (List Int)}{it:Nat}{xs:List Rm}{wc:AV}{q N:Nat}{L:List Rt}{t ex:List Int}(hn:n=s.dom.length)(hn8:n<=8)(hcl:∀ids,aA ids (.bx [I n,wc])=true)(he:Xp s ex){z:Int}(hz:Sm z){v e:Nat}(hv:v<n)(hev:ex.getD v 0=e)(he9:e<=100):
  ∀ (k j:Nat),j+k=e->∀ (O:List To) (c:Nat),Gd s xs O q L N->O.length+k<=150->(cM s xs O)[c]?=some ⟨vf n (iV ex v j) z,bc⟩->∀ (S:ai) (h:ac) (X:Option (Ex×St)),ah 10 [7,8,9,10,12,13,14,15,17,18,21,72,73,74,110,111,112] (aq (aj R (az false) ft) [7,8,9,10,12,13,14,15,17,18,21,22,72,73,74,110,111,112,117,118] [7,9,12,14,17,49,61,79,150] S h)=X->
   Bi S h s n kk T it xs O wc q t ex->S 21=I c->S 22=I v->S 110=.rsl 79 none 1 0 n->S 111=I n->S 112=I v->S 117=I e->S 118=I j->
   ∃ (O':List To) (c':Nat) (S':ai) (hh:ac),X=some (.normal,⟨S',hh⟩)/\Bi S' hh s n kk T it xs O' wc q t ex/\Gd s xs O' q L N/\O'.length=O.length+k/\(cM s xs O')[c']?=some ⟨vf n (iV ex v e) z,bc⟩/\S' 21=I c'/\S' 110=.rsl 79 none 1 0 n/\S' 111=I n/\S' 112=I v:=by
 intro k;induction k with
 |zero=>
  intro j hj O c gd hO hc S h X hX g k21 k22 k110 k111 k112 k117 k118;have:j=e:=ω
  subst this;subst hX;rw[ag];simp only[ft,go_sem,g.k7,g.k8,g.k9,g.k10,g.k12,g.k13,g.k14,g.k15,g.k17,g.k18,g.k72,g.k73,g.k74,g.h7,g.h9,g.h12,g.h14,g.h17,g.h61,g.h79,g.h49,g.h150,k21,k22,k110,k111,k112,k117,k118,hcl,MB,azI];exact⟨O,c,_,_,rfl,⟨⟨rfl,rfl,rfl,rfl,rfl,rfl,rfl,rfl,rfl,rfl,rfl,rfl,rfl,rfl,rfl,rfl,rfl,rfl⟩,rfl,rfl,rfl,rfl⟩,gd,rfl,hc,rfl,rfl,rfl,rfl⟩
 |succ k ih=>
  intro j hj O c gd hO hc S h X hX g k21 k22 k110 k111 k112 k117 k118;have hlt:j<e:=ω
  have e1:((j:Int)< (e:Int))=True:=tt;have e3:IntKind.i64.wrap ((j:Int)+1)=((j+1:Nat):Int):=wi;have hel:ex.length=s.dom.length:=he.l;have hx:=aox he (i:=v) ω (j:=(j:Int)) ω ω;rw[hn]at hc;obtain⟨gd',hc',hx'⟩:=gd.mul (i:=v) (e:=iV ex v (j:Int)) (a:=c) hz hc hx.1 ω (hx.2 ω);rw[SJ (e:=ex) (i:=v) (j:=(j:Int)) ω,←hn,show((j:Int)+1)=((j+1:Nat):Int)by omega]at hc';have ih':=ih (j+1) ω _ _ gd' (by simp;omega) hc';have hcall:=fun(h:ac) (d:Nat) (h12:h 12=.bx [I n,.osl 6 (qN O),.emp]) (h7:h 7=.bx [I n]) (hd:h (2000+8*d)=.dead)=>Jq (n:=n) (o:=⟨5,c,v,0,0,0⟩) (d:=d) (.inr rfl) ω ω h12 h7 hd;simp only[sn]at hcall;subst hX;rw[ag];generalize aq _ _ _=M at ih'⊢;simp only[ft,go_sem,g.k7,g.k8,g.k9,g.k10,g.k12,g.k13,g.k14,g.k15,g.k17,g.k18,g.k72,g.k73,g.k74,g.h7,g.h9,g.h12,g.h14,g.h17,g.h61,g.h79,g.h49,g.h150,k21,k22,k110,k111,k112,k117,k118,hcl,MB,e1];rw[hcall _ _ rfl rfl rfl];simp only[go_sem,e3];generalize hX:ah 10 _ (M _ _)=X;obtain⟨O',c',S',hh,r1,r2,r3,r4,r5⟩:=ih' _ _ _ hX ⟨⟨rfl,rfl,rfl,rfl,rfl,rfl,rfl,rfl,rfl,rfl,rfl,rfl,rfl,rfl,rfl,rfl,rfl,rfl⟩,rfl,rfl,rfl,rfl⟩ rfl rfl rfl rfl rfl rfl rfl;refine⟨O',c',S',hh,r1,r2,r3,?_,r5⟩;rw[r4];simp;omega
def wr(n:Nat)(ex:List Int)(i:Nat):List Int:=if i<n then iV ex i 0 else ex
theorem al8{s:Rs}{n:Nat}{kk:Int}{T:List (List Int)}{it:Nat}{xs:List Rm}{wc:AV}{q N:Nat}{L:List Rt}{t ex:List Int}(hn:n=s.dom.length)(hn8:n<=8)(hcl:∀ids,aA ids (.bx [I n,wc])=true)(he:Xp s ex)(h2:∀x∈ex,x<=2){z:Int}(hz:Sm z):
  ∀ (k i:Nat),i+k=n->∀ (O:List To) (c:Nat),Gd s xs O q L N->O.length+2*k<=150->(cM s xs O)[c]?=some ⟨vf n (wr n ex i) z,bc⟩->∀ (S:ai) (h:ac) (X:Option (Ex×St)),ah 8 [7,8,9,10,12,13,14,15,17,18,21,72,73,74] (aq (aj R (az false) gZ) [7,8,9,10,12,13,14,15,17,18,21,72,73,74,110,111,112] [7,9,12,14,17,49,61,79,150] S h)=X->
   Bi S h s n kk T it xs O wc q t ex->S 21=I c->S 110=.rsl 79 none 1 0 n->S 111=I n->S 112=I i->
   ∃ (O':List To) (c':Nat) (S':ai) (hh:ac),X=some (.normal,⟨S',hh⟩)/\Bi S' hh s n kk T it xs O' wc q t ex/\Gd s xs O' q L N/\O'.length<=O.length+2*k/\(cM s xs O')[c']?=some ⟨vf n ex z,bc⟩/\S' 21=I c'/\∀b,b≠7->b≠9->b≠12->b≠14->b≠17->b≠61->b≠79->hh b=.dead:=by
 intro k;induction k with
 |zero=>
  intro i hi O c gd hO hc S h X hX g k21 k110 k111 k112;have:i=n:=ω
  subst this;subst hX;rw[wr,if_neg (Nat.lt_irrefl _)]at hc;rw[ag];simp only[gZ,go_sem,g.k7,g.k8,g.k9,g.k10,g.k12,g.k13,g.k14,g.k15,g.k17,g.k18,g.k72,g.k73,g.k74,g.h7,g.h9,g.h12,g.h14,g.h17,g.h61,g.h79,g.h49,g.h150,k21,k110,k111,k112,hcl,MB,azI];refine⟨O,c,_,_,rfl,⟨⟨rfl,rfl,rfl,rfl,rfl,rfl,rfl,rfl,rfl,rfl,rfl,rfl,rfl,rfl,rfl,rfl,rfl,rfl⟩,rfl,rfl,rfl,rfl⟩,gd,by omega,hc,rfl,?_⟩;intro b b1 b2 b3 b4 b5 b6 b7;simp only[cj,b1,b2,b3,b4,b5,b6,b7,if_false,ite_self]
 |succ k ih=>
  intro i hi O c gd hO hc S h X hX g k21 k110 k111 k112;have hlt:i<n:=ω
  have hel:ex.length=s.dom.length:=he.l;have e1:((i:Int)< (n:Int))=True:=tt;have e3:IntKind.i64.wrap ((i:Int)+1)=((i+1:Nat):Int):=wi;have hm:=Ci (l:=ex) (i:=i) ω;obtain⟨e,hev⟩:=az4 (he.b _ hm);have he2:e<=2:=by
   have:=h2 _ hm;omega
  have ra:(aI ex)[i]?=some [I e]:=by
   have hil:i<ex.length:=ω
   rw[Js hil]at hev;simp[aI,hil,hev]
  have lz:(aI ex).length=n:=by rw[rU,hel,hn]
  have qa:(0<=(i:Int))=True:=tt;rw[wr,if_pos hlt]at hc;have h0:=al7 (kk:=kk) (T:=T) (it:=it) (t:=t) hn hn8 hcl he hz hlt hev ω e 0 (ayX _) O c gd ω hc;have ih':=ih (i+1) ω;subst hX;rw[ag];generalize aq _ _ _=M at ih'⊢;simp only[gZ,go_sem,g.k7,g.k8,g.k9,g.k10,g.k12,g.k13,g.k14,g.k15,g.k17,g.k18,g.k72,g.k73,g.k74,g.h7,g.h9,g.h12,g.h14,g.h17,g.h61,g.h79,g.h49,g.h150,k21,k110,k111,k112,hcl,MB,e1,qa,ra,lz,ay4,ayX];generalize hX:ah 10 _ _=X;obtain⟨O2,c2,S2,hh2,rfl,g2,gd2,l2,hc2,s21,s110,s111,s112⟩:=h0 _ _ _ hX ⟨⟨rfl,rfl,rfl,rfl,rfl,rfl,rfl,rfl,rfl,rfl,rfl,rfl,rfl,rfl,rfl,rfl,rfl,rfl⟩,rfl,rfl,rfl,rfl⟩ rfl rfl rfl rfl rfl rfl rfl;simp only[go_sem,g2.k7,g2.k8,g2.k9,g2.k10,g2.k12,g2.k13,g2.k14,g2.k15,g2.k17,g2.k18,g2.k72,g2.k73,g2.k74,s21,s110,s111,s112,e3];generalize hX2:ah 8 _ (M _ _)=X;have hmid:iV ex i (e:Int)=wr n ex (i+1):=by
   unfold wr;split
   ·rw[←hev];exact YE ω
   ·rw[←hev];exact abl ω
  rw[hmid]at hc2;obtain⟨O',c',S',hh,r1,r2,r3,r4,r5⟩:=ih' O2 c2 gd2 ω hc2 _ _ _ hX2 ⟨⟨rfl,rfl,rfl,rfl,rfl,rfl,rfl,rfl,rfl,rfl,rfl,g2.h7,g2.h9,g2.h12,g2.h14,g2.h61,g2.h49,g2.h150⟩,rfl,rfl,g2.h17,g2.h79⟩ rfl rfl rfl rfl;exact⟨O',c',S',hh,r1,r2,r3,by omega,r5⟩
def YG(n:Nat)(t:List Int):List Int:=(t.take n).map fun z=>z%256%3
theorem abm{ex:List Int}{i:Nat}(hi:i<ex.length):∀e:Nat,aS (iV ex i (e:Int))=aS (iV ex i 0)+e
 |0=>by simp
 |e+1=>by
  have h:=abm hi e;have hl:=ut (e:=ex) (i:=i) (j:=(e:Int)) ω;rw[show((e+1:Nat):Int)=(e:Int)+1 by omega,←SJ hi,Ep ω,h];omega
theorem ajH(n:Nat)(t:List Int):∀x∈YG n t,0<=x/\x<=2:=fun x hx=>by
 obtain⟨z,_,rfl⟩:=List.mem_map.1 hx;omega
theorem ajI:∀ {l:List Int},(∀x∈l,0<=x/\x<=2)->0<=aS l/\aS l<=2*l.length
 |[],_=>by decide
 |x::l,h=>by
  have h1:=h x σ;have h2:=ajI (l:=l) fun y hy=>h y (by simp[hy]);show 0<=x+aS l/\x+aS l<=2*((l.length+1:Nat):Int);omega
theorem al9{s:Rs}{n:Nat}{kk:Int}{T:List (List Int)}{it:Nat}{xs:List Rm}{wc:AV}{q:Nat}{t ex:List Int}{O:List To}(hn8:n<=3)(hcl:∀ids,aA ids (.bx [I n,wc])=true)(ht:t.length=4)(hex:ex=YG n t):
  ∀ (k i:Nat),i+k=n->∀ (S:ai) (h:ac) (X:Option (Ex×St)),ah 6 [7,8,9,10,12,13,14,15,17,18,19,72,73,74] (aq (aj R (az false) hF) [7,8,9,10,12,13,14,15,17,18,19,72,73,74,80,81] [7,9,12,14,17,49,61,79,150] S h)=X->
   Bi S h s n kk T it xs O wc q t (wr n ex i)->S 19=I (aS (wr n ex i))->S 80=I n->S 81=I i->
   ∃ (S':ai) (hh:ac),X=some (.normal,⟨S',hh⟩)/\Bi S' hh s n kk T it xs O wc q t ex/\S' 19=I (aS ex)/\∀b,b≠7->b≠9->b≠12->b≠14->b≠17->b≠61->b≠79->hh b=.dead:=by
 have hel:ex.length=n:=by
  rw[hex];simp[YG];omega
 intro k;induction k with
 |zero=>
  intro i hi S h X hX g k19 k80 k81;have:i=n:=ω
  subst this;subst hX;rw[wr,if_neg (Nat.lt_irrefl _)]at g k19;rw[ag];simp only[hF,go_sem,g.k7,g.k8,g.k9,g.k10,g.k12,g.k13,g.k14,g.k15,g.k17,g.k18,g.k72,g.k73,g.k74,g.h7,g.h9,g.h12,g.h14,g.h17,g.h61,g.h79,g.h49,g.h150,k19,k80,k81,hcl,MB,azI];refine⟨_,_,rfl,⟨⟨rfl,rfl,rfl,rfl,rfl,rfl,rfl,rfl,rfl,rfl,rfl,rfl,rfl,rfl,rfl,rfl,rfl,rfl⟩,rfl,rfl,rfl,rfl⟩,rfl,?_⟩;intro b b1 b2 b3 b4 b5 b6 b7;simp only[cj,b1,b2,b3,b4,b5,b6,b7,if_false,ite_self]
 |succ k ih=>
  intro i hi S h X hX g k19 k80 k81;have hlt:i<n:=ω
  have e1:((i:Int)< (n:Int))=True:=tt;have e3:IntKind.i64.wrap ((i:Int)+1)=((i+1:Nat):Int):=wi;have hev:ex.getD i 0=t.getD i 0%256%3:=by
   rw[hex,Js (by rw[←hex];omega)];simp[YG,List.getD,show i<t.length by omega]
  have et:(Il t)[i]?=some (.v (.int .i8 (t.getD i 0))):=by
   simp[Il,List.getD,show i<t.length by omega]
  generalize t.getD i 0=z at hev et;obtain⟨e,he⟩:∃e:Nat,z%256%3=(e:Int):=⟨(z%256%3).toNat,by omega⟩;have he2:e<=2:=ω
  have w1:IntKind.u8.wrap z=z%256:=rfl;have w2:IntKind.i64.wrap (z%256)=z%256:=by rw[i64_in]<;>omega
  have e6:dq .rem (I (z%256)) (I 3)=some (I e):=by
   rw[ww,if_neg ω,Int.tmod_eq_emod_of_nonneg ω,he]
  rw[he]at hev;have hmid:iV ex i (e:Int)=wr n ex (i+1):=by
   unfold wr;split
   ·rw[←hev];exact YE ω
   ·rw[←hev];exact abl ω
  have hsm:=abm (ex:=ex) (i:=i) ω e;have hset:(aI (iV ex i 0)).set i [I e]=aI (iV ex i (e:Int)):=by
   rw[Sd];simp[iV]
  have hl0:(iV ex i 0).length=n:=by rw[ut ω,hel]
  have hle:(iV ex i (e:Int)).length=n:=by rw[ut ω,hel]
  have r0:(aI (iV ex i 0))[i]?=some [I 0]:=by
   have hh:i< (iV ex i 0).length:=ω
   have:=xf (e:=ex) (i:=i) (j:=0) ω hh;rw[if_neg (Nat.lt_irrefl _),if_pos rfl]at this;simp[aI,hh,this]
  have r1:(aI (iV ex i (e:Int)))[i]?=some [I e]:=by
   have hh:i< (iV ex i (e:Int)).length:=ω
   have:=xf (e:=ex) (i:=i) (j:=(e:Int)) ω hh;rw[if_neg (Nat.lt_irrefl _),if_pos rfl]at this;simp[aI,hh,this]
  have ih':=ih (i+1) ω;rw[←hmid,hsm]at ih';rw[wr,if_pos hlt]at g k19;have lz0:(aI (iV ex i 0)).length=n:=by rw[rU,hl0]
  have lze:(aI (iV ex i (e:Int))).length=n:=by rw[rU,hle]
  have qa:(0<=(i:Int))=True:=tt;have qb:((i:Int)< ((4:Nat):Int))=True:=tt;have sb:0<=aS (iV ex i 0)/\aS (iV ex i 0)<=100:=by
   have hb:=ajH n t;rw[←hex]at hb;have:=ajI (l:=iV ex i 0) fun x hx=>by
    obtain⟨m,hm,rfl⟩:=List.getElem_of_mem hx;rw[xf ω hm];split
    ·exact hb _ (Ci ω)
    ·split<;>omega
   omega
  have w3:IntKind.i64.wrap (aS (iV ex i 0)+(e:Int))=aS (iV ex i 0)+e:=by rw[i64_in]<;>omega
  subst hX;rw[ag];generalize aq _ _ _=M at ih'⊢;simp only[hF,go_sem,g.k7,g.k8,g.k9,g.k10,g.k12,g.k13,g.k14,g.k15,g.k17,g.k18,g.k72,g.k73,g.k74,g.h7,g.h9,g.h12,g.h14,g.h17,g.h61,g.h79,g.h49,g.h150,k19,k80,k81,hcl,MB,e1,qa,qb,ay4,ayX,Nat.mul_one,lz0,et,w1,w2,e6,r0,hset,lze,r1,w3,e3];exact ih' _ _ _ rfl ⟨⟨rfl,rfl,rfl,rfl,rfl,rfl,rfl,rfl,rfl,rfl,rfl,rfl,rfl,rfl,rfl,rfl,rfl,rfl⟩,rfl,rfl,rfl,rfl⟩ rfl rfl rfl
structure By (S:ai) (h:ac) (s:Rs) (n:Nat) (xs:List Rm) (O:List To) (wc:AV) (q:Nat):Prop where
 k9:S 9=.ref 9 none 0 0 0
 k10:S 10=.rsl 61 none 9 0 n
 k12:S 12=.ref 12 none 0 0 0
 k14:S 14=.ref 14 none 0 0 0
 k15:S 15=I q
 h9:h 9=.bx (J1 s)
 h12:h 12=.bx [I n,.osl 6 (qN O),.emp]
 h14:h 14=.bx [I n,wc]
 h61:h 61=.ar 9 (gN xs)
 d:∀b,b≠7->b≠9->b≠12->b≠14->b≠61->h b=.dead
theorem aoy{T:List (List Int)}{i:Nat}{t:List Int}(h:T[i]?=some t):aU (GR T) (i:Int)=some (.ipt (Il t)):=by
 simp[aU,GR,h]
theorem ama{s:Rs}{n:Nat}{T:List (List Int)}{xs:List Rm}(hn:n=s.dom.length)(hn0:0<n)(hn3:n<=3)(ho:s.ord<=4)(hT6:T.length<=6)(hT:∀t∈T,∃a b c d,t=[a,b,c,d]∧-128<=d/\d<=127):∀ (k i:Nat),i+k=T.length->∀ (O:List To) (q:Nat) (L:List Rt) (N:Nat) (wc:AV),Gd s xs O q L N->N<=i->O.length<=1+8*i->IsL wc L->∀ (S:ai) (h:ac) (X:Option (Ex×St)),ah 4 [9,10,12,14,15] (aq (aj R (az false) kC) [7,8,9,10,12,13,14,15,72,73,74] [7,9,12,14,49,61,150] S h)=X->Bx S h s n s.ord T i xs O wc q->
  ∃ (O':List To) (q':Nat) (L':List Rt) (N':Nat) (wc':AV) (S':ai) (hh:ac),X=some (.normal,⟨S',hh⟩)/\Gd s xs O' q' L' N'/\O'.length<=49/\N'<=6/\IsL wc' L'/\By S' hh s n xs O' wc' q':=by
 intro k;induction k with
 |zero=>
  intro i hi O q L N wc gd hN hO hw S h X hX g;have:i=T.length:=ω
  subst this;have hcl:∀ids,aA ids (.bx [I n,wc])=true:=fun ids=>by rcases hw with rfl| ⟨rfl,_⟩<;>rfl
  subst hX;rw[ag];simp only[kC,go_sem,g.k7,g.k8,g.k9,g.k10,g.k12,g.k13,g.k14,g.k15,g.k72,g.k73,g.k74,g.h7,g.h9,g.h12,g.h14,g.h61,g.h49,g.h150,hcl,azI];refine⟨O,q,L,N,wc,_,_,rfl,gd,by omega,by omega,hw,⟨rfl,rfl,rfl,rfl,rfl,rfl,rfl,rfl,rfl,?_⟩⟩;intro b b1 b2 b3 b4 b5;simp only[cj,b1,b2,b3,b4,b5,if_false,ite_self]
 |succ k ih=>
  intro i hi O q L N wc gd hN hO hw S h X hX g;have hcl:∀ids,aA ids (.bx [I n,wc])=true:=fun ids=>by rcases hw with rfl| ⟨rfl,_⟩<;>rfl
  have hlt:i<T.length:=ω
  have e1:((i:Int)< (T.length:Int))=True:=tt;have e3:IntKind.i64.wrap ((i:Int)+1)=((i+1:Nat):Int):=wi;obtain⟨ta,tb,tc,td,ht,td1,td2⟩:=hT _ (azo hlt);have e2:aU (GR T) (i:Int)=some (.ipt (Il [ta,tb,tc,td])):=aoy (by rw[List.getElem?_eq_getElem hlt,ht]);simp only[Il,azv,azF]at e2;have z1:lI (.v (.int .i64 (n:Int))) (.v (.int .i64 (n:Int)))=some (n,n):=by
   grind[lI]
  have z2:(n*8<=140737488355328)=True:=tt;have hex:(YG n [ta,tb,tc,td]).length=n:=by
   simp[YG];omega
  generalize hE:YG n [ta,tb,tc,td]=ex at hex;have z3:ayW n [AV.v (.int .i64 0)]=aI (wr n ex 0):=by
   unfold wr;rw[if_pos hn0,←adw ω,hex];simp[aI,iL]
  have hm0:aS (wr n ex 0)=0:=by
   unfold wr;rw[if_pos hn0,←adw ω,Em]
  have h2:=al9 (s:=s) (kk:=s.ord) (T:=T) (it:=i) (xs:=xs) (wc:=wc) (q:=q) (O:=O) hn3 hcl (t:=[ta,tb,tc,td]) rfl hE.symm n 0 (ayX _);rw[hm0]at h2;have ih':=ih (i+1) ω;subst hX;rw[ag];generalize aq _ _ _=M at ih'⊢;simp only[kC,go_sem,g.k7,g.k8,g.k9,g.k10,g.k12,g.k13,g.k14,g.k15,g.k72,g.k73,g.k74,g.h7,g.h9,g.h12,g.h14,g.h61,g.h49,g.h150,hcl,e1,e2,z1,z2,z3];generalize hX2:ah 6 _ _=X;obtain⟨S2,hh2,rfl,g2,s19,d2⟩:=h2 _ _ _ hX2 ⟨⟨rfl,rfl,rfl,rfl,rfl,rfl,rfl,rfl,rfl,rfl,rfl,rfl,rfl,rfl,rfl,rfl,rfl,rfl⟩,rfl,rfl,rfl,rfl⟩ rfl rfl rfl;by_cases hd:aS ex<=s.ord
  case neg=>
   have f1:(s.ord<aS ex)=True:=tt;simp only[go_sem,g2.k7,g2.k8,g2.k9,g2.k10,g2.k12,g2.k13,g2.k14,g2.k15,g2.k17,g2.k18,g2.k72,g2.k73,g2.k74,s19,f1,e3];generalize hX3:ah 4 _ (M _ _)=X;exact ih' O q L N wc gd ω ω hw _ _ _ hX3 ⟨rfl,rfl,rfl,rfl,rfl,rfl,rfl,rfl,rfl,rfl,rfl,g2.h7,g2.h9,g2.h12,g2.h14,g2.h61,g2.h49,g2.h150⟩
  have f1:(s.ord<aS ex)=False:=ff;have q34:((3:Int)< ((4:Nat):Int))=True:=tt;have t3:Int.toNat 3=3:=rfl;have hsm:Sm td:=⟨by omega,by omega⟩;have w1:IntKind.i64.wrap td=td:=by rw[i64_in]<;>omega
  have hb:=ajH n [ta,tb,tc,td];rw[hE]at hb;have he:Xp s ex:=⟨by omega,fun x hx=>(hb x hx).1,hd⟩;obtain⟨gd1,hc1⟩:=gd.con hsm;rw[←hn]at hc1;have hz0:iL n=wr n ex 0:=by
   unfold wr;rw[if_pos hn0,←adw ω,hex]
  rw[hz0]at hc1;have hcall1:=fun(h:ac) (d:Nat) (h12:h 12=.bx [I n,.osl 6 (qN O),.emp]) (h7:h 7=.bx [I n]) (hd:h (2000+8*d)=.dead)=>Jq (n:=n) (o:=⟨1,0,0,0,td,1⟩) (d:=d) (.inr rfl) ω ω h12 h7 hd;simp only[sn]at hcall1;have h17:=g2.h17;simp only[Il,azv,azF]at h17;have h1:=al8 (kk:=s.ord) (T:=T) (it:=i) (t:=[ta,tb,tc,td]) hn ω hcl he (fun x hx=>(hb x hx).2) hsm n 0 (ayX _) _ _ gd1 (by simp;omega) hc1;simp only[go_sem,azf,azh,aza,decide_false,decide_true,g2.k7,g2.k8,g2.k9,g2.k10,g2.k12,g2.k13,g2.k14,g2.k15,g2.k17,g2.k18,g2.k72,g2.k73,g2.k74,s19,f1,h17,w1,q34,t3];rw[hcall1 _ _ g2.h12 g2.h7 (d2 _ δ δ δ δ δ δ δ)];simp only[go_sem,g2.k7,g2.k8,g2.k9,g2.k10,g2.k12,g2.k13,g2.k14,g2.k15,g2.k17,g2.k18,g2.k72,g2.k73,g2.k74];generalize hX4:ah 8 _ _=X;obtain⟨O2,c2,S3,hh3,rfl,g3,gd3,l3,hc3,s21,d3⟩:=h1 _ _ _ hX4 ⟨⟨rfl,rfl,rfl,rfl,rfl,rfl,rfl,rfl,rfl,rfl,rfl,g2.h7,g2.h9,rfl,g2.h14,g2.h61,g2.h49,g2.h150⟩,rfl,rfl,g2.h17,g2.h79⟩ rfl rfl rfl rfl;have lO1:(O++[(⟨1,0,0,0,td,1⟩:To)]).length=O.length+1:=σ
  rw[lO1]at l3;have hc3':=hc3;rw[hn]at hc3';have gd4:=gd3.add ω hsm hc3' he;rw[←hn]at gd4;have hcall2:=fun(h:ac) (d:Nat) (h12:h 12=.bx [I n,.osl 6 (qN O2),.emp]) (h7:h 7=.bx [I n]) (hd:h (2000+8*d)=.dead)=>Jq (n:=n) (o:=⟨3,q,c2,0,0,0⟩) (d:=d) (.inr rfl) ω ω h12 h7 hd;simp only[sn]at hcall2;have h17:=g3.h17;simp only[Il,azv,azF]at h17;simp only[go_sem,azf,azh,aza,decide_false,decide_true,g3.k7,g3.k8,g3.k9,g3.k10,g3.k12,g3.k13,g3.k14,g3.k15,g3.k17,g3.k18,g3.k72,g3.k73,g3.k74,s21];rw[hcall2 _ _ g3.h12 g3.h7 (d3 _ δ δ δ δ δ δ δ)];have lO2:(O2++[(⟨3,q,c2,0,0,0⟩:To)]).length=O2.length+1:=σ
  by_cases h0:td=0
  ·have f2:(td=0)=True:=tt h0;simp only[go_sem,azf,azh,aza,decide_false,decide_true,g3.k7,g3.k8,g3.k9,g3.k10,g3.k12,g3.k13,g3.k14,g3.k15,g3.k17,g3.k18,g3.k72,g3.k73,g3.k74,s21,h17,q34,t3,f2,e3];generalize hX5:ah 4 _ (M _ _)=X;have ea:yA L ex td=L:=if_pos h0;rw[ea]at gd4;exact ih' _ _ L (N+1) wc gd4 ω ω hw _ _ _ hX5 ⟨rfl,rfl,rfl,rfl,rfl,rfl,rfl,rfl,rfl,rfl,rfl,g3.h7,g3.h9,rfl,g3.h14,g3.h61,g3.h49,g3.h150⟩
  ·have f2:(td=0)=False:=ff h0;have hnm:=OH hsm;obtain⟨k1,k2⟩:=agv gd.sq gd.ps ω he hsm h0;have hco:=ac9 (l:=L) gd.ps.c (he.vt gd.sq hsm h0) (ay3 gd.ps.n ω);rw[k1]at hco;have lz:(aI ex).length=n:=by rw[rU,hex]
   have q5:(n<=(aI ex).length)=True:=tt;have q6:(aI ex).take n=aI ex:=azg ω;have dd1:hh3 3136=.dead:=d3 _ δ δ δ δ δ δ δ;have dd2:hh3 3152=.dead:=d3 _ δ δ δ δ δ δ δ;have dd3:hh3 3153=.dead:=d3 _ δ δ δ δ δ δ δ;simp only[aie,bV,af,ak]at hco hnm;generalize dG td=nd at hnm hco;generalize yA L ex td=L2 at gd4 hco k2;rcases hw with rfl| ⟨rfl,rfl⟩
   all_goals
    try rw[show aD ([]:List Rt)=[]from rfl]at hco
    simp only[go_sem,azf,azh,aza,decide_false,decide_true,g3.k7,g3.k8,g3.k9,g3.k10,g3.k12,g3.k13,g3.k14,g3.k15,g3.k17,g3.k18,g3.k72,g3.k73,g3.k74,g3.h14,g3.h79,s21,h17,q34,t3,f2,w1,hnm,hco,lz,q5,q6,FT,dd1,dd2,dd3,e3,ayX,ayZ];generalize hX5:ah 4 _ (M _ _)=X;exact ih' _ _ L2 (N+1) (.sl 4 (aD L2)) gd4 ω ω (.inl rfl) _ _ _ hX5 ⟨rfl,rfl,rfl,rfl,rfl,rfl,rfl,rfl,rfl,rfl,rfl,g3.h7,g3.h9,rfl,rfl,g3.h61,g3.h49,g3.h150⟩
theorem aqR:dG (-1)=qI:=(Mz (neg:=true) (n:=-1) (m:=1) (k:=0) rfl rfl δ rfl).symm
theorem auE:dG 1=one:=(Mz (neg:=false) (n:=1) (m:=1) (k:=0) rfl rfl δ rfl).symm
def iW(n:Nat)(k:Int):Rs:=⟨ayW n dp,k,64⟩
theorem agB{i:Nat}:bK (ayW (i+1) dp)=bK (ayW i dp)++[ax dp]:=by
 rw[List.replicate_succ',bK,List.map_append];rfl
theorem amb{n:Nat}{k:Int}{T:List (List Int)}(hn3:n<=3):∀ (r i:Nat),i+r=n->∀ (dc:AV),(dc=.emp/\i=0\/dc=.osl 7 (bK (ayW i dp)))->∀ (S:ai) (h:ac) (X:Option (Ex×St)),ah 0 [2,7,8,9,10] (aq (aj R (az false) hH) [2,7,8,9,10,40,41] [7,9,49,61] S h)=X->S 2=.sl 4 (GR T)->S 7=.ref 7 none 0 0 0->S 8=I k->S 9=.ref 9 none 0 0 0->S 10=.emp->S 40=I n->S 41=I i->h 7=.bx [I n]->h 9=.bx [dc,I k,I 64]->h 49=.dead->h 61=.dead->
  ∃ (S':ai) (hh:ac) (dc':AV),X=some (.normal,⟨S',hh⟩)/\(dc'=.emp/\n=0\/dc'=.osl 7 (bK (ayW n dp)))/\S' 2=.sl 4 (GR T)/\S' 7=.ref 7 none 0 0 0/\S' 8=I k/\S' 9=.ref 9 none 0 0 0/\S' 10=.emp/\hh 7=.bx [I n]/\hh 9=.bx [dc',I k,I 64]/\∀b,b≠7->b≠9->hh b=.dead:=by
 intro r;induction r with
 |zero=>
  intro i hi dc hdc S h X hX k2 k7 k8 k9 k10 k40 k41 h7 h9 h49 h61;have:i=n:=ω
  subst this;have hcl:∀ids,aA ids (.bx [dc,I k,I 64])=true:=fun ids=>by rcases hdc with⟨rfl,_⟩|rfl<;>rfl
  subst hX;rw[ag];simp only[hH,go_sem,k2,k7,k8,k9,k10,k40,k41,h7,h9,h49,h61,hcl,azI];refine⟨_,_,dc,rfl,hdc,rfl,rfl,rfl,rfl,rfl,rfl,rfl,?_⟩;intro b b1 b2;simp only[cj,b1,b2,if_false,ite_self]
 |succ r ih=>
  intro i hi dc hdc S h X hX k2 k7 k8 k9 k10 k40 k41 h7 h9 h49 h61;have e1:((i:Int)< (n:Int))=True:=tt;have e3:IntKind.i64.wrap ((i:Int)+1)=((i+1:Nat):Int):=wi;have hm:=OH (n:=-1) ⟨by omega,by omega⟩;have hp:=OH (n:=1) ⟨by omega,by omega⟩;rw[aqR]at hm;rw[auE]at hp;have ih':=ih (i+1) ω (.osl 7 (bK (ayW (i+1) dp))) (.inr rfl);rw[agB]at ih';have ll:(bK (ayW i dp)).length=i:=by rw[Ed,azU]
  simp only[af,ak,qI,one]at hm hp;subst hX;rw[ag];generalize aq _ _ _=M at ih'⊢;simp only[ax,dp,qI,one]at ih';rcases hdc with⟨rfl,rfl⟩|rfl
  ·simp only[hH,go_sem,k2,k7,k8,k9,k10,k40,k41,h7,h9,h49,h61,hm,hp,e1,e3,List.tail_cons,azm,azX,az1];rw[iZ rfl (show 1=List.length [ax dp]from rfl) rfl δ (by show 0<3;decide)];simp only[go_sem,e3,show Option.any bm (some AV.emp)=false from rfl,azK];exact ih' _ _ _ rfl rfl rfl rfl rfl rfl rfl rfl rfl rfl rfl rfl
  ·simp only[hH,go_sem,k2,k7,k8,k9,k10,k40,k41,h7,h9,h49,h61,hm,hp,e1,e3,List.tail_cons,azm,azX,az1];rw[aos (by rw[Ed]) (by rw[azU];show(i+1)*88<=_;omega)];simp only[go_sem,e3];rw[iZ rfl (by rw[azr,Ed];rfl) rfl δ (by show 0<3;decide)];simp only[go_sem,e3,show Option.any bm (some AV.any)=false from rfl,azK];exact ih' _ _ _ rfl rfl rfl rfl rfl rfl rfl rfl rfl rfl rfl rfl
noncomputable def oW (s:Rs) (i:Nat):List Rm:=(List.range i).map fun j:Nat=>xQ s ((j:Nat):Int)
theorem ai3{s:Rs}{i:Nat}:oW s (i+1)=oW s i++[xQ s (i:Int)]:=by simp[oW,List.range_succ]
theorem amc{n:Nat}{k:Int}{T:List (List Int)}(os:OkS (iW n k))(hn3:n<=3):∀ (r i:Nat),i+r=n->∀ (dc:AV),(dc=.osl 7 (bK (ayW n dp))\/dc=.sl 7 (bK (ayW n dp)))->∀ (S:ai) (h:ac) (X:Option (Ex×St)),ah 2 [2,7,8,9,10] (aq (aj R (az false) kD) [2,7,8,9,10,52,53] [7,9,49,61] S h)=X->S 2=.sl 4 (GR T)->S 7=.ref 7 none 0 0 0->S 8=I k->S 9=.ref 9 none 0 0 0->S 52=I n->S 53=I i->h 7=.bx [I n]->h 9=.bx [dc,I k,I 64]->h 49=.dead->adr 61 (oW (iW n k) i) (S 10) (h 61)->
  ∃ (S':ai) (hh:ac) (dc':AV),X=some (.normal,⟨S',hh⟩)/\(i<n->dc'=.sl 7 (bK (ayW n dp)))/\(i=n->dc'=dc)/\adr 61 (oW (iW n k) n) (S' 10) (hh 61)/\S' 2=.sl 4 (GR T)/\S' 7=.ref 7 none 0 0 0/\S' 8=I k/\S' 9=.ref 9 none 0 0 0/\hh 7=.bx [I n]/\hh 9=.bx [dc',I k,I 64]/\∀b,b≠7->b≠9->b≠61->hh b=.dead:=by
 intro r;induction r with
 |zero=>
  intro i hi dc hdc S h X hX k2 k7 k8 k9 k52 k53 h7 h9 h49 hacc;have:i=n:=ω
  subst this;have hcl:∀ids,aA ids (.bx [dc,I k,I 64])=true:=fun ids=>by rcases hdc with rfl|rfl<;>rfl
  subst hX;rw[ag];have hacc0:=hacc;rcases hacc with⟨g2,k10,h61⟩| ⟨g2,k10,h61⟩
  all_goals
   simp only[kD,go_sem,k2,k7,k8,k9,k10,k52,k53,h7,h9,h49,h61,hcl,azI];refine⟨_,_,dc,rfl,fun h=>absurd h (Nat.lt_irrefl _),fun _=>rfl,?_,rfl,rfl,rfl,rfl,rfl,rfl,?_⟩
   ·rw[k10,h61]at hacc0;exact hacc0
   ·intro b b1 b2 b3;simp only[cj,b1,b2,b3,if_false,ite_self]
 |succ r ih=>
  intro i hi dc hdc S h X hX k2 k7 k8 k9 k52 k53 h7 h9 h49 hacc;have e1:((i:Int)< (n:Int))=True:=tt;have e3:IntKind.i64.wrap ((i:Int)+1)=((i+1:Nat):Int):=wi;have hv:=SC (s:=iW n k) (i:=(i:Int)) os;have ih':=ih (i+1) ω (.sl 7 (bK (ayW n dp))) (.inr rfl);rw[ai3]at ih';generalize xQ (iW n k) (i:Int)=m at hv ih';have lV:(oW (iW n k) i).length=i:=by simp[oW]
  generalize oW (iW n k) i=out at hacc ih' lV;have fl:(gN out).length=out.length:=azW _;have q1:(out.length+1)*120<=140737488355328:=ω
  have f3:=tt q1;have et:gN (out++[m])=gN out++[FS m]:=by simp[gN]
  simp only[xu,J1,iW]at hv;have ll:(bK (ayW n dp)).length=n:=by rw[Ed,azU]
  have q2:(n<=(bK (ayW n dp)).length)=True:=tt;have z1:jC (.osl 7 (bK (ayW n dp)))=.sl 7 (bK (ayW n dp)):=rfl;have z2:∀x,jC (I x)=I x:=fun _=>rfl;subst hX;rw[ag];generalize aq _ _ _=M at ih'⊢;have fin:∀X:Option (Ex×St),(∃ (S':ai) (hh:ac) (dc':AV),X=some (.normal,⟨S',hh⟩)/\(i+1<n->dc'=.sl 7 (bK (ayW n dp)))/\(i+1=n->dc'=.sl 7 (bK (ayW n dp)))/\adr 61 (oW (iW n k) n) (S' 10) (hh 61)/\S' 2=.sl 4 (GR T)/\S' 7=.ref 7 none 0 0 0/\S' 8=I k/\S' 9=.ref 9 none 0 0 0/\hh 7=.bx [I n]/\hh 9=.bx [dc',I k,I 64]/\∀b,b≠7->b≠9->b≠61->hh b=.dead)->
    ∃ (S':ai) (hh:ac) (dc':AV),X=some (.normal,⟨S',hh⟩)/\(i<n->dc'=.sl 7 (bK (ayW n dp)))/\(i=n->dc'=dc)/\adr 61 (oW (iW n k) n) (S' 10) (hh 61)/\S' 2=.sl 4 (GR T)/\S' 7=.ref 7 none 0 0 0/\S' 8=I k/\S' 9=.ref 9 none 0 0 0/\hh 7=.bx [I n]/\hh 9=.bx [dc',I k,I 64]/\∀b,b≠7->b≠9->b≠61->hh b=.dead:=fun X ⟨S',hh,dc',r1,r2,r3,r4⟩=>by
   refine⟨S',hh,dc',r1,fun _=>?_,fun h=>by omega,r4⟩;by_cases g:i+1<n
   ·exact r2 g
   ·exact r3 ω
  refine fin _ ?_;rcases hdc with rfl|rfl<;>rcases hacc with⟨rfl,k10,h61⟩| ⟨g2,k10,h61⟩
  all_goals
   simp only[kD,go_sem,k2,k7,k8,k9,k10,k52,k53,h7,h9,h49,h61,hv,e1,e3,ll,q2,z1,z2,f3,fl,ayX,ayZ,true_or,or_true];generalize hX3:ah 2 _ (M _ _)=X;refine ih' _ _ _ hX3 rfl rfl rfl rfl rfl rfl rfl rfl rfl (Or.inr ⟨by simp,?_,?_⟩)
   ·first|rfl| (rw[azr];rfl)
   ·first|rfl| (rw[et];rfl)
theorem agC{n:Nat}{k:Int}(h:n<=3):OkS (iW n k):=⟨fun x hx=>by rw[List.eq_of_mem_replicate hx];exact Ms.1,by
 show(ayW n dp).length<_;rw[azU];omega⟩
theorem aoz{n:Nat}{k:Int}(h1:1<=n)(h3:n<=3)(k1:1<=k)(k4:k<=4):Sq (iW n k):=by
 refine⟨agC h3,?_,rfl,by show(ayW n dp).length<=8;simp;omega,by show k<=16;omega⟩;have h:=Yw abd rfl;unfold l6;simp[iW,h];refine⟨h1,by omega,decide_eq_true k1,decide_eq_true ω,rfl⟩
theorem auF{n:Nat}{k:Int}(h1:1<=n)(h3:n<=3)(k1:1<=k)(k4:k<=4):Gd (iW n k) (oW (iW n k) n) [⟨1,0,0,0,0,1⟩] n [] 0:=by
 have sq:=aoz h1 h3 k1 k4;have hl:(iW n k).dom.length=n:=by simp[iW]
 have hm:=agu sq (c:=0) ⟨by omega,by omega⟩;rw[SH,hl]at hm;have e:cM (iW n k) (oW (iW n k) n) [⟨1,0,0,0,0,1⟩]=oW (iW n k) n++[⟨⟨n,[]⟩,bc⟩]:=by
  show oW (iW n k) n++[LD (iW n k) ⟨dG 0,dG 0,false⟩]=_;rw[hm]
 have lv:(oW (iW n k) n).length=n:=by simp[oW]
 have hv:∀i:Nat,i<n->xQ (iW n k) (i:Int)=⟨Jn (iW n k).dom.length i,bc⟩:=fun i hi=>by
  unfold xQ;rw[sq.sp,decide_eq_true (by rw[hl];omega:0<=(i:Int)/\(i:Int)< ((iW n k).dom.length:Int)),azs,if_pos rfl,ay4]
 refine⟨sq,by rw[lv,hl],?_,?_,?_,?_,auC⟩
 ·intro i o ho;obtain⟨h1,h2⟩:=List.getElem?_eq_some_iff.1 ho;have h1:i<1:=h1;have:i=0:=ω
  subst this;have h2:(⟨1,0,0,0,0,1⟩:To)=o:=h2;exact .inl ⟨0,⟨by omega,by omega⟩,h2.symm⟩
 ·rw[e];intro m hm;rcases List.mem_append.1 hm with hm|hm
  ·obtain⟨i,hi,rfl⟩:=List.mem_map.1 hm;have hi:=List.mem_range.1 hi;rw[hv i hi];exact Ij (abi sq ω)
  ·rw[List.mem_singleton.1 hm,←hl];exact Ij ajF
 ·intro i hi;rw[e,hl]at*
  rw[List.getElem?_append_left ω];simp[oW,hi]
 ·rw[e,hl,List.getElem?_append_right ω,lv,az2];rfl
set_option maxRecDepth 40000 in
theorem ai4{a b:Int}{T:List (List Int)}(ha:0<=a/\a<256)(hb:0<=b/\b<256)(hT:∀t∈T,t.length=4/\∀z∈t,-128<=z/\z<=127)(hl:T.length<4611686018427387904):R F.l27_ModelevalExact [.v (.int .u8 a),.v (.int .u8 b),.sl 4 (GR T)] []=some (B true,[]):=by
 refine av IU rfl ?_;have h1:=aoi;have lT:(GR T).length=T.length:=azW _;have wa:IntKind.i64.wrap a=a:=by rw[i64_in]<;>omega
 have wb:IntKind.i64.wrap b=b:=by rw[i64_in]<;>omega
 have ma:dq .rem (I a) (I 3)=some (I (a%3)):=by
  rw[ww,if_neg ω,Int.tmod_eq_emod_of_nonneg ω]
 have mb:dq .rem (I b) (I 4)=some (I (b%4)):=by
  rw[ww,if_neg ω,Int.tmod_eq_emod_of_nonneg ω]
 obtain⟨n,hn⟩:∃n:Nat,1+a%3=(n:Int):=⟨(1+a%3).toNat,by omega⟩;obtain⟨k,hk⟩:∃k:Int,1+b%4=k:=⟨_,rfl⟩;have w1:IntKind.i64.wrap (1+a%3)=(n:Int):=by rw[hn,i64_in]<;>omega
 have w2:IntKind.i64.wrap (1+b%4)=k:=by rw[hk,i64_in]<;>omega
 have n1:1<=n:=ω
 have n3:n<=3:=ω
 have k1:1<=k:=ω
 have k4:k<=4:=ω
 by_cases g6:6<T.length
 ·have f6:(6< (T.length:Int))=True:=tt;simp only[lQ,sE,go_sem,h1,wa,wb,ma,mb,w1,w2,lT,f6]
 have f6:(6< (T.length:Int))=False:=ff;have hd:(iW n k).dom.length=n:=by simp[iW]
 have os:=agC (n:=n) (k:=k) n3;have h5:=amb (k:=k) (T:=T) n3 n 0 (ayX _) .emp (.inl ⟨rfl,rfl⟩);have h4:=amc (T:=T) os n3 n 0 (ayX _) (.osl 7 (bK (ayW n dp))) (.inl rfl);have hT4:∀t∈T,∃a b c d,t=[a,b,c,d]∧-128<=d/\d<=127:=fun t ht=>by
  obtain⟨q1,q2⟩:=hT t ht
  match t,q1 with
  |[a,b,c,d],_=>exact⟨a,b,c,d,rfl,q2 d σ⟩
 have h3:=ama (s:=iW n k) (xs:=oW (iW n k) n) (n:=n) hd.symm n1 n3 k4 ω hT4 T.length 0 (ayX _) [⟨1,0,0,0,0,1⟩] n [] 0 .emp (auF n1 n3 k1 k4) ω δ (.inr ⟨rfl,rfl⟩);simp only[lQ,sE,go_sem,h1,wa,wb,ma,mb,w1,w2,lT,f6];generalize hX5:ah 0 _ _=X;obtain⟨S5,hh5,dc5,rfl,hdc5,p2,p7,p8,p9,p10,q7,q9,qd⟩:=h5 _ _ _ hX5 rfl rfl rfl rfl rfl rfl rfl rfl rfl rfl rfl;have hdc:dc5=.osl 7 (bK (ayW n dp)):=by
  rcases hdc5 with⟨_,h⟩|h
  ·omega
  ·exact h
 subst hdc;simp only[go_sem,p2,p7,p8,p9,p10,q7];generalize hX4:ah 2 _ _=X;obtain⟨S4,hh4,dc4,rfl,hdc4,_,hacc,r2,r7,r8,r9,t7,t9,td⟩:=h4 _ _ _ hX4 rfl rfl rfl rfl rfl rfl q7 q9 (qd _ δ δ) (.inl ⟨rfl,rfl,qd _ δ δ⟩);have hdc:=hdc4 ω;subst hdc;have lV:(oW (iW n k) n).length=n:=by simp[oW]
 obtain⟨_,r10,t61⟩:0< (oW (iW n k) n).length/\S4 10=.rsl 61 none 9 0 (oW (iW n k) n).length/\hh4 61=.ar 9 (gN (oW (iW n k) n)):=by
  rcases hacc with⟨h,_⟩|h
  ·rw[h]at lV;simp at lV;omega
  ·exact h
 rw[lV]at r10;have hc:=fun(h:ac) (d:Nat) (h12:h 12=.bx [I n,.emp,.emp]) (h7:h 7=.bx [I n]) (hd:h (2000+8*d)=.dead)=>Jq (n:=n) (O:=[]) (o:=⟨1,0,0,0,0,1⟩) (d:=d) (.inl ⟨rfl,rfl⟩) δ ω h12 h7 hd;simp only[sn]at hc;have t12:hh4 12=.dead:=td _ δ δ δ;have t14:hh4 14=.dead:=td _ δ δ δ;simp only[go_sem,r2,r7,r8,r9,r10,t7,t12,t14];rw[hc];rotate_left
 ·rfl
 ·exact t7
 ·exact td _ δ δ δ
 simp only[go_sem,r2,r7,r8,r9,r10,t7,lT];generalize hX3:ah 4 _ _=X;obtain⟨O,q,L,N,wc,S3,hh3,rfl,gd,lO,lN,hw,by3⟩:=h3 _ _ _ hX3 ⟨rfl,rfl,rfl,rfl,rfl,rfl,rfl,rfl,rfl,rfl,rfl,t7,t9,rfl,rfl,t61,td _ δ δ δ,td _ δ δ δ⟩;have ql:=(List.getElem?_eq_some_iff.1 gd.q).1;rw[gd.len,hd]at ql;have hRun:=aow (s:=iW n k) (n:=n) (O:=O) (xs:=oW (iW n k) n) (k:=q) os gd.sq.sp rfl (by have:=gd.t;rw[hd]at this;exact this) ω ω ω lV gd.ok ql;rw[Ik gd.q,hd]at hRun;simp only[go_sem,by3.k9,by3.k10,by3.k12,by3.k14,by3.k15,by3.h9,by3.h12,by3.h14,by3.h61];have u150:hh3 150=.dead:=by3.d _ δ δ δ δ δ;have u155:hh3 3240=.dead:=by3.d _ δ δ δ δ δ;have u165:hh3 3320=.dead:=by3.d _ δ δ δ δ δ;have u173:hh3 3384=.dead:=by3.d _ δ δ δ δ δ;simp only[go_sem,u150,by3.k9,by3.k10,by3.k12,by3.k14,by3.k15,by3.h9,by3.h12,by3.h14,by3.h61];rw[iZ (h:=upd hh3 150 (.ar 1 [[I q]])) (id:=12) (p:=2) (id2:=150) (k:=1) (n:=1) (cs:=[I n,.osl 6 (qN O),.emp]) rfl rfl by3.h12 δ (by show 2<3;decide)];have z1:jC (.osl 6 (qN O))=.sl 6 (qN O):=rfl;have z2:∀x,jC (I x)=I x:=fun _=>rfl;have z3:jC (.osl 1 [[I q]])=.sl 1 [[I q]]:=rfl;have l9:(gN (oW (iW n k) n)).length=n:=(azW _).trans lV;have q2:(n<=(gN (oW (iW n k) n)).length)=True:=tt;have q3:(gN (oW (iW n k) n)).take n=gN (oW (iW n k) n):=azg ω;have hcl2:∀ids,aA ids (.bx [I n,wc])=true:=fun ids=>by rcases hw with rfl| ⟨rfl,_⟩<;>rfl
 have hRun':R F.modeleval_Run [xu (iW n k),.agg [I n,.sl 6 (qN O),.sl 1 [[I q]]],.sl 9 (gN (oW (iW n k) n))] []=some (.sl 9 [FS ⟨⟨n,L⟩,bc⟩],[]):=hRun;have hcl:Cl (n:Int) L:=by
  have:=gd.ps.c;rw[hd]at this;exact this
 have hS:=akM (a:=⟨n,L⟩) (b:=⟨n,L⟩) hcl hcl (ay3 gd.ps.n ω);rw[ada (a:=⟨n,L⟩) hcl]at hS;have hO:=aiP (x:=bc) ⟨aV.2,aV.2⟩;generalize oW (iW n k) n=V at*
 have hO':R F.l27_one [.agg [B false,lm [],I 0,B false,lm [],I 0,B false],.agg [B false,lm [],I 0,B false,lm [],I 0,B false]] []=some (B true,[]):=hO;simp only[be]at hS;have r0:∀r:List AV,aU [r] 0=some (.ipt r):=fun _=>rfl;have hS':L=[]->R F.r23_Same [.agg [I n,.sl 4 (aD L)],.agg [I n,.sl 4 []]] []=some (B true,[]):=fun h=>by
  have:=hS;rw[h]at this⊢;exact this
 rcases hw with rfl| ⟨rfl,rfl⟩
 all_goals
  have hS2:=hS'
  try rw[eq_self,true_imp_iff]at hS2
  simp only[go_sem,azf,azh,aza,decide_false,decide_true,by3.k9,by3.k10,by3.k12,by3.k14,by3.k15,by3.h9,by3.h12,by3.h14,by3.h61,show Option.any bm (some AV.emp)=false from rfl,azK,z1,z2,z3,l9,q2,q3,Mv,ayX,ayZ,hRun',u155,u165,u173,bc,aG];simp only[show decide (((1:Nat):Int)=1)=true from rfl,go_sem,r0,u165,u173,by3.h14,hS,hS2,hO',FT]
noncomputable def Hm:Env:=⟨fun f=>UW.lookup f,cO.C,cO.md⟩
noncomputable def R0:iD:=gj Hm
theorem Im{f:FuncId}{fd:FD}{args:List AV}{hs:List Ob}{r:AV×List Ob}(hE:Hm.E f=none)(hC:Hm.C f=some fd)(hk:Hm.md.keep f=false)(h1:args.length=fd.np)(h2:hs.length<=1000)
  (hz:je false fd.rs fd.res hs.length (aj R0 (az false) fd.body (uw args) (am hs))=some r):R0 f args hs=some r:=by
 refine KA hE hC ?_;unfold V3;rw[if_pos ⟨h1,h2⟩,hk];exact hz
theorem A9(o:Ob):am [o]=upd (fun _=>.dead) 1000 o:=by
 funext i;unfold am upd;by_cases h:i=1000
 ·subst h;rfl
 ·rw[if_neg h];split
  ·rw[List.getElem?_eq_none (by simp;omega)];rfl
  ·rfl
theorem ai5{r:List AV}{rs:List (List AV)}(h:(rs.length+1)*8<=140737488355328):R0 F.slices_Clone_int_int_ [.sl 1 (r::rs)] []=some (.osl 1 (r::rs),[]):=by
 refine Im (fd:=nZ) κ κ κ rfl δ ?_;have e1:((rs.length+1)*8<=140737488355328)=True:=eq_true h;have e2:Io false (.sl 1 (r::rs))=some (B false):=rfl;simp only[nZ,xi,go_sem,e1,e2,azp,azx,ayX,azH,ayZ,true_and,true_or,ay8]
theorem ai6:dH 4 .emp (some (I 0)) none none=some .emp:=rfl
theorem amd{r:List AV}:R0 F.slices_Insert_api_Term_api_Term_ [.emp,I 0,.sl 4 [r]] []=some (.osl 4 [r],[]):=by
 refine Im (fd:=bw) κ κ κ rfl δ ?_;have e1:((1:Int)=0)=False:=δ
 simp only[bw,du,go_sem,ai6,azp,azx,Int.natCast_one,e1,ayX]
theorem Cp{n i:Nat}(h:i<=n):jH n (some (I i)) none none=some (i,n):=by
 simp only[jH,kG,ay2];rw[if_pos ⟨by omega,by omega⟩];rfl
theorem agD{id k l0 n i:Nat}(h:i<=n):dH k (.rsl id none k l0 n) (some (I i)) none none=some (.rsl id none k (l0+i) (n-i)):=by
 simp only[dH,if_true,Cp h,azE,Option.isNone_none]
theorem SK{h:ac}{j k n:Nat}{rows:List (List AV)}(hj:bk j=false)(hh:h j=.ar k rows)(hn:n=rows.length)(hc:aA [1000] (h 1000)=true):uv [[]] 1 h [.rsl j none k 0 n]=some (.osl k rows,[h 1000]):=by
 subst hn;have hp:de 1=[1000]:=rfl;unfold uv;rw[if_pos]
 ·simp[uH,sB,mS,hj,hh,C7,uI,bp,nrmV,nrmL,hp]
 ·simp[hp,hc,kH,cr,fP,hj]
theorem agE{r:List AV}{rows:List (List AV)}{n:Nat}(hn:n=rows.length)(hb:(n+1)*64<=140737488355328):R0 F.slices_Insert_api_Term_api_Term_ [.rsl 1000 none 4 0 n,I n,.sl 4 [r]] [.ar 4 rows]=some (.osl 4 (rows++[r]),[.dead]):=by
 refine Im (fd:=bw) κ κ κ rfl σ ?_;subst hn;rw[A9];have e1:((1:Int)=0)=False:=δ
 have e2:=agD (id:=1000) (k:=4) (l0:=0) (ayZ rows.length);have e3:((rows.length+1)*64<=140737488355328)=True:=eq_true hb;have e4:(rows.length+1<=rows.length)=False:=ff;have e5:∀h,Nu h 25 4 64 1000 4 0 rows.length [r] 4 rows=cR (upd h 1000 .dead) 25 4 (rows++[r]) (rows.length+1) [(1000,false)]:=fun h=>by
  simp only[Nu,List.length_singleton];rw[if_neg ω,if_pos ⟨trivial,trivial,trivial,trivial,hb⟩]
 simp only[bw,du,go_sem,azp,azx,Int.natCast_one,e1,e2,e3,e4,e5,ayX,azA,az2,or_self,ayZ,azr];exact SK rfl rfl σ rfl
theorem aoA{f:FuncId}{g:List AV->List Ob->Option (AV×List Ob)}{args:List AV}{hs:List Ob}(hE:Hm.E f=some g):R0 f args hs=g args hs:=II hE
theorem ame{h:ac}{d:Nat}{r:List AV}{rows:List (List AV)}{lo m:Nat}(hh:h 1000=.ar 4 rows)(hd:h (2000+8*d)=.dead):
  bE R0 (az false) h d [.sl 4 [r],.rsl 1000 none 4 lo m] (.fn F.slices_overlaps_api_Term_ [] [])=some (B false,upd h 1000 (.ar 4 rows),[(1000,true)]):=by
 have hm:(az false).m F.slices_overlaps_api_Term_=[0,1]:=by kernel_rfl
 have hs:(az false).sh F.slices_overlaps_api_Term_=[]:=by kernel_rfl
 have hk:(az false).keep F.slices_overlaps_api_Term_=false:=by kernel_rfl
 have hf:R0 F.slices_overlaps_api_Term_ [.sl 4 [r],.rsl 1000 none 4 lo m] [.ar 4 rows]=some (B false,[.ar 4 rows]):=by
  rw[aoA (g:=ZW 4) κ];simp[ZW]
 have hb:kt (az false) [.sl 4 [r],.rsl 1000 none 4 lo m] (.fn F.slices_overlaps_api_Term_ [] [])=false:=by
  simp[kt,hm]
 have hr:ce h 40 [1000] 0=[1000]:=by
  simp[ce,hh,oZ,bA]
 have hn:cF (B false)=1:=rfl;unfold bE;rw[if_neg (by rw[hb];exact ay9)];have h1:bS h [0,1] [.sl 4 [r],.rsl 1000 none 4 lo m]=some ([.sl 4 [r],.rsl 1000 none 4 lo m],h,[]):=by
  simp[bS,dE,xg,gg,aE]
 have h2:bA [] ([AV.sl 4 [r],.rsl 1000 none 4 lo m].flatMap cr)=[1000]:=by
  simp[cr,fP,bA]
 have h3:bj [1000] 1000=1000:=rfl;simp only[dV,hm,ay8,azb,h1,ay2,h2,hr,hs];simp[jK,bp,aZ,bo,hh,aA,bY,dS,kr,h3,dT,hf,eG,hn,cB,hd,cU,bf,mQ,Bp,sv,fP,jJ,fC,F3,ej,mat,dU,fT,hk,GW,hm]
theorem TT{id k l0 n i:Nat}:dH k (.rsl id none k l0 n) (some (I i)) none none=(jH n (some (I i)) none none).map fun p=>.rsl id none k (l0+p.1) (p.2-p.1):=by
 simp only[dH,if_true,Option.isNone_none]
theorem agF{n c i:Nat}(h:i<=c):kG n c (some (I i))=some i:=by
 simp only[kG];rw[if_pos ⟨by omega,by omega⟩];rfl
theorem amf{r:List AV}{rows:List (List AV)}{n i:Nat}(hn:n=rows.length)(hi:i<n)(hb:(n+1)*64<=140737488355328):
  R0 F.slices_Insert_api_Term_api_Term_ [.rsc 1000 4 0 n n,I i,.sl 4 [r]] [.ar 4 rows]=some (.osl 4 (rows.take i++r::rows.drop i),[.ar 4 rows]):=by
 refine Im (fd:=bw) κ κ κ rfl σ ?_;rw[A9];have e1:((1:Int)=0)=False:=δ
 have e2:((i:Int)=(n:Int))=False:=ff;have e3:IntKind.i64.wrap ((n:Int)+1)=((n+1:Nat):Int):=wi;have e4:((n:Int)< ((n+1:Nat):Int))=True:=tt;have e5:IntKind.i64.wrap (((n+1:Nat):Int)- (i:Int))=((n+1-i:Nat):Int):=wi;have e6:IntKind.i64.wrap ((i:Int)+1)=((i+1:Nat):Int):=wi;have b1:=Cp (n:=n) (i:=i) ω;have b2:=agF (n:=n) (c:=n) (i:=i) ω;have b3:=Cp (n:=n+1) (i:=i) ω;have b4:=Cp (n:=n+1) (i:=i+1) ω;have f1:((0:Int)< ((n+1-i:Nat):Int))=True:=tt;have f2:(n<i+((n+1-i:Nat):Int).toNat)=True:=tt;have f3:i+((n+1-i:Nat):Int).toNat=n+1:=ω
 have f4:(i<=rows.length)=True:=tt;have f5:((n+1)*64<=140737488355328)=True:=eq_true hb;have f6:(n<n+1)=True:=tt;obtain⟨A,hA⟩:∃A,rows.take i++ayW ((n+1-i:Nat):Int).toNat [AV.emp,B false,AV.emp,I 0]=A:=⟨_,rfl⟩;have a1:A.length=n+1:=by rw[←hA,azr,azd,azU];omega
 have a2:A.take i=rows.take i:=by
  rw[←hA,List.take_append_of_le_length (by rw[azd];omega),azg (by rw[azd];omega)]
 have a3:(i<=A.length)=True:=tt;obtain⟨D,hD⟩:∃D,A.take i++[r]++A.drop (i+1)=D:=⟨_,rfl⟩;have d1:D.length=n+1:=by
  rw[←hD,azr,azr,azd,azQ,List.length_singleton];omega
 have d2:D.take (i+1)=rows.take i++[r]:=by
  rw[←hD,a2,List.take_append_of_le_length (by rw[azr,azd,List.length_singleton];omega),azg (by rw[azr,azd,List.length_singleton];omega)]
 have d3:(i+1<=D.length)=True:=tt;have t1:List.take (n+1-i) [r]=[r]:=azg (by rw[List.length_singleton];omega);have t2:(rows.drop i).take (n-i)=rows.drop i:=azg (by rw[azQ];omega);have t3:(1=min 1 (n+1-i))=True:=tt;have t4:n+1- (i+1)=n-i:=ω
 have t5:(i+(n-i)<=rows.length)=True:=tt;have t6:(rows.drop i).length=n-i:=by rw[azQ];omega
 have t7:D.drop (i+1+(n-i))=[]:=azi ω;simp only[bw,du,go_sem,azp,azx,Int.natCast_one,e1,e2,e3,e4,e5,e6,b1,b2,b3,b4,f1,f2,f3,f4,f5,f6,hA,hD,a3,d3,t1,t2,t3,t4,t5,t6,t7,Nat.min_self,ayX,azA,az2,or_self,ayZ,TT,and_self];rw[d2];have hfin:rows.take i++[r]++rows.drop i=rows.take i++r::rows.drop i:=by rw[azB];rfl
 rw[hfin];exact SK rfl rfl (by rw[azr,azd,azp,azQ];omega) rfl
theorem amg{r:List AV}{rows:List (List AV)}{n i c:Nat}(hn:n=rows.length)(hi:i<n)(hc:n+1<=c)(hb:(n+1)*64<=140737488355328):
  R0 F.slices_Insert_api_Term_api_Term_ [.rsc 1000 4 0 n c,I i,.sl 4 [r]] [.ar 4 rows]=some (.osl 4 (rows.take i++r::rows.drop i),[.dead]):=by
 refine Im (fd:=bw) κ κ κ rfl σ ?_;rw[A9];have e1:((1:Int)=0)=False:=δ
 have e2:((i:Int)=(n:Int))=False:=ff;have e3:IntKind.i64.wrap ((n:Int)+1)=((n+1:Nat):Int):=wi;have e4:((c:Int)< ((n+1:Nat):Int))=False:=ff;have e6:IntKind.i64.wrap ((i:Int)+1)=((i+1:Nat):Int):=wi;have b1:=Cp (n:=n) (i:=i) ω;have b2:=agF (n:=n) (c:=c) (i:=n+1) hc;have b3:=Cp (n:=n+1) (i:=i) ω;have b4:=Cp (n:=n+1) (i:=i+1) ω;have o1:=fun(h:ac) (h0:h 1000=.ar 4 rows) (h1:h (2000+8*67)=.dead)=>ame (r:=r) (lo:=i+1) (m:=n-i) h0 h1;have t1:List.take (n+1-i) [r]=[r]:=azg (by rw[List.length_singleton];omega);have t2:(rows.drop i).take (n-i)=rows.drop i:=azg (by rw[azQ];omega);have t3:(1=min 1 (n+1-i))=True:=tt;have t4:n+1- (i+1)=n-i:=ω
 have t5:(i+(n-i)<=rows.length)=True:=tt;have t6:(rows.drop i).length=n-i:=by rw[azQ];omega
 have t8:min (n-i) (n+1-i)=n-i:=ω
 have t9:(n-i=min (n+1-i) (n-i))=True:=tt;have f4:(i+1<=rows.length)=True:=tt;have t7:rows.drop (i+1+(n-i))=[]:=azi ω;obtain⟨A,hA⟩:∃A,rows.take (i+1)++rows.drop i=A:=⟨_,rfl⟩;have a1:A.length=n+1:=by
  rw[←hA,azr,azd,azQ];omega
 have a2:A.take i=rows.take i:=by
  rw[←hA,List.take_append_of_le_length (by rw[azd];omega),List.take_take,azS ω]
 have a4:A.drop (i+1)=rows.drop i:=by
  rw[←hA,List.drop_append_of_le_length (by rw[azd];omega),azi (by rw[azd];omega),ay8]
 have a3:(i<=A.length)=True:=tt;simp only[bw,du,go_sem,azp,azx,Int.natCast_one,e1,e2,e3,e4,e6,b1,b2,b3,b4,t4,ayX];rw[o1 _ rfl rfl];simp only[go_sem,azp,azx,Int.natCast_one,e1,e2,e3,e4,e6,b1,b2,b3,b4,t1,t2,t3,t4,t5,t6,t7,t8,t9,f4,a3,hA,ayX,azA,az2,or_self,ayZ,TT,and_self];rw[a2,a4,show rows.take i++[r]++rows.drop i=rows.take i++r::rows.drop i by rw[azB];rfl];exact SK rfl rfl (by rw[azr,azd,azp,azQ];omega) rfl
def ajJ:Ren:=⟨fun|28=>268|n=>n,fun|25=>110|27=>109|53=>243|n=>n,fun n=>n⟩
theorem agG:Lays7.n28 Tryz.prog ajJ where
 mixed:=by kernel_rfl
 f28:=by kernel_rfl
 t0:=by kernel_rfl
 a0:=Tryz.isAgg0
 z0:=Tryz.sizeOf0
 v0:=Tryz.zeroValue0
 i0:=by kernel_rfl
 t3:=by kernel_rfl
 a3:=Tryz.isAgg3
 z3:=Tryz.sizeOf3
 v3:=Tryz.zeroValue3
 i3:=by kernel_rfl
 t4:=by kernel_rfl
 a4:=Tryz.isAgg4
 z4:=Tryz.sizeOf4
 v4:=Tryz.zeroValue4
 i4:=by kernel_rfl
 t5:=by kernel_rfl
 a5:=Tryz.isAgg5
 z5:=Tryz.sizeOf5
 v5:=Tryz.zeroValue5
 i5:=by kernel_rfl
 t25:=by kernel_rfl
 a25:=Tryz.isAgg110
 z25:=Tryz.sizeOf110
 v25:=Tryz.zeroValue110
 i25:=by kernel_rfl
 t27:=by kernel_rfl
 a27:=Tryz.isAgg109
 z27:=Tryz.sizeOf109
 v27:=Tryz.zeroValue109
 i27:=by kernel_rfl
 t53:=by kernel_rfl
 a53:=Tryz.isAgg243
 z53:=Tryz.sizeOf243
 v53:=Tryz.zeroValue243
 i53:=by kernel_rfl
 g0:=by kernel_rfl
def LH:Inv where
 p w _:=TabAt 0 Lib.deBruijn32tab w
 stab:=fun{w w' X} h hs j hj=>by rw[pH (hs 0 (.inr rfl))];exact h j hj
 more:=fun h _=>h
theorem abn:∀ (k x:Nat),Lib.ctzFrom k x=Tm k x
 |0,x=>rfl
 |k+1,x=>by
  unfold Lib.ctzFrom Tm;rw[abn k (x/2),Nat.add_comm]
set_option maxRecDepth 100000 in
theorem ajK:qQ Tryz.prog LH false F.bits_TrailingZeros32 tzF:=by
 intro args obs obs' res w X ρ vals n hz hn hi hr hs hv;unfold tzF at hz;split at hz
 ·rename_i x;by_cases hc:0<x/\x<4294967296/\obs=[]
  ·rw[if_pos hc]at hz;obtain⟨h0,h1,rfl⟩:=hc;simp only[Option.some.injEq,Prod.mk.injEq]at hz;obtain⟨rfl,rfl⟩:=hz;have hv0:=hv 0 (.v (.int .u32 x)) (vals.getD 0 undef) rfl (by simp at hs;simp[Array.getD_eq_getD_getElem?,hs]);have e0:vals=#[.int .u32 x]:=by
    simp only[azp,azx]at hs;have:=hv0.v_inv.1;apply Array.ext
    ·simpa using hs
    ·intro i h2 h3;have:i=0:=by simp at h3;exact h3
     subst this;simpa [Array.getD_eq_getD_getElem?,hs]using this
   subst e0;obtain⟨m,rfl⟩:∃m:Nat,x=m:=⟨x.toNat,by omega⟩;have key:=Any7.bits_TrailingZeros32 agG m ω w fun _=>hi;have he:(callFunc F.bits_TrailingZeros32 #[.int .u32 (m:Int)]).run Tryz.prog w=.ok (.enter F.bits_TrailingZeros32 #[.int .u32 (m:Int)]) w:=(enters_of (agG.f28) κ rfl:Proofs.Enters Tryz.prog (ajJ.f 28)) _ _;unfold Enters;rw[he];refine Calls.mono key fun e w' hw=>?_;obtain⟨rfl,rfl⟩:=hw;refine⟨ρ,hr,.refl _ _ _ _,?_⟩;refine .dat ?_;have:Lib.ctz 32 m=Tm 32 m:=by
    unfold Lib.ctz;rw[if_neg ω,abn]
   simp only[this,ay4,mat,dU];exact .v _ rfl
  ·rw[if_neg hc]at hz;cases hz
 ·cases hz
section
variable {H:Type} {enc:TypeId × Value→H} {w:World}
def QB(w:World)(b:Nat):Prop:=b<w.heap.size
def adx(w:World):Prop:=∀o v,w.cell? ⟨0,o,none⟩=some v->∃n,v=.int .u8 n
def YH(u:Value):Prop:=u=u
theorem aoB(_:adx w){a:Addr}{u:Value}(h:w.cell? a=some u)(_:YH u):QB w a.block/\a.spot=none:=by
 have h1:a.spot=none:=by
  unfold World.cell? at h;split at h
  ·split at h
   ·cases h
   ·rename_i hs;simpa using hs
  ·cases h
 refine⟨?_,h1⟩;unfold World.cell? at h;split at h
 ·rename_i hb;exact(Array.getElem?_eq_some_iff.1 hb).1
 ·cases h
def DB(w:World)(fs:List AV)(cs:List Value):Prop:=
 fs.length=cs.length/\∀ (j:Nat) (c:AV) (u:Value),fs[j]?=some c->cs[j]?=some u->RD w (QB w) c u/\aE c=true/\u.oneCell'=true
theorem DB.app{fa fb:List AV}{ca cb:List Value}(ha:DB w fa ca)(hb:DB w fb cb):DB w (fa++fb) (ca++cb):=by
 refine⟨by simp[ha.1,hb.1],fun j c u h1 h2=>?_⟩;by_cases hj:j<fa.length
 ·rw[List.getElem?_append_left hj]at h1;rw[List.getElem?_append_left (by rw[←ha.1];exact hj)]at h2;exact ha.2 j c u h1 h2
 ·rw[List.getElem?_append_right ω]at h1;rw[List.getElem?_append_right (by rw[←ha.1];omega),←ha.1]at h2;exact hb.2 _ c u h1 h2
theorem DB.one{c:AV}{u:Value}(h:RD w (QB w) c u)(hd:aE c=true)(h1:u.oneCell'=true):DB w [c] [u]:=by
 refine⟨rfl,fun j c' u' hc hu=>?_⟩;cases j with
 |zero=>simp at hc hu;subst hc hu;exact⟨h,hd,h1⟩
 |succ j=>simp at hc
noncomputable abbrev Tr (w:World) (enc:TypeId×Value->H) (n:Nat) (t:TypeId) (cs:List Value):Option (DataW H×List MemPlace):=DataW.trod enc Tryz.prog w 0 (fun _=>true) true n t cs
def wOK(t:TypeId)(d:DataW H):Prop:=∀m∈DataW.weights Tryz.prog t d,m<=reachBytes
theorem aoC{e:TypeId}:∀ {l:List (DataW H)} {d:DataW H} {m:Nat},d∈l->m∈DataW.weights Tryz.prog e d->m∈DataW.weightsAll Tryz.prog e l
 |[],d,m,h,_=>by simp at h
 |a::l,d,m,h,hm=>by
  simp only[DataW.weightsAll,List.mem_append];rcases List.mem_cons.1 h with rfl|h
  ·exact .inl hm
  ·exact .inr (aoC h hm)
theorem abp{α:Type}{p:Nat->α->Prop}:∀ (n:Nat),(∀i,i<n->∃r,p i r)->∃l:List α,l.length=n/\∀ (i:Nat) (r:α),l[i]?=some r->p i r
 |0,_=>⟨[],rfl,fun i r h=>by simp at h⟩
 |n+1,h=>by
  obtain⟨l,h1,h2⟩:=abp n fun i hi=>h i ω;obtain⟨r,hr⟩:=h n ω;refine⟨l++[r],by simp[h1],fun i r' hi=>?_⟩;by_cases hin:i<n
  ·rw[List.getElem?_append_left ω]at hi;exact h2 i r' hi
  ·rw[List.getElem?_append_right ω]at hi;have:i=n:=by
    have:=(List.getElem?_eq_some_iff.1 hi).1;simp at this;omega
   subst this;simp[h1]at hi;subst hi;exact hr
theorem amh{α:Type}{t e:TypeId}{k bs:Nat}(ht:Tryz.prog.underlying t=some (.slice e))(hk:Tryz.prog.cellsOf e=k)(h0:0<k)(hbs:Tryz.prog.bytesOf e=bs)(F:α->List AV)(Q:α->Prop)(hT:adx w)
  (hrow:∀n cs' x,Tr w enc n e cs'=some x->wOK e x.1->∃r,Q r/\DB w (F r) cs'/\∃u,cs'[0]?=some u/\YH u) {fuel:Nat} {cs:List Value} {x:DataW H×List MemPlace}
  (h:Tr w enc fuel t cs=some x) (hw:wOK t x.1):∃ (l:List α) (v:Value),cs=[v]/\(∀r∈l,Q r)/\l.length*bs<=reachBytes/\RD w (QB w) (.sl k (l.map F)) v/\v.oneCell'=true/\YH v:=by
 rcases open_slice ht h with⟨rfl,_⟩| ⟨a,len,cap,m,n,D,Pl,rfl,hb,hl,hm,hmm,rfl,hx⟩
 ·exact⟨[],_,rfl,fun r hr=>by simp at hr,by simp,.sl k [] none 0 ⟨0,0,none⟩ (fun _ _=>undef) σ (fun h=>absurd rfl h) (fun r hr=>by simp at hr) (fun i r j c hr=>by simp at hr) (fun r hr=>by simp at hr) (fun i r j c hr=>by simp at hr),rfl,rfl⟩
 ·have hlm:len<=m:=by rw[hmm];split<;>omega
  have hwe:∀i,i<len->wOK e (D i):=fun i hi q hq=>by
   refine hw q ?_;simp only[DataW.weights,ht,List.mem_cons,List.mem_append];exact .inr (.inl (aoC (List.mem_map.2 ⟨i,List.mem_range.2 hi,rfl⟩) hq))
  have hbn:len*bs<=reachBytes:=by
   have:=hw ((((List.range len).map D).length+((List.range (m-len)).map fun j=>D (len+j)).length)*Tryz.prog.bytesOf e) (by simp[DataW.weights,ht]);simp only[azW,List.length_range,hbs]at this;exact ay3 (ay7 _ ω) this
  obtain⟨l,l1,l2⟩:=abp (p:=fun i r=>Q r/\∃cs',w.cells? 0 (a.add (i*k)) k=some cs'/\DB w (F r) cs'/\∃u,cs'[0]?=some u/\YH u) len fun i hi=>by
   obtain⟨cs',h1,h2⟩:=hx i ω;obtain⟨r,g1,g2,g3⟩:=hrow _ _ _ h2 (hwe i hi);rw[hk]at h1;exact⟨r,g1,cs',h1,g2,g3⟩
  have cell:∀ (i:Nat) (row:List AV) (j:Nat) (c:AV),(l.map F)[i]?=some row->row[j]?=some c->∃u,w.cell? (a.add (i*k+j))=some u/\RD w (QB w) c u/\aE c=true:=fun i row j c hi hj=>by
   simp only[List.getElem?_map,ay0]at hi;obtain⟨r,hr,rfl⟩:=hi;obtain⟨_,cs',c1,c2,_⟩:=l2 i r hr;obtain⟨_,c3,c4⟩:=World.cells?_some c1;have hjk:j<k:=by
    have:=(List.getElem?_eq_some_iff.1 hj).1;rw[c2.1,c3]at this;exact this
   have:=c4 j hjk;rw[Ey]at this;obtain⟨u,hu⟩:∃u,cs'[j]?=some u:=⟨cs'[j]'(by omega),by simp⟩;exact⟨u,by rw[this,hu],(c2.2 j c u hj hu).1,(c2.2 j c u hj hu).2.1⟩
  refine⟨l,_,rfl,fun r hr=>?_,by rw[l1];exact hbn,?_,rfl,rfl⟩
  ·obtain⟨i,hi⟩:=List.getElem?_of_mem hr;exact(l2 i r hi).1
  ·have:=RD.sl (w:=w) (A:=QB w) k (l.map F) (some a) cap a (fun i j=>(w.cell? (a.add (i*k+j))).getD undef) (by simp[l1,hl]) (fun hne=>?_) (fun row hr=>?_) (fun i row j c hi hj=>?_) (fun row hr c hc=>?_) (fun i row j c hi hj=>?_)
   ·simpa [l1]using this
   ·have hlen:0<l.length:=List.length_pos_iff.2 fun e=>hne (by simp[e]);obtain⟨_,cs',c1,c2,u,c3,c4⟩:=l2 0 l[0] σ;have:=(World.cells?_some c1).2.2 0 h0;rw[c3,Nat.zero_mul,F7,F7]at this;obtain⟨q1,q2⟩:=aoB hT this c4;exact⟨rfl,q1,q2⟩
   ·simp only[azP]at hr;obtain⟨r,hr,rfl⟩:=hr;obtain⟨i,hi⟩:=List.getElem?_of_mem hr;obtain⟨_,cs',c1,c2,_⟩:=l2 i r hi;rw[c2.1];exact(World.cells?_some c1).2.1
   ·obtain⟨u,q1,_⟩:=cell i row j c hi hj;rw[q1];rfl
   ·obtain⟨i,hi⟩:=List.getElem?_of_mem hr;obtain⟨j,hj⟩:=List.getElem?_of_mem hc;obtain⟨u,_,_,q⟩:=cell i row j c hi hj;exact q
   ·obtain⟨u,q1,q2,_⟩:=cell i row j c hi hj;rw[q1];exact q2
theorem u8b{z:Int}(h:(Lit.int .u8 z).wf=true):0<=z/\z<256:=by
 simp only[Lit.wf,ay1,decide_eq_true_eq]at h;have h1:(0:Int)<=z:=h.1;have h2:z<=255:=h.2;exact⟨h1,by omega⟩
theorem QC{n:Nat}{a:Value}{y:DataW H×List MemPlace}(h:Tr w enc n 67 [a]=some y):∃z:Int,(-128<=z/\z<=127)/\a=.int .i8 z:=by
 obtain⟨z,e,_,hw⟩:=DataW.trod_int Tryz.underlying67 h;simp only[Lit.wf,ay1,decide_eq_true_eq]at hw;have h1:(-128:Int)<=z:=hw.1;have h2:z<=127:=hw.2;simp only[List.cons.injEq,and_true]at e;exact⟨z,⟨h1,h2⟩,e⟩
theorem aoD{n:Nat}{cs:List Value}{x:DataW H×List MemPlace}(h:Tr w enc n 68 cs=some x)(_:wOK 68 x.1):∃t:List Int,(t.length=4/\∀z∈t,-128<=z/\z<=127)/\DB w (Il t) cs/\∃u,cs[0]?=some u/\YH u:=by
 obtain⟨xs,m,_,rfl,hl,hx,hf⟩:=DataW.trod_array Tryz.underlying68 h;have hl4:cs.length=4:=hl.trans κ;have hc:Tryz.prog.cellsOf 67=1:=by kernel_rfl
 rw[hc]at hf
 match cs,hl4,xs,hx with
 |[a,b,c,d],_,[y0,y1,y2,y3],_=>
  have k0:Tr w enc m 67 [a]=some y0:=hf 0 δ;have k1:Tr w enc m 67 [b]=some y1:=hf 1 δ;have k2:Tr w enc m 67 [c]=some y2:=hf 2 δ;have k3:Tr w enc m 67 [d]=some y3:=hf 3 δ;obtain⟨z0,b0,rfl⟩:=QC k0;obtain⟨z1,b1,rfl⟩:=QC k1;obtain⟨z2,b2,rfl⟩:=QC k2;obtain⟨z3,b3,rfl⟩:=QC k3;exact⟨[z0,z1,z2,z3],⟨rfl,by simp[b0,b1,b2,b3]⟩,(DB.one (.v _ rfl) rfl rfl).app ((DB.one (.v _ rfl) rfl rfl).app ((DB.one (.v _ rfl) rfl rfl).app (.one (.v _ rfl) rfl rfl))),_,rfl,rfl⟩
theorem ami(hT:adx w){n:Nat}{v:Value}{x:DataW H×List MemPlace}(h:Tr w enc n 55 [v]=some x)(hw:wOK 55 x.1):∃l:List (List Int),((∀t∈l,t.length=4/\∀z∈t,-128<=z/\z<=127)/\l.length<4611686018427387904)/\RD w (QB w) (.sl 4 (GR l)) v:=by
 obtain⟨l,v',e4,q1,q2,q3,q4,q5⟩:=amh (k:=4) (bs:=4) Tryz.underlying55 κ δ κ Il (fun t=>t.length=4/\∀z∈t,-128<=z/\z<=127) hT (fun n cs' x=>aoD) h hw;simp only[List.cons.injEq,and_true]at e4;subst e4;exact⟨l,⟨q1,by unfold reachBytes at q2;omega⟩,q3⟩
end
theorem Jt{args:List AV}{vals:Array Value}(h:vals.size=args.length){i:Nat}{c:AV}(hc:args[i]?=some c):∃u,vals[i]?=some u:=by
 have:i<args.length:=(List.getElem?_eq_some_iff.1 hc).1;exact⟨vals[i]'(by omega),by simp[h,this]⟩
theorem auG{vals:Array Value}{a:Value}(h:vals.size=1)(h0:vals[0]?=some a):vals=#[a]:=by
 apply Array.ext_getElem?;intro i
 match i with
 |0=>simpa using h0
 |i+1=>simp[h]
theorem auH{vals:Array Value}{a b:Value}(h:vals.size=2)(h0:vals[0]?=some a)(h1:vals[1]?=some b):vals=#[a,b]:=by
 apply Array.ext_getElem?;intro i
 match i with
 |0=>simpa using h0
 |1=>simpa using h1
 |i+2=>simp[h]
theorem TU{w:World}{a:Addr}{us:Array Value}{e:TypeId}(h:w.heap[a.block]?=some (.cells us e (0,0))):w.frozen? a=false:=by
 simp[World.frozen?,h]
theorem amj{P:Program}(w:World)(tS tR e:TypeId)(ht:P.underlying tS=some (.slice e))(size:Nat)(hz:∀w,(Go.sizeOf e).run P w=.ok size w)(a:Addr)(b:Option Addr)(la ca cb:Nat):
  (Extern.SlicesOverlaps.overlaps #[tS,tS] #[tR] #[.slice (some a) la ca,.slice b 0 cb]).run P w=.ok (.bool false) w:=by
 change Sem.run P (α:=Value) (do
  let some t:= (#[tS,tS]:Array TypeId)[0]?|stuck "slices.overlaps: no parameter types"
  let .slice elem←underlying t|stuck "slices.overlaps: slice type expected"
  let size←sizeOf elem
  match (some a:Option Addr),b with
  |some a,some b=>
   if la=0\/0=0\/size=0 then pure (Value.bool false)
   else if a.block !=b.block&& (←frozen a)&& (←frozen b)then unsupported .addressObserved
   else do
    if a.block !=b.block then do
     noView a;noView b
     if←mayBeOne a b then return Value.bool ((←choose (.extern "sameAddr.stringBytes" 2))==1)
    pure (Value.bool (a.block==b.block&&a.off<b.off+0*size&&b.off<a.off+la*size))
  |_,_=>pure (Value.bool false)) w=_
 cases b<;>simp[run_underlying ht,hz]
theorem aoE{P:Program}(w:World)(tS tR e:TypeId)(ht:P.underlying tS=some (.slice e))(size:Nat)(hz:∀w,(Go.sizeOf e).run P w=.ok size w)
  (a b:Addr) (la ca lb cb:Nat) (hne:a.block≠b.block) (tA:TypeId) (kA:Nat) {us:Array Value} {tB:TypeId}
  (hkA:kA≠0) (hsa:w.shape? a.block=some (tA,kA)) (hb:w.heap[b.block]?=some (.cells us tB (0,0))) (hu:us.size≠0):
  (Extern.SlicesOverlaps.overlaps #[tS,tS] #[tR] #[.slice (some a) la ca,.slice (some b) lb cb]).run P w=.ok (.bool false) w:=by
 have hnb:(a.block !=b.block)=true:=by simpa using hne
 have hnb':(a.block==b.block)=false:=by simpa using hne
 have hsb:w.shape? b.block=some (tB,us.size):=by simp[World.shape?,hb]
 have hfb:w.frozen? b=false:=TU hb;have hfe:w.frozen? {block:=b.block,off:=us.size}=false:=TU (a:=⟨b.block,us.size,none⟩) hb;change Sem.run P (α:=Value) (do
  let some t:= (#[tS,tS]:Array TypeId)[0]?|stuck "slices.overlaps: no parameter types"
  let .slice elem←underlying t|stuck "slices.overlaps: slice type expected"
  let size←sizeOf elem
  match (some a:Option Addr),(some b:Option Addr)with
  |some a,some b=>
   if la=0\/lb=0\/size=0 then pure (Value.bool false)
   else if a.block !=b.block&& (←frozen a)&& (←frozen b)then unsupported .addressObserved
   else do
    if a.block !=b.block then do
     noView a;noView b
     if←mayBeOne a b then return Value.bool ((←choose (.extern "sameAddr.stringBytes" 2))==1)
    pure (Value.bool (a.block==b.block&&a.off<b.off+lb*size&&b.off<a.off+la*size))
  |_,_=>pure (Value.bool false)) w=_
 by_cases h0:la=0\/lb=0\/size=0
 ·simp[run_underlying ht,hz,h0]
 ·obtain⟨n,hn⟩:∃n,us.size=n+1:=⟨us.size-1,by omega⟩;rw[hn]at hsb hfe;obtain⟨kA,rfl⟩:∃k,kA=k+1:=⟨kA-1,by omega⟩;cases hfa:w.frozen? a<;>cases hfa2:w.frozen? {block:=a.block,off:=kA+1}<;>
   simp[run_underlying ht,hz,h0,hnb,hnb',frozen,noView,viewAt,mayBeOne,stringish,shape,Sem.run,hsa,hsb,hfa,hfa2,hfb,hfe]
theorem ady{w:World}{a:Addr}{v:Value}(h:w.cell? a=some v):∃t k,k≠0/\w.shape? a.block=some (t,k):=by
 unfold World.cell? at h;split at h
 ·rename_i cs t fr hb;refine⟨t,cs.size,fun h0=>?_,by unfold World.shape?;rw[hb]⟩;split at h
  ·cases h
  ·have:=(Array.getElem?_eq_some_iff.1 h).1;omega
 ·cases h
theorem aoF{P:Program}{I:Inv}{f:FuncId}{fn:Func}{tS tR e:TypeId}{size:Nat}(hf:P.funcs[f]?=some fn)(hname: (fn.name== "runtime.NumGoroutine")=false)(hb:fn.body.isNone=true)(hn:Extern.findNext fn=none)
  (he:Extern.find fn=some (Extern.SlicesOverlaps.overlaps #[tS,tS] #[tR])) (ht:P.underlying tS=some (.slice e)) (hz:∀w,(Go.sizeOf e).run P w=.ok size w):qQ P I false f (ZW 4):=by
 intro args obs obs' res w X ρ vals n hz' hn' hi hr hs hv;unfold ZW at hz';split at hz'
 ·rename_i k0 row rows k1 lo m k2 rows2;split at hz'
  ·rename_i hk;obtain⟨rfl,rfl,rfl⟩:=hk;cases hz';obtain⟨u0,h0⟩:=Jt hs (i:=0) rfl;obtain⟨u1,h1⟩:=Jt hs (i:=1) rfl;have e0:=hv 0 _ _ rfl h0;have e1:=hv 1 _ _ rfl h1;obtain rfl:=auH hs h0 h1;have d0:=e0.sl_inv;obtain⟨a1,cap1,rfl,hp,hn1,hb1,ha1⟩:=e1.rsl_inv;have ho:RO w (aJ w X (am [.ar 4 rows2]) ρ) ρ (am [.ar 4 rows2]) 1000 (.ar 4 rows2):=hr.ob 1000;obtain⟨us,tB,g1,g2,g3,g4⟩:=ho;have hlive:live (am [.ar 4 rows2]) 1000 none:=trivial;cases d0 with
   |sl _ _ a cap ad vs hc ha hk hv2 hl hr2=>
    obtain⟨rfl,hA,hsp⟩:=ha σ;have hlen:=hk row σ;obtain⟨c,hrow⟩:∃c,row[0]?=some c:=⟨row[0]'(by omega),by simp⟩;have hcell:=hv2 0 row 0 c rfl hrow;obtain⟨tA,kA,hkA,hsh⟩:=ady hcell;rw[pF]at hsh;have run:(callFunc f #[.slice (some ad) (row::rows).length cap,.slice a1 m cap1]).run P w=.ok (.value (.bool false)) w:=by
     rw[run_callFunc_extern hf hname hb hn he];by_cases hm:m=0
     ·subst hm;rw[amj w tS tR e ht size hz];rfl
     ·rcases ha1 with h|rfl
      ·omega
      ·rw[aoE w tS tR e ht size hz ad ⟨(ρ 1000 none).1,lo*4,none⟩ _ cap m cap1 (fun hh=>hA.2.2 ⟨1000,none,hlive,hh.symm⟩) tA kA hkA hsh g1 ω];rfl
    unfold Enters;rw[run];exact⟨ρ,hr,.refl _ _ _ _,.dat (.v _ rfl)⟩
  ·cases hz'
 ·cases hz'
theorem amk{P:Program}{I:Inv}(hR:qQ P I false F.slices_Insert_api_Term_api_Term_ (R0 F.slices_Insert_api_Term_api_Term_)):qQ P I false F.slices_Insert_api_Term_api_Term_ (Wl 4 64):=by
 intro args obs obs' res w X ρ vals n hz hn hi hr hs hv;unfold Wl at hz;split at hz
 ·rename_i k0 r;split at hz
  ·rename_i hk;subst hk;cases hz;exact hR amd hn hi hr hs hv
  ·cases hz
 ·rename_i k1 m i k0 r k2 rows;split at hz
  ·rename_i hk;obtain⟨rfl,rfl,rfl,rfl,hi0,hi1,hb⟩:=hk;cases hz;obtain⟨i,rfl⟩:=az4 hi0;rw[ay4];by_cases hend:i=rows.length
   ·subst hend;have:=hR (agE (r:=r) rfl hb) hn hi hr hs hv;rw[azg (ayZ _),azi (ayZ _)];exact this
   ·have hlt:i<rows.length:=ω
    obtain⟨u0,h0⟩:=Jt hs (i:=0) rfl;obtain⟨a,cap,rfl,hp,hn1,hb1,ha⟩:=(hv 0 _ _ rfl h0).rsl_inv;have hv':∀ (j:Nat) (c:AV) (u:Value),[AV.rsc 1000 4 0 rows.length cap,.v (.int .i64 i),.sl 4 [r]][j]?=some c->vals[j]?=some u->RV w (aJ w X (am [.ar 4 rows]) ρ) ρ (am [.ar 4 rows]) c u:=by
     intro j c u hc hu
     match j,hc with
     |0,hc=>
      cases hc;rw[h0]at hu;cases hu;exact .rsc 1000 4 0 _ cap a hp hn1 hb1 ha
     |j+1,hc=>exact hv (j+1) c u hc hu
    rcases Nat.lt_or_ge rows.length cap with hc|hc
    ·exact hR (amg rfl hlt hc hb) hn hi hr hs hv'
    ·obtain rfl:cap=rows.length:=ω
     refine(hR (amf rfl hlt hb) hn hi hr hs hv').mono fun v w' ⟨ρ',q1,q2,q3⟩=>?_;generalize rows.take i++r::rows.drop i=L at q1 q2 q3⊢;have hd:=O1 q1 (id:=1000) (k:=4) (rows:=rows) (by
      show(if 1000=n then _ else _)=_;rw[if_neg ω];rfl)
     have eq:upd (mat n (am [.ar 4 rows]) (.osl 4 L)).2 1000 .dead=(mat n (am [.dead]) (.osl 4 L)).2:=by
      show upd (upd (am [.ar 4 rows]) n (.ar 4 L)) 1000 .dead=upd (am [.dead]) n (.ar 4 L);rw[A9,A9];funext j;unfold upd;by_cases h1:j=1000
      ·rw[if_pos h1,if_neg ω,if_pos h1]
      ·rw[if_neg h1,if_neg h1,if_neg h1]
     rw[eq]at hd;refine⟨ρ',hd.1,q2.trans (hd.2.far rfl),hd.2.rvk q3 (.inr ?_)⟩;show jI [(1000,false)] n none=false;simp[jI];omega
  ·cases hz
 ·cases hz
theorem TV{w w':World}{X:Nat->Prop}{ρ:eu}(hr:Rel w X ρ (am []))(hb:Below w.heap.size w w'):Rel w' X ρ (am [])/\Far false w ρ (am []) w' ρ (am []):=by
 have hl:∀id sub,¬live (am []) id sub:=fun id sub=>by
  have hd:am [] id=.dead:=by
   unfold am;split<;>simp
  cases sub with
  |none=>simp[live,hd]
  |some p=>simp[live,hd]
 refine⟨⟨fun id sub _ _ h=>(hl id sub h).elim,fun id sub h=>(hl id sub h).elim,fun id=>?_,fun b hb'=>azY (hr.xl b hb') hb.size⟩,hb.os,hb.tape,hb.output,hb.size,fun b h1 _=>hb.block b h1,fun b ⟨id,sub,h,_⟩=>(hl id sub h).elim,fun id _ h=>?_,fun h=>by cases h⟩
 ·have hd:am [] id=.dead:=by
   unfold am;split<;>simp
  rw[hd];trivial
 ·exfalso;apply h;unfold am;split<;>simp
theorem aoG{P:Program}{I:Inv}{ρ0:Ren}(L:Lays2.n15 P ρ0)(hf:ρ0.f 15=F.slices_Clone_int_int_)(he:∀a w,(callFunc F.slices_Clone_int_int_ a).run P w=.ok (.enter F.slices_Clone_int_int_ a) w)
  (hR:qQ P I false F.slices_Clone_int_int_ (R0 F.slices_Clone_int_int_)):qQ P I false F.slices_Clone_int_int_ clF:=by
 intro args obs obs' res w X ρ vals n hz hn hi hr hs hv;unfold clF at hz;split at hz
 ·cases hz;obtain⟨u0,h0⟩:=Jt hs (i:=0) rfl;have d0:=(hv 0 _ _ rfl h0).sl_inv;obtain rfl:=auG hs h0;cases d0 with
  |sl _ _ a cap ad vs hc ha hk hv2 hl hr2=>
   unfold Enters;rw[he];have fin:∀ (w':World) (b:Option Addr) (c:Nat),Below w.heap.size w w'->∃ρ',Rel w' X ρ' (mat n (am []) (.sl 1 [])).2/\Far false w ρ (am []) w' ρ' (mat n (am []) (.sl 1 [])).2/\
     RV w' (aJ w' X (mat n (am []) (.sl 1 [])).2 ρ') ρ' (mat n (am []) (.sl 1 [])).2 (mat n (am []) (.sl 1 [])).1 (.slice b 0 c):=fun w' b c hb=>
    ⟨ρ,(TV hr hb).1,(TV hr hb).2,.dat (.sl 1 [] b c ad vs (azH _) (fun h=>absurd rfl h) (fun _ h=>by cases h) (fun i row j c h=>by simp at h) (fun _ h=>by cases h) (fun i row j c h=>by simp at h))⟩
   cases a with
   |none=>
    have key:=Any.slices_Clone_int_nil L 0 cap w;rw[hf]at key;refine Calls.mono key fun e w' hw=>?_;obtain⟨rfl,rfl⟩:=hw;exact fin _ _ _ (Below.refl _ _)
   |some a0=>
    have key:=Any.slices_Clone_int_zero L a0 cap w;rw[hf]at key;refine Calls.mono key fun e w' hw=>?_;obtain⟨v',rfl,⟨_,hown⟩,_,hb⟩:=hw;rcases hown with⟨rfl,_⟩| ⟨g,c2,JZ,rfl,_⟩
    ·exact fin _ _ _ hb
    ·exact fin _ _ _ hb
 ·rename_i r rs;split at hz
  ·rename_i hb;cases hz;exact hR (ai5 hb) hn hi hr hs hv
  ·cases hz
 ·cases hz
abbrev TX(f:Nat)(fd:FD):Prop:=Text Go.Proofs.Tryz.prog f fd
theorem tx{f:Nat}{fd:FD}{fn:Func}(h:Go.Proofs.Tryz.prog.funcs[f]?=some fn)(h2: (fn.body.bind fun c=>iF Go.Proofs.Tryz.prog fn.ntmps c fd.body,Iw Go.Proofs.Tryz.prog fn.results.toList,decide (fn.ntmps<=1000),fn.name== "runtime.NumGoroutine")= (some fd.body,some fd.res,true,false)):TX f fd:=by
 simp only[Prod.mk.injEq,ayY,decide_eq_true_eq]at h2;obtain⟨⟨c,h3,h4⟩,h5,h6,h7⟩:=h2;exact⟨⟨fn,c,_,h,h3,rfl,h6,h4,h5,h7⟩⟩
theorem tn:∀p∈ ([]:List (Nat×FD)),TX p.1 p.2:=fun _ h=>by cases h
theorem tc{f:Nat}{fd:FD}{l:List (Nat×FD)}(h1:TX f fd)(h2:∀p∈l,TX p.1 p.2):∀p∈ (f,fd)::l,TX p.1 p.2:=fun p hp=>by
 rcases List.mem_cons.1 hp with rfl|hp
 ·exact h1
 ·exact h2 p hp
set_option maxRecDepth 100000 in
theorem YI:∀p∈ajh,TX p.1 p.2:=tc (tx func270 κ) (tc (tx func305 κ) (tc (tx func307 κ) (tc (tx func310 κ) (tc (tx func316 κ) (tc (tx func317 κ) (tc (tx func318 κ) (tc (tx func319 κ) (tc (tx func171 κ) (tc (tx func194 κ) (tc (tx func224 κ) (tc (tx func227 κ) (tc (tx func231 κ) (tc (tx func232 κ) (tc (tx func233 κ) (tc (tx func234 κ) (tc (tx func251 κ) (tc (tx func258 κ) (tc (tx func269 κ) (tc (tx func273 κ) (tc (tx func274 κ) (tc (tx func277 κ) (tc (tx func289 κ) (tc (tx func290 κ) (tc (tx func300 κ) (tc (tx func301 κ) (tc (tx func306 κ) (tc (tx func308 κ) (tc (tx func309 κ) (tc (tx func320 κ) (tc (tx func164 κ) (tc (tx func226 κ) (tc (tx func34 κ) (tc (tx func36 κ) (tc (tx func38 κ) (tc (tx func78 κ) (tc (tx func95 κ) (tc (tx func96 κ) (tc (tx func97 κ) (tc (tx func100 κ) (tc (tx func115 κ) (tc (tx func152 κ) (tc (tx func163 κ) (tc (tx func165 κ) (tc (tx func172 κ) (tc (tx func174 κ) (tc (tx func177 κ) (tc (tx func192 κ) (tc (tx func225 κ) (tc (tx func250 κ) (tc (tx func276 κ) (tc (tx func280 κ) (tc (tx func281 κ) (tc (tx func288 κ) (tc (tx func303 κ) (tc (tx func64 κ) (tc (tx func65 κ) (tc (tx func98 κ) (tc (tx func106 κ) (tc (tx func110 κ) (tc (tx func114 κ) (tc (tx func123 κ) (tc (tx func133 κ) (tc (tx func134 κ) (tc (tx func135 κ) (tc (tx func162 κ) (tc (tx func167 κ) (tc (tx func169 κ) (tc (tx func170 κ) (tc (tx func176 κ) (tc (tx func193 κ) (tc (tx func195 κ) (tc (tx func215 κ) (tc (tx func222 κ) (tc (tx func223 κ) (tc (tx func237 κ) (tc (tx func249 κ) (tc (tx func302 κ) (tc (tx func45 κ) (tc (tx func105 κ) (tc (tx func109 κ) (tc (tx func121 κ) (tc (tx func122 κ) (tc (tx func130 κ) (tc (tx func131 κ) (tc (tx func158 κ) (tc (tx func166 κ) (tc (tx func168 κ) (tc (tx func185 κ) (tc (tx func189 κ) (tc (tx func228 κ) (tc (tx func229 κ) (tc (tx func230 κ) (tc (tx func248 κ) (tc (tx func252 κ) (tc (tx func256 κ) (tc (tx func257 κ) (tc (tx func271 κ) (tc (tx func272 κ) (tc (tx func275 κ) (tc (tx func13 κ) (tc (tx func43 κ) (tc (tx func47 κ) (tc (tx func54 κ) (tc (tx func56 κ) (tc (tx func60 κ) (tc (tx func63 κ) (tc (tx func88 κ) (tc (tx func89 κ) (tc (tx func90 κ) (tc (tx func104 κ) (tc (tx func107 κ) (tc (tx func108 κ) (tc (tx func120 κ) (tc (tx func124 κ) (tc (tx func127 κ) (tc (tx func132 κ) (tc (tx func159 κ) (tc (tx func180 κ) (tc (tx func190 κ) (tc (tx func191 κ) (tc (tx func239 κ) (tc (tx func240 κ) (tc (tx func247 κ) (tc (tx func253 κ) (tc (tx func254 κ) (tc (tx func255 κ) (tc (tx func118 κ) (tc (tx func178 κ) (tc (tx func179 κ) (tc (tx func181 κ) (tc (tx func182 κ) (tc (tx func238 κ) (tc (tx func241 κ) (tc (tx func242 κ) (tc (tx func243 κ) (tc (tx func244 κ) (tc (tx func245 κ) (tc (tx func246 κ) (tc (tx func279 κ) (tc (tx func282 κ) (tc (tx func283 κ) (tc (tx func284 κ) (tc (tx func285 κ) (tc (tx func286 κ) (tc (tx func287 κ) (tc (tx func41 κ) (tc (tx func42 κ) (tc (tx func50 κ) (tc (tx func74 κ) (tc (tx func101 κ) (tc (tx func102 κ) (tc (tx func103 κ) (tc (tx func112 κ) (tc (tx func113 κ) (tc (tx func116 κ) (tc (tx func117 κ) (tc (tx func143 κ) (tc (tx func173 κ) (tc (tx func175 κ) (tc (tx func183 κ) (tc (tx func184 κ) (tc (tx func186 κ) (tc (tx func187 κ) (tc (tx func8 κ) (tc (tx func10 κ) (tc (tx func23 κ) (tc (tx func40 κ) (tc (tx func44 κ) (tc (tx func48 κ) (tc (tx func49 κ) (tc (tx func51 κ) (tc (tx func52 κ) (tc (tx func53 κ) (tc (tx func72 κ) (tc (tx func75 κ) (tc (tx func99 κ) (tc (tx func111 κ) (tc (tx func119 κ) (tc (tx func125 κ) (tc (tx func126 κ) (tc (tx func20 κ) (tc (tx func67 κ) (tc (tx func69 κ) (tc (tx func70 κ) (tc (tx func136 κ) (tc (tx func137 κ) (tc (tx func138 κ) (tc (tx func141 κ) (tc (tx func142 κ) (tc (tx func198 κ) (tc (tx func199 κ) (tc (tx func200 κ) (tc (tx func201 κ) (tc (tx func25 κ) (tc (tx func27 κ) (tc (tx func76 κ) (tc (tx func81 κ) (tc (tx func144 κ) (tc (tx func5 κ) (tc (tx func21 κ) (tc (tx func22 κ) (tc (tx func24 κ) (tc (tx func28 κ) (tc (tx func73 κ) (tc (tx func82 κ) (tc (tx func26 κ) (tc (tx func77 κ) (tc (tx func79 κ) (tc (tx func80 κ) (tc (tx func145 κ) (tc (tx func146 κ) (tc (tx func202 κ) (tc (tx func203 κ) (tc (tx func204 κ) (tc (tx func205 κ) (tc (tx func259 κ) (tn)))))))))))))))))))))))))))))))))))))))))))))))))))))))))))))))))))))))))))))))))))))))))))))))))))))))))))))))))))))))))))))))))))))))))))))))))))))))))))))))))))))))))))))))))))))))))))))))))))))))))))))))))))))))))
end Go.Ab
