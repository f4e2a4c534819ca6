/-
  A law of tapes on models holds at every input that the statement speaks of, under the conditions that its card names. Part G1.
-/
import Derived.Lib.Overlaps
import Derived.Laws.Externs
import Derived.Shelf.Slices.Clone
import Derived.Test.YtaojbnikhbkleaaGreatDoorF1
open Nat renaming add_zero → aFA, div_add_mod → aFM, div_le_self → aF1, le_of_ble_eq_true → aFp, le_refl → aET, le_trans → aEX, lt_of_le_of_lt → aFl, lt_of_lt_of_le → aFQ, mod_eq_of_lt → aFG, mod_lt → aFx, mul_assoc → aFj, mul_comm → aFd, mul_le_mul_left → aFV, mul_le_mul_right → aE4, pow_add → aE2, pow_le_pow_right → aFu, pow_succ → aFJ, two_pow_pos → aE7, zero_add → aES, zero_le → aE9
open Int renaming eq_ofNat_of_zero_le → aFy, lt_irrefl → aFC, natCast_mul → aF2, natCast_zero → aFz, reduceEq → aEP, reduceLE → aEO, reduceLT → aEN, toNat_natCast → aEY
open Bool renaming and_eq_true → aEV, and_false → aFT, and_true → aFE, false_and → aE0, false_eq_true → aFv, false_ne_true → aE3, not_eq_true' → aFS, not_false → aFY, not_true → aMD, or_eq_true → aF0, true_and → aEW
open List renaming all_cons → aFa, all_eq_true → aFc, all_nil → aFF, append_nil → aE8, cons_append → aFb, drop_eq_getElem_cons → aFe, drop_eq_nil_of_le → aFq, drop_zero → aFX, getElem?_eq_getElem → aE1, getElem_mem → aFg, length_cons → aFk, length_map → aFh, length_nil → aFs, length_take → aFm, map_nil → aFB, nil_append → aE5, replicate → aER, tail_cons → aGJ, take_of_length_le → aFi
open Option renaming bind_eq_some_iff → aEQ, bind_some → aEZ, map_eq_some_iff → aEU, map_some → aFK
set_option linter.all false
namespace Go.Ab
open Go Go.IntWalk Go.Proofs Go.Shelf Go.RowKit
set_option maxRecDepth 100000
set_option maxHeartbeats 16000000
variable{M T j:Nat}{args cap:List AV}{d:Rd}{h:aj}{o q:Ob}{outs:List Int}{p sh:Int}{rows:List (List AV)}{s:Rs}{vals:Array Value}{x y:Ri}{xs:List Rm}
def gZ(n:Int):Rd:=aZ (decide (n<0)) n.natAbs 0
theorem jh{n}(h:kR n):vd (gZ n)=true/\Ok0 (gZ n):=by
 have hb:ag n.natAbs<=64:=bH.2 (by
  obtain⟨h1,h2⟩:=h;omega)
 unfold gZ;by_cases g:n.natAbs=0
 ·grind[kT,aO]
 exact⟨J9 (Rf g ω δ ω),⟨sx _ _ _,aFl (pq (k:=128) ω) δ⟩⟩
abbrev cY(n:Int):Ri:=m9 (gZ n)
theorem gM{n}(h:kR n):OkI (cY n):=⟨(jh h).2,(jh h).2⟩
theorem B6{n}(h:kR n):R 98 [I n] []=some (ae (cY n),[]):=by
 refine au Pu rfl ?_;have h1:=m8 h;have h2:=fY (jh h).2 (jh h).1;rw[show aZ (decide (n<0)) n.natAbs 0=gZ n from rfl]at h1;unfold cY m9;simp only[ae,ah,af,ak]at h1 h2;simp only[yR,ae,ah,go_sem,h1,h2]
theorem ae9{x}(ok:OkI x){p}{n:Nat}(hn:n<=16):R 99 [ae x,I n,I p] []=some (ae (BX x n p),[]):=by
 refine au HE rfl ?_;have h:=FH ok (p:=p) (n:=n) ω;have e1:((n:Int)<=16)=True:=tt;simp only[ae,ah]at h;simp only[ur,ae,ah,go_sem,e1,h]
theorem YJ{x}(ok:OkI x){p}{n:Nat}(hn:n<=32):R 99 [ae x,I n,I p] []=some (ae (vV x n p),[]):=by
 unfold vV;by_cases g:n<=16
 ·grind[ae9]
 rw[av g];refine au HE rfl ?_;have h1:=FH ok (p:=p) (n:=16) ω;have h2:=ae9 ok (p:=p) (n:=n-16) ω;have h3:=sy (EB ok (n:=16) (p:=p)) (EB ok (n:=n-16) (p:=p)) (p:=p);have e1:((n:Int)<=16)=False:=ff;have e2:aG (n-16)=(n-16:Nat):=wi;simp only[ae,ah,Int.cast_ofNat_Int]at h1 h2 h3;simp only[ur,ae,ah,go_sem,e1,e2,h1,h2,h3]
theorem zK{s}(os:OkS s):R 47 [ej s] []=some (bB (cu s),[]):=by
 refine au Qx rfl ?_;have h1:=dW;have h2:=vU os (x:=bt) gX.ok';have e:kK s bt=cu s:=by
  simp_all[kK,av,kI,bt]
 rw[e]at h2;simp only[ae,ah,bt,aC]at h1 h2;simp only[AE,go_sem,h1,h2]
def TY(x:Ri)(p:Int):Bool:=kI x&& (bv p&&decide ((dh x.hi (gW x.lo) p true).2=0))
theorem afa{x}{p}(h:TY x p=true):x.all=false:=by
 grind[TY,kI]
theorem RM{x}{p}(ox:OkI x):∃w b,R 215 [ae x,I p] []=some (.tup [af w,B b],[])/\Ok0 w/\vd w=true/\b=TY x p:=by
 have h1:=kU ox;have h2:=l8 (p:=p);cases g1:kI x with
 |false=>
  rw[g1]at h1;refine⟨aC,false,au BQ rfl ?_,aO.2,aO.1,by simp[TY,g1]⟩;simp only[pJ,ae,ah,af,ak,aC,go_sem,h1]
 |true=>
 rw[g1]at h1;cases g2:bv p with
 |false=>
  rw[g2]at h2;refine⟨aC,false,au BQ rfl ?_,aO.2,aO.1,by grind[TY]⟩;simp only[pJ,ae,ah,af,ak,aC,go_sem,h1,h2]
 |true=>
 rw[g2]at h2;have h3:=Dz ox.lo;rw[show(if vd x.lo=false\/x.lo.m.length=0 then aC else⟨!x.lo.neg,x.lo.m,x.lo.e⟩)=gW x.lo from rfl]at h3;have on:Ok0 (gW x.lo):=by
  unfold gW;split
  ·exact aO.2
  ·exact⟨ox.lo.1,ox.lo.2⟩
 have h4:=Rg ox.hi on (p:=p);refine⟨(dh x.hi (gW x.lo) p true).1,decide ((dh x.hi (gW x.lo) p true).2=0),au BQ rfl ?_,Kb,OI,by grind[TY,g1]⟩;simp only[rV,af,ak]at h3 h4;simp only[pJ,ae,ah,af,ak,go_sem,h1,h2,h3,h4]
theorem atT{s}(ok:Ok0 s)(v:vd s=true):∃r,R 150 [af s,I 3] []=some (rV r,[])/\Ok0 r.1:=by
 obtain⟨h0,h1,h2,h3⟩:=dT v ok.lb;have hl:Ok0 (aZ s.neg (ab s.m) (s.e+3)):=⟨sx _ _ _,aFl (pq (k:=128) ω) δ⟩;refine⟨cA (aZ s.neg (ab s.m) (s.e+3)),au En rfl ?_,?_⟩
 ·have hv:=eC ok;rw[v]at hv;have hx:=xM (e:=3);have ho:=l6 (neg:=s.neg) (m:=s.m) (e:=s.e+3) ok.lb ω (by grind[Exq]);have hc:=Ar hl.lb (aEX (pq (k:=128) ω) δ);have ew:aG (s.e+3)=s.e+3:=by grind[i64_in]
  generalize aZ s.neg (ab s.m) (s.e+3)=d at ho hc⊢;have e:(if rP (ag (ab d.m)) d.e=true then AV.tup [af d,I 0]else .tup [af aC,I 9])=rV (cA d):=by
   grind[cA,rV]
  rw[e]at hc;simp only[af,ak,rV]at hv ho hc;simp only[lP,rV,af,ak,go_sem,hv,hx,ho,hc,ew,show decide ((-32768)<=3)=true from rfl,show decide ((3:Int)<=32768)=true from rfl]
 ·unfold cA;split
  ·omega
  ·exact aO.2
theorem anY{s}{a b}(os:OkS s)(oa:OkM a)(ob:OkM b):∃w,R 153 [ej s,bB a,bB b] []=some (B w,[])/\(w=false->TY (cQ s b) s.p=true->(cQ s a).all=false):=by
 have h1:=CH os oa;have h2:=CH os ob;obtain⟨w1,b1,h3,o1,v1,e1⟩:=RM (x:=cQ s a) (p:=s.p) sD;obtain⟨w2,b2,h4,o2,v2,e2⟩:=RM (x:=cQ s b) (p:=s.p) sD;obtain⟨r,h5,o3⟩:=atT o2 v2;have h6:=mF o1 o3;generalize(if vd w1=true/\vd r.1=true then gH (zI w1) (zI r.1)else 0)=k at h6;simp only[ae,ah,af,ak,rV]at h1 h2 h3 h4 h5 h6;cases b2 with
 |false=>
  refine⟨false,au wF rfl ?_,fun _ h=>by grind⟩;simp only[mr,go_sem,h1,h2,h3,h4]
 |true=>
 cases b1 with
 |false=>
  refine⟨true,au wF rfl ?_,fun h=>by grind⟩;simp only[mr,go_sem,h1,h2,h3,h4,h5]
 |true=>
 by_cases g:r.2=0
 ·have f:=tt g;refine⟨decide (0<k),au wF rfl ?_,fun _ _=>afa e1.symm⟩;simp only[mr,go_sem,h1,h2,h3,h4,h5,h6,f]
 ·have f:=ff g;refine⟨false,au wF rfl ?_,fun _ _=>afa e1.symm⟩;simp only[mr,go_sem,h1,h2,h3,h4,h5,f]
theorem TZ{l:List Nat}{p}{x}(h:x∈ (l.filter p).map du):x∈l.map du:=by
 obtain⟨y,hy,rfl⟩:=List.mem_map.1 h;exact List.mem_map_of_mem (List.mem_filter.1 hy).1
theorem Pd{a b}(h:∀x∈a,x∉b):nV a b=true:=by
 unfold nV;rw[aFc];intro x hx;simp[h x hx]
theorem ao6(h h':aj)(d:Nat){a b g:Bool}{m n:List Nat}{e f:Int}{z:Value}(hi:mP (h 1000)=[]):hF h d [.agg [B a,lm m,I e,B b,lm n,I f,B g],.v z,ac 1000] h'=some ([1000],(Ff h h' [1000]).map du++[2000+8*d]):=by
 have hre:bO h 40 [1000] 0=[1000]:=by grind[bO,bD]
 show(if _ then _ else if _ then some ((bO h 40 [1000] 0).map du,(Ff h h' (bO h 40 [1000] 0)).map du++[2000+8*d])else none)=_;rw[hre];rfl
theorem atU{h':aj}{d x:Nat}(hx:x∈ (Ff h h' [1000]).map du++[2000+8*d]):x=1000\/x=2000+8*d:=by
 rcases List.mem_append.1 hx with h1|h1
 ·have:=TZ h1;grind[du]
 grind
section
variable {a b g:Bool} {m n:List Nat} {e f:Int} {z:Value} {r w:List Nat}
theorem Ie(h h':aj)(d:Nat)(hi:mP (h 1000)=[])(hk:nV (r++w) [1000,2000+8*d]=true):mj (hF h d [.agg [B a,lm m,I e,B b,lm n,I f,B g],.v z,ac 1000] h') (some (r,w))=true:=by
 rw[ao6 h h' d hi];have hk':∀x,x∈r\/x∈w->x≠1000/\x≠2000+8*d:=fun x hx=>by
  have:=Cc hk (List.mem_append.2 hx);grind
 show(nV _ (r++w)&&nV w [1000])=true;grind[Pd,atU]
theorem If(h h':aj)(d:Nat)(hi:mP (h 1000)=[])(hk:nV (r++w) [1000,2000+8*d]=true):mj (some (r,w)) (hF h d [.agg [B a,lm m,I e,B b,lm n,I f,B g],.v z,ac 1000] h')=true:=by
 rw[ao6 h h' d hi];have hk':∀x,x∈r\/x∈w->x≠1000/\x≠2000+8*d:=fun x hx=>by
  have:=Cc hk (List.mem_append.2 hx);grind
 show(nV w ([1000]++_)&&nV _ r)=true;grind[Pd,atU]
end
theorem ao7(h h':aj)(d:Nat){a b g:Bool}{m n:List Nat}{e f:Int}{z:Value}(hi:mP (h 1000)=[])(hj:mP (h 1001)=[]):hF h d [.agg [B a,lm m,I e,B b,lm n,I f,B g],.v z,ac 1000,ac 1001] h'=some ([1000,1001],(Ff h h' [1000,1001]).map du++[2000+8*d]):=by
 have hre:bO h 40 [1000,1001] 0=[1000,1001]:=by simp_all[bO,bD]
 show(if _ then _ else if _ then some ((bO h 40 [1000,1001] 0).map du,(Ff h h' (bO h 40 [1000,1001] 0)).map du++[2000+8*d])else none)=_;rw[hre];rfl
theorem atV{h':aj}{d x:Nat}(hx:x∈ (Ff h h' [1000,1001]).map du++[2000+8*d]):x=1000\/x=1001\/x=2000+8*d:=by
 rcases List.mem_append.1 hx with h1|h1
 ·have:=TZ h1;grind[du]
 grind
section
variable {a b g:Bool} {m n:List Nat} {e f:Int} {z:Value} {r w:List Nat}
theorem Ig(h h':aj)(d:Nat)(hi:mP (h 1000)=[])(hj:mP (h 1001)=[])(hk:nV (r++w) [1000,1001,2000+8*d]=true):mj (hF h d [.agg [B a,lm m,I e,B b,lm n,I f,B g],.v z,ac 1000,ac 1001] h') (some (r,w))=true:=by
 rw[ao7 h h' d hi hj];have hk':∀x,x∈r\/x∈w->x≠1000/\x≠1001/\x≠2000+8*d:=fun x hx=>by
  have:=Cc hk (List.mem_append.2 hx);grind
 show(nV _ (r++w)&&nV w [1000,1001])=true;grind[Pd,atV]
theorem Ih(h h':aj)(d:Nat)(hi:mP (h 1000)=[])(hj:mP (h 1001)=[])(hk:nV (r++w) [1000,1001,2000+8*d]=true):mj (some (r,w)) (hF h d [.agg [B a,lm m,I e,B b,lm n,I f,B g],.v z,ac 1000,ac 1001] h')=true:=by
 rw[ao7 h h' d hi hj];have hk':∀x,x∈r\/x∈w->x≠1000/\x≠1001/\x≠2000+8*d:=fun x hx=>by
  have:=Cc hk (List.mem_append.2 hx);grind
 show(nV w ([1000,1001]++_)&&nV _ r)=true;grind[Pd,atV]
end
abbrev zM:List AV:=[I 0,.emp,B false,.emp,I 0,B false,.emp,I 0,B false]
attribute [-go_sem] vK in
theorem anZ{d:Rm}{b c:Ri}{f:FuncId}{g:Ri->Int->Ri}{N:Int}(hcap:cap=[ac 1000]/\q=.dead\/cap=[ac 1000,ac 1001])(os:OkS s)(hs:fg s=true)(hd:VM s d)(hg:∀k,OkI (g c k))(ho:OC o)(hoq:(∀l,aE l q=true)/\mP q=[])
  (hf:∀ (k:Nat),k<=17->∀ (h:aj) (e:Nat),h 1000=o->h 1001=q->h (2000+8*e)=.dead->bF R (aA false) h e [ae c,I k] (.fn f [] cap)=some (ae (g c k),h,[])):∀ (k:Nat) (out:Rm),VM s out->k<=17->∀ (S:aM) (h:aj) (X:Option (Ex×St)),ao 0 [2,3,6,7,8,10,11] (aB (am R (aA false) fP) [2,3,6,7,8,9,10,11,12] [3,6,7,8,9,11,1000,1001] S h)=X->
  S 2=.fn f [] cap->S 3=ac 3->S 6=ac 6->S 7=ac 7->S 8=ac 8->S 9=ac 9->S 10=I N->S 11=ac 11->S 12=I ((k:Int)-1)->
  h 3=.bx (mO s)->h 6=.bx zM->h 7=.bx (ah b)->h 8=.bx (ah c)->h 9=.bx (uj d)->h 11=.bx (uj out)->h 1000=o->h 1001=q->
  ∃hh,X=some (.normal,⟨upd (upd (upd (upd (upd (upd (upd ce 11 (ac 11)) 10 (I N)) 8 (ac 8)) 7 (ac 7)) 6 (ac 6)) 3 (ac 3)) 2 (.fn f [] cap),hh⟩)/\hh 3=.bx (mO s)/\hh 6=.bx zM/\hh 7=.bx (ah b)/\hh 8=.bx (ah c)/\hh 11=.bx (uj (NV s d c g k out))/\hh 1000=o/\hh 1001=q/\∀i,i≠3->i≠6->i≠7->i≠8->i≠9->i≠11->i≠1000->i≠1001->hh i=.dead:=by
 have hcl:=ho.cl;have hids:=ho.ids;obtain⟨hcq,hiq⟩:=hoq;clear ho;intro k;induction k with
 |zero=>
  intro out ho hk S h X hX k2 k3 k6 k7 k8 k9 k10 k11 k12 h3 h6 h7 h8 h9 h11 h0 h1;subst hX;rw[ai];have e1:(0<=((0:Nat):Int)-1)=False:=ff;rcases hcap with⟨rfl,rfl⟩|rfl
  ·refine⟨?hh0,?_,?_,?_,?_,?_,?_,?_,?_,?_⟩;rotate_left
   ·simp only[fP,go_sem,k2,k3,k6,k7,k8,k9,k10,k11,k12,h3,h6,h7,h8,h9,h11,h0,h1,hcl,hcq,e1];rfl
   all_goals first|rfl| (intro i b1 b2 b3 b4 b5 b6 b7 b8;simp only[cz,b1,b2,b3,b4,b5,b6,b7,b8,if_false];try (split<;>rfl))
  ·refine⟨?hh1,?_,?_,?_,?_,?_,?_,?_,?_,?_⟩;rotate_left
   ·simp only[fP,go_sem,k2,k3,k6,k7,k8,k9,k10,k11,k12,h3,h6,h7,h8,h9,h11,h0,h1,hcl,hcq,e1];rfl
   all_goals first|rfl| (intro i b1 b2 b3 b4 b5 b6 b7 b8;simp only[cz,b1,b2,b3,b4,b5,b6,b7,b8,if_false];try (split<;>rfl))
 |succ k ih=>
  intro out ho hk S h X hX k2 k3 k6 k7 k8 k9 k10 k11 k12 h3 h6 h7 h8 h9 h11 h0 h1;have vm:=NX os hs ho hd;have vc:=FM os hs (hg k);have ih':=ih (NU s (zJ s out d) (kK s (g c k))) (ahK os hs vm vc) ω;have e2:((k+1:Nat):Int)-1=k:=ω
  have e3:aG ((k:Int)-1)=(k:Int)-1:=by grind[i64_in]
  have m1:=G6 os ho.ok hd.ok;have m2:=vU os (hg k);have m3:=VX os vm.ok vc.ok;have hc:=hf k ω;rw[e2]at k12;have e4:(0<=(k:Int))=True:=tt;subst hX;rw[ai];rw[show NV s d c g (k+1) out=NV s d c g k (NU s (zJ s out d) (kK s (g c k)))from rfl];generalize zJ s out d=y1 at*
  generalize kK s (g c k)=y2 at*
  generalize g c k=x at*
  simp only[ae,ah]at hc m2 h8;rcases hcap with⟨rfl,rfl⟩|rfl
  ·simp only[fP,ah,go_sem,k2,k3,k6,k7,k8,k9,k10,k11,k12,h3,h6,h7,h8,h9,h11,h0,h1,hcl,e4,m1,ic];rw[hc _ _ Z Z Z];simp only[go_sem,hcl,hids,Ie,If,ic,m2,m3,e3];apply ih'<;>rfl
  ·simp only[fP,ah,go_sem,k2,k3,k6,k7,k8,k9,k10,k11,k12,h3,h6,h7,h8,h9,h11,h0,h1,hcl,hcq,e4,m1,ic];rw[hc _ _ Z Z Z];simp only[go_sem,hcl,hcq,hids,hiq,Ig,Ih,ic,m2,m3,e3];apply ih'<;>rfl
theorem atW{n:Nat}(ok:OkI x):OkI (vV x n p):=by
 grind[vV,EB,iU]
theorem ab3{a:Rm}(os:OkS s)(oa:OkM a):∃q,In q (cQ s a):=by
 unfold cQ;split
 case isFalse=>exact⟨0,.inl rfl⟩
 rename_i h;obtain⟨q1,q2⟩:=DF h;obtain⟨a1,a2,a3,a4⟩:=oG oa (q2 a σ);obtain⟨k1,k2⟩:=xR (p:=s.p) a1 os.d (by grind[jA]);obtain⟨y,hy⟩:=GN k1 k2;obtain⟨z,hz⟩:=GN oa.r a4;exact⟨_,sB (p:=s.p) hy hz⟩
attribute [-go_sem] vK in
theorem ark{a:Rm}{f:FuncId}{hs':List Ob}(hcap:cap=[ac 1000]/\q=.dead/\hs'=[o]\/cap=[ac 1000,ac 1001]/\hs'=[o,q])(os:OkS s)(oa:OkM a)(ho:OC o)(hoq:(∀l,aE l q=true)/\mP q=[])(g0:(cQ s a).all=true):
  R 84 [ej s,bB a,.fn f [] cap] hs'=some (bB (cu s),hs'):=by
 have hb:=CH os oa;have hcl:=ho.cl;have hids:=ho.ids;obtain⟨hcq,hiq⟩:=hoq;have hw:=zK os;generalize cQ s a=b at*
 generalize cu s=z at*
 simp only[ae,ah]at hb;rcases hcap with⟨rfl,rfl,rfl⟩| ⟨rfl,rfl⟩
 ·refine tE bw.2.1 bw.2.2 (bw.1.2.2.2 false) rfl ?_;simp only[gS,jN,go_sem,hb,hw,g0];exact jY Z Z (hcl _) rfl (by simp only[go_sem,ge])
 ·refine YI false bw.2.1 bw.2.2 (bw.1.2.2.2 false) rfl ?_;simp only[gS,jN,go_sem,hb,hw,g0];exact LK Z Z Z (hcl _) (hcq _) rfl (by simp only[go_sem,ge])
attribute [-go_sem] vK in
theorem afb{a:Rm}{f:FuncId}{g:Ri->Int->Ri}{hs':List Ob}(hcap:cap=[ac 1000]/\q=.dead/\hs'=[o]\/cap=[ac 1000,ac 1001]/\hs'=[o,q])(os:OkS s)(oa:OkM a)(ho:OC o)(hoq:(∀l,aE l q=true)/\mP q=[])(hg:∀x k,OkI (g x k))(hgi:∀k:Nat,∃q,In q (g (cQ s a) ((k+1:Nat):Int)))(hf:∀x,x=m9 (rI s a)\/x=cQ s a->∀ (k:Nat),k<=17->∀ (h:aj) (e:Nat),h 1000=o->h 1001=q->h (2000+8*e)=.dead->bF R (aA false) h e [ae x,I k] (.fn f [] cap)=some (ae (g x k),h,[])):
  ∃m,R 84 [ej s,bB a,.fn f [] cap] hs'=some (bB m,hs')/\(fg s=true->VM s m)/\((cQ s a).all=true/\m=cu s\/(cQ s a).all=false/\fg s=true/\AC s a=true/\(m=RL s a g/\(TY (cQ s (kK s (g (cQ s a) 0))) s.p=true->(cQ s (RL s a g)).all=false)\/m=kK s (g (cQ s a) 0))):=by
 have hb:=CH os oa;have okb:=sD (s:=s) (a:=a);have hcl:=ho.cl;have hids:=ho.ids;obtain⟨hcq,hiq⟩:=hoq;cases g0:(cQ s a).all with
 |true=>
  exact⟨cu s,ark hcap os oa ho ⟨hcq,hiq⟩ g0,fun h=>ER h,.inl ⟨rfl,rfl⟩⟩
 |false=>
 have he:xI s [a]=true:=by
  cases h:xI s [a]with
  |true=>rfl
  |false=>
   unfold cQ at g0;rw[h,av aE3]at g0;cases g0
 obtain⟨hs,q2⟩:=DF he;have va:=q2 a σ;have ha:VM s a:=⟨oa,va⟩;obtain⟨m1,m2⟩:=EP (p:=s.p) okb;have hm:R 78 [ae (cQ s a),I s.p] []=some (af (rI s a),[]):=akK okb;have hp:R 80 [af (rI s a)] []=some (ae (m9 (rI s a)),[]):=fY m2 m1;have okc:OkI (m9 (rI s a)):=⟨m2,m2⟩;have vc:=FM os hs okc;have h1:=vU os okc;have h2:R 11 [ej s,bB a,bB (kK s (m9 (rI s a)))] []=some (bB (ab0 s a),[]):=Pa os oa vc.ok;have vd:VM s (ab0 s a):=akV os hs ha vc;obtain⟨n,hn⟩:∃n:Nat,s.ord=n:=aFy (by
  unfold fg at hs;grind)
 have hn17:n<=16:=by
  unfold fg at hs;grind
 have hnt:s.ord.toNat=n:=ω
 have h3:=hf _ (.inl rfl) n ω;have h4:=vU os (hg (m9 (rI s a)) n);have v4:=FM os hs (hg (m9 (rI s a)) n);have hL:=fun b N=>anZ (b:=b) (N:=N) (hcap.imp (fun h=>⟨h.1,h.2.1⟩) fun h=>h.1) os hs vd (hg (m9 (rI s a))) ho ⟨hcq,hiq⟩ (fun k hk h e=>hf _ (.inl rfl) k hk h e) n _ v4 ω;have vh:=akW os hs vd (hg (m9 (rI s a))) n _ v4;have h5:=OW okb okc (p:=s.p);have h6:=hf _ (.inr rfl) (n+1) ω;have h7:=YJ (O9 (x:=cQ s a) (y:=m9 (rI s a)) (p:=s.p)) (p:=s.p) (n:=n+1) ω;have eR:NW s a g=bX (g (cQ s a) ((n+1:Nat):Int)) (vV (EI (cQ s a) (m9 (rI s a)) s.p) (n+1) s.p) s.p:=by
  grind[NW]
 have h8:R 62 [ae (g (cQ s a) ((n+1:Nat):Int)),ae (vV (EI (cQ s a) (m9 (rI s a)) s.p) (n+1) s.p),I s.p] []=some (ae (NW s a g),[]):=by
  grind[sy,atW,O9]
 obtain⟨qb,hqb⟩:=ab3 os oa;obtain⟨qg,hqg⟩:=hgi n;have iR:∃q,In q (NW s a g):=by
  rw[eR];exact⟨_,sC hqg (atP (OY hqb (wK m1 m2)))⟩
 have eO:RL s a g=VY s (NV s (ab0 s a) (m9 (rI s a)) g n (kK s (g (m9 (rI s a)) n))) (NW s a g):=by
  grind[RL]
 have vw:=atQ hs vh iR;rw[←eO]at vw;have h9:=akL os vh.ok (r:=NW s a g) (iR.elim fun _ h=>h.ok);rw[←eO]at h9;have h10:=hf _ (.inr rfl) 0 ω;have h11:=vU os (hg (cQ s a) 0);have vk:=FM os hs (hg (cQ s a) 0);obtain⟨w,h12,hw⟩:=anY os vw.ok vk.ok;have vw':=fun _:fg s=true=>vw;have vk':=fun _:fg s=true=>vk;clear eO eR vw vh vk v4 vc vd ha hqg hqb iR m1 m2 okc okb hgi hg hf he q2;have lL:=hL (cQ s a) s.ord;clear hL;rw[hn]at lL;obtain⟨dom,ord,p⟩:=s;simp only at hn;subst hn;generalize cQ ⟨dom,(n:Int),p⟩ a=b at*
 generalize rI ⟨dom,(n:Int),p⟩ a=cc at*
 generalize ab0 ⟨dom,(n:Int),p⟩ a=D at*
 generalize NW ⟨dom,(n:Int),p⟩ a g=RR at*
 generalize RL ⟨dom,(n:Int),p⟩ a g=OO at*
 simp only[aFz]at h10;simp only at hm h5 h7 h8 lL;generalize kK ⟨dom,(n:Int),p⟩ (m9 cc)=c1 at*
 generalize g (m9 cc) n=x1 at*
 generalize kK ⟨dom,(n:Int),p⟩ x1=c2 at*
 generalize kK ⟨dom,(n:Int),p⟩ (g b 0)=c3 at*
 generalize NV _ D (m9 cc) g n c2=HH at*
 generalize EI b (m9 cc) p=e1 at*
 generalize vV e1 (n+1) p=pw at*
 generalize g b ((n+1:Nat):Int)=x2 at*
 generalize g b 0=x3 at*
 generalize hLL:aB (am R (aA false) fP)=L at lL;have hX:∀s h,am R (aA false) (.loop [2,3,6,7,8,9,10,11,12] [3,6,7,8,9,11,1000,1001] fP) s h=L [2,3,6,7,8,9,10,11,12] [3,6,7,8,9,11,1000,1001] s h:=fun s h=>by rw[←hLL];rfl
 clear hLL;have w1:aG ((n:Int)-1)=(n:Int)-1:=by grind[i64_in]
 have w2:aG ((n:Int)+1)=((n+1:Nat):Int):=wi;simp only[m9,ae,ah,af,ak]at hb hm hp h1 h2 h3 h4 h5 h6 h7 h8 h9 h10 h11 lL;rw[g0]at hm h5;simp only[g0]at h6 h10 lL;cases w with
 |false=>
  refine⟨OO,?_,vw',.inr ⟨rfl,hs,va,.inl ⟨rfl,hw rfl⟩⟩⟩;rcases hcap with⟨rfl,rfl,rfl⟩| ⟨rfl,rfl⟩
  ·refine tE bw.2.1 bw.2.2 (bw.1.2.2.2 false) rfl ?_;simp only[gS,jN,go_sem,hb,g0,hm,hp,h1,h2,hX,ic,hcl,hids];rw[h3 _ _ Z Z Z];simp only[go_sem,hcl,hids,Ie,If,ic,h4,w1,hX];generalize hBB:ao 0 [2,3,6,7,8,10,11] (L _ _ _ _)=X;obtain⟨hh,hE,k3,k6,k7,k8,k11,k0,kq,kd⟩:=lL _ _ _ hBB Z Z Z Z Z Z Z Z Z Z Z Z Z Z Z Z Z;rw[hE];simp only[go_sem,hcl,hids,ic,k3,k6,k7,k8,k11,k0,kd,ne_eq,not_false_eq_true,h5,w2];rw[h6 _ _ (by simp only[go_sem,k0]) (by simp only[go_sem,kq]) (by simp only[go_sem,kd,ne_eq,not_false_eq_true])];simp only[go_sem,hcl,hids,Ie,If,ic,k3,k6,k7,k8,k11,k0,kd,ne_eq,not_false_eq_true,w2,h7,h8,h9];rw[h10 _ _ (by simp only[go_sem,k0]) (by simp only[go_sem,kq]) (by simp only[go_sem,kd,ne_eq,not_false_eq_true])];simp only[go_sem,hcl,hids,Ie,If,ic,k3,k6,k7,k8,k11,k0,kd,ne_eq,not_false_eq_true,h11,h12];exact jY rfl (by simp only[go_sem,k0]) (hcl _) rfl (by simp only[go_sem,ge])
  ·refine YI false bw.2.1 bw.2.2 (bw.1.2.2.2 false) rfl ?_;simp only[gS,jN,go_sem,hb,g0,hm,hp,h1,h2,hX,ic,hcl,hcq,hids,hiq];rw[h3 _ _ Z Z Z];simp only[go_sem,hcl,hcq,hids,hiq,Ig,Ih,ic,h4,w1,hX];generalize hBB:ao 0 [2,3,6,7,8,10,11] (L _ _ _ _)=X;obtain⟨hh,hE,k3,k6,k7,k8,k11,k0,kq,kd⟩:=lL _ _ _ hBB Z Z Z Z Z Z Z Z Z Z Z Z Z Z Z Z Z;rw[hE];simp only[go_sem,hcl,hcq,hids,hiq,ic,k3,k6,k7,k8,k11,k0,kq,kd,ne_eq,not_false_eq_true,h5,w2];rw[h6 _ _ (by simp only[go_sem,k0]) (by simp only[go_sem,kq]) (by simp only[go_sem,kd,ne_eq,not_false_eq_true])];simp only[go_sem,hcl,hcq,hids,hiq,Ig,Ih,ic,k3,k6,k7,k8,k11,k0,kq,kd,ne_eq,not_false_eq_true,w2,h7,h8,h9];rw[h10 _ _ (by simp only[go_sem,k0]) (by simp only[go_sem,kq]) (by simp only[go_sem,kd,ne_eq,not_false_eq_true])];simp only[go_sem,hcl,hcq,hids,hiq,Ig,Ih,ic,k3,k6,k7,k8,k11,k0,kq,kd,ne_eq,not_false_eq_true,h11,h12];exact LK rfl (by simp only[go_sem,k0]) (by simp only[go_sem,kq]) (hcl _) (hcq _) rfl (by simp only[go_sem,ge])
 |true=>
  refine⟨c3,?_,vk',.inr ⟨rfl,hs,va,.inr rfl⟩⟩;rcases hcap with⟨rfl,rfl,rfl⟩| ⟨rfl,rfl⟩
  ·refine tE bw.2.1 bw.2.2 (bw.1.2.2.2 false) rfl ?_;simp only[gS,jN,go_sem,hb,g0,hm,hp,h1,h2,hX,ic,hcl,hids];rw[h3 _ _ Z Z Z];simp only[go_sem,hcl,hids,Ie,If,ic,h4,w1,hX];generalize hBB:ao 0 [2,3,6,7,8,10,11] (L _ _ _ _)=X;obtain⟨hh,hE,k3,k6,k7,k8,k11,k0,kq,kd⟩:=lL _ _ _ hBB Z Z Z Z Z Z Z Z Z Z Z Z Z Z Z Z Z;rw[hE];simp only[go_sem,hcl,hids,ic,k3,k6,k7,k8,k11,k0,kd,ne_eq,not_false_eq_true,h5,w2];rw[h6 _ _ (by simp only[go_sem,k0]) (by simp only[go_sem,kq]) (by simp only[go_sem,kd,ne_eq,not_false_eq_true])];simp only[go_sem,hcl,hids,Ie,If,ic,k3,k6,k7,k8,k11,k0,kd,ne_eq,not_false_eq_true,w2,h7,h8,h9];rw[h10 _ _ (by simp only[go_sem,k0]) (by simp only[go_sem,kq]) (by simp only[go_sem,kd,ne_eq,not_false_eq_true])];simp only[go_sem,hcl,hids,Ie,If,ic,k3,k6,k7,k8,k11,k0,kd,ne_eq,not_false_eq_true,h11,h12];exact jY rfl (by simp only[go_sem,k0]) (hcl _) rfl (by simp only[go_sem,ge])
  ·refine YI false bw.2.1 bw.2.2 (bw.1.2.2.2 false) rfl ?_;simp only[gS,jN,go_sem,hb,g0,hm,hp,h1,h2,hX,ic,hcl,hcq,hids,hiq];rw[h3 _ _ Z Z Z];simp only[go_sem,hcl,hcq,hids,hiq,Ig,Ih,ic,h4,w1,hX];generalize hBB:ao 0 [2,3,6,7,8,10,11] (L _ _ _ _)=X;obtain⟨hh,hE,k3,k6,k7,k8,k11,k0,kq,kd⟩:=lL _ _ _ hBB Z Z Z Z Z Z Z Z Z Z Z Z Z Z Z Z Z;rw[hE];simp only[go_sem,hcl,hcq,hids,hiq,ic,k3,k6,k7,k8,k11,k0,kq,kd,ne_eq,not_false_eq_true,h5,w2];rw[h6 _ _ (by simp only[go_sem,k0]) (by simp only[go_sem,kq]) (by simp only[go_sem,kd,ne_eq,not_false_eq_true])];simp only[go_sem,hcl,hcq,hids,hiq,Ig,Ih,ic,k3,k6,k7,k8,k11,k0,kq,kd,ne_eq,not_false_eq_true,w2,h7,h8,h9];rw[h10 _ _ (by simp only[go_sem,k0]) (by simp only[go_sem,kq]) (by simp only[go_sem,kd,ne_eq,not_false_eq_true])];simp only[go_sem,hcl,hcq,hids,hiq,Ig,Ih,ic,k3,k6,k7,k8,k11,k0,kq,kd,ne_eq,not_false_eq_true,h11,h12];exact LK rfl (by simp only[go_sem,k0]) (by simp only[go_sem,kq]) (hcl _) (hcq _) rfl (by simp only[go_sem,ge])
theorem T1{a:Rm}{f:FuncId}{g:Ri->Int->Ri}(os:OkS s)(oa:OkM a)(ho:OC o)(hg:∀x k,OkI (g x k))(hgi:∀k:Nat,∃q,In q (g (cQ s a) ((k+1:Nat):Int)))(hf:∀x,x=m9 (rI s a)\/x=cQ s a->∀ (k:Nat),k<=17->∀ (h:aj) (e:Nat),h 1000=o->h (2000+8*e)=.dead->bF R (aA false) h e [ae x,I k] (.fn f [] [ac 1000])=some (ae (g x k),h,[])):
  ∃m,R 84 [ej s,bB a,.fn f [] [ac 1000]] [o]=some (bB m,[o])/\(fg s=true->VM s m)/\((cQ s a).all=true/\m=cu s\/(cQ s a).all=false/\fg s=true/\AC s a=true/\(m=RL s a g/\(TY (cQ s (kK s (g (cQ s a) 0))) s.p=true->(cQ s (RL s a g)).all=false)\/m=kK s (g (cQ s a) 0))):=
 afb (.inl ⟨rfl,rfl,rfl⟩) os oa ho ⟨fun _=>rfl,rfl⟩ hg hgi fun x hx k hk h e h0 _ h2=>hf x hx k hk h e h0 h2
noncomputable def ahM (s:Rs) (a:Rm):Nat->Rm->Rm
 |0,o=>o
 |k+1,o=>ahM s a k (zJ s o a)
theorem afc{s}{a}(os:OkS s)(hs:fg s=true)(ha:VM s a):∀k {o},VM s o->VM s (ahM s a k o)
 |0,_,h=>h
 |k+1,_,h=>afc os hs ha k (NX os hs h ha)
theorem an0{s}{a}{n}(os:OkS s)(hs:fg s=true)(ha:VM s a)(hn:n<=16):∀ (k i:Nat) out,i+k=n->VM s out->∀S h X,ao 0 [6,7] (aB (am R (aA false) jZ) [3,4,6,7,30,31] [3,4,6,7] S h)=X->
  S 3=ac 3->S 4=ac 4->S 6=ac 6->S 7=ac 7->S 30=I n->S 31=I i->h 3=.bx (mO s)->h 4=.bx (uj a)->h 6=.bx zM->h 7=.bx (uj out)->
  ∃hh,X=some (.normal,⟨upd (upd ce 7 (ac 7)) 6 (ac 6),hh⟩)/\hh 6=.bx zM/\hh 7=.bx (uj (ahM s a k out)):=by
 intro k;induction k with
 |zero=>
  intro i out hi ho S h X hX k3 k4 k6 k7 k30 k31 h3 h4 h6 h7;have:i=n:=ω
  subst this;subst hX;rw[ai];refine⟨?hh0,?_,?_,?_⟩;rotate_left
  ·simp only[jZ,go_sem,k3,k4,k6,k7,k30,k31,h3,h4,h6,h7,aFC];rfl
  all_goals rfl
 |succ k ih=>
  intro i out hi ho S h X hX k3 k4 k6 k7 k30 k31 h3 h4 h6 h7;have ih':=ih (i+1) (zJ s out a) ω (NX os hs ho ha);have e1:(i< (n:Int))=True:=tt;have e3:aG (i+1)=(i+1:Nat):=wi;have m1:=G6 os ho.ok ha.ok;subst hX;rw[ai];simp only[jZ,go_sem,k3,k4,k6,k7,k30,k31,h3,h4,h6,h7,e1,e3,m1];apply ih'<;>rfl
noncomputable def pwM (s:Rs) (a:Rm) (n:Int):Rm:=if(decide (0<=n)&& (decide (n<=16)&& (AC s a&&!a.R.all)))=true then ahM s a n.toNat (kK s (cY 1))else cu s
theorem Xk{s}{a}{n}(os:OkS s)(oa:OkM a):R 42 [ej s,bB a,I n] []=some (bB (pwM s a n),[]):=by
 refine au Qw rfl ?_;have hw:=zK os;have hv:=Xe os oa;unfold pwM;by_cases g1:n<0
 ·have f1:=tt g1;rw[decide_eq_false (p:=0<=n) ω,aE0,av aE3];simp only[jL,nj,go_sem,f1,hw]
 have f1:=ff g1;rw[decide_eq_true (p:=0<=n) ω,aEW];by_cases g2:16<n
 ·have f2:=tt g2;rw[decide_eq_false (p:=n<=16) ω,aE0,av aE3];simp only[jL,nj,go_sem,f1,f2,hw]
 have f2:=ff g2;rw[decide_eq_true (p:=n<=16) ω,aEW];cases g3:AC s a with
 |false=>
  rw[g3]at hv;simp only[jL,nj,go_sem,f1,f2,hw,hv]
 |true=>
 rw[g3]at hv;cases g4:a.R.all with
 |true=>
  simp only[bB,uj,g4]at hv;simp only[jL,nj,go_sem,f1,f2,hw,hv,g4]
 |false=>
 have hs:fg s=true:=by
  simp_all[AC,aEV]
 have h1:=B6 (n:=1) ⟨by decide,by decide⟩;have o1:OkI (cY 1):=gM ⟨by decide,by decide⟩;have h2:=vU os o1;obtain⟨m,rfl⟩:=aFy (show 0<=n by omega);have hL:=an0 os hs ⟨oa,g3⟩ (n:=m) ω m 0 _ (aES _) (FM os hs o1);rw[aEY];generalize kK s (cY 1)=c at*
 generalize hLL:aB (am R (aA false) jZ)=L at hL;have hX:∀s h,am R (aA false) (.loop [3,4,6,7,30,31] [3,4,6,7] jZ) s h=L [3,4,6,7,30,31] [3,4,6,7] s h:=fun s h=>by rw[←hLL];rfl
 clear hLL;simp only[ae,ah]at h1 h2;simp only[bB,uj,g4]at hv;simp only[jL,nj,go_sem,f1,f2,hv,g4,h1,h2,hX];generalize hBB:ao 0 [6,7] (L _ _ _ _)=X;obtain⟨hh,hE,k6,k7⟩:=hL _ _ _ hBB Z Z Z Z Z Z Z (by simp only[go_sem,uj,g4]) Z Z;rw[hE];simp only[go_sem,k6,k7,ge]
def RN(p:Int):Nat->Nat->Ri->Ri
 |0,_,x=>x
 |n+1,i,x=>RN p n (i+1) (bX x (cY i) p)
def ud(k:Nat)(p:Int):Ri:=RN p (k-1) 2 (cY 1)
theorem afe{p:Int}:∀ (n i:Nat) {x:Ri},OkI x->OkI (RN p n i x)
 |0,_,_,h=>h
 |n+1,i,x,_=>(afe n (i+1) iU:OkI (RN p n (i+1) (bX x (cY i) p)))
theorem ahN{n:Nat}(h:n<=100):kR (n:Int):=⟨by omega,by omega⟩
theorem CI{k:Nat}:OkI (ud k p):=afe _ _ (gM (ahN (n:=1) ω))
theorem an1{k:Nat}{p:Int}(hk:k<=50):∀ (n i:Nat) (x:Ri),OkI x->i+n=k+1->2<=i->∀ (S:aM) (h:aj) (X:Option (Ex×St)),ao 0 [4,5] (aB (am R (aA false) dY) [0,1,4,5,6] [4,5] S h)=X->
  S 0=I k->S 1=I p->S 4=ac 4->S 5=ac 5->S 6=I i->h 4=.bx [B false,.emp,I 0,B false,.emp,I 0,B false]->h 5=.bx (ah x)->
  ∃hh,X=some (.normal,⟨upd (upd ce 5 (ac 5)) 4 (ac 4),hh⟩)/\hh 4=.bx [B false,.emp,I 0,B false,.emp,I 0,B false]/\hh 5=.bx (ah (RN p n i x)):=by
 intro n;induction n with
 |zero=>
  intro i x ox hi h2 S h X hX k0 k1 k4 k5 k6 h4 h5;have e1:((i:Int)<=(k:Int))=False:=ff;subst hX;rw[ai];refine⟨?hh0,?_,?_,?_⟩;rotate_left
  ·simp only[dY,go_sem,k0,k1,k4,k5,k6,h4,h5,e1];rfl
  all_goals rfl
 |succ n ih=>
  intro i x ox hi h2 S h X hX k0 k1 k4 k5 k6 h4 h5;have ih':=ih (i+1) (bX x (cY i) p) iU ω ω;have e1:((i:Int)<=(k:Int))=True:=tt;have e3:aG ((i:Int)+1)=((i+1:Nat):Int):=wi;have q1:=B6 (n:=i) (ahN ω);have q2:=sy ox (gM (ahN (n:=i) ω)) (p:=p);rw[show RN p (n+1) i x=RN p n (i+1) (bX x (cY i) p)from rfl];subst hX;rw[ai];generalize aB _ _ _=L at ih'⊢;generalize bX x (cY i) p=y at*
  generalize cY (i:Int)=z at*
  simp only[ae,ah]at q1 q2 h5 ih';simp only[dY,go_sem,k0,k1,k4,k5,k6,h4,h5,e1,e3,q1,q2];apply ih'<;>rfl
theorem V1{k:Nat}{p:Int}(hk:k<=50):R 88 [I k,I p] []=some (ae (ud k p),[]):=by
 refine au K3 rfl ?_;have h1:=B6 (n:=1) ⟨by decide,by decide⟩;have o1:OkI (cY 1):=gM ⟨by decide,by decide⟩;have hL:∀ (S:aM) (h:aj) (X:Option (Ex×St)),ao 0 [4,5] (aB (am R (aA false) dY) [0,1,4,5,6] [4,5] S h)=X->
   S 0=I k->S 1=I p->S 4=ac 4->S 5=ac 5->S 6=I 2->h 4=.bx [B false,.emp,I 0,B false,.emp,I 0,B false]->h 5=.bx (ah (cY 1))->
   ∃hh,X=some (.normal,⟨upd (upd ce 5 (ac 5)) 4 (ac 4),hh⟩)/\hh 4=.bx [B false,.emp,I 0,B false,.emp,I 0,B false]/\hh 5=.bx (ah (ud k p)):=by
  by_cases g:1<=k
  ·exact an1 hk (k-1) 2 _ o1 ω (aET 2)
  ·intro S h X hX k0 k1 k4 k5 k6 h4 h5;have e0:k=0:=ω
   subst e0;have e1:((2:Int)<=((0:Nat):Int))=False:=ff;subst hX;rw[ai];refine⟨?hh0,?_,?_,?_⟩;rotate_left
   ·simp only[dY,go_sem,k0,k1,k4,k5,k6,h4,h5,e1];rfl
   all_goals rfl
 generalize hLL:aB (am R (aA false) dY)=L at hL;have hX:∀s h,am R (aA false) (.loop [0,1,4,5,6] [4,5] dY) s h=L [0,1,4,5,6] [4,5] s h:=fun s h=>by rw[←hLL];rfl
 clear hLL;generalize ud k p=y at*
 generalize cY 1=x at*
 simp only[ae,ah]at h1 hL;simp only[uL,Dc,ae,ah,go_sem,h1,hX];generalize hBB:ao 0 [4,5] (L _ _ _ _)=X;obtain⟨hh,hE,k4,k5⟩:=hL _ _ _ hBB Z Z Z Z Z Z Z;rw[hE];simp only[go_sem,k4,k5]
theorem kL:OkI (dC x y p):=by
 unfold dC;split
 ·split
  ·exact⟨aO.2,aO.2⟩
  ·exact ajD (fun _ _=>xQ.2) (fun _ _=>xQ.2)
 ·exact⟨aO.2,aO.2⟩
theorem arl{k:Nat}(ox:OkI x)(oy:OkI y)(hk:k<=50)(he:R 87 [ae x,I s.p] []=some (ae y,[])):R 85 [ae x,I k,ac 1000] [.bx (mO s)]=some (ae (dC y (ud k s.p) s.p),[.bx (mO s)]):=by
 refine xz QB QA (DU false) rfl ?_;have h1:=V1 (p:=s.p) hk;have h2:=sA oy CI (p:=s.p) (y:=ud k s.p);generalize dC y (ud k s.p) s.p=z at h2⊢;generalize ud k s.p=w at h1 h2;simp only[ae,ah]at he h1 h2;simp only[AG,ae,ah,go_sem,he,h1,h2];exact jY Z Z Z Z (by simp only[go_sem])
def gJ(p:Int)(x:Ri)(k:Int):Ri:=if k.toNat%2=1 then rW (dC (cY 1) (vV x (k.toNat+1) p) p)else dC (cY 1) (vV x (k.toNat+1) p) p
theorem G7{x}(ok:OkI x){n}{p}:OkI (vV x n p):=by
 grind[vV,EB,iU]
theorem awh(p)(x)(k):OkI (gJ p x k):=by
 grind[gJ,EH,kL]
theorem arm{s}{x}{k:Nat}(ox:OkI x)(hk:k<=20):R 97 [ae x,I k,ac 1000] [.bx (mO s)]=some (ae (gJ s.p x k),[.bx (mO s)]):=by
 refine xz K5 K4 (Ax false) rfl ?_;have h1:=B6 (n:=1) ⟨by decide,by decide⟩;have o1:OkI (cY 1):=gM ⟨by decide,by decide⟩;have h2:=YJ ox (p:=s.p) (n:=k+1) ω;have h3:=sA o1 (G7 ox (n:=k+1) (p:=s.p)) (p:=s.p);have w1:aG (k+1)=(k+1:Nat):=wi;have w2:(k:Int).tmod 2=(k%2:Nat):=by
  grind
 unfold gJ;rw[aEY];have od:OkI (dC (cY 1) (vV x (k+1) s.p) s.p):=kL;have h4:=G3 od;simp only[ae,ah]at h1 h2 h3 h4;by_cases g:k%2=1
 ·rw[ap g];have f:(((k%2:Nat):Int)=1)=True:=tt;simp only[oO,ae,ah,go_sem,aEP,aEO,aEN,aX,w1,w2,h1,h2,h3,h4,f];exact jY Z Z Z Z (by simp only[go_sem])
 ·rw[av g];have f:(((k%2:Nat):Int)=1)=False:=ff;simp only[oO,ae,ah,go_sem,aEP,aEO,aEN,aX,w1,w2,h1,h2,h3,f];exact jY Z Z Z Z (by simp only[go_sem])
theorem Xl{s}{a b m}(os:OkS s)(ob:OkM b)(om:OkM m)(h:R 30 [ej s,bB a] []=some (bB m,[])):R 14 [ej s,bB b,bB a] []=some (bB (if b.R.all=true then cu s else zJ s b m),[]):=by
 refine au Pq rfl ?_;have h1:=zK os;have h2:=G6 os ob om;cases g:b.R.all with
 |true=>
  simp only[sO,go_sem,aEP,aEO,aEN,aX,h1,g,ge]
 |false=>
  simp only[bB,uj,g]at h2;simp only[sO,go_sem,aEP,aEO,aEN,aX,h,h2,g,ge]
theorem nT{n}(h:kR n):R 217 [I n] []=some (ae (cY n),[]):=by
 refine au QO rfl ?_;have h1:=m8 h;have h2:=fY (jh h).2 (jh h).1;rw[show aZ (decide (n<0)) n.natAbs 0=gZ n from rfl]at h1;unfold cY m9;generalize gZ n=d at h1 h2⊢;simp only[ae,ah,af,ak]at h1 h2;simp only[AL,ae,ah,go_sem,h1,h2]
abbrev Ii(p:Int):AV:=.agg [I p]
theorem CJ{x y}{p}(ox:OkI x)(oy:OkI y):R 234 [Ii p,ae x,ae y] []=some (ae (de x y p),[]):=by
 refine au Lc rfl ?_;have h:=xN ox oy (p:=p);generalize de x y p=z at h⊢;simp only[ae,ah]at h;simp only[uZ,ae,ah,go_sem,h]
theorem Pe{x y}{p}(ox:OkI x)(oy:OkI y):R 236 [Ii p,ae x,ae y] []=some (ae (bX x y p),[]):=by
 refine au Lf rfl ?_;have h:=sy ox oy (p:=p);generalize bX x y p=z at h⊢;simp only[ae,ah]at h;simp only[u9,ae,ah,go_sem,h]
theorem Ks{x y}{p}(ox:OkI x)(oy:OkI y):R 233 [Ii p,ae x,ae y] []=some (ae (dC x y p),[]):=by
 refine au La rfl ?_;have h:=sA ox oy (p:=p);generalize dC x y p=z at h⊢;simp only[ae,ah]at h;simp only[uY,ae,ah,go_sem,h]
def smB(x:Ri)(p:Int):Bool:=decide (kl (qB x)=0)||decide (aQ (qB x)≤-p)
theorem T2{x}(ok:OkI x)(hx:kI x=true):vd (qB x)=true/\Ok0 (qB x):=by
 have h:vd x.lo=true/\vd x.hi=true:=by grind[kI,vi]
 have hv:VI x:=⟨⟨h.1,ok.lo⟩,⟨h.2,ok.hi⟩⟩;exact⟨(YG hv).1,HU (vC ok.lo) (vC ok.hi)⟩
theorem akY{x}{p}(ok:OkI x)(hx:kI x=true)(hp:0<=p/\p<=1000):R 282 [Ii p,ae x] []=some (B (smB x p),[]):=by
 refine au Bh rfl ?_;have h1:=aaZ ok hx;obtain⟨m1,m2⟩:=T2 ok hx;have h2:=tT m2 m1;have h3:=pW m2;have e1:aG (0-p)=-p:=by grind[i64_in]
 unfold smB;generalize qB x=d at*
 generalize aQ d=t at*
 generalize kl d=g at*
 simp only[ae,ah,af,ak]at h1 h2 h3;by_cases c1:g=0
 ·have f1:=tt c1;simp only[jF,ae,ah,go_sem,h1,h2,h3,f1,e1,decide_true,Bool.true_or]
 ·have f1:=ff c1;simp only[jF,ae,ah,go_sem,h1,h2,h3,f1,e1,decide_false,Bool.false_or]
def ab4(x:Ri):Ri:=⟨gW (qB x),qB x,false⟩
theorem adk{x}(ok:OkI x)(hx:kI x=true):R 283 [ae x] []=some (ae (ab4 x),[]):=by
 refine au Gt rfl ?_;have h1:=aaZ ok hx;obtain⟨m1,m2⟩:=T2 ok hx;have h2:=Dz m2;unfold ab4 gW;generalize qB x=d at*
 generalize(if vd d=false\/d.m.length=0 then aC else⟨!d.neg,d.m,d.e⟩)=n at*
 simp only[ae,ah,af,ak]at h1 h2;simp only[tq,ae,ah,go_sem,h1,h2]
def Bo(n:Nat):Nat:=if 256< (ax n).length then 0 else n
theorem FN(n:Nat):(ax (Bo n)).length<=256:=by
 unfold Bo;split
 all_goals simp_all[cO,aE9]
theorem CK(n:Nat):∃e:Int,lq n=.tup [lm (ax (Bo n)),I e]:=by
 unfold lq Bo;split
 all_goals simp_all[cO]
def tG(v:Nat)(n:Int):Nat:=if n<0\/65536<n then 0 else Bo (v*2^n.toNat)
def Ij(v:Nat)(n:Int):Nat:=if n<0\/65536<n then 0 else v/2^n.toNat
theorem DI(v:Nat)(n:Int):(ax (tG v n)).length<=256:=by
 unfold tG;split
 all_goals simp_all[cO,aE9,FN]
theorem DJ{a b:Nat}(h:a<=b):(ax a).length<=(ax b).length:=eN (aFl h (fJ b))
theorem ahO(v:Nat)(n:Int):Ij v n<=v:=by
 unfold Ij;split
 all_goals simp_all[aF1]
theorem wM{m:List Nat}(hb:Lb m)(h1:m.length<=256){n:Int}:R 314 [lm m,I n] []=some (lm (ax (tG (ab m) n)),[]):=by
 refine au Yn rfl ?_;have h:=aaN (n:=n) hb h1;unfold tG;split
 ·rename_i c;rw[ap c]at h;simp only[Ak,go_sem,h,cO]
 ·rename_i c;rw[av c]at h;obtain⟨e,he⟩:=CK (ab m*2^n.toNat);rw[he]at h;simp only[Ak,go_sem,h]
theorem FO{m:List Nat}(hb:Lb m)(h1:m.length<=256){n:Int}:R 315 [lm m,I n] []=some (lm (ax (Ij (ab m) n)),[]):=by
 refine au U5 rfl ?_;have h:=aaP (n:=n) hb h1;unfold Ij;split
 ·rename_i c;rw[ap c]at h;simp only[yz,go_sem,h,cO]
 ·rename_i c;rw[av c]at h;simp only[yz,go_sem,h]
abbrev Fx:=Bool×Nat
def dw(x:Fx):List AV:=[B x.1,lm (ax x.2)]
def cw(x:Fx):AV:=.agg (dw x)
def dS(x:Fx):Prop:=(ax x.2).length<=256
theorem Ik{x:Fx}(k:dS x):R 321 [cw x] []=some (B (decide (x.2=0)),[]):=by
 refine au Ng rfl ?_;have h:=Cs (aH x.2) (aEX k δ);rw[aJ]at h;have e:((ag x.2:Int)=0)=(x.2=0):=by
  grind[ag,fE,absurd]
 simp only[xV,cw,dw,go_sem,h,e]
theorem zL{x:Fx}:R 311 [cw x] []=some (cw (!x.1,x.2),[]):=by
 refine au Mu rfl ?_;simp only[wC,cw,dw,go_sem]
def nJ(x y:Fx):Fx:=if x.1=y.1 then(x.1,Bo (x.2+y.2))else if x.2<y.2 then(y.1,Bo (y.2-x.2))else(x.1,Bo (x.2-y.2))
theorem qf(x y:Fx):dS (nJ x y):=by
 unfold nJ;split
 ·exact FN _
 ·split<;>exact FN _
theorem Kt{a b:Nat}:((dM a b:Int)<0)=(a<b):=by
 grind[dM,absurd]
theorem bq1:(false !=true)=true:=rfl
theorem bq2:(false !=false)=false:=rfl
theorem mG{x y:Fx}(kx:dS x)(ky:dS y):R 320 [cw x,cw y] []=some (cw (nJ x y),[]):=by
 refine au PF rfl ?_;have hc:=tC (aH x.2) (aH y.2) (aEX kx δ) (aEX ky δ);have ha:=aaI (aH x.2) (aH y.2) kx ky;have h1:=Tj (aH x.2) (aH y.2) kx ky;have h2:=Tj (aH y.2) (aH x.2) ky kx;simp only[aJ]at hc ha h1 h2;obtain⟨e1,d1⟩:=CK (x.2+y.2);obtain⟨e2,d2⟩:=CK (x.2-y.2);obtain⟨e3,d3⟩:=CK (y.2-x.2);rw[d1]at ha;rw[d2]at h1;rw[d3]at h2;obtain⟨s,a⟩:=x;obtain⟨t,b⟩:=y;unfold nJ;by_cases c:s=t
 ·subst c;cases s<;>simp only[nZ,cw,dw,go_sem,ha,beq_self_eq_true,bq1]
 rw[av c];have hs:(s==t)=false:=beq_eq_false_iff_ne.2 c;by_cases d:a<b
 ·have f1:=tt (Kt.symm▸d:(dM a b:Int)<0);rw[ap d];rw[av ω]at h2;simp only[nZ,cw,dw,go_sem,hc,f1,h2,hs,bq2,decide_true]
 ·have f1:=ff (Kt.symm▸d:¬ (dM a b:Int)<0);rw[av d];rw[av d]at h1;simp only[nZ,cw,dw,go_sem,hc,f1,h1,hs,bq2,decide_false]
def T3(x y:Fx)(b:Int):Fx:=(x.1 !=y.1,Ij (Bo (x.2*y.2)) b)
theorem T4(x y:Fx)(b:Int):dS (T3 x y b):=aEX (DJ (ahO _ _)) (FN _)
theorem NY{x y:Fx}(kx:dS x)(ky:dS y){b:Int}:R 317 [cw x,cw y,I b] []=some (cw (T3 x y b),[]):=by
 refine au Mv rfl ?_;have h1:=J6 (aH x.2) (aH y.2) kx ky;simp only[aJ]at h1;obtain⟨e1,d1⟩:=CK (x.2*y.2);rw[d1]at h1;have h2:=FO (aH (Bo (x.2*y.2))) (FN _) (n:=b);rw[aJ]at h2;unfold T3;simp only[wD,cw,dw,go_sem,h1,h2,show∀a b:Bool,(true != (a==b))=(a !=b)from fun a b=>by cases a<;>cases b<;>rfl]
def Gw(n:Int):Fx:=((gZ n).neg,tG (ab (gZ n).m) (gZ n).e)
theorem arn{n:Int}(h:kR n):(gZ n).m.length<=256:=by
 obtain⟨h1,h2⟩:=jh h;exact aEX (vB h1 h2.lb) δ
theorem ahP(n:Int):dS (Gw n):=DI _ _
theorem NZ{n:Int}(h:kR n):R 316 [I n] []=some (cw (Gw n),[]):=by
 refine au U6 rfl ?_;have h1:=m8 h;rw[show aZ (decide (n<0)) n.natAbs 0=gZ n from rfl]at h1;have h2:=wM (jh h).2.lb (arn h) (n:=(gZ n).e);unfold Gw;simp only[af,ak]at h1;simp only[Dq,cw,dw,go_sem,h1,h2]
def mdN(a b:Nat):Nat:=if b=0 then 0 else a%b
theorem Xm{a:Nat}(h:(ax a).length<=256):R 189 [lm (ax a)] []=some (lm (ax a),[]):=by
 by_cases c:ax a=[]
 ·rw[c,Tw (g:=clU) κ];rfl
 grind[HO]
theorem ab5{a b:Nat}(h1:(ax a).length<=256)(h2:(ax b).length<=256)(hl:a<b):R 307 [lm (ax a),lm (ax b)] []=some (.tup [lm [],lm (ax a)],[]):=by
 refine au wG rfl ?_;have t1:=cI (aH a) ω;have t2:=cI (aH b) ω;have hc:=tC (aH a) (aH b) ω ω;rw[aJ]at t1 t2;rw[aJ,aJ]at hc;have e1:=tt (Kt.symm▸hl:(dM a b:Int)<0);have h3:=Xm h1;simp only[mB,rB,go_sem,t1,t2,hc,e1,h3]
theorem ahQ{a b:Nat}(h1:(ax a).length<=256)(h2:(ax b).length<=256):∃e:Int,R 266 [lm (ax a),lm (ax b)] []=some (.tup [lm (ax (a/b)),lm (ax (mdN a b)),I e],[]):=by
 unfold mdN;by_cases c:b=0
 ·subst c;refine⟨10,au BR rfl ?_⟩;have e1:(256< (ax a).length)=False:=ff;have t2:=cI (aH 0) ω;rw[aJ]at t2;rw[ap rfl,Nat.div_zero];have hl:=tP (ax a) (ax 0);rw[cO]at*
  simp only[pR,go_sem,hl,e1,t2,aFs,Nat.not_lt_zero];rfl
 rw[av c];by_cases d:a<b
 ·refine⟨0,au BR rfl ?_⟩;have e1:(256< (ax a).length)=False:=ff;have e2:(256< (ax b).length)=False:=ff;have t1:=cI (aH a) ω;have t2:=cI (aH b) ω;have t0:=cI (m:=[]) JV δ;rw[aJ]at t1 t2;have hd:=ab5 h1 h2 d;rw[Nat.div_eq_of_lt d,aFG d,cO];have e3:(((ax b).length:Int)=0)=False:=eq_false fun h=>c (sj.1 (List.length_eq_zero_iff.1 ω));rw[show ax (ab [])=[]from cO]at t0;simp only[pR,go_sem,e1,e2,e3,tP,t0,t1,t2,hd,Ox]
 simp_all[WV,aH,aJ]
def Il(x:Fx)(n:Int):Fx:=(x.1,x.2/ (Gw n).2)
theorem Pf{x:Fx}(k:dS x)(n:Int):dS (Il x n):=aEX (DJ (aF1 _ _)) k
theorem N0{x:Fx}(k:dS x){n:Int}(h:kR n):R 333 [cw x,I n] []=some (cw (Il x n),[]):=by
 refine au QZ rfl ?_;have h1:=NZ h;obtain⟨e,h2⟩:=ahQ (a:=x.2) (b:=(Gw n).2) k (ahP n);unfold Il;simp only[AS,cw,dw,go_sem,h1,h2]
def fOf(d:Rd)(b:Int):Fx:=(d.neg,if d.e+b<0 then Ij (ab d.m) (0- (d.e+b))else tG (ab d.m) (d.e+b))
theorem ahR(ok:Ok0 d)(h:d.m.length<=256)(b:Int):dS (fOf d b):=by
 unfold fOf dS;split
 ·refine aEX (DJ (ahO _ _)) ?_;exact aEX (eN (ft ok.lb)) h
 grind[DI]
theorem ab7(ok:Ok0 d)(v:vd d=true){b:Int}(hb:-100000<=b/\b<=100000):R 319 [af d,I b] []=some (cw (fOf d b),[]):=by
 refine au adb rfl ?_;obtain⟨q0,q1,q2,q3⟩:=dT v ok.lb;have e1:aG (d.e+b)=d.e+b:=by grind[i64_in]
 have e2:aG (0- (d.e+b))=0- (d.e+b):=by grind[i64_in]
 have hl:d.m.length<=256:=ω
 have h1:=FO ok.lb hl (n:=0- (d.e+b));have h2:=wM ok.lb hl (n:=d.e+b);unfold fOf;by_cases c:d.e+b<0
 ·have f1:=tt c;simp only[Dr,cw,dw,af,ak,go_sem,e1,e2,f1,h1]
 ·have f1:=ff c;simp only[Dr,cw,dw,af,ak,go_sem,e1,e2,f1,h2]
theorem GO(z):kR (IntKind.i64.wrap z):=by
 rw[IntKind.wrap_i64];exact⟨by omega,by omega⟩
theorem RP(n):OC (.bx [I n]):=⟨fun _=>rfl,rfl,fun _=>rfl,rfl⟩
theorem ao9(x):RT (cw x):=⟨fun _=>rfl,fun _ _=>rfl,fun _=>rfl⟩
theorem an2{x}(k:dS x){n}:R 341 [cw x,ac 1000] [.bx [I n]]=some (cw (Il x (IntKind.i64.wrap (n*n))),[.bx [I n]]):=by
 refine xz Ni Nh (Co false) rfl ?_;have h:=N0 k (GO (n*n));simp only[cw,dw]at h;simp only[xX,cw,dw,go_sem,h];exact jY Z Z Z Z (by simp only[go_sem])
theorem Xn{x}(k:dS x){n}{h}{d}(hh:h 1000=.bx [I n])(hd:h (2000+8*d)=.dead):bF R (aA false) h d [cw x] (.fn 341 [] [ac 1000])=some (cw (Il x (IntKind.i64.wrap (n*n))),h,[]):=by
 have q:=NF (f:=341) (h:=h) (d:=d) (id:=1000) (zas:=[cw x]) (as':=[cw x]) (FB false) (Co false) (by simp only[cw,dw,go_sem,aFb,aE5]) Z Z hh (RP n) (RP n) (fun h=>h) (an2 k) (ao9 _) (aFp rfl) (by
  show bV h (2000+8*d) 1=true;grind[bV,bS])
 grind[Kr]
theorem atX{x}{n}(hx:x.2≠0)(hn:2<=(Gw n).2):(Il x n).2<x.2:=Nat.div_lt_self ω ω
theorem afg{n}{x s}{k}(z:(Il x (IntKind.i64.wrap (n*n))).2=0)(kx:dS x)(ks:dS s)(S)(h)(X)(hX:ao 0 [4] (aB (am R (aA false) dZ) [1,2,4,5,6] [2,4,5,1000] S h)=X)
  (k1:S 1=.fn 341 [] [ac 1000]) (k2:S 2=ac 2) (k4:S 4=ac 4) (k5:S 5=ac 5) (k6:S 6=I k) (h2:h 2=.bx (dw x)) (h4:h 4=.bx [B false,.emp]) (h5:h 5=.bx (dw s)) (h0:h 1000=.bx [I n]):
  ∃y,dS y/\∃ss hh,X=some (.ret,⟨ss,hh⟩)/\ss 4=ac 4/\hh 4=.bx (dw y)/\hh 1000=.bx [I n]:=by
 subst hX;rw[ai];have q1:=fun(h:aj) d (hh:h 1000=.bx [I n]) (hd:h (2000+8*d)=.dead)=>Xn kx hh hd;have kb:=Pf kx (IntKind.i64.wrap (n*n));have q2:=Ik kb;have e1:=tt z;refine⟨s,ks,?ss0,?hh0,?_,?_,?_,?_⟩;rotate_left 2
 ·simp only[cw,dw]at q1 q2 h2 h5;simp only[dZ,go_sem,aEP,aEO,aEN,aX,k1,k2,k4,k5,k6,h2,h4,h5,h0];rw[q1 _ _ Z Z];simp only[go_sem,q2,e1,decide_true];rfl
 all_goals rfl
theorem an3{n}(hn:2<=(Gw (IntKind.i64.wrap (n*n))).2):∀f x s k,x.2<=f->dS x->dS s->∀S h X,ao 0 [4] (aB (am R (aA false) dZ) [1,2,4,5,6] [2,4,5,1000] S h)=X->
  S 1=.fn 341 [] [ac 1000]->S 2=ac 2->S 4=ac 4->S 5=ac 5->S 6=I k->h 2=.bx (dw x)->h 4=.bx [B false,.emp]->h 5=.bx (dw s)->h 1000=.bx [I n]->
  ∃y,dS y/\∃ss hh,X=some (.ret,⟨ss,hh⟩)/\ss 4=ac 4/\hh 4=.bx (dw y)/\hh 1000=.bx [I n]:=by
 intro f;induction f with
 |zero=>
  intro x s k hf kx ks S h X hX k1 k2 k4 k5 k6 h2 h4 h5 h0;refine afg ?_ kx ks S h X hX k1 k2 k4 k5 k6 h2 h4 h5 h0;show x.2/_=0
  simp_all
 |succ f ih=>
  intro x s k hf kx ks S h X hX k1 k2 k4 k5 k6 h2 h4 h5 h0;by_cases z:(Il x (IntKind.i64.wrap (n*n))).2=0
  ·exact afg z kx ks S h X hX k1 k2 k4 k5 k6 h2 h4 h5 h0
  have hx:x.2≠0:=fun h=>z (by
   show x.2/_=0
   simp_all)
  have lt:=atX hx hn;have q1:=fun(h:aj) d (hh:h 1000=.bx [I n]) (hd:h (2000+8*d)=.dead)=>Xn kx hh hd;have kb:=Pf kx (IntKind.i64.wrap (n*n));have q2:=Ik kb;have e1:=ff z;subst hX;rw[ai];generalize Il x (IntKind.i64.wrap (n*n))=y at*
  have q3:=N0 kb (GO (IntKind.i64.wrap (2*k)+1));have k3:=Pf kb (IntKind.i64.wrap (IntKind.i64.wrap (2*k)+1));generalize Il y (IntKind.i64.wrap (IntKind.i64.wrap (2*k)+1))=t at*
  by_cases c:k.tmod 2=1
  ·have e2:=tt c;have q4:=zL (x:=t);have q5:=mG ks (y:=(!t.1,t.2)) k3;have ih':=ih y (nJ s (!t.1,t.2)) (IntKind.i64.wrap (k+1)) ω kb (qf _ _);simp only[cw,dw]at q1 q2 q3 q4 q5 h2 h5 ih';simp only[dZ,go_sem,aEP,aEO,aEN,aX,k1,k2,k4,k5,k6,h2,h4,h5,h0];rw[q1 _ _ Z Z];simp only[go_sem,aEP,aEO,aEN,aX,q2,q3,q4,q5,e1,e2];apply ih'<;>rfl
  ·have e2:=ff c;have q5:=mG ks (y:=t) k3;have ih':=ih y (nJ s t) (IntKind.i64.wrap (k+1)) ω kb (qf _ _);simp only[cw,dw]at q1 q2 q3 q5 h2 h5 ih';simp only[dZ,go_sem,aEP,aEO,aEN,aX,k1,k2,k4,k5,k6,h2,h4,h5,h0];rw[q1 _ _ Z Z];simp only[go_sem,aEP,aEO,aEN,aX,q2,q3,q5,e1,e2];apply ih'<;>rfl
theorem atY{n}(hn:2<=(Gw (IntKind.i64.wrap (n*n))).2){x}(kx:dS x):∃y,dS y/\R 340 [cw x,.fn 341 [] [ac 1000]] [.bx [I n]]=some (cw y,[.bx [I n]]):=by
 have hL:=an3 hn x.2 x x 1 (aET _) kx kx;generalize hLL:aB (am R (aA false) dZ)=L at hL;have hX:∀s h,am R (aA false) (.loop [1,2,4,5,6] [2,4,5,1000] dZ) s h=L [1,2,4,5,6] [2,4,5,1000] s h:=fun s h=>by rw[←hLL];rfl
 have key:∃y,dS y/\fk false [[.o 0 [],.o 2 []]] [.cell 4 2 true] 1 (am R (aA false) oT.body (iW [cw x,.fn 341 [] [ac 1000]]) (upd (fun _=>.dead) 1000 (.bx [I n])))=some (cw y,[.bx [I n]]):=by
  simp only[oT,Dt,cw,dw,go_sem,hX];generalize hBB:ao 0 [4] (L _ _ _ _)=X;obtain⟨y,ky,ss,hh,hE,s4,g4,g0⟩:=hL _ _ _ hBB Z Z Z Z Z Z Z Z Z;refine⟨y,ky,?_⟩;rw[hE];simp only[go_sem,s4,g4];exact jY rfl g0 Z Z (by simp only[go_sem])
 obtain⟨y,ky,hy⟩:=key;exact⟨y,ky,tE lX.2.1 lX.2.2 (lX.1.2.2.2 false) rfl hy⟩
theorem T5{n b}(hi:kR n)(hn:2<=(Gw (IntKind.i64.wrap (n*n))).2):∃y,dS y/\R 334 [I n,I b] []=some (cw y,[]):=by
 have h1:=wM (m:=[1]) HQ δ (n:=b);have k1:dS (false,tG (ab [1]) b):=DI _ _;have h2:=N0 k1 hi;obtain⟨y,ky,hy⟩:=atY (n:=n) hn (Pf k1 n);refine⟨y,ky,au Q0 rfl ?_⟩;have hcc:=fun h d hh (hf:h (2000+8*d)=.dead)=>B3 (f:=340) (g:=341) (h:=h) (d:=d) (id:=2) (zas:=[cw (Il (false,tG (ab [1]) b) n)]) (as':=[cw (Il (false,tG (ab [1]) b) n)]) (lX.1.2.1 false) (lX.1.2.2.2 false)
  (by simp only[cw,dw,go_sem,aFb,aE5]) Z Z hh (RP _) (RP _) (fun h=>h) hy (ao9 _) (aFp rfl) (by show bV h (2000+8*d) 1=true;grind[bV,bS])
 simp only[aFb,aE5,cw,dw,go_sem]at hcc;simp only[cw,dw]at h2;simp only[AT,cw,dw,go_sem,oj,h1,h2];rw[hcc _ _ Z Z];simp only[go_sem]
theorem apa{n}(h:kR n):(Gw n).2=n.natAbs:=by
 unfold Gw gZ;by_cases g:n.natAbs=0
 ·grind[kT,tG,Bo,aC,ab,cO]
 have hl:n.natAbs<2^64:=by
  obtain⟨h1,h2⟩:=h;omega
 have ht:=agT g hl;have hd:=(Cj g).1;have hk:(ax n.natAbs).length<=2:=eN (aFQ hl δ);rw[l7 g];simp only[aJ];unfold tG;unfold Bo;grind
theorem akZ{n m}(e:IntKind.i64.wrap (n*n)=m)(h:2<=m/\m<=100000):2<=(Gw (IntKind.i64.wrap (n*n))).2:=by
 grind[apa,GO]
theorem apb{b}:∃y,dS y/\R 313 [I b] []=some (cw y,[]):=by
 obtain⟨x,kx,h1⟩:=T5 (n:=5) (b:=b) ⟨by decide,by decide⟩ (akZ (m:=25) δ δ);obtain⟨y,ky,h2⟩:=T5 (n:=239) (b:=b) ⟨by decide,by decide⟩ (akZ (m:=57121) δ δ);have h3:=wM (aH x.2) kx (n:=4);have h4:=wM (aH y.2) ky (n:=2);rw[aJ]at h3 h4;have u1:dS (false,tG x.2 4):=DI x.2 4;have u2:dS (true,tG y.2 2):=DI y.2 2;have h5:=mG u1 u2;refine⟨nJ (false,tG x.2 4) (true,tG y.2 2),qf _ _,au ada rfl ?_⟩;simp only[cw,dw]at h1 h2 h5;simp only[Hz,cw,dw,go_sem,h1,h2,h3,h4,h5]
def IsF(c:List AV)(y:Fx):Prop:=c=dw y\/c=[B false,.emp]/\y=(false,0)
theorem afh{x t c s0}{sn}{b k}(hs:IsF sn s0)(z:(Il (T3 t x b) k).2=0)(hk:kR k)(kx:dS x)(kt:dS t)(kc:dS c)(ks:dS s0)(S)(h)(X)(hX:ao 0 [4,5] (aB (am R (aA false) cW) [1,2,4,5,7,8] [2,4,5,7] S h)=X)
  (k1:S 1=I b) (k2:S 2=ac 2) (k4:S 4=ac 4) (k5:S 5=ac 5) (k7:S 7=ac 7) (k8:S 8=I k) (h2:h 2=.bx (dw x)) (h4:h 4=.bx sn) (h5:h 5=.bx (dw c)) (h7:h 7=.bx (dw t)):
  ∃y z yn,dS y/\dS z/\IsF yn y/\∃ss hh,X=some (.ret,⟨ss,hh⟩)/\ss 4=ac 4/\ss 5=ac 5/\hh 4=.bx yn/\hh 5=.bx (dw z):=by
 subst hX;rw[ai];have q1:=NY kt kx (b:=b);have q2:=N0 (T4 t x b) hk;have q3:=Ik (Pf (T4 t x b) k);have e1:=tt z;rcases hs with rfl| ⟨rfl,rfl⟩
 ·refine⟨s0,c,dw s0,ks,kc,.inl rfl,?ss0,?hh0,?_,?_,?_,?_,?_⟩;rotate_left 2
  ·simp only[cw,dw]at q1 q2 q3 h2 h4 h5 h7;simp only[cW,go_sem,k1,k2,k4,k5,k7,k8,h2,h4,h5,h7,q1,q2,q3,e1,decide_true];rfl
  all_goals rfl
 ·refine⟨(false,0),c,[B false,.emp],ks,kc,.inr ⟨rfl,rfl⟩,?ss1,?hh1,?_,?_,?_,?_,?_⟩;rotate_left 2
  ·simp only[cw,dw]at q1 q2 q3 h2 h4 h5 h7;simp only[cW,go_sem,k1,k2,k4,k5,k7,k8,h2,h4,h5,h7,q1,q2,q3,e1,decide_true];rfl
  all_goals rfl
theorem an4{x}{b}(kx:dS x):∀ (f:Nat) t c s0 sn k,IsF sn s0->kR k->(k+f) %18446744073709551616=0->dS t->dS c->dS s0->∀S h X,ao 0 [4,5] (aB (am R (aA false) cW) [1,2,4,5,7,8] [2,4,5,7] S h)=X->
  S 1=I b->S 2=ac 2->S 4=ac 4->S 5=ac 5->S 7=ac 7->S 8=I k->h 2=.bx (dw x)->h 4=.bx sn->h 5=.bx (dw c)->h 7=.bx (dw t)->
  ∃y z yn,dS y/\dS z/\IsF yn y/\∃ss hh,X=some (.ret,⟨ss,hh⟩)/\ss 4=ac 4/\ss 5=ac 5/\hh 4=.bx yn/\hh 5=.bx (dw z):=by
 intro f;induction f with
 |zero=>
  intro t c s0 sn k hs hk hf kt kc ks S h X hX k1 k2 k4 k5 k7 k8 h2 h4 h5 h7;refine afh hs ?_ hk kx kt kc ks S h X hX k1 k2 k4 k5 k7 k8 h2 h4 h5 h7;have n0:k=0:=by
   obtain⟨a,b⟩:=hk;omega
  subst n0;show(T3 t x b).2/ (Gw 0).2=0
  simp_all[apa,Nat.div_zero]
 |succ f ih=>
  intro t c s0 sn k hs hk hf kt kc ks S h X hX k1 k2 k4 k5 k7 k8 h2 h4 h5 h7;by_cases z:(Il (T3 t x b) k).2=0
  ·exact afh hs z hk kx kt kc ks S h X hX k1 k2 k4 k5 k7 k8 h2 h4 h5 h7
  have q1:=NY kt kx (b:=b);have kw:=Pf (T4 t x b) k;have q2:=N0 (T4 t x b) hk;have q3:=Ik kw;have e1:=ff z;subst hX;rw[ai];have hf':(IntKind.i64.wrap (k+1)+f) %18446744073709551616=0:=by
   grind[IntKind.wrap_i64]
  clear z;generalize Il (T3 t x b) k=w at*
  generalize T3 t x b=v at*
  have q4:=zL (x:=w);have kw':dS (!w.1,w.2):=kw;by_cases c1:2<=k.tmod 4
  ·have f1:=tt c1;by_cases c2:k.tmod 2=1
   ·have f2:=tt c2;have q5:=mG ks kw';have ih':=ih w c (nJ s0 (!w.1,w.2)) (dw (nJ s0 (!w.1,w.2))) (IntKind.i64.wrap (k+1)) (.inl rfl) (GO _) hf' kw kc (qf _ _);generalize aB _ _ _=L at ih'⊢;rcases hs with rfl| ⟨rfl,rfl⟩
    ·generalize nJ s0 (!w.1,w.2)=u at*
     simp only[cw,dw]at q1 q2 q3 q4 q5 h2 h4 h5 h7 ih';simp only[cW,go_sem,aEP,aEO,aEN,aX,k1,k2,k4,k5,k7,k8,h2,h4,h5,h7,q1,q2,q3,q4,q5,e1,f1,f2];apply ih'<;>rfl
    ·generalize nJ (false,0) (!w.1,w.2)=u at*
     simp only[cw,dw,cO]at q1 q2 q3 q4 q5 h2 h4 h5 h7 ih';simp only[cW,go_sem,aEP,aEO,aEN,aX,k1,k2,k4,k5,k7,k8,h2,h4,h5,h7,q1,q2,q3,q4,q5,e1,f1,f2];apply ih'<;>rfl
   ·have f2:=ff c2;have q5:=mG kc kw';have ih':=ih w (nJ c (!w.1,w.2)) s0 sn (IntKind.i64.wrap (k+1)) hs (GO _) hf' kw (qf _ _) ks;generalize nJ c (!w.1,w.2)=u at*
    generalize aB _ _ _=L at ih'⊢;rcases hs with rfl| ⟨rfl,rfl⟩
    all_goals
     simp only[cw,dw]at q1 q2 q3 q4 q5 h2 h4 h5 h7 ih';simp only[cW,go_sem,aEP,aEO,aEN,aX,k1,k2,k4,k5,k7,k8,h2,h4,h5,h7,q1,q2,q3,q4,q5,e1,f1,f2];apply ih'<;>rfl
  ·have f1:=ff c1;by_cases c2:k.tmod 2=1
   ·have f2:=tt c2;have q5:=mG ks kw;have ih':=ih w c (nJ s0 w) (dw (nJ s0 w)) (IntKind.i64.wrap (k+1)) (.inl rfl) (GO _) hf' kw kc (qf _ _);generalize aB _ _ _=L at ih'⊢;rcases hs with rfl| ⟨rfl,rfl⟩
    ·generalize nJ s0 w=u at*
     simp only[cw,dw]at q1 q2 q3 q4 q5 h2 h4 h5 h7 ih';simp only[cW,go_sem,aEP,aEO,aEN,aX,k1,k2,k4,k5,k7,k8,h2,h4,h5,h7,q1,q2,q3,q4,q5,e1,f1,f2];apply ih'<;>rfl
    ·generalize nJ (false,0) w=u at*
     simp only[cw,dw,cO]at q1 q2 q3 q4 q5 h2 h4 h5 h7 ih';simp only[cW,go_sem,aEP,aEO,aEN,aX,k1,k2,k4,k5,k7,k8,h2,h4,h5,h7,q1,q2,q3,q4,q5,e1,f1,f2];apply ih'<;>rfl
   ·have f2:=ff c2;have q5:=mG kc kw;have ih':=ih w (nJ c w) s0 sn (IntKind.i64.wrap (k+1)) hs (GO _) hf' kw (qf _ _) ks;generalize nJ c w=u at*
    generalize aB _ _ _=L at ih'⊢;rcases hs with rfl| ⟨rfl,rfl⟩
    all_goals
     simp only[cw,dw]at q1 q2 q3 q4 q5 h2 h4 h5 h7 ih';simp only[cW,go_sem,aEP,aEO,aEN,aX,k1,k2,k4,k5,k7,k8,h2,h4,h5,h7,q1,q2,q3,q4,q5,e1,f1,f2];apply ih'<;>rfl
theorem ak0{x}{b}(kx:dS x):∃y z,dS y/\dS z/\R 310 [cw x,I b] []=some (.tup [cw y,cw z],[]):=by
 have h1:=wM (m:=[1]) HQ δ (n:=b);have k1:dS (false,tG (ab [1]) b):=DI _ _;have k0:=by
  show(ax 0).length<=256;grind[cO]
 have hL:=an4 kx (b:=b) 18446744073709551615 (false,tG (ab [1]) b) (false,tG (ab [1]) b) (false,0) [B false,.emp] 1 (.inr ⟨rfl,rfl⟩) ⟨by decide,by decide⟩ δ k1 k1 k0;have key:∃y z,dS y/\dS z/\fk false nD.rs nD.res 0 (am R (aA false) nD.body (iW [cw x,I b]) (fun _=>.dead))=some (.tup [cw y,cw z],[]):=by
  generalize hLL:aB (am R (aA false) cW)=L at hL;have hX:∀s h,am R (aA false) (.loop [1,2,4,5,7,8] [2,4,5,7] cW) s h=L [1,2,4,5,7,8] [2,4,5,7] s h:=fun s h=>by rw[←hLL];rfl
  simp only[nD,IJ,cw,dw,go_sem,oj,h1,hX];generalize hBB:ao 0 [4,5] (L _ _ _ _)=X;obtain⟨y,z,yn,ky,kz,hy,ss,hh,hE,s4,s5,g4,g5⟩:=hL _ _ _ hBB Z Z Z Z Z Z Z Z Z Z;refine⟨y,z,ky,kz,?_⟩;rw[hE];rcases hy with rfl| ⟨rfl,rfl⟩
  ·simp only[dw]at g4 g5;simp only[go_sem,s4,s5,g4,g5]
  ·simp only[dw]at g5;simp only[go_sem,s4,s5,g4,g5,cO]
 obtain⟨y,z,ky,kz,hy⟩:=key;exact⟨y,z,ky,kz,au Tc rfl hy⟩
theorem ab8{neg}{n}(h:(ax n).length<=256){e}:∃r,Ok0 r.1/\R 323 [B neg,lm (ax n),I e] []=some (rV r,[]):=by
 have h1:=adU (neg:=neg) (e:=e) (aH n) ω;rw[aJ]at h1;by_cases c:256< (ax n).length\/e< -32768\/32768<e
 ·rw[ap c]at h1;exact⟨(aC,1),aO.2,h1⟩
 ·rw[av c]at h1;have hb:=HP (aH n);rw[aJ]at hb;have ok:Ok0 (aZ neg n e):=⟨sx _ _ _,aFl (pq (k:=256) ω) δ⟩;split at h1
  ·exact⟨(aZ neg n e,0),ok,h1⟩
  ·exact⟨(aC,9),aO.2,h1⟩
theorem LL{a}{b p}(k:dS a)(hb:-100000<=b/\b<=100000):∃y,OkI y/\R 312 [cw a,I b,I p] []=some (ae y,[]):=by
 have h1:=wM (m:=[1]) HQ δ (n:=24);have kv:dS (false,tG (ab [1]) 24):=DI (ab [1]) 24;have kw:dS (true,tG (ab [1]) 24):=kv;have h2:=zL (x:=(false,tG (ab [1]) 24));have h3:=mG k kw;have h4:=mG k kv;have k3:=qf a (true,tG (ab [1]) 24);have k4:=qf a (false,tG (ab [1]) 24);clear kv kw;generalize nJ a (true,tG (ab [1]) 24)=lo at*
 generalize nJ a (false,tG (ab [1]) 24)=hi at*
 have e1:aG (0-b)=0-b:=by grind[i64_in]
 obtain⟨r,or,h5⟩:=ab8 (neg:=lo.1) k3 (e:=0-b);obtain⟨q,oq,h6⟩:=ab8 (neg:=hi.1) k4 (e:=0-b);have hw:=dW;obtain⟨r1,r2⟩:=r;obtain⟨q1,q2⟩:=q;have h7:=IX or (p:=p);have h8:=OD oq (p:=p);have o7:Ok0 (bY r1 p false).1:=At;have o8:Ok0 (bY q1 p true).1:=At;simp only at or oq h7 h8;generalize bY r1 p false=s at*
 generalize bY q1 p true=t at*
 obtain⟨s1,s2⟩:=s;obtain⟨t1,t2⟩:=t;simp only[cw,dw,rV,af,ak,ae,ah,bt,aC]at h2 h3 h4 h5 h6 h7 h8 hw;have fin:∀y,OkI y->fk false ij.rs ij.res 0 (am R (aA false) ij.body (iW [cw a,I b,I p]) (fun _=>.dead))=some (ae y,[])->∃y,OkI y/\R 312 [cw a,I b,I p] []=some (ae y,[]):=fun y oy h=>⟨y,oy,au Ym rfl h⟩;by_cases c1:r2=0
 ·have f1:=tt c1;by_cases c2:q2=0
  ·have f2:=tt c2;by_cases c3:s2=0
   ·have f3:=tt c3;by_cases c4:t2=0
    ·have f4:=tt c4;refine fin ⟨s1,t1,false⟩ ⟨o7,o8⟩ ?_;simp only[ij,cw,dw,ae,ah,go_sem,oj,h1,h2,h3,h4,h5,h6,h7,h8,hw,e1,f1,f2,f3,f4]
    ·have f4:=ff c4;refine fin bt gX.ok' ?_;simp only[ij,cw,dw,ae,ah,bt,aC,go_sem,oj,h1,h2,h3,h4,h5,h6,h7,h8,hw,e1,f1,f2,f3,f4]
   ·have f3:=ff c3;refine fin bt gX.ok' ?_;simp only[ij,cw,dw,ae,ah,bt,aC,go_sem,oj,h1,h2,h3,h4,h5,h6,h7,h8,hw,e1,f1,f2,f3]
  ·have f2:=ff c2;refine fin bt gX.ok' ?_;simp only[ij,cw,dw,ae,ah,bt,aC,go_sem,oj,h1,h2,h3,h4,h5,h6,hw,e1,f1,f2]
 ·have f1:=ff c1;refine fin bt gX.ok' ?_;simp only[ij,cw,dw,ae,ah,bt,aC,go_sem,oj,h1,h2,h3,h4,h5,h6,hw,e1,f1]
theorem YK{d}(ok:Ok0 d)(v:vd d=true):-100000<=aQ d/\aQ d<=30000:=by
 obtain⟨_,h1,h2,h3⟩:=dT v ok.lb;grind[aQ]
theorem an5{s}{v}{n}(h:(ax v).length<=256):dS (s,Ij v n):=aEX (DJ (ahO v n)) h
theorem atZ{s}{a c}(h:(ax a).length<=256):dS (s,a/c):=aEX (DJ (aF1 a c)) h
theorem ahS{d}{b}(ok:Ok0 d)(v:vd d=true)(hb:-10000<=b/\b<=10000):∃ (r:Fx) (k:Int),dS r/\R 309 [af d,I b] []=some (.tup [cw r,I k],[]):=by
 have h1:=pW ok;have tb:=YK ok v;obtain⟨T,hT⟩:∃T,(if aQ d<0 then 0 else aQ d)=T:=⟨_,rfl⟩;have e1:aG (b+T)=b+T:=by grind[i64_in]
 have e2:aG (b+T+40)=b+T+40:=by grind[i64_in]
 have e3:aG (T+40)=T+40:=by grind[i64_in]
 obtain⟨y,ky,h2⟩:=apb (b:=b+T+40);have h3:=FO (aH y.2) ky (n:=1);rw[aJ]at h3;have k3:dS (false,Ij y.2 1):=an5 ky;have h4:=ab7 ok v (b:=b+T+40) ω;have k4:=ahR ok (by have:=vB v ok.lb;omega) (b+T+40);generalize fOf d (b+T+40)=x at*
 generalize Ij y.2 1=hf at*
 obtain⟨e,h5⟩:=ahQ (a:=x.2) (b:=hf) k4 k3;have k5:(ax (x.2/hf)).length<=256:=atZ (s:=true) k4;generalize hn:x.2/hf=n at*
 have h6:=J6 (aH n) (aH hf) k5 k3;rw[aJ,aJ]at h6;obtain⟨e6,d6⟩:=CK (n*hf);rw[d6]at h6;have k6:dS (!x.1,Bo (n*hf)):=FN (n*hf);have k7:=k4;have h7:=mG k7 k6;have kr:=qf (x.1,x.2) (!x.1,Bo (n*hf));generalize nJ (x.1,x.2) (!x.1,Bo (n*hf))=r at*
 generalize Bo (n*hf)=m at*
 have h8:=FO (aH r.2) kr (n:=T+40);rw[aJ]at h8;have k8:dS (r.1,Ij r.2 (T+40)):=an5 kr;generalize Ij r.2 (T+40)=u at*
 simp only[cw,dw,af,ak]at h1 h2 h4 h7;have l9:(aS (ax n)).length=(ax n).length:=wH _;have fin:∀k,fk false gr.rs gr.res 0 (am R (aA false) gr.body (iW [af d,I b]) (fun _=>.dead))=some (.tup [cw (r.1,u),I k],[])->∃ (r:Fx) (k:Int),dS r/\R 309 [af d,I b] []=some (.tup [cw r,I k],[]):=fun k h=>⟨_,k,k8,au QY rfl h⟩;by_cases c1:0< (ax n).length
 ·have f1:((0:Int)< (ax n).length)=True:=tt;have q1:=dV (m:=ax n) (i:=0) (n:=0) rfl c1;cases c2:x.1 with
  |true=>
   refine fin ?k0 ?_;rotate_left
   ·rw[c2,aMD]at h7;simp only[gr,cw,dw,af,ak,go_sem,aEP,aEO,aEN,aX,h1,hT,e1,e2,e3,h2,h3,h4,h5,h6,h7,h8,f1,q1,c2,l9,aMD];rfl
  |false=>
   refine fin ?k1 ?_;rotate_left
   ·rw[c2,aFY]at h7;simp only[gr,cw,dw,af,ak,go_sem,aEP,aEO,aEN,aX,h1,hT,e1,e2,e3,h2,h3,h4,h5,h6,h7,h8,f1,q1,c2,l9,aFY];rfl
 ·have f1:((0:Int)< (ax n).length)=False:=ff;cases c2:x.1 with
  |true=>
   refine fin ?k2 ?_;rotate_left
   ·rw[c2,aMD]at h7;simp only[gr,cw,dw,af,ak,go_sem,aEP,aEO,aEN,aX,h1,hT,e1,e2,e3,h2,h3,h4,h5,h6,h7,h8,f1,c2,l9,aMD];rfl
  |false=>
   refine fin ?k3 ?_;rotate_left
   ·rw[c2,aFY]at h7;simp only[gr,cw,dw,af,ak,go_sem,aEP,aEO,aEN,aX,h1,hT,e1,e2,e3,h2,h3,h4,h5,h6,h7,h8,f1,c2,l9,aFY];rfl
theorem an6{a c}(ka:dS a)(kc:dS c):∃y,dS y/\R 318 [cw a,cw c] []=some (cw y,[]):=by
 obtain⟨e,h1⟩:=ahQ (a:=a.2) (b:=c.2) ka kc;have k1:dS (a.1,a.2/c.2):=atZ ka;have k2:=aEX (DJ (show mdN a.2 c.2<=a.2 by unfold mdN;split;omega;exact Nat.mod_le _ _)) ka;have h2:=Cs (aH (mdN a.2 c.2)) (aEX k2 δ);rw[aJ]at h2;have h3:=NZ (n:=-1) ⟨by decide,by decide⟩;have h4:=mG k1 (ahP (-1));have k4:=qf (a.1,a.2/c.2) (Gw (-1));generalize nJ (a.1,a.2/c.2) (Gw (-1))=w at*
 generalize a.2/c.2=q at*
 generalize mdN a.2 c.2=r at*
 simp only[cw,dw]at h3 h4;cases c1:a.1 with
 |false=>
  refine⟨(false,q),k1,au Es rfl ?_⟩;simp only[tr,cw,dw,go_sem,h1,c1]
 |true=>
  rw[c1]at k1 h4;by_cases c2:0< (ag r:Int)
  ·have f2:=tt c2;refine⟨w,k4,au Es rfl ?_⟩;simp only[tr,cw,dw,go_sem,h1,h2,h3,h4,c1,f2]
  ·have f2:=ff c2;refine⟨(true,q),k1,au Es rfl ?_⟩;simp only[tr,cw,dw,go_sem,h1,h2,c1,f2]
theorem Xo{d}{cs}{p}(ok:Ok0 d)(v:vd d=true)(hp:0<=p/\p<=1000):∃y,OkI y/\R 286 [af d,B cs,I p] []=some (ae y,[]):=by
 have h0:=tT ok v;have fin:∀y,OkI y->fk false dy.rs dy.res 0 (am R (aA false) dy.body (iW [af d,B cs,I p]) (fun _=>.dead))=some (ae y,[])->∃y,OkI y/\R 286 [af d,B cs,I p] []=some (ae y,[]):=fun y oy h=>⟨y,oy,au U4 rfl h⟩;by_cases c0:kl d=0
 ·have f0:=tt c0;cases cs with
  |true=>
   have i1:kR 1:=⟨by decide,by decide⟩;have h1:=m8 i1;rw[show aZ (decide ((1:Int)<0)) (Int.natAbs 1) 0=gZ 1 from rfl]at h1;have o1:=jh i1;generalize gZ 1=o at*
   have h2:=fY o1.2 o1.1;have o2:OkI ⟨o,o,false⟩:=⟨o1.2,o1.2⟩;refine fin _ o2 ?_;simp only[ae,ah,af,ak]at h0 h1 h2;simp only[dy,ae,ah,af,ak,go_sem,h0,h1,h2,f0]
  |false=>
   have h2:=fY ok v;have o2:OkI ⟨d,d,false⟩:=⟨ok,ok⟩;refine fin _ o2 ?_;simp only[ae,ah,af,ak]at h0 h2;simp only[dy,ae,ah,af,ak,go_sem,h0,h2,f0]
 have f0:=ff c0;have e1:aG (p+64)=p+64:=by grind[i64_in]
 obtain⟨r,k,kr,h1⟩:=ahS ok v (b:=p+64) ω;obtain⟨s,c,ks,kc,h2⟩:=ak0 kr (b:=p+64);obtain⟨y0,o0,g0⟩:=LL ks (b:=p+64) (p:=p) ω;obtain⟨y1,o1,g1⟩:=LL kc (b:=p+64) (p:=p) ω;have ks':dS (!s.1,s.2):=ks;have kc':dS (!c.1,c.2):=kc;obtain⟨y2,o2,g2⟩:=LL ks' (b:=p+64) (p:=p) ω;obtain⟨y3,o3,g3⟩:=LL kc' (b:=p+64) (p:=p) ω;have m1:=zL (x:=s);have m2:=zL (x:=c);obtain⟨n,hn⟩:∃n,(if cs=true then IntKind.i64.wrap (k+1)else k)=n:=⟨_,rfl⟩;simp only[cw,dw,ae,ah,af,ak]at h0 h1 h2 g0 g1 g2 g3 m1 m2;have main:(∃y,OkI y/\∀n',n'=n->fk false dy.rs dy.res 0 (am R (aA false) dy.body (iW [af d,B cs,I p]) (fun _=>.dead))=some (ae y,[])):=by
  by_cases c1:n.tmod 4=1
  ·have f1:=tt c1;refine⟨y1,o1,fun _ _=>?_⟩;cases cs
   all_goals
    simp only[↓reduceIte,aFv]at hn;simp only[dy,cw,dw,ae,ah,af,ak,go_sem,aEP,aEO,aEN,aX,h0,h1,h2,f0,e1,hn,f1,g1]
  have f1:=ff c1;by_cases c2:n.tmod 4=2
  ·have f2:=tt c2;refine⟨y2,o2,fun _ _=>?_⟩;cases cs
   all_goals
    simp only[↓reduceIte,aFv]at hn;simp only[dy,cw,dw,ae,ah,af,ak,go_sem,aEP,aEO,aEN,aX,h0,h1,h2,f0,e1,hn,f1,f2,g2,m1]
  have f2:=ff c2;by_cases c3:n.tmod 4=3
  ·have f3:=tt c3;refine⟨y3,o3,fun _ _=>?_⟩;cases cs
   all_goals
    simp only[↓reduceIte,aFv]at hn;simp only[dy,cw,dw,ae,ah,af,ak,go_sem,aEP,aEO,aEN,aX,h0,h1,h2,f0,e1,hn,f1,f2,f3,g3,m2]
  have f3:=ff c3;refine⟨y0,o0,fun _ _=>?_⟩;cases cs
  all_goals
   simp only[↓reduceIte,aFv]at hn;simp only[dy,cw,dw,ae,ah,af,ak,go_sem,aEP,aEO,aEN,aX,h0,h1,h2,f0,e1,hn,f1,f2,f3,g0]
 grind
def cuI:Ri:=⟨gZ (-1),gZ 1,false⟩
theorem at0:OkI cuI:=by
 have h1:=jh (n:=1) ⟨by omega,by omega⟩;have h2:=jh (n:=-1) ⟨by omega,by omega⟩;unfold cuI;generalize gZ 1=a at*
 generalize gZ (-1)=b at*
 exact⟨h2.2,h1.2⟩
theorem an7:R 285 [] []=some (ae cuI,[]):=by
 refine au Yi rfl ?_;have h1:=m8 (n:=1) ⟨by omega,by omega⟩;rw[show aZ (decide ((1:Int)<0)) (Int.natAbs 1) 0=gZ 1 from rfl]at h1;have h2:=m8 (n:=-1) ⟨by omega,by omega⟩;rw[show aZ (decide ((-1)<0)) (Int.natAbs (-1)) 0=gZ (-1)from rfl]at h2;unfold cuI;simp only[af,ak]at h1 h2;simp only[Ej,ae,ah,go_sem,h1,h2]
theorem an8{p}:R 284 [I p] []=some (B (bv p),[]):=by
 refine au QT rfl ?_;unfold bv;by_cases c:8<=p
 ·have f:=tt c;simp only[uA,go_sem,f,decide_true]
 ·have f:=ff c;simp only[uA,go_sem,f,decide_false]
theorem an9(ok:OkI x)(v1:vd x.lo=true)(v2:vd x.hi=true)(hs:kR sh)(hp:0<=p/\p<=1000):∃r:Bool,R 287 [ae x,I sh,I p] []=some (B r,[]):=by
 have h1:=pW ok.lo;have h2:=pW ok.hi;have b1:=YK ok.lo v1;have b2:=YK ok.hi v2;obtain⟨T0,hT0⟩:∃T,(if aQ x.lo<aQ x.hi then aQ x.hi else aQ x.lo)=T:=⟨_,rfl⟩;obtain⟨T,hT⟩:∃T,(if T0<0 then(0:Int)else T0)=T:=⟨_,rfl⟩;have e1:aG (p+T)=p+T:=by grind[i64_in]
 have e2:aG (p+T+40)=p+T+40:=by grind[i64_in]
 have e3:aG (T+24)=T+24:=by grind[i64_in]
 have e4:aG (T+24+4)=T+24+4:=by grind[i64_in]
 obtain⟨c,kc,g1⟩:=apb (b:=p+T+40);have g2:=wM (aH c.2) kc (n:=1);rw[aJ]at g2;have k2:dS (false,tG c.2 1):=DI c.2 1;generalize tG c.2 1=P9 at*
 have g3:=NZ hs;have k3:=ahP sh;generalize Gw sh=sm at*
 have g4:=NY k3 kc (b:=0);have k4:=T4 sm c 0;generalize T3 sm c 0=tm at*
 have g5:=FO (aH tm.2) k4 (n:=1);rw[aJ]at g5;have k5:dS (false,Ij tm.2 1):=an5 k4;have k5':dS (true,Ij tm.2 1):=k5;have g6:=zL (x:=(false,Ij tm.2 1));simp only[aFY]at g6;generalize Ij tm.2 1=s at*
 have g7:=wM (m:=[1]) HQ δ (n:=T+24+4);have k7:dS (false,tG (ab [1]) (T+24+4)):=DI (ab [1]) (T+24+4);generalize tG (ab [1]) (T+24+4)=e at*
 have g8:=ab7 ok.hi v2 (b:=p+T+40) ω;have k8:=ahR ok.hi (by have:=vB v2 ok.hi.lb;omega) (p+T+40);generalize fOf x.hi (p+T+40)=fh at*
 have g9:=mG k8 k5';have k9:=qf fh (true,s);generalize nJ fh (true,s)=a1 at*
 have g10:=mG k9 k7;have k10:=qf a1 (false,e);obtain⟨kk,k11,g11⟩:=an6 k10 k2;have g12:=J6 (aH kk.2) (aH P9) k11 k2;rw[aJ,aJ]at g12;obtain⟨er,d12⟩:=CK (kk.2*P9);rw[d12]at g12;have k12:dS (kk.1,Bo (kk.2*P9)):=FN (kk.2*P9);generalize Bo (kk.2*P9)=m at*
 have g13:=mG k12 k5;have k13:=qf (kk.1,m) (false,s);generalize nJ (kk.1,m) (false,s)=last at*
 have g14:=ab7 ok.lo v1 (b:=p+T+40) ω;have k14:=ahR ok.lo (by have:=vB v1 ok.lo.lb;omega) (p+T+40);generalize fOf x.lo (p+T+40)=fl at*
 have g15:=zL (x:=fl);have k15:dS (!fl.1,fl.2):=k14;have g16:=mG k13 k15;have k16:=qf last (!fl.1,fl.2);generalize nJ last (!fl.1,fl.2)=a3 at*
 have g17:=mG k16 k7;have k17:=qf a3 (false,e);generalize nJ a3 (false,e)=dd at*
 have g18:=Ik k17;simp only[cw,dw,af,ak]at h1 h2 g1 g3 g4 g6 g8 g9 g10 g11 g13 g14 g15 g16 g17 g18;generalize aQ x.lo=t1 at*
 generalize aQ x.hi=t2 at*
 by_cases c1:dd.2=0
 ·have f1:=tt c1;refine⟨true,au J2 rfl ?_⟩;simp only[yy,cw,dw,ae,ah,go_sem,aEP,aEO,aEN,aX,oj,h1,h2,hT0,hT,e1,e2,e3,e4,g1,g2,g3,g4,g5,g6,g7,g8,g9,g10,g11,g12,g13,g14,g15,g16,g17,g18,f1]
 ·have f1:=ff c1;refine⟨!dd.1,au J2 rfl ?_⟩;simp only[yy,cw,dw,ae,ah,go_sem,aEP,aEO,aEN,aX,oj,h1,h2,hT0,hT,e1,e2,e3,e4,g1,g2,g3,g4,g5,g6,g7,g8,g9,g10,g11,g12,g13,g14,g15,g16,g17,g18,f1]
theorem aro(ox:OkI x)(oy:OkI y):OkI (GL x y):=by
 unfold GL;split
 ·refine⟨?_,HU ox.hi oy.hi⟩;unfold lw;split
  ·exact ox.lo
  ·exact oy.lo
 ·exact gX.ok'
theorem arp(ox:OkI x)(oy:OkI y):OkI (tF x y).1:=by
 have l:Ok0 (lw x.hi y.hi):=by
  unfold lw;split
  ·exact ox.hi
  ·exact oy.hi
 have o0:OkI Mi:=⟨aO.2,aO.2⟩;unfold tF;split
 ·split
  ·omega
  ·split
   ·omega
   ·split
    ·exact⟨HU ox.lo oy.lo,l⟩
    omega
 omega
theorem YL{c:Bool}{a b:Rd}(oa:Ok0 a)(ob:Ok0 b):Ok0 (if c=true then a else b):=by
 grind
theorem afj{cs:Bool}{p:Int}(ok:OkI x):∃y,OkI y/\R 238 [ae x,B cs,I p] []=some (ae y,[]):=by
 have fin:∀y,OkI y->fk false dm.rs dm.res 0 (am R (aA false) dm.body (iW [ae x,B cs,I p]) (fun _=>.dead))=some (ae y,[])->∃y,OkI y/\R 238 [ae x,B cs,I p] []=some (ae y,[]):=fun y oy h=>⟨y,oy,au Yc rfl h⟩;have h0:=an8 (p:=p);have hw:=dW;have h1:=mL ok;cases hp:bv p with
 |false=>
  rw[hp]at h0;refine fin bt gX.ok' ?_;simp only[ae,ah,bt,aC]at hw;simp only[dm,ae,ah,bt,aC,go_sem,h0,hw]
 |true=>
 rw[hp]at h0;cases hv:vi x with
 |false=>
  rw[hv]at h1;refine fin bt gX.ok' ?_;simp only[ae,ah,bt,aC]at hw h1;simp only[dm,ae,ah,bt,aC,go_sem,h0,h1,hw]
 |true=>
 rw[hv]at h1;cases ha:x.all with
 |true=>
  refine fin bt gX.ok' ?_;simp only[ae,ah,bt,aC,ha]at hw h1;simp only[dm,ae,ah,bt,aC,go_sem,h0,h1,hw,ha]
 |false=>
 have kx:kI x=true:=by
  grind[kI,hv]
 obtain⟨_,v1,v2⟩:=DH kx;have hu:=an7;have ou:=at0;have t1:=pW ok.lo;have t2:=pW ok.hi;obtain⟨w,b,h3,ow,vw,_⟩:=RM ok (p:=64);have i7:kR 7:=⟨by omega,by omega⟩;have h4:=m8 i7;rw[show aZ (decide ((7:Int)<0)) (Int.natAbs 7) 0=gZ 7 from rfl]at h4;have o7:=jh i7;have h5:=mF ow o7.2;rw[ap ⟨vw,o7.1⟩]at h5;generalize gH (zI w) (zI (gZ 7))=cc at*
 clear o7 i7;generalize gZ 7=seven at*
 have hp2:=pZ hp;obtain⟨y1,o1,g1⟩:=Xo ok.lo v1 (cs:=cs) (p:=p) ω;obtain⟨y2,o2,g2⟩:=Xo ok.hi v2 (cs:=cs) (p:=p) ω;have g3:=abr o1 o2;have o3:=aro o1 o2;generalize GL y1 y2=hh at*
 have g4:=abt o3 ou;have o4:=arp o3 ou;generalize tF hh cuI=mm at*
 obtain⟨y,bm⟩:=mm;simp only at g4 o4;have g5:=mF ok.lo ok.hi;rw[ap ⟨v1,v2⟩]at g5;generalize gH (zI x.lo) (zI x.hi)=dd at*
 have e1:aG (p+64)=p+64:=by grind[i64_in]
 have i1:kR 1:=⟨by omega,by omega⟩;have im:kR (-1):=⟨by omega,by omega⟩;have q1:=m8 i1;rw[show aZ (decide ((1:Int)<0)) (Int.natAbs 1) 0=gZ 1 from rfl]at q1;have q2:=m8 im;rw[show aZ (decide ((-1:Int)<0)) (Int.natAbs (-1)) 0=gZ (-1)from rfl]at q2;have oq1:=jh i1;have oq2:=jh im;generalize cuI=u at*
 generalize gZ 1=n1 at*
 generalize gZ (-1)=n2 at*
 generalize aQ x.lo=tl at*
 generalize aQ x.hi=th at*
 have mt:∀sh:Int,kR sh->∃r:Bool,R 287 [ae x,I sh,I (p+64)] []=some (B r,[]):=fun sh hs=>an9 ok v1 v2 hs ω;obtain⟨r0,m0⟩:=mt 0 ⟨by omega,by omega⟩;obtain⟨r1,m1⟩:=mt 1 ⟨by omega,by omega⟩;obtain⟨r2,m2⟩:=mt 2 ⟨by omega,by omega⟩;obtain⟨r3,m3⟩:=mt 3 ⟨by omega,by omega⟩;clear mt;simp only[ae,ah,af,ak,ha]at h1 hu t1 t2 h3 h4 h5 g1 g2 g3 g4 g5 q1 q2 m0 m1 m2 m3;by_cases c1:100<tl
 ·have f1:=tt c1;refine fin u ou ?_;simp only[dm,ae,ah,go_sem,aEP,aEO,aEN,aX,h0,h1,ha,t1,t2,f1,hu]
 have f1:=ff c1;by_cases c2:100<th
 ·have f2:=tt c2;refine fin u ou ?_;simp only[dm,ae,ah,go_sem,aEP,aEO,aEN,aX,h0,h1,ha,t1,t2,f1,f2,hu]
 have f2:=ff c2;cases b with
 |false=>
  refine fin u ou ?_;simp only[dm,ae,ah,af,ak,go_sem,aEP,aEO,aEN,aX,h0,h1,ha,t1,t2,f1,f2,h3,hu]
 |true=>
 by_cases c3:0<=cc
 ·have f3:=tt c3;refine fin u ou ?_;simp only[dm,ae,ah,af,ak,go_sem,aEP,aEO,aEN,aX,h0,h1,ha,t1,t2,f1,f2,h3,h4,h5,f3,hu]
 have f3:=ff c3;cases bm with
 |false=>
  refine fin u ou ?_;simp only[dm,ae,ah,af,ak,go_sem,aEP,aEO,aEN,aX,h0,h1,ha,t1,t2,f1,f2,h3,h4,h5,f3,g1,g2,g3,g4,hu]
 |true=>
 by_cases c4:dd=0
 ·have f4:=tt c4;refine fin y o4 ?_;simp only[dm,ae,ah,af,ak,go_sem,aEP,aEO,aEN,aX,h0,h1,ha,t1,t2,f1,f2,h3,h4,h5,f3,g1,g2,g3,g4,g5,f4,hu]
 have f4:=ff c4;cases cs with
 |true=>
  refine fin ⟨if r2 then n2 else y.lo,if r0 then n1 else y.hi,y.all⟩ ⟨YL oq2.2 o4.lo,YL oq1.2 o4.hi⟩ ?_;cases r0<;>cases r2<;>simp only[dm,ae,ah,af,ak,go_sem,aEP,aEO,aEN,aX,h0,h1,ha,t1,t2,f1,f2,h3,h4,h5,f3,g1,g2,g3,g4,g5,f4,hu,e1,q1,q2,m0,m2,aFv]
 |false=>
  refine fin ⟨if r3 then n2 else y.lo,if r1 then n1 else y.hi,y.all⟩ ⟨YL oq2.2 o4.lo,YL oq1.2 o4.hi⟩ ?_;cases r1<;>cases r3<;>simp only[dm,ae,ah,af,ak,go_sem,aEP,aEO,aEN,aX,h0,h1,ha,t1,t2,f1,f2,h3,h4,h5,f3,g1,g2,g3,g4,g5,f4,hu,e1,q1,q2,m1,m3,aFv]
theorem arq{p:Int}(ok:OkI x):∃y,OkI y/\R 175 [ae x,I p] []=some (ae y,[]):=by
 obtain⟨y,oy,h⟩:=afj ok (cs:=false) (p:=p);refine⟨y,oy,au aag rfl ?_⟩;simp only[ae,ah]at h;simp only[F1,ae,ah,go_sem,h]
theorem arr{p:Int}(ok:OkI x):∃y,OkI y/\R 176 [ae x,I p] []=some (ae y,[]):=by
 obtain⟨y,oy,h⟩:=afj ok (cs:=true) (p:=p);refine⟨y,oy,au aah rfl ?_⟩;simp only[ae,ah]at h;simp only[F3,ae,ah,go_sem,h]
abbrev zC:List AV:=[B false,.emp,I 0,B false,.emp,I 0,B false]
theorem ars{x}(ok:OkI x)(hx:kI x=true):OkI (ab4 x):=by
 obtain⟨m1,m2⟩:=T2 ok hx;unfold ab4 gW;generalize qB x=d at*
 refine⟨?_,m2⟩;show Ok0 (if _ then _ else _);split
 ·exact aO.2
 ·exact⟨m2.lb,m2.len⟩
def Qa(x:Ri)(p:Int):Ri:=if(!(nG x).all&&bv p)=true then kD (eJ (nG x).lo (nG x).lo p false) (eJ (nG x).hi (nG x).hi p true)else bt
theorem ak1{x}(ox:OkI x){p}:R 273 [ae x,I p] []=some (ae (Qa x p),[]):=by
 refine au PA rfl ?_;have ha:=ad5 ox;have oa:=Vo ox;have hp:=l8 (p:=p);have hw:=dW;have hd:=Jv oa.lo oa.lo (p:=p);have hu:=Nv oa.hi oa.hi (p:=p);unfold Qa;generalize nG x=y at*
 generalize eJ y.lo y.lo p false=r at hd⊢;generalize eJ y.hi y.hi p true=q at hu⊢;obtain⟨r1,r2⟩:=r;obtain⟨q1,q2⟩:=q;have hm:=Cu (a:=r1) (b:=q1) (e:=r2) (f:=q2);simp only[ae,ah,rV,af,ak]at ha hw hd hu hm;cases h1:y.all with
 |true=>
  rw[aMD,aE0,av aE3];simp only[nY,ae,ah,go_sem,ha,h1,hw]
 |false=>
  rw[aFY,aEW];rw[h1]at ha;cases h2:bv p with
  |false=>
   rw[h2]at hp;rw[av aE3];simp only[nY,ae,ah,go_sem,ha,hp,hw]
  |true=>
   rw[h2]at hp;rw[ap rfl];simp only[nY,ae,ah,go_sem,ha,hp,hw,hd,hu,hm]
theorem ak2{s}:vd (H9 s).1=true/\Ok0 (H9 s).1:=xO
def hfI(x:Ri):Ri:=if kI x=true then kD (H9 x.lo) (H9 x.hi)else bt
theorem ak4{x}:OkI (hfI x):=by
 unfold hfI;split
 ·exact zF ak2.2 ak2.2
 ·exact gX.ok'
theorem aoa{x}(ox:OkI x):R 118 [ae x,I (-1)] []=some (ae (hfI x),[]):=by
 refine au HG rfl ?_;have hk:=kU ox;have hw:=dW;unfold hfI;cases h1:kI x with
 |false=>
  rw[h1]at hk;simp only[mq,ae,ah,bt,aC,go_sem,hk,hw,aFv]
 |true=>
  rw[h1]at hk;obtain⟨_,v1,v2⟩:=DH h1;have hl:=RH ox.lo v1;have hh:=RH ox.hi v2;generalize H9 x.lo=r at*
  generalize H9 x.hi=q at*
  obtain⟨r1,r2⟩:=r;obtain⟨q1,q2⟩:=q;have hm:=Cu (a:=r1) (b:=q1) (e:=r2) (f:=q2);simp only[ae,ah,rV,af,ak]at hk hw hl hh hm;simp only[mq,ae,ah,go_sem,hk,hl,hh,hm]
theorem ak5{x}{p}:OkI (Qa x p):=by
 unfold Qa;split
 ·grind[zF,EA]
 ·exact gX.ok'
theorem zN{x}{p}:OkI (oA x p):=by
 unfold oA;split
 ·grind[zF,At]
 ·exact gX.ok'
def ahT(e:Int->Ri->Option Ri):Prop:=∀p y z,0<=p/\p<=1000->OkI y->e p y=some z->R 272 [Ii p,ae y] []=some (ae z,[])/\OkI z
def hvR(e:Int->Ri->Option Ri)(p:Int):Nat->Ri->Option Ri
 |0,y=>e p y
 |n+1,y=>(hvR e p n (hfI y)).map fun z=>Qa z p
theorem T6{e}(he:ahT e){p}(hp:0<=p/\p<=1000):∀n {y z},n<=100->OkI y->hvR e p n y=some z->R 221 [Ii p,ae y,I n] []=some (ae z,[])/\OkI z
 |0,y,z,_,oy,h=>by
  obtain⟨hx,oz⟩:=he p y z hp oy h;refine⟨au Az rfl ?_,oz⟩;simp only[ae,ah]at hx;simp only[lQ,ae,ah,go_sem,hx,show decide (((0:Nat):Int)=0)=true from rfl]
 |n+1,y,z,hn,oy,h=>by
  unfold hvR at h;rw[aEU]at h;obtain⟨r,h1,rfl⟩:=h;obtain⟨g1,g2⟩:=T6 he hp n ω ak4 h1;have g3:=ak1 g2 (p:=p);have g4:=aoa oy;have e1:aG ((n+1:Nat)-1)=n:=wi;have e2:(((n+1:Nat):Int)=0)=False:=ff;refine⟨au Az rfl ?_,ak5⟩;simp only[ae,ah]at g1 g3 g4;simp only[lQ,ae,ah,go_sem,g1,g3,g4,e1,e2]
def N1(d:Rd):Bool:=decide (gH (zI (py d)) (zI (gZ 1000))<=0)
theorem Pg{d}(ok:Ok0 d)(v:vd d=true):R 155 [af d] []=some (B (N1 d),[]):=by
 refine au Mr rfl ?_;have h1:=Nq ok;have hn:kR 1000:=⟨by omega,by omega⟩;have h2:=m8 hn;rw[show aZ (decide ((1000:Int)<0)) (Int.natAbs 1000) 0=gZ 1000 from rfl]at h2;have h3:=mF (a:=py d) (b:=gZ 1000) (vC ok) (jh hn).2;rw[ap ⟨(apU v).2,(jh hn).1⟩]at h3;rw[show(if vd d=false\/d.m.length=0 then aC else⟨false,d.m,d.e⟩)=py d from rfl]at h1;unfold N1;simp only[af,ak]at h1 h2 h3;simp only[wr,af,ak,go_sem,h1,h2,h3]
theorem ak6{x}{p}(ok:OkI x)(hk:kI x=true)(hp:bv p=true):R 154 [ae x,I p] []=some (B true,[]):=by
 refine au yA rfl ?_;have h1:=mL ok;unfold kI at hk;simp only[aEV,aFS]at hk;rw[hk.2]at h1;have hp2:=pZ hp;have e1:=tt hp2.1;have e2:=tt hp2.2;simp only[ae,ah,hk.1]at h1;simp only[iY,ae,ah,go_sem,h1,hk.1,e1,e2]
theorem RQ{p q}(hp:0<=p/\p<=1000)(hq:0<=q/\q<=1000):R 219 [I p,I q] []=some (Ii (if 512<p+q then 512 else p+q),[]):=by
 refine au QP rfl ?_;have e1:aG (p+q)=p+q:=by grind[i64_in]
 simp only[AM,go_sem,e1]
def I9(a b:Ri):Ri:=if(a.all||b.all)=true then bt else⟨a.lo,b.hi,false⟩
theorem afl{a b}:R 156 [ae a,ae b] []=some (ae (I9 a b),[]):=by
 refine au S0 rfl ?_;have hw:=dW;unfold I9;cases h1:a.all<;>cases h2:b.all<;>simp only[BL,ae,ah,bt,aC,go_sem,h1,h2,hw,Bool.or_true,Bool.or_false,aFv]
def Ml(d:Rd):Nat:=(if aQ d+1<0 then 0 else aQ d+1).toNat
def Ku(d:Rd)(p:Int):Int:=if 512<p+(Ml d+24)then 512 else p+(Ml d+24)
def pwR(e:Int->Ri->Option Ri)(d:Rd)(p:Int):Option Ri:=if kl d=0 then some (cY 1)else(hvR e (Ku d p) (Ml d) (oA (m9 d) (Ku d p))).map fun z=>oA z p
theorem LM{e}(he:ahT e){d}{p}{z}(ok:Ok0 d)(v:vd d=true)(hp:bv p=true)(ht:aQ d<=50)(h:pwR e d p=some z):R 157 [af d,I p] []=some (ae z,[])/\OkI z:=by
 have h1:=tT ok v;have o1:OkI (cY 1):=gM ⟨by decide,by decide⟩;have hp2:=pZ hp;unfold pwR at h;by_cases g:kl d=0
 ·rw[ap g]at h;have hz:=(Option.some.inj h).symm;have h2:=nT (n:=1) ⟨by decide,by decide⟩;rw[←hz]at h2 o1;have f:=tt g;refine⟨au HI rfl ?_,o1⟩;simp only[ae,ah,af,ak]at h1 h2;simp only[uu,ae,ah,af,ak,go_sem,h1,h2,f]
 ·rw[av g,aEU]at h;obtain⟨y,hy,rfl⟩:=h;have f:=ff g;have h3:=pW ok;have h4:=fY ok v;have hN:(if aQ d+1<0 then 0 else aQ d+1)=(Ml d:Nat):=by
   grind[Ml]
  have tb:-100000<=aQ d:=by
   unfold aQ;split
   ·omega
   ·have:=(dT v ok.lb).2.1;omega
  have e1:aG (aQ d+1)=aQ d+1:=by grind[i64_in]
  have e2:aG ((Ml d)+24)=(Ml d)+24:=by grind[i64_in]
  have h5:=RQ (p:=p) (q:=(Ml d)+24) ⟨by omega,by omega⟩ ⟨by omega,by omega⟩;rw[show(if 512<p+((Ml d)+24)then 512 else p+((Ml d)+24))=Ku d p from rfl]at h5;have hP:0<=Ku d p/\Ku d p<=1000:=by
   grind[Ku]
  have okp:OkI ⟨d,d,false⟩:=⟨ok,ok⟩;have h6:=FJ okp (p:=Ku d p);have okr:OkI (oA (m9 d) (Ku d p)):=zN;obtain⟨h7,oy⟩:=T6 he hP (Ml d) ω okr hy;have h8:=FJ oy (p:=p);refine⟨au HI rfl ?_,zN⟩;simp only[m9]at h7;simp only[ae,ah,af,ak]at h1 h3 h4 h5 h6 h7 h8;simp only[uu,ae,ah,af,ak,go_sem,h1,h3,h4,h5,h6,h7,h8,f,e1,e2,hN]
theorem aob{e}(he:ahT e){x a b}{p}(ok:OkI x)(hk:kI x=true)(hp:bv p=true)(m1:N1 x.lo=true)(m2:N1 x.hi=true)(t1:aQ x.lo<=50)(t2:aQ x.hi<=50)(h1:pwR e x.lo p=some a)(h2:pwR e x.hi p=some b):R 87 [ae x,I p] []=some (ae (I9 a b),[]):=by
 obtain⟨_,v1,v2⟩:=DH hk;have g1:=ak6 ok hk hp;have g2:=Pg ok.lo v1;have g3:=Pg ok.hi v2;obtain⟨g4,oa⟩:=LM he ok.lo v1 hp t1 h1;obtain⟨g5,ob⟩:=LM he ok.hi v2 hp t2 h2;have g6:=afl (a:=a) (b:=b);rw[m1]at g2;rw[m2]at g3;refine au JX rfl ?_;simp only[ae,ah,af,ak]at g1 g2 g3 g4 g5 g6;simp only[iw,ae,ah,go_sem,g1,g2,g3,g4,g5,g6]
theorem afn{x}(ok:OkI x)(hx:kI x=false):R 276 [ae x] []=some (.tup [af aC,B false],[]):=by
 refine au J1 rfl ?_;have h1:=kU ok;rw[hx]at h1;simp only[yx,ae,ah,af,ak,aC,go_sem,h1]
def Xq(x:Ri)(p:Int):Bool:=if kI x=true then smB x p else true
theorem GQ{x}{p}(ok:OkI x)(hp:0<=p/\p<=1000):R 282 [Ii p,ae x] []=some (B (Xq x p),[]):=by
 unfold Xq;cases hk:kI x with
 |true=>
  grind[akY]
 |false=>
  refine au Bh rfl ?_;have h1:=afn ok hk;simp only[ae,ah,af,ak,aC]at h1;simp only[jF,ae,ah,go_sem,h1]
def Xr(x:Ri):Ri:=if kI x=true then ab4 x else bt
theorem ak7{x}(ok:OkI x):OkI (Xr x):=by
 unfold Xr;split
 ·grind[ars]
 ·exact gX.ok'
theorem N2{x}(ok:OkI x):R 283 [ae x] []=some (ae (Xr x),[]):=by
 unfold Xr;cases hk:kI x with
 |true=>
  grind[adk]
 |false=>
  refine au Gt rfl ?_;have h1:=afn ok hk;have h2:=dW;simp only[ae,ah,af,ak,aC,bt]at h1 h2;simp only[tq,ae,ah,bt,aC,go_sem,h1,h2]
theorem awi{x}{p}:dC x (cY 0) p=bt:=by
 have e:HT (cY 0)=0:=by
  rfl
 simp_all[dC,ap]
theorem afo{y t s}{p n}(oy:OkI y)(hp:0<=p/\p<=1000)(ot:OkI t)(os:OkI s)(hn:kR n)(hs:Xq (dC (bX t y p) (cY n) p) p=true)(S)(h)(X)(hX:ao 0 [2,4,5,6] (aB (am R (aA false) fC) [2,3,4,5,6,7] [2,3,4,5,6] S h)=X)
  (k2:S 2=ac 2) (k3:S 3=ac 3) (k4:S 4=ac 4) (k5:S 5=ac 5) (k6:S 6=ac 6) (k7:S 7=I n) (h2:h 2=.bx [I p]) (h3:h 3=.bx (ah y)) (h4:h 4=.bx zC) (h5:h 5=.bx (ah t)) (h6:h 6=.bx (ah s)):
  ∃t' s',OkI t'/\OkI s'/\∃hh,X=some (.normal,⟨upd (upd (upd (upd ce 6 (ac 6)) 5 (ac 5)) 4 (ac 4)) 2 (ac 2),hh⟩)/\hh 2=.bx [I p]/\hh 4=.bx zC/\hh 5=.bx (ah t')/\hh 6=.bx (ah s')/\∀i,i≠2->i≠3->i≠4->i≠5->i≠6->hh i=.dead:=by
 have on:=gM hn;have q1:=Pe ot oy (p:=p);have q2:=nT hn;have q3:=Ks (iU (x:=t) (y:=y) (p:=p)) on (p:=p);have od:OkI (dC (bX t y p) (cY n) p):=kL;have q4:=CJ os od (p:=p);have oa:OkI (de s (dC (bX t y p) (cY n) p) p):=kW;have q5:=GQ od hp;rw[hs]at q5;clear hs;generalize de s (dC (bX t y p) (cY n) p) p=s1 at*
 generalize dC (bX t y p) (cY n) p=t1 at*
 generalize bX t y p=m1 at*
 generalize cY n=z at*
 subst hX;rw[ai];simp only[ae,ah]at q1 q2 q3 q4 q5 h3 h5 h6;refine⟨t1,s1,od,oa,?hh0,?_,?_,?_,?_,?_,?_⟩;rotate_left
 ·simp only[fC,go_sem,k2,k3,k4,k5,k6,k7,h2,h3,h4,h5,h6,q1,q2,q3,q4,q5];rfl
 all_goals first|rfl| (intro i b1 b2 b3 b4 b5;simp only[cz,b2,if_false, *];try (split<;>rfl))
theorem art{y}{p}(oy:OkI y)(hp:0<=p/\p<=1000):∀ (f:Nat) n t s,OkI t->OkI s->kR n->(n+f) %18446744073709551616=0->∀S h X,ao 0 [2,4,5,6] (aB (am R (aA false) fC) [2,3,4,5,6,7] [2,3,4,5,6] S h)=X->
  S 2=ac 2->S 3=ac 3->S 4=ac 4->S 5=ac 5->S 6=ac 6->S 7=I n->h 2=.bx [I p]->h 3=.bx (ah y)->h 4=.bx zC->h 5=.bx (ah t)->h 6=.bx (ah s)->
  ∃t' s',OkI t'/\OkI s'/\∃hh,X=some (.normal,⟨upd (upd (upd (upd ce 6 (ac 6)) 5 (ac 5)) 4 (ac 4)) 2 (ac 2),hh⟩)/\hh 2=.bx [I p]/\hh 4=.bx zC/\hh 5=.bx (ah t')/\hh 6=.bx (ah s')/\∀i,i≠2->i≠3->i≠4->i≠5->i≠6->hh i=.dead:=by
 intro f;induction f with
 |zero=>
  intro n t s ot os hn hf S h X hX k2 k3 k4 k5 k6 k7 h2 h3 h4 h5 h6;have n0:n=0:=by
   obtain⟨a,b⟩:=hn;omega
  subst n0;refine afo oy hp ot os hn ?_ S h X hX k2 k3 k4 k5 k6 k7 h2 h3 h4 h5 h6;rw[awi];rfl
 |succ f ih=>
  intro n t s ot os hn hf S h X hX k2 k3 k4 k5 k6 k7 h2 h3 h4 h5 h6;cases hs:Xq (dC (bX t y p) (cY n) p) p with
  |true=>exact afo oy hp ot os hn hs S h X hX k2 k3 k4 k5 k6 k7 h2 h3 h4 h5 h6
  |false=>
  have on:=gM hn;have q1:=Pe ot oy (p:=p);have q2:=nT hn;have q3:=Ks (iU (x:=t) (y:=y) (p:=p)) on (p:=p);have od:OkI (dC (bX t y p) (cY n) p):=kL;have q4:=CJ os od (p:=p);have oa:OkI (de s (dC (bX t y p) (cY n) p) p):=kW;have q5:=GQ od hp;rw[hs]at q5;clear hs;generalize de s (dC (bX t y p) (cY n) p) p=s1 at*
  generalize dC (bX t y p) (cY n) p=t1 at*
  generalize bX t y p=m1 at*
  generalize cY n=z at*
  have ih':=ih (IntKind.i64.wrap (n+1)) t1 s1 od oa (GO _) (by
   grind[IntKind.wrap_i64])
  subst hX;rw[ai];generalize aB _ _ _=L at ih'⊢;simp only[ae,ah]at q1 q2 q3 q4 q5 h3 h5 h6 ih';simp only[fC,go_sem,k2,k3,k4,k5,k6,k7,h2,h3,h4,h5,h6,q1,q2,q3,q4,q5];apply ih'<;>rfl
theorem ab9{y}{p}(oy:OkI y)(hp:0<=p/\p<=1000):∃z,OkI z/\R 272 [Ii p,ae y] []=some (ae z,[]):=by
 have h1:=nT (n:=1) ⟨by decide,by decide⟩;have o1:OkI (cY 1):=gM ⟨by decide,by decide⟩;have hL:=art oy hp 18446744073709551615 1 _ _ o1 o1 ⟨by decide,by decide⟩ δ;have hA:∀ {x},OkI x->R 283 [ae x] []=some (ae (Xr x),[]):=fun h=>N2 h;have hS:∀ {x w},OkI x->OkI w->R 234 [Ii p,ae x,ae w] []=some (ae (de x w p),[]):=fun h g=>CJ h g;have key:∃z,OkI z/\fk false iS.rs iS.res 0 (am R (aA false) iS.body (iW [Ii p,ae y]) (fun _=>.dead))=some (ae z,[]):=by
  generalize hLL:aB (am R (aA false) fC)=L at hL;have hX:∀s h,am R (aA false) (.loop [2,3,4,5,6,7] [2,3,4,5,6] fC) s h=L [2,3,4,5,6,7] [2,3,4,5,6] s h:=fun s h=>by rw[←hLL];rfl
  simp only[ae,ah]at h1 hL hA hS;simp only[iS,Do,ae,ah,go_sem,h1,hX];generalize hBB:ao 0 [2,4,5,6] (L _ _ _ _)=X;obtain⟨t,s,ot,os,hh,hE,k2,k4,k5,k6,kd⟩:=hL _ _ _ hBB Z Z Z Z Z Z Z Z Z Z Z;have hA:=hA ot;have oa:=ak7 ot;generalize Xr t=a at*
  have hS:=hS os oa;have oz:OkI (de s a p):=kW;generalize de s a p=z at*
  refine⟨z,oz,?_⟩;rw[hE];simp only[go_sem,k2,k4,k5,k6,kd,ne_eq,not_false_eq_true,hA,hS]
 obtain⟨z,oz,hz⟩:=key;exact⟨z,oz,au Lg rfl hz⟩
noncomputable def ahU (p:Int) (y:Ri):Option Ri:=open Classical in if h:∃z,OkI z/\R 272 [Ii p,ae y] []=some (ae z,[])then some h.choose else none
theorem aca:ahT ahU:=fun p y z hp oy h=>by
 unfold ahU at h;rw[dif_pos (ab9 oy hp)]at h;grind
theorem apd{p}(hp:0<=p/\p<=1000):∀n {y},OkI y->∃z,hvR ahU p n y=some z
 |0,_,oy=>⟨_,dif_pos (ab9 oy hp)⟩
 |n+1,_,_=>by
  obtain⟨z,hz⟩:=apd hp n ak4;exact⟨Qa z p,by unfold hvR;rw[hz];rfl⟩
theorem dvq{m}{b}(hm:Lb m)(h1:m.length<=256)(h2:(ax b).length<=256)(b0:b≠0):∃Q Rr,R 307 [lm m,lm (ax b)] []=some (.tup [lm Q,lm Rr],[])/\Lb Q/\ab Q=ab m/b/\Q.length<=100000:=by
 by_cases hl:ab m<b
 ·have t1:=cI hm ω;have t2:=cI (aH b) ω;have la:=eA m hm;have hc:=tC (aH (ab m)) (aH b) ω ω;rw[aJ]at t2;rw[aJ,aJ]at hc;have e1:=tt (Kt.symm▸hl);have h3:=Xm (a:=ab m) ω;refine⟨[],ax (ab m),au wG rfl ?_,JV,?_,aE9 _⟩
  ·simp only[mB,rB,go_sem,t1,t2,hc,e1,h3]
  ·rw[Nat.div_eq_of_lt hl];rfl
 grind[WU,aH,aJ]
theorem at1{x y}:x+y<4294967296^ (max (ax x).length (ax y).length+1):=by
 grind[aFQ,fJ,aFu,Nat.le_max_right,ax,aFJ]
theorem afp{a b}:(0<=dM a b)=¬a<b:=by
 rw[←Kt (a:=a) (b:=b)];grind
theorem ak8{m}(hm:Lb m)(hl:m.length<=256)(h0:ab m≠0):∀f x,x<=f->x≠0->(ax x).length<=256->∀S h X,ao 0 [2,3] (aB (am R (aA false) mA) [0,5] [] S h)=X->S 0=lm m->S 5=lm (ax x)->
  ∃s,(ax s).length<=256/\∃ss hh,X=some (.ret,⟨ss,hh⟩)/\ss 2=lm (ax s)/\ss 3=I 0:=by
 intro f;induction f with
 |zero=>
  omega
 |succ f ih=>
  intro x hx x0 lx S h X hX k0 k5;obtain⟨Q,Rr,g1,q1,q2,q3⟩:=dvq hm hl lx x0;have g2:=cI q1 ω;rw[q2]at g2;have ly:(ax (ab m/x)).length<=256:=by
   have:=eA m hm;exact aEX (DJ (aF1 _ _)) ω
  have g3:=aaH (aH x) (aH (ab m/x)) ω ω;rw[aJ,aJ]at g3;have hs:=at1 (x:=x) (y:=ab m/x);have vS:ab (fS (max (ax x).length (ax (ab m/x)).length+1) (x+ab m/x))=x+ab m/x:=by
   rw[po,aFG hs]
  have lS:=dv (max (ax x).length (ax (ab m/x)).length+1) (x+ab m/x);have g4:=aaO (qT (max (ax x).length (ax (ab m/x)).length+1) (x+ab m/x)) (n:=1) ω δ;rw[vS,show 1/32=0 from rfl,Nat.sub_zero,Nat.pow_one,show((1:Nat):Int)=1 from rfl]at g4;have lT:=dv (ax (x+ab m/x)).length ((x+ab m/x)/2);have g5:=cI (qT (ax (x+ab m/x)).length ((x+ab m/x)/2)) (by
   have:=eN hs;omega)
  rw[po,aFG (aFl (aF1 _ _) (fJ _))]at g5;have y0:(x+ab m/x)/2≠0:=by
   grind
  generalize hy:(x+ab m/x)/2=y at*
  have lY:(ax y).length<=100000:=by
   have h1:=eN hs;have h2:(ax y).length<=(ax (x+ab m/x)).length:=DJ ω;omega
  have g6:=tC (aH y) (aH x) lY ω;rw[aJ,aJ]at g6;subst hX;rw[ai];by_cases c:y<x
  ·have f1:=ff (afp.symm▸ (fun h=>h c):¬0<=dM y x);have ih':=ih y ω y0 (aEX (DJ (Nat.le_of_lt c)) lx);simp only[mA,go_sem,aEP,aEO,aEN,aX,k0,k5,g1,g2,g3,g4,g5,g6,f1];apply ih'<;>rfl
  ·have f1:=tt (afp.symm▸c);have g7:=GX (aH x) ω;rw[aJ,lq,av ω]at g7;refine⟨x,lx,?ss0,?hh0,?_,?_,?_⟩;rotate_left 2
   ·simp only[mA,go_sem,aEP,aEO,aEN,aX,k0,k5,g1,g2,g3,g4,g5,g6,g7,f1];rfl
   all_goals rfl
theorem aoc{m}(hm:Lb m)(hl:m.length<=256):∃s,(ax s).length<=256/\R 288 [lm m] []=some (.tup [lm (ax s),I 0],[]):=by
 have g1:=tO m;have f1:(256<m.length)=False:=ff;have g2:=Cs hm ω;have hb:=HP hm;by_cases c:ab m=0
 ·refine⟨0,by simp_all[cO,aE9],au J3 rfl ?_⟩;have e:ag 0=0:=by simp[ag]
  rw[c,e]at g2;simp only[lR,Ek,go_sem,aEP,aEO,aEN,aX,g1,f1,g2,cO]
  try rfl
 have b0:=fE c;obtain⟨k,hk⟩:∃k,(ag (ab m)+1)/2=k:=⟨_,rfl⟩;have e1:aG ((ag (ab m))+1)=((ag (ab m)+1:Nat):Int):=wi;have e2:=Vc (n:=ag (ab m)+1) (m:=2) (i:=(ag (ab m)+1:Nat)) (j:=2) Z Z ω ω;rw[hk]at e2;have f2:((ag (ab m):Int)=0)=False:=ff;have g3:=No HQ δ (n:=k) ω;rw[Ve,Nat.one_mul]at g3;have d1:(ax 1).length=1:=by
  grind[vj,cO]
 rw[d1]at g3;have hlt:2^k<4294967296^ (k/32+1+1):=by
  rw[show 4294967296=2^32 from rfl,←Nat.pow_mul];exact Nat.pow_lt_pow_right δ ω
 have lU:=dv (k/32+1+1) (2^k);have g4:=cI (qT (k/32+1+1) (2^k)) ω;rw[po,aFG hlt]at g4;have lx:(ax (2^k)).length<=256:=aEX (eN hlt) ω;have hL:=ak8 hm hl c (2^k) (2^k) (aET _) (Nat.pos_iff_ne_zero.1 (aE7 k)) lx;have key:∃s,(ax s).length<=256/\fk false lR.rs lR.res 0 (am R (aA false) lR.body (iW [lm m]) (fun _=>.dead))=some (.tup [lm (ax s),I 0],[]):=by
  generalize hLL:aB (am R (aA false) mA)=L at hL;have hX:∀s h,am R (aA false) (.loop [0,5] [] mA) s h=L [0,5] [] s h:=fun s h=>by rw[←hLL];rfl
  simp only[lR,Ek,go_sem,aEP,aEO,aEN,aX,oj,g1,f1,g2,f2,e1,e2,g3,g4,hX,wH,aES,aET,aFX,Q1,List.take_length];generalize hBB:ao 0 [2,3] (L _ _ _ _)=X;obtain⟨s,ls,ss,hh,hE,s2,s3⟩:=hL _ _ _ hBB Z Z;refine⟨s,ls,?_⟩;rw[hE];simp only[go_sem,s2,s3]
 obtain⟨s,ls,hs⟩:=key;exact⟨s,ls,au J3 rfl hs⟩
theorem afq{q:Nat}{u:Int}:Ok0 (cA (aZ false q u)).1:=by
 have h:=(xO (z:=(q:Int)) (f:=u)).2;grind[fF,aZ,decide_eq_false,Int.natAbs_natCast]
theorem aru{up:Bool}{q:Nat}{u:Int}:Ok0 (tU p up q u).1:=by
 unfold tU;split
 ·split
  ·exact aO.2
  ·exact afq
 ·exact afq
theorem at2{z:Int}(h:-30000<=z/\z<=30000):-40000<=z.tdiv 2/\z.tdiv 2<=40000:=by
 grind
theorem acb(ok:Ok0 d){p:Int}{up:Bool}:∃r:Rd×Int,Ok0 r.1/\R 239 [af d,I p,B up] []=some (rV r,[]):=by
 have hf:R 169 [I p,.sl 3 [[B d.neg,lm d.m,I d.e]]] []=some (I (bo p [d]),[]):=BU (p:=p) (l:=[d]) (fun x hx=>by
  grind) (show 1<=100000 by decide)
 have fin:∀r:Rd×Int,Ok0 r.1->fk false gx.rs gx.res 0 (am R (aA false) gx.body (iW [af d,I p,B up]) (fun _=>.dead))=some (rV r,[])->∃r:Rd×Int,Ok0 r.1/\R 239 [af d,I p,B up] []=some (rV r,[]):=fun r o h=>⟨r,o,au aaq rfl h⟩;by_cases h0:bo p [d]=0
 ·obtain⟨v1,v2,v3⟩:=vM h0;have v:vd d=true:=γ
  obtain⟨a1,a2,a3,a4⟩:=dT v ok.lb;rw[h0]at hf;cases hn:d.neg with
  |true=>
   rw[hn]at hf;refine fin (aC,2) aO.2 ?_;simp only[gx,rV,af,ak,aC,go_sem,aEP,aEO,aEN,aX,hf,hn]
  |false=>
  rw[hn]at hf;by_cases l0:d.m.length=0
  ·have e1:((d.m.length:Int)=0)=True:=tt;refine fin (aC,0) aO.2 ?_;simp only[gx,rV,af,ak,aC,go_sem,aEP,aEO,aEN,aX,hf,hn,e1]
  have e1:((d.m.length:Int)=0)=False:=ff;have b1:=Ln ok;rw[ap v]at b1;have w1:aG (2*p)=2*p:=by grind[i64_in]
  have w2:aG (2*p+4)=2*p+4:=by grind[i64_in]
  have w3:aG (2*p+4- (ag (ab d.m):Nat))=2*p+4- (ag (ab d.m):Nat):=by grind[i64_in]
  obtain⟨k,hk⟩:∃k:Nat,(if(0:Int)<2*p+4- (ag (ab d.m):Nat)then 2*p+4- (ag (ab d.m):Nat)else 0)=k:=by
   split
   ·exact⟨(2*p+4- (ag (ab d.m):Nat)).toNat,by omega⟩
   grind
  have hk2:k+ag (ab d.m)<=5200:=by
   omega
  have w4:aG (d.e- (k:Int))=d.e-k:=by grind[i64_in]
  have w5:aG ((k:Int)+1)=((k+1:Nat):Int):=wi;obtain⟨K,hK,hKk⟩:∃K:Nat,(if(d.e- (k:Int)).tmod 2=0 then k else k+1)=K/\K<=k+1:=⟨_,rfl,by split<;>omega⟩;have w6:aG (d.e- (K:Int))=d.e-K:=by grind[i64_in]
  have hb:=at2 (z:=d.e- (K:Int)) ⟨by omega,by omega⟩;have w7:aG ((d.e- (K:Int)).tdiv 2)=(d.e- (K:Int)).tdiv 2:=by grind[i64_in]
  have hA:=dN v l0;have hm2:=eB K hA;have hl2:(ax (ab d.m*2^K)).length<=256:=bk ω;have g1:=Ct ok.lb a1 (k:=K) ω hl2;obtain⟨s,ls,g2⟩:=aoc (aH (ab d.m*2^K)) hl2;have g3:=J6 (aH s) (aH s) ls ls;rw[aJ]at g3;obtain⟨e3,d3⟩:=CK (s*s);rw[d3]at g3;have g4:=tC (aH (Bo (s*s))) (aH (ab d.m*2^K)) (aEX (FN _) δ) ω;have hp2:∃n:Nat,p=n/\8<=n/\n<=512:=⟨p.toNat,by omega,by omega,by omega⟩;obtain⟨n,rfl,hn8⟩:=hp2;have g5:=fun more=>ajp (aH s) ls (e:=(d.e- (K:Int)).tdiv 2) (n:=n) (more:=more) (up:=up) hb hn8;simp only[adY]at g5;have g6:∀more:Bool,∃r:Rd×Int,Ok0 r.1/\R 289 [.agg [lm (ax s),I ((d.e- (K:Int)).tdiv 2),B more],I n,B up] []=some (rV r,[]):=fun more=>⟨_,aru,g5 more⟩;clear g5;obtain⟨⟨r1,r2⟩,o1,q1⟩:=g6 false;obtain⟨⟨t1,t2⟩,o2,q2⟩:=g6 true;clear g6;generalize hE2:(d.e- (K:Int)).tdiv 2=E2 at*
  generalize hcn:dM (ab (ax (Bo (s*s)))) (ab (ax (ab d.m*2^K)))=cn at*
  generalize ax (ab d.m*2^K)=M at*
  generalize ax (Bo (s*s))=SS at*
  simp only[rV,af,ak]at q1 q2 b1;rw[hn]at b1;by_cases c1:(d.e- (k:Int)).tmod 2=0
  ·have f1:=tt c1;rw[ap c1]at hK;subst hK;by_cases c2:cn=0
   ·have f2:=tt c2;refine fin (r1,r2) o1 ?_;simp only[gx,rV,af,ak,aC,go_sem,aEP,aEO,aEN,aX,hf,hn,e1,b1,w1,w2,w3,w4,w5,hE2,w7,hk,f1,g1,g2,g3,g4,f2,q1]
   ·have f2:=ff c2;refine fin (t1,t2) o2 ?_;simp only[gx,rV,af,ak,aC,go_sem,aEP,aEO,aEN,aX,hf,hn,e1,b1,w1,w2,w3,w4,w5,hE2,w7,hk,f1,g1,g2,g3,g4,f2,q2]
  ·have f1:=ff c1;rw[av c1]at hK;subst hK;by_cases c2:cn=0
   ·have f2:=tt c2;refine fin (r1,r2) o1 ?_;simp only[gx,rV,af,ak,aC,go_sem,aEP,aEO,aEN,aX,hf,hn,e1,b1,w1,w2,w3,w4,w5,w6,hE2,w7,hk,f1,g1,g2,g3,g4,f2,q1]
   ·have f2:=ff c2;refine fin (t1,t2) o2 ?_;simp only[gx,rV,af,ak,aC,go_sem,aEP,aEO,aEN,aX,hf,hn,e1,b1,w1,w2,w3,w4,w5,w6,hE2,w7,hk,f1,g1,g2,g3,g4,f2,q2]
 ·have e1:(bo p [d]=0)=False:=ff h0;refine fin (aC,bo p [d]) aO.2 ?_;simp only[gx,rV,af,ak,aC,go_sem,aEP,aEO,aEN,aX,hf,e1]
theorem ak9(ok:Ok0 d){p:Int}:∃r:Rd×Int,Ok0 r.1/\R 177 [af d,I p] []=some (rV r,[]):=by
 obtain⟨r,o,h⟩:=acb ok (p:=p) (up:=false);refine⟨r,o,au QK rfl ?_⟩;simp only[rV,af,ak]at h;simp only[AJ,rV,af,ak,go_sem,h]
theorem ala(ok:Ok0 d){p:Int}:∃r:Rd×Int,Ok0 r.1/\R 178 [af d,I p] []=some (rV r,[]):=by
 obtain⟨r,o,h⟩:=acb ok (p:=p) (up:=true);refine⟨r,o,au US rfl ?_⟩;simp only[rV,af,ak]at h;simp only[De,rV,af,ak,go_sem,h]
theorem aod(ok:OkI x){p:Int}:∃y,OkI y/\R 117 [ae x,I p] []=some (ae y,[]):=by
 have fin:∀y,OkI y->fk false gV.rs gV.res 0 (am R (aA false) gV.body (iW [ae x,I p]) (fun _=>.dead))=some (ae y,[])->∃y,OkI y/\R 117 [ae x,I p] []=some (ae y,[]):=fun y oy h=>⟨y,oy,au SU rfl h⟩;have hk:=kU ok;have hp:=l8 (p:=p);have hw:=dW;cases h1:kI x with
 |false=>
  rw[h1]at hk;refine fin bt gX.ok' ?_;simp only[gV,ae,ah,bt,aC,go_sem,hk,hw]
 |true=>
 rw[h1]at hk;cases h2:bv p with
 |false=>
  rw[h2]at hp;refine fin bt gX.ok' ?_;simp only[gV,ae,ah,bt,aC,go_sem,hk,hp,hw]
 |true=>
 rw[h2]at hp;obtain⟨_,v1,v2⟩:=DH h1;have hs:=tT ok.lo v1;generalize kl x.lo=g at*
 simp only[af,ak]at hs;by_cases c:g<=0
 ·have f:=tt c;refine fin bt gX.ok' ?_;simp only[gV,ae,ah,bt,aC,go_sem,aEP,aEO,aEN,aX,hk,hp,hs,f,hw]
 have f:=ff c;obtain⟨r,o1,g1⟩:=ak9 ok.lo (p:=p);obtain⟨q,o2,g2⟩:=ala ok.hi (p:=p);obtain⟨r1,r2⟩:=r;obtain⟨q1,q2⟩:=q;have hm:=Cu (a:=r1) (b:=q1) (e:=r2) (f:=q2);refine fin (kD (r1,r2) (q1,q2)) (zF o1 o2) ?_;simp only[ae,ah,rV,af,ak]at g1 g2 hm;simp only[gV,ae,ah,go_sem,aEP,aEO,aEN,aX,hk,hp,hs,f,g1,g2,hm]
def Kv(d:Rd)(k:Int):Rd×Int:=if vd d=true∧-32768<=k/\k<=32768 then cA (aZ d.neg (ab d.m) (d.e+k))else(aC,1)
theorem at3(h:Ok0 d):Ok0 (cA d).1:=by
 unfold cA;split
 ·omega
 ·exact aO.2
theorem alb(ok:Ok0 d){k:Int}:Ok0 (Kv d k).1:=by
 unfold Kv;split
 ·rename_i h;obtain⟨_,h1,h2,h3⟩:=dT h.1 ok.lb;exact at3 ⟨sx _ _ _,aFl (pq (k:=128) ω) δ⟩
 ·exact aO.2
theorem Xs{s:Rd}(ok:Ok0 s){k:Int}:R 150 [af s,I k] []=some (rV (Kv s k),[]):=by
 refine au En rfl ?_;have hv:=eC ok;have hx:=xM (e:=k);unfold Kv;cases v:vd s with
 |false=>
  rw[v]at hv;simp only[af,ak]at hv;simp only[lP,rV,af,ak,aC,go_sem,hv]
 |true=>
 rw[v]at hv;by_cases c:-32768<=k/\k<=32768
 ·obtain⟨_,h1,h2,h3⟩:=dT v ok.lb;have hl:Ok0 (aZ s.neg (ab s.m) (s.e+k)):=⟨sx _ _ _,aFl (pq (k:=128) ω) δ⟩;rw[ap ⟨rfl,c⟩];rw[decide_eq_true c.1,decide_eq_true c.2]at hx;have ho:=l6 (neg:=s.neg) (m:=s.m) (e:=s.e+k) ok.lb ω (by grind[Exq]);have hc:=Ar hl.lb (aEX (pq (k:=128) ω) δ);have ew:aG (s.e+k)=s.e+k:=by grind[i64_in]
  generalize aZ s.neg (ab s.m) (s.e+k)=d at ho hc⊢;have e:(if rP (ag (ab d.m)) d.e=true then AV.tup [af d,I 0]else .tup [af aC,I 9])=rV (cA d):=by
   grind[cA,rV]
  rw[e]at hc;simp only[af,ak,rV]at hv ho hc;simp only[lP,rV,af,ak,go_sem,hv,hx,ho,hc,ew,aFE]
 ·rw[av (fun h=>c h.2)];have hb:(decide (-32768<=k)&&decide (k<=32768))=false:=by
   grind
  rw[hb]at hx;simp only[af,ak]at hv;simp only[lP,rV,af,ak,aC,go_sem,hv,hx]
def Ja(x:Ri)(k:Int):Ri:=if kI x=true then kD (Kv x.lo k) (Kv x.hi k)else bt
theorem N3(ox:OkI x){k:Int}:OkI (Ja x k):=by
 unfold Ja;split
 ·exact zF (alb ox.lo) (alb ox.hi)
 ·exact gX.ok'
theorem N4(ox:OkI x){k:Int}:R 118 [ae x,I k] []=some (ae (Ja x k),[]):=by
 refine au HG rfl ?_;have hk:=kU ox;have hw:=dW;unfold Ja;cases h1:kI x with
 |false=>
  rw[h1]at hk;simp only[mq,ae,ah,bt,aC,go_sem,hk,hw,aFv]
 |true=>
  rw[h1]at hk;have hl:=Xs ox.lo (k:=k);have hh:=Xs ox.hi (k:=k);generalize Kv x.lo k=r at*
  generalize Kv x.hi k=q at*
  obtain⟨r1,r2⟩:=r;obtain⟨q1,q2⟩:=q;have hm:=Cu (a:=r1) (b:=q1) (e:=r2) (f:=q2);simp only[ae,ah,rV,af,ak]at hk hw hl hh hm;simp only[mq,ae,ah,go_sem,hk,hl,hh,hm]
theorem T7{n:Nat}{w}(h0:M≠0)(hn:8<=n/\n<=512)(hT:T<32768)(h:M<=2^ (T+j)):
  (cx M (-16384-j) false n w).2=0/\0<=zI (cx M (-16384-j) false n w).1/\zI (cx M (-16384-j) false n w).1<=(2^T:Nat):=by
 have hd:dR M n j<=T+j:=by
  have:=bH.2 (aFl h (Nat.pow_lt_pow_right δ (Nat.lt_succ_self _)));grind[dR]
 have h1:rq w M (dR M n j)*2^dR M n j<=2^ (T+j):=by
  refine aEX (aE4 _ (aeX h)) ?_;rw[atI hd,←aE2];grind
 obtain⟨c1,c2⟩:=(VV (w:=w) (j:=j) h0 hn).1 (aFl h1 (Nat.pow_lt_pow_right δ ω));have c3:=akC (w:=w) (j:=j) h0 hn c1;refine⟨c1,c3,?_⟩;have h2:zI (cx M (-16384-j) false n w).1*(2^j:Nat)<=(2^T:Nat)*(2^j:Nat):=by
  grind
 exact Int.le_of_mul_le_mul_right h2 (Int.ofNat_lt.2 (aE7 j))
theorem alc{z}{n:Nat}{up}(hn:8<=n/\n<=512)(hT:T<32768)(h:z.natAbs<=2^ (T+j)):
  (kS z (-16384-j) n up).2=0/\(zI (kS z (-16384-j) n up).1).natAbs<=2^T:=by
 rcases Int.lt_trichotomy z 0 with a|rfl|a
 ·rw[aeY a];obtain⟨s1,s2⟩:=akD (M:=z.natAbs) (f:=-16384-j) (p:=n) (w:=!up);obtain⟨b1,b2,b3⟩:=T7 (w:=!up) (show z.natAbs≠0 by omega) hn hT h;omega
 ·simp_all[ahE,cS,aC,aE9]
 ·rw[O8 a];obtain⟨b1,b2,b3⟩:=T7 (w:=up) (show z.natAbs≠0 by omega) hn hT h;omega
theorem V3{a b}{p}{T U V}{up}(va:vd a=true)(vb:vd b=true)(hp:bv p=true)(e:T+U=V+16384)(hV:V<32768)(ha:(zI a).natAbs<=2^T)(hb:(zI b).natAbs<=2^U):(eJ a b p up).2=0/\(zI (eJ a b p up).1).natAbs<=2^V:=by
 obtain⟨f1,n,rfl,hn⟩:=Ib va vb hp;unfold eJ;rw[ap f1];refine alc (j:=16384) hn hV ?_;rw[Int.natAbs_mul,←e,aE2];exact Nat.mul_le_mul ha hb
def Mq(T:Nat)(x:Ri):Prop:=kI x=true->(zI x.lo).natAbs<=2^T/\(zI x.hi).natAbs<=2^T
theorem GR{x}(ok:OkI x)(h:kI x=true):VI x:=by
 obtain⟨_,v1,v2⟩:=DH h;exact⟨⟨v1,ok.lo⟩,⟨v2,ok.hi⟩⟩
theorem Mq.mul{x y}{p}{T U V}(ox:OkI x)(oy:OkI y)(e:T+U=V+16384)(hV:V<32768)(hx:Mq T x)(hy:Mq U y):Mq V (bX x y p):=by
 intro hk;cases hc:(kI x&&kI y&&bv p)with
 |false=>
  unfold bX at hk;rw[hc,av aE3]at hk;cases hk
 |true=>
 have hc2:=hc;simp only[aEV]at hc2;obtain⟨⟨kx,ky⟩,hp⟩:=hc2;obtain⟨x1,x2⟩:=hx kx;obtain⟨y1,y2⟩:=hy ky;have lx:∀i,(zI (ed x y i).1).natAbs<=2^T:=fun i=>by unfold ed;grind
 have ly:∀i,(zI (ed x y i).2).natAbs<=2^U:=fun i=>by unfold ed;grind
 have key:∀i up,(eJ (ed x y i).1 (ed x y i).2 p up).2=0/\(zI (eJ (ed x y i).1 (ed x y i).2 p up).1).natAbs<=2^V:=fun i up=>by
  obtain⟨v1,v2⟩:=ahG (GR ox kx) (GR oy ky) i;exact V3 v1 v2 hp e hV (lx i) (ly i)
 obtain⟨t,t0,_,⟨j,_,t1⟩,j',_,t2⟩:=LI (dn:=fun a b=>eJ a b p false) (up:=fun a b=>eJ a b p true) (pr:=ed x y) (fun a b=>H4.1) (fun a b=>H4.1) fun i _=>⟨(key i false).1,(key i true).1⟩;have e:bX x y p=⟨t.1,t.2,false⟩:=by
  unfold bX;rw[hc,ap rfl,t0];rfl
 grind
theorem Mq.sq{x}{p}{T V}(ox:OkI x)(e:T+T=V+16384)(hV:V<32768)(hx:Mq T x):Mq V (Qa x p):=by
 intro hk;cases hc:(!(nG x).all&&bv p)with
 |false=>
  unfold Qa at hk;rw[hc,av aE3]at hk;cases hk
 |true=>
 unfold Qa;simp only[aEV,aFS]at hc;cases kx:kI x with
 |false=>
  unfold nG at hc;rw[kx,av aE3]at hc;cases hc.1
 |true=>
 obtain⟨x1,x2⟩:=hx kx;have v:=GR ox kx;have hle:=(OF kx).2.2.1;obtain⟨m1,m2⟩:=ao2 v hle;obtain⟨m3,m4⟩:=YG v;have ea:nG x=⟨BW x,qB x,false⟩:=by
  unfold nG;grind
 have b1:(zI (BW x)).natAbs<=2^T:=by
  omega
 have b2:(zI (qB x)).natAbs<=2^T:=by
  omega
 obtain⟨r1,r2⟩:=V3 (up:=false) m1 m1 hc.2 e hV b1 b1;obtain⟨r3,r4⟩:=V3 (up:=true) m3 m3 hc.2 e hV b2 b2;unfold kD;grind
theorem Mq.small{x}(ox:OkI x)(hp:0<=p)(hT:T+1+p<=16384)(hx:Mq T x):Xq x p=true:=by
 unfold Xq;split
 ·rename_i kx;obtain⟨x1,x2⟩:=hx kx;have v:=GR ox kx;obtain⟨m3,m4⟩:=YG v;have om:=(T2 ox kx).2;have b2:(zI (qB x)).natAbs<=2^T:=by
   omega
  unfold smB;by_cases h0:(qB x).m.length=0
  ·rw[show kl (qB x)=0 by unfold kl;omega];rfl
  ·have hm:mg (qB x)<=2^T:=by
    unfold zI at b2;omega
   have hb:=J7 m3 om.lb h0;have:=bH.2 (aFl hm (Nat.pow_lt_pow_right δ (Nat.lt_succ_self T)));grind
 ·rfl
theorem at4{n E:Nat}{f:Int}{more w}(h0:M≠0)(hn:8<=n/\n<=512)(hT:T<32768)(hm:more=true->(n:Int)< (ag M))(hE:M+more.toNat<=2^E)(hf:f+E+16384=T):
  (cx M f more n w).2=0/\0<=zI (cx M f more n w).1/\zI (cx M f more n w).1<=(2^T:Nat):=by
 have e0:(2*M+more.toNat)/2^1=M:=by
  cases more<;>simp<;>omega
 have e:cx M f more (n:Int) w=cx (2*M+more.toNat) (f-1) false (n:Int) w:=by
  have h:=Vj (N:=2*M+more.toNat) (k:=1) (f:=f-1) (p:=(n:Int)) (more:=more) (up:=w) ω (by
   cases more
   all_goals grind) γ
  grind
 have hN:2*M+more.toNat<=2^ (E+1):=by
  omega
 rw[e];by_cases c:-16384<=f-1
 ·obtain⟨k,hk⟩:∃k:Nat,f-1=-16384+(k:Int):=⟨(f-1+16384).toNat,by omega⟩;have h:=IV (M:=2*M+more.toNat) (k:=k) (f:=-16384) (p:=(n:Int)) (up:=w) ω;have g:=T7 (M:=(2*M+more.toNat)*2^k) (j:=0) (w:=w) (by
   grind[Nat.mul_ne_zero]) hn hT (by
   refine aEX (aE4 _ hN) ?_;rw[←aE2];grind)
  grind
 ·obtain⟨j,hj⟩:∃j:Nat,f-1=-16384- (j:Int):=⟨(-16384- (f-1)).toNat,by omega⟩;rw[hj];exact T7 (w:=w) ω hn hT (aEX hN (aFu δ ω))
theorem arv{neg}{r}(h:r.2=0)(h0:0<=zI r.1):(iq neg r).2=0/\(vd r.1=true->(zI (iq neg r).1).natAbs=(zI r.1).natAbs):=by
 grind[iq,Cx,Int.natAbs_neg]
theorem ahV{e:Nat}(h:d.e+16384=e):mg d=ab d.m*2^e:=by
 grind[mg]
theorem arw{a b}{p}{A B}{up}(oa:Ok0 a)(ob:Ok0 b)(va:vd a=true)(vb:vd b=true)(hp:bv p=true)(hA:B<32768)(ha:(zI a).natAbs<=2^A){K}(hK:A+16384=B+K)(hb:(2^K:Nat)<=zI b):(lC a b p up).2=0/\(zI (lC a b p up).1).natAbs<=2^B:=by
 obtain⟨f1,n,rfl,hn⟩:=Ib va vb hp;generalize hP:2^K=P at hb;have hb0:b.m.length≠0:=fun h=>by
  rw[cS h]at hb;grind
 unfold lC;rw[ap f1,av hb0];by_cases ha0:a.m.length=0
 ·rw[ap ha0];exact⟨rfl,by rw[show zI (aC,0).1=0 from cS rfl];grind⟩
 rw[av ha0];obtain⟨_,a1,a2,a3⟩:=dT va oa.lb;obtain⟨_,b1,b2,b3⟩:=dT vb ob.lb;obtain⟨ea,hea⟩:∃e:Nat,a.e+16384=e:=⟨(a.e+16384).toNat,by omega⟩;obtain⟨eb,heb⟩:∃e:Nat,b.e+16384=e:=⟨(b.e+16384).toNat,by omega⟩;have hA0:=dN va ha0;have hB0:=dN vb hb0;have hma:ab a.m*2^ea<=2^A:=by
  grind[ahV,zI]
 have hmb:P<=ab b.m*2^eb:=by
  grind[ahV,zI]
 obtain⟨k,hk⟩:∃k,yb a b n=k:=⟨_,rfl⟩;have hk2:n+3+ag (ab b.m)-ag (ab a.m)<=k:=by
  grind[yb]
 rw[hk];generalize ab a.m=x at*
 generalize ab b.m=y at*
 have lx:2^ (ag x-1)<=x:=Kh (by grind[fE]);have ly:y<2^ag y:=bH.1 (aET _);have px:=fE hA0;have c1:ag x-1+ea<=A:=by
  refine(Nat.pow_le_pow_iff_right (a:=2) δ).1 ?_;rw[aE2];exact aEX (aE4 _ lx) hma
 have c2:K<ag y+eb:=by
  refine(Nat.pow_lt_pow_iff_right (a:=2) δ).1 ?_;rw[hP,aE2];exact aFl hmb (Nat.mul_lt_mul_of_pos_right ly (aE7 eb))
 obtain⟨E,hE⟩:∃E,ea+K+E=A+k+eb:=⟨A+k+eb- (ea+K),by omega⟩;have hle:x*2^k<=2^E*y:=by
  refine Nat.le_of_mul_le_mul_right (c:=2^ea*P) ?_ (Nat.mul_pos (aE7 ea) γ);have q1:x*2^k*(2^ea*P)=(x*2^ea)*2^k*P:=γ
  have q2:2^E*y*(2^ea*P)=2^ (A+k)*(y*2^eb):=by
   rw[←hP];have q3:2^E*2^ea*2^K=2^ (A+k)*2^eb:=by
    rw[←aE2,←aE2,←aE2];grind
   grind
  simp_all[aE2,Nat.mul_le_mul,aE4]
 have hq:2^ (n+2)<=x*2^k/y:=by
  rw[Nat.le_div_iff_mul_le ω];refine aEX (aFV _ (Nat.le_of_lt ly)) ?_;refine aEX ?_ (aE4 _ lx);rw[←aE2,←aE2];exact aFu δ ω
 have hN:x*2^k/y≠0:=by
  grind
 have hbl:(n:Int)< (ag (x*2^k/y)):=by
  have:¬ag (x*2^k/y)<=n:=fun h=>by
   have h1:=bH.1 h;grind
  omega
 have hmr:x*2^k/y+(decide (x*2^k%y≠0)).toNat<=2^E:=by
  have q1:=aFM (x*2^k) y;generalize x*2^k/y=N at*
  generalize x*2^k%y=r at*
  by_cases c:r=0
  ·rw[decide_eq_false ω];refine Nat.le_of_mul_le_mul_left (show y*N<=y*2^E from ?_) ω;grind
  ·rw[decide_eq_true c];show N<2^E;refine Nat.lt_of_mul_lt_mul_left (show y*N<y*2^E from ?_);grind
 obtain⟨g1,g2,g3⟩:=at4 (f:=a.e-k-b.e) (T:=B) (E:=E) (w:=up != (a.neg !=b.neg)) (more:=decide (x*2^k%y≠0)) hN hn hA (fun _=>hbl) hmr ω;grind[arv,g1,OU]
theorem Mq.div{x y}{p}{A B K}(ox:OkI x)(oy:OkI y)(hB:B<32768)(hK:A+16384=B+K)(hx:Mq A x)(hy:kI y=true->(2^K:Nat)<=zI y.lo):Mq B (dC x y p):=by
 intro hk;cases hc:(kI x&&kI y&&bv p)with
 |false=>
  unfold dC at hk;rw[hc,av aE3]at hk;cases hk
 |true=>
 have hc2:=hc;simp only[aEV]at hc2;obtain⟨⟨kx,ky⟩,hp⟩:=hc2;obtain⟨x1,x2⟩:=hx kx;have y1:=hy ky;have y2:=Int.le_trans y1 (OF ky).2.2.1;have lx:∀i,(zI (ed x y i).1).natAbs<=2^A:=fun i=>by unfold ed;grind
 have ly:∀i,(2^K:Nat)<=zI (ed x y i).2:=fun i=>by unfold ed;grind
 have ok:∀i,Ok0 (ed x y i).1/\Ok0 (ed x y i).2:=fun i=>by
  unfold ed;split
  ·exact⟨ox.lo,oy.lo⟩
  ·exact⟨ox.lo,oy.hi⟩
  ·exact⟨ox.hi,oy.lo⟩
  ·exact⟨ox.hi,oy.hi⟩
 have key:∀i up,(lC (ed x y i).1 (ed x y i).2 p up).2=0/\(zI (lC (ed x y i).1 (ed x y i).2 p up).1).natAbs<=2^B:=fun i up=>by
  obtain⟨v1,v2⟩:=ahG (GR ox kx) (GR oy ky) i;exact arw (ok i).1 (ok i).2 v1 v2 hp hB (lx i) hK (ly i)
 obtain⟨t,t0,_,⟨j,_,t1⟩,j',_,t2⟩:=LI (dn:=fun a b=>lC a b p false) (up:=fun a b=>lC a b p true) (pr:=ed x y) (fun a b=>xQ.1) (fun a b=>xQ.1) fun i _=>⟨(key i false).1,(key i true).1⟩;by_cases sg:HT y=0
 ·unfold dC at hk;rw[hc,ap rfl,ap sg]at hk;cases hk
 have e:dC x y p=⟨t.1,t.2,false⟩:=by
  unfold dC;rw[hc,ap rfl,av sg,t0];rfl
 grind
def LgX(p:Int)(X:Option (Ex×St)):Prop:=∃P' s',OkI P'/\OkI s'/\∃hh,X=some (.normal,⟨upd (upd (upd (upd ce 7 (ac 7)) 6 (ac 6)) 4 (ac 4)) 2 (ac 2),hh⟩)/\hh 2=.bx [I p]/\hh 4=.bx zC/\hh 6=.bx (ah P')/\hh 7=.bx (ah s')/\∀i,i≠2->i≠4->i≠5->i≠6->i≠7->hh i=.dead
theorem afr{q P s}{p n}(hp:0<=p/\p<=1000)(oP:OkI P)(os:OkI s)(hs:Xq P p=true)(S)(h)(X)(hX:ao 0 [2,4,6,7] (aB (am R (aA false) fA) [2,4,5,6,7,8] [2,4,5,6,7] S h)=X)
  (k2:S 2=ac 2) (k4:S 4=ac 4) (k5:S 5=ac 5) (k6:S 6=ac 6) (k7:S 7=ac 7) (k8:S 8=I n) (h2:h 2=.bx [I p]) (h4:h 4=.bx zC) (h5:h 5=.bx (ah q)) (h6:h 6=.bx (ah P)) (h7:h 7=.bx (ah s)):LgX p X:=by
 have q5:=GQ oP hp;rw[hs]at q5;subst hX;rw[ai];simp only[ae,ah]at q5 h5 h6 h7;refine⟨P,s,oP,os,?hh0,?_,?_,?_,?_,?_,?_⟩;rotate_left
 ·simp only[fA,go_sem,k2,k4,k5,k6,k7,k8,h2,h4,h5,h6,h7,q5];rfl
 all_goals first|rfl| (intro i b1 b2 b3 b4 b5;simp only[cz,b2,if_false, *];try (split<;>rfl))
theorem aoe{q}{p}(oq:OkI q)(hq:Mq 16382 q)(hp:0<=p/\p<=1000):∀ (f T:Nat) P s n,OkI P->OkI s->kR n->Mq T P->T<30000->(T:Int)+1+p<=16384+2*f->∀S h X,ao 0 [2,4,6,7] (aB (am R (aA false) fA) [2,4,5,6,7,8] [2,4,5,6,7] S h)=X->
  S 2=ac 2->S 4=ac 4->S 5=ac 5->S 6=ac 6->S 7=ac 7->S 8=I n->h 2=.bx [I p]->h 4=.bx zC->h 5=.bx (ah q)->h 6=.bx (ah P)->h 7=.bx (ah s)->LgX p X:=by
 intro f;induction f with
 |zero=>
  intro T P s n oP os hn hT h3 hf S h X hX k2 k4 k5 k6 k7 k8 h2 h4 h5 h6 h7;exact afr hp oP os (hT.small oP hp.1 ω) S h X hX k2 k4 k5 k6 k7 k8 h2 h4 h5 h6 h7
 |succ f ih=>
  intro T P s n oP os hn hT h3 hf S h X hX k2 k4 k5 k6 k7 k8 h2 h4 h5 h6 h7;cases hs:Xq P p with
  |true=>exact afr hp oP os hs S h X hX k2 k4 k5 k6 k7 k8 h2 h4 h5 h6 h7
  |false=>
  have hT2:=Int.lt_of_not_ge fun h=>by
   rw[hT.small oP hp.1 h]at hs;grind
  have q1:=Pe oP oq (p:=p);have o1:OkI (bX P q p):=iU;have hM:=Mq.mul (p:=p) (V:=T-2) oP oq ω ω hT hq;have q2:=nT hn;have q3:=Ks o1 (gM hn) (p:=p);have od:OkI (dC (bX P q p) (cY n) p):=kL;have q4:=CJ os od (p:=p);have oa:OkI (de s (dC (bX P q p) (cY n) p) p):=kW;have q5:=GQ oP hp;rw[hs]at q5;generalize de s (dC (bX P q p) (cY n) p) p=s1 at*
  generalize bX P q p=m1 at*
  have ih':=ih (T-2) m1 s1 (IntKind.i64.wrap (n+2)) o1 oa (GO _) hM ω ω;subst hX;rw[ai];simp only[ae,ah]at q1 q2 q3 q4 q5 h5 h6 h7 ih';simp only[fA,go_sem,k2,k4,k5,k6,k7,k8,h2,h4,h5,h6,h7,q1,q2,q3,q4,q5];apply ih'<;>rfl
theorem afs{z}{p}(oz:OkI z)(hp:0<=p/\p<=1000)(hz:Mq 16383 z):∃y,OkI y/\R 235 [Ii p,ae z] []=some (ae y,[]):=by
 have h1:=ak1 oz (p:=p);have o1:OkI (Qa z p):=ak5;have hq:=Mq.sq (p:=p) (V:=16382) oz ω ω hz;have hL:=aoe o1 hq hp 1000 16383 z z 3 oz oz ⟨by omega,by omega⟩ hz ω ω;have hA:∀ {x},OkI x->R 283 [ae x] []=some (ae (Xr x),[]):=fun h=>N2 h;have hS:∀ {x w},OkI x->OkI w->R 234 [Ii p,ae x,ae w] []=some (ae (de x w p),[]):=fun h g=>CJ h g;have hC:∀ {x},OkI x->R 118 [ae x,I 1] []=some (ae (Ja x 1),[]):=fun h=>N4 h;have key:∃y,OkI y/\fk false iQ.rs iQ.res 0 (am R (aA false) iQ.body (iW [Ii p,ae z]) (fun _=>.dead))=some (ae y,[]):=by
  generalize hLL:aB (am R (aA false) fA)=L at hL;have hX:∀s h,am R (aA false) (.loop [2,4,5,6,7,8] [2,4,5,6,7] fA) s h=L [2,4,5,6,7,8] [2,4,5,6,7] s h:=fun s h=>by rw[←hLL];rfl
  simp only[ae,ah]at h1 hL hA hS hC;simp only[iQ,Di,ae,ah,go_sem,h1,hX];generalize hBB:ao 0 [2,4,6,7] (L _ _ _ _)=X;obtain⟨t,s,ot,os,hh,hE,k2,k4,k6,k7,kd⟩:=hL _ _ _ hBB Z Z Z Z Z Z Z Z Z Z Z;have hA:=hA ot;have oa:=ak7 ot;generalize Xr t=a at*
  have hS:=hS os oa;have oz:OkI (de s a p):=kW;generalize de s a p=z at*
  have hC:=hC oz;have oc:=N3 oz (k:=1);generalize Ja z 1=c at*
  refine⟨c,oc,?_⟩;rw[hE];simp only[ah]at k6 k7;simp only[go_sem,k2,k4,k6,k7,kd,ne_eq,not_false_eq_true,hA,hS,hC]
 obtain⟨y,oy,hy⟩:=key;exact⟨y,oy,au Le rfl hy⟩
theorem Ph{n B:Nat}{w:Bool}(hn:8<=n/\n<=512)(hl:2^B<=M)(hu:M<2^ (B+1))(hB:B+1<=32768)(h2:(cx M (-16384- ((0:Nat):Int)) false (n:Int) w).2=0):
  ((2^B:Nat):Int)<=zI (cx M (-16384- ((0:Nat):Int)) false (n:Int) w).1/\zI (cx M (-16384- ((0:Nat):Int)) false (n:Int) w).1<=((2^ (B+1):Nat):Int):=by
 have h0:M≠0:=by
  have:=aE7 B;omega
 have hb:=bH.2 hu;have hd:dR M n 0<=B:=by
  unfold dR;split<;>omega
 have q1:2^ (B-dR M n 0)<=rq w M (dR M n 0):=awe (by rw[show dR M n 0+(B-dR M n 0)=B by omega];exact hl);have q2:rq w M (dR M n 0)<=2^ (B+1-dR M n 0):=aoZ (by rw[show dR M n 0+(B+1-dR M n 0)=B+1 by omega];exact hu);have q3:=aE4 (2^dR M n 0) q1;have q4:=aE4 (2^dR M n 0) q2;rw[←aE2,show B-dR M n 0+dR M n 0=B by omega]at q3;rw[←aE2,show B+1-dR M n 0+dR M n 0=B+1 by omega]at q4;have q5:=(awd w M (dR M n 0)).2;obtain⟨c1,c2⟩:=VV (w:=w) (j:=0) h0 hn;generalize rq w M (dR M n 0)*2^dR M n 0=V at*
 by_cases c:V<2^ (32768+0)
 ·have h:=(c1 c).2;have h:zI (cx M (-16384- ((0:Nat):Int)) false (n:Int) w).1=(V:Int):=by
   rw[←h];simp
  rw[h];exact⟨Int.ofNat_le.2 q3,Int.ofNat_le.2 q4⟩
 ·obtain⟨c3,c4⟩:=c2 (Nat.le_of_not_lt c);cases w with
  |true=>exact absurd h2 (c3 rfl)
  |false=>
   exact absurd (aFl (q5 rfl) (aFQ hu (aFu δ ω))) c
theorem ape{d}{k}{a b:Nat}(ok:Ok0 d)(v:vd d=true)(h:(Kv d k).2=0)(hk:k=b-a):zI (Kv d k).1*(2^a:Nat)=zI d*(2^b:Nat):=by
 obtain⟨_,d1,d2,d3⟩:=dT v ok.lb;unfold Kv at h⊢;split at h
 case isFalse=>omega
 rename_i c;rw[ap c];by_cases h0:d.m.length=0
 ·grind[ab,kT,cS,zI,cA,aC]
 have hv:=dN v h0;have hs:=I2 ok v;have e:aZ d.neg (ab d.m) (d.e+k)=⟨d.neg,d.m,d.e+k⟩:=by
  rw[l7 hv]at hs⊢;grind
 rw[e]at h⊢;unfold cA at h⊢;split at h
 case isFalse=>omega
 rename_i hi;rw[ap hi];have hr:-16384<=d.e+k:=by
  unfold rP at hi;have:=fE hv;grind
 have q:mg ⟨d.neg,d.m,d.e+k⟩*2^a=mg d*2^b:=by
  unfold mg;rw[aFj,aFj,←aE2,←aE2];grind
 unfold zI;generalize mg ⟨d.neg,d.m,d.e+k⟩=x at*
 cases d.neg
 ·rw[av aE3,av aE3,←aF2,←aF2,q]
 ·rw[ap rfl,ap rfl,Int.neg_mul,Int.neg_mul,←aF2,←aF2,q]
def CL(d:Rd)(p:Int):Ri:=Ja (oA (m9 d) p) (0-aQ d)
theorem awj{d}{p}{K}(hK:K=16384)(ok:Ok0 d)(v:vd d=true)(hd:0<zI d)(hk:kI (CL d p)=true):(2^ (K-1):Nat)<=zI (CL d p).lo/\zI (CL d p).hi<=(2^K:Nat):=by
 have h0:d.m.length≠0:=fun h=>by
  grind[cS]
 have hb:=J7 v ok.lb h0;have hz:zI d=(mg d):=by
  unfold zI at hd⊢;grind
 have tb:=(dT v ok.lb).2;have hT:aQ d<=16384:=by
  rw[kJ v h0];have h:=v;unfold vd rP at h;grind
 obtain⟨B,hB⟩:∃B,ag (mg d)=B+1:=⟨ag (mg d)-1,by
  grind[fE,mg]⟩
 have m1:2^B<=mg d:=Kh ω;have m2:mg d<2^ (B+1):=bH.1 ω;unfold CL at hk⊢;cases hr:kI (oA (m9 d) p)with
 |false=>
  unfold Ja at hk;rw[hr,av aE3]at hk;cases hk
 |true=>
 unfold Ja at hk⊢;rw[hr,ap rfl]at hk;rw[hr,ap rfl];unfold kD at hk⊢;split at hk
 case isFalse=>cases hk
 rename_i hs;rw[ap hs];unfold oA at hr hs⊢;split at hr
 case isFalse=>cases hr
 rename_i hp;rw[ap hp]at hs⊢;have hp2:=pZ (Bool.and_eq_true_iff.1 hp).1;unfold kD at hr hs⊢;split at hr
 case isFalse=>cases hr
 rename_i hm;rw[ap hm]at hs⊢;obtain⟨n,rfl⟩:∃n:Nat,p=n:=⟨p.toNat,by omega⟩;have er:∀up,bY d n up=cx (mg d) (-16384- (0:Nat)) false n up:=fun up=>by
  simp_all[bY,ap,bo,O8]
 have w1:=@H3 d n false;have w2:=@H3 d n true;obtain⟨l1,l2⟩:=hs;have z1:=ape (a:=B+1) (b:=K) w1.2 w1.1 l1 ω;have z2:=ape (a:=B+1) (b:=K) w2.2 w2.1 l2 ω;have c1:=Ph (n:=n) (w:=false) ω m1 m2 ω (by rw[←er];exact hm.1);have c2:=Ph (n:=n) (w:=true) ω m1 m2 ω (by rw[←er];exact hm.2);have p1:=Int.ofNat_lt.2 (aE7 (B+1));constructor
 ·refine Int.le_of_mul_le_mul_right (a:=(2^ (B+1):Nat)) ?_ p1;show _<=zI (Kv (bY d n false).1 (0-aQ d)).1*_;grind
 ·refine Int.le_of_mul_le_mul_right (a:=(2^ (B+1):Nat)) ?_ p1;show zI (Kv (bY d n true).1 (0-aQ d)).1*_<=_;grind
theorem aAn:gZ 1=⟨false,[1],0⟩:=by kernel_rfl
theorem aAo:gZ 3=⟨false,[3],0⟩:=by kernel_rfl
theorem aAp:gZ (-1)=⟨true,[1],0⟩:=by kernel_rfl
theorem aof{n}{v K}(hK:K=16384):zI ⟨n,[v],0⟩=cG n (v*2^K):=by
 have h1:zI ⟨n,[v],0⟩=cG n (mg ⟨n,[v],0⟩):=rfl;rw[h1,ahV (e:=K) γ];simp[ab]
theorem apf{K}(hK:K=16384):zI (cY 1).lo=(2^K:Nat)/\zI (cY 1).hi=(2^K:Nat):=by
 unfold cY m9;rw[aAn];have h:zI ⟨false,[1],0⟩=(2^K:Nat):=by rw[aof hK,Nat.one_mul];rfl
 grind
theorem awk{K}(hK:K=16384):zI (cY (-1)).lo=-(2^K:Nat)/\zI (cY (-1)).hi=-(2^K:Nat):=by
 unfold cY m9;rw[aAp];have h:zI ⟨true,[1],0⟩=-(2^K:Nat):=by rw[aof hK,Nat.one_mul];rfl
 grind
theorem aog{p}{A B K}(hA:A=16384)(hB:B=16383)(hK:K=16385):Mq B (dC (cY 1) (cY 3) p):=by
 have o1:OkI (cY 1):=gM ⟨by omega,by omega⟩;have o3:OkI (cY 3):=gM ⟨by omega,by omega⟩;refine Mq.div (A:=A) (K:=K) o1 o3 ω ω (fun _=>?_) fun _=>?_
 ·obtain⟨h1,h2⟩:=apf hA;rw[h1,h2,Int.natAbs_natCast];exact⟨aET _,aET _⟩
 ·unfold cY m9;rw[aAo];rw[aof hA,show K=A+1 by omega,aFJ];show _<=((3*2^A:Nat):Int);omega
theorem T8{x y}{p}(hk:kI (de x y p)=true):kI x=true/\kI y=true/\bv p=true/\(dh x.lo y.lo p false).2=0/\(dh x.hi y.hi p true).2=0/\de x y p=⟨(dh x.lo y.lo p false).1,(dh x.hi y.hi p true).1,false⟩:=by
 unfold de at hk⊢;split at hk
 case isFalse=>cases hk
 unfold kD at hk⊢;split at hk
 case isFalse=>cases hk
 grind
theorem awl{d}{p}{A K}(hA:A=16383)(hK:K=16384)(ok:Ok0 d)(v:vd d=true)(hd:0<zI d):Mq A (dC (de (CL d p) (cY (-1)) p) (de (CL d p) (cY 1) p) p):=by
 have om:∀hk,VI (CL d p)/\(2^A:Nat)<=zI (CL d p).lo/\zI (CL d p).lo<=zI (CL d p).hi/\zI (CL d p).hi<=(2^K:Nat):=fun hk=>by
  obtain⟨h1,h2⟩:=awj hK ok v hd hk;rw[show K-1=A by omega]at h1;exact⟨GR (N3 zN) hk,h1,(OF hk).2.2.1,h2⟩
 have eK:2^K=2^A+2^A:=by
  grind
 have o1:OkI (cY 1):=gM ⟨by omega,by omega⟩;have o2:OkI (cY (-1)):=gM ⟨by omega,by omega⟩;refine Mq.div (A:=A) (K:=K) kW kW ω ω (fun hk=>?_) fun hk=>?_
 ·obtain⟨k1,k2,hp,_,_,e⟩:=T8 hk;obtain⟨vm,m1,m2,m3⟩:=om k1;have vn:=GR o2 k2;obtain⟨n1,n2⟩:=awk hK;rw[e];have key:∀a b up,vd a=true->vd b=true->(zI a+zI b).natAbs<=2^A->(zI (dh a b p up).1).natAbs<=2^A:=fun a b up va vb h=>by
   obtain⟨f1,n,rfl,hn⟩:=Ib va vb hp;unfold dh;rw[ap f1];exact(alc (j:=0) hn ω h).2
  refine⟨key _ _ _ vm.1.1 vn.1.1 ?_,key _ _ _ vm.2.1 vn.2.1 ?_⟩
  all_goals omega
 ·obtain⟨k1,k2,hp,h0,_,e⟩:=T8 hk;obtain⟨vm,m1,m2,m3⟩:=om k1;have vn:=GR o1 k2;obtain⟨n1,n2⟩:=apf hK;rw[e];obtain⟨f1,n,rfl,hn⟩:=Ib vm.1.1 vn.1.1 hp;unfold dh at h0⊢;rw[ap f1]at h0⊢;rw[n1]at h0⊢;have p1:=aE7 K;have pz:0<zI (CL d n).lo+(2^K:Nat):=ω
  rw[O8 pz]at h0⊢;have hl:2^K<=(zI (CL d n).lo+(2^K:Nat)).natAbs:=ω
  by_cases c:(zI (CL d n).lo+(2^K:Nat)).natAbs<2^ (K+1)
  ·exact(Ph hn hl c ω h0).1
  ·have hu:(zI (CL d n).lo+(2^K:Nat)).natAbs<2^ (K+1+1):=by
    omega
   have h:=(Ph hn (Nat.le_of_not_lt c) hu ω h0).1;grind
theorem arx(hp:0<=p/\p<=1000):∃y,OkI y/\R 237 [I p] []=some (ae y,[]):=by
 have fin:∀y,OkI y->fk false je.rs je.res 0 (am R (aA false) je.body (iW [I p]) (fun _=>.dead))=some (ae y,[])->∃y,OkI y/\R 237 [I p] []=some (ae y,[]):=fun y oy h=>⟨y,oy,au S7 rfl h⟩;have hw:=dW;by_cases c1:p<8
 ·have f1:=tt c1;refine fin bt gX.ok' ?_;simp only[je,ae,ah,bt,aC,go_sem,aEP,aEO,aEN,aX,f1,hw]
 have f1:=ff c1;by_cases c2:512<p
 ·have f2:=tt c2;refine fin bt gX.ok' ?_;simp only[je,ae,ah,bt,aC,go_sem,aEP,aEO,aEN,aX,f1,f2,hw]
 have f2:=ff c2;have g1:=RQ (q:=16) hp ⟨by omega,by omega⟩;obtain⟨P,hP⟩:∃P,(if 512<p+16 then(512:Int)else p+16)=P:=⟨_,rfl⟩;rw[hP]at g1;have hP2:0<=P/\P<=1000:=by
  omega
 have i1:kR 1:=⟨by omega,by omega⟩;have i3:kR 3:=⟨by omega,by omega⟩;have g2:=nT i1;have g3:=nT i3;have g4:=Ks (gM i1) (gM i3) (p:=P);have o4:OkI (dC (cY 1) (cY 3) P):=kL;obtain⟨y,oy,g5⟩:=afs o4 hP2 (aog Z Z Z);have g6:=FJ oy (p:=p);have o6:OkI (oA y p):=zN;generalize oA y p=z at*
 refine fin z o6 ?_;simp only[ae,ah]at g2 g3 g4 g5 g6;simp only[je,ae,ah,go_sem,aEP,aEO,aEN,aX,f1,f2,g1,g2,g3,g4,g5,g6]
theorem ald(ok:Ok0 d)(v:vd d=true)(hd:0<zI d)(hp:0<=p/\p<=900):∃y,OkI y/\R 173 [af d,I p] []=some (ae y,[]):=by
 have fin:∀y,OkI y->fk false gD.rs gD.res 0 (am R (aA false) gD.body (iW [af d,I p]) (fun _=>.dead))=some (ae y,[])->∃y,OkI y/\R 173 [af d,I p] []=some (ae y,[]):=fun y oy h=>⟨y,oy,au K9 rfl h⟩;have i1:kR 1:=⟨by omega,by omega⟩;have im:kR (-1):=⟨by omega,by omega⟩;have h1:=m8 i1;rw[show aZ (decide ((1:Int)<0)) (Int.natAbs 1) 0=gZ 1 from rfl]at h1;have o1:=jh i1;have h2:=mF ok o1.2;rw[ap ⟨v,o1.1⟩]at h2;generalize gH (zI d) (zI (gZ 1))=c at*
 by_cases c1:c=0
 ·have f1:=tt c1;refine fin Mi ⟨aO.2,aO.2⟩ ?_;simp only[af,ak]at h1 h2;simp only[gD,ae,ah,af,ak,Mi,aC,go_sem,aEP,aEO,aEN,aX,h1,h2,f1]
 have f1:=ff c1;have g1:=RQ (p:=p) (q:=40) ⟨by omega,by omega⟩ ⟨by omega,by omega⟩;obtain⟨P,hP⟩:∃P,(if 512<p+40 then(512:Int)else p+40)=P:=⟨_,rfl⟩;rw[hP]at g1;have hP2:0<=P/\P<=1000:=by
  omega
 have tb:=YK ok v;have g2:=pW ok;have it:kR (aQ d):=⟨by omega,by omega⟩;have e1:aG (0-aQ d)=0-aQ d:=by grind[i64_in]
 have g3:=fY ok v;have g4:=FJ (x:=⟨d,d,false⟩) ⟨ok,ok⟩ (p:=P);have o4:OkI (oA ⟨d,d,false⟩ P):=zN;have g5:=N4 o4 (k:=0-aQ d);have o5:=N3 o4 (k:=0-aQ d);rw[show Ja (oA ⟨d,d,false⟩ P) (0-aQ d)=CL d P from rfl]at g5 o5;have g6:=nT im;have g7:=nT i1;have g8:=CJ o5 (gM im) (p:=P);have g9:=CJ o5 (gM i1) (p:=P);have o8:OkI (de (CL d P) (cY (-1)) P):=kW;have o9:OkI (de (CL d P) (cY 1) P):=kW;have g10:=Ks o8 o9 (p:=P);have o10:OkI (dC (de (CL d P) (cY (-1)) P) (de (CL d P) (cY 1) P) P):=kL;obtain⟨y,oy,g11⟩:=afs o10 hP2 (awl Z Z ok v hd);obtain⟨l,ol,g12⟩:=arx hP2;have g13:=nT it;have g14:=Pe (gM it) ol (p:=P);have o14:OkI (bX (cY (aQ d)) l P):=iU;have g15:=CJ oy o14 (p:=P);have o15:OkI (de y (bX (cY (aQ d)) l P) P):=kW;have g16:=FJ o15 (p:=p);have o16:OkI (oA (de y (bX (cY (aQ d)) l P) P) p):=zN;generalize oA (de y (bX (cY (aQ d)) l P) P) p=z at*
 refine fin z o16 ?_;simp only[ae,ah,af,ak]at h1 h2 g2 g3 g4 g5 g6 g7 g8 g9 g10 g11 g12 g13 g14 g15 g16;simp only[gD,ae,ah,af,ak,go_sem,aEP,aEO,aEN,aX,h1,h2,f1,g1,g2,e1,g3,g4,g5,g6,g7,g8,g9,g10,g11,g12,g13,g14,g15,g16]
def ahW(x:Ri)(p:Int):Bool:=kI x&&bv p
theorem T9(ok:OkI x):R 154 [ae x,I p] []=some (B (ahW x p),[]):=by
 have h1:=mL ok;unfold ahW kI;cases ha:x.all with
 |true=>
  refine au yA rfl ?_;simp only[iY,ae,ah,go_sem,ha,aMD,aE0]
 |false=>
 cases hv:vi x with
 |false=>
  refine au yA rfl ?_;simp only[ae,ah,ha,hv]at h1;simp only[iY,ae,ah,go_sem,ha,h1,aFY,aEW,aE0]
 |true=>
 refine au yA rfl ?_;simp only[ae,ah,ha,hv]at h1;unfold bv;by_cases c1:8<=p
 ·have f1:=tt c1;by_cases c2:p<=512
  ·have f2:=tt c2;simp only[iY,ae,ah,go_sem,aEP,aEO,aEN,aX,ha,h1,f1,f2,aFY,aEW]
  ·have f2:=ff c2;simp only[iY,ae,ah,go_sem,aEP,aEO,aEN,aX,ha,h1,f1,f2,aFY,aEW]
 ·have f1:=ff c1;simp only[iY,ae,ah,go_sem,aEP,aEO,aEN,aX,ha,h1,f1,aFY,aEW,aE0]
theorem aoh{p:Int}(ok:OkI x):∃y,OkI y/\R 114 [ae x,I p] []=some (ae y,[]):=by
 have fin:∀y,OkI y->fk false jV.rs jV.res 0 (am R (aA false) jV.body (iW [ae x,I p]) (fun _=>.dead))=some (ae y,[])->∃y,OkI y/\R 114 [ae x,I p] []=some (ae y,[]):=fun y oy h=>⟨y,oy,au UR rfl h⟩;have hw:=dW;have h1:=T9 ok (p:=p);simp only[ae,ah,bt,aC]at hw h1;cases hf:ahW x p with
 |false=>
  rw[hf]at h1;refine fin bt gX.ok' ?_;simp only[jV,ae,ah,bt,aC,go_sem,aEP,aEO,aEN,aX,h1,hw]
 |true=>
 rw[hf]at h1;obtain⟨kx,hp⟩:=Bool.and_eq_true_iff.1 hf;have hp2:=pZ hp;obtain⟨_,v1,v2⟩:=DH kx;have hle:=(OF kx).2.2.1;have h2:=tT ok.lo v1;have hz:=(ahH v1).1;generalize kl x.lo=g at*
 by_cases c:g<=0
 ·have f:=tt c;refine fin bt gX.ok' ?_;simp only[af,ak]at h2;simp only[jV,ae,ah,bt,aC,go_sem,aEP,aEO,aEN,aX,h1,h2,f,hw]
 have f:=ff c;have z1:=hz.1 ω;obtain⟨a,oa,g1⟩:=ald ok.lo v1 z1 (p:=p) ω;obtain⟨b,ob,g2⟩:=ald ok.hi v2 ω (p:=p) ω;have g3:=afl (a:=a) (b:=b);have o3:OkI (I9 a b):=by
  unfold I9;split
  ·exact gX.ok'
  ·exact⟨oa.lo,ob.hi⟩
 generalize I9 a b=z at*
 refine fin z o3 ?_;simp only[ae,ah,af,ak]at h2 g1 g2 g3;simp only[jV,ae,ah,go_sem,aEP,aEO,aEN,aX,h1,h2,f,g1,g2,g3]
theorem aAq:gZ 1000=⟨false,[125],3⟩:=by kernel_rfl
theorem aft(ok:Ok0 d)(v:vd d=true)(h:N1 d=true):aQ d<=50:=by
 by_cases h0:d.m.length=0
 ·simp_all[aQ,ap]
 have hb:=J7 v ok.lb h0;obtain⟨K,hK⟩:∃K:Nat,K=16387:=⟨_,rfl⟩;have e:zI (gZ 1000)=((125*2^K:Nat):Int):=by
  rw[aAq];have h1:zI ⟨false,[125],3⟩=((mg ⟨false,[125],3⟩:Nat):Int):=rfl;rw[h1,ahV (e:=K) γ];rfl
 unfold N1 at h;rw[decide_eq_true_eq,GZ,(NT v).2,e]at h;have hm:mg d<=125*2^K:=by
  grind[zI]
 have hl:mg d<2^ (K+7):=by
  grind
 have:=bH.2 hl;omega
theorem ale{p:Int}(ok:OkI x):∃y,OkI y/\R 87 [ae x,I p] []=some (ae y,[]):=by
 have fin:∀y,OkI y->fk false iw.rs iw.res 0 (am R (aA false) iw.body (iW [ae x,I p]) (fun _=>.dead))=some (ae y,[])->∃y,OkI y/\R 87 [ae x,I p] []=some (ae y,[]):=fun y oy h=>⟨y,oy,au JX rfl h⟩;have hw:=dW;have h1:=T9 ok (p:=p);simp only[ae,ah,bt,aC]at hw h1;cases hf:ahW x p with
 |false=>
  rw[hf]at h1;refine fin bt gX.ok' ?_;simp only[iw,ae,ah,bt,aC,go_sem,aEP,aEO,aEN,aX,h1,hw]
 |true=>
 rw[hf]at h1;obtain⟨kx,hp⟩:=Bool.and_eq_true_iff.1 hf;have hp2:=pZ hp;obtain⟨_,v1,v2⟩:=DH kx;have g2:=Pg ok.lo v1;have g3:=Pg ok.hi v2;cases m1:N1 x.lo with
 |false=>
  rw[m1]at g2;refine fin bt gX.ok' ?_;simp only[af,ak]at g2;simp only[iw,ae,ah,bt,aC,go_sem,aEP,aEO,aEN,aX,h1,g2,hw]
 |true=>
 cases m2:N1 x.hi with
 |false=>
  rw[m1]at g2;rw[m2]at g3;refine fin bt gX.ok' ?_;simp only[af,ak]at g2 g3;simp only[iw,ae,ah,bt,aC,go_sem,aEP,aEO,aEN,aX,h1,g2,g3,hw]
 |true=>
 have pw:∀d,Ok0 d->∃z,pwR ahU d p=some z:=fun d od=>by
  unfold pwR;split
  ·grind
  ·obtain⟨z,hz⟩:=apd (p:=Ku d p) (by grind[Ku]) (Ml d) (y:=oA (m9 d) (Ku d p)) zN;grind
 obtain⟨a,ha⟩:=pw _ ok.lo;obtain⟨b,hb⟩:=pw _ ok.hi;have t1:=aft ok.lo v1 m1;have t2:=aft ok.hi v2 m2;have oa:=(LM aca ok.lo v1 hp t1 ha).2;have ob:=(LM aca ok.hi v2 hp t2 hb).2;refine⟨I9 a b,?_,aob aca ok kx hp m1 m2 t1 t2 ha hb⟩;unfold I9;split
 ·exact gX.ok'
 ·exact⟨oa.lo,ob.hi⟩
noncomputable def DK (f:FuncId) (zas:List AV):Ri:=open Classical in if h:∃y,OkI y/\R f zas []=some (ae y,[])then h.choose else bt
theorem Im(f:FuncId)(zas:List AV):OkI (DK f zas):=by
 unfold DK;split
 ·rename_i h;exact h.choose_spec.1
 ·exact gX.ok'
theorem N5{f:FuncId}{zas:List AV}(h:∃y,OkI y/\R f zas []=some (ae y,[])):R f zas []=some (ae (DK f zas),[]):=by
 unfold DK;rw[dif_pos h];exact h.choose_spec.2
theorem apg(ok:OkI x)(h:kI x=true):∃q,In q x:=GN ok (by
 unfold kI at h;exact(Bool.and_eq_true_iff.1 h).2)
theorem Io{p:Int}(ox:OkI x)(oy:OkI y):∃q,In q (dC x y p):=by
 cases h:(kI x&&kI y&&bv p)with
 |false=>
  refine⟨0,.inl ?_⟩;unfold dC;rw[h,av aE3]
 |true=>
  simp only[aEV]at h;obtain⟨q,hq⟩:=apg ox h.1.1;obtain⟨r,hr⟩:=apg oy h.1.2;exact⟨_,VH hq hr⟩
theorem alf{x:Ri}(h:∃q,In q x):∃q,In q (rW x):=h.elim fun _ h=>⟨_,aeB h⟩
noncomputable def gE (p:Int) (x:Ri) (k:Int):Ri:=dC (DK 87 [ae x,I p]) (ud k.toNat p) p
def lgq(p:Int)(x:Ri)(k:Nat):Ri:=dC (cY 1) (bX (cY k) (vV x k p) p) p
noncomputable def gL (p:Int) (x:Ri) (k:Int):Ri:=if k=0 then DK 114 [ae x,I p]else if k.toNat%2=0 then rW (lgq p x k.toNat)else lgq p x k.toNat
noncomputable def yT (sh p:Int) (x:Ri) (k:Int):Ri:=if(k+sh).tmod 4=0 then DK 175 [ae x,I p]else if(k+sh).tmod 4=1 then DK 176 [ae x,I p]else if(k+sh).tmod 4=2 then rW (DK 175 [ae x,I p])else rW (DK 176 [ae x,I p])
noncomputable def gTu (sh p:Int) (x:Ri) (k:Int):Ri:=dC (yT sh p x k) (ud k.toNat p) p
def Qb(p:Int):Nat->Nat->Ri->Ri
 |0,_,y=>y
 |n+1,i,y=>Qb p n (i+1) (Ja (bX y (cY (1-2*(i:Int))) p) (-1))
theorem alg{p:Int}:∀ (n i:Nat) {y:Ri},OkI y->OkI (Qb p n i y)
 |0,_,_,h=>h
 |n+1,i,_,_=>alg n (i+1) (N3 iU)
noncomputable def gQ (p:Int) (x:Ri) (k:Int):Ri:=dC (dC (Qb p k.toNat 0 (DK 117 [ae x,I p])) (ud k.toNat p) p) (vV x k.toNat p) p
theorem ary{s:Rs}{k:Nat}(ox:OkI x)(hk:k<=20):R 113 [ae x,I k,ac 1000] [.bx (mO s)]=some (ae (gL s.p x k),[.bx (mO s)]):=by
 refine xz QF QD (DV false) rfl ?_;unfold gL;by_cases c:k=0
 ·subst c;have h:=N5 (aoh ox (p:=s.p));rw[show((0:Nat):Int)=0 from rfl,ap rfl];generalize DK 114 [ae x,I s.p]=y at*
  simp only[ae,ah]at h;simp only[pG,ae,ah,go_sem,aEP,aEO,aEN,aX,h,aFz];exact jY Z Z Z Z (by simp only[go_sem])
 have f0:((k:Int)=0)=False:=ff;rw[av ω,aEY];have i1:kR 1:=⟨by omega,by omega⟩;have ik:kR (k:Int):=⟨by omega,by omega⟩;have h1:=B6 i1;have h2:=B6 ik;have h3:=YJ ox (p:=s.p) (n:=k) ω;have h4:=sy (gM ik) (G7 ox (n:=k) (p:=s.p)) (p:=s.p);have o4:OkI (bX (cY k) (vV x k s.p) s.p):=iU;have h5:=sA (gM i1) o4 (p:=s.p);rw[show dC (cY 1) (bX (cY k) (vV x k s.p) s.p) s.p=lgq s.p x k from rfl]at h5;have o5:OkI (lgq s.p x k):=kL;have h6:=G3 o5;have w2:(k:Int).tmod 2=((k%2:Nat):Int):=by
  rw[Int.tmod_eq_emod_of_nonneg ω];rfl
 generalize rW (lgq s.p x k)=y1 at*
 generalize lgq s.p x k=y2 at*
 generalize bX (cY k) (vV x k s.p) s.p=y3 at*
 generalize vV x k s.p=y4 at*
 generalize cY (k:Int)=y5 at*
 generalize cY 1=y6 at*
 simp only[ae,ah]at h1 h2 h3 h4 h5 h6;by_cases g:k%2=0
 ·rw[ap g];have f:(((k%2:Nat):Int)=0)=True:=tt;simp only[pG,ae,ah,go_sem,aEP,aEO,aEN,aX,f0,w2,h1,h2,h3,h4,h5,h6,f];exact jY Z Z Z Z (by simp only[go_sem])
 ·rw[av g];have f:(((k%2:Nat):Int)=0)=False:=ff;simp only[pG,ae,ah,go_sem,aEP,aEO,aEN,aX,f0,w2,h1,h2,h3,h4,h5,f];exact jY Z Z Z Z (by simp only[go_sem])
theorem ahX{s:Rs}{k:Nat}(ox:OkI x)(hk:k<=20)(hs:0<=sh/\sh<=1):R 174 [ae x,I k,ac 1000,ac 1001] [.bx [I sh],.bx (mO s)]=some (ae (gTu sh s.p x k),[.bx [I sh],.bx (mO s)]):=by
 refine YI true Mt Ms (Bg false) rfl ?_;have h1:=N5 (arq ox (p:=s.p));have h2:=N5 (arr ox (p:=s.p));have o1:=Im 175 [ae x,I s.p];have o2:=Im 176 [ae x,I s.p];obtain⟨z,hz⟩:∃z,(k:Int)+sh=z:=⟨_,rfl⟩;have e1:IntKind.i64.wrap ((k:Int)+sh)=z:=by rw[i64_in]<;>omega
 have h4:=V1 (p:=s.p) (k:=k) ω;unfold gTu yT;rw[aEY,hz];generalize DK 175 [ae x,I s.p]=y1 at*
 generalize DK 176 [ae x,I s.p]=y2 at*
 have h5:=G3 o1;have h6:=G3 o2;have d1:=sA o1 CI (p:=s.p) (y:=ud k s.p);have d2:=sA o2 CI (p:=s.p) (y:=ud k s.p);have d3:=sA (EH o1) CI (p:=s.p) (y:=ud k s.p);have d4:=sA (EH o2) CI (p:=s.p) (y:=ud k s.p);generalize ud k s.p=y3 at*
 generalize rW y1=y5 at*
 generalize rW y2=y6 at*
 by_cases c0:z.tmod 4=0
 ·have f0:=tt c0;rw[ap c0];generalize dC y1 y3 s.p=w at*
  simp only[ae,ah]at h1 h4 d1;simp only[ju,ae,ah,go_sem,aEP,aEO,aEN,aX,e1,f0,h1,h4,d1];exact LK Z Z Z Z Z Z (by simp only[go_sem])
 have f0:=ff c0;rw[av c0];by_cases c1:z.tmod 4=1
 ·have f1:=tt c1;rw[ap c1];generalize dC y2 y3 s.p=w at*
  simp only[ae,ah]at h2 h4 d2;simp only[ju,ae,ah,go_sem,aEP,aEO,aEN,aX,e1,f0,f1,h2,h4,d2];exact LK Z Z Z Z Z Z (by simp only[go_sem])
 have f1:=ff c1;rw[av c1];by_cases c2:z.tmod 4=2
 ·have f2:=tt c2;rw[ap c2];generalize dC y5 y3 s.p=w at*
  simp only[ae,ah]at h1 h4 h5 d3;simp only[ju,ae,ah,go_sem,aEP,aEO,aEN,aX,e1,f0,f1,f2,h1,h4,h5,d3];exact LK Z Z Z Z Z Z (by simp only[go_sem])
 have f2:=ff c2;rw[av c2];generalize dC y6 y3 s.p=w at*
 simp only[ae,ah]at h2 h4 h6 d4;simp only[ju,ae,ah,go_sem,aEP,aEO,aEN,aX,e1,f0,f1,f2,h2,h4,h6,d4];exact LK Z Z Z Z Z Z (by simp only[go_sem])
theorem arz{s:Rs}{x:Ri}{k:Nat}(hk:k<=50):∀ (n i:Nat) (y:Ri),OkI y->i+n=k->∀ (S:aM) (h:aj) (X:Option (Ex×St)),ao 0 [1,2,3,5,6] (aB (am R (aA true) jo) [1,2,3,5,6,12,13] [3,5,6,1000] S h)=X->
  S 1=I k->S 2=ac 1000->S 3=ac 3->S 5=ac 5->S 6=ac 6->S 12=I k->S 13=I i->h 3=.bx (ah x)->h 5=.bx zC->h 6=.bx (ah y)->h 1000=.bx (mO s)->
  ∃hh,X=some (.normal,⟨upd (upd (upd (upd (upd ce 6 (ac 6)) 5 (ac 5)) 3 (ac 3)) 2 (ac 1000)) 1 (I k),hh⟩)/\hh 3=.bx (ah x)/\hh 5=.bx zC/\hh 6=.bx (ah (Qb s.p n i y))/\hh 1000=.bx (mO s)/\∀b,b≠3->b≠5->b≠6->b≠1000->hh b=.dead:=by
 intro n;induction n with
 |zero=>
  intro i y oy hi S h X hX k1 k2 k3 k5 k6 k12 k13 h3 h5 h6 h0;subst hX;rw[ai];have e:i=k:=ω
  subst e;simp only[ah,mO]at h3 h6 h0;refine⟨?hh0,?_,?_,?_,?_,?_,?_⟩;rotate_left
  ·simp only[jo,mO,go_sem,k1,k2,k3,k5,k6,k12,k13,h3,h5,h6,h0,aFC];rfl
  all_goals first|rfl| (intro b b1 b2 b3 b4;simp only[cz,b1,b2,b3,b4,if_false];try (split<;>rfl))
 |succ n ih=>
  intro i y oy hi S h X hX k1 k2 k3 k5 k6 k12 k13 h3 h5 h6 h0;have e1:((i:Int)< (k:Int))=True:=tt;have e2:IntKind.i64.wrap (2*(i:Int))=2*(i:Int):=by rw[i64_in]<;>omega
  have e3:IntKind.i64.wrap (1-2*(i:Int))=1-2*(i:Int):=by rw[i64_in]<;>omega
  have e4:aG ((i:Int)+1)=((i+1:Nat):Int):=wi;have im:kR (1-2*(i:Int)):=⟨by omega,by omega⟩;have q1:=B6 im;have q2:=sy oy (gM im) (p:=s.p);have o2:OkI (bX y (cY (1-2*(i:Int))) s.p):=iU;have q3:=N4 o2 (k:=-1);have o3:=N3 o2 (k:=-1);have ih':=ih (i+1) (Ja (bX y (cY (1-2*(i:Int))) s.p) (-1)) o3 ω;rw[show Qb s.p (n+1) i y=Qb s.p n (i+1) (Ja (bX y (cY (1-2*(i:Int))) s.p) (-1))from rfl];generalize Ja (bX y (cY (1-2*(i:Int))) s.p) (-1)=w1 at*
  generalize bX y (cY (1-2*(i:Int))) s.p=w2 at*
  generalize cY (1-2*(i:Int))=w3 at*
  subst hX;rw[ai];generalize aB _ _ _=L at ih'⊢;simp only[ae,ah,mO]at q1 q2 q3 h3 h6 h0 ih'⊢;simp only[jo,go_sem,aEP,aEO,aEN,aX,k1,k2,k3,k5,k6,k12,k13,h3,h5,h6,h0,e1,e2,e3,e4,q1,q2,q3];apply ih'<;>rfl
theorem aoi{s:Rs}{k:Nat}(ox:OkI x)(hk:k<=20):R 116 [ae x,I k,ac 1000] [.bx (mO s)]=some (ae (gQ s.p x k),[.bx (mO s)]):=by
 refine xz Py Px (Dw false) rfl ?_;have h1:=N5 (aod ox (p:=s.p));have o1:=Im 117 [ae x,I s.p];have hL:=arz (s:=s) (x:=x) (k:=k) ω k 0 _ o1 (aES _);have o2:=alg (p:=s.p) k 0 o1;have h2:=V1 (p:=s.p) (k:=k) ω;have h3:=sA o2 CI (p:=s.p) (y:=ud k s.p);have o3:OkI (dC (Qb s.p k 0 (DK 117 [ae x,I s.p])) (ud k s.p) s.p):=kL;have h4:=YJ ox (p:=s.p) (n:=k) ω;have h5:=sA o3 (G7 ox (n:=k) (p:=s.p)) (p:=s.p);unfold gQ;rw[aEY];generalize dC (dC (Qb s.p k 0 (DK 117 [ae x,I s.p])) (ud k s.p) s.p) (vV x k s.p) s.p=w1 at*
 generalize dC (Qb s.p k 0 (DK 117 [ae x,I s.p])) (ud k s.p) s.p=w2 at*
 generalize Qb s.p k 0 (DK 117 [ae x,I s.p])=w3 at*
 generalize DK 117 [ae x,I s.p]=w4 at*
 generalize ud k s.p=w5 at*
 generalize vV x k s.p=w6 at*
 generalize hLL:aB (am R (aA true) jo)=L at hL;have hX:∀s h,am R (aA true) (.loop [1,2,3,5,6,12,13] [3,5,6,1000] jo) s h=L [1,2,3,5,6,12,13] [3,5,6,1000] s h:=fun s h=>by rw[←hLL];rfl
 clear hLL;simp only[ae,ah,mO]at h1 h2 h3 h4 h5 hL;simp only[yU,Gk,ae,ah,mO,go_sem,aEP,aEO,aEN,aX,h1,hX];generalize hBB:ao 0 [1,2,3,5,6] (L _ _ _ _)=X;obtain⟨hh,hE,k3,k5,k6,k0,kd⟩:=hL _ _ _ hBB Z Z Z Z Z Z Z Z Z Z Z;rw[hE];simp only[go_sem,aEP,aEO,aEN,aX,k3,k5,k6,k0,kd,ne_eq,not_false_eq_true,h2,h3,h4,h5];exact jY rfl (by simp only[go_sem,k0]) Z Z (by simp only[go_sem])
theorem Qc{a:Rm}(os:OkS s)(oa:OkM a):R 112 [ej s,bB a] []=some (B (!(cQ s a).all&&decide (HT (cQ s a)=1)),[]):=by
 refine au Mp rfl ?_;have h1:=CH os oa;have okb:=sD (s:=s) (a:=a);have kB:=fun h=>Lt (x:=cQ s a) okb h;have hx:=ab3 os oa;cases hB:(cQ s a).all with
 |true=>
  simp only[ae,ah,hB]at h1;simp only[qu,go_sem,aEP,aEO,aEN,aX,h1,aMD,aE0]
 |false=>
  have h2:=kB (ahF hx hB);simp only[ae,ah,hB]at h1 h2;simp only[qu,go_sem,aEP,aEO,aEN,aX,h1,h2,aFY,aEW]
theorem ahY{s:Rs}{a:Rm}{f:FuncId}{g:Ri->Int->Ri}(hm:(aA false).m f=[])(hk:(aA false).keep f=true)(hn:∀x (k:Int),bC ((aA false).sh f) ([ae x,I k]++[ac 1000])=[ae x,I k]++[ac 1000])
  (hR:∀x,OkI x->∀k:Nat,k<=17->R f [ae x,I k,ac 1000] [.bx (mO s)]=some (ae (g x k),[.bx (mO s)])):
  ∀x,x=m9 (rI s a)\/x=cQ s a->∀ (k:Nat),k<=17->∀ (h:aj) (e:Nat),h 1000=.bx (mO s)->h (2000+8*e)=.dead->bF R (aA false) h e [ae x,I k] (.fn f [] [ac 1000])=some (ae (g x k),h,[]):=by
 intro x hx k hk' h e h0 hd;have ox:OkI x:=by
  rcases hx with rfl|rfl
  ·exact⟨(EP sD).2,(EP sD).2⟩
  ·exact sD
 have hh:=NF (f:=f) (h:=h) (d:=e) (id:=1000) (zas:=[ae x,I k]) (as':=[ae x,I k]) hm hk (hn x k) Z Z h0 (rN s) (rN s) (fun h=>h) (hR x ox k hk') (YF _) (aFp rfl) (by
  show bV h (2000+8*e) 1=true;grind[bV,bS])
 grind[Kr]
structure MM (m:Rm):Prop where
 ok:OkM m
 l:m.P.terms.length<=100000
 t:∀t∈m.P.terms,t.exps.length<=100000/\t.c.m.length<=100000
 q:m.R.lo.m.length<=100000/\m.R.hi.m.length<=100000
theorem oZ:MM (cu s):=⟨RK,aE9 _,(fun _ h=>nomatch h),aE9 _,aE9 _⟩
theorem aLt(o:OkI x)(h:vi x=true):x.lo.m.length<=100000/\x.hi.m.length<=100000:=by
 unfold vi at h;split at h
 ·simp only[z0,aEV,decide_eq_true_eq]at h;omega
 ·simp only[aEV]at h;exact⟨aEX (vB h.1 o.1.lb) δ,aEX (vB h.2.1 o.2.lb) δ⟩
theorem VM.mm{m:Rm}(h:VM s m):MM m:=by
 obtain⟨a1,a2,_,a4⟩:=oG h.ok h.v;obtain⟨c,_,_,n⟩:=gw a1 a2;refine⟨h.ok,by omega,fun t ht=>?_,aLt h.ok.r a4⟩;have k:=c.t t ht;exact⟨by have:=k.len;omega,aEX (vB k.vc k.c.lb) δ⟩
def Tot(f:FuncId)(s:Rs)(a:Rm):Prop:=∃m,R f [ej s,bB a] []=some (bB m,[])/\MM m/\((cQ s a).all=true->m=cu s)
theorem N6{a m:Rm}{P:Prop}(hv:fg s=true->VM s m)(h:(cQ s a).all=true/\m=cu s\/(cQ s a).all=false/\fg s=true/\P):MM m/\((cQ s a).all=true->m=cu s):=by
 rcases h with⟨_,rfl⟩| ⟨hb,hs,_⟩
 ·grind[oZ]
 ·refine⟨(hv hs).mm,fun h=>?_⟩;grind
theorem LN{a m:Rm}{f:FuncId}(g1:R 84 [ej s,bB a,.fn f [] [ac 1000]] [.bx (mO s)]=some (bB m,[.bx (mO s)]))(h:aj)(d:Nat)(hh:h 2=.bx (mO s))(hf:h (2000+8*d)=.dead):
  bF R (aA false) h d ([ej s,bB a]++[.fn f [] [ac 2]]) (.fn 84 [] [])=some (bB m,upd h 2 (.bx (mO s)),[(2,true)]):=
 B3 (f:=84) (g:=f) (h:=h) (d:=d) (id:=2) (zas:=[ej s,bB a]) (as':=[ej s,bB a]) (bw.1.2.1 false) (bw.1.2.2.2 false)
  (by simp only[go_sem,ge,aFb,aE5]) Z Z hh (rN _) (rN _) (fun h=>h) g1 (ao5 _) (aFp rfl) (by show bV h (2000+8*d) 1=true;grind[bV,bS])
theorem afw{a:Rm}(os:OkS s)(oa:OkM a):Tot 26 s a:=by
 have hc:=ahY (s:=s) (a:=a) (f:=85) (g:=gE s.p) (HD false) (DU false) (fun x k=>by simp only[ae,ah,go_sem,aFb,aE5]) fun x ox k hk=>by
  have h:=arl (s:=s) ox (Im 87 [ae x,I s.p]) (k:=k) ω (N5 (ale ox));grind[gE,aEY]
 obtain⟨m,g1,g2,g3⟩:=T1 os oa (rN s) (g:=gE s.p) (fun x k=>kL) (fun k=>Io (Im _ _) CI) hc;obtain⟨q1,q2⟩:=N6 g2 g3;refine⟨m,au UE rfl ?_,q1,q2⟩;have hcc:=LN g1;simp only[aFb,aE5,go_sem]at hcc;simp only[C7,go_sem,aEP,aEO,aEN,aX];rw[hcc _ _ Z Z];simp only[go_sem,aEP,aEO,aEN,aX]
theorem afx{a:Rm}(os:OkS s)(oa:OkM a):Tot 43 s a:=by
 have hp:=Qc os oa;have hw:=zK os;cases hb:(!(cQ s a).all&&decide (HT (cQ s a)=1))with
 |false=>
  rw[hb]at hp;refine⟨cu s,au JW rfl ?_,oZ,fun _=>rfl⟩;simp only[yj,go_sem,aEP,aEO,aEN,aX,hp,hw,ge]
 |true=>
 rw[hb]at hp;have hc:=ahY (s:=s) (a:=a) (f:=113) (g:=gL s.p) (HF false) (DV false) (fun x k=>by simp only[ae,ah,go_sem,aFb,aE5]) fun x ox k hk=>ary ox ω;have hg:∀x k,OkI (gL s.p x k):=fun x k=>by
  unfold gL;split
  ·grind[Im]
  ·split
   ·exact EH kL
   ·exact kL
 have hgi:∀k:Nat,∃q,In q (gL s.p (cQ s a) ((k+1:Nat):Int)):=fun k=>by
  have i1:kR 1:=⟨by omega,by omega⟩;unfold gL;rw[av ω];split
  ·exact alf (Io (gM i1) iU)
  ·exact Io (gM i1) iU
 obtain⟨m,g1,g2,g3⟩:=T1 os oa (rN s) (g:=gL s.p) hg hgi hc;obtain⟨q1,q2⟩:=N6 g2 g3;refine⟨m,au JW rfl ?_,q1,q2⟩;have hcc:=LN g1;simp only[aFb,aE5,go_sem]at hcc;simp only[yj,go_sem,aEP,aEO,aEN,aX,hp];rw[hcc _ _ Z Z];simp only[go_sem,aEP,aEO,aEN,aX]
theorem acd{a:Rm}(os:OkS s)(oa:OkM a):Tot 46 s a:=by
 have hp:=Qc os oa;have hw:=zK os;cases hb:(!(cQ s a).all&&decide (HT (cQ s a)=1))with
 |false=>
  rw[hb]at hp;refine⟨cu s,au IN rfl ?_,oZ,fun _=>rfl⟩;simp only[wm,go_sem,aEP,aEO,aEN,aX,hp,hw,ge]
 |true=>
 rw[hb]at hp;have hc:=ahY (s:=s) (a:=a) (f:=116) (g:=gQ s.p) (Gr false) (Dw false) (fun x k=>by simp only[ae,ah,go_sem,aFb,aE5]) fun x ox k hk=>aoi ox ω;obtain⟨m,g1,g2,g3⟩:=T1 os oa (rN s) (g:=gQ s.p) (fun x k=>kL) (fun k=>Io kL (G7 sD)) hc;obtain⟨q1,q2⟩:=N6 g2 g3;refine⟨m,au IN rfl ?_,q1,q2⟩;have hcc:=LN g1;simp only[aFb,aE5,go_sem]at hcc;simp only[wm,go_sem,aEP,aEO,aEN,aX,hp];rw[hcc _ _ Z Z];simp only[go_sem,aEP,aEO,aEN,aX]
theorem afy{a:Rm}(os:OkS s)(oa:OkM a):Tot 30 s a:=by
 have h1:=CH os oa;have okb:=sD (s:=s) (a:=a);have h3:=zK os;have kB:=fun h=>Lt (x:=cQ s a) okb h;have hx:=ab3 os oa;cases hB:(cQ s a).all with
 |true=>
  refine⟨cu s,au zu rfl ?_,oZ,fun _=>rfl⟩;simp only[ae,ah,hB]at h1;simp only[mU,go_sem,aEP,aEO,aEN,aX,h1,h3,ge]
 |false=>
 have h2:=kB (ahF hx hB);by_cases hg:HT (cQ s a)=0
 ·refine⟨cu s,au zu rfl ?_,oZ,fun _=>rfl⟩;rw[hg]at h2;simp only[ae,ah,hB]at h1 h2;simp only[mU,go_sem,aEP,aEO,aEN,aX,h1,h2,h3,ge]
 have i1:kR 1:=⟨by omega,by omega⟩;have hc:=ahY (s:=s) (a:=a) (f:=97) (g:=gJ s.p) (Dv false) (Ax false) (fun x k=>by simp only[ae,ah,go_sem,aFb,aE5]) fun x ox k hk=>arm ox ω;obtain⟨m,g1,g2,g3⟩:=T1 os oa (rN s) (g:=gJ s.p) (awh s.p) (fun k=>by
  unfold gJ;split
  ·exact alf (Io (gM i1) (G7 okb))
  simp_all[Io,gM,G7]) hc
 obtain⟨q1,q2⟩:=N6 g2 g3;refine⟨m,au zu rfl ?_,q1,fun h=>by grind⟩;have hcc:=LN g1;simp only[aFb,aE5,go_sem]at hcc;have f2:=eq_false hg;simp only[ae,ah,hB]at h1 h2;simp only[mU,go_sem,aEP,aEO,aEN,aX,h1,h2,f2];rw[hcc _ _ Z Z];simp only[go_sem,aEP,aEO,aEN,aX]
theorem Ua{a:Rm}(os:OkS s)(oa:OkM a)(hs:0<=sh/\sh<=1):∃m,R 115 [ej s,bB a,I sh] []=some (bB m,[])/\MM m/\((cQ s a).all=true->m=cu s):=by
 have hc:∀x,x=m9 (rI s a)\/x=cQ s a->∀ (k:Nat),k<=17->∀ (h:aj) (e:Nat),h 1000=.bx [I sh]->h 1001=.bx (mO s)->h (2000+8*e)=.dead->bF R (aA false) h e [ae x,I k] (.fn 174 [] [ac 1000,ac 1001])=some (ae (gTu sh s.p x k),h,[]):=by
  intro x hx k hk h e h0 h1 hd;have ox:OkI x:=by
   rcases hx with rfl|rfl
   ·exact⟨(EP sD).2,(EP sD).2⟩
   ·exact sD
  exact akX (f:=174) (h:=h) (d:=e) (i:=1000) (j:=1001) (zas:=[ae x,I k]) (as':=[ae x,I k]) (DW false) (Bg false) (by simp only[ae,ah,go_sem,aFb,aE5]) Z Z δ h0 h1 (RP sh) (rN s) (ahX ox ω hs) (YF _) (aFp rfl) (by
   show bV h (2000+8*e) 1=true;grind[bV,bS])
 obtain⟨m,g1,g2,g3⟩:=afb (.inr ⟨rfl,rfl⟩) os oa (RP sh) ⟨(rN s).cl,(rN s).ids⟩ (g:=gTu sh s.p) (fun x k=>kL) (fun k=>Io (by
  grind[yT,Im,EH]) CI) hc
 obtain⟨q1,q2⟩:=N6 g2 g3;refine⟨m,au Pw rfl ?_,q1,q2⟩;have hcc:=fun(h:aj) (d:Nat) (hi:h 5=.bx [I sh]) (hj:h 3=.bx (mO s)) (hf:h (2000+8*d)=.dead)=>anW (f:=84) (g:=174) (h:=h) (d:=d) (i:=5) (j:=3) (zas:=[ej s,bB a]) (as':=[ej s,bB a]) (bw.1.2.1 false) (bw.1.2.2.2 false)
  (by simp only[go_sem,ge,aFb,aE5]) Z Z δ hi hj (RP sh) (rN _) g1 (ao5 _) (aFp rfl) (by show bV h (2000+8*d) 1=true;grind[bV,bS])
 simp only[aFb,aE5,go_sem]at hcc;simp only[yS,go_sem,aEP,aEO,aEN,aX];rw[hcc _ _ Z Z Z];simp only[go_sem,aEP,aEO,aEN,aX]
theorem afz{a:Rm}(os:OkS s)(oa:OkM a):Tot 44 s a:=by
 obtain⟨m,g1,q1,q2⟩:=Ua os oa (sh:=0) ω;refine⟨m,au UG rfl ?_,q1,q2⟩;simp only[C8,go_sem,aEP,aEO,aEN,aX,g1]
theorem afA{a:Rm}(os:OkS s)(oa:OkM a):Tot 45 s a:=by
 obtain⟨m,g1,q1,q2⟩:=Ua os oa (sh:=1) ω;refine⟨m,au UH rfl ?_,q1,q2⟩;simp only[C9,go_sem,aEP,aEO,aEN,aX,g1]
abbrev ace:=List (Nat×List AV×AV)
def acf:ace->FuncId->List AV->Option AV
 |[],_,_=>none
 |x::l,f,args=>if x.1=f then(if DQ x.2.1 args=true then some x.2.2 else acf l f args)else acf l f args
def afB(a:Option AV)(hs:List Ob)(b:Option (AV×List Ob)):Option (AV×List Ob):=match a,hs with
 |some r,[]=>some (r,[])
 |_,_=>b
abbrev Lk:=FuncId->List AV->Option AV
def V4(e:Env)(T:Lk):Nat->j8
 |0=>fun _ _ _=>none
 |n+1=>fun f args hs=>afB (T f args) hs (match e.E f with
  |some g=>g args hs
  |none=>(e.C f).bind fun fd=>MD (V4 e T n) {e.md with nm:=e.md.keep f} n fd args hs)
def aAr(e:Env)(T:Lk):Prop:=∀f args r,T f args=some r->iL e f args []=some (r,[])
theorem V5{e:Env}:∀ {T:ace} {f:FuncId} {args:List AV} {r:AV},(∀x∈T,iL e x.1 x.2.1 []=some (x.2.2,[]))->acf T f args=some r->iL e f args []=some (r,[])
 |[],f,args,r,_,h=>by cases h
 |x::l,f,args,r,ht,h=>by
  unfold acf at h;split at h
  ·rename_i h1;split at h
   ·rename_i h2;cases h;have:=ht x σ;rw[h1,CY h2]at this;exact this
   ·exact V5 (fun y hy=>ht y (by simp[hy])) h
  ·exact V5 (fun y hy=>ht y (by simp[hy])) h
theorem xJ{call:j8}{md:Mode}{lf:Nat}:∀ (c:Cmd) {s:aM} {h:aj} {r:Ex×St},df call md lf c s h=some r->am call md c s h=some r
 | .skip,s,h,r,hz=>hz
 | .ops ks l,s,h,r,hz=>hz
 | .dops ks l ps,s,h,r,hz=>hz
 | .seq a b,s,h,r,hz=>by
  simp only[df,dx]at hz;split at hz
  ·cases hz
  ·rename_i t1 ht1;simp only[am,dx,xJ a ht1,xJ b hz]
  ·rename_i i t1 ht1;simp only[am,dx,xJ a ht1];exact hz
  ·rename_i t1 ht1;simp only[am,dx,xJ a ht1];exact hz
 | .cond c a b,s,h,r,hz=>by
  simp only[df,wh]at hz;split at hz
  ·rename_i t ht;cases t with
   |true=>simp only[am,wh,ht,if_true];exact xJ a hz
   |false=>simp only[am,wh,ht,aFv,if_false];exact xJ b hz
  ·cases hz
 | .block id ks a,s,h,r,hz=>by
  simp only[df,ao]at hz;split at hz
  ·cases hz
  ·rename_i t1 ht1;simp only[am,ao,xJ a ht1];exact hz
  ·rename_i i t1 ht1;simp only[am,ao,xJ a ht1];exact hz
  ·rename_i t1 ht1;simp only[am,ao,xJ a ht1];exact hz
 | .loop ks hs a,s,h,r,hz=>by
  simp only[df]at hz;simp only[am,aB];rw[tL];exact⟨lf,fun k hk=>NP (fun hh=>xJ a hh) lf hk hz⟩
 | .exit id,s,h,r,hz=>hz
 | .ret,s,h,r,hz=>hz
 | .frz is a,s,h,r,hz=>by
  simp only[df,bG]at hz;split at hz
  ·cases hz
  ·rename_i t1 ht1;simp only[am,bG,ht1];exact xJ a hz
theorem afC{e:Env}{T:Lk}(ht:aAr e T):∀n,Mj (V4 e T n) (iL e)
 |0=>fun f a hs r hz=>by cases hz
 |n+1=>fun f a hs r hz=>by
  have old:(match e.E f with|some g=>g a hs|none=>(e.C f).bind fun fd=>MD (V4 e T n) {e.md with nm:=e.md.keep f} n fd a hs)=some r->iL e f a hs=some r:=by
   intro hz;split at hz
   ·rename_i g hE;rw[BC hE];exact hz
   ·rename_i hE;simp only[aEQ]at hz;obtain⟨fd,hC,hz⟩:=hz;refine M2 hE hC ?_;unfold MD at hz;unfold ZF;split at hz
    ·rename_i hcc;rw[ap hcc];cases hx:df (V4 e T n) {e.md with nm:=e.md.keep f} n fd.body (iW a) (az hs)with
     |none=>rw[hx]at hz;cases hz
     |some q=>
      rw[hx]at hz;rw[xJ fd.body (mN (afC ht n) (aET n) fd.body hx)];exact hz
    ·cases hz
  unfold V4 at hz;unfold afB at hz;split at hz
  ·rename_i r' hl;cases hz;exact ht _ _ _ hl
  ·exact old hz
theorem aoj{e:Env}:∀x∈ ([]:ace),iL e x.1 x.2.1 []=some (x.2.2,[]):=fun _ h=>by cases h
theorem FP{e:Env}{x:Nat×List AV×AV}{T:ace}(h1:iL e x.1 x.2.1 []=some (x.2.2,[]))(h2:∀x∈T,iL e x.1 x.2.1 []=some (x.2.2,[])):∀y∈x::T,iL e y.1 y.2.1 []=some (y.2.2,[]):=fun y hy=>by
 rcases List.mem_cons.1 hy with rfl|hy
 ·exact h1
 ·exact h2 y hy
theorem aAs{e:Env}(T:ace)(n:Nat)(x:Nat×List AV×AV)(ht:∀x∈T,iL e x.1 x.2.1 []=some (x.2.2,[]))(h:V4 e (acf T) n x.1 x.2.1 []=some (x.2.2,[])):iL e x.1 x.2.1 []=some (x.2.2,[]):=afC (fun _ _ _ h=>V5 ht h) n _ _ _ _ h
def s2:Rs:=⟨[yE,yE],2,53⟩
abbrev tY(x y:Int)(c:Rd):Rt:=⟨[x,y],c⟩
def aP:Rp:=⟨2,[tY 1 0 one]⟩
def bP:Rp:=⟨2,[tY 0 1 one]⟩
def cP:Rp:=⟨2,[tY 1 1 one]⟩
def dP:Rp:=⟨2,[tY 1 0 rX,tY 1 1 one]⟩
theorem Ub{x y}{c}(hx:0<=x/\x<=2)(hy:0<=y/\y<=2)(h:vd c=true/\Ok0 c)(h0:c.m.length≠0):VT 2 (tY x y c):=⟨h.2,rfl,by decide,h.1,h0,fun e he=>by grind,by show x+(y+0)<=32;omega⟩
theorem ahZ{v}{a}(h:VT v a):Cl v [a]:=Cl.mk' h (fun _ h=>nomatch h) (Cl.nil _)
theorem Uc:Fit s2 aP:=⟨rfl,by decide,ahZ (Ub δ δ gg δ),by decide+revert,fun t ht=>by rw[List.mem_singleton.1 ht];decide⟩
theorem ah0:Fit s2 bP:=⟨rfl,by decide,ahZ (Ub δ δ gg δ),by decide+revert,fun t ht=>by rw[List.mem_singleton.1 ht];decide⟩
theorem ah1:Fit s2 cP:=⟨rfl,by decide,ahZ (Ub δ δ gg δ),by decide+revert,fun t ht=>by rw[List.mem_singleton.1 ht];decide⟩
theorem aAt:Cl 2 dP.terms:=Cl.mk' (Ub δ δ G5 δ) (by decide+revert) (ahZ (Ub δ δ gg δ))
theorem awm:Fit s2 dP:=⟨rfl,by decide,aAt,by decide+revert,by decide+revert⟩
theorem Ud:fg s2=true:=by
 have h:=anS ari rfl;unfold fg;simp[s2,h];rfl
theorem os2:OkS s2:=by
 refine⟨fun x hx=>?_,by decide⟩;have e:x=yE:=by grind[s2]
 rw[e];exact VO.1
theorem vm2{q}(h:Fit s2 q):AC s2 ⟨q,cM⟩=true:=YH Ud h.c h.v h.n h.d ((B4 (m:=0)).i.elim fun _ h=>h.v) h.r
theorem ev2{a b}(ha:Fit s2 a)(hb:Fit s2 b):xI s2 [⟨a,cM⟩,⟨b,cM⟩]=true:=by
 grind[xI,Ud,vm2]
theorem at5:DC aP bP=(cP,0):=by
 unfold DC;simp only[aP,bP,tY,oE,pY,I3,abZ,if_true,aEZ,aFK,aE8];rfl
theorem at6:BY cP aP=(dP,0):=by rfl
theorem mz2{q}(h:Fit s2 q)(hl:∀t∈q.terms,t.c=one):bX (wL q s2.dom s2.p) cM s2.p=cM:=
 akS (atO (m:=0) os2 Ud h.ok (h.vp Ud) h.v (fun t ht=>by grind[abU]) (by have:=h.n;omega)).k rfl
theorem awn:zJ s2 ⟨aP,cM⟩ ⟨bP,cM⟩=⟨cP,cM⟩:=by
 unfold zJ;rw[ap (ev2 Uc ah0),at5,mz2 Uc (fun t ht=>by rw[List.mem_singleton.1 ht]),mz2 ah0 (fun t ht=>by rw[List.mem_singleton.1 ht]),akS (B4 (m:=0)).k (show bv s2.p=true from rfl)];simp only[B5,Kq (show bv s2.p=true from rfl)];exact abY Ud ah1
theorem arA:rW cM=cM:=by
 unfold rW;rw[(B4 (m:=0)).k,ap rfl];rfl
theorem awo:Ic s2 ⟨cP,cM⟩ ⟨aP,cM⟩=⟨dP,cM⟩:=by
 unfold Ic;rw[ap (ev2 ah1 Uc),at6];show lA s2 dP 0 (de cM (rW cM) s2.p)=_;rw[arA,Kq (show bv s2.p=true from rfl)];exact abY Ud awm
theorem awp:V0 s2 0=⟨aP,cM⟩:=by
 unfold V0;rw[Ud];rfl
theorem awq:V0 s2 1=⟨bP,cM⟩:=by
 unfold V0;rw[Ud];rfl
theorem ah2{q}(h:Fit s2 q):OkM ⟨q,cM⟩:=⟨fun t ht=>(h.c.t t ht).c,⟨aO.2,aO.2⟩,by have:=h.n;grind⟩
theorem aAu:R 16 [] []=some (B true,[]):=by
 have h0:=pB os2.d os2.n;have h1:=ae7 (i:=0) os2;have h2:=ae7 (i:=1) os2;have h3:=G6 os2 (ah2 Uc) (ah2 ah0);have h4:=Pa os2 (ah2 ah1) (ah2 Uc);rw[Ud]at h0;rw[awp]at h1;rw[awq]at h2;rw[awn]at h3;rw[awo]at h4;exact aAs (e:=cB) [(75,[ej s2],B true),(24,[ej s2,I 0],bB ⟨aP,cM⟩),(24,[ej s2,I 1],bB ⟨bP,cM⟩),(12,[ej s2,bB ⟨aP,cM⟩,bB ⟨bP,cM⟩],bB ⟨cP,cM⟩),(11,[ej s2,bB ⟨cP,cM⟩,bB ⟨aP,cM⟩],bB ⟨dP,cM⟩)] 100 (16,[],B true) (FP h0 (FP h1 (FP h2 (FP h3 (FP h4 aoj))))) κ
theorem aAv:KK=(2^ (16384+0):Nat):=by
 have h:=Vw (a:=one) (b:=one) (by rw[abZ]);rw[abZ]at h;have h1:zI one=(2^ (16384+0):Nat):=RG (n:=false) (k:=0);grind[Int.eq_of_mul_eq_mul_left]
def N7(B:Nat)(z:Int):Prop:=∃n,z=n*KK/\n.natAbs<=B
theorem N7.up{B C}{z}(h:N7 B z)(hc:B<=C):N7 C z:=h.imp fun _ h=>⟨h.1,aEX h.2 hc⟩
def Wt:List Rt->Nat->Prop
 |[],_=>True
 |t::l,B=>∃n C,N7 n (zI t.c)/\Wt l C/\n+C<=B
theorem Wt.up:∀ {l} {B C},Wt l B->B<=C->Wt l C
 |[],_,_,_,_=>trivial
 |_::_,_,_,⟨n,D,h1,h2,h3⟩,h=>⟨n,D,h1,h2,by omega⟩
theorem Wt.mem:∀ {l} {B},Wt l B->∀t∈l,N7 B (zI t.c)
 |t::l,B,⟨n,D,h1,h2,h3⟩,y,hy=>by
  rcases List.mem_cons.1 hy with rfl|hy
  ·exact h1.up ω
  ·exact(h2.mem y hy).up ω
theorem Wt.app:∀ {l r} {B C},Wt l B->Wt r C->Wt (l++r) (B+C)
 |[],r,B,C,_,h=>h.up ω
 |t::l,r,B,C,⟨n,D,h1,h2,h3⟩,h=>⟨n,D+C,h1,h2.app h,by omega⟩
theorem Wt.of{B}:∀ {l},(∀t∈l,N7 B (zI t.c))->Wt l (B*l.length)
 |[],_=>trivial
 |t::l,h=>⟨B,B*l.length,h t σ,Wt.of fun x hx=>h x γ,by grind[aFk,Nat.mul_succ]⟩
structure Ex1 (s:Rs) (a:Rp):Prop where
 o:OkP a
 p:vp a=true
 v:a.vars=s.dom.length
 d:nH a<=s.ord
 n:a.terms.length<=10
 c:∀t∈a.terms,N7 16000 (zI t.c)
theorem Ex1.t{s}{a}(h:Ex1 s a):∀t∈a.terms,VT s.dom.length t:=by
 have:=(gw h.o h.p).1.t;rw[h.v]at this;omega
def Sm(c:Int):Prop:=-128<=c/\c<=128
theorem Sm.i{c}(h:Sm c):kR c:=by
 obtain⟨h1,h2⟩:=h;exact⟨by omega,by omega⟩
theorem awr{c}(h:c≠0):(gZ c).m.length≠0:=by
 have hn:c.natAbs≠0:=ω
 unfold gZ;rw[l7 hn];intro h0;have h1:=sj.1 (List.length_eq_zero_iff.1 h0);have h2:=(tV (neg:=false) (e:=0) hn).2.2.1;omega
theorem N7.ldd{B k}{z}(h:N7 B z)(hb:B<=2^k):z.natAbs<=2^ (16384+k):=by
 obtain⟨n,rfl,h2⟩:=h;have e:∀a,2^ (a+k)=2^k*2^ (a+0):=fun a=>by rw[aFA,aE2,aFd]
 rw[Int.natAbs_mul,e,aAv];rw[Int.natAbs_natCast];exact Nat.mul_le_mul (aEX h2 hb) (aET _)
theorem N7.Ld{B m}{d}(h:N7 B (zI d))(hb:B<=2^m):Go.Ab.Ld m d:=h.ldd hb
structure Sq (s:Rs):Prop where
 os:OkS s
 sp:fg s=true
 p:s.p=64
 h8:s.dom.length<=8
 o:s.ord<=16
theorem Sq.pr{s}(h:Sq s):bv s.p=true:=by rw[h.p];rfl
structure Xp (s:Rs) (e:List Int):Prop where
 l:e.length=s.dom.length
 b:∀x∈e,0<=x
 d:cp e<=s.ord
theorem Xp.vt{s}(hs:Sq s){e}(h:Xp s e){c}(hc:Sm c)(h0:c≠0):VT s.dom.length ⟨e,gZ c⟩:=by
 have h8:=hs.h8;have ho:=hs.o;have hd:=h.d;refine⟨(jh hc.i).2,by rw[h.l],by omega,(jh hc.i).1,awr h0,fun x hx=>?_,Int.le_trans hd ω⟩;have:=(Kf (l:=e) h.b).2 x hx;exact⟨h.b x hx,by omega⟩
structure Ps (s:Rs) (L:List Rt) (N:Nat):Prop where
 c:Cl s.dom.length L
 w:Wt L (128*N)
 n:L.length<=N
 d:∀t∈L,cp t.exps<=s.ord
theorem Ps.up{s}{L}{N M}(h:Ps s L N)(hM:N<=M):Ps s L M:=⟨h.c,h.w.up (aFV 128 hM),aEX h.n hM,h.d⟩
theorem alh{n:Int}(h1:-1073741824<=n)(h2:n<=1073741824):R 208 [I n] []=some (W n.natAbs,[]):=by
 refine au aan rfl ?_;by_cases g:n<0
 ·have e1:(n<0)=True:=tt g;have e2:aG (0-n)=-n:=by grind[i64_in]
  have e3:IntKind.u64.wrap (-n)=((n.natAbs:Nat):Int):=iH ω ω;simp only[Bw,go_sem,e1,e2,e3]
 ·have e1:(n<0)=False:=ff g;have e3:IntKind.u64.wrap n=((n.natAbs:Nat):Int):=iH ω ω;simp only[Bw,go_sem,e1,e3]
structure To where
 k:Int
 a:Int
 b:Int
 n:Int
 cn:Int
 cd:Int
abbrev zO(o:To):List AV:=[I o.k,I o.a,I o.b,I o.n,I o.cn,I o.cd]
abbrev D3(l:List To):List (List AV):=l.map zO
theorem aok{a b}:Nat.gcd b (a%b)=Nat.gcd a b:=by
 rw[Nat.gcd_comm,←Nat.gcd_rec,Nat.gcd_comm]
theorem aws{a b:Nat}(h:b≠0):fK .rem (W a) (W b)=some (W (a%b:Nat)):=by
 simp_all[JI,av,Int.tmod_eq_emod_of_nonneg]
theorem aol:∀ (N b a:Nat),b<=N->∀S h X,ao 0 [0] (aB (am R (aA false) nC) [0,1] [] S h)=X->S 0=W a->S 1=W b->X=some (.normal,⟨upd ce 0 (W (Nat.gcd a b)),fun _=>.dead⟩):=by
 intro N;induction N with
 |zero=>
  intro b a hb S h X hX k0 k1;have:b=0:=ω
  subst this;subst hX;rw[ai,Nat.gcd_zero_right];simp only[nC,go_sem,aEP,aEO,aEN,aX,k0,k1,aFz]
 |succ N ih=>
  intro b a hb S h X hX k0 k1;subst hX;rw[ai];by_cases c:b=0
  ·subst c;rw[Nat.gcd_zero_right];simp only[nC,go_sem,aEP,aEO,aEN,aX,k0,k1,aFz]
  ·have e1:((b:Int)=0)=False:=ff;have e2:=aws (a:=a) c;have ih':=ih (a%b) b (by have:=aFx a (Nat.pos_of_ne_zero c);omega);rw[aok]at ih';simp only[nC,go_sem,aEP,aEO,aEN,aX,k0,k1,e1,e2];apply ih'<;>rfl
theorem afD{a b:Nat}:fk false uT.rs uT.res 0 (am R (aA false) uT.body (iW [W a,W b]) (fun _=>.dead))=some (W (Nat.gcd a b),[]):=by
 have hL:=aol b b a (aET _);generalize hLL:aB (am R (aA false) nC)=L at hL;have hX:∀s h,am R (aA false) (.loop [0,1] [] nC) s h=L [0,1] [] s h:=fun s h=>by rw[←hLL];rfl
 simp only[uT,P1,go_sem,aEP,aEO,aEN,aX,hX];generalize hBB:ao 0 [0] (L _ _ _ _)=X;rw[hL _ _ _ hBB Z Z];simp only[go_sem,aEP,aEO,aEN,aX]
theorem at7{a b:Nat}:R 207 [W a,W b] []=some (W (Nat.gcd a b),[]):=
 au ac1 rfl afD
def LO(n d:Int):Bool:=decide (1<=d)&& (decide (d<=1073741824)&& (decide (-1073741824<=n)&& (decide (n<=1073741824)&&decide (Nat.gcd n.natAbs d.natAbs=1))))
theorem ach{n d}:R 144 [.agg [I n,I d]] []=some (B (LO n d),[]):=by
 refine au XW rfl ?_;unfold LO;by_cases c1:1<=d
 ·by_cases c2:d<=1073741824
  ·by_cases c3:-1073741824<=n
   ·by_cases c4:n<=1073741824
    ·have h1:=alh (n:=n) ω ω;have h2:=alh (n:=d) ω ω;have h3:=at7 (a:=n.natAbs) (b:=d.natAbs);have e1:=tt c1;have e2:=tt c2;have e3:=tt c3;have e4:=tt c4;have e5:(((Nat.gcd n.natAbs d.natAbs):Int)=1)=(Nat.gcd n.natAbs d.natAbs=1):=propext ⟨fun h=>by omega,fun h=>by omega⟩;simp only[nu,go_sem,aEP,aEO,aEN,aX,e1,e2,e3,e4,e5,h1,h2,h3,aEW]
    ·have e1:=tt c1;have e2:=tt c2;have e3:=tt c3;have e4:=ff c4;simp only[nu,go_sem,aEP,aEO,aEN,aX,e1,e2,e3,e4,aEW,aE0]
   ·have e1:=tt c1;have e2:=tt c2;have e3:=ff c3;simp only[nu,go_sem,aEP,aEO,aEN,aX,e1,e2,e3,aEW,aE0]
  ·have e1:=tt c1;have e2:=ff c2;simp only[nu,go_sem,aEP,aEO,aEN,aX,e1,e2,aEW,aE0]
 ·have e1:=ff c1;simp only[nu,go_sem,aEP,aEO,aEN,aX,e1,aE0]
def LP(n d p:Int):Ri:=if LO n d=true then kD (lC (gZ n) (gZ d) p false) (lC (gZ n) (gZ d) p true)else bt
theorem afE{n d p}:OkI (LP n d p):=by
 unfold LP;split
 ·exact zF xQ.2 xQ.2
 ·exact gX.ok'
theorem aom{n d p}:R 74 [.agg [I n,I d],I p] []=some (ae (LP n d p),[]):=by
 refine au SP rfl ?_;have h1:=ach (n:=n) (d:=d);unfold LP;cases hb:LO n d with
 |false=>
  rw[hb]at h1;simp only[ns,ae,ah,bt,aC,go_sem,aEP,aEO,aEN,aX,h1]
  try rfl
 |true=>
 rw[hb]at h1;unfold LO at hb;simp only[aEV,decide_eq_true_eq]at hb;have i1:kR n:=⟨by omega,by omega⟩;have i2:kR d:=⟨by omega,by omega⟩;have h2:=m8 i1;have h3:=m8 i2;rw[show aZ (decide (n<0)) n.natAbs 0=gZ n from rfl]at h2;rw[show aZ (decide (d<0)) d.natAbs 0=gZ d from rfl]at h3;have h4:=TA (jh i1).2 (jh i2).2 (p:=p);have h5:=abq (jh i1).2 (jh i2).2 (p:=p);generalize lC (gZ n) (gZ d) p false=r at*
 generalize lC (gZ n) (gZ d) p true=q at*
 obtain⟨r1,r2⟩:=r;obtain⟨q1,q2⟩:=q;unfold kD;simp only[rV,af,ak]at h2 h3 h4 h5;by_cases c1:r2=0
 ·have f1:=tt c1;by_cases c2:q2=0
  ·have f2:=tt c2;simp only[ns,ae,ah,go_sem,aEP,aEO,aEN,aX,h1,h2,h3,h4,h5,f1,f2]
  ·have f2:=ff c2;simp only[ns,ae,ah,bt,aC,go_sem,aEP,aEO,aEN,aX,h1,h2,h3,h4,h5,f1,f2]
   try rfl
 ·have f1:=ff c1;simp only[ns,ae,ah,bt,aC,go_sem,aEP,aEO,aEN,aX,h1,h2,h3,h4,h5,f1]
  try rfl
theorem Pi{l:List To}{n:Nat}{o:To}(h:l[n]?=some o):dF (D3 l) (n:Int)=some (.ipt (zO o)):=by
 simp[dF,D3,h]
abbrev FQ(n:Nat)(O:List To)(outs:List Int):List AV:=[I n,.sl 6 (D3 O),.sl 1 (aY outs)]
abbrev tpA(n:Nat)(O:List To)(outs:List Int):AV:=.agg (FQ n O outs)
theorem aAw:Src 165 226 1 false []:=
 ⟨bT.2.1,bT.2.2,bT.1.2.2.2 false,bT.1.2.1 false,bT.1.2.2.2 false,bT.1.1 false,cJ.2.1,cJ.2.2,cJ.1.2.2.2 false⟩
theorem aci{n:Nat}{O:List To}:OC (.bx (FQ n O outs)):=⟨fun _=>rfl,rfl,fun _=>rfl,rfl⟩
theorem at8{n:Nat}{O:List To}(hn:n<=8)(hl:O.length<=200){k:Int}:R 206 [I k,ac 1000] [.bx (FQ n O outs)]=some (B (decide (k<0)||decide (((n+O.length:Nat):Int)<=k)),[.bx (FQ n O outs)]):=by
 refine xz UU UT (Gs true) rfl ?_;have e4:aG ((n:Int)+(O.length:Int))=((n+O.length:Nat):Int):=wi;have l2:(D3 O).length=O.length:=aFh _;by_cases g:k<0
 ·have f:(k<0)=True:=tt g;simp only[yr,go_sem,f,l2,e4];exact jY Z Z (aci.cl _) Z Z
 ·have f:(k<0)=False:=ff g;simp only[yr,go_sem,f,l2,e4];exact jY Z Z (aci.cl _) Z Z
theorem Xt(hx:xs.length≠0)(hl:xs.length<=1000):R 22 [.sl 9 (gh xs)] []=some (.osl 9 (gh xs),[]):=by
 have l2:(gh xs).length=xs.length:=aFh _;generalize gh xs=q at l2;cases q with
 |nil=>grind
 |cons r rs=>
  have l3:rs.length+1=xs.length:=l2;have e2:Gy false (.sl 9 (r::rs))=some (B false):=rfl;have e1:((rs.length+1)*120<=140737488355328)=True:=tt
  first
  | (refine Eu E_slices_Clone_api_Model_api_Model_ C_slices_Clone_api_Model_api_Model_ (Ao.2.2.2 false) rfl ?_;simp only[fO,go_sem,e1,e2,aFk,aFs,aES,aE9,aET,true_and,true_or,aE5];done)
  | (refine(BC (g:=clM) κ).trans ?_;show(if(rs.length+1)*120<=140737488355328 then _ else _)=_;rw[ap ω])
theorem DL{l:List Rm}{i:Nat}{d:Rm}(h:i<l.length):l.getD i d=l[i]:=γ
def FR(n a:Int):Bool:=decide (0<=a)&&decide (a<n)
def Gx(n:Int)(o:To):Bool:=
 if o.k=1 then decide (o.a=0)&& (decide (o.b=0)&& (decide (o.n=0)&&LO o.cn o.cd))
 else if o.k=3\/o.k=4\/o.k=5\/o.k=6 then FR n o.a&& (FR n o.b&& (decide (o.n=0)&& (decide (o.cn=0)&&decide (o.cd=0))))
 else if o.k=7\/o.k=9\/o.k=10\/o.k=11\/o.k=12\/o.k=13 then FR n o.a&& (decide (o.b=0)&& (decide (o.n=0)&& (decide (o.cn=0)&&decide (o.cd=0))))
 else if o.k=8 then FR n o.a&& (decide (o.b=0)&& (decide (0<=o.n)&& (decide (o.n<=16)&& (decide (o.cn=0)&&decide (o.cd=0)))))
 else false
def N8(k:Int):Int:=if k=1 then 0 else if k=3\/k=4\/k=5\/k=6 then 2 else if k=7\/k=8\/k=9\/k=10\/k=11\/k=12\/k=13 then 1 else-1
theorem Ue(k:Int):k=1\/k=3\/k=4\/k=5\/k=6\/k=7\/k=8\/k=9\/k=10\/k=11\/k=12\/k=13\/(k≠1/\k≠3/\k≠4/\k≠5/\k≠6/\k≠7/\k≠8/\k≠9/\k≠10/\k≠11/\k≠12/\k≠13):=ω
theorem N9{k}:R 265 [I k] []=some (I (N8 k),[]):=by
 refine au Tb rfl ?_;rcases Ue k with rfl|rfl|rfl|rfl|rfl|rfl|rfl|rfl|rfl|rfl|rfl|rfl| ⟨h1,h3,h4,h5,h6,h7,h8,h9,h10,h11,h12,h13⟩
 case inr.inr.inr.inr.inr.inr.inr.inr.inr.inr.inr.inr=>
  have e:N8 k=-1:=by
   simp_all[N8,av]
  rw[e];have f1:=ff h1;have f3:=ff h3;have f4:=ff h4;have f5:=ff h5;have f6:=ff h6;have f7:=ff h7;have f8:=ff h8;have f9:=ff h9;have f10:=ff h10;have f11:=ff h11;have f12:=ff h12;have f13:=ff h13;simp only[wz,go_sem,aEP,aEO,aEN,aX,f1,f3,f4,f5,f6,f7,f8,f9,f10,f11,f12,f13]
 all_goals
  simp only[wz,go_sem,aEP,aEO,aEN,aX];rfl
theorem eq6{a b c d e f}:Qd false 9 (AV.agg [I a,I b,I c,I d,I e,I f]) (AV.agg [I 0,I 0,I 0,I 0,I 0,I 0])=some (B (decide (a=0)&& (decide (b=0)&& (decide (c=0)&& (decide (d=0)&& (decide (e=0)&&decide (f=0))))))):=by
 have h:Qd false 9 (AV.agg [I a,I b,I c,I d,I e,I f]) (AV.agg [I 0,I 0,I 0,I 0,I 0,I 0])=some (B (false != ([a,b,c,d,e,f]==[0,0,0,0,0,0]))):=rfl;rw[h];congr 3;grind
theorem acj{n a}(h:0<=a/\a<n):FR n a=true:=by
 grind[FR,decide_eq_true]
theorem Jx{n a}(h:¬ (0<=a/\a<n)):FR n a=false:=by
 grind[FR,Bool.decide_and,decide_eq_false]
theorem arB{n k a b m cn cd}(hk:k=3\/k=4\/k=5\/k=6):R 205 [.agg [I k,I a,I b,I m,I cn,I cd],I n] []=some (B (FR n a&& (FR n b&& (decide (m=0)&& (decide (cn=0)&&decide (cd=0))))),[]):=by
 refine au xt rfl ?_;have h1:=N9 (k:=k);rw[show N8 k=2 by unfold N8;omega]at h1;have q:=@eq6;have f8:(k=8)=False:=ff;by_cases a1:a<0
 ·have g1:=tt a1;rw[Jx (n:=n) (a:=a) ω,aE0];simp only[cK,go_sem,aEP,aEO,aEN,aX,h1,f8,g1]
 have g1:=ff a1;by_cases a2:n<=a
 ·have g2:=tt a2;rw[Jx (n:=n) (a:=a) ω,aE0];simp only[cK,go_sem,aEP,aEO,aEN,aX,h1,f8,g1,g2]
 have g2:=ff a2;rw[acj (n:=n) (a:=a) ω,aEW];by_cases b1:b<0
 ·have g3:=tt b1;rw[Jx (n:=n) (a:=b) ω,aE0];simp only[cK,go_sem,aEP,aEO,aEN,aX,h1,f8,g1,g2,g3]
 have g3:=ff b1;by_cases b2:n<=b
 ·have g4:=tt b2;rw[Jx (n:=n) (a:=b) ω,aE0];simp only[cK,go_sem,aEP,aEO,aEN,aX,h1,f8,g1,g2,g3,g4]
 have g4:=ff b2;rw[acj (n:=n) (a:=b) ω,aEW];simp only[cK,go_sem,aEP,aEO,aEN,aX,h1,f8,g1,g2,g3,g4,q,aEW]
theorem arC{n k a b m cn cd}(hk:k=7\/k=9\/k=10\/k=11\/k=12\/k=13):R 205 [.agg [I k,I a,I b,I m,I cn,I cd],I n] []=some (B (FR n a&& (decide (b=0)&& (decide (m=0)&& (decide (cn=0)&&decide (cd=0))))),[]):=by
 refine au xt rfl ?_;have h1:=N9 (k:=k);rw[show N8 k=1 by unfold N8;omega]at h1;have q:=@eq6;have f8:(k=8)=False:=ff;by_cases a1:a<0
 ·have g1:=tt a1;rw[Jx (n:=n) (a:=a) ω,aE0];simp only[cK,go_sem,aEP,aEO,aEN,aX,h1,f8,g1]
 have g1:=ff a1;by_cases a2:n<=a
 ·have g2:=tt a2;rw[Jx (n:=n) (a:=a) ω,aE0];simp only[cK,go_sem,aEP,aEO,aEN,aX,h1,f8,g1,g2]
 have g2:=ff a2;rw[acj (n:=n) (a:=a) ω,aEW];simp only[cK,go_sem,aEP,aEO,aEN,aX,h1,f8,g1,g2,q,aEW]
theorem arD{n a b m cn cd}:R 205 [.agg [I 8,I a,I b,I m,I cn,I cd],I n] []=some (B (FR n a&& (decide (b=0)&& (decide (0<=m)&& (decide (m<=16)&& (decide (cn=0)&&decide (cd=0)))))),[]):=by
 refine au xt rfl ?_;have h1:=N9 (k:=8);rw[show N8 8=1 from rfl]at h1;have q:=@eq6;by_cases m1:m<0
 ·have g5:=tt m1;rw[decide_eq_false (p:=0<=m) ω,aE0,aFT,aFT];simp only[cK,go_sem,aEP,aEO,aEN,aX,h1,g5]
 have g5:=ff m1;rw[decide_eq_true (p:=0<=m) ω,aEW];by_cases m2:16<m
 ·have g6:=tt m2;rw[decide_eq_false (p:=m<=16) ω,aE0,aFT,aFT];simp only[cK,go_sem,aEP,aEO,aEN,aX,h1,g5,g6]
 have g6:=ff m2;rw[decide_eq_true (p:=m<=16) ω,aEW];by_cases a1:a<0
 ·have g1:=tt a1;rw[Jx (n:=n) (a:=a) ω,aE0];simp only[cK,go_sem,aEP,aEO,aEN,aX,h1,g5,g6,g1]
 have g1:=ff a1;by_cases a2:n<=a
 ·have g2:=tt a2;rw[Jx (n:=n) (a:=a) ω,aE0];simp only[cK,go_sem,aEP,aEO,aEN,aX,h1,g5,g6,g1,g2]
 have g2:=ff a2;rw[acj (n:=n) (a:=a) ω,aEW];simp only[cK,go_sem,aEP,aEO,aEN,aX,h1,g5,g6,g1,g2,q,aEW]
theorem ah3{n}{o}:R 205 [.agg (zO o),I n] []=some (B (Gx n o),[]):=by
 obtain⟨k,a,b,m,cn,cd⟩:=o;unfold Gx;by_cases c1:k=1
 ·subst c1;refine au xt rfl ?_;have h1:=N9 (k:=1);rw[show N8 1=0 from rfl]at h1;have h2:=ach (n:=cn) (d:=cd);have q:=@eq6;cases hr:LO cn cd with
  |false=>
   rw[hr]at h2;simp only[cK,zO,go_sem,aEP,aEO,aEN,aX,h1,h2,aFT]
  |true=>
   rw[hr]at h2;simp only[cK,zO,go_sem,aEP,aEO,aEN,aX,h1,h2,q,aFE,aEW]
 rw[av c1];by_cases c2:k=3\/k=4\/k=5\/k=6
 ·simp_all[ap,arB]
 rw[av c2];by_cases c3:k=7\/k=9\/k=10\/k=11\/k=12\/k=13
 ·simp_all[ap,arC]
 rw[av c3];by_cases c4:k=8
 ·subst c4;exact arD
 rw[av c4];refine au xt rfl ?_;have h1:=N9 (k:=k);rw[show N8 k=-1 by simp_all[N8,av]]at h1;simp only[cK,zO,go_sem,aEP,aEO,aEN,aX,h1]
theorem aon{s}{a b}(oa:OkM a)(ob:OkM b)(h:xI s [a,b]=true):fg s=true/\VM s a/\VM s b:=by
 obtain⟨h1,h2⟩:=DF h;exact⟨h1,⟨oa,h2 a σ⟩,⟨ob,h2 b σ⟩⟩
theorem awt{s}{a b}(os:OkS s)(oa:OkM a)(ob:OkM b):MM (NU s a b):=by
 cases h:xI s [a,b]with
 |true=>
  obtain⟨hs,va,vb⟩:=aon oa ob h;exact(ahK os hs va vb).mm
 |false=>
  simp_all[NU,av,aE3,oZ]
theorem at9{s}{a b}(os:OkS s)(oa:OkM a)(ob:OkM b):MM (Ic s a b):=by
 cases h:xI s [a,b]with
 |true=>
  obtain⟨hs,va,vb⟩:=aon oa ob h;exact(akV os hs va vb).mm
 |false=>
  simp_all[Ic,av,aE3,oZ]
theorem ali{s}{a b}(os:OkS s)(oa:OkM a)(ob:OkM b):MM (zJ s a b):=by
 cases h:xI s [a,b]with
 |true=>
  obtain⟨hs,va,vb⟩:=aon oa ob h;exact(NX os hs va vb).mm
 |false=>
  simp_all[zJ,av,aE3,oZ]
theorem alj{s}{x}(os:OkS s)(ox:OkI x):MM (kK s x):=by
 cases h:fg s with
 |true=>exact(FM os h ox).mm
 |false=>
  simp_all[kK,aE0,av,aE3,oZ]
theorem aIW{d n}(h:d.m.length<=n):(gW d).m.length<=n:=by
 unfold gW;split
 ·exact aE9 _
 ·exact h
theorem aua{s}{a}(os:OkS s)(oa:OkM a):MM (RI s a):=by
 cases h:xI s [a]with
 |true=>
  obtain⟨hs,h2⟩:=DF h;have va:=h2 a σ;have vp':vp a.P=true:=by
   simp_all[AC,aEV]
  have oP:=abO oa.c vp';unfold RI;rw[h,ap rfl,adj oP vp',ap rfl];have vm:=(VM.mm ⟨oa,va⟩);refine⟨⟨fun t ht=>?_,EH oa.r,?_⟩,?_,fun t ht=>?_,?_⟩
  ·obtain⟨u,hu,rfl⟩:=List.mem_map.1 ht;exact⟨(oa.c u hu).lb,(oa.c u hu).len⟩
  ·rw[aFh];exact oa.n
  ·rw[aFh];exact vm.l
  ·obtain⟨u,hu,rfl⟩:=List.mem_map.1 ht;exact vm.t u hu
  ·show(rW a.R).lo.m.length<=_/\(rW a.R).hi.m.length<=_;unfold rW;split
   ·exact⟨aIW vm.q.2,aIW vm.q.1⟩
   ·exact⟨aE9 _,aE9 _⟩
 |false=>
  simp_all[RI,av,aE3,oZ]
theorem awu{s}{a}{n}(os:OkS s)(oa:OkM a):MM (pwM s a n):=by
 unfold pwM;split
 ·rename_i h;simp only[aEV]at h;have hs:fg s=true:=by
   grind[AC]
  exact(afc os hs ⟨oa,h.2.2.1⟩ _ (FM os hs (gM ⟨by omega,by omega⟩))).mm
 ·exact oZ
noncomputable def Kw (s:Rs) (k n:Int) (a b:Rm):Rm:=open Classical in if h:∃m,MM m/\R 8 [ej s,I k,I n,bB a,bB b] []=some (bB m,[])then h.choose else cu s
theorem aub(s)(k n)(a b):MM (Kw s k n a b):=by
 unfold Kw;split
 all_goals grind[oZ]
theorem auc{s}{k n}{a b m}(om:MM m)(h:R 8 [ej s,I k,I n,bB a,bB b] []=some (bB m,[])):R 8 [ej s,I k,I n,bB a,bB b] []=some (bB (Kw s k n a b),[]):=by
 have hh:∃m,MM m/\R 8 [ej s,I k,I n,bB a,bB b] []=some (bB m,[]):=⟨m,om,h⟩;unfold Kw;grind
theorem arE{s}{a b}(os:OkS s)(oa:OkM a)(ob:OkM b):∃m,MM m/\R 14 [ej s,bB a,bB b] []=some (bB m,[]):=by
 obtain⟨i,hi,oi,_⟩:=afy os ob;refine⟨_,?_,Xl os oa oi.ok hi⟩;split
 ·exact oZ
 ·exact ali os oa oi.ok
abbrev ApD(s:Rs)(k n:Int)(a b m:Rm):Prop:=k=3/\R 10 [ej s,bB a,bB b] []=some (bB m,[])\/k=4/\R 11 [ej s,bB a,bB b] []=some (bB m,[])\/k=5/\R 12 [ej s,bB a,bB b] []=some (bB m,[])\/k=6/\R 14 [ej s,bB a,bB b] []=some (bB m,[])\/k=7/\R 13 [ej s,bB a] []=some (bB m,[])\/k=8/\R 42 [ej s,bB a,I n] []=some (bB m,[])\/k=9/\R 26 [ej s,bB a] []=some (bB m,[])\/k=10/\R 43 [ej s,bB a] []=some (bB m,[])\/k=11/\R 44 [ej s,bB a] []=some (bB m,[])\/k=12/\R 45 [ej s,bB a] []=some (bB m,[])\/k=13/\R 46 [ej s,bB a] []=some (bB m,[])
theorem rY{s}{k n}{a b m}(h:ApD s k n a b m):R 8 [ej s,I k,I n,bB a,bB b] []=some (bB m,[]):=by
 refine au HC rfl ?_;rcases h with⟨rfl,h⟩| ⟨rfl,h⟩| ⟨rfl,h⟩| ⟨rfl,h⟩| ⟨rfl,h⟩| ⟨rfl,h⟩| ⟨rfl,h⟩| ⟨rfl,h⟩| ⟨rfl,h⟩| ⟨rfl,h⟩| ⟨rfl,h⟩<;>simp only[uq,go_sem,aEP,aEO,aEN,aX,h,ge]
theorem aud{s}{k n}{a b}(os:OkS s)(c3:¬k=3)(c4:¬k=4)(c5:¬k=5)(c6:¬k=6)(c7:¬k=7)(c8:¬k=8)(c9:¬k=9)(c10:¬k=10)(c11:¬k=11)(c12:¬k=12)(c13:¬k=13):R 8 [ej s,I k,I n,bB a,bB b] []=some (bB (cu s),[]):=by
 refine au HC rfl ?_;have h:=zK os;simp only[uq,go_sem,ff c3,ff c4,ff c5,ff c6,ff c7,ff c8,ff c9,ff c10,ff c11,ff c12,ff c13,h]
theorem aLL{s}{k n}{a b}(os:OkS s)(oa:OkM a)(ob:OkM b):(∃m,MM m/\ApD s k n a b m)\/¬k=3/\¬k=4/\¬k=5/\¬k=6/\¬k=7/\¬k=8/\¬k=9/\¬k=10/\¬k=11/\¬k=12/\¬k=13:=by
 by_cases c3:k=3
 ·exact .inl ⟨_,awt os oa ob,.inl ⟨c3,VX os oa ob⟩⟩
 by_cases c4:k=4
 ·exact .inl ⟨_,at9 os oa ob,.inr (.inl ⟨c4,Pa os oa ob⟩)⟩
 by_cases c5:k=5
 ·exact .inl ⟨_,ali os oa ob,.inr (.inr (.inl ⟨c5,G6 os oa ob⟩))⟩
 by_cases c6:k=6
 ·obtain⟨m,om,h⟩:=arE os oa ob;exact .inl ⟨m,om,.inr (.inr (.inr (.inl ⟨c6,h⟩)))⟩
 by_cases c7:k=7
 ·exact .inl ⟨_,aua os oa,.inr (.inr (.inr (.inr (.inl ⟨c7,ae4 os oa⟩))))⟩
 by_cases c8:k=8
 ·exact .inl ⟨_,awu os oa,.inr (.inr (.inr (.inr (.inr (.inl ⟨c8,Xk os oa⟩)))))⟩
 by_cases c9:k=9
 ·obtain⟨m,h,om,_⟩:=afw os oa;exact .inl ⟨m,om,.inr (.inr (.inr (.inr (.inr (.inr (.inl ⟨c9,h⟩))))))⟩
 by_cases c10:k=10
 ·obtain⟨m,h,om,_⟩:=afx os oa;exact .inl ⟨m,om,.inr (.inr (.inr (.inr (.inr (.inr (.inr (.inl ⟨c10,h⟩)))))))⟩
 by_cases c11:k=11
 ·obtain⟨m,h,om,_⟩:=afz os oa;exact .inl ⟨m,om,.inr (.inr (.inr (.inr (.inr (.inr (.inr (.inr (.inl ⟨c11,h⟩))))))))⟩
 by_cases c12:k=12
 ·obtain⟨m,h,om,_⟩:=afA os oa;exact .inl ⟨m,om,.inr (.inr (.inr (.inr (.inr (.inr (.inr (.inr (.inr (.inl ⟨c12,h⟩)))))))))⟩
 by_cases c13:k=13
 ·obtain⟨m,h,om,_⟩:=acd os oa;exact .inl ⟨m,om,.inr (.inr (.inr (.inr (.inr (.inr (.inr (.inr (.inr (.inr ⟨c13,h⟩)))))))))⟩
 exact .inr ⟨c3,c4,c5,c6,c7,c8,c9,c10,c11,c12,c13⟩
theorem awv{s}{k n}{a b}(os:OkS s)(oa:OkM a)(ob:OkM b):∃m,MM m/\R 8 [ej s,I k,I n,bB a,bB b] []=some (bB m,[]):=by
 rcases aLL (k:=k) (n:=n) os oa ob with⟨m,om,h⟩| ⟨c3,c4,c5,c6,c7,c8,c9,c10,c11,c12,c13⟩
 ·exact⟨m,om,rY h⟩
 ·exact⟨cu s,oZ,aud os c3 c4 c5 c6 c7 c8 c9 c10 c11 c12 c13⟩
theorem RU{s}{k n}{a b}(os:OkS s)(oa:OkM a)(ob:OkM b):R 8 [ej s,I k,I n,bB a,bB b] []=some (bB (Kw s k n a b),[]):=by
 obtain⟨m,om,h⟩:=awv (k:=k) (n:=n) os oa ob;grind[auc]
def ue(n:Nat):Nat->List To->Bool
 |_,[]=>true
 |i,o::O=>Gx (n+i:Nat) o&&ue n (i+1) O
theorem aoo{n}{O}{outs}(hn:n<=8)(hl:O.length<=200):∀ (k i:Nat),i+k=O.length->∀S h X,ao 0 [1] (aB (am R (aA false) sU) [1,26,27,28] [1] S h)=X->S 1=ac 1->S 26=.sl 6 (D3 O)->S 27=I O.length->S 28=I i->h 1=.bx (FQ n O outs)->
  (ue n i (O.drop i)=true->∃hh,X=some (.normal,⟨upd ce 1 (ac 1),hh⟩)/\hh 1=.bx (FQ n O outs)/\∀b,b≠1->hh b=.dead)/\(ue n i (O.drop i)=false->∃ss hh,X=some (.ret,⟨ss,hh⟩)/\ss 2=B false):=by
 intro k;induction k with
 |zero=>
  intro i hi S h X hX k1 k26 k27 k28 h1;have:i=O.length:=ω
  subst this;subst hX;rw[ai,List.drop_length];refine⟨fun _=>?_,fun h=>by cases h⟩;refine⟨?hh0,?_,?_,?_⟩
  case hh0=>exact upd (fun _=>.dead) 1 (.bx (FQ n O outs))
  ·simp only[sU,go_sem,k1,k26,k27,k28,h1,aFC]
  all_goals simp_all[cz,if_false]
 |succ k ih=>
  intro i hi S h X hX k1 k26 k27 k28 h1;have hlt:i<O.length:=ω
  have e1:(i< (O.length:Int))=True:=tt;have e2:dF (D3 O) i=some (.ipt (zO O[i])):=Pi (aE1 hlt);have e3:aG (i+1)=(i+1:Nat):=wi;have e4:aG (n+i)=(n+i:Nat):=wi;have hp:=ah3 (n:=(n+i:Nat)) (o:=O[i]);have ih':=ih (i+1) ω;rw[aFe hlt];rw[show ue n i (O[i]::O.drop (i+1))=(Gx (n+i:Nat) O[i]&&ue n (i+1) (O.drop (i+1)))from rfl];subst hX;rw[ai];generalize O[i]=o at e2 hp⊢;cases hb:Gx (n+i:Nat) o with
  |false=>
   rw[hb]at hp;refine⟨fun h=>by grind,fun _=>?_⟩;refine⟨?ss0,?hh0,?_,?_⟩;rotate_left 2
   ·simp only[sU,go_sem,k1,k26,k27,k28,h1,e1,e2,e3,e4,hp];rfl
   ·rfl
  |true=>
   rw[hb]at hp;simp only[sU,go_sem,k1,k26,k27,k28,h1,e1,e2,e3,e4,hp];apply ih'<;>rfl
def Oa(m:Nat)(k:Int):Bool:=decide (k<0)||decide (m<=k)
def Uf(n:Int)(O:List To)(outs:List Int):Bool:=decide (0<=n)&& (decide (n<=8)&& (ue n.toNat 0 O&&!(outs.any (Oa (n.toNat+O.length)))))
abbrev tqC(n:Int)(O:List To)(outs:List Int):List AV:=[I n,.sl 6 (D3 O),.sl 1 (aY outs)]
abbrev Ug(n:Int)(O:List To)(outs:List Int):AV:=.agg (tqC n O outs)
theorem alk{n}{O}{outs}(hl:O.length<=200)(ho:outs.length<=200):R 143 [Ug n O outs] []=some (B (Uf n O outs),[]):=by
 refine au aae rfl ?_;have l2:(D3 O).length=O.length:=aFh _;have l3:(aY outs).length=outs.length:=qW _;unfold Uf;by_cases c1:n<0
 ·have f1:=tt c1;rw[decide_eq_false (p:=0<=n) ω,aE0];simp only[se,yW,go_sem,aEP,aEO,aEN,aX,f1]
 have f1:=ff c1;rw[decide_eq_true (p:=0<=n) ω,aEW];by_cases c2:8<n
 ·have f2:=tt c2;rw[decide_eq_false (p:=n<=8) ω,aE0];simp only[se,yW,go_sem,aEP,aEO,aEN,aX,f1,f2]
 have f2:=ff c2;rw[decide_eq_true (p:=n<=8) ω,aEW];obtain⟨N,rfl⟩:=aFy (show 0<=n by omega);rw[aEY];have e3:(200< (O.length:Int))=False:=ff;have e4:(200< (outs.length:Int))=False:=ff;have hL:=aoo (n:=N) (outs:=outs) ω hl O.length 0 (aES _);have hS:=OT aAw (Frow:=fun z:Int=>[I z]) (l:=outs) (q:=Oa (N+O.length)) (o:=.bx (FQ N O outs)) (f:=206) aci (JZ false) (Gs false) ω (by simp[fj]) fun k hm=>⟨I k,I k,rfl,rfl,rfl,by rfl,at8 ω hl⟩;have hcc:=fun h d hh (hf:h (2000+8*d)=.dead)=>B3 (f:=165) (g:=206) (h:=h) (d:=d) (id:=1) (zas:=[.sl 1 (aY outs)]) (as':=[.sl 1 (aY outs)]) (cJ.1.2.1 false) (cJ.1.2.2.2 false)
  (by simp only[go_sem,aFb,aE5]) Z Z hh aci aci (fun h=>h) hS (abj _) (aFp rfl) (by grind[bV,cV,bS])
 simp only[aFb,aE5,go_sem]at hcc;cases hb:ue N 0 O with
 |false=>
  simp only[se,yW,go_sem,f1,f2,e3,e4,l2,l3];generalize hX:ao 0 [1] _=X;obtain⟨ss,hh,rfl,q1⟩:=(hL _ _ _ hX Z Z Z Z Z).2 hb;simp only[go_sem,q1,aE0]
 |true=>
  simp only[se,yW,go_sem,f1,f2,e3,e4,l2,l3];generalize hX:ao 0 [1] _=X;obtain⟨hh,rfl,q1,q2⟩:=(hL _ _ _ hX Z Z Z Z Z).1 hb;simp only[go_sem,q1,q2];rw[hcc _ _ q1 (q2 _ δ)];simp only[go_sem,aEW]
def Ip(s:Rs)(n:Int)(O:List To)(outs:List Int)(xs:List Rm):Bool:=fg s&& (Uf n O outs&&decide (xs.length=n))
theorem ah4{s}{n}{O}{outs}{xs}(os:OkS s)(hl:O.length<=200)(ho:outs.length<=200):R 73 [ej s,Ug n O outs,.sl 9 (gh xs)] []=some (B (Ip s n O outs xs),[]):=by
 refine au Pr rfl ?_;have h1:=pB os.d os.n;have h2:=alk (n:=n) (O:=O) (outs:=outs) hl ho;have l2:(gh xs).length=xs.length:=aFh _;unfold Ip;cases hs:fg s with
 |false=>
  rw[hs]at h1;simp only[nX,go_sem,h1,aE0]
 |true=>
 rw[hs]at h1;cases hv:Uf n O outs with
 |false=>
  rw[hv]at h2;simp only[nX,go_sem,h1,h2,aE0,aEW]
 |true=>
  rw[hv]at h2;simp only[nX,go_sem,h1,h2,l2,aEW]
def RW(k:Int):Prop:=k=3\/k=4\/k=5\/k=6
instance (k:Int):Decidable (RW k):=inferInstanceAs (Decidable (_\/_))
noncomputable def Kx (s:Rs) (all:List Rm) (o:To):Rm:=if o.k=1 then kK s (LP o.cn o.cd s.p)else if RW o.k then Kw s o.k o.n (all.getD o.a.toNat (cu s)) (all.getD o.b.toNat (cu s))else Kw s o.k o.n (all.getD o.a.toNat (cu s)) (all.getD o.a.toNat (cu s))
noncomputable def B7 (s:Rs):List Rm->List To->List Rm
 |all,[]=>all
 |all,o::O=>B7 s (all++[Kx s all o]) O
theorem alm{s}{all}{o}(os:OkS s):MM (Kx s all o):=by
 grind[Kx,alj,afE,aub]
theorem api{s}(os:OkS s):∀ {O} {all},(∀m∈all,MM m)->∀m∈B7 s all O,MM m
 |[],_,h=>h
 |o::O,all,h=>api os (O:=O) (all:=all++[Kx s all o]) fun m hm=>by
  grind[alm]
theorem ack{s}:∀ {O} {all},(B7 s all O).length=all.length+O.length
 |[],all=>rfl
 |o::O,all=>by
  show(B7 s (all++[Kx s all o]) O).length=_;rw[ack];simp;omega
theorem apj{n}{o}(h:Gx n o=true)(h1:¬o.k=1):0<=o.a/\o.a<n:=by
 unfold Gx at h;grind[FR]
theorem apk{n}{o}(h:Gx n o=true)(h1:¬o.k=1)(h2:RW o.k):0<=o.b/\o.b<n:=by
 unfold Gx at h;grind[FR]
def ah5(d e:Nat)(all:List Rm)(x:AV)(h:aj):Prop:=(all=[]/\x=.emp/\h d=.dead/\h e=.dead)\/(x=.rsl d none 9 0 all.length/\h d=.ar 9 (gh all)/\h e=.dead)\/(x=.rsl e none 9 0 all.length/\h e=.ar 9 (gh all)/\h d=.dead)
theorem aln{s}{n}{O}{outs}(os:OkS s)(hn:n<=8)(hl:O.length<=200):∀k i,i+k=O.length->∀all,all.length=n+i->(∀m∈all,OkM m)->ue n i (O.drop i)=true->∀S h X,ao 0 [4,7] (aB (am R (aA false) dt) [3,4,7,21,22,23] [3,4,47,59,83,2152] S h)=X->S 3=ac 3->S 4=ac 4->S 21=.sl 6 (D3 O)->S 22=I O.length->S 23=I i->h 3=.bx (mO s)->h 4=.bx (FQ n O outs)->h 47=.dead->h 83=.dead->ah5 2152 59 all (S 7) h->
  ∃S' hh,X=some (.normal,⟨S',hh⟩)/\S' 4=ac 4/\ah5 2152 59 (B7 s all (O.drop i)) (S' 7) hh/\hh 4=.bx (FQ n O outs)/\∀b,b≠2152->b≠59->b≠4->b≠3->hh b=.dead:=by
 intro k;induction k with
 |zero=>
  intro i hi all ha hm _ S h X hX k3 k4 k21 k22 k23 h3 h4 h47 h83 hacc;have:i=O.length:=ω
  subst this;subst hX;rw[ai,List.drop_length,show B7 s all []=all from rfl];rcases hacc with⟨g,k7,h21,h59⟩| ⟨k7,h21,h59⟩| ⟨k7,h59,h21⟩
  ·simp only[dt,go_sem,k3,k4,k7,k21,k22,k23,h3,h4,h47,h59,h83,h21,aFC];refine⟨_,_,rfl,rfl,.inl ⟨g,rfl,rfl,rfl⟩,rfl,?_⟩
   simp_all[cz,b2,if_false,ite_self]
  ·simp only[dt,go_sem,k3,k4,k7,k21,k22,k23,h3,h4,h47,h59,h83,h21,aFC];refine⟨_,_,rfl,rfl,.inr (.inl ⟨rfl,rfl,rfl⟩),rfl,?_⟩
   simp_all[cz,b2,if_false,ite_self]
  ·simp only[dt,go_sem,k3,k4,k7,k21,k22,k23,h3,h4,h47,h59,h83,h21,aFC];refine⟨_,_,rfl,rfl,.inr (.inr ⟨rfl,rfl,rfl⟩),rfl,?_⟩
   simp_all[cz,b2,if_false,ite_self]
 |succ k ih=>
  intro i hi all ha hm hO S h X hX k3 k4 k21 k22 k23 h3 h4 h47 h83 hacc;have hlt:i<O.length:=ω
  have e1:((i:Int)< (O.length:Int))=True:=tt;have e2:dF (D3 O) (i:Int)=some (.ipt (zO O[i])):=Pi (aE1 hlt);have e3:aG ((i:Int)+1)=((i+1:Nat):Int):=wi;rw[aFe hlt]at hO⊢;rw[show ue n i (O[i]::O.drop (i+1))=(Gx ((n+i:Nat):Int) O[i]&&ue n (i+1) (O.drop (i+1)))from rfl,aEV]at hO;obtain⟨ho,hO'⟩:=hO;have om:=(alm (all:=all) (o:=O[i]) os).ok;have ih':=ih (i+1) ω (all++[Kx s all O[i]]) γ (fun m h=>by
   grind) hO'
  have l9:(gh all).length=all.length:=aFh _;have b1:(all.length+1)*120<=140737488355328:=ω
  have f3:=tt b1;subst hX;rw[ai];generalize aB _ _ _=L at ih'⊢;rw[show B7 s all (O[i]::O.drop (i+1))=B7 s (all++[Kx s all O[i]]) (O.drop (i+1))from rfl];generalize O[i]=o at e2 ho om ih'⊢;obtain⟨kk,a,b,m,cn,cd⟩:=o;by_cases c1:kk=1
  ·subst c1;have q1:=aom (n:=cn) (d:=cd) (p:=s.p);have q2:=vU os (x:=LP cn cd s.p) afE;rw[show Kx s all ⟨1,a,b,m,cn,cd⟩=kK s (LP cn cd s.p)from rfl]at ih'⊢;generalize kK s (LP cn cd s.p)=w at q2 ih'⊢;generalize LP cn cd s.p=y at q1 q2;have et:gh (all++[w])=gh all++[uj w]:=γ
   have el:(all++[w]).length=all.length+1:=σ
   simp only[ae,ah]at q1 q2;simp only[zO]at e2;rcases hacc with⟨rfl,k7,h21,h59⟩| ⟨k7,h21,h59⟩| ⟨k7,h59,h21⟩
   ·simp only[dt,go_sem,aEP,aEO,aEN,aX,k3,k4,k7,k21,k22,k23,h3,h4,h47,h59,h83,h21,e1,e2,e3,q1,q2,f3,l9,true_or,or_true,aES,aET,aGJ,aFa,aFF,aFE];exact ih' _ _ _ Z Z Z Z Z Z Z Z Z Z (.inr (.inr ⟨rfl,rfl,rfl⟩))
   ·simp only[dt,go_sem,aEP,aEO,aEN,aX,k3,k4,k7,k21,k22,k23,h3,h4,h47,h59,h83,h21,e1,e2,e3,q1,q2,f3,l9,true_or,or_true,aES,aET,aGJ,aFa,aFF,aFE];exact ih' _ _ _ Z Z Z Z Z Z Z Z Z Z (.inr (.inl ⟨by rw[el];rfl,by rw[et];rfl,rfl⟩))
   ·simp only[dt,go_sem,aEP,aEO,aEN,aX,k3,k4,k7,k21,k22,k23,h3,h4,h47,h59,h83,h21,e1,e2,e3,q1,q2,f3,l9,true_or,or_true,aES,aET,aGJ,aFa,aFF,aFE];exact ih' _ _ _ Z Z Z Z Z Z Z Z Z Z (.inr (.inr ⟨by rw[el];rfl,by rw[et];rfl,rfl⟩))
  have g1:=ff c1;obtain⟨a1,a2⟩:=apj ho c1;simp only at a1 a2;obtain⟨na,rfl⟩:=aFy a1;have la:na<all.length:=ω
  have ra:(gh all)[na]?=some (uj all[na]):=γ
  have qa:(0<=(na:Int)/\(na:Int)< (all.length:Int))=True:=eq_true ⟨by omega,by omega⟩;have oa:=hm _ (aFg la);have ga:all.getD na (cu s)=all[na]:=DL la;by_cases c2:RW kk
  ·obtain⟨b1,b2⟩:=apk ho c1 c2;simp only at b1 b2;obtain⟨nb,rfl⟩:=aFy b1;have lb:nb<all.length:=ω
   have qb:(0<=(nb:Int)/\(nb:Int)< (all.length:Int))=True:=eq_true ⟨by omega,by omega⟩;have rb:(gh all)[nb]?=some (uj all[nb]):=γ
   have ob:=hm _ (aFg lb);have gb:all.getD nb (cu s)=all[nb]:=DL lb;have q1:=RU (s:=s) (k:=kk) (n:=m) os oa ob;have hv:Kx s all ⟨kk,na,nb,m,cn,cd⟩=Kw s kk m all[na] all[nb]:=by
    simp_all[Kx,av,ap,aEY]
   rw[hv]at ih'⊢;generalize Kw s kk m all[na] all[nb]=w at q1 ih'⊢;generalize all[na]=ma at ra q1;generalize all[nb]=mb at rb q1;have et:gh (all++[w])=gh all++[uj w]:=γ
   have el:(all++[w]).length=all.length+1:=σ
   simp only[zO]at e2;rcases hacc with⟨rfl,_⟩| ⟨k7,h21,h59⟩| ⟨k7,h59,h21⟩
   ·grind
   ·rcases c2 with rfl|rfl|rfl|rfl
    all_goals
     simp only[dt,go_sem,aEP,aEO,aEN,aX,k3,k4,k7,k21,k22,k23,h3,h4,h47,h59,h83,h21,e1,e2,e3,ra,rb,qa,qb,aEY,q1,f3,l9,true_or,or_true,aES,aET,aGJ,aFa,aFF,aFE];exact ih' _ _ _ Z Z Z Z Z Z Z Z Z Z (.inr (.inl ⟨by rw[el];rfl,by rw[et];rfl,rfl⟩))
   ·rcases c2 with rfl|rfl|rfl|rfl
    all_goals
     simp only[dt,go_sem,aEP,aEO,aEN,aX,k3,k4,k7,k21,k22,k23,h3,h4,h47,h59,h83,h21,e1,e2,e3,ra,rb,qa,qb,aEY,q1,f3,l9,true_or,or_true,aES,aET,aGJ,aFa,aFF,aFE];exact ih' _ _ _ Z Z Z Z Z Z Z Z Z Z (.inr (.inr ⟨by rw[el];rfl,by rw[et];rfl,rfl⟩))
  ·have q1:=RU (s:=s) (k:=kk) (n:=m) os oa oa;have hv:Kx s all ⟨kk,na,b,m,cn,cd⟩=Kw s kk m all[na] all[na]:=by
    simp_all[Kx,av,aEY]
   rw[hv]at ih'⊢;generalize Kw s kk m all[na] all[na]=w at q1 ih'⊢;generalize all[na]=ma at ra q1;have et:gh (all++[w])=gh all++[uj w]:=γ
   have el:(all++[w]).length=all.length+1:=σ
   simp only[zO]at e2;have n3:=ff (show¬kk=3 from fun h=>c2 (.inl h));have n4:=ff (show¬kk=4 from fun h=>c2 (.inr (.inl h)));have n5:=ff (show¬kk=5 from fun h=>c2 (.inr (.inr (.inl h))));have n6:=ff (show¬kk=6 from fun h=>c2 (.inr (.inr (.inr h))));rcases hacc with⟨rfl,_⟩| ⟨k7,h21,h59⟩| ⟨k7,h59,h21⟩
   ·grind
   ·simp only[dt,go_sem,aEP,aEO,aEN,aX,k3,k4,k7,k21,k22,k23,h3,h4,h47,h59,h83,h21,e1,e2,e3,g1,n3,n4,n5,n6,ra,qa,aEY,q1,f3,l9,true_or,or_true,aES,aET,aGJ,aFa,aFF,aFE];exact ih' _ _ _ Z Z Z Z Z Z Z Z Z Z (.inr (.inl ⟨by rw[el];rfl,by rw[et];rfl,rfl⟩))
   ·simp only[dt,go_sem,aEP,aEO,aEN,aX,k3,k4,k7,k21,k22,k23,h3,h4,h47,h59,h83,h21,e1,e2,e3,g1,n3,n4,n5,n6,ra,qa,aEY,q1,f3,l9,true_or,or_true,aES,aET,aGJ,aFa,aFF,aFE];exact ih' _ _ _ Z Z Z Z Z Z Z Z Z Z (.inr (.inr ⟨by rw[el];rfl,by rw[et];rfl,rfl⟩))
noncomputable def ug (s:Rs) (V:List Rm) (outs:List Int):List Rm:=outs.map fun k=>V.getD k.toNat (cu s)
theorem alp{s:Rs}{n:Nat}{O:List To}{V:List Rm}(ho:∀k∈outs,0<=k/\k< (V.length:Int))(hl:outs.length<=200):∀ (k i:Nat),i+k=outs.length->∀ (S:aM) (h:aj) (X:Option (Ex×St)),ao 3 [10] (aB (am R (aA false) fM) [7,10,86,87,88] [4,47,59,83,98,2152] S h)=X->S 86=.sl 1 (aY outs)->S 87=I outs.length->S 88=I i->h 4=.bx (FQ n O outs)->h 47=.dead->h 83=.dead->ah5 2152 59 V (S 7) h->atS 98 (ug s V (outs.take i)) (S 10) (h 98)->
  ∃y hh,X=some (.normal,⟨upd ce 10 y,hh⟩)/\atS 98 (ug s V outs) y (hh 98):=by
 intro k;induction k with
 |zero=>
  intro i hi S h X hX k86 k87 k88 h4 h47 h83 hq hacc;have:i=outs.length:=ω
  subst this;subst hX;rw[List.take_length]at hacc;rw[ai];rcases hacc with⟨g2,k10,h98⟩| ⟨g2,k10,h98⟩
  ·rcases hq with⟨_,k7,h21,h59⟩| ⟨k7,h21,h59⟩| ⟨k7,h59,h21⟩<;> (simp only[fM,go_sem,k7,k10,k86,k87,k88,h4,h47,h83,h21,h59,h98,aFC];exact⟨_,_,rfl,Or.inl ⟨g2,rfl,rfl⟩⟩)
  ·rcases hq with⟨_,k7,h21,h59⟩| ⟨k7,h21,h59⟩| ⟨k7,h59,h21⟩<;> (simp only[fM,go_sem,k7,k10,k86,k87,k88,h4,h47,h83,h21,h59,h98,aFC];exact⟨_,_,rfl,Or.inr ⟨g2,rfl,rfl⟩⟩)
 |succ k ih=>
  intro i hi S h X hX k86 k87 k88 h4 h47 h83 hq hacc;have ih':=ih (i+1) ω;have hlt:i<outs.length:=ω
  have e1:((i:Int)< (outs.length:Int))=True:=tt;have e2:dF (aY outs) (i:Int)=some (.ipt [I outs[i]]):=vE rfl (aE1 hlt);have e3:aG ((i:Int)+1)=((i+1:Nat):Int):=wi;have q1:((ug s V (outs.take i)).length+1)*120<=140737488355328:=by grind[ug,aFh,aFm]
  have f3:=tt q1;have et:ug s V (outs.take (i+1))=ug s V (outs.take i)++[V.getD outs[i].toNat (cu s)]:=by unfold ug;rw[List.take_succ_eq_append_getElem hlt,List.map_append];rfl
  rw[et]at ih';obtain⟨g1,g2⟩:=ho _ (aFg hlt);subst hX;rw[ai];generalize outs[i]=o at e2 g1 g2 ih';obtain⟨j,rfl⟩:=aFy g1;have lj:j<V.length:=ω
  have ra:(gh V)[j]?=some (uj V[j]):=by simp[gh,lj]
  have qa:(0<=(j:Int)/\(j:Int)< (V.length:Int))=True:=eq_true ⟨g1,g2⟩;rw[aEY,DL lj]at ih';have l9:(gh V).length=V.length:=aFh _;generalize ug s V (outs.take i)=out at hacc q1 f3 ih'⊢;have fl:(gh out).length=out.length:=aFh _;rcases hq with⟨rfl,_⟩| ⟨k7,h21,h59⟩| ⟨k7,h59,h21⟩
  ·grind
  ·rcases hacc with⟨rfl,k10,h98⟩| ⟨g2,k10,h98⟩
   ·simp only[fM,go_sem,aEP,aEO,aEN,aX,k7,k10,k86,k87,k88,h4,h47,h83,h21,h59,h98,e1,e2,e3,ra,qa,l9,f3,aEY,true_or,or_true,aES,aET,aGJ,aFa,aFF,aFE];exact ih' _ _ _ Z Z Z Z Z Z Z (.inr (.inl ⟨rfl,rfl,rfl⟩)) (Or.inr ⟨by simp,rfl,rfl⟩)
   ·simp only[fM,go_sem,aEP,aEO,aEN,aX,k7,k10,k86,k87,k88,h4,h47,h83,h21,h59,h98,e1,e2,e3,ra,qa,l9,fl,f3,aEY,true_or,or_true,aES,aET,aGJ,aFa,aFF,aFE];refine ih' _ _ _ Z Z Z Z Z Z Z (.inr (.inl ⟨rfl,rfl,rfl⟩)) (Or.inr ⟨by simp,?_,?_⟩)<;>simp[cz]
  ·rcases hacc with⟨rfl,k10,h98⟩| ⟨g2,k10,h98⟩
   ·simp only[fM,go_sem,aEP,aEO,aEN,aX,k7,k10,k86,k87,k88,h4,h47,h83,h21,h59,h98,e1,e2,e3,ra,qa,l9,f3,aEY,true_or,or_true,aES,aET,aGJ,aFa,aFF,aFE];exact ih' _ _ _ Z Z Z Z Z Z Z (.inr (.inr ⟨rfl,rfl,rfl⟩)) (Or.inr ⟨by simp,rfl,rfl⟩)
   ·simp only[fM,go_sem,aEP,aEO,aEN,aX,k7,k10,k86,k87,k88,h4,h47,h83,h21,h59,h98,e1,e2,e3,ra,qa,l9,fl,f3,aEY,true_or,or_true,aES,aET,aGJ,aFa,aFF,aFE];refine ih' _ _ _ Z Z Z Z Z Z Z (.inr (.inr ⟨rfl,rfl,rfl⟩)) (Or.inr ⟨by simp,?_,?_⟩)<;>simp[cz]
theorem alq:R 22 [.sl 9 []] []=some (.emp,[]):=
 (BC (g:=clM) κ).trans rfl
theorem alr(h:aj)(d:Nat):mR h d (some (.emp,[]))=if bV h (2000+8*d) 1=true then some (.emp,h,[])else none:=by
 simp[mR,cV,kZ,gR,be,bA,mat,eS]
noncomputable def aoq (s:Rs) (n:Int) (O:List To) (outs:List Int) (xs:List Rm):List Rm:=if Ip s n O outs xs then ug s (B7 s xs O) outs else []
noncomputable abbrev ah6:Cmd:=.seq (.ops [4,7,10] [co 10 (.mv (.c .emp))]) (.seq (.seq (.ops [7,10,86,87,88] [fa 85 2 4,ld 86 1 85,co 87 (.len false (.t 86)),co 88 (.mv (.c (I 0)))]) (.block 3 [10] (.loop [7,10,86,87,88] [4,47,59,83,98,2152] fM))) (.seq (.ops [6] [cm 100 10,cm 6 100]) (.ret)))
theorem arF{n:Int}{O:List To}(os:OkS s)(hl:O.length<=200)(ho:outs.length<=200)(hm:∀m∈xs,OkM m):R 18 [ej s,Ug n O outs,.sl 9 (gh xs)] []=some (.sl 9 (gh (aoq s n O outs xs)),[]):=by
 refine au SN rfl ?_;have h1:=ah4 (n:=n) (xs:=xs) os hl ho;unfold aoq;cases hv:Ip s n O outs xs with
 |false=>
  rw[hv]at h1;simp only[re,yi,go_sem,nI,h1]
 |true=>
 rw[hv]at h1;unfold Ip Uf at hv;simp only[aEV,decide_eq_true_eq,aFS]at hv;obtain⟨hs,⟨n0,n8,hO,hA⟩,hx⟩:=hv;obtain⟨N,rfl⟩:=aFy n0;rw[aEY]at hO hA;have hxl:xs.length=N:=ω
 have hL:=aln (n:=N) (O:=O) (outs:=outs) os ω hl O.length 0 (aES _) xs ω hm γ;rw[aFX]at hL;have hlen:(B7 s xs O).length=N+O.length:=by grind[ack]
 have hb:∀k∈outs,0<=k/\k< ((B7 s xs O).length:Int):=fun k hk=>by
  simp_all[Oa,aF0,decide_eq_true_eq,not_or]
 have hZ:=alp (s:=s) (n:=N) (O:=O) hb ho outs.length 0 (aES _);have l9:(gh xs).length=xs.length:=aFh _;have lO:(D3 O).length=O.length:=aFh _;have lo:(aY outs).length=outs.length:=qW _;generalize hV:B7 s xs O=V at hL hZ⊢;have hn:=nI (ug s V outs);have hc:(xs=[]/\R 22 [.sl 9 (gh xs)] []=some (.emp,[]))\/(xs.length≠0/\R 22 [.sl 9 (gh xs)] []=some (.osl 9 (gh xs),[])):=by
  cases xs with
  |nil=>grind[alq]
  |cons a l=>exact .inr ⟨by simp,Xt σ ω⟩
 have hf:∀ (S':aM) (hh:aj),S' 4=ac 4->ah5 2152 59 V (S' 7) hh->hh 4=.bx (FQ N O outs)->(∀b,b≠2152->b≠59->b≠4->b≠3->hh b=.dead)->
   fk false [[.o 10 [.o 0 [],.o 5 [],.o 0 [],.o 2 [],.o 0 [],.o 0 [],.o 2 [],.o 0 [],.o 0 []]]] [.t 6] 0 (dx (some (.normal,⟨S',hh⟩)) (am R (aA false) ah6))=some (.sl 9 (gh (ug s V outs)),[]):=by
  intro S' hh k4 hq h4 hd;have d47:=hd 47 δ δ δ δ;have d83:=hd 83 δ δ δ δ;have d98:=hd 98 δ δ δ δ;have lu:(gh (ug s V outs)).length=(ug s V outs).length:=aFh _;rcases hq with⟨g0,k7,h21,h59⟩| ⟨k7,h21,h59⟩| ⟨k7,h59,h21⟩
  ·simp only[ah6,go_sem,k4,k7,h4,h21,h59,d47,d83,d98,lo];generalize hX:ao 3 [10] _=X;obtain⟨y,h2,rfl,hacc⟩:=hZ _ _ _ hX Z Z Z h4 d47 d83 (.inl ⟨g0,rfl,h21,h59⟩) (.inl ⟨rfl,rfl,d98⟩);rcases hacc with⟨e,rfl,m24⟩| ⟨e,rfl,m24⟩
   ·simp only[e,go_sem,m24]
   ·simp only[go_sem,m24,hn,lu,aES,aET]
  ·simp only[ah6,go_sem,k4,k7,h4,h21,h59,d47,d83,d98,lo];generalize hX:ao 3 [10] _=X;obtain⟨y,h2,rfl,hacc⟩:=hZ _ _ _ hX Z Z Z h4 d47 d83 (.inr (.inl ⟨rfl,h21,h59⟩)) (.inl ⟨rfl,rfl,d98⟩);rcases hacc with⟨e,rfl,m24⟩| ⟨e,rfl,m24⟩
   ·simp only[e,go_sem,m24]
   ·simp only[go_sem,m24,hn,lu,aES,aET]
  ·simp only[ah6,go_sem,k4,k7,h4,h21,h59,d47,d83,d98,lo];generalize hX:ao 3 [10] _=X;obtain⟨y,h2,rfl,hacc⟩:=hZ _ _ _ hX Z Z Z h4 d47 d83 (.inr (.inr ⟨rfl,h59,h21⟩)) (.inl ⟨rfl,rfl,d98⟩);rcases hacc with⟨e,rfl,m24⟩| ⟨e,rfl,m24⟩
   ·simp only[e,go_sem,m24]
   ·simp only[go_sem,m24,hn,lu,aES,aET]
 rcases hc with⟨hxe,h2⟩| ⟨_,h2⟩
 ·simp only[re,yi,go_sem,nI,h1,h2,l9,lO,alr];generalize hX:ao 0 [4,7] _=X;obtain⟨S',hh,rfl,q1,q2,q3,q5⟩:=hL _ _ _ hX Z Z Z Z Z Z Z Z Z (.inl ⟨hxe,rfl,rfl,rfl⟩);exact hf _ _ q1 q2 q3 q5
 ·simp only[re,yi,go_sem,nI,h1,h2,l9,lO];generalize hX:ao 0 [4,7] _=X;obtain⟨S',hh,rfl,q1,q2,q3,q5⟩:=hL _ _ _ hX Z Z Z Z Z Z Z Z Z (.inr (.inl ⟨rfl,rfl,rfl⟩));exact hf _ _ q1 q2 q3 q5
theorem ayr{n:Nat}{O:List To}{outs:List Int}(os:OkS s)(hn:n<=8)(hl:O.length<=200):∀ (k i:Nat),i+k=O.length->∀ (all:List Rm),all.length=n+i->(∀m∈all,OkM m)->ue n i (O.drop i)=true->∀ (S:aM) (h:aj) (X:Option (Ex×St)),ao 0 [7] (aB (am R (aA false) abS) [3,7,13,14,15] [3,4,39,51,75,2088] S h)=X->S 3=ac 3->S 13=.sl 6 (D3 O)->S 14=I O.length->S 15=I i->h 3=.bx (mO s)->h 4=.bx (FQ n O outs)->h 39=.dead->h 75=.dead->ah5 2088 51 all (S 7) h->
  ∃S' hh,X=some (.normal,⟨S',hh⟩)/\ah5 2088 51 (B7 s all (O.drop i)) (S' 7) hh/\hh 4=.bx (FQ n O outs)/\∀b,b≠2088->b≠51->b≠4->b≠3->hh b=.dead:=by
 intro k;induction k with
 |zero=>
  intro i hi all ha hm _ S h X hX k3 k13 k14 k15 h3 h4 h39 h75 hacc;have:i=O.length:=ω
  subst this;subst hX;rw[ai,List.drop_length,show B7 s all []=all from rfl];rcases hacc with⟨g,k7,h13,h51⟩| ⟨k7,h13,h51⟩| ⟨k7,h51,h13⟩
  ·simp only[abS,go_sem,k3,k7,k13,k14,k15,h3,h4,h39,h51,h75,h13,aFC];refine⟨_,_,rfl,.inl ⟨g,rfl,rfl,rfl⟩,rfl,?_⟩
   simp_all[cz,b2,if_false,ite_self]
  ·simp only[abS,go_sem,k3,k7,k13,k14,k15,h3,h4,h39,h51,h75,h13,aFC];refine⟨_,_,rfl,.inr (.inl ⟨rfl,rfl,rfl⟩),rfl,?_⟩
   simp_all[cz,b2,if_false,ite_self]
  ·simp only[abS,go_sem,k3,k7,k13,k14,k15,h3,h4,h39,h51,h75,h13,aFC];refine⟨_,_,rfl,.inr (.inr ⟨rfl,rfl,rfl⟩),rfl,?_⟩
   simp_all[cz,b2,if_false,ite_self]
 |succ k ih=>
  intro i hi all ha hm hO S h X hX k3 k13 k14 k15 h3 h4 h39 h75 hacc;have hlt:i<O.length:=ω
  have e1:((i:Int)< (O.length:Int))=True:=tt;have e2:dF (D3 O) (i:Int)=some (.ipt (zO O[i])):=Pi (aE1 hlt);have e3:aG ((i:Int)+1)=((i+1:Nat):Int):=wi;rw[aFe hlt]at hO⊢;rw[show ue n i (O[i]::O.drop (i+1))=(Gx ((n+i:Nat):Int) O[i]&&ue n (i+1) (O.drop (i+1)))from rfl,aEV]at hO;obtain⟨ho,hO'⟩:=hO;have om:=(alm (all:=all) (o:=O[i]) os).ok;have ih':=ih (i+1) ω (all++[Kx s all O[i]]) γ (fun m h=>by
   grind) hO'
  have l9:(gh all).length=all.length:=aFh _;have b1:(all.length+1)*120<=140737488355328:=ω
  have f3:=tt b1;subst hX;rw[ai];generalize aB _ _ _=L at ih'⊢;rw[show B7 s all (O[i]::O.drop (i+1))=B7 s (all++[Kx s all O[i]]) (O.drop (i+1))from rfl];generalize O[i]=o at e2 ho om ih'⊢;obtain⟨kk,a,b,m,cn,cd⟩:=o;by_cases c1:kk=1
  ·subst c1;have q1:=aom (n:=cn) (d:=cd) (p:=s.p);have q2:=vU os (x:=LP cn cd s.p) afE;rw[show Kx s all ⟨1,a,b,m,cn,cd⟩=kK s (LP cn cd s.p)from rfl]at ih'⊢;generalize kK s (LP cn cd s.p)=w at q2 ih'⊢;generalize LP cn cd s.p=y at q1 q2;have et:gh (all++[w])=gh all++[uj w]:=γ
   have el:(all++[w]).length=all.length+1:=σ
   simp only[ae,ah]at q1 q2;simp only[zO]at e2;rcases hacc with⟨rfl,k7,h13,h51⟩| ⟨k7,h13,h51⟩| ⟨k7,h51,h13⟩
   ·simp only[abS,go_sem,aEP,aEO,aEN,aX,k3,k7,k13,k14,k15,h3,h4,h39,h51,h75,h13,e1,e2,e3,q1,q2,f3,l9,true_or,or_true,aES,aET,aGJ,aFa,aFF,aFE];exact ih' _ _ _ Z Z Z Z Z Z Z Z Z (.inr (.inr ⟨rfl,rfl,rfl⟩))
   ·simp only[abS,go_sem,aEP,aEO,aEN,aX,k3,k7,k13,k14,k15,h3,h4,h39,h51,h75,h13,e1,e2,e3,q1,q2,f3,l9,true_or,or_true,aES,aET,aGJ,aFa,aFF,aFE];exact ih' _ _ _ Z Z Z Z Z Z Z Z Z (.inr (.inl ⟨by rw[el];rfl,by rw[et];rfl,rfl⟩))
   ·simp only[abS,go_sem,aEP,aEO,aEN,aX,k3,k7,k13,k14,k15,h3,h4,h39,h51,h75,h13,e1,e2,e3,q1,q2,f3,l9,true_or,or_true,aES,aET,aGJ,aFa,aFF,aFE];exact ih' _ _ _ Z Z Z Z Z Z Z Z Z (.inr (.inr ⟨by rw[el];rfl,by rw[et];rfl,rfl⟩))
  have g1:=ff c1;obtain⟨a1,a2⟩:=apj ho c1;simp only at a1 a2;obtain⟨na,rfl⟩:=aFy a1;have la:na<all.length:=ω
  have ra:(gh all)[na]?=some (uj all[na]):=γ
  have qa:(0<=(na:Int)/\(na:Int)< (all.length:Int))=True:=eq_true ⟨by omega,by omega⟩;have oa:=hm _ (aFg la);have ga:all.getD na (cu s)=all[na]:=DL la;by_cases c2:RW kk
  ·obtain⟨b1,b2⟩:=apk ho c1 c2;simp only at b1 b2;obtain⟨nb,rfl⟩:=aFy b1;have lb:nb<all.length:=ω
   have qb:(0<=(nb:Int)/\(nb:Int)< (all.length:Int))=True:=eq_true ⟨by omega,by omega⟩;have rb:(gh all)[nb]?=some (uj all[nb]):=γ
   have ob:=hm _ (aFg lb);have gb:all.getD nb (cu s)=all[nb]:=DL lb;have q1:=RU (s:=s) (k:=kk) (n:=m) os oa ob;have hv:Kx s all ⟨kk,na,nb,m,cn,cd⟩=Kw s kk m all[na] all[nb]:=by
    simp_all[Kx,av,ap,aEY]
   rw[hv]at ih'⊢;generalize Kw s kk m all[na] all[nb]=w at q1 ih'⊢;generalize all[na]=ma at ra q1;generalize all[nb]=mb at rb q1;have et:gh (all++[w])=gh all++[uj w]:=γ
   have el:(all++[w]).length=all.length+1:=σ
   simp only[zO]at e2;rcases hacc with⟨rfl,_⟩| ⟨k7,h13,h51⟩| ⟨k7,h51,h13⟩
   ·grind
   ·rcases c2 with rfl|rfl|rfl|rfl
    all_goals
     simp only[abS,go_sem,aEP,aEO,aEN,aX,k3,k7,k13,k14,k15,h3,h4,h39,h51,h75,h13,e1,e2,e3,ra,rb,qa,qb,aEY,q1,f3,l9,true_or,or_true,aES,aET,aGJ,aFa,aFF,aFE];exact ih' _ _ _ Z Z Z Z Z Z Z Z Z (.inr (.inl ⟨by rw[el];rfl,by rw[et];rfl,rfl⟩))
   ·rcases c2 with rfl|rfl|rfl|rfl
    all_goals
     simp only[abS,go_sem,aEP,aEO,aEN,aX,k3,k7,k13,k14,k15,h3,h4,h39,h51,h75,h13,e1,e2,e3,ra,rb,qa,qb,aEY,q1,f3,l9,true_or,or_true,aES,aET,aGJ,aFa,aFF,aFE];exact ih' _ _ _ Z Z Z Z Z Z Z Z Z (.inr (.inr ⟨by rw[el];rfl,by rw[et];rfl,rfl⟩))
  ·have q1:=RU (s:=s) (k:=kk) (n:=m) os oa oa;have hv:Kx s all ⟨kk,na,b,m,cn,cd⟩=Kw s kk m all[na] all[na]:=by
    simp_all[Kx,av,aEY]
   rw[hv]at ih'⊢;generalize Kw s kk m all[na] all[na]=w at q1 ih'⊢;generalize all[na]=ma at ra q1;have et:gh (all++[w])=gh all++[uj w]:=γ
   have el:(all++[w]).length=all.length+1:=σ
   simp only[zO]at e2;have n3:=ff (show¬kk=3 from fun h=>c2 (.inl h));have n4:=ff (show¬kk=4 from fun h=>c2 (.inr (.inl h)));have n5:=ff (show¬kk=5 from fun h=>c2 (.inr (.inr (.inl h))));have n6:=ff (show¬kk=6 from fun h=>c2 (.inr (.inr (.inr h))));rcases hacc with⟨rfl,_⟩| ⟨k7,h13,h51⟩| ⟨k7,h51,h13⟩
   ·grind
   ·simp only[abS,go_sem,aEP,aEO,aEN,aX,k3,k7,k13,k14,k15,h3,h4,h39,h51,h75,h13,e1,e2,e3,g1,n3,n4,n5,n6,ra,qa,aEY,q1,f3,l9,true_or,or_true,aES,aET,aGJ,aFa,aFF,aFE];exact ih' _ _ _ Z Z Z Z Z Z Z Z Z (.inr (.inl ⟨by rw[el];rfl,by rw[et];rfl,rfl⟩))
   ·simp only[abS,go_sem,aEP,aEO,aEN,aX,k3,k7,k13,k14,k15,h3,h4,h39,h51,h75,h13,e1,e2,e3,g1,n3,n4,n5,n6,ra,qa,aEY,q1,f3,l9,true_or,or_true,aES,aET,aGJ,aFa,aFF,aFE];exact ih' _ _ _ Z Z Z Z Z Z Z Z Z (.inr (.inr ⟨by rw[el];rfl,by rw[et];rfl,rfl⟩))
theorem as9{N:Nat}{O:List To}(os:OkS s)(hn:N<=8)(hl:O.length<=200)(hx:xs.length=N)(hm:∀m∈xs,OkM m)(hO:ue N 0 O=true):R 20 [ej s,tpA N O outs,.sl 9 (gh xs)] []=some (.sl 9 (gh (B7 s xs O)),[]):=by
 refine au afI rfl ?_;have hL:=ayr (n:=N) (O:=O) (outs:=outs) os hn hl O.length 0 (aES _) xs ω hm γ;rw[aFX]at hL;have l9:(gh xs).length=xs.length:=aFh _;have lO:(D3 O).length=O.length:=aFh _;have hn':=nI (B7 s xs O);have lu:(gh (B7 s xs O)).length=(B7 s xs O).length:=aFh _;have hc:(xs=[]/\R 22 [.sl 9 (gh xs)] []=some (.emp,[]))\/(xs.length≠0/\R 22 [.sl 9 (gh xs)] []=some (.osl 9 (gh xs),[])):=by
  cases xs with
  |nil=>grind[alq]
  |cons a l=>exact .inr ⟨by simp,Xt σ ω⟩
 rcases hc with⟨hxe,h2⟩| ⟨_,h2⟩
 ·simp only[ado,adH,go_sem,nI,h2,l9,lO,alr];generalize hX:ao 0 [7] _=X;obtain⟨S',hh,rfl,hq,h4,q5⟩:=hL _ _ _ hX Z Z Z Z Z Z Z Z (.inl ⟨hxe,rfl,rfl,rfl⟩);rcases hq with⟨g0,k7,h21,h59⟩| ⟨k7,h21,h59⟩| ⟨k7,h59,h21⟩
  ·simp only[go_sem,k7,g0]
  ·simp only[go_sem,k7,h21,hn',lu,aES,aET]
  ·simp only[go_sem,k7,h59,hn',lu,aES,aET]
 ·simp only[ado,adH,go_sem,nI,h2,l9,lO];generalize hX:ao 0 [7] _=X;obtain⟨S',hh,rfl,hq,h4,q5⟩:=hL _ _ _ hX Z Z Z Z Z Z Z Z (.inr (.inl ⟨rfl,rfl,rfl⟩));rcases hq with⟨g0,k7,h21,h59⟩| ⟨k7,h21,h59⟩| ⟨k7,h59,h21⟩
  ·simp only[go_sem,k7,g0]
  ·simp only[go_sem,k7,h21,hn',lu,aES,aET]
  ·simp only[go_sem,k7,h59,hn',lu,aES,aET]
theorem aos{a b:Nat}:R 268 [W a,W b] []=some (W (Nat.gcd a b),[]):=
 au ajd rfl (by exact afD)
theorem alt{n}(h1:-1073741824<=n)(h2:n<=1073741824):R 269 [I n] []=some (W n.natAbs,[]):=by
 refine au ag1 rfl ?_;by_cases g:n<0
 ·have e1:=tt g;have e0:aG (n+1)=n+1:=by grind[i64_in]
  have e2:aG (0- (n+1))=-(n+1):=by grind[i64_in]
  have e3:IntKind.u64.wrap (-(n+1))=(n.natAbs-1:Nat):=iH ω ω;have e4:IntKind.u64.wrap ((n.natAbs-1:Nat)+1)=(n.natAbs:Nat):=iH ω ω;simp only[Fa,go_sem,e0,e1,e2,e3,e4]
 ·have e1:=ff g;have e3:IntKind.u64.wrap n=(n.natAbs:Nat):=iH ω ω;simp only[Fa,go_sem,e1,e3]
theorem ah8{n d}:R 210 [.agg [I n,I d]] []=some (B (LO n d),[]):=by
 refine au ac3 rfl ?_;unfold LO;by_cases c1:1<=d
 ·by_cases c2:d<=1073741824
  ·by_cases c3:-1073741824<=n
   ·by_cases c4:n<=1073741824
    ·have h1:=alt (n:=n) ω ω;have h2:IntKind.u64.wrap d=(d.natAbs:Nat):=iH ω ω;have h3:=aos (a:=n.natAbs) (b:=d.natAbs);have e1:=tt c1;have e2:=tt c2;have e3:=tt c3;have e4:=tt c4;have e5:(((Nat.gcd n.natAbs d.natAbs):Int)=1)=(Nat.gcd n.natAbs d.natAbs=1):=propext ⟨fun h=>by omega,fun h=>by omega⟩;simp only[ru,go_sem,aEP,aEO,aEN,aX,h1,h2,h3,e1,e2,e3,e4,e5,aEW]
    ·have e1:=tt c1;have e2:=tt c2;have e3:=tt c3;have e4:=ff c4;simp only[ru,go_sem,aEP,aEO,aEN,aX,e1,e2,e3,e4,aEW,aE0]
   ·have e1:=tt c1;have e2:=tt c2;have e3:=ff c3;simp only[ru,go_sem,aEP,aEO,aEN,aX,e1,e2,e3,aEW,aE0]
  ·have e1:=tt c1;have e2:=ff c2;simp only[ru,go_sem,aEP,aEO,aEN,aX,e1,e2,aEW,aE0]
 ·have e1:=ff c1;simp only[ru,go_sem,aEP,aEO,aEN,aX,e1,aE0]
theorem ah9{n d}:R 211 [.agg [I n,I d]] []=some (B (decide (n=0)&&decide (d=0)),[]):=by
 refine au ac4 rfl ?_;by_cases c:n=0
 ·have e:=tt c;simp only[Dg,go_sem,aEP,aEO,aEN,aX,e,aEW]
 ·have e:=ff c;simp only[Dg,go_sem,aEP,aEO,aEN,aX,e,aE0]
theorem rg3(n a):((0<=a)=False/\((0:Int)<1)=True/\FR n a=false)\/((0<=a)=True/\(a<n)=True/\FR n a=true)\/((0<=a)=True/\(a<n)=False/\FR n a=false):=by
 by_cases h:0<=a
 ·by_cases g:a<n
  all_goals simp_all[tt,acj,ff,Jx]
 simp_all[ff,tt,Jx]
theorem zs3(a:Int):((0<=a)=False/\(a=0)=False)\/((0<=a)=True/\(a=0)=True)\/((0<=a)=True/\(a=0)=False):=by
 grind
theorem zs2(a:Int):(a=0)=False\/(a=0)=True:=by
 grind
theorem arL{n}{o}:R 148 [.agg (zO o),I n] []=some (B (Gx n o),[]):=by
 obtain⟨k,a,b,m,cn,cd⟩:=o;refine au amn rfl ?_;have q1:=ah8 (n:=cn) (d:=cd);have q2:=ah9 (n:=cn) (d:=cd);unfold Gx;simp only;by_cases c1:k=1
 ·subst c1;rw[ap rfl];rcases zs3 a with⟨a1,a2⟩| ⟨a1,a2⟩| ⟨a1,a2⟩<;>rcases zs3 b with⟨b1,b2⟩| ⟨b1,b2⟩| ⟨b1,b2⟩<;>rcases zs2 m with m1|m1<;>simp only[yX,zO,go_sem,aEP,aEO,aEN,aX,q1,a1,a2,b1,b2,m1,aEW,aE0]
 rw[av c1];by_cases c2:k=3\/k=4\/k=5\/k=6
 ·rw[ap c2];rcases rg3 n a with⟨a1,a2,ar⟩| ⟨a1,a2,ar⟩| ⟨a1,a2,ar⟩<;>rcases rg3 n b with⟨b1,b2,br⟩| ⟨b1,b2,br⟩| ⟨b1,b2,br⟩<;>rcases zs2 m with m1|m1<;>rcases c2 with rfl|rfl|rfl|rfl<;>simp only[yX,zO,go_sem,aEP,aEO,aEN,aX,q2,ar,br,a1,a2,b1,b2,m1,aEW,aE0]
 rw[av c2];by_cases c3:k=7\/k=9\/k=10\/k=11\/k=12\/k=13
 ·rw[ap c3];rcases rg3 n a with⟨a1,a2,ar⟩| ⟨a1,a2,ar⟩| ⟨a1,a2,ar⟩<;>rcases zs3 b with⟨b1,b2⟩| ⟨b1,b2⟩| ⟨b1,b2⟩<;>rcases zs2 m with m1|m1<;>rcases c3 with rfl|rfl|rfl|rfl|rfl|rfl<;>simp only[yX,zO,go_sem,aEP,aEO,aEN,aX,q2,ar,a1,a2,b1,b2,m1,aEW,aE0]
 rw[av c3];by_cases c4:k=8
 ·subst c4;rw[ap rfl];rcases rg3 17 m with⟨m1,m2,_⟩| ⟨m1,m2,_⟩| ⟨m1,m2,_⟩<;>rcases rg3 n a with⟨a1,a2,ar⟩| ⟨a1,a2,ar⟩| ⟨a1,a2,ar⟩<;>rcases zs3 b with⟨b1,b2⟩| ⟨b1,b2⟩| ⟨b1,b2⟩<;>simp only[yX,zO,go_sem,aEP,aEO,aEN,aX,q2,ar,a1,a2,b1,b2,m1,show(m<=16)=(m<17)from propext ω,m2,aEW,aE0]
 rw[av c4];have f1:=ff c1;have f8:=ff c4;rcases Ue k with rfl|rfl|rfl|rfl|rfl|rfl|rfl|rfl|rfl|rfl|rfl|rfl| ⟨_,h3,h4,h5,h6,h7,_,h9,h10,h11,h12,h13⟩
 case inr.inr.inr.inr.inr.inr.inr.inr.inr.inr.inr.inr=>
  rcases zs3 a with⟨a1,_⟩| ⟨a1,_⟩| ⟨a1,_⟩<;>rcases zs3 b with⟨b1,_⟩| ⟨b1,_⟩| ⟨b1,_⟩<;>simp only[yX,zO,go_sem,aEP,aEO,aEN,aX,a1,b1,f1,f8,ff h3,ff h4,ff h5,ff h6,ff h7,ff h9,ff h10,ff h11,ff h12,ff h13]
 all_goals omega
theorem aia{n}{O}{outs}(hn:n<=8)(hl:O.length<=200):∀ (k i:Nat),i+k=O.length->∀S h X,ao 0 [1] (aB (am R (aA false) uK) [1,3] [1] S h)=X->S 1=ac 1->S 3=I i->h 1=.bx (FQ n O outs)->
  (ue n i (O.drop i)=true->∃hh,X=some (.normal,⟨upd ce 1 (ac 1),hh⟩)/\hh 1=.bx (FQ n O outs))/\(ue n i (O.drop i)=false->∃ss hh,X=some (.ret,⟨ss,hh⟩)/\ss 2=B false):=by
 intro k;have lO:(D3 O).length=O.length:=aFh _;induction k with
 |zero=>
  intro i hi S h X hX k1 k3 h1;have:i=O.length:=ω
  subst this;subst hX;rw[ai,List.drop_length];refine⟨fun _=>?_,fun h=>by cases h⟩;simp only[uK,go_sem,k1,k3,h1,lO,aFC];exact⟨_,rfl,rfl⟩
 |succ k ih=>
  intro i hi S h X hX k1 k3 h1;have hlt:i<O.length:=ω
  have e1:(i< (O.length:Int))=True:=tt;have e2:=Pi (aE1 hlt);have e3:aG (i+1)=(i+1:Nat):=wi;have e4:aG (n+i)=(n+i:Nat):=wi;have hp:=arL (n:=(n+i:Nat)) (o:=O[i]);have ih':=ih (i+1) ω;rw[aFe hlt];rw[show ue n i (O[i]::O.drop (i+1))=(Gx (n+i:Nat) O[i]&&ue n (i+1) (O.drop (i+1)))from rfl];subst hX;rw[ai];generalize O[i]=o at e2 hp⊢;cases hb:Gx (n+i:Nat) o with
  |false=>
   rw[hb]at hp;refine⟨fun h=>by grind,fun _=>?_⟩;simp only[uK,go_sem,k1,k3,h1,lO,e1,e2,e3,e4,hp];exact⟨_,_,rfl,rfl⟩
  |true=>
   rw[hb]at hp;simp only[uK,go_sem,k1,k3,h1,lO,e1,e2,e3,e4,hp];apply ih'<;>rfl
theorem aib{n}{O}{outs}(hn:n<=8)(hl:O.length<=200)(ho:outs.length<=200):∀ (k i:Nat),i+k=outs.length->∀S h X,ao 2 [] (aB (am R (aA false) kP) [1,4] [1] S h)=X->S 1=ac 1->S 4=I i->h 1=.bx (FQ n O outs)->
  ((outs.drop i).any (Oa (n+O.length))=false->∃ss hh,X=some (.normal,⟨ss,hh⟩))/\((outs.drop i).any (Oa (n+O.length))=true->∃ss hh,X=some (.ret,⟨ss,hh⟩)/\ss 2=B false):=by
 intro k;have lO:(D3 O).length=O.length:=aFh _;have lo:(aY outs).length=outs.length:=qW _;induction k with
 |zero=>
  intro i hi S h X hX k1 k4 h1;have:i=outs.length:=ω
  subst this;subst hX;rw[ai,List.drop_length];simp only[kP,go_sem,k1,k4,h1,lo,aFC];grind
 |succ k ih=>
  intro i hi S h X hX k1 k4 h1;have hlt:i<outs.length:=ω
  have e1:(i< (outs.length:Int))=True:=tt;have e2:=vE rfl (aE1 hlt);have e3:aG (i+1)=(i+1:Nat):=wi;have e4:aG (n+O.length)=(n+O.length:Nat):=wi;have ih':=ih (i+1) ω;rw[aFe hlt,List.any_cons];subst hX;rw[ai];generalize outs[i]=o at e2⊢;unfold Oa;by_cases c1:o<0
  ·have f1:=tt c1;refine⟨fun h=>γ,fun _=>?_⟩;simp only[kP,go_sem,aEP,aEO,aEN,aX,k1,k4,h1,lo,lO,e1,e2,e3,e4,f1];exact⟨_,_,rfl,rfl⟩
  have f1:=ff c1;by_cases c2:(n+O.length:Nat)<=o
  ·have f2:=tt c2;refine⟨fun h=>γ,fun _=>?_⟩;simp only[kP,go_sem,aEP,aEO,aEN,aX,k1,k4,h1,lo,lO,e1,e2,e3,e4,f1,f2];exact⟨_,_,rfl,rfl⟩
  have f2:=ff c2;simp only[kP,go_sem,aEP,aEO,aEN,aX,k1,k4,h1,lo,lO,e1,e2,e3,e4,f1,f2];apply ih'<;>rfl
theorem aic{n}{O}{outs}(hl:O.length<=200)(ho:outs.length<=200):R 76 [Ug n O outs] []=some (B (Uf n O outs),[]):=by
 refine au aHk rfl ?_;have l2:(D3 O).length=O.length:=aFh _;have l3:(aY outs).length=outs.length:=qW _;unfold Uf;by_cases c1:n<0
 ·have f1:=tt c1;rw[decide_eq_false (p:=0<=n) ω,aE0];simp only[yQ,Bb,go_sem,aEP,aEO,aEN,aX,f1]
 have f1:=ff c1;rw[decide_eq_true (p:=0<=n) ω,aEW];by_cases c2:8<n
 ·have f2:=tt c2;rw[decide_eq_false (p:=n<=8) ω,aE0];simp only[yQ,Bb,go_sem,aEP,aEO,aEN,aX,f1,f2]
 have f2:=ff c2;rw[decide_eq_true (p:=n<=8) ω,aEW];obtain⟨N,rfl⟩:=aFy (show 0<=n by omega);rw[aEY];have e3:(200< (O.length:Int))=False:=ff;have e4:(200< (outs.length:Int))=False:=ff;have hL:=aia (n:=N) (outs:=outs) ω hl O.length 0 (aES _);have hM:=aib (n:=N) (O:=O) (outs:=outs) ω hl ho outs.length 0 (aES _);rw[aFX]at hL hM;generalize outs.any (Oa (N+O.length))=rb at*
 generalize hLM:aB (am R (aA false) kP)=M at hM;have hY:∀s h,am R (aA false) (.loop [1,4] [1] kP) s h=M [1,4] [1] s h:=fun s h=>by rw[←hLM];rfl
 cases hb:ue N 0 O with
 |false=>
  simp only[yQ,Bb,go_sem,f1,f2,e3,e4,l2,l3];generalize hX:ao 0 [1] _=X;obtain⟨ss,hh,rfl,q1⟩:=(hL _ _ _ hX rfl rfl rfl).2 hb;simp only[go_sem,q1,aE0]
 |true=>
  simp only[yQ,Bb,go_sem,f1,f2,e3,e4,l2,l3,hY];generalize hX:ao 0 [1] _=X;obtain⟨hh,rfl,q1⟩:=(hL _ _ _ hX rfl rfl rfl).1 hb;simp only[go_sem,q1,hY];generalize hZ:ao 2 [] _=Z;cases rb with
  |true=>
   obtain⟨ss,h2,rfl,q2⟩:=(hM _ _ _ hZ rfl rfl q1).2 rfl;simp only[go_sem,q2,aMD,aFT]
  |false=>
   obtain⟨ss,h2,rfl⟩:=(hM _ _ _ hZ rfl rfl q1).1 rfl;simp only[go_sem,aFY,aFE]
theorem aid{s}{n}{O}{outs}{xs}(os:OkS s)(hl:O.length<=200)(ho:outs.length<=200):R 19 [ej s,Ug n O outs,.sl 9 (gh xs)] []=some (B (Ip s n O outs xs),[]):=by
 refine au aG7 rfl ?_;have h1:=pB os.d os.n;have h2:=aic (n:=n) (O:=O) (outs:=outs) hl ho;have l2:(gh xs).length=xs.length:=aFh _;unfold Ip;cases hs:fg s with
 |false=>
  rw[hs]at h1;simp only[C6,go_sem,h1,aE0]
 |true=>
 rw[hs]at h1;cases hv:Uf n O outs with
 |false=>
  rw[hv]at h2;simp only[C6,go_sem,h1,h2,aE0,aEW]
 |true=>
  rw[hv]at h2;simp only[C6,go_sem,h1,h2,l2,aEW]
theorem aCQ{a}(h2:a.length<=100000):∀ (k i:Nat),i+k=a.length->∀z s h,s 0=.sl 1 (aY a)->s 3=I z->s 4=I i->
  ∃z',ao 0 [3] (aB (am R (aA false) ZV) [0,3,4] [] s h)=some (.normal,⟨upd ce 3 (I z'),fun _=>.dead⟩):=by
 intro k;induction k with
 |zero=>
  intro i hi z s h h0 h3 h4;have e1:((i:Int)<a.length)=False:=ff;rw[ai];refine⟨z,?_⟩;simp only[ZV,go_sem,h0,h3,h4,e1]
 |succ k ih=>
  intro i hi z s h h0 h3 h4;have hlt:i<a.length:=ω
  have e1:((i:Int)<a.length)=True:=tt;have e2:=vE rfl (aE1 hlt);have e5:aG (i+1)=(i+1:Nat):=wi;have ih':=ih (i+1) ω (IntKind.i64.wrap (z+a[i]));rw[ai];simp only[ZV,go_sem,h0,h3,h4,e1,e2,e5];apply ih'<;>rfl
theorem aCR{a}(h2:a.length<=100000):∃z,R 203 [.sl 1 (aY a)] []=some (I z,[]):=by
 obtain⟨z,hz⟩:=aCQ h2 a.length 0 (aES _) 0 (upd (upd (upd ce 4 (I 0)) 3 (I 0)) 0 (.sl 1 (aY a))) (fun _=>.dead) Z Z Z;refine⟨z,au aJt rfl ?_⟩;simp only[agS,ai3,go_sem];rw[hz];simp only[go_sem]
theorem aCS{a}(hl:a.length<=100000):R 140 [.sl 1 (aY a),.sl 1 (aY a)] []=some (I 0,[]):=by
 refine au aGH rfl ?_;obtain⟨z,hz⟩:=aCR hl;have hL:=ar5 (a:=a) (b:=a) rfl hl a.length 0 (aES _);simp only[aFX,WN,if_true]at hL;simp only[Uw,XD,go_sem,hz,aFC];obtain⟨_,e⟩:=hL (upd (upd (upd ce 7 (I 0)) 1 (.sl 1 (aY a))) 0 (.sl 1 (aY a))) (fun _=>.dead) Z Z Z;rw[e];simp only[go_sem]
theorem aug{a:Rp}(h2:a.terms.length<=100000)(ht:∀t∈a.terms,t.exps.length<=100000/\t.c.m.length<=100000):∀k i,i+k=a.terms.length->∀s h X,ao 0 [] (aB (am R (aA false) XB) [2,3,5] [2,3] s h)=X->s 2=ac 2->s 3=ac 3->s 5=I i->h 2=.bx [I a.vars,.sl 4 (aU a.terms)]->h 3=.bx [I a.vars,.sl 4 (aU a.terms)]->
  ∃hh,X=some (.normal,⟨fun _=>.any,hh⟩):=by
 intro k;induction k with
 |zero=>
  intro i hi s h X hX g2 g3 g5 k2 k3;have e1:((i:Int)<a.terms.length)=False:=ff;subst hX;rw[ai];simp only[XB,go_sem,g2,g3,g5,k2,k3,e1];grind
 |succ k ih=>
  intro i hi s h X hX g2 g3 g5 k2 k3;have hlt:i<a.terms.length:=ω
  have e1:((i:Int)<a.terms.length)=True:=tt;have e2:=kV rfl (aE1 hlt);have e5:aG (i+1)=(i+1:Nat):=wi;have ih':=ih (i+1) ω;obtain⟨v1,v2⟩:=ht _ (aFg hlt);subst hX;rw[ai];generalize a.terms[i]=x at e2 v1 v2;have hc:=aCS v1;have hnum:=ayn (x:=x.c) (y:=x.c) v2;rw[aF7.2 rfl]at hnum;simp only[dE]at e2;simp only[af,ak]at hnum;simp only[XB,go_sem,aEP,aEO,aEN,aX,g2,g3,g5,k2,k3,e1,e2,e5,hc,hnum];apply ih'<;>rfl
theorem awz{a}(h2:a.terms.length<=100000)(ht:∀t∈a.terms,t.exps.length<=100000/\t.c.m.length<=100000):R 68 [bj a,bj a] []=some (B true,[]):=by
 refine au aIU rfl ?_;have hL:=aug h2 ht a.terms.length 0 (aES _);simp only[acO,agQ,bj,go_sem];generalize hX:ao 0 [] _=X;obtain⟨hh,rfl⟩:=hL _ _ _ hX Z Z Z Z Z;simp only[go_sem]
theorem awA{m}(hm:MM m):R 21 [bB m,bB m] []=some (B true,[]):=by
 refine au aIT rfl ?_;have h1:=aD7 hm.ok.r;have h2:=awz hm.l hm.t;simp only[bj,ae,ah]at h1 h2;simp only[aea,go_sem,ge,h1,h2]
theorem adl{s}{n}{O}{outs}{l}(os:OkS s)(om:∀m∈l,OkM m)(hl:l.length<4611686018427387904):∃b,R 17 [ej s,Ug n O outs,.sl 9 (gh l)] []=some (B b,[])/\(b=false->O.length<=12/\outs.length<=12/\l.length<=8/\∀m∈l,MM m):=by
 have h1:=ahL os.n;have h2:R 38 [.sl 9 (gh l),.fn 71 [] []] []=some (B (l.any tx),[]):=Vz atF (Frow:=fun m=>uj m) (f:=71) (q:=tx) (Gc.1.2.1 false) hl (nI _) fun m hm=>⟨bB m,rfl,rfl,by rw[Gc.1.1];simp only[go_sem,ge];exact arj (om m hm).n⟩;have l2:(gh l).length=l.length:=γ
 have l3:(cT s.dom).length=s.dom.length:=Vl _;have l4:(D3 O).length=O.length:=aFh _;have l5:(aY outs).length=outs.length:=qW _;have hf:l.any tx=false->∀m∈l,MM m:=fun h m hm=>by
  have h:=List.any_eq_false.1 h m hm;unfold tx ab1 at h;simp only[aF0,not_or,decide_eq_true_eq,List.any_eq_true,not_exists,not_and]at h;exact⟨om m hm,by omega,fun t ht=>by
   grind,by
   have g:=h.1;unfold Pc at g;simp only[aF0,not_or,decide_eq_true_eq]at g;omega⟩
 generalize s.dom.any Pc=b1 at h1;generalize d1:decide (3< (s.dom.length:Int))=x1;generalize d3:decide (4<s.ord)=x3;generalize d4:decide (s.ord<=16)=x4;generalize d5:decide (80<s.p)=x5;generalize d6:decide (s.p<=512)=x6;generalize d7:decide (8< (l.length:Int))=x7;generalize d8:decide (12< (O.length:Int))=x8;generalize d9:decide (12< (outs.length:Int))=x9;rcases x1 with _|_<;>rcases pr3 x3 x4 with rfl| ⟨rfl,rfl⟩| ⟨rfl,rfl⟩<;>rcases pr3 x5 x6 with rfl| ⟨rfl,rfl⟩| ⟨rfl,rfl⟩<;>rcases b1 with _|_<;>rcases x8 with _|_<;>rcases x9 with _|_<;>rcases x7 with _|_<;>first
  | (refine⟨true,au aGz rfl ?_,nofun⟩;simp only[Hp,go_sem,l2,l3,l4,l5,d1,d3,d4,d5,d6,d7,d8,d9,h1];done)
  | (refine⟨l.any tx,au aGz rfl ?_,fun h=>⟨by have:=of_decide_eq_false d8;omega,by have:=of_decide_eq_false d9;omega,by have:=of_decide_eq_false d7;omega,hf h⟩⟩;simp only[Hp,go_sem,l2,l3,l4,l5,d1,d3,d4,d5,d6,d7,d8,d9,h1,h2,nI])
theorem aDY{s}{n}{O}{V}{outs}(ho:∀k∈outs,0<=k/\k<V.length)(hV:∀m∈V,MM m)(hl:outs.length<=200):∀ (k i:Nat),i+k=outs.length->∀S h X,ao 0 [] (aB (am R (aA false) ab2) [7,8,40,41,42] [4] S h)=X->S 7=.sl 9 (gh (ug s V outs))->S 8=.sl 9 (gh V)->S 40=.sl 1 (aY outs)->S 41=I outs.length->S 42=I i->h 4=.bx (FQ n O outs)->∃ss hh,X=some (.normal,⟨ss,hh⟩):=by
 intro k;induction k with
 |zero=>
  intro i hi S h X hX k7 k8 k40 k41 k42 h4;have:i=outs.length:=ω
  subst this;subst hX;rw[ai];simp only[ab2,go_sem,k7,k8,k40,k41,k42,h4,aFC];grind
 |succ k ih=>
  intro i hi S h X hX k7 k8 k40 k41 k42 h4;have hlt:i<outs.length:=ω
  have e1:(i< (outs.length:Int))=True:=tt;have e2:=vE rfl (aE1 hlt);have e3:aG (i+1)=(i+1:Nat):=wi;obtain⟨g1,g2⟩:=ho _ (aFg hlt);have e4:dF (gh (ug s V outs)) i=some (.ipt (uj (V.getD outs[i].toNat (cu s)))):=anX (by grind[ug]);have ih':=ih (i+1) ω;generalize outs[i]=o at e2 g1 g2 e4;obtain⟨j,rfl⟩:=aFy g1;have lj:j<V.length:=ω
  rw[aEY,DL lj]at e4;have e5:=anX (aE1 lj);have hs:=awA (hV _ (aFg lj));subst hX;rw[ai];simp only[ab2,go_sem,k7,k8,k40,k41,k42,h4,e1,e2,e3,e4,e5,hs];apply ih'<;>rfl
theorem ax6{s}{n}{O}{outs}{xs}(haw:R 16 [] []=some (B true,[]))(os:OkS s)(om:∀m∈xs,OkM m)(lx:xs.length<4611686018427387904):R 4 [ej s,Ug n O outs,.sl 9 (gh xs)] []=some (B true,[]):=by
 refine au aGE rfl ?_;obtain⟨b,hg,hb⟩:=adl (n:=n) (O:=O) (outs:=outs) os om lx;cases b with
 |true=>simp only[ab6,acg,go_sem,haw,hg,nI]
 |false=>
 obtain⟨b1,b2,b3,b4⟩:=hb rfl;have hr:=arF (n:=n) (O:=O) (outs:=outs) os ω ω om;have hv:=aid (n:=n) (O:=O) (outs:=outs) (xs:=xs) os ω ω;unfold aoq at hr;cases g:Ip s n O outs xs with
 |false=>
  rw[g]at hr hv;simp only[ab6,acg,go_sem,aEP,aEO,aEN,aX,haw,hg,hr,hv,nI,aFB,aFs];rfl
 |true=>
 rw[g]at hr hv;unfold Ip Uf at g;simp only[aEV,decide_eq_true_eq,aFS]at g;obtain⟨_,⟨n0,n8,hO,hA⟩,hx⟩:=g;obtain⟨N,rfl⟩:=aFy n0;have hxl:xs.length=N:=ω
 have hlen:(B7 s xs O).length=N+O.length:=by grind[ack]
 have ho:∀k∈outs,0<=k/\k< (B7 s xs O).length:=fun k hk=>by
  simp_all[Oa,aF0,decide_eq_true_eq,not_or]
 have hst:=as9 (outs:=outs) os ω ω hxl om hO;have hL:=aDY (s:=s) (n:=N) (O:=O) ho (api os b4) ω outs.length 0 (aES _);have l1:(gh (ug s (B7 s xs O) outs)).length=outs.length:=by
  grind[ug,aFh]
 have n1:=nI (ug s (B7 s xs O) outs);have n2:=nI (B7 s xs O);have lo:(aY outs).length=outs.length:=qW _;simp only[ab6,acg,go_sem,aEP,aEO,aEN,aX,haw,hg,hr,hv,hst,nI,n1,n2,l1,lo];generalize hX:ao 0 [] _=X;obtain⟨ss,hh,rfl⟩:=hL _ _ _ hX Z Z Z Z Z Z;simp only[go_sem]
noncomputable def Jz:Env:=⟨fun f=>YA.lookup f,cB.C,cB.md⟩
noncomputable def R0:j8:=iL Jz
theorem ES{f:FuncId}{fd:FD}{hs:List Ob}{r:AV×List Ob}(hE:Jz.E f=none)(hC:Jz.C f=some fd)(hk:Jz.md.keep f=false)(h1:args.length=fd.np)(h2:hs.length<=1000)
  (hz:fk false fd.rs fd.res hs.length (am R0 (aA false) fd.body (iW args) (az hs))=some r):R0 f args hs=some r:=by
 refine M2 hE hC ?_;unfold ZF;rw[ap ⟨h1,h2⟩,hk];exact hz
theorem DM(o:Ob):az [o]=upd (fun _=>.dead) 1000 o:=by
 unfold az upd;grind
theorem aot{r:List AV}{rs:List (List AV)}(h:(rs.length+1)*8<=140737488355328):R0 134 [.sl 1 (r::rs)] []=some (.osl 1 (r::rs),[]):=by
 refine ES (fd:=rk) κ κ κ rfl δ ?_;have e1:((rs.length+1)*8<=140737488355328)=True:=eq_true h;have e2:Gy false (.sl 1 (r::rs))=some (B false):=rfl;simp only[rk,go_sem,e1,e2,aFk,aFs,aES,aE9,aET,true_and,true_or,aE5]
theorem aou:gA 4 .emp (some (I 0)) none none=some .emp:=rfl
theorem arP{r:List AV}:R0 182 [.emp,I 0,.sl 4 [r]] []=some (.osl 4 [r],[]):=by
 refine ES (fd:=bJ) κ κ κ rfl δ ?_;have e1:((1:Int)=0)=False:=δ
 simp only[bJ,go_sem,aou,aFk,aFs,Int.natCast_one,e1,aES]
theorem ET{n i:Nat}(h:i<=n):nc n (some (I i)) none none=some (i,n):=by
 simp_all[nc,mS,aEZ,ap]
theorem alz{id k l0 n i:Nat}(h:i<=n):gA k (.rsl id none k l0 n) (some (I i)) none none=some (.rsl id none k (l0+i) (n-i)):=by
 simp_all[gA,if_true,ET,aFK,Option.isNone_none]
theorem V7{k n:Nat}(hj:bu j=false)(hh:h j=.ar k rows)(hn:n=rows.length)(hc:aE [1000] (h 1000)=true):xT [[]] 1 h [.rsl j none k 0 n]=some (.osl k rows,[h 1000]):=by
 simp_all[dJ,xT,ap,yf,wj,qk,FU,zT,bC,nrmV,nrmL,mT,cF,ip]
theorem alA{r:List AV}{n:Nat}(hn:n=rows.length)(hb:(n+1)*64<=140737488355328):R0 182 [.rsl 1000 none 4 0 n,I n,.sl 4 [r]] [.ar 4 rows]=some (.osl 4 (rows++[r]),[.dead]):=by
 refine ES (fd:=bJ) κ κ κ rfl σ ?_;subst hn;rw[DM];have e1:((1:Int)=0)=False:=δ
 have e2:=alz (id:=1000) (k:=4) (l0:=0) (aET rows.length);have e3:((rows.length+1)*64<=140737488355328)=True:=eq_true hb;have e4:(rows.length+1<=rows.length)=False:=ff;have e5:∀h,Qg h 25 4 64 1000 4 0 rows.length [r] 4 rows=dH (upd h 1000 .dead) 25 4 (rows++[r]) (rows.length+1) [(1000,false)]:=fun h=>by
  simp_all[Qg,List.length_singleton,av,ap,trivial]
 simp only[bJ,go_sem,aFk,aFs,Int.natCast_one,e1,e2,e3,e4,e5,aES,aFA,Nat.sub_self,or_self,aET,List.length_append];exact V7 Z Z σ rfl
theorem auh{f:FuncId}{g:List AV->List Ob->Option (AV×List Ob)}{hs:List Ob}(hE:Jz.E f=some g):R0 f args hs=g args hs:=BC hE
theorem arQ{d:Nat}{r:List AV}{lo m:Nat}(hh:h 1000=.ar 4 rows)(hd:h (2000+8*d)=.dead):
  bF R0 (aA false) h d [.sl 4 [r],.rsl 1000 none 4 lo m] (.fn 240 [] [])=some (B false,upd h 1000 (.ar 4 rows),[(1000,true)]):=by
 have hm:(aA false).m 240=[0,1]:=by kernel_rfl
 have hs:(aA false).sh 240=[]:=by kernel_rfl
 have hk:(aA false).keep 240=false:=by kernel_rfl
 have hf:R0 240 [.sl 4 [r],.rsl 1000 none 4 lo m] [.ar 4 rows]=some (B false,[.ar 4 rows]):=by
  rw[auh (g:=ovF 4) κ];simp[ovF]
 have hb:lH (aA false) [.sl 4 [r],.rsl 1000 none 4 lo m] (.fn 240 [] [])=false:=by
  grind[lH]
 have hr:bO h 40 [1000] 0=[1000]:=by
  grind[bO,mP,bD]
 have hn:cV (B false)=1:=rfl;unfold bF;rw[av γ];have h1:cr h [0,1] [.sl 4 [r],.rsl 1000 none 4 lo m]=some ([.sl 4 [r],.rsl 1000 none 4 lo m],h,[]):=by
  simp[cr,eM,Av,iJ,aI]
 have h2:bD [] ([AV.sl 4 [r],.rsl 1000 none 4 lo m].flatMap cF)=[1000]:=by
  simp[cF,ip,bD]
 have h3:bh [1000] 1000=1000:=rfl;simp only[eU,hm,aE5,aE8,h1,aEZ,h2,hr,hs];simp[lg,bC,be,bA,hh,aE,bS,eG,lG,h3,eP,hf,fG,hn,bV,hd,dk,bf,nP,CP,vY,ip,kZ,gR,Iw,fw,mat,eS,ie,hk,Je,hm]
theorem Xu{id k l0 n i:Nat}:gA k (.rsl id none k l0 n) (some (I i)) none none=(nc n (some (I i)) none none).map fun p=>.rsl id none k (l0+p.1) (p.2-p.1):=by
 simp only[gA,if_true,Option.isNone_none]
theorem alB{n c i:Nat}(h:i<=c):mS n c (some (I i))=some i:=by
 simp_all[mS,ap]
theorem arR{r:List AV}{n i:Nat}(hn:n=rows.length)(hi:i<n)(hb:(n+1)*64<=140737488355328):
  R0 182 [.rsc 1000 4 0 n n,I i,.sl 4 [r]] [.ar 4 rows]=some (.osl 4 (rows.take i++r::rows.drop i),[.ar 4 rows]):=by
 refine ES (fd:=bJ) κ κ κ rfl σ ?_;rw[DM];have e1:((1:Int)=0)=False:=δ
 have e2:((i:Int)=(n:Int))=False:=ff;have e3:aG ((n:Int)+1)=((n+1:Nat):Int):=wi;have e4:((n:Int)< ((n+1:Nat):Int))=True:=tt;have e5:aG (((n+1:Nat):Int)- (i:Int))=((n+1-i:Nat):Int):=wi;have e6:aG ((i:Int)+1)=((i+1:Nat):Int):=wi;have b1:=ET (n:=n) (i:=i) ω;have b2:=alB (n:=n) (c:=n) (i:=i) ω;have b3:=ET (n:=n+1) (i:=i) ω;have b4:=ET (n:=n+1) (i:=i+1) ω;have f1:((0:Int)< ((n+1-i:Nat):Int))=True:=tt;have f2:(n<i+((n+1-i:Nat):Int).toNat)=True:=tt;have f3:i+((n+1-i:Nat):Int).toNat=n+1:=ω
 have f4:(i<=rows.length)=True:=tt;have f5:((n+1)*64<=140737488355328)=True:=eq_true hb;have f6:(n<n+1)=True:=tt;obtain⟨A,hA⟩:∃A,rows.take i++aER ((n+1-i:Nat):Int).toNat [AV.emp,B false,AV.emp,I 0]=A:=⟨_,rfl⟩;have a1:A.length=n+1:=γ
 have a3:(i<=A.length)=True:=tt;obtain⟨D,hD⟩:∃D,A.take i++[r]++A.drop (i+1)=D:=⟨_,rfl⟩;have d1:D.length=n+1:=by
  grind
 have d2:D.take (i+1)=rows.take i++[r]:=by
  grind
 have d3:(i+1<=D.length)=True:=tt;have t1:List.take (n+1-i) [r]=[r]:=aFi γ;have t2:(rows.drop i).take (n-i)=rows.drop i:=aFi γ;have t3:(1=min 1 (n+1-i))=True:=tt;have t4:n+1- (i+1)=n-i:=ω
 have t5:(i+(n-i)<=rows.length)=True:=tt;have t6:(rows.drop i).length=n-i:=γ
 have t7:D.drop (i+1+(n-i))=[]:=aFq ω;simp only[bJ,go_sem,aFk,aFs,Int.natCast_one,e1,e2,e3,e4,e5,e6,b1,b2,b3,b4,f1,f2,f3,f4,f5,f6,hA,hD,a3,d3,t1,t2,t3,t4,t5,t6,t7,Nat.min_self,aES,aFA,Nat.sub_self,or_self,aET,Xu,and_self];rw[d2];have hfin:rows.take i++[r]++rows.drop i=rows.take i++r::rows.drop i:=γ
 rw[hfin];exact V7 Z Z γ rfl
theorem arS{r:List AV}{n i c:Nat}(hn:n=rows.length)(hi:i<n)(hc:n+1<=c)(hb:(n+1)*64<=140737488355328):
  R0 182 [.rsc 1000 4 0 n c,I i,.sl 4 [r]] [.ar 4 rows]=some (.osl 4 (rows.take i++r::rows.drop i),[.dead]):=by
 refine ES (fd:=bJ) κ κ κ rfl σ ?_;rw[DM];have e1:((1:Int)=0)=False:=δ
 have e2:((i:Int)=(n:Int))=False:=ff;have e3:aG ((n:Int)+1)=((n+1:Nat):Int):=wi;have e4:((c:Int)< ((n+1:Nat):Int))=False:=ff;have e6:aG ((i:Int)+1)=((i+1:Nat):Int):=wi;have b1:=ET (n:=n) (i:=i) ω;have b2:=alB (n:=n) (c:=c) (i:=n+1) hc;have b3:=ET (n:=n+1) (i:=i) ω;have b4:=ET (n:=n+1) (i:=i+1) ω;have o1:=fun(h:aj) (h0:h 1000=.ar 4 rows) (h1:h (2000+8*67)=.dead)=>arQ (r:=r) (lo:=i+1) (m:=n-i) h0 h1;have t1:List.take (n+1-i) [r]=[r]:=aFi γ;have t2:(rows.drop i).take (n-i)=rows.drop i:=aFi γ;have t3:(1=min 1 (n+1-i))=True:=tt;have t4:n+1- (i+1)=n-i:=ω
 have t5:(i+(n-i)<=rows.length)=True:=tt;have t6:(rows.drop i).length=n-i:=γ
 have t8:min (n-i) (n+1-i)=n-i:=ω
 have t9:(n-i=min (n+1-i) (n-i))=True:=tt;have f4:(i+1<=rows.length)=True:=tt;have t7:rows.drop (i+1+(n-i))=[]:=aFq ω;obtain⟨A,hA⟩:∃A,rows.take (i+1)++rows.drop i=A:=⟨_,rfl⟩;have a1:A.length=n+1:=by
  grind
 have a2:A.take i=rows.take i:=by
  grind
 have a4:A.drop (i+1)=rows.drop i:=by
  grind
 have a3:(i<=A.length)=True:=tt;simp only[bJ,go_sem,aFk,aFs,Int.natCast_one,e1,e2,e3,e4,e6,b1,b2,b3,b4,t4,aES];rw[o1 _ Z Z];simp only[go_sem,aFk,aFs,Int.natCast_one,e1,e2,e3,e4,e6,b1,b2,b3,b4,t1,t2,t3,t4,t5,t6,t7,t8,t9,f4,a3,hA,aES,aFA,Nat.sub_self,or_self,aET,Xu,and_self];rw[a2,a4,show rows.take i++[r]++rows.drop i=rows.take i++r::rows.drop i by grind];exact V7 Z Z γ rfl
theorem Ir(h:vals.size=args.length){i:Nat}{c:AV}(hc:args[i]?=some c):∃u,vals[i]?=some u:=by
 have:i<args.length:=(List.getElem?_eq_some_iff.1 hc).1
 simp_all
theorem aui{a:Value}(h:vals.size=1)(h0:vals[0]?=some a):vals=#[a]:=by
 grind
theorem aAx{a b:Value}(h:vals.size=2)(h0:vals[0]?=some a)(h1:vals[1]?=some b):vals=#[a,b]:=by
 grind
theorem Xv{w:World}{a}{us}{e}(h:w.heap[a.block]?=some (.cells us e (0,0))):w.frozen? a=false:=by
 simp[World.frozen?,h]
theorem arT{P}(w)(tS tR e)(ht:P.underlying tS=some (.slice e))(size)(hz:∀w,(Go.sizeOf e).run P w=.ok size w)(a)(b)(la ca cb):
  (Extern.SlicesOverlaps.overlaps #[tS,tS] #[tR] #[.slice (some a) la ca,.slice b 0 cb]).run P w=.ok (.bool false) w:=by
 change Sem.run P (α:=Value) (do
  let some t:= (#[tS,tS])[0]?|stuck "slices.overlaps: no parameter types"
  let .slice elem←underlying t|stuck "slices.overlaps: slice type expected"
  let size←sizeOf elem
  match (some a),b with
  |some a,some b=>
   if la=0\/0=0\/size=0 then pure (Value.bool false)
   else if a.block !=b.block&& (←frozen a)&& (←frozen b)then unsupported .addressObserved
   else do
    if a.block !=b.block then do
     noView a;noView b
     if←mayBeOne a b then return Value.bool ((←choose (.extern "sameAddr.stringBytes" 2))==1)
    pure (Value.bool (a.block==b.block&&a.off<b.off+0*size&&b.off<a.off+la*size))
  |_,_=>pure (Value.bool false)) w=_
 cases b<;>simp[run_underlying ht,hz]
theorem auj{P:Program}(w:World)(tS tR e:TypeId)(ht:P.underlying tS=some (.slice e))(size:Nat)(hz:∀w,(Go.sizeOf e).run P w=.ok size w)
  (a b:Addr) (la ca lb cb:Nat) (hne:a.block≠b.block) (tA:TypeId) (kA:Nat) {us:Array Value} {tB:TypeId}
  (hkA:kA≠0) (hsa:w.shape? a.block=some (tA,kA)) (hb:w.heap[b.block]?=some (.cells us tB (0,0))) (hu:us.size≠0):
  (Extern.SlicesOverlaps.overlaps #[tS,tS] #[tR] #[.slice (some a) la ca,.slice (some b) lb cb]).run P w=.ok (.bool false) w:=by
 have hnb:(a.block !=b.block)=true:=γ
 have hnb':(a.block==b.block)=false:=γ
 have hsb:w.shape? b.block=some (tB,us.size):=by simp[World.shape?,hb]
 have hfb:w.frozen? b=false:=Xv hb;have hfe:w.frozen? {block:=b.block,off:=us.size}=false:=Xv (a:=⟨b.block,us.size,none⟩) hb;change Sem.run P (α:=Value) (do
  let some t:= (#[tS,tS]:Array TypeId)[0]?|stuck "slices.overlaps: no parameter types"
  let .slice elem←underlying t|stuck "slices.overlaps: slice type expected"
  let size←sizeOf elem
  match (some a:Option Addr),(some b:Option Addr)with
  |some a,some b=>
   if la=0\/lb=0\/size=0 then pure (Value.bool false)
   else if a.block !=b.block&& (←frozen a)&& (←frozen b)then unsupported .addressObserved
   else do
    if a.block !=b.block then do
     noView a;noView b
     if←mayBeOne a b then return Value.bool ((←choose (.extern "sameAddr.stringBytes" 2))==1)
    pure (Value.bool (a.block==b.block&&a.off<b.off+lb*size&&b.off<a.off+la*size))
  |_,_=>pure (Value.bool false)) w=_
 by_cases h0:la=0\/lb=0\/size=0
 ·simp_all[run_underlying]
 ·obtain⟨kA,rfl⟩:∃k,kA=k+1:=⟨kA-1,by omega⟩;cases hfa:w.frozen? a<;>cases hfa2:w.frozen? {block:=a.block,off:=kA+1}<;>
   simp[run_underlying ht,hz,h0,hnb,hnb',frozen,noView,viewAt,mayBeOne,stringish,shape,Sem.run,hsa,hsb,hfa,hfa2,hfb,hfe]
theorem aie{w:World}{a:Addr}{v:Value}(h:w.cell? a=some v):∃t k,k≠0/\w.shape? a.block=some (t,k):=by
 unfold World.cell? at h;split at h
 ·rename_i cs t fr hb;refine⟨t,cs.size,fun h0=>?_,by unfold World.shape?;grind⟩;grind
 grind
theorem auk{P:Program}{I:Inv}{f:FuncId}{fn:Func}{tS tR e:TypeId}{size:Nat}(hf:P.funcs[f]?=some fn)(hname: (fn.name== "runtime.NumGoroutine")=false)(hb:fn.body.isNone=true)(hn:Extern.findNext fn=none)
  (he:Extern.find fn=some (Extern.SlicesOverlaps.overlaps #[tS,tS] #[tR])) (ht:P.underlying tS=some (.slice e)) (hz:∀w,(Go.sizeOf e).run P w=.ok size w):rK P I false f (ovF 4):=by
 intro args obs obs' res w X ρ vals n hz' hn' hi hr hs hv;unfold ovF at hz';split at hz'
 ·rename_i k0 row rows k1 lo m k2 rows2;split at hz'
  ·rename_i hk;obtain⟨rfl,rfl,rfl⟩:=hk;cases hz';obtain⟨u0,h0⟩:=Ir hs (i:=0) rfl;obtain⟨u1,h1⟩:=Ir hs (i:=1) rfl;have e0:=hv 0 _ _ rfl h0;have e1:=hv 1 _ _ rfl h1;obtain rfl:=aAx hs h0 h1;have d0:=e0.sl_inv;obtain⟨a1,cap1,rfl,hp,hn1,hb1,ha1⟩:=e1.rsl_inv;have ho:RO w (aN w X (az [.ar 4 rows2]) ρ) ρ (az [.ar 4 rows2]) 1000 (.ar 4 rows2):=hr.ob 1000;obtain⟨us,tB,g1,g2,g3,g4⟩:=ho;have hlive:live (az [.ar 4 rows2]) 1000 none:=trivial;cases d0 with
   |sl _ _ a cap ad vs hc ha hk hv2 hl hr2=>
    obtain⟨rfl,hA,hsp⟩:=ha σ;have hlen:=hk row σ;obtain⟨c,hrow⟩:∃c,row[0]?=some c:=⟨row[0]'(by omega),by simp⟩;have hcell:=hv2 0 row 0 c rfl hrow;obtain⟨tA,kA,hkA,hsh⟩:=aie hcell;have run:(callFunc f #[.slice (some ad) (row::rows).length cap,.slice a1 m cap1]).run P w=.ok (.value (.bool false)) w:=by
     rw[run_callFunc_extern hf hname hb hn he];by_cases hm:m=0
     ·simp_all[arT]
     ·rcases ha1 with h|rfl
      ·omega
      ·rw[auj w tS tR e ht size hz ad ⟨(ρ 1000 none).1,lo*4,none⟩ _ cap m cap1 (fun hh=>hA.2.2 ⟨1000,none,hlive,hh.symm⟩) tA kA hkA hsh g1 ω];rfl
    unfold Enters;rw[run];exact⟨ρ,hr,.refl _ _ _ _,.dat (.v _ rfl)⟩
  grind
 grind
theorem arU{P:Program}{I:Inv}(hR:rK P I false 182 (R0 182)):rK P I false 182 (Z0 4 64):=by
 intro args obs obs' res w X ρ vals n hz hn hi hr hs hv;unfold Z0 at hz;split at hz
 ·rename_i k0 r;split at hz
  ·rename_i hk;subst hk;cases hz;exact hR arP hn hi hr hs hv
  grind
 ·rename_i k1 m i k0 r k2 rows;split at hz
  ·rename_i hk;obtain⟨rfl,rfl,rfl,rfl,hi0,hi1,hb⟩:=hk;cases hz;obtain⟨i,rfl⟩:=aFy hi0;rw[aEY];by_cases hend:i=rows.length
   ·subst hend;have:=hR (alA (r:=r) rfl hb) hn hi hr hs hv;grind
   ·have hlt:i<rows.length:=ω
    obtain⟨u0,h0⟩:=Ir hs (i:=0) rfl;obtain⟨a,cap,rfl,hp,hn1,hb1,ha⟩:=(hv 0 _ _ rfl h0).rsl_inv;have hv':∀ (j:Nat) (c:AV) (u:Value),[AV.rsc 1000 4 0 rows.length cap,.v (.int .i64 i),.sl 4 [r]][j]?=some c->vals[j]?=some u->RV w (aN w X (az [.ar 4 rows]) ρ) ρ (az [.ar 4 rows]) c u:=by
     intro j c u hc hu
     match j,hc with
     |0,hc=>
      cases hc;rw[h0]at hu;cases hu;exact .rsc 1000 4 0 _ cap a hp hn1 hb1 ha
     |j+1,hc=>grind
    rcases Nat.lt_or_ge rows.length cap with hc|hc
    ·exact hR (arS rfl hlt hc hb) hn hi hr hs hv'
    ·obtain rfl:cap=rows.length:=ω
     refine(hR (arR rfl hlt hb) hn hi hr hs hv').mono fun v w' ⟨ρ',q1,q2,q3⟩=>?_;generalize rows.take i++r::rows.drop i=L at q1 q2 q3⊢;have hd:=Sk q1 (id:=1000) (k:=4) (rows:=rows) (by
      show(if 1000=n then _ else _)=_;rw[av ω];rfl)
     have eq:upd (mat n (az [.ar 4 rows]) (.osl 4 L)).2 1000 .dead=(mat n (az [.dead]) (.osl 4 L)).2:=by
      show upd (upd (az [.ar 4 rows]) n (.ar 4 L)) 1000 .dead=upd (az [.dead]) n (.ar 4 L);rw[DM,DM];unfold upd;grind
     rw[eq]at hd;refine⟨ρ',hd.1,q2.trans (hd.2.far rfl),hd.2.rvk q3 (.inr ?_)⟩;show lF [(1000,false)] n none=false;grind[lF]
  grind
 grind
theorem CM{w w':World}{X:Nat->Prop}{ρ:fL}(hr:Rel w X ρ (az []))(hb:Below w.heap.size w w'):Rel w' X ρ (az [])/\Far false w ρ (az []) w' ρ (az []):=by
 have hl:∀id sub,¬live (az []) id sub:=fun id sub=>by
  have hd:az [] id=.dead:=by
   grind[az]
  cases sub with
  |none=>grind[live]
  |some p=>grind[live]
 refine⟨⟨fun id sub _ _ h=>(hl id sub h).elim,fun id sub h=>(hl id sub h).elim,fun id=>?_,fun b hb'=>aFQ (hr.xl b hb') hb.size⟩,hb.os,hb.tape,hb.output,hb.size,fun b h1 _=>hb.block b h1,fun b ⟨id,sub,h,_⟩=>(hl id sub h).elim,fun id _ h=>?_,fun h=>by grind⟩
 ·have hd:az [] id=.dead:=by
   grind[az]
  rw[hd];trivial
 grind
theorem aul{P:Program}{I:Inv}{ρ0:Ren}(L:Lays2.n15 P ρ0)(hf:ρ0.f 15=134)(he:∀a w,(callFunc 134 a).run P w=.ok (.enter 134 a) w)
  (hR:rK P I false 134 (R0 134)):rK P I false 134 clF:=by
 intro args obs obs' res w X ρ vals n hz hn hi hr hs hv;unfold clF at hz;split at hz
 ·obtain⟨u0,h0⟩:=Ir hs (i:=0) rfl;have d0:=(hv 0 _ _ rfl h0).sl_inv;obtain rfl:=aui hs h0;cases d0 with
  |sl _ _ a cap ad vs hc ha hk hv2 hl hr2=>
   unfold Enters;rw[he];have fin:∀ (w':World) (b:Option Addr) (c:Nat),Below w.heap.size w w'->∃ρ',Rel w' X ρ' (mat n (az []) (.sl 1 [])).2/\Far false w ρ (az []) w' ρ' (mat n (az []) (.sl 1 [])).2/\
     RV w' (aN w' X (mat n (az []) (.sl 1 [])).2 ρ') ρ' (mat n (az []) (.sl 1 [])).2 (mat n (az []) (.sl 1 [])).1 (.slice b 0 c):=fun w' b c hb=>
    ⟨ρ,(CM hr hb).1,(CM hr hb).2,.dat (.sl 1 [] b c ad vs (aE9 _) (fun h=>absurd rfl h) (fun _ h=>by grind) (fun i row j c h=>by grind) (fun _ h=>by grind) (fun i row j c h=>by grind))⟩
   cases a with
   |none=>
    have key:=Any.slices_Clone_int_nil L 0 cap w;rw[hf]at key;refine Calls.mono key fun e w' hw=>?_
    simp_all[Below.refl]
   |some a0=>
    have key:=Any.slices_Clone_int_zero L a0 cap w;rw[hf]at key;refine Calls.mono key fun e w' hw=>?_;obtain⟨v',rfl,⟨_,hown⟩,_,hb⟩:=hw;rcases hown with⟨rfl,_⟩| ⟨g,c2,Mh,rfl,_⟩
    all_goals simp_all
 ·split at hz
  ·rename_i hb;cases hz;exact hR (aot hb) hn hi hr hs hv
  grind
 grind
end Go.Ab
