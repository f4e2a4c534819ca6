/-
  A law of tapes on models holds at every input that the statement speaks of, under the conditions that its card names. Part F1.
-/
import Derived.Test.YtighajjmobfadaaGreatDoorE1
open Nat renaming add_assoc → az0, add_mul → azn, add_zero → azA, div_add_mod → azV, le_of_ble_eq_true → azJ, le_refl → ayZ, le_trans → ay3, lt_of_le_of_lt → azt, lt_of_lt_of_le → azY, min_eq_left → azS, mod_eq_of_lt → azL, mod_lt → azw, mul_assoc → azq, mul_comm → azl, mul_le_mul_left → azR, mul_le_mul_right → ay7, pow_add → azc, pow_le_pow_right → azD, pow_succ → azO, reduceMod → azG, reduceSub → azz, sub_self → az2, two_pow_pos → aze, zero_add → ayX, zero_le → azH
open Int renaming eq_ofNat_of_zero_le → az4, reduceEq → azf, toNat_natCast → ay4
open Bool renaming and_eq_true → ay1, and_false → az3, and_self → azs, and_true → az1, false_and → ay6, false_eq_true → azK, false_ne_true → ay9, true_and → ay5
open List renaming all_cons → azm, all_nil → azX, append_assoc → azB, append_nil → azb, cons_append → azM, drop_eq_getElem_cons → azj, drop_eq_nil_of_le → azi, getElem_mem → azo, length_cons → azp, length_drop → azQ, length_map → azW, length_nil → azx, length_replicate → azU, length_take → azd, map_congr_left → azy, map_cons → azv, map_id' → azN, map_nil → azF, mem_map → azP, nil_append → ay8, replicate → ayW, take_of_length_le → azg
open Option renaming bind_eq_some_iff → ayY, bind_some → ay2, map_some → azE
open Rat renaming mul_le_mul_of_nonneg_right → azT
set_option linter.all false
namespace Go.Ab
open Go Go.IntWalk
set_option maxRecDepth 4000
set_option maxHeartbeats 8000000
theorem anE{U V:List Nat}{j k:Nat}(hU:Lb U)(hV:Lb V)(hvl:V.length=k+2)(h:ab (U.drop (j+1))<ab V):U.getD (j+(k+2)) 0<=V.getD (k+1) 0:=by
 have h1:ab V=ab (V.take (k+1))+4294967296^ (k+1)*V.getD (k+1) 0:=by
  rw[←fm,azg ω]
 have h2:=cW (fK hV (k+1));rw[azd,azS ω]at h2;have h3:4294967296^ (k+1)*U.getD (j+(k+2)) 0<=ab (U.drop (j+1)):=by
  by_cases hl:j+1+(k+1)<=U.length
  ·have h4:=GI (U.drop (j+1)) (k+1) (by rw[azQ];omega);rw[List.drop_drop]at h4;have h5:=fF U (j+1+(k+1));rw[show j+1+(k+1)=j+(k+2)by omega]at h4 h5;rw[h4,h5,Nat.mul_add];omega
  grind
 refine Nat.le_of_not_lt fun hc=>?_;have h6:4294967296^ (k+1)*(V.getD (k+1) 0+1)<=4294967296^ (k+1)*U.getD (j+(k+2)) 0:=azR _ hc;rw[Nat.mul_add,Nat.mul_one]at h6;omega
theorem afw{U:List Nat}{j n:Nat}(h:j+n<U.length):U=U.take j++((U.drop j).take n++U.getD (j+n) 0::U.drop (j+n+1)):=by
 grind[azj,List.drop_drop,List.take_append_drop]
theorem aaH{U:List Nat}{j n i:Nat}(hi:i<n):((U.drop j).take n).getD i 0=U.getD (j+i) 0:=by
 rw[List.getD_eq_getElem?_getD,List.getD_eq_getElem?_getD,List.getElem?_take,if_pos hi,List.getElem?_drop]
theorem aqn{V us P Z Qr:List Nat}{sh n j g:Int}{UL QL J:Nat}(hV:Lb V)(hu:Lb us)(hl:us.length=V.length)(hn:V.length<=100000)(hP:P.length=J)(hj:j=J)(hJ:J<=100000)(hUL:J+V.length<=UL)(s:ai)(h:ac)(X:Option (Ex×St))(hX:ah 4 [8,9,10,11,12,13,14,15] (aq (aj R (az false) iO) [8,9,10,11,12,13,14,15,123,124,125] [63,70,2408] s h)=X)
  (g8:s 8=I sh) (g9:s 9=.rsl 2408 none 1 0 UL) (g10:s 10=lm V) (g11:s 11=I n) (g12:s 12=.rsl 70 none 1 0 QL) (g13:s 13=I j) (g14:s 14=W g) (g15:s 15=U 0) (g123:s 123=lm V) (g124:s 124=I V.length) (g125:s 125=I 0) (k63:h 63=.dead) (k70:h 70=.ar 1 (aC Qr)) (k2408:h 2408=.ar 1 (aC (P++(us++Z)))):
  ∃hh,X=some (.normal,⟨upd (upd (upd (upd (upd (upd (upd (upd (fun _=>.any) 15 (U (eC us V V.length:Nat))) 14 (W g)) 13 (I j)) 12 (.rsl 70 none 1 0 QL)) 11 (I n)) 10 (lm V)) 9 (.rsl 2408 none 1 0 UL)) 8 (I sh),hh⟩)/\hh 70=.ar 1 (aC Qr)/\hh 2408=.ar 1 (aC (P++(dk us V V.length++Z)))/\(∀a,a≠70->a≠2408->hh a=.dead):=by
 subst hX;exact aip hV hu hl hn hP hj hJ hUL V.length 0 (ayX _) s h g8 g9 g10 g11 g12 g13 g14 g15 g123 g124 g125 k63 k70 k2408
theorem anF{q top:Nat}{us vs:List Nat}(hq:q<4294967296)(ht:top<4294967296)(hu:Lb us)(hv:Lb vs)(hl:us.length=vs.length)(hf:(oH q top us vs).2.2=true):1<=q:=by
 obtain⟨t1,t2,t3,t4⟩:=Si hq ht hu hv hl;rw[if_pos hf]at t1;refine Nat.pos_of_ne_zero fun h0=>?_;rw[h0,Nat.zero_mul,azA]at t1;have h1:=cW t3;rw[h0]at t2 h1 t4;rw[t4]at h1;have h2:4294967296^vs.length*((oH 0 top us vs).2.1+1)<=4294967296^vs.length*4294967296:=azR _ ω;rw[Nat.mul_add,Nat.mul_one]at h2;omega
theorem afx{A r:List Nat}{j k t:Nat}(h:r.length=k+2):A.take j++(r++t::A.drop (j+(k+2)+1))=pk A j r t:=by
 grind[pk]
theorem aiq{V:List Nat}{k:Nat}{sh:Int}{UL QL:Nat}(hV:Lb V)(hvl:V.length=k+2)(hn2:2147483648<=V.getD (k+1) 0)(hn:V.length<=100000)(hUL:UL<=100000):
  ∀ (m:Nat) (A Dn:List Nat),Lb A->A.length=UL->m+(k+2)<=UL->m+Dn.length=QL->ab (A.drop m)<ab V->∀ (s:ai) (h:ac),s 8=I sh->s 9=.rsl 2408 none 1 0 UL->s 10=lm V->s 11=I (k+2:Nat)->s 12=.rsl 70 none 1 0 QL->s 13=I ((m:Int)-1)->h 63=.dead->h 70=.ar 1 (aC (ayW m 0++Dn))->h 2408=.ar 1 (aC A)->
  ∃hh,ah 2 [8,9,11,12] (aq (aj R (az false) kO) [8,9,10,11,12,13] [63,70,2408] s h)=some (.normal,⟨upd (upd (upd (upd (fun _=>.any) 12 (.rsl 70 none 1 0 QL)) 11 (I (k+2:Nat))) 9 (.rsl 2408 none 1 0 UL)) 8 (I sh),hh⟩)/\hh 70=.ar 1 (aC ((zJ V m A).2++Dn))/\hh 2408=.ar 1 (aC (zJ V m A).1)/\(∀a,a≠70->a≠2408->hh a=.dead):=by
 intro m;induction m with
 |zero=>
  intro A Dn hA hl hm hq hlt s h g8 g9 g10 g11 g12 g13 k63 k70 k2408;have e1:(0<=(((0:Nat):Int)-1))=False:=ff;rw[ag];refine⟨?hh0,?_,?_,?_,?_⟩;rotate_left
  ·simp only[kO,go_sem,g8,g9,g10,g11,g12,g13,k63,k70,k2408,e1];rfl
  ·rfl
  ·rfl
  simp_all[cj,if_false,ite_self]
 |succ j ih=>
  intro A Dn hA hl hm hq hlt s h g8 g9 g10 g11 g12 g13 k63 k70 k2408;have e0:(((j+1:Nat):Int)-1)=(j:Int):=ω
  rw[e0]at g13;have e1:(0<=(j:Int))=True:=tt;have w1:IntKind.i64.wrap ((j:Int)+((k+2:Nat):Int))=((j+(k+2):Nat):Int):=wi σ ω;have w2:IntKind.i64.wrap (((j+(k+2):Nat):Int)-1)=((j+(k+1):Nat):Int):=wi;have w3:IntKind.i64.wrap (((j+(k+2):Nat):Int)-2)=((j+k:Nat):Int):=wi;have w4:IntKind.i64.wrap (((k+2:Nat):Int)-1)=((k+1:Nat):Int):=wi;have w5:IntKind.i64.wrap (((k+2:Nat):Int)-2)=((k:Nat):Int):=wi;have w6:IntKind.i64.wrap (((j+(k+2):Nat):Int)+1)=((j+(k+2)+1:Nat):Int):=wi;have w7:IntKind.i64.wrap ((j:Int)-1)=(j:Int)-1:=i64_in _ ⟨by omega,by omega⟩;have r1:aU (aC V) ((k+1:Nat):Int)=some (.ipt [U (V.getD (k+1) 0:Nat)]):=bu rfl ω;have r2:aU (aC V) ((k:Nat):Int)=some (.ipt [U (V.getD k 0:Nat)]):=bu rfl ω;have b1:(0<=((j+(k+2):Nat):Int))=True:=tt;have b2:(0<=((j+(k+1):Nat):Int))=True:=tt;have b3:(0<=((j+k:Nat):Int))=True:=tt;have b4:(((j+(k+2):Nat):Int)< (UL:Int))=True:=tt;have b5:(((j+(k+1):Nat):Int)< (UL:Int))=True:=tt;have b6:(((j+k:Nat):Int)< (UL:Int))=True:=tt;have l1:(aC A)[j+(k+2)]?=some [U (A.getD (j+(k+2)) 0:Nat)]:=kY ω;have l2:(aC A)[j+(k+1)]?=some [U (A.getD (j+(k+1)) 0:Nat)]:=kY ω;have l3:(aC A)[j+k]?=some [U (A.getD (j+k) 0:Nat)]:=kY ω;have htop:=anE hA hV hvl hlt;have hg:=ail (top:=A.getD (j+(k+2)) 0) (next:=A.getD (j+(k+1)) 0) (third:=A.getD (j+k) 0) (v:=V.getD (k+1) 0) (w:=V.getD k 0) hn2 (bU hV _) htop (bU hA _) (bU hA _) (bU hV _);have hT:Bm (A.getD (j+(k+2)) 0) ((A.drop j).take (k+2))=(A.getD (j+(k+2)) 0*4294967296+A.getD (j+(k+1)) 0)*4294967296+A.getD (j+k) 0:=by
   unfold Bm;have h1:((A.drop j).take (k+2)).length=k+2:=γ
   rw[h1,show k+2-1=k+1 by omega,show k+2-2=k by omega,aaH ω,aaH ω]
  have hW:zH V=V.getD (k+1) 0*4294967296+V.getD k 0:=by
   grind[zH]
  rw[←hT,←hW]at hg;have hgb:xt (Bm (A.getD (j+(k+2)) 0) ((A.drop j).take (k+2))) (zH V)<4294967296:=by
   grind[xt,Bm,zH,Nat.min_le_left]
  obtain⟨G,hG⟩:∃G,xt (Bm (A.getD (j+(k+2)) 0) ((A.drop j).take (k+2))) (zH V)=G:=⟨_,rfl⟩;rw[hG]at hg hgb;have hsp:=afw (U:=A) (j:=j) (n:=k+2) ω;have hwl:((A.drop j).take (k+2)).length=V.length:=γ
  have hpl:(A.take j).length=j:=γ
  have htk:=fun(h:ac) (d:Nat) (hh:h 2408=.ar 1 (aC A)) (hd:h (2000+8*d)=.dead)=>afv (V:=V) (us:=(A.drop j).take (k+2)) (P:=A.take j) (Q:=A.drop (j+(k+2)+1)) (q:=G) (lo:=j) (top:=A.getD (j+(k+2)) 0) hV hgb hn ω hwl hpl (fK (nK hA j) _) (bU hA _) (h:=h) (d:=d) (id:=2408) γ hd;rw[hvl]at htk;have sl:dH 1 (.rsl 2408 none 1 0 UL) (some (I (j:Int))) (some (I ((j+(k+2)+1:Nat):Int))) none=some (.rsl 2408 none 1 j (k+2+1)):=by
   have h1:kG UL UL (some (I ((j+(k+2)+1:Nat):Int)))=some (j+(k+2)+1):=vU rfl ω;have h2:kG 0 (j+(k+2)+1) (some (I (j:Int)))=some j:=vU rfl ω;have h3:j+(k+2)+1-j=k+2+1:=ω
   simp only[dH,jH,h1,h2,ay2,azE,ayX,h3,if_true,Option.isNone_none]
  rw[ag];generalize aq _ _ _=L at ih⊢;simp only[kO,go_sem,g8,g9,g10,g11,g12,g13,k63,k70,k2408,e1,w1,w2,w3,w4,w5,w6,r1,r2,b1,b2,b3,b4,b5,b6,l1,l2,l3,hg,sl,ay4,ayX];rw[htk _ _ rfl rfl];have hpos:=anF (q:=G) (top:=A.getD (j+(k+2)) 0) (us:=(A.drop j).take (k+2)) (vs:=V) hgb (bU hA _) (fK (nK hA j) _) hV hwl;obtain⟨q1,q2,q3,q4⟩:=Si (q:=G) (top:=A.getD (j+(k+2)) 0) (us:=(A.drop j).take (k+2)) (vs:=V) hgb (bU hA _) (fK (nK hA j) _) hV hwl;have hVb:ab V<4294967296^ (k+2):=by grind[cW]
  obtain⟨x1,x2,x3⟩:=aaF (n:=k+2) hA ω hVb hlt;have hs:=afr (top:=A.getD (j+(k+2)) 0) (bU hA _) (fK (nK hA j) (k+2)) hV (by rw[hwl,hvl]) hvl hn2 ω;have hdv:zJ V (j+1) A=((zJ V j (pk A j (yg (A.getD (j+(k+2)) 0) ((A.drop j).take (k+2)) V).1 (yg (A.getD (j+(k+2)) 0) ((A.drop j).take (k+2)) V).2.1)).1,(zJ V j (pk A j (yg (A.getD (j+(k+2)) 0) ((A.drop j).take (k+2)) V).1 (yg (A.getD (j+(k+2)) 0) ((A.drop j).take (k+2)) V).2.1)).2++[(yg (A.getD (j+(k+2)) 0) ((A.drop j).take (k+2)) V).2.2]):=by
   rw[←hvl];rfl
  rw[x1]at hs;rw[hdv];have hds:yg (A.getD (j+(k+2)) 0) ((A.drop j).take (k+2)) V=if(oH G (A.getD (j+(k+2)) 0) ((A.drop j).take (k+2)) V).2.2=true then(dk (oH G (A.getD (j+(k+2)) 0) ((A.drop j).take (k+2)) V).1 V V.length,((oH G (A.getD (j+(k+2)) 0) ((A.drop j).take (k+2)) V).2.1+eC (oH G (A.getD (j+(k+2)) 0) ((A.drop j).take (k+2)) V).1 V V.length) %4294967296,G-1)else((oH G (A.getD (j+(k+2)) 0) ((A.drop j).take (k+2)) V).1,(oH G (A.getD (j+(k+2)) 0) ((A.drop j).take (k+2)) V).2.1,G):=by
   unfold yg;rw[hG]
  generalize oH G (A.getD (j+(k+2)) 0) ((A.drop j).take (k+2)) V=r at*
  obtain⟨ra,rt,rf⟩:=r;generalize yg (A.getD (j+(k+2)) 0) ((A.drop j).take (k+2)) V=sd at*
  have wg:IntKind.u32.wrap (G:Int)=G:=DK rfl hgb;have o1:(aC (ayW (j+1) 0++Dn))[j]?=some [U (0:Nat)]:=by
   rw[kY (by simp;omega),List.getD_eq_getElem?_getD,List.getElem?_append_left σ,List.getElem?_replicate,if_pos ω];rfl
  have o2:∀z:Nat,(aC (ayW (j+1) 0++Dn)).set j [U (z:Int)]=aC (ayW j 0++z::Dn):=fun z=>by
   rw[py];congr 1;rw[List.replicate_succ',azB,List.set_append_right _ _ σ];simp
  have o3:((j:Int)< (QL:Int))=True:=tt;cases rf with
  |false=>
   simp only[azK,if_false]at hds;subst hds;simp only at hs⊢;obtain⟨d1,d2,d3,d4,d5⟩:=hs;rw[afx d4];have ih':=ih (pk A j ra rt) (G::Dn) (Sj hA d3 d5) (by rw[FK ω];exact hl) ω (by simp;omega) (by
    rw[Lo ω,eA,d4,w2' x2,d1];exact azw _ ω)
   simp only[go_sem,w7,wg,o1,o2,o3,e1,ay4,ayX];rw[azB];exact ih' _ _ rfl rfl rfl rfl rfl rfl rfl rfl rfl
  |true=>
   simp only[if_true]at hds;subst hds;simp only at hs q2 q3 q4⊢;obtain⟨d1,d2,d3,d4,d5⟩:=hs;have hG1:1<=G:=hpos rfl;have wq:IntKind.u64.wrap ((G:Int)-1)=((G-1:Nat):Int):=dK ω ω;have wg1:IntKind.u32.wrap ((G-1:Nat):Int)=((G-1:Nat):Int):=DK rfl ω;have hx:=aqn (V:=V) (us:=ra) (P:=A.take j) (Z:=rt::A.drop (j+(k+2)+1)) (Qr:=ayW (j+1) 0++Dn) (sh:=sh) (n:=(k+2:Nat)) (j:=(j:Int)) (g:=((G-1:Nat):Int)) (UL:=UL) (QL:=QL) (J:=j) hV q3 q4 hn hpl rfl ω ω;simp only[go_sem,wq];generalize hX:ah 4 _ _=X;obtain⟨hh,rfl,y70,y2408,yd⟩:=hx _ _ _ hX rfl rfl rfl rfl rfl rfl rfl rfl rfl rfl rfl rfl rfl rfl;have y63:hh 63=.dead:=yd _ δ δ;have hsl:(dk ra V V.length).length=k+2:=by rw[jG,hvl]
   have wc:IntKind.u32.wrap ((rt:Int)+(eC ra V V.length:Int))=(((rt+eC ra V V.length) %4294967296:Nat):Int):=IY σ;have z1:(aC (A.take j++(dk ra V V.length++rt::A.drop (j+(k+2)+1))))[j+(k+2)]?=some [U (rt:Nat)]:=by
    rw[kY (by simp[hpl,hsl]),List.getD_eq_getElem?_getD,List.getElem?_append_right ω,List.getElem?_append_right ω,hpl,hsl,Nat.add_sub_cancel_left,az2];rfl
   have z2:(aC (A.take j++(dk ra V V.length++rt::A.drop (j+(k+2)+1)))).set (j+(k+2)) [U (((rt+eC ra V V.length) %4294967296:Nat):Int)]=aC (pk A j (dk ra V V.length) ((rt+eC ra V V.length) %4294967296)):=by
    rw[py,List.set_append_right _ _ ω,List.set_append_right _ _ ω,hpl,hsl,Nat.add_sub_cancel_left,az2,←afx hsl];rfl
   have ih':=ih (pk A j (dk ra V V.length) ((rt+eC ra V V.length) %4294967296)) ((G-1)::Dn) (Sj hA d3 d5) (by rw[FK ω];exact hl) ω (by simp;omega) (by
    rw[Lo ω,eA,hsl,w2' x2,d1];exact azw _ ω)
   generalize pk A j (dk ra V V.length) ((rt+eC ra V V.length) %4294967296)=A2 at*
   generalize(rt+eC ra V V.length) %4294967296=rc at*
   simp only[go_sem,w1,w7,wg1,wc,z1,z2,o1,o2,o3,e1,b1,b4,y63,y70,y2408,ay4,ayX];rw[azB];exact ih' _ _ rfl rfl rfl rfl rfl rfl y63 rfl rfl
theorem akV{x:Nat}(hx:x<4294967296):R F.bits_LeadingZeros32 [U x] []=some (I ((32-ae x:Nat):Int),[]):=by
 refine av HS rfl ?_;have hb:ae x<=32:=bD.2 hx;have hl:=Xa hx;have w1:IntKind.i64.wrap (32- (ae x:Int))=((32-ae x:Nat):Int):=wi;simp only[qE,zp,go_sem,hl,w1]
theorem aqo{V A:List Nat}{k:Nat}{sh:Int}{UL m:Nat}(hV:Lb V)(hvl:V.length=k+2)(hn2:2147483648<=V.getD (k+1) 0)(hn:V.length<=100000)(hUL:UL<=100000)(hA:Lb A)(hl:A.length=UL)(hm:m+(k+2)<=UL)(hlt:ab (A.drop m)<ab V)(s:ai)(h:ac)(X:Option (Ex×St))(hX:ah 2 [8,9,11,12] (aq (aj R (az false) kO) [8,9,10,11,12,13] [63,70,2408] s h)=X)
  (g8:s 8=I sh) (g9:s 9=.rsl 2408 none 1 0 UL) (g10:s 10=lm V) (g11:s 11=I (k+2:Nat)) (g12:s 12=.rsl 70 none 1 0 m) (g13:s 13=I ((m:Int)-1)) (k63:h 63=.dead) (k70:h 70=.ar 1 (aC (ayW m 0))) (k2408:h 2408=.ar 1 (aC A)):
  ∃hh,X=some (.normal,⟨upd (upd (upd (upd (fun _=>.any) 12 (.rsl 70 none 1 0 m)) 11 (I (k+2:Nat))) 9 (.rsl 2408 none 1 0 UL)) 8 (I sh),hh⟩)/\hh 70=.ar 1 (aC (zJ V m A).2)/\hh 2408=.ar 1 (aC (zJ V m A).1)/\(∀a,a≠70->a≠2408->hh a=.dead):=by
 subst hX;have:=aiq (sh:=sh) (QL:=m) hV hvl hn2 hn hUL m A [] hA hl hm σ hlt s h g8 g9 g10 g11 g12 g13 k63 (by rw[azb];exact k70) k2408;rw[azb]at this;exact this
theorem air{b:List Nat}{k:Nat}(hb:Lb b)(hl:b.length=k+2)(ht:b.getD (k+1) 0≠0):2147483648*4294967296^ (k+1)<=ab b*2^ (32-ae (b.getD (k+1) 0))/\ab b*2^ (32-ae (b.getD (k+1) 0))<4294967296^ (k+2):=by
 have h1:ab b=ab (b.take (k+1))+4294967296^ (k+1)*b.getD (k+1) 0:=by
  rw[←fm,azg ω]
 have h2:=cW (fK hb (k+1));rw[azd,azS ω]at h2;have h3:=bU hb (k+1);generalize b.getD (k+1) 0=x at*
 have h4:ae x<=32:=bD.2 h3;have h5:0<ae x:=fR ht;have h6:=dA (n:=x) (32-ae x) ht;have h7:2147483648<=x*2^ (32-ae x):=by
  refine Nat.le_of_not_lt fun hc=>?_;have:=bD.2 (show x*2^ (32-ae x)<2^31 from hc);omega
 have h8:(x+1)*2^ (32-ae x)<=4294967296:=by
  have h9:x<2^ae x:=bD.1 (ayZ _);have h10:(x+1)*2^ (32-ae x)<=2^ae x*2^ (32-ae x):=ay7 _ h9;rw[←azc,show ae x+(32-ae x)=32 by omega]at h10;exact h10
 rw[h1];have e:4294967296^ (k+2)=4294967296^ (k+1)*4294967296:=azO ..;rw[e];generalize 4294967296^ (k+1)=B at*
 generalize 2^ (32-ae x)=S at*
 have h11:B*2147483648<=B*(x*S):=azR _ h7;have h12:B*((x+1)*S)<=B*4294967296:=azR _ h8;have h13:(ab (b.take (k+1))+B*x)*S=ab (b.take (k+1))*S+B*(x*S):=by rw[azn,azq]
 rw[h13];constructor
 ·omega
 ·have hS:0<S:=by
   rcases Nat.eq_zero_or_pos S with h0|h0
   ·rw[h0]at h7;omega
   ·exact h0
  have h14:ab (b.take (k+1))*S<B*S:=Nat.mul_lt_mul_of_pos_right h2 hS;rw[azn,Nat.one_mul,Nat.mul_add]at h12;omega
theorem ZA{a b:List Nat}(ha:Lb a)(hb:Lb b)(h1:a.length<=50000)(h2:b.length<=50000)(hl:(au (ab b)).length=1)(hge:ab b<=ab a):R F.natural_divide [lm a,lm b] []=some (.tup [lm (fA (ab b) (au (ab a))).1,lm [ab a%ab b]],[]):=by
 refine av Fj rfl ?_;have t1:=dD ha ω;have t2:=dD hb ω;have la:=dy a ha;have hc:=AT (bg (ab a)) (bg (ab b)) ω ω;rw[aN,aN]at hc;have e1:(cw (ab a) (ab b)<0)=False:=by
  unfold cw;grind
 obtain⟨y,hy⟩:=List.length_eq_one_iff.1 hl;have hv:ab b=y:=by
  grind[aN,ab]
 have hyb:y<4294967296:=by
  have:=bg (ab b);rw[hy]at this;exact this y σ
 have hy0:0<y:=by
  grind[fQ]
 have hs:=aio (bg (ab a)) hy0 hyb ω;obtain⟨s1,s2,s3⟩:=El hy0 (bg (ab a));rw[aN]at s1;have s4:(fA y (au (ab a))).2=ab a%y:=by
  grind[azl,Nat.mul_add_mod,azL]
 rw[hv]at hge⊢;rw[s4]at hs;rw[hy]at t2 hc;have e2:aU (aC [y]) 0=some (.ipt [U (y:Nat)]):=bu (n:=0) rfl σ;have e3:(([y]:List Nat).length:Int)=1:=rfl;have e4:((1:Nat):Int)=1:=rfl;simp only[qZ,yS,go_sem,t1,t2,hc,e1,e2,e3,e4,hs,decide_true];rfl
theorem ZB{a b:List Nat}{k:Nat}(ha:Lb a)(hb:Lb b)(h1:a.length<=50000)(h2:b.length<=50000)(hl:(au (ab b)).length=k+2)(hge:ab b<=ab a):∃Q Rr,R F.natural_divide [lm a,lm b] []=some (.tup [lm Q,lm Rr],[])/\Lb Q/\Lb Rr/\ab Q=ab a/ab b/\ab Rr=ab a%ab b/\Q.length<=100000/\Rr.length<=100000:=by
 have t1:=dD ha ω;have t2:=dD hb ω;have la:=dy a ha;have lb:=dy b hb;have hc:=AT (bg (ab a)) (bg (ab b)) ω ω;rw[aN,aN]at hc;have e1:(cw (ab a) (ab b)<0)=False:=by
  unfold cw;grind
 have hvd:=aN (ab b);have hLd:=bg (ab b);have hb0:ab b≠0:=fun h=>by
  rw[nJ.2 h]at hl;grind
 have ht:(au (ab b)).getD (k+1) 0≠0:=by
  intro h0;have q1:ab (au (ab b))=ab ((au (ab b)).take (k+1))+4294967296^ (k+1)*(au (ab b)).getD (k+1) 0:=by
   rw[←fm,azg ω]
  have q2:=cW (fK hLd (k+1));have q3:=Tl hb0;rw[azd,azS ω]at q2;rw[hl,show k+2-1=k+1 from rfl]at q3;rw[h0,Nat.mul_zero,hvd]at q1;omega
 obtain⟨n1,n2⟩:=air hLd hl ht;rw[hvd]at n1 n2;have hy:=bU hLd (k+1);have hyl:aU (aC (au (ab b))) ((k+1:Nat):Int)=some (.ipt [U ((au (ab b)).getD (k+1) 0:Nat)]):=bu (n:=k+1) rfl ω;generalize(au (ab b)).getD (k+1) 0=y at*
 have hlz:=akV hy;have hbl:ae y<=32:=bD.2 hy;have hbp:0<ae y:=fR ht;generalize hs:32-ae y=s at*
 have hs32:s<32:=ω
 have s1:=PS (bg (ab a)) (n:=s) ω ω;have s2:=PS hLd (n:=s) ω ω;rw[aN,show s/32=0 by omega,ayX]at s1 s2;have hsp:(2:Nat)^s<=2147483648:=azD (n:=2) (i:=s) (j:=31) δ ω;have hAl:=gQ (ab a);have hBl:=gQ (ab b);have hle:k+2<=(au (ab a)).length:=by
  rw[←hl];refine Nat.le_of_not_lt fun hc=>?_;have:=s7 hc;omega
 have hA2:ab a*2^s<4294967296^ ((au (ab a)).length+1):=by
  rw[azO];exact Nat.mul_lt_mul_of_lt_of_le hAl ω δ
 have hB2:ab b*2^s<4294967296^ ((au (ab b)).length+1):=by
  rw[azO];exact Nat.mul_lt_mul_of_lt_of_le hBl ω δ
 have t3:=dD (m:=dJ ((au (ab b)).length+1) (ab b*2^s)) (px _ _) (by rw[cY];omega);rw[mr,azL hB2]at t3;have hVv:=aN (ab b*2^s);have hVb:=bg (ab b*2^s);have hVl:(au (ab b*2^s)).length=k+2:=by
  have q1:=ko n2;have q2:=gQ (ab b*2^s);refine Nat.le_antisymm q1 (Nat.le_of_not_lt fun hc=>?_);have q3:4294967296^ (au (ab b*2^s)).length<=4294967296^ (k+1):=azD δ ω;omega
 have hVt:2147483648<=(au (ab b*2^s)).getD (k+1) 0:=by
  have q1:ab (au (ab b*2^s))=ab ((au (ab b*2^s)).take (k+1))+4294967296^ (k+1)*(au (ab b*2^s)).getD (k+1) 0:=by
   rw[←fm,azg ω]
  have q2:=cW (fK hVb (k+1));rw[azd,azS ω]at q2;refine Nat.le_of_not_lt fun hc=>?_;have q3:4294967296^ (k+1)*((au (ab b*2^s)).getD (k+1) 0+1)<=4294967296^ (k+1)*2147483648:=azR _ hc;rw[Nat.mul_add,Nat.mul_one]at q3;omega
 generalize au (ab b*2^s)=V at*
 obtain⟨m,hm⟩:∃m,(au (ab a)).length=m+(k+1):=⟨_,(Nat.sub_add_cancel ω).symm⟩;have hUv:ab (dJ ((au (ab a)).length+1) (ab a*2^s))=ab a*2^s:=by rw[mr,azL hA2]
 have hUb:=px ((au (ab a)).length+1) (ab a*2^s);have hUl:=cY ((au (ab a)).length+1) (ab a*2^s);have hlt:ab ((dJ ((au (ab a)).length+1) (ab a*2^s)).drop m)<ab V:=by
  rw[yX hUb,hUv,hVv];refine azY (Nat.div_lt_of_lt_mul ?_) n1;rw[azl 2147483648,←azq,←azc,←hm];exact Nat.mul_lt_mul_of_lt_of_le hAl hsp δ
 generalize dJ ((au (ab a)).length+1) (ab a*2^s)=A at*
 obtain⟨d1,d2,d3,d4,d5,d6⟩:=aft hVb hVl hVt m A hUb ω hlt;have hdx:=aqo (sh:=(s:Int)) hVb hVl hVt ω (UL:=A.length) ω hUb rfl (m:=m) ω hlt;generalize(zJ V m A).1=rr at*
 generalize(zJ V m A).2=qq at*
 have hrt:ab (rr.take (k+2))=ab rr:=by
  have q1:=eA (rr.take (k+2)) (rr.drop (k+2));rw[List.take_append_drop]at q1;have q2:=yX d5 (k+2);rw[Nat.div_eq_of_lt (Nat.lt_trans d2 (by rw[hVv];exact n2))]at q2;rw[q2]at q1;omega
 have s3:=aeC (fK d5 (k+2)) (n:=s) (by rw[azd];omega) ω;rw[hrt,show s/32=0 by omega,Nat.sub_zero]at s3;have hrr:ab rr/2^s=ab a%ab b/\ab qq=ab a/ab b:=by
  rw[hUv,hVv]at d1;rw[hVv]at d2;have q0:0<2^s:=aze s;have q1:ab rr%2^s=0:=by
   have:ab a*2^s%2^s=0:=Nat.mul_mod_left ..;rw[d1,azq,azl (ab b),azq,Nat.add_mul_mod_self_left]at this;exact this
  obtain⟨r,hr⟩:=Nat.dvd_of_mod_eq_zero q1;rw[hr,Nat.mul_div_cancel_left _ q0];rw[hr]at d1 d2;have q2:ab a=r+ab b*ab qq:=by
   refine Nat.eq_of_mul_eq_mul_right q0 ?_;rw[d1];grind
  have q3:r<ab b:=by
   refine Nat.lt_of_mul_lt_mul_right (a:=2^s) ?_;rw[azl r];exact d2
  rw[q2,Nat.add_mul_mod_self_left,azL q3,Nat.add_mul_div_left _ _ ω,Nat.div_eq_of_lt q3,ayX];exact⟨rfl,rfl⟩
 refine⟨qq,dJ (au (ab rr)).length (ab rr/2^s),?_,d6,px _ _,hrr.2,?_,by omega,?_⟩;rotate_left
 ·rw[mr,azL (azt (Nat.div_le_self _ _) (gQ _))];exact hrr.1
 ·rw[cY];have:=dy rr d5;omega
 refine av Fj rfl ?_;generalize dJ ((au (ab b)).length+1) (ab b*2^s)=B2 at s2 t3;have tk:List.take B2.length (aC B2)=aC B2:=azg (by simp[aC]);have e2:(((au (ab b)).length:Int)=1)=False:=ff;have w1:IntKind.i64.wrap (((au (ab b)).length:Int)-1)=((k+1:Nat):Int):=wi;have e3:((A.length:Int)<=(au (ab a)).length)=False:=ff;have w2:IntKind.i64.wrap ((A.length:Int)-V.length)=((m:Nat):Int):=wi;have w3:IntKind.i64.wrap ((m:Int)-1)=(m:Int)-1:=i64_in _ ⟨by omega,by omega⟩;have z1:lI (.v (.int .i64 (m:Int))) (.v (.int .i64 (m:Int)))=some (m,m):=by
  simp only[lI];rw[if_pos ⟨by omega,by omega,by omega⟩];rfl
 have z2:(m*4<=140737488355328)=True:=tt;simp only[qZ,yS,go_sem,t1,t2,hc,e1,e2,ayX,ayZ,e3,w1,hyl,hlz,s1,s2,tk,t3];rw[ag];simp only[Bj,go_sem,e3,w2,w3,z1,z2];generalize hX:ah 2 _ _=X;obtain⟨hh,rfl,q70,q2408,qd⟩:=hdx _ _ _ hX rfl rfl rfl (by rw[hVl];rfl) rfl rfl rfl (by simp[aC];rfl) rfl;have e4:∀n:Nat,n<=A.length->dH 1 (.rsl 2408 none 1 0 A.length) none (some (I (n:Int))) none=some (.rsl 2408 none 1 0 n):=fun n hn=>by simp[dH,jH,kG,hn]
 have e4:=e4 (k+2) ω;have e5:(0+(k+2)<=rr.length)=True:=tt;have e6:List.take (k+2) (aC rr)=aC (rr.take (k+2)):=(List.map_take ..).symm;simp only[go_sem,q70,q2408,qd 3336 δ δ,e4,e5,e6,s3];rw[d3,if_pos ω,if_pos rfl];simp only[go_sem]
theorem afy{a b:List Nat}(ha:Lb a)(hb:Lb b)(h1:a.length<=50000)(h2:b.length<=50000)(h0:ab b≠0)(hge:ab b<=ab a):∃Q Rr,R F.natural_divide [lm a,lm b] []=some (.tup [lm Q,lm Rr],[])/\Lb Q/\Lb Rr/\ab Q=ab a/ab b/\ab Rr=ab a%ab b/\Q.length<=100000/\Rr.length<=100000:=by
 have la:=dy a ha;have lb:=dy b hb;have hn:(au (ab b)).length≠0:=fun h=>h0 (nJ.1 (List.length_eq_zero_iff.1 h));by_cases hl:(au (ab b)).length=1
 ·have:=ZA ha hb h1 h2 hl hge;have hb1:=gQ (ab b);rw[hl,Nat.pow_one]at hb1;obtain⟨s1,s2,s3⟩:=El (Nat.pos_of_ne_zero h0) (bg (ab a));rw[aN]at s1;have s4:=aaG (Nat.pos_of_ne_zero h0) hb1 (bg (ab a));refine⟨_,_,this,s4,fun x hx=>?_,?_,?_,by omega,by simp⟩
  ·have:x=ab a%ab b:=by simpa using hx
   have:=azw (ab a) (Nat.pos_of_ne_zero h0);omega
  ·generalize(fA (ab b) (au (ab a))).2=r at*
   generalize(fA (ab b) (au (ab a))).1=q at*
   rw[s1,azl,Nat.mul_add_div (Nat.pos_of_ne_zero h0),Nat.div_eq_of_lt s2,azA]
  ·simp[ab]
 ·obtain⟨k,hk⟩:∃k,(au (ab b)).length=k+2:=⟨(au (ab b)).length-2,by omega⟩;exact ZB ha hb h1 h2 hk hge
theorem afz{a b:List Nat}(ha:Lb a)(hb:Lb b)(h1:a.length<=256)(h2:b.length<=256)(h0:ab b≠0)(hge:ab b<=ab a):R F.natural_DivMod [lm a,lm b] []=some (.tup [lm (au (ab a/ab b)),lm (au (ab a%ab b)),I 0],[]):=by
 refine av NW rfl ?_;have e1:(256<a.length)=False:=ff;have e2:(256<b.length)=False:=ff;obtain⟨Q,Rr,hd,q1,q2,q3,q4,q5,q6⟩:=afy ha hb ω ω h0 hge;have t1:=dD q1 ω;have t2:=dD q2 ω;rw[q3]at t1;rw[q4]at t2;have e3:(((au (ab b)).length:Int)=0)=False:=eq_false fun h=>h0 (nJ.1 (List.length_eq_zero_iff.1 ω));simp only[xF,E2,go_sem,e1,e2,e3,vV,dD hb ω,hd,t1,t2,RA]
def uE(a b:Rd)(p:Int):Nat:=(p+3+ae (ab b.m)-ae (ab a.m)).toNat
def qG(a b:Rd)(p:Int)(up:Bool):Rd×Int:=if aY p [a,b]=0 then(if b.m.length=0 then(aG,10)else if a.m.length=0 then(aG,0)else
 iw (a.neg !=b.neg) (cQ (ab a.m*2^uE a b p/ab b.m) (a.e-uE a b p-b.e) (decide (ab a.m*2^uE a b p%ab b.m≠0)) p (up != (a.neg !=b.neg))))else(aG,aY p [a,b])
theorem aaI{a b:Rd}(oa:Ok0 a)(ob:Ok0 b){p:Int}{up:Bool}:R F.round_div [af a,af b,I p,B up] []=some (rV (qG a b p up),[]):=by
 refine av Zo rfl ?_;have hf:R F.round_fault [I p,.sl 3 [[B a.neg,lm a.m,I a.e],[B b.neg,lm b.m,I b.e]]] []=some (I (aY p [a,b]),[]):=B1 (p:=p) (l:=[a,b]) (fun x hx=>by
  grind) (show 2<=100000 by decide)
 unfold qG;by_cases h0:aY p [a,b]=0
 ·obtain⟨v1,v2,v3⟩:=vZ h0;have v4:vd a=true/\vd b=true:=γ
  obtain⟨va,vb⟩:=v4;obtain⟨a1,a2,a3,a4⟩:=dZ va oa.lb;obtain⟨b1,b2,b3,b4⟩:=dZ vb ob.lb;rw[if_pos h0];rw[h0]at hf;by_cases b0:b.m.length=0
  ·have e1:((b.m.length:Int)=0)=True:=tt;rw[if_pos b0];simp only[rF,xZ,rV,af,ak,aG,go_sem,hf,e1]
  have e1:((b.m.length:Int)=0)=False:=ff;rw[if_neg b0];by_cases a0:a.m.length=0
  ·have e2:((a.m.length:Int)=0)=True:=tt;rw[if_pos a0];simp only[rF,xZ,rV,af,ak,aG,go_sem,hf,e1,e2]
  have e2:((a.m.length:Int)=0)=False:=ff;rw[if_neg a0];have hA:=dv va a0;have hB:=dv vb b0;obtain⟨n,rfl⟩:=az4 (show 0<=p by omega);have d1:=N8 oa;have d2:=N8 ob;rw[if_pos va]at d1;rw[if_pos vb]at d2;have hk:uE a b (n:Nat)=((n:Int)+3+ae (ab b.m)-ae (ab a.m)).toNat:=rfl;generalize uE a b (n:Nat)=k at*
  have hm2:=dA k hA;have hl2:(au (ab a.m*2^k)).length<=256:=aT ω;have hs:=B0 oa.lb a1 (k:=k) ω hl2;have hge:ab b.m<=ab (au (ab a.m*2^k)):=by
   rw[aN];refine Nat.le_of_not_lt fun hc=>?_;have:=zA (Nat.le_of_lt hc) (ayZ _);omega
  have hd:=afz (bg (ab a.m*2^k)) ob.lb hl2 b1 hB hge;rw[aN]at hd;have hqb:ae (ab a.m*2^k/ab b.m)<=8192:=zA (Nat.div_le_self _ _) ω;have hrb:ae (ab a.m*2^k%ab b.m)<=8192:=zA (Nat.mod_le _ _) ω;have hbt:=HW (bg (ab a.m*2^k%ab b.m)) (ay3 (aT (k:=256) ω) δ);rw[aN]at hbt;have hsg:=GB (M:=au (ab a.m*2^k/ab b.m)) (e:=a.e-k-b.e) (n:=n) (more:=decide (ab a.m*2^k%ab b.m≠0)) (up:=up) (neg:=a.neg !=b.neg) (bg _) (aT ω) ⟨by omega,by omega⟩ ⟨by omega,by omega⟩;rw[aN]at hsg;have hmr:decide (ab a.m*2^k%ab b.m≠0)=decide ((0:Int)< (ae (ab a.m*2^k%ab b.m):Nat)):=by
   grind[sf,decide_eq_true,fR]
  rw[hmr]at hsg⊢;have w1:IntKind.i64.wrap ((n:Int)+3)=(n:Int)+3:=i64_in _ ⟨by omega,by omega⟩;have w2:IntKind.i64.wrap ((n:Int)+3+(ae (ab b.m):Nat))=(n:Int)+3+(ae (ab b.m):Nat):=i64_in _ ⟨by omega,by omega⟩;have w3:IntKind.i64.wrap ((n:Int)+3+(ae (ab b.m):Nat)- (ae (ab a.m):Nat))=(n:Int)+3+(ae (ab b.m):Nat)- (ae (ab a.m):Nat):=i64_in _ ⟨by omega,by omega⟩;have w4:IntKind.i64.wrap (a.e- (k:Int))=a.e-k:=i64_in _ ⟨by omega,by omega⟩;have w5:IntKind.i64.wrap (a.e- (k:Int)-b.e)=a.e-k-b.e:=i64_in _ ⟨by omega,by omega⟩;have em:(if(0:Int)< (n:Int)+3+(ae (ab b.m):Nat)- (ae (ab a.m):Nat)then(n:Int)+3+(ae (ab b.m):Nat)- (ae (ab a.m):Nat)else 0)=(k:Int):=ω
  simp only[rV,af,ak,ye]at hsg d1 d2;simp only[rF,xZ,rV,af,ak,go_sem,hf,e1,e2,d1,d2,w1,w2,w3,w4,w5,em,hs,hd,hbt,AW,hsg]
 ·have e1:(aY p [a,b]=0)=False:=ff h0;rw[if_neg h0];simp only[rF,xZ,rV,af,ak,aG,go_sem,hf,e1]
theorem XY{a b:Rd}(oa:Ok0 a)(ob:Ok0 b){p:Int}:R F.round_DivUp [af a,af b,I p] []=some (rV (qG a b p true),[]):=by
 refine av tW rfl ?_;have hr:=aaI oa ob (p:=p) (up:=true);simp only[rV,af,ak]at hr;simp only[BE,JG,rV,af,ak,go_sem,hr]
theorem P5{a b:Rd}(oa:Ok0 a)(ob:Ok0 b){p:Int}:R F.round_DivDown [af a,af b,I p] []=some (rV (qG a b p false),[]):=by
 refine av qk rfl ?_;have hr:=aaI oa ob (p:=p) (up:=false);simp only[rV,af,ak]at hr;simp only[yN,Gm,rV,af,ak,go_sem,hr]
theorem Mj{a b:Rd}{p:Int}{up:Bool}:vd (qG a b p up).1=true/\Ok0 (qG a b p up).1:=by
 unfold qG;split
 ·split
  ·exact aV
  ·split
   ·exact aV
   ·exact aeL
 ·exact aV
def Sk(x y:Ri)(p:Int):Ri:=if(kI x&&kI y&&bO p)=true then(if K9 y=0 then ed else JY (re (fun a b=>qG a b p false) (fun a b=>qG a b p true) (gL x y)))else ed
theorem aaJ{x y:Ri}(ox:OkI x)(oy:OkI y){p:Int}:R F.interval_Div [ap x,ap y,I p] []=some (ap (Sk x y p),[]):=by
 refine av Q5 rfl ?_;have hk:=GE ox oy;have hp:=we (p:=p);have hw:=oF;have hs:=Xn oy;have hf:=aag ox oy (p:=p) (dn:=fun a b=>qG a b p false) (up:=fun a b=>qG a b p true) ⟨fun h1 h2=>P5 h1 h2,Mj.2,qk.1.1,qk.1.2.1,qk.1.2.2.2,qk.1.2.2.1⟩ ⟨fun h1 h2=>XY h1 h2,Mj.2,tW.1.1,tW.1.2.1,tW.1.2.2.2,tW.1.2.2.1⟩;unfold Sk;generalize JY (re (fun a b=>qG a b p false) (fun a b=>qG a b p true) (gL x y))=z at hf⊢;generalize K9 y=sg at*
 simp only[ap,ax,ed,aG]at hw hf hs;cases h1:(kI x&&kI y)with
 |false=>
  rw[h1]at hk;rw[ay6,if_neg ay9];simp only[lR,ru,ap,ax,ed,aG,go_sem,hk,hw]
 |true=>
  rw[h1]at hk;have hs:=hs ((ay1 _ _).mp h1).2;cases h2:bO p with
  |false=>
   rw[h2]at hp;rw[ay5,if_neg ay9];simp only[lR,ru,ap,ax,ed,aG,go_sem,hk,hp,hw]
  |true=>
   rw[h2]at hp;rw[ay5,if_pos rfl];by_cases h3:sg=0
   ·have e3:(sg=0)=True:=eq_true h3;rw[if_pos h3];simp only[lR,ru,ap,ax,ed,aG,go_sem,hk,hp,hw,hs,e3]
   ·have e3:(sg=0)=False:=eq_false h3;rw[if_neg h3];simp only[lR,ru,ap,ax,ed,aG,go_sem,hk,hp,hf,hs,e3]
def FL(x:Ri):Ri:=if kI x=true then⟨go x.hi,go x.lo,false⟩else ed
theorem akW{x:Ri}(ox:OkI x):OkI (FL x):=by
 unfold FL;split
 ·exact⟨zD ox.hi,zD ox.lo⟩
 ·exact⟨aV.2,aV.2⟩
theorem akX{x:Ri}(ox:OkI x):R F.interval_Neg [ap x] []=some (ap (FL x),[]):=by
 refine av Q6 rfl ?_;have hk:=wh ox;have hw:=oF;have h1:R F.dyadic_Neg [af x.lo] []=some (af (go x.lo),[]):=Fr ox.lo;have h2:R F.dyadic_Neg [af x.hi] []=some (af (go x.hi),[]):=Fr ox.hi;unfold FL;simp only[ap,ax,af,ak]at hw h1 h2;cases h0:kI x with
 |false=>
  rw[h0]at hk;simp only[uM,BA,ap,ax,go_sem,hk,hw]
 |true=>
  rw[h0]at hk;simp only[uM,BA,ap,ax,go_sem,hk,h1,h2]
def Hl(x y:Ri)(p:Int):Ri:=gJ x (FL y) p
theorem Sl{x y:Ri}(ox:OkI x)(oy:OkI y){p:Int}:R F.interval_Sub [ap x,ap y,I p] []=some (ap (Hl x y p),[]):=by
 refine av Ra rfl ?_;have h1:=akX oy;have h2:=B6 ox (akW oy) (p:=p);unfold Hl;simp only[ap,ax]at h1 h2;simp only[As,HB,ap,ax,go_sem,h1,h2]
def Mk(x y:Ri):Ri:=if(kI x&&kI y)=true then⟨lu x.lo y.lo,lw x.hi y.hi,false⟩else ed
theorem ais{x y:Ri}(ox:OkI x)(oy:OkI y):R F.interval_Hull [ap x,ap y] []=some (ap (Mk x y),[]):=by
 refine av PM rfl ?_;have hk:=GE ox oy;have hw:=oF;have h1:=RP ox.lo oy.lo;have h2:=RQ ox.hi oy.hi;unfold Mk;simp only[ap,ax,af,ak]at hw h1 h2;cases h0:(kI x&&kI y)with
 |false=>
  rw[h0]at hk;simp only[sQ,AI,ap,ax,go_sem,hk,hw]
 |true=>
  rw[h0]at hk;simp only[sQ,AI,ap,ax,go_sem,hk,h1,h2]
def P6:Ri:=⟨aG,aG,false⟩
def u9(x y:Ri):Ri×Bool:=if(vi x&&vi y)=true then(if x.all=true then(y,true)else if y.all=true then(x,true)else if fg (lw x.lo y.lo) (lu x.hi y.hi)<=0 then(⟨lw x.lo y.lo,lu x.hi y.hi,false⟩,true)else(P6,false))else(P6,false)
theorem ait{x y:Ri}(ox:OkI x)(oy:OkI y):R F.interval_Meet [ap x,ap y] []=some (.tup [ap (u9 x y).1,B (u9 x y).2],[]):=by
 refine av PI rfl ?_;have hx:=qt ox;have hy:=qt oy;have h1:=RQ ox.lo oy.lo;have h2:=RP ox.hi oy.hi;have hc:=rR (Xq ox.lo oy.lo) (Xo ox.hi oy.hi);rw[show(if vd (lw x.lo y.lo)=true/\vd (lu x.hi y.hi)=true then eJ (zI (lw x.lo y.lo)) (zI (lu x.hi y.hi))else 0)=fg (lw x.lo y.lo) (lu x.hi y.hi)from rfl]at hc;unfold u9;generalize fg (lw x.lo y.lo) (lu x.hi y.hi)=cc at hc⊢;simp only[ap,ax,af,ak]at hx hy h1 h2 hc;cases v1:vi x with
 |false=>
  rw[v1]at hx;simp only[gF,jR,ap,ax,P6,aG,go_sem,hx]
  try rfl
 |true=>
  rw[v1]at hx;cases v2:vi y with
  |false=>
   rw[v2]at hy;simp only[gF,jR,ap,ax,P6,aG,go_sem,hx,hy]
   try rfl
  |true=>
   rw[v2]at hy;cases a1:x.all with
   |true=>
    rw[a1]at hx;simp only[gF,jR,ap,ax,go_sem,hx,hy,a1]
   |false=>
    rw[a1]at hx;cases a2:y.all with
    |true=>
     rw[a2]at hy;simp only[gF,jR,ap,ax,go_sem,hx,hy,a1,a2]
    |false=>
     rw[a2]at hy;by_cases h3:cc<=0
     ·have e1:(0<cc)=False:=ff;rw[if_pos h3];simp only[gF,jR,ap,ax,go_sem,hx,hy,a1,a2,h1,h2,hc,e1]
     ·have e1:(0<cc)=True:=tt;rw[if_neg h3];simp only[gF,jR,ap,ax,P6,aG,go_sem,hx,hy,a1,a2,h1,h2,hc,e1]
      try rfl
abbrev G:=Nat->Rat
def pl(x:Rat)(v:G):Nat->Nat->Rat
 |_,0=>0
 |i,c+1=>v i+x*pl x v (i+1) c
def nw(t:Rat)(v:G):Nat->Nat->Rat
 |0,i=>v i
 |n+1,i=>nw t v n i+t*nw t v n (i+1)
def dc(t:Rat)(v:G):Nat->Nat->Rat
 |0,i=>v i
 |n+1,i=>(1-t)*dc t v n i+t*dc t v n (i+1)
def gs(g:G)(a:Nat)(x:Rat):G:=fun i=>if i=a then x else g i
def Nm(lo:Rat)(ad:Nat->Nat)(i:Nat):Nat->G->G
 |0,g=>g
 |k+1,g=>Nm lo ad i k (gs g (ad (i+k)) (g (ad (i+k))+lo*g (ad (i+k+1))))
def Nn(lo:Rat)(ad:Nat->Nat):Nat->Nat->G->G
 |0,_,g=>g
 |k+1,i,g=>Nn lo ad k (i+1) (Nm lo ad i (k+1) g)
def TI(w:Rat)(ad:Nat->Nat):Nat->Nat->Rat->G->G
 |0,_,_,g=>g
 |k+1,j,b,g=>TI w ad k (j+1) (b*w) (gs g (ad j) (g (ad j)*(b*w)))
def No(n:Nat)(ad:Nat->Nat):Nat->Nat->Rat->G->G
 |0,_,_,g=>g
 |k+1,j,b,g=>No n ad k (j+1) (b*((n:Rat)-j+1)/j) (gs g (ad j) (g (ad j)/ (b*((n:Rat)-j+1)/j)))
def P7(ad:Nat->Nat)(j:Nat):Nat->G->G
 |0,g=>g
 |k+1,g=>P7 ad j k (gs g (ad (j+k+1)) (g (ad (j+k+1))+g (ad (j+k))))
def TJ(ad:Nat->Nat):Nat->Nat->G->G
 |0,_,g=>g
 |k+1,j,g=>TJ ad k (j+1) (P7 ad j (k+1) g)
def iK:Nat->Nat->Nat
 |_,0=>1
 |0,_+1=>0
 |n+1,k+1=>iK n k+iK n (k+1)
theorem anG{lo:Rat}{ad:Nat->Nat}(hi:∀a b,ad a=ad b↔a=b){i:Nat}:∀ (k:Nat) (g:G),(∀a,(∀m,i<=m->m<i+k->a≠ad m)->Nm lo ad i k g a=g a)/\(∀m,i<=m->m<i+k->Nm lo ad i k g (ad m)=g (ad m)+lo*Nm lo ad i k g (ad (m+1))):=by
 intro k;induction k with
 |zero=>exact fun g=>⟨fun _ _=>rfl,fun m h1 h2=>by omega⟩
 |succ k ih=>
  intro g;have e:Nm lo ad i (k+1) g=Nm lo ad i k (gs g (ad (i+k)) (g (ad (i+k))+lo*g (ad (i+k+1)))):=rfl;rw[e];obtain⟨h1,h2⟩:=ih (gs g (ad (i+k)) (g (ad (i+k))+lo*g (ad (i+k+1))));constructor
  ·intro a ha;rw[h1 a fun m hm hk=>ha m hm ω,gs,if_neg (ha _ ω ω)]
  ·intro m hm hk;by_cases hq:m=i+k
   ·grind[gs]
   ·rw[h2 m hm ω,gs,if_neg γ]
theorem anH{x u lo:Rat}(hx:x=lo+u){v w:G}:∀ (k i:Nat),(∀m,i<=m->m<i+k->w m=v m+lo*w (m+1))->w (i+k)=v (i+k)->pl x v i (k+1)=w i+u*pl x w (i+1) k:=by
 intro k;induction k with
 |zero=>grind[pl]
 |succ k ih=>
  intro i h1 h2;have h3:=ih (i+1) (fun m a b=>h1 m ω ω) γ;grind[pl]
theorem anI{x u lo:Rat}(hx:x=lo+u){ad:Nat->Nat}(hi:∀a b,ad a=ad b↔a=b):∀ (k i:Nat) (g:G),(∀a,(∀m,i<=m->m<i+k->a≠ad m)->Nn lo ad k i g a=g a)/\pl x (fun m=>g (ad m)) i (k+1)=pl u (fun m=>Nn lo ad k i g (ad m)) i (k+1):=by
 intro k;induction k with
 |zero=>simp_all[pl,Nn]
 |succ k ih=>
  intro i g;obtain⟨h1,h2⟩:=anG (lo:=lo) hi (i:=i) (k+1) g;have e:Nn lo ad (k+1) i g=Nn lo ad k (i+1) (Nm lo ad i (k+1) g):=rfl;rw[e];generalize Nm lo ad i (k+1) g=g1 at*
  obtain⟨h3,h4⟩:=ih (i+1) g1;constructor
  ·grind
  ·rw[anH hx (v:=fun m=>g (ad m)) (w:=fun m=>g1 (ad m)) (k+1) i h2 (h1 _ fun m _ hk=>by grind),h4];show _=Nn lo ad k (i+1) g1 (ad i)+u*_;grind
theorem anJ{w:Rat}{ad:Nat->Nat}(hi:∀a b,ad a=ad b↔a=b):∀ (k j:Nat) (b:Rat) (g:G),(∀a,(∀m,j<=m->m<j+k->a≠ad m)->TI w ad k j b g a=g a)/\(∀m,m<k->TI w ad k j b g (ad (j+m))=g (ad (j+m))*(b*w^ (m+1))):=by
 intro k;induction k with
 |zero=>exact fun j b g=>⟨fun _ _=>rfl,fun m h=>by omega⟩
 |succ k ih=>
  intro j b g;have e:TI w ad (k+1) j b g=TI w ad k (j+1) (b*w) (gs g (ad j) (g (ad j)*(b*w))):=rfl;rw[e];obtain⟨h1,h2⟩:=ih (j+1) (b*w) (gs g (ad j) (g (ad j)*(b*w)));constructor
  ·intro a ha;rw[h1 a fun m hm hk=>ha m ω ω,gs,if_neg (ha _ ω ω)]
  ·intro m hm;cases m with
   |zero=>
    rw[h1 _ fun m hm hk=>by grind];simp[gs]
   |succ m=>
    have:=h2 m ω;rw[show j+1+m=j+(m+1)by omega]at this;rw[this,gs,if_neg γ,Rat.pow_succ w (m+1),Rat.pow_succ w m];grind
theorem anK{w t:Rat}{v z:G}:∀ (c i:Nat),(∀m,i<=m->m<i+c->z m=v m*w^m)->pl t z i c=w^i*pl (w*t) v i c:=by
 intro c;induction c with
 |zero=>grind[pl]
 |succ c ih=>
  grind[pl,Rat.pow_succ]
theorem FM(n:Nat):iK n 0=1:=by cases n<;>rfl
theorem H6:∀ (n k:Nat),n<k->iK n k=0
 |_,0,h=>by omega
 |0,_+1,_=>rfl
 |n+1,k+1,h=>by
  show iK n k+iK n (k+1)=0;rw[H6 n k ω,H6 n (k+1) ω]
theorem Ml:∀n k:Nat,k<=n->(iK n (k+1):Int)*(k+1)=iK n k*((n:Int)-k)
 |0,k,h=>by
  have:k=0:=ω
  subst this;rfl
 |n+1,0,_=>by
  have:=Ml n 0 ω;show((iK n 0+iK n 1:Nat):Int)*_=(iK (n+1) 0:Int)*_;simp only[FM]at this⊢;simp at this⊢;omega
 |n+1,k+1,h=>by
  have h1:=Ml n k ω;show((iK n (k+1)+iK n (k+1+1):Nat):Int)*_=((iK n k+iK n (k+1):Nat):Int)*_;by_cases hk:k+1<=n
  ·have h2:=Ml n (k+1) hk;grind
  ·have:n=k:=ω
   subst this;rw[H6 n (n+1) ω,H6 n (n+1+1) ω];simp
theorem aaK:∀n k:Nat,k<=n->0<iK n k
 |n,0,_=>by grind[FM]
 |n+1,k+1,h=>Nat.add_pos_left (aaK n k ω) _
theorem anL{n:Nat}{ad:Nat->Nat}(hi:∀a b,ad a=ad b↔a=b):∀ (k j:Nat) (b:Rat) (g:G),j+1+k=n+1->b=iK n j->(∀a,(∀m,j+1<=m->m<j+1+k->a≠ad m)->No n ad k (j+1) b g a=g a)/\(∀m,m<k->No n ad k (j+1) b g (ad (j+1+m))*iK n (j+1+m)=g (ad (j+1+m))):=by
 intro k;induction k with
 |zero=>exact fun j b g _ _=>⟨fun _ _=>rfl,fun m h=>by omega⟩
 |succ k ih=>
  intro j b g hk hb;have e:No n ad (k+1) (j+1) b g=No n ad k (j+1+1) (b*((n:Rat)- (j+1:Nat)+1)/ (j+1:Nat)) (gs g (ad (j+1)) (g (ad (j+1))/ (b*((n:Rat)- (j+1:Nat)+1)/ (j+1:Nat)))):=rfl;have hb2:b*((n:Rat)- (j+1:Nat)+1)/ (j+1:Nat)=iK n (j+1):=by
   have h1:=Ml n j ω;have h2:((iK n (j+1):Rat))*(j+1)=iK n j*((n:Rat)-j):=by
    have:=congrArg (fun z:Int=>(z:Rat)) h1;simp only[Rat.intCast_mul,Rat.intCast_sub,Rat.intCast_add,Rat.intCast_natCast]at this;omega
   grind
  rw[e,hb2];have hp:(iK n (j+1):Rat)≠0:=by
   have:=aaK n (j+1) ω;intro h0
   simp_all
  obtain⟨h1,h2⟩:=ih (j+1) (iK n (j+1)) (gs g (ad (j+1)) (g (ad (j+1))/iK n (j+1))) ω rfl;constructor
  ·intro a ha;rw[h1 a fun m hm hk=>ha m ω ω,gs,if_neg (ha _ ω ω)]
  ·intro m hm;cases m with
   |zero=>
    rw[h1 _ fun m hm hk=>by grind];simp only[gs,azA,if_true];grind
   |succ m=>
    have:=h2 m ω;rw[show j+1+1+m=j+1+(m+1)by omega]at this
    simp_all[gs,if_neg]
theorem anM{t:Rat}{u v w:G}:∀ (c i:Nat),(∀m,i<=m->m<i+c->w m=u m+v m)->pl t w i c=pl t u i c+pl t v i c:=by
 intro c;induction c with
 |zero=>grind[pl]
 |succ c ih=>
  grind[pl]
theorem Oq{t:Rat}{v w:G}{d:Nat}:∀ (c i:Nat),(∀m,i<=m->m<i+c->w m=v (m+d))->pl t w i c=pl t v (i+d) c:=by
 intro c;induction c with
 |zero=>intro i _;rfl
 |succ c ih=>
  grind[pl]
theorem akY{t:Rat}{v:G}:∀ (c i:Nat),v (i+c)=0->pl t v i (c+1)=pl t v i c:=by
 intro c;induction c with
 |zero=>grind[pl]
 |succ c ih=>
  grind[pl]
theorem aqp{t:Rat}{v:G}:∀ (n i:Nat),nw t v n i=pl t (fun m=>iK n m*v (i+m)) 0 (n+1):=by
 intro n;induction n with
 |zero=>simp only[nw,pl,iK,azA];grind
 |succ n ih=>
  intro i;have e1:=akY (t:=t) (v:=fun m=>(iK n m:Rat)*v (i+m)) (n+1) 0 (by simp_all[H6]);have e2:pl t (fun m=>(iK n m:Rat)*v (i+m)) 0 (n+1+1)=(iK n 0:Rat)*v (i+0)+t*pl t (fun m=>(iK n m:Rat)*v (i+m)) (0+1) (n+1):=rfl;have e3:pl t (fun m=>(iK (n+1) m:Rat)*v (i+m)) 0 (n+1+1)=(iK (n+1) 0:Rat)*v (i+0)+t*pl t (fun m=>(iK (n+1) m:Rat)*v (i+m)) (0+1) (n+1):=rfl;have e4:=Oq (t:=t) (d:=1) (w:=fun m=>(iK n (m+1):Rat)*v (i+(m+1))) (v:=fun m=>(iK n m:Rat)*v (i+m)) (n+1) 0 (fun m _ _=>rfl);have e5:=Oq (t:=t) (d:=1) (w:=fun m=>(iK (n+1) (m+1):Rat)*v (i+(m+1))) (v:=fun m=>(iK (n+1) m:Rat)*v (i+m)) (n+1) 0 (fun m _ _=>rfl);have e6:=anM (t:=t) (w:=fun m=>(iK (n+1) (m+1):Rat)*v (i+(m+1))) (u:=fun m=>(iK n m:Rat)*v (i+1+m)) (v:=fun m=>(iK n (m+1):Rat)*v (i+(m+1))) (n+1) 0 (fun m _ _=>by
   have:iK (n+1) (m+1)=iK n m+iK n (m+1):=rfl;simp only[this,show i+1+m=i+(m+1)by omega,Rat.natCast_add];grind)
  grind[nw,FM]
theorem anN{ad:Nat->Nat}(hi:∀a b,ad a=ad b↔a=b){j:Nat}:∀ (k:Nat) (g:G),(∀a,(∀m,j<=m->m<j+k->a≠ad (m+1))->P7 ad j k g a=g a)/\(∀m,j<=m->m<j+k->P7 ad j k g (ad (m+1))=g (ad (m+1))+g (ad m)):=by
 intro k;induction k with
 |zero=>exact fun g=>⟨fun _ _=>rfl,fun m h1 h2=>by omega⟩
 |succ k ih=>
  intro g;have e:P7 ad j (k+1) g=P7 ad j k (gs g (ad (j+k+1)) (g (ad (j+k+1))+g (ad (j+k)))):=rfl;rw[e];obtain⟨h1,h2⟩:=ih (gs g (ad (j+k+1)) (g (ad (j+k+1))+g (ad (j+k))));constructor
  ·intro a ha;rw[h1 a fun m hm hk=>ha m hm ω,gs,if_neg (ha _ ω ω)]
  ·intro m hm hk;by_cases hq:m=j+k
   ·subst hq;rw[h1 _ fun m hm hk=>by grind];simp[gs]
   ·rw[h2 m hm ω,gs,gs,if_neg γ,if_neg γ]
theorem anO{t:Rat}{v w:G}{j k:Nat}(h:∀m,j<=m->m<=j+k->w (m+1)=v (m+1)+v m):∀ (d m:Nat),j<=m->m+d<=j+k->nw t w d (m+1)=nw t v d (m+1)+nw t v d m:=by
 intro d;induction d with
 |zero=>exact fun m h1 h2=>h m h1 h2
 |succ d ih=>
  grind[nw]
theorem anP{t:Rat}{ad:Nat->Nat}(hi:∀a b,ad a=ad b↔a=b):∀ (k j:Nat) (g:G),(∀a,(∀m,j<=m->m<j+k->a≠ad (m+1))->TJ ad k j g a=g a)/\∀d,d<=k->dc t (fun m=>TJ ad k j g (ad m)) d j=nw t (fun m=>g (ad m)) d j:=by
 intro k;induction k with
 |zero=>
  intro j g;refine⟨fun _ _=>rfl,fun d hd=>?_⟩;have:d=0:=ω
  subst this;rfl
 |succ k ih=>
  intro j g;obtain⟨h1,h2⟩:=anN hi (j:=j) (k+1) g;have e:TJ ad (k+1) j g=TJ ad k (j+1) (P7 ad j (k+1) g):=rfl;rw[e];generalize P7 ad j (k+1) g=g1 at*
  obtain⟨h3,h4⟩:=ih (j+1) g1;refine⟨fun a ha=>by rw[h3 a fun m hm hk=>ha m ω ω,h1 a fun m hm hk=>ha m hm hk],fun d=>?_⟩;induction d with
  |zero=>
   intro _;show TJ ad k (j+1) g1 (ad j)=g (ad j);grind
  |succ d ihd=>
   intro hd;have q3:=anO (t:=t) (v:=fun m=>g (ad m)) (w:=fun m=>g1 (ad m)) (j:=j) (k:=k) (fun m a b=>h2 m a ω) d j (ayZ _) ω;grind[dc,nw]
def P8(lo w:Rat)(n:Nat)(ad:Nat->Nat)(g:G):G:=TI w ad n 1 1 (Nn lo ad n 0 g)
def P9(n:Nat)(ad:Nat->Nat)(g:G):G:=TJ ad n 0 (No n ad n 1 1 g)
theorem anQ{x t lo w:Rat}(hx:x=lo+w*t){ad:Nat->Nat}(hi:∀a b,ad a=ad b↔a=b)(n:Nat)(g:G):(∀a,(∀m,m<=n->a≠ad m)->P8 lo w n ad g a=g a)/\pl x (fun m=>g (ad m)) 0 (n+1)=pl t (fun m=>P8 lo w n ad g (ad m)) 0 (n+1):=by
 obtain⟨a1,a2⟩:=anI hx hi n 0 g;unfold P8;generalize Nn lo ad n 0 g=g1 at*
 obtain⟨b1,b2⟩:=anJ (w:=w) hi n 1 1 g1;generalize TI w ad n 1 1 g1=g2 at*
 rw[a2,anK (w:=w) (t:=t) (v:=fun m=>g1 (ad m)) (z:=fun m=>g2 (ad m)) (n+1) 0 (fun m _ hm=>by
  cases m with
  |zero=>
   grind
  |succ m=>
   grind),Rat.pow_zero]
 grind
theorem anR{t:Rat}{ad:Nat->Nat}(hi:∀a b,ad a=ad b↔a=b)(n:Nat)(g:G):(∀a,(∀m,m<=n->a≠ad m)->P9 n ad g a=g a)/\pl t (fun m=>g (ad m)) 0 (n+1)=dc t (fun m=>P9 n ad g (ad m)) n 0:=by
 obtain⟨c1,c2⟩:=anL (n:=n) hi n 0 1 g ω (by rw[FM];rfl);unfold P9;generalize No n ad n 1 1 g=g3 at*
 obtain⟨d1,d2⟩:=anP (t:=t) hi n 0 g3;rw[d2 n (ayZ _),aqp];have e:=Oq (t:=t) (d:=0) (v:=fun m=>g (ad m)) (w:=fun m=>(iK n m:Rat)*g3 (ad (0+m))) (n+1) 0 (fun m _ hm=>by
  cases m with
  |zero=>
   have q1:=c1 (ad 0) fun m h _=>by grind
   simp_all[azA,FM]
  |succ m=>
   grind)
 grind
def pQ(n:Nat):Rat:=((2^n:Int):Rat)
def eQ(n:Nat):Rat:=1/pQ n
theorem afA(n:Nat):0<pQ n:=by
 have:(0:Int)<2^n:=Int.pow_pos δ;unfold pQ;exact_mod_cast this
theorem Lp(n:Nat):eQ n*pQ n=1:=by
 grind[afA,eQ]
theorem X1(n:Nat):0<eQ n:=by
 have h:=Lp n;refine Rat.not_le.1 fun hn=>?_;have:=azT hn (Rat.le_of_lt (afA n));grind
def EQ:Rat:=eQ 16384
theorem H7:0<EQ:=X1 _
def qv(d:Rd):Rat:=(zI d:Rat)*EQ
theorem H8{a b:Int}(h:a<=b):(a:Rat)<=b:=by exact_mod_cast h
theorem D4{a b:Rd}:qv a<=qv b↔zI a<=zI b:=by
 unfold qv;constructor
 ·intro h;refine Int.not_lt.1 fun hc=>?_;have h1:(zI b:Rat)<zI a:=by exact_mod_cast hc
  have:=Rat.mul_lt_mul_of_pos_right h1 H7;grind
 grind[azT,H8,Rat.le_of_lt,H7]
theorem Lq:qv aG=0:=by
 unfold qv;rw[cZ rfl];grind
theorem H9{d:Rd}(h:vd d=true):qv (go d)=-qv d/\vd (go d)=true:=by
 obtain⟨a,b⟩:=zF h;unfold qv;rw[a,Rat.intCast_neg];grind
def In(q:Rat)(x:Ri):Prop:=x=ed\/x.all=false/\VI x/\qv x.lo<=q/\q<=qv x.hi
theorem In.vi{q:Rat}{x:Ri}(h:In q x):VI x:=by
 rcases h with rfl|h
 ·exact R1
 grind
theorem In.ok{q:Rat}{x:Ri}(h:In q x):OkI x:=⟨h.vi.1.2,h.vi.2.2⟩
theorem In.k{q:Rat}{x:Ri}(h:In q x):x=ed/\kI x=false\/kI x=true/\qv x.lo<=q/\q<=qv x.hi:=by
 rcases h with rfl| ⟨h1,h2,h3,h4⟩
 ·exact Or.inl ⟨rfl,rfl⟩
 ·exact Or.inr ⟨aqd h2.1.1 h2.2.1 (D4.1 (Rat.le_trans h3 h4)) h1,h3,h4⟩
theorem In.v{q:Rat}{x:Ri}(h:In q x):Ab.vi x=true:=by
 rcases h.k with⟨rfl,_⟩| ⟨h,_⟩
 ·rfl
 ·unfold kI at h;grind
theorem U3{q:Rat}{r s:Rd×Int}(vr:vd r.1=true/\Ok0 r.1)(vs:vd s.1=true/\Ok0 s.1)(h1:r.2=0->qv r.1<=q)(h2:s.2=0->q<=qv s.1):In q (uX r s):=by
 unfold uX;split
 ·next h=>exact Or.inr ⟨rfl,⟨vr,vs⟩,h1 h.1,h2 h.2⟩
 ·exact Or.inl rfl
theorem xe{d:Rd}(h:vd d=true)(ok:Ok0 d):In (qv d) ⟨d,d,false⟩:=Or.inr ⟨rfl,⟨⟨h,ok⟩,⟨h,ok⟩⟩,Rat.le_refl,Rat.le_refl⟩
theorem A7{p:Int}(hp:bO p=true):8<=p/\p<=512:=by
 simp_all[bO,ay1,decide_eq_true_eq]
theorem Ia{a b:Rd}{p:Int}(ha:vd a=true)(hb:vd b=true)(hp:bO p=true):aY p [a,b]=0:=by
 grind[A7,aY]
theorem X3{a b:Rd}{p:Int}{up:Bool}(ha:vd a=true)(hb:vd b=true)(hp:bO p=true)(h:(di a b p up).2=0):(up=true->qv a+qv b<=qv (di a b p up).1)/\(up=false->qv (di a b p up).1<=qv a+qv b):=by
 unfold di at h⊢;rw[if_pos (Ia ha hb hp)]at h⊢;have hh:(up=true->zI a+zI b<=zI (jV (zI a+zI b) (-16384) p up).1*2^0)/\(up=false->zI (jV (zI a+zI b) (-16384) p up).1*2^0<=zI a+zI b):=Mi (j:=0) (A7 hp) h;obtain⟨h1,h2⟩:=hh;simp only[Int.pow_zero,Int.mul_one]at h1 h2;have e:qv a+qv b=((zI a+zI b:Int):Rat)*EQ:=by unfold qv;grind
 rw[e];exact⟨fun hu=>azT (H8 (h1 hu)) (Rat.le_of_lt H7),fun hu=>azT (H8 (h2 hu)) (Rat.le_of_lt H7)⟩
theorem Qa{z r:Int}(n:Nat):(z<=r*2^n->(z:Rat)*eQ n*eQ n<=r*eQ n)/\(r*2^n<=z->(r:Rat)*eQ n<=z*eQ n*eQ n):=by
 have e:(r:Rat)*eQ n=((r*2^n:Int):Rat)*eQ n*eQ n:=by
  rw[Rat.intCast_mul,show(((2:Int)^n:Int):Rat)=pQ n from rfl];grind[Lp]
 rw[e];have h0:=Rat.le_of_lt (X1 n);exact⟨fun h=>azT (azT (H8 h) h0) h0,fun h=>azT (azT (H8 h) h0) h0⟩
theorem Qb{a b:Rd}{p:Int}{up:Bool}(ha:vd a=true)(hb:vd b=true)(hp:bO p=true)(h:(fS a b p up).2=0):(up=true->qv a*qv b<=qv (fS a b p up).1)/\(up=false->qv (fS a b p up).1<=qv a*qv b):=by
 unfold fS at h⊢;rw[if_pos (Ia ha hb hp)]at h⊢;obtain⟨h1,h2⟩:=Mi (j:=16384) (A7 hp) h;have e:qv a*qv b=((zI a*zI b:Int):Rat)*EQ*EQ:=by unfold qv;grind
 rw[e];exact⟨fun hu=>(Qa _).1 (h1 hu),fun hu=>(Qa _).2 (h2 hu)⟩
theorem Ib{x y:Ri}{a b:Rat}{p:Int}(hx:In a x)(hy:In b y):In (a+b) (gJ x y p):=by
 unfold gJ;split
 ·next h=>
  simp only[ay1]at h;obtain⟨⟨kx,ky⟩,hp⟩:=h;rcases hx.k with⟨rfl,h⟩| ⟨_,x1,x2⟩
  ·grind
  rcases hy.k with⟨rfl,h⟩| ⟨_,y1,y2⟩
  ·grind
  have ok:∀ {a b:Rd} {up:Bool},vd (di a b p up).1=true/\Ok0 (di a b p up).1:=fun{a b up}=>by
   grind[di,ub,aV]
  refine U3 ok ok (fun h=>?_) (fun h=>?_)
  ·have:=(X3 hx.vi.1.1 hy.vi.1.1 hp h).2 rfl;grind
  ·have:=(X3 hx.vi.2.1 hy.vi.2.1 hp h).1 rfl;grind
 ·exact Or.inl rfl
theorem akZ{x:Ri}{a:Rat}(hx:In a x):In (-a) (FL x):=by
 unfold FL;split
 ·next h=>
  rcases hx.k with⟨rfl,h1⟩| ⟨_,x1,x2⟩
  ·grind
  have n1:=H9 hx.vi.1.1;have n2:=H9 hx.vi.2.1;exact Or.inr ⟨rfl,⟨⟨n2.2,zD hx.ok.hi⟩,⟨n1.2,zD hx.ok.lo⟩⟩,by grind,by grind⟩
 ·exact Or.inl rfl
theorem ak0{x y:Ri}{a b:Rat}{p:Int}(hx:In a x)(hy:In b y):In (a-b) (Hl x y p):=by
 have:=Ib (p:=p) hx (akZ hy);rw[show a+-b=a-b by grind]at this;exact this
theorem Lr{a b:Rd}(ha:vd a=true)(hb:vd b=true):(fg a b<0->qv a<=qv b)/\(¬fg a b<0->qv b<=qv a)/\(0<fg a b->qv b<=qv a)/\(¬0<fg a b->qv a<=qv b)/\(fg a b<=0↔qv a<=qv b)/\(0<=fg a b↔qv b<=qv a):=by
 unfold fg;grind[D4,eJ]
theorem Sn{a b:Rd}(ha:vd a=true/\Ok0 a)(hb:vd b=true/\Ok0 b):qv (lu a b)<=qv a/\qv (lu a b)<=qv b/\vd (lu a b)=true/\Ok0 (lu a b)/\(∀q,q<=qv a->q<=qv b->q<=qv (lu a b)):=by
 obtain⟨c1,c2,c3,c4,c5,c6⟩:=Lr ha.1 hb.1;grind[lu,Rat.le_refl]
theorem So{a b:Rd}(ha:vd a=true/\Ok0 a)(hb:vd b=true/\Ok0 b):qv a<=qv (lw a b)/\qv b<=qv (lw a b)/\vd (lw a b)=true/\Ok0 (lw a b)/\(∀q,qv a<=q->qv b<=q->qv (lw a b)<=q):=by
 obtain⟨c1,c2,c3,c4,c5,c6⟩:=Lr ha.1 hb.1;grind[lw,Rat.le_refl]
theorem Jj{x y:Ri}{a b:Rat}(hx:In a x)(hy:In b y):(In a (Mk x y)/\In b (Mk x y)):=by
 unfold Mk;split
 ·next h=>
  rcases hx.k with⟨rfl,h1⟩| ⟨_,x1,x2⟩
  ·grind
  rcases hy.k with⟨rfl,h1⟩| ⟨_,y1,y2⟩
  ·grind
  obtain⟨l1,l2,l3,l4,l5⟩:=Sn hx.vi.1 hy.vi.1;obtain⟨m1,m2,m3,m4,m5⟩:=So hx.vi.2 hy.vi.2;exact⟨Or.inr ⟨rfl,⟨⟨l3,l4⟩,⟨m3,m4⟩⟩,by grind,by grind⟩,Or.inr ⟨rfl,⟨⟨l3,l4⟩,⟨m3,m4⟩⟩,by grind,by grind⟩⟩
 ·exact⟨Or.inl rfl,Or.inl rfl⟩
theorem Ot{x y:Ri}{q:Rat}(hx:In q x)(hy:In q y):(u9 x y).2=true/\In q (u9 x y).1:=by
 unfold u9;rw[if_pos (by rw[hx.v,hy.v];rfl)];rcases hx with rfl| ⟨ha,hv,h1,h2⟩
 ·rw[if_pos (show ed.all=true from rfl)];grind
 ·rw[if_neg γ];rcases hy with rfl| ⟨hb,hw,h3,h4⟩
  ·exact⟨rfl,Or.inr ⟨ha,hv,h1,h2⟩⟩
  ·rw[if_neg γ];obtain⟨l1,l2,l3,l4,l5⟩:=Sn hv.2 hw.2;obtain⟨m1,m2,m3,m4,m5⟩:=So hv.1 hw.1;have a:=l5 q h2 h4;have b:=m5 q h1 h3;rw[if_pos ((Lr m3 l3).2.2.2.2.1.2 (Rat.le_trans b a))];exact⟨rfl,Or.inr ⟨rfl,⟨⟨m3,m4⟩,⟨l3,l4⟩⟩,b,a⟩⟩
theorem aaL{dn up:Rd->Rd->Rd×Int}{pr:Nat->Rd×Rd}(okd:∀a b,vd (dn a b).1=true/\Ok0 (dn a b).1)(oku:∀a b,vd (up a b).1=true/\Ok0 (up a b).1){v:Nat->Rat}
  (hd:∀i,i<4->(dn (pr i).1 (pr i).2).2=0->qv (dn (pr i).1 (pr i).2).1<=v i) (hu:∀i,i<4->(up (pr i).1 (pr i).2).2=0->v i<=qv (up (pr i).1 (pr i).2).1) {q:Rat} (hq:∀lo hi:Rat,(∀i,i<4->lo<=v i/\v i<=hi)->lo<=q/\q<=hi):In q (JY (re dn up pr)):=by
 have key:∀ (k i:Nat) (o:Rd×Rd),i+k=4->(vd o.1=true/\Ok0 o.1)->(vd o.2=true/\Ok0 o.2)->(∀j,j<i->qv o.1<=v j/\v j<=qv o.2)->In q (JY (w9 dn up pr k i o)):=by
  intro k;induction k with
  |zero=>
   intro i o hi v1 v2 h;have:=hq _ _ fun j hj=>h j ω;exact Or.inr ⟨rfl,⟨v1,v2⟩,this.1,this.2⟩
  |succ k ih=>
   intro i o hi v1 v2 h;unfold w9;split
   ·next he=>
    have od:=okd (pr i).1 (pr i).2;have ou:=oku (pr i).1 (pr i).2;obtain⟨c1,c2,_,_⟩:=Lr od.1 v1.1;obtain⟨_,_,c3,c4,_⟩:=Lr ou.1 v2.1;grind
   ·exact Or.inl rfl
 unfold re;split
 ·grind
 ·exact Or.inl rfl
theorem ak1{xl xh x y lo hi:Rat}(h1:xl<=x)(h2:x<=xh)(a:lo<=xl*y/\xl*y<=hi)(b:lo<=xh*y/\xh*y<=hi):lo<=x*y/\x*y<=hi:=by
 by_cases h:0<=y
 ·have:=azT h1 h;have:=azT h2 h;grind
 ·have h:0≤-y:=γ
  have:=azT h1 h;have:=azT h2 h;grind
theorem aaM{xl xh x yl yh y lo hi:Rat}(h1:xl<=x)(h2:x<=xh)(h3:yl<=y)(h4:y<=yh)(a:lo<=xl*yl/\xl*yl<=hi)(b:lo<=xl*yh/\xl*yh<=hi)(c:lo<=xh*yl/\xh*yl<=hi)(d:lo<=xh*yh/\xh*yh<=hi):lo<=x*y/\x*y<=hi:=by
 grind[Rat.mul_comm,ak1]
theorem Ch{x y:Ri}{a b:Rat}{p:Int}(hx:In a x)(hy:In b y):In (a*b) (gX x y p):=by
 unfold gX;split
 ·next h=>
  simp only[ay1]at h;obtain⟨⟨kx,ky⟩,hp⟩:=h;rcases hx.k with⟨rfl,h⟩| ⟨_,x1,x2⟩
  ·grind
  rcases hy.k with⟨rfl,h⟩| ⟨_,y1,y2⟩
  ·grind
  have ok:∀ (up:Bool) (a b:Rd),vd (fS a b p up).1=true/\Ok0 (fS a b p up).1:=fun up a b=>by
   grind[fS,ub,aV]
  have hv:∀i,vd (gL x y i).1=true/\vd (gL x y i).2=true:=fun i=>by
   unfold gL;split
   ·exact⟨hx.vi.1.1,hy.vi.1.1⟩
   ·exact⟨hx.vi.1.1,hy.vi.2.1⟩
   ·exact⟨hx.vi.2.1,hy.vi.1.1⟩
   ·exact⟨hx.vi.2.1,hy.vi.2.1⟩
  refine aaL (v:=fun i=>qv (gL x y i).1*qv (gL x y i).2) (ok false) (ok true) (fun i _ h=>(Qb (hv i).1 (hv i).2 hp h).2 rfl) (fun i _ h=>(Qb (hv i).1 (hv i).2 hp h).1 rfl) fun lo hi h=>?_;exact aaM x1 x2 y1 y2 (h 0 δ) (h 1 δ) (h 2 δ) (h 3 δ)
 ·exact Or.inl rfl
abbrev LF:=G->Rat
def zK(W v:G):Nat->Rat
 |0=>0
 |d+1=>zK W v d+W d*v d
def qM(d:Nat)(L:LF):Prop:=∃W,∀v,L v=zK W v d
theorem afB{W v w:G}:∀d:Nat,(∀j,j<d->v j=w j)->zK W v d=zK W w d
 |0,_=>rfl
 |d+1,h=>by simp only[zK];rw[afB d fun j hj=>h j ω,h d ω]
theorem aaN{W v w:G}{a b:Rat}:∀d:Nat,zK W (fun j=>a*v j+b*w j) d=a*zK W v d+b*zK W w d
 |0=>by grind[zK]
 |d+1=>by simp only[zK];rw[aaN d];grind
theorem ajq{U W v:G}{a b:Rat}:∀d:Nat,zK (fun j=>a*U j+b*W j) v d=a*zK U v d+b*zK W v d
 |0=>by grind[zK]
 |d+1=>by simp only[zK];rw[ajq d];grind
theorem qM.cg{d:Nat}{L:LF}(h:qM d L){v w:G}(e:∀j,j<d->v j=w j):L v=L w:=by
 obtain⟨W,h⟩:=h;rw[h,h,afB d e]
theorem qM.lin{d:Nat}{L:LF}(h:qM d L){v w:G}{a b:Rat}:L (fun j=>a*v j+b*w j)=a*L v+b*L w:=by
 obtain⟨W,h⟩:=h;rw[h,h,h,aaN d]
theorem qM.zero{d:Nat}{L:LF}(h:qM d L):L (fun _=>0)=0:=by
 have:=h.lin (v:=fun _=>0) (w:=fun _=>0) (a:=0) (b:=0);grind
theorem qM.swap{d c:Nat}{L P:LF}(h:qM d L)(hP:qM c P)(f:Nat->Nat->Rat):P (fun j=>L (fun r=>f r j))=L (fun r=>P (fun j=>f r j)):=by
 obtain⟨W,hP⟩:=hP;simp only[hP];clear hP;induction c with
 |zero=>exact h.zero.symm
 |succ c ih=>
  simp only[zK];have:=h.lin (v:=fun r=>zK W (fun j=>f r j) c) (w:=fun r=>f r c) (a:=1) (b:=W c);grind
theorem afC{d i:Nat}(h:i<d):qM d fun v=>v i:=by
 refine⟨fun j=>if j=i then 1 else 0,fun v=>?_⟩;have:∀c,zK (fun j=>if j=i then 1 else 0) v c=if i<c then v i else 0:=by
  intro c;induction c with
  |zero=>rfl
  |succ c ih=>
   simp only[zK,ih];grind
 grind
theorem qM.comb{d:Nat}{L M:LF}(h:qM d L)(h':qM d M)(a b:Rat):qM d fun v=>a*L v+b*M v:=by
 obtain⟨W,h⟩:=h;obtain⟨U,h'⟩:=h';exact⟨fun j=>a*W j+b*U j,fun v=>by
  show a*L v+b*M v=_;rw[ajq,h,h']⟩
theorem aiu{d:Nat}:qM d fun _=>0:=⟨fun _=>0,fun v=>by
 induction d with
 |zero=>rfl
 |succ d ih=>grind[zK]⟩
theorem Ls{x:Rat}{d:Nat}:∀c i:Nat,i+c<=d->qM d fun v=>pl x v i c
 |0,_,_=>aiu
 |c+1,i,h=>by
  have:=(afC (d:=d) (i:=i) ω).comb (Ls (x:=x) c (i+1) ω) 1 x;simp only[Rat.one_mul]at this;exact this
theorem Qc{t:Rat}{d:Nat}:∀n i:Nat,i+n<d->qM d fun v=>dc t v n i
 |0,i,h=>afC h
 |n+1,i,h=>(Qc (t:=t) n i ω).comb (Qc n (i+1) ω) (1-t) t
theorem X4{t lo hi:Rat}(h0:0<=t)(h1:t<=1){v:G}:∀n i:Nat,(∀j,i<=j->j<=i+n->lo<=v j/\v j<=hi)->lo<=dc t v n i/\dc t v n i<=hi
 |0,i,h=>h i (ayZ _) (ayZ _)
 |n+1,i,h=>by
  have a:=X4 h0 h1 n i fun j a b=>h j a ω;have b:=X4 h0 h1 n (i+1) fun j a b=>h j ω ω;have h2:0<=1-t:=γ
  simp only[dc];have q1:=Rat.mul_le_mul_of_nonneg_left a.1 h2;have q2:=Rat.mul_le_mul_of_nonneg_left a.2 h2;have q3:=Rat.mul_le_mul_of_nonneg_left b.1 h0;have q4:=Rat.mul_le_mul_of_nonneg_left b.2 h0;grind
def iU:List (Nat×LF)->Nat->Nat->G->Rat
 |[],_,i,g=>g i
 |p::ls,s,i,g=>p.2 fun j=>iU ls (s*(p.1+1)) (i+j*s) g
def Bn:List (Nat×LF)->Nat->Nat
 |[],s=>s
 |p::ls,s=>Bn ls (s*(p.1+1))
def Qd(ls:List (Nat×LF)):Prop:=∀p∈ls,qM (p.1+1) p.2
theorem afD{g1 g2:G}:∀ (ls:List (Nat×LF)),Qd ls->∀s i:Nat,(∀q,q*s+s<=Bn ls s->g1 (i+q*s)=g2 (i+q*s))->iU ls s i g1=iU ls s i g2
 |[],_,s,i,h=>by
  have:=h 0 (by grind[Bn]);grind[iU]
 |p::ls,ok,s,i,h=>by
  refine(ok p σ).cg fun j hj=>afD ls (fun q hq=>ok q γ) _ _ fun q hq=>?_;have e:i+j*s+q*(s*(p.1+1))=i+(j+q*(p.1+1))*s:=γ
  rw[e];refine h _ (ay3 ?_ hq);have:(j+1)*s<=(p.1+1)*s:=ay7 _ hj;grind
theorem Ou{c:Nat}{P:LF}(hP:qM c P){g:G}(a:Nat->Nat):∀ (ls:List (Nat×LF)),Qd ls->∀s i:Nat,P (fun j=>iU ls s (i+a j) g)=iU ls s i fun i'=>P fun j=>g (i'+a j)
 |[],_,_,_=>rfl
 |p::ls,ok,s,i=>by
  show P (fun j=>p.2 fun r=>iU ls (s*(p.1+1)) (i+a j+r*s) g)=p.2 fun r=>iU ls (s*(p.1+1)) (i+r*s) _;rw[(ok p σ).swap hP];refine congrArg p.2 (funext fun r=>?_);rw[←Ou hP a ls (fun q hq=>ok q γ)];grind
theorem X5{d:Nat}{P B:LF}(hP:qM (d+1) P)(hB:qM (d+1) B){post:List (Nat×LF)}(op:Qd post){g g':G}:∀ (pre:List (Nat×LF)),Qd pre->∀s i:Nat,i<s->
  (∀i0 q,i0<Bn pre s->q*(Bn pre s*(d+1))+Bn pre s*(d+1)<=Bn post (Bn pre s*(d+1))->P (fun j=>g (i0+q*(Bn pre s*(d+1))+j*Bn pre s))=B (fun j=>g' (i0+q*(Bn pre s*(d+1))+j*Bn pre s)))->
  iU (pre++(d,P)::post) s i g=iU (pre++(d,B)::post) s i g'
 |[],_,s,i,hi,h=>by
  show P (fun j=>iU post (s*(d+1)) (i+j*s) g)=B (fun j=>iU post (s*(d+1)) (i+j*s) g');rw[Ou hP _ post op,Ou hB _ post op];exact afD post op _ _ fun q hq=>h i q hi hq
 |p::pre,ok,s,i,hi,h=>by
  refine(ok p σ).cg fun j hj=>X5 hP hB op pre (fun q hq=>ok q (by simp[hq])) _ _ ?_ h;have:j*s<=p.1*s:=ay7 _ ω;grind
theorem aaO{lo hi:Rat}{g:G}:∀ (ls:List (Nat×LF)),(∀p∈ls,∀v:G,(∀j,j<=p.1->lo<=v j/\v j<=hi)->lo<=p.2 v/\p.2 v<=hi)->∀s i:Nat,(∀q,q*s+s<=Bn ls s->lo<=g (i+q*s)/\g (i+q*s)<=hi)->lo<=iU ls s i g/\iU ls s i g<=hi
 |[],_,s,i,h=>by
  have:=h 0 (by grind[Bn]);grind[iU]
 |p::ls,ok,s,i,h=>by
  refine ok p σ _ fun j hj=>aaO ls (fun q hq=>ok q γ) _ _ fun q hq=>?_;have e:i+j*s+q*(s*(p.1+1))=i+(j+q*(p.1+1))*s:=γ
  rw[e];refine h _ (ay3 ?_ hq);have:j*s<=p.1*s:=ay7 _ hj;grind
def ps(op:Nat->G->G)(s n:Nat):Nat->Nat->G->G
 |0,_,g=>g
 |k+1,i,g=>ps op s n k (i+1) (if i/s% (n+1)=0 then op i g else g)
theorem ak2{s n f f' m m':Nat}(hs:0<s)(h1:f/s% (n+1)=0)(h2:f'/s% (n+1)=0)(hm:m<=n)(hm':m'<=n)(e:f+m*s=f'+m'*s):f=f':=by
 have h3:(f+m*s)/s% (n+1)=m:=by
  rw[Nat.add_mul_div_right _ _ hs,Nat.add_mod,h1,ayX,Nat.mod_mod,azL ω]
 have h4:(f'+m'*s)/s% (n+1)=m':=by
  rw[Nat.add_mul_div_right _ _ hs,Nat.add_mod,h2,ayX,Nat.mod_mod,azL ω]
 grind
theorem aqq{L L':LF}{s n:Nat}(hs:0<s)(cL:qM (n+1) L)(cL':qM (n+1) L'){op:Nat->G->G}(hop:∀f g,(∀a,(∀m,m<=n->a≠f+m*s)->op f g a=g a)/\L (fun m=>g (f+m*s))=L' (fun m=>op f g (f+m*s))):
  ∀ (k i:Nat) (g:G),(∀f m,f<i->f/s% (n+1)=0->m<=n->ps op s n k i g (f+m*s)=g (f+m*s))/\∀f,i<=f->f<i+k->f/s% (n+1)=0->L (fun m=>g (f+m*s))=L' (fun m=>ps op s n k i g (f+m*s)):=by
 intro k;induction k with
 |zero=>exact fun i g=>⟨fun _ _ _ _ _=>rfl,fun f h1 h2=>by omega⟩
 |succ k ih=>
  intro i g;have e:ps op s n (k+1) i g=ps op s n k (i+1) (if i/s% (n+1)=0 then op i g else g):=rfl;rw[e];have hg:∀f m,f≠i->f/s% (n+1)=0->m<=n->(if i/s% (n+1)=0 then op i g else g) (f+m*s)=g (f+m*s):=fun f m hf h0 hm=>by
   grind[ak2]
  have hi:i/s% (n+1)=0->L (fun m=>g (i+m*s))=L' (fun m=>(if i/s% (n+1)=0 then op i g else g) (i+m*s)):=fun h=>by
   simp_all
  generalize(if i/s% (n+1)=0 then op i g else g)=g1 at*
  obtain⟨a,b⟩:=ih (i+1) g1;refine⟨fun f m hf h0 hm=>by rw[a f m ω h0 hm,hg f m ω h0 hm],fun f h1 h2 h0=>?_⟩;by_cases hq:f=i
  ·subst hq;rw[hi h0];exact cL'.cg fun m hm=>(a f m ω h0 ω).symm
  ·rw[←b f ω ω h0];exact cL.cg fun m hm=>(hg f m hq h0 ω).symm
def dl(a:Nat):G:=fun b=>if b=a then 1 else 0
theorem Sp{a c:Rat}{g h:G}:∀ (ls:List (Nat×LF)),Qd ls->∀s i:Nat,iU ls s i (fun b=>a*g b+c*h b)=a*iU ls s i g+c*iU ls s i h
 |[],_,_,_=>rfl
 |p::ls,ok,s,i=>by
  show p.2 (fun j=>iU ls _ (i+j*s) _)=a*p.2 _+c*p.2 _;rw[← (ok p σ).lin];refine congrArg p.2 (funext fun j=>?_);exact Sp ls (fun q hq=>ok q γ) _ _
theorem anS{ls:List (Nat×LF)}(ok:Qd ls){s i a:Nat}{g:G}{y:Rat}:iU ls s i (gs g a y)=iU ls s i g+(y-g a)*iU ls s i (dl a):=by
 have:gs g a y=fun b=>1*g b+(y-g a)*dl a b:=by
  grind[gs,dl]
 rw[this,Sp ls ok];grind
def qH:List Nat->List Rat->List (Nat×LF)
 |d::ds,x::xs=>(d,fun v=>pl x v 0 (d+1))::qH ds xs
 |_,_=>[]
theorem Mm:∀ (ds:List Nat) (xs:List Rat),Qd (qH ds xs)
 |d::ds,x::xs=>fun p hp=>by
  rcases List.mem_cons.1 hp with rfl|hp
  ·simp_all[Ls]
  ·exact Mm ds xs p hp
 |[],_=>fun _ h=>by grind[qH]
 |_::_,[]=>fun _ h=>by grind[qH]
def Np:List Rat->List Nat->Rat
 |x::xs,e::es=>x^e*Np xs es
 |_,_=>1
def pos:List Nat->List Nat->Nat->Nat
 |d::ds,e::es,s=>e*s+pos ds es (s*(d+1))
 |_,_,_=>0
def Qe:List Nat->List Nat->Prop
 |d::ds,e::es=>e<=d/\Qe ds es
 |[],[]=>True
 |_,_=>False
theorem ajr{x y:Rat}{e:Nat}:∀c i:Nat,(e<i->pl x (fun j=>if j=e then y else 0) i c=0)/\(i<=e->e<i+c->pl x (fun j=>if j=e then y else 0) i c=x^ (e-i)*y)
 |0,i=>⟨fun _=>rfl,fun h1 h2=>by omega⟩
 |c+1,i=>by
  obtain⟨a,b⟩:=ajr (x:=x) (y:=y) (e:=e) c (i+1);simp only[pl];constructor
  ·grind
  ·intro h1 h2;by_cases h:i=e
   ·subst h;grind
   ·rw[if_neg h,b ω ω,show e-i=e- (i+1)+1 by omega,Rat.pow_succ];grind
theorem ajs{s i i0 j e:Nat}(h1:i<s)(h2:i0<s):i+j*s=i0+e*s↔i=i0/\j=e:=by
 constructor
 ·intro h;have a:(i+j*s) %s=i:=by rw[Nat.add_mul_mod_self_right,azL h1]
  have b:(i0+e*s) %s=i0:=by rw[Nat.add_mul_mod_self_right,azL h2]
  have c:i=i0:=γ
  subst c;exact⟨rfl,Nat.eq_of_mul_eq_mul_right ω (Nat.add_left_cancel h)⟩
 grind
theorem FN{s i j d:Nat}(h:i<s)(hj:j<=d):i+j*s<s*(d+1):=by
 have:j*s<=d*s:=ay7 _ hj;grind
theorem aaP:∀ (ds es:List Nat) (xs:List Rat),Qe ds es->xs.length=ds.length->∀s i i0:Nat,i<s->i0<s->iU (qH ds xs) s i (dl (i0+pos ds es s))=if i=i0 then Np xs es else 0
 |[],[],xs,_,hx,s,i,i0,_,_=>by
  have:xs=[]:=List.length_eq_zero_iff.1 hx;subst this;rfl
 |d::ds,e::es,x::xs,h,hx,s,i,i0,h1,h2=>by
  show pl x (fun j=>iU (qH ds xs) (s*(d+1)) (i+j*s) (dl (i0+(e*s+pos ds es (s*(d+1)))))) 0 (d+1)=_;have hc:=(Ls (x:=x) (d:=d+1) (d+1) 0 σ).cg (v:=fun j=>iU (qH ds xs) (s*(d+1)) (i+j*s) (dl (i0+(e*s+pos ds es (s*(d+1)))))) (w:=fun j=>if j=e then(if i=i0 then Np xs es else 0)else 0) (fun j hj=>by
   rw[←az0,aaP ds es xs h.2 γ (s*(d+1)) _ _ (FN h1 ω) (FN h2 h.1)];grind[ajs])
  rw[hc,(ajr (d+1) 0).2 ω (by have:=h.1;omega)];by_cases ha:i=i0
  ·rw[if_pos ha,if_pos ha];rfl
  grind
 |[],_::_,_,h,_,_,_,_,_,_=>h.elim
 |_::_,[],_,h,_,_,_,_,_,_=>h.elim
 |_::_,_::_,[],_,hx,_,_,_,_,_=>by grind
theorem afE:∀ (ds es:List Nat) (xs:List Rat),Qe ds es->xs.length=ds.length->∀s i0:Nat,i0<s->i0+pos ds es s<Bn (qH ds xs) s
 |[],[],xs,_,hx,s,i0,h2=>by
  exact h2
 |d::ds,e::es,x::xs,h,hx,s,i0,h2=>by
  show i0+(e*s+pos ds es (s*(d+1)))<Bn (qH ds xs) (s*(d+1));rw[←az0];exact afE ds es xs h.2 γ _ _ (FN h2 h.1)
 |[],_::_,_,h,_,_,_,_=>h.elim
 |_::_,[],_,h,_,_,_,_=>h.elim
 |_::_,_::_,[],_,hx,_,_,_=>by grind
theorem aaQ:∀ (ds es es':List Nat),Qe ds es->Qe ds es'->∀s i i0:Nat,i<s->i0<s->i+pos ds es s=i0+pos ds es' s->i=i0/\es=es'
 |[],[],[],_,_,_,_,_,_,_,h=>⟨h,rfl⟩
 |d::ds,e::es,e'::es',h,h',s,i,i0,h1,h2,hq=>by
  have:i+(e*s+pos ds es (s*(d+1)))=i0+(e'*s+pos ds es' (s*(d+1))):=hq;rw[←az0,←az0]at this;obtain⟨a,b⟩:=aaQ ds es es' h.2 h'.2 _ _ _ (FN h1 h.1) (FN h2 h'.1) this;obtain⟨c,d⟩:=(ajs h1 h2).1 a;exact⟨c,by rw[d,b]⟩
 |[],_::_,_,h,_,_,_,_,_,_,_=>h.elim
 |_::_,[],_,h,_,_,_,_,_,_,_=>h.elim
 |[],[],_::_,_,h,_,_,_,_,_,_=>h.elim
 |_::_,_::_,[],_,h,_,_,_,_,_,_=>h.elim
theorem Sr{y:Rat}(h:0<y):0<y⁻¹:=by
 refine Rat.not_le.1 fun hn=>?_;have:=azT hn (Rat.le_of_lt h);grind
theorem aaR{y z:Rat}(h1:0<y)(h2:y<=z):z⁻¹<=y⁻¹:=by
 have a:=Sr h1;have b:=Sr (show 0<z by grind);have c:=azT (azT h2 (Rat.le_of_lt a)) (Rat.le_of_lt b);rw[show y*y⁻¹*z⁻¹=z⁻¹ by grind,show z*y⁻¹*z⁻¹=y⁻¹ by grind]at c;omega
theorem afF{y z:Rat}(h:0<y/\y<=z\/y<=z/\z<0):z⁻¹<=y⁻¹:=by
 rcases h with⟨h1,h2⟩| ⟨h2,h1⟩
 ·grind[aaR]
 ·have:=aaR (y:=-z) (z:=-y) γ γ;grind
theorem ve{d:Rd}:(d.neg=true->zI d=-(mg d:Int))/\(d.neg=false->zI d=mg d):=by
 simp_all[zI,if_pos]
theorem anT{a b:Rd}{p:Int}{w:Bool}{N:Nat}(hN:N=16384)(oa:Ok0 a)(ob:Ok0 b)(va:vd a=true)(vb:vd b=true)(hp:8<=p/\p<=512)(a0:a.m.length≠0)(b0:b.m.length≠0)
  (h:(cQ (ab a.m*2^uE a b p/ab b.m) (a.e-uE a b p-b.e) (decide (ab a.m*2^uE a b p%ab b.m≠0)) p w).2=0):
  ∃n:Nat,zI (cQ (ab a.m*2^uE a b p/ab b.m) (a.e-uE a b p-b.e) (decide (ab a.m*2^uE a b p%ab b.m≠0)) p w).1=n/\(w=true->mg a*2^N<=n*mg b)/\(w=false->n*mg b<=mg a*2^N):=by
 obtain⟨a1,a2,a3,a4⟩:=dZ va oa.lb;obtain⟨b1,b2,b3,b4⟩:=dZ vb ob.lb;have hA:=dv va a0;have hB:=dv vb b0;have hk:uE a b p=(p+3+ae (ab b.m)-ae (ab a.m)).toNat:=rfl;generalize uE a b p=k at*
 have hm2:=dA k hA;have hbM:p< (ae (ab a.m*2^k/ab b.m):Nat):=by
  have h1:2^ (ae (ab a.m*2^k)-1)<=ab a.m*2^k:=Se ω;have h2:ab b.m<2^ae (ab b.m):=bD.1 (ayZ _);have h3:2^p.toNat*ab b.m<=ab a.m*2^k:=by
   refine ay3 (azR _ (Nat.le_of_lt h2)) (ay3 ?_ h1);rw[←azc];exact azD δ ω
  have h4:2^p.toNat<=ab a.m*2^k/ab b.m:=(Nat.le_div_iff_mul_le (Nat.pos_of_ne_zero hB)).2 h3;have h5:=kf.2 h4;omega
 have hdm:=azV (ab a.m*2^k) (ab b.m);have hml:=azw (ab a.m*2^k) (Nat.pos_of_ne_zero hB);generalize ab a.m*2^k/ab b.m=M at*
 generalize hR:ab a.m*2^k%ab b.m=R at*
 obtain⟨n,n1,n2,n3⟩:=Ji (s:=(a.e+16384).toNat+N) (t:=k+(b.e+16384).toNat) (fun h0=>by grind[sf]) hp ω (fun _=>hbM) h;refine⟨n,n1,fun hw=>?_,fun hw=>?_⟩
 ·have g:=n2 hw;have h1:ab a.m*2^k<=(M+(decide (R≠0)).toNat)*ab b.m:=by
   rw[←hdm,azn,azl M];by_cases h0:R=0
   all_goals grind
  refine Nat.le_of_mul_le_mul_right ?_ (aze k);have h2:=ay7 (2^ ((a.e+16384).toNat+N)) h1;have h3:=ay7 (ab b.m) g;unfold mg;grind
 ·have g:=n3 hw;have h1:M*ab b.m<=ab a.m*2^k:=by
   grind
  refine Nat.le_of_mul_le_mul_right ?_ (aze k);have h2:=ay7 (2^ ((a.e+16384).toNat+N)) h1;have h3:=ay7 (ab b.m) g;unfold mg;grind
theorem TK{A B n:Nat}(k:Nat)(hB:0<B):(A*2^k<=n*B->(A:Rat)*(B:Rat)⁻¹<=n*eQ k)/\(n*B<=A*2^k->(n:Rat)*eQ k<=(A:Rat)*(B:Rat)⁻¹):=by
 have hb:(0:Rat)<B:=by exact_mod_cast hB
 have hi:=Sr hb;have hk:=X1 k;have hm:=Lp k;have e1:((A*2^k:Nat):Rat)=A*pQ k:=by
  simp_all[pQ,Rat.natCast_mul,Rat.natCast_pow,Rat.intCast_pow]
 have e2:((n*B:Nat):Rat)=n*B:=Rat.natCast_mul _ _;have r1:(A:Rat)*(B:Rat)⁻¹=A*pQ k*(eQ k*(B:Rat)⁻¹):=γ
 have r2:(n:Rat)*eQ k=n*B*(eQ k*(B:Rat)⁻¹):=γ
 have hc:0<=eQ k*(B:Rat)⁻¹:=Rat.mul_nonneg (Rat.le_of_lt hk) (Rat.le_of_lt hi);rw[r1,r2,←e1,←e2];exact⟨fun h=>azT (by exact_mod_cast h) hc,fun h=>azT (by exact_mod_cast h) hc⟩
theorem afG{a b:Rd}{p:Int}{up:Bool}(va:vd a=true/\Ok0 a)(vb:vd b=true/\Ok0 b)(hb:qv b≠0)(hp:bO p=true)(h:(qG a b p up).2=0):(up=true->qv a*(qv b)⁻¹<=qv (qG a b p up).1)/\(up=false->qv (qG a b p up).1<=qv a*(qv b)⁻¹):=by
 unfold qG at h⊢;rw[if_pos (Ia va.1 vb.1 hp)]at h⊢;have b0:b.m.length≠0:=fun h0=>hb γ;rw[if_neg b0]at h⊢;by_cases a0:a.m.length=0
 ·rw[if_pos a0,Lq]
  simp_all[qv,cZ]
 rw[if_neg a0]at h⊢;obtain⟨N,hN⟩:∃N:Nat,N=16384:=⟨_,rfl⟩;have hcut:=fun w hw=>anT (w:=w) hN va.2 vb.2 va.1 vb.1 (A7 hp) a0 b0 hw;have hmb:=HX vb.1 b0;have hE:=H7;generalize hc:cQ (ab a.m*2^uE a b p/ab b.m) (a.e-uE a b p-b.e) (decide (ab a.m*2^uE a b p%ab b.m≠0)) p=c at*
 have hvc:∀w,vd (c w).1=true:=fun w=>by rw[←hc];exact Sf
 have hq:qv a*(qv b)⁻¹=if(a.neg !=b.neg)=true then-((mg a:Rat)*(mg b:Rat)⁻¹)else(mg a:Rat)*(mg b:Rat)⁻¹:=by
  unfold qv;have i1:((-(mg a:Int):Int):Rat)=-(mg a:Rat):=by rfl
  have i2:((-(mg b:Int):Int):Rat)=-(mg b:Rat):=by rfl
  have i3:((mg a:Int):Rat)=(mg a:Rat):=rfl;have i4:((mg b:Int):Rat)=(mg b:Rat):=rfl;cases ha:a.neg<;>cases hb:b.neg
  ·rw[ve.2 ha,ve.2 hb,i3,i4,if_neg δ];grind
  ·rw[ve.2 ha,ve.1 hb,i3,i2,if_pos δ];grind
  ·rw[ve.1 ha,ve.2 hb,i1,i4,if_pos δ];grind
  ·rw[ve.1 ha,ve.1 hb,i1,i2,if_neg δ];grind
 rw[hq];generalize(a.neg !=b.neg)=sg at*
 unfold iw at h⊢;cases sg with
 |true=>
  have h2:(c (up !=true)).2=0:=by
   grind
  rw[if_pos (show(c (up !=true)).2=0/\true=true from⟨h2,rfl⟩),if_pos (show true=true from rfl)];obtain⟨n,n1,n2,n3⟩:=hcut _ h2;rw[(H9 (hvc _)).1];have e:qv (c (up !=true)).1=(n:Rat)*eQ N:=by unfold qv;rw[n1,hN];rfl
  grind[TK,mg]
 |false=>
  have hn:¬((c (up !=false)).2=0/\false=true):=fun h1=>ay9 h1.2;rw[if_neg hn]at h;obtain⟨n,n1,n2,n3⟩:=hcut _ h;have e:qv (c (up !=false)).1=(n:Rat)*eQ N:=by unfold qv;rw[n1,hN];rfl
  grind[TK,mg]
theorem Jk{d:Rd}(h:vd d=true):(0<gx d↔0<qv d)/\(gx d<0↔qv d<0):=by
 have hE:=H7;unfold gx;by_cases h0:d.m.length=0
 ·simp_all[qv,cZ,if_pos]
 ·have hm:=HX h h0;have hq:(0:Rat)< (mg d:Rat)*EQ:=Rat.mul_pos (by exact_mod_cast hm) hE;cases hn:d.neg with
  |true=>
   have:qv d=-((mg d:Rat)*EQ):=by unfold qv;rw[ve.1 hn,Rat.intCast_neg,Rat.intCast_natCast];grind
   grind
  |false=>
   have:qv d=(mg d:Rat)*EQ:=by unfold qv;rw[ve.2 hn];rfl
   grind
theorem aaS{x y:Ri}{a b:Rat}{p:Int}(hx:In a x)(hy:In b y):In (a/b) (Sk x y p):=by
 unfold Sk;split
 ·next h=>
  simp only[ay1]at h;obtain⟨⟨kx,ky⟩,hp⟩:=h;rcases hx.k with⟨rfl,h⟩| ⟨_,x1,x2⟩
  ·grind
  rcases hy.k with⟨rfl,h⟩| ⟨_,y1,y2⟩
  ·grind
  split
  ·exact Or.inl rfl
  ·next hs=>
   have hpr:∀i,((gL x y i).1=x.lo\/(gL x y i).1=x.hi)/\((gL x y i).2=y.lo\/(gL x y i).2=y.hi):=fun i=>by
    unfold gL;grind
   have hsg:0<qv y.lo\/qv y.hi<0:=by
    unfold K9 at hs;by_cases g1:0<gx y.lo
    ·exact Or.inl ((Jk hy.vi.1.1).1.1 g1)
    ·by_cases g2:gx y.hi<0
     ·exact Or.inr ((Jk hy.vi.2.1).2.1 g2)
     omega
   have hv:∀i,(vd (gL x y i).1=true/\Ok0 (gL x y i).1)/\(vd (gL x y i).2=true/\Ok0 (gL x y i).2)/\qv (gL x y i).2≠0:=fun i=>by
    obtain⟨h1,h2⟩:=hpr i;refine⟨?_,?_,?_⟩
    ·rcases h1 with h1|h1<;>rw[h1]
     ·exact hx.vi.1
     ·exact hx.vi.2
    ·rcases h2 with h1|h1<;>rw[h1]
     ·exact hy.vi.1
     ·exact hy.vi.2
    grind
   refine aaL (dn:=fun a b=>qG a b p false) (up:=fun a b=>qG a b p true) (v:=fun i=>qv (gL x y i).1*(qv (gL x y i).2)⁻¹) (fun _ _=>Mj) (fun _ _=>Mj) (fun i _ h=>(afG (hv i).1 (hv i).2.1 (hv i).2.2 hp h).2 rfl) (fun i _ h=>(afG (hv i).1 (hv i).2.1 (hv i).2.2 hp h).1 rfl) fun lo hi h=>?_;have i1:(qv y.hi)⁻¹<=b⁻¹:=afF γ;have i2:b⁻¹<=(qv y.lo)⁻¹:=afF γ;exact aaM x1 x2 i1 i2 (h 1 δ) (h 0 δ) (h 3 δ) (h 2 δ)
 ·exact Or.inl rfl
theorem afH{z p:Int}{j:Nat}{up:Bool}(hp:8<=p/\p<=512)(hz:0<=z)(h:(jV z (-16384- (j:Int)) p up).2=0):0<=zI (jV z (-16384- (j:Int)) p up).1:=by
 unfold jV at h⊢;by_cases h0:z=0
 ·rw[if_pos h0,cZ rfl];omega
 ·rw[if_neg h0,decide_eq_false ω]at h⊢;unfold iw at h⊢;rw[if_neg (fun h1=>ay9 h1.2)]at h⊢;obtain⟨n,g1,_⟩:=Ji (s:=0) (t:=j) ω hp ω (fun h=>absurd h ay9) h;omega
theorem adc{d:Rd}:0<=qv d↔0<=zI d:=by
 rw[←Lq,D4,cZ rfl]
theorem anU{d:Rd}{p:Int}{up:Bool}(v:vd d=true)(hp:bO p=true)(h:(cu d p up).2=0):(0<=qv d->0<=qv (cu d p up).1)/\(up=true->qv d<=qv (cu d p up).1)/\(up=false->qv (cu d p up).1<=qv d):=by
 refine⟨fun hd=>?_,?_,?_⟩
 ·rw[adc]at hd⊢;have hp2:=A7 hp;have hf:aY p [d]=0:=by grind[aY]
  unfold cu at h⊢;rw[if_pos hf]at h⊢;exact afH (j:=0) hp2 hd h
 ·rintro rfl
  exact D4.2 (akS v hp h)
 ·rintro rfl
  exact D4.2 (akR v hp h)
theorem ak3{a b:Rd}{p:Int}{up:Bool}(ha:vd a=true)(hb:vd b=true)(hp:bO p=true)(h1:0<=qv a)(h2:0<=qv b)(h:(fS a b p up).2=0):0<=qv (fS a b p up).1:=by
 rw[adc]at*
 unfold fS at h⊢;rw[if_pos (Ia ha hb hp)]at h⊢;exact afH (j:=16384) (A7 hp) (Int.mul_nonneg h1 h2) h
theorem Lt{d:Rd}{p:Int}{up:Bool}:vd (cu d p up).1=true/\Ok0 (cu d p up).1:=by
 grind[cu,ub,aV]
theorem Lu{a b:Rd}{p:Int}{up:Bool}:vd (fS a b p up).1=true/\Ok0 (fS a b p up).1:=by
 grind[fS,ub,aV]
theorem U4{d:Rd}{p:Int}{up:Bool}:∀ (k:Nat) (r:Rd×Int),(vd r.1=true/\Ok0 r.1)->vd (ns d p up k r).1=true/\Ok0 (ns d p up k r).1
 |0,_,h=>h
 |k+1,r,h=>by
  unfold ns;split
  ·exact U4 k _ Lu
  ·exact h
theorem ajt{d:Rd}{p:Int}{up:Bool}(v:vd d=true)(hp:bO p=true)(h0:0<=qv d):∀ (k m:Nat) (r:Rd×Int),vd r.1=true->(r.2=0->0<=qv r.1/\(up=true->qv d^m<=qv r.1)/\(up=false->qv r.1<=qv d^m))->(ns d p up k r).2=0->
  (up=true->qv d^ (m+k)<=qv (ns d p up k r).1)/\(up=false->qv (ns d p up k r).1<=qv d^ (m+k))
 |0,m,r,_,h,he=>(h he).2
 |k+1,m,r,vr,h,he=>by
  unfold ns at he⊢;by_cases hr:r.2=0
  ·rw[if_pos hr]at he⊢;obtain⟨a,b,c⟩:=h hr;rw[show m+(k+1)=m+1+k by omega];refine ajt v hp h0 k (m+1) _ Lu.1 (fun hm=>⟨ak3 vr v hp a h0 hm,fun hu=>?_,fun hu=>?_⟩) he
   ·have h1:=(Qb vr v hp hm).1 hu;have h2:=azT (b hu) h0;grind[Rat.pow_succ,Rat.le_trans]
   grind[Qb,azT,Rat.pow_succ,Rat.le_trans]
  grind
theorem anV{d:Rd}{p:Int}{up:Bool}{n:Nat}(v:vd d=true)(hp:bO p=true)(h0:0<=qv d)(hn:1<=n)(he:(pw d n p up).2=0):(up=true->qv d^n<=qv (pw d n p up).1)/\(up=false->qv (pw d n p up).1<=qv d^n):=by
 have:=ajt v hp h0 (n-1) 1 (cu d p up) Lt.1 (fun h=>by
  grind[anU,qv]) he
 rw[show 1+(n-1)=n by omega]at this;exact this
theorem CF{x:Rat}:∀n:Nat,(-x)^ (2*n+1)=-(x^ (2*n+1))
 |0=>by grind
 |n+1=>by
  have:=CF (x:=x) n;grind
theorem Lv{x:Rat}:∀n:Nat,(-x)^ (2*n)=x^ (2*n)
 |0=>by grind
 |n+1=>by
  have:=Lv (x:=x) n;grind
theorem Qf{x:Rat}(h:0<=x):∀n:Nat,0<=x^n
 |0=>by grind
 |n+1=>by rw[Rat.pow_succ];exact Rat.mul_nonneg (Qf h n) h
theorem Lw{x y:Rat}(h:0<=x)(h1:x<=y):∀n:Nat,x^n<=y^n
 |0=>by grind
 |n+1=>by
  rw[Rat.pow_succ,Rat.pow_succ];have a:=azT (Lw h h1 n) h;have b:=Rat.mul_le_mul_of_nonneg_left h1 (Qf (Rat.le_trans h h1) n);exact Rat.le_trans a b
theorem ade{x y:Rat}(h1:x<=y)(n:Nat):x^ (2*n+1)<=y^ (2*n+1):=by
 by_cases hx:0<=x
 ·grind[Lw]
 ·by_cases hy:0<=y
  ·have a:=Qf (show 0≤-x by grind) (2*n+1);grind[Qf,CF]
  ·have:=Lw (x:=-y) (y:=-x) γ γ (2*n+1);grind[CF]
theorem anW{d:Rd}(v:vd d=true):sS d<0↔qv d<0:=by
 rw[← (Jk v).2];grind[sS,gx]
theorem Qg{d:Rd}{p:Int}{up:Bool}{n:Nat}(v:vd d=true)(hp:bO p=true)(hn:1<=n)(ho:n%2=1\/0<=qv d)(he:(rT d n p up).2=0):(up=true->qv d^n<=qv (rT d n p up).1)/\(up=false->qv (rT d n p up).1<=qv d^n):=by
 unfold rT at he⊢;by_cases hs:sS d<0
 ·rw[if_pos hs]at he⊢;have hq:=(anW v).1 hs;obtain⟨n1,n2⟩:=H9 v;have hodd:n=2*(n/2)+1:=by
   grind
  have hw:=anV n2 hp γ hn he;grind[vd,pw,go,U4,Lt,qv,H9,CF]
 ·rw[if_neg hs]at he⊢;exact anV v hp (Rat.not_lt.1 fun h=>hs ((anW v).2 h)) hn he
theorem afI{d:Rd}(v:vd d=true)(ok:Ok0 d):(vd (s9 d)=true/\Ok0 (s9 d))/\0<=qv (s9 d)/\(qv (s9 d)=qv d\/qv (s9 d)=-qv d):=by
 unfold s9;by_cases h0:d.m.length=0
 ·rw[if_pos (Or.inr h0),Lq]
  simp_all[qv,cZ,aV,Rat.le_refl]
 ·rw[if_neg γ];have hm:mg ⟨false,d.m,d.e⟩=mg d:=rfl;have h1:zI ⟨false,d.m,d.e⟩=mg d:=by rw[ve.2 rfl,hm]
  refine⟨⟨?_,ok.1,ok.2⟩,?_,?_⟩
  ·simp_all[vd,if_neg]
  ·grind[adc]
  ·unfold qv;rw[h1];cases hn:d.neg with
   |true=>
    rw[ve.1 hn,Rat.intCast_neg];grind
   |false=>
    left;rw[ve.2 hn]
theorem ak4{x:Ri}{a b:Rat}(hx:In a x)(hb:0<=b)(hab:b=a\/b=-a):In b (wj x)/\(kI x=true->0<=qv (wj x).lo/\(wj x).all=false):=by
 unfold wj;by_cases h:kI x=true
 ·rw[if_pos h];rcases hx.k with⟨rfl,h1⟩| ⟨_,x1,x2⟩
  ·grind
  obtain⟨l1,l2,l3⟩:=afI hx.vi.1.1 hx.vi.1.2;obtain⟨h1,h2,h3⟩:=afI hx.vi.2.1 hx.vi.2.2;obtain⟨m1,m2,m3,m4,m5⟩:=So l1 h1;obtain⟨n1,n2,n3,n4,n5⟩:=Sn l1 h1;have hmag:b<=qv (I8 x):=by
   grind[I8]
  have hmig:(vd (B7 x)=true/\Ok0 (B7 x))/\0<=qv (B7 x)/\qv (B7 x)<=b:=by
   unfold B7;split
   ·grind[Lq,aV,Rat.le_refl]
   ·next hs=>
    have hsg:0<qv x.lo\/qv x.hi<0:=by
     unfold K9 at hs;by_cases g1:0<gx x.lo
     ·exact Or.inl ((Jk hx.vi.1.1).1.1 g1)
     ·by_cases g2:gx x.hi<0
      ·exact Or.inr ((Jk hx.vi.2.1).2.1 g2)
      omega
    grind
  exact⟨Or.inr ⟨rfl,⟨hmig.1,⟨m3,m4⟩⟩,hmig.2.2,hmag⟩,fun _=>⟨hmig.2.1,rfl⟩⟩
 ·rw[if_neg h];exact⟨Or.inl rfl,fun hk=>absurd hk h⟩
theorem X6:qv one=1:=by
 obtain⟨N,hN⟩:∃N:Nat,N=16384:=⟨_,rfl⟩;have hm:mg one=2^N:=by
  unfold mg;rw[show(one.e+16384).toNat=N by rw[hN];rfl];exact Nat.one_mul _
 unfold qv EQ;rw[ve.2 rfl,hm,←hN,show(((2^N:Nat):Int):Rat)=pQ N by grind[pQ,Int.natCast_pow]];grind[Lp]
theorem Qh{d:Rd}{p:Int}{up:Bool}{n:Nat}:vd (rT d n p up).1=true/\Ok0 (rT d n p up).1:=by
 grind[rT,vd,pw,U4,Lt,H9,zD]
theorem Mn{x:Ri}{a:Rat}{n:Nat}{p:Int}(hx:In a x):In (a^n) (AY x n p):=by
 unfold AY;split
 ·next h=>
  simp only[ay1]at h;obtain⟨⟨kx,hp⟩,_⟩:=h;split
  ·next h0=>
   subst h0;rw[Rat.pow_zero,←X6];exact xe dW.1 dW.2
  ·next h0=>
   by_cases he:n%2=0
   ·rw[if_pos he];obtain⟨b,hb,hab⟩:∃b:Rat,0<=b/\(b=a\/b=-a):=by
     grind
    obtain⟨h1,h2⟩:=ak4 hx hb hab;obtain⟨g1,g2⟩:=h2 kx;have hpw:a^n=b^n:=by
     rcases hab with rfl|rfl
     ·rfl
     ·rw[show n=2*(n/2)by omega,Lv]
    rw[hpw];rcases h1 with hW| ⟨_,hv,y1,y2⟩
    ·rw[hW]at g2;exact absurd g2 δ
    refine U3 Qh Qh (fun h=>?_) (fun h=>?_)
    ·exact Rat.le_trans ((Qg hv.1.1 hp ω (Or.inr g1) h).2 rfl) (Lw g1 y1 n)
    ·exact Rat.le_trans (Lw (Rat.le_trans g1 y1) y2 n) ((Qg hv.2.1 hp ω (Or.inr (Rat.le_trans g1 (Rat.le_trans y1 y2))) h).1 rfl)
   ·rw[if_neg he];rcases hx.k with⟨rfl,h1⟩| ⟨_,x1,x2⟩
    ·grind
    have ho:n=2*(n/2)+1:=ω
    have le:∀ {x y:Rat},x<=y->x^n<=y^n:=fun h=>by
     grind[ade]
    refine U3 Qh Qh (fun h=>?_) (fun h=>?_)
    ·exact Rat.le_trans ((Qg hx.vi.1.1 hp ω (Or.inl ω) h).2 rfl) (le x1)
    ·exact Rat.le_trans (le x2) ((Qg hx.vi.2.1 hp ω (Or.inl ω) h).1 rfl)
 ·exact Or.inl rfl
theorem aaT{x:Rat}{m:Nat}:∀n:Nat,x^m*x^n=x^ (m+n)
 |0=>by grind
 |n+1=>by rw[Rat.pow_succ,←Rat.mul_assoc,aaT n,←az0,Rat.pow_succ]
theorem ak5{x:Ri}{a:Rat}{n:Nat}{p:Int}(hx:In a x):In (a^n) (Fy x n p):=by
 unfold Fy;split
 ·exact Mn hx
 ·have:=Ch (p:=p) (Mn (n:=16) (p:=p) hx) (Mn (n:=n-16) (p:=p) hx);grind[aaT]
def InL:List Rat->List Ri->Prop
 |x::xs,d::ds=>In x d/\InL xs ds
 |[],[]=>True
 |_,_=>False
def GJ(es:List Int):List Nat:=es.map Int.toNat
def fv(xs:List Rat):List Rt->Rat
 |[]=>0
 |t::l=>qv t.c*Np xs (GJ t.exps)+fv xs l
theorem afK{p:Int}:∀ (xs:List Rat) (ds:List Ri) (es:List Int) (x:Ri) (q:Rat),InL xs ds->ds.length=es.length->In q x->In (q*Np xs (GJ es)) (Le p ds es x)
 |[],[],[],x,q,_,_,h=>by
  show In (q*1) x;grind
 |y::xs,d::ds,e::es,x,q,hl,hd,h=>by
  show In (q*(y^e.toNat*Np xs (GJ es))) (Le p ds es (if 0<e then gX x (Fy d e.toNat p) p else x));rw[←Rat.mul_assoc];refine afK xs ds es _ _ hl.2 γ ?_;split
  ·exact Ch h (ak5 hl.1)
  ·rw[show e.toNat=0 by omega,Rat.pow_zero,Rat.mul_one];omega
 |[],_::_,_,_,_,hl,_,_=>hl.elim
 |_::_,[],_,_,_,hl,_,_=>hl.elim
 |_::_,_::_,[],_,_,_,hd,_=>by grind
 |[],[],_::_,_,_,_,hd,_=>by grind
theorem afL{p:Int}{xs:List Rat}{dom:List Ri}(hl:InL xs dom):∀ (l:List Rt) (s:Ri) (q:Rat),(∀t∈l,vd t.c=true/\Ok0 t.c/\dom.length=t.exps.length)->In q s->In (q+fv xs l) (P1 p dom l s)
 |[],s,q,_,h=>by
  show In (q+0) s;grind
 |t::l,s,q,ht,h=>by
  obtain⟨a,b,c⟩:=ht t σ;show In (q+(qv t.c*Np xs (GJ t.exps)+fv xs l)) _;rw[←Rat.add_assoc];exact afL hl l _ _ (fun u hu=>ht u (by simp[hu])) (Ib h (afK xs dom _ _ _ hl c (xe a b)))
theorem TL{a:Rp}{dom:List Ri}{xs:List Rat}{p:Int}(oa:OkP a)(hl:InL xs dom):In (fv xs a.terms) (qu a dom p):=by
 unfold qu;split
 ·next h=>
  unfold pg at h;simp only[ay1,decide_eq_true_eq]at h;obtain⟨⟨hv,hd,_⟩,_⟩:=h;unfold vp at hv;simp only[ay1,decide_eq_true_eq]at hv;have:=afL (p:=p) hl a.terms ⟨aG,aG,false⟩ 0 (fun t ht=>by
   have h1:=FA (Ma _ _ hv.2.2.2 t ht);exact⟨h1.2.1,(oa.t t ht).c,by omega⟩) (by rw[←Lq];exact xe aV.1 aV.2)
  grind
 ·exact Or.inl rfl
def intD(e:Int):Rd:=br false e.natAbs 0
theorem ak6{e:Int}(h1:1<=e)(h2:e<=32):Ok0 (intD e)/\vd (intD e)=true/\(intD e).m.length≠0:=by
 have hn:e.natAbs≠0:=ω
 have hb:ae e.natAbs<=6:=bD.2 (by
  omega)
 have hc:=B4 (neg:=false) (M:=e.natAbs) (e:=0) ω δ ω;have ho:=xc (z:=e) (f:=0);have hcan:cx e 0=br false e.natAbs 0:=by
  grind[cx,decide_eq_false]
 rw[hcan,hc]at ho;refine⟨ho.2,ho.1,fun h=>?_⟩;obtain⟨q1,_,q3,_⟩:=qF (neg:=false) (e:=0) hn;have h0:(br false e.natAbs 0).m=[]:=List.length_eq_zero_iff.1 h;grind[ab]
def dec(l:List Int)(i:Nat):List Int:=l.set i (l.getD i 0-1)
theorem aaU:∀ {l:List Int} {i:Nat},i<l.length->aS (dec l i)=aS l-1
 |x::l,0,_=>by
  show(x-1)+aS l=(x+aS l)-1;omega
 |x::l,i+1,h=>by
  have ih:=aaU (l:=l) (i:=i) (by simpa using h);show x+aS (dec l i)=(x+aS l)-1;omega
theorem Ci{l:List Int}{i:Nat}(h:i<l.length):l.getD i 0∈l:=by
 grind
theorem ak7{x:Int}(h1:0<=x)(h2:x<=32):R F.dyadic_Int [I x] []=some (af (intD x),[]):=by
 have h:=Fw (n:=x) ⟨by omega,by omega⟩;rw[decide_eq_false ω]at h;exact h
theorem ColE.nil{v:Int}{l:List Rt}{c:AV}{e:Int}(hc:mN c l)(he:e=0\/e=9):ColE v l [] e c l e:=by
 refine⟨hc,?_⟩;rcases he with rfl|rfl
 ·exact .inl ⟨rfl,rfl,rfl⟩
 ·exact .inr ⟨rfl,fun h=>by omega⟩
structure Bf (v:Int) (l A:List Rt):Prop where
 cl:Cl v l
 lt:∀q∈l,∀t∈A,bX q.exps t.exps<0
theorem Bf.nil{v:Int}(A:List Rt):Bf v [] A:=⟨Cl.nil _,fun q h=>by grind⟩
theorem Bf.drop{v:Int}{l A:List Rt}{t:Rt}(h:Bf v l (t::A)):Bf v l A:=⟨h.cl,fun q hq x hx=>h.lt q hq x γ⟩
theorem Cl.tail{v:Int}{l:List Rt}{t:Rt}(h:Cl v (t::l)):Cl v l:=⟨fun q hq=>h.t q γ,(List.pairwise_cons.1 h.s).2⟩
theorem Cl.head{v:Int}{l:List Rt}{t:Rt}(h:Cl v (t::l)):VT v t:=h.t t σ
theorem Bf.push{v:Int}{l A:List Rt}{t:Rt}{d:Rd}(h:Bf v l (t::A))(hA:Cl v (t::A))(vt:VT v ⟨t.exps,d⟩):Bf v (l++[⟨t.exps,d⟩]) A:=by
 refine⟨⟨fun q hq=>?_,?_⟩,fun q hq x hx=>?_⟩
 ·rcases List.mem_append.1 hq with h1|h1
  ·exact h.cl.t q h1
  grind
 ·rw[List.pairwise_append];refine⟨h.cl.s,List.pairwise_singleton _ _,fun q hq x hx=>?_⟩;rw[List.mem_singleton.1 hx];exact h.lt q hq t σ
 ·rcases List.mem_append.1 hq with h1|h1
  ·exact h.lt q h1 x γ
  ·rw[List.mem_singleton.1 h1];exact(List.pairwise_cons.1 hA.s).1 x hx
theorem Cl.dropN{v:Int}:∀ {l:List Rt} (i:Nat),Cl v l->Cl v (l.drop i)
 |l,0,h=>h
 |[],_+1,h=>h
 |_::l,i+1,h=>Cl.dropN i h.tail
theorem FO{v v':Int}{l A:List Rt}{t:Rt}{d:Rd}{c:AV}(h:Bf v l (t::A))(vt:VT v ⟨t.exps,d⟩)(hl:l.length<=1000000)(hc:mN c l):
  ∃c1,R F.poly_collector_add [.ref 1000 none 0 0 0,.sl 1 (aI t.exps),af d] [t3 v' c 0]=some (.tup [],[t3 v' c1 0])/\mN c1 (l++[⟨t.exps,d⟩]):=by
 obtain⟨c1,l1,e1,g1,g2,g3⟩:=R8 (v':=v') h.cl vt hl hc;have he:pi l ⟨t.exps,d⟩=some (l++[⟨t.exps,d⟩]):=Oi fun q hq=>h.lt q hq t σ;grind
def X7(o:Int)(t:Rt):Bool:=decide (aS t.exps<=o)
def Qi(o:Int)(t:Rt):Bool:=!decide (aS t.exps<=o)
def lH(a:Rp)(o:Int):Rp×Rp:=if vp a=true then(⟨a.vars,a.terms.filter (X7 o)⟩,⟨a.vars,a.terms.filter (Qi o)⟩)else(p0,p0)
def FP(blk:Option (Ex×St))(i1 i2:Nat)(S:ai)(v':Int)(l1 l2 r1 r2:List Rt):Prop:=
 ∃hh c1 c2,blk=some (.normal,⟨S,hh⟩)/\hh 4=.bx [I 0,.emp]/\hh 5=.bx [I 0,.emp]/\hh i1=t3 v' c1 0/\hh i2=t3 v' c2 0/\mN c1 (l1++r1)/\mN c2 (l2++r2)
theorem FP.p1{blk:Option (Ex×St)}{i1 i2:Nat}{S:ai}{v':Int}{l1 l2 r1 r2:List Rt}{t:Rt}(h:FP blk i1 i2 S v' (l1++[t]) l2 r1 r2):FP blk i1 i2 S v' l1 l2 (t::r1) r2:=by
 obtain⟨hh,c1,c2,h1,h2,h3,h4,h5,h6,h7⟩:=h;exact⟨hh,c1,c2,h1,h2,h3,h4,h5,by rwa[List.append_cons],h7⟩
theorem FP.p2{blk:Option (Ex×St)}{i1 i2:Nat}{S:ai}{v':Int}{l1 l2 r1 r2:List Rt}{t:Rt}(h:FP blk i1 i2 S v' l1 (l2++[t]) r1 r2):FP blk i1 i2 S v' l1 l2 r1 (t::r2):=by
 obtain⟨hh,c1,c2,h1,h2,h3,h4,h5,h6,h7⟩:=h;exact⟨hh,c1,c2,h1,h2,h3,h4,h5,h6,by rwa[List.append_cons]⟩
theorem aiv{v v' o:Int}{A:List Rt}(hA:Cl v A)(hn:A.length<=100000){o2:Ob}(k2c:∀ids,aA ids o2=true):
  ∀ (k i:Nat),i+k=A.length->∀ (c1 c2:AV) (l1 l2:List Rt),mN c1 l1->mN c2 l2->Bf v l1 (A.drop i)->Bf v l2 (A.drop i)->l1.length+k<=1000000->l2.length+k<=1000000->∀ (s:ai) (h:ac),s 1=I o->s 4=.ref 4 none 0 0 0->s 5=.ref 5 none 0 0 0->s 6=.ref 2136 none 0 0 0->s 7=.ref 2160 none 0 0 0->s 22=.sl 4 (aD A)->s 23=I A.length->s 24=I i->h 2=o2->h 4=.bx [I 0,.emp]->h 5=.bx [I 0,.emp]->h 2136=t3 v' c1 0->h 2160=t3 v' c2 0->
  FP (ah 0 [4,5,6,7] (aq (aj R (az false) lX) [1,4,5,6,7,22,23,24] [2,4,5,2136,2160] s h)) 2136 2160 (upd (upd (upd (upd (fun _=>.any) 7 (.ref 2160 none 0 0 0)) 6 (.ref 2136 none 0 0 0)) 5 (.ref 5 none 0 0 0)) 4 (.ref 4 none 0 0 0)) v' l1 l2 ((A.drop i).filter (X7 o)) ((A.drop i).filter (Qi o)):=by
 intro k;induction k with
 |zero=>
  intro i hi c1 c2 l1 l2 hc1 hc2 _ _ _ _ s h g1 g4 g5 g6 g7 g22 g23 g24 k2 k4 k5 k2136 k2160;have e1:((i:Int)< (A.length:Int))=False:=ff;have ho1:=(lA (v:=v') (e:=0) hc1).cl [2,4,5,2136,2160];have ho2:=(lA (v:=v') (e:=0) hc2).cl [2,4,5,2136,2160];have ho3:=k2c [2,4,5,2136,2160];rw[azi ω,ag];refine⟨?hh0,c1,c2,?_,?_,?_,?_,?_,by grind,by grind⟩;rotate_left
  ·simp only[lX,go_sem,g1,g4,g5,g6,g7,g22,g23,g24,k2,k4,k5,k2136,k2160,ho1,ho2,ho3,e1];rfl
  ·rfl
  ·rfl
  ·rfl
  ·rfl
 |succ k ih=>
  intro i hi c1 c2 l1 l2 hc1 hc2 b1 b2 hl1 hl2 s h g1 g4 g5 g6 g7 g22 g23 g24 k2 k4 k5 k2136 k2160;have hlt:i<A.length:=ω
  have e1:((i:Int)< (A.length:Int))=True:=tt;have e2:aU (aD A) (i:Int)=some (.ipt (bV A[i])):=gy rfl (List.getElem?_eq_getElem hlt);have e5:IntKind.i64.wrap ((i:Int)+1)=((i+1:Nat):Int):=wi;have ho1:=(lA (v:=v') (e:=0) hc1).cl [2,4,5,2136,2160];have ho2:=(lA (v:=v') (e:=0) hc2).cl [2,4,5,2136,2160];have ho3:=k2c [2,4,5,2136,2160];have hAd:=hA.dropN i;rw[azj hlt]at b1 b2 hAd⊢;have ih':=ih (i+1) ω;have vt:=hAd.head;generalize A[i]=t at e2 vt b1 b2 hAd⊢;have hdeg:=zE vt.sm;rw[ag];generalize aq _ _ _=L at ih'⊢;simp only[bV]at e2;by_cases hd:aS t.exps<=o
  ·have e3:(aS t.exps<=o)=True:=eq_true hd;have f1:(X7 o t)=true:=decide_eq_true hd;have f2:¬ (Qi o t)=true:=by simp_all[Qi,decide_eq_true,ay9]
   rw[List.filter_cons_of_pos f1,List.filter_cons_of_neg f2];obtain⟨c3,s1,s2⟩:=FO (v':=v') b1 vt ω hc1;have hcall:=fun(h:ac) (hh:h 2136=t3 v' c1 0) (d:Nat)=>dB (aQ.1.2.1 false) rfl (qw (d:=d) hh hc1 s2 s1);have ih2:=ih' c3 c2 _ l2 s2 hc2 (b1.push hAd vt) b2.drop γ ω;refine FP.p1 ?_;simp only[af,ak]at hcall;simp only[lX,go_sem,g1,g4,g5,g6,g7,g22,g23,g24,k2,k4,k5,k2136,k2160,ho1,ho2,ho3,e1,e2,hdeg,e3];rw[hcall _ rfl];simp only[go_sem,e5];refine ih2 _ _ ?_ ?_ ?_ ?_ ?_ ?_ ?_ ?_ ?_ ?_ ?_ ?_ ?_
   all_goals first|rfl|assumption
  ·have e3:(aS t.exps<=o)=False:=eq_false hd;have f1:¬ (X7 o t)=true:=by simp_all[X7,decide_eq_false,ay9]
   have f2:(Qi o t)=true:=by grind[Qi,decide_eq_false]
   rw[List.filter_cons_of_neg f1,List.filter_cons_of_pos f2];obtain⟨c3,s1,s2⟩:=FO (v':=v') b2 vt ω hc2;have hcall:=fun(h:ac) (hh:h 2160=t3 v' c2 0) (d:Nat)=>dB (aQ.1.2.1 false) rfl (qw (d:=d) hh hc2 s2 s1);have ih2:=ih' c1 c3 l1 _ hc1 s2 b1.drop (b2.push hAd vt) ω γ;refine FP.p2 ?_;simp only[af,ak]at hcall;simp only[lX,go_sem,g1,g4,g5,g6,g7,g22,g23,g24,k2,k4,k5,k2136,k2160,ho1,ho2,ho3,e1,e2,hdeg,e3];rw[hcall _ rfl];simp only[go_sem,e5];refine ih2 _ _ ?_ ?_ ?_ ?_ ?_ ?_ ?_ ?_ ?_ ?_ ?_ ?_ ?_
   all_goals first|rfl|assumption
theorem aqr{v v' o:Int}{A:List Rt}(hA:Cl v A)(hn:A.length<=100000){o2:Ob}(k2c:∀ids,aA ids o2=true)(s:ai)(h:ac)(X:Option (Ex×St))(hX:ah 0 [4,5,6,7] (aq (aj R (az false) lX) [1,4,5,6,7,22,23,24] [2,4,5,2136,2160] s h)=X)
  (g1:s 1=I o) (g4:s 4=.ref 4 none 0 0 0) (g5:s 5=.ref 5 none 0 0 0) (g6:s 6=.ref 2136 none 0 0 0) (g7:s 7=.ref 2160 none 0 0 0) (g22:s 22=.sl 4 (aD A)) (g23:s 23=I A.length) (g24:s 24=I 0) (k2:h 2=o2) (k4:h 4=.bx [I 0,.emp]) (k5:h 5=.bx [I 0,.emp]) (k2136:h 2136=t3 v' .emp 0) (k2160:h 2160=t3 v' .emp 0):
  FP X 2136 2160 (upd (upd (upd (upd (fun _=>.any) 7 (.ref 2160 none 0 0 0)) 6 (.ref 2136 none 0 0 0)) 5 (.ref 5 none 0 0 0)) 4 (.ref 4 none 0 0 0)) v' [] [] (A.filter (X7 o)) (A.filter (Qi o)):=by
 subst hX;exact aiv hA hn k2c A.length 0 (ayX _) .emp .emp [] [] (.inr ⟨rfl,rfl⟩) (.inr ⟨rfl,rfl⟩) (Bf.nil _) (Bf.nil _) γ γ s h g1 g4 g5 g6 g7 g22 g23 g24 k2 k4 k5 k2136 k2160
def aiw(id:Nat)(s:ai)(h:ac):Ob->Option (ai×ac×K)
 | .bx cs=>some (kP [(id,true)] s,upd h id (.bx (cs.map jC)),[(id,true)])
 |_=>none
theorem wo(i id x y z:Nat)(s:ai)(h:ac):QN i s h (.ref id none x y z)=aiw id s h (h id):=by
 grind[QN,aiw]
theorem zL(id:Nat)(s:ai)(h:ac)(cs:List AV):aiw id s h (.bx cs)=some (kP [(id,true)] s,upd h id (.bx (cs.map jC)),[(id,true)]):=rfl
def ppV(r:Rp×Rp):AV:=.tup [be r.1,be r.2]
theorem afM{a:Rp}{o:Int}(oa:OkP a):R F.poly_Split [be a,I o] []=some (ppV (lH a o),[]):=by
 refine av WD rfl ?_;have v1:=wl oa;simp only[be]at v1;unfold lH;cases va:vp a with
 |false=>
  rw[va]at v1;simp only[yt,ET,be,go_sem,v1];rfl
 |true=>
  rw[va]at v1;obtain⟨ka,a0,a8,al⟩:=jZ oa va;have hemp:=Ce (v:=a.vars);have hl:=aqr (v:=a.vars) (v':=a.vars) (o:=o) ka ω (o2:=.bx [I a.vars,.sl 4 (aD a.terms)]) (fun _=>rfl);simp only[yt,ET,be,go_sem,v1,hemp,qx];generalize hX:ah 0 _ _=X;have hM:=hl _ _ _ hX rfl rfl rfl rfl rfl rfl rfl rfl rfl rfl rfl rfl rfl;obtain⟨hh,c1,c2,rfl,q4,q5,q1,q2,i1,i2⟩:=hM;generalize a.terms.filter (X7 o)=r1 at i1⊢;generalize a.terms.filter (Qi o)=r2 at i2⊢;rcases i1 with rfl| ⟨rfl,rfl⟩
  ·rcases i2 with rfl| ⟨rfl,rfl⟩
   ·simp only[t3]at q1 q2;simp only[ppV,be,go_sem,azz,azG,q4,q5,q1,q2,wo,zL,azv,azF,yf,wn]
   ·simp only[t3]at q1 q2;simp only[ppV,be,go_sem,azz,azG,q4,q5,q1,q2,wo,zL,azv,azF,yf,wn,Cf];rfl
  ·rcases i2 with rfl| ⟨rfl,rfl⟩
   ·simp only[t3]at q1 q2;simp only[ppV,be,go_sem,azz,azG,q4,q5,q1,q2,wo,zL,azv,azF,yf,wn,Cf];rfl
   ·simp only[t3]at q1 q2;simp only[ppV,be,go_sem,azz,azG,q4,q5,q1,q2,wo,zL,azv,azF,yf,Cf];rfl
def bH(ds:List Int)(cs:List Ri)(p:Int):Ob:=.bx [.osl 1 (aI ds),.osl 7 (bK cs),I p]
def Ov:List Int->Int->Int
 |[],n=>n
 |d::l,n=>Ov l (n*(d+1))
theorem sj(a b:AV)(k:Nat)(r:List (List AV)):kQ 0 (.bx [.osl k r,a,b])=some (k,r):=rfl
theorem zN(h:ac)(n:Nat)(g:Bool)(i j:Nat)(r:List (List AV)):pC h n g 1 i j (some (1,r))=(r[i]?).bind fun row=>(lj n g row j).map fun a=>(a,h,[]):=rfl
theorem aix{ds:List Int}{cs:List Ri}{p:Int}{m:Nat}(hm:m<=ds.length)(h8:m<=1000)(hb:∀d∈ds,0<=d/\d<=32):
  ∀ (k i:Nat),i+k=m->∀ (n:Int),0<=n->n*33^k<=10000000000000->∀ (s:ai) (h:ac),s 5=I n->s 13=.rsl 1000 (some 0) 1 0 m->s 14=I m->s 15=I i->h 1000=bH ds cs p->
  ∃hh,ah 0 [5] (aq (aj R (az true) jU) [5,13,14,15] [1000] s h)=some (.normal,⟨upd (fun _=>.any) 5 (I (Ov ((ds.take m).drop i) n)),hh⟩)/\hh 1000=bH ds cs p:=by
 intro k;induction k with
 |zero=>
  intro i hi n h0 hn s h g5 g13 g14 g15 k1000;have e1:((i:Int)< (m:Int))=False:=ff;rw[azi γ,ag];refine⟨?hh0,?_,?_⟩;rotate_left
  ·simp only[jU,bH,go_sem,g5,g13,g14,g15,k1000,e1];rfl
  ·rfl
 |succ k ih=>
  intro i hi n h0 hn s h g5 g13 g14 g15 k1000;have hlt2:i< (ds.take m).length:=γ
  have e1:((i:Int)< (m:Int))=True:=tt;have e2:(aI ds)[i]?=some [I (ds.take m)[i]]:=by
   unfold aI;rw[List.getElem?_map,List.getElem_take,List.getElem?_eq_getElem ω];rfl
  have e5:IntKind.i64.wrap ((i:Int)+1)=((i+1:Nat):Int):=wi;rw[azj hlt2];have hd:=hb (ds.take m)[i] (List.mem_of_mem_take (azo hlt2));generalize(ds.take m)[i]=d at e2 hd⊢;have e6:(0<=(i:Int))=True:=tt;have e3:IntKind.i64.wrap (d+1)=d+1:=i64_in _ ⟨by omega,by omega⟩;have hn2:n*(d+1)*33^k<=n*33^ (k+1):=by
   rw[Int.pow_succ,Int.mul_comm _ 33,←Int.mul_assoc];exact Int.mul_le_mul_of_nonneg_right (Int.mul_le_mul_of_nonneg_left ω h0) (Int.pow_nonneg δ)
  have hp1:(1:Int)<=33^k:=by
   have:=Int.pow_pos (n:=33) (m:=k) δ;omega
  have hn0:0<=n*(d+1):=Int.mul_nonneg h0 ω;have hn3:n*(d+1)<=10000000000000:=by
   have:=Int.mul_le_mul_of_nonneg_left hp1 hn0;omega
  have e4:IntKind.i64.wrap (n*(d+1))=n*(d+1):=i64_in _ ⟨by omega,by omega⟩;have ih':=ih (i+1) ω (n*(d+1)) hn0 ω;rw[ag];simp only[bH]at k1000;simp only[jU,go_sem,g5,g13,g14,g15,k1000,e1,e2,e3,e4,e5,e6,ay4,ayX,sj,zN];exact ih' _ _ rfl rfl rfl rfl rfl
theorem aqs{ds:List Int}{cs:List Ri}{p:Int}{m:Nat}(hm:m<=ds.length)(h8:m<=8)(hb:∀d∈ds,0<=d/\d<=32)(s:ai)(h:ac)(X:Option (Ex×St))(hX:ah 0 [5] (aq (aj R (az true) jU) [5,13,14,15] [1000] s h)=X)(g5:s 5=I 1)(g13:s 13=.rsl 1000 (some 0) 1 0 m)(g14:s 14=I m)(g15:s 15=I 0)(k1000:h 1000=bH ds cs p):
  ∃hh,X=some (.normal,⟨upd (fun _=>.any) 5 (I (Ov (ds.take m) 1)),hh⟩)/\hh 1000=bH ds cs p:=by
 subst hX;exact aix hm ω hb m 0 (ayX _) 1 δ (by
  have:(33:Int)^m<=33^8:=by
   have h1:33^m<=33^8:=azD δ h8;grind
  omega) s h g5 g13 g14 g15 k1000
theorem Cj(ds:List Int):(aI ds).length=ds.length:=by simp[aI]
theorem ak8{ds:List Int}{cs:List Ri}{p:Int}{m:Nat}(hm:m<=ds.length)(h8:m<=8)(hb:∀d∈ds,0<=d/\d<=32):R F.bound_grid_step [.ref 1000 none 0 0 0,I m] [bH ds cs p]=some (I (Ov (ds.take m) 1),[bH ds cs p]):=by
 refine FI MK MJ (AR false) rfl ?_;have hl:=aqs (ds:=ds) (cs:=cs) (p:=p) hm h8 hb;have e1:dH 1 (.rsl 1000 (some 0) 1 0 ds.length) none (some (I (m:Int))) none=some (.rsl 1000 (some 0) 1 0 m):=by
  grind[dH,jH,kG]
 simp only[vR,DH,go_sem,bH,Cj,e1];generalize hX:ah 0 [5] _=X;obtain⟨hh,rfl,q⟩:=hl _ _ _ hX rfl rfl rfl rfl rfl;exact uY rfl q rfl (by rfl) (by rfl)
def J0(c1 c2:iD):Prop:=∀f a hs r,c1 f a hs=some r->c2 f a hs=some r
section
variable {c1 c2:iD} {md:Mode}
theorem ZC(hc:J0 c1 c2){h:ac}{d:Nat}{zas:List AV}{f:AV}{r:R3}(hz:dV c1 md h d zas f=some r):dV c2 md h d zas f=some r:=by
 cases f<;>simp only[dV]at hz⊢ <;>try (cases hz;done)
 simp only[ayY]at hz⊢;obtain⟨p,e1,e2⟩:=hz;unfold jK at e2⊢;split at e2
 ·rename_i hcc;simp only[ayY]at e2;obtain⟨q,e3,e4⟩:=e2;refine⟨p,e1,?_⟩;rw[if_pos hcc];simp only[ayY];exact⟨q,hc _ _ _ _ e3,e4⟩
 ·cases e2
theorem Qj(hc:J0 c1 c2){h:ac}{d:Nat}{zas:List AV}{f:AV}{r:R3}(hz:bE c1 md h d zas f=some r):bE c2 md h d zas f=some r:=by
 unfold bE at hz⊢;split at hz
 ·rename_i hb;rw[if_pos hb];cases f<;>simp only[ON]at hz⊢ <;>try (cases hz;done)
  simp only[ayY]at hz⊢;obtain⟨p,e1,q,e3,e4⟩:=hz;exact⟨p,e1,q,hc _ _ _ _ e3,e4⟩
 ·rename_i hb;rw[if_neg hb];exact ZC hc hz
theorem TM(hc:J0 c1 c2){d:Nat}{op:AOp}{s:ai}{h:ac}{r:R3}(hz:step c1 md d op s h=some r):step c2 md d op s h=some r:=by
 cases op with
 |call f zas=>exact Qj hc hz
 |callC f zas=>
  simp only[step,ayY]at hz⊢;obtain⟨q,e1,e2⟩:=hz;exact⟨q,Qj hc e1,e2⟩
 |_=>exact hz
theorem TN(hc:J0 c1 c2){d:Option Nat}{op:AOp}{s:ai}{h:ac}{t:St}(hz:dC md.nm s d (step c1 md (d.getD 0) op s h)=some t):dC md.nm s d (step c2 md (d.getD 0) op s h)=some t:=by
 cases hs:step c1 md (d.getD 0) op s h with
 |none=>rw[hs]at hz;cases hz
 |some r=>
  rw[hs]at hz;rw[TM hc hs];exact hz
theorem adf(hc:J0 c1 c2){o:COp}{s:ai}{h:ac}{t:St}(hz:mR c1 md o s h=some t):mR c2 md o s h=some t:=by
 unfold mR at hz⊢;cases hg:o.g with
 |none=>rw[hg]at hz;exact TN hc hz
 |some g=>
  rw[hg]at hz;simp only at hz⊢;unfold lJ at hz⊢;split at hz
  ·split at hz
   ·rename_i hb;simp only[if_pos hb];exact TN hc hz
   ·rename_i hb;simp only[if_neg hb];exact hz
  ·exact hz
  ·cases hz
theorem FQ(hc:J0 c1 c2):∀ {l:List COp} {s:ai} {h:ac} {t:St},aF c1 md l s h=some t->aF c2 md l s h=some t
 |[],s,h,t,hz=>hz
 |o::l,s,h,t,hz=>by
  simp only[aF,bq]at hz;split at hz
  ·cases hz
  ·rename_i t1 ht1;simp only[aF,bq,adf hc ht1,FQ hc hz]
theorem Qk(hc:J0 c1 c2){d:Option Nat}{op:AOp}{s:ai}{h:ac}{f:ac->Fp}{t:St×Fp}(hz:oL s d f (step c1 md (d.getD 0) op s h)=some t):oL s d f (step c2 md (d.getD 0) op s h)=some t:=by
 cases hs:step c1 md (d.getD 0) op s h with
 |none=>rw[hs]at hz;cases hz
 |some r=>
  rw[hs]at hz;rw[TM hc hs];exact hz
theorem adg(hc:J0 c1 c2){o:COp}{s:ai}{h:ac}{t:St×Fp}(hz:eN c1 md o s h=some t):eN c2 md o s h=some t:=by
 unfold eN at hz⊢;cases hg:o.g with
 |none=>rw[hg]at hz;exact Qk hc hz
 |some g=>
  rw[hg]at hz;simp only at hz⊢;unfold sy at hz⊢;split at hz
  ·split at hz
   ·rename_i hb;simp only[if_pos hb];exact Qk hc hz
   ·rename_i hb;simp only[if_neg hb];exact hz
  ·exact hz
  ·cases hz
theorem Lx(hc:J0 c1 c2):∀ {l:List COp} {s:ai} {h:ac} {t:St×List Fp},iQ c1 md l s h=some t->iQ c2 md l s h=some t
 |[],s,h,t,hz=>hz
 |o::l,s,h,t,hz=>by
  simp only[iQ,ayY]at hz;obtain⟨r,e1,q,e2,e3⟩:=hz;simp only[iQ,adg hc e1,Lx hc e2,ay2,e3]
theorem adh(hc:J0 c1 c2){l:List COp}{ps:List (Nat×Nat)}{s:ai}{h:ac}{t:St}(hz:sz c1 md l ps s h=some t):sz c2 md l ps s h=some t:=by
 unfold sz at hz⊢;cases hb:Cu ps with
 |none=>
  rw[hb]at hz;simp only[CH,ayY]at hz;obtain⟨q,e1,e2⟩:=hz;simp only[CH,Lx hc e1,ay2,e2]
 |some b=>
  rw[hb]at hz;simp only[Iq,ayY]at hz;obtain⟨q,e1,e2⟩:=hz;split at e2
  ·rename_i hps;simp only[bq]at e2;split at e2
   ·cases e2
   ·rename_i t1 ht1;simp only[Iq,Lx hc e1,ay2,if_pos hps,ht1,bq,FQ hc e2]
  ·cases e2
theorem Ly{b1 b2:ai->ac->Option (Ex×St)}{ks hs:List Nat}(ih:∀ {s:ai} {h:ac} {r:Ex×St},b1 s h=some r->b2 s h=some r):
  ∀ (m:Nat) {j:Nat},m<=j->∀ {s:ai} {h:ac} {r:Ex×St},uu b1 ks hs m s h=some r->uu b2 ks hs j s h=some r
 |0,j,hj,s,h,r,hz=>by simp[uu]at hz
 |m+1,j,hj,s,h,r,hz=>by
  obtain⟨j,rfl⟩:∃j',j=j'+1:=⟨j-1,by omega⟩;simp only[uu]at hz⊢;split at hz
  ·rename_i hc;rw[if_pos hc];cases hb:b1 (mk .any (fun i=>gS hs (s i)) ks) (mk .dead h hs)with
   |none=>rw[hb]at hz;cases hz
   |some q=>
    rw[hb]at hz;rw[ih hb];obtain⟨ex,t⟩:=q;cases ex with
    |normal=>exact Ly ih m ω hz
    |exit id=>exact hz
    |ret=>exact hz
  ·cases hz
theorem kq(hc:J0 c1 c2){lf lf':Nat}(hl:lf<=lf'):∀ (c:Cmd) {s:ai} {h:ac} {r:Ex×St},cI c1 md lf c s h=some r->cI c2 md lf' c s h=some r
 | .skip,s,h,r,hz=>hz
 | .ops ks l,s,h,r,hz=>by
  simp only[cI,bq]at hz;split at hz
  ·cases hz
  ·rename_i t1 ht1;simp only[cI,FQ hc ht1,bq];exact hz
 | .dops ks l ps,s,h,r,hz=>by
  simp only[cI,bq]at hz;split at hz
  ·cases hz
  ·rename_i t1 ht1;simp only[cI,adh hc ht1,bq];exact hz
 | .seq a b,s,h,r,hz=>by
  simp only[cI,cH]at hz;split at hz
  ·cases hz
  ·rename_i t1 ht1;simp only[cI,cH,kq hc hl a ht1,kq hc hl b hz]
  ·rename_i i t1 ht1;simp only[cI,cH,kq hc hl a ht1];exact hz
  ·rename_i t1 ht1;simp only[cI,cH,kq hc hl a ht1];exact hz
 | .cond c a b,s,h,r,hz=>by
  simp only[cI,sA]at hz;split at hz
  ·rename_i t ht;cases t with
   |true=>simp only[cI,sA,ht,if_true];exact kq hc hl a hz
   |false=>simp only[cI,sA,ht,azK,if_false];exact kq hc hl b hz
  ·cases hz
 | .block id ks a,s,h,r,hz=>by
  simp only[cI,ah]at hz;split at hz
  ·cases hz
  ·rename_i t1 ht1;simp only[cI,ah,kq hc hl a ht1];exact hz
  ·rename_i i t1 ht1;simp only[cI,ah,kq hc hl a ht1];exact hz
  ·rename_i t1 ht1;simp only[cI,ah,kq hc hl a ht1];exact hz
 | .loop ks hs a,s,h,r,hz=>by
  simp only[cI]at hz⊢;exact Ly (fun hh=>kq hc hl a hh) lf hl hz
 | .exit id,s,h,r,hz=>hz
 | .ret,s,h,r,hz=>hz
 | .frz is a,s,h,r,hz=>by
  simp only[cI,bq]at hz;split at hz
  ·cases hz
  ·rename_i t1 ht1;simp only[cI,bq,ht1];exact kq hc hl a hz
end
theorem anX:Option.any bm (some AV.emp)=false:=rfl
def iL(v:Nat):List Int:=ayW v 0
theorem anY{h:ac}{id id2 k n:Nat}{rows:List (List AV)}{a:AV}{z:Int}(h1:h id2=.ar k rows)(hn:n=rows.length)(h2:h id=.bx [.any,.any,.any])(hne:id≠id2):
  Ns id 0 [.rsl id2 none k 0 n,.emp,I z] (a,h,[])=some (a,upd (upd (upd (upd h id2 .dead) id (.bx [.osl k rows,.any,.any])) id (.bx [.osl k rows,.emp,.any])) id (.bx [.osl k rows,.emp,I z]),[(id2,false)]):=by
 have h3:upd h id2 .dead id=.bx [.any,.any,.any]:=by
  simp_all[upd,if_neg]
 have e1:∀ (g:ac) o,upd g id o id=o:=fun g o=>by simp_all[upd,if_pos]
 have k1:∀K,uF K .emp=.emp:=fun K=>rfl;have k2:∀K,uF K (I z)=I z:=fun K=>rfl
 simp_all[bm,aE,I,Ns,th,Jw,SL,Nr,DM]
def D5:List Int->Int->Option Int
 |[],n=>some n
 |d::l,n=>if 400<n*(d+1)then none else D5 l (n*(d+1))
def Gr2(blk:Option (Ex×St))(o2 g:Ob):Option Int->Prop
 |some n=>∃hh,blk=some (.normal,⟨upd (upd (upd (fun _=>.any) 11 (I n)) 6 (.ref 24 none 0 0 0)) 2 (.ref 2 none 0 0 0),hh⟩)/\hh 2=o2/\hh 24=g/\(∀a,a≠2->a≠24->hh a=.dead)
 |none=>∃hh,blk=some (.ret,⟨upd (upd (fun _=>.any) 5 (B false)) 4 (.v (.pointer none)),hh⟩)
theorem aiy{ds:List Int}{p:Int}{m:Nat}(hm:m=ds.length)(h8:m<=1000)(hb:∀d∈ds,0<=d/\d<=32){o2:Ob}(c2:∀l,aA l o2=true):
  ∀ (k i:Nat),i+k=m->∀ (n:Int),0<=n->n<=400->∀ (s:ai) (h:ac),s 2=.ref 2 none 0 0 0->s 6=.ref 24 none 0 0 0->s 11=I n->s 60=.rsl 24 (some 0) 1 0 m->s 61=I m->s 62=I i->h 2=o2->h 21=.dead->h 24=.bx [.osl 1 (aI ds),.emp,I p]->h 2624=.dead->
  Gr2 (ah 4 [2,6,11] (aq (aj R (az false) iu) [2,6,11,60,61,62] [2,21,24,2624] s h)) o2 (.bx [.osl 1 (aI ds),.emp,I p]) (D5 (ds.drop i) n):=by
 intro k;induction k with
 |zero=>
  intro i hi n h0 hn s h g2 g6 g11 g60 g61 g62 k2 k21 k24 k2624;have e1:((i:Int)< (m:Int))=False:=ff;have hc:=c2 [2,21,24,2624];rw[azi ω,ag];refine⟨?hh0,?_,?_,?_,?_⟩;rotate_left
  ·simp only[iu,go_sem,g2,g6,g11,g60,g61,g62,k2,k21,k24,k2624,hc,e1];rfl
  all_goals simp_all[cj,if_false,ite_self]
 |succ k ih=>
  intro i hi n h0 hn s h g2 g6 g11 g60 g61 g62 k2 k21 k24 k2624;have hlt:i<ds.length:=ω
  have e1:((i:Int)< (m:Int))=True:=tt;have e2:(aI ds)[i]?=some [I ds[i]]:=by
   grind[aI]
  have e5:IntKind.i64.wrap ((i:Int)+1)=((i+1:Nat):Int):=wi;have hc:=c2 [2,21,24,2624];rw[azj hlt];have hd:=hb ds[i] (azo hlt);generalize ds[i]=d at e2 hd⊢;have e6:(0<=(i:Int))=True:=tt;have e3:IntKind.i64.wrap (d+1)=d+1:=i64_in _ ⟨by omega,by omega⟩;have hn0:0<=n*(d+1):=Int.mul_nonneg h0 ω;have hn3:n*(d+1)<=400*33:=Int.mul_le_mul hn ω ω δ;have e4:IntKind.i64.wrap (n*(d+1))=n*(d+1):=i64_in _ ⟨by omega,by omega⟩;have ih':=ih (i+1) ω (n*(d+1)) hn0;have hrow:D5 (d::ds.drop (i+1)) n=if 400<n*(d+1)then none else D5 (ds.drop (i+1)) (n*(d+1)):=rfl
  rw[hrow,ag];by_cases hq:400<n*(d+1)
  ·have e7:(400<n*(d+1))=True:=eq_true hq;rw[if_pos hq];refine⟨?hh1,?_⟩;rotate_left
   ·simp only[iu,go_sem,g2,g6,g11,g60,g61,g62,k2,k21,k24,k2624,hc,e1,e2,e3,e4,e6,e7,ay4,ayX,sj,zN];rfl
  ·have e7:(400<n*(d+1))=False:=eq_false hq;simp only[iu,go_sem,g2,g6,g11,g60,g61,g62,k2,k21,k24,k2624,hc,e1,e2,e3,e4,e5,e6,e7,ay4,ayX,sj,zN];refine ih' ω _ _ ?_ ?_ ?_ ?_ ?_ ?_ ?_ ?_ ?_ ?_
   all_goals first|rfl|assumption
theorem aqt{ds:List Int}{p:Int}{m:Nat}(hm:m=ds.length)(h8:m<=1000)(hb:∀d∈ds,0<=d/\d<=32){o2:Ob}(c2:∀l,aA l o2=true)(s:ai)(h:ac)(X:Option (Ex×St))(hX:ah 4 [2,6,11] (aq (aj R (az false) iu) [2,6,11,60,61,62] [2,21,24,2624] s h)=X)(g2:s 2=.ref 2 none 0 0 0)(g6:s 6=.ref 24 none 0 0 0)(g11:s 11=I 1)(g60:s 60=.rsl 24 (some 0) 1 0 m)(g61:s 61=I m)(g62:s 62=I 0)(k2:h 2=o2)(k21:h 21=.dead)(k24:h 24=.bx [.osl 1 (aI ds),.emp,I p])(k2624:h 2624=.dead):
  Gr2 X o2 (.bx [.osl 1 (aI ds),.emp,I p]) (D5 ds 1):=by
 subst hX;exact aiy hm h8 hb c2 m 0 (ayX _) 1 δ δ s h g2 g6 g11 g60 g61 g62 k2 k21 k24 k2624
theorem X8(v:Nat):ayW v [I 0]=aI (iL v):=by
 grind[aI,iL,List.map_replicate]
theorem U5{v:Nat}:∀d∈iL v,0<=d/\d<=32:=fun d hd=>by
 rw[List.eq_of_mem_replicate hd];decide
theorem ak9(h:ac)(i:Nat)(xs:List AV)(a b:AV)(r:List (List AV)):F0 h 1 24 0 1 i 0 xs [] (.bx [.osl 1 r,a,b])=(su 1 1 i 0 xs 1 r).map fun q=>(.und,upd h 24 (.bx [.osl 1 q,a,b]),[]):=rfl
theorem Lz{f:FuncId}{h:ac}{d id:Nat}{zas as':List AV}{o o':Ob}{res:AV}(hm:(az false).m f=[])(hk:(az false).keep f=true)(hn:bp ((az false).sh f) (.ref id none 0 0 0::zas)=.ref id none 0 0 0::as')(hd:zas.all dat=true)(hd':as'.all dat=true)
  (hh:h id=o) (ho:OC o) (ho':OC o') (hb:bf o=true->bf o'=true) (hR:R f (.ref 1000 none 0 0 0::as') [o]=some (res,[o'])) (hr:RT res) (h8:cF res<=8) (hfr:cB h (2000+8*d) (cF res)=true):
  bE R (az false) h d (.ref id none 0 0 0::zas) (.fn f [] [])=some (res,upd h id o',[]):=by
 have h1:bS h [] (.ref id none 0 0 0::zas)=some (.ref id none 0 0 0::zas,h,[]):=by
  simp only[bS,dE,ay2,List.tail_nil,Mg h hd,azb]
 have hp:bA [] ((AV.ref id none 0 0 0::zas).flatMap cr)=[id]:=by
  rw[List.flatMap_cons,Cd fun x hx=>H4 (List.all_eq_true.1 hd x hx)];rfl
 have hre:ce h 40 [id] 0=[id]:=by
  simp[ce,hh,ho.ids,bA]
 have h3:bj [id] id=1000:=by simp[bj]
 have hall:(AV.ref id none 0 0 0::as').all (aZ [id])=true:=by
  grind[aZ,bo,Lm]
 have hmap:(AV.ref id none 0 0 0::as').map (dS (bj [id]))=.ref 1000 none 0 0 0::as':=by
  rw[azv,(azy (g:=fun c=>c) fun x hx=>H5 (List.all_eq_true.1 hd' x hx) _).trans (azN as')];grind[dS,kr]
 have hob:([id].map fun a=>dT (bj [id]) (h a))=[o]:=by simp[hh,ho.ren]
 have hids:([id].all fun a=>aA [id] (h a)&&!bY (h a))=true:=by simp[hh,ho.cl,ho.nd]
 unfold bE;rw[if_neg (by grind[kt])];simp only[dV,hm,ay8,azb,h1,ay2,hp,hre,hn];unfold jK;rw[hall,hids,hmap,hob,hR,azs,if_pos rfl,ay2,hk,hm,ur];unfold eG;have hbf:cU h [] [id] [o']=true:=by
  have:=ho'.nd;grind[bf,cU]
 have hend:mQ h [id] [] (res,[o'])=true:=by
  simp[mQ,Bp,hr.ok,ho'.cl]
 rw[if_pos ⟨rfl,by simp,h8,hfr,hbf,hend⟩];simp[ej,fT,hr.mat,hr.ren,ho'.ren]
theorem cA(ds:List Int)(cs:List Ri)(p:Int):OC (bH ds cs p):=⟨fun _=>rfl,rfl,fun _=>rfl,rfl⟩
theorem LA{ds:List Int}{cs:List Ri}{p:Int}{m:Nat}(hm:m<=ds.length)(h8:m<=8)(hb:∀d∈ds,0<=d/\d<=32){h:ac}{d id:Nat}(hh:h id=bH ds cs p)(hd:h (2000+8*d)=.dead):
  bE R (az false) h d [.ref id none 0 0 0,I m] (.fn F.bound_grid_step [] [])=some (I (Ov (ds.take m) 1),upd h id (bH ds cs p),[]):=
 Lz (mM false) (AR false) (as':=[I m]) (by simp only[go_sem]) rfl rfl hh (cA _ _ _) (cA _ _ _) (fun _=>rfl) (ak8 hm h8 hb) (ah4 _) (azJ rfl) (by grind[cB,cF,bY])
theorem zO(a b:AV)(k:Nat)(r:List (List AV)):kQ 1 (.bx [a,.osl k r,b])=some (k,r):=rfl
theorem aqu{f:FuncId}{fd:FD}{args:List AV}{os:List Ob}{r:AV×List Ob}(hE:cO.E f=none)(hC:cO.C f=some fd)(hk:cO.md.keep f=false)(h1:args.length=fd.np)(h2:os.length<=1000)
  (hz:je false fd.rs fd.res os.length (aj R (az false) fd.body (uw args) (am os))=some r):R f args os=some r:=
 KX false hE hC hk h1 h2 hz
theorem X9(a b c d e:Ob):am [a,b,c,d,e]=upd (upd (upd (upd (upd (fun _=>.dead) 1004 e) 1003 d) 1002 c) 1001 b) 1000 a:=by
 funext i;unfold am upd;by_cases h0:i=1000
 ·simp_all
 by_cases h1:i=1001
 ·simp_all
 by_cases h2:i=1002
 ·simp_all
 by_cases h3:i=1003
 ·simp_all
 by_cases h4:i=1004
 ·simp_all
 simp only[h0,h1,h2,h3,h4,if_false];by_cases h5:1000<=i
 ·rw[if_pos h5,List.getElem?_eq_none (by simp;omega)];rfl
 grind
theorem Ya(a b c:Ob):am [a,b,c]=upd (upd (upd (fun _=>.dead) 1002 c) 1001 b) 1000 a:=by
 funext i;unfold am upd;by_cases h0:i=1000
 ·simp_all
 by_cases h1:i=1001
 ·simp_all
 by_cases h2:i=1002
 ·simp_all
 simp only[h0,h1,h2,if_false];by_cases h5:1000<=i
 ·rw[if_pos h5,List.getElem?_eq_none γ];rfl
 grind
def ge(x:Ri):Ob:=.bx [B x.lo.neg,lm x.lo.m,I x.lo.e,B x.hi.neg,lm x.hi.m,I x.hi.e,B x.all]
theorem gA(x:Ri):OC (ge x):=⟨fun _=>rfl,rfl,fun _=>rfl,rfl⟩
theorem adi{l st n:Int}{lo w:Ri}{ds:List Int}{cs cs':List Ri}{p:Int}(hR:R F.bound_grid_unit_1 [I l,I st,.ref 1000 none 0 0 0,.ref 1001 none 0 0 0,.ref 1002 none 0 0 0,.ref 1003 none 0 0 0] [.bx [I n],.bx [.ref 1004 none 0 0 0],ge lo,ge w,bH ds cs p]=some (.tup [],[.bx [I n],.bx [.ref 1004 none 0 0 0],ge lo,ge w,bH ds cs' p])){h:ac}{d:Nat}(h0:h 1000=bH ds cs p)(h1:h 1001=.bx [I n])(h2:h 1002=.bx [.ref 1000 none 0 0 0])(h3:h 1003=ge lo)(h4:h 1004=ge w)(hf:h (2000+8*d)=.dead):
  bE R (az false) h d [I l,I st] (.fn F.bound_grid_unit_1 [] [.ref 1001 none 0 0 0,.ref 1002 none 0 0 0,.ref 1003 none 0 0 0,.ref 1004 none 0 0 0])=some (.tup [],upd (upd (upd (upd (upd h 1001 (.bx [I n])) 1002 (.bx [.ref 1000 none 0 0 0])) 1003 (ge lo)) 1004 (ge w)) 1000 (bH ds cs' p),[(1001,true),(1002,true),(1003,true),(1004,true),(1000,true)]):=by
 have hre:ce h 40 [1001,1002,1003,1004] 0=[1001,1002,1003,1004,1000]:=by
  have i0:oZ (bH ds cs p)=[]:=(cA ds cs p).ids;have i1:oZ (.bx [I n])=[]:=rfl;have i2:oZ (.bx [.ref 1000 none 0 0 0])=[1000]:=rfl;have i3:oZ (ge lo)=[]:=(gA lo).ids;have i4:oZ (ge w)=[]:=(gA w).ids
  simp_all[ce,bA]
 unfold bE;rw[if_neg (by simp[kt,eM.1.2.1])];have hin:bS h [] [I l,I st,.ref 1001 none 0 0 0,.ref 1002 none 0 0 0,.ref 1003 none 0 0 0,.ref 1004 none 0 0 0]=some ([I l,I st,.ref 1001 none 0 0 0,.ref 1002 none 0 0 0,.ref 1003 none 0 0 0,.ref 1004 none 0 0 0],h,[]):=rfl;have hids:bA [] ([I l,I st,AV.ref 1001 none 0 0 0,.ref 1002 none 0 0 0,.ref 1003 none 0 0 0,.ref 1004 none 0 0 0].flatMap cr)=[1001,1002,1003,1004]:=rfl;simp only[dV,eM.1.2.1,ay8,azM,hin,ay2,hids,hre,eM.1.1];have hn:bp [] [I l,I st,AV.ref 1001 none 0 0 0,.ref 1002 none 0 0 0,.ref 1003 none 0 0 0,.ref 1004 none 0 0 0]=[I l,I st,AV.ref 1001 none 0 0 0,.ref 1002 none 0 0 0,.ref 1003 none 0 0 0,.ref 1004 none 0 0 0]:=rfl;rw[hn];unfold jK;have hob:([1001,1002,1003,1004,1000].map fun a=>dT (bj [1001,1002,1003,1004,1000]) (h a))=[.bx [I n],.bx [.ref 1004 none 0 0 0],ge lo,ge w,bH ds cs p]:=by
  simp only[List.map,h0,h1,h2,h3,h4];rfl
 have hcl:([1001,1002,1003,1004,1000].all fun a=>aA [1001,1002,1003,1004,1000] (h a)&&!bY (h a))=true:=by
  simp only[azm,azX,h0,h1,h2,h3,h4];rfl
 rw[hob,hcl,if_pos (by rfl)];rw[show [I l,I st,AV.ref 1001 none 0 0 0,.ref 1002 none 0 0 0,.ref 1003 none 0 0 0,.ref 1004 none 0 0 0].map (dS (bj [1001,1002,1003,1004,1000]))=[I l,I st,.ref 1000 none 0 0 0,.ref 1001 none 0 0 0,.ref 1002 none 0 0 0,.ref 1003 none 0 0 0]from rfl,hR,ay2,eM.1.2.2.2,eM.1.2.1,ur];unfold eG;rw[if_pos ⟨rfl,azJ rfl,azJ rfl,by simp[cB,cF],by grind[cU,ge,bH,bf,bY],rfl⟩];rfl
theorem adj{l st n:Int}{ds:List Int}{cs cs':List Ri}{p:Int}(hR:R F.bound_grid_bernstein_1 [I l,I st,.ref 1000 none 0 0 0,.ref 1001 none 0 0 0] [.bx [I n],.bx [.ref 1002 none 0 0 0],bH ds cs p]=some (.tup [],[.bx [I n],.bx [.ref 1002 none 0 0 0],bH ds cs' p])){h:ac}{d:Nat}(h0:h 1000=bH ds cs p)(h1:h 1001=.bx [I n])(h2:h 1002=.bx [.ref 1000 none 0 0 0])(hf:h (2000+8*d)=.dead):
  bE R (az false) h d [I l,I st] (.fn F.bound_grid_bernstein_1 [] [.ref 1001 none 0 0 0,.ref 1002 none 0 0 0])=some (.tup [],upd (upd (upd h 1001 (.bx [I n])) 1002 (.bx [.ref 1000 none 0 0 0])) 1000 (bH ds cs' p),[(1001,true),(1002,true),(1000,true)]):=by
 have hre:ce h 40 [1001,1002] 0=[1001,1002,1000]:=by
  have i0:oZ (bH ds cs p)=[]:=(cA ds cs p).ids;have i1:oZ (.bx [I n])=[]:=rfl;have i2:oZ (.bx [.ref 1000 none 0 0 0])=[1000]:=rfl
  simp_all[ce,bA]
 unfold bE;rw[if_neg (by simp[kt,dh.1.2.1])];have hin:bS h [] [I l,I st,.ref 1001 none 0 0 0,.ref 1002 none 0 0 0]=some ([I l,I st,.ref 1001 none 0 0 0,.ref 1002 none 0 0 0],h,[]):=rfl;have hids:bA [] ([I l,I st,AV.ref 1001 none 0 0 0,.ref 1002 none 0 0 0].flatMap cr)=[1001,1002]:=rfl;simp only[dV,dh.1.2.1,ay8,azM,hin,ay2,hids,hre,dh.1.1];have hn:bp [] [I l,I st,AV.ref 1001 none 0 0 0,.ref 1002 none 0 0 0]=[I l,I st,AV.ref 1001 none 0 0 0,.ref 1002 none 0 0 0]:=rfl;rw[hn];unfold jK;have hob:([1001,1002,1000].map fun a=>dT (bj [1001,1002,1000]) (h a))=[.bx [I n],.bx [.ref 1002 none 0 0 0],bH ds cs p]:=by
  simp only[List.map,h0,h1,h2];rfl
 have hcl:([1001,1002,1000].all fun a=>aA [1001,1002,1000] (h a)&&!bY (h a))=true:=by
  simp only[azm,azX,h0,h1,h2];rfl
 rw[hob,hcl,if_pos (by rfl)];rw[show [I l,I st,AV.ref 1001 none 0 0 0,.ref 1002 none 0 0 0].map (dS (bj [1001,1002,1000]))=[I l,I st,.ref 1000 none 0 0 0,.ref 1001 none 0 0 0]from rfl,hR,ay2,dh.1.2.2.2,dh.1.2.1,ur];unfold eG;rw[if_pos ⟨rfl,azJ rfl,azJ rfl,by simp[cB,cF],by grind[cU,bH,bf,bY],rfl⟩];rfl
theorem Yb{f:FuncId}{h:ac}{d:Nat}{zas as':List AV}{r:Option R3}(hm:(az false).m f=[])(hd:bS h [] zas=some (as',h,[]))(hc:bE R (az false) h d zas (.fn f [] [])=r):IJ R (az false) d f (as',h,[])=r:=by
 grind[IK]
theorem Ql{i:Nat}{m:Int}{lo w:Ri}{ds:List Int}{cs cs':List Ri}{p:Int}(hR:R F.bound_grid_lines [.ref 1000 none 0 0 0,I i,.fn F.bound_grid_unit_1 [] [.ref 1001 none 0 0 0,.ref 1002 none 0 0 0,.ref 1003 none 0 0 0,.ref 1004 none 0 0 0]] [bH ds cs p,.bx [I m],.bx [.ref 1000 none 0 0 0],ge lo,ge w]=some (.tup [],[bH ds cs' p,.bx [I m],.bx [.ref 1000 none 0 0 0],ge lo,ge w])){h:ac}{d:Nat}(h0:h 1000=bH ds cs p)(h1:h 8=.bx [I m])(h2:h 3=.bx [.ref 1000 none 0 0 0])(h3:h 6=ge lo)(h4:h 7=ge w)(hf:h (2000+8*d)=.dead):
  bE R (az false) h d [.ref 1000 none 0 0 0,I i,.fn F.bound_grid_unit_1 [] [.ref 8 none 0 0 0,.ref 3 none 0 0 0,.ref 6 none 0 0 0,.ref 7 none 0 0 0]] (.fn F.bound_grid_lines [] [])=some (.tup [],upd (upd (upd (upd (upd h 1000 (bH ds cs' p)) 8 (.bx [I m])) 3 (.bx [.ref 1000 none 0 0 0])) 6 (ge lo)) 7 (ge w),[(1000,true),(8,true),(3,true),(6,true),(7,true)]):=by
 have hre:ce h 40 [1000,8,3,6,7] 0=[1000,8,3,6,7]:=by
  have i0:oZ (bH ds cs p)=[]:=(cA _ _ p).ids;have i1:oZ (.bx [I m])=[]:=rfl;have i2:oZ (.bx [.ref 1000 none 0 0 0])=[1000]:=rfl;have i3:oZ (ge lo)=[]:=(gA lo).ids;have i4:oZ (ge w)=[]:=(gA w).ids
  simp_all[ce,bA]
 unfold bE;rw[if_neg (by simp[kt,bC.1.2.1])];have hin:bS h [] [.ref 1000 none 0 0 0,I i,.fn F.bound_grid_unit_1 [] [.ref 8 none 0 0 0,.ref 3 none 0 0 0,.ref 6 none 0 0 0,.ref 7 none 0 0 0]]=some ([.ref 1000 none 0 0 0,I i,.fn F.bound_grid_unit_1 [] [.ref 8 none 0 0 0,.ref 3 none 0 0 0,.ref 6 none 0 0 0,.ref 7 none 0 0 0]],h,[]):=rfl;have hids:bA [] ([AV.ref 1000 none 0 0 0,I i,.fn F.bound_grid_unit_1 [] [.ref 8 none 0 0 0,.ref 3 none 0 0 0,.ref 6 none 0 0 0,.ref 7 none 0 0 0]].flatMap cr)=[1000,8,3,6,7]:=rfl;simp only[dV,bC.1.2.1,ay8,azb,hin,ay2,hids,hre,bC.1.1];have hn:bp [] [AV.ref 1000 none 0 0 0,I i,.fn F.bound_grid_unit_1 [] [.ref 8 none 0 0 0,.ref 3 none 0 0 0,.ref 6 none 0 0 0,.ref 7 none 0 0 0]]=[AV.ref 1000 none 0 0 0,I i,.fn F.bound_grid_unit_1 [] [.ref 8 none 0 0 0,.ref 3 none 0 0 0,.ref 6 none 0 0 0,.ref 7 none 0 0 0]]:=rfl;rw[hn];unfold jK;have hob:([1000,8,3,6,7].map fun a=>dT (bj [1000,8,3,6,7]) (h a))=[bH ds cs p,.bx [I m],.bx [.ref 1000 none 0 0 0],ge lo,ge w]:=by
  simp only[List.map,h0,h1,h2,h3,h4];rfl
 have hcl:([1000,8,3,6,7].all fun a=>aA [1000,8,3,6,7] (h a)&&!bY (h a))=true:=by
  simp only[azm,azX,h0,h1,h2,h3,h4];rfl
 rw[hob,hcl,if_pos (by rfl)];rw[show [AV.ref 1000 none 0 0 0,I i,.fn F.bound_grid_unit_1 [] [.ref 8 none 0 0 0,.ref 3 none 0 0 0,.ref 6 none 0 0 0,.ref 7 none 0 0 0]].map (dS (bj [1000,8,3,6,7]))=[.ref 1000 none 0 0 0,I i,.fn F.bound_grid_unit_1 [] [.ref 1001 none 0 0 0,.ref 1002 none 0 0 0,.ref 1003 none 0 0 0,.ref 1004 none 0 0 0]]from rfl,hR,ay2,bC.1.2.2.2,bC.1.2.1,ur];unfold eG;rw[if_pos ⟨rfl,azJ rfl,azJ rfl,by simp[cB,cF],by grind[cU,ge,bH,bf,bY],rfl⟩];rfl
theorem Qm{i:Nat}{m:Int}{ds:List Int}{cs cs':List Ri}{p:Int}(hR:R F.bound_grid_lines [.ref 1000 none 0 0 0,I i,.fn F.bound_grid_bernstein_1 [] [.ref 1001 none 0 0 0,.ref 1002 none 0 0 0]] [bH ds cs p,.bx [I m],.bx [.ref 1000 none 0 0 0]]=some (.tup [],[bH ds cs' p,.bx [I m],.bx [.ref 1000 none 0 0 0]])){h:ac}{d:Nat}(h0:h 1000=bH ds cs p)(h1:h 4=.bx [I m])(h2:h 2=.bx [.ref 1000 none 0 0 0])(hf:h (2000+8*d)=.dead):
  bE R (az false) h d [.ref 1000 none 0 0 0,I i,.fn F.bound_grid_bernstein_1 [] [.ref 4 none 0 0 0,.ref 2 none 0 0 0]] (.fn F.bound_grid_lines [] [])=some (.tup [],upd (upd (upd h 1000 (bH ds cs' p)) 4 (.bx [I m])) 2 (.bx [.ref 1000 none 0 0 0]),[(1000,true),(4,true),(2,true)]):=by
 have hre:ce h 40 [1000,4,2] 0=[1000,4,2]:=by
  have i0:oZ (bH ds cs p)=[]:=(cA _ _ p).ids;have i1:oZ (.bx [I m])=[]:=rfl;have i2:oZ (.bx [.ref 1000 none 0 0 0])=[1000]:=rfl
  simp_all[ce,bA]
 unfold bE;rw[if_neg (by simp[kt,bC.1.2.1])];have hin:bS h [] [.ref 1000 none 0 0 0,I i,.fn F.bound_grid_bernstein_1 [] [.ref 4 none 0 0 0,.ref 2 none 0 0 0]]=some ([.ref 1000 none 0 0 0,I i,.fn F.bound_grid_bernstein_1 [] [.ref 4 none 0 0 0,.ref 2 none 0 0 0]],h,[]):=rfl;have hids:bA [] ([AV.ref 1000 none 0 0 0,I i,.fn F.bound_grid_bernstein_1 [] [.ref 4 none 0 0 0,.ref 2 none 0 0 0]].flatMap cr)=[1000,4,2]:=rfl;simp only[dV,bC.1.2.1,ay8,azb,hin,ay2,hids,hre,bC.1.1];have hn:bp [] [AV.ref 1000 none 0 0 0,I i,.fn F.bound_grid_bernstein_1 [] [.ref 4 none 0 0 0,.ref 2 none 0 0 0]]=[AV.ref 1000 none 0 0 0,I i,.fn F.bound_grid_bernstein_1 [] [.ref 4 none 0 0 0,.ref 2 none 0 0 0]]:=rfl;rw[hn];unfold jK;have hob:([1000,4,2].map fun a=>dT (bj [1000,4,2]) (h a))=[bH ds cs p,.bx [I m],.bx [.ref 1000 none 0 0 0]]:=by
  simp only[List.map,h0,h1,h2];rfl
 have hcl:([1000,4,2].all fun a=>aA [1000,4,2] (h a)&&!bY (h a))=true:=by
  simp only[azm,azX,h0,h1,h2];rfl
 rw[hob,hcl,if_pos (by rfl)];rw[show [AV.ref 1000 none 0 0 0,I i,.fn F.bound_grid_bernstein_1 [] [.ref 4 none 0 0 0,.ref 2 none 0 0 0]].map (dS (bj [1000,4,2]))=[.ref 1000 none 0 0 0,I i,.fn F.bound_grid_bernstein_1 [] [.ref 1001 none 0 0 0,.ref 1002 none 0 0 0]]from rfl,hR,ay2,bC.1.2.2.2,bC.1.2.1,ur];unfold eG;rw[if_pos ⟨rfl,azJ rfl,azJ rfl,by simp[cB,cF],by grind[cU,bH,bf,bY],rfl⟩];rfl
theorem afN{h:ac}{id id2:Nat}{cs:List AV}{a:AV}(h1:h id2=.bx cs)(h2:h id=.bx [.any]):Ns id 0 [.ref id2 none 0 0 0] (a,h,[])=some (a,upd h id (.bx [.ref id2 none 0 0 0]),[]):=by
 simp_all[bm,Ns,th,Jw,inP,Nr,DM]
def Yc(v:Nat)(c:Rd):List Rt:=if c.m.length=0 then []else [⟨iL v,c⟩]
def Yd(v:Nat)(c:Rd):Rp:=⟨v,Yc v c⟩
theorem Em:∀v,aS (iL v)=0
 |0=>rfl
 |v+1=>by
  have:=Em v;show aS ((0:Int)::iL v)=0;simp[aS]at this⊢;exact this
theorem afO{v:Nat}{c:Rd}(h8:v<=8)(oc:Ok0 c)(vc:vd c=true)(h0:c.m.length≠0):VT v ⟨iL v,c⟩:=
 ⟨oc,by simp[iL],by omega,vc,h0,U5,by grind[Em]⟩
theorem afP{call:iD}{md:Mode}{s:ai}{h:ac}(ps acc d k z b l c rest):df call md ps acc (⟨some d,none,.mkSl k z b l c⟩::rest) s h=jA call md ps acc rest s (some d) (fun _=>some ([],[dF d])) ((lI (ev s l) (ev s c)).bind fun p=>if p.2*b<=140737488355328 then cR h d k (ayW p.1 z) p.1 []else none):=eK _ _ _ _ rfl
theorem aiz{v:Nat}{c:Rd}(h8:v<=8)(oc:Ok0 c)(vc:vd c=true):R F.poly_Const [I v,af c] []=some (pV (Yd v c,0),[]):=by
 refine av Wz rfl ?_;have hv:=eF oc;rw[vc]at hv;have he:=Ce (v:=v);have z1:lI (.v (.int .i64 (v:Int))) (.v (.int .i64 (v:Int)))=some (v,v):=by
  simp only[lI];grind
 have z2:(v*8<=140737488355328)=True:=tt;have e1:((v:Int)<0)=False:=ff;have e2:(8< (v:Int))=False:=ff;simp only[af,ak]at hv;by_cases h0:c.m.length=0
 ·have e3:(0< (c.m.length:Int))=False:=ff;simp only[Yd,Yc,if_pos h0];simp only[yr,ES,af,ak,go_sem,e1,e2,e3,hv,he,qx];obtain⟨o,hdn⟩:=C1 (v:=v) (e:=0) (c:=.emp) (l:=[]) (d:=32) (id:=2168) (h:=upd (upd (upd (fun _=>.dead) 3 (.bx [B c.neg,lm c.m,I c.e])) 4 (.bx [I 0,.emp])) 2168 (.bx [I v,.emp,I 0])) rfl (.inr ⟨rfl,rfl⟩) rfl;have hd':=dB (bt.1.2.1 false) rfl hdn;rw[hd'];have e4:pj v (some [])=(⟨v,[]⟩,0):=rfl;rw[e4];simp only[pV,be,go_sem]
 ·have e3:(0< (c.m.length:Int))=True:=tt;simp only[Yd,Yc,if_neg h0];simp only[yr,ES,af,ak,go_sem,e1,e2,e3,hv,he,qx,afP,z1,z2,X8];have k1:(0+v<=(iL v).length)=True:=eq_true (by simp[iL]);have k2:(aI (iL v)).take v=aI (iL v):=azg (by grind[Cj,iL]);simp only[k1,k2,go_sem];have hadd:=dB (aQ.1.2.1 false) rfl (qw (d:=30) (id:=2168) (v:=v) (e:=0) (e':=0) (c:=.emp) (l:=[]) (x:=iL v) (q:=c) (h:=upd (upd (upd (upd (upd (fun _=>.dead) 3 (.bx [B c.neg,lm c.m,I c.e])) 4 (.bx [I 0,.emp])) 2168 (.bx [I v,.emp,I 0])) 28 (.ar 1 (aI (iL v)))) 28 (.fz 1 (aI (iL v)))) rfl (.inr ⟨rfl,rfl⟩) (.inl rfl) (Ol (afO h8 oc vc h0)));simp only[af,ak,t3]at hadd;simp only[hadd,go_sem];rw[if_pos (by rfl)];obtain⟨o,hdn⟩:=C1 (v:=v) (e:=0) (c:=.osl 4 (aD [⟨iL v,c⟩])) (l:=[⟨iL v,c⟩]) (d:=32) (id:=2168) (h:=upd (upd (upd (upd (upd (upd (fun _=>.dead) 3 (.bx [B c.neg,lm c.m,I c.e])) 4 (.bx [I 0,.emp])) 2168 (.bx [I v,.emp,I 0])) 28 (.ar 1 (aI (iL v)))) 28 (.fz 1 (aI (iL v)))) 2168 (.bx [I v,.osl 4 (aD [⟨iL v,c⟩]),I 0])) rfl (.inl rfl) rfl;have hd':=dB (bt.1.2.1 false) rfl hdn;rw[hd'];have e4:pj v (some [⟨iL v,c⟩])=(⟨v,[⟨iL v,c⟩]⟩,0):=rfl;have e5:=Eh [⟨iL v,c⟩];rw[e4];simp only[pV,be,e5,go_sem]
theorem Ye:vd aG=true:=δ
theorem aiA{c:Rd}{p:Int}:aY p [aG,c]=aY p [c]:=by
 simp_all[aY,azm,Ye,ay5]
theorem afQ:zI aG=0:=cZ rfl
theorem afR{c:Rd}{p:Int}{up:Bool}:di aG c p up=cu c p up:=by
 simp[di,cu,aiA,afQ,Int.zero_add]
theorem Yf{p:Int}(hp:bO p=true){up:Bool}:cu aG p up=(aG,0):=by
 simp_all[bO,ay1,decide_eq_true_eq,cu,aY,azm,azX,Ye,if_pos,afQ,jV]
theorem adk(h:ac)(d:Nat)(r q:List (List AV))(p:Int)(b:Bool):lM h d (some (.tup [.obx [.osl 1 r,.osl 7 q,I p],B b],[]))=if bY (h (2000+8*d))&&bY (h (2000+8*d+1))then some (.tup [.ref (2000+8*d) none 0 0 0,B b],upd h (2000+8*d) (.bx [.osl 1 r,.osl 7 q,I p]),[])else none:=by
 simp[lM,cF,jJ,fC,mP,aE,bm,aZ,bo,cB,mat,cT,dU]
theorem En(h:ac)(n:Nat)(g:Bool)(i j:Nat)(r:List (List AV)):pC h n g 7 i j (some (7,r))=(r[i]?).bind fun row=>(lj n g row j).map fun a=>(a,h,[]):=rfl
theorem ala{ds:List Int}{cs:List Ri}{p:Int}{x y:Ri}(ox:OkI x)(oy:OkI y):R F.bound_grid_add [.ref 1000 none 0 0 0,ap x,ap y] [bH ds cs p]=some (ap (gJ x y p),[bH ds cs p]):=by
 refine FI NY NX (Bk false) rfl ?_;have h:=B6 ox oy (p:=p);generalize gJ x y p=z at*
 simp only[ap,ax]at h;simp only[xH,E6,ap,ax,bH,go_sem,h];exact uY rfl rfl rfl (by rfl) (by simp only[go_sem])
theorem alb{ds:List Int}{cs:List Ri}{p:Int}{x y:Ri}(ox:OkI x)(oy:OkI y):R F.bound_grid_mul [.ref 1000 none 0 0 0,ap x,ap y] [bH ds cs p]=some (ap (gX x y p),[bH ds cs p]):=by
 refine FI N0 NZ (Bl false) rfl ?_;have h:=Ef ox oy (p:=p);generalize gX x y p=z at*
 simp only[ap,ax]at h;simp only[xI,E7,ap,ax,bH,go_sem,h];exact uY rfl rfl rfl (by rfl) (by simp only[go_sem])
theorem ajv(x:Ri):RT (ap x):=⟨fun _=>rfl,fun _ _=>rfl,fun _=>rfl⟩
theorem TO{ds:List Int}{cs:List Ri}{p:Int}{x y:Ri}(ox:OkI x)(oy:OkI y){h:ac}{d id:Nat}(hh:h id=bH ds cs p)(hd:h (2000+8*d)=.dead):
  IJ R (az false) d F.bound_grid_add ([.ref id none 0 0 0,ap x,ap y],h,[])=some (ap (gJ x y p),upd h id (bH ds cs p),[]):=
 dB (yV false) rfl (Lz (yV false) (Bk false) (as':=[ap x,ap y]) (by rw[ML];simp only[ap,ax,go_sem]) rfl rfl hh (cA _ _ _) (cA _ _ _) (fun _=>rfl) (ala ox oy) (ajv _) (azJ rfl) (by simp[cB,ap,cF,hd,bY]))
theorem GK{ds:List Int}{cs:List Ri}{p:Int}{x y:Ri}(ox:OkI x)(oy:OkI y){h:ac}{d id:Nat}(hh:h id=bH ds cs p)(hd:h (2000+8*d)=.dead):
  IJ R (az false) d F.bound_grid_mul ([.ref id none 0 0 0,ap x,ap y],h,[])=some (ap (gX x y p),upd h id (bH ds cs p),[]):=
 dB (yW false) rfl (Lz (yW false) (Bl false) (as':=[ap x,ap y]) (by rw[MM];simp only[ap,ax,go_sem]) rfl rfl hh (cA _ _ _) (cA _ _ _) (fun _=>rfl) (alb ox oy) (ajv _) (azJ rfl) (by simp[cB,ap,cF,hd,bY]))
theorem Mo{α:Type}{f:α->List AV}(h:∀x,Be (f x) (f x)=true):∀l:List α,Jx (l.map f) (l.map f)=true
 |[]=>rfl
 |a::l=>by simp only[List.map,Jx,h,Mo h l,ay5]
theorem aqv(z:Int):Be [I z] [I z]=true:=by simp[Be,Vk,Vj]
theorem anZ(x:Ri):Be (ax x) (ax x)=true:=by
 have h:∀m:List Nat,Jx (aC m) (aC m)=true:=Mo fun x=>by simp[Be,Vk,Vj]
 simp[ax,Be,Vk,Vj,lm,h]
theorem an0(ds:List Int)(cs:List Ri)(p:Int):LN (bH ds cs p) (bH ds cs p)=true:=by
 have h1:Jx (aI ds) (aI ds)=true:=Mo aqv ds;have h2:Jx (bK cs) (bK cs)=true:=Mo anZ cs;simp[bH,LN,Be,Vk,Vj,h1,h2]
theorem adl{h h':ac}{d id:Nat}{ds:List Int}{cs:List Ri}{p:Int}{x y:Ri}(hi:id<2000)(hh:h id=bH ds cs p)(hh':h' id=bH ds cs p):jL h d [.ref id none 0 0 0,ap x,ap y] h'=some ([id],[2000+8*d]):=by
 have hre:ce h 40 [id] 0=[id]:=by simp[ce,hh,(cA ds cs p).ids,bA]
 have hc:J9 h h' [id]=[]:=by simp[J9,hh,hh',an0]
 show(if _ then _ else if _ then some ((ce h 40 [id] 0).map dF,(J9 h h' (ce h 40 [id] 0)).map dF++[2000+8*d])else none)=_;rw[hre,hc,if_neg (by simp[dat,aE]),if_pos (by rfl)];simp[dF,hi]
def j6(N:Nat)(cs:List Ri)(g:G):Prop:=cs.length=N/\∀k x,cs[k]?=some x->In (g k) x
theorem j6.get{N:Nat}{cs:List Ri}{g:G}(h:j6 N cs g){k:Nat}(hk:k<N):∃x,cs[k]?=some x/\In (g k) x:=by
 have:k<cs.length:=by rw[h.1];exact hk
 exact⟨cs[k],List.getElem?_eq_getElem this,h.2 k _ (List.getElem?_eq_getElem this)⟩
theorem j6.set{N:Nat}{cs:List Ri}{g:G}(h:j6 N cs g){k:Nat}{x:Ri}{y:Rat}(hx:In y x):j6 N (cs.set k x) (gs g k y):=by
 refine⟨by rw[List.length_set];exact h.1,fun j z hz=>?_⟩;rw[List.getElem?_set]at hz;unfold gs;by_cases hj:k=j
 ·subst hj;rw[if_pos rfl]at hz;rw[if_pos rfl];split at hz
  ·cases hz;exact hx
  ·exact nomatch hz
 ·rw[if_neg hj]at hz;rw[if_neg fun h=>hj h.symm];exact h.2 j z hz
def unO(n:Nat)(lo w:Ri)(ds:List Int)(cs:List Ri)(p:Int)(h:ac):Prop:=h 1000=.bx [I n]/\h 1001=.bx [.ref 1004 none 0 0 0]/\h 1002=ge lo/\h 1003=ge w/\h 1004=bH ds cs p
theorem Ic(id:Nat)(h:ac)(i:Nat)(xs:List AV)(a b:AV)(r:List (List AV)):F0 h 7 id 1 7 i 0 xs [] (.bx [a,.osl 7 r,b])=(su 7 7 i 0 xs 7 r).map fun q=>(.und,upd h id (.bx [a,.osl 7 q,b]),[]):=rfl
theorem Ie{cs:List Ri}{k:Nat}{u:Ri}(hk:k<cs.length):su 7 7 k 0 (ax u) 7 (bK cs)=some (bK (cs.set k u)):=by
 have h1:(bK cs)[k]?=some (ax cs[k]):=by unfold bK;rw[List.getElem?_map,List.getElem?_eq_getElem hk];rfl
 unfold su;rw[if_pos rfl,h1];simp[setRow,ax,bK,List.map_set]
attribute [-go_sem] CQ in
theorem alc{ds:List Int}{p:Int}{N f st i n:Nat}{lo w:Ri}{l:Rat}(hl:In l lo)(hN:f+n*st<N)(hN4:N<=400)(hn:n<=400):∀ (k:Nat),i+k<=n->∀ (cs:List Ri) (g:G),j6 N cs g->∀ (s:ai) (h:ac) (X:Option (Ex×St)),ah 2 [0,1,2,3,4,5,13,14] (aq (aj R (az false) iT) [0,1,2,3,4,5,8,9,13,14] [1000,1001,1002,1003,1004] s h)=X->
  s 0=I f->s 1=I st->s 2=.ref 1000 none 0 0 0->s 3=.ref 1001 none 0 0 0->s 4=.ref 1002 none 0 0 0->s 5=.ref 1003 none 0 0 0->s 8=I i->s 9=I ((i:Int)+k-1)->s 13=I n->s 14=I i->unO n lo w ds cs p h->
  ∃hh cs',X=some (.normal,⟨upd (upd (upd (upd (upd (upd (upd (upd (fun _=>.any) 14 (I i)) 13 (I n)) 5 (.ref 1003 none 0 0 0)) 4 (.ref 1002 none 0 0 0)) 3 (.ref 1001 none 0 0 0)) 2 (.ref 1000 none 0 0 0)) 1 (I st)) 0 (I f),hh⟩)/\unO n lo w ds cs' p hh/\j6 N cs' (Nm l (fun j=>f+j*st) i k g):=by
 intro k;induction k with
 |zero=>
  intro hk cs g he s h X hX g0 g1 g2 g3 g4 g5 g8 g9 g13 g14 ho;subst hX;obtain⟨k0,k1,k2,k3,k4⟩:=ho;have e1:((i:Int)<=(i:Int)+((0:Nat):Int)-1)=False:=ff;have hg:=(cA ds cs p).cl [1000,1001,1002,1003,1004];have hlo:=(gA lo).cl [1000,1001,1002,1003,1004];have hw:=(gA w).cl [1000,1001,1002,1003,1004];rw[ag];refine⟨?hh0,cs,?_,?_,he⟩;rotate_left
  ·simp only[iT,go_sem,g0,g1,g2,g3,g4,g5,g8,g9,g13,g14,k0,k1,k2,k3,k4,hg,hlo,hw,e1];rfl
  ·exact⟨rfl,rfl,rfl,rfl,rfl⟩
 |succ k ih=>
  intro hk cs g he s h X hX g0 g1 g2 g3 g4 g5 g8 g9 g13 g14 ho;subst hX;obtain⟨k0,k1,k2,k3,k4⟩:=ho;have hm1:(i+k)*st<=n*st:=ay7 _ ω;have hm2:(i+k+1)*st<=n*st:=ay7 _ ω;have hs2:(i+k+1)*st=(i+k)*st+st:=by rw[azn,Nat.one_mul]
  have e1:((i:Int)<=(i:Int)+((k+1:Nat):Int)-1)=True:=tt;have w1:IntKind.i64.wrap (((i:Int)+((k+1:Nat):Int)-1)*st)=(((i+k)*st:Nat):Int):=by
   rw[show((i:Int)+((k+1:Nat):Int)-1)=((i+k:Nat):Int)by omega,←Int.natCast_mul];exact i64_in _ ⟨by omega,by omega⟩
  have w2:IntKind.i64.wrap ((f:Int)+(((i+k)*st:Nat):Int))=((f+(i+k)*st:Nat):Int):=wi;have w3:IntKind.i64.wrap (((f+(i+k)*st:Nat):Int)+(st:Int))=((f+(i+k+1)*st:Nat):Int):=wi;have w4:IntKind.i64.wrap ((i:Int)+((k+1:Nat):Int)-1-1)=(i:Int)+(k:Int)-1:=by rw[i64_in _ ⟨by omega,by omega⟩];omega
  obtain⟨x,x1,x2⟩:=he.get (k:=f+(i+k)*st) ω;obtain⟨y,y1,y2⟩:=he.get (k:=f+(i+k+1)*st) ω;have hg:=(cA ds cs p).cl [1000,1001,1002,1003,1004];have hlo:=(gA lo).cl [1000,1001,1002,1003,1004];have hw:=(gA w).cl [1000,1001,1002,1003,1004];have cm:=fun(h:ac) (d:Nat) hh hd=>GK (ds:=ds) (cs:=cs) (p:=p) (h:=h) (d:=d) (id:=1004) hl.ok y2.ok hh hd;have pm:=Ch (p:=p) hl y2;have ca:=fun(h:ac) (d:Nat) hh hd=>TO (ds:=ds) (cs:=cs) (p:=p) (h:=h) (d:=d) (id:=1004) x2.ok pm.ok hh hd;have pa:=Ib (p:=p) x2 pm;have q1:(bK cs)[f+(i+k)*st]?=some (ax x):=by unfold bK;rw[List.getElem?_map,x1];rfl
  have q2:(bK cs)[f+(i+k+1)*st]?=some (ax y):=by unfold bK;rw[List.getElem?_map,y1];rfl
  have i1:(0<=((f+(i+k)*st:Nat):Int))=True:=tt;have i2:(0<=((f+(i+k+1)*st:Nat):Int))=True:=tt;have i3:(((f+(i+k)*st:Nat):Int)< (cs.length:Int))=True:=eq_true (by rw[he.1];omega);have i4:(((f+(i+k+1)*st:Nat):Int)< (cs.length:Int))=True:=eq_true (by rw[he.1];omega);have sr1:∀u:Ri,su 7 7 (f+(i+k)*st) 0 (ax u) 7 (bK cs)=some (bK (cs.set (f+(i+k)*st) u)):=fun u=>Ie (by rw[he.1];omega);have ih':=ih ω _ _ (he.set (k:=f+(i+k)*st) pa);rw[ag];generalize aq _ _ _=L at ih'⊢;generalize gX lo y p=z at*
  generalize gJ x z p=u at*
  simp only[bH,ap,ax]at cm ca;simp only[ax]at q1 q2 sr1;simp only[bH]at k4 hg;simp only[ge]at k2 k3 hlo hw;simp only[iT,go_sem,g0,g1,g2,g3,g4,g5,g8,g9,g13,g14,k0,k1,k2,k3,k4,hg,hlo,hw,e1,w1,w2,w3,w4,i1,i2,i3,i4,zO,En,ay4,ayX,q1,q2];rw[cm _ _ rfl rfl];have fp:=fun(h h':ac) (d:Nat) (x y:Ri)=>adl (h:=h) (h':=h') (d:=d) (id:=1004) (ds:=ds) (cs:=cs) (p:=p) (x:=x) (y:=y) δ;simp only[bH,ap,ax]at fp;simp only[go_sem,fp];rw[ca _ _ rfl rfl];simp only[go_sem,fp,i1,i3,ay4,ayX,Ic,sr1,w4];exact ih' _ _ _ rfl rfl rfl rfl rfl rfl rfl rfl rfl rfl rfl ⟨rfl,rfl,rfl,rfl,rfl⟩
theorem ald{ds:List Int}{p:Int}{N f st n:Nat}{lo w:Ri}{l:Rat}(hl:In l lo)(hN:f+n*st<N)(hN4:N<=400)(hn:n<=400):∀ (k i:Nat),i+k=n->∀ (cs:List Ri) (g:G),j6 N cs g->∀ (s:ai) (h:ac) (X:Option (Ex×St)),ah 0 [0,1,2,3,5] (aq (aj R (az false) lk) [0,1,2,3,4,5,13,14] [1000,1001,1002,1003,1004] s h)=X->
  s 0=I f->s 1=I st->s 2=.ref 1000 none 0 0 0->s 3=.ref 1001 none 0 0 0->s 4=.ref 1002 none 0 0 0->s 5=.ref 1003 none 0 0 0->s 13=I n->s 14=I i->unO n lo w ds cs p h->
  ∃hh cs',X=some (.normal,⟨upd (upd (upd (upd (upd (fun _=>.any) 5 (.ref 1003 none 0 0 0)) 3 (.ref 1001 none 0 0 0)) 2 (.ref 1000 none 0 0 0)) 1 (I st)) 0 (I f),hh⟩)/\unO n lo w ds cs' p hh/\(∀a,a≠1000->a≠1001->a≠1002->a≠1003->a≠1004->hh a=.dead)/\j6 N cs' (Nn l (fun j=>f+j*st) k i g):=by
 intro k;induction k with
 |zero=>
  intro i hk cs g he s h X hX g0 g1 g2 g3 g4 g5 g13 g14 ho;subst hX;obtain⟨k0,k1,k2,k3,k4⟩:=ho;have e1:((i:Int)<n)=False:=ff;have hg:=(cA ds cs p).cl [1000,1001,1002,1003,1004];have hlo:=(gA lo).cl [1000,1001,1002,1003,1004];have hw:=(gA w).cl [1000,1001,1002,1003,1004];rw[ag];refine⟨?hh0,cs,?_,?_,?_,he⟩;rotate_left
  ·simp only[lk,go_sem,g0,g1,g2,g3,g4,g5,g13,g14,k0,k1,k2,k3,k4,hg,hlo,hw,e1];rfl
  ·exact⟨rfl,rfl,rfl,rfl,rfl⟩
  ·intro a a1 a2 a3 a4 a5;simp only[cj,a1,a2,a3,a4,a5,if_false]
 |succ k ih=>
  intro i hk cs g he s h X hX g0 g1 g2 g3 g4 g5 g13 g14 ho;subst hX;have ho':=ho;obtain⟨k0,k1,k2,k3,k4⟩:=ho;have e1:((i:Int)<n)=True:=tt;have w1:IntKind.i64.wrap ((n:Int)-1)=(i:Int)+((k+1:Nat):Int)-1:=by rw[i64_in _ ⟨by omega,by omega⟩];omega
  have w2:IntKind.i64.wrap ((i:Int)+1)=((i+1:Nat):Int):=wi;have hg:=(cA ds cs p).cl [1000,1001,1002,1003,1004];have hlo:=(gA lo).cl [1000,1001,1002,1003,1004];have hw:=(gA w).cl [1000,1001,1002,1003,1004];have hu:=alc (ds:=ds) (p:=p) (w:=w) hl hN hN4 hn (i:=i) (k+1) ω cs g he;have ih':=ih (i+1) ω;rw[ag];generalize aq _ _ _=L at ih'⊢;simp only[lk,go_sem,g0,g1,g2,g3,g4,g5,g13,g14,k0,k1,k2,k3,k4,hg,hlo,hw,e1,w1];generalize hX:ah 2 _ _=X;obtain⟨hh,cs',rfl,ho2,he2⟩:=hu _ _ _ hX rfl rfl rfl rfl rfl rfl rfl rfl rfl rfl ⟨rfl,rfl,rfl,rfl,rfl⟩;simp only[go_sem,w2];exact ih' cs' _ he2 _ _ _ rfl rfl rfl rfl rfl rfl rfl rfl rfl ho2
attribute [-go_sem] CQ in
theorem ale{ds:List Int}{p:Int}{N f st n:Nat}{lo w:Ri}{u:Rat}(hw:In u w)(hN:f+n*st<N)(hN4:N<=400)(hn:n<=400):∀ (k j:Nat),j+k=n+1->∀ (cs:List Ri) (g:G),j6 N cs g->∀ (sc:Ri) (b:Rat),In b sc->∀ (s:ai) (h:ac) (X:Option (Ex×St)),ah 4 [] (aq (aj R (az false) iS) [0,1,2,3,5,11,12] [11,1000,1001,1002,1003,1004] s h)=X->
  s 0=I f->s 1=I st->s 2=.ref 1000 none 0 0 0->s 3=.ref 1001 none 0 0 0->s 5=.ref 1003 none 0 0 0->s 11=.ref 11 none 0 0 0->s 12=I j->h 11=ge sc->unO n lo w ds cs p h->
  ∃hh cs',X=some (.normal,⟨fun _=>.any,hh⟩)/\unO n lo w ds cs' p hh/\j6 N cs' (TI u (fun j=>f+j*st) k j b g):=by
 intro k;induction k with
 |zero=>
  intro j hk cs g he sc b hb s h X hX g0 g1 g2 g3 g5 g11 g12 k11 ho;subst hX;obtain⟨k0,k1,k2,k3,k4⟩:=ho;have e1:((j:Int)<=n)=False:=ff;have hg:=(cA ds cs p).cl [11,1000,1001,1002,1003,1004];have hlo:=(gA lo).cl [11,1000,1001,1002,1003,1004];have hw:=(gA w).cl [11,1000,1001,1002,1003,1004];have hs:=(gA sc).cl [11,1000,1001,1002,1003,1004];rw[ag];refine⟨?hh0,cs,?_,?_,he⟩;rotate_left
  ·simp only[iS,go_sem,g0,g1,g2,g3,g5,g11,g12,k0,k1,k2,k3,k4,k11,hg,hlo,hw,hs,e1];rfl
  ·exact⟨rfl,rfl,rfl,rfl,rfl⟩
 |succ k ih=>
  intro j hk cs g he sc b hb s h X hX g0 g1 g2 g3 g5 g11 g12 k11 ho;subst hX;obtain⟨k0,k1,k2,k3,k4⟩:=ho;have hm1:j*st<=n*st:=ay7 _ ω;have e1:((j:Int)<=n)=True:=tt;have w1:IntKind.i64.wrap ((j:Int)*st)=((j*st:Nat):Int):=wi (Int.natCast_mul ..).symm ω;have w2:IntKind.i64.wrap ((f:Int)+((j*st:Nat):Int))=((f+j*st:Nat):Int):=wi;have w4:IntKind.i64.wrap ((j:Int)+1)=((j+1:Nat):Int):=wi;obtain⟨x,x1,x2⟩:=he.get (k:=f+j*st) ω;have hg:=(cA ds cs p).cl [11,1000,1001,1002,1003,1004];have hlo:=(gA lo).cl [11,1000,1001,1002,1003,1004];have hwo:=(gA w).cl [11,1000,1001,1002,1003,1004];have hs:=(gA sc).cl [11,1000,1001,1002,1003,1004];have cm:=fun(h:ac) (d:Nat) hh hd=>GK (ds:=ds) (cs:=cs) (p:=p) (h:=h) (d:=d) (id:=1004) hb.ok hw.ok hh hd;have pm:=Ch (p:=p) hb hw;have ca:=fun(h:ac) (d:Nat) hh hd=>GK (ds:=ds) (cs:=cs) (p:=p) (h:=h) (d:=d) (id:=1004) x2.ok pm.ok hh hd;have pa:=Ch (p:=p) x2 pm;have q1:(bK cs)[f+j*st]?=some (ax x):=by unfold bK;rw[List.getElem?_map,x1];rfl
  have i1:(0<=((f+j*st:Nat):Int))=True:=tt;have i3:(((f+j*st:Nat):Int)< (cs.length:Int))=True:=eq_true (by rw[he.1];omega);have sr1:∀u:Ri,su 7 7 (f+j*st) 0 (ax u) 7 (bK cs)=some (bK (cs.set (f+j*st) u)):=fun u=>Ie (by rw[he.1];omega);have ih':=ih (j+1) ω _ _ (he.set (k:=f+j*st) pa) _ _ pm;rw[ag];generalize aq _ _ _=L at ih'⊢;generalize gX sc w p=z at*
  generalize gX x z p=v at*
  simp only[bH,ap,ax]at cm ca;simp only[ax]at q1 sr1;simp only[bH]at k4 hg;simp only[ge]at k2 k3 k11 hlo hwo hs;simp only[iS,go_sem,g0,g1,g2,g3,g5,g11,g12,k0,k1,k2,k3,k4,k11,hg,hlo,hwo,hs,e1];rw[cm _ _ rfl rfl];have fp:=fun(h h':ac) (d:Nat) (x y:Ri)=>adl (h:=h) (h':=h') (d:=d) (id:=1004) (ds:=ds) (cs:=cs) (p:=p) (x:=x) (y:=y) δ;simp only[bH,ap,ax]at fp;simp only[go_sem,w1,w2,i1,i3,zO,En,ay4,ayX,q1];rw[ca _ _ rfl rfl];simp only[go_sem,fp,i1,i3,ay4,ayX,Ic,sr1,w4];exact ih' _ _ _ rfl rfl rfl rfl rfl rfl rfl rfl rfl ⟨rfl,rfl,rfl,rfl,rfl⟩
theorem Qn{n:Nat}{h:ac}{os:List Ob}(hm:(de n).map h=os)(hc:(os.all fun o=>aA (de n) o)=true):uv [] n h []=some (.tup [],os):=by
 have h1:((de n).all fun i=>aA (de n) (h i))=true:=by
  rw[←hm,List.all_map]at hc;exact hc
 unfold uv;rw[h1,hm];rfl
theorem Mp{f:FuncId}{fd:FD}{args:List AV}{os:List Ob}{α:Type}{r:α->AV×List Ob}{P:α->Prop}(hE:cO.E f=none)(hC:cO.C f=some fd)(hk:cO.md.keep f=false)(h1:args.length=fd.np)(h2:os.length<=1000)
  (hz:∃a,je false fd.rs fd.res os.length (aj R (az false) fd.body (uw args) (am os))=some (r a)/\P a):∃a,R f args os=some (r a)/\P a:=by
 obtain⟨a,h3,h4⟩:=hz;exact⟨a,aqu hE hC hk h1 h2 h3,h4⟩
theorem aiB{ds:List Int}{cs:List Ri}{p:Int}{N f st n:Nat}{lo w:Ri}{l u:Rat}{g:G}(hl:In l lo)(hw:In u w)(he:j6 N cs g)(hN:f+n*st<N)(hN4:N<=400)(hn:n<=400):
  ∃cs',R F.bound_grid_unit_1 [I f,I st,.ref 1000 none 0 0 0,.ref 1001 none 0 0 0,.ref 1002 none 0 0 0,.ref 1003 none 0 0 0] [.bx [I n],.bx [.ref 1004 none 0 0 0],ge lo,ge w,bH ds cs p]=some (.tup [],[.bx [I n],.bx [.ref 1004 none 0 0 0],ge lo,ge w,bH ds cs' p])/\j6 N cs' (P8 l u n (fun j=>f+j*st) g):=by
 have h2:=ald (ds:=ds) (p:=p) (w:=w) hl hN hN4 hn n 0 (ayX _) cs g he;have h3:=fun(cs:List Ri) (g:G) he=>ale (ds:=ds) (p:=p) (lo:=lo) (n:=n) (st:=st) (f:=f) hw hN hN4 hn n 1 (Nat.add_comm _ _) cs g he ⟨one,one,false⟩ 1 (by rw[←X6];exact xe dW.1 dW.2);have hi:=La;have hp:=jY dW.2 dW.1;refine Mp eM.2.1 eM.2.2 (eM.1.2.2.2 false) rfl (azJ rfl) ?_;have hgo:=(cA ds cs p).cl [1000,1001,1002,1003,1004];have hlo:=(gA lo).cl [1000,1001,1002,1003,1004];have hwo:=(gA w).cl [1000,1001,1002,1003,1004];simp only[af,ak,ap,ax]at hi hp;simp only[sR,Bh,X9,go_sem];generalize hX:ah 0 _ _=X;obtain⟨hh,cs1,rfl,ho,hd,he1⟩:=h2 _ _ _ hX rfl rfl rfl rfl rfl rfl rfl rfl ⟨rfl,rfl,rfl,rfl,rfl⟩;obtain⟨k0,k1,k2,k3,k4⟩:=ho;have d1:=hd 2456 δ δ δ δ δ;have d2:=hd 2464 δ δ δ δ δ;have d3:=hd 11 δ δ δ δ δ;simp only[go_sem,hi,hp,d1,d2,d3];generalize hX:ah 4 _ _=X;obtain⟨hh2,cs2,rfl,ho,he2⟩:=h3 cs1 _ he1 _ _ _ hX rfl rfl rfl rfl rfl rfl rfl rfl ⟨k0,k1,k2,k3,k4⟩;obtain⟨k0,k1,k2,k3,k4⟩:=ho;refine⟨cs2,?_,he2⟩;simp only[go_sem];have hp5:de 5=[1000,1001,1002,1003,1004]:=rfl;refine Qn (by rw[hp5];simp only[List.map,k0,k1,k2,k3,k4]) ?_;simp only[hp5,azm,azX,(cA ds cs2 p).cl,hlo,hwo];rfl
def y9(n:Nat):Rd:=br false n 0
theorem aaX{n:Nat}(hn:n<=1000):(vd (y9 n)=true/\Ok0 (y9 n))/\qv (y9 n)=n:=by
 have hr:qL (ae (ab (y9 n).m)) (y9 n).e=true:=by
  unfold y9;by_cases h0:n=0
  ·subst h0;rfl
  ·obtain⟨g1,g2,g3,g4⟩:=qF (neg:=false) (e:=0) h0;have hb:ae n<=10:=bD.2 ω;rw[g1,g2];unfold qL;simp only[Bool.or_eq_true,ay1,decide_eq_true_eq];omega
 have hv:vd (y9 n)=true:=Ec hr;have hb:Lb (y9 n).m:=wZ false n 0;refine⟨⟨hv,hb,azt (AX hv hb) δ⟩,?_⟩;have hc:cK (y9 n)=(y9 n,0):=by
  simp_all[cK,if_pos]
 have hz:zI (cK (y9 n)).1=_:=Ln (q:=n) (u:=0) δ (by grind[cK,y9]);rw[hc]at hz;obtain⟨N,hN⟩:∃N:Nat,N=16384:=⟨_,rfl⟩;rw[show((0:Int)+16384).toNat=N by omega]at hz;unfold qv EQ;rw[hz,←hN,show(((n*2^N:Nat):Int):Rat)=n*pQ N by rw[Int.natCast_mul,Int.natCast_pow,Rat.intCast_mul];rfl];grind[Lp]
theorem afS{n:Nat}(hn:n<=1000):R F.dyadic_Int [I n] []=some (af (y9 n),[]):=by
 have:=Fw (n:=(n:Int)) (by grind[Xc]);exact this
def beO(n:Nat)(ds:List Int)(cs:List Ri)(p:Int)(h:ac):Prop:=h 1000=.bx [I n]/\h 1001=.bx [.ref 1002 none 0 0 0]/\h 1002=bH ds cs p/\h 1003=.dead
theorem an1{h h':ac}{d:Nat}{l:List AV}(hl:l.all dat=true):jL h d l h'=some ([],[2000+8*d]):=by
 rw[CQ,if_pos hl]
attribute [-go_sem] CQ in
theorem alf{ds:List Int}{p:Int}{N f st n:Nat}(hN:f+n*st<N)(hN4:N<=400)(hn:n<=400):∀ (k j:Nat),j+k=n->∀ (cs:List Ri) (g:G),j6 N cs g->∀ (sc:Ri) (b:Rat),In b sc->∀ (s:ai) (h:ac) (X:Option (Ex×St)),ah 0 [0,1,2,3] (aq (aj R (az false) iJ) [0,1,2,3,6,7] [6,1000,1001,1002,1003] s h)=X->
  s 0=I f->s 1=I st->s 2=.ref 1000 none 0 0 0->s 3=.ref 1001 none 0 0 0->s 6=.ref 6 none 0 0 0->s 7=I (j+1:Nat)->h 6=ge sc->beO n ds cs p h->
  ∃hh cs',X=some (.normal,⟨upd (upd (upd (upd (fun _=>.any) 3 (.ref 1001 none 0 0 0)) 2 (.ref 1000 none 0 0 0)) 1 (I st)) 0 (I f),hh⟩)/\beO n ds cs' p hh/\j6 N cs' (No n (fun j=>f+j*st) k (j+1) b g):=by
 intro k;induction k with
 |zero=>
  intro j hk cs g he sc b hb s h X hX g0 g1 g2 g3 g6 g7 k6 ho;subst hX;obtain⟨k0,k1,k2,k3⟩:=ho;have e1:(((j+1:Nat):Int)<=n)=False:=ff;have hg:=(cA ds cs p).cl [6,1000,1001,1002,1003];have hs:=(gA sc).cl [6,1000,1001,1002,1003];rw[ag];refine⟨?hh0,cs,?_,?_,he⟩;rotate_left
  ·simp only[iJ,go_sem,g0,g1,g2,g3,g6,g7,k0,k1,k2,k3,k6,hg,hs,e1];rfl
  ·exact⟨rfl,rfl,rfl,rfl⟩
 |succ k ih=>
  intro j hk cs g he sc b hb s h X hX g0 g1 g2 g3 g6 g7 k6 ho;subst hX;obtain⟨k0,k1,k2,k3⟩:=ho;have hm1:(j+1)*st<=n*st:=ay7 _ ω;have e1:(((j+1:Nat):Int)<=n)=True:=tt;have w0:IntKind.i64.wrap ((n:Int)- ((j+1:Nat):Int))=(k:Int):=wi;have w5:IntKind.i64.wrap ((k:Int)+1)=((k+1:Nat):Int):=wi;have w1:IntKind.i64.wrap (((j+1:Nat):Int)*st)=(((j+1)*st:Nat):Int):=wi (Int.natCast_mul ..).symm ω;have w2:IntKind.i64.wrap ((f:Int)+(((j+1)*st:Nat):Int))=((f+(j+1)*st:Nat):Int):=wi;have w4:IntKind.i64.wrap (((j+1:Nat):Int)+1)=((j+1+1:Nat):Int):=wi;obtain⟨x,x1,x2⟩:=he.get (k:=f+(j+1)*st) ω;have hg:=(cA ds cs p).cl [6,1000,1001,1002,1003];have hs:=(gA sc).cl [6,1000,1001,1002,1003];obtain⟨t1,t2⟩:=aaX (n:=k+1) ω;obtain⟨u1,u2⟩:=aaX (n:=j+1) ω;have ci1:=afS (n:=k+1) ω;have ci2:=afS (n:=j+1) ω;have cp1:=jY t1.2 t1.1;have cp2:=jY u1.2 u1.1;have ip1:=xe t1.1 t1.2;have ip2:=xe u1.1 u1.2;rw[t2]at ip1;rw[u2]at ip2;have cm:=fun(h:ac) (d:Nat) hh hd=>GK (ds:=ds) (cs:=cs) (p:=p) (h:=h) (d:=d) (id:=1002) hb.ok ip1.ok hh hd;have pm:=Ch (p:=p) hb ip1;have cd:=aaJ pm.ok ip2.ok (p:=p);have pd:=aaS (p:=p) pm ip2;have cd2:=aaJ x2.ok pd.ok (p:=p);have pd2:=aaS (p:=p) x2 pd;have hbe:b*((n:Rat)- (j+1:Nat)+1)/ (j+1:Nat)=b*((k+1:Nat):Rat)/ ((j+1:Nat):Rat):=by
   have:(n:Rat)=(j+(k+1):Nat):=by rw[hk]
   grind
  have q1:(bK cs)[f+(j+1)*st]?=some (ax x):=by grind[bK]
  have i1:(0<=((f+(j+1)*st:Nat):Int))=True:=tt;have i3:(((f+(j+1)*st:Nat):Int)< (cs.length:Int))=True:=eq_true γ;have sr1:∀u:Ri,su 7 7 (f+(j+1)*st) 0 (ax u) 7 (bK cs)=some (bK (cs.set (f+(j+1)*st) u)):=fun u=>Ie γ;have ih':=ih (j+1) ω _ _ (he.set (k:=f+(j+1)*st) pd2) _ _ pd;have hdv:No n (fun j=>f+j*st) (k+1) (j+1) b g=No n (fun j=>f+j*st) k (j+1+1) (b*((k+1:Nat):Rat)/ ((j+1:Nat):Rat)) (gs g (f+(j+1)*st) (g (f+(j+1)*st)/ (b*((k+1:Nat):Rat)/ ((j+1:Nat):Rat)))):=by
   rw[←hbe];rfl
  rw[hdv,ag];generalize aq _ _ _=L at ih'⊢;generalize y9 (k+1)=c1 at*
  generalize y9 (j+1)=c2 at*
  generalize gX sc ⟨c1,c1,false⟩ p=z at*
  generalize Sk z ⟨c2,c2,false⟩ p=v at*
  generalize Sk x v p=y at*
  simp only[bH,ap,ax]at cm;simp only[af,ak,ap,ax]at ci1 ci2 cp1 cp2 cd cd2;simp only[ax]at q1 sr1;simp only[bH]at k2 hg;simp only[ge]at k6 hs;simp only[iJ,go_sem,g0,g1,g2,g3,g6,g7,k0,k1,k2,k3,k6,hg,hs,e1,w0,w5,ci1,cp1];have fp:=fun(h h':ac) (d:Nat) (x y:Ri)=>adl (h:=h) (h':=h') (d:=d) (id:=1002) (ds:=ds) (cs:=cs) (p:=p) (x:=x) (y:=y) δ;simp only[bH,ap,ax]at fp;have fp1:=fun(h h':ac) (d:Nat)=>fp h h' d sc ⟨c1,c1,false⟩;rw[cm _ _ rfl rfl];simp only[go_sem,fp1,an1,ci2,cp2,cd,w1,w2,i1,i3,zO,En,ay4,ayX,q1,cd2,Ic,sr1,w4];exact ih' _ _ _ rfl rfl rfl rfl rfl rfl rfl rfl ⟨rfl,rfl,rfl,rfl⟩
attribute [-go_sem] CQ in
theorem alg{ds:List Int}{p:Int}{N f st n j:Nat}(hN:f+n*st<N)(hN4:N<=400)(hn:n<=400):∀ (k:Nat),j+k<=n->∀ (cs:List Ri) (g:G),j6 N cs g->∀ (s:ai) (h:ac) (X:Option (Ex×St)),ah 4 [0,1,2,3,8] (aq (aj R (az false) fk) [0,1,2,3,8,9] [1000,1001,1002,1003] s h)=X->
  s 0=I f->s 1=I st->s 2=.ref 1000 none 0 0 0->s 3=.ref 1001 none 0 0 0->s 8=I (j+1:Nat)->s 9=I (j+k:Nat)->beO n ds cs p h->
  ∃hh cs',X=some (.normal,⟨upd (upd (upd (upd (upd (fun _=>.any) 8 (I (j+1:Nat))) 3 (.ref 1001 none 0 0 0)) 2 (.ref 1000 none 0 0 0)) 1 (I st)) 0 (I f),hh⟩)/\beO n ds cs' p hh/\j6 N cs' (P7 (fun j=>f+j*st) j k g):=by
 intro k;induction k with
 |zero=>
  intro hk cs g he s h X hX g0 g1 g2 g3 g8 g9 ho;subst hX;obtain⟨k0,k1,k2,k3⟩:=ho;have e1:(((j+1:Nat):Int)<=((j+0:Nat):Int))=False:=ff;have hg:=(cA ds cs p).cl [1000,1001,1002,1003];rw[ag];refine⟨?hh0,cs,?_,?_,he⟩;rotate_left
  ·simp only[fk,go_sem,g0,g1,g2,g3,g8,g9,k0,k1,k2,k3,hg,e1];rfl
  ·exact⟨rfl,rfl,rfl,rfl⟩
 |succ k ih=>
  intro hk cs g he s h X hX g0 g1 g2 g3 g8 g9 ho;subst hX;obtain⟨k0,k1,k2,k3⟩:=ho;have hm1:(j+k+1)*st<=n*st:=ay7 _ ω;have hs2:(j+k+1)*st=(j+k)*st+st:=γ
  have e1:(((j+1:Nat):Int)<=((j+(k+1):Nat):Int))=True:=tt;have w0:IntKind.i64.wrap (((j+(k+1):Nat):Int)-1)=((j+k:Nat):Int):=wi;have w1:IntKind.i64.wrap (((j+(k+1):Nat):Int)*st)=(((j+k+1)*st:Nat):Int):=wi (Int.natCast_mul ..).symm ω;have w2:IntKind.i64.wrap ((f:Int)+(((j+k+1)*st:Nat):Int))=((f+(j+k+1)*st:Nat):Int):=wi;have w3:IntKind.i64.wrap (((j+k:Nat):Int)*st)=(((j+k)*st:Nat):Int):=wi (Int.natCast_mul ..).symm ω;have w4:IntKind.i64.wrap ((f:Int)+(((j+k)*st:Nat):Int))=((f+(j+k)*st:Nat):Int):=wi;obtain⟨x,x1,x2⟩:=he.get (k:=f+(j+k+1)*st) ω;obtain⟨y,y1,y2⟩:=he.get (k:=f+(j+k)*st) ω;have hg:=(cA ds cs p).cl [1000,1001,1002,1003];have ca:=fun(h:ac) (d:Nat) hh hd=>TO (ds:=ds) (cs:=cs) (p:=p) (h:=h) (d:=d) (id:=1002) x2.ok y2.ok hh hd;have pa:=Ib (p:=p) x2 y2;have q1:(bK cs)[f+(j+k+1)*st]?=some (ax x):=by grind[bK]
  have q2:(bK cs)[f+(j+k)*st]?=some (ax y):=by grind[bK]
  have i1:(0<=((f+(j+k+1)*st:Nat):Int))=True:=tt;have i2:(0<=((f+(j+k)*st:Nat):Int))=True:=tt;have i3:(((f+(j+k+1)*st:Nat):Int)< (cs.length:Int))=True:=eq_true γ;have i4:(((f+(j+k)*st:Nat):Int)< (cs.length:Int))=True:=eq_true γ;have sr1:∀u:Ri,su 7 7 (f+(j+k+1)*st) 0 (ax u) 7 (bK cs)=some (bK (cs.set (f+(j+k+1)*st) u)):=fun u=>Ie γ;have ih':=ih ω _ _ (he.set (k:=f+(j+k+1)*st) pa);have fp:=fun(h h':ac) (d:Nat) (x y:Ri)=>adl (h:=h) (h':=h') (d:=d) (id:=1002) (ds:=ds) (cs:=cs) (p:=p) (x:=x) (y:=y) δ;simp only[bH,ap,ax]at fp;rw[ag];generalize aq _ _ _=L at ih'⊢;generalize gJ x y p=z at*
  simp only[bH,ap,ax]at ca;simp only[ax]at q1 q2 sr1;simp only[bH]at k2 hg;simp only[fk,go_sem,g0,g1,g2,g3,g8,g9,k0,k1,k2,k3,hg,e1,w0,w1,w2,w3,w4,i1,i2,i3,i4,zO,En,ay4,ayX,q1,q2];rw[ca _ _ rfl rfl];simp only[go_sem,fp,w0,i1,i3,ay4,ayX,Ic,sr1];exact ih' _ _ _ rfl rfl rfl rfl rfl rfl rfl ⟨rfl,rfl,rfl,rfl⟩
theorem alh{ds:List Int}{p:Int}{N f st n:Nat}(hN:f+n*st<N)(hN4:N<=400)(hn:n<=400):∀ (k j:Nat),j+k=n->∀ (cs:List Ri) (g:G),j6 N cs g->∀ (s:ai) (h:ac) (X:Option (Ex×St)),ah 2 [] (aq (aj R (az false) iI) [0,1,2,3,8] [1000,1001,1002,1003] s h)=X->
  s 0=I f->s 1=I st->s 2=.ref 1000 none 0 0 0->s 3=.ref 1001 none 0 0 0->s 8=I (j+1:Nat)->beO n ds cs p h->
  ∃hh cs',X=some (.normal,⟨fun _=>.any,hh⟩)/\beO n ds cs' p hh/\j6 N cs' (TJ (fun j=>f+j*st) k j g):=by
 intro k;induction k with
 |zero=>
  intro j hk cs g he s h X hX g0 g1 g2 g3 g8 ho;subst hX;obtain⟨k0,k1,k2,k3⟩:=ho;have e1:(((j+1:Nat):Int)<=n)=False:=ff;have hg:=(cA ds cs p).cl [1000,1001,1002,1003];rw[ag];refine⟨?hh0,cs,?_,?_,he⟩;rotate_left
  ·simp only[iI,go_sem,g0,g1,g2,g3,g8,k0,k1,k2,k3,hg,e1];rfl
  ·exact⟨rfl,rfl,rfl,rfl⟩
 |succ k ih=>
  intro j hk cs g he s h X hX g0 g1 g2 g3 g8 ho;subst hX;obtain⟨k0,k1,k2,k3⟩:=ho;have e1:(((j+1:Nat):Int)<=n)=True:=tt;have w2:IntKind.i64.wrap (((j+1:Nat):Int)+1)=((j+1+1:Nat):Int):=wi;have hg:=(cA ds cs p).cl [1000,1001,1002,1003];have hu:=alg (ds:=ds) (p:=p) hN hN4 hn (j:=j) (k+1) ω cs g he;have ih':=ih (j+1) ω;rw[ag];simp only[iI,go_sem,g0,g1,g2,g3,g8,k0,k1,k2,k3,hg,e1];generalize hX:ah 4 _ _=X;obtain⟨hh,cs',rfl,ho2,he2⟩:=hu _ _ _ hX rfl rfl rfl rfl rfl (by rw[hk];rfl) ⟨rfl,rfl,rfl,rfl⟩;simp only[go_sem,w2];exact ih' cs' _ he2 _ _ _ rfl rfl rfl rfl rfl rfl ho2
theorem aiC{ds:List Int}{cs:List Ri}{p:Int}{N f st n:Nat}{g:G}(he:j6 N cs g)(hN:f+n*st<N)(hN4:N<=400)(hn:n<=400):
  ∃cs',R F.bound_grid_bernstein_1 [I f,I st,.ref 1000 none 0 0 0,.ref 1001 none 0 0 0] [.bx [I n],.bx [.ref 1002 none 0 0 0],bH ds cs p]=some (.tup [],[.bx [I n],.bx [.ref 1002 none 0 0 0],bH ds cs' p])/\j6 N cs' (P9 n (fun j=>f+j*st) g):=by
 have h2:=alf (ds:=ds) (p:=p) hN hN4 hn n 0 (ayX _) cs g he ⟨one,one,false⟩ 1 (by rw[←X6];exact xe dW.1 dW.2);have h3:=fun(cs:List Ri) (g:G) he=>alh (ds:=ds) (p:=p) (n:=n) (st:=st) (f:=f) hN hN4 hn n 0 (ayX _) cs g he;have hi:=La;have hp:=jY dW.2 dW.1;refine Mp dh.2.1 dh.2.2 (dh.1.2.2.2 false) rfl (azJ rfl) ?_;simp only[af,ak,ap,ax]at hi hp;simp only[mZ,vT,Ya,go_sem,hi,hp];generalize hX:ah 0 _ _=X;obtain⟨hh,cs1,rfl,ho,he1⟩:=h2 _ _ _ hX rfl rfl rfl rfl rfl rfl rfl ⟨rfl,rfl,rfl,rfl⟩;obtain⟨k0,k1,k2,k3⟩:=ho;simp only[go_sem];generalize hX:ah 2 _ _=X;obtain⟨hh2,cs2,rfl,ho,he2⟩:=h3 cs1 _ he1 _ _ _ hX rfl rfl rfl rfl rfl ⟨k0,k1,k2,k3⟩;obtain⟨k0,k1,k2,k3⟩:=ho;refine⟨cs2,?_,he2⟩;have hp3:de 3=[1000,1001,1002]:=rfl;refine Qn γ ?_;rfl
noncomputable def C2:Cmd:=.ops [0,1,2,6,15,16] [cm 32 2,cm 33 7,cm 34 6,⟨(some 35),none,.call (.t 32) [.t 33,.t 34]⟩]
theorem FR:rN=.seq (.ops [0,1,2,6,15,16,17] [b2 17 .lss 16 15]) (.seq (.cond (.t 17) (.skip) (.exit 0)) (.seq (.block 1 [0,1,2,6,15,16] (.seq (.ops [0,1,2,6,7,15,16] [cm 18 16,cm 7 18]) (.seq (.dops [0,1,2,6,7,15,16,31] [cm 19 7,cm 20 6,b2 21 .quo 19 20,cm 22 0,nk 23 22,fa 24 0 23,ld 25 1 24,cm 26 1,co 27 (.iadrS 1 (.t 25) (.t 26)),ld 28 1 27,co 29 (.bin .add (.t 28) (.c (I 1))),b2 30 .rem 21 29,co 31 (.bin .eql (.t 30) (.c (I 0)))] []) (.cond (.t 31) C2 (.skip))))) (.ops [0,1,2,6,15,16] [co 36 (.bin .add (.t 16) (.c (I 1))),cm 16 36]))):=rfl
structure LnO (cl:AV) (ds:List Int) (p:Int) (N k st n:Nat) (op:Nat->G->G) (o1 o2 o3 o4:Ob):Prop where
 c1:aA [1000,1001,1002,1003,1004] o1=true
 c2:aA [1000,1001,1002,1003,1004] o2=true
 c3:aA [1000,1001,1002,1003,1004] o3=true
 c4:aA [1000,1001,1002,1003,1004] o4=true
 c5:gS [1000,1001,1002,1003,1004] cl=cl
 run:∀ (f:Nat) (cs:List Ri) (g:G),j6 N cs g->f<N->f/st% (n+1)=0->∀ (s:ai) (h:ac) (X:Option (Ex×St)),aj R (az false) C2 s h=X->s 0=.ref 1000 none 0 0 0->s 1=I k->s 2=cl->s 6=I st->s 7=I f->s 15=I N->s 16=I f->h 1000=bH ds cs p->h 1001=o1->h 1002=o2->h 1003=o3->h 1004=o4->h 2280=.dead->
  ∃cs' hh,X=some (.normal,⟨upd (upd (upd (upd (upd (upd (fun _=>.any) 16 (I f)) 15 (I N)) 6 (I st)) 2 cl) 1 (I k)) 0 (.ref 1000 none 0 0 0),hh⟩)/\hh 1000=bH ds cs' p/\hh 1001=o1/\hh 1002=o2/\hh 1003=o3/\hh 1004=o4/\j6 N cs' (op f g)
theorem Qo{cl:AV}{ds:List Int}{p:Int}{N k st n:Nat}{op:Nat->G->G}{o1 o2 o3 o4:Ob}(L:LnO cl ds p N k st n op o1 o2 o3 o4)(hN4:N<=400)(hs:0<st)(hst:st<=400)(hn:n<=400)(hk:ds[k]?=some (n:Int)):
  ∀ (m i:Nat),i+m=N->∀ (cs:List Ri) (g:G),j6 N cs g->∀ (s:ai) (h:ac) (X:Option (Ex×St)),ah 0 [] (aq (aj R (az false) rN) [0,1,2,6,15,16] [1000,1001,1002,1003,1004] s h)=X->
  s 0=.ref 1000 none 0 0 0->s 1=I k->s 2=cl->s 6=I st->s 15=I N->s 16=I i->h 1000=bH ds cs p->h 1001=o1->h 1002=o2->h 1003=o3->h 1004=o4->
  ∃cs' hh,X=some (.normal,⟨fun _=>.any,hh⟩)/\hh 1000=bH ds cs' p/\hh 1001=o1/\hh 1002=o2/\hh 1003=o3/\hh 1004=o4/\j6 N cs' (ps op st n m i g):=by
 obtain⟨c1,c2,c3,c4,c5,lr⟩:=L;intro m;induction m with
 |zero=>
  intro i hm cs g he s h X hX g0 g1 g2 g6 g15 g16 k0 k1 k2 k3 k4;subst hX;have e1:((i:Int)<N)=False:=ff;have hg:=(cA ds cs p).cl [1000,1001,1002,1003,1004];rw[ag];refine⟨cs,?hh0,?_,?_,?_,?_,?_,?_,he⟩;rotate_left
  ·simp only[FR,go_sem,g0,g1,g2,g6,g15,g16,k0,k1,k2,k3,k4,hg,c1,c2,c3,c4,c5,e1];rfl
  all_goals rfl
 |succ m ih=>
  intro i hm cs g he s h X hX g0 g1 g2 g6 g15 g16 k0 k1 k2 k3 k4;subst hX;have e1:((i:Int)<N)=True:=tt;have hg:=(cA ds cs p).cl [1000,1001,1002,1003,1004];have w1:IntKind.i64.wrap (Int.tdiv (i:Int) st)=((i/st:Nat):Int):=by
   have:=Nat.div_le_self i st;grind[wi]
  have w2:IntKind.i64.wrap ((n:Int)+1)=((n+1:Nat):Int):=wi;have w4:IntKind.i64.wrap ((i:Int)+1)=((i+1:Nat):Int):=wi;have d1:((st:Int)=0)=False:=ff;have d2:(((n+1:Nat):Int)=0)=False:=ff;have hr:=lr i cs g he ω;have ih':=ih (i+1) ω;have hps:ps op st n (m+1) i g=ps op st n m (i+1) (if i/st% (n+1)=0 then op i g else g):=rfl;rw[hps,ag];generalize aq _ _ _=L at ih'⊢;have hkl:k<ds.length:=(List.getElem?_eq_some_iff.1 hk).1;have i1:(0<=(k:Int))=True:=tt;have i2:((k:Int)< (ds.length:Int))=True:=tt;have q1:(aI ds)[k]?=some [I n]:=by grind[aI]
  by_cases h0:i/st% (n+1)=0
  ·have e2:(Int.tmod ((i/st:Nat):Int) ((n+1:Nat):Int)=0)=True:=eq_true γ;rw[if_pos h0];have hr:=hr h0;simp only[bH]at k0 hg;simp only[FR,go_sem,g0,g1,g2,g6,g15,g16,k0,k1,k2,k3,k4,hg,c1,c2,c3,c4,c5,e1,e2,w1,w2,d1,d2,sj,zN,q1,i1,i2,ay4,ayX];generalize hX:aj R (az false) C2 _ _=X;obtain⟨cs',hh,rfl,r0,r1,r2,r3,r4,he2⟩:=hr _ _ _ hX rfl rfl rfl rfl rfl rfl rfl rfl rfl rfl rfl rfl rfl;simp only[go_sem,w4,c5];exact ih' cs' _ he2 _ _ _ rfl rfl rfl rfl rfl rfl rfl r0 r1 r2 r3 r4
  ·have e2:(Int.tmod ((i/st:Nat):Int) ((n+1:Nat):Int)=0)=False:=eq_false γ;rw[if_neg h0];simp only[bH]at k0 hg;simp only[FR,go_sem,g0,g1,g2,g6,g15,g16,k0,k1,k2,k3,k4,hg,c1,c2,c3,c4,c5,e1,e2,w1,w2,w4,d1,d2,sj,zN,q1,i1,i2,ay4,ayX];exact ih' cs g he _ _ _ rfl rfl rfl rfl rfl rfl rfl rfl rfl rfl rfl rfl
def dI(l:List Nat):List Int:=l.map Int.ofNat
def bF:List Nat->Nat->Nat
 |[],n=>n
 |d::l,n=>bF l (n*(d+1))
theorem Mq:∀ (ds:List Nat) (n:Nat),Ov (dI ds) (n:Int)=(bF ds n:Nat)
 |[],_=>rfl
 |d::ds,n=>by
  show Ov (dI ds) ((n:Int)*(Int.ofNat d+1))=(bF ds (n*(d+1)):Nat);rw[←Mq ds (n*(d+1)),Int.natCast_mul];rfl
theorem oI:∀ (ds:List Nat) (n:Nat),0<n->n<=bF ds n
 |[],_,_=>ayZ _
 |d::ds,n,h=>ay3 (Nat.le_mul_of_pos_right n (Nat.succ_pos d)) (oI ds _ (Nat.mul_pos h (Nat.succ_pos d)))
theorem Ow:∀ (ds:List Nat) (n:Nat),bF ds n=n*bF ds 1
 |[],n=>(Nat.mul_one n).symm
 |d::ds,n=>by
  show bF ds (n*(d+1))=n*bF ds (1*(d+1));rw[Ow ds (n*(d+1)),Ow ds (1*(d+1)),Nat.one_mul,azq]
theorem Jl:∀ (ds:List Nat) (k n d:Nat),ds[k]?=some d->bF ds n=bF (ds.take k) n*(d+1)*bF (ds.drop (k+1)) 1
 |d'::ds,0,n,d,h=>by
  have:d'=d:=γ
  subst this;exact Ow ds _
 |d'::ds,k+1,n,d,h=>Jl ds k (n*(d'+1)) d γ
 |[],_,_,_,h=>by grind
theorem aaZ{N st n H f:Nat}(hN:N=st*(n+1)*H)(hs:0<st)(hf:f<N)(h0:f/st% (n+1)=0):f+n*st<N:=by
 have h1:=azV f st;have h2:=azw f hs;have h3:=azV (f/st) (n+1);rw[h0,azA]at h3;generalize f/st/ (n+1)=q at*
 have h4:q<H:=by
  refine Nat.lt_of_mul_lt_mul_left (a:=st*(n+1)) ?_;rw[←hN,azq,h3];omega
 have h5:st*(n+1)*(q+1)<=N:=by
  rw[hN];exact azR _ h4
 rw[←h3]at h1;grind
theorem afT{dn:List Nat}{cs:List Ri}{p:Int}{k n:Nat}{lo w:Ri}{l u:Rat}{g:G}(hl:In l lo)(hw:In u w)(hk:dn[k]?=some n)(h8:dn.length<=8)(hb:∀d∈dn,d<=32)(hN4:bF dn 1<=400)(he:j6 (bF dn 1) cs g):
  ∃cs',R F.bound_grid_lines [.ref 1000 none 0 0 0,I k,.fn F.bound_grid_unit_1 [] [.ref 1001 none 0 0 0,.ref 1002 none 0 0 0,.ref 1003 none 0 0 0,.ref 1004 none 0 0 0]] [bH (dI dn) cs p,.bx [I n],.bx [.ref 1000 none 0 0 0],ge lo,ge w]=some (.tup [],[bH (dI dn) cs' p,.bx [I n],.bx [.ref 1000 none 0 0 0],ge lo,ge w])/\
   j6 (bF dn 1) cs' (ps (fun f=>P8 l u n (fun j=>f+j*bF (dn.take k) 1)) (bF (dn.take k) 1) n (bF dn 1) 0 g):=by
 have hkl:k<dn.length:=(List.getElem?_eq_some_iff.1 hk).1;have hn:n<=32:=hb n (List.mem_of_getElem? hk);have hbI:∀d∈dI dn,0<=d/\d<=32:=fun d hd=>by
  obtain⟨x,hx,rfl⟩:=List.mem_map.1 hd;grind
 have hsp:=Jl dn k 1 n hk;have hs0:=oI (dn.take k) 1 δ;have hst:bF (dn.take k) 1<=400:=by
  refine ay3 ?_ hN4;rw[hsp,azq];exact Nat.le_mul_of_pos_right _ (Nat.mul_pos (Nat.succ_pos n) (oI _ 1 δ))
 have hstep:=fun(h:ac) (d:Nat) (hh:h 1000=bH (dI dn) cs p) (hd:h (2000+8*d)=.dead)=>dB (mM false) rfl (LA (m:=k) (by grind[dI]) ω hbI (d:=d) hh hd);rw[show(dI dn).take k=dI (dn.take k)from(List.map_take ..).symm,show(1:Int)=((1:Nat):Int)from rfl,Mq]at hstep;generalize bF (dn.take k) 1=st at*
 generalize bF dn 1=N at*
 have L:LnO (.fn F.bound_grid_unit_1 [] [.ref 1001 none 0 0 0,.ref 1002 none 0 0 0,.ref 1003 none 0 0 0,.ref 1004 none 0 0 0]) (dI dn) p N k st n (fun f=>P8 l u n (fun j=>f+j*st)) (.bx [I n]) (.bx [.ref 1000 none 0 0 0]) (ge lo) (ge w):=by
  refine⟨rfl,rfl,(gA lo).cl _,(gA w).cl _,rfl,?_⟩;intro f cs g he hf h0 s h X hX g0 g1 g2 g6 g7 g15 g16 k0 k1 k2 k3 k4 kd;subst hX;obtain⟨cs',hR,he'⟩:=aiB (ds:=dI dn) (p:=p) hl hw he (aaZ hsp ω hf h0) hN4 ω;have hc:=adi hR (d:=35) k0 k1 k2 k3 k4 kd;refine⟨cs',?hh0,?_,?_,?_,?_,?_,?_,he'⟩;rotate_left
  ·simp only[C2,go_sem,g0,g1,g2,g6,g7,g15,g16,hc];rfl
  all_goals rfl
 refine Mp bC.2.1 bC.2.2 (bC.1.2.2.2 false) rfl (azJ rfl) ?_;have hll:=Qo L hN4 ω hst ω (by grind[dI]) N 0 (ayX _) cs g he;simp only[oO,vS,X9,go_sem];rw[hstep _ _ rfl rfl];have hlen:(cs.length:Int)=N:=by rw[he.1]
 have hgo:=(cA (dI dn) cs p).cl [1000,1001,1002,1003,1004];simp only[bH]at hgo⊢;simp only[go_sem,hlen,hgo,(gA lo).cl,(gA w).cl];generalize hX:ah 0 _ _=X;obtain⟨cs',hh,rfl,k0,k1,k2,k3,k4,he2⟩:=hll _ _ _ hX rfl rfl rfl rfl rfl rfl rfl rfl rfl rfl rfl;refine⟨cs',?_,he2⟩;have hp5:de 5=[1000,1001,1002,1003,1004]:=rfl;refine Qn (by grind[List.map,bH]) ?_;rfl
theorem afU{dn:List Nat}{cs:List Ri}{p:Int}{k n:Nat}{g:G}(hk:dn[k]?=some n)(h8:dn.length<=8)(hb:∀d∈dn,d<=32)(hN4:bF dn 1<=400)(he:j6 (bF dn 1) cs g):
  ∃cs',R F.bound_grid_lines [.ref 1000 none 0 0 0,I k,.fn F.bound_grid_bernstein_1 [] [.ref 1001 none 0 0 0,.ref 1002 none 0 0 0]] [bH (dI dn) cs p,.bx [I n],.bx [.ref 1000 none 0 0 0]]=some (.tup [],[bH (dI dn) cs' p,.bx [I n],.bx [.ref 1000 none 0 0 0]])/\
   j6 (bF dn 1) cs' (ps (fun f=>P9 n (fun j=>f+j*bF (dn.take k) 1)) (bF (dn.take k) 1) n (bF dn 1) 0 g):=by
 have hkl:k<dn.length:=(List.getElem?_eq_some_iff.1 hk).1;have hn:n<=32:=hb n (List.mem_of_getElem? hk);have hbI:∀d∈dI dn,0<=d/\d<=32:=fun d hd=>by
  obtain⟨x,hx,rfl⟩:=List.mem_map.1 hd;grind
 have hsp:=Jl dn k 1 n hk;have hs0:=oI (dn.take k) 1 δ;have hst:bF (dn.take k) 1<=400:=by
  refine ay3 ?_ hN4;rw[hsp,azq];exact Nat.le_mul_of_pos_right _ (Nat.mul_pos (Nat.succ_pos n) (oI _ 1 δ))
 have hstep:=fun(h:ac) (d:Nat) (hh:h 1000=bH (dI dn) cs p) (hd:h (2000+8*d)=.dead)=>dB (mM false) rfl (LA (m:=k) (by grind[dI]) ω hbI (d:=d) hh hd);rw[show(dI dn).take k=dI (dn.take k)from(List.map_take ..).symm,show(1:Int)=((1:Nat):Int)from rfl,Mq]at hstep;generalize bF (dn.take k) 1=st at*
 generalize bF dn 1=N at*
 have L:LnO (.fn F.bound_grid_bernstein_1 [] [.ref 1001 none 0 0 0,.ref 1002 none 0 0 0]) (dI dn) p N k st n (fun f=>P9 n (fun j=>f+j*st)) (.bx [I n]) (.bx [.ref 1000 none 0 0 0]) .dead .dead:=by
  refine⟨rfl,rfl,rfl,rfl,rfl,?_⟩;intro f cs g he hf h0 s h X hX g0 g1 g2 g6 g7 g15 g16 k0 k1 k2 k3 k4 kd;subst hX;obtain⟨cs',hR,he'⟩:=aiC (ds:=dI dn) (p:=p) he (aaZ hsp ω hf h0) hN4 ω;have hc:=adj hR (d:=35) k0 k1 k2 kd;refine⟨cs',?hh0,?_,?_,?_,?_,?_,?_,he'⟩;rotate_left
  ·simp only[C2,go_sem,g0,g1,g2,g6,g7,g15,g16,hc];rfl
  all_goals first|rfl|assumption
 refine Mp bC.2.1 bC.2.2 (bC.1.2.2.2 false) rfl (azJ rfl) ?_;have hll:=Qo L hN4 ω hst ω (by grind[dI]) N 0 (ayX _) cs g he;simp only[oO,vS,Ya,go_sem];rw[hstep _ _ rfl rfl];have hlen:(cs.length:Int)=N:=by rw[he.1]
 have hgo:=(cA (dI dn) cs p).cl [1000,1001,1002,1003,1004];simp only[bH]at hgo⊢;simp only[go_sem,hlen,hgo];generalize hX:ah 0 _ _=X;obtain⟨cs',hh,rfl,k0,k1,k2,k3,k4,he2⟩:=hll _ _ _ hX rfl rfl rfl rfl rfl rfl rfl rfl rfl rfl rfl;refine⟨cs',?_,he2⟩;have hp5:de 3=[1000,1001,1002]:=rfl;refine Qn (by grind[List.map,bH]) ?_;rfl
theorem ali{dn:List Nat}{cs:List Ri}{p:Int}{k n:Nat}{g:G}(hk:dn[k]?=some n)(h8:dn.length<=8)(hb:∀d∈dn,d<=32)(hN4:bF dn 1<=400)(he:j6 (bF dn 1) cs g):
  ∃cs',R F.bound_grid_bernstein [.ref 1000 none 0 0 0,I k] [bH (dI dn) cs p]=some (.tup [],[bH (dI dn) cs' p])/\j6 (bF dn 1) cs' (ps (fun f=>P9 n (fun j=>f+j*bF (dn.take k) 1)) (bF (dn.take k) 1) n (bF dn 1) 0 g):=by
 obtain⟨cs',hR,he'⟩:=afU (p:=p) hk h8 hb hN4 he;refine⟨cs',xd eE.2.1 eE.2.2 (eE.1.2.2.2 false) rfl ?_,he'⟩;have e3:(aI (dI dn))[k]?=some [I n]:=by grind[aI,dI]
 have e7:(0<=(k:Int))=True:=tt;have e8:((k:Int)< ((dI dn).length:Int))=True:=eq_true (by grind[dI]);have hl:=fun(h:ac) (d:Nat) h0 h1 h2 hf=>Yb (bC.1.2.1 false) rfl (Qm hR (h:=h) (d:=d) h0 h1 h2 hf);simp only[bH]at hl⊢;simp only[pf,x9,go_sem,ayX];rw[afN (cs:=[.osl 1 (aI (dI dn)),.osl 7 (bK cs),I p]) rfl rfl];simp only[go_sem,e3,e7,e8,Cj,ay4,ayX,sj,zN];rw[hl _ _ rfl rfl rfl rfl];rfl
theorem alj{dn:List Nat}{cs:List Ri}{p:Int}{k n:Nat}{b:Ri}{g:G}(vl:vd b.lo=true/\Ok0 b.lo)(vh:vd b.hi=true/\Ok0 b.hi)(hk:dn[k]?=some n)(h8:dn.length<=8)(hb:∀d∈dn,d<=32)(hN4:bF dn 1<=400)(he:j6 (bF dn 1) cs g):
  ∃cs',R F.bound_grid_unit [.ref 1000 none 0 0 0,I k,ap b] [bH (dI dn) cs p]=some (.tup [],[bH (dI dn) cs' p])/\j6 (bF dn 1) cs' (ps (fun f=>P8 (qv b.lo) (qv b.hi-qv b.lo) n (fun j=>f+j*bF (dn.take k) 1)) (bF (dn.take k) 1) n (bF dn 1) 0 g):=by
 have i1:=xe vl.1 vl.2;have i2:=xe vh.1 vh.2;have i3:=ak0 (p:=p) i2 i1;obtain⟨cs',hR,he'⟩:=afT (p:=p) i1 i3 hk h8 hb hN4 he;refine⟨cs',xd iv.2.1 iv.2.2 (iv.1.2.2.2 false) rfl ?_,he'⟩;have e3:(aI (dI dn))[k]?=some [I n]:=by grind[aI,dI]
 have e7:(0<=(k:Int))=True:=tt;have e8:((k:Int)< ((dI dn).length:Int))=True:=eq_true (by grind[dI]);have hl:=fun(h:ac) (d:Nat) h0 h1 h2 h3 h4 hf=>Yb (bC.1.2.1 false) rfl (Ql hR (h:=h) (d:=d) h0 h1 h2 h3 h4 hf);have p1:=jY vl.2 vl.1;have p2:=jY vh.2 vh.1;have p3:=Sl i2.ok i1.ok (p:=p);simp only[bH,ge]at hl⊢;simp only[af,ak,ap,ax]at p1 p2 p3;simp only[vO,DF,ap,ax,go_sem,ayX];rw[afN (cs:=[.osl 1 (aI (dI dn)),.osl 7 (bK cs),I p]) rfl rfl];simp only[go_sem,e3,e7,e8,Cj,ay4,ayX,sj,zN,p1,p2,p3];rw[hl _ _ rfl rfl rfl rfl rfl rfl];rfl
theorem aiD{n:Nat}(hn:n<=400):R F.bits_Mul64 [W 1,W n] []=some (.tup [W 0,W n],[]):=by
 refine av WR rfl ?_;have a1:dq .and (W 1) (W 4294967295)=some (W 1):=rfl;have a2:dq .and (W n) (W 4294967295)=some (W n):=by
  rw[FB rfl ω,azL ω]
 have s1:dq .shr (W 1) (W 32)=some (W 0):=rfl;have s2:dq .shr (W n) (W 32)=some (W 0):=(sW (i:=(n:Int)) (j:=32) (k:=32) rfl rfl δ).trans γ;have s3:dq .shr (W 0) (W 32)=some (W 0):=rfl;have a3:dq .and (W 0) (W 4294967295)=some (W 0):=rfl;have w1:IntKind.u64.wrap (1*(n:Int))=n:=dK ω ω;have w2:IntKind.u64.wrap (0*(n:Int))=0:=by rw[Int.zero_mul];rfl
 have w3:IntKind.u64.wrap ((0:Int)+0)=0:=rfl;have w4:IntKind.u64.wrap ((1:Int)*0)=0:=rfl;have w5:IntKind.u64.wrap ((0:Int)*0)=0:=rfl;simp only[Dv,KR,go_sem,a1,a2,a3,s1,s2,s3,w1,w2,w3,w4,w5]
theorem alk{n:Nat}(hn:n<=400):R F.bits_Mul [W 1,W n] []=some (.tup [W 0,W n],[]):=by
 refine av acI rfl ?_;have h:=aiD hn;simp only[Hg,Pr,go_sem,h]
theorem aiE{X Z:List AV}{N:Nat}(hN:N<=400)(c:List Bool):∀ (k m:Nat),N-m<=k->1<=m->m<=N->∀ (s:ai) (h:ac) (Y:Option (Ex×St)),ah 0 [7] (aq (aj R (az false) cS) [7,8] [30] s h)=Y->
  s 7=.rsl 30 none 7 0 N->s 8=I m->h 30=.ar 7 (ayW m X++ayW (N-m) Z)->
  ∃hh,Y=some (.normal,⟨upd (fun _=>.any) 7 (.rsl 30 none 7 0 N),hh⟩)/\hh 30=.ar 7 (ayW N X):=by
 intro k;induction k with
 |zero=>
  intro m hk h1 hm s h Y hY g7 g8 k30;subst hY;have e:m=N:=ω
  subst e;have e1:((m:Int)<m)=False:=ff;rw[az2,List.replicate_zero,azb]at k30;rw[ag];refine⟨?hh0,?_,?_⟩;rotate_left
  ·simp only[cS,go_sem,g7,g8,k30,e1];rfl
  ·rfl
 |succ k ih=>
  intro m hk h1 hm s h Y hY g7 g8 k30;by_cases hq:m=N
  ·exact ih m ω h1 hm s h Y hY g7 g8 k30
  subst hY;have e1:((m:Int)<N)=True:=tt;have e2:dH 7 (.rsl 30 none 7 0 N) (some (I (m:Int))) none none=some (.rsl 30 none 7 m (N-m)):=by grind[dH,jH,kG]
  have e3:dH 7 (.rsl 30 none 7 0 N) none (some (I (m:Int))) none=some (.rsl 30 none 7 0 m):=by grind[dH,jH,kG]
  obtain⟨q,hq2⟩:∃q,min (N-m) m=q:=⟨_,rfl⟩;have hq3:min m (N-m)=q:=ω
  have ih':=ih (m+q) ω ω ω;have hl:(ayW m X++ayW (N-m) Z).length=N:=γ
  have t1:List.take q (ayW m X++ayW (N-m) Z)=ayW q X:=by
   grind
  have t2:List.take m (ayW m X++ayW (N-m) Z)=ayW m X:=by
   grind
  have t3:List.drop (m+q) (ayW m X++ayW (N-m) Z)=ayW (N- (m+q)) Z:=by
   rw[List.drop_append,azi σ,azU,ay8,List.drop_replicate];grind
  have t4:ayW m X++ayW q X=ayW (m+q) X:=List.replicate_append_replicate;have e4:(0+q<=N)=True:=tt;have e5:(m<=N)=True:=eq_true hm;have w1:IntKind.i64.wrap ((m:Int)+(q:Int))=((m+q:Nat):Int):=wi;rw[ag];simp only[cS,go_sem,g7,g8,k30,e1,e2,e3,hq2,hq3,hl,t1,t2,t3,t4,e4,e5,azU,w1];exact ih' _ _ _ rfl rfl rfl rfl
theorem afV{x:Ri}{n:Nat}(h1:1<=n)(hn:n<=400):R F.slices_Repeat_api_Interval_api_Interval_ [.sl 7 [ax x],I n] []=some (.osl 7 (bK (ayW n x)),[]):=by
 refine av rP rfl ?_;have hm:=alk hn;have w1:IntKind.u64.wrap 1=1:=δ
 have w2:((0+1:Nat):Int)=1:=rfl;have w3:IntKind.u64.wrap (n:Int)=n:=dK rfl ω;have w4:IntKind.i64.wrap (n:Int)=n:=wi rfl ω;have e1:((0:Int)<0)=False:=ff δ;have e2:((n:Int)<0)=False:=ff;have e3:(9223372036854775807< (n:Int))=False:=ff;have z1:lI (.v (.int .i64 (n:Int))) (.v (.int .i64 (n:Int)))=some (n,n):=by
  simp only[lI];grind
 have z2:(n*88<=140737488355328)=True:=tt;have tk:∀A:List AV,List.take n [A]=[A]:=fun A=>azg ω;have hmin:min 1 n=1:=azS h1;have dr:List.drop 1 (ayW n [B false,.emp,I 0,B false,.emp,I 0,B false])=ayW (n-1) [B false,.emp,I 0,B false,.emp,I 0,B false]:=List.drop_replicate;have hl:=aiE (X:=ax x) (Z:=[B false,.emp,I 0,B false,.emp,I 0,B false]) hn [] n 1 ω (ayZ _) h1;simp only[eH,jq,ax,go_sem,azp,azx,w1,w2,w3,w4,hm,e1,e2,e3,z1,z2,tk,hmin,dr,azH,azU,true_and,Int.natCast_one];generalize hX:ah 0 _ _=X;obtain⟨hh,rfl,q⟩:=hl _ _ _ hX rfl rfl rfl;simp only[go_sem,q,azU,ayX,ayZ,if_true,ay2,azE];grind[bK,List.map_replicate]
theorem Yg{l:List Nat}{i:Nat}(h:i<l.length):(dI l)[i]?=some ((l.getD i 0:Nat):Int):=by
 grind[dI]
theorem an2{l:List Nat}{i:Nat}(h:i<l.length):(aI (dI l))[i]?=some [I (l.getD i 0:Nat)]:=by
 grind[aI,Yg]
theorem If(l:List Nat):(dI l).length=l.length:=by simp[dI]
def Mx(dn dn' es:List Nat)(i:Nat):Prop:=dn'.length=dn.length/\(∀d∈dn',d<=32)/\(∀j,dn.getD j 0<=dn'.getD j 0)/\∀j,i<=j->es.getD j 0<=dn'.getD j 0
theorem alm{v:Nat}{p:Int}(h8:v<=8){es:List Nat}(hes:es.length=v)(he32:∀e∈es,e<=32){o2 o8:Ob}(c2:∀l,aA l o2=true)(c8:∀l,aA l o8=true){A:List Rt}{nA iA:Int}:
  ∀ (k i:Nat),i+k=v->∀dn:List Nat,dn.length=v->(∀d∈dn,d<=32)->∀ (s:ai) (h:ac) (X:Option (Ex×St)),ah 2 [2,6,26,27,28] (aq (aj R (az false) mI) [2,6,26,27,28,33,34,35] [2,8,21,24,2624] s h)=X->s 2=.ref 2 none 0 0 0->s 6=.ref 24 none 0 0 0->s 26=.sl 4 (aD A)->s 27=I nA->s 28=I iA->s 33=.sl 1 (aI (dI es))->s 34=I v->s 35=I i->h 2=o2->h 8=o8->h 21=.dead->h 24=.bx [.osl 1 (aI (dI dn)),.emp,I p]->h 2624=.dead->
  ∃hh dn',X=some (.normal,⟨upd (upd (upd (upd (upd (fun _=>.any) 28 (I iA)) 27 (I nA)) 26 (.sl 4 (aD A))) 6 (.ref 24 none 0 0 0)) 2 (.ref 2 none 0 0 0),hh⟩)/\hh 2=o2/\hh 24=.bx [.osl 1 (aI (dI dn')),.emp,I p]/\hh 21=.dead/\hh 2624=.dead/\Mx dn dn' es i:=by
 intro k;induction k with
 |zero=>
  intro i hi dn hd hb s h X hX g2 g6 g26 g27 g28 g33 g34 g35 k2 k8 k21 k24 k2624;subst hX;have e1:((i:Int)< (v:Int))=False:=ff;have hc:=c2 [2,8,21,24,2624];have hc8:=c8 [2,8,21,24,2624];rw[ag];refine⟨?hh0,dn,?_,?_,?_,?_,?_,rfl,hb,fun _=>ayZ _,fun j hj=>?_⟩;rotate_left
  ·simp only[mI,go_sem,g2,g6,g26,g27,g28,g33,g34,g35,k2,k8,k21,k24,k2624,hc,hc8,e1];rfl
  ·rfl
  ·rfl
  ·rfl
  ·rfl
  grind
 |succ k ih=>
  intro i hi dn hd hb s h X hX g2 g6 g26 g27 g28 g33 g34 g35 k2 k8 k21 k24 k2624;subst hX;have hlt:i<v:=ω
  have e1:((i:Int)< (v:Int))=True:=tt;have e2:=an2 (l:=dn) (i:=i) ω;have e3:aU (aI (dI es)) (i:Int)=some (.ipt [I (es.getD i 0:Nat)]):=rW rfl (Yg ω);have e5:IntKind.i64.wrap ((i:Int)+1)=((i+1:Nat):Int):=wi;have e6:(0<=(i:Int))=True:=tt;have e7:((i:Int)< ((dI dn).length:Int))=True:=eq_true (by grind[If]);have hc:=c2 [2,8,21,24,2624];have hc8:=c8 [2,8,21,24,2624];obtain⟨m,hm⟩:∃m,max (dn.getD i 0) (es.getD i 0)=m:=⟨_,rfl⟩;have em:(if((dn.getD i 0:Nat):Int)< ((es.getD i 0:Nat):Int)then((es.getD i 0:Nat):Int)else((dn.getD i 0:Nat):Int))=(m:Int):=by
   omega
  have e4:su 1 1 i 0 [I (m:Int)] 1 (aI (dI dn))=some (aI (dI (dn.set i m))):=by
   simp_all[su,if_pos,setRow,aI,dI,List.map_set]
  have hms:∀d∈dn.set i m,d<=32:=fun d hd2=>by
   rcases List.mem_or_eq_of_mem_set hd2 with h|h
   ·exact hb d h
   ·subst h;have h1:dn.getD i 0<=32:=by
     rw[List.getD_eq_getElem?_getD,List.getElem?_eq_getElem ω];exact hb _ (azo _)
    have h2:es.getD i 0<=32:=by
     rw[List.getD_eq_getElem?_getD,List.getElem?_eq_getElem ω];exact he32 _ (azo _)
    omega
  have ih':=ih (i+1) ω (dn.set i m) (by rw[List.length_set];exact hd) hms;rw[ag];generalize aq _ _ _=L at ih'⊢;simp only[mI,go_sem,g2,g6,g26,g27,g28,g33,g34,g35,k2,k8,k21,k24,k2624,hc,hc8,e1,e2,e3,e5,e6,e7,ay4,ayX,sj,zN,ak9,em,e4];generalize hX:ah 2 _ _=X;obtain⟨hh,dn',q1,q2,q3,q4,q5,m1,m2,m3,m4⟩:=ih' _ _ _ hX rfl rfl rfl rfl rfl rfl rfl rfl rfl rfl rfl rfl rfl;refine⟨hh,dn',q1,q2,q3,q4,q5,by rw[m1,List.length_set],m2,fun j=>?_,fun j hj=>?_⟩
  all_goals grind
def Nt(v:Nat)(t:Rt)(es:List Nat):Prop:=t.exps=dI es/\es.length=v/\∀e∈es,e<=32
theorem aln{v:Nat}{p:Int}(h8:v<=8){A:List Rt}{E:List (List Nat)}(hA:A.length=E.length)(h5:A.length<=500)(hn:∀ (i:Nat) (t:Rt) (es:List Nat),A[i]?=some t->E[i]?=some es->Nt v t es){o2:Ob}(c2:∀l,aA l o2=true):
  ∀ (k i:Nat),i+k=A.length->∀dn:List Nat,dn.length=v->(∀d∈dn,d<=32)->∀ (s:ai) (h:ac) (X:Option (Ex×St)),ah 0 [2,6] (aq (aj R (az false) qV) [2,6,26,27,28] [2,21,24,2624] s h)=X->s 2=.ref 2 none 0 0 0->s 6=.ref 24 none 0 0 0->s 26=.sl 4 (aD A)->s 27=I A.length->s 28=I i->h 2=o2->h 21=.dead->h 24=.bx [.osl 1 (aI (dI dn)),.emp,I p]->h 2624=.dead->
  ∃hh dn',X=some (.normal,⟨upd (upd (fun _=>.any) 6 (.ref 24 none 0 0 0)) 2 (.ref 2 none 0 0 0),hh⟩)/\hh 2=o2/\hh 24=.bx [.osl 1 (aI (dI dn')),.emp,I p]/\hh 21=.dead/\hh 2624=.dead/\dn'.length=v/\(∀d∈dn',d<=32)/\(∀j,dn.getD j 0<=dn'.getD j 0)/\∀ (a:Nat) (es:List Nat),i<=a->E[a]?=some es->∀j,es.getD j 0<=dn'.getD j 0:=by
 intro k;induction k with
 |zero=>
  intro i hi dn hd hb s h X hX g2 g6 g26 g27 g28 k2 k21 k24 k2624;subst hX;have e1:((i:Int)< (A.length:Int))=False:=ff;have hc:=c2 [2,21,24,2624];rw[ag];refine⟨?hh0,dn,?_,?_,?_,?_,?_,hd,hb,fun _=>ayZ _,fun a es ha he=>?_⟩;rotate_left
  ·simp only[qV,go_sem,g2,g6,g26,g27,g28,k2,k21,k24,k2624,hc,e1];rfl
  ·rfl
  ·rfl
  ·rfl
  ·rfl
  grind
 |succ k ih=>
  intro i hi dn hd hb s h X hX g2 g6 g26 g27 g28 k2 k21 k24 k2624;subst hX;have e1:((i:Int)< (A.length:Int))=True:=tt;obtain⟨t,ht⟩:∃t,A[i]?=some t:=⟨_,List.getElem?_eq_getElem ω⟩;obtain⟨es,hes⟩:∃es,E[i]?=some es:=⟨_,List.getElem?_eq_getElem ω⟩;obtain⟨n1,n2,n3⟩:=hn i t es ht hes;have e2:aU (aD A) (i:Int)=some (.ipt (bV t)):=gy rfl ht;have e5:IntKind.i64.wrap ((i:Int)+1)=((i+1:Nat):Int):=wi;have hc:=c2 [2,21,24,2624];have hg:=alm (p:=p) h8 n2 n3 c2 (o8:=.bx [.sl 1 (aI (dI es)),B t.c.neg,lm t.c.m,I t.c.e]) (fun _=>rfl) (A:=A) (nA:=A.length) (iA:=i) v 0 (ayX _) dn hd hb;have e3:(aI (dI es)).length=v:=by rw[Cj,If,n2]
  rw[bV,n1]at e2;have ih':=ih (i+1) ω;rw[ag];simp only[qV,go_sem,g2,g6,g26,g27,g28,k2,k21,k24,k2624,hc,e1,e2,e3];generalize hX:ah 2 _ _=X;obtain⟨hh,dn',rfl,q2,q24,q21,q2624,m1,m2,m3,m4⟩:=hg _ _ _ hX rfl rfl rfl rfl rfl rfl rfl rfl rfl rfl rfl rfl rfl;simp only[go_sem,e5];generalize hX:ah 0 _ _=X;obtain⟨hh2,dn2,r1,r2,r3,r4,r5,u1,u2,u3,u4⟩:=ih' dn' ω m2 _ _ _ hX rfl rfl rfl rfl rfl q2 q21 q24 q2624;grind
theorem TP:∀ (l:List Nat) (d n:Nat),bF (l++[d]) n=bF l n*(d+1)
 |[],_,_=>rfl
 |a::l,d,n=>TP l d (n*(a+1))
theorem afW{dn:List Nat}{i:Nat}(h:i<dn.length):bF (dn.take (i+1)) 1=bF (dn.take i) 1*(dn.getD i 0+1):=by
 grind[List.take_add_one,TP]
theorem aiF{dn es:List Nat}{i s:Nat}(h:i<dn.length)(h2:i<es.length):pos (dn.drop i) (es.drop i) s=es.getD i 0*s+pos (dn.drop (i+1)) (es.drop (i+1)) (s*(dn.getD i 0+1)):=by
 rw[azj h,azj h2,List.getD_eq_getElem?_getD,List.getD_eq_getElem?_getD,List.getElem?_eq_getElem h,List.getElem?_eq_getElem h2];rfl
theorem alp{dn es:List Nat}{cs:List Ri}{p:Int}{v:Nat}(h8:v<=8)(hd:dn.length=v)(hb:∀d∈dn,d<=32)(hN4:bF dn 1<=400)(hes:es.length=v)(he32:∀e∈es,e<=32){o2 o15:Ob}(c2:∀l,aA l o2=true)(c15:∀l,aA l o15=true){A:List Rt}{nA iA:Int}:
  ∀ (k i:Nat),i+k=v->∀ (at_:Nat),at_+pos (dn.drop i) (es.drop i) (bF (dn.take i) 1)<=400->∀ (s:ai) (h:ac) (X:Option (Ex×St)),ah 8 [6,15,16,82,83,84] (aq (aj R (az false) j8) [6,15,16,82,83,84,89,90,91] [2,15,21,24,2624] s h)=X->s 6=.ref 24 none 0 0 0->s 15=.ref 15 none 0 0 0->s 16=I at_->s 82=.sl 4 (aD A)->s 83=I nA->s 84=I iA->s 89=.sl 1 (aI (dI es))->s 90=I v->s 91=I i->h 2=o2->h 15=o15->h 21=.dead->h 24=bH (dI dn) cs p->h 2624=.dead->
  ∃hh,X=some (.normal,⟨upd (upd (upd (upd (upd (upd (fun _=>.any) 84 (I iA)) 83 (I nA)) 82 (.sl 4 (aD A))) 16 (I (at_+pos (dn.drop i) (es.drop i) (bF (dn.take i) 1):Nat))) 15 (.ref 15 none 0 0 0)) 6 (.ref 24 none 0 0 0),hh⟩)/\hh 2=o2/\hh 15=o15/\hh 24=bH (dI dn) cs p/\(∀a,a≠2->a≠15->a≠24->hh a=.dead):=by
 intro k;induction k with
 |zero=>
  intro i hi at_ hat s h X hX g6 g15 g16 g82 g83 g84 g89 g90 g91 k2 k15 k21 k24 k2624;subst hX;have e1:((i:Int)< (v:Int))=False:=ff;have hc:=c2 [2,15,21,24,2624];have hc15:=c15 [2,15,21,24,2624];have hg:=(cA (dI dn) cs p).cl [2,15,21,24,2624];rw[azi (show dn.length<=i by omega)];have hp0:∀s,pos [] (es.drop i) s=0:=fun s=>by grind[pos]
  rw[hp0,azA,ag];refine⟨?hh0,?_,?_,?_,?_,?_⟩;rotate_left
  ·simp only[j8,go_sem,g6,g15,g16,g82,g83,g84,g89,g90,g91,k2,k15,k21,k24,k2624,hc,hc15,hg,e1];rfl
  all_goals simp_all[cj,if_false,ite_self]
 |succ k ih=>
  intro i hi at_ hat s h X hX g6 g15 g16 g82 g83 g84 g89 g90 g91 k2 k15 k21 k24 k2624;subst hX;have e1:((i:Int)< (v:Int))=True:=tt;have e3:aU (aI (dI es)) (i:Int)=some (.ipt [I (es.getD i 0:Nat)]):=rW rfl (Yg ω);have e5:IntKind.i64.wrap ((i:Int)+1)=((i+1:Nat):Int):=wi;have hbI:∀d∈dI dn,0<=d/\d<=32:=fun d hd=>by
   obtain⟨x,hx,rfl⟩:=List.mem_map.1 hd;grind
  have hst:=fun(h:ac) (d:Nat) (hh:h 24=bH (dI dn) cs p) (hd:h (2000+8*d)=.dead)=>dB (mM false) rfl (LA (m:=i) (by grind[If]) ω hbI (d:=d) hh hd);rw[show(dI dn).take i=dI (dn.take i)from(List.map_take ..).symm,show(1:Int)=((1:Nat):Int)from rfl,Mq]at hst;rw[aiF ω ω,←afW ω,←az0]at hat⊢;have ih':=ih (i+1) ω (at_+es.getD i 0*bF (dn.take i) 1) hat;generalize bF (dn.take i) 1=st at*
  generalize es.getD i 0=e at*
  have w1:IntKind.i64.wrap ((e:Int)*(st:Int))=((e*st:Nat):Int):=wi (Int.natCast_mul ..).symm ω;have w2:IntKind.i64.wrap ((at_:Int)+((e*st:Nat):Int))=((at_+e*st:Nat):Int):=wi;have hc:=c2 [2,15,21,24,2624];have hc15:=c15 [2,15,21,24,2624];have hg:=(cA (dI dn) cs p).cl [2,15,21,24,2624];rw[ag];simp only[j8,go_sem,g6,g15,g16,g82,g83,g84,g89,g90,g91,k2,k15,k21,k24,k2624,hc,hc15,hg,e1,e3];rw[hst _ _ rfl rfl];simp only[go_sem,w1,w2,e5];exact ih' _ _ _ rfl rfl rfl rfl rfl rfl rfl rfl rfl rfl rfl rfl rfl rfl rfl
def gT(dn:List Nat):List Rt->List (List Nat)->G->G
 |t::l,es::r,g=>gT dn l r (gs g (pos dn es 1) (qv t.c))
 |_,_,g=>g
theorem alq{dn:List Nat}{p:Int}{v:Nat}(h8:v<=8)(hd:dn.length=v)(hb:∀d∈dn,d<=32)(hN4:bF dn 1<=400){A:List Rt}{E:List (List Nat)}(hA:A.length=E.length)(h5:A.length<=500)(hn:∀ (i:Nat) (t:Rt) (es:List Nat),A[i]?=some t->E[i]?=some es->Nt v t es/\pos dn es 1<bF dn 1/\vd t.c=true/\Ok0 t.c){o2:Ob}(c2:∀l,aA l o2=true):
  ∀ (k i:Nat),i+k=A.length->∀ (cs:List Ri) (g:G),j6 (bF dn 1) cs g->∀ (s:ai) (h:ac) (X:Option (Ex×St)),ah 6 [6] (aq (aj R (az false) mH) [6,82,83,84] [2,21,24,2624] s h)=X->s 6=.ref 24 none 0 0 0->s 82=.sl 4 (aD A)->s 83=I A.length->s 84=I i->h 2=o2->h 21=.dead->h 24=bH (dI dn) cs p->h 2624=.dead->
  ∃hh cs',X=some (.normal,⟨upd (fun _=>.any) 6 (.ref 24 none 0 0 0),hh⟩)/\hh 24=bH (dI dn) cs' p/\j6 (bF dn 1) cs' (gT dn (A.drop i) (E.drop i) g):=by
 intro k;induction k with
 |zero=>
  intro i hi cs g he s h X hX g6 g82 g83 g84 k2 k21 k24 k2624;subst hX;have e1:((i:Int)< (A.length:Int))=False:=ff;have hc:=c2 [2,21,24,2624];have hg:=(cA (dI dn) cs p).cl [2,21,24,2624];rw[azi (show A.length<=i by omega),ag];refine⟨?hh0,cs,?_,?_,he⟩;rotate_left
  ·simp only[mH,go_sem,g6,g82,g83,g84,k2,k21,k24,k2624,hc,hg,e1];rfl
  ·rfl
 |succ k ih=>
  intro i hi cs g he s h X hX g6 g82 g83 g84 k2 k21 k24 k2624;subst hX;have hlt:i<A.length:=ω
  have e1:((i:Int)< (A.length:Int))=True:=tt;obtain⟨t,ht⟩:∃t,A[i]?=some t:=⟨_,List.getElem?_eq_getElem hlt⟩;obtain⟨es,hes⟩:∃es,E[i]?=some es:=⟨_,List.getElem?_eq_getElem ω⟩;obtain⟨⟨n1,n2,n3⟩,n4,n5,n6⟩:=hn i t es ht hes;have hgT:gT dn (A.drop i) (E.drop i) g=gT dn (A.drop (i+1)) (E.drop (i+1)) (gs g (pos dn es 1) (qv t.c)):=by
   have h1:A[i]=t:=Option.some.inj (by rw[←ht,List.getElem?_eq_getElem hlt]);have h2:E[i]'(by omega)=es:=Option.some.inj (by rw[←hes,List.getElem?_eq_getElem ω]);rw[azj hlt,azj (by omega:i<E.length),h1,h2];rfl
  have e2:aU (aD A) (i:Int)=some (.ipt (bV t)):=gy rfl ht;have e5:IntKind.i64.wrap ((i:Int)+1)=((i+1:Nat):Int):=wi;have e3:(aI (dI es)).length=v:=by rw[Cj,If,n2]
  rw[bV,n1]at e2;have h0:=alp (cs:=cs) (p:=p) h8 hd hb hN4 n2 n3 c2 (o15:=.bx [.sl 1 (aI (dI es)),B t.c.neg,lm t.c.m,I t.c.e]) (fun _=>rfl) (A:=A) (nA:=A.length) (iA:=i) v 0 (ayX _) 0 (by
   show 0+pos dn es 1<=400;omega)
  have hp0:0+pos (dn.drop 0) (es.drop 0) (bF (dn.take 0) 1)=pos dn es 1:=ayX _;rw[hp0]at h0;have hpt:=jY n6 n5;have ih':=ih (i+1) ω _ _ (he.set (k:=pos dn es 1) (xe n5 n6));rw[hgT];generalize pos dn es 1=P at*
  have i1:(0<=(P:Int))=True:=tt;have i2:((P:Int)< (cs.length:Int))=True:=eq_true (by rw[he.1];omega);have sr1:su 7 7 P 0 (ax ⟨t.c,t.c,false⟩) 7 (bK cs)=some (bK (cs.set P ⟨t.c,t.c,false⟩)):=Ie γ;have hc:=c2 [2,21,24,2624];have hg:=(cA (dI dn) cs p).cl [2,21,24,2624];simp only[af,ak,ap,ax]at hpt;simp only[ax]at sr1;rw[ag];simp only[mH,go_sem,g6,g82,g83,g84,k2,k21,k24,k2624,hc,hg,e1,e2,e3];generalize hX:ah 8 _ _=X;obtain⟨hh,rfl,q2,q15,q24,qd⟩:=h0 _ _ _ hX rfl rfl rfl rfl rfl rfl rfl rfl rfl rfl rfl rfl rfl rfl;have b1:=qd 2888 δ δ δ;have b2:=qd 2624 δ δ δ;have b3:=qd 21 δ δ δ;simp only[bH]at q24;simp only[go_sem,q15,q24,b1,hpt,i1,i2,ay4,ayX,Ic,sr1,e5];exact ih' _ _ _ rfl rfl rfl rfl rfl q2 b3 rfl b2
theorem afX:∀ (dn es:List Nat),dn.length=es.length->(∀j,es.getD j 0<=dn.getD j 0)->Qe dn es
 |[],[],_,_=>trivial
 |d::dn,e::es,h,hj=>⟨hj 0,afX dn es γ fun j=>hj (j+1)⟩
 |[],_::_,h,_=>by grind
 |_::_,[],h,_=>by grind
theorem Ox:∀ (dn:List Nat) (xs:List Rat),xs.length=dn.length->∀n,Bn (qH dn xs) n=bF dn n
 |[],[],_,_=>rfl
 |d::dn,x::xs,h,n=>Ox dn xs γ (n*(d+1))
 |[],_::_,h,_=>by grind
 |_::_,[],h,_=>by grind
theorem aa0:∀ (dn:List Nat) (n:Nat),n<=400->D5 (dI dn) (n:Int)=none\/D5 (dI dn) (n:Int)=some ((bF dn n:Nat):Int)/\bF dn n<=400
 |[],n,h=>Or.inr ⟨rfl,h⟩
 |d::dn,n,h=>by
  have e:D5 (dI (d::dn)) (n:Int)=if 400< (n:Int)*(Int.ofNat d+1)then none else D5 (dI dn) ((n:Int)*(Int.ofNat d+1)):=rfl
  have e2:(n:Int)*(Int.ofNat d+1)=((n*(d+1):Nat):Int):=by rfl
  rw[e,e2];split
  ·exact Or.inl rfl
  ·exact aa0 dn (n*(d+1)) ω
def GP(v:Nat)(A:List Rt)(E:List (List Nat))(p:Int)(r:AV×List Ob):Prop:=r=(.tup [.v (.pointer none),B false],[])\/∃dn cs,r=(.tup [.obx [.osl 1 (aI (dI dn)),.osl 7 (bK cs),I p],B true],[])/\dn.length=v/\(∀d∈dn,d<=32)/\(∀es∈E,Qe dn es)/\bF dn 1<=400/\j6 (bF dn 1) cs (gT dn A E fun _=>0)
theorem afY{v:Nat}{p:Int}(h8:v<=8){A:List Rt}{E:List (List Nat)}(hA:A.length=E.length)(h5:A.length<=500)(hn:∀ (i:Nat) (t:Rt) (es:List Nat),A[i]?=some t->E[i]?=some es->Nt v t es/\vd t.c=true/\Ok0 t.c):
  ∃r,R F.bound_gridOf [.agg [I v,.sl 4 (aD A)],I p] []=some r/\GP v A E p r:=by
 have z1:lI (.v (.int .i64 (v:Int))) (.v (.int .i64 (v:Int)))=some (v,v):=by
  simp only[lI];grind
 have z2:(v*8<=140737488355328)=True:=tt;have zr:ayW v [I 0]=aI (dI (ayW v 0)):=by grind[aI,dI,List.map_replicate]
 have hl:(aI (dI (ayW v 0))).length=v:=γ
 have h4:=aln (p:=p) h8 hA h5 (fun i t es h1 h2=>(hn i t es h1 h2).1) (o2:=.bx [I v,.sl 4 (aD A)]) (fun _=>rfl) A.length 0 (ayX _) (ayW v 0) σ (fun d hd=>by grind);have hrl:=nO A;refine Mp (r:=fun a=>a) BW.2.1 BW.2.2 (BW.1.2.2.2 false) rfl (azJ rfl) ?_;have hh0:am []=fun _=>.dead:=by funext i;simp[am]
 simp only[AH,HG,hh0,go_sem,azx,z1,z2,zr];rw[anY (k:=1) (rows:=aI (dI (ayW v 0))) rfl hl.symm rfl δ];simp only[go_sem];generalize hX:ah 0 _ _=X;obtain⟨hh,dn,rfl,q2,q24,q21,q2624,d1,d2,d3,d4⟩:=h4 _ _ _ hX rfl rfl rfl rfl rfl rfl rfl rfl rfl;have hdl:(dI dn).length=v:=by rw[If,d1]
 have hbI:∀d∈dI dn,0<=d/\d<=32:=fun d hd=>by
  obtain⟨x,hx,rfl⟩:=List.mem_map.1 hd;grind
 simp only[go_sem,q2,q24,q21,q2624,hdl,Cj];generalize hX:ah 4 _ _=X;have hM:=aqt (ds:=dI dn) (p:=p) hdl.symm ω hbI (o2:=.bx [I v,.sl 4 (aD A)]) (fun _=>rfl) _ _ _ hX rfl rfl rfl rfl rfl rfl q2 q21 q24 q2624;rcases aa0 dn 1 δ with hm| ⟨hm,h4⟩
 ·rw[show(1:Int)=((1:Nat):Int)from rfl,hm]at hM;obtain⟨hh2,rfl⟩:=hM;refine⟨_,?_,Or.inl rfl⟩;simp only[go_sem]
 rw[show(1:Int)=((1:Nat):Int)from rfl,hm]at hM;obtain⟨hh,rfl,q2,q24,qd⟩:=hM;have hle:∀es∈E,Qe dn es:=fun es he=>by
  obtain⟨i,hi⟩:=List.getElem?_of_mem he;have hiE:=(List.getElem?_eq_some_iff.1 hi).1;have:=(hn i _ es (List.getElem?_eq_getElem ω) hi).1.2.1;exact afX dn es ω (d4 i es (azH _) hi)
 have hpt:=jY aV.2 aV.1;have hrp:=afV (x:=P6) (oI dn 1 δ) h4;have h1:=alq (p:=p) h8 d1 d2 h4 hA h5 (fun i t es h1 h2=>by
  obtain⟨a,b,c⟩:=hn i t es h1 h2;refine⟨a,?_,b,c⟩;have hL:=hle es (List.mem_of_getElem? h2);have:=afE dn es (ayW dn.length 0) hL σ 1 0 δ
  simp_all[Ox,ayX]) (o2:=.bx [I v,.sl 4 (aD A)]) (fun _=>rfl) A.length 0 (ayX _) (ayW (bF dn 1) P6) (fun _=>0) ⟨by simp,fun k x hx=>by
   rw[List.getElem?_replicate]at hx;split at hx
   ·cases hx;rw[←Lq];exact xe aV.1 aV.2
   grind⟩
 generalize ayW (bF dn 1) P6=cs0 at hrp h1;have b1:=qd 2600 δ δ;have b2:=qd 76 δ δ;have b3:=qd 2624 δ δ;have b4:=qd 21 δ δ;simp only[af,ak,ap,ax,aG,P6]at hpt hrp;simp only[ax,go_sem,q24,b1,b2,b3,hpt,hrp];rw[iZ (h:=upd (upd (upd hh 76 _) 76 _) 2624 (.ar 7 (bK cs0))) (id:=24) (p:=1) (id2:=2624) (k:=7) (n:=cs0.length) rfl (Ed _).symm q24 δ γ];simp only[go_sem,anX,azK,q2,hrl];generalize hX:ah 6 _ _=X;obtain⟨hh2,cs2,rfl,r24,he2⟩:=h1 _ _ _ hX rfl rfl rfl rfl q2 b4 rfl rfl;refine⟨_,?_,Or.inr ⟨dn,cs2,rfl,d1,d2,hle,h4,he2⟩⟩;simp only[bH]at r24;simp only[go_sem,r24];rw[if_pos (by rfl)];have e:sB hh2 (.ref 24 none 0 0 0)=some (.obx [.osl 1 (aI (dI dn)),.osl 7 (bK cs2),I p]):=by
  have hp:bk 24=false:=rfl;simp[sB,mS,abu,r24,hp];exact⟨rfl,rfl,rfl⟩
 rw[e];rfl
def sk:List Nat->List Rat->List (Nat×LF)
 |d::ds,t::ts=>(d,fun v=>dc t v d 0)::sk ds ts
 |_,_=>[]
theorem afZ:∀ (ds:List Nat) (ts:List Rat),Qd (sk ds ts)
 |d::ds,t::ts=>fun p hp=>by
  rcases List.mem_cons.1 hp with rfl|hp
  ·simp_all[Qc]
  ·exact afZ ds ts p hp
 |[],_=>fun _ h=>by grind[sk]
 |_::_,[]=>fun _ h=>by grind[sk]
theorem Ss:∀ (dn:List Nat) (ts:List Rat),ts.length=dn.length->∀n,Bn (sk dn ts) n=bF dn n
 |[],[],_,_=>rfl
 |d::dn,x::xs,h,n=>Ss dn xs γ (n*(d+1))
 |[],_::_,h,_=>by grind
 |_::_,[],h,_=>by grind
theorem Yh:∀ (dn:List Nat) (ts:List Rat),ts.length=dn.length->∀d t,sk (dn++[d]) (ts++[t])=sk dn ts++[(d,fun v=>dc t v d 0)]
 |[],[],_,_,_=>rfl
 |d::dn,x::xs,h,d',t'=>by
  show _::sk (dn++[d']) (xs++[t'])=_::(sk dn xs++_);rw[Yh dn xs (by simpa using h)]
 |[],_::_,h,_,_=>by grind
 |_::_,[],h,_,_=>by grind
theorem Yi:∀ (a b:List Nat) (n:Nat),bF (a++b) n=bF b (bF a n)
 |[],_,_=>rfl
 |d::a,b,n=>Yi a b (n*(d+1))
theorem aiG{dn1 dn2:List Nat}{n N:Nat}{xs2 ts1:List Rat}(h1:ts1.length=dn1.length)(h2:xs2.length=dn2.length)(hN:N=bF (dn1++n::dn2) 1){x t lo w:Rat}(hx:x=lo+w*t)(g:G):
  iU (sk dn1 ts1++(n,fun v=>pl x v 0 (n+1))::qH dn2 xs2) 1 0 g=
   iU (sk dn1 ts1++(n,fun v=>dc t v n 0)::qH dn2 xs2) 1 0 (ps (fun f=>P9 n (fun j=>f+j*bF dn1 1)) (bF dn1 1) n N 0 (ps (fun f=>P8 lo w n (fun j=>f+j*bF dn1 1)) (bF dn1 1) n N 0 g)):=by
 have hs:=oI dn1 1 δ;have ht1:=Ss dn1 ts1 h1 1;have ht2:=Ox dn2 xs2 h2;rw[Yi]at hN;have hN:N=bF dn2 (bF dn1 1*(n+1)):=hN;generalize bF dn1 1=s at*
 have hi:∀f a b:Nat,f+a*s=f+b*s↔a=b:=fun f a b=>⟨fun h=>Nat.eq_of_mul_eq_mul_right ω (Nat.add_left_cancel h),fun h=>by rw[h]⟩;have c1:qM (n+1) fun v=>pl x v 0 (n+1):=Ls _ _ σ;have c2:qM (n+1) fun v=>pl t v 0 (n+1):=Ls _ _ σ;have c3:qM (n+1) fun v=>dc t v n 0:=Qc _ _ σ;have key:∀ (L L':LF) (op:Nat->G->G) (g:G),qM (n+1) L->qM (n+1) L'->(∀f g,(∀a,(∀m,m<=n->a≠f+m*s)->op f g a=g a)/\L (fun m=>g (f+m*s))=L' (fun m=>op f g (f+m*s)))->
   iU (sk dn1 ts1++(n,L)::qH dn2 xs2) 1 0 g=iU (sk dn1 ts1++(n,L')::qH dn2 xs2) 1 0 (ps op s n N 0 g):=fun L L' op g hL hL' hop=>by
  refine X5 hL hL' (Mm dn2 xs2) (sk dn1 ts1) (afZ dn1 ts1) 1 0 δ fun i0 q hi0 hq=>?_;rw[ht1]at hi0 hq⊢;refine(aqq ω hL hL' hop N 0 g).2 _ (azH _) ?_ ?_
  ·grind
  ·have e:i0+q*(s*(n+1))=i0+q*(n+1)*s:=γ
   rw[e,Nat.add_mul_div_right _ _ ω,Nat.div_eq_of_lt hi0,ayX,Nat.mul_mod_left]
 rw[key _ _ (fun f=>P8 lo w n (fun j=>f+j*s)) g c1 c2 fun f g=>anQ hx (hi f) n g];exact key _ _ (fun f=>P9 n (fun j=>f+j*s)) _ c2 c3 fun f g=>anR (hi f) n g
theorem af0{dn:List Nat}{xs:List Rat}(hx:xs.length=dn.length):∀ (A:List Rt) (E:List (List Nat)) (g:G),A.length=E.length->(∀es∈E,Qe dn es)->E.Nodup->(∀es∈E,g (pos dn es 1)=0)->(∀ (i:Nat) (t:Rt) (es:List Nat),A[i]?=some t->E[i]?=some es->t.exps=dI es)->
  iU (qH dn xs) 1 0 (gT dn A E g)=iU (qH dn xs) 1 0 g+fv xs A
 |[],[],g,_,_,_,_,_=>by
  show _=_+0;rw[Rat.add_zero];rfl
 |t::A,es::E,g,hA,hle,hnd,h0,hE=>by
  obtain⟨hn1,hn2⟩:=List.nodup_cons.1 hnd;have hes:=hE 0 t es rfl rfl;have hxn:GJ t.exps=es:=by
   rw[hes];unfold GJ dI;rw[List.map_map];exact(azy (g:=fun c=>c) fun x _=>by simp).trans (azN _)
  show iU (qH dn xs) 1 0 (gT dn A E (gs g (pos dn es 1) (qv t.c)))=_;rw[af0 hx A E _ γ (fun e he=>hle e γ) hn2 (fun e he=>by
   unfold gs;rw[if_neg fun hq=>?_]
   ·grind
   ·have:=(aaQ dn e es (hle e γ) (hle es σ) 1 0 0 δ δ ω).2;grind) fun i u e h1 h2=>hE (i+1) u e h1 h2]
  rw[anS (Mm dn xs),h0 es σ];have hm:=aaP dn es xs (hle es σ) hx 1 0 0 δ δ;grind[qv,Np,GJ,fv]
 |[],_::_,_,h,_,_,_,_=>by grind
 |_::_,[],_,h,_,_,_,_=>by grind
theorem aiH{ls:List (Nat×LF)}(ok:Qd ls)(s i:Nat):iU ls s i (fun _=>0)=0:=by
 have:=Sp (a:=0) (c:=0) (g:=fun _=>0) (h:=fun _=>0) ls ok s i;grind
theorem an3{lo hi:Rat}{g:G}{dn:List Nat}{ts:List Rat}(hl:ts.length=dn.length)(ht:∀t∈ts,0<=t/\t<=1)(h:∀k,k<bF dn 1->lo<=g k/\g k<=hi):lo<=iU (sk dn ts) 1 0 g/\iU (sk dn ts) 1 0 g<=hi:=by
 refine aaO (sk dn ts) ?_ 1 0 fun q hq=>?_
 ·have:∀ (dn:List Nat) (ts:List Rat),(∀t∈ts,0<=t/\t<=1)->∀p∈sk dn ts,∀v:G,(∀j,j<=p.1->lo<=v j/\v j<=hi)->lo<=p.2 v/\p.2 v<=hi:=by
   intro dn;induction dn with
   |nil=>grind[sk]
   |cons d dn ih=>
    intro ts ht p hp v hv;cases ts with
    |nil=>grind[sk]
    |cons t ts=>
     rcases List.mem_cons.1 hp with rfl|hp
     all_goals grind[X4]
  exact this dn ts ht
 grind[Ss]
theorem Yj{l:List Int}(h:∀e∈l,0<=e):l=dI (GJ l):=by
 grind[dI,GJ,List.map_map,azy,Int.toNat_of_nonneg,azN]
def LB(l:List Rt):List (List Nat):=l.map fun t=>GJ t.exps
theorem aiI{v:Int}{l:List Rt}(c:Cl v l):(LB l).Nodup:=by
 have h1:l.Pairwise fun a b=>a.exps≠b.exps:=c.s.imp fun h=>(TF h).symm;unfold LB;rw[List.nodup_iff_pairwise_ne,List.pairwise_map];refine List.Pairwise.imp_of_mem (fun{a b} ha hb h he=>h ?_) h1;rw[Yj fun e hx=>((c.t a ha).b e hx).1,Yj fun e hx=>((c.t b hb).b e hx).1,he]
theorem ajw{v:Nat}{l:List Rt}(c:Cl v l)(i:Nat)(t:Rt)(es:List Nat)(h1:l[i]?=some t)(h2:(LB l)[i]?=some es):Nt v t es/\vd t.c=true/\Ok0 t.c:=by
 have hm:=c.t t (List.mem_of_getElem? h1);unfold LB at h2;rw[List.getElem?_map,h1]at h2;have h2:GJ t.exps=es:=Option.some.inj h2;subst h2;refine⟨⟨Yj fun e hx=>(hm.b e hx).1,?_,fun e he=>?_⟩,hm.vc,hm.c⟩
 ·have:=hm.len;grind[GJ,azW]
 ·obtain⟨z,hz,rfl⟩:=List.mem_map.1 he;have:=hm.b z hz;omega
def qo(o:Option Rd):Rat:=qv (o.getD aG)
theorem Su{x:Rat}:∀ (l:List Rt) (o0 o1:Option Rd),(∀t∈l,t.exps=[0]/\o0=none\/t.exps=[1]/\o1=none)->l.Pairwise (fun a b=>a.exps≠b.exps)->∃p0 p1,Cb l [o0,o1]=[p0,p1]/\qo p0+qo p1*x=qo o0+qo o1*x+fv [x] l
 |[],o0,o1,_,_=>⟨o0,o1,rfl,by show _=_+0;grind⟩
 |t::l,o0,o1,h,hp=>by
  obtain⟨p1,p2⟩:=List.pairwise_cons.1 hp;have q0:qo none=0:=Lq;unfold Cb;rcases h t σ with⟨he,rfl⟩| ⟨he,rfl⟩
  ·have hs:[none,o1].set (xO 1 t.exps 0+1).toNat (some t.c)=[some t.c,o1]:=by rw[he];rfl
   rw[hs];obtain⟨a,b,e1,e2⟩:=Su (x:=x) l (some t.c) o1 (fun u hu=>by
    grind) p2
   refine⟨a,b,e1,?_⟩;rw[e2];show qv t.c+_+_=_+(qv t.c*Np [x] (GJ t.exps)+fv [x] l);rw[he,q0];show _=_+(qv t.c*(x^0*1)+_);grind
  ·have hs:[o0,none].set (xO 1 t.exps 0+1).toNat (some t.c)=[o0,some t.c]:=by rw[he];rfl
   rw[hs];obtain⟨a,b,e1,e2⟩:=Su (x:=x) l o0 (some t.c) (fun u hu=>by
    grind) p2
   refine⟨a,b,e1,?_⟩;rw[e2];show _+qv t.c*x+_=_+(qv t.c*Np [x] (GJ t.exps)+fv [x] l);rw[he,q0];show _=_+(qv t.c*(x^1*1)+_);grind
theorem af1{a:Rp}(oa:OkP a)(hl:GH a=true)(h1:a.vars=1)(x:Rat):∃c m,Ja a=[c,m]/\fv [x] a.terms=qv c+qv m*x:=by
 obtain⟨hv,hd⟩:=aky hl;obtain⟨cl,_⟩:=jZ oa hv;obtain⟨p0,p1,e1,e2⟩:=Su (x:=x) a.terms none none (fun t ht=>by
  obtain⟨s1,s2,s3,s4,s5⟩:=Mb hv ht;obtain⟨e,he⟩:=akz (s2.trans h1);have h3:=s1.2 e γ;grind[aS]) (cl.s.imp fun h=>(TF h).symm)
 refine⟨p0.getD aG,p1.getD aG,?_,?_⟩
 ·simp_all[Ja,odV,Cb]
 grind[qo,Lq,p0]
theorem aiJ{c m:Rd}{b:Ri}{x:Rat}{p:Int}(vc:vd c=true/\Ok0 c)(vm:vd m=true/\Ok0 m)(hp:bO p=true)(hb:In x b)(hk:kI b=true):In (qv c+qv m*x) (Jb c m b p):=by
 rcases hb.k with⟨rfl,h1⟩| ⟨_,x1,x2⟩
 ·grind
 have hq:∀ {y:Rd},(fh m y).2=0->qv (fh m y).1=qv m*qv y:=fun{y} h=>by
  have h1:=akx h;have h2:=(Qa (z:=zI m*zI y) (r:=zI (fh m y).1) 16384).1 (Int.le_of_eq h1.symm);have h3:=(Qa (z:=zI m*zI y) (r:=zI (fh m y).1) 16384).2 (Int.le_of_eq h1);unfold qv EQ;grind
 unfold Jb ac6;split
 ·next h=>
  have v1:=Mc m (Tx m b);have v2:=Mc m (Ty m b);have ok:∀ {a b:Rd} {up:Bool},vd (di a b p up).1=true/\Ok0 (di a b p up).1:=fun{a b up}=>by
   grind[di,ub,aV]
  have hm:qv m*qv (Tx m b)<=qv m*x/\qv m*x<=qv m*qv (Ty m b):=by
   unfold Tx Ty;by_cases hs:gx m<0
   ·have h0:=(Jk vm.1).2.1 hs;have a:=Rat.mul_le_mul_of_nonneg_left x1 (show 0≤-qv m by grind);have b:=Rat.mul_le_mul_of_nonneg_left x2 (show 0≤-qv m by grind);grind
   ·have h0:0<=qv m:=Rat.not_lt.1 fun h=>hs ((Jk vm.1).2.2 h);grind[Rat.mul_le_mul_of_nonneg_left]
  refine U3 ok ok (fun h=>?_) (fun h=>?_)
  all_goals grind[X3]
 ·exact Or.inl rfl
def yi:List Ri->List Rat->List Rat->Prop
 |b::dom,x::xs,t::ts=>x=qv b.lo+(qv b.hi-qv b.lo)*t/\0<=t/\t<=1/\yi dom xs ts
 |[],[],[]=>True
 |_,_,_=>False
theorem yi.len:∀ {dom:List Ri} {xs ts:List Rat},yi dom xs ts->xs.length=dom.length/\ts.length=dom.length
 |_::_,_::_,_::_,h=>by
  obtain⟨a,b⟩:=yi.len h.2.2.2;grind
 |[],[],[],_=>⟨rfl,rfl⟩
 |[],_::_,_,h=>h.elim
 |[],[],_::_,h=>h.elim
 |_::_,[],_,h=>h.elim
 |_::_,_::_,[],h=>h.elim
theorem yi.get:∀ {dom:List Ri} {xs ts:List Rat},yi dom xs ts->∀ {i:Nat} {b:Ri},dom[i]?=some b->∃x t,xs[i]?=some x/\ts[i]?=some t/\x=qv b.lo+(qv b.hi-qv b.lo)*t
 |b::_,x::_,t::_,h,0,b',hb=>by
  have:b=b':=γ
  subst this;exact⟨x,t,rfl,rfl,h.1⟩
 |_::_,_::_,_::_,h,i+1,b,hb=>yi.get h.2.2.2 (i:=i) γ
 |[],_,_,_,_,_,hb=>by grind
 |_::_,[],_,h,_,_,_=>h.elim
 |_::_,_::_,[],h,_,_,_=>h.elim
theorem yi.t01:∀ {dom:List Ri} {xs ts:List Rat},yi dom xs ts->∀t∈ts,0<=t/\t<=1
 |_::_,_::_,_::_,h,t,ht=>by
  rcases List.mem_cons.1 ht with rfl|ht
  ·exact⟨h.2.1,h.2.2.1⟩
  ·exact yi.t01 h.2.2.2 t ht
 |[],[],[],_,t,ht=>by grind
 |[],_::_,_,h,_,_=>h.elim
 |[],[],_::_,h,_,_=>h.elim
 |_::_,[],_,h,_,_=>h.elim
 |_::_,_::_,[],h,_,_=>h.elim
theorem aiK{dn:List Nat}{i n:Nat}(h:dn[i]?=some n):dn.take i++n::dn.drop (i+1)=dn/\dn.drop i=n::dn.drop (i+1)/\dn.take (i+1)=dn.take i++[n]:=by
 grind[List.take_append_drop,List.take_add_one]
theorem alr{dom:List Ri}{dn:List Nat}{p:Int}{v:Nat}(h8:v<=8)(hd:dn.length=v)(hdl:dom.length=v)(hb:∀d∈dn,d<=32)(hN4:bF dn 1<=400)(od:∀b∈dom,VI b){c6:List AV}(hc6:aA [6,2368] (.bx c6)=true):
  ∀ (k i:Nat),i+k=v->∀ (cs:List Ri) (g:G),j6 (bF dn 1) cs g->∀ (s:ai) (h:ac) (X:Option (Ex×St)),ah 0 [6,9] (aq (aj R (az false) mX) [1,6,9,56,57] [6,2368] s h)=X->s 1=.sl 7 (bK dom)->s 6=.ref 6 none 0 0 0->s 9=.ref 2368 none 0 0 0->s 56=I v->s 57=I i->h 6=.bx c6->h 2368=bH (dI dn) cs p->
  ∃hh cs' g',X=some (.normal,⟨upd (upd (fun _=>.any) 9 (.ref 2368 none 0 0 0)) 6 (.ref 6 none 0 0 0),hh⟩)/\hh 6=.bx c6/\hh 2368=bH (dI dn) cs' p/\(∀a,a≠6->a≠2368->hh a=.dead)/\j6 (bF dn 1) cs' g'/\
   ∀xs ts:List Rat,yi dom xs ts->iU (sk (dn.take i) (ts.take i)++qH (dn.drop i) (xs.drop i)) 1 0 g=iU (sk dn ts) 1 0 g':=by
 intro k;induction k with
 |zero=>
  intro i hi cs g he s h X hX g1 g6 g9 g56 g57 k6 k2368;subst hX;have e1:((i:Int)< (v:Int))=False:=ff;have hg:=(cA (dI dn) cs p).cl [6,2368];rw[ag];refine⟨?hh0,cs,g,?_,?_,?_,?_,he,fun xs ts hp=>?_⟩;rotate_left
  ·simp only[mX,go_sem,g1,g6,g9,g56,g57,k6,k2368,hc6,hg,e1];rfl
  ·rfl
  ·rfl
  ·simp_all[cj,if_false]
  ·obtain⟨l1,l2⟩:=hp.len;rw[azg ω,azg ω,azi ω];show iU (sk dn ts++[]) 1 0 g=_;grind
 |succ k ih=>
  intro i hi cs g he s h X hX g1 g6 g9 g56 g57 k6 k2368;subst hX;have hlt:i<v:=ω
  have e1:((i:Int)< (v:Int))=True:=tt;obtain⟨b,hb0⟩:∃b,dom[i]?=some b:=⟨_,List.getElem?_eq_getElem ω⟩;obtain⟨n,hn⟩:∃n,dn[i]?=some n:=⟨_,List.getElem?_eq_getElem ω⟩;have e2:aU (bK dom) (i:Int)=some (.ipt (ax b)):=L7 rfl hb0;have e5:IntKind.i64.wrap ((i:Int)+1)=((i+1:Nat):Int):=wi;have vb:=od b (List.mem_of_getElem? hb0);have hg:=(cA (dI dn) cs p).cl [6,2368];obtain⟨cs1,hR1,he1⟩:=alj (p:=p) vb.1 vb.2 hn ω hb hN4 he;obtain⟨cs2,hR2,he2⟩:=ali (p:=p) hn ω hb hN4 he1;have hu:=fun(h:ac) (d:Nat) (hh:h 2368=bH (dI dn) cs p) (hd:h (2000+8*d)=.dead)=>dB (iv.1.2.1 false) (by rfl) (Je (iv.1.2.1 false) (iv.1.2.2.2 false) (zas:=[I i,ap b]) (as':=[I i,ap b]) (by rw[iv.1.1];simp only[ap,ax,go_sem]) rfl rfl hh (cA _ _ _) (cA _ _ _) (fun _=>rfl) hR1 ah5 (d:=d) δ rfl);have hbn:=fun(h:ac) (d:Nat) (hh:h 2368=bH (dI dn) cs1 p) (hd:h (2000+8*d)=.dead)=>dB (eE.1.2.1 false) (by rfl) (Je (eE.1.2.1 false) (eE.1.2.2.2 false) (zas:=[I i]) (as':=[I i]) (by rw[eE.1.1];rfl) rfl rfl hh (cA _ _ _) (cA _ _ _) (fun _=>rfl) hR2 ah5 (d:=d) δ rfl);have ih':=ih (i+1) ω _ _ he2;rw[ag];generalize aq _ _ _=L at ih'⊢;simp only[ap,ax]at e2 hu;simp only[mX,go_sem,g1,g6,g9,g56,g57,k6,k2368,hc6,hg,e1,e2];rw[hu _ _ rfl rfl];simp only[go_sem];rw[hbn _ _ rfl rfl];simp only[go_sem,e5];generalize hX:ah 0 _ _=X;obtain⟨hh,cs',g',q1,q2,q3,q4,q5,q6⟩:=ih' _ _ _ hX rfl rfl rfl rfl rfl rfl rfl;refine⟨hh,cs',g',q1,q2,q3,q4,q5,fun xs ts hp=>?_⟩;obtain⟨l1,l2⟩:=hp.len;obtain⟨x,t,hx,ht,hxt⟩:=hp.get hb0;rw[←q6 xs ts hp];obtain⟨d1,d2,d3⟩:=aiK hn;have hxd:xs.drop i=x::xs.drop (i+1):=by
   grind[azj]
  have htd:ts.take (i+1)=ts.take i++[t]:=by
   grind[List.take_add_one]
  rw[d2,d3,hxd,htd,Yh _ _ γ,azB];exact aiG γ γ (by rw[d1]) hxt g
theorem als{ds:List Int}{p:Int}{N:Nat}(hN:N<=400){cs:List Ri}{g:G}(he:j6 N cs g){c6:List AV}(hc6:aA [6,12,2368] (.bx c6)=true):∀ (k i:Nat),i+k=N->∀out:Ri,OkI out->(∀j,j<i->In (g j) out)->(∃q,In q out)->∀ (s:ai) (h:ac) (X:Option (Ex×St)),ah 2 [6,12] (aq (aj R (az false) mW) [6,12,80,81,82] [6,12,2368] s h)=X->
  s 6=.ref 6 none 0 0 0->s 12=.ref 12 none 0 0 0->s 80=.rsl 2368 (some 1) 7 0 N->s 81=I N->s 82=I i->h 6=.bx c6->h 12=ge out->h 2368=bH ds cs p->
  ∃hh out',X=some (.normal,⟨upd (upd (fun _=>.any) 12 (.ref 12 none 0 0 0)) 6 (.ref 6 none 0 0 0),hh⟩)/\hh 6=.bx c6/\hh 12=ge out'/\OkI out'/\(∀j,j<N->In (g j) out'):=by
 intro k;induction k with
 |zero=>
  intro i hi out oo ho hq s h X hX g6 g12 g80 g81 g82 k6 k12 k2368;subst hX;have e1:((i:Int)< (N:Int))=False:=ff;have hg:=(cA ds cs p).cl [6,12,2368];have hoc:=(gA out).cl [6,12,2368];rw[ag];refine⟨?hh0,out,?_,?_,?_,oo,fun j hj=>ho j ω⟩;rotate_left
  ·simp only[mW,go_sem,g6,g12,g80,g81,g82,k6,k12,k2368,hc6,hg,hoc,e1];rfl
  ·rfl
  ·rfl
 |succ k ih=>
  intro i hi out oo ho hq s h X hX g6 g12 g80 g81 g82 k6 k12 k2368;subst hX;have e1:((i:Int)< (N:Int))=True:=tt;have e5:IntKind.i64.wrap ((i:Int)+1)=((i+1:Nat):Int):=wi;obtain⟨x,x1,x2⟩:=he.get (k:=i) ω;have q1:(bK cs)[i]?=some (ax x):=by grind[bK]
  have i1:(0<=(i:Int))=True:=tt;have hg:=(cA ds cs p).cl [6,12,2368];have hoc:=(gA out).cl [6,12,2368];have ch:=ais oo x2.ok;have ih':=ih (i+1) ω (Mk out x) (by
   obtain⟨q,hq⟩:=hq;exact(Jj hq x2).1.ok) (fun j hj=>by
   obtain⟨q,hq⟩:=hq;by_cases hji:j=i
   ·subst hji;exact(Jj hq x2).2
   ·exact(Jj (ho j ω) x2).1) ⟨_,(Jj hq.choose_spec x2).1⟩
  rw[ag];simp only[ap,ax]at ch;simp only[ax]at q1;simp only[bH]at k2368 hg;simp only[ge]at k12 hoc;simp only[mW,go_sem,g6,g12,g80,g81,g82,k6,k12,k2368,hc6,hg,hoc,e1,i1,zO,En,ay4,ayX,q1,ch,e5];exact ih' _ _ _ rfl rfl rfl rfl rfl rfl rfl rfl rfl
def BrG(a:Rp)(dom:List Ri)(p:Int)(b:Ri):Prop:=(∀xs ts:List Rat,yi dom xs ts->In (fv xs a.terms) b)/\((pg a dom&&bO p)=false->b=ed)
theorem yi.inL:∀ {dom:List Ri} {xs ts:List Rat},(∀b∈dom,kI b=true/\VI b)->yi dom xs ts->InL xs dom
 |b::_,x::_,t::_,hk,h=>by
  obtain⟨h1,h2,h3,h4⟩:=h;obtain⟨k1,k2⟩:=hk b σ;refine⟨Or.inr ⟨?_,k2,?_⟩,yi.inL (fun b hb=>hk b γ) h4⟩
  ·unfold kI at k1;grind
  ·have hle:qv b.lo<=qv b.hi:=by
    rw[D4];unfold kI vi at k1;grind
   have a:=Rat.mul_nonneg (show 0<=qv b.hi-qv b.lo by grind) h2;have b:=Rat.mul_nonneg (show 0<=qv b.hi-qv b.lo by grind) (show 0<=1-t by grind);grind
 |[],[],[],_,_=>trivial
 |[],_::_,_,_,h=>h.elim
 |[],[],_::_,_,h=>h.elim
 |_::_,[],_,_,h=>h.elim
 |_::_,_::_,[],_,h=>h.elim
theorem Yk{a:Rp}{dom:List Ri}(od:∀x∈dom,OkI x)(hd:pg a dom=true):vp a=true/\(dom.length:Int)=a.vars/\∀b∈dom,kI b=true/\VI b:=by
 unfold pg at hd;simp only[ay1,decide_eq_true_eq,Bool.not_eq_true',List.any_eq_false]at hd;refine⟨hd.1,hd.2.1,fun b hb=>?_⟩;have h1:kI b=true:=by
  grind
 have h2:=h1;unfold kI vi at h2;cases ha:b.all with
 |true=>grind
 |false=>
  rw[ha]at h2;simp at h2;have:=od b hb;exact⟨h1,⟨h2.1,this.lo⟩,⟨h2.2.1,this.hi⟩⟩
theorem Yl{a:Rp}{dom:List Ri}(oa:OkP a)(od:∀x∈dom,OkI x)(h2:dom.length<=100000){p:Int}:∃b,R F.bound_Bernstein [be a,.sl 7 (bK dom),I p] []=some (ap b,[])/\BrG a dom p b:=by
 have hf:=L8 oa od h2 (p:=p);have hw:=I9;cases hq:(pg a dom&&bO p)with
 |false=>
  rw[hq]at hf;refine⟨ed,?_,fun _ _ _=>Or.inl rfl,fun _=>rfl⟩;refine av ke rfl ?_;simp only[be,ap,ax,ed,aG]at hf hw;simp only[gH,j7,be,ap,ax,ed,aG,go_sem,hf,hw]
 |true=>
  rw[hq]at hf;have hdp:=hq;rw[ay1]at hdp;obtain⟨hd,hp⟩:=hdp;obtain⟨hv,hl,hk⟩:=Yk od hd;obtain⟨cl,v0,v8,h5⟩:=jZ oa hv;have nf:(pg a dom&&bO p)=false->∀b:Ri,b=ed:=fun h=>by grind
  by_cases hlin:GH a=true/\a.vars=1
  ·obtain⟨x,rfl⟩:∃x,dom=[x]:=List.length_eq_one_iff.1 ω;obtain⟨c,m,e1,_⟩:=af1 oa hlin.1 hlin.2 0;have hx:=hk x σ;obtain⟨k1,_⟩:=aao oa hv;rw[e1]at k1;refine⟨Jb c m x p,ahV oa od ω hlin.1 hlin.2 e1 rfl,fun xs ts hpt=>?_,fun h=>nf h _⟩;obtain⟨l1,l2⟩:=hpt.len;obtain⟨y,rfl⟩:∃y,xs=[y]:=List.length_eq_one_iff.1 l1;have hin:=yi.inL (fun b hb=>hk b hb) hpt;obtain⟨c',m',e3,e2⟩:=af1 oa hlin.1 hlin.2 y;rw[e1]at e3;injection e3 with g1 g2
   injection g2 with g2
   subst g1;subst g2;rw[e2];exact aiJ (k1 c σ) (k1 m σ) hp hin.1 hx.1
  ·obtain⟨v,hvv⟩:=az4 v0;have hL:=Tw oa;obtain⟨r,hg,hgp⟩:=afY (v:=v) (p:=p) ω (A:=a.terms) (E:=LB a.terms) (by simp[LB]) h5 (fun i t es h1 h2=>ajw (hvv▸cl) i t es h1 h2);have hcc:∃L b,XC a=.tup [CY L,B b]/\(b=true->¬a.vars=1):=by
    grind[XC,absurd]
   obtain⟨L,bl,e1,e2⟩:=hcc;rw[e1]at hL;have hVI:∀b∈dom,VI b:=fun b hb=>(hk b hb).2;rcases hgp with rfl| ⟨dn,cs,rfl,d1,d2,d3,d4,he⟩
   ·refine⟨ed,?_,fun _ _ _=>Or.inl rfl,fun _=>rfl⟩;refine av ke rfl ?_;rw[←hvv]at hg;simp only[be,ap,ax,ed,aG,CY]at hf hw hL;cases bl with
    |true=>
     have e3:(a.vars=1)=False:=eq_false (e2 rfl);simp only[gH,j7,be,ap,ax,ed,aG,go_sem,hf,hw,hL,e3,hg]
    |false=>
     simp only[gH,j7,be,ap,ax,ed,aG,go_sem,hf,hw,hL,hg]
   ·have hdl:dom.length=v:=ω
    have hbg:=alr (p:=p) (c6:=[B false,.emp,I 0,B false,.emp,I 0,B false]) ω d1 hdl d2 d4 hVI rfl v 0 (ayX _) cs _ he;rw[←hvv]at hg;have hval:∀xs:List Rat,xs.length=dn.length->iU (qH dn xs) 1 0 (gT dn a.terms (LB a.terms) fun _=>0)=fv xs a.terms:=fun xs hx=>by
     rw[af0 hx a.terms (LB a.terms) (fun _=>0) (by simp[LB]) d3 (aiI cl) (fun _ _=>rfl) fun i t es h1 h2=>(ajw (hvv▸cl) i t es h1 h2).1.1,aiH (Mm dn xs),Rat.zero_add]
    have hfin:∀ (b:Ri) (g':G),(∀xs ts:List Rat,yi dom xs ts->iU (sk (dn.take 0) (ts.take 0)++qH (dn.drop 0) (xs.drop 0)) 1 0 (gT dn a.terms (LB a.terms) fun _=>0)=iU (sk dn ts) 1 0 g')->(∀j,j<bF dn 1->In (g' j) b)->BrG a dom p b:=fun b g' h1 h2=>by
     refine⟨fun xs ts hpt=>?_,fun h=>nf h _⟩;obtain⟨l1,l2⟩:=hpt.len;have h3:=h1 xs ts hpt;have h4:iU (qH dn xs) 1 0 (gT dn a.terms (LB a.terms) fun _=>0)=iU (sk dn ts) 1 0 g':=h3;rw[hval xs ω]at h4;rw[h4];rcases(h2 0 (oI dn 1 δ)).k with⟨hW,_⟩| ⟨hkb,_⟩
     ·exact Or.inl hW
     ·have h5:∀j,j<bF dn 1->qv b.lo<=g' j/\g' j<=qv b.hi:=fun j hj=>by
       rcases(h2 j hj).k with⟨rfl,hn⟩| ⟨_,h6⟩
       all_goals grind
      have h6:=an3 ω hpt.t01 h5;refine Or.inr ⟨?_,(h2 0 (oI dn 1 δ)).vi,h6.1,h6.2⟩;grind[kI]
    have hh0:am []=fun _=>.dead:=by funext i;simp[am]
    refine Mp (r:=fun b=>(ap b,[])) ke.2.1 ke.2.2 (ke.1.2.2.2 false) rfl (azJ rfl) ?_;simp only[be,ap,ax,CY]at hf hL;have e3:bl=true->(a.vars=1)=False:=fun h=>eq_false (e2 h);have e4:(0:Int)< (bF dn 1:Nat):=by grind[oI]
    cases bl
    all_goals
     simp only[gH,j7,be,ap,ax,hh0,go_sem,hf,hL,e3,hg,adk];generalize hX:ah 0 _ _=X;obtain⟨hh,cs',g',rfl,q6,q2368,qd,he',hv'⟩:=hbg _ _ _ hX rfl rfl rfl (by rw[If,d1];rfl) rfl rfl rfl;obtain⟨x,x1,x2⟩:=he'.get (k:=0) (oI dn 1 δ);have hhl:=als (ds:=dI dn) (p:=p) d4 he' (c6:=[B false,.emp,I 0,B false,.emp,I 0,B false]) rfl (bF dn 1) 0 (ayX _) x x2.ok (fun j hj=>absurd hj (Nat.not_lt_zero j)) ⟨_,x2⟩;have q1:(bK cs')[0]?=some (ax x):=by unfold bK;rw[List.getElem?_map,x1];rfl
     have i2:(0< (cs'.length:Int))=True:=eq_true (by rw[he'.1];exact e4);have d12:=qd 12 δ δ;have hgo:=(cA (dI dn) cs' p).cl [6,12,2368];simp only[bH]at q2368 hgo;simp only[ax]at q1;simp only[go_sem,q6,q2368,d12,i2,Int.le_refl,Int.toNat_zero,zO,En,q1];generalize hX:ah 2 _ _=X;obtain⟨hh2,out,rfl,r6,r12,oo,hin⟩:=hhl _ _ _ hX rfl rfl (by rw[he'.1];rfl) (by rw[he'.1];rfl) rfl q6 rfl q2368;refine⟨out,?_,hfin out g' hv' hin⟩;simp only[ge]at r12;simp only[go_sem,r6,r12]
def Qp(s:Rd):Rd×Int:=cK (cx (zI s) (-16384- (1:Nat)))
theorem Sv{s:Rd}(ok:Ok0 s)(v:vd s=true):br s.neg (ab s.m) (s.e+-1)=cx (zI s) (-16384- (1:Nat)):=by
 obtain⟨_,h1,h2,_⟩:=dZ v ok.lb;have:zI s=bG s.neg (mg s):=rfl;rw[this,←zG];unfold mg;rw[jX];grind
def Ym(x:Ri)(d:Rd):Bool:=vi x&&vd d&& (x.all||decide (zI x.lo<=zI d)&&decide (zI d<=zI x.hi))
theorem an4{x:Ri}{d:Rd}(ox:OkI x)(od:Ok0 d):R F.interval_Has [ap x,af d] []=some (B (Ym x d),[]):=by
 refine av Q1 rfl ?_;have v1:=qt ox;have v2:=eF od;have c1:=rR ox.lo od;have c2:=rR od ox.hi;unfold Ym;cases h1:vi x with
 |false=>
  rw[h1]at v1;simp only[ap,ax,af,ak]at v1 v2;simp only[jN,nv,ap,ax,af,ak,go_sem,v1,v2]
 |true=>
  rw[h1]at v1;cases h2:vd d with
  |false=>
   rw[h2]at v2;simp only[ap,ax,af,ak]at v1 v2;simp only[jN,nv,ap,ax,af,ak,go_sem,v1,v2]
  |true=>
   rw[h2]at v2;cases h3:x.all with
   |true=>
    simp only[ap,ax,af,ak,h3]at v1 v2;simp only[jN,nv,ap,ax,af,ak,go_sem,v1,v2,h3]
   |false=>
    have hl:vd x.lo=true/\vd x.hi=true:=by
     grind[vi]
    rw[if_pos ⟨hl.1,h2⟩]at c1;rw[if_pos ⟨h2,hl.2⟩]at c2;have e1:=@HZ (zI x.lo) (zI d);have e2:=@HZ (zI d) (zI x.hi);simp only[ap,ax,af,ak,h3]at v1 v2 c1 c2;by_cases h4:zI x.lo<=zI d
    ·simp only[jN,nv,ap,ax,af,ak,go_sem,v1,v2,h3,c1,c2,e1,e2,h4]
    ·simp only[jN,nv,ap,ax,af,ak,go_sem,v1,v2,h3,c1,e1,h4]
def Mr(a:Rp)(dom:List Ri)(p:Int)(b:Ri):Ri:=if(pg a dom&&bO p)=true then(if(u9 (qu a dom p) b).2=true then(u9 (qu a dom p) b).1 else ed)else ed
theorem Oy{a:Rp}{dom:List Ri}(oa:OkP a)(od:∀x∈dom,OkI x)(h2:dom.length<=100000){p:Int}{b:Ri}(ob:OkI b)(hb:(pg a dom&&bO p)=true->R F.bound_Bernstein [be a,.sl 7 (bK dom),I p] []=some (ap b,[])):
  R F.bound_Best [be a,.sl 7 (bK dom),I p] []=some (ap (Mr a dom p b),[]):=by
 refine av Wx rfl ?_;have hf:=L8 oa od h2 (p:=p);have hw:=I9;have hn:=ahN oa od h2 (p:=p);have on:=ae7 (a:=a) (dom:=dom) (p:=p);have hm:=ait (x:=qu a dom p) (y:=b) ⟨on.1.2,on.2.2⟩ ob;unfold Mr;generalize qu a dom p=n at hn hm⊢;generalize u9 n b=q at hm⊢;obtain⟨m1,m2⟩:=q;cases hq:(pg a dom&&bO p)with
 |false=>
  rw[hq]at hf;simp only[be,ap,ax,ed,aG]at hf hw;simp only[tF,Ao,be,ap,ax,ed,aG,go_sem,hf,hw]
 |true=>
  rw[hq]at hf
  replace hb:=hb hq
  simp only[be,ap,ax,ed,aG]at hf hw hn hb hm;cases m2 with
  |true=>
   simp only[tF,Ao,be,ap,ax,go_sem,hf,hw,hn,hb,hm]
  |false=>
   simp only[tF,Ao,be,ap,ax,ed,aG,go_sem,hf,hw,hn,hb,hm]
def Ck(x y:Ri):Bool:=if vi x=true/\vi y=true/\x.all=false then(y.all||decide (zI y.lo<=zI x.lo)&&decide (zI x.hi<=zI y.hi))else(vi x&& (vi y&&y.all))
theorem af2{x y:Ri}(ox:OkI x)(oy:OkI y):R F.interval_Inside [ap x,ap y] []=some (B (Ck x y),[]):=by
 refine av MH rfl ?_;have v1:=qt ox;have v2:=qt oy;unfold Ck;simp only[ap,ax]at v1 v2;cases h1:vi x with
 |false=>
  rw[h1]at v1;simp only[ez,fM,ap,ax,go_sem,v1,ay6]
 |true=>
  rw[h1]at v1;cases h2:vi y with
  |false=>
   rw[h2]at v2;simp only[ez,fM,ap,ax,go_sem,v1,v2,ay6,ay5]
  |true=>
   rw[h2]at v2;cases h3:x.all with
   |true=>
    rw[h3]at v1;rw[if_neg σ];cases h4:y.all with
    |true=>
     rw[h4]at v2;simp only[ez,fM,ap,ax,go_sem,v1,v2,h3,h4,ay5]
    |false=>
     rw[h4]at v2;simp only[ez,fM,ap,ax,go_sem,v1,v2,h3,h4,ay5]
   |false=>
    rw[h3]at v1;have hx:vd x.lo=true/\vd x.hi=true:=by
     grind[vi]
    cases h4:y.all with
    |true=>
     rw[h4]at v2;simp only[ez,fM,ap,ax,go_sem,v1,v2,h3,h4,Bool.true_or]
    |false=>
     rw[h4]at v2;have hy:vd y.lo=true/\vd y.hi=true:=by
      grind[vi]
     have c1:=rR oy.lo ox.lo;have c2:=rR ox.hi oy.hi;rw[if_pos ⟨hy.1,hx.1⟩]at c1;rw[if_pos ⟨hx.2,hy.2⟩]at c2;have e1:=@HZ (zI y.lo) (zI x.lo);have e2:=@HZ (zI x.hi) (zI y.hi);generalize eJ (zI y.lo) (zI x.lo)=q1 at c1 e1;generalize eJ (zI x.hi) (zI y.hi)=q2 at c2 e2;simp only[af,ak]at c1 c2;by_cases h5:zI y.lo<=zI x.lo
     ·simp only[ez,fM,ap,ax,go_sem,v1,v2,h3,h4,c1,c2,e1,e2,h5,Bool.false_or]
     ·simp only[ez,fM,ap,ax,go_sem,v1,v2,h3,h4,c1,e1,h5,Bool.false_or]
structure Rs where
 dom:List Ri
 ord:Int
 p:Int
structure Rm where
 P:Rp
 R:Ri
abbrev J1(s:Rs):List AV:=[.sl 7 (bK s.dom),I s.ord,I s.p]
abbrev xu(s:Rs):AV:=.agg (J1 s)
abbrev FS(m:Rm):List AV:=[I m.P.vars,.sl 4 (aD m.P.terms),B m.R.lo.neg,lm m.R.lo.m,I m.R.lo.e,B m.R.hi.neg,lm m.R.hi.m,I m.R.hi.e,B m.R.all]
abbrev oJ(m:Rm):AV:=.agg (FS m)
def qI:Rd:=⟨true,[1],0⟩
def dp:Ri:=⟨qI,one,false⟩
def bc:Ri:=⟨aG,aG,false⟩
theorem alt:R F.dyadic_Int [I (-1)] []=some (af qI,[]):=by
 grind[Fw,Xc,br,qI,jW,AO,au,rO,fQ]
theorem Sw:vd qI=true/\Ok0 qI:=⟨by decide,⟨fun x hx=>by rw[List.mem_singleton.1 hx];decide,by decide⟩⟩
theorem Ms:OkI dp/\VI dp:=⟨⟨Sw.2,dW.2⟩,⟨Sw,dW⟩⟩
theorem TQ:R F.model_whole [I 0] []=some (ap bc,[]):=by
 refine av JW rfl ?_;have h1:R F.dyadic_Int [I 0] []=some (af aG,[]):=by grind[Fw,Xc,jv]
 have h2:=jY aV.2 aV.1;simp only[ap,ax,af,ak,aG]at h1 h2;simp only[wB,Df,ap,ax,bc,aG,go_sem,h1,h2]
theorem an5{x y:Ri}(ox:OkI x)(oy:OkI y):R F.model_ValidSpace_1 [ap x,.ref 1000 none 0 0 0] [.bx (ax y)]=some (B (!Ck x y),[.bx (ax y)]):=by
 refine FI IW IV (xp false) rfl ?_;have h:=af2 ox oy;generalize Ck x y=b at h⊢;simp only[ap,ax]at h;simp only[rz,Al,ax,ap,go_sem,h];exact uY rfl rfl rfl rfl rfl
theorem aur:Src F.slices_ContainsFunc_api_Interval_api_Interval_ F.slices_IndexFunc_api_Interval_api_Interval_ 7 true [.o 0 [],.o 2 [],.o 0 [],.o 0 [],.o 2 [],.o 0 [],.o 0 []]:=
 ⟨aK.2.1,aK.2.2,aK.1.2.2.2 false,aK.1.2.1 false,aK.1.2.2.2 false,aK.1.1 false,
  aO.2.1,aO.2.2,aO.1.2.2.2 false⟩
theorem an6{l:List Ri}{y:Ri}(ol:∀x∈l,OkI x)(oy:OkI y)(hl:l.length<4611686018427387904):R F.slices_ContainsFunc_api_Interval_api_Interval_ [.sl 7 (bK l),.fn F.model_ValidSpace_1 [] [.ref 1000 none 0 0 0]] [.bx (ax y)]=some (B (l.any fun x=>!Ck x y),[.bx (ax y)]):=
 Mh aur (aii y) (AP false) (xp false) hl (akl l) fun x hx=>⟨ap x,ap x,rfl,rfl,rfl,by simp only[ap,ax,go_sem],an5 (ol x hx) oy⟩
def l6(s:Rs):Bool:=decide (1<=s.dom.length)&& (decide (s.dom.length<=8)&& (decide (1<=s.ord)&& (decide (s.ord<=16)&& (bO s.p&&!(s.dom.any fun x=>!Ck x dp)))))
theorem pA{s:Rs}(od:∀x∈s.dom,OkI x)(hl:s.dom.length<4611686018427387904):R F.model_ValidSpace [xu s] []=some (B (l6 s),[]):=by
 refine av KY rfl ?_;have h1:=alt;have h2:=La;simp only[af,ak,qI,one]at h1 h2;have hp:bO s.p=(decide (8<=s.p)&&decide (s.p<=512)):=rfl;unfold l6;rw[hp];by_cases g1:(s.dom.length:Int)<1
 ·have f1:((s.dom.length:Int)<1)=True:=eq_true g1;rw[decide_eq_false (p:=1<=s.dom.length) ω,ay6];simp only[dM,fj,go_sem,h1,h2,f1]
 have f1:((s.dom.length:Int)<1)=False:=eq_false g1;rw[decide_eq_true (p:=1<=s.dom.length) ω,ay5];by_cases g2:8< (s.dom.length:Int)
 ·have f2:(8< (s.dom.length:Int))=True:=eq_true g2;rw[decide_eq_false (p:=s.dom.length<=8) ω,ay6];simp only[dM,fj,go_sem,h1,h2,f1,f2]
 have f2:(8< (s.dom.length:Int))=False:=eq_false g2;rw[decide_eq_true (p:=s.dom.length<=8) ω,ay5];by_cases g3:s.ord<1
 ·have f3:(s.ord<1)=True:=eq_true g3;rw[decide_eq_false (p:=1<=s.ord) ω,ay6];simp only[dM,fj,go_sem,h1,h2,f1,f2,f3]
 have f3:(s.ord<1)=False:=eq_false g3;rw[decide_eq_true (p:=1<=s.ord) ω,ay5];by_cases g4:16<s.ord
 ·have f4:(16<s.ord)=True:=eq_true g4;rw[decide_eq_false (p:=s.ord<=16) ω,ay6];simp only[dM,fj,go_sem,h1,h2,f1,f2,f3,f4]
 have f4:(16<s.ord)=False:=eq_false g4;rw[decide_eq_true (p:=s.ord<=16) ω,ay5];by_cases g5:s.p<8
 ·have f5:(s.p<8)=True:=eq_true g5;rw[decide_eq_false (p:=8<=s.p) ω,ay6,ay6];simp only[dM,fj,go_sem,h1,h2,f1,f2,f3,f4,f5]
 have f5:(s.p<8)=False:=eq_false g5;rw[decide_eq_true (p:=8<=s.p) ω,ay5];by_cases g6:512<s.p
 ·have f6:(512<s.p)=True:=eq_true g6;rw[decide_eq_false (p:=s.p<=512) ω,ay6];simp only[dM,fj,go_sem,h1,h2,f1,f2,f3,f4,f5,f6]
 have f6:(512<s.p)=False:=eq_false g6;rw[decide_eq_true (p:=s.p<=512) ω,ay5];have hc:=an6 od Ms.1 hl;generalize(s.dom.any fun x=>!Ck x dp)=b at hc⊢;have hcc:=fun(h:ac) (d:Nat) (hh:h 3=.bx (ax dp)) (hf:h (2000+8*d)=.dead)=>FJ (f:=F.slices_ContainsFunc_api_Interval_api_Interval_) (g:=F.model_ValidSpace_1) (h:=h) (d:=d) (id:=3) (zas:=[.sl 7 (bK s.dom)]) (as':=[.sl 7 (bK s.dom)]) (aO.1.2.1 false) (aO.1.2.2.2 false)
  (by rw[aO.1.1];simp only[go_sem,azM,ay8]) rfl rfl hh (aii _) (aii _) (fun h=>h) hc (XP _) (azJ rfl) (by grind[cB,cF,bY])
 simp only[ax,dp,qI,one,azM,ay8,go_sem]at hcc;simp only[dM,fj,go_sem,h1,h2,f1,f2,f3,f4,f5,f6];rw[hcc _ _ rfl rfl];simp only[go_sem]
def Bo(d:Rd)(p:Int):Bool:=bO p&& (vd d&&decide ((ae (ab d.m):Int)<=p))
theorem aqw{d:Rd}{p:Int}(od:Ok0 d):R F.round_Is [af d,I p] []=some (B (Bo d p),[]):=by
 refine av acw rfl ?_;have h1:=B1 (p:=p) (l:=[d]) (fun x hx=>by rw[List.mem_singleton.1 hx];exact od) σ;have h2:=N8 od;have hp:bO p=(decide (8<=p)&&decide (p<=512)):=rfl;have hf:(aY p [d]=0)=(Bo d p=true\/(bO p=true/\vd d=true)):=by
  unfold aY Bo;rw[hp];simp only[azm,azX,az1,ay1,decide_eq_true_eq,eq_iff_iff];split<;> (try split)<;>grind
 unfold Bo at hf⊢;simp only[CY,Fu,azv,azF,af,ak]at h1 h2;cases hv:vd d with
 |false=>
  rw[hv]at hf h2;have f1:(aY p [d]=0)=False:=by rw[hf];simp
  generalize aY p [d]=q at h1 f1;simp only[xV,DU,af,ak,go_sem,h1,f1,ay6,az3]
 |true=>
  rw[hv]at hf h2;rw[if_pos rfl]at h2;cases hq:bO p with
  |false=>
   rw[hq]at hf;have f1:(aY p [d]=0)=False:=by rw[hf];simp
   generalize aY p [d]=q at h1 f1;simp only[xV,DU,af,ak,go_sem,h1,f1,ay6]
  |true=>
   rw[hq]at hf;have f1:(aY p [d]=0)=True:=by rw[hf];simp
   generalize aY p [d]=q at h1 f1;generalize(ae (ab d.m):Int)=n at h2⊢;simp only[xV,DU,af,ak,go_sem,h1,h2,f1,ay5]
theorem Mt(s:Rs):OC (.bx (J1 s)):=⟨fun _=>rfl,rfl,fun _=>rfl,rfl⟩
theorem aqx{t:Rt}{s:Rs}(ot:Ok0 t.c):R F.model_Valid_1 [.agg (bV t),.ref 1000 none 0 0 0] [.bx (J1 s)]=some (B (!Bo t.c s.p),[.bx (J1 s)]):=by
 refine FI Pz Py (CV false) rfl ?_;have h:=aqw (p:=s.p) ot;generalize Bo t.c s.p=b at h⊢;simp only[af,ak]at h;simp only[yF,Ge,bV,go_sem,h];exact uY rfl rfl rfl rfl rfl
theorem aqy:Src F.slices_ContainsFunc_api_Term_api_Term_ F.slices_IndexFunc_api_Term_api_Term_ 4 true [.o 2 [],.o 0 [],.o 2 [],.o 0 []]:=
 ⟨cz.2.1,cz.2.2,cz.1.2.2.2 false,cz.1.2.1 false,cz.1.2.2.2 false,cz.1.1 false,
  bZ.2.1,bZ.2.2,bZ.1.2.2.2 false⟩
theorem FT(l:List Rt):(aD l).map (dY [.o 2 [],.o 0 [],.o 2 [],.o 0 []])=aD l:=by
 refine si fun x hx=>?_;simp only[aD,azP]at hx;obtain⟨t,ht,rfl⟩:=hx;simp only[bV,go_sem]
structure OkS (s:Rs):Prop where
 d:∀x∈s.dom,OkI x
 n:s.dom.length<4611686018427387904
structure OkM (m:Rm):Prop where
 c:∀t∈m.P.terms,Ok0 t.c
 r:OkI m.R
 n:m.P.terms.length<4611686018427387904
def FU(s:Rs)(m:Rm):Bool:=l6 s&& (vp m.P&& (decide (m.P.vars=s.dom.length)&& (decide (gM m.P<=s.ord)&& (vi m.R&&!(m.P.terms.any fun t=>!Bo t.c s.p)))))
theorem af3{a:Rp}(oc:∀t∈a.terms,Ok0 t.c)(h:vp a=true):OkP a:=⟨fun t ht=>⟨oc t ht,by
 unfold vp at h;simp only[ay1,decide_eq_true_eq]at h;have:=(FA (Ma _ _ h.2.2.2 t ht)).1;omega⟩⟩
theorem af4{s:Rs}{m:Rm}(os:OkS s)(om:OkM m):R F.model_Valid [xu s,oJ m] []=some (B (FU s m),[]):=by
 refine av Uf rfl ?_;have h1:=pA os.d os.n;have h2:=P0 om.c;have h4:=qt om.r;unfold FU;simp only[be,ap,ax]at h2 h4;cases g1:l6 s with
 |false=>
  rw[g1]at h1;simp only[jl,mf,go_sem,h1,ay6]
 |true=>
 rw[g1]at h1;cases g2:vp m.P with
 |false=>
  rw[g2]at h2;simp only[jl,mf,go_sem,h1,h2,ay6,az3]
 |true=>
 rw[g2]at h2;by_cases g3:m.P.vars=(s.dom.length:Int)
 case neg=>
  have f3:(m.P.vars=(s.dom.length:Int))=False:=eq_false g3;simp only[jl,mf,go_sem,h1,h2,f3,ay6,az3]
 have f3:(m.P.vars=(s.dom.length:Int))=True:=eq_true g3;have h3:=GG (af3 om.c g2);simp only[be]at h3;by_cases g4:s.ord<gM m.P
 case pos=>
  have f4:(s.ord<gM m.P)=True:=eq_true g4;have f4':(gM m.P<=s.ord)=False:=ff;simp only[jl,mf,go_sem,h1,h2,h3,f3,f4,f4',ay6,az3]
 have f4:(s.ord<gM m.P)=False:=eq_false g4;have f4':(gM m.P<=s.ord)=True:=tt;cases g5:vi m.R with
 |false=>
  rw[g5]at h4;simp only[jl,mf,go_sem,h1,h2,h3,h4,f3,f4,f4',ay6,az3]
 |true=>
 rw[g5]at h4;have hc:=Mh aqy (Frow:=bV) (l:=m.P.terms) (q:=fun t=>!Bo t.c s.p) (Mt s) (Gx false) (CV false) om.n (FT _) fun t ht=>⟨.agg (bV t),.agg (bV t),rfl,rfl,rfl,by rw[NK];simp only[bV,go_sem],aqx (om.c t ht)⟩;generalize(m.P.terms.any fun t=>!Bo t.c s.p)=b at hc⊢;have hcc:=fun(h:ac) (d:Nat) (hh:h 2=.bx (J1 s)) (hf:h (2000+8*d)=.dead)=>FJ (f:=F.slices_ContainsFunc_api_Term_api_Term_) (g:=F.model_Valid_1) (h:=h) (d:=d) (id:=2) (zas:=[.sl 4 (aD m.P.terms)]) (as':=[.sl 4 (aD m.P.terms)]) (bZ.1.2.1 false) (bZ.1.2.2.2 false)
  (by rw[bZ.1.1];simp only[go_sem,FT,azM,ay8]) rfl rfl hh (Mt _) (Mt _) (fun h=>h) hc (XP _) (azJ rfl) (by simp[cB,cF,hf,bY])
 simp only[azM,ay8,go_sem]at hcc;simp only[jl,mf,go_sem,h1,h2,h3,h4,f3,f4,f4'];rw[hcc _ _ rfl rfl];simp only[go_sem]
theorem VI.ok'{x:Ri}(h:VI x):OkI x:=⟨h.1.2,h.2.2⟩
theorem Mu:∀dom:List Ri,yi dom (dom.map fun b=>qv b.lo) (ayW dom.length 0)
 |[]=>trivial
 |b::dom=>⟨by grind,by decide,by decide,Mu dom⟩
def m8(a b:Rd):Rd×Int:=if(vd a&&vd b)=true then cK (cx (zI a-zI b) (-16384))else(aG,1)
theorem Cm(a b:Rd):vd (m8 a b).1=true/\Ok0 (m8 a b).1:=by
 unfold m8;split
 ·exact xc
 ·exact⟨rfl,⟨fun x hx=>(nomatch hx),by decide⟩⟩
theorem aiL{a b:Rd}(vb:vd b=true):m8 a b=jD a (go b):=by
 grind[zF,m8,jD,Int.sub_eq_add_neg]
theorem af5{neg:Bool}{M k:Nat}:zI (br neg M (-16384+(k:Int)))=bG neg (M*2^k):=by
 by_cases h0:M=0
 ·subst h0;rw[jv,cZ rfl,Nat.zero_mul];cases neg<;>rfl
 ·rw[jW h0];obtain⟨t1,t2⟩:=zu h0;unfold zI mg bG;rw[aN];have hk:(-16384+(k:Int)+((tz M:Nat):Int)+16384).toNat=tz M+k:=ω
  have hm:M/2^tz M*2^ (-16384+(k:Int)+((tz M:Nat):Int)+16384).toNat=M*2^k:=by
   grind
  grind
theorem Yn{neg:Bool}{p:Int}{q:Nat}{e:Int}(h:(B5 neg true p q e).2=0):B5 neg true p q e=(br neg q e,0)/\¬ (q≠0/\16384< ((ae q:Nat):Int)+e):=by
 unfold B5 at h⊢;grind
theorem aa1{neg:Bool}{p:Int}{q q':Nat}{e:Int}(hq:q<=q')(h:¬ (q'≠0/\16384< ((ae q':Nat):Int)+e)):B5 neg false p q e=(br neg q e,0):=by
 unfold B5;rw[if_neg];have h1:=zA hq (ayZ _);omega
structure NearF (d lo hi:Rd) (q q' r k:Nat):Prop where
 hz:mg d=q*2^k+r
 hr:r<2^k
 hq:q'=if r=0 then q else q+1
 hlo:lo=br d.neg (if d.neg=true then q' else q) (-16384+(k:Int))
 hhi:hi=br d.neg (if d.neg=true then q else q') (-16384+(k:Int))
 hw:r≠0->∃t v:Nat,mg d=v*2^t/\t<=k/\k-t<=ae v-8/\8<=ae v/\ae v<=4096/\ae v+t<=32768
theorem ajx(d:Rd):zI d=bG d.neg (mg d):=rfl
theorem af6{d:Rd}(ok:Ok0 d)(v:vd d=true){p:Int}(hp:8<=p/\p<=512)(h0:(cu d p false).2=0)(h1:(cu d p true).2=0):∃q q' r k,NearF d (cu d p false).1 (cu d p true).1 q q' r k:=by
 have hf:aY p [d]=0:=by
  simp_all[aY,azm,azX,az1,if_true,if_pos]
 have hR:∀up,cu d p up=Fx d.neg (mg d) (-16384) false p up:=fun up=>by
  simp_all[cu,if_pos,ajx,PX]
 rw[hR]at h0 h1;rw[hR,hR];unfold Fx RM at h0 h1⊢;obtain⟨k,hk⟩:∃k,K8 (mg d) (-16384) p=k:=⟨_,rfl⟩;rw[hk]at h0 h1⊢;obtain⟨q',hq'⟩:∃q',q'=if mg d%2^k=0 then mg d/2^k else mg d/2^k+1:=⟨_,rfl⟩
 have hle:mg d/2^k<=q':=by
  grind
 have e1:(if((false||decide (mg d%2^k≠0))&&true)=true then mg d/2^k+1 else mg d/2^k)=q':=by
  grind
 have e2:(if((false||decide (mg d%2^k≠0))&&false)=true then mg d/2^k+1 else mg d/2^k)=mg d/2^k:=by
  grind
 have hw:mg d%2^k≠0->∃t v:Nat,mg d=v*2^t/\t<=k/\k-t<=ae v-8/\8<=ae v/\ae v<=4096/\ae v+t<=32768:=by
  intro hr;have hm:d.m.length≠0:=fun h=>hr (by
   have:mg d=0:=by
    unfold mg;rw[List.length_eq_zero_iff.1 h];exact Nat.zero_mul _
   simp_all)
  obtain⟨g1,g2,g3,g4⟩:=AU v hm;obtain⟨b1,b2,b3,b4⟩:=BZ g4 (Nat.pos_iff_ne_zero.1 (fR (dv v hm)));have hb:=dA (d.e+16384).toNat (dv v hm);have hmg:mg d=ab d.m*2^ (d.e+16384).toNat:=rfl;rw[←hmg]at hb;unfold K8 at hk;have ht:(d.e+16384).toNat<=k:=Nat.le_of_not_lt fun hlt=>hr (by
   rw[hmg,show(d.e+16384).toNat=k+((d.e+16384).toNat-k)by omega,azc,←azq,Nat.mul_right_comm]
   simp_all)
  have hk1:k≠0:=fun h=>hr (by rw[h,Nat.pow_zero,Nat.mod_one]);refine⟨(d.e+16384).toNat,ab d.m,rfl,ht,?_,?_,b1,?_⟩<;>omega
 refine⟨mg d/2^k,q',mg d%2^k,k,?_,azw _ (aze _),hq',?_,?_,hw⟩
 ·grind[azV]
 all_goals
  cases hn:d.neg with
  |false=>
   rw[hn]at h0 h1;simp only[bne_self_eq_false,Bool.false_bne,e1,e2]at h0 h1⊢;obtain⟨k1,k2⟩:=Yn h1
   first
   | (rw[aa1 hle k2];rfl)
   | (rw[k1];rfl)
  |true=>
   rw[hn]at h0 h1;simp only[bne_self_eq_false,Bool.bne_false,e1,e2]at h0 h1⊢;obtain⟨k1,k2⟩:=Yn h0
   first
   | (rw[aa1 hle k2];rfl)
   | (rw[k1];rfl)
theorem Yo{v t k x:Nat}{n:Bool}(h1:k-t<=ae v-8)(h2:8<=ae v)(h3:ae v<=4096)(h4:ae v+t<=32768)(hx:x<=2^ (k-t)):(cK (cx (bG n (x*2^t)) (-16384))).2=0:=by
 have hb:ae x<=k-t+1:=bD.2 (azt hx (Nat.pow_lt_pow_right δ ω));rw[←zG,jX,B4 ω ω ω]
def adm(lo hi:Rd):Rd:=if hi.m.length=0\/(lo.m.length≠0/\lo.e<hi.e)then hi else lo
def Qq(z:Int)(lo hi:Rd):Rd:=if z-zI lo<zI hi-z then lo else if zI hi-z<z-zI lo then hi else adm lo hi
def rg(d:Rd)(p:Int):Rd×Int:=if(cu d p false).2=0 then(if(cu d p true).2=0 then(Qq (zI d) (cu d p false).1 (cu d p true).1,0)else(aG,(cu d p true).2))else(aG,(cu d p false).2)
structure NearOk (d lo hi:Rd):Prop where
 below:(m8 d lo).2=0
 above:(m8 hi d).2=0
 tie:zI lo≠zI hi->zI d-zI lo=zI hi-zI d->lo.m.length≠0->hi.m.length≠0->lo.e≠hi.e
 le:zI lo<=zI d/\zI d<=zI hi
theorem TR{neg:Bool}{M:Nat}{e:Int}(h:(br neg M e).m.length≠0):M≠0/\(br neg M e).e=e+tz M:=by
 by_cases h0:M=0
 ·subst h0;exact absurd rfl h
 grind[jW]
theorem aa2{q:Nat}(h:q≠0):tz q≠tz (q+1):=by
 have hs:∀ {n:Nat},n≠0->tz n=0->n%2=1:=fun{n} h0 h1=>by
  have:=(zu h0).2;grind
 grind[AO]
theorem alu{d:Rd}(ok:Ok0 d)(v:vd d=true){p:Int}(hp:8<=p/\p<=512)(h0:(cu d p false).2=0)(h1:(cu d p true).2=0):NearOk d (cu d p false).1 (cu d p true).1:=by
 obtain⟨q,q',r,k,Fm⟩:=af6 ok v hp h0 h1;have vlo:vd (cu d p false).1=true:=by
  unfold cu;split
  ·exact ub.1
  ·rfl
 have vhi:vd (cu d p true).1=true:=by
  unfold cu;split
  ·exact ub.1
  ·rfl
 generalize(cu d p false).1=lo at*
 generalize(cu d p true).1=hi at*
 have zlo:zI lo=bG d.neg ((if d.neg=true then q' else q)*2^k):=by rw[Fm.hlo,af5]
 have zhi:zI hi=bG d.neg ((if d.neg=true then q else q')*2^k):=by rw[Fm.hhi,af5]
 have zd:=ajx d;have hz:=Fm.hz;have hr:=Fm.hr;have hq:=Fm.hq;have hs1:m8 d lo=cK (cx (zI d-zI lo) (-16384)):=by
  simp_all[m8,azs,if_pos]
 have hs2:m8 hi d=cK (cx (zI hi-zI d) (-16384)):=by
  simp_all[m8,azs,if_pos]
 by_cases r0:r=0
 ·rw[if_pos r0]at hq;rw[hq,ite_self,←hq]at zlo zhi;have e0:zI d=zI lo:=γ
  have e1:zI d=zI hi:=ω
  have h00:(cK (cx 0 (-16384))).2=0:=by rw[show cx 0 (-16384)=aG from jv];rfl
  refine⟨?_,?_,fun h=>absurd (e0.symm.trans e1) h,by omega⟩
  all_goals grind
 ·rw[if_neg r0]at hq;obtain⟨t,w,w1,w2,w3,w4,w5,w6⟩:=Fm.hw r0;have hp2:(2:Nat)^k=2^ (k-t)*2^t:=by rw[←azc,show k-t+t=k by omega]
  have hrr:r=(w-q*2^ (k-t))*2^t:=by
   grind[Nat.sub_mul,azq]
  obtain⟨x,hx⟩:∃x,w-q*2^ (k-t)=x:=⟨_,rfl⟩;rw[hx]at hrr;have hxl:x<2^ (k-t):=by
   rw[hrr,hp2]at hr;exact Nat.lt_of_mul_lt_mul_right hr
  have f1:∀n,(cK (cx (bG n r) (-16384))).2=0:=fun n=>by
   grind[Yo,Nat.le_of_lt]
  have f2:∀n,(cK (cx (bG n (2^k-r)) (-16384))).2=0:=fun n=>by
   rw[hrr,hp2,←Nat.sub_mul];grind[Yo,Nat.sub_le]
  have hq2:q'*2^k=q*2^k+2^k:=γ
  have htie:lo.m.length≠0->hi.m.length≠0->lo.e≠hi.e:=by
   intro m1 m2;rw[Fm.hlo]at m1⊢;rw[Fm.hhi]at m2⊢;obtain⟨a1,a2⟩:=TR m1;obtain⟨b1,b2⟩:=TR m2;rw[a2,b2];cases hn:d.neg with
   |false=>
    grind[aa2]
   |true=>
    grind[aa2]
  generalize 2^k=K at*
  refine⟨?_,?_,fun _ _=>htie,?_⟩
  ·rw[hs1];cases hn:d.neg with
   |false=>
    rw[hn]at zd zlo;have:zI d-zI lo=bG false r:=by grind[oQ]
    grind
   |true=>
    rw[hn]at zd zlo;simp only[if_true,qp]at zd zlo;have:zI d-zI lo=bG false (K-r):=by grind[oQ]
    grind
  ·rw[hs2];cases hn:d.neg with
   |false=>
    rw[hn]at zd zhi;have:zI hi-zI d=bG false (K-r):=by grind[oQ]
    grind
   |true=>
    rw[hn]at zd zhi;simp only[if_true,qp]at zd zhi;have:zI hi-zI d=bG false r:=by grind[oQ]
    grind
  ·cases hn:d.neg with
   |false=>
    rw[hn]at zd zlo zhi;simp only[azK,if_false,oQ]at zd zlo zhi;omega
   |true=>
    rw[hn]at zd zlo zhi;simp only[if_true,qp]at zd zlo zhi;omega
theorem Sx{a b:Rd}(oa:Ok0 a)(ob:Ok0 b):R F.dyadic_Sub [af a,af b] []=some (rV (m8 a b),[]):=by
 refine av WM rfl ?_;have v1:=eF oa;have v2:=eF ob;simp only[af,ak]at v1 v2;unfold m8;cases va:vd a with
 |false=>
  rw[va]at v1;simp only[tQ,AJ,rV,aG,af,ak,go_sem,v1]
 |true=>
  rw[va]at v1;cases vb:vd b with
  |false=>
   rw[vb]at v2;simp only[tQ,AJ,rV,aG,af,ak,go_sem,v1,v2]
  |true=>
   rw[vb]at v2;obtain⟨z1,z2⟩:=zF vb;have hn:R F.dyadic_Neg [af b] []=some (af (go b),[]):=Fr ob;have hs:=aas oa (zD ob) va z2;rw[z1,←Int.sub_eq_add_neg]at hs;simp only[rV,af,ak]at hn hs;simp only[tQ,AJ,rV,af,ak,go_sem,v1,v2,hn,hs]
theorem alv{d:Rd}{p:Int}{up:Bool}(h:(cu d p up).2=0):vd d=true/\(8<=p/\p<=512):=by
 unfold cu at h;by_cases hf:aY p [d]=0
 ·unfold aY at hf;grind
 grind
theorem aa3{a b:Rd}(vb:vd b=true)(h:(m8 a b).2=0):zI (m8 a b).1=zI a-zI b:=by
 grind[aiL,aap,zF,Int.sub_eq_add_neg]
theorem alx{d:Rd}(ok:Ok0 d){p:Int}:R F.round_Near [af d,I p] []=some (rV (rg d p),[]):=by
 refine av WL rfl ?_;have hd:=Tt ok (p:=p);have hu:=aaf ok (p:=p);unfold rg;by_cases h0:(cu d p false).2=0
 ·rw[if_pos h0];obtain⟨v,hp⟩:=alv h0;have vl:=RY (d:=d) (p:=p) (up:=false);have ol:=Eg (d:=d) (p:=p) (up:=false);by_cases h1:(cu d p true).2=0
  ·rw[if_pos h1];have vh:=RY (d:=d) (p:=p) (up:=true);have oh:=Eg (d:=d) (p:=p) (up:=true);have hk:=alu ok v hp h0 h1;generalize cu d p false=lo at*
   generalize cu d p true=hi at*
   obtain⟨lo,el⟩:=lo;obtain⟨hi,eh⟩:=hi;have h0':el=0:=h0;have h1':eh=0:=h1;subst h0';subst h1';have s1:=Sx ok ol;have s2:=Sx oh ok;have c:=rR (Cm d lo).2 (Cm hi d).2;rw[if_pos ⟨(Cm d lo).1,(Cm hi d).1⟩,aa3 vl hk.below,aa3 v hk.above]at c;show _=some (rV (Qq (zI d) lo hi,0),[]);unfold Qq;generalize m8 d lo=x at s1 c;generalize m8 hi d=y at s2 c;simp only[rV,af,ak]at hd hu s1 s2 c;rcases oR (zI d-zI lo) (zI hi-zI d)with⟨g,e⟩| ⟨g,e⟩| ⟨g,e⟩
   ·rw[e]at c;rw[if_pos g];simp only[gP,jT,rV,af,ak,go_sem,azf,hd,hu,s1,s2,c]
   ·rw[e]at c;rw[if_neg ω,if_neg ω];unfold adm;by_cases m1:hi.m.length=0
    ·have e1:((hi.m.length:Int)=0)=True:=tt;rw[if_pos (.inl m1)];simp only[gP,jT,rV,af,ak,go_sem,azf,hd,hu,s1,s2,c,e1]
    ·have e1:((hi.m.length:Int)=0)=False:=ff;by_cases m2:lo.m.length=0
     ·have e2:(0< (lo.m.length:Int))=False:=ff;rw[if_neg ω];simp only[gP,jT,rV,af,ak,go_sem,azf,hd,hu,s1,s2,c,e1,e2]
     ·have e2:(0< (lo.m.length:Int))=True:=tt;by_cases m3:lo.e<hi.e
      ·have e3:(lo.e<hi.e)=True:=eq_true m3;rw[if_pos (.inr ⟨m2,m3⟩)];simp only[gP,jT,rV,af,ak,go_sem,azf,hd,hu,s1,s2,c,e1,e2,e3]
      ·have e3:(lo.e<hi.e)=False:=eq_false m3;rw[if_neg ω];simp only[gP,jT,rV,af,ak,go_sem,azf,hd,hu,s1,s2,c,e1,e2,e3]
   ·rw[e]at c;rw[if_neg ω,if_pos ω];simp only[gP,jT,rV,af,ak,go_sem,azf,hd,hu,s1,s2,c]
  ·rw[if_neg h1];generalize cu d p false=lo at*
   generalize cu d p true=hi at*
   have e1:(hi.2=0)=False:=eq_false h1;have e0:(lo.2=0)=True:=eq_true h0;simp only[rV,af,ak]at hd hu;simp only[gP,jT,rV,aG,af,ak,go_sem,hd,hu,e0,e1]
 ·rw[if_neg h0];generalize cu d p false=lo at*
  have e0:(lo.2=0)=False:=eq_false h0;simp only[rV,af,ak]at hd;simp only[gP,jT,rV,aG,af,ak,go_sem,hd,e0]
theorem Oz(d:Rd)(p:Int):vd (rg d p).1=true/\Ok0 (rg d p).1:=by
 unfold rg;split
 ·split
  ·unfold Qq adm;grind[RY,Eg]
  ·exact aV
 ·exact aV
def dO(x:List Int)(c:Rd)(l:List Rt):List Rt:=if c.m.length=0 then l else⟨x,c⟩::l
def Dz(p:Int):List Rt->Option (List Rt×List Rt)
 |[]=>some ([],[])
 |t::ts=>if(rg t.c p).2=0 then(if(m8 t.c (rg t.c p).1).2=0 then(Dz p ts).map fun q=>(dO t.exps (rg t.c p).1 q.1,dO t.exps (m8 t.c (rg t.c p).1).1 q.2)else none)else none
def qy(a:Rp)(p:Int):(Rp×Rp)×Int:=if vp a=true then(if p<8\/512<p then((p0,p0),2)else match Dz p a.terms with
 |none=>((p0,p0),9)
 |some q=>((⟨a.vars,q.1⟩,⟨a.vars,q.2⟩),0))else((p0,p0),1)
def Yp(r:(Rp×Rp)×Int):AV:=.tup [be r.1.1,be r.1.2,I r.2]
def Sy(blk:Option (Ex×St))(i1 i2:Nat)(S:ai)(v':Int)(l1 l2:List Rt):Option (List Rt×List Rt)->Prop
 |some q=>FP blk i1 i2 S v' l1 l2 q.1 q.2
 |none=>∃hh,blk=some (.ret,⟨upd (upd (upd (fun _=>.any) 6 (I 9)) 5 (.ref 5 none 0 0 0)) 4 (.ref 4 none 0 0 0),hh⟩)/\hh 4=.bx [I 0,.emp]/\hh 5=.bx [I 0,.emp]
theorem GL{x:List Int}{c:Rd}{l r:List Rt}:l++dO x c []++r=l++dO x c r:=by
 unfold dO;split
 ·rw[azb]
 ·rw[azB];rfl
theorem Sy.step{blk:Option (Ex×St)}{i1 i2:Nat}{S:ai}{v':Int}{l1 l2:List Rt}{x:List Int}{c d:Rd}:∀ {o:Option (List Rt×List Rt)},Sy blk i1 i2 S v' (l1++dO x c []) (l2++dO x d []) o->Sy blk i1 i2 S v' l1 l2 (o.map fun q=>(dO x c q.1,dO x d q.2)):=by
 intro o h;cases o with
 |none=>exact h
 |some q=>
  obtain⟨hh,c1,c2,h1,h2,h3,h4,h5,h6,h7⟩:=h;exact⟨hh,c1,c2,h1,h2,h3,h4,h5,by rwa[GL]at h6,by rwa[GL]at h7⟩
theorem VT.put{v:Int}{t:Rt}{d:Rd}(h:VT v t)(od:Ok0 d)(vdd:vd d=true)(nd:d.m.length≠0):VT v ⟨t.exps,d⟩:=⟨od,h.len,h.v8,vdd,nd,h.b,h.d⟩
theorem aiM{v v' p:Int}{A:List Rt}(hA:Cl v A)(hn:A.length<=100000){o2:Ob}(k2c:∀ids,aA ids o2=true):
  ∀ (k i:Nat),i+k=A.length->∀ (c1 c2:AV) (l1 l2:List Rt),mN c1 l1->mN c2 l2->Bf v l1 (A.drop i)->Bf v l2 (A.drop i)->l1.length+k<=1000000->l2.length+k<=1000000->∀ (s:ai) (h:ac),s 1=I p->s 4=.ref 4 none 0 0 0->s 5=.ref 5 none 0 0 0->s 7=.ref 2248 none 0 0 0->s 8=.ref 2272 none 0 0 0->s 36=.sl 4 (aD A)->s 37=I A.length->s 38=I i->h 2=o2->h 4=.bx [I 0,.emp]->h 5=.bx [I 0,.emp]->h 2248=t3 v' c1 0->h 2272=t3 v' c2 0->
  Sy (ah 1 [4,5,7,8] (aq (aj R (az false) eY) [1,4,5,7,8,36,37,38] [2,4,5,2248,2272] s h)) 2248 2272 (upd (upd (upd (upd (fun _=>.any) 8 (.ref 2272 none 0 0 0)) 7 (.ref 2248 none 0 0 0)) 5 (.ref 5 none 0 0 0)) 4 (.ref 4 none 0 0 0)) v' l1 l2 (Dz p (A.drop i)):=by
 intro k;induction k with
 |zero=>
  intro i hi c1 c2 l1 l2 hc1 hc2 _ _ _ _ s h g1 g4 g5 g7 g8 g36 g37 g38 k2 k4 k5 k2248 k2272;have e1:((i:Int)< (A.length:Int))=False:=ff;have ho1:=(lA (v:=v') (e:=0) hc1).cl [2,4,5,2248,2272];have ho2:=(lA (v:=v') (e:=0) hc2).cl [2,4,5,2248,2272];have ho3:=k2c [2,4,5,2248,2272];rw[azi ω,ag];refine⟨?hh0,c1,c2,?_,?_,?_,?_,?_,by grind,by grind⟩;rotate_left
  ·simp only[eY,go_sem,g1,g4,g5,g7,g8,g36,g37,g38,k2,k4,k5,k2248,k2272,ho1,ho2,ho3,e1];rfl
  ·rfl
  ·rfl
  ·rfl
  ·rfl
 |succ k ih=>
  intro i hi c1 c2 l1 l2 hc1 hc2 b1 b2 hl1 hl2 s h g1 g4 g5 g7 g8 g36 g37 g38 k2 k4 k5 k2248 k2272;have hlt:i<A.length:=ω
  have e1:((i:Int)< (A.length:Int))=True:=tt;have e2:aU (aD A) (i:Int)=some (.ipt (bV A[i])):=gy rfl (List.getElem?_eq_getElem hlt);have e5:IntKind.i64.wrap ((i:Int)+1)=((i+1:Nat):Int):=wi;have ho1:=(lA (v:=v') (e:=0) hc1).cl [2,4,5,2248,2272];have ho2:=(lA (v:=v') (e:=0) hc2).cl [2,4,5,2248,2272];have ho3:=k2c [2,4,5,2248,2272];have hAd:=hA.dropN i;rw[azj hlt]at b1 b2 hAd⊢;have ih':=ih (i+1) ω;have vt:=hAd.head;have hrow:∀q ts,Dz p (q::ts)=if(rg q.c p).2=0 then(if(m8 q.c (rg q.c p).1).2=0 then(Dz p ts).map fun x=>(dO q.exps (rg q.c p).1 x.1,dO q.exps (m8 q.c (rg q.c p).1).1 x.2)else none)else none:=fun q ts=>rfl
  rw[hrow];generalize A[i]=t at e2 vt b1 b2 hAd⊢;have hnr:=alx vt.c (p:=p);obtain⟨vm,om⟩:=Oz t.c p;rw[ag];generalize aq _ _ _=L at ih'⊢;generalize rg t.c p=m at hnr vm om⊢;obtain⟨m,em⟩:=m;have hsb:=Sx vt.c om;obtain⟨vq,oq⟩:=Cm t.c m;simp only at hsb vq oq;generalize m8 t.c m=q at hsb vq oq⊢;obtain⟨q,eq⟩:=q;simp only[bV]at e2;simp only[rV,af,ak]at hnr hsb;by_cases hm:em=0
  ·subst hm;rw[if_pos rfl];by_cases hq:eq=0
   ·subst hq;rw[if_pos rfl];refine Sy.step ?_;simp only at vm om vq oq;by_cases zm:m.m.length=0
    ·have f1:(0< (m.m.length:Int))=False:=ff;have x1:l1++dO t.exps m []=l1:=by simp_all[dO,if_pos,azb]
     simp only[x1];by_cases zq:q.m.length=0
     ·have f2:(0< (q.m.length:Int))=False:=ff;have x2:l2++dO t.exps q []=l2:=by simp_all[dO,if_pos,azb]
      simp only[x2];have ih2:=ih' c1 c2 l1 l2 hc1 hc2 b1.drop b2.drop ω ω;simp only[eY,go_sem,g1,g4,g5,g7,g8,g36,g37,g38,k2,k4,k5,k2248,k2272,ho1,ho2,ho3,e1,e2,hnr,hsb,f1,f2,e5];refine ih2 _ _ ?_ ?_ ?_ ?_ ?_ ?_ ?_ ?_ ?_ ?_ ?_ ?_ ?_
      all_goals first|rfl|assumption
     ·have f2:(0< (q.m.length:Int))=True:=tt;have x2:l2++dO t.exps q []=l2++[⟨t.exps,q⟩]:=by simp_all[dO,if_neg]
      simp only[x2];obtain⟨c4,s3,s4⟩:=FO (v':=v') b2 (vt.put oq vq zq) ω hc2;have hcall2:=fun(h:ac) (hh:h 2272=t3 v' c2 0) (d:Nat)=>dB (aQ.1.2.1 false) rfl (qw (d:=d) hh hc2 s4 s3);have ih2:=ih' c1 c4 l1 _ hc1 s4 b1.drop (b2.push hAd (vt.put oq vq zq)) ω γ;simp only[af,ak]at hcall2;simp only[eY,go_sem,g1,g4,g5,g7,g8,g36,g37,g38,k2,k4,k5,k2248,k2272,ho1,ho2,ho3,e1,e2,hnr,hsb,f1,f2];rw[hcall2 _ rfl];simp only[go_sem,e5];refine ih2 _ _ ?_ ?_ ?_ ?_ ?_ ?_ ?_ ?_ ?_ ?_ ?_ ?_ ?_
      all_goals first|rfl|assumption
    ·have f1:(0< (m.m.length:Int))=True:=tt;have x1:l1++dO t.exps m []=l1++[⟨t.exps,m⟩]:=by simp_all[dO,if_neg]
     simp only[x1];obtain⟨c3,s1,s2⟩:=FO (v':=v') b1 (vt.put om vm zm) ω hc1;have hcall:=fun(h:ac) (hh:h 2248=t3 v' c1 0) (d:Nat)=>dB (aQ.1.2.1 false) rfl (qw (d:=d) hh hc1 s2 s1);have bp1:=b1.push hAd (vt.put om vm zm);have lp1:(l1++[(⟨t.exps,m⟩:Rt)]).length+k<=1000000:=γ
     simp only[af,ak]at hcall;by_cases zq:q.m.length=0
     ·have f2:(0< (q.m.length:Int))=False:=ff;have x2:l2++dO t.exps q []=l2:=by simp_all[dO,if_pos,azb]
      simp only[x2];have ih2:=ih' c3 c2 _ l2 s2 hc2 bp1 b2.drop lp1 ω;simp only[eY,go_sem,g1,g4,g5,g7,g8,g36,g37,g38,k2,k4,k5,k2248,k2272,ho1,ho2,ho3,e1,e2,hnr,hsb,f1];rw[hcall _ rfl];simp only[go_sem,f2,e5];refine ih2 _ _ ?_ ?_ ?_ ?_ ?_ ?_ ?_ ?_ ?_ ?_ ?_ ?_ ?_
      all_goals first|rfl|assumption
     ·have f2:(0< (q.m.length:Int))=True:=tt;have x2:l2++dO t.exps q []=l2++[⟨t.exps,q⟩]:=by unfold dO;rw[if_neg zq]
      simp only[x2];obtain⟨c4,s3,s4⟩:=FO (v':=v') b2 (vt.put oq vq zq) ω hc2;have hcall2:=fun(h:ac) (hh:h 2272=t3 v' c2 0) (d:Nat)=>dB (aQ.1.2.1 false) rfl (qw (d:=d) hh hc2 s4 s3);have ih2:=ih' c3 c4 _ _ s2 s4 bp1 (b2.push hAd (vt.put oq vq zq)) lp1 γ;simp only[af,ak]at hcall2;simp only[eY,go_sem,g1,g4,g5,g7,g8,g36,g37,g38,k2,k4,k5,k2248,k2272,ho1,ho2,ho3,e1,e2,hnr,hsb,f1];rw[hcall _ rfl];simp only[go_sem,f2];rw[hcall2 _ rfl];simp only[go_sem,e5];refine ih2 _ _ ?_ ?_ ?_ ?_ ?_ ?_ ?_ ?_ ?_ ?_ ?_ ?_ ?_
      all_goals first|rfl|assumption
   ·rw[if_neg hq];have f1:(eq=0)=False:=ff hq;refine⟨?hh1,?_,?_,?_⟩;rotate_left
    ·simp only[eY,go_sem,g1,g4,g5,g7,g8,g36,g37,g38,k2,k4,k5,k2248,k2272,ho1,ho2,ho3,e1,e2,hnr,hsb,f1];rfl
    ·rfl
    ·rfl
  ·rw[if_neg hm];have f1:(em=0)=False:=ff hm;refine⟨?hh2,?_,?_,?_⟩;rotate_left
   ·simp only[eY,go_sem,g1,g4,g5,g7,g8,g36,g37,g38,k2,k4,k5,k2248,k2272,ho1,ho2,ho3,e1,e2,hnr,f1];rfl
   ·rfl
   ·rfl
theorem aqz{v v' p:Int}{A:List Rt}(hA:Cl v A)(hn:A.length<=100000){o2:Ob}(k2c:∀ids,aA ids o2=true)(s:ai)(h:ac)(X:Option (Ex×St))(hX:ah 1 [4,5,7,8] (aq (aj R (az false) eY) [1,4,5,7,8,36,37,38] [2,4,5,2248,2272] s h)=X)
  (g1:s 1=I p) (g4:s 4=.ref 4 none 0 0 0) (g5:s 5=.ref 5 none 0 0 0) (g7:s 7=.ref 2248 none 0 0 0) (g8:s 8=.ref 2272 none 0 0 0) (g36:s 36=.sl 4 (aD A)) (g37:s 37=I A.length) (g38:s 38=I 0) (k2:h 2=o2) (k4:h 4=.bx [I 0,.emp]) (k5:h 5=.bx [I 0,.emp]) (k2248:h 2248=t3 v' .emp 0) (k2272:h 2272=t3 v' .emp 0):
  Sy X 2248 2272 (upd (upd (upd (upd (fun _=>.any) 8 (.ref 2272 none 0 0 0)) 7 (.ref 2248 none 0 0 0)) 5 (.ref 5 none 0 0 0)) 4 (.ref 4 none 0 0 0)) v' [] [] (Dz p A):=by
 subst hX;exact aiM hA hn k2c A.length 0 (ayX _) .emp .emp [] [] (.inr ⟨rfl,rfl⟩) (.inr ⟨rfl,rfl⟩) (Bf.nil _) (Bf.nil _) γ γ s h g1 g4 g5 g7 g8 g36 g37 g38 k2 k4 k5 k2248 k2272
theorem af7{a:Rp}{p:Int}(oa:OkP a):R F.poly_Round [be a,I p] []=some (Yp (qy a p),[]):=by
 refine av WE rfl ?_;have v1:=wl oa;simp only[be]at v1;unfold qy;cases va:vp a with
 |false=>
  rw[va]at v1;simp only[pp,vL,be,go_sem,v1];rfl
 |true=>
  rw[va]at v1;rw[if_pos rfl];by_cases h8:p<8
  ·have e0:(p<8)=True:=eq_true h8;simp only[pp,vL,be,go_sem,v1,e0];rfl
  ·have e0:(p<8)=False:=eq_false h8;by_cases h9:512<p
   ·have e3:(512<p)=True:=eq_true h9;simp only[pp,vL,be,go_sem,v1,e0,e3];rfl
   ·have e3:(512<p)=False:=eq_false h9;rw[if_neg ω];obtain⟨ka,a0,a8,al⟩:=jZ oa va;have hemp:=Ce (v:=a.vars);have hl:=aqz (v:=a.vars) (v':=a.vars) (p:=p) ka ω (o2:=.bx [I a.vars,.sl 4 (aD a.terms)]) (fun _=>rfl);simp only[pp,vL,be,go_sem,v1,e0,e3,hemp,qx];generalize hX:ah 1 _ _=X;have hM:=hl _ _ _ hX rfl rfl rfl rfl rfl rfl rfl rfl rfl rfl rfl rfl rfl;cases hr:Dz p a.terms with
    |none=>
     rw[hr]at hM;obtain⟨hh,rfl,q4,q5⟩:=hM;simp only[Yp,p0,be,go_sem,q4,q5];rfl
    |some q=>
     rw[hr]at hM;obtain⟨hh,c1,c2,rfl,q4,q5,q1,q2,i1,i2⟩:=hM;obtain⟨r1,r2⟩:=q;simp only[t3]at q1 q2;rcases i1 with rfl| ⟨rfl,rfl⟩
     ·rcases i2 with rfl| ⟨rfl,rfl⟩
      ·simp only[Yp,be,go_sem,azz,azG,q4,q5,q1,q2,wo,zL,azv,azF,yf,wn]
      ·simp only[Yp,be,go_sem,azz,azG,q4,q5,q1,q2,wo,zL,azv,azF,yf,wn,Cf];rfl
     ·rcases i2 with rfl| ⟨rfl,rfl⟩
      ·simp only[Yp,be,go_sem,azz,azG,q4,q5,q1,q2,wo,zL,azv,azF,yf,wn,Cf];rfl
      ·simp only[Yp,be,go_sem,azz,azG,q4,q5,q1,q2,wo,zL,azv,azF,yf,Cf];rfl
def OA(blk:Option (Ex×St))(i1 i2:Nat)(S:ai)(v':Int)(l1 l2 r1 r2:List Rt):Prop:=
 ∃hh c1 c2,blk=some (.normal,⟨S,hh⟩)/\hh 4=.bx [I 0,.emp]/\hh 5=.bx [I 0,.emp]/\hh i1=.bx [I v',c1]/\hh i2=.bx [I v',c2]/\mN c1 (l1++r1)/\mN c2 (l2++r2)
theorem OA.p1{blk:Option (Ex×St)}{i1 i2:Nat}{S:ai}{v':Int}{l1 l2 r1 r2:List Rt}{t:Rt}(h:OA blk i1 i2 S v' (l1++[t]) l2 r1 r2):OA blk i1 i2 S v' l1 l2 (t::r1) r2:=by
 obtain⟨hh,c1,c2,h1,h2,h3,h4,h5,h6,h7⟩:=h;exact⟨hh,c1,c2,h1,h2,h3,h4,h5,by rwa[List.append_cons],h7⟩
theorem OA.p2{blk:Option (Ex×St)}{i1 i2:Nat}{S:ai}{v':Int}{l1 l2 r1 r2:List Rt}{t:Rt}(h:OA blk i1 i2 S v' l1 (l2++[t]) r1 r2):OA blk i1 i2 S v' l1 l2 r1 (t::r2):=by
 obtain⟨hh,c1,c2,h1,h2,h3,h4,h5,h6,h7⟩:=h;exact⟨hh,c1,c2,h1,h2,h3,h4,h5,h6,by rwa[List.append_cons]⟩
def aiN(blk:Option (Ex×St))(i1 i2:Nat)(S:ai)(v':Int)(l1 l2:List Rt):Option (List Rt×List Rt)->Prop
 |some q=>OA blk i1 i2 S v' l1 l2 q.1 q.2
 |none=>∃hh,blk=some (.ret,⟨upd (upd (upd (fun _=>.any) 6 (I 9)) 5 (.ref 5 none 0 0 0)) 4 (.ref 4 none 0 0 0),hh⟩)/\hh 4=.bx [I 0,.emp]/\hh 5=.bx [I 0,.emp]
theorem aiN.step{blk:Option (Ex×St)}{i1 i2:Nat}{S:ai}{v':Int}{l1 l2:List Rt}{x:List Int}{c d:Rd}:∀ {o:Option (List Rt×List Rt)},aiN blk i1 i2 S v' (l1++dO x c []) (l2++dO x d []) o->aiN blk i1 i2 S v' l1 l2 (o.map fun q=>(dO x c q.1,dO x d q.2)):=by
 intro o h;cases o with
 |none=>exact h
 |some q=>
  obtain⟨hh,c1,c2,h1,h2,h3,h4,h5,h6,h7⟩:=h;exact⟨hh,c1,c2,h1,h2,h3,h4,h5,by rwa[GL]at h6,by rwa[GL]at h7⟩
end Go.Ab
