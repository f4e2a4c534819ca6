/-
  A law of polynomials holds at every input that the statement speaks of, under the conditions that its card names. Part B1.
-/
import Derived.Orders
import Derived.LoopN
import Derived.Test.YtfagcngkipbnlaaGreatDoorA1
namespace Go.Ab
open Go
section
variable {P:Program} {w w':World} {X:Nat→Prop} {ρ ρ':aT} {h h':aa} {A A':Nat→Prop}
theorem JU (n n' cap:Nat) (lo:Option Value) (v:Value):Instr.sliceBounds true n cap lo (some v) none=Instr.sliceBounds true n' cap lo (some v) none:=rfl
theorem HW (r:Rel w X ρ h) {t e:TypeId} {k:Nat} (ht:P.underlying t=some (.slice e)) (hk:aQ P e=some k) (h0:0 < k) {x z:AV} {u:Value} {lo hi:Option AV} {lo' hi':Option Value} {ks:K}
  (hx:RV w (ao w X h ρ) ρ h x u) (hl:RVo w (ao w X h ρ) ρ h lo lo') (hh:RVo w (ao w X h ρ) ρ h hi hi') (hz:xG h k x lo hi=some (z,h',ks)) :
  ∃ v,(Instr.sliceAt t u lo' hi' none).run P w=.ok v w∧Got w X ρ h w h' ks z v:=by
 have hsz:∀ w,(sizeOf e).run P w=.ok k w:=by
  intro w
  simp only [aQ,Option.map_eq_some_iff] at hk
  obtain ⟨i,h1,h2⟩:=hk
  simp [sizeOf,typeInfo,h1,h2]
 have run:∀ (a:Option Addr) (n cap l r m:Nat),(Instr.sliceBounds true n cap lo' hi' none).run P w=.ok (l,r,m) w →
   (Instr.sliceAt t (.slice a n cap) lo' hi' none).run P w=.ok (.slice (if m=l then a else a.map (·.add (l*k))) (r - l) (m - l)) w:=by
  intro a n cap l r m hb
  simp [Instr.sliceAt,Instr.slice,run_underlying ht,hb,hsz]
 cases x <;> simp only [xG] at hz <;> try (cases hz; done)
 rename_i id sub k' l0 n
 cases sub with
 | some p=>cases hz
 | none =>
 simp only at hz
 split at hz
 ·rename_i hkk
  subst hkk
  obtain ⟨a,cap,rfl,hp,hn,hb,ha⟩:=hx.rsl_inv
  cases eo:h id <;> rw [eo] at hz <;> simp only [An] at hz <;> try (cases hz; done)
  rename_i k2 rows
  split at hz
  ·rename_i hcond
   obtain ⟨rfl,hs,hle⟩:=hcond
   simp only [Option.map_eq_some_iff] at hz
   obtain ⟨⟨l,r'⟩,h1,h2⟩:=hz
   simp only [Prod.mk.injEq] at h2
   obtain ⟨rfl,rfl,rfl⟩:=h2
   have ho:=r.ob id
   rw [eo] at ho
   obtain ⟨us,t0,g1,g2,g3,g4⟩:=ho
   have hcap:rows.length≤l0+cap:=by
    have h5:rows.length*k2≤(l0+cap)*k2:=by rw [hb,← g2]; exact g3
    exact Nat.le_of_mul_le_mul_right h5 h0
   obtain ⟨m,q2,q3,q4,q5,q6,q7,q8⟩:=lQ (P:=P) (cap:=cap) true hl hh .none h1 (by omega)
   cases hh with
   | none=>simp at hs
   | some hv =>
   rename_i hv' hw'
   have hmc:m=cap:=q7 rfl
   have q2':=q2
   rw [JU _ n] at q2'
   refine ⟨_,run _ _ _ _ _ _ q2',ρ,r,.refl _ _ _,.rsl _ _ _ _ _ _ _ hp (by omega) (by rw [← hb]; congr 1; omega) ?_⟩
   rcases ha with h0 | h0
   ·exact .inl (by omega)
   ·by_cases hml:m=l
    ·exact .inl (by omega)
    ·refine .inr ?_
     rw [if_neg hml,h0]
     simp only [Option.map_some,io]
     rw [← Nat.add_mul]
  ·cases hz
 ·cases hz
theorem JV (r:Rel w X ρ h) {t:TypeId} (hg:kD P t=some false) {d:Nat} (hdp:aG d=false) {x z:AV} {u:Value} {ks:K}
  (hx:RV w (ao w X h ρ) ρ h x u) (hz:Ap h d x=some (z,h',ks)) :
  ∃ ad v,u=.pointer (some ad)∧(loadVar t ad).run P w=.ok v w∧Got w X ρ h w h' ks z v:=by
 cases x <;> simp only [Ap] at hz <;> try (cases hz; done)
 rename_i id sub k0 i j
 cases sub with
 | some p=>cases hz
 | none =>
 simp only at hz
 obtain ⟨rfl,hp⟩:=hx.ref_inv
 cases eo:h id <;> rw [eo] at hz <;> simp only [EJ] at hz <;> try (cases hz; done)
 rename_i cs
 obtain ⟨us,t0,g1,g2,g3,g4⟩:=r.cell eo
 generalize hpp:i*k0+j=p at hz ⊢
 cases ec:cs[p]? with
 | none=>rw [ec] at hz; simp [xH] at hz
 | some c =>
  rw [ec] at hz
  obtain ⟨v,f1,f2⟩:=g4 p c ec
  have hload:(loadVar t ⟨(ρ id none).1,p,none⟩).run P w=.ok v w:=sF hg (by rw [qT g1]; exact f1)
  refine ⟨_,v,rfl,hload,?_⟩
  cases c <;> simp only [xH] at hz <;> try (cases hz; done)
  ·simp only [Option.some.injEq,Prod.mk.injEq] at hz
   obtain ⟨rfl,rfl,rfl⟩:=hz
   exact ⟨ρ,r,.refl _ _ _,f2.1⟩
  ·rename_i k rows
   obtain ⟨hd',rfl,rfl,rfl⟩:=gJ hz
   have hne:d ≠ id:=by rintro rfl; rw [ag] at hd'; cases hd'
   have hd:h d=.dead:=by rwa [ap _ _ hne] at hd'
   obtain ⟨m1,m2⟩:=JP r eo ec hdp hd
   obtain ⟨a,cap,us1,t1,rfl,q2,q3,q4,q5,q6,q7⟩:=f2
   refine ⟨_,m1,m2,.rsl d none k 0 rows.length cap a (by simp [bg,ag]) q3 (by rw [aR,Nat.zero_add,q6,q5]) ?_⟩
   rcases q2 with q2 | q2
   ·exact .inl q2
   ·exact .inr (by rw [aR,q2,Nat.zero_mul])
theorem HX (r:Rel w X ρ h) {k:Nat} (h0:0 < k) {id m:Nat} {rows ys:List (List AV)} (eo:h id=.ar k rows) (hfit:m+ys.length≤rows.length)
  {news:List Value} (n1:news.length=ys.length*k) (n3:bu w (ao w X h ρ) k ys news.toArray) :
  ∃ w',Rel w' X ρ (upd h id (.ar k (rows.take m++ys++rows.drop (m+ys.length))))∧Evo w ρ h w' ρ (upd h id (.ar k (rows.take m++ys++rows.drop (m+ys.length)))) [] ∧
   (storeCells ⟨(ρ id none).1,m*k,none⟩ news).run P w=.ok () w'∧(news=[]→w'=w):=by
 have hln:live h id none:=by simp [live,eo]
 have ho:=r.ob id
 rw [eo] at ho
 obtain ⟨us,t0,g1,g2,g3,g4⟩:=ho
 have hle:m*k+news.length≤us.size:=by
  have:(m+ys.length)*k≤rows.length*k:=Nat.mul_le_mul_right k hfit
  rw [Nat.add_mul] at this
  omega
 have h1:∀ v ∈ news,v.oneCell'=true:=by
  intro v hv
  obtain ⟨q,hq⟩:=List.getElem?_of_mem hv
  have hql:q < ys.length*k:=by rw [← n1]; exact (List.getElem?_eq_some_iff.1 hq).1
  have h3:q / k < ys.length:=Nat.div_lt_of_lt_mul (by rw [Nat.mul_comm]; exact hql)
  obtain ⟨f1,f2⟩:=n3 (q / k) _ (List.getElem?_eq_getElem h3)
  have h4:q % k < (ys[q / k]).length:=by rw [f1]; exact Nat.mod_lt _ h0
  obtain ⟨v',f3,f4,f5⟩:=f2 (q % k) _ (List.getElem?_eq_getElem h4)
  have h5:q / k*k+q % k=q:=by rw [Nat.mul_comm]; exact Nat.div_add_mod q k
  rw [h5,List.getElem?_toArray,hq] at f3
  cases f3
  exact f4.one f5
 have hlive:∀ s,live (upd h id (.ar k (rows.take m++ys++rows.drop (m+ys.length)))) id s→live h id s:=by
  intro s h1
  cases s with
  | none=>exact hln
  | some q=>obtain ⟨_,_,_,h2,_⟩:=h1; rw [ag] at h2; cases h2
 have hkeep:∀ s,bg h id s→s=none:=by
  intro s hp
  cases s with
  | none=>rfl
  | some q=>obtain ⟨_,_,_,h2,_⟩:=hp; rw [eo] at h2; cases h2
 have ev:Evo w ρ h (w.setRow (ρ id none).1 (bC us (m*k) news)) ρ (upd h id (.ar k (rows.take m++ys++rows.drop (m+ys.length)))) [] :=
  pj (X:=X) r hln _ hlive (fun s hp _=>by rw [hkeep s hp]; simp [bg,ag]) (fun hbf=>by rw [eo] at hbf; cases hbf)
 have hlen2:(rows.take m++ys++rows.drop (m+ys.length)).length=rows.length:=by
  rw [List.length_append,List.length_append,List.length_take,List.length_drop]
  omega
 have hrel:=ls r hln _ hlive ev ⟨_,t0,setRow_heap w _ us _ t0 _ g1,by rw [bP hle]; exact g2,by rw [bP hle,hlen2]; exact g3,CW h0 (g4.mono fun b hb=>ev.al hb) (n3.mono fun b hb=>ev.al hb) n1 (by omega) g3⟩
 refine ⟨_,hrel,ev,?_,fun e3=>?_⟩
 ·have:=run_storeCells_at P (ρ id none).1 (m*k) t0 news 0 us w g1 (by simpa using hle) h1
  simpa [bC] using this
 ·subst e3
  rw [it (by simpa using hle) (fun j v hv=>by simp at hv),setRow_self w _ us t0 (0,0) g1]
theorem JW (r:Rel w X ρ h) {t e ty:TypeId} {k:Nat} {zs:List AV} (ht:P.underlying t=some (.slice e)) (hk:aQ P e=some k) (hzz:fZ P e=some zs) (h0:0 < k) {x z:AV} {u:Value} {ks:K}
  (hx:RV w (ao w X h ρ) ρ h x u) (hz:BQ h k zs x=some (z,h',ks)) :
  ∃ v w',(Builtin.clear_ #[t] ty #[u]).run P w=.ok v w'∧Got w X ρ h w' h' ks z v:=by
 cases x <;> simp only [BQ] at hz <;> try (cases hz; done)
 rename_i id sub k' lo n
 cases sub with
 | some p=>cases hz
 | none =>
 simp only at hz
 split at hz
 ·rename_i hkk
  subst hkk
  obtain ⟨a,cap,rfl,hp,hn,hb,ha⟩:=hx.rsl_inv
  cases eo:h id <;> rw [eo] at hz <;> simp only [Fd] at hz <;> try (cases hz; done)
  rename_i k2 rows
  split at hz
  ·rename_i hcond
   obtain ⟨rfl,hfit⟩:=hcond
   simp only [Option.some.injEq,Prod.mk.injEq] at hz
   obtain ⟨rfl,rfl,rfl⟩:=hz
   obtain ⟨zv,z1,z2,z3,z4⟩:=p7 (w:=w) (A:=ao w X h ρ) hk hzz n n (Nat.le_refl n)
   obtain ⟨ii,zw,y1,y2,y3,y4,_⟩:=iq (w:=w) (A:=ao w X h ρ) (ρ:=ρ) (h:=h) hzz
   have hzv:zv=zw:=by
    have h5:=z1 w
    rw [AC y1 y2 w] at h5
    exact (Result.ok.inj h5).1.symm
   subst hzv
   have hcs:zv.cells.size=k2:=by rw [y3]; simpa [aQ,y1] using hk
   have hnews:(Builtin.zeroCells zv.cells n)=(Array.range (n*k2)).map (zv.cells[· % zv.cells.size]!):=by
    unfold Builtin.zeroCells
    rw [hcs]
   obtain ⟨w',m1,m2,m3,m4⟩:=HX (P:=P) r h0 (m:=lo) (ys:=List.replicate n zs) (news:=(Builtin.zeroCells zv.cells n).toList) eo (by simpa using hfit) (by rw [hnews]; simp) (by rw [Array.toArray_toList,hnews]; exact z4)
   rw [List.length_replicate] at m1 m2
   refine ⟨.tuple #[],w',?_,ρ,m1,m2,.tup [] #[] rfl (fun i c u hc=>by simp at hc)⟩
   by_cases hn0:n=0
   ·subst hn0
    have:(Builtin.zeroCells zv.cells 0).toList=[]:=by simp [Builtin.zeroCells]
    rw [m4 this]
    cases a <;> simp [Builtin.clear_,run_underlying ht]
   ·rcases ha with h9 | h9
    ·omega
    ·subst h9
     obtain ⟨n',rfl⟩:=Nat.exists_eq_succ_of_ne_zero hn0
     simp [Builtin.clear_,run_underlying ht,z1,m3]
  ·cases hz
 ·cases hz
theorem JX {z:Array Value} {n c:Nat} (hn:n≤c):Builtin.zeroCells z n++Builtin.zeroCells z (c - n)=(Array.range (c*z.size)).map (z[· % z.size]!):=by
 unfold Builtin.zeroCells
 apply Array.ext
 ·simp only [Array.size_append,Array.size_map,Array.size_range]
  rw [← Nat.add_mul]
  congr 1
  omega
 ·intro i h1 h2
  rw [Array.getElem_append]
  split
  ·simp
  ·rename_i h3
   simp only [Array.size_map,Array.size_range] at h3
   simp only [Array.size_map,Array.size_range,Array.getElem_map,Array.getElem_range]
   have:i % z.size=(i - n*z.size) % z.size:=by
    have h4:i=(i - n*z.size)+n*z.size:=by omega
    rw [h4,Nat.add_mul_mod_self_right,Nat.add_sub_cancel]
   rw [this]
theorem HY (r:Rel w X ρ h) {t u e ty:TypeId} {k b d:Nat} (hdp:aG d=false) {zs:List AV} (ht:P.underlying t=some (.slice e)) (hu:P.underlying u=some (.int .i64)) (hk:aQ P e=some k) (hbb:kn P e=some b) (hzz:fZ P e=some zs) (h0:0 < k) (hb0:0 < b)
  {x y z:AV} {ux uy:Value} {ks:K} (hx:RV w (ao w X h ρ) ρ h x ux) (hy:RV w (ao w X h ρ) ρ h y uy) (hr:rW h d k b zs x y=some (z,h',ks)) :
  ∃ v w',(Builtin.append_ #[t,u] ty #[ux,uy]).run P w=.ok v w'∧Got w X ρ h w' h' ks z v:=by
 unfold rW at hr
 split at hr
 ·rename_i c
  obtain ⟨a,rfl⟩:=hx.emp_inv
  obtain ⟨rfl,_⟩:=hy.v_inv
  split at hr
  ·rename_i hcond
   obtain ⟨hc0,hfit⟩:=hcond
   obtain ⟨n,rfl⟩:=Int.eq_ofNat_of_zero_le (show 0≤c by omega)
   rw [Int.toNat_natCast] at hr hfit
   obtain ⟨i,zv,z1,z2,z3,z4,_⟩:=iq (w:=w) (A:=ao w X h ρ) (ρ:=ρ) (h:=h) hzz
   have hik:i.size=k:=by simpa [aQ,z1] using hk
   have hib:i.bytes=b:=by simpa [kn,z1] using hbb
   have hcs:zv.cells.size=k:=by rw [z3,hik]
   obtain ⟨d3,d4⟩:=qG r
   have hge:=grownCap_ge w (0+n) 0 e
   obtain ⟨zw,y1,y2,y3,y4⟩:=p7 (w:=w.drew) (A:=ao w.drew X h ρ) hk hzz n (grownCap w (0+n) 0 e) (by omega)
   have hzv:zw=zv:=by
    have h5:=y1 w
    rw [AC z1 z2 w] at h5
    exact (Result.ok.inj h5).1.symm
   subst hzv
   obtain ⟨rfl,ρ',q1,q2,q3⟩:=kq (t:=e) (cap:=grownCap w (0+n) 0 e) d3 hdp y4 y3 (by omega) (by rw [y2]) hr
   refine ⟨_,_,?_,ρ',q1,d4.trans q2,q3⟩
   have hnb:n≤140737488355328:=by
    have:n*1≤n*b:=Nat.mul_le_mul_left n hb0
    omega
   have hw:IntKind.i64.wrap (n:Int)=n:=by simp [IntKind.wrap,IntKind.signed,IntKind.bits]; omega
   have hn1:n ≠ 0:=by omega
   have h48:¬ (281474976710656 < (n:Int)*i.bytes):=by
    rw [hib]
    have:=Int.ofNat_le.2 hfit
    rw [Int.natCast_mul] at this
    omega
   have hmax:¬ ((9223372036854775807:Int) < (n:Int)):=by omega
   have hns:¬ (281474976710656 < Builtin.nextslicecap n 0*i.bytes):=by
    have:=growslice_fits (need:=n) (old:=0) (bytes:=i.bytes) (by omega) (by rw [hib]; exact hfit)
    omega
   have hb':i.bytes ≠ 0:=by omega
   have hk':i.size ≠ 0:=by omega
   have hneg:¬ ((n:Int) < 0):=by omega
   have hli:∀ w:World,(asInt (.int .i64 (n:Int))).run P w=.ok (n:Int) w:=fun _=>rfl
   simp only [Nat.zero_add] at hge ⊢
   simp [Builtin.append_,run_underlying ht,run_underlying hu,sizeOf,typeInfo,zeroValue,z1,z2,hli,hw,hn1,h48,hmax,hns,hb',hneg,Question.forced,newRow,grownCap,dV]
   rw [if_neg (by rw [Nat.mul_eq_zero]; omega)]
   have hz2:=JX (z:=zw.cells) (n:=n) (c:=grownCap w n 0 e) hge
   rw [hcs] at hz2
   unfold grownCap at hz2
   rw [hz2,hcs]
  ·cases hr
 ·rename_i id k' lo i c m
  obtain ⟨a,rfl,hp,hn,hbd,ha⟩:=hx.rsc_inv
  obtain ⟨rfl,_⟩:=hy.v_inv
  split at hr
  ·rename_i hcond
   obtain ⟨rfl,rfl,hm0,hroom⟩:=hcond
   obtain ⟨n,rfl⟩:=Int.eq_ofNat_of_zero_le (show 0≤m by omega)
   rw [Int.toNat_natCast] at hr hroom
   cases eo:h id <;> rw [eo] at hr <;> simp only [Ao] at hr <;> try (cases hr; done)
   rename_i k2 rows
   split at hr
   ·rename_i hcond2
    obtain ⟨rfl,hle,hfit⟩:=hcond2
    have ho:=r.ob id
    rw [eo] at ho
    obtain ⟨us,t0,g1,g2,g3,g4⟩:=ho
    obtain ⟨ii,zv,z1,z2,z3,z4,_⟩:=iq (w:=w) (A:=ao w X h ρ) (ρ:=ρ) (h:=h) hzz
    have hik:ii.size=k2:=by simpa [aQ,z1] using hk
    have hib:ii.bytes=b:=by simpa [kn,z1] using hbb
    have hcs:zv.cells.size=k2:=by rw [z3,hik]
    have hlt:(rows.take i).length=i:=by rw [List.length_take]; omega
    obtain ⟨old,o1,o2,o3⟩:∃ old:List Value,old.length=(rows.take i).length*k2∧(∀ w2:World,w2.heap=w.heap→(Builtin.firstCells k2 i (.slice a i c)).run P w2=.ok old.toArray w2)∧bu w (ao w X h ρ) k2 (rows.take i) old.toArray:=by
     rw [hlt]
     by_cases hr0:i=0
     ·subst hr0
      exact ⟨[],by simp,fun w2 _=>dV _ _ _ _ _,fun q row hq=>by simp at hq⟩
     ·rcases ha with h9 | rfl
      ·omega
      ·obtain ⟨old,f1,f2,f3⟩:=m8 (P:=P) (w:=w) (A:=ao w X h ρ) (o:=0) (n:=i) (l:=i) (cap:=c) g1 g4 (by omega) h0
       exact ⟨old,f1,fun w2 h2=>f2 _ h2,by simpa using f3⟩
    obtain ⟨zw,y1,y2,y3,y4⟩:=p7 (w:=w) (A:=ao w X h ρ) hk hzz n n (Nat.le_refl _)
    have hzv:zw=zv:=by
     have h5:=y1 w
     rw [AC z1 z2 w] at h5
     exact (Result.ok.inj h5).1.symm
    subst hzv
    have hnews:Builtin.zeroCells zw.cells n=(Array.range (n*k2)).map (zw.cells[· % zw.cells.size]!):=by
     unfold Builtin.zeroCells
     rw [hcs]
    have hz4:bu w (ao w X h ρ) k2 (List.replicate n zs) (Builtin.zeroCells zw.cells n).toList.toArray:=by
     rw [Array.toArray_toList,hnews]
     exact y4
    obtain ⟨d3,d4⟩:=qG r
    have hge:=grownCap_ge w (i+n) c e
    have hl2:(Builtin.zeroCells zw.cells n).toList.length=(List.replicate n zs).length*k2:=by rw [hnews]; simp
    have hrows:=wB (w:=w) (A:=ao w X h ρ) (Builtin.zeroCells zw.cells (grownCap w (i+n) c e - (i+n))) o3 o1 hz4 hl2
    have hsz:(old.toArray++(Builtin.zeroCells zw.cells n).toList.toArray++Builtin.zeroCells zw.cells (grownCap w (i+n) c e - (i+n))).size=grownCap w (i+n) c e*k2:=by
     simp only [Array.size_append,List.size_toArray,size_zeroCells,hcs,o1,hlt,hl2,List.length_replicate,← Nat.add_mul]
     congr 1
     omega
    have hlen:(rows.take i++List.replicate n zs).length=i+n:=by rw [List.length_append,hlt,List.length_replicate]
    obtain ⟨rfl,ρ',q1,q2,q3⟩:=kq (t:=e) (cap:=grownCap w (i+n) c e) d3 hdp (hrows.mono fun b hb=>d4.al hb) (by rw [hsz,hlen]; exact Nat.mul_le_mul_right k2 hge) hge hsz.symm hr
    refine ⟨_,_,?_,ρ',q1,d4.trans q2,q3⟩
    have hnb:(i+n)*1≤(i+n)*b:=Nat.mul_le_mul_left _ hb0
    have hw:IntKind.i64.wrap (n:Int)=n:=by simp [IntKind.wrap,IntKind.signed,IntKind.bits]; omega
    have hn1:n ≠ 0:=by omega
    have hnb2:n*b≤(i+n)*b:=Nat.mul_le_mul_right b (by omega)
    have h48:¬ (281474976710656 < (n:Int)*ii.bytes):=by
     rw [hib]
     have:=Int.ofNat_le.2 (Nat.le_trans hnb2 hfit)
     rw [Int.natCast_mul] at this
     omega
    have hmax:¬ ((9223372036854775807:Int) < (i:Int)+(n:Int)):=by omega
    have hcap:¬ (i+n≤c):=by omega
    have hns:¬ (281474976710656 < Builtin.nextslicecap (i+n) c*ii.bytes):=by
     have:=growslice_fits (need:=i+n) (old:=c) (bytes:=ii.bytes) (by omega) (by rw [hib]; exact hfit)
     omega
    have hb':ii.bytes ≠ 0:=by omega
    have hk':ii.size ≠ 0:=by omega
    have hneg:¬ ((n:Int) < 0):=by omega
    have hli:∀ w:World,(asInt (.int .i64 (n:Int))).run P w=.ok (n:Int) w:=fun _=>rfl
    have ho2:=o2 w.drew rfl
    simp [Builtin.append_,run_underlying ht,run_underlying hu,sizeOf,typeInfo,zeroValue,z1,z2,hli,hw,h48,hmax,hns,hb',hneg,hcap,Question.forced,newRow,grownCap,hik,ho2]
    intro h9
    rw [Nat.mul_eq_zero] at h9
    omega
   ·cases hr
  ·cases hr
 ·cases hr
end
section
variable {P:Program} {w w':World} {X:Nat→Prop} {ρ ρ':aT} {h h':aa} {s:af} {a:Act}
theorem yp (hs:RS w (ao w X h ρ) ρ h s a.tmps):∀ (ps:List (Nat × Operand)) (q:List (Nat × Opd)),te ps=some q→q.length=ps.length ∧
  ∀ (m:Nat) (p:Nat × Opd) (v:Nat × Operand),q[m]?=some p→ps[m]?=some v→v.1=p.1∧RV w (ao w X h ρ) ρ h (ev s p.2) (a.eval v.2)
 | [],q,hq=>by simp [te] at hq; subst hq; exact ⟨rfl,fun m p v h1=>by simp at h1⟩
 | (i,x)::ps,q,hq=>by
  simp only [te,Option.bind_eq_some_iff] at hq
  obtain ⟨y,h1,q',h2,h3⟩:=hq
  cases h3
  obtain ⟨g1,g2⟩:=yp hs ps q' h2
  refine ⟨by simp [g1],fun m p v e1 e2=>?_⟩
  cases m with
  | zero=>simp at e1 e2; subst e1 e2; exact ⟨rfl,aE h1 hs⟩
  | succ m=>exact g2 m p v (by simpa using e1) (by simpa using e2)
theorem jh {α:Type} {x:Option α} {f:α→POp} {y:AOp} (hc:(x.map fun a=>AOp.p (f a))=some y):∃ p,y=.p p:=by
 simp only [Option.map_eq_some_iff] at hc
 obtain ⟨a,_,h⟩:=hc
 exact ⟨_,h.symm⟩
theorem bR {α:Type} {x:Option α} {f:α→Option AOp} {y:AOp} (hf:∀ a,f a=some y→∃ p,y=.p p) (hc:x.bind f=some y):∃ p,y=.p p:=by
 simp only [Option.bind_eq_some_iff] at hc
 obtain ⟨a,_,h⟩:=hc
 exact hf a h
theorem Rs {c:Prop} [Decidable c] {p:POp} {y:AOp} (hc:(if c then none else some (AOp.p p))=some y):∃ p,y=.p p:=by
 split at hc
 ·cases hc
 ·cases hc; exact ⟨_,rfl⟩
theorem JY {u:TypeId} (h:Jt P u=true):P.underlying u=some (.int .i64):=by
 unfold Jt at h
 split at h
 ·assumption
 ·cases h
theorem Nd {op:Op} {aop:AOp} {call:cT} {md:Mode} (hc:wu P op=some aop) (hnc:∀ f zas,aop ≠ .call f zas) (r:Rel w X ρ h) (hs:RS w (ao w X h ρ) ρ h s a.tmps) {d:Nat} (hdp:aG d=false) {z:AV} {ks:K}
  (hz:step call md d aop s h=some (z,h',ks)) (o:Oper) (ho:o.op=op) :
  ∃ nx v w',(execOp a.eval o).run P w=.ok nx w'∧(nx=.value v∨(nx=.skip∧v=undef))∧Got w X ρ h w' h' ks z v:=by
 have fin:∀ {m:Sem Value},(∃ v w',m.run P w=.ok v w'∧Got w X ρ h w' h' ks z v)→∃ nx v w',(do pure (.value (← m)):Sem Next).run P w=.ok nx w'∧(nx=.value v∨(nx=.skip∧v=undef))∧Got w X ρ h w' h' ks z v:=by
  intro m hm
  obtain ⟨v,w',h1,h2⟩:=hm
  exact ⟨_,v,w',by rw [Sem.run_bind,h1]; rfl,.inl rfl,h2⟩
 by_cases hp:∃ pop,aop=.p pop
 ·obtain ⟨pop,rfl⟩:=hp
  simp only [step,ri,Option.map_eq_some_iff,Prod.mk.injEq] at hz
  obtain ⟨z',h1,rfl,rfl,rfl⟩:=hz
  obtain ⟨v,g1,g2⟩:=JH hc hs h1 o ho
  exact ⟨_,v,w,g1,.inl rfl,ρ,r,.refl _ _ _,g2⟩
 ·cases op <;> simp only [wu] at hc
  case alloc =>
   simp only [Option.map_eq_some_iff] at hc
   obtain ⟨zs,h1,h2⟩:=hc
   cases h2
   simp only [execOp,ho]
   exact fin (HT r h1 hdp hz)
  case box =>
   simp only [Option.bind_eq_some_iff,Option.map_eq_some_iff] at hc
   obtain ⟨k,h1,y,h2,h3⟩:=hc
   cases h3
   simp only [execOp,ho]
   exact fin (JL r hdp (aE h2 hs) hz)
  case buildSlice t n ps =>
   simp only [xI,Option.bind_eq_some_iff] at hc
   obtain ⟨e,h1,k,h2,hc⟩:=hc
   split at hc
   ·rename_i hn
    simp only [Option.bind_eq_some_iff,Option.map_eq_some_iff] at hc
    obtain ⟨zs,h3,q,h4,h5⟩:=hc
    cases h5
    obtain ⟨g1,g2⟩:=yp hs _ _ h4
    simp only [execOp,ho]
    simp only [step] at hz
    refine fin (DA r hdp h1 h2 h3 hn.1 (by simp [g1]) (fun m p v e1 e2=>?_) hz)
    simp only [List.getElem?_map,Option.map_eq_some_iff] at e1
    obtain ⟨p',e3,rfl⟩:=e1
    simp only [Array.getElem?_map,Option.map_eq_some_iff] at e2
    obtain ⟨v',e4,rfl⟩:=e2
    exact g2 m p' v' e3 (by simpa using e4)
   ·cases hc
  case makeSlice t l c =>
   simp only [EL,Option.bind_eq_some_iff] at hc
   obtain ⟨l',h1,c',h2,e,h3,k,h4,b,h5,hc⟩:=hc
   split at hc
   ·simp only [Option.map_eq_some_iff] at hc
    obtain ⟨zs,h6,h7⟩:=hc
    cases h7
    simp only [execOp,ho]
    exact fin (JN r hdp h3 h4 h5 h6 (aE h1 hs) (aE h2 hs) hz)
   ·cases hc
  case load t x =>
   simp only [Option.bind_eq_some_iff] at hc
   obtain ⟨g,h1,k,h2,y,h3,hc⟩:=hc
   split at hc
   ·cases hc
    obtain ⟨ad,v,g1,g2,g3,g4,g5⟩:=yl (P:=P) r h1 h2 (aE h3 hs) hz
    simp only [execOp,ho]
    exact fin ⟨v,w,by rw [g1]; exact g2,ρ,g3,g4,g5⟩
   ·cases hc
  case store t x y =>
   simp only [Option.bind_eq_some_iff,Option.map_eq_some_iff] at hc
   obtain ⟨k,h1,x',h2,y',h3,h4⟩:=hc
   cases h4
   obtain ⟨ad,w',ρ',rfl,g1,g2,g3,g4⟩:=Fu (P:=P) r h1 (aE h2 hs) (aE h3 hs) hz
   simp only [execOp,ho]
   refine ⟨.skip,undef,w',?_,.inr ⟨rfl,rfl⟩,ρ',g3,g4,.und⟩
   have:(Instr.storeAt t (a.eval x) (a.eval y)).run P w=.ok () w':=by rw [g1]; exact g2
   rw [Sem.run_bind,this]
   rfl
  case call c =>
   unfold EO at hc
   split at hc
   ·rename_i b hb
    have run:∀ (args:Array Value),args=c.args.map a.eval→(execOp a.eval o).run P w=(builtin b c.argTypes o.type (c.args.map fun | .const _=>true | _=>false) args).run P w:=by
     intro args he
     subst he
     simp only [execOp,ho,resolve,hb,Sem.run_bind,Sem.run_pure,Result.andThen,invoke]
     rfl
    unfold uv at hc
    split at hc
    ·exact absurd (bR (fun _ h=>jh h) hc) hp
    ·exact absurd (bR (fun _ h=>jh h) hc) hp
    ·exact absurd (bR (fun _ h=>jh h) hc) hp
    ·exact absurd (bR (fun _ h=>jh h) hc) hp
    ·unfold Ju at hc
     split at hc
     ·rename_i t u x y e1 e2
      have hargs:c.args.map a.eval=#[a.eval x,a.eval y]:=Array.toList_inj.1 (by simp [e2])
      have hts:c.argTypes=#[t,u]:=Array.toList_inj.1 (by simp [e1])
      split at hc
      ·rename_i hi64
       simp only [EM,Option.bind_eq_some_iff] at hc
       obtain ⟨e,q1,k,q3,b,q4,x',q5,y',q6,zs,hzs,hc⟩:=hc
       split at hc
       ·rename_i hcond
        cases hc
        rw [run _ rfl,hargs,hts]
        exact fin (HY r hdp (iu q1) (JY hi64) q3 q4 hzs hcond.1 hcond.2 (aE q5 hs) (aE q6 hs) hz)
       ·cases hc
      ·simp only [Option.bind_eq_some_iff] at hc
       obtain ⟨e,q1,e',q2,k,q3,b,q4,x',q5,y',q6,hc⟩:=hc
       split at hc
       ·rename_i hcond
        cases hc
        obtain ⟨zs,hzs⟩:=Option.isSome_iff_exists.1 hcond.2.2
        rw [run _ rfl,hargs,hts]
        exact fin (JQ r (iu q1) (iu q2) q3 q4 hzs hcond.1 hcond.2.1 hdp (aE q5 hs) (aE q6 hs) hz)
       ·cases hc
     ·cases hc
    ·unfold EN at hc
     split at hc
     ·rename_i t u x y e1 e2
      simp only [Option.bind_eq_some_iff] at hc
      obtain ⟨e,q1,k,q3,x',q5,y',q6,hc⟩:=hc
      split at hc
      ·rename_i hcond
       cases hc
       have hargs:c.args.map a.eval=#[a.eval x,a.eval y]:=Array.toList_inj.1 (by simp [e2])
       have hts:c.argTypes=#[t,u]:=Array.toList_inj.1 (by simp [e1])
       rw [run _ rfl,hargs,hts]
       obtain ⟨v,w',g1,g2⟩:=JT (P:=P) (u:=u) (ty:=o.type) r (iu q1) q3 hcond (aE q5 hs) (aE q6 hs) hz
       refine ⟨.value v,v,w',?_,.inl rfl,g2⟩
       show (do pure (.value (← Builtin.copy_ #[t,u] o.type #[a.eval x,a.eval y])):Sem Next).run P w=_
       rw [Sem.run_bind,g1]
       rfl
      ·cases hc
     ·cases hc
    ·unfold Av at hc
     split at hc
     ·rename_i t x e1 e2
      simp only [Option.bind_eq_some_iff] at hc
      obtain ⟨e,q1,k,q3,x',q5,zs,hzs,hc⟩:=hc
      split at hc
      ·rename_i hcond
       cases hc
       have hargs:c.args.map a.eval=#[a.eval x]:=Array.toList_inj.1 (by simp [e2])
       have hts:c.argTypes=#[t]:=Array.toList_inj.1 (by simp [e1])
       rw [run _ rfl,hargs,hts]
       exact fin (JW (P:=P) (ty:=o.type) r (iu q1) q3 hzs hcond (aE q5 hs) hz)
      ·cases hc
     ·cases hc
    ·cases hc
   ·simp only [Option.bind_eq_some_iff,Option.map_eq_some_iff] at hc
    obtain ⟨_,_,_,_,h9⟩:=hc
    exact absurd h9.symm (hnc _ _)
   ·cases hc
  case makeFunc fn _ _ =>
   cases fn
   ·exact absurd (bR (fun _ h=>jh h) hc) hp
   all_goals cases hc
  all_goals first
   | (cases hc; done)
   | exact absurd (jh hc) hp
   | exact absurd (bR (fun _ h=>jh h) hc) hp
   | exact absurd (bR (fun _ h=>bR (fun _ h=>jh h) h) hc) hp
   | exact absurd (bR (fun _ h=>bR (fun _ h=>bR (fun _ h=>jh h) h) h) hc) hp
   | exact absurd (bR (fun _ h=>bR (fun _ h=>bR (fun _ h=>bR (fun _ h=>jh h) h) h) h) hc) hp
   | exact absurd (bR (fun _ h=>bR (fun _ h=>bR (fun _ h=>Rs h) h) h) hc) hp
theorem Lh {op:Op} {hint aop:AOp} {call:cT} {md:Mode} (hc:Fl P hint op=some aop) (hnc:∀ f zas,aop ≠ .callC f zas) (r:Rel w X ρ h) (hs:RS w (ao w X h ρ) ρ h s a.tmps) {d:Nat} (hdp:aG d=false) {z:AV} {ks:K}
  (hz:step call md d aop s h=some (z,h',ks)) (o:Oper) (ho:o.op=op) :
  (∃ nx v w',(execOp a.eval o).run P w=.ok nx w'∧(nx=.value v∨(nx=.skip∧v=undef))∧Got w X ρ h w' h' ks z v)∧∀ f zas,aop ≠ .call f zas:=by
 have fin:∀ {m:Sem Value},(∃ v w',m.run P w=.ok v w'∧Got w X ρ h w' h' ks z v)→∃ nx v w',(do pure (.value (← m)):Sem Next).run P w=.ok nx w'∧(nx=.value v∨(nx=.skip∧v=undef))∧Got w X ρ h w' h' ks z v:=by
  intro m hm
  obtain ⟨v,w',h1,h2⟩:=hm
  exact ⟨_,v,w',by rw [Sem.run_bind,h1]; rfl,.inl rfl,h2⟩
 unfold Fl at hc
 split at hc
 ·rename_i t x lo hi
  simp only [Option.bind_eq_some_iff] at hc
  obtain ⟨e,q1,k,q2,x',q3,lo',q4,hi',q5,hc⟩:=hc
  split at hc
  ·rename_i h0
   cases hc
   refine ⟨?_,fun f zas h=>by cases h⟩
   simp only [execOp,ho]
   obtain ⟨v,g1,g2⟩:=HW (P:=P) r (iu q1) q2 h0 (aE q3 hs) (jx q4 hs) (jx q5 hs) hz
   exact fin ⟨v,w,g1,g2⟩
  ·cases hc
 ·split at hc
  ·simp only [Option.bind_eq_some_iff,Option.map_eq_some_iff] at hc
   obtain ⟨f,_,l,_,hc⟩:=hc
   exact absurd hc.symm (hnc _ _)
  ·cases hc
 ·rename_i t x
  simp only [Option.bind_eq_some_iff] at hc
  obtain ⟨g,q1,x',q2,hc⟩:=hc
  split at hc
  ·cases hc
  ·rename_i hg
   cases hc
   refine ⟨?_,fun f zas h=>by cases h⟩
   obtain ⟨ad,v,g1,g2,g3⟩:=JV (P:=P) r (by simpa [Bool.not_eq_true] using (by cases g with | true=>exact absurd rfl hg | false=>exact q1:kD P t=some false)) hdp (aE q2 hs) hz
   simp only [execOp,ho]
   exact fin ⟨v,w,by rw [g1]; exact g2,g3⟩
 ·cases hc
end
structure Inv where
 p:World→(Nat→Prop)→Prop
 stab:∀ {w w':World} {X:Nat→Prop},p w X→(∀ b,X b→w'.heap[b]?=w.heap[b]?)→p w' X
 more:∀ {w:World} {X X':Nat→Prop},p w X→(∀ b,X b→X' b)→p w X'
structure Far (nm:Bool) (w:World) (ρ:aT) (h:aa) (w':World) (ρ':aT) (h':aa):Prop where
 os:w'.os=w.os
 tape:w'.tape=w.tape
 output:w'.output=w.output
 size:w.heap.size≤w'.heap.size
 old:∀ b,b < w.heap.size→¬ kl h ρ b→w'.heap[b]?=w.heap[b]?
 fresh:∀ b,kl h' ρ' b→kl h ρ b∨w.heap.size≤b
 stay:∀ id,aG id=true→h' id ≠ .dead→h id ≠ .dead∧ρ' id none=ρ id none
 keep:nm=true→∀ id p,aG id=true→h' id ≠ .dead→bg h id (some p)→bg h' id (some p)∧ρ' id (some p)=ρ id (some p)
theorem Nf {nm:Bool} {ks:K} (h:jH nm ks=true) (hn:nm=true) {id:Nat} (hp:aG id=true) (s:Option Nat):dT ks id s=false:=by
 subst hn
 simp only [jH,Bool.not_true,Bool.false_or,List.all_eq_true,Bool.not_eq_true'] at h
 simp only [dT,List.any_eq_false,Bool.and_eq_true,beq_iff_eq,not_and]
 intro p hm e
 subst e
 rw [h p hm] at hp
 cases hp
theorem Evo.far {nm:Bool} {w w':World} {ρ ρ':aT} {h h':aa} {ks:K} (e:Evo w ρ h w' ρ' h' ks) (hn:jH nm ks=true):Far nm w ρ h w' ρ' h' :=
 ⟨e.os,e.tape,e.output,e.size,e.old,e.fresh,e.stay,fun h1 id p hp _ h2=>e.keep id (some p) h2 (Nf hn h1 hp _)⟩
theorem iJ (nm:Bool):jH nm []=true:=by cases nm <;> rfl
theorem Far.refl (nm:Bool) (w:World) (ρ:aT) (h:aa):Far nm w ρ h w ρ h:=(Evo.refl w ρ h).far (iJ nm)
theorem Far.trans {nm:Bool} {w w' w'':World} {ρ ρ' ρ'':aT} {h h' h'':aa} (a:Far nm w ρ h w' ρ' h') (b:Far nm w' ρ' h' w'' ρ'' h''):Far nm w ρ h w'' ρ'' h'' :=
 ⟨b.os.trans a.os,b.tape.trans a.tape,b.output.trans a.output,Nat.le_trans a.size b.size,
  fun x hx ho=>(b.old x (Nat.lt_of_lt_of_le hx a.size) (fun o=>by rcases a.fresh x o with o | o; exact ho o; omega)).trans (a.old x hx ho),
  fun x o=>by
   rcases b.fresh x o with o | o
   ·exact a.fresh x o
   ·exact .inr (Nat.le_trans a.size o),
  fun id hp hd=>by
   obtain ⟨h1,h2⟩:=b.stay id hp hd
   obtain ⟨h3,h4⟩:=a.stay id hp h1
   exact ⟨h3,h2.trans h4⟩,
  fun hn id p hp hd h1=>by
   obtain ⟨h2,h3⟩:=a.keep hn id p hp (b.stay id hp hd).1 h1
   obtain ⟨h4,h5⟩:=b.keep hn id p hp hd h2
   exact ⟨h4,h5.trans h3⟩⟩
theorem Far.inv {I:Inv} {nm:Bool} {w w':World} {X:Nat→Prop} {ρ ρ':aT} {h h':aa} (f:Far nm w ρ h w' ρ' h') (r:Rel w X ρ h) (hi:I.p w X):I.p w' X :=
 I.stab hi fun b hb=>f.old b (r.xl b hb) fun ⟨id,sub,hl,e⟩=>r.nx id sub hl (e ▸ hb)
theorem Evo.inv {I:Inv} {w w':World} {X:Nat→Prop} {ρ ρ':aT} {h h':aa} {ks:K} (f:Evo w ρ h w' ρ' h' ks) (r:Rel w X ρ h) (hi:I.p w X):I.p w' X:=(f.far (nm:=false) rfl).inv r hi
def Enters (P:Program) (f:FuncId) (vals:Array Value) (w:World) (R:Value→World→Prop):Prop :=
 match (callFunc f vals).run P w with
 | .ok (.value v) w'=>R v w'
 | .ok (.enter g args) w'=>Calls P g args w' fun e w''=>match e with | .returned v=>R v w'' | _=>False
 | .ok (.row row args) w'=>Rows P row args w' R
 | _=>False
theorem Enters.mono {P:Program} {f:FuncId} {vals:Array Value} {w:World} {R R':Value→World→Prop} (h:Enters P f vals w R) (hr:∀ v w',R v w'→R' v w'):Enters P f vals w R':=by
 unfold Enters at *
 split at h
 ·exact hr _ _ h
 ·exact Calls.mono h fun e w' he=>by cases e <;> first | exact hr _ _ he | exact he
 ·exact Rows.mono h hr
 ·exact h.elim
def go (P:Program) (I:Inv) (call:cT) (md:Mode):Prop :=
 ∀ {w:World} {X:Nat→Prop} {ρ:aT} {h h':aa} {d:Nat} {f z:AV} {zas:List AV} {ks:K} {uf:Value} {us:Array Value},d < 1000→I.p w X→Rel w X ρ h→RV w (ao w X h ρ) ρ h f uf→us.size=zas.length →
  (∀ (i:Nat) (c:AV) (u:Value),zas[i]?=some c→us[i]?=some u→RV w (ao w X h ρ) ρ h c u)→ai call md h d zas f=some (z,h',ks) →
  ∃ g first cap,uf=.func (.func g) first cap∧Enters P g (first++us++cap) w fun v w'=>Got w X ρ h w' h' ks z v
section
variable {P:Program} {w:World} {X:Nat→Prop} {ρ:aT} {h:aa} {s:af} {a:Act} {call:cT} {md:Mode} {N:Nat} {ops:Array Oper} {Q:Exit→Act→World→Prop} {I:Inv}
structure Ok (I:Inv) (N:Nat) (w:World) (X:Nat→Prop) (ρ:aT) (h:aa) (s:af) (a:Act):Prop where
 rel:Rel w X ρ h
 rs:RS w (ao w X h ρ) ρ h s a.tmps
 size:N≤a.tmps.size
 defers:a.defers=[]
 inv:I.p w X
theorem Ok.put {w':World} {ρ':aT} {h':aa} {ks:K} {z:AV} {v:Value} (ok:Ok I N w X ρ h s a) (r:Rel w' X ρ' h') (e:Evo w ρ h w' ρ' h' ks) (hv:RV w' (ao w' X h' ρ') ρ' h' z v) {d:Option Nat} (hd:d.getD 0 < N) :
  Ok I N w' X ρ' h' (cr (eG ks s) d z) (a.put d v):=by
 have h1:=e.rs (X:=X) ok.rs
 cases d with
 | none=>exact ⟨r,h1,ok.size,ok.defers,e.inv ok.rel ok.inv⟩
 | some d=>exact ⟨r,h1.upd (Nat.lt_of_lt_of_le hd ok.size) hv,by simpa [Act.put] using ok.size,ok.defers,e.inv ok.rel ok.inv⟩
theorem Li {d:Nat} (hd:d < 1000):aG d=false:=by simp only [aG,decide_eq_false_iff_not]; omega
theorem Is (hcall:go P I call md) (hN:N≤1000) {o:Oper} {c:Call} {fo:Operand} {f:Opd} {zas:List Opd} (ho:o.op=.call c) (hfo:c.callee=.value fo) (h1:bq fo=some f) (h2:jL c.args.toList=some zas)
  (hd:o.dst.getD 0 < N) (ok:Ok I N w X ρ h s a) {z:AV} {h':aa} {ks:K} (hz:ai call md h (o.dst.getD 0) (zas.map (ev s)) (ev s f)=some (z,h',ks))
  {K':Act→World→Prop} (fin:∀ v w',Got w X ρ h w' h' ks z v→K' (a.put o.dst v) w'):o.wp P a w K' Q:=by
 obtain ⟨l1,l2⟩:=nG ok.rs h2
 obtain ⟨g,first,cap,e1,e2⟩:=hcall (us:=c.args.map a.eval) (Nat.lt_of_lt_of_le hd hN) ok.inv ok.rel (aE h1 ok.rs) (by simp [l1]) (fun i c' u hc' hu=>by
  simp only [List.getElem?_map,Option.map_eq_some_iff] at hc'
  obtain ⟨p,hp,rfl⟩:=hc'
  simp only [Array.getElem?_map,Option.map_eq_some_iff] at hu
  obtain ⟨q,hq,rfl⟩:=hu
  exact l2 i q p (by simpa using hq) hp) hz
 have hrun:(execOp a.eval o).run P w=(callFunc g (first++c.args.map a.eval++cap)).run P w:=by
  simp only [execOp,ho,resolve,hfo,e1,Deferred.ofValue,invoke,Sem.run_bind,Sem.run_pure,Result.andThen]
 unfold Oper.wp
 rw [hrun]
 unfold Enters at e2
 generalize (callFunc g (first++c.args.map a.eval++cap)).run P w=res at e2
 cases res with
 | ok n w' =>
  cases n <;> simp only at e2
  case value v=>exact fin _ _ e2
  case enter g' args' =>
   show Calls P g' args' w' _
   exact Calls.mono e2 fun e w'' he=>by cases e <;> first | exact fin _ _ he | exact he.elim
  case row row args'=>exact Rows.mono e2 fin
 | halt x w'=>cases e2
theorem JZ {d:Nat} {r z:R3} {w':World} {v:Value} (hg:Got w X ρ h w' r.2.1 r.2.2 r.1 v) (hz:nZ d r=some z):Got w X ρ h w' z.2.1 z.2.2 z.1 v:=by
 obtain ⟨x,h1,k1⟩:=r
 unfold nZ at hz
 split at hz
 ·rename_i id k lo n he
  split at hz
  ·simp only [Option.map_eq_some_iff] at hz
   obtain ⟨q,e1,rfl⟩:=hz
   obtain ⟨y,h2,k2⟩:=q
   obtain ⟨ρ',g1,g2,g3⟩:=hg
   simp only at he
   subst he
   obtain ⟨a,cap,rfl,_⟩:=g3.rsl_inv
   obtain ⟨f1,f2,f3⟩:=qF g1 g3 (fun _ hb=>hb) rfl e1
   exact ⟨ρ',f1,g2.trans f2,.dat f3.1⟩
  ·cases hz
 ·cases hz
  exact hg
theorem Ub (hcall:go P I call md) (hN:N≤1000) {o:Oper} {hint aop:AOp} (hc:M7 P hint o.op=some aop) (hd:o.dst.getD 0 < N) (ok:Ok I N w X ρ h s a) {z:AV} {h':aa} {ks:K} (hz:step call md (o.dst.getD 0) aop s h=some (z,h',ks)) (hnm:jH md.nm ks=true)
  {K':Act→World→Prop} (hK:∀ a' w' ρ',Ok I N w' X ρ' h' (cr (eG ks s) o.dst z) a'→Far md.nm w ρ h w' ρ' h'→K' a' w'):o.wp P a w K' Q:=by
 have hdp:aG (o.dst.getD 0)=false:=Li (Nat.lt_of_lt_of_le hd hN)
 unfold M7 at hc
 cases halt:Fl P hint o.op with
 | some a0 =>
  rw [halt] at hc
  obtain rfl:=Option.some.inj hc
  by_cases hcc:∃ f zas,a0=.callC f zas
  ·obtain ⟨f,zas,rfl⟩:=hcc
   have hop:∃ c fo,o.op=.call c∧c.callee=.value fo∧bq fo=some f∧jL c.args.toList=some zas:=by
    unfold Fl at halt
    split at halt
    ·simp only [Option.bind_eq_some_iff] at halt
     obtain ⟨_,_,_,_,_,_,_,_,_,_,halt⟩:=halt
     split at halt <;> cases halt
    ·rename_i c hop
     split at halt
     ·rename_i fo hfo
      simp only [Option.bind_eq_some_iff,Option.map_eq_some_iff] at halt
      obtain ⟨f',h1,l,h2,h3⟩:=halt
      cases h3
      exact ⟨c,fo,hop,hfo,h1,h2⟩
     ·cases halt
    ·simp only [Option.bind_eq_some_iff] at halt
     obtain ⟨_,_,_,_,halt⟩:=halt
     split at halt <;> cases halt
    ·cases halt
   obtain ⟨c,fo,ho,hfo,h1,h2⟩:=hop
   simp only [step,Option.bind_eq_some_iff] at hz
   obtain ⟨r,e1,e2⟩:=hz
   exact Is hcall hN ho hfo h1 h2 hd ok (z:=r.1) (h':=r.2.1) (ks:=r.2.2) e1 fun v w' hg=>by
    obtain ⟨ρ',g1,g2,g3⟩:=JZ hg e2
    exact hK _ _ ρ' (ok.put g1 g2 g3 hd) (g2.far hnm)
  obtain ⟨⟨nx,v,w',g1,g2,ρ',g3,g4,g5⟩,_⟩:=Lh halt (fun f zas e=>hcc ⟨f,zas,e⟩) ok.rel ok.rs hdp hz o rfl
  unfold Oper.wp
  rw [g1]
  rcases g2 with rfl | ⟨rfl,rfl⟩
  ·exact hK _ _ ρ' (ok.put g3 g4 g5 hd) (g4.far hnm)
  ·exact hK _ _ ρ' (ok.put g3 g4 g5 hd) (g4.far hnm)
 | none =>
 rw [halt] at hc
 simp only at hc
 replace hc:wu P o.op=some aop:=by
  simp only [We,Option.some.injEq] at hc
  cases h0:wu P o.op with
  | none=>rw [h0] at hc; simp only [Option.getD_none] at hc; subst hc; cases hz
  | some q=>rw [h0] at hc; simp only [Option.getD_some] at hc; rw [hc]
 by_cases hcl:∃ f zas,aop=.call f zas
 ·obtain ⟨f,zas,rfl⟩:=hcl
  have hop:∃ c fo,o.op=.call c∧c.callee=.value fo∧bq fo=some f∧jL c.args.toList=some zas:=by
   cases ho:o.op <;> rw [ho] at hc <;> simp only [wu] at hc
   case call c =>
    unfold EO at hc
    split at hc
    ·exfalso
     unfold uv at hc
     split at hc
     ·obtain ⟨p,hp⟩:=bR (fun _ h=>jh h) hc; cases hp
     ·obtain ⟨p,hp⟩:=bR (fun _ h=>jh h) hc; cases hp
     ·obtain ⟨p,hp⟩:=bR (fun _ h=>jh h) hc; cases hp
     ·obtain ⟨p,hp⟩:=bR (fun _ h=>jh h) hc; cases hp
     ·unfold Ju at hc
      split at hc
      ·split at hc
       ·simp only [EM,Option.bind_eq_some_iff] at hc
        obtain ⟨_,_,_,_,_,_,_,_,_,_,_,_,hc⟩:=hc
        split at hc <;> cases hc
       ·simp only [Option.bind_eq_some_iff] at hc
        obtain ⟨_,_,_,_,_,_,_,_,_,_,_,_,hc⟩:=hc
        split at hc <;> cases hc
      ·cases hc
     ·unfold EN at hc
      split at hc
      ·simp only [Option.bind_eq_some_iff] at hc
       obtain ⟨_,_,_,_,_,_,_,_,hc⟩:=hc
       split at hc <;> cases hc
      ·cases hc
     ·unfold Av at hc
      split at hc
      ·simp only [Option.bind_eq_some_iff] at hc
       obtain ⟨_,_,_,_,_,_,_,_,hc⟩:=hc
       split at hc <;> cases hc
      ·cases hc
     ·cases hc
    ·rename_i fo hfo
     simp only [Option.bind_eq_some_iff,Option.map_eq_some_iff] at hc
     obtain ⟨f',h1,l,h2,h3⟩:=hc
     cases h3
     exact ⟨c,fo,rfl,hfo,h1,h2⟩
    ·cases hc
   case makeFunc fn _ _ =>
    cases fn
    ·obtain ⟨p,hp⟩:=bR (fun _ h=>jh h) hc; cases hp
    all_goals cases hc
   case alloc=>simp [Option.map_eq_some_iff] at hc
   case box=>simp [Option.bind_eq_some_iff] at hc
   case buildSlice =>
    simp only [xI,Option.bind_eq_some_iff] at hc
    obtain ⟨_,_,_,_,hc⟩:=hc
    split at hc
    ·simp [Option.bind_eq_some_iff] at hc
    ·cases hc
   case makeSlice =>
    simp only [EL,Option.bind_eq_some_iff] at hc
    obtain ⟨_,_,_,_,_,_,_,_,_,_,hc⟩:=hc
    split at hc
    ·simp at hc
    ·cases hc
   case load =>
    simp only [Option.bind_eq_some_iff] at hc
    obtain ⟨_,_,_,_,_,_,hc⟩:=hc
    split at hc <;> cases hc
   case store=>simp [Option.bind_eq_some_iff] at hc
   all_goals first
    | (cases hc; done)
    | (obtain ⟨p,hp⟩:=jh hc; cases hp; done)
    | (obtain ⟨p,hp⟩:=bR (fun _ h=>jh h) hc; cases hp; done)
    | (obtain ⟨p,hp⟩:=bR (fun _ h=>bR (fun _ h=>jh h) h) hc; cases hp; done)
    | (obtain ⟨p,hp⟩:=bR (fun _ h=>bR (fun _ h=>bR (fun _ h=>jh h) h) h) hc; cases hp; done)
    | (obtain ⟨p,hp⟩:=bR (fun _ h=>bR (fun _ h=>bR (fun _ h=>bR (fun _ h=>jh h) h) h) h) hc; cases hp; done)
    | (obtain ⟨p,hp⟩:=bR (fun _ h=>bR (fun _ h=>bR (fun _ h=>Rs h) h) h) hc; cases hp; done)
  obtain ⟨c,fo,ho,hfo,h1,h2⟩:=hop
  exact Is hcall hN ho hfo h1 h2 hd ok hz fun v w' ⟨ρ',g1,g2,g3⟩=>hK _ _ ρ' (ok.put g1 g2 g3 hd) (g2.far hnm)
 ·obtain ⟨nx,v,w',g1,g2,ρ',g3,g4,g5⟩:=Nd hc (fun f zas e=>hcl ⟨f,zas,e⟩) ok.rel ok.rs hdp hz o rfl
  unfold Oper.wp
  rw [g1]
  rcases g2 with rfl | ⟨rfl,rfl⟩
  ·exact hK _ _ ρ' (ok.put g3 g4 g5 hd) (g4.far hnm)
  ·exact hK _ _ ρ' (ok.put g3 g4 g5 hd) (g4.far hnm)
end
section
variable {P:Program} {w w':World} {X:Nat→Prop} {ρ ρ':aT} {h h':aa} {s:af} {a:Act} {call:cT} {md:Mode} {N:Nat} {ops:Array Oper} {Q:Exit→Act→World→Prop} {A A':Nat→Prop} {I:Inv}
theorem Ok.undef (ok:Ok I N w X ρ h s a) {d:Option Nat} (hd:d.getD 0 < N):Ok I N w X ρ h (cr s d .und) (a.put d undef) :=
 ok.put (ks:=[]) ok.rel (.refl _ _ _) .und hd
theorem Px {u:Value} (hv:RV w A ρ h .und u):u=undef:=by
 cases hv with
 | und=>rfl
 | dat hd=>cases hd
theorem Ng {nm:Bool} {d:Option Nat} {r:Option R3} {t:St} (hz:bK nm s d r=some t):∃ z h' ks,r=some (z,h',ks)∧jH nm ks=true∧t=⟨cr (eG ks s) d z,h'⟩:=by
 unfold bK at hz
 split at hz
 ·split at hz
  ·cases hz; exact ⟨_,_,_,rfl,by assumption,rfl⟩
  ·cases hz
 ·cases hz
theorem uF (hcall:go P I call md) (hN:N≤1000) {i:Nat} {o:Oper} {co:COp} {hint:AOp} (hget:ops[i]?=some o) (hc:EP P N ops hint o=some co) (ok:Ok I N w X ρ h s a) {t:St} (hz:fW call md co s h=some t)
  {K':Act→World→Prop} (hK:∀ a' w' ρ',Ok I N w' X ρ' t.h t.s a'→Far md.nm w ρ h w' ρ' t.h→K' a' w'):wpOp P ops Q i K' a w:=by
 simp only [EP,Option.bind_eq_some_iff] at hc
 obtain ⟨g,e1,op,e2,hc⟩:=hc
 split at hc
 ·rename_i hcond
  cases hc
  simp only [Bool.and_eq_true,decide_eq_true_eq] at hcond
  have hd:=hcond.2
  have run:bK md.nm s o.dst (step call md (o.dst.getD 0) op s h)=some t→o.wp P a w K' Q:=by
   intro hf
   obtain ⟨z,h',ks,f1,f2,rfl⟩:=Ng hf
   exact Ub hcall hN e2 hd ok f1 f2 hK
  have skip:some (⟨cr s o.dst .und,h⟩:St)=some t→K' (a.put o.dst undef) w:=by
   intro hf
   cases hf
   exact hK _ _ ρ (ok.undef hd) (.refl _ _ _ _)
  unfold wpOp
  rw [hget]
  cases hg:o.guard with
  | none =>
   rw [hg] at e1
   simp only [Fk,Option.some.injEq] at e1
   subst e1
   simp only [fW] at hz
   simp only [Region.wanted,hg,if_true]
   exact .inl (run hz)
  | some jb =>
   obtain ⟨j,b⟩:=jb
   rw [hg] at e1
   simp only [Fk,Option.map_eq_some_iff] at e1
   obtain ⟨d,e3,rfl⟩:=e1
   simp only [fW,fv] at hz
   have hv:=ok.rs d
   simp only [Region.wanted,hg,yielded,e3,Option.bind_some]
   have cell:∀ v,a.tmps.getD d Go.undef=v→v ≠ Go.undef→a.tmps[d]?=some v:=by
    intro v hv hne
    rw [Array.getD_eq_getD_getElem?] at hv
    cases hq:a.tmps[d]? with
    | none=>rw [hq] at hv; exact absurd hv.symm hne
    | some v'=>rw [hq] at hv; simp at hv; rw [hv]
   split at hz
   ·rename_i b' hb'
    rw [hb'] at hv
    rw [cell _ hv.v_inv.1 (by simp [Go.undef])]
    split at hz
    ·rename_i hbb
     subst hbb
     simp only [beq_self_eq_true,if_true]
     exact .inl (run hz)
    ·rename_i hbb
     simp only [beq_iff_eq,Option.some.injEq,hbb,if_false]
     exact skip hz
   ·rename_i hb'
    rw [hb'] at hv
    have hu:=Px hv
    rw [Array.getD_eq_getD_getElem?] at hu
    cases hq:a.tmps[d]? with
    | none=>simpa using skip hz
    | some v'=>rw [hq] at hu; simp at hu; subst hu; simpa [Go.undef] using skip hz
   ·cases hz
 ·cases hc
theorem CX (hcall:go P I call md) (hN:N≤1000):∀ (rest:List Oper) (cl:List COp) (i:Nat) {hs:List COp} {w:World} {ρ:aT} {h:aa} {s:af} {a:Act} {t:St},(∀ (j:Nat) (o:Oper),rest[j]?=some o→ops[i+j]?=some o)→ko P N ops hs rest=some cl→Ok I N w X ρ h s a →
  am call md cl s h=some t→(∀ a' w' ρ',Ok I N w' X ρ' t.h t.s a'→Far md.nm w ρ h w' ρ' t.h→Q .normal a' w')→wpOps P ops Q (List.range' i rest.length) a w
 | [],cl,i,hs,w,ρ,h,s,a,t,_,hc,ok,hz,hQ=>by
  simp only [ko,Option.some.injEq] at hc
  subst hc
  cases hz
  exact hQ _ _ ρ ok (.refl _ _ _ _)
 | o::rest,cl,i,hs,w,ρ,h,s,a,t,hg,hc,ok,hz,hQ=>by
  simp only [ko,Option.bind_eq_some_iff] at hc
  obtain ⟨co,e1,q,e2,e3⟩:=hc
  cases e3
  simp only [am,aK] at hz
  rw [List.length_cons,List.range'_succ,wpOps_cons]
  split at hz
  ·cases hz
  ·rename_i t1 ht1
   exact uF hcall hN (by simpa using hg 0 o rfl) e1 ok ht1 fun a' w' ρ' ok' far =>
    CX hcall hN rest q (i+1) (fun j o' hj=>by rw [show i+1+j=i+(j+1) from by omega]; exact hg (j+1) o' (by simpa using hj)) e2 ok' hz fun a'' w'' ρ'' ok'' far'=>hQ _ _ ρ'' ok'' (far.trans far')
theorem xM {α:Type} (d:α) (f:Nat→α):∀ (l:List Nat) (i:Nat),mk d f l i=if i ∈ l then f i else d
 | [],i=>by simp [mk]
 | j::l,i=>by
  simp only [mk,upd,xM d f l i,List.mem_cons]
  by_cases e:i=j
  ·subst e; simp
  ·simp [e]
theorem RS.some (hs:RS w A ρ h s a.tmps) {s':af} (he:∀ i,s' i=s i∨s' i=.any):RS w A ρ h s' a.tmps:=fun i=>by
 rcases he i with e | e
 ·rw [e]; exact hs i
 ·rw [e]; exact .anyv _
theorem Ok.some (ok:Ok I N w X ρ h s a) {s':af} (he:∀ i,s' i=s i∨s' i=.any):Ok I N w X ρ h s' a:=⟨ok.rel,ok.rs.some he,ok.size,ok.defers,ok.inv⟩
theorem RV.knownL {l:List Nat} {c:AV} {u:Value} (hv:RV w A ρ h c u) (hA:∀ b,A b→A' b∧w'.heap[b]?=w.heap[b]?) (hk:∀ id sub,bg h id sub→l.contains id=true→bg h' id sub∧ρ' id sub=ρ id sub) (hm:knownL l c=true):RV w' A' ρ' h' c u:=by
 cases hv with
 | anyv u=>exact .anyv u
 | und=>exact .und
 | dat hd=>exact .dat (hd.mono hA)
 | ref id sub k i j hp =>
  obtain ⟨h1,h2⟩:=hk id sub hp hm
  rw [← h2]; exact .ref id sub k i j h1
 | rsl id sub k lo n cap a hp hn hb ha =>
  obtain ⟨h1,h2⟩:=hk id sub hp hm
  exact .rsl id sub k lo n cap a h1 hn (by rw [h2]; exact hb) (by rw [h2]; exact ha)
 | rsc id k lo n cap a hp hn hb ha=>simp [Ab.knownL] at hm
 | ipt cs ad vals hA' hs hv hl hr =>
  exact .ipt cs ad vals (hA _ hA').1 hs (fun j c hc=>by rw [ip (w:=w) (w':=w') (by rw [im]; exact (hA _ hA').2)]; exact hv j c hc) hl (fun j c hc=>(hr j c hc).mono hA)
 | agg cs us hs h1 hr=>simp [Ab.knownL] at hm
 | tup vs us hs hr=>simp [Ab.knownL] at hm
 | fn f x y us ts hs ht hx hy =>
  simp [Ab.knownL] at hm
  obtain ⟨rfl,rfl⟩:=hm
  exact .fn f [] [] us ts hs ht (fun i c u hc=>by simp at hc) (fun i c u hc=>by simp at hc)
theorem RV.knownA {l:List Nat} {c:AV} {u:Value} (hv:RV w A ρ h c u) (hA:∀ b,A b→A' b∧w'.heap[b]?=w.heap[b]?) (hk:∀ id sub,bg h id sub→l.contains id=true→bg h' id sub∧ρ' id sub=ρ id sub) (hm:knownA l c=true):RV w' A' ρ' h' c u:=by
 cases c with
 | agg cs =>
  simp only [Ab.knownA,List.all_eq_true] at hm
  cases hv with
  | dat hd=>exact .dat (hd.mono hA)
  | agg _ us hs h1 hr=>exact .agg cs us hs h1 fun i c u hc hu=>(hr i c u hc hu).knownL hA hk (hm c (List.mem_of_getElem? hc))
 | fn f x y =>
  simp only [Ab.knownA,Bool.and_eq_true,List.all_eq_true] at hm
  cases hv with
  | dat hd=>exact .dat (hd.mono hA)
  | fn _ _ _ us ts hs ht hx hy=>exact .fn f x y us ts hs ht (fun i c u hc hu=>(hx i c u hc hu).knownL hA hk (hm.1 c (List.mem_of_getElem? hc))) (fun i c u hc hu=>(hy i c u hc hu).knownL hA hk (hm.2 c (List.mem_of_getElem? hc)))
 | _=>exact hv.knownL hA hk hm
theorem mR {l:List Nat} {c:AV} (hc:aO l c=true):knownL l c=true:=by
 cases c <;> simp [aO,knownL] at hc ⊢ <;> first | exact hc.1 | exact hc
theorem DB {l:List Nat} {c:AV} (hc:aJ l c=true):knownA l c=true:=by
 cases c with
 | agg cs =>
  simp only [aJ,knownA,List.all_eq_true] at hc ⊢
  exact fun c h=>mR (hc c h)
 | fn f x y =>
  simp only [aJ,knownA,Bool.and_eq_true,List.all_eq_true] at hc ⊢
  exact ⟨fun c h=>mR (hc.1 c h),fun c h=>mR (hc.2 c h)⟩
 | _ =>
  simp only [aJ,knownA] at hc ⊢
  exact mR hc
theorem Fv (nm:Bool) (r:Rel w X ρ h) {hs:List Nat} (hcl:∀ id,id ∈ hs→aA hs (h id)=true):Rel w X ρ (mk .dead h hs)∧Far nm w ρ h w ρ (mk .dead h hs) ∧
  ∀ {c:AV} {u:Value},RV w (ao w X h ρ) ρ h c u→knownA hs c=true→RV w (ao w X (mk .dead h hs) ρ) ρ (mk .dead h hs) c u:=by
 have at_:∀ id,id ∈ hs→mk .dead h hs id=h id:=fun id hi=>by rw [xM,if_pos hi]
 have not_:∀ id,id ∉ hs→mk .dead h hs id=.dead:=fun id hi=>by rw [xM,if_neg hi]
 have hl:∀ id sub,live (mk .dead h hs) id sub→id ∈ hs∧live h id sub:=by
  intro id sub h1
  by_cases hi:id ∈ hs
  ·exact ⟨hi,(bw (at_ id hi)).1 h1⟩
  ·exfalso
   have:=not_ id hi
   cases sub <;> simp [live,this] at h1
 have hA:∀ b,ao w X h ρ b→ao w X (mk .dead h hs) ρ b∧w.heap[b]?=w.heap[b]?:=fun b hb=>⟨⟨hb.1,hb.2.1,fun ⟨id,sub,h1,h2⟩=>hb.2.2 ⟨id,sub,(hl id sub h1).2,h2⟩⟩,rfl⟩
 have hk:∀ id sub,bg h id sub→hs.contains id=true→bg (mk .dead h hs) id sub∧ρ id sub=ρ id sub:=fun id sub hp hi=>⟨(cA (at_ id (by simpa using hi))).2 hp,rfl⟩
 have far:Far nm w ρ h w ρ (mk .dead h hs):=by
  refine ⟨rfl,rfl,rfl,Nat.le_refl _,fun _ _ _=>rfl,fun b ⟨id,sub,h1,h2⟩=>.inl ⟨id,sub,(hl id sub h1).2,h2⟩,fun id _ hd=>⟨fun e=>?_,rfl⟩,fun _ id p _ hd hp=>⟨?_,rfl⟩⟩
  ·by_cases hi:id ∈ hs
   ·rw [at_ id hi] at hd; exact hd e
   ·exact hd (not_ id hi)
  ·by_cases hi:id ∈ hs
   ·exact (cA (at_ id hi)).2 hp
   ·exact absurd (not_ id hi) hd
 refine ⟨⟨fun a b c d h1 h2=>r.inj a b c d (hl a b h1).2 (hl c d h2).2,fun a b h1=>r.nx a b (hl a b h1).2,fun id=>?_,r.xl⟩,far,fun hv hc=>hv.knownA hA hk hc⟩
 by_cases hi:id ∈ hs
 ·have ho:=r.ob id
  have hc:=hcl id hi
  rw [at_ id hi]
  cases e:h id with
  | dead=>trivial
  | bx cs =>
   rw [e] at ho hc
   obtain ⟨us,t,h1,h2,h3,h4⟩:=ho
   refine ⟨us,t,h1,h2,h3,fun p c hcp=>?_⟩
   obtain ⟨u,h5,h6⟩:=h4 p c hcp
   refine ⟨u,h5,?_⟩
   simp only [aA,List.all_eq_true] at hc
   have hcc:=hc c (List.mem_of_getElem? hcp)
   cases hO:aN c with
   | true =>
    cases c <;> simp [aN] at hO
    obtain ⟨a,cap,us',t',g1,g2,g3,g4,g5,g6,g7⟩:=h6
    exact ⟨a,cap,us',t',g1,g2,g3,g4,g5,g6,g7.mono hA⟩
   | false =>
    rw [lr hO] at h6 ⊢
    have hca:aJ hs c=true:=by simpa [eH,hO] using hcc
    refine ⟨h6.1.knownA hA hk (DB hca),h6.2.1,?_⟩
    have h7:=h6.2.2
    cases c <;> try exact h7
    rename_i id' sub' _ _ _
    cases sub' with
    | none =>
     have hm:id' ∈ hs:=by simpa [aJ,aO] using hca
     simp only [gI] at h7 ⊢
     rw [at_ id' hm]; exact h7
    | some p=>exact h7
  | ar k rows =>
   rw [e] at ho
   obtain ⟨us,t,h1,h2,h3,h4⟩:=ho
   exact ⟨us,t,h1,h2,h3,h4.mono hA⟩
  | fz k rows =>
   rw [e] at ho
   obtain ⟨h0,us,t,fr,h1,h2,h3,h4⟩:=ho
   exact ⟨(hA _ h0).1,us,t,fr,h1,h2,h3,h4.mono hA⟩
 ·rw [not_ id hi]
  trivial
end
def OQ:Ex→Exit
 | .normal=>.normal
 | .exit id=>.exit id
 | .ret=>.ret
def CY (P:Program) (I:Inv) (call:cT) (md:Mode) (N:Nat):Prop :=
 ∀ {id:Nat} {ops:Array Oper} {hs cl:List COp} {w:World} {X:Nat→Prop} {ρ:aT} {h:aa} {s:af} {a:Act} {t:St} {ps:List (Nat × Nat)} {Q:Exit→Act→World→Prop},ko P N ops hs ops.toList=some cl→Fm ops.toList cl ps=true→Ok I N w X ρ h s a→jJ call md cl ps s h=some t →
  (∀ a' w' ρ',Ok I N w' X ρ' t.h t.s a'→Far md.nm w ρ h w' ρ' t.h→Q .normal a' w')→(Code.region id ops true).wp P Q a w
section
variable {P:Program} {X:Nat→Prop} {call:cT} {md:Mode} {N:Nat} {I:Inv} {nm:Bool}
theorem wC (s:af) (ks:List Nat) (i:Nat):mk .any s ks i=s i∨mk .any s ks i=.any:=by
 rw [xM]
 split
 ·exact .inl rfl
 ·exact .inr rfl
theorem J0 (hs:List Nat) (a:AV):(ez hs a=a∧knownA hs a=true)∨ez hs a=.any:=by
 unfold ez
 split
 ·exact .inl ⟨rfl,by assumption⟩
 ·exact .inr rfl
theorem Lj {w:World} {ρ:aT} {h:aa} {s:af} {a:Act} (ok:Ok I N w X ρ h s a) {ks hs:List Nat} (hcl:(hs.all fun a=>aA hs (h a))=true) :
  Ok I N w X ρ (mk .dead h hs) (mk .any (fun i=>ez hs (s i)) ks) a∧Far nm w ρ h w ρ (mk .dead h hs):=by
 obtain ⟨h1,h2,h3⟩:=Fv nm ok.rel (hs:=hs) (fun id hi=>List.all_eq_true.1 hcl id hi)
 refine ⟨⟨h1,fun i=>?_,ok.size,ok.defers,ok.inv⟩,h2⟩
 rcases wC (fun i=>ez hs (s i)) ks i with e | e
 ·rw [e]
  rcases J0 hs (s i) with ⟨e2,e3⟩ | e2
  ·rw [e2]; exact h3 (ok.rs i) e3
  ·rw [e2]; exact .anyv _
 ·rw [e]; exact .anyv _
def CZ (P:Program) (I:Inv) (nm:Bool) (X:Nat→Prop) (N:Nat) (f:af→aa→Option (Ex × St)) (c:Code):Prop :=
 ∀ {s:af} {h:aa} {e:Ex} {t:St} {w:World} {ρ:aT} {a:Act} {Q:Exit→Act→World→Prop},f s h=some (e,t)→Ok I N w X ρ h s a→(∀ a' w' ρ',Ok I N w' X ρ' t.h t.s a'→Far nm w ρ h w' ρ' t.h→Q (OQ e) a' w')→c.wp P Q a w
theorem AF {body:af→aa→Option (Ex × St)} {c:Code} (hb:CZ P I nm X N body c) {ks hs:List Nat}:∀ (n:Nat) {s:af} {h:aa} {e:Ex} {t:St} {w:World} {ρ:aT} {a:Act} {Q:Exit→Act→World→Prop},
  kC body ks hs n s h=some (e,t)→Ok I N w X ρ h s a→(∀ a' w' ρ',Ok I N w' X ρ' t.h t.s a'→Far nm w ρ h w' ρ' t.h→Q (OQ e) a' w')→Code.rounds P c Q n a w
 | 0,s,h,e,t,w,ρ,a,Q,hz,_,_=>by simp [kC] at hz
 | n+1,s,h,e,t,w,ρ,a,Q,hz,ok,hQ=>by
  simp only [kC] at hz
  split at hz
  ·rename_i hcl
   obtain ⟨ok1,far1⟩:=Lj ok (ks:=ks) hcl
   rw [rounds_succ]
   split at hz
   ·rename_i t1 ht1
    exact hb ht1 ok1 fun a' w' ρ' ok2 far2=>AF hb n hz ok2 fun a'' w'' ρ'' ok3 far3=>hQ _ _ ρ'' ok3 (far1.trans (far2.trans far3))
   ·rename_i r hne
    refine hb hz ok1 fun a' w' ρ' ok2 far2=>?_
    have:=hQ a' w' ρ' ok2 (far1.trans far2)
    cases e with
    | normal=>exact absurd hz (hne t)
    | exit id=>exact this
    | ret=>exact this
  ·cases hz
theorem J1 {i:Nat} {w:World} {ρ:aT} {h:aa} {s:af} {a:Act} {r:af × aa × K} (ok:Ok I N w X ρ h s a) (hz:Js i s h (s i)=some r) (hnm:jH nm r.2.2=true) :
  Ok I N w X ρ r.2.1 r.1 a∧Far nm w ρ h w ρ r.2.1:=by
 have hv:=ok.rs i
 cases hi:s i <;> rw [hi] at hz hv <;> simp only [Js] at hz <;> try (cases hz; done)
 case rsl id sub k lo n =>
  simp only [Option.map_eq_some_iff] at hz
  obtain ⟨q,e1,rfl⟩:=hz
  obtain ⟨x,h',ks⟩:=q
  have h1:(a.tmps.getD i undef).oneCell'=true:=by
   obtain ⟨_,_,e,_⟩:=hv.rsl_inv
   rw [e]; rfl
  obtain ⟨g1,g2,g3,g4⟩:=qF ok.rel hv (fun b hb=>hb) h1 e1
  refine ⟨⟨g1,fun j=>?_,ok.size,ok.defers,g2.inv ok.rel ok.inv⟩,g2.far hnm⟩
  show RV w (ao w X h' ρ) ρ h' (upd (eG ks s) i x j) _
  rw [jc]
  split
  ·rename_i hj; subst hj; exact .dat g3
  ·exact g2.rs ok.rs j
 case ref id sub k j l =>
  cases sub with
  | some p=>cases hz
  | none =>
   simp only at hz
   cases ho:h id <;> rw [ho] at hz <;> simp only at hz <;> try (cases hz; done)
   cases hz
   rename_i cs
   obtain ⟨g1,g2⟩:=ww (ds:=cs.map gG) ok.rel ho (by simp) fun p c hc=>by
    cases hq:aN c with
    | true=>exact .inr ⟨rfl,by simp [hc]⟩
    | false=>exact .inl (by simp [hc,Ir hq])
   exact ⟨⟨g1,g2.rs ok.rs,ok.size,ok.defers,g2.inv ok.rel ok.inv⟩,g2.far hnm⟩
theorem HZ {w:World} {ρ:aT} {h:aa} {s:af} {a:Act} (ok:Ok I N w X ρ h s a) (x:AV):Ok I N w X ρ (ut h x) s a∧Far nm w ρ h w ρ (ut h x):=by
 have id':Ok I N w X ρ h s a∧Far nm w ρ h w ρ h:=⟨ok,.refl _ _ _ _⟩
 unfold ut
 split
 ·rename_i id k' lo n
  split
  ·rename_i k rows e
   obtain ⟨s1,s2⟩:=Lc (m:=lo+n) ok.rel e
   exact ⟨⟨s1,s2.rs ok.rs,ok.size,ok.defers,s2.inv ok.rel ok.inv⟩,s2.far (iJ _)⟩
  ·exact id'
 ·exact id'
theorem yq {g:Nat} {w:World} {ρ:aT} {h:aa} {s:af} {a:Act} {t:St} (ok:Ok I N w X ρ h s a) (hz:kO nm g s h=some t):∃ ρ',Ok I N w X ρ' t.h t.s a∧Far nm w ρ h w ρ' t.h:=by
 cases g with
 | zero =>
  cases hz
  exact ⟨ρ,ok,.refl _ _ _ _⟩
 | succ i =>
  simp only [kO,Option.bind_eq_some_iff] at hz
  obtain ⟨r,e1,e2⟩:=hz
  split at e2
  ·rename_i hnm
   cases e2
   have hv:=ok.rs i
   cases hi:s i <;> rw [hi] at e1 hv <;> simp only [CQ] at e1 <;> try (cases e1; done)
   ·cases e1
    exact ⟨ρ,ok,.refl _ _ _ _⟩
   ·rename_i id sub k lo n
    cases sub with
    | none=>simp only [] at e1; cases e1
    | some p =>
    simp only at e1
    split at e1
    ·rename_i hps
     cases eo:h id <;> rw [eo] at e1 <;> simp only [Ip] at e1 <;> try (cases e1; done)
     rename_i cs
     cases ec:cs[p]? with
     | none=>rw [ec] at e1; simp [Au] at e1
     | some c =>
      rw [ec] at e1
      cases c <;> simp only [Au] at e1 <;> try (cases e1; done)
      split at e1
      ·rename_i hc
       obtain ⟨rfl,rfl,rfl,hd⟩:=hc
       have hd':h i=.dead:=by cases hh:h i <;> rw [hh] at hd <;> first | rfl | cases hd
       cases e1
       obtain ⟨m1,m2⟩:=JP ok.rel eo ec hps hd'
       obtain ⟨ad,cap,e4,q2,q3,q4,q5⟩:=hv.rsl_inv
       refine ⟨_,⟨m1,fun j=>?_,ok.size,ok.defers,m2.inv ok.rel ok.inv⟩,m2.far hnm⟩
       show RV w _ _ _ (upd (eG [(id,true)] s) i _ j) _
       rw [jc]
       split
       ·rename_i hj
        subst hj
        rw [e4]
        refine .rsl _ none _ 0 _ cap ad (by simp [bg,ag]) q3 (by rw [aR]; exact q4) ?_
        rcases q5 with q5 | q5
        ·exact .inl q5
        ·exact .inr (by rw [aR,q5])
       ·exact m2.rs ok.rs j
      ·cases e1
    ·cases e1
  ·cases e2
theorem J2 {i:Nat} {w:World} {ρ:aT} {h:aa} {s:af} {a:Act} {r:af × aa × K} (ok:Ok I N w X ρ h s a) (hz:BS i s h (s i)=some r) (hnm:jH nm r.2.2=true) :
  ∃ ρ',Ok I N w X ρ' r.2.1 r.1 a∧Far nm w ρ h w ρ' r.2.1:=by
 have hv:=ok.rs i
 have key:∀ {id k lo n:Nat},(∃ ad cap,a.tmps.getD i undef=.slice ad n cap∧n≤cap∧(lo+cap)*k=(ρ id none).2∧(cap=0∨ad=some ⟨(ρ id none).1,lo*k,none⟩))→wq i s h id k lo n (h id)=some r →
   ∃ ρ',Ok I N w X ρ' r.2.1 r.1 a∧Far nm w ρ h w ρ' r.2.1:=by
  intro id k lo n ⟨ad,cap,e4,q3,q4,q5⟩ e1
  cases eo:h id <;> rw [eo] at e1 <;> simp only [wq] at e1 <;> try (cases e1; done)
  rename_i k' rows
  split at e1
  ·rename_i hc
   obtain ⟨rfl,rfl,hps,hd⟩:=hc
   have hd':h i=.dead:=by cases hh:h i <;> rw [hh] at hd <;> first | rfl | cases hd
   cases e1
   obtain ⟨m1,m2⟩:=Rr ok.rel eo hps hd'
   refine ⟨_,⟨m1,fun j=>?_,ok.size,ok.defers,m2.inv ok.rel ok.inv⟩,m2.far hnm⟩
   show RV w _ _ _ (upd (eG [(id,false)] s) i _ j) _
   rw [jc]
   split
   ·rename_i hj
    subst hj
    rw [e4]
    refine .rsl _ none _ 0 _ cap ad (by simp [bg,ag]) q3 (by rw [aR]; exact q4) ?_
    rcases q5 with q5 | q5
    ·exact .inl q5
    ·exact .inr (by rw [aR,q5])
   ·exact m2.rs ok.rs j
  ·cases e1
 cases hi:s i <;> rw [hi] at hz hv <;> simp only [BS] at hz <;> try (cases hz; done)
 ·cases hz
  exact ⟨ρ,ok,.refl _ _ _ _⟩
 ·rename_i id sub k lo n
  cases sub with
  | some p=>cases hz
  | none =>
  obtain ⟨ad,cap,e4,q2,q3,q4,q5⟩:=hv.rsl_inv
  exact key ⟨ad,cap,e4,q3,q4,q5⟩ hz
 ·rename_i id k lo n c
  obtain ⟨ad,e4,q2,q3,q4,q5⟩:=hv.rsc_inv
  exact key ⟨ad,c,e4,q3,q4,q5⟩ hz
theorem qH:∀ (is:List Nat) {w:World} {ρ:aT} {h:aa} {s:af} {a:Act} {t:St},Ok I N w X ρ h s a→pe nm is s h=some t→∃ ρ',Ok I N w X ρ' t.h t.s a∧Far nm w ρ h w ρ' t.h
 | [],w,ρ,h,s,a,t,ok,hz=>by cases hz; exact ⟨ρ,ok,.refl _ _ _ _⟩
 | i::l,w,ρ,h,s,a,t,ok,hz=>by
  unfold pe at hz
  split at hz
  ·simp only [Option.bind_eq_some_iff] at hz
   obtain ⟨r,e1,e2⟩:=hz
   split at e2
   ·rename_i hn
    obtain ⟨ρ1,g1,g2⟩:=J2 ok e1 hn
    obtain ⟨ρ2,f1,f2⟩:=qH l g1 e2
    exact ⟨ρ2,f1,g2.trans f2⟩
   ·cases e2
  ·split at hz
   ·obtain ⟨g1,g2⟩:=HZ (nm:=nm) ok (s (i - 100000))
    obtain ⟨ρ2,f1,f2⟩:=qH l g1 hz
    exact ⟨ρ2,f1,g2.trans f2⟩
   ·simp only [Option.bind_eq_some_iff] at hz
    obtain ⟨r,e1,e2⟩:=hz
    split at e2
    ·rename_i hn
     obtain ⟨g1,g2⟩:=J1 ok e1 hn
     obtain ⟨ρ2,f1,f2⟩:=qH l g1 e2
     exact ⟨ρ2,f1,g2.trans f2⟩
    ·cases e2
theorem J3 (hcall:go P I call md) (hN:N≤1000) (hD:CY P I call md N) (lf:Nat):∀ (cmd:Cmd) (c:Code),dR P N c cmd=some cmd→CZ P I md.nm X N (bc call md lf cmd) c:=by
 intro cmd
 induction cmd with
 | skip =>
  intro c hc s h e t w ρ a Q hz ok hQ
  cases c <;> (try simp only [dR] at hc) <;> (try (cases hc; done))
  ·simp only [bc,Option.some.injEq,Prod.mk.injEq] at hz
   obtain ⟨rfl,rfl⟩:=hz
   exact wp_skip (hQ _ _ ρ ok (.refl _ _ _ _))
  all_goals (exfalso; revert hc; simp [Option.bind_eq_some_iff])
 | ops ks l =>
  intro c hc s h e t w ρ a Q hz ok hQ
  by_cases hrf:∃ m,c=.refuse m
  ·obtain ⟨m,rfl⟩:=hrf
   have hl:l=[⟨none,none,.bad⟩]:=by
    unfold dR at hc
    split at hc <;> first | (cases hc; done) | (simp_all; done)
   subst hl
   simp [bc,am,fW,bK,step,aK] at hz
  cases c <;> (try (exact absurd ⟨_,rfl⟩ hrf)) <;> (try simp only [dR] at hc) <;> (try (cases hc; done))
  rename_i id ops dr
  cases dr <;> (try simp only [dR] at hc) <;> (try (cases hc; done))
  simp only [Option.map_eq_some_iff] at hc
  obtain ⟨l',h1,h2⟩:=hc
  cases h2
  simp only [bc,aK] at hz
  split at hz
  ·cases hz
  ·rename_i t1 ht1
   simp only [Option.some.injEq,Prod.mk.injEq] at hz
   obtain ⟨rfl,rfl⟩:=hz
   refine wp_region ?_
   rw [List.range_eq_range',show ops.size=ops.toList.length from Array.length_toList.symm]
   exact CX hcall hN ops.toList l 0 (fun j o hj=>by simpa using hj) h1 ok ht1 fun a' w' ρ' ok' far=>hQ _ _ ρ' (ok'.some (wC _ _)) far
 | dops ks l ps =>
  intro c hc s h e t w ρ a Q hz ok hQ
  cases c <;> (try simp only [dR] at hc) <;> (try (cases hc; done))
  rename_i id ops dr
  cases dr <;> (try simp only [dR] at hc) <;> (try (cases hc; done))
  simp only [Option.bind_eq_some_iff] at hc
  obtain ⟨l',h1,h2⟩:=hc
  split at h2
  ·rename_i hps
   cases h2
   simp only [bc,aK] at hz
   split at hz
   ·cases hz
   ·rename_i t1 ht1
    simp only [Option.some.injEq,Prod.mk.injEq] at hz
    obtain ⟨rfl,rfl⟩:=hz
    exact hD h1 hps ok ht1 fun a' w' ρ' ok' far=>hQ _ _ ρ' (ok'.some (wC _ _)) far
  ·cases h2
 | seq x y ihx ihy =>
  intro c hc s h e t w ρ a Q hz ok hQ
  cases c <;> (try simp only [dR] at hc) <;> (try (cases hc; done))
  simp only [Option.bind_eq_some_iff,Option.map_eq_some_iff] at hc
  obtain ⟨c1,h1,c2,h2,h3⟩:=hc
  cases h3
  simp only [bc,dD] at hz
  refine wp_seq ?_
  split at hz
  ·cases hz
  ·rename_i t1 ht1
   exact ihx _ h1 ht1 ok fun a' w' ρ' ok1 far1=>ihy _ h2 hz ok1 fun a'' w'' ρ'' ok2 far2=>hQ _ _ ρ'' ok2 (far1.trans far2)
  ·rename_i i t1 ht1
   cases hz
   exact ihx _ h1 ht1 ok fun a' w' ρ' ok1 far1=>hQ a' w' ρ' ok1 far1
  ·rename_i t1 ht1
   cases hz
   exact ihx _ h1 ht1 ok fun a' w' ρ' ok1 far1=>hQ a' w' ρ' ok1 far1
 | cond b x y ihx ihy =>
  intro c hc s h e t w ρ a Q hz ok hQ
  cases c <;> (try simp only [dR] at hc) <;> (try (cases hc; done))
  simp only [Option.bind_eq_some_iff,Option.map_eq_some_iff] at hc
  obtain ⟨b',h0,c1,h1,c2,h2,h3⟩:=hc
  cases h3
  simp only [bc] at hz
  have hv:=aE h0 ok.rs
  unfold jK at hz
  split at hz
  ·rename_i tt htt
   rw [htt] at hv
   refine wp_cond hv.v_inv.1 ?_
   cases tt with
   | true=>exact ihx _ h1 hz ok hQ
   | false=>exact ihy _ h2 hz ok hQ
  ·cases hz
 | block id ks x ih =>
  intro c hc s h e t w ρ a Q hz ok hQ
  cases c <;> (try simp only [dR] at hc) <;> (try (cases hc; done))
  simp only [Option.map_eq_some_iff] at hc
  obtain ⟨c1,h1,h3⟩:=hc
  cases h3
  simp only [bc] at hz
  refine wp_block ?_
  unfold aI at hz
  split at hz
  ·cases hz
  ·rename_i t1 ht1
   cases hz
   exact ih _ h1 ht1 ok fun a' w' ρ' ok1 far1=>hQ a' w' ρ' (ok1.some (wC _ _)) far1
  ·rename_i i t1 ht1
   refine ih _ h1 ht1 ok fun a' w' ρ' ok1 far1=>?_
   split at hz
   ·rename_i hi
    cases hz
    have:=hQ a' w' ρ' (ok1.some (wC _ _)) far1
    simpa [OQ,Exit.inBlock,hi] using this
   ·rename_i hi
    cases hz
    have:=hQ a' w' ρ' ok1 far1
    simpa [OQ,Exit.inBlock,hi] using this
  ·rename_i t1 ht1
   cases hz
   exact ih _ h1 ht1 ok fun a' w' ρ' ok1 far1=>hQ a' w' ρ' ok1 far1
 | loop ks hs x ih =>
  intro c hc s h e t w ρ a Q hz ok hQ
  cases c <;> (try simp only [dR] at hc) <;> (try (cases hc; done))
  simp only [Option.map_eq_some_iff] at hc
  obtain ⟨c1,h1,h3⟩:=hc
  cases h3
  simp only [bc] at hz
  exact wp_loop_rounds lf (AF (ih _ h1) lf hz ok hQ)
 | exit id =>
  intro c hc s h e t w ρ a Q hz ok hQ
  cases c <;> (try simp only [dR] at hc) <;> (try (cases hc; done))
  cases hc
  simp only [bc,Option.some.injEq,Prod.mk.injEq] at hz
  obtain ⟨rfl,rfl⟩:=hz
  exact wp_exit (hQ _ _ ρ ok (.refl _ _ _ _))
 | ret =>
  intro c hc s h e t w ρ a Q hz ok hQ
  cases c <;> (try simp only [dR] at hc) <;> (try (cases hc; done))
  simp only [bc,Option.some.injEq,Prod.mk.injEq] at hz
  obtain ⟨rfl,rfl⟩:=hz
  exact wp_ret (hQ _ _ ρ ok (.refl _ _ _ _))
 | frz is x ih =>
  intro c hc s h e t w ρ a Q hz ok hQ
  have hc':(dR P N c x).map (Cmd.frz is)=some (.frz is x):=by
   cases c <;> simpa only [dR] using hc
  simp only [Option.map_eq_some_iff] at hc'
  obtain ⟨c1,h1,h3⟩:=hc'
  cases h3
  simp only [bc,aK] at hz
  split at hz
  ·cases hz
  ·rename_i t1 ht1
   obtain ⟨ρ1,ok1,far1⟩:=qH is ok ht1
   exact ih _ h1 hz ok1 fun a' w' ρ' ok2 far2=>hQ a' w' ρ' ok2 (far1.trans far2)
end
def fj (P:Program) (I:Inv) (kp:Bool) (f:FuncId) (g:List AV→List Ob→Option (AV × List Ob)):Prop :=
 ∀ {args:List AV} {obs obs':List Ob} {res:AV} {w:World} {X:Nat→Prop} {ρ:aT} {vals:Array Value} {n:Nat},g args obs=some (res,obs')→2000≤n→I.p w X→Rel w X ρ (ae obs)→vals.size=args.length →
  (∀ (i:Nat) (c:AV) (u:Value),args[i]?=some c→vals[i]?=some u→RV w (ao w X (ae obs) ρ) ρ (ae obs) c u) →
  Enters P f vals w fun v w'=>∃ ρ',Rel w' X ρ' (mat n (ae obs') res).2∧Far kp w ρ (ae obs) w' ρ' (mat n (ae obs') res).2∧RV w' (ao w' X (mat n (ae obs') res).2 ρ') ρ' (mat n (ae obs') res).2 (mat n (ae obs') res).1 v
def p8 (tmps:Array Value):ResultVar→Sem Value
 | .tmp t=>pure (tmps.getD t Go.undef)
 | .cell c t=>do loadVar t (← asAddr (tmps.getD c Go.undef))
section
variable {P:Program} {w w':World} {X:Nat→Prop} {ρ ρ':aT} {h h':aa} {s:af} {a:Act} {call:cT} {md:Mode} {N:Nat}
theorem yr:∀ (rs:List ResultVar) (l:List Rv) {h h':aa} {s:af} {vs:List AV} {ks:K},uA P rs=some l→Rel w X ρ h→RS w (ao w X h ρ) ρ h s a.tmps→n5 s h l=some (vs,h',ks) →
  ∃ us:List Value,(rs.mapM (p8 a.tmps)).run P w=.ok us w∧us.length=vs.length∧Rel w X ρ h'∧Evo w ρ h w ρ h' ks ∧
   ∀ (i:Nat) (c:AV) (u:Value),vs[i]?=some c→us[i]?=some u→RV w (ao w X h' ρ) ρ h' c u
 | [],l,h,h',s,vs,ks,hc,r,hs,hz=>by
  simp only [uA,Option.some.injEq] at hc
  subst hc
  simp only [n5,Option.some.injEq,Prod.mk.injEq] at hz
  obtain ⟨rfl,rfl,rfl⟩:=hz
  exact ⟨[],rfl,rfl,r,.refl _ _ _,fun i c u hc=>by simp at hc⟩
 | x::rs,l,h,h',s,vs,ks,hc,r,hs,hz=>by
  have step1:∃ rv l',l=rv::l'∧uA P rs=some l'∧∀ {z:AV} {h1:aa} {k1:K},M6 s h rv=some (z,h1,k1)→∃ v,(p8 a.tmps x).run P w=.ok v w ∧
    Rel w X ρ h1∧Evo w ρ h w ρ h1 k1∧RV w (ao w X h1 ρ) ρ h1 z v:=by
   cases x with
   | tmp t =>
    simp only [uA,Option.map_eq_some_iff] at hc
    obtain ⟨l',h1,rfl⟩:=hc
    refine ⟨_,l',rfl,h1,fun {z h1 k1} e=>?_⟩
    simp only [M6,Option.some.injEq,Prod.mk.injEq] at e
    obtain ⟨rfl,rfl,rfl⟩:=e
    exact ⟨_,rfl,r,.refl _ _ _,hs t⟩
   | cell c t =>
    simp only [uA,Option.bind_eq_some_iff] at hc
    obtain ⟨g,g1,k,g2,hc⟩:=hc
    split at hc
    ·simp only [Option.map_eq_some_iff] at hc
     obtain ⟨l',h1,rfl⟩:=hc
     refine ⟨_,l',rfl,h1,fun {z h1 k1} e=>?_⟩
     obtain ⟨ad,v,q1,q2,q3,q4,q5⟩:=yl (P:=P) r g1 g2 (hs c) e
     refine ⟨v,?_,q3,q4,q5⟩
     simp only [p8]
     rw [q1]
     exact q2
    ·cases hc
  obtain ⟨rv,l',rfl,hc',key⟩:=step1
  simp only [n5,Option.bind_eq_some_iff] at hz
  obtain ⟨⟨z,h1,k1⟩,e1,⟨vs',h2,k2⟩,e2,e3⟩:=hz
  cases e3
  obtain ⟨v,f1,f2,f3,f4⟩:=key e1
  obtain ⟨us,g1,g2,g3,g4,g5⟩:=yr rs l' hc' f2 (f3.rs hs) e2
  refine ⟨v::us,by rw [List.mapM_cons,Sem.run_bind,f1]; simp only [Result.andThen]; rw [Sem.run_bind,g1]; rfl,by simp [g2],g3,f3.trans g4,fun i c u hc hu=>?_⟩
  cases i with
  | zero =>
   simp only [List.getElem?_cons_zero,Option.some.injEq] at hc hu
   subst hc hu
   cases k2 with
   | nil=>exact g4.rv f4
   | cons p k2 =>
    simp only [Fh,mf]
    split
    ·exact .anyv _
    ·rename_i hm
     exact g4.rvk f4 (.inr (by simpa using hm))
  | succ i=>exact g5 i c u (by simpa using hc) (by simpa using hu)
end
structure Emb (L:List Nat) (f g:Nat→Nat) (h' h2:aa):Prop where
 back:∀ id,L.contains id=true→g (f id)=id∧h2 (f id)=cC f (h' id)
 obj:∀ i,h2 i ≠ .dead→h2 i=cC f (h' (g i))∧aA L (h' (g i))=true
 inj:∀ i j,h2 i ≠ .dead→h2 j ≠ .dead→g i=g j→i=j
section
variable {w:World} {X:Nat→Prop} {ρ:aT} {h' h2:aa} {A A2:Nat→Prop} {L:List Nat} {f g:Nat→Nat}
theorem wD {o:Ob}:cC f o=.dead↔o=.dead:=by cases o <;> simp [cC]
theorem It (o:Ob):bf (cC f o)=bf o:=by cases o <;> rfl
theorem Nh {c:AV} {k:Nat} {rows:List (List AV)}:cQ f c=.osl k rows↔c=.osl k rows:=by cases c <;> simp [cQ,fV]
theorem Lk (c:AV):aN (cQ f c)=aN c:=by cases c <;> rfl
theorem RV.embL (em:Emb L f g h' h2) {c:AV} {u:Value} (hv:RV w A ρ h' c u) (hA:∀ b,A b→A2 b) (hm:aO L c=true):RV w A2 (fun i s=>ρ (g i) s) h2 (fV f c) u:=by
 cases hv with
 | anyv u=>exact .anyv u
 | und=>exact .und
 | dat hd =>
  have:fV f c=c:=by cases hd <;> rfl
  rw [this]
  exact .dat (hd.mono fun b hb=>⟨hA b hb,rfl⟩)
 | ref id sub k i j hp =>
  simp only [aO,Bool.and_eq_true] at hm
  obtain ⟨h1,h3⟩:=em.back id hm.1
  cases sub with
  | some p=>simp at hm
  | none =>
   have:=RV.ref (w:=w) (A:=A2) (ρ:=fun i s=>ρ (g i) s) (h:=h2) (f id) none k i j (by simp only [bg,h3,ne_eq,wD]; exact hp)
   simp only [h1] at this
   exact this
 | rsl id sub k lo n cap a hp hn hb ha =>
  simp only [aO,Bool.and_eq_true] at hm
  obtain ⟨h1,h3⟩:=em.back id hm.1
  cases sub with
  | some p=>simp at hm
  | none=>exact .rsl (f id) none k lo n cap a (by simp only [bg,h3,ne_eq,wD]; exact hp) hn (by simp only [h1]; exact hb) (by simp only [h1]; exact ha)
 | rsc id k lo n cap a hp hn hb ha=>simp [aO] at hm
 | ipt cs ad vals hA' hs hv hl hr=>exact .ipt cs ad vals (hA _ hA') hs hv hl (fun j c hc=>(hr j c hc).mono fun b hb=>⟨hA b hb,rfl⟩)
 | agg cs us hs h1 hr=>simp [aO] at hm
 | tup vs us hs hr=>simp [aO] at hm
 | fn ff x y us ts hs ht hx hy =>
  simp [aO] at hm
  obtain ⟨rfl,rfl⟩:=hm
  exact .fn ff [] [] us ts hs ht (fun i c u hc=>by simp at hc) (fun i c u hc=>by simp at hc)
theorem RV.embA (em:Emb L f g h' h2) {c:AV} {u:Value} (hv:RV w A ρ h' c u) (hA:∀ b,A b→A2 b) (hm:aJ L c=true):RV w A2 (fun i s=>ρ (g i) s) h2 (cQ f c) u:=by
 cases c with
 | agg cs =>
  simp only [aJ,List.all_eq_true] at hm
  obtain ⟨us,rfl,hs,h1,hr⟩:=hv.agg_inv
  refine .agg _ us (by simpa using hs) h1 fun i c u hc hu=>?_
  simp only [List.getElem?_map,Option.map_eq_some_iff] at hc
  obtain ⟨c',hc',rfl⟩:=hc
  exact (hr i c' u hc' hu).embL em hA (hm c' (List.mem_of_getElem? hc'))
 | fn ff x y =>
  simp only [aJ,Bool.and_eq_true,List.all_eq_true] at hm
  obtain ⟨us,ts,rfl,hs,ht,hx,hy⟩:=hv.fn_inv
  refine .fn ff _ _ us ts (by simpa using hs) (by simpa using ht) (fun i c u hc hu=>?_) (fun i c u hc hu=>?_)
  ·simp only [List.getElem?_map,Option.map_eq_some_iff] at hc
   obtain ⟨c',hc',rfl⟩:=hc
   exact (hx i c' u hc' hu).embL em hA (hm.1 c' (List.mem_of_getElem? hc'))
  ·simp only [List.getElem?_map,Option.map_eq_some_iff] at hc
   obtain ⟨c',hc',rfl⟩:=hc
   exact (hy i c' u hc' hu).embL em hA (hm.2 c' (List.mem_of_getElem? hc'))
 | _ =>
  simp only [aJ,cQ] at hm ⊢
  exact hv.embL em hA hm
theorem Emb.live (em:Emb L f g h' h2) {i:Nat} {s:Option Nat} (hl:live h2 i s):live h' (g i) s∧h2 i ≠ .dead:=by
 have hd:h2 i ≠ .dead:=KX hl |> fun hp=>by
  cases s with
  | none=>exact hp
  | some p=>obtain ⟨_,_,_,e,_⟩:=hp; rw [e]; exact fun e=>by cases e
 obtain ⟨e,_⟩:=em.obj i hd
 refine ⟨?_,hd⟩
 cases s with
 | none =>
  simp only [Ab.live,e] at hl
  simp only [Ab.live]
  cases e2:h' (g i) <;> rw [e2] at hl <;> simp [cC] at hl ⊢
 | some p =>
  obtain ⟨cs,k,rows,e1,e2⟩:=hl
  rw [e] at e1
  cases e3:h' (g i) <;> rw [e3] at e1 <;> simp only [cC] at e1 <;> try (cases e1; done)
  rename_i cs'
  cases e1
  simp only [List.getElem?_map,Option.map_eq_some_iff] at e2
  obtain ⟨c,e4,e5⟩:=e2
  exact ⟨cs',k,rows,e3,by rw [e4,Nh.1 e5]⟩
theorem Rel.emb (em:Emb L f g h' h2) (r:Rel w X ρ h') {X2:Nat→Prop} (hX:∀ b,X2 b→b < w.heap.size) (hnx:∀ i s,live h2 i s→¬ X2 (ρ (g i) s).1) (hA:∀ b,ao w X h' ρ b→ao w X2 h2 (fun i s=>ρ (g i) s) b) :
  Rel w X2 (fun i s=>ρ (g i) s) h2:=by
 refine ⟨fun i s j t h1 h3 h4=>?_,hnx,fun i=>?_,hX⟩
 ·obtain ⟨f1,f2⟩:=em.live h1
  obtain ⟨f3,f4⟩:=em.live h3
  obtain ⟨e1,e2⟩:=r.inj (g i) s (g j) t f1 f3 h4
  exact ⟨em.inj i j f2 f4 e1,e2⟩
 ·by_cases hd:h2 i=.dead
  ·rw [hd]; trivial
  ·obtain ⟨e,hc⟩:=em.obj i hd
   have ho:=r.ob (g i)
   rw [e]
   cases e2:h' (g i) with
   | dead=>trivial
   | bx cs =>
    rw [e2] at ho hc
    obtain ⟨us,t,h1,h3,h4,h5⟩:=ho
    refine ⟨us,t,h1,h3,by rw [List.length_map]; exact h4,fun p c hp=>?_⟩
    simp only [List.getElem?_map,Option.map_eq_some_iff] at hp
    obtain ⟨c',hp',rfl⟩:=hp
    obtain ⟨u,h6,h7⟩:=h5 p c' hp'
    refine ⟨u,h6,?_⟩
    simp only [aA,List.all_eq_true] at hc
    have hcc:=hc c' (List.mem_of_getElem? hp')
    cases hO:aN c' with
    | true =>
     cases c' <;> simp [aN] at hO
     obtain ⟨a,cap,us',t',g1,g2,g3,g4,g5,g6,g7⟩:=h7
     exact ⟨a,cap,us',t',g1,g2,g3,g4,g5,g6,g7.mono fun b hb=>⟨hA b hb,rfl⟩⟩
    | false =>
     have hca:aJ L c'=true:=by simpa [eH,hO] using hcc
     rw [lr hO] at h7
     rw [lr (by rw [Lk]; exact hO)]
     refine ⟨h7.1.embA em hA hca,h7.2.1,?_⟩
     have h8:=h7.2.2
     cases c' <;> first | exact h8.elim | trivial | skip
     ·rename_i id sub _ _ _
      cases sub with
      | some p=>exact h8.elim
      | none =>
       simp only [aJ,aO,Bool.and_eq_true] at hca
       obtain ⟨_,e3⟩:=em.back id hca.1
       simp only [cQ,fV,gI] at h8 ⊢
       rw [e3,It]
       exact h8
     ·rename_i ff x y
      simp only [gI,Bool.and_eq_true,List.all_eq_true] at h8
      simp only [cQ,gI,Bool.and_eq_true,List.all_eq_true,List.mem_map]
      have key:∀ c,ak c=true→ak (fV f c)=true:=fun c hd=>by cases c <;> simp [ak,fV] at hd ⊢ <;> exact hd
      exact ⟨fun c ⟨c0,h9,h10⟩=>h10 ▸ key c0 (h8.1 c0 h9),fun c ⟨c0,h9,h10⟩=>h10 ▸ key c0 (h8.2 c0 h9)⟩
   | ar k rows =>
    rw [e2] at ho
    obtain ⟨us,t,h1,h3,h4,h5⟩:=ho
    exact ⟨us,t,h1,h3,h4,h5.mono fun b hb=>⟨hA b hb,rfl⟩⟩
   | fz k rows =>
    rw [e2] at ho
    obtain ⟨h0,us,t,fr,h1,h3,h4,h5⟩:=ho
    exact ⟨hA _ h0,us,t,fr,h1,h3,h4,h5.mono fun b hb=>⟨hA b hb,rfl⟩⟩
end
theorem Py (c:AV):fV (fun i=>i) c=c:=by cases c <;> rfl
theorem Fw {α:Type} {f:α→α} (hf:∀ a,f a=a) (l:List α):l.map f=l:=by
 rw [show f=id from funext hf,List.map_id]
theorem Pz (c:AV):cQ (fun i=>i) c=c:=by
 cases c <;> simp [cQ,fV,Fw Py]
theorem BW (o:Ob):cC (fun i=>i) o=o:=by
 cases o <;> simp [cC,Fw Pz]
section
variable {L:List Nat} {g:Nat→Nat} {h' h2:aa}
theorem Emb.add (em:Emb L (fun i=>i) g h' h2) {m id:Nat} (hm:h2 m=.dead) (hL:L.contains m=false) (hid:∀ i,h2 i ≠ .dead→g i ≠ id) (hcl:aA L (h' id)=true):Emb L (fun i=>i) (upd g m id) h' (upd h2 m (h' id)):=by
 refine ⟨fun i hi=>?_,fun i hi=>?_,fun i j hi hj hg=>?_⟩
 ·have hne:i ≠ m:=by rintro rfl; rw [hL] at hi; cases hi
  rw [ap _ _ hne,ap _ _ hne]
  exact em.back i hi
 ·by_cases e:i=m
  ·subst e; rw [ag,ag,BW]; exact ⟨rfl,hcl⟩
  ·rw [ap _ _ e] at hi ⊢
   rw [ap _ _ e]
   exact em.obj i hi
 ·by_cases e:i=m <;> by_cases e':j=m
  ·rw [e,e']
  ·subst e
   rw [ag,ap _ _ e'] at hg
   rw [ap _ _ e'] at hj
   exact absurd hg.symm (hid j hj)
  ·subst e'
   rw [ag,ap _ _ e] at hg
   rw [ap _ _ e] at hi
   exact absurd hg (hid i hi)
  ·rw [ap _ _ e] at hi
   rw [ap _ _ e'] at hj
   rw [ap _ _ e,ap _ _ e'] at hg
   exact em.inj i j hi hj hg
theorem gK {n i:Nat}:(bS n).contains i=true↔1000≤i∧i < 1000+n:=by
 simp [bS,List.mem_range']
 exact ⟨fun ⟨j,h1,h2⟩=>by omega,fun ⟨h1,h2⟩=>⟨i - 1000,by omega,by omega⟩⟩
theorem kz (h':aa) (n i:Nat):ae ((bS n).map h') i=if 1000≤i∧i < 1000+n then h' i else .dead:=by
 unfold ae
 by_cases h1:1000≤i
 ·rw [if_pos h1]
  by_cases h2:i < 1000+n
  ·rw [if_pos ⟨h1,h2⟩]
   have:(bS n)[i - 1000]?=some i:=by
    unfold bS
    rw [List.getElem?_range' (show i - 1000 < n from by omega)]
    exact congrArg some (by omega)
   rw [List.getElem?_map,this]
   rfl
  ·rw [if_neg (by omega),List.getElem?_map,List.getElem?_eq_none (by simp [bS]; omega)]
   rfl
 ·rw [if_neg h1,if_neg (by omega)]
theorem Emb.base {n:Nat} (hcl:((bS n).all fun i=>aA (bS n) (h' i))=true):Emb (bS n) (fun i=>i) (fun i=>i) h' (ae ((bS n).map h')):=by
 refine ⟨fun i hi=>⟨rfl,?_⟩,fun i hi=>?_,fun i j _ _ hg=>hg⟩
 ·rw [kz,if_pos (gK.1 hi),BW]
 ·rw [kz] at hi ⊢
  split at hi
  ·rename_i h1
   rw [if_pos h1,BW]
   exact ⟨rfl,List.all_eq_true.1 hcl i (by simpa using gK.2 h1)⟩
  ·exact absurd rfl hi
end
section
variable {w:World} {X:Nat→Prop} {ρ:aT} {h' h2:aa} {A A2:Nat→Prop}
theorem xN {b k lo n cap:Nat} {us:Array Value} {e:TypeId} {fr:Nat × Nat} {rows:List (List AV)} {a:Option Addr} (hb:w.heap[b]?=some (.cells us e fr)) (hA2:A2 b) (hA:∀ b,A b→A2 b) (hr:bu w A k rows us)
  (hle:lo+n≤rows.length) (hn:n≤cap) (ha:cap=0∨a=some ⟨b,lo*k,none⟩):RD w A2 (je k lo n rows) (.slice a n cap) :=
 ir hb hA2 (hr.mono fun b hb=>⟨hA b hb,rfl⟩) hle hn ha
def OR (w:World) (A:Nat→Prop) (ρ:aT) (h':aa) (a b:AV) (u:Value):Prop :=
 (∃ id k rows,b=.osl k rows∧a=.rsl id none k 0 rows.length∧h' id=.ar k rows∧aG id=false) ∨
 (∃ id cs,b=.obx cs∧a=.ref id none 0 0 0∧h' id=.bx cs∧cs.all gH=true∧aG id=false) ∨
 (b=a∧∃ id k i j,a=.ref id none k i j∧aG id=true) ∨
 (b=a∧ak a=true) ∨
 (ak b=true∧∀ A2:Nat→Prop,(∀ b,A b→A2 b)→(∀ id sub,cP a=[id]→live h' id sub→A2 (ρ id sub).1)→RD w A2 b u)
theorem qI (r:Rel w X ρ h') {a b:AV} {u:Value} (hv:RV w (ao w X h' ρ) ρ h' a u) (he:fX h' a=some b):OR w (ao w X h' ρ) ρ h' a b u:=by
 have dl:ak a=true→fX h' a=some a→OR w (ao w X h' ρ) ρ h' a b u:=fun hd hq=>by
  rw [hq] at he
  cases he
  exact .inr (.inr (.inr (.inl ⟨rfl,hd⟩)))
 cases a with
 | rsl id sub k lo n =>
  obtain ⟨a,cap,rfl,hp,hn,hb,ha⟩:=hv.rsl_inv
  cases sub with
  | none =>
   simp only [fX] at he
   split at he
   ·cases he
   ·rename_i hps
    have ho:=r.ob id
    cases e:h' id with
    | dead=>rw [e] at he; cases he
    | ar k' rows =>
     rw [e] at he ho
     simp only [qq] at he
     split at he
     ·rename_i hc
      obtain ⟨rfl,hle⟩:=hc
      split at he
      ·rename_i hw
       obtain ⟨rfl,rfl⟩:=hw
       cases he
       exact .inl ⟨id,k',rows,rfl,rfl,e,by simpa using hps⟩
      ·cases he
       obtain ⟨us,t,h1,h3,h4,h5⟩:=ho
       exact .inr (.inr (.inr (.inr ⟨rfl,fun A2 hA hl=>xN h1 (hl id none rfl (by simp [live,e])) hA h5 hle hn ha⟩)))
     ·cases he
    | fz k' rows =>
     rw [e] at he ho
     simp only [qq] at he
     split at he
     ·rename_i hc
      obtain ⟨rfl,hle⟩:=hc
      cases he
      obtain ⟨h0,us,t,fr,h1,h3,h4,h5⟩:=ho
      exact .inr (.inr (.inr (.inr ⟨rfl,fun A2 hA hl=>xN h1 (hA _ h0) hA h5 hle hn ha⟩)))
     ·cases he
    | bx cs =>
     rw [e] at he
     simp only [qq] at he
     split at he
     ·rename_i hc
      obtain ⟨rfl,hle,hd⟩:=hc
      cases he
      obtain ⟨us,t,h1,h3,h4,h5⟩:=r.cell e
      refine .inr (.inr (.inr (.inr ⟨rfl,fun A2 hA hl=>ir h1 (hl id none rfl (by simp [live,e])) (fun i row hi=>?_) (by simpa [lM] using hle) hn ha⟩)))
      simp only [lM,List.getElem?_map,Option.map_eq_some_iff] at hi
      obtain ⟨c,hc,rfl⟩:=hi
      refine ⟨rfl,fun j d hj=>?_⟩
      cases j with
      | succ j=>simp at hj
      | zero =>
       simp at hj
       subst hj
       obtain ⟨u,h6,h7⟩:=h5 i c hc
       have hdc:=List.all_eq_true.1 hd c (List.mem_of_getElem? hc)
       exact ⟨u,by simpa using h6,yO h7 hdc hA (fun k rows ec=>by subst ec; exact hl id (some i) rfl ⟨cs,k,rows,e,hc⟩),uC hdc⟩
     ·cases he
  | some p =>
   simp only [fX] at he
   split at he
   ·cases he
   ·cases e:h' id with
    | bx cs =>
     rw [e] at he
     simp only [gx] at he
     cases ec:cs[p]? with
     | none=>rw [ec] at he; cases he
     | some c =>
      rw [ec] at he
      cases c <;> simp only [m7,Rh] at he <;> try (cases he; done)
      split at he
      ·rename_i hc
       obtain ⟨rfl,hle⟩:=hc
       cases he
       obtain ⟨us,t,h1,h3,h4,h5⟩:=r.cell e
       obtain ⟨u,_,a',cap',us',t',_,_,_,q4,q5,q6,q7⟩:=h5 p _ ec
       exact .inr (.inr (.inr (.inr ⟨rfl,fun A2 hA hl=>xN q4 (hl id (some p) rfl ⟨cs,_,_,e,ec⟩) hA q7 hle hn ha⟩)))
      ·cases he
    | _=>rw [e] at he; cases he
 | ref id sub k i j =>
  cases sub with
  | some p=>simp [fX,ak] at he
  | none =>
   simp only [fX] at he
   split at he
   ·rename_i hps
    cases he
    exact .inr (.inr (.inl ⟨rfl,id,k,i,j,rfl,hps⟩))
   ·rename_i hps
    split at he
    ·rename_i hc
     obtain ⟨rfl,rfl,rfl⟩:=hc
     cases e:h' id <;> rw [e] at he <;> simp only [M5] at he <;> try (cases he; done)
     split at he
     ·rename_i hd
      cases he
      exact .inr (.inl ⟨id,_,rfl,rfl,e,hd,by simpa using hps⟩)
     ·cases he
    ·cases he
 | fn f x y =>
  simp only [fX] at he
  split at he
  ·rename_i hd; exact dl hd (by simp [fX,hd])
  ·cases he
 | any=>exact dl rfl rfl
 | v x=>exact dl rfl rfl
 | emp=>exact dl rfl rfl
 | sl k rows=>exact dl rfl rfl
 | _=>simp [fX,ak] at he
theorem Fx {b c:AV} (hdl:ak b=true) (hd:qt b=some c):c=b:=by
 unfold qt at hd
 split at hd
 ·simp [ak] at hdl
 ·rw [if_pos hdl] at hd
  cases hd
  rfl
theorem AG (r:Rel w X ρ h') {a b c:AV} {u:Value} (hv:RV w (ao w X h' ρ) ρ h' a u) (h1:u.oneCell'=true) (he:fX h' a=some b) (hd:qt b=some c) :
  ak c=true∧∀ A2:Nat→Prop,(∀ b,ao w X h' ρ b→A2 b)→(∀ id sub,cP a=[id]→live h' id sub→A2 (ρ id sub).1)→RD w A2 c u:=by
 rcases qI r hv he with ⟨id,k,rows,rfl,rfl,e,_⟩ | ⟨id,cs,rfl,_⟩ | ⟨rfl,id,k,i,j,rfl,_⟩ | ⟨rfl,hdl⟩ | ⟨hdl,hr⟩
 ·simp only [qt,Option.some.injEq] at hd
  subst hd
  refine ⟨rfl,fun A2 hA hl=>?_⟩
  obtain ⟨a,cap,rfl,hp,hn,hb,ha⟩:=hv.rsl_inv
  have ho:=r.ob id
  rw [e] at ho
  obtain ⟨us,t,g1,g2,g3,g4⟩:=ho
  have:=xN (w:=w) (A2:=A2) (lo:=0) g1 (hl id none rfl (by simp [live,e])) hA g4 (by omega) hn ha
  simpa [je] using this
 ·simp [qt,ak] at hd
 ·simp [qt,ak] at hd
 ·have:c=b:=Fx hdl hd
  subst this
  exact ⟨hdl,fun A2 hA _=>(hv.toD hdl h1).mono fun b hb=>⟨hA b hb,rfl⟩⟩
 ·have:c=b:=Fx hdl hd
  subst this
  exact ⟨hdl,hr⟩
theorem yt (r:Rel w X ρ h'):∀ (cs ds:List AV),fY h' cs=some ds→ds.length=cs.length∧∀ (i:Nat) (a c:AV) (u:Value),cs[i]?=some a→ds[i]?=some c→RV w (ao w X h' ρ) ρ h' a u→u.oneCell'=true →
  ak c=true∧∀ A2:Nat→Prop,(∀ b,ao w X h' ρ b→A2 b)→(∀ id sub,cP a=[id]→live h' id sub→A2 (ρ id sub).1)→RD w A2 c u
 | [],ds,he=>by simp [fY] at he; subst he; exact ⟨rfl,fun i a c u hc=>by simp at hc⟩
 | a::cs,ds,he=>by
  simp only [fY,Option.bind_eq_some_iff] at he
  obtain ⟨b,e1,c,e2,q,e3,e4⟩:=he
  cases e4
  obtain ⟨g1,g2⟩:=yt r cs q e3
  refine ⟨by simp [g1],fun i a' c' u hc hd hv h1=>?_⟩
  cases i with
  | zero =>
   simp only [List.getElem?_cons_zero,Option.some.injEq] at hc hd
   subst hc hd
   exact AG r hv h1 e1 e2
  | succ i=>exact g2 i a' c' u (by simpa using hc) (by simpa using hd) hv h1
end
def ro (f:aa→Option R3) (p:aa→aa→Fp) (h:aa) (x:AV) (h':aa) (r w:List Nat):Prop :=
 ∀ g:aa,(∀ i,bB i ∈ r∨bB i ∈ w→g i=h i)→∃ g',f g=some (x,g',[])∧p g g'=some (r,w)∧(∀ i,bB i ∈ w→g' i=h' i)∧(∀ i,bB i ∉ w→g' i=g i)
section
variable {h h' g:aa} {x:AV} {r w:List Nat}
theorem sH {f:aa→Option R3} {p:aa→aa→Fp} (hw:w=[]) (hp:∀ g g',p g g'=some (r,w)) (hf:∀ g:aa,(∀ i,bB i ∈ r→g i=h i)→f g=some (x,g,[])):ro f p h x h' r w:=fun g hg=>by
 subst hw
 exact ⟨g,hf g fun i hi=>hg i (.inl hi),hp g g,fun i hi=>by simp at hi,fun _ _=>rfl⟩
theorem jN {f:aa→Option R3} {p:aa→aa→Fp} {d:Nat} {o:Ob} (hd:bB d ∈ w) (hh:h'=upd h d o) (hp:∀ g g',p g g'=some (r,w)) (hf:∀ g:aa,g d=h d→f g=some (x,upd g d o,[])):ro f p h x h' r w:=fun g hg=>by
 refine ⟨upd g d o,hf g (hg d (.inr hd)),hp g _,fun i hi=>?_,fun i hi=>?_⟩
 ·subst hh
  unfold upd
  split
  ·rfl
  ·exact hg i (.inr hi)
 ·unfold upd
  split
  ·rename_i e; subst e; exact absurd hd hi
  ·rfl
theorem Ni {a:AV} (hd:ak a=true) (h:aa):du h a=some (a,h,[]):=by
 cases a <;> simp [ak] at hd <;> simp [du,ak,hd]
theorem gp:∀ {xs:List AV},xs.all ak=true→∀ h:aa,dB h xs=some (xs,h,[])
 | [],_,h=>rfl
 | a::l,hd,h=>by
  simp only [List.all_cons,Bool.and_eq_true] at hd
  simp only [dB,Ni hd.1 h,gp hd.2 h,Option.bind_some,List.append_nil]
theorem qJ {a:AV} {xs:List AV} (hd:dat a=true) (hc:dy a=some xs):xs.all ak=true:=by
 cases a <;> simp only [dat,ak,dy,Option.some.injEq] at hd hc <;> first | (cases hc; done) | (cases hd; done) | skip
 all_goals subst hc
 all_goals first | exact hd | simp [ak] | skip
 simp [] at hd ⊢
 exact hd
theorem wE {k:Nat}:∀ {ps:List (Nat × AV)} {rows rows':List (List AV)} {h h':aa} {ks:K},(ps.all fun p=>dat p.2)=true→cY k h rows ps=some (rows',h',ks)→h'=h∧ks=[]∧∀ g:aa,cY k g rows ps=some (rows',g,[])
 | [],rows,rows',h,h',ks,_,hz=>by
  simp only [cY,Option.some.injEq,Prod.mk.injEq] at hz
  obtain ⟨rfl,rfl,rfl⟩:=hz
  exact ⟨rfl,rfl,fun g=>rfl⟩
 | (i,a)::ps,rows,rows',h,h',ks,hd,hz=>by
  simp only [List.all_cons,Bool.and_eq_true] at hd
  simp only [cY,Option.bind_eq_some_iff] at hz
  obtain ⟨cs,e1,hz⟩:=hz
  split at hz
  ·rename_i hc
   have hcs:=qJ hd.1 e1
   simp only [gp hcs h,Option.bind_some,Option.bind_eq_some_iff] at hz
   obtain ⟨⟨r1,r2,r3⟩,e2,e3⟩:=hz
   simp only [List.nil_append,Option.some.injEq,Prod.mk.injEq] at e3
   obtain ⟨rfl,rfl,rfl⟩:=e3
   obtain ⟨q1,q2,q3⟩:=wE hd.2 e2
   refine ⟨q1,q2,fun g=>?_⟩
   simp only [cY,e1,Option.bind_some,if_pos hc,gp hcs g,q3 g,List.nil_append]
  ·cases hz
theorem p9 {k k0 i j:Nat} {agg:Bool} {o:Option (Nat × List (List AV))} {ks:K} (hz:jE h k agg k0 i j o=some (x,h',ks)):h'=h∧ks=[]∧∀ g:aa,jE g k agg k0 i j o=some (x,g,[]):=by
 cases o with
 | none=>cases hz
 | some q =>
  obtain ⟨k',rows⟩:=q
  simp only [jE] at hz
  split at hz
  ·rename_i hk
   simp only [Option.bind_eq_some_iff,Option.map_eq_some_iff] at hz
   obtain ⟨row,e1,a,e2,e3⟩:=hz
   cases e3
   refine ⟨rfl,rfl,fun g=>?_⟩
   simp only [jE,if_pos hk,e1,Option.bind_some,e2,Option.map_some]
  ·cases hz
theorem Ll {k id k0 i j:Nat} {agg:Bool} {o:Ob} (hz:pO h k agg id k0 i j o=some (x,h',[])):h'=h∧∀ g:aa,pO g k agg id k0 i j o=some (x,g,[]):=by
 cases o with
 | dead=>cases hz
 | bx cs =>
  simp only [pO,ug] at hz ⊢
  cases agg with
  | true =>
   simp only [if_true] at hz ⊢
   split at hz
   ·rename_i hc
    simp only [if_pos hc]
    split at hz
    ·cases hz
    ·rename_i hn
     simp only [if_neg hn]
     cases hz
     exact ⟨rfl,fun g=>rfl⟩
   ·cases hz
  | false =>
   simp only [Bool.false_eq_true,if_false,Option.map_eq_some_iff] at hz ⊢
   obtain ⟨c,e1,e2⟩:=hz
   cases e2
   exact ⟨rfl,fun g=>⟨c,e1,rfl⟩⟩
 | ar k' rows =>
  simp only [pO] at hz ⊢
  exact ⟨(p9 hz).1,(p9 hz).2.2⟩
 | fz k' rows =>
  simp only [pO] at hz ⊢
  exact ⟨(p9 hz).1,(p9 hz).2.2⟩
theorem J4 {k:Nat} {agg:Bool} {a:AV} (hz:dU h k agg a=some (x,h',[])) (hp:lk a=some (r,w)):ro (fun g=>dU g k agg a) (fun _ _=>lk a) h x h' r w:=by
 cases a <;> simp only [lk] at hp <;> try (cases hp; done)
 case ipt cs =>
  cases hp
  refine sH rfl (fun _ _=>rfl) fun g _=>?_
  simp only [dU,Option.map_eq_some_iff] at hz ⊢
  obtain ⟨_,e1,e2⟩:=hz
  cases e2
  exact ⟨_,e1,rfl⟩
 case ref id sub k0 i j =>
  cases hp
  refine sH rfl (fun _ _=>rfl) fun g hg=>?_
  have hid:g id=h id:=hg id (by simp)
  cases sub with
  | none =>
   simp only [dU] at hz ⊢
   rw [hid]
   exact (Ll hz).2 g
  | some p =>
   simp only [dU] at hz ⊢
   rw [hid]
   exact (p9 hz).2.2 g
theorem H0 {k:Nat} {a y:AV} (hz:fJ h k a y=some (x,h',[])) (hp:pP y a=some (r,w)):ro (fun g=>fJ g k a y) (fun _ _=>pP y a) h x h' r w:=by
 cases a <;> simp only [pP] at hp <;> try (cases hp; done)
 rename_i id sub k0 i j
 split at hp
 ·rename_i hd
  cases hp
  simp only [fJ,Option.bind_eq_some_iff] at hz
  obtain ⟨xs,e1,hz⟩:=hz
  have hxs:=qJ hd e1
  split at hz
  ·rename_i hk
   cases sub with
   | none =>
    simp only at hz
    cases eo:h id with
    | bx cs =>
     rw [eo] at hz
     simp only [sC,BM] at hz
     split at hz
     ·rename_i hc
      simp only [Option.some.injEq,Prod.mk.injEq] at hz
      obtain ⟨rfl,rfl,e3⟩:=hz
      refine jN (by simp) rfl (fun _ _=>by simp only [pP,if_pos hd]) fun g hg=>?_
      simp only [fJ,e1,Option.bind_some,if_pos hk,hg,eo,sC,BM,if_pos hc,hxs,if_true,e3]
     ·cases hz
    | ar k' rows =>
     rw [eo] at hz
     simp only [sC,gp hxs h,Option.bind_some,eo,BN,Option.map_eq_some_iff] at hz
     obtain ⟨q,e2,e3⟩:=hz
     cases e3
     refine jN (by simp) rfl (fun _ _=>by simp only [pP,if_pos hd]) fun g hg=>?_
     simp only [fJ,e1,Option.bind_some,if_pos hk,hg,eo,sC,gp hxs g,BN,e2,Option.map_some]
    | _=>rw [eo] at hz; cases hz
   | some p =>
    simp only [gp hxs h,Option.bind_some] at hz
    cases eo:h id with
    | bx cs =>
     rw [eo] at hz
     simp only [xF] at hz
     cases ec:cs[p]? with
     | none=>rw [ec] at hz; cases hz
     | some c =>
      rw [ec] at hz
      cases c <;> simp only [Jq] at hz <;> try (cases hz; done)
      simp only [Option.map_eq_some_iff] at hz
      obtain ⟨q,e2,e3⟩:=hz
      cases e3
      refine jN (by simp) rfl (fun _ _=>by simp only [pP,if_pos hd]) fun g hg=>?_
      simp only [fJ,e1,Option.bind_some,if_pos hk,hg,eo,xF,gp hxs g,Jq,ec,e2,Option.map_some]
    | _=>rw [eo] at hz; cases hz
  ·cases hz
 ·cases hp
end
theorem Ru {a b:Value} (h:Re a b=true):a=b:=by
 cases a <;> cases b <;> simp only [Re] at h <;> try (cases h; done)
 case int.int=>simp only [Bool.and_eq_true,decide_eq_true_eq] at h; rw [h.1,h.2]
 case bool.bool=>simp at h; rw [h]
 case string.string x y =>
  simp only [decide_eq_true_eq] at h
  obtain ⟨⟨x⟩⟩:=x
  obtain ⟨⟨y⟩⟩:=y
  simp at h
  rw [h]
 case pointer.pointer x y=>cases x <;> cases y <;> first | rfl | cases h
 case nilFunc.nilFunc=>rfl
mutual
theorem Rw:∀ {a b:AV},Rf a b=true→a=b
 | a,b,h=>by
  cases a <;> cases b <;> simp only [Rf] at h <;> try (first | rfl | (cases h; done))
  case v.v=>rw [Ru h]
  case sl.sl=>simp only [Bool.and_eq_true,decide_eq_true_eq] at h; rw [h.1,wF h.2]
  case osl.osl=>simp only [Bool.and_eq_true,decide_eq_true_eq] at h; rw [h.1,wF h.2]
  case obx.obx=>rw [n9 h]
  case agg.agg=>rw [n9 h]
  case ref.ref=>simp only [decide_eq_true_eq] at h; obtain ⟨rfl,rfl,rfl,rfl,rfl⟩:=h; rfl
  case rsl.rsl=>simp only [decide_eq_true_eq] at h; obtain ⟨rfl,rfl,rfl,rfl,rfl⟩:=h; rfl
  case ipt.ipt=>rw [n9 h]
  case fn.fn=>simp only [Bool.and_eq_true,decide_eq_true_eq] at h; rw [h.1,n9 h.2.1,n9 h.2.2]
theorem n9:∀ {a b:List AV},wm a b=true→a=b
 | [],[],_=>rfl
 | [],_::_,h=>by cases h
 | _::_,[],h=>by cases h
 | a::l,b::r,h=>by
  simp only [wm,Bool.and_eq_true] at h
  rw [Rw h.1,n9 h.2]
theorem wF:∀ {a b:List (List AV)},Ff a b=true→a=b
 | [],[],_=>rfl
 | [],_::_,h=>by cases h
 | _::_,[],h=>by cases h
 | a::l,b::r,h=>by
  simp only [Ff,Bool.and_eq_true] at h
  rw [n9 h.1,wF h.2]
end
theorem Nj {a b:Ob} (h:EK a b=true):a=b:=by
 cases a <;> cases b <;> simp only [EK] at h <;> try (first | rfl | (cases h; done))
 case bx.bx=>rw [n9 h]
 case ar.ar=>simp only [Bool.and_eq_true,decide_eq_true_eq] at h; rw [h.1,wF h.2]
 case fz.fz=>simp only [Bool.and_eq_true,decide_eq_true_eq] at h; rw [h.1,wF h.2]
theorem Lm {g h g' h':aa} {ids:List Nat} (e:∀ i,i ∈ ids→g i=h i) (e':∀ i,i ∈ ids→g' i=h' i):wn g g' ids=wn h h' ids:=by
 unfold wn
 refine List.filter_congr fun i hi=>?_
 rw [e i hi,e' i hi]
theorem Nk {h h':aa} {ids:List Nat} {i:Nat} (hi:i ∈ ids) (hn:bB i ∉ (wn h h' ids).map bB):h' i=h i:=by
 by_cases hs:EK (h i) (h' i)=true
 ·exact (Nj hs).symm
 ·refine absurd (List.mem_map.2 ⟨i,?_,rfl⟩) hn
  simp only [wn,List.mem_filter]
  exact ⟨hi,by simpa using hs⟩
theorem uG {a:Nat}:∀ {r l:List Nat},a ∈ l→a ∈ bo l r
 | [],l,h=>h
 | b::r,l,h=>by
  unfold bo
  apply uG
  split
  ·exact h
  ·simp [h]
theorem rp:∀ {r l:List Nat},l.Nodup→(bo l r).Nodup
 | [],l,h=>h
 | b::r,l,h=>by
  unfold bo
  apply rp
  split
  ·exact h
  ·rename_i hc
   rw [List.nodup_append]
   refine ⟨h,by simp,fun a ha c hc'=>?_⟩
   simp only [List.mem_singleton] at hc'
   subst hc'
   rintro rfl
   exact hc (by simpa using ha)
theorem C0 {h:aa} {a:Nat}:∀ {n:Nat} {l:List Nat} {i:Nat},a ∈ l→a ∈ bJ h n l i
 | 0,l,i,hm=>hm
 | n+1,l,i,hm=>by
  unfold bJ
  split
  ·exact hm
  ·exact C0 (uG hm)
theorem yu {h:aa}:∀ {n:Nat} {l:List Nat} {i:Nat},l.Nodup→(bJ h n l i).Nodup
 | 0,l,i,hm=>hm
 | n+1,l,i,hm=>by
  unfold bJ
  split
  ·exact hm
  ·exact yu (rp hm)
theorem sI {g h:aa}:∀ {n:Nat} {l:List Nat} {i:Nat},(∀ a,a ∈ bJ h n l i→g a=h a)→bJ g n l i=bJ h n l i
 | 0,l,i,_=>rfl
 | n+1,l,i,hg=>by
  unfold bJ at hg ⊢
  split
  ·rfl
  ·rename_i a ha
   rw [ha] at hg
   simp only at hg
   rw [hg a (C0 (uG (List.mem_of_getElem? ha)))]
   exact sI hg
theorem C1 (h:aa) (n:Nat):bJ h n [] 0=[]:=by cases n <;> simp [bJ]
theorem Fy {a:AV} (h:ak a=true):cP a=[]:=by cases a <;> simp [ak] at h <;> rfl
theorem Fz {a:AV} (h:dat a=true):bk a=[]:=by
 cases a <;> simp only [dat] at h <;> try exact Fy h
 case agg cs =>
  simp only [bk,List.flatMap_eq_nil_iff]
  exact fun c hc=>Fy (List.all_eq_true.1 h c hc)
 case fn f x y =>
  simp only [ak,Bool.and_eq_true,List.isEmpty_iff] at h
  simp [bk,h.1,h.2]
theorem C2 {a:AV} (h:dat a=true):lO a=true:=by
 have key:∀ c,ak c=true→kj c=true:=fun c hc=>by cases c <;> simp [ak] at hc <;> rfl
 cases a <;> simp only [dat] at h <;> try exact key _ h
 case agg cs =>
  simp only [lO,List.all_eq_true] at h ⊢
  exact fun c hc=>key c (h c hc)
 case fn f x y =>
  simp only [ak,Bool.and_eq_true,List.isEmpty_iff] at h
  simp [lO,h.1,h.2]
section
variable {h h' g:aa} {x:AV}
theorem yv:∀ {cs:List AV} {q:List AV × aa × K},cs.all kj=true→dB h cs=some q→q=(cs,h,[])∧∀ g:aa,dB g cs=some (cs,g,[])
 | [],q,_,hz=>by cases hz; exact ⟨rfl,fun g=>rfl⟩
 | c::cs,q,hd,hz=>by
  simp only [List.all_cons,Bool.and_eq_true] at hd
  simp only [dB,Option.bind_eq_some_iff] at hz
  obtain ⟨p,e1,q',e2,e3⟩:=hz
  have hc:p=(c,h,[])∧∀ g:aa,du g c=some (c,g,[]):=by
   cases c <;> simp only [kj] at hd <;> simp only [du] at e1 ⊢ <;> first | (cases hd.1; done) | skip
   all_goals
    split at e1
    ·rename_i hdl
     simp only [if_pos hdl]
     cases e1
     exact ⟨rfl,fun g=>by first | trivial | rfl⟩
    ·cases e1
  obtain ⟨rfl,hc2⟩:=hc
  obtain ⟨rfl,q2⟩:=yv hd.2 e2
  cases e3
  refine ⟨rfl,fun g=>?_⟩
  simp only [dB,hc2 g,Option.bind_some,q2 g,List.append_nil]
theorem H1 {m:Nat} {a:AV} {q:R3} (hd:lO a=true) (hz:bM h m a=some q):q=(a,h,[])∧∀ g:aa,bM g m a=some (a,g,[]):=by
 have key:∀ c:AV,(∀ cs,c ≠ .agg cs)→kj c=true→mE h c=some q→q=(c,h,[])∧∀ g:aa,mE g c=some (c,g,[]):=by
  intro c hna hc hz
  have e1:∀ g:aa,mE g c=if ak c then some (c,g,[]) else none:=by
   intro g
   cases c <;> simp only [kj] at hc <;> first | (cases hc; done) | (exact absurd rfl (hna _)) | rfl
  rw [e1] at hz
  split at hz
  ·rename_i hdl
   cases hz
   exact ⟨rfl,fun g=>by rw [e1,if_pos hdl]⟩
  ·cases hz
 cases a with
 | agg cs =>
  simp only [lO] at hd
  simp only [bM,mE,Option.bind_eq_some_iff] at hz ⊢
  obtain ⟨p,e1,e2⟩:=hz
  obtain ⟨rfl,q2⟩:=yv hd e1
  cases e2
  exact ⟨rfl,fun g=>⟨_,q2 g,rfl⟩⟩
 | rsl=>simp [lO,kj] at hd
 | rsc=>simp [lO,kj] at hd
 | ref id sub k i j =>
  cases sub with
  | none =>
   simp only [bM,Option.some.injEq] at hz ⊢
   subst hz
   exact ⟨rfl,fun g=>by first | trivial | rfl⟩
  | some p=>exact key _ (fun cs=>by simp) rfl hz
 | ipt cs =>
  simp only [bM,Option.some.injEq] at hz ⊢
  subst hz
  exact ⟨rfl,fun g=>by first | trivial | rfl⟩
 | fn f u v =>
  simp only [bM,Option.some.injEq] at hz ⊢
  subst hz
  exact ⟨rfl,fun g=>by first | trivial | rfl⟩
 | _=>exact key _ (fun cs=>by simp) rfl hz
theorem wG:∀ {l:List AV} {ms:List Nat} {q:List AV × aa × K},l.all lO=true→ah h ms l=some q→q=(l,h,[])∧∀ g:aa,ah g ms l=some (l,g,[])
 | [],ms,q,_,hz=>by cases hz; exact ⟨rfl,fun g=>rfl⟩
 | a::l,ms,q,hd,hz=>by
  simp only [List.all_cons,Bool.and_eq_true] at hd
  simp only [ah,Option.bind_eq_some_iff] at hz
  obtain ⟨p,e1,q',e2,e3⟩:=hz
  obtain ⟨rfl,p2⟩:=H1 hd.1 e1
  obtain ⟨rfl,q2⟩:=wG hd.2 e2
  cases e3
  refine ⟨rfl,fun g=>?_⟩
  simp only [ah,p2 g,Option.bind_some,q2 g,List.append_nil]
theorem FA {ids:List Nat} {i:Nat}:∀ {l:List Nat} {os:List Ob} {g h:aa},g i=h i→cz g ids l os i=cz h ids l os i
 | [],os,g,h,e=>by simpa [cz] using e
 | a::l,[],g,h,e=>by simpa [cz] using e
 | a::l,o::os,g,h,e=>by
  simp only [cz]
  apply FA
  unfold upd
  split
  ·rfl
  ·exact e
theorem nH {ids:List Nat} {i:Nat}:∀ {l:List Nat} {os:List Ob} {g:aa},i ∉ l→cz g ids l os i=g i
 | [],os,g,_=>rfl
 | a::l,[],g,_=>rfl
 | a::l,o::os,g,hn=>by
  simp only [List.mem_cons,not_or] at hn
  simp only [cz]
  rw [nH hn.2]
  exact ap _ _ hn.1
theorem yP (n:Nat) (g h:aa) (c:AV):(bU n g c).1=(bU n h c).1:=by cases c <;> rfl
theorem Iu {n i:Nat} {g h:aa} {c:AV} (e:g i=h i):(bU n g c).2 i=(bU n h c).2 i:=by
 cases c <;> simp only [bU] <;> first | exact e | (unfold upd; split; rfl; exact e)
theorem FB {n i:Nat} {g:aa} {c:AV} (hn:i ≠ n):(bU n g c).2 i=g i:=by
 cases c <;> simp only [bU] <;> first | rfl | exact ap _ _ hn
theorem FC:∀ (l:List AV) (n:Nat) (g h:aa),(bp n g l).1=(bp n h l).1
 | [],n,g,h=>rfl
 | c::l,n,g,h=>by simp only [bp]; rw [yP n g h,FC l (n+1) _ (bU n h c).2]
theorem Iv {i:Nat}:∀ {l:List AV} {n:Nat} {g h:aa},g i=h i→(bp n g l).2 i=(bp n h l).2 i
 | [],n,g,h,e=>e
 | c::l,n,g,h,e=>by simp only [bp]; exact Iv (Iu e)
theorem FE {i:Nat}:∀ {l:List AV} {n:Nat} {g:aa},¬ (n≤i∧i < n+l.length)→(bp n g l).2 i=g i
 | [],n,g,hn=>rfl
 | c::l,n,g,hn=>by
  simp only [bp]
  simp only [List.length_cons] at hn
  rw [FE (by omega),FB (by omega)]
theorem Iw (n:Nat) (g h:aa) (c:AV):(mat n g c).1=(mat n h c).1:=by
 cases c <;> simp only [mat] <;> first | exact yP _ _ _ _ | rw [FC]
theorem Ln {n i:Nat} {g h:aa} {c:AV} (e:g i=h i):(mat n g c).2 i=(mat n h c).2 i:=by
 cases c <;> simp only [mat] <;> first | exact Iu e | exact Iv e
theorem pk {n i:Nat} {g:aa} {c:AV} (hn:¬ (n≤i∧i < n+cf c)):(mat n g c).2 i=g i:=by
 cases c <;> simp only [mat] <;> simp only [cf] at hn <;> first | exact FB (by omega) | exact FE hn
theorem yw {g h:aa}:∀ {m n:Nat},(∀ i,n≤i→i < n+m→g i=h i)→cx g n m=cx h n m
 | 0,n,_=>rfl
 | m+1,n,hg=>by
  simp only [cx]
  rw [hg n (by omega) (by omega),yw fun i h1 h2=>hg i (by omega) (by omega)]
theorem vo {g h:aa} {gv:K}:∀ {l:List Nat} {os:List Ob},(∀ a,a ∈ l→g a=h a)→cU g gv l os=cU h gv l os
 | [],os,_=>rfl
 | a::l,[],_=>rfl
 | a::l,o::os,hg=>by
  simp only [cU]
  rw [hg a (by simp),vo fun b hb=>hg b (by simp [hb])]
theorem rZ {d i:Nat} (h1:2000+8*d≤i) (h2:i < 2000+8*d+8):bB i=2000+8*d:=by
 unfold bB
 rw [if_neg (by omega)]
 omega
theorem DC {kp:Bool} {d:Nat} {ids:List Nat} {gv:K} {r:AV × List Ob} (hz:dZ kp h d ids [] gv r=some (x,h',[])) (hg:∀ i,bB i ∈ ids.map bB++[2000+8*d]→g i=h i) :
  ∃ g',dZ kp g d ids [] gv r=some (x,g',[])∧(∀ i,bB i ∈ ids.map bB++[2000+8*d]→g' i=h' i)∧(∀ i,bB i ∉ ids.map bB++[2000+8*d]→g' i=g i)∧∀ i,i ∉ ids→bB i ≠ 2000+8*d→h' i=h i:=by
 unfold dZ at hz ⊢
 split at hz
 ·rename_i hc
  simp only [Option.some.injEq,Prod.mk.injEq,List.nil_append,List.append_eq_nil_iff] at hz
  obtain ⟨rfl,rfl,hk,rfl⟩:=hz
  obtain ⟨c1,c0,c2,c3,c4,c5⟩:=hc
  have hid:∀ a,a ∈ ids→g a=h a:=fun a ha=>hg a (by simp; exact .inl ⟨a,ha,rfl⟩)
  have hfr:cx g (2000+8*d) (cf r.1)=true:=by
   rw [yw (h:=h) fun i h1 h2=>hg i (by rw [rZ h1 (by omega)]; simp)]; exact c3
  have hst:cU g [] ids r.2=true:=by rw [vo (h:=h) hid]; exact c4
  refine ⟨(mat (2000+8*d) (cz g ids ids r.2) r.1).2,?_,fun i hi=>?_,fun i hi=>?_,fun i hi hi2=>?_⟩
  ·rw [if_pos ⟨c1,c0,c2,hfr,hst,c5⟩,hk]
   simp only [dC,List.append_nil]
   rw [Iw _ (cz g ids ids r.2) (cz h ids ids r.2)]
  ·simp only [dC]
   exact Ln (FA (hg i hi))
  ·rw [pk (fun hh=>hi (by rw [rZ hh.1 (by omega)]; simp)),nH (fun hh=>hi (by simp; exact .inl ⟨i,hh,rfl⟩))]
  ·simp only [dC]
   rw [pk (fun hh=>hi2 (rZ hh.1 (by omega))),nH hi]
 ·cases hz
theorem H2 {call:cT} {md:Mode} {d:Nat} {f:AV} {zas:List AV} {r w:List Nat} (hz:dq call md h d zas f=some (x,h',[])) (hp:dO h d (il zas f) h'=some (r,w)) :
  ro (fun g=>dq call md g d zas f) (fun g=>dO g d (il zas f)) h x h' r w:=by
 cases f <;> simp only [dq] at hz <;> try (cases hz; done)
 rename_i fid a b
 simp only [il] at hp
 simp only [Option.bind_eq_some_iff] at hz
 obtain ⟨p,e1,e2⟩:=hz
 have hno:(a++zas++b).all lO=true:=by
  unfold dO at hp
  split at hp
  ·rename_i hd
   rw [List.all_eq_true] at hd ⊢
   exact fun c hc=>C2 (hd c hc)
  ·split at hp
   ·assumption
   ·cases hp
 obtain ⟨rfl,e3⟩:=wG hno e1
 simp only at e2
 generalize hI:bJ h 40 (bo [] ((a++zas++b).flatMap bk)) 0=ids at *
 have hids:(∀ i,i ∈ ids→bB i ∈ r)∧w=(wn h h' ids).map bB++[2000+8*d] ∧
   (∀ g g':aa,(∀ i,i ∈ ids→g i=h i)→(∀ i,i ∈ ids→g' i=h' i)→dO g d (a++zas++b) g'=some (r,w)):=by
  unfold dO at hp
  split at hp
  ·rename_i hd
   cases hp
   have:(a++zas++b).flatMap bk=[]:=by
    rw [List.flatMap_eq_nil_iff]
    exact fun c hc=>Fz (List.all_eq_true.1 hd c hc)
   rw [this] at hI
   simp only [bo,C1] at hI
   subst hI
   refine ⟨fun i hi=>by simp at hi,rfl,fun g g' _ _=>?_⟩
   unfold dO
   rw [if_pos hd]
  ·rename_i hd
   rw [hI] at hp
   cases hp
   refine ⟨fun i hi=>List.mem_map.2 ⟨i,hi,rfl⟩,rfl,fun g g' hg hg'=>?_⟩
   unfold dO
   have hre:bJ g 40 (bo [] ((a++zas++b).flatMap bk)) 0=ids:=by
    rw [← hI]
    exact sI fun i hi=>hg i (by rw [← hI]; exact hi)
   rw [if_neg hd,if_pos hno,hre,Lm hg hg']
 obtain ⟨hi1,hi2,hi3⟩:=hids
 intro g hg
 have hat:∀ i,i ∈ ids→g i=h i:=fun i hi=>hg i (.inl (hi1 i hi))
 have hre:bJ g 40 (bo [] ((a++zas++b).flatMap bk)) 0=ids:=by
  rw [← hI]
  exact sI fun i hi=>hat i (by rw [← hI]; exact hi)
 unfold jF at e2
 split at e2
 ·rename_i hc
  simp only [Option.bind_eq_some_iff] at e2
  obtain ⟨res,e4,e5⟩:=e2
  have hgl:∀ i,bB i ∈ ids.map bB++[2000+8*d]→g i=h i:=fun i hi=>by
   rcases List.mem_append.1 hi with hi | hi
   ·obtain ⟨a,ha,hae⟩:=List.mem_map.1 hi
    exact hg i (.inl (by rw [← hae]; exact hi1 a ha))
   ·exact hg i (.inr (by rw [hi2]; exact List.mem_append_right _ hi))
  obtain ⟨g',g1,g2,g3,g4⟩:=DC e5 (g:=g) hgl
  have hat':∀ i,i ∈ ids→g' i=h' i:=fun i hi=>g2 i (List.mem_append_left _ (List.mem_map.2 ⟨i,hi,rfl⟩))
  refine ⟨g',?_,hi3 g g' hat hat',fun i hi=>g2 i ?_,fun i hi=>?_⟩
  ·simp only [dq,e3 g,Option.bind_some,hre]
   unfold jF
   have hmap:ids.map (fun a=>cC (aV ids) (g a))=ids.map fun a=>cC (aV ids) (h a):=List.map_congr_left fun i hi=>by rw [hat i hi]
   have hall:(ids.all fun a=>aA ids (g a) && !cD (g a))=ids.all fun a=>aA ids (h a) && !cD (h a):=by
    rw [Bool.eq_iff_iff,List.all_eq_true,List.all_eq_true]
    exact ⟨fun hh i hi=>by rw [← hat i hi]; exact hh i hi,fun hh i hi=>by rw [hat i hi]; exact hh i hi⟩
   rw [hall,if_pos hc,hmap,e4]
   exact g1
  ·rw [hi2] at hi
   rcases List.mem_append.1 hi with hi | hi
   ·refine List.mem_append_left _ ?_
    obtain ⟨a,ha,hae⟩:=List.mem_map.1 hi
    exact List.mem_map.2 ⟨a,(List.mem_filter.1 ha).1,hae⟩
   ·exact List.mem_append_right _ hi
  ·by_cases hin:bB i ∈ ids.map bB++[2000+8*d]
   ·have hn2:bB i ≠ 2000+8*d:=fun e=>hi (by rw [hi2,e]; simp)
    rw [g2 i hin,hgl i hin]
    by_cases hii:i ∈ ids
    ·exact Nk hii fun hh=>hi (by rw [hi2]; exact List.mem_append_left _ hh)
    ·exact g4 i hii hn2
   ·exact g3 i hin
 ·cases e2
theorem AH {call:cT} {md:Mode} {d:Nat} {f:AV} {zas:List AV} {r w:List Nat} (hz:ai call md h d zas f=some (x,h',[])) (hp:dO h d (il zas f) h'=some (r,w)) :
  ro (fun g=>ai call md g d zas f) (fun g=>dO g d (il zas f)) h x h' r w:=by
 have hb:¬ jG md zas f=true:=by
  intro hb
  have hno:∀ l:List AV,l.all lO=true→l.any (fun x=>!Aq x)=false:=fun l hl=>by
   rw [List.any_eq_false]
   intro c hc
   have:=List.all_eq_true.1 hl c hc
   cases c <;> simp [lO,kj,Aq] at this ⊢
  cases f <;> simp only [jG,Bool.and_eq_true] at hb <;> try (cases hb; done)
  simp only [il] at hp
  unfold dO at hp
  split at hp
  ·rename_i hd
   rw [hno _ (List.all_eq_true.2 fun c hc=>C2 (List.all_eq_true.1 hd c hc))] at hb
   exact Bool.false_ne_true hb.2
  ·split at hp
   ·rename_i hd
    rw [hno _ hd] at hb
    exact Bool.false_ne_true hb.2
   ·cases hp
 unfold ai at hz ⊢
 simp only [if_neg hb] at hz ⊢
 exact H2 hz hp
theorem yx {d:Nat} {x0 x:AV} {h0 g0 h':aa} {k0:K} (hz:nZ d (x0,h0,k0)=some (x,h',[])) (hg:∀ i,bB i=2000+8*d→g0 i=h0 i) :
  k0=[]∧∃ g',nZ d (x0,g0,[])=some (x,g',[])∧(∀ i,bB i=2000+8*d→g' i=h' i)∧(∀ i,bB i ≠ 2000+8*d→g' i=g0 i):=by
 unfold nZ at hz ⊢
 simp only at hz ⊢
 split at hz
 ·rename_i id k lo n
  split at hz
  ·rename_i hid
   subst hid
   have hgd:bB (2000+8*d)=2000+8*d:=rZ (Nat.le_refl _) (by omega)
   have he:=hg _ hgd
   rw [if_pos rfl]
   simp only [du] at hz ⊢
   rw [he]
   cases eo:h0 (2000+8*d) <;> rw [eo] at hz <;> simp only [jf] at hz ⊢ <;> try (cases hz; done)
   ·split at hz
    ·simp at hz
    ·cases hz
   ·split at hz
    ·rename_i hc
     rw [if_pos hc]
     simp only [Option.map_some,Option.some.injEq,Prod.mk.injEq,List.append_nil] at hz
     obtain ⟨rfl,rfl,rfl⟩:=hz
     refine ⟨rfl,upd g0 (2000+8*d) (.fz k _),rfl,fun i hi=>?_,fun i hi=>?_⟩
     ·show upd g0 (2000+8*d) _ i=upd h0 (2000+8*d) _ i
      unfold upd
      split
      ·rfl
      ·exact hg i hi
     ·show upd g0 (2000+8*d) _ i=_
      unfold upd
      split
      ·rename_i e; subst e; exact absurd hgd hi
      ·rfl
    ·cases hz
   ·split at hz
    ·rename_i hc
     rw [if_pos hc]
     simp only [Option.map_some,Option.some.injEq,Prod.mk.injEq,List.append_nil] at hz
     obtain ⟨rfl,rfl,rfl⟩:=hz
     exact ⟨rfl,_,rfl,fun i hi=>hg i hi,fun i hi=>rfl⟩
    ·cases hz
  ·cases hz
 ·simp only [Option.some.injEq,Prod.mk.injEq] at hz
  obtain ⟨rfl,rfl,rfl⟩:=hz
  exact ⟨rfl,_,rfl,fun i hi=>hg i hi,fun i hi=>rfl⟩
theorem uH {call:cT} {md:Mode} {d:Nat} {op:AOp} {s:af} {r w:List Nat} (hz:step call md d op s h=some (x,h',[])) (hp:dh d op s h h'=some (r,w)) :
  ro (fun g=>step call md d op s g) (fun g=>dh d op s g) h x h' r w:=by
 cases op with
 | p op =>
  simp only [dh,Option.some.injEq,Prod.mk.injEq] at hp
  obtain ⟨rfl,rfl⟩:=hp
  simp only [step,ri,Option.map_eq_some_iff] at hz
  obtain ⟨a,e1,e2⟩:=hz
  cases e2
  exact sH rfl (fun _ _=>rfl) fun g _=>by simp only [step,ri,e1,Option.map_some]
 | alloc z =>
  simp only [dh,Option.some.injEq,Prod.mk.injEq] at hp
  obtain ⟨rfl,rfl⟩:=hp
  simp only [step,fK] at hz
  obtain ⟨h1,rfl,rfl,_⟩:=gJ hz
  exact jN (by simp) rfl (fun _ _=>rfl) fun g hg=>by simp only [step,fK,hg,h1,rf]
 | box k y =>
  simp only [dh] at hp
  split at hp
  ·rename_i hd
   cases hp
   simp only [step,rg,Option.bind_eq_some_iff] at hz
   obtain ⟨xs,e1,hz⟩:=hz
   split at hz
   ·rename_i hk
    simp only [qJ hd e1,if_true,fK] at hz
    obtain ⟨h1,rfl,rfl,_⟩:=gJ hz
    refine jN (by simp) rfl (fun _ _=>by simp only [dh,if_pos hd]) fun g hg=>?_
    simp only [step,rg,e1,Option.bind_some,if_pos hk,qJ hd e1,if_true,fK,hg,h1,rf]
   ·cases hz
  ·cases hp
 | buildSl k z n ps =>
  simp only [dh] at hp
  split at hp
  ·rename_i hd
   cases hp
   simp only [step,Option.bind_eq_some_iff] at hz
   obtain ⟨q,e1,hz⟩:=hz
   have hd':((ps.map fun p=>(p.1,ev s p.2)).all fun p=>dat p.2)=true:=by
    rw [List.all_map]; exact hd
   obtain ⟨e2,e3,e4⟩:=wE hd' e1
   obtain ⟨q1,q2,q3⟩:=q
   simp only at e2 e3 e4 hz
   subst e2 e3
   simp only [bO] at hz
   obtain ⟨h1,rfl,rfl,_⟩:=gJ hz
   refine jN (by simp) rfl (fun _ _=>by simp only [dh,if_pos hd]) fun g hg=>?_
   simp only [step,e4 g,Option.bind_some,bO,hg,h1,rf]
  ·cases hp
 | mkSl k z b l c =>
  simp only [dh,Option.some.injEq,Prod.mk.injEq] at hp
  obtain ⟨rfl,rfl⟩:=hp
  simp only [step,Option.bind_eq_some_iff] at hz
  obtain ⟨q,e1,hz⟩:=hz
  split at hz
  ·rename_i hb
   simp only [bO] at hz
   obtain ⟨h1,rfl,rfl,_⟩:=gJ hz
   refine jN (by simp) rfl (fun _ _=>rfl) fun g hg=>?_
   simp only [step,e1,Option.bind_some,if_pos hb,bO,hg,h1,rf]
  ·cases hz
 | load k g y=>exact J4 hz hp
 | store k a y=>exact H0 hz hp
 | app k b a y=>cases hp
 | cpy k x y=>cases hp
 | slcM k x lo hi=>cases hp
 | clr k z x=>cases hp
 | appz k b z x n=>cases hp
 | take x=>cases hp
 | call f zas=>exact AH hz hp
 | callC f zas =>
  simp only [step,Option.bind_eq_some_iff] at hz
  obtain ⟨⟨x0,h0,k0⟩,e1,e2⟩:=hz
  simp only [dh,wo] at hp
  split at hp
  ·rename_i hd
   cases hp
   obtain ⟨rfl,_⟩:=yx (g0:=h0) e2 (fun _ _=>rfl)
   have hp1:dO h d (il (zas.map (ev s)) (ev s f)) h0=some ([],[2000+8*d]):=by unfold dO; rw [if_pos hd]
   intro g hg
   obtain ⟨g0,a1,a2,a3,a4⟩:=AH e1 hp1 g hg
   obtain ⟨_,g',b1,b2,b3⟩:=yx e2 (g0:=g0) (fun i hi=>a3 i (by simp [hi]))
   refine ⟨g',?_,?_,fun i hi=>b2 i (by simpa using hi),fun i hi=>(b3 i (by simpa using hi)).trans (a4 i hi)⟩
   ·have a1':ai call md g d (zas.map (ev s)) (ev s f)=some (x0,g0,[]):=a1
    simp only [step]
    rw [a1']
    exact b1
   ·simp only [dh,wo,if_pos hd]
  ·cases hp
 | bad=>cases hz
end
section
variable {call:cT} {md:Mode} {s:af} {h:aa}
theorem bh {s s':af} {o:Opd} (hs:∀ i,i ∈ dz o→s' i=s i):ev s' o=ev s o:=by
 cases o with
 | t n=>exact hs n (by simp [dz])
 | c a=>rfl
theorem lu {s s':af} {o:Option Opd} (hs:∀ i,i ∈ iW o.toList→s' i=s i):evo s' o=evo s o:=by
 cases o with
 | none=>rfl
 | some o=>simp only [evo]; rw [bh fun i hi=>hs i (by simpa [iW] using hi)]
theorem qf {s s':af} {l:List Opd} (hs:∀ i,i ∈ iW l→s' i=s i):l.map (ev s')=l.map (ev s) :=
 List.map_congr_left fun o ho=>bh fun i hi=>hs i (by simp only [iW,List.mem_flatMap]; exact ⟨o,ho,hi⟩)
theorem Lo {s s':af} {op:POp} (hs:∀ i,i ∈ As op→s' i=s i):dp s' op=dp s op:=by
 cases op <;> simp only [As,List.mem_append] at hs <;> simp only [dp]
 case build z ps =>
  have:(ps.map fun p=>(p.1,p.2.1,ev s' p.2.2))=ps.map fun p=>(p.1,p.2.1,ev s p.2.2) :=
   List.map_congr_left fun p hp=>by rw [bh fun i hi=>hs i (by rw [List.mem_flatMap]; exact ⟨p,hp,hi⟩)]
  rw [this]
 case mnx m x ys=>rw [bh fun i hi=>hs i (.inl hi),qf fun i hi=>hs i (.inr hi)]
 case mkF f a b=>rw [qf fun i hi=>hs i (.inl hi),qf fun i hi=>hs i (.inr hi)]
 case pick c a b=>rw [bh fun i hi=>hs i (.inl hi),bh fun i hi=>hs i (.inr (.inl hi)),bh fun i hi=>hs i (.inr (.inr hi))]
 case slc k x lo hi mx=>rw [bh fun i hi=>hs i (.inl hi),lu fun i hi=>hs i (.inr (.inl hi)),lu fun i hi=>hs i (.inr (.inr (.inl hi))),lu fun i hi=>hs i (.inr (.inr (.inr hi)))]
 case slcS x lo hi=>rw [bh fun i hi=>hs i (.inl hi),lu fun i hi=>hs i (.inr (.inl hi)),lu fun i hi=>hs i (.inr (.inr hi))]
 all_goals first
  | rw [bh hs]
  | rw [bh fun i hi=>hs i (.inl hi),bh fun i hi=>hs i (.inr hi)]
theorem oe {s s':af} {d:Nat} {op:AOp} (hs:∀ i,i ∈ At op→s' i=s i):step call md d op s' h=step call md d op s h∧∀ h',dh d op s' h h'=dh d op s h h':=by
 cases op <;> simp only [At,List.mem_append] at hs <;> simp only [step,dh]
 case p op=>rw [Lo hs]; exact ⟨rfl,fun _=>trivial⟩
 case alloc z=>exact ⟨trivial,fun _=>trivial⟩
 case box k x=>rw [bh hs]; exact ⟨rfl,fun _=>rfl⟩
 case buildSl k z n ps =>
  have:(ps.map fun p=>(p.1,ev s' p.2))=ps.map fun p=>(p.1,ev s p.2) :=
   List.map_congr_left fun p hp=>by rw [bh fun i hi=>hs i (by rw [List.mem_flatMap]; exact ⟨p,hp,hi⟩)]
  rw [this]
  have h2:(ps.all fun p=>dat (ev s' p.2))=ps.all fun p=>dat (ev s p.2):=by
   rw [show (ps.all fun p=>dat (ev s' p.2))=((ps.map fun p=>(p.1,ev s' p.2)).all fun p=>dat p.2) from by rw [List.all_map]; rfl,this,List.all_map]; rfl
  rw [h2]
  exact ⟨rfl,fun _=>rfl⟩
 case mkSl k z b l c=>rw [bh fun i hi=>hs i (.inl hi),bh fun i hi=>hs i (.inr hi)]; exact ⟨rfl,fun _=>trivial⟩
 case load k g x=>rw [bh hs]; exact ⟨rfl,fun _=>rfl⟩
 case store k x y=>rw [bh fun i hi=>hs i (.inl hi),bh fun i hi=>hs i (.inr hi)]; exact ⟨rfl,fun _=>rfl⟩
 case app k b x y=>rw [bh fun i hi=>hs i (.inl hi),bh fun i hi=>hs i (.inr hi)]; exact ⟨rfl,fun _=>trivial⟩
 case cpy k x y=>rw [bh fun i hi=>hs i (.inl hi),bh fun i hi=>hs i (.inr hi)]; exact ⟨rfl,fun _=>trivial⟩
 case slcM k x lo hi=>rw [bh fun i hi=>hs i (.inl hi),lu fun i hi=>hs i (.inr (.inl hi)),lu fun i hi=>hs i (.inr (.inr hi))]; exact ⟨rfl,fun _=>trivial⟩
 case clr k z x=>rw [bh hs]; exact ⟨rfl,fun _=>trivial⟩
 case appz k b z x n=>rw [bh fun i hi=>hs i (.inl hi),bh fun i hi=>hs i (.inr hi)]; exact ⟨rfl,fun _=>trivial⟩
 case take x=>rw [bh hs]; exact ⟨rfl,fun _=>trivial⟩
 case call f zas=>rw [bh fun i hi=>hs i (.inl hi),qf fun i hi=>hs i (.inr hi)]; exact ⟨rfl,fun _=>rfl⟩
 case callC f zas=>rw [bh fun i hi=>hs i (.inl hi),qf fun i hi=>hs i (.inr hi)]; exact ⟨rfl,fun _=>rfl⟩
 case bad=>exact ⟨trivial,fun _=>trivial⟩
theorem wH {d:Option Nat} {f:aa→Fp} {f':Fp} {r:Option R3} {t:St} (hz:fh s d f r=some (t,f')):∃ x h',r=some (x,h',[])∧t=⟨cr s d x,h'⟩∧f'=f h':=by
 unfold fh at hz
 split at hz
 ·cases hz; exact ⟨_,_,rfl,rfl,rfl⟩
 ·cases hz
theorem sd {o:COp} {t:St} {f:Fp} (hz:cj call md o s h=some (t,f)) :
  ∃ x h',t=⟨cr s o.d x,h'⟩∧((∀ s':af,∀ g:aa,(∀ i,i ∈ fL o→s' i=s i)→cj call md o s' g=some (⟨cr s' o.d x,g⟩,some ([],[])))∧h'=h∧f=some ([],[]) ∨
   (step call md (o.d.getD 0) o.op s h=some (x,h',[])∧f=dh (o.d.getD 0) o.op s h h' ∧
    ∀ s':af,∀ g:aa,(∀ i,i ∈ fL o→s' i=s i)→cj call md o s' g=fh s' o.d (dh (o.d.getD 0) o.op s g) (step call md (o.d.getD 0) o.op s g))):=by
 unfold cj at hz
 cases hg:o.g with
 | none =>
  rw [hg] at hz
  simp only at hz
  obtain ⟨x,h',e1,e2,e3⟩:=wH hz
  refine ⟨x,h',e2,.inr ⟨e1,e3,fun s' g hs=>?_⟩⟩
  simp only [fL,hg,List.nil_append] at hs
  unfold cj
  rw [hg]
  simp only
  rw [(oe (h:=g) hs).1,funext (oe (call:=call) (md:=md) (h:=g) hs).2]
 | some jb =>
  obtain ⟨j,b⟩:=jb
  rw [hg] at hz
  simp only at hz
  have hj:∀ s':af,(∀ i,i ∈ fL o→s' i=s i)→s' j=s j:=fun s' hs=>hs j (by simp [fL,hg])
  unfold jI at hz
  split at hz
  ·rename_i bb hb
   split at hz
   ·rename_i hbb
    obtain ⟨x,h',e1,e2,e3⟩:=wH hz
    refine ⟨x,h',e2,.inr ⟨e1,e3,fun s' g hs=>?_⟩⟩
    unfold cj
    rw [hg]
    simp only
    rw [hj s' hs,hb]
    simp only [jI,if_pos hbb]
    simp only [fL,hg,List.mem_append] at hs
    rw [(oe (h:=g) fun i hi=>hs i (.inr hi)).1,funext (oe (call:=call) (md:=md) (h:=g) fun i hi=>hs i (.inr hi)).2]
   ·rename_i hbb
    cases hz
    refine ⟨.und,h,rfl,.inl ⟨fun s' g hs=>?_,rfl,rfl⟩⟩
    unfold cj
    rw [hg]
    simp only
    rw [hj s' hs,hb]
    simp only [jI,if_neg hbb]
  ·rename_i hb
   cases hz
   refine ⟨.und,h,rfl,.inl ⟨fun s' g hs=>?_,rfl,rfl⟩⟩
   unfold cj
   rw [hg]
   simp only
   rw [hj s' hs,hb]
   simp only [jI]
  ·cases hz
theorem xO {d:Option Nat} {x:AV} {i:Nat} (hn:∀ e,d=some e→i ≠ e):cr s d x i=s i:=by
 cases d with
 | none=>rfl
 | some e=>exact ap _ _ (hn e rfl)
theorem C3 {a b:Option Nat} (x y:AV) (hn:∀ i j,a=some i→b=some j→i ≠ j):cr (cr s a x) b y=cr (cr s b y) a x:=by
 cases a with
 | none=>rfl
 | some i =>
  cases b with
  | none=>rfl
  | some j =>
   have:=hn i j rfl rfl
   funext k
   simp only [cr,upd]
   by_cases h1:k=j <;> by_cases h2:k=i
   ·omega
   ·subst h1; simp [h2]
   ·subst h2; simp [h1]
   ·simp [h1,h2]
theorem AI {a b:COp} (hi:qD a b=true):(∀ i d,i ∈ fL b→a.d=some d→i ≠ d)∧(∀ i d,i ∈ fL a→b.d=some d→i ≠ d)∧∀ i j,a.d=some i→b.d=some j→i ≠ j:=by
 simp only [qD,Bool.and_eq_true] at hi
 obtain ⟨⟨h1,h2⟩,h3⟩:=hi
 refine ⟨fun i d hm hd=>?_,fun i d hm hd=>?_,fun i j e1 e2=>?_⟩
 ·rw [hd] at h1
  rintro rfl
  simp at h1
  exact h1 hm
 ·rw [hd] at h2
  rintro rfl
  simp at h2
  exact h2 hm
 ·rw [e1,e2] at h3
  simpa using h3
def lv (f g:Fp):Prop:=fw f g=true
theorem se {a b:List Nat} (h:jg a b=true) {i:Nat} (ha:i ∈ a):i ∉ b:=by
 simp only [jg,List.all_eq_true,Bool.not_eq_true',List.contains_eq_mem,decide_eq_false_iff_not] at h
 exact h i ha
theorem qK {α:Type} {l:List α} (h:l.isEmpty=true):l=[]:=by cases l <;> simp at h ⊢
theorem Uc {a b:COp} {t1 t2:St} {fa fb:Fp} (ha:cj call md a s h=some (t1,fa)) (hb:cj call md b t1.s t1.h=some (t2,fb)) (hi:qD a b=true) (hf:lv fa fb) :
  ∃ t,cj call md b s h=some (t,fb)∧cj call md a t.s t.h=some (t2,fa):=by
 obtain ⟨i1,i2,i3⟩:=AI hi
 obtain ⟨xa,ha',rfl,ca⟩:=sd ha
 simp only at hb
 obtain ⟨xb,hb',rfl,cb⟩:=sd hb
 have sb:∀ i,i ∈ fL b→s i=cr s a.d xa i:=fun i hm=>(xO fun e he=>i1 i e hm he).symm
 have sa:∀ i,i ∈ fL a→cr s b.d xb i=s i:=fun i hm=>xO fun e he=>i2 i e hm he
 have sc:=C3 (s:=s) xa xb i3
 rcases ca with ⟨ca,rfl,rfl⟩ | ⟨ea,rfl,ca⟩
 ·
  rcases cb with ⟨cb,rfl,rfl⟩ | ⟨eb,rfl,cb⟩
  ·exact ⟨_,cb s _ sb,by rw [ca _ _ sa,← sc]⟩
  ·refine ⟨⟨cr s b.d xb,hb'⟩,?_,by rw [ca _ _ sa,← sc]⟩
   rw [cb s _ sb,eb]
   rfl
 ·rcases cb with ⟨cb,rfl,rfl⟩ | ⟨eb,rfl,cb⟩
  ·refine ⟨_,cb s _ sb,?_⟩
   rw [ca _ _ sa,ea]
   simp only [fh,← sc]
  ·
   unfold lv at hf
   cases efa:dh (a.d.getD 0) a.op s h ha' with
   | none =>
    rw [efa] at hf
    cases efb:dh (b.d.getD 0) b.op (cr s a.d xa) ha' hb' with
    | none=>rw [efb] at hf; cases hf
    | some q =>
     obtain ⟨r,w⟩:=q
     rw [efb] at hf
     simp only [fw,Bool.and_eq_true] at hf
     have hr:=qK hf.1
     have hw:=qK hf.2
     subst hr hw
     have fb:=uH eb efb
     obtain ⟨g1,p1,p2,p3,p4⟩:=fb h (fun i hi=>by simp at hi)
     obtain ⟨g2,q1,q2,q3,q4⟩:=fb ha' (fun i hi=>rfl)
     have e1:g1=h:=funext fun i=>p4 i (by simp)
     have e2:hb'=ha':=by
      have:g2=hb':=by dsimp only at q1; rw [eb] at q1; simpa using q1.symm
      rw [← this]
      exact funext fun i=>q4 i (by simp)
     subst e1 e2
     refine ⟨⟨cr s b.d xb,g1⟩,?_,?_⟩
     ·rw [cb s _ sb]
      dsimp only at p1 p2
      rw [p1]
      simp only [fh,p2]
     ·rw [ca _ _ sa,ea]
      simp only [fh,efa,← sc]
   | some p =>
    obtain ⟨ra,wa⟩:=p
    rw [efa] at hf
    have fra:=uH ea efa
    cases efb:dh (b.d.getD 0) b.op (cr s a.d xa) ha' hb' with
    | none =>
     rw [efb] at hf
     simp only [fw,Bool.and_eq_true] at hf
     have hr:=qK hf.1
     have hw:=qK hf.2
     subst hr hw
     obtain ⟨g1,p1,p2,p3,p4⟩:=fra h (fun i hi=>rfl)
     have e1:ha'=h:=by
      have:g1=ha':=by dsimp only at p1; rw [ea] at p1; simpa using p1.symm
      rw [← this]
      exact funext fun i=>p4 i (by simp)
     subst e1
     obtain ⟨g2,q1,q2,q3,q4⟩:=fra hb' (fun i hi=>by simp at hi)
     have e2:g2=hb':=funext fun i=>q4 i (by simp)
     subst e2
     refine ⟨⟨cr s b.d xb,g2⟩,?_,?_⟩
     ·rw [cb s _ sb,eb]
      simp only [fh,efb]
     ·rw [ca _ _ sa]
      dsimp only at q1 q2
      rw [q1]
      simp only [fh,q2,← sc]
    | some q =>
     obtain ⟨rb,wb⟩:=q
     rw [efb] at hf
     simp only [fw,Bool.and_eq_true] at hf
     obtain ⟨d1,d2⟩:=hf
     have frb:=uH eb efb
     have hout:∀ i,bB i ∉ wa→ha' i=h i:=by
      obtain ⟨g1,p1,p2,p3,p4⟩:=fra h (fun i hi=>rfl)
      have:g1=ha':=by dsimp only at p1; rw [ea] at p1; simpa using p1.symm
      subst this
      exact p4
     have hout2:∀ i,bB i ∉ wb→hb' i=ha' i:=by
      obtain ⟨g1,p1,p2,p3,p4⟩:=frb ha' (fun i hi=>rfl)
      have:g1=hb':=by dsimp only at p1; rw [eb] at p1; simpa using p1.symm
      subst this
      exact p4
     have nwa:∀ i,bB i ∈ rb∨bB i ∈ wb→bB i ∉ wa:=fun i hi hw=>se d1 hw (by simpa using hi)
     obtain ⟨g1,p1,p2,p3,p4⟩:=frb h (fun i hi=>(hout i (nwa i hi)).symm)
     have agr:∀ i,bB i ∈ ra∨bB i ∈ wa→g1 i=h i:=fun i hi=>p4 i fun hw=>by
      rcases hi with hi | hi
      ·exact se d2 hw hi
      ·exact nwa i (.inr hw) hi
     obtain ⟨g2,q1,q2,q3,q4⟩:=fra g1 agr
     have e2:g2=hb':=funext fun i=>by
      by_cases hwa:bB i ∈ wa
      ·rw [q3 i hwa]
       exact (hout2 i fun hw=>nwa i (.inr hw) hwa).symm
      ·rw [q4 i hwa]
       by_cases hwb:bB i ∈ wb
       ·exact p3 i hwb
       ·rw [p4 i hwb,hout2 i hwb,hout i hwa]
     subst e2
     refine ⟨⟨cr s b.d xb,g1⟩,?_,?_⟩
     ·rw [cb s _ sb]
      dsimp only at p1 p2
      rw [p1]
      simp only [fh,p2]
     ·rw [ca _ _ sa]
      dsimp only at q1 q2
      rw [q1]
      simp only [fh,q2,← sc]
theorem FF {o:COp} {post:List COp}:∀ {pre:List COp} {s:af} {h:aa} {t:St} {Fs:List Fp},dA call md (pre++o::post) s h=some (t,Fs) →
  ∃ Fpre f Fpost,Fs=Fpre++f::Fpost∧Fpre.length=pre.length∧((∀ (j:Nat) (a:COp) (fa:Fp),pre[j]?=some a→Fpre[j]?=some fa→qD a o=true∧lv fa f) →
   ∃ t1,cj call md o s h=some (t1,f)∧dA call md (pre++post) t1.s t1.h=some (t,Fpre++Fpost))
 | [],s,h,t,Fs,hz=>by
  simp only [List.nil_append,dA,Option.bind_eq_some_iff] at hz
  obtain ⟨⟨t1,f⟩,e1,⟨t2,F2⟩,e2,e3⟩:=hz
  cases e3
  exact ⟨[],f,F2,rfl,rfl,fun _=>⟨t1,e1,e2⟩⟩
 | a::pre,s,h,t,Fs,hz=>by
  simp only [List.cons_append,dA,Option.bind_eq_some_iff] at hz
  obtain ⟨⟨t1,fa⟩,e1,⟨t2,F2⟩,e2,e3⟩:=hz
  cases e3
  obtain ⟨Fpre,f,Fpost,rfl,hl,hh⟩:=FF e2
  refine ⟨fa::Fpre,f,Fpost,rfl,by simp [hl],fun hc=>?_⟩
  obtain ⟨t3,g1,g2⟩:=hh fun j a' fa' h1 h2=>hc (j+1) a' fa' (by simpa using h1) (by simpa using h2)
  obtain ⟨c1,c2⟩:=hc 0 a fa rfl rfl
  obtain ⟨t4,k1,k2⟩:=Uc e1 g1 c1 c2
  refine ⟨t4,k1,?_⟩
  simp only [List.cons_append,dA,k2,Option.bind_some,g2]
end
section
variable {P:Program} {I:Inv} {call:cT} {md:Mode} {N:Nat} {ops:Array Oper}
theorem H3 {o:COp} {s:af} {h:aa} {t:St} {f:Fp} (hz:cj call md o s h=some (t,f)):fW call md o s h=some t:=by
 have fin:∀ (F:aa→Fp) (r:Option R3),fh s o.d F r=some (t,f)→bK md.nm s o.d r=some t:=by
  intro F r hz
  obtain ⟨x,h',e1,e2,_⟩:=wH hz
  subst e1 e2
  simp only [bK,iJ,if_true]
  rfl
 unfold cj at hz
 unfold fW
 cases hg:o.g with
 | none =>
  rw [hg] at hz
  exact fin _ _ hz
 | some jb =>
  obtain ⟨j,b⟩:=jb
  rw [hg] at hz
  simp only at hz ⊢
  unfold jI at hz
  unfold fv
  split at hz
  ·rename_i bb hb
   split at hz
   ·rename_i hbb
    rw [if_pos hbb]
    exact fin _ _ hz
   ·rename_i hbb
    rw [if_neg hbb]
    cases hz
    rfl
  ·cases hz
   simp only
  ·cases hz
theorem og:∀ {l:List Oper} {hs cl:List COp},ko P N ops hs l=some cl→cl.length=l.length∧∀ (j:Nat) (o:Oper) (c:COp),l[j]?=some o→cl[j]?=some c→∃ hint,EP P N ops hint o=some c
 | [],hs,cl,hc=>by simp only [ko,Option.some.injEq] at hc; subst hc; exact ⟨rfl,fun j o c h1=>by simp at h1⟩
 | o::l,hs,cl,hc=>by
  simp only [ko,Option.bind_eq_some_iff] at hc
  obtain ⟨c,e1,q,e2,e3⟩:=hc
  cases e3
  obtain ⟨g1,g2⟩:=og e2
  refine ⟨by simp [g1],fun j o' c' h1 h2=>?_⟩
  cases j with
  | zero=>simp at h1 h2; subst h1 h2; exact ⟨_,e1⟩
  | succ j=>exact g2 j o' c' (by simpa using h1) (by simpa using h2)
theorem FG:∀ {l:List COp} {s:af} {h:aa} {t:St} {Fs:List Fp},dA call md l s h=some (t,Fs)→Fs.length=l.length∧∀ (j:Nat) (a:COp) (f:Fp),l[j]?=some a→Fs[j]?=some f→∃ s' h' t',cj call md a s' h'=some (t',f)
 | [],s,h,t,Fs,hz=>by simp only [dA,Option.some.injEq,Prod.mk.injEq] at hz; obtain ⟨_,rfl⟩:=hz; exact ⟨rfl,fun j a f h1=>by simp at h1⟩
 | o::l,s,h,t,Fs,hz=>by
  simp only [dA,Option.bind_eq_some_iff] at hz
  obtain ⟨⟨t1,f1⟩,e1,⟨t2,F2⟩,e2,e3⟩:=hz
  cases e3
  obtain ⟨g1,g2⟩:=FG e2
  refine ⟨by simp [g1],fun j a f h1 h2=>?_⟩
  cases j with
  | zero=>simp at h1 h2; subst h1 h2; exact ⟨s,h,t1,e1⟩
  | succ j=>exact g2 j a f (by simpa using h1) (by simpa using h2)
theorem BX {i:Nat}:∀ {l acc:List Nat},i ∈ Iq acc l↔i ∈ acc∨i ∈ l
 | [],acc=>by simp [Iq]
 | a::l,acc=>by
  unfold Iq
  cases h:acc.contains a with
  | true =>
   simp only []
   rw [BX]
   have ha:a ∈ acc:=by simpa using h
   constructor
   ·rintro (h1 | h1)
    ·exact .inl h1
    ·exact .inr (List.mem_cons_of_mem _ h1)
   ·rintro (h1 | h1)
    ·exact .inl h1
    ·rcases List.mem_cons.1 h1 with rfl | h1
     ·exact .inl ha
     ·exact .inr h1
  | false =>
   simp only []
   rw [BX]
   simp only [List.mem_cons]
   constructor
   ·rintro ((h1 | h1) | h1)
    ·exact .inr (.inl h1)
    ·exact .inl h1
    ·exact .inr (.inr h1)
   ·rintro (h1 | h1 | h1)
    ·exact .inl (.inr h1)
    ·exact .inl (.inl h1)
    ·exact .inr h1
theorem yQ {o:Oper} {acc:List (List Nat)} {i:Nat}:i ∈ uw o acc↔i ∈ jM o∨∃ d ∈ jM o,i ∈ acc.getD d []:=by
 unfold uw
 rw [BX,List.mem_append,List.mem_flatMap]
 simp
theorem yR:∀ (l:List Oper) (acc:List (List Nat)),∃ r,hH l acc=acc++r∧r.length=l.length
 | [],acc=>⟨[],by simp [hH],rfl⟩
 | o::l,acc=>by
  obtain ⟨r,e1,e2⟩:=yR l (acc++[uw o acc])
  exact ⟨uw o acc::r,by rw [hH,e1,List.append_assoc]; rfl,by simp [e2]⟩
theorem FH:∀ (l:List Oper) (acc:List (List Nat)) (j:Nat) (o:Oper),l[j]?=some o→∃ pre,(hH l acc)[acc.length+j]?=some (uw o pre) ∧
  pre.length=acc.length+j∧∃ r,hH l acc=pre++r
 | [],acc,j,o,h=>by simp at h
 | o::l,acc,0,o',h=>by
  simp at h
  subst h
  obtain ⟨r,e1,e2⟩:=yR l (acc++[uw o acc])
  refine ⟨acc,?_,rfl,⟨_,by rw [hH,e1,List.append_assoc]⟩⟩
  rw [hH,e1,List.append_assoc]
  simp
 | o::l,acc,j+1,o',h=>by
  obtain ⟨pre,e1,e2,e3⟩:=FH l (acc++[uw o acc]) j o' (by simpa using h)
  refine ⟨pre,?_,by simp [e2]; omega,e3⟩
  rw [hH,← e1]
  congr 1
  simp
  omega
theorem wI {C:Nat→Nat→COp→COp→Bool} {j:Nat} {b:COp} {bf:List Nat}:∀ {l:List COp} {i0:Nat},xK C j b bf i0 l=true→∀ (i:Nat) (a:COp),l[i]?=some a→(i0+i) ∈ bf∨C (i0+i) j a b=true
 | [],i0,_,i,a,h=>by simp at h
 | c::l,i0,hd,i,a,h=>by
  simp only [xK,Bool.and_eq_true,Bool.or_eq_true] at hd
  cases i with
  | zero=>simp at h; subst h; simpa using hd.1
  | succ i =>
   have:=wI hd.2 i a (by simpa using h)
   rwa [show i0+1+i=i0+(i+1) from by omega] at this
theorem qw {C:Nat→Nat→COp→COp→Bool}:∀ {l:List COp} {bs:List (List Nat)} {j0:Nat} {done:List COp},done.length=j0→uz C j0 done l bs=true→∀ (j:Nat) (b:COp) (bf:List Nat),l[j]?=some b→bs[j]?=some bf →
  (∀ i ∈ bf,i < j0+j)∧∀ (i:Nat) (a:COp),i < j0+j→(done++l)[i]?=some a→i ∈ bf∨C i (j0+j) a b=true
 | [],bs,j0,done,hl,hd,j,b,bf,h1,h2=>by simp at h1
 | c::l,[],j0,done,hl,hd,j,b,bf,h1,h2=>by simp at h2
 | c::l,b0::bs,j0,done,hl,hd,j,b,bf,h1,h2=>by
  simp only [uz,Bool.and_eq_true,List.all_eq_true,decide_eq_true_eq] at hd
  cases j with
  | zero =>
   simp at h1 h2
   subst h1 h2
   refine ⟨hd.1,fun i a hi ha=>?_⟩
   rw [List.getElem?_append_left (by omega)] at ha
   simpa using wI hd.2.1 i a ha
  | succ j =>
   obtain ⟨g1,g2⟩:=qw (by simp [hl]) hd.2.2 j b bf (by simpa using h1) (by simpa using h2)
   refine ⟨fun i hi=>by have:=g1 i hi; omega,fun i a hi ha=>?_⟩
   have:=g2 i a (by omega) (by rw [List.append_assoc]; exact ha)
   rwa [show j0+1+j=j0+(j+1) from by omega] at this
theorem C4 (f:Fp):lv (some ([],[])) f:=by
 unfold lv
 cases f <;> simp [fw,jg]
theorem lv.symm {f g:Fp} (h:lv f g):lv g f:=by
 unfold lv at *
 cases f <;> cases g <;> simp only [fw] at h ⊢ <;> try exact h
 rename_i p q
 simp only [Bool.and_eq_true,jg,List.all_eq_true,Bool.not_eq_true',List.contains_eq_mem,decide_eq_false_iff_not,List.mem_append] at h ⊢
 exact ⟨fun x hx hy=>by
  rcases hy with hy | hy
  ·exact h.2 x hx hy
  ·exact h.1 x hy (.inr hx),fun x hx hy=>h.1 x hx (.inl hy)⟩
theorem Ix {o:COp} {s:af} {h:aa} {t:St} {f:Fp} (hz:cj call md o s h=some (t,f)) (hp:Rg o.op=true):f=some ([],[]):=by
 obtain ⟨x,h',e,⟨_,_,rfl⟩ | ⟨_,rfl,_⟩⟩:=sd hz
 ·rfl
 ·cases ho:o.op <;> rw [ho] at hp <;> first | rfl | cases hp
theorem AJ {o:COp} {s:af} {h:aa} {t:St} {f:Fp} (hz:cj call md o s h=some (t,f)) (hp:Fg o.op=true):∃ r,f=some (r,[]):=by
 obtain ⟨x,h',e,⟨_,_,rfl⟩ | ⟨e2,rfl,_⟩⟩:=sd hz
 ·exact ⟨[],rfl⟩
 ·cases ho:o.op <;> rw [ho] at hp <;> try (cases hp; done)
  rename_i k g y
  rw [ho] at e2
  simp only [step] at e2
  simp only [dh]
  cases hy:ev s y <;> rw [hy] at e2 <;> simp only [dU] at e2 <;> first | (cases e2; done) | exact ⟨_,rfl⟩
abbrev OS:=List (Nat × COp × Fp)
theorem Ok.draws {w:World} {X:Nat→Prop} {ρ:aT} {h:aa} {s:af} {a:Act} (ok:Ok I N w X ρ h s a):Ok I N { w with drawn:=w.drawn+1 } X ρ h s a∧Far md.nm w ρ h { w with drawn:=w.drawn+1 } ρ h:=by
 have e:Evo w ρ h { w with drawn:=w.drawn+1 } ρ h []:=⟨rfl,rfl,rfl,Nat.le_refl _,fun _ _ _=>rfl,fun _ _ hp _=>⟨hp,rfl⟩,fun _ ho=>.inl ho,fun _ hb=>⟨hb,rfl⟩,fun _ _ hd=>⟨hd,rfl⟩⟩
 exact ⟨⟨ok.rel.step e (fun _=>False) (fun _ _=>⟨rfl,fun _=>rfl,fun _ _=>rfl⟩) ok.rel.inj ok.rel.nx (fun _ hf=>hf.elim),e.rs ok.rs,ok.size,ok.defers,e.inv ok.rel ok.inv⟩,e.far (iJ _)⟩
def wJ (g:Nat) (a b:COp):Prop:=∃ e n,a=⟨some e,none,.p (.mv (.t n))⟩∧qD a b=true∧(g=0∨(g ≠ e+1∧g ≠ n+1))
theorem J5 {g:Nat} {a b:COp} (h:Jw g a b=true):wJ g a b:=by
 unfold Jw at h
 split at h
 ·rename_i e n
  simp only [Bool.and_eq_true,Bool.or_eq_true,beq_iff_eq,bne_iff_ne] at h
  exact ⟨e,n,rfl,h.1,h.2⟩
 ·cases h
theorem wJ.zero {g:Nat} {a b:COp} (h:wJ g a b):wJ 0 a b:=by
 obtain ⟨e,n,h1,h2,_⟩:=h
 exact ⟨e,n,h1,h2,.inl rfl⟩
theorem FI (ks:K) (s:af) (e n:Nat):eG ks (upd s e (s n))=upd (eG ks s) e (eG ks s n):=by
 cases ks with
 | nil=>rfl
 | cons p l =>
  funext i
  simp only [eG,upd]
  split <;> rfl
theorem FJ {d:Option Nat} {e:Nat} {x y:AV} {s:af} (hd:d ≠ some e):cr (upd s e y) d x=upd (cr s d x) e y:=by
 have:=C3 (s:=s) (a:=some e) (b:=d) y x fun i j h1 h2=>by
  cases h1
  rintro rfl
  exact hd h2
 exact this
theorem C5 {nm:Bool} {s:af} {d:Option Nat} {e n:Nat} {r:Option R3} {t:St} (h1:d ≠ some e) (h2:d ≠ some n) (hz:bK nm (upd s e (s n)) d r=some t):∃ t2,bK nm s d r=some t2∧t=⟨upd t2.s e (t2.s n),t2.h⟩:=by
 unfold bK at hz ⊢
 split at hz
 ·rename_i x h ks
  split at hz
  ·rename_i hn
   cases hz
   refine ⟨⟨cr (eG ks s) d x,h⟩,by simp only [if_pos hn],?_⟩
   have:cr (eG ks s) d x n=eG ks s n:=xO fun q hq hh=>h2 (by rw [hq,hh])
   simp only [this]
   rw [FI,FJ h1]
  ·cases hz
 ·cases hz
theorem J6 {b:COp} {s:af} {h:aa} {e n:Nat} {t:St} (hi:qD ⟨some e,none,.p (.mv (.t n))⟩ b=true) (hz:fW call md b (upd s e (s n)) h=some t):∃ t2,fW call md b s h=some t2∧t=⟨upd t2.s e (t2.s n),t2.h⟩:=by
 obtain ⟨i1,i2,i3⟩:=AI hi
 have h1:b.d ≠ some e:=fun hh=>i3 e e rfl hh rfl
 have h2:b.d ≠ some n:=fun hh=>i2 n n (by simp [fL,At,As,dz]) hh rfl
 have hr:∀ i,i ∈ fL b→upd s e (s n) i=s i:=fun i hm=>ap _ _ (i1 i e hm rfl)
 have hs:step call md (b.d.getD 0) b.op (upd s e (s n)) h=step call md (b.d.getD 0) b.op s h:=(oe fun i hm=>hr i (by simp [fL,hm])).1
 have hu:∀ x:AV,cr (upd s e (s n)) b.d x=upd (cr s b.d x) e (cr s b.d x n):=fun x=>by
  rw [FJ h1]
  congr 1
  exact (xO fun q hq hh=>h2 (by rw [hq,hh])).symm
 unfold fW at hz ⊢
 cases hg:b.g with
 | none =>
  rw [hg] at hz
  simp only at hz ⊢
  rw [hs] at hz
  exact C5 h1 h2 hz
 | some jb =>
  obtain ⟨j,w⟩:=jb
  rw [hg] at hz
  simp only at hz ⊢
  rw [hs,hr j (by simp [fL,hg])] at hz
  unfold fv at hz ⊢
  split at hz
  ·split at hz
   ·rename_i hw
    rw [if_pos hw]
    exact C5 h1 h2 hz
   ·rename_i hw
    rw [if_neg hw]
    cases hz
    exact ⟨_,rfl,by simp only [hu]⟩
  ·cases hz
   exact ⟨_,rfl,by simp only [hu]⟩
  ·cases hz
theorem Nl {s:af} {i e:Nat} {x y:AV} (hn:i ≠ e):upd (upd s e y) i x=upd (upd s i x) e y:=by
 funext k
 simp only [upd]
 by_cases h1:k=i <;> by_cases h2:k=e
 ·omega
 ·subst h1; simp [h2]
 ·subst h2; simp [h1]
 ·simp [h1,h2]
theorem J7 {nm:Bool} {g:Nat} {s:af} {h:aa} {e n:Nat} {t:St} (hg:g=0∨(g ≠ e+1∧g ≠ n+1)) (hz:kO nm g (upd s e (s n)) h=some t):∃ t2,kO nm g s h=some t2∧t=⟨upd t2.s e (t2.s n),t2.h⟩:=by
 cases g with
 | zero=>cases hz; exact ⟨_,rfl,rfl⟩
 | succ i =>
  have h1:i ≠ e:=by rintro rfl; rcases hg with hg | hg; cases hg; exact hg.1 rfl
  have h2:i ≠ n:=by rintro rfl; rcases hg with hg | hg; cases hg; exact hg.2 rfl
  simp only [kO] at hz ⊢
  rw [ap _ _ h1] at hz
  simp only [Option.bind_eq_some_iff] at hz
  obtain ⟨r,e1,e2⟩:=hz
  split at e2
  ·rename_i hn
   cases e2
   cases hi:s i <;> rw [hi] at e1 <;> simp only [CQ] at e1 <;> try (cases e1; done)
   ·cases e1
    exact ⟨⟨s,h⟩,by simp [CQ,iJ],rfl⟩
   ·rename_i id sub k lo m
    cases sub with
    | none=>simp only [] at e1; cases e1
    | some p =>
    simp only at e1
    split at e1
    ·rename_i hps
     cases eo:h id <;> rw [eo] at e1 <;> simp only [Ip] at e1 <;> try (cases e1; done)
     rename_i cs
     cases ec:cs[p]? with
     | none=>rw [ec] at e1; simp [Au] at e1
     | some c =>
      rw [ec] at e1
      cases c <;> simp only [Au] at e1 <;> try (cases e1; done)
      split at e1
      ·rename_i hc
       cases e1
       refine ⟨_,by simp only [CQ,if_pos hps,eo,Ip,ec,Au,if_pos hc,Option.bind_some,if_pos hn]; rfl,?_⟩
       simp only
       rw [FI,Nl h1,ap _ _ (Ne.symm h2)]
      ·cases e1
    ·cases e1
  ·cases e2
theorem FK {g:Nat} {y:COp}:∀ {L:List COp} {s:af} {h:aa} {t0 t1 t2:St} {Fs:List Fp},(∀ x ∈ L,wJ g x y)→dA call md L s h=some (t0,Fs)→kO md.nm g t0.s t0.h=some t1→fW call md y t1.s t1.h=some t2 →
  ∃ r1 r2,kO md.nm g s h=some r1∧fW call md y r1.s r1.h=some r2∧dA call md L r2.s r2.h=some (t2,Fs)
 | [],s,h,t0,t1,t2,Fs,_,h1,h2,h3=>by
  simp only [dA,Option.some.injEq,Prod.mk.injEq] at h1
  obtain ⟨rfl,rfl⟩:=h1
  exact ⟨t1,t2,h2,h3,rfl⟩
 | a::L,s,h,t0,t1,t2,Fs,hl,h1,h2,h3=>by
  obtain ⟨e,n,rfl,hi,hg⟩:=hl a (by simp)
  simp only [dA,Option.bind_eq_some_iff] at h1
  obtain ⟨⟨t',f⟩,e1,⟨t'',F2⟩,e2,e3⟩:=h1
  cases e3
  have e1':t'=⟨upd s e (s n),h⟩∧f=some ([],[]):=by
   simp only [cj,step,dp,ev,ri,Option.map_some,fh,dh,Option.some.injEq,Prod.mk.injEq] at e1
   exact ⟨e1.1.symm,e1.2.symm⟩
  obtain ⟨rfl,rfl⟩:=e1'
  obtain ⟨r1,r2,g1,g2,g3⟩:=FK (fun x hx=>hl x (by simp [hx])) e2 h2 h3
  obtain ⟨q1,k1,rfl⟩:=J7 hg g1
  obtain ⟨q2,k2,rfl⟩:=J6 hi g2
  refine ⟨q1,q2,k1,k2,?_⟩
  simp only [dA,cj,step,dp,ev,ri,Option.map_some,fh,dh,Option.bind_some]
  simp only [cr] at g3 ⊢
  rw [g3]
  rfl
abbrev OT:=List (Nat × COp)
structure RestB (ops:Array Oper) (cl:List COp) (bf:Nat→List Nat) (listed:Array Bool) (g:Nat) (L:OS) (T:OT):Prop where
 size:listed.size=ops.size
 op:∀ x ∈ L,cl[x.1]?=some x.2.1∧listed.getD x.1 true=false
 opT:∀ y ∈ T,cl[y.1]?=some y.2∧listed.getD y.1 true=false
 all:∀ j,j < ops.size→listed.getD j true=false→(∃ x ∈ L,x.1=j)∨∃ y ∈ T,y.1=j
 pw:L.Pairwise fun x y=>x.1 < y.1∧(x.1 ∈ bf y.1∨(qD x.2.1 y.2.1=true∧lv x.2.2 y.2.2))
 lt:∀ x ∈ L,∀ y ∈ T,x.1 < y.1∧(x.1 ∈ bf y.1∨wJ g x.2.1 y.2)
 pwT:T.Pairwise fun x y=>x.1 < y.1∧x.1 ∈ bf y.1
 cls:∀ k,k < ops.size→listed.getD k true=true→∀ i ∈ bf k,listed.getD i true=true
theorem wK (hcall:go P I call md) (hN:N≤1000) {hs cl:List COp} (hc:ko P N ops hs ops.toList=some cl) {bf:Nat→List Nat}
  (hlt:∀ j,j < ops.size→∀ i ∈ bf j,i < j) (hdep:∀ (j:Nat) (o:Oper),ops[j]?=some o→(∀ d ∈ jM o,d ∈ bf j)∧∀ i ∈ bf j,i ∈ jM o∨∃ d ∈ jM o,i ∈ bf d) :
  ∀ (fuel:Nat) {g:Nat} {L:OS} {T:OT} {listed:Array Bool} {w:World} {X:Nat→Prop} {ρ:aT} {h:aa} {s:af} {a:Act} {t0 tg t:St} {Q:Exit→Act→World→Prop},L.length+T.length=fuel→RestB ops cl bf listed g L T →
   dA call md (L.map (·.2.1)) s h=some (t0,L.map (·.2.2))→kO md.nm g t0.s t0.h=some tg→am call md (T.map (·.2)) tg.s tg.h=some t→Ok I N w X ρ h s a→(∀ a' w' ρ',Ok I N w' X ρ' t.h t.s a'→Far md.nm w ρ h w' ρ' t.h→Q .normal a' w')→wpAny P .any ops Q fuel listed a w
 | 0,g,L,T,listed,w,X,ρ,h,s,a,t0,tg,t,Q,hl,hr,hz,hgh,hT,ok,hQ=>by
  have:L=[]:=by cases L; rfl; simp at hl
  subst this
  have:T=[]:=by cases T; rfl; simp at hl
  subst this
  simp only [List.map_nil,dA,Option.some.injEq,Prod.mk.injEq] at hz
  obtain ⟨rfl,_⟩:=hz
  simp only [List.map_nil,am,Option.some.injEq] at hT
  subst hT
  obtain ⟨ρ',ok',far'⟩:=yq ok hgh
  refine ⟨?_,hQ _ _ ρ' ok' far'⟩
  rw [List.eq_nil_iff_forall_not_mem]
  intro j hj
  obtain ⟨h1,o,h2,_⟩:=mem_ready.1 hj
  rcases hr.all j (Array.getElem?_eq_some_iff.1 h2).1 h1 with ⟨x,hx,_⟩ | ⟨x,hx,_⟩ <;> simp at hx
 | fuel+1,g,L,T,listed,w,X,ρ,h,s,a,t0,tg,t,Q,hl,hr,hz,hgh,hT,ok,hQ=>by
  have tf:∀ d,d < ops.size→listed.getD d true=listed.getD d false:=fun d hd=>by
   have:d < listed.size:=by rw [hr.size]; exact hd
   simp [this]
  have lenc:=(og hc).1
  have cllt:∀ {j:Nat} {c:COp},cl[j]?=some c→j < ops.size:=fun h1=>by
   have:=(List.getElem?_eq_some_iff.1 h1).1
   rw [lenc] at this
   simpa using this
  have first:∀ j,j < ops.size→listed.getD j true=false→(∀ k,k < j→listed.getD k true=true)→j ∈ Region.ready .any ops listed:=by
   intro j hj h1 h2
   have hox:ops[j]?=some ops[j]:=by simp [hj]
   refine mem_ready.2 ⟨h1,ops[j],hox,fun e he hb=>?_⟩
   have hd:e.on ∈ jM ops[j]:=by
    simp only [jM,List.mem_map,List.mem_filter]
    exact ⟨e,⟨by simpa using he,hb⟩,rfl⟩
   have hlt':=hlt j hj _ ((hdep j _ hox).1 _ hd)
   rw [← tf e.on (by omega)]
   exact h2 _ hlt'
  have isT:∀ k,listed.getD k true=true∨listed.getD k true=false:=fun k=>by cases listed.getD k true <;> simp
  refine ⟨fun hnil=>?_,fun i hi=>?_⟩
  ·exfalso
   have key:∃ j,j < ops.size∧listed.getD j true=false∧∀ k,k < j→listed.getD k true=true:=by
    cases L with
    | cons x L' =>
     obtain ⟨h1,h2⟩:=hr.op x (by simp)
     refine ⟨x.1,cllt h1,h2,fun k hk=>?_⟩
     rcases isT k with h3 | h3
     ·exact h3
     ·rcases hr.all k (Nat.lt_trans hk (cllt h1)) h3 with ⟨y,hy,rfl⟩ | ⟨y,hy,rfl⟩
      ·rcases List.mem_cons.1 hy with rfl | hy'
       ·omega
       ·have:=(List.pairwise_cons.1 hr.pw).1 y hy'
        omega
      ·have:=(hr.lt x (by simp) y hy).1
       omega
    | nil =>
     cases T with
     | nil=>simp at hl
     | cons x T' =>
      obtain ⟨h1,h2⟩:=hr.opT x (by simp)
      refine ⟨x.1,cllt h1,h2,fun k hk=>?_⟩
      rcases isT k with h3 | h3
      ·exact h3
      ·rcases hr.all k (Nat.lt_trans hk (cllt h1)) h3 with ⟨y,hy,rfl⟩ | ⟨y,hy,rfl⟩
       ·simp at hy
       ·rcases List.mem_cons.1 hy with rfl | hy'
        ·omega
        ·have:=(List.pairwise_cons.1 hr.pwT).1 y hy'
         omega
   obtain ⟨j,k1,k2,k3⟩:=key
   have:=first j k1 k2 k3
   rw [hnil] at this
   cases this
  ·obtain ⟨h1,o,h2,h3⟩:=mem_ready.1 hi
   have hisz:i < ops.size:=(Array.getElem?_eq_some_iff.1 h2).1
   have hbl:∀ k ∈ bf i,listed.getD k true=true:=by
    intro k hk
    have dl:∀ d ∈ jM o,listed.getD d true=true:=by
     intro d hd
     have hdl:d < ops.size:=Nat.lt_trans (hlt i hisz d ((hdep i o h2).1 d hd)) hisz
     simp only [jM,List.mem_map,List.mem_filter] at hd
     obtain ⟨e,⟨he,hb⟩,rfl⟩:=hd
     rw [tf _ hdl]
     exact h3 e (by simpa using he) hb
    rcases (hdep i o h2).2 k hk with hd | ⟨d,hd,hkd⟩
    ·exact dl k hd
    ·exact hr.cls d (Nat.lt_trans (hlt i hisz d ((hdep i o h2).1 d hd)) hisz) (dl d hd) k hkd
   have set_ne:∀ k,k ≠ i→(listed.setIfInBounds i true).getD k true=listed.getD k true:=fun k hk=>getD_set_ne true (Ne.symm hk)
   have set_same:(listed.setIfInBounds i true).getD i true=true:=by
    have:i < listed.size:=by rw [hr.size]; exact hisz
    simp [this]
   have cls':∀ k,k < ops.size→(listed.setIfInBounds i true).getD k true=true→∀ k' ∈ bf k,(listed.setIfInBounds i true).getD k' true=true:=fun k hk hkl k' hk'=>by
    have old:listed.getD k' true=true:=by
     by_cases hkx:k=i
     ·subst hkx; exact hbl k' hk'
     ·rw [set_ne _ hkx] at hkl
      exact hr.cls k hk hkl k' hk'
    by_cases hk'x:k'=i
    ·rw [hk'x]; exact set_same
    ·rw [set_ne _ hk'x]; exact old
   rcases hr.all i hisz h1 with ⟨x,hx,rfl⟩ | ⟨y,hy,rfl⟩
   ·obtain ⟨L1,L2,rfl⟩:=List.append_of_mem hx
    have hpw:=hr.pw
    rw [List.pairwise_append] at hpw
    obtain ⟨pw1,pw2,pw3⟩:=hpw
    rw [List.pairwise_cons] at pw2
    simp only [List.map_append,List.map_cons] at hz
    obtain ⟨Fpre,f,Fpost,e1,e2,e3⟩:=FF hz
    have e4:Fpre=L1.map (·.2.2)∧f=x.2.2∧Fpost=L2.map (·.2.2):=by
     have:=List.append_inj e1.symm (by simpa using e2)
     simp only [List.cons.injEq] at this
     exact ⟨this.1,this.2.1,this.2.2⟩
    obtain ⟨rfl,rfl,rfl⟩:=e4
    obtain ⟨t1,g1,g2⟩:=e3 fun j c fc hj1 hj2=>by
     simp only [List.getElem?_map,Option.map_eq_some_iff] at hj1 hj2
     obtain ⟨y,hy,rfl⟩:=hj1
     obtain ⟨y',hy',rfl⟩:=hj2
     rw [hy] at hy'
     cases hy'
     have hyL:=List.mem_of_getElem? hy
     rcases (pw3 y hyL x (by simp)).2 with hin | hh
     ·have:=hbl _ hin
      rw [(hr.op y (by simp [hyL])).2] at this
      cases this
     ·exact hh
    obtain ⟨c1,_⟩:=hr.op x (by simp)
    obtain ⟨hint,hco⟩:=(og hc).2 x.1 o x.2.1 (by simpa using h2) c1
    have nx:∀ y,y ∈ L1++L2→y.1 ≠ x.1:=by
     intro y hy
     rcases List.mem_append.1 hy with hy | hy
     ·have:=(pw3 y hy x (by simp)).1; omega
     ·have:=(pw2.1 y hy).1; omega
    refine uF hcall hN h2 hco ok (H3 g1) fun a' w' ρ' ok' far=>?_
    refine wK hcall hN hc hlt hdep fuel (L:=L1++L2) (T:=T) (by simp at hl ⊢; omega) ⟨by simpa using hr.size,fun y hy=>?_,fun y hy=>?_,fun j hj hjl=>?_,?_,fun y hy=>hr.lt y (by rcases List.mem_append.1 hy with hy | hy <;> simp [hy]),hr.pwT,cls'⟩ (by simpa [List.map_append] using g2) hgh hT ok' fun a'' w'' ρ'' ok'' far'=>hQ _ _ ρ'' ok'' (far.trans far')
    ·obtain ⟨q1,q2⟩:=hr.op y (by rcases List.mem_append.1 hy with hy | hy <;> simp [hy])
     exact ⟨q1,by rw [set_ne _ (nx y hy)]; exact q2⟩
    ·obtain ⟨q1,q2⟩:=hr.opT y hy
     have:=(hr.lt x (by simp) y hy).1
     exact ⟨q1,by rw [set_ne _ (by omega)]; exact q2⟩
    ·have hne:j ≠ x.1:=by rintro rfl; rw [set_same] at hjl; cases hjl
     rw [set_ne _ hne] at hjl
     rcases hr.all j hj hjl with ⟨y,hy,rfl⟩ | hyT
     ·refine .inl ⟨y,?_,rfl⟩
      simp only [List.mem_append,List.mem_cons] at hy ⊢
      rcases hy with hy | rfl | hy
      ·exact .inl hy
      ·exact absurd rfl hne
      ·exact .inr hy
     ·exact .inr hyT
    ·rw [List.pairwise_append]
     exact ⟨pw1,pw2.2,fun y hy z hz=>pw3 y hy z (by simp [hz])⟩
   ·
    cases T with
    | nil=>simp at hy
    | cons z T' =>
    have hzy:z=y:=by
     rcases List.mem_cons.1 hy with rfl | hy'
     ·rfl
     ·have h5:=((List.pairwise_cons.1 hr.pwT).1 y hy').2
      have:=hbl _ h5
      rw [(hr.opT z (by simp)).2] at this
      cases this
    subst hzy
    have hlate:∀ x ∈ L,wJ g x.2.1 z.2:=fun x hx=>by
     rcases (hr.lt x hx z (by simp)).2 with h5 | h5
     ·have:=hbl _ h5
      rw [(hr.op x hx).2] at this
      cases this
     ·exact h5
    simp only [List.map_cons,am,aK] at hT
    split at hT
    ·cases hT
    ·rename_i t2 ht2
     obtain ⟨r1,r2,g1,g2,g3⟩:=FK (L:=L.map (·.2.1)) (fun x hx=>by
      obtain ⟨q,hq,rfl⟩:=List.mem_map.1 hx
      exact hlate q hq) hz hgh ht2
     obtain ⟨ρg,okg,farg⟩:=yq ok g1
     obtain ⟨c1,_⟩:=hr.opT z (by simp)
     obtain ⟨hint,hco⟩:=(og hc).2 z.1 o z.2 (by simpa using h2) c1
     refine uF hcall hN h2 hco okg g2 fun a' w' ρ' ok' far=>?_
     refine wK hcall hN hc hlt hdep fuel (g:=0) (L:=L) (T:=T') (by simp at hl ⊢; omega) ⟨by simpa using hr.size,fun x hx=>?_,fun y hy=>?_,fun j hj hjl=>?_,hr.pw,fun x hx y hy=>?_,(List.pairwise_cons.1 hr.pwT).2,cls'⟩ g3 rfl hT ok' fun a'' w'' ρ'' ok'' far'=>hQ _ _ ρ'' ok'' ((farg.trans far).trans far')
     ·obtain ⟨q1,q2⟩:=hr.op x hx
      have:=(hr.lt x hx z (by simp)).1
      exact ⟨q1,by rw [set_ne _ (by omega)]; exact q2⟩
     ·obtain ⟨q1,q2⟩:=hr.opT y (by simp [hy])
      have:=((List.pairwise_cons.1 hr.pwT).1 y hy).1
      exact ⟨q1,by rw [set_ne _ (by omega)]; exact q2⟩
     ·have hne:j ≠ z.1:=by rintro rfl; rw [set_same] at hjl; cases hjl
      rw [set_ne _ hne] at hjl
      rcases hr.all j hj hjl with hx | ⟨y,hy,rfl⟩
      ·exact .inl hx
      ·rcases List.mem_cons.1 hy with rfl | hy'
       ·exact absurd rfl hne
       ·exact .inr ⟨y,hy',rfl⟩
     ·obtain ⟨q1,q2⟩:=hr.lt x hx y (by simp [hy])
      exact ⟨q1,q2.imp_right wJ.zero⟩
theorem FL (hm:P.follows .mixedOrders=true) (hcall:go P I call md) (hN:N≤1000) {id:Nat} {hs0 cl:List COp} {w:World} {X:Nat→Prop} {ρ:aT} {h:aa} {s:af} {a:Act} {t0 tg t:St} {m g:Nat} {qs:List (Nat × Nat)} {Fs:List Fp} {Q:Exit→Act→World→Prop}
  (hc:ko P N ops hs0 ops.toList=some cl)
  (hsp:∀ (j:Nat) (b:COp) (bf:List Nat),cl[j]?=some b→(hH ops.toList [])[j]?=some bf→(∀ i ∈ bf,i < j)∧∀ (i:Nat) (a:COp),i < j→cl[i]?=some a→i ∈ bf∨xJ m g qs i j a b=true)
  (ok:Ok I N w X ρ h s a) (e1:dA call md (cl.take m) s h=some (t0,Fs)) (hps:qs.all (nF Fs)=true) (hgh:kO md.nm g t0.s t0.h=some tg) (hT:am call md (cl.drop m) tg.s tg.h=some t)
  (hQ:∀ a' w' ρ',Ok I N w' X ρ' t.h t.s a'→Far md.nm w ρ h w' ρ' t.h→Q .normal a' w'):(Code.region id ops true).wp P Q a w:=by
 refine wp_region_any hm ?_
 obtain ⟨ok',far'⟩:=ok.draws (md:=md)
 obtain ⟨lf,gf⟩:=FG e1
 obtain ⟨lc,gc⟩:=og hc
 have lc':cl.length=ops.size:=by simpa using lc
 have ltm:(cl.take m).length=min m ops.size:=by rw [List.length_take,lc']
 have lb:(hH ops.toList []).length=ops.size:=by
  obtain ⟨r,q1,q2⟩:=yR ops.toList []
  rw [q1]
  simpa using q2
 have bget:∀ j,j < ops.size→(hH ops.toList [])[j]?=some ((hH ops.toList []).getD j []):=fun j hj=>by
  rw [List.getD_eq_getElem?_getD]
  simp [List.getElem?_eq_getElem (show j < (hH ops.toList []).length from by omega)]
 have hlt:∀ j,j < ops.size→∀ i ∈ (hH ops.toList []).getD j [],i < j:=fun j hj i hi=>by
  have:=(hsp j cl[j] _ (by simp) (bget j hj)).1 i hi
  omega
 have hdep:∀ (j:Nat) (o:Oper),ops[j]?=some o→(∀ d ∈ jM o,d ∈ (hH ops.toList []).getD j [])∧∀ i ∈ (hH ops.toList []).getD j [],i ∈ jM o∨∃ d ∈ jM o,i ∈ (hH ops.toList []).getD d []:=fun j o hj=>by
  have hjs:j < ops.size:=(Array.getElem?_eq_some_iff.1 hj).1
  obtain ⟨pre,q1,q2,r,q3⟩:=FH ops.toList [] j o (by simpa using hj)
  simp only [List.length_nil,Nat.zero_add] at q1 q2
  have hrow:(hH ops.toList []).getD j []=uw o pre:=by
   rw [List.getD_eq_getElem?_getD,q1]; rfl
  have hpre:∀ d ∈ jM o,pre.getD d []=(hH ops.toList []).getD d []:=fun d hd=>by
   have hdj:d < j:=hlt j hjs d (by rw [hrow]; exact yQ.2 (.inl hd))
   rw [List.getD_eq_getElem?_getD,List.getD_eq_getElem?_getD,q3,List.getElem?_append_left (by omega)]
  refine ⟨fun d hd=>by rw [hrow]; exact yQ.2 (.inl hd),fun i hi=>?_⟩
  rw [hrow] at hi
  rcases yQ.1 hi with hi | ⟨d,hd,hid⟩
  ·exact .inl hi
  ·rw [hpre d hd] at hid
   exact .inr ⟨d,hd,hid⟩
 have getL:∀ x ∈ (List.range ops.size).zip ((cl.take m).zip Fs),x.1 < m∧x.1 < ops.size∧cl[x.1]?=some x.2.1∧Fs[x.1]?=some x.2.2:=fun x hx=>by
  obtain ⟨n,hn⟩:=List.getElem?_of_mem hx
  rw [List.getElem?_zip_eq_some,List.getElem?_zip_eq_some] at hn
  obtain ⟨q1,q2,q3⟩:=hn
  have hn:n < ops.size:=by
   have:=(List.getElem?_eq_some_iff.1 q1).1
   simpa using this
  rw [List.getElem?_range hn] at q1
  cases q1
  rw [List.getElem?_take] at q2
  split at q2
  ·exact ⟨by assumption,hn,q2,q3⟩
  ·cases q2
 have getT:∀ y ∈ (List.range' (min m ops.size) (ops.size - m)).zip (cl.drop m),m≤y.1∧y.1 < ops.size∧cl[y.1]?=some y.2:=fun y hy=>by
  obtain ⟨n,hn⟩:=List.getElem?_of_mem hy
  rw [List.getElem?_zip_eq_some] at hn
  obtain ⟨q1,q2⟩:=hn
  have hn:n < ops.size - m:=by
   have:=(List.getElem?_eq_some_iff.1 q1).1
   simpa using this
  rw [List.getElem?_range' hn] at q1
  rw [List.getElem?_drop] at q2
  simp only [Option.some.injEq] at q1
  have:y.1=m+n:=by omega
  rw [this]
  exact ⟨by omega,by omega,q2⟩
 refine wK hcall hN hc (bf:=fun j=>(hH ops.toList []).getD j []) hlt hdep ops.size (g:=g) (L:=(List.range ops.size).zip ((cl.take m).zip Fs)) (T:=(List.range' (min m ops.size) (ops.size - m)).zip (cl.drop m)) ?_ ⟨by simp,fun x hx=>?_,fun y hy=>?_,fun j hj _=>?_,?_,fun x hx y hy=>?_,?_,fun k hk hkl=>?_⟩ (t0:=t0) (tg:=tg) (t:=t) ?_ hgh ?_ ok' fun a'' w'' ρ'' ok'' far''=>hQ _ _ ρ'' ok'' (far'.trans far'')
 ·simp only [List.length_zip,List.length_range,List.length_range',List.length_drop,lf,ltm,lc']
  omega
 ·obtain ⟨q0,q1,q2,q3⟩:=getL x hx
  exact ⟨q2,by simp [q1]⟩
 ·obtain ⟨q0,q1,q2⟩:=getT y hy
  exact ⟨q2,by simp [q1]⟩
 ·by_cases hjm:j < m
  ·have hjt:j < (cl.take m).length:=by rw [ltm]; omega
   refine .inl ⟨(j,(cl.take m)[j],Fs[j]'(by omega)),?_,rfl⟩
   refine List.mem_of_getElem? (i:=j) ?_
   rw [List.getElem?_zip_eq_some,List.getElem?_zip_eq_some]
   exact ⟨List.getElem?_range hj,by rw [List.getElem?_eq_getElem hjt],by rw [List.getElem?_eq_getElem (show j < Fs.length from by omega)]⟩
  ·have hjt:j - m < (cl.drop m).length:=by rw [List.length_drop,lc']; omega
   refine .inr ⟨(j,(cl.drop m)[j - m]),?_,rfl⟩
   refine List.mem_of_getElem? (i:=j - m) ?_
   rw [List.getElem?_zip_eq_some]
   refine ⟨?_,by rw [List.getElem?_eq_getElem hjt]⟩
   rw [List.getElem?_range' (by omega)]
   simp only [Option.some.injEq]
   omega
 ·rw [List.pairwise_iff_getElem]
  intro i j hi hj hij
  have hj':j < (cl.take m).length∧j < Fs.length:=by simp only [List.length_zip,List.length_range,lf] at hj; omega
  have hjs:j < ops.size:=by have:=hj'.1; rw [ltm] at this; omega
  have hjm:j < m:=by have:=hj'.1; rw [ltm] at this; omega
  simp only [List.getElem_zip,List.getElem_range,List.getElem_take]
  refine ⟨hij,?_⟩
  rcases (hsp j cl[j] _ (by simp) (bget j hjs)).2 i cl[i] (by omega) (by simp) with hb | hb
  ·exact .inl hb
  ·refine .inr ?_
   simp only [xJ,if_pos hjm,Jv,Bool.and_eq_true,Bool.or_eq_true] at hb
   obtain ⟨hb1,hb2⟩:=hb
   refine ⟨hb1,?_⟩
   have gi:∀ q (hq:q < (cl.take m).length) (hq':q < Fs.length),∃ s' h' t',cj call md (cl[q]'(by rw [ltm] at hq; omega)) s' h'=some (t',Fs[q]):=fun q hq hq'=>by
    refine gf q _ _ ?_ (by rw [List.getElem?_eq_getElem hq'])
    rw [List.getElem?_eq_getElem hq,List.getElem_take]
   obtain ⟨s1,h1,t1,st1⟩:=gi i (by omega) (by omega)
   obtain ⟨s2,h2,t2,st2⟩:=gi j hj'.1 hj'.2
   rcases hb2 with ((hb2 | hb2) | hb2) | hb2
   ·rw [Ix st1 hb2]; exact C4 _
   ·rw [Ix st2 hb2]; exact (C4 _).symm
   ·obtain ⟨r1,k1⟩:=AJ st1 hb2.1
    obtain ⟨r2,k2⟩:=AJ st2 hb2.2
    rw [k1,k2]
    simp [lv,fw,jg]
   ·have:=List.all_eq_true.1 hps (i,j) (by simpa using hb2)
    simp only [nF] at this
    rw [List.getElem?_eq_getElem (show i < Fs.length from by omega),List.getElem?_eq_getElem hj'.2] at this
    exact this
 ·obtain ⟨q0,q1,q2,q3⟩:=getL x hx
  obtain ⟨p0,p1,p2⟩:=getT y hy
  refine ⟨by omega,?_⟩
  rcases (hsp y.1 y.2 _ p2 (bget y.1 p1)).2 x.1 x.2.1 (by omega) q2 with hb | hb
  ·exact .inl hb
  ·simp only [xJ,if_neg (show ¬ y.1 < m by omega),Bool.and_eq_true] at hb
   exact .inr (J5 hb.2)
 ·rw [List.pairwise_iff_getElem]
  intro i j hi hj hij
  have hi':=getT _ (List.getElem_mem hi)
  have hj':=getT _ (List.getElem_mem hj)
  have hlt2:((List.range' (min m ops.size) (ops.size - m)).zip (cl.drop m))[i].1 < ((List.range' (min m ops.size) (ops.size - m)).zip (cl.drop m))[j].1:=by
   simp only [List.getElem_zip,List.getElem_range']
   omega
  refine ⟨hlt2,?_⟩
  rcases (hsp _ _ _ hj'.2.2 (bget _ hj'.2.1)).2 _ _ hlt2 hi'.2.2 with hb | hb
  ·exact hb
  ·simp only [xJ,if_neg (Nat.not_lt.2 hj'.1),Bool.and_eq_true,decide_eq_true_eq] at hb
   have:=hb.1
   have:=hi'.1
   omega
 ·simp [hk] at hkl
 ·have m1:((List.range ops.size).zip ((cl.take m).zip Fs)).map (·.2.1)=cl.take m:=by
   rw [show (fun x:Nat × COp × Fp=>x.2.1)=Prod.fst ∘ Prod.snd from rfl,← List.map_map,List.map_snd_zip (by simp [lc',lf,List.length_take]; omega),List.map_fst_zip (by omega)]
  have m2:((List.range ops.size).zip ((cl.take m).zip Fs)).map (·.2.2)=Fs:=by
   rw [show (fun x:Nat × COp × Fp=>x.2.2)=Prod.snd ∘ Prod.snd from rfl,← List.map_map,List.map_snd_zip (by simp [lc',lf,List.length_take]; omega),List.map_snd_zip (by omega)]
  rw [m1,m2]
  exact e1
 ·have m1:((List.range' (min m ops.size) (ops.size - m)).zip (cl.drop m)).map (·.2)=cl.drop m:=List.map_snd_zip (by simp [lc'])
  rw [m1]
  exact hT
theorem J8 (hm:P.follows .mixedOrders=true) (hcall:go P I call md) (hN:N≤1000):CY P I call md N:=by
 intro id ops hs0 cl w X ρ h s a t ps Q hc hd ok hz hQ
 unfold Fm OP at hd
 unfold jJ at hz
 cases hb:pQ ps with
 | none =>
  rw [hb] at hd hz
  simp only [pW,Option.bind_eq_some_iff] at hz
  obtain ⟨⟨t0,Fs⟩,e1,e2⟩:=hz
  split at e2
  ·rename_i hps
   cases e2
   have hsp:=qw (done:=[]) (j0:=0) rfl hd
   refine FL hm hcall hN (m:=cl.length) (g:=0) (qs:=ps) hc (fun j b bf h1 h2=>?_) ok (by rw [List.take_length]; exact e1) hps rfl (by rw [List.drop_length]; rfl) hQ
   obtain ⟨q1,q2⟩:=hsp j b bf h1 h2
   refine ⟨fun i hi=>by have:=q1 i hi; omega,fun i a hi ha=>?_⟩
   have hj:j < cl.length:=(List.getElem?_eq_some_iff.1 h1).1
   have:=q2 i a (by omega) ha
   simpa only [xJ,if_pos hj,Nat.zero_add] using this
  ·cases e2
 | some q =>
  rw [hb] at hd hz
  simp only [ur,Option.bind_eq_some_iff] at hz
  obtain ⟨⟨t0,Fs⟩,e1,e2⟩:=hz
  split at e2
  ·rename_i hps
   simp only [aK] at e2
   split at e2
   ·cases e2
   ·rename_i tg htg
    have hsp:=qw (done:=[]) (j0:=0) rfl hd
    refine FL hm hcall hN (m:=q.1) (g:=q.2) (qs:=ps.tail) hc (fun j b bf h1 h2=>?_) ok e1 hps htg e2 hQ
    obtain ⟨q1,q2⟩:=hsp j b bf h1 h2
    refine ⟨fun i hi=>by have:=q1 i hi; omega,fun i a hi ha=>?_⟩
    have:=q2 i a (by omega) ha
    simpa only [Nat.zero_add] using this
  ·cases e2
end
theorem pS:∀ (ss:List Sh) (l:List AV),(ce ss l).length=l.length
 | [],l=>by cases l <;> simp [ce]
 | s::ss,[]=>by simp [ce]
 | s::ss,a::l=>by simp [ce,pS ss l]
theorem rq:∀ (ss:List Sh) (l:List AV) (j:Nat) (c:AV),(ce ss l)[j]?=some c→∃ c0,l[j]?=some c0∧(c=c0∨∃ s,c=nrmL s c0)
 | [],l,j,c,h=>⟨c,by simpa [ce] using h,.inl rfl⟩
 | s::ss,[],j,c,h=>by simp [ce] at h
 | s::ss,a::l,0,c,h=>by simp [ce] at h; exact ⟨a,rfl,.inr ⟨s,h.symm⟩⟩
 | s::ss,a::l,j+1,c,h=>by
  simp [ce] at h
  simpa using rq ss l j c h
theorem rr {s:Sh} {c:AV} (hd:ak c=true):ak (nrmL s c)=true:=by
 obtain ⟨k,cs⟩:=s
 cases k with
 | zero=>simpa [nrmL] using hd
 | succ k=>cases c <;> simp [ak] at hd <;> simp [nrmL,ak,hd]
theorem dw (s:Sh) {c:AV} (h1:∀ k r,c ≠ .sl k r) (h2:c ≠ .emp) (h3:∀ k r,c ≠ .osl k r):nrmL s c=c:=by
 obtain ⟨k,cs⟩:=s
 cases k with
 | zero=>simp [nrmL]
 | succ k=>cases c <;> first | rfl | exact absurd rfl (h1 _ _) | exact absurd rfl h2 | exact absurd rfl (h3 _ _)
section
variable {w:World} {A:Nat→Prop} {ρ:aT} {h:aa}
theorem RD.nrmL {c:AV} {u:Value} (hd:RD w A c u):∀ s:Sh,RD w A (nrmL s c) u:=by
 induction hd with
 | any u h=>intro s; rw [dw s (by simp) (by simp) (by simp)]; exact .any u h
 | v x h=>intro s; rw [dw s (by simp) (by simp) (by simp)]; exact .v x h
 | emp a =>
  intro s
  obtain ⟨k,cs⟩:=s
  cases k with
  | zero=>simp only [Ab.nrmL]; exact .emp a
  | succ k =>
   simp only [Ab.nrmL]
   exact .sl k [] a 0 ⟨0,0,none⟩ (fun _ _=>undef) (Nat.le_refl 0) (fun h=>absurd rfl h) (fun _ h=>by simp at h) (fun i row j c h=>by simp at h) (fun _ h=>by simp at h) (fun i row j c h=>by simp at h)
 | sl k rows a cap ad vals hc ha hk hv hl hr ih =>
  intro s
  obtain ⟨k',cs⟩:=s
  cases k' with
  | zero=>simp only [Ab.nrmL]; exact .sl k rows a cap ad vals hc ha hk hv hl hr
  | succ k' =>
   simp only [Ab.nrmL]
   have key:∀ (i:Nat) (row:List AV) (j:Nat) (c:AV),(rows.map (ce cs))[i]?=some row→row[j]?=some c→∃ row0 c0,rows[i]?=some row0∧row0[j]?=some c0∧(c=c0∨∃ s,c=Ab.nrmL s c0):=by
    intro i row j c h1 h2
    simp only [List.getElem?_map,Option.map_eq_some_iff] at h1
    obtain ⟨row0,h3,rfl⟩:=h1
    obtain ⟨c0,h4,h5⟩:=rq cs row0 j c h2
    exact ⟨row0,c0,h3,h4,h5⟩
   have:=RD.sl (w:=w) (A:=A) k (rows.map (ce cs)) a cap ad vals (by simpa using hc) (fun hne=>ha (by simpa using hne)) (fun row hm=>by
     simp only [List.mem_map] at hm
     obtain ⟨row0,hm,rfl⟩:=hm
     rw [pS]
     exact hk row0 hm) (fun i row j c h1 h2=>by
     obtain ⟨row0,c0,h3,h4,_⟩:=key i row j c h1 h2
     exact hv i row0 j c0 h3 h4) (fun row hm c hc=>by
     obtain ⟨i,hi⟩:=List.getElem?_of_mem hm
     obtain ⟨j,hj⟩:=List.getElem?_of_mem hc
     obtain ⟨row0,c0,h3,h4,h5⟩:=key i row j c hi hj
     have hd:=hl row0 (List.mem_of_getElem? h3) c0 (List.mem_of_getElem? h4)
     rcases h5 with rfl | ⟨s,rfl⟩
     ·exact hd
     ·exact rr hd) (fun i row j c h1 h2=>by
     obtain ⟨row0,c0,h3,h4,h5⟩:=key i row j c h1 h2
     rcases h5 with rfl | ⟨s,rfl⟩
     ·exact hr i row0 j _ h3 h4
     ·exact ih i row0 j c0 h3 h4 s)
   simpa using this
 | agg cs us hs h1 hr ih=>intro s; rw [dw s (by simp) (by simp) (by simp)]; exact .agg cs us hs h1 hr
 | fn f=>intro s; rw [dw s (by simp) (by simp) (by simp)]; exact .fn f
theorem RV.nrmL {c:AV} {u:Value} (hv:RV w A ρ h c u) (s:Sh):RV w A ρ h (nrmL s c) u:=by
 cases hv with
 | dat hd=>exact .dat (hd.nrmL s)
 | anyv u=>rw [dw s (by simp) (by simp) (by simp)]; exact .anyv u
 | und=>rw [dw s (by simp) (by simp) (by simp)]; exact .und
 | ref id sub k i j hp=>rw [dw s (by simp) (by simp) (by simp)]; exact .ref id sub k i j hp
 | rsl id sub k lo n cap a hp hn hb ha=>rw [dw s (by simp) (by simp) (by simp)]; exact .rsl id sub k lo n cap a hp hn hb ha
 | rsc id k lo n cap a hp hn hb ha=>rw [dw s (by simp) (by simp) (by simp)]; exact .rsc id k lo n cap a hp hn hb ha
 | ipt cs ad vals hA hs hv hl hr=>rw [dw s (by simp) (by simp) (by simp)]; exact .ipt cs ad vals hA hs hv hl hr
 | agg cs us hs h1 hr=>rw [dw s (by simp) (by simp) (by simp)]; exact .agg cs us hs h1 hr
 | tup vs us hs hr=>rw [dw s (by simp) (by simp) (by simp)]; exact .tup vs us hs hr
 | fn f x y us ts hs ht hx hy=>rw [dw s (by simp) (by simp) (by simp)]; exact .fn f x y us ts hs ht hx hy
theorem RV.nrmV {c:AV} {u:Value} (hv:RV w A ρ h c u) (ss:List Sh):RV w A ρ h (nrmV ss c) u:=by
 cases c with
 | agg cs =>
  simp only [Ab.nrmV]
  obtain ⟨us,rfl,hs,h1,hr⟩:=hv.agg_inv
  refine .agg _ us (by rw [pS]; exact hs) h1 fun i c u hc hu=>?_
  obtain ⟨c0,h2,h3⟩:=rq ss cs i c hc
  rcases h3 with rfl | ⟨s,rfl⟩
  ·exact hr i _ u h2 hu
  ·exact (hr i c0 u h2 hu).nrmL s
 | _=>exact hv.nrmL _
theorem oi:∀ (ss:List (List Sh)) (l:List AV),(aM ss l).length=l.length
 | [],l=>by cases l <;> simp [aM]
 | s::ss,[]=>by simp [aM]
 | s::ss,a::l=>by simp [aM,oi ss l]
theorem nI:∀ (ss:List (List Sh)) (l:List AV) (j:Nat) (c:AV),(aM ss l)[j]?=some c→∃ c0,l[j]?=some c0∧(c=c0∨∃ s,c=Ab.nrmV s c0)
 | [],l,j,c,h=>⟨c,by simpa [aM] using h,.inl rfl⟩
 | s::ss,[],j,c,h=>by simp [aM] at h
 | s::ss,a::l,0,c,h=>by simp [aM] at h; exact ⟨a,rfl,.inr ⟨s,h.symm⟩⟩
 | s::ss,a::l,j+1,c,h=>by
  simp [aM] at h
  simpa using nI ss l j c h
end
def lw:AV→Bool
 | .osl _ _ | .obx _=>true
 | _=>false
def FM (L:List Nat) (h':aa) (a c:AV):Prop :=
 ∃ id,bk a=[id]∧aG id=false∧aA L (h' id)=true ∧
  ((∃ k rows,c=.osl k rows∧a=.rsl id none k 0 rows.length∧h' id=.ar k rows)∨(∃ xs,c=.obx xs∧a=.ref id none 0 0 0∧h' id=.bx xs))
theorem C6 {m:Nat} {h:aa} {c:AV} (hc:lw c=false):bU m h c=(c,h):=by
 cases c <;> simp [lw] at hc <;> rfl
theorem FM.mat {L:List Nat} {h':aa} {a c:AV} (hm:FM L h' a c) (m:Nat) (h2:aa):∃ id,bk a=[id]∧aG id=false∧aA L (h' id)=true∧h' id ≠ .dead∧(bU m h2 c).2=upd h2 m (h' id):=by
 obtain ⟨id,h1,h3,h4,⟨k,rows,rfl,rfl,h5⟩ | ⟨xs,rfl,rfl,h5⟩⟩:=hm
 ·exact ⟨id,h1,h3,h4,by rw [h5]; simp,by rw [h5]; rfl⟩
 ·exact ⟨id,h1,h3,h4,by rw [h5]; simp,by rw [h5]; rfl⟩
theorem H4 {x:Nat} {l:List Nat} (h:fm (x::l)=true):x ∉ l∧fm l=true:=by
 simp only [fm,Bool.and_eq_true,Bool.not_eq_true',List.contains_eq_mem,decide_eq_false_iff_not] at h
 exact h
theorem AK {l l':List Nat}:fm (l++l')=true→fm l'=true∧∀ x,x ∈ l→x ∉ l':=by
 induction l with
 | nil=>intro h; exact ⟨h,fun x hx=>by simp at hx⟩
 | cons y l ih =>
  intro h
  obtain ⟨h1,h2⟩:=H4 h
  obtain ⟨h3,h4⟩:=ih h2
  refine ⟨h3,fun x hx=>?_⟩
  rcases List.mem_cons.1 hx with rfl | hx
  ·exact fun hh=>h1 (by simp [hh])
  ·exact h4 x hx
section
variable {h':aa} {L:List Nat}
theorem uI (hL:∀ i,2000≤i→L.contains i=false):∀ (zas cs:List AV) (m:Nat) (h2:aa) (g:Nat→Nat),2000≤m→zas.length=cs.length →
  (∀ (j:Nat) (a c:AV),zas[j]?=some a→cs[j]?=some c→lw c=true→FM L h' a c)→fm ((zas.flatMap bk).filter fun i=>!aG i)=true→Emb L (fun i=>i) g h' h2→(∀ i,m≤i→h2 i=.dead) →
  (∀ i,h2 i ≠ .dead→∀ id,id ∈ zas.flatMap bk→aG id=false→g i ≠ id) →
  ∃ gm,Emb L (fun i=>i) gm h' (bp m h2 cs).2∧(∀ i,i < m→(bp m h2 cs).2 i=h2 i∧gm i=g i) ∧
   (∀ i,(bp m h2 cs).2 i ≠ .dead→(h2 i ≠ .dead∧gm i=g i)∨∃ (j:Nat) (a c:AV),zas[j]?=some a∧cs[j]?=some c∧lw c=true∧bk a=[gm i]) ∧
   (∀ (j:Nat) (a c:AV) (id:Nat),zas[j]?=some a→cs[j]?=some c→lw c=true→bk a=[id]→gm (m+j)=id∧(bp m h2 cs).2 (m+j)=h' id∧h' id ≠ .dead)
 | [],[],m,h2,g,hm,_,_,_,em,_,_=>⟨g,em,fun _ _=>⟨rfl,rfl⟩,fun _ hi=>.inl ⟨hi,rfl⟩,fun j a c id h1=>by simp at h1⟩
 | [],c::cs,m,h2,g,_,hl,_,_,_,_,_=>by simp at hl
 | a::zas,[],m,h2,g,_,hl,_,_,_,_,_=>by simp at hl
 | a::zas,c::cs,m,h2,g,hm,hl,hmv,hnd,em,hfree,hid=>by
  simp only [List.flatMap_cons,List.filter_append] at hnd
  obtain ⟨nd2,nd3⟩:=AK hnd
  have hmv':∀ (j:Nat) (a c:AV),zas[j]?=some a→cs[j]?=some c→lw c=true→FM L h' a c:=fun j a' c' h1 h3=>hmv (j+1) a' c' (by simpa using h1) (by simpa using h3)
  have hl':zas.length=cs.length:=by simpa using hl
  cases hc:lw c with
  | false =>
   simp only [bp,C6 hc]
   obtain ⟨gm,e1,e2,e3,e4⟩:=uI hL zas cs (m+1) h2 g (by omega) hl' hmv' nd2 em (fun i hi=>hfree i (by omega)) (fun i hi id hm'=>hid i hi id (by simp only [List.flatMap_cons,List.mem_append]; exact .inr hm'))
   refine ⟨gm,e1,fun i hi=>e2 i (by omega),fun i hi=>?_,fun j a' c' id h1 h3 h4 h5=>?_⟩
   ·rcases e3 i hi with hh | ⟨j,a',c',h1,h3,h4,h5⟩
    ·exact .inl hh
    ·exact .inr ⟨j+1,a',c',by simpa using h1,by simpa using h3,h4,h5⟩
   ·cases j with
    | zero =>
     simp at h3
     subst h3
     rw [hc] at h4
     cases h4
    | succ j =>
     have:=e4 j a' c' id (by simpa using h1) (by simpa using h3) h4 h5
     rwa [show m+(j+1)=m+1+j from by omega]
  | true =>
   obtain ⟨id,i1,i2,i3,i4,i5⟩:=(hmv 0 a c rfl rfl hc).mat m h2
   simp only [bp,i5]
   have hida:id ∈ (a::zas).flatMap bk:=by simp [i1]
   have em1:=em.add (m:=m) (id:=id) (hfree m (Nat.le_refl _)) (hL m hm) (fun i hi=>hid i hi id hida i2) i3
   have nin:∀ id',id' ∈ zas.flatMap bk→aG id'=false→id' ≠ id:=by
    rintro id' h1 h3 rfl
    exact nd3 id' (by simp [i1,i2]) (List.mem_filter.2 ⟨h1,by simp [h3]⟩)
   obtain ⟨gm,e1,e2,e3,e4⟩:=uI hL zas cs (m+1) (upd h2 m (h' id)) (upd g m id) (by omega) hl' hmv' nd2 em1 (fun i hi=>by rw [ap _ _ (by omega)]; exact hfree i (by omega)) (fun i hi id' hm' hp'=>by
    by_cases e:i=m
    ·subst e
     rw [ag]
     exact fun ee=>nin id' hm' hp' ee.symm
    ·rw [ap _ _ e] at hi ⊢
     exact hid i hi id' (by simp only [List.flatMap_cons,List.mem_append]; exact .inr hm') hp')
   have atm:=e2 m (by omega)
   rw [ag,ag] at atm
   refine ⟨gm,e1,fun i hi=>?_,fun i hi=>?_,fun j a' c' id' h1 h3 h4 h5=>?_⟩
   ·have:=e2 i (by omega)
    rwa [ap _ _ (by omega),ap _ _ (by omega)] at this
   ·rcases e3 i hi with ⟨h1,h3⟩ | ⟨j,a',c',h1,h3,h4,h5⟩
    ·by_cases e:i=m
     ·subst e
      exact .inr ⟨0,a,c,rfl,rfl,hc,by rw [atm.2]; exact i1⟩
     ·rw [ap _ _ e] at h1 h3
      exact .inl ⟨h1,h3⟩
    ·exact .inr ⟨j+1,a',c',by simpa using h1,by simpa using h3,h4,h5⟩
   ·cases j with
    | zero =>
     simp at h1
     subst h1
     rw [i1] at h5
     cases h5
     exact ⟨atm.2,atm.1,i4⟩
    | succ j =>
     have:=e4 j a' c' id' (by simpa using h1) (by simpa using h3) h4 h5
     rwa [show m+(j+1)=m+1+j from by omega]
theorem FN:∀ (l:List AV) (m:Nat) (h:aa) (j:Nat) (z:AV),(bp m h l).1[j]?=some z→∃ c,l[j]?=some c∧z=(bU (m+j) h c).1
 | [],m,h,j,z,hz=>by simp [bp] at hz
 | c::l,m,h,0,z,hz=>by
  simp [bp] at hz
  exact ⟨c,rfl,hz.symm⟩
 | c::l,m,h,j+1,z,hz=>by
  simp only [bp,List.getElem?_cons_succ] at hz
  obtain ⟨c',h1,h2⟩:=FN l (m+1) _ j z hz
  refine ⟨c',by simpa using h1,?_⟩
  rw [h2,yP _ _ h,show m+1+j=m+(j+1) from by omega]
theorem yy:∀ (l:List AV) (m:Nat) (h:aa),(bp m h l).1.length=l.length
 | [],m,h=>rfl
 | c::l,m,h=>by simp [bp,yy l]
end
section
variable {w:World} {X:Nat→Prop} {ρ:aT} {h':aa} {L:List Nat}
structure Seen (w:World) (X:Nat→Prop) (ρ:aT) (h':aa) (a:AV) (A2:Nat→Prop) (ρ2:aT) (h2:aa):Prop where
 mono:∀ b,ao w X h' ρ b→A2 b
 ids:∀ id,id ∈ bk a→aG id=false→∀ sub,live h' id sub→A2 (ρ id sub).1
 pas:∀ id,aG id=true→h' id ≠ .dead→h2 id ≠ .dead∧ρ2 id none=ρ id none
def Nm (w:World) (X:Nat→Prop) (ρ:aT) (h':aa) (L:List Nat) (a c:AV) (u:Value):Prop :=
 (lw c=true→FM L h' a c)∧(lw c=false→∀ A2 ρ2 h2,Seen w X ρ h' a A2 ρ2 h2→RV w A2 ρ2 h2 c u)
theorem yz {c:AV} (hd:gH c=true):eH L c=true:=by
 simp only [gH,Bool.or_eq_true] at hd
 simp only [eH,Bool.or_eq_true]
 rcases hd with hd | hd
 ·exact .inl hd
 ·right
  cases c <;> simp [ak] at hd <;> simp [aJ,aO,hd]
theorem yA {a b:AV} (he:fX h' a=some b) (hd:ak b=true∨∃ k r,b=.osl k r) {id:Nat} (hi:cP a=[id]):aG id=false:=by
 cases a <;> simp only [cP] at hi <;> try (cases hi; done)
 case ref i sub k x y =>
  cases sub with
  | some p=>simp [fX,ak] at he
  | none =>
   simp only [fX] at he
   split at he
   ·cases he; rcases hd with hd | ⟨_,_,hd⟩ <;> simp [ak] at hd
   ·split at he
    ·cases e:h' i <;> rw [e] at he <;> simp only [M5] at he <;> try (cases he; done)
     split at he
     ·cases he; rcases hd with hd | ⟨_,_,hd⟩ <;> simp [ak] at hd
     ·cases he
    ·cases he
 case rsl i sub k x y =>
  have hi':i=id:=by simpa using hi
  subst hi'
  cases hp:aG i with
  | false=>rfl
  | true=>cases sub <;> simp [fX,hp] at he
theorem PA {b c:AV} (hd:qt b=some c):ak b=true∨∃ k r,b=.osl k r:=by
 unfold qt at hd
 split at hd
 ·exact .inr ⟨_,_,rfl⟩
 ·split at hd
  ·exact .inl (by assumption)
  ·cases hd
theorem FO:∀ {cs ds:List AV},fY h' cs=some ds→∀ (i:Nat) (a:AV) (id:Nat),cs[i]?=some a→cP a=[id]→aG id=false
 | [],ds,_,i,a,id,h1,_=>by simp at h1
 | c::cs,ds,he,i,a,id,h1,h2=>by
  simp only [fY,Option.bind_eq_some_iff] at he
  obtain ⟨b,e1,c',e2,q,e3,e4⟩:=he
  cases i with
  | zero=>simp at h1; subst h1; exact yA e1 (PA e2) h2
  | succ i=>exact FO e3 i a id (by simpa using h1) h2
theorem C7 {s:Sh} {b:AV} (h:lw (nrmL s b)=true):nrmL s b=b:=by
 obtain ⟨k,cs⟩:=s
 cases k with
 | zero=>simp [nrmL]
 | succ k=>cases b <;> simp [nrmL,lw] at h ⊢
theorem Lp (ss:List Sh) {b:AV} (h:∀ cs,b ≠ .agg cs):nrmV ss b=nrmL (ss.headD (.o 0 [])) b:=by
 cases b <;> first | rfl | exact absurd rfl (h _)
theorem Nn (r:Rel w X ρ h') {a b:AV} {u:Value} (hv:RV w (ao w X h' ρ) ρ h' a u) (he:fX h' a=some b) (s:Sh):Nm w X ρ h' L a (nrmL s b) u:=by
 have data:∀ {b:AV},fX h' a=some b→ak b=true→(∀ A2:Nat→Prop,(∀ b,ao w X h' ρ b→A2 b)→(∀ id sub,cP a=[id]→live h' id sub→A2 (ρ id sub).1)→RD w A2 b u) →
   ∀ A2 ρ2 h2,Seen w X ρ h' a A2 ρ2 h2→RV w A2 ρ2 h2 (nrmL s b) u:=by
  intro b he hd hr A2 ρ2 h2 hs
  exact .dat ((hr A2 hs.mono fun id sub hi hl=>hs.ids id (by
   have:bk a=cP a:=by cases a <;> first | rfl | simp [cP] at hi
   rw [this,hi]; simp) (yA he (.inl hd) hi) sub hl).nrmL s)
 rcases qI r hv he with ⟨id,k,rows,rfl,rfl,e,hp⟩ | ⟨id,cs,rfl,rfl,e,hd,hp⟩ | ⟨rfl,id,k,i,j,rfl,hp⟩ | ⟨rfl,hd⟩ | ⟨hd,hr⟩
 ·refine ⟨fun hm=>?_,fun hm A2 ρ2 h2 hs=>?_⟩
  ·rw [C7 hm]
   exact ⟨id,rfl,hp,by rw [e]; rfl,.inl ⟨k,rows,rfl,rfl,e⟩⟩
  ·have hsl:nrmL s (.osl k rows)=nrmL s (.sl k rows):=by
    obtain ⟨k',cs⟩:=s
    cases k' with
    | zero=>simp [nrmL,lw] at hm
    | succ k'=>simp [nrmL]
   rw [hsl]
   obtain ⟨a',cap,rfl,_⟩:=hv.rsl_inv
   exact .dat (((AG r hv rfl he rfl).2 A2 hs.mono fun id' sub hi hl=>hs.ids id' (by
    simp only [cP] at hi; simp only [bk,cP]; rw [hi]; simp) (by simp only [cP] at hi; cases hi; exact hp) sub hl).nrmL s)
 ·refine ⟨fun hm=>?_,fun hm=>?_⟩
  ·rw [C7 hm]
   refine ⟨id,rfl,hp,?_,.inr ⟨cs,rfl,rfl,e⟩⟩
   rw [e]
   simp only [aA,List.all_eq_true] at hd ⊢
   exact fun c hc=>yz (hd c hc)
  ·rw [dw s (by simp) (by simp) (by simp)] at hm
   cases hm
 ·refine ⟨fun hm=>?_,fun hm A2 ρ2 h2 hs=>?_⟩
  ·rw [dw s (by simp) (by simp) (by simp)] at hm
   cases hm
  ·rw [dw s (by simp) (by simp) (by simp)]
   obtain ⟨rfl,hpr⟩:=hv.ref_inv
   obtain ⟨h1,h3⟩:=hs.pas id hp hpr
   have:=RV.ref (w:=w) (A:=A2) (ρ:=ρ2) (h:=h2) id none k i j h1
   rwa [h3] at this
 ·refine ⟨fun hm=>?_,fun hm A2 ρ2 h2 hs=>?_⟩
  ·have:=rr (s:=s) hd
   cases hq:nrmL s b <;> rw [hq] at hm this <;> simp [lw,ak] at hm this
  ·exact (hv.keepD hd fun b hb=>⟨hs.mono b hb,rfl⟩).nrmL s
 ·refine ⟨fun hm=>?_,fun hm=>data he hd hr⟩
  have:=rr (s:=s) hd
  cases hq:nrmL s b <;> rw [hq] at hm this <;> simp [lw,ak] at hm this
theorem PB (r:Rel w X ρ h') {a b:AV} {u:Value} (hv:RV w (ao w X h' ρ) ρ h' a u) (he:ll h' a=some b) {c:AV} (hc:c=b∨∃ ss,c=nrmV ss b):Nm w X ρ h' L a c u:=by
 have hc':∃ ss,c=nrmV ss b:=by
  rcases hc with rfl | hc
  ·refine ⟨[],?_⟩
   cases c <;> simp [nrmV,nrmL,ce]
  ·exact hc
 obtain ⟨ss,rfl⟩:=hc'
 by_cases hagg:∃ cs,a=.agg cs
 ·obtain ⟨cs,rfl⟩:=hagg
  simp only [ll,Option.map_eq_some_iff] at he
  obtain ⟨ds,e1,rfl⟩:=he
  refine ⟨fun hm=>by simp [nrmV,lw] at hm,fun _ A2 ρ2 h2 hs=>?_⟩
  obtain ⟨us,rfl,q1,q2,q3⟩:=hv.agg_inv
  obtain ⟨l1,l2⟩:=yt r cs ds e1
  refine .agg _ us (by rw [pS,l1]; exact q1) q2 fun i c u hc hu=>?_
  obtain ⟨c0,h1,h3⟩:=rq ss ds i c hc
  have hi:i < cs.length:=by rw [← l1]; exact (List.getElem?_eq_some_iff.1 h1).1
  have hci:cs[i]?=some cs[i]:=by simp [hi]
  obtain ⟨d1,d2⟩:=l2 i cs[i] c0 u hci h1 (q3 i _ u hci hu) (q2 i u hu)
  have hrd:=d2 A2 hs.mono fun id sub hii hl=>hs.ids id (by
   simp only [bk,List.mem_flatMap]
   exact ⟨cs[i],by simp,by rw [hii]; simp⟩) (FO e1 i _ id hci hii) sub hl
  rcases h3 with rfl | ⟨s,rfl⟩
  ·exact .dat hrd
  ·exact .dat (hrd.nrmL s)
 ·have hl:ll h' a=fX h' a:=by cases a <;> first | rfl | exact absurd ⟨_,rfl⟩ hagg
  rw [hl] at he
  have hb:∀ cs,b ≠ .agg cs:=by
   rintro cs rfl
   rcases qI r hv he with ⟨id,k,rows,h1,_⟩ | ⟨id,cs',h1,_⟩ | ⟨h1,id,k,i,j,h2,_⟩ | ⟨h1,hd⟩ | ⟨hd,hr⟩
   ·cases h1
   ·cases h1
   ·rw [h2] at h1; cases h1
   ·exact absurd ⟨_,h1.symm⟩ hagg
   ·simp [ak] at hd
  rw [Lp ss hb]
  exact Nn r hv he _
theorem C8:∀ {zas bs:List AV},lP h' zas=some bs→bs.length=zas.length∧∀ (j:Nat) (a b:AV),zas[j]?=some a→bs[j]?=some b→ll h' a=some b
 | [],bs,he=>by simp only [lP,Option.some.injEq] at he; subst he; exact ⟨rfl,fun j a b h1=>by simp at h1⟩
 | a::zas,bs,he=>by
  simp only [lP,Option.bind_eq_some_iff] at he
  obtain ⟨b,e1,q,e2,e3⟩:=he
  cases e3
  obtain ⟨g1,g2⟩:=C8 e2
  refine ⟨by simp [g1],fun j a' b' h1 h2=>?_⟩
  cases j with
  | zero=>simp at h1 h2; subst h1 h2; exact e1
  | succ j=>exact g2 j a' b' (by simpa using h1) (by simpa using h2)
def AL (us:Array Value):Value:=if h:us.size=1 then us[0] else .tuple us
theorem Lq {l:List AV} (hl:∀ c ∈ l,∀ vs,c ≠ .tup vs) (n:Nat) (h:aa):mat n h (kP l)=(kP (bp n h l).1,(bp n h l).2):=by
 match l with
 | []=>rfl
 | [c] =>
  have:∀ vs,c ≠ .tup vs:=hl c (by simp)
  cases c <;> first | rfl | exact absurd rfl (this _)
 | a::b::l=>rfl
end
section
variable {w:World} {X:Nat→Prop} {ρ:aT} {h':aa}
theorem Iy {L:List Nat} {g:Nat→Nat} {h2:aa} (em:Emb L (fun i=>i) g h' h2) {b:Nat} (ho:kl h2 (fun i s=>ρ (g i) s) b):kl h' ρ b:=by
 obtain ⟨i,s,h1,h3⟩:=ho
 exact ⟨g i,s,(em.live h1).1,h3⟩
theorem No {ss:List Sh} {b:AV} {vs:List AV} (h:nrmV ss b=.tup vs):∃ vs',b=.tup vs':=by
 cases b with
 | tup vs'=>exact ⟨vs',rfl⟩
 | agg cs=>simp [nrmV] at h
 | _ =>
  simp only [nrmV] at h
  generalize ss.headD (.o 0 [])=s at h
  obtain ⟨k,cs⟩:=s
  cases k <;> simp [nrmL] at h
theorem J9 (r:Rel w X ρ h') {a:AV} {u:Value} {vs:List AV} (hv:RV w (ao w X h' ρ) ρ h' a u) (he:ll h' a=some (.tup vs)):False:=by
 by_cases hagg:∃ cs,a=.agg cs
 ·obtain ⟨cs,rfl⟩:=hagg
  simp [ll] at he
 ·have hl:ll h' a=fX h' a:=by cases a <;> first | rfl | exact absurd ⟨_,rfl⟩ hagg
  rw [hl] at he
  rcases qI r hv he with ⟨id,k,rows,h1,_⟩ | ⟨id,cs',h1,_⟩ | ⟨h1,id,k,i,j,h2,_⟩ | ⟨h1,hd⟩ | ⟨hd,hr⟩
  ·cases h1
  ·cases h1
  ·rw [h2] at h1; cases h1
  ·simp only [← h1] at hd; simp [ak] at hd
  ·simp [ak] at hd
theorem Lr (r:Rel w X ρ h') {n0 n:Nat} (hn0:n0≤1000) (hn:2000≤n) (hpass:∀ id,aG id=true→h' id ≠ .dead→(bS n0).contains id=true) {zas:List AV} {us:Array Value} (hs:us.size=zas.length)
  (hv:∀ (i:Nat) (c:AV) (u:Value),zas[i]?=some c→us[i]?=some u→RV w (ao w X h' ρ) ρ h' c u) {rs:List (List Sh)} {res:AV} {obs:List Ob} (hz:n6 rs n0 h' zas=some (res,obs)) :
  ∃ ρ2,Rel w X ρ2 (mat n (ae obs) res).2∧(∀ nm,Far nm w ρ h' w ρ2 (mat n (ae obs) res).2)∧RV w (ao w X (mat n (ae obs) res).2 ρ2) ρ2 (mat n (ae obs) res).2 (mat n (ae obs) res).1 (AL us):=by
 unfold n6 at hz
 split at hz
 ·rename_i hc
  simp only [Bool.and_eq_true] at hc
  obtain ⟨hc1,hc2⟩:=hc
  simp only [Option.map_eq_some_iff] at hz
  obtain ⟨bs,e1,e2⟩:=hz
  cases e2
  obtain ⟨l1,l2⟩:=C8 e1
  have hLm:∀ i,(bS n0).contains i=true→aG i=true:=fun i hi=>by
   have:=gK.1 hi
   simp only [aG,decide_eq_true_eq]
   omega
  have hL:∀ i,2000≤i→(bS n0).contains i=false:=fun i hi=>by
   cases hq:(bS n0).contains i with
   | false=>rfl
   | true=>have:=gK.1 hq; omega
  have hcl:(aM rs bs).length=zas.length:=by rw [oi,l1]
  have out:∀ (j:Nat) (a c:AV) (u:Value),zas[j]?=some a→(aM rs bs)[j]?=some c→us[j]?=some u→Nm w X ρ h' (bS n0) a c u:=fun j a c u h1 h3 h4=>by
   obtain ⟨b,h5,h6⟩:=nI rs bs j c h3
   exact PB r (hv j a u h1 h4) (l2 j a b h1 h5) h6
  have uget:∀ (j:Nat) (a:AV),zas[j]?=some a→∃ u,us[j]?=some u:=fun j a h1=>by
   have:j < us.size:=by rw [hs]; exact (List.getElem?_eq_some_iff.1 h1).1
   exact ⟨us[j],by simp [this]⟩
  have em:=Emb.base (h':=h') hc2
  have hlow:∀ i,ae ((bS n0).map h') i ≠ .dead→(bS n0).contains i=true:=fun i hi=>by
   rw [kz] at hi
   split at hi
   ·rename_i h1; exact gK.2 h1
   ·exact absurd rfl hi
  obtain ⟨gm,m1,m2,m3,m4⟩:=uI hL zas (aM rs bs) n (ae ((bS n0).map h')) (fun i=>i) hn hcl.symm (fun j a c h1 h3 h4=>by
    obtain ⟨u,hu⟩:=uget j a h1
    exact (out j a c u h1 h3 hu).1 h4) hc1 em (fun i hi=>by
    rw [kz,if_neg (by omega)]) (fun i hi id _ hp e=>by
    have:=hLm i (hlow i hi)
    rw [e] at this
    rw [this] at hp
    cases hp)
  have notup:∀ c ∈ aM rs bs,∀ vs,c ≠ .tup vs:=by
   rintro c hcm vs rfl
   obtain ⟨j,hj⟩:=List.getElem?_of_mem hcm
   have hja:j < zas.length:=by rw [← hcl]; exact (List.getElem?_eq_some_iff.1 hj).1
   obtain ⟨u,hu⟩:=uget j zas[j] (by simp [hja])
   obtain ⟨b,h5,h6⟩:=nI rs bs j _ hj
   have he:=l2 j zas[j] b (by simp [hja]) h5
   obtain ⟨vs',rfl⟩:∃ vs',b=.tup vs':=by
    rcases h6 with h6 | ⟨ss,h6⟩
    ·exact ⟨vs,h6.symm⟩
    ·exact No h6.symm
   exact J9 r (hv j zas[j] u (by simp [hja]) hu) he
  rw [Lq notup]
  simp only
  have hfar:∀ b,ao w X h' ρ b→ao w X (bp n (ae ((bS n0).map h')) (aM rs bs)).2 (fun i s=>ρ (gm i) s) b:=fun b hb=>⟨hb.1,hb.2.1,fun ho=>hb.2.2 (Iy m1 ho)⟩
  have hps:∀ id,aG id=true→(bp n (ae ((bS n0).map h')) (aM rs bs)).2 id=ae ((bS n0).map h') id∧gm id=id:=fun id hp=>m2 id (by
   simp only [aG,decide_eq_true_eq] at hp; omega)
  have hpd:∀ id,aG id=true→h' id ≠ .dead→(bp n (ae ((bS n0).map h')) (aM rs bs)).2 id=h' id:=fun id hp hd=>by
   rw [(hps id hp).1,kz,if_pos (gK.1 (hpass id hp hd))]
  have rel2:Rel w X (fun i s=>ρ (gm i) s) (bp n (ae ((bS n0).map h')) (aM rs bs)).2:=Rel.emb m1 r r.xl (fun i s hl=>r.nx _ _ (m1.live hl).1) hfar
  refine ⟨fun i s=>ρ (gm i) s,rel2,fun nm=>⟨rfl,rfl,rfl,Nat.le_refl _,fun _ _ _=>rfl,fun b ho=>.inl (Iy m1 ho),fun id hp hd=>?_,fun _ id p hp hd hpr=>?_⟩,?_⟩
  ·have:=hps id hp
   refine ⟨fun e=>hd ?_,by simp only [this.2]⟩
   rw [this.1,kz]
   split
   ·exact e
   ·rfl
  ·have h1:h' id ≠ .dead:=by obtain ⟨_,_,_,e,_⟩:=hpr; rw [e]; simp
   refine ⟨(cA (hpd id hp h1)).2 hpr,by simp only [(hps id hp).2]⟩
  ·
   have seen:∀ (j:Nat) (a c:AV),zas[j]?=some a→(aM rs bs)[j]?=some c→lw c=false →
     Seen w X ρ h' a (ao w X (bp n (ae ((bS n0).map h')) (aM rs bs)).2 (fun i s=>ρ (gm i) s)) (fun i s=>ρ (gm i) s) (bp n (ae ((bS n0).map h')) (aM rs bs)).2:=by
    intro j a c h1 h3 h4
    refine ⟨hfar,fun id hid hp sub hl=>⟨?_,r.nx _ _ hl,fun ⟨i,s,ho1,ho2⟩=>?_⟩,fun id hp hd=>⟨by rw [hpd id hp hd]; exact hd,by simp only [(hps id hp).2]⟩⟩
    ·cases sub with
     | none =>
      have ho:=r.ob id
      cases e:h' id with
      | bx cs=>rw [e] at ho; obtain ⟨us,t,g1,_⟩:=ho; exact (Array.getElem?_eq_some_iff.1 g1).1
      | ar k rows=>rw [e] at ho; obtain ⟨us,t,g1,_⟩:=ho; exact (Array.getElem?_eq_some_iff.1 g1).1
      | _=>simp [live,e] at hl
     | some p =>
      obtain ⟨cs,k,rows,e,ec⟩:=hl
      have ho:=r.ob id
      rw [e] at ho
      obtain ⟨us,t,g1,g2,g3,g4⟩:=ho
      obtain ⟨u,_,a',cap,us',t',_,_,_,q4,_⟩:=g4 p _ ec
      exact (Array.getElem?_eq_some_iff.1 q4).1
    ·obtain ⟨hl1,hdd⟩:=m1.live ho1
     obtain ⟨e1,_⟩:=r.inj _ _ _ _ hl1 hl ho2
     rcases m3 i hdd with ⟨q1,q2⟩ | ⟨j',a',c',q1,q2,q3,q4⟩
     ·have:=hLm i (hlow i q1)
      rw [← q2,e1] at this
      rw [this] at hp
      cases hp
     ·rw [e1] at q4
      have hne:j' ≠ j:=by
       rintro rfl
       rw [h3] at q2
       cases q2
       rw [h4] at q3
       cases q3
      exact two_names zas j' j a' a id hne q1 h1 (by rw [q4]; simp) hid hp hc1
   have vals:∀ (j:Nat) (z:AV) (u:Value),(bp n (ae ((bS n0).map h')) (aM rs bs)).1[j]?=some z→us[j]?=some u →
     RV w (ao w X (bp n (ae ((bS n0).map h')) (aM rs bs)).2 (fun i s=>ρ (gm i) s)) (fun i s=>ρ (gm i) s) (bp n (ae ((bS n0).map h')) (aM rs bs)).2 z u:=by
    intro j z u hz hu
    obtain ⟨c,h1,rfl⟩:=FN _ _ _ _ _ hz
    have hja:j < zas.length:=by rw [← hcl]; exact (List.getElem?_eq_some_iff.1 h1).1
    have ha:zas[j]?=some zas[j]:=by simp [hja]
    have o:=out j zas[j] c u ha h1 hu
    cases hm:lw c with
    | false =>
     rw [C6 hm]
     exact o.2 hm _ _ _ (seen j zas[j] c ha h1 hm)
    | true =>
     obtain ⟨id,i1,i2,i3,⟨k,rows,rfl,i4,i5⟩ | ⟨xs,rfl,i4,i5⟩⟩:=o.1 hm
     ·obtain ⟨q1,q2,q3⟩:=m4 j zas[j] _ id ha h1 hm i1
      have hva:=hv j zas[j] u ha hu
      rw [i4] at hva
      obtain ⟨a',cap,rfl,hp,hnn,hb,hab⟩:=hva.rsl_inv
      simp only [bU]
      exact .rsl (n+j) none k 0 rows.length cap a' (by show _ ≠ _; rw [q2]; exact q3) hnn (by simp only [q1]; exact hb) (by simp only [q1]; exact hab)
     ·obtain ⟨q1,q2,q3⟩:=m4 j zas[j] _ id ha h1 hm i1
      have hva:=hv j zas[j] u ha hu
      rw [i4] at hva
      obtain ⟨rfl,hp⟩:=hva.ref_inv
      simp only [bU]
      have:=RV.ref (w:=w) (A:=ao w X (bp n (ae ((bS n0).map h')) (aM rs bs)).2 (fun i s=>ρ (gm i) s)) (ρ:=fun i s=>ρ (gm i) s) (h:=(bp n (ae ((bS n0).map h')) (aM rs bs)).2) (n+j) none 0 0 0 (by show _ ≠ _; rw [q2]; exact q3)
      simp only [q1] at this
      exact this
   have hzl:(bp n (ae ((bS n0).map h')) (aM rs bs)).1.length=us.size:=by rw [yy,hcl,hs]
   unfold AL
   split
   ·rename_i h1
    match hq:(bp n (ae ((bS n0).map h')) (aM rs bs)).1 with
    | []=>rw [hq] at hzl; simp at hzl; omega
    | [z]=>exact vals 0 z us[0] (by rw [hq]; rfl) (by simp [h1])
    | a::b::l=>rw [hq] at hzl; simp at hzl; omega
   ·rename_i h1
    match hq:(bp n (ae ((bS n0).map h')) (aM rs bs)).1 with
    | []=>exact .tup [] us (by rw [hq] at hzl; simpa using hzl.symm) fun i c u hc=>by simp at hc
    | [z]=>rw [hq] at hzl; simp at hzl; omega
    | a::b::l =>
     rw [hq] at hzl
     exact .tup _ us hzl.symm fun i c u hc hu=>vals i c u (by rw [hq]; exact hc) hu
 ·cases hz
where
 two_names:∀ (zas:List AV) (i j:Nat) (a b:AV) (id:Nat),i ≠ j→zas[i]?=some a→zas[j]?=some b→id ∈ bk a→id ∈ bk b→aG id=false→fm ((zas.flatMap bk).filter fun i=>!aG i)=true→False
 | [],i,j,a,b,id,_,h1,_,_,_,_,_=>by simp at h1
 | c::zas,i,j,a,b,id,hne,h1,h2,h3,h4,hp,hnd=>by
  simp only [List.flatMap_cons,List.filter_append] at hnd
  obtain ⟨nd2,nd3⟩:=AK hnd
  have mem:∀ (j:Nat) (b:AV),zas[j]?=some b→id ∈ bk b→id ∈ (zas.flatMap bk).filter fun i=>!aG i:=fun j b hb hi =>
   List.mem_filter.2 ⟨List.mem_flatMap.2 ⟨b,List.mem_of_getElem? hb,hi⟩,by simp [hp]⟩
  cases i with
  | zero =>
   simp at h1
   subst h1
   cases j with
   | zero=>exact hne rfl
   | succ j=>exact nd3 id (List.mem_filter.2 ⟨h3,by simp [hp]⟩) (mem j b (by simpa using h2) h4)
  | succ i =>
   cases j with
   | zero =>
    simp at h2
    subst h2
    exact nd3 id (List.mem_filter.2 ⟨h4,by simp [hp]⟩) (mem i a (by simpa using h1) h3)
   | succ j=>exact two_names zas i j a b id (by omega) (by simpa using h1) (by simpa using h2) h3 h4 hp nd2
end
structure Text (P:Program) (f:FuncId) (fd:FD):Prop where
 text : ∃ fn code N, P.funcs[f]? = some fn ∧ fn.body = some code ∧ fn.ntmps = N ∧ N ≤ 1000 ∧ dR P N code fd.body = some fd.body ∧ uA P fn.results.toList = some fd.res ∧ (fn.name == "runtime.NumGoroutine") = false
theorem FP (fn:Func) (tmps:Array Value):fn.results.mapM (p8 tmps)=(fun l=>l.toArray) <$> fn.results.toList.mapM (p8 tmps):=by
 rw [Array.mapM_eq_mapM_toList]
theorem H5 {P:Program} {fn:Func} {tmps:Array Value} {w:World} {us:List Value} (h:(fn.results.toList.mapM (p8 tmps)).run P w=.ok us w):(results fn tmps).run P w=.ok (AL us.toArray) w:=by
 have h1:(fn.results.mapM (p8 tmps)).run P w=.ok us.toArray w:=by
  rw [FP,Sem.run_map,h]
  rfl
 have h2:results fn tmps=(fn.results.mapM (p8 tmps) >>= fun vs=>pure (AL vs)):=by
  unfold results AL
  congr 1
 rw [h2,Sem.run_bind,h1]
 rfl
section
variable {P:Program} {I:Inv} {call:cT} {md:Mode}
theorem PC (hm:P.follows .mixedOrders=true) (hcall:go P I call md) {f:FuncId} {fd:FD} {lf:Nat} (ht:Text P f fd):fj P I md.nm f (wr call md lf fd):=by
 obtain ⟨fn,code,N,t1,t2,t3,t4,t5,t6,t7⟩:=ht.text
 intro args obs obs' res w X ρ vals n hz hn hi r hsz hv
 unfold wr at hz
 split at hz
 ·rename_i hc
  obtain ⟨c1,c2⟩:=hc
  have he:(callFunc f vals).run P w=.ok (.enter f vals) w:=by
   unfold callFunc
   rw [Sem.run_bind,show program.run P w=.ok P w from rfl]
   simp only [Result.andThen,t1,t7,t2]
   rfl
  unfold Enters
  rw [he]
  simp only
  refine calls_of_wp t1 t2 ?_
  have hget:∀ i,(vals++Array.replicate (fn.ntmps - vals.size) undef).getD i undef=vals.getD i undef:=fun i=>by
   simp only [Array.getD_eq_getD_getElem?,Array.getElem?_append]
   split
   ·rfl
   ·rename_i hlt
    rw [Array.getElem?_eq_none (by omega:vals.size≤i)]
    simp only [Array.getElem?_replicate]
    split <;> rfl
  have ok:Ok I N w X ρ (ae obs) (pf args) { tmps:=vals++Array.replicate (fn.ntmps - vals.size) undef,defers:=[] }:=by
   refine ⟨r,fun i=>?_,by simp; omega,rfl,hi⟩
   simp only [hget,pf]
   by_cases h:i < args.length
   ·have:i < vals.size:=by omega
    rw [Array.getD_eq_getD_getElem?]
    simp only [this,Array.getElem?_eq_getElem,Option.getD_some,List.getElem?_eq_getElem h]
    exact hv i _ _ (by simp [h]) (by simp [this])
   ·rw [List.getElem?_eq_none (by omega)]
    exact .anyv _
  have fin:∀ {t:St} {a:Act} {w':World} {ρ':aT},Ok I N w' X ρ' t.h t.s a→Far md.nm w ρ (ae obs) w' ρ' t.h→rj md.nm fd.rs fd.res obs.length t.s t.h=some (res,obs') →
    a.defers=[]∧∃ v,(results fn a.tmps).run P w'=.ok v w'∧∃ ρ'',Rel w' X ρ'' (mat n (ae obs') res).2∧Far md.nm w ρ (ae obs) w' ρ'' (mat n (ae obs') res).2 ∧
     RV w' (ao w' X (mat n (ae obs') res).2 ρ'') ρ'' (mat n (ae obs') res).2 (mat n (ae obs') res).1 v:=by
   intro t a w' ρ' ok' far hf
   refine ⟨ok'.defers,?_⟩
   simp only [rj,Option.bind_eq_some_iff] at hf
   obtain ⟨⟨vs,h',ks⟩,e1,e2⟩:=hf
   split at e2
   ·rename_i hnm
    obtain ⟨us,g1,g2,g3,g4,g5⟩:=yr (a:=a) fn.results.toList fd.res t6 ok'.rel ok'.rs e1
    refine ⟨_,H5 g1,?_⟩
    have far2:=far.trans (g4.far hnm)
    obtain ⟨ρ2,q1,q2,q3⟩:=Lr (us:=us.toArray) g3 c2 hn (fun id hp hd=>by
     have:=(far2.stay id hp hd).1
     unfold ae at this
     refine gK.2 ?_
     simp only [aG,decide_eq_true_eq] at hp
     refine ⟨hp.1,?_⟩
     rw [if_pos hp.1] at this
     by_cases hlt:id < 1000+obs.length
     ·exact hlt
     ·rw [List.getElem?_eq_none (by omega)] at this
      exact absurd rfl this) (by simpa using g2) (fun i c u hc hu=>g5 i c u hc (by simpa using hu)) e2
    exact ⟨ρ2,q1,far2.trans (q2 md.nm),q3⟩
   ·cases e2
  cases hx:bc call md lf fd.body (pf args) (ae obs) with
  | none=>rw [hx] at hz; cases hz
  | some q =>
   obtain ⟨e,t⟩:=q
   rw [hx] at hz
   refine J3 (N:=N) hcall t4 (J8 hm hcall t4) lf fd.body code t5 hx ok fun a' w' ρ' ok' far=>?_
   cases e with
   | normal =>
    obtain ⟨d1,v,d2,d3⟩:=fin ok' far hz
    exact ⟨d1,v,d2,d3⟩
   | ret =>
    obtain ⟨d1,v,d2,d3⟩:=fin ok' far hz
    exact ⟨d1,v,d2,d3⟩
   | exit id=>cases hz
 ·cases hz
end
section
variable {w:World} {X:Nat→Prop} {ρ:aT} {h h':aa}
theorem C9 {a c:AV} {ks:K} (hz:du h a=some (c,h',ks)):∀ p ∈ ks,p.2=true:=by
 intro p hp
 unfold du at hz
 split at hz
 ·unfold jf at hz
  repeat' split at hz
  all_goals first
   | (cases hz; done)
   | (simp only [Option.some.injEq,Prod.mk.injEq] at hz; obtain ⟨_,_,rfl⟩:=hz; simp at hp; done)
   | (simp only [Option.some.injEq,Prod.mk.injEq] at hz; obtain ⟨_,_,rfl⟩:=hz; simp only [List.mem_singleton] at hp; subst hp; rfl)
 ·unfold wj M1 at hz
  repeat' split at hz
  all_goals first
   | (cases hz; done)
   | (simp only [Option.some.injEq,Prod.mk.injEq] at hz; obtain ⟨_,_,rfl⟩:=hz; simp only [List.mem_singleton] at hp; subst hp; rfl)
 ·split at hz
  ·cases hz; simp at hp
  ·cases hz
theorem AM:∀ {l cs:List AV} {h h':aa} {ks:K},dB h l=some (cs,h',ks)→∀ p ∈ ks,p.2=true
 | [],cs,h,h',ks,hz=>by simp only [dB,Option.some.injEq,Prod.mk.injEq] at hz; obtain ⟨_,_,rfl⟩:=hz; simp
 | a::l,cs,h,h',ks,hz=>by
  simp only [dB,Option.bind_eq_some_iff] at hz
  obtain ⟨⟨c,h1,k1⟩,e1,⟨q,h2,k2⟩,e2,e3⟩:=hz
  cases e3
  intro p hp
  rcases List.mem_append.1 hp with hp | hp
  ·exact C9 e1 p hp
  ·exact AM e2 p hp
theorem Np {a c:AV} {ks:K} (hz:mE h a=some (c,h',ks)):∀ p ∈ ks,p.2=true:=by
 unfold mE at hz
 split at hz
 ·simp only [Option.bind_eq_some_iff] at hz
  obtain ⟨⟨q,h1,k1⟩,e1,e2⟩:=hz
  cases e2
  exact AM e1
 ·exact C9 hz
theorem Ls {ks:K} (hk:∀ p ∈ ks,p.2=true) (id:Nat):dT ks id none=false:=by
 simp only [dT,List.any_eq_false]
 intro p hp
 simp [hk p hp]
theorem RV.clo {w':World} {A A':Nat→Prop} {ρ':aT} {l:List Nat} {c:AV} {u:Value} (hv:RV w A ρ h c u) (hA:∀ b,A b→A' b∧w'.heap[b]?=w.heap[b]?) (hk:∀ id,bg h id none→bg h' id none∧ρ' id none=ρ id none) (hm:aJ l c=true):RV w' A' ρ' h' c u:=by
 have leaf:∀ {c:AV} {u:Value},RV w A ρ h c u→aO l c=true→RV w' A' ρ' h' c u:=by
  intro c u hv hm
  cases hv with
  | anyv u=>exact .anyv u
  | und=>exact .und
  | dat hd=>exact .dat (hd.mono hA)
  | ref id sub k i j hp =>
   cases sub with
   | some p=>simp [aO] at hm
   | none =>
    obtain ⟨h1,h2⟩:=hk id hp
    rw [← h2]; exact .ref id none k i j h1
  | rsl id sub k lo n cap a hp hn hb ha =>
   cases sub with
   | some p=>simp [aO] at hm
   | none =>
    obtain ⟨h1,h2⟩:=hk id hp
    exact .rsl id none k lo n cap a h1 hn (by rw [h2]; exact hb) (by rw [h2]; exact ha)
  | rsc id k lo n cap a hp hn hb ha=>simp [aO] at hm
  | ipt cs ad vals hA' hs hv hl hr =>
   exact .ipt cs ad vals (hA _ hA').1 hs (fun j c hc=>by rw [ip (w:=w) (w':=w') (by rw [im]; exact (hA _ hA').2)]; exact hv j c hc) hl (fun j c hc=>(hr j c hc).mono hA)
  | agg cs us hs h1 hr=>simp [aO] at hm
  | tup vs us hs hr=>simp [aO] at hm
  | fn f x y us ts hs ht hx hy =>
   simp [aO] at hm
   obtain ⟨rfl,rfl⟩:=hm
   exact .fn f [] [] us ts hs ht (fun i c u hc=>by simp at hc) (fun i c u hc=>by simp at hc)
 cases c with
 | agg cs =>
  simp only [aJ,List.all_eq_true] at hm
  obtain ⟨us,rfl,hs,h1,hr⟩:=hv.agg_inv
  exact .agg cs us hs h1 fun i c u hc hu=>leaf (hr i c u hc hu) (hm c (List.mem_of_getElem? hc))
 | fn f x y =>
  simp only [aJ,Bool.and_eq_true,List.all_eq_true] at hm
  obtain ⟨us,ts,rfl,hs,ht,hx,hy⟩:=hv.fn_inv
  exact .fn f x y us ts hs ht (fun i c u hc hu=>leaf (hx i c u hc hu) (hm.1 c (List.mem_of_getElem? hc))) (fun i c u hc hu=>leaf (hy i c u hc hu) (hm.2 c (List.mem_of_getElem? hc)))
 | _=>exact leaf hv hm
structure Way (w:World) (X:Nat→Prop) (ρ:aT) (h0 h:aa):Prop where
 evo:∃ ks:K,Evo w ρ h0 w ρ h ks∧∀ p ∈ ks,p.2=true
theorem Way.refl:Way w X ρ h h:=⟨[],.refl _ _ _,by simp⟩
theorem Way.trans {h1 h2:aa} (a:Way w X ρ h h1) (b:Way w X ρ h1 h2):Way w X ρ h h2:=by
 obtain ⟨k1,e1,f1⟩:=a.evo
 obtain ⟨k2,e2,f2⟩:=b.evo
 exact ⟨k1++k2,e1.trans e2,fun p hp=>by rcases List.mem_append.1 hp with hp | hp; exact f1 p hp; exact f2 p hp⟩
theorem Way.al {h0:aa} (a:Way w X ρ h0 h):∀ b,ao w X h0 ρ b→ao w X h ρ b:=by
 obtain ⟨k1,e1,_⟩:=a.evo
 exact fun b hb=>(e1.al hb).1
theorem H6 {h0:aa} {m:Nat} {a z:AV} {u:Value} {ks:K} (r:Rel w X ρ h) (wy:Way w X ρ h0 h) (hv:RV w (ao w X h0 ρ) ρ h0 a u) (hz:bM h m a=some (z,h',ks)) :
  Rel w X ρ h'∧Evo w ρ h w ρ h' ks∧(∀ p ∈ ks,p.2=true)∧∃ h1,Way w X ρ h1 h'∧RV w (ao w X h1 ρ) ρ h1 z u:=by
 have same:some (a,h,([]:K))=some (z,h',ks)→Rel w X ρ h'∧Evo w ρ h w ρ h' ks∧(∀ p ∈ ks,p.2=true)∧∃ h1,Way w X ρ h1 h'∧RV w (ao w X h1 ρ) ρ h1 z u:=by
  intro e
  cases e
  exact ⟨r,.refl _ _ _,by simp,h0,wy,hv⟩
 have data:mE h a=some (z,h',ks)→((∀ cs,a ≠ .agg cs)→u.oneCell'=true)→Rel w X ρ h'∧Evo w ρ h w ρ h' ks∧(∀ p ∈ ks,p.2=true)∧∃ h1,Way w X ρ h1 h'∧RV w (ao w X h1 ρ) ρ h1 z u:=by
  intro hz h1
  obtain ⟨g1,g2,g3,g4⟩:=K7 r hv wy.al hz h1
  exact ⟨g1,g2,Np hz,h',.refl,.dat g3⟩
 cases a with
 | any =>
  have:bM h m .any=some (.any,h,[]):=by simp [bM,mE,du,ak]
  rw [this] at hz
  exact same hz
 | rsl id sub k lo n =>
  obtain ⟨ad,cap,rfl,_⟩:=hv.rsl_inv
  cases sub with
  | none =>
   simp only [bM] at hz
   split at hz
   ·exact data hz fun _=>rfl
   ·split at hz
    ·exact same hz
    ·cases hz
  | some p=>exact data hz fun _=>rfl
 | ref id sub k i j =>
  cases sub with
  | none=>exact same hz
  | some p=>simp [bM,mE,du,ak] at hz
 | ipt cs=>exact same hz
 | fn f x y=>exact same hz
 | agg cs=>exact data hz fun hh=>absurd rfl (hh cs)
 | v x=>exact data hz fun _=>by obtain ⟨rfl,hp⟩:=hv.v_inv; exact uu hp
 | emp =>
  refine data hz fun _=>?_
  cases hv with
  | dat hd=>exact hd.one rfl
 | sl k rows =>
  refine data hz fun _=>?_
  cases hv with
  | dat hd=>exact hd.one rfl
 | _=>simp [bM,mE,du,ak] at hz
theorem wL {h0:aa}:∀ (l:List AV) (ms:List Nat) (vals:List Value) {h h':aa} {zs:List AV} {ks:K},Rel w X ρ h→Way w X ρ h0 h→vals.length=l.length →
  (∀ (i:Nat) (c:AV) (u:Value),l[i]?=some c→vals[i]?=some u→RV w (ao w X h0 ρ) ρ h0 c u)→ah h ms l=some (zs,h',ks) →
  Rel w X ρ h'∧Evo w ρ h w ρ h' ks∧(∀ p ∈ ks,p.2=true)∧zs.length=l.length∧∀ (i:Nat) (z:AV) (u:Value),zs[i]?=some z→vals[i]?=some u→∃ h1,Way w X ρ h1 h'∧RV w (ao w X h1 ρ) ρ h1 z u
 | [],ms,vals,h,h',zs,ks,r,wy,hl,hv,hz=>by
  simp only [ah,Option.some.injEq,Prod.mk.injEq] at hz
  obtain ⟨rfl,rfl,rfl⟩:=hz
  exact ⟨r,.refl _ _ _,by simp,rfl,fun i z u h1=>by simp at h1⟩
 | a::l,ms,vals,h,h',zs,ks,r,wy,hl,hv,hz=>by
  simp only [ah,Option.bind_eq_some_iff] at hz
  obtain ⟨⟨z,h1,k1⟩,e1,⟨q,h2,k2⟩,e2,e3⟩:=hz
  cases e3
  cases vals with
  | nil=>simp at hl
  | cons u vals =>
   obtain ⟨g1,g2,g3,h3,g4,g5⟩:=H6 r wy (hv 0 a u rfl rfl) e1
   obtain ⟨f1,f2,f3,f4,f5⟩:=wL l ms.tail vals g1 (wy.trans ⟨k1,g2,g3⟩) (by simpa using hl) (fun i c u' h4 h5=>hv (i+1) c u' (by simpa using h4) (by simpa using h5)) e2
   refine ⟨f1,g2.trans f2,fun p hp=>?_,by simp [f4],fun i z' u' h4 h5=>?_⟩
   ·rcases List.mem_append.1 hp with hp | hp
    ·exact g3 p hp
    ·exact f3 p hp
   ·cases i with
    | zero =>
     simp at h4 h5
     subst h4 h5
     exact ⟨h3,g4.trans ⟨k2,f2,f3⟩,g5⟩
    | succ i=>exact f5 i z' u' (by simpa using h4) (by simpa using h5)
theorem Lt {L:List Nat} {h1:aa} {z:AV} {u:Value} (wy:Way w X ρ h1 h) (hv:RV w (ao w X h1 ρ) ρ h1 z u) (hc:aJ L z=true):RV w (ao w X h ρ) ρ h z u:=by
 obtain ⟨ks,e,f⟩:=wy.evo
 exact hv.clo (fun b hb=>e.al hb) (fun id hp=>e.keep id none hp (Ls f id)) hc
theorem wM (r:Rel w X ρ h) {b:Nat} (ho:kl h ρ b):b < w.heap.size:=by
 obtain ⟨id,sub,hl,rfl⟩:=ho
 cases sub with
 | none =>
  have ho:=r.ob id
  cases e:h id with
  | bx cs=>rw [e] at ho; obtain ⟨us,t,g1,_⟩:=ho; exact (Array.getElem?_eq_some_iff.1 g1).1
  | ar k rows=>rw [e] at ho; obtain ⟨us,t,g1,_⟩:=ho; exact (Array.getElem?_eq_some_iff.1 g1).1
  | _=>simp [live,e] at hl
 | some p =>
  obtain ⟨cs,k,rows,e,ec⟩:=hl
  have ho:=r.ob id
  rw [e] at ho
  obtain ⟨us,t,g1,g2,g3,g4⟩:=ho
  obtain ⟨u,_,a',cap,us',t',_,_,_,q4,_⟩:=g4 p _ ec
  exact (Array.getElem?_eq_some_iff.1 q4).1
section
variable {ids:List Nat}
theorem pl {a:Nat} (ha:a ∈ ids):1000≤aV ids a∧aV ids a < 1000+ids.length:=by
 unfold aV
 have:=List.idxOf_lt_length_of_mem ha
 omega
theorem nJ (hl:ids.length≤1000) {a:Nat} (ha:a ∈ ids):bN ids (aV ids a)=a:=by
 have:=pl ha
 unfold bN
 rw [if_pos (by omega)]
 unfold aV
 have hlt:=List.idxOf_lt_length_of_mem ha
 rw [List.getD_eq_getElem?_getD,show 1000+ids.idxOf a - 1000=ids.idxOf a from by omega,List.getElem?_eq_getElem hlt]
 simp
theorem rt (hl:ids.length≤1000) (hnd:ids.Nodup) {i:Nat} (h1:1000≤i) (h2:i < 1000+ids.length):bN ids i ∈ ids∧aV ids (bN ids i)=i:=by
 have hj:i - 1000 < ids.length:=by omega
 have e:bN ids i=ids[i - 1000]:=by
  unfold bN
  rw [if_pos (by omega),List.getD_eq_getElem?_getD,List.getElem?_eq_getElem hj]
  rfl
 refine ⟨by rw [e]; simp,?_⟩
 rw [e]
 unfold aV
 rw [hnd.idxOf_getElem (i - 1000) hj]
 omega
theorem AN {os:List Ob} {j:Nat} {o:Ob} (h:os[j]?=some o):ae os (1000+j)=o:=by
 unfold ae
 rw [if_pos (by omega),show 1000+j - 1000=j from by omega,h]
 rfl
theorem oj {os:List Ob} {i:Nat} (h:i < 1000∨1000+os.length≤i):ae os i=.dead:=by
 unfold ae
 split
 ·rw [List.getElem?_eq_none (by omega)]
  rfl
 ·rfl
theorem Emb.enter (hl:ids.length≤1000) (hnd:ids.Nodup) (hcl:∀ a ∈ ids,aA ids (h a)=true):Emb ids (aV ids) (bN ids) h (ae (ids.map fun a=>cC (aV ids) (h a))):=by
 have at_:∀ a ∈ ids,ae (ids.map fun a=>cC (aV ids) (h a)) (aV ids a)=cC (aV ids) (h a):=fun a ha=>by
  unfold aV
  refine AN ?_
  have hlt:=List.idxOf_lt_length_of_mem ha
  rw [List.getElem?_map,List.getElem?_eq_getElem hlt]
  simp
 have low:∀ i,ae (ids.map fun a=>cC (aV ids) (h a)) i ≠ .dead→1000≤i∧i < 1000+ids.length:=fun i hi=>by
  by_cases h1:1000≤i∧i < 1000+ids.length
  ·exact h1
  ·exact absurd (oj (by simp; omega)) hi
 refine ⟨fun a ha=>?_,fun i hi=>?_,fun i j hi hj e=>?_⟩
 ·have ha':a ∈ ids:=by simpa using ha
  exact ⟨nJ hl ha',at_ a ha'⟩
 ·obtain ⟨h1,h2⟩:=low i hi
  obtain ⟨h3,h4⟩:=rt hl hnd h1 h2
  have:=at_ _ h3
  rw [h4] at this
  exact ⟨this,hcl _ h3⟩
 ·obtain ⟨h1,h2⟩:=low i hi
  obtain ⟨h3,h4⟩:=low j hj
  rw [← (rt hl hnd h1 h2).2,← (rt hl hnd h3 h4).2,e]
end
end
theorem Da {gv:K} {id:Nat}:∀ {h:aa},(∀ p ∈ gv,p.1 ≠ id)→dC h gv id=h id:=by
 induction gv with
 | nil=>intro h _; rfl
 | cons p l ih =>
  intro h hn
  simp only [dC]
  rw [ih fun q hq=>hn q (by simp [hq])]
  exact ap _ _ (Ne.symm (hn p (by simp)))
theorem FQ {gv:K} {id:Nat}:∀ {h:aa},((∃ p ∈ gv,p.1=id)∨h id=.dead)→dC h gv id=.dead:=by
 induction gv with
 | nil =>
  intro h hi
  rcases hi with ⟨p,hp,_⟩ | hi
  ·simp at hp
  ·exact hi
 | cons p l ih =>
  intro h hi
  simp only [dC]
  by_cases hl:∃ q ∈ l,q.1=id
  ·exact ih (.inl hl)
  ·refine ih (.inr ?_)
   rcases hi with ⟨q,hq,rfl⟩ | hi
   ·rcases List.mem_cons.1 hq with rfl | hq
    ·exact ag _ _ _
    ·exact absurd ⟨q,hq,rfl⟩ hl
   ·unfold upd
    split
    ·rfl
    ·exact hi
theorem FR {ids:List Nat}:∀ {l:List Nat} {os:List Ob} {g:aa} {j a:Nat} {o:Ob},l.Nodup→l[j]?=some a→os[j]?=some o→cz g ids l os a=cC (bN ids) o
 | [],os,g,j,a,o,_,h1,_=>by simp at h1
 | b::l,[],g,j,a,o,_,_,h2=>by simp at h2
 | b::l,o'::os,g,j,a,o,hnd,h1,h2=>by
  obtain ⟨n1,n2⟩:=List.nodup_cons.1 hnd
  simp only [cz]
  cases j with
  | zero =>
   simp at h1 h2
   subst h1 h2
   rw [nH n1,ag]
  | succ j=>exact FR n2 (by simpa using h1) (by simpa using h2)
theorem AO {h:aa}:∀ {m n:Nat},cx h n m=true→∀ i,n≤i→i < n+m→h i=.dead
 | 0,n,_,i,h1,h2=>by omega
 | m+1,n,hf,i,h1,h2=>by
  simp only [cx,Bool.and_eq_true] at hf
  by_cases e:i=n
  ·subst e
   cases q:h i <;> rw [q] at hf <;> simp [cD] at hf ⊢
  ·exact AO hf.2 i (by omega) (by omega)
theorem ru {h:aa} {gv:K}:∀ {l:List Nat} {os:List Ob},cU h gv l os=true→∀ (j a:Nat) (o:Ob),l[j]?=some a→os[j]?=some o→(bf (h a)=true→bf o=true)∧((∀ p ∈ gv,p.1 ≠ a)→o ≠ .dead)
 | [],os,_,j,a,o,h1,_=>by simp at h1
 | b::l,[],_,j,a,o,_,h2=>by simp at h2
 | b::l,o'::os,hs,j,a,o,h1,h2=>by
  simp only [cU,Bool.and_eq_true,Bool.or_eq_true,Bool.not_eq_true'] at hs
  obtain ⟨⟨s1,s2⟩,s3⟩:=hs
  cases j with
  | zero =>
   simp at h1 h2
   subst h1 h2
   refine ⟨fun hb=>?_,fun hn e=>?_⟩
   ·rcases s1 with s1 | s1
    ·rw [hb] at s1; cases s1
    ·exact s1
   ·rcases s2 with s2 | s2
    ·simp only [List.any_eq_true,beq_iff_eq] at s2
     obtain ⟨p,hp,e2⟩:=s2
     exact hn p hp e2
    ·subst e; simp [cD] at s2
  | succ j=>exact ru s3 j a o (by simpa using h1) (by simpa using h2)
theorem oo {l l':List Nat} {c:AV} (hl:∀ i,l.contains i=true→l'.contains i=true) (hc:aO l c=true):aO l' c=true:=by
 cases c <;> simp only [aO] at hc ⊢ <;> first | exact hc | skip
 all_goals
  simp only [Bool.and_eq_true] at hc ⊢
  exact ⟨hl _ hc.1,hc.2⟩
theorem wN {l l':List Nat} {c:AV} (hl:∀ i,l.contains i=true→l'.contains i=true) (hc:aJ l c=true):aJ l' c=true:=by
 cases c with
 | agg cs =>
  simp only [aJ,List.all_eq_true] at hc ⊢
  exact fun c h=>oo hl (hc c h)
 | fn f x y =>
  simp only [aJ,Bool.and_eq_true,List.all_eq_true] at hc ⊢
  exact ⟨fun c h=>oo hl (hc.1 c h),fun c h=>oo hl (hc.2 c h)⟩
 | _ =>
  simp only [aJ] at hc ⊢
  exact oo hl hc
theorem FS {l l':List Nat} {o:Ob} (hl:∀ i,l.contains i=true→l'.contains i=true) (hc:aA l o=true):aA l' o=true:=by
 cases o <;> simp only [aA] at hc ⊢
 simp only [List.all_eq_true,eH,Bool.or_eq_true] at hc ⊢
 exact fun c h=>(hc c h).imp id (wN hl)
theorem FT {f:Nat→Nat} {c:AV} (hd:gH c=true):cQ f c=c:=by
 cases c <;> simp [gH,aN,ak] at hd <;> first | rfl | skip
 obtain ⟨rfl,rfl⟩:=hd
 rfl
theorem FU {l:List Nat} {n:Nat} {g:aa} {c:AV} (hr:cZ l c=true) {i:Nat} (h:(bU n g c).2 i ≠ g i):(∃ k rows,(bU n g c).2 i=.ar k rows)∨∃ cs,(bU n g c).2 i=.bx cs∧cs.all gH=true:=by
 cases c <;> simp only [bU] at h ⊢ <;> first | exact absurd rfl h | skip
 case osl k rows =>
  unfold upd at h ⊢
  split
  ·exact .inl ⟨_,_,rfl⟩
  ·rename_i hn; rw [if_neg hn] at h; exact absurd rfl h
 case obx cs =>
  unfold upd at h ⊢
  split
  ·exact .inr ⟨_,rfl,hr⟩
  ·rename_i hn; rw [if_neg hn] at h; exact absurd rfl h
theorem FV {l:List Nat} {i:Nat}:∀ {vs:List AV} {n:Nat} {g:aa},vs.all (cZ l)=true→(bp n g vs).2 i ≠ g i→(∃ k rows,(bp n g vs).2 i=.ar k rows)∨∃ cs,(bp n g vs).2 i=.bx cs∧cs.all gH=true
 | [],n,g,_,h=>absurd rfl h
 | c::vs,n,g,hr,h=>by
  simp only [List.all_cons,Bool.and_eq_true] at hr
  simp only [bp] at h ⊢
  by_cases e:(bp (n+1) (bU n g c).2 vs).2 i=(bU n g c).2 i
  ·rw [e] at h ⊢
   exact FU hr.1 h
  ·exact FV hr.2 e
theorem PD {l:List Nat} {n:Nat} {g:aa} {c:AV} (hr:ey l c=true) {i:Nat} (h:(mat n g c).2 i ≠ g i):(∃ k rows,(mat n g c).2 i=.ar k rows)∨∃ cs,(mat n g c).2 i=.bx cs∧cs.all gH=true:=by
 cases c <;> simp only [mat] at h ⊢ <;> simp only [ey] at hr <;> first | exact FV hr h | exact FU hr h
theorem yB {l l':List Nat} {n:Nat} {g:aa} {c:AV} (hr:cZ l c=true) (hl:∀ i,l.contains i=true→l'.contains i=true) (hn:l'.contains n=true):aJ l' (bU n g c).1=true:=by
 cases c <;> simp only [bU] <;> simp only [cZ] at hr <;> first | exact wN hl hr | (simp only [aJ,aO,hn]; rfl)
theorem yC {l l':List Nat} (hl:∀ i,l.contains i=true→l'.contains i=true):∀ {vs:List AV} {n:Nat} {g:aa},vs.all (cZ l)=true→(∀ i,n≤i→i < n+vs.length→l'.contains i=true)→∀ z ∈ (bp n g vs).1,aJ l' z=true
 | [],n,g,_,_,z,hz=>by simp [bp] at hz
 | c::vs,n,g,hr,hn,z,hz=>by
  simp only [List.all_cons,Bool.and_eq_true] at hr
  simp only [bp,List.mem_cons] at hz
  rcases hz with rfl | hz
  ·exact yB hr.1 hl (hn n (Nat.le_refl _) (by simp))
  ·exact yC hl hr.2 (fun i h1 h2=>hn i (by omega) (by simp at h2 ⊢; omega)) z hz
def Ka (l:List Nat):AV→Prop
 | .tup vs=>∀ c ∈ vs,aJ l c=true
 | c=>aJ l c=true
theorem Kb {l l':List Nat} {n:Nat} {g:aa} {c:AV} (hr:cZ l c=true) (hl:∀ i,l.contains i=true→l'.contains i=true) (hn:l'.contains n=true):Ka l' (bU n g c).1:=by
 have:=yB (n:=n) (g:=g) hr hl hn
 cases hq:(bU n g c).1 <;> rw [hq] at this <;> first | exact this | simp [aJ,aO] at this
theorem Lu {l l':List Nat} {n:Nat} {g:aa} {c:AV} (hr:ey l c=true) (hl:∀ i,l.contains i=true→l'.contains i=true) (hn:∀ i,n≤i→i < n+cf c→l'.contains i=true):Ka l' (mat n g c).1:=by
 cases c with
 | tup vs =>
  simp only [mat]
  simp only [ey] at hr
  exact yC hl hr hn
 | _=>exact Kb hr hl (hn n (Nat.le_refl _) (by simp [cf]))
section
variable {w:World} {X:Nat→Prop} {ρ:aT} {hc:aa} {ids:List Nat}
def yD (X:Nat→Prop) (hc:aa) (ρ:aT) (ids:List Nat) (b:Nat):Prop :=
 X b∨(kl hc ρ b∧¬ kl (ae (ids.map fun a=>cC (aV ids) (hc a))) (fun i s=>ρ (bN ids i) s) b)
theorem Lv (r:Rel w X ρ hc) (hl:ids.length≤1000) (hnd:ids.Nodup) (hcl:∀ a ∈ ids,aA ids (hc a)=true) :
  Rel w (yD X hc ρ ids) (fun i s=>ρ (bN ids i) s) (ae (ids.map fun a=>cC (aV ids) (hc a))) ∧
  (∀ b,ao w X hc ρ b→ao w (yD X hc ρ ids) (ae (ids.map fun a=>cC (aV ids) (hc a))) (fun i s=>ρ (bN ids i) s) b):=by
 have em:=Emb.enter (h:=hc) hl hnd hcl
 have hA:∀ b,ao w X hc ρ b→ao w (yD X hc ρ ids) (ae (ids.map fun a=>cC (aV ids) (hc a))) (fun i s=>ρ (bN ids i) s) b:=fun b hb =>
  ⟨hb.1,fun hx=>by rcases hx with hx | ⟨hx,_⟩; exact hb.2.1 hx; exact hb.2.2 hx,fun ⟨i,s,h1,h2⟩=>hb.2.2 ⟨_,s,(em.live h1).1,h2⟩⟩
 exact ⟨Rel.emb em r (fun b hb=>by rcases hb with hb | ⟨hb,_⟩; exact r.xl b hb; exact wM r hb) (fun i s hl hx=>by
  rcases hx with hx | ⟨_,hx⟩
  ·exact r.nx _ _ (em.live hl).1 hx
  ·exact hx ⟨i,s,hl,rfl⟩) hA,hA⟩
theorem wO (hl:ids.length≤1000) (hnd:ids.Nodup) (hcl:∀ a ∈ ids,aA ids (hc a)=true) {b:Nat} (ho:kl (ae (ids.map fun a=>cC (aV ids) (hc a))) (fun i s=>ρ (bN ids i) s) b) :
  ∃ id sub,id ∈ ids∧live hc id sub∧(ρ id sub).1=b:=by
 obtain ⟨i,s,h1,h2⟩:=ho
 obtain ⟨h3,h4⟩:=(Emb.enter (h:=hc) hl hnd hcl).live h1
 have hi:1000≤i∧i < 1000+ids.length:=by
  by_cases hh:1000≤i∧i < 1000+ids.length
  ·exact hh
  ·exact absurd (oj (by simp; omega)) h4
 exact ⟨_,s,(rt hl hnd hi.1 hi.2).1,h3,h2⟩
theorem Kc {w':World} {ρ':aT} {kp:Bool} {d:Nat} {gv ks0 ks:K} {res:AV} {os:List Ob} {z:AV} {h':aa} {v:Value} (r:Rel w X ρ hc) (hnd:ids.Nodup) (hcl:∀ a ∈ ids,aA ids (hc a)=true) (hdead:∀ a ∈ ids,hc a ≠ .dead) (gvflag:∀ p ∈ gv,p.2=false)
  (hz:dZ kp hc d ids ks0 gv (res,os)=some (z,h',ks)) (r':Rel w' (yD X hc ρ ids) ρ' (mat (2000+8*d) (ae os) res).2)
  (far:Far kp w (fun i s=>ρ (bN ids i) s) (ae (ids.map fun a=>cC (aV ids) (hc a))) w' ρ' (mat (2000+8*d) (ae os) res).2)
  (hv:RV w' (ao w' (yD X hc ρ ids) (mat (2000+8*d) (ae os) res).2 ρ') ρ' (mat (2000+8*d) (ae os) res).2 (mat (2000+8*d) (ae os) res).1 v) :
  ∃ ρ3 k1,ks=ks0++k1∧Rel w' X ρ3 h'∧Evo w ρ hc w' ρ3 h' k1∧RV w' (ao w' X h' ρ3) ρ3 h' z v:=by
 unfold dZ at hz
 split at hz
 ·rename_i hcond
  obtain ⟨c1,hl,c2,c3,c4,c5⟩:=hcond
  simp only at c1 c2 c4
  simp only [Option.some.injEq,Prod.mk.injEq] at hz
  obtain ⟨rfl,rfl,rfl⟩:=hz
  simp only [mP,Bool.and_eq_true] at c5
  obtain ⟨c5,c6,c7⟩:=c5
  generalize hn:2000+8*d=n at *
  have n2:2000≤n:=by omega
  have em:=Emb.enter (h:=hc) hl hnd hcl
  have gdead:∀ i,n≤i→i < n+cf res→hc i=.dead:=AO c3
  have gids:∀ i,n≤i→i < n+cf res→i ∉ ids:=fun i h1 h2 hi=>hdead i hi (gdead i h1 h2)
  have oget:∀ a ∈ ids,os[ids.idxOf a]?=some (ae os (aV ids a)):=fun a ha=>by
   have h1:=List.idxOf_lt_length_of_mem ha
   have h2:ids.idxOf a < os.length:=by omega
   unfold aV
   rw [List.getElem?_eq_getElem h2]
   exact congrArg some (AN (by rw [List.getElem?_eq_getElem h2])).symm
  have hm_ids:∀ a ∈ ids,(mat n (ae os) res).2 (aV ids a)=ae os (aV ids a):=fun a ha=>pk (by have:=pl ha; omega)
  have hm_out:∀ i,¬ (1000≤i∧i < 1000+ids.length)→¬ (n≤i∧i < n+cf res)→(mat n (ae os) res).2 i=.dead:=fun i h1 h2=>by
   rw [pk (by omega)]
   exact oj (by omega)
  have w_ids:∀ a ∈ ids,cz hc ids ids os a=cC (bN ids) (ae os (aV ids a)):=fun a ha=>FR hnd (by
   have h1:=List.idxOf_lt_length_of_mem ha
   rw [List.getElem?_eq_getElem h1]; simp) (oget a ha)
  have h_grp:∀ i,n≤i→i < n+cf res→(mat n (dC (cz hc ids ids os) gv) res).2 i=(mat n (ae os) res).2 i:=fun i h1 h2=>Ln (by
   rw [FQ (.inr (by rw [nH (gids i h1 h2)]; exact gdead i h1 h2))]
   exact (oj (by omega)).symm)
  have h_ids:∀ a ∈ ids,(∀ p ∈ gv,p.1 ≠ a)→(mat n (dC (cz hc ids ids os) gv) res).2 a=cC (bN ids) ((mat n (ae os) res).2 (aV ids a)):=fun a ha hg=>by
   rw [pk (fun hh=>gids a hh.1 hh.2 ha),Da hg,w_ids a ha,hm_ids a ha]
  have h_gv:∀ a,¬ (n≤a∧a < n+cf res)→(∃ p ∈ gv,p.1=a)→(mat n (dC (cz hc ids ids os) gv) res).2 a=.dead:=fun a h1 hg=>by
   rw [pk (by omega),FQ (.inl hg)]
  have h_out:∀ a,a ∉ ids→¬ (n≤a∧a < n+cf res)→(∀ p ∈ gv,p.1 ≠ a)→(mat n (dC (cz hc ids ids os) gv) res).2 a=hc a:=fun a h1 h2 hg=>by
   rw [pk (by omega),Da hg,nH h1]
  generalize hh':(mat n (dC (cz hc ids ids os) gv) res).2=h' at *
  have hzr':(mat n (ae os) res).1=(mat n (dC (cz hc ids ids os) gv) res).1:=Iw _ _ _ _
  generalize (mat n (dC (cz hc ids ids os) gv) res).1=zr at *
  have grp_obj:∀ i,n≤i→i < n+cf res→(mat n (ae os) res).2 i ≠ .dead→(∃ k rows,(mat n (ae os) res).2 i=.ar k rows)∨∃ cs,(mat n (ae os) res).2 i=.bx cs∧cs.all gH=true:=fun i h1 h2 hd =>
   PD c6 (by rw [oj (show i < 1000∨1000+os.length≤i from by omega)]; exact hd)
  rw [hzr'] at hv
  have zcl:∀ {l':List Nat},(∀ i,(rh ids gv).contains i=true→l'.contains i=true)→(∀ i,n≤i→i < n+cf res→l'.contains i=true)→Ka l' zr:=fun {l'} hl1 hl2=>hzr' ▸ Lu c6 hl1 hl2
  generalize hhm:(mat n (ae os) res).2=hm at *
  have ok_spec:∀ i,(rh ids gv).contains i=true→1000≤i∧i < 1000+ids.length∧∀ p ∈ gv,p.1 ≠ bN ids i:=fun i hi=>by
   unfold rh at hi
   split at hi
   ·have:=gK.1 hi
    exact ⟨this.1,this.2,by simp⟩
   ·simp only [List.contains_eq_mem,List.mem_filter,decide_eq_true_eq,Bool.not_eq_true',List.any_eq_false,beq_iff_eq] at hi
    have:=gK.1 (show (bS ids.length).contains i=true from by simpa using hi.1)
    exact ⟨this.1,this.2,fun p hp=>hi.2 p hp⟩
  have ok_mk:∀ a ∈ ids,(∀ p ∈ gv,p.1 ≠ a)→(rh ids gv).contains (aV ids a)=true:=fun a ha hg=>by
   have h1:=pl ha
   unfold rh
   split
   ·exact gK.2 h1
   ·simp only [List.contains_eq_mem,List.mem_filter,decide_eq_true_eq,Bool.not_eq_true',List.any_eq_false,beq_iff_eq]
    exact ⟨by simpa using gK.2 h1,fun p hp=>by rw [nJ hl ha]; exact hg p hp⟩
  let L3:List Nat:=rh ids gv++List.range' n (cf res)
  have l3a:∀ i,(rh ids gv).contains i=true→L3.contains i=true:=fun i hi=>by
   simp only [L3,List.contains_eq_mem,List.mem_append,decide_eq_true_eq] at hi ⊢; exact .inl hi
  have l3b:∀ i,n≤i→i < n+cf res→L3.contains i=true:=fun i h1 h2=>by
   simp only [L3,List.contains_eq_mem,List.mem_append,decide_eq_true_eq,List.mem_range'_1]; exact .inr ⟨h1,h2⟩
  let Cal:Nat→Prop:=fun i=>(i ∈ ids∧∀ p ∈ gv,p.1 ≠ i)∨(n≤i∧i < n+cf res)
  let nm:Nat→Nat:=fun i=>if i ∈ ids then aV ids i else i
  let h3:aa:=fun i=>open Classical in if Cal i then h' i else .dead
  have h3c:∀ i,Cal i→h3 i=h' i:=fun i hi=>by simp only [h3,if_pos hi]
  have h3n:∀ i,h3 i ≠ .dead→Cal i:=fun i hi=>by
   by_cases hC:Cal i
   ·exact hC
   ·simp only [h3,if_neg hC] at hi; exact absurd rfl hi
  have nmi:∀ i ∈ ids,nm i=aV ids i:=fun i hi=>by simp only [nm,if_pos hi]
  have nmg:∀ i,n≤i→i < n+cf res→nm i=i:=fun i h1 h2=>by simp only [nm,if_neg (gids i h1 h2)]
  have em3:Emb L3 (bN ids) nm hm h3:=by
   refine ⟨fun i hi=>?_,fun i hi=>?_,fun i j hi hj e=>?_⟩
   ·simp only [L3,List.contains_eq_mem,List.mem_append,decide_eq_true_eq,List.mem_range'_1] at hi
    rcases hi with hi | hi
    ·obtain ⟨q1,q2,q3⟩:=ok_spec i (by simpa using hi)
     obtain ⟨q4,q5⟩:=rt hl hnd q1 q2
     refine ⟨by rw [nmi _ q4,q5],?_⟩
     rw [h3c _ (.inl ⟨q4,q3⟩),h_ids _ q4 q3,q5]
    ·have e1:bN ids i=i:=by unfold bN; rw [if_neg (by omega)]
     rw [e1]
     refine ⟨nmg i hi.1 hi.2,?_⟩
     rw [h3c _ (.inr hi),h_grp i hi.1 hi.2]
     by_cases hd:hm i=.dead
     ·rw [hd]; rfl
     ·rcases grp_obj i hi.1 hi.2 hd with ⟨k,rows,e2⟩ | ⟨cs,e2,e3⟩
      ·rw [e2]; rfl
      ·rw [e2]
       simp only [cC,Ob.bx.injEq]
       exact ((List.map_congr_left (g:=fun c=>c) fun c hc=>FT (List.all_eq_true.1 e3 c hc)).trans (List.map_id' cs)).symm
   ·rcases h3n i hi with ⟨q1,q2⟩ | ⟨q1,q2⟩
    ·rw [h3c _ (.inl ⟨q1,q2⟩),nmi i q1]
     refine ⟨h_ids i q1 q2,?_⟩
     rw [hm_ids i q1]
     exact FS l3a (List.all_eq_true.1 c7 _ (List.mem_of_getElem? (oget i q1)))
    ·rw [nmg i q1 q2]
     have hd:hm i ≠ .dead:=by rw [h3c _ (.inr ⟨q1,q2⟩),h_grp i q1 q2] at hi; exact hi
     rw [h3c _ (.inr ⟨q1,q2⟩),h_grp i q1 q2]
     rcases grp_obj i q1 q2 hd with ⟨k,rows,e2⟩ | ⟨cs,e2,e3⟩
     ·rw [e2]; exact ⟨rfl,rfl⟩
     ·rw [e2]
      refine ⟨?_,?_⟩
      ·simp only [cC,Ob.bx.injEq]
       exact ((List.map_congr_left (g:=fun c=>c) fun c hc=>FT (List.all_eq_true.1 e3 c hc)).trans (List.map_id' cs)).symm
      ·simp only [aA,List.all_eq_true]
       exact fun c hc=>yz (List.all_eq_true.1 e3 c hc)
   ·rcases h3n i hi with ⟨q1,q2⟩ | ⟨q1,q2⟩ <;> rcases h3n j hj with ⟨q3,q4⟩ | ⟨q3,q4⟩
    ·rw [nmi i q1,nmi j q3] at e
     rw [← nJ hl q1,← nJ hl q3,e]
    ·rw [nmi i q1,nmg j q3 q4] at e
     have:=pl q1
     omega
    ·rw [nmg i q1 q2,nmi j q3] at e
     have:=pl q3
     omega
    ·rwa [nmg i q1 q2,nmg j q3 q4] at e
  have own3:∀ {b},kl h3 (fun i s=>ρ' (nm i) s) b→kl hm ρ' b:=fun ⟨i,s,h1,h2⟩=>⟨nm i,s,(em3.live h1).1,h2⟩
  have r3:Rel w' (yD X hc ρ ids) (fun i s=>ρ' (nm i) s) h3:=Rel.emb em3 r' r'.xl (fun i s hl=>r'.nx _ _ (em3.live hl).1) fun b hb=>⟨hb.1,hb.2.1,fun ho=>hb.2.2 (own3 ho)⟩
  let ρ3:aT:=fun i s=>open Classical in if Cal i then ρ' (nm i) s else ρ i s
  have r3c:∀ i,Cal i→∀ s,ρ3 i s=ρ' (nm i) s:=fun i hi s=>by simp only [ρ3,if_pos hi]
  have r3n:∀ i,¬ Cal i→∀ s,ρ3 i s=ρ i s:=fun i hi s=>by simp only [ρ3,if_neg hi]
  have rest:∀ i,¬ Cal i→h' i ≠ .dead→i ∉ ids∧h' i=hc i:=fun i hi hd=>by
   have h1:¬ (n≤i∧i < n+cf res):=fun hh=>hi (.inr hh)
   have h2:∀ p ∈ gv,p.1 ≠ i:=fun p hp e=>hd (h_gv i h1 ⟨p,hp,e⟩)
   have h4:i ∉ ids:=fun hh=>hi (.inl ⟨hh,h2⟩)
   exact ⟨h4,h_out i h4 h1 h2⟩
  have xin:∀ {i s},i ∉ ids→live hc i s→¬ kl (ae (ids.map fun a=>cC (aV ids) (hc a))) (fun i s=>ρ (bN ids i) s) (ρ i s).1:=fun {i s} hi hl' ho=>by
   obtain ⟨id,sub,q1,q2,q3⟩:=wO hl hnd hcl ho
   obtain ⟨e,_⟩:=r.inj _ _ _ _ q2 hl' q3
   exact hi (e ▸ q1)
  have lcal:∀ {i s},live h' i s→Cal i→live h3 i s:=fun {i s} hl' hC=>(bw (h3c i hC)).2 hl'
  have lrest:∀ {i s},live h' i s→¬ Cal i→i ∉ ids∧live hc i s:=fun {i s} hl' hC=>by
   have hd:h' i ≠ .dead:=by
    cases s with
    | none=>intro e; simp [live,e] at hl'
    | some p=>obtain ⟨_,_,_,e,_⟩:=hl'; rw [e]; simp
   obtain ⟨h1,h2⟩:=rest i hC hd
   exact ⟨h1,(bw h2).1 hl'⟩
  have fr3:∀ {b},kl hm ρ' b→kl (ae (ids.map fun a=>cC (aV ids) (hc a))) (fun i s=>ρ (bN ids i) s) b∨w.heap.size≤b:=fun ho=>far.fresh _ ho
  have parts:∀ {i s j t},live h3 i s→j ∉ ids→live hc j t→(ρ' (nm i) s).1 ≠ (ρ j t).1:=fun {i s j t} h1 h2 h4 e=>by
   rcases fr3 ⟨nm i,s,(em3.live h1).1,e⟩ with ho | ho
   ·exact xin h2 h4 ho
   ·have:=wM r ⟨j,t,h4,rfl⟩
    omega
  have ownc:∀ {b},kl h' ρ3 b→kl h3 (fun i s=>ρ' (nm i) s) b∨∃ id sub,id ∉ ids∧live hc id sub∧(ρ id sub).1=b:=fun {b} ⟨i,s,h1,h2⟩=>by
   by_cases hC:Cal i
   ·exact .inl ⟨i,s,lcal h1 hC,by rw [← h2,r3c i hC]⟩
   ·obtain ⟨h4,h5⟩:=lrest h1 hC
    exact .inr ⟨i,s,h4,h5,by rw [← h2,r3n i hC]⟩
  have hA3:∀ b,ao w' (yD X hc ρ ids) h3 (fun i s=>ρ' (nm i) s) b→ao w' X h' ρ3 b:=fun b hb=>⟨hb.1,fun hx=>hb.2.1 (.inl hx),fun ho=>by
   rcases ownc ho with ho | ⟨i,s,h1,h2,rfl⟩
   ·exact hb.2.2 ho
   ·exact hb.2.1 (.inr ⟨⟨i,s,h2,rfl⟩,xin h1 h2⟩)⟩
  have noE:∀ {b},¬ kl hc ρ b→¬ kl (ae (ids.map fun a=>cC (aV ids) (hc a))) (fun i s=>ρ (bN ids i) s) b:=fun {b} hb ho=>by
   obtain ⟨id,sub,_,q2,q3⟩:=wO hl hnd hcl ho
   exact hb ⟨id,sub,q2,q3⟩
  have hAc:∀ b,ao w X hc ρ b→ao w' X h' ρ3 b∧w'.heap[b]?=w.heap[b]?:=fun b hb=>by
   refine ⟨⟨Nat.lt_of_lt_of_le hb.1 far.size,hb.2.1,fun ho=>?_⟩,far.old b hb.1 (noE hb.2.2)⟩
   rcases ownc ho with ho | ⟨i,s,h1,h2,rfl⟩
   ·rcases fr3 (own3 ho) with ho | ho
    ·exact noE hb.2.2 ho
    ·have:=hb.1; omega
   ·exact hb.2.2 ⟨i,s,h2,rfl⟩
  have pas:∀ a ∈ ids,aG (aV ids a)=true:=fun a ha=>by
   have:=pl ha
   simp only [aG,decide_eq_true_eq]
   omega
  have stayI:∀ a ∈ ids,(∀ p ∈ gv,p.1 ≠ a)→h' a ≠ .dead∧ρ3 a none=ρ a none∧hm (aV ids a) ≠ .dead:=fun a ha hg=>by
   have h1:=(ru c4 _ a _ (by have h1:=List.idxOf_lt_length_of_mem ha; rw [List.getElem?_eq_getElem h1]; simp) (oget a ha)).2 hg
   have h2:hm (aV ids a) ≠ .dead:=by rw [hm_ids a ha]; exact h1
   refine ⟨by rw [h_ids a ha hg,ne_eq,wD]; exact h2,?_,h2⟩
   rw [r3c a (.inl ⟨ha,hg⟩),nmi a ha,(far.stay _ (pas a ha) h2).2,nJ hl ha]
  have bfB:∀ id,bf (hc id)=true→bf (h' id)=true∧ρ3 id none=ρ id none:=fun id hb=>by
   have h1:¬ (n≤id∧id < n+cf res):=fun hh=>by rw [gdead id hh.1 hh.2] at hb; cases hb
   have h2:∀ p ∈ gv,p.1 ≠ id:=fun p hp e=>by
    have:=List.all_eq_true.1 c5 p hp
    rw [e,hb] at this
    cases this
   by_cases hi:id ∈ ids
   ·have h4:=(ru c4 _ id _ (by have h1:=List.idxOf_lt_length_of_mem hi; rw [List.getElem?_eq_getElem h1]; simp) (oget id hi)).1 hb
    exact ⟨by rw [h_ids id hi h2,It,hm_ids id hi]; exact h4,(stayI id hi h2).2.1⟩
   ·exact ⟨by rw [h_out id hi h1 h2]; exact hb,r3n id (fun hC=>by rcases hC with hC | hC; exact hi hC.1; exact h1 hC) none⟩
  have rel:Rel w' X ρ3 h':=by
   refine ⟨fun i s j t h1 h2 e=>?_,fun i s h1 hx=>?_,fun id=>?_,fun b hb=>Nat.lt_of_lt_of_le (r.xl b hb) far.size⟩
   ·by_cases hi:Cal i <;> by_cases hj:Cal j
    ·rw [r3c i hi,r3c j hj] at e
     exact r3.inj _ _ _ _ (lcal h1 hi) (lcal h2 hj) e
    ·rw [r3c i hi,r3n j hj] at e
     obtain ⟨q1,q2⟩:=lrest h2 hj
     exact absurd e (parts (lcal h1 hi) q1 q2)
    ·rw [r3n i hi,r3c j hj] at e
     obtain ⟨q1,q2⟩:=lrest h1 hi
     exact absurd e.symm (parts (lcal h2 hj) q1 q2)
    ·rw [r3n i hi,r3n j hj] at e
     exact r.inj _ _ _ _ (lrest h1 hi).2 (lrest h2 hj).2 e
   ·by_cases hi:Cal i
    ·rw [r3c i hi] at hx
     exact r3.nx _ _ (lcal h1 hi) (.inl hx)
    ·rw [r3n i hi] at hx
     exact r.nx _ _ (lrest h1 hi).2 hx
   ·by_cases hi:Cal id
    ·have:=(r3.ob id).keep (w':=w') (A':=ao w' X h' ρ3) (ρ':=ρ3) (h':=h') (fun b hb=>⟨hA3 b hb,rfl⟩) (fun i hb=>by
      have hC:=h3n i (fun e=>by rw [e] at hb; cases hb)
      rw [h3c i hC] at hb
      exact ⟨hb,r3c i hC none⟩) (fun s=>r3c id hi s) (fun _ _=>rfl)
     rwa [h3c id hi] at this
    ·by_cases hd:h' id=.dead
     ·rw [hd]; trivial
     ·obtain ⟨q1,q2⟩:=rest id hi hd
      have:=(r.ob id).keep (w':=w') (A':=ao w' X h' ρ3) (ρ':=ρ3) (h':=h') hAc bfB (fun s=>r3n id hi s) (fun s hl'=>far.old _ (wM r ⟨id,s,hl',rfl⟩) (xin q1 hl'))
      rwa [← q2] at this
  have evo:Evo w ρ hc w' ρ3 h' ((if kp then [] else ids.map (·,true))++gv):=by
   refine ⟨far.os,far.tape,far.output,far.size,fun b hb ho=>far.old b hb (noE ho),fun id sub hp hk=>?_,fun b ho=>?_,bfB,fun id hp hd=>?_⟩
   ·rw [qE,Bool.or_eq_false_iff] at hk
    have h2:∀ p ∈ gv,p.1 ≠ id:=fun p hp' e=>by
     have hk2:=hk.2
     simp only [dT,List.any_eq_false,Bool.and_eq_true,beq_iff_eq,Bool.or_eq_true,Bool.not_eq_true',not_and] at hk2
     exact hk2 p hp' e (.inl (gvflag p hp'))
    have hnd':hc id ≠ .dead:=by
     cases sub with
     | none=>exact hp
     | some p=>obtain ⟨_,_,_,e,_⟩:=hp; rw [e]; simp
    have h1:¬ (n≤id∧id < n+cf res):=fun hh=>hnd' (gdead id hh.1 hh.2)
    by_cases hi:id ∈ ids
    ·cases sub with
     | none=>exact ⟨(stayI id hi h2).1,(stayI id hi h2).2.1⟩
     | some p =>
      cases kp with
      | false =>
       have hk1:=hk.1
       simp only [Bool.false_eq_true,if_false,dT,List.any_map,List.any_eq_false,Function.comp,Bool.and_eq_true,beq_iff_eq] at hk1
       exact absurd ⟨rfl,rfl⟩ (hk1 id hi)
      | true =>
       have hpe:bg (ae (ids.map fun a=>cC (aV ids) (hc a))) (aV ids id) (some p):=by
        obtain ⟨cs,k,rows,e1,e2⟩:=hp
        have:=(em.back id (by simpa using hi)).2
        rw [e1] at this
        refine ⟨cs.map (cQ (aV ids)),k,rows,this,?_⟩
        rw [List.getElem?_map,e2]
        rfl
       obtain ⟨q1,q2⟩:=far.keep rfl (aV ids id) p (pas id hi) (stayI id hi h2).2.2 hpe
       refine ⟨?_,?_⟩
       ·obtain ⟨cs,k,rows,e1,e2⟩:=q1
        refine ⟨cs.map (cQ (bN ids)),k,rows,?_,?_⟩
        ·rw [h_ids id hi h2,e1]; rfl
        ·rw [List.getElem?_map,e2]; rfl
       ·rw [r3c id (.inl ⟨hi,h2⟩),nmi id hi,q2,nJ hl hi]
    ·have hC:¬ Cal id:=fun hC=>by rcases hC with hC | hC; exact hi hC.1; exact h1 hC
     exact ⟨(cA (h_out id hi h1 h2)).2 hp,r3n id hC sub⟩
   ·rcases ownc ho with ho | ⟨i,s,h1,h2,rfl⟩
    ·rcases fr3 (own3 ho) with ho | ho
     ·obtain ⟨id,sub,_,q2,q3⟩:=wO hl hnd hcl ho
      exact .inl ⟨id,sub,q2,q3⟩
     ·exact .inr ho
    ·exact .inl ⟨i,s,h2,rfl⟩
   ·simp only [aG,decide_eq_true_eq] at hp
    by_cases hi:id ∈ ids
    ·refine ⟨hdead id hi,?_⟩
     by_cases hg:∀ p ∈ gv,p.1 ≠ id
     ·exact (stayI id hi hg).2.1
     ·exfalso
      refine hd (h_gv id (by omega) ?_)
      have:=Classical.not_forall.1 hg
      obtain ⟨p,hp'⟩:=this
      obtain ⟨hp1,hp2⟩:=Classical.not_imp.1 hp'
      exact ⟨p,hp1,Classical.not_not.1 hp2⟩
    ·have hC:¬ Cal id:=fun hC=>by rcases hC with hC | hC; exact hi hC.1; omega
     obtain ⟨_,q2⟩:=rest id hC hd
     exact ⟨q2 ▸ hd,r3n id hC none⟩
  refine ⟨ρ3,_,rfl,rel,evo,?_⟩
  have toV:∀ {c:AV} {u:Value},RV w' (ao w' (yD X hc ρ ids) hm ρ') ρ' hm c u→aJ L3 c=true→RV w' (ao w' X h' ρ3) ρ3 h' (cQ (bN ids) c) u:=fun {c u} hv hcl'=>by
   have h1:=hv.embA (A2:=ao w' (yD X hc ρ ids) h3 (fun i s=>ρ' (nm i) s)) em3 (fun b hb=>⟨hb.1,hb.2.1,fun ho=>hb.2.2 (own3 ho)⟩) hcl'
   exact h1.keep (fun b hb=>⟨hA3 b hb,rfl⟩) fun i s hp=>by
    have hC:=h3n i (by
     cases s with
     | none=>exact hp
     | some p=>obtain ⟨_,_,_,e,_⟩:=hp; rw [e]; simp)
    exact ⟨(cA (h3c i hC)).1 hp,r3c i hC s⟩
  have zc:=zcl l3a l3b
  cases zr with
  | tup vs =>
   cases hv with
   | dat hd=>cases hd
   | tup _ us hs hr =>
    refine .tup _ us (by simpa using hs) fun i c u hc' hu=>?_
    simp only [List.getElem?_map,Option.map_eq_some_iff] at hc'
    obtain ⟨c0,h1,rfl⟩:=hc'
    exact toV (hr i c0 u h1 hu) (zc c0 (List.mem_of_getElem? h1))
  | _=>exact toV hv zc
 ·cases hz
end
theorem qL {R:AV→Value→Prop} {l1 l2:List AV} {v1 v2:List Value} (hl:v1.length=l1.length) (h1:∀ (i:Nat) (c:AV) (u:Value),l1[i]?=some c→v1[i]?=some u→R c u)
  (h2:∀ (i:Nat) (c:AV) (u:Value),l2[i]?=some c→v2[i]?=some u→R c u) (i:Nat) (c:AV) (u:Value) (hc:(l1++l2)[i]?=some c) (hu:(v1++v2)[i]?=some u):R c u:=by
 by_cases h:i < l1.length
 ·rw [List.getElem?_append_left h] at hc
  rw [List.getElem?_append_left (by omega)] at hu
  exact h1 i c u hc hu
 ·rw [List.getElem?_append_right (by omega)] at hc
  rw [List.getElem?_append_right (by omega),hl] at hu
  exact h2 _ c u hc hu
theorem AP:∀ {l:List AV} {ms:List Nat},∀ p ∈ kN ms l,p.2=false
 | [],ms,p,hp=>by simp [kN] at hp
 | a::l,ms,p,hp=>by
  simp only [kN,List.mem_append] at hp
  rcases hp with hp | hp
  ·split at hp
   ·simp only [List.mem_map] at hp
    obtain ⟨i,_,rfl⟩:=hp
    rfl
   ·simp at hp
  ·exact AP p hp
section
variable {P:Program} {I:Inv} {call:cT} {md:Mode}
def Kd (P:Program) (I:Inv) (call:cT) (md:Mode):Prop :=
 ∀ {w:World} {X:Nat→Prop} {ρ:aT} {h h':aa} {d:Nat} {f z:AV} {zas:List AV} {ks:K} {uf:Value} {us:Array Value},d < 1000→I.p w X→Rel w X ρ h→RV w (ao w X h ρ) ρ h f uf→us.size=zas.length →
  (∀ (i:Nat) (c:AV) (u:Value),zas[i]?=some c→us[i]?=some u→RV w (ao w X h ρ) ρ h c u)→dq call md h d zas f=some (z,h',ks) →
  ∃ g first cap,uf=.func (.func g) first cap∧Enters P g (first++us++cap) w fun v w'=>Got w X ρ h w' h' ks z v
theorem H7 (hf:∀ f,fj P I (md.keep f) f (call f)):Kd P I call md:=by
 intro w X ρ h h' d f z zas ks uf us hd hi r hvf hus hva hz
 cases f <;> simp only [dq] at hz <;> try (cases hz; done)
 rename_i fid a b
 obtain ⟨first,cap,rfl,s1,s2,va,vb⟩:=hvf.fn_inv
 refine ⟨fid,first,cap,rfl,?_⟩
 simp only [Option.bind_eq_some_iff] at hz
 obtain ⟨⟨zs,hc,ks0⟩,e1,e2⟩:=hz
 simp only at e2
 have hvals:(first++us++cap).toList=first.toList++us.toList++cap.toList:=by simp
 obtain ⟨r1,ev1,fl1,ln1,vv⟩:=wL (h0:=h) (a++zas++b) (md.m fid) (first++us++cap).toList r .refl (by simp [s1,s2,hus]) (fun i c u h1 h2=>by
  rw [hvals] at h2
  refine qL (by simp [s1,hus]) (fun i c u h1 h2=>qL (by simp [s1]) (fun i c u h1 h2=>va i c u h1 (by simpa using h2)) (fun i c u h1 h2=>hva i c u h1 (by simpa using h2)) i c u h1 h2) (fun i c u h1 h2=>vb i c u h1 (by simpa using h2)) i c u h1 h2) e1
 have hnd:(bJ hc 40 (bo [] (zs.flatMap bk)) 0).Nodup:=yu (rp List.nodup_nil)
 generalize bJ hc 40 (bo [] (zs.flatMap bk)) 0=ids at *
 unfold jF at e2
 split at e2
 ·rename_i hck
  simp only [Bool.and_eq_true,List.all_eq_true,Bool.not_eq_true'] at hck
  obtain ⟨k1,k2⟩:=hck
  simp only [Option.bind_eq_some_iff] at e2
  obtain ⟨⟨res,os⟩,e3,e4⟩:=e2
  have hl:ids.length≤1000:=by
   unfold dZ at e4
   split at e4
   ·rename_i hh; exact hh.2.1
   ·cases e4
  have hcl:∀ a ∈ ids,aA ids (hc a)=true:=fun a ha=>(k2 a ha).1
  have hdead:∀ a ∈ ids,hc a ≠ .dead:=fun a ha e=>by
   have:=(k2 a ha).2
   rw [e] at this
   cases this
  have em:=Emb.enter (h:=hc) hl hnd hcl
  obtain ⟨rE,hA⟩:=Lv r1 hl hnd hcl
  have hi1:I.p w (yD X hc ρ ids):=I.more hi fun b hb=>.inl hb
  have hlen:(first++us++cap).size=zs.length:=by rw [ln1]; simp [s1,s2,hus]
  refine (hf fid e3 (n:=2000+8*d) (by omega) hi1 rE (by rw [List.length_map,oi]; exact hlen) fun i c u hc' hu=>?_).mono fun v w' ⟨ρ',q1,q2,q3⟩=>?_
  ·simp only [List.getElem?_map,Option.map_eq_some_iff] at hc'
   obtain ⟨c0,h1,rfl⟩:=hc'
   obtain ⟨c1,h2,h3⟩:=nI _ _ _ _ h1
   obtain ⟨h4,wy,hv⟩:=vv i c1 u h2 (by rw [Array.getElem?_toList]; exact hu)
   have hv':RV w (ao w X h4 ρ) ρ h4 c0 u:=by
    rcases h3 with rfl | ⟨ss,rfl⟩
    ·exact hv
    ·exact hv.nrmV ss
   have hcc:=k1 c0 (List.mem_of_getElem? h1)
   exact (Lt wy hv' hcc).embA em hA hcc
  ·obtain ⟨ρ3,k3,rfl,g1,g2,g3⟩:=Kc r1 hnd hcl hdead AP e4 q1 q2 q3
   exact ⟨ρ3,g1,ev1.trans g2,g3⟩
 ·cases e2
theorem wP {w:World} {X:Nat→Prop} {ρ:aT} {h:aa} {b:Nat} (hb:ao w X h ρ b):ao w X (ae []) ρ b:=⟨hb.1,hb.2.1,fun ⟨id,sub,hl,_⟩=>by
 have hd:ae [] id=.dead:=by unfold ae; split <;> simp
 cases sub with
 | none=>simp [live,hd] at hl
 | some p=>simp [live,hd] at hl⟩
theorem Iz {w:World} {X:Nat→Prop} {ρ:aT} {h:aa} (r:Rel w X ρ h) {id:Nat} {sub:Option Nat} (hl:live h id sub):ao w X (ae []) ρ (ρ id sub).1 :=
 ⟨wM r ⟨id,sub,hl,rfl⟩,r.nx id sub hl,fun ⟨id',sub',hl',_⟩=>by
  have hd:ae [] id'=.dead:=by unfold ae; split <;> simp
  cases sub' with
  | none=>simp [live,hd] at hl'
  | some p=>simp [live,hd] at hl'⟩
theorem Ke {w:World} {X:Nat→Prop} {ρ:aT} {h:aa} (r:Rel w X ρ h) {a c:AV} {u:Value} (hv:RV w (ao w X h ρ) ρ h a u) (hz:Jr h a=some c):RV w (ao w X (ae []) ρ) ρ (ae []) c u:=by
 have dd:∀ {a:AV},RD w (ao w X h ρ) a u→RV w (ao w X (ae []) ρ) ρ (ae []) a u:=fun hd=>.dat (hd.mono fun b hb=>⟨wP hb,rfl⟩)
 cases a <;> simp only [Jr] at hz <;> try (cases hz; done)
 case v x=>cases hz; exact .dat (by obtain ⟨rfl,hp⟩:=hv.v_inv; exact .v _ hp)
 case emp=>cases hz; obtain ⟨a,rfl⟩:=hv.emp_inv; exact .dat (.emp a)
 case sl k rows=>cases hz; exact dd hv.sl_inv
 case rsl id sub k lo n =>
  simp only [Option.map_eq_some_iff] at hz
  obtain ⟨rs,h1,rfl⟩:=hz
  obtain ⟨a,cap,rfl,hp,hn,hb,ha⟩:=hv.rsl_inv
  cases sub with
  | none =>
   simp only [nX] at h1
   have ho:=r.ob id
   cases eo:h id with
   | dead=>rw [eo] at h1; simp [mF,dN] at h1
   | bx cs=>rw [eo] at h1; simp [mF,dN] at h1
   | ar k' rows =>
    rw [eo] at h1 ho
    simp only [mF,dN] at h1
    split at h1
    ·rename_i hc
     obtain ⟨rfl,hle⟩:=hc
     cases h1
     obtain ⟨us,t0,g1,g2,g3,g4⟩:=ho
     exact .dat (ir g1 (Iz r (by simp [live,eo])) (g4.mono fun b hb=>⟨wP hb,rfl⟩) hle hn ha)
    ·cases h1
   | fz k' rows =>
    rw [eo] at h1 ho
    simp only [mF,dN] at h1
    split at h1
    ·rename_i hc
     obtain ⟨rfl,hle⟩:=hc
     cases h1
     obtain ⟨ga,us,t0,fr,g1,g2,g3,g4⟩:=ho
     exact .dat (ir g1 (wP ga) (g4.mono fun b hb=>⟨wP hb,rfl⟩) hle hn ha)
    ·cases h1
  | some p =>
   simp only [nX] at h1
   cases eo:h id with
   | bx cs =>
    rw [eo] at h1
    simp only [gx] at h1
    cases ec:cs[p]? with
    | none=>rw [ec] at h1; simp [m7,dN] at h1
    | some c =>
     rw [ec] at h1
     cases c <;> simp [m7,dN] at h1
     rename_i k' rows
     obtain ⟨⟨rfl,hle⟩,rfl⟩:=h1
     obtain ⟨us,t0,g1,g2,g3,g4⟩:=r.cell eo
     obtain ⟨u,f1,a',cap',us1,t1,q1,q2,q3,q4,q5,q6,q7⟩:=g4 p _ ec
     exact .dat (ir q4 (Iz r ⟨cs,_,rows,eo,ec⟩) (q7.mono fun b hb=>⟨wP hb,rfl⟩) hle hn ha)
   | dead=>rw [eo] at h1; simp [gx,dN] at h1
   | ar k' rows=>rw [eo] at h1; simp [gx,dN] at h1
   | fz k' rows=>rw [eo] at h1; simp [gx,dN] at h1
 case fn f x y =>
  cases x with
  | cons a l=>simp at hz
  | nil =>
   cases y with
   | cons a l=>simp at hz
   | nil =>
    simp only [Option.some.injEq] at hz
    subst hz
    obtain ⟨us,ts,rfl,s1,s2,_,_⟩:=hv.fn_inv
    exact .fn f [] [] us ts s1 s2 (fun i c u hc=>by simp at hc) (fun i c u hc=>by simp at hc)
theorem AQ {w:World} {X:Nat→Prop} {ρ:aT} {h:aa} (r:Rel w X ρ h):∀ (l:List AV) (vals:List Value) {cs:List AV},vals.length=l.length→(∀ (i:Nat) (c:AV) (u:Value),l[i]?=some c→vals[i]?=some u→RV w (ao w X h ρ) ρ h c u)→BR h l=some cs →
  cs.length=l.length∧∀ (i:Nat) (c:AV) (u:Value),cs[i]?=some c→vals[i]?=some u→RV w (ao w X (ae []) ρ) ρ (ae []) c u
 | [],vals,cs,hl,hv,hz=>by
  simp only [BR,Option.some.injEq] at hz
  subst hz
  exact ⟨rfl,fun i c u hc=>by simp at hc⟩
 | a::l,[],cs,hl,hv,hz=>by simp at hl
 | a::l,v::vals,cs,hl,hv,hz=>by
  simp only [BR,Option.bind_eq_some_iff] at hz
  obtain ⟨b,e1,q,e2,e3⟩:=hz
  cases e3
  obtain ⟨g1,g2⟩:=AQ r l vals (by simpa using hl) (fun i c u hc hu=>hv (i+1) c u (by simpa using hc) (by simpa using hu)) e2
  refine ⟨by simp [g1],fun i c u hc hu=>?_⟩
  cases i with
  | zero=>simp at hc hu; subst hc hu; exact Ke r (hv 0 a v rfl rfl) e1
  | succ i=>exact g2 i c u (by simpa using hc) (by simpa using hu)
theorem Kf {kp:Bool} {w w':World} {X:Nat→Prop} {ρ ρ':aT} {h:aa} (r:Rel w X ρ h) (far:Far kp w ρ (ae []) w' ρ' (ae [])):Rel w' X ρ h∧Evo w ρ h w' ρ h []:=by
 have no:∀ b,¬ kl (ae []) ρ b:=fun b ⟨id',sub',hl',_⟩=>by
  have hd:ae [] id'=.dead:=by unfold ae; split <;> simp
  cases sub' with
  | none=>simp [live,hd] at hl'
  | some p=>simp [live,hd] at hl'
 have e:Evo w ρ h w' ρ h []:=⟨far.os,far.tape,far.output,far.size,fun b hb _=>far.old b hb (no b),fun _ _ hp _=>⟨hp,rfl⟩,fun _ ho=>.inl ho,fun _ hb=>⟨hb,rfl⟩,fun _ _ hd=>⟨hd,rfl⟩⟩
 exact ⟨r.step e (fun _=>False) (fun _ _=>⟨rfl,fun _=>rfl,fun sub hl=>far.old _ (wM r ⟨_,sub,hl,rfl⟩) (no _)⟩) r.inj r.nx (fun _ hf=>hf.elim),e⟩
theorem Kg {c:AV} (hp:nY c=true) (n:Nat) (h:aa):bU n h c=(c,h):=by
 cases c <;> simp [nY] at hp
 rfl
theorem AR:∀ {vs:List AV} (n:Nat) (h:aa),vs.all nY=true→bp n h vs=(vs,h)
 | [],n,h,_=>rfl
 | a::l,n,h,hp=>by
  simp only [List.all_cons,Bool.and_eq_true] at hp
  simp only [bp,Kg hp.1,AR (n+1) h hp.2]
theorem Lw {c:AV} (hp:wl c=true) (n:Nat) (h:aa):mat n h c=(c,h):=by
 cases c <;> simp only [wl] at hp <;> try (simp [nY] at hp; done)
 case v x=>rfl
 case tup vs=>simp only [mat,AR n h hp]
theorem Db {w w':World} {A A':Nat→Prop} {ρ ρ':aT} {h h':aa} {c:AV} {u:Value} (hp:nY c=true) (hv:RV w A ρ h c u):RV w' A' ρ' h' c u:=by
 cases c <;> simp [nY] at hp
 obtain ⟨rfl,hp⟩:=hv.v_inv
 exact .dat (.v _ hp)
theorem Nq {w w':World} {A A':Nat→Prop} {ρ ρ':aT} {h h':aa} {c:AV} {u:Value} (hp:wl c=true) (hv:RV w A ρ h c u):RV w' A' ρ' h' c u:=by
 cases c <;> simp only [wl] at hp <;> try (simp [nY] at hp; done)
 case v x=>exact Db hp hv
 case tup vs =>
  cases hv with
  | dat hd=>cases hd
  | tup _ us hs hr=>exact .tup vs us hs fun i c u hc hu=>Db (List.all_eq_true.1 hp c (List.mem_of_getElem? hc)) (hr i c u hc hu)
theorem Kh (hf:∀ f,fj P I (md.keep f) f (call f)):go P I call md:=by
 intro w X ρ h h' d f z zas ks uf us hd hi r hvf hus hva hz
 unfold ai at hz
 split at hz
 ·cases f <;> simp only [Ar] at hz <;> try (cases hz; done)
  rename_i fid a b _
  obtain ⟨first,cap,rfl,s1,s2,va,vb⟩:=hvf.fn_inv
  refine ⟨fid,first,cap,rfl,?_⟩
  simp only [Option.bind_eq_some_iff] at hz
  obtain ⟨cs,e1,⟨res,os⟩,e2,e3⟩:=hz
  have hvals:(first++us++cap).toList=first.toList++us.toList++cap.toList:=by simp
  obtain ⟨l1,l2⟩:=AQ r (a++zas++b) (first++us++cap).toList (by simp [s1,s2,hus]) (fun i c u h1 h2=>by
   rw [hvals] at h2
   refine qL (by simp [s1,hus]) (fun i c u h1 h2=>qL (by simp [s1]) (fun i c u h1 h2=>va i c u h1 (by simpa using h2)) (fun i c u h1 h2=>hva i c u h1 (by simpa using h2)) i c u h1 h2) (fun i c u h1 h2=>vb i c u h1 (by simpa using h2)) i c u h1 h2) e1
  cases os with
  | cons o os=>simp [Fe] at e3
  | nil =>
   simp only [Fe] at e3
   split at e3
   ·rename_i hp
    cases e3
    have rE:Rel w X ρ (ae []):=by
     have hd:∀ id,ae [] id=.dead:=fun id=>by unfold ae; split <;> simp
     have no:∀ id sub,¬ live (ae []) id sub:=fun id sub hl=>by
      cases sub with
      | none=>simp [live,hd] at hl
      | some p=>simp [live,hd] at hl
     exact ⟨fun id sub _ _ h=>(no id sub h).elim,fun id sub h=>(no id sub h).elim,fun id=>by rw [hd]; trivial,r.xl⟩
    refine (hf fid e2 (n:=2000) (Nat.le_refl _) hi rE (by rw [oi,l1]; simp [s1,s2,hus]) fun i c u hc' hu=>?_).mono fun v w' ⟨ρ',q1,q2,q3⟩=>?_
    ·obtain ⟨c1,h2,h3⟩:=nI _ _ _ _ hc'
     have hv:=l2 i c1 u h2 (by rw [Array.getElem?_toList]; exact hu)
     rcases h3 with rfl | ⟨ss,rfl⟩
     ·exact hv
     ·exact hv.nrmV ss
    ·rw [Lw hp] at q1 q2 q3
     obtain ⟨g1,g2⟩:=Kf r q2
     exact ⟨ρ,g1,g2,Nq hp q3⟩
   ·cases e3
 ·exact H7 hf hd hi r hvf hus hva hz
end
section
variable {P:Program} {I:Inv} {call:cT} {md:Mode}
structure EnvOK (P:Program) (I:Inv) (e:Env):Prop where
 mixed:P.follows .mixedOrders=true
 ext:∀ f g,e.E f=some g→fj P I (e.md.keep f) f g
 text:∀ f fd,e.E f=none→e.C f=some fd→Text P f fd
theorem AS (kp:Bool) (f:FuncId):fj P I kp f (fun _ _=>none):=by
 intro args obs obs' res w X ρ vals n hz
 cases hz
theorem Lx {e:Env} (he:EnvOK P I e):∀ (n:Nat) (f:FuncId),fj P I (e.md.keep f) f (fp e n f)
 | 0,f=>AS _ f
 | n+1,f=>by
  cases hE:e.E f with
  | some g =>
   have:fp e (n+1) f=g:=by funext args hs; simp only [fp,hE]
   rw [this]
   exact he.ext f g hE
  | none =>
   cases hC:e.C f with
   | none =>
    have:fp e (n+1) f=fun _ _=>none:=by funext args hs; simp only [fp,hE,hC]; rfl
    rw [this]
    exact AS _ f
   | some fd =>
    have:fp e (n+1) f=wr (fp e n) { e.md with nm:=e.md.keep f } n fd:=by funext args hs; simp only [fp,hE,hC]; rfl
    rw [this]
    exact PC (md:={ e.md with nm:=e.md.keep f }) he.mixed (Kh (md:={ e.md with nm:=e.md.keep f }) fun g=>Lx he n g) (he.text f fd hE hC)
end
def Ev (p:Nat→Prop):Prop:=∃ n,∀ k,n≤k→p k
theorem Ev.and {p q:Nat→Prop} (a:Ev p) (b:Ev q):Ev fun k=>p k∧q k:=by
 obtain ⟨n,hn⟩:=a
 obtain ⟨m,hm⟩:=b
 exact ⟨max n m,fun k hk=>⟨hn k (by omega),hm k (by omega)⟩⟩
theorem Ev.mono {p q:Nat→Prop} (a:Ev p) (h:∀ k,p k→q k):Ev q:=by
 obtain ⟨n,hn⟩:=a
 exact ⟨n,fun k hk=>h k (hn k hk)⟩
theorem Ev.all {p:Nat→Prop} (h:∀ k,p k):Ev p:=⟨0,fun k _=>h k⟩
open Classical in
noncomputable def sf {α:Type} (f:Nat→Option α):Option α:=if h:∃ a,Ev fun k=>f k=some a then some (Classical.choose h) else none
theorem iK {α:Type} {f:Nat→Option α} {a:α}:sf f=some a↔Ev fun k=>f k=some a:=by
 unfold sf
 constructor
 ·intro h
  split at h
  ·rename_i hh
   have:=Classical.choose_spec hh
   cases h
   exact this
  ·cases h
 ·intro h
  have hh:∃ a,Ev fun k=>f k=some a:=⟨a,h⟩
  rw [dif_pos hh]
  obtain ⟨n,hn⟩:=Classical.choose_spec hh
  obtain ⟨m,hm⟩:=h
  have h1:=hn (max n m) (by omega)
  have h2:=hm (max n m) (by omega)
  exact h1.symm.trans h2
theorem PF {α:Type} {f g:Nat→Option α} (h:∀ a,sf f=some a↔sf g=some a):sf f=sf g:=by
 cases hf:sf f with
 | none =>
  cases hg:sf g with
  | none=>rfl
  | some a=>rw [(h a).2 hg] at hf; cases hf
 | some a=>exact ((h a).1 hf).symm
theorem qg {α:Type} (a:Option α):sf (fun _=>a)=a:=by
 cases a with
 | none =>
  cases h:sf (fun _:Nat=>(none:Option α)) with
  | none=>rfl
  | some a =>
   obtain ⟨n,hn⟩:=iK.1 h
   exact absurd (hn n (Nat.le_refl _)) (by simp)
 | some a=>exact iK.2 (Ev.all fun _=>rfl)
theorem FW {α:Type} (f:Nat→Option α):sf (fun n=>f (n+1))=sf f:=PF fun a=>by
 rw [iK,iK]
 constructor
 ·rintro ⟨n,hn⟩
  refine ⟨n+1,fun k hk=>?_⟩
  have:f (k - 1+1)=some a:=hn (k - 1) (by omega)
  rwa [show k - 1+1=k from by omega] at this
 ·rintro ⟨n,hn⟩
  exact ⟨n,fun k hk=>hn (k+1) (by omega)⟩
noncomputable def aU (body:af→aa→Option (Ex × St)) (ks hs:List Nat) (s:af) (h:aa):Option (Ex × St):=sf fun n=>kC body ks hs n s h
def EQ (g:af→aa→Option (Ex × St)):Option (Ex × St)→Option (Ex × St)
 | some (.normal,t)=>g t.s t.h
 | r=>r
theorem aB (body:af→aa→Option (Ex × St)) (ks hs:List Nat) (s:af) (h:aa) :
  aU body ks hs s h=if (hs.all fun a=>aA hs (h a))=true then EQ (aU body ks hs) (body (mk .any (fun i=>ez hs (s i)) ks) (mk .dead h hs)) else none:=by
 unfold aU
 rw [← FW]
 simp only [kC]
 split
 ·cases hb:body (mk .any (fun i=>ez hs (s i)) ks) (mk .dead h hs) with
  | none=>exact qg _
  | some r =>
   obtain ⟨e,t⟩:=r
   cases e with
   | normal=>rfl
   | exit id=>exact qg _
   | ret=>exact qg _
 ·exact qg _
noncomputable def az (call:cT) (md:Mode):Cmd→af→aa→Option (Ex × St)
 | .skip,s,h=>some (.normal,⟨s,h⟩)
 | .ops ks l,s,h=>aK (am call md l s h) fun s h=>some (.normal,⟨mk .any s ks,h⟩)
 | .dops ks l ps,s,h=>aK (jJ call md l ps s h) fun s h=>some (.normal,⟨mk .any s ks,h⟩)
 | .seq a b,s,h=>dD (az call md a s h) (az call md b)
 | .cond c a b,s,h=>jK (az call md a s h) (az call md b s h) (ev s c)
 | .block id ks a,s,h=>aI id ks (az call md a s h)
 | .loop ks hs a,s,h=>aU (az call md a) ks hs s h
 | .exit id,s,h=>some (.exit id,⟨s,h⟩)
 | .ret,s,h=>some (.ret,⟨s,h⟩)
 | .frz is a,s,h=>aK (pe md.nm is s h) (az call md a)
noncomputable def cR (e:Env):cT:=fun f args hs=>sf fun n=>fp e n f args hs
noncomputable def FX (call:cT) (md:Mode) (fd:FD) (args:List AV) (hs:List Ob):Option (AV × List Ob) :=
 if args.length=fd.np∧hs.length≤1000 then rk md.nm fd.rs fd.res hs.length (az call md fd.body (pf args) (ae hs)) else none
section
variable {e:Env} {md:Mode}
theorem Ly {h:aa} {d:Nat} {zas:List AV} {f:AV} {r:R3} (hz:dq (cR e) md h d zas f=some r):Ev fun k=>dq (fp e k) md h d zas f=some r:=by
 cases f <;> simp only [dq] at hz ⊢ <;> try (cases hz; done)
 simp only [Option.bind_eq_some_iff] at hz ⊢
 obtain ⟨p,e1,e2⟩:=hz
 unfold jF at e2 ⊢
 split at e2
 ·rename_i hc
  simp only [Option.bind_eq_some_iff] at e2
  obtain ⟨q,e3,e4⟩:=e2
  refine (iK.1 e3).mono fun k hk=>⟨p,e1,?_⟩
  rw [if_pos hc]
  simp only [Option.bind_eq_some_iff]
  exact ⟨q,hk,e4⟩
 ·cases e2
theorem FY {h:aa} {d:Nat} {zas:List AV} {f:AV} {r:R3} (hz:ai (cR e) md h d zas f=some r):Ev fun k=>ai (fp e k) md h d zas f=some r:=by
 unfold ai at hz ⊢
 by_cases hb:jG md zas f=true
 ·rw [if_pos hb] at hz
  simp only [if_pos hb]
  cases f <;> simp only [Ar] at hz ⊢ <;> try (cases hz; done)
  simp only [Option.bind_eq_some_iff] at hz ⊢
  obtain ⟨p,e1,q,e3,e4⟩:=hz
  exact (iK.1 e3).mono fun k hk=>⟨p,e1,q,hk,e4⟩
 ·rw [if_neg hb] at hz
  simp only [if_neg hb]
  exact Ly hz
theorem IA {d:Nat} {op:AOp} {s:af} {h:aa} {r:R3} (hz:step (cR e) md d op s h=some r):Ev fun k=>step (fp e k) md d op s h=some r:=by
 cases op with
 | call f zas=>exact FY hz
 | callC f zas =>
  simp only [step,Option.bind_eq_some_iff] at hz ⊢
  obtain ⟨q,e1,e2⟩:=hz
  exact (FY e1).mono fun k hk=>⟨q,hk,e2⟩
 | _=>exact Ev.all fun k=>hz
theorem IB {d:Option Nat} {op:AOp} {s:af} {h:aa} {t:St} (hz:bK md.nm s d (step (cR e) md (d.getD 0) op s h)=some t):Ev fun k=>bK md.nm s d (step (fp e k) md (d.getD 0) op s h)=some t:=by
 cases hs:step (cR e) md (d.getD 0) op s h with
 | none=>rw [hs] at hz; cases hz
 | some r =>
  rw [hs] at hz
  exact (IA hs).mono fun k hk=>by rw [hk]; exact hz
theorem Nr {o:COp} {s:af} {h:aa} {t:St} (hz:fW (cR e) md o s h=some t):Ev fun k=>fW (fp e k) md o s h=some t:=by
 unfold fW at hz ⊢
 cases hg:o.g with
 | none=>rw [hg] at hz; exact IB hz
 | some g =>
  rw [hg] at hz
  simp only at hz ⊢
  unfold fv at hz ⊢
  split at hz
  ·split at hz
   ·rename_i hb
    simp only [if_pos hb]
    exact IB hz
   ·rename_i hb
    simp only [if_neg hb]
    exact Ev.all fun k=>hz
  ·exact Ev.all fun k=>hz
  ·cases hz
theorem uJ:∀ {l:List COp} {s:af} {h:aa} {t:St},am (cR e) md l s h=some t→Ev fun k=>am (fp e k) md l s h=some t
 | [],s,h,t,hz=>Ev.all fun k=>hz
 | o::l,s,h,t,hz=>by
  simp only [am,aK] at hz
  split at hz
  ·cases hz
  ·rename_i t1 ht1
   refine ((Nr ht1).and (uJ hz)).mono fun k hk=>?_
   simp only [am,aK,hk.1,hk.2]
theorem FZ {d:Option Nat} {op:AOp} {s:af} {h:aa} {f:aa→Fp} {t:St × Fp} (hz:fh s d f (step (cR e) md (d.getD 0) op s h)=some t):Ev fun k=>fh s d f (step (fp e k) md (d.getD 0) op s h)=some t:=by
 cases hs:step (cR e) md (d.getD 0) op s h with
 | none=>rw [hs] at hz; cases hz
 | some r =>
  rw [hs] at hz
  exact (IA hs).mono fun k hk=>by rw [hk]; exact hz
theorem Ns {o:COp} {s:af} {h:aa} {t:St × Fp} (hz:cj (cR e) md o s h=some t):Ev fun k=>cj (fp e k) md o s h=some t:=by
 unfold cj at hz ⊢
 cases hg:o.g with
 | none=>rw [hg] at hz; exact FZ hz
 | some g =>
  rw [hg] at hz
  simp only at hz ⊢
  unfold jI at hz ⊢
  split at hz
  ·split at hz
   ·rename_i hb
    simp only [if_pos hb]
    exact FZ hz
   ·rename_i hb
    simp only [if_neg hb]
    exact Ev.all fun k=>hz
  ·exact Ev.all fun k=>hz
  ·cases hz
theorem BY:∀ {l:List COp} {s:af} {h:aa} {t:St × List Fp},dA (cR e) md l s h=some t→Ev fun k=>dA (fp e k) md l s h=some t
 | [],s,h,t,hz=>Ev.all fun k=>hz
 | o::l,s,h,t,hz=>by
  simp only [dA,Option.bind_eq_some_iff] at hz
  obtain ⟨r,e1,q,e2,e3⟩:=hz
  refine ((Ns e1).and (BY e2)).mono fun k hk=>?_
  simp only [dA,hk.1,hk.2,Option.bind_some,e3]
theorem Nt {l:List COp} {ps:List (Nat × Nat)} {s:af} {h:aa} {t:St} (hz:jJ (cR e) md l ps s h=some t):Ev fun k=>jJ (fp e k) md l ps s h=some t:=by
 unfold jJ at hz ⊢
 cases hb:pQ ps with
 | none =>
  rw [hb] at hz
  simp only [pW,Option.bind_eq_some_iff] at hz
  obtain ⟨q,e1,e2⟩:=hz
  exact (BY e1).mono fun k hk=>by simp only [pW,hk,Option.bind_some,e2]
 | some b =>
  rw [hb] at hz
  simp only [ur,Option.bind_eq_some_iff] at hz
  obtain ⟨q,e1,e2⟩:=hz
  split at e2
  ·rename_i hps
   simp only [aK] at e2
   split at e2
   ·cases e2
   ·rename_i t1 ht1
    exact ((BY e1).and (uJ e2)).mono fun k hk=>by simp only [ur,hk.1,Option.bind_some,if_pos hps,ht1,aK,hk.2]
  ·cases e2
theorem IC {c:Cmd} {ks hs:List Nat} (ih:∀ {s:af} {h:aa} {r:Ex × St},az (cR e) md c s h=some r→Ev fun k=>bc (fp e k) md k c s h=some r) :
  ∀ (m:Nat) {s:af} {h:aa} {r:Ex × St},kC (az (cR e) md c) ks hs m s h=some r→∃ n,∀ k,n≤k→∀ j,n≤j→kC (bc (fp e k) md k c) ks hs j s h=some r
 | 0,s,h,r,hz=>by simp [kC] at hz
 | m+1,s,h,r,hz=>by
  simp only [kC] at hz
  split at hz
  ·rename_i hc
   cases hb:az (cR e) md c (mk .any (fun i=>ez hs (s i)) ks) (mk .dead h hs) with
   | none=>rw [hb] at hz; cases hz
   | some q =>
    rw [hb] at hz
    obtain ⟨n1,h1⟩:=ih hb
    obtain ⟨ex,t⟩:=q
    cases ex with
    | normal =>
     obtain ⟨n2,h2⟩:=IC ih m hz
     refine ⟨max n1 n2+1,fun k hk j hj=>?_⟩
     obtain ⟨j,rfl⟩:∃ j',j=j'+1:=⟨j - 1,by omega⟩
     simp only [kC,if_pos hc,h1 k (by omega)]
     exact h2 k (by omega) j (by omega)
    | exit id =>
     refine ⟨n1+1,fun k hk j hj=>?_⟩
     obtain ⟨j,rfl⟩:∃ j',j=j'+1:=⟨j - 1,by omega⟩
     simp only [kC,if_pos hc,h1 k (by omega)]
     exact hz
    | ret =>
     refine ⟨n1+1,fun k hk j hj=>?_⟩
     obtain ⟨j,rfl⟩:∃ j',j=j'+1:=⟨j - 1,by omega⟩
     simp only [kC,if_pos hc,h1 k (by omega)]
     exact hz
  ·cases hz
theorem fE:∀ (c:Cmd) {s:af} {h:aa} {r:Ex × St},az (cR e) md c s h=some r→Ev fun k=>bc (fp e k) md k c s h=some r
 | .skip,s,h,r,hz=>Ev.all fun k=>hz
 | .ops ks l,s,h,r,hz=>by
  simp only [az,aK] at hz
  split at hz
  ·cases hz
  ·rename_i t1 ht1
   exact (uJ ht1).mono fun k hk=>by simp only [bc,hk,aK]; exact hz
 | .dops ks l ps,s,h,r,hz=>by
  simp only [az,aK] at hz
  split at hz
  ·cases hz
  ·rename_i t1 ht1
   exact (Nt ht1).mono fun k hk=>by simp only [bc,hk,aK]; exact hz
 | .seq a b,s,h,r,hz=>by
  simp only [az,dD] at hz
  split at hz
  ·cases hz
  ·rename_i t1 ht1
   exact ((fE a ht1).and (fE b hz)).mono fun k hk=>by simp only [bc,dD,hk.1,hk.2]
  ·rename_i i t1 ht1
   exact (fE a ht1).mono fun k hk=>by simp only [bc,dD,hk]; exact hz
  ·rename_i t1 ht1
   exact (fE a ht1).mono fun k hk=>by simp only [bc,dD,hk]; exact hz
 | .cond c a b,s,h,r,hz=>by
  simp only [az,jK] at hz
  split at hz
  ·rename_i t ht
   cases t with
   | true=>exact (fE a hz).mono fun k hk=>by simp only [bc,jK,ht,if_true,hk]
   | false=>exact (fE b hz).mono fun k hk=>by simp only [bc,jK,ht,Bool.false_eq_true,if_false,hk]
  ·cases hz
 | .block id ks a,s,h,r,hz=>by
  simp only [az,aI] at hz
  split at hz
  ·cases hz
  ·rename_i t1 ht1
   exact (fE a ht1).mono fun k hk=>by simp only [bc,aI,hk]; exact hz
  ·rename_i i t1 ht1
   exact (fE a ht1).mono fun k hk=>by simp only [bc,aI,hk]; exact hz
  ·rename_i t1 ht1
   exact (fE a ht1).mono fun k hk=>by simp only [bc,aI,hk]; exact hz
 | .loop ks hs a,s,h,r,hz=>by
  simp only [az,aU] at hz
  obtain ⟨m,hm⟩:=iK.1 hz
  obtain ⟨n,hn⟩:=IC (fun hh=>fE a hh) m (hm m (Nat.le_refl _))
  exact ⟨n,fun k hk=>by simp only [bc]; exact hn k hk k hk⟩
 | .exit id,s,h,r,hz=>Ev.all fun k=>hz
 | .ret,s,h,r,hz=>Ev.all fun k=>hz
 | .frz is a,s,h,r,hz=>by
  simp only [az,aK] at hz
  split at hz
  ·cases hz
  ·rename_i t1 ht1
   exact (fE a hz).mono fun k hk=>by simp only [bc,aK,ht1,hk]
theorem wQ {f:FuncId} {fd:FD} {args:List AV} {hs:List Ob} {r:AV × List Ob} (hE:e.E f=none) (hC:e.C f=some fd) (hz:FX (cR e) { e.md with nm:=e.md.keep f } fd args hs=some r):cR e f args hs=some r:=by
 unfold cR
 rw [iK]
 unfold FX at hz
 split at hz
 ·rename_i hc
  cases hx:az (cR e) { e.md with nm:=e.md.keep f } fd.body (pf args) (ae hs) with
  | none=>rw [hx] at hz; cases hz
  | some q =>
   rw [hx] at hz
   obtain ⟨n,hn⟩:=fE fd.body hx
   refine ⟨n+1,fun k hk=>?_⟩
   obtain ⟨k,rfl⟩:∃ k',k=k'+1:=⟨k - 1,by omega⟩
   simp only [fp,hE,hC,Option.bind_some,wr,if_pos hc,hn k (by omega)]
   exact hz
 ·cases hz
theorem uK {f:FuncId} {g:List AV→List Ob→Option (AV × List Ob)} {args:List AV} {hs:List Ob} (hE:e.E f=some g):cR e f args hs=g args hs:=by
 unfold cR
 rw [← FW]
 have:(fun n=>fp e (n+1) f args hs)=fun _=>g args hs:=by funext n; simp only [fp,hE]
 rw [this,qg]
theorem ID {P:Program} {I:Inv} (he:EnvOK P I e) (f:FuncId):fj P I (e.md.keep f) f (cR e f):=by
 intro args obs obs' res w X ρ vals n hz
 obtain ⟨m,hm⟩:=iK.1 hz
 exact Lx he m f (hm m (Nat.le_refl _))
end
end Go.Ab
