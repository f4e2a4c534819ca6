/-
  A law of ranges holds at every input that the statement speaks of, under the conditions that its card names. Part B1.
-/
import Derived.Orders
import Derived.LoopN
import Derived.Test.YtfdhicohflnjnaaGreatDoorA1
namespace Go.Ab
open Go
section
variable {P:Program} {w w':World} {X:Nat→Prop} {ρ ρ':bB} {h h':ab} {A A':Nat→Prop}
theorem We (n n' cap:Nat) (lo:Option Value) (v:Value):Instr.sliceBounds true n cap lo (some v) none=Instr.sliceBounds true n' cap lo (some v) none:=rfl
theorem Td (r:Rel w X ρ h) {t e:TypeId} {k:Nat} (ht:P.underlying t=some (.slice e)) (hk:br P e=some k) (h0:0 < k) {x z:AV} {u:Value} {lo hi:Option AV} {lo' hi':Option Value} {ks:K}
  (hx:RV w (aH w X h ρ) ρ h x u) (hl:RVo w (aH w X h ρ) ρ h lo lo') (hh:RVo w (aH w X h ρ) ρ h hi hi') (hz:C4 h k x lo hi=some (z,h',ks)) :
  ∃ v,(Instr.sliceAt t u lo' hi' none).run P w=.ok v w∧Got w X ρ h w h' ks z v:=by
 have hsz:∀ w,(sizeOf e).run P w=.ok k w:=by
  intro w
  simp only [br,Option.map_eq_some_iff] at hk
  obtain ⟨i,h1,h2⟩:=hk
  simp [sizeOf,typeInfo,h1,h2]
 have run:∀ (a:Option Addr) (n cap l r m:Nat),(Instr.sliceBounds true n cap lo' hi' none).run P w=.ok (l,r,m) w →
   (Instr.sliceAt t (.slice a n cap) lo' hi' none).run P w=.ok (.slice (if m=l then a else a.map (·.add (l*k))) (r - l) (m - l)) w:=by
  intro a n cap l r m hb
  simp [Instr.sliceAt,Instr.slice,run_underlying ht,hb,hsz]
 cases x <;> simp only [C4] at hz <;> try (cases hz; done)
 rename_i id sub k' l0 n
 cases sub with
 | some p=>cases hz
 | none =>
 simp only at hz
 split at hz
 ·rename_i hkk
  subst hkk
  obtain ⟨a,cap,rfl,hp,hn,hb,ha⟩:=hx.rsl_inv
  cases eo:h id <;> rw [eo] at hz <;> simp only [GU] at hz <;> try (cases hz; done)
  rename_i k2 rows
  split at hz
  ·rename_i hcond
   obtain ⟨rfl,hs,hle⟩:=hcond
   simp only [Option.map_eq_some_iff] at hz
   obtain ⟨⟨l,r'⟩,h1,h2⟩:=hz
   simp only [Prod.mk.injEq] at h2
   obtain ⟨rfl,rfl,rfl⟩:=h2
   have ho:=r.ob id
   rw [eo] at ho
   obtain ⟨us,t0,g1,g2,g3,g4⟩:=ho
   have hcap:rows.length≤l0+cap:=by
    have h5:rows.length*k2≤(l0+cap)*k2:=by rw [hb,← g2]; exact g3
    exact Nat.le_of_mul_le_mul_right h5 h0
   obtain ⟨m,q2,q3,q4,q5,q6,q7,q8⟩:=nW (P:=P) (cap:=cap) true hl hh .none h1 (by omega)
   cases hh with
   | none=>simp at hs
   | some hv =>
   rename_i hv' hw'
   have hmc:m=cap:=q7 rfl
   have q2':=q2
   rw [We _ n] at q2'
   refine ⟨_,run _ _ _ _ _ _ q2',ρ,r,.refl _ _ _,.rsl _ _ _ _ _ _ _ hp (by omega) (by rw [← hb]; congr 1; omega) ?_⟩
   rcases ha with h0 | h0
   ·exact .inl (by omega)
   ·by_cases hml:m=l
    ·exact .inl (by omega)
    ·refine .inr ?_
     rw [if_neg hml,h0]
     simp only [Option.map_some,jL]
     rw [← Nat.add_mul]
  ·cases hz
 ·cases hz
theorem Wf (r:Rel w X ρ h) {t:TypeId} (hg:mJ P t=some false) {d:Nat} (hdp:aY d=false) {x z:AV} {u:Value} {ks:K}
  (hx:RV w (aH w X h ρ) ρ h x u) (hz:GW h d x=some (z,h',ks)) :
  ∃ ad v,u=.pointer (some ad)∧(loadVar t ad).run P w=.ok v w∧Got w X ρ h w h' ks z v:=by
 cases x <;> simp only [GW] at hz <;> try (cases hz; done)
 rename_i id sub k0 i j
 cases sub with
 | some p=>cases hz
 | none =>
 simp only at hz
 obtain ⟨rfl,hp⟩:=hx.ref_inv
 cases eo:h id <;> rw [eo] at hz <;> simp only [Oo] at hz <;> try (cases hz; done)
 rename_i cs
 obtain ⟨us,t0,g1,g2,g3,g4⟩:=r.cell eo
 generalize hpp:i*k0+j=p at hz ⊢
 cases ec:cs[p]? with
 | none=>rw [ec] at hz; simp [C6] at hz
 | some c =>
  rw [ec] at hz
  obtain ⟨v,f1,f2⟩:=g4 p c ec
  have hload:(loadVar t ⟨(ρ id none).1,p,none⟩).run P w=.ok v w:=xJ hg (by rw [vo g1]; exact f1)
  refine ⟨_,v,rfl,hload,?_⟩
  cases c <;> simp only [C6] at hz <;> try (cases hz; done)
  ·simp only [Option.some.injEq,Prod.mk.injEq] at hz
   obtain ⟨rfl,rfl,rfl⟩:=hz
   exact ⟨ρ,r,.refl _ _ _,f2.1⟩
  ·rename_i k rows
   obtain ⟨hd',rfl,rfl,rfl⟩:=i7 hz
   have hne:d ≠ id:=by rintro rfl; rw [ap] at hd'; cases hd'
   have hd:h d=.dead:=by rwa [aG _ _ hne] at hd'
   obtain ⟨m1,m2⟩:=V9 r eo ec hdp hd
   obtain ⟨a,cap,us1,t1,rfl,q2,q3,q4,q5,q6,q7⟩:=f2
   refine ⟨_,m1,m2,.rsl d none k 0 rows.length cap a (by simp [bM,ap]) q3 (by rw [bt,Nat.zero_add,q6,q5]) ?_⟩
   rcases q2 with q2 | q2
   ·exact .inl q2
   ·exact .inr (by rw [bt,q2,Nat.zero_mul])
theorem Te (r:Rel w X ρ h) {k:Nat} (h0:0 < k) {id m:Nat} {rows ys:List (List AV)} (eo:h id=.ar k rows) (hfit:m+ys.length≤rows.length)
  {news:List Value} (n1:news.length=ys.length*k) (n3:bT w (aH w X h ρ) k ys news.toArray) :
  ∃ w',Rel w' X ρ (upd h id (.ar k (rows.take m++ys++rows.drop (m+ys.length))))∧Evo w ρ h w' ρ (upd h id (.ar k (rows.take m++ys++rows.drop (m+ys.length)))) [] ∧
   (storeCells ⟨(ρ id none).1,m*k,none⟩ news).run P w=.ok () w'∧(news=[]→w'=w):=by
 have hln:live h id none:=by simp [live,eo]
 have ho:=r.ob id
 rw [eo] at ho
 obtain ⟨us,t0,g1,g2,g3,g4⟩:=ho
 have hle:m*k+news.length≤us.size:=by
  have:(m+ys.length)*k≤rows.length*k:=Nat.mul_le_mul_right k hfit
  rw [Nat.add_mul] at this
  omega
 have h1:∀ v ∈ news,v.oneCell'=true:=by
  intro v hv
  obtain ⟨q,hq⟩:=List.getElem?_of_mem hv
  have hql:q < ys.length*k:=by rw [← n1]; exact (List.getElem?_eq_some_iff.1 hq).1
  have h3:q / k < ys.length:=Nat.div_lt_of_lt_mul (by rw [Nat.mul_comm]; exact hql)
  obtain ⟨f1,f2⟩:=n3 (q / k) _ (List.getElem?_eq_getElem h3)
  have h4:q % k < (ys[q / k]).length:=by rw [f1]; exact Nat.mod_lt _ h0
  obtain ⟨v',f3,f4,f5⟩:=f2 (q % k) _ (List.getElem?_eq_getElem h4)
  have h5:q / k*k+q % k=q:=by rw [Nat.mul_comm]; exact Nat.div_add_mod q k
  rw [h5,List.getElem?_toArray,hq] at f3
  cases f3
  exact f4.one f5
 have hlive:∀ s,live (upd h id (.ar k (rows.take m++ys++rows.drop (m+ys.length)))) id s→live h id s:=by
  intro s h1
  cases s with
  | none=>exact hln
  | some q=>obtain ⟨_,_,_,h2,_⟩:=h1; rw [ap] at h2; cases h2
 have hkeep:∀ s,bM h id s→s=none:=by
  intro s hp
  cases s with
  | none=>rfl
  | some q=>obtain ⟨_,_,_,h2,_⟩:=hp; rw [eo] at h2; cases h2
 have ev:Evo w ρ h (w.setRow (ρ id none).1 (ch us (m*k) news)) ρ (upd h id (.ar k (rows.take m++ys++rows.drop (m+ys.length)))) [] :=
  rX (X:=X) r hln _ hlive (fun s hp _=>by rw [hkeep s hp]; simp [bM,ap]) (fun hbf=>by rw [eo] at hbf; cases hbf)
 have hlen2:(rows.take m++ys++rows.drop (m+ys.length)).length=rows.length:=by
  rw [List.length_append,List.length_append,List.length_take,List.length_drop]
  omega
 have hrel:=ns r hln _ hlive ev ⟨_,t0,setRow_heap w _ us _ t0 _ g1,by rw [cH hle]; exact g2,by rw [cH hle,hlen2]; exact g3,LQ h0 (g4.mono fun b hb=>ev.al hb) (n3.mono fun b hb=>ev.al hb) n1 (by omega) g3⟩
 refine ⟨_,hrel,ev,?_,fun e3=>?_⟩
 ·have:=run_storeCells_at P (ρ id none).1 (m*k) t0 news 0 us w g1 (by simpa using hle) h1
  simpa [ch] using this
 ·subst e3
  rw [jP (by simpa using hle) (fun j v hv=>by simp at hv),setRow_self w _ us t0 (0,0) g1]
theorem Wg (r:Rel w X ρ h) {t e ty:TypeId} {k:Nat} {zs:List AV} (ht:P.underlying t=some (.slice e)) (hk:br P e=some k) (hzz:iE P e=some zs) (h0:0 < k) {x z:AV} {u:Value} {ks:K}
  (hx:RV w (aH w X h ρ) ρ h x u) (hz:Jr h k zs x=some (z,h',ks)) :
  ∃ v w',(Builtin.clear_ #[t] ty #[u]).run P w=.ok v w'∧Got w X ρ h w' h' ks z v:=by
 cases x <;> simp only [Jr] at hz <;> try (cases hz; done)
 rename_i id sub k' lo n
 cases sub with
 | some p=>cases hz
 | none =>
 simp only at hz
 split at hz
 ·rename_i hkk
  subst hkk
  obtain ⟨a,cap,rfl,hp,hn,hb,ha⟩:=hx.rsl_inv
  cases eo:h id <;> rw [eo] at hz <;> simp only [OY] at hz <;> try (cases hz; done)
  rename_i k2 rows
  split at hz
  ·rename_i hcond
   obtain ⟨rfl,hfit⟩:=hcond
   simp only [Option.some.injEq,Prod.mk.injEq] at hz
   obtain ⟨rfl,rfl,rfl⟩:=hz
   obtain ⟨zv,z1,z2,z3,z4⟩:=tp (w:=w) (A:=aH w X h ρ) hk hzz n n (Nat.le_refl n)
   obtain ⟨ii,zw,y1,y2,y3,y4,_⟩:=jN (w:=w) (A:=aH w X h ρ) (ρ:=ρ) (h:=h) hzz
   have hzv:zv=zw:=by
    have h5:=z1 w
    rw [G9 y1 y2 w] at h5
    exact (Result.ok.inj h5).1.symm
   subst hzv
   have hcs:zv.cells.size=k2:=by rw [y3]; simpa [br,y1] using hk
   have hnews:(Builtin.zeroCells zv.cells n)=(Array.range (n*k2)).map (zv.cells[· % zv.cells.size]!):=by
    unfold Builtin.zeroCells
    rw [hcs]
   obtain ⟨w',m1,m2,m3,m4⟩:=Te (P:=P) r h0 (m:=lo) (ys:=List.replicate n zs) (news:=(Builtin.zeroCells zv.cells n).toList) eo (by simpa using hfit) (by rw [hnews]; simp) (by rw [Array.toArray_toList,hnews]; exact z4)
   rw [List.length_replicate] at m1 m2
   refine ⟨.tuple #[],w',?_,ρ,m1,m2,.tup [] #[] rfl (fun i c u hc=>by simp at hc)⟩
   by_cases hn0:n=0
   ·subst hn0
    have:(Builtin.zeroCells zv.cells 0).toList=[]:=by simp [Builtin.zeroCells]
    rw [m4 this]
    cases a <;> simp [Builtin.clear_,run_underlying ht]
   ·rcases ha with h9 | h9
    ·omega
    ·subst h9
     obtain ⟨n',rfl⟩:=Nat.exists_eq_succ_of_ne_zero hn0
     simp [Builtin.clear_,run_underlying ht,z1,m3]
  ·cases hz
 ·cases hz
theorem Wh {z:Array Value} {n c:Nat} (hn:n≤c):Builtin.zeroCells z n++Builtin.zeroCells z (c - n)=(Array.range (c*z.size)).map (z[· % z.size]!):=by
 unfold Builtin.zeroCells
 apply Array.ext
 ·simp only [Array.size_append,Array.size_map,Array.size_range]
  rw [← Nat.add_mul]
  congr 1
  omega
 ·intro i h1 h2
  rw [Array.getElem_append]
  split
  ·simp
  ·rename_i h3
   simp only [Array.size_map,Array.size_range] at h3
   simp only [Array.size_map,Array.size_range,Array.getElem_map,Array.getElem_range]
   have:i % z.size=(i - n*z.size) % z.size:=by
    have h4:i=(i - n*z.size)+n*z.size:=by omega
    rw [h4,Nat.add_mul_mod_self_right,Nat.add_sub_cancel]
   rw [this]
theorem Tf (r:Rel w X ρ h) {t u e ty:TypeId} {k b d:Nat} (hdp:aY d=false) {zs:List AV} (ht:P.underlying t=some (.slice e)) (hu:P.underlying u=some (.int .i64)) (hk:br P e=some k) (hbb:l6 P e=some b) (hzz:iE P e=some zs) (h0:0 < k) (hb0:0 < b)
  {x y z:AV} {ux uy:Value} {ks:K} (hx:RV w (aH w X h ρ) ρ h x ux) (hy:RV w (aH w X h ρ) ρ h y uy) (hr:C5 h d k b zs x y=some (z,h',ks)) :
  ∃ v w',(Builtin.append_ #[t,u] ty #[ux,uy]).run P w=.ok v w'∧Got w X ρ h w' h' ks z v:=by
 unfold C5 at hr
 split at hr
 ·rename_i c
  obtain ⟨a,rfl⟩:=hx.emp_inv
  obtain ⟨rfl,_⟩:=hy.v_inv
  split at hr
  ·rename_i hcond
   obtain ⟨hc0,hfit⟩:=hcond
   obtain ⟨n,rfl⟩:=Int.eq_ofNat_of_zero_le (show 0≤c by omega)
   rw [Int.toNat_natCast] at hr hfit
   obtain ⟨i,zv,z1,z2,z3,z4,_⟩:=jN (w:=w) (A:=aH w X h ρ) (ρ:=ρ) (h:=h) hzz
   have hik:i.size=k:=by simpa [br,z1] using hk
   have hib:i.bytes=b:=by simpa [l6,z1] using hbb
   have hcs:zv.cells.size=k:=by rw [z3,hik]
   obtain ⟨d3,d4⟩:=uK r
   have hge:=grownCap_ge w (0+n) 0 e
   obtain ⟨zw,y1,y2,y3,y4⟩:=tp (w:=w.drew) (A:=aH w.drew X h ρ) hk hzz n (grownCap w (0+n) 0 e) (by omega)
   have hzv:zw=zv:=by
    have h5:=y1 w
    rw [G9 z1 z2 w] at h5
    exact (Result.ok.inj h5).1.symm
   subst hzv
   obtain ⟨rfl,ρ',q1,q2,q3⟩:=l8 (t:=e) (cap:=grownCap w (0+n) 0 e) d3 hdp y4 y3 (by omega) (by rw [y2]) hr
   refine ⟨_,_,?_,ρ',q1,d4.trans q2,q3⟩
   have hnb:n≤140737488355328:=by
    have:n*1≤n*b:=Nat.mul_le_mul_left n hb0
    omega
   have hw:IntKind.i64.wrap (n:Int)=n:=by simp [IntKind.wrap,IntKind.signed,IntKind.bits]; omega
   have hn1:n ≠ 0:=by omega
   have h48:¬ (281474976710656 < (n:Int)*i.bytes):=by
    rw [hib]
    have:=Int.ofNat_le.2 hfit
    rw [Int.natCast_mul] at this
    omega
   have hmax:¬ ((9223372036854775807:Int) < (n:Int)):=by omega
   have hns:¬ (281474976710656 < Builtin.nextslicecap n 0*i.bytes):=by
    have:=growslice_fits (need:=n) (old:=0) (bytes:=i.bytes) (by omega) (by rw [hib]; exact hfit)
    omega
   have hb':i.bytes ≠ 0:=by omega
   have hk':i.size ≠ 0:=by omega
   have hneg:¬ ((n:Int) < 0):=by omega
   have hli:∀ w:World,(asInt (.int .i64 (n:Int))).run P w=.ok (n:Int) w:=fun _=>rfl
   simp only [Nat.zero_add] at hge ⊢
   simp [Builtin.append_,run_underlying ht,run_underlying hu,sizeOf,typeInfo,zeroValue,z1,z2,hli,hw,hn1,h48,hmax,hns,hb',hneg,Question.forced,newRow,grownCap,fH]
   rw [if_neg (by rw [Nat.mul_eq_zero]; omega)]
   have hz2:=Wh (z:=zw.cells) (n:=n) (c:=grownCap w n 0 e) hge
   rw [hcs] at hz2
   unfold grownCap at hz2
   rw [hz2,hcs]
  ·cases hr
 ·rename_i id k' lo i c m
  obtain ⟨a,rfl,hp,hn,hbd,ha⟩:=hx.rsc_inv
  obtain ⟨rfl,_⟩:=hy.v_inv
  split at hr
  ·rename_i hcond
   obtain ⟨rfl,rfl,hm0,hroom⟩:=hcond
   obtain ⟨n,rfl⟩:=Int.eq_ofNat_of_zero_le (show 0≤m by omega)
   rw [Int.toNat_natCast] at hr hroom
   cases eo:h id <;> rw [eo] at hr <;> simp only [GV] at hr <;> try (cases hr; done)
   rename_i k2 rows
   split at hr
   ·rename_i hcond2
    obtain ⟨rfl,hle,hfit⟩:=hcond2
    have ho:=r.ob id
    rw [eo] at ho
    obtain ⟨us,t0,g1,g2,g3,g4⟩:=ho
    obtain ⟨ii,zv,z1,z2,z3,z4,_⟩:=jN (w:=w) (A:=aH w X h ρ) (ρ:=ρ) (h:=h) hzz
    have hik:ii.size=k2:=by simpa [br,z1] using hk
    have hib:ii.bytes=b:=by simpa [l6,z1] using hbb
    have hcs:zv.cells.size=k2:=by rw [z3,hik]
    have hlt:(rows.take i).length=i:=by rw [List.length_take]; omega
    obtain ⟨old,o1,o2,o3⟩:∃ old:List Value,old.length=(rows.take i).length*k2∧(∀ w2:World,w2.heap=w.heap→(Builtin.firstCells k2 i (.slice a i c)).run P w2=.ok old.toArray w2)∧bT w (aH w X h ρ) k2 (rows.take i) old.toArray:=by
     rw [hlt]
     by_cases hr0:i=0
     ·subst hr0
      exact ⟨[],by simp,fun w2 _=>fH _ _ _ _ _,fun q row hq=>by simp at hq⟩
     ·rcases ha with h9 | rfl
      ·omega
      ·obtain ⟨old,f1,f2,f3⟩:=pX (P:=P) (w:=w) (A:=aH w X h ρ) (o:=0) (n:=i) (l:=i) (cap:=c) g1 g4 (by omega) h0
       exact ⟨old,f1,fun w2 h2=>f2 _ h2,by simpa using f3⟩
    obtain ⟨zw,y1,y2,y3,y4⟩:=tp (w:=w) (A:=aH w X h ρ) hk hzz n n (Nat.le_refl _)
    have hzv:zw=zv:=by
     have h5:=y1 w
     rw [G9 z1 z2 w] at h5
     exact (Result.ok.inj h5).1.symm
    subst hzv
    have hnews:Builtin.zeroCells zw.cells n=(Array.range (n*k2)).map (zw.cells[· % zw.cells.size]!):=by
     unfold Builtin.zeroCells
     rw [hcs]
    have hz4:bT w (aH w X h ρ) k2 (List.replicate n zs) (Builtin.zeroCells zw.cells n).toList.toArray:=by
     rw [Array.toArray_toList,hnews]
     exact y4
    obtain ⟨d3,d4⟩:=uK r
    have hge:=grownCap_ge w (i+n) c e
    have hl2:(Builtin.zeroCells zw.cells n).toList.length=(List.replicate n zs).length*k2:=by rw [hnews]; simp
    have hrows:=Bs (w:=w) (A:=aH w X h ρ) (Builtin.zeroCells zw.cells (grownCap w (i+n) c e - (i+n))) o3 o1 hz4 hl2
    have hsz:(old.toArray++(Builtin.zeroCells zw.cells n).toList.toArray++Builtin.zeroCells zw.cells (grownCap w (i+n) c e - (i+n))).size=grownCap w (i+n) c e*k2:=by
     simp only [Array.size_append,List.size_toArray,size_zeroCells,hcs,o1,hlt,hl2,List.length_replicate,← Nat.add_mul]
     congr 1
     omega
    have hlen:(rows.take i++List.replicate n zs).length=i+n:=by rw [List.length_append,hlt,List.length_replicate]
    obtain ⟨rfl,ρ',q1,q2,q3⟩:=l8 (t:=e) (cap:=grownCap w (i+n) c e) d3 hdp (hrows.mono fun b hb=>d4.al hb) (by rw [hsz,hlen]; exact Nat.mul_le_mul_right k2 hge) hge hsz.symm hr
    refine ⟨_,_,?_,ρ',q1,d4.trans q2,q3⟩
    have hnb:(i+n)*1≤(i+n)*b:=Nat.mul_le_mul_left _ hb0
    have hw:IntKind.i64.wrap (n:Int)=n:=by simp [IntKind.wrap,IntKind.signed,IntKind.bits]; omega
    have hn1:n ≠ 0:=by omega
    have hnb2:n*b≤(i+n)*b:=Nat.mul_le_mul_right b (by omega)
    have h48:¬ (281474976710656 < (n:Int)*ii.bytes):=by
     rw [hib]
     have:=Int.ofNat_le.2 (Nat.le_trans hnb2 hfit)
     rw [Int.natCast_mul] at this
     omega
    have hmax:¬ ((9223372036854775807:Int) < (i:Int)+(n:Int)):=by omega
    have hcap:¬ (i+n≤c):=by omega
    have hns:¬ (281474976710656 < Builtin.nextslicecap (i+n) c*ii.bytes):=by
     have:=growslice_fits (need:=i+n) (old:=c) (bytes:=ii.bytes) (by omega) (by rw [hib]; exact hfit)
     omega
    have hb':ii.bytes ≠ 0:=by omega
    have hk':ii.size ≠ 0:=by omega
    have hneg:¬ ((n:Int) < 0):=by omega
    have hli:∀ w:World,(asInt (.int .i64 (n:Int))).run P w=.ok (n:Int) w:=fun _=>rfl
    have ho2:=o2 w.drew rfl
    simp [Builtin.append_,run_underlying ht,run_underlying hu,sizeOf,typeInfo,zeroValue,z1,z2,hli,hw,h48,hmax,hns,hb',hneg,hcap,Question.forced,newRow,grownCap,hik,ho2]
    intro h9
    rw [Nat.mul_eq_zero] at h9
    omega
   ·cases hr
  ·cases hr
 ·cases hr
end
section
variable {P:Program} {w w':World} {X:Nat→Prop} {ρ ρ':bB} {h h':ab} {s:ag} {a:Act}
theorem Ej (hs:RS w (aH w X h ρ) ρ h s a.tmps):∀ (ps:List (Nat × Operand)) (q:List (Nat × Opd)),yv ps=some q→q.length=ps.length ∧
  ∀ (m:Nat) (p:Nat × Opd) (v:Nat × Operand),q[m]?=some p→ps[m]?=some v→v.1=p.1∧RV w (aH w X h ρ) ρ h (ev s p.2) (a.eval v.2)
 | [],q,hq=>by simp [yv] at hq; subst hq; exact ⟨rfl,fun m p v h1=>by simp at h1⟩
 | (i,x)::ps,q,hq=>by
  simp only [yv,Option.bind_eq_some_iff] at hq
  obtain ⟨y,h1,q',h2,h3⟩:=hq
  cases h3
  obtain ⟨g1,g2⟩:=Ej hs ps q' h2
  refine ⟨by simp [g1],fun m p v e1 e2=>?_⟩
  cases m with
  | zero=>simp at e1 e2; subst e1 e2; exact ⟨rfl,aU h1 hs⟩
  | succ m=>exact g2 m p v (by simpa using e1) (by simpa using e2)
theorem kC {α:Type} {x:Option α} {f:α→POp} {y:AOp} (hc:(x.map fun a=>AOp.p (f a))=some y):∃ p,y=.p p:=by
 simp only [Option.map_eq_some_iff] at hc
 obtain ⟨a,_,h⟩:=hc
 exact ⟨_,h.symm⟩
theorem cJ {α:Type} {x:Option α} {f:α→Option AOp} {y:AOp} (hf:∀ a,f a=some y→∃ p,y=.p p) (hc:x.bind f=some y):∃ p,y=.p p:=by
 simp only [Option.bind_eq_some_iff] at hc
 obtain ⟨a,_,h⟩:=hc
 exact hf a h
theorem aik {c:Prop} [Decidable c] {p:POp} {y:AOp} (hc:(if c then none else some (AOp.p p))=some y):∃ p,y=.p p:=by
 split at hc
 ·cases hc
 ·cases hc; exact ⟨_,rfl⟩
theorem Wi {u:TypeId} (h:VL P u=true):P.underlying u=some (.int .i64):=by
 unfold VL at h
 split at h
 ·assumption
 ·cases h
theorem abW {op:Op} {aop:AOp} {call:dG} {md:Mode} (hc:Bm P op=some aop) (hnc:∀ f zas,aop ≠ .call f zas) (r:Rel w X ρ h) (hs:RS w (aH w X h ρ) ρ h s a.tmps) {d:Nat} (hdp:aY d=false) {z:AV} {ks:K}
  (hz:step call md d aop s h=some (z,h',ks)) (o:Oper) (ho:o.op=op) :
  ∃ nx v w',(execOp a.eval o).run P w=.ok nx w'∧(nx=.value v∨(nx=.skip∧v=undef))∧Got w X ρ h w' h' ks z v:=by
 have fin:∀ {m:Sem Value},(∃ v w',m.run P w=.ok v w'∧Got w X ρ h w' h' ks z v)→∃ nx v w',(do pure (.value (← m)):Sem Next).run P w=.ok nx w'∧(nx=.value v∨(nx=.skip∧v=undef))∧Got w X ρ h w' h' ks z v:=by
  intro m hm
  obtain ⟨v,w',h1,h2⟩:=hm
  exact ⟨_,v,w',by rw [Sem.run_bind,h1]; rfl,.inl rfl,h2⟩
 by_cases hp:∃ pop,aop=.p pop
 ·obtain ⟨pop,rfl⟩:=hp
  simp only [step,vO,Option.map_eq_some_iff,Prod.mk.injEq] at hz
  obtain ⟨z',h1,rfl,rfl,rfl⟩:=hz
  obtain ⟨v,g1,g2⟩:=V0 hc hs h1 o ho
  exact ⟨_,v,w,g1,.inl rfl,ρ,r,.refl _ _ _,g2⟩
 ·cases op <;> simp only [Bm] at hc
  case alloc =>
   simp only [Option.map_eq_some_iff] at hc
   obtain ⟨zs,h1,h2⟩:=hc
   cases h2
   simp only [execOp,ho]
   exact fin (Ta r h1 hdp hz)
  case box =>
   simp only [Option.bind_eq_some_iff,Option.map_eq_some_iff] at hc
   obtain ⟨k,h1,y,h2,h3⟩:=hc
   cases h3
   simp only [execOp,ho]
   exact fin (V5 r hdp (aU h2 hs) hz)
  case buildSlice t n ps =>
   simp only [C8,Option.bind_eq_some_iff] at hc
   obtain ⟨e,h1,k,h2,hc⟩:=hc
   split at hc
   ·rename_i hn
    simp only [Option.bind_eq_some_iff,Option.map_eq_some_iff] at hc
    obtain ⟨zs,h3,q,h4,h5⟩:=hc
    cases h5
    obtain ⟨g1,g2⟩:=Ej hs _ _ h4
    simp only [execOp,ho]
    simp only [step] at hz
    refine fin (MG r hdp h1 h2 h3 hn.1 (by simp [g1]) (fun m p v e1 e2=>?_) hz)
    simp only [List.getElem?_map,Option.map_eq_some_iff] at e1
    obtain ⟨p',e3,rfl⟩:=e1
    simp only [Array.getElem?_map,Option.map_eq_some_iff] at e2
    obtain ⟨v',e4,rfl⟩:=e2
    exact g2 m p' v' e3 (by simpa using e4)
   ·cases hc
  case makeSlice t l c =>
   simp only [Ot,Option.bind_eq_some_iff] at hc
   obtain ⟨l',h1,c',h2,e,h3,k,h4,b,h5,hc⟩:=hc
   split at hc
   ·simp only [Option.map_eq_some_iff] at hc
    obtain ⟨zs,h6,h7⟩:=hc
    cases h7
    simp only [execOp,ho]
    exact fin (V7 r hdp h3 h4 h5 h6 (aU h1 hs) (aU h2 hs) hz)
   ·cases hc
  case load t x =>
   simp only [Option.bind_eq_some_iff] at hc
   obtain ⟨g,h1,k,h2,y,h3,hc⟩:=hc
   split at hc
   ·cases hc
    obtain ⟨ad,v,g1,g2,g3,g4,g5⟩:=Eg (P:=P) r h1 h2 (aU h3 hs) hz
    simp only [execOp,ho]
    exact fin ⟨v,w,by rw [g1]; exact g2,ρ,g3,g4,g5⟩
   ·cases hc
  case store t x y =>
   simp only [Option.bind_eq_some_iff,Option.map_eq_some_iff] at hc
   obtain ⟨k,h1,x',h2,y',h3,h4⟩:=hc
   cases h4
   obtain ⟨ad,w',ρ',rfl,g1,g2,g3,g4⟩:=Pc (P:=P) r h1 (aU h2 hs) (aU h3 hs) hz
   simp only [execOp,ho]
   refine ⟨.skip,undef,w',?_,.inr ⟨rfl,rfl⟩,ρ',g3,g4,.und⟩
   have:(Instr.storeAt t (a.eval x) (a.eval y)).run P w=.ok () w':=by rw [g1]; exact g2
   rw [Sem.run_bind,this]
   rfl
  case call c =>
   unfold Ow at hc
   split at hc
   ·rename_i b hb
    have run:∀ (args:Array Value),args=c.args.map a.eval→(execOp a.eval o).run P w=(builtin b c.argTypes o.type (c.args.map fun | .const _=>true | _=>false) args).run P w:=by
     intro args he
     subst he
     simp only [execOp,ho,resolve,hb,Sem.run_bind,Sem.run_pure,Result.andThen,invoke]
     rfl
    unfold zk at hc
    split at hc
    ·exact absurd (cJ (fun _ h=>kC h) hc) hp
    ·exact absurd (cJ (fun _ h=>kC h) hc) hp
    ·exact absurd (cJ (fun _ h=>kC h) hc) hp
    ·exact absurd (cJ (fun _ h=>kC h) hc) hp
    ·unfold VM at hc
     split at hc
     ·rename_i t u x y e1 e2
      have hargs:c.args.map a.eval=#[a.eval x,a.eval y]:=Array.toList_inj.1 (by simp [e2])
      have hts:c.argTypes=#[t,u]:=Array.toList_inj.1 (by simp [e1])
      split at hc
      ·rename_i hi64
       simp only [Ou,Option.bind_eq_some_iff] at hc
       obtain ⟨e,q1,k,q3,b,q4,x',q5,y',q6,zs,hzs,hc⟩:=hc
       split at hc
       ·rename_i hcond
        cases hc
        rw [run _ rfl,hargs,hts]
        exact fin (Tf r hdp (jQ q1) (Wi hi64) q3 q4 hzs hcond.1 hcond.2 (aU q5 hs) (aU q6 hs) hz)
       ·cases hc
      ·simp only [Option.bind_eq_some_iff] at hc
       obtain ⟨e,q1,e',q2,k,q3,b,q4,x',q5,y',q6,hc⟩:=hc
       split at hc
       ·rename_i hcond
        cases hc
        obtain ⟨zs,hzs⟩:=Option.isSome_iff_exists.1 hcond.2.2
        rw [run _ rfl,hargs,hts]
        exact fin (Wa r (jQ q1) (jQ q2) q3 q4 hzs hcond.1 hcond.2.1 hdp (aU q5 hs) (aU q6 hs) hz)
       ·cases hc
     ·cases hc
    ·unfold Ov at hc
     split at hc
     ·rename_i t u x y e1 e2
      simp only [Option.bind_eq_some_iff] at hc
      obtain ⟨e,q1,k,q3,x',q5,y',q6,hc⟩:=hc
      split at hc
      ·rename_i hcond
       cases hc
       have hargs:c.args.map a.eval=#[a.eval x,a.eval y]:=Array.toList_inj.1 (by simp [e2])
       have hts:c.argTypes=#[t,u]:=Array.toList_inj.1 (by simp [e1])
       rw [run _ rfl,hargs,hts]
       obtain ⟨v,w',g1,g2⟩:=Wd (P:=P) (u:=u) (ty:=o.type) r (jQ q1) q3 hcond (aU q5 hs) (aU q6 hs) hz
       refine ⟨.value v,v,w',?_,.inl rfl,g2⟩
       show (do pure (.value (← Builtin.copy_ #[t,u] o.type #[a.eval x,a.eval y])):Sem Next).run P w=_
       rw [Sem.run_bind,g1]
       rfl
      ·cases hc
     ·cases hc
    ·unfold G2 at hc
     split at hc
     ·rename_i t x e1 e2
      simp only [Option.bind_eq_some_iff] at hc
      obtain ⟨e,q1,k,q3,x',q5,zs,hzs,hc⟩:=hc
      split at hc
      ·rename_i hcond
       cases hc
       have hargs:c.args.map a.eval=#[a.eval x]:=Array.toList_inj.1 (by simp [e2])
       have hts:c.argTypes=#[t]:=Array.toList_inj.1 (by simp [e1])
       rw [run _ rfl,hargs,hts]
       exact fin (Wg (P:=P) (ty:=o.type) r (jQ q1) q3 hzs hcond (aU q5 hs) hz)
      ·cases hc
     ·cases hc
    ·cases hc
   ·simp only [Option.bind_eq_some_iff,Option.map_eq_some_iff] at hc
    obtain ⟨_,_,_,_,h9⟩:=hc
    exact absurd h9.symm (hnc _ _)
   ·cases hc
  case makeFunc fn _ _ =>
   cases fn
   ·exact absurd (cJ (fun _ h=>kC h) hc) hp
   all_goals cases hc
  all_goals first
   | (cases hc; done)
   | exact absurd (kC hc) hp
   | exact absurd (cJ (fun _ h=>kC h) hc) hp
   | exact absurd (cJ (fun _ h=>cJ (fun _ h=>kC h) h) hc) hp
   | exact absurd (cJ (fun _ h=>cJ (fun _ h=>cJ (fun _ h=>kC h) h) h) hc) hp
   | exact absurd (cJ (fun _ h=>cJ (fun _ h=>cJ (fun _ h=>cJ (fun _ h=>kC h) h) h) h) hc) hp
   | exact absurd (cJ (fun _ h=>cJ (fun _ h=>cJ (fun _ h=>aik h) h) h) hc) hp
theorem YW {op:Op} {hint aop:AOp} {call:dG} {md:Mode} (hc:O6 P hint op=some aop) (hnc:∀ f zas,aop ≠ .callC f zas) (r:Rel w X ρ h) (hs:RS w (aH w X h ρ) ρ h s a.tmps) {d:Nat} (hdp:aY d=false) {z:AV} {ks:K}
  (hz:step call md d aop s h=some (z,h',ks)) (o:Oper) (ho:o.op=op) :
  (∃ nx v w',(execOp a.eval o).run P w=.ok nx w'∧(nx=.value v∨(nx=.skip∧v=undef))∧Got w X ρ h w' h' ks z v)∧∀ f zas,aop ≠ .call f zas:=by
 have fin:∀ {m:Sem Value},(∃ v w',m.run P w=.ok v w'∧Got w X ρ h w' h' ks z v)→∃ nx v w',(do pure (.value (← m)):Sem Next).run P w=.ok nx w'∧(nx=.value v∨(nx=.skip∧v=undef))∧Got w X ρ h w' h' ks z v:=by
  intro m hm
  obtain ⟨v,w',h1,h2⟩:=hm
  exact ⟨_,v,w',by rw [Sem.run_bind,h1]; rfl,.inl rfl,h2⟩
 unfold O6 at hc
 split at hc
 ·rename_i t x lo hi
  simp only [Option.bind_eq_some_iff] at hc
  obtain ⟨e,q1,k,q2,x',q3,lo',q4,hi',q5,hc⟩:=hc
  split at hc
  ·rename_i h0
   cases hc
   refine ⟨?_,fun f zas h=>by cases h⟩
   simp only [execOp,ho]
   obtain ⟨v,g1,g2⟩:=Td (P:=P) r (jQ q1) q2 h0 (aU q3 hs) (lh q4 hs) (lh q5 hs) hz
   exact fin ⟨v,w,g1,g2⟩
  ·cases hc
 ·split at hc
  ·simp only [Option.bind_eq_some_iff,Option.map_eq_some_iff] at hc
   obtain ⟨f,_,l,_,hc⟩:=hc
   exact absurd hc.symm (hnc _ _)
  ·cases hc
 ·rename_i t x
  simp only [Option.bind_eq_some_iff] at hc
  obtain ⟨g,q1,x',q2,hc⟩:=hc
  split at hc
  ·cases hc
  ·rename_i hg
   cases hc
   refine ⟨?_,fun f zas h=>by cases h⟩
   obtain ⟨ad,v,g1,g2,g3⟩:=Wf (P:=P) r (by simpa [Bool.not_eq_true] using (by cases g with | true=>exact absurd rfl hg | false=>exact q1:mJ P t=some false)) hdp (aU q2 hs) hz
   simp only [execOp,ho]
   exact fin ⟨v,w,by rw [g1]; exact g2,g3⟩
 ·cases hc
end
structure Inv where
 p:World→(Nat→Prop)→Prop
 stab:∀ {w w':World} {X:Nat→Prop},p w X→(∀ b,X b→w'.heap[b]?=w.heap[b]?)→p w' X
 more:∀ {w:World} {X X':Nat→Prop},p w X→(∀ b,X b→X' b)→p w X'
structure Far (nm:Bool) (w:World) (ρ:bB) (h:ab) (w':World) (ρ':bB) (h':ab):Prop where
 os:w'.os=w.os
 tape:w'.tape=w.tape
 output:w'.output=w.output
 size:w.heap.size≤w'.heap.size
 old:∀ b,b < w.heap.size→¬ l5 h ρ b→w'.heap[b]?=w.heap[b]?
 fresh:∀ b,l5 h' ρ' b→l5 h ρ b∨w.heap.size≤b
 stay:∀ id,aY id=true→h' id ≠ .dead→h id ≠ .dead∧ρ' id none=ρ id none
 keep:nm=true→∀ id p,aY id=true→h' id ≠ .dead→bM h id (some p)→bM h' id (some p)∧ρ' id (some p)=ρ id (some p)
theorem abX {nm:Bool} {ks:K} (h:lA nm ks=true) (hn:nm=true) {id:Nat} (hp:aY id=true) (s:Option Nat):fF ks id s=false:=by
 subst hn
 simp only [lA,Bool.not_true,Bool.false_or,List.all_eq_true,Bool.not_eq_true'] at h
 simp only [fF,List.any_eq_false,Bool.and_eq_true,beq_iff_eq,not_and]
 intro p hm e
 subst e
 rw [h p hm] at hp
 cases hp
theorem Evo.far {nm:Bool} {w w':World} {ρ ρ':bB} {h h':ab} {ks:K} (e:Evo w ρ h w' ρ' h' ks) (hn:lA nm ks=true):Far nm w ρ h w' ρ' h' :=
 ⟨e.os,e.tape,e.output,e.size,e.old,e.fresh,e.stay,fun h1 id p hp _ h2=>e.keep id (some p) h2 (abX hn h1 hp _)⟩
theorem ke (nm:Bool):lA nm []=true:=by cases nm <;> rfl
theorem Far.refl (nm:Bool) (w:World) (ρ:bB) (h:ab):Far nm w ρ h w ρ h:=(Evo.refl w ρ h).far (ke nm)
theorem Far.trans {nm:Bool} {w w' w'':World} {ρ ρ' ρ'':bB} {h h' h'':ab} (a:Far nm w ρ h w' ρ' h') (b:Far nm w' ρ' h' w'' ρ'' h''):Far nm w ρ h w'' ρ'' h'' :=
 ⟨b.os.trans a.os,b.tape.trans a.tape,b.output.trans a.output,Nat.le_trans a.size b.size,
  fun x hx ho=>(b.old x (Nat.lt_of_lt_of_le hx a.size) (fun o=>by rcases a.fresh x o with o | o; exact ho o; omega)).trans (a.old x hx ho),
  fun x o=>by
   rcases b.fresh x o with o | o
   ·exact a.fresh x o
   ·exact .inr (Nat.le_trans a.size o),
  fun id hp hd=>by
   obtain ⟨h1,h2⟩:=b.stay id hp hd
   obtain ⟨h3,h4⟩:=a.stay id hp h1
   exact ⟨h3,h2.trans h4⟩,
  fun hn id p hp hd h1=>by
   obtain ⟨h2,h3⟩:=a.keep hn id p hp (b.stay id hp hd).1 h1
   obtain ⟨h4,h5⟩:=b.keep hn id p hp hd h2
   exact ⟨h4,h5.trans h3⟩⟩
theorem Far.inv {I:Inv} {nm:Bool} {w w':World} {X:Nat→Prop} {ρ ρ':bB} {h h':ab} (f:Far nm w ρ h w' ρ' h') (r:Rel w X ρ h) (hi:I.p w X):I.p w' X :=
 I.stab hi fun b hb=>f.old b (r.xl b hb) fun ⟨id,sub,hl,e⟩=>r.nx id sub hl (e ▸ hb)
theorem Evo.inv {I:Inv} {w w':World} {X:Nat→Prop} {ρ ρ':bB} {h h':ab} {ks:K} (f:Evo w ρ h w' ρ' h' ks) (r:Rel w X ρ h) (hi:I.p w X):I.p w' X:=(f.far (nm:=false) rfl).inv r hi
def Enters (P:Program) (f:FuncId) (vals:Array Value) (w:World) (R:Value→World→Prop):Prop :=
 match (callFunc f vals).run P w with
 | .ok (.value v) w'=>R v w'
 | .ok (.enter g args) w'=>Calls P g args w' fun e w''=>match e with | .returned v=>R v w'' | _=>False
 | .ok (.row row args) w'=>Rows P row args w' R
 | _=>False
theorem Enters.mono {P:Program} {f:FuncId} {vals:Array Value} {w:World} {R R':Value→World→Prop} (h:Enters P f vals w R) (hr:∀ v w',R v w'→R' v w'):Enters P f vals w R':=by
 unfold Enters at *
 split at h
 ·exact hr _ _ h
 ·exact Calls.mono h fun e w' he=>by cases e <;> first | exact hr _ _ he | exact he
 ·exact Rows.mono h hr
 ·exact h.elim
def iL (P:Program) (I:Inv) (call:dG) (md:Mode):Prop :=
 ∀ {w:World} {X:Nat→Prop} {ρ:bB} {h h':ab} {d:Nat} {f z:AV} {zas:List AV} {ks:K} {uf:Value} {us:Array Value},d < 1000→I.p w X→Rel w X ρ h→RV w (aH w X h ρ) ρ h f uf→us.size=zas.length →
  (∀ (i:Nat) (c:AV) (u:Value),zas[i]?=some c→us[i]?=some u→RV w (aH w X h ρ) ρ h c u)→bA call md h d zas f=some (z,h',ks) →
  ∃ g first cap,uf=.func (.func g) first cap∧Enters P g (first++us++cap) w fun v w'=>Got w X ρ h w' h' ks z v
section
variable {P:Program} {w:World} {X:Nat→Prop} {ρ:bB} {h:ab} {s:ag} {a:Act} {call:dG} {md:Mode} {N:Nat} {ops:Array Oper} {Q:Exit→Act→World→Prop} {I:Inv}
structure Ok (I:Inv) (N:Nat) (w:World) (X:Nat→Prop) (ρ:bB) (h:ab) (s:ag) (a:Act):Prop where
 rel:Rel w X ρ h
 rs:RS w (aH w X h ρ) ρ h s a.tmps
 size:N≤a.tmps.size
 defers:a.defers=[]
 inv:I.p w X
theorem Ok.put {w':World} {ρ':bB} {h':ab} {ks:K} {z:AV} {v:Value} (ok:Ok I N w X ρ h s a) (r:Rel w' X ρ' h') (e:Evo w ρ h w' ρ' h' ks) (hv:RV w' (aH w' X h' ρ') ρ' h' z v) {d:Option Nat} (hd:d.getD 0 < N) :
  Ok I N w' X ρ' h' (di (gl ks s) d z) (a.put d v):=by
 have h1:=e.rs (X:=X) ok.rs
 cases d with
 | none=>exact ⟨r,h1,ok.size,ok.defers,e.inv ok.rel ok.inv⟩
 | some d=>exact ⟨r,h1.upd (Nat.lt_of_lt_of_le hd ok.size) hv,by simpa [Act.put] using ok.size,ok.defers,e.inv ok.rel ok.inv⟩
theorem YX {d:Nat} (hd:d < 1000):aY d=false:=by simp only [aY,decide_eq_false_iff_not]; omega
theorem Un (hcall:iL P I call md) (hN:N≤1000) {o:Oper} {c:Call} {fo:Operand} {f:Opd} {zas:List Opd} (ho:o.op=.call c) (hfo:c.callee=.value fo) (h1:bQ fo=some f) (h2:lE c.args.toList=some zas)
  (hd:o.dst.getD 0 < N) (ok:Ok I N w X ρ h s a) {z:AV} {h':ab} {ks:K} (hz:bA call md h (o.dst.getD 0) (zas.map (ev s)) (ev s f)=some (z,h',ks))
  {K':Act→World→Prop} (fin:∀ v w',Got w X ρ h w' h' ks z v→K' (a.put o.dst v) w'):o.wp P a w K' Q:=by
 obtain ⟨l1,l2⟩:=qm ok.rs h2
 obtain ⟨g,first,cap,e1,e2⟩:=hcall (us:=c.args.map a.eval) (Nat.lt_of_lt_of_le hd hN) ok.inv ok.rel (aU h1 ok.rs) (by simp [l1]) (fun i c' u hc' hu=>by
  simp only [List.getElem?_map,Option.map_eq_some_iff] at hc'
  obtain ⟨p,hp,rfl⟩:=hc'
  simp only [Array.getElem?_map,Option.map_eq_some_iff] at hu
  obtain ⟨q,hq,rfl⟩:=hu
  exact l2 i q p (by simpa using hq) hp) hz
 have hrun:(execOp a.eval o).run P w=(callFunc g (first++c.args.map a.eval++cap)).run P w:=by
  simp only [execOp,ho,resolve,hfo,e1,Deferred.ofValue,invoke,Sem.run_bind,Sem.run_pure,Result.andThen]
 unfold Oper.wp
 rw [hrun]
 unfold Enters at e2
 generalize (callFunc g (first++c.args.map a.eval++cap)).run P w=res at e2
 cases res with
 | ok n w' =>
  cases n <;> simp only at e2
  case value v=>exact fin _ _ e2
  case enter g' args' =>
   show Calls P g' args' w' _
   exact Calls.mono e2 fun e w'' he=>by cases e <;> first | exact fin _ _ he | exact he.elim
  case row row args'=>exact Rows.mono e2 fin
 | halt x w'=>cases e2
theorem Wj {d:Nat} {r z:R3} {w':World} {v:Value} (hg:Got w X ρ h w' r.2.1 r.2.2 r.1 v) (hz:qF d r=some z):Got w X ρ h w' z.2.1 z.2.2 z.1 v:=by
 obtain ⟨x,h1,k1⟩:=r
 unfold qF at hz
 split at hz
 ·rename_i id k lo n he
  split at hz
  ·simp only [Option.map_eq_some_iff] at hz
   obtain ⟨q,e1,rfl⟩:=hz
   obtain ⟨y,h2,k2⟩:=q
   obtain ⟨ρ',g1,g2,g3⟩:=hg
   simp only at he
   subst he
   obtain ⟨a,cap,rfl,_⟩:=g3.rsl_inv
   obtain ⟨f1,f2,f3⟩:=uJ g1 g3 (fun _ hb=>hb) rfl e1
   exact ⟨ρ',f1,g2.trans f2,.dat f3.1⟩
  ·cases hz
 ·cases hz
  exact hg
theorem akC (hcall:iL P I call md) (hN:N≤1000) {o:Oper} {hint aop:AOp} (hc:abQ P hint o.op=some aop) (hd:o.dst.getD 0 < N) (ok:Ok I N w X ρ h s a) {z:AV} {h':ab} {ks:K} (hz:step call md (o.dst.getD 0) aop s h=some (z,h',ks)) (hnm:lA md.nm ks=true)
  {K':Act→World→Prop} (hK:∀ a' w' ρ',Ok I N w' X ρ' h' (di (gl ks s) o.dst z) a'→Far md.nm w ρ h w' ρ' h'→K' a' w'):o.wp P a w K' Q:=by
 have hdp:aY (o.dst.getD 0)=false:=YX (Nat.lt_of_lt_of_le hd hN)
 unfold abQ at hc
 cases halt:O6 P hint o.op with
 | some a0 =>
  rw [halt] at hc
  obtain rfl:=Option.some.inj hc
  by_cases hcc:∃ f zas,a0=.callC f zas
  ·obtain ⟨f,zas,rfl⟩:=hcc
   have hop:∃ c fo,o.op=.call c∧c.callee=.value fo∧bQ fo=some f∧lE c.args.toList=some zas:=by
    unfold O6 at halt
    split at halt
    ·simp only [Option.bind_eq_some_iff] at halt
     obtain ⟨_,_,_,_,_,_,_,_,_,_,halt⟩:=halt
     split at halt <;> cases halt
    ·rename_i c hop
     split at halt
     ·rename_i fo hfo
      simp only [Option.bind_eq_some_iff,Option.map_eq_some_iff] at halt
      obtain ⟨f',h1,l,h2,h3⟩:=halt
      cases h3
      exact ⟨c,fo,hop,hfo,h1,h2⟩
     ·cases halt
    ·simp only [Option.bind_eq_some_iff] at halt
     obtain ⟨_,_,_,_,halt⟩:=halt
     split at halt <;> cases halt
    ·cases halt
   obtain ⟨c,fo,ho,hfo,h1,h2⟩:=hop
   simp only [step,Option.bind_eq_some_iff] at hz
   obtain ⟨r,e1,e2⟩:=hz
   exact Un hcall hN ho hfo h1 h2 hd ok (z:=r.1) (h':=r.2.1) (ks:=r.2.2) e1 fun v w' hg=>by
    obtain ⟨ρ',g1,g2,g3⟩:=Wj hg e2
    exact hK _ _ ρ' (ok.put g1 g2 g3 hd) (g2.far hnm)
  obtain ⟨⟨nx,v,w',g1,g2,ρ',g3,g4,g5⟩,_⟩:=YW halt (fun f zas e=>hcc ⟨f,zas,e⟩) ok.rel ok.rs hdp hz o rfl
  unfold Oper.wp
  rw [g1]
  rcases g2 with rfl | ⟨rfl,rfl⟩
  ·exact hK _ _ ρ' (ok.put g3 g4 g5 hd) (g4.far hnm)
  ·exact hK _ _ ρ' (ok.put g3 g4 g5 hd) (g4.far hnm)
 | none =>
 rw [halt] at hc
 simp only at hc
 replace hc:Bm P o.op=some aop:=by
  simp only [cOp,Option.some.injEq] at hc
  cases h0:Bm P o.op with
  | none=>rw [h0] at hc; simp only [Option.getD_none] at hc; subst hc; cases hz
  | some q=>rw [h0] at hc; simp only [Option.getD_some] at hc; rw [hc]
 by_cases hcl:∃ f zas,aop=.call f zas
 ·obtain ⟨f,zas,rfl⟩:=hcl
  have hop:∃ c fo,o.op=.call c∧c.callee=.value fo∧bQ fo=some f∧lE c.args.toList=some zas:=by
   cases ho:o.op <;> rw [ho] at hc <;> simp only [Bm] at hc
   case call c =>
    unfold Ow at hc
    split at hc
    ·exfalso
     unfold zk at hc
     split at hc
     ·obtain ⟨p,hp⟩:=cJ (fun _ h=>kC h) hc; cases hp
     ·obtain ⟨p,hp⟩:=cJ (fun _ h=>kC h) hc; cases hp
     ·obtain ⟨p,hp⟩:=cJ (fun _ h=>kC h) hc; cases hp
     ·obtain ⟨p,hp⟩:=cJ (fun _ h=>kC h) hc; cases hp
     ·unfold VM at hc
      split at hc
      ·split at hc
       ·simp only [Ou,Option.bind_eq_some_iff] at hc
        obtain ⟨_,_,_,_,_,_,_,_,_,_,_,_,hc⟩:=hc
        split at hc <;> cases hc
       ·simp only [Option.bind_eq_some_iff] at hc
        obtain ⟨_,_,_,_,_,_,_,_,_,_,_,_,hc⟩:=hc
        split at hc <;> cases hc
      ·cases hc
     ·unfold Ov at hc
      split at hc
      ·simp only [Option.bind_eq_some_iff] at hc
       obtain ⟨_,_,_,_,_,_,_,_,hc⟩:=hc
       split at hc <;> cases hc
      ·cases hc
     ·unfold G2 at hc
      split at hc
      ·simp only [Option.bind_eq_some_iff] at hc
       obtain ⟨_,_,_,_,_,_,_,_,hc⟩:=hc
       split at hc <;> cases hc
      ·cases hc
     ·cases hc
    ·rename_i fo hfo
     simp only [Option.bind_eq_some_iff,Option.map_eq_some_iff] at hc
     obtain ⟨f',h1,l,h2,h3⟩:=hc
     cases h3
     exact ⟨c,fo,rfl,hfo,h1,h2⟩
    ·cases hc
   case makeFunc fn _ _ =>
    cases fn
    ·obtain ⟨p,hp⟩:=cJ (fun _ h=>kC h) hc; cases hp
    all_goals cases hc
   case alloc=>simp [Option.map_eq_some_iff] at hc
   case box=>simp [Option.bind_eq_some_iff] at hc
   case buildSlice =>
    simp only [C8,Option.bind_eq_some_iff] at hc
    obtain ⟨_,_,_,_,hc⟩:=hc
    split at hc
    ·simp [Option.bind_eq_some_iff] at hc
    ·cases hc
   case makeSlice =>
    simp only [Ot,Option.bind_eq_some_iff] at hc
    obtain ⟨_,_,_,_,_,_,_,_,_,_,hc⟩:=hc
    split at hc
    ·simp at hc
    ·cases hc
   case load =>
    simp only [Option.bind_eq_some_iff] at hc
    obtain ⟨_,_,_,_,_,_,hc⟩:=hc
    split at hc <;> cases hc
   case store=>simp [Option.bind_eq_some_iff] at hc
   all_goals first
    | (cases hc; done)
    | (obtain ⟨p,hp⟩:=kC hc; cases hp; done)
    | (obtain ⟨p,hp⟩:=cJ (fun _ h=>kC h) hc; cases hp; done)
    | (obtain ⟨p,hp⟩:=cJ (fun _ h=>cJ (fun _ h=>kC h) h) hc; cases hp; done)
    | (obtain ⟨p,hp⟩:=cJ (fun _ h=>cJ (fun _ h=>cJ (fun _ h=>kC h) h) h) hc; cases hp; done)
    | (obtain ⟨p,hp⟩:=cJ (fun _ h=>cJ (fun _ h=>cJ (fun _ h=>cJ (fun _ h=>kC h) h) h) h) hc; cases hp; done)
    | (obtain ⟨p,hp⟩:=cJ (fun _ h=>cJ (fun _ h=>cJ (fun _ h=>aik h) h) h) hc; cases hp; done)
  obtain ⟨c,fo,ho,hfo,h1,h2⟩:=hop
  exact Un hcall hN ho hfo h1 h2 hd ok hz fun v w' ⟨ρ',g1,g2,g3⟩=>hK _ _ ρ' (ok.put g1 g2 g3 hd) (g2.far hnm)
 ·obtain ⟨nx,v,w',g1,g2,ρ',g3,g4,g5⟩:=abW hc (fun f zas e=>hcl ⟨f,zas,e⟩) ok.rel ok.rs hdp hz o rfl
  unfold Oper.wp
  rw [g1]
  rcases g2 with rfl | ⟨rfl,rfl⟩
  ·exact hK _ _ ρ' (ok.put g3 g4 g5 hd) (g4.far hnm)
  ·exact hK _ _ ρ' (ok.put g3 g4 g5 hd) (g4.far hnm)
end
section
variable {P:Program} {w w':World} {X:Nat→Prop} {ρ ρ':bB} {h h':ab} {s:ag} {a:Act} {call:dG} {md:Mode} {N:Nat} {ops:Array Oper} {Q:Exit→Act→World→Prop} {A A':Nat→Prop} {I:Inv}
theorem Ok.undef (ok:Ok I N w X ρ h s a) {d:Option Nat} (hd:d.getD 0 < N):Ok I N w X ρ h (di s d .und) (a.put d undef) :=
 ok.put (ks:=[]) ok.rel (.refl _ _ _) .und hd
theorem afm {u:Value} (hv:RV w A ρ h .und u):u=undef:=by
 cases hv with
 | und=>rfl
 | dat hd=>cases hd
theorem abY {nm:Bool} {d:Option Nat} {r:Option R3} {t:St} (hz:cz nm s d r=some t):∃ z h' ks,r=some (z,h',ks)∧lA nm ks=true∧t=⟨di (gl ks s) d z,h'⟩:=by
 unfold cz at hz
 split at hz
 ·split at hz
  ·cases hz; exact ⟨_,_,_,rfl,by assumption,rfl⟩
  ·cases hz
 ·cases hz
theorem zC (hcall:iL P I call md) (hN:N≤1000) {i:Nat} {o:Oper} {co:COp} {hint:AOp} (hget:ops[i]?=some o) (hc:Ox P N ops hint o=some co) (ok:Ok I N w X ρ h s a) {t:St} (hz:iy call md co s h=some t)
  {K':Act→World→Prop} (hK:∀ a' w' ρ',Ok I N w' X ρ' t.h t.s a'→Far md.nm w ρ h w' ρ' t.h→K' a' w'):wpOp P ops Q i K' a w:=by
 simp only [Ox,Option.bind_eq_some_iff] at hc
 obtain ⟨g,e1,op,e2,hc⟩:=hc
 split at hc
 ·rename_i hcond
  cases hc
  simp only [Bool.and_eq_true,decide_eq_true_eq] at hcond
  have hd:=hcond.2
  have run:cz md.nm s o.dst (step call md (o.dst.getD 0) op s h)=some t→o.wp P a w K' Q:=by
   intro hf
   obtain ⟨z,h',ks,f1,f2,rfl⟩:=abY hf
   exact akC hcall hN e2 hd ok f1 f2 hK
  have skip:some (⟨di s o.dst .und,h⟩:St)=some t→K' (a.put o.dst undef) w:=by
   intro hf
   cases hf
   exact hK _ _ ρ (ok.undef hd) (.refl _ _ _ _)
  unfold wpOp
  rw [hget]
  cases hg:o.guard with
  | none =>
   rw [hg] at e1
   simp only [O5,Option.some.injEq] at e1
   subst e1
   simp only [iy] at hz
   simp only [Region.wanted,hg,if_true]
   exact .inl (run hz)
  | some jb =>
   obtain ⟨j,b⟩:=jb
   rw [hg] at e1
   simp only [O5,Option.map_eq_some_iff] at e1
   obtain ⟨d,e3,rfl⟩:=e1
   simp only [iy,gR] at hz
   have hv:=ok.rs d
   simp only [Region.wanted,hg,yielded,e3,Option.bind_some]
   have cell:∀ v,a.tmps.getD d Go.undef=v→v ≠ Go.undef→a.tmps[d]?=some v:=by
    intro v hv hne
    rw [Array.getD_eq_getD_getElem?] at hv
    cases hq:a.tmps[d]? with
    | none=>rw [hq] at hv; exact absurd hv.symm hne
    | some v'=>rw [hq] at hv; simp at hv; rw [hv]
   split at hz
   ·rename_i b' hb'
    rw [hb'] at hv
    rw [cell _ hv.v_inv.1 (by simp [Go.undef])]
    split at hz
    ·rename_i hbb
     subst hbb
     simp only [beq_self_eq_true,if_true]
     exact .inl (run hz)
    ·rename_i hbb
     simp only [beq_iff_eq,Option.some.injEq,hbb,if_false]
     exact skip hz
   ·rename_i hb'
    rw [hb'] at hv
    have hu:=afm hv
    rw [Array.getD_eq_getD_getElem?] at hu
    cases hq:a.tmps[d]? with
    | none=>simpa using skip hz
    | some v'=>rw [hq] at hu; simp at hu; subst hu; simpa [Go.undef] using skip hz
   ·cases hz
 ·cases hc
theorem LR (hcall:iL P I call md) (hN:N≤1000):∀ (rest:List Oper) (cl:List COp) (i:Nat) {hs:List COp} {w:World} {ρ:bB} {h:ab} {s:ag} {a:Act} {t:St},(∀ (j:Nat) (o:Oper),rest[j]?=some o→ops[i+j]?=some o)→l7 P N ops hs rest=some cl→Ok I N w X ρ h s a →
  aF call md cl s h=some t→(∀ a' w' ρ',Ok I N w' X ρ' t.h t.s a'→Far md.nm w ρ h w' ρ' t.h→Q .normal a' w')→wpOps P ops Q (List.range' i rest.length) a w
 | [],cl,i,hs,w,ρ,h,s,a,t,_,hc,ok,hz,hQ=>by
  simp only [l7,Option.some.injEq] at hc
  subst hc
  cases hz
  exact hQ _ _ ρ ok (.refl _ _ _ _)
 | o::rest,cl,i,hs,w,ρ,h,s,a,t,hg,hc,ok,hz,hQ=>by
  simp only [l7,Option.bind_eq_some_iff] at hc
  obtain ⟨co,e1,q,e2,e3⟩:=hc
  cases e3
  simp only [aF,bc] at hz
  rw [List.length_cons,List.range'_succ,wpOps_cons]
  split at hz
  ·cases hz
  ·rename_i t1 ht1
   exact zC hcall hN (by simpa using hg 0 o rfl) e1 ok ht1 fun a' w' ρ' ok' far =>
    LR hcall hN rest q (i+1) (fun j o' hj=>by rw [show i+1+j=i+(j+1) from by omega]; exact hg (j+1) o' (by simpa using hj)) e2 ok' hz fun a'' w'' ρ'' ok'' far'=>hQ _ _ ρ'' ok'' (far.trans far')
theorem Dc {α:Type} (d:α) (f:Nat→α):∀ (l:List Nat) (i:Nat),mk d f l i=if i ∈ l then f i else d
 | [],i=>by simp [mk]
 | j::l,i=>by
  simp only [mk,upd,Dc d f l i,List.mem_cons]
  by_cases e:i=j
  ·subst e; simp
  ·simp [e]
theorem RS.some (hs:RS w A ρ h s a.tmps) {s':ag} (he:∀ i,s' i=s i∨s' i=.any):RS w A ρ h s' a.tmps:=fun i=>by
 rcases he i with e | e
 ·rw [e]; exact hs i
 ·rw [e]; exact .anyv _
theorem Ok.some (ok:Ok I N w X ρ h s a) {s':ag} (he:∀ i,s' i=s i∨s' i=.any):Ok I N w X ρ h s' a:=⟨ok.rel,ok.rs.some he,ok.size,ok.defers,ok.inv⟩
theorem RV.knownL {l:List Nat} {c:AV} {u:Value} (hv:RV w A ρ h c u) (hA:∀ b,A b→A' b∧w'.heap[b]?=w.heap[b]?) (hk:∀ id sub,bM h id sub→l.contains id=true→bM h' id sub∧ρ' id sub=ρ id sub) (hm:knownL l c=true):RV w' A' ρ' h' c u:=by
 cases hv with
 | anyv u=>exact .anyv u
 | und=>exact .und
 | dat hd=>exact .dat (hd.mono hA)
 | ref id sub k i j hp =>
  obtain ⟨h1,h2⟩:=hk id sub hp hm
  rw [← h2]; exact .ref id sub k i j h1
 | rsl id sub k lo n cap a hp hn hb ha =>
  obtain ⟨h1,h2⟩:=hk id sub hp hm
  exact .rsl id sub k lo n cap a h1 hn (by rw [h2]; exact hb) (by rw [h2]; exact ha)
 | rsc id k lo n cap a hp hn hb ha=>simp [Ab.knownL] at hm
 | ipt cs ad vals hA' hs hv hl hr =>
  exact .ipt cs ad vals (hA _ hA').1 hs (fun j c hc=>by rw [jM (w:=w) (w':=w') (by rw [jK]; exact (hA _ hA').2)]; exact hv j c hc) hl (fun j c hc=>(hr j c hc).mono hA)
 | agg cs us hs h1 hr=>simp [Ab.knownL] at hm
 | tup vs us hs hr=>simp [Ab.knownL] at hm
 | fn f x y us ts hs ht hx hy =>
  simp [Ab.knownL] at hm
  obtain ⟨rfl,rfl⟩:=hm
  exact .fn f [] [] us ts hs ht (fun i c u hc=>by simp at hc) (fun i c u hc=>by simp at hc)
theorem RV.knownA {l:List Nat} {c:AV} {u:Value} (hv:RV w A ρ h c u) (hA:∀ b,A b→A' b∧w'.heap[b]?=w.heap[b]?) (hk:∀ id sub,bM h id sub→l.contains id=true→bM h' id sub∧ρ' id sub=ρ id sub) (hm:knownA l c=true):RV w' A' ρ' h' c u:=by
 cases c with
 | agg cs =>
  simp only [Ab.knownA,List.all_eq_true] at hm
  cases hv with
  | dat hd=>exact .dat (hd.mono hA)
  | agg _ us hs h1 hr=>exact .agg cs us hs h1 fun i c u hc hu=>(hr i c u hc hu).knownL hA hk (hm c (List.mem_of_getElem? hc))
 | fn f x y =>
  simp only [Ab.knownA,Bool.and_eq_true,List.all_eq_true] at hm
  cases hv with
  | dat hd=>exact .dat (hd.mono hA)
  | fn _ _ _ us ts hs ht hx hy=>exact .fn f x y us ts hs ht (fun i c u hc hu=>(hx i c u hc hu).knownL hA hk (hm.1 c (List.mem_of_getElem? hc))) (fun i c u hc hu=>(hy i c u hc hu).knownL hA hk (hm.2 c (List.mem_of_getElem? hc)))
 | _=>exact hv.knownL hA hk hm
theorem pI {l:List Nat} {c:AV} (hc:bj l c=true):knownL l c=true:=by
 cases c <;> simp [bj,knownL] at hc ⊢ <;> first | exact hc.1 | exact hc
theorem MH {l:List Nat} {c:AV} (hc:aZ l c=true):knownA l c=true:=by
 cases c with
 | agg cs =>
  simp only [aZ,knownA,List.all_eq_true] at hc ⊢
  exact fun c h=>pI (hc c h)
 | fn f x y =>
  simp only [aZ,knownA,Bool.and_eq_true,List.all_eq_true] at hc ⊢
  exact ⟨fun c h=>pI (hc.1 c h),fun c h=>pI (hc.2 c h)⟩
 | _ =>
  simp only [aZ,knownA] at hc ⊢
  exact pI hc
theorem Pd (nm:Bool) (r:Rel w X ρ h) {hs:List Nat} (hcl:∀ id,id ∈ hs→aT hs (h id)=true):Rel w X ρ (mk .dead h hs)∧Far nm w ρ h w ρ (mk .dead h hs) ∧
  ∀ {c:AV} {u:Value},RV w (aH w X h ρ) ρ h c u→knownA hs c=true→RV w (aH w X (mk .dead h hs) ρ) ρ (mk .dead h hs) c u:=by
 have at_:∀ id,id ∈ hs→mk .dead h hs id=h id:=fun id hi=>by rw [Dc,if_pos hi]
 have not_:∀ id,id ∉ hs→mk .dead h hs id=.dead:=fun id hi=>by rw [Dc,if_neg hi]
 have hl:∀ id sub,live (mk .dead h hs) id sub→id ∈ hs∧live h id sub:=by
  intro id sub h1
  by_cases hi:id ∈ hs
  ·exact ⟨hi,(bZ (at_ id hi)).1 h1⟩
  ·exfalso
   have:=not_ id hi
   cases sub <;> simp [live,this] at h1
 have hA:∀ b,aH w X h ρ b→aH w X (mk .dead h hs) ρ b∧w.heap[b]?=w.heap[b]?:=fun b hb=>⟨⟨hb.1,hb.2.1,fun ⟨id,sub,h1,h2⟩=>hb.2.2 ⟨id,sub,(hl id sub h1).2,h2⟩⟩,rfl⟩
 have hk:∀ id sub,bM h id sub→hs.contains id=true→bM (mk .dead h hs) id sub∧ρ id sub=ρ id sub:=fun id sub hp hi=>⟨(du (at_ id (by simpa using hi))).2 hp,rfl⟩
 have far:Far nm w ρ h w ρ (mk .dead h hs):=by
  refine ⟨rfl,rfl,rfl,Nat.le_refl _,fun _ _ _=>rfl,fun b ⟨id,sub,h1,h2⟩=>.inl ⟨id,sub,(hl id sub h1).2,h2⟩,fun id _ hd=>⟨fun e=>?_,rfl⟩,fun _ id p _ hd hp=>⟨?_,rfl⟩⟩
  ·by_cases hi:id ∈ hs
   ·rw [at_ id hi] at hd; exact hd e
   ·exact hd (not_ id hi)
  ·by_cases hi:id ∈ hs
   ·exact (du (at_ id hi)).2 hp
   ·exact absurd (not_ id hi) hd
 refine ⟨⟨fun a b c d h1 h2=>r.inj a b c d (hl a b h1).2 (hl c d h2).2,fun a b h1=>r.nx a b (hl a b h1).2,fun id=>?_,r.xl⟩,far,fun hv hc=>hv.knownA hA hk hc⟩
 by_cases hi:id ∈ hs
 ·have ho:=r.ob id
  have hc:=hcl id hi
  rw [at_ id hi]
  cases e:h id with
  | dead=>trivial
  | bx cs =>
   rw [e] at ho hc
   obtain ⟨us,t,h1,h2,h3,h4⟩:=ho
   refine ⟨us,t,h1,h2,h3,fun p c hcp=>?_⟩
   obtain ⟨u,h5,h6⟩:=h4 p c hcp
   refine ⟨u,h5,?_⟩
   simp only [aT,List.all_eq_true] at hc
   have hcc:=hc c (List.mem_of_getElem? hcp)
   cases hO:bd c with
   | true =>
    cases c <;> simp [bd] at hO
    obtain ⟨a,cap,us',t',g1,g2,g3,g4,g5,g6,g7⟩:=h6
    exact ⟨a,cap,us',t',g1,g2,g3,g4,g5,g6,g7.mono hA⟩
   | false =>
    rw [nn hO] at h6 ⊢
    have hca:aZ hs c=true:=by simpa [gp,hO] using hcc
    refine ⟨h6.1.knownA hA hk (MH hca),h6.2.1,?_⟩
    have h7:=h6.2.2
    cases c <;> try exact h7
    rename_i id' sub' _ _ _
    cases sub' with
    | none =>
     have hm:id' ∈ hs:=by simpa [aZ,bj] using hca
     simp only [iZ] at h7 ⊢
     rw [at_ id' hm]; exact h7
    | some p=>exact h7
  | ar k rows =>
   rw [e] at ho
   obtain ⟨us,t,h1,h2,h3,h4⟩:=ho
   exact ⟨us,t,h1,h2,h3,h4.mono hA⟩
  | fz k rows =>
   rw [e] at ho
   obtain ⟨h0,us,t,fr,h1,h2,h3,h4⟩:=ho
   exact ⟨(hA _ h0).1,us,t,fr,h1,h2,h3,h4.mono hA⟩
 ·rw [not_ id hi]
  trivial
end
def exo:Ex→Exit
 | .normal=>.normal
 | .exit id=>.exit id
 | .ret=>.ret
def LS (P:Program) (I:Inv) (call:dG) (md:Mode) (N:Nat):Prop :=
 ∀ {id:Nat} {ops:Array Oper} {hs cl:List COp} {w:World} {X:Nat→Prop} {ρ:bB} {h:ab} {s:ag} {a:Act} {t:St} {ps:List (Nat × Nat)} {Q:Exit→Act→World→Prop},l7 P N ops hs ops.toList=some cl→O7 ops.toList cl ps=true→Ok I N w X ρ h s a→lC call md cl ps s h=some t →
  (∀ a' w' ρ',Ok I N w' X ρ' t.h t.s a'→Far md.nm w ρ h w' ρ' t.h→Q .normal a' w')→(Code.region id ops true).wp P Q a w
section
variable {P:Program} {X:Nat→Prop} {call:dG} {md:Mode} {N:Nat} {I:Inv} {nm:Bool}
theorem Bu (s:ag) (ks:List Nat) (i:Nat):mk .any s ks i=s i∨mk .any s ks i=.any:=by
 rw [Dc]
 split
 ·exact .inl rfl
 ·exact .inr rfl
theorem Wk (hs:List Nat) (a:AV):(eH hs a=a∧knownA hs a=true)∨eH hs a=.any:=by
 unfold eH
 split
 ·exact .inl ⟨rfl,by assumption⟩
 ·exact .inr rfl
theorem YY {w:World} {ρ:bB} {h:ab} {s:ag} {a:Act} (ok:Ok I N w X ρ h s a) {ks hs:List Nat} (hcl:(hs.all fun a=>aT hs (h a))=true) :
  Ok I N w X ρ (mk .dead h hs) (mk .any (fun i=>eH hs (s i)) ks) a∧Far nm w ρ h w ρ (mk .dead h hs):=by
 obtain ⟨h1,h2,h3⟩:=Pd nm ok.rel (hs:=hs) (fun id hi=>List.all_eq_true.1 hcl id hi)
 refine ⟨⟨h1,fun i=>?_,ok.size,ok.defers,ok.inv⟩,h2⟩
 rcases Bu (fun i=>eH hs (s i)) ks i with e | e
 ·rw [e]
  rcases Wk hs (s i) with ⟨e2,e3⟩ | e2
  ·rw [e2]; exact h3 (ok.rs i) e3
  ·rw [e2]; exact .anyv _
 ·rw [e]; exact .anyv _
def LT (P:Program) (I:Inv) (nm:Bool) (X:Nat→Prop) (N:Nat) (f:ag→ab→Option (Ex × St)) (c:Code):Prop :=
 ∀ {s:ag} {h:ab} {e:Ex} {t:St} {w:World} {ρ:bB} {a:Act} {Q:Exit→Act→World→Prop},f s h=some (e,t)→Ok I N w X ρ h s a→(∀ a' w' ρ',Ok I N w' X ρ' t.h t.s a'→Far nm w ρ h w' ρ' t.h→Q (exo e) a' w')→c.wp P Q a w
theorem Hc {body:ag→ab→Option (Ex × St)} {c:Code} (hb:LT P I nm X N body c) {ks hs:List Nat}:∀ (n:Nat) {s:ag} {h:ab} {e:Ex} {t:St} {w:World} {ρ:bB} {a:Act} {Q:Exit→Act→World→Prop},
  mI body ks hs n s h=some (e,t)→Ok I N w X ρ h s a→(∀ a' w' ρ',Ok I N w' X ρ' t.h t.s a'→Far nm w ρ h w' ρ' t.h→Q (exo e) a' w')→Code.rounds P c Q n a w
 | 0,s,h,e,t,w,ρ,a,Q,hz,_,_=>by simp [mI] at hz
 | n+1,s,h,e,t,w,ρ,a,Q,hz,ok,hQ=>by
  simp only [mI] at hz
  split at hz
  ·rename_i hcl
   obtain ⟨ok1,far1⟩:=YY ok (ks:=ks) hcl
   rw [rounds_succ]
   split at hz
   ·rename_i t1 ht1
    exact hb ht1 ok1 fun a' w' ρ' ok2 far2=>Hc hb n hz ok2 fun a'' w'' ρ'' ok3 far3=>hQ _ _ ρ'' ok3 (far1.trans (far2.trans far3))
   ·rename_i r hne
    refine hb hz ok1 fun a' w' ρ' ok2 far2=>?_
    have:=hQ a' w' ρ' ok2 (far1.trans far2)
    cases e with
    | normal=>exact absurd hz (hne t)
    | exit id=>exact this
    | ret=>exact this
  ·cases hz
theorem Wl {i:Nat} {w:World} {ρ:bB} {h:ab} {s:ag} {a:Act} {r:ag × ab × K} (ok:Ok I N w X ρ h s a) (hz:VK i s h (s i)=some r) (hnm:lA nm r.2.2=true) :
  Ok I N w X ρ r.2.1 r.1 a∧Far nm w ρ h w ρ r.2.1:=by
 have hv:=ok.rs i
 cases hi:s i <;> rw [hi] at hz hv <;> simp only [VK] at hz <;> try (cases hz; done)
 case rsl id sub k lo n =>
  simp only [Option.map_eq_some_iff] at hz
  obtain ⟨q,e1,rfl⟩:=hz
  obtain ⟨x,h',ks⟩:=q
  have h1:(a.tmps.getD i undef).oneCell'=true:=by
   obtain ⟨_,_,e,_⟩:=hv.rsl_inv
   rw [e]; rfl
  obtain ⟨g1,g2,g3,g4⟩:=uJ ok.rel hv (fun b hb=>hb) h1 e1
  refine ⟨⟨g1,fun j=>?_,ok.size,ok.defers,g2.inv ok.rel ok.inv⟩,g2.far hnm⟩
  show RV w (aH w X h' ρ) ρ h' (upd (gl ks s) i x j) _
  rw [gk]
  split
  ·rename_i hj; subst hj; exact .dat g3
  ·exact g2.rs ok.rs j
 case ref id sub k j l =>
  cases sub with
  | some p=>cases hz
  | none =>
   simp only at hz
   cases ho:h id <;> rw [ho] at hz <;> simp only at hz <;> try (cases hz; done)
   cases hz
   rename_i cs
   obtain ⟨g1,g2⟩:=Bo (ds:=cs.map iX) ok.rel ho (by simp) fun p c hc=>by
    cases hq:bd c with
    | true=>exact .inr ⟨rfl,by simp [hc]⟩
    | false=>exact .inl (by simp [hc,Um hq])
   exact ⟨⟨g1,g2.rs ok.rs,ok.size,ok.defers,g2.inv ok.rel ok.inv⟩,g2.far hnm⟩
theorem Tg {w:World} {ρ:bB} {h:ab} {s:ag} {a:Act} (ok:Ok I N w X ρ h s a) (x:AV):Ok I N w X ρ (C7 h x) s a∧Far nm w ρ h w ρ (C7 h x):=by
 have id':Ok I N w X ρ h s a∧Far nm w ρ h w ρ h:=⟨ok,.refl _ _ _ _⟩
 unfold C7
 split
 ·rename_i id k' lo n
  split
  ·rename_i k rows e
   obtain ⟨s1,s2⟩:=YQ (m:=lo+n) ok.rel e
   exact ⟨⟨s1,s2.rs ok.rs,ok.size,ok.defers,s2.inv ok.rel ok.inv⟩,s2.far (ke _)⟩
  ·exact id'
 ·exact id'
theorem Ek {g:Nat} {w:World} {ρ:bB} {h:ab} {s:ag} {a:Act} {t:St} (ok:Ok I N w X ρ h s a) (hz:mS nm g s h=some t):∃ ρ',Ok I N w X ρ' t.h t.s a∧Far nm w ρ h w ρ' t.h:=by
 cases g with
 | zero =>
  cases hz
  exact ⟨ρ,ok,.refl _ _ _ _⟩
 | succ i =>
  simp only [mS,Option.bind_eq_some_iff] at hz
  obtain ⟨r,e1,e2⟩:=hz
  split at e2
  ·rename_i hnm
   cases e2
   have hv:=ok.rs i
   cases hi:s i <;> rw [hi] at e1 hv <;> simp only [LK] at e1 <;> try (cases e1; done)
   ·cases e1
    exact ⟨ρ,ok,.refl _ _ _ _⟩
   ·rename_i id sub k lo n
    cases sub with
    | none=>simp only [] at e1; cases e1
    | some p =>
    simp only at e1
    split at e1
    ·rename_i hps
     cases eo:h id <;> rw [eo] at e1 <;> simp only [Uk] at e1 <;> try (cases e1; done)
     rename_i cs
     cases ec:cs[p]? with
     | none=>rw [ec] at e1; simp [G1] at e1
     | some c =>
      rw [ec] at e1
      cases c <;> simp only [G1] at e1 <;> try (cases e1; done)
      split at e1
      ·rename_i hc
       obtain ⟨rfl,rfl,rfl,hd⟩:=hc
       have hd':h i=.dead:=by cases hh:h i <;> rw [hh] at hd <;> first | rfl | cases hd
       cases e1
       obtain ⟨m1,m2⟩:=V9 ok.rel eo ec hps hd'
       obtain ⟨ad,cap,e4,q2,q3,q4,q5⟩:=hv.rsl_inv
       refine ⟨_,⟨m1,fun j=>?_,ok.size,ok.defers,m2.inv ok.rel ok.inv⟩,m2.far hnm⟩
       show RV w _ _ _ (upd (gl [(id,true)] s) i _ j) _
       rw [gk]
       split
       ·rename_i hj
        subst hj
        rw [e4]
        refine .rsl _ none _ 0 _ cap ad (by simp [bM,ap]) q3 (by rw [bt]; exact q4) ?_
        rcases q5 with q5 | q5
        ·exact .inl q5
        ·exact .inr (by rw [bt,q5])
       ·exact m2.rs ok.rs j
      ·cases e1
    ·cases e1
  ·cases e2
theorem Wm {i:Nat} {w:World} {ρ:bB} {h:ab} {s:ag} {a:Act} {r:ag × ab × K} (ok:Ok I N w X ρ h s a) (hz:Jt i s h (s i)=some r) (hnm:lA nm r.2.2=true) :
  ∃ ρ',Ok I N w X ρ' r.2.1 r.1 a∧Far nm w ρ h w ρ' r.2.1:=by
 have hv:=ok.rs i
 have key:∀ {id k lo n:Nat},(∃ ad cap,a.tmps.getD i undef=.slice ad n cap∧n≤cap∧(lo+cap)*k=(ρ id none).2∧(cap=0∨ad=some ⟨(ρ id none).1,lo*k,none⟩))→Bj i s h id k lo n (h id)=some r →
   ∃ ρ',Ok I N w X ρ' r.2.1 r.1 a∧Far nm w ρ h w ρ' r.2.1:=by
  intro id k lo n ⟨ad,cap,e4,q3,q4,q5⟩ e1
  cases eo:h id <;> rw [eo] at e1 <;> simp only [Bj] at e1 <;> try (cases e1; done)
  rename_i k' rows
  split at e1
  ·rename_i hc
   obtain ⟨rfl,rfl,hps,hd⟩:=hc
   have hd':h i=.dead:=by cases hh:h i <;> rw [hh] at hd <;> first | rfl | cases hd
   cases e1
   obtain ⟨m1,m2⟩:=aij ok.rel eo hps hd'
   refine ⟨_,⟨m1,fun j=>?_,ok.size,ok.defers,m2.inv ok.rel ok.inv⟩,m2.far hnm⟩
   show RV w _ _ _ (upd (gl [(id,false)] s) i _ j) _
   rw [gk]
   split
   ·rename_i hj
    subst hj
    rw [e4]
    refine .rsl _ none _ 0 _ cap ad (by simp [bM,ap]) q3 (by rw [bt]; exact q4) ?_
    rcases q5 with q5 | q5
    ·exact .inl q5
    ·exact .inr (by rw [bt,q5])
   ·exact m2.rs ok.rs j
  ·cases e1
 cases hi:s i <;> rw [hi] at hz hv <;> simp only [Jt] at hz <;> try (cases hz; done)
 ·cases hz
  exact ⟨ρ,ok,.refl _ _ _ _⟩
 ·rename_i id sub k lo n
  cases sub with
  | some p=>cases hz
  | none =>
  obtain ⟨ad,cap,e4,q2,q3,q4,q5⟩:=hv.rsl_inv
  exact key ⟨ad,cap,e4,q3,q4,q5⟩ hz
 ·rename_i id k lo n c
  obtain ⟨ad,e4,q2,q3,q4,q5⟩:=hv.rsc_inv
  exact key ⟨ad,c,e4,q3,q4,q5⟩ hz
theorem uL:∀ (is:List Nat) {w:World} {ρ:bB} {h:ab} {s:ag} {a:Act} {t:St},Ok I N w X ρ h s a→rT nm is s h=some t→∃ ρ',Ok I N w X ρ' t.h t.s a∧Far nm w ρ h w ρ' t.h
 | [],w,ρ,h,s,a,t,ok,hz=>by cases hz; exact ⟨ρ,ok,.refl _ _ _ _⟩
 | i::l,w,ρ,h,s,a,t,ok,hz=>by
  unfold rT at hz
  split at hz
  ·simp only [Option.bind_eq_some_iff] at hz
   obtain ⟨r,e1,e2⟩:=hz
   split at e2
   ·rename_i hn
    obtain ⟨ρ1,g1,g2⟩:=Wm ok e1 hn
    obtain ⟨ρ2,f1,f2⟩:=uL l g1 e2
    exact ⟨ρ2,f1,g2.trans f2⟩
   ·cases e2
  ·split at hz
   ·obtain ⟨g1,g2⟩:=Tg (nm:=nm) ok (s (i - 100000))
    obtain ⟨ρ2,f1,f2⟩:=uL l g1 hz
    exact ⟨ρ2,f1,g2.trans f2⟩
   ·simp only [Option.bind_eq_some_iff] at hz
    obtain ⟨r,e1,e2⟩:=hz
    split at e2
    ·rename_i hn
     obtain ⟨g1,g2⟩:=Wl ok e1 hn
     obtain ⟨ρ2,f1,f2⟩:=uL l g1 e2
     exact ⟨ρ2,f1,g2.trans f2⟩
    ·cases e2
theorem Wn (hcall:iL P I call md) (hN:N≤1000) (hD:LS P I call md N) (lf:Nat):∀ (cmd:Cmd) (c:Code),fy P N c cmd=some cmd→LT P I md.nm X N (bG call md lf cmd) c:=by
 intro cmd
 induction cmd with
 | skip =>
  intro c hc s h e t w ρ a Q hz ok hQ
  cases c <;> (try simp only [fy] at hc) <;> (try (cases hc; done))
  ·simp only [bG,Option.some.injEq,Prod.mk.injEq] at hz
   obtain ⟨rfl,rfl⟩:=hz
   exact wp_skip (hQ _ _ ρ ok (.refl _ _ _ _))
  all_goals (exfalso; revert hc; simp [Option.bind_eq_some_iff])
 | ops ks l =>
  intro c hc s h e t w ρ a Q hz ok hQ
  by_cases hrf:∃ m,c=.refuse m
  ·obtain ⟨m,rfl⟩:=hrf
   have hl:l=[⟨none,none,.bad⟩]:=by
    unfold fy at hc
    split at hc <;> first | (cases hc; done) | (simp_all; done)
   subst hl
   simp [bG,aF,iy,cz,step,bc] at hz
  cases c <;> (try (exact absurd ⟨_,rfl⟩ hrf)) <;> (try simp only [fy] at hc) <;> (try (cases hc; done))
  rename_i id ops dr
  cases dr <;> (try simp only [fy] at hc) <;> (try (cases hc; done))
  simp only [Option.map_eq_some_iff] at hc
  obtain ⟨l',h1,h2⟩:=hc
  cases h2
  simp only [bG,bc] at hz
  split at hz
  ·cases hz
  ·rename_i t1 ht1
   simp only [Option.some.injEq,Prod.mk.injEq] at hz
   obtain ⟨rfl,rfl⟩:=hz
   refine wp_region ?_
   rw [List.range_eq_range',show ops.size=ops.toList.length from Array.length_toList.symm]
   exact LR hcall hN ops.toList l 0 (fun j o hj=>by simpa using hj) h1 ok ht1 fun a' w' ρ' ok' far=>hQ _ _ ρ' (ok'.some (Bu _ _)) far
 | dops ks l ps =>
  intro c hc s h e t w ρ a Q hz ok hQ
  cases c <;> (try simp only [fy] at hc) <;> (try (cases hc; done))
  rename_i id ops dr
  cases dr <;> (try simp only [fy] at hc) <;> (try (cases hc; done))
  simp only [Option.bind_eq_some_iff] at hc
  obtain ⟨l',h1,h2⟩:=hc
  split at h2
  ·rename_i hps
   cases h2
   simp only [bG,bc] at hz
   split at hz
   ·cases hz
   ·rename_i t1 ht1
    simp only [Option.some.injEq,Prod.mk.injEq] at hz
    obtain ⟨rfl,rfl⟩:=hz
    exact hD h1 hps ok ht1 fun a' w' ρ' ok' far=>hQ _ _ ρ' (ok'.some (Bu _ _)) far
  ·cases h2
 | seq x y ihx ihy =>
  intro c hc s h e t w ρ a Q hz ok hQ
  cases c <;> (try simp only [fy] at hc) <;> (try (cases hc; done))
  simp only [Option.bind_eq_some_iff,Option.map_eq_some_iff] at hc
  obtain ⟨c1,h1,c2,h2,h3⟩:=hc
  cases h3
  simp only [bG,bX] at hz
  refine wp_seq ?_
  split at hz
  ·cases hz
  ·rename_i t1 ht1
   exact ihx _ h1 ht1 ok fun a' w' ρ' ok1 far1=>ihy _ h2 hz ok1 fun a'' w'' ρ'' ok2 far2=>hQ _ _ ρ'' ok2 (far1.trans far2)
  ·rename_i i t1 ht1
   cases hz
   exact ihx _ h1 ht1 ok fun a' w' ρ' ok1 far1=>hQ a' w' ρ' ok1 far1
  ·rename_i t1 ht1
   cases hz
   exact ihx _ h1 ht1 ok fun a' w' ρ' ok1 far1=>hQ a' w' ρ' ok1 far1
 | cond b x y ihx ihy =>
  intro c hc s h e t w ρ a Q hz ok hQ
  cases c <;> (try simp only [fy] at hc) <;> (try (cases hc; done))
  simp only [Option.bind_eq_some_iff,Option.map_eq_some_iff] at hc
  obtain ⟨b',h0,c1,h1,c2,h2,h3⟩:=hc
  cases h3
  simp only [bG] at hz
  have hv:=aU h0 ok.rs
  unfold lD at hz
  split at hz
  ·rename_i tt htt
   rw [htt] at hv
   refine wp_cond hv.v_inv.1 ?_
   cases tt with
   | true=>exact ihx _ h1 hz ok hQ
   | false=>exact ihy _ h2 hz ok hQ
  ·cases hz
 | block id ks x ih =>
  intro c hc s h e t w ρ a Q hz ok hQ
  cases c <;> (try simp only [fy] at hc) <;> (try (cases hc; done))
  simp only [Option.map_eq_some_iff] at hc
  obtain ⟨c1,h1,h3⟩:=hc
  cases h3
  simp only [bG] at hz
  refine wp_block ?_
  unfold aB at hz
  split at hz
  ·cases hz
  ·rename_i t1 ht1
   cases hz
   exact ih _ h1 ht1 ok fun a' w' ρ' ok1 far1=>hQ a' w' ρ' (ok1.some (Bu _ _)) far1
  ·rename_i i t1 ht1
   refine ih _ h1 ht1 ok fun a' w' ρ' ok1 far1=>?_
   split at hz
   ·rename_i hi
    cases hz
    have:=hQ a' w' ρ' (ok1.some (Bu _ _)) far1
    simpa [exo,Exit.inBlock,hi] using this
   ·rename_i hi
    cases hz
    have:=hQ a' w' ρ' ok1 far1
    simpa [exo,Exit.inBlock,hi] using this
  ·rename_i t1 ht1
   cases hz
   exact ih _ h1 ht1 ok fun a' w' ρ' ok1 far1=>hQ a' w' ρ' ok1 far1
 | loop ks hs x ih =>
  intro c hc s h e t w ρ a Q hz ok hQ
  cases c <;> (try simp only [fy] at hc) <;> (try (cases hc; done))
  simp only [Option.map_eq_some_iff] at hc
  obtain ⟨c1,h1,h3⟩:=hc
  cases h3
  simp only [bG] at hz
  exact wp_loop_rounds lf (Hc (ih _ h1) lf hz ok hQ)
 | exit id =>
  intro c hc s h e t w ρ a Q hz ok hQ
  cases c <;> (try simp only [fy] at hc) <;> (try (cases hc; done))
  cases hc
  simp only [bG,Option.some.injEq,Prod.mk.injEq] at hz
  obtain ⟨rfl,rfl⟩:=hz
  exact wp_exit (hQ _ _ ρ ok (.refl _ _ _ _))
 | ret =>
  intro c hc s h e t w ρ a Q hz ok hQ
  cases c <;> (try simp only [fy] at hc) <;> (try (cases hc; done))
  simp only [bG,Option.some.injEq,Prod.mk.injEq] at hz
  obtain ⟨rfl,rfl⟩:=hz
  exact wp_ret (hQ _ _ ρ ok (.refl _ _ _ _))
 | frz is x ih =>
  intro c hc s h e t w ρ a Q hz ok hQ
  have hc':(fy P N c x).map (Cmd.frz is)=some (.frz is x):=by
   cases c <;> simpa only [fy] using hc
  simp only [Option.map_eq_some_iff] at hc'
  obtain ⟨c1,h1,h3⟩:=hc'
  cases h3
  simp only [bG,bc] at hz
  split at hz
  ·cases hz
  ·rename_i t1 ht1
   obtain ⟨ρ1,ok1,far1⟩:=uL is ok ht1
   exact ih _ h1 hz ok1 fun a' w' ρ' ok2 far2=>hQ a' w' ρ' ok2 (far1.trans far2)
end
def ko (P:Program) (I:Inv) (kp:Bool) (f:FuncId) (g:List AV→List Ob→Option (AV × List Ob)):Prop :=
 ∀ {args:List AV} {obs obs':List Ob} {res:AV} {w:World} {X:Nat→Prop} {ρ:bB} {vals:Array Value} {n:Nat},g args obs=some (res,obs')→2000≤n→I.p w X→Rel w X ρ (ak obs)→vals.size=args.length →
  (∀ (i:Nat) (c:AV) (u:Value),args[i]?=some c→vals[i]?=some u→RV w (aH w X (ak obs) ρ) ρ (ak obs) c u) →
  Enters P f vals w fun v w'=>∃ ρ',Rel w' X ρ' (mat n (ak obs') res).2∧Far kp w ρ (ak obs) w' ρ' (mat n (ak obs') res).2∧RV w' (aH w' X (mat n (ak obs') res).2 ρ') ρ' (mat n (ak obs') res).2 (mat n (ak obs') res).1 v
def tq (tmps:Array Value):ResultVar→Sem Value
 | .tmp t=>pure (tmps.getD t Go.undef)
 | .cell c t=>do loadVar t (← asAddr (tmps.getD c Go.undef))
section
variable {P:Program} {w w':World} {X:Nat→Prop} {ρ ρ':bB} {h h':ab} {s:ag} {a:Act} {call:dG} {md:Mode} {N:Nat}
theorem El:∀ (rs:List ResultVar) (l:List Rv) {h h':ab} {s:ag} {vs:List AV} {ks:K},zt P rs=some l→Rel w X ρ h→RS w (aH w X h ρ) ρ h s a.tmps→qG s h l=some (vs,h',ks) →
  ∃ us:List Value,(rs.mapM (tq a.tmps)).run P w=.ok us w∧us.length=vs.length∧Rel w X ρ h'∧Evo w ρ h w ρ h' ks ∧
   ∀ (i:Nat) (c:AV) (u:Value),vs[i]?=some c→us[i]?=some u→RV w (aH w X h' ρ) ρ h' c u
 | [],l,h,h',s,vs,ks,hc,r,hs,hz=>by
  simp only [zt,Option.some.injEq] at hc
  subst hc
  simp only [qG,Option.some.injEq,Prod.mk.injEq] at hz
  obtain ⟨rfl,rfl,rfl⟩:=hz
  exact ⟨[],rfl,rfl,r,.refl _ _ _,fun i c u hc=>by simp at hc⟩
 | x::rs,l,h,h',s,vs,ks,hc,r,hs,hz=>by
  have step1:∃ rv l',l=rv::l'∧zt P rs=some l'∧∀ {z:AV} {h1:ab} {k1:K},abP s h rv=some (z,h1,k1)→∃ v,(tq a.tmps x).run P w=.ok v w ∧
    Rel w X ρ h1∧Evo w ρ h w ρ h1 k1∧RV w (aH w X h1 ρ) ρ h1 z v:=by
   cases x with
   | tmp t =>
    simp only [zt,Option.map_eq_some_iff] at hc
    obtain ⟨l',h1,rfl⟩:=hc
    refine ⟨_,l',rfl,h1,fun {z h1 k1} e=>?_⟩
    simp only [abP,Option.some.injEq,Prod.mk.injEq] at e
    obtain ⟨rfl,rfl,rfl⟩:=e
    exact ⟨_,rfl,r,.refl _ _ _,hs t⟩
   | cell c t =>
    simp only [zt,Option.bind_eq_some_iff] at hc
    obtain ⟨g,g1,k,g2,hc⟩:=hc
    split at hc
    ·simp only [Option.map_eq_some_iff] at hc
     obtain ⟨l',h1,rfl⟩:=hc
     refine ⟨_,l',rfl,h1,fun {z h1 k1} e=>?_⟩
     obtain ⟨ad,v,q1,q2,q3,q4,q5⟩:=Eg (P:=P) r g1 g2 (hs c) e
     refine ⟨v,?_,q3,q4,q5⟩
     simp only [tq]
     rw [q1]
     exact q2
    ·cases hc
  obtain ⟨rv,l',rfl,hc',key⟩:=step1
  simp only [qG,Option.bind_eq_some_iff] at hz
  obtain ⟨⟨z,h1,k1⟩,e1,⟨vs',h2,k2⟩,e2,e3⟩:=hz
  cases e3
  obtain ⟨v,f1,f2,f3,f4⟩:=key e1
  obtain ⟨us,g1,g2,g3,g4,g5⟩:=El rs l' hc' f2 (f3.rs hs) e2
  refine ⟨v::us,by rw [List.mapM_cons,Sem.run_bind,f1]; simp only [Result.andThen]; rw [Sem.run_bind,g1]; rfl,by simp [g2],g3,f3.trans g4,fun i c u hc hu=>?_⟩
  cases i with
  | zero =>
   simp only [List.getElem?_cons_zero,Option.some.injEq] at hc hu
   subst hc hu
   cases k2 with
   | nil=>exact g4.rv f4
   | cons p k2 =>
    simp only [O2,mQ]
    split
    ·exact .anyv _
    ·rename_i hm
     exact g4.rvk f4 (.inr (by simpa using hm))
  | succ i=>exact g5 i c u (by simpa using hc) (by simpa using hu)
end
structure Emb (L:List Nat) (f g:Nat→Nat) (h' h2:ab):Prop where
 back:∀ id,L.contains id=true→g (f id)=id∧h2 (f id)=cY f (h' id)
 obj:∀ i,h2 i ≠ .dead→h2 i=cY f (h' (g i))∧aT L (h' (g i))=true
 inj:∀ i j,h2 i ≠ .dead→h2 j ≠ .dead→g i=g j→i=j
section
variable {w:World} {X:Nat→Prop} {ρ:bB} {h' h2:ab} {A A2:Nat→Prop} {L:List Nat} {f g:Nat→Nat}
theorem Bv {o:Ob}:cY f o=.dead↔o=.dead:=by cases o <;> simp [cY]
theorem Uo (o:Ob):bf (cY f o)=bf o:=by cases o <;> rfl
theorem abZ {c:AV} {k:Nat} {rows:List (List AV)}:dh f c=.osl k rows↔c=.osl k rows:=by cases c <;> simp [dh,iw]
theorem YZ (c:AV):bd (dh f c)=bd c:=by cases c <;> rfl
theorem RV.embL (em:Emb L f g h' h2) {c:AV} {u:Value} (hv:RV w A ρ h' c u) (hA:∀ b,A b→A2 b) (hm:bj L c=true):RV w A2 (fun i s=>ρ (g i) s) h2 (iw f c) u:=by
 cases hv with
 | anyv u=>exact .anyv u
 | und=>exact .und
 | dat hd =>
  have:iw f c=c:=by cases hd <;> rfl
  rw [this]
  exact .dat (hd.mono fun b hb=>⟨hA b hb,rfl⟩)
 | ref id sub k i j hp =>
  simp only [bj,Bool.and_eq_true] at hm
  obtain ⟨h1,h3⟩:=em.back id hm.1
  cases sub with
  | some p=>simp at hm
  | none =>
   have:=RV.ref (w:=w) (A:=A2) (ρ:=fun i s=>ρ (g i) s) (h:=h2) (f id) none k i j (by simp only [bM,h3,ne_eq,Bv]; exact hp)
   simp only [h1] at this
   exact this
 | rsl id sub k lo n cap a hp hn hb ha =>
  simp only [bj,Bool.and_eq_true] at hm
  obtain ⟨h1,h3⟩:=em.back id hm.1
  cases sub with
  | some p=>simp at hm
  | none=>exact .rsl (f id) none k lo n cap a (by simp only [bM,h3,ne_eq,Bv]; exact hp) hn (by simp only [h1]; exact hb) (by simp only [h1]; exact ha)
 | rsc id k lo n cap a hp hn hb ha=>simp [bj] at hm
 | ipt cs ad vals hA' hs hv hl hr=>exact .ipt cs ad vals (hA _ hA') hs hv hl (fun j c hc=>(hr j c hc).mono fun b hb=>⟨hA b hb,rfl⟩)
 | agg cs us hs h1 hr=>simp [bj] at hm
 | tup vs us hs hr=>simp [bj] at hm
 | fn ff x y us ts hs ht hx hy =>
  simp [bj] at hm
  obtain ⟨rfl,rfl⟩:=hm
  exact .fn ff [] [] us ts hs ht (fun i c u hc=>by simp at hc) (fun i c u hc=>by simp at hc)
theorem RV.embA (em:Emb L f g h' h2) {c:AV} {u:Value} (hv:RV w A ρ h' c u) (hA:∀ b,A b→A2 b) (hm:aZ L c=true):RV w A2 (fun i s=>ρ (g i) s) h2 (dh f c) u:=by
 cases c with
 | agg cs =>
  simp only [aZ,List.all_eq_true] at hm
  obtain ⟨us,rfl,hs,h1,hr⟩:=hv.agg_inv
  refine .agg _ us (by simpa using hs) h1 fun i c u hc hu=>?_
  simp only [List.getElem?_map,Option.map_eq_some_iff] at hc
  obtain ⟨c',hc',rfl⟩:=hc
  exact (hr i c' u hc' hu).embL em hA (hm c' (List.mem_of_getElem? hc'))
 | fn ff x y =>
  simp only [aZ,Bool.and_eq_true,List.all_eq_true] at hm
  obtain ⟨us,ts,rfl,hs,ht,hx,hy⟩:=hv.fn_inv
  refine .fn ff _ _ us ts (by simpa using hs) (by simpa using ht) (fun i c u hc hu=>?_) (fun i c u hc hu=>?_)
  ·simp only [List.getElem?_map,Option.map_eq_some_iff] at hc
   obtain ⟨c',hc',rfl⟩:=hc
   exact (hx i c' u hc' hu).embL em hA (hm.1 c' (List.mem_of_getElem? hc'))
  ·simp only [List.getElem?_map,Option.map_eq_some_iff] at hc
   obtain ⟨c',hc',rfl⟩:=hc
   exact (hy i c' u hc' hu).embL em hA (hm.2 c' (List.mem_of_getElem? hc'))
 | _ =>
  simp only [aZ,dh] at hm ⊢
  exact hv.embL em hA hm
theorem Emb.live (em:Emb L f g h' h2) {i:Nat} {s:Option Nat} (hl:live h2 i s):live h' (g i) s∧h2 i ≠ .dead:=by
 have hd:h2 i ≠ .dead:=YC hl |> fun hp=>by
  cases s with
  | none=>exact hp
  | some p=>obtain ⟨_,_,_,e,_⟩:=hp; rw [e]; exact fun e=>by cases e
 obtain ⟨e,_⟩:=em.obj i hd
 refine ⟨?_,hd⟩
 cases s with
 | none =>
  simp only [Ab.live,e] at hl
  simp only [Ab.live]
  cases e2:h' (g i) <;> rw [e2] at hl <;> simp [cY] at hl ⊢
 | some p =>
  obtain ⟨cs,k,rows,e1,e2⟩:=hl
  rw [e] at e1
  cases e3:h' (g i) <;> rw [e3] at e1 <;> simp only [cY] at e1 <;> try (cases e1; done)
  rename_i cs'
  cases e1
  simp only [List.getElem?_map,Option.map_eq_some_iff] at e2
  obtain ⟨c,e4,e5⟩:=e2
  exact ⟨cs',k,rows,e3,by rw [e4,abZ.1 e5]⟩
theorem Rel.emb (em:Emb L f g h' h2) (r:Rel w X ρ h') {X2:Nat→Prop} (hX:∀ b,X2 b→b < w.heap.size) (hnx:∀ i s,live h2 i s→¬ X2 (ρ (g i) s).1) (hA:∀ b,aH w X h' ρ b→aH w X2 h2 (fun i s=>ρ (g i) s) b) :
  Rel w X2 (fun i s=>ρ (g i) s) h2:=by
 refine ⟨fun i s j t h1 h3 h4=>?_,hnx,fun i=>?_,hX⟩
 ·obtain ⟨f1,f2⟩:=em.live h1
  obtain ⟨f3,f4⟩:=em.live h3
  obtain ⟨e1,e2⟩:=r.inj (g i) s (g j) t f1 f3 h4
  exact ⟨em.inj i j f2 f4 e1,e2⟩
 ·by_cases hd:h2 i=.dead
  ·rw [hd]; trivial
  ·obtain ⟨e,hc⟩:=em.obj i hd
   have ho:=r.ob (g i)
   rw [e]
   cases e2:h' (g i) with
   | dead=>trivial
   | bx cs =>
    rw [e2] at ho hc
    obtain ⟨us,t,h1,h3,h4,h5⟩:=ho
    refine ⟨us,t,h1,h3,by rw [List.length_map]; exact h4,fun p c hp=>?_⟩
    simp only [List.getElem?_map,Option.map_eq_some_iff] at hp
    obtain ⟨c',hp',rfl⟩:=hp
    obtain ⟨u,h6,h7⟩:=h5 p c' hp'
    refine ⟨u,h6,?_⟩
    simp only [aT,List.all_eq_true] at hc
    have hcc:=hc c' (List.mem_of_getElem? hp')
    cases hO:bd c' with
    | true =>
     cases c' <;> simp [bd] at hO
     obtain ⟨a,cap,us',t',g1,g2,g3,g4,g5,g6,g7⟩:=h7
     exact ⟨a,cap,us',t',g1,g2,g3,g4,g5,g6,g7.mono fun b hb=>⟨hA b hb,rfl⟩⟩
    | false =>
     have hca:aZ L c'=true:=by simpa [gp,hO] using hcc
     rw [nn hO] at h7
     rw [nn (by rw [YZ]; exact hO)]
     refine ⟨h7.1.embA em hA hca,h7.2.1,?_⟩
     have h8:=h7.2.2
     cases c' <;> first | exact h8.elim | trivial | skip
     ·rename_i id sub _ _ _
      cases sub with
      | some p=>exact h8.elim
      | none =>
       simp only [aZ,bj,Bool.and_eq_true] at hca
       obtain ⟨_,e3⟩:=em.back id hca.1
       simp only [dh,iw,iZ] at h8 ⊢
       rw [e3,Uo]
       exact h8
     ·rename_i ff x y
      simp only [iZ,Bool.and_eq_true,List.all_eq_true] at h8
      simp only [dh,iZ,Bool.and_eq_true,List.all_eq_true,List.mem_map]
      have key:∀ c,aA c=true→aA (iw f c)=true:=fun c hd=>by cases c <;> simp [aA,iw] at hd ⊢ <;> exact hd
      exact ⟨fun c ⟨c0,h9,h10⟩=>h10 ▸ key c0 (h8.1 c0 h9),fun c ⟨c0,h9,h10⟩=>h10 ▸ key c0 (h8.2 c0 h9)⟩
   | ar k rows =>
    rw [e2] at ho
    obtain ⟨us,t,h1,h3,h4,h5⟩:=ho
    exact ⟨us,t,h1,h3,h4,h5.mono fun b hb=>⟨hA b hb,rfl⟩⟩
   | fz k rows =>
    rw [e2] at ho
    obtain ⟨h0,us,t,fr,h1,h3,h4,h5⟩:=ho
    exact ⟨hA _ h0,us,t,fr,h1,h3,h4,h5.mono fun b hb=>⟨hA b hb,rfl⟩⟩
end
theorem afn (c:AV):iw (fun i=>i) c=c:=by cases c <;> rfl
theorem Pe {α:Type} {f:α→α} (hf:∀ a,f a=a) (l:List α):l.map f=l:=by
 rw [show f=id from funext hf,List.map_id]
theorem afo (c:AV):dh (fun i=>i) c=c:=by
 cases c <;> simp [dh,iw,Pe afn]
theorem Jx (o:Ob):cY (fun i=>i) o=o:=by
 cases o <;> simp [cY,Pe afo]
section
variable {L:List Nat} {g:Nat→Nat} {h' h2:ab}
theorem Emb.add (em:Emb L (fun i=>i) g h' h2) {m id:Nat} (hm:h2 m=.dead) (hL:L.contains m=false) (hid:∀ i,h2 i ≠ .dead→g i ≠ id) (hcl:aT L (h' id)=true):Emb L (fun i=>i) (upd g m id) h' (upd h2 m (h' id)):=by
 refine ⟨fun i hi=>?_,fun i hi=>?_,fun i j hi hj hg=>?_⟩
 ·have hne:i ≠ m:=by rintro rfl; rw [hL] at hi; cases hi
  rw [aG _ _ hne,aG _ _ hne]
  exact em.back i hi
 ·by_cases e:i=m
  ·subst e; rw [ap,ap,Jx]; exact ⟨rfl,hcl⟩
  ·rw [aG _ _ e] at hi ⊢
   rw [aG _ _ e]
   exact em.obj i hi
 ·by_cases e:i=m <;> by_cases e':j=m
  ·rw [e,e']
  ·subst e
   rw [ap,aG _ _ e'] at hg
   rw [aG _ _ e'] at hj
   exact absurd hg.symm (hid j hj)
  ·subst e'
   rw [ap,aG _ _ e] at hg
   rw [aG _ _ e] at hi
   exact absurd hg (hid i hi)
  ·rw [aG _ _ e] at hi
   rw [aG _ _ e'] at hj
   rw [aG _ _ e,aG _ _ e'] at hg
   exact em.inj i j hi hj hg
theorem i8 {n i:Nat}:(cN n).contains i=true↔1000≤i∧i < 1000+n:=by
 simp [cN,List.mem_range']
 exact ⟨fun ⟨j,h1,h2⟩=>by omega,fun ⟨h1,h2⟩=>⟨i - 1000,by omega,by omega⟩⟩
theorem mA (h':ab) (n i:Nat):ak ((cN n).map h') i=if 1000≤i∧i < 1000+n then h' i else .dead:=by
 unfold ak
 by_cases h1:1000≤i
 ·rw [if_pos h1]
  by_cases h2:i < 1000+n
  ·rw [if_pos ⟨h1,h2⟩]
   have:(cN n)[i - 1000]?=some i:=by
    unfold cN
    rw [List.getElem?_range' (show i - 1000 < n from by omega)]
    exact congrArg some (by omega)
   rw [List.getElem?_map,this]
   rfl
  ·rw [if_neg (by omega),List.getElem?_map,List.getElem?_eq_none (by simp [cN]; omega)]
   rfl
 ·rw [if_neg h1,if_neg (by omega)]
theorem Emb.base {n:Nat} (hcl:((cN n).all fun i=>aT (cN n) (h' i))=true):Emb (cN n) (fun i=>i) (fun i=>i) h' (ak ((cN n).map h')):=by
 refine ⟨fun i hi=>⟨rfl,?_⟩,fun i hi=>?_,fun i j _ _ hg=>hg⟩
 ·rw [mA,if_pos (i8.1 hi),Jx]
 ·rw [mA] at hi ⊢
  split at hi
  ·rename_i h1
   rw [if_pos h1,Jx]
   exact ⟨rfl,List.all_eq_true.1 hcl i (by simpa using i8.2 h1)⟩
  ·exact absurd rfl hi
end
section
variable {w:World} {X:Nat→Prop} {ρ:bB} {h' h2:ab} {A A2:Nat→Prop}
theorem Dd {b k lo n cap:Nat} {us:Array Value} {e:TypeId} {fr:Nat × Nat} {rows:List (List AV)} {a:Option Addr} (hb:w.heap[b]?=some (.cells us e fr)) (hA2:A2 b) (hA:∀ b,A b→A2 b) (hr:bT w A k rows us)
  (hle:lo+n≤rows.length) (hn:n≤cap) (ha:cap=0∨a=some ⟨b,lo*k,none⟩):RD w A2 (kz k lo n rows) (.slice a n cap) :=
 jO hb hA2 (hr.mono fun b hb=>⟨hA b hb,rfl⟩) hle hn ha
def aeo (w:World) (A:Nat→Prop) (ρ:bB) (h':ab) (a b:AV) (u:Value):Prop :=
 (∃ id k rows,b=.osl k rows∧a=.rsl id none k 0 rows.length∧h' id=.ar k rows∧aY id=false) ∨
 (∃ id cs,b=.obx cs∧a=.ref id none 0 0 0∧h' id=.bx cs∧cs.all iv=true∧aY id=false) ∨
 (b=a∧∃ id k i j,a=.ref id none k i j∧aY id=true) ∨
 (b=a∧aA a=true) ∨
 (aA b=true∧∀ A2:Nat→Prop,(∀ b,A b→A2 b)→(∀ id sub,dM a=[id]→live h' id sub→A2 (ρ id sub).1)→RD w A2 b u)
theorem uM (r:Rel w X ρ h') {a b:AV} {u:Value} (hv:RV w (aH w X h' ρ) ρ h' a u) (he:iC h' a=some b):aeo w (aH w X h' ρ) ρ h' a b u:=by
 have dl:aA a=true→iC h' a=some a→aeo w (aH w X h' ρ) ρ h' a b u:=fun hd hq=>by
  rw [hq] at he
  cases he
  exact .inr (.inr (.inr (.inl ⟨rfl,hd⟩)))
 cases a with
 | rsl id sub k lo n =>
  obtain ⟨a,cap,rfl,hp,hn,hb,ha⟩:=hv.rsl_inv
  cases sub with
  | none =>
   simp only [iC] at he
   split at he
   ·cases he
   ·rename_i hps
    have ho:=r.ob id
    cases e:h' id with
    | dead=>rw [e] at he; cases he
    | ar k' rows =>
     rw [e] at he ho
     simp only [tQ] at he
     split at he
     ·rename_i hc
      obtain ⟨rfl,hle⟩:=hc
      split at he
      ·rename_i hw
       obtain ⟨rfl,rfl⟩:=hw
       cases he
       exact .inl ⟨id,k',rows,rfl,rfl,e,by simpa using hps⟩
      ·cases he
       obtain ⟨us,t,h1,h3,h4,h5⟩:=ho
       exact .inr (.inr (.inr (.inr ⟨rfl,fun A2 hA hl=>Dd h1 (hl id none rfl (by simp [live,e])) hA h5 hle hn ha⟩)))
     ·cases he
    | fz k' rows =>
     rw [e] at he ho
     simp only [tQ] at he
     split at he
     ·rename_i hc
      obtain ⟨rfl,hle⟩:=hc
      cases he
      obtain ⟨h0,us,t,fr,h1,h3,h4,h5⟩:=ho
      exact .inr (.inr (.inr (.inr ⟨rfl,fun A2 hA hl=>Dd h1 (hA _ h0) hA h5 hle hn ha⟩)))
     ·cases he
    | bx cs =>
     rw [e] at he
     simp only [tQ] at he
     split at he
     ·rename_i hc
      obtain ⟨rfl,hle,hd⟩:=hc
      cases he
      obtain ⟨us,t,h1,h3,h4,h5⟩:=r.cell e
      refine .inr (.inr (.inr (.inr ⟨rfl,fun A2 hA hl=>jO h1 (hl id none rfl (by simp [live,e])) (fun i row hi=>?_) (by simpa [nS] using hle) hn ha⟩)))
      simp only [nS,List.getElem?_map,Option.map_eq_some_iff] at hi
      obtain ⟨c,hc,rfl⟩:=hi
      refine ⟨rfl,fun j d hj=>?_⟩
      cases j with
      | succ j=>simp at hj
      | zero =>
       simp at hj
       subst hj
       obtain ⟨u,h6,h7⟩:=h5 i c hc
       have hdc:=List.all_eq_true.1 hd c (List.mem_of_getElem? hc)
       exact ⟨u,by simpa using h6,ES h7 hdc hA (fun k rows ec=>by subst ec; exact hl id (some i) rfl ⟨cs,k,rows,e,hc⟩),zz hdc⟩
     ·cases he
  | some p =>
   simp only [iC] at he
   split at he
   ·cases he
   ·cases e:h' id with
    | bx cs =>
     rw [e] at he
     simp only [go] at he
     cases ec:cs[p]? with
     | none=>rw [ec] at he; cases he
     | some c =>
      rw [ec] at he
      cases c <;> simp only [pW,aib] at he <;> try (cases he; done)
      split at he
      ·rename_i hc
       obtain ⟨rfl,hle⟩:=hc
       cases he
       obtain ⟨us,t,h1,h3,h4,h5⟩:=r.cell e
       obtain ⟨u,_,a',cap',us',t',_,_,_,q4,q5,q6,q7⟩:=h5 p _ ec
       exact .inr (.inr (.inr (.inr ⟨rfl,fun A2 hA hl=>Dd q4 (hl id (some p) rfl ⟨cs,_,_,e,ec⟩) hA q7 hle hn ha⟩)))
      ·cases he
    | _=>rw [e] at he; cases he
 | ref id sub k i j =>
  cases sub with
  | some p=>simp [iC,aA] at he
  | none =>
   simp only [iC] at he
   split at he
   ·rename_i hps
    cases he
    exact .inr (.inr (.inl ⟨rfl,id,k,i,j,rfl,hps⟩))
   ·rename_i hps
    split at he
    ·rename_i hc
     obtain ⟨rfl,rfl,rfl⟩:=hc
     cases e:h' id <;> rw [e] at he <;> simp only [abO] at he <;> try (cases he; done)
     split at he
     ·rename_i hd
      cases he
      exact .inr (.inl ⟨id,_,rfl,rfl,e,hd,by simpa using hps⟩)
     ·cases he
    ·cases he
 | fn f x y =>
  simp only [iC] at he
  split at he
  ·rename_i hd; exact dl hd (by simp [iC,hd])
  ·cases he
 | any=>exact dl rfl rfl
 | v x=>exact dl rfl rfl
 | emp=>exact dl rfl rfl
 | sl k rows=>exact dl rfl rfl
 | _=>simp [iC,aA] at he
theorem Pf {b c:AV} (hdl:aA b=true) (hd:tT b=some c):c=b:=by
 unfold tT at hd
 split at hd
 ·simp [aA] at hdl
 ·rw [if_pos hdl] at hd
  cases hd
  rfl
theorem Hd (r:Rel w X ρ h') {a b c:AV} {u:Value} (hv:RV w (aH w X h' ρ) ρ h' a u) (h1:u.oneCell'=true) (he:iC h' a=some b) (hd:tT b=some c) :
  aA c=true∧∀ A2:Nat→Prop,(∀ b,aH w X h' ρ b→A2 b)→(∀ id sub,dM a=[id]→live h' id sub→A2 (ρ id sub).1)→RD w A2 c u:=by
 rcases uM r hv he with ⟨id,k,rows,rfl,rfl,e,_⟩ | ⟨id,cs,rfl,_⟩ | ⟨rfl,id,k,i,j,rfl,_⟩ | ⟨rfl,hdl⟩ | ⟨hdl,hr⟩
 ·simp only [tT,Option.some.injEq] at hd
  subst hd
  refine ⟨rfl,fun A2 hA hl=>?_⟩
  obtain ⟨a,cap,rfl,hp,hn,hb,ha⟩:=hv.rsl_inv
  have ho:=r.ob id
  rw [e] at ho
  obtain ⟨us,t,g1,g2,g3,g4⟩:=ho
  have:=Dd (w:=w) (A2:=A2) (lo:=0) g1 (hl id none rfl (by simp [live,e])) hA g4 (by omega) hn ha
  simpa [kz] using this
 ·simp [tT,aA] at hd
 ·simp [tT,aA] at hd
 ·have:c=b:=Pf hdl hd
  subst this
  exact ⟨hdl,fun A2 hA _=>(hv.toD hdl h1).mono fun b hb=>⟨hA b hb,rfl⟩⟩
 ·have:c=b:=Pf hdl hd
  subst this
  exact ⟨hdl,hr⟩
theorem Em (r:Rel w X ρ h'):∀ (cs ds:List AV),iD h' cs=some ds→ds.length=cs.length∧∀ (i:Nat) (a c:AV) (u:Value),cs[i]?=some a→ds[i]?=some c→RV w (aH w X h' ρ) ρ h' a u→u.oneCell'=true →
  aA c=true∧∀ A2:Nat→Prop,(∀ b,aH w X h' ρ b→A2 b)→(∀ id sub,dM a=[id]→live h' id sub→A2 (ρ id sub).1)→RD w A2 c u
 | [],ds,he=>by simp [iD] at he; subst he; exact ⟨rfl,fun i a c u hc=>by simp at hc⟩
 | a::cs,ds,he=>by
  simp only [iD,Option.bind_eq_some_iff] at he
  obtain ⟨b,e1,c,e2,q,e3,e4⟩:=he
  cases e4
  obtain ⟨g1,g2⟩:=Em r cs q e3
  refine ⟨by simp [g1],fun i a' c' u hc hd hv h1=>?_⟩
  cases i with
  | zero =>
   simp only [List.getElem?_cons_zero,Option.some.injEq] at hc hd
   subst hc hd
   exact Hd r hv h1 e1 e2
  | succ i=>exact g2 i a' c' u (by simpa using hc) (by simpa using hd) hv h1
end
def vT (f:ab→Option R3) (p:ab→ab→Fp) (h:ab) (x:AV) (h':ab) (r w:List Nat):Prop :=
 ∀ g:ab,(∀ i,cI i ∈ r∨cI i ∈ w→g i=h i)→∃ g',f g=some (x,g',[])∧p g g'=some (r,w)∧(∀ i,cI i ∈ w→g' i=h' i)∧(∀ i,cI i ∉ w→g' i=g i)
section
variable {h h' g:ab} {x:AV} {r w:List Nat}
theorem xL {f:ab→Option R3} {p:ab→ab→Fp} (hw:w=[]) (hp:∀ g g',p g g'=some (r,w)) (hf:∀ g:ab,(∀ i,cI i ∈ r→g i=h i)→f g=some (x,g,[])):vT f p h x h' r w:=fun g hg=>by
 subst hw
 exact ⟨g,hf g fun i hi=>hg i (.inl hi),hp g g,fun i hi=>by simp at hi,fun _ _=>rfl⟩
theorem lG {f:ab→Option R3} {p:ab→ab→Fp} {d:Nat} {o:Ob} (hd:cI d ∈ w) (hh:h'=upd h d o) (hp:∀ g g',p g g'=some (r,w)) (hf:∀ g:ab,g d=h d→f g=some (x,upd g d o,[])):vT f p h x h' r w:=fun g hg=>by
 refine ⟨upd g d o,hf g (hg d (.inr hd)),hp g _,fun i hi=>?_,fun i hi=>?_⟩
 ·subst hh
  unfold upd
  split
  ·rfl
  ·exact hg i (.inr hi)
 ·unfold upd
  split
  ·rename_i e; subst e; exact absurd hd hi
  ·rfl
theorem ab0 {a:AV} (hd:aA a=true) (h:ab):ey h a=some (a,h,[]):=by
 cases a <;> simp [aA] at hd <;> simp [ey,aA,hd]
theorem iM:∀ {xs:List AV},xs.all aA=true→∀ h:ab,eS h xs=some (xs,h,[])
 | [],_,h=>rfl
 | a::l,hd,h=>by
  simp only [List.all_cons,Bool.and_eq_true] at hd
  simp only [eS,ab0 hd.1 h,iM hd.2 h,Option.bind_some,List.append_nil]
theorem uN {a:AV} {xs:List AV} (hd:dat a=true) (hc:eN a=some xs):xs.all aA=true:=by
 cases a <;> simp only [dat,aA,eN,Option.some.injEq] at hd hc <;> first | (cases hc; done) | (cases hd; done) | skip
 all_goals subst hc
 all_goals first | exact hd | simp [aA] | skip
 simp [] at hd ⊢
 exact hd
theorem Bw {k:Nat}:∀ {ps:List (Nat × AV)} {rows rows':List (List AV)} {h h':ab} {ks:K},(ps.all fun p=>dat p.2)=true→dT k h rows ps=some (rows',h',ks)→h'=h∧ks=[]∧∀ g:ab,dT k g rows ps=some (rows',g,[])
 | [],rows,rows',h,h',ks,_,hz=>by
  simp only [dT,Option.some.injEq,Prod.mk.injEq] at hz
  obtain ⟨rfl,rfl,rfl⟩:=hz
  exact ⟨rfl,rfl,fun g=>rfl⟩
 | (i,a)::ps,rows,rows',h,h',ks,hd,hz=>by
  simp only [List.all_cons,Bool.and_eq_true] at hd
  simp only [dT,Option.bind_eq_some_iff] at hz
  obtain ⟨cs,e1,hz⟩:=hz
  split at hz
  ·rename_i hc
   have hcs:=uN hd.1 e1
   simp only [iM hcs h,Option.bind_some,Option.bind_eq_some_iff] at hz
   obtain ⟨⟨r1,r2,r3⟩,e2,e3⟩:=hz
   simp only [List.nil_append,Option.some.injEq,Prod.mk.injEq] at e3
   obtain ⟨rfl,rfl,rfl⟩:=e3
   obtain ⟨q1,q2,q3⟩:=Bw hd.2 e2
   refine ⟨q1,q2,fun g=>?_⟩
   simp only [dT,e1,Option.bind_some,if_pos hc,iM hcs g,q3 g,List.nil_append]
  ·cases hz
theorem tr {k k0 i j:Nat} {agg:Bool} {o:Option (Nat × List (List AV))} {ks:K} (hz:jI h k agg k0 i j o=some (x,h',ks)):h'=h∧ks=[]∧∀ g:ab,jI g k agg k0 i j o=some (x,g,[]):=by
 cases o with
 | none=>cases hz
 | some q =>
  obtain ⟨k',rows⟩:=q
  simp only [jI] at hz
  split at hz
  ·rename_i hk
   simp only [Option.bind_eq_some_iff,Option.map_eq_some_iff] at hz
   obtain ⟨row,e1,a,e2,e3⟩:=hz
   cases e3
   refine ⟨rfl,rfl,fun g=>?_⟩
   simp only [jI,if_pos hk,e1,Option.bind_some,e2,Option.map_some]
  ·cases hz
theorem Y0 {k id k0 i j:Nat} {agg:Bool} {o:Ob} (hz:sQ h k agg id k0 i j o=some (x,h',[])):h'=h∧∀ g:ab,sQ g k agg id k0 i j o=some (x,g,[]):=by
 cases o with
 | dead=>cases hz
 | bx cs =>
  simp only [sQ,ze] at hz ⊢
  cases agg with
  | true =>
   simp only [if_true] at hz ⊢
   split at hz
   ·rename_i hc
    simp only [if_pos hc]
    split at hz
    ·cases hz
    ·rename_i hn
     simp only [if_neg hn]
     cases hz
     exact ⟨rfl,fun g=>rfl⟩
   ·cases hz
  | false =>
   simp only [Bool.false_eq_true,if_false,Option.map_eq_some_iff] at hz ⊢
   obtain ⟨c,e1,e2⟩:=hz
   cases e2
   exact ⟨rfl,fun g=>⟨c,e1,rfl⟩⟩
 | ar k' rows =>
  simp only [sQ] at hz ⊢
  exact ⟨(tr hz).1,(tr hz).2.2⟩
 | fz k' rows =>
  simp only [sQ] at hz ⊢
  exact ⟨(tr hz).1,(tr hz).2.2⟩
theorem Wo {k:Nat} {agg:Bool} {a:AV} (hz:fw h k agg a=some (x,h',[])) (hp:ng a=some (r,w)):vT (fun g=>fw g k agg a) (fun _ _=>ng a) h x h' r w:=by
 cases a <;> simp only [ng] at hp <;> try (cases hp; done)
 case ipt cs =>
  cases hp
  refine xL rfl (fun _ _=>rfl) fun g _=>?_
  simp only [fw,Option.map_eq_some_iff] at hz ⊢
  obtain ⟨_,e1,e2⟩:=hz
  cases e2
  exact ⟨_,e1,rfl⟩
 case ref id sub k0 i j =>
  cases hp
  refine xL rfl (fun _ _=>rfl) fun g hg=>?_
  have hid:g id=h id:=hg id (by simp)
  cases sub with
  | none =>
   simp only [fw] at hz ⊢
   rw [hid]
   exact (Y0 hz).2 g
  | some p =>
   simp only [fw] at hz ⊢
   rw [hid]
   exact (tr hz).2.2 g
theorem Th {k:Nat} {a y:AV} (hz:ib h k a y=some (x,h',[])) (hp:sR y a=some (r,w)):vT (fun g=>ib g k a y) (fun _ _=>sR y a) h x h' r w:=by
 cases a <;> simp only [sR] at hp <;> try (cases hp; done)
 rename_i id sub k0 i j
 split at hp
 ·rename_i hd
  cases hp
  simp only [ib,Option.bind_eq_some_iff] at hz
  obtain ⟨xs,e1,hz⟩:=hz
  have hxs:=uN hd e1
  split at hz
  ·rename_i hk
   cases sub with
   | none =>
    simp only at hz
    cases eo:h id with
    | bx cs =>
     rw [eo] at hz
     simp only [xG,Jm] at hz
     split at hz
     ·rename_i hc
      simp only [Option.some.injEq,Prod.mk.injEq] at hz
      obtain ⟨rfl,rfl,e3⟩:=hz
      refine lG (by simp) rfl (fun _ _=>by simp only [sR,if_pos hd]) fun g hg=>?_
      simp only [ib,e1,Option.bind_some,if_pos hk,hg,eo,xG,Jm,if_pos hc,hxs,if_true,e3]
     ·cases hz
    | ar k' rows =>
     rw [eo] at hz
     simp only [xG,iM hxs h,Option.bind_some,eo,Jn,Option.map_eq_some_iff] at hz
     obtain ⟨q,e2,e3⟩:=hz
     cases e3
     refine lG (by simp) rfl (fun _ _=>by simp only [sR,if_pos hd]) fun g hg=>?_
     simp only [ib,e1,Option.bind_some,if_pos hk,hg,eo,xG,iM hxs g,Jn,e2,Option.map_some]
    | _=>rw [eo] at hz; cases hz
   | some p =>
    simp only [iM hxs h,Option.bind_some] at hz
    cases eo:h id with
    | bx cs =>
     rw [eo] at hz
     simp only [xd] at hz
     cases ec:cs[p]? with
     | none=>rw [ec] at hz; cases hz
     | some c =>
      rw [ec] at hz
      cases c <;> simp only [VH] at hz <;> try (cases hz; done)
      simp only [Option.map_eq_some_iff] at hz
      obtain ⟨q,e2,e3⟩:=hz
      cases e3
      refine lG (by simp) rfl (fun _ _=>by simp only [sR,if_pos hd]) fun g hg=>?_
      simp only [ib,e1,Option.bind_some,if_pos hk,hg,eo,xd,iM hxs g,VH,ec,e2,Option.map_some]
    | _=>rw [eo] at hz; cases hz
  ·cases hz
 ·cases hp
end
theorem ail {a b:Value} (h:eqV a b=true):a=b:=by
 cases a <;> cases b <;> simp only [eqV] at h <;> try (cases h; done)
 case int.int=>simp only [Bool.and_eq_true,decide_eq_true_eq] at h; rw [h.1,h.2]
 case bool.bool=>simp at h; rw [h]
 case string.string x y =>
  simp only [decide_eq_true_eq] at h
  obtain ⟨⟨x⟩⟩:=x
  obtain ⟨⟨y⟩⟩:=y
  simp at h
  rw [h]
 case pointer.pointer x y=>cases x <;> cases y <;> first | rfl | cases h
 case nilFunc.nilFunc=>rfl
mutual
theorem aim:∀ {a b:AV},eqA a b=true→a=b
 | a,b,h=>by
  cases a <;> cases b <;> simp only [eqA] at h <;> try (first | rfl | (cases h; done))
  case v.v=>rw [ail h]
  case sl.sl=>simp only [Bool.and_eq_true,decide_eq_true_eq] at h; rw [h.1,Bx h.2]
  case osl.osl=>simp only [Bool.and_eq_true,decide_eq_true_eq] at h; rw [h.1,Bx h.2]
  case obx.obx=>rw [qK h]
  case agg.agg=>rw [qK h]
  case ref.ref=>simp only [decide_eq_true_eq] at h; obtain ⟨rfl,rfl,rfl,rfl,rfl⟩:=h; rfl
  case rsl.rsl=>simp only [decide_eq_true_eq] at h; obtain ⟨rfl,rfl,rfl,rfl,rfl⟩:=h; rfl
  case ipt.ipt=>rw [qK h]
  case fn.fn=>simp only [Bool.and_eq_true,decide_eq_true_eq] at h; rw [h.1,qK h.2.1,qK h.2.2]
theorem qK:∀ {a b:List AV},Bh a b=true→a=b
 | [],[],_=>rfl
 | [],_::_,h=>by cases h
 | _::_,[],h=>by cases h
 | a::l,b::r,h=>by
  simp only [Bh,Bool.and_eq_true] at h
  rw [aim h.1,qK h.2]
theorem Bx:∀ {a b:List (List AV)},O0 a b=true→a=b
 | [],[],_=>rfl
 | [],_::_,h=>by cases h
 | _::_,[],h=>by cases h
 | a::l,b::r,h=>by
  simp only [O0,Bool.and_eq_true] at h
  rw [qK h.1,Bx h.2]
end
theorem ab1 {a b:Ob} (h:Oq a b=true):a=b:=by
 cases a <;> cases b <;> simp only [Oq] at h <;> try (first | rfl | (cases h; done))
 case bx.bx=>rw [qK h]
 case ar.ar=>simp only [Bool.and_eq_true,decide_eq_true_eq] at h; rw [h.1,Bx h.2]
 case fz.fz=>simp only [Bool.and_eq_true,decide_eq_true_eq] at h; rw [h.1,Bx h.2]
theorem Y3 {g h g' h':ab} {ids:List Nat} (e:∀ i,i ∈ ids→g i=h i) (e':∀ i,i ∈ ids→g' i=h' i):LJ g g' ids=LJ h h' ids:=by
 unfold LJ
 refine List.filter_congr fun i hi=>?_
 rw [e i hi,e' i hi]
theorem ab2 {h h':ab} {ids:List Nat} {i:Nat} (hi:i ∈ ids) (hn:cI i ∉ (LJ h h' ids).map cI):h' i=h i:=by
 by_cases hs:Oq (h i) (h' i)=true
 ·exact (ab1 hs).symm
 ·refine absurd (List.mem_map.2 ⟨i,?_,rfl⟩) hn
  simp only [LJ,List.mem_filter]
  exact ⟨hi,by simpa using hs⟩
theorem zD {a:Nat}:∀ {r l:List Nat},a ∈ l→a ∈ bE l r
 | [],l,h=>h
 | b::r,l,h=>by
  unfold bE
  apply zD
  split
  ·exact h
  ·simp [h]
theorem vU:∀ {r l:List Nat},l.Nodup→(bE l r).Nodup
 | [],l,h=>h
 | b::r,l,h=>by
  unfold bE
  apply vU
  split
  ·exact h
  ·rename_i hc
   rw [List.nodup_append]
   refine ⟨h,by simp,fun a ha c hc'=>?_⟩
   simp only [List.mem_singleton] at hc'
   subst hc'
   rintro rfl
   exact hc (by simpa using ha)
theorem LU {h:ab} {a:Nat}:∀ {n:Nat} {l:List Nat} {i:Nat},a ∈ l→a ∈ bW h n l i
 | 0,l,i,hm=>hm
 | n+1,l,i,hm=>by
  unfold bW
  split
  ·exact hm
  ·exact LU (zD hm)
theorem En {h:ab}:∀ {n:Nat} {l:List Nat} {i:Nat},l.Nodup→(bW h n l i).Nodup
 | 0,l,i,hm=>hm
 | n+1,l,i,hm=>by
  unfold bW
  split
  ·exact hm
  ·exact En (vU hm)
theorem xM {g h:ab}:∀ {n:Nat} {l:List Nat} {i:Nat},(∀ a,a ∈ bW h n l i→g a=h a)→bW g n l i=bW h n l i
 | 0,l,i,_=>rfl
 | n+1,l,i,hg=>by
  unfold bW at hg ⊢
  split
  ·rfl
  ·rename_i a ha
   rw [ha] at hg
   simp only at hg
   rw [hg a (LU (zD (List.mem_of_getElem? ha)))]
   exact xM hg
theorem LV (h:ab) (n:Nat):bW h n [] 0=[]:=by cases n <;> simp [bW]
theorem Pg {a:AV} (h:aA a=true):dM a=[]:=by cases a <;> simp [aA] at h <;> rfl
theorem Ph {a:AV} (h:dat a=true):bI a=[]:=by
 cases a <;> simp only [dat] at h <;> try exact Pg h
 case agg cs =>
  simp only [bI,List.flatMap_eq_nil_iff]
  exact fun c hc=>Pg (List.all_eq_true.1 h c hc)
 case fn f x y =>
  simp only [aA,Bool.and_eq_true,List.isEmpty_iff] at h
  simp [bI,h.1,h.2]
theorem LW {a:AV} (h:dat a=true):nU a=true:=by
 have key:∀ c,aA c=true→l4 c=true:=fun c hc=>by cases c <;> simp [aA] at hc <;> rfl
 cases a <;> simp only [dat] at h <;> try exact key _ h
 case agg cs =>
  simp only [nU,List.all_eq_true] at h ⊢
  exact fun c hc=>key c (h c hc)
 case fn f x y =>
  simp only [aA,Bool.and_eq_true,List.isEmpty_iff] at h
  simp [nU,h.1,h.2]
section
variable {h h' g:ab} {x:AV}
theorem Eo:∀ {cs:List AV} {q:List AV × ab × K},cs.all l4=true→eS h cs=some q→q=(cs,h,[])∧∀ g:ab,eS g cs=some (cs,g,[])
 | [],q,_,hz=>by cases hz; exact ⟨rfl,fun g=>rfl⟩
 | c::cs,q,hd,hz=>by
  simp only [List.all_cons,Bool.and_eq_true] at hd
  simp only [eS,Option.bind_eq_some_iff] at hz
  obtain ⟨p,e1,q',e2,e3⟩:=hz
  have hc:p=(c,h,[])∧∀ g:ab,ey g c=some (c,g,[]):=by
   cases c <;> simp only [l4] at hd <;> simp only [ey] at e1 ⊢ <;> first | (cases hd.1; done) | skip
   all_goals
    split at e1
    ·rename_i hdl
     simp only [if_pos hdl]
     cases e1
     exact ⟨rfl,fun g=>by first | trivial | rfl⟩
    ·cases e1
  obtain ⟨rfl,hc2⟩:=hc
  obtain ⟨rfl,q2⟩:=Eo hd.2 e2
  cases e3
  refine ⟨rfl,fun g=>?_⟩
  simp only [eS,hc2 g,Option.bind_some,q2 g,List.append_nil]
theorem Ti {m:Nat} {a:AV} {q:R3} (hd:nU a=true) (hz:ct h m a=some q):q=(a,h,[])∧∀ g:ab,ct g m a=some (a,g,[]):=by
 have key:∀ c:AV,(∀ cs,c ≠ .agg cs)→l4 c=true→pp h c=some q→q=(c,h,[])∧∀ g:ab,pp g c=some (c,g,[]):=by
  intro c hna hc hz
  have e1:∀ g:ab,pp g c=if aA c then some (c,g,[]) else none:=by
   intro g
   cases c <;> simp only [l4] at hc <;> first | (cases hc; done) | (exact absurd rfl (hna _)) | rfl
  rw [e1] at hz
  split at hz
  ·rename_i hdl
   cases hz
   exact ⟨rfl,fun g=>by rw [e1,if_pos hdl]⟩
  ·cases hz
 cases a with
 | agg cs =>
  simp only [nU] at hd
  simp only [ct,pp,Option.bind_eq_some_iff] at hz ⊢
  obtain ⟨p,e1,e2⟩:=hz
  obtain ⟨rfl,q2⟩:=Eo hd e1
  cases e2
  exact ⟨rfl,fun g=>⟨_,q2 g,rfl⟩⟩
 | rsl=>simp [nU,l4] at hd
 | rsc=>simp [nU,l4] at hd
 | ref id sub k i j =>
  cases sub with
  | none =>
   simp only [ct,Option.some.injEq] at hz ⊢
   subst hz
   exact ⟨rfl,fun g=>by first | trivial | rfl⟩
  | some p=>exact key _ (fun cs=>by simp) rfl hz
 | ipt cs =>
  simp only [ct,Option.some.injEq] at hz ⊢
  subst hz
  exact ⟨rfl,fun g=>by first | trivial | rfl⟩
 | fn f u v =>
  simp only [ct,Option.some.injEq] at hz ⊢
  subst hz
  exact ⟨rfl,fun g=>by first | trivial | rfl⟩
 | _=>exact key _ (fun cs=>by simp) rfl hz
theorem By:∀ {l:List AV} {ms:List Nat} {q:List AV × ab × K},l.all nU=true→bH h ms l=some q→q=(l,h,[])∧∀ g:ab,bH g ms l=some (l,g,[])
 | [],ms,q,_,hz=>by cases hz; exact ⟨rfl,fun g=>rfl⟩
 | a::l,ms,q,hd,hz=>by
  simp only [List.all_cons,Bool.and_eq_true] at hd
  simp only [bH,Option.bind_eq_some_iff] at hz
  obtain ⟨p,e1,q',e2,e3⟩:=hz
  obtain ⟨rfl,p2⟩:=Ti hd.1 e1
  obtain ⟨rfl,q2⟩:=By hd.2 e2
  cases e3
  refine ⟨rfl,fun g=>?_⟩
  simp only [bH,p2 g,Option.bind_some,q2 g,List.append_nil]
theorem Pi {ids:List Nat} {i:Nat}:∀ {l:List Nat} {os:List Ob} {g h:ab},g i=h i→dt g ids l os i=dt h ids l os i
 | [],os,g,h,e=>by simpa [dt] using e
 | a::l,[],g,h,e=>by simpa [dt] using e
 | a::l,o::os,g,h,e=>by
  simp only [dt]
  apply Pi
  unfold upd
  split
  ·rfl
  ·exact e
theorem qn {ids:List Nat} {i:Nat}:∀ {l:List Nat} {os:List Ob} {g:ab},i ∉ l→dt g ids l os i=g i
 | [],os,g,_=>rfl
 | a::l,[],g,_=>rfl
 | a::l,o::os,g,hn=>by
  simp only [List.mem_cons,not_or] at hn
  simp only [dt]
  rw [qn hn.2]
  exact aG _ _ hn.1
theorem ET (n:Nat) (g h:ab) (c:AV):(cM n g c).1=(cM n h c).1:=by cases c <;> rfl
theorem Up {n i:Nat} {g h:ab} {c:AV} (e:g i=h i):(cM n g c).2 i=(cM n h c).2 i:=by
 cases c <;> simp only [cM] <;> first | exact e | (unfold upd; split; rfl; exact e)
theorem Pj {n i:Nat} {g:ab} {c:AV} (hn:i ≠ n):(cM n g c).2 i=g i:=by
 cases c <;> simp only [cM] <;> first | rfl | exact aG _ _ hn
theorem Pk:∀ (l:List AV) (n:Nat) (g h:ab),(bP n g l).1=(bP n h l).1
 | [],n,g,h=>rfl
 | c::l,n,g,h=>by simp only [bP]; rw [ET n g h,Pk l (n+1) _ (cM n h c).2]
theorem Uq {i:Nat}:∀ {l:List AV} {n:Nat} {g h:ab},g i=h i→(bP n g l).2 i=(bP n h l).2 i
 | [],n,g,h,e=>e
 | c::l,n,g,h,e=>by simp only [bP]; exact Uq (Up e)
theorem Pm {i:Nat}:∀ {l:List AV} {n:Nat} {g:ab},¬ (n≤i∧i < n+l.length)→(bP n g l).2 i=g i
 | [],n,g,hn=>rfl
 | c::l,n,g,hn=>by
  simp only [bP]
  simp only [List.length_cons] at hn
  rw [Pm (by omega),Pj (by omega)]
theorem Ur (n:Nat) (g h:ab) (c:AV):(mat n g c).1=(mat n h c).1:=by
 cases c <;> simp only [mat] <;> first | exact ET _ _ _ _ | rw [Pk]
theorem Y4 {n i:Nat} {g h:ab} {c:AV} (e:g i=h i):(mat n g c).2 i=(mat n h c).2 i:=by
 cases c <;> simp only [mat] <;> first | exact Up e | exact Uq e
theorem rY {n i:Nat} {g:ab} {c:AV} (hn:¬ (n≤i∧i < n+cx c)):(mat n g c).2 i=g i:=by
 cases c <;> simp only [mat] <;> simp only [cx] at hn <;> first | exact Pj (by omega) | exact Pm hn
theorem Ep {g h:ab}:∀ {m n:Nat},(∀ i,n≤i→i < n+m→g i=h i)→cV g n m=cV h n m
 | 0,n,_=>rfl
 | m+1,n,hg=>by
  simp only [cV]
  rw [hg n (by omega) (by omega),Ep fun i h1 h2=>hg i (by omega) (by omega)]
theorem Ax {g h:ab} {gv:K}:∀ {l:List Nat} {os:List Ob},(∀ a,a ∈ l→g a=h a)→cW g gv l os=cW h gv l os
 | [],os,_=>rfl
 | a::l,[],_=>rfl
 | a::l,o::os,hg=>by
  simp only [cW]
  rw [hg a (by simp),Ax fun b hb=>hg b (by simp [hb])]
theorem xg {d i:Nat} (h1:2000+8*d≤i) (h2:i < 2000+8*d+8):cI i=2000+8*d:=by
 unfold cI
 rw [if_neg (by omega)]
 omega
theorem MI {kp:Bool} {d:Nat} {ids:List Nat} {gv:K} {r:AV × List Ob} (hz:dN kp h d ids [] gv r=some (x,h',[])) (hg:∀ i,cI i ∈ ids.map cI++[2000+8*d]→g i=h i) :
  ∃ g',dN kp g d ids [] gv r=some (x,g',[])∧(∀ i,cI i ∈ ids.map cI++[2000+8*d]→g' i=h' i)∧(∀ i,cI i ∉ ids.map cI++[2000+8*d]→g' i=g i)∧∀ i,i ∉ ids→cI i ≠ 2000+8*d→h' i=h i:=by
 unfold dN at hz ⊢
 split at hz
 ·rename_i hc
  simp only [Option.some.injEq,Prod.mk.injEq,List.nil_append,List.append_eq_nil_iff] at hz
  obtain ⟨rfl,rfl,hk,rfl⟩:=hz
  obtain ⟨c1,c0,c2,c3,c4,c5⟩:=hc
  have hid:∀ a,a ∈ ids→g a=h a:=fun a ha=>hg a (by simp; exact .inl ⟨a,ha,rfl⟩)
  have hfr:cV g (2000+8*d) (cx r.1)=true:=by
   rw [Ep (h:=h) fun i h1 h2=>hg i (by rw [xg h1 (by omega)]; simp)]; exact c3
  have hst:cW g [] ids r.2=true:=by rw [Ax (h:=h) hid]; exact c4
  refine ⟨(mat (2000+8*d) (dt g ids ids r.2) r.1).2,?_,fun i hi=>?_,fun i hi=>?_,fun i hi hi2=>?_⟩
  ·rw [if_pos ⟨c1,c0,c2,hfr,hst,c5⟩,hk]
   simp only [eU,List.append_nil]
   rw [Ur _ (dt g ids ids r.2) (dt h ids ids r.2)]
  ·simp only [eU]
   exact Y4 (Pi (hg i hi))
  ·rw [rY (fun hh=>hi (by rw [xg hh.1 (by omega)]; simp)),qn (fun hh=>hi (by simp; exact .inl ⟨i,hh,rfl⟩))]
  ·simp only [eU]
   rw [rY (fun hh=>hi2 (xg hh.1 (by omega))),qn hi]
 ·cases hz
theorem Tj {call:dG} {md:Mode} {d:Nat} {f:AV} {zas:List AV} {r w:List Nat} (hz:dm call md h d zas f=some (x,h',[])) (hp:gK h d (jJ zas f) h'=some (r,w)) :
  vT (fun g=>dm call md g d zas f) (fun g=>gK g d (jJ zas f)) h x h' r w:=by
 cases f <;> simp only [dm] at hz <;> try (cases hz; done)
 rename_i fid a b
 simp only [jJ] at hp
 simp only [Option.bind_eq_some_iff] at hz
 obtain ⟨p,e1,e2⟩:=hz
 have hno:(a++zas++b).all nU=true:=by
  unfold gK at hp
  split at hp
  ·rename_i hd
   rw [List.all_eq_true] at hd ⊢
   exact fun c hc=>LW (hd c hc)
  ·split at hp
   ·assumption
   ·cases hp
 obtain ⟨rfl,e3⟩:=By hno e1
 simp only at e2
 generalize hI:bW h 40 (bE [] ((a++zas++b).flatMap bI)) 0=ids at *
 have hids:(∀ i,i ∈ ids→cI i ∈ r)∧w=(LJ h h' ids).map cI++[2000+8*d] ∧
   (∀ g g':ab,(∀ i,i ∈ ids→g i=h i)→(∀ i,i ∈ ids→g' i=h' i)→gK g d (a++zas++b) g'=some (r,w)):=by
  unfold gK at hp
  split at hp
  ·rename_i hd
   cases hp
   have:(a++zas++b).flatMap bI=[]:=by
    rw [List.flatMap_eq_nil_iff]
    exact fun c hc=>Ph (List.all_eq_true.1 hd c hc)
   rw [this] at hI
   simp only [bE,LV] at hI
   subst hI
   refine ⟨fun i hi=>by simp at hi,rfl,fun g g' _ _=>?_⟩
   unfold gK
   rw [if_pos hd]
  ·rename_i hd
   rw [hI] at hp
   cases hp
   refine ⟨fun i hi=>List.mem_map.2 ⟨i,hi,rfl⟩,rfl,fun g g' hg hg'=>?_⟩
   unfold gK
   have hre:bW g 40 (bE [] ((a++zas++b).flatMap bI)) 0=ids:=by
    rw [← hI]
    exact xM fun i hi=>hg i (by rw [← hI]; exact hi)
   rw [if_neg hd,if_pos hno,hre,Y3 hg hg']
 obtain ⟨hi1,hi2,hi3⟩:=hids
 intro g hg
 have hat:∀ i,i ∈ ids→g i=h i:=fun i hi=>hg i (.inl (hi1 i hi))
 have hre:bW g 40 (bE [] ((a++zas++b).flatMap bI)) 0=ids:=by
  rw [← hI]
  exact xM fun i hi=>hat i (by rw [← hI]; exact hi)
 unfold ix at e2
 split at e2
 ·rename_i hc
  simp only [Option.bind_eq_some_iff] at e2
  obtain ⟨res,e4,e5⟩:=e2
  have hgl:∀ i,cI i ∈ ids.map cI++[2000+8*d]→g i=h i:=fun i hi=>by
   rcases List.mem_append.1 hi with hi | hi
   ·obtain ⟨a,ha,hae⟩:=List.mem_map.1 hi
    exact hg i (.inl (by rw [← hae]; exact hi1 a ha))
   ·exact hg i (.inr (by rw [hi2]; exact List.mem_append_right _ hi))
  obtain ⟨g',g1,g2,g3,g4⟩:=MI e5 (g:=g) hgl
  have hat':∀ i,i ∈ ids→g' i=h' i:=fun i hi=>g2 i (List.mem_append_left _ (List.mem_map.2 ⟨i,hi,rfl⟩))
  refine ⟨g',?_,hi3 g g' hat hat',fun i hi=>g2 i ?_,fun i hi=>?_⟩
  ·simp only [dm,e3 g,Option.bind_some,hre]
   unfold ix
   have hmap:ids.map (fun a=>cY (bm ids) (g a))=ids.map fun a=>cY (bm ids) (h a):=List.map_congr_left fun i hi=>by rw [hat i hi]
   have hall:(ids.all fun a=>aT ids (g a) && !cf (g a))=ids.all fun a=>aT ids (h a) && !cf (h a):=by
    rw [Bool.eq_iff_iff,List.all_eq_true,List.all_eq_true]
    exact ⟨fun hh i hi=>by rw [← hat i hi]; exact hh i hi,fun hh i hi=>by rw [hat i hi]; exact hh i hi⟩
   rw [hall,if_pos hc,hmap,e4]
   exact g1
  ·rw [hi2] at hi
   rcases List.mem_append.1 hi with hi | hi
   ·refine List.mem_append_left _ ?_
    obtain ⟨a,ha,hae⟩:=List.mem_map.1 hi
    exact List.mem_map.2 ⟨a,(List.mem_filter.1 ha).1,hae⟩
   ·exact List.mem_append_right _ hi
  ·by_cases hin:cI i ∈ ids.map cI++[2000+8*d]
   ·have hn2:cI i ≠ 2000+8*d:=fun e=>hi (by rw [hi2,e]; simp)
    rw [g2 i hin,hgl i hin]
    by_cases hii:i ∈ ids
    ·exact ab2 hii fun hh=>hi (by rw [hi2]; exact List.mem_append_left _ hh)
    ·exact g4 i hii hn2
   ·exact g3 i hin
 ·cases e2
theorem He {call:dG} {md:Mode} {d:Nat} {f:AV} {zas:List AV} {r w:List Nat} (hz:bA call md h d zas f=some (x,h',[])) (hp:gK h d (jJ zas f) h'=some (r,w)) :
  vT (fun g=>bA call md g d zas f) (fun g=>gK g d (jJ zas f)) h x h' r w:=by
 have hb:¬ iY md zas f=true:=by
  intro hb
  have hno:∀ l:List AV,l.all nU=true→l.any (fun x=>!GX x)=false:=fun l hl=>by
   rw [List.any_eq_false]
   intro c hc
   have:=List.all_eq_true.1 hl c hc
   cases c <;> simp [nU,l4,GX] at this ⊢
  cases f <;> simp only [iY,Bool.and_eq_true] at hb <;> try (cases hb; done)
  simp only [jJ] at hp
  unfold gK at hp
  split at hp
  ·rename_i hd
   rw [hno _ (List.all_eq_true.2 fun c hc=>LW (List.all_eq_true.1 hd c hc))] at hb
   exact Bool.false_ne_true hb.2
  ·split at hp
   ·rename_i hd
    rw [hno _ hd] at hb
    exact Bool.false_ne_true hb.2
   ·cases hp
 unfold bA at hz ⊢
 simp only [if_neg hb] at hz ⊢
 exact Tj hz hp
theorem Er {d:Nat} {x0 x:AV} {h0 g0 h':ab} {k0:K} (hz:qF d (x0,h0,k0)=some (x,h',[])) (hg:∀ i,cI i=2000+8*d→g0 i=h0 i) :
  k0=[]∧∃ g',qF d (x0,g0,[])=some (x,g',[])∧(∀ i,cI i=2000+8*d→g' i=h' i)∧(∀ i,cI i ≠ 2000+8*d→g' i=g0 i):=by
 unfold qF at hz ⊢
 simp only at hz ⊢
 split at hz
 ·rename_i id k lo n
  split at hz
  ·rename_i hid
   subst hid
   have hgd:cI (2000+8*d)=2000+8*d:=xg (Nat.le_refl _) (by omega)
   have he:=hg _ hgd
   rw [if_pos rfl]
   simp only [ey] at hz ⊢
   rw [he]
   cases eo:h0 (2000+8*d) <;> rw [eo] at hz <;> simp only [kB] at hz ⊢ <;> try (cases hz; done)
   ·split at hz
    ·simp at hz
    ·cases hz
   ·split at hz
    ·rename_i hc
     rw [if_pos hc]
     simp only [Option.map_some,Option.some.injEq,Prod.mk.injEq,List.append_nil] at hz
     obtain ⟨rfl,rfl,rfl⟩:=hz
     refine ⟨rfl,upd g0 (2000+8*d) (.fz k _),rfl,fun i hi=>?_,fun i hi=>?_⟩
     ·show upd g0 (2000+8*d) _ i=upd h0 (2000+8*d) _ i
      unfold upd
      split
      ·rfl
      ·exact hg i hi
     ·show upd g0 (2000+8*d) _ i=_
      unfold upd
      split
      ·rename_i e; subst e; exact absurd hgd hi
      ·rfl
    ·cases hz
   ·split at hz
    ·rename_i hc
     rw [if_pos hc]
     simp only [Option.map_some,Option.some.injEq,Prod.mk.injEq,List.append_nil] at hz
     obtain ⟨rfl,rfl,rfl⟩:=hz
     exact ⟨rfl,_,rfl,fun i hi=>hg i hi,fun i hi=>rfl⟩
    ·cases hz
  ·cases hz
 ·simp only [Option.some.injEq,Prod.mk.injEq] at hz
  obtain ⟨rfl,rfl,rfl⟩:=hz
  exact ⟨rfl,_,rfl,fun i hi=>hg i hi,fun i hi=>rfl⟩
theorem zE {call:dG} {md:Mode} {d:Nat} {op:AOp} {s:ag} {r w:List Nat} (hz:step call md d op s h=some (x,h',[])) (hp:ed d op s h h'=some (r,w)) :
  vT (fun g=>step call md d op s g) (fun g=>ed d op s g) h x h' r w:=by
 cases op with
 | p op =>
  simp only [ed,Option.some.injEq,Prod.mk.injEq] at hp
  obtain ⟨rfl,rfl⟩:=hp
  simp only [step,vO,Option.map_eq_some_iff] at hz
  obtain ⟨a,e1,e2⟩:=hz
  cases e2
  exact xL rfl (fun _ _=>rfl) fun g _=>by simp only [step,vO,e1,Option.map_some]
 | alloc z =>
  simp only [ed,Option.some.injEq,Prod.mk.injEq] at hp
  obtain ⟨rfl,rfl⟩:=hp
  simp only [step,ic] at hz
  obtain ⟨h1,rfl,rfl,_⟩:=i7 hz
  exact lG (by simp) rfl (fun _ _=>rfl) fun g hg=>by simp only [step,ic,hg,h1,vL]
 | box k y =>
  simp only [ed] at hp
  split at hp
  ·rename_i hd
   cases hp
   simp only [step,vM,Option.bind_eq_some_iff] at hz
   obtain ⟨xs,e1,hz⟩:=hz
   split at hz
   ·rename_i hk
    simp only [uN hd e1,if_true,ic] at hz
    obtain ⟨h1,rfl,rfl,_⟩:=i7 hz
    refine lG (by simp) rfl (fun _ _=>by simp only [ed,if_pos hd]) fun g hg=>?_
    simp only [step,vM,e1,Option.bind_some,if_pos hk,uN hd e1,if_true,ic,hg,h1,vL]
   ·cases hz
  ·cases hp
 | buildSl k z n ps =>
  simp only [ed] at hp
  split at hp
  ·rename_i hd
   cases hp
   simp only [step,Option.bind_eq_some_iff] at hz
   obtain ⟨q,e1,hz⟩:=hz
   have hd':((ps.map fun p=>(p.1,ev s p.2)).all fun p=>dat p.2)=true:=by
    rw [List.all_map]; exact hd
   obtain ⟨e2,e3,e4⟩:=Bw hd' e1
   obtain ⟨q1,q2,q3⟩:=q
   simp only at e2 e3 e4 hz
   subst e2 e3
   simp only [cG] at hz
   obtain ⟨h1,rfl,rfl,_⟩:=i7 hz
   refine lG (by simp) rfl (fun _ _=>by simp only [ed,if_pos hd]) fun g hg=>?_
   simp only [step,e4 g,Option.bind_some,cG,hg,h1,vL]
  ·cases hp
 | mkSl k z b l c =>
  simp only [ed,Option.some.injEq,Prod.mk.injEq] at hp
  obtain ⟨rfl,rfl⟩:=hp
  simp only [step,Option.bind_eq_some_iff] at hz
  obtain ⟨q,e1,hz⟩:=hz
  split at hz
  ·rename_i hb
   simp only [cG] at hz
   obtain ⟨h1,rfl,rfl,_⟩:=i7 hz
   refine lG (by simp) rfl (fun _ _=>rfl) fun g hg=>?_
   simp only [step,e1,Option.bind_some,if_pos hb,cG,hg,h1,vL]
  ·cases hz
 | load k g y=>exact Wo hz hp
 | store k a y=>exact Th hz hp
 | app k b a y=>cases hp
 | cpy k x y=>cases hp
 | slcM k x lo hi=>cases hp
 | clr k z x=>cases hp
 | appz k b z x n=>cases hp
 | take x=>cases hp
 | call f zas=>exact He hz hp
 | callC f zas =>
  simp only [step,Option.bind_eq_some_iff] at hz
  obtain ⟨⟨x0,h0,k0⟩,e1,e2⟩:=hz
  simp only [ed,Bi] at hp
  split at hp
  ·rename_i hd
   cases hp
   obtain ⟨rfl,_⟩:=Er (g0:=h0) e2 (fun _ _=>rfl)
   have hp1:gK h d (jJ (zas.map (ev s)) (ev s f)) h0=some ([],[2000+8*d]):=by unfold gK; rw [if_pos hd]
   intro g hg
   obtain ⟨g0,a1,a2,a3,a4⟩:=He e1 hp1 g hg
   obtain ⟨_,g',b1,b2,b3⟩:=Er e2 (g0:=g0) (fun i hi=>a3 i (by simp [hi]))
   refine ⟨g',?_,?_,fun i hi=>b2 i (by simpa using hi),fun i hi=>(b3 i (by simpa using hi)).trans (a4 i hi)⟩
   ·have a1':bA call md g d (zas.map (ev s)) (ev s f)=some (x0,g0,[]):=a1
    simp only [step]
    rw [a1']
    exact b1
   ·simp only [ed,Bi,if_pos hd]
  ·cases hp
 | bad=>cases hz
end
section
variable {call:dG} {md:Mode} {s:ag} {h:ab}
theorem bN {s s':ag} {o:Opd} (hs:∀ i,i ∈ eP o→s' i=s i):ev s' o=ev s o:=by
 cases o with
 | t n=>exact hs n (by simp [eP])
 | c a=>rfl
theorem nu {s s':ag} {o:Option Opd} (hs:∀ i,i ∈ kn o.toList→s' i=s i):evo s' o=evo s o:=by
 cases o with
 | none=>rfl
 | some o=>simp only [evo]; rw [bN fun i hi=>hs i (by simpa [kn] using hi)]
theorem tu {s s':ag} {l:List Opd} (hs:∀ i,i ∈ kn l→s' i=s i):l.map (ev s')=l.map (ev s) :=
 List.map_congr_left fun o ho=>bN fun i hi=>hs i (by simp only [kn,List.mem_flatMap]; exact ⟨o,ho,hi⟩)
theorem Y5 {s s':ag} {op:POp} (hs:∀ i,i ∈ GZ op→s' i=s i):en s' op=en s op:=by
 cases op <;> simp only [GZ,List.mem_append] at hs <;> simp only [en]
 case build z ps =>
  have:(ps.map fun p=>(p.1,p.2.1,ev s' p.2.2))=ps.map fun p=>(p.1,p.2.1,ev s p.2.2) :=
   List.map_congr_left fun p hp=>by rw [bN fun i hi=>hs i (by rw [List.mem_flatMap]; exact ⟨p,hp,hi⟩)]
  rw [this]
 case mnx m x ys=>rw [bN fun i hi=>hs i (.inl hi),tu fun i hi=>hs i (.inr hi)]
 case mkF f a b=>rw [tu fun i hi=>hs i (.inl hi),tu fun i hi=>hs i (.inr hi)]
 case pick c a b=>rw [bN fun i hi=>hs i (.inl hi),bN fun i hi=>hs i (.inr (.inl hi)),bN fun i hi=>hs i (.inr (.inr hi))]
 case slc k x lo hi mx=>rw [bN fun i hi=>hs i (.inl hi),nu fun i hi=>hs i (.inr (.inl hi)),nu fun i hi=>hs i (.inr (.inr (.inl hi))),nu fun i hi=>hs i (.inr (.inr (.inr hi)))]
 case slcS x lo hi=>rw [bN fun i hi=>hs i (.inl hi),nu fun i hi=>hs i (.inr (.inl hi)),nu fun i hi=>hs i (.inr (.inr hi))]
 all_goals first
  | rw [bN hs]
  | rw [bN fun i hi=>hs i (.inl hi),bN fun i hi=>hs i (.inr hi)]
theorem qL {s s':ag} {d:Nat} {op:AOp} (hs:∀ i,i ∈ G0 op→s' i=s i):step call md d op s' h=step call md d op s h∧∀ h',ed d op s' h h'=ed d op s h h':=by
 cases op <;> simp only [G0,List.mem_append] at hs <;> simp only [step,ed]
 case p op=>rw [Y5 hs]; exact ⟨rfl,fun _=>trivial⟩
 case alloc z=>exact ⟨trivial,fun _=>trivial⟩
 case box k x=>rw [bN hs]; exact ⟨rfl,fun _=>rfl⟩
 case buildSl k z n ps =>
  have:(ps.map fun p=>(p.1,ev s' p.2))=ps.map fun p=>(p.1,ev s p.2) :=
   List.map_congr_left fun p hp=>by rw [bN fun i hi=>hs i (by rw [List.mem_flatMap]; exact ⟨p,hp,hi⟩)]
  rw [this]
  have h2:(ps.all fun p=>dat (ev s' p.2))=ps.all fun p=>dat (ev s p.2):=by
   rw [show (ps.all fun p=>dat (ev s' p.2))=((ps.map fun p=>(p.1,ev s' p.2)).all fun p=>dat p.2) from by rw [List.all_map]; rfl,this,List.all_map]; rfl
  rw [h2]
  exact ⟨rfl,fun _=>rfl⟩
 case mkSl k z b l c=>rw [bN fun i hi=>hs i (.inl hi),bN fun i hi=>hs i (.inr hi)]; exact ⟨rfl,fun _=>trivial⟩
 case load k g x=>rw [bN hs]; exact ⟨rfl,fun _=>rfl⟩
 case store k x y=>rw [bN fun i hi=>hs i (.inl hi),bN fun i hi=>hs i (.inr hi)]; exact ⟨rfl,fun _=>rfl⟩
 case app k b x y=>rw [bN fun i hi=>hs i (.inl hi),bN fun i hi=>hs i (.inr hi)]; exact ⟨rfl,fun _=>trivial⟩
 case cpy k x y=>rw [bN fun i hi=>hs i (.inl hi),bN fun i hi=>hs i (.inr hi)]; exact ⟨rfl,fun _=>trivial⟩
 case slcM k x lo hi=>rw [bN fun i hi=>hs i (.inl hi),nu fun i hi=>hs i (.inr (.inl hi)),nu fun i hi=>hs i (.inr (.inr hi))]; exact ⟨rfl,fun _=>trivial⟩
 case clr k z x=>rw [bN hs]; exact ⟨rfl,fun _=>trivial⟩
 case appz k b z x n=>rw [bN fun i hi=>hs i (.inl hi),bN fun i hi=>hs i (.inr hi)]; exact ⟨rfl,fun _=>trivial⟩
 case take x=>rw [bN hs]; exact ⟨rfl,fun _=>trivial⟩
 case call f zas=>rw [bN fun i hi=>hs i (.inl hi),tu fun i hi=>hs i (.inr hi)]; exact ⟨rfl,fun _=>rfl⟩
 case callC f zas=>rw [bN fun i hi=>hs i (.inl hi),tu fun i hi=>hs i (.inr hi)]; exact ⟨rfl,fun _=>rfl⟩
 case bad=>exact ⟨trivial,fun _=>trivial⟩
theorem Bz {d:Option Nat} {f:ab→Fp} {f':Fp} {r:Option R3} {t:St} (hz:gF s d f r=some (t,f')):∃ x h',r=some (x,h',[])∧t=⟨di s d x,h'⟩∧f'=f h':=by
 unfold gF at hz
 split at hz
 ·cases hz; exact ⟨_,_,rfl,rfl,rfl⟩
 ·cases hz
theorem xh {o:COp} {t:St} {f:Fp} (hz:db call md o s h=some (t,f)) :
  ∃ x h',t=⟨di s o.d x,h'⟩∧((∀ s':ag,∀ g:ab,(∀ i,i ∈ ie o→s' i=s i)→db call md o s' g=some (⟨di s' o.d x,g⟩,some ([],[])))∧h'=h∧f=some ([],[]) ∨
   (step call md (o.d.getD 0) o.op s h=some (x,h',[])∧f=ed (o.d.getD 0) o.op s h h' ∧
    ∀ s':ag,∀ g:ab,(∀ i,i ∈ ie o→s' i=s i)→db call md o s' g=gF s' o.d (ed (o.d.getD 0) o.op s g) (step call md (o.d.getD 0) o.op s g))):=by
 unfold db at hz
 cases hg:o.g with
 | none =>
  rw [hg] at hz
  simp only at hz
  obtain ⟨x,h',e1,e2,e3⟩:=Bz hz
  refine ⟨x,h',e2,.inr ⟨e1,e3,fun s' g hs=>?_⟩⟩
  simp only [ie,hg,List.nil_append] at hs
  unfold db
  rw [hg]
  simp only
  rw [(qL (h:=g) hs).1,funext (qL (call:=call) (md:=md) (h:=g) hs).2]
 | some jb =>
  obtain ⟨j,b⟩:=jb
  rw [hg] at hz
  simp only at hz
  have hj:∀ s':ag,(∀ i,i ∈ ie o→s' i=s i)→s' j=s j:=fun s' hs=>hs j (by simp [ie,hg])
  unfold lB at hz
  split at hz
  ·rename_i bb hb
   split at hz
   ·rename_i hbb
    obtain ⟨x,h',e1,e2,e3⟩:=Bz hz
    refine ⟨x,h',e2,.inr ⟨e1,e3,fun s' g hs=>?_⟩⟩
    unfold db
    rw [hg]
    simp only
    rw [hj s' hs,hb]
    simp only [lB,if_pos hbb]
    simp only [ie,hg,List.mem_append] at hs
    rw [(qL (h:=g) fun i hi=>hs i (.inr hi)).1,funext (qL (call:=call) (md:=md) (h:=g) fun i hi=>hs i (.inr hi)).2]
   ·rename_i hbb
    cases hz
    refine ⟨.und,h,rfl,.inl ⟨fun s' g hs=>?_,rfl,rfl⟩⟩
    unfold db
    rw [hg]
    simp only
    rw [hj s' hs,hb]
    simp only [lB,if_neg hbb]
  ·rename_i hb
   cases hz
   refine ⟨.und,h,rfl,.inl ⟨fun s' g hs=>?_,rfl,rfl⟩⟩
   unfold db
   rw [hg]
   simp only
   rw [hj s' hs,hb]
   simp only [lB]
  ·cases hz
theorem De {d:Option Nat} {x:AV} {i:Nat} (hn:∀ e,d=some e→i ≠ e):di s d x i=s i:=by
 cases d with
 | none=>rfl
 | some e=>exact aG _ _ (hn e rfl)
theorem LX {a b:Option Nat} (x y:AV) (hn:∀ i j,a=some i→b=some j→i ≠ j):di (di s a x) b y=di (di s b y) a x:=by
 cases a with
 | none=>rfl
 | some i =>
  cases b with
  | none=>rfl
  | some j =>
   have:=hn i j rfl rfl
   funext k
   simp only [di,upd]
   by_cases h1:k=j <;> by_cases h2:k=i
   ·omega
   ·subst h1; simp [h2]
   ·subst h2; simp [h1]
   ·simp [h1,h2]
theorem Hf {a b:COp} (hi:uH a b=true):(∀ i d,i ∈ ie b→a.d=some d→i ≠ d)∧(∀ i d,i ∈ ie a→b.d=some d→i ≠ d)∧∀ i j,a.d=some i→b.d=some j→i ≠ j:=by
 simp only [uH,Bool.and_eq_true] at hi
 obtain ⟨⟨h1,h2⟩,h3⟩:=hi
 refine ⟨fun i d hm hd=>?_,fun i d hm hd=>?_,fun i j e1 e2=>?_⟩
 ·rw [hd] at h1
  rintro rfl
  simp at h1
  exact h1 hm
 ·rw [hd] at h2
  rintro rfl
  simp at h2
  exact h2 hm
 ·rw [e1,e2] at h3
  simpa using h3
def nv (f g:Fp):Prop:=jE f g=true
theorem LY {a b:List Nat} (h:tP a b=true) {i:Nat} (ha:i ∈ a):i ∉ b:=by
 simp only [tP,List.all_eq_true,Bool.not_eq_true',List.contains_eq_mem,decide_eq_false_iff_not] at h
 exact h i ha
theorem uO {α:Type} {l:List α} (h:l.isEmpty=true):l=[]:=by cases l <;> simp at h ⊢
theorem akD {a b:COp} {t1 t2:St} {fa fb:Fp} (ha:db call md a s h=some (t1,fa)) (hb:db call md b t1.s t1.h=some (t2,fb)) (hi:uH a b=true) (hf:nv fa fb) :
  ∃ t,db call md b s h=some (t,fb)∧db call md a t.s t.h=some (t2,fa):=by
 obtain ⟨i1,i2,i3⟩:=Hf hi
 obtain ⟨xa,ha',rfl,ca⟩:=xh ha
 simp only at hb
 obtain ⟨xb,hb',rfl,cb⟩:=xh hb
 have sb:∀ i,i ∈ ie b→s i=di s a.d xa i:=fun i hm=>(De fun e he=>i1 i e hm he).symm
 have sa:∀ i,i ∈ ie a→di s b.d xb i=s i:=fun i hm=>De fun e he=>i2 i e hm he
 have sc:=LX (s:=s) xa xb i3
 rcases ca with ⟨ca,rfl,rfl⟩ | ⟨ea,rfl,ca⟩
 ·
  rcases cb with ⟨cb,rfl,rfl⟩ | ⟨eb,rfl,cb⟩
  ·exact ⟨_,cb s _ sb,by rw [ca _ _ sa,← sc]⟩
  ·refine ⟨⟨di s b.d xb,hb'⟩,?_,by rw [ca _ _ sa,← sc]⟩
   rw [cb s _ sb,eb]
   rfl
 ·rcases cb with ⟨cb,rfl,rfl⟩ | ⟨eb,rfl,cb⟩
  ·refine ⟨_,cb s _ sb,?_⟩
   rw [ca _ _ sa,ea]
   simp only [gF,← sc]
  ·
   unfold nv at hf
   cases efa:ed (a.d.getD 0) a.op s h ha' with
   | none =>
    rw [efa] at hf
    cases efb:ed (b.d.getD 0) b.op (di s a.d xa) ha' hb' with
    | none=>rw [efb] at hf; cases hf
    | some q =>
     obtain ⟨r,w⟩:=q
     rw [efb] at hf
     simp only [jE,Bool.and_eq_true] at hf
     have hr:=uO hf.1
     have hw:=uO hf.2
     subst hr hw
     have fb:=zE eb efb
     obtain ⟨g1,p1,p2,p3,p4⟩:=fb h (fun i hi=>by simp at hi)
     obtain ⟨g2,q1,q2,q3,q4⟩:=fb ha' (fun i hi=>rfl)
     have e1:g1=h:=funext fun i=>p4 i (by simp)
     have e2:hb'=ha':=by
      have:g2=hb':=by dsimp only at q1; rw [eb] at q1; simpa using q1.symm
      rw [← this]
      exact funext fun i=>q4 i (by simp)
     subst e1 e2
     refine ⟨⟨di s b.d xb,g1⟩,?_,?_⟩
     ·rw [cb s _ sb]
      dsimp only at p1 p2
      rw [p1]
      simp only [gF,p2]
     ·rw [ca _ _ sa,ea]
      simp only [gF,efa,← sc]
   | some p =>
    obtain ⟨ra,wa⟩:=p
    rw [efa] at hf
    have fra:=zE ea efa
    cases efb:ed (b.d.getD 0) b.op (di s a.d xa) ha' hb' with
    | none =>
     rw [efb] at hf
     simp only [jE,Bool.and_eq_true] at hf
     have hr:=uO hf.1
     have hw:=uO hf.2
     subst hr hw
     obtain ⟨g1,p1,p2,p3,p4⟩:=fra h (fun i hi=>rfl)
     have e1:ha'=h:=by
      have:g1=ha':=by dsimp only at p1; rw [ea] at p1; simpa using p1.symm
      rw [← this]
      exact funext fun i=>p4 i (by simp)
     subst e1
     obtain ⟨g2,q1,q2,q3,q4⟩:=fra hb' (fun i hi=>by simp at hi)
     have e2:g2=hb':=funext fun i=>q4 i (by simp)
     subst e2
     refine ⟨⟨di s b.d xb,g2⟩,?_,?_⟩
     ·rw [cb s _ sb,eb]
      simp only [gF,efb]
     ·rw [ca _ _ sa]
      dsimp only at q1 q2
      rw [q1]
      simp only [gF,q2,← sc]
    | some q =>
     obtain ⟨rb,wb⟩:=q
     rw [efb] at hf
     simp only [jE,Bool.and_eq_true] at hf
     obtain ⟨d1,d2⟩:=hf
     have frb:=zE eb efb
     have hout:∀ i,cI i ∉ wa→ha' i=h i:=by
      obtain ⟨g1,p1,p2,p3,p4⟩:=fra h (fun i hi=>rfl)
      have:g1=ha':=by dsimp only at p1; rw [ea] at p1; simpa using p1.symm
      subst this
      exact p4
     have hout2:∀ i,cI i ∉ wb→hb' i=ha' i:=by
      obtain ⟨g1,p1,p2,p3,p4⟩:=frb ha' (fun i hi=>rfl)
      have:g1=hb':=by dsimp only at p1; rw [eb] at p1; simpa using p1.symm
      subst this
      exact p4
     have nwa:∀ i,cI i ∈ rb∨cI i ∈ wb→cI i ∉ wa:=fun i hi hw=>LY d1 hw (by simpa using hi)
     obtain ⟨g1,p1,p2,p3,p4⟩:=frb h (fun i hi=>(hout i (nwa i hi)).symm)
     have agr:∀ i,cI i ∈ ra∨cI i ∈ wa→g1 i=h i:=fun i hi=>p4 i fun hw=>by
      rcases hi with hi | hi
      ·exact LY d2 hw hi
      ·exact nwa i (.inr hw) hi
     obtain ⟨g2,q1,q2,q3,q4⟩:=fra g1 agr
     have e2:g2=hb':=funext fun i=>by
      by_cases hwa:cI i ∈ wa
      ·rw [q3 i hwa]
       exact (hout2 i fun hw=>nwa i (.inr hw) hwa).symm
      ·rw [q4 i hwa]
       by_cases hwb:cI i ∈ wb
       ·exact p3 i hwb
       ·rw [p4 i hwb,hout2 i hwb,hout i hwa]
     subst e2
     refine ⟨⟨di s b.d xb,g1⟩,?_,?_⟩
     ·rw [cb s _ sb]
      dsimp only at p1 p2
      rw [p1]
      simp only [gF,p2]
     ·rw [ca _ _ sa]
      dsimp only at q1 q2
      rw [q1]
      simp only [gF,q2,← sc]
theorem Pn {o:COp} {post:List COp}:∀ {pre:List COp} {s:ag} {h:ab} {t:St} {Fs:List Fp},eQ call md (pre++o::post) s h=some (t,Fs) →
  ∃ Fpre f Fpost,Fs=Fpre++f::Fpost∧Fpre.length=pre.length∧((∀ (j:Nat) (a:COp) (fa:Fp),pre[j]?=some a→Fpre[j]?=some fa→uH a o=true∧nv fa f) →
   ∃ t1,db call md o s h=some (t1,f)∧eQ call md (pre++post) t1.s t1.h=some (t,Fpre++Fpost))
 | [],s,h,t,Fs,hz=>by
  simp only [List.nil_append,eQ,Option.bind_eq_some_iff] at hz
  obtain ⟨⟨t1,f⟩,e1,⟨t2,F2⟩,e2,e3⟩:=hz
  cases e3
  exact ⟨[],f,F2,rfl,rfl,fun _=>⟨t1,e1,e2⟩⟩
 | a::pre,s,h,t,Fs,hz=>by
  simp only [List.cons_append,eQ,Option.bind_eq_some_iff] at hz
  obtain ⟨⟨t1,fa⟩,e1,⟨t2,F2⟩,e2,e3⟩:=hz
  cases e3
  obtain ⟨Fpre,f,Fpost,rfl,hl,hh⟩:=Pn e2
  refine ⟨fa::Fpre,f,Fpost,rfl,by simp [hl],fun hc=>?_⟩
  obtain ⟨t3,g1,g2⟩:=hh fun j a' fa' h1 h2=>hc (j+1) a' fa' (by simpa using h1) (by simpa using h2)
  obtain ⟨c1,c2⟩:=hc 0 a fa rfl rfl
  obtain ⟨t4,k1,k2⟩:=akD e1 g1 c1 c2
  refine ⟨t4,k1,?_⟩
  simp only [List.cons_append,eQ,k2,Option.bind_some,g2]
end
section
variable {P:Program} {I:Inv} {call:dG} {md:Mode} {N:Nat} {ops:Array Oper}
theorem Tk {o:COp} {s:ag} {h:ab} {t:St} {f:Fp} (hz:db call md o s h=some (t,f)):iy call md o s h=some t:=by
 have fin:∀ (F:ab→Fp) (r:Option R3),gF s o.d F r=some (t,f)→cz md.nm s o.d r=some t:=by
  intro F r hz
  obtain ⟨x,h',e1,e2,_⟩:=Bz hz
  subst e1 e2
  simp only [cz,ke,if_true]
  rfl
 unfold db at hz
 unfold iy
 cases hg:o.g with
 | none =>
  rw [hg] at hz
  exact fin _ _ hz
 | some jb =>
  obtain ⟨j,b⟩:=jb
  rw [hg] at hz
  simp only at hz ⊢
  unfold lB at hz
  unfold gR
  split at hz
  ·rename_i bb hb
   split at hz
   ·rename_i hbb
    rw [if_pos hbb]
    exact fin _ _ hz
   ·rename_i hbb
    rw [if_neg hbb]
    cases hz
    rfl
  ·cases hz
   simp only
  ·cases hz
theorem qM:∀ {l:List Oper} {hs cl:List COp},l7 P N ops hs l=some cl→cl.length=l.length∧∀ (j:Nat) (o:Oper) (c:COp),l[j]?=some o→cl[j]?=some c→∃ hint,Ox P N ops hint o=some c
 | [],hs,cl,hc=>by simp only [l7,Option.some.injEq] at hc; subst hc; exact ⟨rfl,fun j o c h1=>by simp at h1⟩
 | o::l,hs,cl,hc=>by
  simp only [l7,Option.bind_eq_some_iff] at hc
  obtain ⟨c,e1,q,e2,e3⟩:=hc
  cases e3
  obtain ⟨g1,g2⟩:=qM e2
  refine ⟨by simp [g1],fun j o' c' h1 h2=>?_⟩
  cases j with
  | zero=>simp at h1 h2; subst h1 h2; exact ⟨_,e1⟩
  | succ j=>exact g2 j o' c' (by simpa using h1) (by simpa using h2)
theorem Po:∀ {l:List COp} {s:ag} {h:ab} {t:St} {Fs:List Fp},eQ call md l s h=some (t,Fs)→Fs.length=l.length∧∀ (j:Nat) (a:COp) (f:Fp),l[j]?=some a→Fs[j]?=some f→∃ s' h' t',db call md a s' h'=some (t',f)
 | [],s,h,t,Fs,hz=>by simp only [eQ,Option.some.injEq,Prod.mk.injEq] at hz; obtain ⟨_,rfl⟩:=hz; exact ⟨rfl,fun j a f h1=>by simp at h1⟩
 | o::l,s,h,t,Fs,hz=>by
  simp only [eQ,Option.bind_eq_some_iff] at hz
  obtain ⟨⟨t1,f1⟩,e1,⟨t2,F2⟩,e2,e3⟩:=hz
  cases e3
  obtain ⟨g1,g2⟩:=Po e2
  refine ⟨by simp [g1],fun j a f h1 h2=>?_⟩
  cases j with
  | zero=>simp at h1 h2; subst h1 h2; exact ⟨s,h,t1,e1⟩
  | succ j=>exact g2 j a f (by simpa using h1) (by simpa using h2)
theorem Jy {i:Nat}:∀ {l acc:List Nat},i ∈ Ul acc l↔i ∈ acc∨i ∈ l
 | [],acc=>by simp [Ul]
 | a::l,acc=>by
  unfold Ul
  cases h:acc.contains a with
  | true =>
   simp only []
   rw [Jy]
   have ha:a ∈ acc:=by simpa using h
   constructor
   ·rintro (h1 | h1)
    ·exact .inl h1
    ·exact .inr (List.mem_cons_of_mem _ h1)
   ·rintro (h1 | h1)
    ·exact .inl h1
    ·rcases List.mem_cons.1 h1 with rfl | h1
     ·exact .inl ha
     ·exact .inr h1
  | false =>
   simp only []
   rw [Jy]
   simp only [List.mem_cons]
   constructor
   ·rintro ((h1 | h1) | h1)
    ·exact .inr (.inl h1)
    ·exact .inl h1
    ·exact .inr (.inr h1)
   ·rintro (h1 | h1 | h1)
    ·exact .inl (.inr h1)
    ·exact .inl (.inl h1)
    ·exact .inr h1
theorem EU {o:Oper} {acc:List (List Nat)} {i:Nat}:i ∈ zo o acc↔i ∈ lF o∨∃ d ∈ lF o,i ∈ acc.getD d []:=by
 unfold zo
 rw [Jy,List.mem_append,List.mem_flatMap]
 simp
theorem EV:∀ (l:List Oper) (acc:List (List Nat)),∃ r,jB l acc=acc++r∧r.length=l.length
 | [],acc=>⟨[],by simp [jB],rfl⟩
 | o::l,acc=>by
  obtain ⟨r,e1,e2⟩:=EV l (acc++[zo o acc])
  exact ⟨zo o acc::r,by rw [jB,e1,List.append_assoc]; rfl,by simp [e2]⟩
theorem Pp:∀ (l:List Oper) (acc:List (List Nat)) (j:Nat) (o:Oper),l[j]?=some o→∃ pre,(jB l acc)[acc.length+j]?=some (zo o pre) ∧
  pre.length=acc.length+j∧∃ r,jB l acc=pre++r
 | [],acc,j,o,h=>by simp at h
 | o::l,acc,0,o',h=>by
  simp at h
  subst h
  obtain ⟨r,e1,e2⟩:=EV l (acc++[zo o acc])
  refine ⟨acc,?_,rfl,⟨_,by rw [jB,e1,List.append_assoc]⟩⟩
  rw [jB,e1,List.append_assoc]
  simp
 | o::l,acc,j+1,o',h=>by
  obtain ⟨pre,e1,e2,e3⟩:=Pp l (acc++[zo o acc]) j o' (by simpa using h)
  refine ⟨pre,?_,by simp [e2]; omega,e3⟩
  rw [jB,← e1]
  congr 1
  simp
  omega
theorem BA {C:Nat→Nat→COp→COp→Bool} {j:Nat} {b:COp} {bf:List Nat}:∀ {l:List COp} {i0:Nat},Da C j b bf i0 l=true→∀ (i:Nat) (a:COp),l[i]?=some a→(i0+i) ∈ bf∨C (i0+i) j a b=true
 | [],i0,_,i,a,h=>by simp at h
 | c::l,i0,hd,i,a,h=>by
  simp only [Da,Bool.and_eq_true,Bool.or_eq_true] at hd
  cases i with
  | zero=>simp at h; subst h; simpa using hd.1
  | succ i =>
   have:=BA hd.2 i a (by simpa using h)
   rwa [show i0+1+i=i0+(i+1) from by omega] at this
theorem tW {C:Nat→Nat→COp→COp→Bool}:∀ {l:List COp} {bs:List (List Nat)} {j0:Nat} {done:List COp},done.length=j0→zp C j0 done l bs=true→∀ (j:Nat) (b:COp) (bf:List Nat),l[j]?=some b→bs[j]?=some bf →
  (∀ i ∈ bf,i < j0+j)∧∀ (i:Nat) (a:COp),i < j0+j→(done++l)[i]?=some a→i ∈ bf∨C i (j0+j) a b=true
 | [],bs,j0,done,hl,hd,j,b,bf,h1,h2=>by simp at h1
 | c::l,[],j0,done,hl,hd,j,b,bf,h1,h2=>by simp at h2
 | c::l,b0::bs,j0,done,hl,hd,j,b,bf,h1,h2=>by
  simp only [zp,Bool.and_eq_true,List.all_eq_true,decide_eq_true_eq] at hd
  cases j with
  | zero =>
   simp at h1 h2
   subst h1 h2
   refine ⟨hd.1,fun i a hi ha=>?_⟩
   rw [List.getElem?_append_left (by omega)] at ha
   simpa using BA hd.2.1 i a ha
  | succ j =>
   obtain ⟨g1,g2⟩:=tW (by simp [hl]) hd.2.2 j b bf (by simpa using h1) (by simpa using h2)
   refine ⟨fun i hi=>by have:=g1 i hi; omega,fun i a hi ha=>?_⟩
   have:=g2 i a (by omega) (by rw [List.append_assoc]; exact ha)
   rwa [show j0+1+j=j0+(j+1) from by omega] at this
theorem LZ (f:Fp):nv (some ([],[])) f:=by
 unfold nv
 cases f <;> simp [jE,tP]
theorem nv.symm {f g:Fp} (h:nv f g):nv g f:=by
 unfold nv at *
 cases f <;> cases g <;> simp only [jE] at h ⊢ <;> try exact h
 rename_i p q
 simp only [Bool.and_eq_true,tP,List.all_eq_true,Bool.not_eq_true',List.contains_eq_mem,decide_eq_false_iff_not,List.mem_append] at h ⊢
 exact ⟨fun x hx hy=>by
  rcases hy with hy | hy
  ·exact h.2 x hx hy
  ·exact h.1 x hy (.inr hx),fun x hx hy=>h.1 x hx (.inl hy)⟩
theorem Us {o:COp} {s:ag} {h:ab} {t:St} {f:Fp} (hz:db call md o s h=some (t,f)) (hp:isP o.op=true):f=some ([],[]):=by
 obtain ⟨x,h',e,⟨_,_,rfl⟩ | ⟨_,rfl,_⟩⟩:=xh hz
 ·rfl
 ·cases ho:o.op <;> rw [ho] at hp <;> first | rfl | cases hp
theorem Hg {o:COp} {s:ag} {h:ab} {t:St} {f:Fp} (hz:db call md o s h=some (t,f)) (hp:O1 o.op=true):∃ r,f=some (r,[]):=by
 obtain ⟨x,h',e,⟨_,_,rfl⟩ | ⟨e2,rfl,_⟩⟩:=xh hz
 ·exact ⟨[],rfl⟩
 ·cases ho:o.op <;> rw [ho] at hp <;> try (cases hp; done)
  rename_i k g y
  rw [ho] at e2
  simp only [step] at e2
  simp only [ed]
  cases hy:ev s y <;> rw [hy] at e2 <;> simp only [fw] at e2 <;> first | (cases e2; done) | exact ⟨_,rfl⟩
abbrev aep:=List (Nat × COp × Fp)
theorem Ok.draws {w:World} {X:Nat→Prop} {ρ:bB} {h:ab} {s:ag} {a:Act} (ok:Ok I N w X ρ h s a):Ok I N { w with drawn:=w.drawn+1 } X ρ h s a∧Far md.nm w ρ h { w with drawn:=w.drawn+1 } ρ h:=by
 have e:Evo w ρ h { w with drawn:=w.drawn+1 } ρ h []:=⟨rfl,rfl,rfl,Nat.le_refl _,fun _ _ _=>rfl,fun _ _ hp _=>⟨hp,rfl⟩,fun _ ho=>.inl ho,fun _ hb=>⟨hb,rfl⟩,fun _ _ hd=>⟨hd,rfl⟩⟩
 exact ⟨⟨ok.rel.step e (fun _=>False) (fun _ _=>⟨rfl,fun _=>rfl,fun _ _=>rfl⟩) ok.rel.inj ok.rel.nx (fun _ hf=>hf.elim),e.rs ok.rs,ok.size,ok.defers,e.inv ok.rel ok.inv⟩,e.far (ke _)⟩
def BB (g:Nat) (a b:COp):Prop:=∃ e n,a=⟨some e,none,.p (.mv (.t n))⟩∧uH a b=true∧(g=0∨(g ≠ e+1∧g ≠ n+1))
theorem Wp {g:Nat} {a b:COp} (h:VO g a b=true):BB g a b:=by
 unfold VO at h
 split at h
 ·rename_i e n
  simp only [Bool.and_eq_true,Bool.or_eq_true,beq_iff_eq,bne_iff_ne] at h
  exact ⟨e,n,rfl,h.1,h.2⟩
 ·cases h
theorem BB.zero {g:Nat} {a b:COp} (h:BB g a b):BB 0 a b:=by
 obtain ⟨e,n,h1,h2,_⟩:=h
 exact ⟨e,n,h1,h2,.inl rfl⟩
theorem Pq (ks:K) (s:ag) (e n:Nat):gl ks (upd s e (s n))=upd (gl ks s) e (gl ks s n):=by
 cases ks with
 | nil=>rfl
 | cons p l =>
  funext i
  simp only [gl,upd]
  split <;> rfl
theorem Pr {d:Option Nat} {e:Nat} {x y:AV} {s:ag} (hd:d ≠ some e):di (upd s e y) d x=upd (di s d x) e y:=by
 have:=LX (s:=s) (a:=some e) (b:=d) y x fun i j h1 h2=>by
  cases h1
  rintro rfl
  exact hd h2
 exact this
theorem L4 {nm:Bool} {s:ag} {d:Option Nat} {e n:Nat} {r:Option R3} {t:St} (h1:d ≠ some e) (h2:d ≠ some n) (hz:cz nm (upd s e (s n)) d r=some t):∃ t2,cz nm s d r=some t2∧t=⟨upd t2.s e (t2.s n),t2.h⟩:=by
 unfold cz at hz ⊢
 split at hz
 ·rename_i x h ks
  split at hz
  ·rename_i hn
   cases hz
   refine ⟨⟨di (gl ks s) d x,h⟩,by simp only [if_pos hn],?_⟩
   have:di (gl ks s) d x n=gl ks s n:=De fun q hq hh=>h2 (by rw [hq,hh])
   simp only [this]
   rw [Pq,Pr h1]
  ·cases hz
 ·cases hz
theorem Wq {b:COp} {s:ag} {h:ab} {e n:Nat} {t:St} (hi:uH ⟨some e,none,.p (.mv (.t n))⟩ b=true) (hz:iy call md b (upd s e (s n)) h=some t):∃ t2,iy call md b s h=some t2∧t=⟨upd t2.s e (t2.s n),t2.h⟩:=by
 obtain ⟨i1,i2,i3⟩:=Hf hi
 have h1:b.d ≠ some e:=fun hh=>i3 e e rfl hh rfl
 have h2:b.d ≠ some n:=fun hh=>i2 n n (by simp [ie,G0,GZ,eP]) hh rfl
 have hr:∀ i,i ∈ ie b→upd s e (s n) i=s i:=fun i hm=>aG _ _ (i1 i e hm rfl)
 have hs:step call md (b.d.getD 0) b.op (upd s e (s n)) h=step call md (b.d.getD 0) b.op s h:=(qL fun i hm=>hr i (by simp [ie,hm])).1
 have hu:∀ x:AV,di (upd s e (s n)) b.d x=upd (di s b.d x) e (di s b.d x n):=fun x=>by
  rw [Pr h1]
  congr 1
  exact (De fun q hq hh=>h2 (by rw [hq,hh])).symm
 unfold iy at hz ⊢
 cases hg:b.g with
 | none =>
  rw [hg] at hz
  simp only at hz ⊢
  rw [hs] at hz
  exact L4 h1 h2 hz
 | some jb =>
  obtain ⟨j,w⟩:=jb
  rw [hg] at hz
  simp only at hz ⊢
  rw [hs,hr j (by simp [ie,hg])] at hz
  unfold gR at hz ⊢
  split at hz
  ·split at hz
   ·rename_i hw
    rw [if_pos hw]
    exact L4 h1 h2 hz
   ·rename_i hw
    rw [if_neg hw]
    cases hz
    exact ⟨_,rfl,by simp only [hu]⟩
  ·cases hz
   exact ⟨_,rfl,by simp only [hu]⟩
  ·cases hz
theorem ab3 {s:ag} {i e:Nat} {x y:AV} (hn:i ≠ e):upd (upd s e y) i x=upd (upd s i x) e y:=by
 funext k
 simp only [upd]
 by_cases h1:k=i <;> by_cases h2:k=e
 ·omega
 ·subst h1; simp [h2]
 ·subst h2; simp [h1]
 ·simp [h1,h2]
theorem Wr {nm:Bool} {g:Nat} {s:ag} {h:ab} {e n:Nat} {t:St} (hg:g=0∨(g ≠ e+1∧g ≠ n+1)) (hz:mS nm g (upd s e (s n)) h=some t):∃ t2,mS nm g s h=some t2∧t=⟨upd t2.s e (t2.s n),t2.h⟩:=by
 cases g with
 | zero=>cases hz; exact ⟨_,rfl,rfl⟩
 | succ i =>
  have h1:i ≠ e:=by rintro rfl; rcases hg with hg | hg; cases hg; exact hg.1 rfl
  have h2:i ≠ n:=by rintro rfl; rcases hg with hg | hg; cases hg; exact hg.2 rfl
  simp only [mS] at hz ⊢
  rw [aG _ _ h1] at hz
  simp only [Option.bind_eq_some_iff] at hz
  obtain ⟨r,e1,e2⟩:=hz
  split at e2
  ·rename_i hn
   cases e2
   cases hi:s i <;> rw [hi] at e1 <;> simp only [LK] at e1 <;> try (cases e1; done)
   ·cases e1
    exact ⟨⟨s,h⟩,by simp [LK,ke],rfl⟩
   ·rename_i id sub k lo m
    cases sub with
    | none=>simp only [] at e1; cases e1
    | some p =>
    simp only at e1
    split at e1
    ·rename_i hps
     cases eo:h id <;> rw [eo] at e1 <;> simp only [Uk] at e1 <;> try (cases e1; done)
     rename_i cs
     cases ec:cs[p]? with
     | none=>rw [ec] at e1; simp [G1] at e1
     | some c =>
      rw [ec] at e1
      cases c <;> simp only [G1] at e1 <;> try (cases e1; done)
      split at e1
      ·rename_i hc
       cases e1
       refine ⟨_,by simp only [LK,if_pos hps,eo,Uk,ec,G1,if_pos hc,Option.bind_some,if_pos hn]; rfl,?_⟩
       simp only
       rw [Pq,ab3 h1,aG _ _ (Ne.symm h2)]
      ·cases e1
    ·cases e1
  ·cases e2
theorem Ps {g:Nat} {y:COp}:∀ {L:List COp} {s:ag} {h:ab} {t0 t1 t2:St} {Fs:List Fp},(∀ x ∈ L,BB g x y)→eQ call md L s h=some (t0,Fs)→mS md.nm g t0.s t0.h=some t1→iy call md y t1.s t1.h=some t2 →
  ∃ r1 r2,mS md.nm g s h=some r1∧iy call md y r1.s r1.h=some r2∧eQ call md L r2.s r2.h=some (t2,Fs)
 | [],s,h,t0,t1,t2,Fs,_,h1,h2,h3=>by
  simp only [eQ,Option.some.injEq,Prod.mk.injEq] at h1
  obtain ⟨rfl,rfl⟩:=h1
  exact ⟨t1,t2,h2,h3,rfl⟩
 | a::L,s,h,t0,t1,t2,Fs,hl,h1,h2,h3=>by
  obtain ⟨e,n,rfl,hi,hg⟩:=hl a (by simp)
  simp only [eQ,Option.bind_eq_some_iff] at h1
  obtain ⟨⟨t',f⟩,e1,⟨t'',F2⟩,e2,e3⟩:=h1
  cases e3
  have e1':t'=⟨upd s e (s n),h⟩∧f=some ([],[]):=by
   simp only [db,step,en,ev,vO,Option.map_some,gF,ed,Option.some.injEq,Prod.mk.injEq] at e1
   exact ⟨e1.1.symm,e1.2.symm⟩
  obtain ⟨rfl,rfl⟩:=e1'
  obtain ⟨r1,r2,g1,g2,g3⟩:=Ps (fun x hx=>hl x (by simp [hx])) e2 h2 h3
  obtain ⟨q1,k1,rfl⟩:=Wr hg g1
  obtain ⟨q2,k2,rfl⟩:=Wq hi g2
  refine ⟨q1,q2,k1,k2,?_⟩
  simp only [eQ,db,step,en,ev,vO,Option.map_some,gF,ed,Option.bind_some]
  simp only [di] at g3 ⊢
  rw [g3]
  rfl
abbrev aeq:=List (Nat × COp)
structure RestB (ops:Array Oper) (cl:List COp) (bf:Nat→List Nat) (listed:Array Bool) (g:Nat) (L:aep) (T:aeq):Prop where
 size:listed.size=ops.size
 op:∀ x ∈ L,cl[x.1]?=some x.2.1∧listed.getD x.1 true=false
 opT:∀ y ∈ T,cl[y.1]?=some y.2∧listed.getD y.1 true=false
 all:∀ j,j < ops.size→listed.getD j true=false→(∃ x ∈ L,x.1=j)∨∃ y ∈ T,y.1=j
 pw:L.Pairwise fun x y=>x.1 < y.1∧(x.1 ∈ bf y.1∨(uH x.2.1 y.2.1=true∧nv x.2.2 y.2.2))
 lt:∀ x ∈ L,∀ y ∈ T,x.1 < y.1∧(x.1 ∈ bf y.1∨BB g x.2.1 y.2)
 pwT:T.Pairwise fun x y=>x.1 < y.1∧x.1 ∈ bf y.1
 cls:∀ k,k < ops.size→listed.getD k true=true→∀ i ∈ bf k,listed.getD i true=true
theorem BC (hcall:iL P I call md) (hN:N≤1000) {hs cl:List COp} (hc:l7 P N ops hs ops.toList=some cl) {bf:Nat→List Nat}
  (hlt:∀ j,j < ops.size→∀ i ∈ bf j,i < j) (hdep:∀ (j:Nat) (o:Oper),ops[j]?=some o→(∀ d ∈ lF o,d ∈ bf j)∧∀ i ∈ bf j,i ∈ lF o∨∃ d ∈ lF o,i ∈ bf d) :
  ∀ (fuel:Nat) {g:Nat} {L:aep} {T:aeq} {listed:Array Bool} {w:World} {X:Nat→Prop} {ρ:bB} {h:ab} {s:ag} {a:Act} {t0 tg t:St} {Q:Exit→Act→World→Prop},L.length+T.length=fuel→RestB ops cl bf listed g L T →
   eQ call md (L.map (·.2.1)) s h=some (t0,L.map (·.2.2))→mS md.nm g t0.s t0.h=some tg→aF call md (T.map (·.2)) tg.s tg.h=some t→Ok I N w X ρ h s a→(∀ a' w' ρ',Ok I N w' X ρ' t.h t.s a'→Far md.nm w ρ h w' ρ' t.h→Q .normal a' w')→wpAny P .any ops Q fuel listed a w
 | 0,g,L,T,listed,w,X,ρ,h,s,a,t0,tg,t,Q,hl,hr,hz,hgh,hT,ok,hQ=>by
  have:L=[]:=by cases L; rfl; simp at hl
  subst this
  have:T=[]:=by cases T; rfl; simp at hl
  subst this
  simp only [List.map_nil,eQ,Option.some.injEq,Prod.mk.injEq] at hz
  obtain ⟨rfl,_⟩:=hz
  simp only [List.map_nil,aF,Option.some.injEq] at hT
  subst hT
  obtain ⟨ρ',ok',far'⟩:=Ek ok hgh
  refine ⟨?_,hQ _ _ ρ' ok' far'⟩
  rw [List.eq_nil_iff_forall_not_mem]
  intro j hj
  obtain ⟨h1,o,h2,_⟩:=mem_ready.1 hj
  rcases hr.all j (Array.getElem?_eq_some_iff.1 h2).1 h1 with ⟨x,hx,_⟩ | ⟨x,hx,_⟩ <;> simp at hx
 | fuel+1,g,L,T,listed,w,X,ρ,h,s,a,t0,tg,t,Q,hl,hr,hz,hgh,hT,ok,hQ=>by
  have tf:∀ d,d < ops.size→listed.getD d true=listed.getD d false:=fun d hd=>by
   have:d < listed.size:=by rw [hr.size]; exact hd
   simp [this]
  have lenc:=(qM hc).1
  have cllt:∀ {j:Nat} {c:COp},cl[j]?=some c→j < ops.size:=fun h1=>by
   have:=(List.getElem?_eq_some_iff.1 h1).1
   rw [lenc] at this
   simpa using this
  have first:∀ j,j < ops.size→listed.getD j true=false→(∀ k,k < j→listed.getD k true=true)→j ∈ Region.ready .any ops listed:=by
   intro j hj h1 h2
   have hox:ops[j]?=some ops[j]:=by simp [hj]
   refine mem_ready.2 ⟨h1,ops[j],hox,fun e he hb=>?_⟩
   have hd:e.on ∈ lF ops[j]:=by
    simp only [lF,List.mem_map,List.mem_filter]
    exact ⟨e,⟨by simpa using he,hb⟩,rfl⟩
   have hlt':=hlt j hj _ ((hdep j _ hox).1 _ hd)
   rw [← tf e.on (by omega)]
   exact h2 _ hlt'
  have isT:∀ k,listed.getD k true=true∨listed.getD k true=false:=fun k=>by cases listed.getD k true <;> simp
  refine ⟨fun hnil=>?_,fun i hi=>?_⟩
  ·exfalso
   have key:∃ j,j < ops.size∧listed.getD j true=false∧∀ k,k < j→listed.getD k true=true:=by
    cases L with
    | cons x L' =>
     obtain ⟨h1,h2⟩:=hr.op x (by simp)
     refine ⟨x.1,cllt h1,h2,fun k hk=>?_⟩
     rcases isT k with h3 | h3
     ·exact h3
     ·rcases hr.all k (Nat.lt_trans hk (cllt h1)) h3 with ⟨y,hy,rfl⟩ | ⟨y,hy,rfl⟩
      ·rcases List.mem_cons.1 hy with rfl | hy'
       ·omega
       ·have:=(List.pairwise_cons.1 hr.pw).1 y hy'
        omega
      ·have:=(hr.lt x (by simp) y hy).1
       omega
    | nil =>
     cases T with
     | nil=>simp at hl
     | cons x T' =>
      obtain ⟨h1,h2⟩:=hr.opT x (by simp)
      refine ⟨x.1,cllt h1,h2,fun k hk=>?_⟩
      rcases isT k with h3 | h3
      ·exact h3
      ·rcases hr.all k (Nat.lt_trans hk (cllt h1)) h3 with ⟨y,hy,rfl⟩ | ⟨y,hy,rfl⟩
       ·simp at hy
       ·rcases List.mem_cons.1 hy with rfl | hy'
        ·omega
        ·have:=(List.pairwise_cons.1 hr.pwT).1 y hy'
         omega
   obtain ⟨j,k1,k2,k3⟩:=key
   have:=first j k1 k2 k3
   rw [hnil] at this
   cases this
  ·obtain ⟨h1,o,h2,h3⟩:=mem_ready.1 hi
   have hisz:i < ops.size:=(Array.getElem?_eq_some_iff.1 h2).1
   have hbl:∀ k ∈ bf i,listed.getD k true=true:=by
    intro k hk
    have dl:∀ d ∈ lF o,listed.getD d true=true:=by
     intro d hd
     have hdl:d < ops.size:=Nat.lt_trans (hlt i hisz d ((hdep i o h2).1 d hd)) hisz
     simp only [lF,List.mem_map,List.mem_filter] at hd
     obtain ⟨e,⟨he,hb⟩,rfl⟩:=hd
     rw [tf _ hdl]
     exact h3 e (by simpa using he) hb
    rcases (hdep i o h2).2 k hk with hd | ⟨d,hd,hkd⟩
    ·exact dl k hd
    ·exact hr.cls d (Nat.lt_trans (hlt i hisz d ((hdep i o h2).1 d hd)) hisz) (dl d hd) k hkd
   have set_ne:∀ k,k ≠ i→(listed.setIfInBounds i true).getD k true=listed.getD k true:=fun k hk=>getD_set_ne true (Ne.symm hk)
   have set_same:(listed.setIfInBounds i true).getD i true=true:=by
    have:i < listed.size:=by rw [hr.size]; exact hisz
    simp [this]
   have cls':∀ k,k < ops.size→(listed.setIfInBounds i true).getD k true=true→∀ k' ∈ bf k,(listed.setIfInBounds i true).getD k' true=true:=fun k hk hkl k' hk'=>by
    have old:listed.getD k' true=true:=by
     by_cases hkx:k=i
     ·subst hkx; exact hbl k' hk'
     ·rw [set_ne _ hkx] at hkl
      exact hr.cls k hk hkl k' hk'
    by_cases hk'x:k'=i
    ·rw [hk'x]; exact set_same
    ·rw [set_ne _ hk'x]; exact old
   rcases hr.all i hisz h1 with ⟨x,hx,rfl⟩ | ⟨y,hy,rfl⟩
   ·obtain ⟨L1,L2,rfl⟩:=List.append_of_mem hx
    have hpw:=hr.pw
    rw [List.pairwise_append] at hpw
    obtain ⟨pw1,pw2,pw3⟩:=hpw
    rw [List.pairwise_cons] at pw2
    simp only [List.map_append,List.map_cons] at hz
    obtain ⟨Fpre,f,Fpost,e1,e2,e3⟩:=Pn hz
    have e4:Fpre=L1.map (·.2.2)∧f=x.2.2∧Fpost=L2.map (·.2.2):=by
     have:=List.append_inj e1.symm (by simpa using e2)
     simp only [List.cons.injEq] at this
     exact ⟨this.1,this.2.1,this.2.2⟩
    obtain ⟨rfl,rfl,rfl⟩:=e4
    obtain ⟨t1,g1,g2⟩:=e3 fun j c fc hj1 hj2=>by
     simp only [List.getElem?_map,Option.map_eq_some_iff] at hj1 hj2
     obtain ⟨y,hy,rfl⟩:=hj1
     obtain ⟨y',hy',rfl⟩:=hj2
     rw [hy] at hy'
     cases hy'
     have hyL:=List.mem_of_getElem? hy
     rcases (pw3 y hyL x (by simp)).2 with hin | hh
     ·have:=hbl _ hin
      rw [(hr.op y (by simp [hyL])).2] at this
      cases this
     ·exact hh
    obtain ⟨c1,_⟩:=hr.op x (by simp)
    obtain ⟨hint,hco⟩:=(qM hc).2 x.1 o x.2.1 (by simpa using h2) c1
    have nx:∀ y,y ∈ L1++L2→y.1 ≠ x.1:=by
     intro y hy
     rcases List.mem_append.1 hy with hy | hy
     ·have:=(pw3 y hy x (by simp)).1; omega
     ·have:=(pw2.1 y hy).1; omega
    refine zC hcall hN h2 hco ok (Tk g1) fun a' w' ρ' ok' far=>?_
    refine BC hcall hN hc hlt hdep fuel (L:=L1++L2) (T:=T) (by simp at hl ⊢; omega) ⟨by simpa using hr.size,fun y hy=>?_,fun y hy=>?_,fun j hj hjl=>?_,?_,fun y hy=>hr.lt y (by rcases List.mem_append.1 hy with hy | hy <;> simp [hy]),hr.pwT,cls'⟩ (by simpa [List.map_append] using g2) hgh hT ok' fun a'' w'' ρ'' ok'' far'=>hQ _ _ ρ'' ok'' (far.trans far')
    ·obtain ⟨q1,q2⟩:=hr.op y (by rcases List.mem_append.1 hy with hy | hy <;> simp [hy])
     exact ⟨q1,by rw [set_ne _ (nx y hy)]; exact q2⟩
    ·obtain ⟨q1,q2⟩:=hr.opT y hy
     have:=(hr.lt x (by simp) y hy).1
     exact ⟨q1,by rw [set_ne _ (by omega)]; exact q2⟩
    ·have hne:j ≠ x.1:=by rintro rfl; rw [set_same] at hjl; cases hjl
     rw [set_ne _ hne] at hjl
     rcases hr.all j hj hjl with ⟨y,hy,rfl⟩ | hyT
     ·refine .inl ⟨y,?_,rfl⟩
      simp only [List.mem_append,List.mem_cons] at hy ⊢
      rcases hy with hy | rfl | hy
      ·exact .inl hy
      ·exact absurd rfl hne
      ·exact .inr hy
     ·exact .inr hyT
    ·rw [List.pairwise_append]
     exact ⟨pw1,pw2.2,fun y hy z hz=>pw3 y hy z (by simp [hz])⟩
   ·
    cases T with
    | nil=>simp at hy
    | cons z T' =>
    have hzy:z=y:=by
     rcases List.mem_cons.1 hy with rfl | hy'
     ·rfl
     ·have h5:=((List.pairwise_cons.1 hr.pwT).1 y hy').2
      have:=hbl _ h5
      rw [(hr.opT z (by simp)).2] at this
      cases this
    subst hzy
    have hlate:∀ x ∈ L,BB g x.2.1 z.2:=fun x hx=>by
     rcases (hr.lt x hx z (by simp)).2 with h5 | h5
     ·have:=hbl _ h5
      rw [(hr.op x hx).2] at this
      cases this
     ·exact h5
    simp only [List.map_cons,aF,bc] at hT
    split at hT
    ·cases hT
    ·rename_i t2 ht2
     obtain ⟨r1,r2,g1,g2,g3⟩:=Ps (L:=L.map (·.2.1)) (fun x hx=>by
      obtain ⟨q,hq,rfl⟩:=List.mem_map.1 hx
      exact hlate q hq) hz hgh ht2
     obtain ⟨ρg,okg,farg⟩:=Ek ok g1
     obtain ⟨c1,_⟩:=hr.opT z (by simp)
     obtain ⟨hint,hco⟩:=(qM hc).2 z.1 o z.2 (by simpa using h2) c1
     refine zC hcall hN h2 hco okg g2 fun a' w' ρ' ok' far=>?_
     refine BC hcall hN hc hlt hdep fuel (g:=0) (L:=L) (T:=T') (by simp at hl ⊢; omega) ⟨by simpa using hr.size,fun x hx=>?_,fun y hy=>?_,fun j hj hjl=>?_,hr.pw,fun x hx y hy=>?_,(List.pairwise_cons.1 hr.pwT).2,cls'⟩ g3 rfl hT ok' fun a'' w'' ρ'' ok'' far'=>hQ _ _ ρ'' ok'' ((farg.trans far).trans far')
     ·obtain ⟨q1,q2⟩:=hr.op x hx
      have:=(hr.lt x hx z (by simp)).1
      exact ⟨q1,by rw [set_ne _ (by omega)]; exact q2⟩
     ·obtain ⟨q1,q2⟩:=hr.opT y (by simp [hy])
      have:=((List.pairwise_cons.1 hr.pwT).1 y hy).1
      exact ⟨q1,by rw [set_ne _ (by omega)]; exact q2⟩
     ·have hne:j ≠ z.1:=by rintro rfl; rw [set_same] at hjl; cases hjl
      rw [set_ne _ hne] at hjl
      rcases hr.all j hj hjl with hx | ⟨y,hy,rfl⟩
      ·exact .inl hx
      ·rcases List.mem_cons.1 hy with rfl | hy'
       ·exact absurd rfl hne
       ·exact .inr ⟨y,hy',rfl⟩
     ·obtain ⟨q1,q2⟩:=hr.lt x hx y (by simp [hy])
      exact ⟨q1,q2.imp_right BB.zero⟩
theorem Pt (hm:P.follows .mixedOrders=true) (hcall:iL P I call md) (hN:N≤1000) {id:Nat} {hs0 cl:List COp} {w:World} {X:Nat→Prop} {ρ:bB} {h:ab} {s:ag} {a:Act} {t0 tg t:St} {m g:Nat} {qs:List (Nat × Nat)} {Fs:List Fp} {Q:Exit→Act→World→Prop}
  (hc:l7 P N ops hs0 ops.toList=some cl)
  (hsp:∀ (j:Nat) (b:COp) (bf:List Nat),cl[j]?=some b→(jB ops.toList [])[j]?=some bf→(∀ i ∈ bf,i < j)∧∀ (i:Nat) (a:COp),i < j→cl[i]?=some a→i ∈ bf∨C9 m g qs i j a b=true)
  (ok:Ok I N w X ρ h s a) (e1:eQ call md (cl.take m) s h=some (t0,Fs)) (hps:qs.all (ql Fs)=true) (hgh:mS md.nm g t0.s t0.h=some tg) (hT:aF call md (cl.drop m) tg.s tg.h=some t)
  (hQ:∀ a' w' ρ',Ok I N w' X ρ' t.h t.s a'→Far md.nm w ρ h w' ρ' t.h→Q .normal a' w'):(Code.region id ops true).wp P Q a w:=by
 refine wp_region_any hm ?_
 obtain ⟨ok',far'⟩:=ok.draws (md:=md)
 obtain ⟨lf,gf⟩:=Po e1
 obtain ⟨lc,gc⟩:=qM hc
 have lc':cl.length=ops.size:=by simpa using lc
 have ltm:(cl.take m).length=min m ops.size:=by rw [List.length_take,lc']
 have lb:(jB ops.toList []).length=ops.size:=by
  obtain ⟨r,q1,q2⟩:=EV ops.toList []
  rw [q1]
  simpa using q2
 have bget:∀ j,j < ops.size→(jB ops.toList [])[j]?=some ((jB ops.toList []).getD j []):=fun j hj=>by
  rw [List.getD_eq_getElem?_getD]
  simp [List.getElem?_eq_getElem (show j < (jB ops.toList []).length from by omega)]
 have hlt:∀ j,j < ops.size→∀ i ∈ (jB ops.toList []).getD j [],i < j:=fun j hj i hi=>by
  have:=(hsp j cl[j] _ (by simp) (bget j hj)).1 i hi
  omega
 have hdep:∀ (j:Nat) (o:Oper),ops[j]?=some o→(∀ d ∈ lF o,d ∈ (jB ops.toList []).getD j [])∧∀ i ∈ (jB ops.toList []).getD j [],i ∈ lF o∨∃ d ∈ lF o,i ∈ (jB ops.toList []).getD d []:=fun j o hj=>by
  have hjs:j < ops.size:=(Array.getElem?_eq_some_iff.1 hj).1
  obtain ⟨pre,q1,q2,r,q3⟩:=Pp ops.toList [] j o (by simpa using hj)
  simp only [List.length_nil,Nat.zero_add] at q1 q2
  have hrow:(jB ops.toList []).getD j []=zo o pre:=by
   rw [List.getD_eq_getElem?_getD,q1]; rfl
  have hpre:∀ d ∈ lF o,pre.getD d []=(jB ops.toList []).getD d []:=fun d hd=>by
   have hdj:d < j:=hlt j hjs d (by rw [hrow]; exact EU.2 (.inl hd))
   rw [List.getD_eq_getElem?_getD,List.getD_eq_getElem?_getD,q3,List.getElem?_append_left (by omega)]
  refine ⟨fun d hd=>by rw [hrow]; exact EU.2 (.inl hd),fun i hi=>?_⟩
  rw [hrow] at hi
  rcases EU.1 hi with hi | ⟨d,hd,hid⟩
  ·exact .inl hi
  ·rw [hpre d hd] at hid
   exact .inr ⟨d,hd,hid⟩
 have getL:∀ x ∈ (List.range ops.size).zip ((cl.take m).zip Fs),x.1 < m∧x.1 < ops.size∧cl[x.1]?=some x.2.1∧Fs[x.1]?=some x.2.2:=fun x hx=>by
  obtain ⟨n,hn⟩:=List.getElem?_of_mem hx
  rw [List.getElem?_zip_eq_some,List.getElem?_zip_eq_some] at hn
  obtain ⟨q1,q2,q3⟩:=hn
  have hn:n < ops.size:=by
   have:=(List.getElem?_eq_some_iff.1 q1).1
   simpa using this
  rw [List.getElem?_range hn] at q1
  cases q1
  rw [List.getElem?_take] at q2
  split at q2
  ·exact ⟨by assumption,hn,q2,q3⟩
  ·cases q2
 have getT:∀ y ∈ (List.range' (min m ops.size) (ops.size - m)).zip (cl.drop m),m≤y.1∧y.1 < ops.size∧cl[y.1]?=some y.2:=fun y hy=>by
  obtain ⟨n,hn⟩:=List.getElem?_of_mem hy
  rw [List.getElem?_zip_eq_some] at hn
  obtain ⟨q1,q2⟩:=hn
  have hn:n < ops.size - m:=by
   have:=(List.getElem?_eq_some_iff.1 q1).1
   simpa using this
  rw [List.getElem?_range' hn] at q1
  rw [List.getElem?_drop] at q2
  simp only [Option.some.injEq] at q1
  have:y.1=m+n:=by omega
  rw [this]
  exact ⟨by omega,by omega,q2⟩
 refine BC hcall hN hc (bf:=fun j=>(jB ops.toList []).getD j []) hlt hdep ops.size (g:=g) (L:=(List.range ops.size).zip ((cl.take m).zip Fs)) (T:=(List.range' (min m ops.size) (ops.size - m)).zip (cl.drop m)) ?_ ⟨by simp,fun x hx=>?_,fun y hy=>?_,fun j hj _=>?_,?_,fun x hx y hy=>?_,?_,fun k hk hkl=>?_⟩ (t0:=t0) (tg:=tg) (t:=t) ?_ hgh ?_ ok' fun a'' w'' ρ'' ok'' far''=>hQ _ _ ρ'' ok'' (far'.trans far'')
 ·simp only [List.length_zip,List.length_range,List.length_range',List.length_drop,lf,ltm,lc']
  omega
 ·obtain ⟨q0,q1,q2,q3⟩:=getL x hx
  exact ⟨q2,by simp [q1]⟩
 ·obtain ⟨q0,q1,q2⟩:=getT y hy
  exact ⟨q2,by simp [q1]⟩
 ·by_cases hjm:j < m
  ·have hjt:j < (cl.take m).length:=by rw [ltm]; omega
   refine .inl ⟨(j,(cl.take m)[j],Fs[j]'(by omega)),?_,rfl⟩
   refine List.mem_of_getElem? (i:=j) ?_
   rw [List.getElem?_zip_eq_some,List.getElem?_zip_eq_some]
   exact ⟨List.getElem?_range hj,by rw [List.getElem?_eq_getElem hjt],by rw [List.getElem?_eq_getElem (show j < Fs.length from by omega)]⟩
  ·have hjt:j - m < (cl.drop m).length:=by rw [List.length_drop,lc']; omega
   refine .inr ⟨(j,(cl.drop m)[j - m]),?_,rfl⟩
   refine List.mem_of_getElem? (i:=j - m) ?_
   rw [List.getElem?_zip_eq_some]
   refine ⟨?_,by rw [List.getElem?_eq_getElem hjt]⟩
   rw [List.getElem?_range' (by omega)]
   simp only [Option.some.injEq]
   omega
 ·rw [List.pairwise_iff_getElem]
  intro i j hi hj hij
  have hj':j < (cl.take m).length∧j < Fs.length:=by simp only [List.length_zip,List.length_range,lf] at hj; omega
  have hjs:j < ops.size:=by have:=hj'.1; rw [ltm] at this; omega
  have hjm:j < m:=by have:=hj'.1; rw [ltm] at this; omega
  simp only [List.getElem_zip,List.getElem_range,List.getElem_take]
  refine ⟨hij,?_⟩
  rcases (hsp j cl[j] _ (by simp) (bget j hjs)).2 i cl[i] (by omega) (by simp) with hb | hb
  ·exact .inl hb
  ·refine .inr ?_
   simp only [C9,if_pos hjm,VN,Bool.and_eq_true,Bool.or_eq_true] at hb
   obtain ⟨hb1,hb2⟩:=hb
   refine ⟨hb1,?_⟩
   have gi:∀ q (hq:q < (cl.take m).length) (hq':q < Fs.length),∃ s' h' t',db call md (cl[q]'(by rw [ltm] at hq; omega)) s' h'=some (t',Fs[q]):=fun q hq hq'=>by
    refine gf q _ _ ?_ (by rw [List.getElem?_eq_getElem hq'])
    rw [List.getElem?_eq_getElem hq,List.getElem_take]
   obtain ⟨s1,h1,t1,st1⟩:=gi i (by omega) (by omega)
   obtain ⟨s2,h2,t2,st2⟩:=gi j hj'.1 hj'.2
   rcases hb2 with ((hb2 | hb2) | hb2) | hb2
   ·rw [Us st1 hb2]; exact LZ _
   ·rw [Us st2 hb2]; exact (LZ _).symm
   ·obtain ⟨r1,k1⟩:=Hg st1 hb2.1
    obtain ⟨r2,k2⟩:=Hg st2 hb2.2
    rw [k1,k2]
    simp [nv,jE,tP]
   ·have:=List.all_eq_true.1 hps (i,j) (by simpa using hb2)
    simp only [ql] at this
    rw [List.getElem?_eq_getElem (show i < Fs.length from by omega),List.getElem?_eq_getElem hj'.2] at this
    exact this
 ·obtain ⟨q0,q1,q2,q3⟩:=getL x hx
  obtain ⟨p0,p1,p2⟩:=getT y hy
  refine ⟨by omega,?_⟩
  rcases (hsp y.1 y.2 _ p2 (bget y.1 p1)).2 x.1 x.2.1 (by omega) q2 with hb | hb
  ·exact .inl hb
  ·simp only [C9,if_neg (show ¬ y.1 < m by omega),Bool.and_eq_true] at hb
   exact .inr (Wp hb.2)
 ·rw [List.pairwise_iff_getElem]
  intro i j hi hj hij
  have hi':=getT _ (List.getElem_mem hi)
  have hj':=getT _ (List.getElem_mem hj)
  have hlt2:((List.range' (min m ops.size) (ops.size - m)).zip (cl.drop m))[i].1 < ((List.range' (min m ops.size) (ops.size - m)).zip (cl.drop m))[j].1:=by
   simp only [List.getElem_zip,List.getElem_range']
   omega
  refine ⟨hlt2,?_⟩
  rcases (hsp _ _ _ hj'.2.2 (bget _ hj'.2.1)).2 _ _ hlt2 hi'.2.2 with hb | hb
  ·exact hb
  ·simp only [C9,if_neg (Nat.not_lt.2 hj'.1),Bool.and_eq_true,decide_eq_true_eq] at hb
   have:=hb.1
   have:=hi'.1
   omega
 ·simp [hk] at hkl
 ·have m1:((List.range ops.size).zip ((cl.take m).zip Fs)).map (·.2.1)=cl.take m:=by
   rw [show (fun x:Nat × COp × Fp=>x.2.1)=Prod.fst ∘ Prod.snd from rfl,← List.map_map,List.map_snd_zip (by simp [lc',lf,List.length_take]; omega),List.map_fst_zip (by omega)]
  have m2:((List.range ops.size).zip ((cl.take m).zip Fs)).map (·.2.2)=Fs:=by
   rw [show (fun x:Nat × COp × Fp=>x.2.2)=Prod.snd ∘ Prod.snd from rfl,← List.map_map,List.map_snd_zip (by simp [lc',lf,List.length_take]; omega),List.map_snd_zip (by omega)]
  rw [m1,m2]
  exact e1
 ·have m1:((List.range' (min m ops.size) (ops.size - m)).zip (cl.drop m)).map (·.2)=cl.drop m:=List.map_snd_zip (by simp [lc'])
  rw [m1]
  exact hT
theorem Ws (hm:P.follows .mixedOrders=true) (hcall:iL P I call md) (hN:N≤1000):LS P I call md N:=by
 intro id ops hs0 cl w X ρ h s a t ps Q hc hd ok hz hQ
 unfold O7 aem at hd
 unfold lC at hz
 cases hb:sT ps with
 | none =>
  rw [hb] at hd hz
  simp only [th,Option.bind_eq_some_iff] at hz
  obtain ⟨⟨t0,Fs⟩,e1,e2⟩:=hz
  split at e2
  ·rename_i hps
   cases e2
   have hsp:=tW (done:=[]) (j0:=0) rfl hd
   refine Pt hm hcall hN (m:=cl.length) (g:=0) (qs:=ps) hc (fun j b bf h1 h2=>?_) ok (by rw [List.take_length]; exact e1) hps rfl (by rw [List.drop_length]; rfl) hQ
   obtain ⟨q1,q2⟩:=hsp j b bf h1 h2
   refine ⟨fun i hi=>by have:=q1 i hi; omega,fun i a hi ha=>?_⟩
   have hj:j < cl.length:=(List.getElem?_eq_some_iff.1 h1).1
   have:=q2 i a (by omega) ha
   simpa only [C9,if_pos hj,Nat.zero_add] using this
  ·cases e2
 | some q =>
  rw [hb] at hd hz
  simp only [zi,Option.bind_eq_some_iff] at hz
  obtain ⟨⟨t0,Fs⟩,e1,e2⟩:=hz
  split at e2
  ·rename_i hps
   simp only [bc] at e2
   split at e2
   ·cases e2
   ·rename_i tg htg
    have hsp:=tW (done:=[]) (j0:=0) rfl hd
    refine Pt hm hcall hN (m:=q.1) (g:=q.2) (qs:=ps.tail) hc (fun j b bf h1 h2=>?_) ok e1 hps htg e2 hQ
    obtain ⟨q1,q2⟩:=hsp j b bf h1 h2
    refine ⟨fun i hi=>by have:=q1 i hi; omega,fun i a hi ha=>?_⟩
    have:=q2 i a (by omega) ha
    simpa only [Nat.zero_add] using this
  ·cases e2
end
theorem sW:∀ (ss:List Sh) (l:List AV),(cX ss l).length=l.length
 | [],l=>by cases l <;> simp [cX]
 | s::ss,[]=>by simp [cX]
 | s::ss,a::l=>by simp [cX,sW ss l]
theorem vV:∀ (ss:List Sh) (l:List AV) (j:Nat) (c:AV),(cX ss l)[j]?=some c→∃ c0,l[j]?=some c0∧(c=c0∨∃ s,c=nrmL s c0)
 | [],l,j,c,h=>⟨c,by simpa [cX] using h,.inl rfl⟩
 | s::ss,[],j,c,h=>by simp [cX] at h
 | s::ss,a::l,0,c,h=>by simp [cX] at h; exact ⟨a,rfl,.inr ⟨s,h.symm⟩⟩
 | s::ss,a::l,j+1,c,h=>by
  simp [cX] at h
  simpa using vV ss l j c h
theorem vW {s:Sh} {c:AV} (hd:aA c=true):aA (nrmL s c)=true:=by
 obtain ⟨k,cs⟩:=s
 cases k with
 | zero=>simpa [nrmL] using hd
 | succ k=>cases c <;> simp [aA] at hd <;> simp [nrmL,aA,hd]
theorem eA (s:Sh) {c:AV} (h1:∀ k r,c ≠ .sl k r) (h2:c ≠ .emp) (h3:∀ k r,c ≠ .osl k r):nrmL s c=c:=by
 obtain ⟨k,cs⟩:=s
 cases k with
 | zero=>simp [nrmL]
 | succ k=>cases c <;> first | rfl | exact absurd rfl (h1 _ _) | exact absurd rfl h2 | exact absurd rfl (h3 _ _)
section
variable {w:World} {A:Nat→Prop} {ρ:bB} {h:ab}
theorem RD.nrmL {c:AV} {u:Value} (hd:RD w A c u):∀ s:Sh,RD w A (nrmL s c) u:=by
 induction hd with
 | any u h=>intro s; rw [eA s (by simp) (by simp) (by simp)]; exact .any u h
 | v x h=>intro s; rw [eA s (by simp) (by simp) (by simp)]; exact .v x h
 | emp a =>
  intro s
  obtain ⟨k,cs⟩:=s
  cases k with
  | zero=>simp only [Ab.nrmL]; exact .emp a
  | succ k =>
   simp only [Ab.nrmL]
   exact .sl k [] a 0 ⟨0,0,none⟩ (fun _ _=>undef) (Nat.le_refl 0) (fun h=>absurd rfl h) (fun _ h=>by simp at h) (fun i row j c h=>by simp at h) (fun _ h=>by simp at h) (fun i row j c h=>by simp at h)
 | sl k rows a cap ad vals hc ha hk hv hl hr ih =>
  intro s
  obtain ⟨k',cs⟩:=s
  cases k' with
  | zero=>simp only [Ab.nrmL]; exact .sl k rows a cap ad vals hc ha hk hv hl hr
  | succ k' =>
   simp only [Ab.nrmL]
   have key:∀ (i:Nat) (row:List AV) (j:Nat) (c:AV),(rows.map (cX cs))[i]?=some row→row[j]?=some c→∃ row0 c0,rows[i]?=some row0∧row0[j]?=some c0∧(c=c0∨∃ s,c=Ab.nrmL s c0):=by
    intro i row j c h1 h2
    simp only [List.getElem?_map,Option.map_eq_some_iff] at h1
    obtain ⟨row0,h3,rfl⟩:=h1
    obtain ⟨c0,h4,h5⟩:=vV cs row0 j c h2
    exact ⟨row0,c0,h3,h4,h5⟩
   have:=RD.sl (w:=w) (A:=A) k (rows.map (cX cs)) a cap ad vals (by simpa using hc) (fun hne=>ha (by simpa using hne)) (fun row hm=>by
     simp only [List.mem_map] at hm
     obtain ⟨row0,hm,rfl⟩:=hm
     rw [sW]
     exact hk row0 hm) (fun i row j c h1 h2=>by
     obtain ⟨row0,c0,h3,h4,_⟩:=key i row j c h1 h2
     exact hv i row0 j c0 h3 h4) (fun row hm c hc=>by
     obtain ⟨i,hi⟩:=List.getElem?_of_mem hm
     obtain ⟨j,hj⟩:=List.getElem?_of_mem hc
     obtain ⟨row0,c0,h3,h4,h5⟩:=key i row j c hi hj
     have hd:=hl row0 (List.mem_of_getElem? h3) c0 (List.mem_of_getElem? h4)
     rcases h5 with rfl | ⟨s,rfl⟩
     ·exact hd
     ·exact vW hd) (fun i row j c h1 h2=>by
     obtain ⟨row0,c0,h3,h4,h5⟩:=key i row j c h1 h2
     rcases h5 with rfl | ⟨s,rfl⟩
     ·exact hr i row0 j _ h3 h4
     ·exact ih i row0 j c0 h3 h4 s)
   simpa using this
 | agg cs us hs h1 hr ih=>intro s; rw [eA s (by simp) (by simp) (by simp)]; exact .agg cs us hs h1 hr
 | fn f=>intro s; rw [eA s (by simp) (by simp) (by simp)]; exact .fn f
theorem RV.nrmL {c:AV} {u:Value} (hv:RV w A ρ h c u) (s:Sh):RV w A ρ h (nrmL s c) u:=by
 cases hv with
 | dat hd=>exact .dat (hd.nrmL s)
 | anyv u=>rw [eA s (by simp) (by simp) (by simp)]; exact .anyv u
 | und=>rw [eA s (by simp) (by simp) (by simp)]; exact .und
 | ref id sub k i j hp=>rw [eA s (by simp) (by simp) (by simp)]; exact .ref id sub k i j hp
 | rsl id sub k lo n cap a hp hn hb ha=>rw [eA s (by simp) (by simp) (by simp)]; exact .rsl id sub k lo n cap a hp hn hb ha
 | rsc id k lo n cap a hp hn hb ha=>rw [eA s (by simp) (by simp) (by simp)]; exact .rsc id k lo n cap a hp hn hb ha
 | ipt cs ad vals hA hs hv hl hr=>rw [eA s (by simp) (by simp) (by simp)]; exact .ipt cs ad vals hA hs hv hl hr
 | agg cs us hs h1 hr=>rw [eA s (by simp) (by simp) (by simp)]; exact .agg cs us hs h1 hr
 | tup vs us hs hr=>rw [eA s (by simp) (by simp) (by simp)]; exact .tup vs us hs hr
 | fn f x y us ts hs ht hx hy=>rw [eA s (by simp) (by simp) (by simp)]; exact .fn f x y us ts hs ht hx hy
theorem RV.nrmV {c:AV} {u:Value} (hv:RV w A ρ h c u) (ss:List Sh):RV w A ρ h (nrmV ss c) u:=by
 cases c with
 | agg cs =>
  simp only [Ab.nrmV]
  obtain ⟨us,rfl,hs,h1,hr⟩:=hv.agg_inv
  refine .agg _ us (by rw [sW]; exact hs) h1 fun i c u hc hu=>?_
  obtain ⟨c0,h2,h3⟩:=vV ss cs i c hc
  rcases h3 with rfl | ⟨s,rfl⟩
  ·exact hr i _ u h2 hu
  ·exact (hr i c0 u h2 hu).nrmL s
 | _=>exact hv.nrmL _
theorem qN:∀ (ss:List (List Sh)) (l:List AV),(bg ss l).length=l.length
 | [],l=>by cases l <;> simp [bg]
 | s::ss,[]=>by simp [bg]
 | s::ss,a::l=>by simp [bg,qN ss l]
theorem qo:∀ (ss:List (List Sh)) (l:List AV) (j:Nat) (c:AV),(bg ss l)[j]?=some c→∃ c0,l[j]?=some c0∧(c=c0∨∃ s,c=Ab.nrmV s c0)
 | [],l,j,c,h=>⟨c,by simpa [bg] using h,.inl rfl⟩
 | s::ss,[],j,c,h=>by simp [bg] at h
 | s::ss,a::l,0,c,h=>by simp [bg] at h; exact ⟨a,rfl,.inr ⟨s,h.symm⟩⟩
 | s::ss,a::l,j+1,c,h=>by
  simp [bg] at h
  simpa using qo ss l j c h
end
def nw:AV→Bool
 | .osl _ _ | .obx _=>true
 | _=>false
def Pu (L:List Nat) (h':ab) (a c:AV):Prop :=
 ∃ id,bI a=[id]∧aY id=false∧aT L (h' id)=true ∧
  ((∃ k rows,c=.osl k rows∧a=.rsl id none k 0 rows.length∧h' id=.ar k rows)∨(∃ xs,c=.obx xs∧a=.ref id none 0 0 0∧h' id=.bx xs))
theorem L5 {m:Nat} {h:ab} {c:AV} (hc:nw c=false):cM m h c=(c,h):=by
 cases c <;> simp [nw] at hc <;> rfl
theorem Pu.mat {L:List Nat} {h':ab} {a c:AV} (hm:Pu L h' a c) (m:Nat) (h2:ab):∃ id,bI a=[id]∧aY id=false∧aT L (h' id)=true∧h' id ≠ .dead∧(cM m h2 c).2=upd h2 m (h' id):=by
 obtain ⟨id,h1,h3,h4,⟨k,rows,rfl,rfl,h5⟩ | ⟨xs,rfl,rfl,h5⟩⟩:=hm
 ·exact ⟨id,h1,h3,h4,by rw [h5]; simp,by rw [h5]; rfl⟩
 ·exact ⟨id,h1,h3,h4,by rw [h5]; simp,by rw [h5]; rfl⟩
theorem Tl {x:Nat} {l:List Nat} (h:gL (x::l)=true):x ∉ l∧gL l=true:=by
 simp only [gL,Bool.and_eq_true,Bool.not_eq_true',List.contains_eq_mem,decide_eq_false_iff_not] at h
 exact h
theorem Hh {l l':List Nat}:gL (l++l')=true→gL l'=true∧∀ x,x ∈ l→x ∉ l':=by
 induction l with
 | nil=>intro h; exact ⟨h,fun x hx=>by simp at hx⟩
 | cons y l ih =>
  intro h
  obtain ⟨h1,h2⟩:=Tl h
  obtain ⟨h3,h4⟩:=ih h2
  refine ⟨h3,fun x hx=>?_⟩
  rcases List.mem_cons.1 hx with rfl | hx
  ·exact fun hh=>h1 (by simp [hh])
  ·exact h4 x hx
section
variable {h':ab} {L:List Nat}
theorem zF (hL:∀ i,2000≤i→L.contains i=false):∀ (zas cs:List AV) (m:Nat) (h2:ab) (g:Nat→Nat),2000≤m→zas.length=cs.length →
  (∀ (j:Nat) (a c:AV),zas[j]?=some a→cs[j]?=some c→nw c=true→Pu L h' a c)→gL ((zas.flatMap bI).filter fun i=>!aY i)=true→Emb L (fun i=>i) g h' h2→(∀ i,m≤i→h2 i=.dead) →
  (∀ i,h2 i ≠ .dead→∀ id,id ∈ zas.flatMap bI→aY id=false→g i ≠ id) →
  ∃ gm,Emb L (fun i=>i) gm h' (bP m h2 cs).2∧(∀ i,i < m→(bP m h2 cs).2 i=h2 i∧gm i=g i) ∧
   (∀ i,(bP m h2 cs).2 i ≠ .dead→(h2 i ≠ .dead∧gm i=g i)∨∃ (j:Nat) (a c:AV),zas[j]?=some a∧cs[j]?=some c∧nw c=true∧bI a=[gm i]) ∧
   (∀ (j:Nat) (a c:AV) (id:Nat),zas[j]?=some a→cs[j]?=some c→nw c=true→bI a=[id]→gm (m+j)=id∧(bP m h2 cs).2 (m+j)=h' id∧h' id ≠ .dead)
 | [],[],m,h2,g,hm,_,_,_,em,_,_=>⟨g,em,fun _ _=>⟨rfl,rfl⟩,fun _ hi=>.inl ⟨hi,rfl⟩,fun j a c id h1=>by simp at h1⟩
 | [],c::cs,m,h2,g,_,hl,_,_,_,_,_=>by simp at hl
 | a::zas,[],m,h2,g,_,hl,_,_,_,_,_=>by simp at hl
 | a::zas,c::cs,m,h2,g,hm,hl,hmv,hnd,em,hfree,hid=>by
  simp only [List.flatMap_cons,List.filter_append] at hnd
  obtain ⟨nd2,nd3⟩:=Hh hnd
  have hmv':∀ (j:Nat) (a c:AV),zas[j]?=some a→cs[j]?=some c→nw c=true→Pu L h' a c:=fun j a' c' h1 h3=>hmv (j+1) a' c' (by simpa using h1) (by simpa using h3)
  have hl':zas.length=cs.length:=by simpa using hl
  cases hc:nw c with
  | false =>
   simp only [bP,L5 hc]
   obtain ⟨gm,e1,e2,e3,e4⟩:=zF hL zas cs (m+1) h2 g (by omega) hl' hmv' nd2 em (fun i hi=>hfree i (by omega)) (fun i hi id hm'=>hid i hi id (by simp only [List.flatMap_cons,List.mem_append]; exact .inr hm'))
   refine ⟨gm,e1,fun i hi=>e2 i (by omega),fun i hi=>?_,fun j a' c' id h1 h3 h4 h5=>?_⟩
   ·rcases e3 i hi with hh | ⟨j,a',c',h1,h3,h4,h5⟩
    ·exact .inl hh
    ·exact .inr ⟨j+1,a',c',by simpa using h1,by simpa using h3,h4,h5⟩
   ·cases j with
    | zero =>
     simp at h3
     subst h3
     rw [hc] at h4
     cases h4
    | succ j =>
     have:=e4 j a' c' id (by simpa using h1) (by simpa using h3) h4 h5
     rwa [show m+(j+1)=m+1+j from by omega]
  | true =>
   obtain ⟨id,i1,i2,i3,i4,i5⟩:=(hmv 0 a c rfl rfl hc).mat m h2
   simp only [bP,i5]
   have hida:id ∈ (a::zas).flatMap bI:=by simp [i1]
   have em1:=em.add (m:=m) (id:=id) (hfree m (Nat.le_refl _)) (hL m hm) (fun i hi=>hid i hi id hida i2) i3
   have nin:∀ id',id' ∈ zas.flatMap bI→aY id'=false→id' ≠ id:=by
    rintro id' h1 h3 rfl
    exact nd3 id' (by simp [i1,i2]) (List.mem_filter.2 ⟨h1,by simp [h3]⟩)
   obtain ⟨gm,e1,e2,e3,e4⟩:=zF hL zas cs (m+1) (upd h2 m (h' id)) (upd g m id) (by omega) hl' hmv' nd2 em1 (fun i hi=>by rw [aG _ _ (by omega)]; exact hfree i (by omega)) (fun i hi id' hm' hp'=>by
    by_cases e:i=m
    ·subst e
     rw [ap]
     exact fun ee=>nin id' hm' hp' ee.symm
    ·rw [aG _ _ e] at hi ⊢
     exact hid i hi id' (by simp only [List.flatMap_cons,List.mem_append]; exact .inr hm') hp')
   have atm:=e2 m (by omega)
   rw [ap,ap] at atm
   refine ⟨gm,e1,fun i hi=>?_,fun i hi=>?_,fun j a' c' id' h1 h3 h4 h5=>?_⟩
   ·have:=e2 i (by omega)
    rwa [aG _ _ (by omega),aG _ _ (by omega)] at this
   ·rcases e3 i hi with ⟨h1,h3⟩ | ⟨j,a',c',h1,h3,h4,h5⟩
    ·by_cases e:i=m
     ·subst e
      exact .inr ⟨0,a,c,rfl,rfl,hc,by rw [atm.2]; exact i1⟩
     ·rw [aG _ _ e] at h1 h3
      exact .inl ⟨h1,h3⟩
    ·exact .inr ⟨j+1,a',c',by simpa using h1,by simpa using h3,h4,h5⟩
   ·cases j with
    | zero =>
     simp at h1
     subst h1
     rw [i1] at h5
     cases h5
     exact ⟨atm.2,atm.1,i4⟩
    | succ j =>
     have:=e4 j a' c' id' (by simpa using h1) (by simpa using h3) h4 h5
     rwa [show m+(j+1)=m+1+j from by omega]
theorem Pw:∀ (l:List AV) (m:Nat) (h:ab) (j:Nat) (z:AV),(bP m h l).1[j]?=some z→∃ c,l[j]?=some c∧z=(cM (m+j) h c).1
 | [],m,h,j,z,hz=>by simp [bP] at hz
 | c::l,m,h,0,z,hz=>by
  simp [bP] at hz
  exact ⟨c,rfl,hz.symm⟩
 | c::l,m,h,j+1,z,hz=>by
  simp only [bP,List.getElem?_cons_succ] at hz
  obtain ⟨c',h1,h2⟩:=Pw l (m+1) _ j z hz
  refine ⟨c',by simpa using h1,?_⟩
  rw [h2,ET _ _ h,show m+1+j=m+(j+1) from by omega]
theorem Es:∀ (l:List AV) (m:Nat) (h:ab),(bP m h l).1.length=l.length
 | [],m,h=>rfl
 | c::l,m,h=>by simp [bP,Es l]
end
section
variable {w:World} {X:Nat→Prop} {ρ:bB} {h':ab} {L:List Nat}
structure Seen (w:World) (X:Nat→Prop) (ρ:bB) (h':ab) (a:AV) (A2:Nat→Prop) (ρ2:bB) (h2:ab):Prop where
 mono:∀ b,aH w X h' ρ b→A2 b
 ids:∀ id,id ∈ bI a→aY id=false→∀ sub,live h' id sub→A2 (ρ id sub).1
 pas:∀ id,aY id=true→h' id ≠ .dead→h2 id ≠ .dead∧ρ2 id none=ρ id none
def ab4 (w:World) (X:Nat→Prop) (ρ:bB) (h':ab) (L:List Nat) (a c:AV) (u:Value):Prop :=
 (nw c=true→Pu L h' a c)∧(nw c=false→∀ A2 ρ2 h2,Seen w X ρ h' a A2 ρ2 h2→RV w A2 ρ2 h2 c u)
theorem Et {c:AV} (hd:iv c=true):gp L c=true:=by
 simp only [iv,Bool.or_eq_true] at hd
 simp only [gp,Bool.or_eq_true]
 rcases hd with hd | hd
 ·exact .inl hd
 ·right
  cases c <;> simp [aA] at hd <;> simp [aZ,bj,hd]
theorem Eu {a b:AV} (he:iC h' a=some b) (hd:aA b=true∨∃ k r,b=.osl k r) {id:Nat} (hi:dM a=[id]):aY id=false:=by
 cases a <;> simp only [dM] at hi <;> try (cases hi; done)
 case ref i sub k x y =>
  cases sub with
  | some p=>simp [iC,aA] at he
  | none =>
   simp only [iC] at he
   split at he
   ·cases he; rcases hd with hd | ⟨_,_,hd⟩ <;> simp [aA] at hd
   ·split at he
    ·cases e:h' i <;> rw [e] at he <;> simp only [abO] at he <;> try (cases he; done)
     split at he
     ·cases he; rcases hd with hd | ⟨_,_,hd⟩ <;> simp [aA] at hd
     ·cases he
    ·cases he
 case rsl i sub k x y =>
  have hi':i=id:=by simpa using hi
  subst hi'
  cases hp:aY i with
  | false=>rfl
  | true=>cases sub <;> simp [iC,hp] at he
theorem afp {b c:AV} (hd:tT b=some c):aA b=true∨∃ k r,b=.osl k r:=by
 unfold tT at hd
 split at hd
 ·exact .inr ⟨_,_,rfl⟩
 ·split at hd
  ·exact .inl (by assumption)
  ·cases hd
theorem Px:∀ {cs ds:List AV},iD h' cs=some ds→∀ (i:Nat) (a:AV) (id:Nat),cs[i]?=some a→dM a=[id]→aY id=false
 | [],ds,_,i,a,id,h1,_=>by simp at h1
 | c::cs,ds,he,i,a,id,h1,h2=>by
  simp only [iD,Option.bind_eq_some_iff] at he
  obtain ⟨b,e1,c',e2,q,e3,e4⟩:=he
  cases i with
  | zero=>simp at h1; subst h1; exact Eu e1 (afp e2) h2
  | succ i=>exact Px e3 i a id (by simpa using h1) h2
theorem L6 {s:Sh} {b:AV} (h:nw (nrmL s b)=true):nrmL s b=b:=by
 obtain ⟨k,cs⟩:=s
 cases k with
 | zero=>simp [nrmL]
 | succ k=>cases b <;> simp [nrmL,nw] at h ⊢
theorem Y6 (ss:List Sh) {b:AV} (h:∀ cs,b ≠ .agg cs):nrmV ss b=nrmL (ss.headD (.o 0 [])) b:=by
 cases b <;> first | rfl | exact absurd rfl (h _)
theorem ab5 (r:Rel w X ρ h') {a b:AV} {u:Value} (hv:RV w (aH w X h' ρ) ρ h' a u) (he:iC h' a=some b) (s:Sh):ab4 w X ρ h' L a (nrmL s b) u:=by
 have data:∀ {b:AV},iC h' a=some b→aA b=true→(∀ A2:Nat→Prop,(∀ b,aH w X h' ρ b→A2 b)→(∀ id sub,dM a=[id]→live h' id sub→A2 (ρ id sub).1)→RD w A2 b u) →
   ∀ A2 ρ2 h2,Seen w X ρ h' a A2 ρ2 h2→RV w A2 ρ2 h2 (nrmL s b) u:=by
  intro b he hd hr A2 ρ2 h2 hs
  exact .dat ((hr A2 hs.mono fun id sub hi hl=>hs.ids id (by
   have:bI a=dM a:=by cases a <;> first | rfl | simp [dM] at hi
   rw [this,hi]; simp) (Eu he (.inl hd) hi) sub hl).nrmL s)
 rcases uM r hv he with ⟨id,k,rows,rfl,rfl,e,hp⟩ | ⟨id,cs,rfl,rfl,e,hd,hp⟩ | ⟨rfl,id,k,i,j,rfl,hp⟩ | ⟨rfl,hd⟩ | ⟨hd,hr⟩
 ·refine ⟨fun hm=>?_,fun hm A2 ρ2 h2 hs=>?_⟩
  ·rw [L6 hm]
   exact ⟨id,rfl,hp,by rw [e]; rfl,.inl ⟨k,rows,rfl,rfl,e⟩⟩
  ·have hsl:nrmL s (.osl k rows)=nrmL s (.sl k rows):=by
    obtain ⟨k',cs⟩:=s
    cases k' with
    | zero=>simp [nrmL,nw] at hm
    | succ k'=>simp [nrmL]
   rw [hsl]
   obtain ⟨a',cap,rfl,_⟩:=hv.rsl_inv
   exact .dat (((Hd r hv rfl he rfl).2 A2 hs.mono fun id' sub hi hl=>hs.ids id' (by
    simp only [dM] at hi; simp only [bI,dM]; rw [hi]; simp) (by simp only [dM] at hi; cases hi; exact hp) sub hl).nrmL s)
 ·refine ⟨fun hm=>?_,fun hm=>?_⟩
  ·rw [L6 hm]
   refine ⟨id,rfl,hp,?_,.inr ⟨cs,rfl,rfl,e⟩⟩
   rw [e]
   simp only [aT,List.all_eq_true] at hd ⊢
   exact fun c hc=>Et (hd c hc)
  ·rw [eA s (by simp) (by simp) (by simp)] at hm
   cases hm
 ·refine ⟨fun hm=>?_,fun hm A2 ρ2 h2 hs=>?_⟩
  ·rw [eA s (by simp) (by simp) (by simp)] at hm
   cases hm
  ·rw [eA s (by simp) (by simp) (by simp)]
   obtain ⟨rfl,hpr⟩:=hv.ref_inv
   obtain ⟨h1,h3⟩:=hs.pas id hp hpr
   have:=RV.ref (w:=w) (A:=A2) (ρ:=ρ2) (h:=h2) id none k i j h1
   rwa [h3] at this
 ·refine ⟨fun hm=>?_,fun hm A2 ρ2 h2 hs=>?_⟩
  ·have:=vW (s:=s) hd
   cases hq:nrmL s b <;> rw [hq] at hm this <;> simp [nw,aA] at hm this
  ·exact (hv.keepD hd fun b hb=>⟨hs.mono b hb,rfl⟩).nrmL s
 ·refine ⟨fun hm=>?_,fun hm=>data he hd hr⟩
  have:=vW (s:=s) hd
  cases hq:nrmL s b <;> rw [hq] at hm this <;> simp [nw,aA] at hm this
theorem afq (r:Rel w X ρ h') {a b:AV} {u:Value} (hv:RV w (aH w X h' ρ) ρ h' a u) (he:ni h' a=some b) {c:AV} (hc:c=b∨∃ ss,c=nrmV ss b):ab4 w X ρ h' L a c u:=by
 have hc':∃ ss,c=nrmV ss b:=by
  rcases hc with rfl | hc
  ·refine ⟨[],?_⟩
   cases c <;> simp [nrmV,nrmL,cX]
  ·exact hc
 obtain ⟨ss,rfl⟩:=hc'
 by_cases hagg:∃ cs,a=.agg cs
 ·obtain ⟨cs,rfl⟩:=hagg
  simp only [ni,Option.map_eq_some_iff] at he
  obtain ⟨ds,e1,rfl⟩:=he
  refine ⟨fun hm=>by simp [nrmV,nw] at hm,fun _ A2 ρ2 h2 hs=>?_⟩
  obtain ⟨us,rfl,q1,q2,q3⟩:=hv.agg_inv
  obtain ⟨l1,l2⟩:=Em r cs ds e1
  refine .agg _ us (by rw [sW,l1]; exact q1) q2 fun i c u hc hu=>?_
  obtain ⟨c0,h1,h3⟩:=vV ss ds i c hc
  have hi:i < cs.length:=by rw [← l1]; exact (List.getElem?_eq_some_iff.1 h1).1
  have hci:cs[i]?=some cs[i]:=by simp [hi]
  obtain ⟨d1,d2⟩:=l2 i cs[i] c0 u hci h1 (q3 i _ u hci hu) (q2 i u hu)
  have hrd:=d2 A2 hs.mono fun id sub hii hl=>hs.ids id (by
   simp only [bI,List.mem_flatMap]
   exact ⟨cs[i],by simp,by rw [hii]; simp⟩) (Px e1 i _ id hci hii) sub hl
  rcases h3 with rfl | ⟨s,rfl⟩
  ·exact .dat hrd
  ·exact .dat (hrd.nrmL s)
 ·have hl:ni h' a=iC h' a:=by cases a <;> first | rfl | exact absurd ⟨_,rfl⟩ hagg
  rw [hl] at he
  have hb:∀ cs,b ≠ .agg cs:=by
   rintro cs rfl
   rcases uM r hv he with ⟨id,k,rows,h1,_⟩ | ⟨id,cs',h1,_⟩ | ⟨h1,id,k,i,j,h2,_⟩ | ⟨h1,hd⟩ | ⟨hd,hr⟩
   ·cases h1
   ·cases h1
   ·rw [h2] at h1; cases h1
   ·exact absurd ⟨_,h1.symm⟩ hagg
   ·simp [aA] at hd
  rw [Y6 ss hb]
  exact ab5 r hv he _
theorem L7:∀ {zas bs:List AV},nV h' zas=some bs→bs.length=zas.length∧∀ (j:Nat) (a b:AV),zas[j]?=some a→bs[j]?=some b→ni h' a=some b
 | [],bs,he=>by simp only [nV,Option.some.injEq] at he; subst he; exact ⟨rfl,fun j a b h1=>by simp at h1⟩
 | a::zas,bs,he=>by
  simp only [nV,Option.bind_eq_some_iff] at he
  obtain ⟨b,e1,q,e2,e3⟩:=he
  cases e3
  obtain ⟨g1,g2⟩:=L7 e2
  refine ⟨by simp [g1],fun j a' b' h1 h2=>?_⟩
  cases j with
  | zero=>simp at h1 h2; subst h1 h2; exact e1
  | succ j=>exact g2 j a' b' (by simpa using h1) (by simpa using h2)
def Hi (us:Array Value):Value:=if h:us.size=1 then us[0] else .tuple us
theorem Y7 {l:List AV} (hl:∀ c ∈ l,∀ vs,c ≠ .tup vs) (n:Nat) (h:ab):mat n h (pG l)=(pG (bP n h l).1,(bP n h l).2):=by
 match l with
 | []=>rfl
 | [c] =>
  have:∀ vs,c ≠ .tup vs:=hl c (by simp)
  cases c <;> first | rfl | exact absurd rfl (this _)
 | a::b::l=>rfl
end
section
variable {w:World} {X:Nat→Prop} {ρ:bB} {h':ab}
theorem Ut {L:List Nat} {g:Nat→Nat} {h2:ab} (em:Emb L (fun i=>i) g h' h2) {b:Nat} (ho:l5 h2 (fun i s=>ρ (g i) s) b):l5 h' ρ b:=by
 obtain ⟨i,s,h1,h3⟩:=ho
 exact ⟨g i,s,(em.live h1).1,h3⟩
theorem ab6 {ss:List Sh} {b:AV} {vs:List AV} (h:nrmV ss b=.tup vs):∃ vs',b=.tup vs':=by
 cases b with
 | tup vs'=>exact ⟨vs',rfl⟩
 | agg cs=>simp [nrmV] at h
 | _ =>
  simp only [nrmV] at h
  generalize ss.headD (.o 0 [])=s at h
  obtain ⟨k,cs⟩:=s
  cases k <;> simp [nrmL] at h
theorem Wt (r:Rel w X ρ h') {a:AV} {u:Value} {vs:List AV} (hv:RV w (aH w X h' ρ) ρ h' a u) (he:ni h' a=some (.tup vs)):False:=by
 by_cases hagg:∃ cs,a=.agg cs
 ·obtain ⟨cs,rfl⟩:=hagg
  simp [ni] at he
 ·have hl:ni h' a=iC h' a:=by cases a <;> first | rfl | exact absurd ⟨_,rfl⟩ hagg
  rw [hl] at he
  rcases uM r hv he with ⟨id,k,rows,h1,_⟩ | ⟨id,cs',h1,_⟩ | ⟨h1,id,k,i,j,h2,_⟩ | ⟨h1,hd⟩ | ⟨hd,hr⟩
  ·cases h1
  ·cases h1
  ·rw [h2] at h1; cases h1
  ·simp only [← h1] at hd; simp [aA] at hd
  ·simp [aA] at hd
theorem Y8 (r:Rel w X ρ h') {n0 n:Nat} (hn0:n0≤1000) (hn:2000≤n) (hpass:∀ id,aY id=true→h' id ≠ .dead→(cN n0).contains id=true) {zas:List AV} {us:Array Value} (hs:us.size=zas.length)
  (hv:∀ (i:Nat) (c:AV) (u:Value),zas[i]?=some c→us[i]?=some u→RV w (aH w X h' ρ) ρ h' c u) {rs:List (List Sh)} {res:AV} {obs:List Ob} (hz:qH rs n0 h' zas=some (res,obs)) :
  ∃ ρ2,Rel w X ρ2 (mat n (ak obs) res).2∧(∀ nm,Far nm w ρ h' w ρ2 (mat n (ak obs) res).2)∧RV w (aH w X (mat n (ak obs) res).2 ρ2) ρ2 (mat n (ak obs) res).2 (mat n (ak obs) res).1 (Hi us):=by
 unfold qH at hz
 split at hz
 ·rename_i hc
  simp only [Bool.and_eq_true] at hc
  obtain ⟨hc1,hc2⟩:=hc
  simp only [Option.map_eq_some_iff] at hz
  obtain ⟨bs,e1,e2⟩:=hz
  cases e2
  obtain ⟨l1,l2⟩:=L7 e1
  have hLm:∀ i,(cN n0).contains i=true→aY i=true:=fun i hi=>by
   have:=i8.1 hi
   simp only [aY,decide_eq_true_eq]
   omega
  have hL:∀ i,2000≤i→(cN n0).contains i=false:=fun i hi=>by
   cases hq:(cN n0).contains i with
   | false=>rfl
   | true=>have:=i8.1 hq; omega
  have hcl:(bg rs bs).length=zas.length:=by rw [qN,l1]
  have out:∀ (j:Nat) (a c:AV) (u:Value),zas[j]?=some a→(bg rs bs)[j]?=some c→us[j]?=some u→ab4 w X ρ h' (cN n0) a c u:=fun j a c u h1 h3 h4=>by
   obtain ⟨b,h5,h6⟩:=qo rs bs j c h3
   exact afq r (hv j a u h1 h4) (l2 j a b h1 h5) h6
  have uget:∀ (j:Nat) (a:AV),zas[j]?=some a→∃ u,us[j]?=some u:=fun j a h1=>by
   have:j < us.size:=by rw [hs]; exact (List.getElem?_eq_some_iff.1 h1).1
   exact ⟨us[j],by simp [this]⟩
  have em:=Emb.base (h':=h') hc2
  have hlow:∀ i,ak ((cN n0).map h') i ≠ .dead→(cN n0).contains i=true:=fun i hi=>by
   rw [mA] at hi
   split at hi
   ·rename_i h1; exact i8.2 h1
   ·exact absurd rfl hi
  obtain ⟨gm,m1,m2,m3,m4⟩:=zF hL zas (bg rs bs) n (ak ((cN n0).map h')) (fun i=>i) hn hcl.symm (fun j a c h1 h3 h4=>by
    obtain ⟨u,hu⟩:=uget j a h1
    exact (out j a c u h1 h3 hu).1 h4) hc1 em (fun i hi=>by
    rw [mA,if_neg (by omega)]) (fun i hi id _ hp e=>by
    have:=hLm i (hlow i hi)
    rw [e] at this
    rw [this] at hp
    cases hp)
  have notup:∀ c ∈ bg rs bs,∀ vs,c ≠ .tup vs:=by
   rintro c hcm vs rfl
   obtain ⟨j,hj⟩:=List.getElem?_of_mem hcm
   have hja:j < zas.length:=by rw [← hcl]; exact (List.getElem?_eq_some_iff.1 hj).1
   obtain ⟨u,hu⟩:=uget j zas[j] (by simp [hja])
   obtain ⟨b,h5,h6⟩:=qo rs bs j _ hj
   have he:=l2 j zas[j] b (by simp [hja]) h5
   obtain ⟨vs',rfl⟩:∃ vs',b=.tup vs':=by
    rcases h6 with h6 | ⟨ss,h6⟩
    ·exact ⟨vs,h6.symm⟩
    ·exact ab6 h6.symm
   exact Wt r (hv j zas[j] u (by simp [hja]) hu) he
  rw [Y7 notup]
  simp only
  have hfar:∀ b,aH w X h' ρ b→aH w X (bP n (ak ((cN n0).map h')) (bg rs bs)).2 (fun i s=>ρ (gm i) s) b:=fun b hb=>⟨hb.1,hb.2.1,fun ho=>hb.2.2 (Ut m1 ho)⟩
  have hps:∀ id,aY id=true→(bP n (ak ((cN n0).map h')) (bg rs bs)).2 id=ak ((cN n0).map h') id∧gm id=id:=fun id hp=>m2 id (by
   simp only [aY,decide_eq_true_eq] at hp; omega)
  have hpd:∀ id,aY id=true→h' id ≠ .dead→(bP n (ak ((cN n0).map h')) (bg rs bs)).2 id=h' id:=fun id hp hd=>by
   rw [(hps id hp).1,mA,if_pos (i8.1 (hpass id hp hd))]
  have rel2:Rel w X (fun i s=>ρ (gm i) s) (bP n (ak ((cN n0).map h')) (bg rs bs)).2:=Rel.emb m1 r r.xl (fun i s hl=>r.nx _ _ (m1.live hl).1) hfar
  refine ⟨fun i s=>ρ (gm i) s,rel2,fun nm=>⟨rfl,rfl,rfl,Nat.le_refl _,fun _ _ _=>rfl,fun b ho=>.inl (Ut m1 ho),fun id hp hd=>?_,fun _ id p hp hd hpr=>?_⟩,?_⟩
  ·have:=hps id hp
   refine ⟨fun e=>hd ?_,by simp only [this.2]⟩
   rw [this.1,mA]
   split
   ·exact e
   ·rfl
  ·have h1:h' id ≠ .dead:=by obtain ⟨_,_,_,e,_⟩:=hpr; rw [e]; simp
   refine ⟨(du (hpd id hp h1)).2 hpr,by simp only [(hps id hp).2]⟩
  ·
   have seen:∀ (j:Nat) (a c:AV),zas[j]?=some a→(bg rs bs)[j]?=some c→nw c=false →
     Seen w X ρ h' a (aH w X (bP n (ak ((cN n0).map h')) (bg rs bs)).2 (fun i s=>ρ (gm i) s)) (fun i s=>ρ (gm i) s) (bP n (ak ((cN n0).map h')) (bg rs bs)).2:=by
    intro j a c h1 h3 h4
    refine ⟨hfar,fun id hid hp sub hl=>⟨?_,r.nx _ _ hl,fun ⟨i,s,ho1,ho2⟩=>?_⟩,fun id hp hd=>⟨by rw [hpd id hp hd]; exact hd,by simp only [(hps id hp).2]⟩⟩
    ·cases sub with
     | none =>
      have ho:=r.ob id
      cases e:h' id with
      | bx cs=>rw [e] at ho; obtain ⟨us,t,g1,_⟩:=ho; exact (Array.getElem?_eq_some_iff.1 g1).1
      | ar k rows=>rw [e] at ho; obtain ⟨us,t,g1,_⟩:=ho; exact (Array.getElem?_eq_some_iff.1 g1).1
      | _=>simp [live,e] at hl
     | some p =>
      obtain ⟨cs,k,rows,e,ec⟩:=hl
      have ho:=r.ob id
      rw [e] at ho
      obtain ⟨us,t,g1,g2,g3,g4⟩:=ho
      obtain ⟨u,_,a',cap,us',t',_,_,_,q4,_⟩:=g4 p _ ec
      exact (Array.getElem?_eq_some_iff.1 q4).1
    ·obtain ⟨hl1,hdd⟩:=m1.live ho1
     obtain ⟨e1,_⟩:=r.inj _ _ _ _ hl1 hl ho2
     rcases m3 i hdd with ⟨q1,q2⟩ | ⟨j',a',c',q1,q2,q3,q4⟩
     ·have:=hLm i (hlow i q1)
      rw [← q2,e1] at this
      rw [this] at hp
      cases hp
     ·rw [e1] at q4
      have hne:j' ≠ j:=by
       rintro rfl
       rw [h3] at q2
       cases q2
       rw [h4] at q3
       cases q3
      exact two_names zas j' j a' a id hne q1 h1 (by rw [q4]; simp) hid hp hc1
   have vals:∀ (j:Nat) (z:AV) (u:Value),(bP n (ak ((cN n0).map h')) (bg rs bs)).1[j]?=some z→us[j]?=some u →
     RV w (aH w X (bP n (ak ((cN n0).map h')) (bg rs bs)).2 (fun i s=>ρ (gm i) s)) (fun i s=>ρ (gm i) s) (bP n (ak ((cN n0).map h')) (bg rs bs)).2 z u:=by
    intro j z u hz hu
    obtain ⟨c,h1,rfl⟩:=Pw _ _ _ _ _ hz
    have hja:j < zas.length:=by rw [← hcl]; exact (List.getElem?_eq_some_iff.1 h1).1
    have ha:zas[j]?=some zas[j]:=by simp [hja]
    have o:=out j zas[j] c u ha h1 hu
    cases hm:nw c with
    | false =>
     rw [L5 hm]
     exact o.2 hm _ _ _ (seen j zas[j] c ha h1 hm)
    | true =>
     obtain ⟨id,i1,i2,i3,⟨k,rows,rfl,i4,i5⟩ | ⟨xs,rfl,i4,i5⟩⟩:=o.1 hm
     ·obtain ⟨q1,q2,q3⟩:=m4 j zas[j] _ id ha h1 hm i1
      have hva:=hv j zas[j] u ha hu
      rw [i4] at hva
      obtain ⟨a',cap,rfl,hp,hnn,hb,hab⟩:=hva.rsl_inv
      simp only [cM]
      exact .rsl (n+j) none k 0 rows.length cap a' (by show _ ≠ _; rw [q2]; exact q3) hnn (by simp only [q1]; exact hb) (by simp only [q1]; exact hab)
     ·obtain ⟨q1,q2,q3⟩:=m4 j zas[j] _ id ha h1 hm i1
      have hva:=hv j zas[j] u ha hu
      rw [i4] at hva
      obtain ⟨rfl,hp⟩:=hva.ref_inv
      simp only [cM]
      have:=RV.ref (w:=w) (A:=aH w X (bP n (ak ((cN n0).map h')) (bg rs bs)).2 (fun i s=>ρ (gm i) s)) (ρ:=fun i s=>ρ (gm i) s) (h:=(bP n (ak ((cN n0).map h')) (bg rs bs)).2) (n+j) none 0 0 0 (by show _ ≠ _; rw [q2]; exact q3)
      simp only [q1] at this
      exact this
   have hzl:(bP n (ak ((cN n0).map h')) (bg rs bs)).1.length=us.size:=by rw [Es,hcl,hs]
   unfold Hi
   split
   ·rename_i h1
    match hq:(bP n (ak ((cN n0).map h')) (bg rs bs)).1 with
    | []=>rw [hq] at hzl; simp at hzl; omega
    | [z]=>exact vals 0 z us[0] (by rw [hq]; rfl) (by simp [h1])
    | a::b::l=>rw [hq] at hzl; simp at hzl; omega
   ·rename_i h1
    match hq:(bP n (ak ((cN n0).map h')) (bg rs bs)).1 with
    | []=>exact .tup [] us (by rw [hq] at hzl; simpa using hzl.symm) fun i c u hc=>by simp at hc
    | [z]=>rw [hq] at hzl; simp at hzl; omega
    | a::b::l =>
     rw [hq] at hzl
     exact .tup _ us hzl.symm fun i c u hc hu=>vals i c u (by rw [hq]; exact hc) hu
 ·cases hz
where
 two_names:∀ (zas:List AV) (i j:Nat) (a b:AV) (id:Nat),i ≠ j→zas[i]?=some a→zas[j]?=some b→id ∈ bI a→id ∈ bI b→aY id=false→gL ((zas.flatMap bI).filter fun i=>!aY i)=true→False
 | [],i,j,a,b,id,_,h1,_,_,_,_,_=>by simp at h1
 | c::zas,i,j,a,b,id,hne,h1,h2,h3,h4,hp,hnd=>by
  simp only [List.flatMap_cons,List.filter_append] at hnd
  obtain ⟨nd2,nd3⟩:=Hh hnd
  have mem:∀ (j:Nat) (b:AV),zas[j]?=some b→id ∈ bI b→id ∈ (zas.flatMap bI).filter fun i=>!aY i:=fun j b hb hi =>
   List.mem_filter.2 ⟨List.mem_flatMap.2 ⟨b,List.mem_of_getElem? hb,hi⟩,by simp [hp]⟩
  cases i with
  | zero =>
   simp at h1
   subst h1
   cases j with
   | zero=>exact hne rfl
   | succ j=>exact nd3 id (List.mem_filter.2 ⟨h3,by simp [hp]⟩) (mem j b (by simpa using h2) h4)
  | succ i =>
   cases j with
   | zero =>
    simp at h2
    subst h2
    exact nd3 id (List.mem_filter.2 ⟨h4,by simp [hp]⟩) (mem i a (by simpa using h1) h3)
   | succ j=>exact two_names zas i j a b id (by omega) (by simpa using h1) (by simpa using h2) h3 h4 hp nd2
end
structure Text (P:Program) (f:FuncId) (fd:FD):Prop where
 text : ∃ fn code N, P.funcs[f]? = some fn ∧ fn.body = some code ∧ fn.ntmps = N ∧ N ≤ 1000 ∧ fy P N code fd.body = some fd.body ∧ zt P fn.results.toList = some fd.res ∧ (fn.name == "runtime.NumGoroutine") = false
theorem Py (fn:Func) (tmps:Array Value):fn.results.mapM (tq tmps)=(fun l=>l.toArray) <$> fn.results.toList.mapM (tq tmps):=by
 rw [Array.mapM_eq_mapM_toList]
theorem Tm {P:Program} {fn:Func} {tmps:Array Value} {w:World} {us:List Value} (h:(fn.results.toList.mapM (tq tmps)).run P w=.ok us w):(results fn tmps).run P w=.ok (Hi us.toArray) w:=by
 have h1:(fn.results.mapM (tq tmps)).run P w=.ok us.toArray w:=by
  rw [Py,Sem.run_map,h]
  rfl
 have h2:results fn tmps=(fn.results.mapM (tq tmps) >>= fun vs=>pure (Hi vs)):=by
  unfold results Hi
  congr 1
 rw [h2,Sem.run_bind,h1]
 rfl
section
variable {P:Program} {I:Inv} {call:dG} {md:Mode}
theorem afr (hm:P.follows .mixedOrders=true) (hcall:iL P I call md) {f:FuncId} {fd:FD} {lf:Nat} (ht:Text P f fd):ko P I md.nm f (rU call md lf fd):=by
 obtain ⟨fn,code,N,t1,t2,t3,t4,t5,t6,t7⟩:=ht.text
 intro args obs obs' res w X ρ vals n hz hn hi r hsz hv
 unfold rU at hz
 split at hz
 ·rename_i hc
  obtain ⟨c1,c2⟩:=hc
  have he:(callFunc f vals).run P w=.ok (.enter f vals) w:=by
   unfold callFunc
   rw [Sem.run_bind,show program.run P w=.ok P w from rfl]
   simp only [Result.andThen,t1,t7,t2]
   rfl
  unfold Enters
  rw [he]
  simp only
  refine calls_of_wp t1 t2 ?_
  have hget:∀ i,(vals++Array.replicate (fn.ntmps - vals.size) undef).getD i undef=vals.getD i undef:=fun i=>by
   simp only [Array.getD_eq_getD_getElem?,Array.getElem?_append]
   split
   ·rfl
   ·rename_i hlt
    rw [Array.getElem?_eq_none (by omega:vals.size≤i)]
    simp only [Array.getElem?_replicate]
    split <;> rfl
  have ok:Ok I N w X ρ (ak obs) (oT args) { tmps:=vals++Array.replicate (fn.ntmps - vals.size) undef,defers:=[] }:=by
   refine ⟨r,fun i=>?_,by simp; omega,rfl,hi⟩
   simp only [hget,oT]
   by_cases h:i < args.length
   ·have:i < vals.size:=by omega
    rw [Array.getD_eq_getD_getElem?]
    simp only [this,Array.getElem?_eq_getElem,Option.getD_some,List.getElem?_eq_getElem h]
    exact hv i _ _ (by simp [h]) (by simp [this])
   ·rw [List.getElem?_eq_none (by omega)]
    exact .anyv _
  have fin:∀ {t:St} {a:Act} {w':World} {ρ':bB},Ok I N w' X ρ' t.h t.s a→Far md.nm w ρ (ak obs) w' ρ' t.h→vP md.nm fd.rs fd.res obs.length t.s t.h=some (res,obs') →
    a.defers=[]∧∃ v,(results fn a.tmps).run P w'=.ok v w'∧∃ ρ'',Rel w' X ρ'' (mat n (ak obs') res).2∧Far md.nm w ρ (ak obs) w' ρ'' (mat n (ak obs') res).2 ∧
     RV w' (aH w' X (mat n (ak obs') res).2 ρ'') ρ'' (mat n (ak obs') res).2 (mat n (ak obs') res).1 v:=by
   intro t a w' ρ' ok' far hf
   refine ⟨ok'.defers,?_⟩
   simp only [vP,Option.bind_eq_some_iff] at hf
   obtain ⟨⟨vs,h',ks⟩,e1,e2⟩:=hf
   split at e2
   ·rename_i hnm
    obtain ⟨us,g1,g2,g3,g4,g5⟩:=El (a:=a) fn.results.toList fd.res t6 ok'.rel ok'.rs e1
    refine ⟨_,Tm g1,?_⟩
    have far2:=far.trans (g4.far hnm)
    obtain ⟨ρ2,q1,q2,q3⟩:=Y8 (us:=us.toArray) g3 c2 hn (fun id hp hd=>by
     have:=(far2.stay id hp hd).1
     unfold ak at this
     refine i8.2 ?_
     simp only [aY,decide_eq_true_eq] at hp
     refine ⟨hp.1,?_⟩
     rw [if_pos hp.1] at this
     by_cases hlt:id < 1000+obs.length
     ·exact hlt
     ·rw [List.getElem?_eq_none (by omega)] at this
      exact absurd rfl this) (by simpa using g2) (fun i c u hc hu=>g5 i c u hc (by simpa using hu)) e2
    exact ⟨ρ2,q1,far2.trans (q2 md.nm),q3⟩
   ·cases e2
  cases hx:bG call md lf fd.body (oT args) (ak obs) with
  | none=>rw [hx] at hz; cases hz
  | some q =>
   obtain ⟨e,t⟩:=q
   rw [hx] at hz
   refine Wn (N:=N) hcall t4 (Ws hm hcall t4) lf fd.body code t5 hx ok fun a' w' ρ' ok' far=>?_
   cases e with
   | normal =>
    obtain ⟨d1,v,d2,d3⟩:=fin ok' far hz
    exact ⟨d1,v,d2,d3⟩
   | ret =>
    obtain ⟨d1,v,d2,d3⟩:=fin ok' far hz
    exact ⟨d1,v,d2,d3⟩
   | exit id=>cases hz
 ·cases hz
end
section
variable {w:World} {X:Nat→Prop} {ρ:bB} {h h':ab}
theorem L8 {a c:AV} {ks:K} (hz:ey h a=some (c,h',ks)):∀ p ∈ ks,p.2=true:=by
 intro p hp
 unfold ey at hz
 split at hz
 ·unfold kB at hz
  repeat' split at hz
  all_goals first
   | (cases hz; done)
   | (simp only [Option.some.injEq,Prod.mk.injEq] at hz; obtain ⟨_,_,rfl⟩:=hz; simp at hp; done)
   | (simp only [Option.some.injEq,Prod.mk.injEq] at hz; obtain ⟨_,_,rfl⟩:=hz; simp only [List.mem_singleton] at hp; subst hp; rfl)
 ·unfold Be abL at hz
  repeat' split at hz
  all_goals first
   | (cases hz; done)
   | (simp only [Option.some.injEq,Prod.mk.injEq] at hz; obtain ⟨_,_,rfl⟩:=hz; simp only [List.mem_singleton] at hp; subst hp; rfl)
 ·split at hz
  ·cases hz; simp at hp
  ·cases hz
theorem Hj:∀ {l cs:List AV} {h h':ab} {ks:K},eS h l=some (cs,h',ks)→∀ p ∈ ks,p.2=true
 | [],cs,h,h',ks,hz=>by simp only [eS,Option.some.injEq,Prod.mk.injEq] at hz; obtain ⟨_,_,rfl⟩:=hz; simp
 | a::l,cs,h,h',ks,hz=>by
  simp only [eS,Option.bind_eq_some_iff] at hz
  obtain ⟨⟨c,h1,k1⟩,e1,⟨q,h2,k2⟩,e2,e3⟩:=hz
  cases e3
  intro p hp
  rcases List.mem_append.1 hp with hp | hp
  ·exact L8 e1 p hp
  ·exact Hj e2 p hp
theorem ab7 {a c:AV} {ks:K} (hz:pp h a=some (c,h',ks)):∀ p ∈ ks,p.2=true:=by
 unfold pp at hz
 split at hz
 ·simp only [Option.bind_eq_some_iff] at hz
  obtain ⟨⟨q,h1,k1⟩,e1,e2⟩:=hz
  cases e2
  exact Hj e1
 ·exact L8 hz
theorem Y9 {ks:K} (hk:∀ p ∈ ks,p.2=true) (id:Nat):fF ks id none=false:=by
 simp only [fF,List.any_eq_false]
 intro p hp
 simp [hk p hp]
theorem RV.clo {w':World} {A A':Nat→Prop} {ρ':bB} {l:List Nat} {c:AV} {u:Value} (hv:RV w A ρ h c u) (hA:∀ b,A b→A' b∧w'.heap[b]?=w.heap[b]?) (hk:∀ id,bM h id none→bM h' id none∧ρ' id none=ρ id none) (hm:aZ l c=true):RV w' A' ρ' h' c u:=by
 have leaf:∀ {c:AV} {u:Value},RV w A ρ h c u→bj l c=true→RV w' A' ρ' h' c u:=by
  intro c u hv hm
  cases hv with
  | anyv u=>exact .anyv u
  | und=>exact .und
  | dat hd=>exact .dat (hd.mono hA)
  | ref id sub k i j hp =>
   cases sub with
   | some p=>simp [bj] at hm
   | none =>
    obtain ⟨h1,h2⟩:=hk id hp
    rw [← h2]; exact .ref id none k i j h1
  | rsl id sub k lo n cap a hp hn hb ha =>
   cases sub with
   | some p=>simp [bj] at hm
   | none =>
    obtain ⟨h1,h2⟩:=hk id hp
    exact .rsl id none k lo n cap a h1 hn (by rw [h2]; exact hb) (by rw [h2]; exact ha)
  | rsc id k lo n cap a hp hn hb ha=>simp [bj] at hm
  | ipt cs ad vals hA' hs hv hl hr =>
   exact .ipt cs ad vals (hA _ hA').1 hs (fun j c hc=>by rw [jM (w:=w) (w':=w') (by rw [jK]; exact (hA _ hA').2)]; exact hv j c hc) hl (fun j c hc=>(hr j c hc).mono hA)
  | agg cs us hs h1 hr=>simp [bj] at hm
  | tup vs us hs hr=>simp [bj] at hm
  | fn f x y us ts hs ht hx hy =>
   simp [bj] at hm
   obtain ⟨rfl,rfl⟩:=hm
   exact .fn f [] [] us ts hs ht (fun i c u hc=>by simp at hc) (fun i c u hc=>by simp at hc)
 cases c with
 | agg cs =>
  simp only [aZ,List.all_eq_true] at hm
  obtain ⟨us,rfl,hs,h1,hr⟩:=hv.agg_inv
  exact .agg cs us hs h1 fun i c u hc hu=>leaf (hr i c u hc hu) (hm c (List.mem_of_getElem? hc))
 | fn f x y =>
  simp only [aZ,Bool.and_eq_true,List.all_eq_true] at hm
  obtain ⟨us,ts,rfl,hs,ht,hx,hy⟩:=hv.fn_inv
  exact .fn f x y us ts hs ht (fun i c u hc hu=>leaf (hx i c u hc hu) (hm.1 c (List.mem_of_getElem? hc))) (fun i c u hc hu=>leaf (hy i c u hc hu) (hm.2 c (List.mem_of_getElem? hc)))
 | _=>exact leaf hv hm
structure Way (w:World) (X:Nat→Prop) (ρ:bB) (h0 h:ab):Prop where
 evo:∃ ks:K,Evo w ρ h0 w ρ h ks∧∀ p ∈ ks,p.2=true
theorem Way.refl:Way w X ρ h h:=⟨[],.refl _ _ _,by simp⟩
theorem Way.trans {h1 h2:ab} (a:Way w X ρ h h1) (b:Way w X ρ h1 h2):Way w X ρ h h2:=by
 obtain ⟨k1,e1,f1⟩:=a.evo
 obtain ⟨k2,e2,f2⟩:=b.evo
 exact ⟨k1++k2,e1.trans e2,fun p hp=>by rcases List.mem_append.1 hp with hp | hp; exact f1 p hp; exact f2 p hp⟩
theorem Way.al {h0:ab} (a:Way w X ρ h0 h):∀ b,aH w X h0 ρ b→aH w X h ρ b:=by
 obtain ⟨k1,e1,_⟩:=a.evo
 exact fun b hb=>(e1.al hb).1
theorem Tn {h0:ab} {m:Nat} {a z:AV} {u:Value} {ks:K} (r:Rel w X ρ h) (wy:Way w X ρ h0 h) (hv:RV w (aH w X h0 ρ) ρ h0 a u) (hz:ct h m a=some (z,h',ks)) :
  Rel w X ρ h'∧Evo w ρ h w ρ h' ks∧(∀ p ∈ ks,p.2=true)∧∃ h1,Way w X ρ h1 h'∧RV w (aH w X h1 ρ) ρ h1 z u:=by
 have same:some (a,h,([]:K))=some (z,h',ks)→Rel w X ρ h'∧Evo w ρ h w ρ h' ks∧(∀ p ∈ ks,p.2=true)∧∃ h1,Way w X ρ h1 h'∧RV w (aH w X h1 ρ) ρ h1 z u:=by
  intro e
  cases e
  exact ⟨r,.refl _ _ _,by simp,h0,wy,hv⟩
 have data:pp h a=some (z,h',ks)→((∀ cs,a ≠ .agg cs)→u.oneCell'=true)→Rel w X ρ h'∧Evo w ρ h w ρ h' ks∧(∀ p ∈ ks,p.2=true)∧∃ h1,Way w X ρ h1 h'∧RV w (aH w X h1 ρ) ρ h1 z u:=by
  intro hz h1
  obtain ⟨g1,g2,g3,g4⟩:=YM r hv wy.al hz h1
  exact ⟨g1,g2,ab7 hz,h',.refl,.dat g3⟩
 cases a with
 | any =>
  have:ct h m .any=some (.any,h,[]):=by simp [ct,pp,ey,aA]
  rw [this] at hz
  exact same hz
 | rsl id sub k lo n =>
  obtain ⟨ad,cap,rfl,_⟩:=hv.rsl_inv
  cases sub with
  | none =>
   simp only [ct] at hz
   split at hz
   ·exact data hz fun _=>rfl
   ·split at hz
    ·exact same hz
    ·cases hz
  | some p=>exact data hz fun _=>rfl
 | ref id sub k i j =>
  cases sub with
  | none=>exact same hz
  | some p=>simp [ct,pp,ey,aA] at hz
 | ipt cs=>exact same hz
 | fn f x y=>exact same hz
 | agg cs=>exact data hz fun hh=>absurd rfl (hh cs)
 | v x=>exact data hz fun _=>by obtain ⟨rfl,hp⟩:=hv.v_inv; exact zj hp
 | emp =>
  refine data hz fun _=>?_
  cases hv with
  | dat hd=>exact hd.one rfl
 | sl k rows =>
  refine data hz fun _=>?_
  cases hv with
  | dat hd=>exact hd.one rfl
 | _=>simp [ct,pp,ey,aA] at hz
theorem BD {h0:ab}:∀ (l:List AV) (ms:List Nat) (vals:List Value) {h h':ab} {zs:List AV} {ks:K},Rel w X ρ h→Way w X ρ h0 h→vals.length=l.length →
  (∀ (i:Nat) (c:AV) (u:Value),l[i]?=some c→vals[i]?=some u→RV w (aH w X h0 ρ) ρ h0 c u)→bH h ms l=some (zs,h',ks) →
  Rel w X ρ h'∧Evo w ρ h w ρ h' ks∧(∀ p ∈ ks,p.2=true)∧zs.length=l.length∧∀ (i:Nat) (z:AV) (u:Value),zs[i]?=some z→vals[i]?=some u→∃ h1,Way w X ρ h1 h'∧RV w (aH w X h1 ρ) ρ h1 z u
 | [],ms,vals,h,h',zs,ks,r,wy,hl,hv,hz=>by
  simp only [bH,Option.some.injEq,Prod.mk.injEq] at hz
  obtain ⟨rfl,rfl,rfl⟩:=hz
  exact ⟨r,.refl _ _ _,by simp,rfl,fun i z u h1=>by simp at h1⟩
 | a::l,ms,vals,h,h',zs,ks,r,wy,hl,hv,hz=>by
  simp only [bH,Option.bind_eq_some_iff] at hz
  obtain ⟨⟨z,h1,k1⟩,e1,⟨q,h2,k2⟩,e2,e3⟩:=hz
  cases e3
  cases vals with
  | nil=>simp at hl
  | cons u vals =>
   obtain ⟨g1,g2,g3,h3,g4,g5⟩:=Tn r wy (hv 0 a u rfl rfl) e1
   obtain ⟨f1,f2,f3,f4,f5⟩:=BD l ms.tail vals g1 (wy.trans ⟨k1,g2,g3⟩) (by simpa using hl) (fun i c u' h4 h5=>hv (i+1) c u' (by simpa using h4) (by simpa using h5)) e2
   refine ⟨f1,g2.trans f2,fun p hp=>?_,by simp [f4],fun i z' u' h4 h5=>?_⟩
   ·rcases List.mem_append.1 hp with hp | hp
    ·exact g3 p hp
    ·exact f3 p hp
   ·cases i with
    | zero =>
     simp at h4 h5
     subst h4 h5
     exact ⟨h3,g4.trans ⟨k2,f2,f3⟩,g5⟩
    | succ i=>exact f5 i z' u' (by simpa using h4) (by simpa using h5)
theorem Za {L:List Nat} {h1:ab} {z:AV} {u:Value} (wy:Way w X ρ h1 h) (hv:RV w (aH w X h1 ρ) ρ h1 z u) (hc:aZ L z=true):RV w (aH w X h ρ) ρ h z u:=by
 obtain ⟨ks,e,f⟩:=wy.evo
 exact hv.clo (fun b hb=>e.al hb) (fun id hp=>e.keep id none hp (Y9 f id)) hc
theorem BE (r:Rel w X ρ h) {b:Nat} (ho:l5 h ρ b):b < w.heap.size:=by
 obtain ⟨id,sub,hl,rfl⟩:=ho
 cases sub with
 | none =>
  have ho:=r.ob id
  cases e:h id with
  | bx cs=>rw [e] at ho; obtain ⟨us,t,g1,_⟩:=ho; exact (Array.getElem?_eq_some_iff.1 g1).1
  | ar k rows=>rw [e] at ho; obtain ⟨us,t,g1,_⟩:=ho; exact (Array.getElem?_eq_some_iff.1 g1).1
  | _=>simp [live,e] at hl
 | some p =>
  obtain ⟨cs,k,rows,e,ec⟩:=hl
  have ho:=r.ob id
  rw [e] at ho
  obtain ⟨us,t,g1,g2,g3,g4⟩:=ho
  obtain ⟨u,_,a',cap,us',t',_,_,_,q4,_⟩:=g4 p _ ec
  exact (Array.getElem?_eq_some_iff.1 q4).1
section
variable {ids:List Nat}
theorem rZ {a:Nat} (ha:a ∈ ids):1000≤bm ids a∧bm ids a < 1000+ids.length:=by
 unfold bm
 have:=List.idxOf_lt_length_of_mem ha
 omega
theorem qp (hl:ids.length≤1000) {a:Nat} (ha:a ∈ ids):cF ids (bm ids a)=a:=by
 have:=rZ ha
 unfold cF
 rw [if_pos (by omega)]
 unfold bm
 have hlt:=List.idxOf_lt_length_of_mem ha
 rw [List.getD_eq_getElem?_getD,show 1000+ids.idxOf a - 1000=ids.idxOf a from by omega,List.getElem?_eq_getElem hlt]
 simp
theorem vX (hl:ids.length≤1000) (hnd:ids.Nodup) {i:Nat} (h1:1000≤i) (h2:i < 1000+ids.length):cF ids i ∈ ids∧bm ids (cF ids i)=i:=by
 have hj:i - 1000 < ids.length:=by omega
 have e:cF ids i=ids[i - 1000]:=by
  unfold cF
  rw [if_pos (by omega),List.getD_eq_getElem?_getD,List.getElem?_eq_getElem hj]
  rfl
 refine ⟨by rw [e]; simp,?_⟩
 rw [e]
 unfold bm
 rw [hnd.idxOf_getElem (i - 1000) hj]
 omega
theorem Hk {os:List Ob} {j:Nat} {o:Ob} (h:os[j]?=some o):ak os (1000+j)=o:=by
 unfold ak
 rw [if_pos (by omega),show 1000+j - 1000=j from by omega,h]
 rfl
theorem qO {os:List Ob} {i:Nat} (h:i < 1000∨1000+os.length≤i):ak os i=.dead:=by
 unfold ak
 split
 ·rw [List.getElem?_eq_none (by omega)]
  rfl
 ·rfl
theorem Emb.enter (hl:ids.length≤1000) (hnd:ids.Nodup) (hcl:∀ a ∈ ids,aT ids (h a)=true):Emb ids (bm ids) (cF ids) h (ak (ids.map fun a=>cY (bm ids) (h a))):=by
 have at_:∀ a ∈ ids,ak (ids.map fun a=>cY (bm ids) (h a)) (bm ids a)=cY (bm ids) (h a):=fun a ha=>by
  unfold bm
  refine Hk ?_
  have hlt:=List.idxOf_lt_length_of_mem ha
  rw [List.getElem?_map,List.getElem?_eq_getElem hlt]
  simp
 have low:∀ i,ak (ids.map fun a=>cY (bm ids) (h a)) i ≠ .dead→1000≤i∧i < 1000+ids.length:=fun i hi=>by
  by_cases h1:1000≤i∧i < 1000+ids.length
  ·exact h1
  ·exact absurd (qO (by simp; omega)) hi
 refine ⟨fun a ha=>?_,fun i hi=>?_,fun i j hi hj e=>?_⟩
 ·have ha':a ∈ ids:=by simpa using ha
  exact ⟨qp hl ha',at_ a ha'⟩
 ·obtain ⟨h1,h2⟩:=low i hi
  obtain ⟨h3,h4⟩:=vX hl hnd h1 h2
  have:=at_ _ h3
  rw [h4] at this
  exact ⟨this,hcl _ h3⟩
 ·obtain ⟨h1,h2⟩:=low i hi
  obtain ⟨h3,h4⟩:=low j hj
  rw [← (vX hl hnd h1 h2).2,← (vX hl hnd h3 h4).2,e]
end
end
theorem L9 {gv:K} {id:Nat}:∀ {h:ab},(∀ p ∈ gv,p.1 ≠ id)→eU h gv id=h id:=by
 induction gv with
 | nil=>intro h _; rfl
 | cons p l ih =>
  intro h hn
  simp only [eU]
  rw [ih fun q hq=>hn q (by simp [hq])]
  exact aG _ _ (Ne.symm (hn p (by simp)))
theorem Pz {gv:K} {id:Nat}:∀ {h:ab},((∃ p ∈ gv,p.1=id)∨h id=.dead)→eU h gv id=.dead:=by
 induction gv with
 | nil =>
  intro h hi
  rcases hi with ⟨p,hp,_⟩ | hi
  ·simp at hp
  ·exact hi
 | cons p l ih =>
  intro h hi
  simp only [eU]
  by_cases hl:∃ q ∈ l,q.1=id
  ·exact ih (.inl hl)
  ·refine ih (.inr ?_)
   rcases hi with ⟨q,hq,rfl⟩ | hi
   ·rcases List.mem_cons.1 hq with rfl | hq
    ·exact ap _ _ _
    ·exact absurd ⟨q,hq,rfl⟩ hl
   ·unfold upd
    split
    ·rfl
    ·exact hi
theorem PA {ids:List Nat}:∀ {l:List Nat} {os:List Ob} {g:ab} {j a:Nat} {o:Ob},l.Nodup→l[j]?=some a→os[j]?=some o→dt g ids l os a=cY (cF ids) o
 | [],os,g,j,a,o,_,h1,_=>by simp at h1
 | b::l,[],g,j,a,o,_,_,h2=>by simp at h2
 | b::l,o'::os,g,j,a,o,hnd,h1,h2=>by
  obtain ⟨n1,n2⟩:=List.nodup_cons.1 hnd
  simp only [dt]
  cases j with
  | zero =>
   simp at h1 h2
   subst h1 h2
   rw [qn n1,ap]
  | succ j=>exact PA n2 (by simpa using h1) (by simpa using h2)
theorem Hl {h:ab}:∀ {m n:Nat},cV h n m=true→∀ i,n≤i→i < n+m→h i=.dead
 | 0,n,_,i,h1,h2=>by omega
 | m+1,n,hf,i,h1,h2=>by
  simp only [cV,Bool.and_eq_true] at hf
  by_cases e:i=n
  ·subst e
   cases q:h i <;> rw [q] at hf <;> simp [cf] at hf ⊢
  ·exact Hl hf.2 i (by omega) (by omega)
theorem vY {h:ab} {gv:K}:∀ {l:List Nat} {os:List Ob},cW h gv l os=true→∀ (j a:Nat) (o:Ob),l[j]?=some a→os[j]?=some o→(bf (h a)=true→bf o=true)∧((∀ p ∈ gv,p.1 ≠ a)→o ≠ .dead)
 | [],os,_,j,a,o,h1,_=>by simp at h1
 | b::l,[],_,j,a,o,_,h2=>by simp at h2
 | b::l,o'::os,hs,j,a,o,h1,h2=>by
  simp only [cW,Bool.and_eq_true,Bool.or_eq_true,Bool.not_eq_true'] at hs
  obtain ⟨⟨s1,s2⟩,s3⟩:=hs
  cases j with
  | zero =>
   simp at h1 h2
   subst h1 h2
   refine ⟨fun hb=>?_,fun hn e=>?_⟩
   ·rcases s1 with s1 | s1
    ·rw [hb] at s1; cases s1
    ·exact s1
   ·rcases s2 with s2 | s2
    ·simp only [List.any_eq_true,beq_iff_eq] at s2
     obtain ⟨p,hp,e2⟩:=s2
     exact hn p hp e2
    ·subst e; simp [cf] at s2
  | succ j=>exact vY s3 j a o (by simpa using h1) (by simpa using h2)
theorem qP {l l':List Nat} {c:AV} (hl:∀ i,l.contains i=true→l'.contains i=true) (hc:bj l c=true):bj l' c=true:=by
 cases c <;> simp only [bj] at hc ⊢ <;> first | exact hc | skip
 all_goals
  simp only [Bool.and_eq_true] at hc ⊢
  exact ⟨hl _ hc.1,hc.2⟩
theorem BF {l l':List Nat} {c:AV} (hl:∀ i,l.contains i=true→l'.contains i=true) (hc:aZ l c=true):aZ l' c=true:=by
 cases c with
 | agg cs =>
  simp only [aZ,List.all_eq_true] at hc ⊢
  exact fun c h=>qP hl (hc c h)
 | fn f x y =>
  simp only [aZ,Bool.and_eq_true,List.all_eq_true] at hc ⊢
  exact ⟨fun c h=>qP hl (hc.1 c h),fun c h=>qP hl (hc.2 c h)⟩
 | _ =>
  simp only [aZ] at hc ⊢
  exact qP hl hc
theorem PB {l l':List Nat} {o:Ob} (hl:∀ i,l.contains i=true→l'.contains i=true) (hc:aT l o=true):aT l' o=true:=by
 cases o <;> simp only [aT] at hc ⊢
 simp only [List.all_eq_true,gp,Bool.or_eq_true] at hc ⊢
 exact fun c h=>(hc c h).imp id (BF hl)
theorem PC {f:Nat→Nat} {c:AV} (hd:iv c=true):dh f c=c:=by
 cases c <;> simp [iv,bd,aA] at hd <;> first | rfl | skip
 obtain ⟨rfl,rfl⟩:=hd
 rfl
theorem PD {l:List Nat} {n:Nat} {g:ab} {c:AV} (hr:dH l c=true) {i:Nat} (h:(cM n g c).2 i ≠ g i):(∃ k rows,(cM n g c).2 i=.ar k rows)∨∃ cs,(cM n g c).2 i=.bx cs∧cs.all iv=true:=by
 cases c <;> simp only [cM] at h ⊢ <;> first | exact absurd rfl h | skip
 case osl k rows =>
  unfold upd at h ⊢
  split
  ·exact .inl ⟨_,_,rfl⟩
  ·rename_i hn; rw [if_neg hn] at h; exact absurd rfl h
 case obx cs =>
  unfold upd at h ⊢
  split
  ·exact .inr ⟨_,rfl,hr⟩
  ·rename_i hn; rw [if_neg hn] at h; exact absurd rfl h
theorem PF {l:List Nat} {i:Nat}:∀ {vs:List AV} {n:Nat} {g:ab},vs.all (dH l)=true→(bP n g vs).2 i ≠ g i→(∃ k rows,(bP n g vs).2 i=.ar k rows)∨∃ cs,(bP n g vs).2 i=.bx cs∧cs.all iv=true
 | [],n,g,_,h=>absurd rfl h
 | c::vs,n,g,hr,h=>by
  simp only [List.all_cons,Bool.and_eq_true] at hr
  simp only [bP] at h ⊢
  by_cases e:(bP (n+1) (cM n g c).2 vs).2 i=(cM n g c).2 i
  ·rw [e] at h ⊢
   exact PD hr.1 h
  ·exact PF hr.2 e
theorem afs {l:List Nat} {n:Nat} {g:ab} {c:AV} (hr:fG l c=true) {i:Nat} (h:(mat n g c).2 i ≠ g i):(∃ k rows,(mat n g c).2 i=.ar k rows)∨∃ cs,(mat n g c).2 i=.bx cs∧cs.all iv=true:=by
 cases c <;> simp only [mat] at h ⊢ <;> simp only [fG] at hr <;> first | exact PF hr h | exact PD hr h
theorem Ew {l l':List Nat} {n:Nat} {g:ab} {c:AV} (hr:dH l c=true) (hl:∀ i,l.contains i=true→l'.contains i=true) (hn:l'.contains n=true):aZ l' (cM n g c).1=true:=by
 cases c <;> simp only [cM] <;> simp only [dH] at hr <;> first | exact BF hl hr | (simp only [aZ,bj,hn]; rfl)
theorem Ey {l l':List Nat} (hl:∀ i,l.contains i=true→l'.contains i=true):∀ {vs:List AV} {n:Nat} {g:ab},vs.all (dH l)=true→(∀ i,n≤i→i < n+vs.length→l'.contains i=true)→∀ z ∈ (bP n g vs).1,aZ l' z=true
 | [],n,g,_,_,z,hz=>by simp [bP] at hz
 | c::vs,n,g,hr,hn,z,hz=>by
  simp only [List.all_cons,Bool.and_eq_true] at hr
  simp only [bP,List.mem_cons] at hz
  rcases hz with rfl | hz
  ·exact Ew hr.1 hl (hn n (Nat.le_refl _) (by simp))
  ·exact Ey hl hr.2 (fun i h1 h2=>hn i (by omega) (by simp at h2 ⊢; omega)) z hz
def Wu (l:List Nat):AV→Prop
 | .tup vs=>∀ c ∈ vs,aZ l c=true
 | c=>aZ l c=true
theorem Wv {l l':List Nat} {n:Nat} {g:ab} {c:AV} (hr:dH l c=true) (hl:∀ i,l.contains i=true→l'.contains i=true) (hn:l'.contains n=true):Wu l' (cM n g c).1:=by
 have:=Ew (n:=n) (g:=g) hr hl hn
 cases hq:(cM n g c).1 <;> rw [hq] at this <;> first | exact this | simp [aZ,bj] at this
theorem Zb {l l':List Nat} {n:Nat} {g:ab} {c:AV} (hr:fG l c=true) (hl:∀ i,l.contains i=true→l'.contains i=true) (hn:∀ i,n≤i→i < n+cx c→l'.contains i=true):Wu l' (mat n g c).1:=by
 cases c with
 | tup vs =>
  simp only [mat]
  simp only [fG] at hr
  exact Ey hl hr hn
 | _=>exact Wv hr hl (hn n (Nat.le_refl _) (by simp [cx]))
section
variable {w:World} {X:Nat→Prop} {ρ:bB} {hc:ab} {ids:List Nat}
def Ez (X:Nat→Prop) (hc:ab) (ρ:bB) (ids:List Nat) (b:Nat):Prop :=
 X b∨(l5 hc ρ b∧¬ l5 (ak (ids.map fun a=>cY (bm ids) (hc a))) (fun i s=>ρ (cF ids i) s) b)
theorem Zc (r:Rel w X ρ hc) (hl:ids.length≤1000) (hnd:ids.Nodup) (hcl:∀ a ∈ ids,aT ids (hc a)=true) :
  Rel w (Ez X hc ρ ids) (fun i s=>ρ (cF ids i) s) (ak (ids.map fun a=>cY (bm ids) (hc a))) ∧
  (∀ b,aH w X hc ρ b→aH w (Ez X hc ρ ids) (ak (ids.map fun a=>cY (bm ids) (hc a))) (fun i s=>ρ (cF ids i) s) b):=by
 have em:=Emb.enter (h:=hc) hl hnd hcl
 have hA:∀ b,aH w X hc ρ b→aH w (Ez X hc ρ ids) (ak (ids.map fun a=>cY (bm ids) (hc a))) (fun i s=>ρ (cF ids i) s) b:=fun b hb =>
  ⟨hb.1,fun hx=>by rcases hx with hx | ⟨hx,_⟩; exact hb.2.1 hx; exact hb.2.2 hx,fun ⟨i,s,h1,h2⟩=>hb.2.2 ⟨_,s,(em.live h1).1,h2⟩⟩
 exact ⟨Rel.emb em r (fun b hb=>by rcases hb with hb | ⟨hb,_⟩; exact r.xl b hb; exact BE r hb) (fun i s hl hx=>by
  rcases hx with hx | ⟨_,hx⟩
  ·exact r.nx _ _ (em.live hl).1 hx
  ·exact hx ⟨i,s,hl,rfl⟩) hA,hA⟩
theorem BG (hl:ids.length≤1000) (hnd:ids.Nodup) (hcl:∀ a ∈ ids,aT ids (hc a)=true) {b:Nat} (ho:l5 (ak (ids.map fun a=>cY (bm ids) (hc a))) (fun i s=>ρ (cF ids i) s) b) :
  ∃ id sub,id ∈ ids∧live hc id sub∧(ρ id sub).1=b:=by
 obtain ⟨i,s,h1,h2⟩:=ho
 obtain ⟨h3,h4⟩:=(Emb.enter (h:=hc) hl hnd hcl).live h1
 have hi:1000≤i∧i < 1000+ids.length:=by
  by_cases hh:1000≤i∧i < 1000+ids.length
  ·exact hh
  ·exact absurd (qO (by simp; omega)) h4
 exact ⟨_,s,(vX hl hnd hi.1 hi.2).1,h3,h2⟩
theorem Ww {w':World} {ρ':bB} {kp:Bool} {d:Nat} {gv ks0 ks:K} {res:AV} {os:List Ob} {z:AV} {h':ab} {v:Value} (r:Rel w X ρ hc) (hnd:ids.Nodup) (hcl:∀ a ∈ ids,aT ids (hc a)=true) (hdead:∀ a ∈ ids,hc a ≠ .dead) (gvflag:∀ p ∈ gv,p.2=false)
  (hz:dN kp hc d ids ks0 gv (res,os)=some (z,h',ks)) (r':Rel w' (Ez X hc ρ ids) ρ' (mat (2000+8*d) (ak os) res).2)
  (far:Far kp w (fun i s=>ρ (cF ids i) s) (ak (ids.map fun a=>cY (bm ids) (hc a))) w' ρ' (mat (2000+8*d) (ak os) res).2)
  (hv:RV w' (aH w' (Ez X hc ρ ids) (mat (2000+8*d) (ak os) res).2 ρ') ρ' (mat (2000+8*d) (ak os) res).2 (mat (2000+8*d) (ak os) res).1 v) :
  ∃ ρ3 k1,ks=ks0++k1∧Rel w' X ρ3 h'∧Evo w ρ hc w' ρ3 h' k1∧RV w' (aH w' X h' ρ3) ρ3 h' z v:=by
 unfold dN at hz
 split at hz
 ·rename_i hcond
  obtain ⟨c1,hl,c2,c3,c4,c5⟩:=hcond
  simp only at c1 c2 c4
  simp only [Option.some.injEq,Prod.mk.injEq] at hz
  obtain ⟨rfl,rfl,rfl⟩:=hz
  simp only [pF,Bool.and_eq_true] at c5
  obtain ⟨c5,c6,c7⟩:=c5
  generalize hn:2000+8*d=n at *
  have n2:2000≤n:=by omega
  have em:=Emb.enter (h:=hc) hl hnd hcl
  have gdead:∀ i,n≤i→i < n+cx res→hc i=.dead:=Hl c3
  have gids:∀ i,n≤i→i < n+cx res→i ∉ ids:=fun i h1 h2 hi=>hdead i hi (gdead i h1 h2)
  have oget:∀ a ∈ ids,os[ids.idxOf a]?=some (ak os (bm ids a)):=fun a ha=>by
   have h1:=List.idxOf_lt_length_of_mem ha
   have h2:ids.idxOf a < os.length:=by omega
   unfold bm
   rw [List.getElem?_eq_getElem h2]
   exact congrArg some (Hk (by rw [List.getElem?_eq_getElem h2])).symm
  have hm_ids:∀ a ∈ ids,(mat n (ak os) res).2 (bm ids a)=ak os (bm ids a):=fun a ha=>rY (by have:=rZ ha; omega)
  have hm_out:∀ i,¬ (1000≤i∧i < 1000+ids.length)→¬ (n≤i∧i < n+cx res)→(mat n (ak os) res).2 i=.dead:=fun i h1 h2=>by
   rw [rY (by omega)]
   exact qO (by omega)
  have w_ids:∀ a ∈ ids,dt hc ids ids os a=cY (cF ids) (ak os (bm ids a)):=fun a ha=>PA hnd (by
   have h1:=List.idxOf_lt_length_of_mem ha
   rw [List.getElem?_eq_getElem h1]; simp) (oget a ha)
  have h_grp:∀ i,n≤i→i < n+cx res→(mat n (eU (dt hc ids ids os) gv) res).2 i=(mat n (ak os) res).2 i:=fun i h1 h2=>Y4 (by
   rw [Pz (.inr (by rw [qn (gids i h1 h2)]; exact gdead i h1 h2))]
   exact (qO (by omega)).symm)
  have h_ids:∀ a ∈ ids,(∀ p ∈ gv,p.1 ≠ a)→(mat n (eU (dt hc ids ids os) gv) res).2 a=cY (cF ids) ((mat n (ak os) res).2 (bm ids a)):=fun a ha hg=>by
   rw [rY (fun hh=>gids a hh.1 hh.2 ha),L9 hg,w_ids a ha,hm_ids a ha]
  have h_gv:∀ a,¬ (n≤a∧a < n+cx res)→(∃ p ∈ gv,p.1=a)→(mat n (eU (dt hc ids ids os) gv) res).2 a=.dead:=fun a h1 hg=>by
   rw [rY (by omega),Pz (.inl hg)]
  have h_out:∀ a,a ∉ ids→¬ (n≤a∧a < n+cx res)→(∀ p ∈ gv,p.1 ≠ a)→(mat n (eU (dt hc ids ids os) gv) res).2 a=hc a:=fun a h1 h2 hg=>by
   rw [rY (by omega),L9 hg,qn h1]
  generalize hh':(mat n (eU (dt hc ids ids os) gv) res).2=h' at *
  have hzr':(mat n (ak os) res).1=(mat n (eU (dt hc ids ids os) gv) res).1:=Ur _ _ _ _
  generalize (mat n (eU (dt hc ids ids os) gv) res).1=zr at *
  have grp_obj:∀ i,n≤i→i < n+cx res→(mat n (ak os) res).2 i ≠ .dead→(∃ k rows,(mat n (ak os) res).2 i=.ar k rows)∨∃ cs,(mat n (ak os) res).2 i=.bx cs∧cs.all iv=true:=fun i h1 h2 hd =>
   afs c6 (by rw [qO (show i < 1000∨1000+os.length≤i from by omega)]; exact hd)
  rw [hzr'] at hv
  have zcl:∀ {l':List Nat},(∀ i,(vN ids gv).contains i=true→l'.contains i=true)→(∀ i,n≤i→i < n+cx res→l'.contains i=true)→Wu l' zr:=fun {l'} hl1 hl2=>hzr' ▸ Zb c6 hl1 hl2
  generalize hhm:(mat n (ak os) res).2=hm at *
  have ok_spec:∀ i,(vN ids gv).contains i=true→1000≤i∧i < 1000+ids.length∧∀ p ∈ gv,p.1 ≠ cF ids i:=fun i hi=>by
   unfold vN at hi
   split at hi
   ·have:=i8.1 hi
    exact ⟨this.1,this.2,by simp⟩
   ·simp only [List.contains_eq_mem,List.mem_filter,decide_eq_true_eq,Bool.not_eq_true',List.any_eq_false,beq_iff_eq] at hi
    have:=i8.1 (show (cN ids.length).contains i=true from by simpa using hi.1)
    exact ⟨this.1,this.2,fun p hp=>hi.2 p hp⟩
  have ok_mk:∀ a ∈ ids,(∀ p ∈ gv,p.1 ≠ a)→(vN ids gv).contains (bm ids a)=true:=fun a ha hg=>by
   have h1:=rZ ha
   unfold vN
   split
   ·exact i8.2 h1
   ·simp only [List.contains_eq_mem,List.mem_filter,decide_eq_true_eq,Bool.not_eq_true',List.any_eq_false,beq_iff_eq]
    exact ⟨by simpa using i8.2 h1,fun p hp=>by rw [qp hl ha]; exact hg p hp⟩
  let L3:List Nat:=vN ids gv++List.range' n (cx res)
  have l3a:∀ i,(vN ids gv).contains i=true→L3.contains i=true:=fun i hi=>by
   simp only [L3,List.contains_eq_mem,List.mem_append,decide_eq_true_eq] at hi ⊢; exact .inl hi
  have l3b:∀ i,n≤i→i < n+cx res→L3.contains i=true:=fun i h1 h2=>by
   simp only [L3,List.contains_eq_mem,List.mem_append,decide_eq_true_eq,List.mem_range'_1]; exact .inr ⟨h1,h2⟩
  let Cal:Nat→Prop:=fun i=>(i ∈ ids∧∀ p ∈ gv,p.1 ≠ i)∨(n≤i∧i < n+cx res)
  let nm:Nat→Nat:=fun i=>if i ∈ ids then bm ids i else i
  let h3:ab:=fun i=>open Classical in if Cal i then h' i else .dead
  have h3c:∀ i,Cal i→h3 i=h' i:=fun i hi=>by simp only [h3,if_pos hi]
  have h3n:∀ i,h3 i ≠ .dead→Cal i:=fun i hi=>by
   by_cases hC:Cal i
   ·exact hC
   ·simp only [h3,if_neg hC] at hi; exact absurd rfl hi
  have nmi:∀ i ∈ ids,nm i=bm ids i:=fun i hi=>by simp only [nm,if_pos hi]
  have nmg:∀ i,n≤i→i < n+cx res→nm i=i:=fun i h1 h2=>by simp only [nm,if_neg (gids i h1 h2)]
  have em3:Emb L3 (cF ids) nm hm h3:=by
   refine ⟨fun i hi=>?_,fun i hi=>?_,fun i j hi hj e=>?_⟩
   ·simp only [L3,List.contains_eq_mem,List.mem_append,decide_eq_true_eq,List.mem_range'_1] at hi
    rcases hi with hi | hi
    ·obtain ⟨q1,q2,q3⟩:=ok_spec i (by simpa using hi)
     obtain ⟨q4,q5⟩:=vX hl hnd q1 q2
     refine ⟨by rw [nmi _ q4,q5],?_⟩
     rw [h3c _ (.inl ⟨q4,q3⟩),h_ids _ q4 q3,q5]
    ·have e1:cF ids i=i:=by unfold cF; rw [if_neg (by omega)]
     rw [e1]
     refine ⟨nmg i hi.1 hi.2,?_⟩
     rw [h3c _ (.inr hi),h_grp i hi.1 hi.2]
     by_cases hd:hm i=.dead
     ·rw [hd]; rfl
     ·rcases grp_obj i hi.1 hi.2 hd with ⟨k,rows,e2⟩ | ⟨cs,e2,e3⟩
      ·rw [e2]; rfl
      ·rw [e2]
       simp only [cY,Ob.bx.injEq]
       exact ((List.map_congr_left (g:=fun c=>c) fun c hc=>PC (List.all_eq_true.1 e3 c hc)).trans (List.map_id' cs)).symm
   ·rcases h3n i hi with ⟨q1,q2⟩ | ⟨q1,q2⟩
    ·rw [h3c _ (.inl ⟨q1,q2⟩),nmi i q1]
     refine ⟨h_ids i q1 q2,?_⟩
     rw [hm_ids i q1]
     exact PB l3a (List.all_eq_true.1 c7 _ (List.mem_of_getElem? (oget i q1)))
    ·rw [nmg i q1 q2]
     have hd:hm i ≠ .dead:=by rw [h3c _ (.inr ⟨q1,q2⟩),h_grp i q1 q2] at hi; exact hi
     rw [h3c _ (.inr ⟨q1,q2⟩),h_grp i q1 q2]
     rcases grp_obj i q1 q2 hd with ⟨k,rows,e2⟩ | ⟨cs,e2,e3⟩
     ·rw [e2]; exact ⟨rfl,rfl⟩
     ·rw [e2]
      refine ⟨?_,?_⟩
      ·simp only [cY,Ob.bx.injEq]
       exact ((List.map_congr_left (g:=fun c=>c) fun c hc=>PC (List.all_eq_true.1 e3 c hc)).trans (List.map_id' cs)).symm
      ·simp only [aT,List.all_eq_true]
       exact fun c hc=>Et (List.all_eq_true.1 e3 c hc)
   ·rcases h3n i hi with ⟨q1,q2⟩ | ⟨q1,q2⟩ <;> rcases h3n j hj with ⟨q3,q4⟩ | ⟨q3,q4⟩
    ·rw [nmi i q1,nmi j q3] at e
     rw [← qp hl q1,← qp hl q3,e]
    ·rw [nmi i q1,nmg j q3 q4] at e
     have:=rZ q1
     omega
    ·rw [nmg i q1 q2,nmi j q3] at e
     have:=rZ q3
     omega
    ·rwa [nmg i q1 q2,nmg j q3 q4] at e
  have own3:∀ {b},l5 h3 (fun i s=>ρ' (nm i) s) b→l5 hm ρ' b:=fun ⟨i,s,h1,h2⟩=>⟨nm i,s,(em3.live h1).1,h2⟩
  have r3:Rel w' (Ez X hc ρ ids) (fun i s=>ρ' (nm i) s) h3:=Rel.emb em3 r' r'.xl (fun i s hl=>r'.nx _ _ (em3.live hl).1) fun b hb=>⟨hb.1,hb.2.1,fun ho=>hb.2.2 (own3 ho)⟩
  let ρ3:bB:=fun i s=>open Classical in if Cal i then ρ' (nm i) s else ρ i s
  have r3c:∀ i,Cal i→∀ s,ρ3 i s=ρ' (nm i) s:=fun i hi s=>by simp only [ρ3,if_pos hi]
  have r3n:∀ i,¬ Cal i→∀ s,ρ3 i s=ρ i s:=fun i hi s=>by simp only [ρ3,if_neg hi]
  have rest:∀ i,¬ Cal i→h' i ≠ .dead→i ∉ ids∧h' i=hc i:=fun i hi hd=>by
   have h1:¬ (n≤i∧i < n+cx res):=fun hh=>hi (.inr hh)
   have h2:∀ p ∈ gv,p.1 ≠ i:=fun p hp e=>hd (h_gv i h1 ⟨p,hp,e⟩)
   have h4:i ∉ ids:=fun hh=>hi (.inl ⟨hh,h2⟩)
   exact ⟨h4,h_out i h4 h1 h2⟩
  have xin:∀ {i s},i ∉ ids→live hc i s→¬ l5 (ak (ids.map fun a=>cY (bm ids) (hc a))) (fun i s=>ρ (cF ids i) s) (ρ i s).1:=fun {i s} hi hl' ho=>by
   obtain ⟨id,sub,q1,q2,q3⟩:=BG hl hnd hcl ho
   obtain ⟨e,_⟩:=r.inj _ _ _ _ q2 hl' q3
   exact hi (e ▸ q1)
  have lcal:∀ {i s},live h' i s→Cal i→live h3 i s:=fun {i s} hl' hC=>(bZ (h3c i hC)).2 hl'
  have lrest:∀ {i s},live h' i s→¬ Cal i→i ∉ ids∧live hc i s:=fun {i s} hl' hC=>by
   have hd:h' i ≠ .dead:=by
    cases s with
    | none=>intro e; simp [live,e] at hl'
    | some p=>obtain ⟨_,_,_,e,_⟩:=hl'; rw [e]; simp
   obtain ⟨h1,h2⟩:=rest i hC hd
   exact ⟨h1,(bZ h2).1 hl'⟩
  have fr3:∀ {b},l5 hm ρ' b→l5 (ak (ids.map fun a=>cY (bm ids) (hc a))) (fun i s=>ρ (cF ids i) s) b∨w.heap.size≤b:=fun ho=>far.fresh _ ho
  have parts:∀ {i s j t},live h3 i s→j ∉ ids→live hc j t→(ρ' (nm i) s).1 ≠ (ρ j t).1:=fun {i s j t} h1 h2 h4 e=>by
   rcases fr3 ⟨nm i,s,(em3.live h1).1,e⟩ with ho | ho
   ·exact xin h2 h4 ho
   ·have:=BE r ⟨j,t,h4,rfl⟩
    omega
  have ownc:∀ {b},l5 h' ρ3 b→l5 h3 (fun i s=>ρ' (nm i) s) b∨∃ id sub,id ∉ ids∧live hc id sub∧(ρ id sub).1=b:=fun {b} ⟨i,s,h1,h2⟩=>by
   by_cases hC:Cal i
   ·exact .inl ⟨i,s,lcal h1 hC,by rw [← h2,r3c i hC]⟩
   ·obtain ⟨h4,h5⟩:=lrest h1 hC
    exact .inr ⟨i,s,h4,h5,by rw [← h2,r3n i hC]⟩
  have hA3:∀ b,aH w' (Ez X hc ρ ids) h3 (fun i s=>ρ' (nm i) s) b→aH w' X h' ρ3 b:=fun b hb=>⟨hb.1,fun hx=>hb.2.1 (.inl hx),fun ho=>by
   rcases ownc ho with ho | ⟨i,s,h1,h2,rfl⟩
   ·exact hb.2.2 ho
   ·exact hb.2.1 (.inr ⟨⟨i,s,h2,rfl⟩,xin h1 h2⟩)⟩
  have noE:∀ {b},¬ l5 hc ρ b→¬ l5 (ak (ids.map fun a=>cY (bm ids) (hc a))) (fun i s=>ρ (cF ids i) s) b:=fun {b} hb ho=>by
   obtain ⟨id,sub,_,q2,q3⟩:=BG hl hnd hcl ho
   exact hb ⟨id,sub,q2,q3⟩
  have hAc:∀ b,aH w X hc ρ b→aH w' X h' ρ3 b∧w'.heap[b]?=w.heap[b]?:=fun b hb=>by
   refine ⟨⟨Nat.lt_of_lt_of_le hb.1 far.size,hb.2.1,fun ho=>?_⟩,far.old b hb.1 (noE hb.2.2)⟩
   rcases ownc ho with ho | ⟨i,s,h1,h2,rfl⟩
   ·rcases fr3 (own3 ho) with ho | ho
    ·exact noE hb.2.2 ho
    ·have:=hb.1; omega
   ·exact hb.2.2 ⟨i,s,h2,rfl⟩
  have pas:∀ a ∈ ids,aY (bm ids a)=true:=fun a ha=>by
   have:=rZ ha
   simp only [aY,decide_eq_true_eq]
   omega
  have stayI:∀ a ∈ ids,(∀ p ∈ gv,p.1 ≠ a)→h' a ≠ .dead∧ρ3 a none=ρ a none∧hm (bm ids a) ≠ .dead:=fun a ha hg=>by
   have h1:=(vY c4 _ a _ (by have h1:=List.idxOf_lt_length_of_mem ha; rw [List.getElem?_eq_getElem h1]; simp) (oget a ha)).2 hg
   have h2:hm (bm ids a) ≠ .dead:=by rw [hm_ids a ha]; exact h1
   refine ⟨by rw [h_ids a ha hg,ne_eq,Bv]; exact h2,?_,h2⟩
   rw [r3c a (.inl ⟨ha,hg⟩),nmi a ha,(far.stay _ (pas a ha) h2).2,qp hl ha]
  have bfB:∀ id,bf (hc id)=true→bf (h' id)=true∧ρ3 id none=ρ id none:=fun id hb=>by
   have h1:¬ (n≤id∧id < n+cx res):=fun hh=>by rw [gdead id hh.1 hh.2] at hb; cases hb
   have h2:∀ p ∈ gv,p.1 ≠ id:=fun p hp e=>by
    have:=List.all_eq_true.1 c5 p hp
    rw [e,hb] at this
    cases this
   by_cases hi:id ∈ ids
   ·have h4:=(vY c4 _ id _ (by have h1:=List.idxOf_lt_length_of_mem hi; rw [List.getElem?_eq_getElem h1]; simp) (oget id hi)).1 hb
    exact ⟨by rw [h_ids id hi h2,Uo,hm_ids id hi]; exact h4,(stayI id hi h2).2.1⟩
   ·exact ⟨by rw [h_out id hi h1 h2]; exact hb,r3n id (fun hC=>by rcases hC with hC | hC; exact hi hC.1; exact h1 hC) none⟩
  have rel:Rel w' X ρ3 h':=by
   refine ⟨fun i s j t h1 h2 e=>?_,fun i s h1 hx=>?_,fun id=>?_,fun b hb=>Nat.lt_of_lt_of_le (r.xl b hb) far.size⟩
   ·by_cases hi:Cal i <;> by_cases hj:Cal j
    ·rw [r3c i hi,r3c j hj] at e
     exact r3.inj _ _ _ _ (lcal h1 hi) (lcal h2 hj) e
    ·rw [r3c i hi,r3n j hj] at e
     obtain ⟨q1,q2⟩:=lrest h2 hj
     exact absurd e (parts (lcal h1 hi) q1 q2)
    ·rw [r3n i hi,r3c j hj] at e
     obtain ⟨q1,q2⟩:=lrest h1 hi
     exact absurd e.symm (parts (lcal h2 hj) q1 q2)
    ·rw [r3n i hi,r3n j hj] at e
     exact r.inj _ _ _ _ (lrest h1 hi).2 (lrest h2 hj).2 e
   ·by_cases hi:Cal i
    ·rw [r3c i hi] at hx
     exact r3.nx _ _ (lcal h1 hi) (.inl hx)
    ·rw [r3n i hi] at hx
     exact r.nx _ _ (lrest h1 hi).2 hx
   ·by_cases hi:Cal id
    ·have:=(r3.ob id).keep (w':=w') (A':=aH w' X h' ρ3) (ρ':=ρ3) (h':=h') (fun b hb=>⟨hA3 b hb,rfl⟩) (fun i hb=>by
      have hC:=h3n i (fun e=>by rw [e] at hb; cases hb)
      rw [h3c i hC] at hb
      exact ⟨hb,r3c i hC none⟩) (fun s=>r3c id hi s) (fun _ _=>rfl)
     rwa [h3c id hi] at this
    ·by_cases hd:h' id=.dead
     ·rw [hd]; trivial
     ·obtain ⟨q1,q2⟩:=rest id hi hd
      have:=(r.ob id).keep (w':=w') (A':=aH w' X h' ρ3) (ρ':=ρ3) (h':=h') hAc bfB (fun s=>r3n id hi s) (fun s hl'=>far.old _ (BE r ⟨id,s,hl',rfl⟩) (xin q1 hl'))
      rwa [← q2] at this
  have evo:Evo w ρ hc w' ρ3 h' ((if kp then [] else ids.map (·,true))++gv):=by
   refine ⟨far.os,far.tape,far.output,far.size,fun b hb ho=>far.old b hb (noE ho),fun id sub hp hk=>?_,fun b ho=>?_,bfB,fun id hp hd=>?_⟩
   ·rw [uI,Bool.or_eq_false_iff] at hk
    have h2:∀ p ∈ gv,p.1 ≠ id:=fun p hp' e=>by
     have hk2:=hk.2
     simp only [fF,List.any_eq_false,Bool.and_eq_true,beq_iff_eq,Bool.or_eq_true,Bool.not_eq_true',not_and] at hk2
     exact hk2 p hp' e (.inl (gvflag p hp'))
    have hnd':hc id ≠ .dead:=by
     cases sub with
     | none=>exact hp
     | some p=>obtain ⟨_,_,_,e,_⟩:=hp; rw [e]; simp
    have h1:¬ (n≤id∧id < n+cx res):=fun hh=>hnd' (gdead id hh.1 hh.2)
    by_cases hi:id ∈ ids
    ·cases sub with
     | none=>exact ⟨(stayI id hi h2).1,(stayI id hi h2).2.1⟩
     | some p =>
      cases kp with
      | false =>
       have hk1:=hk.1
       simp only [Bool.false_eq_true,if_false,fF,List.any_map,List.any_eq_false,Function.comp,Bool.and_eq_true,beq_iff_eq] at hk1
       exact absurd ⟨rfl,rfl⟩ (hk1 id hi)
      | true =>
       have hpe:bM (ak (ids.map fun a=>cY (bm ids) (hc a))) (bm ids id) (some p):=by
        obtain ⟨cs,k,rows,e1,e2⟩:=hp
        have:=(em.back id (by simpa using hi)).2
        rw [e1] at this
        refine ⟨cs.map (dh (bm ids)),k,rows,this,?_⟩
        rw [List.getElem?_map,e2]
        rfl
       obtain ⟨q1,q2⟩:=far.keep rfl (bm ids id) p (pas id hi) (stayI id hi h2).2.2 hpe
       refine ⟨?_,?_⟩
       ·obtain ⟨cs,k,rows,e1,e2⟩:=q1
        refine ⟨cs.map (dh (cF ids)),k,rows,?_,?_⟩
        ·rw [h_ids id hi h2,e1]; rfl
        ·rw [List.getElem?_map,e2]; rfl
       ·rw [r3c id (.inl ⟨hi,h2⟩),nmi id hi,q2,qp hl hi]
    ·have hC:¬ Cal id:=fun hC=>by rcases hC with hC | hC; exact hi hC.1; exact h1 hC
     exact ⟨(du (h_out id hi h1 h2)).2 hp,r3n id hC sub⟩
   ·rcases ownc ho with ho | ⟨i,s,h1,h2,rfl⟩
    ·rcases fr3 (own3 ho) with ho | ho
     ·obtain ⟨id,sub,_,q2,q3⟩:=BG hl hnd hcl ho
      exact .inl ⟨id,sub,q2,q3⟩
     ·exact .inr ho
    ·exact .inl ⟨i,s,h2,rfl⟩
   ·simp only [aY,decide_eq_true_eq] at hp
    by_cases hi:id ∈ ids
    ·refine ⟨hdead id hi,?_⟩
     by_cases hg:∀ p ∈ gv,p.1 ≠ id
     ·exact (stayI id hi hg).2.1
     ·exfalso
      refine hd (h_gv id (by omega) ?_)
      have:=Classical.not_forall.1 hg
      obtain ⟨p,hp'⟩:=this
      obtain ⟨hp1,hp2⟩:=Classical.not_imp.1 hp'
      exact ⟨p,hp1,Classical.not_not.1 hp2⟩
    ·have hC:¬ Cal id:=fun hC=>by rcases hC with hC | hC; exact hi hC.1; omega
     obtain ⟨_,q2⟩:=rest id hC hd
     exact ⟨q2 ▸ hd,r3n id hC none⟩
  refine ⟨ρ3,_,rfl,rel,evo,?_⟩
  have toV:∀ {c:AV} {u:Value},RV w' (aH w' (Ez X hc ρ ids) hm ρ') ρ' hm c u→aZ L3 c=true→RV w' (aH w' X h' ρ3) ρ3 h' (dh (cF ids) c) u:=fun {c u} hv hcl'=>by
   have h1:=hv.embA (A2:=aH w' (Ez X hc ρ ids) h3 (fun i s=>ρ' (nm i) s)) em3 (fun b hb=>⟨hb.1,hb.2.1,fun ho=>hb.2.2 (own3 ho)⟩) hcl'
   exact h1.keep (fun b hb=>⟨hA3 b hb,rfl⟩) fun i s hp=>by
    have hC:=h3n i (by
     cases s with
     | none=>exact hp
     | some p=>obtain ⟨_,_,_,e,_⟩:=hp; rw [e]; simp)
    exact ⟨(du (h3c i hC)).1 hp,r3c i hC s⟩
  have zc:=zcl l3a l3b
  cases zr with
  | tup vs =>
   cases hv with
   | dat hd=>cases hd
   | tup _ us hs hr =>
    refine .tup _ us (by simpa using hs) fun i c u hc' hu=>?_
    simp only [List.getElem?_map,Option.map_eq_some_iff] at hc'
    obtain ⟨c0,h1,rfl⟩:=hc'
    exact toV (hr i c0 u h1 hu) (zc c0 (List.mem_of_getElem? h1))
  | _=>exact toV hv zc
 ·cases hz
end
theorem uP {R:AV→Value→Prop} {l1 l2:List AV} {v1 v2:List Value} (hl:v1.length=l1.length) (h1:∀ (i:Nat) (c:AV) (u:Value),l1[i]?=some c→v1[i]?=some u→R c u)
  (h2:∀ (i:Nat) (c:AV) (u:Value),l2[i]?=some c→v2[i]?=some u→R c u) (i:Nat) (c:AV) (u:Value) (hc:(l1++l2)[i]?=some c) (hu:(v1++v2)[i]?=some u):R c u:=by
 by_cases h:i < l1.length
 ·rw [List.getElem?_append_left h] at hc
  rw [List.getElem?_append_left (by omega)] at hu
  exact h1 i c u hc hu
 ·rw [List.getElem?_append_right (by omega)] at hc
  rw [List.getElem?_append_right (by omega),hl] at hu
  exact h2 _ c u hc hu
theorem Hm:∀ {l:List AV} {ms:List Nat},∀ p ∈ mR ms l,p.2=false
 | [],ms,p,hp=>by simp [mR] at hp
 | a::l,ms,p,hp=>by
  simp only [mR,List.mem_append] at hp
  rcases hp with hp | hp
  ·split at hp
   ·simp only [List.mem_map] at hp
    obtain ⟨i,_,rfl⟩:=hp
    rfl
   ·simp at hp
  ·exact Hm p hp
section
variable {P:Program} {I:Inv} {call:dG} {md:Mode}
def Wx (P:Program) (I:Inv) (call:dG) (md:Mode):Prop :=
 ∀ {w:World} {X:Nat→Prop} {ρ:bB} {h h':ab} {d:Nat} {f z:AV} {zas:List AV} {ks:K} {uf:Value} {us:Array Value},d < 1000→I.p w X→Rel w X ρ h→RV w (aH w X h ρ) ρ h f uf→us.size=zas.length →
  (∀ (i:Nat) (c:AV) (u:Value),zas[i]?=some c→us[i]?=some u→RV w (aH w X h ρ) ρ h c u)→dm call md h d zas f=some (z,h',ks) →
  ∃ g first cap,uf=.func (.func g) first cap∧Enters P g (first++us++cap) w fun v w'=>Got w X ρ h w' h' ks z v
theorem To (hf:∀ f,ko P I (md.keep f) f (call f)):Wx P I call md:=by
 intro w X ρ h h' d f z zas ks uf us hd hi r hvf hus hva hz
 cases f <;> simp only [dm] at hz <;> try (cases hz; done)
 rename_i fid a b
 obtain ⟨first,cap,rfl,s1,s2,va,vb⟩:=hvf.fn_inv
 refine ⟨fid,first,cap,rfl,?_⟩
 simp only [Option.bind_eq_some_iff] at hz
 obtain ⟨⟨zs,hc,ks0⟩,e1,e2⟩:=hz
 simp only at e2
 have hvals:(first++us++cap).toList=first.toList++us.toList++cap.toList:=by simp
 obtain ⟨r1,ev1,fl1,ln1,vv⟩:=BD (h0:=h) (a++zas++b) (md.m fid) (first++us++cap).toList r .refl (by simp [s1,s2,hus]) (fun i c u h1 h2=>by
  rw [hvals] at h2
  refine uP (by simp [s1,hus]) (fun i c u h1 h2=>uP (by simp [s1]) (fun i c u h1 h2=>va i c u h1 (by simpa using h2)) (fun i c u h1 h2=>hva i c u h1 (by simpa using h2)) i c u h1 h2) (fun i c u h1 h2=>vb i c u h1 (by simpa using h2)) i c u h1 h2) e1
 have hnd:(bW hc 40 (bE [] (zs.flatMap bI)) 0).Nodup:=En (vU List.nodup_nil)
 generalize bW hc 40 (bE [] (zs.flatMap bI)) 0=ids at *
 unfold ix at e2
 split at e2
 ·rename_i hck
  simp only [Bool.and_eq_true,List.all_eq_true,Bool.not_eq_true'] at hck
  obtain ⟨k1,k2⟩:=hck
  simp only [Option.bind_eq_some_iff] at e2
  obtain ⟨⟨res,os⟩,e3,e4⟩:=e2
  have hl:ids.length≤1000:=by
   unfold dN at e4
   split at e4
   ·rename_i hh; exact hh.2.1
   ·cases e4
  have hcl:∀ a ∈ ids,aT ids (hc a)=true:=fun a ha=>(k2 a ha).1
  have hdead:∀ a ∈ ids,hc a ≠ .dead:=fun a ha e=>by
   have:=(k2 a ha).2
   rw [e] at this
   cases this
  have em:=Emb.enter (h:=hc) hl hnd hcl
  obtain ⟨rE,hA⟩:=Zc r1 hl hnd hcl
  have hi1:I.p w (Ez X hc ρ ids):=I.more hi fun b hb=>.inl hb
  have hlen:(first++us++cap).size=zs.length:=by rw [ln1]; simp [s1,s2,hus]
  refine (hf fid e3 (n:=2000+8*d) (by omega) hi1 rE (by rw [List.length_map,qN]; exact hlen) fun i c u hc' hu=>?_).mono fun v w' ⟨ρ',q1,q2,q3⟩=>?_
  ·simp only [List.getElem?_map,Option.map_eq_some_iff] at hc'
   obtain ⟨c0,h1,rfl⟩:=hc'
   obtain ⟨c1,h2,h3⟩:=qo _ _ _ _ h1
   obtain ⟨h4,wy,hv⟩:=vv i c1 u h2 (by rw [Array.getElem?_toList]; exact hu)
   have hv':RV w (aH w X h4 ρ) ρ h4 c0 u:=by
    rcases h3 with rfl | ⟨ss,rfl⟩
    ·exact hv
    ·exact hv.nrmV ss
   have hcc:=k1 c0 (List.mem_of_getElem? h1)
   exact (Za wy hv' hcc).embA em hA hcc
  ·obtain ⟨ρ3,k3,rfl,g1,g2,g3⟩:=Ww r1 hnd hcl hdead Hm e4 q1 q2 q3
   exact ⟨ρ3,g1,ev1.trans g2,g3⟩
 ·cases e2
theorem BH {w:World} {X:Nat→Prop} {ρ:bB} {h:ab} {b:Nat} (hb:aH w X h ρ b):aH w X (ak []) ρ b:=⟨hb.1,hb.2.1,fun ⟨id,sub,hl,_⟩=>by
 have hd:ak [] id=.dead:=by unfold ak; split <;> simp
 cases sub with
 | none=>simp [live,hd] at hl
 | some p=>simp [live,hd] at hl⟩
theorem Uu {w:World} {X:Nat→Prop} {ρ:bB} {h:ab} (r:Rel w X ρ h) {id:Nat} {sub:Option Nat} (hl:live h id sub):aH w X (ak []) ρ (ρ id sub).1 :=
 ⟨BE r ⟨id,sub,hl,rfl⟩,r.nx id sub hl,fun ⟨id',sub',hl',_⟩=>by
  have hd:ak [] id'=.dead:=by unfold ak; split <;> simp
  cases sub' with
  | none=>simp [live,hd] at hl'
  | some p=>simp [live,hd] at hl'⟩
theorem Wy {w:World} {X:Nat→Prop} {ρ:bB} {h:ab} (r:Rel w X ρ h) {a c:AV} {u:Value} (hv:RV w (aH w X h ρ) ρ h a u) (hz:VJ h a=some c):RV w (aH w X (ak []) ρ) ρ (ak []) c u:=by
 have dd:∀ {a:AV},RD w (aH w X h ρ) a u→RV w (aH w X (ak []) ρ) ρ (ak []) a u:=fun hd=>.dat (hd.mono fun b hb=>⟨BH hb,rfl⟩)
 cases a <;> simp only [VJ] at hz <;> try (cases hz; done)
 case v x=>cases hz; exact .dat (by obtain ⟨rfl,hp⟩:=hv.v_inv; exact .v _ hp)
 case emp=>cases hz; obtain ⟨a,rfl⟩:=hv.emp_inv; exact .dat (.emp a)
 case sl k rows=>cases hz; exact dd hv.sl_inv
 case rsl id sub k lo n =>
  simp only [Option.map_eq_some_iff] at hz
  obtain ⟨rs,h1,rfl⟩:=hz
  obtain ⟨a,cap,rfl,hp,hn,hb,ha⟩:=hv.rsl_inv
  cases sub with
  | none =>
   simp only [qD] at h1
   have ho:=r.ob id
   cases eo:h id with
   | dead=>rw [eo] at h1; simp [pq,fp] at h1
   | bx cs=>rw [eo] at h1; simp [pq,fp] at h1
   | ar k' rows =>
    rw [eo] at h1 ho
    simp only [pq,fp] at h1
    split at h1
    ·rename_i hc
     obtain ⟨rfl,hle⟩:=hc
     cases h1
     obtain ⟨us,t0,g1,g2,g3,g4⟩:=ho
     exact .dat (jO g1 (Uu r (by simp [live,eo])) (g4.mono fun b hb=>⟨BH hb,rfl⟩) hle hn ha)
    ·cases h1
   | fz k' rows =>
    rw [eo] at h1 ho
    simp only [pq,fp] at h1
    split at h1
    ·rename_i hc
     obtain ⟨rfl,hle⟩:=hc
     cases h1
     obtain ⟨ga,us,t0,fr,g1,g2,g3,g4⟩:=ho
     exact .dat (jO g1 (BH ga) (g4.mono fun b hb=>⟨BH hb,rfl⟩) hle hn ha)
    ·cases h1
  | some p =>
   simp only [qD] at h1
   cases eo:h id with
   | bx cs =>
    rw [eo] at h1
    simp only [go] at h1
    cases ec:cs[p]? with
    | none=>rw [ec] at h1; simp [pW,fp] at h1
    | some c =>
     rw [ec] at h1
     cases c <;> simp [pW,fp] at h1
     rename_i k' rows
     obtain ⟨⟨rfl,hle⟩,rfl⟩:=h1
     obtain ⟨us,t0,g1,g2,g3,g4⟩:=r.cell eo
     obtain ⟨u,f1,a',cap',us1,t1,q1,q2,q3,q4,q5,q6,q7⟩:=g4 p _ ec
     exact .dat (jO q4 (Uu r ⟨cs,_,rows,eo,ec⟩) (q7.mono fun b hb=>⟨BH hb,rfl⟩) hle hn ha)
   | dead=>rw [eo] at h1; simp [go,fp] at h1
   | ar k' rows=>rw [eo] at h1; simp [go,fp] at h1
   | fz k' rows=>rw [eo] at h1; simp [go,fp] at h1
 case fn f x y =>
  cases x with
  | cons a l=>simp at hz
  | nil =>
   cases y with
   | cons a l=>simp at hz
   | nil =>
    simp only [Option.some.injEq] at hz
    subst hz
    obtain ⟨us,ts,rfl,s1,s2,_,_⟩:=hv.fn_inv
    exact .fn f [] [] us ts s1 s2 (fun i c u hc=>by simp at hc) (fun i c u hc=>by simp at hc)
theorem Hn {w:World} {X:Nat→Prop} {ρ:bB} {h:ab} (r:Rel w X ρ h):∀ (l:List AV) (vals:List Value) {cs:List AV},vals.length=l.length→(∀ (i:Nat) (c:AV) (u:Value),l[i]?=some c→vals[i]?=some u→RV w (aH w X h ρ) ρ h c u)→Js h l=some cs →
  cs.length=l.length∧∀ (i:Nat) (c:AV) (u:Value),cs[i]?=some c→vals[i]?=some u→RV w (aH w X (ak []) ρ) ρ (ak []) c u
 | [],vals,cs,hl,hv,hz=>by
  simp only [Js,Option.some.injEq] at hz
  subst hz
  exact ⟨rfl,fun i c u hc=>by simp at hc⟩
 | a::l,[],cs,hl,hv,hz=>by simp at hl
 | a::l,v::vals,cs,hl,hv,hz=>by
  simp only [Js,Option.bind_eq_some_iff] at hz
  obtain ⟨b,e1,q,e2,e3⟩:=hz
  cases e3
  obtain ⟨g1,g2⟩:=Hn r l vals (by simpa using hl) (fun i c u hc hu=>hv (i+1) c u (by simpa using hc) (by simpa using hu)) e2
  refine ⟨by simp [g1],fun i c u hc hu=>?_⟩
  cases i with
  | zero=>simp at hc hu; subst hc hu; exact Wy r (hv 0 a v rfl rfl) e1
  | succ i=>exact g2 i c u (by simpa using hc) (by simpa using hu)
theorem Wz {kp:Bool} {w w':World} {X:Nat→Prop} {ρ ρ':bB} {h:ab} (r:Rel w X ρ h) (far:Far kp w ρ (ak []) w' ρ' (ak [])):Rel w' X ρ h∧Evo w ρ h w' ρ h []:=by
 have no:∀ b,¬ l5 (ak []) ρ b:=fun b ⟨id',sub',hl',_⟩=>by
  have hd:ak [] id'=.dead:=by unfold ak; split <;> simp
  cases sub' with
  | none=>simp [live,hd] at hl'
  | some p=>simp [live,hd] at hl'
 have e:Evo w ρ h w' ρ h []:=⟨far.os,far.tape,far.output,far.size,fun b hb _=>far.old b hb (no b),fun _ _ hp _=>⟨hp,rfl⟩,fun _ ho=>.inl ho,fun _ hb=>⟨hb,rfl⟩,fun _ _ hd=>⟨hd,rfl⟩⟩
 exact ⟨r.step e (fun _=>False) (fun _ _=>⟨rfl,fun _=>rfl,fun sub hl=>far.old _ (BE r ⟨_,sub,hl,rfl⟩) (no _)⟩) r.inj r.nx (fun _ hf=>hf.elim),e⟩
theorem WA {c:AV} (hp:qE c=true) (n:Nat) (h:ab):cM n h c=(c,h):=by
 cases c <;> simp [qE] at hp
 rfl
theorem Ho:∀ {vs:List AV} (n:Nat) (h:ab),vs.all qE=true→bP n h vs=(vs,h)
 | [],n,h,_=>rfl
 | a::l,n,h,hp=>by
  simp only [List.all_cons,Bool.and_eq_true] at hp
  simp only [bP,WA hp.1,Ho (n+1) h hp.2]
theorem Zd {c:AV} (hp:Bg c=true) (n:Nat) (h:ab):mat n h c=(c,h):=by
 cases c <;> simp only [Bg] at hp <;> try (simp [qE] at hp; done)
 case v x=>rfl
 case tup vs=>simp only [mat,Ho n h hp]
theorem Ma {w w':World} {A A':Nat→Prop} {ρ ρ':bB} {h h':ab} {c:AV} {u:Value} (hp:qE c=true) (hv:RV w A ρ h c u):RV w' A' ρ' h' c u:=by
 cases c <;> simp [qE] at hp
 obtain ⟨rfl,hp⟩:=hv.v_inv
 exact .dat (.v _ hp)
theorem ab8 {w w':World} {A A':Nat→Prop} {ρ ρ':bB} {h h':ab} {c:AV} {u:Value} (hp:Bg c=true) (hv:RV w A ρ h c u):RV w' A' ρ' h' c u:=by
 cases c <;> simp only [Bg] at hp <;> try (simp [qE] at hp; done)
 case v x=>exact Ma hp hv
 case tup vs =>
  cases hv with
  | dat hd=>cases hd
  | tup _ us hs hr=>exact .tup vs us hs fun i c u hc hu=>Ma (List.all_eq_true.1 hp c (List.mem_of_getElem? hc)) (hr i c u hc hu)
theorem WB (hf:∀ f,ko P I (md.keep f) f (call f)):iL P I call md:=by
 intro w X ρ h h' d f z zas ks uf us hd hi r hvf hus hva hz
 unfold bA at hz
 split at hz
 ·cases f <;> simp only [GY] at hz <;> try (cases hz; done)
  rename_i fid a b _
  obtain ⟨first,cap,rfl,s1,s2,va,vb⟩:=hvf.fn_inv
  refine ⟨fid,first,cap,rfl,?_⟩
  simp only [Option.bind_eq_some_iff] at hz
  obtain ⟨cs,e1,⟨res,os⟩,e2,e3⟩:=hz
  have hvals:(first++us++cap).toList=first.toList++us.toList++cap.toList:=by simp
  obtain ⟨l1,l2⟩:=Hn r (a++zas++b) (first++us++cap).toList (by simp [s1,s2,hus]) (fun i c u h1 h2=>by
   rw [hvals] at h2
   refine uP (by simp [s1,hus]) (fun i c u h1 h2=>uP (by simp [s1]) (fun i c u h1 h2=>va i c u h1 (by simpa using h2)) (fun i c u h1 h2=>hva i c u h1 (by simpa using h2)) i c u h1 h2) (fun i c u h1 h2=>vb i c u h1 (by simpa using h2)) i c u h1 h2) e1
  cases os with
  | cons o os=>simp [OZ] at e3
  | nil =>
   simp only [OZ] at e3
   split at e3
   ·rename_i hp
    cases e3
    have rE:Rel w X ρ (ak []):=by
     have hd:∀ id,ak [] id=.dead:=fun id=>by unfold ak; split <;> simp
     have no:∀ id sub,¬ live (ak []) id sub:=fun id sub hl=>by
      cases sub with
      | none=>simp [live,hd] at hl
      | some p=>simp [live,hd] at hl
     exact ⟨fun id sub _ _ h=>(no id sub h).elim,fun id sub h=>(no id sub h).elim,fun id=>by rw [hd]; trivial,r.xl⟩
    refine (hf fid e2 (n:=2000) (Nat.le_refl _) hi rE (by rw [qN,l1]; simp [s1,s2,hus]) fun i c u hc' hu=>?_).mono fun v w' ⟨ρ',q1,q2,q3⟩=>?_
    ·obtain ⟨c1,h2,h3⟩:=qo _ _ _ _ hc'
     have hv:=l2 i c1 u h2 (by rw [Array.getElem?_toList]; exact hu)
     rcases h3 with rfl | ⟨ss,rfl⟩
     ·exact hv
     ·exact hv.nrmV ss
    ·rw [Zd hp] at q1 q2 q3
     obtain ⟨g1,g2⟩:=Wz r q2
     exact ⟨ρ,g1,g2,ab8 hp q3⟩
   ·cases e3
 ·exact To hf hd hi r hvf hus hva hz
end
section
variable {P:Program} {I:Inv} {call:dG} {md:Mode}
structure EnvOK (P:Program) (I:Inv) (e:Env):Prop where
 mixed:P.follows .mixedOrders=true
 ext:∀ f g,e.E f=some g→ko P I (e.md.keep f) f g
 text:∀ f fd,e.E f=none→e.C f=some fd→Text P f fd
theorem Hp (kp:Bool) (f:FuncId):ko P I kp f (fun _ _=>none):=by
 intro args obs obs' res w X ρ vals n hz
 cases hz
theorem Ze {e:Env} (he:EnvOK P I e):∀ (n:Nat) (f:FuncId),ko P I (e.md.keep f) f (dj e n f)
 | 0,f=>Hp _ f
 | n+1,f=>by
  cases hE:e.E f with
  | some g =>
   have:dj e (n+1) f=g:=by funext args hs; simp only [dj,hE]
   rw [this]
   exact he.ext f g hE
  | none =>
   cases hC:e.C f with
   | none =>
    have:dj e (n+1) f=fun _ _=>none:=by funext args hs; simp only [dj,hE,hC]; rfl
    rw [this]
    exact Hp _ f
   | some fd =>
    have:dj e (n+1) f=rU (dj e n) { e.md with nm:=e.md.keep f } n fd:=by funext args hs; simp only [dj,hE,hC]; rfl
    rw [this]
    exact afr (md:={ e.md with nm:=e.md.keep f }) he.mixed (WB (md:={ e.md with nm:=e.md.keep f }) fun g=>Ze he n g) (he.text f fd hE hC)
end
def Ev (p:Nat→Prop):Prop:=∃ n,∀ k,n≤k→p k
theorem Ev.and {p q:Nat→Prop} (a:Ev p) (b:Ev q):Ev fun k=>p k∧q k:=by
 obtain ⟨n,hn⟩:=a
 obtain ⟨m,hm⟩:=b
 exact ⟨max n m,fun k hk=>⟨hn k (by omega),hm k (by omega)⟩⟩
theorem Ev.mono {p q:Nat→Prop} (a:Ev p) (h:∀ k,p k→q k):Ev q:=by
 obtain ⟨n,hn⟩:=a
 exact ⟨n,fun k hk=>h k (hn k hk)⟩
theorem Ev.all {p:Nat→Prop} (h:∀ k,p k):Ev p:=⟨0,fun k _=>h k⟩
open Classical in
noncomputable def xi {α:Type} (f:Nat→Option α):Option α:=if h:∃ a,Ev fun k=>f k=some a then some (Classical.choose h) else none
theorem i9 {α:Type} {f:Nat→Option α} {a:α}:xi f=some a↔Ev fun k=>f k=some a:=by
 unfold xi
 constructor
 ·intro h
  split at h
  ·rename_i hh
   have:=Classical.choose_spec hh
   cases h
   exact this
  ·cases h
 ·intro h
  have hh:∃ a,Ev fun k=>f k=some a:=⟨a,h⟩
  rw [dif_pos hh]
  obtain ⟨n,hn⟩:=Classical.choose_spec hh
  obtain ⟨m,hm⟩:=h
  have h1:=hn (max n m) (by omega)
  have h2:=hm (max n m) (by omega)
  exact h1.symm.trans h2
theorem aft {α:Type} {f g:Nat→Option α} (h:∀ a,xi f=some a↔xi g=some a):xi f=xi g:=by
 cases hf:xi f with
 | none =>
  cases hg:xi g with
  | none=>rfl
  | some a=>rw [(h a).2 hg] at hf; cases hf
 | some a=>exact ((h a).1 hf).symm
theorem tv {α:Type} (a:Option α):xi (fun _=>a)=a:=by
 cases a with
 | none =>
  cases h:xi (fun _:Nat=>(none:Option α)) with
  | none=>rfl
  | some a =>
   obtain ⟨n,hn⟩:=i9.1 h
   exact absurd (hn n (Nat.le_refl _)) (by simp)
 | some a=>exact i9.2 (Ev.all fun _=>rfl)
theorem PG {α:Type} (f:Nat→Option α):xi (fun n=>f (n+1))=xi f:=aft fun a=>by
 rw [i9,i9]
 constructor
 ·rintro ⟨n,hn⟩
  refine ⟨n+1,fun k hk=>?_⟩
  have:f (k - 1+1)=some a:=hn (k - 1) (by omega)
  rwa [show k - 1+1=k from by omega] at this
 ·rintro ⟨n,hn⟩
  exact ⟨n,fun k hk=>hn (k+1) (by omega)⟩
noncomputable def aD (body:ag→ab→Option (Ex × St)) (ks hs:List Nat) (s:ag) (h:ab):Option (Ex × St):=xi fun n=>mI body ks hs n s h
def Oy (g:ag→ab→Option (Ex × St)):Option (Ex × St)→Option (Ex × St)
 | some (.normal,t)=>g t.s t.h
 | r=>r
theorem ao (body:ag→ab→Option (Ex × St)) (ks hs:List Nat) (s:ag) (h:ab) :
  aD body ks hs s h=if (hs.all fun a=>aT hs (h a))=true then Oy (aD body ks hs) (body (mk .any (fun i=>eH hs (s i)) ks) (mk .dead h hs)) else none:=by
 unfold aD
 rw [← PG]
 simp only [mI]
 split
 ·cases hb:body (mk .any (fun i=>eH hs (s i)) ks) (mk .dead h hs) with
  | none=>exact tv _
  | some r =>
   obtain ⟨e,t⟩:=r
   cases e with
   | normal=>rfl
   | exit id=>exact tv _
   | ret=>exact tv _
 ·exact tv _
noncomputable def am (call:dG) (md:Mode):Cmd→ag→ab→Option (Ex × St)
 | .skip,s,h=>some (.normal,⟨s,h⟩)
 | .ops ks l,s,h=>bc (aF call md l s h) fun s h=>some (.normal,⟨mk .any s ks,h⟩)
 | .dops ks l ps,s,h=>bc (lC call md l ps s h) fun s h=>some (.normal,⟨mk .any s ks,h⟩)
 | .seq a b,s,h=>bX (am call md a s h) (am call md b)
 | .cond c a b,s,h=>lD (am call md a s h) (am call md b s h) (ev s c)
 | .block id ks a,s,h=>aB id ks (am call md a s h)
 | .loop ks hs a,s,h=>aD (am call md a) ks hs s h
 | .exit id,s,h=>some (.exit id,⟨s,h⟩)
 | .ret,s,h=>some (.ret,⟨s,h⟩)
 | .frz is a,s,h=>bc (rT md.nm is s h) (am call md a)
noncomputable def dx (e:Env):dG:=fun f args hs=>xi fun n=>dj e n f args hs
noncomputable def PH (call:dG) (md:Mode) (fd:FD) (args:List AV) (hs:List Ob):Option (AV × List Ob) :=
 if args.length=fd.np∧hs.length≤1000 then gq md.nm fd.rs fd.res hs.length (am call md fd.body (oT args) (ak hs)) else none
section
variable {e:Env} {md:Mode}
theorem Zf {h:ab} {d:Nat} {zas:List AV} {f:AV} {r:R3} (hz:dm (dx e) md h d zas f=some r):Ev fun k=>dm (dj e k) md h d zas f=some r:=by
 cases f <;> simp only [dm] at hz ⊢ <;> try (cases hz; done)
 simp only [Option.bind_eq_some_iff] at hz ⊢
 obtain ⟨p,e1,e2⟩:=hz
 unfold ix at e2 ⊢
 split at e2
 ·rename_i hc
  simp only [Option.bind_eq_some_iff] at e2
  obtain ⟨q,e3,e4⟩:=e2
  refine (i9.1 e3).mono fun k hk=>⟨p,e1,?_⟩
  rw [if_pos hc]
  simp only [Option.bind_eq_some_iff]
  exact ⟨q,hk,e4⟩
 ·cases e2
theorem PI {h:ab} {d:Nat} {zas:List AV} {f:AV} {r:R3} (hz:bA (dx e) md h d zas f=some r):Ev fun k=>bA (dj e k) md h d zas f=some r:=by
 unfold bA at hz ⊢
 by_cases hb:iY md zas f=true
 ·rw [if_pos hb] at hz
  simp only [if_pos hb]
  cases f <;> simp only [GY] at hz ⊢ <;> try (cases hz; done)
  simp only [Option.bind_eq_some_iff] at hz ⊢
  obtain ⟨p,e1,q,e3,e4⟩:=hz
  exact (i9.1 e3).mono fun k hk=>⟨p,e1,q,hk,e4⟩
 ·rw [if_neg hb] at hz
  simp only [if_neg hb]
  exact Zf hz
theorem Uv {d:Nat} {op:AOp} {s:ag} {h:ab} {r:R3} (hz:step (dx e) md d op s h=some r):Ev fun k=>step (dj e k) md d op s h=some r:=by
 cases op with
 | call f zas=>exact PI hz
 | callC f zas =>
  simp only [step,Option.bind_eq_some_iff] at hz ⊢
  obtain ⟨q,e1,e2⟩:=hz
  exact (PI e1).mono fun k hk=>⟨q,hk,e2⟩
 | _=>exact Ev.all fun k=>hz
theorem Uw {d:Option Nat} {op:AOp} {s:ag} {h:ab} {t:St} (hz:cz md.nm s d (step (dx e) md (d.getD 0) op s h)=some t):Ev fun k=>cz md.nm s d (step (dj e k) md (d.getD 0) op s h)=some t:=by
 cases hs:step (dx e) md (d.getD 0) op s h with
 | none=>rw [hs] at hz; cases hz
 | some r =>
  rw [hs] at hz
  exact (Uv hs).mono fun k hk=>by rw [hk]; exact hz
theorem ab9 {o:COp} {s:ag} {h:ab} {t:St} (hz:iy (dx e) md o s h=some t):Ev fun k=>iy (dj e k) md o s h=some t:=by
 unfold iy at hz ⊢
 cases hg:o.g with
 | none=>rw [hg] at hz; exact Uw hz
 | some g =>
  rw [hg] at hz
  simp only at hz ⊢
  unfold gR at hz ⊢
  split at hz
  ·split at hz
   ·rename_i hb
    simp only [if_pos hb]
    exact Uw hz
   ·rename_i hb
    simp only [if_neg hb]
    exact Ev.all fun k=>hz
  ·exact Ev.all fun k=>hz
  ·cases hz
theorem zG:∀ {l:List COp} {s:ag} {h:ab} {t:St},aF (dx e) md l s h=some t→Ev fun k=>aF (dj e k) md l s h=some t
 | [],s,h,t,hz=>Ev.all fun k=>hz
 | o::l,s,h,t,hz=>by
  simp only [aF,bc] at hz
  split at hz
  ·cases hz
  ·rename_i t1 ht1
   refine ((ab9 ht1).and (zG hz)).mono fun k hk=>?_
   simp only [aF,bc,hk.1,hk.2]
theorem PJ {d:Option Nat} {op:AOp} {s:ag} {h:ab} {f:ab→Fp} {t:St × Fp} (hz:gF s d f (step (dx e) md (d.getD 0) op s h)=some t):Ev fun k=>gF s d f (step (dj e k) md (d.getD 0) op s h)=some t:=by
 cases hs:step (dx e) md (d.getD 0) op s h with
 | none=>rw [hs] at hz; cases hz
 | some r =>
  rw [hs] at hz
  exact (Uv hs).mono fun k hk=>by rw [hk]; exact hz
theorem aca {o:COp} {s:ag} {h:ab} {t:St × Fp} (hz:db (dx e) md o s h=some t):Ev fun k=>db (dj e k) md o s h=some t:=by
 unfold db at hz ⊢
 cases hg:o.g with
 | none=>rw [hg] at hz; exact PJ hz
 | some g =>
  rw [hg] at hz
  simp only at hz ⊢
  unfold lB at hz ⊢
  split at hz
  ·split at hz
   ·rename_i hb
    simp only [if_pos hb]
    exact PJ hz
   ·rename_i hb
    simp only [if_neg hb]
    exact Ev.all fun k=>hz
  ·exact Ev.all fun k=>hz
  ·cases hz
theorem Jz:∀ {l:List COp} {s:ag} {h:ab} {t:St × List Fp},eQ (dx e) md l s h=some t→Ev fun k=>eQ (dj e k) md l s h=some t
 | [],s,h,t,hz=>Ev.all fun k=>hz
 | o::l,s,h,t,hz=>by
  simp only [eQ,Option.bind_eq_some_iff] at hz
  obtain ⟨r,e1,q,e2,e3⟩:=hz
  refine ((aca e1).and (Jz e2)).mono fun k hk=>?_
  simp only [eQ,hk.1,hk.2,Option.bind_some,e3]
theorem acb {l:List COp} {ps:List (Nat × Nat)} {s:ag} {h:ab} {t:St} (hz:lC (dx e) md l ps s h=some t):Ev fun k=>lC (dj e k) md l ps s h=some t:=by
 unfold lC at hz ⊢
 cases hb:sT ps with
 | none =>
  rw [hb] at hz
  simp only [th,Option.bind_eq_some_iff] at hz
  obtain ⟨q,e1,e2⟩:=hz
  exact (Jz e1).mono fun k hk=>by simp only [th,hk,Option.bind_some,e2]
 | some b =>
  rw [hb] at hz
  simp only [zi,Option.bind_eq_some_iff] at hz
  obtain ⟨q,e1,e2⟩:=hz
  split at e2
  ·rename_i hps
   simp only [bc] at e2
   split at e2
   ·cases e2
   ·rename_i t1 ht1
    exact ((Jz e1).and (zG e2)).mono fun k hk=>by simp only [zi,hk.1,Option.bind_some,if_pos hps,ht1,bc,hk.2]
  ·cases e2
theorem Ux {c:Cmd} {ks hs:List Nat} (ih:∀ {s:ag} {h:ab} {r:Ex × St},am (dx e) md c s h=some r→Ev fun k=>bG (dj e k) md k c s h=some r) :
  ∀ (m:Nat) {s:ag} {h:ab} {r:Ex × St},mI (am (dx e) md c) ks hs m s h=some r→∃ n,∀ k,n≤k→∀ j,n≤j→mI (bG (dj e k) md k c) ks hs j s h=some r
 | 0,s,h,r,hz=>by simp [mI] at hz
 | m+1,s,h,r,hz=>by
  simp only [mI] at hz
  split at hz
  ·rename_i hc
   cases hb:am (dx e) md c (mk .any (fun i=>eH hs (s i)) ks) (mk .dead h hs) with
   | none=>rw [hb] at hz; cases hz
   | some q =>
    rw [hb] at hz
    obtain ⟨n1,h1⟩:=ih hb
    obtain ⟨ex,t⟩:=q
    cases ex with
    | normal =>
     obtain ⟨n2,h2⟩:=Ux ih m hz
     refine ⟨max n1 n2+1,fun k hk j hj=>?_⟩
     obtain ⟨j,rfl⟩:∃ j',j=j'+1:=⟨j - 1,by omega⟩
     simp only [mI,if_pos hc,h1 k (by omega)]
     exact h2 k (by omega) j (by omega)
    | exit id =>
     refine ⟨n1+1,fun k hk j hj=>?_⟩
     obtain ⟨j,rfl⟩:∃ j',j=j'+1:=⟨j - 1,by omega⟩
     simp only [mI,if_pos hc,h1 k (by omega)]
     exact hz
    | ret =>
     refine ⟨n1+1,fun k hk j hj=>?_⟩
     obtain ⟨j,rfl⟩:∃ j',j=j'+1:=⟨j - 1,by omega⟩
     simp only [mI,if_pos hc,h1 k (by omega)]
     exact hz
  ·cases hz
theorem gZ:∀ (c:Cmd) {s:ag} {h:ab} {r:Ex × St},am (dx e) md c s h=some r→Ev fun k=>bG (dj e k) md k c s h=some r
 | .skip,s,h,r,hz=>Ev.all fun k=>hz
 | .ops ks l,s,h,r,hz=>by
  simp only [am,bc] at hz
  split at hz
  ·cases hz
  ·rename_i t1 ht1
   exact (zG ht1).mono fun k hk=>by simp only [bG,hk,bc]; exact hz
 | .dops ks l ps,s,h,r,hz=>by
  simp only [am,bc] at hz
  split at hz
  ·cases hz
  ·rename_i t1 ht1
   exact (acb ht1).mono fun k hk=>by simp only [bG,hk,bc]; exact hz
 | .seq a b,s,h,r,hz=>by
  simp only [am,bX] at hz
  split at hz
  ·cases hz
  ·rename_i t1 ht1
   exact ((gZ a ht1).and (gZ b hz)).mono fun k hk=>by simp only [bG,bX,hk.1,hk.2]
  ·rename_i i t1 ht1
   exact (gZ a ht1).mono fun k hk=>by simp only [bG,bX,hk]; exact hz
  ·rename_i t1 ht1
   exact (gZ a ht1).mono fun k hk=>by simp only [bG,bX,hk]; exact hz
 | .cond c a b,s,h,r,hz=>by
  simp only [am,lD] at hz
  split at hz
  ·rename_i t ht
   cases t with
   | true=>exact (gZ a hz).mono fun k hk=>by simp only [bG,lD,ht,if_true,hk]
   | false=>exact (gZ b hz).mono fun k hk=>by simp only [bG,lD,ht,Bool.false_eq_true,if_false,hk]
  ·cases hz
 | .block id ks a,s,h,r,hz=>by
  simp only [am,aB] at hz
  split at hz
  ·cases hz
  ·rename_i t1 ht1
   exact (gZ a ht1).mono fun k hk=>by simp only [bG,aB,hk]; exact hz
  ·rename_i i t1 ht1
   exact (gZ a ht1).mono fun k hk=>by simp only [bG,aB,hk]; exact hz
  ·rename_i t1 ht1
   exact (gZ a ht1).mono fun k hk=>by simp only [bG,aB,hk]; exact hz
 | .loop ks hs a,s,h,r,hz=>by
  simp only [am,aD] at hz
  obtain ⟨m,hm⟩:=i9.1 hz
  obtain ⟨n,hn⟩:=Ux (fun hh=>gZ a hh) m (hm m (Nat.le_refl _))
  exact ⟨n,fun k hk=>by simp only [bG]; exact hn k hk k hk⟩
 | .exit id,s,h,r,hz=>Ev.all fun k=>hz
 | .ret,s,h,r,hz=>Ev.all fun k=>hz
 | .frz is a,s,h,r,hz=>by
  simp only [am,bc] at hz
  split at hz
  ·cases hz
  ·rename_i t1 ht1
   exact (gZ a hz).mono fun k hk=>by simp only [bG,bc,ht1,hk]
theorem BI {f:FuncId} {fd:FD} {args:List AV} {hs:List Ob} {r:AV × List Ob} (hE:e.E f=none) (hC:e.C f=some fd) (hz:PH (dx e) { e.md with nm:=e.md.keep f } fd args hs=some r):dx e f args hs=some r:=by
 unfold dx
 rw [i9]
 unfold PH at hz
 split at hz
 ·rename_i hc
  cases hx:am (dx e) { e.md with nm:=e.md.keep f } fd.body (oT args) (ak hs) with
  | none=>rw [hx] at hz; cases hz
  | some q =>
   rw [hx] at hz
   obtain ⟨n,hn⟩:=gZ fd.body hx
   refine ⟨n+1,fun k hk=>?_⟩
   obtain ⟨k,rfl⟩:∃ k',k=k'+1:=⟨k - 1,by omega⟩
   simp only [dj,hE,hC,Option.bind_some,rU,if_pos hc,hn k (by omega)]
   exact hz
 ·cases hz
theorem zH {f:FuncId} {g:List AV→List Ob→Option (AV × List Ob)} {args:List AV} {hs:List Ob} (hE:e.E f=some g):dx e f args hs=g args hs:=by
 unfold dx
 rw [← PG]
 have:(fun n=>dj e (n+1) f args hs)=fun _=>g args hs:=by funext n; simp only [dj,hE]
 rw [this,tv]
theorem Uy {P:Program} {I:Inv} (he:EnvOK P I e) (f:FuncId):ko P I (e.md.keep f) f (dx e f):=by
 intro args obs obs' res w X ρ vals n hz
 obtain ⟨m,hm⟩:=i9.1 hz
 exact Ze he m f (hm m (Nat.le_refl _))
end
end Go.Ab
