/-
  A law of polynomials holds at every input that the statement speaks of, under the conditions that its card names. Part G1.
-/
import Derived.Lib.Overlaps
import Derived.Laws.Externs
import Derived.Shelf.Slices.Clone
import Derived.KernelRfl
import Derived.Test.YtkmighmagkmboaaGreatDoorProg
import Derived.Test.YtkmighmagkmboaaGreatDoorF1
namespace Go.Ab
open Go Go.Proofs Go.Shelf Go.RowKit
set_option maxRecDepth 100000
theorem iT {args:List AV} {vals:Array Value} (h:vals.size=args.length) {i:Nat} {c:AV} (hc:args[i]?=some c):∃ u,vals[i]?=some u:=by
 have:i < args.length:=(List.getElem?_eq_some_iff.1 hc).1
 exact ⟨vals[i]'(by omega),by simp [h,this]⟩
theorem SR {vals:Array Value} {a:Value} (h:vals.size=1) (h0:vals[0]?=some a):vals=#[a]:=by
 apply Array.ext_getElem?
 intro i
 match i with
 | 0=>simpa using h0
 | i+1=>simp [h]
theorem SS {vals:Array Value} {a b:Value} (h:vals.size=2) (h0:vals[0]?=some a) (h1:vals[1]?=some b):vals=#[a,b]:=by
 apply Array.ext_getElem?
 intro i
 match i with
 | 0=>simpa using h0
 | 1=>simpa using h1
 | i+2=>simp [h]
theorem Dx {w:World} {a:Addr} {us:Array Value} {e:TypeId} (h:w.heap[a.block]?=some (.cells us e (0,0))):w.frozen? a=false:=by
 simp [World.frozen?,h]
theorem Q6 {P:Program} (w:World) (tS tR e:TypeId) (ht:P.underlying tS=some (.slice e)) (size:Nat) (hz:∀ w,(Go.sizeOf e).run P w=.ok size w) (a:Addr) (b:Option Addr) (la ca cb:Nat) :
  (Extern.SlicesOverlaps.overlaps #[tS,tS] #[tR] #[.slice (some a) la ca,.slice b 0 cb]).run P w=.ok (.bool false) w:=by
 change Sem.run P (α:=Value) (do
  let some t := (#[tS, tS] : Array TypeId)[0]? | stuck "slices.overlaps: no parameter types"
  let .slice elem ← underlying t | stuck "slices.overlaps: slice type expected"
  let size ← sizeOf elem
  match (some a:Option Addr),b with
  | some a,some b =>
   if la=0∨0=0∨size=0 then pure (Value.bool false)
   else if a.block != b.block && (← frozen a) && (← frozen b) then unsupported .addressObserved
   else do
    if a.block != b.block then do
     noView a; noView b
     if ← mayBeOne a b then return Value.bool ((← choose (.extern "sameAddr.stringBytes" 2)) == 1)
    pure (Value.bool (a.block == b.block && a.off < b.off+0*size && b.off < a.off+la*size))
  | _,_=>pure (Value.bool false)) w=_
 cases b <;> simp [run_underlying ht,hz]
theorem ST {P:Program} (w:World) (tS tR e:TypeId) (ht:P.underlying tS=some (.slice e)) (size:Nat) (hz:∀ w,(Go.sizeOf e).run P w=.ok size w)
  (a b:Addr) (la ca lb cb:Nat) (hne:a.block ≠ b.block) (tA:TypeId) (kA:Nat) {us:Array Value} {tB:TypeId}
  (hkA:kA ≠ 0) (hsa:w.shape? a.block=some (tA,kA)) (hb:w.heap[b.block]?=some (.cells us tB (0,0))) (hu:us.size ≠ 0) :
  (Extern.SlicesOverlaps.overlaps #[tS,tS] #[tR] #[.slice (some a) la ca,.slice (some b) lb cb]).run P w=.ok (.bool false) w:=by
 have hnb:(a.block != b.block)=true:=by simpa using hne
 have hnb':(a.block == b.block)=false:=by simpa using hne
 have hsb:w.shape? b.block=some (tB,us.size):=by simp [World.shape?,hb]
 have hfb:w.frozen? b=false:=Dx hb
 have hfe:w.frozen? { block:=b.block,off:=us.size }=false:=Dx (a:=⟨b.block,us.size,none⟩) hb
 change Sem.run P (α:=Value) (do
  let some t := (#[tS, tS] : Array TypeId)[0]? | stuck "slices.overlaps: no parameter types"
  let .slice elem ← underlying t | stuck "slices.overlaps: slice type expected"
  let size ← sizeOf elem
  match (some a:Option Addr),(some b:Option Addr) with
  | some a,some b =>
   if la=0∨lb=0∨size=0 then pure (Value.bool false)
   else if a.block != b.block && (← frozen a) && (← frozen b) then unsupported .addressObserved
   else do
    if a.block != b.block then do
     noView a; noView b
     if ← mayBeOne a b then return Value.bool ((← choose (.extern "sameAddr.stringBytes" 2)) == 1)
    pure (Value.bool (a.block == b.block && a.off < b.off+lb*size && b.off < a.off+la*size))
  | _,_=>pure (Value.bool false)) w=_
 by_cases h0:la=0∨lb=0∨size=0
 ·simp [run_underlying ht,hz,h0]
 ·obtain ⟨n,hn⟩:∃ n,us.size=n+1:=⟨us.size - 1,by omega⟩
  rw [hn] at hsb hfe
  obtain ⟨kA,rfl⟩:∃ k,kA=k+1:=⟨kA - 1,by omega⟩
  cases hfa:w.frozen? a <;> cases hfa2:w.frozen? { block:=a.block,off:=kA+1 } <;>
   simp [run_underlying ht,hz,h0,hnb,hnb',frozen,noView,viewAt,mayBeOne,stringish,shape,Sem.run,hsa,hsb,hfa,hfa2,hfb,hfe]
theorem KX {w:World} {a:Addr} {v:Value} (h:w.cell? a=some v):∃ t k,k ≠ 0∧w.shape? a.block=some (t,k):=by
 unfold World.cell? at h
 split at h
 ·rename_i cs t fr hb
  refine ⟨t,cs.size,fun h0=>?_,by unfold World.shape?; rw [hb]⟩
  split at h
  ·cases h
  ·have:=(Array.getElem?_eq_some_iff.1 h).1
   omega
 ·cases h
theorem SU {P : Program} {I : Inv} {f : FuncId} {fn : Func} {tS tR e : TypeId} {size : Nat} (hf : P.funcs[f]? = some fn) (hname : (fn.name == "runtime.NumGoroutine") = false) (hb : fn.body.isNone = true) (hn : Extern.findNext fn = none)
  (he:Extern.find fn=some (Extern.SlicesOverlaps.overlaps #[tS,tS] #[tR])) (ht:P.underlying tS=some (.slice e)) (hz:∀ w,(Go.sizeOf e).run P w=.ok size w):ft P I false f (IK 4):=by
 intro args obs obs' res w X ρ vals n hz' hn' hi hr hs hv
 unfold IK at hz'
 split at hz'
 ·rename_i k0 row rows k1 lo m k2 rows2
  split at hz'
  ·rename_i hk
   obtain ⟨rfl,rfl,rfl⟩:=hk
   cases hz'
   obtain ⟨u0,h0⟩:=iT hs (i:=0) rfl
   obtain ⟨u1,h1⟩:=iT hs (i:=1) rfl
   have e0:=hv 0 _ _ rfl h0
   have e1:=hv 1 _ _ rfl h1
   obtain rfl:=SS hs h0 h1
   have d0:=e0.sl_inv
   obtain ⟨a1,cap1,rfl,hp,hn1,hb1,ha1⟩:=e1.rsl_inv
   have ho:RO w (ap w X (ae [.ar 4 rows2]) ρ) ρ (ae [.ar 4 rows2]) 1000 (.ar 4 rows2):=hr.ob 1000
   obtain ⟨us,tB,g1,g2,g3,g4⟩:=ho
   have hlive:live (ae [.ar 4 rows2]) 1000 none:=trivial
   cases d0 with
   | sl _ _ a cap ad vs hc ha hk hv2 hl hr2 =>
    obtain ⟨rfl,hA,hsp⟩:=ha (by simp)
    have hlen:=hk row (by simp)
    obtain ⟨c,hrow⟩:∃ c,row[0]?=some c:=⟨row[0]'(by omega),by simp⟩
    have hcell:=hv2 0 row 0 c rfl hrow
    obtain ⟨tA,kA,hkA,hsh⟩:=KX hcell
    rw [ip] at hsh
    have run:(callFunc f #[.slice (some ad) (row::rows).length cap,.slice a1 m cap1]).run P w=.ok (.value (.bool false)) w:=by
     rw [run_callFunc_extern hf hname hb hn he]
     by_cases hm:m=0
     ·subst hm
      rw [Q6 w tS tR e ht size hz]
      rfl
     ·rcases ha1 with h | rfl
      ·omega
      ·rw [ST w tS tR e ht size hz ad ⟨(ρ 1000 none).1,lo*4,none⟩ _ cap m cap1 (fun hh=>hA.2.2 ⟨1000,none,hlive,hh.symm⟩) tA kA hkA hsh g1 (by omega)]
       rfl
    unfold Enters
    rw [run]
    exact ⟨ρ,hr,.refl _ _ _ _,.dat (.v _ rfl)⟩
  ·cases hz'
 ·cases hz'
theorem Q7 {P:Program} {I:Inv} (hR:ft P I false F.slices_Insert_api_Term_api_Term_ (R0 F.slices_Insert_api_Term_api_Term_)):ft P I false F.slices_Insert_api_Term_api_Term_ (Gb 4 64):=by
 intro args obs obs' res w X ρ vals n hz hn hi hr hs hv
 unfold Gb at hz
 split at hz
 ·rename_i k0 r
  split at hz
  ·rename_i hk
   subst hk
   cases hz
   exact hR QZ hn hi hr hs hv
  ·cases hz
 ·rename_i k1 m i k0 r k2 rows
  split at hz
  ·rename_i hk
   obtain ⟨rfl,rfl,rfl,rfl,hi0,hi1,hb⟩:=hk
   cases hz
   obtain ⟨i,rfl⟩:=Int.eq_ofNat_of_zero_le hi0
   rw [Int.toNat_natCast]
   by_cases hend:i=rows.length
   ·subst hend
    have:=hR (ME (r:=r) rfl hb) hn hi hr hs hv
    rw [List.take_of_length_le (Nat.le_refl _),List.drop_eq_nil_of_le (Nat.le_refl _)]
    exact this
   ·have hlt:i < rows.length:=by omega
    obtain ⟨u0,h0⟩:=iT hs (i:=0) rfl
    obtain ⟨a,cap,rfl,hp,hn1,hb1,ha⟩:=(hv 0 _ _ rfl h0).rsl_inv
    have hv':∀ (j:Nat) (c:AV) (u:Value),[AV.rsc 1000 4 0 rows.length cap,.v (.int .i64 i),.sl 4 [r]][j]?=some c→vals[j]?=some u→RV w (ap w X (ae [.ar 4 rows]) ρ) ρ (ae [.ar 4 rows]) c u:=by
     intro j c u hc hu
     match j,hc with
     | 0,hc =>
      cases hc
      rw [h0] at hu
      cases hu
      exact .rsc 1000 4 0 _ cap a hp hn1 hb1 ha
     | j+1,hc=>exact hv (j+1) c u hc hu
    rcases Nat.lt_or_ge rows.length cap with hc | hc
    ·exact hR (Q2 rfl hlt hc hb) hn hi hr hs hv'
    ·obtain rfl:cap=rows.length:=by omega
     refine (hR (Q1 rfl hlt hb) hn hi hr hs hv').mono fun v w' ⟨ρ',q1,q2,q3⟩=>?_
     generalize rows.take i++r::rows.drop i=L at q1 q2 q3 ⊢
     have hd:=AG q1 (id:=1000) (k:=4) (rows:=rows) (by
      show (if 1000=n then _ else _)=_
      rw [if_neg (by omega)]
      rfl)
     have eq:upd (mat n (ae [.ar 4 rows]) (.osl 4 L)).2 1000 .dead=(mat n (ae [.dead]) (.osl 4 L)).2:=by
      show upd (upd (ae [.ar 4 rows]) n (.ar 4 L)) 1000 .dead=upd (ae [.dead]) n (.ar 4 L)
      rw [oR,oR]
      funext j
      unfold upd
      by_cases h1:j=1000
      ·rw [if_pos h1,if_neg (by omega),if_pos h1]
      ·rw [if_neg h1,if_neg h1,if_neg h1]
     rw [eq] at hd
     refine ⟨ρ',hd.1,q2.trans (hd.2.far rfl),hd.2.rvk q3 (.inr ?_)⟩
     show dV [(1000,false)] n none=false
     simp [dV]
     omega
  ·cases hz
 ·cases hz
theorem lT {w w':World} {X:Nat→Prop} {ρ:aT} (hr:Rel w X ρ (ae [])) (hb:Below w.heap.size w w'):Rel w' X ρ (ae [])∧Far false w ρ (ae []) w' ρ (ae []):=by
 have hl:∀ id sub,¬ live (ae []) id sub:=fun id sub=>by
  have hd:ae [] id=.dead:=by
   unfold ae
   split <;> simp
  cases sub with
  | none=>simp [live,hd]
  | some p=>simp [live,hd]
 refine ⟨⟨fun id sub _ _ h=>(hl id sub h).elim,fun id sub h=>(hl id sub h).elim,fun id=>?_,fun b hb'=>Nat.lt_of_lt_of_le (hr.xl b hb') hb.size⟩,hb.os,hb.tape,hb.output,hb.size,fun b h1 _=>hb.block b h1,fun b ⟨id,sub,h,_⟩=>(hl id sub h).elim,fun id _ h=>?_,fun h=>by cases h⟩
 ·have hd:ae [] id=.dead:=by
   unfold ae
   split <;> simp
  rw [hd]
  trivial
 ·exfalso
  apply h
  unfold ae
  split <;> simp
theorem MJ {w w':World} {X:Nat→Prop} {ρ:aT} {b:Nat} (h:ap w X (ae []) ρ b) (hb:Below w.heap.size w w'):ap w' X (ae []) ρ b∧w'.heap[b]?=w.heap[b]? :=
 ⟨⟨Nat.lt_of_lt_of_le h.1 hb.size,h.2.1,h.2.2⟩,hb.block b h.1⟩
theorem SV {P:Program} {I:Inv} {ρ0:Ren} (L:Lays2.n15 P ρ0) (hf:ρ0.f 15=F.slices_Clone_int_int_) (he:∀ a w,(callFunc F.slices_Clone_int_int_ a).run P w=.ok (.enter F.slices_Clone_int_int_ a) w)
  (hR:ft P I false F.slices_Clone_int_int_ (R0 F.slices_Clone_int_int_)):ft P I false F.slices_Clone_int_int_ LQ:=by
 intro args obs obs' res w X ρ vals n hz hn hi hr hs hv
 unfold LQ at hz
 split at hz
 ·cases hz
  obtain ⟨u0,h0⟩:=iT hs (i:=0) rfl
  have d0:=(hv 0 _ _ rfl h0).sl_inv
  obtain rfl:=SR hs h0
  cases d0 with
  | sl _ _ a cap ad vs hc ha hk hv2 hl hr2 =>
   unfold Enters
   rw [he]
   have fin:∀ (w':World) (b:Option Addr) (c:Nat),Below w.heap.size w w'→∃ ρ',Rel w' X ρ' (mat n (ae []) (.sl 1 [])).2∧Far false w ρ (ae []) w' ρ' (mat n (ae []) (.sl 1 [])).2 ∧
     RV w' (ap w' X (mat n (ae []) (.sl 1 [])).2 ρ') ρ' (mat n (ae []) (.sl 1 [])).2 (mat n (ae []) (.sl 1 [])).1 (.slice b 0 c):=fun w' b c hb =>
    ⟨ρ,(lT hr hb).1,(lT hr hb).2,.dat (.sl 1 [] b c ad vs (Nat.zero_le _) (fun h=>absurd rfl h) (fun _ h=>by cases h) (fun i row j c h=>by simp at h) (fun _ h=>by cases h) (fun i row j c h=>by simp at h))⟩
   cases a with
   | none =>
    have key:=Any.slices_Clone_int_nil L 0 cap w
    rw [hf] at key
    refine Calls.mono key fun e w' hw=>?_
    obtain ⟨rfl,rfl⟩:=hw
    exact fin _ _ _ (Below.refl _ _)
   | some a0 =>
    have key:=Any.slices_Clone_int_zero L a0 cap w
    rw [hf] at key
    refine Calls.mono key fun e w' hw=>?_
    obtain ⟨v',rfl,⟨_,hown⟩,_,hb⟩:=hw
    rcases hown with ⟨rfl,_⟩ | ⟨g,c2,sA,rfl,_⟩
    ·exact fin _ _ _ hb
    ·exact fin _ _ _ hb
 ·rename_i r rs
  split at hz
  ·rename_i hb
   cases hz
   exact hR (OW hb) hn hi hr hs hv
  ·cases hz
 ·cases hz
end Go.Ab
namespace Go.Ab
open Go Go.Proofs Go.RowKit
set_option maxRecDepth 100000
theorem RV.tup_inv {w:World} {A:Nat→Prop} {ρ:aT} {h:aa} {vs:List AV} {u:Value} (hv:RV w A ρ h (.tup vs) u):∃ us:Array Value,u=.tuple us∧us.size=vs.length∧∀ (i:Nat) (c:AV) (u:Value),vs[i]?=some c→us[i]?=some u→RV w A ρ h c u:=by
 cases hv with
 | dat hd=>cases hd
 | tup _ us hs hr=>exact ⟨us,rfl,hs,hr⟩
theorem Al {P:Program} {I:Inv} {f:FuncId} {g:List AV→List Ob→Option (AV × List Ob)} (hR:ft P I false f g) {args:List AV} {vals:Array Value} {w:World} {X:Nat→Prop} {ρ:aT} {res:AV}
  (he:(callFunc f vals).run P w=.ok (.enter f vals) w) (hz:g args []=some (res,[])) (hm:mat 2000 (ae []) res=(res,ae [])) (hi:I.p w X) (hr:Rel w X ρ (ae [])) (hs:vals.size=args.length)
  (hv:∀ (i:Nat) (c:AV) (u:Value),args[i]?=some c→vals[i]?=some u→RV w (ap w X (ae []) ρ) ρ (ae []) c u) :
  Calls P f vals w fun e w'=>(∃ v ρ',e=.returned v∧RV w' (ap w' X (ae []) ρ') ρ' (ae []) res v)∧Below w.heap.size w w':=by
 have key:=hR hz (Nat.le_refl 2000) hi hr hs hv
 unfold Enters at key
 rw [he] at key
 refine Calls.mono key fun e w' hw=>?_
 cases e with
 | returned v =>
  obtain ⟨ρ',r,far,rv⟩:=hw
  rw [hm] at rv far
  have hl:∀ id sub,¬ live (ae []) id sub:=fun id sub=>by
   have hd:ae [] id=.dead:=by
    unfold ae
    split <;> simp
   cases sub with
   | none=>simp [live,hd]
   | some p=>simp [live,hd]
  exact ⟨⟨v,ρ',rfl,rv⟩,far.os,far.tape,far.output,far.size,fun k hk=>far.old k hk fun ⟨id,sub,h,_⟩=>hl id sub h⟩
 | _=>exact hw.elim
theorem O0 (n:Bool) (e:Int) (he:e=0∨e=1):R0 F.dyadic_Valid [.agg [B n,.sl 1 [[U 1]],I e]] []=some (B true,[]):=by
 rcases he with rfl | rfl <;> cases n
 ·exact hF [] 40 (F.dyadic_Valid,[.agg [B false,.sl 1 [[U 1]],I 0]],B true) bO (by kernel_rfl)
 ·exact hF [] 40 (F.dyadic_Valid,[.agg [B true,.sl 1 [[U 1]],I 0]],B true) bO (by kernel_rfl)
 ·exact hF [] 40 (F.dyadic_Valid,[.agg [B false,.sl 1 [[U 1]],I 1]],B true) bO (by kernel_rfl)
 ·exact hF [] 40 (F.dyadic_Valid,[.agg [B true,.sl 1 [[U 1]],I 1]],B true) bO (by kernel_rfl)
theorem Q8 (e:Int) (he:e=0∨e=1):R0 F.strconv_Itoa [I e] []=some (S ⟨[if e=0 then (48:UInt8) else 49].toArray⟩,[]):=by
 rcases he with rfl | rfl
 ·exact hF [] 40 (F.strconv_Itoa,[I 0],S ⟨[(48:UInt8)].toArray⟩) bO (by kernel_rfl)
 ·exact hF [] 40 (F.strconv_Itoa,[I 1],S ⟨[(49:UInt8)].toArray⟩) bO (by kernel_rfl)
theorem O1:R0 F.natural_Text [.sl 1 [[U 1]]] []=some (.tup [S ⟨[(49:UInt8)].toArray⟩,I 0],[]) :=
 hF [] 60 (F.natural_Text,[.sl 1 [[U 1]]],.tup [S ⟨[(49:UInt8)].toArray⟩,I 0]) bO (by kernel_rfl)
theorem Z7 {vals:Array Value} {a b c:Value} (h:vals.size=3) (h0:vals[0]?=some a) (h1:vals[1]?=some b) (h2:vals[2]?=some c):vals=#[a,b,c]:=by
 apply Array.ext_getElem?
 intro i
 match i with
 | 0=>simpa using h0
 | 1=>simpa using h1
 | 2=>simpa using h2
 | i+3=>simp [h]
theorem VC {I:Inv} (hV:ft Tryz.prog I false F.dyadic_Valid (R0 F.dyadic_Valid)) (hT:ft Tryz.prog I false F.natural_Text (R0 F.natural_Text)) (hI:ft Tryz.prog I false F.strconv_Itoa (R0 F.strconv_Itoa))
  (eV:∀ a w,(callFunc F.dyadic_Valid a).run Tryz.prog w=.ok (.enter F.dyadic_Valid a) w) (eT:∀ a w,(callFunc F.natural_Text a).run Tryz.prog w=.ok (.enter F.natural_Text a) w)
  (eI:∀ a w,(callFunc F.strconv_Itoa a).run Tryz.prog w=.ok (.enter F.strconv_Itoa a) w) (eD:∀ a w,(callFunc F.dyadic_Text a).run Tryz.prog w=.ok (.enter F.dyadic_Text a) w) :
  ft Tryz.prog I false F.dyadic_Text Sa:=by
 intro args obs obs' res w X ρ vals n hz hn hi hr hs hv
 unfold Sa at hz
 split at hz
 ·rename_i nb m e
  split at hz
  ·rename_i hc
   obtain ⟨rfl,he,rfl⟩:=hc
   cases hz
   obtain ⟨u0,h0⟩:=iT hs (i:=0) rfl
   obtain ⟨us,rfl,hsz,_,hr2⟩:=(hv 0 _ _ rfl h0).agg_inv
   obtain rfl:=SR hs h0
   obtain ⟨v0,g0⟩:=iT (args:=[B nb,.sl 1 [[.v (.int .u32 1)]],.v (.int .i64 e)]) hsz (i:=0) rfl
   obtain ⟨v1,g1⟩:=iT (args:=[B nb,.sl 1 [[.v (.int .u32 1)]],.v (.int .i64 e)]) hsz (i:=1) rfl
   obtain ⟨v2,g2⟩:=iT (args:=[B nb,.sl 1 [[.v (.int .u32 1)]],.v (.int .i64 e)]) hsz (i:=2) rfl
   obtain ⟨rfl,_⟩:=(hr2 0 _ _ rfl g0).v_inv
   obtain ⟨rfl,_⟩:=(hr2 2 _ _ rfl g2).v_inv
   have d1:=(hr2 1 _ _ rfl g1).sl_inv
   obtain rfl:=Z7 hsz g0 g1 g2
   obtain ⟨a,l,cap,rfl⟩:∃ a l cap,v1=.slice a l cap:=by
    cases d1
    exact ⟨_,_,_,rfl⟩
   have hl:l=1:=by
    cases d1
    rfl
   subst hl
   have d1':∀ {w1:World},Below w.heap.size w w1→RD w1 (ap w1 X (ae []) ρ) (.sl 1 [[.v (.int .u32 1)]]) (.slice a 1 cap):=fun hb=>d1.mono fun b h=>MJ h hb
   have inv:∀ {w1:World},Below w.heap.size w w1→I.p w1 X:=fun hb=>I.stab hi fun b h=>hb.block b (hr.xl b h)
   unfold Enters
   rw [eD]
   refine Calls.mono (Q5 nb a 1 cap e [49] [if e=0 then 48 else 49] w (by decide) (by decide) (Nat.le_of_lt (by decide:1 < 1000)) (fun w1 hb=>?_) (fun w1 hb=>?_) fun w1 hb=>?_) fun ex w' hw=>?_
   ·refine Calls.mono (Al hV (eV _ _) (O0 nb e he) rfl (inv hb) (lT hr hb).1 rfl fun i c u hc hu=>?_) fun ex w2 hw=>?_
    ·match i,hc with
     | 0,hc =>
      cases hc
      cases hu
      refine .dat (.agg _ _ rfl (fun i u hu=>?_) fun i c u hc hu=>?_)
      ·match i,hu with
       | 0,hu=>cases hu; rfl
       | 1,hu=>cases hu; rfl
       | 2,hu=>cases hu; rfl
      ·match i,hc,hu with
       | 0,hc,hu=>cases hc; cases hu; exact .v _ rfl
       | 1,hc,hu=>cases hc; cases hu; exact d1' hb
       | 2,hc,hu=>cases hc; cases hu; exact .v _ rfl
    ·obtain ⟨⟨v,ρ',rfl,rv⟩,hb2⟩:=hw
     obtain ⟨rfl,_⟩:=rv.v_inv
     exact ⟨rfl,hb2⟩
   ·refine Calls.mono (Al hT (eT _ _) O1 rfl (inv hb) (lT hr hb).1 rfl fun i c u hc hu=>?_) fun ex w2 hw=>?_
    ·match i,hc with
     | 0,hc =>
      cases hc
      cases hu
      exact .dat (d1' hb)
    ·obtain ⟨⟨v,ρ',rfl,rv⟩,hb2⟩:=hw
     obtain ⟨us,rfl,h1,h2⟩:=rv.tup_inv
     obtain ⟨x0,q0⟩:=iT (args:=[S ⟨[(49:UInt8)].toArray⟩,.v (.int .i64 0)]) h1 (i:=0) rfl
     obtain ⟨x1,q1⟩:=iT (args:=[S ⟨[(49:UInt8)].toArray⟩,.v (.int .i64 0)]) h1 (i:=1) rfl
     obtain ⟨rfl,_⟩:=(h2 0 _ _ rfl q0).v_inv
     obtain ⟨rfl,_⟩:=(h2 1 _ _ rfl q1).v_inv
     obtain rfl:=SS h1 q0 q1
     exact ⟨rfl,hb2⟩
   ·refine Calls.mono (Al hI (eI _ _) (Q8 e he) rfl (inv hb) (lT hr hb).1 rfl fun i c u hc hu=>?_) fun ex w2 hw=>?_
    ·match i,hc with
     | 0,hc =>
      cases hc
      cases hu
      exact .dat (.v _ rfl)
    ·obtain ⟨⟨v,ρ',rfl,rv⟩,hb2⟩:=hw
     obtain ⟨rfl,_⟩:=rv.v_inv
     exact ⟨rfl,hb2⟩
   ·obtain ⟨rfl,hb⟩:=hw
    refine ⟨ρ,(lT hr hb).1,(lT hr hb).2,?_⟩
    refine .tup _ _ rfl fun i c u hc hu=>?_
    match i,hc,hu with
    | 0,hc,hu=>cases hc; cases hu; exact .dat (.v _ rfl)
    | 1,hc,hu=>cases hc; cases hu; exact .dat (.v _ rfl)
  ·cases hz
 ·cases hz
abbrev TX (f:Nat) (fd:FD):Prop:=Text Go.Proofs.Tryz.prog f fd
theorem tx {f : Nat} {fd : FD} {fn : Func} (h : Go.Proofs.Tryz.prog.funcs[f]? = some fn) (h2 : (fn.body.bind fun c => dS Go.Proofs.Tryz.prog fn.ntmps c fd.body, uv Go.Proofs.Tryz.prog fn.results.toList, decide (fn.ntmps ≤ 1000), fn.name == "runtime.NumGoroutine") = (some fd.body, some fd.res, true, false)) : TX f fd := by
 simp only [Prod.mk.injEq,Option.bind_eq_some_iff,decide_eq_true_eq] at h2
 obtain ⟨⟨c,h3,h4⟩,h5,h6,h7⟩:=h2
 exact ⟨⟨fn,c,_,h,h3,rfl,h6,h4,h5,h7⟩⟩
theorem tn:∀ p ∈ ([]:List (Nat × FD)),TX p.1 p.2:=fun _ h=>by cases h
theorem tc {f:Nat} {fd:FD} {l:List (Nat × FD)} (h1:TX f fd) (h2:∀ p ∈ l,TX p.1 p.2):∀ p ∈ (f,fd)::l,TX p.1 p.2:=fun p hp=>by
 rcases List.mem_cons.1 hp with rfl | hp
 ·exact h1
 ·exact h2 p hp
open Go.Proofs.Tryz
theorem axl:TX 7 ro:=tx func7 (by kernel_rfl)
theorem Z9:TX 8 wM:=tx func8 (by kernel_rfl)
theorem aaa:TX 9 oB:=tx func9 (by kernel_rfl)
theorem VD:TX 10 wN:=tx func10 (by kernel_rfl)
theorem VF:TX 13 eO:=tx func13 (by kernel_rfl)
theorem VG:TX 14 gu:=tx func14 (by kernel_rfl)
theorem VH:TX 15 mN:=tx func15 (by kernel_rfl)
theorem VJ:TX 16 fK:=tx func16 (by kernel_rfl)
theorem ahX:TX 17 aeV:=tx func17 (by kernel_rfl)
theorem ahY:TX 18 ad2:=tx func18 (by kernel_rfl)
theorem ah0:TX 20 aeX:=tx func20 (by kernel_rfl)
theorem VK:TX 21 ij:=tx func21 (by kernel_rfl)
theorem VL:TX 22 yF:=tx func22 (by kernel_rfl)
theorem ah1:TX 23 ad6:=tx func23 (by kernel_rfl)
theorem VM:TX 24 dh:=tx func24 (by kernel_rfl)
theorem awf:TX 26 aji:=tx func26 (by kernel_rfl)
theorem awi:TX 29 aiJ:=tx func29 (by kernel_rfl)
theorem awl:TX 32 aiP:=tx func32 (by kernel_rfl)
theorem VN:TX 34 ez:=tx func34 (by kernel_rfl)
theorem VO:TX 35 gB:=tx func35 (by kernel_rfl)
theorem VP:TX 36 so:=tx func36 (by kernel_rfl)
theorem VQ:TX 37 cw:=tx func37 (by kernel_rfl)
theorem VR:TX 38 gC:=tx func38 (by kernel_rfl)
theorem VS:TX 39 cx:=tx func39 (by kernel_rfl)
theorem VU:TX 40 gP:=tx func40 (by kernel_rfl)
theorem VV:TX 41 fg:=tx func41 (by kernel_rfl)
theorem VW:TX 42 tr:=tx func42 (by kernel_rfl)
theorem VX:TX 43 yG:=tx func43 (by kernel_rfl)
theorem VY:TX 45 akQ:=tx func45 (by kernel_rfl)
theorem VZ:TX 50 mZ:=tx func50 (by kernel_rfl)
theorem V0:TX 51 kB:=tx func51 (by kernel_rfl)
theorem V1:TX 52 dY:=tx func52 (by kernel_rfl)
theorem V2:TX 53 ck:=tx func53 (by kernel_rfl)
theorem V3:TX 54 bY:=tx func54 (by kernel_rfl)
theorem V4:TX 55 jn:=tx func55 (by kernel_rfl)
theorem V5:TX 56 bZ:=tx func56 (by kernel_rfl)
theorem V6:TX 57 aL:=tx func57 (by kernel_rfl)
theorem V7:TX 58 ix:=tx func58 (by kernel_rfl)
theorem V8:TX 59 dc:=tx func59 (by kernel_rfl)
theorem V9:TX 60 dH:=tx func60 (by kernel_rfl)
theorem ah3:TX 61 adK:=tx func61 (by kernel_rfl)
theorem ah4:TX 62 aeY:=tx func62 (by kernel_rfl)
theorem ah5:TX 63 aeT:=tx func63 (by kernel_rfl)
theorem Wa:TX 64 cL:=tx func64 (by kernel_rfl)
theorem ah6:TX 65 aeZ:=tx func65 (by kernel_rfl)
theorem ah7:TX 66 adL:=tx func66 (by kernel_rfl)
theorem Wb:TX 67 dI:=tx func67 (by kernel_rfl)
theorem Wc:TX 68 vn:=tx func68 (by kernel_rfl)
theorem Wd:TX 69 l5:=tx func69 (by kernel_rfl)
theorem We:TX 70 jo:=tx func70 (by kernel_rfl)
theorem Wf:TX 71 fR:=tx func71 (by kernel_rfl)
theorem Wg:TX 72 eK:=tx func72 (by kernel_rfl)
theorem Wh:TX 73 l6:=tx func73 (by kernel_rfl)
theorem awr:TX 77 ah9:=tx func77 (by kernel_rfl)
theorem Wi:TX 85 dT:=tx func85 (by kernel_rfl)
theorem Wj:TX 86 iy:=tx func86 (by kernel_rfl)
theorem Wk:TX 87 kC:=tx func87 (by kernel_rfl)
theorem Wl:TX 88 cJ:=tx func88 (by kernel_rfl)
theorem Wm:TX 89 cK:=tx func89 (by kernel_rfl)
theorem Wn:TX 90 fS:=tx func90 (by kernel_rfl)
theorem Wo:TX 91 yH:=tx func91 (by kernel_rfl)
theorem Wp:TX 92 tu:=tx func92 (by kernel_rfl)
theorem Wq:TX 93 sq:=tx func93 (by kernel_rfl)
theorem Wr:TX 95 iz:=tx func95 (by kernel_rfl)
theorem Ws:TX 96 kY:=tx func96 (by kernel_rfl)
theorem Wt:TX 97 lL:=tx func97 (by kernel_rfl)
theorem SW:TX 103 bg:=tx func103 (by kernel_rfl)
theorem SX:TX 104 eH:=tx func104 (by kernel_rfl)
theorem SY:TX 105 aH:=tx func105 (by kernel_rfl)
theorem SZ:TX 106 l7:=tx func106 (by kernel_rfl)
theorem S0:TX 107 cd:=tx func107 (by kernel_rfl)
theorem S1:TX 108 bK:=tx func108 (by kernel_rfl)
theorem S2:TX 109 eQ:=tx func109 (by kernel_rfl)
theorem S3:TX 110 ew:=tx func110 (by kernel_rfl)
theorem ahP:TX 111 adS:=tx func111 (by kernel_rfl)
theorem S4:TX 112 cI:=tx func112 (by kernel_rfl)
theorem S5:TX 113 ik:=tx func113 (by kernel_rfl)
theorem S6:TX 114 i8:=tx func114 (by kernel_rfl)
theorem S7:TX 115 jp:=tx func115 (by kernel_rfl)
theorem S8:TX 116 gD:=tx func116 (by kernel_rfl)
theorem S9:TX 117 gE:=tx func117 (by kernel_rfl)
theorem Ta:TX 118 cM:=tx func118 (by kernel_rfl)
theorem Tb:TX 119 iC:=tx func119 (by kernel_rfl)
theorem Tc:TX 120 kZ:=tx func120 (by kernel_rfl)
theorem Td:TX 121 iD:=tx func121 (by kernel_rfl)
theorem Te:TX 122 l8:=tx func122 (by kernel_rfl)
theorem Tf:TX 123 lg:=tx func123 (by kernel_rfl)
theorem Tg:TX 124 i9:=tx func124 (by kernel_rfl)
theorem Th:TX 125 m6:=tx func125 (by kernel_rfl)
theorem Ti:TX 126 gF:=tx func126 (by kernel_rfl)
theorem Tj:TX 127 cY:=tx func127 (by kernel_rfl)
theorem auX:TX 128 ajU:=tx func128 (by kernel_rfl)
theorem auY:TX 129 akn:=tx func129 (by kernel_rfl)
theorem Tk:TX 136 eS:=tx func136 (by kernel_rfl)
theorem Tl:TX 137 dz:=tx func137 (by kernel_rfl)
theorem Tm:TX 138 cE:=tx func138 (by kernel_rfl)
theorem Tn:TX 139 wQ:=tx func139 (by kernel_rfl)
theorem To:TX 140 rH:=tx func140 (by kernel_rfl)
theorem Tp:TX 141 nL:=tx func141 (by kernel_rfl)
theorem Tq:TX 142 qB:=tx func142 (by kernel_rfl)
theorem Ts:TX 143 gR:=tx func143 (by kernel_rfl)
theorem Tt:TX 144 su:=tx func144 (by kernel_rfl)
theorem Tu:TX 145 jr:=tx func145 (by kernel_rfl)
theorem Tv:TX 146 iV:=tx func146 (by kernel_rfl)
theorem Tw:TX 153 hJ:=tx func153 (by kernel_rfl)
theorem Tx:TX 154 eU:=tx func154 (by kernel_rfl)
theorem Ty:TX 155 js:=tx func155 (by kernel_rfl)
theorem Tz:TX 156 l9:=tx func156 (by kernel_rfl)
theorem TA:TX 157 fL:=tx func157 (by kernel_rfl)
theorem TB:TX 158 cF:=tx func158 (by kernel_rfl)
theorem TC:TX 159 ja:=tx func159 (by kernel_rfl)
theorem TD:TX 161 jt:=tx func161 (by kernel_rfl)
theorem au6:TX 162 ai8:=tx func162 (by kernel_rfl)
theorem TE:TX 173 jc:=tx func173 (by kernel_rfl)
theorem TF:TX 174 oJ:=tx func174 (by kernel_rfl)
theorem TG:TX 175 vD:=tx func175 (by kernel_rfl)
theorem TH:TX 176 iF:=tx func176 (by kernel_rfl)
theorem TI:TX 177 yI:=tx func177 (by kernel_rfl)
theorem TJ:TX 178 oK:=tx func178 (by kernel_rfl)
theorem TK:TX 179 mw:=tx func179 (by kernel_rfl)
theorem TL:TX 180 mQ:=tx func180 (by kernel_rfl)
theorem TM:TX 182 lj:=tx func182 (by kernel_rfl)
theorem TN:TX 183 iW:=tx func183 (by kernel_rfl)
theorem TO:TX 184 gU:=tx func184 (by kernel_rfl)
theorem TP:TX 185 iG:=tx func185 (by kernel_rfl)
theorem TQ:TX 189 iH:=tx func189 (by kernel_rfl)
theorem TR:TX 190 me:=tx func190 (by kernel_rfl)
theorem TS:TX 191 m8:=tx func191 (by kernel_rfl)
theorem TT:TX 192 m9:=tx func192 (by kernel_rfl)
theorem TU:TX 193 de:=tx func193 (by kernel_rfl)
theorem avh:TX 194 aiS:=tx func194 (by kernel_rfl)
theorem avi:TX 195 aiH:=tx func195 (by kernel_rfl)
theorem avj:TX 196 akr:=tx func196 (by kernel_rfl)
theorem TV:TX 202 gw:=tx func202 (by kernel_rfl)
theorem TW:TX 203 vF:=tx func203 (by kernel_rfl)
theorem TY:TX 204 vG:=tx func204 (by kernel_rfl)
theorem TZ:TX 205 gx:=tx func205 (by kernel_rfl)
theorem T0:TX 206 my:=tx func206 (by kernel_rfl)
theorem T1:TX 207 iX:=tx func207 (by kernel_rfl)
theorem T2:TX 208 vH:=tx func208 (by kernel_rfl)
theorem T3:TX 209 iI:=tx func209 (by kernel_rfl)
theorem T4:TX 210 gV:=tx func210 (by kernel_rfl)
theorem T5:TX 211 nM:=tx func211 (by kernel_rfl)
theorem T6:TX 212 fA:=tx func212 (by kernel_rfl)
theorem avp:TX 213 aiX:=tx func213 (by kernel_rfl)
theorem avq:TX 214 ajc:=tx func214 (by kernel_rfl)
theorem T7:TX 224 mz:=tx func224 (by kernel_rfl)
theorem avy:TX 225 akh:=tx func225 (by kernel_rfl)
theorem avz:TX 226 ajA:=tx func226 (by kernel_rfl)
theorem avA:TX 227 aiw:=tx func227 (by kernel_rfl)
theorem avD:TX 230 aiE:=tx func230 (by kernel_rfl)
set_option maxRecDepth 100000 in
theorem HL:∀ p ∈ Pd,TX p.1 p.2:=tc axl (tc Z9 (tc aaa (tc VD (tc VF (tc VG (tc VH (tc VJ (tc ahX (tc ahY (tc ah0 (tc VK (tc VL (tc ah1 (tc VM (tc awf (tc awi (tc awl (tc VN (tc VO (tc VP (tc VQ (tc VR (tc VS (tc VU (tc VV (tc VW (tc VX (tc VY (tc VZ (tc V0 (tc V1 (tc V2 (tc V3 (tc V4 (tc V5 (tc V6 (tc V7 (tc V8 (tc V9 (tc ah3 (tc ah4 (tc ah5 (tc Wa (tc ah6 (tc ah7 (tc Wb (tc Wc (tc Wd (tc We (tc Wf (tc Wg (tc Wh (tc awr (tc Wi (tc Wj (tc Wk (tc Wl (tc Wm (tc Wn (tc Wo (tc Wp (tc Wq (tc Wr (tc Ws (tc Wt (tc SW (tc SX (tc SY (tc SZ (tc S0 (tc S1 (tc S2 (tc S3 (tc ahP (tc S4 (tc S5 (tc S6 (tc S7 (tc S8 (tc S9 (tc Ta (tc Tb (tc Tc (tc Td (tc Te (tc Tf (tc Tg (tc Th (tc Ti (tc Tj (tc auX (tc auY (tc Tk (tc Tl (tc Tm (tc Tn (tc To (tc Tp (tc Tq (tc Ts (tc Tt (tc Tu (tc Tv (tc Tw (tc Tx (tc Ty (tc Tz (tc TA (tc TB (tc TC (tc TD (tc au6 (tc TE (tc TF (tc TG (tc TH (tc TI (tc TJ (tc TK (tc TL (tc TM (tc TN (tc TO (tc TP (tc TQ (tc TR (tc TS (tc TT (tc TU (tc avh (tc avi (tc avj (tc TV (tc TW (tc TY (tc TZ (tc T0 (tc T1 (tc T2 (tc T3 (tc T4 (tc T5 (tc T6 (tc avp (tc avq (tc T7 (tc avy (tc avz (tc avA (tc avD (tn)))))))))))))))))))))))))))))))))))))))))))))))))))))))))))))))))))))))))))))))))))))))))))))))))))))))))))))))))))))))))))))))))))))))))))))))))))))))
end Go.Ab
