/-
  A law of ranges holds at every input that the statement speaks of, under the conditions that its card names. Part K1.
-/
import Derived.Test.YtfdhicohflnjnaaGreatDoorTie
import Derived.Test.YtfdhicohflnjnaaGreatDoorCards
import Derived.Stop.Joined
import Derived.Test.YtfdhicohflnjnaaGreatDoorJ1
set_option linter.all false
namespace Go.Proofs.YtfdhicohflnjnaaGreatDoor
open Go Go.Ab Go.ChangeShapes Go.WideShapes Go.ChangeAt Go.RowKit
theorem mY:ownKnob Tryz.prog.godebug=none:=by kernel_rfl
theorem K2:laidOutB Tryz.prog=true:=by kernel_rfl
theorem aaB (os:Os) (args:Array Value):laidMetH Tryz.prog Cb ((World.doorLaid Tryz.prog 400 os).forCall (fun _ _=>0) ⟨#[],args,[]⟩).memory :=
 laidMetH_of_parts3 (fuel:=8) (laidMet_of_run' 8 (by kernel_rfl) (by kernel_rfl)) (by kernel_rfl) (by kernel_rfl)
theorem VL {H:Type} {enc:TypeId × Value→H} {P:Program} {w:World} {base:Nat} {spare:Nat→Bool} {held:Bool} {t0 t1 t2 t3:TypeId} {args:Array Value} {ds:List (DataW H)} {ps:List MemPlace} (h:DataW.TrodAll enc P w base spare held [t0,t1,t2,t3] args.toList ds ps) :
  ∃ v0 v1 v2 v3 d0 d1 d2 d3 p0 p1 p2 p3,args=#[v0,v1,v2,v3]∧ds=[d0,d1,d2,d3]∧ps=p0++p1++p2++p3∧DataW.Trod enc P w base spare held t0 v0 d0 p0∧DataW.Trod enc P w base spare held t1 v1 d1 p1∧DataW.Trod enc P w base spare held t2 v2 d2 p2∧DataW.Trod enc P w base spare held t3 v3 d3 p3:=by
 obtain ⟨v0,w0,d0,e0,p0,q0,hargs,rfl,rfl,k0,r0⟩:=trodAll_cons h;obtain ⟨v1,w1,d1,e1,p1,q1,rfl,rfl,rfl,k1,r1⟩:=trodAll_cons r0;obtain ⟨v2,w2,d2,e2,p2,q2,rfl,rfl,rfl,k2,r2⟩:=trodAll_cons r1;obtain ⟨v3,w3,d3,e3,p3,q3,rfl,rfl,rfl,k3,r3⟩:=trodAll_cons r2;obtain ⟨rfl,rfl,rfl⟩:=trodAll_nil r3;exact ⟨v0,v1,v2,v3,d0,d1,d2,d3,p0,p1,p2,p3,by cases args; simp_all,rfl,by simp,k0,k1,k2,k3⟩
theorem QV {H:Type} {enc:TypeId × Value→H} {P:Program} {w:World} {base:Nat} {spare:Nat→Bool} {held:Bool} {t0 t1 t2 t3:TypeId} {v0 v1 v2 v3:Value} {d0 d1 d2 d3:DataW H} {p0 p1 p2 p3:List MemPlace} (h0:DataW.Trod enc P w base spare held t0 v0 d0 p0) (h1:DataW.Trod enc P w base spare held t1 v1 d1 p1) (h2:DataW.Trod enc P w base spare held t2 v2 d2 p2) (h3:DataW.Trod enc P w base spare held t3 v3 d3 p3):DataW.TrodAll enc P w base spare held [t0,t1,t2,t3] [v0,v1,v2,v3] [d0,d1,d2,d3] (p0++(p1++(p2++p3))) :=
 ⟨p0,p1++(p2++p3),h0,trodAll_mk3 h1 h2 h3,rfl⟩
theorem acW {H:Type} {enc:TypeId × Value→H} {W:World} {us0:Array Value} {d0:DataW H} {p0:List MemPlace} {v1:Value} {d1:DataW H} {p1:List MemPlace} {v2:Value} {d2:DataW H} {p2:List MemPlace} {z3:Int} (hL:laidMetH Tryz.prog Cb W)
  (h0:DataW.Trod enc Tryz.prog W 0 (fun _=>true) true 24 (.agg us0) d0 p0) (h1:DataW.Trod enc Tryz.prog W 0 (fun _=>true) true 25 v1 d1 p1) (hc1:v1.cells=#[v1]) (h2:DataW.Trod enc Tryz.prog W 0 (fun _=>true) true 42 v2 d2 p2) (hc2:v2.cells=#[v2])
  (hw:(DataW.weightsEach Tryz.prog [24,25,42,3] [d0,d1,d2,.lit (.int .i64 z3)]).all (·≤reachBytes)=true) :
  Calls Tryz.prog 4 #[.agg us0,v1,v2,.int .i64 z3] W fun e W'=>e=.returned (.bool true)∧Below W.heap.size W W':=by
 have hwe:pB 24 d0∧pB 25 d1∧pB 42 d2:=by
  rw [List.all_eq_true] at hw;refine ⟨fun m hm=>?_,fun m hm=>?_,fun m hm=>?_⟩
  ·have:=hw m (by simp only [DataW.weightsEach,List.mem_append]; exact .inl hm);simpa using this
  ·have:=hw m (by simp only [DataW.weightsEach,List.mem_append]; exact .inr (.inl hm));simpa using this
  ·have:=hw m (by simp only [DataW.weightsEach,List.mem_append]; exact .inr (.inr (.inl hm)));simpa using this
 obtain ⟨hT,hB⟩:=Ys hL;obtain ⟨n0,f0⟩:=h0;obtain ⟨a0,o0,r0⟩:=aaq hB (us:=us0) f0 hwe.1;obtain ⟨n1,f1⟩:=h1;rw [hc1] at f1;obtain ⟨a1,o1,r1⟩:=acU hB (v:=v1) f1 hwe.2.1;obtain ⟨n2,f2⟩:=h2;rw [hc2] at f2;obtain ⟨a2,o2,r2⟩:=acV hB (v:=v2) f2 hwe.2.2;have aw:R F.l24_awake [] []=some (B true,[]):=ag7;refine Yt (args:=[bH a0,.sl 7 (aY a1),.sl 1 (D6 a2),I z3]) Tryz.func4 (by kernel_rfl) (by kernel_rfl) hL (acP aw o0.1 o1 ) rfl (fun i c u hc hu=>?_) ((enters_of Tryz.func4 (by kernel_rfl) rfl:Proofs.Enters Tryz.prog 4) _ _)
 match i,hc,hu with
 | 0,hc,hu=>simp at hc hu; subst hc hu; exact r0
 | 1,hc,hu=>simp at hc hu; subst hc hu; exact r1
 | 2,hc,hu=>simp at hc hu; subst hc hu; exact r2
 | 3,hc,hu=>simp at hc hu; subst hc hu; exact .v _ rfl
 | i+4,hc,hu=>simp at hc
set_option maxRecDepth 100000 in
theorem aeY (os:Os) (started:os.Started) (H:Type) (enc:TypeId × Value→H) :
  ReturnsInHanded {} Tryz.checked os 4 .any (fun w args=>(Rows.boundSmallerSpec.pre enc Tryz.prog Tryz.f4 [] false w args∧laidMetH Tryz.prog Cb w)∧sizedMet enc Tryz.prog Tryz.f4 (OpenSpec.ofChange Rows.boundSmallerSpec) false w args)
   (Rows.boundSmallerSpec.post enc Tryz.prog Tryz.f4 false true false false):=by
 refine returnsInHanded_of_change_and (C:=Tryz.checked) (X:=fun w _=>laidMetH Tryz.prog Cb w) (fun _ _ _ hh h=>h.of_heap hh) mY started (by kernel_rfl) Tryz.func4
  (ChangeSpec.witness_shaped (enc:=enc) (C:=Tryz.checked) (os:=os) (X:=fun w _=>laidMetH Tryz.prog Cb w) false (World.doorLaid Tryz.prog 400 os) #[.agg #[.int .i64 0,.slice none 0 0],.slice none 0 0,.slice none 0 0,.int .i64 0] 8 rfl (World.shaped_of_RefB (by kernel_rfl) (by kernel_rfl)) (by kernel_rfl) (by kernel_rfl) (by kernel_rfl) (aaB os _)) ?_
 intro W base args ds gs before hval0 hW _ hsz hL _;have hval:∀ (j:Nat) t v,Tryz.f4.params[j]?=some t→args[j]?=some v→Value.okWide Tryz.prog W .any base t v:=hval0;have hW':=hW;obtain ⟨p,q,hA0,hV,rfl,hfz,hnd⟩:=hW;have hA:DataW.TrodAll enc Tryz.prog W 0 (fun _=>true) true Tryz.f4.params.toList args.toList ds p:=hA0;rw [Tryz.params4] at hA hval hsz;obtain ⟨v0,v1,v2,v3,d0,d1,d2,d3,p0,p1,p2,p3,rfl,rfl,rfl,h0,h1,h2,h3⟩:=VL hA;obtain ⟨rfl,rfl⟩:=trodVars_none hV;clear hA0 hval0;obtain ⟨us0,rfl,_⟩:=okWide_struct Tryz.underlying24 (hval 0 24 v0 rfl rfl);obtain ⟨b1,l1,c1,e1⟩:=okWide_slice Tryz.underlying25 (hval 1 25 v1 rfl rfl);obtain ⟨b2,l2,c2,e2⟩:=okWide_slice Tryz.underlying42 (hval 2 42 v2 rfl rfl);obtain ⟨z3,rfl,rfl,rfl,hwf3⟩:=open_int Tryz.underlying3 (hval 3 3 v3 rfl rfl) h3;have hlt0:∀ x ∈ p0,x.block < W.heap.size:=fun x hx=>by simpa using hW'.lt x (by simp [hx])
 have hlt1:∀ x ∈ p1,x.block < W.heap.size:=fun x hx=>by simpa using hW'.lt x (by simp [hx])
 have hlt2:∀ x ∈ p2,x.block < W.heap.size:=fun x hx=>by simpa using hW'.lt x (by simp [hx])
 refine (acW hL h0 h1 (by rw [e1]; rfl) h2 (by rw [e2]; rfl) hsz).mono fun e W' hw=>?_;obtain ⟨rfl,hb⟩:=hw;refine ⟨_,rfl,_,_,_,[],p0++(p1++(p2++([]))),[],hW',?_,?_,rfl,hb.frame _,fun h=>by cases h⟩
 ·exact trodAll_mk1 (shut_bool Tryz.underlying4 _)
 ·exact QV (Below.trod K2 (by kernel_rfl) (of_decide_eq_true (by kernel_rfl)) h0 hb hlt0) (Below.trod K2 (by kernel_rfl) (of_decide_eq_true (by kernel_rfl)) h1 hb hlt1) (Below.trod K2 (by kernel_rfl) (of_decide_eq_true (by kernel_rfl)) h2 hb hlt2) (shut_int Tryz.underlying3 hwf3)
theorem Yv:Rows.BoundSmallerSaid :=
 OpenClaim.holds_of_wide 4 Tryz.f4 rfl rfl rfl rfl rfl rfl rfl ⟨rfl,rfl,rfl,rfl,rfl⟩ rfl rfl rfl rfl rfl (by kernel_rfl) Tryz.func4 (by kernel_rfl)
  (of_decide_eq_true (by kernel_rfl)) (by unfold Func.isWrapper; first | (rw [if_pos (by decide +kernel)]; kernel_rfl) | (rw [if_neg (by decide +kernel)]; exact ⟨rfl,rfl⟩))
  (fun os started H enc _=>aeY os started H enc)
theorem card_holds:Rows.BoundSmallerCardSaid :=
 Claim7.holds_tied_plain_at .later [] [.data] true (true, "101425869707033a07546b6eb4d5671e219f894f46ee4f4a00ea7233aeb950c0") false
  Yv (fun _ h=>by cases h) (by kernel_rfl) (fun _ h=>by cases h) boundSmaller_row_tie rfl ⟨rfl,rfl⟩ (by kernel_rfl) rfl
  (fun f fn hf hfn=>by
   obtain rfl : f = 4 := Option.some.inj ((show Tryz.prog.funcNamed "flowpipe/flowpipelaw24.BoundSmaller" = some 4 by kernel_rfl).symm.trans hf) |>.symm
   obtain rfl:fn=Tryz.f4:=(Option.some.inj (Tryz.func4.symm.trans hfn)).symm;exact ⟨by kernel_rfl,fun j t ht=>by
    rw [Tryz.params4] at ht;have h3:t=3∨t=24∨t=25∨t=42:=by
     rcases j with _ | _ | _ | _ | j
     ·exact .inr (.inl (by simpa using ht.symm))
     ·exact .inr (.inr (.inl (by simpa using ht.symm)))
     ·exact .inr (.inr (.inr ((by simpa using ht.symm))))
     ·exact .inl (by simpa using ht.symm)
     ·simp at ht
    rcases h3 with rfl | rfl | rfl | rfl
    ·exact (show Tryz.prog.wantsStandIn 3=false by kernel_rfl)
    ·exact (show Tryz.prog.wantsStandIn 24=false by kernel_rfl)
    ·exact (show Tryz.prog.wantsStandIn 25=false by kernel_rfl)
    ·exact (show Tryz.prog.wantsStandIn 42=false by kernel_rfl)⟩)
  (by kernel_rfl)
#print axioms card_holds
end Go.Proofs.YtfdhicohflnjnaaGreatDoor
