/-
  A law of polynomials holds at every input that the statement speaks of, under the conditions that its card names. Part J1.
-/
import Derived.Test.YtkmighmagkmboaaGreatDoorTie
import Derived.Test.YtkmighmagkmboaaGreatDoorCards
import Derived.Stop.Joined
import Derived.Test.YtkmighmagkmboaaGreatDoorI1
namespace Go.Proofs.YtkmighmagkmboaaGreatDoor
open Go Go.Ab Go.ChangeShapes Go.WideShapes Go.ChangeAt Go.RowKit
theorem kr:ownKnob Tryz.prog.godebug=none:=by kernel_rfl
theorem Jx:laidOutB Tryz.prog=true:=by kernel_rfl
theorem O5 (os:Os) (args:Array Value):laidMetH Tryz.prog vg ((World.doorLaid Tryz.prog 400 os).forCall (fun _ _=>0) ⟨#[],args,[]⟩).memory :=
 laidMetH_of_parts3 (fuel:=8) (laidMet_of_run' 8 (by kernel_rfl) (by kernel_rfl)) (by kernel_rfl) (by kernel_rfl)
theorem agu {H:Type} {enc:TypeId × Value→H} {P:Program} {w:World} {base:Nat} {spare:Nat→Bool} {held:Bool} {t0 t1 t2 t3:TypeId} {v0 v1 v2 v3:Value} {d0 d1 d2 d3:DataW H} {p0 p1 p2 p3:List MemPlace} (h0:DataW.Trod enc P w base spare held t0 v0 d0 p0) (h1:DataW.Trod enc P w base spare held t1 v1 d1 p1) (h2:DataW.Trod enc P w base spare held t2 v2 d2 p2) (h3:DataW.Trod enc P w base spare held t3 v3 d3 p3):DataW.TrodAll enc P w base spare held [t0,t1,t2,t3] [v0,v1,v2,v3] [d0,d1,d2,d3] (p0++(p1++(p2++p3))) :=
 ⟨p0,p1++(p2++p3),h0,trodAll_mk3 h1 h2 h3,rfl⟩
theorem aqW {H:Type} {enc:TypeId × Value→H} {P:Program} {w:World} {base:Nat} {spare:Nat→Bool} {held:Bool} {t0 t1 t2 t3 t4:TypeId} {args:Array Value} {ds:List (DataW H)} {ps:List MemPlace} (h:DataW.TrodAll enc P w base spare held [t0,t1,t2,t3,t4] args.toList ds ps) :
  ∃ v0 v1 v2 v3 v4 d0 d1 d2 d3 d4 p0 p1 p2 p3 p4,args=#[v0,v1,v2,v3,v4]∧ds=[d0,d1,d2,d3,d4]∧ps=p0++p1++p2++p3++p4∧DataW.Trod enc P w base spare held t0 v0 d0 p0∧DataW.Trod enc P w base spare held t1 v1 d1 p1∧DataW.Trod enc P w base spare held t2 v2 d2 p2∧DataW.Trod enc P w base spare held t3 v3 d3 p3∧DataW.Trod enc P w base spare held t4 v4 d4 p4:=by
 obtain ⟨v0,w0,d0,e0,p0,q0,hargs,rfl,rfl,k0,r0⟩:=trodAll_cons h
 obtain ⟨v1,w1,d1,e1,p1,q1,rfl,rfl,rfl,k1,r1⟩:=trodAll_cons r0
 obtain ⟨v2,w2,d2,e2,p2,q2,rfl,rfl,rfl,k2,r2⟩:=trodAll_cons r1
 obtain ⟨v3,w3,d3,e3,p3,q3,rfl,rfl,rfl,k3,r3⟩:=trodAll_cons r2
 obtain ⟨v4,w4,d4,e4,p4,q4,rfl,rfl,rfl,k4,r4⟩:=trodAll_cons r3
 obtain ⟨rfl,rfl,rfl⟩:=trodAll_nil r4
 exact ⟨v0,v1,v2,v3,v4,d0,d1,d2,d3,d4,p0,p1,p2,p3,p4,by cases args; simp_all,rfl,by simp,k0,k1,k2,k3,k4⟩
theorem aoN {H:Type} {enc:TypeId × Value→H} {P:Program} {w:World} {base:Nat} {spare:Nat→Bool} {held:Bool} {t0 t1 t2 t3 t4:TypeId} {v0 v1 v2 v3 v4:Value} {d0 d1 d2 d3 d4:DataW H} {p0 p1 p2 p3 p4:List MemPlace} (h0:DataW.Trod enc P w base spare held t0 v0 d0 p0) (h1:DataW.Trod enc P w base spare held t1 v1 d1 p1) (h2:DataW.Trod enc P w base spare held t2 v2 d2 p2) (h3:DataW.Trod enc P w base spare held t3 v3 d3 p3) (h4:DataW.Trod enc P w base spare held t4 v4 d4 p4):DataW.TrodAll enc P w base spare held [t0,t1,t2,t3,t4] [v0,v1,v2,v3,v4] [d0,d1,d2,d3,d4] (p0++(p1++(p2++(p3++p4)))) :=
 ⟨p0,p1++(p2++(p3++p4)),h0,agu h1 h2 h3 h4,rfl⟩
theorem Q9 {H:Type} {enc:TypeId × Value→H} {W:World} {us0:Array Value} {d0:DataW H} {p0:List MemPlace} {z1:Int} {z2:Int} {z3:Int} {us4:Array Value} {d4:DataW H} {p4:List MemPlace} (hL:laidMetH Tryz.prog vg W)
  (h0:DataW.Trod enc Tryz.prog W 0 (fun _=>true) true 24 (.agg us0) d0 p0) (h4:DataW.Trod enc Tryz.prog W 0 (fun _=>true) true 43 (.agg us4) d4 p4)
  (hw:(DataW.weightsEach Tryz.prog [24,3,3,3,43] [d0,.lit (.int .i64 z1),.lit (.int .i64 z2),.lit (.int .i64 z3),d4]).all (·≤reachBytes)=true) :
  Calls Tryz.prog 6 #[.agg us0,.int .i64 z1,.int .i64 z2,.int .i64 z3,.agg us4] W fun e W'=>e=.returned (.bool true)∧Below W.heap.size W W':=by
 have hwe:qE 24 d0∧qE 43 d4:=by
  rw [List.all_eq_true] at hw
  refine ⟨fun m hm=>?_,fun m hm=>?_⟩
  ·have:=hw m (by simp only [DataW.weightsEach,List.mem_append]; exact .inl hm)
   simpa using this
  ·have:=hw m (by simp only [DataW.weightsEach,List.mem_append]; exact .inr (.inr (.inr (.inr (.inl hm)))))
   simpa using this
 obtain ⟨hT,hB⟩:=MK hL
 obtain ⟨n0,f0⟩:=h0
 obtain ⟨a0,o0,r0⟩:=HK hB (us:=us0) f0 hwe.1
 obtain ⟨n4,f4⟩:=h4
 obtain ⟨a4,o4,r4⟩:=ahx hB (us:=us4) f4 hwe.2
 have aw:R F.l23_awake [] []=some (B true,[]):=aaj
 refine ML (args:=[bm a0,I z1,I z2,I z3,aF a4]) Tryz.func6 (by kernel_rfl) (by kernel_rfl) hL (atW aw o0.1 o0.2 o4) rfl (fun i c u hc hu=>?_) ((enters_of Tryz.func6 (by kernel_rfl) rfl:Proofs.Enters Tryz.prog 6) _ _)
 match i,hc,hu with
 | 0,hc,hu=>simp at hc hu; subst hc hu; exact r0
 | 1,hc,hu=>simp at hc hu; subst hc hu; exact .v _ rfl
 | 2,hc,hu=>simp at hc hu; subst hc hu; exact .v _ rfl
 | 3,hc,hu=>simp at hc hu; subst hc hu; exact .v _ rfl
 | 4,hc,hu=>simp at hc hu; subst hc hu; exact r4
 | i+5,hc,hu=>simp at hc
set_option maxRecDepth 100000 in
theorem Ua (os:Os) (started:os.Started) (H:Type) (enc:TypeId × Value→H) :
  ReturnsInHanded {} Tryz.checked os 6 .any (fun w args=>(Rows.polyPartsSpec.pre enc Tryz.prog Tryz.f6 [] false w args∧laidMetH Tryz.prog vg w)∧sizedMet enc Tryz.prog Tryz.f6 (OpenSpec.ofChange Rows.polyPartsSpec) false w args)
   (Rows.polyPartsSpec.post enc Tryz.prog Tryz.f6 false true false false):=by
 refine returnsInHanded_of_change_and (C:=Tryz.checked) (X:=fun w _=>laidMetH Tryz.prog vg w) (fun _ _ _ hh h=>h.of_heap hh) kr started (by kernel_rfl) Tryz.func6
  (ChangeSpec.witness_shaped (enc:=enc) (C:=Tryz.checked) (os:=os) (X:=fun w _=>laidMetH Tryz.prog vg w) false (World.doorLaid Tryz.prog 400 os) #[.agg #[.int .i64 0,.slice none 0 0],.int .i64 0,.int .i64 0,.int .i64 0,.agg #[.bool false,.slice none 0 0,.int .i64 0]] 8 rfl (World.shaped_of_RefB (by kernel_rfl) (by kernel_rfl)) (by kernel_rfl) (by kernel_rfl) (by kernel_rfl) (O5 os _)) ?_
 intro W base args ds gs before hval0 hW _ hsz hL _
 have hval:∀ (j:Nat) t v,Tryz.f6.params[j]?=some t→args[j]?=some v→Value.okWide Tryz.prog W .any base t v:=hval0
 have hW':=hW
 obtain ⟨p,q,hA0,hV,rfl,hfz,hnd⟩:=hW
 have hA:DataW.TrodAll enc Tryz.prog W 0 (fun _=>true) true Tryz.f6.params.toList args.toList ds p:=hA0
 rw [Tryz.params6] at hA hval hsz
 obtain ⟨v0,v1,v2,v3,v4,d0,d1,d2,d3,d4,p0,p1,p2,p3,p4,rfl,rfl,rfl,h0,h1,h2,h3,h4⟩:=aqW hA
 obtain ⟨rfl,rfl⟩:=trodVars_none hV
 clear hA0 hval0
 obtain ⟨us0,rfl,_⟩:=okWide_struct Tryz.underlying24 (hval 0 24 v0 rfl rfl)
 obtain ⟨z1,rfl,rfl,rfl,hwf1⟩:=open_int Tryz.underlying3 (hval 1 3 v1 rfl rfl) h1
 obtain ⟨z2,rfl,rfl,rfl,hwf2⟩:=open_int Tryz.underlying3 (hval 2 3 v2 rfl rfl) h2
 obtain ⟨z3,rfl,rfl,rfl,hwf3⟩:=open_int Tryz.underlying3 (hval 3 3 v3 rfl rfl) h3
 obtain ⟨us4,rfl,_⟩:=okWide_struct Tryz.underlying43 (hval 4 43 v4 rfl rfl)
 have hlt0:∀ x ∈ p0,x.block < W.heap.size:=fun x hx=>by simpa using hW'.lt x (by simp [hx])
 have hlt4:∀ x ∈ p4,x.block < W.heap.size:=fun x hx=>by simpa using hW'.lt x (by simp [hx])
 refine (Q9 hL h0 h4 hsz).mono fun e W' hw=>?_
 obtain ⟨rfl,hb⟩:=hw
 refine ⟨_,rfl,_,_,_,[],p0++([]++([]++([]++(p4)))),[],hW',?_,?_,rfl,hb.frame _,fun h=>by cases h⟩
 ·exact trodAll_mk1 (shut_bool Tryz.underlying4 _)
 ·exact aoN (Below.trod Jx (by kernel_rfl) (of_decide_eq_true (by kernel_rfl)) h0 hb hlt0) (shut_int Tryz.underlying3 hwf1) (shut_int Tryz.underlying3 hwf2) (shut_int Tryz.underlying3 hwf3) (Below.trod Jx (by kernel_rfl) (of_decide_eq_true (by kernel_rfl)) h4 hb hlt4)
theorem MW:Rows.PolyPartsSaid :=
 OpenClaim.holds_of_wide 6 Tryz.f6 rfl rfl rfl rfl rfl rfl rfl ⟨rfl,rfl,rfl,rfl,rfl⟩ rfl rfl rfl rfl rfl (by kernel_rfl) Tryz.func6 (by kernel_rfl)
  (of_decide_eq_true (by kernel_rfl)) (by unfold Func.isWrapper; first | (rw [if_pos (by decide +kernel)]; kernel_rfl) | (rw [if_neg (by decide +kernel)]; exact ⟨rfl,rfl⟩))
  (fun os started H enc _=>Ua os started H enc)
theorem card_holds:Rows.PolyPartsCardSaid :=
 Claim7.holds_tied_plain_at .later [] [.data, .data, .data] true (true, "5e39160b423ff031626509a3b1c71833a19cef5d4d00d7d7b76b2f2d3ce63fb6") false
  MW (fun _ h=>by cases h) (by kernel_rfl) (fun _ h=>by cases h) polyParts_row_tie rfl ⟨rfl,rfl⟩ (by kernel_rfl) rfl
  (fun f fn hf hfn=>by
   obtain rfl : f = 6 := Option.some.inj ((show Tryz.prog.funcNamed "flowpipe/flowpipelaw23.PolyParts" = some 6 by kernel_rfl).symm.trans hf) |>.symm
   obtain rfl:fn=Tryz.f6:=(Option.some.inj (Tryz.func6.symm.trans hfn)).symm
   exact ⟨by kernel_rfl,fun j t ht=>by
    rw [Tryz.params6] at ht
    have h3:t=3∨t=24∨t=43:=by
     rcases j with _ | _ | _ | _ | _ | j
     ·exact .inr (.inl (by simpa using ht.symm))
     ·exact .inl (by simpa using ht.symm)
     ·exact .inl (by simpa using ht.symm)
     ·exact .inl (by simpa using ht.symm)
     ·exact .inr (.inr ((by simpa using ht.symm)))
     ·simp at ht
    rcases h3 with rfl | rfl | rfl
    ·exact (show Tryz.prog.wantsStandIn 3=false by kernel_rfl)
    ·exact (show Tryz.prog.wantsStandIn 24=false by kernel_rfl)
    ·exact (show Tryz.prog.wantsStandIn 43=false by kernel_rfl)⟩)
  (by kernel_rfl)
#print axioms card_holds
end Go.Proofs.YtkmighmagkmboaaGreatDoor
