/-
  A law of ranges holds at every input that the statement speaks of, under the conditions that its card names. Part J1.
-/
import Derived.Test.YtfdhicohflnjnaaGreatDoorTie
import Derived.Test.YtfdhicohflnjnaaGreatDoorCards
import Derived.Stop.Joined
import Derived.Test.YtfdhicohflnjnaaGreatDoorI1
set_option linter.all false
namespace Go.Proofs.YtfdhicohflnjnaaGreatDoor
open Go Go.Ab Go.ChangeShapes Go.WideShapes Go.ChangeAt Go.RowKit
theorem mY:ownKnob Tryz.prog.godebug=none:=by kernel_rfl
theorem K2:laidOutB Tryz.prog=true:=by kernel_rfl
theorem aaB(os:Os)(args:Array Value):laidMetH Tryz.prog Cb ((World.doorLaid Tryz.prog 400 os).forCall (fun _ _=>0) ⟨#[],args,[]⟩).memory:=
 laidMetH_of_parts3 (fuel:=8) (laidMet_of_run' 8 (by kernel_rfl) (by kernel_rfl)) (by kernel_rfl) (by kernel_rfl)
theorem acW{H:Type}{enc:TypeId×Value->H}{W:World}{us0:Array Value}{d0:DataW H}{p0:List MemPlace}{us1:Array Value}{d1:DataW H}{p1:List MemPlace}{v2:Value}{d2:DataW H}{p2:List MemPlace}(hL:laidMetH Tryz.prog Cb W)
  (h0:DataW.Trod enc Tryz.prog W 0 (fun _=>true) true 24 (.agg us0) d0 p0) (h1:DataW.Trod enc Tryz.prog W 0 (fun _=>true) true 24 (.agg us1) d1 p1) (h2:DataW.Trod enc Tryz.prog W 0 (fun _=>true) true 25 v2 d2 p2) (hc2:v2.cells=#[v2])
  (hw:(DataW.weightsEach Tryz.prog [24,24,25] [d0,d1,d2]).all (·≤reachBytes)=true):
  Calls Tryz.prog 8 #[.agg us0,.agg us1,v2] W fun e W'=>e=.returned (.bool true)/\Below W.heap.size W W':=by
 have hwe:pB 24 d0/\pB 24 d1/\pB 25 d2:=by
  rw[List.all_eq_true]at hw;refine⟨fun m hm=>?_,fun m hm=>?_,fun m hm=>?_⟩
  ·have:=hw m (by simp only[DataW.weightsEach,List.mem_append];exact .inl hm);simpa using this
  ·have:=hw m (by simp only[DataW.weightsEach,List.mem_append];exact .inr (.inl hm));simpa using this
  ·have:=hw m (by simp only[DataW.weightsEach,List.mem_append];exact .inr (.inr (.inl hm)));simpa using this
 obtain⟨hT,hB⟩:=Ys hL;obtain⟨n0,f0⟩:=h0;obtain⟨a0,o0,r0⟩:=aaq hB (us:=us0) f0 hwe.1;obtain⟨n1,f1⟩:=h1;obtain⟨a1,o1,r1⟩:=aaq hB (us:=us1) f1 hwe.2.1;obtain⟨n2,f2⟩:=h2;rw[hc2]at f2;obtain⟨a2,o2,r2⟩:=acU hB (v:=v2) f2 hwe.2.2;have aw:R F.l24_awake [] []=some (B true,[]):=aw0;refine Yt (args:=[bH a0,bH a1,.sl 7 (aY a2)]) Tryz.func8 (by kernel_rfl) (by kernel_rfl) hL (auf aw o0.1 o1.1 o2) rfl (fun i c u hc hu=>?_) ((enters_of Tryz.func8 (by kernel_rfl) rfl:Proofs.Enters Tryz.prog 8) _ _)
 match i,hc,hu with
 |0,hc,hu=>simp at hc hu;subst hc hu;exact r0
 |1,hc,hu=>simp at hc hu;subst hc hu;exact r1
 |2,hc,hu=>simp at hc hu;subst hc hu;exact r2
 |i+3,hc,hu=>simp at hc
set_option maxRecDepth 100000 in
theorem aeY(os:Os)(started:os.Started)(H:Type)(enc:TypeId×Value->H):
  ReturnsInHanded {} Tryz.checked os 8 .any (fun w args=>(Rows.boundSumsSpec.pre enc Tryz.prog Tryz.f8 [] false w args/\laidMetH Tryz.prog Cb w)/\sizedMet enc Tryz.prog Tryz.f8 (OpenSpec.ofChange Rows.boundSumsSpec) false w args)
   (Rows.boundSumsSpec.post enc Tryz.prog Tryz.f8 false true false false):=by
 refine returnsInHanded_of_change_and (C:=Tryz.checked) (X:=fun w _=>laidMetH Tryz.prog Cb w) (fun _ _ _ hh h=>h.of_heap hh) mY started (by kernel_rfl) Tryz.func8
  (ChangeSpec.witness_shaped (enc:=enc) (C:=Tryz.checked) (os:=os) (X:=fun w _=>laidMetH Tryz.prog Cb w) false (World.doorLaid Tryz.prog 400 os) #[.agg #[.int .i64 0,.slice none 0 0],.agg #[.int .i64 0,.slice none 0 0],.slice none 0 0] 8 rfl (World.shaped_of_RefB (by kernel_rfl) (by kernel_rfl)) (by kernel_rfl) (by kernel_rfl) (by kernel_rfl) (aaB os _)) ?_
 intro W base args ds gs before hval0 hW _ hsz hL _;have hval:∀ (j:Nat) t v,Tryz.f8.params[j]?=some t->args[j]?=some v->Value.okWide Tryz.prog W .any base t v:=hval0;have hW':=hW;obtain⟨p,q,hA0,hV,rfl,hfz,hnd⟩:=hW;have hA:DataW.TrodAll enc Tryz.prog W 0 (fun _=>true) true Tryz.f8.params.toList args.toList ds p:=hA0;rw[Tryz.params8]at hA hval hsz;obtain⟨v0,v1,v2,d0,d1,d2,p0,p1,p2,rfl,rfl,rfl,h0,h1,h2⟩:=trodAll_three hA;obtain⟨rfl,rfl⟩:=trodVars_none hV;clear hA0 hval0;obtain⟨us0,rfl,_⟩:=okWide_struct Tryz.underlying24 (hval 0 24 v0 rfl rfl);obtain⟨us1,rfl,_⟩:=okWide_struct Tryz.underlying24 (hval 1 24 v1 rfl rfl);obtain⟨b2,l2,c2,e2⟩:=okWide_slice Tryz.underlying25 (hval 2 25 v2 rfl rfl);have hlt0:∀x∈p0,x.block<W.heap.size:=fun x hx=>by simpa using hW'.lt x (by simp[hx])
 have hlt1:∀x∈p1,x.block<W.heap.size:=fun x hx=>by simpa using hW'.lt x (by simp[hx])
 have hlt2:∀x∈p2,x.block<W.heap.size:=fun x hx=>by simpa using hW'.lt x (by simp[hx])
 refine(acW hL h0 h1 h2 (by rw[e2];rfl) hsz).mono fun e W' hw=>?_;obtain⟨rfl,hb⟩:=hw;refine⟨_,rfl,_,_,_,[],p0++(p1++(p2)),[],hW',?_,?_,rfl,hb.frame _,fun h=>by cases h⟩
 ·exact trodAll_mk1 (shut_bool Tryz.underlying4 _)
 ·exact trodAll_mk3 (Below.trod K2 (by kernel_rfl) (of_decide_eq_true (by kernel_rfl)) h0 hb hlt0) (Below.trod K2 (by kernel_rfl) (of_decide_eq_true (by kernel_rfl)) h1 hb hlt1) (Below.trod K2 (by kernel_rfl) (of_decide_eq_true (by kernel_rfl)) h2 hb hlt2)
theorem Yv:Rows.BoundSumsSaid:=
 OpenClaim.holds_of_wide 8 Tryz.f8 rfl rfl rfl rfl rfl rfl rfl ⟨rfl,rfl,rfl,rfl,rfl⟩ rfl rfl rfl rfl rfl (by kernel_rfl) Tryz.func8 (by kernel_rfl)
  (of_decide_eq_true (by kernel_rfl)) (by unfold Func.isWrapper;first| (rw[if_pos (by decide+kernel)];kernel_rfl)| (rw[if_neg (by decide+kernel)];exact⟨rfl,rfl⟩))
  (fun os started H enc _=>aeY os started H enc)
theorem card_holds:Rows.BoundSumsCardSaid :=
 Claim7.holds_tied_plain_at .later [] [.data] true (true, "101425869707033a07546b6eb4d5671e219f894f46ee4f4a00ea7233aeb950c0") false
  Yv (fun _ h=>by cases h) (by kernel_rfl) (fun _ h=>by cases h) boundSums_row_tie rfl ⟨rfl,rfl⟩ (by kernel_rfl) rfl
  (fun f fn hf hfn=>by
   obtain rfl:f=8:=Option.some.inj ((show Tryz.prog.funcNamed "flowpipe/flowpipelaw24.BoundSums" =some 8 by kernel_rfl).symm.trans hf)|>.symm
   obtain rfl:fn=Tryz.f8:=(Option.some.inj (Tryz.func8.symm.trans hfn)).symm;exact⟨by kernel_rfl,fun j t ht=>by
    rw[Tryz.params8]at ht;have h3:t=24\/t=25:=by
     rcases j with _|_|_|j
     ·exact .inl (by simpa using ht.symm)
     ·exact .inl (by simpa using ht.symm)
     ·exact .inr ((by simpa using ht.symm))
     ·simp at ht
    rcases h3 with rfl|rfl
    ·exact(show Tryz.prog.wantsStandIn 24=false by kernel_rfl)
    ·exact(show Tryz.prog.wantsStandIn 25=false by kernel_rfl)⟩)
  (by kernel_rfl)
#print axioms card_holds
end Go.Proofs.YtfdhicohflnjnaaGreatDoor
