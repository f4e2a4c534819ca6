/-
  A law of tapes on models holds at every input that the statement speaks of, under the conditions that its card names. Part J1.
-/
import Derived.Test.YtaojbnikhbkleaaGreatDoorTie
import Derived.Test.YtaojbnikhbkleaaGreatDoorCards
import Derived.Stop.Joined
import Derived.Test.YtaojbnikhbkleaaGreatDoorI1
open List renaming all_eq_true → aFc
set_option linter.all false
namespace Go.Proofs.YtaojbnikhbkleaaGreatDoor
open Go Go.Ab Go.ChangeShapes Go.WideShapes Go.ChangeAt Go.RowKit
theorem wS:ownKnob Tryz.prog.godebug=none:=by kernel_rfl
theorem V8:laidOutB Tryz.prog=true:=by kernel_rfl
theorem aoB(os:Os)(args:Array Value):laidMetH Tryz.prog LQ ((World.doorLaid Tryz.prog 400 os).forCall (fun _ _=>0) ⟨#[],args,[]⟩).memory:=
 laidMetH_of_parts3 (fuel:=8) (laidMet_of_run' 8 κ κ) κ κ
theorem arZ{H:Type}{enc:TypeId×Value->H}{W:World}{us0:Array Value}{d0:DataW H}{p0:List MemPlace}{us1:Array Value}{d1:DataW H}{p1:List MemPlace}{v2:Value}{d2:DataW H}{p2:List MemPlace}(hL:laidMetH Tryz.prog LQ W)
  (h0:DataW.Trod enc Tryz.prog W 0 (fun _=>true) true 24 (.agg us0) d0 p0) (h1:DataW.Trod enc Tryz.prog W 0 (fun _=>true) true 46 (.agg us1) d1 p1) (h2:DataW.Trod enc Tryz.prog W 0 (fun _=>true) true 47 v2 d2 p2) (hc2:v2.cells=#[v2])
  (hw:(DataW.weightsEach Tryz.prog [24,46,47] [d0,d1,d2]).all (·≤reachBytes)=true):
  Calls Tryz.prog 4 #[.agg us0,.agg us1,v2] W fun e W'=>e=.returned (.bool true)/\Below W.heap.size W W':=by
 have hwe:tH 24 d0/\tH 46 d1/\tH 47 d2:=by
  rw[aFc]at hw;refine⟨fun m hm=>?_,fun m hm=>?_,fun m hm=>?_⟩
  ·have:=hw m (by simp only[DataW.weightsEach,List.mem_append];exact .inl hm);simpa using this
  ·have:=hw m (by simp only[DataW.weightsEach,List.mem_append];exact .inr (.inl hm));simpa using this
  ·have:=hw m (by simp only[DataW.weightsEach,List.mem_append];exact .inr (.inr (.inl hm)));simpa using this
 obtain⟨hT,hB⟩:=alI hL;obtain⟨n0,f0⟩:=h0;obtain⟨a0,o0,r0⟩:=alH hB (us:=us0) f0 hwe.1;obtain⟨n1,f1⟩:=h1;obtain⟨a1,o1,r1⟩:=aoy hB (us:=us1) f1 hwe.2.1;obtain⟨n2,f2⟩:=h2;rw[hc2]at f2;obtain⟨a2,o2,r2⟩:=arY hB (v:=v2) f2 hwe.2.2;have aw:R 16 [] []=some (B true,[]):=aAu;refine alJ (args:=[ej a0,Ug a1.1 a1.2.1 a1.2.2,.sl 9 (gh a2)]) Tryz.func4 κ κ hL (ax6 aw o0 o2.1 o2.2) rfl (fun i c u hc hu=>?_) ((enters_of Tryz.func4 κ rfl:Proofs.Enters Tryz.prog 4) _ _)
 match i,hc,hu with
 |0,hc,hu=>simp at hc hu;subst hc hu;exact r0
 |1,hc,hu=>simp at hc hu;subst hc hu;exact r1
 |2,hc,hu=>simp at hc hu;subst hc hu;exact r2
 |i+3,hc,hu=>simp at hc
set_option maxRecDepth 100000 in
theorem aur(os:Os)(started:os.Started)(H:Type)(enc:TypeId×Value->H):
  ReturnsInHanded {} Tryz.checked os 4 .any (fun w args=>(Rows.modelevalRunsSpec.pre enc Tryz.prog Tryz.f4 [] false w args/\laidMetH Tryz.prog LQ w)/\sizedMet enc Tryz.prog Tryz.f4 (OpenSpec.ofChange Rows.modelevalRunsSpec) false w args)
   (Rows.modelevalRunsSpec.post enc Tryz.prog Tryz.f4 false true false false):=by
 refine returnsInHanded_of_change_and (C:=Tryz.checked) (X:=fun w _=>laidMetH Tryz.prog LQ w) (fun _ _ _ hh h=>h.of_heap hh) wS started κ Tryz.func4
  (ChangeSpec.witness_shaped (enc:=enc) (C:=Tryz.checked) (os:=os) (X:=fun w _=>laidMetH Tryz.prog LQ w) false (World.doorLaid Tryz.prog 400 os) #[.agg #[.slice none 0 0,.int .i64 0,.int .i64 0],.agg #[.int .i64 0,.slice none 0 0,.slice none 0 0],.slice none 0 0] 8 rfl (World.shaped_of_RefB κ κ) κ κ κ (aoB os _)) ?_
 intro W base args ds gs before hval0 hW _ hsz hL _;have hval:∀ (j:Nat) t v,Tryz.f4.params[j]?=some t->args[j]?=some v->Value.okWide Tryz.prog W .any base t v:=hval0;have hW':=hW;obtain⟨p,q,hA0,hV,rfl,hfz,hnd⟩:=hW;have hA:DataW.TrodAll enc Tryz.prog W 0 (fun _=>true) true Tryz.f4.params.toList args.toList ds p:=hA0;rw[Tryz.params4]at hA hval hsz;obtain⟨v0,v1,v2,d0,d1,d2,p0,p1,p2,rfl,rfl,rfl,h0,h1,h2⟩:=trodAll_three hA;obtain⟨rfl,rfl⟩:=trodVars_none hV;clear hA0 hval0;obtain⟨us0,rfl,_⟩:=okWide_struct Tryz.underlying24 (hval 0 24 v0 Z Z);obtain⟨us1,rfl,_⟩:=okWide_struct Tryz.underlying46 (hval 1 46 v1 Z Z);obtain⟨b2,l2,c2,e2⟩:=okWide_slice Tryz.underlying47 (hval 2 47 v2 Z Z);have hlt0:∀x∈p0,x.block<W.heap.size:=fun x hx=>by simpa using hW'.lt x (by simp[hx])
 have hlt1:∀x∈p1,x.block<W.heap.size:=fun x hx=>by simpa using hW'.lt x (by simp[hx])
 have hlt2:∀x∈p2,x.block<W.heap.size:=fun x hx=>by simpa using hW'.lt x (by simp[hx])
 refine(arZ hL h0 h1 h2 (by rw[e2];rfl) hsz).mono fun e W' hw=>?_;obtain⟨rfl,hb⟩:=hw;refine⟨_,rfl,_,_,_,[],p0++(p1++(p2)),[],hW',?_,?_,rfl,hb.frame _,fun h=>by cases h⟩
 ·exact trodAll_mk1 (shut_bool Tryz.underlying4 _)
 ·exact trodAll_mk3 (Below.trod V8 κ (of_decide_eq_true κ) h0 hb hlt0) (Below.trod V8 κ (of_decide_eq_true κ) h1 hb hlt1) (Below.trod V8 κ (of_decide_eq_true κ) h2 hb hlt2)
end Go.Proofs.YtaojbnikhbkleaaGreatDoor
