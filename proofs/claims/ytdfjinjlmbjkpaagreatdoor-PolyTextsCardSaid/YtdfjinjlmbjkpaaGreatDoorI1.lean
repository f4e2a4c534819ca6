/-
  A law of polynomials' texts holds at every input that the statement speaks of, under the conditions that its card names. Part I1.
-/
import Derived.Test.YtdfjinjlmbjkpaaGreatDoorTie
import Derived.Test.YtdfjinjlmbjkpaaGreatDoorCards
import Derived.Stop.Joined
import Derived.Test.YtdfjinjlmbjkpaaGreatDoorH1
open List renaming all_eq_true → ad1
set_option linter.all false
namespace Go.Proofs.YtdfjinjlmbjkpaaGreatDoor
open Go Go.Ab Go.ChangeShapes Go.WideShapes Go.ChangeAt Go.RowKit
theorem uO:ownKnob Tryz.prog.godebug=none:=by kernel_rfl
theorem Yb:laidOutB Tryz.prog=true:=by kernel_rfl
theorem abM(os:Os)(args:Array Value):laidMetH Tryz.prog TK ((World.doorLaid Tryz.prog 400 os).forCall (fun _ _=>0) ⟨#[],args,[]⟩).memory:=
 laidMetH_of_parts3 (fuel:=8) (laidMet_of_run' 8 (by kernel_rfl) (by kernel_rfl)) (by kernel_rfl) (by kernel_rfl)
theorem acE{H:Type}{enc:TypeId×Value->H}{W:World}{us0:Array Value}{d0:DataW H}{p0:List MemPlace}{v1:Value}{d1:DataW H}{p1:List MemPlace}(hL:laidMetH Tryz.prog TK W)
  (h0:DataW.Trod enc Tryz.prog W 0 (fun _=>true) true 24 (.agg us0) d0 p0) (h1:DataW.Trod enc Tryz.prog W 0 (fun _=>true) true 25 v1 d1 p1) (hc1:v1.cells=#[v1])
  (hw:(DataW.weightsEach Tryz.prog [24,25] [d0,d1]).all (·≤reachBytes)=true):
  Calls Tryz.prog 3 #[.agg us0,v1] W fun e W'=>e=.returned (.bool true)/\Below W.heap.size W W':=by
 have hwe:Sn 24 d0/\Sn 25 d1:=by
  rw[ad1]at hw;refine⟨fun m hm=>?_,fun m hm=>?_⟩
  ·have:=hw m (by simp only[DataW.weightsEach,List.mem_append];exact .inl hm);simpa using this
  ·have:=hw m (by simp only[DataW.weightsEach,List.mem_append];exact .inr (.inl hm));simpa using this
 obtain⟨hT,hB⟩:=aay hL;obtain⟨n0,f0⟩:=h0;obtain⟨a0,o0,r0⟩:=abE hB (us:=us0) f0 hwe.1;obtain⟨n1,f1⟩:=h1;rw[hc1]at f1;obtain⟨a1,o1,r1⟩:=abF hB (v:=v1) f1 hwe.2;have aw:R1 F.l23_awake [] []=some (B true,[]):=adz;refine aaz (args:=[Rg a0,.sl 1 (JC a1)]) Tryz.func3 (by kernel_rfl) (by kernel_rfl) hL (abw aw o0.1 o0.2 o1.1 o1.2) rfl (fun i c u hc hu=>?_) ((enters_of Tryz.func3 (by kernel_rfl) rfl:Proofs.Enters Tryz.prog 3) _ _)
 match i,hc,hu with
 |0,hc,hu=>simp at hc hu;subst hc hu;exact r0
 |1,hc,hu=>simp at hc hu;subst hc hu;exact r1
 |i+2,hc,hu=>simp at hc
set_option maxRecDepth 100000 in
theorem ac4(os:Os)(started:os.Started)(H:Type)(enc:TypeId×Value->H):
  ReturnsInHanded {} Tryz.checked os 3 .any (fun w args=>(Rows.polyTextsSpec.pre enc Tryz.prog Tryz.f3 [] false w args/\laidMetH Tryz.prog TK w)/\sizedMet enc Tryz.prog Tryz.f3 (OpenSpec.ofChange Rows.polyTextsSpec) false w args)
   (Rows.polyTextsSpec.post enc Tryz.prog Tryz.f3 false true false false):=by
 refine returnsInHanded_of_change_and (C:=Tryz.checked) (X:=fun w _=>laidMetH Tryz.prog TK w) (fun _ _ _ hh h=>h.of_heap hh) uO started (by kernel_rfl) Tryz.func3
  (ChangeSpec.witness_shaped (enc:=enc) (C:=Tryz.checked) (os:=os) (X:=fun w _=>laidMetH Tryz.prog TK w) false (World.doorLaid Tryz.prog 400 os) #[.agg #[.int .i64 0,.slice none 0 0],.slice none 0 0] 8 rfl (World.shaped_of_RefB (by kernel_rfl) (by kernel_rfl)) (by kernel_rfl) (by kernel_rfl) (by kernel_rfl) (abM os _)) ?_
 intro W base args ds gs before hval0 hW _ hsz hL _;have hval:∀ (j:Nat) t v,Tryz.f3.params[j]?=some t->args[j]?=some v->Value.okWide Tryz.prog W .any base t v:=hval0;have hW':=hW;obtain⟨p,q,hA0,hV,rfl,hfz,hnd⟩:=hW;have hA:DataW.TrodAll enc Tryz.prog W 0 (fun _=>true) true Tryz.f3.params.toList args.toList ds p:=hA0;rw[Tryz.params3]at hA hval hsz;obtain⟨v0,v1,d0,d1,p0,p1,rfl,rfl,rfl,h0,h1⟩:=trodAll_two hA;obtain⟨rfl,rfl⟩:=trodVars_none hV;clear hA0 hval0;obtain⟨us0,rfl,_⟩:=okWide_struct Tryz.underlying24 (hval 0 24 v0 rfl rfl);obtain⟨b1,l1,c1,e1⟩:=okWide_slice Tryz.underlying25 (hval 1 25 v1 rfl rfl);have hlt0:∀x∈p0,x.block<W.heap.size:=fun x hx=>by simpa using hW'.lt x (by simp[hx])
 have hlt1:∀x∈p1,x.block<W.heap.size:=fun x hx=>by simpa using hW'.lt x (by simp[hx])
 refine(acE hL h0 h1 (by rw[e1];rfl) hsz).mono fun e W' hw=>?_;obtain⟨rfl,hb⟩:=hw;refine⟨_,rfl,_,_,_,[],p0++(p1),[],hW',?_,?_,rfl,hb.frame _,fun h=>by cases h⟩
 ·exact trodAll_mk1 (shut_bool Tryz.underlying4 _)
 ·exact trodAll_mk2 (Below.trod Yb (by kernel_rfl) (of_decide_eq_true (by kernel_rfl)) h0 hb hlt0) (Below.trod Yb (by kernel_rfl) (of_decide_eq_true (by kernel_rfl)) h1 hb hlt1)
end Go.Proofs.YtdfjinjlmbjkpaaGreatDoor
