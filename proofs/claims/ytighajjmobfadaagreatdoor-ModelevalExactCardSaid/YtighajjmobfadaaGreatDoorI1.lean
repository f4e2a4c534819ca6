/-
  A law of tapes on models holds at every input that the statement speaks of, under the conditions that its card names. Part I1.
-/
import Derived.Test.YtighajjmobfadaaGreatDoorTie
import Derived.Test.YtighajjmobfadaaGreatDoorCards
import Derived.Stop.Joined
import Derived.Test.YtighajjmobfadaaGreatDoorH1
open List renaming all_eq_true → azk
set_option linter.all false
namespace Go.Proofs.YtighajjmobfadaaGreatDoor
open Go Go.Ab Go.ChangeShapes Go.WideShapes Go.ChangeAt Go.RowKit
theorem tq:ownKnob Tryz.prog.godebug=none:=by kernel_rfl
theorem aml:laidOutB Tryz.prog=true:=by kernel_rfl
theorem ai9(os:Os)(args:Array Value):laidMetH Tryz.prog Ju ((World.doorLaid Tryz.prog 400 os).forCall (fun _ _=>0) ⟨#[],args,[]⟩).memory:=
 laidMetH_of_parts3 (fuel:=8) (laidMet_of_run' 8 κ κ) κ κ
theorem amm{H:Type}{enc:TypeId×Value->H}{W:World}{z0:Int}{z1:Int}{v2:Value}{d2:DataW H}{p2:List MemPlace}(hL:laidMetH Tryz.prog Ju W)
  (hb0:0<=z0/\z0<256) (hb1:0<=z1/\z1<256) (h2:DataW.Trod enc Tryz.prog W 0 (fun _=>true) true 55 v2 d2 p2) (hc2:v2.cells=#[v2])
  (hw:(DataW.weightsEach Tryz.prog [5,5,55] [.lit (.int .u8 z0),.lit (.int .u8 z1),d2]).all (·≤reachBytes)=true):
  Calls Tryz.prog 5 #[.int .u8 z0,.int .u8 z1,v2] W fun e W'=>e=.returned (.bool true)/\Below W.heap.size W W':=by
 have hwe:wOK 55 d2/\True:=by
  rw[azk]at hw;refine⟨fun m hm=>?_,trivial⟩
  ·have:=hw m (by simp only[DataW.weightsEach,List.mem_append];exact .inr (.inr (.inl hm)));simpa using this
 obtain⟨hT,hB⟩:=agH hL;obtain⟨n2,f2⟩:=h2;rw[hc2]at f2;obtain⟨a2,o2,r2⟩:=ami hB (v:=v2) f2 hwe.1;have aw:R F.l27_awake [] []=some (B true,[]):=aoi;refine agI (args:=[.v (.int .u8 z0),.v (.int .u8 z1),.sl 4 (GR a2)]) Tryz.func5 κ κ hL (ai4 hb0 hb1 o2.1 o2.2) rfl (fun i c u hc hu=>?_) ((enters_of Tryz.func5 κ rfl:Proofs.Enters Tryz.prog 5) _ _)
 match i,hc,hu with
 |0,hc,hu=>simp at hc hu;subst hc hu;exact .v _ rfl
 |1,hc,hu=>simp at hc hu;subst hc hu;exact .v _ rfl
 |2,hc,hu=>simp at hc hu;subst hc hu;exact r2
 |i+3,hc,hu=>simp at hc
set_option maxRecDepth 100000 in
theorem aoK(os:Os)(started:os.Started)(H:Type)(enc:TypeId×Value->H):
  ReturnsInHanded {} Tryz.checked os 5 .any (fun w args=>(Rows.modelevalExactSpec.pre enc Tryz.prog Tryz.f5 [] false w args/\laidMetH Tryz.prog Ju w)/\sizedMet enc Tryz.prog Tryz.f5 (OpenSpec.ofChange Rows.modelevalExactSpec) false w args)
   (Rows.modelevalExactSpec.post enc Tryz.prog Tryz.f5 false true false false):=by
 refine returnsInHanded_of_change_and (C:=Tryz.checked) (X:=fun w _=>laidMetH Tryz.prog Ju w) (fun _ _ _ hh h=>h.of_heap hh) tq started κ Tryz.func5
  (ChangeSpec.witness_shaped (enc:=enc) (C:=Tryz.checked) (os:=os) (X:=fun w _=>laidMetH Tryz.prog Ju w) false (World.doorLaid Tryz.prog 400 os) #[.int .u8 0,.int .u8 0,.slice none 0 0] 8 rfl (World.shaped_of_RefB κ κ) κ κ κ (ai9 os _)) ?_
 intro W base args ds gs before hval0 hW _ hsz hL _;have hval:∀ (j:Nat) t v,Tryz.f5.params[j]?=some t->args[j]?=some v->Value.okWide Tryz.prog W .any base t v:=hval0;have hW':=hW;obtain⟨p,q,hA0,hV,rfl,hfz,hnd⟩:=hW;have hA:DataW.TrodAll enc Tryz.prog W 0 (fun _=>true) true Tryz.f5.params.toList args.toList ds p:=hA0;rw[Tryz.params5]at hA hval hsz;obtain⟨v0,v1,v2,d0,d1,d2,p0,p1,p2,rfl,rfl,rfl,h0,h1,h2⟩:=trodAll_three hA;obtain⟨rfl,rfl⟩:=trodVars_none hV;clear hA0 hval0;obtain⟨z0,rfl,rfl,rfl,hwf0⟩:=open_int Tryz.underlying5 (hval 0 5 v0 rfl rfl) h0;obtain⟨z1,rfl,rfl,rfl,hwf1⟩:=open_int Tryz.underlying5 (hval 1 5 v1 rfl rfl) h1;obtain⟨b2,l2,c2,e2⟩:=okWide_slice Tryz.underlying55 (hval 2 55 v2 rfl rfl);have hlt2:∀x∈p2,x.block<W.heap.size:=fun x hx=>by simpa using hW'.lt x (by simp[hx])
 refine(amm hL (u8b hwf0) (u8b hwf1) h2 (by rw[e2];rfl) hsz).mono fun e W' hw=>?_;obtain⟨rfl,hb⟩:=hw;refine⟨_,rfl,_,_,_,[],[]++([]++(p2)),[],hW',?_,?_,rfl,hb.frame _,fun h=>by cases h⟩
 ·exact trodAll_mk1 (shut_bool Tryz.underlying4 _)
 ·exact trodAll_mk3 (shut_int Tryz.underlying5 hwf0) (shut_int Tryz.underlying5 hwf1) (Below.trod aml κ (of_decide_eq_true κ) h2 hb hlt2)
end Go.Proofs.YtighajjmobfadaaGreatDoor
