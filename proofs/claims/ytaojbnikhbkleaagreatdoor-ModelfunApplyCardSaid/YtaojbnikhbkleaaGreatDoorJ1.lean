/-
  ModelfunApply holds at every input of its card. Part J1.
-/
import Derived.Test.YtaojbnikhbkleaaGreatDoorTie
import Derived.Test.YtaojbnikhbkleaaGreatDoorCards
import Derived.Stop.Joined
import Derived.Test.YtaojbnikhbkleaaGreatDoorI1
open List renaming length → O, all_eq_true → aFc
set_option linter.all false
namespace Go.Proofs.YtaojbnikhbkleaaGreatDoor
open Go Go.Ab Go.ChangeShapes Go.WideShapes Go.ChangeAt Go.RowKit
variable{H:Type}{P:Program}{held:Bool}{p3:List MemPlace}{spare:Nat->Bool}{t0 t1:TypeId}{w:World}
def wS:ownKnob Tryz.prog.godebug=none:=by kernel_rfl
def V8:laidOutB Tryz.prog=true:=by kernel_rfl
def aoB(os:Os)(args:Array Value):laidMetH Tryz.prog LQ ((World.doorLaid Tryz.prog 400 os).forCall (fun _ _=>0) ⟨#[],args,[]⟩).memory:=
 laidMetH_of_parts3 (fuel:=8) (laidMet_of_run' 8 κ κ) κ κ
def acq{enc:TypeId×Value->H}{base:Nat}{t2 t3:TypeId}{v0 v1 v2 v3:Value}{d0 d1 d2 d3:DataW H}{p0 p1 p2:List MemPlace}(h0:DataW.Trod enc P w base spare held t0 v0 d0 p0)(h1:DataW.Trod enc P w base spare held t1 v1 d1 p1)(h2:DataW.Trod enc P w base spare held t2 v2 d2 p2)(h3:DataW.Trod enc P w base spare held t3 v3 d3 p3):DataW.TrodAll enc P w base spare held [t0,t1,t2,t3] [v0,v1,v2,v3] [d0,d1,d2,d3] (p0++(p1++(p2++p3))):=
 ⟨p0,p1++(p2++p3),h0,trodAll_mk3 h1 h2 h3,rfl⟩
def aJr{enc:TypeId×Value->H}{base:Nat}{t2 t3 t4:TypeId}{args:Array Value}{ds:List (DataW H)}{ps:List MemPlace}(h:DataW.TrodAll enc P w base spare held [t0,t1,t2,t3,t4] args.toList ds ps):
  ∃v0 v1 v2 v3 v4 d0 d1 d2 d3 d4 p0 p1 p2 p3 p4,args=#[v0,v1,v2,v3,v4]/\ds=[d0,d1,d2,d3,d4]/\ps=p0++p1++p2++p3++p4/\DataW.Trod enc P w base spare held t0 v0 d0 p0/\DataW.Trod enc P w base spare held t1 v1 d1 p1/\DataW.Trod enc P w base spare held t2 v2 d2 p2/\DataW.Trod enc P w base spare held t3 v3 d3 p3/\DataW.Trod enc P w base spare held t4 v4 d4 p4:=by
 obtain⟨v0,w0,d0,e0,p0,q0,hargs,rfl,rfl,k0,r0⟩:=trodAll_cons h;obtain⟨v1,w1,d1,e1,p1,q1,rfl,rfl,rfl,k1,r1⟩:=trodAll_cons r0;obtain⟨v2,w2,d2,e2,p2,q2,rfl,rfl,rfl,k2,r2⟩:=trodAll_cons r1;obtain⟨v3,w3,d3,e3,p3,q3,rfl,rfl,rfl,k3,r3⟩:=trodAll_cons r2;obtain⟨v4,w4,d4,e4,p4,q4,rfl,rfl,rfl,k4,r4⟩:=trodAll_cons r3;obtain⟨rfl,rfl,rfl⟩:=trodAll_nil r4;exact⟨v0,v1,v2,v3,v4,d0,d1,d2,d3,d4,p0,p1,p2,p3,p4,by cases args;simp_all,rfl,by simp,k0,k1,k2,k3,k4⟩
def aIk{enc:TypeId×Value->H}{base:Nat}{t2 t3 t4:TypeId}{v0 v1 v2 v3 v4:Value}{d0 d1 d2 d3 d4:DataW H}{p0 p1 p2 p4:List MemPlace}(h0:DataW.Trod enc P w base spare held t0 v0 d0 p0)(h1:DataW.Trod enc P w base spare held t1 v1 d1 p1)(h2:DataW.Trod enc P w base spare held t2 v2 d2 p2)(h3:DataW.Trod enc P w base spare held t3 v3 d3 p3)(h4:DataW.Trod enc P w base spare held t4 v4 d4 p4):DataW.TrodAll enc P w base spare held [t0,t1,t2,t3,t4] [v0,v1,v2,v3,v4] [d0,d1,d2,d3,d4] (p0++(p1++(p2++(p3++p4)))):=
 ⟨p0,p1++(p2++(p3++p4)),h0,acq h1 h2 h3 h4,rfl⟩
def arZ{enc:TypeId×Value->H}{W:World}{us0:Array Value}{d0:DataW H}{p0:List MemPlace}{z1:Int}{z2:Int}{us3:Array Value}{d3:DataW H}{p3:List MemPlace}{us4:Array Value}{d4:DataW H}{p4:List MemPlace}(hL:laidMetH Tryz.prog LQ W)
  (h0:DataW.Trod enc Tryz.prog W 0 (fun _=>true) true 24 (.agg us0) d0 p0) (h3:DataW.Trod enc Tryz.prog W 0 (fun _=>true) true 34 (.agg us3) d3 p3) (h4:DataW.Trod enc Tryz.prog W 0 (fun _=>true) true 34 (.agg us4) d4 p4)
  (hw:(DataW.weightsEach Tryz.prog [24,3,3,34,34] [d0,.lit (.int .i64 z1),.lit (.int .i64 z2),d3,d4]).all (·≤reachBytes)=true):
  Calls Tryz.prog 3 #[.agg us0,.int .i64 z1,.int .i64 z2,.agg us3,.agg us4] W fun e W'=>e=.returned (.bool true)/\Below W.heap.size W W':=by
 have hwe:tH 24 d0/\tH 34 d3/\tH 34 d4:=by
  rw[aFc]at hw;refine⟨fun m hm=>?_,fun m hm=>?_,fun m hm=>?_⟩
  ·have:=hw m (by simp only[DataW.weightsEach,List.mem_append];exact .inl hm);simpa using this
  ·have:=hw m (by simp only[DataW.weightsEach,List.mem_append];exact .inr (.inr (.inr (.inl hm))));simpa using this
  ·have:=hw m (by simp only[DataW.weightsEach,List.mem_append];exact .inr (.inr (.inr (.inr (.inl hm)))));simpa using this
 obtain⟨hT,hB⟩:=alI hL;obtain⟨n0,f0⟩:=h0;obtain⟨a0,o0,r0⟩:=alH hB (us:=us0) f0 hwe.1;obtain⟨n3,f3⟩:=h3;obtain⟨a3,o3,r3⟩:=aHS hB (us:=us3) f3 hwe.2.1;obtain⟨n4,f4⟩:=h4;obtain⟨a4,o4,r4⟩:=aHS hB (us:=us4) f4 hwe.2.2;have aw:R 6 [] []=some (B true,[]):=aMo;refine alJ (args:=[ej a0,I z1,I z2,bB a3,bB a4]) Tryz.func3 κ κ hL (aKu aw o0 o3 o4) rfl (fun i c u hc hu=>?_) ((enters_of Tryz.func3 κ rfl:Proofs.Enters Tryz.prog 3) _ _)
 match i,hc,hu with
 |0,hc,hu=>simp at hc hu;subst hc hu;exact r0
 |1,hc,hu=>simp at hc hu;subst hc hu;exact .v _ rfl
 |2,hc,hu=>simp at hc hu;subst hc hu;exact .v _ rfl
 |3,hc,hu=>simp at hc hu;subst hc hu;exact r3
 |4,hc,hu=>simp at hc hu;subst hc hu;exact r4
 |i+5,hc,hu=>simp at hc
set_option maxRecDepth 100000 in
def aur(os:Os)(started:os.Started)(H:Type)(enc:TypeId×Value->H):
  ReturnsInHanded {} Tryz.checked os 3 .any (fun w args=>(Rows.modelfunApplySpec.pre enc Tryz.prog Tryz.f3 [] false w args/\laidMetH Tryz.prog LQ w)/\sizedMet enc Tryz.prog Tryz.f3 (OpenSpec.ofChange Rows.modelfunApplySpec) false w args)
   (Rows.modelfunApplySpec.post enc Tryz.prog Tryz.f3 false true false false):=by
 refine returnsInHanded_of_change_and (C:=Tryz.checked) (X:=fun w _=>laidMetH Tryz.prog LQ w) (fun _ _ _ hh h=>h.of_heap hh) wS started κ Tryz.func3
  (ChangeSpec.witness_shaped (enc:=enc) (C:=Tryz.checked) (os:=os) (X:=fun w _=>laidMetH Tryz.prog LQ w) false (World.doorLaid Tryz.prog 400 os) #[.agg #[.slice none 0 0,.int .i64 0,.int .i64 0],.int .i64 0,.int .i64 0,.agg #[.int .i64 0,.slice none 0 0,.bool false,.slice none 0 0,.int .i64 0,.bool false,.slice none 0 0,.int .i64 0,.bool false],.agg #[.int .i64 0,.slice none 0 0,.bool false,.slice none 0 0,.int .i64 0,.bool false,.slice none 0 0,.int .i64 0,.bool false]] 8 rfl (World.shaped_of_RefB κ κ) κ κ κ (aoB os _)) ?_
 intro W base args ds gs before hval0 hW _ hsz hL _;have hval:∀ (j:Nat) t v,Tryz.f3.params[j]?=some t->args[j]?=some v->Value.okWide Tryz.prog W .any base t v:=hval0;have hW':=hW;obtain⟨p,q,hA0,hV,rfl,hfz,hnd⟩:=hW;have hA:DataW.TrodAll enc Tryz.prog W 0 (fun _=>true) true Tryz.f3.params.toList args.toList ds p:=hA0;rw[Tryz.params3]at hA hval hsz;obtain⟨v0,v1,v2,v3,v4,d0,d1,d2,d3,d4,p0,p1,p2,p3,p4,rfl,rfl,rfl,h0,h1,h2,h3,h4⟩:=aJr hA;obtain⟨rfl,rfl⟩:=trodVars_none hV;clear hA0 hval0;obtain⟨us0,rfl,_⟩:=okWide_struct Tryz.underlying24 (hval 0 24 v0 Z Z);obtain⟨z1,rfl,rfl,rfl,hwf1⟩:=open_int Tryz.underlying3 (hval 1 3 v1 Z Z) h1;obtain⟨z2,rfl,rfl,rfl,hwf2⟩:=open_int Tryz.underlying3 (hval 2 3 v2 Z Z) h2;obtain⟨us3,rfl,_⟩:=okWide_struct Tryz.underlying34 (hval 3 34 v3 Z Z);obtain⟨us4,rfl,_⟩:=okWide_struct Tryz.underlying34 (hval 4 34 v4 Z Z);have hlt0:∀x∈p0,x.block<W.heap.size:=fun x hx=>by simpa using hW'.lt x (by simp[hx])
 have hlt3:∀x∈p3,x.block<W.heap.size:=fun x hx=>by simpa using hW'.lt x (by simp[hx])
 have hlt4:∀x∈p4,x.block<W.heap.size:=fun x hx=>by simpa using hW'.lt x (by simp[hx])
 refine(arZ hL h0 h3 h4 hsz).mono fun e W' hw=>?_;obtain⟨rfl,hb⟩:=hw;refine⟨_,rfl,_,_,_,[],p0++([]++([]++(p3++(p4)))),[],hW',?_,?_,rfl,hb.frame _,fun h=>by cases h⟩
 ·exact trodAll_mk1 (shut_bool Tryz.underlying4 _)
 ·exact aIk (Below.trod V8 κ (of_decide_eq_true κ) h0 hb hlt0) (shut_int Tryz.underlying3 hwf1) (shut_int Tryz.underlying3 hwf2) (Below.trod V8 κ (of_decide_eq_true κ) h3 hb hlt3) (Below.trod V8 κ (of_decide_eq_true κ) h4 hb hlt4)
end Go.Proofs.YtaojbnikhbkleaaGreatDoor
