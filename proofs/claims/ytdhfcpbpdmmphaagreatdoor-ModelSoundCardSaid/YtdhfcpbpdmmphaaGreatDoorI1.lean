/-
  A law of models holds at every input that the statement speaks of, under the conditions that its card names. Part I1.
-/
import Derived.Test.YtdhfcpbpdmmphaaGreatDoorTie
import Derived.Test.YtdhfcpbpdmmphaaGreatDoorCards
import Derived.Stop.Joined
import Derived.Test.YtdhfcpbpdmmphaaGreatDoorH1
open List renaming all_eq_true → ayx, mem_append → aDh
set_option linter.all false
namespace Go.Proofs.YtdhfcpbpdmmphaaGreatDoor
open Go Go.Ab Go.ChangeShapes Go.WideShapes Go.ChangeAt Go.RowKit
theorem sy:ownKnob Tryz.prog.godebug=none:=by kernel_rfl
theorem RM:laidOutB Tryz.prog=true:=by kernel_rfl
theorem aiP(os:Os)(args:Array Value):laidMetH Tryz.prog Is ((World.doorLaid Tryz.prog 400 os).forCall (fun _ _=>0) ⟨#[],args,[]⟩).memory:=
 laidMetH_of_parts3 (fuel:=8) (laidMet_of_run' 8 κ κ) κ κ
theorem X9{H:Type}{enc:TypeId×Value->H}{P:Program}{w:World}{base:Nat}{spare:Nat->Bool}{held:Bool}{t0 t1 t2 t3:TypeId}{v0 v1 v2 v3:Value}{d0 d1 d2 d3:DataW H}{p0 p1 p2 p3:List MemPlace}(h0:DataW.Trod enc P w base spare held t0 v0 d0 p0)(h1:DataW.Trod enc P w base spare held t1 v1 d1 p1)(h2:DataW.Trod enc P w base spare held t2 v2 d2 p2)(h3:DataW.Trod enc P w base spare held t3 v3 d3 p3):DataW.TrodAll enc P w base spare held [t0,t1,t2,t3] [v0,v1,v2,v3] [d0,d1,d2,d3] (p0++(p1++(p2++p3))):=
 ⟨p0,p1++(p2++p3),h0,trodAll_mk3 h1 h2 h3,rfl⟩
theorem aBd{H:Type}{enc:TypeId×Value->H}{P:Program}{w:World}{base:Nat}{spare:Nat->Bool}{held:Bool}{t0 t1 t2 t3 t4:TypeId}{v0 v1 v2 v3 v4:Value}{d0 d1 d2 d3 d4:DataW H}{p0 p1 p2 p3 p4:List MemPlace}(h0:DataW.Trod enc P w base spare held t0 v0 d0 p0)(h1:DataW.Trod enc P w base spare held t1 v1 d1 p1)(h2:DataW.Trod enc P w base spare held t2 v2 d2 p2)(h3:DataW.Trod enc P w base spare held t3 v3 d3 p3)(h4:DataW.Trod enc P w base spare held t4 v4 d4 p4):DataW.TrodAll enc P w base spare held [t0,t1,t2,t3,t4] [v0,v1,v2,v3,v4] [d0,d1,d2,d3,d4] (p0++(p1++(p2++(p3++p4)))):=
 ⟨p0,p1++(p2++(p3++p4)),h0,X9 h1 h2 h3 h4,rfl⟩
theorem aDY{H:Type}{enc:TypeId×Value->H}{P:Program}{w:World}{base:Nat}{spare:Nat->Bool}{held:Bool}{t0 t1 t2 t3 t4 t5:TypeId}{v0 v1 v2 v3 v4 v5:Value}{d0 d1 d2 d3 d4 d5:DataW H}{p0 p1 p2 p3 p4 p5:List MemPlace}(h0:DataW.Trod enc P w base spare held t0 v0 d0 p0)(h1:DataW.Trod enc P w base spare held t1 v1 d1 p1)(h2:DataW.Trod enc P w base spare held t2 v2 d2 p2)(h3:DataW.Trod enc P w base spare held t3 v3 d3 p3)(h4:DataW.Trod enc P w base spare held t4 v4 d4 p4)(h5:DataW.Trod enc P w base spare held t5 v5 d5 p5):DataW.TrodAll enc P w base spare held [t0,t1,t2,t3,t4,t5] [v0,v1,v2,v3,v4,v5] [d0,d1,d2,d3,d4,d5] (p0++(p1++(p2++(p3++(p4++p5))))):=
 ⟨p0,p1++(p2++(p3++(p4++p5))),h0,aBd h1 h2 h3 h4 h5,rfl⟩
theorem aEa{H:Type}{enc:TypeId×Value->H}{P:Program}{w:World}{base:Nat}{spare:Nat->Bool}{held:Bool}{t0 t1 t2 t3 t4 t5 t6:TypeId}{args:Array Value}{ds:List (DataW H)}{ps:List MemPlace}(h:DataW.TrodAll enc P w base spare held [t0,t1,t2,t3,t4,t5,t6] args.toList ds ps):
  ∃v0 v1 v2 v3 v4 v5 v6 d0 d1 d2 d3 d4 d5 d6 p0 p1 p2 p3 p4 p5 p6,args=#[v0,v1,v2,v3,v4,v5,v6]/\ds=[d0,d1,d2,d3,d4,d5,d6]/\ps=p0++p1++p2++p3++p4++p5++p6/\DataW.Trod enc P w base spare held t0 v0 d0 p0/\DataW.Trod enc P w base spare held t1 v1 d1 p1/\DataW.Trod enc P w base spare held t2 v2 d2 p2/\DataW.Trod enc P w base spare held t3 v3 d3 p3/\DataW.Trod enc P w base spare held t4 v4 d4 p4/\DataW.Trod enc P w base spare held t5 v5 d5 p5/\DataW.Trod enc P w base spare held t6 v6 d6 p6:=by
 obtain⟨v0,w0,d0,e0,p0,q0,hargs,rfl,rfl,k0,r0⟩:=trodAll_cons h;obtain⟨v1,w1,d1,e1,p1,q1,rfl,rfl,rfl,k1,r1⟩:=trodAll_cons r0;obtain⟨v2,w2,d2,e2,p2,q2,rfl,rfl,rfl,k2,r2⟩:=trodAll_cons r1;obtain⟨v3,w3,d3,e3,p3,q3,rfl,rfl,rfl,k3,r3⟩:=trodAll_cons r2;obtain⟨v4,w4,d4,e4,p4,q4,rfl,rfl,rfl,k4,r4⟩:=trodAll_cons r3;obtain⟨v5,w5,d5,e5,p5,q5,rfl,rfl,rfl,k5,r5⟩:=trodAll_cons r4;obtain⟨v6,w6,d6,e6,p6,q6,rfl,rfl,rfl,k6,r6⟩:=trodAll_cons r5;obtain⟨rfl,rfl,rfl⟩:=trodAll_nil r6;exact⟨v0,v1,v2,v3,v4,v5,v6,d0,d1,d2,d3,d4,d5,d6,p0,p1,p2,p3,p4,p5,p6,by cases args;simp_all,rfl,by simp,k0,k1,k2,k3,k4,k5,k6⟩
theorem aDZ{H:Type}{enc:TypeId×Value->H}{P:Program}{w:World}{base:Nat}{spare:Nat->Bool}{held:Bool}{t0 t1 t2 t3 t4 t5 t6:TypeId}{v0 v1 v2 v3 v4 v5 v6:Value}{d0 d1 d2 d3 d4 d5 d6:DataW H}{p0 p1 p2 p3 p4 p5 p6:List MemPlace}(h0:DataW.Trod enc P w base spare held t0 v0 d0 p0)(h1:DataW.Trod enc P w base spare held t1 v1 d1 p1)(h2:DataW.Trod enc P w base spare held t2 v2 d2 p2)(h3:DataW.Trod enc P w base spare held t3 v3 d3 p3)(h4:DataW.Trod enc P w base spare held t4 v4 d4 p4)(h5:DataW.Trod enc P w base spare held t5 v5 d5 p5)(h6:DataW.Trod enc P w base spare held t6 v6 d6 p6):DataW.TrodAll enc P w base spare held [t0,t1,t2,t3,t4,t5,t6] [v0,v1,v2,v3,v4,v5,v6] [d0,d1,d2,d3,d4,d5,d6] (p0++(p1++(p2++(p3++(p4++(p5++p6)))))):=
 ⟨p0,p1++(p2++(p3++(p4++(p5++p6)))),h0,aDY h1 h2 h3 h4 h5 h6,rfl⟩
theorem alK{H:Type}{enc:TypeId×Value->H}{W:World}{us0:Array Value}{d0:DataW H}{p0:List MemPlace}{us1:Array Value}{d1:DataW H}{p1:List MemPlace}{us2:Array Value}{d2:DataW H}{p2:List MemPlace}{v3:Value}{d3:DataW H}{p3:List MemPlace}{us4:Array Value}{d4:DataW H}{p4:List MemPlace}{us5:Array Value}{d5:DataW H}{p5:List MemPlace}{us6:Array Value}{d6:DataW H}{p6:List MemPlace}(hL:laidMetH Tryz.prog Is W)
  (h0:DataW.Trod enc Tryz.prog W 0 (fun _=>true) true 24 (.agg us0) d0 p0) (h1:DataW.Trod enc Tryz.prog W 0 (fun _=>true) true 34 (.agg us1) d1 p1) (h2:DataW.Trod enc Tryz.prog W 0 (fun _=>true) true 34 (.agg us2) d2 p2) (h3:DataW.Trod enc Tryz.prog W 0 (fun _=>true) true 35 v3 d3 p3) (hc3:v3.cells=#[v3]) (h4:DataW.Trod enc Tryz.prog W 0 (fun _=>true) true 30 (.agg us4) d4 p4) (h5:DataW.Trod enc Tryz.prog W 0 (fun _=>true) true 30 (.agg us5) d5 p5) (h6:DataW.Trod enc Tryz.prog W 0 (fun _=>true) true 32 (.agg us6) d6 p6)
  (hw:(DataW.weightsEach Tryz.prog [24,34,34,35,30,30,32] [d0,d1,d2,d3,d4,d5,d6]).all (·≤reachBytes)=true):
  Calls Tryz.prog 8 #[.agg us0,.agg us1,.agg us2,v3,.agg us4,.agg us5,.agg us6] W fun e W'=>e=.returned (.bool true)/\Below W.heap.size W W':=by
 have hwe:tp 24 d0/\tp 34 d1/\tp 34 d2/\tp 35 d3/\tp 30 d4/\tp 30 d5/\tp 32 d6:=by
  rw[ayx]at hw;refine⟨fun m hm=>?_,fun m hm=>?_,fun m hm=>?_,fun m hm=>?_,fun m hm=>?_,fun m hm=>?_,fun m hm=>?_⟩
  ·have:=hw m (by simp only[DataW.weightsEach,aDh];exact .inl hm);simpa using this
  ·have:=hw m (by simp only[DataW.weightsEach,aDh];exact .inr (.inl hm));simpa using this
  ·have:=hw m (by simp only[DataW.weightsEach,aDh];exact .inr (.inr (.inl hm)));simpa using this
  ·have:=hw m (by simp only[DataW.weightsEach,aDh];exact .inr (.inr (.inr (.inl hm))));simpa using this
  ·have:=hw m (by simp only[DataW.weightsEach,aDh];exact .inr (.inr (.inr (.inr (.inl hm)))));simpa using this
  ·have:=hw m (by simp only[DataW.weightsEach,aDh];exact .inr (.inr (.inr (.inr (.inr (.inl hm))))));simpa using this
  ·have:=hw m (by simp only[DataW.weightsEach,aDh];exact .inr (.inr (.inr (.inr (.inr (.inr (.inl hm)))))));simpa using this
 obtain⟨hT,hB⟩:=agi hL;obtain⟨n0,f0⟩:=h0;obtain⟨a0,o0,r0⟩:=agf hB (us:=us0) f0 hwe.1;obtain⟨n1,f1⟩:=h1;obtain⟨a1,o1,r1⟩:=agh hB (us:=us1) f1 hwe.2.1;obtain⟨n2,f2⟩:=h2;obtain⟨a2,o2,r2⟩:=agh hB (us:=us2) f2 hwe.2.2.1;obtain⟨n3,f3⟩:=h3;rw[hc3]at f3;obtain⟨a3,o3,r3⟩:=aCz hB (v:=v3) f3 hwe.2.2.2.1;obtain⟨n4,f4⟩:=h4;obtain⟨a4,o4,r4⟩:=az2 hB (us:=us4) f4 hwe.2.2.2.2.1;obtain⟨n5,f5⟩:=h5;obtain⟨a5,o5,r5⟩:=az2 hB (us:=us5) f5 hwe.2.2.2.2.2.1;obtain⟨n6,f6⟩:=h6;obtain⟨a6,o6,r6⟩:=alq hB (us:=us6) f6 hwe.2.2.2.2.2.2;have aw:R fbw [] []=some (B true,[]):=atY;refine agj (args:=[mM a0,fh a1,fh a2,Cf a3,ae a4,ae a5,am a6]) Tryz.func8 κ κ hL (aEl aw o0 o1 o2 o3.1 o3.2 o4 o5 o6) rfl (fun i c u hc hu=>?_) ((enters_of Tryz.func8 κ rfl:Proofs.Enters Tryz.prog 8) _ _)
 match i,hc,hu with
 |0,hc,hu=>simp at hc hu;subst hc hu;exact r0
 |1,hc,hu=>simp at hc hu;subst hc hu;exact r1
 |2,hc,hu=>simp at hc hu;subst hc hu;exact r2
 |3,hc,hu=>simp at hc hu;subst hc hu;exact r3
 |4,hc,hu=>simp at hc hu;subst hc hu;exact r4
 |5,hc,hu=>simp at hc hu;subst hc hu;exact r5
 |6,hc,hu=>simp at hc hu;subst hc hu;exact r6
 |i+7,hc,hu=>simp at hc
set_option maxRecDepth 100000 in
theorem an4(os:Os)(started:os.Started)(H:Type)(enc:TypeId×Value->H):
  ReturnsInHanded {} Tryz.checked os 8 .any (fun w args=>(Rows.modelSoundSpec.pre enc Tryz.prog Tryz.f8 [] false w args/\laidMetH Tryz.prog Is w)/\sizedMet enc Tryz.prog Tryz.f8 (OpenSpec.ofChange Rows.modelSoundSpec) false w args)
   (Rows.modelSoundSpec.post enc Tryz.prog Tryz.f8 false true false false):=by
 refine returnsInHanded_of_change_and (C:=Tryz.checked) (X:=fun w _=>laidMetH Tryz.prog Is w) (fun _ _ _ hh h=>h.of_heap hh) sy started κ Tryz.func8
  (ChangeSpec.witness_shaped (enc:=enc) (C:=Tryz.checked) (os:=os) (X:=fun w _=>laidMetH Tryz.prog Is w) false (World.doorLaid Tryz.prog 400 os) #[.agg #[.slice none 0 0,.int .i64 0,.int .i64 0],.agg #[.int .i64 0,.slice none 0 0,.bool false,.slice none 0 0,.int .i64 0,.bool false,.slice none 0 0,.int .i64 0,.bool false],.agg #[.int .i64 0,.slice none 0 0,.bool false,.slice none 0 0,.int .i64 0,.bool false,.slice none 0 0,.int .i64 0,.bool false],.slice none 0 0,.agg #[.bool false,.slice none 0 0,.int .i64 0],.agg #[.bool false,.slice none 0 0,.int .i64 0],.agg #[.bool false,.slice none 0 0,.int .i64 0,.bool false,.slice none 0 0,.int .i64 0,.bool false]] 8 rfl (World.shaped_of_RefB κ κ) κ κ κ (aiP os _)) ?_
 intro W base args ds gs before hval0 hW _ hsz hL _;have hval:∀ (j:Nat) t v,Tryz.f8.params[j]?=some t->args[j]?=some v->Value.okWide Tryz.prog W .any base t v:=hval0;have hW':=hW;obtain⟨p,q,hA0,hV,rfl,hfz,hnd⟩:=hW;have hA:DataW.TrodAll enc Tryz.prog W 0 (fun _=>true) true Tryz.f8.params.toList args.toList ds p:=hA0;rw[Tryz.params8]at hA hval hsz;obtain⟨v0,v1,v2,v3,v4,v5,v6,d0,d1,d2,d3,d4,d5,d6,p0,p1,p2,p3,p4,p5,p6,rfl,rfl,rfl,h0,h1,h2,h3,h4,h5,h6⟩:=aEa hA;obtain⟨rfl,rfl⟩:=trodVars_none hV;clear hA0 hval0;obtain⟨us0,rfl,_⟩:=okWide_struct Tryz.underlying24 (hval 0 24 v0 rfl rfl);obtain⟨us1,rfl,_⟩:=okWide_struct Tryz.underlying34 (hval 1 34 v1 rfl rfl);obtain⟨us2,rfl,_⟩:=okWide_struct Tryz.underlying34 (hval 2 34 v2 rfl rfl);obtain⟨b3,l3,c3,e3⟩:=okWide_slice Tryz.underlying35 (hval 3 35 v3 rfl rfl);obtain⟨us4,rfl,_⟩:=okWide_struct Tryz.underlying30 (hval 4 30 v4 rfl rfl);obtain⟨us5,rfl,_⟩:=okWide_struct Tryz.underlying30 (hval 5 30 v5 rfl rfl);obtain⟨us6,rfl,_⟩:=okWide_struct Tryz.underlying32 (hval 6 32 v6 rfl rfl);have hlt0:∀x∈p0,x.block<W.heap.size:=fun x hx=>by simpa using hW'.lt x (by simp[hx])
 have hlt1:∀x∈p1,x.block<W.heap.size:=fun x hx=>by simpa using hW'.lt x (by simp[hx])
 have hlt2:∀x∈p2,x.block<W.heap.size:=fun x hx=>by simpa using hW'.lt x (by simp[hx])
 have hlt3:∀x∈p3,x.block<W.heap.size:=fun x hx=>by simpa using hW'.lt x (by simp[hx])
 have hlt4:∀x∈p4,x.block<W.heap.size:=fun x hx=>by simpa using hW'.lt x (by simp[hx])
 have hlt5:∀x∈p5,x.block<W.heap.size:=fun x hx=>by simpa using hW'.lt x (by simp[hx])
 have hlt6:∀x∈p6,x.block<W.heap.size:=fun x hx=>by simpa using hW'.lt x (by simp[hx])
 refine(alK hL h0 h1 h2 h3 (by rw[e3];rfl) h4 h5 h6 hsz).mono fun e W' hw=>?_;obtain⟨rfl,hb⟩:=hw;refine⟨_,rfl,_,_,_,[],p0++(p1++(p2++(p3++(p4++(p5++(p6)))))),[],hW',?_,?_,rfl,hb.frame _,fun h=>by cases h⟩
 ·exact trodAll_mk1 (shut_bool Tryz.underlying4 _)
 ·exact aDZ (Below.trod RM κ (of_decide_eq_true κ) h0 hb hlt0) (Below.trod RM κ (of_decide_eq_true κ) h1 hb hlt1) (Below.trod RM κ (of_decide_eq_true κ) h2 hb hlt2) (Below.trod RM κ (of_decide_eq_true κ) h3 hb hlt3) (Below.trod RM κ (of_decide_eq_true κ) h4 hb hlt4) (Below.trod RM κ (of_decide_eq_true κ) h5 hb hlt5) (Below.trod RM κ (of_decide_eq_true κ) h6 hb hlt6)
end Go.Proofs.YtdhfcpbpdmmphaaGreatDoor
