/-
  A law of models holds at every input that the statement speaks of, under the conditions that its card names. Part J1.
-/
import Derived.Test.YtdhfcpbpdmmphaaGreatDoorTie
import Derived.Test.YtdhfcpbpdmmphaaGreatDoorCards
import Derived.Stop.Joined
import Derived.Test.YtdhfcpbpdmmphaaGreatDoorI1
open Bool renaming and_eq_true → ayf
set_option linter.all false
namespace Go.Proofs.YtdhfcpbpdmmphaaGreatDoor
open Go Go.Ab Go.ChangeShapes Go.WideShapes Go.ChangeAt Go.RowKit
set_option maxRecDepth 100000 in
set_option maxHeartbeats 4000000 in
theorem agz:Rows.ModelSoundSaid:=
 OpenClaim.holds_of_wide 8 Tryz.f8 rfl rfl rfl rfl rfl rfl rfl ⟨rfl,rfl,rfl,rfl,rfl⟩ rfl rfl rfl rfl rfl κ Tryz.func8 (by simp only[joinedFacts,ayf];(repeat' apply And.intro);all_goals as_aux_lemma=>kernel_rfl)
  (of_decide_eq_true κ) (by unfold Func.isWrapper;first| (rw[if_pos (by decide+kernel)];kernel_rfl)| (rw[if_neg (by decide+kernel)];exact⟨rfl,rfl⟩))
  (fun os started H enc _=>an4 os started H enc)
theorem card_holds:Rows.ModelSoundCardSaid :=
 Claim7.holds_tied_plain_at .later [] [.data] true (true, "dfde46a7b4f5938c968913083c1679e75c3d346192a141cf9ee95b4bfb7ec359") false
  agz (fun _ h=>by cases h) κ (fun _ h=>by cases h) modelSound_row_tie rfl ⟨rfl,rfl⟩ κ rfl
  (fun f fn hf hfn=>by
   obtain rfl:f=8:=Option.some.inj ((show Tryz.prog.funcNamed "flowpipe/flowpipelaw25.ModelSound" =some 8 by kernel_rfl).symm.trans hf)|>.symm
   obtain rfl:fn=Tryz.f8:=(Option.some.inj (Tryz.func8.symm.trans hfn)).symm;exact⟨by kernel_rfl,fun j t ht=>by
    rw[Tryz.params8]at ht;have h3:t=24\/t=30\/t=32\/t=34\/t=35:=by
     rcases j with _|_|_|_|_|_|_|j
     ·exact .inl (by simpa using ht.symm)
     ·exact .inr (.inr (.inr (.inl (by simpa using ht.symm))))
     ·exact .inr (.inr (.inr (.inl (by simpa using ht.symm))))
     ·exact .inr (.inr (.inr (.inr ((by simpa using ht.symm)))))
     ·exact .inr (.inl (by simpa using ht.symm))
     ·exact .inr (.inl (by simpa using ht.symm))
     ·exact .inr (.inr (.inl (by simpa using ht.symm)))
     ·simp at ht
    rcases h3 with rfl|rfl|rfl|rfl|rfl
    ·exact(show Tryz.prog.wantsStandIn 24=false by kernel_rfl)
    ·exact(show Tryz.prog.wantsStandIn 30=false by kernel_rfl)
    ·exact(show Tryz.prog.wantsStandIn 32=false by kernel_rfl)
    ·exact(show Tryz.prog.wantsStandIn 34=false by kernel_rfl)
    ·exact(show Tryz.prog.wantsStandIn 35=false by kernel_rfl)⟩)
  κ
#print axioms card_holds
end Go.Proofs.YtdhfcpbpdmmphaaGreatDoor
