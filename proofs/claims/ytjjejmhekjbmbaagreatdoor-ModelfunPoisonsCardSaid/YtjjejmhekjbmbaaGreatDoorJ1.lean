/-
  A law of tapes on models holds at every input that the statement speaks of, under the conditions that its card names. Part J1.
-/
import Derived.Test.YtjjejmhekjbmbaaGreatDoorTie
import Derived.Test.YtjjejmhekjbmbaaGreatDoorCards
import Derived.Stop.Joined
import Derived.Test.YtjjejmhekjbmbaaGreatDoorI1
open Bool renaming and_eq_true → aBk
set_option linter.all false
namespace Go.Proofs.YtjjejmhekjbmbaaGreatDoor
open Go Go.Ab Go.ChangeShapes Go.WideShapes Go.ChangeAt Go.RowKit
set_option maxRecDepth 100000 in
set_option maxHeartbeats 4000000 in
theorem ahZ:Rows.ModelfunPoisonsSaid:=
 OpenClaim.holds_of_wide 3 Tryz.f3 Z Z Z Z Z Z Z ⟨rfl,rfl,rfl,rfl,rfl⟩ Z Z Z Z Z κ Tryz.func3 (by simp only[joinedFacts,aBk];(repeat' apply And.intro);all_goals as_aux_lemma=>kernel_rfl)
  (of_decide_eq_true κ) (by unfold Func.isWrapper;first| (rw[if_pos (by decide+kernel)];kernel_rfl)| (rw[if_neg (by decide+kernel)];exact⟨rfl,rfl⟩))
  (fun os started H enc _=>aqH os started H enc)
theorem card_holds:Rows.ModelfunPoisonsCardSaid :=
 Claim7.holds_tied_plain_at .later [] [.data, .data] true (true, "32552876128a4d24b7a237cfe65e7b72226d2fdf67b9d85cefc56e513ee79d8f") false
  ahZ (fun _ h=>by cases h) κ (fun _ h=>by cases h) modelfunPoisons_row_tie rfl ⟨rfl,rfl⟩ κ rfl
  (fun f fn hf hfn=>by
   obtain rfl:f=3:=Option.some.inj ((show Tryz.prog.funcNamed "flowpipe/flowpipelaw26.ModelfunPoisons" =some 3 by kernel_rfl).symm.trans hf)|>.symm
   obtain rfl:fn=Tryz.f3:=(Option.some.inj (Tryz.func3.symm.trans hfn)).symm;exact⟨by kernel_rfl,fun j t ht=>by
    rw[Tryz.params3]at ht;have h3:t=5\/t=24\/t=34:=by
     rcases j with _|_|_|_|j
     ·exact .inr (.inl (by simpa using ht.symm))
     ·exact .inr (.inr ((by simpa using ht.symm)))
     ·exact .inr (.inr ((by simpa using ht.symm)))
     ·exact .inl (by simpa using ht.symm)
     ·simp at ht
    rcases h3 with rfl|rfl|rfl
    ·exact(show Tryz.prog.wantsStandIn 5=false by kernel_rfl)
    ·exact(show Tryz.prog.wantsStandIn 24=false by kernel_rfl)
    ·exact(show Tryz.prog.wantsStandIn 34=false by kernel_rfl)⟩)
  κ
#print axioms card_holds
end Go.Proofs.YtjjejmhekjbmbaaGreatDoor
