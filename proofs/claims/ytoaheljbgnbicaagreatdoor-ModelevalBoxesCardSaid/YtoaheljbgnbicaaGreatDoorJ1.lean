/-
  A law of tapes on models holds at every input that the statement speaks of, under the conditions that its card names. Part J1.
-/
import Derived.Test.YtoaheljbgnbicaaGreatDoorTie
import Derived.Test.YtoaheljbgnbicaaGreatDoorCards
import Derived.Stop.Joined
import Derived.Test.YtoaheljbgnbicaaGreatDoorI1
set_option linter.all false
namespace Go.Proofs.YtoaheljbgnbicaaGreatDoor
open Go Go.Ab Go.ChangeShapes Go.WideShapes Go.ChangeAt Go.RowKit
theorem adL:Rows.ModelevalBoxesSaid:=
 OpenClaim.holds_of_wide 3 Tryz.f3 rfl rfl rfl rfl rfl rfl rfl ⟨rfl,rfl,rfl,rfl,rfl⟩ rfl rfl rfl rfl rfl κ Tryz.func3 κ
  (of_decide_eq_true κ) (by unfold Func.isWrapper;first| (rw[if_pos (by decide+kernel)];kernel_rfl)| (rw[if_neg (by decide+kernel)];exact⟨rfl,rfl⟩))
  (fun os started H enc _=>als os started H enc)
theorem card_holds:Rows.ModelevalBoxesCardSaid :=
 Claim7.holds_tied_plain_at .later [] [.data] true (true, "f95958cc3fbc52fdcd42aeded22bf73a434ac573b27fe1e751f9c2ba66764b11") false
  adL (fun _ h=>by cases h) κ (fun _ h=>by cases h) modelevalBoxes_row_tie rfl ⟨rfl,rfl⟩ κ rfl
  (fun f fn hf hfn=>by
   obtain rfl:f=3:=Option.some.inj ((show Tryz.prog.funcNamed "flowpipe/flowpipelaw27.ModelevalBoxes" =some 3 by kernel_rfl).symm.trans hf)|>.symm
   obtain rfl:fn=Tryz.f3:=(Option.some.inj (Tryz.func3.symm.trans hfn)).symm;exact⟨by kernel_rfl,fun j t ht=>by
    rw[Tryz.params3]at ht;have h3:t=22\/t=24\/t=25:=by
     rcases j with _|_|_|_|j
     ·exact .inr (.inl (by simpa using ht.symm))
     ·exact .inr (.inr ((by simpa using ht.symm)))
     ·exact .inl (by simpa using ht.symm)
     ·exact .inl (by simpa using ht.symm)
     ·simp at ht
    rcases h3 with rfl|rfl|rfl
    ·exact(show Tryz.prog.wantsStandIn 22=false by kernel_rfl)
    ·exact(show Tryz.prog.wantsStandIn 24=false by kernel_rfl)
    ·exact(show Tryz.prog.wantsStandIn 25=false by kernel_rfl)⟩)
  κ
#print axioms card_holds
end Go.Proofs.YtoaheljbgnbicaaGreatDoor
