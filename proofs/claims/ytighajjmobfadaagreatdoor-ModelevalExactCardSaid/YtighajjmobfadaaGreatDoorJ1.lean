/-
  A law of tapes on models holds at every input that the statement speaks of, under the conditions that its card names. Part J1.
-/
import Derived.Test.YtighajjmobfadaaGreatDoorTie
import Derived.Test.YtighajjmobfadaaGreatDoorCards
import Derived.Stop.Joined
import Derived.Test.YtighajjmobfadaaGreatDoorI1
set_option linter.all false
namespace Go.Proofs.YtighajjmobfadaaGreatDoor
open Go Go.Ab Go.ChangeShapes Go.WideShapes Go.ChangeAt Go.RowKit
theorem agJ:Rows.ModelevalExactSaid:=
 OpenClaim.holds_of_wide 5 Tryz.f5 rfl rfl rfl rfl rfl rfl rfl ⟨rfl,rfl,rfl,rfl,rfl⟩ rfl rfl rfl rfl rfl κ Tryz.func5 κ
  (of_decide_eq_true κ) (by unfold Func.isWrapper;first| (rw[if_pos (by decide+kernel)];kernel_rfl)| (rw[if_neg (by decide+kernel)];exact⟨rfl,rfl⟩))
  (fun os started H enc _=>aoK os started H enc)
theorem card_holds:Rows.ModelevalExactCardSaid :=
 Claim7.holds_tied_plain_at .later [] [.data] true (true, "0285987189151963ac53c7ebfdad233118f3b78c9c931dfb5521683655a285ab") false
  agJ (fun _ h=>by cases h) κ (fun _ h=>by cases h) modelevalExact_row_tie rfl ⟨rfl,rfl⟩ κ rfl
  (fun f fn hf hfn=>by
   obtain rfl:f=5:=Option.some.inj ((show Tryz.prog.funcNamed "flowpipe/flowpipelaw27.ModelevalExact" =some 5 by kernel_rfl).symm.trans hf)|>.symm
   obtain rfl:fn=Tryz.f5:=(Option.some.inj (Tryz.func5.symm.trans hfn)).symm;exact⟨by kernel_rfl,fun j t ht=>by
    rw[Tryz.params5]at ht;have h3:t=5\/t=55:=by
     rcases j with _|_|_|j
     ·exact .inl (by simpa using ht.symm)
     ·exact .inl (by simpa using ht.symm)
     ·exact .inr ((by simpa using ht.symm))
     ·simp at ht
    rcases h3 with rfl|rfl
    ·exact(show Tryz.prog.wantsStandIn 5=false by kernel_rfl)
    ·exact(show Tryz.prog.wantsStandIn 55=false by kernel_rfl)⟩)
  κ
#print axioms card_holds
end Go.Proofs.YtighajjmobfadaaGreatDoor
