/-
  A law of tapes on models holds at every input that the statement speaks of, under the conditions that its card names. Part K1.
-/
import Derived.Test.YtighajjmobfadaaGreatDoorTie
import Derived.Test.YtighajjmobfadaaGreatDoorCards
import Derived.Stop.Joined
import Derived.Test.YtighajjmobfadaaGreatDoorJ1
set_option linter.all false
namespace Go.Proofs.YtighajjmobfadaaGreatDoor
open Go Go.Ab Go.ChangeShapes Go.WideShapes Go.ChangeAt Go.RowKit
theorem ajq:Rows.ModelfunPowersSaid:=
 OpenClaim.holds_of_wide 4 Tryz.f4 rfl rfl rfl rfl rfl rfl rfl ⟨rfl,rfl,rfl,rfl,rfl⟩ rfl rfl rfl rfl rfl κ Tryz.func4 κ
  (of_decide_eq_true κ) (by unfold Func.isWrapper;first| (rw[if_pos (by decide+kernel)];kernel_rfl)| (rw[if_neg (by decide+kernel)];exact⟨rfl,rfl⟩))
  (fun os started H enc _=>ar5 os started H enc)
theorem card_holds:Rows.ModelfunPowersCardSaid :=
 Claim7.holds_tied_plain_at .later [] [.data] true (true, "0285987189151963ac53c7ebfdad233118f3b78c9c931dfb5521683655a285ab") false
  ajq (fun _ h=>by cases h) κ (fun _ h=>by cases h) modelfunPowers_row_tie rfl ⟨rfl,rfl⟩ κ rfl
  (fun f fn hf hfn=>by
   obtain rfl:f=4:=Option.some.inj ((show Tryz.prog.funcNamed "flowpipe/flowpipelaw26.ModelfunPowers" =some 4 by kernel_rfl).symm.trans hf)|>.symm
   obtain rfl:fn=Tryz.f4:=(Option.some.inj (Tryz.func4.symm.trans hfn)).symm;exact⟨by kernel_rfl,fun j t ht=>by
    rw[Tryz.params4]at ht;have h3:t=5\/t=24\/t=34\/t=35:=by
     rcases j with _|_|_|_|j
     ·exact .inr (.inl (by simpa using ht.symm))
     ·exact .inr (.inr (.inl (by simpa using ht.symm)))
     ·exact .inl (by simpa using ht.symm)
     ·exact .inr (.inr (.inr ((by simpa using ht.symm))))
     ·simp at ht
    rcases h3 with rfl|rfl|rfl|rfl
    ·exact(show Tryz.prog.wantsStandIn 5=false by kernel_rfl)
    ·exact(show Tryz.prog.wantsStandIn 24=false by kernel_rfl)
    ·exact(show Tryz.prog.wantsStandIn 34=false by kernel_rfl)
    ·exact(show Tryz.prog.wantsStandIn 35=false by kernel_rfl)⟩)
  κ
#print axioms card_holds
end Go.Proofs.YtighajjmobfadaaGreatDoor
