/-
  A law of polynomials' texts holds at every input that the statement speaks of, under the conditions that its card names. Part J1.
-/
import Derived.Test.YtdfjinjlmbjkpaaGreatDoorTie
import Derived.Test.YtdfjinjlmbjkpaaGreatDoorCards
import Derived.Stop.Joined
import Derived.Test.YtdfjinjlmbjkpaaGreatDoorI1
set_option linter.all false
namespace Go.Proofs.YtdfjinjlmbjkpaaGreatDoor
open Go Go.Ab Go.ChangeShapes Go.WideShapes Go.ChangeAt Go.RowKit
theorem aaK:Rows.PolyTextsSaid:=
 OpenClaim.holds_of_wide 3 Tryz.f3 rfl rfl rfl rfl rfl rfl rfl ⟨rfl,rfl,rfl,rfl,rfl⟩ rfl rfl rfl rfl rfl (by kernel_rfl) Tryz.func3 (by kernel_rfl)
  (of_decide_eq_true (by kernel_rfl)) (by unfold Func.isWrapper;first| (rw[if_pos (by decide+kernel)];kernel_rfl)| (rw[if_neg (by decide+kernel)];exact⟨rfl,rfl⟩))
  (fun os started H enc _=>ac4 os started H enc)
theorem card_holds:Rows.PolyTextsCardSaid :=
 Claim7.holds_tied_plain_at .later [] [.data, .data, .data] true (true, "cfe1d6b66a84003803daaa544d716484259969ee9db6ca77ce50900820d3f583") false
  aaK (fun _ h=>by cases h) (by kernel_rfl) (fun _ h=>by cases h) polyTexts_row_tie rfl ⟨rfl,rfl⟩ (by kernel_rfl) rfl
  (fun f fn hf hfn=>by
   obtain rfl:f=3:=Option.some.inj ((show Tryz.prog.funcNamed "flowpipe/flowpipelaw23.PolyTexts" =some 3 by kernel_rfl).symm.trans hf)|>.symm
   obtain rfl:fn=Tryz.f3:=(Option.some.inj (Tryz.func3.symm.trans hfn)).symm;exact⟨by kernel_rfl,fun j t ht=>by
    rw[Tryz.params3]at ht;have h3:t=24\/t=25:=by
     rcases j with _|_|j
     ·exact .inl (by simpa using ht.symm)
     ·exact .inr ((by simpa using ht.symm))
     ·simp at ht
    rcases h3 with rfl|rfl
    ·exact(show Tryz.prog.wantsStandIn 24=false by kernel_rfl)
    ·exact(show Tryz.prog.wantsStandIn 25=false by kernel_rfl)⟩)
  (by kernel_rfl)
#print axioms card_holds
end Go.Proofs.YtdfjinjlmbjkpaaGreatDoor
