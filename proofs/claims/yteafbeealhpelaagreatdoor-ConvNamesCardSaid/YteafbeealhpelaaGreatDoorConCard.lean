/- The law ConvNames answers true on every schedule, in every memory in which the listed tables lie as the program lays them: its card. No condition beside the given card. -/
import Derived.Test.YteafbeealhpelaaGreatDoorConW
import Derived.Test.YteafbeealhpelaaGreatDoorConF
import Derived.Test.YteafbeealhpelaaGreatDoorCards
import Derived.Test.YteafbeealhpelaaGreatDoorTie
import Derived.KernelRfl
set_option maxRecDepth 100000
set_option maxHeartbeats 0
namespace Go.Proofs.YteafbeealhpelaaGreatDoor.fnConvNames
open Go.ChangeShapes Go.WideShapes Go.ChangeAt Go.RowKit Go.AE
theorem said : Rows.ConvNamesSaid :=
  OpenClaim.holds_of_cond 4 Tryz.f4 rfl rfl rfl rfl rfl rfl rfl ⟨rfl, rfl, rfl, rfl, rfl⟩ rfl rfl rfl rfl rfl (by kernel_rfl) Tryz.func4 closed
    (of_decide_eq_true (by kernel_rfl)) (by unfold Func.isWrapper; first | (rw [if_pos (by decide +kernel)]; kernel_rfl) | (rw [if_neg (by decide +kernel)]; exact ⟨rfl, rfl⟩))
    (fun os started H enc _ F => by rw [OpenClaim.pre_eq_preRow]; exact lifted os started H enc F)
theorem looks : Tryz.prog.looks [] = true := by kernel_rfl
theorem plainCall (f : FuncId) (fn : Func) (hf : Tryz.pinned.checked.prog.funcNamed "surtitle/surtitlelaw18.ConvNames" = some f) (hfn : Tryz.pinned.checked.prog.funcs[f]? = some fn) :
    true = Tryz.pinned.checked.prog.looks [] ∧ ∀ (j : Nat) t, fn.params[j]? = some t → Tryz.pinned.checked.prog.wantsStandIn t = false := by
  obtain rfl : f = 4 := Option.some.inj ((show Tryz.prog.funcNamed "surtitle/surtitlelaw18.ConvNames" = some 4 by kernel_rfl).symm.trans hf) |>.symm
  obtain rfl : fn = Tryz.f4 := (Option.some.inj (Tryz.func4.symm.trans hfn)).symm
  refine ⟨looks.symm, fun j t ht => ?_⟩
  rw [Tryz.params4] at ht
  simp at ht
/-- The card. -/
theorem card_holds : Rows.ConvNamesCardSaid :=
  Claim7.holds_tied_plain_at .later [] _ _ _ _ said (fun _ h => by cases h) (by kernel_rfl) (fun _ h => by cases h) convNames_row_tie rfl ⟨rfl, rfl⟩ (by kernel_rfl) rfl plainCall (by kernel_rfl)
end Go.Proofs.YteafbeealhpelaaGreatDoor.fnConvNames
namespace Go.Proofs.YteafbeealhpelaaGreatDoor
theorem convNames_card : Rows.ConvNamesCardSaid := fnConvNames.card_holds
#print axioms convNames_card
end Go.Proofs.YteafbeealhpelaaGreatDoor

