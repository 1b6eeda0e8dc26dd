/- What the row of the law ConvNames asks beside its contract: a world that fits. No condition. -/
import Derived.Test.YteafbeealhpelaaGreatDoorConG
set_option maxRecDepth 100000
set_option maxHeartbeats 0
namespace Go.Proofs.YteafbeealhpelaaGreatDoor.fnConvNames
open Go.ChangeShapes Go.WideShapes Go.ChangeAt Go.RowKit Go.AE
/-- A world for the witness: the listed tables hold what the program lays. -/
noncomputable def lay (g : Nat) (cs : List Value) (w : World) : World := { w with heap := w.heap.modify g fun
      | .cells _ t frozen => .cells ⟨cs⟩ t frozen
      | o => o }
noncomputable def laidWorld (os : Os) : World := (lay 7 (intsL .u8 [0, 1, 56, 2, 57, 49, 28, 3, 61, 58, 42, 50, 38, 29, 17, 4, 62, 47, 59, 36, 45, 43, 51, 22, 53, 39, 33, 30, 24, 18, 12, 5, 63, 55, 48, 27, 60, 41, 37, 16, 46, 35, 44, 21, 52, 32, 23, 11, 54, 26, 40, 15, 34, 20, 31, 10, 25, 14, 19, 9, 13, 8, 7, 6]) (lay 6 (intsL .u8 [0, 1, 28, 2, 29, 14, 24, 3, 30, 22, 20, 15, 25, 17, 4, 8, 31, 27, 13, 23, 21, 19, 16, 7, 26, 12, 18, 6, 11, 5, 10, 9]) (lay 2 (intsL .u8 [128, 191, 160, 191, 128, 159, 144, 191, 128, 143, 0, 0, 0, 0, 0, 0, 0, 0, 0, 0, 0, 0, 0, 0, 0, 0, 0, 0, 0, 0, 0, 0]) (lay 1 (Pinned.utf8FirstZ.map fun n : Nat => Value.int .u8 n) (lay 3 (intsL .u64 [1, 10, 100, 1000, 10000, 100000, 1000000, 10000000, 100000000, 1000000000, 10000000000, 100000000000, 1000000000000, 10000000000000, 100000000000000, 1000000000000000, 10000000000000000, 100000000000000000, 1000000000000000000, 10000000000000000000]) (World.holding Tryz.prog os ⟨#[], #[], []⟩))))))
theorem laid_met (os : Os) : laidMetH Tryz.prog Rows.convNamesRow.laid ((laidWorld os).forCall (fun _ _ => 0) ⟨#[], #[], []⟩).memory := by
  rw [MakeChecks.laidMetH_plain _ _ _ (by kernel_rfl)]
  exact laidMet_of_run' 8 (by kernel_rfl) (by kernel_rfl)
theorem reads (os : Os) {H : Type} (enc : TypeId × Value → H) : ∃ places, DataW.whole enc Tryz.prog ((laidWorld os).forCall (fun _ _ => 0) ⟨#[], #[], []⟩).memory Tryz.f4.params.toList Rows.convNamesSpec.vars false (#[] : Array Value).toList 8 = some ([], [], places) :=
  ⟨[], by kernel_rfl⟩
theorem lifted (os : Os) (started : os.Started) (H : Type) (enc : TypeId × Value → H) (F : Stop.Interp) :
    ReturnsInHanded {} Tryz.checked os 4 .any ((OpenSpec.ofChange Rows.convNamesSpec).preRow enc Tryz.prog Tryz.f4 Rows.convNamesRow.domain false Rows.convNamesRow.laid) (((OpenSpec.ofChange Rows.convNamesSpec).at F).post enc Tryz.prog Tryz.f4 false true false false) := by
  obtain ⟨places, hx⟩ := reads os enc
  refine returnsInHanded_of_row (C := Tryz.checked) (s := OpenSpec.ofChange Rows.convNamesSpec) own started (by kernel_rfl) Tryz.func4
    (witness_row_at (enc := enc) (C := Tryz.checked) false (laidWorld os) #[] rfl (by kernel_rfl) (by kernel_rfl) (by kernel_rfl)
      (OpenSpec.preRow_of_cond 8 hx (by kernel_rfl) (fun k hk => by cases hk) (by kernel_rfl) (laid_met os))) ?_
  intro W base args ds gs before hval hW _ _ _ hL hsh _
  exact contract H enc W args ds gs before hW hL hsh
end Go.Proofs.YteafbeealhpelaaGreatDoor.fnConvNames
