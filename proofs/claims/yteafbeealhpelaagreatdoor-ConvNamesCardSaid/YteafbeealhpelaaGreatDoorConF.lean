/- The closed facts of the law ConvNames that its card asks, each by the kernel in a declaration of its own. -/
import Derived.Test.YteafbeealhpelaaGreatDoorFacts
import Derived.Test.YteafbeealhpelaaGreatDoorCards
set_option maxRecDepth 100000
set_option maxHeartbeats 0
namespace Go.Proofs.YteafbeealhpelaaGreatDoor.fnConvNames
open Go
theorem rIn : (Rows.convNamesRow.inPlace == Tryz.prog.inPlace 4) = true := by kernel_rfl
theorem rUn : (Rows.convNamesRow.unfollowed == Tryz.prog.unfollowed 4) = true := by kernel_rfl
theorem rRe : (Rows.convNamesRow.recurses == Tryz.prog.recurses 4) = true := by kernel_rfl
theorem rNa : (Rows.convNamesRow.named == Tryz.prog.varsNamed 4) = true := by kernel_rfl
theorem closed : joinedFacts Tryz.prog 4 Tryz.f4 (OpenSpec.ofChange Rows.convNamesSpec).bare Rows.convNamesRow = true := by
  unfold joinedFacts
  rw [factLaid, factMaps, factKeys, factHeard, factEnter, factLifts, rIn, rUn, rRe, rNa]
  kernel_rfl
end Go.Proofs.YteafbeealhpelaaGreatDoor.fnConvNames
