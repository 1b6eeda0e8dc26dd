/- The closed facts of the law VttNames that its card asks, each by the kernel in a declaration of its own. -/
import Derived.Test.YteafbeealhpelaaGreatDoorFacts
import Derived.Test.YteafbeealhpelaaGreatDoorCards
set_option maxRecDepth 100000
set_option maxHeartbeats 0
namespace Go.Proofs.YteafbeealhpelaaGreatDoor.fnVttNames
open Go
theorem rIn : (Rows.vttNamesRow.inPlace == Tryz.prog.inPlace 3) = true := by kernel_rfl
theorem rUn : (Rows.vttNamesRow.unfollowed == Tryz.prog.unfollowed 3) = true := by kernel_rfl
theorem rRe : (Rows.vttNamesRow.recurses == Tryz.prog.recurses 3) = true := by kernel_rfl
theorem rNa : (Rows.vttNamesRow.named == Tryz.prog.varsNamed 3) = true := by kernel_rfl
theorem closed : joinedFacts Tryz.prog 3 Tryz.f3 (OpenSpec.ofChange Rows.vttNamesSpec).bare Rows.vttNamesRow = true := by
  unfold joinedFacts
  rw [factLaid, factMaps, factKeys, factHeard, factEnter, factLifts, rIn, rUn, rRe, rNa]
  kernel_rfl
end Go.Proofs.YteafbeealhpelaaGreatDoor.fnVttNames
