/- Closed facts of the program that the card of each of its laws asks, each by the kernel in a declaration of its own: one for all asks more memory than a text may take. -/
import Derived.Test.YteafbeealhpelaaGreatDoorTie
import Derived.JoinedOf
import Derived.KernelRfl
set_option maxRecDepth 100000
set_option maxHeartbeats 0
namespace Go.Proofs.YteafbeealhpelaaGreatDoor
open Go
theorem factLaid : laidOutB Tryz.prog = true := by kernel_rfl
theorem factMaps : mapsRowed Tryz.prog = true := by kernel_rfl
theorem factKeys : Tryz.prog.plainKeys = true := by kernel_rfl
theorem factHeard : Tryz.prog.stopsHeard = true := by kernel_rfl
theorem factEnter : Tryz.prog.mayEnter = true := by kernel_rfl
theorem factLifts : Tryz.prog.liftsFinal = false := by kernel_rfl
end Go.Proofs.YteafbeealhpelaaGreatDoor
