/- The run in one: the call gives true. No condition. -/
import Derived.Test.YteafbeealhpelaaGreatDoorConK1
import Derived.Test.YteafbeealhpelaaGreatDoorConK2
import Derived.Test.YteafbeealhpelaaGreatDoorConK3
import Derived.Test.YteafbeealhpelaaGreatDoorConK4
import Derived.KernelRfl
set_option maxRecDepth 100000
set_option maxHeartbeats 0
namespace Go.AE
theorem goes {w0 : World} (G : Good prog env w0) (base : List Frame) : Goes prog env w0 base (lone (Frame.enter prog 4 ⟨[]⟩ .normal) base w0) (withLoops p4s p4L) := chunkK_sound G ck4 (chunkK_sound G ck3 (chunkK_sound G ck2 (chunkK_sound G ck1 (start_sound G rfl (by kernel_rfl)))))
theorem calls {w0 : World} (G : Good prog env w0) : Calls prog 4 ⟨[]⟩ w0 fun e w' => e = .returned (.bool true) ∧ Go.RowKit.Below w0.heap.size w0 w' :=
  result_sound G (goes G) (by kernel_rfl)
end Go.AE
