/- A part of the run, by the kernel. No condition. -/
import Derived.Test.YteafbeealhpelaaGreatDoorConS1
import Derived.KernelRfl
set_option maxRecDepth 100000
set_option maxHeartbeats 0
namespace Go.AE
theorem ck3 : chunkK env 6000 (withLoops p2s p2L) p3s p3L = told p3s p3L := by kernel_rfl
end Go.AE
