/- A part of the run, by the kernel. No condition. -/
import Derived.Test.YteafbeealhpelaaGreatDoorConS1
import Derived.KernelRfl
set_option maxRecDepth 100000
set_option maxHeartbeats 0
namespace Go.AE
theorem ck1 : chunkK env 6000 start p1s p1L = told p1s p1L := by kernel_rfl
end Go.AE
