/- A part of the run, by the kernel. No condition. -/
import Derived.Test.YteafbeealhpelaaGreatDoorConS1
import Derived.KernelRfl
set_option maxRecDepth 100000
set_option maxHeartbeats 0
namespace Go.AE
theorem ck4 : chunkK env 4292 (withLoops p3s p3L) p4s p4L = told p4s p4L := by kernel_rfl
end Go.AE
