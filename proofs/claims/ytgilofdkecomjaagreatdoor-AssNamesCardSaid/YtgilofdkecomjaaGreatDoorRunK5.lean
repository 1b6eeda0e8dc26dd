/- A part of the run, by the kernel. No condition. -/
import Derived.Test.YtgilofdkecomjaaGreatDoorRunS1
import Derived.Test.YtgilofdkecomjaaGreatDoorRunS2
import Derived.KernelRfl
set_option maxRecDepth 100000
set_option maxHeartbeats 0
namespace Go.AE
theorem ck5 : chunkF env 16000 (withLoops p4s p4L) p5s p5L = told p5s p5L := by kernel_rfl
end Go.AE
