/- A part of the run, by the kernel. No condition. -/
import Derived.Test.YtgilofdkecomjaaGreatDoorRunS2
import Derived.KernelRfl
set_option maxRecDepth 100000
set_option maxHeartbeats 0
namespace Go.AE
theorem ck6 : chunkF env 16000 (withLoops p5s p5L) p6s p6L = told p6s p6L := by kernel_rfl
end Go.AE
