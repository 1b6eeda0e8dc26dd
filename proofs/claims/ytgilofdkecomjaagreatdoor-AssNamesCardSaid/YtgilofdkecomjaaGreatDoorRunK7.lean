/- A part of the run, by the kernel. No condition. -/
import Derived.Test.YtgilofdkecomjaaGreatDoorRunS2
import Derived.KernelRfl
set_option maxRecDepth 100000
set_option maxHeartbeats 0
namespace Go.AE
theorem ck7 : chunkF env 1290 (withLoops p6s p6L) p7s p7L = told p7s p7L := by kernel_rfl
end Go.AE
