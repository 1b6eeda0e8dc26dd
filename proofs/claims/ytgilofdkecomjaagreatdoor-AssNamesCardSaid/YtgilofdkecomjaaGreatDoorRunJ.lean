/- The run in one: the call gives true. No condition. -/
import Derived.Test.YtgilofdkecomjaaGreatDoorRunK1
import Derived.Test.YtgilofdkecomjaaGreatDoorRunK2
import Derived.Test.YtgilofdkecomjaaGreatDoorRunK3
import Derived.Test.YtgilofdkecomjaaGreatDoorRunK4
import Derived.Test.YtgilofdkecomjaaGreatDoorRunK5
import Derived.Test.YtgilofdkecomjaaGreatDoorRunK6
import Derived.Test.YtgilofdkecomjaaGreatDoorRunK7
import Derived.KernelRfl
set_option maxRecDepth 100000
set_option maxHeartbeats 0
namespace Go.AE
theorem goes {w0 : World} (G : Good prog env w0) (base : List Frame) : Goes prog env w0 base (lone (Frame.enter prog 3 ⟨[]⟩ .normal) base w0) (withLoops p7s p7L) := chunk_sound G ((chunkF_eq _ _ _ _ _).symm.trans ck7) (chunk_sound G ((chunkF_eq _ _ _ _ _).symm.trans ck6) (chunk_sound G ((chunkF_eq _ _ _ _ _).symm.trans ck5) (chunk_sound G ((chunkF_eq _ _ _ _ _).symm.trans ck4) (chunk_sound G ((chunkF_eq _ _ _ _ _).symm.trans ck3) (chunk_sound G ((chunkF_eq _ _ _ _ _).symm.trans ck2) (chunk_sound G ((chunkF_eq _ _ _ _ _).symm.trans ck1) (start_sound G rfl (by kernel_rfl))))))))
theorem calls {w0 : World} (G : Good prog env w0) : Calls prog 3 ⟨[]⟩ w0 fun e w' => e = .returned (.bool true) ∧ Go.RowKit.Below w0.heap.size w0 w' :=
  result_sound G (goes G) (by kernel_rfl)
end Go.AE
