/- The program's tables for the abstract machine, and where the run begins. No condition. -/
import Derived.Test.YteafbeealhpelaaGreatDoorAfD
import Derived.Test.YteafbeealhpelaaGreatDoorProg
set_option maxRecDepth 100000
set_option maxHeartbeats 0
namespace Go.AE
noncomputable def cfgExt : List (Nat × ExtK) := [(180, .same), (182, .spec 0), (212, .indexByte), (217, .count), (246, .add64), (262, .aload .u32), (272, .astore), (277, .nop0), (278, .acas .i32), (279, .nop0), (280, .nop1), (282, .nop1), (283, .aadd .i32)]
noncomputable def cfgMeth : List (Nat × List (String × FuncId)) := [(81, [("Parse", 311), ("Write", 312)]), (370, [("Replace", 352)])]
noncomputable def cfgEqs : List (Nat × List Ty) := [(34, [(.int .i64), (.int .i64)]), (137, [.bool, .bool, .bool, .bool, (.int .i64)]), (213, [(.int .u64), (.int .u64)])]
noncomputable def cfgByte : Nat := 5
noncomputable def cfgGlob : List (Nat × List Value) := [(3, intsL .u64 [1, 10, 100, 1000, 10000, 100000, 1000000, 10000000, 100000000, 1000000000, 10000000000, 100000000000, 1000000000000, 10000000000000, 100000000000000, 1000000000000000, 10000000000000000, 100000000000000000, 1000000000000000000, 10000000000000000000])]
noncomputable def cfg : Cfg := ⟨cfgExt, cfgMeth, cfgEqs, cfgGlob, specI, cfgByte, 4⟩
noncomputable def prog : Program := Go.Proofs.Tryz.prog
noncomputable def env : Env := envOf prog cfg
def strL (l : List Nat) : Value := .string ⟨⟨l.map UInt8.ofNat⟩⟩
noncomputable def start : ASt := startOf env 4 []
end Go.AE
