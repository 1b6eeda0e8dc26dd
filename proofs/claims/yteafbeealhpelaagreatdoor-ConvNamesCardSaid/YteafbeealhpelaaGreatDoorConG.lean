/- What the call of the law ConvNames gives, in every memory in which the listed tables lie as the row says. -/
import Derived.Test.YteafbeealhpelaaGreatDoorConJ
import Derived.Test.YteafbeealhpelaaGreatDoorCards
import Derived.Test.YteafbeealhpelaaGreatDoorTie
import Derived.OpenShut
import Derived.Deep.DeepHandedRow
import Derived.KernelRfl
import Derived.MakeChecks
import Derived.Test.YteafbeealhpelaaGreatDoorLays
set_option maxRecDepth 100000
set_option maxHeartbeats 0
namespace Go.AE
theorem ans180 : Answers prog 180 Extern.AbiNoEscape.same := ⟨⟨Go.Proofs.Tryz.f180, by kernel_rfl, by kernel_rfl, by kernel_rfl, by kernel_rfl, by kernel_rfl⟩⟩
theorem ans212 : Answers prog 212 Extern.BytealgIndexByte.indexByte := ⟨⟨Go.Proofs.Tryz.f212, by kernel_rfl, by kernel_rfl, by kernel_rfl, by kernel_rfl, by kernel_rfl⟩⟩
theorem ans217 : Answers prog 217 Extern.BytealgCount.count := ⟨⟨Go.Proofs.Tryz.f217, by kernel_rfl, by kernel_rfl, by kernel_rfl, by kernel_rfl, by kernel_rfl⟩⟩
theorem ans246 : Answers prog 246 add64Entry := ⟨⟨Go.Proofs.Tryz.f246, by kernel_rfl, by kernel_rfl, by kernel_rfl, by kernel_rfl, by kernel_rfl⟩⟩
theorem ans262 : Answers prog 262 (Extern.Atomic.loadT (.int .u32)) := ⟨⟨Go.Proofs.Tryz.f262, by kernel_rfl, by kernel_rfl, by kernel_rfl, by kernel_rfl, by kernel_rfl⟩⟩
theorem ans272 : Answers prog 272 Extern.Atomic.storeT := ⟨⟨Go.Proofs.Tryz.f272, by kernel_rfl, by kernel_rfl, by kernel_rfl, by kernel_rfl, by kernel_rfl⟩⟩
theorem ans277 : Answers prog 277 (fun _ => do mark .disable; pure (.tuple #[])) := ⟨⟨Go.Proofs.Tryz.f277, by kernel_rfl, by kernel_rfl, by kernel_rfl, by kernel_rfl, by kernel_rfl⟩⟩
theorem ans278 : Answers prog 278 (Extern.Atomic.casT (.int .i32)) := ⟨⟨Go.Proofs.Tryz.f278, by kernel_rfl, by kernel_rfl, by kernel_rfl, by kernel_rfl, by kernel_rfl⟩⟩
theorem ans279 : Answers prog 279 (fun _ => do mark .enable; pure (.tuple #[])) := ⟨⟨Go.Proofs.Tryz.f279, by kernel_rfl, by kernel_rfl, by kernel_rfl, by kernel_rfl, by kernel_rfl⟩⟩
theorem ans280 : Answers prog 280 (Extern.Race.marked .acquire) := ⟨⟨Go.Proofs.Tryz.f280, by kernel_rfl, by kernel_rfl, by kernel_rfl, by kernel_rfl, by kernel_rfl⟩⟩
theorem ans282 : Answers prog 282 (Extern.Race.marked .releaseMerge) := ⟨⟨Go.Proofs.Tryz.f282, by kernel_rfl, by kernel_rfl, by kernel_rfl, by kernel_rfl, by kernel_rfl⟩⟩
theorem ans283 : Answers prog 283 (Extern.Atomic.update (Op.intArith .add) .i32 true) := ⟨⟨Go.Proofs.Tryz.f283, by kernel_rfl, by kernel_rfl, by kernel_rfl, by kernel_rfl, by kernel_rfl⟩⟩
theorem sliceT : prog.underlying 32 = some (.slice 5) := by kernel_rfl
theorem elemT : (match tyOf prog 5 with | some y => Nat.beq y.size 1 | none => false) = true := by kernel_rfl
theorem elemT_ex : ∃ y, env.types 5 = some y ∧ y.size = 1 := by
  have h := elemT
  show ∃ y, tyOf prog 5 = some y ∧ y.size = 1
  split at h
  · rename_i y hy
    exact ⟨y, hy, by simpa using h⟩
  · cases h
theorem cmeth : methsFit prog cfg.meth = true := by kernel_rfl
theorem ceqs : (cfg.eqs.all fun x => eqFits prog x.1 x.2) = true := by kernel_rfl
theorem cbyte : (match tyOf prog cfg.byteT with | some y => (match y.d with | .int .u8 => true | _ => false) && (Nat.beq y.size 1 && Nat.beq y.bytes 1) | none => false) = true := by kernel_rfl
theorem cmixed : prog.follows .mixedOrders = true := by kernel_rfl
theorem cglob : (cfg.glob.all fun x => Nat.blt x.1 cfg.nG && x.2.all plain1) = true := by kernel_rfl
theorem hasBody : (funcOf prog 182).isSome = true := by kernel_rfl
theorem cell_lt {w : World} {g : Nat} {v : Value} (h : w.cell? ⟨g, 0, none⟩ = some v) : g < w.heap.size := by
  unfold World.cell? at h
  split at h
  · rename_i hb
    exact (Array.getElem?_eq_some_iff.1 hb).1
  · cases h
theorem cfgOK : CfgOK prog cfg (fun w0 : World => ∃ m, w0.cell? ⟨0, 0, none⟩ = some (.int .i64 m)) where
  ext := by
    intro x hx w0 hq
    have hx2 : x ∈ cfgExt := hx
    simp only [cfgExt, List.mem_cons, List.not_mem_nil, or_false] at hx2
    rcases hx2 with rfl | rfl | rfl | rfl | rfl | rfl | rfl | rfl | rfl | rfl | rfl | rfl | rfl
    · exact ext_same ans180
    · exact ext_index (g := 0) rfl (Option.isSome_iff_exists.1 hasBody) (fun _ h => funcOf_ok h) (by obtain ⟨m, hm⟩ := hq; exact cell_lt hm) hq (fun s sub m w hs hm => Go.Proofs.Any.stringslite_Index Go.Proofs.Tryz.lays219 s sub m w hs hm)
    · exact ext_indexByte ans212
    · exact ext_count ans217
    · exact ext_add64 ans246
    · exact ext_aload ans262
    · exact ext_astore ans272
    · exact ext_nop0 ans277
    · exact ext_acas ans278
    · exact ext_nop0 ans279
    · exact ext_nop1 ans280
    · exact ext_nop1 ans282
    · exact ext_aadd ans283
  meth := cmeth
  eqs := ceqs
  glob := cglob
  byteT := cbyte
  spec := fun _ _ _ h => specI_plain h
  mixed := cmixed
end Go.AE
namespace Go.Proofs.YteafbeealhpelaaGreatDoor.fnConvNames
open Go.ChangeShapes Go.WideShapes Go.ChangeAt Go.RowKit Go.AE
theorem own : ownKnob Tryz.prog.godebug = none := by kernel_rfl
theorem glob3 {W : World} (h : laidMet Tryz.prog Rows.convNamesRow.laid W) : ∃ el fr, W.heap[3]? = some (.cells ⟨intsL .u64 [1, 10, 100, 1000, 10000, 100000, 1000000, 10000000, 100000000, 1000000000, 10000000000, 100000000000, 1000000000000, 10000000000000, 100000000000000, 1000000000000000, 10000000000000000, 100000000000000000, 1000000000000000000, 10000000000000000000]⟩ el fr) := by
  have hd : (Rows.laid_internal_strconv_uint64pow10 : DataW Unit) = Lib.tabData .u64 [1, 10, 100, 1000, 10000, 100000, 1000000, 10000000, 100000000, 1000000000, 10000000000, 100000000000, 1000000000000, 10000000000000, 100000000000000, 1000000000000000, 10000000000000000, 100000000000000000, 1000000000000000000, 10000000000000000000] := by kernel_rfl
  have hm : ("internal/strconv.uint64pow10", (Rows.laid_internal_strconv_uint64pow10 : DataW Unit)) ∈ Rows.convNamesRow.laid := List.Mem.tail _ (List.Mem.tail _ (List.Mem.head _))
  rw [hd] at hm
  exact table_cells h hm (t := 319) (e := 211) (n := 20) (by kernel_rfl) (by kernel_rfl) (by kernel_rfl) (by kernel_rfl) (by kernel_rfl) (by kernel_rfl)
theorem good {W : World} (h : laidMet Tryz.prog Rows.convNamesRow.laid W) (hq : (fun w0 : World => ∃ m, w0.cell? ⟨0, 0, none⟩ = some (.int .i64 m)) W) : Go.AE.Good prog env W := by
  refine good_of cfg cfgOK hq ?_ ?_
  · intro x hx
    have hx2 : x ∈ cfgGlob := hx
    simp only [cfgGlob, List.mem_cons, List.not_mem_nil, or_false] at hx2
    rcases hx2 with rfl
    · exact glob3 h
  · obtain ⟨el, fr, h5⟩ := glob3 h
    have := (Array.getElem?_eq_some_iff.1 h5).1
    show 4 ≤ W.heap.size
    omega
theorem contract (H : Type) (enc : TypeId × Value → H) (W : World) (args : Array Value) (ds gs : List (DataW H)) (before : List MemPlace)
    (hW : DataW.Whole enc Tryz.prog Tryz.f4.params.toList Rows.convNamesSpec.vars false W args.toList ds gs before) (hL : laidMetH Tryz.prog Rows.convNamesRow.laid W) (hsh : W.ShapedOpen Tryz.prog) :
    Calls Tryz.prog 4 args W fun e W' => ∃ v, e = .returned v ∧ Rows.convNamesSpec.post enc Tryz.prog Tryz.f4 false true false false W args v W' := by
  have hW' := hW
  obtain ⟨p, q, hA0, hV, rfl, hfz, hnd⟩ := hW
  have hA : DataW.TrodAll enc Tryz.prog W 0 (fun _ => true) true Tryz.f4.params.toList args.toList ds p := hA0
  rw [Tryz.params4] at hA
  obtain ⟨e1, rfl, rfl⟩ := trodAll_nil hA
  obtain rfl : args = #[] := by cases args; simp_all
  obtain ⟨rfl, rfl⟩ := trodVars_none hV
  clear hA0
  simp only [List.append_nil] at hW'
  rw [MakeChecks.laidMetH_plain _ _ _ (by kernel_rfl)] at hL
  refine (calls (good hL (Go.Proofs.Tryz.laysM219.s1_3 W hsh))).mono fun e W' ⟨he, hB⟩ => ?_
  subst he
  exact ⟨_, rfl, post_of_below (pa := []) (pv := []) hW' hB (fun _ _ _ => trodAll_cons_mk (shut_bool Tryz.underlying4 _) trodAll_mk0) (fun _ _ => trodAll_mk0) (fun _ _ => rfl) rfl (ok_one (by kernel_rfl) rfl (okWide_bool_mk Tryz.underlying4 _))⟩

end Go.Proofs.YteafbeealhpelaaGreatDoor.fnConvNames
