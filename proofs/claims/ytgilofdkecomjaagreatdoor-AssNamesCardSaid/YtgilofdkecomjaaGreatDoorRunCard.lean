/- The law AssNames answers true on every schedule, in every memory in which the listed tables lie as the program lays them: its card. No condition beside the given card. -/
import Derived.Test.YtgilofdkecomjaaGreatDoorRunJ
import Derived.Test.YtgilofdkecomjaaGreatDoorCards
import Derived.Test.YtgilofdkecomjaaGreatDoorTie
import Derived.OpenShut
import Derived.Deep.DeepHandedRow
import Derived.KernelRfl
import Derived.MakeChecks
set_option maxRecDepth 100000
set_option maxHeartbeats 0
namespace Go.AE
theorem ans117 : Answers prog 117 Extern.AbiNoEscape.same := ⟨⟨Go.Proofs.Tryz.f117, by kernel_rfl, by kernel_rfl, by kernel_rfl, by kernel_rfl, by kernel_rfl⟩⟩
theorem ans118 : Answers prog 118 (Extern.BytealgMakeNoZero.makeNoZero #[3] #[31]) := ⟨⟨Go.Proofs.Tryz.f118, by kernel_rfl, by kernel_rfl, by kernel_rfl, by kernel_rfl, by kernel_rfl⟩⟩
theorem ans150 : Answers prog 150 Extern.BytealgIndexByte.indexByte := ⟨⟨Go.Proofs.Tryz.f150, by kernel_rfl, by kernel_rfl, by kernel_rfl, by kernel_rfl, by kernel_rfl⟩⟩
theorem ans152 : Answers prog 152 Extern.BytealgCount.count := ⟨⟨Go.Proofs.Tryz.f152, by kernel_rfl, by kernel_rfl, by kernel_rfl, by kernel_rfl, by kernel_rfl⟩⟩
theorem ans180 : Answers prog 180 add64Entry := ⟨⟨Go.Proofs.Tryz.f180, by kernel_rfl, by kernel_rfl, by kernel_rfl, by kernel_rfl, by kernel_rfl⟩⟩
theorem ans181 : Answers prog 181 Go.Proofs.sub64Entry := ⟨⟨Go.Proofs.Tryz.f181, by kernel_rfl, by kernel_rfl, by kernel_rfl, by kernel_rfl, by kernel_rfl⟩⟩
theorem sliceT : prog.underlying 31 = some (.slice 5) := by kernel_rfl
theorem elemT : (match tyOf prog 5 with | some y => Nat.beq y.size 1 | none => false) = true := by kernel_rfl
theorem elemT_ex : ∃ y, env.types 5 = some y ∧ y.size = 1 := by
  have h := elemT
  show ∃ y, tyOf prog 5 = some y ∧ y.size = 1
  split at h
  · rename_i y hy
    exact ⟨y, hy, by simpa using h⟩
  · cases h
theorem cmeth : methsFit prog cfg.meth = true := by kernel_rfl
theorem ceqs : (cfg.eqs.all fun x => eqFits prog x.1 x.2) = true := by kernel_rfl
theorem cbyte : (match tyOf prog cfg.byteT with | some y => (match y.d with | .int .u8 => true | _ => false) && (Nat.beq y.size 1 && Nat.beq y.bytes 1) | none => false) = true := by kernel_rfl
theorem cmixed : prog.follows .mixedOrders = true := by kernel_rfl
theorem cglob : (cfg.glob.all fun x => Nat.blt x.1 cfg.nG && x.2.all plain1) = true := by kernel_rfl
theorem cfgOK : CfgOK prog cfg where
  ext := by
    intro x hx w0
    have hx2 : x ∈ cfgExt := hx
    simp only [cfgExt, List.mem_cons, List.not_mem_nil, or_false] at hx2
    rcases hx2 with rfl | rfl | rfl | rfl | rfl | rfl
    · exact ext_same ans117
    · exact ext_noZero ans118 sliceT elemT_ex
    · exact ext_indexByte ans150
    · exact ext_count ans152
    · exact ext_add64 ans180
    · exact ext_sub64 ans181
  meth := cmeth
  eqs := ceqs
  glob := cglob
  byteT := cbyte
  spec := fun _ _ _ h => by cases h
  mixed := cmixed
end Go.AE
namespace Go.Proofs.YtgilofdkecomjaaGreatDoor.fnAssNames
open Go.ChangeShapes Go.WideShapes Go.ChangeAt Go.RowKit Go.AE
theorem own : ownKnob Tryz.prog.godebug = none := by kernel_rfl
/-- What the row lists lies in memory, cell for cell. -/
theorem glob1 {W : World} (h : laidMet Tryz.prog Rows.assNamesRow.laid W) : ∃ el fr, W.heap[1]? = some (.cells ⟨intsL .u64 [1, 10, 100, 1000, 10000, 100000, 1000000, 10000000, 100000000, 1000000000, 10000000000, 100000000000, 1000000000000, 10000000000000, 100000000000000, 1000000000000000, 10000000000000000, 100000000000000000, 1000000000000000000, 10000000000000000000]⟩ el fr) := by
  have hd : (Rows.laid_internal_strconv_uint64pow10 : DataW Unit) = Lib.tabData .u64 [1, 10, 100, 1000, 10000, 100000, 1000000, 10000000, 100000000, 1000000000, 10000000000, 100000000000, 1000000000000, 10000000000000, 100000000000000, 1000000000000000, 10000000000000000, 100000000000000000, 1000000000000000000, 10000000000000000000] := by kernel_rfl
  have hm : ("internal/strconv.uint64pow10", (Rows.laid_internal_strconv_uint64pow10 : DataW Unit)) ∈ Rows.assNamesRow.laid := List.Mem.tail _ (List.Mem.tail _ (List.Mem.head _))
  rw [hd] at hm
  exact table_cells h hm (t := 229) (e := 167) (n := 20) (by kernel_rfl) (by kernel_rfl) (by kernel_rfl) (by kernel_rfl) (by kernel_rfl) (by kernel_rfl)
theorem glob4 {W : World} (h : laidMet Tryz.prog Rows.assNamesRow.laid W) : ∃ el fr, W.heap[4]? = some (.cells ⟨intsL .u8 [0, 1, 28, 2, 29, 14, 24, 3, 30, 22, 20, 15, 25, 17, 4, 8, 31, 27, 13, 23, 21, 19, 16, 7, 26, 12, 18, 6, 11, 5, 10, 9]⟩ el fr) := by
  have hd : (Rows.laid_math_bits_deBruijn32tab : DataW Unit) = Lib.tabData .u8 [0, 1, 28, 2, 29, 14, 24, 3, 30, 22, 20, 15, 25, 17, 4, 8, 31, 27, 13, 23, 21, 19, 16, 7, 26, 12, 18, 6, 11, 5, 10, 9] := by kernel_rfl
  have hm : ("math/bits.deBruijn32tab", (Rows.laid_math_bits_deBruijn32tab : DataW Unit)) ∈ Rows.assNamesRow.laid := List.Mem.head _
  rw [hd] at hm
  exact table_cells h hm (t := 278) (e := 5) (n := 32) (by kernel_rfl) (by kernel_rfl) (by kernel_rfl) (by kernel_rfl) (by kernel_rfl) (by kernel_rfl)
theorem glob5 {W : World} (h : laidMet Tryz.prog Rows.assNamesRow.laid W) : ∃ el fr, W.heap[5]? = some (.cells ⟨intsL .u8 [0, 1, 56, 2, 57, 49, 28, 3, 61, 58, 42, 50, 38, 29, 17, 4, 62, 47, 59, 36, 45, 43, 51, 22, 53, 39, 33, 30, 24, 18, 12, 5, 63, 55, 48, 27, 60, 41, 37, 16, 46, 35, 44, 21, 52, 32, 23, 11, 54, 26, 40, 15, 34, 20, 31, 10, 25, 14, 19, 9, 13, 8, 7, 6]⟩ el fr) := by
  have hd : (Rows.laid_math_bits_deBruijn64tab : DataW Unit) = Lib.tabData .u8 [0, 1, 56, 2, 57, 49, 28, 3, 61, 58, 42, 50, 38, 29, 17, 4, 62, 47, 59, 36, 45, 43, 51, 22, 53, 39, 33, 30, 24, 18, 12, 5, 63, 55, 48, 27, 60, 41, 37, 16, 46, 35, 44, 21, 52, 32, 23, 11, 54, 26, 40, 15, 34, 20, 31, 10, 25, 14, 19, 9, 13, 8, 7, 6] := by kernel_rfl
  have hm : ("math/bits.deBruijn64tab", (Rows.laid_math_bits_deBruijn64tab : DataW Unit)) ∈ Rows.assNamesRow.laid := List.Mem.tail _ (List.Mem.head _)
  rw [hd] at hm
  exact table_cells h hm (t := 279) (e := 5) (n := 64) (by kernel_rfl) (by kernel_rfl) (by kernel_rfl) (by kernel_rfl) (by kernel_rfl) (by kernel_rfl)
theorem good {W : World} (h : laidMet Tryz.prog Rows.assNamesRow.laid W) : Go.AE.Good prog env W := by
  refine good_of cfg cfgOK ?_ ?_
  · intro x hx
    have hx2 : x ∈ cfgGlob := hx
    simp only [cfgGlob, List.mem_cons, List.not_mem_nil, or_false] at hx2
    rcases hx2 with rfl | rfl | rfl
    · exact glob1 h
    · exact glob4 h
    · exact glob5 h
  · obtain ⟨el, fr, h5⟩ := glob5 h
    have := (Array.getElem?_eq_some_iff.1 h5).1
    show 6 ≤ W.heap.size
    omega
theorem contract (H : Type) (enc : TypeId × Value → H) (W : World) (args : Array Value) (ds gs : List (DataW H)) (before : List MemPlace)
    (hW : DataW.Whole enc Tryz.prog Tryz.f3.params.toList Rows.assNamesSpec.vars false W args.toList ds gs before) (hL : laidMetH Tryz.prog Rows.assNamesRow.laid W) :
    Calls Tryz.prog 3 args W fun e W' => ∃ v, e = .returned v ∧ Rows.assNamesSpec.post enc Tryz.prog Tryz.f3 false true false false W args v W' := by
  have hW' := hW
  obtain ⟨p, q, hA0, hV, rfl, hfz, hnd⟩ := hW
  have hA : DataW.TrodAll enc Tryz.prog W 0 (fun _ => true) true Tryz.f3.params.toList args.toList ds p := hA0
  rw [Tryz.params3] at hA
  obtain ⟨e1, rfl, rfl⟩ := trodAll_nil hA
  obtain rfl : args = #[] := by cases args; simp_all
  obtain ⟨rfl, rfl⟩ := trodVars_none hV
  clear hA0
  simp only [List.append_nil] at hW'
  rw [MakeChecks.laidMetH_plain _ _ _ (by kernel_rfl)] at hL
  refine (calls (good hL)).mono fun e W' ⟨he, hB⟩ => ?_
  subst he
  exact ⟨_, rfl, post_of_below (pa := []) (pv := []) hW' hB (fun _ _ _ => trodAll_cons_mk (shut_bool Tryz.underlying4 _) trodAll_mk0) (fun _ _ => trodAll_mk0) (fun _ _ => rfl) rfl (ok_one (by kernel_rfl) rfl (okWide_bool_mk Tryz.underlying4 _))⟩

/-- A world for the witness: the listed tables hold what the program lays. -/
noncomputable def lay (g : Nat) (cs : List Value) (w : World) : World := { w with heap := w.heap.modify g fun
      | .cells _ t frozen => .cells ⟨cs⟩ t frozen
      | o => o }
noncomputable def laidWorld (os : Os) : World := (lay 3 (intsL .u8 [128, 191, 160, 191, 128, 159, 144, 191, 128, 143, 0, 0, 0, 0, 0, 0, 0, 0, 0, 0, 0, 0, 0, 0, 0, 0, 0, 0, 0, 0, 0, 0]) (lay 2 (Pinned.utf8FirstZ.map fun n : Nat => Value.int .u8 n) (lay 5 (intsL .u8 [0, 1, 56, 2, 57, 49, 28, 3, 61, 58, 42, 50, 38, 29, 17, 4, 62, 47, 59, 36, 45, 43, 51, 22, 53, 39, 33, 30, 24, 18, 12, 5, 63, 55, 48, 27, 60, 41, 37, 16, 46, 35, 44, 21, 52, 32, 23, 11, 54, 26, 40, 15, 34, 20, 31, 10, 25, 14, 19, 9, 13, 8, 7, 6]) (lay 4 (intsL .u8 [0, 1, 28, 2, 29, 14, 24, 3, 30, 22, 20, 15, 25, 17, 4, 8, 31, 27, 13, 23, 21, 19, 16, 7, 26, 12, 18, 6, 11, 5, 10, 9]) (lay 1 (intsL .u64 [1, 10, 100, 1000, 10000, 100000, 1000000, 10000000, 100000000, 1000000000, 10000000000, 100000000000, 1000000000000, 10000000000000, 100000000000000, 1000000000000000, 10000000000000000, 100000000000000000, 1000000000000000000, 10000000000000000000]) (World.holding Tryz.prog os ⟨#[], #[], []⟩))))))
theorem laid_met (os : Os) : laidMetH Tryz.prog Rows.assNamesRow.laid ((laidWorld os).forCall (fun _ _ => 0) ⟨#[], #[], []⟩).memory := by
  rw [MakeChecks.laidMetH_plain _ _ _ (by kernel_rfl)]
  exact laidMet_of_run' 8 (by kernel_rfl) (by kernel_rfl)
theorem reads (os : Os) {H : Type} (enc : TypeId × Value → H) : ∃ places, DataW.whole enc Tryz.prog ((laidWorld os).forCall (fun _ _ => 0) ⟨#[], #[], []⟩).memory Tryz.f3.params.toList Rows.assNamesSpec.vars false (#[] : Array Value).toList 8 = some ([], [], places) :=
  ⟨[], by kernel_rfl⟩
theorem lifted (os : Os) (started : os.Started) (H : Type) (enc : TypeId × Value → H) (F : Stop.Interp) :
    ReturnsInHanded {} Tryz.checked os 3 .any ((OpenSpec.ofChange Rows.assNamesSpec).preRow enc Tryz.prog Tryz.f3 Rows.assNamesRow.domain false Rows.assNamesRow.laid) (((OpenSpec.ofChange Rows.assNamesSpec).at F).post enc Tryz.prog Tryz.f3 false true false false) := by
  obtain ⟨places, hx⟩ := reads os enc
  refine returnsInHanded_of_row (C := Tryz.checked) (s := OpenSpec.ofChange Rows.assNamesSpec) own started (by kernel_rfl) Tryz.func3
    (witness_row_at (enc := enc) (C := Tryz.checked) false (laidWorld os) #[] rfl (by kernel_rfl) (by kernel_rfl) (by kernel_rfl)
      (OpenSpec.preRow_of_cond 8 hx (by kernel_rfl) (fun k hk => by cases hk) (by kernel_rfl) (laid_met os))) ?_
  intro W base args ds gs before hval hW _ _ _ hL _ _
  exact contract H enc W args ds gs before hW hL
theorem said : Rows.AssNamesSaid :=
  OpenClaim.holds_of_cond 3 Tryz.f3 rfl rfl rfl rfl rfl rfl rfl ⟨rfl, rfl, rfl, rfl, rfl⟩ rfl rfl rfl rfl rfl (by kernel_rfl) Tryz.func3 (by kernel_rfl)
    (of_decide_eq_true (by kernel_rfl)) (by unfold Func.isWrapper; first | (rw [if_pos (by decide +kernel)]; kernel_rfl) | (rw [if_neg (by decide +kernel)]; exact ⟨rfl, rfl⟩))
    (fun os started H enc _ F => by rw [OpenClaim.pre_eq_preRow]; exact lifted os started H enc F)
theorem looks : Tryz.prog.looks [] = true := by kernel_rfl
theorem plainCall (f : FuncId) (fn : Func) (hf : Tryz.pinned.checked.prog.funcNamed "surtitle/surtitlelaw17.AssNames" = some f) (hfn : Tryz.pinned.checked.prog.funcs[f]? = some fn) :
    true = Tryz.pinned.checked.prog.looks [] ∧ ∀ (j : Nat) t, fn.params[j]? = some t → Tryz.pinned.checked.prog.wantsStandIn t = false := by
  obtain rfl : f = 3 := Option.some.inj ((show Tryz.prog.funcNamed "surtitle/surtitlelaw17.AssNames" = some 3 by kernel_rfl).symm.trans hf) |>.symm
  obtain rfl : fn = Tryz.f3 := (Option.some.inj (Tryz.func3.symm.trans hfn)).symm
  refine ⟨looks.symm, fun j t ht => ?_⟩
  rw [Tryz.params3] at ht
  simp at ht
/-- The card. -/
theorem card_holds : Rows.AssNamesCardSaid :=
  Claim7.holds_tied_plain_at .later [] _ _ _ _ said (fun _ h => by cases h) (by kernel_rfl) (fun _ h => by cases h) assNames_row_tie rfl ⟨rfl, rfl⟩ (by kernel_rfl) rfl plainCall (by kernel_rfl)
end Go.Proofs.YtgilofdkecomjaaGreatDoor.fnAssNames
namespace Go.Proofs.YtgilofdkecomjaaGreatDoor
theorem assNames_card : Rows.AssNamesCardSaid := fnAssNames.card_holds
#print axioms assNames_card
end Go.Proofs.YtgilofdkecomjaaGreatDoor

