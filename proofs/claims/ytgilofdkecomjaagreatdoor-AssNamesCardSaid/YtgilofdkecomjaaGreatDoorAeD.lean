/- The abstract machine's tables off the program, runs in parts, and the same steps in small definitions. No condition. -/
import Derived.Test.YtgilofdkecomjaaGreatDoorAeC
import Derived.Laws.Externs
import Derived.Lib.MakeNoZero
import Derived.Shelf.Spec.BitsCarry
import Derived.Lib.Bytealg
import Derived.Laws.StructEq
import Derived.Lib.LaidTab
import Derived.ChangeSame
import Derived.ProofKit
namespace Go.AE
open Go.RowKit

/-- The heap at the begin of a run: the globals, of which nothing is written. -/
def heap0 (E : Env) : AHeap := ⟨E.nG, .leaf⟩
def phi0 (E : Env) : Phi := fun r => match decide (r < E.nG) with
  | true => some ⟨r, 0, 0, 0⟩
  | false => none

section
variable {P : Program} {E : Env} {φ : Phi} {w0 w : World} {base : List Frame}

theorem phi0_lt {r : Nat} (h : r < E.nG) : phi0 E r = some ⟨r, 0, 0, 0⟩ := by simp [phi0, h]
theorem phi0_ge {r : Nat} (h : E.nG ≤ r) : phi0 E r = none := by simp [phi0, Nat.not_lt.2 h]
theorem heap0_get (r : Nat) : (heap0 E).get r = none := rfl

theorem sim0 : Sim E (phi0 E) w0 (heap0 E) w0 where
  obj r o l h := by rw [heap0_get] at h; cases h
  inj r r' o o' l l' h := by rw [heap0_get] at h; cases h
  fresh r h := ⟨phi0_ge h, rfl⟩
  below := .refl _ _
  glob g h := ⟨phi0_lt h, rfl⟩

/-- The run begins. -/
theorem begin_sound (G : Good P E w0) {f : FuncId} {fn : Func} (hf : E.funcs f = some fn) {args : List Value} (ha : args.all plain1 = true) {fr : AFrame} (e : enterA f fn args = some fr) :
    Goes P E w0 base (lone (Frame.enter P f ⟨args⟩ .normal) base w0) { fr, cs := [], h := heap0 E } := by
  unfold enterA at e
  simp only [Option.bind_eq_some_iff] at e
  obtain ⟨cb, hcb, e⟩ := e
  cases e
  obtain ⟨g1, g2, g3⟩ := G.funcs f fn hf
  have hen : Frame.enter P f ⟨args⟩ .normal = mk f (⟨args⟩ ++ Array.replicate (fn.ntmps - (⟨args⟩ : Array Value).size) undef) [.code cb] [] none := by
    simp [Frame.enter, g1, hcb, mk]
  refine ⟨phi0 E, _, [], w0, .refl _ _, ⟨(heap0 E).nx, Nat.le_refl _, ?_, .nil⟩, sim0⟩
  rw [hen]
  refine .run (.plain ⟨?_, ?_⟩ (.code cb .nil)) .nil .none
  · rw [lenL_eq]
    simp
    omega
  · intro x v hx
    rw [argsTm_get] at hx
    split at hx
    · rename_i hc
      simp only [Nat.sub_zero, Nat.zero_add] at hx hc
      have hu' : (⟨args⟩ : Array Value)[x]? = some v := by simpa using hx
      have hlt : x < (⟨args⟩ : Array Value).size := (Array.getElem?_eq_some_iff.1 hu').1
      have hp : plain1 v = true := List.all_eq_true.1 ha v (List.mem_of_getElem? hx)
      exact ⟨v, by rw [Array.getElem?_append, if_pos hlt]; exact hu', plain1_rel hp⟩
    · rw [Tr.get_leaf] at hx; cases hx

theorem plainV_eq {v u : Value} (h : plainV v = true) (r : VRel φ v u) : u = v := by
  have key : ∀ {v u : Value}, plain1 v = true → VRel φ v u → u = v := by
    intro v u h r
    have := plainL_eq (a := [v]) (b := [u]) (by simpa using h) (.cons r .nil)
    simpa using this
  cases v with
  | agg a =>
    obtain ⟨a⟩ := a
    cases r with
    | agg r => rw [plainL_eq h r]
  | tuple a =>
    obtain ⟨a⟩ := a
    cases r with
    | tuple r => rw [plainL_eq h r]
  | _ => exact key h r

/-- The run has ended. -/
theorem end_sound (G : Good P E w0) {f : FuncId} {m : Machine} {s : ASt} (g : Goes P E w0 base m s) (h1 : s.cs = []) (h2 : s.fr.ret = true) (h3 : s.fr.defers = []) (h4 : s.fr.fn = f) {fn : Func} (hf : E.funcs f = some fn)
    {vs : List Value} (h5 : resultsA E s.h s.fr.tm fn.results.toList = some vs) (h6 : plainV (tupleA vs) = true) :
    ∃ w' fr, Below w0.heap.size w0 w' ∧ Steps P m (lone fr base w') ∧ fr.fn = f ∧ fr.leaving P w' (.returned (tupleA vs)) := by
  obtain ⟨φ, fr, cs, w, hs, ⟨lo, hlo, hfr, c⟩, si⟩ := g
  obtain ⟨fa, ca, h⟩ := s
  simp only at h1 h2 h3 h4 h5 hlo hfr c si
  subst h1
  cases c
  cases hfr with
  | run t d r => cases h2
  | ret t d r =>
    simp only at h3 h4 h5
    subst h3 h4
    cases d
    obtain ⟨v', hr, hv⟩ := resultsA_sound G si t h5
    have := plainV_eq h6 hv
    subst this
    exact ⟨w, _, si.below, hs, rfl, rfl, rfl, rfl, fn, (G.funcs _ _ hf).1, hr⟩

end
end Go.AE
namespace Go.AE
open Go.RowKit

def tyDesc : TypeDesc → Ty
  | .struct fs => .struct (fs.toList.map fun f => (f.offset, f.type))
  | .array n e => .array n e
  | .slice e => .slice e
  | .string => .str
  | .map k e => .map k e
  | .interface ms => .iface ms.isEmpty
  | .pointer e => .ptr e
  | .int k => .int k
  | .bool => .bool
  | .func _ _ _ => .func
  | .unsafePointer => .rawPtr
  | _ => .other

def fieldsKnown (P : Program) : TypeDesc → Bool
  | .struct fs => fs.toList.all fun f => (P.info? f.type).isSome
  | _ => true
def zeroFits (t : Ty) : Value → Bool
  | .agg _ => isAggTy t
  | _ => !isAggTy t

def tyOf (P : Program) (t : TypeId) : Option TyI :=
  (P.info? t).bind fun i => (P.underlying t).bind fun d => i.zero.bind fun z =>
    whenB (fieldsKnown P d && (zeroFits (tyDesc d) z && (Nat.beq (lenL (cellsOf z)) i.size && (cellsOf z).all plain1))) (some ⟨tyDesc d, i.size, i.bytes, cellsOf z⟩)

def funcOf (P : Program) (f : FuncId) : Option Func :=
  (P.funcs[f]?).bind fun fn => whenB (fn.body.isSome && !(fn.name == "runtime.NumGoroutine")) (some fn)

def lookL {α : Type} (n : Nat) : List (Nat × α) → Option α
  | [] => none
  | (k, v) :: l => match Nat.beq k n with
    | true => some v
    | false => lookL n l
def lookS {α : Type} (n : String) : List (String × α) → Option α
  | [] => none
  | (k, v) :: l => match k == n with
    | true => some v
    | false => lookS n l

def intsL (k : IntKind) : List Int → List Value
  | [] => []
  | x :: l => .int k x :: intsL k l

structure Cfg where
  ext : List (Nat × ExtK)
  meth : List (Nat × List (String × FuncId))
  eqs : List (Nat × List Ty)
  glob : List (Nat × List Value)
  spec : Nat → List Value → Option Value
  byteT : Nat
  nG : Nat

def envOf (P : Program) (c : Cfg) : Env where
  funcs := funcOf P
  types := tyOf P
  ext f := lookL f c.ext
  meth t n := (lookL t c.meth).bind (lookS n)
  spec := c.spec
  eqs t := lookL t c.eqs
  glob g := lookL g c.glob
  byteT := c.byteT
  nG := c.nG

end Go.AE
namespace Go.AE
open Go.RowKit

section
variable {P : Program} {w : World}

theorem tyDesc_ok (d : TypeDesc) : DescOK d (tyDesc d) := by
  cases d <;> simp [tyDesc, DescOK]

theorem cellsOf_eq (z : Value) : cellsOf z = z.cells.toList := by
  cases z <;> rfl

theorem tyOf_ok {t : TypeId} {y : TyI} (e : tyOf P t = some y) : TyOK P t y := by
  unfold tyOf at e
  simp only [Option.bind_eq_some_iff, whenB_some, Bool.and_eq_true, beq_iff, lenL_eq] at e
  obtain ⟨i, hi, d, hd, z, hz, ⟨h1, h2, h3, h4⟩, e⟩ := e
  cases e
  refine ⟨⟨i, d, z, hi, hd, rfl, rfl, hz, tyDesc_ok d, (cellsOf_eq z).symm, ?_, ?_⟩, h3, h4, ?_⟩
  · intro ha
    cases z <;> simp only [zeroFits, ha, Bool.not_true, Bool.false_eq_true] at h2
    rename_i a
    cases a
    rfl
  · intro ha
    cases z <;> simp only [zeroFits, ha, Bool.false_eq_true] at h2 <;> rfl
  · intro fs hfs f hf
    rw [hd] at hfs
    cases hfs
    exact List.all_eq_true.1 h1 f hf

theorem funcOf_ok {f : FuncId} {fn : Func} (e : funcOf P f = some fn) : P.funcs[f]? = some fn ∧ fn.body.isSome = true ∧ (fn.name == "runtime.NumGoroutine") = false := by
  unfold funcOf at e
  simp only [Option.bind_eq_some_iff, whenB_some, Bool.and_eq_true, Bool.not_eq_true'] at e
  obtain ⟨fn', h1, ⟨h2, h3⟩, e⟩ := e
  cases e
  exact ⟨h1, h2, h3⟩

/-- A method of a type that is no pointer, with the value as its receiver. -/
def methFits (P : Program) (t : TypeId) (n : String) (f : FuncId) : Bool :=
  match P.info? t, P.underlying t with
  | some i, some d => (match i.methods.find? (·.name == n) with
    | some m => m.path.isEmpty && (match m.func with
      | some (g, false) => Nat.beq f g
      | _ => false)
    | none => false) && (match d with
    | .pointer _ => false
    | _ => true)
  | _, _ => false

theorem methFits_ok {t : TypeId} {n : String} {f : FuncId} (h : methFits P t n f = true) (v : Value) (w : World) :
    (method (P.types.size + Made.depth) t v n).run P w = .ok (f, v) w ∧ (nilAhead (P.types.size + Made.depth) t v n).run P w = .ok (some false) w := by
  unfold methFits at h
  split at h
  · rename_i i d hi hd
    rw [Bool.and_eq_true] at h
    obtain ⟨h1, h2⟩ := h
    split at h1
    · rename_i m hm
      rw [Bool.and_eq_true] at h1
      obtain ⟨h0, h1⟩ := h1
      split at h1
      · rename_i g hg
        rw [beq_iff] at h1
        subst h1
        have hp : m.path.toList = [] := by
          have : m.path = #[] := by simpa using h0
          rw [this]
        have hdep : P.types.size + Made.depth = (P.types.size + Made.depth - 1) + 1 := by
          have : 0 < Made.depth := by decide
          omega
        rw [hdep]
        constructor
        · simp only [method, Sem.run_bind, run_inf hi, Result.andThen_ok, hm, hp, follow, Sem.run_pure, hg, receiverAt, run_und hd]
          cases d <;> first | (cases h2; done) | (simp [Place.get])
        · simp only [nilAhead, Sem.run_bind, run_inf hi, Result.andThen_ok, hm, hp, followBlind, Sem.run_pure, hg, run_und hd]
          cases d <;> first | (cases h2; done) | (simp)
      · cases h1
    · cases h1
  · cases h

theorem lookL_mem {α : Type} {n : Nat} : ∀ {l : List (Nat × α)} {v : α}, lookL n l = some v → (n, v) ∈ l
  | (k, x) :: l, v, h => by
    unfold lookL at h
    split at h
    · rename_i hb
      rw [beq_iff] at hb
      cases h
      subst hb
      simp
    · exact List.mem_cons_of_mem _ (lookL_mem h)
theorem lookS_mem {α : Type} {n : String} : ∀ {l : List (String × α)} {v : α}, lookS n l = some v → (n, v) ∈ l
  | (k, x) :: l, v, h => by
    unfold lookS at h
    split at h
    · rename_i hb
      have : k = n := by simpa using hb
      cases h
      subst this
      simp
    · exact List.mem_cons_of_mem _ (lookS_mem h)

def methsFit (P : Program) (l : List (Nat × List (String × FuncId))) : Bool := l.all fun x => x.2.all fun y => methFits P x.1 y.1 y.2
theorem methsFit_ok {l : List (Nat × List (String × FuncId))} (h : methsFit P l = true) {t : TypeId} {n : String} {f : FuncId} (e : (lookL t l).bind (lookS n) = some f) : methFits P t n f = true := by
  simp only [Option.bind_eq_some_iff] at e
  obtain ⟨ms, h1, h2⟩ := e
  have := List.all_eq_true.1 h _ (lookL_mem h1)
  exact List.all_eq_true.1 this _ (lookS_mem h2)

end
end Go.AE
namespace Go.AE
open Go.RowKit

/-- The model answers a call of a function by a row of its own. -/
structure Answers (P : Program) (f : FuncId) (e : Array Value → Sem Value) : Prop where
  ex : ∃ fn, P.funcs[f]? = some fn ∧ (fn.name == "runtime.NumGoroutine") = false ∧ fn.body.isNone = true ∧ Extern.findNext fn = none ∧ Extern.find fn = some e

section
variable {P : Program} {E : Env} {w : World} {f : FuncId}

theorem Answers.run {e : Array Value → Sem Value} (a : Answers P f e) (args : Array Value) : (callFunc f args).run P w = ((e args).run P w).andThen fun v w' => .ok (.value v) w' := by
  obtain ⟨fn, h1, h2, h3, h4, h5⟩ := a.ex
  exact run_callFunc_extern h1 h2 h3 h4 h5 args w

def ExtOK (P : Program) (E : Env) (w0 : World) (f : FuncId) (k : ExtK) : Prop := ∀ (args' : Array Value) (w : World), match k with
    | .same => ∀ x, args' = #[x] → (callFunc f args').run P w = .ok (.value x) w
    | .noZero el => (∃ y, E.types el = some y ∧ y.size = 1) ∧ ∀ n : Nat, n ≤ 1048576 → args' = #[.int .i64 (n : Int)] → ∃ cs : Array Value,
        (callFunc f args').run P w = .ok (.value (.slice (some ⟨w.heap.size, 0, none⟩) n cs.size)) (w.drew.drew.alloc (.cells cs el)) ∧ n ≤ cs.size
    | .add64 => ∀ x y c : Nat, c ≤ 1 → args' = #[.int .u64 (x : Int), .int .u64 (y : Int), .int .u64 (c : Int)] → (callFunc f args').run P w =
        .ok (.value (.tuple #[.int .u64 (Int.ofNat ((x + y + c) % 18446744073709551616)), .int .u64 (Int.ofNat ((x + y + c) / 18446744073709551616))])) w
    | .sub64 => ∀ x y c : Nat, c ≤ 1 → args' = #[.int .u64 (x : Int), .int .u64 (y : Int), .int .u64 (c : Int)] → (callFunc f args').run P w =
        .ok (.value (.tuple #[.int .u64 (Int.ofNat ((x + 18446744073709551616 - y - c) % 18446744073709551616)), .int .u64 (Int.ofNat (match Nat.blt x (y + c) with | true => 1 | false => 0))])) w
    | .indexByte => ∀ (b : ByteArray) (c : Nat), c < 256 → args' = #[.string b, .int .u8 (c : Int)] → (callFunc f args').run P w = .ok (.value (.int .i64 (findB c (bytesL b) 0))) w
    | .count => ∀ (b : ByteArray) (c : Nat), c < 256 → args' = #[.string b, .int .u8 (c : Int)] → (callFunc f args').run P w = .ok (.value (.int .i64 (Int.ofNat (countB c (bytesL b) 0)))) w
    | .spec n => (callFunc f args').run P w = .ok (.enter f args') w ∧ ∀ v, E.spec n args'.toList = some v → plainV v = true ∧ args'.toList.all plain1 = true ∧
        (Below w0.heap.size w0 w → Calls P f args' w fun e w' => e = .returned v ∧ Below w.heap.size w w')

theorem ext_same {w0 : World} (a : Answers P f Extern.AbiNoEscape.same) : ExtOK P E w0 f .same := by
  intro args w x hx
  subst hx
  rw [a.run]
  rfl

theorem ext_noZero {w0 : World} {ps : Array TypeId} {t el : TypeId} (a : Answers P f (Extern.BytealgMakeNoZero.makeNoZero ps #[t])) (ht : P.underlying t = some (.slice el)) (hy : ∃ y, E.types el = some y ∧ y.size = 1) : ExtOK P E w0 f (.noZero el) := by
  intro args w
  refine ⟨hy, fun n hn hx => ?_⟩
  subst hx
  obtain ⟨cs, h1, h2, _⟩ := Lib.run_makeNoZero (P := P) w ps t el ht n (by omega)
  exact ⟨cs, by rw [a.run, h1]; rfl, h2⟩

theorem ext_add64 {w0 : World} (a : Answers P f add64Entry) : ExtOK P E w0 f .add64 := by
  intro args w x y c hc hx
  subst hx
  rw [a.run, run_add64 x y c (by omega) (by omega) (by omega) (by omega)]
  simp only [Result.andThen]
  congr 5 <;> simp

theorem ext_sub64 {w0 : World} (a : Answers P f Go.Proofs.sub64Entry) : ExtOK P E w0 f .sub64 := by
  intro args w x y c hc hx
  subst hx
  rw [a.run, Go.Proofs.run_sub64 x y c hc]
  simp only [Result.andThen]
  by_cases h : x < y + c
  · rw [if_pos h, blt_iff.2 h]; rfl
  · have h' : Nat.blt x (y + c) = false := by rw [← Bool.not_eq_true, blt_iff]; exact h
    rw [if_neg h, h']; rfl

theorem ofNat_toNat {c : Nat} (h : c < 256) (x : UInt8) : (x == ((c : Int).toNat.toUInt8)) = Nat.beq x.toNat c := by
  rw [Bool.eq_iff_iff, beq_iff, beq_iff_eq]
  simp only [Int.toNat_natCast]
  constructor
  · intro e; rw [e]; simp; omega
  · intro e
    apply UInt8.toNat_inj.1
    simp
    omega

theorem findB_eq {c : Nat} (h : c < 256) : ∀ (l : List UInt8) (i : Nat), findB c l i = if Lib.indexByte l ((c : Int).toNat.toUInt8) == -1 then -1 else i + Lib.indexByte l ((c : Int).toNat.toUInt8)
  | [], i => by simp [findB, Lib.indexByte]
  | x :: l, i => by
    unfold findB Lib.indexByte
    rw [ofNat_toNat h x]
    cases hb : Nat.beq x.toNat c with
    | true => simp
    | false =>
      simp only [Bool.false_eq_true, if_false]
      rw [findB_eq h l (i + 1)]
      have := Lib.indexByte_ge l ((c : Int).toNat.toUInt8)
      generalize Lib.indexByte l ((c : Int).toNat.toUInt8) = q at this ⊢
      by_cases h1 : q = -1
      · subst h1; rfl
      · have h2 : (q == -1) = false := by simpa using h1
        have h3 : (q + 1 == -1) = false := by rw [beq_eq_false_iff_ne]; omega
        simp only [h2, Bool.false_eq_true, if_false, h3]
        omega

theorem ext_indexByte {w0 : World} (a : Answers P f Extern.BytealgIndexByte.indexByte) : ExtOK P E w0 f .indexByte := by
  intro args w b c hc hx
  subst hx
  rw [a.run, Lib.run_indexByteString]
  simp only [Result.andThen, bytesL, findB_eq hc]
  generalize Lib.indexByte b.data.toList ((c : Int).toNat.toUInt8) = q
  by_cases h1 : q = -1
  · subst h1; rfl
  · have h2 : (q == -1) = false := by simpa using h1
    simp [h2]

theorem countB_eq {c : Nat} (h : c < 256) : ∀ (l : List UInt8) (n : Nat), countB c l n = n + l.countP (fun x => x == ((c : Int).toNat.toUInt8))
  | [], n => by simp [countB]
  | x :: l, n => by
    unfold countB
    rw [List.countP_cons, ofNat_toNat h x]
    cases hb : Nat.beq x.toNat c with
    | true => simp only; rw [countB_eq h l]; simp; omega
    | false => simp only; rw [countB_eq h l]; simp

theorem ext_count {w0 : World} (a : Answers P f Extern.BytealgCount.count) : ExtOK P E w0 f .count := by
  intro args w b c hc hx
  subst hx
  rw [a.run, Lib.run_countString]
  simp only [Result.andThen, bytesL, countB_eq hc, Lib.countByte, List.count]
  simp

end
end Go.AE
namespace Go.AE
open Go.RowKit

def flatFit (k : Ty) : Option TypeDesc → Bool
  | some .bool => match k with | .bool => true | _ => false
  | some (.int a) => match k with | .int b => decide (a = b) | _ => false
  | some .string => match k with | .str => true | _ => false
  | _ => false
def flatFits (P : Program) : List Ty → List Field → Nat → Bool
  | [], [], _ => true
  | k :: ks, f :: fs, j => !(f.name == "_") && (Nat.beq f.offset j && (flatFit k (P.underlying f.type) && flatFits P ks fs (j + 1)))
  | _, _, _ => false
def eqFits (P : Program) (t : TypeId) (ks : List Ty) : Bool :=
  (match P.underlying t with
    | some (.struct fs) => flatFits P ks fs.toList 0
    | _ => false) && (!P.eqGuardType P.depth t && !P.stoodInHeld t)

section
variable {P : Program} {w : World}

theorem run_part {t : TypeId} {d : TypeDesc} (h : P.underlying t = some d) (hn : isAggTy (tyDesc d) = false) {cs : Array Value} {i : Nat} {v : Value} (hv : cs[i]? = some v) : (part t cs i).run P w = .ok v w := by
  simp [part, run_agg h (tyDesc_ok d), hn, hv]

theorem eqFields_flat (d : Nat) (xs ys : Array Value) : ∀ (ks : List Ty) (fs : List Field) (j : Nat) (b : Bool), flatFits P ks fs j = true → eqCells ks (xs.toList.drop j) (ys.toList.drop j) = some b →
    (Op.eqFields (d + 1) xs ys fs).run P w = .ok b w
  | [], [], j, b, _, e => by
    generalize xs.toList.drop j = l at e
    generalize ys.toList.drop j = m at e
    cases l <;> cases m <;> cases e
    simp [Op.eqFields]
  | [], _ :: _, _, _, h, _ => by cases h
  | _ :: _, [], _, _, h, _ => by cases h
  | k :: ks, f :: fs, j, b, h, e => by
    unfold flatFits at h
    simp only [Bool.and_eq_true, Bool.not_eq_true', beq_iff] at h
    obtain ⟨h1, h2, h3, h4⟩ := h
    have hname : f.name ≠ "_" := by simpa using h1
    cases hl : xs.toList.drop j with
    | nil => rw [hl] at e; cases k <;> cases e
    | cons x xl =>
    cases hm : ys.toList.drop j with
    | nil => rw [hl, hm] at e; cases k <;> cases x <;> cases e
    | cons y yl =>
    rw [hl, hm] at e
    have hx : xs[f.offset]? = some x := by
      have : (xs.toList.drop j)[0]? = some x := by rw [hl]; rfl
      rw [h2]; simpa using this
    have hy : ys[f.offset]? = some y := by
      have : (ys.toList.drop j)[0]? = some y := by rw [hm]; rfl
      rw [h2]; simpa using this
    have hxl : xs.toList.drop (j + 1) = xl := by rw [← List.tail_drop, hl]; rfl
    have hyl : ys.toList.drop (j + 1) = yl := by rw [← List.tail_drop, hm]; rfl
    have rest : eqCells ks xl yl = some b → (Op.eqFields (d + 1) xs ys fs).run P w = .ok b w := fun e' => eqFields_flat d xs ys ks fs (j + 1) b h4 (by rw [hxl, hyl]; exact e')
    cases hd : P.underlying f.type with
    | none => rw [hd] at h3; cases h3
    | some dd =>
    rw [hd] at h3
    have fin : isAggTy (tyDesc dd) = false → ∀ (r : Bool), (Op.equalIn (d + 1) f.type x y).run P w = .ok r w → (r = false → b = false) → (r = true → eqCells ks xl yl = some b) → (Op.eqFields (d + 1) xs ys (f :: fs)).run P w = .ok b w := by
      intro hn r hr h0 h1
      simp only [Op.eqFields, if_pos hname, Sem.run_bind, run_part hd hn hx, run_part hd hn hy, Result.andThen_ok, hr]
      cases r with
      | true => simp only [Bool.not_true, Bool.false_eq_true, if_false]; exact rest (h1 rfl)
      | false => simp only [Bool.not_false, if_true, Sem.run_pure]; rw [h0 rfl]
    cases dd <;> (try (cases h3; done))
    case bool =>
      cases k <;> (try (cases h3; done))
      cases x <;> (try (cases e; done))
      cases y <;> (try (cases e; done))
      rename_i p q
      simp only [eqCells] at e
      refine fin rfl (p == q) (run_equalIn_bool' w d _ _ _ hd) ?_ ?_
      · intro hr; rw [hr] at e; cases e; rfl
      · intro hr; rw [hr] at e; exact e
    case int a =>
      cases k <;> (try (cases h3; done))
      cases x <;> (try (cases e; done))
      cases y <;> (try (cases e; done))
      simp only [eqCells, whenB_some, Bool.and_eq_true, decide_eq_true_eq] at e
      obtain ⟨⟨h5, h6⟩, e⟩ := e
      subst h5 h6
      rename_i k1 p q
      refine fin rfl (p == q) (run_equalIn_int w d _ _ _ _ _ hd) ?_ ?_
      · intro hr; rw [hr] at e; cases e; rfl
      · intro hr; rw [hr] at e; exact e
    case string =>
      cases k <;> (try (cases h3; done))
      cases x <;> (try (cases e; done))
      cases y <;> (try (cases e; done))
      rename_i p q
      simp only [eqCells] at e
      refine fin rfl (p.toList == q.toList) (run_equalIn_string w d _ _ _ hd) ?_ ?_
      · intro hr; rw [eqB_eq, hr] at e; cases e; rfl
      · intro hr; rw [eqB_eq, hr] at e; exact e

theorem eqFits_ok {t : TypeId} {ks : List Ty} (h : eqFits P t ks = true) (xs ys : List Value) (b : Bool) (w : World) (e : eqCells ks xs ys = some b) :
    (eqGuard .eql t (.tmp 0) (.tmp 0) (.agg ⟨xs⟩) (.agg ⟨ys⟩)).run P w = .ok () w ∧ (Op.equal t (.agg ⟨xs⟩) (.agg ⟨ys⟩)).run P w = .ok b w := by
  unfold eqFits at h
  simp only [Bool.and_eq_true, Bool.not_eq_true'] at h
  obtain ⟨h1, h2, h3⟩ := h
  refine ⟨run_eqGuard_agg _ _ _ _ _ _ _ h2, ?_⟩
  cases hd : P.underlying t with
  | none => rw [hd] at h1; cases h1
  | some d =>
  rw [hd] at h1
  cases d <;> (try (cases h1; done))
  rename_i fs
  have hf : P.fieldsOf t = fs := by simp [Program.fieldsOf, hd]
  have hmax : Op.maxDepth = (Op.maxDepth - 2) + 1 + 1 := by decide
  unfold Op.equal
  rw [hmax, run_equalIn_agg w _ t _ _ (by rw [hf]; exact hd) h3, hf]
  exact eqFields_flat _ _ _ ks fs.toList 0 b h1 (by simpa using e)

/-- What a configuration owes, of the program alone. -/
structure CfgOK (P : Program) (c : Cfg) : Prop where
  ext : ∀ x ∈ c.ext, ∀ w0, ExtOK P (envOf P c) w0 x.1 x.2
  meth : methsFit P c.meth = true
  eqs : (c.eqs.all fun x => eqFits P x.1 x.2) = true
  glob : (c.glob.all fun x => Nat.blt x.1 c.nG && x.2.all plain1) = true
  byteT : (match tyOf P c.byteT with | some y => (match y.d with | .int .u8 => true | _ => false) && (Nat.beq y.size 1 && Nat.beq y.bytes 1) | none => false) = true
  spec : ∀ n args v, c.spec n args = some v → args.all plain1 = true
  mixed : P.follows .mixedOrders = true

theorem good_of (c : Cfg) (k : CfgOK P c) {w0 : World} (hg : ∀ x ∈ c.glob, ∃ el fr, w0.heap[x.1]? = some (.cells ⟨x.2⟩ el fr)) (hn : c.nG ≤ w0.heap.size) : Good P (envOf P c) w0 where
  types _ _ e := tyOf_ok e
  funcs _ _ e := funcOf_ok e
  meth t n f e := methFits_ok (methsFit_ok k.meth e)
  ext f x e := k.ext _ (lookL_mem e) w0
  specPlain := k.spec
  eqs t ks e := eqFits_ok (List.all_eq_true.1 k.eqs _ (lookL_mem e))
  glob g vs e := by
    have hm := lookL_mem e
    have := List.all_eq_true.1 k.glob _ hm
    rw [Bool.and_eq_true, blt_iff] at this
    exact ⟨this.1, this.2, hg _ hm⟩
  nG := hn
  byteTy := by
    have := k.byteT
    split at this
    · rename_i y hy
      rw [Bool.and_eq_true, Bool.and_eq_true, beq_iff, beq_iff] at this
      obtain ⟨h1, h2, h3⟩ := this
      refine ⟨y, hy, ?_, h2, h3⟩
      split at h1
      · assumption
      · cases h1
    · cases this
  mixed := k.mixed

end
end Go.AE
namespace Go.AE
open Go.RowKit

def noneTr {α : Type} : Tr α → Bool
  | .leaf => true
  | .node (some _) _ _ => false
  | .node none l r => noneTr l && noneTr r
/-- All that the second map has, the first has. -/
def subTr {α : Type} (p : α → α → Bool) : Tr α → Tr α → Bool
  | _, .leaf => true
  | .leaf, t => noneTr t
  | .node v l r, .node none l' r' => (match v with | _ => true) && (subTr p l l' && subTr p r r')
  | .node none _ _, .node (some _) _ _ => false
  | .node (some v) l r, .node (some u) l' r' => p v u && (subTr p l l' && subTr p r r')

theorem noneTr_get {α : Type} : ∀ (t : Tr α) (k : Nat), noneTr t = true → t.get k = none
  | .leaf, _, _ => rfl
  | .node (some _) _ _, _, h => by cases h
  | .node none l r, k, h => by
    simp only [noneTr, Bool.and_eq_true] at h
    unfold Tr.get
    split
    · rfl
    · split
      · exact noneTr_get l _ h.1
      · exact noneTr_get r _ h.2

theorem subTr_get {α : Type} {p : α → α → Bool} : ∀ (s t : Tr α) (k : Nat) (u : α), subTr p s t = true → t.get k = some u → ∃ v, s.get k = some v ∧ p v u = true
  | s, .leaf, k, u, _, e => by rw [Tr.get_leaf] at e; cases e
  | .leaf, .node v l r, k, u, h, e => by
    have : noneTr (.node v l r) = true := by cases v <;> exact h
    rw [noneTr_get _ k this] at e; cases e
  | .node v l r, .node u' l' r', k, u, h, e => by
    have hh : (∀ x, u' = some x → ∃ y, v = some y ∧ p y x = true) ∧ subTr p l l' = true ∧ subTr p r r' = true := by
      cases v with
      | none =>
        cases u' with
        | none =>
          simp only [subTr, Bool.true_and, Bool.and_eq_true] at h
          exact ⟨fun x hx => (by cases hx), h⟩
        | some x => simp [subTr] at h
      | some y =>
        cases u' with
        | none =>
          simp only [subTr, Bool.true_and, Bool.and_eq_true] at h
          exact ⟨fun x hx => (by cases hx), h⟩
        | some x =>
          simp only [subTr, Bool.and_eq_true] at h
          exact ⟨fun z hz => by cases hz; exact ⟨y, rfl, h.1⟩, h.2⟩
    obtain ⟨h1, h2, h3⟩ := hh
    simp only [Tr.get] at e ⊢
    cases hk : Nat.beq k 0 with
    | true =>
      rw [hk] at e
      obtain ⟨y, hy, hp⟩ := h1 u e
      exact ⟨y, hy, hp⟩
    | false =>
      rw [hk] at e
      cases hk2 : Nat.beq (k % 2) 1 with
      | true =>
        rw [hk2] at e
        exact subTr_get l l' _ u h2 e
      | false =>
        rw [hk2] at e
        exact subTr_get r r' _ u h3 e

def eqEs : List (Value × Value) → List (Value × Value) → Bool
  | [], [] => true
  | (a, b) :: l, (c, d) :: m => eqV a c && (eqV b d && eqEs l m)
  | _, _ => false
theorem eqEs_eq : ∀ {l m : List (Value × Value)}, eqEs l m = true → l = m
  | [], [], _ => rfl
  | (a, b) :: l, (c, d) :: m, h => by
    simp only [eqEs, Bool.and_eq_true] at h
    rw [eqV_eq _ _ h.1, eqV_eq _ _ h.2.1, eqEs_eq h.2.2]
  | [], _ :: _, h => by cases h
  | _ :: _, [], h => by cases h

/-- Equal objects; the record of a loop is none. -/
def eqO : AObj → AObj → Bool
  | .cells a el fz sy, .cells b el' fz' sy' => eqVs a b && (Nat.beq el el' && (Nat.beq fz fz' && (sy == sy')))
  | .iter s i, .iter t j => eqB s t && Nat.beq i j
  | .map l, .map m => eqEs l m
  | .defd, .defd => true
  | _, _ => false
theorem eqO_eq {a b : AObj} (h : eqO a b = true) : a = b := by
  cases a <;> cases b <;> simp only [eqO, Bool.and_eq_true, beq_iff, beq_iff_eq, Bool.false_eq_true] at h
  · rw [eqVs_eq _ _ h.1, h.2.1, h.2.2.1, h.2.2.2]
  · rw [(eqB_iff _ _).1 h.1, h.2]
  · rw [eqEs_eq h]
  · rfl

def eqNs : List Nat → List Nat → Bool
  | [], [] => true
  | a :: l, b :: m => Nat.beq a b && eqNs l m
  | _, _ => false
theorem eqNs_eq : ∀ {l m : List Nat}, eqNs l m = true → l = m
  | [], [], _ => rfl
  | a :: l, b :: m, h => by
    simp only [eqNs, Bool.and_eq_true, beq_iff] at h
    rw [h.1, eqNs_eq h.2]
  | [], _ :: _, h => by cases h
  | _ :: _, [], h => by cases h
def eqRo : Option Nat → Option Nat → Bool
  | none, none => true
  | some a, some b => Nat.beq a b
  | _, _ => false
theorem eqRo_eq {a b : Option Nat} (h : eqRo a b = true) : a = b := by
  cases a <;> cases b <;> simp only [eqRo, beq_iff, Bool.false_eq_true] at h
  · rfl
  · rw [h]

/-- The objects of a drawn region's allocations are still there. -/
def keepsAl (h h' : AHeap) (nt : Nat) (tm : Tr Value) : List Oper → Bool
  | [] => true
  | o :: os => (!isAlloc o.op || (match o.dst with
    | some d => Nat.blt d nt && (match tm.get d with
      | some (.pointer (some a)) => (match h.get a.block with
        | some _ => (h'.get a.block).isSome
        | none => true)
      | _ => true)
    | none => false)) && keepsAl h h' nt tm os
/-- A frame in a drawn region keeps all its temporaries. -/
def dregOk (h h' : AHeap) (nt : Nat) (tm tm' : Tr Value) : List AItem → Bool
  | .dreg ops _ _ _ :: _ => subTr eqV tm' tm && keepsAl h h' nt tm ops
  | _ => true

/-- A frame covers another, but for what it has to do. -/
def coverF (h h' : AHeap) (s t : AFrame) : Bool :=
  Nat.beq s.fn t.fn && (Nat.beq s.nt t.nt && (eqNs s.defers t.defers && ((s.ret == t.ret) && (eqRo s.roundOf t.roundOf && (dregOk h h' s.nt s.tm t.tm s.todo && subTr eqV s.tm t.tm)))))
def coverCs (h h' : AHeap) : List AFrame → List AFrame → Bool
  | [], [] => true
  | a :: l, b :: m => coverF h h' a b && coverCs h h' l m
  | _, _ => false
/-- The records of loops are laid over the rest of a heap. -/
def laidOver (h : AHeap) : List (Nat × AObj) → AHeap
  | [] => h
  | (r, o) :: l => (laidOver h l).put r o
def withLoops (t : ASt) (l : List (Nat × AObj)) : ASt := { t with h := laidOver t.h l }
def covers (s t : ASt) (l : List (Nat × AObj)) : Bool := coverF s.h (laidOver t.h l) s.fr t.fr && (coverCs s.h (laidOver t.h l) s.cs t.cs && (Nat.beq s.h.nx t.h.nx && subTr eqO s.h.objs t.h.objs))
def todosOf (s : ASt) : List (List AItem) := s.fr.todo :: s.cs.map (·.todo)
def chunk (E : Env) (n : Nat) (s t : ASt) (l : List (Nat × AObj)) : Bool × List (List AItem) × List (Option AObj) := match arun E n s with
  | some s1 => (covers s1 t l, todosOf s1, l.map fun x => s1.h.get x.1)
  | none => (false, [], [])
def told (t : ASt) (l : List (Nat × AObj)) : Bool × List (List AItem) × List (Option AObj) := (true, todosOf t, l.map fun x => some x.2)

theorem laidOver_nx (h : AHeap) : ∀ (l : List (Nat × AObj)), (laidOver h l).nx = h.nx
  | [] => rfl
  | (r, o) :: l => by simp only [laidOver, AHeap.nx_put]; exact laidOver_nx h l
theorem laidOver_get (h : AHeap) : ∀ (l : List (Nat × AObj)) (k : Nat) (o : AObj), (laidOver h l).get k = some o → (k, o) ∈ l ∨ h.get k = some o
  | [], k, o, e => .inr e
  | (r, x) :: l, k, o, e => by
    simp only [laidOver, AHeap.get_put] at e
    split at e
    · rename_i hk
      cases e
      subst hk
      exact .inl (by simp)
    · rcases laidOver_get h l k o e with h1 | h1
      · exact .inl (List.mem_cons_of_mem _ h1)
      · exact .inr h1

theorem coverF_ok {h h' : AHeap} {s t : AFrame} (e : coverF h h' s t = true) : s.fn = t.fn ∧ s.nt = t.nt ∧ s.defers = t.defers ∧ s.ret = t.ret ∧ s.roundOf = t.roundOf ∧ dregOk h h' s.nt s.tm t.tm s.todo = true ∧ ∀ k v, t.tm.get k = some v → s.tm.get k = some v := by
  simp only [coverF, Bool.and_eq_true, beq_iff, beq_iff_eq] at e
  obtain ⟨h1, h2, h3, h4, h5, h6, h7⟩ := e
  refine ⟨h1, h2, eqNs_eq h3, h4, eqRo_eq h5, h6, fun k v e => ?_⟩
  obtain ⟨u, hu, hp⟩ := subTr_get _ _ k v h7 e
  rw [hu, eqV_eq _ _ hp]

theorem keepsAl_ok {h h' : AHeap} {nt : Nat} {tm : Tr Value} : ∀ {os : List Oper}, keepsAl h h' nt tm os = true → ∀ (i : Nat) (o : Oper), os[i]? = some o → isAlloc o.op = true →
    ∃ d, o.dst = some d ∧ d < nt ∧ ∀ a, tm.get d = some (.pointer (some a)) → ∀ x, h.get a.block = some x → ∃ y, h'.get a.block = some y
  | [], _, i, o, e, _ => by simp at e
  | o' :: os, hk, i, o, e, ha => by
    simp only [keepsAl, Bool.and_eq_true] at hk
    cases i with
    | zero =>
      simp at e
      subst e
      have := hk.1
      rw [ha] at this
      simp only [Bool.not_true, Bool.false_or] at this
      cases hd : o'.dst with
      | none => rw [hd] at this; cases this
      | some d =>
        rw [hd] at this
        simp only [Bool.and_eq_true, blt_iff] at this
        refine ⟨d, rfl, this.1, fun a hta x hx => ?_⟩
        have h2 := this.2
        rw [hta] at h2
        simp only [hx] at h2
        exact Option.isSome_iff_exists.1 h2
    | succ i => exact keepsAl_ok hk.2 i o (by simpa using e) ha

section
variable {P : Program} {E : Env} {φ : Phi} {w0 w : World} {base : List Frame}

theorem TRel.sub {nt : Nat} {tm tm' : Tr Value} {tmps : Array Value} (t : TRel φ nt tm tmps) (h : ∀ k v, tm'.get k = some v → tm.get k = some v) : TRel φ nt tm' tmps := ⟨t.1, fun k v e => t.2 k v (h k v e)⟩

theorem Sim.sub {h h' : AHeap} (s : Sim E φ w0 h w) (hn : h.nx = h'.nx) (hs : ∀ k o, h'.get k = some o → h.get k = some o) : Sim E φ w0 h' w where
  obj r o l a b := s.obj r o l (hs r o a) b
  inj r r' o o' l l' a a' := s.inj r r' o o' l l' (hs _ _ a) (hs _ _ a')
  fresh r hr := by
    obtain ⟨h1, h2⟩ := s.fresh r (by omega)
    refine ⟨h1, ?_⟩
    cases hx : h'.get r with
    | none => rfl
    | some o => rw [hs r o hx] at h2; cases h2
  below := s.below
  glob g hg := by
    obtain ⟨h1, h2⟩ := s.glob g hg
    refine ⟨h1, ?_⟩
    cases hx : h'.get g with
    | none => rfl
    | some o => rw [hs g o hx] at h2; cases h2

theorem DR.sub {h h' : AHeap} {lo hi nt : Nat} {ops : List Oper} {pre : List Nat} {dn xp : Nat} {tm tm' : Tr Value} {tmps : Array Value} {dc td : List Nat} {rf : Nat → Nat} (D : DR E φ h lo hi nt ops pre dn xp tm tmps dc td rf)
    (hs : ∀ k o, h'.get k = some o → h.get k = some o) (h1 : ∀ k v, tm'.get k = some v → tm.get k = some v) (h2 : subTr eqV tm' tm = true) (h3 : keepsAl h h' nt tm ops = true) : DR E φ h' lo hi nt ops pre dn xp tm' tmps dc td rf := by
  have he : ∀ k, tm'.get k = tm.get k := by
    intro k
    cases hx : tm.get k with
    | none =>
      cases hy : tm'.get k with
      | none => rfl
      | some v => rw [h1 k v hy] at hx; cases hx
    | some v =>
      obtain ⟨u, hu, hp⟩ := subTr_get _ _ k v h2 hx
      rw [hu, eqV_eq _ _ hp]
  exact {
    st := D.st
    lin := D.lin
    d1 := D.d1
    d2 := D.d2
    dp := D.dp
    xpd := D.xpd
    size := D.size
    tms := fun t v e => D.tms t v (h1 t v e)
    al := fun i o hi hb ho ha => by
      obtain ⟨g1, g2, g3, g4, g5, el, ty, g6, g7, g8⟩ := D.al i o hi hb ho ha
      refine ⟨by rw [wantedA_congr (tm := tm) (fun t _ => he t)]; exact g1, fun d hd hn => by rw [he]; exact g2 d hd hn, g3, g4, g5, el, ty, g6, g7, ?_⟩
      obtain ⟨d, hd, hn, hk⟩ := keepsAl_ok h3 i o ho ha
      obtain ⟨y, hy⟩ := hk _ (g2 d hd hn) _ g8
      rw [hs _ _ hy] at g8
      rw [hy, g8]
    inj := D.inj }

theorem CsRel.cover {h h' : AHeap} {hi : Nat} (hs : ∀ k o, h'.get k = some o → h.get k = some o) {cs : List AFrame} {cs' : List Frame} (r : CsRel E φ h hi cs cs') : ∀ {ct : List AFrame}, coverCs h h' cs ct = true → cs.map (·.todo) = ct.map (·.todo) → CsRel E φ h' hi ct cs' := by
  induction r with
  | nil =>
    intro ct hc _
    cases ct with
    | nil => exact .nil
    | cons _ _ => cases hc
  | cons hl t d rr c ih =>
    intro ct hc ht
    cases ct with
    | nil => cases hc
    | cons f ct =>
      obtain ⟨fn, tm, nt, todo, defers, ret, roundOf⟩ := f
      simp only [coverCs, Bool.and_eq_true] at hc
      simp only [List.map_cons, List.cons.injEq] at ht
      obtain ⟨h1, h2, h3, h4, h5, h6, h7⟩ := coverF_ok hc.1
      simp only at h1 h2 h3 h4 h5 h6 h7 ht
      obtain ⟨ht1, ht2⟩ := ht
      subst h1 h2 h3 h4 h5 ht1
      refine .cons hl ?_ d rr (ih hc.2 ht2)
      cases t with
      | reg t tr => exact .reg (t.sub h7) tr
      | dreg D u tr =>
        simp only [dregOk, Bool.and_eq_true] at h6
        exact .dreg (D.sub hs h7 h6.1 h6.2) u tr
      | range t e tr => exact .range (t.sub h7) e tr

theorem SRel.cover {s t : ASt} {fr : Frame} {cs : List Frame} (r : SRel E φ w0 s fr cs w) {l : List (Nat × AObj)} (hc : covers s t l = true) (ht : todosOf s = todosOf t) (hl : l.map (fun x => s.h.get x.1) = l.map fun x => some x.2) : SRel E φ w0 (withLoops t l) fr cs w := by
  obtain ⟨⟨lo, hlo, hf, c⟩, si⟩ := r
  obtain ⟨sf, scs, sh⟩ := s
  obtain ⟨tf, tcs, th⟩ := t
  simp only [covers, Bool.and_eq_true, beq_iff] at hc
  simp only [todosOf, List.cons.injEq] at ht
  simp only at hlo hf c si hl
  obtain ⟨hc1, hc2, hc3, hc4⟩ := hc
  obtain ⟨ht1, ht2⟩ := ht
  have hs : ∀ k o, (laidOver th l).get k = some o → sh.get k = some o := fun k o e => by
    rcases laidOver_get th l k o e with e | e
    · exact List.map_inj_left.1 hl _ e
    · obtain ⟨u, hu, hp⟩ := subTr_get _ _ k o hc4 e
      rw [← eqO_eq hp]; exact hu
  have hnx : sh.nx = (laidOver th l).nx := by rw [laidOver_nx]; exact hc3
  refine ⟨⟨lo, by simp only [withLoops]; omega, ?_, c.cover hs hc2 ht2⟩, si.sub hnx hs⟩
  obtain ⟨fn, tm, nt, todo, defers, ret, roundOf⟩ := tf
  obtain ⟨h1, h2, h3, h4, h5, h6, h7⟩ := coverF_ok hc1
  simp only [withLoops]
  simp only at h1 h2 h3 h4 h5 h6 h7 ht1
  cases hf with
  | run t d r =>
    simp only at h1 h2 h3 h4 h5 h6 h7 ht1
    subst h1 h2 h3 h4 h5 ht1
    refine .run ?_ d r
    rw [← hnx]
    cases t with
    | plain t tr => exact .plain (t.sub h7) tr
    | reg t tr => exact .reg (t.sub h7) tr
    | dreg D tr =>
      simp only [dregOk, Bool.and_eq_true] at h6
      exact .dreg (D.sub hs h7 h6.1 h6.2) tr
  | ret t d r =>
    simp only at h1 h2 h3 h4 h5 h6 h7 ht1
    subst h1 h2 h3 h4 h5
    exact .ret (t.sub h7) d r

/-- A part of a run. -/
theorem chunk_sound (G : Good P E w0) {n : Nat} {s t : ASt} {l : List (Nat × AObj)} {m : Machine} (h : chunk E n s t l = told t l) (g : Goes P E w0 base m s) : Goes P E w0 base m (withLoops t l) := by
  unfold chunk told at h
  split at h
  · rename_i s1 hs
    obtain ⟨φ, fr, cs, w, h1, h2⟩ := arun_sound G n g hs
    simp only [Prod.mk.injEq] at h
    exact ⟨φ, fr, cs, w, h1, h2.cover h.1 h.2.1 h.2.2⟩
  · cases h

end

/-! ## the names of codes -/

def subCode : Code → List Nat → Code
  | c, [] => c
  | .seq a b, n :: p => match n with | 0 => subCode a p | _ => subCode b p
  | .cond _ a b, n :: p => match n with | 0 => subCode a p | _ => subCode b p
  | .block _ c, _ :: p => subCode c p
  | .loop c, _ :: p => subCode c p
  | .scope c, _ :: p => subCode c p
  | .rangeFunc _ _ a b, n :: p => match n with | 0 => subCode a p | _ => subCode b p
  | c, _ :: _ => c
def codeAt (P : Program) (f : FuncId) (p : List Nat) : Code := match (P.funcs[f]?).bind (·.body) with
  | some c => subCode c p
  | none => .skip
def opsOf : Code → Array Oper
  | .region _ ops _ => ops
  | _ => #[]

end Go.AE
namespace Go.AE
open Go.RowKit

def startFr (E : Env) (f : FuncId) (args : List Value) : Option AFrame := (E.funcs f).bind fun fn => enterA f fn args
def startOf (E : Env) (f : FuncId) (args : List Value) : ASt := match startFr E f args with
  | some fr => { fr, cs := [], h := heap0 E }
  | none => default
/-- What a run that has ended gives. -/
def resultOf (E : Env) (f : FuncId) (s : ASt) : Option Value :=
  match s.cs, s.fr.defers, s.fr.ret with
  | [], [], true => whenB (Nat.beq s.fr.fn f) ((E.funcs f).bind fun fn => (resultsA E s.h s.fr.tm fn.results.toList).bind fun vs => whenB (plainV (tupleA vs)) (some (tupleA vs)))
  | _, _, _ => none

section
variable {P : Program} {E : Env} {w0 : World} {base : List Frame}

theorem start_sound (G : Good P E w0) {f : FuncId} {args : List Value} (ha : args.all plain1 = true) (h : (startFr E f args).isSome = true) : Goes P E w0 base (lone (Frame.enter P f ⟨args⟩ .normal) base w0) (startOf E f args) := by
  obtain ⟨fr, hfr⟩ := Option.isSome_iff_exists.1 h
  unfold startOf
  rw [hfr]
  simp only [startFr, Option.bind_eq_some_iff] at hfr
  obtain ⟨fn, hf, he⟩ := hfr
  exact begin_sound G hf ha he

theorem result_sound (G : Good P E w0) {f : FuncId} {args : List Value} {s : ASt} {v : Value} (run : ∀ base, Goes P E w0 base (lone (Frame.enter P f ⟨args⟩ .normal) base w0) s) (h : resultOf E f s = some v) :
    Calls P f ⟨args⟩ w0 fun e w' => e = .returned v ∧ Below w0.heap.size w0 w' := by
  unfold resultOf at h
  split at h
  · rename_i h1 h2 h3
    simp only [whenB_some, beq_iff, Option.bind_eq_some_iff] at h
    obtain ⟨h4, fn, hf, vs, hvs, hp, h⟩ := h
    cases h
    intro cs
    obtain ⟨w', fr, b, hs, hfn, hl⟩ := end_sound G (run cs) h1 h3 h2 h4 hf hvs hp
    exact ⟨_, w', fr, ⟨rfl, b⟩, hs, hfn, hl⟩
  · cases h

end
end Go.AE
namespace Go.AE

/-! ## numbers -/

def halfOf : IntKind → Nat
  | .i8 => 128
  | .i16 => 32768
  | .i32 => 2147483648
  | .i64 => 9223372036854775808
  | .u8 => 256
  | .u16 => 65536
  | .u32 => 4294967296
  | .u64 => 18446744073709551616
/-- A number within its kind, its bits laid bare. -/
def litF {α : Type} (n : Nat) (f : Nat → α) : α := Nat.rec (f 0) (fun m _ => f (Nat.succ m)) n
def wrapN (k : IntKind) (n : Nat) : Value := match Nat.blt n (halfOf k) with
  | true => litF n fun m => .int k (.ofNat m)
  | false => .int k (k.wrap (.ofNat n))
def wrapF (k : IntKind) : Int → Value
  | .ofNat n => wrapN k n
  | .negSucc n => .int k (k.wrap (.negSucc n))
def addF (k : IntKind) : Int → Int → Value
  | .ofNat a, .ofNat b => wrapN k (Nat.add a b)
  | a, b => wrapF k (a + b)
def subF (k : IntKind) : Int → Int → Value
  | .ofNat a, .ofNat b => match Nat.ble b a with
    | true => wrapN k (Nat.sub a b)
    | false => wrapF k (.ofNat a - .ofNat b)
  | a, b => wrapF k (a - b)
def mulF (k : IntKind) : Int → Int → Value
  | .ofNat a, .ofNat b => wrapN k (Nat.mul a b)
  | a, b => wrapF k (a * b)
def andF (k : IntKind) : Int → Int → Value
  | a, b => wrapF k (BitVec.ofInt k.bits a &&& BitVec.ofInt k.bits b).toNat
def eqF : Int → Int → Bool
  | .ofNat a, .ofNat b => Nat.beq a b
  | .negSucc a, .negSucc b => Nat.beq a b
  | _, _ => false
def ltF : Int → Int → Bool
  | .ofNat a, .ofNat b => Nat.blt a b
  | .ofNat _, .negSucc _ => false
  | .negSucc _, .ofNat _ => true
  | .negSucc a, .negSucc b => Nat.blt b a
def leF : Int → Int → Bool
  | .ofNat a, .ofNat b => Nat.ble a b
  | .ofNat _, .negSucc _ => false
  | .negSucc _, .ofNat _ => true
  | .negSucc a, .negSucc b => Nat.ble b a
def notF : Bool → Bool
  | true => false
  | false => true

structure IntFn where
  run : IntKind → Int → Int → Option Value
def intF (op : BinOp) : IntFn := match op with
  | .add => ⟨fun k a b => some (addF k a b)⟩
  | .sub => ⟨fun k a b => some (subF k a b)⟩
  | .mul => ⟨fun k a b => some (mulF k a b)⟩
  | .eql => ⟨fun _ a b => some (.bool (eqF a b))⟩
  | .neq => ⟨fun _ a b => some (.bool (notF (eqF a b)))⟩
  | .lss => ⟨fun _ a b => some (.bool (ltF a b))⟩
  | .leq => ⟨fun _ a b => some (.bool (leF a b))⟩
  | .gtr => ⟨fun _ a b => some (.bool (ltF b a))⟩
  | .geq => ⟨fun _ a b => some (.bool (leF b a))⟩
  | op => ⟨fun k a b => intOp op k a b⟩

theorem litF_eq {α : Type} (n : Nat) (f : Nat → α) : litF n f = f n := by cases n <;> rfl
theorem halfOf_le (k : IntKind) (n : Nat) (h : n < halfOf k) : k.wrap (n : Int) = n := by
  have h1 : (0 : Int) ≤ (n : Int) := Int.natCast_nonneg n
  have h2 : (n : Int) < 2 ^ k.bits ∧ (k.signed = true → (n : Int) < 2 ^ (k.bits - 1)) := by
    cases k <;> simp only [halfOf] at h <;> refine ⟨?_, fun e => ?_⟩ <;> first | (cases e; done) | (show (n : Int) < _; simp only [IntKind.bits]; omega)
  have h3 : (n : Int) % 2 ^ k.bits = n := Int.emod_eq_of_lt h1 h2.1
  unfold IntKind.wrap
  simp only [h3]
  rw [if_neg]
  intro hc
  rw [Bool.and_eq_true, decide_eq_true_eq] at hc
  have := h2.2 hc.1
  omega
theorem wrapN_eq (k : IntKind) (n : Nat) : wrapN k n = .int k (k.wrap (n : Int)) := by
  unfold wrapN
  split
  · rename_i h
    rw [litF_eq]
    rw [halfOf_le k n (blt_iff.1 h)]
    rfl
  · rfl
theorem wrapF_eq (k : IntKind) (n : Int) : wrapF k n = .int k (k.wrap n) := by
  cases n with
  | ofNat n => exact wrapN_eq k n
  | negSucc n => rfl
theorem addF_eq (k : IntKind) (a b : Int) : addF k a b = .int k (k.wrap (a + b)) := by
  unfold addF
  split
  · exact wrapN_eq _ _
  · exact wrapF_eq _ _
theorem subF_eq (k : IntKind) (a b : Int) : subF k a b = .int k (k.wrap (a - b)) := by
  unfold subF
  split
  · split
    · rename_i x y h
      rw [wrapN_eq]
      rw [ble_iff] at h
      congr 2
      simp only [Int.ofNat_eq_natCast, Nat.sub_eq]
      omega
    · exact wrapF_eq _ _
  · exact wrapF_eq _ _
theorem mulF_eq (k : IntKind) (a b : Int) : mulF k a b = .int k (k.wrap (a * b)) := by
  unfold mulF
  split
  · exact wrapN_eq _ _
  · exact wrapF_eq _ _
theorem eqF_eq (a b : Int) : eqF a b = (a == b) := by
  rw [Bool.eq_iff_iff, beq_iff_eq]
  cases a <;> cases b <;> simp only [eqF, beq_iff, Int.ofNat_eq_natCast, Int.negSucc_eq] <;> (first | omega | (constructor <;> intro h <;> first | omega | (cases h; done) | trivial))
theorem ltF_eq (a b : Int) : ltF a b = decide (a < b) := by
  rw [Bool.eq_iff_iff, decide_eq_true_iff]
  cases a <;> cases b <;> simp only [ltF, blt_iff, Int.ofNat_eq_natCast, Int.negSucc_eq] <;> (first | omega | (constructor <;> intro h <;> first | omega | (cases h; done) | trivial))
theorem leF_eq (a b : Int) : leF a b = decide (a ≤ b) := by
  rw [Bool.eq_iff_iff, decide_eq_true_iff]
  cases a <;> cases b <;> simp only [leF, ble_iff, Int.ofNat_eq_natCast, Int.negSucc_eq] <;> (first | omega | (constructor <;> intro h <;> first | omega | (cases h; done) | trivial))
theorem notF_eq (a : Bool) : notF a = !a := by cases a <;> rfl
theorem intF_eq (op : BinOp) (k : IntKind) (a b : Int) : (intF op).run k a b = intOp op k a b := by
  cases op <;> simp only [intF, intOp, addF_eq, subF_eq, mulF_eq, eqF_eq, ltF_eq, leF_eq, notF_eq, bne] <;> rfl

/-! ## operands -/

structure OpndFn where
  run : Nat → Tr Value → Option Value
def opndF (x : Operand) : OpndFn := match x with
  | .tmp t => ⟨fun _ tm => tm.get t⟩
  | .const v => match plainV v with
    | true => ⟨fun _ _ => some v⟩
    | false => ⟨fun _ _ => none⟩
  | .global g => ⟨fun nG _ => whenB (Nat.blt g nG) (some (.pointer (some ⟨g, 0, none⟩)))⟩
  | .func f => ⟨fun _ _ => some (.func (.func f) ⟨[]⟩ ⟨[]⟩)⟩
theorem opndF_eq (x : Operand) (nG : Nat) (tm : Tr Value) : (opndF x).run nG tm = evalA nG tm x := by
  cases x <;> try rfl
  rename_i v
  simp only [opndF, evalA]
  cases plainV v <;> rfl

def bind1 (x : Option Value) (f : Value → Option Value) : Option Value := match x with
  | some v => f v
  | none => none
def bindR (x : Option Value) (f : Value → Option ARes) : Option ARes := match x with
  | some v => f v
  | none => none
theorem bind1_eq (x : Option Value) (f : Value → Option Value) : bind1 x f = x.bind f := by cases x <;> rfl
theorem bindR_eq (x : Option Value) (f : Value → Option ARes) : bindR x f = x.bind f := by cases x <;> rfl

def binF (E : Env) (op : BinOp) (t : TypeId) (c : Bool) (x y : Value) : Option Value :=
  match x with
  | .int k a => match y with
    | .int k' b => match op with
      | .shl => binA E .shl t c (.int k a) (.int k' b)
      | .shr => binA E .shr t c (.int k a) (.int k' b)
      | op => whenB (decide (k = k')) ((intF op).run k a b)
    | y => binA E op t c (.int k a) y
  | x => binA E op t c x y
theorem binF_eq (E : Env) (op : BinOp) (t : TypeId) (c : Bool) (x y : Value) : binF E op t c x y = binA E op t c x y := by
  unfold binF
  split
  · split
    · split
      · rfl
      · rfl
      · rename_i h1 h2
        rw [intF_eq]
        cases op <;> first | rfl | exact absurd rfl h1 | exact absurd rfl h2
    · rfl
  · rfl

/-! ## operations -/

structure OpFn where
  run : Env → Tr Value → AHeap → Option ARes

def oBin (op : BinOp) (t : TypeId) (x y : Operand) (c : Bool) (E : Env) (tm : Tr Value) (h : AHeap) : Option ARes :=
  bindR ((opndF x).run E.nG tm) fun a => bindR ((opndF y).run E.nG tm) fun b => keepH h (binF E op t c a b)
def oLoad (t : TypeId) (a : Operand) (E : Env) (tm : Tr Value) (h : AHeap) : Option ARes :=
  bindR ((opndF a).run E.nG tm) fun v => keepH h (loadA E h t v)
def oStore (t : TypeId) (a x : Operand) (E : Env) (tm : Tr Value) (h : AHeap) : Option ARes :=
  bindR ((opndF a).run E.nG tm) fun v => bindR ((opndF x).run E.nG tm) fun y => (storeA E h t v y).bind fun h' => some (.skip h')
def oMove (x : Operand) (E : Env) (tm : Tr Value) (h : AHeap) : Option ARes := bindR ((opndF x).run E.nG tm) fun v => some (.val v h)
def oExtract (x : Operand) (i : Nat) (E : Env) (tm : Tr Value) (h : AHeap) : Option ARes :=
  bindR ((opndF x).run E.nG tm) fun v => keepH h ((tupOf v).bind fun vs => nth vs i)
def oNil (x : Operand) (E : Env) (tm : Tr Value) (h : AHeap) : Option ARes := bindR ((opndF x).run E.nG tm) fun v => keepH h (nilCheckA E v)
def oFieldAddr (s : TypeId) (x : Operand) (f : Nat) (E : Env) (tm : Tr Value) (h : AHeap) : Option ARes :=
  bindR ((opndF x).run E.nG tm) fun v => keepH h ((addrOf v).bind fun a => (E.types s).bind fun ty => (fieldOf ty.d f).bind fun p => (E.types p.2).bind fun fty =>
      whenB (Nat.blt 0 fty.size) (some (.pointer (some (addA a p.1)))))
def oIndexAddr (t : TypeId) (x i : Operand) (E : Env) (tm : Tr Value) (h : AHeap) : Option ARes :=
  bindR ((opndF x).run E.nG tm) fun vx => bindR ((opndF i).run E.nG tm) fun vi => keepH h ((E.types t).bind fun ty => indexAddrA E ty.d vx vi)
def oIndex (t : TypeId) (x i : Operand) (E : Env) (tm : Tr Value) (h : AHeap) : Option ARes :=
  bindR ((opndF x).run E.nG tm) fun vx => bindR ((opndF i).run E.nG tm) fun vi => keepH h ((E.types t).bind fun ty => indexA E ty.d vx vi)

def opF (op : Op) : OpFn := match op with
  | .move x => ⟨oMove x⟩
  | .assign x => ⟨oMove x⟩
  | .load t a => ⟨oLoad t a⟩
  | .store t a x => ⟨oStore t a x⟩
  | .nilCheck x => ⟨oNil x⟩
  | .fieldAddr s x f => ⟨oFieldAddr s x f⟩
  | .indexAddr t x i => ⟨oIndexAddr t x i⟩
  | .index t x i => ⟨oIndex t x i⟩
  | .extract x i => ⟨oExtract x i⟩
  | .binOp op t x y _ => match isConst x || isConst y with
    | true => ⟨oBin op t x y true⟩
    | false => ⟨oBin op t x y false⟩
  | .call c => ⟨fun E tm h => callOpA E tm h c⟩
  | op => ⟨fun E tm h => opA E tm h { (default : Oper) with op }⟩

theorem opA_op (E : Env) (tm : Tr Value) (h : AHeap) (o : Oper) : opA E tm h { (default : Oper) with op := o.op } = opA E tm h o := rfl

theorem opF_eq (E : Env) (tm : Tr Value) (h : AHeap) (o : Oper) : (opF o.op).run E tm h = opA E tm h o := by
  rw [← opA_op]
  generalize o.op = op
  have kb : ∀ (x : Option Value) (f : Value → Option Value), keepH h (x.bind f) = bindR x fun v => keepH h (f v) := by
    intro x f; cases x <;> rfl
  have km : ∀ (x : Option Value), keepH h x = bindR x fun v => some (.val v h) := by
    intro x; cases x <;> rfl
  cases op <;> first
    | rfl
    | (simp only [opF, opA, oMove, opndF_eq]; exact (km _).symm)
    | (simp only [opF, opA, oLoad, oNil, oExtract, oFieldAddr, opndF_eq, kb]; done)
    | (simp only [opF, opA, oIndexAddr, oIndex, opndF_eq, kb]; done)
    | (simp only [opF, opA, oStore, opndF_eq, bindR_eq]; done)
    | (simp only [opF, opA, kb]; split <;> simp only [oBin, opndF_eq, bindR_eq, binF_eq, *])

end Go.AE
namespace Go.AE

structure ItFn where
  run : Env → FuncId → Tr Value → Nat → List AItem → List Nat → Option Nat → List AFrame → AHeap → Option ASt

def toF (_ : Env) (fn : FuncId) (tm : Tr Value) (nt : Nat) (k : List AItem) (d : List Nat) (ro : Option Nat) (cs : List AFrame) (h : AHeap) : Option ASt :=
  some ⟨⟨fn, tm, nt, k, d, false, ro⟩, cs, h⟩
def condF (c : Operand) (a b : Code) (E : Env) (fn : FuncId) (tm : Tr Value) (nt : Nat) (k : List AItem) (d : List Nat) (ro : Option Nat) (cs : List AFrame) (h : AHeap) : Option ASt :=
  match (opndF c).run E.nG tm with
  | some (.bool b') => match b' with
    | true => some ⟨⟨fn, tm, nt, .code a :: k, d, false, ro⟩, cs, h⟩
    | false => some ⟨⟨fn, tm, nt, .code b :: k, d, false, ro⟩, cs, h⟩
  | _ => none
def codeF (c : Code) : ItFn := match c with
  | .skip => ⟨toF⟩
  | .seq a b => ⟨fun _ fn tm nt k d ro cs h => some ⟨⟨fn, tm, nt, .code a :: .code b :: k, d, false, ro⟩, cs, h⟩⟩
  | .cond c a b => ⟨condF c a b⟩
  | .block id c => ⟨fun _ fn tm nt k d ro cs h => some ⟨⟨fn, tm, nt, .code c :: .inBlock id :: k, d, false, ro⟩, cs, h⟩⟩
  | .loop c => ⟨fun _ fn tm nt k d ro cs h => some ⟨⟨fn, tm, nt, .code c :: .inLoop c :: k, d, false, ro⟩, cs, h⟩⟩
  | .scope c => ⟨fun _ fn tm nt k d ro cs h => some ⟨⟨fn, tm, nt, .code c :: .inScope c :: k, d, false, ro⟩, cs, h⟩⟩
  | .region _ ops false => ⟨fun _ fn tm nt k d ro cs h => some ⟨⟨fn, tm, nt, .reg ops 0 ops.size :: k, d, false, ro⟩, cs, h⟩⟩
  | c => ⟨fun E fn tm nt k d ro cs h => astep E ⟨⟨fn, tm, nt, .code c :: k, d, false, ro⟩, cs, h⟩⟩

def regRes (E : Env) (ops : Array Oper) (i n : Nat) (dst : Option Tmp) (fn : FuncId) (tm : Tr Value) (nt : Nat) (k : List AItem) (d : List Nat) (ro : Option Nat) (cs : List AFrame) (h : AHeap) (r : Option ARes) : Option ASt :=
  match r with
  | none => none
  | some r => match r with
    | .val v h' => some ⟨⟨fn, putA nt tm dst v, nt, .reg ops (i + 1) n :: k, d, false, ro⟩, cs, h'⟩
    | .skip h' => some ⟨⟨fn, putA nt tm dst undef, nt, .reg ops (i + 1) n :: k, d, false, ro⟩, cs, h'⟩
    | r => doRes E ⟨⟨fn, tm, nt, .reg ops i n :: k, d, false, ro⟩, cs, h⟩ r
def wantF (w : Option Bool) (E : Env) (ops : Array Oper) (i n : Nat) (o : Oper) (fn : FuncId) (tm : Tr Value) (nt : Nat) (k : List AItem) (d : List Nat) (ro : Option Nat) (cs : List AFrame) (h : AHeap) : Option ASt :=
  match w with
  | none => none
  | some w => match w with
    | false => some ⟨⟨fn, putA nt tm o.dst undef, nt, .reg ops (i + 1) n :: k, d, false, ro⟩, cs, h⟩
    | true => regRes E ops i n o.dst fn tm nt k d ro cs h ((opF o.op).run E tm h)
def regF (ops : Array Oper) (i n : Nat) : ItFn := match Nat.blt i n with
  | false => ⟨toF⟩
  | true => match nth ops.toList i with
    | none => ⟨fun _ _ _ _ _ _ _ _ _ => none⟩
    | some o => match o.guard with
      | none => ⟨fun E fn tm nt k d ro cs h => regRes E ops i n o.dst fn tm nt k d ro cs h ((opF o.op).run E tm h)⟩
      | some _ => ⟨fun E fn tm nt k d ro cs h => wantF (wantedA tm ops.toList o) E ops i n o fn tm nt k d ro cs h⟩

def itemF (it : AItem) : ItFn := match it with
  | .code c => codeF c
  | .inBlock _ => ⟨toF⟩
  | .inScope _ => ⟨toF⟩
  | .inLoop c => ⟨fun _ fn tm nt k d ro cs h => some ⟨⟨fn, tm, nt, .code c :: .inLoop c :: k, d, false, ro⟩, cs, h⟩⟩
  | .reg ops i n => regF ops i n
  | it => ⟨fun E fn tm nt k d ro cs h => astep E ⟨⟨fn, tm, nt, it :: k, d, false, ro⟩, cs, h⟩⟩

def todoF (E : Env) (fn : FuncId) (tm : Tr Value) (nt : Nat) (d : List Nat) (ro : Option Nat) (cs : List AFrame) (h : AHeap) (todo : List AItem) : Option ASt :=
  match todo with
  | [] => leaveF ⟨⟨fn, tm, nt, [], d, false, ro⟩, cs, h⟩ none
  | it :: k => (itemF it).run E fn tm nt k d ro cs h
def astepF (E : Env) (s : ASt) : Option ASt :=
  match s with
  | ⟨⟨fn, tm, nt, todo, d, ret, ro⟩, cs, h⟩ => match ret with
    | true => stepRet E ⟨⟨fn, tm, nt, todo, d, true, ro⟩, cs, h⟩
    | false => todoF E fn tm nt d ro cs h todo

theorem codeF_eq (E : Env) (c : Code) (fn : FuncId) (tm : Tr Value) (nt : Nat) (k : List AItem) (d : List Nat) (ro : Option Nat) (cs : List AFrame) (h : AHeap) :
    (codeF c).run E fn tm nt k d ro cs h = astep E ⟨⟨fn, tm, nt, .code c :: k, d, false, ro⟩, cs, h⟩ := by
  unfold codeF
  split <;> try rfl
  rename_i c a b
  simp only [condF, opndF_eq, astep]
  cases evalA E.nG tm c with
  | none => rfl
  | some v =>
    simp only [Option.bind_some]
    cases v <;> try rfl
    rename_i b'
    cases b' <;> rfl

theorem regRes_eq (E : Env) (ops : Array Oper) (i n : Nat) (o : Oper) (ho : nth ops.toList i = some o) (fn : FuncId) (tm : Tr Value) (nt : Nat) (k : List AItem) (d : List Nat) (ro : Option Nat) (cs : List AFrame) (h : AHeap) (r : Option ARes) :
    regRes E ops i n o.dst fn tm nt k d ro cs h r = r.bind fun r => doRes E ⟨⟨fn, tm, nt, .reg ops i n :: k, d, false, ro⟩, cs, h⟩ r := by
  cases r with
  | none => rfl
  | some r =>
    cases r <;> simp only [regRes, Option.bind_some] <;> simp only [doRes, finishA, ho, Option.bind_some]

theorem regF_eq (E : Env) (ops : Array Oper) (i n : Nat) (fn : FuncId) (tm : Tr Value) (nt : Nat) (k : List AItem) (d : List Nat) (ro : Option Nat) (cs : List AFrame) (h : AHeap) :
    (regF ops i n).run E fn tm nt k d ro cs h = astep E ⟨⟨fn, tm, nt, .reg ops i n :: k, d, false, ro⟩, cs, h⟩ := by
  unfold regF astep
  simp only
  split
  · rename_i hb
    simp only [hb]
    rfl
  · rename_i hb
    simp only [hb]
    split
    · rename_i hn
      simp only [hn, Option.bind_none]
    · rename_i o ho
      simp only [ho, Option.bind_some]
      split
      · rename_i hg
        have hw : wantedA tm ops.toList o = some true := by unfold wantedA; rw [hg]
        rw [hw]
        simp only [Option.bind_some]
        rw [regRes_eq E ops i n o ho, opF_eq]
      · show wantF (wantedA tm ops.toList o) E ops i n o fn tm nt k d ro cs h = _
        generalize wantedA tm ops.toList o = w
        cases w with
        | none => rfl
        | some w =>
          cases w
          · rfl
          · simp only [wantF, Option.bind_some]
            rw [regRes_eq E ops i n o ho, opF_eq]

theorem astepF_eq (E : Env) (s : ASt) : astepF E s = astep E s := by
  obtain ⟨⟨fn, tm, nt, todo, d, ret, ro⟩, cs, h⟩ := s
  cases ret with
  | true => rfl
  | false =>
    cases todo with
    | nil => rfl
    | cons it k =>
      simp only [astepF, todoF]
      cases it <;> simp only [itemF]
      case code c => exact codeF_eq ..
      case reg ops i n => exact regF_eq ..
      all_goals rfl

def nextF (ih : ASt → Option ASt) (r : Option ASt) : Option ASt := match r with
  | some s => ih s
  | none => none
noncomputable def frun (E : Env) (n : Nat) : ASt → Option ASt := Nat.rec (fun s => some s) (fun _ ih s => nextF ih (astepF E s)) n
theorem frun_eq (E : Env) : ∀ (n : Nat) (s : ASt), frun E n s = arun E n s
  | 0, s => rfl
  | n + 1, s => by
    have : frun E (n + 1) s = nextF (frun E n) (astepF E s) := rfl
    rw [this, astepF_eq, arun]
    cases astep E s with
    | none => rfl
    | some s' => exact frun_eq E n s'

noncomputable def chunkF (E : Env) (n : Nat) (s t : ASt) (l : List (Nat × AObj)) : Bool × List (List AItem) × List (Option AObj) := match frun E n s with
  | some s1 => (covers s1 t l, todosOf s1, l.map fun x => s1.h.get x.1)
  | none => (false, [], [])
theorem chunkF_eq (E : Env) (n : Nat) (s t : ASt) (l : List (Nat × AObj)) : chunkF E n s t l = chunk E n s t l := by
  unfold chunkF chunk
  rw [frun_eq]
  try rfl

end Go.AE
namespace Go.AE
open Go.RowKit Go.ChangeShapes

theorem intsL_eq (k : IntKind) : ∀ l : List Int, intsL k l = l.map fun z => Value.int k z
  | [] => rfl
  | x :: l => by simp [intsL, intsL_eq k l]

theorem laidVars_reads {P : Program} {w : World} : ∀ {l : List (String × DataW Unit)} {ps : List MemPlace}, DataW.LaidVars P w l ps → ∀ n d, (n, d) ∈ l →
    ∃ g t cs fuel p, P.globalNamed n = some g ∧ (P.globals[g]?).map (·.type) = some t ∧ w.var? P n = some cs ∧ DataW.trod (fun _ => ()) P w 0 (fun _ => true) false fuel t cs.toList = some (d, p)
  | [], _, _, _, _, hm => by cases hm
  | (_, _) :: _, _, h, n, d, hm => by
    obtain ⟨g, t, cs, fuel, p, q, h1, h2, h3, h4, h5, _⟩ := h
    rcases List.mem_cons.1 hm with e | e
    · cases e
      exact ⟨g, t, cs, fuel, p, h1, h2, h3, h4⟩
    · exact laidVars_reads h5 n d e

/-- A listed array of numbers lies in memory, cell for cell. -/
theorem table_cells {P : Program} {W : World} {l : List (String × DataW Unit)} (h : laidMet P l W) {name : String} {k : IntKind} {zs : List Int} (hm : (name, Lib.tabData k zs) ∈ l) {g : Nat} {t e : TypeId} {n : Nat}
    (hg : P.globalNamed name = some g) (hty : (P.globals[g]?).map (·.type) = some t) (ht : P.underlying t = some (.array n e)) (he : P.underlying e = some (.int k)) (hce : P.cellsOf e = 1) (hct : P.cellsOf t = n) :
    ∃ el fr, W.heap[g]? = some (.cells ⟨intsL k zs⟩ el fr) := by
  obtain ⟨ps, hv, _⟩ := h
  obtain ⟨g', t', cs, fuel, p, h1, h2, h3, h4⟩ := laidVars_reads hv _ _ hm
  obtain rfl := Option.some.inj (hg.symm.trans h1)
  obtain rfl := Option.some.inj (hty.symm.trans h2)
  have hc := Lib.cells_of_tab ht he hce hct h4
  rw [intsL_eq, ← hc]
  unfold World.var? at h3
  rw [hg] at h3
  simp only [Option.bind_some] at h3
  split at h3
  · rename_i cs' el fr hh
    cases h3
    exact ⟨el, fr, hh⟩
  · cases h3

variable {H : Type} {enc : TypeId × Value → H} {P : Program}

/-- The post of a row whose arguments read as they did, behind a call that has left old memory alone. -/
theorem post_of_below {f : Func} {s : ChangeSpec} {apart fresh handsOn again : Bool} {W W' : World} {args : Array Value} {v : Value} {ds gs : List (DataW H)} {before pa pv : List MemPlace}
    (hW : DataW.Whole enc P f.params.toList s.vars apart W args.toList ds gs before) (hB : Below W.heap.size W W')
    (hres : ∀ (b : Nat) (sp : Nat → Bool) (hd : Bool), DataW.TrodAll enc P W' b sp hd f.resultTypes.toList (v.resultList f.resultTypes.size) (s.fn H (ds ++ gs)).results [])
    (hargs : ∀ sp : Nat → Bool, (∀ p ∈ before, sp p.block = true) → DataW.TrodAll enc P W' 0 sp true f.params.toList args.toList (s.fn H (ds ++ gs)).args pa)
    (hvars : ∀ sp : Nat → Bool, (∀ p ∈ before, sp p.block = true) → DataW.TrodVars enc P W' sp s.vars (s.fn H (ds ++ gs)).vars pv)
    (hps : before = pa ++ pv)
    (hok : ∀ (j : Nat) (t : TypeId) (r : Value), f.resultTypes[j]? = some t → (v.resultList f.resultTypes.size)[j]? = some r → Value.okWide P W' .any 0 t r) :
    s.post enc P f apart fresh handsOn again W args v W' := by
  have hlt : ∀ p ∈ before, p.block < W.heap.size := fun p hp => hW.lt p hp
  have hold : ∀ p ∈ before, (fun b => decide (b < W.heap.size)) p.block = true := fun p hp => by simpa using hlt p hp
  refine ⟨ds, gs, before, [], pa, pv, hW, hres _ _ _, hargs _ hold, hvars _ hold, World.keptBut_mono (fun p hp => ⟨hp, ?_⟩) (hB.frame (· ∈ before)), fun _ => ?_⟩
  · rw [hps, List.mem_append] at hp
    exact Or.inr hp
  · obtain ⟨_, _, _, _, _, hz, hn⟩ := hW
    refine ⟨hok, _, _, ([] ++ pa) ++ pv, ⟨[] ++ pa, pv, trodAll_append (hargs _ (fun _ _ => rfl)) (hres _ _ _), hvars _ (fun _ _ => rfl), rfl, ?_, ?_⟩, ?_⟩
    · intro b off hp
      have hp' : MemPlace.cell b off ∈ before := by rw [hps]; simpa using hp
      rw [hB.frozen (hlt _ hp')]
      exact hz b off hp'
    · intro ha
      have := hn ha
      rw [hps] at this
      simpa using this
    · intro p hp _
      rw [hps]
      simpa using hp

end Go.AE
