/- The abstract machine's tables off the program, runs in parts, and the same steps in small definitions. No condition. -/
import Derived.Test.YteafbeealhpelaaGreatDoorAfC
import Derived.Laws.Externs
import Derived.Lib.MakeNoZero
import Derived.Shelf.Spec.BitsCarry
import Derived.Lib.Bytealg
import Derived.Laws.LoneSync
import Derived.Laws.StructEq
import Derived.Lib.LaidTab
import Derived.ChangeSame
import Derived.ProofKit
import Derived.Lib.Index
namespace Go.AE
open Go.RowKit

/-- The heap at the begin of a run: the globals, of which nothing is written. -/
def heap0 (E : Env) : AHeap := ⟨E.nG, .leaf⟩
def phi0 (E : Env) : Phi := fun r => match decide (r < E.nG) with
  | true => some ⟨r, 0, 0, 0⟩
  | false => none

section
variable {P : Program} {E : Env} {φ : Phi} {w0 w : World} {base : List Frame}

theorem phi0_lt {r : Nat} (h : r < E.nG) : phi0 E r = some ⟨r, 0, 0, 0⟩ := by simp [phi0, h]
theorem phi0_ge {r : Nat} (h : E.nG ≤ r) : phi0 E r = none := by simp [phi0, Nat.not_lt.2 h]
theorem heap0_get (r : Nat) : (heap0 E).get r = none := Tr.get_leaf r

theorem sim0 : Sim E (phi0 E) w0 (heap0 E) w0 where
  obj r o l h := by rw [heap0_get] at h; cases h
  inj r r' o o' l l' h := by rw [heap0_get] at h; cases h
  fresh r h := ⟨phi0_ge h, heap0_get r⟩
  below := .refl _ _
  glob g h := ⟨phi0_lt h, heap0_get g⟩

/-- The run begins. -/
theorem begin_sound (G : Good P E w0) {f : FuncId} {fn : Func} (hf : E.funcs f = some fn) {args : List Value} (ha : args.all plain1 = true) {fr : AFrame} (e : enterA f fn args = some fr) :
    Goes P E w0 base (lone (Frame.enter P f ⟨args⟩ .normal) base w0) { fr, cs := [], h := heap0 E } := by
  unfold enterA at e
  simp only [Option.bind_eq_some_iff] at e
  obtain ⟨cb, hcb, e⟩ := e
  cases e
  obtain ⟨g1, g2, g3⟩ := G.funcs f fn hf
  have hen : Frame.enter P f ⟨args⟩ .normal = mk f (⟨args⟩ ++ Array.replicate (fn.ntmps - (⟨args⟩ : Array Value).size) undef) [.code cb] [] (none, false) := by
    simp [Frame.enter, g1, hcb, mk, kindOf]
  refine ⟨phi0 E, _, [], w0, .refl _ _, ⟨(heap0 E).nx, Nat.le_refl _, ?_, .nil⟩, sim0⟩
  rw [hen]
  refine .run (.plain ⟨?_, ?_⟩ (.code cb .nil)) .nil .none
  · rw [lenL_eq]
    simp
    omega
  · intro x v hx
    rw [argsTm_get] at hx
    split at hx
    · rename_i hc
      simp only [Nat.sub_zero, Nat.zero_add] at hx hc
      have hu' : (⟨args⟩ : Array Value)[x]? = some v := by simpa using hx
      have hlt : x < (⟨args⟩ : Array Value).size := (Array.getElem?_eq_some_iff.1 hu').1
      have hp : plain1 v = true := List.all_eq_true.1 ha v (List.mem_of_getElem? hx)
      exact ⟨v, by rw [Array.getElem?_append, if_pos hlt]; exact hu', plain1_rel hp⟩
    · rw [Tr.get_leaf] at hx; cases hx

theorem plainV_eq {v u : Value} (h : plainV v = true) (r : VRel φ v u) : u = v := by
  have key : ∀ {v u : Value}, plain1 v = true → VRel φ v u → u = v := by
    intro v u h r
    have := plainL_eq (a := [v]) (b := [u]) (by simpa using h) (.cons r .nil)
    simpa using this
  cases v with
  | agg a =>
    obtain ⟨a⟩ := a
    cases r with
    | agg r => rw [plainL_eq h r]
  | tuple a =>
    obtain ⟨a⟩ := a
    cases r with
    | tuple r => rw [plainL_eq h r]
  | _ => exact key h r

/-- The run has ended. -/
theorem end_sound (G : Good P E w0) {f : FuncId} {m : Machine} {s : ASt} (g : Goes P E w0 base m s) (h1 : s.cs = []) (h2 : s.fr.ret = true) (h3 : s.fr.defers = []) (h4 : s.fr.fn = f) {fn : Func} (hf : E.funcs f = some fn)
    {vs : List Value} (h5 : resultsA E s.h s.fr.tm fn.results.toList = some vs) (h6 : plainV (tupleA vs) = true) (h7 : s.fr.roundOf.2 = false) :
    ∃ w' fr, Below w0.heap.size w0 w' ∧ Steps P m (lone fr base w') ∧ fr.fn = f ∧ fr.leaving P w' (.returned (tupleA vs)) := by
  obtain ⟨φ, fr, cs, w, hs, ⟨lo, hlo, hfr, c⟩, si⟩ := g
  obtain ⟨fa, ca, h⟩ := s
  simp only at h1 h2 h3 h4 h5 h7 hlo hfr c si
  subst h1
  cases c
  cases hfr with
  | run t d r => cases h2
  | ret t d r =>
    simp only at h3 h4 h5
    subst h3 h4
    cases d
    obtain ⟨v', hr, hv⟩ := resultsA_sound G si t h5
    have := plainV_eq h6 hv
    subst this
    cases r with
    | none =>
      simp only at h7
      subst h7
      exact ⟨w, _, si.below, hs, rfl, rfl, rfl, rfl, fn, (G.funcs _ _ hf).1, hr⟩
    | some =>
      exact ⟨w, _, si.below, hs, rfl, rfl, rfl, rfl, fn, (G.funcs _ _ hf).1, hr⟩

end
end Go.AE
namespace Go.AE
open Go.RowKit

def tyDesc : TypeDesc → Ty
  | .struct fs => .struct (fs.toList.map fun f => (f.offset, f.type))
  | .array n e => .array n e
  | .slice e => .slice e
  | .string => .str
  | .map k e => .map k e
  | .interface ms => .iface ms.isEmpty
  | .pointer e => .ptr e
  | .int k => .int k
  | .bool => .bool
  | .func _ _ _ => .func
  | .unsafePointer => .rawPtr
  | _ => .other

def fieldsKnown (P : Program) : TypeDesc → Bool
  | .struct fs => fs.toList.all fun f => (P.info? f.type).isSome
  | _ => true
def zeroFits (t : Ty) : Value → Bool
  | .agg _ => isAggTy t
  | _ => !isAggTy t

def tyOf (P : Program) (t : TypeId) : Option TyI :=
  (P.info? t).bind fun i => (P.underlying t).bind fun d => i.zero.bind fun z =>
    whenB (fieldsKnown P d && (zeroFits (tyDesc d) z && (Nat.beq (lenL (cellsOf z)) i.size && (cellsOf z).all plain1))) (some ⟨tyDesc d, i.size, i.bytes, cellsOf z⟩)

def funcOf (P : Program) (f : FuncId) : Option Func :=
  (P.funcs[f]?).bind fun fn => whenB (fn.body.isSome && !(fn.name == "runtime.NumGoroutine")) (some fn)

def lookL {α : Type} (n : Nat) : List (Nat × α) → Option α
  | [] => none
  | (k, v) :: l => match Nat.beq k n with
    | true => some v
    | false => lookL n l
def lookS {α : Type} (n : String) : List (String × α) → Option α
  | [] => none
  | (k, v) :: l => match k == n with
    | true => some v
    | false => lookS n l

def intsL (k : IntKind) : List Int → List Value
  | [] => []
  | x :: l => .int k x :: intsL k l

structure Cfg where
  ext : List (Nat × ExtK)
  meth : List (Nat × List (String × FuncId))
  eqs : List (Nat × List Ty)
  glob : List (Nat × List Value)
  spec : Nat → List Value → Option Value
  byteT : Nat
  nG : Nat

def envOf (P : Program) (c : Cfg) : Env where
  funcs := funcOf P
  types := tyOf P
  ext f := lookL f c.ext
  meth t n := (lookL t c.meth).bind (lookS n)
  spec := c.spec
  eqs t := lookL t c.eqs
  glob g := lookL g c.glob
  byteT := c.byteT
  nG := c.nG

end Go.AE
namespace Go.AE
open Go.RowKit

section
variable {P : Program} {w : World}

theorem tyDesc_ok (d : TypeDesc) : DescOK d (tyDesc d) := by
  cases d <;> simp [tyDesc, DescOK]

theorem cellsOf_eq (z : Value) : cellsOf z = z.cells.toList := by
  cases z <;> rfl

theorem tyOf_ok {t : TypeId} {y : TyI} (e : tyOf P t = some y) : TyOK P t y := by
  unfold tyOf at e
  simp only [Option.bind_eq_some_iff, whenB_some, Bool.and_eq_true, beq_iff, lenL_eq] at e
  obtain ⟨i, hi, d, hd, z, hz, ⟨h1, h2, h3, h4⟩, e⟩ := e
  cases e
  refine ⟨⟨i, d, z, hi, hd, rfl, rfl, hz, tyDesc_ok d, (cellsOf_eq z).symm, ?_, ?_⟩, h3, h4, ?_⟩
  · intro ha
    cases z <;> simp only [zeroFits, ha, Bool.not_true, Bool.false_eq_true] at h2
    rename_i a
    cases a
    rfl
  · intro ha
    cases z <;> simp only [zeroFits, ha, Bool.false_eq_true] at h2 <;> rfl
  · intro fs hfs f hf
    rw [hd] at hfs
    cases hfs
    exact List.all_eq_true.1 h1 f hf

theorem funcOf_ok {f : FuncId} {fn : Func} (e : funcOf P f = some fn) : P.funcs[f]? = some fn ∧ fn.body.isSome = true ∧ (fn.name == "runtime.NumGoroutine") = false := by
  unfold funcOf at e
  simp only [Option.bind_eq_some_iff, whenB_some, Bool.and_eq_true, Bool.not_eq_true'] at e
  obtain ⟨fn', h1, ⟨h2, h3⟩, e⟩ := e
  cases e
  exact ⟨h1, h2, h3⟩

def isPtrD : TypeDesc → Bool
  | .pointer _ => true
  | _ => false
/-- A method of a type that is no pointer with the value as its receiver, or a pointer's method of a pointer. -/
def methFits (P : Program) (t : TypeId) (n : String) (f : FuncId) : Bool :=
  match P.info? t, P.underlying t with
  | some i, some d => (match i.methods.find? (·.name == n) with
    | some m => m.path.isEmpty && (match m.func with
      | some (g, b) => Nat.beq f g && (b == isPtrD d)
      | _ => false)
    | none => false)
  | _, _ => false

theorem methFits_ok {t : TypeId} {n : String} {f : FuncId} (h : methFits P t n f = true) (v : Value) (w : World) :
    (method (P.types.size + Made.depth) t v n).run P w = .ok (f, v) w ∧ (nilAhead (P.types.size + Made.depth) t v n).run P w = .ok (some false) w := by
  unfold methFits at h
  split at h
  · rename_i i d hi hd
    split at h
    · rename_i m hm
      rw [Bool.and_eq_true] at h
      obtain ⟨h0, h1⟩ := h
      split at h1
      · rename_i g b hg
        rw [Bool.and_eq_true, beq_iff, beq_iff_eq] at h1
        obtain ⟨rfl, h2⟩ := h1
        have hp : m.path.toList = [] := by
          have : m.path = #[] := by simpa using h0
          rw [this]
        have hdep : P.types.size + Made.depth = (P.types.size + Made.depth - 1) + 1 := by
          have : 0 < Made.depth := by decide
          omega
        rw [hdep]
        constructor
        · simp only [method, Sem.run_bind, run_inf hi, Result.andThen_ok, hm, hp, follow, Sem.run_pure, hg, receiverAt, run_und hd]
          cases d <;> simp only [isPtrD] at h2 <;> subst h2 <;> simp [Place.get]
        · simp only [nilAhead, Sem.run_bind, run_inf hi, Result.andThen_ok, hm, hp, followBlind, Sem.run_pure, hg]
          cases d <;> simp only [isPtrD] at h2 <;> subst h2 <;> simp [run_und hd]
      · cases h1
    · cases h
  · cases h

theorem lookL_mem {α : Type} {n : Nat} : ∀ {l : List (Nat × α)} {v : α}, lookL n l = some v → (n, v) ∈ l
  | (k, x) :: l, v, h => by
    unfold lookL at h
    split at h
    · rename_i hb
      rw [beq_iff] at hb
      cases h
      subst hb
      simp
    · exact List.mem_cons_of_mem _ (lookL_mem h)
theorem lookS_mem {α : Type} {n : String} : ∀ {l : List (String × α)} {v : α}, lookS n l = some v → (n, v) ∈ l
  | (k, x) :: l, v, h => by
    unfold lookS at h
    split at h
    · rename_i hb
      have : k = n := by simpa using hb
      cases h
      subst this
      simp
    · exact List.mem_cons_of_mem _ (lookS_mem h)

def methsFit (P : Program) (l : List (Nat × List (String × FuncId))) : Bool := l.all fun x => x.2.all fun y => methFits P x.1 y.1 y.2
theorem methsFit_ok {l : List (Nat × List (String × FuncId))} (h : methsFit P l = true) {t : TypeId} {n : String} {f : FuncId} (e : (lookL t l).bind (lookS n) = some f) : methFits P t n f = true := by
  simp only [Option.bind_eq_some_iff] at e
  obtain ⟨ms, h1, h2⟩ := e
  have := List.all_eq_true.1 h _ (lookL_mem h1)
  exact List.all_eq_true.1 this _ (lookS_mem h2)

end
end Go.AE
namespace Go.AE
open Go.RowKit

/-- The model answers a call of a function by a row of its own. -/
structure Answers (P : Program) (f : FuncId) (e : Array Value → Sem Value) : Prop where
  ex : ∃ fn, P.funcs[f]? = some fn ∧ (fn.name == "runtime.NumGoroutine") = false ∧ fn.body.isNone = true ∧ Extern.findNext fn = none ∧ Extern.find fn = some e

section
variable {P : Program} {E : Env} {w : World} {f : FuncId}

theorem Answers.run {e : Array Value → Sem Value} (a : Answers P f e) (args : Array Value) : (callFunc f args).run P w = ((e args).run P w).andThen fun v w' => .ok (.value v) w' := by
  obtain ⟨fn, h1, h2, h3, h4, h5⟩ := a.ex
  exact run_callFunc_extern h1 h2 h3 h4 h5 args w

def ExtOK (P : Program) (E : Env) (w0 : World) (f : FuncId) (k : ExtK) : Prop := ∀ (args' : Array Value) (w : World), match k with
    | .same => ∀ x, args' = #[x] → (callFunc f args').run P w = .ok (.value x) w
    | .noZero el => (∃ y, E.types el = some y ∧ y.size = 1) ∧ ∀ n : Nat, n ≤ 1048576 → args' = #[.int .i64 (n : Int)] → ∃ cs : Array Value,
        (callFunc f args').run P w = .ok (.value (.slice (some ⟨w.heap.size, 0, none⟩) n cs.size)) (w.drew.drew.alloc (.cells cs el)) ∧ n ≤ cs.size
    | .add64 => ∀ x y c : Nat, c ≤ 1 → args' = #[.int .u64 (x : Int), .int .u64 (y : Int), .int .u64 (c : Int)] → (callFunc f args').run P w =
        .ok (.value (.tuple #[.int .u64 (Int.ofNat ((x + y + c) % 18446744073709551616)), .int .u64 (Int.ofNat ((x + y + c) / 18446744073709551616))])) w
    | .sub64 => ∀ x y c : Nat, c ≤ 1 → args' = #[.int .u64 (x : Int), .int .u64 (y : Int), .int .u64 (c : Int)] → (callFunc f args').run P w =
        .ok (.value (.tuple #[.int .u64 (Int.ofNat ((x + 18446744073709551616 - y - c) % 18446744073709551616)), .int .u64 (Int.ofNat (match Nat.blt x (y + c) with | true => 1 | false => 0))])) w
    | .indexByte => ∀ (b : ByteArray) (c : Nat), c < 256 → args' = #[.string b, .int .u8 (c : Int)] → (callFunc f args').run P w = .ok (.value (.int .i64 (findB c (bytesL b) 0))) w
    | .count => ∀ (b : ByteArray) (c : Nat), c < 256 → args' = #[.string b, .int .u8 (c : Int)] → (callFunc f args').run P w = .ok (.value (.int .i64 (Int.ofNat (countB c (bytesL b) 0)))) w
    | .spec n => (callFunc f args').run P w = .ok (.enter f args') w ∧ ∀ v, E.spec n args'.toList = some v → plainV v = true ∧ args'.toList.all plain1 = true ∧
        (Below w0.heap.size w0 w → Calls P f args' w fun e w' => e = .returned v ∧ Below w.heap.size w w')
    | .aload k => ∀ (a : Addr) (n : Int), args' = #[.pointer (some a)] → w.cell? a = some (.int k n) → (callFunc f args').run P w = .ok (.value (.int k n)) w
    | .astore => ∀ (a : Addr) (k : IntKind) (y : Int), args' = #[.pointer (some a), .int k y] → (∃ u, w.cell? a = some u) → w.frozen? a = false → (callFunc f args').run P w = .ok (.value (.tuple #[])) (w.setCell a (.int k y))
    | .acas k => ∀ (a : Addr) (n x y : Int), args' = #[.pointer (some a), .int k x, .int k y] → w.cell? a = some (.int k n) → w.frozen? a = false →
        (callFunc f args').run P w = if n == x then .ok (.value (.bool true)) (w.setCell a (.int k y)) else .ok (.value (.bool false)) w
    | .aadd k => ∀ (a : Addr) (n y : Int), args' = #[.pointer (some a), .int k y] → w.cell? a = some (.int k n) → w.frozen? a = false →
        (callFunc f args').run P w = .ok (.value (.int k (k.wrap (n + y)))) (w.setCell a (.int k (k.wrap (n + y))))
    | .nop0 => args' = #[] → (callFunc f args').run P w = .ok (.value (.tuple #[])) w
    | .nop1 => ∀ a : Addr, args' = #[.pointer (some a)] → (callFunc f args').run P w = .ok (.value (.tuple #[])) w

theorem ext_same {w0 : World} (a : Answers P f Extern.AbiNoEscape.same) : ExtOK P E w0 f .same := by
  intro args w x hx
  subst hx
  rw [a.run]
  rfl

theorem ext_noZero {w0 : World} {ps : Array TypeId} {t el : TypeId} (a : Answers P f (Extern.BytealgMakeNoZero.makeNoZero ps #[t])) (ht : P.underlying t = some (.slice el)) (hy : ∃ y, E.types el = some y ∧ y.size = 1) : ExtOK P E w0 f (.noZero el) := by
  intro args w
  refine ⟨hy, fun n hn hx => ?_⟩
  subst hx
  obtain ⟨cs, h1, h2, _⟩ := Lib.run_makeNoZero (P := P) w ps t el ht n (by omega)
  exact ⟨cs, by rw [a.run, h1]; rfl, h2⟩

theorem ext_add64 {w0 : World} (a : Answers P f add64Entry) : ExtOK P E w0 f .add64 := by
  intro args w x y c hc hx
  subst hx
  rw [a.run, run_add64 x y c (by omega) (by omega) (by omega) (by omega)]
  simp only [Result.andThen]
  congr 5 <;> simp

theorem ext_sub64 {w0 : World} (a : Answers P f Go.Proofs.sub64Entry) : ExtOK P E w0 f .sub64 := by
  intro args w x y c hc hx
  subst hx
  rw [a.run, Go.Proofs.run_sub64 x y c hc]
  simp only [Result.andThen]
  by_cases h : x < y + c
  · rw [if_pos h, blt_iff.2 h]; rfl
  · have h' : Nat.blt x (y + c) = false := by rw [← Bool.not_eq_true, blt_iff]; exact h
    rw [if_neg h, h']; rfl

theorem ofNat_toNat {c : Nat} (h : c < 256) (x : UInt8) : (x == ((c : Int).toNat.toUInt8)) = Nat.beq x.toNat c := by
  rw [Bool.eq_iff_iff, beq_iff, beq_iff_eq]
  simp only [Int.toNat_natCast]
  constructor
  · intro e; rw [e]; simp; omega
  · intro e
    apply UInt8.toNat_inj.1
    simp
    omega

theorem findB_eq {c : Nat} (h : c < 256) : ∀ (l : List UInt8) (i : Nat), findB c l i = if Lib.indexByte l ((c : Int).toNat.toUInt8) == -1 then -1 else i + Lib.indexByte l ((c : Int).toNat.toUInt8)
  | [], i => by simp [findB, Lib.indexByte]
  | x :: l, i => by
    unfold findB Lib.indexByte
    rw [ofNat_toNat h x]
    cases hb : Nat.beq x.toNat c with
    | true => simp
    | false =>
      simp only [Bool.false_eq_true, if_false]
      rw [findB_eq h l (i + 1)]
      have := Lib.indexByte_ge l ((c : Int).toNat.toUInt8)
      generalize Lib.indexByte l ((c : Int).toNat.toUInt8) = q at this ⊢
      by_cases h1 : q = -1
      · subst h1; rfl
      · have h2 : (q == -1) = false := by simpa using h1
        have h3 : (q + 1 == -1) = false := by rw [beq_eq_false_iff_ne]; omega
        simp only [h2, Bool.false_eq_true, if_false, h3]
        omega

theorem ext_indexByte {w0 : World} (a : Answers P f Extern.BytealgIndexByte.indexByte) : ExtOK P E w0 f .indexByte := by
  intro args w b c hc hx
  subst hx
  rw [a.run, Lib.run_indexByteString]
  simp only [Result.andThen, bytesL, findB_eq hc]
  generalize Lib.indexByte b.data.toList ((c : Int).toNat.toUInt8) = q
  by_cases h1 : q = -1
  · subst h1; rfl
  · have h2 : (q == -1) = false := by simpa using h1
    simp [h2]

theorem countB_eq {c : Nat} (h : c < 256) : ∀ (l : List UInt8) (n : Nat), countB c l n = n + l.countP (fun x => x == ((c : Int).toNat.toUInt8))
  | [], n => by simp [countB]
  | x :: l, n => by
    unfold countB
    rw [List.countP_cons, ofNat_toNat h x]
    cases hb : Nat.beq x.toNat c with
    | true => simp only; rw [countB_eq h l]; simp; omega
    | false => simp only; rw [countB_eq h l]; simp

theorem ext_count {w0 : World} (a : Answers P f Extern.BytealgCount.count) : ExtOK P E w0 f .count := by
  intro args w b c hc hx
  subst hx
  rw [a.run, Lib.run_countString]
  simp only [Result.andThen, bytesL, countB_eq hc, Lib.countByte, List.count]
  simp

theorem ext_aload {w0 : World} {k : IntKind} (a : Answers P f (Extern.Atomic.loadT (.int k))) : ExtOK P E w0 f (.aload k) := by
  intro args w b n hx hc
  subst hx
  obtain ⟨fn, h1, h2, h3, h4, h5⟩ := a.ex
  exact run_call_load h1 h2 h3 h4 k h5 hc

theorem ext_astore {w0 : World} (a : Answers P f Extern.Atomic.storeT) : ExtOK P E w0 f .astore := by
  intro args w b k y hx ⟨u, hu⟩ hf
  subst hx
  obtain ⟨fn, h1, h2, h3, h4, h5⟩ := a.ex
  exact run_call_store h1 h2 h3 h4 h5 hu hf

theorem ext_acas {w0 : World} {k : IntKind} (a : Answers P f (Extern.Atomic.casT (.int k))) : ExtOK P E w0 f (.acas k) := by
  intro args w b n x y hx hc hf
  subst hx
  obtain ⟨fn, h1, h2, h3, h4, h5⟩ := a.ex
  by_cases hnx : n = x
  · subst hnx
    rw [if_pos (by simp)]
    exact run_call_cas_hit h1 h2 h3 h4 k h5 hc hf
  · rw [if_neg (by simpa using hnx)]
    exact run_call_cas_miss h1 h2 h3 h4 k h5 hc hf hnx

theorem ext_aadd {w0 : World} {k : IntKind} (a : Answers P f (Extern.Atomic.update (Op.intArith .add) k true)) : ExtOK P E w0 f (.aadd k) := by
  intro args w b n y hx hc hf
  subst hx
  obtain ⟨fn, h1, h2, h3, h4, h5⟩ := a.ex
  exact run_call_add h1 h2 h3 h4 k h5 hc hf (by simp [Op.intArith])

theorem ext_nop0 {w0 : World} {m : Mark} (a : Answers P f (fun _ => do mark m; pure (.tuple #[]))) : ExtOK P E w0 f .nop0 := by
  intro args w hx
  subst hx
  rw [a.run]
  rfl

theorem ext_nop1 {w0 : World} {m : Addr → Mark} (a : Answers P f (Extern.Race.marked m)) : ExtOK P E w0 f .nop1 := by
  intro args w b hx
  subst hx
  rw [a.run]
  rfl

end
end Go.AE
namespace Go.AE
open Go.RowKit

def flatFit (k : Ty) : Option TypeDesc → Bool
  | some .bool => match k with | .bool => true | _ => false
  | some (.int a) => match k with | .int b => decide (a = b) | _ => false
  | some .string => match k with | .str => true | _ => false
  | _ => false
def flatFits (P : Program) : List Ty → List Field → Nat → Bool
  | [], [], _ => true
  | k :: ks, f :: fs, j => !(f.name == "_") && (Nat.beq f.offset j && (flatFit k (P.underlying f.type) && flatFits P ks fs (j + 1)))
  | _, _, _ => false
def eqFits (P : Program) (t : TypeId) (ks : List Ty) : Bool :=
  (match P.underlying t with
    | some (.struct fs) => flatFits P ks fs.toList 0
    | _ => false) && (!P.eqGuardType P.depth t && !P.stoodInHeld t)

section
variable {P : Program} {w : World}

theorem run_part {t : TypeId} {d : TypeDesc} (h : P.underlying t = some d) (hn : isAggTy (tyDesc d) = false) {cs : Array Value} {i : Nat} {v : Value} (hv : cs[i]? = some v) : (part t cs i).run P w = .ok v w := by
  simp [part, run_agg h (tyDesc_ok d), hn, hv]

theorem eqFields_flat (d : Nat) (xs ys : Array Value) : ∀ (ks : List Ty) (fs : List Field) (j : Nat) (b : Bool), flatFits P ks fs j = true → eqCells ks (xs.toList.drop j) (ys.toList.drop j) = some b →
    (Op.eqFields (d + 1) xs ys fs).run P w = .ok b w
  | [], [], j, b, _, e => by
    generalize xs.toList.drop j = l at e
    generalize ys.toList.drop j = m at e
    cases l <;> cases m <;> cases e
    simp [Op.eqFields]
  | [], _ :: _, _, _, h, _ => by cases h
  | _ :: _, [], _, _, h, _ => by cases h
  | k :: ks, f :: fs, j, b, h, e => by
    unfold flatFits at h
    simp only [Bool.and_eq_true, Bool.not_eq_true', beq_iff] at h
    obtain ⟨h1, h2, h3, h4⟩ := h
    have hname : f.name ≠ "_" := by simpa using h1
    cases hl : xs.toList.drop j with
    | nil => rw [hl] at e; cases k <;> cases e
    | cons x xl =>
    cases hm : ys.toList.drop j with
    | nil => rw [hl, hm] at e; cases k <;> cases x <;> cases e
    | cons y yl =>
    rw [hl, hm] at e
    have hx : xs[f.offset]? = some x := by
      have : (xs.toList.drop j)[0]? = some x := by rw [hl]; rfl
      rw [h2]; simpa using this
    have hy : ys[f.offset]? = some y := by
      have : (ys.toList.drop j)[0]? = some y := by rw [hm]; rfl
      rw [h2]; simpa using this
    have hxl : xs.toList.drop (j + 1) = xl := by rw [← List.tail_drop, hl]; rfl
    have hyl : ys.toList.drop (j + 1) = yl := by rw [← List.tail_drop, hm]; rfl
    have rest : eqCells ks xl yl = some b → (Op.eqFields (d + 1) xs ys fs).run P w = .ok b w := fun e' => eqFields_flat d xs ys ks fs (j + 1) b h4 (by rw [hxl, hyl]; exact e')
    cases hd : P.underlying f.type with
    | none => rw [hd] at h3; cases h3
    | some dd =>
    rw [hd] at h3
    have fin : isAggTy (tyDesc dd) = false → ∀ (r : Bool), (Op.equalIn (d + 1) f.type x y).run P w = .ok r w → (r = false → b = false) → (r = true → eqCells ks xl yl = some b) → (Op.eqFields (d + 1) xs ys (f :: fs)).run P w = .ok b w := by
      intro hn r hr h0 h1
      simp only [Op.eqFields, if_pos hname, Sem.run_bind, run_part hd hn hx, run_part hd hn hy, Result.andThen_ok, hr]
      cases r with
      | true => simp only [Bool.not_true, Bool.false_eq_true, if_false]; exact rest (h1 rfl)
      | false => simp only [Bool.not_false, if_true, Sem.run_pure]; rw [h0 rfl]
    cases dd <;> (try (cases h3; done))
    case bool =>
      cases k <;> (try (cases h3; done))
      cases x <;> (try (cases e; done))
      cases y <;> (try (cases e; done))
      rename_i p q
      simp only [eqCells] at e
      refine fin rfl (p == q) (run_equalIn_bool' w d _ _ _ hd) ?_ ?_
      · intro hr; rw [hr] at e; cases e; rfl
      · intro hr; rw [hr] at e; exact e
    case int a =>
      cases k <;> (try (cases h3; done))
      cases x <;> (try (cases e; done))
      cases y <;> (try (cases e; done))
      simp only [eqCells, whenB_some, Bool.and_eq_true, decide_eq_true_eq] at e
      obtain ⟨⟨h5, h6⟩, e⟩ := e
      subst h5 h6
      rename_i k1 p q
      refine fin rfl (p == q) (run_equalIn_int w d _ _ _ _ _ hd) ?_ ?_
      · intro hr; rw [hr] at e; cases e; rfl
      · intro hr; rw [hr] at e; exact e
    case string =>
      cases k <;> (try (cases h3; done))
      cases x <;> (try (cases e; done))
      cases y <;> (try (cases e; done))
      rename_i p q
      simp only [eqCells] at e
      refine fin rfl (p.toList == q.toList) (run_equalIn_string w d _ _ _ hd) ?_ ?_
      · intro hr; rw [eqB_eq, hr] at e; cases e; rfl
      · intro hr; rw [eqB_eq, hr] at e; exact e

theorem eqFits_ok {t : TypeId} {ks : List Ty} (h : eqFits P t ks = true) (xs ys : List Value) (b : Bool) (w : World) (e : eqCells ks xs ys = some b) :
    (eqGuard .eql t (.tmp 0) (.tmp 0) (.agg ⟨xs⟩) (.agg ⟨ys⟩)).run P w = .ok () w ∧ (Op.equal t (.agg ⟨xs⟩) (.agg ⟨ys⟩)).run P w = .ok b w := by
  unfold eqFits at h
  simp only [Bool.and_eq_true, Bool.not_eq_true'] at h
  obtain ⟨h1, h2, h3⟩ := h
  refine ⟨run_eqGuard_agg _ _ _ _ _ _ _ h2, ?_⟩
  cases hd : P.underlying t with
  | none => rw [hd] at h1; cases h1
  | some d =>
  rw [hd] at h1
  cases d <;> (try (cases h1; done))
  rename_i fs
  have hf : P.fieldsOf t = fs := by simp [Program.fieldsOf, hd]
  have hmax : Op.maxDepth = (Op.maxDepth - 2) + 1 + 1 := by decide
  unfold Op.equal
  rw [hmax, run_equalIn_agg w _ t _ _ (by rw [hf]; exact hd) h3, hf]
  exact eqFields_flat _ _ _ ks fs.toList 0 b h1 (by simpa using e)

/-- What a configuration owes, of the program alone. -/
structure CfgOK (P : Program) (c : Cfg) (Q : World → Prop) : Prop where
  ext : ∀ x ∈ c.ext, ∀ w0, Q w0 → ExtOK P (envOf P c) w0 x.1 x.2
  meth : methsFit P c.meth = true
  eqs : (c.eqs.all fun x => eqFits P x.1 x.2) = true
  glob : (c.glob.all fun x => Nat.blt x.1 c.nG && x.2.all plain1) = true
  byteT : (match tyOf P c.byteT with | some y => (match y.d with | .int .u8 => true | _ => false) && (Nat.beq y.size 1 && Nat.beq y.bytes 1) | none => false) = true
  spec : ∀ n args v, c.spec n args = some v → args.all plain1 = true
  mixed : P.follows .mixedOrders = true

theorem good_of (c : Cfg) {Q : World → Prop} (k : CfgOK P c Q) {w0 : World} (hq : Q w0) (hg : ∀ x ∈ c.glob, ∃ el fr, w0.heap[x.1]? = some (.cells ⟨x.2⟩ el fr)) (hn : c.nG ≤ w0.heap.size) : Good P (envOf P c) w0 where
  types _ _ e := tyOf_ok e
  funcs _ _ e := funcOf_ok e
  meth t n f e := methFits_ok (methsFit_ok k.meth e)
  ext f x e := k.ext _ (lookL_mem e) w0 hq
  specPlain := k.spec
  eqs t ks e := eqFits_ok (List.all_eq_true.1 k.eqs _ (lookL_mem e))
  glob g vs e := by
    have hm := lookL_mem e
    have := List.all_eq_true.1 k.glob _ hm
    rw [Bool.and_eq_true, blt_iff] at this
    exact ⟨this.1, this.2, hg _ hm⟩
  nG := hn
  byteTy := by
    have := k.byteT
    split at this
    · rename_i y hy
      rw [Bool.and_eq_true, Bool.and_eq_true, beq_iff, beq_iff] at this
      obtain ⟨h1, h2, h3⟩ := this
      refine ⟨y, hy, ?_, h2, h3⟩
      split at h1
      · assumption
      · cases h1
    · cases this
  mixed := k.mixed

end
end Go.AE
namespace Go.AE
open Go.RowKit

/-- A map that is listed. -/
def ofL {α : Type} : List (Nat × α) → Tr α
  | [] => .leaf
  | (k, x) :: l => (ofL l).set k (some x)
theorem ofL_get {α : Type} : ∀ {l : List (Nat × α)} {k : Nat} {x : α}, (ofL l).get k = some x → (k, x) ∈ l
  | [], k, x, e => by
    have : (Tr.leaf : Tr α).get k = some x := e
    rw [Tr.get_leaf] at this; cases this
  | (j, y) :: l, k, x, e => by
    have : ((ofL l).set j (some y)).get k = some x := e
    rw [Tr.get_set] at this
    split at this
    · rename_i h
      cases this
      rw [h]; simp
    · exact List.mem_cons_of_mem _ (ofL_get this)

def oneOf {α : Type} (p : α → α → Bool) (u : α) : Option α → Bool
  | some v => p v u
  | none => false
/-- All that is listed, the map has. -/
def subL {α : Type} (p : α → α → Bool) (s : Tr α) : List (Nat × α) → Bool
  | [] => true
  | (k, u) :: l => match oneOf p u (s.get k) with
    | true => subL p s l
    | false => false
theorem subL_get {α : Type} {p : α → α → Bool} {s : Tr α} : ∀ {l : List (Nat × α)}, subL p s l = true → ∀ {k : Nat} {u : α}, (k, u) ∈ l → ∃ v, s.get k = some v ∧ p v u = true
  | [], _, _, _, hm => by cases hm
  | (j, y) :: l, h, k, u, hm => by
    unfold subL at h
    split at h
    · rename_i ho
      rcases List.mem_cons.1 hm with e | e
      · cases e
        unfold oneOf at ho
        split at ho
        · rename_i v hv
          exact ⟨v, hv, ho⟩
        · cases ho
      · exact subL_get h e
    · cases h
/-- All that a map has below a number, another has. -/
def backL (s t : Tr Value) : Nat → Bool
  | 0 => true
  | n + 1 => (match s.get n with
    | some v => (match t.get n with
      | some u => eqV u v
      | none => false)
    | none => true) && backL s t n
theorem backL_get {s t : Tr Value} : ∀ {n : Nat}, backL s t n = true → ∀ {k : Nat} {v : Value}, k < n → s.get k = some v → ∃ u, t.get k = some u ∧ eqV u v = true
  | 0, _, _, _, hk, _ => by omega
  | n + 1, h, k, v, hk, hv => by
    simp only [backL, Bool.and_eq_true] at h
    by_cases e : k = n
    · subst e
      have := h.1
      rw [hv] at this
      simp only at this
      split at this
      · rename_i u hu
        exact ⟨u, hu, this⟩
      · cases this
    · exact backL_get h.2 (by omega) hv

def eqEs : List (Value × Value) → List (Value × Value) → Bool
  | [], [] => true
  | (a, b) :: l, (c, d) :: m => eqV a c && (eqV b d && eqEs l m)
  | _, _ => false
theorem eqEs_eq : ∀ {l m : List (Value × Value)}, eqEs l m = true → l = m
  | [], [], _ => rfl
  | (a, b) :: l, (c, d) :: m, h => by
    simp only [eqEs, Bool.and_eq_true] at h
    rw [eqV_eq _ _ h.1, eqV_eq _ _ h.2.1, eqEs_eq h.2.2]
  | [], _ :: _, h => by cases h
  | _ :: _, [], h => by cases h

/-- Equal objects; the record of a loop is none. -/
def eqO : AObj → AObj → Bool
  | .cells a el fz sy, .cells b el' fz' sy' => eqVs a b && (Nat.beq el el' && (Nat.beq fz fz' && (sy == sy')))
  | .iter s i, .iter t j => eqB s t && Nat.beq i j
  | .map l, .map m => eqEs l m
  | .defd, .defd => true
  | _, _ => false
theorem eqO_eq {a b : AObj} (h : eqO a b = true) : a = b := by
  cases a <;> cases b <;> simp only [eqO, Bool.and_eq_true, beq_iff, beq_iff_eq, Bool.false_eq_true] at h
  · rw [eqVs_eq _ _ h.1, h.2.1, h.2.2.1, h.2.2.2]
  · rw [(eqB_iff _ _).1 h.1, h.2]
  · rw [eqEs_eq h]
  · rfl

def eqRo : Option Nat → Option Nat → Bool
  | none, none => true
  | some a, some b => Nat.beq a b
  | _, _ => false
theorem eqRo_eq {a b : Option Nat} (h : eqRo a b = true) : a = b := by
  cases a <;> cases b <;> simp only [eqRo, beq_iff, Bool.false_eq_true] at h
  · rfl
  · rw [h]

def eqD : ADef → ADef → Bool
  | .coll a, .coll b => Nat.beq a b
  | .call f a c, .call g b d => Nat.beq f g && (eqVs a b && eqVs c d)
  | _, _ => false
theorem eqD_eq : ∀ {a b : ADef}, eqD a b = true → a = b
  | .coll a, .coll b, h => by
    simp only [eqD, beq_iff] at h
    rw [h]
  | .call f a c, .call g b d, h => by
    simp only [eqD, Bool.and_eq_true, beq_iff] at h
    rw [h.1, eqVs_eq _ _ h.2.1, eqVs_eq _ _ h.2.2]
  | .coll _, .call _ _ _, h => by cases h
  | .call _ _ _, .coll _, h => by cases h
def eqDs : List ADef → List ADef → Bool
  | [], [] => true
  | a :: l, b :: m => eqD a b && eqDs l m
  | _, _ => false
theorem eqDs_eq : ∀ {l m : List ADef}, eqDs l m = true → l = m
  | [], [], _ => rfl
  | a :: l, b :: m, h => by
    simp only [eqDs, Bool.and_eq_true] at h
    rw [eqD_eq h.1, eqDs_eq h.2]
  | [], _ :: _, h => by cases h
  | _ :: _, [], h => by cases h
def eqRp (a b : Option Nat × Bool) : Bool := eqRo a.1 b.1 && (a.2 == b.2)
theorem eqRp_eq {a b : Option Nat × Bool} (h : eqRp a b = true) : a = b := by
  obtain ⟨a1, a2⟩ := a
  obtain ⟨b1, b2⟩ := b
  simp only [eqRp, Bool.and_eq_true, beq_iff_eq] at h
  rw [eqRo_eq h.1, h.2]

/-- The objects of a drawn region's allocations are still there. -/
def keepsAl (h h' : AHeap) (nt : Nat) (tm : Tr Value) : List Oper → Bool
  | [] => true
  | o :: os => (!isAlloc o.op || (match o.dst with
    | some d => Nat.blt d nt && (match tm.get d with
      | some (.pointer (some a)) => (match h.get a.block with
        | some _ => (h'.get a.block).isSome
        | none => true)
      | _ => true)
    | none => false)) && keepsAl h h' nt tm os
/-- A frame in a drawn region keeps all its temporaries. -/
def dregOk (h h' : AHeap) (nt : Nat) (tm tm' : Tr Value) : List AItem → Bool
  | .dreg ops _ _ _ :: _ => backL tm tm' nt && keepsAl h h' nt tm ops
  | _ => true

/-- A frame, a state, whose maps are listed. -/
structure LFrame where
  fn : FuncId
  tm : List (Nat × Value)
  nt : Nat
  todo : List AItem
  defers : List ADef
  ret : Bool
  roundOf : Option Nat × Bool
structure LSt where
  fr : LFrame
  cs : List LFrame
  nx : Nat
  objs : List (Nat × AObj)
def LFrame.toF (f : LFrame) : AFrame := ⟨f.fn, ofL f.tm, f.nt, f.todo, f.defers, f.ret, f.roundOf⟩
def LSt.toS (t : LSt) : ASt := ⟨t.fr.toF, t.cs.map LFrame.toF, ⟨t.nx, ofL t.objs⟩⟩
/-- A frame covers another, but for what it has to do. -/
def coverF (h h' : AHeap) (s : AFrame) (t : LFrame) : Bool :=
  Nat.beq s.fn t.fn && (Nat.beq s.nt t.nt && (eqDs s.defers t.defers && ((s.ret == t.ret) && (eqRp s.roundOf t.roundOf && (subL eqV s.tm t.tm && dregOk h h' s.nt s.tm (ofL t.tm) s.todo)))))
def coverCs (h h' : AHeap) : List AFrame → List LFrame → Bool
  | [], [] => true
  | a :: l, b :: m => coverF h h' a b && coverCs h h' l m
  | _, _ => false
/-- The records of loops are laid over the rest of a heap. -/
def laidOver (h : AHeap) : List (Nat × AObj) → AHeap
  | [] => h
  | (r, o) :: l => (laidOver h l).put r o
def withLoops (t : LSt) (l : List (Nat × AObj)) : ASt := { t.toS with h := laidOver t.toS.h l }
def covers (s : ASt) (t : LSt) (l : List (Nat × AObj)) : Bool := coverF s.h (laidOver t.toS.h l) s.fr t.fr && (coverCs s.h (laidOver t.toS.h l) s.cs t.cs && (Nat.beq s.h.nx t.nx && subL eqO s.h.objs t.objs))
def todosOf (s : ASt) : List (List AItem) := s.fr.todo :: s.cs.map (·.todo)
def todosL (s : LSt) : List (List AItem) := s.fr.todo :: s.cs.map (·.todo)
def chunk (E : Env) (n : Nat) (s : ASt) (t : LSt) (l : List (Nat × AObj)) : Bool × List (List AItem) × List (Option AObj) := match arun E n s with
  | some s1 => (covers s1 t l, todosOf s1, l.map fun x => s1.h.get x.1)
  | none => (false, [], [])
def told (t : LSt) (l : List (Nat × AObj)) : Bool × List (List AItem) × List (Option AObj) := (true, todosL t, l.map fun x => some x.2)

theorem laidOver_nx (h : AHeap) : ∀ (l : List (Nat × AObj)), (laidOver h l).nx = h.nx
  | [] => rfl
  | (r, o) :: l => by simp only [laidOver, AHeap.nx_put]; exact laidOver_nx h l
theorem laidOver_get (h : AHeap) : ∀ (l : List (Nat × AObj)) (k : Nat) (o : AObj), (laidOver h l).get k = some o → (k, o) ∈ l ∨ h.get k = some o
  | [], k, o, e => .inr e
  | (r, x) :: l, k, o, e => by
    simp only [laidOver, AHeap.get_put] at e
    split at e
    · rename_i hk
      cases e
      subst hk
      exact .inl (by simp)
    · rcases laidOver_get h l k o e with h1 | h1
      · exact .inl (List.mem_cons_of_mem _ h1)
      · exact .inr h1

theorem coverF_ok {h h' : AHeap} {s : AFrame} {t : LFrame} (e : coverF h h' s t = true) : s.fn = t.fn ∧ s.nt = t.nt ∧ s.defers = t.defers ∧ s.ret = t.ret ∧ s.roundOf = t.roundOf ∧ dregOk h h' s.nt s.tm (ofL t.tm) s.todo = true ∧ ∀ k v, (ofL t.tm).get k = some v → s.tm.get k = some v := by
  simp only [coverF, Bool.and_eq_true, beq_iff, beq_iff_eq] at e
  obtain ⟨h1, h2, h3, h4, h5, h7, h6⟩ := e
  refine ⟨h1, h2, eqDs_eq h3, h4, eqRp_eq h5, h6, fun k v e => ?_⟩
  obtain ⟨u, hu, hp⟩ := subL_get h7 (ofL_get e)
  rw [hu, eqV_eq _ _ hp]

theorem keepsAl_ok {h h' : AHeap} {nt : Nat} {tm : Tr Value} : ∀ {os : List Oper}, keepsAl h h' nt tm os = true → ∀ (i : Nat) (o : Oper), os[i]? = some o → isAlloc o.op = true →
    ∃ d, o.dst = some d ∧ d < nt ∧ ∀ a, tm.get d = some (.pointer (some a)) → ∀ x, h.get a.block = some x → ∃ y, h'.get a.block = some y
  | [], _, i, o, e, _ => by simp at e
  | o' :: os, hk, i, o, e, ha => by
    simp only [keepsAl, Bool.and_eq_true] at hk
    cases i with
    | zero =>
      simp at e
      subst e
      have := hk.1
      rw [ha] at this
      simp only [Bool.not_true, Bool.false_or] at this
      cases hd : o'.dst with
      | none => rw [hd] at this; cases this
      | some d =>
        rw [hd] at this
        simp only [Bool.and_eq_true, blt_iff] at this
        refine ⟨d, rfl, this.1, fun a hta x hx => ?_⟩
        have h2 := this.2
        rw [hta] at h2
        simp only [hx] at h2
        exact Option.isSome_iff_exists.1 h2
    | succ i => exact keepsAl_ok hk.2 i o (by simpa using e) ha

section
variable {P : Program} {E : Env} {φ : Phi} {w0 w : World} {base : List Frame}

theorem TRel.sub {nt : Nat} {tm tm' : Tr Value} {tmps : Array Value} (t : TRel φ nt tm tmps) (h : ∀ k v, tm'.get k = some v → tm.get k = some v) : TRel φ nt tm' tmps := ⟨t.1, fun k v e => t.2 k v (h k v e)⟩

theorem Sim.sub {h h' : AHeap} (s : Sim E φ w0 h w) (hn : h.nx = h'.nx) (hs : ∀ k o, h'.get k = some o → h.get k = some o) : Sim E φ w0 h' w where
  obj r o l a b := s.obj r o l (hs r o a) b
  inj r r' o o' l l' a a' := s.inj r r' o o' l l' (hs _ _ a) (hs _ _ a')
  fresh r hr := by
    obtain ⟨h1, h2⟩ := s.fresh r (by omega)
    refine ⟨h1, ?_⟩
    cases hx : h'.get r with
    | none => rfl
    | some o => rw [hs r o hx] at h2; cases h2
  below := s.below
  glob g hg := by
    obtain ⟨h1, h2⟩ := s.glob g hg
    refine ⟨h1, ?_⟩
    cases hx : h'.get g with
    | none => rfl
    | some o => rw [hs g o hx] at h2; cases h2

theorem DR.sub {h h' : AHeap} {lo hi nt : Nat} {ops : List Oper} {pre : List Nat} {dn xp : Nat} {tm tm' : Tr Value} {tmps : Array Value} {dc td : List Nat} {rf : Nat → Nat} (D : DR E φ h lo hi nt ops pre dn xp tm tmps dc td rf)
    (hs : ∀ k o, h'.get k = some o → h.get k = some o) (h1 : ∀ k v, tm'.get k = some v → tm.get k = some v) (h2 : backL tm tm' nt = true) (h3 : keepsAl h h' nt tm ops = true) : DR E φ h' lo hi nt ops pre dn xp tm' tmps dc td rf := by
  have he : ∀ k, tm'.get k = tm.get k := by
    intro k
    cases hx : tm.get k with
    | none =>
      cases hy : tm'.get k with
      | none => rfl
      | some v => rw [h1 k v hy] at hx; cases hx
    | some v =>
      obtain ⟨u, hu, hp⟩ := backL_get h2 (D.tms k v hx).1 hx
      rw [hu, eqV_eq _ _ hp]
  exact {
    st := D.st
    lin := D.lin
    d1 := D.d1
    d2 := D.d2
    dp := D.dp
    xpd := D.xpd
    size := D.size
    tms := fun t v e => D.tms t v (h1 t v e)
    al := fun i o hi hb ho ha => by
      obtain ⟨g1, g2, g3, g4, g5, el, ty, g6, g7, g8⟩ := D.al i o hi hb ho ha
      refine ⟨by rw [wantedA_congr (tm := tm) (fun t _ => he t)]; exact g1, fun d hd hn => by rw [he]; exact g2 d hd hn, g3, g4, g5, el, ty, g6, g7, ?_⟩
      obtain ⟨d, hd, hn, hk⟩ := keepsAl_ok h3 i o ho ha
      obtain ⟨y, hy⟩ := hk _ (g2 d hd hn) _ g8
      rw [hs _ _ hy] at g8
      rw [hy, g8]
    inj := D.inj }

theorem CsRel.cover {h h' : AHeap} {hi : Nat} (hs : ∀ k o, h'.get k = some o → h.get k = some o) {cs : List AFrame} {cs' : List Frame} (r : CsRel E φ h hi cs cs') : ∀ {ct : List LFrame}, coverCs h h' cs ct = true → cs.map (·.todo) = ct.map (·.todo) → CsRel E φ h' hi (ct.map LFrame.toF) cs' := by
  induction r with
  | nil =>
    intro ct hc _
    cases ct with
    | nil => exact .nil
    | cons _ _ => cases hc
  | cons hl t d rr c ih =>
    intro ct hc ht
    cases ct with
    | nil => cases hc
    | cons f ct =>
      obtain ⟨fn, tm, nt, todo, defers, ret, roundOf⟩ := f
      simp only [coverCs, Bool.and_eq_true] at hc
      simp only [List.map_cons, List.cons.injEq] at ht
      obtain ⟨h1, h2, h3, h4, h5, h6, h7⟩ := coverF_ok hc.1
      simp only at h1 h2 h3 h4 h5 h6 h7 ht
      obtain ⟨ht1, ht2⟩ := ht
      subst h1 h2 h3 h4 h5 ht1
      refine .cons hl ?_ d rr (ih hc.2 ht2)
      cases t with
      | reg t tr => exact .reg (t.sub h7) tr
      | dreg D u tr =>
        simp only [dregOk, Bool.and_eq_true] at h6
        exact .dreg (D.sub hs h7 h6.1 h6.2) u tr
      | range t e tr => exact .range (t.sub h7) e tr
  | consR hl t d rr c ih =>
    intro ct hc ht
    cases ct with
    | nil => cases hc
    | cons f ct =>
      obtain ⟨fn, tm, nt, todo, defers, ret, roundOf⟩ := f
      simp only [coverCs, Bool.and_eq_true] at hc
      simp only [List.map_cons, List.cons.injEq] at ht
      obtain ⟨h1, h2, h3, h4, h5, h6, h7⟩ := coverF_ok hc.1
      simp only at h1 h2 h3 h4 h5 h6 h7 ht
      obtain ⟨ht1, ht2⟩ := ht
      subst h1 h2 h3 h4 h5 ht1
      exact .consR hl (t.sub h7) d rr (ih hc.2 ht2)

theorem SRel.cover {s : ASt} {t : LSt} {fr : Frame} {cs : List Frame} (r : SRel E φ w0 s fr cs w) {l : List (Nat × AObj)} (hc : covers s t l = true) (ht : todosOf s = todosL t) (hl : l.map (fun x => s.h.get x.1) = l.map fun x => some x.2) : SRel E φ w0 (withLoops t l) fr cs w := by
  obtain ⟨⟨lo, hlo, hf, c⟩, si⟩ := r
  obtain ⟨sf, scs, sh⟩ := s
  obtain ⟨tf, tcs, tnx, tobjs⟩ := t
  simp only [covers, Bool.and_eq_true, beq_iff] at hc
  simp only [todosOf, todosL, List.cons.injEq] at ht
  simp only at hlo hf c si hl
  obtain ⟨hc1, hc2, hc3, hc4⟩ := hc
  obtain ⟨ht1, ht2⟩ := ht
  have hs : ∀ k o, (laidOver ⟨tnx, ofL tobjs⟩ l).get k = some o → sh.get k = some o := fun k o e => by
    rcases laidOver_get ⟨tnx, ofL tobjs⟩ l k o e with e | e
    · exact List.map_inj_left.1 hl _ e
    · obtain ⟨u, hu, hp⟩ := subL_get hc4 (ofL_get e)
      rw [← eqO_eq hp]; exact hu
  have hnx : sh.nx = (laidOver ⟨tnx, ofL tobjs⟩ l).nx := by rw [laidOver_nx]; exact hc3
  show SRel E φ w0 ⟨tf.toF, tcs.map LFrame.toF, laidOver ⟨tnx, ofL tobjs⟩ l⟩ fr cs w
  refine ⟨⟨lo, by simp only; omega, ?_, c.cover hs hc2 ht2⟩, si.sub hnx hs⟩
  obtain ⟨fn, tm, nt, todo, defers, ret, roundOf⟩ := tf
  obtain ⟨h1, h2, h3, h4, h5, h6, h7⟩ := coverF_ok hc1
  simp only [LFrame.toF]
  simp only at h1 h2 h3 h4 h5 h6 h7 ht1
  cases hf with
  | run t d r =>
    simp only at h1 h2 h3 h4 h5 h6 h7 ht1
    subst h1 h2 h3 h4 h5 ht1
    refine .run ?_ d r
    rw [← hnx]
    cases t with
    | plain t tr => exact .plain (t.sub h7) tr
    | reg t tr => exact .reg (t.sub h7) tr
    | dreg D tr =>
      simp only [dregOk, Bool.and_eq_true] at h6
      exact .dreg (D.sub hs h7 h6.1 h6.2) tr
  | ret t d r =>
    simp only at h1 h2 h3 h4 h5 h6 h7 ht1
    subst h1 h2 h3 h4 h5
    exact .ret (t.sub h7) d r

/-- A part of a run. -/
theorem chunk_sound (G : Good P E w0) {n : Nat} {s : ASt} {t : LSt} {l : List (Nat × AObj)} {m : Machine} (h : chunk E n s t l = told t l) (g : Goes P E w0 base m s) : Goes P E w0 base m (withLoops t l) := by
  unfold chunk told at h
  split at h
  · rename_i s1 hs
    obtain ⟨φ, fr, cs, w, h1, h2⟩ := arun_sound G n g hs
    simp only [Prod.mk.injEq] at h
    exact ⟨φ, fr, cs, w, h1, h2.cover h.1 h.2.1 h.2.2⟩
  · cases h

end

/-! ## the names of codes -/

def subCode : Code → List Nat → Code
  | c, [] => c
  | .seq a b, n :: p => match n with | 0 => subCode a p | _ => subCode b p
  | .cond _ a b, n :: p => match n with | 0 => subCode a p | _ => subCode b p
  | .block _ c, _ :: p => subCode c p
  | .loop c, _ :: p => subCode c p
  | .scope c, _ :: p => subCode c p
  | .rangeFunc _ _ a b, n :: p => match n with | 0 => subCode a p | _ => subCode b p
  | c, _ :: _ => c
def codeAt (P : Program) (f : FuncId) (p : List Nat) : Code := match (P.funcs[f]?).bind (·.body) with
  | some c => subCode c p
  | none => .skip
def opsOf : Code → Array Oper
  | .region _ ops _ => ops
  | _ => #[]

end Go.AE
namespace Go.AE
open Go.RowKit

def startFr (E : Env) (f : FuncId) (args : List Value) : Option AFrame := (E.funcs f).bind fun fn => enterA f fn args
def startOf (E : Env) (f : FuncId) (args : List Value) : ASt := match startFr E f args with
  | some fr => { fr, cs := [], h := heap0 E }
  | none => default
/-- What a run that has ended gives. -/
def resultOf (E : Env) (f : FuncId) (s : ASt) : Option Value :=
  match s.cs, s.fr.defers, s.fr.ret, s.fr.roundOf.2 with
  | [], [], true, false => whenB (Nat.beq s.fr.fn f) ((E.funcs f).bind fun fn => (resultsA E s.h s.fr.tm fn.results.toList).bind fun vs => whenB (plainV (tupleA vs)) (some (tupleA vs)))
  | _, _, _, _ => none

section
variable {P : Program} {E : Env} {w0 : World} {base : List Frame}

theorem start_sound (G : Good P E w0) {f : FuncId} {args : List Value} (ha : args.all plain1 = true) (h : (startFr E f args).isSome = true) : Goes P E w0 base (lone (Frame.enter P f ⟨args⟩ .normal) base w0) (startOf E f args) := by
  obtain ⟨fr, hfr⟩ := Option.isSome_iff_exists.1 h
  unfold startOf
  rw [hfr]
  simp only [startFr, Option.bind_eq_some_iff] at hfr
  obtain ⟨fn, hf, he⟩ := hfr
  exact begin_sound G hf ha he

theorem result_sound (G : Good P E w0) {f : FuncId} {args : List Value} {s : ASt} {v : Value} (run : ∀ base, Goes P E w0 base (lone (Frame.enter P f ⟨args⟩ .normal) base w0) s) (h : resultOf E f s = some v) :
    Calls P f ⟨args⟩ w0 fun e w' => e = .returned v ∧ Below w0.heap.size w0 w' := by
  unfold resultOf at h
  split at h
  · rename_i h1 h2 h3 h7
    simp only [whenB_some, beq_iff, Option.bind_eq_some_iff] at h
    obtain ⟨h4, fn, hf, vs, hvs, hp, h⟩ := h
    cases h
    intro cs
    obtain ⟨w', fr, b, hs, hfn, hl⟩ := end_sound G (run cs) h1 h3 h2 h4 hf hvs hp h7
    exact ⟨_, w', fr, ⟨rfl, b⟩, hs, hfn, hl⟩
  · cases h

end
end Go.AE
namespace Go.AE

/-! ## numbers -/

def halfOf : IntKind → Nat
  | .i8 => 128
  | .i16 => 32768
  | .i32 => 2147483648
  | .i64 => 9223372036854775808
  | .u8 => 256
  | .u16 => 65536
  | .u32 => 4294967296
  | .u64 => 18446744073709551616
/-- A number within its kind, its bits laid bare. -/
def litF {α : Type} (n : Nat) (f : Nat → α) : α := match n with
  | 0 => f 0
  | m + 1 => f (Nat.succ m)
def wrapN (k : IntKind) (n : Nat) : Value := match Nat.blt n (halfOf k) with
  | true => litF n fun m => .int k (.ofNat m)
  | false => .int k (k.wrap (.ofNat n))
def wrapF (k : IntKind) : Int → Value
  | .ofNat n => wrapN k n
  | .negSucc n => .int k (k.wrap (.negSucc n))
def addF (k : IntKind) : Int → Int → Value
  | .ofNat a, .ofNat b => wrapN k (Nat.add a b)
  | a, b => wrapF k (a + b)
def subF (k : IntKind) : Int → Int → Value
  | .ofNat a, .ofNat b => match Nat.ble b a with
    | true => wrapN k (Nat.sub a b)
    | false => wrapF k (.ofNat a - .ofNat b)
  | a, b => wrapF k (a - b)
def mulF (k : IntKind) : Int → Int → Value
  | .ofNat a, .ofNat b => wrapN k (Nat.mul a b)
  | a, b => wrapF k (a * b)
def andF (k : IntKind) : Int → Int → Value
  | a, b => wrapF k (BitVec.ofInt k.bits a &&& BitVec.ofInt k.bits b).toNat
def eqF : Int → Int → Bool
  | .ofNat a, .ofNat b => Nat.beq a b
  | .negSucc a, .negSucc b => Nat.beq a b
  | _, _ => false
def ltF : Int → Int → Bool
  | .ofNat a, .ofNat b => Nat.blt a b
  | .ofNat _, .negSucc _ => false
  | .negSucc _, .ofNat _ => true
  | .negSucc a, .negSucc b => Nat.blt b a
def leF : Int → Int → Bool
  | .ofNat a, .ofNat b => Nat.ble a b
  | .ofNat _, .negSucc _ => false
  | .negSucc _, .ofNat _ => true
  | .negSucc a, .negSucc b => Nat.ble b a
def notF : Bool → Bool
  | true => false
  | false => true

structure IntFn where
  run : IntKind → Int → Int → Option Value
def intF (op : BinOp) : IntFn := match op with
  | .add => ⟨fun k a b => some (addF k a b)⟩
  | .sub => ⟨fun k a b => some (subF k a b)⟩
  | .mul => ⟨fun k a b => some (mulF k a b)⟩
  | .eql => ⟨fun _ a b => some (.bool (eqF a b))⟩
  | .neq => ⟨fun _ a b => some (.bool (notF (eqF a b)))⟩
  | .lss => ⟨fun _ a b => some (.bool (ltF a b))⟩
  | .leq => ⟨fun _ a b => some (.bool (leF a b))⟩
  | .gtr => ⟨fun _ a b => some (.bool (ltF b a))⟩
  | .geq => ⟨fun _ a b => some (.bool (leF b a))⟩
  | op => ⟨fun k a b => intOp op k a b⟩

theorem litF_eq {α : Type} (n : Nat) (f : Nat → α) : litF n f = f n := by cases n <;> rfl
theorem halfOf_le (k : IntKind) (n : Nat) (h : n < halfOf k) : k.wrap (n : Int) = n := by
  have h1 : (0 : Int) ≤ (n : Int) := Int.natCast_nonneg n
  have h2 : (n : Int) < 2 ^ k.bits ∧ (k.signed = true → (n : Int) < 2 ^ (k.bits - 1)) := by
    cases k <;> simp only [halfOf] at h <;> refine ⟨?_, fun e => ?_⟩ <;> first | (cases e; done) | (show (n : Int) < _; simp only [IntKind.bits]; omega)
  have h3 : (n : Int) % 2 ^ k.bits = n := Int.emod_eq_of_lt h1 h2.1
  unfold IntKind.wrap
  simp only [h3]
  rw [if_neg]
  intro hc
  rw [Bool.and_eq_true, decide_eq_true_eq] at hc
  have := h2.2 hc.1
  omega
theorem wrapN_eq (k : IntKind) (n : Nat) : wrapN k n = .int k (k.wrap (n : Int)) := by
  unfold wrapN
  split
  · rename_i h
    rw [litF_eq]
    rw [halfOf_le k n (blt_iff.1 h)]
    rfl
  · rfl
theorem wrapF_eq (k : IntKind) (n : Int) : wrapF k n = .int k (k.wrap n) := by
  cases n with
  | ofNat n => exact wrapN_eq k n
  | negSucc n => rfl
theorem addF_eq (k : IntKind) (a b : Int) : addF k a b = .int k (k.wrap (a + b)) := by
  unfold addF
  split
  · exact wrapN_eq _ _
  · exact wrapF_eq _ _
theorem subF_eq (k : IntKind) (a b : Int) : subF k a b = .int k (k.wrap (a - b)) := by
  unfold subF
  split
  · split
    · rename_i x y h
      rw [wrapN_eq]
      rw [ble_iff] at h
      congr 2
      simp only [Int.ofNat_eq_natCast, Nat.sub_eq]
      omega
    · exact wrapF_eq _ _
  · exact wrapF_eq _ _
theorem mulF_eq (k : IntKind) (a b : Int) : mulF k a b = .int k (k.wrap (a * b)) := by
  unfold mulF
  split
  · exact wrapN_eq _ _
  · exact wrapF_eq _ _
theorem eqF_eq (a b : Int) : eqF a b = (a == b) := by
  rw [Bool.eq_iff_iff, beq_iff_eq]
  cases a <;> cases b <;> simp only [eqF, beq_iff, Int.ofNat_eq_natCast, Int.negSucc_eq] <;> (first | omega | (constructor <;> intro h <;> first | omega | (cases h; done) | trivial))
theorem ltF_eq (a b : Int) : ltF a b = decide (a < b) := by
  rw [Bool.eq_iff_iff, decide_eq_true_iff]
  cases a <;> cases b <;> simp only [ltF, blt_iff, Int.ofNat_eq_natCast, Int.negSucc_eq] <;> (first | omega | (constructor <;> intro h <;> first | omega | (cases h; done) | trivial))
theorem leF_eq (a b : Int) : leF a b = decide (a ≤ b) := by
  rw [Bool.eq_iff_iff, decide_eq_true_iff]
  cases a <;> cases b <;> simp only [leF, ble_iff, Int.ofNat_eq_natCast, Int.negSucc_eq] <;> (first | omega | (constructor <;> intro h <;> first | omega | (cases h; done) | trivial))
theorem notF_eq (a : Bool) : notF a = !a := by cases a <;> rfl
theorem intF_eq (op : BinOp) (k : IntKind) (a b : Int) : (intF op).run k a b = intOp op k a b := by
  cases op <;> simp only [intF, intOp, addF_eq, subF_eq, mulF_eq, eqF_eq, ltF_eq, leF_eq, notF_eq, bne] <;> rfl

/-! ## operands -/

structure OpndFn where
  run : Nat → Tr Value → Option Value
def opndF (x : Operand) : OpndFn := match x with
  | .tmp t => ⟨fun _ tm => (look Value t).run tm⟩
  | .const v => match plainV v with
    | true => ⟨fun _ _ => some v⟩
    | false => ⟨fun _ _ => none⟩
  | .global g => ⟨fun nG _ => whenB (Nat.blt g nG) (some (.pointer (some ⟨g, 0, none⟩)))⟩
  | .func f => ⟨fun _ _ => some (.func (.func f) ⟨[]⟩ ⟨[]⟩)⟩
theorem opndF_eq (x : Operand) (nG : Nat) (tm : Tr Value) : (opndF x).run nG tm = evalA nG tm x := by
  cases x <;> try rfl
  rename_i v
  simp only [opndF, evalA]
  cases plainV v <;> rfl

structure PutFn where
  run : Nat → Tr Value → Value → Tr Value
def putF (dst : Option Tmp) : PutFn := match dst with
  | none => ⟨fun _ tm _ => tm⟩
  | some d => ⟨fun nt tm v => match Nat.blt d nt with
    | true => (put Value d).run tm (some v)
    | false => tm⟩
theorem putF_eq (dst : Option Tmp) (nt : Nat) (tm : Tr Value) (v : Value) : (putF dst).run nt tm v = putA nt tm dst v := by
  cases dst <;> rfl

abbrev R := Option ASt
def bindV (x : Option Value) (f : Value → R) : R := match x with
  | some v => f v
  | none => none
theorem bindV_eq (x : Option Value) (f : Value → R) : bindV x f = x.bind f := by cases x <;> rfl

/-! ## lists -/

def tail8 {α : Type} : List α → List α
  | _ :: _ :: _ :: _ :: _ :: _ :: _ :: _ :: l => l
  | _ => []
def skip8 {α : Type} : Nat → List α → List α
  | 0, l => l
  | q + 1, l => skip8 q (tail8 l)
def nthF {α : Type} (l : List α) (i : Nat) : Option α := nth (skip8 (Nat.div i 8) l) (Nat.mod i 8)
theorem tail8_eq {α : Type} (l : List α) : tail8 l = l.drop 8 := by
  unfold tail8
  split
  · rfl
  · rename_i h
    rcases l with _ | ⟨a, _ | ⟨b, _ | ⟨c, _ | ⟨d, _ | ⟨e, _ | ⟨f, _ | ⟨g, _ | ⟨x, l⟩⟩⟩⟩⟩⟩⟩⟩ <;> first | rfl | exact absurd rfl (h _ _ _ _ _ _ _ _ _)
theorem skip8_eq {α : Type} : ∀ (q : Nat) (l : List α), skip8 q l = l.drop (8 * q)
  | 0, l => by simp [skip8]
  | q + 1, l => by rw [skip8, skip8_eq q, tail8_eq, List.drop_drop]; congr 1; omega
theorem nthF_eq {α : Type} (l : List α) (i : Nat) : nthF l i = nth l i := by
  unfold nthF
  rw [skip8_eq, nth_eq, nth_eq, List.getElem?_drop]
  congr 1
  show 8 * (i / 8) + i % 8 = i
  omega

/-! ## operations -/

def binF (E : Env) (op : BinOp) (t : TypeId) (c : Bool) (x y : Value) : Option Value :=
  match x with
  | .int k a => match y with
    | .int k' b => match op with
      | .shl => binA E .shl t c (.int k a) (.int k' b)
      | .shr => binA E .shr t c (.int k a) (.int k' b)
      | op => whenB (decide (k = k')) ((intF op).run k a b)
    | y => binA E op t c (.int k a) y
  | x => binA E op t c x y
theorem binF_eq (E : Env) (op : BinOp) (t : TypeId) (c : Bool) (x y : Value) : binF E op t c x y = binA E op t c x y := by
  unfold binF
  split
  · split
    · split
      · rfl
      · rfl
      · rename_i h1 h2
        rw [intF_eq]
        cases op <;> first | rfl | exact absurd rfl h1 | exact absurd rfl h2
    · rfl
  · rfl

def cellAt (E : Env) (h : AHeap) (b off : Nat) : Option Value := match E.glob b with
  | some vs => nthF vs off
  | none => match h.get b with
    | some (.cells vs _ _ _) => nthF vs off
    | _ => none
def loadF (E : Env) (h : AHeap) (t : TypeId) (v : Value) : Option Value := match v with
  | .pointer (some ⟨b, off, none⟩) => match E.types t with
    | some ty => match isAggTy ty.d with
      | true => loadA E h t (.pointer (some ⟨b, off, none⟩))
      | false => cellAt E h b off
    | none => none
  | v => loadA E h t v
theorem take1 (vs : List Value) (off : Nat) : ((takeN 1 (dropN off vs)).bind fun l => nth l 0) = nth vs off := by
  rw [dropN_eq, nth_eq]
  cases h : vs.drop off with
  | nil =>
    rw [List.drop_eq_nil_iff] at h
    rw [List.getElem?_eq_none h]
    rfl
  | cons x l =>
    have : vs[off]? = some x := by
      have := congrArg (·[0]?) h
      simpa using this
    rw [this]
    rfl
theorem loadF_eq (E : Env) (h : AHeap) (t : TypeId) (v : Value) : loadF E h t v = loadA E h t v := by
  unfold loadF
  split
  · rename_i b off
    split
    · rename_i ty ht
      split
      · rfl
      · rename_i hA
        simp only [loadA, addrOf, Option.bind_some, ht, hA, readCells, cellAt]
        cases hg : E.glob b with
        | some vs => simp only [nthF_eq]; exact (take1 vs off).symm
        | none =>
          cases ho : h.get b with
          | none => rfl
          | some o =>
            cases o with
            | cells vs el fz sy => simp only [nthF_eq]; exact (take1 vs off).symm
            | _ => rfl
    · rename_i ht
      simp only [loadA, addrOf, Option.bind_some, ht, Option.bind_none]
  · rfl

structure OpC where
  run : Env → Tr Value → AHeap → (Value → AHeap → R) → (AHeap → R) → (ARes → R) → R
def resC (r : Option ARes) (kv : Value → AHeap → R) (ks : AHeap → R) (kr : ARes → R) : R := match r with
  | none => none
  | some r => match r with
    | .val v h => kv v h
    | .skip h => ks h
    | r => kr r
def opC (op : Op) : OpC := match op with
  | .move x => ⟨fun E tm h kv _ _ => bindV ((opndF x).run E.nG tm) fun v => kv v h⟩
  | .assign x => ⟨fun E tm h kv _ _ => bindV ((opndF x).run E.nG tm) fun v => kv v h⟩
  | .load t a => ⟨fun E tm h kv _ _ => bindV ((opndF a).run E.nG tm) fun v => bindV (loadF E h t v) fun x => kv x h⟩
  | .nilCheck x => ⟨fun E tm h kv _ _ => bindV ((opndF x).run E.nG tm) fun v => bindV (nilCheckA E v) fun x => kv x h⟩
  | .fieldAddr s x f => ⟨fun E tm h kv _ _ => bindV ((opndF x).run E.nG tm) fun v => bindV ((addrOf v).bind fun a => (E.types s).bind fun ty => (fieldOf ty.d f).bind fun p => (E.types p.2).bind fun fty =>
      whenB (Nat.blt 0 fty.size) (some (.pointer (some (addA a p.1))))) fun x => kv x h⟩
  | .indexAddr t x i => ⟨fun E tm h kv _ _ => bindV ((opndF x).run E.nG tm) fun vx => bindV ((opndF i).run E.nG tm) fun vi => bindV ((E.types t).bind fun ty => indexAddrA E ty.d vx vi) fun x => kv x h⟩
  | .index t x i => ⟨fun E tm h kv _ _ => bindV ((opndF x).run E.nG tm) fun vx => bindV ((opndF i).run E.nG tm) fun vi => bindV ((E.types t).bind fun ty => indexA E ty.d vx vi) fun x => kv x h⟩
  | .extract x i => ⟨fun E tm h kv _ _ => bindV ((opndF x).run E.nG tm) fun v => bindV ((tupOf v).bind fun vs => nth vs i) fun x => kv x h⟩
  | .binOp op t x y _ => match isConst x || isConst y with
    | true => ⟨fun E tm h kv _ _ => bindV ((opndF x).run E.nG tm) fun a => bindV ((opndF y).run E.nG tm) fun b => bindV (binF E op t true a b) fun v => kv v h⟩
    | false => ⟨fun E tm h kv _ _ => bindV ((opndF x).run E.nG tm) fun a => bindV ((opndF y).run E.nG tm) fun b => bindV (binF E op t false a b) fun v => kv v h⟩
  | op => ⟨fun E tm h kv ks kr => resC (opA E tm h { (default : Oper) with op }) kv ks kr⟩

theorem opA_op (E : Env) (tm : Tr Value) (h : AHeap) (o : Oper) : opA E tm h { (default : Oper) with op := o.op } = opA E tm h o := rfl
theorem resC_keep (h : AHeap) (x : Option Value) (kv : Value → AHeap → R) (ks : AHeap → R) (kr : ARes → R) : resC (keepH h x) kv ks kr = bindV x fun v => kv v h := by cases x <;> rfl
theorem bindV_bind (x : Option Value) (f : Value → Option Value) (g : Value → R) : bindV (x.bind f) g = bindV x fun v => bindV (f v) g := by cases x <;> rfl

theorem opC_eq (E : Env) (tm : Tr Value) (h : AHeap) (o : Oper) (kv : Value → AHeap → R) (ks : AHeap → R) (kr : ARes → R) : (opC o.op).run E tm h kv ks kr = resC (opA E tm h o) kv ks kr := by
  rw [← opA_op]
  generalize o.op = op
  cases op
  case binOp op t x y u =>
    simp only [opC, opA, resC_keep, bindV_bind]
    split <;> simp only [opndF_eq, binF_eq, *]
  all_goals first
    | rfl
    | (simp only [opC, opA, resC_keep, bindV_bind, opndF_eq, loadF_eq]; done)

end Go.AE
namespace Go.AE

abbrev Kont := Env → Bool → FuncId → Tr Value → Nat → List AItem → List ADef → Option Nat × Bool → List AFrame → AHeap → R
abbrev ItK := Kont → Env → FuncId → Tr Value → Nat → List AItem → List ADef → Option Nat × Bool → List AFrame → AHeap → R
structure ItFn where
  run : ItK

def goS (ih : Kont) (E : Env) (r : Option ASt) : R := match r with
  | none => none
  | some ⟨⟨fn, tm, nt, todo, d, ret, ro⟩, cs, h⟩ => ih E ret fn tm nt todo d ro cs h

/-- Steps lead from one state to another. -/
def Reach (E : Env) (s s' : ASt) : Prop := ∃ m, arun E m s = some s'
theorem Reach.refl (E : Env) (s : ASt) : Reach E s s := ⟨0, rfl⟩
theorem Reach.step {E : Env} {s s1 s2 : ASt} (h : astep E s = some s1) (r : Reach E s1 s2) : Reach E s s2 := by
  obtain ⟨m, h2⟩ := r
  exact ⟨m + 1, by simp only [arun, h, Option.bind_some]; exact h2⟩
theorem arun_add (E : Env) : ∀ (m n : Nat) (s : ASt), arun E (m + n) s = (arun E m s).bind (arun E n)
  | 0, n, s => by simp [arun]
  | m + 1, n, s => by
    rw [show m + 1 + n = (m + n) + 1 by omega]
    simp only [arun]
    cases astep E s with
    | none => rfl
    | some s1 => exact arun_add E m n s1
theorem Reach.trans {E : Env} {s s1 s2 : ASt} (h : Reach E s s1) (r : Reach E s1 s2) : Reach E s s2 := by
  obtain ⟨m, h1⟩ := h
  obtain ⟨n, h2⟩ := r
  exact ⟨m + n, by rw [arun_add, h1]; exact h2⟩

/-- What is answered is what the rest of the run answers at a state that is reached. -/
def Ok (ih : Kont) (E : Env) (s : ASt) (r : R) : Prop := r = none ∨ ∃ s1, Reach E s s1 ∧ r = goS ih E (some s1)
theorem Ok.step {ih : Kont} {E : Env} {s s1 : ASt} {r : R} (h : astep E s = some s1) (k : Ok ih E s1 r) : Ok ih E s r := by
  rcases k with k | ⟨s2, h1, h2⟩
  · exact .inl k
  · exact .inr ⟨s2, h1.step h, h2⟩
theorem Ok.here {ih : Kont} {E : Env} {s : ASt} : Ok ih E s (goS ih E (some s)) := .inr ⟨s, .refl E s, rfl⟩
theorem Ok.slow {ih : Kont} {E : Env} {s : ASt} : Ok ih E s (goS ih E (astep E s)) := by
  cases h : astep E s with
  | none => exact .inl rfl
  | some s1 => exact .step h .here

/-- The closure of an item does what the item's steps do. -/
def Fits (it : AItem) (F : ItFn) : Prop := ∀ (ih : Kont) (E : Env) (fn : FuncId) (tm : Tr Value) (nt : Nat) (k : List AItem) (d : List ADef) (ro : Option Nat × Bool) (cs : List AFrame) (h : AHeap),
  Ok ih E ⟨⟨fn, tm, nt, it :: k, d, false, ro⟩, cs, h⟩ (F.run ih E fn tm nt k d ro cs h)

/-! ## regions -/

def skipF : ItFn := ⟨fun ih E fn tm nt k d ro cs h => ih E false fn tm nt k d ro cs h⟩
def resK (ih : Kont) (E : Env) (ops : Array Oper) (i : Nat) (fn : FuncId) (tm : Tr Value) (nt : Nat) (k : List AItem) (d : List ADef) (ro : Option Nat × Bool) (cs : List AFrame) (h : AHeap) (r : ARes) : R :=
  goS ih E (doRes E ⟨⟨fn, tm, nt, .reg ops i ops.size :: k, d, false, ro⟩, cs, h⟩ r)
def plainOp (ops : Array Oper) (i : Nat) (o : Oper) (next : ItFn) : ItFn :=
  ⟨fun ih E fn tm nt k d ro cs h => (opC o.op).run E tm h (fun v h' => next.run ih E fn ((putF o.dst).run nt tm v) nt k d ro cs h') (fun h' => next.run ih E fn ((putF o.dst).run nt tm undef) nt k d ro cs h')
    (resK ih E ops i fn tm nt k d ro cs h)⟩
def guardK (w : Option Bool) (yes no : R) : R := match w with
  | none => none
  | some w => match w with
    | true => yes
    | false => no
def regOp (ops : Array Oper) (i : Nat) (o : Oper) (next : ItFn) : ItFn := match o.guard with
  | none => plainOp ops i o next
  | some _ => ⟨fun ih E fn tm nt k d ro cs h => guardK (wantedA tm ops.toList o) ((plainOp ops i o next).run ih E fn tm nt k d ro cs h) (next.run ih E fn ((putF o.dst).run nt tm undef) nt k d ro cs h)⟩
def regGo (ops : Array Oper) : List Oper → Nat → ItFn
  | [], _ => skipF
  | o :: os, i => regOp ops i o (regGo ops os (Nat.succ i))
def dropO : Nat → List Oper → List Oper
  | 0, l => l
  | _ + 1, [] => []
  | n + 1, _ :: l => dropO n l
theorem dropO_eq : ∀ (n : Nat) (l : List Oper), dropO n l = l.drop n
  | 0, l => by simp [dropO]
  | n + 1, [] => by simp [dropO]
  | n + 1, x :: l => by simp [dropO, dropO_eq n l]

theorem astep_reg {E : Env} {fn : FuncId} {tm : Tr Value} {nt : Nat} {k : List AItem} {d : List ADef} {ro : Option Nat × Bool} {cs : List AFrame} {h : AHeap} {ops : Array Oper} {i : Nat} {o : Oper} (ho : ops.toList[i]? = some o) :
    astep E ⟨⟨fn, tm, nt, .reg ops i ops.size :: k, d, false, ro⟩, cs, h⟩ = (wantedA tm ops.toList o).bind fun w => match w with
      | false => some ⟨⟨fn, putA nt tm o.dst undef, nt, .reg ops (i + 1) ops.size :: k, d, false, ro⟩, cs, h⟩
      | true => (opA E tm h o).bind fun r => doRes E ⟨⟨fn, tm, nt, .reg ops i ops.size :: k, d, false, ro⟩, cs, h⟩ r := by
  have hi : i < ops.size := by
    have := (List.getElem?_eq_some_iff.1 ho).1
    simpa using this
  simp only [astep, blt_iff.2 hi, nth_eq, ho, Option.bind_some]
  rfl
theorem doRes_reg {E : Env} {fn : FuncId} {tm : Tr Value} {nt : Nat} {k : List AItem} {d : List ADef} {ro : Option Nat × Bool} {cs : List AFrame} {h h' : AHeap} {ops : Array Oper} {i n : Nat} {o : Oper} (ho : ops.toList[i]? = some o) (v : Value) :
    doRes E ⟨⟨fn, tm, nt, .reg ops i n :: k, d, false, ro⟩, cs, h⟩ (.val v h') = some ⟨⟨fn, putA nt tm o.dst v, nt, .reg ops (i + 1) n :: k, d, false, ro⟩, cs, h'⟩ ∧
    doRes E ⟨⟨fn, tm, nt, .reg ops i n :: k, d, false, ro⟩, cs, h⟩ (.skip h') = some ⟨⟨fn, putA nt tm o.dst undef, nt, .reg ops (i + 1) n :: k, d, false, ro⟩, cs, h'⟩ := by
  constructor <;> simp only [doRes, finishA, finishR, nth_eq, ho, Option.bind_some]

theorem plainOp_ok {ops : Array Oper} {i : Nat} {o : Oper} {next : ItFn} (ho : ops.toList[i]? = some o) (hn : Fits (.reg ops (i + 1) ops.size) next) (ih : Kont) (E : Env) (fn : FuncId) (tm : Tr Value) (nt : Nat) (k : List AItem) (d : List ADef)
    (ro : Option Nat × Bool) (cs : List AFrame) (h : AHeap) (hw : wantedA tm ops.toList o = some true) :
    Ok ih E ⟨⟨fn, tm, nt, .reg ops i ops.size :: k, d, false, ro⟩, cs, h⟩ ((plainOp ops i o next).run ih E fn tm nt k d ro cs h) := by
  have hs := astep_reg (E := E) (fn := fn) (tm := tm) (nt := nt) (k := k) (d := d) (ro := ro) (cs := cs) (h := h) ho
  rw [hw] at hs
  simp only [Option.bind_some] at hs
  simp only [plainOp, opC_eq, putF_eq]
  cases hr : opA E tm h o with
  | none => exact .inl rfl
  | some r =>
    rw [hr, Option.bind_some] at hs
    have other : Ok ih E ⟨⟨fn, tm, nt, .reg ops i ops.size :: k, d, false, ro⟩, cs, h⟩ (resK ih E ops i fn tm nt k d ro cs h r) := by
      unfold resK
      rw [← hs]
      exact .slow
    cases r with
    | val v h' =>
      rw [(doRes_reg (h' := h') ho v).1] at hs
      exact .step hs (hn ..)
    | skip h' =>
      rw [(doRes_reg (h' := h') ho undef).2] at hs
      exact .step hs (hn ..)
    | enter f a => exact other
    | spec n f a v => exact other
    | round l a => exact other
    | dfr f a c => exact other
    | recov => exact other

theorem regOp_fits {ops : Array Oper} {i : Nat} {o : Oper} {next : ItFn} (ho : ops.toList[i]? = some o) (hn : Fits (.reg ops (i + 1) ops.size) next) : Fits (.reg ops i ops.size) (regOp ops i o next) := by
  intro ih E fn tm nt k d ro cs h
  unfold regOp
  split
  · rename_i hg
    exact plainOp_ok ho hn ih E fn tm nt k d ro cs h (by unfold wantedA; rw [hg])
  · have hs := astep_reg (E := E) (fn := fn) (tm := tm) (nt := nt) (k := k) (d := d) (ro := ro) (cs := cs) (h := h) ho
    show Ok _ _ _ (guardK (wantedA tm ops.toList o) ((plainOp ops i o next).run ih E fn tm nt k d ro cs h) (next.run ih E fn ((putF o.dst).run nt tm undef) nt k d ro cs h))
    cases hw : wantedA tm ops.toList o with
    | none => exact .inl rfl
    | some w =>
      cases w with
      | true => exact plainOp_ok ho hn ih E fn tm nt k d ro cs h hw
      | false =>
        rw [hw] at hs
        simp only [Option.bind_some] at hs
        rw [putF_eq]
        exact .step hs (hn ..)

theorem regGo_fits (ops : Array Oper) : ∀ (os : List Oper) (i : Nat), os = ops.toList.drop i → Fits (.reg ops i ops.size) (regGo ops os i)
  | [], i, e => by
    intro ih E fn tm nt k d ro cs h
    have hi : ¬ i < ops.size := by
      intro hi
      have := congrArg List.length e
      simp at this
      omega
    have hb : Nat.blt i ops.size = false := by rw [← Bool.not_eq_true, blt_iff]; exact hi
    refine .step (s1 := ⟨⟨fn, tm, nt, k, d, false, ro⟩, cs, h⟩) ?_ .here
    simp only [astep, hb]
    rfl
  | o :: os, i, e => by
    have ho : ops.toList[i]? = some o := by
      have := congrArg (·[0]?) e
      simpa using this.symm
    refine regOp_fits ho (regGo_fits ops os (i + 1) ?_)
    have := congrArg List.tail e
    simpa using this

/-! ## codes -/

/-- A call has given back a value to a region. -/
def finK (ih : Kont) (E : Env) (c : AFrame) (v : Value) (cs : List AFrame) (h : AHeap) : R := goS ih E ((finishA c v).bind fun c' => some ⟨c', cs, h⟩)
def retK (ih : Kont) (E : Env) (fn : FuncId) (tm : Tr Value) (nt : Nat) (todo : List AItem) (cs : List AFrame) (h : AHeap) : R := match cs with
  | [] => ih E true fn tm nt todo [] (none, false) [] h
  | c :: cs => match E.funcs fn with
    | none => none
    | some f => match resultsA E h tm f.results.toList with
      | none => none
      | some vs => finK ih E c (tupleA vs) cs h
def leaveK (ih : Kont) (E : Env) (fn : FuncId) (tm : Tr Value) (nt : Nat) (todo : List AItem) (d : List ADef) (ro : Option Nat × Bool) (cs : List AFrame) (h : AHeap) (j : Option Code) : R := match ro with
  | (none, false) => match d with
    | [] => retK ih E fn tm nt todo cs h
    | d => goS ih E (leaveF ⟨⟨fn, tm, nt, todo, d, false, (none, false)⟩, cs, h⟩ j)
  | ro => goS ih E (leaveF ⟨⟨fn, tm, nt, todo, d, false, ro⟩, cs, h⟩ j)
def condK (c : OpndFn) (a b : ItFn) : ItFn := ⟨fun ih E fn tm nt k d ro cs h => match c.run E.nG tm with
  | some (.bool b') => match b' with
    | true => a.run ih E fn tm nt k d ro cs h
    | false => b.run ih E fn tm nt k d ro cs h
  | _ => none⟩
def slowF (it : AItem) : ItFn := ⟨fun ih E fn tm nt k d ro cs h => goS ih E (astep E ⟨⟨fn, tm, nt, it :: k, d, false, ro⟩, cs, h⟩)⟩
def under (F : ItFn) (it : AItem) : ItFn := ⟨fun ih E fn tm nt k d ro cs h => F.run ih E fn tm nt (it :: k) d ro cs h⟩
def codeF : Code → ItFn
  | .skip => skipF
  | .seq a b => under (codeF a) (.code b)
  | .cond c a b => condK (opndF c) (codeF a) (codeF b)
  | .block id c => under (codeF c) (.inBlock id)
  | .loop c => under (codeF c) (.inLoop c)
  | .scope c => under (codeF c) (.inScope c)
  | .region _ ops false => regGo ops ops.toList 0
  | .ret => ⟨fun ih E fn tm nt k d ro cs h => leaveK ih E fn tm nt (.code .ret :: k) d ro cs h (some .ret)⟩
  | c => slowF (.code c)

theorem leaveK_ok (ih : Kont) (E : Env) (fn : FuncId) (tm : Tr Value) (nt : Nat) (todo : List AItem) (d : List ADef) (ro : Option Nat × Bool) (cs : List AFrame) (h : AHeap) (j : Option Code) (hj : j = none ∨ j = some .ret)
    (hs : astep E ⟨⟨fn, tm, nt, todo, d, false, ro⟩, cs, h⟩ = leaveF ⟨⟨fn, tm, nt, todo, d, false, ro⟩, cs, h⟩ j) : Ok ih E ⟨⟨fn, tm, nt, todo, d, false, ro⟩, cs, h⟩ (leaveK ih E fn tm nt todo d ro cs h j) := by
  unfold leaveK
  split
  · split
    · have h1 : astep E ⟨⟨fn, tm, nt, todo, [], false, (none, false)⟩, cs, h⟩ = some ⟨⟨fn, tm, nt, todo, [], true, (none, false)⟩, cs, h⟩ := by
        rw [hs]
        rcases hj with rfl | rfl <;> rfl
      refine .step h1 ?_
      unfold retK
      split
      · exact .here
      · rename_i c cs
        have h2 : astep E ⟨⟨fn, tm, nt, todo, [], true, (none, false)⟩, c :: cs, h⟩ = (E.funcs fn).bind fun f => (resultsA E h tm f.results.toList).bind fun vs => (finishA c (tupleA vs)).bind fun c' => some ⟨c', cs, h⟩ := rfl
        split
        · exact .inl rfl
        · rename_i f hf
          split
          · exact .inl rfl
          · rename_i vs hvs
            rw [hf, Option.bind_some, hvs, Option.bind_some] at h2
            unfold finK
            rw [← h2]
            exact .slow
    · rw [← hs]
      exact .slow
  · rw [← hs]
    exact .slow

theorem under_fits {F : ItFn} {it it2 : AItem} {c : AItem} (hF : Fits c F) (hs : ∀ (E : Env) (fn : FuncId) (tm : Tr Value) (nt : Nat) (k : List AItem) (d : List ADef) (ro : Option Nat × Bool) (cs : List AFrame) (h : AHeap),
    astep E ⟨⟨fn, tm, nt, it :: k, d, false, ro⟩, cs, h⟩ = some ⟨⟨fn, tm, nt, c :: it2 :: k, d, false, ro⟩, cs, h⟩) : Fits it (under F it2) :=
  fun ih E fn tm nt k d ro cs h => .step (hs ..) (hF ih E fn tm nt (it2 :: k) d ro cs h)
theorem slow_fits (it : AItem) : Fits it (slowF it) := fun _ _ _ _ _ _ _ _ _ _ => .slow
theorem skip_fits {it : AItem} (hs : ∀ (E : Env) (fn : FuncId) (tm : Tr Value) (nt : Nat) (k : List AItem) (d : List ADef) (ro : Option Nat × Bool) (cs : List AFrame) (h : AHeap),
    astep E ⟨⟨fn, tm, nt, it :: k, d, false, ro⟩, cs, h⟩ = some ⟨⟨fn, tm, nt, k, d, false, ro⟩, cs, h⟩) : Fits it skipF :=
  fun _ _ _ _ _ _ _ _ _ _ => .step (hs ..) .here

theorem codeF_fits : ∀ c : Code, Fits (.code c) (codeF c)
  | .skip => skip_fits fun _ _ _ _ _ _ _ _ _ => rfl
  | .seq a b => under_fits (codeF_fits a) fun _ _ _ _ _ _ _ _ _ => rfl
  | .cond c a b => by
    intro ih E fn tm nt k d ro cs h
    simp only [codeF, condK, opndF_eq]
    have hs : astep E ⟨⟨fn, tm, nt, .code (.cond c a b) :: k, d, false, ro⟩, cs, h⟩ = (evalA E.nG tm c).bind fun v => match v with
      | .bool true => some ⟨⟨fn, tm, nt, .code a :: k, d, false, ro⟩, cs, h⟩
      | .bool false => some ⟨⟨fn, tm, nt, .code b :: k, d, false, ro⟩, cs, h⟩
      | _ => none := rfl
    split
    · rename_i b' hb
      rw [hb] at hs
      split
      · exact .step hs (codeF_fits a ..)
      · exact .step hs (codeF_fits b ..)
    · exact .inl rfl
  | .block id c => under_fits (codeF_fits c) fun _ _ _ _ _ _ _ _ _ => rfl
  | .loop c => under_fits (codeF_fits c) fun _ _ _ _ _ _ _ _ _ => rfl
  | .scope c => under_fits (codeF_fits c) fun _ _ _ _ _ _ _ _ _ => rfl
  | .region id ops false => fun ih E fn tm nt k d ro cs h => .step (s1 := ⟨⟨fn, tm, nt, .reg ops 0 ops.size :: k, d, false, ro⟩, cs, h⟩) rfl (regGo_fits ops ops.toList 0 (by simp) ..)
  | .ret => fun ih E fn tm nt k d ro cs h => leaveK_ok ih E fn tm nt _ d ro cs h _ (.inr rfl) rfl
  | .region _ _ true => slow_fits _
  | .rangeFunc .. => slow_fits _
  | .exit _ => slow_fits _
  | .label _ => slow_fits _
  | .goto _ => slow_fits _
  | .refuse _ => slow_fits _

/-! ## a run -/

def itemF (it : AItem) : ItFn := match it with
  | .code c => codeF c
  | .inBlock _ => skipF
  | .inScope _ => skipF
  | .inLoop c => under (codeF c) (.inLoop c)
  | .reg ops i n => match Nat.beq n ops.size with
    | true => regGo ops (dropO i ops.toList) i
    | false => slowF (.reg ops i n)
  | it => slowF it
theorem itemF_fits : ∀ it : AItem, Fits it (itemF it)
  | .code c => codeF_fits c
  | .inBlock _ => skip_fits fun _ _ _ _ _ _ _ _ _ => rfl
  | .inScope _ => skip_fits fun _ _ _ _ _ _ _ _ _ => rfl
  | .inLoop c => under_fits (codeF_fits c) fun _ _ _ _ _ _ _ _ _ => rfl
  | .reg ops i n => by
    simp only [itemF]
    split
    · rename_i hb
      rw [beq_iff] at hb
      subst hb
      exact regGo_fits ops _ i (dropO_eq _ _)
    · exact slow_fits _
  | .dreg .. => slow_fits _
  | .inRangeFunc _ => slow_fits _
  | .endRangeFunc _ => slow_fits _
  | .beginRound => slow_fits _

def todoK (ih : Kont) (E : Env) (fn : FuncId) (tm : Tr Value) (nt : Nat) (d : List ADef) (ro : Option Nat × Bool) (cs : List AFrame) (h : AHeap) (todo : List AItem) : R := match todo with
  | [] => leaveK ih E fn tm nt [] d ro cs h none
  | it :: k => (itemF it).run ih E fn tm nt k d ro cs h
def stepK (ih : Kont) : Kont := fun E ret fn tm nt todo d ro cs h => match ret with
  | true => goS ih E (stepRet E ⟨⟨fn, tm, nt, todo, d, true, ro⟩, cs, h⟩)
  | false => todoK ih E fn tm nt d ro cs h todo
theorem stepK_ok (ih : Kont) (E : Env) (ret : Bool) (fn : FuncId) (tm : Tr Value) (nt : Nat) (todo : List AItem) (d : List ADef) (ro : Option Nat × Bool) (cs : List AFrame) (h : AHeap) :
    Ok ih E ⟨⟨fn, tm, nt, todo, d, ret, ro⟩, cs, h⟩ (stepK ih E ret fn tm nt todo d ro cs h) := by
  cases ret with
  | true => exact .slow (s := ⟨⟨fn, tm, nt, todo, d, true, ro⟩, cs, h⟩)
  | false =>
    cases todo with
    | nil => exact leaveK_ok ih E fn tm nt [] d ro cs h none (.inl rfl) rfl
    | cons it k => exact itemF_fits it ..

/-- The end of a part: the state itself. -/
def endK : Kont := fun _ ret fn tm nt todo d ro cs h => some ⟨⟨fn, tm, nt, todo, d, ret, ro⟩, cs, h⟩
noncomputable def runK (n : Nat) : Kont := Nat.rec endK (fun _ ih => stepK ih) n
theorem runK_ok (E : Env) : ∀ (n : Nat) (s s2 : ASt), goS (runK n) E (some s) = some s2 → Reach E s s2
  | 0, s, s2, e => by cases e; exact .refl E _
  | n + 1, s, s2, e => by
    obtain ⟨⟨fn, tm, nt, todo, d, ret, ro⟩, cs, h⟩ := s
    rcases stepK_ok (runK n) E ret fn tm nt todo d ro cs h with k | ⟨s1, h1, h2⟩
    · have : (none : R) = some s2 := k.symm.trans e
      cases this
    · exact h1.trans (runK_ok E n s1 s2 (h2.symm.trans e))

/-- One large step, for the tool that counts them. -/
def bigStep (E : Env) (s : ASt) : Option ASt := goS (stepK endK) E (some s)

noncomputable def chunkK (E : Env) (n : Nat) (s : ASt) (t : LSt) (l : List (Nat × AObj)) : Bool × List (List AItem) × List (Option AObj) := match goS (runK n) E (some s) with
  | some s1 => (covers s1 t l, todosOf s1, l.map fun x => s1.h.get x.1)
  | none => (false, [], [])
theorem chunkK_sound {P : Program} {E : Env} {w0 : World} {base : List Frame} (G : Good P E w0) {n : Nat} {s : ASt} {t : LSt} {l : List (Nat × AObj)} {m : Machine} (h : chunkK E n s t l = told t l) (g : Goes P E w0 base m s) : Goes P E w0 base m (withLoops t l) := by
  unfold chunkK at h
  split at h
  · rename_i s1 hs
    obtain ⟨n', hr⟩ := runK_ok E n s s1 hs
    exact chunk_sound G (n := n') (by unfold chunk; rw [hr]; exact h) g
  · cases h

end Go.AE
namespace Go.AE
open Go.RowKit Go.ChangeShapes

theorem intsL_eq (k : IntKind) : ∀ l : List Int, intsL k l = l.map fun z => Value.int k z
  | [] => rfl
  | x :: l => by simp [intsL, intsL_eq k l]

theorem laidVars_reads {P : Program} {w : World} : ∀ {l : List (String × DataW Unit)} {ps : List MemPlace}, DataW.LaidVars P w l ps → ∀ n d, (n, d) ∈ l →
    ∃ g t cs fuel p, P.globalNamed n = some g ∧ (P.globals[g]?).map (·.type) = some t ∧ w.var? P n = some cs ∧ DataW.trod (fun _ => ()) P w 0 (fun _ => true) false fuel t cs.toList = some (d, p)
  | [], _, _, _, _, hm => by cases hm
  | (_, _) :: _, _, h, n, d, hm => by
    obtain ⟨g, t, cs, fuel, p, q, h1, h2, h3, h4, h5, _⟩ := h
    rcases List.mem_cons.1 hm with e | e
    · cases e
      exact ⟨g, t, cs, fuel, p, h1, h2, h3, h4⟩
    · exact laidVars_reads h5 n d e

/-- A listed array of numbers lies in memory, cell for cell. -/
theorem table_cells {P : Program} {W : World} {l : List (String × DataW Unit)} (h : laidMet P l W) {name : String} {k : IntKind} {zs : List Int} (hm : (name, Lib.tabData k zs) ∈ l) {g : Nat} {t e : TypeId} {n : Nat}
    (hg : P.globalNamed name = some g) (hty : (P.globals[g]?).map (·.type) = some t) (ht : P.underlying t = some (.array n e)) (he : P.underlying e = some (.int k)) (hce : P.cellsOf e = 1) (hct : P.cellsOf t = n) :
    ∃ el fr, W.heap[g]? = some (.cells ⟨intsL k zs⟩ el fr) := by
  obtain ⟨ps, hv, _⟩ := h
  obtain ⟨g', t', cs, fuel, p, h1, h2, h3, h4⟩ := laidVars_reads hv _ _ hm
  obtain rfl := Option.some.inj (hg.symm.trans h1)
  obtain rfl := Option.some.inj (hty.symm.trans h2)
  have hc := Lib.cells_of_tab ht he hce hct h4
  rw [intsL_eq, ← hc]
  unfold World.var? at h3
  rw [hg] at h3
  simp only [Option.bind_some] at h3
  split at h3
  · rename_i cs' el fr hh
    cases h3
    exact ⟨el, fr, hh⟩
  · cases h3

variable {H : Type} {enc : TypeId × Value → H} {P : Program}

/-- The post of a row whose arguments read as they did, behind a call that has left old memory alone. -/
theorem post_of_below {f : Func} {s : ChangeSpec} {apart fresh handsOn again : Bool} {W W' : World} {args : Array Value} {v : Value} {ds gs : List (DataW H)} {before pa pv : List MemPlace}
    (hW : DataW.Whole enc P f.params.toList s.vars apart W args.toList ds gs before) (hB : Below W.heap.size W W')
    (hres : ∀ (b : Nat) (sp : Nat → Bool) (hd : Bool), DataW.TrodAll enc P W' b sp hd f.resultTypes.toList (v.resultList f.resultTypes.size) (s.fn H (ds ++ gs)).results [])
    (hargs : ∀ sp : Nat → Bool, (∀ p ∈ before, sp p.block = true) → DataW.TrodAll enc P W' 0 sp true f.params.toList args.toList (s.fn H (ds ++ gs)).args pa)
    (hvars : ∀ sp : Nat → Bool, (∀ p ∈ before, sp p.block = true) → DataW.TrodVars enc P W' sp s.vars (s.fn H (ds ++ gs)).vars pv)
    (hps : before = pa ++ pv)
    (hok : ∀ (j : Nat) (t : TypeId) (r : Value), f.resultTypes[j]? = some t → (v.resultList f.resultTypes.size)[j]? = some r → Value.okWide P W' .any 0 t r) :
    s.post enc P f apart fresh handsOn again W args v W' := by
  have hlt : ∀ p ∈ before, p.block < W.heap.size := fun p hp => hW.lt p hp
  have hold : ∀ p ∈ before, (fun b => decide (b < W.heap.size)) p.block = true := fun p hp => by simpa using hlt p hp
  refine ⟨ds, gs, before, [], pa, pv, hW, hres _ _ _, hargs _ hold, hvars _ hold, World.keptBut_mono (fun p hp => ⟨hp, ?_⟩) (hB.frame (· ∈ before)), fun _ => ?_⟩
  · rw [hps, List.mem_append] at hp
    exact Or.inr hp
  · obtain ⟨_, _, _, _, _, hz, hn⟩ := hW
    refine ⟨hok, _, _, ([] ++ pa) ++ pv, ⟨[] ++ pa, pv, trodAll_append (hargs _ (fun _ _ => rfl)) (hres _ _ _), hvars _ (fun _ _ => rfl), rfl, ?_, ?_⟩, ?_⟩
    · intro b off hp
      have hp' : MemPlace.cell b off ∈ before := by rw [hps]; simpa using hp
      rw [hB.frozen (hlt _ hp')]
      exact hz b off hp'
    · intro ha
      have := hn ha
      rw [hps] at this
      simpa using this
    · intro p hp _
      rw [hps]
      simpa using hp

end Go.AE
namespace Go.AE
open Go.RowKit

def preB : List UInt8 → List UInt8 → Bool
  | [], _ => true
  | _ :: _, [] => false
  | x :: l, y :: m => match Nat.beq x.toNat y.toNat with
    | true => preB l m
    | false => false
def idxL : List UInt8 → List UInt8 → Int
  | [], [] => 0
  | [], _ :: _ => -1
  | b :: l, sub => match preB sub (b :: l) with
    | true => 0
    | false => match idxL l sub with
      | .ofNat n => .ofNat (n + 1)
      | .negSucc n => .negSucc n
theorem preB_eq : ∀ (a b : List UInt8), preB a b = a.isPrefixOf b
  | [], _ => by simp [preB]
  | _ :: _, [] => by simp [preB]
  | x :: l, y :: m => by
    have hxy : Nat.beq x.toNat y.toNat = (x == y) := by
      rw [Bool.eq_iff_iff]
      simp [UInt8.toNat_inj]
    simp only [preB, List.isPrefixOf, hxy]
    cases x == y with
    | true => simpa using preB_eq l m
    | false => rfl
theorem idxL_eq : ∀ (s sub : List UInt8), idxL s sub = Lib.index s sub
  | [], [] => by simp [idxL, Lib.index]
  | [], _ :: _ => by simp [idxL, Lib.index]
  | b :: l, sub => by
    have ih := idxL_eq l sub
    have hg := Lib.index_ge l sub
    unfold idxL Lib.index
    rw [preB_eq]
    cases sub.isPrefixOf (b :: l) with
    | true => simp
    | false =>
      simp only [Bool.false_eq_true, if_false]
      rw [← ih] at hg ⊢
      generalize idxL l sub = q at hg ⊢
      cases q with
      | ofNat n =>
        simp
      | negSucc n =>
        have hn : n = 0 := by omega
        subst hn
        rfl

def specI : Nat → List Value → Option Value
  | 0, [.string a, .string b] => whenB (Nat.blt (lenL (bytesL a)) 65536) (some (.int .i64 (idxL (bytesL a) (bytesL b))))
  | _, _ => none

theorem specI_plain {n : Nat} {args : List Value} {v : Value} (h : specI n args = some v) : args.all plain1 = true := by
  unfold specI at h
  split at h
  · rfl
  · cases h

/-- A function that answers the first place, wherever a cell below the own memory holds some number. -/
theorem ext_index {P : Program} {E : Env} {w0 : World} {f : FuncId} {g : Nat} (hE : E.spec = specI) (hf : ∃ fn, E.funcs f = some fn) (G : ∀ fn, E.funcs f = some fn → P.funcs[f]? = some fn ∧ fn.body.isSome = true ∧ (fn.name == "runtime.NumGoroutine") = false)
    (hg : g < w0.heap.size) (hm : ∃ m, w0.cell? ⟨g, 0, none⟩ = some (.int .i64 m))
    (con : ∀ (s sub : ByteArray) (m : Int) (w : World), s.size < 4294967281 → w.cell? ⟨g, 0, none⟩ = some (.int .i64 m) → Calls P f #[.string s, .string sub] w fun e w' => e = .returned (.int .i64 (Lib.index s.data.toList sub.data.toList)) ∧ w' = w) :
    ExtOK P E w0 f (.spec 0) := by
  intro args w
  refine ⟨?_, fun v hv => ?_⟩
  · obtain ⟨fn, hfn⟩ := hf
    obtain ⟨h1, h2, h3⟩ := G fn hfn
    have h4 : fn.body ≠ none := by intro e; rw [e] at h2; cases h2
    have h3' : ¬ (fn.name = "runtime.NumGoroutine") := by simpa using h3
    simp [callFunc, h1, h3', h4]
  · rw [hE] at hv
    have hp := specI_plain hv
    obtain ⟨al⟩ := args
    unfold specI at hv
    split at hv
    · rename_i a b _ hab
      rw [whenB_some, blt_iff, lenL_eq] at hv
      obtain ⟨hlt, hv⟩ := hv
      cases hv
      refine ⟨rfl, hp, fun hB => ?_⟩
      have hal : al = [.string a, .string b] := hab
      subst hal
      obtain ⟨m, hm⟩ := hm
      have hc : w.cell? ⟨g, 0, none⟩ = some (.int .i64 m) := by
        rw [← hm]
        unfold World.cell?
        rw [hB.block g hg]
      have hsz : a.size < 4294967281 := by
        have : a.size = (bytesL a).length := (Array.length_toList (xs := a.data)).symm
        omega
      refine (con a b m w hsz hc).mono fun e w' ⟨he, hw⟩ => ?_
      subst hw
      exact ⟨by rw [he, idxL_eq]; rfl, .refl _ _⟩
    · cases hv

end Go.AE
