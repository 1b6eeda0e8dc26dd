/- The abstract machine against the model: frames, regions, ranges over functions, each step. No condition. -/
import Derived.Test.YteafbeealhpelaaGreatDoorAfB
namespace Go.AE
open Go.RowKit

/-- A call's kind: deferred or not. -/
def kindOf : Bool → CallKind
  | true => .deferred
  | false => .normal
theorem kindOf_early (b : Bool) : (kindOf b == CallKind.early) = false := by cases b <;> rfl
/-- A frame that runs. -/
def mk (fn : FuncId) (tmps : Array Value) (todo : List Item) (ds : List Deferred) (ro : Option Nat × Bool) : Frame :=
  { fn, tmps, todo, defers := ds, mode := .run, kind := kindOf ro.2, roundOf := ro.1 }
/-- A frame that returns. -/
def mkR (fn : FuncId) (tmps : Array Value) (todo : List Item) (ds : List Deferred) (ro : Option Nat × Bool) : Frame :=
  { fn, tmps, todo, defers := ds, mode := .returning, kind := kindOf ro.2, roundOf := ro.1 }
def putC (tmps : Array Value) (dst : Option Tmp) (v : Value) : Array Value := match dst with
  | some d => tmps.setIfInBounds d v
  | none => tmps
theorem putC_size {tmps : Array Value} {dst : Option Tmp} {v : Value} : (putC tmps dst v).size = tmps.size := by
  cases dst <;> simp [putC]
theorem putC_get {tmps : Array Value} {dst : Option Tmp} {v : Value} {t : Nat} : (putC tmps dst v)[t]? = if dst = some t ∧ t < tmps.size then some v else tmps[t]? := by
  cases dst with
  | none => simp [putC]
  | some d =>
    simp only [putC, Array.getElem?_setIfInBounds, Option.some.injEq]
    by_cases h : d = t
    · subst h
      by_cases h2 : d < tmps.size
      · simp [h2]
      · simp [h2]
    · simp [h]

def evalT (tmps : Array Value) : Operand → Value
  | .tmp t => tmps.getD t undef
  | .const v => v
  | .global g => .pointer (some ⟨g, 0, none⟩)
  | .func f => .func (.func f) #[] #[]

section
variable {P : Program} {fn : FuncId} {tmps : Array Value} {k : List Item} {ds : List Deferred} {ro : Option Nat × Bool} {kd : Bool} {cs : List Frame} {w w' : World} {ops : Array Oper} {i : Nat} {rest : List Nat} {o : Oper}

theorem mk_eval (todo : List Item) : (mk fn tmps todo ds ro).eval = evalT tmps := by
  funext x; cases x <;> rfl
theorem mk_finish (ho : ops[i]? = some o) (v : Value) : (mk fn tmps (.inRegion ops (i :: rest) :: k) ds ro).finish v = mk fn (putC tmps o.dst v) (.inRegion ops rest :: k) ds ro := by
  simp only [Frame.finish, mk, ho, Option.bind_some, putC]
  cases o.dst <;> rfl
theorem mk_finish_range (l : Nat) (v : Value) : (mk fn tmps (.inRangeFunc l :: k) ds ro).finish v = mk fn tmps (.endRangeFunc l :: k) ds ro := rfl

theorem st_skip : step P (lone (mk fn tmps (.code .skip :: k) ds ro) cs w) = .next (lone (mk fn tmps k ds ro) cs w) := step_lone_go (by simp [stepG, stepG.exec, mk])
theorem st_label {l : Nat} : step P (lone (mk fn tmps (.code (.label l) :: k) ds ro) cs w) = .next (lone (mk fn tmps k ds ro) cs w) := step_lone_go (by simp [stepG, stepG.exec, mk])
theorem st_inBlock {id : Nat} : step P (lone (mk fn tmps (.inBlock id :: k) ds ro) cs w) = .next (lone (mk fn tmps k ds ro) cs w) := step_lone_go (by simp [stepG, stepG.exec, mk])
theorem st_inScope {c : Code} : step P (lone (mk fn tmps (.inScope c :: k) ds ro) cs w) = .next (lone (mk fn tmps k ds ro) cs w) := step_lone_go (by simp [stepG, stepG.exec, mk])
theorem st_seq {x y : Code} : step P (lone (mk fn tmps (.code (.seq x y) :: k) ds ro) cs w) = .next (lone (mk fn tmps (.code x :: .code y :: k) ds ro) cs w) := step_lone_go (by simp [stepG, stepG.exec, mk])
theorem st_cond {c : Operand} {x y : Code} {t : Bool} (h : evalT tmps c = .bool t) :
    step P (lone (mk fn tmps (.code (.cond c x y) :: k) ds ro) cs w) = .next (lone (mk fn tmps (.code (if t then x else y) :: k) ds ro) cs w) :=
  step_lone_go (by
    have := congrFun (mk_eval (fn := fn) (tmps := tmps) (ds := ds) (ro := ro) (.code (.cond c x y) :: k)) c
    simp only [mk] at this
    simp [stepG, stepG.exec, mk, this, h])
theorem st_block {id : Nat} {c : Code} : step P (lone (mk fn tmps (.code (.block id c) :: k) ds ro) cs w) = .next (lone (mk fn tmps (.code c :: .inBlock id :: k) ds ro) cs w) := step_lone_go (by simp [stepG, stepG.exec, mk])
theorem st_loop {c : Code} : step P (lone (mk fn tmps (.code (.loop c) :: k) ds ro) cs w) = .next (lone (mk fn tmps (.code c :: .inLoop c :: k) ds ro) cs w) := step_lone_go (by simp [stepG, stepG.exec, mk])
theorem st_inLoop {c : Code} : step P (lone (mk fn tmps (.inLoop c :: k) ds ro) cs w) = .next (lone (mk fn tmps (.code c :: .inLoop c :: k) ds ro) cs w) := step_lone_go (by simp [stepG, stepG.exec, mk])
theorem st_scope {c : Code} : step P (lone (mk fn tmps (.code (.scope c) :: k) ds ro) cs w) = .next (lone (mk fn tmps (.code c :: .inScope c :: k) ds ro) cs w) := step_lone_go (by simp [stepG, stepG.exec, mk])
theorem st_exit {id : Nat} {k' : List Item} (h : exitTo id k = some k') : step P (lone (mk fn tmps (.code (.exit id) :: k) ds ro) cs w) = .next (lone (mk fn tmps k' ds ro) cs w) := step_lone_go (by simp [stepG, stepG.exec, mk, h])
theorem st_goto {l : Nat} {k' : List Item} (h : gotoIn l k = some k') : step P (lone (mk fn tmps (.code (.goto l) :: k) ds ro) cs w) = .next (lone (mk fn tmps k' ds ro) cs w) := step_lone_go (by simp [stepG, stepG.exec, mk, h])
theorem st_ret : step P (lone (mk fn tmps (.code .ret :: k) ds (none, kd)) cs w) = .next (lone (mkR fn tmps (.code .ret :: k) ds (none, kd)) cs w) := step_lone_go (by simp [stepG, stepG.exec, mk, mkR])
theorem st_end : step P (lone (mk fn tmps [] ds (none, kd)) cs w) = .next (lone (mkR fn tmps [] ds (none, kd)) cs w) := step_lone_go (by simp [stepG, stepG.exec, mk, mkR])
theorem st_region {id : Nat} : step P (lone (mk fn tmps (.code (.region id ops false) :: k) ds ro) cs w) = .next (lone (mk fn tmps (.inRegion ops (List.range ops.size) :: k) ds ro) cs w) := step_lone_go (by simp [stepG, stepG.exec, mk])
theorem st_region_draw {id : Nat} : step P (lone (mk fn tmps (.code (.region id ops true) :: k) ds ro) cs w) =
      .next (lone (mk fn tmps (.inRegion ops (Region.schedule (P.follows .mixedOrders) ops (w.tape w.drawn (.order fn id))) :: k) ds ro) cs { w with drawn := w.drawn + 1 }) :=
  step_lone_go (by simp [stepG, stepG.exec, mk, choose, Sem.run, Question.forced, Question.cut])
theorem st_region_end : step P (lone (mk fn tmps (.inRegion ops [] :: k) ds ro) cs w) = .next (lone (mk fn tmps k ds ro) cs w) := step_lone_go (by simp [stepG, stepG.exec, mk])

theorem st_op_skip (ho : ops[i]? = some o) (hw : Region.wanted o (yielded ops tmps) = false) :
    step P (lone (mk fn tmps (.inRegion ops (i :: rest) :: k) ds ro) cs w) = .next (lone (mk fn (putC tmps o.dst undef) (.inRegion ops rest :: k) ds ro) cs w) := by
  rw [← mk_finish ho]
  exact step_lone_go (by simp [stepG, stepG.exec, mk, ho, hw])

theorem stG_op (ho : ops[i]? = some o) (hw : Region.wanted o (yielded ops tmps) = true) (hd : ∀ c, o.op ≠ .defer c) :
    stepG P true { frame := mk fn tmps (.inRegion ops (i :: rest) :: k) ds ro, callers := cs, status := .running, dying := none } w =
      stepG.apply P true (mk fn tmps (.inRegion ops (i :: rest) :: k) ds ro) cs none (execOp (evalT tmps) o) w := by
  have he := mk_eval (fn := fn) (tmps := tmps) (ds := ds) (ro := ro) (.inRegion ops (i :: rest) :: k)
  simp only [mk] at he
  simp only [stepG, stepG.exec, stepG.oper, Frame.oper?, mk, ho, hw, he, Option.map_some, Option.getD_some, if_true]
  try (split <;> first | rfl | (rename_i h; exact absurd h (hd _)))

theorem st_op_value (ho : ops[i]? = some o) (hw : Region.wanted o (yielded ops tmps) = true) (hd : ∀ c, o.op ≠ .defer c) {v : Value} (h : (execOp (evalT tmps) o).run P w = .ok (.value v) w') :
    step P (lone (mk fn tmps (.inRegion ops (i :: rest) :: k) ds ro) cs w) = .next (lone (mk fn (putC tmps o.dst v) (.inRegion ops rest :: k) ds ro) cs w') := by
  rw [← mk_finish ho]
  exact step_lone_go (by rw [stG_op ho hw hd]; simp [stepG.apply, h])
theorem st_op_skipped (ho : ops[i]? = some o) (hw : Region.wanted o (yielded ops tmps) = true) (hd : ∀ c, o.op ≠ .defer c) (h : (execOp (evalT tmps) o).run P w = .ok .skip w') :
    step P (lone (mk fn tmps (.inRegion ops (i :: rest) :: k) ds ro) cs w) = .next (lone (mk fn (putC tmps o.dst undef) (.inRegion ops rest :: k) ds ro) cs w') := by
  rw [← mk_finish ho]
  exact step_lone_go (by rw [stG_op ho hw hd]; simp [stepG.apply, h])
theorem st_op_enter (ho : ops[i]? = some o) (hw : Region.wanted o (yielded ops tmps) = true) (hd : ∀ c, o.op ≠ .defer c) {f : FuncId} {args : Array Value} (h : (execOp (evalT tmps) o).run P w = .ok (.enter f args) w') :
    step P (lone (mk fn tmps (.inRegion ops (i :: rest) :: k) ds ro) cs w) = .next (lone (Frame.enter P f args .normal) (mk fn tmps (.inRegion ops (i :: rest) :: k) ds ro :: cs) w') :=
  step_lone_go (by rw [stG_op ho hw hd]; simp [stepG.apply, h]; rfl)
theorem st_op_round (ho : ops[i]? = some o) (hw : Region.wanted o (yielded ops tmps) = true) (hd : ∀ c, o.op ≠ .defer c) {l : Nat} {f : FuncId} {ts : Array Value} {as b : Code} (h : (execOp (evalT tmps) o).run P w = .ok (.round l f ts as b) w') :
    step P (lone (mk fn tmps (.inRegion ops (i :: rest) :: k) ds ro) cs w) = .next (lone (mk f ts [.code as, .beginRound, .code b] [] (some l, false)) (mk fn tmps (.inRegion ops (i :: rest) :: k) ds ro :: cs) w') :=
  step_lone_go (by rw [stG_op ho hw hd]; simp [stepG.apply, h]; rfl)

theorem st_return {c : Frame} {v : Value} {fnc : Func} (hf : P.funcs[fn]? = some fnc) (hr : (results fnc tmps).run P w = .ok v w) :
    step P (lone (mkR fn tmps k [] (ro.1, false)) (c :: cs) w) = .next (lone (c.finish v) cs w) :=
  step_lone_go (by simp [stepG, unwind, doReturn, mkR, kindOf, hf, hr])
/-- A deferred call has returned: its caller goes on returning. -/
theorem st_return_deferred {fn2 : FuncId} {tmps2 : Array Value} {k2 : List Item} {ds2 : List Deferred} {ro2 : Option Nat × Bool} {v : Value} {fnc : Func} (hf : P.funcs[fn]? = some fnc) (hr : (results fnc tmps).run P w = .ok v w) :
    step P (lone (mkR fn tmps k [] (ro.1, true)) (mkR fn2 tmps2 k2 ds2 ro2 :: cs) w) = .next (lone (mkR fn2 tmps2 k2 ds2 ro2) cs w) :=
  step_lone_go (by simp [stepG, unwind, doReturn, mkR, kindOf, hf, hr])
/-- A deferred call begins. -/
theorem st_call_deferred {f : FuncId} {args captured args2 : Array Value} (h : (callFunc f (args ++ captured)).run P w = .ok (.enter f args2) w') :
    step P (lone (mkR fn tmps k ({ target := .fn (.func f) captured, args } :: ds) ro) cs w) = .next (lone (Frame.enter P f args2 .deferred) (mkR fn tmps k ds ro :: cs) w') :=
  step_lone_go (by simp [stepG, unwind, callDeferred, invoke, mkR, h])
theorem stG_op0 (ho : ops[i]? = some o) (hw : Region.wanted o (yielded ops tmps) = true) :
    stepG P true { frame := mk fn tmps (.inRegion ops (i :: rest) :: k) ds (none, kd), callers := cs, status := .running, dying := none } w =
      stepG.apply P true (mk fn tmps (.inRegion ops (i :: rest) :: k) ds (none, kd)) cs none (execOp (evalT tmps) o) w := by
  have he := mk_eval (fn := fn) (tmps := tmps) (ds := ds) (ro := (none, kd)) (.inRegion ops (i :: rest) :: k)
  simp only [mk] at he
  simp only [stepG, stepG.exec, stepG.oper, Frame.oper?, mk, ho, hw, he, Option.map_some, Option.getD_some, if_true]
theorem st_op_defer (ho : ops[i]? = some o) (hw : Region.wanted o (yielded ops tmps) = true) {d : Deferred} (h : (execOp (evalT tmps) o).run P w = .ok (.defer d) w') :
    step P (lone (mk fn tmps (.inRegion ops (i :: rest) :: k) ds (none, kd)) cs w) = .next (lone ((mk fn tmps (.inRegion ops (i :: rest) :: k) (d :: ds) (none, kd)).finish undef) cs w') :=
  step_lone_go (by rw [stG_op0 ho hw]; simp [stepG.apply, h]; rfl)
theorem st_op_recover (ho : ops[i]? = some o) (hw : Region.wanted o (yielded ops tmps) = true) (h : (execOp (evalT tmps) o).run P w = .ok .recover w') (hr : tryRecover (mk fn tmps (.inRegion ops (i :: rest) :: k) ds (none, kd)) cs = none) :
    step P (lone (mk fn tmps (.inRegion ops (i :: rest) :: k) ds (none, kd)) cs w) = .next (lone ((mk fn tmps (.inRegion ops (i :: rest) :: k) ds (none, kd)).finish .nilIface) cs w') :=
  step_lone_go (by
    rw [stG_op0 ho hw]
    have hro : (mk fn tmps (.inRegion ops (i :: rest) :: k) ds (none, kd)).roundOf = none := rfl
    simp [stepG.apply, h, hr, hro])
theorem tryRecover_normal {todo : List Item} {ol : Option Nat} : tryRecover (mk fn tmps todo ds (ol, false)) cs = none := by
  simp [tryRecover, mk, kindOf]
theorem tryRecover_run {todo todo2 : List Item} {fn2 : FuncId} {tmps2 : Array Value} {ds2 : List Deferred} {ro2 : Option Nat × Bool} : tryRecover (mk fn tmps todo ds (ro.1, true)) (mk fn2 tmps2 todo2 ds2 ro2 :: cs) = none := by
  simp [tryRecover, mk, kindOf]
theorem tryRecover_ret {todo todo2 : List Item} {fn2 : FuncId} {tmps2 : Array Value} {ds2 : List Deferred} {ro2 : Option Nat × Bool} : tryRecover (mk fn tmps todo ds (ro.1, true)) (mkR fn2 tmps2 todo2 ds2 ro2 :: cs) = none := by
  simp [tryRecover, mk, mkR, kindOf]
theorem st_defer {b : Nat} (h : (Instr.takeDeferred b).run P w = .ok [] w') :
    step P (lone (mkR fn tmps k ({ target := .collected b, args := #[] } :: ds) ro) cs w) = .next (lone (mkR fn tmps k ds ro) cs w') :=
  step_lone_go (by simp [stepG, unwind, mkR, h])
theorem st_leave {l : Nat} {c : Frame} {v : Value} (h : (Instr.endRound l none).run P w = .ok v w') :
    step P (lone (mk fn tmps [] ds (some l, false)) (c :: cs) w) = .next (lone (c.finish v) cs w') :=
  step_lone_go (by simp [stepG, stepG.exec, mk, kindOf, h, doReturn])
theorem st_leave_ret {l : Nat} {c : Frame} {v : Value} (h : (Instr.endRound l (some .ret)).run P w = .ok v w') :
    step P (lone (mk fn tmps (.code .ret :: k) ds (some l, false)) (c :: cs) w) = .next (lone (c.finish v) cs w') :=
  step_lone_go (by simp [stepG, stepG.exec, mk, kindOf, h, doReturn])
theorem st_leave_exit {l id : Nat} {c : Frame} {v : Value} (he : exitTo id k = none) (h : (Instr.endRound l (some (.exit id))).run P w = .ok v w') :
    step P (lone (mk fn tmps (.code (.exit id) :: k) ds (some l, false)) (c :: cs) w) = .next (lone (c.finish v) cs w') :=
  step_lone_go (by simp [stepG, stepG.exec, mk, kindOf, h, he, doReturn])
theorem st_leave_goto {l id : Nat} {c : Frame} {v : Value} (he : gotoIn id k = none) (h : (Instr.endRound l (some (.goto id))).run P w = .ok v w') :
    step P (lone (mk fn tmps (.code (.goto id) :: k) ds (some l, false)) (c :: cs) w) = .next (lone (c.finish v) cs w') :=
  step_lone_go (by simp [stepG, stepG.exec, mk, kindOf, h, he, doReturn])
theorem st_beginRound {l : Nat} (h : (Instr.beginRound l).run P w = .ok () w') :
    step P (lone (mk fn tmps (.beginRound :: k) ds (some l, false)) cs w) = .next (lone (mk fn tmps k ds (some l, false)) cs w') :=
  step_lone_go (by simp [stepG, stepG.exec, mk, stepG.apply, h, Frame.finish])
theorem st_endRange {l : Nat} {j : Option Code} (h : (Instr.endLoop l).run P w = .ok j w') :
    step P (lone (mk fn tmps (.endRangeFunc l :: k) ds ro) cs w) = .next (lone (mk fn tmps ((j.map Item.code).toList ++ k) ds ro) cs w') :=
  step_lone_go (by simp [stepG, stepG.exec, mk, h])
/-- The begin of a range over a function: the loop's object, then the call of the function. -/
theorem stG_range {f : Operand} {ps : Array Tmp} {as b : Code} {l : Nat} {mark : List Deferred} (h : (Instr.enterLoop fn tmps ps as b ro.1).run P w = .ok (l, mark) w') :
    (stepG P true { frame := mk fn tmps (.code (.rangeFunc f ps as b) :: k) ds ro, callers := cs, status := .running, dying := none } w).bare =
      (stepG.apply P true (mk fn tmps (.inRangeFunc l :: k) (mark ++ ds) ro) cs none (do
        let d ← Deferred.ofValue (evalT tmps f) #[.func (.yield l) #[] #[]]; invoke d.target d.args) w').bare := by
  have he := mk_eval (fn := fn) (tmps := tmps) (ds := mark ++ ds) (ro := ro) (.inRangeFunc l :: k)
  simp only [mk] at he
  simp only [stepG, stepG.exec, mk, Sem.runT_eq, h, GStep.bare_after]
  simp only [resolve, he, List.map_toArray, List.map_cons, List.map_nil, evalT]
theorem st_range_enter {f : Operand} {ps : Array Tmp} {as b : Code} {l : Nat} {mark : List Deferred} (h : (Instr.enterLoop fn tmps ps as b ro.1).run P w = .ok (l, mark) w') {g : FuncId} {args : Array Value}
    (h2 : ((do let d ← Deferred.ofValue (evalT tmps f) #[.func (.yield l) #[] #[]]; invoke d.target d.args) : Sem Next).run P w' = .ok (.enter g args) w') :
    step P (lone (mk fn tmps (.code (.rangeFunc f ps as b) :: k) ds ro) cs w) = .next (lone (Frame.enter P g args .normal) (mk fn tmps (.inRangeFunc l :: k) (mark ++ ds) ro :: cs) w') :=
  step_lone_go (by rw [stG_range h]; simp only [stepG.apply, Sem.runT_eq, h2, GStep.bare_after, if_true]; rfl)

end
end Go.AE
namespace Go.AE
open Go.RowKit

section
variable {P : Program} {E : Env} {φ : Phi} {w0 w w' : World} {h : AHeap}

theorem opA_pure {tm : Tr Value} {o : Oper} (hm : moves E o.op = false) (ha : isAlloc o.op = false) {r : ARes} (e : opA E tm h o = some r) : ∃ v, r = .val v h := by
  obtain ⟨dst, op, type, pos, after, guard⟩ := o
  simp only at hm ha
  unfold opA at e
  simp only at e
  cases op <;> (try (simp only at e)) <;> (try (cases e; done)) <;> (try (obtain ⟨v, hv, rfl⟩ := keepH_val e; exact ⟨v, rfl⟩)) <;> (try (simp [moves, mover] at hm; done)) <;> (try (simp [isAlloc] at ha; done))
  case convert s d x =>
    simp only [Option.bind_eq_some_iff] at e
    obtain ⟨xv, hx, e⟩ := e
    obtain ⟨v, h', hv, rfl⟩ := resV_val e
    simp only [moves] at hm
    unfold convA at hv
    simp only [Option.bind_eq_some_iff] at hv
    obtain ⟨s1, hs, d1, hd, hv⟩ := hv
    rw [hs, hd] at hm
    simp only at hm
    cases hsd : s1.d <;> cases hdd : d1.d <;> simp [hsd, hdd, isIntTy, isSlTy, isStrTy] at hm
    all_goals rw [hsd, hdd] at hv
    all_goals first
      | (cases xv <;> simp only at hv <;> cases hv
         exact ⟨_, rfl⟩)
      | (cases xv <;> simp only at hv <;> (try (cases hv; done))
         rename_i base n c
         rw [whenB_some] at hv
         obtain ⟨_, hv⟩ := hv
         cases base with
         | none =>
           cases hv
           exact ⟨_, rfl⟩
         | some a =>
           simp only [Option.bind_eq_some_iff] at hv
           obtain ⟨cs, _, l, _, hv⟩ := hv
           cases hv
           exact ⟨_, rfl⟩)
  case call c =>
    obtain ⟨callee, args, ats⟩ := c
    unfold callOpA at e
    simp only [Option.bind_eq_some_iff] at e
    obtain ⟨as, has, e⟩ := e
    cases callee with
    | value f => simp [moves, mover] at hm
    | invoke r n => simp [moves, mover] at hm
    | builtin b =>
      simp only at e
      cases b <;> (try exact absurd (show true = false from hm) (by decide))
      all_goals
        unfold builtinA at e
        split at e
        all_goals (first
          | (rename_i hq; cases hq; done)
          | (rename_i hq _; cases hq; done)
          | (rename_i hq _ _; cases hq; done)
          | (cases e; done)
          | (simp only [Option.bind_eq_some_iff] at e; obtain ⟨v, hv, e⟩ := e; cases e; exact ⟨v, rfl⟩)
          | skip)

theorem opA_nodefer {tm : Tr Value} {o : Oper} {r : ARes} (e : opA E tm h o = some r) : (∀ c, o.op ≠ .defer c) ∨ ∃ f a c, r = .dfr f a c := by
  by_cases hd : ∃ c, o.op = .defer c
  · obtain ⟨c, hc⟩ := hd
    unfold opA at e
    rw [hc] at e
    simp only [deferA, Option.bind_eq_some_iff] at e
    obtain ⟨args, _, e⟩ := e
    right
    split at e
    · simp only [Option.bind_eq_some_iff] at e
      obtain ⟨v, _, e⟩ := e
      split at e
      · cases e; exact ⟨_, _, _, rfl⟩
      · cases e
    · cases e
  · exact .inl fun c hc => hd ⟨c, hc⟩

theorem nodefer_of {ρ : Operand → Value} {o : Oper} {n : Next} (h : (execOp ρ o).run P w = .ok n w') (hn : ∀ d, n ≠ .defer d) : ∀ c, o.op ≠ .defer c := by
  intro c hc
  simp only [execOp, hc, Sem.run_bind] at h
  cases hr : (resolve ρ c o.type).run P w with
  | ok d w2 =>
    rw [hr] at h
    simp only [Result.andThen_ok, Sem.run_pure, Result.ok.injEq] at h
    exact hn _ h.1.symm
  | halt a b =>
    rw [hr] at h
    cases h

theorem evalT_rel (s : Sim E φ w0 h w) {tm : Tr Value} {tmps : Array Value} {xs : List Operand} (hl : ∀ t ∈ tmpsOf xs, ∀ v, tm.get t = some v → ∃ u, tmps[t]? = some u ∧ VRel φ v u) :
    ∀ x v, x ∈ xs → evalA E.nG tm x = some v → VRel φ v (evalT tmps x) := by
  intro x v hx e
  cases x with
  | tmp t =>
    obtain ⟨u, h1, h2⟩ := hl t (tmpsOf_mem hx) v e
    simp only [evalT, Array.getD_eq_getD_getElem?, h1, Option.getD_some]
    exact h2
  | const c =>
    simp only [evalA, whenB_some] at e
    obtain ⟨h1, e⟩ := e
    cases e
    exact plainV_rel h1
  | global g =>
    simp only [evalA, whenB_some, blt_iff] at e
    obtain ⟨h1, e⟩ := e
    cases e
    exact .ptr ⟨rfl, rfl, _, (s.glob g h1).1, rfl, rfl⟩
  | func f =>
    cases e
    exact .func (.func f) .nil .nil

theorem wanted_rel {tm : Tr Value} {tmps : Array Value} {ops : Array Oper} {o : Oper} (hl : ∀ t ∈ looks ops.toList o, ∀ v, tm.get t = some v → ∃ u, tmps[t]? = some u ∧ VRel φ v u) {b : Bool}
    (e : wantedA tm ops.toList o = some b) : Region.wanted o (yielded ops tmps) = b := by
  unfold wantedA at e
  unfold Region.wanted
  cases hg : o.guard with
  | none => rw [hg] at e; cases e; rfl
  | some gw =>
    obtain ⟨g, want⟩ := gw
    rw [hg] at e
    simp only [nth_eq, Option.bind_eq_some_iff] at e
    obtain ⟨og, ho, d, hd, v, hv, e⟩ := e
    have ho' : ops[g]? = some og := by simpa using ho
    obtain ⟨u, h1, h2⟩ := hl d (by simp [looks, guardTmp, hg, nth_eq, ho', hd]) v hv
    simp only [yielded, ho', Option.bind_some, hd, h1]
    cases h2 <;> simp only at e <;> cases e <;> simp

end

section
variable {P : Program} {E : Env} {φ φ' : Phi} {w0 w w' : World} {h : AHeap} {lo hi nt : Nat} {ops : List Oper} {pre : List Nat} {dn xp : Nat} {tm : Tr Value} {tmps : Array Value} {dc td rest : List Nat} {rf : Nat → Nat} {i : Nat} {o : Oper}

theorem DR.pends (D : DR E φ h lo hi nt ops pre dn xp tm tmps dc td rf) (h1 : i ∈ td) (h2 : dn.testBit i = true) (ho : ops[i]? = some o) : moves E o.op = false := by
  cases hx : moves E o.op
  · rfl
  · exact (D.disj (D.d2 i o ho hx h2) h1).elim

/-- The next operation reads nothing that is pending. -/
theorem DR.look (D : DR E φ h lo hi nt ops pre dn xp tm tmps dc (i :: rest) rf) (ho : ops[i]? = some o) {t : Nat} (ht : t ∈ looks ops o) {v : Value} (hv : tm.get t = some v) :
    ∃ u, tmps[t]? = some u ∧ VRel φ v u := by
  rcases (D.tms t v hv).2 with ⟨j, oj, h1, h2, h3, h4⟩ | h1
  · have hmj := D.pends h1 h2 h3
    exfalso
    by_cases hij : i = j
    · subst hij
      rw [ho] at h3; cases h3
      exact D.st.self i o t ho hmj h4 ht
    · refine (D.st.stable ho h3 hij (fun p hp => ?_) (fun e => by rw [hmj] at e; cases e) h4).1 ht
      cases hb : p.testBit j
      · rfl
      · exact (D.disj (D.lin.fore dc i rest rfl p hp j hb) h1).elim
  · exact h1

/-- The next operation, pending, is run. -/
theorem DR.ran (D : DR E φ h lo hi nt ops pre dn xp tm tmps dc (i :: rest) rf) (ho : ops[i]? = some o) (hb : dn.testBit i = true) (hle : φ.le φ') {v' : Value}
    (hv : ∀ d v, o.dst = some d → tm.get d = some v → VRel φ' v v')
    (hal : ∀ (j : Nat) (oj : Oper), j ∈ rest → dn.testBit j = true → ops[j]? = some oj → isAlloc oj.op = true → φ' (rf j) = none) :
    DR E φ' h lo hi nt ops pre dn xp tm (putC tmps o.dst v') (dc ++ [i]) rest rf where
  st := D.st
  lin := by rw [List.append_assoc]; exact D.lin
  d1 := by
    intro j hj
    rcases List.mem_append.1 hj with hj | hj
    · exact D.d1 j hj
    · simp at hj; subst hj; exact hb
  d2 := fun j oj h1 h2 h3 => List.mem_append_left _ (D.d2 j oj h1 h2 h3)
  dp := D.dp
  xpd := fun j hj => D.xpd j (List.mem_cons_of_mem _ hj)
  size := by rw [putC_size, D.size]
  tms := by
    intro t v ht
    obtain ⟨h1, h2⟩ := D.tms t v ht
    refine ⟨h1, ?_⟩
    rw [putC_get, D.size]
    by_cases hd : o.dst = some t
    · rw [if_pos ⟨hd, h1⟩]
      exact .inr ⟨v', rfl, hv t v hd ht⟩
    · rw [if_neg (fun e => hd e.1)]
      rcases h2 with ⟨j, oj, a, b, c, d⟩ | ⟨u, a, b⟩
      · rcases List.mem_cons.1 a with rfl | a
        · rw [ho] at c; cases c; exact absurd d hd
        · exact .inl ⟨j, oj, a, b, c, d⟩
      · exact .inr ⟨u, a, b.mono hle⟩
  al := by
    intro j oj hj hbj hoj haj
    obtain ⟨h1, h2, h3, h4, h5, h6⟩ := D.al j oj (List.mem_cons_of_mem _ hj) hbj hoj haj
    exact ⟨h1, h2, h3, h4, hal j oj hj hbj hoj haj, h6⟩
  inj := fun j k oj ok hj hk => D.inj j k oj ok (List.mem_cons_of_mem _ hj) (List.mem_cons_of_mem _ hk)

end

section
variable {P : Program} {E : Env} {φ : Phi} {w0 w : World} {h : AHeap} {lo nt : Nat} {ops : Array Oper} {pre : List Nat} {dn xp : Nat} {tm : Tr Value} {tmps : Array Value} {dc rest : List Nat} {rf : Nat → Nat} {i : Nat} {o : Oper}
  {fn : FuncId} {k : List Item} {ds : List Deferred} {ro : Option Nat × Bool} {cs : List Frame}

/-- What the model's run of pending operations gives. -/
structure Ran (E : Env) (φ : Phi) (w0 : World) (h : AHeap) (lo nt : Nat) (ops : List Oper) (pre : List Nat) (dn xp : Nat) (tm : Tr Value) (dc td : List Nat) (rf : Nat → Nat) (φ' : Phi) (w' : World) (tmps' : Array Value) : Prop where
  dr : DR E φ' h lo h.nx nt ops pre dn xp tm tmps' dc td rf
  sim : Sim E φ' w0 h w'
  le : φ.le φ'
  low : ∀ r, r < lo → φ r = none → φ' r = none

theorem run_pending (G : Good P E w0) (s : Sim E φ w0 h w) (D : DR E φ h lo h.nx nt ops.toList pre dn xp tm tmps dc (i :: rest) rf) (ho : ops[i]? = some o) (hb : dn.testBit i = true)
    (hs : isAlloc o.op = false → Seen E h nt ops.toList tm o) :
    ∃ φ' tmps' w', step P (lone (mk fn tmps (.inRegion ops (i :: rest) :: k) ds ro) cs w) = .next (lone (mk fn tmps' (.inRegion ops rest :: k) ds ro) cs w') ∧
      Ran E φ w0 h lo nt ops.toList pre dn xp tm (dc ++ [i]) rest rf φ' w' tmps' := by
  have ho' : ops.toList[i]? = some o := by simpa using ho
  have hm := D.pends (by simp) hb ho'
  have hlook : ∀ t ∈ looks ops.toList o, ∀ v, tm.get t = some v → ∃ u, tmps[t]? = some u ∧ VRel φ v u := fun t ht v hv => D.look ho' ht hv
  cases ha : isAlloc o.op with
  | true =>
    obtain ⟨h1, h2, h3, h4, h5, el, ty, h6, hty, h7⟩ := D.al i o (by simp) hb ho' ha
    have hw := wanted_rel hlook h1
    obtain ⟨⟨i1, d1, z1, hi1, hd1, hsz1, hb1, hz1, hdesc1, hzl, _⟩, hlen1, hpl1, _⟩ := G.types _ _ hty
    have hrun : (execOp (evalT tmps) o).run P w = .ok (.value (.pointer (some ⟨w.heap.size, 0, none⟩))) (w.alloc (.cells z1.cells el)) := by
      obtain ⟨dst, op, type, pos, after, guard⟩ := o
      simp only at h6
      subst h6
      simp [execOp, Instr.alloc, run_zer hi1 hz1, newVar, newRow]
    have hrel : VsRel φ ty.zero z1.cells.toList := by rw [hzl]; exact plainL_rel hpl1
    have hle : φ.le (φ.upd (rf i) ⟨w.heap.size, 0, z1.cells.size, ty.size⟩) := Phi.upd_le h5
    refine ⟨φ.upd (rf i) ⟨w.heap.size, 0, z1.cells.size, ty.size⟩, _, _, st_op_value ho hw (fun c hc => by rw [h6] at hc; cases hc) hrun, ⟨D.ran ho' hb hle ?_ ?_, ?_, hle, ?_⟩⟩
    · intro d v hd hv
      rw [h2 d hd (D.tms d v hv).1] at hv
      cases hv
      exact .ptr ⟨rfl, rfl, _, Phi.upd_self _ _ _, rfl, by simp⟩
    · intro j oj hj hbj hoj haj
      have hne : rf j ≠ rf i := fun e => by
        have := D.inj j i oj o (List.mem_cons_of_mem _ hj) (by simp) hbj hb hoj ho' haj ha e
        subst this
        have := D.lin.nd
        rw [List.nodup_append] at this
        simp [hj] at this
      rw [Phi.upd_ne hne]
      exact (D.al j oj (List.mem_cons_of_mem _ hj) hbj hoj haj).2.2.2.2.1
    · refine s.real (more_alloc w _) _ rfl h7 h5 h4 ⟨z1.cells, _, (more_alloc w _).new, rfl, ?_, ?_, .inl rfl, (fun y hy => by rw [hty] at hy; cases hy; rfl), rfl⟩
      · have := hrel.length
        have h2 := Array.length_toList (xs := z1.cells)
        simp only; omega
      · intro j v hv
        obtain ⟨u, hu, hr⟩ := hrel.get j v hv
        exact ⟨u, by simpa using hu, hr.mono hle⟩
    · intro r hr hn
      rw [Phi.upd_ne (by omega)]
      exact hn
  | false =>
    obtain ⟨tmk, v, h1, h2, h3⟩ := hs ha
    have hlookk : ∀ t ∈ looks ops.toList o, ∀ v, tmk.get t = some v → ∃ u, tmps[t]? = some u ∧ VRel φ v u := fun t ht v hv => hlook t ht v (by rw [← h1 t ht]; exact hv)
    unfold askA at h2
    simp only [Option.bind_eq_some_iff] at h2
    obtain ⟨b, hwa, h2⟩ := h2
    have hw := wanted_rel hlookk hwa
    cases b with
    | false =>
      simp only at h2; cases h2
      refine ⟨φ, _, w, st_op_skip ho hw, ⟨D.ran ho' hb (.refl φ) ?_ ?_, s, .refl φ, fun _ _ e => e⟩⟩
      · intro d v hd hv
        rw [h3 d hd (D.tms d v hv).1] at hv
        cases hv
        exact .tuple .nil
      · intro j oj hj hbj hoj haj
        exact (D.al j oj (List.mem_cons_of_mem _ hj) hbj hoj haj).2.2.2.2.1
    | true =>
      simp only [Option.bind_eq_some_iff] at h2
      obtain ⟨r, hr, h2⟩ := h2
      obtain ⟨v2, rfl⟩ := opA_pure hm ha hr
      simp only at h2; cases h2
      obtain ⟨φ', v', w', hrun, hvr, hp⟩ := opA_sound G s (ρ := evalT tmps) (evalT_rel s fun t ht => hlookk t (List.mem_append_right _ ht)) hr
      refine ⟨φ', _, w', st_op_value ho hw ((opA_nodefer hr).resolve_right (fun ⟨_, _, _, e⟩ => by cases e)) hrun, ⟨D.ran ho' hb hp.le ?_ ?_, hp.sim, hp.le, ?_⟩⟩
      · intro d u hd hu
        rw [h3 d hd (D.tms d u hu).1] at hu
        cases hu
        exact hvr
      · intro j oj hj hbj hoj haj
        obtain ⟨_, _, _, g4, g5, _⟩ := D.al j oj (List.mem_cons_of_mem _ hj) hbj hoj haj
        exact (hp.virt _ g4 g5).1
      · intro r hr hn
        rcases Nat.lt_or_ge r h.nx with hlt | hge
        · exact (hp.virt r hlt hn).1
        · exact (hp.sim.fresh r hge).1

/-- The model runs pending operations, one after another. -/
theorem run_pendings (G : Good P E w0) : ∀ (ks : List Nat) {φ : Phi} {w : World} {tmps : Array Value} {dc : List Nat}, Sim E φ w0 h w → DR E φ h lo h.nx nt ops.toList pre dn xp tm tmps dc (ks ++ rest) rf →
    (∀ i ∈ ks, dn.testBit i = true) → (∀ (i : Nat) (o : Oper), i ∈ ks → ops[i]? = some o → isAlloc o.op = false → Seen E h nt ops.toList tm o) →
    ∃ φ' tmps' w', Steps P (lone (mk fn tmps (.inRegion ops (ks ++ rest) :: k) ds ro) cs w) (lone (mk fn tmps' (.inRegion ops rest :: k) ds ro) cs w') ∧
      Ran E φ w0 h lo nt ops.toList pre dn xp tm (dc ++ ks) rest rf φ' w' tmps'
  | [], φ, w, tmps, dc, s, D, _, _ => ⟨φ, tmps, w, .refl _ _, ⟨by simpa using D, s, .refl φ, fun _ _ e => e⟩⟩
  | i :: ks, φ, w, tmps, dc, s, D, hb, hs => by
    have hi : i < ops.toList.length := (D.lin.all i).1 (by simp)
    have ho : ops[i]? = some ops[i] := by simp
    obtain ⟨φ1, tmps1, w1, h1, r1⟩ := run_pending (fn := fn) (k := k) (ds := ds) (ro := ro) (cs := cs) G s D ho (hb i (by simp)) (hs i _ (by simp) ho)
    obtain ⟨φ2, tmps2, w2, h2, r2⟩ := run_pendings G ks r1.sim r1.dr (fun j hj => hb j (by simp [hj])) (fun j o hj => hs j o (by simp [hj]))
    exact ⟨φ2, tmps2, w2, .head h1 h2, ⟨by simpa using r2.dr, r2.sim, r1.le.trans r2.le, fun r hr e => r2.low r hr (r1.low r hr e)⟩⟩

end
end Go.AE
namespace Go.AE
open Go.RowKit

/-- What is kept of all that lies below 'lo' and that the model does not have yet. -/
structure Kp (lo : Nat) (φ : Phi) (h : AHeap) (φ' : Phi) (h' : AHeap) : Prop where
  le : φ.le φ'
  nx : h.nx ≤ h'.nx
  virt : ∀ r, r < lo → φ r = none → φ' r = none ∧ h'.get r = h.get r
theorem Kp.refl (lo : Nat) (φ : Phi) (h : AHeap) : Kp lo φ h φ h := ⟨.refl φ, Nat.le_refl _, fun _ _ e => ⟨e, rfl⟩⟩
theorem Kp.trans {lo : Nat} {φ ψ χ : Phi} {h h1 h2 : AHeap} (a : Kp lo φ h ψ h1) (b : Kp lo ψ h1 χ h2) : Kp lo φ h χ h2 :=
  ⟨a.le.trans b.le, Nat.le_trans a.nx b.nx, fun r hr e => by
    obtain ⟨e1, g1⟩ := a.virt r hr e
    obtain ⟨e2, g2⟩ := b.virt r hr e1
    exact ⟨e2, g2.trans g1⟩⟩
theorem Kp.mono {lo lo' : Nat} {φ φ' : Phi} {h h' : AHeap} (a : Kp lo φ h φ' h') (hl : lo' ≤ lo) : Kp lo' φ h φ' h' := ⟨a.le, a.nx, fun r hr => a.virt r (by omega)⟩
theorem Post.kp {E : Env} {φ φ' : Phi} {w0 w' : World} {h h' : AHeap} (p : Post E φ w0 h φ' h' w') : Kp h.nx φ h φ' h' := ⟨p.le, p.nx, p.virt⟩
theorem Ran.kp {E : Env} {φ φ' : Phi} {w0 w' : World} {h : AHeap} {lo nt : Nat} {ops : List Oper} {pre : List Nat} {dn xp : Nat} {tm : Tr Value} {dc td : List Nat} {rf : Nat → Nat} {tmps' : Array Value}
    (r : Ran E φ w0 h lo nt ops pre dn xp tm dc td rf φ' w' tmps') : Kp lo φ h φ' h := ⟨r.le, Nat.le_refl _, fun j hj e => ⟨r.low j hj e, rfl⟩⟩

theorem undone_some {dn : Nat} : ∀ (os : List Oper) (ps : List Nat) (b : Nat) {i p : Nat} {o : Oper}, os.length = ps.length → undone dn os ps b = some (i, o, p) →
    b ≤ i ∧ os[i - b]? = some o ∧ ps[i - b]? = some p ∧ dn.testBit i = false ∧ ∀ j, b ≤ j → j < i → dn.testBit j = true
  | [], _, _, i, p, o, _, e => by simp [undone] at e
  | _ :: _, [], _, i, p, o, h, e => by simp at h
  | o' :: os, p' :: ps, b, i, p, o, hl, e => by
    unfold undone at e
    cases hb : dn.testBit b with
    | true =>
      rw [hb] at e
      obtain ⟨h1, h2, h3, h4, h5⟩ := undone_some os ps (b + 1) (by simpa using hl) e
      have : i - b = (i - (b + 1)) + 1 := by omega
      refine ⟨by omega, by rw [this]; simpa using h2, by rw [this]; simpa using h3, h4, fun j hj hji => ?_⟩
      by_cases e : j = b
      · subst e; exact hb
      · exact h5 j (by omega) hji
    | false =>
      rw [hb] at e
      cases e
      exact ⟨Nat.le_refl _, by simp, by simp, hb, fun j _ _ => by omega⟩
theorem undone_none {dn : Nat} : ∀ (os : List Oper) (ps : List Nat) (b : Nat), os.length = ps.length → undone dn os ps b = none → ∀ j, b ≤ j → j < b + os.length → dn.testBit j = true
  | [], _, _, _, _, j, h1, h2 => by simp at h2; omega
  | _ :: _, [], _, h, _, _, _, _ => by simp at h
  | o' :: os, p' :: ps, b, hl, e, j, h1, h2 => by
    unfold undone at e
    cases hb : dn.testBit b with
    | true =>
      rw [hb] at e
      by_cases ej : j = b
      · subst ej; exact hb
      · exact undone_none os ps (b + 1) (by simpa using hl) e j (by omega) (by simp at h2; omega)
    | false => rw [hb] at e; cases e

section
variable {E : Env} {φ φ' : Phi} {h h' : AHeap} {lo hi hi' nt : Nat} {ops : List Oper} {pre : List Nat} {dn xp : Nat} {tm : Tr Value} {tmps : Array Value} {dc td rest : List Nat} {rf : Nat → Nat} {i p : Nat} {o : Oper}

theorem DR.keep (D : DR E φ h lo hi nt ops pre dn xp tm tmps dc td rf) (k : Kp hi φ h φ' h') : DR E φ' h' lo hi nt ops pre dn xp tm tmps dc td rf where
  st := D.st
  lin := D.lin
  d1 := D.d1
  d2 := D.d2
  dp := D.dp
  xpd := D.xpd
  size := D.size
  tms := fun t v e => by
    obtain ⟨h1, h2⟩ := D.tms t v e
    exact ⟨h1, h2.imp id fun ⟨u, a, b⟩ => ⟨u, a, b.mono k.le⟩⟩
  al := fun j oj hj hb ho ha => by
    obtain ⟨h1, h2, h3, h4, h5, el, ty, h6, h7, h8⟩ := D.al j oj hj hb ho ha
    obtain ⟨k1, k2⟩ := k.virt _ h4 h5
    exact ⟨h1, h2, h3, h4, k1, el, ty, h6, h7, by rw [k2]; exact h8⟩
  inj := D.inj

theorem DR.widen (D : DR E φ h lo hi nt ops pre dn xp tm tmps dc td rf) (hl : hi ≤ hi') : DR E φ h lo hi' nt ops pre dn xp tm tmps dc td rf :=
  { D with al := fun j oj hj hb ho ha => ⟨(D.al j oj hj hb ho ha).1, (D.al j oj hj hb ho ha).2.1, (D.al j oj hj hb ho ha).2.2.1, Nat.lt_of_lt_of_le (D.al j oj hj hb ho ha).2.2.2.1 hl, (D.al j oj hj hb ho ha).2.2.2.2⟩ }

/-- A mover is done. -/
theorem DR.moved (D : DR E φ h lo hi nt ops pre dn xp tm tmps dc (i :: rest) rf) (ho : ops[i]? = some o) (hp : pre[i]? = some p) (hb : dn.testBit i = false) {v v' : Value} (hv : VRel φ v v') :
    DR E φ h lo hi nt ops pre (dn ||| 2 ^ i) (xp ||| p) (putA nt tm o.dst v) (putC tmps o.dst v') (dc ++ [i]) rest rf := by
  have hne : ∀ j ∈ rest, j ≠ i := by
    intro j hj e
    subst e
    have := D.lin.nd
    rw [List.nodup_append] at this
    simp [hj] at this
  have hfore : ∀ j, p.testBit j = true → j ∈ dc := D.lin.fore dc i rest rfl p hp
  have hbit : ∀ j ∈ rest, (dn ||| 2 ^ i).testBit j = true → dn.testBit j = true := by
    intro j hj h
    rw [bit_or, Bool.or_eq_true, decide_eq_true_eq] at h
    exact h.resolve_right (fun e => hne j hj e.symm)
  refine { st := D.st, lin := by rw [List.append_assoc]; exact D.lin, d1 := ?_, d2 := ?_, dp := ?_, xpd := ?_, size := by rw [putC_size, D.size], tms := ?_, al := ?_, inj := ?_ }
  · intro j hj
    rw [bit_or]
    rcases List.mem_append.1 hj with hj | hj
    · rw [D.d1 j hj]; rfl
    · simp at hj; subst hj; simp
  · intro j oj h1 h2 h3
    rw [bit_or, Bool.or_eq_true, decide_eq_true_eq] at h3
    rcases h3 with h3 | rfl
    · exact List.mem_append_left _ (D.d2 j oj h1 h2 h3)
    · simp
  · intro j q h1 h2 c hc
    rw [bit_or, Bool.or_eq_true, decide_eq_true_eq] at h1
    rw [bit_or, Bool.or_eq_true]
    rcases h1 with h1 | rfl
    · exact .inl (D.dp j q h1 h2 c hc)
    · rw [hp] at h2; cases h2
      exact .inl (D.d1 c (hfore c hc))
  · intro j hj
    rw [Nat.testBit_or, D.xpd j (List.mem_cons_of_mem _ hj), Bool.false_or]
    cases hx : p.testBit j
    · rfl
    · exact (D.disj (hfore j hx) (List.mem_cons_of_mem _ hj)).elim
  · intro t u ht
    rw [putA_get] at ht
    rw [putC_get, D.size]
    by_cases hd : o.dst = some t ∧ t < nt
    · rw [if_pos hd] at ht
      cases ht
      rw [if_pos hd]
      exact ⟨hd.2, .inr ⟨v', rfl, hv⟩⟩
    · rw [if_neg hd] at ht
      rw [if_neg hd]
      obtain ⟨h1, h2⟩ := D.tms t u ht
      refine ⟨h1, h2.imp ?_ id⟩
      rintro ⟨j, oj, a, b, c, d⟩
      rcases List.mem_cons.1 a with rfl | a
      · rw [hb] at b; cases b
      · exact ⟨j, oj, a, by rw [bit_or, b]; rfl, c, d⟩
  · intro j oj hj hbj hoj haj
    have hbj' := hbit j hj hbj
    have hst : ∀ d, o.dst = some d → d ∉ looks ops oj ∧ oj.dst ≠ some d := fun d hd =>
      D.st.stable hoj ho (hne j hj) (fun q hq => by
        cases hx : q.testBit i
        · rfl
        · rw [D.dp j q hbj' hq i hx] at hb; cases hb) (fun _ q hq => by
        rw [hp] at hq; cases hq
        cases hx : p.testBit j
        · rfl
        · exact (D.disj (hfore j hx) (List.mem_cons_of_mem _ hj)).elim) hd
    obtain ⟨h1, h2, h3⟩ := D.al j oj (List.mem_cons_of_mem _ hj) hbj' hoj haj
    refine ⟨?_, fun d hd hn => ?_, h3⟩
    · rw [wantedA_congr (tm := tm), h1]
      intro t ht
      rw [putA_get, if_neg]
      intro ⟨e, _⟩
      exact (hst t e).1 ht
    · rw [putA_get, if_neg, h2 d hd hn]
      intro ⟨e, _⟩
      exact (hst d e).2 hd
  · intro j k oj ok hj hk hbj hbk
    exact D.inj j k oj ok (List.mem_cons_of_mem _ hj) (List.mem_cons_of_mem _ hk) (hbit j hj hbj) (hbit k hk hbk)

/-- An allocation is made in the abstract machine alone. -/
theorem DR.made (D : DR E φ h lo h.nx nt ops pre dn xp tm tmps dc td rf) (hlo : lo ≤ h.nx) (hfr : φ h.nx = none) (ho : ops[i]? = some o) (hp : pre[i]? = some p) (hm : moves E o.op = false) (hb : dn.testBit i = false) (hs : Sub p dn)
    (hw : wantedA tm ops o = some true) {el : TypeId} {ty : TyI} (hop : o.op = .alloc el) (hty : E.types el = some ty) :
    DR E φ (h.new (.cells ty.zero el 0 false)) lo (h.nx + 1) nt ops pre (dn ||| 2 ^ i) xp (putA nt tm o.dst (.pointer (some ⟨h.nx, 0, none⟩))) tmps dc td (fun j => if j = i then h.nx else rf j) where
  st := D.st
  lin := D.lin
  d1 := fun j hj => by rw [bit_or, D.d1 j hj]; rfl
  d2 := by
    intro j oj hj hmj hb
    rw [bit_or, Bool.or_eq_true, decide_eq_true_eq] at hb
    rcases hb with hb | rfl
    · exact D.d2 j oj hj hmj hb
    · rw [ho] at hj; cases hj; rw [hm] at hmj; cases hmj
  dp := by
    intro j q hb hq c hc
    rw [bit_or, Bool.or_eq_true, decide_eq_true_eq] at hb
    rw [bit_or, Bool.or_eq_true]
    rcases hb with hb | rfl
    · exact .inl (D.dp j q hb hq c hc)
    · rw [hp] at hq; cases hq; exact .inl (hs c hc)
  xpd := D.xpd
  size := D.size
  tms := by
    intro t u ht
    rw [putA_get] at ht
    split at ht
    · rename_i hc
      exact ⟨hc.2, .inl ⟨i, o, D.todo ho hb, by rw [bit_or]; simp, ho, hc.1⟩⟩
    · obtain ⟨h1, h2⟩ := D.tms t u ht
      refine ⟨h1, h2.imp ?_ id⟩
      rintro ⟨j, oj, a, b, c, d⟩
      exact ⟨j, oj, a, by rw [bit_or, b]; rfl, c, d⟩
  al := by
    intro j oj hj hbj hoj haj
    by_cases hne : j = i
    · subst hne
      rw [ho] at hoj; cases hoj
      rw [if_pos rfl]
      refine ⟨?_, fun d hd hn => by rw [putA_get, if_pos ⟨hd, hn⟩], by omega, by omega, hfr, el, ty, hop, hty, by rw [AHeap.get_new, if_pos rfl]⟩
      rw [wantedA_congr (tm := tm), hw]
      intro t ht
      rw [putA_get, if_neg]
      intro ⟨e, _⟩
      exact D.st.self j o t ho hm e ht
    · rw [bit_or, Bool.or_eq_true, decide_eq_true_eq] at hbj
      replace hbj := hbj.resolve_right (fun e => hne e.symm)
      have hst : ∀ d, o.dst = some d → d ∉ looks ops oj ∧ oj.dst ≠ some d := fun d hd =>
        D.st.stable hoj ho hne (fun p hp => by
          cases hb' : p.testBit i
          · rfl
          · rw [D.dp j p hbj hp i hb'] at hb; cases hb) (fun e => by rw [hm] at e; cases e) hd
      obtain ⟨h1, h2, h3, h4, h5, el', ty', h6, h7, h8⟩ := D.al j oj hj hbj hoj haj
      rw [if_neg hne]
      refine ⟨?_, fun d hd hn => ?_, h3, by omega, h5, el', ty', h6, h7, by rw [AHeap.get_new, if_neg (by omega)]; exact h8⟩
      · rw [wantedA_congr (tm := tm), h1]
        intro t ht
        rw [putA_get, if_neg]
        intro ⟨e, _⟩
        exact (hst t e).1 ht
      · rw [putA_get, if_neg, h2 d hd hn]
        intro ⟨e, _⟩
        exact (hst d e).2 hd
  inj := by
    intro j k oj ok hj hk hbj hbk hoj hok haj hak e
    have aux : ∀ {j : Nat}, (dn ||| 2 ^ i).testBit j = true → j ≠ i → dn.testBit j = true := by
      intro j hb hne
      rw [bit_or, Bool.or_eq_true, decide_eq_true_eq] at hb
      exact hb.resolve_right (fun e => hne e.symm)
    by_cases h1 : j = i
    · by_cases h2 : k = i
      · omega
      · simp only [if_pos h1, if_neg h2] at e
        have := (D.al k ok hk (aux hbk h2) hok hak).2.2.2.1
        omega
    · by_cases h2 : k = i
      · simp only [if_neg h1, if_pos h2] at e
        have := (D.al j oj hj (aux hbj h1) hoj haj).2.2.2.1
        omega
      · simp only [if_neg h1, if_neg h2] at e
        exact D.inj j k oj ok hj hk (aux hbj h1) (aux hbk h2) hoj hok haj hak e

/-- What stands ahead of the next mover is pending. -/
theorem DR.ahead (D : DR E φ h lo hi nt ops pre dn xp tm tmps dc td rf) (hc : ∀ (k : Nat) (o : Oper) (p : Nat), ops[k]? = some o → pre[k]? = some p → moves E o.op = false → Sub p dn → dn.testBit k = true)
    (hu : undone dn ops pre 0 = some (i, o, p)) (hm : moves E o.op = true) : ∃ ks rest, td = ks ++ i :: rest ∧ ∀ k ∈ ks, dn.testBit k = true := by
  obtain ⟨_, ho, hp, hb, hmin⟩ := undone_some ops pre 0 D.st.len.symm hu
  simp only [Nat.sub_zero] at ho hp
  obtain ⟨ks, rest, rfl⟩ := List.append_of_mem (D.todo ho hb)
  refine ⟨ks, rest, rfl, ?_⟩
  have hnd := D.lin.nd
  have key : ∀ n (l : List Nat) (k : Nat) (r : List Nat), l.length = n → ks = l ++ k :: r → dn.testBit k = true := by
    intro n
    induction n using Nat.strongRecOn with
    | _ n ih =>
      intro l k r hn e
      subst e
      have hkl : k < ops.length := (D.lin.all k).1 (by simp)
      have hok := List.getElem?_eq_getElem hkl
      have hpk := List.getElem?_eq_getElem (show k < pre.length by rw [D.st.len]; exact hkl)
      have hfore := D.lin.fore (dc ++ l) k (r ++ i :: rest) (by simp) _ hpk
      cases hmk : moves E ops[k].op with
      | true =>
        cases hbk : dn.testBit k with
        | true => rfl
        | false =>
          exfalso
          have hne : k ≠ i := by
            intro e; subst e
            simp [List.nodup_append] at hnd
          have hlt : i < k := by
            rcases Nat.lt_or_ge k i with h1 | h1
            · rw [hmin k (by omega) h1] at hbk; cases hbk
            · omega
          have hin := hfore i (D.st.order ho hok hm hmk hlt _ hpk)
          rcases List.mem_append.1 hin with h1 | h1
          · rw [D.d1 i h1] at hb; cases hb
          · have : (l ++ k :: r ++ i :: rest).Nodup := (List.nodup_append.1 hnd).2.1
            rw [List.nodup_append] at this
            exact this.2.2 i (by simp [h1]) i (by simp) rfl
      | false =>
        refine hc k _ _ hok hpk hmk fun b hb' => ?_
        rcases List.mem_append.1 (hfore b hb') with h1 | h1
        · exact D.d1 b h1
        · obtain ⟨l1, l2, rfl⟩ := List.append_of_mem h1
          refine ih l1.length ?_ l1 b (l2 ++ k :: r) rfl (by simp)
          rw [← hn]; simp
  intro k hk
  obtain ⟨l, r, e⟩ := List.append_of_mem hk
  exact key l.length l k r rfl e

end
end Go.AE
namespace Go.AE
open Go.RowKit

inductive TodoRel (φ : Phi) : List AItem → List Item → Prop
  | nil : TodoRel φ [] []
  | code (c : Code) {k : List AItem} {k' : List Item} (h : TodoRel φ k k') : TodoRel φ (.code c :: k) (.code c :: k')
  | inBlock (id : Nat) {k : List AItem} {k' : List Item} (h : TodoRel φ k k') : TodoRel φ (.inBlock id :: k) (.inBlock id :: k')
  | inLoop (c : Code) {k : List AItem} {k' : List Item} (h : TodoRel φ k k') : TodoRel φ (.inLoop c :: k) (.inLoop c :: k')
  | inScope (c : Code) {k : List AItem} {k' : List Item} (h : TodoRel φ k k') : TodoRel φ (.inScope c :: k) (.inScope c :: k')
  | endRange {l : Nat} {ld : Loc} (e : φ l = some ld) {k : List AItem} {k' : List Item} (h : TodoRel φ k k') : TodoRel φ (.endRangeFunc l :: k) (.endRangeFunc ld.block :: k')
  | begin {k : List AItem} {k' : List Item} (h : TodoRel φ k k') : TodoRel φ (.beginRound :: k) (.beginRound :: k')

theorem TodoRel.mono {φ ψ : Phi} (h : φ.le ψ) {k : List AItem} {k' : List Item} (r : TodoRel φ k k') : TodoRel ψ k k' := by
  induction r with
  | nil => exact .nil
  | code c _ ih => exact .code c ih
  | inBlock c _ ih => exact .inBlock c ih
  | inLoop c _ ih => exact .inLoop c ih
  | inScope c _ ih => exact .inScope c ih
  | endRange e _ ih => exact .endRange (h _ _ e) ih
  | begin _ ih => exact .begin ih

/-- What a running frame has to do. -/
inductive HRel (E : Env) (φ : Phi) (h : AHeap) (lo hi nt : Nat) (tm : Tr Value) : List AItem → Array Value → List Item → Prop
  | plain {k : List AItem} {k' : List Item} {tmps : Array Value} (t : TRel φ nt tm tmps) (r : TodoRel φ k k') : HRel E φ h lo hi nt tm k tmps k'
  | reg {k : List AItem} {k' : List Item} {tmps : Array Value} {ops : Array Oper} {i : Nat} (t : TRel φ nt tm tmps) (r : TodoRel φ k k') : HRel E φ h lo hi nt tm (.reg ops i ops.size :: k) tmps (.inRegion ops (List.range' i (ops.size - i)) :: k')
  | dreg {k : List AItem} {k' : List Item} {tmps : Array Value} {ops : Array Oper} {pre : List Nat} {dn xp : Nat} {dc td : List Nat} {rf : Nat → Nat} (d : DR E φ h lo hi nt ops.toList pre dn xp tm tmps dc td rf) (r : TodoRel φ k k') :
      HRel E φ h lo hi nt tm (.dreg ops.toList pre dn xp :: k) tmps (.inRegion ops td :: k')

/-- What a frame that waits for a call has to do. -/
inductive CHRel (E : Env) (φ : Phi) (h : AHeap) (lo hi nt : Nat) (tm : Tr Value) : List AItem → Array Value → List Item → Prop
  | reg {k : List AItem} {k' : List Item} {tmps : Array Value} {ops : Array Oper} {i : Nat} (t : TRel φ nt tm tmps) (r : TodoRel φ k k') : CHRel E φ h lo hi nt tm (.reg ops i ops.size :: k) tmps (.inRegion ops (List.range' i (ops.size - i)) :: k')
  | dreg {k : List AItem} {k' : List Item} {tmps : Array Value} {ops : Array Oper} {pre : List Nat} {dn xp : Nat} {dc rest : List Nat} {rf : Nat → Nat} {i p : Nat} {o : Oper} (d : DR E φ h lo hi nt ops.toList pre dn xp tm tmps dc (i :: rest) rf)
      (u : undone dn ops.toList pre 0 = some (i, o, p)) (r : TodoRel φ k k') :
      CHRel E φ h lo hi nt tm (.dreg ops.toList pre dn xp :: k) tmps (.inRegion ops (i :: rest) :: k')
  | range {k : List AItem} {k' : List Item} {tmps : Array Value} {l : Nat} {ld : Loc} (t : TRel φ nt tm tmps) (e : φ l = some ld) (r : TodoRel φ k k') : CHRel E φ h lo hi nt tm (.inRangeFunc l :: k) tmps (.inRangeFunc ld.block :: k')

inductive DefRel (φ : Phi) : List ADef → List Deferred → Prop
  | nil : DefRel φ [] []
  | cons {l : Nat} {ld : Loc} {ds : List ADef} {ds' : List Deferred} (e : φ l = some ld) (r : DefRel φ ds ds') : DefRel φ (.coll l :: ds) ({ target := .collected ld.block, args := #[] } :: ds')
  | call {f : FuncId} {a c a' c' : List Value} {ds : List ADef} {ds' : List Deferred} (ha : VsRel φ a a') (hc : VsRel φ c c') (r : DefRel φ ds ds') : DefRel φ (.call f a c :: ds) ({ target := .fn (.func f) ⟨c'⟩, args := ⟨a'⟩ } :: ds')
inductive RoRel (φ : Phi) : Option Nat × Bool → Option Nat × Bool → Prop
  | none {kd : Bool} : RoRel φ (none, kd) (none, kd)
  | some {l : Nat} {ld : Loc} (e : φ l = some ld) : RoRel φ (some l, false) (some ld.block, false)
theorem DefRel.mono {φ ψ : Phi} (h : φ.le ψ) {a : List ADef} {b : List Deferred} (r : DefRel φ a b) : DefRel ψ a b := by
  induction r with
  | nil => exact .nil
  | cons e _ ih => exact .cons (h _ _ e) ih
  | call ha hc _ ih => exact .call (VsRel.mono h ha) (VsRel.mono h hc) ih
theorem RoRel.mono {φ ψ : Phi} (h : φ.le ψ) {a b : Option Nat × Bool} (r : RoRel φ a b) : RoRel ψ a b := by
  cases r with
  | none => exact .none
  | some e => exact .some (h _ _ e)

inductive FRel (E : Env) (φ : Phi) (h : AHeap) (lo : Nat) : AFrame → Frame → Prop
  | run {fn : FuncId} {tm : Tr Value} {nt : Nat} {todo : List AItem} {defers : List ADef} {roundOf : Option Nat × Bool} {tmps : Array Value} {todo' : List Item} {ds : List Deferred} {ro : Option Nat × Bool}
      (t : HRel E φ h lo h.nx nt tm todo tmps todo') (d : DefRel φ defers ds) (r : RoRel φ roundOf ro) : FRel E φ h lo ⟨fn, tm, nt, todo, defers, false, roundOf⟩ (mk fn tmps todo' ds ro)
  | ret {fn : FuncId} {tm : Tr Value} {nt : Nat} {todo : List AItem} {defers : List ADef} {roundOf : Option Nat × Bool} {tmps : Array Value} {todo' : List Item} {ds : List Deferred} {ro : Option Nat × Bool}
      (t : TRel φ nt tm tmps) (d : DefRel φ defers ds) (r : RoRel φ roundOf ro) : FRel E φ h lo ⟨fn, tm, nt, todo, defers, true, roundOf⟩ (mkR fn tmps todo' ds ro)

inductive CsRel (E : Env) (φ : Phi) (h : AHeap) : Nat → List AFrame → List Frame → Prop
  | nil {hi : Nat} : CsRel E φ h hi [] []
  | cons {lo hi : Nat} {fn : FuncId} {tm : Tr Value} {nt : Nat} {todo : List AItem} {defers : List ADef} {roundOf : Option Nat × Bool} {tmps : Array Value} {todo' : List Item} {ds : List Deferred} {ro : Option Nat × Bool} {cs : List AFrame} {cs' : List Frame} (hl : lo ≤ hi)
      (t : CHRel E φ h lo hi nt tm todo tmps todo') (d : DefRel φ defers ds) (r : RoRel φ roundOf ro) (c : CsRel E φ h lo cs cs') : CsRel E φ h hi (⟨fn, tm, nt, todo, defers, false, roundOf⟩ :: cs) (mk fn tmps todo' ds ro :: cs')
  | consR {lo hi : Nat} {fn : FuncId} {tm : Tr Value} {nt : Nat} {todo : List AItem} {defers : List ADef} {roundOf : Option Nat × Bool} {tmps : Array Value} {todo' : List Item} {ds : List Deferred} {ro : Option Nat × Bool} {cs : List AFrame} {cs' : List Frame} (hl : lo ≤ hi)
      (t : TRel φ nt tm tmps) (d : DefRel φ defers ds) (r : RoRel φ roundOf ro) (c : CsRel E φ h lo cs cs') : CsRel E φ h hi (⟨fn, tm, nt, todo, defers, true, roundOf⟩ :: cs) (mkR fn tmps todo' ds ro :: cs')

section
variable {E : Env} {φ φ' : Phi} {h h' : AHeap} {lo hi nt : Nat} {tm : Tr Value}

theorem HRel.keep {todo : List AItem} {tmps : Array Value} {todo' : List Item} (r : HRel E φ h lo hi nt tm todo tmps todo') (k : Kp hi φ h φ' h') : HRel E φ' h' lo hi nt tm todo tmps todo' := by
  cases r with
  | plain t r => exact .plain (t.mono k.le) (r.mono k.le)
  | reg t r => exact .reg (t.mono k.le) (r.mono k.le)
  | dreg d r => exact .dreg (d.keep k) (r.mono k.le)
theorem CHRel.keep {todo : List AItem} {tmps : Array Value} {todo' : List Item} (r : CHRel E φ h lo hi nt tm todo tmps todo') (k : Kp hi φ h φ' h') : CHRel E φ' h' lo hi nt tm todo tmps todo' := by
  cases r with
  | reg t r => exact .reg (t.mono k.le) (r.mono k.le)
  | dreg d u r => exact .dreg (d.keep k) u (r.mono k.le)
  | range t e r => exact .range (t.mono k.le) (k.le _ _ e) (r.mono k.le)
theorem CsRel.keep {cs : List AFrame} {cs' : List Frame} (r : CsRel E φ h hi cs cs') (k : Kp hi φ h φ' h') : CsRel E φ' h' hi cs cs' := by
  induction r with
  | nil => exact .nil
  | cons hl t d r c ih => exact .cons hl (t.keep k) (d.mono k.le) (r.mono k.le) (ih (k.mono hl))
  | consR hl t d r c ih => exact .consR hl (t.mono k.le) (d.mono k.le) (r.mono k.le) (ih (k.mono hl))

/-- A call has given back a value: the frame that made it goes on. -/
theorem finish_sound {fn : FuncId} {todo : List AItem} {defers : List ADef} {roundOf : Option Nat × Bool} {tmps : Array Value} {todo' : List Item} {ds : List Deferred} {ro : Option Nat × Bool} (hl : hi ≤ h.nx)
    (t : CHRel E φ h lo hi nt tm todo tmps todo') (d : DefRel φ defers ds) (r : RoRel φ roundOf ro) {v v' : Value} (hv : VRel φ v v') {fr : AFrame} (e : finishA ⟨fn, tm, nt, todo, defers, false, roundOf⟩ v = some fr) :
    FRel E φ h lo fr ((mk fn tmps todo' ds ro).finish v') := by
  have trel : ∀ {tmps : Array Value} (t : TRel φ nt tm tmps) (dst : Option Tmp), TRel φ nt (putA nt tm dst v) (putC tmps dst v') := by
    intro tmps t dst
    refine ⟨by rw [putC_size, t.1], fun x u hx => ?_⟩
    rw [putA_get] at hx
    rw [putC_get, t.1]
    split at hx
    · rename_i hc
      cases hx
      rw [if_pos hc]
      exact ⟨v', rfl, hv⟩
    · rename_i hc
      rw [if_neg hc]
      exact t.2 x u hx
  cases t with
  | @reg k k' tmps ops i t tr =>
    simp only [finishA, finishR, nth_eq, Option.bind_eq_some_iff] at e
    obtain ⟨o, ho, e⟩ := e
    cases e
    have ho' : ops[i]? = some o := by simpa using ho
    have hi' : i < ops.size := (Array.getElem?_eq_some_iff.1 ho').1
    rw [show List.range' i (ops.size - i) = i :: List.range' (i + 1) (ops.size - (i + 1)) by
      rw [show ops.size - i = (ops.size - (i + 1)) + 1 by omega, List.range'_succ]]
    rw [mk_finish ho']
    exact .run (.reg (trel t _) tr) d r
  | @dreg k k' tmps ops pre dn xp dc rest rf i p o dr u tr =>
    simp only [finishA, finishR, u, Option.bind_some] at e
    cases e
    obtain ⟨_, ho, hp, hb, _⟩ := undone_some _ _ 0 dr.st.len.symm u
    simp only [Nat.sub_zero] at ho hp
    have ho' : ops[i]? = some o := by simpa using ho
    rw [mk_finish ho']
    exact .run (.dreg ((dr.moved ho hp hb hv).widen hl) tr) d r
  | range t el tr =>
    simp only [finishA, finishR] at e
    cases e
    rw [mk_finish_range]
    exact .run (.plain t (.endRange el tr)) d r

end

structure SRel (E : Env) (φ : Phi) (w0 : World) (s : ASt) (fr : Frame) (cs : List Frame) (w : World) : Prop where
  ex : ∃ lo, lo ≤ s.h.nx ∧ FRel E φ s.h lo s.fr fr ∧ CsRel E φ s.h lo s.cs cs
  sim : Sim E φ w0 s.h w

/-- The model comes from the machine m to one that the abstract state s describes. -/
def Goes (P : Program) (E : Env) (w0 : World) (base : List Frame) (m : Machine) (s : ASt) : Prop :=
  ∃ φ fr cs w, Steps P m (lone fr (cs ++ base) w) ∧ SRel E φ w0 s fr cs w
theorem Goes.of_steps {P : Program} {E : Env} {w0 : World} {base : List Frame} {m m' : Machine} {s : ASt} (h : Steps P m m') (g : Goes P E w0 base m' s) : Goes P E w0 base m s := by
  obtain ⟨φ, fr, cs, w, h1, h2⟩ := g
  exact ⟨φ, fr, cs, w, h.trans h1, h2⟩

theorem argsTm_get : ∀ (vs : List Value) (i : Nat) (tm : Tr Value) (t : Nat), (argsTm vs i tm).get t = if i ≤ t ∧ t < i + vs.length then vs[t - i]? else tm.get t
  | [], i, tm, t => by simp only [argsTm, List.length_nil]; rw [if_neg (by omega)]
  | v :: vs, i, tm, t => by
    rw [argsTm, argsTm_get vs (i + 1), Tr.get_set]
    simp only [List.length_cons]
    by_cases h1 : t = i
    · subst h1
      rw [if_neg (by omega), if_pos rfl, if_pos (by omega)]
      simp
    · rw [if_neg h1]
      by_cases h2 : i + 1 ≤ t ∧ t < i + 1 + vs.length
      · rw [if_pos h2, if_pos (by omega), show t - i = (t - (i + 1)) + 1 by omega]
        simp
      · rw [if_neg h2, if_neg (by omega)]

theorem setParams_rel {φ : Phi} {nt : Nat} : ∀ (ps : List Tmp) (vs vs' : List Value) {tm tm' : Tr Value} {tmps : Array Value}, TRel φ nt tm tmps → VsRel φ vs vs' → setParams nt tm ps vs = some tm' →
    ps.length = vs'.length ∧ TRel φ nt tm' ((ps.zip vs').foldl (fun tmps x => tmps.setIfInBounds x.1 x.2) tmps)
  | [], [], vs', tm, tm', tmps, t, r, e => by cases r; cases e; exact ⟨rfl, t⟩
  | [], _ :: _, _, _, _, _, _, _, e => by cases e
  | _ :: _, [], _, _, _, _, _, _, e => by cases e
  | p :: ps, v :: vs, vs', tm, tm', tmps, t, r, e => by
    cases r with
    | cons r rs =>
      rename_i v' vs'
      have t2 : TRel φ nt (putA nt tm (some p) v) (tmps.setIfInBounds p v') := by
        refine ⟨by simp [t.1], fun x u hx => ?_⟩
        rw [putA_get] at hx
        have := putC_get (tmps := tmps) (dst := some p) (v := v') (t := x)
        simp only [putC] at this
        rw [this, t.1]
        split at hx
        · rename_i hc
          cases hx
          rw [if_pos hc]
          exact ⟨v', rfl, r⟩
        · rename_i hc
          rw [if_neg hc]
          exact t.2 x u hx
      obtain ⟨h1, h2⟩ := setParams_rel ps vs vs' t2 rs e
      exact ⟨by simp [h1], by simpa using h2⟩

theorem Sim.grow {E : Env} {φ : Phi} {w0 w w' : World} {h : AHeap} (s : Sim E φ w0 h w) (b : Below w.heap.size w w') : Sim E φ w0 h w' where
  obj r o l h1 h2 := by
    obtain ⟨g1, g2, g3⟩ := s.obj r o l h1 h2
    exact ⟨g1.mono (.refl φ) (b.block _ g3), g2, Nat.lt_of_lt_of_le g3 b.size⟩
  inj := s.inj
  fresh := s.fresh
  below := s.below.trans (b.mono s.size)
  glob := s.glob

section
variable {P : Program} {E : Env} {φ : Phi} {w0 w : World} {h : AHeap} {lo nt : Nat} {tm : Tr Value} {base : List Frame}

theorem finishA_defers {fn : FuncId} {tm : Tr Value} {nt : Nat} {todo : List AItem} {defers : List ADef} {ro : Option Nat × Bool} {v : Value} {fr : AFrame} (e : finishA ⟨fn, tm, nt, todo, defers, false, ro⟩ v = some fr) {x : ADef} :
    finishA ⟨fn, tm, nt, todo, x :: defers, false, ro⟩ v = some { fr with defers := x :: fr.defers } := by
  simp only [finishA, finishR] at e ⊢
  split at e
  · simp only [Option.bind_eq_some_iff] at e
    obtain ⟨o, ho, e⟩ := e
    cases e
    simp [ho]
  · simp only [Option.bind_eq_some_iff] at e
    obtain ⟨o, ho, e⟩ := e
    cases e
    simp [ho]
  · cases e; rfl
  · cases e

theorem run_yield (s : Sim E φ w0 h w) {l : Nat} {ld : Loc} (hl : φ l = some ld) {st : LoopState} {p : Option Code} {fn : FuncId} {tml : Tr Value} {ntl : Nat} {ps : List Tmp} {as b : Code} {d : Nat} (ho : h.get l = some (.loop st p fn tml ntl ps as b d))
    {args : List Value} {args' : Array Value} (ra : VsRel φ args args'.toList) {tm' : Tr Value} (e : setParams ntl tml ps args = some tm') :
    ∃ ts, (Instr.yield ld.block args').run P w = .ok (.round ld.block fn ts as b) w ∧ TRel φ ntl tm' ts := by
  obtain ⟨⟨tmps, dl, h1, h2, _⟩, _, _⟩ := s.obj l _ ld ho hl
  obtain ⟨h3, h4⟩ := setParams_rel ps args _ h2 ra e
  have h5 : args'.size = ps.length := by rw [h3]; simp
  refine ⟨_, ?_, h4⟩
  simp [Instr.yield, Instr.getLoop, getObj, Sem.run, h1, h5]
  obtain ⟨al⟩ := args'
  have hsz : (ps.zip al).toArray.size = ps.length := by
    simp at h5 ⊢
    omega
  rw [← hsz, List.zip_toArray]
  exact (Array.foldl_toList (fun (tmps : Array Value) (x : Tmp × Value) => tmps.setIfInBounds x.1 x.2)).symm

/-- The results of an operation, at a place from where the model goes on: by the result's value, into the function that is entered, into the round. -/
theorem doRes_sound (G : Good P E w0) {fn : FuncId} {todo : List AItem} {defers : List ADef} {roundOf : Option Nat × Bool} {tmps : Array Value} {todo' : List Item} {ds : List Deferred} {ro : Option Nat × Bool} {cs : List AFrame} {cs' : List Frame}
    (hlo : lo ≤ h.nx) (t : CHRel E φ h lo h.nx nt tm todo tmps todo') (d : DefRel φ defers ds) (rr : RoRel φ roundOf ro) (c : CsRel E φ h lo cs cs') (s : Sim E φ w0 h w) {m : Machine} {run : Result Next}
    (hval : ∀ v' w', run = .ok (.value v') w' → Steps P m (lone ((mk fn tmps todo' ds ro).finish v') (cs' ++ base) w'))
    (hskip : ∀ w', run = .ok .skip w' → Steps P m (lone ((mk fn tmps todo' ds ro).finish undef) (cs' ++ base) w'))
    (henter : ∀ f args w', run = .ok (.enter f args) w' → Steps P m (lone (Frame.enter P f args .normal) (mk fn tmps todo' ds ro :: (cs' ++ base)) w'))
    (hround : ∀ l f ts as b w', run = .ok (.round l f ts as b) w' → Steps P m (lone (mk f ts [.code as, .beginRound, .code b] [] (some l, false)) (mk fn tmps todo' ds ro :: (cs' ++ base)) w'))
    (hdefer : ∀ kd df w', ro = (none, kd) → run = .ok (.defer df) w' → Steps P m (lone ((mk fn tmps todo' (df :: ds) ro).finish undef) (cs' ++ base) w'))
    (hrecov : ∀ kd w', ro = (none, kd) → tryRecover (mk fn tmps todo' ds ro) (cs' ++ base) = none → run = .ok .recover w' → Steps P m (lone ((mk fn tmps todo' ds ro).finish .nilIface) (cs' ++ base) w'))
    {r : ARes} (ok : ResOK P E φ w0 h w run r) {s2 : ASt} (e : doRes E { fr := ⟨fn, tm, nt, todo, defers, false, roundOf⟩, cs, h } r = some s2) : Goes P E w0 base m s2 := by
  unfold doRes at e
  cases r with
  | val v h' =>
    obtain ⟨φ', v', w', h1, h2, h3⟩ := ok
    simp only [Option.bind_eq_some_iff] at e
    obtain ⟨fr, hf, e⟩ := e
    cases e
    exact ⟨φ', _, cs', w', hval v' w' h1, ⟨lo, Nat.le_trans hlo h3.nx, finish_sound h3.nx (t.keep h3.kp) (d.mono h3.le) (rr.mono h3.le) h2 hf, c.keep (h3.kp.mono hlo)⟩, h3.sim⟩
  | skip h' =>
    obtain ⟨φ', w', h1, h3⟩ := ok
    simp only [Option.bind_eq_some_iff] at e
    obtain ⟨fr, hf, e⟩ := e
    cases e
    exact ⟨φ', _, cs', w', hskip w' h1, ⟨lo, Nat.le_trans hlo h3.nx, finish_sound h3.nx (t.keep h3.kp) (d.mono h3.le) (rr.mono h3.le) (.tuple .nil) hf, c.keep (h3.kp.mono hlo)⟩, h3.sim⟩
  | spec n f args v =>
    obtain ⟨args', h1, h2, h3⟩ := ok
    simp only [Option.bind_eq_some_iff] at e
    obtain ⟨fr, hf, e⟩ := e
    cases e
    obtain ⟨en, w', fr', ⟨rfl, hb⟩, hs, _, hl⟩ := h3 (mk fn tmps todo' ds ro :: (cs' ++ base))
    exact ⟨φ, _, cs', w', (henter f args' w h1).trans (Steps.trans hs (.one (step_leave_returned hl))), ⟨lo, hlo, finish_sound (Nat.le_refl _) t d rr h2 hf, c⟩, s.grow hb⟩
  | enter f args =>
    simp only [Option.bind_eq_some_iff] at e
    obtain ⟨fnc, hfn, fr, hf, e⟩ := e
    cases e
    obtain ⟨args', h1, h2⟩ := ok fnc hfn
    unfold enterA at hf
    simp only [Option.bind_eq_some_iff] at hf
    obtain ⟨cb, hcb, hf⟩ := hf
    cases hf
    obtain ⟨g1, g2, g3⟩ := G.funcs f fnc hfn
    have hen : Frame.enter P f args' .normal = mk f (args' ++ Array.replicate (fnc.ntmps - args'.size) undef) [.code cb] [] (none, false) := by
      simp [Frame.enter, g1, hcb, mk, kindOf]
    refine ⟨φ, _, _ :: cs', w, henter f args' w h1, ⟨h.nx, Nat.le_refl _, ?_, .cons hlo t d rr c⟩, s⟩
    rw [hen]
    refine .run (.plain ⟨?_, ?_⟩ (.code cb .nil)) .nil .none
    · have := h2.length
      rw [lenL_eq]
      simp at this ⊢
      omega
    · intro x v hx
      rw [argsTm_get] at hx
      split at hx
      · rename_i hc
        simp only [Nat.sub_zero, Nat.zero_add] at hx hc
        obtain ⟨u, hu, hr⟩ := h2.get x v hx
        have hu' : args'[x]? = some u := by simpa using hu
        have hlt : x < args'.size := (Array.getElem?_eq_some_iff.1 hu').1
        exact ⟨u, by rw [Array.getElem?_append, if_pos hlt]; exact hu', hr⟩
      · rw [Tr.get_leaf] at hx; cases hx
  | round l args =>
    simp only at e
    split at e
    · rename_i st p f2 tml ntl ps as b dd ho
      simp only [Option.bind_eq_some_iff] at e
      obtain ⟨tm', htm, e⟩ := e
      cases e
      obtain ⟨ld, args', h1, rfl, h3⟩ := ok
      obtain ⟨ts, h4, h5⟩ := run_yield (P := P) s h1 ho h3 htm
      exact ⟨φ, _, _ :: cs', w, hround _ _ _ _ _ w h4, ⟨h.nx, Nat.le_refl _, .run (.plain h5 (.code as (.begin (.code b .nil)))) .nil (.some h1), .cons hlo t d rr c⟩, s⟩
    · cases e
  | dfr f args captured =>
    obtain ⟨args', captured', h1, h2, h3⟩ := ok
    cases rr with
    | some _ => cases e
    | @none kd =>
      simp only [Option.bind_eq_some_iff] at e
      obtain ⟨fr, hf, e⟩ := e
      cases e
      have hfin : finishA ⟨fn, tm, nt, todo, .call f args captured :: defers, false, (none, kd)⟩ undef = some { fr with defers := .call f args captured :: fr.defers } := finishA_defers hf
      exact ⟨φ, _, cs', w, hdefer kd _ w rfl h1, ⟨lo, hlo, finish_sound (Nat.le_refl _) t (.call h2 h3 d) .none (.tuple .nil) hfin, c⟩, s⟩
  | recov =>
    have hstep : ∀ {kd : Bool}, roundOf = (none, kd) → tryRecover (mk fn tmps todo' ds ro) (cs' ++ base) = none → ((finishA ⟨fn, tm, nt, todo, defers, false, roundOf⟩ .nilIface).bind fun fr => some { fr, cs, h } : Option ASt) = some s2 → Goes P E w0 base m s2 := by
      intro kd hro htr e
      subst hro
      cases rr
      simp only [Option.bind_eq_some_iff] at e
      obtain ⟨fr, hf, e⟩ := e
      cases e
      exact ⟨φ, _, cs', w, hrecov kd w rfl htr ok, ⟨lo, hlo, finish_sound (Nat.le_refl _) t d .none .nilIface hf, c⟩, s⟩
    cases rr with
    | some _ => cases e
    | @none kd =>
      cases kd with
      | false => exact hstep rfl tryRecover_normal e
      | true =>
        cases c with
        | nil => cases e
        | cons => exact hstep rfl (tryRecover_run (ro := (none, true))) e
        | consR => exact hstep rfl (tryRecover_ret (ro := (none, true))) e

end
end Go.AE
namespace Go.AE
open Go.RowKit

section
variable {P : Program} {fn : FuncId} {tmps : Array Value} {k : List Item} {ds : List Deferred} {ro : Option Nat × Bool} {cs : List Frame} {w w' w'' : World}

theorem st_range_value {f : Operand} {ps : Array Tmp} {as b : Code} {l : Nat} {mark : List Deferred} (h : (Instr.enterLoop fn tmps ps as b ro.1).run P w = .ok (l, mark) w') {v : Value}
    (h2 : ((do let d ← Deferred.ofValue (evalT tmps f) #[.func (.yield l) #[] #[]]; invoke d.target d.args) : Sem Next).run P w' = .ok (.value v) w'') :
    step P (lone (mk fn tmps (.code (.rangeFunc f ps as b) :: k) ds ro) cs w) = .next (lone ((mk fn tmps (.inRangeFunc l :: k) (mark ++ ds) ro).finish v) cs w'') :=
  step_lone_go (by rw [stG_range h]; simp only [stepG.apply, Sem.runT_eq, h2, GStep.bare_after, if_true]; rfl)
theorem st_range_skip {f : Operand} {ps : Array Tmp} {as b : Code} {l : Nat} {mark : List Deferred} (h : (Instr.enterLoop fn tmps ps as b ro.1).run P w = .ok (l, mark) w')
    (h2 : ((do let d ← Deferred.ofValue (evalT tmps f) #[.func (.yield l) #[] #[]]; invoke d.target d.args) : Sem Next).run P w' = .ok .skip w'') :
    step P (lone (mk fn tmps (.code (.rangeFunc f ps as b) :: k) ds ro) cs w) = .next (lone ((mk fn tmps (.inRangeFunc l :: k) (mark ++ ds) ro).finish undef) cs w'') :=
  step_lone_go (by rw [stG_range h]; simp only [stepG.apply, Sem.runT_eq, h2, GStep.bare_after, if_true]; rfl)
theorem st_range_enter' {f : Operand} {ps : Array Tmp} {as b : Code} {l : Nat} {mark : List Deferred} (h : (Instr.enterLoop fn tmps ps as b ro.1).run P w = .ok (l, mark) w') {g : FuncId} {args : Array Value}
    (h2 : ((do let d ← Deferred.ofValue (evalT tmps f) #[.func (.yield l) #[] #[]]; invoke d.target d.args) : Sem Next).run P w' = .ok (.enter g args) w'') :
    step P (lone (mk fn tmps (.code (.rangeFunc f ps as b) :: k) ds ro) cs w) = .next (lone (Frame.enter P g args .normal) (mk fn tmps (.inRangeFunc l :: k) (mark ++ ds) ro :: cs) w'') :=
  step_lone_go (by rw [stG_range h]; simp only [stepG.apply, Sem.runT_eq, h2, GStep.bare_after, if_true]; rfl)
theorem st_range_round {f : Operand} {ps : Array Tmp} {as b : Code} {l : Nat} {mark : List Deferred} (h : (Instr.enterLoop fn tmps ps as b ro.1).run P w = .ok (l, mark) w') {l2 : Nat} {g : FuncId} {ts : Array Value} {as2 b2 : Code}
    (h2 : ((do let d ← Deferred.ofValue (evalT tmps f) #[.func (.yield l) #[] #[]]; invoke d.target d.args) : Sem Next).run P w' = .ok (.round l2 g ts as2 b2) w'') :
    step P (lone (mk fn tmps (.code (.rangeFunc f ps as b) :: k) ds ro) cs w) = .next (lone (mk g ts [.code as2, .beginRound, .code b2] [] (some l2, false)) (mk fn tmps (.inRangeFunc l :: k) (mark ++ ds) ro :: cs) w'') :=
  step_lone_go (by rw [stG_range h]; simp only [stepG.apply, Sem.runT_eq, h2, GStep.bare_after, if_true]; rfl)

end

section
variable {P : Program} {fn : FuncId} {tmps : Array Value} {k : List Item} {ds : List Deferred} {ro : Option Nat × Bool} {cs : List Frame} {w w' w'' : World} {kd : Bool}
theorem st_range_defer {f : Operand} {ps : Array Tmp} {as b : Code} {l : Nat} {mark : List Deferred} (h : (Instr.enterLoop fn tmps ps as b ro.1).run P w = .ok (l, mark) w') {d : Deferred}
    (h2 : ((do let d ← Deferred.ofValue (evalT tmps f) #[.func (.yield l) #[] #[]]; invoke d.target d.args) : Sem Next).run P w' = .ok (.defer d) w'') :
    step P (lone (mk fn tmps (.code (.rangeFunc f ps as b) :: k) ds ro) cs w) = .next (lone ((mk fn tmps (.inRangeFunc l :: k) (d :: (mark ++ ds)) ro).finish undef) cs w'') :=
  step_lone_go (by rw [stG_range h]; simp only [stepG.apply, Sem.runT_eq, h2, GStep.bare_after, if_true]; rfl)
theorem st_range_recover {f : Operand} {ps : Array Tmp} {as b : Code} {l : Nat} {mark : List Deferred} (h : (Instr.enterLoop fn tmps ps as b (none, kd).1).run P w = .ok (l, mark) w')
    (h2 : ((do let d ← Deferred.ofValue (evalT tmps f) #[.func (.yield l) #[] #[]]; invoke d.target d.args) : Sem Next).run P w' = .ok .recover w'') (hr : tryRecover (mk fn tmps (.inRangeFunc l :: k) (mark ++ ds) (none, kd)) cs = none) :
    step P (lone (mk fn tmps (.code (.rangeFunc f ps as b) :: k) ds (none, kd)) cs w) = .next (lone ((mk fn tmps (.inRangeFunc l :: k) (mark ++ ds) (none, kd)).finish .nilIface) cs w'') :=
  step_lone_go (by
    rw [stG_range h]
    have hro : (mk fn tmps (.inRangeFunc l :: k) (mark ++ ds) (none, kd)).roundOf = none := rfl
    simp only [stepG.apply, Sem.runT_eq, h2, GStep.bare_after, if_true, hro, hr]
    rfl)
end

/-! ## results, exits -/

def resOne (tmps : Array Value) : ResultVar → Sem Value
  | .tmp t => pure (tmps.getD t undef)
  | .cell a t => do loadVar t (← asAddr (tmps.getD a undef))

section
variable {P : Program} {E : Env} {φ : Phi} {w0 w : World} {h : AHeap} {lo nt : Nat} {tm : Tr Value} {tmps : Array Value} {base : List Frame}

theorem resultsA_list (G : Good P E w0) (s : Sim E φ w0 h w) (t : TRel φ nt tm tmps) : ∀ (rs : List ResultVar) (vs : List Value), resultsA E h tm rs = some vs →
    ∃ vs', (rs.mapM (resOne tmps)).run P w = .ok vs' w ∧ VsRel φ vs vs'
  | [], vs, e => by cases e; exact ⟨[], by simp, .nil⟩
  | .tmp x :: rs, vs, e => by
    simp only [resultsA, Option.bind_eq_some_iff] at e
    obtain ⟨v, hv, ws, hws, e⟩ := e
    cases e
    obtain ⟨vs', h1, h2⟩ := resultsA_list G s t rs ws hws
    obtain ⟨u, hu, hr⟩ := t.2 x v hv
    exact ⟨u :: vs', by simp [List.mapM_cons, resOne, h1, hu], .cons hr h2⟩
  | .cell a y :: rs, vs, e => by
    simp only [resultsA, Option.bind_eq_some_iff] at e
    obtain ⟨pv, hpv, v, hv, ws, hws, e⟩ := e
    cases e
    obtain ⟨vs', h1, h2⟩ := resultsA_list G s t rs ws hws
    obtain ⟨u, hu, hr⟩ := t.2 a pv hpv
    obtain ⟨x', _, hx, ad, hae, hl⟩ := loadA_sound G s hr hv
    refine ⟨x' :: vs', ?_, .cons hx h2⟩
    simp [List.mapM_cons, resOne, h1, hu, hae, asAddr, hl]

theorem results_eq (fnc : Func) : results fnc tmps = (do let vs ← fnc.results.mapM (resOne tmps); pure (if h : vs.size = 1 then vs[0] else .tuple vs)) := by
  unfold results
  congr 1

theorem resultsA_sound (G : Good P E w0) (s : Sim E φ w0 h w) (t : TRel φ nt tm tmps) {fnc : Func} {vs : List Value} (e : resultsA E h tm fnc.results.toList = some vs) :
    ∃ v', (results fnc tmps).run P w = .ok v' w ∧ VRel φ (tupleA vs) v' := by
  obtain ⟨vs', h1, h2⟩ := resultsA_list G s t _ vs e
  rw [results_eq]
  have h3 : (fnc.results.mapM (resOne tmps)).run P w = .ok ⟨vs'⟩ w := by
    rw [← Array.toArray_toList (xs := fnc.results), List.mapM_toArray]
    simp [h1]
  have h4 : ((do let vs ← fnc.results.mapM (resOne tmps); pure (if h : vs.size = 1 then vs[0] else .tuple vs)) : Sem Value).run P w = .ok (if h : (⟨vs'⟩ : Array Value).size = 1 then (⟨vs'⟩ : Array Value)[0] else .tuple ⟨vs'⟩) w := by
    simp only [Sem.run_bind, h3, Result.andThen_ok, Sem.run_pure]
  refine ⟨_, h4, ?_⟩
  unfold tupleA
  cases h2 with
  | nil => exact .tuple .nil
  | cons r rs =>
    cases rs with
    | nil => exact r
    | cons r2 rs => exact .tuple (.cons r (.cons r2 rs))

theorem exitTo_rel {id : Nat} {k : List AItem} {k' : List Item} (r : TodoRel φ k k') : (∀ x, exitToA id k = some x → ∃ x', exitTo id k' = some x' ∧ TodoRel φ x x') ∧ (exitToA id k = none → exitTo id k' = none) := by
  induction r with
  | nil => exact ⟨fun x e => (by cases e), fun _ => rfl⟩
  | inBlock id' r ih =>
    simp only [exitToA, exitTo]
    by_cases h : id' = id
    · subst h
      simp only [show Nat.beq id' id' = true by simp, beq_self_eq_true, if_true]
      exact ⟨fun x e => by cases e; exact ⟨_, rfl, r⟩, fun e => by cases e⟩
    · have h1 : Nat.beq id' id = false := by rw [← Bool.not_eq_true, beq_iff]; exact h
      have h2 : (id' == id) = false := by simp [h]
      simp only [h1, h2, Bool.false_eq_true, if_false]
      exact ih
  | code c r ih => exact ih
  | inLoop c r ih => exact ih
  | inScope c r ih => exact ih
  | endRange e r ih => exact ih
  | begin r ih => exact ih

theorem gotoIn_rel {l : Nat} {k : List AItem} {k' : List Item} (r : TodoRel φ k k') : (∀ x, gotoInA l k = some x → ∃ x', gotoIn l k' = some x' ∧ TodoRel φ x x') ∧ (gotoInA l k = none → gotoIn l k' = none) := by
  induction r with
  | nil => exact ⟨fun x e => (by cases e), fun _ => rfl⟩
  | inScope body r ih =>
    simp only [gotoInA, gotoIn]
    cases hf : findLabel body l with
    | none => exact ih
    | some rest => exact ⟨fun x e => by cases e; exact ⟨_, rfl, .code _ (.inScope _ r)⟩, fun e => by cases e⟩
  | code c r ih => exact ih
  | inLoop c r ih => exact ih
  | inBlock c r ih => exact ih
  | endRange e r ih => exact ih
  | begin r ih => exact ih

/-- A round has ended, or is left. -/
theorem leave_sound (_G : Good P E w0) {fn : FuncId} {todo : List AItem} {defers : List ADef} {rt : Bool} {tmps : Array Value} {todo' : List Item} {ds : List Deferred} {l : Nat} {ld : Loc} {cs : List AFrame} {cs' : List Frame}
    (hlo : lo ≤ h.nx) (hl : φ l = some ld) (c : CsRel E φ h lo cs cs') (s : Sim E φ w0 h w) {jump : Option Code}
    (hst : ∀ (c : Frame) (cs : List Frame) (v : Value) (w' : World), (Instr.endRound ld.block jump).run P w = .ok v w' → step P (lone (mk fn tmps todo' ds (some ld.block, false)) (c :: cs) w) = .next (lone (c.finish v) cs w'))
    {s2 : ASt} (e : leaveA { fr := ⟨fn, tm, nt, todo, defers, rt, (some l, false)⟩, cs, h } l jump = some s2) : Goes P E w0 base (lone (mk fn tmps todo' ds (some ld.block, false)) (cs' ++ base) w) s2 := by
  unfold leaveA at e
  simp only at e
  split at e
  · rename_i st p f2 tml ntl ps as b dd ac acs ho
    simp only [Option.bind_eq_some_iff] at e
    obtain ⟨fr, hf, e⟩ := e
    cases e
    obtain ⟨⟨tl, dl, h1, h2, ld2, h3, h4⟩, _, hlt⟩ := s.obj l _ ld ho hl
    have hrun : (Instr.endRound ld.block jump).run P w = .ok (.bool jump.isNone) { w with heap := w.heap.setIfInBounds ld.block (.loop { state := if jump.isNone then .ready else .done, pending := jump, fn := f2, tmps := tl, params := ps.toArray, assign := as, body := b, defers := dl }) } := by
      simp [Instr.endRound, Instr.getLoop, getObj, setObj, Sem.run, h1]
    have hp := s.put (o' := .loop (match (generalizing := false) jump with | none => .ready | some _ => .done) jump f2 tml ntl ps as b dd) ho hl (setObj_only w ld.block (.loop { state := if jump.isNone then .ready else .done, pending := jump, fn := f2, tmps := tl, params := ps.toArray, assign := as, body := b, defers := dl }))
      ⟨tl, dl, by
        simp only [Array.getElem?_setIfInBounds, hlt, if_true]
        cases jump <;> rfl, h2, ld2, h3, h4⟩
    cases c with
    | cons hl2 t d r c =>
      refine ⟨_, _, _, _, .one (hst _ _ _ _ hrun), ⟨_, Nat.le_trans hl2 (Nat.le_trans hlo hp.nx), finish_sound (Nat.le_trans hlo hp.nx) (t.keep (hp.kp.mono hlo)) (d.mono hp.le) (r.mono hp.le) (.bool _) hf, c.keep (hp.kp.mono (Nat.le_trans hl2 hlo))⟩, hp.sim⟩
    | consR => cases hf
  · cases e

end
end Go.AE
namespace Go.AE
open Go.RowKit

section
variable {P : Program} {E : Env} {φ : Phi} {w0 w : World} {h : AHeap} {lo nt : Nat} {tm : Tr Value} {tmps : Array Value} {base : List Frame}
  {fn : FuncId} {k : List AItem} {defers : List ADef} {roundOf : Option Nat × Bool} {k' : List Item} {ds : List Deferred} {ro : Option Nat × Bool} {cs : List AFrame} {cs' : List Frame}

theorem TRel.put {φ : Phi} {nt : Nat} {tm : Tr Value} {tmps : Array Value} (t : TRel φ nt tm tmps) (dst : Option Tmp) {v v' : Value} (hv : VRel φ v v') : TRel φ nt (putA nt tm dst v) (putC tmps dst v') := by
  refine ⟨by rw [putC_size, t.1], fun x u hx => ?_⟩
  rw [putA_get] at hx
  rw [putC_get, t.1]
  split at hx
  · rename_i hc
    cases hx
    rw [if_pos hc]
    exact ⟨v', rfl, hv⟩
  · rename_i hc
    rw [if_neg hc]
    exact t.2 x u hx

/-- An operation in a region that runs in the text's order. -/
theorem reg_sound (G : Good P E w0) (hlo : lo ≤ h.nx) {ops : Array Oper} {i : Nat} (t : TRel φ nt tm tmps) (tr : TodoRel φ k k') (d : DefRel φ defers ds) (rr : RoRel φ roundOf ro) (c : CsRel E φ h lo cs cs') (s : Sim E φ w0 h w)
    {s2 : ASt} (e : astep E { fr := ⟨fn, tm, nt, .reg ops i ops.size :: k, defers, false, roundOf⟩, cs, h } = some s2) :
    Goes P E w0 base (lone (mk fn tmps (.inRegion ops (List.range' i (ops.size - i)) :: k') ds ro) (cs' ++ base) w) s2 := by
  simp only [astep] at e
  by_cases hi : i < ops.size
  · rw [blt_iff.2 hi] at e
    simp only [nth_eq, Option.bind_eq_some_iff] at e
    obtain ⟨o, ho, b, hw, e⟩ := e
    have ho' : ops[i]? = some o := by simpa using ho
    have hlook : ∀ t ∈ looks ops.toList o, ∀ v, tm.get t = some v → ∃ u, tmps[t]? = some u ∧ VRel φ v u := fun x _ v hv => t.2 x v hv
    have hw' := wanted_rel hlook hw
    have hr : List.range' i (ops.size - i) = i :: List.range' (i + 1) (ops.size - (i + 1)) := by
      rw [show ops.size - i = (ops.size - (i + 1)) + 1 by omega, List.range'_succ]
    cases b with
    | false =>
      simp only at e
      cases e
      rw [hr]
      exact ⟨φ, _, cs', w, .one (st_op_skip ho' hw'), ⟨lo, hlo, .run (.reg (t.put _ (.tuple .nil)) tr) d rr, c⟩, s⟩
    | true =>
      simp only [Option.bind_eq_some_iff] at e
      obtain ⟨r, hop, e⟩ := e
      have ok := opA_sound G s (ρ := evalT tmps) (evalT_rel s fun x hx => hlook x (List.mem_append_right _ hx)) hop
      refine doRes_sound G hlo (CHRel.reg t tr) d rr c s ?_ ?_ ?_ ?_ ?_ ?_ ok e
      · intro v' w' h1; rw [hr, mk_finish ho']; exact .one (st_op_value ho' hw' (nodefer_of h1 (fun _ e => by cases e)) h1)
      · intro w' h1; rw [hr, mk_finish ho']; exact .one (st_op_skipped ho' hw' (nodefer_of h1 (fun _ e => by cases e)) h1)
      · intro f args w' h1; rw [hr]; exact .one (st_op_enter ho' hw' (nodefer_of h1 (fun _ e => by cases e)) h1)
      · intro l f ts as b w' h1; rw [hr]; exact .one (st_op_round ho' hw' (nodefer_of h1 (fun _ e => by cases e)) h1)
      · intro kd df w' hro h1; subst hro; rw [hr]; exact .one (st_op_defer ho' hw' h1)
      · intro kd w' hro htr h1; subst hro; rw [hr] at htr ⊢; exact .one (st_op_recover ho' hw' h1 htr)
  · have : Nat.blt i ops.size = false := by rw [← Bool.not_eq_true, blt_iff]; exact hi
    rw [this] at e
    cases e
    rw [show ops.size - i = 0 by omega]
    exact ⟨φ, _, cs', w, .one st_region_end, ⟨lo, hlo, .run (.plain t tr) d rr, c⟩, s⟩

/-- A step in a drawn region. -/
theorem dreg_sound (G : Good P E w0) (hlo : lo ≤ h.nx) {ops : Array Oper} {pre : List Nat} {dn xp : Nat} {dc td : List Nat} {rf : Nat → Nat} (D : DR E φ h lo h.nx nt ops.toList pre dn xp tm tmps dc td rf) (tr : TodoRel φ k k')
    (d : DefRel φ defers ds) (rr : RoRel φ roundOf ro) (c : CsRel E φ h lo cs cs') (s : Sim E φ w0 h w)
    {s2 : ASt} (e : stepD E { fr := ⟨fn, tm, nt, .dreg ops.toList pre dn xp :: k, defers, false, roundOf⟩, cs, h } ops.toList pre dn xp k = some s2) :
    Goes P E w0 base (lone (mk fn tmps (.inRegion ops td :: k') ds ro) (cs' ++ base) w) s2 := by
  unfold stepD at e
  simp only [Option.bind_eq_some_iff] at e
  obtain ⟨⟨dn', tm', q⟩, hsw, e⟩ := e
  obtain ⟨D', hq⟩ := sweep_sound ops.toList pre 0 dn tm (by simp) (by simp) D (fun k o hk => by omega) (fun k o p hk => by omega) hsw
  cases q with
  | some i =>
    simp only [nth_eq, Option.bind_eq_some_iff] at e
    obtain ⟨o, ho, b, hw, e⟩ := e
    obtain ⟨o2, p, ho2, hp, ha, hm, hs, hb⟩ := hq
    rw [ho] at ho2; cases ho2
    cases b with
    | false => cases e
    | true =>
      simp only [Option.bind_eq_some_iff] at e
      obtain ⟨r, hop, e⟩ := e
      obtain ⟨el, hel⟩ : ∃ el, o.op = .alloc el := by
        cases hx : o.op <;> rw [hx] at ha <;> first | exact ⟨_, rfl⟩ | (cases ha)
      unfold opA at hop
      rw [hel] at hop
      simp only [Option.bind_eq_some_iff] at hop
      obtain ⟨ty, hty, hop⟩ := hop
      cases hop
      cases e
      have hfr := (s.fresh h.nx (Nat.le_refl _)).1
      have D2 := D'.made hlo hfr ho hp hm hb hs hw hel hty
      have kp : Kp h.nx φ h φ (h.new (.cells ty.zero el 0 false)) := ⟨.refl φ, by simp, fun r hr e => ⟨e, by rw [AHeap.get_new, if_neg (by omega)]⟩⟩
      exact ⟨φ, _, cs', w, .refl _ _, ⟨lo, by simp; omega, .run (.dreg D2 tr) d rr, c.keep (kp.mono hlo)⟩, s.virtual _⟩
  | none =>
    obtain ⟨hA, hB⟩ := hq
    simp only at e
    cases hu : undone dn' ops.toList pre 0 with
    | none =>
      rw [hu] at e
      cases e
      have hall := undone_none ops.toList pre 0 D'.st.len.symm hu
      have hall' : ∀ i ∈ td, dn'.testBit i = true := fun i hi => hall i (Nat.zero_le _) (by
        have := (D'.lin.all i).1 (List.mem_append_right _ hi); omega)
      obtain ⟨φ', tmps', w', h1, r⟩ := run_pendings (rest := []) (fn := fn) (k := k') (ds := ds) (ro := ro) (cs := cs' ++ base) G td s (by simpa using D') hall' (fun i o hi ho ha => hA i o hi (by simpa using ho) (hall' i hi) ha)
      rw [List.append_nil] at h1
      refine ⟨φ', _, cs', w', h1.trans (.one st_region_end), ⟨lo, hlo, .run (.plain ⟨r.dr.size, fun t v hv => ?_⟩ (tr.mono r.le)) (d.mono r.le) (rr.mono r.le), c.keep r.kp⟩, r.sim⟩
      rcases (r.dr.tms t v hv).2 with ⟨j, _, hj, _⟩ | h2
      · simp at hj
      · exact h2
    | some x =>
      obtain ⟨i, o, p⟩ := x
      rw [hu] at e
      simp only [whenB_some, Bool.and_eq_true, sub_iff, Option.bind_eq_some_iff] at e
      obtain ⟨⟨hs, hm⟩, b, hw, e⟩ := e
      obtain ⟨ks, rest, rfl, hks⟩ := D'.ahead hB hu hm
      obtain ⟨_, ho, hp, hb, _⟩ := undone_some ops.toList pre 0 D'.st.len.symm hu
      simp only [Nat.sub_zero] at ho hp
      have ho' : ops[i]? = some o := by simpa using ho
      obtain ⟨φ', tmps', w', h1, r⟩ := run_pendings (rest := i :: rest) (fn := fn) (k := k') (ds := ds) (ro := ro) (cs := cs' ++ base) G ks s D' hks (fun j oj hj hoj ha => hA j oj (by simp [hj]) (by simpa using hoj) (hks j hj) ha)
      refine .of_steps h1 ?_
      have D2 := r.dr
      have s2' := r.sim
      have hlook : ∀ t ∈ looks ops.toList o, ∀ v, tm'.get t = some v → ∃ u, tmps'[t]? = some u ∧ VRel φ' v u := fun t ht v hv => D2.look ho ht hv
      have hw' := wanted_rel hlook hw
      cases b with
      | false =>
        simp only at e
        cases e
        exact ⟨φ', _, cs', w', .one (st_op_skip ho' hw'), ⟨lo, hlo, .run (.dreg (D2.moved ho hp hb (.tuple .nil)) (tr.mono r.le)) (d.mono r.le) (rr.mono r.le), c.keep r.kp⟩, s2'⟩
      | true =>
        simp only [Option.bind_eq_some_iff] at e
        obtain ⟨res, hop, e⟩ := e
        have ok := opA_sound G s2' (ρ := evalT tmps') (evalT_rel s2' fun x hx => hlook x (List.mem_append_right _ hx)) hop
        refine doRes_sound G hlo (CHRel.dreg D2 hu (tr.mono r.le)) (d.mono r.le) (rr.mono r.le) (c.keep r.kp) s2' ?_ ?_ ?_ ?_ ?_ ?_ ok e
        · intro v' w' h1; rw [mk_finish ho']; exact .one (st_op_value ho' hw' (nodefer_of h1 (fun _ e => by cases e)) h1)
        · intro w' h1; rw [mk_finish ho']; exact .one (st_op_skipped ho' hw' (nodefer_of h1 (fun _ e => by cases e)) h1)
        · intro f args w' h1; exact .one (st_op_enter ho' hw' (nodefer_of h1 (fun _ e => by cases e)) h1)
        · intro l f ts as b w' h1; exact .one (st_op_round ho' hw' (nodefer_of h1 (fun _ e => by cases e)) h1)
        · intro kd df w9 hro h9; subst hro; exact .one (st_op_defer ho' hw' h9)
        · intro kd w9 hro htr h9; subst hro; exact .one (st_op_recover ho' hw' h9 htr)

/-- A range over a function begins. -/
theorem range_sound (G : Good P E w0) {f : Operand} {ps : Array Tmp} {as body : Code} {g : FuncId} {first captured : Array Value} {df : Nat} {mark : List Deferred} {defers' : List ADef} {w1 : World}
    (hlo : lo ≤ h.nx) (t : TRel φ nt tm tmps) (tr : TodoRel φ k k') (d : DefRel φ defers' (mark ++ ds)) (rr : RoRel φ roundOf ro) (c : CsRel E φ h lo cs cs') (s : Sim E φ w0 h w1) {ldd : Loc} (hdf : φ df = some ldd)
    (hen : (Instr.enterLoop fn tmps ps as body ro.1).run P w = .ok (w1.heap.size, mark) (w1.alloc (.loop { state := .ready, pending := none, fn, tmps, params := ps, assign := as, body, defers := ldd.block })))
    (hv : VRel φ (.func (.func g) first captured) (evalT tmps f))
    {todo : List AItem} {s2 : ASt} (e : rangeA E { fr := ⟨fn, tm, nt, todo, defers, false, roundOf⟩, cs, h } ps.toList as body g first.toList captured.toList k h df ⟨fn, tm, nt, todo, defers', false, roundOf⟩ = some s2) :
    Goes P E w0 base (lone (mk fn tmps (.code (.rangeFunc f ps as body) :: k') ds ro) (cs' ++ base) w) s2 := by
  unfold rangeA at e
  simp only [Option.bind_eq_some_iff] at e
  obtain ⟨r, hr, e⟩ := e
  have hp := s.new (o := .loop .ready none fn tm nt ps.toList as body df) (more_alloc w1 (.loop { state := .ready, pending := none, fn, tmps, params := ps, assign := as, body, defers := ldd.block })) ⟨w1.heap.size, 0, 0, 0⟩ rfl
    ⟨tmps, ldd.block, by simpa using (more_alloc w1 _).new, t.mono (Phi.upd_le (s.fresh h.nx (Nat.le_refl _)).1), ldd, Phi.upd_le (s.fresh h.nx (Nat.le_refl _)).1 _ _ hdf, rfl⟩
  generalize hf : evalT tmps f = fv at hv
  obtain ⟨first⟩ := first
  obtain ⟨captured⟩ := captured
  cases hv with
  | func rf r1 r2 =>
  rename_i g' b d'
  cases rf
  have rall : VsRel (φ.upd h.nx ⟨w1.heap.size, 0, 0, 0⟩) (first ++ [.func (.yield h.nx) ⟨[]⟩ ⟨[]⟩] ++ captured) ((⟨b⟩ ++ #[Value.func (.yield w1.heap.size) #[] #[]] ++ ⟨d'⟩ : Array Value)).toList := by
    simp only [Array.toList_append]
    exact ((VsRel.mono hp.le r1).append (.cons (.func (.yield (l := ⟨w1.heap.size, 0, 0, 0⟩) (Phi.upd_self _ _ _)) .nil .nil) .nil)).append (VsRel.mono hp.le r2)
  have ok := callA_sound G hp.sim rall hr
  have hrun : ((do let d ← Deferred.ofValue (evalT tmps f) #[.func (.yield w1.heap.size) #[] #[]]; invoke d.target d.args) : Sem Next) = callFunc g (⟨b⟩ ++ #[Value.func (.yield w1.heap.size) #[] #[]] ++ ⟨d'⟩) := by
    rw [hf]
    simp [Deferred.ofValue, invoke]
  refine doRes_sound (lo := lo) G (Nat.le_trans hlo hp.nx) (CHRel.range (t.mono hp.le) (Phi.upd_self _ _ _) (tr.mono hp.le)) (d.mono hp.le) (rr.mono hp.le) (c.keep (hp.kp.mono hlo)) hp.sim ?_ ?_ ?_ ?_ ?_ ?_ ok e
  · intro v' w' h1; exact .one (st_range_value hen (by rw [hrun]; exact h1))
  · intro w' h1; exact .one (st_range_skip hen (by rw [hrun]; exact h1))
  · intro f args w' h1; exact .one (st_range_enter' hen (by rw [hrun]; exact h1))
  · intro l f ts as b w' h1; exact .one (st_range_round hen (by rw [hrun]; exact h1))
  · intro kd df w' _ h1; exact .one (st_range_defer hen (by rw [hrun]; exact h1))
  · intro kd w' hro htr h1; subst hro; exact .one (st_range_recover hen (by rw [hrun]; exact h1) htr)

end
end Go.AE
namespace Go.AE
open Go.RowKit

section
variable {P : Program} {E : Env} {φ : Phi} {w0 w : World} {h : AHeap} {lo nt : Nat} {tm : Tr Value} {tmps : Array Value} {base : List Frame}
  {fn : FuncId} {k : List AItem} {defers : List ADef} {roundOf : Option Nat × Bool} {k' : List Item} {ds : List Deferred} {ro : Option Nat × Bool} {cs : List AFrame} {cs' : List Frame}

/-- A step of a frame that returns. -/
theorem ret_sound (G : Good P E w0) (hlo : lo ≤ h.nx) {todo : List AItem} {todo' : List Item} (t : TRel φ nt tm tmps) (d : DefRel φ defers ds) (rr : RoRel φ roundOf ro) (c : CsRel E φ h lo cs cs') (s : Sim E φ w0 h w)
    {s2 : ASt} (e : stepRet E { fr := ⟨fn, tm, nt, todo, defers, true, roundOf⟩, cs, h } = some s2) : Goes P E w0 base (lone (mkR fn tmps todo' ds ro) (cs' ++ base) w) s2 := by
  unfold stepRet at e
  simp only at e
  split at e
  · rename_i l dl
    split at e
    · rename_i ho
      cases e
      cases d with
      | cons el dr =>
      rename_i ld ds'
      obtain ⟨h1, _, hlt⟩ := s.obj l _ ld ho el
      have h1' : w.heap[ld.block]? = some (.deferred (some [])) := h1
      have hrun : (Instr.takeDeferred ld.block).run P w = .ok [] { w with heap := w.heap.setIfInBounds ld.block (.deferred none) } := by
        simp [Instr.takeDeferred, getObj, setObj, Sem.run, h1']
      have hp := s.kill ho el (setObj_only w ld.block (.deferred none))
      exact ⟨φ, _, cs', _, .one (st_defer hrun), ⟨lo, Nat.le_trans hlo hp.nx, .ret (t.mono hp.le) (dr.mono hp.le) (rr.mono hp.le), c.keep (hp.kp.mono hlo)⟩, hp.sim⟩
    · cases e
  · rename_i f args captured dl
    split at e
    · rename_i hext
      simp only [Option.bind_eq_some_iff] at e
      obtain ⟨fnc, hf, fr, hfr, e⟩ := e
      cases e
      cases d with
      | call ha hc dr =>
      rename_i a' c' ds'
      have rall : VsRel φ (args ++ captured) ((⟨a'⟩ ++ ⟨c'⟩ : Array Value)).toList := by
        simp only [Array.toList_append]
        exact ha.append hc
      have hcall := run_callFunc_enter (w := w) G hf (⟨a'⟩ ++ ⟨c'⟩ : Array Value)
      unfold enterA at hfr
      simp only [Option.bind_eq_some_iff] at hfr
      obtain ⟨cb, hcb, hfr⟩ := hfr
      cases hfr
      obtain ⟨g1, g2, g3⟩ := G.funcs f fnc hf
      have hen : Frame.enter P f (⟨a'⟩ ++ ⟨c'⟩) .deferred = mk f ((⟨a'⟩ ++ ⟨c'⟩) ++ Array.replicate (fnc.ntmps - (⟨a'⟩ ++ ⟨c'⟩ : Array Value).size) undef) [.code cb] [] (none, true) := by
        simp [Frame.enter, g1, hcb, mk, kindOf]
      refine ⟨φ, _, _ :: cs', w, .one (st_call_deferred hcall), ⟨h.nx, Nat.le_refl _, ?_, .consR hlo t dr rr c⟩, s⟩
      rw [hen]
      refine .run (.plain ⟨?_, ?_⟩ (.code cb .nil)) .nil .none
      · have := rall.length
        rw [lenL_eq]
        simp at this ⊢
        omega
      · intro x v hx
        rw [argsTm_get] at hx
        split at hx
        · rename_i hc
          simp only [Nat.sub_zero, Nat.zero_add] at hx hc
          obtain ⟨u, hu, hr⟩ := rall.get x v hx
          have hu' : (⟨a'⟩ ++ ⟨c'⟩ : Array Value)[x]? = some u := by simpa using hu
          have hlt : x < (⟨a'⟩ ++ ⟨c'⟩ : Array Value).size := (Array.getElem?_eq_some_iff.1 hu').1
          exact ⟨u, by rw [Array.getElem?_append, if_pos hlt]; exact hu', hr⟩
        · rw [Tr.get_leaf] at hx; cases hx
    · cases e
  · split at e
    · rename_i ac acs
      simp only [Option.bind_eq_some_iff] at e
      obtain ⟨fnc, hf, vs, hvs, e⟩ := e
      cases d
      obtain ⟨v', hrun, hv⟩ := resultsA_sound G s t hvs
      have hfn := (G.funcs _ _ hf).1
      have hnorm : ∀ {ol ol' : Option Nat}, ro = (ol', false) → ((finishA ac (tupleA vs)).bind fun c' => some { fr := c', cs := acs, h } : Option ASt) = some s2 → Goes P E w0 base (lone (mkR fn tmps todo' [] ro) (cs' ++ base) w) s2 := by
        intro ol ol' hro e
        subst hro
        simp only [Option.bind_eq_some_iff] at e
        obtain ⟨fr, hfr, e⟩ := e
        cases e
        cases c with
        | cons hl2 t2 d2 r2 c =>
          exact ⟨φ, _, _, w, .one (st_return (ro := (ol', false)) hfn hrun), ⟨_, Nat.le_trans hl2 hlo, finish_sound hlo t2 d2 r2 hv hfr, c⟩, s⟩
        | consR => cases hfr
      cases rr with
      | some el => exact hnorm (ol := none) rfl e
      | @none kd =>
        cases kd with
        | false => exact hnorm (ol := none) rfl e
        | true =>
          simp only at e
          split at e
          · rename_i hret
            cases e
            cases c with
            | cons => cases hret
            | consR hl2 t2 d2 r2 c =>
              exact ⟨φ, _, _, w, .one (st_return_deferred (ro := (none, true)) hfn hrun), ⟨_, Nat.le_trans hl2 hlo, .ret t2 d2 r2, c⟩, s⟩
          · cases e
    · cases e

/-- A frame's end. -/
theorem leaveF_sound (G : Good P E w0) (hlo : lo ≤ h.nx) {todo : List AItem} {todo' : List Item} (t : TRel φ nt tm tmps) (d : DefRel φ defers ds) (rr : RoRel φ roundOf ro) (c : CsRel E φ h lo cs cs') (s : Sim E φ w0 h w) {jump : Option Code}
    (h1 : ∀ kd, (jump = none ∨ jump = some .ret) → step P (lone (mk fn tmps todo' ds (none, kd)) (cs' ++ base) w) = .next (lone (mkR fn tmps todo' ds (none, kd)) (cs' ++ base) w))
    (h2 : ∀ (l : Nat) (c : Frame) (cs : List Frame) (v : Value) (w' : World), (Instr.endRound l jump).run P w = .ok v w' → step P (lone (mk fn tmps todo' ds (some l, false)) (c :: cs) w) = .next (lone (c.finish v) cs w'))
    {s2 : ASt} (e : leaveF { fr := ⟨fn, tm, nt, todo, defers, false, roundOf⟩, cs, h } jump = some s2) : Goes P E w0 base (lone (mk fn tmps todo' ds ro) (cs' ++ base) w) s2 := by
  unfold leaveF at e
  cases rr with
  | @none kd =>
    simp only at e
    have hj : jump = none ∨ jump = some .ret := by
      split at e
      · exact .inl rfl
      · exact .inr rfl
      · cases e
    have e' : s2 = { fr := ⟨fn, tm, nt, todo, defers, true, (none, kd)⟩, cs, h } := by
      rcases hj with rfl | rfl <;> (simp only at e; cases e; rfl)
    subst e'
    exact ⟨φ, _, cs', w, .one (h1 kd hj), ⟨lo, hlo, .ret t d .none, c⟩, s⟩
  | some el => exact leave_sound G hlo el c s (h2 _) e

theorem code_sound (G : Good P E w0) (hlo : lo ≤ h.nx) {x : Code} (t : TRel φ nt tm tmps) (tr : TodoRel φ k k') (d : DefRel φ defers ds) (rr : RoRel φ roundOf ro) (c : CsRel E φ h lo cs cs') (s : Sim E φ w0 h w)
    {s2 : ASt} (e : astep E { fr := ⟨fn, tm, nt, .code x :: k, defers, false, roundOf⟩, cs, h } = some s2) : Goes P E w0 base (lone (mk fn tmps (.code x :: k') ds ro) (cs' ++ base) w) s2 := by
  have go : ∀ {k2 : List AItem} {k2' : List Item} {w2 : World}, TodoRel φ k2 k2' → Sim E φ w0 h w2 → step P (lone (mk fn tmps (.code x :: k') ds ro) (cs' ++ base) w) = .next (lone (mk fn tmps k2' ds ro) (cs' ++ base) w2) →
      toA { fr := ⟨fn, tm, nt, .code x :: k, defers, false, roundOf⟩, cs, h } k2 = some s2 → Goes P E w0 base (lone (mk fn tmps (.code x :: k') ds ro) (cs' ++ base) w) s2 := by
    intro k2 k2' w2 tr2 s2' hst e
    unfold toA at e
    cases e
    exact ⟨φ, _, cs', w2, .one hst, ⟨lo, hlo, .run (.plain t tr2) d rr, c⟩, s2'⟩
  have hlook : ∀ (xs : List Operand), ∀ y ∈ tmpsOf xs, ∀ v, tm.get y = some v → ∃ u, tmps[y]? = some u ∧ VRel φ v u := fun _ y _ v hv => t.2 y v hv
  cases x with
  | ret => exact leaveF_sound G hlo t d rr c s (fun _ _ => st_ret) (fun _ _ _ _ _ hr => st_leave_ret hr) e
  | skip => exact go tr s st_skip e
  | label l => exact go tr s st_label e
  | seq a b => exact go (.code a (.code b tr)) s st_seq e
  | block id b => exact go (.code b (.inBlock id tr)) s st_block e
  | loop b => exact go (.code b (.inLoop b tr)) s st_loop e
  | scope b => exact go (.code b (.inScope b tr)) s st_scope e
  | refuse why => cases e
  | cond o a b =>
    simp only [astep, Option.bind_eq_some_iff] at e
    obtain ⟨v, hv, e⟩ := e
    have rv := evalT_rel s (hlook [o]) o v (by simp) hv
    split at e
    · generalize hx : evalT tmps o = y at rv
      cases rv
      exact go (.code a tr) s (st_cond hx) e
    · generalize hx : evalT tmps o = y at rv
      cases rv
      exact go (.code b tr) s (st_cond hx) e
    · cases e
  | exit id =>
    simp only [astep] at e
    obtain ⟨h1, h2⟩ := exitTo_rel (id := id) tr
    split at e
    · rename_i k2 hk
      obtain ⟨x', hx, r⟩ := h1 k2 hk
      exact go r s (st_exit hx) e
    · rename_i hk
      exact leaveF_sound G hlo t d rr c s (fun _ hj => by rcases hj with hj | hj <;> cases hj) (fun _ _ _ _ _ hr => st_leave_exit (h2 hk) hr) e
  | goto l =>
    simp only [astep] at e
    obtain ⟨h1, h2⟩ := gotoIn_rel (l := l) tr
    split at e
    · rename_i k2 hk
      obtain ⟨x', hx, r⟩ := h1 k2 hk
      exact go r s (st_goto hx) e
    · rename_i hk
      exact leaveF_sound G hlo t d rr c s (fun _ hj => by rcases hj with hj | hj <;> cases hj) (fun _ _ _ _ _ hr => st_leave_goto (h2 hk) hr) e
  | region id ops draw =>
    cases draw with
    | false =>
      simp only [astep, toA] at e
      cases e
      refine ⟨φ, _, cs', w, .one st_region, ⟨lo, hlo, ?_, c⟩, s⟩
      rw [List.range_eq_range', show List.range' 0 ops.size = List.range' 0 (ops.size - 0) by simp]
      exact .run (.reg t tr) d rr
    | true =>
      simp only [astep, toA, whenB_some] at e
      obtain ⟨hok, e⟩ := e
      cases e
      have S := static hok
      have hst := st_region_draw (P := P) (fn := fn) (tmps := tmps) (k := k') (ds := ds) (ro := ro) (cs := cs' ++ base) (w := w) (ops := ops) (id := id)
      rw [G.mixed] at hst
      have L := schedule_lin (t := w.tape w.drawn (.order fn id)) S
      refine ⟨φ, _, cs', _, .one hst, ⟨lo, hlo, .run (.dreg (dc := []) (rf := fun _ => 0) ?_ tr) d rr, c⟩, s.same rfl rfl rfl rfl⟩
      exact {
        st := S
        lin := by simpa using L
        d1 := fun i hi => by simp at hi
        d2 := fun i o _ _ hb => by simp at hb
        dp := fun i p hb => by simp at hb
        xpd := fun i _ => by simp
        size := t.1
        tms := fun x v hv => by
          obtain ⟨u, hu, hr⟩ := t.2 x v hv
          have := (Array.getElem?_eq_some_iff.1 hu).1
          exact ⟨by rw [← t.1]; exact this, .inr ⟨u, hu, hr⟩⟩
        al := fun i o _ hb => by simp at hb
        inj := fun i j o o' _ _ hb => by simp at hb }
  | rangeFunc f ps as b =>
    simp only [astep, Option.bind_eq_some_iff] at e
    obtain ⟨v, hv, e⟩ := e
    have rv := evalT_rel s (hlook [f]) f v (by simp) hv
    split at e
    · rename_i g first captured
      cases rr with
      | none =>
        simp only at e
        have hp := s.new (o := .defd) (more_alloc w (.deferred (some []))) ⟨w.heap.size, 0, 0, 0⟩ rfl (more_alloc w _).new
        refine range_sound (w1 := w.alloc (.deferred (some []))) (mark := [{ target := .collected w.heap.size, args := #[] }]) G (Nat.le_trans hlo hp.nx) (t.mono hp.le) (tr.mono hp.le) (.cons (Phi.upd_self _ _ _) (d.mono hp.le)) .none (c.keep (hp.kp.mono hlo)) hp.sim (Phi.upd_self _ _ _) ?_ (VRel.mono hp.le rv) e
        simp [Instr.enterLoop]
      | @some l ld el =>
        simp only at e
        split at e
        rotate_left
        · cases e
        rename_i st p f2 tml ntl ps2 as2 b2 dd ho
        obtain ⟨⟨tl, dl, h1, h2, ld2, h3, h4⟩, _, hlt⟩ := s.obj l _ ld ho el
        subst h4
        refine range_sound (w1 := w) (mark := []) G hlo t tr d (.some el) c s h3 ?_ rv e
        simp [Instr.enterLoop, Instr.getLoop, getObj, Sem.run, h1]
    · cases e

/-- Every step of the abstract machine is steps of the model's. -/
theorem astep_sound (G : Good P E w0) {s s2 : ASt} {fr' : Frame} (R : SRel E φ w0 s fr' cs' w) (e : astep E s = some s2) : Goes P E w0 base (lone fr' (cs' ++ base) w) s2 := by
  obtain ⟨⟨lo, hlo, hf, c⟩, si⟩ := R
  obtain ⟨fr, cs, h⟩ := s
  simp only at hlo hf c si
  cases hf with
  | ret t d r => exact ret_sound G hlo t d r c si e
  | @run fn tm nt todo defers roundOf tmps todo' ds ro t d r =>
    cases t with
    | reg t tr => exact reg_sound G hlo t tr d r c si e
    | dreg D tr => exact dreg_sound G hlo D tr d r c si e
    | plain t tr =>
      have go : ∀ {fn : FuncId} {k k2 : List AItem} {ki k2' : List Item} {defers : List ADef} {roundOf : Option Nat × Bool} {ds : List Deferred} {ro : Option Nat × Bool} {tm : Tr Value} {nt : Nat} {tmps : Array Value}, TRel φ nt tm tmps → DefRel φ defers ds → RoRel φ roundOf ro → TodoRel φ k2 k2' →
          step P (lone (mk fn tmps ki ds ro) (cs' ++ base) w) = .next (lone (mk fn tmps k2' ds ro) (cs' ++ base) w) →
          toA { fr := ⟨fn, tm, nt, k, defers, false, roundOf⟩, cs, h } k2 = some s2 → Goes P E w0 base (lone (mk fn tmps ki ds ro) (cs' ++ base) w) s2 := by
        intro fn k k2 ki k2' defers roundOf ds ro tm nt tmps t d r tr2 hst e
        unfold toA at e
        cases e
        exact ⟨φ, _, cs', w, .one hst, ⟨lo, hlo, .run (.plain t tr2) d r, c⟩, si⟩
      cases tr with
      | nil => exact leaveF_sound G hlo t d r c si (fun _ _ => st_end) (fun _ _ _ _ _ hr => st_leave hr) e
      | code x tr => exact code_sound G hlo t tr d r c si e
      | inBlock id tr => exact go t d r tr st_inBlock e
      | inScope x tr => exact go t d r tr st_inScope e
      | inLoop x tr => exact go t d r (.code x (.inLoop x tr)) st_inLoop e
      | begin tr =>
        simp only [astep, Option.bind_eq_some_iff] at e
        obtain ⟨l, hl, e⟩ := e
        cases r with
        | none => cases hl
        | @some _ ld el =>
        cases hl
        split at e
        · rename_i p f2 tml ntl ps as b dd ho
          cases e
          obtain ⟨⟨tl, dl, h1, h2, ld2, h3, h4⟩, _, hlt⟩ := si.obj l _ ld ho el
          have hrun : (Instr.beginRound ld.block).run P w = .ok () { w with heap := w.heap.setIfInBounds ld.block (.loop { state := .busy, pending := p, fn := f2, tmps := tl, params := ps.toArray, assign := as, body := b, defers := dl }) } := by
            simp [Instr.beginRound, Instr.getLoop, getObj, setObj, Sem.run, h1]
          have hp := si.put (o' := .loop .busy p f2 tml ntl ps as b dd) ho el (setObj_only w ld.block (.loop { state := .busy, pending := p, fn := f2, tmps := tl, params := ps.toArray, assign := as, body := b, defers := dl }))
            ⟨tl, dl, by simp only [Array.getElem?_setIfInBounds, hlt, if_true], h2, ld2, h3, h4⟩
          exact ⟨φ, _, cs', _, .one (st_beginRound hrun), ⟨lo, Nat.le_trans hlo hp.nx, .run (.plain (t.mono hp.le) (tr.mono hp.le)) (d.mono hp.le) (.some el), c.keep (hp.kp.mono hlo)⟩, hp.sim⟩
        · cases e
      | @endRange l ld el k k' tr =>
        simp only [astep] at e
        split at e
        · rename_i st p f2 tml ntl ps as b dd ho
          obtain ⟨⟨tl, dl, h1, h2, ld2, h3, h4⟩, _, hlt⟩ := si.obj l _ ld ho el
          have hst : st ≠ .busy := by intro hb; subst hb; cases e
          have e' : s2 = { fr := ⟨fn, tm, nt, (match (generalizing := false) p with | some c => .code c :: k | none => k), defers, false, roundOf⟩, cs, h := h.put l (.loop .exhausted p f2 tml ntl ps as b dd) } := by
            cases st <;> first | (exact absurd rfl hst) | (cases e; rfl)
          subst e'
          have hrun : (Instr.endLoop ld.block).run P w = .ok p { w with heap := w.heap.setIfInBounds ld.block (.loop { state := .exhausted, pending := p, fn := f2, tmps := tl, params := ps.toArray, assign := as, body := b, defers := dl }) } := by
            cases st <;> first | (exact absurd rfl hst) | (simp [Instr.endLoop, Instr.getLoop, getObj, setObj, Sem.run, h1]; done) | (simp [Instr.endLoop, Instr.getLoop, getObj, setObj, Sem.run, h1]; rfl)
          have hp := si.put (o' := .loop .exhausted p f2 tml ntl ps as b dd) ho el (setObj_only w ld.block (.loop { state := .exhausted, pending := p, fn := f2, tmps := tl, params := ps.toArray, assign := as, body := b, defers := dl }))
            ⟨tl, dl, by simp only [Array.getElem?_setIfInBounds, hlt, if_true], h2, ld2, h3, h4⟩
          have htr : TodoRel φ (match (generalizing := false) p with | some c => .code c :: k | none => k) ((p.map Item.code).toList ++ k') := by
            cases p with
            | none => exact tr
            | some x => exact .code x tr
          exact ⟨φ, _, cs', _, .one (st_endRange hrun), ⟨lo, Nat.le_trans hlo hp.nx, .run (.plain (t.mono hp.le) (htr.mono hp.le)) (d.mono hp.le) (r.mono hp.le), c.keep (hp.kp.mono hlo)⟩, hp.sim⟩
        · cases e

theorem arun_sound (G : Good P E w0) : ∀ (n : Nat) {s s2 : ASt} {m : Machine}, Goes P E w0 base m s → arun E n s = some s2 → Goes P E w0 base m s2
  | 0, s, s2, m, g, e => by cases e; exact g
  | n + 1, s, s2, m, ⟨φ, fr, cs, w, h1, R⟩, e => by
    simp only [arun, Option.bind_eq_some_iff] at e
    obtain ⟨s1, h2, e⟩ := e
    exact arun_sound G n (.of_steps h1 (astep_sound G R h2)) e

end
end Go.AE
