/-
  A walk of one call by a computed run over a frame that is a list of slots: what the run asks of memory and arithmetic is laid before it as facts; the kernel reckons the rest. No condition.
-/
import Derived.WalkKit
import Derived.Orders
import Derived.Scope
import Derived.Deep.Quiet
import Derived.Laws.StructEq
namespace Go.Gw
set_option linter.unusedVariables false
set_option linter.unusedSimpArgs false

/-- from this stack, frame and world the call comes to an end that R allows -/
def Goes (P : Program) (f : FuncId) (R : Ending → World → Prop) (k : List Item) (a : Act) (w : World) : Prop :=
  ∀ (b : Frame) (cs : List Frame), b.fn = f → b.kind = .normal →
    ∃ e w' fr, R e w' ∧ Comes P (lone (b.at a k) cs w) (lone fr cs w') e ∧ fr.fn = f ∧ fr.leaving P w' e

section
variable {P : Program} {f : FuncId} {R : Ending → World → Prop} {k k' : List Item} {a a' : Act} {w w' : World}

theorem Goes.calls {fn : Func} {c : Code} {args : Array Value} (hf : P.funcs[f]? = some fn) (hb : fn.body = some c)
    (h : Goes P f R [.code c] { tmps := args ++ Array.replicate (fn.ntmps - args.size) undef, defers := [] } w) : Calls P f args w R := by
  intro cs
  let b : Frame := { (default : Frame) with fn := f, kind := .normal }
  have henter : Frame.enter P f args .normal =
      b.at { tmps := args ++ Array.replicate (fn.ntmps - args.size) undef, defers := [] } [.code c] := by
    simp [Frame.enter, Frame.at, hf, hb, b]
  obtain ⟨e, w', fr, hR, hc, hfn, hl⟩ := h b cs rfl rfl
  exact ⟨e, w', fr, hR, henter ▸ hc, hfn, hl⟩

theorem Goes.step (hs : ∀ (b : Frame) cs, step P (lone (b.at a k) cs w) = .next (lone (b.at a' k') cs w')) (h : Goes P f R k' a' w') : Goes P f R k a w := by
  intro b cs hb hk
  obtain ⟨e, w'', fr, hR, hc, hfn, hl⟩ := h b cs hb hk
  exact ⟨e, w'', fr, hR, hc.of_steps (.one (hs b cs)), hfn, hl⟩

theorem Goes.wp {c : Code} (h : c.wp P (fun e a' w' => e = .normal ∧ Goes P f R k a' w') a w) : Goes P f R (.code c :: k) a w := by
  intro b cs hb hk
  obtain ⟨e, a', w', ⟨rfl, hq⟩, harr⟩ := h b k cs
  obtain ⟨e, w'', fr, hR, hc, hfn, hl⟩ := hq b cs hb hk
  exact ⟨e, w'', fr, hR, hc.of_steps harr, hfn, hl⟩

theorem Goes.ret {fn : Func} {v : Value} (hf : P.funcs[f]? = some fn) (hd : a.defers = []) (hr : (results fn a.tmps).run P w = .ok v w) (hR : R (.returned v) w) :
    Goes P f R (.code .ret :: k) a w := fun _ _ hb hk =>
  ⟨.returned v, w, _, hR, .one step_ret, hb, rfl, hd, hk, fn, hb ▸ hf, hr⟩

theorem Goes.fin {fn : Func} {v : Value} (hf : P.funcs[f]? = some fn) (hd : a.defers = []) (hr : (results fn a.tmps).run P w = .ok v w) (hR : R (.returned v) w) :
    Goes P f R [] a w := fun _ _ hb hk =>
  ⟨.returned v, w, _, hR, .one step_end, hb, rfl, hd, hk, fn, hb ▸ hf, hr⟩

/-- one operation, by its weakest precondition -/
theorem Goes.oper {ops : Array Oper} {i : Nat} {rest : List Nat} {o : Oper} (ho : ops[i]? = some o) (hw : Region.wanted o (yielded ops a.tmps) = true)
    (h : o.wp P a w (fun a' w' => Goes P f R (.inRegion ops rest :: k) a' w') (fun _ _ _ => False)) : Goes P f R (.inRegion ops (i :: rest) :: k) a w := by
  intro b cs hb hk
  simp only [Oper.wp, Oper.upon] at h
  have hg := stepG_op (P := P) (b := b) (k := k) (cs := cs) (w := w) (rest := rest) ho hw
  have hfin : ∀ v, (b.at a (.inRegion ops (i :: rest) :: k)).finish v = b.at (a.put o.dst v) (.inRegion ops rest :: k) := by
    intro v; rw [Frame.finish_at, ho]; rfl
  split at h
  · rename_i v w' hr
    obtain ⟨e, w'', fr, hR, hc, hfn, hl⟩ := h b cs hb hk
    refine ⟨e, w'', fr, hR, hc.of_steps (.one (step_lone_go ?_)), hfn, hl⟩
    rw [hg, ← hfin]; simp [stepG.apply, hr]
  · rename_i w' hr
    obtain ⟨e, w'', fr, hR, hc, hfn, hl⟩ := h b cs hb hk
    refine ⟨e, w'', fr, hR, hc.of_steps (.one (step_lone_go ?_)), hfn, hl⟩
    rw [hg, ← hfin]; simp [stepG.apply, hr]
  · rename_i d w' hr
    obtain ⟨e, w'', fr, hR, hc, hfn, hl⟩ := h b cs hb hk
    refine ⟨e, w'', fr, hR, hc.of_steps (.one (step_lone_go ?_)), hfn, hl⟩
    have : ({ b.at a (.inRegion ops (i :: rest) :: k) with defers := d :: a.defers } : Frame).finish undef =
        b.at ({ a with defers := d :: a.defers }.put o.dst undef) (.inRegion ops rest :: k) := by
      have := Frame.finish_at b { a with defers := d :: a.defers } ops i rest k undef
      rw [ho] at this; exact this
    rw [hg]; simp only [stepG.apply, Sem.runT_eq, hr, GStep.bare_after]
    exact congrArg (fun fr => GStep.go { frame := fr, callers := cs, status := .running, dying := none } w') this
  · rename_i g args w' hr
    obtain ⟨e, w'', fr, hR, hsteps, hfn, hleave⟩ := h (b.at a (.inRegion ops (i :: rest) :: k) :: cs)
    have henter : Go.step P (lone (b.at a (.inRegion ops (i :: rest) :: k)) cs w) =
        .next (lone (Frame.enter P g args .normal) (b.at a (.inRegion ops (i :: rest) :: k) :: cs) w') :=
      step_lone_go (by rw [hg]; simp [stepG.apply, hr, Frame.at])
    cases e with
    | returned v =>
      obtain ⟨e, w3, fr', hR', hc, hfn', hl⟩ := hR b cs hb hk
      refine ⟨e, w3, fr', hR', hc.of_steps (.head henter (Steps.trans hsteps (.one ?_))), hfn', hl⟩
      rw [← hfin]; exact step_leave_returned hleave
    | panicked chain => exact hR.elim
    | outgrown => exact (let ⟨_, _, h⟩ := hR; h.elim)
  · rename_i row args w' hr
    obtain ⟨v, w'', hR, hsteps⟩ := h (b.at a (.inRegion ops (i :: rest) :: k)) cs
    have henter : Go.step P (lone (b.at a (.inRegion ops (i :: rest) :: k)) cs w) =
        .next (lone (Frame.ofRow P row args .normal) (b.at a (.inRegion ops (i :: rest) :: k) :: cs) w') :=
      step_lone_go (by rw [hg]; simp [stepG.apply, hr, Frame.at])
    obtain ⟨e, w3, fr', hR', hc, hfn', hl⟩ := hR b cs hb hk
    refine ⟨e, w3, fr', hR', hc.of_steps (.head henter ?_), hfn', hl⟩
    rw [← hfin]; exact hsteps
  · exact h.elim
  · exact h.elim
end

/-! ### a frame as a list of the slots that are known -/

abbrev Sl := List (Nat × Value)
def look : Sl → Nat → Option Value
  | [], _ => none
  | (i, v) :: r, t => bif Nat.beq i t then some v else look r t
def evalS (l : Sl) : Operand → Option Value
  | .tmp t => look l t
  | .const v => some v
  | .global g => some (.pointer (some ⟨g, 0, none⟩))
  | .func f => some (.func (.func f) #[] #[])
def rho (l : Sl) (x : Operand) : Value := match evalS l x with | some v => v | none => undef
def putS (l : Sl) (dst : Option Tmp) (v : Value) : Sl := match dst with | some d => (d, v) :: l | none => l
/-- the slots that are kept -/
def keep (l : Sl) : List Nat → Sl
  | [] => []
  | t :: ts => match look l t with | some v => (t, v) :: keep l ts | none => keep l ts

structure Fits (a : Act) (n : Nat) (l : Sl) : Prop where
  defers : a.defers = []
  size : a.tmps.size = n
  get : ∀ t v, look l t = some v → a.tmps.getD t undef = v

theorem look_keep {l : Sl} {t : Nat} {v : Value} : ∀ {ts : List Nat}, look (keep l ts) t = some v → look l t = some v
  | [], h => by simp [keep, look] at h
  | s :: ts, h => by
    unfold keep at h
    split at h
    · rename_i u hu
      simp only [look] at h
      by_cases e : Nat.beq s t = true
      · simp only [e, cond_true, Option.some.injEq] at h
        have : s = t := Nat.eq_of_beq_eq_true e
        subst this; rw [hu, h]
      · simp only [e, cond_false] at h
        exact look_keep h
    · exact look_keep h

theorem Fits.keep {a : Act} {n : Nat} {l : Sl} (h : Fits a n l) (ts : List Nat) : Fits a n (keep l ts) := ⟨h.defers, h.size, fun t v hv => h.get t v (look_keep hv)⟩

def inB (n : Nat) : Option Tmp → Bool
  | some d => Nat.blt d n
  | none => true

theorem Fits.put {a : Act} {n : Nat} {l : Sl} (h : Fits a n l) (dst : Option Tmp) (v : Value) (hd : inB n dst = true) : Fits (a.put dst v) n (putS l dst v) := by
  cases dst with
  | none => exact h
  | some d =>
    have hd' : d < n := Nat.lt_of_succ_le (Nat.le_of_ble_eq_true hd)
    refine ⟨h.defers, by simp [Act.put, h.size], fun t u hu => ?_⟩
    simp only [putS, look] at hu
    by_cases e : Nat.beq d t = true
    · simp only [e, cond_true, Option.some.injEq] at hu
      have : d = t := Nat.eq_of_beq_eq_true e
      subst this
      simp [Act.put, hu, h.size, hd']
    · simp only [e, cond_false] at hu
      have hne : d ≠ t := fun x => e (by subst x; exact Nat.beq_refl d)
      have := h.get t u hu
      simp only [Act.put, Array.getD_eq_getD_getElem?] at *
      rw [Array.getElem?_setIfInBounds_ne hne]
      exact this

/-- what is known of a stack's end: from every frame that fits -/
def GoS (P : Program) (f : FuncId) (R : Ending → World → Prop) (n : Nat) (k : List Item) (l : Sl) (w : World) : Prop := ∀ a, Fits a n l → Goes P f R k a w

theorem GoS.weak {P : Program} {f : FuncId} {R : Ending → World → Prop} {n : Nat} {k : List Item} {l : Sl} {w : World} (ts : List Nat) (h : GoS P f R n k (keep l ts) w) : GoS P f R n k l w :=
  fun a ha => h a (ha.keep ts)

/-- what an operation is told before it is run: nothing; its value; its value and the world behind it -/
def Cmd : Type := Option (Value × Option World)
def Cmd.n : Cmd := none
def Cmd.h (v : Value) : Cmd := some (v, none)
def Cmd.u (v : Value) (w : World) : Cmd := some (v, some w)

/-- all of them hold -/
def Obs : List Prop → Prop
  | [] => True
  | p :: ps => p ∧ Obs ps
theorem Obs.nil : Obs [] := trivial
theorem Obs.cons {p : Prop} {ps : List Prop} (h : p) (hs : Obs ps) : Obs (p :: ps) := ⟨h, hs⟩

/-- what is owed for an operation of which the value is told -/
def owed (P : Program) (o : Oper) (ρ : Operand → Value) (w : World) (v : Value) (w' : World) : Prop :=
  match o.op with
  | .binOp .add t x y _ => (binOp .add t (ρ x) (ρ y)).run P w = .ok v w'
  | .binOp .sub t x y _ => (binOp .sub t (ρ x) (ρ y)).run P w = .ok v w'
  | .binOp .mul t x y _ => (binOp .mul t (ρ x) (ρ y)).run P w = .ok v w'
  | .binOp .quo t x y _ => (binOp .quo t (ρ x) (ρ y)).run P w = .ok v w'
  | .binOp .rem t x y _ => (binOp .rem t (ρ x) (ρ y)).run P w = .ok v w'
  | .binOp .and t x y _ => (binOp .and t (ρ x) (ρ y)).run P w = .ok v w'
  | .binOp .or t x y _ => (binOp .or t (ρ x) (ρ y)).run P w = .ok v w'
  | .binOp .xor t x y _ => (binOp .xor t (ρ x) (ρ y)).run P w = .ok v w'
  | .binOp .shl t x y _ => (binOp .shl t (ρ x) (ρ y)).run P w = .ok v w'
  | .binOp .shr t x y _ => (binOp .shr t (ρ x) (ρ y)).run P w = .ok v w'
  | .binOp .eql t x y _ => match ρ x, ρ y with
    | .string a, .string b => (binOp .eql t (.string a) (.string b)).run P w = .ok v w'
    | .bool a, .bool b => P.underlying t = some .bool ∧ w' = w ∧ v = .bool (a == b)
    | .int k a, .int k' b => k = k' ∧ w' = w ∧ v = .bool (a == b)
    | .agg a, .agg b => P.eqGuardType P.depth t = false ∧ (binOp .eql t (.agg a) (.agg b)).run P w = .ok v w'
    | .pointer a, .pointer b => (binOp .eql t (.pointer a) (.pointer b)).run P w = .ok v w'
    | _, _ => (execOp ρ o).run P w = .ok (.value v) w'
  | .binOp .neq t x y _ => match ρ x, ρ y with
    | .string a, .string b => (binOp .neq t (.string a) (.string b)).run P w = .ok v w'
    | .bool a, .bool b => P.underlying t = some .bool ∧ w' = w ∧ v = .bool (!(a == b))
    | .int k a, .int k' b => k = k' ∧ w' = w ∧ v = .bool (a != b)
    | .agg a, .agg b => P.eqGuardType P.depth t = false ∧ (binOp .neq t (.agg a) (.agg b)).run P w = .ok v w'
    | .pointer a, .pointer b => (binOp .neq t (.pointer a) (.pointer b)).run P w = .ok v w'
    | _, _ => (execOp ρ o).run P w = .ok (.value v) w'
  | .binOp .lss t x y _ => (binOp .lss t (ρ x) (ρ y)).run P w = .ok v w'
  | .load t x => (Instr.loadAt t (ρ x)).run P w = .ok v w'
  | .indexAddr t x i => (Instr.indexAt t (ρ x) (ρ i)).run P w = .ok v w'
  | .index t x i => (Instr.index t (ρ x) (ρ i)).run P w = .ok v w'
  | .slice t x lo hi mx => (Instr.sliceAt t (ρ x) (lo.map ρ) (hi.map ρ) (mx.map ρ)).run P w = .ok v w'
  | .convert s d x => (convert s d (ρ x)).run P w = .ok v w'
  | .alloc t => (Instr.alloc t true (.tuple #[])).run P w = .ok v w'
  | .box t x => (Instr.box t (ρ x)).run P w = .ok v w'
  | .makeSlice t x y => (Instr.makeSlice t (ρ x) (ρ y)).run P w = .ok v w'
  | .buildSlice t n ps => (Instr.buildSlice t n (ps.map fun (i, x) => (i, ρ x))).run P w = .ok v w'
  | .build t ps => (Instr.build t (ps.map fun (i, x) => (i, ρ x))).run P w = .ok v w'
  | .store t x y => (Instr.storeAt t (ρ x) (ρ y)).run P w = .ok () w' ∧ v = undef
  | .call { callee := .builtin .append, args, argTypes } => (Builtin.append_ argTypes o.type (args.map ρ)).run P w = .ok v w'
  | .call { callee := .builtin .copy, args, argTypes } => (Builtin.copy_ argTypes o.type (args.map ρ)).run P w = .ok v w'
  | .call { callee := .builtin .clear, args, argTypes } => (Builtin.clear_ argTypes o.type (args.map ρ)).run P w = .ok v w'
  | .makeMap t r => (Instr.makeMap t (r.map ρ)).run P w = .ok v w'
  | .lookup t x i c => (Instr.lookup t (ρ x) (ρ i) c).run P w = .ok v w'
  | .mapUpdate t m k x => (Instr.mapUpdate t (ρ m) (ρ k) (ρ x)).run P w = .ok () w' ∧ v = undef
  | .call { callee := .builtin .len, args, argTypes } => (Builtin.len_ argTypes o.type (args.map ρ)).run P w = .ok v w'
  | .call { callee := .builtin .unsafeString, args, argTypes } => (Builtin.unsafeString_ argTypes o.type (args.map ρ)).run P w = .ok v w'
  | .call { callee := .builtin .unsafeSliceData, args, argTypes } => (Builtin.unsafeSliceData_ argTypes o.type (args.map ρ)).run P w = .ok v w'
  | .call { callee := .builtin .min, args, argTypes } => (Builtin.min_ argTypes o.type (args.map ρ)).run P w = .ok v w'
  | .call { callee := .builtin .max, args, argTypes } => (Builtin.max_ argTypes o.type (args.map ρ)).run P w = .ok v w'
  | _ => (execOp ρ o).run P w = .ok (.value v) w'

theorem run_pure_value {P : Program} {s : Sem Value} {w w' : World} {v : Value} (h : s.run P w = .ok v w') : Sem.run P (do pure (Next.value (← s))) w = .ok (.value v) w' := by
  simp [h]

theorem guard_bool {P : Program} (op : BinOp) (t : TypeId) (p q : Operand) (a b : Bool) (w : World) : (eqGuard op t p q (.bool a) (.bool b)).run P w = .ok () w := by
  cases op <;> rfl
theorem guard_ptr {P : Program} (op : BinOp) (t : TypeId) (p q : Operand) (a b : Option Addr) (w : World) : (eqGuard op t p q (.pointer a) (.pointer b)).run P w = .ok () w := by
  cases op <;> rfl
theorem guard_int {P : Program} (op : BinOp) (t : TypeId) (p q : Operand) (k k' : IntKind) (a b : Int) (w : World) : (eqGuard op t p q (.int k a) (.int k' b)).run P w = .ok () w := by
  cases op <;> rfl
def isStore : Op → Bool
  | .store .. => true
  | .mapUpdate .. => true
  | _ => false
theorem owed_run2 {P : Program} {o : Oper} {ρ : Operand → Value} {w w' : World} {v : Value} (h : owed P o ρ w v w') :
    (execOp ρ o).run P w = .ok (.value v) w' ∨ ((execOp ρ o).run P w = .ok .skip w' ∧ v = undef ∧ isStore o.op = true) := by
  have str : ∀ op t x y p (a b : ByteArray), o.op = .binOp op t x y p → ρ x = .string a → ρ y = .string b → (binOp op t (.string a) (.string b)).run P w = .ok v w' → (execOp ρ o).run P w = .ok (.value v) w' := by
    intro op t x y p a b heq hx hy h
    unfold execOp
    rw [heq]
    refine run_pure_value ?_
    rw [hx, hy]
    unfold eqGuard
    cases op <;> simp [h]
  unfold owed at h
  split at h
  all_goals try (rename_i heq; left; unfold execOp; rw [heq]; exact run_pure_value h)
  all_goals try (rename_i heq; left; unfold execOp; rw [heq]; simp [eqGuard, h]; done)
  · rename_i heq
    split at h
    · rename_i hx hy
      exact .inl (str _ _ _ _ _ _ _ heq hx hy h)
    · rename_i hx hy
      obtain ⟨h1, rfl, rfl⟩ := h
      left; unfold execOp; rw [heq]
      refine run_pure_value ?_
      rw [hx, hy]
      simp only [Sem.run_bind, guard_bool, Result.andThen_ok]
      exact run_eql_bool _ _ _ _ h1
    · rename_i hx hy
      obtain ⟨rfl, rfl, rfl⟩ := h
      left; unfold execOp; rw [heq]
      refine run_pure_value ?_
      rw [hx, hy]
      simp only [Sem.run_bind, guard_int, Result.andThen_ok]
      simp [binOp, Op.intCmp]
    · rename_i hx hy
      left; unfold execOp; rw [heq]
      refine run_pure_value ?_
      rw [hx, hy]
      simp only [Sem.run_bind, run_eqGuard_agg _ _ _ _ _ _ _ h.1, Result.andThen_ok]
      exact h.2
    · rename_i hx hy
      left; unfold execOp; rw [heq]
      refine run_pure_value ?_
      rw [hx, hy]
      simp only [Sem.run_bind, guard_ptr, Result.andThen_ok]
      exact h
    · exact .inl h
  · rename_i heq
    split at h
    · rename_i hx hy
      exact .inl (str _ _ _ _ _ _ _ heq hx hy h)
    · rename_i hx hy
      obtain ⟨h1, rfl, rfl⟩ := h
      left; unfold execOp; rw [heq]
      refine run_pure_value ?_
      rw [hx, hy]
      simp only [Sem.run_bind, guard_bool, Result.andThen_ok]
      exact run_neq_bool _ _ _ _ h1
    · rename_i hx hy
      obtain ⟨rfl, rfl, rfl⟩ := h
      left; unfold execOp; rw [heq]
      refine run_pure_value ?_
      rw [hx, hy]
      simp only [Sem.run_bind, guard_int, Result.andThen_ok]
      simp [binOp, Op.intCmp]
    · rename_i hx hy
      left; unfold execOp; rw [heq]
      refine run_pure_value ?_
      rw [hx, hy]
      simp only [Sem.run_bind, run_eqGuard_agg _ _ _ _ _ _ _ h.1, Result.andThen_ok]
      exact h.2
    · rename_i hx hy
      left; unfold execOp; rw [heq]
      refine run_pure_value ?_
      rw [hx, hy]
      simp only [Sem.run_bind, guard_ptr, Result.andThen_ok]
      exact h
    · exact .inl h
  · rename_i heq
    right
    refine ⟨?_, h.2, by rw [heq]; rfl⟩
    unfold execOp
    simp [heq, h.1]
  · rename_i heq
    right
    refine ⟨?_, h.2, by rw [heq]; rfl⟩
    unfold execOp
    simp [heq, h.1]
  · exact .inl h
theorem owed_run {P : Program} {o : Oper} {ρ : Operand → Value} {w w' : World} {v : Value} (h : owed P o ρ w v w') :
    (execOp ρ o).run P w = .ok (.value v) w' ∨ ((execOp ρ o).run P w = .ok .skip w' ∧ v = undef) := (owed_run2 h).imp id fun h => ⟨h.1, h.2.1⟩

/-- every operand is known -/
def known (l : Sl) : List Operand → Bool
  | [] => true
  | x :: xs => match evalS l x with | some _ => known l xs | none => false

def noSel : Op → Bool
  | .select .. => false
  | _ => true

def wantedS (ops : Array Oper) (l : Sl) (o : Oper) : Option Bool :=
  match o.guard with
  | none => some true
  | some (j, b) =>
    match (ops[j]?).bind (·.dst) with
    | none => none
    | some d => match look l d with
      | some (.bool c) => some (match c, b with | true, true => true | false, false => true | _, _ => false)
      | some (.tuple _) => some false
      | _ => none

/-- the result of a run: what is owed, and where it stands -/
structure Rs where
  obs : List Prop
  k : List Item
  l : Sl
  w : World

def opS (P : Program) (n : Nat) (ops : Array Oper) (rest : List Nat) (k : List Item) (l : Sl) (w : World) (o : Oper) (c : Cmd) : Option (Prop × List Item × Sl × World) :=
  match known l o.op.operands.toList, noSel o.op, inB n o.dst with
  | true, true, true =>
    match c with
    | none => match (execOp (rho l) o).run P w with
      | .ok (.value v) w' => some (True, .inRegion ops rest :: k, putS l o.dst v, w')
      | .ok .skip w' => some (True, .inRegion ops rest :: k, putS l o.dst undef, w')
      | _ => none
    | some (v, none) => some (owed P o (rho l) w v w, .inRegion ops rest :: k, putS l o.dst v, w)
    | some (v, some w') => some (owed P o (rho l) w v w', .inRegion ops rest :: k, putS l o.dst v, w')
  | _, _, _ => none

def stepS (P : Program) (n : Nat) (k : List Item) (l : Sl) (w : World) (c : Cmd) : Option (Prop × List Item × Sl × World) :=
  match k with
  | .code .skip :: k => some (True, k, l, w)
  | .code (.seq x y) :: k => some (True, .code x :: .code y :: k, l, w)
  | .code (.block id c) :: k => some (True, .code c :: .inBlock id :: k, l, w)
  | .code (.loop c) :: k => some (True, .code c :: .inLoop c :: k, l, w)
  | .code (.scope c) :: k => some (True, .code c :: .inScope c :: k, l, w)
  | .code (.label _) :: k => some (True, k, l, w)
  | .code (.exit id) :: k => match exitTo id k with | some k' => some (True, k', l, w) | none => none
  | .code (.region _ ops false) :: k => some (True, .inRegion ops (List.range ops.size) :: k, l, w)
  | .code (.cond c x y) :: k => match evalS l c with | some (.bool true) => some (True, .code x :: k, l, w) | some (.bool false) => some (True, .code y :: k, l, w) | _ => none
  | .inBlock _ :: k => some (True, k, l, w)
  | .inScope _ :: k => some (True, k, l, w)
  | .inLoop c :: k => some (True, .code c :: .inLoop c :: k, l, w)
  | .inRegion _ [] :: k => some (True, k, l, w)
  | .inRegion ops (i :: rest) :: k => match ops[i]? with
    | none => none
    | some o => match wantedS ops l o with
      | some true => opS P n ops rest k l w o c
      | some false => match inB n o.dst with | true => some (True, .inRegion ops rest :: k, putS l o.dst undef, w) | false => none
      | none => none
  | _ => none

/-- the run: a command a step -/
def run (P : Program) (n : Nat) : List Cmd → List Item → Sl → World → Option Rs
  | [], k, l, w => some ⟨[], k, l, w⟩
  | c :: cs, k, l, w => match stepS P n k l w c with
    | none => none
    | some (p, k', l', w') => match run P n cs k' l' w' with
      | none => none
      | some r => some ⟨match c with | none => r.obs | _ => p :: r.obs, r.k, r.l, r.w⟩

/-- the same, the slots at its end struck but for those that are kept -/
def runs (P : Program) (n : Nat) (ts : List Nat) (cs : List Cmd) (k : List Item) (l : Sl) (w : World) : Option Rs :=
  match run P n cs k l w with
  | none => none
  | some r => some ⟨r.obs, r.k, keep r.l ts, r.w⟩

section
variable {P : Program} {f : FuncId} {R : Ending → World → Prop} {n : Nat} {k k' : List Item} {l l' : Sl} {w w' : World}

theorem Fits.eval {a : Act} (h : Fits a n l) {x : Operand} {v : Value} (hx : evalS l x = some v) : a.eval x = v := by
  cases x with
  | tmp t => exact h.get t v hx
  | const u => simp [evalS] at hx; exact hx
  | global g => simp [evalS] at hx; exact hx
  | func g => simp [evalS] at hx; exact hx

theorem known_spec {xs : List Operand} (h : known l xs = true) : ∀ x ∈ xs, ∃ v, evalS l x = some v := by
  induction xs with
  | nil => intro x hx; cases hx
  | cons y ys ih =>
    intro x hx
    unfold known at h
    split at h
    · rename_i v hv
      cases hx with
      | head => exact ⟨v, hv⟩
      | tail _ hm => exact ih h x hm
    · cases h

theorem noSel_spec {o : Op} (h : noSel o = true) : ∀ cs b, o ≠ .select cs b := by
  intro cs b e; subst e; simp [noSel] at h

theorem exec_eq {a : Act} (h : Fits a n l) {o : Oper} (hk : known l o.op.operands.toList = true) (hs : noSel o.op = true) : execOp a.eval o = execOp (rho l) o := by
  refine execOp_congr o (noSel_spec hs) fun x hx => ?_
  obtain ⟨v, hv⟩ := known_spec hk x (by simpa using hx)
  rw [h.eval hv, rho, hv]

theorem wanted_eq {a : Act} (h : Fits a n l) {ops : Array Oper} {o : Oper} {b : Bool} (hw : wantedS ops l o = some b) : Region.wanted o (yielded ops a.tmps) = b := by
  unfold wantedS at hw
  unfold Region.wanted
  split at hw
  · rename_i hg; simp only [hg]; simpa using hw
  · rename_i j c hg
    simp only [hg]
    split at hw
    · cases hw
    · rename_i d hd
      have key : ∀ v, look l d = some v → (∃ b, v = .bool b) ∨ (∃ t, v = .tuple t ∧ t ≠ #[] ∨ v = .tuple t) → a.tmps.getD d undef = v := fun v hv _ => h.get d v hv
      split at hw
      · rename_i x hx
        have hv := h.get d _ hx
        have hy : yielded ops a.tmps j = some x := by
          unfold yielded
          rw [hd]
          simp only [Option.bind_some]
          rw [Array.getD_eq_getD_getElem?] at hv
          cases hq : a.tmps[d]? with
          | none => rw [hq] at hv; simp [undef] at hv
          | some u => rw [hq] at hv; simp at hv; subst hv; rfl
        rw [hy]
        cases x <;> cases c <;> simp_all
      · rename_i x hx
        have hv := h.get d _ hx
        have hy : yielded ops a.tmps j = none := by
          unfold yielded
          rw [hd]
          simp only [Option.bind_some]
          rw [Array.getD_eq_getD_getElem?] at hv
          cases hq : a.tmps[d]? with
          | none => rfl
          | some u => rw [hq] at hv; simp at hv; subst hv; rfl
        rw [hy]
        simp at hw
        subst hw
        rfl
      · cases hw

theorem stepS_goes {c : Cmd} {p : Prop} (h : stepS P n k l w c = some (p, k', l', w')) (hp : p) (hk : GoS P f R n k' l' w') : GoS P f R n k l w := by
  intro a ha
  unfold stepS at h
  split at h
  · simp at h; obtain ⟨-, rfl, rfl, rfl⟩ := h; exact Goes.step (fun _ _ => step_skip) (hk a ha)
  · simp at h; obtain ⟨-, rfl, rfl, rfl⟩ := h; exact Goes.step (fun _ _ => step_seq) (hk a ha)
  · simp at h; obtain ⟨-, rfl, rfl, rfl⟩ := h; exact Goes.step (fun _ _ => step_block) (hk a ha)
  · simp at h; obtain ⟨-, rfl, rfl, rfl⟩ := h; exact Goes.step (fun _ _ => step_loop) (hk a ha)
  · simp at h; obtain ⟨-, rfl, rfl, rfl⟩ := h; exact Goes.step (fun _ _ => step_scope) (hk a ha)
  · simp at h; obtain ⟨-, rfl, rfl, rfl⟩ := h; exact Goes.step (fun _ _ => step_label) (hk a ha)
  · split at h
    · rename_i hx; simp at h; obtain ⟨-, rfl, rfl, rfl⟩ := h; exact Goes.step (fun _ _ => step_exit hx) (hk a ha)
    · cases h
  · simp at h; obtain ⟨-, rfl, rfl, rfl⟩ := h; exact Goes.step (fun _ _ => step_region) (hk a ha)
  · split at h
    · rename_i hx; simp at h; obtain ⟨-, rfl, rfl, rfl⟩ := h
      exact Goes.step (fun _ _ => step_cond (ha.eval hx)) (hk a ha)
    · rename_i hx; simp at h; obtain ⟨-, rfl, rfl, rfl⟩ := h
      exact Goes.step (fun _ _ => step_cond (ha.eval hx)) (hk a ha)
    · cases h
  · simp at h; obtain ⟨-, rfl, rfl, rfl⟩ := h; exact Goes.step (fun _ _ => step_inBlock) (hk a ha)
  · simp at h; obtain ⟨-, rfl, rfl, rfl⟩ := h; exact Goes.step (fun _ _ => step_inScope) (hk a ha)
  · simp at h; obtain ⟨-, rfl, rfl, rfl⟩ := h; exact Goes.step (fun _ _ => step_inLoop) (hk a ha)
  · simp at h; obtain ⟨-, rfl, rfl, rfl⟩ := h; exact Goes.step (fun _ _ => step_region_end) (hk a ha)
  · split at h
    · cases h
    · rename_i ops i rest k0 _ o ho
      split at h
      · rename_i hw
        have hw' := wanted_eq ha hw
        unfold opS at h
        split at h
        · rename_i h1 h2 h3
          have he := exec_eq ha h1 h2
          refine Goes.oper ho hw' ?_
          unfold Oper.wp
          rw [he]
          split at h
          · split at h
            · rename_i v w1 hr
              simp at h; obtain ⟨-, rfl, rfl, rfl⟩ := h
              rw [hr]; exact hk _ (ha.put _ _ h3)
            · rename_i w1 hr
              simp at h; obtain ⟨-, rfl, rfl, rfl⟩ := h
              rw [hr]; exact hk _ (ha.put _ _ h3)
            · cases h
          · rename_i v
            simp only [Option.some.injEq, Prod.mk.injEq] at h; obtain ⟨rfl, rfl, rfl, rfl⟩ := h
            rcases owed_run hp with hr | ⟨hr, rfl⟩ <;> rw [hr] <;> exact hk _ (ha.put _ _ h3)
          · rename_i v w1
            simp only [Option.some.injEq, Prod.mk.injEq] at h; obtain ⟨rfl, rfl, rfl, rfl⟩ := h
            rcases owed_run hp with hr | ⟨hr, rfl⟩ <;> rw [hr] <;> exact hk _ (ha.put _ _ h3)
        · cases h
      · rename_i hw
        have hw' := wanted_eq ha hw
        split at h
        · rename_i h3
          simp at h; obtain ⟨-, rfl, rfl, rfl⟩ := h
          have hs : ∀ (b : Frame) cs, step P (lone (b.at a (.inRegion ops (i :: rest) :: k0)) cs w) = .next (lone (b.at (a.put ((ops[i]?).bind (·.dst)) undef) (.inRegion ops rest :: k0)) cs w) := fun b cs =>
            step_op_skip (by simp [ho, hw'])
          simp only [ho, Option.bind_some] at hs
          exact Goes.step hs (hk _ (ha.put _ _ h3))
        · cases h
      · cases h
  · cases h

theorem run_goes : ∀ {cs : List Cmd} {k : List Item} {l : Sl} {w : World} {r : Rs}, run P n cs k l w = some r → Obs r.obs → GoS P f R n r.k r.l r.w → GoS P f R n k l w
  | [], k, l, w, r, h, _, hk => by simp [run] at h; subst h; exact hk
  | c :: cs, k, l, w, r, h, ho, hk => by
    unfold run at h
    split at h
    · cases h
    · rename_i p k1 l1 w1 hs
      split at h
      · cases h
      · rename_i r1 hr
        simp only [Option.some.injEq] at h
        subst h
        have hp : p ∧ Obs r1.obs := by
          rcases c with _ | ⟨v, _ | w2⟩
          ·
            refine ⟨?_, ho⟩
            have : p = True := by
              clear hr ho hk
              unfold stepS at hs
              repeat' split at hs
              all_goals try contradiction
              all_goals try (simp only [Option.some.injEq, Prod.mk.injEq] at hs; exact hs.1.symm)
              unfold opS at hs
              repeat' split at hs
              all_goals try contradiction
              all_goals try (simp only [Option.some.injEq, Prod.mk.injEq] at hs; exact hs.1.symm)
            rw [this]; trivial
          · exact ho
          · exact ho
        exact stepS_goes hs hp.1 (run_goes hr hp.2 hk)

/-- THE STEP OF A PROOF: a run, what it owes, what stands behind it -/
theorem GoS.run (ts : List Nat) (cs : List Cmd) (ps : List Prop) (k' : List Item) (l' : Sl) (w' : World) (h : runs P n ts cs k l w = some ⟨ps, k', l', w'⟩) (ho : Obs ps) (hk : GoS P f R n k' l' w') : GoS P f R n k l w := by
  unfold runs at h
  split at h
  · cases h
  · rename_i r hr
    simp only [Option.some.injEq, Rs.mk.injEq] at h
    obtain ⟨rfl, rfl, rfl, rfl⟩ := h
    exact run_goes hr ho (hk.weak ts)

/-- a function's code; a part of it; a region's operations -/
def cd (fn : Func) : Code := match fn.body with | some c => c | none => .skip
def csub : Code → List Nat → Code
  | c, [] => c
  | .seq a b, i :: r => csub (match i with | 0 => a | _ => b) r
  | .cond _ a b, i :: r => csub (match i with | 0 => a | _ => b) r
  | .block _ a, _ :: r => csub a r
  | .loop a, _ :: r => csub a r
  | .scope a, _ :: r => csub a r
  | c, _ => c
def cops : Code → Array Oper
  | .region _ ops _ => ops
  | _ => #[]

/-- a test -/
def condS (k : List Item) (l : Sl) : Option (Bool × List Item × List Item) :=
  match k with
  | .code (.cond c x y) :: r => match evalS l c with
    | some (.bool b) => some (b, .code x :: r, .code y :: r)
    | _ => none
  | _ => none
theorem GoS.cond (b : Bool) (k1 k2 : List Item) (hc : condS k l = some (b, k1, k2)) (ht : b = true → GoS P f R n k1 l w) (hf : b = false → GoS P f R n k2 l w) : GoS P f R n k l w := by
  intro a ha
  unfold condS at hc
  split at hc
  · split at hc
    · rename_i hx
      simp only [Option.some.injEq, Prod.mk.injEq] at hc
      obtain ⟨rfl, rfl, rfl⟩ := hc
      rename_i b
      cases b with
      | true => exact Goes.step (fun _ _ => step_cond (t := true) (ha.eval hx)) (ht rfl a ha)
      | false => exact Goes.step (fun _ _ => step_cond (t := false) (ha.eval hx)) (hf rfl a ha)
    · cases hc
  · cases hc


theorem GoS.cast {l l' : Sl} (h : l' = l) (hk : GoS P f R n k l w) : GoS P f R n k l' w := h ▸ hk
theorem GoS.castw {w w' : World} (h : w' = w) (hk : GoS P f R n k l w) : GoS P f R n k l w' := h ▸ hk

/-- a Bool that a slot holds, parted -/
theorem GoS.fork (t : Nat) (b : Bool) (hc : look l t = some (.bool b)) (ht : b = true → GoS P f R n k ((t, .bool true) :: l) w) (hf : b = false → GoS P f R n k ((t, .bool false) :: l) w) :
    GoS P f R n k l w := by
  have key : ∀ c : Bool, b = c → GoS P f R n k ((t, .bool c) :: l) w → GoS P f R n k l w := by
    intro c e h a ha
    subst e
    refine h a ⟨ha.defers, ha.size, fun u v hv => ?_⟩
    unfold look at hv
    by_cases e : Nat.beq t u = true
    · simp only [e, cond_true, Option.some.injEq] at hv
      have : t = u := Nat.eq_of_beq_eq_true e
      subst this; subst hv
      exact ha.get _ _ hc
    · simp only [e, cond_false] at hv
      exact ha.get _ _ hv
  cases b with
  | true => exact key true rfl (ht rfl)
  | false => exact key false rfl (hf rfl)

/-- a call: which function, its arguments, where its value goes -/
structure Cl where
  g : FuncId
  args : Array Value
  dst : Option Tmp
  k : List Item
  l : Sl
  w : World
def callS (P : Program) (n : Nat) (ts : List Nat) (k : List Item) (l : Sl) (w : World) : Option Cl :=
  match k with
  | .inRegion ops (i :: rest) :: k => match ops[i]? with
    | none => none
    | some o => match wantedS ops l o, known l o.op.operands.toList, noSel o.op, inB n o.dst with
      | some true, true, true, true => match (execOp (rho l) o).run P w with
        | .ok (.enter g args) w' => some ⟨g, args, o.dst, .inRegion ops rest :: k, keep l ts, w'⟩
        | _ => none
      | _, _, _, _ => none
  | _ => none

theorem GoS.call (ts : List Nat) (g : FuncId) (args : Array Value) (dst : Option Tmp) (k' : List Item) (l' : Sl) {w' : World} (h : callS P n ts k l w = some ⟨g, args, dst, k', l', w'⟩)
    {S : Ending → World → Prop} (hc : Calls P g args w' S) (hk : ∀ e w'', S e w'' → ∃ v, e = .returned v ∧ GoS P f R n k' (putS l' dst v) w'') : GoS P f R n k l w := by
  intro a ha
  unfold callS at h
  split at h
  · split at h
    · cases h
    · rename_i ops i rest k0 _ o ho
      split at h
      · rename_i h0 h1 h2 h3
        split at h
        · rename_i g' args' w1 hr
          simp only [Option.some.injEq, Cl.mk.injEq] at h
          obtain ⟨rfl, rfl, rfl, rfl, rfl, rfl⟩ := h
          refine Goes.oper ho (wanted_eq ha h0) ?_
          unfold Oper.wp
          rw [exec_eq ha h1 h2, hr]
          show Calls P _ _ _ _
          refine hc.mono fun e w'' hS => ?_
          obtain ⟨v, rfl, hg⟩ := hk e w'' hS
          exact hg _ ((ha.keep ts).put _ _ h3)
        · cases h
      · cases h
  · cases h

def resS : List ResultVar → Sl → Option (List Value)
  | [], _ => some []
  | .tmp t :: r, l => match look l t, resS r l with
    | some v, some vs => some (v :: vs)
    | _, _ => none
  | .cell _ _ :: _, _ => none
def oneOf : List Value → Value
  | [v] => v
  | vs => .tuple vs.toArray
def retS (fn : Func) (l : Sl) : Option Value := match resS fn.results.toList l with | some vs => some (oneOf vs) | none => none

def oneRes (tmps : Array Value) : ResultVar → Sem Value
  | .tmp t => pure (tmps.getD t undef)
  | .cell a t => do loadVar t (← asAddr (tmps.getD a undef))
theorem resS_run {a : Act} (ha : Fits a n l) : ∀ {rs : List ResultVar} {vs : List Value}, resS rs l = some vs → (rs.mapM (oneRes a.tmps)).run P w = .ok vs w
  | [], vs, h => by simp [resS] at h; subst h; simp
  | .tmp t :: r, vs, h => by
    unfold resS at h
    split at h
    · rename_i v us hv hu
      simp only [Option.some.injEq] at h
      subst h
      have := resS_run ha hu
      have hg := ha.get t v hv
      simp only [List.mapM_cons, oneRes, Sem.run_bind, this, Sem.run_pure, Result.andThen_ok, hg]
    · cases h
  | .cell c t :: r, vs, h => by simp [resS] at h

theorem results_run {fn : Func} {a : Act} (ha : Fits a n l) {v : Value} (h : retS fn l = some v) : (results fn a.tmps).run P w = .ok v w := by
  unfold retS at h
  split at h
  · rename_i vs hvs
    simp only [Option.some.injEq] at h
    subst h
    have h1 := resS_run (P := P) (w := w) ha hvs
    have h2 : results fn a.tmps = (do let vs ← fn.results.mapM (oneRes a.tmps); pure (if h : vs.size = 1 then vs[0] else .tuple vs)) := rfl
    rw [h2]
    have h3 : fn.results.mapM (oneRes a.tmps) = (do let vs ← fn.results.toList.mapM (oneRes a.tmps); pure vs.toArray) := by
      rw [Array.mapM_eq_mapM_toList]
      rfl
    rw [h3]
    simp only [Sem.run_bind, h1, Result.andThen_ok, Sem.run_pure]
    match vs with
    | [] => rfl
    | [v] => rfl
    | v :: u :: r => simp [oneOf]
  · cases h

theorem GoS.ret {fn : Func} {v : Value} (hf : P.funcs[f]? = some fn) (hr : retS fn l = some v) (hR : R (.returned v) w) : GoS P f R n (.code .ret :: k) l w :=
  fun _ ha => Goes.ret hf ha.defers (results_run ha hr) hR
theorem GoS.fin {fn : Func} {v : Value} (hf : P.funcs[f]? = some fn) (hr : retS fn l = some v) (hR : R (.returned v) w) : GoS P f R n [] l w :=
  fun _ ha => Goes.fin hf ha.defers (results_run ha hr) hR

def initS : List Value → Nat → Sl
  | [], _ => []
  | v :: vs, i => (i, v) :: initS vs (i + 1)
theorem look_init : ∀ {vs : List Value} {i t : Nat} {v : Value}, look (initS vs i) t = some v → i ≤ t ∧ vs[t - i]? = some v
  | [], i, t, v, h => by simp [initS, look] at h
  | u :: us, i, t, v, h => by
    simp only [initS, look] at h
    by_cases e : Nat.beq i t = true
    · simp only [e, cond_true, Option.some.injEq] at h
      have : i = t := Nat.eq_of_beq_eq_true e
      subst this; subst h
      simp
    · simp only [e, cond_false] at h
      obtain ⟨h1, h2⟩ := look_init h
      refine ⟨by omega, ?_⟩
      rw [show t - i = (t - (i + 1)) + 1 by omega, List.getElem?_cons_succ]
      exact h2

theorem GoS.enter {fn : Func} {args : Array Value} {n : Nat} (hf : P.funcs[f]? = some fn) (hb : fn.body = some (cd fn)) (hn : fn.ntmps = n) (l : Sl) (hl : initS args.toList 0 = l)
    (hsz : Nat.ble args.size n = true) (h : GoS P f R n [.code (cd fn)] l w) : Calls P f args w R := by
  refine Goes.calls hf hb (h _ ⟨rfl, ?_, fun t v hv => ?_⟩)
  · have := Nat.le_of_ble_eq_true hsz
    simp [hn]; omega
  · subst hl
    obtain ⟨-, h2⟩ := look_init hv
    have h3 : t < args.toList.length := (List.getElem?_eq_some_iff.1 h2).1
    simp only [Array.length_toList] at h3
    simp only [Nat.sub_zero, Array.getElem?_toList] at h2
    rw [Array.getD_eq_getD_getElem?, Array.getElem?_append_left h3, h2]
    rfl

/-! ### a region that draws its order and only reads -/

/-- what is owed for a call that leaves a world of the class -/
def callOwed (P : Program) (C : World → Prop) (v : Value) (W : World) : Result Next → Prop
  | .ok (.enter g args) W' => W' = W ∧ Calls P g args W (fun e W'' => e = .returned v ∧ C W'')
  | _ => False
def isCall : Op → Bool
  | .call { callee := .value _, .. } => true
  | _ => false

/-- the operations in the text's order, in a world W; each leaves the world as it is: what is owed, what is reckoned, the slots -/
def quietS (P : Program) (n : Nat) (C : World → Prop) (ops : Array Oper) (W : World) : List Cmd → List Oper → Sl → Option (List Prop × List (Result Next × Value) × Sl)
  | _, [], l => some ([], [], l)
  | cs, o :: os, l =>
    match inB n o.dst with
    | false => none
    | true => match wantedS ops l o with
      | none => none
      | some false => quietS P n C ops W cs os (putS l o.dst undef)
      | some true => match known l o.op.operands.toList, noSel o.op, cs with
        | true, true, some (v, some _) :: cs => match quietS P n C ops W cs os (putS l o.dst v) with
            | some (ps, rs, l') => some (ps, ((execOp (rho l) o).run P W, v) :: rs, l')
            | none => none
        | true, true, some (v, none) :: cs => match quietS P n C ops W cs os (putS l o.dst v) with
            | some (ps, rs, l') => some ((match isCall o.op with | true => callOwed P C v W ((execOp (rho l) o).run P W) | false => owed P o (rho l) W v W) :: ps, rs, l')
            | none => none
        | _, _, _ => none

theorem quietAt_run {o : Oper} {a : Act} {C : World → Prop} {W : World} {v : Value} (h : (execOp a.eval o).run P W = .ok (.value v) W ∨ ((execOp a.eval o).run P W = .ok .skip W ∧ v = undef)) : o.quietAt P a C W v := by
  unfold Oper.quietAt
  rcases h with h | ⟨h, rfl⟩ <;> rw [h]
  · exact ⟨rfl, rfl⟩
  · exact ⟨rfl, rfl⟩

theorem quietS_wp {C : World → Prop} (w : World) {ops : Array Oper} {Q : Act → Prop} : ∀ (os : List Oper) (cs : List Cmd) (l : Sl) (ps : World → List Prop) (rs : World → List (Result Next × Value)) (l' : Sl) (a : Act), Fits a n l →
    (∀ W, quietS P n C ops W cs os l = some (ps W, rs W, l')) → (∀ W, C W → Obs (ps W)) → (∀ W, C W → ∀ r ∈ rs W, r.1 = .ok (.value r.2) W) →
    (∀ a, Fits a n l' → Q a) → wpQuiet P ops C Q os a
  | [], cs, l, ps, rs, l', a, ha, h, _, _, hQ => by
    have := h w
    simp only [quietS, Option.some.injEq, Prod.mk.injEq] at this
    exact hQ a (this.2.2 ▸ ha)
  | o :: os, cs, l, ps, rs, l', a, ha, h, ho, hr, hQ => by
    have h0 := h w
    unfold quietS at h0
    split at h0
    · cases h0
    · rename_i hd
      split at h0
      · cases h0
      · rename_i hw
        have hw' := wanted_eq ha hw
        unfold wpQuiet
        rw [if_neg (by rw [hw']; simp)]
        refine quietS_wp w os cs (putS l o.dst undef) ps rs l' (a.put o.dst undef) (ha.put _ _ hd) (fun W => ?_) ho hr hQ
        have hW := h W
        unfold quietS at hW
        simp only [hd, hw] at hW
        exact hW
      · rename_i hw
        have hw' := wanted_eq ha hw
        split at h0
        · rename_i v w2 cs' h1 h2
          unfold wpQuiet
          rw [if_pos hw']
          have he := exec_eq ha h1 h2
          have key : ∀ W, ∃ ps' rs', quietS P n C ops W cs' os (putS l o.dst v) = some (ps', rs', l') ∧ ps W = ps' ∧ rs W = ((execOp (rho l) o).run P W, v) :: rs' := by
            intro W
            have hW := h W
            unfold quietS at hW
            simp only [hd, hw, h1, h2] at hW
            cases hq : quietS P n C ops W cs' os (putS l o.dst v) with
            | none => rw [hq] at hW; cases hW
            | some t =>
              rw [hq] at hW
              obtain ⟨a1, a2, a3⟩ := t
              simp only [Option.some.injEq, Prod.mk.injEq] at hW
              exact ⟨a1, a2, by rw [hW.2.2], hW.1.symm, hW.2.1.symm⟩
          refine ⟨v, fun W hW => ?_, quietS_wp w os cs' (putS l o.dst v) ps (fun W => (rs W).tail) l' (a.put o.dst v) (ha.put _ _ hd) (fun W => ?_) ho (fun W hW r hm => hr W hW r (List.mem_of_mem_tail hm)) hQ⟩
          · obtain ⟨ps', rs', _, _, e⟩ := key W
            have := hr W hW ((execOp (rho l) o).run P W, v) (by rw [e]; exact List.mem_cons_self ..)
            exact quietAt_run (.inl (by rw [he]; exact this))
          · obtain ⟨ps', rs', e1, e2, e3⟩ := key W
            rw [e1, e2, e3]; rfl
        · rename_i v cs' h1 h2
          unfold wpQuiet
          rw [if_pos hw']
          have he := exec_eq ha h1 h2
          have key : ∀ W, ∃ ps' rs', quietS P n C ops W cs' os (putS l o.dst v) = some (ps', rs', l') ∧ ps W = (match isCall o.op with | true => callOwed P C v W ((execOp (rho l) o).run P W) | false => owed P o (rho l) W v W) :: ps' ∧ rs W = rs' := by
            intro W
            have hW := h W
            unfold quietS at hW
            simp only [hd, hw, h1, h2] at hW
            cases hq : quietS P n C ops W cs' os (putS l o.dst v) with
            | none => rw [hq] at hW; cases hW
            | some t =>
              rw [hq] at hW
              obtain ⟨a1, a2, a3⟩ := t
              simp only [Option.some.injEq, Prod.mk.injEq] at hW
              exact ⟨a1, a2, by rw [hW.2.2], hW.1.symm, hW.2.1.symm⟩
          refine ⟨v, fun W hW => ?_, quietS_wp w os cs' (putS l o.dst v) (fun W => (ps W).tail) rs l' (a.put o.dst v) (ha.put _ _ hd) (fun W => ?_) (fun W hW => ?_) hr hQ⟩
          · obtain ⟨ps', rs', _, e, _⟩ := key W
            have hO := ho W hW
            rw [e] at hO
            have hp := hO.1
            cases hc : isCall o.op with
            | false =>
              simp only [hc] at hp
              exact quietAt_run (by rw [he]; exact owed_run hp)
            | true =>
              simp only [hc] at hp
              unfold Oper.quietAt
              rw [he]
              unfold callOwed at hp
              split at hp
              · rename_i g args W' hrun
                obtain ⟨rfl, hcall⟩ := hp
                rw [hrun]
                exact ⟨rfl, hcall⟩
              · exact hp.elim
          · obtain ⟨ps', rs', e1, e2, e3⟩ := key W
            rw [e1, e2, e3]; rfl
          · obtain ⟨ps', rs', e1, e2, e3⟩ := key W
            have hO := ho W hW
            rw [e2] at hO ⊢
            exact hO.2
        · cases h0

/-- A REGION THAT DRAWS ITS ORDER, each operation of which yields one value in all worlds of a class and stays in it: one walk in the text's order. -/
theorem GoS.drawC {c : Code} (C : World → Prop) (id : Nat) (hc : c = .region id (cops c) true) (ts : List Nat) (cs : List Cmd) (ps : World → List Prop) (vs : List (Value × Value)) (l' : Sl) (hm : P.follows .mixedOrders = true) (hB : Region.lexB .any (cops c) = true)
    (l0 : Sl) (h : ∀ W, quietS P n C (cops c) W cs (cops c).toList l = some (ps W, vs.map (fun p => (.ok (.value p.1) W, p.2)), l0)) (hk0 : keep l0 ts = l') (hv : Obs (vs.map fun p => p.1 = p.2))
    (hC : C (w.drewN 1)) (ho : ∀ W, C W → Obs (ps W)) (hk : ∀ W, C W → GoS P f R n k l' W) : GoS P f R n (.code c :: k) l w := by
  intro a ha
  have hv' : ∀ p ∈ vs, p.1 = p.2 := by
    clear h
    induction vs with
    | nil => intro p hp; cases hp
    | cons x vs ih =>
      intro p hp
      cases hp with
      | head => exact hv.1
      | tail _ hp => exact ih hv.2 p hp
  have key : Goes P f R (.code (.region id (cops c) true) :: k) a w := by
    refine Goes.wp (wp_region_quiet (C := C) hm hB hC ?_)
    refine quietS_wp w (cops c).toList cs l ps _ l0 a ha h (fun W hW => ho W hW) (fun W _ r hr => ?_) (fun a' ha' W hW => ?_)
    · obtain ⟨p, hp, rfl⟩ := List.mem_map.1 hr
      simp only [hv' p hp]
    · refine ⟨rfl, hk W hW a' ?_⟩
      have := ha'.keep ts
      rwa [hk0] at this
  rwa [← hc] at key

end
/-- the items of a stack, by a function and a path into its code -/
abbrev iC (f : Func) (p : List Nat) : Item := .code (csub (cd f) p)
abbrev iL (f : Func) (p : List Nat) : Item := .inLoop (csub (cd f) p)
end Go.Gw
